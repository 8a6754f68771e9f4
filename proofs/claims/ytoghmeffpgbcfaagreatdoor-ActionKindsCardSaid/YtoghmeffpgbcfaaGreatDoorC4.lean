/-
Parts of the proof, in build order: RefDone, Px0, Px1, Px, Ref2May, PuCom, NumW, RatW, DecW, DecL, Small, ActS, ActDay, GcdS, NatGcd, NumGcd, Py0, Py1, Py2, Py, RatApi, RatDone, DecB, Ref2Done, RefGcd, Pz0, Pz1, Pz2, Pz3, Pz4, Pz, Ref3Api, Ref3Done, NumR0, Lib4w, Pd0, Pd1, Pd2, Pd3, Pd, DecApi, DecDone.
-/
import Derived.Test.YtoghmeffpgbcfaaGreatDoorC3
import Derived.Test.YtoghmeffpgbcfaaGreatDoorProg
import Derived.Below
import Derived.Deep.Draws
import Derived.Deep.AppendLies
import Derived.Maps.AppendAt
import Derived.OwnWalk
import Derived.Laws.BytesArg
import Derived.Laws.MakeOwn
import Derived.Laws.OwnMore
import Derived.Deep.OwnRows
import Derived.Tactics
import Derived.Lib.ConvBytes
import Derived.Laws.Slices
import Derived.WalkKit
import Derived.KernelRfl
import Derived.RowKit3
import Derived.Deep.LoopGhost
import Derived.Deep.QuietTactic
import Derived.BigQuiet
import Derived.WideLaws
import Derived.Deep.DeepCutAuto
import Derived.Deep.CutBlock
import Derived.Deep.RegionHeld3
import Derived.Laws.Rows
import Derived.Lib.AppendStr
import Derived.ArgAppend
import Derived.Laws.IdiomCopy
import Derived.OrdersHeld
import Derived.Laws.BitsLemmas
import Derived.RowKit
import Derived.Test.YtoghmeffpgbcfaaGreatDoorC0
import Derived.Test.YtoghmeffpgbcfaaGreatDoorC1
import Derived.Lib.SlTrimSet
import Derived.Lib.IndexMore
import Derived.Lib.IndexBytes
import Derived.Test.YtoghmeffpgbcfaaGreatDoorC2
import Derived.Lib.Split
import Derived.Lib.Join
set_option linter.unusedVariables false
set_option linter.unusedSimpArgs false
open Go.RowKit Go.Proofs.YtoghmeffpgbcfaaGreatDoorW.PrintWords Go.Proofs.YtoghmeffpgbcfaaGreatDoorW.PrintLast Go.Proofs.YtoghmeffpgbcfaaGreatDoorW.PrintMore
section
namespace Go.Proofs.YtoghmeffpgbcfaaGreatDoor
def r1_Of.f (a0:Int):Option ByteArray:=if -9223372036854775808≤a0∧a0≤9223372036854775807 then some (ofS a0) else none
theorem r1_Of.calls (a0:Int) (r:ByteArray) (w:World) (h:r1_Of.f a0=some r) :
  Calls Tryz.prog 36 #[.int .i64 a0] w fun e w'=>e=.returned (.string r)∧Below w.heap.size w w':=by
 unfold r1_Of.f at h
 split at h
 ·rename_i hp
  rw[← rof_f a0 hp.2 _ (Nat.le_refl _)] at h
  exact(Pq.r1_Of.calls _ a0 r w h).mono fun e w' ⟨he,hw⟩=>⟨he,drawn_below hw⟩
 ·cases h
def r1_Cmp.f (a0 a1:ByteArray):Option Int:=if sm2 a0 a1=true then some (cmpS a0 a1) else none
theorem r1_Cmp.calls (a0 a1:ByteArray) (r:Int) (w:World) (h:r1_Cmp.f a0 a1=some r) :
  Calls Tryz.prog 45 #[.string a0,.string a1] w fun e w'=>e=.returned (.int .i64 r)∧Below w.heap.size w w':=by
 unfold r1_Cmp.f at h
 split at h
 ·rename_i hp
  rw[← rcmp_f (N:=50000) (by omega) (sm_le (and2 hp).1) (sm_le (and2 hp).2) _ (Nat.le_refl _)] at h
  exact(Pq.r1_Cmp.calls _ a0 a1 r w h).mono fun e w' ⟨he,hw⟩=>⟨he,drawn_below hw⟩
 ·cases h
def r1_Add.f (a0 a1:ByteArray):Option ByteArray:=if sm2 a0 a1=true then some (addS a0 a1) else none
theorem r1_Add.calls (a0 a1:ByteArray) (r:ByteArray) (w:World) (h:r1_Add.f a0 a1=some r) :
  Calls Tryz.prog 71 #[.string a0,.string a1] w fun e w'=>e=.returned (.string r)∧Below w.heap.size w w':=by
 unfold r1_Add.f at h
 split at h
 ·rename_i hp
  rw[← radd_f (N:=50000) (by omega) (sm_le (and2 hp).1) (sm_le (and2 hp).2) _ (Nat.le_refl _)] at h
  exact Pq.r1_Add.calls _ a0 a1 r w h
 ·cases h
def r1_Sub.f (a0 a1:ByteArray):Option (ByteArray×Bool):=if sm2 a0 a1=true then some (subS a0 a1) else none
theorem r1_Sub.calls (a0 a1:ByteArray) (r1:ByteArray) (r2:Bool) (w:World) (h:r1_Sub.f a0 a1=some (r1,r2)) :
  Calls Tryz.prog 117 #[.string a0,.string a1] w fun e w'=>e=.returned (.tuple #[.string r1,.bool r2])∧Below w.heap.size w w':=by
 unfold r1_Sub.f at h
 split at h
 ·rename_i hp
  rw[← rsub_f (N:=50000) (by omega) (sm_le (and2 hp).1) (sm_le (and2 hp).2) _ (Nat.le_refl _)] at h
  exact Pq.r1_Sub.calls _ a0 a1 r1 r2 w h
 ·cases h
def r1_Div.f (a0 a1:ByteArray):Option (ByteArray×ByteArray×Bool):=if sm2 a0 a1=true then some (divS a0 a1) else none
theorem r1_Div.calls (a0 a1:ByteArray) (r1 r2:ByteArray) (r3:Bool) (w:World) (h:r1_Div.f a0 a1=some (r1,r2,r3)) :
  Calls Tryz.prog 112 #[.string a0,.string a1] w fun e w'=>e=.returned (.tuple #[.string r1,.string r2,.bool r3])∧Below w.heap.size w w':=by
 unfold r1_Div.f at h
 split at h
 ·rename_i hp
  rw[← rdiv_f (N:=50000) (by omega) (sm_le (and2 hp).1) (sm_le (and2 hp).2) _ (Nat.le_refl _)] at h
  exact Pq.r1_Div.calls _ a0 a1 r1 r2 r3 w h
 ·cases h
end Go.Proofs.YtoghmeffpgbcfaaGreatDoor
end

attribute [local go_sem] max2_int min2_int max_two min_two max_three min_three max_four min_four   -- for this text's walks alone
section
namespace Go.Proofs.YtoghmeffpgbcfaaGreatDoor.Px
def errW:Option Int→Value
 | none=>.nilIface
 | some c=>.iface 0 (.int .i64 c)
theorem errW_none:errW none=.nilIface:=rfl
theorem errW_some (c:Int):errW (some c)=.iface 0 (.int .i64 c):=rfl
end Go.Proofs.YtoghmeffpgbcfaaGreatDoor.Px
end

section
namespace Go.Proofs.YtoghmeffpgbcfaaGreatDoor.Px
def r2_amount.f (a0:ByteArray):Option (ByteArray×Bool):=if (a0.size:Int)>0 then (if 0<(a0.size:Int) then (if (bt a0 0)=45 then (if 1≤(a0.size:Int) then (some (a0.extract 1 a0.size,true)) else (none)) else (some (a0,false))) else (none)) else (some (a0,false))
set_option maxHeartbeats 8000000 in
set_option maxRecDepth 100000 in
theorem r2_amount.calls (a0:ByteArray) (r1:ByteArray) (r2:Bool) (w:World) (h:r2_amount.f a0=some (r1,r2)) :
  Calls Tryz.prog 88 #[.string a0] w fun e w'=>e=.returned (.tuple #[.string r1,.bool r2])∧Drawn0 w w':=by
 have H:=h;unfold r2_amount.f at H;clear h;by_cases c2:(a0.size:Int)>0
 ·rw[if_pos c2] at H;have c2b0:decide (0<(a0.size:Int))=true:=decide_eq_true c2;have c2b1:decide (0<a0.size)=true:=decide_eq_true (by omega);clear c2;by_cases c3:0<(a0.size:Int)
  ·rw[if_pos c3] at H;have c3b0:decide (0<(a0.size:Int))=true:=decide_eq_true c3;have c3b1:decide (0<a0.size)=true:=decide_eq_true (by omega);clear c3;by_cases c5:(bt a0 0)=45
   ·rw[if_pos c5] at H;have c5b0:((bt a0 0) == 45)=true:=beq_iff_eq.mpr c5;have c5b1:((bt a0 0) != 45)=false:=bne_eq_false_iff_eq.mpr c5;clear c5;by_cases c6:1≤(a0.size:Int)
    ·rw[if_pos c6] at H;have c6b0:=eq_true c6;have c6b1:decide (1≤(a0.size:Int))=true:=decide_eq_true c6;clear c6;simp only[Option.some.injEq,Prod.mk.injEq] at H;obtain⟨rfl,rfl⟩:=H;have p4:0≤(0:Int):=(by omega);have q4:0<a0.size:=(by have:(0:Int)<(a0.size:Int):=of_decide_eq_true as_f;omega);have hx4:∀ h:0<a0.size,((a0[0]'h).toNat:Int)=bt a0 0:=bt_at a0 0;clear p4;have qi4:(0<(a0.size:Int))=True:=eq_true (of_decide_eq_true as_f);replace q4:=eq_true q4;go_enter Tryz.func88,Tryz.ntmps88;go_wp2;go_ret2;exact⟨by first|rfl|(simp;done)|(simp[*];done),d0_⟩
    ·rw[if_neg c6] at H;exact absurd H (by simp)
   ·rw[if_neg c5] at H;have c5b0:((bt a0 0) == 45)=false:=beq_eq_false_iff_ne.mpr c5;have c5b1:((bt a0 0) != 45)=true:=bne_iff_ne.mpr c5;simp only[Option.some.injEq,Prod.mk.injEq] at H;obtain⟨rfl,rfl⟩:=H;have p4:0≤(0:Int):=(by omega);have q4:0<a0.size:=(by have:(0:Int)<(a0.size:Int):=of_decide_eq_true as_f;omega);have hx4:∀ h:0<a0.size,((a0[0]'h).toNat:Int)=bt a0 0:=bt_at a0 0;clear p4;have qi4:(0<(a0.size:Int))=True:=eq_true (of_decide_eq_true as_f);replace q4:=eq_true q4;go_enter Tryz.func88,Tryz.ntmps88;go_wp2;go_ret2;exact⟨by first|rfl|(simp;done)|(simp[*];done),d0_⟩
  ·rw[if_neg c3] at H;exact absurd H (by simp)
 ·rw[if_neg c2] at H;have c2b0:decide (0<(a0.size:Int))=false:=decide_eq_false c2;have c2b1:decide (0<a0.size)=false:=decide_eq_false (by omega);clear c2;simp only[Option.some.injEq,Prod.mk.injEq] at H;obtain⟨rfl,rfl⟩:=H;go_enter Tryz.func88,Tryz.ntmps88;go_wp2;go_ret2;exact⟨by first|rfl|(simp;done)|(simp[*];done),d0_⟩
def r2_May.f (a0:ByteArray):Option (Bool):=(r2_amount.f a0).bind fun bt101=>((r1_May.f bt101.1).bind fun t103=>(if t103=true then (if bt101.2=true then (some (bt101.1.toList != ([48]:List UInt8))) else (some true)) else (some false)))
set_option maxHeartbeats 8000000 in
set_option maxRecDepth 100000 in
theorem r2_May.calls (a0:ByteArray) (r:Bool) (w:World) (h:r2_May.f a0=some r) :
  Calls Tryz.prog 72 #[.string a0] w fun e w'=>e=.returned (.bool r)∧Below w.heap.size w w':=by
 have HB:=Aside0.mk (Below.refl w.heap.size w);have H:=h;unfold r2_May.f at H;clear h;obtain⟨⟨t101,t102⟩,A2,H⟩:=bi_ H;(try dsimp only at H);obtain⟨t103,A3,H⟩:=bi_ H;by_cases c4:t103=true
 ·subst c4;rw[if_pos rfl] at H;by_cases c5:t102=true
  ·subst c5;rw[if_pos rfl] at H;obtain rfl:=Option.some.inj H;go_enter Tryz.func72,Tryz.ntmps72
   go_wp2_with (first|(refine gl_ 7 Tryz.func88 #[.string a0] ?_;refine mo_ (r2_amount.calls a0 t101 true _ A2.out) ?_;rintro w' ⟨nd,rfl⟩)|(refine gl_ 11 Tryz.func44 #[.string t101] ?_;refine mo_ (r1_May.calls t101 true _ A3.out) ?_;intro w6 hb;replace HB:=bs_ HB hb;(try clear hb);(try clear hb2);(try clear hk);(try clear hi)))
   go_ret
   exact⟨er_,b_ HB.out⟩
  ·replace c5:=Bool.eq_false_iff.mpr c5;subst c5;rw[if_neg nf_] at H;obtain rfl:=Option.some.inj H;go_enter Tryz.func72,Tryz.ntmps72
   go_wp2_with (first|(refine gl_ 7 Tryz.func88 #[.string a0] ?_;refine mo_ (r2_amount.calls a0 t101 false _ A2.out) ?_;rintro w' ⟨nd,rfl⟩)|(refine gl_ 11 Tryz.func44 #[.string t101] ?_;refine mo_ (r1_May.calls t101 true _ A3.out) ?_;intro w7 hb;replace HB:=bs_ HB hb;(try clear hb);(try clear hb2);(try clear hk);(try clear hi)))
   go_ret
   exact⟨er_,b_ HB.out⟩
 ·replace c4:=Bool.eq_false_iff.mpr c4;subst c4;rw[if_neg nf_] at H;obtain rfl:=Option.some.inj H;go_enter Tryz.func72,Tryz.ntmps72
  go_wp2_with (first|(refine gl_ 7 Tryz.func88 #[.string a0] ?_;refine mo_ (r2_amount.calls a0 t101 t102 _ A2.out) ?_;rintro w' ⟨nd,rfl⟩)|(refine gl_ 11 Tryz.func44 #[.string t101] ?_;refine mo_ (r1_May.calls t101 false _ A3.out) ?_;intro w8 hb;replace HB:=bs_ HB hb;(try clear hb);(try clear hb2);(try clear hk);(try clear hi)))
  go_ret
  exact⟨er_,b_ HB.out⟩
def r2_Of.f (a0:Int):Option (ByteArray):=if a0<0 then ((r1_Of.f (wrap64 (-(wrap64 (a0+1))))).bind fun t104=>((r1_Add.f t104 (⟨#[49]⟩:ByteArray)).bind fun t105=>(if 1+t105.size≤9223372036854775807 then (some ((⟨#[45]⟩:ByteArray)++t105)) else (none)))) else ((r1_Of.f a0).bind fun t106=>(some t106))
set_option maxHeartbeats 8000000 in
set_option maxRecDepth 100000 in
theorem r2_Of.calls (a0:Int) (r:ByteArray) (w:World) (h:r2_Of.f a0=some r) :
  Calls Tryz.prog 38 #[.int .i64 a0] w fun e w'=>e=.returned (.string r)∧Below w.heap.size w w':=by
 have HB:=Aside0.mk (Below.refl w.heap.size w);have H:=h;unfold r2_Of.f at H;clear h;by_cases c2:a0<0
 ·rw[if_pos c2] at H;have c2b0:decide (a0<0)=true:=decide_eq_true c2;clear c2;obtain⟨t104,A3,H⟩:=bi_ H;obtain⟨t105,A4,H⟩:=bi_ H;by_cases c5:1+t105.size≤9223372036854775807
  ·rw[if_pos c5] at H;have c5b0:=eq_true c5;have c5b1:decide (1+t105.size≤9223372036854775807)=true:=decide_eq_true c5
   try have c5b2:(9223372036854775807<1+t105.size)=False:=eq_false (Nat.not_lt.2 c5)
   obtain rfl:=Option.some.inj H;go_enter Tryz.func38,Tryz.ntmps38
   go_wp2_with (first|(refine gl_ 8 Tryz.func36 #[.int .i64 (wrap64 (-(wrap64 (a0+1))))] ?_;refine mo_ (r1_Of.calls (wrap64 (-(wrap64 (a0+1)))) t104 _ A3.out) ?_;intro w6 hb;replace HB:=bs_ HB hb;(try clear hb);(try clear hb2);(try clear hk);(try clear hi))|(refine gl_ 9 Tryz.func71 #[.string t104,.string (⟨#[49]⟩:ByteArray)] ?_;refine mo_ (r1_Add.calls t104 (⟨#[49]⟩:ByteArray) t105 _ A4.out) ?_;intro w7 hb;replace HB:=bs_ HB hb;(try clear hb);(try clear hb2);(try clear hk);(try clear hi)))
   go_ret
   exact⟨er_,b_ HB.out⟩
  ·rw[if_neg c5] at H;exact absurd H (by simp)
 ·rw[if_neg c2] at H;have c2b0:decide (a0<0)=false:=decide_eq_false c2;clear c2;obtain⟨t106,A8,H⟩:=bi_ H;obtain rfl:=Option.some.inj H;go_enter Tryz.func38,Tryz.ntmps38
  go_wp2_with (first|(refine gl_ 12 Tryz.func36 #[.int .i64 a0] ?_;refine mo_ (r1_Of.calls a0 t106 _ A8.out) ?_;intro w9 hb;replace HB:=bs_ HB hb;(try clear hb);(try clear hb2);(try clear hk);(try clear hi)))
  go_ret
  exact⟨er_,b_ HB.out⟩
def r2_Sign.j0:Nat→Bool→Bool→Option (Int)
 | 0,_,_=>none
 | k+1,x4,x16=>if x16=true then (some 0) else (if x4=true then (some (-1)) else (some 1))
def r2_Sign.f (k:Nat) (a0:ByteArray):Option (Int):=(r2_amount.f a0).bind fun bt107=>((r2_May.f a0).bind fun t109=>(if t109=true then (r2_Sign.j0 k bt107.2 (bt107.1.toList == ([48]:List UInt8))) else (r2_Sign.j0 k bt107.2 true)))
set_option maxHeartbeats 8000000 in
set_option maxRecDepth 100000 in
theorem r2_Sign.calls (k:Nat) (a0:ByteArray) (r:Int) (w:World) (h:r2_Sign.f k a0=some r) :
  Calls Tryz.prog 73 #[.string a0] w fun e w'=>e=.returned (.int .i64 r)∧Below w.heap.size w w':=by
 have HB:=Aside0.mk (Below.refl w.heap.size w);have H:=h;unfold r2_Sign.f at H;clear h;obtain⟨⟨t107,t108⟩,A2,H⟩:=bi_ H;(try dsimp only at H);have HC3:=Aside0.mk H;clear H;go_enter Tryz.func73,Tryz.ntmps73
 go_upto_region 2 with (first|(refine gl_ 7 Tryz.func88 #[.string a0] ?_;refine mo_ (r2_amount.calls a0 t107 t108 _ A2.out) ?_;rintro w' ⟨nd,rfl⟩))
 (try simp only[Act.put,List.setIfInBounds_toArray,List.set_cons_zero,List.set_cons_succ])
 go_cut [16] (fun v16 wc=>∃ (kq:Nat) (x16_2:Bool),v16=.bool x16_2∧Aside0 (r2_Sign.j0 kq t108 x16_2=some r)∧Aside0 (kq≤k)∧Aside0 (Below w.heap.size w wc))
 case first =>
  have H:=HC3.out;clear HC3;obtain⟨t109,A4,H⟩:=bi_ H;by_cases c5:t109=true
  ·subst c5;rw[if_pos rfl] at H;have H':=Aside0.mk H;clear H
   go_wp2_with (first|(refine gl_ 11 Tryz.func72 #[.string a0] ?_;refine mo_ (r2_May.calls a0 true _ A4.out) ?_;intro w6 hb;replace HB:=bs_ HB hb;(try clear hb);(try clear hb2);(try clear hk);(try clear hi)))
   go_meet
   case rel=>exact⟨_,((t107.toList == ([48]:List UInt8))),rl_,H',⟨by first|omega|exact Nat.le_refl _⟩,⟨b_ HB.out⟩⟩
  ·replace c5:=Bool.eq_false_iff.mpr c5;subst c5;rw[if_neg nf_] at H;have H':=Aside0.mk H;clear H
   go_wp2_with (first|(refine gl_ 11 Tryz.func72 #[.string a0] ?_;refine mo_ (r2_May.calls a0 false _ A4.out) ?_;intro w7 hb;replace HB:=bs_ HB hb;(try clear hb);(try clear hb2);(try clear hk);(try clear hi)))
   go_meet
   case rel=>exact⟨_,(true),rl_,H',⟨by first|omega|exact Nat.le_refl _⟩,⟨b_ HB.out⟩⟩
 case rest =>
  clear HC3;(try clear p2);(try clear c5);(try clear c7);obtain⟨kq,x16_2,rfl,HA,HJ2,HB⟩:=hcut
  cases kq with
  | zero=>exact absurd HA.out (by simp[r2_Sign.j0])
  | succ kj2 =>
   have H:=HA.out;clear HA;simp only[r2_Sign.j0] at H;by_cases c8:x16_2=true
   ·subst c8;rw[if_pos rfl] at H;obtain rfl:=Option.some.inj H;go_wp2
    go_ret
    exact⟨er_,b_ HB.out⟩
   ·replace c8:=Bool.eq_false_iff.mpr c8;subst c8;rw[if_neg nf_] at H;by_cases c9:t108=true
    ·subst c9;rw[if_pos rfl] at H;obtain rfl:=Option.some.inj H;go_wp2
     go_ret
     exact⟨er_,b_ HB.out⟩
    ·replace c9:=Bool.eq_false_iff.mpr c9;subst c9;rw[if_neg nf_] at H;obtain rfl:=Option.some.inj H;go_wp2
     go_ret
     exact⟨er_,b_ HB.out⟩
def r2_Abs.f (a0:ByteArray):Option (ByteArray):=(r2_May.f a0).bind fun t110=>(if t110=true then ((r2_amount.f a0).bind fun bt111=>(some bt111.1)) else (some (⟨#[]⟩:ByteArray)))
set_option maxHeartbeats 8000000 in
set_option maxRecDepth 100000 in
theorem r2_Abs.calls (a0:ByteArray) (r:ByteArray) (w:World) (h:r2_Abs.f a0=some r) :
  Calls Tryz.prog 70 #[.string a0] w fun e w'=>e=.returned (.string r)∧Below w.heap.size w w':=by
 have HB:=Aside0.mk (Below.refl w.heap.size w);have H:=h;unfold r2_Abs.f at H;clear h;obtain⟨t110,A2,H⟩:=bi_ H;by_cases c3:t110=true
 ·subst c3;rw[if_pos rfl] at H;obtain⟨⟨t111,t112⟩,A4,H⟩:=bi_ H;(try dsimp only at H);obtain rfl:=Option.some.inj H;go_enter Tryz.func70,Tryz.ntmps70
  go_wp2_with (first|(refine gl_ 6 Tryz.func72 #[.string a0] ?_;refine mo_ (r2_May.calls a0 true _ A2.out) ?_;intro w5 hb;replace HB:=bs_ HB hb;(try clear hb);(try clear hb2);(try clear hk);(try clear hi))|(refine gl_ 10 Tryz.func88 #[.string a0] ?_;refine mo_ (r2_amount.calls a0 t111 t112 _ A4.out) ?_;rintro w' ⟨nd,rfl⟩))
  go_ret
  exact⟨er_,b_ HB.out⟩
 ·replace c3:=Bool.eq_false_iff.mpr c3;subst c3;rw[if_neg nf_] at H;obtain rfl:=Option.some.inj H;go_enter Tryz.func70,Tryz.ntmps70
  go_wp2_with (first|(refine gl_ 6 Tryz.func72 #[.string a0] ?_;refine mo_ (r2_May.calls a0 false _ A2.out) ?_;intro w6 hb;replace HB:=bs_ HB hb;(try clear hb);(try clear hb2);(try clear hk);(try clear hi)))
  go_ret
  exact⟨er_,b_ HB.out⟩
def r2_with.f (a0:ByteArray) (a1:Bool):Option (ByteArray):=if a1=true then (if a0.toList=([48]:List UInt8) then (some a0) else (if 1+a0.size≤9223372036854775807 then (some ((⟨#[45]⟩:ByteArray)++a0)) else (none))) else (some a0)
set_option maxHeartbeats 8000000 in
set_option maxRecDepth 100000 in
theorem r2_with.calls (a0:ByteArray) (a1:Bool) (r:ByteArray) (w:World) (h:r2_with.f a0 a1=some r) :
  Calls Tryz.prog 89 #[.string a0,.bool a1] w fun e w'=>e=.returned (.string r)∧Drawn0 w w':=by
 have H:=h;unfold r2_with.f at H;clear h;by_cases c3:a1=true
 ·subst c3;rw[if_pos rfl] at H;by_cases c4:a0.toList=([48]:List UInt8)
  ·rw[if_pos c4] at H;have c4b0:(a0.toList == ([48]:List UInt8))=true:=beq_iff_eq.mpr c4;have c4b1:(a0.toList != ([48]:List UInt8))=false:=bne_eq_false_iff_eq.mpr c4;clear c4;obtain rfl:=Option.some.inj H;go_enter Tryz.func89,Tryz.ntmps89;go_wp2
   go_ret
   exact⟨by first|rfl|(simp;done)|(simp[*];done),d0_⟩
  ·rw[if_neg c4] at H;have c4b0:(a0.toList == ([48]:List UInt8))=false:=beq_eq_false_iff_ne.mpr c4;have c4b1:(a0.toList != ([48]:List UInt8))=true:=bne_iff_ne.mpr c4;by_cases c5:1+a0.size≤9223372036854775807
   ·rw[if_pos c5] at H;have c5b0:=eq_true c5;have c5b1:decide (1+a0.size≤9223372036854775807)=true:=decide_eq_true c5
    try have c5b2:(9223372036854775807<1+a0.size)=False:=eq_false (Nat.not_lt.2 c5)
    obtain rfl:=Option.some.inj H;go_enter Tryz.func89,Tryz.ntmps89;go_wp2
    go_ret
    exact⟨by first|rfl|(simp;done)|(simp[*];done),d0_⟩
   ·rw[if_neg c5] at H;exact absurd H (by simp)
 ·replace c3:=Bool.eq_false_iff.mpr c3;subst c3;rw[if_neg nf_] at H;obtain rfl:=Option.some.inj H;go_enter Tryz.func89,Tryz.ntmps89;go_wp2
  go_ret
  exact⟨by first|rfl|(simp;done)|(simp[*];done),d0_⟩
def r2_Neg.f (a0:ByteArray):Option (ByteArray):=(r2_May.f a0).bind fun t113=>(if t113=true then ((r2_amount.f a0).bind fun bt114=>((r2_with.f bt114.1 (!bt114.2)).bind fun t116=>(some t116))) else (some (⟨#[]⟩:ByteArray)))
set_option maxHeartbeats 8000000 in
set_option maxRecDepth 100000 in
theorem r2_Neg.calls (a0:ByteArray) (r:ByteArray) (w:World) (h:r2_Neg.f a0=some r) :
  Calls Tryz.prog 50 #[.string a0] w fun e w'=>e=.returned (.string r)∧Below w.heap.size w w':=by
 have HB:=Aside0.mk (Below.refl w.heap.size w);have H:=h;unfold r2_Neg.f at H;clear h;obtain⟨t113,A2,H⟩:=bi_ H;by_cases c3:t113=true
 ·subst c3;rw[if_pos rfl] at H;obtain⟨⟨t114,t115⟩,A4,H⟩:=bi_ H;(try dsimp only at H);obtain⟨t116,A5,H⟩:=bi_ H;obtain rfl:=Option.some.inj H;go_enter Tryz.func50,Tryz.ntmps50
  go_wp2_with (first|(refine gl_ 6 Tryz.func72 #[.string a0] ?_;refine mo_ (r2_May.calls a0 true _ A2.out) ?_;intro w6 hb;replace HB:=bs_ HB hb;(try clear hb);(try clear hb2);(try clear hk);(try clear hi))|(refine gl_ 10 Tryz.func88 #[.string a0] ?_;refine mo_ (r2_amount.calls a0 t114 t115 _ A4.out) ?_;rintro w' ⟨nd,rfl⟩)|(refine gl_ 16 Tryz.func89 #[.string t114,.bool (!t115)] ?_;refine mo_ (r2_with.calls t114 (!t115) t116 _ A5.out) ?_;rintro w' ⟨nd,rfl⟩))
  go_ret
  exact⟨er_,b_ HB.out⟩
 ·replace c3:=Bool.eq_false_iff.mpr c3;subst c3;rw[if_neg nf_] at H;obtain rfl:=Option.some.inj H;go_enter Tryz.func50,Tryz.ntmps50
  go_wp2_with (first|(refine gl_ 6 Tryz.func72 #[.string a0] ?_;refine mo_ (r2_May.calls a0 false _ A2.out) ?_;intro w7 hb;replace HB:=bs_ HB hb;(try clear hb);(try clear hb2);(try clear hk);(try clear hi)))
  go_ret
  exact⟨er_,b_ HB.out⟩
mutual
def r2_Div.j0:Nat→ByteArray→ByteArray→Bool→Option (ByteArray×ByteArray×Bool)
 | 0,_,_,_=>none
 | k+1,x0,x1,x27=>if x27=true then (some ((⟨#[]⟩:ByteArray),(⟨#[]⟩:ByteArray),false)) else ((r2_amount.f x0).bind fun bt127=>((r2_amount.f x1).bind fun bt129=>((r1_Div.f bt127.1 bt129.1).bind fun bt131=>(if bt127.2=true then (r2_Div.j1 k bt127.2 bt129.1 bt129.2 bt131.1 bt131.2.1 (bt131.2.1.toList != ([48]:List UInt8))) else (r2_Div.j1 k bt127.2 bt129.1 bt129.2 bt131.1 bt131.2.1 false)))))
def r2_Div.j1:Nat→Bool→ByteArray→Bool→ByteArray→ByteArray→Bool→Option (ByteArray×ByteArray×Bool)
 | 0,_,_,_,_,_,_=>none
 | k+1,x8,x9,x10,x11,x12,x49=>if x49=true then ((r1_Add.f x11 (⟨#[49]⟩:ByteArray)).bind fun t134=>((r1_Sub.f x9 x12).bind fun bt135=>((r2_with.f t134 (x8 != x10)).bind fun t137=>(some (t137,bt135.1,true))))) else ((r2_with.f x11 (x8 != x10)).bind fun t138=>(some (t138,x12,true)))
end
def r2_Div.f (k:Nat) (a0:ByteArray) (a1:ByteArray):Option (ByteArray×ByteArray×Bool):=(r2_May.f a0).bind fun t125=>(if t125=true then ((r2_May.f a1).bind fun t126=>(if t126=true then (r2_Div.j0 k a0 a1 (a1.toList == ([48]:List UInt8))) else (r2_Div.j0 k a0 a1 true))) else (r2_Div.j0 k a0 a1 true))
set_option maxHeartbeats 8000000 in
set_option maxRecDepth 100000 in
theorem r2_Div.calls (k:Nat) (a0:ByteArray) (a1:ByteArray) (r1:ByteArray) (r2:ByteArray) (r3:Bool) (w:World) (h:r2_Div.f k a0 a1=some (r1,r2,r3)) :
  Calls Tryz.prog 75 #[.string a0,.string a1] w fun e w'=>e=.returned (.tuple #[.string r1,.string r2,.bool r3])∧Below w.heap.size w w':=by
 have HB:=Aside0.mk (Below.refl w.heap.size w);have H:=h;unfold r2_Div.f at H;clear h;have HC3:=Aside0.mk H;clear H;go_enter Tryz.func75,Tryz.ntmps75
 go_upto_region 1 with (fail)
 go_cut [27] (fun v27 wc=>∃ (kq:Nat) (x27_2:Bool),v27=.bool x27_2∧Aside0 (r2_Div.j0 kq a0 a1 x27_2=some (r1,r2,r3))∧Aside0 (kq≤k)∧Aside0 (Below w.heap.size w wc))
 case first =>
  have H:=HC3.out;clear HC3;obtain⟨t125,A4,H⟩:=bi_ H;by_cases c5:t125=true
  ·subst c5;rw[if_pos rfl] at H;obtain⟨t126,A6,H⟩:=bi_ H;by_cases c7:t126=true
   ·subst c7;rw[if_pos rfl] at H;have H':=Aside0.mk H;clear H
    go_wp2_with (first|(refine gl_ 17 Tryz.func72 #[.string a0] ?_;refine mo_ (r2_May.calls a0 true _ A4.out) ?_;intro w8 hb;replace HB:=bs_ HB hb;(try clear hb);(try clear hb2);(try clear hk);(try clear hi))|(go_at_call 72;(with_reducible refine(r2_May.calls a1 true _ A6.out).mono ?_);rintro e w9 ⟨rfl,hb⟩;replace HB:=bs_ HB hb;(try clear hb);(try clear hb2);(try clear hk);(try clear hi)))
    go_meet
    case rel=>exact⟨_,((a1.toList == ([48]:List UInt8))),rl_,H',⟨by first|omega|exact Nat.le_refl _⟩,⟨b_ HB.out⟩⟩
   ·replace c7:=Bool.eq_false_iff.mpr c7;subst c7;rw[if_neg nf_] at H;have H':=Aside0.mk H;clear H
    go_wp2_with (first|(refine gl_ 17 Tryz.func72 #[.string a0] ?_;refine mo_ (r2_May.calls a0 true _ A4.out) ?_;intro w10 hb;replace HB:=bs_ HB hb;(try clear hb);(try clear hb2);(try clear hk);(try clear hi))|(go_at_call 72;(with_reducible refine(r2_May.calls a1 false _ A6.out).mono ?_);rintro e w11 ⟨rfl,hb⟩;replace HB:=bs_ HB hb;(try clear hb);(try clear hb2);(try clear hk);(try clear hi)))
    go_meet
    case rel=>exact⟨_,(true),rl_,H',⟨by first|omega|exact Nat.le_refl _⟩,⟨b_ HB.out⟩⟩
  ·replace c5:=Bool.eq_false_iff.mpr c5;subst c5;rw[if_neg nf_] at H;have H':=Aside0.mk H;clear H
   go_wp2_with (first|(refine gl_ 17 Tryz.func72 #[.string a0] ?_;refine mo_ (r2_May.calls a0 false _ A4.out) ?_;intro w12 hb;replace HB:=bs_ HB hb;(try clear hb);(try clear hb2);(try clear hk);(try clear hi)))
   go_meet
   case rel=>exact⟨_,(true),rl_,H',⟨by first|omega|exact Nat.le_refl _⟩,⟨b_ HB.out⟩⟩
 case rest =>
  clear HC3;(try clear p2);(try clear c5);(try clear c7);obtain⟨kq,x27_2,rfl,HA,HJ2,HB⟩:=hcut
  cases kq with
  | zero=>exact absurd HA.out (by simp[r2_Div.j0])
  | succ kj2 =>
   have H:=HA.out;clear HA;simp only[r2_Div.j0] at H;by_cases c13:x27_2=true
   ·subst c13;rw[if_pos rfl] at H;simp only[Option.some.injEq,Prod.mk.injEq] at H;obtain⟨rfl,rfl,rfl⟩:=H;go_wp2
    go_ret3
    exact⟨er_,b_ HB.out⟩
   ·replace c13:=Bool.eq_false_iff.mpr c13;subst c13;rw[if_neg nf_] at H;obtain⟨⟨t127,t128⟩,A14,H⟩:=bi_ H;(try dsimp only at H);obtain⟨⟨t129,t130⟩,A15,H⟩:=bi_ H;(try dsimp only at H);obtain⟨⟨t131,t132,t133⟩,A16,H⟩:=bi_ H;(try dsimp only at H);have HC17:=Aside0.mk H;clear H
    go_upto_region 6 with (first|(refine gl_ 30 Tryz.func88 #[.string a0] ?_;refine mo_ (r2_amount.calls a0 t127 t128 _ A14.out) ?_;rintro w' ⟨nd,rfl⟩)|(refine gl_ 35 Tryz.func88 #[.string a1] ?_;refine mo_ (r2_amount.calls a1 t129 t130 _ A15.out) ?_;rintro w' ⟨nd,rfl⟩)|(refine gl_ 41 Tryz.func112 #[.string t127,.string t129] ?_;refine mo_ (r1_Div.calls t127 t129 t131 t132 t133 _ A16.out) ?_;intro w18 hb;replace HB:=bs_ HB hb;(try clear hb);(try clear hb2);(try clear hk);(try clear hi)))
    (try simp only[Act.put,List.setIfInBounds_toArray,List.set_cons_zero,List.set_cons_succ])
    go_cut [49] (fun v49 wc=>∃ (kq:Nat) (x49_16:Bool),v49=.bool x49_16∧Aside0 (r2_Div.j1 kq t128 t129 t130 t131 t132 x49_16=some (r1,r2,r3))∧Aside0 (kq≤kj2)∧Aside0 (Below w.heap.size w wc))
    case first =>
     have H:=HC17.out;clear HC17;by_cases c19:t128=true
     ·subst c19;rw[if_pos rfl] at H;have H':=Aside0.mk H;clear H;go_wp2
      go_meet
      case rel=>exact⟨_,((t132.toList != ([48]:List UInt8))),rl_,H',⟨by have:=HJ2.out;first|omega|exact Nat.le_refl _⟩,⟨b_ HB.out⟩⟩
     ·replace c19:=Bool.eq_false_iff.mpr c19;subst c19;rw[if_neg nf_] at H;have H':=Aside0.mk H;clear H;go_wp2
      go_meet
      case rel=>exact⟨_,(false),rl_,H',⟨by have:=HJ2.out;first|omega|exact Nat.le_refl _⟩,⟨b_ HB.out⟩⟩
    case rest =>
     clear HC17;(try clear c1);(try clear p2);(try clear c5);(try clear c7);(try clear c8);(try clear c11);(try clear c13);(try clear c19);(try clear p2);obtain⟨kq,x49_16,rfl,HA,HJ16,HB⟩:=hcut
     cases kq with
     | zero=>exact absurd HA.out (by simp[r2_Div.j1])
     | succ kj16 =>
      have H:=HA.out;clear HA;simp only[r2_Div.j1] at H;by_cases c20:x49_16=true
      ·subst c20;rw[if_pos rfl] at H;obtain⟨t134,A21,H⟩:=bi_ H;obtain⟨⟨t135,t136⟩,A22,H⟩:=bi_ H;(try dsimp only at H);obtain⟨t137,A23,H⟩:=bi_ H;simp only[Option.some.injEq,Prod.mk.injEq] at H;obtain⟨rfl,rfl,rfl⟩:=H
       go_wp2_with (first|(refine gl_ 51 Tryz.func71 #[.string t131,.string (⟨#[49]⟩:ByteArray)] ?_;refine mo_ (r1_Add.calls t131 (⟨#[49]⟩:ByteArray) t134 _ A21.out) ?_;intro w24 hb;replace HB:=bs_ HB hb;(try clear hb);(try clear hb2);(try clear hk);(try clear hi))|(refine gl_ 55 Tryz.func117 #[.string t129,.string t132] ?_;refine mo_ (r1_Sub.calls t129 t132 t135 t136 _ A22.out) ?_;intro w25 hb;replace HB:=bs_ HB hb;(try clear hb);(try clear hb2);(try clear hk);(try clear hi))|(refine gl_ 63 Tryz.func89 #[.string t134,.bool (t128 != t130)] ?_;refine mo_ (r2_with.calls t134 (t128 != t130) t137 _ A23.out) ?_;rintro w' ⟨nd,rfl⟩))
       go_ret3
       exact⟨er_,b_ HB.out⟩
      ·replace c20:=Bool.eq_false_iff.mpr c20;subst c20;rw[if_neg nf_] at H;obtain⟨t138,A26,H⟩:=bi_ H;simp only[Option.some.injEq,Prod.mk.injEq] at H;obtain⟨rfl,rfl,rfl⟩:=H
       go_wp2_with (first|(refine gl_ 63 Tryz.func89 #[.string t131,.bool (t128 != t130)] ?_;refine mo_ (r2_with.calls t131 (t128 != t130) t138 _ A26.out) ?_;rintro w' ⟨nd,rfl⟩))
       go_ret3
       exact⟨er_,b_ HB.out⟩
end Go.Proofs.YtoghmeffpgbcfaaGreatDoor.Px
end

section
namespace Go.Proofs.YtoghmeffpgbcfaaGreatDoor.Px
end Go.Proofs.YtoghmeffpgbcfaaGreatDoor.Px
end

section
namespace Go.Proofs.YtoghmeffpgbcfaaGreatDoor
theorem amount_f (a:ByteArray):Px.r2_amount.f a=some (amtB a,minusB a):=by
 unfold Px.r2_amount.f amtB minusB
 have hs:=size_len a
 cases hl:a.data.toList with
 | nil =>
  rw[hl,List.length_nil] at hs
  rw[if_neg (by omega)]
  simp only[cutL]
  congr 2
  apply bext
  rw[hl]
 | cons c r =>
  rw[hl,List.length_cons] at hs
  obtain⟨c',hc,hb⟩:=bt_get a 0 (by omega)
  have hcc:c'=c:=by
   rw[hl] at hc
   exact(Option.some.inj hc).symm
  subst hcc
  have hb':bt a 0=(c'.toNat:Int):=hb
  rw[if_pos (by omega),if_pos (by omega),hb']
  by_cases h:c'=45
  ·subst h
   rw[if_pos (by decide),if_pos (by omega)]
   simp only[cutL]
   congr 2
   apply bext
   rw[Lib.extract_to_end,hl]
   rfl
  ·have hn:¬ (c'.toNat:Int)=45:=by
    intro e
    exact h (UInt8.toNat_inj.1 (by rw[show (45:UInt8).toNat=45 from rfl];omega))
   have e:cutL (c' :: r)=(c' :: r,false):=by
    unfold cutL
    split
    ·rename_i h'
     injection h' with h' _
     exact absurd h' h
    ·rfl
   rw[if_neg hn,e]
   congr 2
   apply bext
   rw[hl]
theorem amtB_size' (a:ByteArray):(amtB a).size≤a.size:=by
 rw[size_len,size_len,amtB_list]
 unfold cutL
 split
 ·rename_i h;rw[h];simp
 ·exact Nat.le_refl _
theorem r2may_f {a:ByteArray} (h:a.size≤50000):Px.r2_May.f a=some (mayW a):=by
 unfold Px.r2_May.f mayW
 have hs:=amtB_size' a
 rw[amount_f,Option.bind_some,rMay (a:=amtB a) (by omega),Option.bind_some]
 cases hm:mayB (amtB a) with
 | false=>rfl
 | true =>
  simp only[if_true,Bool.true_and]
  cases hn:minusB a with
  | false=>rfl
  | true =>
   simp only[if_true,Bool.not_true,Bool.false_or]
   congr 1
   have h48:=list48 hm
   rw[← ByteArray.toList_eq] at h48
   rw[Bool.eq_iff_iff,bne_iff_ne,decide_eq_true_eq]
   exact not_congr h48
def r2_May.f (a0:ByteArray):Option Bool:=if sm a0=true then some (mayW a0) else none
theorem r2_May.calls (a0:ByteArray) (r:Bool) (w:World) (h:r2_May.f a0=some r) :
  Calls Tryz.prog 72 #[.string a0] w fun e w'=>e=.returned (.bool r)∧Below w.heap.size w w':=by
 unfold r2_May.f at h
 split at h
 ·rename_i hp
  rw[← r2may_f (sm_le hp)] at h
  exact Px.r2_May.calls a0 r w h
 ·cases h
end Go.Proofs.YtoghmeffpgbcfaaGreatDoor
end

section
namespace Go.Proofs.YtoghmeffpgbcfaaGreatDoor
end Go.Proofs.YtoghmeffpgbcfaaGreatDoor
end

section
namespace Go.Proofs.YtoghmeffpgbcfaaGreatDoor
theorem szI_neg (x:Int):szI (-x)≤szI x+1:=by
 have h1:=szI_le (-x)
 have h4:=le_szI x
 rw[Int.natAbs_neg] at h1
 omega
theorem smw2_int {x y:Int} (hx:szI x≤49990) (hy:szI y≤49990):smw2 (intB x) (intB y)=true:=by
 unfold smw2
 rw[show smw (intB x)=true from decide_eq_true hx,show smw (intB y)=true from decide_eq_true hy]
 rfl
theorem smw_int {x:Int} (hx:szI x≤49990):smw (intB x)=true:=decide_eq_true hx
theorem gDiv {x y:Int} (hx:szI x≤49990) (hy:szI y≤49990) (h:y≠0):whole_Div.f (intB x) (intB y)=some (intB (x / y),intB (x % y),true):=by
 unfold whole_Div.f wdivS
 rw[if_pos (smw2_int hx hy),may2W_int,Bool.true_and,numW_int,numW_int,if_pos (decide_eq_true h)]
theorem gNeg {x:Int} (hx:szI x≤49990):whole_Neg.f (intB x)=some (intB (-x)):=by
 unfold whole_Neg.f wnegS
 rw[if_pos (smw_int hx),if_pos (mayW_int x),numW_int]
theorem gSign {x:Int} (hx:szI x≤49990):whole_Sign.f (intB x)=some (Lib.compareInt x 0):=by
 unfold whole_Sign.f wsignS
 rw[if_pos (smw_int hx),if_pos (mayW_int x),numW_int]
theorem gAbs {x:Int} (hx:szI x≤49990):whole_Abs.f (intB x)=some (intB (x.natAbs:Int)):=by
 unfold whole_Abs.f wabsS
 rw[if_pos (smw_int hx),if_pos (mayW_int x),numW_int,intB_nat]
theorem gOf {n:Int} (h0:-9223372036854775808≤n) (h1:n≤9223372036854775807):whole_Of.f n=some (intB n):=by
 unfold whole_Of.f
 rw[if_pos ⟨h0,h1⟩]
theorem rMay2 {a:ByteArray} (h:a.size≤50000):r2_May.f a=some (mayW a):=by
 unfold r2_May.f
 rw[if_pos (show sm a=true from decide_eq_true h)]
theorem intB_toList_zero {z:Int}:(intB z).toList=[48]↔z=0:=by
 have h:(intB 0).toList=[48]:=by
  have e:intB 0=natB 0:=intB_nat 0
  rw[e,ByteArray.toList_eq,natB_list,dig_small (by omega)]
  rfl
 rw[← h]
 exact intB_toList_inj
theorem intB_beq_zero (x:Int):((intB x).toList == ([48]:List UInt8))=decide (x=0):=by
 rw[Bool.eq_iff_iff,beq_iff_eq,intB_toList_zero,decide_eq_true_eq]
end Go.Proofs.YtoghmeffpgbcfaaGreatDoor
end

section
namespace Go.Proofs.YtoghmeffpgbcfaaGreatDoor
abbrev BB:=ByteArray×ByteArray
def no2:BB:=(noB,noB)
def rmakeS (a b:ByteArray):BB×Bool:=if (may2W a b&&decide (numW b≠0))=true then (rT (Rat.divInt (numW a) (numW b)),true) else (no2,false)
def rsignS (x:BB):Int:=if mayR x=true then cmpQ (ratR x) 0 else 0
def szR (q:Rat):Nat:=szI q.num+sz q.den
theorem le_szR_num (q:Rat):szI q.num≤szR q:=Nat.le_add_right _ _
theorem le_szR_den (q:Rat):sz q.den≤szR q:=Nat.le_add_left _ _
theorem szI_nat (n:Nat):szI (n:Int)=sz n:=by unfold szI sz;rw[intB_nat]
theorem sz_den_le (x:Int) {y:Int} (hy:y≠0):sz (Rat.divInt x y).den≤szI y:=by
 have h:((Rat.divInt x y).den:Int)≤(y.natAbs:Int):=by
  rw[← red_den hy]
  exact Int.ediv_le_self _ (Int.natCast_nonneg _)
 have h1:=sz_mono (show (Rat.divInt x y).den≤y.natAbs by omega)
 have h2:=le_szI y
 omega
theorem sz_num_le (x:Int) {y:Int} (hy:y≠0):szI (Rat.divInt x y).num≤szI x+1:=by
 have h:(Rat.divInt x y).num.natAbs≤x.natAbs:=by
  rw[← red_num hy]
  have e:=Int.natAbs_ediv_le_natAbs (if y<0 then -x else x) ((Nat.gcd x.natAbs y.natAbs:Nat):Int)
  have e2:(if y<0 then -x else x).natAbs=x.natAbs:=by split <;> omega
  have h3:Int.natAbs ((if y<0 then -x else x) / ((Nat.gcd x.natAbs y.natAbs:Nat):Int))=(if y<0 then -x else x).natAbs / Nat.gcd x.natAbs y.natAbs:=by
   have hd:((Nat.gcd x.natAbs y.natAbs:Nat):Int) ∣ (if y<0 then -x else x):=by
    rw[Int.ofNat_dvd_left,e2]
    exact Nat.gcd_dvd_left _ _
   rw[Int.natAbs_ediv_of_dvd hd,Int.natAbs_natCast]
  rw[h3,e2]
  exact Nat.div_le_self _ _
 have h1:=sz_mono h
 have h2:=le_szI x
 have h3:=szI_le (Rat.divInt x y).num
 omega
theorem szR_divInt (x:Int) {y:Int} (hy:y≠0):szR (Rat.divInt x y)≤szI x+szI y+1:=by
 have h1:=sz_den_le x hy
 have h2:=sz_num_le x hy
 unfold szR
 omega
theorem szR_int (n:Int):szR (n:Rat)=szI n+1:=by
 unfold szR
 rw[Rat.num_intCast,Rat.den_intCast]
 have:sz 1=1:=Nat.le_antisymm (sz_le (by omega) (by omega)) (sz_pos 1)
 rw[this]
def smR (x:BB):Bool:=decide (x.1.size≤4000∧x.2.size≤4000)
theorem smR_le {x:BB} (h:smR x=true):x.1.size≤4000∧x.2.size≤4000:=of_decide_eq_true h
end Go.Proofs.YtoghmeffpgbcfaaGreatDoor
end

section
namespace Go.Proofs.YtoghmeffpgbcfaaGreatDoor
theorem dec_len_le {n k:Nat} (h:n<10 ^ k) (hk:1≤k):(Lib.decDigits n).length≤k:=dig_len_le h hk
theorem plD_le {n s:Nat} (hn:0<n) (h:n<10 ^ s):plD n≤4 * s:=by
 obtain⟨a,c,r,ha,hc,hr,h1,h2,h3,h4⟩:=parts hn
 have r0:0<r:=by
  rcases Nat.eq_zero_or_pos r with e|e
  ·rw[e] at h3;exact absurd rfl h3
  ·exact e
 unfold plD
 rw[ha,hc]
 have p5:0<5 ^ c:=by have:=Nat.pow_le_pow_right (show 0<5 by decide) (Nat.zero_le c);rw[Nat.pow_zero] at this;omega
 have p2:0<2 ^ a:=by have:=Nat.pow_le_pow_right (show 0<2 by decide) (Nat.zero_le a);rw[Nat.pow_zero] at this;omega
 have a1:2 ^ a≤n:=by
  rw[← h1]
  exact Nat.le_mul_of_pos_right _ (Nat.mul_pos p5 r0)
 have c1:5 ^ c≤n:=by
  rw[← h1]
  refine Nat.le_trans (Nat.le_mul_of_pos_right _ r0) (Nat.le_mul_of_pos_left _ p2)
 have up:(10:Nat) ^ s≤2 ^ (4 * s):=by
  rw[Nat.pow_mul]
  exact Nat.pow_le_pow_left (by decide) s
 have up5:(10:Nat) ^ s≤5 ^ (2 * s):=by
  rw[Nat.pow_mul]
  exact Nat.pow_le_pow_left (by decide) s
 have a2:a<4 * s:=by
  rcases Nat.lt_or_ge a (4 * s) with e|e
  ·exact e
  ·have:=Nat.pow_le_pow_right (show 0<2 by decide) e
   omega
 have c2:c<2 * s:=by
  rcases Nat.lt_or_ge c (2 * s) with e|e
  ·exact e
  ·have:=Nat.pow_le_pow_right (show 0<5 by decide) e
   omega
 omega
theorem sgL_len (z:Int):(sgL z).length≤1:=by
 unfold sgL
 split <;> simp
theorem print_len (x:Rat):(printL x).length≤5 * (szR x)+5:=by
 have hd:0<x.den:=Nat.pos_of_ne_zero x.den_nz
 have e1:(intB x.num).data.toList.length=szI x.num:=by
  unfold szI
  rw[size_len]
 have e2:(Lib.decDigits x.den).length=sz x.den:=(sz_dig x.den).symm
 unfold printL
 by_cases hf:finD x.den=true
 ·rw[if_pos hf]
  by_cases h0:plD x.den=0
  ·rw[if_pos h0,e1]
   unfold szR
   omega
  ·have hp:=plD_le hd (lt_sz x.den)
   have hs:=sgL_len x.num
   have hn:=lt_sz x.num.natAbs
   have h3:=le_szI x.num
   have hz:=sz_pos x.num.natAbs
   have hlen:(digsL x).length≤sz x.num.natAbs+plD x.den+1:=by
    unfold digsL padL
    rw[List.length_append,List.length_replicate]
    have hb:(Lib.decDigits (x.num.natAbs * (10 ^ plD x.den / x.den))).length≤sz x.num.natAbs+plD x.den:=by
     refine dec_len_le ?_ (by omega)
     rw[Nat.pow_add]
     have h4:10 ^ plD x.den / x.den≤10 ^ plD x.den:=Nat.div_le_self _ _
     have h5:x.num.natAbs * (10 ^ plD x.den / x.den)≤x.num.natAbs * 10 ^ plD x.den:=Nat.mul_le_mul_left _ h4
     have h6:0<10 ^ plD x.den:=by have:=Nat.pow_le_pow_right (show 0<10 by decide) (Nat.zero_le (plD x.den));rw[Nat.pow_zero] at this;omega
     exact Nat.lt_of_le_of_lt h5 (Nat.mul_lt_mul_of_pos_right hn h6)
    omega
   rw[if_neg h0,List.length_append,List.length_append,List.length_cons,List.length_take,List.length_drop]
   unfold szR
   omega
 ·rw[if_neg hf,List.length_append,List.length_cons,e1,e2]
  unfold szR
  omega
theorem head_dig' {A:List UInt8} (h:digL A=true):A.all isDig=true∧A≠[]∧A.head?≠some 45:=by
 unfold digL at h
 rw[Bool.and_eq_true,decide_eq_true_eq] at h
 refine⟨h.2,h.1,?_⟩
 have:=head_all (B:=[]) h.2 h.1
 rwa [List.append_nil] at this
theorem tenI_ne (k:Nat):((10 ^ k:Nat):Int)≠0:=by
 have:=Nat.pow_le_pow_right (show 0<10 by decide) (Nat.zero_le k)
 rw[Nat.pow_zero] at this
 omega
def placesS (x:BB):Int×Bool:=if (mayR x&&finD (ratR x).den)=true then ((plD (ratR x).den:Int),true) else (0,false)
def printS (x:BB):ByteArray:=if mayR x=true then ⟨(printL (ratR x)).toArray⟩ else noB
def parseS (s:ByteArray):ByteArray×ByteArray×Int:=match parseL s.data.toList with
 | some q=>((rT q).1,(rT q).2,0)
 | none=>(noB,noB,40)
theorem places_rT (q:Rat):placesS (rT q)=if finD q.den=true then ((plD q.den:Int),true) else (0,false):=by
 unfold placesS
 rw[ratR_rT,mayR_rT,Bool.true_and]
theorem print_rT (q:Rat):printS (rT q)=⟨(printL q).toArray⟩:=by
 unfold printS
 rw[ratR_rT,if_pos (mayR_rT q)]
theorem print_rT_list (q:Rat):(printS (rT q)).data.toList=printL q:=by rw[print_rT]
end Go.Proofs.YtoghmeffpgbcfaaGreatDoor
end

section
namespace Go.Proofs.YtoghmeffpgbcfaaGreatDoor
theorem indexByte_none {c:UInt8}:∀ {l:List UInt8},cutAt c l=none→Lib.indexByte l c=-1
 | [],_=>rfl
 | x :: r,h=>by
  unfold cutAt at h
  by_cases e:x=c
  ·rw[if_pos e] at h;exact absurd h (by simp)
  ·rw[if_neg e,Option.map_eq_none_iff] at h
   have ih:=indexByte_none h
   unfold Lib.indexByte
   rw[ih,beq_eq_false_iff_ne.2 e]
   rfl
theorem indexByte_some {c:UInt8}:∀ {l a b:List UInt8},cutAt c l=some (a,b)→Lib.indexByte l c=(a.length:Int)∧l=a++c :: b∧c∉a
 | [],_,_,h=>absurd h (by simp[cutAt])
 | x :: r,a,b,h=>by
  unfold cutAt at h
  by_cases e:x=c
  ·rw[if_pos e] at h
   have h':=Option.some.inj h
   rw[Prod.mk.injEq] at h'
   obtain⟨rfl,rfl⟩:=h'
   subst e
   refine⟨?_,rfl,by simp⟩
   unfold Lib.indexByte
   rw[beq_self_eq_true,if_pos rfl]
   rfl
  ·rw[if_neg e,Option.map_eq_some_iff] at h
   obtain⟨⟨a',b'⟩,h1,h2⟩:=h
   rw[Prod.mk.injEq] at h2
   obtain⟨rfl,rfl⟩:=h2
   obtain⟨i1,i2,i3⟩:=indexByte_some h1
   refine⟨?_,by rw[i2];rfl,?_⟩
   ·unfold Lib.indexByte
    rw[i1,beq_eq_false_iff_ne.2 e,if_neg (by decide),if_neg]
    ·simp
    ·rw[beq_iff_eq];omega
   ·intro hm
    rcases List.mem_cons.1 hm with h3|h3
    ·exact e h3.symm
    ·exact i3 h3
theorem cut_one (c:UInt8) (l:List UInt8):Lib.cut l [c]=match cutAt c l with|some (a,b)=>(a,b,true)|none=>(l,[],false):=by
 unfold Lib.cut
 rw[Lib.index_one]
 cases h:cutAt c l with
 | none=>rw[indexByte_none h,if_neg (by decide)]
 | some p =>
  obtain⟨a,b⟩:=p
  obtain⟨h1,h2,h3⟩:=indexByte_some h
  rw[h1,if_pos (by omega)]
  show (l.take a.length,l.drop (a.length+1),true)=(a,b,true)
  rw[h2,List.take_left,← List.drop_drop,List.drop_left]
  rfl
def decs:List UInt8:=[48,49,50,51,52,53,54,55,56,57]
theorem decs_has (c:UInt8):decs.contains c=isDig c:=by
 have h:∀ n:Fin 256,decs.contains (UInt8.ofNat n.val)=isDig (UInt8.ofNat n.val):=by decide +kernel
 have:=h ⟨c.toNat,c.toNat_lt⟩
 rwa [show UInt8.ofNat (⟨c.toNat,c.toNat_lt⟩:Fin 256).val=c from UInt8.ofNat_toNat] at this
theorem dropWhile_nil {p:UInt8→Bool}:∀ {l:List UInt8},l.dropWhile p=[]↔l.all p=true
 | []=>by simp
 | x :: r=>by
  rw[List.dropWhile_cons]
  by_cases h:p x=true
  ·rw[if_pos h,dropWhile_nil,List.all_cons,h,Bool.true_and]
  ·rw[if_neg h,List.all_cons,(Bool.not_eq_true _).mp h]
   simp
theorem trim_nil (l:List UInt8):Lib.trimS l decs=[]↔l.all isDig=true:=by
 have e:(fun c=>decs.contains c)=isDig:=funext decs_has
 unfold Lib.trimS Lib.trimLeftS Lib.trimRightS
 rw[e,dropWhile_nil]
 constructor
 ·intro h
  by_cases hn:l.reverse.dropWhile isDig=[]
  ·rw[dropWhile_nil,List.all_reverse] at hn
   exact hn
  ·exfalso
   rw[List.all_reverse] at h
   have h1:=List.head_dropWhile_not isDig hn
   have h2:=List.all_eq_true.1 h _ (List.head_mem hn)
   rw[h2] at h1
   exact absurd h1 (by decide)
 ·intro h
  have:l.reverse.dropWhile isDig=[]:=by rw[dropWhile_nil,List.all_reverse];exact h
  rw[this]
  rfl
theorem drop_not {c:UInt8} (h:¬ c=48) (r:List UInt8):Lib.trimLeftB (c :: r) 48=c :: r:=by
 unfold Lib.trimLeftB
 rw[List.dropWhile_cons]
 exact if_neg (by rw[beq_iff_eq];exact h)
theorem left_strip:∀ {l:List UInt8},l≠[]→(if Lib.trimLeftB l 48=[] then [48] else Lib.trimLeftB l 48)=strip l
 | [],h=>absurd rfl h
 | [c],_=>by
  by_cases h:c=48
  ·subst h;rfl
  ·rw[drop_not h,if_neg (by simp)]
   rfl
 | c :: d :: r,_=>by
  by_cases h:c=48
  ·subst h
   have ih:=left_strip (l:=d :: r) (by simp)
   rw[strip,if_pos rfl,← ih]
   rfl
  ·rw[strip,if_neg h,drop_not h,if_neg (by simp)]
theorem left_dec {l:List UInt8} (h:digL l=true):(if Lib.trimLeftB l 48=[] then [48] else Lib.trimLeftB l 48)=Lib.decDigits (num l):=by
 obtain⟨h1,h2,h3⟩:=head_dig' h
 rw[left_strip h2,strip_dig h2 h1]
theorem tms_pos {b n:Nat} (hb:2≤b) (hn:0<n):0<(tms b n).2:=by
 obtain⟨h1,h2⟩:=tms_spec hb n hn
 rcases Nat.eq_zero_or_pos (tms b n).2 with e|e
 ·rw[e,Nat.zero_mod] at h2;exact absurd rfl h2
 ·exact e
theorem tms_le {b:Nat} (hb:2≤b) {n s:Nat} (hn:0<n) (h:n<10 ^ s):(tms b n).1≤4 * s:=by
 obtain⟨h1,h2⟩:=tms_spec hb n hn
 have h3:=tms_pos hb hn
 have h4:2 ^ (tms b n).1≤b ^ (tms b n).1:=Nat.pow_le_pow_left hb _
 have h5:b ^ (tms b n).1≤n:=by
  calc b ^ (tms b n).1≤b ^ (tms b n).1 * (tms b n).2:=Nat.le_mul_of_pos_right _ h3
   _ = n:=h1
 have up:(10:Nat) ^ s≤2 ^ (4 * s):=by
  rw[Nat.pow_mul]
  exact Nat.pow_le_pow_left (by decide) s
 rcases Nat.lt_or_ge (4 * s) (tms b n).1 with e|e
 ·have:=Nat.pow_le_pow_right (show 0<2 by decide) (Nat.le_of_lt e)
  omega
 ·exact e
theorem tms_left_le {b:Nat} (hb:2≤b) {n:Nat} (hn:0<n):(tms b n).2≤n:=by
 obtain⟨h1,h2⟩:=tms_spec hb n hn
 have:0<b ^ (tms b n).1:=Nat.pow_pos (by omega)
 calc (tms b n).2≤b ^ (tms b n).1 * (tms b n).2:=Nat.le_mul_of_pos_left _ this
  _ = n:=h1
theorem num_sz {l:List UInt8} (h:l.all isDig=true):sz (num l)≤l.length+1 :=
 sz_le (Nat.lt_of_lt_of_le (num_lt h) (Nat.pow_le_pow_right (by decide) (Nat.le_succ _))) (by omega)
theorem withS_sz (b:Bool) (n:Nat):szI (withS b n)≤sz n+1:=by
 have h:=szI_le (withS b n)
 have e:(withS b n).natAbs=n:=by
  unfold withS
  cases b <;> simp
 rw[e] at h
 exact h
theorem cutL_len (s:List UInt8):(cutL s).1.length≤s.length:=by
 unfold cutL
 split
 ·simp
 ·exact Nat.le_refl _
theorem cutAt_len {c:UInt8} {l a b:List UInt8} (h:cutAt c l=some (a,b)):a.length+b.length+1=l.length:=by
 obtain⟨h1,h2,h3⟩:=indexByte_some h
 rw[h2,List.length_append,List.length_cons]
 omega
theorem ten_sz (n:Nat):szI ((10 ^ n:Nat):Int)≤n+1:=by
 rw[szI_nat]
 refine sz_le ?_ (by omega)
 rw[Nat.pow_succ]
 have:=Nat.pow_le_pow_right (show 0<10 by decide) (Nat.zero_le n)
 rw[Nat.pow_zero] at this
 omega
theorem parse_sz {s:List UInt8} {q:Rat} (h:parseA s=some q):szR q≤2 * s.length+8:=by
 have hl:=cutL_len s
 unfold parseA at h
 split at h
 ·rename_i a b e
  have h0:=cutAt_len e
  split at h
  ·rename_i hd
   rw[Bool.and_eq_true] at hd
   split at h
   ·exact absurd h (by simp)
   ·rename_i hb
    rw[← Option.some.inj h]
    have h1:=szR_divInt (withS (cutL s).2 (num a)) (show ((num b:Nat):Int)≠0 by omega)
    have h2:=withS_sz (cutL s).2 (num a)
    have h3:=num_sz (head_dig' hd.1).1
    have h4:=num_sz (head_dig' hd.2).1
    rw[szI_nat] at h1
    omega
  ·exact absurd h (by simp)
 ·split at h
  ·rename_i a b e
   have h0:=cutAt_len e
   split at h
   ·rename_i hd
    rw[Bool.and_eq_true] at hd
    rw[← Option.some.inj h]
    have h1:=szR_divInt (withS (cutL s).2 (num (a++b))) (tenI_ne b.length)
    have h2:=withS_sz (cutL s).2 (num (a++b))
    have h3:=num_sz (l:=a++b) (by rw[List.all_append,(head_dig' hd.1).1,(head_dig' hd.2).1];rfl)
    have h4:=ten_sz b.length
    rw[List.length_append] at h3
    omega
   ·exact absurd h (by simp)
  ·split at h
   ·rename_i hd
    rw[← Option.some.inj h,szR_int]
    have h2:=withS_sz (cutL s).2 (num (cutL s).1)
    have h3:=num_sz (head_dig' hd).1
    omega
   ·exact absurd h (by simp)
theorem parseL_sz {s:List UInt8} {q:Rat} (h:parseL s=some q):szR q≤2 * s.length+8:=by
 unfold parseL at h
 split at h
 ·exact absurd h (by simp)
 ·exact parse_sz h
end Go.Proofs.YtoghmeffpgbcfaaGreatDoor
end

section
namespace Go.Proofs.YtoghmeffpgbcfaaGreatDoor
open Go.RowKit Go.Shelf Go.Proofs.YtoghmeffpgbcfaaGreatDoorW.PrintWords Go.Proofs.YtoghmeffpgbcfaaGreatDoorW.PrintLast Go.Proofs.YtoghmeffpgbcfaaGreatDoorW.PrintMore
def most63:Nat:=9223372036854775807
def smallS (s:ByteArray):Int×Bool:=if (mayB s&&decide (numB s≤most63))=true then ((numB s:Int),true) else (0,false)
theorem atoi_may {s:ByteArray} (hm:mayB s=true):(numB s≤most63→Lib.atoiAll s.data.toList=.ok (numB s:Int))∧(¬ numB s≤most63→Lib.atoiAll s.data.toList=.range):=by
 have h:=atoi_digits (mayL_ne hm) (mayL_all hm)
 unfold numB most63
 constructor
 ·intro hn
  rw[h,if_pos (by omega)]
 ·intro hn
  rw[h,if_neg (by omega)]
theorem bytesW_below (w:World) (t:ByteArray):Below w.heap.size w (Lib.bytesWorld w 5 t):=bytes_below (Below.refl _ _) (Nat.le_refl _) _ _
set_option maxHeartbeats 1000000 in
theorem small_no (s:ByteArray) (hs:sm s=true) (hm:mayB s=false) (w:World) :
  Calls Tryz.prog 41 #[.string s] w fun e w'=>e=.returned (.tuple #[.int .i64 0,.bool false])∧Below w.heap.size w w':=by
 have hf:nat_May.f s=some false:=by rw[may_f hs,hm]
 have H:=Lib.hid hf
 clear hf hs hm
 go_enter Tryz.func41,Tryz.ntmps41
 go_wp2_with (go_at_call 79;refine(nat_May.calls s false _ H.out).mono ?_;rintro e w1 ⟨rfl,hb⟩)
 go_ret2
 exact⟨rfl,hb⟩
set_option maxHeartbeats 1000000 in
theorem small_ok (s:ByteArray) (hs:sm s=true) (hm:mayB s=true) (hn:numB s≤most63) (w:World) :
  Calls Tryz.prog 41 #[.string s] w fun e w'=>e=.returned (.tuple #[.int .i64 (numB s:Int),.bool true])∧Below w.heap.size w w':=by
 have hf:nat_May.f s=some true:=by rw[may_f hs,hm]
 have hsz:s.size≤9223372036854775806:=Nat.le_trans (sm_le hs) (by omega)
 have HS:=Lib.hid hsz
 have H:=Lib.hid hf
 have HA:=Lib.hid ((atoi_may hm).1 hn)
 clear hf hs hm hn hsz
 go_enter Tryz.func41,Tryz.ntmps41
 go_wp2_with (first|(go_at_call 79;refine(nat_May.calls s true _ H.out).mono ?_;rintro e w1 ⟨rfl,hb⟩)|(go_at_call 80;refine(Tryz.strconv_Atoi_ok s HS.out _ HA.out _).mono ?_;rintro e w2 ⟨rfl,hb2⟩))
 go_ret2
 refine⟨rfl,hb.trans ?_⟩
 rcases hb2 with rfl|⟨t,rfl⟩
 ·exact Below.refl _ _
 ·exact(bytesW_below _ t).mono hb.size
set_option maxHeartbeats 1000000 in
theorem small_big (s:ByteArray) (hs:sm s=true) (hm:mayB s=true) (hn:¬ numB s≤most63) (w:World) (hL:Laid w) :
  Calls Tryz.prog 41 #[.string s] w fun e w'=>e=.returned (.tuple #[.int .i64 0,.bool false])∧Below w.heap.size w w':=by
 have hf:nat_May.f s=some true:=by rw[may_f hs,hm]
 have hsz:s.size≤281474976710656:=Nat.le_trans (sm_le hs) (by omega)
 have HS:=Lib.hid hsz
 have H:=Lib.hid hf
 have HA:=Lib.hid ((atoi_may hm).2 hn)
 have HL:=Lib.hid hL
 clear hf hs hm hn hL hsz
 go_enter Tryz.func41,Tryz.ntmps41
 go_wp2_with (go_at_call 79;refine(nat_May.calls s true _ H.out).mono ?_;rintro e w1 ⟨rfl,hb⟩)
 have hL1:=HL.out.below hb
 obtain⟨tp,p,hv⟩:=hL1.rng
 have HV:=Lib.hid hv
 clear hL1 hv
 go_wp2_with (go_at_call 80;refine(Tryz.strconv_Atoi_range_var s HS.out HA.out tp p _ HV.out).mono ?_;rintro e w2 ⟨q,rfl,hq,hc,hb2⟩)
 all_goals (go_ret2;exact⟨rfl,hb.trans (hb2.mono hb.size)⟩)
def nat_Small.f (a0:ByteArray):Option (Int×Bool):=if sm a0=true then some (smallS a0) else none
theorem nat_Small.calls (a0:ByteArray) (r1:Int) (r2:Bool) (w:World) (hL_:Laid w) (h:nat_Small.f a0=some (r1,r2)) :
  Calls Tryz.prog 41 #[.string a0] w fun e w'=>e=.returned (.tuple #[.int .i64 r1,.bool r2])∧Below w.heap.size w w':=by
 unfold nat_Small.f smallS at h
 split at h
 ·rename_i hs
  split at h
  ·rename_i hp
   rw[Bool.and_eq_true,decide_eq_true_eq] at hp
   cases h
   exact small_ok a0 hs hp.1 hp.2 w
  ·rename_i hp
   cases h
   rw[Bool.and_eq_true,decide_eq_true_eq] at hp
   by_cases hm:mayB a0=true
   ·exact small_big a0 hs hm (fun hn=>hp ⟨hm,hn⟩) w hL_
   ·exact small_no a0 hs ((Bool.not_eq_true _).mp hm) w
 ·cases h
end Go.Proofs.YtoghmeffpgbcfaaGreatDoor
end

section
namespace Go.Proofs.YtoghmeffpgbcfaaGreatDoor
structure ActV where
 name:ByteArray
 kind:Int
 asset:ByteArray
 other:ByteArray
 ratio:BB
 cash:BB
 ex:Int
 rec_:Int
 pay:Int
def nameC (c:UInt8):Bool:=decide (97≤c.toNat∧c.toNat≤122) || isDig c
def bang (l:List UInt8):List UInt8:=match l with
 | 33 :: r=>r
 | l=>l
def nameL (l:List UInt8):Bool:=decide (l≠[])&&(decide (l.length≤20)&&(bang l).all nameC)
def lowL (l:List UInt8):Bool:=match l with
 | c :: _=>decide (97≤c.toNat∧c.toNat≤122)
 | []=>false
def cashL:List UInt8:=[99,97,115,104]
def assetL (l:List UInt8):Bool:=nameL l&&(lowL l&&decide (l≠cashL))
def numOk (x:BB) (named:Bool) (least:Int):Bool:=if named=true then mayR x&&(decide (least≤cmpQ (ratR x) 0)&&(decide (x.1.size≤20)&&decide (x.2.size≤20))) else decide (x=rT 0)
def kOther (k:Int):Bool:=decide (3≤k)
def kRatio (k:Int):Bool:=decide (k≠2)
def kCash (k:Int):Bool:=decide (k=2) || decide (k=4)
def kLeast (k:Int):Int:=if k=4 then 0 else 1
def wordK (k:Int):List UInt8:=if k=0 then [115,112,108,105,116] else if k=1 then [115,116,111,99,107] else if k=2 then [99,97,115,104] else if k=3 then [115,112,105,110] else [109,101,114,103,101,114]
def otherOk (a:ActV):Bool:=if kOther a.kind=true then assetL a.other.data.toList&&decide (a.other≠a.asset) else decide (a.other=noB)
def daysOk (a:ActV):Bool:=decide (0≤a.ex)&&(decide (a.ex≤a.rec_)&&(decide (a.rec_≤a.pay)&&decide (a.pay≤9999)))
def mayA (a:ActV):Bool:=decide (0≤a.kind)&&(decide (a.kind≤4)&&(nameL a.name.data.toList&&(assetL a.asset.data.toList&&(daysOk a&&(otherOk a&&(numOk a.ratio (kRatio a.kind) 1&&numOk a.cash (kCash a.kind) (kLeast a.kind)))))))
def numsA (a:ActV):List (List UInt8):=(if kRatio a.kind=true then [(printS a.ratio).data.toList] else [])++(if kCash a.kind=true then [(printS a.cash).data.toList] else [])
def restA (a:ActV):List (List UInt8):=(if kOther a.kind=true then [a.other.data.toList] else [])++numsA a
def wordsA (a:ActV):List (List UInt8):=wordK a.kind :: a.name.data.toList :: a.asset.data.toList :: Lib.decDigits a.ex.toNat :: Lib.decDigits a.rec_.toNat :: Lib.decDigits a.pay.toNat :: restA a
def printA (a:ActV):ByteArray:=if mayA a=true then ⟨(Lib.join (wordsA a) [32]).toArray⟩ else noB
def splitL (l:List UInt8):List (List UInt8):=match l with
 | []=>[[]]
 | c :: r=>if c=32 then [] :: splitL r else match splitL r with
  | w :: ws=>(c :: w) :: ws
  | []=>[[c]]
theorem split_word:∀ {w:List UInt8},(32:UInt8)∉w→splitL w=[w]
 | [],_=>rfl
 | c :: r,h=>by
  have h1:¬ c=32:=fun e=>h (by rw[e];exact List.mem_cons_self)
  rw[splitL,if_neg h1,split_word (fun e=>h (List.mem_cons_of_mem _ e))]
theorem split_first:∀ {w:List UInt8} (r:List UInt8),(32:UInt8)∉w→splitL (w++32 :: r)=w :: splitL r
 | [],r,_=>by
  show splitL (32 :: r) = _
  rw[splitL,if_pos rfl]
 | c :: w,r,h=>by
  have h1:¬ c=32:=fun e=>h (by rw[e];exact List.mem_cons_self)
  show splitL (c :: (w++32 :: r)) = _
  rw[splitL,if_neg h1,split_first r (fun e=>h (List.mem_cons_of_mem _ e))]
theorem split_join:∀ {ws:List (List UInt8)},ws≠[]→(∀ w∈ws,(32:UInt8)∉w)→splitL (Lib.join ws [32])=ws
 | [],h,_=>absurd rfl h
 | [w],_,h=>by rw[Lib.join_one];exact split_word (h w (by simp))
 | w :: v :: r,_,h=>by
  have e:Lib.join (w :: v :: r) [32]=w++32 :: Lib.join (v :: r) [32]:=by
   rw[Lib.join_cons,Lib.join_cons]
   unfold Lib.joinTail
   simp
  rw[e,split_first _ (h w (by simp)),split_join (by simp) (fun x hx=>h x (List.mem_cons_of_mem _ hx))]
def kindW (w:List UInt8):Option Int:=if w=wordK 0 then some 0 else if w=wordK 1 then some 1 else if w=wordK 2 then some 2 else if w=wordK 3 then some 3 else if w=wordK 4 then some 4 else none
theorem kindW_word {k:Int} (h0:0≤k) (h4:k≤4):kindW (wordK k)=some k:=by
 have:k=0∨k=1∨k=2∨k=3∨k=4:=by omega
 rcases this with rfl|rfl|rfl|rfl|rfl <;> decide
theorem kindW_le {w:List UInt8} {k:Int} (h:kindW w=some k):0≤k∧k≤4∧w=wordK k:=by
 unfold kindW at h
 (repeat' split at h) <;> first|(rename_i e;have h':=Option.some.inj h;subst h';exact⟨by decide,by decide,e⟩)|cases h
def dayW (w:List UInt8):Int×Bool:=smallS ⟨w.toArray⟩
def ratW (w:List UInt8):BB×Bool:=match parseL w with
 | some q=>(rT q,true)
 | none=>(no2,false)
def owed (k:Int):Nat:=6+(if kOther k=true then 1 else 0)+(if kRatio k=true then 1 else 0)+(if kCash k=true then 1 else 0)
def wAt (l:List (List UInt8)) (i:Nat):List UInt8:=l.getD i []
def wB (l:List (List UInt8)) (i:Nat):ByteArray:=⟨(wAt l i).toArray⟩
def ratAt (k:Int):Nat:=if kOther k=true then 7 else 6
def cashAt (k:Int):Nat:=ratAt k+(if kRatio k=true then 1 else 0)
def readA (k:Int) (l:List (List UInt8)):ActV:={ name:=wB l 1,kind:=k,asset:=wB l 2,other:=if kOther k=true then wB l 6 else noB,ratio:=if kRatio k=true then (ratW (wAt l (ratAt k))).1 else rT 0,cash:=if kCash k=true then (ratW (wAt l (cashAt k))).1 else rT 0,ex:=(dayW (wAt l 3)).1,rec_:=(dayW (wAt l 4)).1,pay:=(dayW (wAt l 5)).1 }
def readOk (k:Int) (l:List (List UInt8)):Bool:=decide (l.length=owed k)&&((dayW (wAt l 3)).2&&((dayW (wAt l 4)).2&&((dayW (wAt l 5)).2&&((!kRatio k || (ratW (wAt l (ratAt k))).2)&&(!kCash k || (ratW (wAt l (cashAt k))).2)))))
def parseWs (l:List (List UInt8)):Option ActV:=match kindW (wAt l 0) with
 | some k=>if (readOk k l&&mayA (readA k l))=true then some (readA k l) else none
 | none=>none
def parseT (s:List UInt8):Option ActV:=parseWs (splitL s)
theorem parseT_may {s:List UInt8} {a:ActV} (h:parseT s=some a):mayA a=true:=by
 unfold parseT parseWs at h
 split at h
 ·split at h
  ·rename_i hb
   rw[← Option.some.inj h]
   exact(Bool.and_eq_true_iff.1 hb).2
  ·exact absurd h (by simp)
 ·exact absurd h (by simp)
theorem sp_dig {l:List UInt8} (h:l.all isDig=true):(32:UInt8)∉l:=not_mem_dig (by decide) h
theorem sp_name {l:List UInt8} (h:nameL l=true):(32:UInt8)∉l:=by
 unfold nameL at h
 rw[Bool.and_eq_true,Bool.and_eq_true] at h
 have hall:=List.all_eq_true.1 h.2.2
 intro hm
 have hx:nameC 32=false:=by decide
 unfold bang at hall
 split at hall
 ·rename_i r
  rcases List.mem_cons.1 hm with e|e
  ·exact absurd e (by decide)
  ·have:=hall _ e
   rw[hx] at this
   exact absurd this (by decide)
 ·have:=hall _ hm
  rw[hx] at this
  exact absurd this (by decide)
theorem sp_asset {l:List UInt8} (h:assetL l=true):(32:UInt8)∉l:=sp_name (Bool.and_eq_true_iff.1 h).1
theorem sp_sg (z:Int):(32:UInt8)∉sgL z:=by
 unfold sgL
 split <;> simp
theorem sp_int (z:Int):(32:UInt8)∉(intB z).data.toList:=by
 rw[intL,List.mem_append]
 rintro (h|h)
 ·exact sp_sg z h
 ·exact sp_dig (dig_all _) h
theorem sp_print (q:Rat):(32:UInt8)∉printL q:=by
 have hal:(digsL q).all isDig=true:=pad_all (dig_all _)
 unfold printL
 split
 ·split
  ·exact sp_int _
  ·rw[List.mem_append,List.mem_append,List.mem_cons]
   rintro (h|h|h|h)
   ·exact sp_sg _ h
   ·exact sp_dig (all_take hal _) h
   ·exact absurd h (by decide)
   ·exact sp_dig (all_drop hal _) h
 ·rw[List.mem_append,List.mem_cons]
  rintro (h|h|h)
  ·exact sp_int _ h
  ·exact absurd h (by decide)
  ·exact sp_dig (dig_all _) h
theorem sp_printS (x:BB):(32:UInt8)∉(printS x).data.toList:=by
 unfold printS
 split
 ·exact sp_print _
 ·show (32:UInt8)∉([]:List UInt8)
  simp
theorem sp_word (k:Int):(32:UInt8)∉wordK k:=by
 unfold wordK
 (repeat' split) <;> decide
theorem mayA_and {a:ActV} (h:mayA a=true):(0≤a.kind∧a.kind≤4)∧nameL a.name.data.toList=true∧assetL a.asset.data.toList=true∧daysOk a=true∧otherOk a=true∧numOk a.ratio (kRatio a.kind) 1=true∧numOk a.cash (kCash a.kind) (kLeast a.kind)=true:=by
 unfold mayA at h
 simp only[Bool.and_eq_true,decide_eq_true_eq] at h
 exact⟨⟨h.1,h.2.1⟩,h.2.2.1,h.2.2.2.1,h.2.2.2.2.1,h.2.2.2.2.2.1,h.2.2.2.2.2.2.1,h.2.2.2.2.2.2.2⟩
theorem sp_words {a:ActV} (h:mayA a=true):∀ w∈wordsA a,(32:UInt8)∉w:=by
 obtain⟨hk,h1,h2,h3,h4,h5,h6⟩:=mayA_and h
 intro w hw
 unfold wordsA restA numsA at hw
 simp only[List.mem_cons,List.mem_append] at hw
 rcases hw with rfl|rfl|rfl|rfl|rfl|rfl|hw|hw|hw
 ·exact sp_word _
 ·exact sp_name h1
 ·exact sp_asset h2
 ·exact sp_dig (dig_all _)
 ·exact sp_dig (dig_all _)
 ·exact sp_dig (dig_all _)
 ·split at hw
  ·rename_i ho
   rw[List.mem_singleton] at hw
   subst hw
   unfold otherOk at h4
   rw[if_pos ho] at h4
   exact sp_asset (Bool.and_eq_true_iff.1 h4).1
  ·cases hw
 ·split at hw
  ·rw[List.mem_singleton] at hw
   subst hw
   exact sp_printS _
  ·cases hw
 ·split at hw
  ·rw[List.mem_singleton] at hw
   subst hw
   exact sp_printS _
  ·cases hw
theorem day_back {n:Int} (h0:0≤n) (h1:n≤9999):dayW (Lib.decDigits n.toNat)=(n,true):=by
 have e:(⟨(Lib.decDigits n.toNat).toArray⟩:ByteArray)=natB n.toNat:=rfl
 unfold dayW smallS
 rw[e,mayB_natB,numB_natB,Bool.true_and,if_pos (decide_eq_true (by unfold most63;omega))]
 congr 1
 omega
theorem rat_back {x:BB} {least:Int} (h:numOk x true least=true):ratW (printS x).data.toList=(x,true):=by
 unfold numOk at h
 rw[if_pos rfl,Bool.and_eq_true,Bool.and_eq_true,Bool.and_eq_true,decide_eq_true_eq,decide_eq_true_eq,decide_eq_true_eq] at h
 obtain⟨hm,_,l1,l2⟩:=h
 obtain⟨q,rfl⟩:=of_mayR hm
 have hs:szR q≤40:=by
  show (rT q).1.size+(rT q).2.size≤40
  omega
 have hl:=print_len q
 unfold ratW
 rw[print_rT_list,parse_print q (by omega)]
theorem toB (s:ByteArray):(⟨s.data.toList.toArray⟩:ByteArray)=s:=bext rfl
theorem parse_words {a:ActV} (h:mayA a=true):parseWs (wordsA a)=some a:=by
 obtain⟨⟨k0,k4⟩,h1,h2,h3,h4,h5,h6⟩:=mayA_and h
 unfold daysOk at h3
 simp only[Bool.and_eq_true,decide_eq_true_eq] at h3
 obtain⟨d0,d1,d2,d3⟩:=h3
 obtain⟨name,kind,asset,other,ratio,cash,ex,rec_,pay⟩:=a
 dsimp only at k0 k4 d0 d1 d2 d3
 have e1:=day_back (n:=ex) (by omega) (by omega)
 have e2:=day_back (n:=rec_) (by omega) (by omega)
 have e3:=day_back (n:=pay) (by omega) (by omega)
 have ek:=kindW_word k0 k4
 have hk:kind=0∨kind=1∨kind=2∨kind=3∨kind=4:=by omega
 have main:∀ (l:List (List UInt8)),l=wordsA ⟨name,kind,asset,other,ratio,cash,ex,rec_,pay⟩→readOk kind l=true∧readA kind l=⟨name,kind,asset,other,ratio,cash,ex,rec_,pay⟩:=by
  rintro l rfl
  unfold otherOk at h4
  dsimp only at h4 h5 h6
  rcases hk with rfl|rfl|rfl|rfl|rfl
  ·have o1:other=noB:=of_decide_eq_true h4
   have c1:cash=rT 0:=of_decide_eq_true h6
   have r1:=rat_back (x:=ratio) h5
   constructor
   ·show (decide ((7:Nat)=7)&&((dayW (Lib.decDigits ex.toNat)).2&&((dayW (Lib.decDigits rec_.toNat)).2&&((dayW (Lib.decDigits pay.toNat)).2&&((!true || (ratW (printS ratio).data.toList).2)&&(!false || _))))))=true
    rw[e1,e2,e3,r1]
    rfl
   ·show ActV.mk ⟨name.data.toList.toArray⟩ 0 ⟨asset.data.toList.toArray⟩ noB (ratW (printS ratio).data.toList).1 (rT 0) (dayW (Lib.decDigits ex.toNat)).1 (dayW (Lib.decDigits rec_.toNat)).1 (dayW (Lib.decDigits pay.toNat)).1 = _
    rw[e1,e2,e3,r1,o1,c1,toB,toB]
  ·have o1:other=noB:=of_decide_eq_true h4
   have c1:cash=rT 0:=of_decide_eq_true h6
   have r1:=rat_back (x:=ratio) h5
   constructor
   ·show (decide ((7:Nat)=7)&&((dayW (Lib.decDigits ex.toNat)).2&&((dayW (Lib.decDigits rec_.toNat)).2&&((dayW (Lib.decDigits pay.toNat)).2&&((!true || (ratW (printS ratio).data.toList).2)&&(!false || _))))))=true
    rw[e1,e2,e3,r1]
    rfl
   ·show ActV.mk ⟨name.data.toList.toArray⟩ 1 ⟨asset.data.toList.toArray⟩ noB (ratW (printS ratio).data.toList).1 (rT 0) (dayW (Lib.decDigits ex.toNat)).1 (dayW (Lib.decDigits rec_.toNat)).1 (dayW (Lib.decDigits pay.toNat)).1 = _
    rw[e1,e2,e3,r1,o1,c1,toB,toB]
  ·have o1:other=noB:=of_decide_eq_true h4
   have c1:ratio=rT 0:=of_decide_eq_true h5
   have r1:=rat_back (x:=cash) h6
   constructor
   ·show (decide ((7:Nat)=7)&&((dayW (Lib.decDigits ex.toNat)).2&&((dayW (Lib.decDigits rec_.toNat)).2&&((dayW (Lib.decDigits pay.toNat)).2&&((!false || _)&&(!true || (ratW (printS cash).data.toList).2))))))=true
    rw[e1,e2,e3,r1]
    rfl
   ·show ActV.mk ⟨name.data.toList.toArray⟩ 2 ⟨asset.data.toList.toArray⟩ noB (rT 0) (ratW (printS cash).data.toList).1 (dayW (Lib.decDigits ex.toNat)).1 (dayW (Lib.decDigits rec_.toNat)).1 (dayW (Lib.decDigits pay.toNat)).1 = _
    rw[e1,e2,e3,r1,o1,c1,toB,toB]
  ·have c1:cash=rT 0:=of_decide_eq_true h6
   have r1:=rat_back (x:=ratio) h5
   constructor
   ·show (decide ((8:Nat)=8)&&((dayW (Lib.decDigits ex.toNat)).2&&((dayW (Lib.decDigits rec_.toNat)).2&&((dayW (Lib.decDigits pay.toNat)).2&&((!true || (ratW (printS ratio).data.toList).2)&&(!false || _))))))=true
    rw[e1,e2,e3,r1]
    rfl
   ·show ActV.mk ⟨name.data.toList.toArray⟩ 3 ⟨asset.data.toList.toArray⟩ ⟨other.data.toList.toArray⟩ (ratW (printS ratio).data.toList).1 (rT 0) (dayW (Lib.decDigits ex.toNat)).1 (dayW (Lib.decDigits rec_.toNat)).1 (dayW (Lib.decDigits pay.toNat)).1 = _
    rw[e1,e2,e3,r1,c1,toB,toB,toB]
  ·have r1:=rat_back (x:=ratio) h5
   have r2:=rat_back (x:=cash) h6
   constructor
   ·show (decide ((9:Nat)=9)&&((dayW (Lib.decDigits ex.toNat)).2&&((dayW (Lib.decDigits rec_.toNat)).2&&((dayW (Lib.decDigits pay.toNat)).2&&((!true || (ratW (printS ratio).data.toList).2)&&(!true || (ratW (printS cash).data.toList).2))))))=true
    rw[e1,e2,e3,r1,r2]
    rfl
   ·show ActV.mk ⟨name.data.toList.toArray⟩ 4 ⟨asset.data.toList.toArray⟩ ⟨other.data.toList.toArray⟩ (ratW (printS ratio).data.toList).1 (ratW (printS cash).data.toList).1 (dayW (Lib.decDigits ex.toNat)).1 (dayW (Lib.decDigits rec_.toNat)).1 (dayW (Lib.decDigits pay.toNat)).1 = _
    rw[e1,e2,e3,r1,r2,toB,toB,toB]
 obtain⟨m1,m2⟩:=main _ rfl
 unfold parseWs
 have e0:wAt (wordsA ⟨name,kind,asset,other,ratio,cash,ex,rec_,pay⟩) 0=wordK kind:=rfl
 rw[e0,ek]
 dsimp only
 rw[m1,m2,h,Bool.true_and,if_pos rfl]
theorem print_list {a:ActV} (h:mayA a=true):(printA a).data.toList=Lib.join (wordsA a) [32]:=by
 unfold printA
 rw[if_pos h]
theorem parse_back {a:ActV} (h:mayA a=true):parseT (printA a).data.toList=some a:=by
 unfold parseT
 rw[print_list h,split_join (by unfold wordsA;simp) (sp_words h),parse_words h]
theorem print_ne {a:ActV} (h:mayA a=true):(printA a).data.toList≠[]:=by
 intro e
 have h1:=parse_back h
 rw[e] at h1
 exact absurd h1 (by rw[show parseT []=none by decide +kernel];simp)
theorem print_not {a:ActV} (h:¬ mayA a=true):printA a=noB:=if_neg h
theorem print_eq {a b:ActV} (ha:mayA a=true) (hb:mayA b=true) (h:printA a=printA b):a=b:=by
 have h1:=parse_back ha
 rw[h,parse_back hb] at h1
 exact(Option.some.inj h1).symm
end Go.Proofs.YtoghmeffpgbcfaaGreatDoor
end

section
namespace Go.Proofs.YtoghmeffpgbcfaaGreatDoor
theorem Rd.set_ok {w:World} {g gb i:Nat} {ws:List ByteArray} {ok:Bool} (h:Rd w g gb ws i ok) (b:Bool):Rd (w.setCell ⟨g,1,none⟩ (.bool b)) g gb ws i b:=by
 obtain⟨⟨A,c,c0,hA⟩,c1,f0,f1,row,ne,sz,inb⟩:=h
 refine⟨⟨A,c,?_,hA⟩,?_,?_,?_,?_,ne,sz,?_⟩
 ·rw[off_cell _ (by decide)];exact c0
 ·exact World.cell?_setCell_same _ _ _ c1
 ·rw[World.frozen?_setCell];exact f0
 ·rw[World.frozen?_setCell];exact f1
 ·intro j x hj
  rw[far_cell _ ne]
  exact row j x hj
 ·simpa using inb
set_option maxHeartbeats 4000000 in
theorem day_calls {g gb i:Nat} {ws:List ByteArray} {ok:Bool} {w0 w:World} (hL:Laid w0) (hb0:Below w0.heap.size w0 w) (hB:w0.heap.size≤g) (h:Rd w g gb ws i ok) (hsz:(ws.getD i ⟨#[]⟩).size≤50000) :
  Calls Tryz.prog 20 #[.pointer (some ⟨g,0,none⟩)] w fun e w'=>e=.returned (.int .i64 (smallS (ws.getD i ⟨#[]⟩)).1)∧Rd w' g gb ws (i+1) ((ok&&decide (i<ws.length))&&(smallS (ws.getD i ⟨#[]⟩)).2)∧Below w0.heap.size w0 w'∧(∀ b,b≠g→b<w.heap.size→w'.heap[b]?=w.heap[b]?):=by
 have hw:=word_calls (B:=w0.heap.size) hB h
 have hsm:nat_Small.f (ws.getD i ⟨#[]⟩)=some ((smallS (ws.getD i ⟨#[]⟩)).1,(smallS (ws.getD i ⟨#[]⟩)).2):=if_pos (decide_eq_true hsz)
 generalize ws.getD i ⟨#[]⟩=s at hw hsm ⊢
 generalize (smallS s).1=n at hsm ⊢
 generalize (smallS s).2=b at hsm ⊢
 generalize (ok&&decide (i<ws.length))=ok1 at hw ⊢
 clear hsz h
 cases ok1 <;> cases b
 all_goals
  go_enter Tryz.func20,Tryz.ntmps20
  go_wp2_with (first|(go_at_call 18;refine hw.mono ?_;rintro e w1 ⟨rfl,h1,b1,k1⟩;have hc1:=h1.c1;have hf1:=h1.f1)|(go_at_call 41;refine(nat_Small.calls s n _ w1 (hL.below (hb0.trans b1)) hsm).mono ?_;rintro e w2 ⟨rfl,b2⟩;have h2:=h1.below b2;have hc2:=h2.c1;have hf2:=h2.f1))
  go_ret
  refine⟨rfl,h2.set_ok _,((hb0.trans b1).trans (b2.mono (below_size (hb0.trans b1)))).setCell hB _,fun k hk hk2=>?_⟩
  rw[heap_setCell_other _ _ _ _ hk,b2.block k (Nat.lt_of_lt_of_le hk2 b1.size),k1 k hk]
end Go.Proofs.YtoghmeffpgbcfaaGreatDoor
end

section
namespace Go.Proofs.YtoghmeffpgbcfaaGreatDoor
def gcdS (a b:ByteArray):ByteArray:=if may2 a b=true then natB (Nat.gcd (numB a) (numB b)) else noB
end Go.Proofs.YtoghmeffpgbcfaaGreatDoor
end

section
namespace Go.Proofs.YtoghmeffpgbcfaaGreatDoor
theorem gcd_loop:∀ (n m k:Nat),(lim m).length≤50000→(lim n).length≤50000→n+1≤k→Pr.nat_Gcd.l0 k (lim m) (lim n)=some (natB (Nat.gcd m n))
 | n,m,k,hm,hn,hk=>by
  obtain⟨k,rfl⟩:∃ j,k=j+1:=⟨k-1,by omega⟩
  simp only[Pr.nat_Gcd.l0]
  by_cases h:n=0
  ·subst h
   rw[lim_zero,if_neg (by decide),text_natB (by omega),Nat.gcd_zero_right]
   rfl
  ·have h1:((lim n).length:Int)>0:=by
    have:((lim n).length:Int)≠0:=fun e=>h ((lim_zero_len n).1 e)
    omega
   rw[if_pos h1,divL_f hm hn h,Option.bind_some]
   have h2:=Nat.mod_lt m (show 0<n by omega)
   have:=gcd_loop (m % n) n k hn (Nat.le_trans (lim_le_len (Nat.mod_le m n)) hm) (by omega)
   rw[this,Nat.gcd_comm m n,Nat.gcd_rec n m,Nat.gcd_comm]
 termination_by n=>n
 decreasing_by exact Nat.mod_lt m (by omega)
theorem gcd_f {a b:ByteArray} (ha:sm a=true) (hb:sm b=true) (k:Nat) (hk:numB b+1≤k):Pr.nat_Gcd.f k a b=some (gcdS a b):=by
 obtain⟨k,rfl⟩:∃ j,k=j+1:=⟨k-1,by omega⟩
 unfold Pr.nat_Gcd.f gcdS
 rw[both_f ha hb,Option.bind_some]
 by_cases h:may2 a b=true
 ·obtain⟨h1,h2⟩:=may2_and h
  rw[if_pos h,if_pos rfl,if_pos h]
  exact gcd_loop (numB b) (numB a) (k+1) (lim_sm ha h1) (lim_sm hb h2) hk
 ·rw[if_neg h,if_neg (by decide),if_neg h]
  rfl
def nat_Gcd.f (a0 a1:ByteArray):Option ByteArray:=if sm2 a0 a1=true then some (gcdS a0 a1) else none
theorem nat_Gcd.calls (a0 a1:ByteArray) (r:ByteArray) (w:World) (hL_:Laid w) (h:nat_Gcd.f a0 a1=some r) :
  Calls Tryz.prog 99 #[.string a0,.string a1] w fun e w'=>e=.returned (.string r)∧Below w.heap.size w w':=by
 unfold nat_Gcd.f at h
 split at h
 ·rename_i hp
  rw[← gcd_f (and2 hp).1 (and2 hp).2 _ (Nat.le_refl _)] at h
  exact Pr.nat_Gcd.calls _ a0 a1 r w hL_ h
 ·cases h
end Go.Proofs.YtoghmeffpgbcfaaGreatDoor
end

section
namespace Go.Proofs.YtoghmeffpgbcfaaGreatDoor
theorem fGcd {m n:Nat} (hm:sz m≤50000) (hn:sz n≤50000):nat_Gcd.f (natB m) (natB n)=some (natB (Nat.gcd m n)):=by
 unfold nat_Gcd.f gcdS
 rw[if_pos (sm2_natB hm hn),if_pos (may2_natB m n),numB_natB,numB_natB]
end Go.Proofs.YtoghmeffpgbcfaaGreatDoor
end

section
namespace Go.Proofs.YtoghmeffpgbcfaaGreatDoor.Py
def errW:Option Int→Value
 | none=>.nilIface
 | some c=>.iface 0 (.int .i64 c)
theorem errW_none:errW none=.nilIface:=rfl
theorem errW_some (c:Int):errW (some c)=.iface 0 (.int .i64 c):=rfl
end Go.Proofs.YtoghmeffpgbcfaaGreatDoor.Py
end

section
namespace Go.Proofs.YtoghmeffpgbcfaaGreatDoor.Py
def rat_May.f (a0_0:ByteArray) (a0_1:ByteArray):Option (Bool):=(whole_May.f a0_0).bind fun t102=>(if t102=true then ((nat_May.f a0_1).bind fun t103=>(if t103=true then (if a0_1.toList=([48]:List UInt8) then (some false) else ((whole_Abs.f a0_0).bind fun t104=>((nat_Gcd.f t104 a0_1).bind fun t105=>(some (t105.toList == ([49]:List UInt8)))))) else (some false))) else (some false))
def rat_May.T1:Bool×List (List Nat×List Nat):=(true,[([],[]),([0],[0]),([1],[1]),([2,2],[2]),([3],[3]),([4,3],[3,4]),([5,3,3],[3,5]),([3,6],[3,6]),([7,6],[7]),([8],[8]),([9,8],[8,9]),([10,8],[8,10]),([8,11],[8,11]),([12,8],[12]),([13],[13]),([14,13],[13,14]),([15,13,13],[13,15]),([13],[13]),([17,13],[13,17]),([16,18,16,13],[13,16,18]),([19,13],[13,19]),([13,20],[13,20]),([21,19,0,1,2,3,4,5,6,7,8,9,10,11,12,13,14,15,16,17,18,19,20,21],[21])])
def rat_May.B1:List Nat:=[0,1,3,7,15,31,63,127,255,511,1023,2047,4095,8191,16383,32767,65535,16383,147455,524287,1048575,2097151,4194303]
theorem rat_May.tab1:rtab .any (opsOf Tryz.f53 1)=rat_May.T1:=by kernel_rfl
theorem rat_May.bits1:waitsOk rat_May.T1.2 rat_May.B1=true:=by kernel_rfl
set_option maxHeartbeats 8000000 in
set_option maxRecDepth 100000 in
theorem rat_May.calls (a0_0:ByteArray) (a0_1:ByteArray) (r:Bool) (w:World) (hL_:Laid w) (h:rat_May.f a0_0 a0_1=some r) :
  Calls Tryz.prog 53 #[.agg #[.string a0_0,.string a0_1]] w fun e w'=>e=.returned (.bool r)∧Below w.heap.size w w':=by
 have hu23:=Tryz.underlying23;have HLD:=Aside0.mk hL_;clear hL_;have HB:=Aside0.mk (Below.refl w.heap.size w);have H:=h;unfold rat_May.f at H;clear h;obtain⟨t102,A2,H⟩:=bi_ H;by_cases c3:t102=true
 ·subst c3;rw[if_pos rfl] at H;obtain⟨t103,A4,H⟩:=bi_ H;by_cases c5:t103=true
  ·subst c5;rw[if_pos rfl] at H;by_cases c6:a0_1.toList=([48]:List UInt8)
   ·rw[if_pos c6] at H;have c6b0:(a0_1.toList == ([48]:List UInt8))=true:=beq_iff_eq.mpr c6;have c6b1:(a0_1.toList != ([48]:List UInt8))=false:=bne_eq_false_iff_eq.mpr c6;clear c6;obtain rfl:=Option.some.inj H;go_enter Tryz.func53,Tryz.ntmps53
    try go_wp2_with (first|((with_reducible refine gate_dst (N:=1) rfl ?_);refine be_ 1 #[.string a0_0,.string a0_1] 23 ?_;intro gb101 hg w7 hbox hb;have BK101:=Aside0.mk (hbox);have GW101:=ge_ HB hg;have GE101:=ge_ HB hg;replace HB:=bs_ HB hb;clear hb hbox hg))
    replace BK101:=Aside0.mk (blk_drew BK101.out);replace HB:=Aside0.mk (below_drew1 HB.out);refine sa_ 23 (fun w'=>w'.cell? ⟨gb101,0,none⟩=some (.string a0_0)∧w'.cell? ⟨gb101,1,none⟩=some (.string a0_1)) (fun hHeld=>?_);refine with_tabW rat_May.tab1 rat_May.bits1 (fun HT_ HW_=>?_);generalize w7.drew=w8 at BK101 HB hHeld ⊢;refine pu_ 0 3 rfl rfl HT_ ?_;refine t2_ 1 4 rfl rfl HT_ HW_ hHeld ?_;refine on_ 2 (some 5) rfl rfl HT_ (fun K hK=>?_);refine gs_ Tryz.func98 #[.string a0_0] ?_;refine mo_ (whole_May.calls a0_0 true _ A2.out) ?_;intro w9 hb;replace BK101:=kb_ BK101 hb;replace HB:=bs_ HB hb;(try clear hb);refine hk_ hK (fun hHeld=>?_);clear hK K;refine nm_ ?_;refine pu_ 3 6 rfl rfl HT_ ?_;refine pu_ 4 7 rfl rfl HT_ ?_;refine t2_ 5 8 rfl rfl HT_ HW_ hHeld ?_;refine on_ 6 (some 9) rfl rfl HT_ (fun K hK=>?_);refine gs_ Tryz.func79 #[.string a0_1] ?_;refine mo_ (nat_May.calls a0_1 true _ A4.out) ?_;intro w10 hb;replace BK101:=kb_ BK101 hb;replace HB:=bs_ HB hb;(try clear hb);refine hk_ hK (fun hHeld=>?_);clear hK K;refine nm_ ?_;refine pu_ 7 10 rfl rfl HT_ ?_;refine pu_ 8 11 rfl rfl HT_ ?_;refine pu_ 9 12 rfl rfl HT_ ?_;refine t2_ 10 13 rfl rfl HT_ HW_ hHeld ?_;refine pu_ 11 14 rfl rfl HT_ ?_;refine pu_ 12 15 rfl rfl HT_ ?_;refine pu_ 13 16 rfl rfl HT_ ?_;refine pv_ 14 17 rfl rfl HT_ ?_;refine pv_ 15 18 rfl rfl HT_ ?_;refine pv_ 16 19 rfl rfl HT_ ?_;refine pv_ 17 20 rfl rfl HT_ ?_;refine pv_ 18 21 rfl rfl HT_ ?_;refine pv_ 19 22 rfl rfl HT_ ?_;refine pv_ 20 23 rfl rfl HT_ ?_;refine pu_ 21 24 rfl rfl HT_ ?_;refine pu_ 22 2 rfl rfl HT_ ?_;refine done_ (done_of HT_.out (by kernel_rfl)) ?_
    try go_wp2
    go_ret
    exact⟨er_,b_ HB.out⟩
   ·rw[if_neg c6] at H;have c6b0:(a0_1.toList == ([48]:List UInt8))=false:=beq_eq_false_iff_ne.mpr c6;have c6b1:(a0_1.toList != ([48]:List UInt8))=true:=bne_iff_ne.mpr c6;obtain⟨t104,A11,H⟩:=bi_ H;obtain⟨t105,A12,H⟩:=bi_ H;obtain rfl:=Option.some.inj H;go_enter Tryz.func53,Tryz.ntmps53
    try go_wp2_with (first|((with_reducible refine gate_dst (N:=1) rfl ?_);refine be_ 1 #[.string a0_0,.string a0_1] 23 ?_;intro gb101 hg w13 hbox hb;have BK101:=Aside0.mk (hbox);have GW101:=ge_ HB hg;have GE101:=ge_ HB hg;replace HB:=bs_ HB hb;clear hb hbox hg))
    replace BK101:=Aside0.mk (blk_drew BK101.out);replace HB:=Aside0.mk (below_drew1 HB.out);refine sa_ 23 (fun w'=>w'.cell? ⟨gb101,0,none⟩=some (.string a0_0)∧w'.cell? ⟨gb101,1,none⟩=some (.string a0_1)) (fun hHeld=>?_);refine with_tabW rat_May.tab1 rat_May.bits1 (fun HT_ HW_=>?_);generalize w13.drew=w14 at BK101 HB hHeld ⊢;refine pu_ 0 3 rfl rfl HT_ ?_;refine t2_ 1 4 rfl rfl HT_ HW_ hHeld ?_;refine on_ 2 (some 5) rfl rfl HT_ (fun K hK=>?_);refine gs_ Tryz.func98 #[.string a0_0] ?_;refine mo_ (whole_May.calls a0_0 true _ A2.out) ?_;intro w15 hb;replace BK101:=kb_ BK101 hb;replace HB:=bs_ HB hb;(try clear hb);refine hk_ hK (fun hHeld=>?_);clear hK K;refine nm_ ?_;refine pu_ 3 6 rfl rfl HT_ ?_;refine pu_ 4 7 rfl rfl HT_ ?_;refine t2_ 5 8 rfl rfl HT_ HW_ hHeld ?_;refine on_ 6 (some 9) rfl rfl HT_ (fun K hK=>?_);refine gs_ Tryz.func79 #[.string a0_1] ?_;refine mo_ (nat_May.calls a0_1 true _ A4.out) ?_;intro w16 hb;replace BK101:=kb_ BK101 hb;replace HB:=bs_ HB hb;(try clear hb);refine hk_ hK (fun hHeld=>?_);clear hK K;refine nm_ ?_;refine pu_ 7 10 rfl rfl HT_ ?_;refine pu_ 8 11 rfl rfl HT_ ?_;refine pu_ 9 12 rfl rfl HT_ ?_;refine t2_ 10 13 rfl rfl HT_ HW_ hHeld ?_;refine pu_ 11 14 rfl rfl HT_ ?_;refine pu_ 12 15 rfl rfl HT_ ?_;refine pu_ 13 16 rfl rfl HT_ ?_;refine pu_ 14 17 rfl rfl HT_ ?_;refine pu_ 17 20 rfl rfl HT_ ?_;refine t2_ 15 18 rfl rfl HT_ HW_ hHeld ?_;refine t2_ 18 21 rfl rfl HT_ HW_ hHeld ?_;refine on_ 16 (some 19) rfl rfl HT_ (fun K hK=>?_);refine gs_ Tryz.func62 #[.string a0_0] ?_;refine mo_ (whole_Abs.calls a0_0 t104 _ A11.out) ?_;intro w17 hb;replace BK101:=kb_ BK101 hb;replace HB:=bs_ HB hb;(try clear hb);refine hk_ hK (fun hHeld=>?_);clear hK K;refine nm_ ?_;refine on_ 19 (some 22) rfl rfl HT_ (fun K hK=>?_);refine gs_ Tryz.func99 #[.string t104,.string a0_1] ?_;refine mo_ (nat_Gcd.calls t104 a0_1 t105 _ (lb_ HLD HB) A12.out) ?_;intro w18 hb;replace BK101:=kb_ BK101 hb;replace HB:=bs_ HB hb;(try clear hb);refine hk_ hK (fun hHeld=>?_);clear hK K;refine nm_ ?_;refine pu_ 20 23 rfl rfl HT_ ?_;refine pu_ 21 24 rfl rfl HT_ ?_;refine pu_ 22 2 rfl rfl HT_ ?_;refine done_ (done_of HT_.out (by kernel_rfl)) ?_
    try go_wp2
    go_ret
    exact⟨er_,b_ HB.out⟩
  ·replace c5:=Bool.eq_false_iff.mpr c5;subst c5;rw[if_neg nf_] at H;obtain rfl:=Option.some.inj H;go_enter Tryz.func53,Tryz.ntmps53
   try go_wp2_with (first|((with_reducible refine gate_dst (N:=1) rfl ?_);refine be_ 1 #[.string a0_0,.string a0_1] 23 ?_;intro gb101 hg w19 hbox hb;have BK101:=Aside0.mk (hbox);have GW101:=ge_ HB hg;have GE101:=ge_ HB hg;replace HB:=bs_ HB hb;clear hb hbox hg))
   replace BK101:=Aside0.mk (blk_drew BK101.out);replace HB:=Aside0.mk (below_drew1 HB.out);refine sa_ 23 (fun w'=>w'.cell? ⟨gb101,0,none⟩=some (.string a0_0)∧w'.cell? ⟨gb101,1,none⟩=some (.string a0_1)) (fun hHeld=>?_);refine with_tabW rat_May.tab1 rat_May.bits1 (fun HT_ HW_=>?_);generalize w19.drew=w20 at BK101 HB hHeld ⊢;refine pu_ 0 3 rfl rfl HT_ ?_;refine t2_ 1 4 rfl rfl HT_ HW_ hHeld ?_;refine on_ 2 (some 5) rfl rfl HT_ (fun K hK=>?_);refine gs_ Tryz.func98 #[.string a0_0] ?_;refine mo_ (whole_May.calls a0_0 true _ A2.out) ?_;intro w21 hb;replace BK101:=kb_ BK101 hb;replace HB:=bs_ HB hb;(try clear hb);refine hk_ hK (fun hHeld=>?_);clear hK K;refine nm_ ?_;refine pu_ 3 6 rfl rfl HT_ ?_;refine pu_ 4 7 rfl rfl HT_ ?_;refine t2_ 5 8 rfl rfl HT_ HW_ hHeld ?_;refine on_ 6 (some 9) rfl rfl HT_ (fun K hK=>?_);refine gs_ Tryz.func79 #[.string a0_1] ?_;refine mo_ (nat_May.calls a0_1 false _ A4.out) ?_;intro w22 hb;replace BK101:=kb_ BK101 hb;replace HB:=bs_ HB hb;(try clear hb);refine hk_ hK (fun hHeld=>?_);clear hK K;refine nm_ ?_;refine pu_ 7 10 rfl rfl HT_ ?_;refine pu_ 8 11 rfl rfl HT_ ?_;refine pv_ 9 12 rfl rfl HT_ ?_;refine pv_ 10 13 rfl rfl HT_ ?_;refine pv_ 11 14 rfl rfl HT_ ?_;refine pu_ 12 15 rfl rfl HT_ ?_;refine pu_ 13 16 rfl rfl HT_ ?_;refine pv_ 14 17 rfl rfl HT_ ?_;refine pv_ 15 18 rfl rfl HT_ ?_;refine pv_ 16 19 rfl rfl HT_ ?_;refine pv_ 17 20 rfl rfl HT_ ?_;refine pv_ 18 21 rfl rfl HT_ ?_;refine pv_ 19 22 rfl rfl HT_ ?_;refine pv_ 20 23 rfl rfl HT_ ?_;refine pu_ 21 24 rfl rfl HT_ ?_;refine pu_ 22 2 rfl rfl HT_ ?_;refine done_ (done_of HT_.out (by kernel_rfl)) ?_
   try go_wp2
   go_ret
   exact⟨er_,b_ HB.out⟩
 ·replace c3:=Bool.eq_false_iff.mpr c3;subst c3;rw[if_neg nf_] at H;obtain rfl:=Option.some.inj H;go_enter Tryz.func53,Tryz.ntmps53
  try go_wp2_with (first|((with_reducible refine gate_dst (N:=1) rfl ?_);refine be_ 1 #[.string a0_0,.string a0_1] 23 ?_;intro gb101 hg w23 hbox hb;have BK101:=Aside0.mk (hbox);have GW101:=ge_ HB hg;have GE101:=ge_ HB hg;replace HB:=bs_ HB hb;clear hb hbox hg))
  replace BK101:=Aside0.mk (blk_drew BK101.out);replace HB:=Aside0.mk (below_drew1 HB.out);refine sa_ 23 (fun w'=>w'.cell? ⟨gb101,0,none⟩=some (.string a0_0)∧w'.cell? ⟨gb101,1,none⟩=some (.string a0_1)) (fun hHeld=>?_);refine with_tabW rat_May.tab1 rat_May.bits1 (fun HT_ HW_=>?_);generalize w23.drew=w24 at BK101 HB hHeld ⊢;refine pu_ 0 3 rfl rfl HT_ ?_;refine t2_ 1 4 rfl rfl HT_ HW_ hHeld ?_;refine on_ 2 (some 5) rfl rfl HT_ (fun K hK=>?_);refine gs_ Tryz.func98 #[.string a0_0] ?_;refine mo_ (whole_May.calls a0_0 false _ A2.out) ?_;intro w25 hb;replace BK101:=kb_ BK101 hb;replace HB:=bs_ HB hb;(try clear hb);refine hk_ hK (fun hHeld=>?_);clear hK K;refine nm_ ?_;refine pu_ 3 6 rfl rfl HT_ ?_;refine pv_ 4 7 rfl rfl HT_ ?_;refine pv_ 5 8 rfl rfl HT_ ?_;refine pv_ 6 9 rfl rfl HT_ ?_;refine pu_ 7 10 rfl rfl HT_ ?_;refine pu_ 8 11 rfl rfl HT_ ?_;refine pv_ 9 12 rfl rfl HT_ ?_;refine pv_ 10 13 rfl rfl HT_ ?_;refine pv_ 11 14 rfl rfl HT_ ?_;refine pu_ 12 15 rfl rfl HT_ ?_;refine pu_ 13 16 rfl rfl HT_ ?_;refine pv_ 14 17 rfl rfl HT_ ?_;refine pv_ 15 18 rfl rfl HT_ ?_;refine pv_ 16 19 rfl rfl HT_ ?_;refine pv_ 17 20 rfl rfl HT_ ?_;refine pv_ 18 21 rfl rfl HT_ ?_;refine pv_ 19 22 rfl rfl HT_ ?_;refine pv_ 20 23 rfl rfl HT_ ?_;refine pu_ 21 24 rfl rfl HT_ ?_;refine pu_ 22 2 rfl rfl HT_ ?_;refine done_ (done_of HT_.out (by kernel_rfl)) ?_
  try go_wp2
  go_ret
  exact⟨er_,b_ HB.out⟩
end Go.Proofs.YtoghmeffpgbcfaaGreatDoor.Py
end

section
namespace Go.Proofs.YtoghmeffpgbcfaaGreatDoor.Py
def rat_reduced.j0:Nat→ByteArray→ByteArray→Option (ByteArray×ByteArray)
 | 0,_,_=>none
 | k+1,x0,x1=>(whole_Abs.f x0).bind fun t110=>((nat_Gcd.f t110 x1).bind fun t111=>((whole_Div.f x0 t111).bind fun bt112=>((whole_Div.f x1 t111).bind fun bt115=>(some (bt112.1,bt115.1)))))
def rat_reduced.f (k:Nat) (a0:ByteArray) (a1:ByteArray):Option (ByteArray×ByteArray):=(whole_Sign.f a1).bind fun t107=>(if t107<0 then ((whole_Neg.f a0).bind fun t108=>((whole_Neg.f a1).bind fun t109=>(rat_reduced.j0 k t108 t109))) else (rat_reduced.j0 k a0 a1))
set_option maxHeartbeats 8000000 in
set_option maxRecDepth 100000 in
theorem rat_reduced.calls (k:Nat) (a0:ByteArray) (a1:ByteArray) (r1:ByteArray) (r2:ByteArray) (w:World) (hL_:Laid w) (h:rat_reduced.f k a0 a1=some (r1,r2)) :
  Calls Tryz.prog 128 #[.string a0,.string a1] w fun e w'=>e=.returned (.agg #[.string r1,.string r2])∧Below w.heap.size w w':=by
 have hu23:=Tryz.underlying23;have HLD:=Aside0.mk hL_;clear hL_;have HB:=Aside0.mk (Below.refl w.heap.size w);have H:=h;unfold rat_reduced.f at H;clear h;obtain⟨t107,A3,H⟩:=bi_ H;have HC4:=Aside0.mk H;clear H;go_enter Tryz.func128,Tryz.ntmps128
 go_upto_if 8 with (first|((with_reducible refine gate_dst (N:=4) rfl ?_);refine be_ 4 #[.string (⟨#[]⟩:ByteArray),.string (⟨#[]⟩:ByteArray)] 23 ?_;intro gb106 hg w5 hbox hb;have BK106:=Aside0.mk (hbox);have GW106:=ge_ HB hg;have GE106:=ge_ HB hg;replace HB:=bs_ HB hb;clear hb hbox hg)|(refine gl_ 7 Tryz.func64 #[.string a1] ?_;refine mo_ (whole_Sign.calls a1 t107 _ A3.out) ?_;intro w6 hb;replace BK106:=kb_ BK106 hb;replace HB:=bs_ HB hb;(try clear hb);(try clear hb2);(try clear hk);(try clear hi)))
 (try simp only[Act.put,List.setIfInBounds_toArray,List.set_cons_zero,List.set_cons_succ])
 go_cut [0,1] (fun v0 v1 wc=>∃ (kq:Nat) (x0_3:ByteArray) (x1_3:ByteArray),v0=.string x0_3∧v1=.string x1_3∧Aside0 (rat_reduced.j0 kq x0_3 x1_3=some (r1,r2))∧Aside0 (kq≤k)∧Aside0 (wc.heap[gb106]?=some (.cells #[.string (⟨#[]⟩:ByteArray),.string (⟨#[]⟩:ByteArray)] 23 (0,0)))∧Aside0 (Below w.heap.size w wc))
 case first =>
  have H:=HC4.out;clear HC4;by_cases c7:t107<0
  ·rw[if_pos c7] at H;have c7b0:decide (t107<0)=true:=decide_eq_true c7;clear c7;(first|rw[c7b0]|(simp only[i64_w,i32_w];rw[c7b0])|skip);obtain⟨t108,A8,H⟩:=bi_ H;obtain⟨t109,A9,H⟩:=bi_ H;have H':=Aside0.mk H;clear H
   go_wp2_with (first|(refine gl_ 10 Tryz.func86 #[.string a0] ?_;refine mo_ (whole_Neg.calls a0 t108 _ A8.out) ?_;intro w10 hb;replace BK106:=kb_ BK106 hb;replace HB:=bs_ HB hb;(try clear hb);(try clear hb2);(try clear hk);(try clear hi))|(refine gl_ 12 Tryz.func86 #[.string a1] ?_;refine mo_ (whole_Neg.calls a1 t109 _ A9.out) ?_;intro w11 hb;replace BK106:=kb_ BK106 hb;replace HB:=bs_ HB hb;(try clear hb);(try clear hb2);(try clear hk);(try clear hi)))
   go_meet
   case rel=>exact⟨_,(t108),(t109),rl_,rl_,H',⟨by first|omega|exact Nat.le_refl _⟩,⟨k_ BK106.out⟩,⟨b_ HB.out⟩⟩
  ·rw[if_neg c7] at H;have c7b0:decide (t107<0)=false:=decide_eq_false c7;clear c7;(first|rw[c7b0]|(simp only[i64_w,i32_w];rw[c7b0])|skip);have H':=Aside0.mk H;clear H;go_wp2
   go_meet
   case rel=>exact⟨_,(a0),(a1),rl_,rl_,H',⟨by first|omega|exact Nat.le_refl _⟩,⟨k_ BK106.out⟩,⟨b_ HB.out⟩⟩
 case rest =>
  clear HC4;(try clear c1);(try clear p2);(try clear c6);(try clear c7);(try clear c7b0);(try clear c8);obtain⟨kq,x0_3,x1_3,rfl,rfl,HA,HJ3,BK106,HB⟩:=hcut
  cases kq with
  | zero=>exact absurd HA.out (by simp[rat_reduced.j0])
  | succ kj3 =>
   have H:=HA.out;clear HA;simp only[rat_reduced.j0] at H;obtain⟨t110,A12,H⟩:=bi_ H;obtain⟨t111,A13,H⟩:=bi_ H;obtain⟨⟨t112,t113,t114⟩,A14,H⟩:=bi_ H;(try dsimp only at H);obtain⟨⟨t115,t116,t117⟩,A15,H⟩:=bi_ H;(try dsimp only at H);simp only[Option.some.injEq,Prod.mk.injEq] at H;obtain⟨rfl,rfl⟩:=H
   go_wp2_with (first|(refine gl_ 14 Tryz.func62 #[.string x0_3] ?_;refine mo_ (whole_Abs.calls x0_3 t110 _ A12.out) ?_;intro w16 hb;replace BK106:=kb_ BK106 hb;replace HB:=bs_ HB hb;(try clear hb);(try clear hb2);(try clear hk);(try clear hi))|(refine gl_ 16 Tryz.func99 #[.string t110,.string x1_3] ?_;refine mo_ (nat_Gcd.calls t110 x1_3 t111 _ (lb_ HLD HB) A13.out) ?_;intro w17 hb;replace BK106:=kb_ BK106 hb;replace HB:=bs_ HB hb;(try clear hb);(try clear hb2);(try clear hk);(try clear hi))|(refine gl_ 20 Tryz.func160 #[.string x0_3,.string t111] ?_;refine mo_ (whole_Div.calls x0_3 t111 t112 t113 t114 _ (lb_ HLD HB) A14.out) ?_;intro w18 hb;replace BK106:=kb_ BK106 hb;replace HB:=bs_ HB hb;(try clear hb);(try clear hb2);(try clear hk);(try clear hi))|(refine gl_ 27 Tryz.func160 #[.string x1_3,.string t111] ?_;refine mo_ (whole_Div.calls x1_3 t111 t115 t116 t117 _ (lb_ HLD HB) A15.out) ?_;intro w19 hb;replace BK106:=kb_ BK106 hb;replace HB:=bs_ HB hb;(try clear hb);(try clear hb2);(try clear hk);(try clear hi);have hcz20_0:=bc_ BK106 0 rfl;have hcz20_1:=bc_ BK106 1 rfl;have hfz20_0:=blk_frozen BK106.out 0;have hfz20_1:=blk_frozen BK106.out 1))
   refine bodyPost_ret (results_cell_row rfl _ _ gb106 23 #[.string t112,.string t115] (0,0) _ rfl (rp_ BK106.out) Tryz.underlying23 rfl (by kernel_rfl)) rfl ?_;exact⟨er_,b_ HB.out⟩
def rat_Make.f (k:Nat) (a0:ByteArray) (a1:ByteArray):Option (ByteArray×ByteArray×Bool):=(whole_May.f a0).bind fun t119=>(if t119=true then ((whole_May.f a1).bind fun t120=>(if t120=true then (if a1.toList=([48]:List UInt8) then (some ((⟨#[]⟩:ByteArray),(⟨#[]⟩:ByteArray),false)) else ((rat_reduced.f k a0 a1).bind fun bt121=>(some (bt121.1,bt121.2,true)))) else (some ((⟨#[]⟩:ByteArray),(⟨#[]⟩:ByteArray),false)))) else (some ((⟨#[]⟩:ByteArray),(⟨#[]⟩:ByteArray),false)))
set_option maxHeartbeats 8000000 in
set_option maxRecDepth 100000 in
theorem rat_Make.calls (k:Nat) (a0:ByteArray) (a1:ByteArray) (r1:ByteArray) (r2:ByteArray) (r3:Bool) (w:World) (hL_:Laid w) (h:rat_Make.f k a0 a1=some (r1,r2,r3)) :
  Calls Tryz.prog 87 #[.string a0,.string a1] w fun e w'=>e=.returned (.tuple #[.agg #[.string r1,.string r2],.bool r3])∧Below w.heap.size w w':=by
 have hu23:=Tryz.underlying23;have HLD:=Aside0.mk hL_;clear hL_;have HB:=Aside0.mk (Below.refl w.heap.size w);have H:=h;unfold rat_Make.f at H;clear h;obtain⟨t119,A3,H⟩:=bi_ H;by_cases c4:t119=true
 ·subst c4;rw[if_pos rfl] at H;obtain⟨t120,A5,H⟩:=bi_ H;by_cases c6:t120=true
  ·subst c6;rw[if_pos rfl] at H;by_cases c7:a1.toList=([48]:List UInt8)
   ·rw[if_pos c7] at H;have c7b0:(a1.toList == ([48]:List UInt8))=true:=beq_iff_eq.mpr c7;have c7b1:(a1.toList != ([48]:List UInt8))=false:=bne_eq_false_iff_eq.mpr c7;clear c7;simp only[Option.some.injEq,Prod.mk.injEq] at H;obtain⟨rfl,rfl,rfl⟩:=H;go_enter Tryz.func87,Tryz.ntmps87
    go_wp2_with (first|((with_reducible refine gate_dst (N:=4) rfl ?_);refine be_ 4 #[.string (⟨#[]⟩:ByteArray),.string (⟨#[]⟩:ByteArray)] 23 ?_;intro gb118 hg w8 hbox hb;have BK118:=Aside0.mk (hbox);have GW118:=ge_ HB hg;have GE118:=ge_ HB hg;replace HB:=bs_ HB hb;clear hb hbox hg)|(refine gl_ 7 Tryz.func98 #[.string a0] ?_;refine mo_ (whole_May.calls a0 true _ A3.out) ?_;intro w9 hb;replace BK118:=kb_ BK118 hb;replace HB:=bs_ HB hb;(try clear hb);(try clear hb2);(try clear hk);(try clear hi))|(go_at_call 98;(with_reducible refine(whole_May.calls a1 true _ A5.out).mono ?_);rintro e w10 ⟨rfl,hb⟩;replace BK118:=kb_ BK118 hb;replace HB:=bs_ HB hb;(try clear hb);(try clear hb2);(try clear hk);(try clear hi);have hcz11_0:=bc_ BK118 0 rfl;have hcz11_1:=bc_ BK118 1 rfl;have hfz11_0:=blk_frozen BK118.out 0;have hfz11_1:=blk_frozen BK118.out 1))
    refine bodyPost_ret (results_ct rfl _ _ gb118 23 #[.string (⟨#[]⟩:ByteArray),.string (⟨#[]⟩:ByteArray)] (0,0) _ rfl (rp_ BK118.out) Tryz.underlying23 rfl (by kernel_rfl)) rfl ?_;exact⟨er_,b_ HB.out⟩
   ·rw[if_neg c7] at H;have c7b0:(a1.toList == ([48]:List UInt8))=false:=beq_eq_false_iff_ne.mpr c7;have c7b1:(a1.toList != ([48]:List UInt8))=true:=bne_iff_ne.mpr c7;obtain⟨⟨t121,t122⟩,A12,H⟩:=bi_ H;(try dsimp only at H);simp only[Option.some.injEq,Prod.mk.injEq] at H;obtain⟨rfl,rfl,rfl⟩:=H;go_enter Tryz.func87,Tryz.ntmps87
    go_wp2_with (first|((with_reducible refine gate_dst (N:=4) rfl ?_);refine be_ 4 #[.string (⟨#[]⟩:ByteArray),.string (⟨#[]⟩:ByteArray)] 23 ?_;intro gb118 hg w13 hbox hb;have BK118:=Aside0.mk (hbox);have GW118:=ge_ HB hg;have GE118:=ge_ HB hg;replace HB:=bs_ HB hb;clear hb hbox hg)|(refine gl_ 7 Tryz.func98 #[.string a0] ?_;refine mo_ (whole_May.calls a0 true _ A3.out) ?_;intro w14 hb;replace BK118:=kb_ BK118 hb;replace HB:=bs_ HB hb;(try clear hb);(try clear hb2);(try clear hk);(try clear hi))|(go_at_call 98;(with_reducible refine(whole_May.calls a1 true _ A5.out).mono ?_);rintro e w15 ⟨rfl,hb⟩;replace BK118:=kb_ BK118 hb;replace HB:=bs_ HB hb;(try clear hb);(try clear hb2);(try clear hk);(try clear hi))|(refine gl_ 21 Tryz.func128 #[.string a0,.string a1] ?_;refine mo_ (rat_reduced.calls k a0 a1 t121 t122 _ (lb_ HLD HB) A12.out) ?_;intro w16 hb;replace BK118:=kb_ BK118 hb;replace HB:=bs_ HB hb;(try clear hb);(try clear hb2);(try clear hk);(try clear hi);have hcz17_0:=bc_ BK118 0 rfl;have hcz17_1:=bc_ BK118 1 rfl;have hfz17_0:=blk_frozen BK118.out 0;have hfz17_1:=blk_frozen BK118.out 1))
    refine bodyPost_ret (results_ct rfl _ _ gb118 23 #[.string t121,.string t122] (0,0) _ rfl (rp_ BK118.out) Tryz.underlying23 rfl (by kernel_rfl)) rfl ?_;exact⟨er_,b_ HB.out⟩
  ·replace c6:=Bool.eq_false_iff.mpr c6;subst c6;rw[if_neg nf_] at H;simp only[Option.some.injEq,Prod.mk.injEq] at H;obtain⟨rfl,rfl,rfl⟩:=H;go_enter Tryz.func87,Tryz.ntmps87
   go_wp2_with (first|((with_reducible refine gate_dst (N:=4) rfl ?_);refine be_ 4 #[.string (⟨#[]⟩:ByteArray),.string (⟨#[]⟩:ByteArray)] 23 ?_;intro gb118 hg w18 hbox hb;have BK118:=Aside0.mk (hbox);have GW118:=ge_ HB hg;have GE118:=ge_ HB hg;replace HB:=bs_ HB hb;clear hb hbox hg)|(refine gl_ 7 Tryz.func98 #[.string a0] ?_;refine mo_ (whole_May.calls a0 true _ A3.out) ?_;intro w19 hb;replace BK118:=kb_ BK118 hb;replace HB:=bs_ HB hb;(try clear hb);(try clear hb2);(try clear hk);(try clear hi))|(go_at_call 98;(with_reducible refine(whole_May.calls a1 false _ A5.out).mono ?_);rintro e w20 ⟨rfl,hb⟩;replace BK118:=kb_ BK118 hb;replace HB:=bs_ HB hb;(try clear hb);(try clear hb2);(try clear hk);(try clear hi);have hcz21_0:=bc_ BK118 0 rfl;have hcz21_1:=bc_ BK118 1 rfl;have hfz21_0:=blk_frozen BK118.out 0;have hfz21_1:=blk_frozen BK118.out 1))
   refine bodyPost_ret (results_ct rfl _ _ gb118 23 #[.string (⟨#[]⟩:ByteArray),.string (⟨#[]⟩:ByteArray)] (0,0) _ rfl (rp_ BK118.out) Tryz.underlying23 rfl (by kernel_rfl)) rfl ?_;exact⟨er_,b_ HB.out⟩
 ·replace c4:=Bool.eq_false_iff.mpr c4;subst c4;rw[if_neg nf_] at H;simp only[Option.some.injEq,Prod.mk.injEq] at H;obtain⟨rfl,rfl,rfl⟩:=H;go_enter Tryz.func87,Tryz.ntmps87
  go_wp2_with (first|((with_reducible refine gate_dst (N:=4) rfl ?_);refine be_ 4 #[.string (⟨#[]⟩:ByteArray),.string (⟨#[]⟩:ByteArray)] 23 ?_;intro gb118 hg w22 hbox hb;have BK118:=Aside0.mk (hbox);have GW118:=ge_ HB hg;have GE118:=ge_ HB hg;replace HB:=bs_ HB hb;clear hb hbox hg)|(refine gl_ 7 Tryz.func98 #[.string a0] ?_;refine mo_ (whole_May.calls a0 false _ A3.out) ?_;intro w23 hb;replace BK118:=kb_ BK118 hb;replace HB:=bs_ HB hb;(try clear hb);(try clear hb2);(try clear hk);(try clear hi);have hcz24_0:=bc_ BK118 0 rfl;have hcz24_1:=bc_ BK118 1 rfl;have hfz24_0:=blk_frozen BK118.out 0;have hfz24_1:=blk_frozen BK118.out 1))
  refine bodyPost_ret (results_ct rfl _ _ gb118 23 #[.string (⟨#[]⟩:ByteArray),.string (⟨#[]⟩:ByteArray)] (0,0) _ rfl (rp_ BK118.out) Tryz.underlying23 rfl (by kernel_rfl)) rfl ?_;exact⟨er_,b_ HB.out⟩
def rat_Of.f (a0:Int):Option (ByteArray×ByteArray):=(whole_Of.f a0).bind fun t124=>(some (t124,(⟨#[49]⟩:ByteArray)))
set_option maxHeartbeats 8000000 in
set_option maxRecDepth 100000 in
theorem rat_Of.calls (a0:Int) (r1:ByteArray) (r2:ByteArray) (w:World) (hL_:Laid w) (h:rat_Of.f a0=some (r1,r2)) :
  Calls Tryz.prog 42 #[.int .i64 a0] w fun e w'=>e=.returned (.agg #[.string r1,.string r2])∧Below w.heap.size w w':=by
 have hu23:=Tryz.underlying23;have HLD:=Aside0.mk hL_;clear hL_;have HB:=Aside0.mk (Below.refl w.heap.size w);have H:=h;unfold rat_Of.f at H;clear h;obtain⟨t124,A2,H⟩:=bi_ H;simp only[Option.some.injEq,Prod.mk.injEq] at H;obtain⟨rfl,rfl⟩:=H;go_enter Tryz.func42,Tryz.ntmps42
 go_wp2_with (first|((with_reducible refine gate_dst (N:=2) rfl ?_);refine be_ 2 #[.string (⟨#[]⟩:ByteArray),.string (⟨#[]⟩:ByteArray)] 23 ?_;intro gb123 hg w3 hbox hb;have BK123:=Aside0.mk (hbox);have GW123:=ge_ HB hg;have GE123:=ge_ HB hg;replace HB:=bs_ HB hb;clear hb hbox hg)|(refine gl_ 4 Tryz.func81 #[.int .i64 a0] ?_;refine mo_ (whole_Of.calls a0 t124 _ (lb_ HLD HB) A2.out) ?_;intro w4 hb;replace BK123:=kb_ BK123 hb;replace HB:=bs_ HB hb;(try clear hb);(try clear hb2);(try clear hk);(try clear hi);have hcz5_0:=bc_ BK123 0 rfl;have hcz5_1:=bc_ BK123 1 rfl;have hfz5_0:=blk_frozen BK123.out 0;have hfz5_1:=blk_frozen BK123.out 1))
 refine bodyPost_ret (results_cell_row rfl _ _ gb123 23 #[.string t124,.string (⟨#[49]⟩:ByteArray)] (0,0) _ rfl (rp_ BK123.out) Tryz.underlying23 rfl (by kernel_rfl)) rfl ?_;exact⟨er_,b_ HB.out⟩
def rat_Sign.f (a0_0:ByteArray) (a0_1:ByteArray):Option (Int):=(rat_May.f a0_0 a0_1).bind fun t126=>(if t126=true then ((whole_Sign.f a0_0).bind fun t127=>(some t127)) else (some 0))
set_option maxHeartbeats 8000000 in
set_option maxRecDepth 100000 in
theorem rat_Sign.calls (a0_0:ByteArray) (a0_1:ByteArray) (r:Int) (w:World) (hL_:Laid w) (h:rat_Sign.f a0_0 a0_1=some r) :
  Calls Tryz.prog 54 #[.agg #[.string a0_0,.string a0_1]] w fun e w'=>e=.returned (.int .i64 r)∧Below w.heap.size w w':=by
 have hu23:=Tryz.underlying23;have HLD:=Aside0.mk hL_;clear hL_;have HB:=Aside0.mk (Below.refl w.heap.size w);have H:=h;unfold rat_Sign.f at H;clear h;obtain⟨t126,A2,H⟩:=bi_ H;by_cases c3:t126=true
 ·subst c3;rw[if_pos rfl] at H;obtain⟨t127,A4,H⟩:=bi_ H;obtain rfl:=Option.some.inj H;go_enter Tryz.func54,Tryz.ntmps54
  go_wp2_with (first|((with_reducible refine gate_dst (N:=1) rfl ?_);refine be_ 1 #[.string a0_0,.string a0_1] 23 ?_;intro gb125 hg w5 hbox hb;have BK125:=Aside0.mk (hbox);have GW125:=ge_ HB hg;have GE125:=ge_ HB hg;replace HB:=bs_ HB hb;clear hb hbox hg;have hcz6_0:=bc_ BK125 0 rfl;have hcz6_1:=bc_ BK125 1 rfl;have hfz6_0:=blk_frozen BK125.out 0;have hfz6_1:=blk_frozen BK125.out 1)|(refine gl_ 4 Tryz.func53 #[.agg #[.string a0_0,.string a0_1]] ?_;refine mo_ (rat_May.calls a0_0 a0_1 true _ (lb_ HLD HB) A2.out) ?_;intro w7 hb;replace BK125:=kb_ BK125 hb;replace HB:=bs_ HB hb;(try clear hb);(try clear hb2);(try clear hk);(try clear hi);have hcz8_0:=bc_ BK125 0 rfl;have hcz8_1:=bc_ BK125 1 rfl;have hfz8_0:=blk_frozen BK125.out 0;have hfz8_1:=blk_frozen BK125.out 1)|(refine gl_ 8 Tryz.func64 #[.string a0_0] ?_;refine mo_ (whole_Sign.calls a0_0 t127 _ A4.out) ?_;intro w9 hb;replace BK125:=kb_ BK125 hb;replace HB:=bs_ HB hb;(try clear hb);(try clear hb2);(try clear hk);(try clear hi)))
  go_ret
  exact⟨er_,b_ HB.out⟩
 ·replace c3:=Bool.eq_false_iff.mpr c3;subst c3;rw[if_neg nf_] at H;obtain rfl:=Option.some.inj H;go_enter Tryz.func54,Tryz.ntmps54
  go_wp2_with (first|((with_reducible refine gate_dst (N:=1) rfl ?_);refine be_ 1 #[.string a0_0,.string a0_1] 23 ?_;intro gb125 hg w10 hbox hb;have BK125:=Aside0.mk (hbox);have GW125:=ge_ HB hg;have GE125:=ge_ HB hg;replace HB:=bs_ HB hb;clear hb hbox hg;have hcz11_0:=bc_ BK125 0 rfl;have hcz11_1:=bc_ BK125 1 rfl;have hfz11_0:=blk_frozen BK125.out 0;have hfz11_1:=blk_frozen BK125.out 1)|(refine gl_ 4 Tryz.func53 #[.agg #[.string a0_0,.string a0_1]] ?_;refine mo_ (rat_May.calls a0_0 a0_1 false _ (lb_ HLD HB) A2.out) ?_;intro w12 hb;replace BK125:=kb_ BK125 hb;replace HB:=bs_ HB hb;(try clear hb);(try clear hb2);(try clear hk);(try clear hi)))
  go_ret
  exact⟨er_,b_ HB.out⟩
end Go.Proofs.YtoghmeffpgbcfaaGreatDoor.Py
end

section
namespace Go.Proofs.YtoghmeffpgbcfaaGreatDoor.Py
end Go.Proofs.YtoghmeffpgbcfaaGreatDoor.Py
end

section
namespace Go.Proofs.YtoghmeffpgbcfaaGreatDoor
theorem gMay {a:ByteArray} (h:a.size≤49990):whole_May.f a=some (mayW a):=by
 unfold whole_May.f
 rw[if_pos (show smw a=true from decide_eq_true h)]
theorem natB_beq_one (m:Nat):((natB m).toList == ([49]:List UInt8))=(m == 1):=by
 rw[Bool.eq_iff_iff,beq_iff_eq,beq_iff_eq,natB_toList_one]
theorem szI_natAbs (x:Int):sz x.natAbs≤szI x:=le_szI x
theorem gcd_le_l {x y:Int} (hy:y≠0):sz (Nat.gcd x.natAbs y.natAbs)≤szI y:=by
 have h:=sz_mono (Nat.gcd_le_right x.natAbs (show 0<y.natAbs by omega))
 have:=le_szI y
 omega
theorem ratmay_f {a b:ByteArray} (ha:a.size≤20000) (hb:b.size≤20000):Py.rat_May.f a b=some (mayR (a,b)):=by
 unfold Py.rat_May.f mayR
 rw[gMay (by omega),Option.bind_some]
 by_cases h1:mayW a=true
 ·rw[if_pos h1,fMay (by omega),Option.bind_some]
  by_cases h2:mayB b=true
  ·obtain⟨z,rfl⟩:=of_mayW h1
   obtain⟨n,rfl,e2⟩:=of_may h2
   have s1:szI z≤20000:=ha
   have s2:sz n≤20000:=hb
   have s3:=szI_natAbs z
   rw[if_pos h2,h1,h2,numW_int,numB_natB]
   by_cases h3:n=0
   ·rw[if_pos (natB_toList_zero.2 h3),h3]
    rfl
   ·rw[if_neg (fun e=>h3 (natB_toList_zero.1 e)),gAbs (by omega),Option.bind_some,intB_nat,fGcd (by omega) (by omega),Option.bind_some,natB_beq_one,decide_eq_true h3]
    rfl
  ·rw[if_neg h2,h1,(Bool.not_eq_true _).mp h2]
   rfl
 ·rw[if_neg h1,(Bool.not_eq_true _).mp h1]
  rfl
theorem red_core {x y:Int} (hy:0<y) (hx:szI x≤20000) (hs:szI y≤20000) (k:Nat):Py.rat_reduced.j0 (k+1) (intB x) (intB y)=some (rT (Rat.divInt x y)):=by
 have s3:=szI_natAbs x
 have s4:=szI_natAbs y
 have s5:=gcd_le_l (x:=x) (show y≠0 by omega)
 have hg:((Nat.gcd x.natAbs y.natAbs:Nat):Int)≠0:=by
  have:=Nat.gcd_pos_of_pos_right x.natAbs (show 0<y.natAbs by omega)
  omega
 have h1:=red_num (x:=x) (y:=y) (by omega)
 have h2:=red_den (x:=x) (y:=y) (by omega)
 rw[if_neg (by omega)] at h1
 have e:intB y=natB y.natAbs:=by rw[intB_nonneg (by omega)];congr 1;omega
 have e':(y.natAbs:Int)=y:=by omega
 simp only[Py.rat_reduced.j0]
 rw[gAbs (by omega),Option.bind_some,intB_nat,e,fGcd (by omega) (by omega),Option.bind_some,← e,← intB_nat,gDiv (by omega) (by rw[szI_nat];omega) hg,Option.bind_some,gDiv (by omega) (by rw[szI_nat];omega) hg,Option.bind_some]
 rw[e'] at h2
 show some (intB _,intB _)=some (intB _,natB _)
 rw[h1,h2,intB_nat]
theorem red_f {x y:Int} (hy:y≠0) (hx:szI x≤19000) (hs:szI y≤19000) (k:Nat):Py.rat_reduced.f (k+1) (intB x) (intB y)=some (rT (Rat.divInt x y)):=by
 unfold Py.rat_reduced.f
 rw[gSign (by omega),Option.bind_some]
 by_cases h:y<0
 ·have n1:=szI_neg x
  have n2:=szI_neg y
  rw[if_pos (by rw[cmp_lt' h];decide),gNeg (by omega),Option.bind_some,gNeg (by omega),Option.bind_some,red_core (by omega) (by omega) (by omega),Rat.neg_divInt_neg]
 ·rw[if_neg (by rw[cmp_gt' (by omega)];decide),red_core (by omega) (by omega) (by omega)]
theorem ratmake_f {a b:ByteArray} (ha:a.size≤19000) (hb:b.size≤19000) (k:Nat):Py.rat_Make.f (k+1) a b=some ((rmakeS a b).1.1,(rmakeS a b).1.2,(rmakeS a b).2):=by
 unfold Py.rat_Make.f rmakeS
 rw[gMay (by omega),Option.bind_some]
 by_cases h1:mayW a=true
 ·rw[if_pos h1,gMay (by omega),Option.bind_some]
  by_cases h2:mayW b=true
  ·obtain⟨x,rfl⟩:=of_mayW h1
   obtain⟨y,rfl⟩:=of_mayW h2
   have s1:szI x≤19000:=ha
   have s2:szI y≤19000:=hb
   rw[if_pos h2,show may2W (intB x) (intB y)=true by unfold may2W;rw[h1,h2];rfl,Bool.true_and,numW_int,numW_int]
   by_cases h3:y=0
   ·rw[if_pos (intB_toList_zero.2 h3),if_neg (by rw[h3];decide)]
    rfl
   ·rw[if_neg (fun e=>h3 (intB_toList_zero.1 e)),if_pos (decide_eq_true h3),red_f h3 s1 s2,Option.bind_some]
  ·rw[if_neg h2,show may2W a b=false by unfold may2W;rw[h1,(Bool.not_eq_true _).mp h2];rfl]
   rfl
 ·rw[if_neg h1,show may2W a b=false by unfold may2W;rw[(Bool.not_eq_true _).mp h1];rfl]
  rfl
theorem signQ_f (q:Rat):Lib.compareInt q.num 0=cmpQ q 0:=signQ_cmp q
theorem ratsign_f {x:BB} (ha:x.1.size≤20000) (hb:x.2.size≤20000):Py.rat_Sign.f x.1 x.2=some (rsignS x):=by
 unfold Py.rat_Sign.f rsignS
 rw[ratmay_f ha hb,Option.bind_some]
 by_cases h:mayR x=true
 ·obtain⟨q,rfl⟩:=of_mayR h
  have s1:szI q.num≤20000:=ha
  rw[if_pos h,if_pos h,ratR_rT]
  show ((whole_Sign.f (intB q.num)).bind fun t=>some t) = _
  rw[gSign (by omega),Option.bind_some,signQ_f]
 ·rw[if_neg h,if_neg h]
theorem ratof_f (n:Int) (h0:-9223372036854775808≤n) (h1:n≤9223372036854775807):Py.rat_Of.f n=some (rT (n:Rat)):=by
 unfold Py.rat_Of.f
 rw[gOf h0 h1,Option.bind_some,← natB_one]
 rfl
end Go.Proofs.YtoghmeffpgbcfaaGreatDoor
end

section
namespace Go.Proofs.YtoghmeffpgbcfaaGreatDoor
def rat_May.f (a0_0 a0_1:ByteArray):Option (Bool):=if smR (a0_0,a0_1)=true then some (mayR (a0_0,a0_1)) else none
theorem rat_May.calls (a0_0 a0_1:ByteArray) (r:Bool) (w:World) (hL_:Laid w) (h:rat_May.f a0_0 a0_1=some r) :
  Calls Tryz.prog 53 #[.agg #[.string a0_0,.string a0_1]] w fun e w'=>e=.returned (.bool r)∧Below w.heap.size w w':=by
 unfold rat_May.f at h
 split at h
 ·rename_i hp
  have hs:=smR_le hp
  rw[← ratmay_f (a:=a0_0) (b:=a0_1) (Nat.le_trans hs.1 (by decide)) (Nat.le_trans hs.2 (by decide))] at h
  exact Py.rat_May.calls a0_0 a0_1 r w hL_ h
 ·cases h
def rat_Make.f (a0 a1:ByteArray):Option (ByteArray×ByteArray×Bool):=if smR (a0,a1)=true then some ((rmakeS a0 a1).1.1,(rmakeS a0 a1).1.2,(rmakeS a0 a1).2) else none
theorem rat_Make.calls (a0 a1:ByteArray) (r1:ByteArray) (r2:ByteArray) (r3:Bool) (w:World) (hL_:Laid w) (h:rat_Make.f a0 a1=some (r1,r2,r3)) :
  Calls Tryz.prog 87 #[.string a0,.string a1] w fun e w'=>e=.returned (.tuple #[.agg #[.string r1,.string r2],.bool r3])∧Below w.heap.size w w':=by
 unfold rat_Make.f at h
 split at h
 ·rename_i hp
  have hs:=smR_le hp
  rw[← ratmake_f (a:=a0) (b:=a1) (Nat.le_trans hs.1 (by decide)) (Nat.le_trans hs.2 (by decide)) 1] at h
  exact Py.rat_Make.calls _ a0 a1 r1 r2 r3 w hL_ h
 ·cases h
def rat_Of.f (a0:Int):Option (ByteArray×ByteArray):=if -9223372036854775808≤a0∧a0≤9223372036854775807 then some (rT (a0:Rat)) else none
theorem rat_Of.calls (a0:Int) (r1:ByteArray) (r2:ByteArray) (w:World) (hL_:Laid w) (h:rat_Of.f a0=some (r1,r2)) :
  Calls Tryz.prog 42 #[.int .i64 a0] w fun e w'=>e=.returned (.agg #[.string r1,.string r2])∧Below w.heap.size w w':=by
 unfold rat_Of.f at h
 split at h
 ·rename_i hp
  rw[← ratof_f a0 hp.1 hp.2] at h
  exact Py.rat_Of.calls a0 r1 r2 w hL_ h
 ·cases h
def rat_Sign.f (a0_0 a0_1:ByteArray):Option (Int):=if smR (a0_0,a0_1)=true then some (rsignS (a0_0,a0_1)) else none
theorem rat_Sign.calls (a0_0 a0_1:ByteArray) (r:Int) (w:World) (hL_:Laid w) (h:rat_Sign.f a0_0 a0_1=some r) :
  Calls Tryz.prog 54 #[.agg #[.string a0_0,.string a0_1]] w fun e w'=>e=.returned (.int .i64 r)∧Below w.heap.size w w':=by
 unfold rat_Sign.f at h
 split at h
 ·rename_i hp
  have hs:=smR_le hp
  rw[← ratsign_f (x:=(a0_0,a0_1)) (Nat.le_trans hs.1 (by decide)) (Nat.le_trans hs.2 (by decide))] at h
  exact Py.rat_Sign.calls a0_0 a0_1 r w hL_ h
 ·cases h
end Go.Proofs.YtoghmeffpgbcfaaGreatDoor
end

section
namespace Go.Proofs.YtoghmeffpgbcfaaGreatDoor
theorem zerosB_list (c:Int):(zerosB c).data.toList=List.replicate c.toNat 48:=rfl
theorem ten_list (n:Nat):((⟨#[49]⟩:ByteArray)++zerosB (n:Int)).data.toList=49 :: List.replicate n 48:=by
 rw[Joins.data_append,zerosB_list,Int.toNat_natCast]
 rfl
theorem all_zeros (n:Nat):(List.replicate n (48:UInt8)).all isDig=true:=by
 rw[List.all_eq_true]
 intro c hc
 rw[List.eq_of_mem_replicate hc]
 rfl
theorem dig_ten (n:Nat):digL (49 :: List.replicate n 48)=true:=by
 unfold digL
 rw[List.all_cons,all_zeros,decide_eq_true (by simp)]
 rfl
theorem num_ten (n:Nat):num (49 :: List.replicate n 48)=10 ^ n:=by
 rw[num_cons,List.length_replicate]
 have h:=num_zeros n []
 rw[List.append_nil] at h
 rw[h,num_nil]
 have e:(49:UInt8).toNat-48=1:=rfl
 rw[e]
 omega
theorem tenBB (n:Nat):(⟨#[49]⟩:ByteArray)++zerosB (n:Int)=natB (10 ^ n):=by
 apply bext
 rw[ten_list,natB_list,← num_ten n]
 refine(dig_num ?_).symm
 unfold mayL
 rw[List.all_cons,all_zeros,decide_eq_true (by simp),decide_eq_true (show (49 :: List.replicate n (48:UInt8)).head?≠some 48 by rw[List.head?_cons];decide),Bool.or_true]
 rfl
theorem tail_f {T s:ByteArray} {n p:Nat} (hT:T.size≤1000000000) (hn:n≤T.size) (hs:s.size=p) (hp:p≤1) :
  (if 0≤(wrap64 ((T.size:Int)-(n:Int))) then (if (wrap64 ((T.size:Int)-(n:Int)))≤(T.size:Int) then (if p+(T.extract 0 ((wrap64 ((T.size:Int)-(n:Int))):Int).toNat).size≤9223372036854775807 then (if (s++(T.extract 0 ((wrap64 ((T.size:Int)-(n:Int))):Int).toNat)).size+1≤9223372036854775807 then (if ((s++(T.extract 0 ((wrap64 ((T.size:Int)-(n:Int))):Int).toNat))++(⟨#[46]⟩:ByteArray)).size+(T.extract ((wrap64 ((T.size:Int)-(n:Int))):Int).toNat T.size).size≤9223372036854775807 then (some (((s++(T.extract 0 ((wrap64 ((T.size:Int)-(n:Int))):Int).toNat))++(⟨#[46]⟩:ByteArray))++(T.extract ((wrap64 ((T.size:Int)-(n:Int))):Int).toNat T.size))) else none) else none) else none) else none) else none)
  = some (⟨(s.data.toList++(T.data.toList.take (T.data.toList.length-n)++46 :: T.data.toList.drop (T.data.toList.length-n))).toArray⟩:ByteArray):=by
 rw[w64 (by omega) (by omega)]
 have e:((T.size:Int)-(n:Int)).toNat=T.size-n:=by omega
 have h1:(T.extract 0 (T.size-n)).data.toList=T.data.toList.take (T.size-n):=by rw[Lib.extract_data];simp
 have h2:(T.extract (T.size-n) T.size).data.toList=T.data.toList.drop (T.size-n):=Lib.extract_to_end T _
 have z1:(T.extract 0 (T.size-n)).size≤T.size:=by
  rw[size_len,h1,List.length_take,← size_len]
  omega
 have z2:(T.extract (T.size-n) T.size).size≤T.size:=by
  rw[size_len,h2,List.length_drop,← size_len]
  omega
 have z3:(⟨#[46]⟩:ByteArray).size=1:=rfl
 rw[e,if_pos (by omega),if_pos (by omega),if_pos (by omega),if_pos (by rw[ByteArray.size_append];omega),if_pos (by rw[ByteArray.size_append,ByteArray.size_append];omega)]
 congr 1
 apply bext
 rw[Joins.data_append,Joins.data_append,Joins.data_append,h1,h2,← size_len]
 show _ = s.data.toList++_
 simp only[List.append_assoc]
 rfl
def resL (m:Bool) (A B:List UInt8):Option Rat:=if (digL A&&digL B)=true then (if num B=0 then none else some (Rat.divInt (withS m (num A)) (num B:Int))) else none
def ansQ:Option Rat→ByteArray×ByteArray×Int
 | some q=>((rT q).1,(rT q).2,0)
 | none=>(noB,noB,40)
theorem parseS_ans (s:ByteArray):parseS s=ansQ (parseL s.data.toList):=by
 unfold parseS ansQ
 cases parseL s.data.toList <;> rfl
theorem resL_ten (m:Bool) {A:List UInt8} (n:Nat) (h:digL A=true):resL m A (49 :: List.replicate n 48)=some (Rat.divInt (withS m (num A)) ((10 ^ n:Nat):Int)):=by
 unfold resL
 rw[h,dig_ten,num_ten,Bool.true_and,if_pos rfl,if_neg]
 have:=tenI_ne n
 omega
theorem resL_one (m:Bool) (A:List UInt8):resL m A [49]=if digL A=true then some ((withS m (num A):Int):Rat) else none:=by
 unfold resL
 have e:num [49]=1:=num_ten 0
 have d:digL [49]=true:=dig_ten 0
 rw[d,e,Bool.and_true]
 by_cases h:digL A=true
 ·rw[if_pos h,if_pos h,if_neg (by decide)]
  congr 1
  have h3:=Rat.num_divInt_den ((withS m (num A):Int):Rat)
  rw[Rat.num_intCast,Rat.den_intCast] at h3
  exact h3
 ·rw[if_neg h,if_neg h]
theorem dig_point {A B:List UInt8}:digL (A++46 :: B)=false:=by
 unfold digL
 rw[List.all_append,List.all_cons,show isDig 46=false from rfl,Bool.false_and,Bool.and_false,Bool.and_false]
theorem dig_both {A B:List UInt8} (h:digL A=true) (h2:digL B=true):digL (A++B)=true:=by
 obtain⟨a1,a2,_⟩:=head_dig' h
 obtain⟨b1,b2,_⟩:=head_dig' h2
 unfold digL
 rw[List.all_append,a1,b1,Bool.true_and,Bool.and_true,decide_eq_true_eq]
 intro e
 exact a2 (List.append_eq_nil_iff.1 e).1
theorem parseA_forms (s:List UInt8):parseA s=match cutAt 47 (cutL s).1 with
  | some (a,b)=>resL (cutL s).2 a b
  | none=>match cutAt 46 (cutL s).1 with
   | some (a,b)=>if (digL a&&digL b)=true then resL (cutL s).2 (a++b) (49 :: List.replicate b.length 48) else none
   | none=>resL (cutL s).2 (cutL s).1 [49]:=by
 unfold parseA
 cases h:cutAt 47 (cutL s).1 with
 | some p=>rfl
 | none =>
  cases h2:cutAt 46 (cutL s).1 with
  | none =>
   simp only[]
   rw[resL_one]
  | some p =>
   obtain⟨a,b⟩:=p
   simp only[]
   by_cases hd:(digL a&&digL b)=true
   ·rw[if_pos hd,if_pos hd]
    rw[Bool.and_eq_true] at hd
    rw[resL_ten _ _ (dig_both hd.1 hd.2)]
   ·rw[if_neg hd,if_neg hd]
theorem point_not {t a b:List UInt8} (h:cutAt 46 t=some (a,b)) (m:Bool):resL m t [49]=none:=by
 obtain⟨h1,h2,h3⟩:=indexByte_some h
 rw[resL_one,h2,dig_point]
 rfl
end Go.Proofs.YtoghmeffpgbcfaaGreatDoor
end

section
namespace Go.Proofs.YtoghmeffpgbcfaaGreatDoor
theorem rAdd {m n:Nat} (hm:sz m≤50000) (hn:sz n≤50000):r1_Add.f (natB m) (natB n)=some (natB (m+n)):=by
 unfold r1_Add.f addS
 rw[if_pos (sm2_natB hm hn),if_pos (may2_natB m n),numB_natB,numB_natB]
theorem rSub {m n:Nat} (hm:sz m≤50000) (hn:sz n≤50000):r1_Sub.f (natB m) (natB n)=some (if n≤m then (natB (m-n),true) else (noB,false)):=by
 unfold r1_Sub.f subS
 rw[if_pos (sm2_natB hm hn),may2_natB,numB_natB,numB_natB,Bool.true_and]
 by_cases h:n≤m
 ·rw[if_pos (decide_eq_true h),if_pos h]
 ·rw[if_neg (by rw[decide_eq_true_eq];exact h),if_neg h]
theorem rDiv {m n:Nat} (hm:sz m≤50000) (hn:sz n≤50000) (h:n≠0):r1_Div.f (natB m) (natB n)=some (natB (m / n),natB (m % n),true):=by
 unfold r1_Div.f divS
 rw[if_pos (sm2_natB hm hn),may2_natB,numB_natB,numB_natB,Bool.true_and,if_pos (decide_eq_true h)]
theorem may2W_and' {a b:ByteArray}:may2W a b=true↔mayW a=true∧mayW b=true:=by unfold may2W;rw[Bool.and_eq_true]
theorem may2W_int' (x y:Int):may2W (intB x) (intB y)=true:=may2W_and'.2 ⟨mayW_int x,mayW_int y⟩
theorem casesW' (a b:ByteArray):(∃ x y,a=intB x∧b=intB y)∨¬ may2W a b=true:=by
 by_cases h:may2W a b=true
 ·obtain⟨h1,h2⟩:=may2W_and'.1 h
  obtain⟨x,hx⟩:=of_mayW h1
  obtain⟨y,hy⟩:=of_mayW h2
  exact .inl ⟨x,y,hx,hy⟩
 ·exact .inr h
theorem withS_int' (z:Int):withS (decide (z<0)) z.natAbs=z:=by
 unfold withS
 by_cases h:z<0
 ·rw[if_pos (decide_eq_true h)];omega
 ·rw[if_neg (by rw[decide_eq_true_eq];exact h)];omega
theorem withS_not' (z:Int):withS (!decide (z<0)) z.natAbs=-z:=by
 unfold withS
 by_cases h:z<0
 ·rw[decide_eq_true h,if_neg (by decide)];omega
 ·rw[decide_eq_false h,if_pos (by decide)];omega
theorem with_f (b:Bool) {n:Nat} (h:sz n≤1000000):Px.r2_with.f (natB n) b=some (intB (withS b n)):=by
 rw[← withS_text]
 unfold Px.r2_with.f
 cases b with
 | false=>rfl
 | true =>
  simp only[if_true]
  by_cases hz:n=0
  ·rw[if_pos (natB_toList_zero.2 hz),if_pos hz]
  ·unfold sz at h
   rw[if_neg (fun e=>hz (natB_toList_zero.1 e)),if_neg hz,if_pos (by omega)]
theorem r2of_f (n:Int) (h0:-9223372036854775808≤n) (h1:n≤9223372036854775807):Px.r2_Of.f n=some (intB n):=by
 unfold Px.r2_Of.f
 have hof:∀ m:Int,0≤m→m≤9223372036854775807→r1_Of.f m=some (natB m.toNat):=by
  intro m h2 h3
  unfold r1_Of.f ofS
  rw[if_pos ⟨by omega,h3⟩,if_neg (by omega)]
 by_cases h:n<0
 ·rw[if_pos h,w64 (x:=n+1) (by omega) (by omega),w64 (by omega) (by omega),hof _ (by omega) (by omega),Option.bind_some,← natB_one]
  have s1:sz (-(n+1)).toNat≤20:=sz_le (by omega) (by omega)
  have s2:sz 1≤20:=sz_le (by omega) (by omega)
  have s3:=sz_add (-(n+1)).toNat 1
  rw[rAdd (by omega) (by omega),Option.bind_some,if_pos (by unfold sz at s1 s2 s3;omega)]
  have e:(-(n+1)).toNat+1=n.natAbs:=by omega
  rw[e]
  unfold intB
  rw[if_pos h]
 ·rw[if_neg h,hof n (by omega) h1,Option.bind_some,intB_nonneg (by omega)]
theorem r2abs_f {a:ByteArray} (h:a.size≤50000):Px.r2_Abs.f a=some (wabsS a):=by
 unfold Px.r2_Abs.f wabsS
 rw[r2may_f h,Option.bind_some]
 by_cases hm:mayW a=true
 ·obtain⟨z,rfl⟩:=of_mayW hm
  rw[if_pos hm,amount_f,Option.bind_some,if_pos hm,numW_int,amtB_int]
 ·rw[if_neg hm,if_neg hm]
  rfl
theorem r2neg_f {a:ByteArray} (h:a.size≤50000):Px.r2_Neg.f a=some (wnegS a):=by
 unfold Px.r2_Neg.f wnegS
 rw[r2may_f h,Option.bind_some]
 by_cases hm:mayW a=true
 ·obtain⟨z,rfl⟩:=of_mayW hm
  have h1:=le_szI z
  have h2:szI z≤50000:=h
  rw[if_pos hm,amount_f,Option.bind_some,if_pos hm,numW_int,amtB_int,minusB_int,with_f _ (by omega),withS_not']
  rfl
 ·rw[if_neg hm,if_neg hm]
  rfl
theorem r2sign_f {a:ByteArray} (h:a.size≤50000) (k:Nat):Px.r2_Sign.f (k+1) a=some (wsignS a):=by
 unfold Px.r2_Sign.f wsignS
 rw[amount_f,Option.bind_some,r2may_f h,Option.bind_some]
 by_cases hm:mayW a=true
 ·obtain⟨z,rfl⟩:=of_mayW hm
  rw[if_pos hm,if_pos hm,amtB_int,minusB_int,natB_beq_zero,numW_int]
  simp only[Px.r2_Sign.j0]
  rcases (by omega:z<0∨z=0∨0<z) with hz|hz|hz
  ·rw[if_neg (by rw[decide_eq_true_eq];omega),if_pos (decide_eq_true hz),cmp_lt' hz]
  ·subst hz
   rfl
  ·rw[if_neg (by rw[decide_eq_true_eq];omega),if_neg (by rw[decide_eq_true_eq];omega),cmp_gt' hz]
 ·rw[if_neg hm,if_neg hm]
  rfl
theorem r2div_f {a b:ByteArray} (ha:a.size≤49990) (hb:b.size≤49990) (k:Nat):Px.r2_Div.f (k+2) a b=some (wdivS a b):=by
 unfold Px.r2_Div.f wdivS
 rw[r2may_f (by omega),Option.bind_some]
 rcases casesW' a b with ⟨x,y,rfl,rfl⟩|hm
 ·have h1:=le_szI x
  have h2:=le_szI y
  have h3:szI x≤49990:=ha
  have h4:szI y≤49990:=hb
  have hb0:((intB y).toList == ([48]:List UInt8))=decide (y=0):=by
   have e:(intB 0).toList=[48]:=by
    rw[show intB 0=natB 0 from intB_nat 0]
    exact natB_toList_zero.2 rfl
   rw[Bool.eq_iff_iff,beq_iff_eq,decide_eq_true_eq,← e]
   exact intB_toList_inj
  rw[if_pos (mayW_int x),r2may_f (by omega),Option.bind_some,if_pos (mayW_int y),may2W_int',Bool.true_and,numW_int,numW_int,hb0]
  show Px.r2_Div.j0 (k+1+1) _ _ _ = _
  simp only[Px.r2_Div.j0]
  by_cases hy:y=0
  ·subst hy
   rfl
  ·have hy':y.natAbs≠0:=by omega
   have hd:=divW (m:=x.natAbs) hy' (decide (x<0)) (decide (y<0)) (by intro h;rw[decide_eq_true_eq] at h;omega)
   rw[withS_int',withS_int'] at hd
   have s1:=sz_mono (Nat.div_le_self x.natAbs y.natAbs)
   have s2:=sz_mono (Nat.mod_le x.natAbs y.natAbs)
   have hlt:=Nat.mod_lt x.natAbs (show 0<y.natAbs by omega)
   rw[if_neg (by rw[decide_eq_true_eq];exact hy),if_pos (decide_eq_true hy),amount_f,Option.bind_some,amount_f,Option.bind_some,amtB_int,amtB_int,minusB_int,minusB_int,rDiv (by omega) (by omega) hy',Option.bind_some,hd.1,hd.2]
   clear hd
   generalize x.natAbs / y.natAbs=q at *
   generalize x.natAbs % y.natAbs=r at *
   have one1:sz 1≤1:=sz_le (by omega) (by omega)
   have s3:=sz_add q 1
   by_cases hx:x<0
   ·rw[if_pos (decide_eq_true hx)]
    simp only[Px.r2_Div.j1]
    by_cases hr:r=0
    ·subst hr
     rw[if_neg (by have:=natB_beq_zero 0;simp[bne,this]),with_f _ (by omega),Option.bind_some,if_neg (by simp),if_neg (by simp),intB_nat]
    ·rw[if_pos (by have:=natB_beq_zero r;simp[bne,this,hr]),← natB_one,rAdd (by omega) (by omega),Option.bind_some,rSub (by omega) (by omega),Option.bind_some,if_pos (by omega),with_f _ (by omega),Option.bind_some,if_pos ⟨decide_eq_true hx,hr⟩,if_pos ⟨decide_eq_true hx,hr⟩,intB_nat]
   ·rw[if_neg (by rw[decide_eq_true_eq];exact hx)]
    simp only[Px.r2_Div.j1]
    have hf:¬ (decide (x<0)=true∧r≠0):=fun e=>hx (of_decide_eq_true e.1)
    rw[if_neg (by decide),with_f _ (by omega),Option.bind_some,if_neg hf,if_neg hf,intB_nat]
 ·rw[(Bool.not_eq_true _).mp hm]
  by_cases h1:mayW a=true
  ·rw[if_pos h1,r2may_f (by omega),Option.bind_some,if_neg (fun h2=>hm (may2W_and'.2 ⟨h1,h2⟩))]
   rfl
  ·rw[if_neg h1]
   rfl
def smr (s:ByteArray):Bool:=decide (s.size≤20000)
theorem smr_le {s:ByteArray} (h:smr s=true):s.size≤20000:=of_decide_eq_true h
def smr2 (a b:ByteArray):Bool:=smr a&&smr b
theorem smr2_le {a b:ByteArray} (h:smr2 a b=true):a.size≤20000∧b.size≤20000:=by
 unfold smr2 at h
 rw[Bool.and_eq_true] at h
 exact⟨smr_le h.1,smr_le h.2⟩
def r2_Of.f (a0:Int):Option ByteArray:=if -9223372036854775808≤a0∧a0≤9223372036854775807 then some (intB a0) else none
theorem r2_Of.calls (a0:Int) (r:ByteArray) (w:World) (h:r2_Of.f a0=some r) :
  Calls Tryz.prog 38 #[.int .i64 a0] w fun e w'=>e=.returned (.string r)∧Below w.heap.size w w':=by
 unfold r2_Of.f at h
 split at h
 ·rename_i hp
  rw[← r2of_f a0 hp.1 hp.2] at h
  exact Px.r2_Of.calls a0 r w h
 ·cases h
def r2_Sign.f (a0:ByteArray):Option Int:=if smr a0=true then some (wsignS a0) else none
theorem r2_Sign.calls (a0:ByteArray) (r:Int) (w:World) (h:r2_Sign.f a0=some r) :
  Calls Tryz.prog 73 #[.string a0] w fun e w'=>e=.returned (.int .i64 r)∧Below w.heap.size w w':=by
 unfold r2_Sign.f at h
 split at h
 ·rename_i hp
  have hs:=smr_le hp
  rw[← r2sign_f (by omega) 0] at h
  exact Px.r2_Sign.calls _ a0 r w h
 ·cases h
def r2_Abs.f (a0:ByteArray):Option ByteArray:=if smr a0=true then some (wabsS a0) else none
theorem r2_Abs.calls (a0:ByteArray) (r:ByteArray) (w:World) (h:r2_Abs.f a0=some r) :
  Calls Tryz.prog 70 #[.string a0] w fun e w'=>e=.returned (.string r)∧Below w.heap.size w w':=by
 unfold r2_Abs.f at h
 split at h
 ·rename_i hp
  have hs:=smr_le hp
  rw[← r2abs_f (by omega)] at h
  exact Px.r2_Abs.calls a0 r w h
 ·cases h
def r2_Neg.f (a0:ByteArray):Option ByteArray:=if smr a0=true then some (wnegS a0) else none
theorem r2_Neg.calls (a0:ByteArray) (r:ByteArray) (w:World) (h:r2_Neg.f a0=some r) :
  Calls Tryz.prog 50 #[.string a0] w fun e w'=>e=.returned (.string r)∧Below w.heap.size w w':=by
 unfold r2_Neg.f at h
 split at h
 ·rename_i hp
  have hs:=smr_le hp
  rw[← r2neg_f (by omega)] at h
  exact Px.r2_Neg.calls a0 r w h
 ·cases h
def r2_Div.f (a0 a1:ByteArray):Option (ByteArray×ByteArray×Bool):=if smr2 a0 a1=true then some (wdivS a0 a1) else none
theorem r2_Div.calls (a0 a1:ByteArray) (r1 r2:ByteArray) (r3:Bool) (w:World) (h:r2_Div.f a0 a1=some (r1,r2,r3)) :
  Calls Tryz.prog 75 #[.string a0,.string a1] w fun e w'=>e=.returned (.tuple #[.string r1,.string r2,.bool r3])∧Below w.heap.size w w':=by
 unfold r2_Div.f at h
 split at h
 ·rename_i hp
  have hs:=smr2_le hp
  rw[← r2div_f (by omega) (by omega) 0] at h
  exact Px.r2_Div.calls _ a0 a1 r1 r2 r3 w h
 ·cases h
end Go.Proofs.YtoghmeffpgbcfaaGreatDoor
end

section
namespace Go.Proofs.YtoghmeffpgbcfaaGreatDoor
theorem rgcd_loop {N:Nat} (hN:N≤50000):∀ (n m k:Nat),(natB m).size≤N→(natB n).size≤N→n+22 * N+60≤k→Pq.r1_Gcd.l0 k (natB m) (natB n)=some (natB (Nat.gcd m n))
 | n,m,k,hm,hn,hk=>by
  obtain⟨k,rfl⟩:∃ j,k=j+1:=⟨k-1,by omega⟩
  simp only[Pq.r1_Gcd.l0]
  rw[ByteArray.toList_eq]
  have hz:=list48 (mayB_natB n)
  rw[numB_natB] at hz
  by_cases h:n=0
  ·rw[if_pos (hz.2 h),h,Nat.gcd_zero_right]
  ·rw[if_neg (fun e=>h (hz.1 e)),rdiv_f hN hm hn k (by omega),Option.bind_some]
   have hd:divS (natB m) (natB n)=(natB (m / n),natB (m % n),true):=by
    unfold divS
    rw[numB_natB,numB_natB,if_pos (by rw[may2_eq (mayB_natB m) (mayB_natB n),decide_eq_true h];rfl)]
   rw[hd]
   have h2:=Nat.mod_lt m (show 0<n by omega)
   have h3:=natB_le (mayB_natB n) (n:=m % n) (by rw[numB_natB];omega)
   have:=rgcd_loop hN (m % n) n k hn (by omega) (by omega)
   rw[this,Nat.gcd_comm m n,Nat.gcd_rec n m,Nat.gcd_comm]
 termination_by n=>n
 decreasing_by exact Nat.mod_lt m (by omega)
theorem rgcd_f {a b:ByteArray} {N:Nat} (hN:N≤50000) (ha:a.size≤N) (hb:b.size≤N) (k:Nat) (hk:numB b+22 * N+70≤k):Pq.r1_Gcd.f k a b=some (gcdS a b):=by
 obtain⟨k,rfl⟩:∃ m,k=m+1:=⟨k-1,by omega⟩
 unfold Pq.r1_Gcd.f
 rw[rmay_f a (by omega) _ (by omega),Option.bind_some]
 by_cases h1:mayB a=true
 ·rw[if_pos h1,rmay_f b (by omega) _ (by omega),Option.bind_some]
  by_cases h2:mayB b=true
  ·rw[h2]
   simp only[Pq.r1_Gcd.j0]
   unfold gcdS
   rw[if_pos (may2_eq h1 h2),if_neg (by decide)]
   have:=rgcd_loop hN (numB b) (numB a) k (by rw[natB_numB h1];exact ha) (by rw[natB_numB h2];exact hb) (by omega)
   rw[natB_numB h1,natB_numB h2] at this
   exact this
  ·rw[(Bool.not_eq_true _).mp h2]
   unfold gcdS
   rw[if_neg (may2_no2 h2)]
   rfl
 ·rw[if_neg h1]
  unfold gcdS
  rw[if_neg (may2_no1 h1)]
  rfl
def r1_Gcd.f (a0 a1:ByteArray):Option ByteArray:=if sm2 a0 a1=true then some (gcdS a0 a1) else none
theorem r1_Gcd.calls (a0 a1:ByteArray) (r:ByteArray) (w:World) (h:r1_Gcd.f a0 a1=some r) :
  Calls Tryz.prog 74 #[.string a0,.string a1] w fun e w'=>e=.returned (.string r)∧Below w.heap.size w w':=by
 unfold r1_Gcd.f at h
 split at h
 ·rename_i hp
  rw[← rgcd_f (N:=50000) (by omega) (sm_le (and2 hp).1) (sm_le (and2 hp).2) _ (Nat.le_refl _)] at h
  exact Pq.r1_Gcd.calls _ a0 a1 r w h
 ·cases h
end Go.Proofs.YtoghmeffpgbcfaaGreatDoor
end

section
namespace Go.Proofs.YtoghmeffpgbcfaaGreatDoor.Pz
def errW:Option Int→Value
 | none=>.nilIface
 | some c=>.iface 0 (.int .i64 c)
theorem errW_none:errW none=.nilIface:=rfl
theorem errW_some (c:Int):errW (some c)=.iface 0 (.int .i64 c):=rfl
end Go.Proofs.YtoghmeffpgbcfaaGreatDoor.Pz
end

section
namespace Go.Proofs.YtoghmeffpgbcfaaGreatDoor.Pz
def r3_May.T1:Bool×List (List Nat×List Nat):=(true,[([],[]),([0],[0]),([1],[1]),([2,2],[2]),([3],[3]),([4,3],[3,4]),([5,3,3],[3,5]),([3,6],[3,6]),([7,6],[7]),([8],[8]),([9,8],[8,9]),([10,8],[8,10]),([8,11],[8,11]),([12,8],[12]),([13],[13]),([14,13],[13,14]),([15,13,13],[13,15]),([13],[13]),([17,13],[13,17]),([16,18,16,13],[13,16,18]),([19,13],[13,19]),([13,20],[13,20]),([21,19,0,1,2,3,4,5,6,7,8,9,10,11,12,13,14,15,16,17,18,19,20,21],[21])])
def r3_May.B1:List Nat:=[0,1,3,7,15,31,63,127,255,511,1023,2047,4095,8191,16383,32767,65535,16383,147455,524287,1048575,2097151,4194303]
theorem r3_May.tab1:rtab .any (opsOf Tryz.f55 1)=r3_May.T1:=by kernel_rfl
theorem r3_May.bits1:waitsOk r3_May.T1.2 r3_May.B1=true:=by kernel_rfl
end Go.Proofs.YtoghmeffpgbcfaaGreatDoor.Pz
end

section
namespace Go.Proofs.YtoghmeffpgbcfaaGreatDoor.Pz
mutual
def r3_Make.j0:Nat→ByteArray→ByteArray→Bool→Option (ByteArray×ByteArray×Bool)
 | 0,_,_,_=>none
 | k+1,x0,x1,x24=>if x24=true then (some ((⟨#[]⟩:ByteArray),(⟨#[]⟩:ByteArray),false)) else ((r2_Sign.f x1).bind fun t109=>(if t109<0 then ((r2_Neg.f x0).bind fun t110=>((r2_Neg.f x1).bind fun t111=>(r3_Make.j1 k t110 t111))) else (r3_Make.j1 k x0 x1)))
def r3_Make.j1:Nat→ByteArray→ByteArray→Option (ByteArray×ByteArray×Bool)
 | 0,_,_=>none
 | k+1,x0,x1=>(r2_Abs.f x0).bind fun t112=>((r1_Gcd.f t112 x1).bind fun t113=>((r2_Div.f x0 t113).bind fun bt114=>((r2_Div.f x1 t113).bind fun bt117=>(some (bt114.1,bt117.1,true)))))
end
def r3_Make.f (k:Nat) (a0:ByteArray) (a1:ByteArray):Option (ByteArray×ByteArray×Bool):=(r2_May.f a0).bind fun t107=>(if t107=true then ((r2_May.f a1).bind fun t108=>(if t108=true then (r3_Make.j0 k a0 a1 (a1.toList == ([48]:List UInt8))) else (r3_Make.j0 k a0 a1 true))) else (r3_Make.j0 k a0 a1 true))
set_option maxHeartbeats 8000000 in
set_option maxRecDepth 100000 in
theorem r3_Make.calls (k:Nat) (a0:ByteArray) (a1:ByteArray) (r1:ByteArray) (r2:ByteArray) (r3:Bool) (w:World) (h:r3_Make.f k a0 a1=some (r1,r2,r3)) :
  Calls Tryz.prog 39 #[.string a0,.string a1] w fun e w'=>e=.returned (.tuple #[.agg #[.string r1,.string r2],.bool r3])∧Below w.heap.size w w':=by
 have hu23:=Tryz.underlying23;have HB:=Aside0.mk (Below.refl w.heap.size w);have H:=h;unfold r3_Make.f at H;clear h;have HC3:=Aside0.mk H;clear H;go_enter Tryz.func39,Tryz.ntmps39
 go_upto_region 1 with (first|((with_reducible refine gate_dst (N:=4) rfl ?_);refine be_ 4 #[.string (⟨#[]⟩:ByteArray),.string (⟨#[]⟩:ByteArray)] 23 ?_;intro gb106 hg w4 hbox hb;have BK106:=Aside0.mk (hbox);have GW106:=ge_ HB hg;have GE106:=ge_ HB hg;replace HB:=bs_ HB hb;clear hb hbox hg))
 (try simp only[Act.put,List.setIfInBounds_toArray,List.set_cons_zero,List.set_cons_succ])
 go_cut [24] (fun v24 wc=>∃ (kq:Nat) (x24_2:Bool),v24=.bool x24_2∧Aside0 (r3_Make.j0 kq a0 a1 x24_2=some (r1,r2,r3))∧Aside0 (kq≤k)∧Aside0 (wc.heap[gb106]?=some (.cells #[.string (⟨#[]⟩:ByteArray),.string (⟨#[]⟩:ByteArray)] 23 (0,0)))∧Aside0 (Below w.heap.size w wc))
 case first =>
  have H:=HC3.out;clear HC3;obtain⟨t107,A5,H⟩:=bi_ H;by_cases c6:t107=true
  ·subst c6;rw[if_pos rfl] at H;obtain⟨t108,A7,H⟩:=bi_ H;by_cases c8:t108=true
   ·subst c8;rw[if_pos rfl] at H;have H':=Aside0.mk H;clear H
    go_wp2_with (first|(refine gl_ 14 Tryz.func72 #[.string a0] ?_;refine mo_ (r2_May.calls a0 true _ A5.out) ?_;intro w9 hb;replace BK106:=kb_ BK106 hb;replace HB:=bs_ HB hb;(try clear hb);(try clear hb2);(try clear hk);(try clear hi))|(go_at_call 72;(with_reducible refine(r2_May.calls a1 true _ A7.out).mono ?_);rintro e w10 ⟨rfl,hb⟩;replace BK106:=kb_ BK106 hb;replace HB:=bs_ HB hb;(try clear hb);(try clear hb2);(try clear hk);(try clear hi)))
    go_meet
    case rel=>exact⟨_,((a1.toList == ([48]:List UInt8))),rl_,H',⟨by first|omega|exact Nat.le_refl _⟩,⟨k_ BK106.out⟩,⟨b_ HB.out⟩⟩
   ·replace c8:=Bool.eq_false_iff.mpr c8;subst c8;rw[if_neg nf_] at H;have H':=Aside0.mk H;clear H
    go_wp2_with (first|(refine gl_ 14 Tryz.func72 #[.string a0] ?_;refine mo_ (r2_May.calls a0 true _ A5.out) ?_;intro w11 hb;replace BK106:=kb_ BK106 hb;replace HB:=bs_ HB hb;(try clear hb);(try clear hb2);(try clear hk);(try clear hi))|(go_at_call 72;(with_reducible refine(r2_May.calls a1 false _ A7.out).mono ?_);rintro e w12 ⟨rfl,hb⟩;replace BK106:=kb_ BK106 hb;replace HB:=bs_ HB hb;(try clear hb);(try clear hb2);(try clear hk);(try clear hi)))
    go_meet
    case rel=>exact⟨_,(true),rl_,H',⟨by first|omega|exact Nat.le_refl _⟩,⟨k_ BK106.out⟩,⟨b_ HB.out⟩⟩
  ·replace c6:=Bool.eq_false_iff.mpr c6;subst c6;rw[if_neg nf_] at H;have H':=Aside0.mk H;clear H
   go_wp2_with (first|(refine gl_ 14 Tryz.func72 #[.string a0] ?_;refine mo_ (r2_May.calls a0 false _ A5.out) ?_;intro w13 hb;replace BK106:=kb_ BK106 hb;replace HB:=bs_ HB hb;(try clear hb);(try clear hb2);(try clear hk);(try clear hi)))
   go_meet
   case rel=>exact⟨_,(true),rl_,H',⟨by first|omega|exact Nat.le_refl _⟩,⟨k_ BK106.out⟩,⟨b_ HB.out⟩⟩
 case rest =>
  clear HC3;(try clear p2);(try clear c3);(try clear c6);(try clear c7);(try clear c8);obtain⟨kq,x24_2,rfl,HA,HJ2,BK106,HB⟩:=hcut
  cases kq with
  | zero=>exact absurd HA.out (by simp[r3_Make.j0])
  | succ kj2 =>
   have H:=HA.out;clear HA;simp only[r3_Make.j0] at H;by_cases c14:x24_2=true
   ·subst c14;rw[if_pos rfl] at H;simp only[Option.some.injEq,Prod.mk.injEq] at H;obtain⟨rfl,rfl,rfl⟩:=H;have hcz15_0:=bc_ BK106 0 rfl;have hcz15_1:=bc_ BK106 1 rfl;have hfz15_0:=blk_frozen BK106.out 0;have hfz15_1:=blk_frozen BK106.out 1;go_wp2;refine bodyPost_ret (results_ct rfl _ _ gb106 23 #[.string (⟨#[]⟩:ByteArray),.string (⟨#[]⟩:ByteArray)] (0,0) _ rfl (rp_ BK106.out) Tryz.underlying23 rfl (by kernel_rfl)) rfl ?_;exact⟨er_,b_ HB.out⟩
   ·replace c14:=Bool.eq_false_iff.mpr c14;subst c14;rw[if_neg nf_] at H;obtain⟨t109,A16,H⟩:=bi_ H;have HC17:=Aside0.mk H;clear H
    go_upto_if 28 with (first|(refine gl_ 27 Tryz.func73 #[.string a1] ?_;refine mo_ (r2_Sign.calls a1 t109 _ A16.out) ?_;intro w18 hb;replace BK106:=kb_ BK106 hb;replace HB:=bs_ HB hb;(try clear hb);(try clear hb2);(try clear hk);(try clear hi)))
    (try simp only[Act.put,List.setIfInBounds_toArray,List.set_cons_zero,List.set_cons_succ])
    go_cut [0,1] (fun v0 v1 wc=>∃ (kq:Nat) (x0_16:ByteArray) (x1_16:ByteArray),v0=.string x0_16∧v1=.string x1_16∧Aside0 (r3_Make.j1 kq x0_16 x1_16=some (r1,r2,r3))∧Aside0 (kq≤kj2)∧Aside0 (wc.heap[gb106]?=some (.cells #[.string (⟨#[]⟩:ByteArray),.string (⟨#[]⟩:ByteArray)] 23 (0,0)))∧Aside0 (Below w.heap.size w wc))
    case first =>
     have H:=HC17.out;clear HC17;by_cases c19:t109<0
     ·rw[if_pos c19] at H;have c19b0:decide (t109<0)=true:=decide_eq_true c19;clear c19;(first|rw[c19b0]|(simp only[i64_w,i32_w];rw[c19b0])|skip);obtain⟨t110,A20,H⟩:=bi_ H;obtain⟨t111,A21,H⟩:=bi_ H;have H':=Aside0.mk H;clear H
      go_wp2_with (first|(refine gl_ 30 Tryz.func50 #[.string a0] ?_;refine mo_ (r2_Neg.calls a0 t110 _ A20.out) ?_;intro w22 hb;replace BK106:=kb_ BK106 hb;replace HB:=bs_ HB hb;(try clear hb);(try clear hb2);(try clear hk);(try clear hi))|(refine gl_ 32 Tryz.func50 #[.string a1] ?_;refine mo_ (r2_Neg.calls a1 t111 _ A21.out) ?_;intro w23 hb;replace BK106:=kb_ BK106 hb;replace HB:=bs_ HB hb;(try clear hb);(try clear hb2);(try clear hk);(try clear hi)))
      go_meet
      case rel=>exact⟨_,(t110),(t111),rl_,rl_,H',⟨by have:=HJ2.out;first|omega|exact Nat.le_refl _⟩,⟨k_ BK106.out⟩,⟨b_ HB.out⟩⟩
     ·rw[if_neg c19] at H;have c19b0:decide (t109<0)=false:=decide_eq_false c19;clear c19;(first|rw[c19b0]|(simp only[i64_w,i32_w];rw[c19b0])|skip);have H':=Aside0.mk H;clear H;go_wp2
      go_meet
      case rel=>exact⟨_,(a0),(a1),rl_,rl_,H',⟨by have:=HJ2.out;first|omega|exact Nat.le_refl _⟩,⟨k_ BK106.out⟩,⟨b_ HB.out⟩⟩
    case rest =>
     clear HC17;(try clear c1);(try clear p2);(try clear c3);(try clear c5);(try clear c6);(try clear c7);(try clear c8);(try clear c14);(try clear c19);(try clear c19b0);(try clear hcz15_0);(try clear hcz15_1);(try clear hfz15_0);(try clear hfz15_1);(try clear p2);obtain⟨kq,x0_16,x1_16,rfl,rfl,HA,HJ16,BK106,HB⟩:=hcut
     cases kq with
     | zero=>exact absurd HA.out (by simp[r3_Make.j1])
     | succ kj16 =>
      have H:=HA.out;clear HA;simp only[r3_Make.j1] at H;obtain⟨t112,A24,H⟩:=bi_ H;obtain⟨t113,A25,H⟩:=bi_ H;obtain⟨⟨t114,t115,t116⟩,A26,H⟩:=bi_ H;(try dsimp only at H);obtain⟨⟨t117,t118,t119⟩,A27,H⟩:=bi_ H;(try dsimp only at H);simp only[Option.some.injEq,Prod.mk.injEq] at H;obtain⟨rfl,rfl,rfl⟩:=H
      go_wp2_with (first|(refine gl_ 34 Tryz.func70 #[.string x0_16] ?_;refine mo_ (r2_Abs.calls x0_16 t112 _ A24.out) ?_;intro w28 hb;replace BK106:=kb_ BK106 hb;replace HB:=bs_ HB hb;(try clear hb);(try clear hb2);(try clear hk);(try clear hi))|(refine gl_ 36 Tryz.func74 #[.string t112,.string x1_16] ?_;refine mo_ (r1_Gcd.calls t112 x1_16 t113 _ A25.out) ?_;intro w29 hb;replace BK106:=kb_ BK106 hb;replace HB:=bs_ HB hb;(try clear hb);(try clear hb2);(try clear hk);(try clear hi))|(refine gl_ 40 Tryz.func75 #[.string x0_16,.string t113] ?_;refine mo_ (r2_Div.calls x0_16 t113 t114 t115 t116 _ A26.out) ?_;intro w30 hb;replace BK106:=kb_ BK106 hb;replace HB:=bs_ HB hb;(try clear hb);(try clear hb2);(try clear hk);(try clear hi))|(refine gl_ 47 Tryz.func75 #[.string x1_16,.string t113] ?_;refine mo_ (r2_Div.calls x1_16 t113 t117 t118 t119 _ A27.out) ?_;intro w31 hb;replace BK106:=kb_ BK106 hb;replace HB:=bs_ HB hb;(try clear hb);(try clear hb2);(try clear hk);(try clear hi);have hcz32_0:=bc_ BK106 0 rfl;have hcz32_1:=bc_ BK106 1 rfl;have hfz32_0:=blk_frozen BK106.out 0;have hfz32_1:=blk_frozen BK106.out 1))
      refine bodyPost_ret (results_ct rfl _ _ gb106 23 #[.string t114,.string t117] (0,0) _ rfl (rp_ BK106.out) Tryz.underlying23 rfl (by kernel_rfl)) rfl ?_;exact⟨er_,b_ HB.out⟩
def r3_Of.f (a0:Int):Option (ByteArray×ByteArray):=(r2_Of.f a0).bind fun t121=>(some (t121,(⟨#[49]⟩:ByteArray)))
set_option maxHeartbeats 8000000 in
set_option maxRecDepth 100000 in
theorem r3_Of.calls (a0:Int) (r1:ByteArray) (r2:ByteArray) (w:World) (h:r3_Of.f a0=some (r1,r2)) :
  Calls Tryz.prog 15 #[.int .i64 a0] w fun e w'=>e=.returned (.agg #[.string r1,.string r2])∧Below w.heap.size w w':=by
 have hu23:=Tryz.underlying23;have HB:=Aside0.mk (Below.refl w.heap.size w);have H:=h;unfold r3_Of.f at H;clear h;obtain⟨t121,A2,H⟩:=bi_ H;simp only[Option.some.injEq,Prod.mk.injEq] at H;obtain⟨rfl,rfl⟩:=H;go_enter Tryz.func15,Tryz.ntmps15
 go_wp2_with (first|((with_reducible refine gate_dst (N:=2) rfl ?_);refine be_ 2 #[.string (⟨#[]⟩:ByteArray),.string (⟨#[]⟩:ByteArray)] 23 ?_;intro gb120 hg w3 hbox hb;have BK120:=Aside0.mk (hbox);have GW120:=ge_ HB hg;have GE120:=ge_ HB hg;replace HB:=bs_ HB hb;clear hb hbox hg)|(refine gl_ 4 Tryz.func38 #[.int .i64 a0] ?_;refine mo_ (r2_Of.calls a0 t121 _ A2.out) ?_;intro w4 hb;replace BK120:=kb_ BK120 hb;replace HB:=bs_ HB hb;(try clear hb);(try clear hb2);(try clear hk);(try clear hi);have hcz5_0:=bc_ BK120 0 rfl;have hcz5_1:=bc_ BK120 1 rfl;have hfz5_0:=blk_frozen BK120.out 0;have hfz5_1:=blk_frozen BK120.out 1))
 refine bodyPost_ret (results_cell_row rfl _ _ gb120 23 #[.string t121,.string (⟨#[49]⟩:ByteArray)] (0,0) _ rfl (rp_ BK120.out) Tryz.underlying23 rfl (by kernel_rfl)) rfl ?_;exact⟨er_,b_ HB.out⟩
end Go.Proofs.YtoghmeffpgbcfaaGreatDoor.Pz
end

section
namespace Go.Proofs.YtoghmeffpgbcfaaGreatDoor.Pz
def r3_Mul.T3:Bool×List (List Nat×List Nat):=(true,[([],[]),([0],[0]),([],[]),([2],[2]),([1,3],[1,3]),([],[]),([5],[5]),([],[]),([7],[7]),([6,8,4],[6,8]),([4,9,9],[4,9]),([10],[10]),([11],[11]),([11],[11]),([],[]),([14,12,10,0,1,2,3,4,5,6,7,8,9,10,11,12,14],[12,14]),([13,15,0,1,2,3,4,5,6,7,8,9,10,11,12,13,14,15],[13])])
def r3_Mul.B3:List Nat:=[0,1,0,4,15,0,32,0,128,511,1023,2047,4095,4095,0,24575,65535]
theorem r3_Mul.tab3:rtab .any (opsOf Tryz.f69 3)=r3_Mul.T3:=by kernel_rfl
theorem r3_Mul.bits3:waitsOk r3_Mul.T3.2 r3_Mul.B3=true:=by kernel_rfl
end Go.Proofs.YtoghmeffpgbcfaaGreatDoor.Pz
end

section
namespace Go.Proofs.YtoghmeffpgbcfaaGreatDoor.Pz
def r3_One.f (k:Nat) (a0:Int) (a1:Int):Option (ByteArray×ByteArray):=(r2_Of.f a0).bind fun t137=>((r2_Of.f a1).bind fun t138=>((r3_Make.f k t137 t138).bind fun bt139=>(some (bt139.1,bt139.2.1))))
set_option maxHeartbeats 8000000 in
set_option maxRecDepth 100000 in
theorem r3_One.calls (k:Nat) (a0:Int) (a1:Int) (r1:ByteArray) (r2:ByteArray) (w:World) (h:r3_One.f k a0 a1=some (r1,r2)) :
  Calls Tryz.prog 16 #[.int .i64 a0,.int .i64 a1] w fun e w'=>e=.returned (.agg #[.string r1,.string r2])∧Below w.heap.size w w':=by
 have hu23:=Tryz.underlying23;have HB:=Aside0.mk (Below.refl w.heap.size w);have H:=h;unfold r3_One.f at H;clear h;obtain⟨t137,A3,H⟩:=bi_ H;obtain⟨t138,A4,H⟩:=bi_ H;obtain⟨⟨t139,t140,t141⟩,A5,H⟩:=bi_ H;(try dsimp only at H);simp only[Option.some.injEq,Prod.mk.injEq] at H;obtain⟨rfl,rfl⟩:=H;go_enter Tryz.func16,Tryz.ntmps16
 go_wp2_with (first|((with_reducible refine gate_dst (N:=4) rfl ?_);refine be_ 4 #[.string (⟨#[]⟩:ByteArray),.string (⟨#[]⟩:ByteArray)] 23 ?_;intro gb136 hg w6 hbox hb;have BK136:=Aside0.mk (hbox);have GW136:=ge_ HB hg;have GE136:=ge_ HB hg;replace HB:=bs_ HB hb;clear hb hbox hg)|(refine gl_ 9 Tryz.func38 #[.int .i64 a0] ?_;refine mo_ (r2_Of.calls a0 t137 _ A3.out) ?_;intro w7 hb;replace BK136:=kb_ BK136 hb;replace HB:=bs_ HB hb;(try clear hb);(try clear hb2);(try clear hk);(try clear hi))|(refine gl_ 11 Tryz.func38 #[.int .i64 a1] ?_;refine mo_ (r2_Of.calls a1 t138 _ A4.out) ?_;intro w8 hb;replace BK136:=kb_ BK136 hb;replace HB:=bs_ HB hb;(try clear hb);(try clear hb2);(try clear hk);(try clear hi))|(refine gl_ 12 Tryz.func39 #[.string t137,.string t138] ?_;refine mo_ (r3_Make.calls k t137 t138 t139 t140 t141 _ A5.out) ?_;intro w9 hb;replace BK136:=kb_ BK136 hb;replace HB:=bs_ HB hb;(try clear hb);(try clear hb2);(try clear hk);(try clear hi))|((with_reducible refine gate_dst (N:=5) rfl ?_);refine be_ 5 #[.string (⟨#[]⟩:ByteArray),.string (⟨#[]⟩:ByteArray)] 23 ?_;intro gb142 hg w10 hbox hb;have BK142:=Aside0.mk (hbox);have GW142:=ge_ HB hg;have GE142:=ge_ HB hg;have NB136_142:=nl_ BK136 hg;have NB142_136:=ng_ BK136 hg;replace BK136:=kb_ BK136 hb;replace HB:=bs_ HB hb;clear hb hbox hg;have hnb11:=NB142_136.out;have hnc11:=NB136_142.out;have hcz12_0:=bc_ BK142 0 rfl;have hcz12_1:=bc_ BK142 1 rfl;have hfz12_0:=blk_frozen BK142.out 0;have hfz12_1:=blk_frozen BK142.out 1;have hcz13_0:=bc_ BK136 0 rfl;have hcz13_1:=bc_ BK136 1 rfl;have hfz13_0:=blk_frozen BK136.out 0;have hfz13_1:=blk_frozen BK136.out 1))
 refine bodyPost_ret (results_cell_row rfl _ _ gb136 23 #[.string t139,.string t140] (0,0) _ rfl (by refine k_ ?_;refine blk_put (cs:=#[.string t139,.string (⟨#[]⟩:ByteArray)]) ?_ 1 _ rfl;refine k_ ?_;refine blk_put (cs:=#[.string (⟨#[]⟩:ByteArray),.string (⟨#[]⟩:ByteArray)]) ?_ 0 _ rfl;refine k_ ?_;refine blk_far ?_ NB136_142.out _;refine k_ ?_;refine blk_far ?_ NB136_142.out _;refine k_ ?_;exact BK136.out) Tryz.underlying23 rfl (by kernel_rfl)) rfl ?_;exact⟨er_,b_ HB.out⟩
end Go.Proofs.YtoghmeffpgbcfaaGreatDoor.Pz
end

section
namespace Go.Proofs.YtoghmeffpgbcfaaGreatDoor.Pz
end Go.Proofs.YtoghmeffpgbcfaaGreatDoor.Pz
end

section
namespace Go.Proofs.YtoghmeffpgbcfaaGreatDoor
theorem smr_int {x:Int} (h:szI x≤20000):smr (intB x)=true:=decide_eq_true h
theorem smr2_int {x y:Int} (hx:szI x≤20000) (hy:szI y≤20000):smr2 (intB x) (intB y)=true:=by
 unfold smr2
 rw[smr_int hx,smr_int hy]
 rfl
theorem qAbs {x:Int} (hx:szI x≤20000):r2_Abs.f (intB x)=some (natB x.natAbs):=by
 unfold r2_Abs.f wabsS
 rw[if_pos (smr_int hx),if_pos (mayW_int x),numW_int]
theorem qNeg {x:Int} (hx:szI x≤20000):r2_Neg.f (intB x)=some (intB (-x)):=by
 unfold r2_Neg.f wnegS
 rw[if_pos (smr_int hx),if_pos (mayW_int x),numW_int]
theorem qSign {x:Int} (hx:szI x≤20000):r2_Sign.f (intB x)=some (Lib.compareInt x 0):=by
 unfold r2_Sign.f wsignS
 rw[if_pos (smr_int hx),if_pos (mayW_int x),numW_int]
theorem qDiv {x y:Int} (hx:szI x≤20000) (hy:szI y≤20000) (h:y≠0):r2_Div.f (intB x) (intB y)=some (intB (x / y),intB (x % y),true):=by
 unfold r2_Div.f wdivS
 rw[if_pos (smr2_int hx hy),may2W_int',Bool.true_and,numW_int,numW_int,if_pos (decide_eq_true h)]
theorem rGcd {m n:Nat} (hm:sz m≤50000) (hn:sz n≤50000):r1_Gcd.f (natB m) (natB n)=some (natB (Nat.gcd m n)):=by
 unfold r1_Gcd.f gcdS
 rw[if_pos (sm2_natB hm hn),if_pos (may2_natB m n),numB_natB,numB_natB]
theorem gcd_le_l' {x y:Int} (hy:y≠0):sz (Nat.gcd x.natAbs y.natAbs)≤szI y:=by
 have h:=sz_mono (Nat.gcd_le_right x.natAbs (show 0<y.natAbs by omega))
 have:=le_szI y
 omega
theorem mk_core {x y:Int} (hy:0<y) (hx:szI x≤20000) (hs:szI y≤20000) (k:Nat):Pz.r3_Make.j1 (k+1) (intB x) (intB y)=some ((rT (Rat.divInt x y)).1,(rT (Rat.divInt x y)).2,true):=by
 have s3:=le_szI x
 have s4:=le_szI y
 have s5:=gcd_le_l' (x:=x) (show y≠0 by omega)
 have hg:((Nat.gcd x.natAbs y.natAbs:Nat):Int)≠0:=by
  have:=Nat.gcd_pos_of_pos_right x.natAbs (show 0<y.natAbs by omega)
  omega
 have h1:=red_num (x:=x) (y:=y) (by omega)
 have h2:=red_den (x:=x) (y:=y) (by omega)
 rw[if_neg (by omega)] at h1
 have e:intB y=natB y.natAbs:=by rw[intB_nonneg (by omega)];congr 1;omega
 have e':(y.natAbs:Int)=y:=by omega
 simp only[Pz.r3_Make.j1]
 rw[qAbs (by omega),Option.bind_some,e,rGcd (by omega) (by omega),Option.bind_some,← e,← intB_nat,qDiv (by omega) (by rw[szI_nat];omega) hg,Option.bind_some,qDiv (by omega) (by rw[szI_nat];omega) hg,Option.bind_some]
 rw[e'] at h2
 show some (intB _,intB _,true)=some (intB _,natB _,true)
 rw[h1,h2,intB_nat]
theorem mk_f {x y:Int} (hx:szI x≤19000) (hs:szI y≤19000) (k:Nat):Pz.r3_Make.f (k+2) (intB x) (intB y)=some (if y=0 then (noB,noB,false) else ((rT (Rat.divInt x y)).1,(rT (Rat.divInt x y)).2,true)):=by
 unfold Pz.r3_Make.f
 rw[rMay2 (show szI x≤50000 by omega),Option.bind_some,if_pos (mayW_int x),rMay2 (show szI y≤50000 by omega),Option.bind_some,if_pos (mayW_int y),intB_beq_zero]
 show Pz.r3_Make.j0 (k+1+1) _ _ _ = _
 simp only[Pz.r3_Make.j0]
 by_cases h0:y=0
 ·rw[if_pos (decide_eq_true h0),if_pos h0]
  rfl
 ·rw[if_neg (by rw[decide_eq_true_eq];exact h0),if_neg h0,qSign (by omega),Option.bind_some]
  by_cases h:y<0
  ·have n1:=szI_neg x
   have n2:=szI_neg y
   rw[if_pos (by rw[cmp_lt' h];decide),qNeg (by omega),Option.bind_some,qNeg (by omega),Option.bind_some,mk_core (by omega) (by omega) (by omega),Rat.neg_divInt_neg]
  ·rw[if_neg (by rw[cmp_gt' (by omega)];decide),mk_core (by omega) (by omega) (by omega)]
theorem r3make_f {a b:ByteArray} (ha:a.size≤19000) (hb:b.size≤19000) (k:Nat):Pz.r3_Make.f (k+1) a b=some ((rmakeS a b).1.1,(rmakeS a b).1.2,(rmakeS a b).2)∨k=0:=by
 by_cases hk:k=0
 ·exact .inr hk
 obtain⟨k,rfl⟩:∃ m,k=m+1:=⟨k-1,by omega⟩
 refine .inl ?_
 by_cases h1:mayW a=true
 ·by_cases h2:mayW b=true
  ·obtain⟨x,rfl⟩:=of_mayW h1
   obtain⟨y,rfl⟩:=of_mayW h2
   rw[mk_f ha hb]
   unfold rmakeS
   rw[may2W_int',Bool.true_and,numW_int,numW_int]
   by_cases h3:y=0
   ·rw[if_pos h3,if_neg (by rw[h3];decide)]
    rfl
   ·rw[if_neg h3,if_pos (decide_eq_true h3)]
  ·unfold Pz.r3_Make.f rmakeS
   rw[rMay2 (by omega),Option.bind_some,if_pos h1,rMay2 (by omega),Option.bind_some,if_neg h2,show may2W a b=false by unfold may2W;rw[h1,(Bool.not_eq_true _).mp h2];rfl]
   rfl
 ·unfold Pz.r3_Make.f rmakeS
  rw[rMay2 (by omega),Option.bind_some,if_neg h1,show may2W a b=false by unfold may2W;rw[(Bool.not_eq_true _).mp h1];rfl]
  rfl
theorem r3make_f2 {a b:ByteArray} (ha:a.size≤19000) (hb:b.size≤19000) (k:Nat):Pz.r3_Make.f (k+2) a b=some ((rmakeS a b).1.1,(rmakeS a b).1.2,(rmakeS a b).2):=(r3make_f ha hb (k+1)).resolve_right (by omega)
theorem szI_64 {n:Int} (h0:-9223372036854775808≤n) (h1:n≤9223372036854775807):szI n≤21:=by
 have h:=szI_le n
 have h2:sz n.natAbs≤20:=sz_le (by omega) (by omega)
 omega
theorem r3one_f (a b:Int) (h0:-9223372036854775808≤a) (h1:a≤9223372036854775807) (h2:-9223372036854775808≤b) (h3:b≤9223372036854775807) (k:Nat):Pz.r3_One.f (k+2) a b=some (if b=0 then no2 else rT (Rat.divInt a b)):=by
 unfold Pz.r3_One.f r2_Of.f
 have s1:=szI_64 h0 h1
 have s2:=szI_64 h2 h3
 rw[if_pos ⟨h0,h1⟩,Option.bind_some,if_pos ⟨h2,h3⟩,Option.bind_some,mk_f (by omega) (by omega),Option.bind_some]
 by_cases h:b=0
 ·rw[if_pos h,if_pos h]
  rfl
 ·rw[if_neg h,if_neg h]
def r3_One.f (a0 a1:Int):Option BB:=if (-9223372036854775808≤a0∧a0≤9223372036854775807)∧-9223372036854775808≤a1∧a1≤9223372036854775807 then some (if a1=0 then no2 else rT (Rat.divInt a0 a1)) else none
theorem r3_One.calls (a0 a1:Int) (r1 r2:ByteArray) (w:World) (h:r3_One.f a0 a1=some (r1,r2)) :
  Calls Tryz.prog 16 #[.int .i64 a0,.int .i64 a1] w fun e w'=>e=.returned (.agg #[.string r1,.string r2])∧Below w.heap.size w w':=by
 unfold r3_One.f at h
 split at h
 ·rename_i hp
  rw[← r3one_f a0 a1 hp.1.1 hp.1.2 hp.2.1 hp.2.2 0] at h
  exact Pz.r3_One.calls _ a0 a1 r1 r2 w h
 ·cases h
end Go.Proofs.YtoghmeffpgbcfaaGreatDoor
end

section
namespace Go.Proofs.YtoghmeffpgbcfaaGreatDoor
def r3_Make.f (a0 a1:ByteArray):Option (ByteArray×ByteArray×Bool):=if smR (a0,a1)=true then some ((rmakeS a0 a1).1.1,(rmakeS a0 a1).1.2,(rmakeS a0 a1).2) else none
theorem r3_Make.calls (a0 a1:ByteArray) (r1:ByteArray) (r2:ByteArray) (r3:Bool) (w:World) (h:r3_Make.f a0 a1=some (r1,r2,r3)) :
  Calls Tryz.prog 39 #[.string a0,.string a1] w fun e w'=>e=.returned (.tuple #[.agg #[.string r1,.string r2],.bool r3])∧Below w.heap.size w w':=by
 unfold r3_Make.f at h
 split at h
 ·rename_i hp
  have hs:=smR_le hp
  rw[← r3make_f2 (a:=a0) (b:=a1) (Nat.le_trans hs.1 (by decide)) (Nat.le_trans hs.2 (by decide)) 0] at h
  exact Pz.r3_Make.calls _ a0 a1 r1 r2 r3 w h
 ·cases h
end Go.Proofs.YtoghmeffpgbcfaaGreatDoor
end

section
namespace Go.Proofs.YtoghmeffpgbcfaaGreatDoor
theorem hMake {x y:Int} (hx:szI x≤4000) (hy:szI y≤4000) (h:y≠0):rat_Make.f (intB x) (intB y)=some ((rT (Rat.divInt x y)).1,(rT (Rat.divInt x y)).2,true):=by
 unfold rat_Make.f rmakeS
 rw[if_pos (show smR (intB x,intB y)=true from decide_eq_true ⟨hx,hy⟩),may2W_int' x y,Bool.true_and,numW_int,numW_int,if_pos (decide_eq_true h)]
theorem hOf {n:Int} (h0:-9223372036854775808≤n) (h1:n≤9223372036854775807):rat_Of.f n=some (rT (n:Rat)):=by
 unfold rat_Of.f
 rw[if_pos ⟨h0,h1⟩]
end Go.Proofs.YtoghmeffpgbcfaaGreatDoor
end

section
namespace Go.Proofs.YtoghmeffpgbcfaaGreatDoor
def strings_CutPrefix.f (a0 a1:ByteArray):Option (ByteArray×Bool):=if a1=⟨#[45]⟩ then some (amtB a0,minusB a0) else none
theorem strings_CutPrefix.calls (a0 a1:ByteArray) (r1:ByteArray) (r2:Bool) (w:World) (h:strings_CutPrefix.f a0 a1=some (r1,r2)) :
  Calls Tryz.prog 82 #[.string a0,.string a1] w fun e w'=>e=.returned (.tuple #[.string r1,.bool r2])∧Below w.heap.size w w':=by
 unfold strings_CutPrefix.f at h
 split at h
 ·rename_i hs
  subst hs
  rw[← cutW_f] at h
  refine(Pw.strings_CutPrefix.calls a0 _ r1 r2 w h).mono ?_
  rintro e w' ⟨rfl,n,rfl⟩
  exact⟨rfl,pw_below_drewN (Below.refl _ _) n⟩
 ·cases h
end Go.Proofs.YtoghmeffpgbcfaaGreatDoor
end

section
namespace Go.Proofs.YtoghmeffpgbcfaaGreatDoor.Pd
def errW:Option Int→Value
 | none=>.nilIface
 | some c=>.iface 0 (.int .i64 c)
theorem errW_none:errW none=.nilIface:=rfl
theorem errW_some (c:Int):errW (some c)=.iface 0 (.int .i64 c):=rfl
end Go.Proofs.YtoghmeffpgbcfaaGreatDoor.Pd
end

section
namespace Go.Proofs.YtoghmeffpgbcfaaGreatDoor.Pd
def decimal_times.l0:Nat→ByteArray→ByteArray→Int→Option (Int×ByteArray)
 | 0,_,_,_=>none
 | k+1,x0,x1,x6=>(nat_Div.f x0 x1).bind fun bt101=>(if bt101.2.1.toList=([48]:List UInt8) then (decimal_times.l0 k bt101.1 x1 (wrap64 (x6+1))) else (some (x6,x0)))
def decimal_times.f (k:Nat) (a0:ByteArray) (a1:ByteArray):Option (Int×ByteArray):=decimal_times.l0 k a0 a1 0
set_option maxHeartbeats 8000000 in
set_option maxRecDepth 100000 in
theorem decimal_times.calls (k:Nat) (a0:ByteArray) (a1:ByteArray) (r1:Int) (r2:ByteArray) (w:World) (hL_:Laid w) (h:decimal_times.f k a0 a1=some (r1,r2)) :
  Calls Tryz.prog 137 #[.string a0,.string a1] w fun e w'=>e=.returned (.tuple #[.int .i64 r1,.string r2])∧Below w.heap.size w w':=by
 have HLD:=Aside0.mk hL_;clear hL_;have HB:=Aside0.mk (Below.refl w.heap.size w);have H:=h;unfold decimal_times.f at H;clear h;have H':=Aside0.mk H;clear H;go_enter Tryz.func137,Tryz.ntmps137
 go_wp2_with (first|(with_reducible refine Exit.jump_in ?_)|((with_reducible refine wp_scope_redo (rest:=?rest_) 0 ?hf_ ?_);(case hf_=>exact rfl))|(with_reducible apply wp_goto))
 (refine wp_label ?_;simp only[Exit.then];go_step)
 refine wp_label_ghost_r (fun (kq:Nat) (a':Act) (w':World)=>∃ u0 u6 u7 u8 u9 u10 u11 u12 u13 u14 u15 u16 u17 u18 u19 u20 u21 u22 u23:Value,(∃ (x0_1:ByteArray) (x6_1:Int),u0=.string x0_1∧u6=.int .i64 x6_1∧Aside0 (decimal_times.l0 kq x0_1 a1 x6_1=some (r1,r2))∧Aside0 (kq≤k)∧Aside0 (Below w.heap.size w w'))∧a'=⟨#[u0,Value.string a1,undef,undef,Value.int IntKind.i64 0,Value.string { data:=#[] },u6,u7,u8,u9,u10,u11,u12,u13,u14,u15,u16,u17,u18,u19,u20,u21,u22,u23],[]⟩) k ?atStart ?round
 case atStart =>
  (repeat apply Exists.intro)
  refine⟨?_,rfl⟩;exact⟨(a0),(0),rl_,rl_,H',⟨Nat.le_refl _⟩,⟨b_ HB.out⟩⟩
 case round =>
  intro gk _ wr hinv;obtain⟨u0,u6,u7,u8,u9,u10,u11,u12,u13,u14,u15,u16,u17,u18,u19,u20,u21,u22,u23,hrel,ha⟩:=hinv;subst ha
  try dsimp only
  intro _ _ _ _ _ _;clear H';(try clear c1);(try clear p2);obtain⟨x0_1,x6_1,rfl,rfl,HA,HK1,HB⟩:=hrel
  cases gk with
  | zero=>exact absurd HA.out (by simp[decimal_times.l0])
  | succ k1 =>
   have H:=HA.out;clear HA;simp only[decimal_times.l0] at H;obtain⟨⟨t101,t102,t103⟩,A3,H⟩:=bi_ H;(try dsimp only at H);by_cases c4:t102.toList=([48]:List UInt8)
   ·rw[if_pos c4] at H;have c4b0:(t102.toList == ([48]:List UInt8))=true:=beq_iff_eq.mpr c4;have c4b1:(t102.toList != ([48]:List UInt8))=false:=bne_eq_false_iff_eq.mpr c4;clear c4;have H':=Aside0.mk H;clear H
    go_wp2_with (first|(first|(with_reducible refine Exit.jump_in ?_)|((with_reducible refine wp_scope_redo (rest:=?rest_) 0 ?hf_ ?_);(case hf_=>exact rfl))|(with_reducible apply wp_goto))|(refine gl_ 13 Tryz.func59 #[.string x0_1,.string a1] ?_;refine mo_ (nat_Div.calls x0_1 a1 t101 t102 t103 _ (lb_ HLD HB) A3.out) ?_;intro w5 hb;replace HB:=bs_ HB hb;(try clear hb);(try clear hb2);(try clear hk);(try clear hi)))
    go_roundg k1
    case measure=>have:=HK1.out;omega
    case rel=>exact⟨(t101),(wrap64 (x6_1+1)),rl_,rl_,H',⟨by have:=HK1.out;omega⟩,⟨b_ HB.out⟩⟩
   ·rw[if_neg c4] at H;have c4b0:(t102.toList == ([48]:List UInt8))=false:=beq_eq_false_iff_ne.mpr c4;have c4b1:(t102.toList != ([48]:List UInt8))=true:=bne_iff_ne.mpr c4;simp only[Option.some.injEq,Prod.mk.injEq] at H;obtain⟨rfl,rfl⟩:=H
    go_wp2_with (first|(first|(with_reducible refine Exit.jump_in ?_)|((with_reducible refine wp_scope_redo (rest:=?rest_) 0 ?hf_ ?_);(case hf_=>exact rfl))|(with_reducible apply wp_goto))|(refine gl_ 13 Tryz.func59 #[.string x0_1,.string a1] ?_;refine mo_ (nat_Div.calls x0_1 a1 t101 t102 t103 _ (lb_ HLD HB) A3.out) ?_;intro w6 hb;replace HB:=bs_ HB hb;(try clear hb);(try clear hb2);(try clear hk);(try clear hi)))
    ((try simp only[Exit.inBlock,Exit.then,Exit.jump]);refine bodyPost_ret (results_tmp2 rfl _ _ _) rfl ?_)
    exact⟨er_,b_ HB.out⟩
def decimal_places.f (k:Nat) (a0:ByteArray):Option (Int×Bool):=(decimal_times.f k a0 (⟨#[50]⟩:ByteArray)).bind fun bt104=>((decimal_times.f k bt104.2 (⟨#[53]⟩:ByteArray)).bind fun bt106=>(some (mx bt104.1 bt106.1,(bt106.2.toList == ([49]:List UInt8)))))
set_option maxHeartbeats 8000000 in
set_option maxRecDepth 100000 in
theorem decimal_places.calls (k:Nat) (a0:ByteArray) (r1:Int) (r2:Bool) (w:World) (hL_:Laid w) (h:decimal_places.f k a0=some (r1,r2)) :
  Calls Tryz.prog 101 #[.string a0] w fun e w'=>e=.returned (.tuple #[.int .i64 r1,.bool r2])∧Below w.heap.size w w':=by
 have HLD:=Aside0.mk hL_;clear hL_;have HB:=Aside0.mk (Below.refl w.heap.size w);have H:=h;unfold decimal_places.f at H;clear h;obtain⟨⟨t104,t105⟩,A2,H⟩:=bi_ H;(try dsimp only at H);obtain⟨⟨t106,t107⟩,A3,H⟩:=bi_ H;(try dsimp only at H);obtain⟨ji4,hji4⟩:∃ j_:Int,(mx t104 t106)=j_:=⟨_,rfl⟩;(first|rw[hji4] at H|simp only[hji4] at H);(try rw[hji4] at A2);(try rw[hji4] at A3);have hji4_:(if t104<t106 then t106 else t104)=ji4:=hji4;simp only[Option.some.injEq,Prod.mk.injEq] at H;obtain⟨rfl,rfl⟩:=H;go_enter Tryz.func101,Tryz.ntmps101
 go_wp2_with (first|(first|(with_reducible refine Exit.only_intro ?_)|((with_reducible refine wp_scope_redo (rest:=?rest_) 0 ?hf_ ?_);(case hf_=>exact rfl))|(with_reducible apply wp_goto))|(refine gl_ 9 Tryz.func137 #[.string a0,.string (⟨#[50]⟩:ByteArray)] ?_;refine mo_ (decimal_times.calls k a0 (⟨#[50]⟩:ByteArray) t104 t105 _ (lb_ HLD HB) A2.out) ?_;intro w5 hb;replace HB:=bs_ HB hb;(try clear hb);(try clear hb2);(try clear hk);(try clear hi))|(refine gl_ 14 Tryz.func137 #[.string t105,.string (⟨#[53]⟩:ByteArray)] ?_;refine mo_ (decimal_times.calls k t105 (⟨#[53]⟩:ByteArray) t106 t107 _ (lb_ HLD HB) A3.out) ?_;intro w6 hb;replace HB:=bs_ HB hb;(try clear hb);(try clear hb2);(try clear hk);(try clear hi)))
 go_ret2;exact⟨by first|rfl|(simp[errW_none,errW_some] <;> rfl)|(simp only[← hji4];first|rfl|(simp[errW_none,errW_some] <;> rfl))|(simp[*,errW_none,errW_some] <;> rfl),b_ HB.out⟩
def decimal_Places.f (k:Nat) (a0_0:ByteArray) (a0_1:ByteArray):Option (Int×Bool):=(rat_May.f a0_0 a0_1).bind fun t109=>(if t109=true then ((decimal_places.f k a0_1).bind fun bt110=>(if bt110.2=true then (some (bt110.1,true)) else (some (0,false)))) else (some (0,false)))
set_option maxHeartbeats 8000000 in
set_option maxRecDepth 100000 in
theorem decimal_Places.calls (k:Nat) (a0_0:ByteArray) (a0_1:ByteArray) (r1:Int) (r2:Bool) (w:World) (hL_:Laid w) (h:decimal_Places.f k a0_0 a0_1=some (r1,r2)) :
  Calls Tryz.prog 58 #[.agg #[.string a0_0,.string a0_1]] w fun e w'=>e=.returned (.tuple #[.int .i64 r1,.bool r2])∧Below w.heap.size w w':=by
 have hu23:=Tryz.underlying23;have HLD:=Aside0.mk hL_;clear hL_;have HB:=Aside0.mk (Below.refl w.heap.size w);have H:=h;unfold decimal_Places.f at H;clear h;obtain⟨t109,A2,H⟩:=bi_ H;by_cases c3:t109=true
 ·subst c3;rw[if_pos rfl] at H;obtain⟨⟨t110,t111⟩,A4,H⟩:=bi_ H;(try dsimp only at H);by_cases c5:t111=true
  ·subst c5;rw[if_pos rfl] at H;simp only[Option.some.injEq,Prod.mk.injEq] at H;obtain⟨rfl,rfl⟩:=H;go_enter Tryz.func58,Tryz.ntmps58
   go_wp2_with (first|(first|(with_reducible refine Exit.only_intro ?_)|((with_reducible refine wp_scope_redo (rest:=?rest_) 0 ?hf_ ?_);(case hf_=>exact rfl))|(with_reducible apply wp_goto))|((with_reducible refine gate_dst (N:=1) rfl ?_);refine be_ 1 #[.string a0_0,.string a0_1] 23 ?_;intro gb108 hg w6 hbox hb;have BK108:=Aside0.mk (hbox);have GW108:=ge_ HB hg;have GE108:=ge_ HB hg;replace HB:=bs_ HB hb;clear hb hbox hg;have hcz7_0:=bc_ BK108 0 rfl;have hcz7_1:=bc_ BK108 1 rfl;have hfz7_0:=blk_frozen BK108.out 0;have hfz7_1:=blk_frozen BK108.out 1)|(refine gl_ 7 Tryz.func53 #[.agg #[.string a0_0,.string a0_1]] ?_;refine mo_ (rat_May.calls a0_0 a0_1 true _ (lb_ HLD HB) A2.out) ?_;intro w8 hb;replace BK108:=kb_ BK108 hb;replace HB:=bs_ HB hb;(try clear hb);(try clear hb2);(try clear hk);(try clear hi);have hcz9_0:=bc_ BK108 0 rfl;have hcz9_1:=bc_ BK108 1 rfl;have hfz9_0:=blk_frozen BK108.out 0;have hfz9_1:=blk_frozen BK108.out 1)|(refine gl_ 12 Tryz.func101 #[.string a0_1] ?_;refine mo_ (decimal_places.calls k a0_1 t110 true _ (lb_ HLD HB) A4.out) ?_;intro w10 hb;replace BK108:=kb_ BK108 hb;replace HB:=bs_ HB hb;(try clear hb);(try clear hb2);(try clear hk);(try clear hi)))
   go_ret2;exact⟨er_,b_ HB.out⟩
  ·replace c5:=Bool.eq_false_iff.mpr c5;subst c5;rw[if_neg nf_] at H;simp only[Option.some.injEq,Prod.mk.injEq] at H;obtain⟨rfl,rfl⟩:=H;go_enter Tryz.func58,Tryz.ntmps58
   go_wp2_with (first|(first|(with_reducible refine Exit.only_intro ?_)|((with_reducible refine wp_scope_redo (rest:=?rest_) 0 ?hf_ ?_);(case hf_=>exact rfl))|(with_reducible apply wp_goto))|((with_reducible refine gate_dst (N:=1) rfl ?_);refine be_ 1 #[.string a0_0,.string a0_1] 23 ?_;intro gb108 hg w11 hbox hb;have BK108:=Aside0.mk (hbox);have GW108:=ge_ HB hg;have GE108:=ge_ HB hg;replace HB:=bs_ HB hb;clear hb hbox hg;have hcz12_0:=bc_ BK108 0 rfl;have hcz12_1:=bc_ BK108 1 rfl;have hfz12_0:=blk_frozen BK108.out 0;have hfz12_1:=blk_frozen BK108.out 1)|(refine gl_ 7 Tryz.func53 #[.agg #[.string a0_0,.string a0_1]] ?_;refine mo_ (rat_May.calls a0_0 a0_1 true _ (lb_ HLD HB) A2.out) ?_;intro w13 hb;replace BK108:=kb_ BK108 hb;replace HB:=bs_ HB hb;(try clear hb);(try clear hb2);(try clear hk);(try clear hi);have hcz14_0:=bc_ BK108 0 rfl;have hcz14_1:=bc_ BK108 1 rfl;have hfz14_0:=blk_frozen BK108.out 0;have hfz14_1:=blk_frozen BK108.out 1)|(refine gl_ 12 Tryz.func101 #[.string a0_1] ?_;refine mo_ (decimal_places.calls k a0_1 t110 false _ (lb_ HLD HB) A4.out) ?_;intro w15 hb;replace BK108:=kb_ BK108 hb;replace HB:=bs_ HB hb;(try clear hb);(try clear hb2);(try clear hk);(try clear hi)))
   go_ret2;exact⟨er_,b_ HB.out⟩
 ·replace c3:=Bool.eq_false_iff.mpr c3;subst c3;rw[if_neg nf_] at H;simp only[Option.some.injEq,Prod.mk.injEq] at H;obtain⟨rfl,rfl⟩:=H;go_enter Tryz.func58,Tryz.ntmps58
  go_wp2_with (first|(first|(with_reducible refine Exit.only_intro ?_)|((with_reducible refine wp_scope_redo (rest:=?rest_) 0 ?hf_ ?_);(case hf_=>exact rfl))|(with_reducible apply wp_goto))|((with_reducible refine gate_dst (N:=1) rfl ?_);refine be_ 1 #[.string a0_0,.string a0_1] 23 ?_;intro gb108 hg w16 hbox hb;have BK108:=Aside0.mk (hbox);have GW108:=ge_ HB hg;have GE108:=ge_ HB hg;replace HB:=bs_ HB hb;clear hb hbox hg;have hcz17_0:=bc_ BK108 0 rfl;have hcz17_1:=bc_ BK108 1 rfl;have hfz17_0:=blk_frozen BK108.out 0;have hfz17_1:=blk_frozen BK108.out 1)|(refine gl_ 7 Tryz.func53 #[.agg #[.string a0_0,.string a0_1]] ?_;refine mo_ (rat_May.calls a0_0 a0_1 false _ (lb_ HLD HB) A2.out) ?_;intro w18 hb;replace BK108:=kb_ BK108 hb;replace HB:=bs_ HB hb;(try clear hb);(try clear hb2);(try clear hk);(try clear hi)))
  go_ret2;exact⟨er_,b_ HB.out⟩
def decimal_power.f (a0:Int):Option (ByteArray):=(strings_Repeat.f (⟨#[48]⟩:ByteArray) a0).bind fun t112=>(if 1+t112.size≤9223372036854775807 then (some ((⟨#[49]⟩:ByteArray)++t112)) else (none))
set_option maxHeartbeats 8000000 in
set_option maxRecDepth 100000 in
theorem decimal_power.calls (a0:Int) (r:ByteArray) (w:World) (h:decimal_power.f a0=some r) :
  Calls Tryz.prog 60 #[.int .i64 a0] w fun e w'=>e=.returned (.string r)∧Below w.heap.size w w':=by
 have HB:=Aside0.mk (Below.refl w.heap.size w);have H:=h;unfold decimal_power.f at H;clear h;obtain⟨t112,A2,H⟩:=bi_ H;by_cases c3:1+t112.size≤9223372036854775807
 ·rw[if_pos c3] at H;have c3b0:=eq_true c3;have c3b1:decide (1+t112.size≤9223372036854775807)=true:=decide_eq_true c3
  try have c3b2:(9223372036854775807<1+t112.size)=False:=eq_false (Nat.not_lt.2 c3)
  obtain rfl:=Option.some.inj H;go_enter Tryz.func60,Tryz.ntmps60
  go_wp2_with (first|(first|(with_reducible refine Exit.only_intro ?_)|((with_reducible refine wp_scope_redo (rest:=?rest_) 0 ?hf_ ?_);(case hf_=>exact rfl))|(with_reducible apply wp_goto))|(refine gl_ 4 Tryz.func63 #[.string (⟨#[48]⟩:ByteArray),.int .i64 a0] ?_;refine mo_ (strings_Repeat.calls (⟨#[48]⟩:ByteArray) a0 t112 _ A2.out) ?_;intro w4 hb;replace HB:=bs_ HB hb;(try clear hb);(try clear hb2);(try clear hk);(try clear hi)))
  go_ret
  exact⟨er_,b_ HB.out⟩
 ·rw[if_neg c3] at H;exact absurd H (by simp)
end Go.Proofs.YtoghmeffpgbcfaaGreatDoor.Pd
end

section
namespace Go.Proofs.YtoghmeffpgbcfaaGreatDoor.Pd
def decimal_Print.f (k:Nat) (a0_0:ByteArray) (a0_1:ByteArray):Option (ByteArray):=(decimal_Places.f k a0_0 a0_1).bind fun bt114=>((rat_May.f a0_0 a0_1).bind fun t116=>(if t116=true then (if bt114.2=true then (if bt114.1=0 then (some a0_0) else ((decimal_power.f bt114.1).bind fun t117=>((nat_Div.f t117 a0_1).bind fun bt118=>((whole_Abs.f a0_0).bind fun t121=>((nat_Mul.f t121 bt118.1).bind fun t122=>((strings_Repeat.f (⟨#[48]⟩:ByteArray) (mx (wrap64 ((wrap64 (bt114.1+1))-(t122.size:Int))) 0)).bind fun t123=>(if t123.size+t122.size≤9223372036854775807 then ((whole_Sign.f a0_0).bind fun t124=>(if t124<0 then (if 0≤(wrap64 (((t123++t122).size:Int)-bt114.1)) then (if (wrap64 (((t123++t122).size:Int)-bt114.1))≤((t123++t122).size:Int) then (if 1+((t123++t122).extract 0 ((wrap64 (((t123++t122).size:Int)-bt114.1)):Int).toNat).size≤9223372036854775807 then (if ((⟨#[45]⟩:ByteArray)++((t123++t122).extract 0 ((wrap64 (((t123++t122).size:Int)-bt114.1)):Int).toNat)).size+1≤9223372036854775807 then (if (((⟨#[45]⟩:ByteArray)++((t123++t122).extract 0 ((wrap64 (((t123++t122).size:Int)-bt114.1)):Int).toNat))++(⟨#[46]⟩:ByteArray)).size+((t123++t122).extract ((wrap64 (((t123++t122).size:Int)-bt114.1)):Int).toNat (t123++t122).size).size≤9223372036854775807 then (some ((((⟨#[45]⟩:ByteArray)++((t123++t122).extract 0 ((wrap64 (((t123++t122).size:Int)-bt114.1)):Int).toNat))++(⟨#[46]⟩:ByteArray))++((t123++t122).extract ((wrap64 (((t123++t122).size:Int)-bt114.1)):Int).toNat (t123++t122).size))) else (none)) else (none)) else (none)) else (none)) else (none)) else (if 0≤(wrap64 (((t123++t122).size:Int)-bt114.1)) then (if (wrap64 (((t123++t122).size:Int)-bt114.1))≤((t123++t122).size:Int) then (if 0+((t123++t122).extract 0 ((wrap64 (((t123++t122).size:Int)-bt114.1)):Int).toNat).size≤9223372036854775807 then (if ((⟨#[]⟩:ByteArray)++((t123++t122).extract 0 ((wrap64 (((t123++t122).size:Int)-bt114.1)):Int).toNat)).size+1≤9223372036854775807 then (if (((⟨#[]⟩:ByteArray)++((t123++t122).extract 0 ((wrap64 (((t123++t122).size:Int)-bt114.1)):Int).toNat))++(⟨#[46]⟩:ByteArray)).size+((t123++t122).extract ((wrap64 (((t123++t122).size:Int)-bt114.1)):Int).toNat (t123++t122).size).size≤9223372036854775807 then (some ((((⟨#[]⟩:ByteArray)++((t123++t122).extract 0 ((wrap64 (((t123++t122).size:Int)-bt114.1)):Int).toNat))++(⟨#[46]⟩:ByteArray))++((t123++t122).extract ((wrap64 (((t123++t122).size:Int)-bt114.1)):Int).toNat (t123++t122).size))) else (none)) else (none)) else (none)) else (none)) else (none)))) else (none)))))))) else (if a0_0.size+1≤9223372036854775807 then (if (a0_0++(⟨#[47]⟩:ByteArray)).size+a0_1.size≤9223372036854775807 then (some ((a0_0++(⟨#[47]⟩:ByteArray))++a0_1)) else (none)) else (none))) else (some (⟨#[]⟩:ByteArray))))
def decimal_Print.T8:Bool×List (List Nat×List Nat):=(true,[([],[]),([0],[0]),([],[]),([2],[2]),([1,3,1],[1,3]),([4],[4]),([5],[5]),([5],[5]),([5],[5]),([6,4,0,1,2,3,4,5,6],[6]),([7,9,0,1,2,3,4,5,6,7,9],[7]),([8,10,0,1,2,3,4,5,6,7,8,9,10],[8])])
def decimal_Print.B8:List Nat:=[0,1,0,4,15,31,63,63,63,127,767,2047]
theorem decimal_Print.tab8:rtab .any (opsOf Tryz.f34 8)=decimal_Print.T8:=by kernel_rfl
theorem decimal_Print.bits8:waitsOk decimal_Print.T8.2 decimal_Print.B8=true:=by kernel_rfl
def decimal_Print.T14:Bool×List (List Nat×List Nat):=(true,[([],[]),([],[]),([],[]),([2],[2]),([],[]),([3,4],[3,4]),([1,5],[1,5]),([0,6],[0,6]),([7],[7]),([],[]),([],[]),([10],[10]),([],[]),([11,12],[11,12]),([9,13],[9,13]),([8,14],[8,14]),([15,0,1,2,3,4,5,6,7,8,9,10,11,12,13,14,15],[15])])
def decimal_Print.B14:List Nat:=[0,0,0,4,0,28,62,127,255,0,0,1024,0,7168,15872,32767,65535]
theorem decimal_Print.tab14:rtab .any (opsOf Tryz.f34 14)=decimal_Print.T14:=by kernel_rfl
theorem decimal_Print.bits14:waitsOk decimal_Print.T14.2 decimal_Print.B14=true:=by kernel_rfl
set_option maxHeartbeats 8000000 in
set_option maxRecDepth 100000 in
theorem decimal_Print.calls (k:Nat) (a0_0:ByteArray) (a0_1:ByteArray) (r:ByteArray) (w:World) (hL_:Laid w) (h:decimal_Print.f k a0_0 a0_1=some r) :
  Calls Tryz.prog 34 #[.agg #[.string a0_0,.string a0_1]] w fun e w'=>e=.returned (.string r)∧Below w.heap.size w w':=by
 have hu23:=Tryz.underlying23;have HLD:=Aside0.mk hL_;clear hL_;have HB:=Aside0.mk (Below.refl w.heap.size w);have H:=h;unfold decimal_Print.f at H;clear h;obtain⟨⟨t114,t115⟩,A2,H⟩:=bi_ H;(try dsimp only at H);obtain⟨t116,A3,H⟩:=bi_ H;by_cases c4:t116=true
 ·subst c4;rw[if_pos rfl] at H;by_cases c5:t115=true
  ·subst c5;rw[if_pos rfl] at H;by_cases c6:t114=0
   ·rw[if_pos c6] at H;have c6b0:(t114 == 0)=true:=beq_iff_eq.mpr c6;have c6b1:(t114 != 0)=false:=bne_eq_false_iff_eq.mpr c6;clear c6;obtain rfl:=Option.some.inj H;go_enter Tryz.func34,Tryz.ntmps34
    go_wp2_with (first|((with_reducible refine gate_dst (N:=1) rfl ?_);refine be_ 1 #[.string a0_0,.string a0_1] 23 ?_;intro gb113 hg w7 hbox hb;have BK113:=Aside0.mk (hbox);have GW113:=ge_ HB hg;have GE113:=ge_ HB hg;replace HB:=bs_ HB hb;clear hb hbox hg;have hcz8_0:=bc_ BK113 0 rfl;have hcz8_1:=bc_ BK113 1 rfl;have hfz8_0:=blk_frozen BK113.out 0;have hfz8_1:=blk_frozen BK113.out 1)|(refine gl_ 12 Tryz.func58 #[.agg #[.string a0_0,.string a0_1]] ?_;refine mo_ (decimal_Places.calls k a0_0 a0_1 t114 true _ (lb_ HLD HB) A2.out) ?_;intro w9 hb;replace BK113:=kb_ BK113 hb;replace HB:=bs_ HB hb;(try clear hb);(try clear hb2);(try clear hk);(try clear hi);have hcz10_0:=bc_ BK113 0 rfl;have hcz10_1:=bc_ BK113 1 rfl;have hfz10_0:=blk_frozen BK113.out 0;have hfz10_1:=blk_frozen BK113.out 1)|(refine gl_ 17 Tryz.func53 #[.agg #[.string a0_0,.string a0_1]] ?_;refine mo_ (rat_May.calls a0_0 a0_1 true _ (lb_ HLD HB) A3.out) ?_;intro w11 hb;replace BK113:=kb_ BK113 hb;replace HB:=bs_ HB hb;(try clear hb);(try clear hb2);(try clear hk);(try clear hi);have hcz12_0:=bc_ BK113 0 rfl;have hcz12_1:=bc_ BK113 1 rfl;have hfz12_0:=blk_frozen BK113.out 0;have hfz12_1:=blk_frozen BK113.out 1))
    go_ret
    exact⟨er_,b_ HB.out⟩
   ·rw[if_neg c6] at H;have c6b0:(t114 == 0)=false:=beq_eq_false_iff_ne.mpr c6;have c6b1:(t114 != 0)=true:=bne_iff_ne.mpr c6;obtain⟨t117,A13,H⟩:=bi_ H;obtain⟨⟨t118,t119,t120⟩,A14,H⟩:=bi_ H;(try dsimp only at H);obtain⟨t121,A15,H⟩:=bi_ H;obtain⟨t122,A16,H⟩:=bi_ H;obtain⟨ji17,hji17⟩:∃ j_:Int,(mx (wrap64 ((wrap64 (t114+1))-(t122.size:Int))) 0)=j_:=⟨_,rfl⟩;(first|rw[hji17] at H|simp only[hji17] at H);(try rw[hji17] at A2);(try rw[hji17] at A3);(try rw[hji17] at A13);(try rw[hji17] at A14);(try rw[hji17] at A15);(try rw[hji17] at A16);(try(have hji17l:0≤ji17:=by(rw[← hji17];unfold mx;(repeat' split) <;> omega)));(try(have hji17m:0≤ji17:=by omega));have hji17_:(if (wrap64 ((wrap64 (t114+1))-(t122.size:Int)))<0 then 0 else (wrap64 ((wrap64 (t114+1))-(t122.size:Int))))=ji17:=hji17;obtain⟨t123,A18,H⟩:=bi_ H;by_cases c19:t123.size+t122.size≤9223372036854775807
    ·rw[if_pos c19] at H;have c19b0:=eq_true c19;have c19b1:decide (t123.size+t122.size≤9223372036854775807)=true:=decide_eq_true c19
     try have c19b2:(9223372036854775807<t123.size+t122.size)=False:=eq_false (Nat.not_lt.2 c19)
     obtain⟨t124,A20,H⟩:=bi_ H;by_cases c21:t124<0
     ·rw[if_pos c21] at H;have c21b0:decide (t124<0)=true:=decide_eq_true c21;clear c21;obtain⟨ji22,hji22⟩:∃ j_:Int,(wrap64 (((t123++t122).size:Int)-t114))=j_:=⟨_,rfl⟩;(first|rw[hji22] at H|simp only[hji22] at H);(try rw[hji22] at A2);(try rw[hji22] at A3);(try rw[hji22] at A13);(try rw[hji22] at A14);(try rw[hji22] at A15);(try rw[hji22] at A16);(try rw[hji22] at A18);(try rw[hji22] at A20);have hji22w:(IntKind.i64.wrap (((t123++t122).size:Int)-t114))=ji22:=(i64_w _).trans hji22;(try(have hji22v:=hji22;simp only[ByteArray.size_append,Int.natCast_add] at hji22v));(try(have hji22u:=hji22w;simp only[ByteArray.size_append,Int.natCast_add] at hji22u));by_cases c23:0≤(ji22)
      ·rw[if_pos c23] at H;have c23b0:=eq_true c23;have c23b1:decide (0≤(ji22))=true:=decide_eq_true c23;clear c23;by_cases c24:(ji22)≤((t123++t122).size:Int)
       ·rw[if_pos c24] at H;have c24b0:=eq_true c24;have c24b1:decide ((ji22)≤((t123++t122).size:Int))=true:=decide_eq_true c24;(try(have c24v:=c24;simp only[ByteArray.size_append,Int.natCast_add] at c24v;replace c24v:=eq_true c24v));by_cases c25:1+((t123++t122).extract 0 ((ji22):Int).toNat).size≤9223372036854775807
        ·rw[if_pos c25] at H;have c25b0:=eq_true c25;have c25b1:decide (1+((t123++t122).extract 0 ((ji22):Int).toNat).size≤9223372036854775807)=true:=decide_eq_true c25;(try have c25v0:(9223372036854775807<1+(ji22).toNat)=False:=eq_false (by have h_:=c25;have g_:(ji22)≤((t123++t122).size:Int):=(by assumption);simp only[ByteArray.size_append,ByteArray.size_extract,ByteArray.size_mk',List.size_toArray,List.length_cons,List.length_nil,Int.natCast_add] at h_ g_;omega))
         try have c25b2:(9223372036854775807<1+((t123++t122).extract 0 ((ji22):Int).toNat).size)=False:=eq_false (Nat.not_lt.2 c25)
         by_cases c26:((⟨#[45]⟩:ByteArray)++((t123++t122).extract 0 ((ji22):Int).toNat)).size+1≤9223372036854775807
         ·rw[if_pos c26] at H;have c26b0:=eq_true c26;have c26b1:decide (((⟨#[45]⟩:ByteArray)++((t123++t122).extract 0 ((ji22):Int).toNat)).size+1≤9223372036854775807)=true:=decide_eq_true c26;(try have c26v0:(9223372036854775807<1+(ji22).toNat+1)=False:=eq_false (by have h_:=c26;have g_:(ji22)≤((t123++t122).size:Int):=(by assumption);simp only[ByteArray.size_append,ByteArray.size_extract,ByteArray.size_mk',List.size_toArray,List.length_cons,List.length_nil,Int.natCast_add] at h_ g_;omega))
          try have c26b2:(9223372036854775807<((⟨#[45]⟩:ByteArray)++((t123++t122).extract 0 ((ji22):Int).toNat)).size+1)=False:=eq_false (Nat.not_lt.2 c26)
          have c27b0:=eq_true (of_decide_eq_true as_f:0≤(ji22));have c28b0:=eq_true (of_decide_eq_true as_f:(ji22)≤((t123++t122).size:Int));by_cases c29:(((⟨#[45]⟩:ByteArray)++((t123++t122).extract 0 ((ji22):Int).toNat))++(⟨#[46]⟩:ByteArray)).size+((t123++t122).extract ((ji22):Int).toNat (t123++t122).size).size≤9223372036854775807
          ·rw[if_pos c29] at H;have c29b0:=eq_true c29;have c29b1:decide ((((⟨#[45]⟩:ByteArray)++((t123++t122).extract 0 ((ji22):Int).toNat))++(⟨#[46]⟩:ByteArray)).size+((t123++t122).extract ((ji22):Int).toNat (t123++t122).size).size≤9223372036854775807)=true:=decide_eq_true c29;(try have c29v0:(9223372036854775807<1+(ji22).toNat+1+(t123.size+t122.size-(ji22).toNat))=False:=eq_false (by have h_:=c29;have g_:(ji22)≤((t123++t122).size:Int):=(by assumption);simp only[ByteArray.size_append,ByteArray.size_extract,ByteArray.size_mk',List.size_toArray,List.length_cons,List.length_nil,Int.natCast_add] at h_ g_;omega))
           try have c29b2:(9223372036854775807<(((⟨#[45]⟩:ByteArray)++((t123++t122).extract 0 ((ji22):Int).toNat))++(⟨#[46]⟩:ByteArray)).size+((t123++t122).extract ((ji22):Int).toNat (t123++t122).size).size)=False:=eq_false (Nat.not_lt.2 c29)
           obtain rfl:=Option.some.inj H;go_enter Tryz.func34,Tryz.ntmps34
           try go_wp2_with (first|((with_reducible refine gate_dst (N:=1) rfl ?_);refine be_ 1 #[.string a0_0,.string a0_1] 23 ?_;intro gb113 hg w30 hbox hb;have BK113:=Aside0.mk (hbox);have GW113:=ge_ HB hg;have GE113:=ge_ HB hg;replace HB:=bs_ HB hb;clear hb hbox hg;have hcz31_0:=bc_ BK113 0 rfl;have hcz31_1:=bc_ BK113 1 rfl;have hfz31_0:=blk_frozen BK113.out 0;have hfz31_1:=blk_frozen BK113.out 1)|(refine gl_ 12 Tryz.func58 #[.agg #[.string a0_0,.string a0_1]] ?_;refine mo_ (decimal_Places.calls k a0_0 a0_1 t114 true _ (lb_ HLD HB) A2.out) ?_;intro w32 hb;replace BK113:=kb_ BK113 hb;replace HB:=bs_ HB hb;(try clear hb);(try clear hb2);(try clear hk);(try clear hi);have hcz33_0:=bc_ BK113 0 rfl;have hcz33_1:=bc_ BK113 1 rfl;have hfz33_0:=blk_frozen BK113.out 0;have hfz33_1:=blk_frozen BK113.out 1)|(refine gl_ 17 Tryz.func53 #[.agg #[.string a0_0,.string a0_1]] ?_;refine mo_ (rat_May.calls a0_0 a0_1 true _ (lb_ HLD HB) A3.out) ?_;intro w34 hb;replace BK113:=kb_ BK113 hb;replace HB:=bs_ HB hb;(try clear hb);(try clear hb2);(try clear hk);(try clear hi)))
           replace BK113:=Aside0.mk (blk_drew BK113.out);replace HB:=Aside0.mk (below_drew1 HB.out);refine sa_ 12 (fun w'=>w'.cell? ⟨gb113,0,none⟩=some (.string a0_0)∧w'.cell? ⟨gb113,1,none⟩=some (.string a0_1)) (fun hHeld=>?_);refine with_tabW decimal_Print.tab8 decimal_Print.bits8 (fun HT_ HW_=>?_);generalize w34.drew=w35 at BK113 HB hHeld ⊢;refine pu_ 0 34 rfl rfl HT_ ?_;refine pu_ 2 36 rfl rfl HT_ ?_;refine t2_ 3 37 rfl rfl HT_ HW_ hHeld ?_;refine on_ 1 (some 35) rfl rfl HT_ (fun K hK=>?_);refine gs_ Tryz.func60 #[.int .i64 t114] ?_;refine mo_ (decimal_power.calls t114 t117 _ A13.out) ?_;intro w36 hb;replace BK113:=kb_ BK113 hb;replace HB:=bs_ HB hb;(try clear hb);refine hk_ hK (fun hHeld=>?_);clear hK K;refine nm_ ?_;refine on_ 4 (some 38) rfl rfl HT_ (fun K hK=>?_);refine gs_ Tryz.func59 #[.string t117,.string a0_1] ?_;refine mo_ (nat_Div.calls t117 a0_1 t118 t119 t120 _ (lb_ HLD HB) A14.out) ?_;intro w37 hb;replace BK113:=kb_ BK113 hb;replace HB:=bs_ HB hb;(try clear hb);refine hk_ hK (fun hHeld=>?_);clear hK K;refine nm_ ?_;refine pu_ 5 33 rfl rfl HT_ ?_;refine pu_ 6 39 rfl rfl HT_ ?_;refine pu_ 7 40 rfl rfl HT_ ?_;refine pu_ 8 41 rfl rfl HT_ ?_;refine pu_ 9 5 rfl rfl HT_ ?_;refine pu_ 10 6 rfl rfl HT_ ?_;refine pu_ 11 7 rfl rfl HT_ ?_;refine done_ (done_of HT_.out (by kernel_rfl)) ?_;have hcz38_0:=bc_ BK113 0 rfl;have hcz38_1:=bc_ BK113 1 rfl;have hfz38_0:=blk_frozen BK113.out 0;have hfz38_1:=blk_frozen BK113.out 1
           try go_wp2_with (first|(refine gl_ 44 Tryz.func62 #[.string a0_0] ?_;refine mo_ (whole_Abs.calls a0_0 t121 _ A15.out) ?_;intro w39 hb;replace BK113:=kb_ BK113 hb;replace HB:=bs_ HB hb;(try clear hb);(try clear hb2);(try clear hk);(try clear hi))|(refine gl_ 46 Tryz.func61 #[.string t121,.string t118] ?_;refine mo_ (nat_Mul.calls t121 t118 t122 _ (lb_ HLD HB) A16.out) ?_;intro w40 hb;replace BK113:=kb_ BK113 hb;replace HB:=bs_ HB hb;(try clear hb);(try clear hb2);(try clear hk);(try clear hi))|((with_reducible refine gate_callee (f:=63) rfl ?_);refine goesL_ (some 53) rfl rfl Tryz.func63 (by kernel_rfl) rfl #[.string (⟨#[48]⟩:ByteArray),.int .i64 ji17] rfl (by(try simp only[List.map_toArray,List.map_cons,List.map_nil]);first|done|(simp only[hji17];rfl)|rfl|(simp only[List.length_drop,List.length_take];rfl)) ?_;refine mo_ (strings_Repeat.calls (⟨#[48]⟩:ByteArray) ji17 t123 _ A18.out) ?_;intro w41 hb;replace BK113:=kb_ BK113 hb;replace HB:=bs_ HB hb;(try clear hb);(try clear hb2);(try clear hk);(try clear hi);have hcz42_0:=bc_ BK113 0 rfl;have hcz42_1:=bc_ BK113 1 rfl;have hfz42_0:=blk_frozen BK113.out 0;have hfz42_1:=blk_frozen BK113.out 1)|(refine gl_ 58 Tryz.func64 #[.string a0_0] ?_;refine mo_ (whole_Sign.calls a0_0 t124 _ A20.out) ?_;intro w43 hb;replace BK113:=kb_ BK113 hb;replace HB:=bs_ HB hb;(try clear hb);(try clear hb2);(try clear hk);(try clear hi)))
           replace BK113:=Aside0.mk (blk_drew BK113.out);replace HB:=Aside0.mk (below_drew1 HB.out);refine start_ (n:=17) (S:=fun w'=>True) (ds:=[]) #[false,false,false,false,false,false,false,false,false,false,false,false,false,false,false,false,false] (by kernel_rfl) rfl rfl trivial (fun hHeld=>?_);refine with_tabW decimal_Print.tab14 decimal_Print.bits14 (fun HT_ HW_=>?_);generalize w43.drew=w44 at BK113 HB hHeld ⊢;refine pu_ 0 60 rfl rfl HT_ ?_;refine pu_ 1 61 rfl rfl HT_ ?_;refine pu_ 2 62 rfl rfl HT_ ?_;refine pu_ 3 63 rfl rfl HT_ ?_;refine pu_ 4 64 rfl rfl HT_ ?_;refine pu_ 5 65 rfl rfl HT_ ?_;refine pu_ 6 66 rfl rfl HT_ ?_;refine pu_ 7 67 rfl rfl HT_ ?_;refine pu_ 8 68 rfl rfl HT_ ?_;refine pu_ 9 69 rfl rfl HT_ ?_;refine pu_ 10 70 rfl rfl HT_ ?_;refine pu_ 11 71 rfl rfl HT_ ?_;refine pu_ 12 72 rfl rfl HT_ ?_;refine pu_ 13 73 rfl rfl HT_ ?_;refine pu_ 14 74 rfl rfl HT_ ?_;refine pu_ 15 75 rfl rfl HT_ ?_;refine pu_ 16 2 rfl rfl HT_ ?_;refine done_ (done_of HT_.out (by kernel_rfl)) ?_
           try go_wp2
           go_ret
           exact⟨by first|rfl|(simp[errW_none,errW_some] <;> rfl)|(simp only[← hji17,← hji22];first|rfl|(simp[errW_none,errW_some] <;> rfl))|(simp[*,errW_none,errW_some] <;> rfl),b_ HB.out⟩
          ·rw[if_neg c29] at H;exact absurd H (by simp)
         ·rw[if_neg c26] at H;exact absurd H (by simp)
        ·rw[if_neg c25] at H;exact absurd H (by simp)
       ·rw[if_neg c24] at H;exact absurd H (by simp)
      ·rw[if_neg c23] at H;exact absurd H (by simp)
     ·rw[if_neg c21] at H;have c21b0:decide (t124<0)=false:=decide_eq_false c21;clear c21;obtain⟨ji45,hji45⟩:∃ j_:Int,(wrap64 (((t123++t122).size:Int)-t114))=j_:=⟨_,rfl⟩;(first|rw[hji45] at H|simp only[hji45] at H);(try rw[hji45] at A2);(try rw[hji45] at A3);(try rw[hji45] at A13);(try rw[hji45] at A14);(try rw[hji45] at A15);(try rw[hji45] at A16);(try rw[hji45] at A18);(try rw[hji45] at A20);have hji45w:(IntKind.i64.wrap (((t123++t122).size:Int)-t114))=ji45:=(i64_w _).trans hji45;(try(have hji45v:=hji45;simp only[ByteArray.size_append,Int.natCast_add] at hji45v));(try(have hji45u:=hji45w;simp only[ByteArray.size_append,Int.natCast_add] at hji45u));by_cases c46:0≤(ji45)
      ·rw[if_pos c46] at H;have c46b0:=eq_true c46;have c46b1:decide (0≤(ji45))=true:=decide_eq_true c46;clear c46;by_cases c47:(ji45)≤((t123++t122).size:Int)
       ·rw[if_pos c47] at H;have c47b0:=eq_true c47;have c47b1:decide ((ji45)≤((t123++t122).size:Int))=true:=decide_eq_true c47;(try(have c47v:=c47;simp only[ByteArray.size_append,Int.natCast_add] at c47v;replace c47v:=eq_true c47v));by_cases c48:0+((t123++t122).extract 0 ((ji45):Int).toNat).size≤9223372036854775807
        ·rw[if_pos c48] at H;have c48b0:=eq_true c48;have c48b1:decide (0+((t123++t122).extract 0 ((ji45):Int).toNat).size≤9223372036854775807)=true:=decide_eq_true c48;(try have c48v0:(9223372036854775807<0+(ji45).toNat)=False:=eq_false (by have h_:=c48;have g_:(ji45)≤((t123++t122).size:Int):=(by assumption);simp only[ByteArray.size_append,ByteArray.size_extract,ByteArray.size_mk',List.size_toArray,List.length_cons,List.length_nil,Int.natCast_add] at h_ g_;omega));(try have c48v1:(9223372036854775807<(ji45).toNat)=False:=eq_false (by have h_:=c48;have g_:(ji45)≤((t123++t122).size:Int):=(by assumption);simp only[ByteArray.size_append,ByteArray.size_extract,ByteArray.size_mk',List.size_toArray,List.length_cons,List.length_nil,Int.natCast_add] at h_ g_;omega))
         try have c48b2:(9223372036854775807<0+((t123++t122).extract 0 ((ji45):Int).toNat).size)=False:=eq_false (Nat.not_lt.2 c48)
         by_cases c49:((⟨#[]⟩:ByteArray)++((t123++t122).extract 0 ((ji45):Int).toNat)).size+1≤9223372036854775807
         ·rw[if_pos c49] at H;have c49b0:=eq_true c49;have c49b1:decide (((⟨#[]⟩:ByteArray)++((t123++t122).extract 0 ((ji45):Int).toNat)).size+1≤9223372036854775807)=true:=decide_eq_true c49;(try have c49v0:(9223372036854775807<0+(ji45).toNat+1)=False:=eq_false (by have h_:=c49;have g_:(ji45)≤((t123++t122).size:Int):=(by assumption);simp only[ByteArray.size_append,ByteArray.size_extract,ByteArray.size_mk',List.size_toArray,List.length_cons,List.length_nil,Int.natCast_add] at h_ g_;omega));(try have c49v1:(9223372036854775807<(ji45).toNat+1)=False:=eq_false (by have h_:=c49;have g_:(ji45)≤((t123++t122).size:Int):=(by assumption);simp only[ByteArray.size_append,ByteArray.size_extract,ByteArray.size_mk',List.size_toArray,List.length_cons,List.length_nil,Int.natCast_add] at h_ g_;omega))
          try have c49b2:(9223372036854775807<((⟨#[]⟩:ByteArray)++((t123++t122).extract 0 ((ji45):Int).toNat)).size+1)=False:=eq_false (Nat.not_lt.2 c49)
          have c50b0:=eq_true (of_decide_eq_true as_f:0≤(ji45));have c51b0:=eq_true (of_decide_eq_true as_f:(ji45)≤((t123++t122).size:Int));by_cases c52:(((⟨#[]⟩:ByteArray)++((t123++t122).extract 0 ((ji45):Int).toNat))++(⟨#[46]⟩:ByteArray)).size+((t123++t122).extract ((ji45):Int).toNat (t123++t122).size).size≤9223372036854775807
          ·rw[if_pos c52] at H;have c52b0:=eq_true c52;have c52b1:decide ((((⟨#[]⟩:ByteArray)++((t123++t122).extract 0 ((ji45):Int).toNat))++(⟨#[46]⟩:ByteArray)).size+((t123++t122).extract ((ji45):Int).toNat (t123++t122).size).size≤9223372036854775807)=true:=decide_eq_true c52;(try have c52v0:(9223372036854775807<0+(ji45).toNat+1+(t123.size+t122.size-(ji45).toNat))=False:=eq_false (by have h_:=c52;have g_:(ji45)≤((t123++t122).size:Int):=(by assumption);simp only[ByteArray.size_append,ByteArray.size_extract,ByteArray.size_mk',List.size_toArray,List.length_cons,List.length_nil,Int.natCast_add] at h_ g_;omega));(try have c52v1:(9223372036854775807<(ji45).toNat+1+(t123.size+t122.size-(ji45).toNat))=False:=eq_false (by have h_:=c52;have g_:(ji45)≤((t123++t122).size:Int):=(by assumption);simp only[ByteArray.size_append,ByteArray.size_extract,ByteArray.size_mk',List.size_toArray,List.length_cons,List.length_nil,Int.natCast_add] at h_ g_;omega))
           try have c52b2:(9223372036854775807<(((⟨#[]⟩:ByteArray)++((t123++t122).extract 0 ((ji45):Int).toNat))++(⟨#[46]⟩:ByteArray)).size+((t123++t122).extract ((ji45):Int).toNat (t123++t122).size).size)=False:=eq_false (Nat.not_lt.2 c52)
           obtain rfl:=Option.some.inj H;go_enter Tryz.func34,Tryz.ntmps34
           try go_wp2_with (first|((with_reducible refine gate_dst (N:=1) rfl ?_);refine be_ 1 #[.string a0_0,.string a0_1] 23 ?_;intro gb113 hg w53 hbox hb;have BK113:=Aside0.mk (hbox);have GW113:=ge_ HB hg;have GE113:=ge_ HB hg;replace HB:=bs_ HB hb;clear hb hbox hg;have hcz54_0:=bc_ BK113 0 rfl;have hcz54_1:=bc_ BK113 1 rfl;have hfz54_0:=blk_frozen BK113.out 0;have hfz54_1:=blk_frozen BK113.out 1)|(refine gl_ 12 Tryz.func58 #[.agg #[.string a0_0,.string a0_1]] ?_;refine mo_ (decimal_Places.calls k a0_0 a0_1 t114 true _ (lb_ HLD HB) A2.out) ?_;intro w55 hb;replace BK113:=kb_ BK113 hb;replace HB:=bs_ HB hb;(try clear hb);(try clear hb2);(try clear hk);(try clear hi);have hcz56_0:=bc_ BK113 0 rfl;have hcz56_1:=bc_ BK113 1 rfl;have hfz56_0:=blk_frozen BK113.out 0;have hfz56_1:=blk_frozen BK113.out 1)|(refine gl_ 17 Tryz.func53 #[.agg #[.string a0_0,.string a0_1]] ?_;refine mo_ (rat_May.calls a0_0 a0_1 true _ (lb_ HLD HB) A3.out) ?_;intro w57 hb;replace BK113:=kb_ BK113 hb;replace HB:=bs_ HB hb;(try clear hb);(try clear hb2);(try clear hk);(try clear hi)))
           replace BK113:=Aside0.mk (blk_drew BK113.out);replace HB:=Aside0.mk (below_drew1 HB.out);refine sa_ 12 (fun w'=>w'.cell? ⟨gb113,0,none⟩=some (.string a0_0)∧w'.cell? ⟨gb113,1,none⟩=some (.string a0_1)) (fun hHeld=>?_);refine with_tabW decimal_Print.tab8 decimal_Print.bits8 (fun HT_ HW_=>?_);generalize w57.drew=w58 at BK113 HB hHeld ⊢;refine pu_ 0 34 rfl rfl HT_ ?_;refine pu_ 2 36 rfl rfl HT_ ?_;refine t2_ 3 37 rfl rfl HT_ HW_ hHeld ?_;refine on_ 1 (some 35) rfl rfl HT_ (fun K hK=>?_);refine gs_ Tryz.func60 #[.int .i64 t114] ?_;refine mo_ (decimal_power.calls t114 t117 _ A13.out) ?_;intro w59 hb;replace BK113:=kb_ BK113 hb;replace HB:=bs_ HB hb;(try clear hb);refine hk_ hK (fun hHeld=>?_);clear hK K;refine nm_ ?_;refine on_ 4 (some 38) rfl rfl HT_ (fun K hK=>?_);refine gs_ Tryz.func59 #[.string t117,.string a0_1] ?_;refine mo_ (nat_Div.calls t117 a0_1 t118 t119 t120 _ (lb_ HLD HB) A14.out) ?_;intro w60 hb;replace BK113:=kb_ BK113 hb;replace HB:=bs_ HB hb;(try clear hb);refine hk_ hK (fun hHeld=>?_);clear hK K;refine nm_ ?_;refine pu_ 5 33 rfl rfl HT_ ?_;refine pu_ 6 39 rfl rfl HT_ ?_;refine pu_ 7 40 rfl rfl HT_ ?_;refine pu_ 8 41 rfl rfl HT_ ?_;refine pu_ 9 5 rfl rfl HT_ ?_;refine pu_ 10 6 rfl rfl HT_ ?_;refine pu_ 11 7 rfl rfl HT_ ?_;refine done_ (done_of HT_.out (by kernel_rfl)) ?_;have hcz61_0:=bc_ BK113 0 rfl;have hcz61_1:=bc_ BK113 1 rfl;have hfz61_0:=blk_frozen BK113.out 0;have hfz61_1:=blk_frozen BK113.out 1
           try go_wp2_with (first|(refine gl_ 44 Tryz.func62 #[.string a0_0] ?_;refine mo_ (whole_Abs.calls a0_0 t121 _ A15.out) ?_;intro w62 hb;replace BK113:=kb_ BK113 hb;replace HB:=bs_ HB hb;(try clear hb);(try clear hb2);(try clear hk);(try clear hi))|(refine gl_ 46 Tryz.func61 #[.string t121,.string t118] ?_;refine mo_ (nat_Mul.calls t121 t118 t122 _ (lb_ HLD HB) A16.out) ?_;intro w63 hb;replace BK113:=kb_ BK113 hb;replace HB:=bs_ HB hb;(try clear hb);(try clear hb2);(try clear hk);(try clear hi))|((with_reducible refine gate_callee (f:=63) rfl ?_);refine goesL_ (some 53) rfl rfl Tryz.func63 (by kernel_rfl) rfl #[.string (⟨#[48]⟩:ByteArray),.int .i64 ji17] rfl (by(try simp only[List.map_toArray,List.map_cons,List.map_nil]);first|done|(simp only[hji17];rfl)|rfl|(simp only[List.length_drop,List.length_take];rfl)) ?_;refine mo_ (strings_Repeat.calls (⟨#[48]⟩:ByteArray) ji17 t123 _ A18.out) ?_;intro w64 hb;replace BK113:=kb_ BK113 hb;replace HB:=bs_ HB hb;(try clear hb);(try clear hb2);(try clear hk);(try clear hi);have hcz65_0:=bc_ BK113 0 rfl;have hcz65_1:=bc_ BK113 1 rfl;have hfz65_0:=blk_frozen BK113.out 0;have hfz65_1:=blk_frozen BK113.out 1)|(refine gl_ 58 Tryz.func64 #[.string a0_0] ?_;refine mo_ (whole_Sign.calls a0_0 t124 _ A20.out) ?_;intro w66 hb;replace BK113:=kb_ BK113 hb;replace HB:=bs_ HB hb;(try clear hb);(try clear hb2);(try clear hk);(try clear hi)))
           replace BK113:=Aside0.mk (blk_drew BK113.out);replace HB:=Aside0.mk (below_drew1 HB.out);refine start_ (n:=17) (S:=fun w'=>True) (ds:=[]) #[false,false,false,false,false,false,false,false,false,false,false,false,false,false,false,false,false] (by kernel_rfl) rfl rfl trivial (fun hHeld=>?_);refine with_tabW decimal_Print.tab14 decimal_Print.bits14 (fun HT_ HW_=>?_);generalize w66.drew=w67 at BK113 HB hHeld ⊢;refine pu_ 0 60 rfl rfl HT_ ?_;refine pu_ 1 61 rfl rfl HT_ ?_;refine pu_ 2 62 rfl rfl HT_ ?_;refine pu_ 3 63 rfl rfl HT_ ?_;refine pu_ 4 64 rfl rfl HT_ ?_;refine pu_ 5 65 rfl rfl HT_ ?_;refine pu_ 6 66 rfl rfl HT_ ?_;refine pu_ 7 67 rfl rfl HT_ ?_;refine pu_ 8 68 rfl rfl HT_ ?_;refine pu_ 9 69 rfl rfl HT_ ?_;refine pu_ 10 70 rfl rfl HT_ ?_;refine pu_ 11 71 rfl rfl HT_ ?_;refine pu_ 12 72 rfl rfl HT_ ?_;refine pu_ 13 73 rfl rfl HT_ ?_;refine pu_ 14 74 rfl rfl HT_ ?_;refine pu_ 15 75 rfl rfl HT_ ?_;refine pu_ 16 2 rfl rfl HT_ ?_;refine done_ (done_of HT_.out (by kernel_rfl)) ?_
           try go_wp2
           go_ret
           exact⟨by first|rfl|(simp[errW_none,errW_some] <;> rfl)|(simp only[← hji17,← hji45];first|rfl|(simp[errW_none,errW_some] <;> rfl))|(simp[*,errW_none,errW_some] <;> rfl),b_ HB.out⟩
          ·rw[if_neg c52] at H;exact absurd H (by simp)
         ·rw[if_neg c49] at H;exact absurd H (by simp)
        ·rw[if_neg c48] at H;exact absurd H (by simp)
       ·rw[if_neg c47] at H;exact absurd H (by simp)
      ·rw[if_neg c46] at H;exact absurd H (by simp)
    ·rw[if_neg c19] at H;exact absurd H (by simp)
  ·replace c5:=Bool.eq_false_iff.mpr c5;subst c5;rw[if_neg nf_] at H;by_cases c68:a0_0.size+1≤9223372036854775807
   ·rw[if_pos c68] at H;have c68b0:=eq_true c68;have c68b1:decide (a0_0.size+1≤9223372036854775807)=true:=decide_eq_true c68
    try have c68b2:(9223372036854775807<a0_0.size+1)=False:=eq_false (Nat.not_lt.2 c68)
    by_cases c69:(a0_0++(⟨#[47]⟩:ByteArray)).size+a0_1.size≤9223372036854775807
    ·rw[if_pos c69] at H;have c69b0:=eq_true c69;have c69b1:decide ((a0_0++(⟨#[47]⟩:ByteArray)).size+a0_1.size≤9223372036854775807)=true:=decide_eq_true c69;(try have c69v:(9223372036854775807<a0_0.size+1+a0_1.size)=False:=eq_false (by have h_:=c69;simp only[ByteArray.size_append,ByteArray.size_mk',List.size_toArray,List.length_cons,List.length_nil] at h_;omega))
     try have c69b2:(9223372036854775807<(a0_0++(⟨#[47]⟩:ByteArray)).size+a0_1.size)=False:=eq_false (Nat.not_lt.2 c69)
     obtain rfl:=Option.some.inj H;go_enter Tryz.func34,Tryz.ntmps34
     go_wp2_with (first|((with_reducible refine gate_dst (N:=1) rfl ?_);refine be_ 1 #[.string a0_0,.string a0_1] 23 ?_;intro gb113 hg w70 hbox hb;have BK113:=Aside0.mk (hbox);have GW113:=ge_ HB hg;have GE113:=ge_ HB hg;replace HB:=bs_ HB hb;clear hb hbox hg;have hcz71_0:=bc_ BK113 0 rfl;have hcz71_1:=bc_ BK113 1 rfl;have hfz71_0:=blk_frozen BK113.out 0;have hfz71_1:=blk_frozen BK113.out 1)|(refine gl_ 12 Tryz.func58 #[.agg #[.string a0_0,.string a0_1]] ?_;refine mo_ (decimal_Places.calls k a0_0 a0_1 t114 false _ (lb_ HLD HB) A2.out) ?_;intro w72 hb;replace BK113:=kb_ BK113 hb;replace HB:=bs_ HB hb;(try clear hb);(try clear hb2);(try clear hk);(try clear hi);have hcz73_0:=bc_ BK113 0 rfl;have hcz73_1:=bc_ BK113 1 rfl;have hfz73_0:=blk_frozen BK113.out 0;have hfz73_1:=blk_frozen BK113.out 1)|(refine gl_ 17 Tryz.func53 #[.agg #[.string a0_0,.string a0_1]] ?_;refine mo_ (rat_May.calls a0_0 a0_1 true _ (lb_ HLD HB) A3.out) ?_;intro w74 hb;replace BK113:=kb_ BK113 hb;replace HB:=bs_ HB hb;(try clear hb);(try clear hb2);(try clear hk);(try clear hi);have hcz75_0:=bc_ BK113 0 rfl;have hcz75_1:=bc_ BK113 1 rfl;have hfz75_0:=blk_frozen BK113.out 0;have hfz75_1:=blk_frozen BK113.out 1))
     go_ret
     exact⟨er_,b_ HB.out⟩
    ·rw[if_neg c69] at H;exact absurd H (by simp)
   ·rw[if_neg c68] at H;exact absurd H (by simp)
 ·replace c4:=Bool.eq_false_iff.mpr c4;subst c4;rw[if_neg nf_] at H;obtain rfl:=Option.some.inj H;go_enter Tryz.func34,Tryz.ntmps34
  go_wp2_with (first|((with_reducible refine gate_dst (N:=1) rfl ?_);refine be_ 1 #[.string a0_0,.string a0_1] 23 ?_;intro gb113 hg w76 hbox hb;have BK113:=Aside0.mk (hbox);have GW113:=ge_ HB hg;have GE113:=ge_ HB hg;replace HB:=bs_ HB hb;clear hb hbox hg;have hcz77_0:=bc_ BK113 0 rfl;have hcz77_1:=bc_ BK113 1 rfl;have hfz77_0:=blk_frozen BK113.out 0;have hfz77_1:=blk_frozen BK113.out 1)|(refine gl_ 12 Tryz.func58 #[.agg #[.string a0_0,.string a0_1]] ?_;refine mo_ (decimal_Places.calls k a0_0 a0_1 t114 t115 _ (lb_ HLD HB) A2.out) ?_;intro w78 hb;replace BK113:=kb_ BK113 hb;replace HB:=bs_ HB hb;(try clear hb);(try clear hb2);(try clear hk);(try clear hi);have hcz79_0:=bc_ BK113 0 rfl;have hcz79_1:=bc_ BK113 1 rfl;have hfz79_0:=blk_frozen BK113.out 0;have hfz79_1:=blk_frozen BK113.out 1)|(refine gl_ 17 Tryz.func53 #[.agg #[.string a0_0,.string a0_1]] ?_;refine mo_ (rat_May.calls a0_0 a0_1 false _ (lb_ HLD HB) A3.out) ?_;intro w80 hb;replace BK113:=kb_ BK113 hb;replace HB:=bs_ HB hb;(try clear hb);(try clear hb2);(try clear hk);(try clear hi)))
  go_ret
  exact⟨er_,b_ HB.out⟩
def decimal_digits.f (a0:ByteArray):Option (Bool):=if a0.toList=([]:List UInt8) then (some false) else ((strings_Trim.f a0 (⟨#[48,49,50,51,52,53,54,55,56,57]⟩:ByteArray)).bind fun t125=>(some (t125.toList == ([]:List UInt8))))
set_option maxHeartbeats 8000000 in
set_option maxRecDepth 100000 in
theorem decimal_digits.calls (a0:ByteArray) (r:Bool) (w:World) (h:decimal_digits.f a0=some r) :
  Calls Tryz.prog 84 #[.string a0] w fun e w'=>e=.returned (.bool r)∧Below w.heap.size w w':=by
 have HB:=Aside0.mk (Below.refl w.heap.size w);have H:=h;unfold decimal_digits.f at H;clear h;by_cases c2:a0.toList=([]:List UInt8)
 ·rw[if_pos c2] at H;have c2b0:(a0.toList == ([]:List UInt8))=true:=beq_iff_eq.mpr c2;(try have c2e:(a0.toList.isEmpty)=true:=(by have h_:=c2b0;simp at h_ ⊢;exact h_));have c2b1:(a0.toList != ([]:List UInt8))=false:=bne_eq_false_iff_eq.mpr c2;clear c2;obtain rfl:=Option.some.inj H;go_enter Tryz.func84,Tryz.ntmps84;go_wp2
  go_ret
  exact⟨er_,b_ HB.out⟩
 ·rw[if_neg c2] at H;have c2b0:(a0.toList == ([]:List UInt8))=false:=beq_eq_false_iff_ne.mpr c2;(try have c2e:(a0.toList.isEmpty)=false:=(by have h_:=c2b0;simp at h_ ⊢;exact h_));have c2b1:(a0.toList != ([]:List UInt8))=true:=bne_iff_ne.mpr c2;obtain⟨t125,A3,H⟩:=bi_ H;obtain rfl:=Option.some.inj H;go_enter Tryz.func84,Tryz.ntmps84
  go_wp2_with (first|(go_at_call 52;(with_reducible refine(strings_Trim.calls a0 (⟨#[48,49,50,51,52,53,54,55,56,57]⟩:ByteArray) t125 _ A3.out).mono ?_);rintro e w4 ⟨rfl,hb⟩;replace HB:=bs_ HB hb;(try clear hb);(try clear hb2);(try clear hk);(try clear hi)))
  go_ret
  exact⟨er_,b_ HB.out⟩
end Go.Proofs.YtoghmeffpgbcfaaGreatDoor.Pd
end

section
namespace Go.Proofs.YtoghmeffpgbcfaaGreatDoor.Pd
def decimal_plain.f (a0:ByteArray):Option (ByteArray):=(strings_TrimLeft.f a0 (⟨#[48]⟩:ByteArray)).bind fun t126=>(if t126.toList=([]:List UInt8) then (some (⟨#[48]⟩:ByteArray)) else (some t126))
set_option maxHeartbeats 8000000 in
set_option maxRecDepth 100000 in
theorem decimal_plain.calls (a0:ByteArray) (r:ByteArray) (w:World) (h:decimal_plain.f a0=some r) :
  Calls Tryz.prog 85 #[.string a0] w fun e w'=>e=.returned (.string r)∧Below w.heap.size w w':=by
 have HB:=Aside0.mk (Below.refl w.heap.size w);have H:=h;unfold decimal_plain.f at H;clear h;obtain⟨t126,A2,H⟩:=bi_ H;by_cases c3:t126.toList=([]:List UInt8)
 ·rw[if_pos c3] at H;have c3b0:(t126.toList == ([]:List UInt8))=true:=beq_iff_eq.mpr c3;(try have c3e:(t126.toList.isEmpty)=true:=(by have h_:=c3b0;simp at h_ ⊢;exact h_));have c3b1:(t126.toList != ([]:List UInt8))=false:=bne_eq_false_iff_eq.mpr c3;clear c3;obtain rfl:=Option.some.inj H;go_enter Tryz.func85,Tryz.ntmps85
  go_wp2_with (first|(refine gl_ 5 Tryz.func126 #[.string a0,.string (⟨#[48]⟩:ByteArray)] ?_;refine mo_ (strings_TrimLeft.calls a0 (⟨#[48]⟩:ByteArray) t126 _ A2.out) ?_;intro w4 hb;replace HB:=bs_ HB hb;(try clear hb);(try clear hb2);(try clear hk);(try clear hi)))
  go_ret
  exact⟨er_,b_ HB.out⟩
 ·rw[if_neg c3] at H;have c3b0:(t126.toList == ([]:List UInt8))=false:=beq_eq_false_iff_ne.mpr c3;(try have c3e:(t126.toList.isEmpty)=false:=(by have h_:=c3b0;simp at h_ ⊢;exact h_));have c3b1:(t126.toList != ([]:List UInt8))=true:=bne_iff_ne.mpr c3;obtain rfl:=Option.some.inj H;go_enter Tryz.func85,Tryz.ntmps85
  go_wp2_with (first|(refine gl_ 5 Tryz.func126 #[.string a0,.string (⟨#[48]⟩:ByteArray)] ?_;refine mo_ (strings_TrimLeft.calls a0 (⟨#[48]⟩:ByteArray) t126 _ A2.out) ?_;intro w5 hb;replace HB:=bs_ HB hb;(try clear hb);(try clear hb2);(try clear hk);(try clear hi)))
  go_ret
  exact⟨er_,b_ HB.out⟩
mutual
def decimal_Parse.j0:Nat→ByteArray→Bool→ByteArray→ByteArray→Option (ByteArray×ByteArray×Int)
 | 0,_,_,_,_=>none
 | k+1,x0,x5,x6,x7=>if (x0.size:Int)>1000 then (decimal_Parse.j1 k x5 x6 x7 true) else ((decimal_digits.f x6).bind fun t139=>(if t139=true then ((decimal_digits.f x7).bind fun t140=>(decimal_Parse.j1 k x5 x6 x7 (!t140))) else (decimal_Parse.j1 k x5 x6 x7 true)))
def decimal_Parse.j1:Nat→Bool→ByteArray→ByteArray→Bool→Option (ByteArray×ByteArray×Int)
 | 0,_,_,_,_=>none
 | k+1,x5,x6,x7,x64=>if x64=true then (some ((⟨#[]⟩:ByteArray),(⟨#[]⟩:ByteArray),40)) else ((decimal_plain.f x6).bind fun t141=>((decimal_plain.f x7).bind fun t142=>(if x5=true then ((whole_Neg.f t141).bind fun t143=>((rat_Make.f t143 t142).bind fun bt144=>(if bt144.2.2=true then (some (bt144.1,bt144.2.1,0)) else (some ((⟨#[]⟩:ByteArray),(⟨#[]⟩:ByteArray),40))))) else ((rat_Make.f t141 t142).bind fun bt148=>(if bt148.2.2=true then (some (bt148.1,bt148.2.1,0)) else (some ((⟨#[]⟩:ByteArray),(⟨#[]⟩:ByteArray),40)))))))
end
def decimal_Parse.f (k:Nat) (a0:ByteArray):Option (ByteArray×ByteArray×Int):=(strings_CutPrefix.f a0 (⟨#[45]⟩:ByteArray)).bind fun bt128=>((strings_Cut.f bt128.1 (⟨#[47]⟩:ByteArray)).bind fun bt130=>(if bt130.2.2=true then (decimal_Parse.j0 k a0 bt128.2 bt130.1 bt130.2.1) else ((strings_Cut.f bt128.1 (⟨#[46]⟩:ByteArray)).bind fun bt133=>(if bt133.2.2=true then ((decimal_digits.f bt133.1).bind fun t136=>(if t136=true then ((decimal_digits.f bt133.2.1).bind fun t137=>(if t137=true then (if bt133.1.size+bt133.2.1.size≤9223372036854775807 then ((decimal_power.f (bt133.2.1.size:Int)).bind fun t138=>(decimal_Parse.j0 k a0 bt128.2 (bt133.1++bt133.2.1) t138)) else (none)) else (decimal_Parse.j0 k a0 bt128.2 bt128.1 (⟨#[49]⟩:ByteArray)))) else (decimal_Parse.j0 k a0 bt128.2 bt128.1 (⟨#[49]⟩:ByteArray)))) else (decimal_Parse.j0 k a0 bt128.2 bt128.1 (⟨#[49]⟩:ByteArray))))))
set_option maxHeartbeats 8000000 in
set_option maxRecDepth 100000 in
theorem decimal_Parse.calls (k:Nat) (a0:ByteArray) (r1:ByteArray) (r2:ByteArray) (r3:Int) (w:World) (hL_:Laid w) (h:decimal_Parse.f k a0=some (r1,r2,r3)) :
  Calls Tryz.prog 43 #[.string a0] w fun e w'=>e=.returned (.tuple #[.agg #[.string r1,.string r2],.int .i64 r3])∧Below w.heap.size w w':=by
 have hu23:=Tryz.underlying23;have HLD:=Aside0.mk hL_;clear hL_;have HB:=Aside0.mk (Below.refl w.heap.size w);have H:=h;unfold decimal_Parse.f at H;clear h;obtain⟨⟨t128,t129⟩,A2,H⟩:=bi_ H;(try dsimp only at H);obtain⟨⟨t130,t131,t132⟩,A3,H⟩:=bi_ H;(try dsimp only at H);have HC4:=Aside0.mk H;clear H;go_enter Tryz.func43,Tryz.ntmps43
 go_upto_if 28 with (first|((with_reducible refine gate_dst (N:=2) rfl ?_);refine be_ 2 #[.string (⟨#[]⟩:ByteArray),.string (⟨#[]⟩:ByteArray)] 23 ?_;intro gb127 hg w5 hbox hb;have BK127:=Aside0.mk (hbox);have GW127:=ge_ HB hg;have GE127:=ge_ HB hg;replace HB:=bs_ HB hb;clear hb hbox hg)|(refine gl_ 18 Tryz.func82 #[.string a0,.string (⟨#[45]⟩:ByteArray)] ?_;refine mo_ (strings_CutPrefix.calls a0 (⟨#[45]⟩:ByteArray) t128 t129 _ A2.out) ?_;intro w6 hb;replace BK127:=kb_ BK127 hb;replace HB:=bs_ HB hb;(try clear hb);(try clear hb2);(try clear hk);(try clear hi))|(refine gl_ 24 Tryz.func83 #[.string t128,.string (⟨#[47]⟩:ByteArray)] ?_;refine mo_ (strings_Cut.calls t128 (⟨#[47]⟩:ByteArray) t130 t131 t132 _ (lb_ HLD HB) A3.out) ?_;intro w7 hb;replace BK127:=kb_ BK127 hb;replace HB:=bs_ HB hb;(try clear hb);(try clear hb2);(try clear hk);(try clear hi)))
 (try simp only[Act.put,List.setIfInBounds_toArray,List.set_cons_zero,List.set_cons_succ])
 go_cut [6,7] (fun v6 v7 wc=>∃ (kq:Nat) (x6_3:ByteArray) (x7_3:ByteArray),v6=.string x6_3∧v7=.string x7_3∧Aside0 (decimal_Parse.j0 kq a0 t129 x6_3 x7_3=some (r1,r2,r3))∧Aside0 (kq≤k)∧Aside0 (wc.heap[gb127]?=some (.cells #[.string (⟨#[]⟩:ByteArray),.string (⟨#[]⟩:ByteArray)] 23 (0,0)))∧Aside0 (Below w.heap.size w wc))
 case first =>
  have H:=HC4.out;clear HC4;by_cases c8:t132=true
  ·subst c8;rw[if_pos rfl] at H;have H':=Aside0.mk H;clear H;go_wp2
   go_meet
   case rel=>exact⟨_,(t130),(t131),rl_,rl_,H',⟨by first|omega|exact Nat.le_refl _⟩,⟨k_ BK127.out⟩,⟨b_ HB.out⟩⟩
  ·replace c8:=Bool.eq_false_iff.mpr c8;subst c8;rw[if_neg nf_] at H;obtain⟨⟨t133,t134,t135⟩,A9,H⟩:=bi_ H;(try dsimp only at H);by_cases c10:t135=true
   ·subst c10;rw[if_pos rfl] at H;obtain⟨t136,A11,H⟩:=bi_ H;by_cases c12:t136=true
    ·subst c12;rw[if_pos rfl] at H;obtain⟨t137,A13,H⟩:=bi_ H;by_cases c14:t137=true
     ·subst c14;rw[if_pos rfl] at H;by_cases c15:t133.size+t134.size≤9223372036854775807
      ·rw[if_pos c15] at H;have c15b0:=eq_true c15;have c15b1:decide (t133.size+t134.size≤9223372036854775807)=true:=decide_eq_true c15
       try have c15b2:(9223372036854775807<t133.size+t134.size)=False:=eq_false (Nat.not_lt.2 c15)
       obtain⟨t138,A16,H⟩:=bi_ H;have H':=Aside0.mk H;clear H
       go_wp2_with (first|(refine gl_ 33 Tryz.func83 #[.string t128,.string (⟨#[46]⟩:ByteArray)] ?_;refine mo_ (strings_Cut.calls t128 (⟨#[46]⟩:ByteArray) t133 t134 true _ (lb_ HLD HB) A9.out) ?_;intro w17 hb;replace BK127:=kb_ BK127 hb;replace HB:=bs_ HB hb;(try clear hb);(try clear hb2);(try clear hk);(try clear hi))|(go_at_call 84;(with_reducible refine(decimal_digits.calls t133 true _ A11.out).mono ?_);rintro e w18 ⟨rfl,hb⟩;replace BK127:=kb_ BK127 hb;replace HB:=bs_ HB hb;(try clear hb);(try clear hb2);(try clear hk);(try clear hi))|(go_at_call 84;(with_reducible refine(decimal_digits.calls t134 true _ A13.out).mono ?_);rintro e w19 ⟨rfl,hb⟩;replace BK127:=kb_ BK127 hb;replace HB:=bs_ HB hb;(try clear hb);(try clear hb2);(try clear hk);(try clear hi))|(refine gl_ 51 Tryz.func60 #[.int .i64 (t134.size:Int)] ?_;refine mo_ (decimal_power.calls (t134.size:Int) t138 _ A16.out) ?_;intro w20 hb;replace BK127:=kb_ BK127 hb;replace HB:=bs_ HB hb;(try clear hb);(try clear hb2);(try clear hk);(try clear hi)))
       go_meet
       case rel=>exact⟨_,(t133++t134),(t138),rl_,rl_,H',⟨by first|omega|exact Nat.le_refl _⟩,⟨k_ BK127.out⟩,⟨b_ HB.out⟩⟩
      ·rw[if_neg c15] at H;exact absurd H (by simp)
     ·replace c14:=Bool.eq_false_iff.mpr c14;subst c14;rw[if_neg nf_] at H;have H':=Aside0.mk H;clear H
      go_wp2_with (first|(refine gl_ 33 Tryz.func83 #[.string t128,.string (⟨#[46]⟩:ByteArray)] ?_;refine mo_ (strings_Cut.calls t128 (⟨#[46]⟩:ByteArray) t133 t134 true _ (lb_ HLD HB) A9.out) ?_;intro w21 hb;replace BK127:=kb_ BK127 hb;replace HB:=bs_ HB hb;(try clear hb);(try clear hb2);(try clear hk);(try clear hi))|(go_at_call 84;(with_reducible refine(decimal_digits.calls t133 true _ A11.out).mono ?_);rintro e w22 ⟨rfl,hb⟩;replace BK127:=kb_ BK127 hb;replace HB:=bs_ HB hb;(try clear hb);(try clear hb2);(try clear hk);(try clear hi))|(go_at_call 84;(with_reducible refine(decimal_digits.calls t134 false _ A13.out).mono ?_);rintro e w23 ⟨rfl,hb⟩;replace BK127:=kb_ BK127 hb;replace HB:=bs_ HB hb;(try clear hb);(try clear hb2);(try clear hk);(try clear hi)))
      go_meet
      case rel=>exact⟨_,(t128),((⟨#[49]⟩:ByteArray)),rl_,rl_,H',⟨by first|omega|exact Nat.le_refl _⟩,⟨k_ BK127.out⟩,⟨b_ HB.out⟩⟩
    ·replace c12:=Bool.eq_false_iff.mpr c12;subst c12;rw[if_neg nf_] at H;have H':=Aside0.mk H;clear H
     go_wp2_with (first|(refine gl_ 33 Tryz.func83 #[.string t128,.string (⟨#[46]⟩:ByteArray)] ?_;refine mo_ (strings_Cut.calls t128 (⟨#[46]⟩:ByteArray) t133 t134 true _ (lb_ HLD HB) A9.out) ?_;intro w24 hb;replace BK127:=kb_ BK127 hb;replace HB:=bs_ HB hb;(try clear hb);(try clear hb2);(try clear hk);(try clear hi))|(go_at_call 84;(with_reducible refine(decimal_digits.calls t133 false _ A11.out).mono ?_);rintro e w25 ⟨rfl,hb⟩;replace BK127:=kb_ BK127 hb;replace HB:=bs_ HB hb;(try clear hb);(try clear hb2);(try clear hk);(try clear hi)))
     go_meet
     case rel=>exact⟨_,(t128),((⟨#[49]⟩:ByteArray)),rl_,rl_,H',⟨by first|omega|exact Nat.le_refl _⟩,⟨k_ BK127.out⟩,⟨b_ HB.out⟩⟩
   ·replace c10:=Bool.eq_false_iff.mpr c10;subst c10;rw[if_neg nf_] at H;have H':=Aside0.mk H;clear H
    go_wp2_with (first|(refine gl_ 33 Tryz.func83 #[.string t128,.string (⟨#[46]⟩:ByteArray)] ?_;refine mo_ (strings_Cut.calls t128 (⟨#[46]⟩:ByteArray) t133 t134 false _ (lb_ HLD HB) A9.out) ?_;intro w26 hb;replace BK127:=kb_ BK127 hb;replace HB:=bs_ HB hb;(try clear hb);(try clear hb2);(try clear hk);(try clear hi)))
    go_meet
    case rel=>exact⟨_,(t128),((⟨#[49]⟩:ByteArray)),rl_,rl_,H',⟨by first|omega|exact Nat.le_refl _⟩,⟨k_ BK127.out⟩,⟨b_ HB.out⟩⟩
 case rest =>
  clear HC4;(try clear c1);(try clear p2);(try clear c4);(try clear c6);(try clear c8);(try clear c10);(try clear c12);(try clear c14);(try clear c15);(try clear c15b0);(try clear c15b1);(try clear c15b2);obtain⟨kq,x6_3,x7_3,rfl,rfl,HA,HJ3,BK127,HB⟩:=hcut
  cases kq with
  | zero=>exact absurd HA.out (by simp[decimal_Parse.j0])
  | succ kj3 =>
   have H:=HA.out;clear HA;simp only[decimal_Parse.j0] at H;have HC27:=Aside0.mk H;clear H
   go_upto_region 9 with (fail)
   go_cut [64] (fun v64 wc=>∃ (kq:Nat) (x64_26:Bool),v64=.bool x64_26∧Aside0 (decimal_Parse.j1 kq t129 x6_3 x7_3 x64_26=some (r1,r2,r3))∧Aside0 (kq≤kj3)∧Aside0 (wc.heap[gb127]?=some (.cells #[.string (⟨#[]⟩:ByteArray),.string (⟨#[]⟩:ByteArray)] 23 (0,0)))∧Aside0 (Below w.heap.size w wc))
   case first =>
    have H:=HC27.out;clear HC27;by_cases c28:(a0.size:Int)>1000
    ·rw[if_pos c28] at H;have c28b0:decide (1000<(a0.size:Int))=true:=decide_eq_true c28;have c28b1:decide (1000<a0.size)=true:=decide_eq_true (by omega);clear c28;(first|rw[c28b0]|(simp only[i64_w,i32_w];rw[c28b0])|skip);have H':=Aside0.mk H;clear H;go_wp2
     go_meet
     case rel=>exact⟨_,(true),rl_,H',⟨by have:=HJ3.out;first|omega|exact Nat.le_refl _⟩,⟨k_ BK127.out⟩,⟨b_ HB.out⟩⟩
    ·rw[if_neg c28] at H;have c28b0:decide (1000<(a0.size:Int))=false:=decide_eq_false c28;have c28b1:decide (1000<a0.size)=false:=decide_eq_false (by omega);clear c28;(first|rw[c28b0]|(simp only[i64_w,i32_w];rw[c28b0])|skip);obtain⟨t139,A29,H⟩:=bi_ H;by_cases c30:t139=true
     ·subst c30;rw[if_pos rfl] at H;obtain⟨t140,A31,H⟩:=bi_ H;have H':=Aside0.mk H;clear H
      go_wp2_with (first|(go_at_call 84;(with_reducible refine(decimal_digits.calls x6_3 true _ A29.out).mono ?_);rintro e w32 ⟨rfl,hb⟩;replace BK127:=kb_ BK127 hb;replace HB:=bs_ HB hb;(try clear hb);(try clear hb2);(try clear hk);(try clear hi))|(go_at_call 84;(with_reducible refine(decimal_digits.calls x7_3 t140 _ A31.out).mono ?_);rintro e w33 ⟨rfl,hb⟩;replace BK127:=kb_ BK127 hb;replace HB:=bs_ HB hb;(try clear hb);(try clear hb2);(try clear hk);(try clear hi)))
      go_meet
      case rel=>exact⟨_,(!t140),rl_,H',⟨by have:=HJ3.out;first|omega|exact Nat.le_refl _⟩,⟨k_ BK127.out⟩,⟨b_ HB.out⟩⟩
     ·replace c30:=Bool.eq_false_iff.mpr c30;subst c30;rw[if_neg nf_] at H;have H':=Aside0.mk H;clear H
      go_wp2_with (first|(go_at_call 84;(with_reducible refine(decimal_digits.calls x6_3 false _ A29.out).mono ?_);rintro e w34 ⟨rfl,hb⟩;replace BK127:=kb_ BK127 hb;replace HB:=bs_ HB hb;(try clear hb);(try clear hb2);(try clear hk);(try clear hi)))
      go_meet
      case rel=>exact⟨_,(true),rl_,H',⟨by have:=HJ3.out;first|omega|exact Nat.le_refl _⟩,⟨k_ BK127.out⟩,⟨b_ HB.out⟩⟩
   case rest =>
    clear HC27;(try clear c1);(try clear c2);(try clear p2);(try clear c3);(try clear c4);(try clear c6);(try clear c8);(try clear c10);(try clear c12);(try clear c14);(try clear c15);(try clear c15b0);(try clear c15b1);(try clear c15b2);(try clear c28);(try clear c28b0);(try clear c28b1);(try clear c30);(try clear p2);obtain⟨kq,x64_26,rfl,HA,HJ26,BK127,HB⟩:=hcut
    cases kq with
    | zero=>exact absurd HA.out (by simp[decimal_Parse.j1])
    | succ kj26 =>
     have H:=HA.out;clear HA;simp only[decimal_Parse.j1] at H;by_cases c35:x64_26=true
     ·subst c35;rw[if_pos rfl] at H;simp only[Option.some.injEq,Prod.mk.injEq] at H;obtain⟨rfl,rfl,rfl⟩:=H;have hcz36_0:=bc_ BK127 0 rfl;have hcz36_1:=bc_ BK127 1 rfl;have hfz36_0:=blk_frozen BK127.out 0;have hfz36_1:=blk_frozen BK127.out 1;go_wp2;refine bodyPost_ret (results_ct rfl _ _ gb127 23 #[.string (⟨#[]⟩:ByteArray),.string (⟨#[]⟩:ByteArray)] (0,0) _ rfl (rp_ BK127.out) Tryz.underlying23 rfl (by kernel_rfl)) rfl ?_;exact⟨er_,b_ HB.out⟩
     ·replace c35:=Bool.eq_false_iff.mpr c35;subst c35;rw[if_neg nf_] at H;obtain⟨t141,A37,H⟩:=bi_ H;obtain⟨t142,A38,H⟩:=bi_ H;by_cases c39:t129=true
      ·subst c39;rw[if_pos rfl] at H;obtain⟨t143,A40,H⟩:=bi_ H;obtain⟨⟨t144,t145,t146⟩,A41,H⟩:=bi_ H;(try dsimp only at H);by_cases c42:t146=true
       ·subst c42;rw[if_pos rfl] at H;simp only[Option.some.injEq,Prod.mk.injEq] at H;obtain⟨rfl,rfl,rfl⟩:=H
        go_wp2_with (first|(refine gl_ 67 Tryz.func85 #[.string x6_3] ?_;refine mo_ (decimal_plain.calls x6_3 t141 _ A37.out) ?_;intro w43 hb;replace BK127:=kb_ BK127 hb;replace HB:=bs_ HB hb;(try clear hb);(try clear hb2);(try clear hk);(try clear hi))|(refine gl_ 69 Tryz.func85 #[.string x7_3] ?_;refine mo_ (decimal_plain.calls x7_3 t142 _ A38.out) ?_;intro w44 hb;replace BK127:=kb_ BK127 hb;replace HB:=bs_ HB hb;(try clear hb);(try clear hb2);(try clear hk);(try clear hi))|(refine gl_ 72 Tryz.func86 #[.string t141] ?_;refine mo_ (whole_Neg.calls t141 t143 _ A40.out) ?_;intro w45 hb;replace BK127:=kb_ BK127 hb;replace HB:=bs_ HB hb;(try clear hb);(try clear hb2);(try clear hk);(try clear hi))|(refine gl_ 76 Tryz.func87 #[.string t143,.string t142] ?_;refine mo_ (rat_Make.calls t143 t142 t144 t145 true _ (lb_ HLD HB) A41.out) ?_;intro w46 hb;replace BK127:=kb_ BK127 hb;replace HB:=bs_ HB hb;(try clear hb);(try clear hb2);(try clear hk);(try clear hi))|((with_reducible refine gate_dst (N:=14) rfl ?_);refine be_ 14 #[.string (⟨#[]⟩:ByteArray),.string (⟨#[]⟩:ByteArray)] 23 ?_;intro gb147 hg w47 hbox hb;have BK147:=Aside0.mk (hbox);have GW147:=ge_ HB hg;have GE147:=ge_ HB hg;have NB127_147:=nl_ BK127 hg;have NB147_127:=ng_ BK127 hg;replace BK127:=kb_ BK127 hb;replace HB:=bs_ HB hb;clear hb hbox hg;have hnb48:=NB147_127.out;have hnc48:=NB127_147.out;have hcz49_0:=bc_ BK147 0 rfl;have hcz49_1:=bc_ BK147 1 rfl;have hfz49_0:=blk_frozen BK147.out 0;have hfz49_1:=blk_frozen BK147.out 1;have hcz50_0:=bc_ BK127 0 rfl;have hcz50_1:=bc_ BK127 1 rfl;have hfz50_0:=blk_frozen BK127.out 0;have hfz50_1:=blk_frozen BK127.out 1))
        refine bodyPost_ret (results_ct rfl _ _ gb127 23 #[.string t144,.string t145] (0,0) _ rfl (by refine k_ ?_;refine blk_put (cs:=#[.string t144,.string (⟨#[]⟩:ByteArray)]) ?_ 1 _ rfl;refine k_ ?_;refine blk_put (cs:=#[.string (⟨#[]⟩:ByteArray),.string (⟨#[]⟩:ByteArray)]) ?_ 0 _ rfl;refine k_ ?_;refine blk_far ?_ NB127_147.out _;refine k_ ?_;refine blk_far ?_ NB127_147.out _;refine k_ ?_;exact BK127.out) Tryz.underlying23 rfl (by kernel_rfl)) rfl ?_;exact⟨er_,b_ HB.out⟩
       ·replace c42:=Bool.eq_false_iff.mpr c42;subst c42;rw[if_neg nf_] at H;simp only[Option.some.injEq,Prod.mk.injEq] at H;obtain⟨rfl,rfl,rfl⟩:=H
        go_wp2_with (first|(refine gl_ 67 Tryz.func85 #[.string x6_3] ?_;refine mo_ (decimal_plain.calls x6_3 t141 _ A37.out) ?_;intro w51 hb;replace BK127:=kb_ BK127 hb;replace HB:=bs_ HB hb;(try clear hb);(try clear hb2);(try clear hk);(try clear hi))|(refine gl_ 69 Tryz.func85 #[.string x7_3] ?_;refine mo_ (decimal_plain.calls x7_3 t142 _ A38.out) ?_;intro w52 hb;replace BK127:=kb_ BK127 hb;replace HB:=bs_ HB hb;(try clear hb);(try clear hb2);(try clear hk);(try clear hi))|(refine gl_ 72 Tryz.func86 #[.string t141] ?_;refine mo_ (whole_Neg.calls t141 t143 _ A40.out) ?_;intro w53 hb;replace BK127:=kb_ BK127 hb;replace HB:=bs_ HB hb;(try clear hb);(try clear hb2);(try clear hk);(try clear hi))|(refine gl_ 76 Tryz.func87 #[.string t143,.string t142] ?_;refine mo_ (rat_Make.calls t143 t142 t144 t145 false _ (lb_ HLD HB) A41.out) ?_;intro w54 hb;replace BK127:=kb_ BK127 hb;replace HB:=bs_ HB hb;(try clear hb);(try clear hb2);(try clear hk);(try clear hi))|((with_reducible refine gate_dst (N:=14) rfl ?_);refine be_ 14 #[.string (⟨#[]⟩:ByteArray),.string (⟨#[]⟩:ByteArray)] 23 ?_;intro gb147 hg w55 hbox hb;have BK147:=Aside0.mk (hbox);have GW147:=ge_ HB hg;have GE147:=ge_ HB hg;have NB127_147:=nl_ BK127 hg;have NB147_127:=ng_ BK127 hg;replace BK127:=kb_ BK127 hb;replace HB:=bs_ HB hb;clear hb hbox hg;have hnb56:=NB147_127.out;have hnc56:=NB127_147.out;have hcz57_0:=bc_ BK147 0 rfl;have hcz57_1:=bc_ BK147 1 rfl;have hfz57_0:=blk_frozen BK147.out 0;have hfz57_1:=blk_frozen BK147.out 1;have hcz58_0:=bc_ BK127 0 rfl;have hcz58_1:=bc_ BK127 1 rfl;have hfz58_0:=blk_frozen BK127.out 0;have hfz58_1:=blk_frozen BK127.out 1))
        refine bodyPost_ret (results_ct rfl _ _ gb127 23 #[.string (⟨#[]⟩:ByteArray),.string (⟨#[]⟩:ByteArray)] (0,0) _ rfl (by refine k_ ?_;refine blk_put (cs:=#[.string (⟨#[]⟩:ByteArray),.string (⟨#[]⟩:ByteArray)]) ?_ 1 _ rfl;refine k_ ?_;refine blk_put (cs:=#[.string (⟨#[]⟩:ByteArray),.string (⟨#[]⟩:ByteArray)]) ?_ 0 _ rfl;refine k_ ?_;refine blk_far ?_ NB127_147.out _;refine k_ ?_;refine blk_far ?_ NB127_147.out _;refine k_ ?_;exact BK127.out) Tryz.underlying23 rfl (by kernel_rfl)) rfl ?_;exact⟨er_,b_ HB.out⟩
      ·replace c39:=Bool.eq_false_iff.mpr c39;subst c39;rw[if_neg nf_] at H;obtain⟨⟨t148,t149,t150⟩,A59,H⟩:=bi_ H;(try dsimp only at H);by_cases c60:t150=true
       ·subst c60;rw[if_pos rfl] at H;simp only[Option.some.injEq,Prod.mk.injEq] at H;obtain⟨rfl,rfl,rfl⟩:=H
        go_wp2_with (first|(refine gl_ 67 Tryz.func85 #[.string x6_3] ?_;refine mo_ (decimal_plain.calls x6_3 t141 _ A37.out) ?_;intro w61 hb;replace BK127:=kb_ BK127 hb;replace HB:=bs_ HB hb;(try clear hb);(try clear hb2);(try clear hk);(try clear hi))|(refine gl_ 69 Tryz.func85 #[.string x7_3] ?_;refine mo_ (decimal_plain.calls x7_3 t142 _ A38.out) ?_;intro w62 hb;replace BK127:=kb_ BK127 hb;replace HB:=bs_ HB hb;(try clear hb);(try clear hb2);(try clear hk);(try clear hi))|(refine gl_ 76 Tryz.func87 #[.string t141,.string t142] ?_;refine mo_ (rat_Make.calls t141 t142 t148 t149 true _ (lb_ HLD HB) A59.out) ?_;intro w63 hb;replace BK127:=kb_ BK127 hb;replace HB:=bs_ HB hb;(try clear hb);(try clear hb2);(try clear hk);(try clear hi))|((with_reducible refine gate_dst (N:=14) rfl ?_);refine be_ 14 #[.string (⟨#[]⟩:ByteArray),.string (⟨#[]⟩:ByteArray)] 23 ?_;intro gb151 hg w64 hbox hb;have BK151:=Aside0.mk (hbox);have GW151:=ge_ HB hg;have GE151:=ge_ HB hg;have NB127_151:=nl_ BK127 hg;have NB151_127:=ng_ BK127 hg;replace BK127:=kb_ BK127 hb;replace HB:=bs_ HB hb;clear hb hbox hg;have hnb65:=NB151_127.out;have hnc65:=NB127_151.out;have hcz66_0:=bc_ BK151 0 rfl;have hcz66_1:=bc_ BK151 1 rfl;have hfz66_0:=blk_frozen BK151.out 0;have hfz66_1:=blk_frozen BK151.out 1;have hcz67_0:=bc_ BK127 0 rfl;have hcz67_1:=bc_ BK127 1 rfl;have hfz67_0:=blk_frozen BK127.out 0;have hfz67_1:=blk_frozen BK127.out 1))
        refine bodyPost_ret (results_ct rfl _ _ gb127 23 #[.string t148,.string t149] (0,0) _ rfl (by refine k_ ?_;refine blk_put (cs:=#[.string t148,.string (⟨#[]⟩:ByteArray)]) ?_ 1 _ rfl;refine k_ ?_;refine blk_put (cs:=#[.string (⟨#[]⟩:ByteArray),.string (⟨#[]⟩:ByteArray)]) ?_ 0 _ rfl;refine k_ ?_;refine blk_far ?_ NB127_151.out _;refine k_ ?_;refine blk_far ?_ NB127_151.out _;refine k_ ?_;exact BK127.out) Tryz.underlying23 rfl (by kernel_rfl)) rfl ?_;exact⟨er_,b_ HB.out⟩
       ·replace c60:=Bool.eq_false_iff.mpr c60;subst c60;rw[if_neg nf_] at H;simp only[Option.some.injEq,Prod.mk.injEq] at H;obtain⟨rfl,rfl,rfl⟩:=H
        go_wp2_with (first|(refine gl_ 67 Tryz.func85 #[.string x6_3] ?_;refine mo_ (decimal_plain.calls x6_3 t141 _ A37.out) ?_;intro w68 hb;replace BK127:=kb_ BK127 hb;replace HB:=bs_ HB hb;(try clear hb);(try clear hb2);(try clear hk);(try clear hi))|(refine gl_ 69 Tryz.func85 #[.string x7_3] ?_;refine mo_ (decimal_plain.calls x7_3 t142 _ A38.out) ?_;intro w69 hb;replace BK127:=kb_ BK127 hb;replace HB:=bs_ HB hb;(try clear hb);(try clear hb2);(try clear hk);(try clear hi))|(refine gl_ 76 Tryz.func87 #[.string t141,.string t142] ?_;refine mo_ (rat_Make.calls t141 t142 t148 t149 false _ (lb_ HLD HB) A59.out) ?_;intro w70 hb;replace BK127:=kb_ BK127 hb;replace HB:=bs_ HB hb;(try clear hb);(try clear hb2);(try clear hk);(try clear hi))|((with_reducible refine gate_dst (N:=14) rfl ?_);refine be_ 14 #[.string (⟨#[]⟩:ByteArray),.string (⟨#[]⟩:ByteArray)] 23 ?_;intro gb151 hg w71 hbox hb;have BK151:=Aside0.mk (hbox);have GW151:=ge_ HB hg;have GE151:=ge_ HB hg;have NB127_151:=nl_ BK127 hg;have NB151_127:=ng_ BK127 hg;replace BK127:=kb_ BK127 hb;replace HB:=bs_ HB hb;clear hb hbox hg;have hnb72:=NB151_127.out;have hnc72:=NB127_151.out;have hcz73_0:=bc_ BK151 0 rfl;have hcz73_1:=bc_ BK151 1 rfl;have hfz73_0:=blk_frozen BK151.out 0;have hfz73_1:=blk_frozen BK151.out 1;have hcz74_0:=bc_ BK127 0 rfl;have hcz74_1:=bc_ BK127 1 rfl;have hfz74_0:=blk_frozen BK127.out 0;have hfz74_1:=blk_frozen BK127.out 1))
        refine bodyPost_ret (results_ct rfl _ _ gb127 23 #[.string (⟨#[]⟩:ByteArray),.string (⟨#[]⟩:ByteArray)] (0,0) _ rfl (by refine k_ ?_;refine blk_put (cs:=#[.string (⟨#[]⟩:ByteArray),.string (⟨#[]⟩:ByteArray)]) ?_ 1 _ rfl;refine k_ ?_;refine blk_put (cs:=#[.string (⟨#[]⟩:ByteArray),.string (⟨#[]⟩:ByteArray)]) ?_ 0 _ rfl;refine k_ ?_;refine blk_far ?_ NB127_151.out _;refine k_ ?_;refine blk_far ?_ NB127_151.out _;refine k_ ?_;exact BK127.out) Tryz.underlying23 rfl (by kernel_rfl)) rfl ?_;exact⟨er_,b_ HB.out⟩
end Go.Proofs.YtoghmeffpgbcfaaGreatDoor.Pd
end

section
namespace Go.Proofs.YtoghmeffpgbcfaaGreatDoor.Pd
end Go.Proofs.YtoghmeffpgbcfaaGreatDoor.Pd
end

section
namespace Go.Proofs.YtoghmeffpgbcfaaGreatDoor
theorem rep_f {c:Int} (h0:0≤c) (h1:c≤140737488355328):strings_Repeat.f ⟨#[48]⟩ c=some (zerosB c):=by
 unfold strings_Repeat.f
 rw[if_pos]
 ·show some (⟨(Lib.repeatL [48] c.toNat).toArray⟩:ByteArray)=some (zerosB c)
  rw[repeatL_one]
  rfl
 ·rw[Bool.and_eq_true,Bool.and_eq_true,decide_eq_true_eq,decide_eq_true_eq,decide_eq_true_eq]
  refine⟨⟨h0,?_⟩,by omega⟩
  show 1 * c.toNat≤_
  omega
theorem power_f {n:Nat} (h:n≤1000000):Pd.decimal_power.f (n:Int)=some (natB (10 ^ n)):=by
 unfold Pd.decimal_power.f
 rw[rep_f (by omega) (by omega),Option.bind_some,if_pos (by rw[zerosB_size];omega),tenBB]
theorem times_loop {b:Nat} (hb:2≤b) (hs:sz b≤50000):∀ (n:Nat),0<n→sz n≤50000→∀ (c:Nat),c+(tms b n).1≤1000000000→∀ k,(tms b n).1+1≤k →
  Pd.decimal_times.l0 k (natB n) (natB b) (c:Int)=some (((c+(tms b n).1:Nat):Int),natB (tms b n).2)
 | n,hn,hz,c,hc,k,hk=>by
  obtain⟨k,rfl⟩:∃ m,k=m+1:=⟨k-1,by omega⟩
  simp only[Pd.decimal_times.l0]
  rw[fDiv hz hs (by omega),Option.bind_some]
  by_cases h:n % b=0
  ·have e:=tms_step hb hn h
   rw[e] at hc hk ⊢
   have hd:b ∣ n:=Nat.dvd_of_mod_eq_zero h
   have h1:0<n / b:=Nat.div_pos (Nat.le_of_dvd hn hd) (by omega)
   have e2:((c:Int)+1)=((c+1:Nat):Int):=by omega
   rw[if_pos (natB_toList_zero.2 h),w64 (by omega) (by omega),e2,times_loop hb hs (n / b) h1 (Nat.le_trans (sz_mono (Nat.div_le_self _ _)) hz) (c+1) (by dsimp only at hc;omega) k (by dsimp only at hk;omega)]
   congr 2
   dsimp only
   omega
  ·rw[if_neg (fun z=>h (natB_toList_zero.1 z)),tms_stop h]
   rfl
 termination_by n=>n
 decreasing_by exact Nat.div_lt_self hn hb
theorem natB_two:(⟨#[50]⟩:ByteArray)=natB 2:=by kernel_rfl
theorem natB_five:(⟨#[53]⟩:ByteArray)=natB 5:=by kernel_rfl
theorem sz_two:sz 2≤50000:=by decide +kernel
theorem sz_five:sz 5≤50000:=by decide +kernel
theorem places_f {n:Nat} (hn:0<n) (hz:sz n≤10000) (k:Nat) (hk:4 * sz n+2≤k):Pd.decimal_places.f k (natB n)=some ((plD n:Int),finD n):=by
 unfold Pd.decimal_places.f Pd.decimal_times.f
 have t1:=tms_le (b:=2) (by decide) hn (lt_sz n)
 have hp:=tms_pos (b:=2) (by decide) hn
 have hl:=tms_left_le (b:=2) (by decide) hn
 have t2:=tms_le (b:=5) (by decide) hp (Nat.lt_of_le_of_lt hl (lt_sz n))
 have e1:=times_loop (b:=2) (by decide) sz_two n hn (by omega) 0 (by omega) k (by omega)
 have e2:=times_loop (b:=5) (by decide) sz_five (tms 2 n).2 hp (Nat.le_trans (sz_mono hl) (by omega)) 0 (by omega) k (by omega)
 rw[Nat.zero_add] at e1 e2
 rw[natB_two,natB_five]
 have z:(0:Int)=((0:Nat):Int):=rfl
 rw[z,e1,Option.bind_some]
 dsimp only
 rw[e2,Option.bind_some,mx_nat]
 have e3:((natB (tms 5 (tms 2 n).2).2).toList == ([49]:List UInt8))=finD n:=by
  unfold finD
  by_cases h:(tms 5 (tms 2 n).2).2=1
  ·rw[natB_toList_one.2 h,h]
   rfl
  ·rw[beq_eq_false_iff_ne.2 (fun z=>h (natB_toList_one.1 z)),beq_eq_false_iff_ne.2 h]
 rw[e3]
 rfl
theorem Places_f {x:BB} (hx:x.1.size+x.2.size≤900) (k:Nat) (hk:3700≤k):Pd.decimal_Places.f k x.1 x.2=some (placesS x):=by
 unfold Pd.decimal_Places.f
 have em:rat_May.f x.1 x.2=some (mayR x):=by
  unfold rat_May.f
  rw[if_pos (show smR (x.1,x.2)=true from decide_eq_true ⟨by dsimp only;omega,by dsimp only;omega⟩)]
 rw[em,Option.bind_some]
 unfold placesS
 by_cases hm:mayR x=true
 ·obtain⟨q,rfl⟩:=of_mayR hm
  have hs:sz q.den≤900:=Nat.le_trans (le_szR_den q) hx
  have hd:0<q.den:=Nat.pos_of_ne_zero q.den_nz
  rw[if_pos hm,hm,Bool.true_and,ratR_rT]
  show ((Pd.decimal_places.f k (natB q.den)).bind fun bt110=>_) = _
  rw[places_f hd (by omega) k (by omega),Option.bind_some]
  dsimp only
  split <;> rfl
 ·rw[if_neg hm,if_neg (fun z=>hm (Bool.and_eq_true_iff.1 z).1)]
theorem pad_bytes (n:Nat) (m:Nat) (hn:n≤1000000) (hm:sz m≤1000000) :
  strings_Repeat.f ⟨#[48]⟩ (mx (wrap64 ((wrap64 ((n:Int)+1))-((natB m).size:Int))) 0)=some (zerosB ((n+1-(Lib.decDigits m).length:Nat):Int))∧(zerosB ((n+1-(Lib.decDigits m).length:Nat):Int)++natB m).data.toList=padL n (Lib.decDigits m):=by
 have e:=sz_dig m
 have e1:((natB m).size:Int)=((Lib.decDigits m).length:Int):=by rw[natB_size]
 have e2:mx (wrap64 ((wrap64 ((n:Int)+1))-((natB m).size:Int))) 0=((n+1-(Lib.decDigits m).length:Nat):Int):=by
  rw[e1,w64 (x:=(n:Int)+1) (by omega) (by omega),w64 (by omega) (by omega)]
  unfold mx
  split <;> omega
 rw[e2]
 refine⟨rep_f (by omega) (by omega),?_⟩
 rw[Joins.data_append,zerosB_list,natB_list,Int.toNat_natCast]
 rfl
theorem pad_size (n m:Nat):(padL n (Lib.decDigits m)).length≤n+1+(Lib.decDigits m).length:=by
 unfold padL
 rw[List.length_append,List.length_replicate]
 omega
theorem Print_f {x:BB} (hx:x.1.size+x.2.size≤900) (k:Nat) (hk:3700≤k):Pd.decimal_Print.f k x.1 x.2=some (printS x):=by
 unfold Pd.decimal_Print.f
 have em:rat_May.f x.1 x.2=some (mayR x):=by
  unfold rat_May.f
  rw[if_pos (show smR (x.1,x.2)=true from decide_eq_true ⟨by dsimp only;omega,by dsimp only;omega⟩)]
 rw[Places_f hx k hk,Option.bind_some,em,Option.bind_some]
 unfold printS
 by_cases hm:mayR x=true
 ·obtain⟨q,rfl⟩:=of_mayR hm
  have hs:szR q≤900:=hx
  have h1:=le_szR_num q
  have h2:=le_szR_den q
  have hd:0<q.den:=Nat.pos_of_ne_zero q.den_nz
  rw[if_pos hm,if_pos hm,ratR_rT,places_rT]
  unfold printL
  by_cases hf:finD q.den=true
  ·rw[if_pos hf,if_pos hf]
   dsimp only
   rw[if_pos rfl]
   by_cases h0:plD q.den=0
   ·rw[if_pos (by omega),if_pos h0]
    rfl
   ·rw[if_neg (by omega),if_neg h0]
    have hp:=plD_le hd (lt_sz q.den)
    have hm2:sz q.num.natAbs≤szI q.num:=le_szI _
    have s10:sz (10 ^ plD q.den)≤plD q.den+1:=sz_le (Nat.pow_lt_pow_right (by decide) (by omega)) (by omega)
    have su:sz (10 ^ plD q.den / q.den)≤plD q.den+1:=Nat.le_trans (sz_mono (Nat.div_le_self _ _)) s10
    have sp:=sz_mul q.num.natAbs (10 ^ plD q.den / q.den)
    rw[power_f (by omega),Option.bind_some]
    show ((nat_Div.f (natB (10 ^ plD q.den)) (natB q.den)).bind fun bt118=>_) = _
    rw[fDiv (by omega) (by omega) (by omega),Option.bind_some]
    show ((whole_Abs.f (intB q.num)).bind fun t121=>_) = _
    rw[gAbs (by omega),Option.bind_some,intB_nat,fMul (by omega) (by omega),Option.bind_some]
    obtain⟨p1,p2⟩:=pad_bytes (plD q.den) (q.num.natAbs * (10 ^ plD q.den / q.den)) (by omega) (by omega)
    rw[p1,Option.bind_some]
    have hsz:=pad_size (plD q.den) (q.num.natAbs * (10 ^ plD q.den / q.den))
    have hle:=pad_len (plD q.den) (Lib.decDigits (q.num.natAbs * (10 ^ plD q.den / q.den)))
    have e4:=sz_dig (q.num.natAbs * (10 ^ plD q.den / q.den))
    rw[if_pos (by rw[← ByteArray.size_append,size_len,p2];omega)]
    show ((whole_Sign.f (intB q.num)).bind fun t124=>_) = _
    rw[gSign (by omega),Option.bind_some]
    generalize hT:zerosB ((plD q.den+1-(Lib.decDigits (q.num.natAbs * (10 ^ plD q.den / q.den))).length:Nat):Int)++natB (q.num.natAbs * (10 ^ plD q.den / q.den))=T at *
    have eT:T.size=(padL (plD q.den) (Lib.decDigits (q.num.natAbs * (10 ^ plD q.den / q.den)))).length:=by rw[size_len,p2]
    unfold digsL
    rw[← p2]
    by_cases hn:q.num<0
    ·rw[if_pos (by rw[cmp_lt' hn];decide),tail_f (s:=⟨#[45]⟩) (p:=1) (by omega) (by omega) rfl (by decide)]
     unfold sgL
     rw[if_pos hn]
    ·rw[if_neg,tail_f (s:=⟨#[]⟩) (p:=0) (by omega) (by omega) rfl (by decide)]
     ·unfold sgL
      rw[if_neg hn]
     ·unfold Lib.compareInt
      (repeat' split) <;> omega
  ·rw[if_neg hf,if_neg hf]
   dsimp only
   rw[if_neg (by decide)]
   have l1:(⟨#[47]⟩:ByteArray).size=1:=rfl
   rw[if_pos (show (rT q).1.size+1≤9223372036854775807 by omega),if_pos (show ((rT q).1++(⟨#[47]⟩:ByteArray)).size+(rT q).2.size≤9223372036854775807 by rw[ByteArray.size_append];omega)]
   congr 1
   apply bext
   rw[Joins.data_append,Joins.data_append]
   show ((intB q.num).data.toList ++ [47])++(natB q.den).data.toList=(intB q.num).data.toList++47 :: Lib.decDigits q.den
   rw[natB_list,List.append_assoc]
   rfl
 ·rw[if_neg hm,if_neg hm]
  rfl
theorem digits_f {s:ByteArray} (h:s.size≤9223372036854775807):Pd.decimal_digits.f s=some (digL s.data.toList):=by
 unfold Pd.decimal_digits.f
 rw[ByteArray.toList_eq]
 unfold digL
 by_cases h0:s.data.toList=[]
 ·rw[if_pos h0,decide_eq_false (fun z=>z h0)]
  rfl
 ·rw[if_neg h0,decide_eq_true h0,Bool.true_and]
  have e:strings_Trim.f s (⟨#[48,49,50,51,52,53,54,55,56,57]⟩:ByteArray)=some ⟨(Lib.trimS s.data.toList decs).toArray⟩:=by
   unfold strings_Trim.f
   rw[if_pos]
   ·rfl
   ·rw[decide_eq_true h]
    rfl
  rw[e,Option.bind_some,ByteArray.toList_eq]
  show some (Lib.trimS s.data.toList decs == []) = _
  congr 1
  by_cases ha:s.data.toList.all isDig=true
  ·rw[(trim_nil _).2 ha,ha]
   rfl
  ·rw[beq_eq_false_iff_ne.2 (fun z=>ha ((trim_nil _).1 z))]
   exact((Bool.not_eq_true _).mp ha).symm
theorem plain_f {s:ByteArray} (h:digL s.data.toList=true):Pd.decimal_plain.f s=some (natB (num s.data.toList)):=by
 unfold Pd.decimal_plain.f strings_TrimLeft.f
 rw[if_pos rfl,Option.bind_some,ByteArray.toList_eq]
 show (if Lib.trimLeftB s.data.toList 48=[] then _ else _) = _
 have hl:=left_dec h
 by_cases h0:Lib.trimLeftB s.data.toList 48=[]
 ·rw[if_pos h0] at hl ⊢
  congr 1
  apply bext
  rw[natB_list,← hl]
 ·rw[if_neg h0] at hl ⊢
  congr 1
  apply bext
  rw[natB_list,← hl]
theorem hMake0 {x:Int} (hx:szI x≤4000):rat_Make.f (intB x) (natB 0)=some (noB,noB,false):=by
 unfold rat_Make.f rmakeS
 have e:numW (natB 0)=0:=by rw[← intB_nat,numW_int];rfl
 rw[if_pos (show smR (intB x,natB 0)=true from decide_eq_true ⟨hx,by dsimp only;rw[natB_zero];decide⟩),e,if_neg]
 ·rfl
 ·rw[Bool.and_eq_true,decide_eq_true_eq]
  exact fun z=>z.2 rfl
theorem make_res {m:Bool} {A B:List UInt8} (hA:digL A=true) (hB:digL B=true) (la:A.length≤3000) (lb:B.length≤3000) :
  ((rat_Make.f (intB (withS m (num A))) (natB (num B))).bind fun bt=>(if bt.2.2=true then (some (bt.1,bt.2.1,(0:Int))) else (some ((⟨#[]⟩:ByteArray),(⟨#[]⟩:ByteArray),40))))=some (ansQ (resL m A B)):=by
 have za:=num_sz (head_dig' hA).1
 have zb:=num_sz (head_dig' hB).1
 have wa:=withS_sz m (num A)
 unfold resL
 rw[hA,hB,Bool.true_and,if_pos rfl]
 by_cases h0:num B=0
 ·rw[if_pos h0,h0,hMake0 (by omega),Option.bind_some]
  rfl
 ·have hm:=hMake (x:=withS m (num A)) (y:=(num B:Int)) (by omega) (by rw[szI_nat];omega) (by omega)
  rw[intB_nat] at hm
  rw[if_neg h0,hm,Option.bind_some]
  rfl
theorem j1_true (m:Bool) (A B:ByteArray) (k:Nat):Pd.decimal_Parse.j1 (k+1) m A B true=some (ansQ none):=by
 simp only[Pd.decimal_Parse.j1]
 rfl
theorem j0_f {s A B:ByteArray} (m:Bool) (la:A.size≤3000) (lb:B.size≤3000) (k:Nat) :
  Pd.decimal_Parse.j0 (k+2) s m A B=some (ansQ (if 1000<s.size then none else resL m A.data.toList B.data.toList)):=by
 show Pd.decimal_Parse.j0 (k+1+1) s m A B = _
 simp only[Pd.decimal_Parse.j0]
 by_cases h:1000<s.size
 ·rw[if_pos (show (s.size:Int)>1000 by omega),if_pos h,j1_true]
 ·rw[if_neg (show ¬ (s.size:Int)>1000 by omega),if_neg h,digits_f (by omega),Option.bind_some]
  by_cases hA:digL A.data.toList=true
  ·rw[if_pos hA,digits_f (by omega),Option.bind_some]
   by_cases hB:digL B.data.toList=true
   ·have e:(!digL B.data.toList)=false:=by rw[hB];rfl
    rw[e]
    simp only[Pd.decimal_Parse.j1]
    rw[if_neg (by decide),plain_f hA,Option.bind_some,plain_f hB,Option.bind_some]
    have mk:=make_res (m:=m) hA hB (by rw[← size_len];exact la) (by rw[← size_len];exact lb)
    have za:=num_sz (head_dig' hA).1
    rw[← size_len] at za
    cases m with
    | true =>
     have hn:=gNeg (x:=(num A.data.toList:Int)) (by rw[szI_nat];omega)
     rw[intB_nat] at hn
     rw[if_pos rfl,hn,Option.bind_some]
     exact mk
    | false =>
     rw[if_neg (by decide)]
     have e2:intB (withS false (num A.data.toList))=natB (num A.data.toList):=intB_nat _
     rw[e2] at mk
     exact mk
   ·have e:(!digL B.data.toList)=true:=by rw[(Bool.not_eq_true _).mp hB];rfl
    rw[e,j1_true]
    unfold resL
    rw[if_neg (fun z=>hB (Bool.and_eq_true_iff.1 z).2)]
  ·rw[if_neg hA,j1_true]
   unfold resL
   rw[if_neg (fun z=>hA (Bool.and_eq_true_iff.1 z).1)]
theorem cut47 {s:ByteArray} (h:s.size≤100000) (c:UInt8):strings_Cut.f s ⟨#[c]⟩=some (match cutAt c s.data.toList with|some (a,b)=>(⟨a.toArray⟩,⟨b.toArray⟩,true)|none=>(s,⟨#[]⟩,false)):=by
 unfold strings_Cut.f cutB
 rw[if_pos (by omega)]
 have e:(⟨#[c]⟩:ByteArray).data.toList=[c]:=rfl
 rw[e,cut_one]
 cases cutAt c s.data.toList <;> rfl
theorem amtB_le (s:ByteArray):(amtB s).size≤s.size:=by
 rw[size_len,size_len,amtB_list]
 exact cutL_len _
theorem Parse_f {s:ByteArray} (h:s.size≤1100) (k:Nat) (hk:2≤k):Pd.decimal_Parse.f k s=some (parseS s):=by
 obtain⟨k,rfl⟩:∃ j,k=j+2:=⟨k-2,by omega⟩
 unfold Pd.decimal_Parse.f strings_CutPrefix.f
 rw[if_pos rfl,Option.bind_some,parseS_ans]
 have ha:=amtB_le s
 have hl:=amtB_list s
 unfold parseL
 rw[parseA_forms,← hl,← size_len]
 show ((strings_Cut.f (amtB s) ⟨#[47]⟩).bind fun bt133=>_) = _
 rw[cut47 (by omega),Option.bind_some]
 have hm:(cutL s.data.toList).2=minusB s:=rfl
 rw[hm]
 cases h1:cutAt 47 (amtB s).data.toList with
 | some p =>
  obtain⟨a,b⟩:=p
  have l1:=cutAt_len h1
  rw[← size_len] at l1
  dsimp only
  rw[if_pos rfl,j0_f (s:=s) (minusB s) (by show a.toArray.size≤_;rw[List.size_toArray];omega) (by show b.toArray.size≤_;rw[List.size_toArray];omega)]
 | none =>
  dsimp only
  rw[if_neg (by decide),cut47 (by omega),Option.bind_some]
  have last:Pd.decimal_Parse.j0 (k+2) s (minusB s) (amtB s) ⟨#[49]⟩=some (ansQ (if 1000<s.size then none else resL (minusB s) (amtB s).data.toList [49])):=j0_f (minusB s) (by omega) (by decide) k
  cases h2:cutAt 46 (amtB s).data.toList with
  | none =>
   dsimp only
   rw[if_neg (by decide),last]
  | some p =>
   obtain⟨a,b⟩:=p
   have l1:=cutAt_len h2
   rw[← size_len] at l1
   have sa:(⟨a.toArray⟩:ByteArray).size=a.length:=List.size_toArray
   have sb:(⟨b.toArray⟩:ByteArray).size=b.length:=List.size_toArray
   rw[point_not h2] at last
   dsimp only
   rw[if_pos rfl,digits_f (by omega),Option.bind_some]
   by_cases hA:digL a=true
   ·rw[if_pos hA,digits_f (by omega),Option.bind_some]
    by_cases hB:digL b=true
    ·rw[if_pos hB,if_pos (by omega),sb,power_f (by omega),Option.bind_some,j0_f (s:=s) (minusB s) (by rw[ByteArray.size_append];omega) (by rw[natB_size,← sz_dig];exact Nat.le_trans (sz_le (k:=b.length+1) (Nat.pow_lt_pow_right (by decide) (by omega)) (by omega)) (by omega)),← tenBB,ten_list,Joins.data_append,hA,hB,Bool.true_and,if_pos rfl]
    ·rw[if_neg hB,last,if_neg (fun z=>hB (Bool.and_eq_true_iff.1 z).2)]
   ·rw[if_neg hA,last,if_neg (fun z=>hA (Bool.and_eq_true_iff.1 z).1)]
end Go.Proofs.YtoghmeffpgbcfaaGreatDoor
end

section
namespace Go.Proofs.YtoghmeffpgbcfaaGreatDoor
def smD (x:BB):Bool:=decide (x.1.size+x.2.size≤900)
theorem smD_le {x:BB} (h:smD x=true):x.1.size+x.2.size≤900:=of_decide_eq_true h
def decimal_Places.f (a0_0 a0_1:ByteArray):Option (Int×Bool):=if smD (a0_0,a0_1)=true then some (placesS (a0_0,a0_1)) else none
theorem decimal_Places.calls (a0_0 a0_1:ByteArray) (r1:Int) (r2:Bool) (w:World) (hL_:Laid w) (h:decimal_Places.f a0_0 a0_1=some (r1,r2)) :
  Calls Tryz.prog 58 #[.agg #[.string a0_0,.string a0_1]] w fun e w'=>e=.returned (.tuple #[.int .i64 r1,.bool r2])∧Below w.heap.size w w':=by
 unfold decimal_Places.f at h
 split at h
 ·rename_i hp
  rw[← Places_f (x:=(a0_0,a0_1)) (smD_le hp) 3700 (Nat.le_refl _)] at h
  exact Pd.decimal_Places.calls 3700 a0_0 a0_1 r1 r2 w hL_ h
 ·cases h
def decimal_Print.f (a0_0 a0_1:ByteArray):Option ByteArray:=if smD (a0_0,a0_1)=true then some (printS (a0_0,a0_1)) else none
theorem decimal_Print.calls (a0_0 a0_1:ByteArray) (r:ByteArray) (w:World) (hL_:Laid w) (h:decimal_Print.f a0_0 a0_1=some r) :
  Calls Tryz.prog 34 #[.agg #[.string a0_0,.string a0_1]] w fun e w'=>e=.returned (.string r)∧Below w.heap.size w w':=by
 unfold decimal_Print.f at h
 split at h
 ·rename_i hp
  rw[← Print_f (x:=(a0_0,a0_1)) (smD_le hp) 3700 (Nat.le_refl _)] at h
  exact Pd.decimal_Print.calls 3700 a0_0 a0_1 r w hL_ h
 ·cases h
def decimal_Parse.f (a0:ByteArray):Option (ByteArray×ByteArray×Int):=if a0.size≤1100 then some (parseS a0) else none
theorem decimal_Parse.calls (a0:ByteArray) (r1 r2:ByteArray) (r3:Int) (w:World) (hL_:Laid w) (h:decimal_Parse.f a0=some (r1,r2,r3)) :
  Calls Tryz.prog 43 #[.string a0] w fun e w'=>e=.returned (.tuple #[.agg #[.string r1,.string r2],.int .i64 r3])∧Below w.heap.size w w':=by
 unfold decimal_Parse.f at h
 split at h
 ·rename_i hp
  rw[← Parse_f hp 2 (Nat.le_refl _)] at h
  exact Pd.decimal_Parse.calls 2 a0 r1 r2 r3 w hL_ h
 ·cases h
end Go.Proofs.YtoghmeffpgbcfaaGreatDoor
end
