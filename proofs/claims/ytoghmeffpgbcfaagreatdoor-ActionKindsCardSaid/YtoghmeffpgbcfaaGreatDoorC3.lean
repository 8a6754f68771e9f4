/-
Parts of the proof, in build order: Pr1, Pr, NatApi, Ten, Pq0, Pq1, Pq2, Pq3, Pq4, Pq, TenMay, NatDone, RefMay, RefShort, Num, Int, WholeS, RatS, DecS, Pw0, Pw1, Pw2, Pw, WholeApi, WholeDone, TenAt, RefAdd, RefMul, OfS, RefDiv.
-/
import Derived.Test.YtoghmeffpgbcfaaGreatDoorC2
import Derived.Lib.SmallJoins
import Derived.Lib.Strings
import Derived.Lib.IndexBytes
import Derived.Test.YtoghmeffpgbcfaaGreatDoorProg
import Derived.Below
import Derived.Deep.Draws
import Derived.Deep.AppendLies
import Derived.Maps.AppendAt
import Derived.OwnWalk
import Derived.Laws.BytesArg
import Derived.Laws.MakeOwn
import Derived.Laws.OwnMore
import Derived.Deep.OwnRows
import Derived.Tactics
import Derived.Lib.ConvBytes
import Derived.Laws.Slices
import Derived.WalkKit
import Derived.KernelRfl
import Derived.RowKit3
import Derived.Deep.LoopGhost
import Derived.Deep.QuietTactic
import Derived.BigQuiet
import Derived.WideLaws
import Derived.Deep.DeepCutAuto
import Derived.Deep.CutBlock
import Derived.Deep.RegionHeld3
import Derived.Laws.Rows
import Derived.Lib.AppendStr
import Derived.ArgAppend
import Derived.Laws.IdiomCopy
import Derived.OrdersHeld
import Derived.Laws.BitsLemmas
import Derived.RowKit
import Derived.Test.YtoghmeffpgbcfaaGreatDoorC0
import Derived.Test.YtoghmeffpgbcfaaGreatDoorC1
set_option linter.unusedVariables false
set_option linter.unusedSimpArgs false
open Go.RowKit Go.Proofs.YtoghmeffpgbcfaaGreatDoorW.PrintWords Go.Proofs.YtoghmeffpgbcfaaGreatDoorW.PrintLast Go.Proofs.YtoghmeffpgbcfaaGreatDoorW.PrintMore
attribute [local go_sem] max2_int min2_int max_two min_two max_three min_three max_four min_four   -- for this text's walks alone
section
namespace Go.Proofs.YtoghmeffpgbcfaaGreatDoor.Pr
def nat_both.j0:Nat→ByteArray→ByteArray→Bool→Option (List Int×List Int×Bool)
 | 0,_,_,_=>none
 | k+1,x0,x1,x14=>if x14=true then (some (([]:List Int),([]:List Int),false)) else ((nat_read.f x0).bind fun t103=>((nat_read.f x1).bind fun t106=>(some (t103,t106,true))))
def nat_both.f (k:Nat) (a0:ByteArray) (a1:ByteArray):Option (List Int×List Int×Bool):=(nat_May.f a0).bind fun t101=>(if t101=true then ((nat_May.f a1).bind fun t102=>(nat_both.j0 k a0 a1 (!t102))) else (nat_both.j0 k a0 a1 true))
set_option maxHeartbeats 8000000 in
set_option maxRecDepth 100000 in
theorem nat_both.calls (k:Nat) (a0:ByteArray) (a1:ByteArray) (r1:List Int) (r2:List Int) (r3:Bool) (w:World) (h:nat_both.f k a0 a1=some (r1,r2,r3)) :
  Calls Tryz.prog 102 #[.string a0,.string a1] w fun e w'=>∃ v0_ v1_:Value,e=.returned (.tuple #[v0_,v1_,.bool r3])∧Kd.V (Kd.int .i64) 3 w' w.heap.size (fun k_=>(w.heap.size≤k_)) v0_ r1∧Kd.V (Kd.int .i64) 3 w' w.heap.size (fun k_=>(w.heap.size≤k_)) v1_ r2∧Below w.heap.size w w':=by
 have HB:=Aside0.mk (Below.refl w.heap.size w);have H:=h;unfold nat_both.f at H;clear h;have HC3:=Aside0.mk H;clear H;go_enter Tryz.func102,Tryz.ntmps102
 go_upto_region 1 with (fail)
 go_cut [14] (fun v14 wc=>∃ (kq:Nat) (x14_2:Bool),v14=.bool x14_2∧Aside0 (nat_both.j0 kq a0 a1 x14_2=some (r1,r2,r3))∧Aside0 (kq≤k)∧Aside0 (Below w.heap.size w wc))
 case first =>
  have H:=HC3.out;clear HC3;obtain⟨t101,A4,H⟩:=bi_ H;by_cases c5:t101=true
  ·subst c5;rw[if_pos rfl] at H;obtain⟨t102,A6,H⟩:=bi_ H;have H':=Aside0.mk H;clear H
   go_wp2_with (first|(refine gl_ 8 Tryz.func79 #[.string a0] ?_;refine mo_ (nat_May.calls a0 true _ A4.out) ?_;intro w7 hb;replace HB:=bs_ HB hb;(try clear hb);(try clear hb2);(try clear hk);(try clear hi))|(go_at_call 79;(with_reducible refine(nat_May.calls a1 t102 _ A6.out).mono ?_);rintro e w8 ⟨rfl,hb⟩;replace HB:=bs_ HB hb;(try clear hb);(try clear hb2);(try clear hk);(try clear hi)))
   go_meet
   case rel=>exact⟨_,(!t102),rl_,H',⟨by first|omega|exact Nat.le_refl _⟩,⟨b_ HB.out⟩⟩
  ·replace c5:=Bool.eq_false_iff.mpr c5;subst c5;rw[if_neg nf_] at H;have H':=Aside0.mk H;clear H
   go_wp2_with (first|(refine gl_ 8 Tryz.func79 #[.string a0] ?_;refine mo_ (nat_May.calls a0 false _ A4.out) ?_;intro w9 hb;replace HB:=bs_ HB hb;(try clear hb);(try clear hb2);(try clear hk);(try clear hi)))
   go_meet
   case rel=>exact⟨_,(true),rl_,H',⟨by first|omega|exact Nat.le_refl _⟩,⟨b_ HB.out⟩⟩
 case rest =>
  clear HC3;(try clear c1);(try clear p2);(try clear c5);(try clear c7);obtain⟨kq,x14_2,rfl,HA,HJ2,HB⟩:=hcut
  cases kq with
  | zero=>exact absurd HA.out (by simp[nat_both.j0])
  | succ kj2 =>
   have H:=HA.out;clear HA;simp only[nat_both.j0] at H;by_cases c10:x14_2=true
   ·subst c10;rw[if_pos rfl] at H;simp only[Option.some.injEq,Prod.mk.injEq] at H;obtain⟨rfl,rfl,rfl⟩:=H;go_wp2
    go_ret3
    exact⟨(.slice none 0 0),(.slice none 0 0),er_,Kd.V_nil _ _ _ _ _,Kd.V_nil _ _ _ _ _,b_ HB.out⟩
   ·replace c10:=Bool.eq_false_iff.mpr c10;subst c10;rw[if_neg nf_] at H;obtain⟨t103,A11,H⟩:=bi_ H;obtain⟨t106,A12,H⟩:=bi_ H;simp only[Option.some.injEq,Prod.mk.injEq] at H;obtain⟨rfl,rfl,rfl⟩:=H
    go_wp2_with (first|(refine gl_ 16 Tryz.func138 #[.string a0] ?_;(with_reducible refine(nat_read.calls a0 t103 _ A11.out).mono ?_);rintro e w13 ⟨v104,rfl,ho0,hb⟩;refine⟨_,rfl,?_⟩;have HO105:=Aside0.mk (Kd.V_lower (Kd.V_mono (ok':=fun k_=>(w.heap.size≤k_)) ho0 (fun k_ hk_=>(Nat.le_trans (below_size (b_ HB.out)) hk_))) (below_size (b_ HB.out)));replace HB:=bs_ HB hb;(try clear hb);(try clear hb2);(try clear hk);(try clear hi);(try clear ho0))|(refine gl_ 18 Tryz.func138 #[.string a1] ?_;(with_reducible refine(nat_read.calls a1 t106 _ A12.out).mono ?_);rintro e w14 ⟨v107,rfl,ho0,hb⟩;refine⟨_,rfl,?_⟩;have HO108:=Aside0.mk (Kd.V_lower (Kd.V_mono (ok':=fun k_=>(w.heap.size≤k_)) ho0 (fun k_ hk_=>(Nat.le_trans (below_size (b_ HB.out)) hk_))) (below_size (b_ HB.out)));replace HO105:=Aside0.mk (Kd.V_below (v_ HO105.out) hb);replace HB:=bs_ HB hb;(try clear hb);(try clear hb2);(try clear hk);(try clear hi);(try clear ho0)))
    go_ret3
    exact⟨_,_,er_,by(with_reducible repeat(first|apply Kd.V_alloc|apply Kd.V_drewN|apply Kd.V_drew));exact HO105.out,by(with_reducible repeat(first|apply Kd.V_alloc|apply Kd.V_drewN|apply Kd.V_drew));exact HO108.out,b_ HB.out⟩
def nat_Add.f (k:Nat) (a0:ByteArray) (a1:ByteArray):Option (ByteArray):=(nat_both.f k a0 a1).bind fun bt109=>(if bt109.2.2=true then ((nat_add.f bt109.1 bt109.2.1 1).bind fun t116=>((nat_limbs_text.f t116).bind fun t119=>(some t119))) else (some (⟨#[]⟩:ByteArray)))
set_option maxHeartbeats 8000000 in
set_option maxRecDepth 100000 in
theorem nat_Add.calls (k:Nat) (a0:ByteArray) (a1:ByteArray) (r:ByteArray) (w:World) (hL_:Laid w) (h:nat_Add.f k a0 a1=some r) :
  Calls Tryz.prog 176 #[.string a0,.string a1] w fun e w'=>e=.returned (.string r)∧Below w.heap.size w w':=by
 have HLD:=Aside0.mk hL_;clear hL_;have HB:=Aside0.mk (Below.refl w.heap.size w);have H:=h;unfold nat_Add.f at H;clear h;obtain⟨⟨t109,t112,t115⟩,A3,H⟩:=bi_ H;(try dsimp only at H);by_cases c4:t115=true
 ·subst c4;rw[if_pos rfl] at H;obtain⟨t116,A5,H⟩:=bi_ H;obtain⟨t119,A6,H⟩:=bi_ H;obtain rfl:=Option.some.inj H;go_enter Tryz.func176,Tryz.ntmps176
  go_wp2_with (first|(refine gl_ 11 Tryz.func102 #[.string a0,.string a1] ?_;(with_reducible refine(nat_both.calls k a0 a1 t109 t112 true _ A3.out).mono ?_);rintro e w7 ⟨v110,v113,rfl,ho0,ho1,hb⟩;refine⟨_,rfl,?_⟩;have HO111:=Aside0.mk (Kd.V_lower (Kd.V_mono (ok':=fun k_=>True) ho0 (fun k_ hk_=>trivial)) (below_size (b_ HB.out)));have HO114:=Aside0.mk (Kd.V_lower (Kd.V_mono (ok':=fun k_=>True) ho1 (fun k_ hk_=>trivial)) (below_size (b_ HB.out)));replace HB:=bs_ HB hb;(try clear hb);(try clear hb2);(try clear hk);(try clear hi);(try clear ho0);(try clear ho1);obtain⟨Ao8,co8,eo8⟩:=Kd.V_slice HO111.out;subst eo8;obtain⟨Ao9,co9,eo9⟩:=Kd.V_slice HO114.out;subst eo9)|(refine gl_ 19 Tryz.func185 #[.slice Ao8 t109.length co8,.slice Ao9 t112.length co9,.int .i64 1] ?_;(with_reducible refine(nat_add.calls _ _ t109 _ _ t112 1 t116 _ ?side1 ?side2 ?side3 ?side4 A5.out).mono ?_);(case side1=>exact c_ (Kd.V_reads' HO111.out).2.2);(case side2=>exact(Kd.V_reads' HO111.out).2.1);(case side3=>exact c_ (Kd.V_reads' HO114.out).2.2);(case side4=>exact(Kd.V_reads' HO114.out).2.1);rintro e w10 ⟨v117,rfl,ho0,hb⟩;refine⟨_,rfl,?_⟩;have HO118:=Aside0.mk (Kd.V_lower (Kd.V_mono (ok':=fun k_=>True) ho0 (fun k_ hk_=>trivial)) (below_size (b_ HB.out)));replace HO111:=Aside0.mk (Kd.V_below (v_ HO111.out) hb);replace HO114:=Aside0.mk (Kd.V_below (v_ HO114.out) hb);replace HB:=bs_ HB hb;(try clear hb);(try clear hb2);(try clear hk);(try clear hi);(try clear ho0);obtain⟨Ao11,co11,eo11⟩:=Kd.V_slice HO118.out;subst eo11)|(refine gl_ 20 Tryz.func104 #[.slice Ao11 t116.length co11] ?_;(with_reducible refine(nat_limbs_text.calls _ _ t116 t119 _ ?side1 ?side2 ?side3 A6.out).mono ?_);(case side1=>exact c_ (Kd.V_reads' HO118.out).2.2);(case side2=>exact(Kd.V_reads' HO118.out).2.1);(case side3=>exact lb_ HLD HB);rintro e w12 ⟨rfl,hb⟩;refine⟨_,rfl,?_⟩;replace HO111:=Aside0.mk (Kd.V_below (v_ HO111.out) hb);replace HO114:=Aside0.mk (Kd.V_below (v_ HO114.out) hb);replace HO118:=Aside0.mk (Kd.V_below (v_ HO118.out) hb);replace HB:=bs_ HB hb;(try clear hb);(try clear hb2);(try clear hk);(try clear hi)))
  go_ret
  exact⟨er_,b_ HB.out⟩
 ·replace c4:=Bool.eq_false_iff.mpr c4;subst c4;rw[if_neg nf_] at H;obtain rfl:=Option.some.inj H;go_enter Tryz.func176,Tryz.ntmps176
  go_wp2_with (first|(refine gl_ 11 Tryz.func102 #[.string a0,.string a1] ?_;(with_reducible refine(nat_both.calls k a0 a1 t109 t112 false _ A3.out).mono ?_);rintro e w13 ⟨v110,v113,rfl,ho0,ho1,hb⟩;refine⟨_,rfl,?_⟩;have HO111:=Aside0.mk (Kd.V_lower (Kd.V_mono (ok':=fun k_=>True) ho0 (fun k_ hk_=>trivial)) (below_size (b_ HB.out)));have HO114:=Aside0.mk (Kd.V_lower (Kd.V_mono (ok':=fun k_=>True) ho1 (fun k_ hk_=>trivial)) (below_size (b_ HB.out)));replace HB:=bs_ HB hb;(try clear hb);(try clear hb2);(try clear hk);(try clear hi);(try clear ho0);(try clear ho1)))
  go_ret
  exact⟨er_,b_ HB.out⟩
def nat_Sub.j0:Nat→List Int→List Int→Bool→Option (ByteArray×Bool)
 | 0,_,_,_=>none
 | k+1,x6,x7,x23=>if x23=true then (some ((⟨#[]⟩:ByteArray),false)) else ((nat_add.f x6 x7 (-1)).bind fun t128=>((nat_limbs_text.f t128).bind fun t131=>(some (t131,true))))
def nat_Sub.f (k:Nat) (a0:ByteArray) (a1:ByteArray):Option (ByteArray×Bool):=(nat_both.f k a0 a1).bind fun bt120=>(if bt120.2.2=true then ((nat_compare.f bt120.1 bt120.2.1).bind fun t127=>(nat_Sub.j0 k bt120.1 bt120.2.1 (decide (t127<0)))) else (nat_Sub.j0 k bt120.1 bt120.2.1 true))
set_option maxHeartbeats 8000000 in
set_option maxRecDepth 100000 in
theorem nat_Sub.calls (k:Nat) (a0:ByteArray) (a1:ByteArray) (r1:ByteArray) (r2:Bool) (w:World) (hL_:Laid w) (h:nat_Sub.f k a0 a1=some (r1,r2)) :
  Calls Tryz.prog 177 #[.string a0,.string a1] w fun e w'=>e=.returned (.tuple #[.string r1,.bool r2])∧Below w.heap.size w w':=by
 have HLD:=Aside0.mk hL_;clear hL_;have HB:=Aside0.mk (Below.refl w.heap.size w);have H:=h;unfold nat_Sub.f at H;clear h;obtain⟨⟨t120,t123,t126⟩,A3,H⟩:=bi_ H;(try dsimp only at H);have HC4:=Aside0.mk H;clear H;go_enter Tryz.func177,Tryz.ntmps177
 go_upto_region 2 with (first|(refine gl_ 12 Tryz.func102 #[.string a0,.string a1] ?_;(with_reducible refine(nat_both.calls k a0 a1 t120 t123 t126 _ A3.out).mono ?_);rintro e w5 ⟨v121,v124,rfl,ho0,ho1,hb⟩;refine⟨_,rfl,?_⟩;have HO122:=Aside0.mk (Kd.V_lower (Kd.V_mono (ok':=fun k_=>True) ho0 (fun k_ hk_=>trivial)) (below_size (b_ HB.out)));have HO125:=Aside0.mk (Kd.V_lower (Kd.V_mono (ok':=fun k_=>True) ho1 (fun k_ hk_=>trivial)) (below_size (b_ HB.out)));replace HB:=bs_ HB hb;(try clear hb);(try clear hb2);(try clear hk);(try clear hi);(try clear ho0);(try clear ho1)))
 (try simp only[Act.put,List.setIfInBounds_toArray,List.set_cons_zero,List.set_cons_succ])
 go_cut [23] (fun v23 wc=>∃ (kq:Nat) (x23_3:Bool),v23=.bool x23_3∧Aside0 (nat_Sub.j0 kq t120 t123 x23_3=some (r1,r2))∧Aside0 (kq≤k)∧Aside0 (Kd.V (Kd.int .i64) 3 wc w.heap.size (fun _=>True) v121 t120)∧Aside0 (Kd.V (Kd.int .i64) 3 wc w.heap.size (fun _=>True) v124 t123)∧Aside0 (Below w.heap.size w wc))
 case first =>
  have H:=HC4.out;clear HC4;by_cases c6:t126=true
  ·subst c6;rw[if_pos rfl] at H;obtain⟨t127,A7,H⟩:=bi_ H;have H':=Aside0.mk H;clear H;obtain⟨Ao8,co8,eo8⟩:=Kd.V_slice HO122.out;subst eo8;obtain⟨Ao9,co9,eo9⟩:=Kd.V_slice HO125.out;subst eo9
   go_wp2_with (first|(go_at_call 139;(with_reducible refine(nat_compare.calls _ _ t120 _ _ t123 t127 _ ?side1 ?side2 ?side3 ?side4 A7.out).mono ?_);(case side1=>exact c_ (Kd.V_reads' HO122.out).2.2);(case side2=>exact(Kd.V_reads' HO122.out).2.1);(case side3=>exact c_ (Kd.V_reads' HO125.out).2.2);(case side4=>exact(Kd.V_reads' HO125.out).2.1);rintro e w10 ⟨rfl,hb⟩;replace HO122:=Aside0.mk (Kd.V_below (v_ HO122.out) hb);replace HO125:=Aside0.mk (Kd.V_below (v_ HO125.out) hb);replace HB:=bs_ HB hb;(try clear hb);(try clear hb2);(try clear hk);(try clear hi)))
   go_meet
   case rel=>exact⟨_,(decide (t127<0)),rl_,H',⟨by first|omega|exact Nat.le_refl _⟩,⟨by(with_reducible repeat(first|apply Kd.V_alloc|apply Kd.V_drewN|apply Kd.V_drew));exact HO122.out⟩,⟨by(with_reducible repeat(first|apply Kd.V_alloc|apply Kd.V_drewN|apply Kd.V_drew));exact HO125.out⟩,⟨b_ HB.out⟩⟩
  ·replace c6:=Bool.eq_false_iff.mpr c6;subst c6;rw[if_neg nf_] at H;have H':=Aside0.mk H;clear H;go_wp2
   go_meet
   case rel=>exact⟨_,(true),rl_,H',⟨by first|omega|exact Nat.le_refl _⟩,⟨by(with_reducible repeat(first|apply Kd.V_alloc|apply Kd.V_drewN|apply Kd.V_drew));exact HO122.out⟩,⟨by(with_reducible repeat(first|apply Kd.V_alloc|apply Kd.V_drewN|apply Kd.V_drew));exact HO125.out⟩,⟨b_ HB.out⟩⟩
 case rest =>
  clear HC4;(try clear c1);(try clear p2);(try clear c6);(try clear c10);obtain⟨kq,x23_3,rfl,HA,HJ3,HO_6,HO_7,HB⟩:=hcut
  cases kq with
  | zero=>exact absurd HA.out (by simp[nat_Sub.j0])
  | succ kj3 =>
   have H:=HA.out;clear HA;simp only[nat_Sub.j0] at H;by_cases c11:x23_3=true
   ·subst c11;rw[if_pos rfl] at H;simp only[Option.some.injEq,Prod.mk.injEq] at H;obtain⟨rfl,rfl⟩:=H;go_wp2;go_ret2;exact⟨er_,b_ HB.out⟩
   ·replace c11:=Bool.eq_false_iff.mpr c11;subst c11;rw[if_neg nf_] at H;obtain⟨t128,A12,H⟩:=bi_ H;obtain⟨t131,A13,H⟩:=bi_ H;simp only[Option.some.injEq,Prod.mk.injEq] at H;obtain⟨rfl,rfl⟩:=H;obtain⟨Ao14,co14,eo14⟩:=Kd.V_slice HO_6.out;subst eo14;obtain⟨Ao15,co15,eo15⟩:=Kd.V_slice HO_7.out;subst eo15
    go_wp2_with (first|(refine gl_ 26 Tryz.func185 #[.slice Ao14 t120.length co14,.slice Ao15 t123.length co15,.int .i64 (-1)] ?_;(with_reducible refine(nat_add.calls _ _ t120 _ _ t123 (-1) t128 _ ?side1 ?side2 ?side3 ?side4 A12.out).mono ?_);(case side1=>exact c_ (Kd.V_reads' HO_6.out).2.2);(case side2=>exact(Kd.V_reads' HO_6.out).2.1);(case side3=>exact c_ (Kd.V_reads' HO_7.out).2.2);(case side4=>exact(Kd.V_reads' HO_7.out).2.1);rintro e w16 ⟨v129,rfl,ho0,hb⟩;refine⟨_,rfl,?_⟩;have HO130:=Aside0.mk (Kd.V_lower (Kd.V_mono (ok':=fun k_=>True) ho0 (fun k_ hk_=>trivial)) (below_size (b_ HB.out)));replace HO_6:=Aside0.mk (Kd.V_below (v_ HO_6.out) hb);replace HO_7:=Aside0.mk (Kd.V_below (v_ HO_7.out) hb);replace HB:=bs_ HB hb;(try clear hb);(try clear hb2);(try clear hk);(try clear hi);(try clear ho0);obtain⟨Ao17,co17,eo17⟩:=Kd.V_slice HO130.out;subst eo17)|(refine gl_ 27 Tryz.func104 #[.slice Ao17 t128.length co17] ?_;(with_reducible refine(nat_limbs_text.calls _ _ t128 t131 _ ?side1 ?side2 ?side3 A13.out).mono ?_);(case side1=>exact c_ (Kd.V_reads' HO130.out).2.2);(case side2=>exact(Kd.V_reads' HO130.out).2.1);(case side3=>exact lb_ HLD HB);rintro e w18 ⟨rfl,hb⟩;refine⟨_,rfl,?_⟩;replace HO_6:=Aside0.mk (Kd.V_below (v_ HO_6.out) hb);replace HO_7:=Aside0.mk (Kd.V_below (v_ HO_7.out) hb);replace HO130:=Aside0.mk (Kd.V_below (v_ HO130.out) hb);replace HB:=bs_ HB hb;(try clear hb);(try clear hb2);(try clear hk);(try clear hi)))
    go_ret2;exact⟨er_,b_ HB.out⟩
def nat_Mul.f (k:Nat) (a0:ByteArray) (a1:ByteArray):Option (ByteArray):=(nat_both.f k a0 a1).bind fun bt132=>(if bt132.2.2=true then ((nat_mul.f bt132.1 bt132.2.1).bind fun t139=>((nat_limbs_text.f t139).bind fun t142=>(some t142))) else (some (⟨#[]⟩:ByteArray)))
set_option maxHeartbeats 8000000 in
set_option maxRecDepth 100000 in
theorem nat_Mul.calls (k:Nat) (a0:ByteArray) (a1:ByteArray) (r:ByteArray) (w:World) (hL_:Laid w) (h:nat_Mul.f k a0 a1=some r) :
  Calls Tryz.prog 61 #[.string a0,.string a1] w fun e w'=>e=.returned (.string r)∧Below w.heap.size w w':=by
 have HLD:=Aside0.mk hL_;clear hL_;have HB:=Aside0.mk (Below.refl w.heap.size w);have H:=h;unfold nat_Mul.f at H;clear h;obtain⟨⟨t132,t135,t138⟩,A3,H⟩:=bi_ H;(try dsimp only at H);by_cases c4:t138=true
 ·subst c4;rw[if_pos rfl] at H;obtain⟨t139,A5,H⟩:=bi_ H;obtain⟨t142,A6,H⟩:=bi_ H;obtain rfl:=Option.some.inj H;go_enter Tryz.func61,Tryz.ntmps61
  go_wp2_with (first|(refine gl_ 11 Tryz.func102 #[.string a0,.string a1] ?_;(with_reducible refine(nat_both.calls k a0 a1 t132 t135 true _ A3.out).mono ?_);rintro e w7 ⟨v133,v136,rfl,ho0,ho1,hb⟩;refine⟨_,rfl,?_⟩;have HO134:=Aside0.mk (Kd.V_lower (Kd.V_mono (ok':=fun k_=>True) ho0 (fun k_ hk_=>trivial)) (below_size (b_ HB.out)));have HO137:=Aside0.mk (Kd.V_lower (Kd.V_mono (ok':=fun k_=>True) ho1 (fun k_ hk_=>trivial)) (below_size (b_ HB.out)));replace HB:=bs_ HB hb;(try clear hb);(try clear hb2);(try clear hk);(try clear hi);(try clear ho0);(try clear ho1);obtain⟨Ao8,co8,eo8⟩:=Kd.V_slice HO134.out;subst eo8;obtain⟨Ao9,co9,eo9⟩:=Kd.V_slice HO137.out;subst eo9)|(refine gl_ 19 Tryz.func105 #[.slice Ao8 t132.length co8,.slice Ao9 t135.length co9] ?_;(with_reducible refine(nat_mul.calls _ _ t132 _ _ t135 t139 _ ?side1 ?side2 ?side3 ?side4 A5.out).mono ?_);(case side1=>exact c_ (Kd.V_reads' HO134.out).2.2);(case side2=>exact(Kd.V_reads' HO134.out).2.1);(case side3=>exact c_ (Kd.V_reads' HO137.out).2.2);(case side4=>exact(Kd.V_reads' HO137.out).2.1);rintro e w10 ⟨v140,rfl,ho0,hb⟩;refine⟨_,rfl,?_⟩;have HO141:=Aside0.mk (Kd.V_lower (Kd.V_mono (ok':=fun k_=>True) ho0 (fun k_ hk_=>trivial)) (below_size (b_ HB.out)));replace HO134:=Aside0.mk (Kd.V_below (v_ HO134.out) hb);replace HO137:=Aside0.mk (Kd.V_below (v_ HO137.out) hb);replace HB:=bs_ HB hb;(try clear hb);(try clear hb2);(try clear hk);(try clear hi);(try clear ho0);obtain⟨Ao11,co11,eo11⟩:=Kd.V_slice HO141.out;subst eo11)|(refine gl_ 20 Tryz.func104 #[.slice Ao11 t139.length co11] ?_;(with_reducible refine(nat_limbs_text.calls _ _ t139 t142 _ ?side1 ?side2 ?side3 A6.out).mono ?_);(case side1=>exact c_ (Kd.V_reads' HO141.out).2.2);(case side2=>exact(Kd.V_reads' HO141.out).2.1);(case side3=>exact lb_ HLD HB);rintro e w12 ⟨rfl,hb⟩;refine⟨_,rfl,?_⟩;replace HO134:=Aside0.mk (Kd.V_below (v_ HO134.out) hb);replace HO137:=Aside0.mk (Kd.V_below (v_ HO137.out) hb);replace HO141:=Aside0.mk (Kd.V_below (v_ HO141.out) hb);replace HB:=bs_ HB hb;(try clear hb);(try clear hb2);(try clear hk);(try clear hi)))
  go_ret
  exact⟨er_,b_ HB.out⟩
 ·replace c4:=Bool.eq_false_iff.mpr c4;subst c4;rw[if_neg nf_] at H;obtain rfl:=Option.some.inj H;go_enter Tryz.func61,Tryz.ntmps61
  go_wp2_with (first|(refine gl_ 11 Tryz.func102 #[.string a0,.string a1] ?_;(with_reducible refine(nat_both.calls k a0 a1 t132 t135 false _ A3.out).mono ?_);rintro e w13 ⟨v133,v136,rfl,ho0,ho1,hb⟩;refine⟨_,rfl,?_⟩;have HO134:=Aside0.mk (Kd.V_lower (Kd.V_mono (ok':=fun k_=>True) ho0 (fun k_ hk_=>trivial)) (below_size (b_ HB.out)));have HO137:=Aside0.mk (Kd.V_lower (Kd.V_mono (ok':=fun k_=>True) ho1 (fun k_ hk_=>trivial)) (below_size (b_ HB.out)));replace HB:=bs_ HB hb;(try clear hb);(try clear hb2);(try clear hk);(try clear hi);(try clear ho0);(try clear ho1)))
  go_ret
  exact⟨er_,b_ HB.out⟩
def nat_Div.j0:Nat→List Int→List Int→Bool→Option (ByteArray×ByteArray×Bool)
 | 0,_,_,_=>none
 | k+1,x7,x8,x25=>if x25=true then (some ((⟨#[]⟩:ByteArray),(⟨#[]⟩:ByteArray),false)) else ((nat_div.f x7 x8).bind fun bt150=>((nat_limbs_text.f bt150.1).bind fun t156=>((nat_limbs_text.f bt150.2).bind fun t157=>(some (t156,t157,true)))))
def nat_Div.f (k:Nat) (a0:ByteArray) (a1:ByteArray):Option (ByteArray×ByteArray×Bool):=(nat_both.f k a0 a1).bind fun bt143=>(if bt143.2.2=true then (nat_Div.j0 k bt143.1 bt143.2.1 ((bt143.2.1.length:Int) == 0)) else (nat_Div.j0 k bt143.1 bt143.2.1 true))
set_option maxHeartbeats 8000000 in
set_option maxRecDepth 100000 in
theorem nat_Div.calls (k:Nat) (a0:ByteArray) (a1:ByteArray) (r1:ByteArray) (r2:ByteArray) (r3:Bool) (w:World) (hL_:Laid w) (h:nat_Div.f k a0 a1=some (r1,r2,r3)) :
  Calls Tryz.prog 59 #[.string a0,.string a1] w fun e w'=>e=.returned (.tuple #[.string r1,.string r2,.bool r3])∧Below w.heap.size w w':=by
 have HLD:=Aside0.mk hL_;clear hL_;have HB:=Aside0.mk (Below.refl w.heap.size w);have H:=h;unfold nat_Div.f at H;clear h;obtain⟨⟨t143,t146,t149⟩,A3,H⟩:=bi_ H;(try dsimp only at H);have HC4:=Aside0.mk H;clear H;go_enter Tryz.func59,Tryz.ntmps59
 go_upto_region 2 with (first|(refine gl_ 15 Tryz.func102 #[.string a0,.string a1] ?_;(with_reducible refine(nat_both.calls k a0 a1 t143 t146 t149 _ A3.out).mono ?_);rintro e w5 ⟨v144,v147,rfl,ho0,ho1,hb⟩;refine⟨_,rfl,?_⟩;have HO145:=Aside0.mk (Kd.V_lower (Kd.V_mono (ok':=fun k_=>True) ho0 (fun k_ hk_=>trivial)) (below_size (b_ HB.out)));have HO148:=Aside0.mk (Kd.V_lower (Kd.V_mono (ok':=fun k_=>True) ho1 (fun k_ hk_=>trivial)) (below_size (b_ HB.out)));replace HB:=bs_ HB hb;(try clear hb);(try clear hb2);(try clear hk);(try clear hi);(try clear ho0);(try clear ho1)))
 (try simp only[Act.put,List.setIfInBounds_toArray,List.set_cons_zero,List.set_cons_succ])
 go_cut [25] (fun v25 wc=>∃ (kq:Nat) (x25_3:Bool),v25=.bool x25_3∧Aside0 (nat_Div.j0 kq t143 t146 x25_3=some (r1,r2,r3))∧Aside0 (kq≤k)∧Aside0 (Kd.V (Kd.int .i64) 3 wc w.heap.size (fun _=>True) v144 t143)∧Aside0 (Kd.V (Kd.int .i64) 3 wc w.heap.size (fun _=>True) v147 t146)∧Aside0 (Below w.heap.size w wc))
 case first =>
  have H:=HC4.out;clear HC4;by_cases c6:t149=true
  ·subst c6;rw[if_pos rfl] at H;have H':=Aside0.mk H;clear H;obtain⟨Ao7,co7,eo7⟩:=Kd.V_slice HO148.out;subst eo7;go_wp2
   go_meet
   case rel=>exact⟨_,(((t146.length:Int) == 0)),rl_,H',⟨by first|omega|exact Nat.le_refl _⟩,⟨by(with_reducible repeat(first|apply Kd.V_alloc|apply Kd.V_drewN|apply Kd.V_drew));exact HO145.out⟩,⟨by(with_reducible repeat(first|apply Kd.V_alloc|apply Kd.V_drewN|apply Kd.V_drew));exact HO148.out⟩,⟨b_ HB.out⟩⟩
  ·replace c6:=Bool.eq_false_iff.mpr c6;subst c6;rw[if_neg nf_] at H;have H':=Aside0.mk H;clear H;go_wp2
   go_meet
   case rel=>exact⟨_,(true),rl_,H',⟨by first|omega|exact Nat.le_refl _⟩,⟨by(with_reducible repeat(first|apply Kd.V_alloc|apply Kd.V_drewN|apply Kd.V_drew));exact HO145.out⟩,⟨by(with_reducible repeat(first|apply Kd.V_alloc|apply Kd.V_drewN|apply Kd.V_drew));exact HO148.out⟩,⟨b_ HB.out⟩⟩
 case rest =>
  clear HC4;(try clear c1);(try clear p2);(try clear c5);(try clear c6);obtain⟨kq,x25_3,rfl,HA,HJ3,HO_7,HO_8,HB⟩:=hcut
  cases kq with
  | zero=>exact absurd HA.out (by simp[nat_Div.j0])
  | succ kj3 =>
   have H:=HA.out;clear HA;simp only[nat_Div.j0] at H;by_cases c8:x25_3=true
   ·subst c8;rw[if_pos rfl] at H;simp only[Option.some.injEq,Prod.mk.injEq] at H;obtain⟨rfl,rfl,rfl⟩:=H;go_wp2
    go_ret3
    exact⟨er_,b_ HB.out⟩
   ·replace c8:=Bool.eq_false_iff.mpr c8;subst c8;rw[if_neg nf_] at H;obtain⟨⟨t150,t153⟩,A9,H⟩:=bi_ H;(try dsimp only at H);obtain⟨t156,A10,H⟩:=bi_ H;obtain⟨t157,A11,H⟩:=bi_ H;simp only[Option.some.injEq,Prod.mk.injEq] at H;obtain⟨rfl,rfl,rfl⟩:=H;obtain⟨Ao12,co12,eo12⟩:=Kd.V_slice HO_7.out;subst eo12;obtain⟨Ao13,co13,eo13⟩:=Kd.V_slice HO_8.out;subst eo13
    go_wp2_with (first|(refine gl_ 29 Tryz.func103 #[.slice Ao12 t143.length co12,.slice Ao13 t146.length co13] ?_;(with_reducible refine(nat_div.calls (fun k_=>True) _ _ t143 _ _ t146 t150 t153 _ ?side1 ?side2 ?side3 A9.out).mono ?_);(case side1=>exact HO_7.out);(case side2=>exact c_ (Kd.V_reads' HO_8.out).2.2);(case side3=>exact(Kd.V_reads' HO_8.out).2.1);rintro e w14 ⟨v151,v154,rfl,ho0,ho1,hb⟩;refine⟨_,rfl,?_⟩;have HO152:=Aside0.mk (Kd.V_lower (Kd.V_mono (ok':=fun k_=>True) ho0 (fun k_ hk_=>trivial)) (below_size (b_ HB.out)));have HO155:=Aside0.mk (Kd.V_lower (Kd.V_mono (ok':=fun k_=>True) ho1 (fun k_ hk_=>trivial)) (below_size (b_ HB.out)));replace HO_7:=Aside0.mk (Kd.V_below (v_ HO_7.out) hb);replace HO_8:=Aside0.mk (Kd.V_below (v_ HO_8.out) hb);replace HB:=bs_ HB hb;(try clear hb);(try clear hb2);(try clear hk);(try clear hi);(try clear ho0);(try clear ho1);obtain⟨Ao15,co15,eo15⟩:=Kd.V_slice HO152.out;subst eo15)|(refine gl_ 33 Tryz.func104 #[.slice Ao15 t150.length co15] ?_;(with_reducible refine(nat_limbs_text.calls _ _ t150 t156 _ ?side1 ?side2 ?side3 A10.out).mono ?_);(case side1=>exact c_ (Kd.V_reads' HO152.out).2.2);(case side2=>exact(Kd.V_reads' HO152.out).2.1);(case side3=>exact lb_ HLD HB);rintro e w16 ⟨rfl,hb⟩;refine⟨_,rfl,?_⟩;replace HO_7:=Aside0.mk (Kd.V_below (v_ HO_7.out) hb);replace HO_8:=Aside0.mk (Kd.V_below (v_ HO_8.out) hb);replace HO152:=Aside0.mk (Kd.V_below (v_ HO152.out) hb);replace HO155:=Aside0.mk (Kd.V_below (v_ HO155.out) hb);replace HB:=bs_ HB hb;(try clear hb);(try clear hb2);(try clear hk);(try clear hi);obtain⟨Ao17,co17,eo17⟩:=Kd.V_slice HO155.out;subst eo17)|(refine gl_ 35 Tryz.func104 #[.slice Ao17 t153.length co17] ?_;(with_reducible refine(nat_limbs_text.calls _ _ t153 t157 _ ?side1 ?side2 ?side3 A11.out).mono ?_);(case side1=>exact c_ (Kd.V_reads' HO155.out).2.2);(case side2=>exact(Kd.V_reads' HO155.out).2.1);(case side3=>exact lb_ HLD HB);rintro e w18 ⟨rfl,hb⟩;refine⟨_,rfl,?_⟩;replace HO_7:=Aside0.mk (Kd.V_below (v_ HO_7.out) hb);replace HO_8:=Aside0.mk (Kd.V_below (v_ HO_8.out) hb);replace HO152:=Aside0.mk (Kd.V_below (v_ HO152.out) hb);replace HO155:=Aside0.mk (Kd.V_below (v_ HO155.out) hb);replace HB:=bs_ HB hb;(try clear hb);(try clear hb2);(try clear hk);(try clear hi)))
    go_ret3
    exact⟨er_,b_ HB.out⟩
def nat_Gcd.l0:Nat→List Int→List Int→Option (ByteArray)
 | 0,_,_=>none
 | k+1,x5,x6=>if (x6.length:Int)>0 then ((nat_div.f x5 x6).bind fun bt165=>(nat_Gcd.l0 k x6 bt165.2)) else ((nat_limbs_text.f x5).bind fun t171=>(some t171))
def nat_Gcd.f (k:Nat) (a0:ByteArray) (a1:ByteArray):Option (ByteArray):=(nat_both.f k a0 a1).bind fun bt158=>(if bt158.2.2=true then (nat_Gcd.l0 k bt158.1 bt158.2.1) else (some (⟨#[]⟩:ByteArray)))
set_option maxHeartbeats 8000000 in
set_option maxRecDepth 100000 in
theorem nat_Gcd.calls (k:Nat) (a0:ByteArray) (a1:ByteArray) (r:ByteArray) (w:World) (hL_:Laid w) (h:nat_Gcd.f k a0 a1=some r) :
  Calls Tryz.prog 99 #[.string a0,.string a1] w fun e w'=>e=.returned (.string r)∧Below w.heap.size w w':=by
 have HLD:=Aside0.mk hL_;clear hL_;have HB:=Aside0.mk (Below.refl w.heap.size w);have H:=h;unfold nat_Gcd.f at H;clear h;obtain⟨⟨t158,t161,t164⟩,A3,H⟩:=bi_ H;(try dsimp only at H);by_cases c4:t164=true
 ·subst c4;rw[if_pos rfl] at H;have H':=Aside0.mk H;clear H;go_enter Tryz.func99,Tryz.ntmps99
  go_wp2_with (first|(refine gl_ 13 Tryz.func102 #[.string a0,.string a1] ?_;(with_reducible refine(nat_both.calls k a0 a1 t158 t161 true _ A3.out).mono ?_);rintro e w5 ⟨v159,v162,rfl,ho0,ho1,hb⟩;refine⟨_,rfl,?_⟩;have HO160:=Aside0.mk (Kd.V_lower (Kd.V_mono (ok':=fun k_=>True) ho0 (fun k_ hk_=>trivial)) (below_size (b_ HB.out)));have HO163:=Aside0.mk (Kd.V_lower (Kd.V_mono (ok':=fun k_=>True) ho1 (fun k_ hk_=>trivial)) (below_size (b_ HB.out)));replace HB:=bs_ HB hb;(try clear hb);(try clear hb2);(try clear hk);(try clear hi);(try clear ho0);(try clear ho1)))
  go_loopg [5,6] k (fun kq v5 v6 w'=>∃ (x5_1:List Int) (x6_1:List Int),Aside0 (nat_Gcd.l0 kq x5_1 x6_1=some r)∧Aside0 (kq≤k)∧Aside0 (Kd.V (Kd.int .i64) 3 w' w.heap.size (fun _=>True) v5 x5_1)∧Aside0 (Kd.V (Kd.int .i64) 3 w' w.heap.size (fun _=>True) v6 x6_1)∧Aside0 (Below w.heap.size w w'))
  case atStart=>exact⟨(t158),(t161),H',⟨Nat.le_refl _⟩,⟨by(with_reducible repeat(first|apply Kd.V_alloc|apply Kd.V_drewN|apply Kd.V_drew));exact HO160.out⟩,⟨by(with_reducible repeat(first|apply Kd.V_alloc|apply Kd.V_drewN|apply Kd.V_drew));exact HO163.out⟩,⟨b_ HB.out⟩⟩
  case round =>
   clear H';(try clear c1);(try clear p2);(try clear c4);obtain⟨x5_1,x6_1,HA,HK1,HO_5,HO_6,HB⟩:=hrel
   cases gk with
   | zero=>exact absurd HA.out (by simp[nat_Gcd.l0])
   | succ k1 =>
    have H:=HA.out;clear HA;simp only[nat_Gcd.l0] at H;by_cases c6:(x6_1.length:Int)>0
    ·rw[if_pos c6] at H;have c6b0:decide (0<(x6_1.length:Int))=true:=decide_eq_true c6;have c6b1:decide (0<x6_1.length)=true:=decide_eq_true (by omega);clear c6;obtain⟨⟨t165,t168⟩,A7,H⟩:=bi_ H;(try dsimp only at H);have H':=Aside0.mk H;clear H;obtain⟨Ao8,co8,eo8⟩:=Kd.V_slice HO_6.out;subst eo8;obtain⟨Ao9,co9,eo9⟩:=Kd.V_slice HO_5.out;subst eo9
     go_wp2_with (first|(refine gl_ 25 Tryz.func103 #[.slice Ao9 x5_1.length co9,.slice Ao8 x6_1.length co8] ?_;(with_reducible refine(nat_div.calls (fun k_=>True) _ _ x5_1 _ _ x6_1 t165 t168 _ ?side1 ?side2 ?side3 A7.out).mono ?_);(case side1=>exact HO_5.out);(case side2=>exact c_ (Kd.V_reads' HO_6.out).2.2);(case side3=>exact(Kd.V_reads' HO_6.out).2.1);rintro e w10 ⟨v166,v169,rfl,ho0,ho1,hb⟩;refine⟨_,rfl,?_⟩;have HO167:=Aside0.mk (Kd.V_lower (Kd.V_mono (ok':=fun k_=>True) ho0 (fun k_ hk_=>trivial)) (below_size (b_ HB.out)));have HO170:=Aside0.mk (Kd.V_lower (Kd.V_mono (ok':=fun k_=>True) ho1 (fun k_ hk_=>trivial)) (below_size (b_ HB.out)));replace HO_5:=Aside0.mk (Kd.V_below (v_ HO_5.out) hb);replace HO_6:=Aside0.mk (Kd.V_below (v_ HO_6.out) hb);replace HB:=bs_ HB hb;(try clear hb);(try clear hb2);(try clear hk);(try clear hi);(try clear ho0);(try clear ho1)))
     go_roundg k1
     case measure=>have:=HK1.out;omega
     case rel=>exact⟨(x6_1),(t168),H',⟨by have:=HK1.out;omega⟩,⟨by(with_reducible repeat(first|apply Kd.V_alloc|apply Kd.V_drewN|apply Kd.V_drew));exact HO_6.out⟩,⟨by(with_reducible repeat(first|apply Kd.V_alloc|apply Kd.V_drewN|apply Kd.V_drew));exact HO170.out⟩,⟨b_ HB.out⟩⟩
    ·rw[if_neg c6] at H;have c6b0:decide (0<(x6_1.length:Int))=false:=decide_eq_false c6;have c6b1:decide (0<x6_1.length)=false:=decide_eq_false (by omega);clear c6;obtain⟨t171,A11,H⟩:=bi_ H;obtain rfl:=Option.some.inj H;obtain⟨Ao12,co12,eo12⟩:=Kd.V_slice HO_6.out;subst eo12;obtain⟨Ao13,co13,eo13⟩:=Kd.V_slice HO_5.out;subst eo13
     go_wp2_with (first|(refine gl_ 31 Tryz.func104 #[.slice Ao13 x5_1.length co13] ?_;(with_reducible refine(nat_limbs_text.calls _ _ x5_1 t171 _ ?side1 ?side2 ?side3 A11.out).mono ?_);(case side1=>exact c_ (Kd.V_reads' HO_5.out).2.2);(case side2=>exact(Kd.V_reads' HO_5.out).2.1);(case side3=>exact lb_ HLD HB);rintro e w14 ⟨rfl,hb⟩;refine⟨_,rfl,?_⟩;replace HO_5:=Aside0.mk (Kd.V_below (v_ HO_5.out) hb);replace HO_6:=Aside0.mk (Kd.V_below (v_ HO_6.out) hb);replace HB:=bs_ HB hb;(try clear hb);(try clear hb2);(try clear hk);(try clear hi)))
     go_ret
     exact⟨er_,b_ HB.out⟩
 ·replace c4:=Bool.eq_false_iff.mpr c4;subst c4;rw[if_neg nf_] at H;obtain rfl:=Option.some.inj H;go_enter Tryz.func99,Tryz.ntmps99
  go_wp2_with (first|(refine gl_ 13 Tryz.func102 #[.string a0,.string a1] ?_;(with_reducible refine(nat_both.calls k a0 a1 t158 t161 false _ A3.out).mono ?_);rintro e w15 ⟨v159,v162,rfl,ho0,ho1,hb⟩;refine⟨_,rfl,?_⟩;have HO160:=Aside0.mk (Kd.V_lower (Kd.V_mono (ok':=fun k_=>True) ho0 (fun k_ hk_=>trivial)) (below_size (b_ HB.out)));have HO163:=Aside0.mk (Kd.V_lower (Kd.V_mono (ok':=fun k_=>True) ho1 (fun k_ hk_=>trivial)) (below_size (b_ HB.out)));replace HB:=bs_ HB hb;(try clear hb);(try clear hb2);(try clear hk);(try clear hi);(try clear ho0);(try clear ho1)))
  go_ret
  exact⟨er_,b_ HB.out⟩
end Go.Proofs.YtoghmeffpgbcfaaGreatDoor.Pr
end

section
namespace Go.Proofs.YtoghmeffpgbcfaaGreatDoor.Pr
end Go.Proofs.YtoghmeffpgbcfaaGreatDoor.Pr
end

section
namespace Go.Proofs.YtoghmeffpgbcfaaGreatDoor
def noB:ByteArray:=⟨#[]⟩
def may2 (a b:ByteArray):Bool:=mayB a&&mayB b
def sm2 (a b:ByteArray):Bool:=sm a&&sm b
def addS (a b:ByteArray):ByteArray:=if may2 a b=true then natB (numB a+numB b) else noB
def subS (a b:ByteArray):ByteArray×Bool:=if (may2 a b&&decide (numB b≤numB a))=true then (natB (numB a-numB b),true) else (noB,false)
def mulS (a b:ByteArray):ByteArray:=if may2 a b=true then natB (numB a * numB b) else noB
def divS (a b:ByteArray):ByteArray×ByteArray×Bool:=if (may2 a b&&decide (numB b≠0))=true then (natB (numB a / numB b),natB (numB a % numB b),true) else (noB,noB,false)
def cmpS (a b:ByteArray):Int:=if may2 a b=true then Lib.compareInt (numB a) (numB b) else 0
theorem lim_sm {a:ByteArray} (h:sm a=true) (hm:mayB a=true):(lim (numB a)).length≤50000:=by
 have h1:=num_lt (mayL_all hm)
 have h2:=sm_le h
 rw[size_len] at h2
 refine Nat.le_trans (lim_len (k:=a.data.toList.length) ?_) h2
 have h3:(10:Nat) ^ a.data.toList.length≤10000 ^ a.data.toList.length:=Nat.pow_le_pow_left (by omega) _
 have h4:numB a<10000 ^ a.data.toList.length:=Nat.lt_of_lt_of_le h1 h3
 have h5:=Int.ofNat_lt.2 h4
 rw[Int.natCast_pow] at h5
 exact h5
theorem text_natB {n:Nat} (h:(lim n).length≤17592186044416):nat_limbs_text.f (lim n)=some (natB n):=by
 unfold nat_limbs_text.f natB
 rw[if_pos ⟨limbsOk_lim n,h⟩,textL_lim]
theorem lim_add_len (m n:Nat):(lim (m+n)).length≤(lim m).length+(lim n).length+1:=by
 apply lim_len
 have h1:=lim_high m
 have h2:=lim_high n
 have h3:=pow_mono' (a:=(lim m).length) (b:=(lim m).length+(lim n).length) (by omega)
 have h4:=pow_mono' (a:=(lim n).length) (b:=(lim m).length+(lim n).length) (by omega)
 rw[Int.pow_succ]
 omega
theorem lim_mul_len (m n:Nat):(lim (m * n)).length≤(lim m).length+(lim n).length:=by
 apply lim_len
 have h1:=lim_high m
 have h2:=lim_high n
 rw[Int.natCast_mul,Int.pow_add]
 have h3:(m:Int) * n≤m * 10000 ^ (lim n).length:=Int.mul_le_mul_of_nonneg_left (by omega) (by omega)
 have h4:(m:Int) * 10000 ^ (lim n).length<10000 ^ (lim m).length * 10000 ^ (lim n).length:=Int.mul_lt_mul_of_pos_right h1 (pow_pos' _)
 omega
theorem lim_le_len {m n:Nat} (h:m≤n):(lim m).length≤(lim n).length:=by
 apply lim_len
 have h1:=lim_high n
 omega
theorem may_f {a:ByteArray} (h:sm a=true):nat_May.f a=some (mayB a):=by
 unfold nat_May.f
 rw[if_pos h]
theorem read_f {a:ByteArray} (h:sm a=true) (hm:mayB a=true):nat_read.f a=some (lim (numB a)):=by
 unfold nat_read.f
 rw[if_pos (by rw[h,hm];rfl)]
theorem both_f {a b:ByteArray} (ha:sm a=true) (hb:sm b=true) (k:Nat):Pr.nat_both.f (k+1) a b=some (if may2 a b=true then (lim (numB a),lim (numB b),true) else ([],[],false)):=by
 unfold Pr.nat_both.f may2
 rw[may_f ha,may_f hb]
 cases h1:mayB a <;> cases h2:mayB b
 ·rfl
 ·rfl
 ·rfl
 ·simp only[Option.bind_some,if_true,Pr.nat_both.j0,read_f ha h1,read_f hb h2,Bool.not_true,Bool.and_self,if_false,Bool.false_eq_true]
theorem lmlim {a:ByteArray} (h:sm a=true) (hm:mayB a=true):lm (lim (numB a))=true:=decide_eq_true (lim_sm h hm)
theorem may2_and {a b:ByteArray} (h:may2 a b=true):mayB a=true∧mayB b=true:=by
 unfold may2 at h
 rwa [Bool.and_eq_true] at h
theorem add_f {a b:ByteArray} (ha:sm a=true) (hb:sm b=true) (k:Nat):Pr.nat_Add.f (k+1) a b=some (addS a b):=by
 unfold Pr.nat_Add.f addS
 rw[both_f ha hb,Option.bind_some]
 by_cases h:may2 a b=true
 ·obtain⟨h1,h2⟩:=may2_and h
  rw[if_pos h,if_pos rfl,if_pos h]
  have h3:=lim_sm ha h1
  have h4:=lim_sm hb h2
  have h5:=lim_add_len (numB a) (numB b)
  have e:(val (lim (numB a))+1 * val (lim (numB b))).toNat=numB a+numB b:=by rw[val_lim,val_lim];omega
  have hz:0≤val (lim (numB a))+1 * val (lim (numB b)):=by rw[val_lim,val_lim];omega
  unfold nat_add.f
  rw[if_pos (by rw[limbsOk_lim,limbsOk_lim,lmlim ha h1,lmlim hb h2,decide_eq_true hz];rfl),e,Option.bind_some,text_natB (by omega)]
  rfl
 ·rw[if_neg h,if_neg (by decide),if_neg h]
  rfl
theorem mul_f {a b:ByteArray} (ha:sm a=true) (hb:sm b=true) (k:Nat):Pr.nat_Mul.f (k+1) a b=some (mulS a b):=by
 unfold Pr.nat_Mul.f mulS
 rw[both_f ha hb,Option.bind_some]
 by_cases h:may2 a b=true
 ·obtain⟨h1,h2⟩:=may2_and h
  rw[if_pos h,if_pos rfl,if_pos h]
  have h3:=lim_sm ha h1
  have h4:=lim_sm hb h2
  have h5:=lim_mul_len (numB a) (numB b)
  have e:(val (lim (numB a)) * val (lim (numB b))).toNat=numB a * numB b:=by rw[val_lim,val_lim,← Int.natCast_mul,Int.toNat_natCast]
  unfold nat_mul.f
  rw[if_pos (by rw[limbsOk_lim,limbsOk_lim,lmlim ha h1,lmlim hb h2];rfl),e,Option.bind_some,text_natB (by omega)]
  rfl
 ·rw[if_neg h,if_neg (by decide),if_neg h]
  rfl
theorem cmpI_neg (m n:Nat):Lib.compareInt (m:Int) (n:Int)<0↔¬ n≤m:=by
 unfold Lib.compareInt
 split
 ·constructor
  ·intro _;omega
  ·intro _;decide
 ·split
  ·constructor
   ·intro h;exact absurd h (by decide)
   ·intro h;omega
  ·constructor
   ·intro h;exact absurd h (by decide)
   ·intro h;omega
theorem sub_f {a b:ByteArray} (ha:sm a=true) (hb:sm b=true) (k:Nat):Pr.nat_Sub.f (k+1) a b=some (subS a b):=by
 unfold Pr.nat_Sub.f subS
 rw[both_f ha hb,Option.bind_some]
 by_cases h:may2 a b=true
 ·obtain⟨h1,h2⟩:=may2_and h
  rw[if_pos h,if_pos rfl,h]
  unfold nat_compare.f
  rw[cmpL_lim,Option.bind_some]
  simp only[Pr.nat_Sub.j0]
  by_cases hc:numB b≤numB a
  ·rw[if_neg (by rw[decide_eq_true_eq,cmpI_neg];omega),if_pos (by rw[decide_eq_true hc];rfl)]
   have h3:=lim_sm ha h1
   have h5:=lim_le_len (show numB a-numB b≤numB a by omega)
   have e:(val (lim (numB a)) + -1 * val (lim (numB b))).toNat=numB a-numB b:=by rw[val_lim,val_lim];omega
   have hz:0≤val (lim (numB a)) + -1 * val (lim (numB b)):=by rw[val_lim,val_lim];omega
   unfold nat_add.f
   rw[if_pos (by rw[limbsOk_lim,limbsOk_lim,lmlim ha h1,lmlim hb h2,decide_eq_true hz];rfl),e,Option.bind_some,text_natB (by omega)]
   rfl
  ·rw[if_pos (by rw[decide_eq_true_eq,cmpI_neg];omega),if_neg (by rw[decide_eq_false hc];decide)]
   rfl
 ·rw[if_neg h,if_neg (by decide),(Bool.not_eq_true _).mp h]
  rfl
theorem lim_zero_len (n:Nat):((lim n).length:Int)=0↔n=0:=by
 rw[Int.natCast_eq_zero,List.length_eq_zero_iff,lim_nil]
theorem divL_f {m n:Nat} (hm:(lim m).length≤50000) (hn:(lim n).length≤50000) (h:n≠0):nat_div.f (lim m) (lim n)=some (lim (m / n),lim (m % n)):=by
 unfold nat_div.f
 rw[val_lim,val_lim,Int.toNat_natCast,Int.toNat_natCast,if_pos (by rw[canon_lim,canon_lim,show lm (lim m)=true from decide_eq_true hm,show lm (lim n)=true from decide_eq_true hn,decide_eq_true (by omega:(n:Int)≠0)];rfl)]
theorem div_f {a b:ByteArray} (ha:sm a=true) (hb:sm b=true) (k:Nat):Pr.nat_Div.f (k+1) a b=some (divS a b):=by
 unfold Pr.nat_Div.f divS
 rw[both_f ha hb,Option.bind_some]
 by_cases h:may2 a b=true
 ·obtain⟨h1,h2⟩:=may2_and h
  rw[if_pos h,if_pos rfl,h]
  simp only[Pr.nat_Div.j0]
  by_cases hc:numB b=0
  ·rw[if_pos (by rw[beq_iff_eq,lim_zero_len];exact hc),if_neg (by rw[hc];decide)]
   rfl
  ·rw[if_neg (by rw[beq_iff_eq,lim_zero_len];exact hc),if_pos (by rw[decide_eq_true hc];rfl)]
   have h3:=lim_sm ha h1
   have h4:=lim_sm hb h2
   have h5:=lim_le_len (Nat.div_le_self (numB a) (numB b))
   have h6:=lim_le_len (Nat.mod_le (numB a) (numB b))
   rw[divL_f h3 h4 hc,Option.bind_some,text_natB (by omega)]
   simp only[Option.bind_some]
   rw[text_natB (by omega)]
   rfl
 ·rw[if_neg h,if_neg (by decide),(Bool.not_eq_true _).mp h]
  rfl
end Go.Proofs.YtoghmeffpgbcfaaGreatDoor
end

section
namespace Go.Proofs.YtoghmeffpgbcfaaGreatDoor
theorem bext {a b:ByteArray} (h:a.data.toList=b.data.toList):a=b:=by
 obtain⟨⟨a⟩⟩:=a
 obtain⟨⟨b⟩⟩:=b
 congr 2
theorem bmk {a:ByteArray} {l:List UInt8} (h:a.data.toList=l):a=⟨l.toArray⟩:=bext (by rw[h])
def ten:List Int→Int
 | []=>0
 | x :: r=>x+10 * ten r
theorem ten_append (a b:List Int):ten (a++b)=ten a+10 ^ a.length * ten b:=by
 induction a with
 | nil=>simp[ten]
 | cons x r ih=>simp only[List.cons_append,ten,ih,List.length_cons];grind
theorem ten_snoc (a:List Int) (x:Int):ten (a ++ [x])=ten a+10 ^ a.length * x:=by rw[ten_append];simp[ten]
theorem p10 (k:Nat):(0:Int)<10 ^ k:=Int.pow_pos (by decide)
theorem p10_mono {a b:Nat} (h:a≤b):(10:Int) ^ a≤10 ^ b:=by
 obtain⟨d,rfl⟩:∃ d,b=a+d:=⟨b-a,by omega⟩
 rw[Int.pow_add]
 have h1:=p10 a
 have h2:=p10 d
 have:=Int.mul_le_mul_of_nonneg_left (show (1:Int)≤10 ^ d by omega) (Int.le_of_lt h1)
 omega
theorem ten_take_succ (l:List Int) (i:Nat):ten (l.take (i+1))=ten (l.take i)+10 ^ i * limb l i:=by
 by_cases h:i<l.length
 ·rw[take_step l i h,ten_snoc,List.length_take,Nat.min_eq_left (by omega)]
 ·rw[List.take_of_length_le (by omega),List.take_of_length_le (by omega),limb_out (by omega)];omega
def dl (s:ByteArray):List Int:=s.data.toList.reverse.map fun c=>(c.toNat:Int)-48
theorem dl_length (s:ByteArray):(dl s).length=s.size:=by
 unfold dl
 rw[List.length_map,List.length_reverse,← size_len]
def Dig (l:List Int):Prop:=∀ x∈l,0≤x∧x<10
theorem dl_dig {s:ByteArray} (h:s.data.toList.all isDig=true):Dig (dl s):=by
 intro x hx
 unfold dl at hx
 rw[List.mem_map] at hx
 obtain⟨c,hc,rfl⟩:=hx
 have:=isDig_bounds (List.all_eq_true.1 h c (List.mem_reverse.1 hc))
 omega
theorem ten_dl_list:∀ l:List UInt8,l.all isDig=true→ten (l.reverse.map fun c=>(c.toNat:Int)-48)=num l:=by
 intro l
 induction l with
 | nil=>intro _;rfl
 | cons c r ih =>
  intro h
  simp only[List.all_cons,Bool.and_eq_true] at h
  have hb:=isDig_bounds h.1
  rw[List.reverse_cons,List.map_append,ten_append,ih h.2,num_cons,List.length_map,List.length_reverse]
  simp only[List.map_cons,List.map_nil,ten,Int.natCast_add,Int.natCast_mul,Int.natCast_pow]
  have e:((c.toNat-48:Nat):Int)=(c.toNat:Int)-48:=by omega
  rw[e]
  have e2:((10:Nat):Int)=10:=rfl
  rw[e2]
  grind
theorem ten_dl {s:ByteArray} (h:s.data.toList.all isDig=true):ten (dl s)=numB s:=ten_dl_list _ h
theorem dig_limb {l:List Int} (h:Dig l) (i:Nat):0≤limb l i∧limb l i<10:=by
 unfold limb
 rw[List.getD_eq_getElem?_getD]
 cases hx:l[i]? with
 | none=>simp
 | some x=>exact h x (List.mem_of_getElem? hx)
theorem ten_lt {l:List Int} (h:Dig l):0≤ten l∧ten l<10 ^ l.length:=by
 induction l with
 | nil=>simp[ten]
 | cons x r ih =>
  have h1:=h x (by simp)
  have h2:=ih (fun y hy=>h y (by simp[hy]))
  simp only[ten,List.length_cons]
  rw[Int.pow_succ]
  omega
def mayEnd (l:List UInt8):Bool:=decide (l≠[])&&(decide (l=[48]) || decide (l.head?≠some 48))
theorem mayL_split (l:List UInt8):mayL l=(l.all isDig&&mayEnd l):=by
 unfold mayL mayEnd
 cases decide (l≠[]) <;> cases l.all isDig <;> rfl
def strip:List UInt8→List UInt8
 | []=>[]
 | [c]=>[c]
 | c :: d :: r=>if c=48 then strip (d :: r) else c :: d :: r
theorem strip_num:∀ l:List UInt8,num (strip l)=num l
 | []=>rfl
 | [c]=>rfl
 | c :: d :: r=>by
  rw[strip]
  split
  ·rename_i h
   subst h
   rw[strip_num,num_cons 48]
   simp
  ·rfl
theorem strip_may:∀ l:List UInt8,l≠[]→l.all isDig=true→mayL (strip l)=true
 | [],h,_=>absurd rfl h
 | [c],_,h=>by
  rw[mayL_split,strip,h]
  unfold mayEnd
  by_cases hc:c=48
  ·subst hc;rfl
  ·have:([c]:List UInt8).head?≠some 48:=by simpa using hc
   rw[decide_eq_true this];simp
 | c :: d :: r,_,h=>by
  rw[strip]
  split
  ·simp only[List.all_cons,Bool.and_eq_true] at h
   exact strip_may (d :: r) (by simp) (by simp only[List.all_cons,Bool.and_eq_true];exact h.2)
  ·rename_i hc
   rw[mayL_split,h]
   unfold mayEnd
   have:(c :: d :: r:List UInt8).head?≠some 48:=by simpa using hc
   rw[decide_eq_true this];simp
theorem strip_dig {l:List UInt8} (h:l≠[]) (hd:l.all isDig=true):strip l=Lib.decDigits (num l):=by
 rw[← strip_num l,dig_num (strip_may l h hd)]
theorem may_all {a:ByteArray} (h:mayB a=true):a.data.toList.all isDig=true:=mayL_all h
theorem may_ne {a:ByteArray} (h:mayB a=true):a.data.toList≠[]:=mayL_ne h
theorem may_pos {a:ByteArray} (h:mayB a=true):0<a.size:=by
 rw[size_len]
 exact List.length_pos_iff.2 (mayL_ne h)
theorem numB_inj {a b:ByteArray} (ha:mayB a=true) (hb:mayB b=true) (h:numB a=numB b):a=b:=bext (num_inj ha hb h)
theorem less_num:∀ (a b:List UInt8),a.length=b.length→a.all isDig=true→b.all isDig=true→(Op.bytesLess a b=true↔num a<num b)
 | [],[],_,_,_=>by simp[Op.bytesLess,num]
 | a :: x,b :: y,hl,ha,hb=>by
  simp only[List.all_cons,Bool.and_eq_true] at ha hb
  have h1:=isDig_bounds ha.1
  have h2:=isDig_bounds hb.1
  have hl':x.length=y.length:=by simpa using hl
  have h3:=num_lt ha.2
  have h4:=num_lt hb.2
  have ih:=less_num x y hl' ha.2 hb.2
  rw[num_cons,num_cons,hl']
  rw[hl'] at h3
  simp only[Op.bytesLess,Bool.or_eq_true,Bool.and_eq_true,decide_eq_true_eq,beq_iff_eq,UInt8.lt_iff_toNat_lt]
  rw[ih]
  generalize 10 ^ y.length=p at *
  constructor
  ·rintro (h|⟨rfl,h⟩)
   ·have h5:(a.toNat-48+1) * p≤(b.toNat-48) * p:=Nat.mul_le_mul_right _ (by omega)
    rw[Nat.add_mul] at h5
    omega
   ·omega
  ·intro h
   rcases Nat.lt_trichotomy a.toNat b.toNat with h5|h5|h5
   ·exact .inl h5
   ·exact .inr ⟨UInt8.toNat_inj.1 h5,by rw[h5] at h;omega⟩
   ·exfalso
    have h6:(b.toNat-48+1) * p≤(a.toNat-48) * p:=Nat.mul_le_mul_right _ (by omega)
    rw[Nat.add_mul] at h6
    omega
theorem num_shorter {a b:ByteArray} (ha:mayB a=true) (hb:mayB b=true) (h:a.size<b.size):numB a<numB b:=by
 have h1:=num_lt (may_all ha)
 have h0:=may_pos ha
 have hne:b.data.toList≠[48]:=by
  intro e
  have:=congrArg List.length e
  rw[← size_len] at this
  simp at this
  omega
 have h2:=num_pos (may_all hb) (may_ne hb) ((mayL_head hb).resolve_left hne)
 rw[← size_len] at h1 h2
 have h3:(10:Nat) ^ a.size≤10 ^ (b.size-1):=Nat.pow_le_pow_right (by omega) (by omega)
 unfold numB
 omega
theorem cmpI_lt {m n:Nat} (h:m<n):Lib.compareInt (m:Int) (n:Int)=-1:=cmp_lt' (by omega)
theorem cmpI_gt {m n:Nat} (h:n<m):Lib.compareInt (m:Int) (n:Int)=1:=cmp_gt' (by omega)
theorem cmpI_eq {m n:Nat} (h:m=n):Lib.compareInt (m:Int) (n:Int)=0:=cmp_eq' (by omega)
theorem cmpS_no {a b:ByteArray} (h:may2 a b=false):cmpS a b=0:=by
 unfold cmpS
 rw[h]
 rfl
theorem may2_eq {a b:ByteArray} (h1:mayB a=true) (h2:mayB b=true):may2 a b=true:=by unfold may2;rw[h1,h2];rfl
theorem may2_no1 {a b:ByteArray} (h1:¬ mayB a=true):¬ may2 a b=true:=fun h=>h1 (may2_and h).1
theorem may2_no2 {a b:ByteArray} (h1:¬ mayB b=true):¬ may2 a b=true:=fun h=>h1 (may2_and h).2
theorem natB_size (n:Nat):(natB n).size=(Lib.decDigits n).length:=by rw[size_len,natB_list]
theorem dig_len_le {n k:Nat} (h:n<10 ^ k) (hk:1≤k):(Lib.decDigits n).length≤k:=by
 by_cases h0:n=0
 ·subst h0
  rw[dig_small (by omega)]
  simpa using hk
 ·have h1:=num_pos (dig_all n) (dig_ne n) (dig_head h0)
  rw[num_dig] at h1
  have h2:10 ^ ((Lib.decDigits n).length-1)<10 ^ k:=by omega
  have:=(Nat.pow_lt_pow_iff_right (by omega:1<10)).1 h2
  omega
theorem natB_le {n:Nat} {b:ByteArray} (hb:mayB b=true) (h:n≤numB b):(natB n).size≤b.size:=by
 rw[natB_size]
 have h1:=num_lt (may_all hb)
 rw[← size_len] at h1
 exact dig_len_le (by unfold numB at h;omega) (may_pos hb)
theorem list48 {b:ByteArray} (hb:mayB b=true):(b.data.toList=[48]↔numB b=0):=by
 constructor
 ·intro h
  unfold numB
  rw[h]
  rfl
 ·intro h
  have:b=natB 0:=numB_inj hb (mayB_natB 0) (by rw[h,numB_natB])
  rw[this,natB_list,dig_small (by omega)]
  rfl
end Go.Proofs.YtoghmeffpgbcfaaGreatDoor
end

section
namespace Go.Proofs.YtoghmeffpgbcfaaGreatDoor.Pq
def errW:Option Int→Value
 | none=>.nilIface
 | some c=>.iface 0 (.int .i64 c)
theorem errW_none:errW none=.nilIface:=rfl
theorem errW_some (c:Int):errW (some c)=.iface 0 (.int .i64 c):=rfl
theorem info3:(Tryz.prog.info? 3).map (fun i=>(i.zero,i.size,i.bytes))=some (some (.int .i64 0),1,8):=by kernel_rfl
theorem info5:(Tryz.prog.info? 5).map (fun i=>(i.zero,i.size,i.bytes))=some (some (.int .u8 0),1,1):=by kernel_rfl
end Go.Proofs.YtoghmeffpgbcfaaGreatDoor.Pq
end

section
namespace Go.Proofs.YtoghmeffpgbcfaaGreatDoor.Pq
def r1_May.l0:Nat→ByteArray→Int→Option (Bool)
 | 0,_,_=>none
 | k+1,x0,x3=>if x3<(x0.size:Int) then (if 0≤x3 then (if (bt x0 x3)<48 then (some false) else (if (bt x0 x3)>57 then (some false) else (r1_May.l0 k x0 (wrap64 (x3+1))))) else (none)) else (if (x0.size:Int)>0 then (if x0.toList=([48]:List UInt8) then (some true) else (if 0<(x0.size:Int) then (some ((bt x0 0) != 48)) else (none))) else (some false))
def r1_May.f (k:Nat) (a0:ByteArray):Option (Bool):=r1_May.l0 k a0 0
set_option maxHeartbeats 8000000 in
set_option maxRecDepth 100000 in
theorem r1_May.calls (k:Nat) (a0:ByteArray) (r:Bool) (w:World) (h:r1_May.f k a0=some r) :
  Calls Tryz.prog 44 #[.string a0] w fun e w'=>e=.returned (.bool r)∧Drawn0 w w':=by
 have H:=h;unfold r1_May.f at H;clear h;have H':=Aside0.mk H;clear H;go_enter Tryz.func44,Tryz.ntmps44;go_wp2
 go_loopg [3] k (fun kq v3 w'=>∃ (x3_1:Int),v3=.int .i64 x3_1∧Aside0 (r1_May.l0 kq a0 x3_1=some r)∧Aside0 (kq≤k)∧Drawn0 w w')
 case atStart=>exact⟨(0),rl_,H',⟨Nat.le_refl _⟩,d0_⟩
 case round =>
  clear H';obtain⟨x3_1,rfl,HA,HK1,⟨m1,rfl⟩⟩:=hrel
  cases gk with
  | zero=>exact absurd HA.out (by simp[r1_May.l0])
  | succ k1 =>
   have H:=HA.out;clear HA;simp only[r1_May.l0] at H;by_cases c2:x3_1<(a0.size:Int)
   ·rw[if_pos c2] at H;have c2b0:decide (x3_1<(a0.size:Int))=true:=decide_eq_true c2;clear c2;by_cases c3:0≤x3_1
    ·rw[if_pos c3] at H;have c3b0:decide (0≤x3_1)=true:=decide_eq_true c3;clear c3;by_cases c5:(bt a0 x3_1)<48
     ·rw[if_pos c5] at H;have c5b0:decide ((bt a0 x3_1)<48)=true:=decide_eq_true c5;clear c5;obtain rfl:=Option.some.inj H;have p4:0≤(x3_1:Int):=of_decide_eq_true as_f;have q4:x3_1<(a0.size:Int):=of_decide_eq_true as_f;have hx4:=bt_at a0 x3_1;replace p4:=eq_true p4;replace q4:=eq_true q4;go_wp2
      go_ret
      exact⟨by first|rfl|(simp;done)|(simp[*];done),d0_⟩
     ·rw[if_neg c5] at H;have c5b0:decide ((bt a0 x3_1)<48)=false:=decide_eq_false c5;clear c5;by_cases c7:(bt a0 x3_1)>57
      ·rw[if_pos c7] at H;have c7b0:decide (57<(bt a0 x3_1))=true:=decide_eq_true c7;clear c7;obtain rfl:=Option.some.inj H;have p4:0≤(x3_1:Int):=of_decide_eq_true as_f;have q4:x3_1<(a0.size:Int):=of_decide_eq_true as_f;have hx4:=bt_at a0 x3_1;replace p4:=eq_true p4;replace q4:=eq_true q4;have p6:0≤(x3_1:Int):=of_decide_eq_true as_f;have q6:x3_1<(a0.size:Int):=of_decide_eq_true as_f;have hx6:=bt_at a0 x3_1;replace p6:=eq_true p6;replace q6:=eq_true q6;go_wp2
       go_ret
       exact⟨by first|rfl|(simp;done)|(simp[*];done),d0_⟩
      ·rw[if_neg c7] at H;have c7b0:decide (57<(bt a0 x3_1))=false:=decide_eq_false c7;clear c7;have H':=Aside0.mk H;clear H;have p4:0≤(x3_1:Int):=of_decide_eq_true as_f;have q4:x3_1<(a0.size:Int):=of_decide_eq_true as_f;have hx4:=bt_at a0 x3_1;replace p4:=eq_true p4;replace q4:=eq_true q4;have p6:0≤(x3_1:Int):=of_decide_eq_true as_f;have q6:x3_1<(a0.size:Int):=of_decide_eq_true as_f;have hx6:=bt_at a0 x3_1;replace p6:=eq_true p6;replace q6:=eq_true q6;go_wp2
       go_roundg k1
       case measure=>have:=HK1.out;omega
       case rel=>exact⟨(wrap64 (x3_1+1)),rl_,H',⟨by have:=HK1.out;omega⟩,d0_⟩
    ·rw[if_neg c3] at H;exact absurd H (by simp)
   ·rw[if_neg c2] at H;have c2b0:decide (x3_1<(a0.size:Int))=false:=decide_eq_false c2;clear c2;by_cases c8:(a0.size:Int)>0
    ·rw[if_pos c8] at H;have c8b0:decide (0<(a0.size:Int))=true:=decide_eq_true c8;have c8b1:decide (0<a0.size)=true:=decide_eq_true (by omega);clear c8;by_cases c9:a0.toList=([48]:List UInt8)
     ·rw[if_pos c9] at H;have c9b0:(a0.toList == ([48]:List UInt8))=true:=beq_iff_eq.mpr c9;have c9b1:(a0.toList != ([48]:List UInt8))=false:=bne_eq_false_iff_eq.mpr c9;clear c9;obtain rfl:=Option.some.inj H;go_wp2
      go_ret
      exact⟨by first|rfl|(simp;done)|(simp[*];done),d0_⟩
     ·rw[if_neg c9] at H;have c9b0:(a0.toList == ([48]:List UInt8))=false:=beq_eq_false_iff_ne.mpr c9;have c9b1:(a0.toList != ([48]:List UInt8))=true:=bne_iff_ne.mpr c9;by_cases c10:0<(a0.size:Int)
      ·rw[if_pos c10] at H;have c10b0:decide (0<(a0.size:Int))=true:=decide_eq_true c10;have c10b1:decide (0<a0.size)=true:=decide_eq_true (by omega);clear c10;obtain rfl:=Option.some.inj H;have p11:0≤(0:Int):=(by omega);have q11:0<a0.size:=(by have:(0:Int)<(a0.size:Int):=of_decide_eq_true as_f;omega);have hx11:∀ h:0<a0.size,((a0[0]'h).toNat:Int)=bt a0 0:=bt_at a0 0;clear p11;have qi11:(0<(a0.size:Int))=True:=eq_true (of_decide_eq_true as_f);replace q11:=eq_true q11;go_wp2
       go_ret
       exact⟨by first|rfl|(simp;done)|(simp[*];done),d0_⟩
      ·rw[if_neg c10] at H;exact absurd H (by simp)
    ·rw[if_neg c8] at H;have c8b0:decide (0<(a0.size:Int))=false:=decide_eq_false c8;have c8b1:decide (0<a0.size)=false:=decide_eq_false (by omega);clear c8;obtain rfl:=Option.some.inj H;go_wp2
     go_ret
     exact⟨by first|rfl|(simp;done)|(simp[*];done),d0_⟩
def r1_Of.l0:Nat→Int→ByteArray→Option (ByteArray)
 | 0,_,_=>none
 | k+1,x0,x3=>if x0>9 then (if 0≤(Int.tmod x0 10) then (if (Int.tmod x0 10)≤(wrap64 ((Int.tmod x0 10)+1)) then (if (wrap64 ((Int.tmod x0 10)+1))≤10 then (if ((⟨#[48,49,50,51,52,53,54,55,56,57]⟩:ByteArray).extract ((Int.tmod x0 10):Int).toNat ((wrap64 ((Int.tmod x0 10)+1)):Int).toNat).size+x3.size≤9223372036854775807 then (r1_Of.l0 k (wrap64 (Int.tdiv x0 10)) (((⟨#[48,49,50,51,52,53,54,55,56,57]⟩:ByteArray).extract ((Int.tmod x0 10):Int).toNat ((wrap64 ((Int.tmod x0 10)+1)):Int).toNat)++x3)) else (none)) else (none)) else (none)) else (none)) else (if 0≤x0 then (if x0≤(wrap64 (x0+1)) then (if (wrap64 (x0+1))≤10 then (if ((⟨#[48,49,50,51,52,53,54,55,56,57]⟩:ByteArray).extract (x0:Int).toNat ((wrap64 (x0+1)):Int).toNat).size+x3.size≤9223372036854775807 then (some (((⟨#[48,49,50,51,52,53,54,55,56,57]⟩:ByteArray).extract (x0:Int).toNat ((wrap64 (x0+1)):Int).toNat)++x3)) else (none)) else (none)) else (none)) else (none))
def r1_Of.f (k:Nat) (a0:Int):Option (ByteArray):=if a0<0 then (some (⟨#[]⟩:ByteArray)) else (r1_Of.l0 k a0 (⟨#[]⟩:ByteArray))
set_option maxHeartbeats 8000000 in
set_option maxRecDepth 100000 in
theorem r1_Of.calls (k:Nat) (a0:Int) (r:ByteArray) (w:World) (h:r1_Of.f k a0=some r) :
  Calls Tryz.prog 36 #[.int .i64 a0] w fun e w'=>e=.returned (.string r)∧Drawn0 w w':=by
 have H:=h;unfold r1_Of.f at H;clear h;by_cases c2:a0<0
 ·rw[if_pos c2] at H;have c2b0:decide (a0<0)=true:=decide_eq_true c2;clear c2;obtain rfl:=Option.some.inj H;go_enter Tryz.func36,Tryz.ntmps36;go_wp2
  go_ret
  exact⟨by first|rfl|(simp;done)|(simp[*];done),d0_⟩
 ·rw[if_neg c2] at H;have c2b0:decide (a0<0)=false:=decide_eq_false c2;clear c2;have H':=Aside0.mk H;clear H;go_enter Tryz.func36,Tryz.ntmps36;go_wp2
  go_loopg [0,3] k (fun kq v0 v3 w'=>∃ (x0_1:Int) (x3_1:ByteArray),v0=.int .i64 x0_1∧v3=.string x3_1∧Aside0 (r1_Of.l0 kq x0_1 x3_1=some r)∧Aside0 (kq≤k)∧Drawn0 w w')
  case atStart=>exact⟨(a0),((⟨#[]⟩:ByteArray)),rl_,rl_,H',⟨Nat.le_refl _⟩,d0_⟩
  case round =>
   clear H';(try clear c2);(try clear c2b0);(try clear p2);obtain⟨x0_1,x3_1,rfl,rfl,HA,HK1,⟨m1,rfl⟩⟩:=hrel
   cases gk with
   | zero=>exact absurd HA.out (by simp[r1_Of.l0])
   | succ k1 =>
    have H:=HA.out;clear HA;simp only[r1_Of.l0] at H;by_cases c3:x0_1>9
    ·rw[if_pos c3] at H;have c3b0:decide (9<x0_1)=true:=decide_eq_true c3;clear c3;obtain⟨ji4,hji4⟩:∃ j_:Int,(Int.tmod x0_1 10)=j_:=⟨_,rfl⟩;(first|rw[hji4] at H|simp only[hji4] at H);by_cases c5:0≤(ji4)
     ·rw[if_pos c5] at H;have c5b0:=eq_true c5;have c5b1:decide (0≤(ji4))=true:=decide_eq_true c5;clear c5;by_cases c6:(ji4)≤(wrap64 ((ji4)+1))
      ·rw[if_pos c6] at H;have c6b0:=eq_true c6;have c6b1:decide ((ji4)≤(wrap64 ((ji4)+1)))=true:=decide_eq_true c6
       have c6b1w:decide ((ji4)≤(IntKind.i64.wrap ((ji4)+1)))=true:=by simp only[i64_w];exact c6b1
       by_cases c7:(wrap64 ((ji4)+1))≤10
       ·rw[if_pos c7] at H;have c7b0:=eq_true c7;have c7b1:decide ((wrap64 ((ji4)+1))≤10)=true:=decide_eq_true c7
        have c7b1w:decide ((IntKind.i64.wrap ((ji4)+1))≤10)=true:=by simp only[i64_w];exact c7b1
        by_cases c8:((⟨#[48,49,50,51,52,53,54,55,56,57]⟩:ByteArray).extract ((ji4):Int).toNat ((wrap64 ((ji4)+1)):Int).toNat).size+x3_1.size≤9223372036854775807
        ·rw[if_pos c8] at H;have c8b0:=eq_true c8;have c8b1:decide (((⟨#[48,49,50,51,52,53,54,55,56,57]⟩:ByteArray).extract ((ji4):Int).toNat ((wrap64 ((ji4)+1)):Int).toNat).size+x3_1.size≤9223372036854775807)=true:=decide_eq_true c8
         have c8b1w:decide (((⟨#[48,49,50,51,52,53,54,55,56,57]⟩:ByteArray).extract ((ji4):Int).toNat ((IntKind.i64.wrap ((ji4)+1)):Int).toNat).size+x3_1.size≤9223372036854775807)=true:=by simp only[i64_w];exact c8b1
         try have c8b2:(9223372036854775807<((⟨#[48,49,50,51,52,53,54,55,56,57]⟩:ByteArray).extract ((ji4):Int).toNat ((wrap64 ((ji4)+1)):Int).toNat).size+x3_1.size)=False:=eq_false (Nat.not_lt.2 c8)
         have H':=Aside0.mk H;clear H;go_wp2
         go_roundg k1
         case measure=>have:=HK1.out;omega
         case rel=>exact⟨(wrap64 (Int.tdiv x0_1 10)),(((⟨#[48,49,50,51,52,53,54,55,56,57]⟩:ByteArray).extract ((ji4):Int).toNat ((wrap64 ((ji4)+1)):Int).toNat)++x3_1),rl_,(by first|rfl|(simp;done)|(simp only[← hji4] <;> (first|rfl|simp))|(simp[*];done)),H',⟨by have:=HK1.out;omega⟩,d0_⟩
        ·rw[if_neg c8] at H;exact absurd H (by simp)
       ·rw[if_neg c7] at H;exact absurd H (by simp)
      ·rw[if_neg c6] at H;exact absurd H (by simp)
     ·rw[if_neg c5] at H;exact absurd H (by simp)
    ·rw[if_neg c3] at H;have c3b0:decide (9<x0_1)=false:=decide_eq_false c3;clear c3;by_cases c9:0≤x0_1
     ·rw[if_pos c9] at H;have c9b0:=eq_true c9;have c9b1:decide (0≤x0_1)=true:=decide_eq_true c9;clear c9;by_cases c10:x0_1≤(wrap64 (x0_1+1))
      ·rw[if_pos c10] at H;have c10b0:=eq_true c10;have c10b1:decide (x0_1≤(wrap64 (x0_1+1)))=true:=decide_eq_true c10
       have c10b1w:decide (x0_1≤(IntKind.i64.wrap (x0_1+1)))=true:=by simp only[i64_w];exact c10b1
       by_cases c11:(wrap64 (x0_1+1))≤10
       ·rw[if_pos c11] at H;have c11b0:=eq_true c11;have c11b1:decide ((wrap64 (x0_1+1))≤10)=true:=decide_eq_true c11
        have c11b1w:decide ((IntKind.i64.wrap (x0_1+1))≤10)=true:=by simp only[i64_w];exact c11b1
        by_cases c12:((⟨#[48,49,50,51,52,53,54,55,56,57]⟩:ByteArray).extract (x0_1:Int).toNat ((wrap64 (x0_1+1)):Int).toNat).size+x3_1.size≤9223372036854775807
        ·rw[if_pos c12] at H;have c12b0:=eq_true c12;have c12b1:decide (((⟨#[48,49,50,51,52,53,54,55,56,57]⟩:ByteArray).extract (x0_1:Int).toNat ((wrap64 (x0_1+1)):Int).toNat).size+x3_1.size≤9223372036854775807)=true:=decide_eq_true c12
         have c12b1w:decide (((⟨#[48,49,50,51,52,53,54,55,56,57]⟩:ByteArray).extract (x0_1:Int).toNat ((IntKind.i64.wrap (x0_1+1)):Int).toNat).size+x3_1.size≤9223372036854775807)=true:=by simp only[i64_w];exact c12b1
         try have c12b2:(9223372036854775807<((⟨#[48,49,50,51,52,53,54,55,56,57]⟩:ByteArray).extract (x0_1:Int).toNat ((wrap64 (x0_1+1)):Int).toNat).size+x3_1.size)=False:=eq_false (Nat.not_lt.2 c12)
         obtain rfl:=Option.some.inj H;go_wp2
         go_ret
         exact⟨by first|rfl|(simp;done)|(simp[*];done),d0_⟩
        ·rw[if_neg c12] at H;exact absurd H (by simp)
       ·rw[if_neg c11] at H;exact absurd H (by simp)
      ·rw[if_neg c10] at H;exact absurd H (by simp)
     ·rw[if_neg c9] at H;exact absurd H (by simp)
def r1_Cmp.j0:Nat→ByteArray→ByteArray→Bool→Option (Int)
 | 0,_,_,_=>none
 | k+1,x0,x1,x17=>if x17=true then (some 0) else (if (x0.size:Int)<(x1.size:Int) then (some (-1)) else (if (x0.size:Int)=(x1.size:Int) then (if (Op.bytesLess x0.toList x1.toList)=true then (some (-1)) else (some 1)) else (some 1)))
def r1_Cmp.f (k:Nat) (a0:ByteArray) (a1:ByteArray):Option (Int):=(r1_May.f k a0).bind fun t101=>(if t101=true then ((r1_May.f k a1).bind fun t102=>(if t102=true then (r1_Cmp.j0 k a0 a1 (a0.toList == a1.toList)) else (r1_Cmp.j0 k a0 a1 true))) else (r1_Cmp.j0 k a0 a1 true))
set_option maxHeartbeats 8000000 in
set_option maxRecDepth 100000 in
theorem r1_Cmp.calls (k:Nat) (a0:ByteArray) (a1:ByteArray) (r:Int) (w:World) (h:r1_Cmp.f k a0 a1=some r) :
  Calls Tryz.prog 45 #[.string a0,.string a1] w fun e w'=>e=.returned (.int .i64 r)∧Drawn0 w w':=by
 have H:=h;unfold r1_Cmp.f at H;clear h;have HC3:=Aside0.mk H;clear H;go_enter Tryz.func45,Tryz.ntmps45
 go_upto_region 1 with (fail)
 go_cut [17] (fun v17 wc=>∃ (kq:Nat) (x17_2:Bool),v17=.bool x17_2∧Aside0 (r1_Cmp.j0 kq a0 a1 x17_2=some r)∧Aside0 (kq≤k)∧Drawn0 w wc)
 case first =>
  have H:=HC3.out;clear HC3;obtain⟨t101,A4,H⟩:=bi_ H;by_cases c5:t101=true
  ·subst c5;rw[if_pos rfl] at H;obtain⟨t102,A6,H⟩:=bi_ H;by_cases c7:t102=true
   ·subst c7;rw[if_pos rfl] at H;have H':=Aside0.mk H;clear H
    go_wp2_with (first|(refine gl_ 6 Tryz.func44 #[.string a0] ?_;refine mo_ (r1_May.calls k a0 true _ A4.out) ?_;rintro w' ⟨nd,rfl⟩)|(go_at_call 44;(with_reducible refine(r1_May.calls k a1 true _ A6.out).mono ?_);rintro e w' ⟨rfl,⟨nd,rfl⟩⟩))
    go_meet
    case rel=>exact⟨_,((a0.toList == a1.toList)),rl_,H',⟨by first|omega|exact Nat.le_refl _⟩,d0_⟩
   ·replace c7:=Bool.eq_false_iff.mpr c7;subst c7;rw[if_neg nf_] at H;have H':=Aside0.mk H;clear H
    go_wp2_with (first|(refine gl_ 6 Tryz.func44 #[.string a0] ?_;refine mo_ (r1_May.calls k a0 true _ A4.out) ?_;rintro w' ⟨nd,rfl⟩)|(go_at_call 44;(with_reducible refine(r1_May.calls k a1 false _ A6.out).mono ?_);rintro e w' ⟨rfl,⟨nd,rfl⟩⟩))
    go_meet
    case rel=>exact⟨_,(true),rl_,H',⟨by first|omega|exact Nat.le_refl _⟩,d0_⟩
  ·replace c5:=Bool.eq_false_iff.mpr c5;subst c5;rw[if_neg nf_] at H;have H':=Aside0.mk H;clear H
   go_wp2_with (first|(refine gl_ 6 Tryz.func44 #[.string a0] ?_;refine mo_ (r1_May.calls k a0 false _ A4.out) ?_;rintro w' ⟨nd,rfl⟩))
   go_meet
   case rel=>exact⟨_,(true),rl_,H',⟨by first|omega|exact Nat.le_refl _⟩,d0_⟩
 case rest =>
  clear HC3;(try clear p2);(try clear c4);(try clear c5);(try clear c7);obtain⟨kq,x17_2,rfl,HA,HJ2,⟨mc2,rfl⟩⟩:=hcut
  cases kq with
  | zero=>exact absurd HA.out (by simp[r1_Cmp.j0])
  | succ kj2 =>
   have H:=HA.out;clear HA;simp only[r1_Cmp.j0] at H;by_cases c8:x17_2=true
   ·subst c8;rw[if_pos rfl] at H;obtain rfl:=Option.some.inj H;go_wp2
    go_ret
    exact⟨by first|rfl|(simp;done)|(simp[*];done),d0_⟩
   ·replace c8:=Bool.eq_false_iff.mpr c8;subst c8;rw[if_neg nf_] at H;by_cases c9:(a0.size:Int)<(a1.size:Int)
    ·rw[if_pos c9] at H;have c9b0:decide ((a0.size:Int)<(a1.size:Int))=true:=decide_eq_true c9;have c9b1:decide (a0.size<a1.size)=true:=decide_eq_true (Int.ofNat_lt.mp c9);clear c9;obtain rfl:=Option.some.inj H;go_wp2
     go_ret
     exact⟨by first|rfl|(simp;done)|(simp[*];done),d0_⟩
    ·rw[if_neg c9] at H;have c9b0:decide ((a0.size:Int)<(a1.size:Int))=false:=decide_eq_false c9;have c9b1:decide (a0.size<a1.size)=false:=decide_eq_false (fun h=>c9 (Int.ofNat_lt.mpr h));clear c9;by_cases c10:(a0.size:Int)=(a1.size:Int)
     ·rw[if_pos c10] at H;have c10b0:((a0.size:Int) == (a1.size:Int))=true:=beq_iff_eq.mpr c10;have c10b1:((a0.size:Int) != (a1.size:Int))=false:=bne_eq_false_iff_eq.mpr c10
      have c10b2:(a0.size == a1.size)=true:=by first|simpa using c10|(simp at c10 ⊢;omega)
      clear c10;by_cases c11:(Op.bytesLess a0.toList a1.toList)=true
      ·rw[if_pos c11] at H;have c11b0:(Op.bytesLess a0.toList a1.toList)=true:=c11;clear c11;obtain rfl:=Option.some.inj H;go_wp2
       go_ret
       exact⟨by first|rfl|(simp;done)|(simp[*];done),d0_⟩
      ·rw[if_neg c11] at H
       have c11b0:(Op.bytesLess a0.toList a1.toList)=false:=by simpa using c11
       clear c11;obtain rfl:=Option.some.inj H;go_wp2
       go_ret
       exact⟨by first|rfl|(simp;done)|(simp[*];done),d0_⟩
     ·rw[if_neg c10] at H;have c10b0:((a0.size:Int) == (a1.size:Int))=false:=beq_eq_false_iff_ne.mpr c10;have c10b1:((a0.size:Int) != (a1.size:Int))=true:=bne_iff_ne.mpr c10
      have c10b2:(a0.size == a1.size)=false:=by first|simpa using c10|(simp at c10 ⊢;omega)
      obtain rfl:=Option.some.inj H;go_wp2
      go_ret
      exact⟨by first|rfl|(simp;done)|(simp[*];done),d0_⟩
def r1_at.f (a0:ByteArray) (a1:Int):Option (Int):=if a1≥(a0.size:Int) then (some 0) else (if 0≤(wrap64 ((wrap64 ((a0.size:Int)-1))-a1)) then (if (wrap64 ((wrap64 ((a0.size:Int)-1))-a1))<(a0.size:Int) then (some (((bt a0 (wrap64 ((wrap64 ((a0.size:Int)-1))-a1)))-48) % 256)) else (none)) else (none))
set_option maxHeartbeats 8000000 in
set_option maxRecDepth 100000 in
theorem r1_at.calls (a0:ByteArray) (a1:Int) (r:Int) (w:World) (h:r1_at.f a0 a1=some r) :
  Calls Tryz.prog 115 #[.string a0,.int .i64 a1] w fun e w'=>e=.returned (.int .i64 r)∧Drawn0 w w':=by
 have H:=h;unfold r1_at.f at H;clear h;by_cases c3:a1≥(a0.size:Int)
 ·rw[if_pos c3] at H;have c3b0:decide ((a0.size:Int)≤a1)=true:=decide_eq_true c3;clear c3;obtain rfl:=Option.some.inj H;go_enter Tryz.func115,Tryz.ntmps115;go_wp2
  go_ret
  exact⟨by first|rfl|(simp;done)|(simp[*];done),d0_⟩
 ·rw[if_neg c3] at H;have c3b0:decide ((a0.size:Int)≤a1)=false:=decide_eq_false c3;clear c3;obtain⟨ji4,hji4⟩:∃ j_:Int,(wrap64 ((wrap64 ((a0.size:Int)-1))-a1))=j_:=⟨_,rfl⟩;(first|rw[hji4] at H|simp only[hji4] at H);have hji4w:(IntKind.i64.wrap ((wrap64 ((a0.size:Int)-1))-a1))=ji4:=(i64_w _).trans hji4;by_cases c5:0≤(ji4)
  ·rw[if_pos c5] at H;have c5b0:decide (0≤(ji4))=true:=decide_eq_true c5;clear c5;by_cases c6:(ji4)<(a0.size:Int)
   ·rw[if_pos c6] at H;have c6b0:decide ((ji4)<(a0.size:Int))=true:=decide_eq_true c6;clear c6;obtain rfl:=Option.some.inj H;have p7:0≤((ji4):Int):=of_decide_eq_true as_f;have q7:(ji4)<(a0.size:Int):=of_decide_eq_true as_f;have hx7:=bt_at a0 (ji4);replace p7:=eq_true p7;replace q7:=eq_true q7;go_enter Tryz.func115,Tryz.ntmps115;go_wp2
    go_ret
    exact⟨by first|rfl|(simp;done)|(simp only[← hji4] <;> (first|rfl|simp))|(simp[*];done),d0_⟩
   ·rw[if_neg c6] at H;exact absurd H (by simp)
  ·rw[if_neg c5] at H;exact absurd H (by simp)
def r1_trim.l0:Nat→ByteArray→Int→Option (ByteArray)
 | 0,_,_=>none
 | k+1,x0,x3=>if (wrap64 (x3+1))<(x0.size:Int) then (if 0≤x3 then (if x3<(x0.size:Int) then (if (bt x0 x3)=48 then (r1_trim.l0 k x0 (wrap64 (x3+1))) else (if x3≤(x0.size:Int) then (some (x0.extract (x3:Int).toNat x0.size)) else (none))) else (none)) else (none)) else (if 0≤x3 then (if x3≤(x0.size:Int) then (some (x0.extract (x3:Int).toNat x0.size)) else (none)) else (none))
def r1_trim.f (k:Nat) (a0:ByteArray):Option (ByteArray):=r1_trim.l0 k a0 0
set_option maxHeartbeats 8000000 in
set_option maxRecDepth 100000 in
theorem r1_trim.calls (k:Nat) (a0:ByteArray) (r:ByteArray) (w:World) (h:r1_trim.f k a0=some r) :
  Calls Tryz.prog 116 #[.string a0] w fun e w'=>e=.returned (.string r)∧Drawn0 w w':=by
 have H:=h;unfold r1_trim.f at H;clear h;have H':=Aside0.mk H;clear H;go_enter Tryz.func116,Tryz.ntmps116;go_wp2
 go_loopg [3] k (fun kq v3 w'=>∃ (x3_1:Int),v3=.int .i64 x3_1∧Aside0 (r1_trim.l0 kq a0 x3_1=some r)∧Aside0 (kq≤k)∧Drawn0 w w')
 case atStart=>exact⟨(0),rl_,H',⟨Nat.le_refl _⟩,d0_⟩
 case round =>
  clear H';(try clear c1);obtain⟨x3_1,rfl,HA,HK1,⟨m1,rfl⟩⟩:=hrel
  cases gk with
  | zero=>exact absurd HA.out (by simp[r1_trim.l0])
  | succ k1 =>
   have H:=HA.out;clear HA;simp only[r1_trim.l0] at H;by_cases c2:(wrap64 (x3_1+1))<(a0.size:Int)
   ·rw[if_pos c2] at H;have c2b0:decide ((wrap64 (x3_1+1))<(a0.size:Int))=true:=decide_eq_true c2
    have c2b0w:decide ((IntKind.i64.wrap (x3_1+1))<(a0.size:Int))=true:=by simp only[i64_w];exact c2b0
    clear c2;by_cases c3:0≤x3_1
    ·rw[if_pos c3] at H;have c3b0:decide (0≤x3_1)=true:=decide_eq_true c3;clear c3;by_cases c4:x3_1<(a0.size:Int)
     ·rw[if_pos c4] at H;have c4b0:decide (x3_1<(a0.size:Int))=true:=decide_eq_true c4;clear c4;by_cases c6:(bt a0 x3_1)=48
      ·rw[if_pos c6] at H;have c6b0:((bt a0 x3_1) == 48)=true:=beq_iff_eq.mpr c6;have c6b1:((bt a0 x3_1) != 48)=false:=bne_eq_false_iff_eq.mpr c6;clear c6;have H':=Aside0.mk H;clear H;have p5:0≤(x3_1:Int):=of_decide_eq_true as_f;have q5:x3_1<(a0.size:Int):=of_decide_eq_true as_f;have hx5:=bt_at a0 x3_1;replace p5:=eq_true p5;replace q5:=eq_true q5;go_wp2
       go_roundg k1
       case measure=>have:=HK1.out;omega
       case rel=>exact⟨(wrap64 (x3_1+1)),rl_,H',⟨by have:=HK1.out;omega⟩,d0_⟩
      ·rw[if_neg c6] at H;have c6b0:((bt a0 x3_1) == 48)=false:=beq_eq_false_iff_ne.mpr c6;have c6b1:((bt a0 x3_1) != 48)=true:=bne_iff_ne.mpr c6;have c7b0:=eq_true (of_decide_eq_true as_f:0≤x3_1);by_cases c8:x3_1≤(a0.size:Int)
       ·rw[if_pos c8] at H;have c8b0:=eq_true c8;have c8b1:decide (x3_1≤(a0.size:Int))=true:=decide_eq_true c8;clear c8;obtain rfl:=Option.some.inj H;have p5:0≤(x3_1:Int):=of_decide_eq_true as_f;have q5:x3_1<(a0.size:Int):=of_decide_eq_true as_f;have hx5:=bt_at a0 x3_1;replace p5:=eq_true p5;replace q5:=eq_true q5;go_wp2
        go_ret
        exact⟨by first|rfl|(simp;done)|(simp[*];done),d0_⟩
       ·rw[if_neg c8] at H;exact absurd H (by simp)
     ·rw[if_neg c4] at H;exact absurd H (by simp)
    ·rw[if_neg c3] at H;exact absurd H (by simp)
   ·rw[if_neg c2] at H;have c2b0:decide ((wrap64 (x3_1+1))<(a0.size:Int))=false:=decide_eq_false c2
    have c2b0w:decide ((IntKind.i64.wrap (x3_1+1))<(a0.size:Int))=false:=by simp only[i64_w];exact c2b0
    clear c2;by_cases c9:0≤x3_1
    ·rw[if_pos c9] at H;have c9b0:=eq_true c9;have c9b1:decide (0≤x3_1)=true:=decide_eq_true c9;clear c9;by_cases c10:x3_1≤(a0.size:Int)
     ·rw[if_pos c10] at H;have c10b0:=eq_true c10;have c10b1:decide (x3_1≤(a0.size:Int))=true:=decide_eq_true c10;clear c10;obtain rfl:=Option.some.inj H;go_wp2
      go_ret
      exact⟨by first|rfl|(simp;done)|(simp[*];done),d0_⟩
     ·rw[if_neg c10] at H;exact absurd H (by simp)
    ·rw[if_neg c9] at H;exact absurd H (by simp)
end Go.Proofs.YtoghmeffpgbcfaaGreatDoor.Pq
end

section
namespace Go.Proofs.YtoghmeffpgbcfaaGreatDoor.Pq
mutual
def r1_Add.j0:Nat→ByteArray→ByteArray→Bool→Option (ByteArray)
 | 0,_,_,_=>none
 | k+1,x0,x1,x17=>if x17=true then (some (⟨#[]⟩:ByteArray)) else (if 0≤(wrap64 ((mx (x0.size:Int) (x1.size:Int))+1)) then (if (wrap64 ((mx (x0.size:Int) (x1.size:Int))+1):Int).toNat≤281474976710656 then (r1_Add.l0 k x0 x1 (wrap64 ((mx (x0.size:Int) (x1.size:Int))+1)) (List.replicate (wrap64 ((mx (x0.size:Int) (x1.size:Int))+1):Int).toNat 0) 0 0) else (none)) else (none))
def r1_Add.l0:Nat→ByteArray→ByteArray→Int→List Int→Int→Int→Option (ByteArray)
 | 0,_,_,_,_,_,_=>none
 | k+1,x0,x1,x5,x6,x7,x8=>if x8<x5 then ((r1_at.f x0 x8).bind fun t110=>((r1_at.f x1 x8).bind fun t111=>(if 0≤(wrap64 ((wrap64 (x5-1))-x8)) then (if (wrap64 ((wrap64 (x5-1))-x8))<(x6.length:Int) then (r1_Add.l0 k x0 x1 x5 (x6.set ((wrap64 ((wrap64 (x5-1))-x8)):Int).toNat ((wrap64 (48+(Int.tmod (wrap64 ((wrap64 (t110+t111))+x7)) 10))) % 256)) (wrap64 (Int.tdiv (wrap64 ((wrap64 (t110+t111))+x7)) 10)) (wrap64 (x8+1))) else (none)) else (none)))) else ((r1_trim.f k (strOfNums x6)).bind fun t113=>(some t113))
end
def r1_Add.f (k:Nat) (a0:ByteArray) (a1:ByteArray):Option (ByteArray):=(r1_May.f k a0).bind fun t105=>(if t105=true then ((r1_May.f k a1).bind fun t106=>(r1_Add.j0 k a0 a1 (!t106))) else (r1_Add.j0 k a0 a1 true))
set_option maxHeartbeats 8000000 in
set_option maxRecDepth 100000 in
theorem r1_Add.calls (k:Nat) (a0:ByteArray) (a1:ByteArray) (r:ByteArray) (w:World) (h:r1_Add.f k a0 a1=some r) :
  Calls Tryz.prog 71 #[.string a0,.string a1] w fun e w'=>e=.returned (.string r)∧Below w.heap.size w w':=by
 have HB:=Aside0.mk (Below.refl w.heap.size w);have H:=h;unfold r1_Add.f at H;clear h;have HC3:=Aside0.mk H;clear H;go_enter Tryz.func71,Tryz.ntmps71
 go_upto_region 1 with (fail)
 go_cut [17] (fun v17 wc=>∃ (kq:Nat) (x17_2:Bool),v17=.bool x17_2∧Aside0 (r1_Add.j0 kq a0 a1 x17_2=some r)∧Aside0 (kq≤k)∧Aside0 (Below w.heap.size w wc))
 case first =>
  have H:=HC3.out;clear HC3;obtain⟨t105,A4,H⟩:=bi_ H;by_cases c5:t105=true
  ·subst c5;rw[if_pos rfl] at H;obtain⟨t106,A6,H⟩:=bi_ H;have H':=Aside0.mk H;clear H
   go_wp2_with (first|(refine gl_ 11 Tryz.func44 #[.string a0] ?_;refine mo_ (r1_May.calls k a0 true _ A4.out) ?_;rintro w' ⟨nd,rfl⟩)|(go_at_call 44;(with_reducible refine(r1_May.calls k a1 t106 _ A6.out).mono ?_);rintro e w' ⟨rfl,⟨nd,rfl⟩⟩))
   go_meet
   case rel=>exact⟨_,(!t106),rl_,H',⟨by first|omega|exact Nat.le_refl _⟩,⟨b_ HB.out⟩⟩
  ·replace c5:=Bool.eq_false_iff.mpr c5;subst c5;rw[if_neg nf_] at H;have H':=Aside0.mk H;clear H
   go_wp2_with (first|(refine gl_ 11 Tryz.func44 #[.string a0] ?_;refine mo_ (r1_May.calls k a0 false _ A4.out) ?_;rintro w' ⟨nd,rfl⟩))
   go_meet
   case rel=>exact⟨_,(true),rl_,H',⟨by first|omega|exact Nat.le_refl _⟩,⟨b_ HB.out⟩⟩
 case rest =>
  clear HC3;(try clear p2);(try clear c4);(try clear c5);obtain⟨kq,x17_2,rfl,HA,HJ2,HB⟩:=hcut
  cases kq with
  | zero=>exact absurd HA.out (by simp[r1_Add.j0])
  | succ kj2 =>
   have H:=HA.out;clear HA;simp only[r1_Add.j0] at H;by_cases c7:x17_2=true
   ·subst c7;rw[if_pos rfl] at H;obtain rfl:=Option.some.inj H;go_wp2
    go_ret
    exact⟨er_,b_ HB.out⟩
   ·replace c7:=Bool.eq_false_iff.mpr c7;subst c7;rw[if_neg nf_] at H;obtain⟨ji8,hji8⟩:∃ j_:Int,(mx (a0.size:Int) (a1.size:Int))=j_:=⟨_,rfl⟩;(first|rw[hji8] at H|simp only[hji8] at H);have hji8_:(if (a0.size:Int)<(a1.size:Int) then (a1.size:Int) else (a0.size:Int))=ji8:=hji8;have hji8_n:(if a0.size<a1.size then (a1.size:Int) else (a0.size:Int))=ji8:=(ite_congr (propext Int.ofNat_lt.symm) (fun _=>rfl) (fun _=>rfl)).trans hji8_;obtain⟨ji9,hji9⟩:∃ j_:Int,(wrap64 ((ji8)+1))=j_:=⟨_,rfl⟩;(first|rw[hji9] at H|simp only[hji9] at H);have hji9w:(IntKind.i64.wrap ((ji8)+1))=ji9:=(i64_w _).trans hji9;by_cases c10:0≤(ji9)
    ·rw[if_pos c10] at H;have c10b0:=eq_true c10;have c10b1:decide (0≤(ji9))=true:=decide_eq_true c10;clear c10;by_cases c11:(ji9:Int).toNat≤281474976710656
     ·rw[if_pos c11] at H;have c11b0:=eq_true c11;have c11b1:decide ((ji9:Int).toNat≤281474976710656)=true:=decide_eq_true c11;clear c11;obtain⟨y107,hy107⟩:∃ y_:List Int,y_ = (List.replicate (ji9:Int).toNat 0):=⟨_,rfl⟩
      replace H:(r1_Add.l0 kj2 a0 a1 ji9 y107 0 0)=some r:=by first|(rw[hy107];with_reducible exact H)|(have H2_:=(Option.bind_some _ _).symm.trans H;rw[hy107];with_reducible exact H2_)|(have H2_:=(Option.bind_some _ _).symm.trans H;with_reducible exact H2_)|with_reducible exact H|(rw[hy107];exact H)|exact H
      have Ny107:=Aside0.mk hy107;clear hy107;have H':=Aside0.mk H;clear H
      go_wp2_with (first|((with_reducible refine gate_dst (N:=25) rfl ?_);refine Kd.R_make (Kd.int .u8) _ 5 rfl (N:=25) rfl 78 _ _ rfl ji9 (by first|rfl|(rw[← hji9];rfl)) (by first|rfl|(rw[← hji9];rfl)) Tryz.underlying78 (.int .u8 0) 1 info5 rfl (by decide) (by omega) 0 (ok:=fun _=>True) (okp:=fun _=>True) rfl (fun _ hk=>hk) trivial (of_decide_eq_true as_f) (by have h_:=(of_decide_eq_true as_f:ji9.toNat≤281474976710656);omega) (Below.refl _ _) (Nat.le_refl _) ?_;intro v108 w12 ho13 hb hg_ hnew_;clear hg_ hnew_;(first|rw[← Ny107.out] at ho13|(simp only[Int.reduceToNat] at ho13;rw[← Ny107.out] at ho13));have HO109:=Aside0.mk (Kd.R_lower ho13 (below_size (b_ HB.out)));replace HB:=bs_ HB hb;clear hb ho13))
      go_loopg [7,8] kj2 (fun kq v7 v8 w'=>∃ (x6_2:List Int) (x7_2:Int) (x8_2:Int),v7=.int .i64 x7_2∧v8=.int .i64 x8_2∧Aside0 (r1_Add.l0 kq a0 a1 ji9 x6_2 x7_2 x8_2=some r)∧Aside0 (kq≤kj2)∧Aside0 (Kd.R (Kd.int .u8) 5 w' w.heap.size (fun _=>True) v108 x6_2)∧Aside0 (Below w.heap.size w w'))
      case atStart=>exact⟨(y107),(0),(0),rl_,rl_,H',⟨Nat.le_refl _⟩,⟨by(with_reducible repeat(first|apply Kd.R_alloc|apply Kd.R_drewN|apply Kd.R_drew));exact HO109.out⟩,⟨b_ HB.out⟩⟩
      case round =>
       clear H';(try clear c1);(try clear p2);(try clear c4);(try clear c5);(try clear p6);(try clear c7);(try clear c10);(try clear c10b0);(try clear c10b1);(try clear c11);(try clear c11b0);(try clear c11b1);(try clear p2);obtain⟨x6_2,x7_2,x8_2,rfl,rfl,HA,HK2,HO_6,HB⟩:=hrel
       cases gk with
       | zero=>exact absurd HA.out (by simp[r1_Add.l0])
       | succ k2 =>
        have H:=HA.out;clear HA;simp only[r1_Add.l0] at H;by_cases c14:x8_2<ji9
        ·rw[if_pos c14] at H;have c14b0:decide (x8_2<ji9)=true:=decide_eq_true c14;clear c14;obtain⟨t110,A15,H⟩:=bi_ H;obtain⟨t111,A16,H⟩:=bi_ H;obtain⟨ji17,hji17⟩:∃ j_:Int,(wrap64 ((wrap64 (ji9-1))-x8_2))=j_:=⟨_,rfl⟩;(first|rw[hji17] at H|simp only[hji17] at H);(try rw[hji17] at A15);(try rw[hji17] at A16);have hji17w:(IntKind.i64.wrap ((wrap64 (ji9-1))-x8_2))=ji17:=(i64_w _).trans hji17;by_cases c18:0≤(ji17)
         ·rw[if_pos c18] at H;have c18b0:decide (0≤(ji17))=true:=decide_eq_true c18;clear c18;by_cases c19:(ji17)<(x6_2.length:Int)
          ·rw[if_pos c19] at H;have c19b0:decide ((ji17)<(x6_2.length:Int))=true:=decide_eq_true c19;clear c19;obtain⟨y112,hy112⟩:∃ y_:List Int,y_ = (x6_2.set ((ji17):Int).toNat ((wrap64 (48+(Int.tmod (wrap64 ((wrap64 (t110+t111))+x7_2)) 10))) % 256)):=⟨_,rfl⟩
           replace H:(r1_Add.l0 k2 a0 a1 ji9 y112 (wrap64 (Int.tdiv (wrap64 ((wrap64 (t110+t111))+x7_2)) 10)) (wrap64 (x8_2+1)))=some r:=by first|(rw[hy112];with_reducible exact H)|(have H2_:=(Option.bind_some _ _).symm.trans H;rw[hy112];with_reducible exact H2_)|(have H2_:=(Option.bind_some _ _).symm.trans H;with_reducible exact H2_)|with_reducible exact H|(rw[hy112];exact H)|exact H
           have Ny112:=Aside0.mk hy112;clear hy112;have H':=Aside0.mk H;clear H
           go_wp2_with (first|(refine gl_ 33 Tryz.func115 #[.string a0,.int .i64 x8_2] ?_;refine mo_ (r1_at.calls a0 x8_2 t110 _ A15.out) ?_;rintro w' ⟨nd,rfl⟩;(try(rw[drewN_self wr];generalize hq_:World.drewN wr _ = wr;have n0_:Aside0 (Kd.R (Kd.int .u8) 5 wr w.heap.size (fun _=>True) v108 x6_2):=⟨by rw[← hq_];exact(w_ HO_6.out)⟩;have n1_:Aside0 (Below w.heap.size w wr):=⟨by rw[← hq_];exact(b_ HB.out)⟩;clear HO_6 HB hq_;have HO_6:=n0_;have HB:=n1_;clear n0_ n1_)))|(refine gl_ 36 Tryz.func115 #[.string a1,.int .i64 x8_2] ?_;refine mo_ (r1_at.calls a1 x8_2 t111 _ A16.out) ?_;rintro w' ⟨nd,rfl⟩;(try(rw[drewN_self wr];generalize hq_:World.drewN wr _ = wr;have n0_:Aside0 (Kd.R (Kd.int .u8) 5 wr w.heap.size (fun _=>True) v108 x6_2):=⟨by rw[← hq_];exact(w_ HO_6.out)⟩;have n1_:Aside0 (Below w.heap.size w wr):=⟨by rw[← hq_];exact(b_ HB.out)⟩;clear HO_6 HB hq_;have HO_6:=n0_;have HB:=n1_;clear n0_ n1_));have p20:0≤((ji17):Int):=of_decide_eq_true as_f;have q20:((ji17):Int)<((x6_2.length:Int):Int):=of_decide_eq_true as_f;obtain⟨go20,co20,eo20,gb20,gl20,cl20,HG20⟩:=Kd.R_form HO_6.out (by omega);(first|cases eo20|(injection eo20 with ea_ en_ ec_;(first|subst ea_|(injection ea_ with ea_;subst ea_));subst ec_;clear en_));have GB20:=Aside0.mk gb20;have GG20:=Aside0.mk HG20;clear gb20 gl20 HG20;obtain⟨hx20_0,hf20_0⟩:=Kd.R_celln 0 HO_6.out ((ji17):Int) p20 q20;replace p20:=eq_true p20;replace q20:=eq_true q20;obtain⟨hy21_,hz21_⟩:=Kd.R_celln 0 HO_6.out ((ji17):Int) (of_decide_eq_true as_f) (of_decide_eq_true as_f);have HP21:=Kd.R_putg HO_6.out ((ji17):Int) ((wrap64 (48+(Int.tmod (wrap64 ((wrap64 (t110+t111))+x7_2)) 10))) % 256))|((with_reducible refine gate_store (t:=5) (p:=49) rfl ?_);refine store_event (t:=5) (p:=49) (v:=?vo_w22) (w1:=(wr.setCell ⟨go20,((ji17):Int).toNat,none⟩ (.int .u8 ((wrap64 (48+(Int.tmod (wrap64 ((wrap64 (t110+t111))+x7_2)) 10))) % 256)))) ?hg ?ho ?hn ?hr ?_;(case ho=>rfl);(case hg=>rfl);(case hn=>rfl);(case hr=>first|(go_simp;done)|(go_simp;rfl));intro w22 hw;have hg:wr.grownBy w22 (some go20):=(by rw[hw];exact HP21.2);have hp_:Kd.R (Kd.int .u8) 5 w22 w.heap.size (fun _=>True) (.slice (some ⟨go20,0,none⟩) x6_2.length co20) y112:=(by rw[hw,Ny112.out];exact HP21.1);clear HP21;replace HO_6:=Aside0.mk (hp_);replace HB:=Aside0.mk ((by rw[hw];exact below_set (HB.out) GB20.out:Below w.heap.size w w22));clear hg hw hp_))
           go_roundg k2
           case measure=>have:=HJ2.out;have:=HK2.out;omega
           case rel=>exact⟨(y112),(wrap64 (Int.tdiv (wrap64 ((wrap64 (t110+t111))+x7_2)) 10)),(wrap64 (x8_2+1)),rl_,rl_,H',⟨by have:=HJ2.out;have:=HK2.out;omega⟩,⟨by(with_reducible repeat(first|apply Kd.R_alloc|apply Kd.R_drewN|apply Kd.R_drew));exact HO_6.out⟩,⟨b_ HB.out⟩⟩
          ·rw[if_neg c19] at H;exact absurd H (by simp)
         ·rw[if_neg c18] at H;exact absurd H (by simp)
        ·rw[if_neg c14] at H;have c14b0:decide (x8_2<ji9)=false:=decide_eq_false c14;clear c14;obtain⟨t113,A23,H⟩:=bi_ H;obtain rfl:=Option.some.inj H;have hcv24:=own_string (P:=Tryz.prog) Tryz.underlying78 Tryz.underlying5 Tryz.underlying9 (Kd.own_of_R HO_6.out)
         go_wp2_with (first|(refine gl_ 54 Tryz.func116 #[.string (strOfNums x6_2)] ?_;refine mo_ (r1_trim.calls k2 (strOfNums x6_2) t113 _ A23.out) ?_;rintro w' ⟨nd,rfl⟩))
         go_ret
         exact⟨by first|rfl|(simp[errW_none,errW_some] <;> rfl)|(simp only[← hji8,← hji9];first|rfl|(simp[errW_none,errW_some] <;> rfl))|(simp[*,errW_none,errW_some] <;> rfl),b_ HB.out⟩
     ·rw[if_neg c11] at H;exact absurd H (by simp)
    ·rw[if_neg c10] at H;exact absurd H (by simp)
mutual
def r1_Sub.j0:Nat→ByteArray→ByteArray→Bool→Option (ByteArray×Bool)
 | 0,_,_,_=>none
 | k+1,x0,x1,x23=>if x23=true then (some ((⟨#[]⟩:ByteArray),false)) else (if 0≤(x0.size:Int) then (if ((x0.size:Int):Int).toNat≤281474976710656 then (r1_Sub.l0 k x0 x1 (List.replicate ((x0.size:Int):Int).toNat 0) 0 0) else (none)) else (none))
def r1_Sub.l0:Nat→ByteArray→ByteArray→List Int→Int→Int→Option (ByteArray×Bool)
 | 0,_,_,_,_,_=>none
 | k+1,x0,x1,x6,x7,x8=>if x8<(x0.size:Int) then ((r1_at.f x0 x8).bind fun t121=>((r1_at.f x1 x8).bind fun t122=>(if (wrap64 ((wrap64 (t121-t122))-x7))<0 then (if 0≤(wrap64 ((wrap64 ((x0.size:Int)-1))-x8)) then (if (wrap64 ((wrap64 ((x0.size:Int)-1))-x8))<(x6.length:Int) then (r1_Sub.l0 k x0 x1 (x6.set ((wrap64 ((wrap64 ((x0.size:Int)-1))-x8)):Int).toNat ((wrap64 (48+(wrap64 ((wrap64 ((wrap64 (t121-t122))-x7))+10)))) % 256)) 1 (wrap64 (x8+1))) else (none)) else (none)) else (if 0≤(wrap64 ((wrap64 ((x0.size:Int)-1))-x8)) then (if (wrap64 ((wrap64 ((x0.size:Int)-1))-x8))<(x6.length:Int) then (r1_Sub.l0 k x0 x1 (x6.set ((wrap64 ((wrap64 ((x0.size:Int)-1))-x8)):Int).toNat ((wrap64 (48+(wrap64 ((wrap64 (t121-t122))-x7)))) % 256)) 0 (wrap64 (x8+1))) else (none)) else (none))))) else ((r1_trim.f k (strOfNums x6)).bind fun t120=>(some (t120,true)))
end
def r1_Sub.f (k:Nat) (a0:ByteArray) (a1:ByteArray):Option (ByteArray×Bool):=(r1_May.f k a0).bind fun t114=>(if t114=true then ((r1_May.f k a1).bind fun t115=>(if t115=true then ((r1_Cmp.f k a0 a1).bind fun t116=>(r1_Sub.j0 k a0 a1 (decide (t116<0)))) else (r1_Sub.j0 k a0 a1 true))) else (r1_Sub.j0 k a0 a1 true))
set_option maxHeartbeats 8000000 in
set_option maxRecDepth 100000 in
theorem r1_Sub.calls (k:Nat) (a0:ByteArray) (a1:ByteArray) (r1:ByteArray) (r2:Bool) (w:World) (h:r1_Sub.f k a0 a1=some (r1,r2)) :
  Calls Tryz.prog 117 #[.string a0,.string a1] w fun e w'=>e=.returned (.tuple #[.string r1,.bool r2])∧Below w.heap.size w w':=by
 have HB:=Aside0.mk (Below.refl w.heap.size w);have H:=h;unfold r1_Sub.f at H;clear h;have HC3:=Aside0.mk H;clear H;go_enter Tryz.func117,Tryz.ntmps117
 go_upto_region 1 with (fail)
 go_cut [23] (fun v23 wc=>∃ (kq:Nat) (x23_2:Bool),v23=.bool x23_2∧Aside0 (r1_Sub.j0 kq a0 a1 x23_2=some (r1,r2))∧Aside0 (kq≤k)∧Aside0 (Below w.heap.size w wc))
 case first =>
  have H:=HC3.out;clear HC3;obtain⟨t114,A4,H⟩:=bi_ H;by_cases c5:t114=true
  ·subst c5;rw[if_pos rfl] at H;obtain⟨t115,A6,H⟩:=bi_ H;by_cases c7:t115=true
   ·subst c7;rw[if_pos rfl] at H;obtain⟨t116,A8,H⟩:=bi_ H;have H':=Aside0.mk H;clear H
    go_wp2_with (first|(refine gl_ 11 Tryz.func44 #[.string a0] ?_;refine mo_ (r1_May.calls k a0 true _ A4.out) ?_;rintro w' ⟨nd,rfl⟩)|(go_at_call 44;(with_reducible refine(r1_May.calls k a1 true _ A6.out).mono ?_);rintro e w' ⟨rfl,⟨nd,rfl⟩⟩)|(go_at_call 45;(with_reducible refine(r1_Cmp.calls k a0 a1 t116 _ A8.out).mono ?_);rintro e w' ⟨rfl,⟨nd,rfl⟩⟩))
    go_meet
    case rel=>exact⟨_,(decide (t116<0)),rl_,H',⟨by first|omega|exact Nat.le_refl _⟩,⟨b_ HB.out⟩⟩
   ·replace c7:=Bool.eq_false_iff.mpr c7;subst c7;rw[if_neg nf_] at H;have H':=Aside0.mk H;clear H
    go_wp2_with (first|(refine gl_ 11 Tryz.func44 #[.string a0] ?_;refine mo_ (r1_May.calls k a0 true _ A4.out) ?_;rintro w' ⟨nd,rfl⟩)|(go_at_call 44;(with_reducible refine(r1_May.calls k a1 false _ A6.out).mono ?_);rintro e w' ⟨rfl,⟨nd,rfl⟩⟩))
    go_meet
    case rel=>exact⟨_,(true),rl_,H',⟨by first|omega|exact Nat.le_refl _⟩,⟨b_ HB.out⟩⟩
  ·replace c5:=Bool.eq_false_iff.mpr c5;subst c5;rw[if_neg nf_] at H;have H':=Aside0.mk H;clear H
   go_wp2_with (first|(refine gl_ 11 Tryz.func44 #[.string a0] ?_;refine mo_ (r1_May.calls k a0 false _ A4.out) ?_;rintro w' ⟨nd,rfl⟩))
   go_meet
   case rel=>exact⟨_,(true),rl_,H',⟨by first|omega|exact Nat.le_refl _⟩,⟨b_ HB.out⟩⟩
 case rest =>
  clear HC3;(try clear c1);(try clear p2);(try clear c4);(try clear c5);(try clear c7);obtain⟨kq,x23_2,rfl,HA,HJ2,HB⟩:=hcut
  cases kq with
  | zero=>exact absurd HA.out (by simp[r1_Sub.j0])
  | succ kj2 =>
   have H:=HA.out;clear HA;simp only[r1_Sub.j0] at H;by_cases c9:x23_2=true
   ·subst c9;rw[if_pos rfl] at H;simp only[Option.some.injEq,Prod.mk.injEq] at H;obtain⟨rfl,rfl⟩:=H;go_wp2;go_ret2;exact⟨er_,b_ HB.out⟩
   ·replace c9:=Bool.eq_false_iff.mpr c9;subst c9;rw[if_neg nf_] at H;by_cases c10:0≤(a0.size:Int)
    ·rw[if_pos c10] at H;have c10b0:=eq_true c10;have c10b1:decide (0≤(a0.size:Int))=true:=decide_eq_true c10;clear c10;by_cases c11:((a0.size:Int):Int).toNat≤281474976710656
     ·rw[if_pos c11] at H;have c11b0:=eq_true c11;have c11b1:decide (((a0.size:Int):Int).toNat≤281474976710656)=true:=decide_eq_true c11;clear c11;obtain⟨y117,hy117⟩:∃ y_:List Int,y_ = (List.replicate ((a0.size:Int):Int).toNat 0):=⟨_,rfl⟩
      replace H:(r1_Sub.l0 kj2 a0 a1 y117 0 0)=some (r1,r2):=by first|(rw[hy117];with_reducible exact H)|(have H2_:=(Option.bind_some _ _).symm.trans H;rw[hy117];with_reducible exact H2_)|(have H2_:=(Option.bind_some _ _).symm.trans H;with_reducible exact H2_)|with_reducible exact H|(rw[hy117];exact H)|exact H
      have Ny117:=Aside0.mk hy117;clear hy117;have H':=Aside0.mk H;clear H
      go_wp2_with (first|((with_reducible refine gate_dst (N:=26) rfl ?_);refine Kd.R_make (Kd.int .u8) _ 5 rfl (N:=26) rfl 78 _ _ rfl (a0.size:Int) rfl rfl Tryz.underlying78 (.int .u8 0) 1 info5 rfl (by decide) (by omega) 0 (ok:=fun _=>True) (okp:=fun _=>True) rfl (fun _ hk=>hk) trivial (of_decide_eq_true as_f) (by have h_:=(of_decide_eq_true as_f:(a0.size:Int).toNat≤281474976710656);omega) (Below.refl _ _) (Nat.le_refl _) ?_;intro v118 w12 ho13 hb hg_ hnew_;clear hg_ hnew_;(first|rw[← Ny117.out] at ho13|(simp only[Int.reduceToNat] at ho13;rw[← Ny117.out] at ho13));have HO119:=Aside0.mk (Kd.R_lower ho13 (below_size (b_ HB.out)));replace HB:=bs_ HB hb;clear hb ho13))
      go_loopg [7,8] kj2 (fun kq v7 v8 w'=>∃ (x6_2:List Int) (x7_2:Int) (x8_2:Int),v7=.int .i64 x7_2∧v8=.int .i64 x8_2∧Aside0 (r1_Sub.l0 kq a0 a1 x6_2 x7_2 x8_2=some (r1,r2))∧Aside0 (kq≤kj2)∧Aside0 (Kd.R (Kd.int .u8) 5 w' w.heap.size (fun _=>True) v118 x6_2)∧Aside0 (Below w.heap.size w w'))
      case atStart=>exact⟨(y117),(0),(0),rl_,rl_,H',⟨Nat.le_refl _⟩,⟨by(with_reducible repeat(first|apply Kd.R_alloc|apply Kd.R_drewN|apply Kd.R_drew));exact HO119.out⟩,⟨b_ HB.out⟩⟩
      case round =>
       clear H';(try clear c1);(try clear p2);(try clear c4);(try clear c5);(try clear c7);(try clear c9);(try clear c10);(try clear c10b0);(try clear c10b1);(try clear c11);(try clear c11b0);(try clear c11b1);(try clear p2);obtain⟨x6_2,x7_2,x8_2,rfl,rfl,HA,HK2,HO_6,HB⟩:=hrel
       cases gk with
       | zero=>exact absurd HA.out (by simp[r1_Sub.l0])
       | succ k2 =>
        have H:=HA.out;clear HA;simp only[r1_Sub.l0] at H;by_cases c14:x8_2<(a0.size:Int)
        ·rw[if_pos c14] at H;have c14b0:decide (x8_2<(a0.size:Int))=true:=decide_eq_true c14;clear c14;obtain⟨t121,A15,H⟩:=bi_ H;obtain⟨t122,A16,H⟩:=bi_ H;by_cases c17:(wrap64 ((wrap64 (t121-t122))-x7_2))<0
         ·rw[if_pos c17] at H;have c17b0:decide ((wrap64 ((wrap64 (t121-t122))-x7_2))<0)=true:=decide_eq_true c17
          have c17b0w:decide ((IntKind.i64.wrap ((IntKind.i64.wrap (t121-t122))-x7_2))<0)=true:=by simp only[i64_w];exact c17b0
          clear c17;obtain⟨ji18,hji18⟩:∃ j_:Int,(wrap64 ((wrap64 ((a0.size:Int)-1))-x8_2))=j_:=⟨_,rfl⟩;(first|rw[hji18] at H|simp only[hji18] at H);(try rw[hji18] at A15);(try rw[hji18] at A16);have hji18w:(IntKind.i64.wrap ((wrap64 ((a0.size:Int)-1))-x8_2))=ji18:=(i64_w _).trans hji18;by_cases c19:0≤(ji18)
          ·rw[if_pos c19] at H;have c19b0:decide (0≤(ji18))=true:=decide_eq_true c19;clear c19;by_cases c20:(ji18)<(x6_2.length:Int)
           ·rw[if_pos c20] at H;have c20b0:decide ((ji18)<(x6_2.length:Int))=true:=decide_eq_true c20;clear c20;obtain⟨y123,hy123⟩:∃ y_:List Int,y_ = (x6_2.set ((ji18):Int).toNat ((wrap64 (48+(wrap64 ((wrap64 ((wrap64 (t121-t122))-x7_2))+10)))) % 256)):=⟨_,rfl⟩
            replace H:(r1_Sub.l0 k2 a0 a1 y123 1 (wrap64 (x8_2+1)))=some (r1,r2):=by first|(rw[hy123];with_reducible exact H)|(have H2_:=(Option.bind_some _ _).symm.trans H;rw[hy123];with_reducible exact H2_)|(have H2_:=(Option.bind_some _ _).symm.trans H;with_reducible exact H2_)|with_reducible exact H|(rw[hy123];exact H)|exact H
            have Ny123:=Aside0.mk hy123;clear hy123;have H':=Aside0.mk H;clear H
            go_wp2_with (first|(refine gl_ 35 Tryz.func115 #[.string a0,.int .i64 x8_2] ?_;refine mo_ (r1_at.calls a0 x8_2 t121 _ A15.out) ?_;rintro w' ⟨nd,rfl⟩;(try(rw[drewN_self wr];generalize hq_:World.drewN wr _ = wr;have n0_:Aside0 (Kd.R (Kd.int .u8) 5 wr w.heap.size (fun _=>True) v118 x6_2):=⟨by rw[← hq_];exact(w_ HO_6.out)⟩;have n1_:Aside0 (Below w.heap.size w wr):=⟨by rw[← hq_];exact(b_ HB.out)⟩;clear HO_6 HB hq_;have HO_6:=n0_;have HB:=n1_;clear n0_ n1_)))|(refine gl_ 38 Tryz.func115 #[.string a1,.int .i64 x8_2] ?_;refine mo_ (r1_at.calls a1 x8_2 t122 _ A16.out) ?_;rintro w' ⟨nd,rfl⟩;(try(rw[drewN_self wr];generalize hq_:World.drewN wr _ = wr;have n0_:Aside0 (Kd.R (Kd.int .u8) 5 wr w.heap.size (fun _=>True) v118 x6_2):=⟨by rw[← hq_];exact(w_ HO_6.out)⟩;have n1_:Aside0 (Below w.heap.size w wr):=⟨by rw[← hq_];exact(b_ HB.out)⟩;clear HO_6 HB hq_;have HO_6:=n0_;have HB:=n1_;clear n0_ n1_));have p21:0≤((ji18):Int):=of_decide_eq_true as_f;have q21:((ji18):Int)<((x6_2.length:Int):Int):=of_decide_eq_true as_f;obtain⟨go21,co21,eo21,gb21,gl21,cl21,HG21⟩:=Kd.R_form HO_6.out (by omega);(first|cases eo21|(injection eo21 with ea_ en_ ec_;(first|subst ea_|(injection ea_ with ea_;subst ea_));subst ec_;clear en_));have GB21:=Aside0.mk gb21;have GG21:=Aside0.mk HG21;clear gb21 gl21 HG21;obtain⟨hx21_0,hf21_0⟩:=Kd.R_celln 0 HO_6.out ((ji18):Int) p21 q21;replace p21:=eq_true p21;replace q21:=eq_true q21;obtain⟨hy22_,hz22_⟩:=Kd.R_celln 0 HO_6.out ((ji18):Int) (of_decide_eq_true as_f) (of_decide_eq_true as_f);have HP22:=Kd.R_putg HO_6.out ((ji18):Int) ((wrap64 (48+(wrap64 ((wrap64 ((wrap64 (t121-t122))-x7_2))+10)))) % 256))|((with_reducible refine gate_store (t:=5) (p:=55) rfl ?_);refine store_event (t:=5) (p:=55) (v:=?vo_w23) (w1:=(wr.setCell ⟨go21,((ji18):Int).toNat,none⟩ (.int .u8 ((wrap64 (48+(wrap64 ((wrap64 ((wrap64 (t121-t122))-x7_2))+10)))) % 256)))) ?hg ?ho ?hn ?hr ?_;(case ho=>rfl);(case hg=>rfl);(case hn=>rfl);(case hr=>first|(go_simp;done)|(go_simp;rfl));intro w23 hw;have hg:wr.grownBy w23 (some go21):=(by rw[hw];exact HP22.2);have hp_:Kd.R (Kd.int .u8) 5 w23 w.heap.size (fun _=>True) (.slice (some ⟨go21,0,none⟩) x6_2.length co21) y123:=(by rw[hw,Ny123.out];exact HP22.1);clear HP22;replace HO_6:=Aside0.mk (hp_);replace HB:=Aside0.mk ((by rw[hw];exact below_set (HB.out) GB21.out:Below w.heap.size w w23));clear hg hw hp_))
            go_roundg k2
            case measure=>have:=HJ2.out;have:=HK2.out;omega
            case rel=>exact⟨(y123),(1),(wrap64 (x8_2+1)),rl_,rl_,H',⟨by have:=HJ2.out;have:=HK2.out;omega⟩,⟨by(with_reducible repeat(first|apply Kd.R_alloc|apply Kd.R_drewN|apply Kd.R_drew));exact HO_6.out⟩,⟨b_ HB.out⟩⟩
           ·rw[if_neg c20] at H;exact absurd H (by simp)
          ·rw[if_neg c19] at H;exact absurd H (by simp)
         ·rw[if_neg c17] at H;have c17b0:decide ((wrap64 ((wrap64 (t121-t122))-x7_2))<0)=false:=decide_eq_false c17
          have c17b0w:decide ((IntKind.i64.wrap ((IntKind.i64.wrap (t121-t122))-x7_2))<0)=false:=by simp only[i64_w];exact c17b0
          clear c17;obtain⟨ji24,hji24⟩:∃ j_:Int,(wrap64 ((wrap64 ((a0.size:Int)-1))-x8_2))=j_:=⟨_,rfl⟩;(first|rw[hji24] at H|simp only[hji24] at H);(try rw[hji24] at A15);(try rw[hji24] at A16);have hji24w:(IntKind.i64.wrap ((wrap64 ((a0.size:Int)-1))-x8_2))=ji24:=(i64_w _).trans hji24;by_cases c25:0≤(ji24)
          ·rw[if_pos c25] at H;have c25b0:decide (0≤(ji24))=true:=decide_eq_true c25;clear c25;by_cases c26:(ji24)<(x6_2.length:Int)
           ·rw[if_pos c26] at H;have c26b0:decide ((ji24)<(x6_2.length:Int))=true:=decide_eq_true c26;clear c26;obtain⟨y124,hy124⟩:∃ y_:List Int,y_ = (x6_2.set ((ji24):Int).toNat ((wrap64 (48+(wrap64 ((wrap64 (t121-t122))-x7_2)))) % 256)):=⟨_,rfl⟩
            replace H:(r1_Sub.l0 k2 a0 a1 y124 0 (wrap64 (x8_2+1)))=some (r1,r2):=by first|(rw[hy124];with_reducible exact H)|(have H2_:=(Option.bind_some _ _).symm.trans H;rw[hy124];with_reducible exact H2_)|(have H2_:=(Option.bind_some _ _).symm.trans H;with_reducible exact H2_)|with_reducible exact H|(rw[hy124];exact H)|exact H
            have Ny124:=Aside0.mk hy124;clear hy124;have H':=Aside0.mk H;clear H
            go_wp2_with (first|(refine gl_ 35 Tryz.func115 #[.string a0,.int .i64 x8_2] ?_;refine mo_ (r1_at.calls a0 x8_2 t121 _ A15.out) ?_;rintro w' ⟨nd,rfl⟩;(try(rw[drewN_self wr];generalize hq_:World.drewN wr _ = wr;have n0_:Aside0 (Kd.R (Kd.int .u8) 5 wr w.heap.size (fun _=>True) v118 x6_2):=⟨by rw[← hq_];exact(w_ HO_6.out)⟩;have n1_:Aside0 (Below w.heap.size w wr):=⟨by rw[← hq_];exact(b_ HB.out)⟩;clear HO_6 HB hq_;have HO_6:=n0_;have HB:=n1_;clear n0_ n1_)))|(refine gl_ 38 Tryz.func115 #[.string a1,.int .i64 x8_2] ?_;refine mo_ (r1_at.calls a1 x8_2 t122 _ A16.out) ?_;rintro w' ⟨nd,rfl⟩;(try(rw[drewN_self wr];generalize hq_:World.drewN wr _ = wr;have n0_:Aside0 (Kd.R (Kd.int .u8) 5 wr w.heap.size (fun _=>True) v118 x6_2):=⟨by rw[← hq_];exact(w_ HO_6.out)⟩;have n1_:Aside0 (Below w.heap.size w wr):=⟨by rw[← hq_];exact(b_ HB.out)⟩;clear HO_6 HB hq_;have HO_6:=n0_;have HB:=n1_;clear n0_ n1_));have p27:0≤((ji24):Int):=of_decide_eq_true as_f;have q27:((ji24):Int)<((x6_2.length:Int):Int):=of_decide_eq_true as_f;obtain⟨go27,co27,eo27,gb27,gl27,cl27,HG27⟩:=Kd.R_form HO_6.out (by omega);(first|cases eo27|(injection eo27 with ea_ en_ ec_;(first|subst ea_|(injection ea_ with ea_;subst ea_));subst ec_;clear en_));have GB27:=Aside0.mk gb27;have GG27:=Aside0.mk HG27;clear gb27 gl27 HG27;obtain⟨hx27_0,hf27_0⟩:=Kd.R_celln 0 HO_6.out ((ji24):Int) p27 q27;replace p27:=eq_true p27;replace q27:=eq_true q27;obtain⟨hy28_,hz28_⟩:=Kd.R_celln 0 HO_6.out ((ji24):Int) (of_decide_eq_true as_f) (of_decide_eq_true as_f);have HP28:=Kd.R_putg HO_6.out ((ji24):Int) ((wrap64 (48+(wrap64 ((wrap64 (t121-t122))-x7_2)))) % 256))|((with_reducible refine gate_store (t:=5) (p:=55) rfl ?_);refine store_event (t:=5) (p:=55) (v:=?vo_w29) (w1:=(wr.setCell ⟨go27,((ji24):Int).toNat,none⟩ (.int .u8 ((wrap64 (48+(wrap64 ((wrap64 (t121-t122))-x7_2)))) % 256)))) ?hg ?ho ?hn ?hr ?_;(case ho=>rfl);(case hg=>rfl);(case hn=>rfl);(case hr=>first|(go_simp;done)|(go_simp;rfl));intro w29 hw;have hg:wr.grownBy w29 (some go27):=(by rw[hw];exact HP28.2);have hp_:Kd.R (Kd.int .u8) 5 w29 w.heap.size (fun _=>True) (.slice (some ⟨go27,0,none⟩) x6_2.length co27) y124:=(by rw[hw,Ny124.out];exact HP28.1);clear HP28;replace HO_6:=Aside0.mk (hp_);replace HB:=Aside0.mk ((by rw[hw];exact below_set (HB.out) GB27.out:Below w.heap.size w w29));clear hg hw hp_))
            go_roundg k2
            case measure=>have:=HJ2.out;have:=HK2.out;omega
            case rel=>exact⟨(y124),(0),(wrap64 (x8_2+1)),rl_,rl_,H',⟨by have:=HJ2.out;have:=HK2.out;omega⟩,⟨by(with_reducible repeat(first|apply Kd.R_alloc|apply Kd.R_drewN|apply Kd.R_drew));exact HO_6.out⟩,⟨b_ HB.out⟩⟩
           ·rw[if_neg c26] at H;exact absurd H (by simp)
          ·rw[if_neg c25] at H;exact absurd H (by simp)
        ·rw[if_neg c14] at H;have c14b0:decide (x8_2<(a0.size:Int))=false:=decide_eq_false c14;clear c14;obtain⟨t120,A30,H⟩:=bi_ H;simp only[Option.some.injEq,Prod.mk.injEq] at H;obtain⟨rfl,rfl⟩:=H;have hcv31:=own_string (P:=Tryz.prog) Tryz.underlying78 Tryz.underlying5 Tryz.underlying9 (Kd.own_of_R HO_6.out)
         go_wp2_with (first|(refine gl_ 58 Tryz.func116 #[.string (strOfNums x6_2)] ?_;refine mo_ (r1_trim.calls k2 (strOfNums x6_2) t120 _ A30.out) ?_;rintro w' ⟨nd,rfl⟩))
         go_ret2;exact⟨er_,b_ HB.out⟩
     ·rw[if_neg c11] at H;exact absurd H (by simp)
    ·rw[if_neg c10] at H;exact absurd H (by simp)
end Go.Proofs.YtoghmeffpgbcfaaGreatDoor.Pq
end

section
namespace Go.Proofs.YtoghmeffpgbcfaaGreatDoor.Pq
end Go.Proofs.YtoghmeffpgbcfaaGreatDoor.Pq
end

section
namespace Go.Proofs.YtoghmeffpgbcfaaGreatDoor.Pq
mutual
def r1_Div.j0:Nat→ByteArray→ByteArray→Bool→Option (ByteArray×ByteArray×Bool)
 | 0,_,_,_=>none
 | k+1,x0,x1,x24=>if x24=true then (some ((⟨#[]⟩:ByteArray),(⟨#[]⟩:ByteArray),false)) else (r1_Div.l0 k x0 x1 (⟨#[]⟩:ByteArray) (⟨#[48]⟩:ByteArray) 0)
def r1_Div.l0:Nat→ByteArray→ByteArray→ByteArray→ByteArray→Int→Option (ByteArray×ByteArray×Bool)
 | 0,_,_,_,_,_=>none
 | k+1,x0,x1,x7,x8,x9=>if x9<(x0.size:Int) then (if 0≤x9 then (if x9≤(wrap64 (x9+1)) then (if (wrap64 (x9+1))≤(x0.size:Int) then (if x8.size+(x0.extract (x9:Int).toNat ((wrap64 (x9+1)):Int).toNat).size≤9223372036854775807 then ((r1_trim.f k (x8++(x0.extract (x9:Int).toNat ((wrap64 (x9+1)):Int).toNat))).bind fun t143=>(r1_Div.l1 k x0 x1 x7 t143 x9 0)) else (none)) else (none)) else (none)) else (none)) else ((r1_trim.f k x7).bind fun t142=>(some (t142,x8,true)))
def r1_Div.l1:Nat→ByteArray→ByteArray→ByteArray→ByteArray→Int→Int→Option (ByteArray×ByteArray×Bool)
 | 0,_,_,_,_,_,_=>none
 | k+1,x0,x1,x7,x8,x9,x10=>(r1_Cmp.f k x8 x1).bind fun t144=>(if t144≥0 then ((r1_Sub.f k x8 x1).bind fun bt145=>(r1_Div.l1 k x0 x1 x7 bt145.1 x9 (wrap64 (x10+1)))) else (if 0≤x10 then (if x10≤(wrap64 (x10+1)) then (if (wrap64 (x10+1))≤10 then (if x7.size+((⟨#[48,49,50,51,52,53,54,55,56,57]⟩:ByteArray).extract (x10:Int).toNat ((wrap64 (x10+1)):Int).toNat).size≤9223372036854775807 then (r1_Div.l0 k x0 x1 (x7++((⟨#[48,49,50,51,52,53,54,55,56,57]⟩:ByteArray).extract (x10:Int).toNat ((wrap64 (x10+1)):Int).toNat)) x8 (wrap64 (x9+1))) else (none)) else (none)) else (none)) else (none)))
end
def r1_Div.f (k:Nat) (a0:ByteArray) (a1:ByteArray):Option (ByteArray×ByteArray×Bool):=(r1_May.f k a0).bind fun t140=>(if t140=true then ((r1_May.f k a1).bind fun t141=>(if t141=true then (r1_Div.j0 k a0 a1 (a1.toList == ([48]:List UInt8))) else (r1_Div.j0 k a0 a1 true))) else (r1_Div.j0 k a0 a1 true))
set_option maxHeartbeats 8000000 in
set_option maxRecDepth 100000 in
theorem r1_Div.calls (k:Nat) (a0:ByteArray) (a1:ByteArray) (r1:ByteArray) (r2:ByteArray) (r3:Bool) (w:World) (h:r1_Div.f k a0 a1=some (r1,r2,r3)) :
  Calls Tryz.prog 112 #[.string a0,.string a1] w fun e w'=>e=.returned (.tuple #[.string r1,.string r2,.bool r3])∧Below w.heap.size w w':=by
 have HB:=Aside0.mk (Below.refl w.heap.size w);have H:=h;unfold r1_Div.f at H;clear h;have HC3:=Aside0.mk H;clear H;go_enter Tryz.func112,Tryz.ntmps112
 go_upto_region 1 with (fail)
 go_cut [24] (fun v24 wc=>∃ (kq:Nat) (x24_2:Bool),v24=.bool x24_2∧Aside0 (r1_Div.j0 kq a0 a1 x24_2=some (r1,r2,r3))∧Aside0 (kq≤k)∧Aside0 (Below w.heap.size w wc))
 case first =>
  have H:=HC3.out;clear HC3;obtain⟨t140,A4,H⟩:=bi_ H;by_cases c5:t140=true
  ·subst c5;rw[if_pos rfl] at H;obtain⟨t141,A6,H⟩:=bi_ H;by_cases c7:t141=true
   ·subst c7;rw[if_pos rfl] at H;have H':=Aside0.mk H;clear H
    go_wp2_with (first|(refine gl_ 14 Tryz.func44 #[.string a0] ?_;refine mo_ (r1_May.calls k a0 true _ A4.out) ?_;rintro w' ⟨nd,rfl⟩)|(go_at_call 44;(with_reducible refine(r1_May.calls k a1 true _ A6.out).mono ?_);rintro e w' ⟨rfl,⟨nd,rfl⟩⟩))
    go_meet
    case rel=>exact⟨_,((a1.toList == ([48]:List UInt8))),rl_,H',⟨by first|omega|exact Nat.le_refl _⟩,⟨b_ HB.out⟩⟩
   ·replace c7:=Bool.eq_false_iff.mpr c7;subst c7;rw[if_neg nf_] at H;have H':=Aside0.mk H;clear H
    go_wp2_with (first|(refine gl_ 14 Tryz.func44 #[.string a0] ?_;refine mo_ (r1_May.calls k a0 true _ A4.out) ?_;rintro w' ⟨nd,rfl⟩)|(go_at_call 44;(with_reducible refine(r1_May.calls k a1 false _ A6.out).mono ?_);rintro e w' ⟨rfl,⟨nd,rfl⟩⟩))
    go_meet
    case rel=>exact⟨_,(true),rl_,H',⟨by first|omega|exact Nat.le_refl _⟩,⟨b_ HB.out⟩⟩
  ·replace c5:=Bool.eq_false_iff.mpr c5;subst c5;rw[if_neg nf_] at H;have H':=Aside0.mk H;clear H
   go_wp2_with (first|(refine gl_ 14 Tryz.func44 #[.string a0] ?_;refine mo_ (r1_May.calls k a0 false _ A4.out) ?_;rintro w' ⟨nd,rfl⟩))
   go_meet
   case rel=>exact⟨_,(true),rl_,H',⟨by first|omega|exact Nat.le_refl _⟩,⟨b_ HB.out⟩⟩
 case rest =>
  clear HC3;(try clear c1);(try clear p2);(try clear c4);(try clear c5);(try clear c7);obtain⟨kq,x24_2,rfl,HA,HJ2,HB⟩:=hcut
  cases kq with
  | zero=>exact absurd HA.out (by simp[r1_Div.j0])
  | succ kj2 =>
   have H:=HA.out;clear HA;simp only[r1_Div.j0] at H;by_cases c8:x24_2=true
   ·subst c8;rw[if_pos rfl] at H;simp only[Option.some.injEq,Prod.mk.injEq] at H;obtain⟨rfl,rfl,rfl⟩:=H;go_wp2
    go_ret3
    exact⟨er_,b_ HB.out⟩
   ·replace c8:=Bool.eq_false_iff.mpr c8;subst c8;rw[if_neg nf_] at H;have H':=Aside0.mk H;clear H;go_wp2
    go_loopg [7,8,9] kj2 (fun kq v7 v8 v9 w'=>∃ (x7_2:ByteArray) (x8_2:ByteArray) (x9_2:Int),v7=.string x7_2∧v8=.string x8_2∧v9=.int .i64 x9_2∧Aside0 (r1_Div.l0 kq a0 a1 x7_2 x8_2 x9_2=some (r1,r2,r3))∧Aside0 (kq≤kj2)∧Aside0 (Below w.heap.size w w'))
    case atStart=>exact⟨((⟨#[]⟩:ByteArray)),((⟨#[48]⟩:ByteArray)),(0),rl_,rl_,rl_,H',⟨Nat.le_refl _⟩,⟨b_ HB.out⟩⟩
    case round =>
     clear H';(try clear c1);(try clear p2);(try clear c4);(try clear c5);(try clear c7);(try clear c8);(try clear p2);obtain⟨x7_2,x8_2,x9_2,rfl,rfl,rfl,HA,HK2,HB⟩:=hrel
     cases gk with
     | zero=>exact absurd HA.out (by simp[r1_Div.l0])
     | succ k2 =>
      have H:=HA.out;clear HA;simp only[r1_Div.l0] at H;by_cases c9:x9_2<(a0.size:Int)
      ·rw[if_pos c9] at H;have c9b0:decide (x9_2<(a0.size:Int))=true:=decide_eq_true c9;clear c9;by_cases c10:0≤x9_2
       ·rw[if_pos c10] at H;have c10b0:=eq_true c10;have c10b1:decide (0≤x9_2)=true:=decide_eq_true c10;clear c10;by_cases c11:x9_2≤(wrap64 (x9_2+1))
        ·rw[if_pos c11] at H;have c11b0:=eq_true c11;have c11b1:decide (x9_2≤(wrap64 (x9_2+1)))=true:=decide_eq_true c11
         have c11b1w:decide (x9_2≤(IntKind.i64.wrap (x9_2+1)))=true:=by simp only[i64_w];exact c11b1
         by_cases c12:(wrap64 (x9_2+1))≤(a0.size:Int)
         ·rw[if_pos c12] at H;have c12b0:=eq_true c12;have c12b1:decide ((wrap64 (x9_2+1))≤(a0.size:Int))=true:=decide_eq_true c12
          have c12b1w:decide ((IntKind.i64.wrap (x9_2+1))≤(a0.size:Int))=true:=by simp only[i64_w];exact c12b1
          by_cases c13:x8_2.size+(a0.extract (x9_2:Int).toNat ((wrap64 (x9_2+1)):Int).toNat).size≤9223372036854775807
          ·rw[if_pos c13] at H;have c13b0:=eq_true c13;have c13b1:decide (x8_2.size+(a0.extract (x9_2:Int).toNat ((wrap64 (x9_2+1)):Int).toNat).size≤9223372036854775807)=true:=decide_eq_true c13
           have c13b1w:decide (x8_2.size+(a0.extract (x9_2:Int).toNat ((IntKind.i64.wrap (x9_2+1)):Int).toNat).size≤9223372036854775807)=true:=by simp only[i64_w];exact c13b1
           try have c13b2:(9223372036854775807<x8_2.size+(a0.extract (x9_2:Int).toNat ((wrap64 (x9_2+1)):Int).toNat).size)=False:=eq_false (Nat.not_lt.2 c13)
           obtain⟨t143,A14,H⟩:=bi_ H;have H':=Aside0.mk H;clear H
           go_wp2_with (first|(refine gl_ 38 Tryz.func116 #[.string (x8_2++(a0.extract (x9_2:Int).toNat ((wrap64 (x9_2+1)):Int).toNat))] ?_;refine mo_ (r1_trim.calls k2 (x8_2++(a0.extract (x9_2:Int).toNat ((wrap64 (x9_2+1)):Int).toNat)) t143 _ A14.out) ?_;rintro w' ⟨nd,rfl⟩))
           go_loopg [8,10] k2 (fun kq v8 v10 w'=>∃ (x8_3:ByteArray) (x10_3:Int),v8=.string x8_3∧v10=.int .i64 x10_3∧Aside0 (r1_Div.l1 kq a0 a1 x7_2 x8_3 x9_2 x10_3=some (r1,r2,r3))∧Aside0 (kq≤k2)∧Aside0 (Below w.heap.size w w'))
           case atStart=>exact⟨(t143),(0),rl_,rl_,H',⟨Nat.le_refl _⟩,⟨b_ HB.out⟩⟩
           case round =>
            clear H';(try clear c1);(try clear p2);(try clear c4);(try clear c5);(try clear p6);(try clear c7);(try clear c8);(try clear c9);(try clear c9b0);(try clear c10);(try clear c10b0);(try clear c10b1);(try clear c11);(try clear c11b0);(try clear c11b1);(try clear c12);(try clear c12b0);(try clear c12b1);(try clear c13);(try clear c13b0);(try clear c13b1);(try clear c13b2);(try clear p2);obtain⟨x8_3,x10_3,rfl,rfl,HA,HK3,HB⟩:=hrel
            cases gk with
            | zero=>exact absurd HA.out (by simp[r1_Div.l1])
            | succ k3 =>
             have H:=HA.out;clear HA;simp only[r1_Div.l1] at H;obtain⟨t144,A15,H⟩:=bi_ H;by_cases c16:t144≥0
             ·rw[if_pos c16] at H;have c16b0:decide (0≤t144)=true:=decide_eq_true c16;clear c16;obtain⟨⟨t145,t146⟩,A17,H⟩:=bi_ H;(try dsimp only at H);have H':=Aside0.mk H;clear H
              go_wp2_with (first|(refine gl_ 41 Tryz.func45 #[.string x8_3,.string a1] ?_;refine mo_ (r1_Cmp.calls k3 x8_3 a1 t144 _ A15.out) ?_;rintro w' ⟨nd,rfl⟩)|(refine gl_ 46 Tryz.func117 #[.string x8_3,.string a1] ?_;refine mo_ (r1_Sub.calls k3 x8_3 a1 t145 t146 _ A17.out) ?_;intro w18 hb;replace HB:=bs_ HB hb;(try clear hb);(try clear hb2);(try clear hk);(try clear hi)))
              go_roundg k3
              case measure=>have:=HJ2.out;have:=HK2.out;have:=HK3.out;omega
              case rel=>exact⟨(t145),(wrap64 (x10_3+1)),rl_,rl_,H',⟨by have:=HJ2.out;have:=HK2.out;have:=HK3.out;omega⟩,⟨b_ HB.out⟩⟩
             ·rw[if_neg c16] at H;have c16b0:decide (0≤t144)=false:=decide_eq_false c16;clear c16;by_cases c19:0≤x10_3
              ·rw[if_pos c19] at H;have c19b0:=eq_true c19;have c19b1:decide (0≤x10_3)=true:=decide_eq_true c19;clear c19;by_cases c20:x10_3≤(wrap64 (x10_3+1))
               ·rw[if_pos c20] at H;have c20b0:=eq_true c20;have c20b1:decide (x10_3≤(wrap64 (x10_3+1)))=true:=decide_eq_true c20
                have c20b1w:decide (x10_3≤(IntKind.i64.wrap (x10_3+1)))=true:=by simp only[i64_w];exact c20b1
                by_cases c21:(wrap64 (x10_3+1))≤10
                ·rw[if_pos c21] at H;have c21b0:=eq_true c21;have c21b1:decide ((wrap64 (x10_3+1))≤10)=true:=decide_eq_true c21
                 have c21b1w:decide ((IntKind.i64.wrap (x10_3+1))≤10)=true:=by simp only[i64_w];exact c21b1
                 by_cases c22:x7_2.size+((⟨#[48,49,50,51,52,53,54,55,56,57]⟩:ByteArray).extract (x10_3:Int).toNat ((wrap64 (x10_3+1)):Int).toNat).size≤9223372036854775807
                 ·rw[if_pos c22] at H;have c22b0:=eq_true c22;have c22b1:decide (x7_2.size+((⟨#[48,49,50,51,52,53,54,55,56,57]⟩:ByteArray).extract (x10_3:Int).toNat ((wrap64 (x10_3+1)):Int).toNat).size≤9223372036854775807)=true:=decide_eq_true c22
                  have c22b1w:decide (x7_2.size+((⟨#[48,49,50,51,52,53,54,55,56,57]⟩:ByteArray).extract (x10_3:Int).toNat ((IntKind.i64.wrap (x10_3+1)):Int).toNat).size≤9223372036854775807)=true:=by simp only[i64_w];exact c22b1
                  try have c22b2:(9223372036854775807<x7_2.size+((⟨#[48,49,50,51,52,53,54,55,56,57]⟩:ByteArray).extract (x10_3:Int).toNat ((wrap64 (x10_3+1)):Int).toNat).size)=False:=eq_false (Nat.not_lt.2 c22)
                  have H':=Aside0.mk H;clear H
                  go_wp2_with (first|(refine gl_ 41 Tryz.func45 #[.string x8_3,.string a1] ?_;refine mo_ (r1_Cmp.calls k3 x8_3 a1 t144 _ A15.out) ?_;rintro w' ⟨nd,rfl⟩))
                  go_roundg k3
                  case measure=>have:=HJ2.out;have:=HK2.out;have:=HK3.out;omega
                  case rel=>exact⟨(x7_2++((⟨#[48,49,50,51,52,53,54,55,56,57]⟩:ByteArray).extract (x10_3:Int).toNat ((wrap64 (x10_3+1)):Int).toNat)),(x8_3),(wrap64 (x9_2+1)),rl_,rl_,rl_,H',⟨by have:=HJ2.out;have:=HK2.out;have:=HK3.out;omega⟩,⟨b_ HB.out⟩⟩
                 ·rw[if_neg c22] at H;exact absurd H (by simp)
                ·rw[if_neg c21] at H;exact absurd H (by simp)
               ·rw[if_neg c20] at H;exact absurd H (by simp)
              ·rw[if_neg c19] at H;exact absurd H (by simp)
          ·rw[if_neg c13] at H;exact absurd H (by simp)
         ·rw[if_neg c12] at H;exact absurd H (by simp)
        ·rw[if_neg c11] at H;exact absurd H (by simp)
       ·rw[if_neg c10] at H;exact absurd H (by simp)
      ·rw[if_neg c9] at H;have c9b0:decide (x9_2<(a0.size:Int))=false:=decide_eq_false c9;clear c9;obtain⟨t142,A23,H⟩:=bi_ H;simp only[Option.some.injEq,Prod.mk.injEq] at H;obtain⟨rfl,rfl,rfl⟩:=H
       go_wp2_with (first|(refine gl_ 59 Tryz.func116 #[.string x7_2] ?_;refine mo_ (r1_trim.calls k2 x7_2 t142 _ A23.out) ?_;rintro w' ⟨nd,rfl⟩))
       go_ret3
       exact⟨er_,b_ HB.out⟩
mutual
def r1_Gcd.j0:Nat→ByteArray→ByteArray→Bool→Option (ByteArray)
 | 0,_,_,_=>none
 | k+1,x0,x1,x15=>if x15=true then (some (⟨#[]⟩:ByteArray)) else (r1_Gcd.l0 k x0 x1)
def r1_Gcd.l0:Nat→ByteArray→ByteArray→Option (ByteArray)
 | 0,_,_=>none
 | k+1,x0,x1=>if x1.toList=([48]:List UInt8) then (some x0) else ((r1_Div.f k x0 x1).bind fun bt149=>(r1_Gcd.l0 k x1 bt149.2.1))
end
def r1_Gcd.f (k:Nat) (a0:ByteArray) (a1:ByteArray):Option (ByteArray):=(r1_May.f k a0).bind fun t147=>(if t147=true then ((r1_May.f k a1).bind fun t148=>(r1_Gcd.j0 k a0 a1 (!t148))) else (r1_Gcd.j0 k a0 a1 true))
set_option maxHeartbeats 8000000 in
set_option maxRecDepth 100000 in
theorem r1_Gcd.calls (k:Nat) (a0:ByteArray) (a1:ByteArray) (r:ByteArray) (w:World) (h:r1_Gcd.f k a0 a1=some r) :
  Calls Tryz.prog 74 #[.string a0,.string a1] w fun e w'=>e=.returned (.string r)∧Below w.heap.size w w':=by
 have HB:=Aside0.mk (Below.refl w.heap.size w);have H:=h;unfold r1_Gcd.f at H;clear h;have HC3:=Aside0.mk H;clear H;go_enter Tryz.func74,Tryz.ntmps74
 go_upto_region 1 with (fail)
 go_cut [15] (fun v15 wc=>∃ (kq:Nat) (x15_2:Bool),v15=.bool x15_2∧Aside0 (r1_Gcd.j0 kq a0 a1 x15_2=some r)∧Aside0 (kq≤k)∧Aside0 (Below w.heap.size w wc))
 case first =>
  have H:=HC3.out;clear HC3;obtain⟨t147,A4,H⟩:=bi_ H;by_cases c5:t147=true
  ·subst c5;rw[if_pos rfl] at H;obtain⟨t148,A6,H⟩:=bi_ H;have H':=Aside0.mk H;clear H
   go_wp2_with (first|(refine gl_ 9 Tryz.func44 #[.string a0] ?_;refine mo_ (r1_May.calls k a0 true _ A4.out) ?_;rintro w' ⟨nd,rfl⟩)|(go_at_call 44;(with_reducible refine(r1_May.calls k a1 t148 _ A6.out).mono ?_);rintro e w' ⟨rfl,⟨nd,rfl⟩⟩))
   go_meet
   case rel=>exact⟨_,(!t148),rl_,H',⟨by first|omega|exact Nat.le_refl _⟩,⟨b_ HB.out⟩⟩
  ·replace c5:=Bool.eq_false_iff.mpr c5;subst c5;rw[if_neg nf_] at H;have H':=Aside0.mk H;clear H
   go_wp2_with (first|(refine gl_ 9 Tryz.func44 #[.string a0] ?_;refine mo_ (r1_May.calls k a0 false _ A4.out) ?_;rintro w' ⟨nd,rfl⟩))
   go_meet
   case rel=>exact⟨_,(true),rl_,H',⟨by first|omega|exact Nat.le_refl _⟩,⟨b_ HB.out⟩⟩
 case rest =>
  clear HC3;(try clear p2);(try clear c4);(try clear c5);obtain⟨kq,x15_2,rfl,HA,HJ2,HB⟩:=hcut
  cases kq with
  | zero=>exact absurd HA.out (by simp[r1_Gcd.j0])
  | succ kj2 =>
   have H:=HA.out;clear HA;simp only[r1_Gcd.j0] at H;by_cases c7:x15_2=true
   ·subst c7;rw[if_pos rfl] at H;obtain rfl:=Option.some.inj H;go_wp2
    go_ret
    exact⟨er_,b_ HB.out⟩
   ·replace c7:=Bool.eq_false_iff.mpr c7;subst c7;rw[if_neg nf_] at H;have H':=Aside0.mk H;clear H;go_wp2
    go_loopg [0,1] kj2 (fun kq v0 v1 w'=>∃ (x0_2:ByteArray) (x1_2:ByteArray),v0=.string x0_2∧v1=.string x1_2∧Aside0 (r1_Gcd.l0 kq x0_2 x1_2=some r)∧Aside0 (kq≤kj2)∧Aside0 (Below w.heap.size w w'))
    case atStart=>exact⟨(a0),(a1),rl_,rl_,H',⟨Nat.le_refl _⟩,⟨b_ HB.out⟩⟩
    case round =>
     clear H';(try clear p2);(try clear c4);(try clear c5);(try clear c7);(try clear p2);obtain⟨x0_2,x1_2,rfl,rfl,HA,HK2,HB⟩:=hrel
     cases gk with
     | zero=>exact absurd HA.out (by simp[r1_Gcd.l0])
     | succ k2 =>
      have H:=HA.out;clear HA;simp only[r1_Gcd.l0] at H;by_cases c8:x1_2.toList=([48]:List UInt8)
      ·rw[if_pos c8] at H;have c8b0:(x1_2.toList == ([48]:List UInt8))=true:=beq_iff_eq.mpr c8;have c8b1:(x1_2.toList != ([48]:List UInt8))=false:=bne_eq_false_iff_eq.mpr c8;clear c8;obtain rfl:=Option.some.inj H;go_wp2
       go_ret
       exact⟨er_,b_ HB.out⟩
      ·rw[if_neg c8] at H;have c8b0:(x1_2.toList == ([48]:List UInt8))=false:=beq_eq_false_iff_ne.mpr c8;have c8b1:(x1_2.toList != ([48]:List UInt8))=true:=bne_iff_ne.mpr c8;obtain⟨⟨t149,t150,t151⟩,A9,H⟩:=bi_ H;(try dsimp only at H);have H':=Aside0.mk H;clear H
       go_wp2_with (first|(refine gl_ 21 Tryz.func112 #[.string x0_2,.string x1_2] ?_;refine mo_ (r1_Div.calls k2 x0_2 x1_2 t149 t150 t151 _ A9.out) ?_;intro w10 hb;replace HB:=bs_ HB hb;(try clear hb);(try clear hb2);(try clear hk);(try clear hi)))
       go_roundg k2
       case measure=>have:=HJ2.out;have:=HK2.out;omega
       case rel=>exact⟨(x1_2),(t150),rl_,rl_,H',⟨by have:=HJ2.out;have:=HK2.out;omega⟩,⟨b_ HB.out⟩⟩
end Go.Proofs.YtoghmeffpgbcfaaGreatDoor.Pq
end

section
namespace Go.Proofs.YtoghmeffpgbcfaaGreatDoor.Pq
end Go.Proofs.YtoghmeffpgbcfaaGreatDoor.Pq
end

section
namespace Go.Proofs.YtoghmeffpgbcfaaGreatDoor
theorem rmay_end (s:ByteArray):(if (s.size:Int)>0 then (if s.toList=([48]:List UInt8) then (some true) else (if 0<(s.size:Int) then (some ((bt s 0) != 48)) else (none))) else (some false))=some (mayEnd s.data.toList):=by
 rw[ByteArray.toList_eq]
 unfold mayEnd
 by_cases h:(s.size:Int)>0
 ·have hne:s.data.toList≠[]:=by
   intro e
   have:=congrArg List.length e
   rw[← size_len,List.length_nil] at this
   omega
  rw[if_pos h,decide_eq_true hne]
  by_cases h1:s.data.toList=[48]
  ·rw[if_pos h1,decide_eq_true h1];rfl
  ·rw[if_neg h1,if_pos h,decide_eq_false h1]
   obtain⟨c,hc,hb⟩:=bt_get s 0 (by omega)
   have hb':bt s 0=(c.toNat:Int):=hb
   have hhead:s.data.toList.head?=some c:=by rw[← hc,List.head?_eq_getElem?]
   rw[hb',hhead]
   by_cases h2:c=48
   ·subst h2;rfl
   ·have h3:(c.toNat:Int)≠48:=by
     intro e
     exact h2 (UInt8.toNat_inj.1 (by rw[show (48:UInt8).toNat=48 from rfl];omega))
    have h4:(some c≠some (48:UInt8)):=by intro e;exact h2 (Option.some.inj e)
    rw[decide_eq_true h4,bne_iff_ne.2 h3]
    rfl
 ·have hne:s.data.toList=[]:=by
   apply List.length_eq_zero_iff.1
   rw[← size_len];omega
  rw[if_neg h,hne]
  rfl
theorem rmay_loop (s:ByteArray) (hs:s.size≤4611686018427387904):∀ (d i:Nat),i+d=s.size→∀ k,d+1≤k→Pq.r1_May.l0 k s (i:Int)=some ((s.data.toList.drop i).all isDig&&mayEnd s.data.toList)
 | 0,i,hi,k,hk=>by
  obtain⟨k,rfl⟩:∃ m,k=m+1:=⟨k-1,by omega⟩
  simp only[Pq.r1_May.l0]
  rw[if_neg (by omega),rmay_end,List.drop_of_length_le (by rw[← size_len];omega)]
  rfl
 | d+1,i,hi,k,hk=>by
  obtain⟨k,rfl⟩:∃ m,k=m+1:=⟨k-1,by omega⟩
  simp only[Pq.r1_May.l0]
  have g1:(i:Int)<(s.size:Int):=by omega
  rw[if_pos g1,if_pos (by omega)]
  obtain⟨c,hc,hb⟩:=bt_get s i (by omega)
  have hil:i<s.data.toList.length:=by rw[← size_len];omega
  have hcc:s.data.toList[i]=c:=by
   rw[List.getElem?_eq_getElem hil] at hc
   exact Option.some.inj hc
  rw[hb,List.drop_eq_getElem_cons hil,hcc,List.all_cons,w64 (by omega) (by omega)]
  by_cases h1:(c.toNat:Int)<48
  ·rw[if_pos h1]
   have:isDig c=false:=by simp[isDig];omega
   rw[this];rfl
  ·rw[if_neg h1]
   by_cases h2:(c.toNat:Int)>57
   ·rw[if_pos h2]
    have:isDig c=false:=by simp[isDig];omega
    rw[this];rfl
   ·rw[if_neg h2]
    have:isDig c=true:=by simp[isDig];omega
    rw[this,Bool.true_and]
    have:=rmay_loop s hs d (i+1) (by omega) k (by omega)
    rw[show ((i:Int)+1)=((i+1:Nat):Int) by omega]
    exact this
theorem rmay_f (s:ByteArray) (hs:s.size≤4611686018427387904) (k:Nat) (hk:s.size+1≤k):Pq.r1_May.f k s=some (mayB s):=by
 unfold Pq.r1_May.f mayB
 rw[mayL_split]
 have:=rmay_loop s hs s.size 0 (by omega) k (by omega)
 rw[List.drop_zero] at this
 exact this
end Go.Proofs.YtoghmeffpgbcfaaGreatDoor
end

section
namespace Go.Proofs.YtoghmeffpgbcfaaGreatDoor
theorem and2 {a b:ByteArray} (h:sm2 a b=true):sm a=true∧sm b=true:=by
 unfold sm2 at h
 rwa [Bool.and_eq_true] at h
def nat_Add.f (a0 a1:ByteArray):Option ByteArray:=if sm2 a0 a1=true then some (addS a0 a1) else none
theorem nat_Add.calls (a0 a1:ByteArray) (r:ByteArray) (w:World) (hL_:Laid w) (h:nat_Add.f a0 a1=some r) :
  Calls Tryz.prog 176 #[.string a0,.string a1] w fun e w'=>e=.returned (.string r)∧Below w.heap.size w w':=by
 unfold nat_Add.f at h
 split at h
 ·rename_i hp
  rw[← add_f (and2 hp).1 (and2 hp).2 0] at h
  exact Pr.nat_Add.calls _ a0 a1 r w hL_ h
 ·cases h
def nat_Sub.f (a0 a1:ByteArray):Option (ByteArray×Bool):=if sm2 a0 a1=true then some (subS a0 a1) else none
theorem nat_Sub.calls (a0 a1:ByteArray) (r1:ByteArray) (r2:Bool) (w:World) (hL_:Laid w) (h:nat_Sub.f a0 a1=some (r1,r2)) :
  Calls Tryz.prog 177 #[.string a0,.string a1] w fun e w'=>e=.returned (.tuple #[.string r1,.bool r2])∧Below w.heap.size w w':=by
 unfold nat_Sub.f at h
 split at h
 ·rename_i hp
  rw[← sub_f (and2 hp).1 (and2 hp).2 0] at h
  exact Pr.nat_Sub.calls _ a0 a1 r1 r2 w hL_ h
 ·cases h
def nat_Mul.f (a0 a1:ByteArray):Option ByteArray:=if sm2 a0 a1=true then some (mulS a0 a1) else none
theorem nat_Mul.calls (a0 a1:ByteArray) (r:ByteArray) (w:World) (hL_:Laid w) (h:nat_Mul.f a0 a1=some r) :
  Calls Tryz.prog 61 #[.string a0,.string a1] w fun e w'=>e=.returned (.string r)∧Below w.heap.size w w':=by
 unfold nat_Mul.f at h
 split at h
 ·rename_i hp
  rw[← mul_f (and2 hp).1 (and2 hp).2 0] at h
  exact Pr.nat_Mul.calls _ a0 a1 r w hL_ h
 ·cases h
def nat_Div.f (a0 a1:ByteArray):Option (ByteArray×ByteArray×Bool):=if sm2 a0 a1=true then some (divS a0 a1) else none
theorem nat_Div.calls (a0 a1:ByteArray) (r1 r2:ByteArray) (r3:Bool) (w:World) (hL_:Laid w) (h:nat_Div.f a0 a1=some (r1,r2,r3)) :
  Calls Tryz.prog 59 #[.string a0,.string a1] w fun e w'=>e=.returned (.tuple #[.string r1,.string r2,.bool r3])∧Below w.heap.size w w':=by
 unfold nat_Div.f at h
 split at h
 ·rename_i hp
  rw[← div_f (and2 hp).1 (and2 hp).2 0] at h
  exact Pr.nat_Div.calls _ a0 a1 r1 r2 r3 w hL_ h
 ·cases h
end Go.Proofs.YtoghmeffpgbcfaaGreatDoor
end

section
namespace Go.Proofs.YtoghmeffpgbcfaaGreatDoor
theorem drawn_below {w w':World} (h:Drawn0 w w'):Below w.heap.size w w':=by
 obtain⟨n,rfl⟩:=h
 exact pw_below_drewN (Below.refl _ _) n
def r1_May.f (a0:ByteArray):Option Bool:=if sm a0=true then some (mayB a0) else none
theorem r1_May.calls (a0:ByteArray) (r:Bool) (w:World) (h:r1_May.f a0=some r) :
  Calls Tryz.prog 44 #[.string a0] w fun e w'=>e=.returned (.bool r)∧Below w.heap.size w w':=by
 unfold r1_May.f at h
 split at h
 ·rename_i hp
  have hs:=sm_le hp
  rw[← rmay_f a0 (by omega) _ (Nat.le_refl _)] at h
  exact(Pq.r1_May.calls _ a0 r w h).mono fun e w' ⟨he,hw⟩=>⟨he,drawn_below hw⟩
 ·cases h
end Go.Proofs.YtoghmeffpgbcfaaGreatDoor
end

section
namespace Go.Proofs.YtoghmeffpgbcfaaGreatDoor
end Go.Proofs.YtoghmeffpgbcfaaGreatDoor
end

section
namespace Go.Proofs.YtoghmeffpgbcfaaGreatDoor
def sz (n:Nat):Nat:=(natB n).size
theorem sz_dig (n:Nat):sz n=(Lib.decDigits n).length:=natB_size n
theorem sz_pos (n:Nat):1≤sz n:=may_pos (mayB_natB n)
theorem lt_sz (n:Nat):n<10 ^ sz n:=by
 have h:=num_lt (dig_all n)
 rw[num_dig,← sz_dig] at h
 exact h
theorem sz_le {n k:Nat} (h:n<10 ^ k) (hk:1≤k):sz n≤k:=by
 rw[sz_dig]
 exact dig_len_le h hk
theorem sz_mono {m n:Nat} (h:m≤n):sz m≤sz n:=sz_le (Nat.lt_of_le_of_lt h (lt_sz n)) (sz_pos n)
theorem ten_mono {a b:Nat} (h:a≤b):(10:Nat) ^ a≤10 ^ b:=Nat.pow_le_pow_right (by omega) h
theorem sz_add (m n:Nat):sz (m+n)≤sz m+sz n:=by
 have h1:=lt_sz m
 have h2:=lt_sz n
 have h3:=sz_pos m
 have h4:=sz_pos n
 apply sz_le _ (by omega)
 have h5:=ten_mono (a:=sz m) (b:=sz m+sz n-1) (by omega)
 have h6:=ten_mono (a:=sz n) (b:=sz m+sz n-1) (by omega)
 obtain⟨k,hk⟩:∃ k,sz m+sz n=k+1:=⟨sz m+sz n-1,by omega⟩
 rw[hk,Nat.add_sub_cancel] at h5 h6
 rw[hk,Nat.pow_succ]
 omega
theorem sz_mul (m n:Nat):sz (m * n)≤sz m+sz n:=by
 have h1:=lt_sz m
 have h2:=lt_sz n
 apply sz_le _ (by have:=sz_pos m;omega)
 rw[Nat.pow_add]
 exact Nat.mul_lt_mul'' h1 h2
theorem sm_natB {n:Nat} (h:sz n≤50000):sm (natB n)=true:=decide_eq_true h
theorem sm2_natB {m n:Nat} (hm:sz m≤50000) (hn:sz n≤50000):sm2 (natB m) (natB n)=true:=by unfold sm2;rw[sm_natB hm,sm_natB hn];rfl
theorem may2_natB (m n:Nat):may2 (natB m) (natB n)=true:=may2_eq (mayB_natB m) (mayB_natB n)
theorem of_may {a:ByteArray} (h:mayB a=true):∃ n,a=natB n∧sz n=a.size:=⟨numB a,(natB_numB h).symm,by unfold sz;rw[natB_numB h]⟩
theorem natB_inj {m n:Nat}:natB m=natB n↔m=n:=⟨fun h=>by rw[← numB_natB m,h,numB_natB],fun h=>by rw[h]⟩
theorem toList_inj {a b:ByteArray}:a.toList=b.toList↔a=b:=by
 rw[ByteArray.toList_eq,ByteArray.toList_eq]
 exact⟨bext,fun h=>by rw[h]⟩
theorem natB_toList_inj {m n:Nat}:(natB m).toList=(natB n).toList↔m=n:=by rw[toList_inj,natB_inj]
theorem natB_toList_zero {m:Nat}:(natB m).toList=[48]↔m=0:=by
 rw[ByteArray.toList_eq]
 have:=list48 (mayB_natB m)
 rw[numB_natB] at this
 exact this
theorem natB_beq_zero (m:Nat):((natB m).toList == ([48]:List UInt8))=decide (m=0):=by
 rw[Bool.eq_iff_iff,beq_iff_eq,natB_toList_zero,decide_eq_true_eq]
theorem natB_one:natB 1=⟨#[49]⟩:=bext (by rw[natB_list,dig_small (by omega)];rfl)
theorem natB_zero:natB 0=⟨#[48]⟩:=bext (by rw[natB_list,dig_small (by omega)];rfl)
theorem natB_toList_one {m:Nat}:(natB m).toList=[49]↔m=1:=by
 have h:(natB 1).toList=[49]:=by rw[ByteArray.toList_eq,natB_list,dig_small (by omega)];rfl
 rw[← h]
 exact natB_toList_inj
theorem fMay {a:ByteArray} (h:a.size≤50000):nat_May.f a=some (mayB a):=may_f (decide_eq_true h)
theorem rMay {a:ByteArray} (h:a.size≤50000):r1_May.f a=some (mayB a):=by
 unfold r1_May.f
 rw[if_pos (show sm a=true from decide_eq_true h)]
theorem fAdd {m n:Nat} (hm:sz m≤50000) (hn:sz n≤50000):nat_Add.f (natB m) (natB n)=some (natB (m+n)):=by
 unfold nat_Add.f addS
 rw[if_pos (sm2_natB hm hn),if_pos (may2_natB m n),numB_natB,numB_natB]
theorem fMul {m n:Nat} (hm:sz m≤50000) (hn:sz n≤50000):nat_Mul.f (natB m) (natB n)=some (natB (m * n)):=by
 unfold nat_Mul.f mulS
 rw[if_pos (sm2_natB hm hn),if_pos (may2_natB m n),numB_natB,numB_natB]
theorem fSub {m n:Nat} (hm:sz m≤50000) (hn:sz n≤50000):nat_Sub.f (natB m) (natB n)=some (if n≤m then (natB (m-n),true) else (noB,false)):=by
 unfold nat_Sub.f subS
 rw[if_pos (sm2_natB hm hn),may2_natB,numB_natB,numB_natB,Bool.true_and]
 by_cases h:n≤m
 ·rw[if_pos (decide_eq_true h),if_pos h]
 ·rw[if_neg (by rw[decide_eq_true_eq];exact h),if_neg h]
theorem fDiv {m n:Nat} (hm:sz m≤50000) (hn:sz n≤50000) (h:n≠0):nat_Div.f (natB m) (natB n)=some (natB (m / n),natB (m % n),true):=by
 unfold nat_Div.f divS
 rw[if_pos (sm2_natB hm hn),may2_natB,numB_natB,numB_natB,Bool.true_and,if_pos (decide_eq_true h)]
end Go.Proofs.YtoghmeffpgbcfaaGreatDoor
end

section
namespace Go.Proofs.YtoghmeffpgbcfaaGreatDoor
def intB (z:Int):ByteArray:=if z<0 then ⟨#[45]⟩++natB z.natAbs else natB z.natAbs
def cutL (l:List UInt8):List UInt8×Bool:=match l with
 | 45 :: r=>(r,true)
 | l=>(l,false)
def amtB (s:ByteArray):ByteArray:=⟨(cutL s.data.toList).1.toArray⟩
def minusB (s:ByteArray):Bool:=(cutL s.data.toList).2
def mayW (s:ByteArray):Bool:=mayB (amtB s)&&(!minusB s || decide (numB (amtB s)≠0))
def numW (s:ByteArray):Int:=if minusB s=true then -(numB (amtB s):Int) else (numB (amtB s):Int)
theorem amtB_list (s:ByteArray):(amtB s).data.toList=(cutL s.data.toList).1:=rfl
theorem head_dig {l:List UInt8} (h:l.all isDig=true):cutL l=(l,false):=by
 unfold cutL
 split
 ·rename_i r
  simp only[List.all_cons,Bool.and_eq_true] at h
  exact absurd h.1 (by decide)
 ·rfl
theorem amtB_nat (n:Nat):amtB (natB n)=natB n:=by
 apply bext
 rw[amtB_list,natB_list,head_dig (dig_all n)]
theorem minusB_nat (n:Nat):minusB (natB n)=false:=by
 unfold minusB
 rw[natB_list,head_dig (dig_all n)]
theorem neg_list (n:Nat):((⟨#[45]⟩:ByteArray)++natB n).data.toList=45 :: Lib.decDigits n:=by
 rw[Joins.data_append,natB_list]
 rfl
theorem amtB_neg (n:Nat):amtB (⟨#[45]⟩++natB n)=natB n:=by
 apply bext
 rw[amtB_list,neg_list,natB_list]
 rfl
theorem minusB_neg (n:Nat):minusB (⟨#[45]⟩++natB n)=true:=by
 unfold minusB
 rw[neg_list]
 rfl
theorem amtB_int (z:Int):amtB (intB z)=natB z.natAbs:=by
 unfold intB
 split
 ·exact amtB_neg _
 ·exact amtB_nat _
theorem minusB_int (z:Int):minusB (intB z)=decide (z<0):=by
 unfold intB
 split
 ·rename_i h
  rw[minusB_neg,decide_eq_true h]
 ·rename_i h
  rw[minusB_nat,decide_eq_false h]
theorem mayW_int (z:Int):mayW (intB z)=true:=by
 unfold mayW
 rw[amtB_int,minusB_int,mayB_natB,numB_natB,Bool.true_and]
 by_cases h:z<0
 ·rw[decide_eq_true h,decide_eq_true (by omega:z.natAbs≠0)]
  rfl
 ·rw[decide_eq_false h]
  rfl
theorem numW_int (z:Int):numW (intB z)=z:=by
 unfold numW
 rw[amtB_int,minusB_int,numB_natB]
 by_cases h:z<0
 ·rw[if_pos (decide_eq_true h)]
  omega
 ·rw[if_neg (by rw[decide_eq_true_eq];exact h)]
  omega
theorem cut_back (l:List UInt8):l=if (cutL l).2=true then 45 :: (cutL l).1 else (cutL l).1:=by
 unfold cutL
 split <;> rfl
theorem intB_num {s:ByteArray} (h:mayW s=true):intB (numW s)=s:=by
 unfold mayW at h
 rw[Bool.and_eq_true] at h
 have hc:=cut_back s.data.toList
 have hb:=natB_numB h.1
 apply bext
 unfold intB numW
 cases hm:minusB s with
 | true =>
  have h2:=h.2
  rw[hm] at h2
  simp only[Bool.not_true,Bool.false_or,decide_eq_true_eq] at h2
  rw[if_pos rfl,if_pos (by omega),Int.natAbs_neg,Int.natAbs_natCast,hb,Joins.data_append,amtB_list]
  unfold minusB at hm
  rw[if_pos hm] at hc
  rw[hc]
  rfl
 | false =>
  simp only[Bool.false_eq_true,if_false]
  rw[if_neg (by omega),Int.natAbs_natCast,hb,amtB_list]
  unfold minusB at hm
  rw[hm,if_neg (by decide)] at hc
  exact hc.symm
theorem of_mayW {a:ByteArray} (h:mayW a=true):∃ z,a=intB z:=⟨numW a,(intB_num h).symm⟩
theorem intB_inj {x y:Int}:intB x=intB y↔x=y:=⟨fun h=>by rw[← numW_int x,h,numW_int],fun h=>by rw[h]⟩
theorem intB_toList_inj {x y:Int}:(intB x).toList=(intB y).toList↔x=y:=by rw[toList_inj,intB_inj]
theorem intB_nat (n:Nat):intB (n:Int)=natB n:=by
 unfold intB
 rw[if_neg (by omega),Int.natAbs_natCast]
theorem intB_nonneg {z:Int} (h:0≤z):intB z=natB z.toNat:=by
 unfold intB
 rw[if_neg (by omega)]
 congr 1
 omega
def szI (z:Int):Nat:=(intB z).size
theorem szI_le (z:Int):szI z≤sz z.natAbs+1:=by
 unfold szI intB
 split
 ·rw[ByteArray.size_append]
  show 1+sz _≤_
  omega
 ·show sz _≤_
  omega
theorem le_szI (z:Int):sz z.natAbs≤szI z:=by
 unfold szI intB
 split
 ·rw[ByteArray.size_append]
  show sz _≤1+sz _
  omega
 ·exact Nat.le_refl _
end Go.Proofs.YtoghmeffpgbcfaaGreatDoor
end

section
namespace Go.Proofs.YtoghmeffpgbcfaaGreatDoor
def may2W (a b:ByteArray):Bool:=mayW a&&mayW b
def wdivS (a b:ByteArray):ByteArray×ByteArray×Bool:=if (may2W a b&&decide (numW b≠0))=true then (intB (numW a / numW b),intB (numW a % numW b),true) else (noB,noB,false)
def wsignS (a:ByteArray):Int:=if mayW a=true then Lib.compareInt (numW a) 0 else 0
def wabsS (a:ByteArray):ByteArray:=if mayW a=true then natB (numW a).natAbs else noB
def wnegS (a:ByteArray):ByteArray:=if mayW a=true then intB (-numW a) else noB
def withS (minus:Bool) (n:Nat):Int:=if minus=true then -(n:Int) else n
theorem withS_text (minus:Bool) (n:Nat):(if minus=true then (if n=0 then natB n else (⟨#[45]⟩:ByteArray)++natB n) else natB n)=intB (withS minus n):=by
 cases minus with
 | true =>
  unfold withS intB
  simp only[if_true]
  by_cases h:n=0
  ·subst h
   rw[if_pos rfl,if_neg (by omega)]
   rfl
  ·rw[if_neg h,if_pos (by omega),Int.natAbs_neg,Int.natAbs_natCast]
 | false =>
  unfold withS
  simp only[Bool.false_eq_true,if_false]
  exact(intB_nat n).symm
theorem ediv_pos {x:Int} {b q r:Int} (hb:0<b) (h1:r+b * q=x) (h2:0≤r) (h3:r<b):x / b=q∧x % b=r:=(Int.ediv_emod_unique hb).2 ⟨h1,h2,h3⟩
theorem divW {m n:Nat} (hn:n≠0) (a b:Bool) (ha:a=true→m≠0) :
  (withS a m / withS b n=if a=true∧m % n≠0 then withS (a != b) (m / n+1) else withS (a != b) (m / n)) ∧
  (withS a m % withS b n=if a=true∧m % n≠0 then ((n-m % n:Nat):Int) else ((m % n:Nat):Int)):=by
 have hdm:=Nat.div_add_mod m n
 have hlt:=Nat.mod_lt m (show 0<n by omega)
 have hc:(n:Int) * ((m / n:Nat):Int)+((m % n:Nat):Int)=(m:Int):=by
  rw[← Int.natCast_mul,← Int.natCast_add,hdm]
 generalize m / n=q at *
 generalize m % n=r at *
 have hbase:(withS a m / (n:Int)=if a=true∧r≠0 then -((q+1:Nat):Int) else withS a q)∧(withS a m % (n:Int)=if a=true∧r≠0 then ((n-r:Nat):Int) else (r:Int)):=by
  cases a with
  | false =>
   simp only[Bool.false_eq_true,false_and,if_false,withS]
   exact ediv_pos (by omega) (by omega) (by omega) (by omega)
  | true =>
   by_cases hr:r=0
   ·subst hr
    simp only[ne_eq,not_true_eq_false,and_false,if_false,withS,if_true]
    exact ediv_pos (by omega) (by rw[Int.mul_neg];omega) (by omega) (by omega)
   ·rw[if_pos ⟨rfl,hr⟩,if_pos ⟨rfl,hr⟩]
    simp only[withS,if_true]
    refine ediv_pos (by omega) ?_ (by omega) (by omega)
    rw[Int.mul_neg,Int.natCast_add,Int.mul_add]
    omega
 cases b with
 | false =>
  have e:withS false n=(n:Int):=rfl
  rw[e,hbase.1,hbase.2]
  refine⟨?_,rfl⟩
  cases a with
  | false=>rfl
  | true=>rfl
 | true =>
  have e:withS true n=-(n:Int):=rfl
  rw[e,Int.ediv_neg,Int.emod_neg,hbase.1,hbase.2]
  refine⟨?_,rfl⟩
  cases a with
  | false =>
   simp only[Bool.false_eq_true,false_and,if_false,withS]
   rfl
  | true =>
   by_cases hr:r=0
   ·subst hr
    simp only[ne_eq,not_true_eq_false,and_false,if_false,withS,if_true,Int.neg_neg]
    rfl
   ·rw[if_pos ⟨rfl,hr⟩,if_pos ⟨rfl,hr⟩,Int.neg_neg]
    rfl
end Go.Proofs.YtoghmeffpgbcfaaGreatDoor
end

section
namespace Go.Proofs.YtoghmeffpgbcfaaGreatDoor
def rT (q:Rat):ByteArray×ByteArray:=(intB q.num,natB q.den)
def mayR (x:ByteArray×ByteArray):Bool:=mayW x.1&&mayB x.2&&decide (numB x.2≠0)&&(Nat.gcd (numW x.1).natAbs (numB x.2) == 1)
def ratR (x:ByteArray×ByteArray):Rat:=mkRat (numW x.1) (numB x.2)
theorem ratR_rT (q:Rat):ratR (rT q)=q:=by
 unfold ratR rT
 rw[numW_int,numB_natB,Rat.mkRat_self]
theorem mayR_rT (q:Rat):mayR (rT q)=true:=by
 unfold mayR rT
 have h:Nat.gcd q.num.natAbs q.den=1:=q.reduced
 rw[mayW_int,mayB_natB,numW_int,numB_natB,h,decide_eq_true q.den_nz]
 rfl
theorem rT_ratR {x:ByteArray×ByteArray} (h:mayR x=true):rT (ratR x)=x:=by
 unfold mayR at h
 simp only[Bool.and_eq_true,decide_eq_true_eq,beq_iff_eq] at h
 obtain⟨⟨⟨h1,h2⟩,h3⟩,h4⟩:=h
 have h4':Nat.gcd (numB x.2) (numW x.1).natAbs=1:=by rw[Nat.gcd_comm];exact h4
 unfold rT ratR
 rw[Rat.num_mkRat,Rat.den_mkRat,if_neg h3,if_neg h3,h4',Nat.div_one,natB_numB h2]
 have e:numW x.1 / ((1:Nat):Int)=numW x.1:=Int.ediv_one _
 rw[e,intB_num h1]
theorem of_mayR {x:ByteArray×ByteArray} (h:mayR x=true):∃ q,x=rT q:=⟨ratR x,(rT_ratR h).symm⟩
theorem red_num {x y:Int} (hy:y≠0):(if y<0 then -x else x) / ((Nat.gcd x.natAbs y.natAbs:Nat):Int)=(Rat.divInt x y).num:=by
 rw[Rat.num_divInt]
 have e1:Int.gcd y x=Nat.gcd x.natAbs y.natAbs:=Nat.gcd_comm _ _
 rw[e1]
 congr 1
 by_cases h:y<0
 ·rw[if_pos h,Int.sign_eq_neg_one_of_neg h]
  omega
 ·rw[if_neg h,Int.sign_eq_one_of_pos (by omega)]
  omega
theorem red_den {x y:Int} (hy:y≠0):(y.natAbs:Int) / ((Nat.gcd x.natAbs y.natAbs:Nat):Int)=((Rat.divInt x y).den:Int):=by
 rw[Rat.den_divInt,if_neg hy]
 have e1:Int.gcd y x=Nat.gcd x.natAbs y.natAbs:=Nat.gcd_comm _ _
 rw[e1,Int.natCast_ediv]
def cmpQ (x y:Rat):Int:=if x<y then -1 else if y<x then 1 else 0
theorem cmpQ_int (x y:Rat):Lib.compareInt (x.num * (y.den:Int)) (y.num * (x.den:Int))=cmpQ x y:=by
 unfold Lib.compareInt cmpQ
 by_cases h1:x<y
 ·rw[if_pos h1,if_pos ((Rat.lt_iff x y).1 h1)]
 ·rw[if_neg h1,if_neg (fun h=>h1 ((Rat.lt_iff x y).2 h))]
  by_cases h2:y<x
  ·rw[if_pos h2,if_pos ((Rat.lt_iff y x).1 h2)]
  ·rw[if_neg h2,if_neg (fun h=>h2 ((Rat.lt_iff y x).2 h))]
def signQ (x:Rat):Int:=Lib.compareInt x.num 0
theorem signQ_cmp (x:Rat):signQ x=cmpQ x 0:=by
 have h:=cmpQ_int x 0
 have e1:(0:Rat).den=1:=rfl
 have e2:(0:Rat).num=0:=rfl
 rw[e1,e2,Int.zero_mul] at h
 rw[← h]
 unfold signQ
 congr 1
 exact(Int.mul_one _).symm
end Go.Proofs.YtoghmeffpgbcfaaGreatDoor
end

section
namespace Go.Proofs.YtoghmeffpgbcfaaGreatDoor
def tms (b n:Nat):Nat×Nat:=if h:2≤b∧0<n∧n % b=0 then ((tms b (n / b)).1+1,(tms b (n / b)).2) else (0,n)
 termination_by n
 decreasing_by all_goals exact Nat.div_lt_self h.2.1 h.1
theorem tms_step {b n:Nat} (hb:2≤b) (hn:0<n) (h:n % b=0):tms b n=((tms b (n / b)).1+1,(tms b (n / b)).2):=by
 rw[tms,dif_pos ⟨hb,hn,h⟩]
theorem tms_stop {b n:Nat} (h:n % b≠0):tms b n=(0,n):=by
 rw[tms,dif_neg (fun z=>h z.2.2)]
theorem tms_spec {b:Nat} (hb:2≤b):∀ n:Nat,0<n→b ^ (tms b n).1 * (tms b n).2=n∧(tms b n).2 % b≠0
 | n,hn=>by
  by_cases h:n % b=0
  ·have hd:b ∣ n:=Nat.dvd_of_mod_eq_zero h
   have h1:0<n / b:=Nat.div_pos (Nat.le_of_dvd hn hd) (by omega)
   have ih:=tms_spec hb (n / b) h1
   rw[tms_step hb hn h]
   refine⟨?_,ih.2⟩
   show b ^ ((tms b (n / b)).1+1) * (tms b (n / b)).2=n
   rw[Nat.pow_succ,Nat.mul_comm (b ^ _) b,Nat.mul_assoc,ih.1,Nat.mul_div_cancel' hd]
  ·rw[tms_stop h]
   exact⟨by simp,h⟩
 termination_by n=>n
 decreasing_by exact Nat.div_lt_self hn hb
def finD (n:Nat):Bool:=(tms 5 (tms 2 n).2).2 == 1
def plD (n:Nat):Nat:=max (tms 2 n).1 (tms 5 (tms 2 n).2).1
theorem co_p {p n:Nat} (hp:p=2∨p=5) (h:n % p≠0):Nat.Coprime n p:=by
 unfold Nat.Coprime
 have h1:=Nat.gcd_dvd_right n p
 have h2:=Nat.gcd_dvd_left n p
 have h3:Nat.gcd n p≤p:=Nat.le_of_dvd (by omega) h1
 rcases hp with rfl|rfl
 ·have h4:Nat.gcd n 2=0∨Nat.gcd n 2=1∨Nat.gcd n 2=2:=by omega
  rcases h4 with e|e|e <;> rw[e] at h1 h2 ⊢ <;> first|omega|(exact absurd h1 (by decide))
 ·have h4:Nat.gcd n 5=0∨Nat.gcd n 5=1∨Nat.gcd n 5=2∨Nat.gcd n 5=3∨Nat.gcd n 5=4∨Nat.gcd n 5=5:=by omega
  rcases h4 with e|e|e|e|e|e <;> rw[e] at h1 h2 ⊢ <;> first|omega|(exact absurd h1 (by decide))
theorem parts {n:Nat} (hn:0<n):∃ a c r,(tms 2 n).1=a∧(tms 5 (tms 2 n).2).1=c∧(tms 5 (tms 2 n).2).2=r∧2 ^ a * (5 ^ c * r)=n∧(5 ^ c * r) % 2≠0∧r % 2≠0∧r % 5≠0:=by
 obtain⟨h1,h2⟩:=tms_spec (b:=2) (by decide) n hn
 have hp:0<(tms 2 n).2:=by
  rcases Nat.eq_zero_or_pos (tms 2 n).2 with e|e
  ·rw[e] at h2;exact absurd rfl h2
  ·exact e
 obtain⟨h3,h4⟩:=tms_spec (b:=5) (by decide) _ hp
 refine⟨_,_,_,rfl,rfl,rfl,?_,?_,?_,h4⟩
 ·rw[h3,h1]
 ·rw[h3];exact h2
 ·intro e
  apply h2
  rw[← h3,Nat.mul_mod,e,Nat.mul_zero,Nat.zero_mod]
theorem ten_pow (k:Nat):(10:Nat) ^ k=2 ^ k * 5 ^ k:=by rw[← Nat.mul_pow]
theorem dvd_ten {n:Nat} (hn:0<n) (k:Nat):n ∣ 10 ^ k↔finD n=true∧plD n≤k:=by
 obtain⟨a,c,r,ha,hc,hr,h1,h2,h3,h4⟩:=parts hn
 unfold finD plD
 rw[hr,hc,ha,beq_iff_eq,Nat.max_le]
 have c2:Nat.Coprime r 2:=co_p (.inl rfl) h3
 have c5:Nat.Coprime r 5:=co_p (.inr rfl) h4
 constructor
 ·intro h
  have hr10:r ∣ 2 ^ k * 5 ^ k:=by
   rw[← ten_pow]
   refine Nat.dvd_trans ⟨2 ^ a * 5 ^ c,?_⟩ h
   rw[← h1,Nat.mul_comm r,Nat.mul_assoc]
  have r1:r=1:=by
   have e1:=Nat.Coprime.pow 1 k c2
   have e2:=Nat.Coprime.pow 1 k c5
   rw[Nat.pow_one] at e1 e2
   exact Nat.Coprime.eq_one_of_dvd e2 (Nat.Coprime.dvd_of_dvd_mul_left e1 hr10)
  refine⟨r1,?_,?_⟩
  ·have d2:2 ^ a ∣ 5 ^ k * 2 ^ k:=by
    rw[Nat.mul_comm,← ten_pow]
    exact Nat.dvd_trans ⟨5 ^ c * r,h1.symm⟩ h
   have co:Nat.Coprime (2 ^ a) (5 ^ k):=Nat.Coprime.pow a k (by decide)
   exact(Nat.pow_dvd_pow_iff_le_right (by decide)).1 (Nat.Coprime.dvd_of_dvd_mul_left co d2)
  ·have d5:5 ^ c ∣ 2 ^ k * 5 ^ k:=by
    rw[← ten_pow]
    refine Nat.dvd_trans ⟨2 ^ a * r,?_⟩ h
    rw[← h1,Nat.mul_comm (5 ^ c) (2 ^ a * r),Nat.mul_assoc,Nat.mul_comm r]
   have co:Nat.Coprime (5 ^ c) (2 ^ k):=Nat.Coprime.pow c k (by decide)
   exact(Nat.pow_dvd_pow_iff_le_right (by decide)).1 (Nat.Coprime.dvd_of_dvd_mul_left co d5)
 ·rintro⟨r1,ha',hc'⟩
  rw[← h1,r1,Nat.mul_one,ten_pow]
  exact Nat.mul_dvd_mul (Nat.pow_dvd_pow 2 ha') (Nat.pow_dvd_pow 5 hc')
theorem plD_zero {n:Nat} (hn:0<n) (hf:finD n=true) (h:plD n=0):n=1:=by
 have:=(dvd_ten hn 0).2 ⟨hf,by omega⟩
 rw[Nat.pow_zero] at this
 exact Nat.dvd_one.1 this
def cutAt (c:UInt8):List UInt8→Option (List UInt8×List UInt8)
 | []=>none
 | x :: r=>if x=c then some ([],r) else (cutAt c r).map fun p=>(x :: p.1,p.2)
theorem cutAt_none {c:UInt8}:∀ {l:List UInt8},c∉l→cutAt c l=none
 | [],_=>rfl
 | x :: r,h=>by
  have h1:¬ x=c:=fun e=>h (by rw[e];exact List.mem_cons_self)
  have h2:c∉r:=fun e=>h (List.mem_cons_of_mem _ e)
  unfold cutAt
  rw[if_neg h1,cutAt_none h2]
  rfl
theorem cutAt_some {c:UInt8}:∀ {a:List UInt8} (b:List UInt8),c∉a→cutAt c (a++c :: b)=some (a,b)
 | [],b,_=>by
  show cutAt c (c :: b) = _
  unfold cutAt
  rw[if_pos rfl]
 | x :: r,b,h=>by
  have h1:¬ x=c:=fun e=>h (by rw[e];exact List.mem_cons_self)
  have h2:c∉r:=fun e=>h (List.mem_cons_of_mem _ e)
  show cutAt c (x :: (r++c :: b)) = _
  unfold cutAt
  rw[if_neg h1,cutAt_some b h2]
  rfl
def digL (l:List UInt8):Bool:=decide (l≠[])&&l.all isDig
theorem digL_dec (n:Nat):digL (Lib.decDigits n)=true:=by
 unfold digL
 rw[dig_all,decide_eq_true (dig_ne n)]
 rfl
theorem not_mem_dig {c:UInt8} (hc:isDig c=false) {l:List UInt8} (h:l.all isDig=true):c∉l:=by
 intro hm
 have:=List.all_eq_true.1 h c hm
 rw[hc] at this
 exact absurd this (by decide)
theorem num_zeros:∀ (k:Nat) (l:List UInt8),num (List.replicate k 48++l)=num l
 | 0,l=>rfl
 | k+1,l=>by
  rw[List.replicate_succ,List.cons_append,num_cons,num_zeros k l]
  have:(48:UInt8).toNat-48=0:=rfl
  rw[this,Nat.zero_mul,Nat.zero_add]
def sgL (z:Int):List UInt8:=if z<0 then [45] else []
theorem intL (z:Int):(intB z).data.toList=sgL z++Lib.decDigits z.natAbs:=by
 unfold intB sgL
 by_cases h:z<0
 ·rw[if_pos h,if_pos h,neg_list]
  rfl
 ·rw[if_neg h,if_neg h,natB_list]
  rfl
theorem cutL_sg (z:Int) {A:List UInt8} (hA:A.head?≠some 45):cutL (sgL z++A)=(A,decide (z<0)):=by
 unfold sgL
 by_cases h:z<0
 ·rw[if_pos h,decide_eq_true h]
  rfl
 ·rw[if_neg h,decide_eq_false h]
  show cutL A = _
  unfold cutL
  split
  ·exact absurd rfl hA
  ·rfl
theorem head_all {A B:List UInt8} (h:A.all isDig=true) (h1:A≠[]):(A++B).head?≠some 45:=by
 cases A with
 | nil=>exact absurd rfl h1
 | cons x r =>
  simp only[List.cons_append,List.head?_cons]
  intro e
  have e':x=45:=Option.some.inj e
  subst e'
  simp only[List.all_cons,Bool.and_eq_true] at h
  exact absurd h.1 (by decide)
def parseA (s:List UInt8):Option Rat :=
 match cutAt 47 (cutL s).1 with
 | some (a,b)=>if (digL a&&digL b)=true then (if num b=0 then none else some (Rat.divInt (withS (cutL s).2 (num a)) (num b:Int))) else none
 | none=>match cutAt 46 (cutL s).1 with
  | some (a,b)=>if (digL a&&digL b)=true then some (Rat.divInt (withS (cutL s).2 (num (a++b))) ((10 ^ b.length:Nat):Int)) else none
  | none=>if digL (cutL s).1=true then some ((withS (cutL s).2 (num (cutL s).1):Int):Rat) else none
def parseL (s:List UInt8):Option Rat:=if 1000<s.length then none else parseA s
def padL (n:Nat) (l:List UInt8):List UInt8:=List.replicate (n+1-l.length) 48++l
def digsL (x:Rat):List UInt8:=padL (plD x.den) (Lib.decDigits (x.num.natAbs * (10 ^ plD x.den / x.den)))
def printL (x:Rat):List UInt8 :=
 if finD x.den=true then
  (if plD x.den=0 then (intB x.num).data.toList else sgL x.num++((digsL x).take ((digsL x).length-plD x.den)++46 :: (digsL x).drop ((digsL x).length-plD x.den)))
 else (intB x.num).data.toList++47 :: Lib.decDigits x.den
theorem withS_back (z:Int):withS (decide (z<0)) z.natAbs=z:=by
 unfold withS
 by_cases h:z<0
 ·rw[if_pos (decide_eq_true h)];omega
 ·rw[if_neg (by rw[decide_eq_true_eq];exact h)];omega
theorem withS_times (b:Bool) (m u:Nat):withS b (m * u)=withS b m * (u:Int):=by
 unfold withS
 cases b <;> simp[Int.natCast_mul,Int.neg_mul]
theorem pad_len (n:Nat) (l:List UInt8):n+1≤(padL n l).length:=by
 unfold padL
 rw[List.length_append,List.length_replicate]
 omega
theorem pad_all {n:Nat} {l:List UInt8} (h:l.all isDig=true):(padL n l).all isDig=true:=by
 unfold padL
 rw[List.all_append,h,Bool.and_true,List.all_eq_true]
 intro c hc
 rw[List.eq_of_mem_replicate hc]
 rfl
theorem pad_num (n:Nat) (l:List UInt8):num (padL n l)=num l:=num_zeros _ _
theorem all_take {l:List UInt8} (h:l.all isDig=true) (k:Nat):(l.take k).all isDig=true:=by
 rw[List.all_eq_true] at h ⊢
 exact fun c hc=>h c (List.mem_of_mem_take hc)
theorem all_drop {l:List UInt8} (h:l.all isDig=true) (k:Nat):(l.drop k).all isDig=true:=by
 rw[List.all_eq_true] at h ⊢
 exact fun c hc=>h c (List.mem_of_mem_drop hc)
theorem parse_all (x:Rat):parseA (printL x)=some x:=by
 have hd:0<x.den:=Nat.pos_of_ne_zero x.den_nz
 unfold parseA printL
 by_cases hf:finD x.den=true
 ·rw[if_pos hf]
  by_cases h0:plD x.den=0
  ·rw[if_pos h0,intL,cutL_sg _ (by have:=head_all (B:=[]) (dig_all x.num.natAbs) (dig_ne _);rwa [List.append_nil] at this)]
   have h1:=plD_zero hd hf h0
   simp only[cutAt_none (not_mem_dig (c:=47) (by decide) (dig_all x.num.natAbs)),cutAt_none (not_mem_dig (c:=46) (by decide) (dig_all x.num.natAbs))]
   rw[if_pos (digL_dec _),num_dig,withS_back]
   congr 1
   have h2:=Rat.num_divInt_den x
   rw[h1] at h2
   have h3:=Rat.num_divInt_den (x.num:Rat)
   rw[Rat.num_intCast,Rat.den_intCast] at h3
   exact h3.symm.trans h2
  ·rw[if_neg h0]
   have hdv:=(dvd_ten hd (plD x.den)).2 ⟨hf,Nat.le_refl _⟩
   have hn:=pad_num (plD x.den) (Lib.decDigits (x.num.natAbs * (10 ^ plD x.den / x.den)))
   have hal:=pad_all (n:=plD x.den) (dig_all (x.num.natAbs * (10 ^ plD x.den / x.den)))
   have hle:=pad_len (plD x.den) (Lib.decDigits (x.num.natAbs * (10 ^ plD x.den / x.den)))
   unfold digsL
   rw[num_dig] at hn
   generalize padL (plD x.den) (Lib.decDigits (x.num.natAbs * (10 ^ plD x.den / x.den)))=D at *
   have a1:=all_take hal (D.length-plD x.den)
   have a2:=all_drop hal (D.length-plD x.den)
   have n1:D.take (D.length-plD x.den)≠[]:=by
    intro e
    have:=congrArg List.length e
    rw[List.length_take,List.length_nil] at this
    omega
   have l2:(D.drop (D.length-plD x.den)).length=plD x.den:=by rw[List.length_drop];omega
   have n2:D.drop (D.length-plD x.den)≠[]:=by
    intro e
    rw[e,List.length_nil] at l2
    omega
   have nm:(47:UInt8)∉D.take (D.length-plD x.den)++46 :: D.drop (D.length-plD x.den):=by
    rw[List.mem_append,List.mem_cons]
    rintro (h|h|h)
    ·exact not_mem_dig (by decide) a1 h
    ·exact absurd h (by decide)
    ·exact not_mem_dig (by decide) a2 h
   rw[cutL_sg _ (head_all a1 n1)]
   simp only[cutAt_none nm,cutAt_some (D.drop (D.length-plD x.den)) (not_mem_dig (c:=46) (by decide) a1)]
   rw[if_pos (by unfold digL;rw[a1,a2,decide_eq_true n1,decide_eq_true n2];rfl),List.take_append_drop,hn,l2,withS_times,withS_back]
   congr 1
   obtain⟨u,hu⟩:=hdv
   have e1:10 ^ plD x.den / x.den=u:=by rw[hu,Nat.mul_div_cancel_left _ hd]
   have hu0:(u:Int)≠0:=by
    intro e
    have e':u=0:=by omega
    rw[e',Nat.mul_zero] at hu
    have:=Nat.pow_le_pow_right (show 0<10 by decide) (Nat.zero_le (plD x.den))
    rw[Nat.pow_zero] at this
    omega
   rw[e1,hu,Int.natCast_mul,Rat.divInt_mul_right hu0,Rat.num_divInt_den]
 ·rw[if_neg hf,intL,List.append_assoc,cutL_sg _ (head_all (dig_all _) (dig_ne _))]
  simp only[cutAt_some (Lib.decDigits x.den) (not_mem_dig (c:=47) (by decide) (dig_all x.num.natAbs))]
  rw[if_pos (by rw[digL_dec,digL_dec];rfl),num_dig,num_dig,if_neg x.den_nz,withS_back,Rat.num_divInt_den]
theorem parse_print (x:Rat) (hl:(printL x).length≤1000):parseL (printL x)=some x:=by
 unfold parseL
 rw[if_neg (by omega),parse_all]
end Go.Proofs.YtoghmeffpgbcfaaGreatDoor
end

section
namespace Go.Proofs.YtoghmeffpgbcfaaGreatDoor.Pw
def errW:Option Int→Value
 | none=>.nilIface
 | some c=>.iface 0 (.int .i64 c)
theorem errW_none:errW none=.nilIface:=rfl
theorem errW_some (c:Int):errW (some c)=.iface 0 (.int .i64 c):=rfl
end Go.Proofs.YtoghmeffpgbcfaaGreatDoor.Pw
end

section
namespace Go.Proofs.YtoghmeffpgbcfaaGreatDoor.Pw
def stringslite_HasPrefix.f (a0:ByteArray) (a1:ByteArray):Option (Bool):=if (a0.size:Int)≥(a1.size:Int) then (if 0≤(a1.size:Int) then (if (a1.size:Int)≤(a0.size:Int) then (some ((a0.extract 0 ((a1.size:Int):Int).toNat).toList == a1.toList)) else (none)) else (none)) else (some false)
set_option maxHeartbeats 8000000 in
set_option maxRecDepth 100000 in
theorem stringslite_HasPrefix.calls (a0:ByteArray) (a1:ByteArray) (r:Bool) (w:World) (h:stringslite_HasPrefix.f a0 a1=some r) :
  Calls Tryz.prog 129 #[.string a0,.string a1] w fun e w'=>e=.returned (.bool r)∧Drawn0 w w':=by
 have H:=h;unfold stringslite_HasPrefix.f at H;clear h;by_cases c3:(a0.size:Int)≥(a1.size:Int)
 ·rw[if_pos c3] at H;have c3b0:decide ((a1.size:Int)≤(a0.size:Int))=true:=decide_eq_true c3;have c3b1:decide (a1.size≤a0.size)=true:=decide_eq_true (Int.ofNat_le.mp c3);clear c3;by_cases c4:0≤(a1.size:Int)
  ·rw[if_pos c4] at H;have c4b0:=eq_true c4;have c4b1:decide (0≤(a1.size:Int))=true:=decide_eq_true c4;clear c4;by_cases c5:(a1.size:Int)≤(a0.size:Int)
   ·rw[if_pos c5] at H;have c5b0:=eq_true c5;have c5b1:decide ((a1.size:Int)≤(a0.size:Int))=true:=decide_eq_true c5;clear c5;obtain rfl:=Option.some.inj H;go_enter Tryz.func129,Tryz.ntmps129;go_wp2
    go_ret
    exact⟨by first|rfl|(simp;done)|(simp[*];done),d0_⟩
   ·rw[if_neg c5] at H;exact absurd H (by simp)
  ·rw[if_neg c4] at H;exact absurd H (by simp)
 ·rw[if_neg c3] at H;have c3b0:decide ((a1.size:Int)≤(a0.size:Int))=false:=decide_eq_false c3;have c3b1:decide (a1.size≤a0.size)=false:=decide_eq_false (fun h=>c3 (Int.ofNat_le.mpr h));clear c3;obtain rfl:=Option.some.inj H;go_enter Tryz.func129,Tryz.ntmps129;go_wp2
  go_ret
  exact⟨by first|rfl|(simp;done)|(simp[*];done),d0_⟩
def stringslite_CutPrefix.f (a0:ByteArray) (a1:ByteArray):Option (ByteArray×Bool):=(stringslite_HasPrefix.f a0 a1).bind fun t101=>(if t101=true then (if 0≤(a1.size:Int) then (if (a1.size:Int)≤(a0.size:Int) then (some (a0.extract ((a1.size:Int):Int).toNat a0.size,true)) else (none)) else (none)) else (some (a0,false)))
set_option maxHeartbeats 8000000 in
set_option maxRecDepth 100000 in
theorem stringslite_CutPrefix.calls (a0:ByteArray) (a1:ByteArray) (r1:ByteArray) (r2:Bool) (w:World) (h:stringslite_CutPrefix.f a0 a1=some (r1,r2)) :
  Calls Tryz.prog 124 #[.string a0,.string a1] w fun e w'=>e=.returned (.tuple #[.string r1,.bool r2])∧Drawn0 w w':=by
 have H:=h;unfold stringslite_CutPrefix.f at H;clear h;obtain⟨t101,A3,H⟩:=bi_ H;by_cases c4:t101=true
 ·subst c4;rw[if_pos rfl] at H;by_cases c5:0≤(a1.size:Int)
  ·rw[if_pos c5] at H;have c5b0:=eq_true c5;have c5b1:decide (0≤(a1.size:Int))=true:=decide_eq_true c5;clear c5;by_cases c6:(a1.size:Int)≤(a0.size:Int)
   ·rw[if_pos c6] at H;have c6b0:=eq_true c6;have c6b1:decide ((a1.size:Int)≤(a0.size:Int))=true:=decide_eq_true c6;clear c6;simp only[Option.some.injEq,Prod.mk.injEq] at H;obtain⟨rfl,rfl⟩:=H;go_enter Tryz.func124,Tryz.ntmps124
    go_wp2_with (first|(refine gl_ 8 Tryz.func129 #[.string a0,.string a1] ?_;refine mo_ (stringslite_HasPrefix.calls a0 a1 true _ A3.out) ?_;rintro w' ⟨nd,rfl⟩))
    go_ret2;exact⟨by first|rfl|(simp;done)|(simp[*];done),d0_⟩
   ·rw[if_neg c6] at H;exact absurd H (by simp)
  ·rw[if_neg c5] at H;exact absurd H (by simp)
 ·replace c4:=Bool.eq_false_iff.mpr c4;subst c4;rw[if_neg nf_] at H;simp only[Option.some.injEq,Prod.mk.injEq] at H;obtain⟨rfl,rfl⟩:=H;go_enter Tryz.func124,Tryz.ntmps124
  go_wp2_with (first|(refine gl_ 8 Tryz.func129 #[.string a0,.string a1] ?_;refine mo_ (stringslite_HasPrefix.calls a0 a1 false _ A3.out) ?_;rintro w' ⟨nd,rfl⟩))
  go_ret2;exact⟨by first|rfl|(simp;done)|(simp[*];done),d0_⟩
def strings_CutPrefix.f (a0:ByteArray) (a1:ByteArray):Option (ByteArray×Bool):=(stringslite_CutPrefix.f a0 a1).bind fun bt102=>(some (bt102.1,bt102.2))
set_option maxHeartbeats 8000000 in
set_option maxRecDepth 100000 in
theorem strings_CutPrefix.calls (a0:ByteArray) (a1:ByteArray) (r1:ByteArray) (r2:Bool) (w:World) (h:strings_CutPrefix.f a0 a1=some (r1,r2)) :
  Calls Tryz.prog 82 #[.string a0,.string a1] w fun e w'=>e=.returned (.tuple #[.string r1,.bool r2])∧Drawn0 w w':=by
 have H:=h;unfold strings_CutPrefix.f at H;clear h;obtain⟨⟨t102,t103⟩,A3,H⟩:=bi_ H;(try dsimp only at H);simp only[Option.some.injEq,Prod.mk.injEq] at H;obtain⟨rfl,rfl⟩:=H;go_enter Tryz.func82,Tryz.ntmps82
 go_wp2_with (first|(refine gl_ 8 Tryz.func124 #[.string a0,.string a1] ?_;refine mo_ (stringslite_CutPrefix.calls a0 a1 t102 t103 _ A3.out) ?_;rintro w' ⟨nd,rfl⟩))
 go_ret2;exact⟨by first|rfl|(simp;done)|(simp[*];done),d0_⟩
def whole_read.f (a0:ByteArray):Option (ByteArray×Bool×Bool):=(strings_CutPrefix.f a0 (⟨#[45]⟩:ByteArray)).bind fun bt105=>((nat_May.f bt105.1).bind fun t107=>(if t107=true then (if bt105.2=true then (if bt105.1.toList=([48]:List UInt8) then (some ((⟨#[]⟩:ByteArray),false,false)) else (some (bt105.1,bt105.2,true))) else (some (bt105.1,bt105.2,true))) else (some ((⟨#[]⟩:ByteArray),false,false))))
set_option maxHeartbeats 8000000 in
set_option maxRecDepth 100000 in
theorem whole_read.calls (a0:ByteArray) (r1:ByteArray) (r2:Bool) (r3:Bool) (w:World) (h:whole_read.f a0=some (r1,r2,r3)) :
  Calls Tryz.prog 106 #[.string a0] w fun e w'=>e=.returned (.tuple #[.agg #[.string r1,.bool r2],.bool r3])∧Below w.heap.size w w':=by
 have hu107:=Tryz.underlying107;have HB:=Aside0.mk (Below.refl w.heap.size w);have H:=h;unfold whole_read.f at H;clear h;obtain⟨⟨t105,t106⟩,A2,H⟩:=bi_ H;(try dsimp only at H);obtain⟨t107,A3,H⟩:=bi_ H;by_cases c4:t107=true
 ·subst c4;rw[if_pos rfl] at H;by_cases c5:t106=true
  ·subst c5;rw[if_pos rfl] at H;by_cases c6:t105.toList=([48]:List UInt8)
   ·rw[if_pos c6] at H;have c6b0:(t105.toList == ([48]:List UInt8))=true:=beq_iff_eq.mpr c6;have c6b1:(t105.toList != ([48]:List UInt8))=false:=bne_eq_false_iff_eq.mpr c6;clear c6;simp only[Option.some.injEq,Prod.mk.injEq] at H;obtain⟨rfl,rfl,rfl⟩:=H;go_enter Tryz.func106,Tryz.ntmps106
    go_wp2_with (first|((with_reducible refine gate_dst (N:=2) rfl ?_);refine be_ 2 #[.string (⟨#[]⟩:ByteArray),.bool false] 107 ?_;intro gb104 hg w7 hbox hb;have BK104:=Aside0.mk (hbox);have GW104:=ge_ HB hg;have GE104:=ge_ HB hg;replace HB:=bs_ HB hb;clear hb hbox hg)|(refine gl_ 8 Tryz.func82 #[.string a0,.string (⟨#[45]⟩:ByteArray)] ?_;refine mo_ (strings_CutPrefix.calls a0 (⟨#[45]⟩:ByteArray) t105 true _ A2.out) ?_;rintro w' ⟨nd,rfl⟩;(try(rw[drewN_self w7];generalize hq_:World.drewN w7 _ = w7;have n0_:Aside0 (w7.heap[gb104]?=some (.cells #[.string (⟨#[]⟩:ByteArray),.bool false] 107 (0,0))):=⟨by rw[← hq_];exact(k_ BK104.out)⟩;have n1_:Aside0 (Below w.heap.size w w7):=⟨by rw[← hq_];exact(b_ HB.out)⟩;clear BK104 HB hq_;have BK104:=n0_;have HB:=n1_;clear n0_ n1_)))|(refine gl_ 12 Tryz.func79 #[.string t105] ?_;refine mo_ (nat_May.calls t105 true _ A3.out) ?_;intro w8 hb;replace BK104:=kb_ BK104 hb;replace HB:=bs_ HB hb;(try clear hb);(try clear hb2);(try clear hk);(try clear hi);have hcz9_0:=bc_ BK104 0 rfl;have hcz9_1:=bc_ BK104 1 rfl;have hfz9_0:=blk_frozen BK104.out 0;have hfz9_1:=blk_frozen BK104.out 1))
    refine bodyPost_ret (results_ct rfl _ _ gb104 107 #[.string (⟨#[]⟩:ByteArray),.bool false] (0,0) _ rfl (rp_ BK104.out) Tryz.underlying107 rfl (by kernel_rfl)) rfl ?_;exact⟨er_,b_ HB.out⟩
   ·rw[if_neg c6] at H;have c6b0:(t105.toList == ([48]:List UInt8))=false:=beq_eq_false_iff_ne.mpr c6;have c6b1:(t105.toList != ([48]:List UInt8))=true:=bne_iff_ne.mpr c6;simp only[Option.some.injEq,Prod.mk.injEq] at H;obtain⟨rfl,rfl,rfl⟩:=H;go_enter Tryz.func106,Tryz.ntmps106
    go_wp2_with (first|((with_reducible refine gate_dst (N:=2) rfl ?_);refine be_ 2 #[.string (⟨#[]⟩:ByteArray),.bool false] 107 ?_;intro gb104 hg w10 hbox hb;have BK104:=Aside0.mk (hbox);have GW104:=ge_ HB hg;have GE104:=ge_ HB hg;replace HB:=bs_ HB hb;clear hb hbox hg)|(refine gl_ 8 Tryz.func82 #[.string a0,.string (⟨#[45]⟩:ByteArray)] ?_;refine mo_ (strings_CutPrefix.calls a0 (⟨#[45]⟩:ByteArray) t105 true _ A2.out) ?_;rintro w' ⟨nd,rfl⟩;(try(rw[drewN_self w10];generalize hq_:World.drewN w10 _ = w10;have n0_:Aside0 (w10.heap[gb104]?=some (.cells #[.string (⟨#[]⟩:ByteArray),.bool false] 107 (0,0))):=⟨by rw[← hq_];exact(k_ BK104.out)⟩;have n1_:Aside0 (Below w.heap.size w w10):=⟨by rw[← hq_];exact(b_ HB.out)⟩;clear BK104 HB hq_;have BK104:=n0_;have HB:=n1_;clear n0_ n1_)))|(refine gl_ 12 Tryz.func79 #[.string t105] ?_;refine mo_ (nat_May.calls t105 true _ A3.out) ?_;intro w11 hb;replace BK104:=kb_ BK104 hb;replace HB:=bs_ HB hb;(try clear hb);(try clear hb2);(try clear hk);(try clear hi);have hcz12_0:=bc_ BK104 0 rfl;have hcz12_1:=bc_ BK104 1 rfl;have hfz12_0:=blk_frozen BK104.out 0;have hfz12_1:=blk_frozen BK104.out 1))
    refine bodyPost_ret (results_ct rfl _ _ gb104 107 #[.string t105,.bool true] (0,0) _ rfl (rp_ BK104.out) Tryz.underlying107 rfl (by kernel_rfl)) rfl ?_;exact⟨er_,b_ HB.out⟩
  ·replace c5:=Bool.eq_false_iff.mpr c5;subst c5;rw[if_neg nf_] at H;simp only[Option.some.injEq,Prod.mk.injEq] at H;obtain⟨rfl,rfl,rfl⟩:=H;go_enter Tryz.func106,Tryz.ntmps106
   go_wp2_with (first|((with_reducible refine gate_dst (N:=2) rfl ?_);refine be_ 2 #[.string (⟨#[]⟩:ByteArray),.bool false] 107 ?_;intro gb104 hg w13 hbox hb;have BK104:=Aside0.mk (hbox);have GW104:=ge_ HB hg;have GE104:=ge_ HB hg;replace HB:=bs_ HB hb;clear hb hbox hg)|(refine gl_ 8 Tryz.func82 #[.string a0,.string (⟨#[45]⟩:ByteArray)] ?_;refine mo_ (strings_CutPrefix.calls a0 (⟨#[45]⟩:ByteArray) t105 false _ A2.out) ?_;rintro w' ⟨nd,rfl⟩;(try(rw[drewN_self w13];generalize hq_:World.drewN w13 _ = w13;have n0_:Aside0 (w13.heap[gb104]?=some (.cells #[.string (⟨#[]⟩:ByteArray),.bool false] 107 (0,0))):=⟨by rw[← hq_];exact(k_ BK104.out)⟩;have n1_:Aside0 (Below w.heap.size w w13):=⟨by rw[← hq_];exact(b_ HB.out)⟩;clear BK104 HB hq_;have BK104:=n0_;have HB:=n1_;clear n0_ n1_)))|(refine gl_ 12 Tryz.func79 #[.string t105] ?_;refine mo_ (nat_May.calls t105 true _ A3.out) ?_;intro w14 hb;replace BK104:=kb_ BK104 hb;replace HB:=bs_ HB hb;(try clear hb);(try clear hb2);(try clear hk);(try clear hi);have hcz15_0:=bc_ BK104 0 rfl;have hcz15_1:=bc_ BK104 1 rfl;have hfz15_0:=blk_frozen BK104.out 0;have hfz15_1:=blk_frozen BK104.out 1))
   refine bodyPost_ret (results_ct rfl _ _ gb104 107 #[.string t105,.bool false] (0,0) _ rfl (rp_ BK104.out) Tryz.underlying107 rfl (by kernel_rfl)) rfl ?_;exact⟨er_,b_ HB.out⟩
 ·replace c4:=Bool.eq_false_iff.mpr c4;subst c4;rw[if_neg nf_] at H;simp only[Option.some.injEq,Prod.mk.injEq] at H;obtain⟨rfl,rfl,rfl⟩:=H;go_enter Tryz.func106,Tryz.ntmps106
  go_wp2_with (first|((with_reducible refine gate_dst (N:=2) rfl ?_);refine be_ 2 #[.string (⟨#[]⟩:ByteArray),.bool false] 107 ?_;intro gb104 hg w16 hbox hb;have BK104:=Aside0.mk (hbox);have GW104:=ge_ HB hg;have GE104:=ge_ HB hg;replace HB:=bs_ HB hb;clear hb hbox hg)|(refine gl_ 8 Tryz.func82 #[.string a0,.string (⟨#[45]⟩:ByteArray)] ?_;refine mo_ (strings_CutPrefix.calls a0 (⟨#[45]⟩:ByteArray) t105 t106 _ A2.out) ?_;rintro w' ⟨nd,rfl⟩;(try(rw[drewN_self w16];generalize hq_:World.drewN w16 _ = w16;have n0_:Aside0 (w16.heap[gb104]?=some (.cells #[.string (⟨#[]⟩:ByteArray),.bool false] 107 (0,0))):=⟨by rw[← hq_];exact(k_ BK104.out)⟩;have n1_:Aside0 (Below w.heap.size w w16):=⟨by rw[← hq_];exact(b_ HB.out)⟩;clear BK104 HB hq_;have BK104:=n0_;have HB:=n1_;clear n0_ n1_)))|(refine gl_ 12 Tryz.func79 #[.string t105] ?_;refine mo_ (nat_May.calls t105 false _ A3.out) ?_;intro w17 hb;replace BK104:=kb_ BK104 hb;replace HB:=bs_ HB hb;(try clear hb);(try clear hb2);(try clear hk);(try clear hi);have hcz18_0:=bc_ BK104 0 rfl;have hcz18_1:=bc_ BK104 1 rfl;have hfz18_0:=blk_frozen BK104.out 0;have hfz18_1:=blk_frozen BK104.out 1))
  refine bodyPost_ret (results_ct rfl _ _ gb104 107 #[.string (⟨#[]⟩:ByteArray),.bool false] (0,0) _ rfl (rp_ BK104.out) Tryz.underlying107 rfl (by kernel_rfl)) rfl ?_;exact⟨er_,b_ HB.out⟩
def whole_May.f (a0:ByteArray):Option (Bool):=(whole_read.f a0).bind fun bt108=>(some bt108.2.2)
set_option maxHeartbeats 8000000 in
set_option maxRecDepth 100000 in
theorem whole_May.calls (a0:ByteArray) (r:Bool) (w:World) (h:whole_May.f a0=some r) :
  Calls Tryz.prog 98 #[.string a0] w fun e w'=>e=.returned (.bool r)∧Below w.heap.size w w':=by
 have hu107:=Tryz.underlying107;have HB:=Aside0.mk (Below.refl w.heap.size w);have H:=h;unfold whole_May.f at H;clear h;obtain⟨⟨t108,t109,t110⟩,A2,H⟩:=bi_ H;(try dsimp only at H);obtain rfl:=Option.some.inj H;go_enter Tryz.func98,Tryz.ntmps98
 go_wp2_with (first|(refine gl_ 7 Tryz.func106 #[.string a0] ?_;refine mo_ (whole_read.calls a0 t108 t109 t110 _ A2.out) ?_;intro w3 hb;replace HB:=bs_ HB hb;(try clear hb);(try clear hb2);(try clear hk);(try clear hi))|((with_reducible refine gate_dst (N:=3) rfl ?_);refine be_ 3 #[.string (⟨#[]⟩:ByteArray),.bool false] 107 ?_;intro gb111 hg w4 hbox hb;have BK111:=Aside0.mk (hbox);have GW111:=ge_ HB hg;have GE111:=ge_ HB hg;replace HB:=bs_ HB hb;clear hb hbox hg;have hcz5_0:=bc_ BK111 0 rfl;have hcz5_1:=bc_ BK111 1 rfl;have hfz5_0:=blk_frozen BK111.out 0;have hfz5_1:=blk_frozen BK111.out 1))
 go_ret
 exact⟨er_,b_ HB.out⟩
def whole_Of.f (a0:Int):Option (ByteArray):=(strconv_Itoa.f a0).bind fun t112=>(some t112)
set_option maxHeartbeats 8000000 in
set_option maxRecDepth 100000 in
theorem whole_Of.calls (a0:Int) (r:ByteArray) (w:World) (hL_:Laid w) (h:whole_Of.f a0=some r) :
  Calls Tryz.prog 81 #[.int .i64 a0] w fun e w'=>e=.returned (.string r)∧Below w.heap.size w w':=by
 have HLD:=Aside0.mk hL_;clear hL_;have HB:=Aside0.mk (Below.refl w.heap.size w);have H:=h;unfold whole_Of.f at H;clear h;obtain⟨t112,A2,H⟩:=bi_ H;obtain rfl:=Option.some.inj H;go_enter Tryz.func81,Tryz.ntmps81
 go_wp2_with (first|(refine gl_ 4 Tryz.func33 #[.int .i64 a0] ?_;refine mo_ (strconv_Itoa.calls a0 t112 _ (lb_ HLD HB) A2.out) ?_;intro w3 hb;replace HB:=bs_ HB hb;(try clear hb);(try clear hb2);(try clear hk);(try clear hi)))
 go_ret
 exact⟨er_,b_ HB.out⟩
def whole_Sign.j0:Nat→Bool→ByteArray→Bool→Option (Int)
 | 0,_,_,_=>none
 | k+1,x10,x117000,x117001=>if x10=true then (some 0) else (if x117001=true then (some (-1)) else (some 1))
def whole_Sign.f (k:Nat) (a0:ByteArray):Option (Int):=(whole_read.f a0).bind fun bt113=>(if bt113.2.2=true then (whole_Sign.j0 k (bt113.1.toList == ([48]:List UInt8)) bt113.1 bt113.2.1) else (whole_Sign.j0 k true bt113.1 bt113.2.1))
set_option maxHeartbeats 8000000 in
set_option maxRecDepth 100000 in
theorem whole_Sign.calls (k:Nat) (a0:ByteArray) (r:Int) (w:World) (h:whole_Sign.f k a0=some r) :
  Calls Tryz.prog 64 #[.string a0] w fun e w'=>e=.returned (.int .i64 r)∧Below w.heap.size w w':=by
 have hu107:=Tryz.underlying107;have HB:=Aside0.mk (Below.refl w.heap.size w);have H:=h;unfold whole_Sign.f at H;clear h;obtain⟨⟨t113,t114,t115⟩,A2,H⟩:=bi_ H;(try dsimp only at H);have HC3:=Aside0.mk H;clear H;go_enter Tryz.func64,Tryz.ntmps64
 go_upto_region 2 with (first|(refine gl_ 7 Tryz.func106 #[.string a0] ?_;refine mo_ (whole_read.calls a0 t113 t114 t115 _ A2.out) ?_;intro w4 hb;replace HB:=bs_ HB hb;(try clear hb);(try clear hb2);(try clear hk);(try clear hi))|((with_reducible refine gate_dst (N:=3) rfl ?_);refine be_ 3 #[.string (⟨#[]⟩:ByteArray),.bool false] 107 ?_;intro gb116 hg w5 hbox hb;have BK116:=Aside0.mk (hbox);have GW116:=ge_ HB hg;have GE116:=ge_ HB hg;replace HB:=bs_ HB hb;clear hb hbox hg;have hcz6_0:=bc_ BK116 0 rfl;have hcz6_1:=bc_ BK116 1 rfl;have hfz6_0:=blk_frozen BK116.out 0;have hfz6_1:=blk_frozen BK116.out 1))
 (try simp only[Act.put,List.setIfInBounds_toArray,List.set_cons_zero,List.set_cons_succ])
 go_cut [10] (fun v10 wc=>∃ (kq:Nat) (x10_2:Bool),v10=.bool x10_2∧Aside0 (whole_Sign.j0 kq x10_2 t113 t114=some r)∧Aside0 (kq≤k)∧Aside0 (wc.heap[gb116]?=some (.cells #[.string t113,.bool t114] 107 (0,0)))∧Aside0 (Below w.heap.size w wc))
 case first =>
  have H:=HC3.out;clear HC3;by_cases c7:t115=true
  ·subst c7;rw[if_pos rfl] at H;have H':=Aside0.mk H;clear H;have hcz8_0:=bc_ BK116 0 rfl;have hcz8_1:=bc_ BK116 1 rfl;have hfz8_0:=blk_frozen BK116.out 0;have hfz8_1:=blk_frozen BK116.out 1;go_wp2
   go_meet
   case rel=>exact⟨_,((t113.toList == ([48]:List UInt8))),rl_,H',⟨by first|omega|exact Nat.le_refl _⟩,⟨rp_ BK116.out⟩,⟨b_ HB.out⟩⟩
  ·replace c7:=Bool.eq_false_iff.mpr c7;subst c7;rw[if_neg nf_] at H;have H':=Aside0.mk H;clear H;go_wp2
   go_meet
   case rel=>exact⟨_,(true),rl_,H',⟨by first|omega|exact Nat.le_refl _⟩,⟨rp_ BK116.out⟩,⟨b_ HB.out⟩⟩
 case rest =>
  clear HC3;(try clear c1);(try clear p2);(try clear c6);(try clear c7);(try clear hcz6_0);(try clear hcz6_1);(try clear hcz8_0);(try clear hcz8_1);(try clear hfz6_0);(try clear hfz6_1);(try clear hfz8_0);(try clear hfz8_1);obtain⟨kq,x10_2,rfl,HA,HJ2,BK116,HB⟩:=hcut
  cases kq with
  | zero=>exact absurd HA.out (by simp[whole_Sign.j0])
  | succ kj2 =>
   have H:=HA.out;clear HA;simp only[whole_Sign.j0] at H;by_cases c9:x10_2=true
   ·subst c9;rw[if_pos rfl] at H;obtain rfl:=Option.some.inj H;go_wp2
    go_ret
    exact⟨er_,b_ HB.out⟩
   ·replace c9:=Bool.eq_false_iff.mpr c9;subst c9;rw[if_neg nf_] at H;by_cases c10:t114=true
    ·subst c10;rw[if_pos rfl] at H;obtain rfl:=Option.some.inj H;have hcz11_0:=bc_ BK116 0 rfl;have hcz11_1:=bc_ BK116 1 rfl;have hfz11_0:=blk_frozen BK116.out 0;have hfz11_1:=blk_frozen BK116.out 1;go_wp2
     go_ret
     exact⟨er_,b_ HB.out⟩
    ·replace c10:=Bool.eq_false_iff.mpr c10;subst c10;rw[if_neg nf_] at H;obtain rfl:=Option.some.inj H;have hcz12_0:=bc_ BK116 0 rfl;have hcz12_1:=bc_ BK116 1 rfl;have hfz12_0:=blk_frozen BK116.out 0;have hfz12_1:=blk_frozen BK116.out 1;go_wp2
     go_ret
     exact⟨er_,b_ HB.out⟩
def whole_Abs.f (a0:ByteArray):Option (ByteArray):=(whole_read.f a0).bind fun bt117=>(some bt117.1)
set_option maxHeartbeats 8000000 in
set_option maxRecDepth 100000 in
theorem whole_Abs.calls (a0:ByteArray) (r:ByteArray) (w:World) (h:whole_Abs.f a0=some r) :
  Calls Tryz.prog 62 #[.string a0] w fun e w'=>e=.returned (.string r)∧Below w.heap.size w w':=by
 have hu107:=Tryz.underlying107;have HB:=Aside0.mk (Below.refl w.heap.size w);have H:=h;unfold whole_Abs.f at H;clear h;obtain⟨⟨t117,t118,t119⟩,A2,H⟩:=bi_ H;(try dsimp only at H);obtain rfl:=Option.some.inj H;go_enter Tryz.func62,Tryz.ntmps62
 go_wp2_with (first|(refine gl_ 7 Tryz.func106 #[.string a0] ?_;refine mo_ (whole_read.calls a0 t117 t118 t119 _ A2.out) ?_;intro w3 hb;replace HB:=bs_ HB hb;(try clear hb);(try clear hb2);(try clear hk);(try clear hi))|((with_reducible refine gate_dst (N:=3) rfl ?_);refine be_ 3 #[.string (⟨#[]⟩:ByteArray),.bool false] 107 ?_;intro gb120 hg w4 hbox hb;have BK120:=Aside0.mk (hbox);have GW120:=ge_ HB hg;have GE120:=ge_ HB hg;replace HB:=bs_ HB hb;clear hb hbox hg;have hcz5_0:=bc_ BK120 0 rfl;have hcz5_1:=bc_ BK120 1 rfl;have hfz5_0:=blk_frozen BK120.out 0;have hfz5_1:=blk_frozen BK120.out 1))
 go_ret
 exact⟨er_,b_ HB.out⟩
def whole_number_text.f (a0_0:ByteArray) (a0_1:Bool):Option (ByteArray):=if a0_1=true then (if a0_0.toList=([48]:List UInt8) then (some a0_0) else (if 1+a0_0.size≤9223372036854775807 then (some ((⟨#[45]⟩:ByteArray)++a0_0)) else (none))) else (some a0_0)
set_option maxHeartbeats 8000000 in
set_option maxRecDepth 100000 in
theorem whole_number_text.calls (a0_0:ByteArray) (a0_1:Bool) (r:ByteArray) (w:World) (h:whole_number_text.f a0_0 a0_1=some r) :
  Calls Tryz.prog 127 #[.agg #[.string a0_0,.bool a0_1]] w fun e w'=>e=.returned (.string r)∧Below w.heap.size w w':=by
 have hu107:=Tryz.underlying107;have HB:=Aside0.mk (Below.refl w.heap.size w);have H:=h;unfold whole_number_text.f at H;clear h;by_cases c2:a0_1=true
 ·subst c2;rw[if_pos rfl] at H;by_cases c3:a0_0.toList=([48]:List UInt8)
  ·rw[if_pos c3] at H;have c3b0:(a0_0.toList == ([48]:List UInt8))=true:=beq_iff_eq.mpr c3;have c3b1:(a0_0.toList != ([48]:List UInt8))=false:=bne_eq_false_iff_eq.mpr c3;clear c3;obtain rfl:=Option.some.inj H;go_enter Tryz.func127,Tryz.ntmps127
   go_wp2_with (first|((with_reducible refine gate_dst (N:=1) rfl ?_);refine be_ 1 #[.string a0_0,.bool true] 107 ?_;intro gb121 hg w4 hbox hb;have BK121:=Aside0.mk (hbox);have GW121:=ge_ HB hg;have GE121:=ge_ HB hg;replace HB:=bs_ HB hb;clear hb hbox hg;have hcz5_0:=bc_ BK121 0 rfl;have hcz5_1:=bc_ BK121 1 rfl;have hfz5_0:=blk_frozen BK121.out 0;have hfz5_1:=blk_frozen BK121.out 1))
   go_ret
   exact⟨er_,b_ HB.out⟩
  ·rw[if_neg c3] at H;have c3b0:(a0_0.toList == ([48]:List UInt8))=false:=beq_eq_false_iff_ne.mpr c3;have c3b1:(a0_0.toList != ([48]:List UInt8))=true:=bne_iff_ne.mpr c3;by_cases c6:1+a0_0.size≤9223372036854775807
   ·rw[if_pos c6] at H;have c6b0:=eq_true c6;have c6b1:decide (1+a0_0.size≤9223372036854775807)=true:=decide_eq_true c6
    try have c6b2:(9223372036854775807<1+a0_0.size)=False:=eq_false (Nat.not_lt.2 c6)
    obtain rfl:=Option.some.inj H;go_enter Tryz.func127,Tryz.ntmps127
    go_wp2_with (first|((with_reducible refine gate_dst (N:=1) rfl ?_);refine be_ 1 #[.string a0_0,.bool true] 107 ?_;intro gb121 hg w7 hbox hb;have BK121:=Aside0.mk (hbox);have GW121:=ge_ HB hg;have GE121:=ge_ HB hg;replace HB:=bs_ HB hb;clear hb hbox hg;have hcz8_0:=bc_ BK121 0 rfl;have hcz8_1:=bc_ BK121 1 rfl;have hfz8_0:=blk_frozen BK121.out 0;have hfz8_1:=blk_frozen BK121.out 1))
    go_ret
    exact⟨er_,b_ HB.out⟩
   ·rw[if_neg c6] at H;exact absurd H (by simp)
 ·replace c2:=Bool.eq_false_iff.mpr c2;subst c2;rw[if_neg nf_] at H;obtain rfl:=Option.some.inj H;go_enter Tryz.func127,Tryz.ntmps127
  go_wp2_with (first|((with_reducible refine gate_dst (N:=1) rfl ?_);refine be_ 1 #[.string a0_0,.bool false] 107 ?_;intro gb121 hg w9 hbox hb;have BK121:=Aside0.mk (hbox);have GW121:=ge_ HB hg;have GE121:=ge_ HB hg;replace HB:=bs_ HB hb;clear hb hbox hg;have hcz10_0:=bc_ BK121 0 rfl;have hcz10_1:=bc_ BK121 1 rfl;have hfz10_0:=blk_frozen BK121.out 0;have hfz10_1:=blk_frozen BK121.out 1))
  go_ret
  exact⟨er_,b_ HB.out⟩
def whole_Neg.f (a0:ByteArray):Option (ByteArray):=(whole_read.f a0).bind fun bt122=>(if bt122.2.2=true then ((whole_number_text.f bt122.1 (!bt122.2.1)).bind fun t126=>(some t126)) else (some (⟨#[]⟩:ByteArray)))
set_option maxHeartbeats 8000000 in
set_option maxRecDepth 100000 in
theorem whole_Neg.calls (a0:ByteArray) (r:ByteArray) (w:World) (h:whole_Neg.f a0=some r) :
  Calls Tryz.prog 86 #[.string a0] w fun e w'=>e=.returned (.string r)∧Below w.heap.size w w':=by
 have hu107:=Tryz.underlying107;have HB:=Aside0.mk (Below.refl w.heap.size w);have H:=h;unfold whole_Neg.f at H;clear h;obtain⟨⟨t122,t123,t124⟩,A2,H⟩:=bi_ H;(try dsimp only at H);by_cases c3:t124=true
 ·subst c3;rw[if_pos rfl] at H;obtain⟨t126,A4,H⟩:=bi_ H;obtain rfl:=Option.some.inj H;go_enter Tryz.func86,Tryz.ntmps86
  go_wp2_with (first|(refine gl_ 7 Tryz.func106 #[.string a0] ?_;refine mo_ (whole_read.calls a0 t122 t123 true _ A2.out) ?_;intro w5 hb;replace HB:=bs_ HB hb;(try clear hb);(try clear hb2);(try clear hk);(try clear hi))|((with_reducible refine gate_dst (N:=3) rfl ?_);refine be_ 3 #[.string (⟨#[]⟩:ByteArray),.bool false] 107 ?_;intro gb125 hg w6 hbox hb;have BK125:=Aside0.mk (hbox);have GW125:=ge_ HB hg;have GE125:=ge_ HB hg;replace HB:=bs_ HB hb;clear hb hbox hg;have hcz7_0:=bc_ BK125 0 rfl;have hcz7_1:=bc_ BK125 1 rfl;have hcd7_1:∀ (x y z:Value),(((w6.setCell ⟨gb125,0,none⟩ x).setCell ⟨gb125,1,none⟩ y).setCell ⟨gb125,1,none⟩ z).cell? ⟨gb125,1,none⟩=some z:=(fun x y z=>(blk_cell (blk_put (cs:=#[x,y]) (blk_put (cs:=#[x,.bool false]) (blk_put (cs:=#[.string (⟨#[]⟩:ByteArray),.bool false]) BK125.out 0 x rfl) 1 y rfl) 1 z rfl) 1).trans rfl);have hfz7_0:=blk_frozen BK125.out 0;have hfz7_1:=blk_frozen BK125.out 1)|(refine gl_ 17 Tryz.func127 #[.agg #[.string t122,.bool (!t123)]] ?_;refine mo_ (whole_number_text.calls t122 (!t123) t126 _ A4.out) ?_;intro w8 hb;replace BK125:=Aside0.mk (blk_below (g:=gb125) (o:=.cells #[.string t122,.bool (!t123)] 107 (0,0)) (rp_ BK125.out) hb);replace HB:=bs_ HB hb;(try clear hb);(try clear hb2);(try clear hk);(try clear hi)))
  go_ret
  exact⟨er_,b_ HB.out⟩
 ·replace c3:=Bool.eq_false_iff.mpr c3;subst c3;rw[if_neg nf_] at H;obtain rfl:=Option.some.inj H;go_enter Tryz.func86,Tryz.ntmps86
  go_wp2_with (first|(refine gl_ 7 Tryz.func106 #[.string a0] ?_;refine mo_ (whole_read.calls a0 t122 t123 false _ A2.out) ?_;intro w9 hb;replace HB:=bs_ HB hb;(try clear hb);(try clear hb2);(try clear hk);(try clear hi))|((with_reducible refine gate_dst (N:=3) rfl ?_);refine be_ 3 #[.string (⟨#[]⟩:ByteArray),.bool false] 107 ?_;intro gb125 hg w10 hbox hb;have BK125:=Aside0.mk (hbox);have GW125:=ge_ HB hg;have GE125:=ge_ HB hg;replace HB:=bs_ HB hb;clear hb hbox hg;have hcz11_0:=bc_ BK125 0 rfl;have hcz11_1:=bc_ BK125 1 rfl;have hcd11_1:∀ (x y z:Value),(((w10.setCell ⟨gb125,0,none⟩ x).setCell ⟨gb125,1,none⟩ y).setCell ⟨gb125,1,none⟩ z).cell? ⟨gb125,1,none⟩=some z:=(fun x y z=>(blk_cell (blk_put (cs:=#[x,y]) (blk_put (cs:=#[x,.bool false]) (blk_put (cs:=#[.string (⟨#[]⟩:ByteArray),.bool false]) BK125.out 0 x rfl) 1 y rfl) 1 z rfl) 1).trans rfl);have hfz11_0:=blk_frozen BK125.out 0;have hfz11_1:=blk_frozen BK125.out 1))
  go_ret
  exact⟨er_,b_ HB.out⟩
def whole_both.f (a0:ByteArray) (a1:ByteArray):Option (ByteArray×Bool×ByteArray×Bool×Bool):=(whole_read.f a0).bind fun bt129=>((whole_read.f a1).bind fun bt133=>(if bt129.2.2=true then (some (bt129.1,bt129.2.1,bt133.1,bt133.2.1,bt133.2.2)) else (some (bt129.1,bt129.2.1,bt133.1,bt133.2.1,false))))
def whole_both.T3:Bool×List (List Nat×List Nat):=(true,[([],[]),([],[]),([],[]),([2],[2]),([3],[3]),([3,4],[3,4]),([0,3,0],[0]),([1,6,0,1,6],[1]),([5,7,0,1,2,3,4,5,6,7],[5])])
def whole_both.B3:List Nat:=[0,0,0,4,12,28,13,79,255]
theorem whole_both.tab3:rtab .any (opsOf Tryz.f175 3)=whole_both.T3:=by kernel_rfl
theorem whole_both.bits3:waitsOk whole_both.T3.2 whole_both.B3=true:=by kernel_rfl
set_option maxHeartbeats 8000000 in
set_option maxRecDepth 100000 in
theorem whole_both.calls (a0:ByteArray) (a1:ByteArray) (r1:ByteArray) (r2:Bool) (r3:ByteArray) (r4:Bool) (r5:Bool) (w:World) (h:whole_both.f a0 a1=some (r1,r2,r3,r4,r5)) :
  Calls Tryz.prog 175 #[.string a0,.string a1] w fun e w'=>e=.returned (.tuple #[.agg #[.string r1,.bool r2],.agg #[.string r3,.bool r4],.bool r5])∧Below w.heap.size w w':=by
 have hu107:=Tryz.underlying107;have HB:=Aside0.mk (Below.refl w.heap.size w);have H:=h;unfold whole_both.f at H;clear h;obtain⟨⟨t129,t130,t131⟩,A3,H⟩:=bi_ H;(try dsimp only at H);obtain⟨⟨t133,t134,t135⟩,A4,H⟩:=bi_ H;(try dsimp only at H);by_cases c5:t131=true
 ·subst c5;rw[if_pos rfl] at H;simp only[Option.some.injEq,Prod.mk.injEq] at H;obtain⟨rfl,rfl,rfl,rfl,rfl⟩:=H;go_enter Tryz.func175,Tryz.ntmps175
  try go_wp2_with (first|((with_reducible refine gate_dst (N:=4) rfl ?_);refine be_ 4 #[.string (⟨#[]⟩:ByteArray),.bool false] 107 ?_;intro gb127 hg w6 hbox hb;have BK127:=Aside0.mk (hbox);have GW127:=ge_ HB hg;have GE127:=ge_ HB hg;replace HB:=bs_ HB hb;clear hb hbox hg)|((with_reducible refine gate_dst (N:=5) rfl ?_);refine be_ 5 #[.string (⟨#[]⟩:ByteArray),.bool false] 107 ?_;intro gb128 hg w7 hbox hb;have BK128:=Aside0.mk (hbox);have GW128:=ge_ HB hg;have GE128:=ge_ HB hg;have NB127_128:=nl_ BK127 hg;have NB128_127:=ng_ BK127 hg;replace BK127:=kb_ BK127 hb;replace HB:=bs_ HB hb;clear hb hbox hg)|(refine gl_ 13 Tryz.func106 #[.string a0] ?_;refine mo_ (whole_read.calls a0 t129 t130 true _ A3.out) ?_;intro w8 hb;replace BK127:=kb_ BK127 hb;replace BK128:=kb_ BK128 hb;replace HB:=bs_ HB hb;(try clear hb);(try clear hb2);(try clear hk);(try clear hi))|((with_reducible refine gate_dst (N:=7) rfl ?_);refine be_ 7 #[.string (⟨#[]⟩:ByteArray),.bool false] 107 ?_;intro gb132 hg w9 hbox hb;have BK132:=Aside0.mk (hbox);have GW132:=ge_ HB hg;have GE132:=ge_ HB hg;have NB127_132:=nl_ BK127 hg;have NB132_127:=ng_ BK127 hg;have NB128_132:=nl_ BK128 hg;have NB132_128:=ng_ BK128 hg;replace BK127:=kb_ BK127 hb;replace BK128:=kb_ BK128 hb;replace HB:=bs_ HB hb;clear hb hbox hg;have hnb10:=NB132_127.out;have hnc10:=NB127_132.out;have hnb11:=NB132_128.out;have hnc11:=NB128_132.out;have hcz12_0:=bc_ BK132 0 rfl;have hcz12_1:=bc_ BK132 1 rfl;have hfz12_0:=blk_frozen BK132.out 0;have hfz12_1:=blk_frozen BK132.out 1)|(refine gl_ 18 Tryz.func106 #[.string a1] ?_;refine mo_ (whole_read.calls a1 t133 t134 t135 _ A4.out) ?_;intro w13 hb;replace BK127:=Aside0.mk (blk_below (g:=gb127) (o:=.cells #[.string (⟨#[]⟩:ByteArray),.bool false] 107 (0,0)) (fr_ BK127.out) hb);replace BK128:=Aside0.mk (blk_below (g:=gb128) (o:=.cells #[.string (⟨#[]⟩:ByteArray),.bool false] 107 (0,0)) (fr_ BK128.out) hb);replace BK132:=Aside0.mk (blk_below (g:=gb132) (o:=.cells #[.string t129,.bool t130] 107 (0,0)) (rp_ BK132.out) hb);replace HB:=bs_ HB hb;(try clear hb);(try clear hb2);(try clear hk);(try clear hi))|((with_reducible refine gate_dst (N:=9) rfl ?_);refine be_ 9 #[.string (⟨#[]⟩:ByteArray),.bool false] 107 ?_;intro gb136 hg w14 hbox hb;have BK136:=Aside0.mk (hbox);have GW136:=ge_ HB hg;have GE136:=ge_ HB hg;have NB127_136:=nl_ BK127 hg;have NB136_127:=ng_ BK127 hg;have NB128_136:=nl_ BK128 hg;have NB136_128:=ng_ BK128 hg;have NB132_136:=nl_ BK132 hg;have NB136_132:=ng_ BK132 hg;replace BK127:=kb_ BK127 hb;replace BK128:=kb_ BK128 hb;replace BK132:=kb_ BK132 hb;replace HB:=bs_ HB hb;clear hb hbox hg;have hnb15:=NB136_127.out;have hnc15:=NB127_136.out;have hnb16:=NB136_128.out;have hnc16:=NB128_136.out;have hnb17:=NB136_132.out;have hnc17:=NB132_136.out;have hcz18_0:=bc_ BK136 0 rfl;have hcz18_1:=bc_ BK136 1 rfl;have hfz18_0:=blk_frozen BK136.out 0;have hfz18_1:=blk_frozen BK136.out 1))
  have n0_:Aside0 (((w14.setCell ⟨gb136,0,none⟩ (.string t133)).setCell ⟨gb136,1,none⟩ (.bool t134)).heap[gb127]?=some (.cells #[.string (⟨#[]⟩:ByteArray),.bool false] 107 (0,0))):=⟨fr_ BK127.out⟩;have n1_:Aside0 (((w14.setCell ⟨gb136,0,none⟩ (.string t133)).setCell ⟨gb136,1,none⟩ (.bool t134)).heap[gb128]?=some (.cells #[.string (⟨#[]⟩:ByteArray),.bool false] 107 (0,0))):=⟨fr_ BK128.out⟩;have n2_:Aside0 (((w14.setCell ⟨gb136,0,none⟩ (.string t133)).setCell ⟨gb136,1,none⟩ (.bool t134)).heap[gb132]?=some (.cells #[.string t129,.bool t130] 107 (0,0))):=⟨fr_ BK132.out⟩;have n3_:Aside0 (((w14.setCell ⟨gb136,0,none⟩ (.string t133)).setCell ⟨gb136,1,none⟩ (.bool t134)).heap[gb136]?=some (.cells #[.string t133,.bool t134] 107 (0,0))):=⟨rp_ BK136.out⟩;have n4_:Aside0 (Below w.heap.size w ((w14.setCell ⟨gb136,0,none⟩ (.string t133)).setCell ⟨gb136,1,none⟩ (.bool t134))):=⟨b_ HB.out⟩;(try clear BK127);(try clear BK128);(try clear BK132);(try clear BK136);(try clear HB);generalize ((w14.setCell ⟨gb136,0,none⟩ (.string t133)).setCell ⟨gb136,1,none⟩ (.bool t134))=w19 at n0_ n1_ n2_ n3_ n4_ ⊢;have BK127:=n0_;have BK128:=n1_;have BK132:=n2_;have BK136:=n3_;have HB:=n4_;clear n0_ n1_ n2_ n3_ n4_;replace BK127:=Aside0.mk (blk_drew BK127.out);replace BK128:=Aside0.mk (blk_drew BK128.out);replace BK132:=Aside0.mk (blk_drew BK132.out);replace BK136:=Aside0.mk (blk_drew BK136.out);replace HB:=Aside0.mk (below_drew1 HB.out);refine sa_ 9 (fun w'=>w'.cell? ⟨gb132,0,none⟩=some (.string t129)∧w'.cell? ⟨gb132,1,none⟩=some (.bool t130)∧w'.cell? ⟨gb136,0,none⟩=some (.string t133)∧w'.cell? ⟨gb136,1,none⟩=some (.bool t134)) (fun hHeld=>?_);refine with_tabW whole_both.tab3 whole_both.bits3 (fun HT_ HW_=>?_);generalize w19.drew=w20 at BK127 BK128 BK132 BK136 HB hHeld ⊢;refine pu_ 2 23 rfl rfl HT_ ?_;refine pu_ 3 24 rfl rfl HT_ ?_;refine pu_ 4 25 rfl rfl HT_ ?_;refine pu_ 5 26 rfl rfl HT_ ?_;refine t4_ 0 21 rfl rfl HT_ HW_ hHeld ?_;refine t4_ 1 22 rfl rfl HT_ HW_ hHeld ?_;refine on_ 6 none rfl rfl HT_ (fun K hK=>?_);have hs21:=bc_ BK127 0 rfl;have hfs21:=blk_frozen BK127.out 0;have hns21_1:=NB128_127.out;have hns21_2:=NB132_127.out;have hns21_3:=NB136_127.out;have hms21_1:=NB127_128.out;have hms21_2:=NB127_132.out;have hms21_3:=NB127_136.out;have hs22:=bc_ BK127 1 rfl;have hfs22:=blk_frozen BK127.out 1;have hns22_1:=NB128_127.out;have hns22_2:=NB132_127.out;have hns22_3:=NB136_127.out;have hms22_1:=NB127_128.out;have hms22_2:=NB127_132.out;have hms22_3:=NB127_136.out;refine skip_ (w1:=?_) (by rfl) rfl ?_ ?_;rotate_left
  ·go_simp
   rfl
  refine hf_ hK hHeld (fun hHeld=>?_);clear hK K;refine on_ 7 none rfl rfl HT_ (fun K hK=>?_);have hs23:=bc_ BK128 0 rfl;have hfs23:=blk_frozen BK128.out 0;have hns23_0:=NB127_128.out;have hns23_2:=NB132_128.out;have hns23_3:=NB136_128.out;have hms23_0:=NB128_127.out;have hms23_2:=NB128_132.out;have hms23_3:=NB128_136.out;have hs24:=bc_ BK128 1 rfl;have hfs24:=blk_frozen BK128.out 1;have hns24_0:=NB127_128.out;have hns24_2:=NB132_128.out;have hns24_3:=NB136_128.out;have hms24_0:=NB128_127.out;have hms24_2:=NB128_132.out;have hms24_3:=NB128_136.out;refine skip_ (w1:=?_) (by rfl) rfl ?_ ?_;rotate_left
  ·go_simp
   rfl
  refine hf_ hK hHeld (fun hHeld=>?_);clear hK K;refine pu_ 8 6 rfl rfl HT_ ?_;refine done_ (done_of HT_.out (by kernel_rfl)) ?_
  try go_wp2
  refine bodyPost_ret (results_list (rs:=[.cell 4 107,.cell 5 107,.tmp 6]) rfl (by simp) (.cell gb127 107 #[.string t129,.bool t130] (0,0) _ rfl (by refine k_ ?_;refine blk_far ?_ NB127_128.out _;refine k_ ?_;refine blk_far ?_ NB127_128.out _;refine k_ ?_;refine blk_put (cs:=#[.string t129,.bool false]) ?_ 1 _ rfl;refine k_ ?_;refine blk_put (cs:=#[.string (⟨#[]⟩:ByteArray),.bool false]) ?_ 0 _ rfl;refine k_ ?_;exact BK127.out) Tryz.underlying107 rfl (by kernel_rfl) (.cell gb128 107 #[.string t133,.bool t134] (0,0) _ rfl (by refine k_ ?_;refine blk_put (cs:=#[.string t133,.bool false]) ?_ 1 _ rfl;refine k_ ?_;refine blk_put (cs:=#[.string (⟨#[]⟩:ByteArray),.bool false]) ?_ 0 _ rfl;refine k_ ?_;refine blk_far ?_ NB128_127.out _;refine k_ ?_;refine blk_far ?_ NB128_127.out _;refine k_ ?_;exact BK128.out) Tryz.underlying107 rfl (by kernel_rfl) (.tmp .nil)))) rfl ?_;exact⟨er_,b_ HB.out⟩
 ·replace c5:=Bool.eq_false_iff.mpr c5;subst c5;rw[if_neg nf_] at H;simp only[Option.some.injEq,Prod.mk.injEq] at H;obtain⟨rfl,rfl,rfl,rfl,rfl⟩:=H;go_enter Tryz.func175,Tryz.ntmps175
  try go_wp2_with (first|((with_reducible refine gate_dst (N:=4) rfl ?_);refine be_ 4 #[.string (⟨#[]⟩:ByteArray),.bool false] 107 ?_;intro gb127 hg w25 hbox hb;have BK127:=Aside0.mk (hbox);have GW127:=ge_ HB hg;have GE127:=ge_ HB hg;replace HB:=bs_ HB hb;clear hb hbox hg)|((with_reducible refine gate_dst (N:=5) rfl ?_);refine be_ 5 #[.string (⟨#[]⟩:ByteArray),.bool false] 107 ?_;intro gb128 hg w26 hbox hb;have BK128:=Aside0.mk (hbox);have GW128:=ge_ HB hg;have GE128:=ge_ HB hg;have NB127_128:=nl_ BK127 hg;have NB128_127:=ng_ BK127 hg;replace BK127:=kb_ BK127 hb;replace HB:=bs_ HB hb;clear hb hbox hg)|(refine gl_ 13 Tryz.func106 #[.string a0] ?_;refine mo_ (whole_read.calls a0 t129 t130 false _ A3.out) ?_;intro w27 hb;replace BK127:=kb_ BK127 hb;replace BK128:=kb_ BK128 hb;replace HB:=bs_ HB hb;(try clear hb);(try clear hb2);(try clear hk);(try clear hi))|((with_reducible refine gate_dst (N:=7) rfl ?_);refine be_ 7 #[.string (⟨#[]⟩:ByteArray),.bool false] 107 ?_;intro gb132 hg w28 hbox hb;have BK132:=Aside0.mk (hbox);have GW132:=ge_ HB hg;have GE132:=ge_ HB hg;have NB127_132:=nl_ BK127 hg;have NB132_127:=ng_ BK127 hg;have NB128_132:=nl_ BK128 hg;have NB132_128:=ng_ BK128 hg;replace BK127:=kb_ BK127 hb;replace BK128:=kb_ BK128 hb;replace HB:=bs_ HB hb;clear hb hbox hg;have hnb29:=NB132_127.out;have hnc29:=NB127_132.out;have hnb30:=NB132_128.out;have hnc30:=NB128_132.out;have hcz31_0:=bc_ BK132 0 rfl;have hcz31_1:=bc_ BK132 1 rfl;have hfz31_0:=blk_frozen BK132.out 0;have hfz31_1:=blk_frozen BK132.out 1)|(refine gl_ 18 Tryz.func106 #[.string a1] ?_;refine mo_ (whole_read.calls a1 t133 t134 t135 _ A4.out) ?_;intro w32 hb;replace BK127:=Aside0.mk (blk_below (g:=gb127) (o:=.cells #[.string (⟨#[]⟩:ByteArray),.bool false] 107 (0,0)) (fr_ BK127.out) hb);replace BK128:=Aside0.mk (blk_below (g:=gb128) (o:=.cells #[.string (⟨#[]⟩:ByteArray),.bool false] 107 (0,0)) (fr_ BK128.out) hb);replace BK132:=Aside0.mk (blk_below (g:=gb132) (o:=.cells #[.string t129,.bool t130] 107 (0,0)) (rp_ BK132.out) hb);replace HB:=bs_ HB hb;(try clear hb);(try clear hb2);(try clear hk);(try clear hi))|((with_reducible refine gate_dst (N:=9) rfl ?_);refine be_ 9 #[.string (⟨#[]⟩:ByteArray),.bool false] 107 ?_;intro gb136 hg w33 hbox hb;have BK136:=Aside0.mk (hbox);have GW136:=ge_ HB hg;have GE136:=ge_ HB hg;have NB127_136:=nl_ BK127 hg;have NB136_127:=ng_ BK127 hg;have NB128_136:=nl_ BK128 hg;have NB136_128:=ng_ BK128 hg;have NB132_136:=nl_ BK132 hg;have NB136_132:=ng_ BK132 hg;replace BK127:=kb_ BK127 hb;replace BK128:=kb_ BK128 hb;replace BK132:=kb_ BK132 hb;replace HB:=bs_ HB hb;clear hb hbox hg;have hnb34:=NB136_127.out;have hnc34:=NB127_136.out;have hnb35:=NB136_128.out;have hnc35:=NB128_136.out;have hnb36:=NB136_132.out;have hnc36:=NB132_136.out;have hcz37_0:=bc_ BK136 0 rfl;have hcz37_1:=bc_ BK136 1 rfl;have hfz37_0:=blk_frozen BK136.out 0;have hfz37_1:=blk_frozen BK136.out 1))
  have n0_:Aside0 (((w33.setCell ⟨gb136,0,none⟩ (.string t133)).setCell ⟨gb136,1,none⟩ (.bool t134)).heap[gb127]?=some (.cells #[.string (⟨#[]⟩:ByteArray),.bool false] 107 (0,0))):=⟨fr_ BK127.out⟩;have n1_:Aside0 (((w33.setCell ⟨gb136,0,none⟩ (.string t133)).setCell ⟨gb136,1,none⟩ (.bool t134)).heap[gb128]?=some (.cells #[.string (⟨#[]⟩:ByteArray),.bool false] 107 (0,0))):=⟨fr_ BK128.out⟩;have n2_:Aside0 (((w33.setCell ⟨gb136,0,none⟩ (.string t133)).setCell ⟨gb136,1,none⟩ (.bool t134)).heap[gb132]?=some (.cells #[.string t129,.bool t130] 107 (0,0))):=⟨fr_ BK132.out⟩;have n3_:Aside0 (((w33.setCell ⟨gb136,0,none⟩ (.string t133)).setCell ⟨gb136,1,none⟩ (.bool t134)).heap[gb136]?=some (.cells #[.string t133,.bool t134] 107 (0,0))):=⟨rp_ BK136.out⟩;have n4_:Aside0 (Below w.heap.size w ((w33.setCell ⟨gb136,0,none⟩ (.string t133)).setCell ⟨gb136,1,none⟩ (.bool t134))):=⟨b_ HB.out⟩;(try clear BK127);(try clear BK128);(try clear BK132);(try clear BK136);(try clear HB);generalize ((w33.setCell ⟨gb136,0,none⟩ (.string t133)).setCell ⟨gb136,1,none⟩ (.bool t134))=w38 at n0_ n1_ n2_ n3_ n4_ ⊢;have BK127:=n0_;have BK128:=n1_;have BK132:=n2_;have BK136:=n3_;have HB:=n4_;clear n0_ n1_ n2_ n3_ n4_;replace BK127:=Aside0.mk (blk_drew BK127.out);replace BK128:=Aside0.mk (blk_drew BK128.out);replace BK132:=Aside0.mk (blk_drew BK132.out);replace BK136:=Aside0.mk (blk_drew BK136.out);replace HB:=Aside0.mk (below_drew1 HB.out);refine sa_ 9 (fun w'=>w'.cell? ⟨gb132,0,none⟩=some (.string t129)∧w'.cell? ⟨gb132,1,none⟩=some (.bool t130)∧w'.cell? ⟨gb136,0,none⟩=some (.string t133)∧w'.cell? ⟨gb136,1,none⟩=some (.bool t134)) (fun hHeld=>?_);refine with_tabW whole_both.tab3 whole_both.bits3 (fun HT_ HW_=>?_);generalize w38.drew=w39 at BK127 BK128 BK132 BK136 HB hHeld ⊢;refine pu_ 2 23 rfl rfl HT_ ?_;refine pu_ 3 24 rfl rfl HT_ ?_;refine pv_ 4 25 rfl rfl HT_ ?_;refine pu_ 5 26 rfl rfl HT_ ?_;refine t4_ 0 21 rfl rfl HT_ HW_ hHeld ?_;refine t4_ 1 22 rfl rfl HT_ HW_ hHeld ?_;refine on_ 6 none rfl rfl HT_ (fun K hK=>?_);have hs40:=bc_ BK127 0 rfl;have hfs40:=blk_frozen BK127.out 0;have hns40_1:=NB128_127.out;have hns40_2:=NB132_127.out;have hns40_3:=NB136_127.out;have hms40_1:=NB127_128.out;have hms40_2:=NB127_132.out;have hms40_3:=NB127_136.out;have hs41:=bc_ BK127 1 rfl;have hfs41:=blk_frozen BK127.out 1;have hns41_1:=NB128_127.out;have hns41_2:=NB132_127.out;have hns41_3:=NB136_127.out;have hms41_1:=NB127_128.out;have hms41_2:=NB127_132.out;have hms41_3:=NB127_136.out;refine skip_ (w1:=?_) (by rfl) rfl ?_ ?_;rotate_left
  ·go_simp
   rfl
  refine hf_ hK hHeld (fun hHeld=>?_);clear hK K;refine on_ 7 none rfl rfl HT_ (fun K hK=>?_);have hs42:=bc_ BK128 0 rfl;have hfs42:=blk_frozen BK128.out 0;have hns42_0:=NB127_128.out;have hns42_2:=NB132_128.out;have hns42_3:=NB136_128.out;have hms42_0:=NB128_127.out;have hms42_2:=NB128_132.out;have hms42_3:=NB128_136.out;have hs43:=bc_ BK128 1 rfl;have hfs43:=blk_frozen BK128.out 1;have hns43_0:=NB127_128.out;have hns43_2:=NB132_128.out;have hns43_3:=NB136_128.out;have hms43_0:=NB128_127.out;have hms43_2:=NB128_132.out;have hms43_3:=NB128_136.out;refine skip_ (w1:=?_) (by rfl) rfl ?_ ?_;rotate_left
  ·go_simp
   rfl
  refine hf_ hK hHeld (fun hHeld=>?_);clear hK K;refine pu_ 8 6 rfl rfl HT_ ?_;refine done_ (done_of HT_.out (by kernel_rfl)) ?_
  try go_wp2
  refine bodyPost_ret (results_list (rs:=[.cell 4 107,.cell 5 107,.tmp 6]) rfl (by simp) (.cell gb127 107 #[.string t129,.bool t130] (0,0) _ rfl (by refine k_ ?_;refine blk_far ?_ NB127_128.out _;refine k_ ?_;refine blk_far ?_ NB127_128.out _;refine k_ ?_;refine blk_put (cs:=#[.string t129,.bool false]) ?_ 1 _ rfl;refine k_ ?_;refine blk_put (cs:=#[.string (⟨#[]⟩:ByteArray),.bool false]) ?_ 0 _ rfl;refine k_ ?_;exact BK127.out) Tryz.underlying107 rfl (by kernel_rfl) (.cell gb128 107 #[.string t133,.bool t134] (0,0) _ rfl (by refine k_ ?_;refine blk_put (cs:=#[.string t133,.bool false]) ?_ 1 _ rfl;refine k_ ?_;refine blk_put (cs:=#[.string (⟨#[]⟩:ByteArray),.bool false]) ?_ 0 _ rfl;refine k_ ?_;refine blk_far ?_ NB128_127.out _;refine k_ ?_;refine blk_far ?_ NB128_127.out _;refine k_ ?_;exact BK128.out) Tryz.underlying107 rfl (by kernel_rfl) (.tmp .nil)))) rfl ?_;exact⟨er_,b_ HB.out⟩
end Go.Proofs.YtoghmeffpgbcfaaGreatDoor.Pw
end

section
namespace Go.Proofs.YtoghmeffpgbcfaaGreatDoor.Pw
mutual
def whole_Div.j0:Nat→Bool→ByteArray→Bool→ByteArray→Bool→Option (ByteArray×ByteArray×Bool)
 | 0,_,_,_,_,_=>none
 | k+1,x26,x143000,x143001,x144000,x144001=>if x26=true then (some ((⟨#[]⟩:ByteArray),(⟨#[]⟩:ByteArray),false)) else ((nat_Div.f x143000 x144000).bind fun bt144=>(if x143001=true then (whole_Div.j1 k bt144.1 bt144.2.1 (bt144.2.1.toList != ([48]:List UInt8)) x143000 x143001 x144000 x144001) else (whole_Div.j1 k bt144.1 bt144.2.1 false x143000 x143001 x144000 x144001)))
def whole_Div.j1:Nat→ByteArray→ByteArray→Bool→ByteArray→Bool→ByteArray→Bool→Option (ByteArray×ByteArray×Bool)
 | 0,_,_,_,_,_,_,_=>none
 | k+1,x10,x11,x41,x143000,x143001,x144000,x144001=>if x41=true then ((nat_Add.f x10 (⟨#[49]⟩:ByteArray)).bind fun t147=>((nat_Sub.f x144000 x11).bind fun bt148=>((whole_number_text.f t147 (x143001 != x144001)).bind fun t150=>(some (t150,bt148.1,true))))) else ((whole_number_text.f x10 (x143001 != x144001)).bind fun t151=>(some (t151,x11,true)))
end
def whole_Div.f (k:Nat) (a0:ByteArray) (a1:ByteArray):Option (ByteArray×ByteArray×Bool):=(whole_both.f a0 a1).bind fun bt137=>(if bt137.2.2.2.2=true then (whole_Div.j0 k (bt137.2.2.1.toList == ([48]:List UInt8)) bt137.1 bt137.2.1 bt137.2.2.1 bt137.2.2.2.1) else (whole_Div.j0 k true bt137.1 bt137.2.1 bt137.2.2.1 bt137.2.2.2.1))
set_option maxHeartbeats 8000000 in
set_option maxRecDepth 100000 in
theorem whole_Div.calls (k:Nat) (a0:ByteArray) (a1:ByteArray) (r1:ByteArray) (r2:ByteArray) (r3:Bool) (w:World) (hL_:Laid w) (h:whole_Div.f k a0 a1=some (r1,r2,r3)) :
  Calls Tryz.prog 160 #[.string a0,.string a1] w fun e w'=>e=.returned (.tuple #[.string r1,.string r2,.bool r3])∧Below w.heap.size w w':=by
 have hu107:=Tryz.underlying107;have HLD:=Aside0.mk hL_;clear hL_;have HB:=Aside0.mk (Below.refl w.heap.size w);have H:=h;unfold whole_Div.f at H;clear h;obtain⟨⟨t137,t138,t139,t140,t141⟩,A3,H⟩:=bi_ H;(try dsimp only at H);have HC4:=Aside0.mk H;clear H;go_enter Tryz.func160,Tryz.ntmps160
 go_upto_region 2 with (first|(refine gl_ 16 Tryz.func175 #[.string a0,.string a1] ?_;refine mo_ (whole_both.calls a0 a1 t137 t138 t139 t140 t141 _ A3.out) ?_;intro w5 hb;replace HB:=bs_ HB hb;(try clear hb);(try clear hb2);(try clear hk);(try clear hi))|((with_reducible refine gate_dst (N:=7) rfl ?_);refine be_ 7 #[.string (⟨#[]⟩:ByteArray),.bool false] 107 ?_;intro gb142 hg w6 hbox hb;have BK142:=Aside0.mk (hbox);have GW142:=ge_ HB hg;have GE142:=ge_ HB hg;replace HB:=bs_ HB hb;clear hb hbox hg)|((with_reducible refine gate_dst (N:=8) rfl ?_);refine be_ 8 #[.string (⟨#[]⟩:ByteArray),.bool false] 107 ?_;intro gb143 hg w7 hbox hb;have BK143:=Aside0.mk (hbox);have GW143:=ge_ HB hg;have GE143:=ge_ HB hg;have NB142_143:=nl_ BK142 hg;have NB143_142:=ng_ BK142 hg;replace BK142:=kb_ BK142 hb;replace HB:=bs_ HB hb;clear hb hbox hg;have hnb8:=NB142_143.out;have hnc8:=NB143_142.out;have hcz9_0:=bc_ BK142 0 rfl;have hcz9_1:=bc_ BK142 1 rfl;have hfz9_0:=blk_frozen BK142.out 0;have hfz9_1:=blk_frozen BK142.out 1;have hcz10_0:=bc_ BK143 0 rfl;have hcz10_1:=bc_ BK143 1 rfl;have hfz10_0:=blk_frozen BK143.out 0;have hfz10_1:=blk_frozen BK143.out 1))
 (try simp only[Act.put,List.setIfInBounds_toArray,List.set_cons_zero,List.set_cons_succ])
 go_cut [26] (fun v26 wc=>∃ (kq:Nat) (x26_3:Bool),v26=.bool x26_3∧Aside0 (whole_Div.j0 kq x26_3 t137 t138 t139 t140=some (r1,r2,r3))∧Aside0 (kq≤k)∧Aside0 (wc.heap[gb142]?=some (.cells #[.string t137,.bool t138] 107 (0,0)))∧Aside0 (wc.heap[gb143]?=some (.cells #[.string t139,.bool t140] 107 (0,0)))∧Aside0 (Below w.heap.size w wc))
 case first =>
  have H:=HC4.out;clear HC4;by_cases c11:t141=true
  ·subst c11;rw[if_pos rfl] at H;have H':=Aside0.mk H;clear H;have hnb12:=NB143_142.out;have hnc12:=NB142_143.out;have hcz13_0:=bc_ BK143 0 rfl;have hcz13_1:=bc_ BK143 1 rfl;have hfz13_0:=blk_frozen BK143.out 0;have hfz13_1:=blk_frozen BK143.out 1;go_wp2
   go_meet
   case rel=>exact⟨_,((t139.toList == ([48]:List UInt8))),rl_,H',⟨by first|omega|exact Nat.le_refl _⟩,⟨by refine k_ ?_;refine blk_far ?_ NB142_143.out _;refine k_ ?_;refine blk_far ?_ NB142_143.out _;refine k_ ?_;refine blk_put (cs:=#[.string t137,.bool false]) ?_ 1 _ rfl;refine k_ ?_;refine blk_put (cs:=#[.string (⟨#[]⟩:ByteArray),.bool false]) ?_ 0 _ rfl;refine k_ ?_;exact BK142.out⟩,⟨by refine k_ ?_;refine blk_put (cs:=#[.string t139,.bool false]) ?_ 1 _ rfl;refine k_ ?_;refine blk_put (cs:=#[.string (⟨#[]⟩:ByteArray),.bool false]) ?_ 0 _ rfl;refine k_ ?_;refine blk_far ?_ NB143_142.out _;refine k_ ?_;refine blk_far ?_ NB143_142.out _;refine k_ ?_;exact BK143.out⟩,⟨b_ HB.out⟩⟩
  ·replace c11:=Bool.eq_false_iff.mpr c11;subst c11;rw[if_neg nf_] at H;have H':=Aside0.mk H;clear H;go_wp2
   go_meet
   case rel=>exact⟨_,(true),rl_,H',⟨by first|omega|exact Nat.le_refl _⟩,⟨by refine k_ ?_;refine blk_far ?_ NB142_143.out _;refine k_ ?_;refine blk_far ?_ NB142_143.out _;refine k_ ?_;refine blk_put (cs:=#[.string t137,.bool false]) ?_ 1 _ rfl;refine k_ ?_;refine blk_put (cs:=#[.string (⟨#[]⟩:ByteArray),.bool false]) ?_ 0 _ rfl;refine k_ ?_;exact BK142.out⟩,⟨by refine k_ ?_;refine blk_put (cs:=#[.string t139,.bool false]) ?_ 1 _ rfl;refine k_ ?_;refine blk_put (cs:=#[.string (⟨#[]⟩:ByteArray),.bool false]) ?_ 0 _ rfl;refine k_ ?_;refine blk_far ?_ NB143_142.out _;refine k_ ?_;refine blk_far ?_ NB143_142.out _;refine k_ ?_;exact BK143.out⟩,⟨b_ HB.out⟩⟩
 case rest =>
  clear HC4;(try clear c1);(try clear p2);(try clear c8);(try clear c11);(try clear c12);(try clear hcz10_0);(try clear hcz10_1);(try clear hcz13_0);(try clear hcz13_1);(try clear hcz9_0);(try clear hcz9_1);(try clear hfz10_0);(try clear hfz10_1);(try clear hfz13_0);(try clear hfz13_1);(try clear hfz9_0);(try clear hfz9_1);obtain⟨kq,x26_3,rfl,HA,HJ3,BK142,BK143,HB⟩:=hcut
  cases kq with
  | zero=>exact absurd HA.out (by simp[whole_Div.j0])
  | succ kj3 =>
   have H:=HA.out;clear HA;simp only[whole_Div.j0] at H;by_cases c14:x26_3=true
   ·subst c14;rw[if_pos rfl] at H;simp only[Option.some.injEq,Prod.mk.injEq] at H;obtain⟨rfl,rfl,rfl⟩:=H;go_wp2
    go_ret3
    exact⟨er_,b_ HB.out⟩
   ·replace c14:=Bool.eq_false_iff.mpr c14;subst c14;rw[if_neg nf_] at H;obtain⟨⟨t144,t145,t146⟩,A15,H⟩:=bi_ H;(try dsimp only at H);have HC16:=Aside0.mk H;clear H;have hnb17:=NB142_143.out;have hnc17:=NB143_142.out;have hcz18_0:=bc_ BK142 0 rfl;have hcz18_1:=bc_ BK142 1 rfl;have hfz18_0:=blk_frozen BK142.out 0;have hfz18_1:=blk_frozen BK142.out 1;have hcz19_0:=bc_ BK143 0 rfl;have hcz19_1:=bc_ BK143 1 rfl;have hfz19_0:=blk_frozen BK143.out 0;have hfz19_1:=blk_frozen BK143.out 1
    go_upto_region 5 with (first|(refine gl_ 32 Tryz.func59 #[.string t137,.string t139] ?_;refine mo_ (nat_Div.calls t137 t139 t144 t145 t146 _ (lb_ HLD HB) A15.out) ?_;intro w20 hb;replace BK142:=kb_ BK142 hb;replace BK143:=kb_ BK143 hb;replace HB:=bs_ HB hb;(try clear hb);(try clear hb2);(try clear hk);(try clear hi)))
    (try simp only[Act.put,List.setIfInBounds_toArray,List.set_cons_zero,List.set_cons_succ])
    go_cut [41] (fun v41 wc=>∃ (kq:Nat) (x41_15:Bool),v41=.bool x41_15∧Aside0 (whole_Div.j1 kq t144 t145 x41_15 t137 t138 t139 t140=some (r1,r2,r3))∧Aside0 (kq≤kj3)∧Aside0 (wc.heap[gb142]?=some (.cells #[.string t137,.bool t138] 107 (0,0)))∧Aside0 (wc.heap[gb143]?=some (.cells #[.string t139,.bool t140] 107 (0,0)))∧Aside0 (Below w.heap.size w wc))
    case first =>
     have H:=HC16.out;clear HC16;by_cases c21:t138=true
     ·subst c21;rw[if_pos rfl] at H;have H':=Aside0.mk H;clear H;have hnb22:=NB142_143.out;have hnc22:=NB143_142.out;have hcz23_0:=bc_ BK142 0 rfl;have hcz23_1:=bc_ BK142 1 rfl;have hfz23_0:=blk_frozen BK142.out 0;have hfz23_1:=blk_frozen BK142.out 1;go_wp2
      go_meet
      case rel=>exact⟨_,((t145.toList != ([48]:List UInt8))),rl_,H',⟨by have:=HJ3.out;first|omega|exact Nat.le_refl _⟩,⟨k_ BK142.out⟩,⟨k_ BK143.out⟩,⟨b_ HB.out⟩⟩
     ·replace c21:=Bool.eq_false_iff.mpr c21;subst c21;rw[if_neg nf_] at H;have H':=Aside0.mk H;clear H;have hnb24:=NB142_143.out;have hnc24:=NB143_142.out;have hcz25_0:=bc_ BK142 0 rfl;have hcz25_1:=bc_ BK142 1 rfl;have hfz25_0:=blk_frozen BK142.out 0;have hfz25_1:=blk_frozen BK142.out 1;go_wp2
      go_meet
      case rel=>exact⟨_,(false),rl_,H',⟨by have:=HJ3.out;first|omega|exact Nat.le_refl _⟩,⟨k_ BK142.out⟩,⟨k_ BK143.out⟩,⟨b_ HB.out⟩⟩
    case rest =>
     clear HC16;(try clear c1);(try clear c2);(try clear p2);(try clear c5);(try clear c8);(try clear c11);(try clear c12);(try clear c14);(try clear c16);(try clear c17);(try clear c21);(try clear c22);(try clear c24);(try clear hcz10_0);(try clear hcz10_1);(try clear hcz13_0);(try clear hcz13_1);(try clear hcz18_0);(try clear hcz18_1);(try clear hcz19_0);(try clear hcz19_1);(try clear hcz23_0);(try clear hcz23_1);(try clear hcz25_0);(try clear hcz25_1);(try clear hcz9_0);(try clear hcz9_1);(try clear hfz10_0);(try clear hfz10_1);(try clear hfz13_0);(try clear hfz13_1);(try clear hfz18_0);(try clear hfz18_1);(try clear hfz19_0);(try clear hfz19_1);(try clear hfz23_0);(try clear hfz23_1);(try clear hfz25_0);(try clear hfz25_1);(try clear hfz9_0);(try clear hfz9_1);(try clear p2);obtain⟨kq,x41_15,rfl,HA,HJ15,BK142,BK143,HB⟩:=hcut
     cases kq with
     | zero=>exact absurd HA.out (by simp[whole_Div.j1])
     | succ kj15 =>
      have H:=HA.out;clear HA;simp only[whole_Div.j1] at H;by_cases c26:x41_15=true
      ·subst c26;rw[if_pos rfl] at H;obtain⟨t147,A27,H⟩:=bi_ H;obtain⟨⟨t148,t149⟩,A28,H⟩:=bi_ H;(try dsimp only at H);obtain⟨t150,A29,H⟩:=bi_ H;simp only[Option.some.injEq,Prod.mk.injEq] at H;obtain⟨rfl,rfl,rfl⟩:=H
       go_wp2_with (first|(refine gl_ 43 Tryz.func176 #[.string t144,.string (⟨#[49]⟩:ByteArray)] ?_;refine mo_ (nat_Add.calls t144 (⟨#[49]⟩:ByteArray) t147 _ (lb_ HLD HB) A27.out) ?_;intro w30 hb;replace BK142:=kb_ BK142 hb;replace BK143:=kb_ BK143 hb;replace HB:=bs_ HB hb;(try clear hb);(try clear hb2);(try clear hk);(try clear hi);have hnb31:=NB143_142.out;have hnc31:=NB142_143.out;have hcz32_0:=bc_ BK143 0 rfl;have hcz32_1:=bc_ BK143 1 rfl;have hfz32_0:=blk_frozen BK143.out 0;have hfz32_1:=blk_frozen BK143.out 1)|(refine gl_ 48 Tryz.func177 #[.string t139,.string t145] ?_;refine mo_ (nat_Sub.calls t139 t145 t148 t149 _ (lb_ HLD HB) A28.out) ?_;intro w33 hb;replace BK142:=kb_ BK142 hb;replace BK143:=kb_ BK143 hb;replace HB:=bs_ HB hb;(try clear hb);(try clear hb2);(try clear hk);(try clear hi);have hcz34_0:=bc_ BK142 0 rfl;have hcz34_1:=bc_ BK142 1 rfl;have hfz34_0:=blk_frozen BK142.out 0;have hfz34_1:=blk_frozen BK142.out 1;have hcz35_0:=bc_ BK143 0 rfl;have hcz35_1:=bc_ BK143 1 rfl;have hfz35_0:=blk_frozen BK143.out 0;have hfz35_1:=blk_frozen BK143.out 1)|(refine gl_ 58 Tryz.func127 #[.agg #[.string t147,.bool (t138 != t140)]] ?_;refine mo_ (whole_number_text.calls t147 (t138 != t140) t150 _ A29.out) ?_;intro w36 hb;replace BK142:=kb_ BK142 hb;replace BK143:=kb_ BK143 hb;replace HB:=bs_ HB hb;(try clear hb);(try clear hb2);(try clear hk);(try clear hi)))
       go_ret3
       exact⟨er_,b_ HB.out⟩
      ·replace c26:=Bool.eq_false_iff.mpr c26;subst c26;rw[if_neg nf_] at H;obtain⟨t151,A37,H⟩:=bi_ H;simp only[Option.some.injEq,Prod.mk.injEq] at H;obtain⟨rfl,rfl,rfl⟩:=H;have hnb38:=NB142_143.out;have hnc38:=NB143_142.out;have hcz39_0:=bc_ BK142 0 rfl;have hcz39_1:=bc_ BK142 1 rfl;have hfz39_0:=blk_frozen BK142.out 0;have hfz39_1:=blk_frozen BK142.out 1;have hcz40_0:=bc_ BK143 0 rfl;have hcz40_1:=bc_ BK143 1 rfl;have hfz40_0:=blk_frozen BK143.out 0;have hfz40_1:=blk_frozen BK143.out 1
       go_wp2_with (first|(refine gl_ 58 Tryz.func127 #[.agg #[.string t144,.bool (t138 != t140)]] ?_;refine mo_ (whole_number_text.calls t144 (t138 != t140) t151 _ A37.out) ?_;intro w41 hb;replace BK142:=kb_ BK142 hb;replace BK143:=kb_ BK143 hb;replace HB:=bs_ HB hb;(try clear hb);(try clear hb2);(try clear hk);(try clear hi)))
       go_ret3
       exact⟨er_,b_ HB.out⟩
end Go.Proofs.YtoghmeffpgbcfaaGreatDoor.Pw
end

section
namespace Go.Proofs.YtoghmeffpgbcfaaGreatDoor.Pw
end Go.Proofs.YtoghmeffpgbcfaaGreatDoor.Pw
end

section
namespace Go.Proofs.YtoghmeffpgbcfaaGreatDoor
theorem cutW_f (a:ByteArray):Pw.strings_CutPrefix.f a ⟨#[45]⟩=some (amtB a,minusB a):=by
 unfold Pw.strings_CutPrefix.f Pw.stringslite_CutPrefix.f Pw.stringslite_HasPrefix.f
 have h1:((⟨#[45]⟩:ByteArray).size:Int)=1:=rfl
 have h1':(((⟨#[45]⟩:ByteArray).size:Int)).toNat=1:=rfl
 have h2:(⟨#[45]⟩:ByteArray).toList=[45]:=by rw[ByteArray.toList_eq]
 rw[h1',h1,h2,ByteArray.toList_eq]
 unfold amtB minusB
 have hs:=size_len a
 cases hl:a.data.toList with
 | nil =>
  rw[hl] at hs
  rw[if_neg (by rw[hs];decide),Option.bind_some]
  simp only[Bool.false_eq_true,if_false,Option.bind_some,cutL]
  congr 2
  apply bext
  rw[hl]
 | cons c r =>
  rw[hl] at hs
  have hsz:(1:Int)≤(a.size:Int):=by rw[hs,List.length_cons];omega
  have hx:(a.extract 0 1).data.toList=[c]:=by
   rw[Lib.extract_data,hl]
   rfl
  rw[if_pos hsz,if_pos (by decide),if_pos hsz,Option.bind_some,hx]
  by_cases hc:c=45
  ·subst hc
   rw[if_pos (by decide),if_pos (by decide),if_pos hsz]
   simp only[Option.bind_some,cutL]
   congr 2
   apply bext
   rw[Lib.extract_to_end,hl]
   rfl
  ·have hne:([c] == ([45]:List UInt8))=false:=by rw[beq_eq_false_iff_ne];simpa using hc
   rw[hne]
   simp only[Bool.false_eq_true,if_false,Option.bind_some]
   have e:cutL (c :: r)=(c :: r,false):=by
    unfold cutL
    split
    ·rename_i h
     injection h with h _
     exact absurd h hc
    ·rfl
   rw[e]
   congr 2
   apply bext
   rw[hl]
theorem amtB_size (a:ByteArray):(amtB a).size≤a.size:=by
 rw[size_len,size_len,amtB_list]
 unfold cutL
 split
 ·rename_i h;rw[h];simp
 ·exact Nat.le_refl _
theorem readW_f {a:ByteArray} (h:a.size≤50000):Pw.whole_read.f a=some (if mayW a=true then (amtB a,minusB a,true) else (noB,false,false)):=by
 unfold Pw.whole_read.f mayW
 rw[cutW_f,Option.bind_some]
 have hs:=amtB_size a
 rw[may_f (show sm (amtB a)=true from decide_eq_true (by omega)),Option.bind_some]
 cases hm:mayB (amtB a) with
 | false=>rfl
 | true =>
  simp only[if_true,Bool.true_and]
  cases hn:minusB a with
  | false=>rfl
  | true =>
   simp only[if_true,Bool.not_true,Bool.false_or]
   have h48:=list48 hm
   rw[← ByteArray.toList_eq] at h48
   by_cases hz:numB (amtB a)=0
   ·rw[if_pos (h48.2 hz),if_neg (by rw[hz];decide)]
    rfl
   ·rw[if_neg (fun e=>hz (h48.1 e)),if_pos (decide_eq_true hz)]
theorem readW_int {z:Int} (h:szI z≤50000):Pw.whole_read.f (intB z)=some (natB z.natAbs,decide (z<0),true):=by
 rw[readW_f h,if_pos (mayW_int z),amtB_int,minusB_int]
theorem readW_no {a:ByteArray} (h:a.size≤50000) (hm:¬ mayW a=true):Pw.whole_read.f a=some (noB,false,false):=by
 rw[readW_f h,if_neg hm]
theorem textW_f (b:Bool) {n:Nat} (h:sz n≤1000000):Pw.whole_number_text.f (natB n) b=some (intB (withS b n)):=by
 rw[← withS_text]
 unfold Pw.whole_number_text.f
 cases b with
 | false=>rfl
 | true =>
  simp only[if_true]
  by_cases hz:n=0
  ·rw[if_pos (natB_toList_zero.2 hz),if_pos hz]
  ·unfold sz at h
   rw[if_neg (fun e=>hz (natB_toList_zero.1 e)),if_neg hz,if_pos (by omega)]
theorem withS_int (z:Int):withS (decide (z<0)) z.natAbs=z:=by
 unfold withS
 by_cases h:z<0
 ·rw[if_pos (decide_eq_true h)];omega
 ·rw[if_neg (by rw[decide_eq_true_eq];exact h)];omega
theorem withS_not (z:Int):withS (!decide (z<0)) z.natAbs=-z:=by
 unfold withS
 by_cases h:z<0
 ·rw[decide_eq_true h,if_neg (by decide)];omega
 ·rw[decide_eq_false h,if_pos (by decide)];omega
theorem mayW_f {a:ByteArray} (h:a.size≤50000):Pw.whole_May.f a=some (mayW a):=by
 unfold Pw.whole_May.f
 rw[readW_f h,Option.bind_some]
 cases hm:mayW a <;> rfl
theorem absW_f {a:ByteArray} (h:a.size≤50000):Pw.whole_Abs.f a=some (wabsS a):=by
 unfold Pw.whole_Abs.f wabsS
 by_cases hm:mayW a=true
 ·obtain⟨z,rfl⟩:=of_mayW hm
  rw[readW_int h,if_pos hm,numW_int]
  rfl
 ·rw[readW_no h hm,if_neg hm]
  rfl
theorem negW_f {a:ByteArray} (h:a.size≤50000):Pw.whole_Neg.f a=some (wnegS a):=by
 unfold Pw.whole_Neg.f wnegS
 by_cases hm:mayW a=true
 ·obtain⟨z,rfl⟩:=of_mayW hm
  have h1:=le_szI z
  have h2:szI z≤50000:=h
  rw[readW_int h,Option.bind_some,if_pos rfl,if_pos hm,numW_int,textW_f _ (by omega),withS_not]
  rfl
 ·rw[readW_no h hm,if_neg hm]
  rfl
theorem signW_f {a:ByteArray} (h:a.size≤50000) (k:Nat):Pw.whole_Sign.f (k+1) a=some (wsignS a):=by
 unfold Pw.whole_Sign.f wsignS
 by_cases hm:mayW a=true
 ·obtain⟨z,rfl⟩:=of_mayW hm
  rw[readW_int h,Option.bind_some,if_pos rfl,if_pos hm,numW_int,natB_beq_zero]
  simp only[Pw.whole_Sign.j0]
  rcases (by omega:z<0∨z=0∨0<z) with hz|hz|hz
  ·rw[if_neg (by rw[decide_eq_true_eq];omega),if_pos (decide_eq_true hz),cmp_lt' hz]
  ·subst hz
   rfl
  ·rw[if_neg (by rw[decide_eq_true_eq];omega),if_neg (by rw[decide_eq_true_eq];omega),cmp_gt' hz]
 ·rw[readW_no h hm,if_neg hm]
  rfl
theorem may2W_and {a b:ByteArray}:may2W a b=true↔mayW a=true∧mayW b=true:=by unfold may2W;rw[Bool.and_eq_true]
theorem bothW_int {x y:Int} (hx:szI x≤50000) (hy:szI y≤50000):Pw.whole_both.f (intB x) (intB y)=some (natB x.natAbs,decide (x<0),natB y.natAbs,decide (y<0),true):=by
 unfold Pw.whole_both.f
 rw[readW_int hx,Option.bind_some,readW_int hy,Option.bind_some,if_pos rfl]
theorem bothW_no {a b:ByteArray} (ha:a.size≤50000) (hb:b.size≤50000) (hm:¬ may2W a b=true):∃ p q r s,Pw.whole_both.f a b=some (p,q,r,s,false):=by
 unfold Pw.whole_both.f
 rw[readW_f ha,Option.bind_some,readW_f hb,Option.bind_some]
 by_cases h1:mayW a=true
 ·have h2:¬ mayW b=true:=fun h2=>hm (may2W_and.2 ⟨h1,h2⟩)
  rw[if_pos h1,if_neg h2,if_pos rfl]
  exact⟨_,_,_,_,rfl⟩
 ·rw[if_neg h1,if_neg (by decide)]
  exact⟨_,_,_,_,rfl⟩
theorem may2W_int (x y:Int):may2W (intB x) (intB y)=true:=may2W_and.2 ⟨mayW_int x,mayW_int y⟩
theorem casesW (a b:ByteArray):(∃ x y,a=intB x∧b=intB y)∨¬ may2W a b=true:=by
 by_cases h:may2W a b=true
 ·obtain⟨h1,h2⟩:=may2W_and.1 h
  obtain⟨x,hx⟩:=of_mayW h1
  obtain⟨y,hy⟩:=of_mayW h2
  exact .inl ⟨x,y,hx,hy⟩
 ·exact .inr h
theorem divW_f {a b:ByteArray} (ha:a.size≤49990) (hb:b.size≤49990) (k:Nat):Pw.whole_Div.f (k+2) a b=some (wdivS a b):=by
 unfold Pw.whole_Div.f wdivS
 rcases casesW a b with ⟨x,y,rfl,rfl⟩|hm
 ·have h1:=le_szI x
  have h2:=le_szI y
  have h3:szI x≤49990:=ha
  have h4:szI y≤49990:=hb
  rw[bothW_int (by omega) (by omega),Option.bind_some,if_pos rfl,natB_beq_zero,may2W_int,Bool.true_and,numW_int,numW_int]
  show Pw.whole_Div.j0 (k+1+1) _ _ _ _ _ = _
  simp only[Pw.whole_Div.j0]
  by_cases hy:y=0
  ·subst hy
   rfl
  ·have hy':y.natAbs≠0:=by omega
   have hd:=divW (m:=x.natAbs) hy' (decide (x<0)) (decide (y<0)) (by intro h;rw[decide_eq_true_eq] at h;omega)
   rw[withS_int,withS_int] at hd
   have s1:=sz_mono (Nat.div_le_self x.natAbs y.natAbs)
   have s2:=sz_mono (Nat.mod_le x.natAbs y.natAbs)
   have hlt:=Nat.mod_lt x.natAbs (show 0<y.natAbs by omega)
   rw[if_neg (by rw[decide_eq_true_eq];exact hy'),if_pos (decide_eq_true hy),fDiv (by omega) (by omega) hy',Option.bind_some,hd.1,hd.2]
   clear hd
   generalize x.natAbs / y.natAbs=q at *
   generalize x.natAbs % y.natAbs=r at *
   have one1:sz 1≤1:=sz_le (by omega) (by omega)
   have s3:=sz_add q 1
   by_cases hx:x<0
   ·rw[if_pos (decide_eq_true hx)]
    simp only[Pw.whole_Div.j1]
    by_cases hr:r=0
    ·subst hr
     rw[if_neg (by have:=natB_beq_zero 0;simp[bne,this]),textW_f _ (by omega),Option.bind_some,if_neg (by simp),if_neg (by simp)]
     rw[show ((0:Nat):Int)=((0:Nat):Int) from rfl,intB_nat]
    ·rw[if_pos (by have:=natB_beq_zero r;simp[bne,this,hr]),← natB_one,fAdd (by omega) (by omega),Option.bind_some,fSub (by omega) (by omega),Option.bind_some,if_pos (by omega),textW_f _ (by omega),Option.bind_some,if_pos ⟨decide_eq_true hx,hr⟩,if_pos ⟨decide_eq_true hx,hr⟩,intB_nat]
   ·rw[if_neg (by rw[decide_eq_true_eq];exact hx)]
    simp only[Pw.whole_Div.j1]
    have hf:¬ (decide (x<0)=true∧r≠0):=fun e=>hx (of_decide_eq_true e.1)
    rw[if_neg (by decide),textW_f _ (by omega),Option.bind_some,if_neg hf,if_neg hf,intB_nat]
 ·obtain⟨p,q,r,s,e⟩:=bothW_no (Nat.le_trans ha (by omega)) (Nat.le_trans hb (by omega)) hm
  rw[e,Option.bind_some,if_neg (show ¬ ((p,q,r,s,false):ByteArray×Bool×ByteArray×Bool×Bool).2.2.2.2=true from Bool.false_ne_true),(Bool.not_eq_true _).mp hm]
  simp only[Pw.whole_Div.j0]
  rfl
theorem ofW_f (n:Int) (h0:-9223372036854775808≤n) (h1:n≤9223372036854775807):Pw.whole_Of.f n=some (itoaB n):=by
 unfold Pw.whole_Of.f strconv_Itoa.f
 rw[if_pos ⟨h0,h1⟩]
 rfl
end Go.Proofs.YtoghmeffpgbcfaaGreatDoor
end

section
namespace Go.Proofs.YtoghmeffpgbcfaaGreatDoor
def smw (s:ByteArray):Bool:=decide (s.size≤49990)
def smw2 (a b:ByteArray):Bool:=smw a&&smw b
theorem smw_le {s:ByteArray} (h:smw s=true):s.size≤49990:=of_decide_eq_true h
theorem smw2_le {a b:ByteArray} (h:smw2 a b=true):a.size≤49990∧b.size≤49990:=by
 unfold smw2 at h
 rw[Bool.and_eq_true] at h
 exact⟨smw_le h.1,smw_le h.2⟩
theorem itoaB_int (n:Int):itoaB n=intB n:=by
 apply bext
 unfold itoaB intB Lib.itoa
 by_cases h:n<0
 ·rw[if_pos h,if_pos h,Joins.data_append,natB_list]
  rfl
 ·rw[if_neg h,if_neg h,natB_list]
  have e:n.toNat=n.natAbs:=by omega
  rw[e]
def whole_May.f (a0:ByteArray):Option Bool:=if smw a0=true then some (mayW a0) else none
theorem whole_May.calls (a0:ByteArray) (r:Bool) (w:World) (h:whole_May.f a0=some r) :
  Calls Tryz.prog 98 #[.string a0] w fun e w'=>e=.returned (.bool r)∧Below w.heap.size w w':=by
 unfold whole_May.f at h
 split at h
 ·rename_i hp
  have hs:=smw_le hp
  rw[← mayW_f (by omega)] at h
  exact Pw.whole_May.calls a0 r w h
 ·cases h
def whole_Of.f (a0:Int):Option ByteArray:=if -9223372036854775808≤a0∧a0≤9223372036854775807 then some (intB a0) else none
theorem whole_Of.calls (a0:Int) (r:ByteArray) (w:World) (hL_:Laid w) (h:whole_Of.f a0=some r) :
  Calls Tryz.prog 81 #[.int .i64 a0] w fun e w'=>e=.returned (.string r)∧Below w.heap.size w w':=by
 unfold whole_Of.f at h
 split at h
 ·rename_i hp
  rw[← itoaB_int,← ofW_f a0 hp.1 hp.2] at h
  exact Pw.whole_Of.calls a0 r w hL_ h
 ·cases h
def whole_Sign.f (a0:ByteArray):Option Int:=if smw a0=true then some (wsignS a0) else none
theorem whole_Sign.calls (a0:ByteArray) (r:Int) (w:World) (h:whole_Sign.f a0=some r) :
  Calls Tryz.prog 64 #[.string a0] w fun e w'=>e=.returned (.int .i64 r)∧Below w.heap.size w w':=by
 unfold whole_Sign.f at h
 split at h
 ·rename_i hp
  have hs:=smw_le hp
  rw[← signW_f (by omega) 0] at h
  exact Pw.whole_Sign.calls _ a0 r w h
 ·cases h
def whole_Abs.f (a0:ByteArray):Option ByteArray:=if smw a0=true then some (wabsS a0) else none
theorem whole_Abs.calls (a0:ByteArray) (r:ByteArray) (w:World) (h:whole_Abs.f a0=some r) :
  Calls Tryz.prog 62 #[.string a0] w fun e w'=>e=.returned (.string r)∧Below w.heap.size w w':=by
 unfold whole_Abs.f at h
 split at h
 ·rename_i hp
  have hs:=smw_le hp
  rw[← absW_f (by omega)] at h
  exact Pw.whole_Abs.calls a0 r w h
 ·cases h
def whole_Neg.f (a0:ByteArray):Option ByteArray:=if smw a0=true then some (wnegS a0) else none
theorem whole_Neg.calls (a0:ByteArray) (r:ByteArray) (w:World) (h:whole_Neg.f a0=some r) :
  Calls Tryz.prog 86 #[.string a0] w fun e w'=>e=.returned (.string r)∧Below w.heap.size w w':=by
 unfold whole_Neg.f at h
 split at h
 ·rename_i hp
  have hs:=smw_le hp
  rw[← negW_f (by omega)] at h
  exact Pw.whole_Neg.calls a0 r w h
 ·cases h
def whole_Div.f (a0 a1:ByteArray):Option (ByteArray×ByteArray×Bool):=if smw2 a0 a1=true then some (wdivS a0 a1) else none
theorem whole_Div.calls (a0 a1:ByteArray) (r1 r2:ByteArray) (r3:Bool) (w:World) (hL_:Laid w) (h:whole_Div.f a0 a1=some (r1,r2,r3)) :
  Calls Tryz.prog 160 #[.string a0,.string a1] w fun e w'=>e=.returned (.tuple #[.string r1,.string r2,.bool r3])∧Below w.heap.size w w':=by
 unfold whole_Div.f at h
 split at h
 ·rename_i hp
  have hs:=smw2_le hp
  rw[← divW_f hs.1 hs.2 0] at h
  exact Pw.whole_Div.calls _ a0 a1 r1 r2 r3 w hL_ h
 ·cases h
end Go.Proofs.YtoghmeffpgbcfaaGreatDoor
end

section
namespace Go.Proofs.YtoghmeffpgbcfaaGreatDoor
theorem at_f (s:ByteArray) (hs:s.size≤4611686018427387904) (hd:s.data.toList.all isDig=true) (i:Nat) (hi:i≤4611686018427387904):Pq.r1_at.f s (i:Int)=some (limb (dl s) i):=by
 unfold Pq.r1_at.f
 by_cases h:s.size≤i
 ·rw[if_pos (by omega),limb_out (by rw[dl_length];exact h)]
 ·have e:wrap64 (wrap64 ((s.size:Int)-1)-(i:Int))=((s.size-1-i:Nat):Int):=by
   rw[w64 (x:=(s.size:Int)-1) (by omega) (by omega),w64 (by omega) (by omega)]
   omega
  rw[if_neg (by omega),e,if_pos (by omega),if_pos (by omega)]
  obtain⟨c,hc,hb⟩:=bt_get s (s.size-1-i) (by omega)
  have hcd:=isDig_bounds (List.all_eq_true.1 hd c (List.mem_of_getElem? hc))
  rw[hb]
  have e2:((c.toNat:Int)-48) % 256=(c.toNat:Int)-48:=Int.emod_eq_of_lt (by omega) (by omega)
  rw[e2]
  have e3:limb (dl s) i=(c.toNat:Int)-48:=by
   unfold limb dl
   rw[List.getD_eq_getElem?_getD,List.getElem?_map,List.getElem?_reverse (by rw[← size_len];omega),← size_len,hc]
   rfl
  rw[e3]
theorem trim_loop (s:ByteArray) (hs:s.size≤4611686018427387904):∀ (d i:Nat),i+d=s.size→∀ k,d+1≤k→Pq.r1_trim.l0 k s (i:Int)=some ⟨(strip (s.data.toList.drop i)).toArray⟩
 | 0,i,hi,k,hk=>by
  obtain⟨k,rfl⟩:∃ m,k=m+1:=⟨k-1,by omega⟩
  simp only[Pq.r1_trim.l0]
  rw[w64 (by omega) (by omega),if_neg (by omega),if_pos (by omega),if_pos (by omega),Int.toNat_natCast]
  congr 1
  apply bmk
  rw[Lib.extract_to_end,List.drop_of_length_le (by rw[← size_len];omega)]
  rfl
 | d+1,i,hi,k,hk=>by
  obtain⟨k,rfl⟩:∃ m,k=m+1:=⟨k-1,by omega⟩
  simp only[Pq.r1_trim.l0]
  have hil:i<s.data.toList.length:=by rw[← size_len];omega
  have stop:∀ l:List UInt8,strip (s.data.toList.drop i)=s.data.toList.drop i→some (s.extract (i:Int).toNat s.size)=some (⟨(strip (s.data.toList.drop i)).toArray⟩:ByteArray):=by
   intro _ h
   congr 1
   apply bmk
   rw[Int.toNat_natCast,Lib.extract_to_end,h]
  rw[w64 (by omega) (by omega)]
  by_cases h0:d=0
  ·rw[if_neg (by omega),if_pos (by omega),if_pos (by omega)]
   refine stop [] ?_
   rw[List.drop_eq_getElem_cons hil,List.drop_of_length_le (by rw[← size_len];omega)]
   rfl
  ·rw[if_pos (by omega),if_pos (by omega),if_pos (by omega)]
   obtain⟨c,hc,hb⟩:=bt_get s i (by omega)
   have hcc:s.data.toList[i]=c:=by
    rw[List.getElem?_eq_getElem hil] at hc
    exact Option.some.inj hc
   have hil2:i+1<s.data.toList.length:=by rw[← size_len];omega
   have hdrop:s.data.toList.drop i=c :: s.data.toList[i+1] :: s.data.toList.drop (i+2):=by
    rw[List.drop_eq_getElem_cons hil,hcc,List.drop_eq_getElem_cons hil2]
   rw[hb]
   by_cases h1:(c.toNat:Int)=48
   ·have h2:c=48:=UInt8.toNat_inj.1 (by rw[show (48:UInt8).toNat=48 from rfl];omega)
    rw[if_pos h1,show ((i:Int)+1)=((i+1:Nat):Int) by omega,trim_loop s hs d (i+1) (by omega) k (by omega),hdrop,strip,if_pos h2,List.drop_eq_getElem_cons hil2]
   ·rw[if_neg h1,if_pos (by omega)]
    refine stop [] ?_
    have h2:¬ c=48:=by rintro rfl;exact h1 rfl
    rw[hdrop,strip,if_neg h2]
theorem trim_f (s:ByteArray) (hs:s.size≤4611686018427387904) (k:Nat) (hk:s.size+1≤k) (h:s.data.toList≠[]) (hd:s.data.toList.all isDig=true):Pq.r1_trim.f k s=some (natB (numB s)):=by
 unfold Pq.r1_trim.f
 have:=trim_loop s hs s.size 0 (by omega) k (by omega)
 rw[List.drop_zero,strip_dig h hd] at this
 exact this
end Go.Proofs.YtoghmeffpgbcfaaGreatDoor
end

section
namespace Go.Proofs.YtoghmeffpgbcfaaGreatDoor
theorem rcmp_end {a b:ByteArray} (ha:mayB a=true) (hb:mayB b=true) (k:Nat):Pq.r1_Cmp.j0 (k+1) a b (a.toList == b.toList)=some (cmpS a b):=by
 simp only[Pq.r1_Cmp.j0]
 rw[ByteArray.toList_eq,ByteArray.toList_eq]
 unfold cmpS may2
 rw[ha,hb,if_pos (show (true&&true)=true from rfl)]
 by_cases h:a.data.toList=b.data.toList
 ·rw[if_pos (by rw[beq_iff_eq];exact h)]
  have:numB a=numB b:=by unfold numB;rw[h]
  rw[cmpI_eq this]
 ·rw[if_neg (by rw[beq_iff_eq];exact h)]
  have hne:numB a≠numB b:=fun e=>h (num_inj ha hb e)
  by_cases h1:a.size<b.size
  ·rw[if_pos (by omega),cmpI_lt (num_shorter ha hb h1)]
  ·rw[if_neg (by omega)]
   by_cases h2:a.size=b.size
   ·rw[if_pos (by omega)]
    have h3:=less_num a.data.toList b.data.toList (by rw[← size_len,← size_len];exact h2) (may_all ha) (may_all hb)
    by_cases h4:num a.data.toList<num b.data.toList
    ·have e5:Lib.compareInt (numB a:Int) (numB b:Int)=-1:=cmpI_lt h4
     rw[if_pos (h3.2 h4),e5]
    ·rw[if_neg (fun e=>h4 (h3.1 e)),cmpI_gt]
     unfold numB at hne ⊢
     omega
   ·rw[if_neg (by omega),cmpI_gt (num_shorter hb ha (by omega))]
theorem rcmp_f {a b:ByteArray} {N:Nat} (hN:N≤4611686018427387904) (ha:a.size≤N) (hb:b.size≤N) (k:Nat) (hk:N+1≤k):Pq.r1_Cmp.f k a b=some (cmpS a b):=by
 obtain⟨k,rfl⟩:∃ m,k=m+1:=⟨k-1,by omega⟩
 unfold Pq.r1_Cmp.f
 rw[rmay_f a (by omega) _ (by omega),Option.bind_some]
 by_cases h1:mayB a=true
 ·rw[if_pos h1,rmay_f b (by omega) _ (by omega),Option.bind_some]
  by_cases h2:mayB b=true
  ·rw[if_pos h2,rcmp_end h1 h2]
  ·rw[if_neg h2,cmpS_no (by unfold may2;rw[(Bool.not_eq_true _).mp h2,Bool.and_false])]
   rfl
 ·rw[if_neg h1,cmpS_no (by unfold may2;rw[(Bool.not_eq_true _).mp h1,Bool.false_and])]
  rfl
def Code10 (l:List Int):Prop:=∀ x∈l,48≤x∧x≤57
def cnum (l:List Int):Int:=ten (l.reverse.map fun x=>x-48)
theorem cnum_cons (v:Int) (T:List Int):cnum (v :: T)=cnum T+10 ^ T.length * (v-48):=by
 unfold cnum
 rw[List.reverse_cons,List.map_append,ten_append,List.length_map,List.length_reverse]
 simp[ten]
theorem code_cons {v:Int} {T:List Int} (h0:48≤v) (h1:v≤57) (h:Code10 T):Code10 (v :: T):=by
 intro x hx
 rcases List.mem_cons.1 hx with rfl|hx
 ·exact⟨h0,h1⟩
 ·exact h x hx
theorem code_nil:Code10 []:=by intro x h;cases h
theorem cnum_lt {T:List Int} (h:Code10 T):0≤cnum T∧cnum T<10 ^ T.length:=by
 have h1:=ten_lt (l:=T.reverse.map fun x=>x-48) (by
  intro x hx
  rw[List.mem_map] at hx
  obtain⟨y,hy,rfl⟩:=hx
  have:=h y (List.mem_reverse.1 hy)
  omega)
 rw[List.length_map,List.length_reverse] at h1
 exact h1
theorem code_byte {x:Int} (h0:48≤x) (h1:x≤57):isDig (UInt8.ofNat x.toNat)=true∧((UInt8.ofNat x.toNat).toNat:Int)=x:=by
 have e:(UInt8.ofNat x.toNat).toNat=x.toNat:=by
  rw[UInt8.toNat_ofNat']
  exact Nat.mod_eq_of_lt (by omega)
 refine⟨?_,by rw[e];omega⟩
 unfold isDig
 rw[e]
 simp
 omega
theorem code_all {T:List Int} (h:Code10 T):(strOfNums T).data.toList.all isDig=true:=by
 rw[strOfNums_data,List.all_eq_true]
 intro c hc
 rw[List.mem_map] at hc
 obtain⟨x,hx,rfl⟩:=hc
 exact(code_byte (h x hx).1 (h x hx).2).1
theorem code_num {T:List Int} (h:Code10 T):(numB (strOfNums T):Int)=cnum T:=by
 rw[← ten_dl (code_all h)]
 unfold dl cnum
 rw[strOfNums_data,← List.map_reverse,List.map_map]
 congr 1
 apply List.map_congr_left
 intro x hx
 have:=h x (List.mem_reverse.1 hx)
 have:=(code_byte this.1 this.2).2
 simp only[Function.comp]
 omega
theorem code_trim {T:List Int} (h:Code10 T) (h1:T≠[]) {n:Nat} (hn:cnum T=n) (hl:T.length≤4611686018427387904) (k:Nat) (hk:T.length+1≤k):Pq.r1_trim.f k (strOfNums T)=some (natB n):=by
 have h2:=trim_f (strOfNums T) (by rw[strOfNums_size];exact hl) k (by rw[strOfNums_size];exact hk) (by rw[strOfNums_data];simpa using h1) (code_all h)
 have h3:=code_num h
 rw[hn] at h3
 rw[h2,Int.ofNat_inj.1 h3]
theorem set_rep (m:Nat) (T:List Int) (v:Int):(List.replicate (m+1) 0++T).set m v=List.replicate m 0++v :: T:=by
 rw[List.set_append_left _ _ (by simp)]
 have:(List.replicate (m+1) (0:Int)).set m v=List.replicate m 0 ++ [v]:=by
  induction m with
  | zero=>rfl
  | succ m ih=>rw[List.replicate_succ,List.set_cons_succ,ih];rfl
 rw[this,List.append_assoc]
 rfl
theorem radd_loop {a b:ByteArray} {n s:Nat} (hd1:a.data.toList.all isDig=true) (hd2:b.data.toList.all isDig=true) (hn:n≤1000000000) (h1:a.size≤n) (h2:b.size≤n) (hs:(s:Int)=ten (dl a)+ten (dl b)) (hlt:(s:Int)<10 ^ n) (hn0:0<n) :
  ∀ (d i:Nat),i+d=n→∀ (T:List Int) (c:Int) (k:Nat),d+n+2≤k→Code10 T→T.length=i→0≤c→c≤1→cnum T+10 ^ i * c=ten ((dl a).take i)+ten ((dl b).take i) →
   Pq.r1_Add.l0 k a b (n:Int) (List.replicate d 0++T) c (i:Int)=some (natB s)
 | 0,i,hi,T,c,k,hk,hT,hl,hc0,hc1,hv=>by
  obtain⟨k,rfl⟩:∃ m,k=m+1:=⟨k-1,by omega⟩
  obtain rfl:i=n:=by omega
  simp only[Pq.r1_Add.l0]
  rw[if_neg (by omega)]
  rw[List.take_of_length_le (by rw[dl_length];exact h1),List.take_of_length_le (by rw[dl_length];exact h2),← hs] at hv
  have h3:=cnum_lt hT
  have h4:c=0:=by
   rcases (by omega:c=0∨c=1) with h|rfl
   ·exact h
   ·exfalso
    omega
  subst h4
  rw[Int.mul_zero,Int.add_zero] at hv
  rw[List.replicate_zero,List.nil_append,code_trim hT (by intro e;rw[e] at hl;simp at hl;omega) hv (by omega) _ (by omega)]
  rfl
 | d+1,i,hi,T,c,k,hk,hT,hl,hc0,hc1,hv=>by
  obtain⟨k,rfl⟩:∃ m,k=m+1:=⟨k-1,by omega⟩
  simp only[Pq.r1_Add.l0]
  have e1:wrap64 (wrap64 ((n:Int)-1)-(i:Int))=(d:Int):=by
   rw[w64 (x:=(n:Int)-1) (by omega) (by omega),w64 (by omega) (by omega)]
   omega
  rw[if_pos (by omega),at_f a (by omega) hd1 i (by omega),Option.bind_some,at_f b (by omega) hd2 i (by omega),Option.bind_some,e1,if_pos (by omega),if_pos (by rw[List.length_append,List.length_replicate];omega),Int.toNat_natCast,set_rep]
  have h3:=dig_limb (dl_dig hd1) i
  have h4:=dig_limb (dl_dig hd2) i
  have h5:=ten_take_succ (dl a) i
  have h6:=ten_take_succ (dl b) i
  generalize limb (dl a) i=x at *
  generalize limb (dl b) i=y at *
  rw[w64 (x:=x+y) (by omega) (by omega),w64 (x:=x+y+c) (by omega) (by omega),Int.tmod_eq_emod_of_nonneg (by omega),Int.tdiv_eq_ediv_of_nonneg (by omega),w64 (x:=48+(x+y+c) % 10) (by omega) (by omega),w64 (x:=(x+y+c) / 10) (by omega) (by omega),w64 (x:=(i:Int)+1) (by omega) (by omega)]
  rw[Int.emod_eq_of_lt (a:=48+(x+y+c) % 10) (by omega) (by omega)]
  refine radd_loop hd1 hd2 hn h1 h2 hs hlt hn0 d (i+1) (by omega) _ _ k (by omega) (code_cons (by omega) (by omega) hT) (by simp[hl]) (by omega) (by omega) ?_
  rw[cnum_cons,hl,h5,h6,Int.pow_succ]
  have e2:=Int.mul_ediv_add_emod (x+y+c) 10
  generalize (x+y+c) / 10=q at *
  generalize (x+y+c) % 10=r at *
  generalize (10:Int) ^ i=p at *
  have e3:r=x+y+c-10 * q:=by omega
  subst e3
  grind
theorem radd_f {a b:ByteArray} {N:Nat} (hN:N≤100000000) (ha:a.size≤N) (hb:b.size≤N) (k:Nat) (hk:2 * N+10≤k):Pq.r1_Add.f k a b=some (addS a b):=by
 obtain⟨k,rfl⟩:∃ m,k=m+1:=⟨k-1,by omega⟩
 unfold Pq.r1_Add.f
 rw[rmay_f a (by omega) _ (by omega),Option.bind_some]
 by_cases h1:mayB a=true
 ·rw[if_pos h1,rmay_f b (by omega) _ (by omega),Option.bind_some]
  by_cases h2:mayB b=true
  ·rw[h2]
   simp only[Pq.r1_Add.j0]
   unfold addS
   rw[if_pos (may2_eq h1 h2),if_neg (by decide)]
   have hn:wrap64 (mx (a.size:Int) (b.size:Int)+1)=((max a.size b.size+1:Nat):Int):=by
    rw[mx_nat,w64 (by omega) (by omega)]
    omega
   rw[hn,if_pos (by omega),if_pos (by omega),Int.toNat_natCast]
   have ta:=ten_dl (may_all h1)
   have tb:=ten_dl (may_all h2)
   have la:=(ten_lt (dl_dig (may_all h1))).2
   have lb:=(ten_lt (dl_dig (may_all h2))).2
   rw[dl_length] at la lb
   have pa:=p10_mono (a:=a.size) (b:=max a.size b.size) (by omega)
   have pb:=p10_mono (a:=b.size) (b:=max a.size b.size) (by omega)
   have:=radd_loop (s:=numB a+numB b) (n:=max a.size b.size+1) (may_all h1) (may_all h2) (by omega) (by omega) (by omega) (by rw[ta,tb];omega) (by rw[Int.pow_succ];omega) (by omega) (max a.size b.size+1) 0 (by omega) [] 0 k (by omega) code_nil rfl (by omega) (by omega) (by simp[cnum,ten])
   rw[List.append_nil] at this
   exact this
  ·rw[(Bool.not_eq_true _).mp h2]
   unfold addS
   rw[if_neg (may2_no2 h2)]
   rfl
 ·rw[if_neg h1]
  unfold addS
  rw[if_neg (may2_no1 h1)]
  rfl
theorem rsub_loop {a b:ByteArray} {n s:Nat} (hd1:a.data.toList.all isDig=true) (hd2:b.data.toList.all isDig=true) (hn:n≤1000000000) (h1:a.size=n) (h2:b.size≤n) (hs:(s:Int)=ten (dl a)-ten (dl b)) (hn0:0<n) :
  ∀ (d i:Nat),i+d=n→∀ (T:List Int) (c:Int) (k:Nat),d+n+2≤k→Code10 T→T.length=i→0≤c→c≤1→cnum T-10 ^ i * c=ten ((dl a).take i)-ten ((dl b).take i) →
   Pq.r1_Sub.l0 k a b (List.replicate d 0++T) c (i:Int)=some (natB s,true)
 | 0,i,hi,T,c,k,hk,hT,hl,hc0,hc1,hv=>by
  obtain⟨k,rfl⟩:∃ m,k=m+1:=⟨k-1,by omega⟩
  obtain rfl:i=n:=by omega
  simp only[Pq.r1_Sub.l0]
  rw[if_neg (by omega)]
  rw[List.take_of_length_le (by rw[dl_length];omega),List.take_of_length_le (by rw[dl_length];exact h2),← hs] at hv
  have h3:=cnum_lt hT
  rw[hl] at h3
  have h4:c=0:=by
   rcases (by omega:c=0∨c=1) with h|rfl
   ·exact h
   ·exfalso
    omega
  subst h4
  rw[Int.mul_zero,Int.sub_zero] at hv
  rw[List.replicate_zero,List.nil_append,code_trim hT (by intro e;rw[e] at hl;simp at hl;omega) hv (by omega) _ (by omega)]
  rfl
 | d+1,i,hi,T,c,k,hk,hT,hl,hc0,hc1,hv=>by
  obtain⟨k,rfl⟩:∃ m,k=m+1:=⟨k-1,by omega⟩
  simp only[Pq.r1_Sub.l0]
  have e1:wrap64 (wrap64 ((a.size:Int)-1)-(i:Int))=(d:Int):=by
   rw[w64 (x:=(a.size:Int)-1) (by omega) (by omega),w64 (by omega) (by omega)]
   omega
  rw[if_pos (by omega),at_f a (by omega) hd1 i (by omega),Option.bind_some,at_f b (by omega) hd2 i (by omega),Option.bind_some,e1]
  have g1:(0:Int)≤(d:Int):=by omega
  have g2:(d:Int)<((List.replicate (d+1) (0:Int)++T).length:Int):=by rw[List.length_append,List.length_replicate];omega
  rw[if_pos g1,if_pos g1,if_pos g2,if_pos g2,Int.toNat_natCast,set_rep,set_rep]
  have h3:=dig_limb (dl_dig hd1) i
  have h4:=dig_limb (dl_dig hd2) i
  have h5:=ten_take_succ (dl a) i
  have h6:=ten_take_succ (dl b) i
  generalize limb (dl a) i=x at *
  generalize limb (dl b) i=y at *
  have key:∀ v c':Int,48≤v→v≤57→0≤c'→c'≤1→v-48-10 * c'=x-y-c→Pq.r1_Sub.l0 k a b (List.replicate d 0++v :: T) c' ((i+1:Nat):Int)=some (natB s,true):=by
   intro v c' hv0 hv1 hc0' hc1' he
   refine rsub_loop hd1 hd2 hn h1 h2 hs hn0 d (i+1) (by omega) _ _ k (by omega) (code_cons hv0 hv1 hT) (by simp[hl]) hc0' hc1' ?_
   rw[cnum_cons,hl,h5,h6,Int.pow_succ]
   generalize (10:Int) ^ i=p at *
   have e3:v=x-y-c+48+10 * c':=by omega
   subst e3
   grind
  have ei:wrap64 ((i:Int)+1)=((i+1:Nat):Int):=by rw[w64 (by omega) (by omega)];omega
  rw[ei,w64 (x:=x-y) (by omega) (by omega),w64 (x:=x-y-c) (by omega) (by omega)]
  by_cases hneg:x-y-c<0
  ·rw[if_pos hneg,w64 (x:=x-y-c+10) (by omega) (by omega),w64 (x:=48+(x-y-c+10)) (by omega) (by omega),Int.emod_eq_of_lt (a:=48+(x-y-c+10)) (by omega) (by omega)]
   exact key _ _ (by omega) (by omega) (by omega) (by omega) (by omega)
  ·rw[if_neg hneg,w64 (x:=48+(x-y-c)) (by omega) (by omega),Int.emod_eq_of_lt (a:=48+(x-y-c)) (by omega) (by omega)]
   exact key _ _ (by omega) (by omega) (by omega) (by omega) (by omega)
theorem rsub_f {a b:ByteArray} {N:Nat} (hN:N≤100000000) (ha:a.size≤N) (hb:b.size≤N) (k:Nat) (hk:2 * N+10≤k):Pq.r1_Sub.f k a b=some (subS a b):=by
 obtain⟨k,rfl⟩:∃ m,k=m+1:=⟨k-1,by omega⟩
 unfold Pq.r1_Sub.f
 rw[rmay_f a (by omega) _ (by omega),Option.bind_some]
 by_cases h1:mayB a=true
 ·rw[if_pos h1,rmay_f b (by omega) _ (by omega),Option.bind_some]
  by_cases h2:mayB b=true
  ·rw[if_pos h2,rcmp_f (N:=N) (by omega) ha hb _ (by omega),Option.bind_some]
   simp only[Pq.r1_Sub.j0]
   unfold subS cmpS
   rw[may2_eq h1 h2,if_pos rfl]
   by_cases hc:numB b≤numB a
   ·rw[if_neg (by rw[decide_eq_true_eq,cmpI_neg];omega),if_pos (by omega),if_pos (by omega),if_pos (by rw[decide_eq_true hc];rfl),Int.toNat_natCast]
    have ta:=ten_dl (may_all h1)
    have tb:=ten_dl (may_all h2)
    have hsz:b.size≤a.size:=by
     rcases Nat.lt_or_ge a.size b.size with h|h
     ·have:=num_shorter h1 h2 h
      omega
     ·exact h
    have:=rsub_loop (s:=numB a-numB b) (n:=a.size) (may_all h1) (may_all h2) (by omega) rfl hsz (by rw[ta,tb];omega) (may_pos h1) a.size 0 (by omega) [] 0 k (by omega) code_nil rfl (by omega) (by omega) (by simp[cnum,ten])
    rw[List.append_nil] at this
    exact this
   ·rw[if_pos (by rw[decide_eq_true_eq,cmpI_neg];omega),if_neg (by rw[decide_eq_false hc];decide)]
    rfl
  ·rw[if_neg h2]
   unfold subS
   rw[(Bool.not_eq_true _).mp (may2_no2 (a:=a) h2)]
   rfl
 ·rw[if_neg h1]
  unfold subS
  rw[(Bool.not_eq_true _).mp (may2_no1 (b:=b) h1)]
  rfl
end Go.Proofs.YtoghmeffpgbcfaaGreatDoor
end

section
namespace Go.Proofs.YtoghmeffpgbcfaaGreatDoor
end Go.Proofs.YtoghmeffpgbcfaaGreatDoor
end

section
namespace Go.Proofs.YtoghmeffpgbcfaaGreatDoor
def ofS (n:Int):ByteArray:=if n<0 then noB else natB n.toNat
end Go.Proofs.YtoghmeffpgbcfaaGreatDoor
end

section
namespace Go.Proofs.YtoghmeffpgbcfaaGreatDoor
def tenB:ByteArray:=⟨#[48,49,50,51,52,53,54,55,56,57]⟩
theorem ten_cut {d:Nat} (h:d<10):(tenB.extract d (d+1)).data.toList=[UInt8.ofNat (48+d)]:=by
 rcases (by omega:d=0∨d=1∨d=2∨d=3∨d=4∨d=5∨d=6∨d=7∨d=8∨d=9) with rfl|rfl|rfl|rfl|rfl|rfl|rfl|rfl|rfl|rfl <;> rfl
theorem ten_cut_size {d:Nat} (h:d<10):(tenB.extract d (d+1)).size=1:=by rw[size_len,ten_cut h];rfl
theorem rof_loop:∀ (n:Nat) (s:ByteArray) (k:Nat),n+1≤k→n≤9223372036854775807→s.size+n / 2≤5000000000000000000→Pq.r1_Of.l0 k (n:Int) s=some ⟨(Lib.decDigits n++s.data.toList).toArray⟩
 | n,s,k,hk,hn,hs=>by
  obtain⟨k,rfl⟩:∃ m,k=m+1:=⟨k-1,by omega⟩
  simp only[Pq.r1_Of.l0]
  by_cases h:n<10
  ·rw[if_neg (by omega),if_pos (by omega),w64 (x:=(n:Int)+1) (by omega) (by omega),if_pos (by omega),if_pos (by omega)]
   have e:((n:Int)+1).toNat=n+1:=by omega
   rw[e,Int.toNat_natCast]
   have h1:=ten_cut_size h
   unfold tenB at h1
   rw[if_pos (by rw[h1];omega)]
   congr 1
   apply bmk
   rw[Joins.data_append,dig_small h]
   have h2:=ten_cut h
   unfold tenB at h2
   rw[h2]
  ·rw[if_pos (by omega),Int.tmod_eq_emod_of_nonneg (by omega),Int.tdiv_eq_ediv_of_nonneg (by omega)]
   have e1:(n:Int) % 10=((n % 10:Nat):Int):=by omega
   have e2:(n:Int) / 10=((n / 10:Nat):Int):=by omega
   rw[e1,e2]
   clear e1 e2
   obtain⟨d,hd⟩:∃ d,n % 10=d:=⟨_,rfl⟩
   have hd10:d<10:=by omega
   obtain⟨q,hq⟩:∃ q,n / 10=q:=⟨_,rfl⟩
   have hq1:q+1≤n:=by omega
   have hq2:q<n:=by omega
   have hq3:q / 2+1≤n / 2:=by omega
   rw[hd,hq]
   have HD:=Lib.hid hd
   have HQ:=Lib.hid hq
   clear hd hq
   rw[if_pos (by omega),w64 (x:=(d:Int)+1) (by omega) (by omega),if_pos (by omega),if_pos (by omega)]
   have e:((d:Int)+1).toNat=d+1:=by omega
   rw[e,Int.toNat_natCast]
   have h1:=ten_cut_size hd10
   unfold tenB at h1
   rw[if_pos (by rw[h1];omega),w64 (x:=(q:Int)) (by omega) (by omega)]
   have hsz:(((⟨#[48,49,50,51,52,53,54,55,56,57]⟩:ByteArray).extract d (d+1))++s).size=s.size+1:=by rw[ByteArray.size_append,h1];omega
   rw[rof_loop q _ k (by omega) (by omega) (by rw[hsz];omega)]
   congr 1
   rw[dig_big h,HD.out,HQ.out,Joins.data_append]
   have h2:=ten_cut hd10
   unfold tenB at h2
   rw[h2,List.append_assoc]
 termination_by n=>n
 decreasing_by exact hq2
theorem rof_f (n:Int) (h1:n≤9223372036854775807) (k:Nat) (hk:n.toNat+1≤k):Pq.r1_Of.f k n=some (ofS n):=by
 unfold Pq.r1_Of.f ofS
 by_cases h:n<0
 ·rw[if_pos h,if_pos h]
  rfl
 ·rw[if_neg h,if_neg h]
  obtain⟨m,rfl⟩:=Int.eq_ofNat_of_zero_le (show 0≤n by omega)
  rw[Int.toNat_natCast] at hk ⊢
  have h0:(⟨#[]⟩:ByteArray).size=0:=rfl
  rw[rof_loop m _ k hk (by omega) (by rw[h0];omega)]
  unfold natB
  simp
theorem push_f {R:Nat} {c:UInt8} (hc:isDig c=true) (t:ByteArray) (ht:t.data.toList=[c]) (k:Nat) (hsz:(natB R).size≤1000000000) (hk:(natB R).size+2≤k):Pq.r1_trim.f k (natB R++t)=some (natB (R * 10+(c.toNat-48))):=by
 have hl:(natB R++t).data.toList=Lib.decDigits R ++ [c]:=by rw[Joins.data_append,natB_list,ht]
 have hs:(natB R++t).size=(natB R).size+1:=by
  rw[size_len,hl,List.length_append,natB_size]
  rfl
 have h1:=trim_f (natB R++t) (by omega) k (by omega) (by rw[hl];simp) (by rw[hl,List.all_append,dig_all];simp[hc])
 rw[h1]
 unfold numB
 rw[hl,num_snoc,num_dig]
theorem rdiv_inner {a b q:ByteArray} {i:Nat} {N:Nat} (hN:N≤50000) (hb:mayB b=true) (hbs:b.size≤N) (hB:0<numB b) (hqs:q.size≤N) {R0:Nat} (hR0:R0<10 * numB b) {need:Nat} {X:Option (ByteArray×ByteArray×Bool)} (hi:i≤N)
  (H:∀ (k:Nat),need≤k→Pq.r1_Div.l0 k a b (q++tenB.extract (R0 / numB b) (R0 / numB b+1)) (natB (R0 % numB b)) ((i+1:Nat):Int)=X) :
  ∀ (e R d:Nat),R / numB b=e→R=R0-d * numB b→d * numB b≤R0→∀ k,need+e+1≤k→2 * N+20≤need→Pq.r1_Div.l1 k a b q (natB R) (i:Int) (d:Int)=X
 | 0,R,d,he,hR,hd,k,hk,hneed=>by
  obtain⟨k,rfl⟩:∃ m,k=m+1:=⟨k-1,by omega⟩
  have hlt:R<numB b:=by
   rcases Nat.lt_or_ge R (numB b) with h|h
   ·exact h
   ·have:=Nat.div_pos h hB
    omega
  have hsz:=natB_le hb (Nat.le_of_lt hlt)
  simp only[Pq.r1_Div.l1]
  rw[rcmp_f (N:=N) (by omega) (by omega) hbs _ (by omega),Option.bind_some]
  have hc:cmpS (natB R) b=-1:=by
   unfold cmpS
   rw[if_pos (may2_eq (mayB_natB R) hb),numB_natB,cmpI_lt hlt]
  have hd10:d<10:=by
   have h1:d * numB b<10 * numB b:=by omega
   exact Nat.lt_of_mul_lt_mul_right h1
  have hq:R0 / numB b=d:=by
   have e1:R0=R+numB b * d:=by rw[Nat.mul_comm (numB b) d];omega
   rw[e1,Nat.add_mul_div_left _ _ hB,Nat.div_eq_of_lt hlt,Nat.zero_add]
  have hr:R0 % numB b=R:=by
   have e1:R0=R+numB b * d:=by rw[Nat.mul_comm (numB b) d];omega
   rw[e1,Nat.add_mul_mod_self_left,Nat.mod_eq_of_lt hlt]
  rw[hq,hr] at H
  have h1:=ten_cut_size hd10
  rw[hc,if_neg (by decide),if_pos (by omega),w64 (x:=(d:Int)+1) (by omega) (by omega),if_pos (by omega),if_pos (by omega)]
  have e:((d:Int)+1).toNat=d+1:=by omega
  rw[e,Int.toNat_natCast]
  have h1':=h1
  unfold tenB at h1'
  rw[if_pos (by rw[h1'];omega),w64 (x:=(i:Int)+1) (by omega) (by omega),show ((i:Int)+1)=((i+1:Nat):Int) by omega]
  exact H k (by omega)
 | e+1,R,d,he,hR,hd,k,hk,hneed=>by
  obtain⟨k,rfl⟩:∃ m,k=m+1:=⟨k-1,by omega⟩
  have hge:numB b≤R:=by
   rcases Nat.lt_or_ge R (numB b) with h|h
   ·rw[Nat.div_eq_of_lt h] at he
    omega
   ·exact h
  have hsz:(natB R).size≤N+1:=by
   rw[natB_size]
   have h1:=num_lt (may_all hb)
   rw[← size_len] at h1
   have h2:(10:Nat) ^ b.size≤10 ^ N:=Nat.pow_le_pow_right (by omega) hbs
   apply dig_len_le _ (by omega)
   rw[Nat.pow_succ]
   unfold numB at hR0
   omega
  simp only[Pq.r1_Div.l1]
  rw[rcmp_f (N:=N+1) (by omega) hsz (by omega) _ (by omega),Option.bind_some]
  have hc:¬ cmpS (natB R) b<0:=by
   unfold cmpS
   rw[if_pos (may2_eq (mayB_natB R) hb),numB_natB,cmpI_neg]
   omega
  have hs:subS (natB R) b=(natB (R-numB b),true):=by
   unfold subS
   rw[numB_natB,if_pos (by rw[may2_eq (mayB_natB R) hb,decide_eq_true hge];rfl)]
  rw[if_pos (by omega),rsub_f (N:=N+1) (by omega) hsz (by omega) _ (by omega),Option.bind_some,hs]
  have hd10:d<10:=by
   have h1:d * numB b<10 * numB b:=by omega
   exact Nat.lt_of_mul_lt_mul_right h1
  rw[w64 (x:=(d:Int)+1) (by omega) (by omega),show ((d:Int)+1)=((d+1:Nat):Int) by omega]
  have e1:(d+1) * numB b=d * numB b+numB b:=by rw[Nat.add_mul,Nat.one_mul]
  refine rdiv_inner hN hb hbs hB hqs hR0 hi H e (R-numB b) (d+1) ?_ (by omega) (by omega) k (by omega) hneed
  have e2:R=(R-numB b)+numB b:=by omega
  rw[e2,Nat.add_div_right _ hB] at he
  omega
theorem rdiv_loop {a b:ByteArray} {N:Nat} (hN:N≤50000) (ha:mayB a=true) (hb:mayB b=true) (has:a.size≤N) (hbs:b.size≤N) (hB:0<numB b) :
  ∀ (e i:Nat),i+e=a.size→∀ (q:ByteArray) (R k:Nat),e * 20+2 * N+30≤k→q.size=i→q.data.toList.all isDig=true→R<numB b→num q.data.toList * numB b+R=num (a.data.toList.take i) →
   Pq.r1_Div.l0 k a b q (natB R) (i:Int)=some (natB (numB a / numB b),natB (numB a % numB b),true)
 | 0,i,hi,q,R,k,hk,hq,hqd,hR,hv=>by
  obtain⟨k,rfl⟩:∃ m,k=m+1:=⟨k-1,by omega⟩
  simp only[Pq.r1_Div.l0]
  have hpos:=may_pos ha
  rw[if_neg (by omega),trim_f q (by omega) k (by omega) (by intro h;have:=congrArg List.length h;rw[← size_len,List.length_nil] at this;omega) hqd,Option.bind_some]
  rw[List.take_of_length_le (by rw[← size_len];omega)] at hv
  have e1:numB a=R+numB b * numB q:=by unfold numB at hv ⊢;rw[← hv,Nat.mul_comm (num b.data.toList)];omega
  rw[e1,Nat.add_mul_div_left _ _ hB,Nat.div_eq_of_lt hR,Nat.zero_add,Nat.add_mul_mod_self_left,Nat.mod_eq_of_lt hR]
 | e+1,i,hi,q,R,k,hk,hq,hqd,hR,hv=>by
  obtain⟨k,rfl⟩:∃ m,k=m+1:=⟨k-1,by omega⟩
  obtain⟨c,hc,_⟩:=bt_get a i (by omega)
  have hcd:=List.all_eq_true.1 (may_all ha) c (List.mem_of_getElem? hc)
  have hcb:=isDig_bounds hcd
  have hil:i<a.data.toList.length:=by rw[← size_len];omega
  have hcc:a.data.toList[i]=c:=by
   rw[List.getElem?_eq_getElem hil] at hc
   exact Option.some.inj hc
  have hx:(a.extract i (i+1)).data.toList=[c]:=by
   rw[Lib.extract_data,List.drop_eq_getElem_cons hil,hcc,Nat.add_sub_cancel_left]
   rfl
  have hxs:(a.extract i (i+1)).size=1:=by rw[size_len,hx];rfl
  have hsz:=natB_le hb (Nat.le_of_lt hR)
  simp only[Pq.r1_Div.l0]
  rw[if_pos (by omega),if_pos (by omega),w64 (x:=(i:Int)+1) (by omega) (by omega),if_pos (by omega),if_pos (by omega)]
  have e0:((i:Int)+1).toNat=i+1:=by omega
  rw[e0,Int.toNat_natCast,if_pos (by rw[hxs];omega),push_f hcd _ hx k (by omega) (by omega),Option.bind_some]
  have hR0:R * 10+(c.toNat-48)<10 * numB b:=by omega
  have hdm:=Nat.div_add_mod (R * 10+(c.toNat-48)) (numB b)
  have hml:=Nat.mod_lt (R * 10+(c.toNat-48)) hB
  have hd10:(R * 10+(c.toNat-48)) / numB b<10:=Nat.div_lt_of_lt_mul (by rw[Nat.mul_comm (numB b)];exact hR0)
  have hnum:num (a.data.toList.take (i+1))=num (a.data.toList.take i) * 10+(c.toNat-48):=by
   rw[List.take_succ_eq_append_getElem hil,hcc,num_snoc]
  obtain⟨R0,hR0e⟩:∃ z,R * 10+(c.toNat-48)=z:=⟨_,rfl⟩
  rw[hR0e] at hR0 hdm hml hd10 ⊢
  have hcut:=ten_cut hd10
  have hcuts:=ten_cut_size hd10
  have hdig:isDig (UInt8.ofNat (48+R0 / numB b))=true:=isDig_ofNat hd10
  have hdn:=ofNat_dig hd10
  refine rdiv_inner (N:=N) (need:=e * 20+2 * N+30) hN hb hbs hB (by omega) hR0 (by omega) ?_ (R0 / numB b) R0 0 rfl (by omega) (by omega) k (by omega) (by omega)
  intro k' hk'
  refine rdiv_loop hN ha hb has hbs hB e (i+1) (by omega) _ _ k' hk' ?_ ?_ hml ?_
  ·rw[ByteArray.size_append,hcuts,hq]
  ·rw[Joins.data_append,hcut,List.all_append,hqd,List.all_cons,hdig]
   rfl
  ·rw[Joins.data_append,hcut,num_snoc,hnum,← hv,hdn]
   rw[Nat.add_sub_cancel_left]
   generalize R0 / numB b=d at *
   generalize R0 % numB b=r at *
   generalize num q.data.toList=Q at *
   generalize numB b=B at *
   have e3:(Q * 10+d) * B=Q * B * 10+B * d:=by grind
   omega
theorem rdiv_f {a b:ByteArray} {N:Nat} (hN:N≤50000) (ha:a.size≤N) (hb:b.size≤N) (k:Nat) (hk:22 * N+40≤k):Pq.r1_Div.f k a b=some (divS a b):=by
 obtain⟨k,rfl⟩:∃ m,k=m+1:=⟨k-1,by omega⟩
 unfold Pq.r1_Div.f
 rw[rmay_f a (by omega) _ (by omega),Option.bind_some]
 by_cases h1:mayB a=true
 ·rw[if_pos h1,rmay_f b (by omega) _ (by omega),Option.bind_some]
  by_cases h2:mayB b=true
  ·rw[if_pos h2]
   simp only[Pq.r1_Div.j0]
   unfold divS
   rw[may2_eq h1 h2,ByteArray.toList_eq]
   by_cases hc:numB b=0
   ·rw[if_pos (by rw[beq_iff_eq,list48 h2];exact hc),if_neg (by rw[hc];decide)]
    rfl
   ·rw[if_neg (by rw[beq_iff_eq,list48 h2];exact hc),if_pos (by rw[decide_eq_true hc];rfl)]
    have e0:(⟨#[48]⟩:ByteArray)=natB 0:=by
     apply bext
     rw[natB_list,dig_small (by omega)]
     rfl
    rw[e0]
    exact rdiv_loop hN h1 h2 ha hb (by omega) a.size 0 (by omega) _ 0 k (by omega) rfl rfl (by omega) (by simp[num])
  ·rw[if_neg h2]
   unfold divS
   rw[(Bool.not_eq_true _).mp (may2_no2 (a:=a) h2)]
   rfl
 ·rw[if_neg h1]
  unfold divS
  rw[(Bool.not_eq_true _).mp (may2_no1 (b:=b) h1)]
  rfl
end Go.Proofs.YtoghmeffpgbcfaaGreatDoor
end
