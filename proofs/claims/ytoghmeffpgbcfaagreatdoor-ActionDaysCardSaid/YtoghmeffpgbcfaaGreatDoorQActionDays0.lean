/-
The law ActionDays holds at every input that its row lets in: the row's walk and its plain law, tied to the program's text. Conditions: none beyond the given row's own.
Parts of the proof, in build order: LActionDays0, LActionDays1, LActionDays, PuActionDays, RowActionDays.
-/
import Derived.Test.YtoghmeffpgbcfaaGreatDoorProg
import Derived.Below
import Derived.Deep.Draws
import Derived.Deep.AppendLies
import Derived.Maps.AppendAt
import Derived.OwnWalk
import Derived.Laws.BytesArg
import Derived.Laws.MakeOwn
import Derived.Laws.OwnMore
import Derived.Deep.OwnRows
import Derived.Tactics
import Derived.Lib.ConvBytes
import Derived.Laws.Slices
import Derived.WalkKit
import Derived.KernelRfl
import Derived.RowKit3
import Derived.Deep.LoopGhost
import Derived.Deep.QuietTactic
import Derived.BigQuiet
import Derived.WideLaws
import Derived.Deep.DeepCutAuto
import Derived.Deep.CutBlock
import Derived.Deep.RegionHeld3
import Derived.Laws.Rows
import Derived.Lib.AppendStr
import Derived.ArgAppend
import Derived.Laws.IdiomCopy
import Derived.OrdersHeld
import Derived.Laws.BitsLemmas
import Derived.RowKit
import Derived.Test.YtoghmeffpgbcfaaGreatDoorC0
import Derived.Test.YtoghmeffpgbcfaaGreatDoorC5
import Derived.Test.YtoghmeffpgbcfaaGreatDoorC6
import Derived.Test.YtoghmeffpgbcfaaGreatDoorC2
import Derived.Test.YtoghmeffpgbcfaaGreatDoorTie
import Derived.Test.YtoghmeffpgbcfaaGreatDoorCards
import Derived.SevenTiedAt
set_option linter.unusedVariables false
set_option linter.unusedSimpArgs false
open Go.RowKit Go.Proofs.YtoghmeffpgbcfaaGreatDoorW.PrintWords Go.Proofs.YtoghmeffpgbcfaaGreatDoorW.PrintLast Go.Proofs.YtoghmeffpgbcfaaGreatDoorW.PrintMore
attribute [local go_sem] max2_int min2_int max_two min_two max_three min_three max_four min_four   -- for this text's walks alone
section
namespace Go.Proofs.YtoghmeffpgbcfaaGreatDoor.LActionDays
def errW:Option Int→Value
 | none=>.nilIface
 | some c=>.iface 0 (.int .i64 c)
theorem errW_none:errW none=.nilIface:=rfl
theorem errW_some (c:Int):errW (some c)=.iface 0 (.int .i64 c):=rfl
end Go.Proofs.YtoghmeffpgbcfaaGreatDoor.LActionDays
end

section
namespace Go.Proofs.YtoghmeffpgbcfaaGreatDoor.LActionDays
mutual
def dl15_ActionDays.j0:Nat→Int→Int→Int→Bool→Option (Bool)
 | 0,_,_,_,_=>none
 | k+1,x0,x1,x2,x29=>if x29=true then ((dl15_fixed.f).bind fun t102=>(some t102)) else ((r3_Of.f 2).bind fun bt103=>((r3_Of.f 0).bind fun bt105=>(if x0≥0 then (if x1≥x0 then (if x2≥x1 then (dl15_ActionDays.j1 k (decide (x2≤9999)) (⟨#[115,49]⟩:ByteArray) 0 (⟨#[120]⟩:ByteArray) (⟨#[]⟩:ByteArray) bt103.1 bt103.2 bt105.1 bt105.2 x0 x1 x2) else (dl15_ActionDays.j1 k false (⟨#[115,49]⟩:ByteArray) 0 (⟨#[120]⟩:ByteArray) (⟨#[]⟩:ByteArray) bt103.1 bt103.2 bt105.1 bt105.2 x0 x1 x2)) else (dl15_ActionDays.j1 k false (⟨#[115,49]⟩:ByteArray) 0 (⟨#[120]⟩:ByteArray) (⟨#[]⟩:ByteArray) bt103.1 bt103.2 bt105.1 bt105.2 x0 x1 x2)) else (dl15_ActionDays.j1 k false (⟨#[115,49]⟩:ByteArray) 0 (⟨#[120]⟩:ByteArray) (⟨#[]⟩:ByteArray) bt103.1 bt103.2 bt105.1 bt105.2 x0 x1 x2))))
def dl15_ActionDays.j1:Nat→Bool→ByteArray→Int→ByteArray→ByteArray→ByteArray→ByteArray→ByteArray→ByteArray→Int→Int→Int→Option (Bool)
 | 0,_,_,_,_,_,_,_,_,_,_,_,_=>none
 | k+1,x8,x108000,x108001,x108002,x108003,x108004,x108005,x108006,x108007,x108008,x108009,x108010=>(action_Print.f x108000 x108001 x108002 x108003 x108004 x108005 x108006 x108007 x108008 x108009 x108010).bind fun t108=>((action_Parse.f t108).bind fun bt109=>((action_Parse.f (⟨#[115,112,108,105,116,32,115,49,32,120,32,48,49,32,49,32,49,32,50]⟩:ByteArray)).bind fun bt122=>((action_May.f x108000 x108001 x108002 x108003 x108004 x108005 x108006 x108007 x108008 x108009 x108010).bind fun t135=>(if (t135 == x8)=true then (if ((t108.toList != ([]:List UInt8)) == x8)=true then (if ((bt109.2.2.2.2.2.2.2.2.2.2.2 == 0) == x8)=true then (some (bt122.2.2.2.2.2.2.2.2.2.2.2 == 150)) else (some false)) else (some false)) else (some false)))))
end
def dl15_ActionDays.f (k:Nat) (a0:Int) (a1:Int) (a2:Int):Option (Bool):=(dl15_fixed.f).bind fun t101=>(if t101=true then (if (mn (mn a0 a1) a2)<(-2) then (dl15_ActionDays.j0 k a0 a1 a2 true) else (dl15_ActionDays.j0 k a0 a1 a2 (decide ((mx (mx a0 a1) a2)>10100)))) else (dl15_ActionDays.j0 k a0 a1 a2 true))
set_option maxHeartbeats 8000000 in
set_option maxRecDepth 100000 in
theorem dl15_ActionDays.calls (k:Nat) (a0:Int) (a1:Int) (a2:Int) (r:Bool) (w:World) (hL_:Laid w) (hr_:Aside0 (r=true)) (h:dl15_ActionDays.f k a0 a1 a2=some r) :
  Calls Tryz.prog 5 #[.int .i64 a0,.int .i64 a1,.int .i64 a2] w fun e w'=>e=.returned (.bool r)∧Below w.heap.size w w':=by
 have hu25:=Tryz.underlying25;have HLD:=Aside0.mk hL_;clear hL_;have HB:=Aside0.mk (Below.refl w.heap.size w);have H:=h;unfold dl15_ActionDays.f at H;clear h;have HC4:=Aside0.mk H;clear H;go_enter Tryz.func5,Tryz.ntmps5
 go_upto_region 1 with (fail)
 go_cut [29] (fun v29 wc=>∃ (kq:Nat) (x29_3:Bool),v29=.bool x29_3∧Aside0 (dl15_ActionDays.j0 kq a0 a1 a2 x29_3=some r)∧Aside0 (kq≤k)∧Aside0 (Below w.heap.size w wc))
 case first =>
  have H:=HC4.out;clear HC4;obtain⟨t101,A5,H⟩:=bi_ H;by_cases c6:t101=true
  ·subst c6;rw[if_pos rfl] at H;obtain⟨ji7,hji7⟩:∃ j_:Int,(mn a0 a1)=j_:=⟨_,rfl⟩;(first|rw[hji7] at H|simp only[hji7] at H);(try rw[hji7] at A5);have hji7_:(if a1<a0 then a1 else a0)=ji7:=hji7;obtain⟨ji8,hji8⟩:∃ j_:Int,(mn (ji7) a2)=j_:=⟨_,rfl⟩;(first|rw[hji8] at H|simp only[hji8] at H);(try rw[hji8] at A5);have hji8_:(if a2<(ji7) then a2 else (ji7))=ji8:=hji8;by_cases c9:(ji8)<(-2)
   ·rw[if_pos c9] at H;have c9b0:decide ((ji8)<(-2))=true:=decide_eq_true c9;clear c9;(first|rw[c9b0]|(simp only[i64_w,i32_w];rw[c9b0])|skip);have H':=Aside0.mk H;clear H
    go_wp2_with (first|(refine gl_ 14 Tryz.func8 #[] ?_;refine mo_ (dl15_fixed.calls  true _ (lb_ HLD HB) A5.out) ?_;intro w10 hb;replace HB:=bs_ HB hb;(try clear hb);(try clear hb2);(try clear hk);(try clear hi)))
    go_meet
    case rel=>exact⟨_,(true),rl_,H',⟨by first|omega|exact Nat.le_refl _⟩,⟨b_ HB.out⟩⟩
   ·rw[if_neg c9] at H;have c9b0:decide ((ji8)<(-2))=false:=decide_eq_false c9;clear c9;(first|rw[c9b0]|(simp only[i64_w,i32_w];rw[c9b0])|skip);obtain⟨ji11,hji11⟩:∃ j_:Int,(mx a0 a1)=j_:=⟨_,rfl⟩;(first|rw[hji11] at H|simp only[hji11] at H);(try rw[hji11] at A5);have hji11_:(if a0<a1 then a1 else a0)=ji11:=hji11;obtain⟨ji12,hji12⟩:∃ j_:Int,(mx (ji11) a2)=j_:=⟨_,rfl⟩;(first|rw[hji12] at H|simp only[hji12] at H);(try rw[hji12] at A5);have hji12_:(if (ji11)<a2 then a2 else (ji11))=ji12:=hji12;have H':=Aside0.mk H;clear H
    go_wp2_with (first|(refine gl_ 14 Tryz.func8 #[] ?_;refine mo_ (dl15_fixed.calls  true _ (lb_ HLD HB) A5.out) ?_;intro w13 hb;replace HB:=bs_ HB hb;(try clear hb);(try clear hb2);(try clear hk);(try clear hi)))
    go_meet
    case rel=>exact⟨_,(decide ((ji12)>10100)),(by first|rfl|(simp;done)|(simp only[← hji12] <;> (first|rfl|simp))|(simp[*];done)),H',⟨by first|omega|exact Nat.le_refl _⟩,⟨b_ HB.out⟩⟩
  ·replace c6:=Bool.eq_false_iff.mpr c6;subst c6;rw[if_neg nf_] at H;have H':=Aside0.mk H;clear H
   go_wp2_with (first|(refine gl_ 14 Tryz.func8 #[] ?_;refine mo_ (dl15_fixed.calls  false _ (lb_ HLD HB) A5.out) ?_;intro w14 hb;replace HB:=bs_ HB hb;(try clear hb);(try clear hb2);(try clear hk);(try clear hi)))
   go_meet
   case rel=>exact⟨_,(true),rl_,H',⟨by first|omega|exact Nat.le_refl _⟩,⟨b_ HB.out⟩⟩
 case rest =>
  clear HC4;(try clear p2);(try clear c5);(try clear c6);(try clear c8);(try clear c9);(try clear c9b0);obtain⟨kq,x29_3,rfl,HA,HJ3,HB⟩:=hcut
  cases kq with
  | zero=>exact absurd HA.out (by simp[dl15_ActionDays.j0])
  | succ kj3 =>
   have H:=HA.out;clear HA;simp only[dl15_ActionDays.j0] at H;by_cases c15:x29_3=true
   ·subst c15;rw[if_pos rfl] at H;obtain⟨t102,A16,H⟩:=bi_ H;obtain rfl:=Option.some.inj H
    go_wp2_with (first|(refine gl_ 30 Tryz.func8 #[] ?_;refine mo_ (dl15_fixed.calls  t102 _ (lb_ HLD HB) A16.out) ?_;intro w17 hb;replace HB:=bs_ HB hb;(try clear hb);(try clear hb2);(try clear hk);(try clear hi)))
    go_ret
    exact⟨er_,b_ HB.out⟩
   ·replace c15:=Bool.eq_false_iff.mpr c15;subst c15;rw[if_neg nf_] at H;obtain⟨⟨t103,t104⟩,A18,H⟩:=bi_ H;(try dsimp only at H);obtain⟨⟨t105,t106⟩,A19,H⟩:=bi_ H;(try dsimp only at H);have HC20:=Aside0.mk H;clear H
    go_upto_region 4 with (first|(refine gl_ 31 Tryz.func15 #[.int .i64 2] ?_;refine mo_ (r3_Of.calls 2 t103 t104 _ A18.out) ?_;intro w21 hb;replace HB:=bs_ HB hb;(try clear hb);(try clear hb2);(try clear hk);(try clear hi))|(refine gl_ 32 Tryz.func15 #[.int .i64 0] ?_;refine mo_ (r3_Of.calls 0 t105 t106 _ A19.out) ?_;intro w22 hb;replace HB:=bs_ HB hb;(try clear hb);(try clear hb2);(try clear hk);(try clear hi))|((with_reducible refine gate_dst (N:=7) rfl ?_);(try(refine gate_guard (by rfl) ?_;dsimp only));refine be_ 7 #[.string (⟨#[]⟩:ByteArray),.int .i64 0,.string (⟨#[]⟩:ByteArray),.string (⟨#[]⟩:ByteArray),.string (⟨#[]⟩:ByteArray),.string (⟨#[]⟩:ByteArray),.string (⟨#[]⟩:ByteArray),.string (⟨#[]⟩:ByteArray),.int .i64 0,.int .i64 0,.int .i64 0] 25 ?_;intro gb107 hg w23 hbox hb;have BK107:=Aside0.mk (hbox);have GW107:=ge_ HB hg;have GE107:=ge_ HB hg;replace HB:=bs_ HB hb;clear hb hbox hg;have hcz24_0:=bc_ BK107 0 rfl;have hcz24_1:=bc_ BK107 1 rfl;have hcz24_2:=bc_ BK107 2 rfl;have hcz24_3:=bc_ BK107 3 rfl;have hcz24_4:=bc_ BK107 4 rfl;have hcz24_5:=bc_ BK107 5 rfl;have hcz24_6:=bc_ BK107 6 rfl;have hcz24_7:=bc_ BK107 7 rfl;have hcz24_8:=bc_ BK107 8 rfl;have hcz24_9:=bc_ BK107 9 rfl;have hcz24_10:=bc_ BK107 10 rfl;have hfz24_0:=blk_frozen BK107.out 0;have hfz24_1:=blk_frozen BK107.out 1;have hfz24_2:=blk_frozen BK107.out 2;have hfz24_3:=blk_frozen BK107.out 3;have hfz24_4:=blk_frozen BK107.out 4;have hfz24_5:=blk_frozen BK107.out 5;have hfz24_6:=blk_frozen BK107.out 6;have hfz24_7:=blk_frozen BK107.out 7;have hfz24_8:=blk_frozen BK107.out 8;have hfz24_9:=blk_frozen BK107.out 9;have hfz24_10:=blk_frozen BK107.out 10))
    (try simp only[Act.put,List.setIfInBounds_toArray,List.set_cons_zero,List.set_cons_succ])
    go_cut [8] (fun v8 wc=>∃ (kq:Nat) (x8_19:Bool),v8=.bool x8_19∧Aside0 (dl15_ActionDays.j1 kq x8_19 (⟨#[115,49]⟩:ByteArray) 0 (⟨#[120]⟩:ByteArray) (⟨#[]⟩:ByteArray) t103 t104 t105 t106 a0 a1 a2=some r)∧Aside0 (kq≤kj3)∧Aside0 (wc.heap[gb107]?=some (.cells #[.string (⟨#[115,49]⟩:ByteArray),.int .i64 0,.string (⟨#[120]⟩:ByteArray),.string (⟨#[]⟩:ByteArray),.string t103,.string t104,.string t105,.string t106,.int .i64 a0,.int .i64 a1,.int .i64 a2] 25 (0,0)))∧Aside0 (Below w.heap.size w wc))
    case first =>
     have H:=HC20.out;clear HC20;by_cases c25:a0≥0
     ·rw[if_pos c25] at H;have c25b0:decide (0≤a0)=true:=decide_eq_true c25;clear c25;(first|rw[c25b0]|(simp only[i64_w,i32_w];rw[c25b0])|skip);by_cases c26:a1≥a0
      ·rw[if_pos c26] at H;have c26b0:decide (a0≤a1)=true:=decide_eq_true c26;clear c26;by_cases c27:a2≥a1
       ·rw[if_pos c27] at H;have c27b0:decide (a1≤a2)=true:=decide_eq_true c27;clear c27;have H':=Aside0.mk H;clear H;go_wp2
        go_meet
        case rel=>exact⟨_,(decide (a2≤9999)),rl_,H',⟨by have:=HJ3.out;first|omega|exact Nat.le_refl _⟩,⟨rq_ BK107.out⟩,⟨b_ HB.out⟩⟩
       ·rw[if_neg c27] at H;have c27b0:decide (a1≤a2)=false:=decide_eq_false c27;clear c27;have H':=Aside0.mk H;clear H;go_wp2
        go_meet
        case rel=>exact⟨_,(false),rl_,H',⟨by have:=HJ3.out;first|omega|exact Nat.le_refl _⟩,⟨rq_ BK107.out⟩,⟨b_ HB.out⟩⟩
      ·rw[if_neg c26] at H;have c26b0:decide (a0≤a1)=false:=decide_eq_false c26;clear c26;have H':=Aside0.mk H;clear H;go_wp2
       go_meet
       case rel=>exact⟨_,(false),rl_,H',⟨by have:=HJ3.out;first|omega|exact Nat.le_refl _⟩,⟨rq_ BK107.out⟩,⟨b_ HB.out⟩⟩
     ·rw[if_neg c25] at H;have c25b0:decide (0≤a0)=false:=decide_eq_false c25;clear c25;(first|rw[c25b0]|(simp only[i64_w,i32_w];rw[c25b0])|skip);have H':=Aside0.mk H;clear H;go_wp2
      go_meet
      case rel=>exact⟨_,(false),rl_,H',⟨by have:=HJ3.out;first|omega|exact Nat.le_refl _⟩,⟨rq_ BK107.out⟩,⟨b_ HB.out⟩⟩
    case rest =>
     clear HC20;(try clear c1);(try clear c2);(try clear p2);(try clear c5);(try clear c6);(try clear c8);(try clear c9);(try clear c9b0);(try clear c15);(try clear c25);(try clear c25b0);(try clear c26);(try clear c26b0);(try clear c27);(try clear c27b0);(try clear hcz24_0);(try clear hcz24_1);(try clear hcz24_10);(try clear hcz24_2);(try clear hcz24_3);(try clear hcz24_4);(try clear hcz24_5);(try clear hcz24_6);(try clear hcz24_7);(try clear hcz24_8);(try clear hcz24_9);(try clear hfz24_0);(try clear hfz24_1);(try clear hfz24_10);(try clear hfz24_2);(try clear hfz24_3);(try clear hfz24_4);(try clear hfz24_5);(try clear hfz24_6);(try clear hfz24_7);(try clear hfz24_8);(try clear hfz24_9);(try clear p2);obtain⟨kq,x8_19,rfl,HA,HJ19,BK107,HB⟩:=hcut
     cases kq with
     | zero=>exact absurd HA.out (by simp[dl15_ActionDays.j1])
     | succ kj19 =>
      have H:=HA.out;clear HA;simp only[dl15_ActionDays.j1] at H;obtain⟨t108,A28,H⟩:=bi_ H;obtain⟨⟨t109,t110,t111,t112,t113,t114,t115,t116,t117,t118,t119,t120⟩,A29,H⟩:=bi_ H;(try dsimp only at H);obtain⟨⟨t122,t123,t124,t125,t126,t127,t128,t129,t130,t131,t132,t133⟩,A30,H⟩:=bi_ H;(try dsimp only at H);obtain⟨t135,A31,H⟩:=bi_ H;by_cases c32:(t135 == x8_19)=true
      ·rw[if_pos c32] at H;have c32b0:(t135 == x8_19)=true:=c32;(try(have c32b1:decide (t135=x8_19)=true:=by simpa using c32));(try(have c32b2:(t135 == x8_19)=true:=by simpa using c32));clear c32;by_cases c33:((t108.toList != ([]:List UInt8)) == x8_19)=true
       ·rw[if_pos c33] at H;have c33b0:((t108.toList != ([]:List UInt8)) == x8_19)=true:=c33;have c33b3:t108.toList.isEmpty=!x8_19:=(by have z_:=c33b0;revert z_;cases x8_19 <;> cases h_:t108.toList <;> simp);(try(have c33b1:decide ((t108.toList != ([]:List UInt8))=x8_19)=true:=by simpa using c33));(try(have c33b2:((t108.toList != ([]:List UInt8)) == x8_19)=true:=by simpa using c33));clear c33;by_cases c34:((t120 == 0) == x8_19)=true
        ·rw[if_pos c34] at H;have c34b0:((t120 == 0) == x8_19)=true:=c34;(try(have c34b1:decide ((t120 == 0)=x8_19)=true:=by simpa using c34));(try(have c34b2:((t120 == 0) == x8_19)=true:=by simpa using c34));clear c34;obtain rfl:=Option.some.inj H;have hcz35_0:=bc_ BK107 0 rfl;have hcz35_1:=bc_ BK107 1 rfl;have hcz35_2:=bc_ BK107 2 rfl;have hcz35_3:=bc_ BK107 3 rfl;have hcz35_4:=bc_ BK107 4 rfl;have hcz35_5:=bc_ BK107 5 rfl;have hcz35_6:=bc_ BK107 6 rfl;have hcz35_7:=bc_ BK107 7 rfl;have hcz35_8:=bc_ BK107 8 rfl;have hcz35_9:=bc_ BK107 9 rfl;have hcz35_10:=bc_ BK107 10 rfl;have hfz35_0:=blk_frozen BK107.out 0;have hfz35_1:=blk_frozen BK107.out 1;have hfz35_2:=blk_frozen BK107.out 2;have hfz35_3:=blk_frozen BK107.out 3;have hfz35_4:=blk_frozen BK107.out 4;have hfz35_5:=blk_frozen BK107.out 5;have hfz35_6:=blk_frozen BK107.out 6;have hfz35_7:=blk_frozen BK107.out 7;have hfz35_8:=blk_frozen BK107.out 8;have hfz35_9:=blk_frozen BK107.out 9;have hfz35_10:=blk_frozen BK107.out 10
         go_wp2_with (first|(refine gl_ 54 Tryz.func13 #[.agg #[.string (⟨#[115,49]⟩:ByteArray),.int .i64 0,.string (⟨#[120]⟩:ByteArray),.string (⟨#[]⟩:ByteArray),.string t103,.string t104,.string t105,.string t106,.int .i64 a0,.int .i64 a1,.int .i64 a2]] ?_;refine mo_ (action_Print.calls (⟨#[115,49]⟩:ByteArray) 0 (⟨#[120]⟩:ByteArray) (⟨#[]⟩:ByteArray) t103 t104 t105 t106 a0 a1 a2 t108 _ (lb_ HLD HB) A28.out) ?_;intro w36 hb;replace BK107:=kb_ BK107 hb;replace HB:=bs_ HB hb;(try clear hb);(try clear hb2);(try clear hk);(try clear hi))|(refine gl_ 57 Tryz.func9 #[.string t108] ?_;refine mo_ (action_Parse.calls t108 t109 t110 t111 t112 t113 t114 t115 t116 t117 t118 t119 t120 _ (lb_ HLD HB) A29.out) ?_;intro w37 hb;replace BK107:=kb_ BK107 hb;replace HB:=bs_ HB hb;(try clear hb);(try clear hb2);(try clear hk);(try clear hi))|((with_reducible refine gate_dst (N:=10) rfl ?_);(try(refine gate_guard (by rfl) ?_;dsimp only));refine be_ 10 #[.string (⟨#[]⟩:ByteArray),.int .i64 0,.string (⟨#[]⟩:ByteArray),.string (⟨#[]⟩:ByteArray),.string (⟨#[]⟩:ByteArray),.string (⟨#[]⟩:ByteArray),.string (⟨#[]⟩:ByteArray),.string (⟨#[]⟩:ByteArray),.int .i64 0,.int .i64 0,.int .i64 0] 25 ?_;intro gb121 hg w38 hbox hb;have BK121:=Aside0.mk (hbox);have GW121:=ge_ HB hg;have GE121:=ge_ HB hg;have NB107_121:=nl_ BK107 hg;have NB121_107:=ng_ BK107 hg;replace BK107:=kb_ BK107 hb;replace HB:=bs_ HB hb;clear hb hbox hg;have hnb39:=NB121_107.out;have hnc39:=NB107_121.out;have hcz40_0:=bc_ BK121 0 rfl;have hcz40_1:=bc_ BK121 1 rfl;have hcz40_2:=bc_ BK121 2 rfl;have hcz40_3:=bc_ BK121 3 rfl;have hcz40_4:=bc_ BK121 4 rfl;have hcz40_5:=bc_ BK121 5 rfl;have hcz40_6:=bc_ BK121 6 rfl;have hcz40_7:=bc_ BK121 7 rfl;have hcz40_8:=bc_ BK121 8 rfl;have hcz40_9:=bc_ BK121 9 rfl;have hcz40_10:=bc_ BK121 10 rfl;have hfz40_0:=blk_frozen BK121.out 0;have hfz40_1:=blk_frozen BK121.out 1;have hfz40_2:=blk_frozen BK121.out 2;have hfz40_3:=blk_frozen BK121.out 3;have hfz40_4:=blk_frozen BK121.out 4;have hfz40_5:=blk_frozen BK121.out 5;have hfz40_6:=blk_frozen BK121.out 6;have hfz40_7:=blk_frozen BK121.out 7;have hfz40_8:=blk_frozen BK121.out 8;have hfz40_9:=blk_frozen BK121.out 9;have hfz40_10:=blk_frozen BK121.out 10)|(refine gl_ 61 Tryz.func9 #[.string (⟨#[115,112,108,105,116,32,115,49,32,120,32,48,49,32,49,32,49,32,50]⟩:ByteArray)] ?_;refine mo_ (action_Parse.calls (⟨#[115,112,108,105,116,32,115,49,32,120,32,48,49,32,49,32,49,32,50]⟩:ByteArray) t122 t123 t124 t125 t126 t127 t128 t129 t130 t131 t132 t133 _ (lb_ HLD HB) A30.out) ?_;intro w41 hb;replace BK107:=Aside0.mk (blk_below (g:=gb107) (o:=.cells #[.string (⟨#[115,49]⟩:ByteArray),.int .i64 0,.string (⟨#[120]⟩:ByteArray),.string (⟨#[]⟩:ByteArray),.string t103,.string t104,.string t105,.string t106,.int .i64 a0,.int .i64 a1,.int .i64 a2] 25 (0,0)) (fq_ BK107.out) hb);replace BK121:=Aside0.mk (blk_below (g:=gb121) (o:=.cells #[.string t109,.int .i64 t110,.string t111,.string t112,.string t113,.string t114,.string t115,.string t116,.int .i64 t117,.int .i64 t118,.int .i64 t119] 25 (0,0)) (rq_ BK121.out) hb);replace HB:=bs_ HB hb;(try clear hb);(try clear hb2);(try clear hk);(try clear hi))|((with_reducible refine gate_dst (N:=12) rfl ?_);(try(refine gate_guard (by rfl) ?_;dsimp only));refine be_ 12 #[.string (⟨#[]⟩:ByteArray),.int .i64 0,.string (⟨#[]⟩:ByteArray),.string (⟨#[]⟩:ByteArray),.string (⟨#[]⟩:ByteArray),.string (⟨#[]⟩:ByteArray),.string (⟨#[]⟩:ByteArray),.string (⟨#[]⟩:ByteArray),.int .i64 0,.int .i64 0,.int .i64 0] 25 ?_;intro gb134 hg w42 hbox hb;have BK134:=Aside0.mk (hbox);have GW134:=ge_ HB hg;have GE134:=ge_ HB hg;have NB107_134:=nl_ BK107 hg;have NB134_107:=ng_ BK107 hg;have NB121_134:=nl_ BK121 hg;have NB134_121:=ng_ BK121 hg;replace BK107:=kb_ BK107 hb;replace BK121:=kb_ BK121 hb;replace HB:=bs_ HB hb;clear hb hbox hg;have hnb43:=NB134_107.out;have hnc43:=NB107_134.out;have hnb44:=NB134_121.out;have hnc44:=NB121_134.out;have hcz45_0:=bc_ BK134 0 rfl;have hcz45_1:=bc_ BK134 1 rfl;have hcz45_2:=bc_ BK134 2 rfl;have hcz45_3:=bc_ BK134 3 rfl;have hcz45_4:=bc_ BK134 4 rfl;have hcz45_5:=bc_ BK134 5 rfl;have hcz45_6:=bc_ BK134 6 rfl;have hcz45_7:=bc_ BK134 7 rfl;have hcz45_8:=bc_ BK134 8 rfl;have hcz45_9:=bc_ BK134 9 rfl;have hcz45_10:=bc_ BK134 10 rfl;have hfz45_0:=blk_frozen BK134.out 0;have hfz45_1:=blk_frozen BK134.out 1;have hfz45_2:=blk_frozen BK134.out 2;have hfz45_3:=blk_frozen BK134.out 3;have hfz45_4:=blk_frozen BK134.out 4;have hfz45_5:=blk_frozen BK134.out 5;have hfz45_6:=blk_frozen BK134.out 6;have hfz45_7:=blk_frozen BK134.out 7;have hfz45_8:=blk_frozen BK134.out 8;have hfz45_9:=blk_frozen BK134.out 9;have hfz45_10:=blk_frozen BK134.out 10;have hcz46_0:=bc_ BK107 0 rfl;have hcz46_1:=bc_ BK107 1 rfl;have hcz46_2:=bc_ BK107 2 rfl;have hcz46_3:=bc_ BK107 3 rfl;have hcz46_4:=bc_ BK107 4 rfl;have hcz46_5:=bc_ BK107 5 rfl;have hcz46_6:=bc_ BK107 6 rfl;have hcz46_7:=bc_ BK107 7 rfl;have hcz46_8:=bc_ BK107 8 rfl;have hcz46_9:=bc_ BK107 9 rfl;have hcz46_10:=bc_ BK107 10 rfl;have hfz46_0:=blk_frozen BK107.out 0;have hfz46_1:=blk_frozen BK107.out 1;have hfz46_2:=blk_frozen BK107.out 2;have hfz46_3:=blk_frozen BK107.out 3;have hfz46_4:=blk_frozen BK107.out 4;have hfz46_5:=blk_frozen BK107.out 5;have hfz46_6:=blk_frozen BK107.out 6;have hfz46_7:=blk_frozen BK107.out 7;have hfz46_8:=blk_frozen BK107.out 8;have hfz46_9:=blk_frozen BK107.out 9;have hfz46_10:=blk_frozen BK107.out 10)|(refine gl_ 65 Tryz.func11 #[.agg #[.string (⟨#[115,49]⟩:ByteArray),.int .i64 0,.string (⟨#[120]⟩:ByteArray),.string (⟨#[]⟩:ByteArray),.string t103,.string t104,.string t105,.string t106,.int .i64 a0,.int .i64 a1,.int .i64 a2]] ?_;refine mo_ (action_May.calls (⟨#[115,49]⟩:ByteArray) 0 (⟨#[120]⟩:ByteArray) (⟨#[]⟩:ByteArray) t103 t104 t105 t106 a0 a1 a2 t135 _ (lb_ HLD HB) A31.out) ?_;intro w47 hb;replace BK107:=Aside0.mk (blk_below (g:=gb107) (o:=.cells #[.string (⟨#[115,49]⟩:ByteArray),.int .i64 0,.string (⟨#[120]⟩:ByteArray),.string (⟨#[]⟩:ByteArray),.string t103,.string t104,.string t105,.string t106,.int .i64 a0,.int .i64 a1,.int .i64 a2] 25 (0,0)) (fq_ BK107.out) hb);replace BK121:=Aside0.mk (blk_below (g:=gb121) (o:=.cells #[.string t109,.int .i64 t110,.string t111,.string t112,.string t113,.string t114,.string t115,.string t116,.int .i64 t117,.int .i64 t118,.int .i64 t119] 25 (0,0)) (fq_ BK121.out) hb);replace BK134:=Aside0.mk (blk_below (g:=gb134) (o:=.cells #[.string t122,.int .i64 t123,.string t124,.string t125,.string t126,.string t127,.string t128,.string t129,.int .i64 t130,.int .i64 t131,.int .i64 t132] 25 (0,0)) (rq_ BK134.out) hb);replace HB:=bs_ HB hb;(try clear hb);(try clear hb2);(try clear hk);(try clear hi)))
         go_ret
         exact⟨er_,b_ HB.out⟩
        ·rw[if_neg c34] at H;exact absurd (H.trans (congrArg some hr_.out)) (by decide)
       ·rw[if_neg c33] at H;exact absurd (H.trans (congrArg some hr_.out)) (by decide)
      ·rw[if_neg c32] at H;exact absurd (H.trans (congrArg some hr_.out)) (by decide)
end Go.Proofs.YtoghmeffpgbcfaaGreatDoor.LActionDays
end

section
namespace Go.Proofs.YtoghmeffpgbcfaaGreatDoor.LActionDays
end Go.Proofs.YtoghmeffpgbcfaaGreatDoor.LActionDays
end

section
namespace Go.Proofs.YtoghmeffpgbcfaaGreatDoor
theorem days_sm (x y z:Int):smA (actV ⟨#[115,49]⟩ 0 ⟨#[120]⟩ ⟨#[]⟩ (rT 2).1 (rT 2).2 (rT 0).1 (rT 0).2 x y z)=true:=by kernel_rfl
theorem days_may (x y z:Int):mayA (actV ⟨#[115,49]⟩ 0 ⟨#[120]⟩ ⟨#[]⟩ (rT 2).1 (rT 2).2 (rT 0).1 (rT 0).2 x y z)=(decide (0≤x)&&(decide (x≤y)&&(decide (y≤z)&&decide (z≤9999)))):=by
 have e1:nameL [115,49]=true:=by decide
 have e2:assetL [120]=true:=by decide
 have e3:numOk ((rT 2).1,(rT 2).2) true 1=true:=by kernel_rfl
 have e4:numOk ((rT 0).1,(rT 0).2) false 1=true:=by kernel_rfl
 show (decide ((0:Int)≤0)&&(decide ((0:Int)≤4)&&(nameL [115,49]&&(assetL [120]&&((decide (0≤x)&&(decide (x≤y)&&(decide (y≤z)&&decide (z≤9999))))&&(true&&(numOk ((rT 2).1,(rT 2).2) true 1&&numOk ((rT 0).1,(rT 0).2) false 1))))))) = _
 rw[e1,e2,e3,e4]
 simp
theorem days_01:action_Parse.f (⟨#[115,112,108,105,116,32,115,49,32,120,32,48,49,32,49,32,49,32,50]⟩:ByteArray)=some (flatA (zeroA,150)):=by kernel_rfl
theorem days_empty:action_Parse.f noB=some (flatA (zeroA,150)):=by kernel_rfl
theorem days_j1 (x y z:Int) (g:Bool) (hg:g=(decide (0≤x)&&(decide (x≤y)&&(decide (y≤z)&&decide (z≤9999))))) (k:Nat) :
  LActionDays.dl15_ActionDays.j1 (k+1) g ⟨#[115,49]⟩ 0 ⟨#[120]⟩ ⟨#[]⟩ (rT 2).1 (rT 2).2 (rT 0).1 (rT 0).2 x y z=some true:=by
 rw[← days_may] at hg
 simp only[LActionDays.dl15_ActionDays.j1]
 rw[aPrint (days_sm x y z),Option.bind_some,days_01]
 cases g
 ·have hn:=print_not (a:=actV ⟨#[115,49]⟩ 0 ⟨#[120]⟩ ⟨#[]⟩ (rT 2).1 (rT 2).2 (rT 0).1 (rT 0).2 x y z) (by rw[← hg];decide)
  rw[hn,days_empty,Option.bind_some,Option.bind_some,aMay (days_sm x y z),Option.bind_some,← hg,if_pos (show (false == false)=true from rfl),if_pos (show ((noB.toList != ([]:List UInt8)) == false)=true by rw[ByteArray.toList_eq];rfl)]
  rfl
 ·have hm:=hg.symm
  have hz:=printA_size hm
  have hne:((printA (actV ⟨#[115,49]⟩ 0 ⟨#[120]⟩ ⟨#[]⟩ (rT 2).1 (rT 2).2 (rT 0).1 (rT 0).2 x y z)).toList != ([]:List UInt8))=true:=bne_iff_ne.2 (fun h=>print_empty.1 h hm)
  rw[aParse (by omega),Option.bind_some,Option.bind_some,aMay (days_sm x y z),Option.bind_some,← hg,parseAct_print hm,if_pos (show (true == true)=true from rfl),hne,if_pos (show (true == true)=true from rfl)]
  rfl
theorem pureActionDays (a0 a1 a2:Int) (w0:(Lit.int .i64 a0).wf=true) (w1:(Lit.int .i64 a1).wf=true) (w2:(Lit.int .i64 a2).wf=true):∃ k:Nat,LActionDays.dl15_ActionDays.f k a0 a1 a2=some true:=by
 refine⟨0+1+1,?_⟩
 unfold LActionDays.dl15_ActionDays.f
 have hj:LActionDays.dl15_ActionDays.j0 (0+1+1) a0 a1 a2 true=some true:=by
  simp only[LActionDays.dl15_ActionDays.j0]
  rfl
 rw[show dl15_fixed.f=some true from rfl,Option.bind_some,if_pos rfl]
 split
 ·exact hj
 by_cases h2:mx (mx a0 a1) a2>10100
 ·rw[decide_eq_true h2]
  exact hj
 rw[decide_eq_false h2]
 clear hj h2
 have of2:r3_Of.f 2=some (rT 2):=if_pos (by decide)
 have of0:r3_Of.f 0=some (rT 0):=if_pos (by decide)
 simp only[LActionDays.dl15_ActionDays.j0]
 rw[if_neg (by decide),of2,Option.bind_some,of0,Option.bind_some]
 by_cases c0:a0≥0
 ·rw[if_pos c0]
  by_cases c1:a1≥a0
  ·rw[if_pos c1]
   by_cases c2:a2≥a1
   ·rw[if_pos c2]
    exact days_j1 a0 a1 a2 _ (by rw[decide_eq_true (show 0≤a0 from c0),decide_eq_true (show a0≤a1 from c1),decide_eq_true (show a1≤a2 from c2)];rfl) 0
   ·rw[if_neg c2]
    exact days_j1 a0 a1 a2 _ (by rw[decide_eq_false (show ¬ a1≤a2 from c2)];simp) 0
  ·rw[if_neg c1]
   exact days_j1 a0 a1 a2 _ (by rw[decide_eq_false (show ¬ a0≤a1 from c1)];simp) 0
 ·rw[if_neg c0]
  exact days_j1 a0 a1 a2 _ (by rw[decide_eq_false (show ¬ 0≤a0 from c0)];simp) 0
end Go.Proofs.YtoghmeffpgbcfaaGreatDoor
end

section
namespace Go.Proofs.YtoghmeffpgbcfaaGreatDoor.actionDays
open Go.ChangeShapes Go.WideShapes Go.ChangeAt Go.RowKit
set_option maxRecDepth 100000 in
theorem lifted (os:Os) (started:os.Started) (H:Type) (enc:TypeId×Value→H) :
  ReturnsInHanded {} Tryz.checked os 5 .any (fun w args=>(Rows.actionDaysSpec.pre enc Tryz.prog Tryz.f5 Rows.actionDaysRow.domain false w args∧laidMetH Tryz.prog laidL w)∧sizedMet enc Tryz.prog Tryz.f5 (OpenSpec.ofChange Rows.actionDaysSpec) false w args)
   (Rows.actionDaysSpec.post enc Tryz.prog Tryz.f5 false true false false):=by
 refine wrap_shaped (C:=Tryz.checked) (X:=fun w _=>laidMetH Tryz.prog laidL w) (fun _ _ _ hh h=>h.of_heap hh) own started (by kernel_rfl) Tryz.func5
  (ChangeSpec.witness_shaped (enc:=enc) (C:=Tryz.checked) (os:=os) (X:=fun w _=>laidMetH Tryz.prog laidL w) false (World.laidAll Tryz.prog os laidL) #[.int .i64 0,.int .i64 0,.int .i64 0] 8 (World.laidAll_os _ _ _) (World.shaped_of_ZipB (by kernel_rfl) (by kernel_rfl)) (by kernel_rfl) (by kernel_rfl) (by kernel_rfl) (door_met os _)) ?_
 intro W base args ds gs before hval0 hW _ hsz0 hL hsh
 have hsz:(DataW.weightsEach Tryz.prog (Tryz.f5.params.toList++Rows.actionDaysSpec.plain.varTypes Tryz.prog) (ds++gs)).all (·≤reachBytes)=true:=hsz0
 have hval:∀ (j:Nat) t v,Tryz.f5.params[j]?=some t→args[j]?=some v→Value.okWide Tryz.prog W .any base t v:=hval0
 have hW':=hW
 obtain⟨p,q,hA0,hV,rfl,hfz,hnd⟩:=hW
 have hA:DataW.TrodAll enc Tryz.prog W 0 (fun _=>true) true Tryz.f5.params.toList args.toList ds p:=hA0
 rw[Tryz.params5] at hA hval hsz
 obtain⟨v0,vs0,d0,ds0,p0,q0,hargs,rfl,rfl,h0,r0⟩:=trodAll_cons hA
 obtain⟨v1,vs1,d1,ds1,p1,q1,rfl,rfl,rfl,h1,r1⟩:=trodAll_cons r0
 obtain⟨v2,vs2,d2,ds2,p2,q2,rfl,rfl,rfl,h2,r2⟩:=trodAll_cons r1
 obtain⟨rfl,rfl,rfl⟩:=trodAll_nil r2
 obtain rfl:args=#[v0,v1,v2]:=by cases args;simp_all
 obtain⟨rfl,rfl⟩:=trodVars_none hV
 obtain⟨a0,rfl,rfl,rfl,w0⟩:=open_int Tryz.underlying3 (hval 0 3 v0 rfl rfl) h0
 obtain⟨a1,rfl,rfl,rfl,w1⟩:=open_int Tryz.underlying3 (hval 1 3 v1 rfl rfl) h1
 obtain⟨a2,rfl,rfl,rfl,w2⟩:=open_int Tryz.underlying3 (hval 2 3 v2 rfl rfl) h2
 clear hA0 hval0 hsz0 hsz
 obtain⟨k,hf⟩:=pureActionDays a0 a1 a2 w0 w1 w2
 refine(LActionDays.dl15_ActionDays.calls k a0 a1 a2 true W (laid_of hL hsh) ⟨rfl⟩ hf).mono fun e W' ⟨he,bel⟩=>?_
 subst he
 exact⟨_,rfl,_,_,_,[],_,[],hW',trodAll_mk1 (shut_bool Tryz.underlying4 _),(trodAll_cons_mk (shut_int Tryz.underlying3 w0) (trodAll_cons_mk (shut_int Tryz.underlying3 w1) (trodAll_cons_mk (shut_int Tryz.underlying3 w2) trodAll_mk0))),rfl,bel.frame _,fun h=>by cases h⟩
theorem over:Rows.ActionDaysSaid :=
 OpenClaim.holds_of_wide 5 Tryz.f5 rfl rfl rfl rfl rfl rfl rfl ⟨rfl,rfl,rfl,rfl,rfl⟩ rfl rfl rfl rfl rfl (by kernel_rfl) Tryz.func5 (by kernel_rfl)
  (of_decide_eq_true (by kernel_rfl)) (by unfold Func.isWrapper;first|(rw[if_pos (by decide +kernel)];kernel_rfl)|(rw[if_neg (by decide +kernel)];exact⟨rfl,rfl⟩))
  (fun os started H enc _=>lifted os started H enc)
theorem proved:Rows.ActionDaysCardSaid :=
 Claim7.holds_tied_plain_at .later [] [.data,.data,.data,.data,.sentinel,.sentinel,.pinned] true (true, "e49ae85bf9ddd41ebd5249cafc9df0e43b5f2c529efac24c3b6055c28f8729e6") true
  over (fun _ h=>by cases h) (by kernel_rfl) (fun _ h=>by cases h) actionDays_row_tie rfl ⟨rfl,rfl⟩ (by kernel_rfl) rfl
  (fun f fn hf hfn=>by
   obtain rfl:f=5:=Option.some.inj ((show Tryz.prog.funcNamed "debenture/debenturelaw15.ActionDays" = some 5 by kernel_rfl).symm.trans hf) |>.symm
   obtain rfl:fn=Tryz.f5:=(Option.some.inj (Tryz.func5.symm.trans hfn)).symm
   exact⟨by kernel_rfl,fun j t ht=>by
    rw[Tryz.params5] at ht
    have hm:t∈[3,3,3]:=by simpa using Array.mem_of_getElem? ht
    have hall:([3,3,3].all fun u=>!Tryz.prog.wantsStandIn u)=true:=by kernel_rfl
    exact(show Tryz.prog.wantsStandIn t=false by simpa using List.all_eq_true.1 hall t hm)⟩)
  (by kernel_rfl)
end Go.Proofs.YtoghmeffpgbcfaaGreatDoor.actionDays
namespace Go.Proofs.YtoghmeffpgbcfaaGreatDoor
theorem actionDays_holds:Rows.ActionDaysCardSaid:=actionDays.proved
#print axioms actionDays_holds
end Go.Proofs.YtoghmeffpgbcfaaGreatDoor
end
