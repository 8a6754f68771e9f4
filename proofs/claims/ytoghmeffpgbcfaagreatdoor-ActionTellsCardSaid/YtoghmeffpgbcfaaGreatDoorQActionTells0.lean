/-
The law ActionTells holds at every input that its row lets in: the row's walk and its plain law, tied to the program's text. Conditions: none beyond the given row's own.
Parts of the proof, in build order: LActionTells0, LActionTells1, LActionTells2, LActionTells3, LActionTells, PuActionTells, RowActionTells.
-/
import Derived.Test.YtoghmeffpgbcfaaGreatDoorY8
import Derived.Test.YtoghmeffpgbcfaaGreatDoorTie
import Derived.Test.YtoghmeffpgbcfaaGreatDoorCards
set_option linter.unusedVariables false
set_option linter.unusedSimpArgs false
set_option maxHeartbeats 64000000
set_option maxRecDepth 100000
namespace Go.Proofs.YtoghmeffpgbcfaaGreatDoor
open Go.RowKit Go.Proofs.YtoghmeffpgbcfaaGreatDoorW.PrintWords Go.Proofs.YtoghmeffpgbcfaaGreatDoorW.PrintLast Go.Proofs.YtoghmeffpgbcfaaGreatDoorW.PrintMore
attribute [local go_sem] max2_int min2_int max_two min_two max_three min_three max_four min_four
namespace LActionTells
def errW:Option Int→Value
 | none=>.nilIface
 | some c=>.iface 0 (.int .i64 c)
theorem errW_none:errW none=.nilIface:=rfl
theorem errW_some (c:Int):errW (some c)=.iface 0 (.int .i64 c):=rfl
theorem eqA23 (d:Nat) (w:World) (x0 y0 x1 y1:ByteArray) :
  (Op.equalIn (d+2) 23 (.agg #[.string x0,.string x1]) (.agg #[.string y0,.string y1])).run Tryz.prog w=.ok (x0.toList == y0.toList&&(x1.toList == y1.toList)) w:=by
 refine eqA_of Tryz.underlying23 (by kernel_rfl) ?_;refine eqf_cons (by rfl) (by go_simp;rfl) (by go_simp;rfl) (by go_simp) ?_;exact eqf_last (by rfl) (by go_simp;rfl) (by go_simp;rfl) (by go_simp)
theorem eqA25 (d:Nat) (w:World) (x0 y0:ByteArray) (x1 y1:Int) (x2 y2 x3 y3 x4 y4 x5 y5 x6 y6 x7 y7:ByteArray) (x8 y8 x9 y9 x10 y10:Int) :
  (Op.equalIn (d+3) 25 (.agg #[.string x0,.int .i64 x1,.string x2,.string x3,.string x4,.string x5,.string x6,.string x7,.int .i64 x8,.int .i64 x9,.int .i64 x10]) (.agg #[.string y0,.int .i64 y1,.string y2,.string y3,.string y4,.string y5,.string y6,.string y7,.int .i64 y8,.int .i64 y9,.int .i64 y10])).run Tryz.prog w=.ok (x0.toList == y0.toList&&(x1 == y1&&(x2.toList == y2.toList&&(x3.toList == y3.toList&&((x4.toList == y4.toList&&(x5.toList == y5.toList))&&((x6.toList == y6.toList&&(x7.toList == y7.toList))&&(x8 == y8&&(x9 == y9&&(x10 == y10))))))))) w:=by
 refine eqA_of Tryz.underlying25 (by kernel_rfl) ?_;refine eqf_cons (by rfl) (by go_simp;rfl) (by go_simp;rfl) (by go_simp) ?_;refine eqf_cons (by rfl) (by go_simp;rfl) (by go_simp;rfl) (by go_simp) ?_;refine eqf_cons (by rfl) (by go_simp;rfl) (by go_simp;rfl) (by go_simp) ?_;refine eqf_cons (by rfl) (by go_simp;rfl) (by go_simp;rfl) (by go_simp) ?_;refine eqf_cons (by rfl) (by go_simp) (by go_simp) (eqA23 (d+0) w _ _ _ _) ?_;refine eqf_cons (by rfl) (by go_simp) (by go_simp) (eqA23 (d+0) w _ _ _ _) ?_;refine eqf_cons (by rfl) (by go_simp;rfl) (by go_simp;rfl) (by go_simp) ?_;refine eqf_cons (by rfl) (by go_simp;rfl) (by go_simp;rfl) (by go_simp) ?_;exact eqf_last (by rfl) (by go_simp;rfl) (by go_simp;rfl) (by go_simp)
end LActionTells
namespace LActionTells
attribute [local go_sem high] eqA25
def dl15_ActionTells.j0:Nat→ByteArray→Bool→ByteArray→Int→ByteArray→ByteArray→ByteArray→ByteArray→ByteArray→ByteArray→Int→Int→Int→Option (Bool)
 | 0,_,_,_,_,_,_,_,_,_,_,_,_,_=>none
 | k+1,x1,x16,x102000,x102001,x102002,x102003,x102004,x102005,x102006,x102007,x102008,x102009,x102010=>if x16=true then ((dl15_fixed.f).bind fun t103=>(some t103)) else ((action_Parse.f x1).bind fun bt104=>((r15_Parse.f x1).bind fun bt117=>((dl15_fixed.f).bind fun t130=>(if t130=true then ((action_May.f x102000 x102001 x102002 x102003 x102004 x102005 x102006 x102007 x102008 x102009 x102010).bind fun t131=>((r15_May.f x102000 x102001 x102002 x102003 x102004 x102005 x102006 x102007 x102008 x102009 x102010).bind fun t132=>(if (t131 == t132)=true then ((action_Print.f x102000 x102001 x102002 x102003 x102004 x102005 x102006 x102007 x102008 x102009 x102010).bind fun t133=>((r15_Print.f x102000 x102001 x102002 x102003 x102004 x102005 x102006 x102007 x102008 x102009 x102010).bind fun t134=>(if t133.toList=t134.toList then (if (bt104.1.toList == bt117.1.toList&&(bt104.2.1 == bt117.2.1&&(bt104.2.2.1.toList == bt117.2.2.1.toList&&(bt104.2.2.2.1.toList == bt117.2.2.2.1.toList&&((bt104.2.2.2.2.1.toList == bt117.2.2.2.2.1.toList&&(bt104.2.2.2.2.2.1.toList == bt117.2.2.2.2.2.1.toList))&&((bt104.2.2.2.2.2.2.1.toList == bt117.2.2.2.2.2.2.1.toList&&(bt104.2.2.2.2.2.2.2.1.toList == bt117.2.2.2.2.2.2.2.1.toList))&&(bt104.2.2.2.2.2.2.2.2.1 == bt117.2.2.2.2.2.2.2.2.1&&(bt104.2.2.2.2.2.2.2.2.2.1 == bt117.2.2.2.2.2.2.2.2.2.1&&(bt104.2.2.2.2.2.2.2.2.2.2.1 == bt117.2.2.2.2.2.2.2.2.2.2.1)))))))))=true then (some (bt104.2.2.2.2.2.2.2.2.2.2.2 == bt117.2.2.2.2.2.2.2.2.2.2.2)) else (some false)) else (some false)))) else (some false)))) else (some false)))))
def dl15_ActionTells.f (k:Nat) (a0_0:ByteArray) (a0_1:Int) (a0_2 a0_3 a0_4 a0_5 a0_6 a0_7:ByteArray) (a0_8 a0_9 a0_10:Int) (a1:ByteArray):Option (Bool):=(r15_Light.f a0_0 a0_1 a0_2 a0_3 a0_4 a0_5 a0_6 a0_7 a0_8 a0_9 a0_10).bind fun t102=>(if t102=true then (dl15_ActionTells.j0 k a1 (decide ((a1.size:Int)>1000)) a0_0 a0_1 a0_2 a0_3 a0_4 a0_5 a0_6 a0_7 a0_8 a0_9 a0_10) else (dl15_ActionTells.j0 k a1 true a0_0 a0_1 a0_2 a0_3 a0_4 a0_5 a0_6 a0_7 a0_8 a0_9 a0_10))
def dl15_ActionTells.T5:Bool×List (List Nat×List Nat):=(true,[([],[]),([0,0],[0]),([1],[1]),([2,1,1],[1,2]),([1],[1]),([4,3,1],[1,4]),([3,5,1],[1,3,5]),([1,6],[1,6]),([7,5],[7]),([8],[8]),([9,8,8],[8,9]),([8],[8]),([11,10,8],[8,11]),([10,12,8],[8,10,12]),([8,13],[8,13]),([14,12],[14]),([15],[15]),([15],[15]),([16,17,15],[15,16,17]),([15,18],[15,18]),([19,15],[19]),([20],[20]),([20],[20]),([21,22,20],[20,21,22]),([20,23],[20,23]),([24,20,0,1,2,3,4,5,6,7,8,9,10,11,12,13,14,15,16,17,18,19,20,21,22,23,24],[24])])
def dl15_ActionTells.B5:List Nat:=[0,1,3,7,3,31,63,127,255,511,1023,511,4095,8191,16383,32767,65535,65535,262143,524287,1048575,2097151,2097151,8388607,16777215,33554431]
theorem dl15_ActionTells.tab5:rtab .any (opsOf Tryz.f3 5)=dl15_ActionTells.T5:=by kernel_rfl
theorem dl15_ActionTells.bits5:waitsOk dl15_ActionTells.T5.2 dl15_ActionTells.B5=true:=by kernel_rfl
theorem dl15_ActionTells.calls (k:Nat) (a0_0:ByteArray) (a0_1:Int) (a0_2 a0_3 a0_4 a0_5 a0_6 a0_7:ByteArray) (a0_8 a0_9 a0_10:Int) (a1:ByteArray) (r:Bool) (w:World) (hL_:Laid w) (hr_:Aside0 (r=true)) (h:dl15_ActionTells.f k a0_0 a0_1 a0_2 a0_3 a0_4 a0_5 a0_6 a0_7 a0_8 a0_9 a0_10 a1=some r) :
  Calls Tryz.prog 3 #[.agg #[.string a0_0,.int .i64 a0_1,.string a0_2,.string a0_3,.string a0_4,.string a0_5,.string a0_6,.string a0_7,.int .i64 a0_8,.int .i64 a0_9,.int .i64 a0_10],.string a1] w fun e w'=>e=.returned (.bool r)∧Below w.heap.size w w':=by
 have hu25:=Tryz.underlying25;have HLD:=ak_ hL_;clear hL_;have HB:=ak_ (Below.refl w.heap.size w);have H:=h;unfold dl15_ActionTells.f at H;clear h;have HC3:=ak_ H;clear H;go_in
 go_upto_region 1 with (first|((with_reducible refine gate_dst (N:=2) rfl ?_);(try(refine gate_guard (by rfl) ?_;dsimp only));refine bf_ 2 #[.string a0_0,.int .i64 a0_1,.string a0_2,.string a0_3,.string a0_4,.string a0_5,.string a0_6,.string a0_7,.int .i64 a0_8,.int .i64 a0_9,.int .i64 a0_10] 25 HB ?_;clear HB;intro gb101 w4 BK101 GW101 HB))
 (try simp only[Act.put,List.setIfInBounds_toArray,List.set_cons_zero,List.set_cons_succ])
 go_cut [16] (fun v16 wc=>∃ (kq:Nat) (x16_2:Bool),v16=.bool x16_2∧Aside0 (dl15_ActionTells.j0 kq a1 x16_2 a0_0 a0_1 a0_2 a0_3 a0_4 a0_5 a0_6 a0_7 a0_8 a0_9 a0_10=some r)∧Aside0 (kq≤k)∧Aside0 (wc.heap[gb101]?=some (.cells #[.string a0_0,.int .i64 a0_1,.string a0_2,.string a0_3,.string a0_4,.string a0_5,.string a0_6,.string a0_7,.int .i64 a0_8,.int .i64 a0_9,.int .i64 a0_10] 25 (0,0)))∧Aside0 (Below w.heap.size w wc))
 case first =>
  have H:=HC3.out;clear HC3;replace H:=bi_ H;obtain⟨t102,A5,H⟩:=H;replace H:=bt_ H;rcases H with ⟨rfl,H⟩|⟨rfl,H⟩
  ·have H':=ak_ H;clear H;have hz7:=cs11_ BK101
   go_wp2_with ((refine gm_ 10 Tryz.func7 (r15_Light.calls _ _ _ _ _ _ _ _ _ _ _ _ _ A5.out) ?_;intro w8 hb;replace BK101:=kb_ BK101 hb;replace HB:=bs_ HB hb;(try clear hb)))
   go_meet
   case rel=>exact⟨_,(decide ((a1.size:Int)>1000)),rl_,H',⟨nk_⟩,⟨k_ BK101.out⟩,⟨b_ HB.out⟩⟩
  ·have H':=ak_ H;clear H;have hz9:=cs11_ BK101
   go_wp2_with ((refine gm_ 10 Tryz.func7 (r15_Light.calls _ _ _ _ _ _ _ _ _ _ _ _ _ A5.out) ?_;intro w10 hb;replace BK101:=kb_ BK101 hb;replace HB:=bs_ HB hb;(try clear hb)))
   go_meet
   case rel=>exact⟨_,(true),rl_,H',⟨nk_⟩,⟨k_ BK101.out⟩,⟨b_ HB.out⟩⟩
 case rest =>
  clear HC3;obtain⟨kq,x16_2,rfl,HA,HJ2,BK101,HB⟩:=hcut
  cases kq with
  | zero=>exact absurd HA.out (by simp[dl15_ActionTells.j0])
  | succ kj2 =>
   have H:=HA.out;clear HA;simp only[dl15_ActionTells.j0] at H;replace H:=bt_ H;rcases H with ⟨rfl,H⟩|⟨rfl,H⟩
   ·replace H:=bi_ H;obtain⟨t103,A12,H⟩:=H;obtain rfl:=oi_ H
    go_wp2_with ((refine gm_ 17 Tryz.func8 (dl15_fixed.calls _ _ (lb_ HLD HB) A12.out) ?_;intro w13 hb;replace BK101:=kb_ BK101 hb;replace HB:=bs_ HB hb;(try clear hb)))
    go_ret
    exact⟨er_,b_ HB.out⟩
   ·replace H:=bi_ H;obtain⟨⟨t104,t105,t106,t107,t108,t109,t110,t111,t112,t113,t114,t115⟩,A14,H⟩:=H;(try dsimp only at H);replace H:=bi_ H;obtain⟨⟨t117,t118,t119,t120,t121,t122,t123,t124,t125,t126,t127,t128⟩,A15,H⟩:=H;(try dsimp only at H);replace H:=bi_ H;obtain⟨t130,A16,H⟩:=H;by_cases c17:t130=true
    ·subst c17;rw[if_pos rfl] at H;replace H:=bi_ H;obtain⟨t131,A18,H⟩:=H;replace H:=bi_ H;obtain⟨t132,A19,H⟩:=H;replace H:=bw_ H;rcases H with ⟨c20,H⟩|⟨c20,H⟩
     ·have c20b0:(t131 == t132)=true:=c20;(try(have c20b1:decide (t131=t132)=true:=by simpa using c20));(try(have c20b2:(t131 == t132)=true:=by simpa using c20));clear c20;replace H:=bi_ H;obtain⟨t133,A21,H⟩:=H;replace H:=bi_ H;obtain⟨t134,A22,H⟩:=H;replace H:=bw_ H;rcases H with ⟨c23,H⟩|⟨c23,H⟩
      ·have c23b0:(t133.toList == t134.toList)=true:=beq_iff_eq.mpr c23;have c23b1:(t133.toList != t134.toList)=false:=bne_eq_false_iff_eq.mpr c23;clear c23;replace H:=bw_ H;rcases H with ⟨c24,H⟩|⟨c24,H⟩
       ·have c24b0:(t104.toList == t117.toList&&(t105 == t118&&(t106.toList == t119.toList&&(t107.toList == t120.toList&&((t108.toList == t121.toList&&(t109.toList == t122.toList))&&((t110.toList == t123.toList&&(t111.toList == t124.toList))&&(t112 == t125&&(t113 == t126&&(t114 == t127)))))))))=true:=c24;(try(have c24b1:decide (t104.toList=t117.toList&&(t105 == t118&&(t106.toList == t119.toList&&(t107.toList == t120.toList&&((t108.toList == t121.toList&&(t109.toList == t122.toList))&&((t110.toList == t123.toList&&(t111.toList == t124.toList))&&(t112 == t125&&(t113 == t126&&(t114 == t127)))))))))=true:=by simpa using c24));(try(have c24b2:(t104.toList == t117.toList&&(t105 == t118&&(t106.toList == t119.toList&&(t107.toList == t120.toList&&((t108.toList == t121.toList&&(t109.toList == t122.toList))&&((t110.toList == t123.toList&&(t111.toList == t124.toList))&&(t112 == t125&&(t113 == t126&&(t114 == t127)))))))))=true:=by simpa using c24));clear c24;obtain rfl:=oi_ H
        try go_wp2_with (first|(refine gm_ 20 Tryz.func9 (action_Parse.calls _ _ _ _ _ _ _ _ _ _ _ _ _ _ (lb_ HLD HB) A14.out) ?_;intro w25 hb;replace BK101:=kb_ BK101 hb;replace HB:=bs_ HB hb;(try clear hb))|((with_reducible refine gate_dst (N:=5) rfl ?_);(try(refine gate_guard (by rfl) ?_;dsimp only));refine bg_ 5 #[.string ⟨#[]⟩,.int .i64 0,.string ⟨#[]⟩,.string ⟨#[]⟩,.string ⟨#[]⟩,.string ⟨#[]⟩,.string ⟨#[]⟩,.string ⟨#[]⟩,.int .i64 0,.int .i64 0,.int .i64 0] 25 HB ?_;clear HB;intro gb116 w26 hg hb BK116 GW116 HB;have NB101_116:=nl_ BK101 hg;have NB116_101:=ng_ BK101 hg;replace BK101:=kb_ BK101 hb;clear hb hg;have hnb27:=NB116_101.out;have hnc27:=NB101_116.out;have hz28:=cs11_ BK116)|(refine gm_ 25 Tryz.func10 (r15_Parse.calls _ _ _ _ _ _ _ _ _ _ _ _ _ _ A15.out) ?_;intro w29 hb;replace BK101:=ak_ (blk_below (g:=gb101) (o:=.cells #[.string a0_0,.int .i64 a0_1,.string a0_2,.string a0_3,.string a0_4,.string a0_5,.string a0_6,.string a0_7,.int .i64 a0_8,.int .i64 a0_9,.int .i64 a0_10] 25 (0,0)) (fq_ BK101.out) hb);replace BK116:=ak_ (blk_below (g:=gb116) (o:=.cells #[.string t104,.int .i64 t105,.string t106,.string t107,.string t108,.string t109,.string t110,.string t111,.int .i64 t112,.int .i64 t113,.int .i64 t114] 25 (0,0)) (rq_ BK116.out) hb);replace HB:=bs_ HB hb;(try clear hb))|((with_reducible refine gate_dst (N:=7) rfl ?_);(try(refine gate_guard (by rfl) ?_;dsimp only));refine bg_ 7 #[.string ⟨#[]⟩,.int .i64 0,.string ⟨#[]⟩,.string ⟨#[]⟩,.string ⟨#[]⟩,.string ⟨#[]⟩,.string ⟨#[]⟩,.string ⟨#[]⟩,.int .i64 0,.int .i64 0,.int .i64 0] 25 HB ?_;clear HB;intro gb129 w30 hg hb BK129 GW129 HB;have NB101_129:=nl_ BK101 hg;have NB129_101:=ng_ BK101 hg;have NB116_129:=nl_ BK116 hg;have NB129_116:=ng_ BK116 hg;replace BK101:=kb_ BK101 hb;replace BK116:=kb_ BK116 hb;clear hb hg;have hnb31:=NB129_101.out;have hnc31:=NB101_129.out;have hnb32:=NB129_116.out;have hnc32:=NB116_129.out;have hz33:=cs11_ BK129))
        have n0_:Aside0 ((((((((((((w30.setCell ⟨gb129,0,none⟩ (.string t117)).setCell ⟨gb129,1,none⟩ (.int .i64 t118)).setCell ⟨gb129,2,none⟩ (.string t119)).setCell ⟨gb129,3,none⟩ (.string t120)).setCell ⟨gb129,4,none⟩ (.string t121)).setCell ⟨gb129,5,none⟩ (.string t122)).setCell ⟨gb129,6,none⟩ (.string t123)).setCell ⟨gb129,7,none⟩ (.string t124)).setCell ⟨gb129,8,none⟩ (.int .i64 t125)).setCell ⟨gb129,9,none⟩ (.int .i64 t126)).setCell ⟨gb129,10,none⟩ (.int .i64 t127)).heap[gb101]?=some (.cells #[.string a0_0,.int .i64 a0_1,.string a0_2,.string a0_3,.string a0_4,.string a0_5,.string a0_6,.string a0_7,.int .i64 a0_8,.int .i64 a0_9,.int .i64 a0_10] 25 (0,0))):=⟨fq_ BK101.out⟩;have n1_:Aside0 ((((((((((((w30.setCell ⟨gb129,0,none⟩ (.string t117)).setCell ⟨gb129,1,none⟩ (.int .i64 t118)).setCell ⟨gb129,2,none⟩ (.string t119)).setCell ⟨gb129,3,none⟩ (.string t120)).setCell ⟨gb129,4,none⟩ (.string t121)).setCell ⟨gb129,5,none⟩ (.string t122)).setCell ⟨gb129,6,none⟩ (.string t123)).setCell ⟨gb129,7,none⟩ (.string t124)).setCell ⟨gb129,8,none⟩ (.int .i64 t125)).setCell ⟨gb129,9,none⟩ (.int .i64 t126)).setCell ⟨gb129,10,none⟩ (.int .i64 t127)).heap[gb116]?=some (.cells #[.string t104,.int .i64 t105,.string t106,.string t107,.string t108,.string t109,.string t110,.string t111,.int .i64 t112,.int .i64 t113,.int .i64 t114] 25 (0,0))):=⟨fq_ BK116.out⟩;have n2_:Aside0 ((((((((((((w30.setCell ⟨gb129,0,none⟩ (.string t117)).setCell ⟨gb129,1,none⟩ (.int .i64 t118)).setCell ⟨gb129,2,none⟩ (.string t119)).setCell ⟨gb129,3,none⟩ (.string t120)).setCell ⟨gb129,4,none⟩ (.string t121)).setCell ⟨gb129,5,none⟩ (.string t122)).setCell ⟨gb129,6,none⟩ (.string t123)).setCell ⟨gb129,7,none⟩ (.string t124)).setCell ⟨gb129,8,none⟩ (.int .i64 t125)).setCell ⟨gb129,9,none⟩ (.int .i64 t126)).setCell ⟨gb129,10,none⟩ (.int .i64 t127)).heap[gb129]?=some (.cells #[.string t117,.int .i64 t118,.string t119,.string t120,.string t121,.string t122,.string t123,.string t124,.int .i64 t125,.int .i64 t126,.int .i64 t127] 25 (0,0))):=⟨rq_ BK129.out⟩;have n3_:Aside0 (Below w.heap.size w (((((((((((w30.setCell ⟨gb129,0,none⟩ (.string t117)).setCell ⟨gb129,1,none⟩ (.int .i64 t118)).setCell ⟨gb129,2,none⟩ (.string t119)).setCell ⟨gb129,3,none⟩ (.string t120)).setCell ⟨gb129,4,none⟩ (.string t121)).setCell ⟨gb129,5,none⟩ (.string t122)).setCell ⟨gb129,6,none⟩ (.string t123)).setCell ⟨gb129,7,none⟩ (.string t124)).setCell ⟨gb129,8,none⟩ (.int .i64 t125)).setCell ⟨gb129,9,none⟩ (.int .i64 t126)).setCell ⟨gb129,10,none⟩ (.int .i64 t127))):=⟨b_ HB.out⟩;(try clear BK101);(try clear BK116);(try clear BK129);(try clear HB);generalize (((((((((((w30.setCell ⟨gb129,0,none⟩ (.string t117)).setCell ⟨gb129,1,none⟩ (.int .i64 t118)).setCell ⟨gb129,2,none⟩ (.string t119)).setCell ⟨gb129,3,none⟩ (.string t120)).setCell ⟨gb129,4,none⟩ (.string t121)).setCell ⟨gb129,5,none⟩ (.string t122)).setCell ⟨gb129,6,none⟩ (.string t123)).setCell ⟨gb129,7,none⟩ (.string t124)).setCell ⟨gb129,8,none⟩ (.int .i64 t125)).setCell ⟨gb129,9,none⟩ (.int .i64 t126)).setCell ⟨gb129,10,none⟩ (.int .i64 t127))=w34 at n0_ n1_ n2_ n3_ ⊢;have BK101:=n0_;have BK116:=n1_;have BK129:=n2_;have HB:=n3_;clear n0_ n1_ n2_ n3_;replace BK101:=ak_ (blk_drew BK101.out);replace BK116:=ak_ (blk_drew BK116.out);replace BK129:=ak_ (blk_drew BK129.out);replace HB:=ak_ (below_drew1 HB.out);refine sa_ 26 (fun w'=>w'.cell? ⟨gb101,0,none⟩=some (.string a0_0)∧w'.cell? ⟨gb101,1,none⟩=some (.int .i64 a0_1)∧w'.cell? ⟨gb101,2,none⟩=some (.string a0_2)∧w'.cell? ⟨gb101,3,none⟩=some (.string a0_3)∧w'.cell? ⟨gb101,4,none⟩=some (.string a0_4)∧w'.cell? ⟨gb101,5,none⟩=some (.string a0_5)∧w'.cell? ⟨gb101,6,none⟩=some (.string a0_6)∧w'.cell? ⟨gb101,7,none⟩=some (.string a0_7)∧w'.cell? ⟨gb101,8,none⟩=some (.int .i64 a0_8)∧w'.cell? ⟨gb101,9,none⟩=some (.int .i64 a0_9)∧w'.cell? ⟨gb101,10,none⟩=some (.int .i64 a0_10)∧w'.cell? ⟨gb116,0,none⟩=some (.string t104)∧w'.cell? ⟨gb116,1,none⟩=some (.int .i64 t105)∧w'.cell? ⟨gb116,2,none⟩=some (.string t106)∧w'.cell? ⟨gb116,3,none⟩=some (.string t107)∧w'.cell? ⟨gb116,4,none⟩=some (.string t108)∧w'.cell? ⟨gb116,5,none⟩=some (.string t109)∧w'.cell? ⟨gb116,6,none⟩=some (.string t110)∧w'.cell? ⟨gb116,7,none⟩=some (.string t111)∧w'.cell? ⟨gb116,8,none⟩=some (.int .i64 t112)∧w'.cell? ⟨gb116,9,none⟩=some (.int .i64 t113)∧w'.cell? ⟨gb116,10,none⟩=some (.int .i64 t114)∧w'.cell? ⟨gb129,0,none⟩=some (.string t117)∧w'.cell? ⟨gb129,1,none⟩=some (.int .i64 t118)∧w'.cell? ⟨gb129,2,none⟩=some (.string t119)∧w'.cell? ⟨gb129,3,none⟩=some (.string t120)∧w'.cell? ⟨gb129,4,none⟩=some (.string t121)∧w'.cell? ⟨gb129,5,none⟩=some (.string t122)∧w'.cell? ⟨gb129,6,none⟩=some (.string t123)∧w'.cell? ⟨gb129,7,none⟩=some (.string t124)∧w'.cell? ⟨gb129,8,none⟩=some (.int .i64 t125)∧w'.cell? ⟨gb129,9,none⟩=some (.int .i64 t126)∧w'.cell? ⟨gb129,10,none⟩=some (.int .i64 t127)) (fun hHeld=>?_);refine with_tabW dl15_ActionTells.tab5 dl15_ActionTells.bits5 (fun HT_ HW_=>?_);generalize w34.drew=w35 at BK101 BK116 BK129 HB hHeld ⊢;refine on_ 0 (some 28) rfl rfl HT_ (fun K hK=>?_);refine gn_ Tryz.func8 (dl15_fixed.calls _ _ (lb_ HLD HB) A16.out) ?_;intro w36 hb;replace BK101:=kb_ BK101 hb;replace BK116:=kb_ BK116 hb;replace BK129:=kb_ BK129 hb;replace HB:=bs_ HB hb;(try clear hb);refine hk_ hK (fun hHeld=>?_);clear hK K;refine nm_ ?_;refine pu_ 1 29 rfl rfl HT_ ?_;refine t_ 2 30 rfl rfl HT_ HW_ hHeld ?_;refine t_ 4 32 rfl rfl HT_ HW_ hHeld ?_;refine on_ 3 (some 31) rfl rfl HT_ (fun K hK=>?_);refine gn_ Tryz.func11 (action_May.calls _ _ _ _ _ _ _ _ _ _ _ _ _ (lb_ HLD HB) A18.out) ?_;intro w37 hb;replace BK101:=kb_ BK101 hb;replace BK116:=kb_ BK116 hb;replace BK129:=kb_ BK129 hb;replace HB:=bs_ HB hb;(try clear hb);refine hk_ hK (fun hHeld=>?_);clear hK K;refine nm_ ?_;refine on_ 5 (some 33) rfl rfl HT_ (fun K hK=>?_);refine gn_ Tryz.func12 (r15_May.calls _ _ _ _ _ _ _ _ _ _ _ _ _ A19.out) ?_;intro w38 hb;replace BK101:=kb_ BK101 hb;replace BK116:=kb_ BK116 hb;replace BK129:=kb_ BK129 hb;replace HB:=bs_ HB hb;(try clear hb);refine hk_ hK (fun hHeld=>?_);clear hK K;refine nm_ ?_;refine pu_ 6 34 rfl rfl HT_ ?_;refine pu_ 7 35 rfl rfl HT_ ?_;refine pu_ 8 36 rfl rfl HT_ ?_;refine t_ 9 37 rfl rfl HT_ HW_ hHeld ?_;refine t_ 11 39 rfl rfl HT_ HW_ hHeld ?_;refine on_ 10 (some 38) rfl rfl HT_ (fun K hK=>?_);refine gn_ Tryz.func13 (action_Print.calls _ _ _ _ _ _ _ _ _ _ _ _ _ (lb_ HLD HB) A21.out) ?_;intro w39 hb;replace BK101:=kb_ BK101 hb;replace BK116:=kb_ BK116 hb;replace BK129:=kb_ BK129 hb;replace HB:=bs_ HB hb;(try clear hb);refine hk_ hK (fun hHeld=>?_);clear hK K;refine nm_ ?_;refine on_ 12 (some 40) rfl rfl HT_ (fun K hK=>?_);refine gn_ Tryz.func14 (r15_Print.calls _ _ _ _ _ _ _ _ _ _ _ _ _ A22.out) ?_;intro w40 hb;replace BK101:=kb_ BK101 hb;replace BK116:=kb_ BK116 hb;replace BK129:=kb_ BK129 hb;replace HB:=bs_ HB hb;(try clear hb);refine hk_ hK (fun hHeld=>?_);clear hK K;refine nm_ ?_;refine pu_ 13 41 rfl rfl HT_ ?_;refine pu_ 14 42 rfl rfl HT_ ?_;refine pu_ 15 43 rfl rfl HT_ ?_;refine t_ 16 44 rfl rfl HT_ HW_ hHeld ?_;refine t_ 17 45 rfl rfl HT_ HW_ hHeld ?_;refine pu_ 18 46 rfl rfl HT_ ?_;refine pu_ 19 47 rfl rfl HT_ ?_;refine pu_ 20 48 rfl rfl HT_ ?_;refine pu_ 21 49 rfl rfl HT_ ?_;refine pu_ 22 50 rfl rfl HT_ ?_;refine pu_ 23 51 rfl rfl HT_ ?_;refine pu_ 24 52 rfl rfl HT_ ?_;refine pu_ 25 4 rfl rfl HT_ ?_;refine done_ (done_of HT_.out (by kernel_rfl)) ?_
        try go_wp2
        go_ret
        exact⟨er_,b_ HB.out⟩
       ·exact absurd (H.trans (congrArg some hr_.out)) (by decide)
      ·exact absurd (H.trans (congrArg some hr_.out)) (by decide)
     ·exact absurd (H.trans (congrArg some hr_.out)) (by decide)
    ·replace c17:=Bool.eq_false_iff.mpr c17;subst c17
     have H1:(some false)=some r:=by rw[if_neg (show ¬ (false=true) by decide)] at H;exact H
     exact absurd (H1.trans (congrArg some hr_.out)) (by decide)
end LActionTells
namespace LActionTells
end LActionTells
theorem pureActionTells (a0_0:ByteArray) (a0_1:Int) (a0_2 a0_3 a0_4 a0_5 a0_6 a0_7:ByteArray) (a0_8 a0_9 a0_10:Int) (a1:ByteArray)
  (w0_0:a0_0.size≤140737488351232) (w0_2:a0_2.size≤140737488351232) (w0_3:a0_3.size≤140737488351232) (w1:a1.size≤140737488351232) :
  ∃ k:Nat,LActionTells.dl15_ActionTells.f k a0_0 a0_1 a0_2 a0_3 a0_4 a0_5 a0_6 a0_7 a0_8 a0_9 a0_10 a1=some true:=by
 refine⟨0+1,?_⟩
 unfold LActionTells.dl15_ActionTells.f
 have hj:LActionTells.dl15_ActionTells.j0 (0+1) a1 true a0_0 a0_1 a0_2 a0_3 a0_4 a0_5 a0_6 a0_7 a0_8 a0_9 a0_10=some true:=by
  simp only[LActionTells.dl15_ActionTells.j0]
  rfl
 obtain⟨la,ea,ha⟩:=light_f (a0_1:=a0_1) (a0_4:=a0_4) (a0_5:=a0_5) (a0_6:=a0_6) (a0_7:=a0_7) (a0_8:=a0_8) (a0_9:=a0_9) (a0_10:=a0_10) w0_0 w0_2 w0_3
 rw[ea,ob_]
 cases la
 ·exact hj
 rw[if_pos rfl]
 by_cases hs:(a1.size:Int)>1000
 ·rw[decide_eq_true hs]
  exact hj
 rw[decide_eq_false hs]
 have sa:=smA_light (a1:=a0_1) (a8:=a0_8) (a9:=a0_9) (a10:=a0_10) (ha rfl)
 have r1:r15_Parse.f a1=some (flatA (parseAct a1)):=if_pos (by omega)
 have r2:r15_May.f a0_0 a0_1 a0_2 a0_3 a0_4 a0_5 a0_6 a0_7 a0_8 a0_9 a0_10=some (mayA (actV a0_0 a0_1 a0_2 a0_3 a0_4 a0_5 a0_6 a0_7 a0_8 a0_9 a0_10)):=if_pos sa
 have r3:r15_Print.f a0_0 a0_1 a0_2 a0_3 a0_4 a0_5 a0_6 a0_7 a0_8 a0_9 a0_10=some (printA (actV a0_0 a0_1 a0_2 a0_3 a0_4 a0_5 a0_6 a0_7 a0_8 a0_9 a0_10)):=if_pos sa
 clear hj
 simp only[LActionTells.dl15_ActionTells.j0]
 rw[if_neg (by decide),aParse (by omega),ob_,r1,ob_,show dl15_fixed.f=some true from rfl,ob_,if_pos rfl,aMay sa,ob_,r2,ob_,if_pos (beq_self_eq_true _),aPrint sa,ob_,r3,ob_,if_pos rfl]
 simp only[beq_self_eq_true,Bool.and_self,if_true]
end Go.Proofs.YtoghmeffpgbcfaaGreatDoor
section
open Go.RowKit Go.Proofs.YtoghmeffpgbcfaaGreatDoorW.PrintWords Go.Proofs.YtoghmeffpgbcfaaGreatDoorW.PrintLast Go.Proofs.YtoghmeffpgbcfaaGreatDoorW.PrintMore Go.Proofs.YtoghmeffpgbcfaaGreatDoor
namespace Go.Proofs.YtoghmeffpgbcfaaGreatDoor.actionTells
open Go.ChangeShapes Go.WideShapes Go.ChangeAt Go.RowKit
open Go.ChangeMaps (open_string shut_string)
theorem actT:ActOk Tryz.prog 25 23 9 3:=⟨_,_,_,_,_,_,_,_,_,_,_,⟨Tryz.underlying25,rfl,rfl,Tryz.underlying9,Tryz.underlying3,Tryz.underlying23,rfl,rfl,by kernel_rfl,by kernel_rfl,by kernel_rfl,by kernel_rfl⟩⟩
theorem lifted (os:Os) (started:os.Started) (H:Type) (enc:TypeId×Value→H) :
  ReturnsInHanded {} Tryz.checked os 3 .any (fun w args=>(Rows.actionTellsSpec.pre enc Tryz.prog Tryz.f3 Rows.actionTellsRow.domain false w args∧laidMetH Tryz.prog laidL w)∧sizedMet enc Tryz.prog Tryz.f3 (OpenSpec.ofChange Rows.actionTellsSpec) false w args)
   (Rows.actionTellsSpec.post enc Tryz.prog Tryz.f3 false true false false):=by
 refine wrap_shaped (C:=Tryz.checked) (X:=fun w _=>laidMetH Tryz.prog laidL w) (fun _ _ _ hh h=>h.of_heap hh) own started (by kernel_rfl) Tryz.func3
  (ChangeSpec.witness_shaped (enc:=enc) (C:=Tryz.checked) (os:=os) (X:=fun w _=>laidMetH Tryz.prog laidL w) false (World.laidAll Tryz.prog os laidL) #[.agg #[.string ByteArray.empty,.int .i64 0,.string ByteArray.empty,.string ByteArray.empty,.string ByteArray.empty,.string ByteArray.empty,.string ByteArray.empty,.string ByteArray.empty,.int .i64 0,.int .i64 0,.int .i64 0],.string ByteArray.empty] 8 (World.laidAll_os _ _ _) (World.shaped_of_ZipB (by kernel_rfl) (by kernel_rfl)) (by kernel_rfl) (by kernel_rfl) (by kernel_rfl) (door_met os _)) ?_
 intro W base args ds gs before hval0 hW _ hsz0 hL hsh
 have hsz:(DataW.weightsEach Tryz.prog (Tryz.f3.params.toList++Rows.actionTellsSpec.plain.varTypes Tryz.prog) (ds++gs)).all (·≤reachBytes)=true:=hsz0
 have hval:∀ (j:Nat) t v,Tryz.f3.params[j]?=some t→args[j]?=some v→Value.okWide Tryz.prog W .any base t v:=hval0
 have hW':=hW
 obtain⟨p,q,hA0,hV,rfl,hfz,hnd⟩:=hW
 have hA:DataW.TrodAll enc Tryz.prog W 0 (fun _=>true) true Tryz.f3.params.toList args.toList ds p:=hA0
 rw[Tryz.params3] at hA hval hsz
 obtain⟨v0,vs0,d0,ds0,p0,q0,hargs,rfl,rfl,h0,r0⟩:=trodAll_cons hA
 obtain⟨v1,vs1,d1,ds1,p1,q1,rfl,rfl,rfl,h1,r1⟩:=trodAll_cons r0
 obtain⟨rfl,rfl,rfl⟩:=trodAll_nil r1
 obtain rfl:args=#[v0,v1]:=by cases args;simp_all
 obtain⟨rfl,rfl⟩:=trodVars_none hV
 obtain⟨a0_0,a0_1,a0_2,a0_3,a0_4,a0_5,a0_6,a0_7,a0_8,a0_9,a0_10,rfl,rfl,rfl,y0⟩:=open_actQ actT (hval 0 25 v0 rfl rfl) h0
 have w0:=sized_actQ actT hsz (j:=0) rfl rfl
 obtain⟨a1,rfl,rfl,rfl,y1⟩:=open_string Tryz.underlying9 (hval 1 9 v1 rfl rfl) h1
 have w1:a1.size≤140737488351232:=by
  have z:=sized_string hsz (j:=1) (t:=9) rfl rfl
  rw[Array.length_toList] at z
  exact z
 clear hA0 hval0 hsz0 hsz
 obtain⟨k,hf⟩:=pureActionTells a0_0 a0_1 a0_2 a0_3 a0_4 a0_5 a0_6 a0_7 a0_8 a0_9 a0_10 a1 w0.1 w0.2.1 w0.2.2 w1
 refine(LActionTells.dl15_ActionTells.calls k a0_0 a0_1 a0_2 a0_3 a0_4 a0_5 a0_6 a0_7 a0_8 a0_9 a0_10 a1 true W (laid_of hL hsh) ⟨rfl⟩ hf).mono fun e W' ⟨he,bel⟩=>?_
 subst he
 exact⟨_,rfl,_,_,_,[],_,[],hW',trodAll_mk1 (shut_bool Tryz.underlying4 _),(trodAll_cons_mk (shut_actQ actT y0) (trodAll_cons_mk (shut_string Tryz.underlying9 y1) trodAll_mk0)),rfl,bel.frame _,fun h=>by cases h⟩
theorem over:Rows.ActionTellsSaid :=
 OpenClaim.holds_of_wide 3 Tryz.f3 rfl rfl rfl rfl rfl rfl rfl ⟨rfl,rfl,rfl,rfl,rfl⟩ rfl rfl rfl rfl rfl (by kernel_rfl) Tryz.func3 (by kernel_rfl)
  (od_ (by kernel_rfl)) (by unfold Func.isWrapper;first|(rw[if_pos (by decide +kernel)];kernel_rfl)|(rw[if_neg (by decide +kernel)];exact⟨rfl,rfl⟩))
  (fun os started H enc _=>lifted os started H enc)
theorem proved:Rows.ActionTellsCardSaid :=
 Claim7.holds_tied_plain_at .later [] [.data,.data,.data,.data,.sentinel,.sentinel,.pinned] true (true, "e49ae85bf9ddd41ebd5249cafc9df0e43b5f2c529efac24c3b6055c28f8729e6") true
  over (fun _ h=>by cases h) (by kernel_rfl) (fun _ h=>by cases h) actionTells_row_tie rfl ⟨rfl,rfl⟩ (by kernel_rfl) rfl
  (fun f fn hf hfn=>by
   obtain rfl:f=3:=Option.some.inj ((show Tryz.prog.funcNamed "debenture/debenturelaw15.ActionTells" = some 3 by kernel_rfl).symm.trans hf) |>.symm
   obtain rfl:fn=Tryz.f3:=(Option.some.inj (Tryz.func3.symm.trans hfn)).symm
   exact⟨by kernel_rfl,fun j t ht=>by
    rw[Tryz.params3] at ht
    have hm:t∈[25,9]:=by simpa using Array.mem_of_getElem? ht
    have hall:([25,9].all fun u=>!Tryz.prog.wantsStandIn u)=true:=by kernel_rfl
    exact(show Tryz.prog.wantsStandIn t=false by simpa using List.all_eq_true.1 hall t hm)⟩)
  (by kernel_rfl)
end Go.Proofs.YtoghmeffpgbcfaaGreatDoor.actionTells
namespace Go.Proofs.YtoghmeffpgbcfaaGreatDoor
theorem actionTells_holds:Rows.ActionTellsCardSaid:=actionTells.proved
#print axioms actionTells_holds
end Go.Proofs.YtoghmeffpgbcfaaGreatDoor
end