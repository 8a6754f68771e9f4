/-
Parts of the proof, in build order: Ref15Done, Pf150, Pf151, Pf152, Pf153, Pf15, Fixed15, Agg, AggA, Rowb.
-/
import Derived.Test.YtoghmeffpgbcfaaGreatDoorY7
import Derived.Test.YtoghmeffpgbcfaaGreatDoorRows
import Derived.LaidMore
import Derived.Stop.LaidErr
import Derived.Stop.Joined
import Derived.HandedShaped
import Derived.Lay
set_option linter.unusedVariables false
set_option linter.unusedSimpArgs false
set_option maxHeartbeats 64000000
set_option maxRecDepth 100000
namespace Go.Proofs.YtoghmeffpgbcfaaGreatDoor
open Go.RowKit Go.Proofs.YtoghmeffpgbcfaaGreatDoorW.PrintWords Go.Proofs.YtoghmeffpgbcfaaGreatDoorW.PrintLast Go.Proofs.YtoghmeffpgbcfaaGreatDoorW.PrintMore
def r15_May.f (a0_0:ByteArray) (a0_1:Int) (a0_2 a0_3 a0_4 a0_5 a0_6 a0_7:ByteArray) (a0_8 a0_9 a0_10:Int):Option Bool:=if smA (actV a0_0 a0_1 a0_2 a0_3 a0_4 a0_5 a0_6 a0_7 a0_8 a0_9 a0_10)=true then some (mayA (actV a0_0 a0_1 a0_2 a0_3 a0_4 a0_5 a0_6 a0_7 a0_8 a0_9 a0_10)) else none
theorem r15_May.calls (a0_0:ByteArray) (a0_1:Int) (a0_2 a0_3 a0_4 a0_5 a0_6 a0_7:ByteArray) (a0_8 a0_9 a0_10:Int) (r:Bool) (w:World) (h:r15_May.f a0_0 a0_1 a0_2 a0_3 a0_4 a0_5 a0_6 a0_7 a0_8 a0_9 a0_10=some r) :
  Calls Tryz.prog 12 #[.agg #[.string a0_0,.int .i64 a0_1,.string a0_2,.string a0_3,.string a0_4,.string a0_5,.string a0_6,.string a0_7,.int .i64 a0_8,.int .i64 a0_9,.int .i64 a0_10]] w fun e w'=>e=.returned (.bool r)∧Below w.heap.size w w':=by
 unfold r15_May.f at h
 split at h
 ·rename_i hp
  rw[← r15may_f hp 1000012 (nr_ _)] at h
  exact Pk.r15_May.calls _ a0_0 a0_1 a0_2 a0_3 a0_4 a0_5 a0_6 a0_7 a0_8 a0_9 a0_10 r w h
 ·cases h
def r15_Print.f (a0_0:ByteArray) (a0_1:Int) (a0_2 a0_3 a0_4 a0_5 a0_6 a0_7:ByteArray) (a0_8 a0_9 a0_10:Int):Option ByteArray:=if smA (actV a0_0 a0_1 a0_2 a0_3 a0_4 a0_5 a0_6 a0_7 a0_8 a0_9 a0_10)=true then some (printA (actV a0_0 a0_1 a0_2 a0_3 a0_4 a0_5 a0_6 a0_7 a0_8 a0_9 a0_10)) else none
theorem r15_Print.calls (a0_0:ByteArray) (a0_1:Int) (a0_2 a0_3 a0_4 a0_5 a0_6 a0_7:ByteArray) (a0_8 a0_9 a0_10:Int) (r:ByteArray) (w:World) (h:r15_Print.f a0_0 a0_1 a0_2 a0_3 a0_4 a0_5 a0_6 a0_7 a0_8 a0_9 a0_10=some r) :
  Calls Tryz.prog 14 #[.agg #[.string a0_0,.int .i64 a0_1,.string a0_2,.string a0_3,.string a0_4,.string a0_5,.string a0_6,.string a0_7,.int .i64 a0_8,.int .i64 a0_9,.int .i64 a0_10]] w fun e w'=>e=.returned (.string r)∧Below w.heap.size w w':=by
 unfold r15_Print.f at h
 split at h
 ·rename_i hp
  rw[← r15print_f hp 1000012 (nr_ _)] at h
  exact Pk.r15_Print.calls _ a0_0 a0_1 a0_2 a0_3 a0_4 a0_5 a0_6 a0_7 a0_8 a0_9 a0_10 r w h
 ·cases h
theorem rparse_calls (s:ByteArray) (w:World) (hs:s.size≤1000) :
  Calls Tryz.prog 10 #[.string s] w fun e w'=>e=.returned (.tuple #[cellsA (parseAct s).1,.int .i64 (parseAct s).2])∧Below w.heap.size w w':=by
 obtain⟨ws,h1,h2⟩:=rwords_f (s:=s) (by omega) 2000010 (nr_ _)
 obtain⟨z1,z2,z3⟩:=splitM_size 11 s.data.toList
 rw[← h2,List.length_map] at z1 z2
 have hz:∀ i:Nat,(ws.getD i ⟨#[]⟩).size≤1000:=by
  intro i
  have e:=wAt_map ws i
  rw[size_len,← e,h2]
  unfold wAt
  rw[List.getD_eq_getElem?_getD]
  cases he:(splitM 11 s.data.toList)[i]? with
  | none=>exact Nat.zero_le _
  | some v =>
   have:=z3 v (List.mem_of_getElem? he)
   rw[← size_len] at this
   exact Nat.le_trans this hs
 have h:=rparse_walk s _ ws 2000010 w ⟨h1⟩ z2 z1 ⟨rfl⟩ ⟨hz⟩
 rw[h2,outM] at h
 exact h
def r15_Parse.f (a0:ByteArray):Option FlatA:=if a0.size≤1000 then some (flatA (parseAct a0)) else none
theorem r15_Parse.calls (a0 r1:ByteArray) (r2:Int) (r3 r4 r5 r6 r7 r8:ByteArray) (r9 r10 r11 r12:Int) (w:World) (h:r15_Parse.f a0=some (r1,r2,r3,r4,r5,r6,r7,r8,r9,r10,r11,r12)) :
  Calls Tryz.prog 10 #[.string a0] w fun e w'=>e=.returned (.tuple #[.agg #[.string r1,.int .i64 r2,.string r3,.string r4,.string r5,.string r6,.string r7,.string r8,.int .i64 r9,.int .i64 r10,.int .i64 r11],.int .i64 r12])∧Below w.heap.size w w':=by
 unfold r15_Parse.f at h
 split at h
 ·rename_i hs
  have h':=Option.some.inj h
  unfold flatA at h'
  simp only[Prod.mk.injEq] at h'
  obtain⟨rfl,rfl,rfl,rfl,rfl,rfl,rfl,rfl,rfl,rfl,rfl,rfl⟩:=h'
  exact rparse_calls a0 w hs
 ·cases h
attribute [local go_sem] max2_int min2_int max_two min_two max_three min_three max_four min_four
namespace Pf15
def errW:Option Int→Value
 | none=>.nilIface
 | some c=>.iface 0 (.int .i64 c)
theorem errW_none:errW none=.nilIface:=rfl
theorem errW_some (c:Int):errW (some c)=.iface 0 (.int .i64 c):=rfl
theorem eqA23 (d:Nat) (w:World) (x0 y0 x1 y1:ByteArray) :
  (Op.equalIn (d+2) 23 (.agg #[.string x0,.string x1]) (.agg #[.string y0,.string y1])).run Tryz.prog w=.ok (x0.toList == y0.toList&&(x1.toList == y1.toList)) w:=by
 refine eqA_of Tryz.underlying23 (by kernel_rfl) ?_;refine eqf_cons (by rfl) (by go_simp;rfl) (by go_simp;rfl) (by go_simp) ?_;exact eqf_last (by rfl) (by go_simp;rfl) (by go_simp;rfl) (by go_simp)
theorem eqA25 (d:Nat) (w:World) (x0 y0:ByteArray) (x1 y1:Int) (x2 y2 x3 y3 x4 y4 x5 y5 x6 y6 x7 y7:ByteArray) (x8 y8 x9 y9 x10 y10:Int) :
  (Op.equalIn (d+3) 25 (.agg #[.string x0,.int .i64 x1,.string x2,.string x3,.string x4,.string x5,.string x6,.string x7,.int .i64 x8,.int .i64 x9,.int .i64 x10]) (.agg #[.string y0,.int .i64 y1,.string y2,.string y3,.string y4,.string y5,.string y6,.string y7,.int .i64 y8,.int .i64 y9,.int .i64 y10])).run Tryz.prog w=.ok (x0.toList == y0.toList&&(x1 == y1&&(x2.toList == y2.toList&&(x3.toList == y3.toList&&((x4.toList == y4.toList&&(x5.toList == y5.toList))&&((x6.toList == y6.toList&&(x7.toList == y7.toList))&&(x8 == y8&&(x9 == y9&&(x10 == y10))))))))) w:=by
 refine eqA_of Tryz.underlying25 (by kernel_rfl) ?_;refine eqf_cons (by rfl) (by go_simp;rfl) (by go_simp;rfl) (by go_simp) ?_;refine eqf_cons (by rfl) (by go_simp;rfl) (by go_simp;rfl) (by go_simp) ?_;refine eqf_cons (by rfl) (by go_simp;rfl) (by go_simp;rfl) (by go_simp) ?_;refine eqf_cons (by rfl) (by go_simp;rfl) (by go_simp;rfl) (by go_simp) ?_;refine eqf_cons (by rfl) (by go_simp) (by go_simp) (eqA23 (d+0) w _ _ _ _) ?_;refine eqf_cons (by rfl) (by go_simp) (by go_simp) (eqA23 (d+0) w _ _ _ _) ?_;refine eqf_cons (by rfl) (by go_simp;rfl) (by go_simp;rfl) (by go_simp) ?_;refine eqf_cons (by rfl) (by go_simp;rfl) (by go_simp;rfl) (by go_simp) ?_;exact eqf_last (by rfl) (by go_simp;rfl) (by go_simp;rfl) (by go_simp)
end Pf15
namespace Pf15
attribute [local go_sem high] eqA25
def dl15_fixed.f  : Option (Bool):=(action_Parse.f (⟨#[109,101,114,103,101,114,32,109,49,32,120,32,53,32,54,32,57,32,121,32,48,46,53,32,50]⟩:ByteArray)).bind fun bt101=>((action_Parse.f (⟨#[115,112,108,105,116,32,115,49,32,120,32,49,32,49,32,49,32,51,47,50]⟩:ByteArray)).bind fun bt114=>((action_Parse.f (⟨#[115,112,108,105,116,32,115,49,32,120,32,50,32,49,32,49,32,51]⟩:ByteArray)).bind fun bt127=>((action_Parse.f (⟨#[99,97,115,104,32,100,49,32,120,32,49,32,49,32,49,32,48]⟩:ByteArray)).bind fun bt140=>((action_Parse.f (⟨#[115,112,105,110,32,112,49,32,120,32,49,32,49,32,49,32,120,32,49]⟩:ByteArray)).bind fun bt153=>(if bt101.2.2.2.2.2.2.2.2.2.2.2=0 then ((r3_One.f 1 2).bind fun bt166=>((r3_Of.f 2).bind fun bt168=>(if (bt101.1.toList == ([109,49]:List UInt8)&&(bt101.2.1 == 4&&(bt101.2.2.1.toList == ([120]:List UInt8)&&(bt101.2.2.2.1.toList == ([121]:List UInt8)&&((bt101.2.2.2.2.1.toList == bt166.1.toList&&(bt101.2.2.2.2.2.1.toList == bt166.2.toList))&&((bt101.2.2.2.2.2.2.1.toList == bt168.1.toList&&(bt101.2.2.2.2.2.2.2.1.toList == bt168.2.toList))&&(bt101.2.2.2.2.2.2.2.2.1 == 5&&(bt101.2.2.2.2.2.2.2.2.2.1 == 6&&(bt101.2.2.2.2.2.2.2.2.2.2.1 == 9)))))))))=true then (if bt114.2.2.2.2.2.2.2.2.2.2.2=0 then ((action_Print.f bt114.1 bt114.2.1 bt114.2.2.1 bt114.2.2.2.1 bt114.2.2.2.2.1 bt114.2.2.2.2.2.1 bt114.2.2.2.2.2.2.1 bt114.2.2.2.2.2.2.2.1 bt114.2.2.2.2.2.2.2.2.1 bt114.2.2.2.2.2.2.2.2.2.1 bt114.2.2.2.2.2.2.2.2.2.2.1).bind fun t170=>(if t170.toList=([115,112,108,105,116,32,115,49,32,120,32,49,32,49,32,49,32,49,46,53]:List UInt8) then (if bt127.2.2.2.2.2.2.2.2.2.2.2=150 then (if bt140.2.2.2.2.2.2.2.2.2.2.2=150 then (if bt153.2.2.2.2.2.2.2.2.2.2.2=150 then ((action_May.f bt101.1 bt101.2.1 bt101.2.2.1 bt101.2.2.2.1 bt101.2.2.2.2.1 bt101.2.2.2.2.2.1 bt101.2.2.2.2.2.2.1 bt101.2.2.2.2.2.2.2.1 bt101.2.2.2.2.2.2.2.2.1 bt101.2.2.2.2.2.2.2.2.2.1 bt101.2.2.2.2.2.2.2.2.2.2.1).bind fun t171=>(if t171=true then ((action_May.f (⟨#[]⟩:ByteArray) 0 (⟨#[]⟩:ByteArray) (⟨#[]⟩:ByteArray) (⟨#[]⟩:ByteArray) (⟨#[]⟩:ByteArray) (⟨#[]⟩:ByteArray) (⟨#[]⟩:ByteArray) 0 0 0).bind fun t172=>(some (!t172))) else (some false))) else (some false)) else (some false)) else (some false)) else (some false))) else (some false)) else (some false)))) else (some false))))))
def dl15_fixed.T6:Bool×List (List Nat×List Nat):=(true,[([],[]),([0],[0]),([1],[1]),([2],[2]),([2,2],[2]),([4,2],[2]),([4,5,2],[2,4,5]),([3,6,2],[2,3,6]),([2,7],[2,7]),([8,5],[8]),([9],[9]),([10,9],[9,10]),([9,11],[9,11]),([12,9],[12]),([13],[13]),([14,13,13],[13,14]),([15,13],[13,15]),([13,16],[13,16]),([17,15],[17]),([18],[18]),([19,18],[18,19]),([18,20],[18,20]),([21,18],[21]),([22],[22]),([23,22],[22,23]),([22,24],[22,24]),([25,22],[25]),([26],[26]),([27,26],[26,27]),([26,28],[26,28]),([29,26],[29]),([30],[30]),([31,30,30],[30,31]),([30,32],[30,32]),([33,32],[33]),([34],[34]),([35,34,34],[34,35]),([36,34],[34,36]),([34,37],[34,37]),([38,36,0,1,2,3,4,5,6,7,8,9,10,11,12,13,14,15,16,17,18,19,20,21,22,23,24,25,26,27,28,29,30,31,32,33,34,35,36,37,38],[38])])
def dl15_fixed.B6:List Nat:=[0,1,3,7,7,23,55,127,255,511,1023,2047,4095,8191,16383,32767,65535,131071,262143,524287,1048575,2097151,4194303,8388607,16777215,33554431,67108863,134217727,268435455,536870911,1073741823,2147483647,4294967295,8589934591,17179869183,34359738367,68719476735,137438953471,274877906943,549755813887]
theorem dl15_fixed.tab6:rtab .any (opsOf Tryz.f8 6)=dl15_fixed.T6:=by kernel_rfl
theorem dl15_fixed.bits6:waitsOk dl15_fixed.T6.2 dl15_fixed.B6=true:=by kernel_rfl
theorem dl15_fixed.calls  (r:Bool) (w:World) (hL_:Laid w) (hr_:Aside0 (r=true)) (h:dl15_fixed.f  = some r) :
  Calls Tryz.prog 8 #[] w fun e w'=>e=.returned (.bool r)∧Below w.heap.size w w':=by
 have hu25:=Tryz.underlying25;have HLD:=ak_ hL_;clear hL_;have HB:=ak_ (Below.refl w.heap.size w);have H:=h;unfold dl15_fixed.f at H;clear h;replace H:=bi_ H;obtain⟨⟨t101,t102,t103,t104,t105,t106,t107,t108,t109,t110,t111,t112⟩,A1,H⟩:=H;(try dsimp only at H);replace H:=bi_ H;obtain⟨⟨t114,t115,t116,t117,t118,t119,t120,t121,t122,t123,t124,t125⟩,A2,H⟩:=H;(try dsimp only at H);replace H:=bi_ H;obtain⟨⟨t127,t128,t129,t130,t131,t132,t133,t134,t135,t136,t137,t138⟩,A3,H⟩:=H;(try dsimp only at H);replace H:=bi_ H;obtain⟨⟨t140,t141,t142,t143,t144,t145,t146,t147,t148,t149,t150,t151⟩,A4,H⟩:=H;(try dsimp only at H);replace H:=bi_ H;obtain⟨⟨t153,t154,t155,t156,t157,t158,t159,t160,t161,t162,t163,t164⟩,A5,H⟩:=H;(try dsimp only at H);replace H:=bw_ H;rcases H with ⟨c6,H⟩|⟨c6,H⟩
 ·have c6b0:(t112 == 0)=true:=beq_iff_eq.mpr c6;have c6b1:(t112 != 0)=false:=bne_eq_false_iff_eq.mpr c6;clear c6;replace H:=bi_ H;obtain⟨⟨t166,t167⟩,A7,H⟩:=H;(try dsimp only at H);replace H:=bi_ H;obtain⟨⟨t168,t169⟩,A8,H⟩:=H;(try dsimp only at H);replace H:=bw_ H;rcases H with ⟨c9,H⟩|⟨c9,H⟩
  ·have c9b0:(t101.toList == ([109,49]:List UInt8)&&(t102 == 4&&(t103.toList == ([120]:List UInt8)&&(t104.toList == ([121]:List UInt8)&&((t105.toList == t166.toList&&(t106.toList == t167.toList))&&((t107.toList == t168.toList&&(t108.toList == t169.toList))&&(t109 == 5&&(t110 == 6&&(t111 == 9)))))))))=true:=c9;(try(have c9b1:decide (t101.toList=([109,49]:List UInt8)&&(t102 == 4&&(t103.toList == ([120]:List UInt8)&&(t104.toList == ([121]:List UInt8)&&((t105.toList == t166.toList&&(t106.toList == t167.toList))&&((t107.toList == t168.toList&&(t108.toList == t169.toList))&&(t109 == 5&&(t110 == 6&&(t111 == 9)))))))))=true:=by simpa using c9));(try(have c9b2:(t101.toList == ([109,49]:List UInt8)&&(t102 == 4&&(t103.toList == ([120]:List UInt8)&&(t104.toList == ([121]:List UInt8)&&((t105.toList == t166.toList&&(t106.toList == t167.toList))&&((t107.toList == t168.toList&&(t108.toList == t169.toList))&&(t109 == 5&&(t110 == 6&&(t111 == 9)))))))))=true:=by simpa using c9));clear c9;replace H:=bw_ H;rcases H with ⟨c10,H⟩|⟨c10,H⟩
   ·have c10b0:(t125 == 0)=true:=beq_iff_eq.mpr c10;have c10b1:(t125 != 0)=false:=bne_eq_false_iff_eq.mpr c10;clear c10;replace H:=bi_ H;obtain⟨t170,A11,H⟩:=H;replace H:=bw_ H;rcases H with ⟨c12,H⟩|⟨c12,H⟩
    ·have c12b0:(t170.toList == ([115,112,108,105,116,32,115,49,32,120,32,49,32,49,32,49,32,49,46,53]:List UInt8))=true:=beq_iff_eq.mpr c12;have c12b1:(t170.toList != ([115,112,108,105,116,32,115,49,32,120,32,49,32,49,32,49,32,49,46,53]:List UInt8))=false:=bne_eq_false_iff_eq.mpr c12;clear c12;replace H:=bw_ H;rcases H with ⟨c13,H⟩|⟨c13,H⟩
     ·have c13b0:(t138 == 150)=true:=beq_iff_eq.mpr c13;have c13b1:(t138 != 150)=false:=bne_eq_false_iff_eq.mpr c13;clear c13;replace H:=bw_ H;rcases H with ⟨c14,H⟩|⟨c14,H⟩
      ·have c14b0:(t151 == 150)=true:=beq_iff_eq.mpr c14;have c14b1:(t151 != 150)=false:=bne_eq_false_iff_eq.mpr c14;clear c14;replace H:=bw_ H;rcases H with ⟨c15,H⟩|⟨c15,H⟩
       ·have c15b0:(t164 == 150)=true:=beq_iff_eq.mpr c15;have c15b1:(t164 != 150)=false:=bne_eq_false_iff_eq.mpr c15;clear c15;replace H:=bi_ H;obtain⟨t171,A16,H⟩:=H;by_cases c17:t171=true
        ·subst c17;rw[if_pos rfl] at H;replace H:=bi_ H;obtain⟨t172,A18,H⟩:=H;obtain rfl:=oi_ H;go_in
         try go_wp2_with (first|(refine gm_ 12 Tryz.func9 (action_Parse.calls _ _ _ _ _ _ _ _ _ _ _ _ _ _ (lb_ HLD HB) A1.out) ?_;intro w19 hb;replace HB:=bs_ HB hb;(try clear hb))|(refine bf_ 1 #[.string ⟨#[]⟩,.int .i64 0,.string ⟨#[]⟩,.string ⟨#[]⟩,.string ⟨#[]⟩,.string ⟨#[]⟩,.string ⟨#[]⟩,.string ⟨#[]⟩,.int .i64 0,.int .i64 0,.int .i64 0] 25 HB ?_;clear HB;intro gb113 w20 BK113 GW113 HB;have hz21:=cs11_ BK113)|(refine gm_ 16 Tryz.func9 (action_Parse.calls _ _ _ _ _ _ _ _ _ _ _ _ _ _ (lb_ HLD HB) A2.out) ?_;intro w22 hb;replace BK113:=ak_ (blk_below (g:=gb113) (o:=.cells #[.string t101,.int .i64 t102,.string t103,.string t104,.string t105,.string t106,.string t107,.string t108,.int .i64 t109,.int .i64 t110,.int .i64 t111] 25 (0,0)) (rq_ BK113.out) hb);replace HB:=bs_ HB hb;(try clear hb))|(refine bg_ 3 #[.string ⟨#[]⟩,.int .i64 0,.string ⟨#[]⟩,.string ⟨#[]⟩,.string ⟨#[]⟩,.string ⟨#[]⟩,.string ⟨#[]⟩,.string ⟨#[]⟩,.int .i64 0,.int .i64 0,.int .i64 0] 25 HB ?_;clear HB;intro gb126 w23 hg hb BK126 GW126 HB;have NB113_126:=nl_ BK113 hg;have NB126_113:=ng_ BK113 hg;replace BK113:=kb_ BK113 hb;clear hb hg;have hnb24:=NB126_113.out;have hnc24:=NB113_126.out;have hz25:=cs11_ BK126)|(refine gm_ 20 Tryz.func9 (action_Parse.calls _ _ _ _ _ _ _ _ _ _ _ _ _ _ (lb_ HLD HB) A3.out) ?_;intro w26 hb;replace BK113:=ak_ (blk_below (g:=gb113) (o:=.cells #[.string t101,.int .i64 t102,.string t103,.string t104,.string t105,.string t106,.string t107,.string t108,.int .i64 t109,.int .i64 t110,.int .i64 t111] 25 (0,0)) (fq_ BK113.out) hb);replace BK126:=ak_ (blk_below (g:=gb126) (o:=.cells #[.string t114,.int .i64 t115,.string t116,.string t117,.string t118,.string t119,.string t120,.string t121,.int .i64 t122,.int .i64 t123,.int .i64 t124] 25 (0,0)) (rq_ BK126.out) hb);replace HB:=bs_ HB hb;(try clear hb))|(refine bg_ 5 #[.string ⟨#[]⟩,.int .i64 0,.string ⟨#[]⟩,.string ⟨#[]⟩,.string ⟨#[]⟩,.string ⟨#[]⟩,.string ⟨#[]⟩,.string ⟨#[]⟩,.int .i64 0,.int .i64 0,.int .i64 0] 25 HB ?_;clear HB;intro gb139 w27 hg hb BK139 GW139 HB;have NB113_139:=nl_ BK113 hg;have NB139_113:=ng_ BK113 hg;have NB126_139:=nl_ BK126 hg;have NB139_126:=ng_ BK126 hg;replace BK113:=kb_ BK113 hb;replace BK126:=kb_ BK126 hb;clear hb hg;have hnb28:=NB139_113.out;have hnc28:=NB113_139.out;have hnb29:=NB139_126.out;have hnc29:=NB126_139.out;have hz30:=cs11_ BK139)|(refine gm_ 24 Tryz.func9 (action_Parse.calls _ _ _ _ _ _ _ _ _ _ _ _ _ _ (lb_ HLD HB) A4.out) ?_;intro w31 hb;replace BK113:=ak_ (blk_below (g:=gb113) (o:=.cells #[.string t101,.int .i64 t102,.string t103,.string t104,.string t105,.string t106,.string t107,.string t108,.int .i64 t109,.int .i64 t110,.int .i64 t111] 25 (0,0)) (fq_ BK113.out) hb);replace BK126:=ak_ (blk_below (g:=gb126) (o:=.cells #[.string t114,.int .i64 t115,.string t116,.string t117,.string t118,.string t119,.string t120,.string t121,.int .i64 t122,.int .i64 t123,.int .i64 t124] 25 (0,0)) (fq_ BK126.out) hb);replace BK139:=ak_ (blk_below (g:=gb139) (o:=.cells #[.string t127,.int .i64 t128,.string t129,.string t130,.string t131,.string t132,.string t133,.string t134,.int .i64 t135,.int .i64 t136,.int .i64 t137] 25 (0,0)) (rq_ BK139.out) hb);replace HB:=bs_ HB hb;(try clear hb))|(refine bg_ 7 #[.string ⟨#[]⟩,.int .i64 0,.string ⟨#[]⟩,.string ⟨#[]⟩,.string ⟨#[]⟩,.string ⟨#[]⟩,.string ⟨#[]⟩,.string ⟨#[]⟩,.int .i64 0,.int .i64 0,.int .i64 0] 25 HB ?_;clear HB;intro gb152 w32 hg hb BK152 GW152 HB;have NB113_152:=nl_ BK113 hg;have NB152_113:=ng_ BK113 hg;have NB126_152:=nl_ BK126 hg;have NB152_126:=ng_ BK126 hg;have NB139_152:=nl_ BK139 hg;have NB152_139:=ng_ BK139 hg;replace BK113:=kb_ BK113 hb;replace BK126:=kb_ BK126 hb;replace BK139:=kb_ BK139 hb;clear hb hg;have hnb33:=NB152_113.out;have hnc33:=NB113_152.out;have hnb34:=NB152_126.out;have hnc34:=NB126_152.out;have hnb35:=NB152_139.out;have hnc35:=NB139_152.out;have hz36:=cs11_ BK152)|(refine gm_ 28 Tryz.func9 (action_Parse.calls _ _ _ _ _ _ _ _ _ _ _ _ _ _ (lb_ HLD HB) A5.out) ?_;intro w37 hb;replace BK113:=ak_ (blk_below (g:=gb113) (o:=.cells #[.string t101,.int .i64 t102,.string t103,.string t104,.string t105,.string t106,.string t107,.string t108,.int .i64 t109,.int .i64 t110,.int .i64 t111] 25 (0,0)) (fq_ BK113.out) hb);replace BK126:=ak_ (blk_below (g:=gb126) (o:=.cells #[.string t114,.int .i64 t115,.string t116,.string t117,.string t118,.string t119,.string t120,.string t121,.int .i64 t122,.int .i64 t123,.int .i64 t124] 25 (0,0)) (fq_ BK126.out) hb);replace BK139:=ak_ (blk_below (g:=gb139) (o:=.cells #[.string t127,.int .i64 t128,.string t129,.string t130,.string t131,.string t132,.string t133,.string t134,.int .i64 t135,.int .i64 t136,.int .i64 t137] 25 (0,0)) (fq_ BK139.out) hb);replace BK152:=ak_ (blk_below (g:=gb152) (o:=.cells #[.string t140,.int .i64 t141,.string t142,.string t143,.string t144,.string t145,.string t146,.string t147,.int .i64 t148,.int .i64 t149,.int .i64 t150] 25 (0,0)) (rq_ BK152.out) hb);replace HB:=bs_ HB hb;(try clear hb))|(refine bg_ 9 #[.string ⟨#[]⟩,.int .i64 0,.string ⟨#[]⟩,.string ⟨#[]⟩,.string ⟨#[]⟩,.string ⟨#[]⟩,.string ⟨#[]⟩,.string ⟨#[]⟩,.int .i64 0,.int .i64 0,.int .i64 0] 25 HB ?_;clear HB;intro gb165 w38 hg hb BK165 GW165 HB;have NB113_165:=nl_ BK113 hg;have NB165_113:=ng_ BK113 hg;have NB126_165:=nl_ BK126 hg;have NB165_126:=ng_ BK126 hg;have NB139_165:=nl_ BK139 hg;have NB165_139:=ng_ BK139 hg;have NB152_165:=nl_ BK152 hg;have NB165_152:=ng_ BK152 hg;replace BK113:=kb_ BK113 hb;replace BK126:=kb_ BK126 hb;replace BK139:=kb_ BK139 hb;replace BK152:=kb_ BK152 hb;clear hb hg;have hnb39:=NB165_113.out;have hnc39:=NB113_165.out;have hnb40:=NB165_126.out;have hnc40:=NB126_165.out;have hnb41:=NB165_139.out;have hnc41:=NB139_165.out;have hnb42:=NB165_152.out;have hnc42:=NB152_165.out;have hz43:=cs11_ BK165))
         have n0_:Aside0 ((((((((((((w38.setCell ⟨gb165,0,none⟩ (.string t153)).setCell ⟨gb165,1,none⟩ (.int .i64 t154)).setCell ⟨gb165,2,none⟩ (.string t155)).setCell ⟨gb165,3,none⟩ (.string t156)).setCell ⟨gb165,4,none⟩ (.string t157)).setCell ⟨gb165,5,none⟩ (.string t158)).setCell ⟨gb165,6,none⟩ (.string t159)).setCell ⟨gb165,7,none⟩ (.string t160)).setCell ⟨gb165,8,none⟩ (.int .i64 t161)).setCell ⟨gb165,9,none⟩ (.int .i64 t162)).setCell ⟨gb165,10,none⟩ (.int .i64 t163)).heap[gb113]?=some (.cells #[.string t101,.int .i64 t102,.string t103,.string t104,.string t105,.string t106,.string t107,.string t108,.int .i64 t109,.int .i64 t110,.int .i64 t111] 25 (0,0))):=⟨fq_ BK113.out⟩;have n1_:Aside0 ((((((((((((w38.setCell ⟨gb165,0,none⟩ (.string t153)).setCell ⟨gb165,1,none⟩ (.int .i64 t154)).setCell ⟨gb165,2,none⟩ (.string t155)).setCell ⟨gb165,3,none⟩ (.string t156)).setCell ⟨gb165,4,none⟩ (.string t157)).setCell ⟨gb165,5,none⟩ (.string t158)).setCell ⟨gb165,6,none⟩ (.string t159)).setCell ⟨gb165,7,none⟩ (.string t160)).setCell ⟨gb165,8,none⟩ (.int .i64 t161)).setCell ⟨gb165,9,none⟩ (.int .i64 t162)).setCell ⟨gb165,10,none⟩ (.int .i64 t163)).heap[gb126]?=some (.cells #[.string t114,.int .i64 t115,.string t116,.string t117,.string t118,.string t119,.string t120,.string t121,.int .i64 t122,.int .i64 t123,.int .i64 t124] 25 (0,0))):=⟨fq_ BK126.out⟩;have n2_:Aside0 ((((((((((((w38.setCell ⟨gb165,0,none⟩ (.string t153)).setCell ⟨gb165,1,none⟩ (.int .i64 t154)).setCell ⟨gb165,2,none⟩ (.string t155)).setCell ⟨gb165,3,none⟩ (.string t156)).setCell ⟨gb165,4,none⟩ (.string t157)).setCell ⟨gb165,5,none⟩ (.string t158)).setCell ⟨gb165,6,none⟩ (.string t159)).setCell ⟨gb165,7,none⟩ (.string t160)).setCell ⟨gb165,8,none⟩ (.int .i64 t161)).setCell ⟨gb165,9,none⟩ (.int .i64 t162)).setCell ⟨gb165,10,none⟩ (.int .i64 t163)).heap[gb139]?=some (.cells #[.string t127,.int .i64 t128,.string t129,.string t130,.string t131,.string t132,.string t133,.string t134,.int .i64 t135,.int .i64 t136,.int .i64 t137] 25 (0,0))):=⟨fq_ BK139.out⟩;have n3_:Aside0 ((((((((((((w38.setCell ⟨gb165,0,none⟩ (.string t153)).setCell ⟨gb165,1,none⟩ (.int .i64 t154)).setCell ⟨gb165,2,none⟩ (.string t155)).setCell ⟨gb165,3,none⟩ (.string t156)).setCell ⟨gb165,4,none⟩ (.string t157)).setCell ⟨gb165,5,none⟩ (.string t158)).setCell ⟨gb165,6,none⟩ (.string t159)).setCell ⟨gb165,7,none⟩ (.string t160)).setCell ⟨gb165,8,none⟩ (.int .i64 t161)).setCell ⟨gb165,9,none⟩ (.int .i64 t162)).setCell ⟨gb165,10,none⟩ (.int .i64 t163)).heap[gb152]?=some (.cells #[.string t140,.int .i64 t141,.string t142,.string t143,.string t144,.string t145,.string t146,.string t147,.int .i64 t148,.int .i64 t149,.int .i64 t150] 25 (0,0))):=⟨fq_ BK152.out⟩;have n4_:Aside0 ((((((((((((w38.setCell ⟨gb165,0,none⟩ (.string t153)).setCell ⟨gb165,1,none⟩ (.int .i64 t154)).setCell ⟨gb165,2,none⟩ (.string t155)).setCell ⟨gb165,3,none⟩ (.string t156)).setCell ⟨gb165,4,none⟩ (.string t157)).setCell ⟨gb165,5,none⟩ (.string t158)).setCell ⟨gb165,6,none⟩ (.string t159)).setCell ⟨gb165,7,none⟩ (.string t160)).setCell ⟨gb165,8,none⟩ (.int .i64 t161)).setCell ⟨gb165,9,none⟩ (.int .i64 t162)).setCell ⟨gb165,10,none⟩ (.int .i64 t163)).heap[gb165]?=some (.cells #[.string t153,.int .i64 t154,.string t155,.string t156,.string t157,.string t158,.string t159,.string t160,.int .i64 t161,.int .i64 t162,.int .i64 t163] 25 (0,0))):=⟨rq_ BK165.out⟩;have n5_:Aside0 (Below w.heap.size w (((((((((((w38.setCell ⟨gb165,0,none⟩ (.string t153)).setCell ⟨gb165,1,none⟩ (.int .i64 t154)).setCell ⟨gb165,2,none⟩ (.string t155)).setCell ⟨gb165,3,none⟩ (.string t156)).setCell ⟨gb165,4,none⟩ (.string t157)).setCell ⟨gb165,5,none⟩ (.string t158)).setCell ⟨gb165,6,none⟩ (.string t159)).setCell ⟨gb165,7,none⟩ (.string t160)).setCell ⟨gb165,8,none⟩ (.int .i64 t161)).setCell ⟨gb165,9,none⟩ (.int .i64 t162)).setCell ⟨gb165,10,none⟩ (.int .i64 t163))):=⟨b_ HB.out⟩;(try clear BK113);(try clear BK126);(try clear BK139);(try clear BK152);(try clear BK165);(try clear HB);generalize (((((((((((w38.setCell ⟨gb165,0,none⟩ (.string t153)).setCell ⟨gb165,1,none⟩ (.int .i64 t154)).setCell ⟨gb165,2,none⟩ (.string t155)).setCell ⟨gb165,3,none⟩ (.string t156)).setCell ⟨gb165,4,none⟩ (.string t157)).setCell ⟨gb165,5,none⟩ (.string t158)).setCell ⟨gb165,6,none⟩ (.string t159)).setCell ⟨gb165,7,none⟩ (.string t160)).setCell ⟨gb165,8,none⟩ (.int .i64 t161)).setCell ⟨gb165,9,none⟩ (.int .i64 t162)).setCell ⟨gb165,10,none⟩ (.int .i64 t163))=w44 at n0_ n1_ n2_ n3_ n4_ n5_ ⊢;have BK113:=n0_;have BK126:=n1_;have BK139:=n2_;have BK152:=n3_;have BK165:=n4_;have HB:=n5_;clear n0_ n1_ n2_ n3_ n4_ n5_;replace BK113:=ak_ (blk_drew BK113.out);replace BK126:=ak_ (blk_drew BK126.out);replace BK139:=ak_ (blk_drew BK139.out);replace BK152:=ak_ (blk_drew BK152.out);replace BK165:=ak_ (blk_drew BK165.out);replace HB:=ak_ (below_drew1 HB.out);refine sa_ 40 (fun w'=>w'.cell? ⟨gb113,0,none⟩=some (.string t101)∧w'.cell? ⟨gb113,1,none⟩=some (.int .i64 t102)∧w'.cell? ⟨gb113,2,none⟩=some (.string t103)∧w'.cell? ⟨gb113,3,none⟩=some (.string t104)∧w'.cell? ⟨gb113,4,none⟩=some (.string t105)∧w'.cell? ⟨gb113,5,none⟩=some (.string t106)∧w'.cell? ⟨gb113,6,none⟩=some (.string t107)∧w'.cell? ⟨gb113,7,none⟩=some (.string t108)∧w'.cell? ⟨gb113,8,none⟩=some (.int .i64 t109)∧w'.cell? ⟨gb113,9,none⟩=some (.int .i64 t110)∧w'.cell? ⟨gb113,10,none⟩=some (.int .i64 t111)∧w'.cell? ⟨gb126,0,none⟩=some (.string t114)∧w'.cell? ⟨gb126,1,none⟩=some (.int .i64 t115)∧w'.cell? ⟨gb126,2,none⟩=some (.string t116)∧w'.cell? ⟨gb126,3,none⟩=some (.string t117)∧w'.cell? ⟨gb126,4,none⟩=some (.string t118)∧w'.cell? ⟨gb126,5,none⟩=some (.string t119)∧w'.cell? ⟨gb126,6,none⟩=some (.string t120)∧w'.cell? ⟨gb126,7,none⟩=some (.string t121)∧w'.cell? ⟨gb126,8,none⟩=some (.int .i64 t122)∧w'.cell? ⟨gb126,9,none⟩=some (.int .i64 t123)∧w'.cell? ⟨gb126,10,none⟩=some (.int .i64 t124)) (fun hHeld=>?_);refine with_tabW dl15_fixed.tab6 dl15_fixed.bits6 (fun HT_ HW_=>?_);generalize w44.drew=w45 at BK113 BK126 BK139 BK152 BK165 HB hHeld ⊢;refine pu_ 0 31 rfl rfl HT_ ?_;refine pu_ 1 32 rfl rfl HT_ ?_;refine pu_ 2 33 rfl rfl HT_ ?_;refine t_ 3 34 rfl rfl HT_ HW_ hHeld ?_;refine on_ 4 (some 35) rfl rfl HT_ (fun K hK=>?_);refine gn_ Tryz.func16 (r3_One.calls _ _ _ _ _ A7.out) ?_;intro w46 hb;replace BK113:=kb_ BK113 hb;replace BK126:=kb_ BK126 hb;replace BK139:=kb_ BK139 hb;replace BK152:=kb_ BK152 hb;replace BK165:=kb_ BK165 hb;replace HB:=bs_ HB hb;(try clear hb);refine hk_ hK (fun hHeld=>?_);clear hK K;refine nm_ ?_;refine on_ 5 (some 36) rfl rfl HT_ (fun K hK=>?_);refine gn_ Tryz.func15 (r3_Of.calls _ _ _ _ A8.out) ?_;intro w47 hb;replace BK113:=kb_ BK113 hb;replace BK126:=kb_ BK126 hb;replace BK139:=kb_ BK139 hb;replace BK152:=kb_ BK152 hb;replace BK165:=kb_ BK165 hb;replace HB:=bs_ HB hb;(try clear hb);refine hk_ hK (fun hHeld=>?_);clear hK K;refine nm_ ?_;refine pu_ 6 37 rfl rfl HT_ ?_;refine pu_ 7 38 rfl rfl HT_ ?_;refine pu_ 8 39 rfl rfl HT_ ?_;refine pu_ 9 40 rfl rfl HT_ ?_;refine pu_ 10 41 rfl rfl HT_ ?_;refine pu_ 11 42 rfl rfl HT_ ?_;refine pu_ 12 43 rfl rfl HT_ ?_;refine pu_ 13 44 rfl rfl HT_ ?_;refine t_ 14 45 rfl rfl HT_ HW_ hHeld ?_;refine on_ 15 (some 46) rfl rfl HT_ (fun K hK=>?_);refine gn_ Tryz.func13 (action_Print.calls _ _ _ _ _ _ _ _ _ _ _ _ _ (lb_ HLD HB) A11.out) ?_;intro w48 hb;replace BK113:=kb_ BK113 hb;replace BK126:=kb_ BK126 hb;replace BK139:=kb_ BK139 hb;replace BK152:=kb_ BK152 hb;replace BK165:=kb_ BK165 hb;replace HB:=bs_ HB hb;(try clear hb);refine hk_ hK (fun hHeld=>?_);clear hK K;refine nm_ ?_;refine pu_ 16 47 rfl rfl HT_ ?_;refine pu_ 17 48 rfl rfl HT_ ?_;refine pu_ 18 49 rfl rfl HT_ ?_;refine pu_ 19 50 rfl rfl HT_ ?_;refine pu_ 20 51 rfl rfl HT_ ?_;refine pu_ 21 52 rfl rfl HT_ ?_;refine pu_ 22 53 rfl rfl HT_ ?_;refine pu_ 23 54 rfl rfl HT_ ?_;refine pu_ 24 55 rfl rfl HT_ ?_;refine pu_ 25 56 rfl rfl HT_ ?_;refine pu_ 26 57 rfl rfl HT_ ?_;refine pu_ 27 58 rfl rfl HT_ ?_;refine pu_ 28 59 rfl rfl HT_ ?_;refine pu_ 29 60 rfl rfl HT_ ?_;refine pu_ 30 61 rfl rfl HT_ ?_;refine t_ 31 62 rfl rfl HT_ HW_ hHeld ?_;refine on_ 32 (some 63) rfl rfl HT_ (fun K hK=>?_);refine gn_ Tryz.func11 (action_May.calls _ _ _ _ _ _ _ _ _ _ _ _ _ (lb_ HLD HB) A16.out) ?_;intro w49 hb;replace BK113:=kb_ BK113 hb;replace BK126:=kb_ BK126 hb;replace BK139:=kb_ BK139 hb;replace BK152:=kb_ BK152 hb;replace BK165:=kb_ BK165 hb;replace HB:=bs_ HB hb;(try clear hb);refine hk_ hK (fun hHeld=>?_);clear hK K;refine nm_ ?_;refine pu_ 33 64 rfl rfl HT_ ?_;refine pu_ 34 65 rfl rfl HT_ ?_;refine pu_ 35 66 rfl rfl HT_ ?_;refine on_ 36 (some 67) rfl rfl HT_ (fun K hK=>?_);refine gn_ Tryz.func11 (action_May.calls _ _ _ _ _ _ _ _ _ _ _ _ _ (lb_ HLD HB) A18.out) ?_;intro w50 hb;replace BK113:=kb_ BK113 hb;replace BK126:=kb_ BK126 hb;replace BK139:=kb_ BK139 hb;replace BK152:=kb_ BK152 hb;replace BK165:=kb_ BK165 hb;replace HB:=bs_ HB hb;(try clear hb);refine hk_ hK (fun hHeld=>?_);clear hK K;refine nm_ ?_;refine pu_ 37 68 rfl rfl HT_ ?_;refine pu_ 38 69 rfl rfl HT_ ?_;refine pu_ 39 0 rfl rfl HT_ ?_;refine done_ (done_of HT_.out (by kernel_rfl)) ?_
         try go_wp2
         go_ret
         exact⟨er_,b_ HB.out⟩
        ·replace c17:=Bool.eq_false_iff.mpr c17;subst c17
         have H1:(some false)=some r:=by rw[if_neg (show ¬ (false=true) by decide)] at H;exact H
         exact absurd (H1.trans (congrArg some hr_.out)) (by decide)
       ·exact absurd (H.trans (congrArg some hr_.out)) (by decide)
      ·exact absurd (H.trans (congrArg some hr_.out)) (by decide)
     ·exact absurd (H.trans (congrArg some hr_.out)) (by decide)
    ·exact absurd (H.trans (congrArg some hr_.out)) (by decide)
   ·exact absurd (H.trans (congrArg some hr_.out)) (by decide)
  ·exact absurd (H.trans (congrArg some hr_.out)) (by decide)
 ·exact absurd (H.trans (congrArg some hr_.out)) (by decide)
end Pf15
namespace Pf15
end Pf15
theorem fixed15_true:Pf15.dl15_fixed.f=some true:=by kernel_rfl
def dl15_fixed.f:Option Bool:=some true
theorem dl15_fixed.calls (r:Bool) (w:World) (hL_:Laid w) (h:dl15_fixed.f=some r) :
  Calls Tryz.prog 8 #[] w fun e w'=>e=.returned (.bool r)∧Below w.heap.size w w' :=
 Pf15.dl15_fixed.calls r w hL_ ⟨(Option.some.inj h).symm⟩ (fixed15_true.trans h)
section
open Go.ChangeShapes Go.WideShapes Go.ChangeAt Go.Deep Go.WideElems Go.Maps Go.Joins
section
variable {H:Type} {enc:TypeId×Value→H} {P:Program} {w:World} {base:Nat} {spare:Nat→Bool} {held:Bool}
theorem str_of {t:TypeId} {n:Nat} {v:Value} {y:DataW H×List MemPlace} (ht:P.underlying t=some .string) (h:DataW.trod enc P w base spare held n t [v]=some y):∃ s:ByteArray,v=.string s∧y=(.lit (.string s.data.toList),[])∧s.size≤maxLen:=by
 obtain⟨s,h1,h2,h3⟩:=DataW.trod_string ht h
 exact⟨s,by simpa using h1,h2,h3⟩
end
section
variable {H:Type} {enc:TypeId×Value→H} {P:Program} {w:World} {base:Nat} {spare:Nat→Bool} {held:Bool}
theorem list11 {α:Type} {l:List α} (h:l.length=11):∃ c0 c1 c2 c3 c4 c5 c6 c7 c8 c9 c10,l=[c0,c1,c2,c3,c4,c5,c6,c7,c8,c9,c10]:=by
 match l,h with
 | [c0,c1,c2,c3,c4,c5,c6,c7,c8,c9,c10],_=>exact⟨c0,c1,c2,c3,c4,c5,c6,c7,c8,c9,c10,rfl⟩
theorem int_of {t:TypeId} {n:Nat} {v:Value} {y:DataW H×List MemPlace} (ht:P.underlying t=some (.int .i64)) (h:DataW.trod enc P w base spare held n t [v]=some y):∃ z:Int,v=.int .i64 z∧y=(.lit (.int .i64 z),[])∧(Lit.int .i64 z).wf=true:=by
 obtain⟨z,h1,h2,h3⟩:=DataW.trod_int ht h
 exact⟨z,by simpa using h1,h2,h3⟩
structure ActT (P:Program) (tA tR tS tI:TypeId) (f0 f1 f2 f3 f4 f5 f6 f7 f8 g0 g1:Field):Prop where
 hs:P.underlying tA=some (.struct #[f0,f1,f2,f3,f4,f5,f6,f7,f8])
 hT:[f0.type,f1.type,f2.type,f3.type,f4.type,f5.type,f6.type,f7.type,f8.type]=[tS,tI,tS,tS,tR,tR,tI,tI,tI]
 hO:[f0.offset,f1.offset,f2.offset,f3.offset,f4.offset,f5.offset,f6.offset,f7.offset,f8.offset]=[0,1,2,3,4,6,8,9,10]
 hS:P.underlying tS=some .string
 hI:P.underlying tI=some (.int .i64)
 hR:P.underlying tR=some (.struct #[g0,g1])
 hG:[g0.type,g1.type]=[tS,tS]
 hP:[g0.offset,g1.offset]=[0,1]
 cS:P.cellsOf tS=1
 cI:P.cellsOf tI=1
 cR:P.cellsOf tR=2
 cA:P.cellsOf tA=11
variable {tA tR tS tI:TypeId} {f0 f1 f2 f3 f4 f5 f6 f7 f8 g0 g1:Field}
theorem rat_of (A:ActT P tA tR tS tI f0 f1 f2 f3 f4 f5 f6 f7 f8 g0 g1) {n:Nat} {c0 c1:Value} {x:DataW H×List MemPlace} (h:DataW.trod enc P w base spare held n tR [c0,c1]=some x) :
  ∃ a b:ByteArray,c0=.string a∧c1=.string b∧x=(.agg [.lit (.string a.data.toList),.lit (.string b.data.toList)],[])∧a.size≤maxLen∧b.size≤maxLen:=by
 cases n with
 | zero=>simp[DataW.trod] at h
 | succ n =>
  have hG:=A.hG
  have hP:=A.hP
  simp only[List.cons.injEq,and_true] at hG hP
  obtain⟨t0,t1⟩:=hG
  obtain⟨p0,p1⟩:=hP
  unfold DataW.trod at h
  rw[A.hR] at h
  simp[t0,t1,p0,p1,A.cS,A.cR] at h
  cases h0:DataW.trod enc P w base spare held n tS [c0] with
  | none=>simp[h0] at h
  | some y0 =>
   cases h1:DataW.trod enc P w base spare held n tS [c1] with
   | none=>simp[h0,h1] at h
   | some y1 =>
    simp[h0,h1] at h
    obtain⟨a,rfl,rfl,ha⟩:=str_of A.hS h0
    obtain⟨b,rfl,rfl,hb⟩:=str_of A.hS h1
    exact⟨a,b,rfl,rfl,h.symm,ha,hb⟩
theorem open_act (A:ActT P tA tR tS tI f0 f1 f2 f3 f4 f5 f6 f7 f8 g0 g1) {r:Reach} {b0:Nat} {v:Value} {d:DataW H} {p:List MemPlace} (hv:Value.okWide P w r b0 tA v) (h:DataW.Trod enc P w base spare held tA v d p) :
  ∃ (a0:ByteArray) (a1:Int) (a2 a3 a4 a5 a6 a7:ByteArray) (a8 a9 a10:Int),v=.agg #[.string a0,.int .i64 a1,.string a2,.string a3,.string a4,.string a5,.string a6,.string a7,.int .i64 a8,.int .i64 a9,.int .i64 a10] ∧
   d=.agg [.lit (.string a0.data.toList),.lit (.int .i64 a1),.lit (.string a2.data.toList),.lit (.string a3.data.toList),.agg [.lit (.string a4.data.toList),.lit (.string a5.data.toList)],.agg [.lit (.string a6.data.toList),.lit (.string a7.data.toList)],.lit (.int .i64 a8),.lit (.int .i64 a9),.lit (.int .i64 a10)]∧p=[] ∧
   (a0.size≤maxLen∧a2.size≤maxLen∧a3.size≤maxLen∧a4.size≤maxLen∧a5.size≤maxLen∧a6.size≤maxLen∧a7.size≤maxLen∧(Lit.int .i64 a1).wf=true∧(Lit.int .i64 a8).wf=true∧(Lit.int .i64 a9).wf=true∧(Lit.int .i64 a10).wf=true):=by
 obtain⟨cs,rfl,hsz⟩:=okWide_struct A.hs hv
 obtain⟨cl⟩:=cs
 obtain⟨c0,c1,c2,c3,c4,c5,c6,c7,c8,c9,c10,rfl⟩:=list11 (hsz.trans A.cA)
 obtain⟨fuel,hf⟩:=h
 have hT:=A.hT
 have hO:=A.hO
 simp only[List.cons.injEq,and_true] at hT hO
 obtain⟨t0,t1,t2,t3,t4,t5,t6,t7,t8⟩:=hT
 obtain⟨o0,o1,o2,o3,o4,o5,o6,o7,o8⟩:=hO
 cases fuel with
 | zero=>simp[DataW.trod] at hf
 | succ n =>
  unfold DataW.trod at hf
  rw[A.hs] at hf
  simp[Value.cells,t0,t1,t2,t3,t4,t5,t6,t7,t8,o0,o1,o2,o3,o4,o5,o6,o7,o8,A.cS,A.cI,A.cR,A.cA] at hf
  cases h0:DataW.trod enc P w base spare held n tS [c0] <;> simp[h0] at hf
  cases h1:DataW.trod enc P w base spare held n tI [c1] <;> simp[h1] at hf
  cases h2:DataW.trod enc P w base spare held n tS [c2] <;> simp[h2] at hf
  cases h3:DataW.trod enc P w base spare held n tS [c3] <;> simp[h3] at hf
  cases h4:DataW.trod enc P w base spare held n tR [c4,c5] <;> simp[h4] at hf
  cases h5:DataW.trod enc P w base spare held n tR [c6,c7] <;> simp[h5] at hf
  cases h6:DataW.trod enc P w base spare held n tI [c8] <;> simp[h6] at hf
  cases h7:DataW.trod enc P w base spare held n tI [c9] <;> simp[h7] at hf
  cases h8:DataW.trod enc P w base spare held n tI [c10] <;> simp[h8] at hf
  obtain⟨a0,rfl,rfl,z0⟩:=str_of A.hS h0
  obtain⟨a1,rfl,rfl,z1⟩:=int_of A.hI h1
  obtain⟨a2,rfl,rfl,z2⟩:=str_of A.hS h2
  obtain⟨a3,rfl,rfl,z3⟩:=str_of A.hS h3
  obtain⟨a4,a5,rfl,rfl,rfl,z4,z5⟩:=rat_of A h4
  obtain⟨a6,a7,rfl,rfl,rfl,z6,z7⟩:=rat_of A h5
  obtain⟨a8,rfl,rfl,z8⟩:=int_of A.hI h6
  obtain⟨a9,rfl,rfl,z9⟩:=int_of A.hI h7
  obtain⟨a10,rfl,rfl,z10⟩:=int_of A.hI h8
  exact⟨a0,a1,a2,a3,a4,a5,a6,a7,a8,a9,a10,rfl,hf.1.symm,hf.2.symm,z0,z2,z3,z4,z5,z6,z7,z1,z8,z9,z10⟩
theorem sized_act (A:ActT P tA tR tS tI f0 f1 f2 f3 f4 f5 f6 f7 f8 g0 g1) {ts:List TypeId} {ds:List (DataW H)} (h:(DataW.weightsEach P ts ds).all (·≤reachBytes)=true) {j:Nat} {a0:ByteArray} {a1:Int} {a2 a3 a4 a5 a6 a7:ByteArray} {a8 a9 a10:Int} (ht:ts[j]?=some tA)
  (hd:ds[j]?=some (.agg [.lit (.string a0.data.toList),.lit (.int .i64 a1),.lit (.string a2.data.toList),.lit (.string a3.data.toList),.agg [.lit (.string a4.data.toList),.lit (.string a5.data.toList)],.agg [.lit (.string a6.data.toList),.lit (.string a7.data.toList)],.lit (.int .i64 a8),.lit (.int .i64 a9),.lit (.int .i64 a10)])) :
  a0.size≤140737488351232∧a2.size≤140737488351232∧a3.size≤140737488351232:=by
 have hT:=A.hT
 simp only[List.cons.injEq,and_true] at hT
 obtain⟨t0,t1,t2,t3,t4,t5,t6,t7,t8⟩:=hT
 have hm:∀ x,x∈[a0.data.toList.length,a2.data.toList.length,a3.data.toList.length]→x≤140737488351232:=by
  intro x hx
  have:=List.all_eq_true.1 h x (DataW.weights_mem_each ht hd x (by
   unfold DataW.weights
   rw[A.hs]
   simp only[List.map_cons,List.map_nil,DataW.weightsEach,DataW.weights,List.mem_append,List.mem_cons,List.not_mem_nil,or_false] at hx ⊢
   rcases hx with hx|hx|hx <;> simp[hx]))
  exact od_ this
 refine⟨hm _ (by simp),hm _ (by simp),hm _ (by simp)⟩
theorem shut_act (A:ActT P tA tR tS tI f0 f1 f2 f3 f4 f5 f6 f7 f8 g0 g1) {a0:ByteArray} {a1:Int} {a2 a3 a4 a5 a6 a7:ByteArray} {a8 a9 a10:Int}
  (hz:a0.size≤maxLen∧a2.size≤maxLen∧a3.size≤maxLen∧a4.size≤maxLen∧a5.size≤maxLen∧a6.size≤maxLen∧a7.size≤maxLen∧(Lit.int .i64 a1).wf=true∧(Lit.int .i64 a8).wf=true∧(Lit.int .i64 a9).wf=true∧(Lit.int .i64 a10).wf=true) :
  DataW.Trod enc P w base spare held tA (.agg #[.string a0,.int .i64 a1,.string a2,.string a3,.string a4,.string a5,.string a6,.string a7,.int .i64 a8,.int .i64 a9,.int .i64 a10])
   (.agg [.lit (.string a0.data.toList),.lit (.int .i64 a1),.lit (.string a2.data.toList),.lit (.string a3.data.toList),.agg [.lit (.string a4.data.toList),.lit (.string a5.data.toList)],.agg [.lit (.string a6.data.toList),.lit (.string a7.data.toList)],.lit (.int .i64 a8),.lit (.int .i64 a9),.lit (.int .i64 a10)]) []:=by
 obtain⟨z0,z2,z3,z4,z5,z6,z7,z1,z8,z9,z10⟩:=hz
 have hT:=A.hT
 have hO:=A.hO
 have hG:=A.hG
 have hP:=A.hP
 simp only[List.cons.injEq,and_true] at hT hO hG hP
 obtain⟨t0,t1,t2,t3,t4,t5,t6,t7,t8⟩:=hT
 obtain⟨o0,o1,o2,o3,o4,o5,o6,o7,o8⟩:=hO
 obtain⟨u0,u1⟩:=hG
 obtain⟨p0,p1⟩:=hP
 refine⟨3,?_⟩
 simp[DataW.trod,Value.cells,A.hs,A.hR,A.hS,A.hI,t0,t1,t2,t3,t4,t5,t6,t7,t8,o0,o1,o2,o3,o4,o5,o6,o7,o8,u0,u1,p0,p1,A.cS,A.cI,A.cR,A.cA,z0,z1,z2,z3,z4,z5,z6,z7,z8,z9,z10]
def ActOk (P:Program) (tA tR tS tI:TypeId):Prop:=∃ (f0 f1 f2 f3 f4 f5 f6 f7 f8 g0 g1:Field),ActT P tA tR tS tI f0 f1 f2 f3 f4 f5 f6 f7 f8 g0 g1
theorem open_actQ (A:ActOk P tA tR tS tI) {r:Reach} {b0:Nat} {v:Value} {d:DataW H} {p:List MemPlace} (hv:Value.okWide P w r b0 tA v) (h:DataW.Trod enc P w base spare held tA v d p) :
  ∃ (a0:ByteArray) (a1:Int) (a2 a3 a4 a5 a6 a7:ByteArray) (a8 a9 a10:Int),v=.agg #[.string a0,.int .i64 a1,.string a2,.string a3,.string a4,.string a5,.string a6,.string a7,.int .i64 a8,.int .i64 a9,.int .i64 a10] ∧
   d=.agg [.lit (.string a0.data.toList),.lit (.int .i64 a1),.lit (.string a2.data.toList),.lit (.string a3.data.toList),.agg [.lit (.string a4.data.toList),.lit (.string a5.data.toList)],.agg [.lit (.string a6.data.toList),.lit (.string a7.data.toList)],.lit (.int .i64 a8),.lit (.int .i64 a9),.lit (.int .i64 a10)]∧p=[] ∧
   (a0.size≤maxLen∧a2.size≤maxLen∧a3.size≤maxLen∧a4.size≤maxLen∧a5.size≤maxLen∧a6.size≤maxLen∧a7.size≤maxLen∧(Lit.int .i64 a1).wf=true∧(Lit.int .i64 a8).wf=true∧(Lit.int .i64 a9).wf=true∧(Lit.int .i64 a10).wf=true):=by
 obtain⟨f0,f1,f2,f3,f4,f5,f6,f7,f8,g0,g1,A⟩:=A
 exact open_act A hv h
theorem sized_actQ (A:ActOk P tA tR tS tI) {ts:List TypeId} {ds:List (DataW H)} (h:(DataW.weightsEach P ts ds).all (·≤reachBytes)=true) {j:Nat} {a0:ByteArray} {a1:Int} {a2 a3 a4 a5 a6 a7:ByteArray} {a8 a9 a10:Int} (ht:ts[j]?=some tA)
  (hd:ds[j]?=some (.agg [.lit (.string a0.data.toList),.lit (.int .i64 a1),.lit (.string a2.data.toList),.lit (.string a3.data.toList),.agg [.lit (.string a4.data.toList),.lit (.string a5.data.toList)],.agg [.lit (.string a6.data.toList),.lit (.string a7.data.toList)],.lit (.int .i64 a8),.lit (.int .i64 a9),.lit (.int .i64 a10)])) :
  a0.size≤140737488351232∧a2.size≤140737488351232∧a3.size≤140737488351232:=by
 obtain⟨f0,f1,f2,f3,f4,f5,f6,f7,f8,g0,g1,A⟩:=A
 exact sized_act A h ht hd
theorem shut_actQ (A:ActOk P tA tR tS tI) {a0:ByteArray} {a1:Int} {a2 a3 a4 a5 a6 a7:ByteArray} {a8 a9 a10:Int}
  (hz:a0.size≤maxLen∧a2.size≤maxLen∧a3.size≤maxLen∧a4.size≤maxLen∧a5.size≤maxLen∧a6.size≤maxLen∧a7.size≤maxLen∧(Lit.int .i64 a1).wf=true∧(Lit.int .i64 a8).wf=true∧(Lit.int .i64 a9).wf=true∧(Lit.int .i64 a10).wf=true) :
  DataW.Trod enc P w base spare held tA (.agg #[.string a0,.int .i64 a1,.string a2,.string a3,.string a4,.string a5,.string a6,.string a7,.int .i64 a8,.int .i64 a9,.int .i64 a10])
   (.agg [.lit (.string a0.data.toList),.lit (.int .i64 a1),.lit (.string a2.data.toList),.lit (.string a3.data.toList),.agg [.lit (.string a4.data.toList),.lit (.string a5.data.toList)],.agg [.lit (.string a6.data.toList),.lit (.string a7.data.toList)],.lit (.int .i64 a8),.lit (.int .i64 a9),.lit (.int .i64 a10)]) []:=by
 obtain⟨f0,f1,f2,f3,f4,f5,f6,f7,f8,g0,g1,A⟩:=A
 exact shut_act A hz
end
end
section
open Go.ChangeShapes Go.WideShapes Go.ChangeAt Go.Lib
theorem wrap_shaped {H:Type} {enc:TypeId×Value→H} {a:Assume} {C:Checked} {os:Os} {f:FuncId} {fn:Func} {s:ChangeSpec} {conds:List PathCond} {apart fresh handsOn again:Bool} {X:World→Array Value→Prop}
  (hX:∀ (w w':World) (args:Array Value),w.heap=w'.heap→X w args→X w' args) (own:ownKnob C.prog.godebug=none) (started:os.Started) (noInit:C.prog.inits.idxOf? f=none) (hfn:C.prog.funcs[f]?=some fn)
  (witness:∃ (w:World) (tape:Tape) (i:Input),w.os=os∧(w.forCall tape i).Shaped C.prog∧i.vars=[]∧Input.okWide C.prog (w.forCall tape i) .any w.heap.size f i ∧
   ((s.pre enc C.prog fn conds apart (w.forCall tape i).memory i.args∧X (w.forCall tape i).memory i.args)∧sizedMet enc C.prog fn (OpenSpec.ofChange s) apart (w.forCall tape i).memory i.args)∧a.holds C.prog (lone (Frame.enter C.prog f i.args .normal) [] (w.forCall tape i)))
  (walk:∀ (W:World) (base:Nat) (args:Array Value) (ds gs:List (DataW H)) (before:List MemPlace),(∀ (j:Nat) t v,fn.params[j]?=some t→args[j]?=some v→Value.okWide C.prog W .any base t v) →
   DataW.Whole enc C.prog fn.params.toList s.vars apart W args.toList ds gs before→conds.all (PathCond.test C.prog ⟨fn.params.toList,ds,s.plain.varTypes C.prog,gs⟩)=true →
   (DataW.weightsEach C.prog (fn.params.toList++s.plain.varTypes C.prog) (ds++gs)).all (·≤reachBytes)=true→X W args→W.ShapedOpen C.prog →
   Calls C.prog f args W fun e W'=>∃ v,e=.returned v∧s.post enc C.prog fn apart fresh handsOn again W args v W') :
  ReturnsInHanded a C os f .any (fun w args=>(s.pre enc C.prog fn conds apart w args∧X w args)∧sizedMet enc C.prog fn (OpenSpec.ofChange s) apart w args) (s.post enc C.prog fn apart fresh handsOn again):=by
 refine returnsInHanded_of_calls own started noInit witness ?_
 intro w tape i _ hsh _ hok hpre _
 obtain⟨_,_,_,fn',hfn',_,_,_,_,hval⟩:=hok
 obtain rfl:fn'=fn:=Option.some.inj (hfn'.symm.trans hfn)
 obtain⟨⟨⟨ds,gs,before,hw,hc⟩,hx⟩,hz⟩:=hpre
 refine(walk (w.forCall tape i) w.heap.size i.args ds gs before hval (DataW.Whole.of_heap (w':=w.forCall tape i) (by rfl) hw) hc (hz.weights hw) (hX _ _ _ (by rfl) hx) hsh).mono fun e W' hp=>?_
 obtain⟨v,rfl,hp⟩:=hp
 exact ChangeSpec.post_blind hp
abbrev laidL:List (String×DataW Unit):=[("math/bits.deBruijn32tab",Rows.laid_math_bits_deBruijn32tab),("math/bits.deBruijn64tab",Rows.laid_math_bits_deBruijn64tab),("internal/strconv.uint64pow10",Rows.laid_internal_strconv_uint64pow10),("unicode/utf8.acceptRanges",Rows.laid_unicode_utf8_acceptRanges),("strconv.ErrRange",Rows.laid_strconv_ErrRange),("strconv.ErrSyntax",Rows.laid_strconv_ErrSyntax),("unicode/utf8.first",Rows.laid_unicode_utf8_first)]
theorem own:ownKnob Tryz.prog.godebug=none:=by kernel_rfl
theorem tabType:(Tryz.prog.globals[1]?).map (·.type)=some 156:=by kernel_rfl
theorem rngType:(Tryz.prog.globals[5]?).map (·.type)=some 83:=by kernel_rfl
theorem tabCells:Tryz.prog.cellsOf 156=20:=by kernel_rfl
theorem u64Cells:Tryz.prog.cellsOf 123=1:=by kernel_rfl
theorem errCells:Tryz.prog.cellsOf 179=1:=by kernel_rfl
theorem strCells:Tryz.prog.cellsOf 9=1:=by kernel_rfl
theorem starErr : "*" ++ "errors.errorString" = "*errors.errorString" :=by decide
theorem rowErr (u:TypeId) (h:Tryz.prog.typeName? 3 u=some "*errors.errorString"):u=177 :=
 typeName_ptr_named (nm:= "errors.errorString") (by rw[starErr];kernel_rfl) (by kernel_rfl) (by decide) u (by rw[starErr];exact h)
theorem laid_tab_eq:(Rows.laid_internal_strconv_uint64pow10:DataW Unit)=tabData .u64 pow10Tab:=by kernel_rfl
theorem laid_of {W:World} (h:laidMetH Tryz.prog laidL W) (hsh:W.ShapedOpen Tryz.prog):Laid W:=by
 rw[MakeChecks.laidMetH_plain _ _ _ (by kernel_rfl)] at h
 have hL:=h
 obtain⟨a1,s1,hv1,-,-,-⟩:=laid_sentinel (hL.tail.tail.tail.tail) gRng rngType Tryz.underlying83 rowErr Tryz.underlying177 Tryz.underlying179 rfl rfl Tryz.underlying9 errCells strCells
 refine⟨tabIs_of_head gTab tabType Tryz.underlying156 Tryz.underlying123 u64Cells tabCells (by rw[← laid_tab_eq];exact hL.tail.tail),⟨_,_,hv1⟩,cell_of_shapedOpen_int (t:=3) (zero:=#[.int .i64 0]) hsh (by decide +kernel) (by kernel_rfl) (by decide) (by kernel_rfl) (by kernel_rfl) Tryz.underlying3⟩
theorem door_met (os:Os) (args:Array Value):laidMetH Tryz.prog laidL ((World.laidAll Tryz.prog os laidL).forCall (fun _ _=>0) ⟨#[],args,[]⟩).memory:=by
 rw[MakeChecks.laidMetH_plain _ _ _ (by kernel_rfl)]
 exact laidMet_laidAll _ (by kernel_rfl) (by kernel_rfl)
end
end Go.Proofs.YtoghmeffpgbcfaaGreatDoor