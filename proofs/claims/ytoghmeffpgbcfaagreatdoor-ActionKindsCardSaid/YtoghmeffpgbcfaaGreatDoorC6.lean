/-
Parts of the proof, in build order: NumAct, Pf150, Pf151, Pf152, Sq15, Pf153, Pf15, Fixed15, Agg, AggA, Rowb.
-/
import Derived.Test.YtoghmeffpgbcfaaGreatDoorC5
import Derived.KernelRfl
import Derived.Test.YtoghmeffpgbcfaaGreatDoorProg
import Derived.Below
import Derived.Deep.Draws
import Derived.Deep.AppendLies
import Derived.Maps.AppendAt
import Derived.OwnWalk
import Derived.Laws.BytesArg
import Derived.Laws.MakeOwn
import Derived.Laws.OwnMore
import Derived.Deep.OwnRows
import Derived.Tactics
import Derived.Lib.ConvBytes
import Derived.Laws.Slices
import Derived.WalkKit
import Derived.RowKit3
import Derived.Deep.LoopGhost
import Derived.Deep.QuietTactic
import Derived.BigQuiet
import Derived.WideLaws
import Derived.Deep.DeepCutAuto
import Derived.Deep.CutBlock
import Derived.Deep.RegionHeld3
import Derived.Laws.Rows
import Derived.Lib.AppendStr
import Derived.ArgAppend
import Derived.Laws.IdiomCopy
import Derived.OrdersHeld
import Derived.Laws.BitsLemmas
import Derived.RowKit
import Derived.Test.YtoghmeffpgbcfaaGreatDoorC0
import Derived.Test.YtoghmeffpgbcfaaGreatDoorC1
import Derived.Test.YtoghmeffpgbcfaaGreatDoorC2
import Derived.Lib.SmallJoins
import Derived.Laws.IdiomArrays
import Derived.ChangeMaps5
import Derived.ChangeArms
import Derived.SizedLaws
import Derived.Test.YtoghmeffpgbcfaaGreatDoorRows
import Derived.ProofKit
import Derived.OpenShut
import Derived.ShutString
import Derived.ChangeOld
import Derived.LaidMore
import Derived.LaidHandle
import Derived.MakeChecks
import Derived.Lib.LaidTab
import Derived.Stop.LaidErr
import Derived.Stop.Joined
import Derived.RowKitTokens
import Derived.JoinedOf
import Derived.JoinedAt
import Derived.ChangeVars
import Derived.ChangeSame
import Derived.LaidLaws
import Derived.HandedShaped
import Derived.Shelf.Vars
import Derived.Lay
set_option linter.unusedVariables false
set_option linter.unusedSimpArgs false
open Go.RowKit Go.Proofs.YtoghmeffpgbcfaaGreatDoorW.PrintWords Go.Proofs.YtoghmeffpgbcfaaGreatDoorW.PrintLast Go.Proofs.YtoghmeffpgbcfaaGreatDoorW.PrintMore
section
namespace Go.Proofs.YtoghmeffpgbcfaaGreatDoor
theorem aMay {a0 a2 a3 a4 a5 a6 a7:ByteArray} {a1 a8 a9 a10:Int} (h:smA (actV a0 a1 a2 a3 a4 a5 a6 a7 a8 a9 a10)=true):action_May.f a0 a1 a2 a3 a4 a5 a6 a7 a8 a9 a10=some (mayA (actV a0 a1 a2 a3 a4 a5 a6 a7 a8 a9 a10)):=if_pos h
theorem aPrint {a0 a2 a3 a4 a5 a6 a7:ByteArray} {a1 a8 a9 a10:Int} (h:smA (actV a0 a1 a2 a3 a4 a5 a6 a7 a8 a9 a10)=true):action_Print.f a0 a1 a2 a3 a4 a5 a6 a7 a8 a9 a10=some (printA (actV a0 a1 a2 a3 a4 a5 a6 a7 a8 a9 a10)):=if_pos h
theorem aParse {s:ByteArray} (h:s.size≤1100):action_Parse.f s=some (flatA (parseAct s)):=if_pos h
theorem smA_light {a0 a2 a3 a4 a5 a6 a7:ByteArray} {a1 a8 a9 a10:Int} (h:a0.size+a2.size+a3.size≤200∧a4.size≤30∧a5.size≤30∧a6.size≤30∧a7.size≤30):smA (actV a0 a1 a2 a3 a4 a5 a6 a7 a8 a9 a10)=true :=
 smA_of (by omega) (by omega) (by omega) (decide_eq_true (by dsimp only;omega)) (decide_eq_true (by dsimp only;omega))
theorem numOk_sm {x:BB} {nm:Bool} {l:Int} (h:numOk x nm l=true):smR x=true:=by
 unfold numOk at h
 cases nm
 ·rw[if_neg (by decide)] at h
  rw[of_decide_eq_true h]
  decide +kernel
 ·rw[if_pos rfl,Bool.and_eq_true,Bool.and_eq_true,Bool.and_eq_true,decide_eq_true_eq,decide_eq_true_eq,decide_eq_true_eq] at h
  exact decide_eq_true (by omega)
theorem smA_may {a:ActV} (h:mayA a=true):smA a=true:=by
 obtain⟨_,h1,h2,_,h4,h5,h6⟩:=mayA_and h
 have z1:=nameL_size h1
 have z2:=nameL_size (Bool.and_eq_true_iff.1 h2).1
 have z3:a.other.size≤20:=by
  unfold otherOk at h4
  split at h4
  ·exact nameL_size (Bool.and_eq_true_iff.1 (Bool.and_eq_true_iff.1 h4).1).1
  ·rw[of_decide_eq_true h4]
   exact Nat.zero_le _
 unfold smA
 rw[numOk_sm h5,numOk_sm h6,decide_eq_true (show a.name.size≤1000000 by omega),decide_eq_true (show a.asset.size≤1000000 by omega),decide_eq_true (show a.other.size≤1000000 by omega)]
 rfl
theorem join_sum:∀ ws:List (List UInt8),(Lib.join ws [32]).length≤(ws.map (fun w=>w.length+1)).sum
 | []=>by simp[Lib.join_nil]
 | [w]=>by rw[Lib.join_one];simp
 | w :: v :: r=>by
  have e:Lib.join (w :: v :: r) [32]=w++32 :: Lib.join (v :: r) [32]:=by
   rw[Lib.join_cons,Lib.join_cons]
   unfold Lib.joinTail
   simp
  have ih:=join_sum (v :: r)
  rw[e,List.length_append,List.length_cons,List.map_cons,List.sum_cons]
  omega
theorem numOk_len {x:BB} {l:Int} (h:numOk x true l=true):(printS x).data.toList.length≤205:=by
 unfold numOk at h
 rw[if_pos rfl,Bool.and_eq_true,Bool.and_eq_true,Bool.and_eq_true,decide_eq_true_eq,decide_eq_true_eq,decide_eq_true_eq] at h
 obtain⟨hm,_,l1,l2⟩:=h
 obtain⟨q,rfl⟩:=of_mayR hm
 have hs:szR q≤40:=by
  show (rT q).1.size+(rT q).2.size≤40
  omega
 have hl:=print_len q
 rw[print_rT_list]
 omega
theorem printA_size {a:ActV} (h:mayA a=true):(printA a).size≤1000:=by
 obtain⟨_,h1,h2,h3,h4,h5,h6⟩:=mayA_and h
 have z1:=nameL_size h1
 have z2:=nameL_size (Bool.and_eq_true_iff.1 h2).1
 rw[size_len] at z1 z2
 unfold daysOk at h3
 simp only[Bool.and_eq_true,decide_eq_true_eq] at h3
 obtain⟨d0,d1,d2,d3⟩:=h3
 have dz:∀ n:Int,n≤9999→(Lib.decDigits n.toNat).length≤10:=by
  intro n hn
  have:=day_size hn
  rw[size_len,natB_list] at this
  exact this
 have y1:=dz a.ex (by omega)
 have y2:=dz a.rec_ (by omega)
 have y3:=dz a.pay (by omega)
 have zw:(wordK a.kind).length≤6:=by
  unfold wordK
  (repeat' split) <;> decide
 have z3:((if kOther a.kind=true then [a.other.data.toList] else []).map (fun w:List UInt8=>w.length+1)).sum≤21:=by
  unfold otherOk at h4
  split
  ·rename_i ho
   rw[if_pos ho] at h4
   have:=nameL_size (Bool.and_eq_true_iff.1 (Bool.and_eq_true_iff.1 h4).1).1
   rw[size_len] at this
   simp
   simpa using this
  ·simp
 have z4:((if kRatio a.kind=true then [(printS a.ratio).data.toList] else []).map (fun w:List UInt8=>w.length+1)).sum≤206:=by
  split
  ·rename_i hr
   rw[hr] at h5
   have:=numOk_len h5
   rw[List.map_cons,List.map_nil,List.sum_cons,List.sum_nil]
   omega
  ·simp
 have z5:((if kCash a.kind=true then [(printS a.cash).data.toList] else []).map (fun w:List UInt8=>w.length+1)).sum≤206:=by
  split
  ·rename_i hr
   rw[hr] at h6
   have:=numOk_len h6
   rw[List.map_cons,List.map_nil,List.sum_cons,List.sum_nil]
   omega
  ·simp
 rw[size_len,print_list h]
 have hj:=join_sum (wordsA a)
 unfold wordsA restA numsA at hj
 simp only[List.map_cons,List.sum_cons,List.map_append,List.sum_append] at hj
 unfold wordsA restA numsA
 omega
theorem parseAct_print {a:ActV} (h:mayA a=true):parseAct (printA a)=(a,0):=outW_some (parse_back h)
theorem parseAct_cases (s:ByteArray):(∃ a,mayA a=true∧parseAct s=(a,0))∨parseAct s=(zeroA,150):=by
 cases e:parseT s.data.toList with
 | some a=>exact Or.inl ⟨a,parseT_may e,outW_some e⟩
 | none=>exact Or.inr (outW_none e)
theorem print_empty {a:ActV}:(printA a).toList=[]↔¬ mayA a=true:=by
 rw[ByteArray.toList_eq]
 constructor
 ·intro h hm
  exact print_ne hm h
 ·intro h
  rw[print_not h]
  rfl
end Go.Proofs.YtoghmeffpgbcfaaGreatDoor
end

attribute [local go_sem] max2_int min2_int max_two min_two max_three min_three max_four min_four   -- for this text's walks alone
section
namespace Go.Proofs.YtoghmeffpgbcfaaGreatDoor.Pf15
def errW:Option Int→Value
 | none=>.nilIface
 | some c=>.iface 0 (.int .i64 c)
theorem errW_none:errW none=.nilIface:=rfl
theorem errW_some (c:Int):errW (some c)=.iface 0 (.int .i64 c):=rfl
end Go.Proofs.YtoghmeffpgbcfaaGreatDoor.Pf15
end

section
namespace Go.Proofs.YtoghmeffpgbcfaaGreatDoor.Pf15
theorem eqA23 (d:Nat) (w:World) (x0 y0:ByteArray) (x1 y1:ByteArray) :
  (Op.equalIn (d+2) 23 (.agg #[.string x0,.string x1]) (.agg #[.string y0,.string y1])).run Tryz.prog w=.ok (x0.toList == y0.toList&&(x1.toList == y1.toList)) w:=by
 refine eqA_of Tryz.underlying23 (by kernel_rfl) ?_;refine eqf_cons (by rfl) (by go_simp;rfl) (by go_simp;rfl) (by go_simp) ?_;exact eqf_last (by rfl) (by go_simp;rfl) (by go_simp;rfl) (by go_simp)
theorem eqA25 (d:Nat) (w:World) (x0 y0:ByteArray) (x1 y1:Int) (x2 y2:ByteArray) (x3 y3:ByteArray) (x4 y4:ByteArray) (x5 y5:ByteArray) (x6 y6:ByteArray) (x7 y7:ByteArray) (x8 y8:Int) (x9 y9:Int) (x10 y10:Int) :
  (Op.equalIn (d+3) 25 (.agg #[.string x0,.int .i64 x1,.string x2,.string x3,.string x4,.string x5,.string x6,.string x7,.int .i64 x8,.int .i64 x9,.int .i64 x10]) (.agg #[.string y0,.int .i64 y1,.string y2,.string y3,.string y4,.string y5,.string y6,.string y7,.int .i64 y8,.int .i64 y9,.int .i64 y10])).run Tryz.prog w=.ok (x0.toList == y0.toList&&(x1 == y1&&(x2.toList == y2.toList&&(x3.toList == y3.toList&&((x4.toList == y4.toList&&(x5.toList == y5.toList))&&((x6.toList == y6.toList&&(x7.toList == y7.toList))&&(x8 == y8&&(x9 == y9&&(x10 == y10))))))))) w:=by
 refine eqA_of Tryz.underlying25 (by kernel_rfl) ?_;refine eqf_cons (by rfl) (by go_simp;rfl) (by go_simp;rfl) (by go_simp) ?_;refine eqf_cons (by rfl) (by go_simp;rfl) (by go_simp;rfl) (by go_simp) ?_;refine eqf_cons (by rfl) (by go_simp;rfl) (by go_simp;rfl) (by go_simp) ?_;refine eqf_cons (by rfl) (by go_simp;rfl) (by go_simp;rfl) (by go_simp) ?_;refine eqf_cons (by rfl) (by go_simp) (by go_simp) (eqA23 (d+0) w _ _ _ _) ?_;refine eqf_cons (by rfl) (by go_simp) (by go_simp) (eqA23 (d+0) w _ _ _ _) ?_;refine eqf_cons (by rfl) (by go_simp;rfl) (by go_simp;rfl) (by go_simp) ?_;refine eqf_cons (by rfl) (by go_simp;rfl) (by go_simp;rfl) (by go_simp) ?_;exact eqf_last (by rfl) (by go_simp;rfl) (by go_simp;rfl) (by go_simp)
end Go.Proofs.YtoghmeffpgbcfaaGreatDoor.Pf15
end

section
namespace Go.Proofs.YtoghmeffpgbcfaaGreatDoor.Pf15
end Go.Proofs.YtoghmeffpgbcfaaGreatDoor.Pf15
end

section
namespace Go.Proofs.YtoghmeffpgbcfaaGreatDoor
theorem bp_ {w:World} {g:Nat} {t:TypeId} {cs cs':Array Value} (h:w.heap[g]?=some (.cells cs t (0,0))) (i:Nat) (u:Value) (e:cs.setIfInBounds i u=cs':=by first|(simp only[List.setIfInBounds_toArray,List.set_cons_zero,List.set_cons_succ];done)|(simp only[List.setIfInBounds_toArray,List.set_cons_zero,List.set_cons_succ];rfl)):(w.setCell ⟨g,i,none⟩ u).heap[g]?=some (.cells cs' t (0,0)):=blk_put h i u e
theorem bp2_ {w:World} {g:Nat} {t:TypeId} {cs cs':Array Value} (h:w.heap[g]?=some (.cells cs t (0,0))) (i:Nat) (u:Value) (j:Nat) (v:Value) (e:(cs.setIfInBounds i u).setIfInBounds j v=cs':=by first|(simp only[List.setIfInBounds_toArray,List.set_cons_zero,List.set_cons_succ];done)|(simp only[List.setIfInBounds_toArray,List.set_cons_zero,List.set_cons_succ];rfl)):((w.setCell ⟨g,i,none⟩ u).setCell ⟨g,j,none⟩ v).heap[g]?=some (.cells cs' t (0,0)):=blk_put (blk_set h i u) j v e
theorem rq_ {P Q:Prop} (h:Q) (t:Q→P:=by intro h_;(with_reducible repeat(first|refine blk_drewN ?_ _|refine blk_drew ?_|refine blk_alloc ?_ _));(with_reducible first|exact h_|exact blk_set11 h_ _ _ _ _ _ _ _ _ _ _ _|exact bp_ h_ _ _|exact bp2_ h_ _ _ _ _|exact bp_ (blk_set11 h_ _ _ _ _ _ _ _ _ _ _ _) _ _|exact bp2_ (blk_set11 h_ _ _ _ _ _ _ _ _ _ _ _) _ _ _ _)):P:=t h
theorem fq_ {P Q:Prop} (h:Q) (t:Q→P:=by intro h_;repeat(first|(with_reducible exact h_)|(with_reducible refine blk_drewN ?_ _)|(with_reducible refine blk_drew ?_)|(with_reducible refine blk_alloc ?_ _)|(with_reducible refine blk_far11 ?_ (Aside0.out (by with_reducible assumption)) _ _ _ _ _ _ _ _ _ _ _)|(with_reducible refine blk_far ?_ (Aside0.out (by with_reducible assumption)) _)|exact h_)):P:=t h
end Go.Proofs.YtoghmeffpgbcfaaGreatDoor
end

section
namespace Go.Proofs.YtoghmeffpgbcfaaGreatDoor.Pf15
attribute [local go_sem high] eqA25
def dl15_fixed.f  : Option (Bool):=(action_Parse.f (⟨#[109,101,114,103,101,114,32,109,49,32,120,32,53,32,54,32,57,32,121,32,48,46,53,32,50]⟩:ByteArray)).bind fun bt101=>((action_Parse.f (⟨#[115,112,108,105,116,32,115,49,32,120,32,49,32,49,32,49,32,51,47,50]⟩:ByteArray)).bind fun bt114=>((action_Parse.f (⟨#[115,112,108,105,116,32,115,49,32,120,32,50,32,49,32,49,32,51]⟩:ByteArray)).bind fun bt127=>((action_Parse.f (⟨#[99,97,115,104,32,100,49,32,120,32,49,32,49,32,49,32,48]⟩:ByteArray)).bind fun bt140=>((action_Parse.f (⟨#[115,112,105,110,32,112,49,32,120,32,49,32,49,32,49,32,120,32,49]⟩:ByteArray)).bind fun bt153=>(if bt101.2.2.2.2.2.2.2.2.2.2.2=0 then ((r3_One.f 1 2).bind fun bt166=>((r3_Of.f 2).bind fun bt168=>(if (bt101.1.toList == ([109,49]:List UInt8)&&(bt101.2.1 == 4&&(bt101.2.2.1.toList == ([120]:List UInt8)&&(bt101.2.2.2.1.toList == ([121]:List UInt8)&&((bt101.2.2.2.2.1.toList == bt166.1.toList&&(bt101.2.2.2.2.2.1.toList == bt166.2.toList))&&((bt101.2.2.2.2.2.2.1.toList == bt168.1.toList&&(bt101.2.2.2.2.2.2.2.1.toList == bt168.2.toList))&&(bt101.2.2.2.2.2.2.2.2.1 == 5&&(bt101.2.2.2.2.2.2.2.2.2.1 == 6&&(bt101.2.2.2.2.2.2.2.2.2.2.1 == 9)))))))))=true then (if bt114.2.2.2.2.2.2.2.2.2.2.2=0 then ((action_Print.f bt114.1 bt114.2.1 bt114.2.2.1 bt114.2.2.2.1 bt114.2.2.2.2.1 bt114.2.2.2.2.2.1 bt114.2.2.2.2.2.2.1 bt114.2.2.2.2.2.2.2.1 bt114.2.2.2.2.2.2.2.2.1 bt114.2.2.2.2.2.2.2.2.2.1 bt114.2.2.2.2.2.2.2.2.2.2.1).bind fun t170=>(if t170.toList=([115,112,108,105,116,32,115,49,32,120,32,49,32,49,32,49,32,49,46,53]:List UInt8) then (if bt127.2.2.2.2.2.2.2.2.2.2.2=150 then (if bt140.2.2.2.2.2.2.2.2.2.2.2=150 then (if bt153.2.2.2.2.2.2.2.2.2.2.2=150 then ((action_May.f bt101.1 bt101.2.1 bt101.2.2.1 bt101.2.2.2.1 bt101.2.2.2.2.1 bt101.2.2.2.2.2.1 bt101.2.2.2.2.2.2.1 bt101.2.2.2.2.2.2.2.1 bt101.2.2.2.2.2.2.2.2.1 bt101.2.2.2.2.2.2.2.2.2.1 bt101.2.2.2.2.2.2.2.2.2.2.1).bind fun t171=>(if t171=true then ((action_May.f (⟨#[]⟩:ByteArray) 0 (⟨#[]⟩:ByteArray) (⟨#[]⟩:ByteArray) (⟨#[]⟩:ByteArray) (⟨#[]⟩:ByteArray) (⟨#[]⟩:ByteArray) (⟨#[]⟩:ByteArray) 0 0 0).bind fun t172=>(some (!t172))) else (some false))) else (some false)) else (some false)) else (some false)) else (some false))) else (some false)) else (some false)))) else (some false))))))
def dl15_fixed.T6:Bool×List (List Nat×List Nat):=(true,[([],[]),([0],[0]),([1],[1]),([2],[2]),([2,2],[2]),([4,2],[2]),([4,5,2],[2,4,5]),([3,6,2],[2,3,6]),([2,7],[2,7]),([8,5],[8]),([9],[9]),([10,9],[9,10]),([9,11],[9,11]),([12,9],[12]),([13],[13]),([14,13,13],[13,14]),([15,13],[13,15]),([13,16],[13,16]),([17,15],[17]),([18],[18]),([19,18],[18,19]),([18,20],[18,20]),([21,18],[21]),([22],[22]),([23,22],[22,23]),([22,24],[22,24]),([25,22],[25]),([26],[26]),([27,26],[26,27]),([26,28],[26,28]),([29,26],[29]),([30],[30]),([31,30,30],[30,31]),([30,32],[30,32]),([33,32],[33]),([34],[34]),([35,34,34],[34,35]),([36,34],[34,36]),([34,37],[34,37]),([38,36,0,1,2,3,4,5,6,7,8,9,10,11,12,13,14,15,16,17,18,19,20,21,22,23,24,25,26,27,28,29,30,31,32,33,34,35,36,37,38],[38])])
def dl15_fixed.B6:List Nat:=[0,1,3,7,7,23,55,127,255,511,1023,2047,4095,8191,16383,32767,65535,131071,262143,524287,1048575,2097151,4194303,8388607,16777215,33554431,67108863,134217727,268435455,536870911,1073741823,2147483647,4294967295,8589934591,17179869183,34359738367,68719476735,137438953471,274877906943,549755813887]
theorem dl15_fixed.tab6:rtab .any (opsOf Tryz.f8 6)=dl15_fixed.T6:=by kernel_rfl
theorem dl15_fixed.bits6:waitsOk dl15_fixed.T6.2 dl15_fixed.B6=true:=by kernel_rfl
set_option maxHeartbeats 8000000 in
set_option maxRecDepth 100000 in
theorem dl15_fixed.calls  (r:Bool) (w:World) (hL_:Laid w) (hr_:Aside0 (r=true)) (h:dl15_fixed.f  = some r) :
  Calls Tryz.prog 8 #[] w fun e w'=>e=.returned (.bool r)∧Below w.heap.size w w':=by
 have hu25:=Tryz.underlying25;have HLD:=Aside0.mk hL_;clear hL_;have HB:=Aside0.mk (Below.refl w.heap.size w);have H:=h;unfold dl15_fixed.f at H;clear h;obtain⟨⟨t101,t102,t103,t104,t105,t106,t107,t108,t109,t110,t111,t112⟩,A1,H⟩:=bi_ H;(try dsimp only at H);obtain⟨⟨t114,t115,t116,t117,t118,t119,t120,t121,t122,t123,t124,t125⟩,A2,H⟩:=bi_ H;(try dsimp only at H);obtain⟨⟨t127,t128,t129,t130,t131,t132,t133,t134,t135,t136,t137,t138⟩,A3,H⟩:=bi_ H;(try dsimp only at H);obtain⟨⟨t140,t141,t142,t143,t144,t145,t146,t147,t148,t149,t150,t151⟩,A4,H⟩:=bi_ H;(try dsimp only at H);obtain⟨⟨t153,t154,t155,t156,t157,t158,t159,t160,t161,t162,t163,t164⟩,A5,H⟩:=bi_ H;(try dsimp only at H);by_cases c6:t112=0
 ·rw[if_pos c6] at H;have c6b0:(t112 == 0)=true:=beq_iff_eq.mpr c6;have c6b1:(t112 != 0)=false:=bne_eq_false_iff_eq.mpr c6;clear c6;obtain⟨⟨t166,t167⟩,A7,H⟩:=bi_ H;(try dsimp only at H);obtain⟨⟨t168,t169⟩,A8,H⟩:=bi_ H;(try dsimp only at H);by_cases c9:(t101.toList == ([109,49]:List UInt8)&&(t102 == 4&&(t103.toList == ([120]:List UInt8)&&(t104.toList == ([121]:List UInt8)&&((t105.toList == t166.toList&&(t106.toList == t167.toList))&&((t107.toList == t168.toList&&(t108.toList == t169.toList))&&(t109 == 5&&(t110 == 6&&(t111 == 9)))))))))=true
  ·rw[if_pos c9] at H;have c9b0:(t101.toList == ([109,49]:List UInt8)&&(t102 == 4&&(t103.toList == ([120]:List UInt8)&&(t104.toList == ([121]:List UInt8)&&((t105.toList == t166.toList&&(t106.toList == t167.toList))&&((t107.toList == t168.toList&&(t108.toList == t169.toList))&&(t109 == 5&&(t110 == 6&&(t111 == 9)))))))))=true:=c9;(try(have c9b1:decide (t101.toList=([109,49]:List UInt8)&&(t102 == 4&&(t103.toList == ([120]:List UInt8)&&(t104.toList == ([121]:List UInt8)&&((t105.toList == t166.toList&&(t106.toList == t167.toList))&&((t107.toList == t168.toList&&(t108.toList == t169.toList))&&(t109 == 5&&(t110 == 6&&(t111 == 9)))))))))=true:=by simpa using c9));(try(have c9b2:(t101.toList == ([109,49]:List UInt8)&&(t102 == 4&&(t103.toList == ([120]:List UInt8)&&(t104.toList == ([121]:List UInt8)&&((t105.toList == t166.toList&&(t106.toList == t167.toList))&&((t107.toList == t168.toList&&(t108.toList == t169.toList))&&(t109 == 5&&(t110 == 6&&(t111 == 9)))))))))=true:=by simpa using c9));clear c9;by_cases c10:t125=0
   ·rw[if_pos c10] at H;have c10b0:(t125 == 0)=true:=beq_iff_eq.mpr c10;have c10b1:(t125 != 0)=false:=bne_eq_false_iff_eq.mpr c10;clear c10;obtain⟨t170,A11,H⟩:=bi_ H;by_cases c12:t170.toList=([115,112,108,105,116,32,115,49,32,120,32,49,32,49,32,49,32,49,46,53]:List UInt8)
    ·rw[if_pos c12] at H;have c12b0:(t170.toList == ([115,112,108,105,116,32,115,49,32,120,32,49,32,49,32,49,32,49,46,53]:List UInt8))=true:=beq_iff_eq.mpr c12;have c12b1:(t170.toList != ([115,112,108,105,116,32,115,49,32,120,32,49,32,49,32,49,32,49,46,53]:List UInt8))=false:=bne_eq_false_iff_eq.mpr c12;clear c12;by_cases c13:t138=150
     ·rw[if_pos c13] at H;have c13b0:(t138 == 150)=true:=beq_iff_eq.mpr c13;have c13b1:(t138 != 150)=false:=bne_eq_false_iff_eq.mpr c13;clear c13;by_cases c14:t151=150
      ·rw[if_pos c14] at H;have c14b0:(t151 == 150)=true:=beq_iff_eq.mpr c14;have c14b1:(t151 != 150)=false:=bne_eq_false_iff_eq.mpr c14;clear c14;by_cases c15:t164=150
       ·rw[if_pos c15] at H;have c15b0:(t164 == 150)=true:=beq_iff_eq.mpr c15;have c15b1:(t164 != 150)=false:=bne_eq_false_iff_eq.mpr c15;clear c15;obtain⟨t171,A16,H⟩:=bi_ H;by_cases c17:t171=true
        ·subst c17;rw[if_pos rfl] at H;obtain⟨t172,A18,H⟩:=bi_ H;obtain rfl:=Option.some.inj H;go_enter Tryz.func8,Tryz.ntmps8
         try go_wp2_with (first|(refine gl_ 12 Tryz.func9 #[.string (⟨#[109,101,114,103,101,114,32,109,49,32,120,32,53,32,54,32,57,32,121,32,48,46,53,32,50]⟩:ByteArray)] ?_;refine mo_ (action_Parse.calls (⟨#[109,101,114,103,101,114,32,109,49,32,120,32,53,32,54,32,57,32,121,32,48,46,53,32,50]⟩:ByteArray) t101 t102 t103 t104 t105 t106 t107 t108 t109 t110 t111 t112 _ (lb_ HLD HB) A1.out) ?_;intro w19 hb;replace HB:=bs_ HB hb;(try clear hb);(try clear hb2);(try clear hk);(try clear hi))|((with_reducible refine gate_dst (N:=1) rfl ?_);refine be_ 1 #[.string (⟨#[]⟩:ByteArray),.int .i64 0,.string (⟨#[]⟩:ByteArray),.string (⟨#[]⟩:ByteArray),.string (⟨#[]⟩:ByteArray),.string (⟨#[]⟩:ByteArray),.string (⟨#[]⟩:ByteArray),.string (⟨#[]⟩:ByteArray),.int .i64 0,.int .i64 0,.int .i64 0] 25 ?_;intro gb113 hg w20 hbox hb;have BK113:=Aside0.mk (hbox);have GW113:=ge_ HB hg;have GE113:=ge_ HB hg;replace HB:=bs_ HB hb;clear hb hbox hg;have hcz21_0:=bc_ BK113 0 rfl;have hcz21_1:=bc_ BK113 1 rfl;have hcz21_2:=bc_ BK113 2 rfl;have hcz21_3:=bc_ BK113 3 rfl;have hcz21_4:=bc_ BK113 4 rfl;have hcz21_5:=bc_ BK113 5 rfl;have hcz21_6:=bc_ BK113 6 rfl;have hcz21_7:=bc_ BK113 7 rfl;have hcz21_8:=bc_ BK113 8 rfl;have hcz21_9:=bc_ BK113 9 rfl;have hcz21_10:=bc_ BK113 10 rfl;have hfz21_0:=blk_frozen BK113.out 0;have hfz21_1:=blk_frozen BK113.out 1;have hfz21_2:=blk_frozen BK113.out 2;have hfz21_3:=blk_frozen BK113.out 3;have hfz21_4:=blk_frozen BK113.out 4;have hfz21_5:=blk_frozen BK113.out 5;have hfz21_6:=blk_frozen BK113.out 6;have hfz21_7:=blk_frozen BK113.out 7;have hfz21_8:=blk_frozen BK113.out 8;have hfz21_9:=blk_frozen BK113.out 9;have hfz21_10:=blk_frozen BK113.out 10)|(refine gl_ 16 Tryz.func9 #[.string (⟨#[115,112,108,105,116,32,115,49,32,120,32,49,32,49,32,49,32,51,47,50]⟩:ByteArray)] ?_;refine mo_ (action_Parse.calls (⟨#[115,112,108,105,116,32,115,49,32,120,32,49,32,49,32,49,32,51,47,50]⟩:ByteArray) t114 t115 t116 t117 t118 t119 t120 t121 t122 t123 t124 t125 _ (lb_ HLD HB) A2.out) ?_;intro w22 hb;replace BK113:=Aside0.mk (blk_below (g:=gb113) (o:=.cells #[.string t101,.int .i64 t102,.string t103,.string t104,.string t105,.string t106,.string t107,.string t108,.int .i64 t109,.int .i64 t110,.int .i64 t111] 25 (0,0)) (rq_ BK113.out) hb);replace HB:=bs_ HB hb;(try clear hb);(try clear hb2);(try clear hk);(try clear hi))|((with_reducible refine gate_dst (N:=3) rfl ?_);refine be_ 3 #[.string (⟨#[]⟩:ByteArray),.int .i64 0,.string (⟨#[]⟩:ByteArray),.string (⟨#[]⟩:ByteArray),.string (⟨#[]⟩:ByteArray),.string (⟨#[]⟩:ByteArray),.string (⟨#[]⟩:ByteArray),.string (⟨#[]⟩:ByteArray),.int .i64 0,.int .i64 0,.int .i64 0] 25 ?_;intro gb126 hg w23 hbox hb;have BK126:=Aside0.mk (hbox);have GW126:=ge_ HB hg;have GE126:=ge_ HB hg;have NB113_126:=nl_ BK113 hg;have NB126_113:=ng_ BK113 hg;replace BK113:=kb_ BK113 hb;replace HB:=bs_ HB hb;clear hb hbox hg;have hnb24:=NB126_113.out;have hnc24:=NB113_126.out;have hcz25_0:=bc_ BK126 0 rfl;have hcz25_1:=bc_ BK126 1 rfl;have hcz25_2:=bc_ BK126 2 rfl;have hcz25_3:=bc_ BK126 3 rfl;have hcz25_4:=bc_ BK126 4 rfl;have hcz25_5:=bc_ BK126 5 rfl;have hcz25_6:=bc_ BK126 6 rfl;have hcz25_7:=bc_ BK126 7 rfl;have hcz25_8:=bc_ BK126 8 rfl;have hcz25_9:=bc_ BK126 9 rfl;have hcz25_10:=bc_ BK126 10 rfl;have hfz25_0:=blk_frozen BK126.out 0;have hfz25_1:=blk_frozen BK126.out 1;have hfz25_2:=blk_frozen BK126.out 2;have hfz25_3:=blk_frozen BK126.out 3;have hfz25_4:=blk_frozen BK126.out 4;have hfz25_5:=blk_frozen BK126.out 5;have hfz25_6:=blk_frozen BK126.out 6;have hfz25_7:=blk_frozen BK126.out 7;have hfz25_8:=blk_frozen BK126.out 8;have hfz25_9:=blk_frozen BK126.out 9;have hfz25_10:=blk_frozen BK126.out 10)|(refine gl_ 20 Tryz.func9 #[.string (⟨#[115,112,108,105,116,32,115,49,32,120,32,50,32,49,32,49,32,51]⟩:ByteArray)] ?_;refine mo_ (action_Parse.calls (⟨#[115,112,108,105,116,32,115,49,32,120,32,50,32,49,32,49,32,51]⟩:ByteArray) t127 t128 t129 t130 t131 t132 t133 t134 t135 t136 t137 t138 _ (lb_ HLD HB) A3.out) ?_;intro w26 hb;replace BK113:=Aside0.mk (blk_below (g:=gb113) (o:=.cells #[.string t101,.int .i64 t102,.string t103,.string t104,.string t105,.string t106,.string t107,.string t108,.int .i64 t109,.int .i64 t110,.int .i64 t111] 25 (0,0)) (fq_ BK113.out) hb);replace BK126:=Aside0.mk (blk_below (g:=gb126) (o:=.cells #[.string t114,.int .i64 t115,.string t116,.string t117,.string t118,.string t119,.string t120,.string t121,.int .i64 t122,.int .i64 t123,.int .i64 t124] 25 (0,0)) (rq_ BK126.out) hb);replace HB:=bs_ HB hb;(try clear hb);(try clear hb2);(try clear hk);(try clear hi))|((with_reducible refine gate_dst (N:=5) rfl ?_);refine be_ 5 #[.string (⟨#[]⟩:ByteArray),.int .i64 0,.string (⟨#[]⟩:ByteArray),.string (⟨#[]⟩:ByteArray),.string (⟨#[]⟩:ByteArray),.string (⟨#[]⟩:ByteArray),.string (⟨#[]⟩:ByteArray),.string (⟨#[]⟩:ByteArray),.int .i64 0,.int .i64 0,.int .i64 0] 25 ?_;intro gb139 hg w27 hbox hb;have BK139:=Aside0.mk (hbox);have GW139:=ge_ HB hg;have GE139:=ge_ HB hg;have NB113_139:=nl_ BK113 hg;have NB139_113:=ng_ BK113 hg;have NB126_139:=nl_ BK126 hg;have NB139_126:=ng_ BK126 hg;replace BK113:=kb_ BK113 hb;replace BK126:=kb_ BK126 hb;replace HB:=bs_ HB hb;clear hb hbox hg;have hnb28:=NB139_113.out;have hnc28:=NB113_139.out;have hnb29:=NB139_126.out;have hnc29:=NB126_139.out;have hcz30_0:=bc_ BK139 0 rfl;have hcz30_1:=bc_ BK139 1 rfl;have hcz30_2:=bc_ BK139 2 rfl;have hcz30_3:=bc_ BK139 3 rfl;have hcz30_4:=bc_ BK139 4 rfl;have hcz30_5:=bc_ BK139 5 rfl;have hcz30_6:=bc_ BK139 6 rfl;have hcz30_7:=bc_ BK139 7 rfl;have hcz30_8:=bc_ BK139 8 rfl;have hcz30_9:=bc_ BK139 9 rfl;have hcz30_10:=bc_ BK139 10 rfl;have hfz30_0:=blk_frozen BK139.out 0;have hfz30_1:=blk_frozen BK139.out 1;have hfz30_2:=blk_frozen BK139.out 2;have hfz30_3:=blk_frozen BK139.out 3;have hfz30_4:=blk_frozen BK139.out 4;have hfz30_5:=blk_frozen BK139.out 5;have hfz30_6:=blk_frozen BK139.out 6;have hfz30_7:=blk_frozen BK139.out 7;have hfz30_8:=blk_frozen BK139.out 8;have hfz30_9:=blk_frozen BK139.out 9;have hfz30_10:=blk_frozen BK139.out 10)|(refine gl_ 24 Tryz.func9 #[.string (⟨#[99,97,115,104,32,100,49,32,120,32,49,32,49,32,49,32,48]⟩:ByteArray)] ?_;refine mo_ (action_Parse.calls (⟨#[99,97,115,104,32,100,49,32,120,32,49,32,49,32,49,32,48]⟩:ByteArray) t140 t141 t142 t143 t144 t145 t146 t147 t148 t149 t150 t151 _ (lb_ HLD HB) A4.out) ?_;intro w31 hb;replace BK113:=Aside0.mk (blk_below (g:=gb113) (o:=.cells #[.string t101,.int .i64 t102,.string t103,.string t104,.string t105,.string t106,.string t107,.string t108,.int .i64 t109,.int .i64 t110,.int .i64 t111] 25 (0,0)) (fq_ BK113.out) hb);replace BK126:=Aside0.mk (blk_below (g:=gb126) (o:=.cells #[.string t114,.int .i64 t115,.string t116,.string t117,.string t118,.string t119,.string t120,.string t121,.int .i64 t122,.int .i64 t123,.int .i64 t124] 25 (0,0)) (fq_ BK126.out) hb);replace BK139:=Aside0.mk (blk_below (g:=gb139) (o:=.cells #[.string t127,.int .i64 t128,.string t129,.string t130,.string t131,.string t132,.string t133,.string t134,.int .i64 t135,.int .i64 t136,.int .i64 t137] 25 (0,0)) (rq_ BK139.out) hb);replace HB:=bs_ HB hb;(try clear hb);(try clear hb2);(try clear hk);(try clear hi))|((with_reducible refine gate_dst (N:=7) rfl ?_);refine be_ 7 #[.string (⟨#[]⟩:ByteArray),.int .i64 0,.string (⟨#[]⟩:ByteArray),.string (⟨#[]⟩:ByteArray),.string (⟨#[]⟩:ByteArray),.string (⟨#[]⟩:ByteArray),.string (⟨#[]⟩:ByteArray),.string (⟨#[]⟩:ByteArray),.int .i64 0,.int .i64 0,.int .i64 0] 25 ?_;intro gb152 hg w32 hbox hb;have BK152:=Aside0.mk (hbox);have GW152:=ge_ HB hg;have GE152:=ge_ HB hg;have NB113_152:=nl_ BK113 hg;have NB152_113:=ng_ BK113 hg;have NB126_152:=nl_ BK126 hg;have NB152_126:=ng_ BK126 hg;have NB139_152:=nl_ BK139 hg;have NB152_139:=ng_ BK139 hg;replace BK113:=kb_ BK113 hb;replace BK126:=kb_ BK126 hb;replace BK139:=kb_ BK139 hb;replace HB:=bs_ HB hb;clear hb hbox hg;have hnb33:=NB152_113.out;have hnc33:=NB113_152.out;have hnb34:=NB152_126.out;have hnc34:=NB126_152.out;have hnb35:=NB152_139.out;have hnc35:=NB139_152.out;have hcz36_0:=bc_ BK152 0 rfl;have hcz36_1:=bc_ BK152 1 rfl;have hcz36_2:=bc_ BK152 2 rfl;have hcz36_3:=bc_ BK152 3 rfl;have hcz36_4:=bc_ BK152 4 rfl;have hcz36_5:=bc_ BK152 5 rfl;have hcz36_6:=bc_ BK152 6 rfl;have hcz36_7:=bc_ BK152 7 rfl;have hcz36_8:=bc_ BK152 8 rfl;have hcz36_9:=bc_ BK152 9 rfl;have hcz36_10:=bc_ BK152 10 rfl;have hfz36_0:=blk_frozen BK152.out 0;have hfz36_1:=blk_frozen BK152.out 1;have hfz36_2:=blk_frozen BK152.out 2;have hfz36_3:=blk_frozen BK152.out 3;have hfz36_4:=blk_frozen BK152.out 4;have hfz36_5:=blk_frozen BK152.out 5;have hfz36_6:=blk_frozen BK152.out 6;have hfz36_7:=blk_frozen BK152.out 7;have hfz36_8:=blk_frozen BK152.out 8;have hfz36_9:=blk_frozen BK152.out 9;have hfz36_10:=blk_frozen BK152.out 10)|(refine gl_ 28 Tryz.func9 #[.string (⟨#[115,112,105,110,32,112,49,32,120,32,49,32,49,32,49,32,120,32,49]⟩:ByteArray)] ?_;refine mo_ (action_Parse.calls (⟨#[115,112,105,110,32,112,49,32,120,32,49,32,49,32,49,32,120,32,49]⟩:ByteArray) t153 t154 t155 t156 t157 t158 t159 t160 t161 t162 t163 t164 _ (lb_ HLD HB) A5.out) ?_;intro w37 hb;replace BK113:=Aside0.mk (blk_below (g:=gb113) (o:=.cells #[.string t101,.int .i64 t102,.string t103,.string t104,.string t105,.string t106,.string t107,.string t108,.int .i64 t109,.int .i64 t110,.int .i64 t111] 25 (0,0)) (fq_ BK113.out) hb);replace BK126:=Aside0.mk (blk_below (g:=gb126) (o:=.cells #[.string t114,.int .i64 t115,.string t116,.string t117,.string t118,.string t119,.string t120,.string t121,.int .i64 t122,.int .i64 t123,.int .i64 t124] 25 (0,0)) (fq_ BK126.out) hb);replace BK139:=Aside0.mk (blk_below (g:=gb139) (o:=.cells #[.string t127,.int .i64 t128,.string t129,.string t130,.string t131,.string t132,.string t133,.string t134,.int .i64 t135,.int .i64 t136,.int .i64 t137] 25 (0,0)) (fq_ BK139.out) hb);replace BK152:=Aside0.mk (blk_below (g:=gb152) (o:=.cells #[.string t140,.int .i64 t141,.string t142,.string t143,.string t144,.string t145,.string t146,.string t147,.int .i64 t148,.int .i64 t149,.int .i64 t150] 25 (0,0)) (rq_ BK152.out) hb);replace HB:=bs_ HB hb;(try clear hb);(try clear hb2);(try clear hk);(try clear hi))|((with_reducible refine gate_dst (N:=9) rfl ?_);refine be_ 9 #[.string (⟨#[]⟩:ByteArray),.int .i64 0,.string (⟨#[]⟩:ByteArray),.string (⟨#[]⟩:ByteArray),.string (⟨#[]⟩:ByteArray),.string (⟨#[]⟩:ByteArray),.string (⟨#[]⟩:ByteArray),.string (⟨#[]⟩:ByteArray),.int .i64 0,.int .i64 0,.int .i64 0] 25 ?_;intro gb165 hg w38 hbox hb;have BK165:=Aside0.mk (hbox);have GW165:=ge_ HB hg;have GE165:=ge_ HB hg;have NB113_165:=nl_ BK113 hg;have NB165_113:=ng_ BK113 hg;have NB126_165:=nl_ BK126 hg;have NB165_126:=ng_ BK126 hg;have NB139_165:=nl_ BK139 hg;have NB165_139:=ng_ BK139 hg;have NB152_165:=nl_ BK152 hg;have NB165_152:=ng_ BK152 hg;replace BK113:=kb_ BK113 hb;replace BK126:=kb_ BK126 hb;replace BK139:=kb_ BK139 hb;replace BK152:=kb_ BK152 hb;replace HB:=bs_ HB hb;clear hb hbox hg;have hnb39:=NB165_113.out;have hnc39:=NB113_165.out;have hnb40:=NB165_126.out;have hnc40:=NB126_165.out;have hnb41:=NB165_139.out;have hnc41:=NB139_165.out;have hnb42:=NB165_152.out;have hnc42:=NB152_165.out;have hcz43_0:=bc_ BK165 0 rfl;have hcz43_1:=bc_ BK165 1 rfl;have hcz43_2:=bc_ BK165 2 rfl;have hcz43_3:=bc_ BK165 3 rfl;have hcz43_4:=bc_ BK165 4 rfl;have hcz43_5:=bc_ BK165 5 rfl;have hcz43_6:=bc_ BK165 6 rfl;have hcz43_7:=bc_ BK165 7 rfl;have hcz43_8:=bc_ BK165 8 rfl;have hcz43_9:=bc_ BK165 9 rfl;have hcz43_10:=bc_ BK165 10 rfl;have hfz43_0:=blk_frozen BK165.out 0;have hfz43_1:=blk_frozen BK165.out 1;have hfz43_2:=blk_frozen BK165.out 2;have hfz43_3:=blk_frozen BK165.out 3;have hfz43_4:=blk_frozen BK165.out 4;have hfz43_5:=blk_frozen BK165.out 5;have hfz43_6:=blk_frozen BK165.out 6;have hfz43_7:=blk_frozen BK165.out 7;have hfz43_8:=blk_frozen BK165.out 8;have hfz43_9:=blk_frozen BK165.out 9;have hfz43_10:=blk_frozen BK165.out 10))
         have n0_:Aside0 ((((((((((((w38.setCell ⟨gb165,0,none⟩ (.string t153)).setCell ⟨gb165,1,none⟩ (.int .i64 t154)).setCell ⟨gb165,2,none⟩ (.string t155)).setCell ⟨gb165,3,none⟩ (.string t156)).setCell ⟨gb165,4,none⟩ (.string t157)).setCell ⟨gb165,5,none⟩ (.string t158)).setCell ⟨gb165,6,none⟩ (.string t159)).setCell ⟨gb165,7,none⟩ (.string t160)).setCell ⟨gb165,8,none⟩ (.int .i64 t161)).setCell ⟨gb165,9,none⟩ (.int .i64 t162)).setCell ⟨gb165,10,none⟩ (.int .i64 t163)).heap[gb113]?=some (.cells #[.string t101,.int .i64 t102,.string t103,.string t104,.string t105,.string t106,.string t107,.string t108,.int .i64 t109,.int .i64 t110,.int .i64 t111] 25 (0,0))):=⟨fq_ BK113.out⟩;have n1_:Aside0 ((((((((((((w38.setCell ⟨gb165,0,none⟩ (.string t153)).setCell ⟨gb165,1,none⟩ (.int .i64 t154)).setCell ⟨gb165,2,none⟩ (.string t155)).setCell ⟨gb165,3,none⟩ (.string t156)).setCell ⟨gb165,4,none⟩ (.string t157)).setCell ⟨gb165,5,none⟩ (.string t158)).setCell ⟨gb165,6,none⟩ (.string t159)).setCell ⟨gb165,7,none⟩ (.string t160)).setCell ⟨gb165,8,none⟩ (.int .i64 t161)).setCell ⟨gb165,9,none⟩ (.int .i64 t162)).setCell ⟨gb165,10,none⟩ (.int .i64 t163)).heap[gb126]?=some (.cells #[.string t114,.int .i64 t115,.string t116,.string t117,.string t118,.string t119,.string t120,.string t121,.int .i64 t122,.int .i64 t123,.int .i64 t124] 25 (0,0))):=⟨fq_ BK126.out⟩;have n2_:Aside0 ((((((((((((w38.setCell ⟨gb165,0,none⟩ (.string t153)).setCell ⟨gb165,1,none⟩ (.int .i64 t154)).setCell ⟨gb165,2,none⟩ (.string t155)).setCell ⟨gb165,3,none⟩ (.string t156)).setCell ⟨gb165,4,none⟩ (.string t157)).setCell ⟨gb165,5,none⟩ (.string t158)).setCell ⟨gb165,6,none⟩ (.string t159)).setCell ⟨gb165,7,none⟩ (.string t160)).setCell ⟨gb165,8,none⟩ (.int .i64 t161)).setCell ⟨gb165,9,none⟩ (.int .i64 t162)).setCell ⟨gb165,10,none⟩ (.int .i64 t163)).heap[gb139]?=some (.cells #[.string t127,.int .i64 t128,.string t129,.string t130,.string t131,.string t132,.string t133,.string t134,.int .i64 t135,.int .i64 t136,.int .i64 t137] 25 (0,0))):=⟨fq_ BK139.out⟩;have n3_:Aside0 ((((((((((((w38.setCell ⟨gb165,0,none⟩ (.string t153)).setCell ⟨gb165,1,none⟩ (.int .i64 t154)).setCell ⟨gb165,2,none⟩ (.string t155)).setCell ⟨gb165,3,none⟩ (.string t156)).setCell ⟨gb165,4,none⟩ (.string t157)).setCell ⟨gb165,5,none⟩ (.string t158)).setCell ⟨gb165,6,none⟩ (.string t159)).setCell ⟨gb165,7,none⟩ (.string t160)).setCell ⟨gb165,8,none⟩ (.int .i64 t161)).setCell ⟨gb165,9,none⟩ (.int .i64 t162)).setCell ⟨gb165,10,none⟩ (.int .i64 t163)).heap[gb152]?=some (.cells #[.string t140,.int .i64 t141,.string t142,.string t143,.string t144,.string t145,.string t146,.string t147,.int .i64 t148,.int .i64 t149,.int .i64 t150] 25 (0,0))):=⟨fq_ BK152.out⟩;have n4_:Aside0 ((((((((((((w38.setCell ⟨gb165,0,none⟩ (.string t153)).setCell ⟨gb165,1,none⟩ (.int .i64 t154)).setCell ⟨gb165,2,none⟩ (.string t155)).setCell ⟨gb165,3,none⟩ (.string t156)).setCell ⟨gb165,4,none⟩ (.string t157)).setCell ⟨gb165,5,none⟩ (.string t158)).setCell ⟨gb165,6,none⟩ (.string t159)).setCell ⟨gb165,7,none⟩ (.string t160)).setCell ⟨gb165,8,none⟩ (.int .i64 t161)).setCell ⟨gb165,9,none⟩ (.int .i64 t162)).setCell ⟨gb165,10,none⟩ (.int .i64 t163)).heap[gb165]?=some (.cells #[.string t153,.int .i64 t154,.string t155,.string t156,.string t157,.string t158,.string t159,.string t160,.int .i64 t161,.int .i64 t162,.int .i64 t163] 25 (0,0))):=⟨rq_ BK165.out⟩;have n5_:Aside0 (Below w.heap.size w (((((((((((w38.setCell ⟨gb165,0,none⟩ (.string t153)).setCell ⟨gb165,1,none⟩ (.int .i64 t154)).setCell ⟨gb165,2,none⟩ (.string t155)).setCell ⟨gb165,3,none⟩ (.string t156)).setCell ⟨gb165,4,none⟩ (.string t157)).setCell ⟨gb165,5,none⟩ (.string t158)).setCell ⟨gb165,6,none⟩ (.string t159)).setCell ⟨gb165,7,none⟩ (.string t160)).setCell ⟨gb165,8,none⟩ (.int .i64 t161)).setCell ⟨gb165,9,none⟩ (.int .i64 t162)).setCell ⟨gb165,10,none⟩ (.int .i64 t163))):=⟨b_ HB.out⟩;(try clear BK113);(try clear BK126);(try clear BK139);(try clear BK152);(try clear BK165);(try clear HB);generalize (((((((((((w38.setCell ⟨gb165,0,none⟩ (.string t153)).setCell ⟨gb165,1,none⟩ (.int .i64 t154)).setCell ⟨gb165,2,none⟩ (.string t155)).setCell ⟨gb165,3,none⟩ (.string t156)).setCell ⟨gb165,4,none⟩ (.string t157)).setCell ⟨gb165,5,none⟩ (.string t158)).setCell ⟨gb165,6,none⟩ (.string t159)).setCell ⟨gb165,7,none⟩ (.string t160)).setCell ⟨gb165,8,none⟩ (.int .i64 t161)).setCell ⟨gb165,9,none⟩ (.int .i64 t162)).setCell ⟨gb165,10,none⟩ (.int .i64 t163))=w44 at n0_ n1_ n2_ n3_ n4_ n5_ ⊢;have BK113:=n0_;have BK126:=n1_;have BK139:=n2_;have BK152:=n3_;have BK165:=n4_;have HB:=n5_;clear n0_ n1_ n2_ n3_ n4_ n5_;replace BK113:=Aside0.mk (blk_drew BK113.out);replace BK126:=Aside0.mk (blk_drew BK126.out);replace BK139:=Aside0.mk (blk_drew BK139.out);replace BK152:=Aside0.mk (blk_drew BK152.out);replace BK165:=Aside0.mk (blk_drew BK165.out);replace HB:=Aside0.mk (below_drew1 HB.out);refine sa_ 40 (fun w'=>w'.cell? ⟨gb113,0,none⟩=some (.string t101)∧w'.cell? ⟨gb113,1,none⟩=some (.int .i64 t102)∧w'.cell? ⟨gb113,2,none⟩=some (.string t103)∧w'.cell? ⟨gb113,3,none⟩=some (.string t104)∧w'.cell? ⟨gb113,4,none⟩=some (.string t105)∧w'.cell? ⟨gb113,5,none⟩=some (.string t106)∧w'.cell? ⟨gb113,6,none⟩=some (.string t107)∧w'.cell? ⟨gb113,7,none⟩=some (.string t108)∧w'.cell? ⟨gb113,8,none⟩=some (.int .i64 t109)∧w'.cell? ⟨gb113,9,none⟩=some (.int .i64 t110)∧w'.cell? ⟨gb113,10,none⟩=some (.int .i64 t111)∧w'.cell? ⟨gb126,0,none⟩=some (.string t114)∧w'.cell? ⟨gb126,1,none⟩=some (.int .i64 t115)∧w'.cell? ⟨gb126,2,none⟩=some (.string t116)∧w'.cell? ⟨gb126,3,none⟩=some (.string t117)∧w'.cell? ⟨gb126,4,none⟩=some (.string t118)∧w'.cell? ⟨gb126,5,none⟩=some (.string t119)∧w'.cell? ⟨gb126,6,none⟩=some (.string t120)∧w'.cell? ⟨gb126,7,none⟩=some (.string t121)∧w'.cell? ⟨gb126,8,none⟩=some (.int .i64 t122)∧w'.cell? ⟨gb126,9,none⟩=some (.int .i64 t123)∧w'.cell? ⟨gb126,10,none⟩=some (.int .i64 t124)) (fun hHeld=>?_);refine with_tabW dl15_fixed.tab6 dl15_fixed.bits6 (fun HT_ HW_=>?_);generalize w44.drew=w45 at BK113 BK126 BK139 BK152 BK165 HB hHeld ⊢;refine pu_ 0 31 rfl rfl HT_ ?_;refine pu_ 1 32 rfl rfl HT_ ?_;refine pu_ 2 33 rfl rfl HT_ ?_;refine take_ (i:=3) (N:=some 34) (v:=?_) (a':=?_) #[true,true,true,true,false,false,false,false,false,false,false,false,false,false,false,false,false,false,false,false,false,false,false,false,false,false,false,false,false,false,false,false,false,false,false,false,false,false,false,false] rfl rfl (take_ofW HT_.out HW_.out (by kernel_rfl)) (fun _ _ _ h=>h) (Or.inl ⟨by rfl,?_⟩) hHeld ?_ ?_;rotate_left
         ·rintro w' ⟨s0,s1,s2,s3,s4,s5,s6,s7,s8,s9,s10,s11,s12,s13,s14,s15,s16,s17,s18,s19,s20,s21⟩;go_simp;with_reducible rfl
         rotate_left
         ·exact ap_
         refine on_ 4 (some 35) rfl rfl HT_ (fun K hK=>?_);refine gs_ Tryz.func16 #[.int .i64 1,.int .i64 2] ?_;refine mo_ (r3_One.calls 1 2 t166 t167 _ A7.out) ?_;intro w46 hb;replace BK113:=kb_ BK113 hb;replace BK126:=kb_ BK126 hb;replace BK139:=kb_ BK139 hb;replace BK152:=kb_ BK152 hb;replace BK165:=kb_ BK165 hb;replace HB:=bs_ HB hb;(try clear hb);refine hk_ hK (fun hHeld=>?_);clear hK K;refine nm_ ?_;refine on_ 5 (some 36) rfl rfl HT_ (fun K hK=>?_);refine gs_ Tryz.func15 #[.int .i64 2] ?_;refine mo_ (r3_Of.calls 2 t168 t169 _ A8.out) ?_;intro w47 hb;replace BK113:=kb_ BK113 hb;replace BK126:=kb_ BK126 hb;replace BK139:=kb_ BK139 hb;replace BK152:=kb_ BK152 hb;replace BK165:=kb_ BK165 hb;replace HB:=bs_ HB hb;(try clear hb);refine hk_ hK (fun hHeld=>?_);clear hK K;refine nm_ ?_;refine pu_ 6 37 rfl rfl HT_ ?_;refine pu_ 7 38 rfl rfl HT_ ?_;refine pu_ 8 39 rfl rfl HT_ ?_;refine pu_ 9 40 rfl rfl HT_ ?_;refine pu_ 10 41 rfl rfl HT_ ?_;refine pu_ 11 42 rfl rfl HT_ ?_;refine pu_ 12 43 rfl rfl HT_ ?_;refine pu_ 13 44 rfl rfl HT_ ?_;refine take_ (i:=14) (N:=some 45) (v:=?_) (a':=?_) #[true,true,true,true,true,true,true,true,true,true,true,true,true,true,true,false,false,false,false,false,false,false,false,false,false,false,false,false,false,false,false,false,false,false,false,false,false,false,false,false] rfl rfl (take_ofW HT_.out HW_.out (by kernel_rfl)) (fun _ _ _ h=>h) (Or.inl ⟨by rfl,?_⟩) hHeld ?_ ?_;rotate_left
         ·rintro w' ⟨s0,s1,s2,s3,s4,s5,s6,s7,s8,s9,s10,s11,s12,s13,s14,s15,s16,s17,s18,s19,s20,s21⟩;go_simp;with_reducible rfl
         rotate_left
         ·exact ap_
         refine on_ 15 (some 46) rfl rfl HT_ (fun K hK=>?_);refine gs_ Tryz.func13 #[.agg #[.string t114,.int .i64 t115,.string t116,.string t117,.string t118,.string t119,.string t120,.string t121,.int .i64 t122,.int .i64 t123,.int .i64 t124]] ?_;refine mo_ (action_Print.calls t114 t115 t116 t117 t118 t119 t120 t121 t122 t123 t124 t170 _ (lb_ HLD HB) A11.out) ?_;intro w48 hb;replace BK113:=kb_ BK113 hb;replace BK126:=kb_ BK126 hb;replace BK139:=kb_ BK139 hb;replace BK152:=kb_ BK152 hb;replace BK165:=kb_ BK165 hb;replace HB:=bs_ HB hb;(try clear hb);refine hk_ hK (fun hHeld=>?_);clear hK K;refine nm_ ?_;refine pu_ 16 47 rfl rfl HT_ ?_;refine pu_ 17 48 rfl rfl HT_ ?_;refine pu_ 18 49 rfl rfl HT_ ?_;refine pu_ 19 50 rfl rfl HT_ ?_;refine pu_ 20 51 rfl rfl HT_ ?_;refine pu_ 21 52 rfl rfl HT_ ?_;refine pu_ 22 53 rfl rfl HT_ ?_;refine pu_ 23 54 rfl rfl HT_ ?_;refine pu_ 24 55 rfl rfl HT_ ?_;refine pu_ 25 56 rfl rfl HT_ ?_;refine pu_ 26 57 rfl rfl HT_ ?_;refine pu_ 27 58 rfl rfl HT_ ?_;refine pu_ 28 59 rfl rfl HT_ ?_;refine pu_ 29 60 rfl rfl HT_ ?_;refine pu_ 30 61 rfl rfl HT_ ?_;refine take_ (i:=31) (N:=some 62) (v:=?_) (a':=?_) #[true,true,true,true,true,true,true,true,true,true,true,true,true,true,true,true,true,true,true,true,true,true,true,true,true,true,true,true,true,true,true,true,false,false,false,false,false,false,false,false] rfl rfl (take_ofW HT_.out HW_.out (by kernel_rfl)) (fun _ _ _ h=>h) (Or.inl ⟨by rfl,?_⟩) hHeld ?_ ?_;rotate_left
         ·rintro w' ⟨s0,s1,s2,s3,s4,s5,s6,s7,s8,s9,s10,s11,s12,s13,s14,s15,s16,s17,s18,s19,s20,s21⟩;go_simp;with_reducible rfl
         rotate_left
         ·exact ap_
         refine on_ 32 (some 63) rfl rfl HT_ (fun K hK=>?_);refine gs_ Tryz.func11 #[.agg #[.string t101,.int .i64 t102,.string t103,.string t104,.string t105,.string t106,.string t107,.string t108,.int .i64 t109,.int .i64 t110,.int .i64 t111]] ?_;refine mo_ (action_May.calls t101 t102 t103 t104 t105 t106 t107 t108 t109 t110 t111 true _ (lb_ HLD HB) A16.out) ?_;intro w49 hb;replace BK113:=kb_ BK113 hb;replace BK126:=kb_ BK126 hb;replace BK139:=kb_ BK139 hb;replace BK152:=kb_ BK152 hb;replace BK165:=kb_ BK165 hb;replace HB:=bs_ HB hb;(try clear hb);refine hk_ hK (fun hHeld=>?_);clear hK K;refine nm_ ?_;refine pu_ 33 64 rfl rfl HT_ ?_;refine pu_ 34 65 rfl rfl HT_ ?_;refine pu_ 35 66 rfl rfl HT_ ?_;refine on_ 36 (some 67) rfl rfl HT_ (fun K hK=>?_);refine gs_ Tryz.func11 #[.agg #[.string (⟨#[]⟩:ByteArray),.int .i64 0,.string (⟨#[]⟩:ByteArray),.string (⟨#[]⟩:ByteArray),.string (⟨#[]⟩:ByteArray),.string (⟨#[]⟩:ByteArray),.string (⟨#[]⟩:ByteArray),.string (⟨#[]⟩:ByteArray),.int .i64 0,.int .i64 0,.int .i64 0]] ?_;refine mo_ (action_May.calls (⟨#[]⟩:ByteArray) 0 (⟨#[]⟩:ByteArray) (⟨#[]⟩:ByteArray) (⟨#[]⟩:ByteArray) (⟨#[]⟩:ByteArray) (⟨#[]⟩:ByteArray) (⟨#[]⟩:ByteArray) 0 0 0 t172 _ (lb_ HLD HB) A18.out) ?_;intro w50 hb;replace BK113:=kb_ BK113 hb;replace BK126:=kb_ BK126 hb;replace BK139:=kb_ BK139 hb;replace BK152:=kb_ BK152 hb;replace BK165:=kb_ BK165 hb;replace HB:=bs_ HB hb;(try clear hb);refine hk_ hK (fun hHeld=>?_);clear hK K;refine nm_ ?_;refine pu_ 37 68 rfl rfl HT_ ?_;refine pu_ 38 69 rfl rfl HT_ ?_;refine pu_ 39 0 rfl rfl HT_ ?_;refine done_ (done_of HT_.out (by kernel_rfl)) ?_
         try go_wp2
         go_ret
         exact⟨er_,b_ HB.out⟩
        ·replace c17:=Bool.eq_false_iff.mpr c17;subst c17
         have H1:(some false)=some r:=by rw[if_neg (show ¬ (false=true) by decide)] at H;exact H
         exact absurd (H1.trans (congrArg some hr_.out)) (by decide)
       ·rw[if_neg c15] at H;exact absurd (H.trans (congrArg some hr_.out)) (by decide)
      ·rw[if_neg c14] at H;exact absurd (H.trans (congrArg some hr_.out)) (by decide)
     ·rw[if_neg c13] at H;exact absurd (H.trans (congrArg some hr_.out)) (by decide)
    ·rw[if_neg c12] at H;exact absurd (H.trans (congrArg some hr_.out)) (by decide)
   ·rw[if_neg c10] at H;exact absurd (H.trans (congrArg some hr_.out)) (by decide)
  ·rw[if_neg c9] at H;exact absurd (H.trans (congrArg some hr_.out)) (by decide)
 ·rw[if_neg c6] at H;exact absurd (H.trans (congrArg some hr_.out)) (by decide)
end Go.Proofs.YtoghmeffpgbcfaaGreatDoor.Pf15
end

section
namespace Go.Proofs.YtoghmeffpgbcfaaGreatDoor.Pf15
end Go.Proofs.YtoghmeffpgbcfaaGreatDoor.Pf15
end

section
namespace Go.Proofs.YtoghmeffpgbcfaaGreatDoor
open Go.RowKit
theorem fixed15_true:Pf15.dl15_fixed.f=some true:=by kernel_rfl
def dl15_fixed.f:Option Bool:=some true
theorem dl15_fixed.calls (r:Bool) (w:World) (hL_:Laid w) (h:dl15_fixed.f=some r) :
  Calls Tryz.prog 8 #[] w fun e w'=>e=.returned (.bool r)∧Below w.heap.size w w' :=
 Pf15.dl15_fixed.calls r w hL_ ⟨(Option.some.inj h).symm⟩ (fixed15_true.trans h)
end Go.Proofs.YtoghmeffpgbcfaaGreatDoor
end

section
namespace Go.Proofs.YtoghmeffpgbcfaaGreatDoor
open Go.ChangeShapes Go.WideShapes Go.ChangeAt Go.RowKit Go.Deep Go.WideElems Go.Maps Go.Joins
section
variable {H:Type} {enc:TypeId×Value→H} {P:Program} {w:World} {base:Nat} {spare:Nat→Bool} {held:Bool}
theorem str_of {t:TypeId} {n:Nat} {v:Value} {y:DataW H×List MemPlace} (ht:P.underlying t=some .string) (h:DataW.trod enc P w base spare held n t [v]=some y):∃ s:ByteArray,v=.string s∧y=(.lit (.string s.data.toList),[])∧s.size≤maxLen:=by
 obtain⟨s,h1,h2,h3⟩:=DataW.trod_string ht h
 exact⟨s,by simpa using h1,h2,h3⟩
theorem okWide_array {r:Reach} {b0:Nat} {t e:TypeId} {n:Nat} {v:Value} (ht:P.underlying t=some (.array n e)) (h:Value.okWide P w r b0 t v):∃ cs,v=.agg cs∧cs.size=P.cellsOf t:=by
 obtain⟨cs,h1,h2,_⟩:∃ cs,v=.agg cs∧cs.size=P.cellsOf t∧Row.okWide P w r b0 t cs:=by simpa [Value.okWide,ht] using h
 exact⟨cs,h1,h2⟩
end
end Go.Proofs.YtoghmeffpgbcfaaGreatDoor
end

section
namespace Go.Proofs.YtoghmeffpgbcfaaGreatDoor
open Go.ChangeShapes Go.WideShapes Go.ChangeAt Go.RowKit Go.Deep Go.WideElems Go.Maps Go.Joins
section
variable {H:Type} {enc:TypeId×Value→H} {P:Program} {w:World} {base:Nat} {spare:Nat→Bool} {held:Bool}
theorem list11 {α:Type} {l:List α} (h:l.length=11):∃ c0 c1 c2 c3 c4 c5 c6 c7 c8 c9 c10,l=[c0,c1,c2,c3,c4,c5,c6,c7,c8,c9,c10]:=by
 match l,h with
 | [c0,c1,c2,c3,c4,c5,c6,c7,c8,c9,c10],_=>exact⟨c0,c1,c2,c3,c4,c5,c6,c7,c8,c9,c10,rfl⟩
theorem int_of {t:TypeId} {n:Nat} {v:Value} {y:DataW H×List MemPlace} (ht:P.underlying t=some (.int .i64)) (h:DataW.trod enc P w base spare held n t [v]=some y):∃ z:Int,v=.int .i64 z∧y=(.lit (.int .i64 z),[])∧(Lit.int .i64 z).wf=true:=by
 obtain⟨z,h1,h2,h3⟩:=DataW.trod_int ht h
 exact⟨z,by simpa using h1,h2,h3⟩
structure ActT (P:Program) (tA tR tS tI:TypeId) (f0 f1 f2 f3 f4 f5 f6 f7 f8 g0 g1:Field):Prop where
 hs:P.underlying tA=some (.struct #[f0,f1,f2,f3,f4,f5,f6,f7,f8])
 hT:[f0.type,f1.type,f2.type,f3.type,f4.type,f5.type,f6.type,f7.type,f8.type]=[tS,tI,tS,tS,tR,tR,tI,tI,tI]
 hO:[f0.offset,f1.offset,f2.offset,f3.offset,f4.offset,f5.offset,f6.offset,f7.offset,f8.offset]=[0,1,2,3,4,6,8,9,10]
 hS:P.underlying tS=some .string
 hI:P.underlying tI=some (.int .i64)
 hR:P.underlying tR=some (.struct #[g0,g1])
 hG:[g0.type,g1.type]=[tS,tS]
 hP:[g0.offset,g1.offset]=[0,1]
 cS:P.cellsOf tS=1
 cI:P.cellsOf tI=1
 cR:P.cellsOf tR=2
 cA:P.cellsOf tA=11
variable {tA tR tS tI:TypeId} {f0 f1 f2 f3 f4 f5 f6 f7 f8 g0 g1:Field}
theorem rat_of (A:ActT P tA tR tS tI f0 f1 f2 f3 f4 f5 f6 f7 f8 g0 g1) {n:Nat} {c0 c1:Value} {x:DataW H×List MemPlace} (h:DataW.trod enc P w base spare held n tR [c0,c1]=some x) :
  ∃ a b:ByteArray,c0=.string a∧c1=.string b∧x=(.agg [.lit (.string a.data.toList),.lit (.string b.data.toList)],[])∧a.size≤maxLen∧b.size≤maxLen:=by
 cases n with
 | zero=>simp[DataW.trod] at h
 | succ n =>
  have hG:=A.hG
  have hP:=A.hP
  simp only[List.cons.injEq,and_true] at hG hP
  obtain⟨t0,t1⟩:=hG
  obtain⟨p0,p1⟩:=hP
  unfold DataW.trod at h
  rw[A.hR] at h
  simp[t0,t1,p0,p1,A.cS,A.cR] at h
  cases h0:DataW.trod enc P w base spare held n tS [c0] with
  | none=>simp[h0] at h
  | some y0 =>
   cases h1:DataW.trod enc P w base spare held n tS [c1] with
   | none=>simp[h0,h1] at h
   | some y1 =>
    simp[h0,h1] at h
    obtain⟨a,rfl,rfl,ha⟩:=str_of A.hS h0
    obtain⟨b,rfl,rfl,hb⟩:=str_of A.hS h1
    exact⟨a,b,rfl,rfl,h.symm,ha,hb⟩
theorem open_act (A:ActT P tA tR tS tI f0 f1 f2 f3 f4 f5 f6 f7 f8 g0 g1) {r:Reach} {b0:Nat} {v:Value} {d:DataW H} {p:List MemPlace} (hv:Value.okWide P w r b0 tA v) (h:DataW.Trod enc P w base spare held tA v d p) :
  ∃ (a0:ByteArray) (a1:Int) (a2 a3 a4 a5 a6 a7:ByteArray) (a8 a9 a10:Int),v=.agg #[.string a0,.int .i64 a1,.string a2,.string a3,.string a4,.string a5,.string a6,.string a7,.int .i64 a8,.int .i64 a9,.int .i64 a10] ∧
   d=.agg [.lit (.string a0.data.toList),.lit (.int .i64 a1),.lit (.string a2.data.toList),.lit (.string a3.data.toList),.agg [.lit (.string a4.data.toList),.lit (.string a5.data.toList)],.agg [.lit (.string a6.data.toList),.lit (.string a7.data.toList)],.lit (.int .i64 a8),.lit (.int .i64 a9),.lit (.int .i64 a10)]∧p=[] ∧
   (a0.size≤maxLen∧a2.size≤maxLen∧a3.size≤maxLen∧a4.size≤maxLen∧a5.size≤maxLen∧a6.size≤maxLen∧a7.size≤maxLen∧(Lit.int .i64 a1).wf=true∧(Lit.int .i64 a8).wf=true∧(Lit.int .i64 a9).wf=true∧(Lit.int .i64 a10).wf=true):=by
 obtain⟨cs,rfl,hsz⟩:=okWide_struct A.hs hv
 obtain⟨cl⟩:=cs
 obtain⟨c0,c1,c2,c3,c4,c5,c6,c7,c8,c9,c10,rfl⟩:=list11 (hsz.trans A.cA)
 obtain⟨fuel,hf⟩:=h
 have hT:=A.hT
 have hO:=A.hO
 simp only[List.cons.injEq,and_true] at hT hO
 obtain⟨t0,t1,t2,t3,t4,t5,t6,t7,t8⟩:=hT
 obtain⟨o0,o1,o2,o3,o4,o5,o6,o7,o8⟩:=hO
 cases fuel with
 | zero=>simp[DataW.trod] at hf
 | succ n =>
  unfold DataW.trod at hf
  rw[A.hs] at hf
  simp[Value.cells,t0,t1,t2,t3,t4,t5,t6,t7,t8,o0,o1,o2,o3,o4,o5,o6,o7,o8,A.cS,A.cI,A.cR,A.cA] at hf
  cases h0:DataW.trod enc P w base spare held n tS [c0] <;> simp[h0] at hf
  cases h1:DataW.trod enc P w base spare held n tI [c1] <;> simp[h1] at hf
  cases h2:DataW.trod enc P w base spare held n tS [c2] <;> simp[h2] at hf
  cases h3:DataW.trod enc P w base spare held n tS [c3] <;> simp[h3] at hf
  cases h4:DataW.trod enc P w base spare held n tR [c4,c5] <;> simp[h4] at hf
  cases h5:DataW.trod enc P w base spare held n tR [c6,c7] <;> simp[h5] at hf
  cases h6:DataW.trod enc P w base spare held n tI [c8] <;> simp[h6] at hf
  cases h7:DataW.trod enc P w base spare held n tI [c9] <;> simp[h7] at hf
  cases h8:DataW.trod enc P w base spare held n tI [c10] <;> simp[h8] at hf
  obtain⟨a0,rfl,rfl,z0⟩:=str_of A.hS h0
  obtain⟨a1,rfl,rfl,z1⟩:=int_of A.hI h1
  obtain⟨a2,rfl,rfl,z2⟩:=str_of A.hS h2
  obtain⟨a3,rfl,rfl,z3⟩:=str_of A.hS h3
  obtain⟨a4,a5,rfl,rfl,rfl,z4,z5⟩:=rat_of A h4
  obtain⟨a6,a7,rfl,rfl,rfl,z6,z7⟩:=rat_of A h5
  obtain⟨a8,rfl,rfl,z8⟩:=int_of A.hI h6
  obtain⟨a9,rfl,rfl,z9⟩:=int_of A.hI h7
  obtain⟨a10,rfl,rfl,z10⟩:=int_of A.hI h8
  exact⟨a0,a1,a2,a3,a4,a5,a6,a7,a8,a9,a10,rfl,hf.1.symm,hf.2.symm,z0,z2,z3,z4,z5,z6,z7,z1,z8,z9,z10⟩
theorem sized_act (A:ActT P tA tR tS tI f0 f1 f2 f3 f4 f5 f6 f7 f8 g0 g1) {ts:List TypeId} {ds:List (DataW H)} (h:(DataW.weightsEach P ts ds).all (·≤reachBytes)=true) {j:Nat} {a0:ByteArray} {a1:Int} {a2 a3 a4 a5 a6 a7:ByteArray} {a8 a9 a10:Int} (ht:ts[j]?=some tA)
  (hd:ds[j]?=some (.agg [.lit (.string a0.data.toList),.lit (.int .i64 a1),.lit (.string a2.data.toList),.lit (.string a3.data.toList),.agg [.lit (.string a4.data.toList),.lit (.string a5.data.toList)],.agg [.lit (.string a6.data.toList),.lit (.string a7.data.toList)],.lit (.int .i64 a8),.lit (.int .i64 a9),.lit (.int .i64 a10)])) :
  a0.size≤140737488351232∧a2.size≤140737488351232∧a3.size≤140737488351232:=by
 have hT:=A.hT
 simp only[List.cons.injEq,and_true] at hT
 obtain⟨t0,t1,t2,t3,t4,t5,t6,t7,t8⟩:=hT
 have hm:∀ x,x∈[a0.data.toList.length,a2.data.toList.length,a3.data.toList.length]→x≤140737488351232:=by
  intro x hx
  have:=List.all_eq_true.1 h x (DataW.weights_mem_each ht hd x (by
   unfold DataW.weights
   rw[A.hs]
   simp only[List.map_cons,List.map_nil,DataW.weightsEach,DataW.weights,List.mem_append,List.mem_cons,List.not_mem_nil,or_false] at hx ⊢
   rcases hx with hx|hx|hx <;> simp[hx]))
  exact of_decide_eq_true this
 refine⟨hm _ (by simp),hm _ (by simp),hm _ (by simp)⟩
theorem shut_act (A:ActT P tA tR tS tI f0 f1 f2 f3 f4 f5 f6 f7 f8 g0 g1) {a0:ByteArray} {a1:Int} {a2 a3 a4 a5 a6 a7:ByteArray} {a8 a9 a10:Int}
  (hz:a0.size≤maxLen∧a2.size≤maxLen∧a3.size≤maxLen∧a4.size≤maxLen∧a5.size≤maxLen∧a6.size≤maxLen∧a7.size≤maxLen∧(Lit.int .i64 a1).wf=true∧(Lit.int .i64 a8).wf=true∧(Lit.int .i64 a9).wf=true∧(Lit.int .i64 a10).wf=true) :
  DataW.Trod enc P w base spare held tA (.agg #[.string a0,.int .i64 a1,.string a2,.string a3,.string a4,.string a5,.string a6,.string a7,.int .i64 a8,.int .i64 a9,.int .i64 a10])
   (.agg [.lit (.string a0.data.toList),.lit (.int .i64 a1),.lit (.string a2.data.toList),.lit (.string a3.data.toList),.agg [.lit (.string a4.data.toList),.lit (.string a5.data.toList)],.agg [.lit (.string a6.data.toList),.lit (.string a7.data.toList)],.lit (.int .i64 a8),.lit (.int .i64 a9),.lit (.int .i64 a10)]) []:=by
 obtain⟨z0,z2,z3,z4,z5,z6,z7,z1,z8,z9,z10⟩:=hz
 have hT:=A.hT
 have hO:=A.hO
 have hG:=A.hG
 have hP:=A.hP
 simp only[List.cons.injEq,and_true] at hT hO hG hP
 obtain⟨t0,t1,t2,t3,t4,t5,t6,t7,t8⟩:=hT
 obtain⟨o0,o1,o2,o3,o4,o5,o6,o7,o8⟩:=hO
 obtain⟨u0,u1⟩:=hG
 obtain⟨p0,p1⟩:=hP
 refine⟨3,?_⟩
 simp[DataW.trod,Value.cells,A.hs,A.hR,A.hS,A.hI,t0,t1,t2,t3,t4,t5,t6,t7,t8,o0,o1,o2,o3,o4,o5,o6,o7,o8,u0,u1,p0,p1,A.cS,A.cI,A.cR,A.cA,z0,z1,z2,z3,z4,z5,z6,z7,z8,z9,z10]
def ActOk (P:Program) (tA tR tS tI:TypeId):Prop:=∃ (f0 f1 f2 f3 f4 f5 f6 f7 f8 g0 g1:Field),ActT P tA tR tS tI f0 f1 f2 f3 f4 f5 f6 f7 f8 g0 g1
theorem open_actQ (A:ActOk P tA tR tS tI) {r:Reach} {b0:Nat} {v:Value} {d:DataW H} {p:List MemPlace} (hv:Value.okWide P w r b0 tA v) (h:DataW.Trod enc P w base spare held tA v d p) :
  ∃ (a0:ByteArray) (a1:Int) (a2 a3 a4 a5 a6 a7:ByteArray) (a8 a9 a10:Int),v=.agg #[.string a0,.int .i64 a1,.string a2,.string a3,.string a4,.string a5,.string a6,.string a7,.int .i64 a8,.int .i64 a9,.int .i64 a10] ∧
   d=.agg [.lit (.string a0.data.toList),.lit (.int .i64 a1),.lit (.string a2.data.toList),.lit (.string a3.data.toList),.agg [.lit (.string a4.data.toList),.lit (.string a5.data.toList)],.agg [.lit (.string a6.data.toList),.lit (.string a7.data.toList)],.lit (.int .i64 a8),.lit (.int .i64 a9),.lit (.int .i64 a10)]∧p=[] ∧
   (a0.size≤maxLen∧a2.size≤maxLen∧a3.size≤maxLen∧a4.size≤maxLen∧a5.size≤maxLen∧a6.size≤maxLen∧a7.size≤maxLen∧(Lit.int .i64 a1).wf=true∧(Lit.int .i64 a8).wf=true∧(Lit.int .i64 a9).wf=true∧(Lit.int .i64 a10).wf=true):=by
 obtain⟨f0,f1,f2,f3,f4,f5,f6,f7,f8,g0,g1,A⟩:=A
 exact open_act A hv h
theorem sized_actQ (A:ActOk P tA tR tS tI) {ts:List TypeId} {ds:List (DataW H)} (h:(DataW.weightsEach P ts ds).all (·≤reachBytes)=true) {j:Nat} {a0:ByteArray} {a1:Int} {a2 a3 a4 a5 a6 a7:ByteArray} {a8 a9 a10:Int} (ht:ts[j]?=some tA)
  (hd:ds[j]?=some (.agg [.lit (.string a0.data.toList),.lit (.int .i64 a1),.lit (.string a2.data.toList),.lit (.string a3.data.toList),.agg [.lit (.string a4.data.toList),.lit (.string a5.data.toList)],.agg [.lit (.string a6.data.toList),.lit (.string a7.data.toList)],.lit (.int .i64 a8),.lit (.int .i64 a9),.lit (.int .i64 a10)])) :
  a0.size≤140737488351232∧a2.size≤140737488351232∧a3.size≤140737488351232:=by
 obtain⟨f0,f1,f2,f3,f4,f5,f6,f7,f8,g0,g1,A⟩:=A
 exact sized_act A h ht hd
theorem shut_actQ (A:ActOk P tA tR tS tI) {a0:ByteArray} {a1:Int} {a2 a3 a4 a5 a6 a7:ByteArray} {a8 a9 a10:Int}
  (hz:a0.size≤maxLen∧a2.size≤maxLen∧a3.size≤maxLen∧a4.size≤maxLen∧a5.size≤maxLen∧a6.size≤maxLen∧a7.size≤maxLen∧(Lit.int .i64 a1).wf=true∧(Lit.int .i64 a8).wf=true∧(Lit.int .i64 a9).wf=true∧(Lit.int .i64 a10).wf=true) :
  DataW.Trod enc P w base spare held tA (.agg #[.string a0,.int .i64 a1,.string a2,.string a3,.string a4,.string a5,.string a6,.string a7,.int .i64 a8,.int .i64 a9,.int .i64 a10])
   (.agg [.lit (.string a0.data.toList),.lit (.int .i64 a1),.lit (.string a2.data.toList),.lit (.string a3.data.toList),.agg [.lit (.string a4.data.toList),.lit (.string a5.data.toList)],.agg [.lit (.string a6.data.toList),.lit (.string a7.data.toList)],.lit (.int .i64 a8),.lit (.int .i64 a9),.lit (.int .i64 a10)]) []:=by
 obtain⟨f0,f1,f2,f3,f4,f5,f6,f7,f8,g0,g1,A⟩:=A
 exact shut_act A hz
theorem bool_of {t:TypeId} {n:Nat} {v:Value} {y:DataW H×List MemPlace} (ht:P.underlying t=some .bool) (h:DataW.trod enc P w base spare held n t [v]=some y):∃ b:Bool,v=.bool b∧y=(.lit (.bool b),[]):=by
 obtain⟨b,h1,h2⟩:=DataW.trod_bool ht h
 exact⟨b,by simpa using h1,h2⟩
theorem open_b3 {r:Reach} {b0:Nat} {t e:TypeId} {v:Value} {d:DataW H} {p:List MemPlace} (hs:P.underlying t=some (.array 3 e)) (h0:P.underlying e=some .bool) (hce:P.cellsOf e=1) (hC:P.cellsOf t=3)
  (hv:Value.okWide P w r b0 t v) (h:DataW.Trod enc P w base spare held t v d p) :
  ∃ a b c:Bool,v=.agg #[.bool a,.bool b,.bool c]∧d=.agg [.lit (.bool a),.lit (.bool b),.lit (.bool c)]∧p=[]:=by
 obtain⟨cs,rfl,hsz⟩:=okWide_array hs hv
 obtain⟨c0,c1,c2,rfl⟩:=array3 (hsz.trans hC)
 obtain⟨fuel,hf⟩:=h
 obtain⟨y0,y1,y2,n,hx,e0,e1,e2⟩:=trod_array3 hs hce (by simpa [Value.cells] using hf)
 obtain⟨a,rfl,rfl⟩:=bool_of h0 e0
 obtain⟨b,rfl,rfl⟩:=bool_of h0 e1
 obtain⟨c,rfl,rfl⟩:=bool_of h0 e2
 simp only[Prod.mk.injEq] at hx
 exact⟨a,b,c,rfl,hx.1,hx.2⟩
theorem shut_b3 {t e:TypeId} {a b c:Bool} (hs:P.underlying t=some (.array 3 e)) (h0:P.underlying e=some .bool) (hce:P.cellsOf e=1) (hC:P.cellsOf t=3) :
  DataW.Trod enc P w base spare held t (.agg #[.bool a,.bool b,.bool c]) (.agg [.lit (.bool a),.lit (.bool b),.lit (.bool c)]) [] :=
 ⟨2,by simp[DataW.trod,Value.cells,hs,h0,hce,hC,show List.range 3=[0,1,2] from rfl]⟩
end
end Go.Proofs.YtoghmeffpgbcfaaGreatDoor
end

section
namespace Go.Proofs.YtoghmeffpgbcfaaGreatDoor
open Go.ChangeShapes Go.WideShapes Go.ChangeAt Go.RowKit Go.Lib
theorem wrap_shaped {H:Type} {enc:TypeId×Value→H} {a:Assume} {C:Checked} {os:Os} {f:FuncId} {fn:Func} {s:ChangeSpec} {conds:List PathCond} {apart fresh handsOn again:Bool} {X:World→Array Value→Prop}
  (hX:∀ (w w':World) (args:Array Value),w.heap=w'.heap→X w args→X w' args) (own:ownKnob C.prog.godebug=none) (started:os.Started) (noInit:C.prog.inits.idxOf? f=none) (hfn:C.prog.funcs[f]?=some fn)
  (witness:∃ (w:World) (tape:Tape) (i:Input),w.os=os∧(w.forCall tape i).Shaped C.prog∧i.vars=[]∧Input.okWide C.prog (w.forCall tape i) .any w.heap.size f i ∧
   ((s.pre enc C.prog fn conds apart (w.forCall tape i).memory i.args∧X (w.forCall tape i).memory i.args)∧sizedMet enc C.prog fn (OpenSpec.ofChange s) apart (w.forCall tape i).memory i.args)∧a.holds C.prog (lone (Frame.enter C.prog f i.args .normal) [] (w.forCall tape i)))
  (walk:∀ (W:World) (base:Nat) (args:Array Value) (ds gs:List (DataW H)) (before:List MemPlace),(∀ (j:Nat) t v,fn.params[j]?=some t→args[j]?=some v→Value.okWide C.prog W .any base t v) →
   DataW.Whole enc C.prog fn.params.toList s.vars apart W args.toList ds gs before→conds.all (PathCond.test C.prog ⟨fn.params.toList,ds,s.plain.varTypes C.prog,gs⟩)=true →
   (DataW.weightsEach C.prog (fn.params.toList++s.plain.varTypes C.prog) (ds++gs)).all (·≤reachBytes)=true→X W args→W.ShapedOpen C.prog →
   Calls C.prog f args W fun e W'=>∃ v,e=.returned v∧s.post enc C.prog fn apart fresh handsOn again W args v W') :
  ReturnsInHanded a C os f .any (fun w args=>(s.pre enc C.prog fn conds apart w args∧X w args)∧sizedMet enc C.prog fn (OpenSpec.ofChange s) apart w args) (s.post enc C.prog fn apart fresh handsOn again):=by
 refine returnsInHanded_of_calls own started noInit witness ?_
 intro w tape i _ hsh _ hok hpre _
 obtain⟨_,_,_,fn',hfn',_,_,_,_,hval⟩:=hok
 obtain rfl:fn'=fn:=Option.some.inj (hfn'.symm.trans hfn)
 obtain⟨⟨⟨ds,gs,before,hw,hc⟩,hx⟩,hz⟩:=hpre
 refine(walk (w.forCall tape i) w.heap.size i.args ds gs before hval (DataW.Whole.of_heap (w':=w.forCall tape i) (by rfl) hw) hc (hz.weights hw) (hX _ _ _ (by rfl) hx) hsh).mono fun e W' hp=>?_
 obtain⟨v,rfl,hp⟩:=hp
 exact ChangeSpec.post_blind hp
abbrev laidL:List (String×DataW Unit):=[("math/bits.deBruijn32tab",Rows.laid_math_bits_deBruijn32tab),("math/bits.deBruijn64tab",Rows.laid_math_bits_deBruijn64tab),("internal/strconv.uint64pow10",Rows.laid_internal_strconv_uint64pow10),("unicode/utf8.acceptRanges",Rows.laid_unicode_utf8_acceptRanges),("strconv.ErrRange",Rows.laid_strconv_ErrRange),("strconv.ErrSyntax",Rows.laid_strconv_ErrSyntax),("unicode/utf8.first",Rows.laid_unicode_utf8_first)]
theorem own:ownKnob Tryz.prog.godebug=none:=by kernel_rfl
theorem tabType:(Tryz.prog.globals[1]?).map (·.type)=some 156:=by kernel_rfl
theorem rngType:(Tryz.prog.globals[5]?).map (·.type)=some 83:=by kernel_rfl
theorem tabCells:Tryz.prog.cellsOf 156=20:=by kernel_rfl
theorem u64Cells:Tryz.prog.cellsOf 123=1:=by kernel_rfl
theorem errCells:Tryz.prog.cellsOf 179=1:=by kernel_rfl
theorem strCells:Tryz.prog.cellsOf 9=1:=by kernel_rfl
theorem starErr : "*" ++ "errors.errorString" = "*errors.errorString" :=by decide
theorem rowErr (u:TypeId) (h:Tryz.prog.typeName? 3 u=some "*errors.errorString"):u=177 :=
 typeName_ptr_named (nm:= "errors.errorString") (by rw[starErr];kernel_rfl) (by kernel_rfl) (by decide) u (by rw[starErr];exact h)
theorem laid_tab_eq:(Rows.laid_internal_strconv_uint64pow10:DataW Unit)=tabData .u64 pow10Tab:=by kernel_rfl
theorem laid_of {W:World} (h:laidMetH Tryz.prog laidL W) (hsh:W.ShapedOpen Tryz.prog):Laid W:=by
 rw[MakeChecks.laidMetH_plain _ _ _ (by kernel_rfl)] at h
 have hL:=h
 obtain⟨a1,s1,hv1,-,-,-⟩:=laid_sentinel (hL.tail.tail.tail.tail) gRng rngType Tryz.underlying83 rowErr Tryz.underlying177 Tryz.underlying179 rfl rfl Tryz.underlying9 errCells strCells
 refine⟨tabIs_of_head gTab tabType Tryz.underlying156 Tryz.underlying123 u64Cells tabCells (by rw[← laid_tab_eq];exact hL.tail.tail),⟨_,_,hv1⟩,cell_of_shapedOpen_int (t:=3) (zero:=#[.int .i64 0]) hsh (by decide +kernel) (by kernel_rfl) (by decide) (by kernel_rfl) (by kernel_rfl) Tryz.underlying3⟩
theorem door_met (os:Os) (args:Array Value):laidMetH Tryz.prog laidL ((World.laidAll Tryz.prog os laidL).forCall (fun _ _=>0) ⟨#[],args,[]⟩).memory:=by
 rw[MakeChecks.laidMetH_plain _ _ _ (by kernel_rfl)]
 exact laidMet_laidAll _ (by kernel_rfl) (by kernel_rfl)
end Go.Proofs.YtoghmeffpgbcfaaGreatDoor
end
