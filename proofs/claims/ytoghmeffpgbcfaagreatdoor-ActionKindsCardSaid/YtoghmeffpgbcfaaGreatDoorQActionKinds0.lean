/-
The law ActionKinds holds at every input that its row lets in: the row's walk and its plain law, tied to the program's text. Conditions: none beyond the given row's own.
Parts of the proof, in build order: LActionKinds0, LActionKinds1, LActionKinds2, LActionKinds, PuActionKinds, RowActionKinds.
-/
import Derived.Test.YtoghmeffpgbcfaaGreatDoorProg
import Derived.Below
import Derived.Deep.Draws
import Derived.Deep.AppendLies
import Derived.Maps.AppendAt
import Derived.OwnWalk
import Derived.Laws.BytesArg
import Derived.Laws.MakeOwn
import Derived.Laws.OwnMore
import Derived.Deep.OwnRows
import Derived.Tactics
import Derived.Lib.ConvBytes
import Derived.Laws.Slices
import Derived.WalkKit
import Derived.KernelRfl
import Derived.RowKit3
import Derived.Deep.LoopGhost
import Derived.Deep.QuietTactic
import Derived.BigQuiet
import Derived.WideLaws
import Derived.Deep.DeepCutAuto
import Derived.Deep.CutBlock
import Derived.Deep.RegionHeld3
import Derived.Laws.Rows
import Derived.Lib.AppendStr
import Derived.ArgAppend
import Derived.Laws.IdiomCopy
import Derived.OrdersHeld
import Derived.Laws.BitsLemmas
import Derived.RowKit
import Derived.Test.YtoghmeffpgbcfaaGreatDoorC0
import Derived.Test.YtoghmeffpgbcfaaGreatDoorC5
import Derived.Test.YtoghmeffpgbcfaaGreatDoorC6
import Derived.Test.YtoghmeffpgbcfaaGreatDoorC2
import Derived.Test.YtoghmeffpgbcfaaGreatDoorTie
import Derived.Test.YtoghmeffpgbcfaaGreatDoorCards
import Derived.SevenTiedAt
set_option linter.unusedVariables false
set_option linter.unusedSimpArgs false
open Go.RowKit Go.Proofs.YtoghmeffpgbcfaaGreatDoorW.PrintWords Go.Proofs.YtoghmeffpgbcfaaGreatDoorW.PrintLast Go.Proofs.YtoghmeffpgbcfaaGreatDoorW.PrintMore
attribute [local go_sem] max2_int min2_int max_two min_two max_three min_three max_four min_four   -- for this text's walks alone
section
namespace Go.Proofs.YtoghmeffpgbcfaaGreatDoor.LActionKinds
def errW:Option Int→Value
 | none=>.nilIface
 | some c=>.iface 0 (.int .i64 c)
theorem errW_none:errW none=.nilIface:=rfl
theorem errW_some (c:Int):errW (some c)=.iface 0 (.int .i64 c):=rfl
end Go.Proofs.YtoghmeffpgbcfaaGreatDoor.LActionKinds
end

section
namespace Go.Proofs.YtoghmeffpgbcfaaGreatDoor.LActionKinds
end Go.Proofs.YtoghmeffpgbcfaaGreatDoor.LActionKinds
end

section
namespace Go.Proofs.YtoghmeffpgbcfaaGreatDoor.LActionKinds
mutual
def dl15_ActionKinds.j0:Nat→Int→Bool→Bool→Bool→ByteArray→Int→ByteArray→ByteArray→ByteArray→ByteArray→ByteArray→ByteArray→Int→Int→Int→Option (Bool)
 | 0,_,_,_,_,_,_,_,_,_,_,_,_,_,_,_=>none
 | k+1,x0,x5,x6,x7,x107000,x107001,x107002,x107003,x107004,x107005,x107006,x107007,x107008,x107009,x107010=>if x6=true then ((r3_Of.f 2).bind fun bt107=>(dl15_ActionKinds.j1 k x0 x5 x6 x7 x107000 x107001 x107002 x107003 bt107.1 bt107.2 x107006 x107007 x107008 x107009 x107010)) else (dl15_ActionKinds.j1 k x0 x5 x6 x7 x107000 x107001 x107002 x107003 x107004 x107005 x107006 x107007 x107008 x107009 x107010)
def dl15_ActionKinds.j1:Nat→Int→Bool→Bool→Bool→ByteArray→Int→ByteArray→ByteArray→ByteArray→ByteArray→ByteArray→ByteArray→Int→Int→Int→Option (Bool)
 | 0,_,_,_,_,_,_,_,_,_,_,_,_,_,_,_=>none
 | k+1,x0,x5,x6,x7,x107000,x107001,x107002,x107003,x107004,x107005,x107006,x107007,x107008,x107009,x107010=>if x7=true then ((r3_Of.f 3).bind fun bt109=>(dl15_ActionKinds.j2 k x0 x5 x6 x7 x107000 x107001 x107002 x107003 x107004 x107005 bt109.1 bt109.2 x107008 x107009 x107010)) else (dl15_ActionKinds.j2 k x0 x5 x6 x7 x107000 x107001 x107002 x107003 x107004 x107005 x107006 x107007 x107008 x107009 x107010)
def dl15_ActionKinds.j2:Nat→Int→Bool→Bool→Bool→ByteArray→Int→ByteArray→ByteArray→ByteArray→ByteArray→ByteArray→ByteArray→Int→Int→Int→Option (Bool)
 | 0,_,_,_,_,_,_,_,_,_,_,_,_,_,_,_=>none
 | k+1,x0,x5,x6,x7,x107000,x107001,x107002,x107003,x107004,x107005,x107006,x107007,x107008,x107009,x107010=>(dl15_fixed.f).bind fun t111=>(if t111=true then (if x0<0 then (dl15_ActionKinds.j3 k x0 x5 x6 x7 true x107000 x107001 x107002 x107003 x107004 x107005 x107006 x107007 x107008 x107009 x107010) else (dl15_ActionKinds.j3 k x0 x5 x6 x7 (decide (x0>4)) x107000 x107001 x107002 x107003 x107004 x107005 x107006 x107007 x107008 x107009 x107010)) else (dl15_ActionKinds.j3 k x0 x5 x6 x7 true x107000 x107001 x107002 x107003 x107004 x107005 x107006 x107007 x107008 x107009 x107010))
def dl15_ActionKinds.j3:Nat→Int→Bool→Bool→Bool→Bool→ByteArray→Int→ByteArray→ByteArray→ByteArray→ByteArray→ByteArray→ByteArray→Int→Int→Int→Option (Bool)
 | 0,_,_,_,_,_,_,_,_,_,_,_,_,_,_,_,_=>none
 | k+1,x0,x5,x6,x7,x37,x107000,x107001,x107002,x107003,x107004,x107005,x107006,x107007,x107008,x107009,x107010=>if x37=true then ((dl15_fixed.f).bind fun t112=>(if t112=true then ((action_May.f x107000 x107001 x107002 x107003 x107004 x107005 x107006 x107007 x107008 x107009 x107010).bind fun t113=>(some (!t113))) else (some false))) else (if (x5 == (decide (x0≥3)))=true then (if (x6 == (x0 != 2))=true then (if (x7 == (x0 == 2))=true then ((action_May.f x107000 x107001 x107002 x107003 x107004 x107005 x107006 x107007 x107008 x107009 x107010).bind fun t114=>(some (t114 == true))) else ((action_May.f x107000 x107001 x107002 x107003 x107004 x107005 x107006 x107007 x107008 x107009 x107010).bind fun t115=>(some (t115 == (x0 == 4))))) else ((action_May.f x107000 x107001 x107002 x107003 x107004 x107005 x107006 x107007 x107008 x107009 x107010).bind fun t116=>(some (t116 == false)))) else ((action_May.f x107000 x107001 x107002 x107003 x107004 x107005 x107006 x107007 x107008 x107009 x107010).bind fun t117=>(some (t117 == false))))
end
def dl15_ActionKinds.f (k:Nat) (a0:Int) (a1_0:Bool) (a1_1:Bool) (a1_2:Bool):Option (Bool):=(r3_Of.f 0).bind fun bt102=>((r3_Of.f 0).bind fun bt104=>(if a1_0=true then (dl15_ActionKinds.j0 k a0 a1_0 a1_1 a1_2 (⟨#[97,49]⟩:ByteArray) a0 (⟨#[120]⟩:ByteArray) (⟨#[121]⟩:ByteArray) bt102.1 bt102.2 bt104.1 bt104.2 0 0 0) else (dl15_ActionKinds.j0 k a0 a1_0 a1_1 a1_2 (⟨#[97,49]⟩:ByteArray) a0 (⟨#[120]⟩:ByteArray) (⟨#[]⟩:ByteArray) bt102.1 bt102.2 bt104.1 bt104.2 0 0 0)))
set_option maxHeartbeats 8000000 in
set_option maxRecDepth 100000 in
theorem dl15_ActionKinds.calls (k:Nat) (a0:Int) (a1_0:Bool) (a1_1:Bool) (a1_2:Bool) (r:Bool) (w:World) (hL_:Laid w) (hr_:Aside0 (r=true)) (h:dl15_ActionKinds.f k a0 a1_0 a1_1 a1_2=some r) :
  Calls Tryz.prog 6 #[.int .i64 a0,.agg #[.bool a1_0,.bool a1_1,.bool a1_2]] w fun e w'=>e=.returned (.bool r)∧Below w.heap.size w w':=by
 have hu36:=Tryz.underlying36;have hu25:=Tryz.underlying25;have hu23:=Tryz.underlying23;have HLD:=Aside0.mk hL_;clear hL_;have HB:=Aside0.mk (Below.refl w.heap.size w);have H:=h;unfold dl15_ActionKinds.f at H;clear h;obtain⟨⟨t102,t103⟩,A3,H⟩:=bi_ H;(try dsimp only at H);obtain⟨⟨t104,t105⟩,A4,H⟩:=bi_ H;(try dsimp only at H)
 obtain⟨rfl,rfl⟩:t102=t104∧t103=t105:=by have e_:=A3.out.symm.trans A4.out;simpa using e_
 have HC5:=Aside0.mk H;clear H;go_enter Tryz.func6,Tryz.ntmps6
 go_upto_if 20 with (first|((with_reducible refine gate_dst (N:=3) rfl ?_);refine be_ 3 #[.bool a1_0,.bool a1_1,.bool a1_2] 36 ?_;intro gb101 hg w6 hbox hb;have BK101:=Aside0.mk (hbox);have GW101:=ge_ HB hg;have GE101:=ge_ HB hg;replace HB:=bs_ HB hb;clear hb hbox hg;have hcz7_0:=bc_ BK101 0 rfl;have hcz7_1:=bc_ BK101 1 rfl;have hcz7_2:=bc_ BK101 2 rfl;have hfz7_0:=blk_frozen BK101.out 0;have hfz7_1:=blk_frozen BK101.out 1;have hfz7_2:=blk_frozen BK101.out 2)|(go_at_call 15;(with_reducible refine(r3_Of.calls 0 t102 t103 _ A3.out).mono ?_);rintro e w8 ⟨rfl,hb⟩;replace BK101:=kb_ BK101 hb;replace HB:=bs_ HB hb;(try clear hb);(try clear hb2);(try clear hk);(try clear hi))|(go_at_call 15;(with_reducible refine(r3_Of.calls 0 t102 t103 _ A4.out).mono ?_);rintro e w9 ⟨rfl,hb⟩;replace BK101:=kb_ BK101 hb;replace HB:=bs_ HB hb;(try clear hb);(try clear hb2);(try clear hk);(try clear hi))|((with_reducible refine gate_dst (N:=8) rfl ?_);refine be_ 8 #[.string (⟨#[]⟩:ByteArray),.int .i64 0,.string (⟨#[]⟩:ByteArray),.string (⟨#[]⟩:ByteArray),.string (⟨#[]⟩:ByteArray),.string (⟨#[]⟩:ByteArray),.string (⟨#[]⟩:ByteArray),.string (⟨#[]⟩:ByteArray),.int .i64 0,.int .i64 0,.int .i64 0] 25 ?_;intro gb106 hg w10 hbox hb;have BK106:=Aside0.mk (hbox);have GW106:=ge_ HB hg;have GE106:=ge_ HB hg;have NB101_106:=nl_ BK101 hg;have NB106_101:=ng_ BK101 hg;replace BK101:=kb_ BK101 hb;replace HB:=bs_ HB hb;clear hb hbox hg;have hnb11:=NB106_101.out;have hnc11:=NB101_106.out;have hcz12_0:=bc_ BK106 0 rfl;have hcz12_1:=bc_ BK106 1 rfl;have hcz12_2:=bc_ BK106 2 rfl;have hcz12_3:=bc_ BK106 3 rfl;have hcz12_4:=bc_ BK106 4 rfl;have hcz12_5:=bc_ BK106 5 rfl;have hcz12_6:=bc_ BK106 6 rfl;have hcz12_7:=bc_ BK106 7 rfl;have hcz12_8:=bc_ BK106 8 rfl;have hcz12_9:=bc_ BK106 9 rfl;have hcz12_10:=bc_ BK106 10 rfl;have hfz12_0:=blk_frozen BK106.out 0;have hfz12_1:=blk_frozen BK106.out 1;have hfz12_2:=blk_frozen BK106.out 2;have hfz12_3:=blk_frozen BK106.out 3;have hfz12_4:=blk_frozen BK106.out 4;have hfz12_5:=blk_frozen BK106.out 5;have hfz12_6:=blk_frozen BK106.out 6;have hfz12_7:=blk_frozen BK106.out 7;have hfz12_8:=blk_frozen BK106.out 8;have hfz12_9:=blk_frozen BK106.out 9;have hfz12_10:=blk_frozen BK106.out 10))
 repeat(go_quiet (first|((with_reducible refine gate_dst (N:=3) rfl ?_);refine be_ 3 #[.bool a1_0,.bool a1_1,.bool a1_2] 36 ?_;intro gb101 hg w6 hbox hb;have BK101:=Aside0.mk (hbox);have GW101:=ge_ HB hg;have GE101:=ge_ HB hg;replace HB:=bs_ HB hb;clear hb hbox hg;have hcz7_0:=bc_ BK101 0 rfl;have hcz7_1:=bc_ BK101 1 rfl;have hcz7_2:=bc_ BK101 2 rfl;have hfz7_0:=blk_frozen BK101.out 0;have hfz7_1:=blk_frozen BK101.out 1;have hfz7_2:=blk_frozen BK101.out 2)|(go_at_call 15;(with_reducible refine(r3_Of.calls 0 t102 t103 _ A3.out).mono ?_);rintro e w8 ⟨rfl,hb⟩;replace BK101:=kb_ BK101 hb;replace HB:=bs_ HB hb;(try clear hb);(try clear hb2);(try clear hk);(try clear hi))|(go_at_call 15;(with_reducible refine(r3_Of.calls 0 t102 t103 _ A4.out).mono ?_);rintro e w9 ⟨rfl,hb⟩;replace BK101:=kb_ BK101 hb;replace HB:=bs_ HB hb;(try clear hb);(try clear hb2);(try clear hk);(try clear hi))|((with_reducible refine gate_dst (N:=8) rfl ?_);refine be_ 8 #[.string (⟨#[]⟩:ByteArray),.int .i64 0,.string (⟨#[]⟩:ByteArray),.string (⟨#[]⟩:ByteArray),.string (⟨#[]⟩:ByteArray),.string (⟨#[]⟩:ByteArray),.string (⟨#[]⟩:ByteArray),.string (⟨#[]⟩:ByteArray),.int .i64 0,.int .i64 0,.int .i64 0] 25 ?_;intro gb106 hg w10 hbox hb;have BK106:=Aside0.mk (hbox);have GW106:=ge_ HB hg;have GE106:=ge_ HB hg;have NB101_106:=nl_ BK101 hg;have NB106_101:=ng_ BK101 hg;replace BK101:=kb_ BK101 hb;replace HB:=bs_ HB hb;clear hb hbox hg;have hnb11:=NB106_101.out;have hnc11:=NB101_106.out;have hcz12_0:=bc_ BK106 0 rfl;have hcz12_1:=bc_ BK106 1 rfl;have hcz12_2:=bc_ BK106 2 rfl;have hcz12_3:=bc_ BK106 3 rfl;have hcz12_4:=bc_ BK106 4 rfl;have hcz12_5:=bc_ BK106 5 rfl;have hcz12_6:=bc_ BK106 6 rfl;have hcz12_7:=bc_ BK106 7 rfl;have hcz12_8:=bc_ BK106 8 rfl;have hcz12_9:=bc_ BK106 9 rfl;have hcz12_10:=bc_ BK106 10 rfl;have hfz12_0:=blk_frozen BK106.out 0;have hfz12_1:=blk_frozen BK106.out 1;have hfz12_2:=blk_frozen BK106.out 2;have hfz12_3:=blk_frozen BK106.out 3;have hfz12_4:=blk_frozen BK106.out 4;have hfz12_5:=blk_frozen BK106.out 5;have hfz12_6:=blk_frozen BK106.out 6;have hfz12_7:=blk_frozen BK106.out 7;have hfz12_8:=blk_frozen BK106.out 8;have hfz12_9:=blk_frozen BK106.out 9;have hfz12_10:=blk_frozen BK106.out 10));go_upto_if 20 with (first|((with_reducible refine gate_dst (N:=3) rfl ?_);refine be_ 3 #[.bool a1_0,.bool a1_1,.bool a1_2] 36 ?_;intro gb101 hg w6 hbox hb;have BK101:=Aside0.mk (hbox);have GW101:=ge_ HB hg;have GE101:=ge_ HB hg;replace HB:=bs_ HB hb;clear hb hbox hg;have hcz7_0:=bc_ BK101 0 rfl;have hcz7_1:=bc_ BK101 1 rfl;have hcz7_2:=bc_ BK101 2 rfl;have hfz7_0:=blk_frozen BK101.out 0;have hfz7_1:=blk_frozen BK101.out 1;have hfz7_2:=blk_frozen BK101.out 2)|(go_at_call 15;(with_reducible refine(r3_Of.calls 0 t102 t103 _ A3.out).mono ?_);rintro e w8 ⟨rfl,hb⟩;replace BK101:=kb_ BK101 hb;replace HB:=bs_ HB hb;(try clear hb);(try clear hb2);(try clear hk);(try clear hi))|(go_at_call 15;(with_reducible refine(r3_Of.calls 0 t102 t103 _ A4.out).mono ?_);rintro e w9 ⟨rfl,hb⟩;replace BK101:=kb_ BK101 hb;replace HB:=bs_ HB hb;(try clear hb);(try clear hb2);(try clear hk);(try clear hi))|((with_reducible refine gate_dst (N:=8) rfl ?_);refine be_ 8 #[.string (⟨#[]⟩:ByteArray),.int .i64 0,.string (⟨#[]⟩:ByteArray),.string (⟨#[]⟩:ByteArray),.string (⟨#[]⟩:ByteArray),.string (⟨#[]⟩:ByteArray),.string (⟨#[]⟩:ByteArray),.string (⟨#[]⟩:ByteArray),.int .i64 0,.int .i64 0,.int .i64 0] 25 ?_;intro gb106 hg w10 hbox hb;have BK106:=Aside0.mk (hbox);have GW106:=ge_ HB hg;have GE106:=ge_ HB hg;have NB101_106:=nl_ BK101 hg;have NB106_101:=ng_ BK101 hg;replace BK101:=kb_ BK101 hb;replace HB:=bs_ HB hb;clear hb hbox hg;have hnb11:=NB106_101.out;have hnc11:=NB101_106.out;have hcz12_0:=bc_ BK106 0 rfl;have hcz12_1:=bc_ BK106 1 rfl;have hcz12_2:=bc_ BK106 2 rfl;have hcz12_3:=bc_ BK106 3 rfl;have hcz12_4:=bc_ BK106 4 rfl;have hcz12_5:=bc_ BK106 5 rfl;have hcz12_6:=bc_ BK106 6 rfl;have hcz12_7:=bc_ BK106 7 rfl;have hcz12_8:=bc_ BK106 8 rfl;have hcz12_9:=bc_ BK106 9 rfl;have hcz12_10:=bc_ BK106 10 rfl;have hfz12_0:=blk_frozen BK106.out 0;have hfz12_1:=blk_frozen BK106.out 1;have hfz12_2:=blk_frozen BK106.out 2;have hfz12_3:=blk_frozen BK106.out 3;have hfz12_4:=blk_frozen BK106.out 4;have hfz12_5:=blk_frozen BK106.out 5;have hfz12_6:=blk_frozen BK106.out 6;have hfz12_7:=blk_frozen BK106.out 7;have hfz12_8:=blk_frozen BK106.out 8;have hfz12_9:=blk_frozen BK106.out 9;have hfz12_10:=blk_frozen BK106.out 10)))
 (try simp only[Act.put,List.setIfInBounds_toArray,List.set_cons_zero,List.set_cons_succ])
 go_cut [] (fun wc=>∃ (kq:Nat) (x107003_4:ByteArray),Aside0 (dl15_ActionKinds.j0 kq a0 a1_0 a1_1 a1_2 (⟨#[97,49]⟩:ByteArray) a0 (⟨#[120]⟩:ByteArray) x107003_4 t102 t103 t102 t103 0 0 0=some r)∧Aside0 (kq≤k)∧Aside0 (wc.heap[gb101]?=some (.cells #[.bool a1_0,.bool a1_1,.bool a1_2] 36 (0,0)))∧Aside0 (wc.heap[gb106]?=some (.cells #[.string (⟨#[97,49]⟩:ByteArray),.int .i64 a0,.string (⟨#[120]⟩:ByteArray),.string x107003_4,.string t102,.string t103,.string t102,.string t103,.int .i64 0,.int .i64 0,.int .i64 0] 25 (0,0)))∧Aside0 (Below w.heap.size w wc))
 case first =>
  have H:=HC5.out;clear HC5;by_cases c13:a1_0=true
  ·subst c13;rw[if_pos rfl] at H;have H':=Aside0.mk H;clear H;have hnb14:=NB106_101.out;have hnc14:=NB101_106.out;have hcz15_0:=bc_ BK106 0 rfl;have hcz15_1:=bc_ BK106 1 rfl;have hcz15_2:=bc_ BK106 2 rfl;have hcz15_3:=bc_ BK106 3 rfl;have hcz15_4:=bc_ BK106 4 rfl;have hcz15_5:=bc_ BK106 5 rfl;have hcz15_6:=bc_ BK106 6 rfl;have hcz15_7:=bc_ BK106 7 rfl;have hcz15_8:=bc_ BK106 8 rfl;have hcz15_9:=bc_ BK106 9 rfl;have hcz15_10:=bc_ BK106 10 rfl;have hfz15_0:=blk_frozen BK106.out 0;have hfz15_1:=blk_frozen BK106.out 1;have hfz15_2:=blk_frozen BK106.out 2;have hfz15_3:=blk_frozen BK106.out 3;have hfz15_4:=blk_frozen BK106.out 4;have hfz15_5:=blk_frozen BK106.out 5;have hfz15_6:=blk_frozen BK106.out 6;have hfz15_7:=blk_frozen BK106.out 7;have hfz15_8:=blk_frozen BK106.out 8;have hfz15_9:=blk_frozen BK106.out 9;have hfz15_10:=blk_frozen BK106.out 10;go_wp2
   repeat(go_quiet (fail);try go_wp2)
   go_meet
   case rel=>exact⟨_,((⟨#[121]⟩:ByteArray)),H',⟨by first|omega|exact Nat.le_refl _⟩,⟨fq_ BK101.out⟩,⟨rq_ BK106.out⟩,⟨b_ HB.out⟩⟩
  ·replace c13:=Bool.eq_false_iff.mpr c13;subst c13;rw[if_neg nf_] at H;have H':=Aside0.mk H;clear H;go_wp2
   repeat(go_quiet (fail);try go_wp2)
   go_meet
   case rel=>exact⟨_,((⟨#[]⟩:ByteArray)),H',⟨by first|omega|exact Nat.le_refl _⟩,⟨fq_ BK101.out⟩,⟨rq_ BK106.out⟩,⟨b_ HB.out⟩⟩
 case rest =>
  clear HC5;(try clear c1);(try clear p2);(try clear c6);(try clear c11);(try clear c13);(try clear c14);(try clear hcz12_0);(try clear hcz12_1);(try clear hcz12_10);(try clear hcz12_2);(try clear hcz12_3);(try clear hcz12_4);(try clear hcz12_5);(try clear hcz12_6);(try clear hcz12_7);(try clear hcz12_8);(try clear hcz12_9);(try clear hcz15_0);(try clear hcz15_1);(try clear hcz15_10);(try clear hcz15_2);(try clear hcz15_3);(try clear hcz15_4);(try clear hcz15_5);(try clear hcz15_6);(try clear hcz15_7);(try clear hcz15_8);(try clear hcz15_9);(try clear hcz7_0);(try clear hcz7_1);(try clear hcz7_2);(try clear hfz12_0);(try clear hfz12_1);(try clear hfz12_10);(try clear hfz12_2);(try clear hfz12_3);(try clear hfz12_4);(try clear hfz12_5);(try clear hfz12_6);(try clear hfz12_7);(try clear hfz12_8);(try clear hfz12_9);(try clear hfz15_0);(try clear hfz15_1);(try clear hfz15_10);(try clear hfz15_2);(try clear hfz15_3);(try clear hfz15_4);(try clear hfz15_5);(try clear hfz15_6);(try clear hfz15_7);(try clear hfz15_8);(try clear hfz15_9);(try clear hfz7_0);(try clear hfz7_1);(try clear hfz7_2);obtain⟨kq,x107003_4,HA,HJ4,BK101,BK106,HB⟩:=hcut
  cases kq with
  | zero=>exact absurd HA.out (by simp[dl15_ActionKinds.j0])
  | succ kj4 =>
   have H:=HA.out;clear HA;simp only[dl15_ActionKinds.j0] at H;have HC16:=Aside0.mk H;clear H
   go_upto_if 22 with (fail)
   repeat(go_quiet (fail);go_upto_if 22 with (fail))
   go_cut [] (fun wc=>∃ (kq:Nat) (x107004_15:ByteArray) (x107005_15:ByteArray),Aside0 (dl15_ActionKinds.j1 kq a0 a1_0 a1_1 a1_2 (⟨#[97,49]⟩:ByteArray) a0 (⟨#[120]⟩:ByteArray) x107003_4 x107004_15 x107005_15 t102 t103 0 0 0=some r)∧Aside0 (kq≤kj4)∧Aside0 (wc.heap[gb101]?=some (.cells #[.bool a1_0,.bool a1_1,.bool a1_2] 36 (0,0)))∧Aside0 (wc.heap[gb106]?=some (.cells #[.string (⟨#[97,49]⟩:ByteArray),.int .i64 a0,.string (⟨#[120]⟩:ByteArray),.string x107003_4,.string x107004_15,.string x107005_15,.string t102,.string t103,.int .i64 0,.int .i64 0,.int .i64 0] 25 (0,0)))∧Aside0 (Below w.heap.size w wc))
   case first =>
    have H:=HC16.out;clear HC16;by_cases c17:a1_1=true
    ·subst c17;rw[if_pos rfl] at H;obtain⟨⟨t107,t108⟩,A18,H⟩:=bi_ H;(try dsimp only at H);have H':=Aside0.mk H;clear H
     go_wp2_with (first|(go_at_call 15;(with_reducible refine(r3_Of.calls 2 t107 t108 _ A18.out).mono ?_);rintro e w19 ⟨rfl,hb⟩;replace BK101:=kb_ BK101 hb;replace BK106:=kb_ BK106 hb;replace HB:=bs_ HB hb;(try clear hb);(try clear hb2);(try clear hk);(try clear hi);have hnb20:=NB106_101.out;have hnc20:=NB101_106.out;have hcz21_0:=bc_ BK106 0 rfl;have hcz21_1:=bc_ BK106 1 rfl;have hcz21_2:=bc_ BK106 2 rfl;have hcz21_3:=bc_ BK106 3 rfl;have hcz21_4:=bc_ BK106 4 rfl;have hcz21_5:=bc_ BK106 5 rfl;have hcz21_6:=bc_ BK106 6 rfl;have hcz21_7:=bc_ BK106 7 rfl;have hcz21_8:=bc_ BK106 8 rfl;have hcz21_9:=bc_ BK106 9 rfl;have hcz21_10:=bc_ BK106 10 rfl;have hfz21_0:=blk_frozen BK106.out 0;have hfz21_1:=blk_frozen BK106.out 1;have hfz21_2:=blk_frozen BK106.out 2;have hfz21_3:=blk_frozen BK106.out 3;have hfz21_4:=blk_frozen BK106.out 4;have hfz21_5:=blk_frozen BK106.out 5;have hfz21_6:=blk_frozen BK106.out 6;have hfz21_7:=blk_frozen BK106.out 7;have hfz21_8:=blk_frozen BK106.out 8;have hfz21_9:=blk_frozen BK106.out 9;have hfz21_10:=blk_frozen BK106.out 10))
     repeat(go_quiet (first|(go_at_call 15;(with_reducible refine(r3_Of.calls 2 t107 t108 _ A18.out).mono ?_);rintro e w19 ⟨rfl,hb⟩;replace BK101:=kb_ BK101 hb;replace BK106:=kb_ BK106 hb;replace HB:=bs_ HB hb;(try clear hb);(try clear hb2);(try clear hk);(try clear hi);have hnb20:=NB106_101.out;have hnc20:=NB101_106.out;have hcz21_0:=bc_ BK106 0 rfl;have hcz21_1:=bc_ BK106 1 rfl;have hcz21_2:=bc_ BK106 2 rfl;have hcz21_3:=bc_ BK106 3 rfl;have hcz21_4:=bc_ BK106 4 rfl;have hcz21_5:=bc_ BK106 5 rfl;have hcz21_6:=bc_ BK106 6 rfl;have hcz21_7:=bc_ BK106 7 rfl;have hcz21_8:=bc_ BK106 8 rfl;have hcz21_9:=bc_ BK106 9 rfl;have hcz21_10:=bc_ BK106 10 rfl;have hfz21_0:=blk_frozen BK106.out 0;have hfz21_1:=blk_frozen BK106.out 1;have hfz21_2:=blk_frozen BK106.out 2;have hfz21_3:=blk_frozen BK106.out 3;have hfz21_4:=blk_frozen BK106.out 4;have hfz21_5:=blk_frozen BK106.out 5;have hfz21_6:=blk_frozen BK106.out 6;have hfz21_7:=blk_frozen BK106.out 7;have hfz21_8:=blk_frozen BK106.out 8;have hfz21_9:=blk_frozen BK106.out 9;have hfz21_10:=blk_frozen BK106.out 10));try go_wp2_with (first|(go_at_call 15;(with_reducible refine(r3_Of.calls 2 t107 t108 _ A18.out).mono ?_);rintro e w19 ⟨rfl,hb⟩;replace BK101:=kb_ BK101 hb;replace BK106:=kb_ BK106 hb;replace HB:=bs_ HB hb;(try clear hb);(try clear hb2);(try clear hk);(try clear hi);have hnb20:=NB106_101.out;have hnc20:=NB101_106.out;have hcz21_0:=bc_ BK106 0 rfl;have hcz21_1:=bc_ BK106 1 rfl;have hcz21_2:=bc_ BK106 2 rfl;have hcz21_3:=bc_ BK106 3 rfl;have hcz21_4:=bc_ BK106 4 rfl;have hcz21_5:=bc_ BK106 5 rfl;have hcz21_6:=bc_ BK106 6 rfl;have hcz21_7:=bc_ BK106 7 rfl;have hcz21_8:=bc_ BK106 8 rfl;have hcz21_9:=bc_ BK106 9 rfl;have hcz21_10:=bc_ BK106 10 rfl;have hfz21_0:=blk_frozen BK106.out 0;have hfz21_1:=blk_frozen BK106.out 1;have hfz21_2:=blk_frozen BK106.out 2;have hfz21_3:=blk_frozen BK106.out 3;have hfz21_4:=blk_frozen BK106.out 4;have hfz21_5:=blk_frozen BK106.out 5;have hfz21_6:=blk_frozen BK106.out 6;have hfz21_7:=blk_frozen BK106.out 7;have hfz21_8:=blk_frozen BK106.out 8;have hfz21_9:=blk_frozen BK106.out 9;have hfz21_10:=blk_frozen BK106.out 10)))
     go_meet
     case rel=>exact⟨_,(t107),(t108),H',⟨by have:=HJ4.out;first|omega|exact Nat.le_refl _⟩,⟨fq_ BK101.out⟩,⟨rq_ BK106.out⟩,⟨b_ HB.out⟩⟩
    ·replace c17:=Bool.eq_false_iff.mpr c17;subst c17;rw[if_neg nf_] at H;have H':=Aside0.mk H;clear H;go_wp2
     repeat(go_quiet (fail);try go_wp2)
     go_meet
     case rel=>exact⟨_,(t102),(t103),H',⟨by have:=HJ4.out;first|omega|exact Nat.le_refl _⟩,⟨k_ BK101.out⟩,⟨k_ BK106.out⟩,⟨b_ HB.out⟩⟩
   case rest =>
    clear HC16;(try clear c1);(try clear c2);(try clear p2);(try clear c6);(try clear c11);(try clear c13);(try clear c14);(try clear c17);(try clear c20);(try clear hcz12_0);(try clear hcz12_1);(try clear hcz12_10);(try clear hcz12_2);(try clear hcz12_3);(try clear hcz12_4);(try clear hcz12_5);(try clear hcz12_6);(try clear hcz12_7);(try clear hcz12_8);(try clear hcz12_9);(try clear hcz15_0);(try clear hcz15_1);(try clear hcz15_10);(try clear hcz15_2);(try clear hcz15_3);(try clear hcz15_4);(try clear hcz15_5);(try clear hcz15_6);(try clear hcz15_7);(try clear hcz15_8);(try clear hcz15_9);(try clear hcz21_0);(try clear hcz21_1);(try clear hcz21_10);(try clear hcz21_2);(try clear hcz21_3);(try clear hcz21_4);(try clear hcz21_5);(try clear hcz21_6);(try clear hcz21_7);(try clear hcz21_8);(try clear hcz21_9);(try clear hcz7_0);(try clear hcz7_1);(try clear hcz7_2);(try clear hfz12_0);(try clear hfz12_1);(try clear hfz12_10);(try clear hfz12_2);(try clear hfz12_3);(try clear hfz12_4);(try clear hfz12_5);(try clear hfz12_6);(try clear hfz12_7);(try clear hfz12_8);(try clear hfz12_9);(try clear hfz15_0);(try clear hfz15_1);(try clear hfz15_10);(try clear hfz15_2);(try clear hfz15_3);(try clear hfz15_4);(try clear hfz15_5);(try clear hfz15_6);(try clear hfz15_7);(try clear hfz15_8);(try clear hfz15_9);(try clear hfz21_0);(try clear hfz21_1);(try clear hfz21_10);(try clear hfz21_2);(try clear hfz21_3);(try clear hfz21_4);(try clear hfz21_5);(try clear hfz21_6);(try clear hfz21_7);(try clear hfz21_8);(try clear hfz21_9);(try clear hfz7_0);(try clear hfz7_1);(try clear hfz7_2);(try clear p2);obtain⟨kq,x107004_15,x107005_15,HA,HJ15,BK101,BK106,HB⟩:=hcut
    cases kq with
    | zero=>exact absurd HA.out (by simp[dl15_ActionKinds.j1])
    | succ kj15 =>
     have H:=HA.out;clear HA;simp only[dl15_ActionKinds.j1] at H;have HC22:=Aside0.mk H;clear H
     go_upto_if 25 with (fail)
     repeat(go_quiet (fail);go_upto_if 25 with (fail))
     go_cut [] (fun wc=>∃ (kq:Nat) (x107006_21:ByteArray) (x107007_21:ByteArray),Aside0 (dl15_ActionKinds.j2 kq a0 a1_0 a1_1 a1_2 (⟨#[97,49]⟩:ByteArray) a0 (⟨#[120]⟩:ByteArray) x107003_4 x107004_15 x107005_15 x107006_21 x107007_21 0 0 0=some r)∧Aside0 (kq≤kj15)∧Aside0 (wc.heap[gb101]?=some (.cells #[.bool a1_0,.bool a1_1,.bool a1_2] 36 (0,0)))∧Aside0 (wc.heap[gb106]?=some (.cells #[.string (⟨#[97,49]⟩:ByteArray),.int .i64 a0,.string (⟨#[120]⟩:ByteArray),.string x107003_4,.string x107004_15,.string x107005_15,.string x107006_21,.string x107007_21,.int .i64 0,.int .i64 0,.int .i64 0] 25 (0,0)))∧Aside0 (Below w.heap.size w wc))
     case first =>
      have H:=HC22.out;clear HC22;by_cases c23:a1_2=true
      ·subst c23;rw[if_pos rfl] at H;obtain⟨⟨t109,t110⟩,A24,H⟩:=bi_ H;(try dsimp only at H);have H':=Aside0.mk H;clear H
       go_wp2_with (first|(go_at_call 15;(with_reducible refine(r3_Of.calls 3 t109 t110 _ A24.out).mono ?_);rintro e w25 ⟨rfl,hb⟩;replace BK101:=kb_ BK101 hb;replace BK106:=kb_ BK106 hb;replace HB:=bs_ HB hb;(try clear hb);(try clear hb2);(try clear hk);(try clear hi);have hnb26:=NB106_101.out;have hnc26:=NB101_106.out;have hcz27_0:=bc_ BK106 0 rfl;have hcz27_1:=bc_ BK106 1 rfl;have hcz27_2:=bc_ BK106 2 rfl;have hcz27_3:=bc_ BK106 3 rfl;have hcz27_4:=bc_ BK106 4 rfl;have hcz27_5:=bc_ BK106 5 rfl;have hcz27_6:=bc_ BK106 6 rfl;have hcz27_7:=bc_ BK106 7 rfl;have hcz27_8:=bc_ BK106 8 rfl;have hcz27_9:=bc_ BK106 9 rfl;have hcz27_10:=bc_ BK106 10 rfl;have hfz27_0:=blk_frozen BK106.out 0;have hfz27_1:=blk_frozen BK106.out 1;have hfz27_2:=blk_frozen BK106.out 2;have hfz27_3:=blk_frozen BK106.out 3;have hfz27_4:=blk_frozen BK106.out 4;have hfz27_5:=blk_frozen BK106.out 5;have hfz27_6:=blk_frozen BK106.out 6;have hfz27_7:=blk_frozen BK106.out 7;have hfz27_8:=blk_frozen BK106.out 8;have hfz27_9:=blk_frozen BK106.out 9;have hfz27_10:=blk_frozen BK106.out 10))
       repeat(go_quiet (first|(go_at_call 15;(with_reducible refine(r3_Of.calls 3 t109 t110 _ A24.out).mono ?_);rintro e w25 ⟨rfl,hb⟩;replace BK101:=kb_ BK101 hb;replace BK106:=kb_ BK106 hb;replace HB:=bs_ HB hb;(try clear hb);(try clear hb2);(try clear hk);(try clear hi);have hnb26:=NB106_101.out;have hnc26:=NB101_106.out;have hcz27_0:=bc_ BK106 0 rfl;have hcz27_1:=bc_ BK106 1 rfl;have hcz27_2:=bc_ BK106 2 rfl;have hcz27_3:=bc_ BK106 3 rfl;have hcz27_4:=bc_ BK106 4 rfl;have hcz27_5:=bc_ BK106 5 rfl;have hcz27_6:=bc_ BK106 6 rfl;have hcz27_7:=bc_ BK106 7 rfl;have hcz27_8:=bc_ BK106 8 rfl;have hcz27_9:=bc_ BK106 9 rfl;have hcz27_10:=bc_ BK106 10 rfl;have hfz27_0:=blk_frozen BK106.out 0;have hfz27_1:=blk_frozen BK106.out 1;have hfz27_2:=blk_frozen BK106.out 2;have hfz27_3:=blk_frozen BK106.out 3;have hfz27_4:=blk_frozen BK106.out 4;have hfz27_5:=blk_frozen BK106.out 5;have hfz27_6:=blk_frozen BK106.out 6;have hfz27_7:=blk_frozen BK106.out 7;have hfz27_8:=blk_frozen BK106.out 8;have hfz27_9:=blk_frozen BK106.out 9;have hfz27_10:=blk_frozen BK106.out 10));try go_wp2_with (first|(go_at_call 15;(with_reducible refine(r3_Of.calls 3 t109 t110 _ A24.out).mono ?_);rintro e w25 ⟨rfl,hb⟩;replace BK101:=kb_ BK101 hb;replace BK106:=kb_ BK106 hb;replace HB:=bs_ HB hb;(try clear hb);(try clear hb2);(try clear hk);(try clear hi);have hnb26:=NB106_101.out;have hnc26:=NB101_106.out;have hcz27_0:=bc_ BK106 0 rfl;have hcz27_1:=bc_ BK106 1 rfl;have hcz27_2:=bc_ BK106 2 rfl;have hcz27_3:=bc_ BK106 3 rfl;have hcz27_4:=bc_ BK106 4 rfl;have hcz27_5:=bc_ BK106 5 rfl;have hcz27_6:=bc_ BK106 6 rfl;have hcz27_7:=bc_ BK106 7 rfl;have hcz27_8:=bc_ BK106 8 rfl;have hcz27_9:=bc_ BK106 9 rfl;have hcz27_10:=bc_ BK106 10 rfl;have hfz27_0:=blk_frozen BK106.out 0;have hfz27_1:=blk_frozen BK106.out 1;have hfz27_2:=blk_frozen BK106.out 2;have hfz27_3:=blk_frozen BK106.out 3;have hfz27_4:=blk_frozen BK106.out 4;have hfz27_5:=blk_frozen BK106.out 5;have hfz27_6:=blk_frozen BK106.out 6;have hfz27_7:=blk_frozen BK106.out 7;have hfz27_8:=blk_frozen BK106.out 8;have hfz27_9:=blk_frozen BK106.out 9;have hfz27_10:=blk_frozen BK106.out 10)))
       go_meet
       case rel=>exact⟨_,(t109),(t110),H',⟨by have:=HJ4.out;have:=HJ15.out;first|omega|exact Nat.le_refl _⟩,⟨fq_ BK101.out⟩,⟨rq_ BK106.out⟩,⟨b_ HB.out⟩⟩
      ·replace c23:=Bool.eq_false_iff.mpr c23;subst c23;rw[if_neg nf_] at H;have H':=Aside0.mk H;clear H;go_wp2
       repeat(go_quiet (fail);try go_wp2)
       go_meet
       case rel=>exact⟨_,(t102),(t103),H',⟨by have:=HJ4.out;have:=HJ15.out;first|omega|exact Nat.le_refl _⟩,⟨k_ BK101.out⟩,⟨k_ BK106.out⟩,⟨b_ HB.out⟩⟩
     case rest =>
      clear HC22;(try clear c1);(try clear c2);(try clear p2);(try clear c6);(try clear c11);(try clear c13);(try clear c14);(try clear c17);(try clear c20);(try clear c23);(try clear c26);(try clear hcz12_0);(try clear hcz12_1);(try clear hcz12_10);(try clear hcz12_2);(try clear hcz12_3);(try clear hcz12_4);(try clear hcz12_5);(try clear hcz12_6);(try clear hcz12_7);(try clear hcz12_8);(try clear hcz12_9);(try clear hcz15_0);(try clear hcz15_1);(try clear hcz15_10);(try clear hcz15_2);(try clear hcz15_3);(try clear hcz15_4);(try clear hcz15_5);(try clear hcz15_6);(try clear hcz15_7);(try clear hcz15_8);(try clear hcz15_9);(try clear hcz21_0);(try clear hcz21_1);(try clear hcz21_10);(try clear hcz21_2);(try clear hcz21_3);(try clear hcz21_4);(try clear hcz21_5);(try clear hcz21_6);(try clear hcz21_7);(try clear hcz21_8);(try clear hcz21_9);(try clear hcz27_0);(try clear hcz27_1);(try clear hcz27_10);(try clear hcz27_2);(try clear hcz27_3);(try clear hcz27_4);(try clear hcz27_5);(try clear hcz27_6);(try clear hcz27_7);(try clear hcz27_8);(try clear hcz27_9);(try clear hcz7_0);(try clear hcz7_1);(try clear hcz7_2);(try clear hfz12_0);(try clear hfz12_1);(try clear hfz12_10);(try clear hfz12_2);(try clear hfz12_3);(try clear hfz12_4);(try clear hfz12_5);(try clear hfz12_6);(try clear hfz12_7);(try clear hfz12_8);(try clear hfz12_9);(try clear hfz15_0);(try clear hfz15_1);(try clear hfz15_10);(try clear hfz15_2);(try clear hfz15_3);(try clear hfz15_4);(try clear hfz15_5);(try clear hfz15_6);(try clear hfz15_7);(try clear hfz15_8);(try clear hfz15_9);(try clear hfz21_0);(try clear hfz21_1);(try clear hfz21_10);(try clear hfz21_2);(try clear hfz21_3);(try clear hfz21_4);(try clear hfz21_5);(try clear hfz21_6);(try clear hfz21_7);(try clear hfz21_8);(try clear hfz21_9);(try clear hfz27_0);(try clear hfz27_1);(try clear hfz27_10);(try clear hfz27_2);(try clear hfz27_3);(try clear hfz27_4);(try clear hfz27_5);(try clear hfz27_6);(try clear hfz27_7);(try clear hfz27_8);(try clear hfz27_9);(try clear hfz7_0);(try clear hfz7_1);(try clear hfz7_2);(try clear p2);obtain⟨kq,x107006_21,x107007_21,HA,HJ21,BK101,BK106,HB⟩:=hcut
      cases kq with
      | zero=>exact absurd HA.out (by simp[dl15_ActionKinds.j2])
      | succ kj21 =>
       have H:=HA.out;clear HA;simp only[dl15_ActionKinds.j2] at H;have HC28:=Aside0.mk H;clear H
       go_upto_region 9 with (fail)
       repeat(go_quiet (fail);go_upto_region 9 with (fail))
       go_cut [37] (fun v37 wc=>∃ (kq:Nat) (x37_27:Bool),v37=.bool x37_27∧Aside0 (dl15_ActionKinds.j3 kq a0 a1_0 a1_1 a1_2 x37_27 (⟨#[97,49]⟩:ByteArray) a0 (⟨#[120]⟩:ByteArray) x107003_4 x107004_15 x107005_15 x107006_21 x107007_21 0 0 0=some r)∧Aside0 (kq≤kj21)∧Aside0 (wc.heap[gb101]?=some (.cells #[.bool a1_0,.bool a1_1,.bool a1_2] 36 (0,0)))∧Aside0 (wc.heap[gb106]?=some (.cells #[.string (⟨#[97,49]⟩:ByteArray),.int .i64 a0,.string (⟨#[120]⟩:ByteArray),.string x107003_4,.string x107004_15,.string x107005_15,.string x107006_21,.string x107007_21,.int .i64 0,.int .i64 0,.int .i64 0] 25 (0,0)))∧Aside0 (Below w.heap.size w wc))
       case first =>
        have H:=HC28.out;clear HC28;obtain⟨t111,A29,H⟩:=bi_ H;by_cases c30:t111=true
        ·subst c30;rw[if_pos rfl] at H;by_cases c31:a0<0
         ·rw[if_pos c31] at H;have c31b0:decide (a0<0)=true:=decide_eq_true c31;clear c31;(first|rw[c31b0]|(simp only[i64_w,i32_w];rw[c31b0])|skip);have H':=Aside0.mk H;clear H
          go_wp2_with (first|(go_at_call 8;(with_reducible refine(dl15_fixed.calls  true _ ?side1 A29.out).mono ?_);(case side1=>exact lb_ HLD HB);rintro e w32 ⟨rfl,hb⟩;replace BK101:=kb_ BK101 hb;replace BK106:=kb_ BK106 hb;replace HB:=bs_ HB hb;(try clear hb);(try clear hb2);(try clear hk);(try clear hi)))
          repeat(go_quiet (first|(go_at_call 8;(with_reducible refine(dl15_fixed.calls  true _ ?side1 A29.out).mono ?_);(case side1=>exact lb_ HLD HB);rintro e w32 ⟨rfl,hb⟩;replace BK101:=kb_ BK101 hb;replace BK106:=kb_ BK106 hb;replace HB:=bs_ HB hb;(try clear hb);(try clear hb2);(try clear hk);(try clear hi)));try go_wp2_with (first|(go_at_call 8;(with_reducible refine(dl15_fixed.calls  true _ ?side1 A29.out).mono ?_);(case side1=>exact lb_ HLD HB);rintro e w32 ⟨rfl,hb⟩;replace BK101:=kb_ BK101 hb;replace BK106:=kb_ BK106 hb;replace HB:=bs_ HB hb;(try clear hb);(try clear hb2);(try clear hk);(try clear hi))))
          go_meet
          case rel=>exact⟨_,(true),rl_,H',⟨by have:=HJ4.out;have:=HJ15.out;have:=HJ21.out;first|omega|exact Nat.le_refl _⟩,⟨k_ BK101.out⟩,⟨k_ BK106.out⟩,⟨b_ HB.out⟩⟩
         ·rw[if_neg c31] at H;have c31b0:decide (a0<0)=false:=decide_eq_false c31;clear c31;(first|rw[c31b0]|(simp only[i64_w,i32_w];rw[c31b0])|skip);have H':=Aside0.mk H;clear H
          go_wp2_with (first|(go_at_call 8;(with_reducible refine(dl15_fixed.calls  true _ ?side1 A29.out).mono ?_);(case side1=>exact lb_ HLD HB);rintro e w33 ⟨rfl,hb⟩;replace BK101:=kb_ BK101 hb;replace BK106:=kb_ BK106 hb;replace HB:=bs_ HB hb;(try clear hb);(try clear hb2);(try clear hk);(try clear hi)))
          repeat(go_quiet (first|(go_at_call 8;(with_reducible refine(dl15_fixed.calls  true _ ?side1 A29.out).mono ?_);(case side1=>exact lb_ HLD HB);rintro e w33 ⟨rfl,hb⟩;replace BK101:=kb_ BK101 hb;replace BK106:=kb_ BK106 hb;replace HB:=bs_ HB hb;(try clear hb);(try clear hb2);(try clear hk);(try clear hi)));try go_wp2_with (first|(go_at_call 8;(with_reducible refine(dl15_fixed.calls  true _ ?side1 A29.out).mono ?_);(case side1=>exact lb_ HLD HB);rintro e w33 ⟨rfl,hb⟩;replace BK101:=kb_ BK101 hb;replace BK106:=kb_ BK106 hb;replace HB:=bs_ HB hb;(try clear hb);(try clear hb2);(try clear hk);(try clear hi))))
          go_meet
          case rel=>exact⟨_,(decide (a0>4)),rl_,H',⟨by have:=HJ4.out;have:=HJ15.out;have:=HJ21.out;first|omega|exact Nat.le_refl _⟩,⟨k_ BK101.out⟩,⟨k_ BK106.out⟩,⟨b_ HB.out⟩⟩
        ·replace c30:=Bool.eq_false_iff.mpr c30;subst c30;rw[if_neg nf_] at H;have H':=Aside0.mk H;clear H
         go_wp2_with (first|(go_at_call 8;(with_reducible refine(dl15_fixed.calls  false _ ?side1 A29.out).mono ?_);(case side1=>exact lb_ HLD HB);rintro e w34 ⟨rfl,hb⟩;replace BK101:=kb_ BK101 hb;replace BK106:=kb_ BK106 hb;replace HB:=bs_ HB hb;(try clear hb);(try clear hb2);(try clear hk);(try clear hi)))
         repeat(go_quiet (first|(go_at_call 8;(with_reducible refine(dl15_fixed.calls  false _ ?side1 A29.out).mono ?_);(case side1=>exact lb_ HLD HB);rintro e w34 ⟨rfl,hb⟩;replace BK101:=kb_ BK101 hb;replace BK106:=kb_ BK106 hb;replace HB:=bs_ HB hb;(try clear hb);(try clear hb2);(try clear hk);(try clear hi)));try go_wp2_with (first|(go_at_call 8;(with_reducible refine(dl15_fixed.calls  false _ ?side1 A29.out).mono ?_);(case side1=>exact lb_ HLD HB);rintro e w34 ⟨rfl,hb⟩;replace BK101:=kb_ BK101 hb;replace BK106:=kb_ BK106 hb;replace HB:=bs_ HB hb;(try clear hb);(try clear hb2);(try clear hk);(try clear hi))))
         go_meet
         case rel=>exact⟨_,(true),rl_,H',⟨by have:=HJ4.out;have:=HJ15.out;have:=HJ21.out;first|omega|exact Nat.le_refl _⟩,⟨k_ BK101.out⟩,⟨k_ BK106.out⟩,⟨b_ HB.out⟩⟩
       case rest =>
        clear HC28;(try clear c1);(try clear c2);(try clear p2);(try clear c3);(try clear c6);(try clear c11);(try clear c13);(try clear c14);(try clear c17);(try clear c20);(try clear c23);(try clear c26);(try clear c30);(try clear c31);(try clear c31b0);(try clear hcz12_0);(try clear hcz12_1);(try clear hcz12_10);(try clear hcz12_2);(try clear hcz12_3);(try clear hcz12_4);(try clear hcz12_5);(try clear hcz12_6);(try clear hcz12_7);(try clear hcz12_8);(try clear hcz12_9);(try clear hcz15_0);(try clear hcz15_1);(try clear hcz15_10);(try clear hcz15_2);(try clear hcz15_3);(try clear hcz15_4);(try clear hcz15_5);(try clear hcz15_6);(try clear hcz15_7);(try clear hcz15_8);(try clear hcz15_9);(try clear hcz21_0);(try clear hcz21_1);(try clear hcz21_10);(try clear hcz21_2);(try clear hcz21_3);(try clear hcz21_4);(try clear hcz21_5);(try clear hcz21_6);(try clear hcz21_7);(try clear hcz21_8);(try clear hcz21_9);(try clear hcz27_0);(try clear hcz27_1);(try clear hcz27_10);(try clear hcz27_2);(try clear hcz27_3);(try clear hcz27_4);(try clear hcz27_5);(try clear hcz27_6);(try clear hcz27_7);(try clear hcz27_8);(try clear hcz27_9);(try clear hcz7_0);(try clear hcz7_1);(try clear hcz7_2);(try clear hfz12_0);(try clear hfz12_1);(try clear hfz12_10);(try clear hfz12_2);(try clear hfz12_3);(try clear hfz12_4);(try clear hfz12_5);(try clear hfz12_6);(try clear hfz12_7);(try clear hfz12_8);(try clear hfz12_9);(try clear hfz15_0);(try clear hfz15_1);(try clear hfz15_10);(try clear hfz15_2);(try clear hfz15_3);(try clear hfz15_4);(try clear hfz15_5);(try clear hfz15_6);(try clear hfz15_7);(try clear hfz15_8);(try clear hfz15_9);(try clear hfz21_0);(try clear hfz21_1);(try clear hfz21_10);(try clear hfz21_2);(try clear hfz21_3);(try clear hfz21_4);(try clear hfz21_5);(try clear hfz21_6);(try clear hfz21_7);(try clear hfz21_8);(try clear hfz21_9);(try clear hfz27_0);(try clear hfz27_1);(try clear hfz27_10);(try clear hfz27_2);(try clear hfz27_3);(try clear hfz27_4);(try clear hfz27_5);(try clear hfz27_6);(try clear hfz27_7);(try clear hfz27_8);(try clear hfz27_9);(try clear hfz7_0);(try clear hfz7_1);(try clear hfz7_2);(try clear p2);obtain⟨kq,x37_27,rfl,HA,HJ27,BK101,BK106,HB⟩:=hcut
        cases kq with
        | zero=>exact absurd HA.out (by simp[dl15_ActionKinds.j3])
        | succ kj27 =>
         have H:=HA.out;clear HA;simp only[dl15_ActionKinds.j3] at H;by_cases c35:x37_27=true
         ·subst c35;rw[if_pos rfl] at H;obtain⟨t112,A36,H⟩:=bi_ H;by_cases c37:t112=true
          ·subst c37;rw[if_pos rfl] at H;obtain⟨t113,A38,H⟩:=bi_ H;obtain rfl:=Option.some.inj H
           go_wp2_with (first|(go_at_call 8;(with_reducible refine(dl15_fixed.calls  true _ ?side1 A36.out).mono ?_);(case side1=>exact lb_ HLD HB);rintro e w39 ⟨rfl,hb⟩;replace BK101:=kb_ BK101 hb;replace BK106:=kb_ BK106 hb;replace HB:=bs_ HB hb;(try clear hb);(try clear hb2);(try clear hk);(try clear hi);have hnb40:=NB106_101.out;have hnc40:=NB101_106.out;have hcz41_0:=bc_ BK106 0 rfl;have hcz41_1:=bc_ BK106 1 rfl;have hcz41_2:=bc_ BK106 2 rfl;have hcz41_3:=bc_ BK106 3 rfl;have hcz41_4:=bc_ BK106 4 rfl;have hcz41_5:=bc_ BK106 5 rfl;have hcz41_6:=bc_ BK106 6 rfl;have hcz41_7:=bc_ BK106 7 rfl;have hcz41_8:=bc_ BK106 8 rfl;have hcz41_9:=bc_ BK106 9 rfl;have hcz41_10:=bc_ BK106 10 rfl;have hfz41_0:=blk_frozen BK106.out 0;have hfz41_1:=blk_frozen BK106.out 1;have hfz41_2:=blk_frozen BK106.out 2;have hfz41_3:=blk_frozen BK106.out 3;have hfz41_4:=blk_frozen BK106.out 4;have hfz41_5:=blk_frozen BK106.out 5;have hfz41_6:=blk_frozen BK106.out 6;have hfz41_7:=blk_frozen BK106.out 7;have hfz41_8:=blk_frozen BK106.out 8;have hfz41_9:=blk_frozen BK106.out 9;have hfz41_10:=blk_frozen BK106.out 10)|(go_at_call 11;(with_reducible refine(action_May.calls (⟨#[97,49]⟩:ByteArray) a0 (⟨#[120]⟩:ByteArray) x107003_4 x107004_15 x107005_15 x107006_21 x107007_21 0 0 0 t113 _ ?side1 A38.out).mono ?_);(case side1=>exact lb_ HLD HB);rintro e w42 ⟨rfl,hb⟩;replace BK101:=kb_ BK101 hb;replace BK106:=kb_ BK106 hb;replace HB:=bs_ HB hb;(try clear hb);(try clear hb2);(try clear hk);(try clear hi)))
           repeat(go_quiet (first|(go_at_call 8;(with_reducible refine(dl15_fixed.calls  true _ ?side1 A36.out).mono ?_);(case side1=>exact lb_ HLD HB);rintro e w39 ⟨rfl,hb⟩;replace BK101:=kb_ BK101 hb;replace BK106:=kb_ BK106 hb;replace HB:=bs_ HB hb;(try clear hb);(try clear hb2);(try clear hk);(try clear hi);have hnb40:=NB106_101.out;have hnc40:=NB101_106.out;have hcz41_0:=bc_ BK106 0 rfl;have hcz41_1:=bc_ BK106 1 rfl;have hcz41_2:=bc_ BK106 2 rfl;have hcz41_3:=bc_ BK106 3 rfl;have hcz41_4:=bc_ BK106 4 rfl;have hcz41_5:=bc_ BK106 5 rfl;have hcz41_6:=bc_ BK106 6 rfl;have hcz41_7:=bc_ BK106 7 rfl;have hcz41_8:=bc_ BK106 8 rfl;have hcz41_9:=bc_ BK106 9 rfl;have hcz41_10:=bc_ BK106 10 rfl;have hfz41_0:=blk_frozen BK106.out 0;have hfz41_1:=blk_frozen BK106.out 1;have hfz41_2:=blk_frozen BK106.out 2;have hfz41_3:=blk_frozen BK106.out 3;have hfz41_4:=blk_frozen BK106.out 4;have hfz41_5:=blk_frozen BK106.out 5;have hfz41_6:=blk_frozen BK106.out 6;have hfz41_7:=blk_frozen BK106.out 7;have hfz41_8:=blk_frozen BK106.out 8;have hfz41_9:=blk_frozen BK106.out 9;have hfz41_10:=blk_frozen BK106.out 10)|(go_at_call 11;(with_reducible refine(action_May.calls (⟨#[97,49]⟩:ByteArray) a0 (⟨#[120]⟩:ByteArray) x107003_4 x107004_15 x107005_15 x107006_21 x107007_21 0 0 0 t113 _ ?side1 A38.out).mono ?_);(case side1=>exact lb_ HLD HB);rintro e w42 ⟨rfl,hb⟩;replace BK101:=kb_ BK101 hb;replace BK106:=kb_ BK106 hb;replace HB:=bs_ HB hb;(try clear hb);(try clear hb2);(try clear hk);(try clear hi)));try go_wp2_with (first|(go_at_call 8;(with_reducible refine(dl15_fixed.calls  true _ ?side1 A36.out).mono ?_);(case side1=>exact lb_ HLD HB);rintro e w39 ⟨rfl,hb⟩;replace BK101:=kb_ BK101 hb;replace BK106:=kb_ BK106 hb;replace HB:=bs_ HB hb;(try clear hb);(try clear hb2);(try clear hk);(try clear hi);have hnb40:=NB106_101.out;have hnc40:=NB101_106.out;have hcz41_0:=bc_ BK106 0 rfl;have hcz41_1:=bc_ BK106 1 rfl;have hcz41_2:=bc_ BK106 2 rfl;have hcz41_3:=bc_ BK106 3 rfl;have hcz41_4:=bc_ BK106 4 rfl;have hcz41_5:=bc_ BK106 5 rfl;have hcz41_6:=bc_ BK106 6 rfl;have hcz41_7:=bc_ BK106 7 rfl;have hcz41_8:=bc_ BK106 8 rfl;have hcz41_9:=bc_ BK106 9 rfl;have hcz41_10:=bc_ BK106 10 rfl;have hfz41_0:=blk_frozen BK106.out 0;have hfz41_1:=blk_frozen BK106.out 1;have hfz41_2:=blk_frozen BK106.out 2;have hfz41_3:=blk_frozen BK106.out 3;have hfz41_4:=blk_frozen BK106.out 4;have hfz41_5:=blk_frozen BK106.out 5;have hfz41_6:=blk_frozen BK106.out 6;have hfz41_7:=blk_frozen BK106.out 7;have hfz41_8:=blk_frozen BK106.out 8;have hfz41_9:=blk_frozen BK106.out 9;have hfz41_10:=blk_frozen BK106.out 10)|(go_at_call 11;(with_reducible refine(action_May.calls (⟨#[97,49]⟩:ByteArray) a0 (⟨#[120]⟩:ByteArray) x107003_4 x107004_15 x107005_15 x107006_21 x107007_21 0 0 0 t113 _ ?side1 A38.out).mono ?_);(case side1=>exact lb_ HLD HB);rintro e w42 ⟨rfl,hb⟩;replace BK101:=kb_ BK101 hb;replace BK106:=kb_ BK106 hb;replace HB:=bs_ HB hb;(try clear hb);(try clear hb2);(try clear hk);(try clear hi))))
           go_ret
           exact⟨er_,b_ HB.out⟩
          ·replace c37:=Bool.eq_false_iff.mpr c37;subst c37
           have H1:(some false)=some r:=by rw[if_neg (show ¬ (false=true) by decide)] at H;exact H
           exact absurd (H1.trans (congrArg some hr_.out)) (by decide)
         ·replace c35:=Bool.eq_false_iff.mpr c35;subst c35;rw[if_neg nf_] at H;by_cases c44:(a1_0 == (decide (a0≥3)))=true
          ·rw[if_pos c44] at H;have c44b0:(a1_0 == (decide (a0≥3)))=true:=c44;(try(have c44b1:decide (a1_0=(decide (a0≥3)))=true:=by simpa using c44));(try(have c44b2:(a1_0 == (decide (a0≥3)))=true:=by simpa using c44));clear c44;by_cases c45:(a1_1 == (a0 != 2))=true
           ·rw[if_pos c45] at H;have c45b0:(a1_1 == (a0 != 2))=true:=c45;(try(have c45b1:decide (a1_1=(a0 != 2))=true:=by simpa using c45));(try(have c45b2:(a1_1 == (a0 != 2))=true:=by simpa using c45));clear c45;by_cases c46:(a1_2 == (a0 == 2))=true
            ·rw[if_pos c46] at H;have c46b0:(a1_2 == (a0 == 2))=true:=c46;(try(have c46b1:decide (a1_2=(a0 == 2))=true:=by simpa using c46));(try(have c46b2:(a1_2 == (a0 == 2))=true:=by simpa using c46));clear c46;obtain⟨t114,A47,H⟩:=bi_ H;obtain rfl:=Option.some.inj H;have hnb48:=NB106_101.out;have hnc48:=NB101_106.out;have hcz49_0:=bc_ BK106 0 rfl;have hcz49_1:=bc_ BK106 1 rfl;have hcz49_2:=bc_ BK106 2 rfl;have hcz49_3:=bc_ BK106 3 rfl;have hcz49_4:=bc_ BK106 4 rfl;have hcz49_5:=bc_ BK106 5 rfl;have hcz49_6:=bc_ BK106 6 rfl;have hcz49_7:=bc_ BK106 7 rfl;have hcz49_8:=bc_ BK106 8 rfl;have hcz49_9:=bc_ BK106 9 rfl;have hcz49_10:=bc_ BK106 10 rfl;have hfz49_0:=blk_frozen BK106.out 0;have hfz49_1:=blk_frozen BK106.out 1;have hfz49_2:=blk_frozen BK106.out 2;have hfz49_3:=blk_frozen BK106.out 3;have hfz49_4:=blk_frozen BK106.out 4;have hfz49_5:=blk_frozen BK106.out 5;have hfz49_6:=blk_frozen BK106.out 6;have hfz49_7:=blk_frozen BK106.out 7;have hfz49_8:=blk_frozen BK106.out 8;have hfz49_9:=blk_frozen BK106.out 9;have hfz49_10:=blk_frozen BK106.out 10
             go_wp2_with (first|(go_at_call 11;(with_reducible refine(action_May.calls (⟨#[97,49]⟩:ByteArray) a0 (⟨#[120]⟩:ByteArray) x107003_4 x107004_15 x107005_15 x107006_21 x107007_21 0 0 0 t114 _ ?side1 A47.out).mono ?_);(case side1=>exact lb_ HLD HB);rintro e w50 ⟨rfl,hb⟩;replace BK101:=kb_ BK101 hb;replace BK106:=kb_ BK106 hb;replace HB:=bs_ HB hb;(try clear hb);(try clear hb2);(try clear hk);(try clear hi)))
             repeat(go_quiet (first|(go_at_call 11;(with_reducible refine(action_May.calls (⟨#[97,49]⟩:ByteArray) a0 (⟨#[120]⟩:ByteArray) x107003_4 x107004_15 x107005_15 x107006_21 x107007_21 0 0 0 t114 _ ?side1 A47.out).mono ?_);(case side1=>exact lb_ HLD HB);rintro e w50 ⟨rfl,hb⟩;replace BK101:=kb_ BK101 hb;replace BK106:=kb_ BK106 hb;replace HB:=bs_ HB hb;(try clear hb);(try clear hb2);(try clear hk);(try clear hi)));try go_wp2_with (first|(go_at_call 11;(with_reducible refine(action_May.calls (⟨#[97,49]⟩:ByteArray) a0 (⟨#[120]⟩:ByteArray) x107003_4 x107004_15 x107005_15 x107006_21 x107007_21 0 0 0 t114 _ ?side1 A47.out).mono ?_);(case side1=>exact lb_ HLD HB);rintro e w50 ⟨rfl,hb⟩;replace BK101:=kb_ BK101 hb;replace BK106:=kb_ BK106 hb;replace HB:=bs_ HB hb;(try clear hb);(try clear hb2);(try clear hk);(try clear hi))))
             go_ret
             exact⟨er_,b_ HB.out⟩
            ·rw[if_neg c46] at H
             have c46b0:(a1_2 == (a0 == 2))=false:=by simpa using c46
             (try(have c46b1:decide (a1_2=(a0 == 2))=false:=by simpa using c46));(try(have c46b2:(a1_2 == (a0 == 2))=false:=by simpa using c46));(try(have c46b3:¬ (a1_2=(a0 == 2)):=by simpa using c46));clear c46;obtain⟨t115,A51,H⟩:=bi_ H;obtain rfl:=Option.some.inj H;have hnb52:=NB106_101.out;have hnc52:=NB101_106.out;have hcz53_0:=bc_ BK106 0 rfl;have hcz53_1:=bc_ BK106 1 rfl;have hcz53_2:=bc_ BK106 2 rfl;have hcz53_3:=bc_ BK106 3 rfl;have hcz53_4:=bc_ BK106 4 rfl;have hcz53_5:=bc_ BK106 5 rfl;have hcz53_6:=bc_ BK106 6 rfl;have hcz53_7:=bc_ BK106 7 rfl;have hcz53_8:=bc_ BK106 8 rfl;have hcz53_9:=bc_ BK106 9 rfl;have hcz53_10:=bc_ BK106 10 rfl;have hfz53_0:=blk_frozen BK106.out 0;have hfz53_1:=blk_frozen BK106.out 1;have hfz53_2:=blk_frozen BK106.out 2;have hfz53_3:=blk_frozen BK106.out 3;have hfz53_4:=blk_frozen BK106.out 4;have hfz53_5:=blk_frozen BK106.out 5;have hfz53_6:=blk_frozen BK106.out 6;have hfz53_7:=blk_frozen BK106.out 7;have hfz53_8:=blk_frozen BK106.out 8;have hfz53_9:=blk_frozen BK106.out 9;have hfz53_10:=blk_frozen BK106.out 10
             go_wp2_with (first|(go_at_call 11;(with_reducible refine(action_May.calls (⟨#[97,49]⟩:ByteArray) a0 (⟨#[120]⟩:ByteArray) x107003_4 x107004_15 x107005_15 x107006_21 x107007_21 0 0 0 t115 _ ?side1 A51.out).mono ?_);(case side1=>exact lb_ HLD HB);rintro e w54 ⟨rfl,hb⟩;replace BK101:=kb_ BK101 hb;replace BK106:=kb_ BK106 hb;replace HB:=bs_ HB hb;(try clear hb);(try clear hb2);(try clear hk);(try clear hi)))
             repeat(go_quiet (first|(go_at_call 11;(with_reducible refine(action_May.calls (⟨#[97,49]⟩:ByteArray) a0 (⟨#[120]⟩:ByteArray) x107003_4 x107004_15 x107005_15 x107006_21 x107007_21 0 0 0 t115 _ ?side1 A51.out).mono ?_);(case side1=>exact lb_ HLD HB);rintro e w54 ⟨rfl,hb⟩;replace BK101:=kb_ BK101 hb;replace BK106:=kb_ BK106 hb;replace HB:=bs_ HB hb;(try clear hb);(try clear hb2);(try clear hk);(try clear hi)));try go_wp2_with (first|(go_at_call 11;(with_reducible refine(action_May.calls (⟨#[97,49]⟩:ByteArray) a0 (⟨#[120]⟩:ByteArray) x107003_4 x107004_15 x107005_15 x107006_21 x107007_21 0 0 0 t115 _ ?side1 A51.out).mono ?_);(case side1=>exact lb_ HLD HB);rintro e w54 ⟨rfl,hb⟩;replace BK101:=kb_ BK101 hb;replace BK106:=kb_ BK106 hb;replace HB:=bs_ HB hb;(try clear hb);(try clear hb2);(try clear hk);(try clear hi))))
             go_ret
             exact⟨er_,b_ HB.out⟩
           ·rw[if_neg c45] at H
            have c45b0:(a1_1 == (a0 != 2))=false:=by simpa using c45
            (try(have c45b1:decide (a1_1=(a0 != 2))=false:=by simpa using c45));(try(have c45b2:(a1_1 == (a0 != 2))=false:=by simpa using c45));(try(have c45b3:¬ (a1_1=(a0 != 2)):=by simpa using c45));clear c45;obtain⟨t116,A55,H⟩:=bi_ H;obtain rfl:=Option.some.inj H;have hnb56:=NB106_101.out;have hnc56:=NB101_106.out;have hcz57_0:=bc_ BK106 0 rfl;have hcz57_1:=bc_ BK106 1 rfl;have hcz57_2:=bc_ BK106 2 rfl;have hcz57_3:=bc_ BK106 3 rfl;have hcz57_4:=bc_ BK106 4 rfl;have hcz57_5:=bc_ BK106 5 rfl;have hcz57_6:=bc_ BK106 6 rfl;have hcz57_7:=bc_ BK106 7 rfl;have hcz57_8:=bc_ BK106 8 rfl;have hcz57_9:=bc_ BK106 9 rfl;have hcz57_10:=bc_ BK106 10 rfl;have hfz57_0:=blk_frozen BK106.out 0;have hfz57_1:=blk_frozen BK106.out 1;have hfz57_2:=blk_frozen BK106.out 2;have hfz57_3:=blk_frozen BK106.out 3;have hfz57_4:=blk_frozen BK106.out 4;have hfz57_5:=blk_frozen BK106.out 5;have hfz57_6:=blk_frozen BK106.out 6;have hfz57_7:=blk_frozen BK106.out 7;have hfz57_8:=blk_frozen BK106.out 8;have hfz57_9:=blk_frozen BK106.out 9;have hfz57_10:=blk_frozen BK106.out 10
            go_wp2_with (first|(go_at_call 11;(with_reducible refine(action_May.calls (⟨#[97,49]⟩:ByteArray) a0 (⟨#[120]⟩:ByteArray) x107003_4 x107004_15 x107005_15 x107006_21 x107007_21 0 0 0 t116 _ ?side1 A55.out).mono ?_);(case side1=>exact lb_ HLD HB);rintro e w58 ⟨rfl,hb⟩;replace BK101:=kb_ BK101 hb;replace BK106:=kb_ BK106 hb;replace HB:=bs_ HB hb;(try clear hb);(try clear hb2);(try clear hk);(try clear hi)))
            repeat(go_quiet (first|(go_at_call 11;(with_reducible refine(action_May.calls (⟨#[97,49]⟩:ByteArray) a0 (⟨#[120]⟩:ByteArray) x107003_4 x107004_15 x107005_15 x107006_21 x107007_21 0 0 0 t116 _ ?side1 A55.out).mono ?_);(case side1=>exact lb_ HLD HB);rintro e w58 ⟨rfl,hb⟩;replace BK101:=kb_ BK101 hb;replace BK106:=kb_ BK106 hb;replace HB:=bs_ HB hb;(try clear hb);(try clear hb2);(try clear hk);(try clear hi)));try go_wp2_with (first|(go_at_call 11;(with_reducible refine(action_May.calls (⟨#[97,49]⟩:ByteArray) a0 (⟨#[120]⟩:ByteArray) x107003_4 x107004_15 x107005_15 x107006_21 x107007_21 0 0 0 t116 _ ?side1 A55.out).mono ?_);(case side1=>exact lb_ HLD HB);rintro e w58 ⟨rfl,hb⟩;replace BK101:=kb_ BK101 hb;replace BK106:=kb_ BK106 hb;replace HB:=bs_ HB hb;(try clear hb);(try clear hb2);(try clear hk);(try clear hi))))
            go_ret
            exact⟨er_,b_ HB.out⟩
          ·rw[if_neg c44] at H
           have c44b0:(a1_0 == (decide (a0≥3)))=false:=by simpa using c44
           (try(have c44b1:decide (a1_0=(decide (a0≥3)))=false:=by simpa using c44));(try(have c44b2:(a1_0 == (decide (a0≥3)))=false:=by simpa using c44));(try(have c44b3:¬ (a1_0=(decide (a0≥3))):=by simpa using c44));clear c44;obtain⟨t117,A59,H⟩:=bi_ H;obtain rfl:=Option.some.inj H;have hnb60:=NB106_101.out;have hnc60:=NB101_106.out;have hcz61_0:=bc_ BK106 0 rfl;have hcz61_1:=bc_ BK106 1 rfl;have hcz61_2:=bc_ BK106 2 rfl;have hcz61_3:=bc_ BK106 3 rfl;have hcz61_4:=bc_ BK106 4 rfl;have hcz61_5:=bc_ BK106 5 rfl;have hcz61_6:=bc_ BK106 6 rfl;have hcz61_7:=bc_ BK106 7 rfl;have hcz61_8:=bc_ BK106 8 rfl;have hcz61_9:=bc_ BK106 9 rfl;have hcz61_10:=bc_ BK106 10 rfl;have hfz61_0:=blk_frozen BK106.out 0;have hfz61_1:=blk_frozen BK106.out 1;have hfz61_2:=blk_frozen BK106.out 2;have hfz61_3:=blk_frozen BK106.out 3;have hfz61_4:=blk_frozen BK106.out 4;have hfz61_5:=blk_frozen BK106.out 5;have hfz61_6:=blk_frozen BK106.out 6;have hfz61_7:=blk_frozen BK106.out 7;have hfz61_8:=blk_frozen BK106.out 8;have hfz61_9:=blk_frozen BK106.out 9;have hfz61_10:=blk_frozen BK106.out 10
           go_wp2_with (first|(go_at_call 11;(with_reducible refine(action_May.calls (⟨#[97,49]⟩:ByteArray) a0 (⟨#[120]⟩:ByteArray) x107003_4 x107004_15 x107005_15 x107006_21 x107007_21 0 0 0 t117 _ ?side1 A59.out).mono ?_);(case side1=>exact lb_ HLD HB);rintro e w62 ⟨rfl,hb⟩;replace BK101:=kb_ BK101 hb;replace BK106:=kb_ BK106 hb;replace HB:=bs_ HB hb;(try clear hb);(try clear hb2);(try clear hk);(try clear hi)))
           repeat(go_quiet (first|(go_at_call 11;(with_reducible refine(action_May.calls (⟨#[97,49]⟩:ByteArray) a0 (⟨#[120]⟩:ByteArray) x107003_4 x107004_15 x107005_15 x107006_21 x107007_21 0 0 0 t117 _ ?side1 A59.out).mono ?_);(case side1=>exact lb_ HLD HB);rintro e w62 ⟨rfl,hb⟩;replace BK101:=kb_ BK101 hb;replace BK106:=kb_ BK106 hb;replace HB:=bs_ HB hb;(try clear hb);(try clear hb2);(try clear hk);(try clear hi)));try go_wp2_with (first|(go_at_call 11;(with_reducible refine(action_May.calls (⟨#[97,49]⟩:ByteArray) a0 (⟨#[120]⟩:ByteArray) x107003_4 x107004_15 x107005_15 x107006_21 x107007_21 0 0 0 t117 _ ?side1 A59.out).mono ?_);(case side1=>exact lb_ HLD HB);rintro e w62 ⟨rfl,hb⟩;replace BK101:=kb_ BK101 hb;replace BK106:=kb_ BK106 hb;replace HB:=bs_ HB hb;(try clear hb);(try clear hb2);(try clear hk);(try clear hi))))
           go_ret
           exact⟨er_,b_ HB.out⟩
end Go.Proofs.YtoghmeffpgbcfaaGreatDoor.LActionKinds
end

section
namespace Go.Proofs.YtoghmeffpgbcfaaGreatDoor.LActionKinds
end Go.Proofs.YtoghmeffpgbcfaaGreatDoor.LActionKinds
end

section
namespace Go.Proofs.YtoghmeffpgbcfaaGreatDoor
theorem kinds_not (x:Int) (h:x<0∨4<x) {a2 a3 a4 a5 a6 a7:ByteArray} {a0:ByteArray}:mayA (actV a0 x a2 a3 a4 a5 a6 a7 0 0 0)=false:=by
 unfold mayA actV
 dsimp only
 rcases h with h|h
 ·rw[decide_eq_false (show ¬ 0≤x by omega)]
  rfl
 ·rw[decide_eq_false (show ¬ x≤4 by omega),Bool.false_and,Bool.and_false]
theorem kinds_out (x:Int) (h:x<0∨4<x) (o r c:Bool):LActionKinds.dl15_ActionKinds.f 5 x o r c=some true:=by
 have of0:r3_Of.f 0=some (rT 0):=if_pos (by decide)
 have of2:r3_Of.f 2=some (rT 2):=if_pos (by decide)
 have of3:r3_Of.f 3=some (rT 3):=if_pos (by decide)
 have j3:∀ (a3 a4 a5 a6 a7:ByteArray),smR (a4,a5)=true→smR (a6,a7)=true→a3.size≤1100→LActionKinds.dl15_ActionKinds.j3 2 x o r c true ⟨#[97,49]⟩ x ⟨#[120]⟩ a3 a4 a5 a6 a7 0 0 0=some true:=by
  intro a3 a4 a5 a6 a7 h1 h2 h3
  simp only[LActionKinds.dl15_ActionKinds.j3]
  rw[if_pos trivial,show dl15_fixed.f=some true from rfl,Option.bind_some,if_pos rfl,aMay (smA_of (by decide) (by decide) h3 h1 h2),Option.bind_some,kinds_not x h]
  rfl
 have j2:∀ (a3 a4 a5 a6 a7:ByteArray),smR (a4,a5)=true→smR (a6,a7)=true→a3.size≤1100→LActionKinds.dl15_ActionKinds.j2 3 x o r c ⟨#[97,49]⟩ x ⟨#[120]⟩ a3 a4 a5 a6 a7 0 0 0=some true:=by
  intro a3 a4 a5 a6 a7 h1 h2 h3
  simp only[LActionKinds.dl15_ActionKinds.j2]
  rw[show dl15_fixed.f=some true from rfl,Option.bind_some,if_pos rfl]
  by_cases h0:x<0
  ·rw[if_pos h0]
   exact j3 a3 a4 a5 a6 a7 h1 h2 h3
  ·rw[if_neg h0,decide_eq_true (show x>4 by omega)]
   exact j3 a3 a4 a5 a6 a7 h1 h2 h3
 have j1:∀ (a3 a4 a5 a6 a7:ByteArray),smR (a4,a5)=true→smR (a6,a7)=true→a3.size≤1100→LActionKinds.dl15_ActionKinds.j1 4 x o r c ⟨#[97,49]⟩ x ⟨#[120]⟩ a3 a4 a5 a6 a7 0 0 0=some true:=by
  intro a3 a4 a5 a6 a7 h1 h2 h3
  simp only[LActionKinds.dl15_ActionKinds.j1]
  cases c
  ·exact j2 a3 a4 a5 a6 a7 h1 h2 h3
  ·rw[if_pos rfl,of3,Option.bind_some]
   exact j2 a3 a4 a5 _ _ h1 (by decide +kernel) h3
 have j0:∀ (a3 a4 a5 a6 a7:ByteArray),smR (a4,a5)=true→smR (a6,a7)=true→a3.size≤1100→LActionKinds.dl15_ActionKinds.j0 5 x o r c ⟨#[97,49]⟩ x ⟨#[120]⟩ a3 a4 a5 a6 a7 0 0 0=some true:=by
  intro a3 a4 a5 a6 a7 h1 h2 h3
  simp only[LActionKinds.dl15_ActionKinds.j0]
  cases r
  ·exact j1 a3 a4 a5 a6 a7 h1 h2 h3
  ·rw[if_pos rfl,of2,Option.bind_some]
   exact j1 a3 _ _ a6 a7 (by decide +kernel) h2 h3
 unfold LActionKinds.dl15_ActionKinds.f
 rw[of0,Option.bind_some,Option.bind_some]
 cases o
 ·exact j0 _ _ _ _ _ (by decide +kernel) (by decide +kernel) (by decide)
 ·exact j0 _ _ _ _ _ (by decide +kernel) (by decide +kernel) (by decide)
theorem pureActionKinds (a0:Int) (a1_0 a1_1 a1_2:Bool) (w0:(Lit.int .i64 a0).wf=true):∃ k:Nat,LActionKinds.dl15_ActionKinds.f k a0 a1_0 a1_1 a1_2=some true:=by
 refine⟨5,?_⟩
 show LActionKinds.dl15_ActionKinds.f 5 a0 a1_0 a1_1 a1_2=some true
 clear w0
 by_cases h:a0<0∨4<a0
 ·exact kinds_out a0 h a1_0 a1_1 a1_2
 ·have:a0=0∨a0=1∨a0=2∨a0=3∨a0=4:=by omega
  rcases this with rfl|rfl|rfl|rfl|rfl <;> cases a1_0 <;> cases a1_1 <;> cases a1_2 <;> first|kernel_rfl|decide +kernel
end Go.Proofs.YtoghmeffpgbcfaaGreatDoor
end

section
namespace Go.Proofs.YtoghmeffpgbcfaaGreatDoor.actionKinds
open Go.ChangeShapes Go.WideShapes Go.ChangeAt Go.RowKit
set_option maxRecDepth 100000 in
theorem lifted (os:Os) (started:os.Started) (H:Type) (enc:TypeId×Value→H) :
  ReturnsInHanded {} Tryz.checked os 6 .any (fun w args=>(Rows.actionKindsSpec.pre enc Tryz.prog Tryz.f6 Rows.actionKindsRow.domain false w args∧laidMetH Tryz.prog laidL w)∧sizedMet enc Tryz.prog Tryz.f6 (OpenSpec.ofChange Rows.actionKindsSpec) false w args)
   (Rows.actionKindsSpec.post enc Tryz.prog Tryz.f6 false true false false):=by
 refine wrap_shaped (C:=Tryz.checked) (X:=fun w _=>laidMetH Tryz.prog laidL w) (fun _ _ _ hh h=>h.of_heap hh) own started (by kernel_rfl) Tryz.func6
  (ChangeSpec.witness_shaped (enc:=enc) (C:=Tryz.checked) (os:=os) (X:=fun w _=>laidMetH Tryz.prog laidL w) false (World.laidAll Tryz.prog os laidL) #[.int .i64 0,.agg #[.bool false,.bool false,.bool false]] 8 (World.laidAll_os _ _ _) (World.shaped_of_ZipB (by kernel_rfl) (by kernel_rfl)) (by kernel_rfl) (by kernel_rfl) (by kernel_rfl) (door_met os _)) ?_
 intro W base args ds gs before hval0 hW _ hsz0 hL hsh
 have hsz:(DataW.weightsEach Tryz.prog (Tryz.f6.params.toList++Rows.actionKindsSpec.plain.varTypes Tryz.prog) (ds++gs)).all (·≤reachBytes)=true:=hsz0
 have hval:∀ (j:Nat) t v,Tryz.f6.params[j]?=some t→args[j]?=some v→Value.okWide Tryz.prog W .any base t v:=hval0
 have hW':=hW
 obtain⟨p,q,hA0,hV,rfl,hfz,hnd⟩:=hW
 have hA:DataW.TrodAll enc Tryz.prog W 0 (fun _=>true) true Tryz.f6.params.toList args.toList ds p:=hA0
 rw[Tryz.params6] at hA hval hsz
 obtain⟨v0,vs0,d0,ds0,p0,q0,hargs,rfl,rfl,h0,r0⟩:=trodAll_cons hA
 obtain⟨v1,vs1,d1,ds1,p1,q1,rfl,rfl,rfl,h1,r1⟩:=trodAll_cons r0
 obtain⟨rfl,rfl,rfl⟩:=trodAll_nil r1
 obtain rfl:args=#[v0,v1]:=by cases args;simp_all
 obtain⟨rfl,rfl⟩:=trodVars_none hV
 obtain⟨a0,rfl,rfl,rfl,w0⟩:=open_int Tryz.underlying3 (hval 0 3 v0 rfl rfl) h0
 obtain⟨a1_0,a1_1,a1_2,rfl,rfl,rfl⟩:=open_b3 Tryz.underlying36 Tryz.underlying4 (by kernel_rfl:Tryz.prog.cellsOf 4=1) (by kernel_rfl:Tryz.prog.cellsOf 36=3) (hval 1 36 v1 rfl rfl) h1
 clear hA0 hval0 hsz0 hsz
 obtain⟨k,hf⟩:=pureActionKinds a0 a1_0 a1_1 a1_2 w0
 refine(LActionKinds.dl15_ActionKinds.calls k a0 a1_0 a1_1 a1_2 true W (laid_of hL hsh) ⟨rfl⟩ hf).mono fun e W' ⟨he,bel⟩=>?_
 subst he
 exact⟨_,rfl,_,_,_,[],_,[],hW',trodAll_mk1 (shut_bool Tryz.underlying4 _),(trodAll_cons_mk (shut_int Tryz.underlying3 w0) (trodAll_cons_mk (shut_b3 Tryz.underlying36 Tryz.underlying4 (by kernel_rfl:Tryz.prog.cellsOf 4=1) (by kernel_rfl:Tryz.prog.cellsOf 36=3)) trodAll_mk0)),rfl,bel.frame _,fun h=>by cases h⟩
theorem over:Rows.ActionKindsSaid :=
 OpenClaim.holds_of_wide 6 Tryz.f6 rfl rfl rfl rfl rfl rfl rfl ⟨rfl,rfl,rfl,rfl,rfl⟩ rfl rfl rfl rfl rfl (by kernel_rfl) Tryz.func6 (by kernel_rfl)
  (of_decide_eq_true (by kernel_rfl)) (by unfold Func.isWrapper;first|(rw[if_pos (by decide +kernel)];kernel_rfl)|(rw[if_neg (by decide +kernel)];exact⟨rfl,rfl⟩))
  (fun os started H enc _=>lifted os started H enc)
theorem proved:Rows.ActionKindsCardSaid :=
 Claim7.holds_tied_plain_at .later [] [.data,.data,.data,.data,.sentinel,.sentinel,.pinned] true (true, "e49ae85bf9ddd41ebd5249cafc9df0e43b5f2c529efac24c3b6055c28f8729e6") true
  over (fun _ h=>by cases h) (by kernel_rfl) (fun _ h=>by cases h) actionKinds_row_tie rfl ⟨rfl,rfl⟩ (by kernel_rfl) rfl
  (fun f fn hf hfn=>by
   obtain rfl:f=6:=Option.some.inj ((show Tryz.prog.funcNamed "debenture/debenturelaw15.ActionKinds" = some 6 by kernel_rfl).symm.trans hf) |>.symm
   obtain rfl:fn=Tryz.f6:=(Option.some.inj (Tryz.func6.symm.trans hfn)).symm
   exact⟨by kernel_rfl,fun j t ht=>by
    rw[Tryz.params6] at ht
    have hm:t∈[3,36]:=by simpa using Array.mem_of_getElem? ht
    have hall:([3,36].all fun u=>!Tryz.prog.wantsStandIn u)=true:=by kernel_rfl
    exact(show Tryz.prog.wantsStandIn t=false by simpa using List.all_eq_true.1 hall t hm)⟩)
  (by kernel_rfl)
end Go.Proofs.YtoghmeffpgbcfaaGreatDoor.actionKinds
namespace Go.Proofs.YtoghmeffpgbcfaaGreatDoor
theorem actionKinds_holds:Rows.ActionKindsCardSaid:=actionKinds.proved
#print axioms actionKinds_holds
end Go.Proofs.YtoghmeffpgbcfaaGreatDoor
end
