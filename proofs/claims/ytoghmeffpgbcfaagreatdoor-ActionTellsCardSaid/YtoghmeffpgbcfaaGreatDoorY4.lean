/-
Parts of the proof, in build order: Sz, Py1, Py2, Py, RatApi, RatDone, DecB, Ref2Done, RefGcd, Pz0, Pz1, Pz2, Pz3, Pz4, Pz, Ref3Api, Ref3Done, NumR0, Lib4w, Pd0, Pd1, Pd2, Pd3, Pd, DecApi, DecDone, ActNum, Join15, Pj0, Pj1, Pj2, Pj, Pl0, Pl1, Pl2, Pl, Po0, Po1.
-/
import Derived.Test.YtoghmeffpgbcfaaGreatDoorY3
set_option linter.unusedVariables false
set_option linter.unusedSimpArgs false
set_option maxHeartbeats 64000000
set_option maxRecDepth 100000
namespace Go.Proofs.YtoghmeffpgbcfaaGreatDoor
open Go.RowKit Go.Proofs.YtoghmeffpgbcfaaGreatDoorW.PrintWords Go.Proofs.YtoghmeffpgbcfaaGreatDoorW.PrintLast Go.Proofs.YtoghmeffpgbcfaaGreatDoorW.PrintMore
theorem gn_ {P:Program} {ops:Array Oper} {Q:Exit→Act→World→Prop} {oi:Oper} {N:Option Tmp} {a:Act} {w:World} {K:Act→World→Prop} {f:FuncId} {fn:Func} {xs_:Array Operand} {ts:Array TypeId} {args:Array Value} {v:Value} {R:World→Prop} (hf:P.funcs[f]?=some fn)
  (hc:Calls P f args w fun e w'=>e=.returned v∧R w') (k:∀ w',R w'→K (a.put N v) w') (hname:(fn.name == "runtime.NumGoroutine")=false:=by kernel_rfl) (hb:fn.body.isSome=true:=by rfl) (hw:Region.wanted oi (yielded ops a.tmps)=true:=by rfl) (hN:oi.dst=N:=by rfl)
  (hop:oi.op=.call { callee:=.value (.func f),args:=xs_,argTypes:=ts }:=by rfl) (hargs:xs_.map a.eval=args:=by(try simp only[List.map_toArray,List.map_cons,List.map_nil]);first|done|rfl|(simp only[List.length_drop,List.length_take];rfl)) :
  if Region.wanted oi (yielded ops a.tmps)=true then Oper.wp P oi a w K Q else K (a.put N undef) w:=gs_ hf args (hc.mono fun _ w' ⟨he,hr⟩=>⟨v,he,k w' hr⟩) hname hb hw hN hop hargs
theorem sv_ {P Q:Prop} (G:Prop) (h:P) (t:P→G→¬ Q:=by intro h_ g_;simp only[ByteArray.size_append,ByteArray.size_extract,ByteArray.size_mk',List.size_toArray,List.length_cons,List.length_nil,Int.natCast_add] at h_ g_;omega) (g:G:=by assumption):Q=False:=eq_false (t h g)
attribute [local go_sem] max2_int min2_int max_two min_two max_three min_three max_four min_four
namespace Py
def rat_May.f (a0_0 a0_1:ByteArray):Option (Bool):=(whole_May.f a0_0).bind fun t102=>(if t102=true then ((nat_May.f a0_1).bind fun t103=>(if t103=true then (if a0_1.toList=([48]:List UInt8) then (some false) else ((whole_Abs.f a0_0).bind fun t104=>((nat_Gcd.f t104 a0_1).bind fun t105=>(some (t105.toList == ([49]:List UInt8)))))) else (some false))) else (some false))
def rat_May.T1:Bool×List (List Nat×List Nat):=(true,[([],[]),([0],[0]),([1],[1]),([2,2],[2]),([3],[3]),([4,3],[3,4]),([5,3,3],[3,5]),([3,6],[3,6]),([7,6],[7]),([8],[8]),([9,8],[8,9]),([10,8],[8,10]),([8,11],[8,11]),([12,8],[12]),([13],[13]),([14,13],[13,14]),([15,13,13],[13,15]),([13],[13]),([17,13],[13,17]),([16,18,16,13],[13,16,18]),([19,13],[13,19]),([13,20],[13,20]),([21,19,0,1,2,3,4,5,6,7,8,9,10,11,12,13,14,15,16,17,18,19,20,21],[21])])
def rat_May.B1:List Nat:=[0,1,3,7,15,31,63,127,255,511,1023,2047,4095,8191,16383,32767,65535,16383,147455,524287,1048575,2097151,4194303]
theorem rat_May.tab1:rtab .any (opsOf Tryz.f53 1)=rat_May.T1:=by kernel_rfl
theorem rat_May.bits1:waitsOk rat_May.T1.2 rat_May.B1=true:=by kernel_rfl
theorem rat_May.calls (a0_0 a0_1:ByteArray) (r:Bool) (w:World) (hL_:Laid w) (h:rat_May.f a0_0 a0_1=some r) :
  Calls Tryz.prog 53 #[.agg #[.string a0_0,.string a0_1]] w fun e w'=>e=.returned (.bool r)∧Below w.heap.size w w':=by
 have hu23:=Tryz.underlying23;have HLD:=ak_ hL_;clear hL_;have HB:=ak_ (Below.refl w.heap.size w);have H:=h;unfold rat_May.f at H;clear h;replace H:=bi_ H;obtain⟨t102,A2,H⟩:=H;replace H:=bt_ H;rcases H with ⟨rfl,H⟩|⟨rfl,H⟩
 ·replace H:=bi_ H;obtain⟨t103,A4,H⟩:=H;replace H:=bt_ H;rcases H with ⟨rfl,H⟩|⟨rfl,H⟩
  ·replace H:=bw_ H;rcases H with ⟨c6,H⟩|⟨c6,H⟩
   ·have c6b0:(a0_1.toList == ([48]:List UInt8))=true:=beq_iff_eq.mpr c6;have c6b1:(a0_1.toList != ([48]:List UInt8))=false:=bne_eq_false_iff_eq.mpr c6;clear c6;obtain rfl:=oi_ H;go_in
    try go_wp2_with ((refine bf_ 1 #[.string a0_0,.string a0_1] 23 HB ?_;clear HB;intro gb101 w7 BK101 GW101 HB))
    replace BK101:=ak_ (blk_drew BK101.out);replace HB:=ak_ (below_drew1 HB.out);refine sa_ 23 (fun w'=>w'.cell? ⟨gb101,0,none⟩=some (.string a0_0)∧w'.cell? ⟨gb101,1,none⟩=some (.string a0_1)) (fun hHeld=>?_);refine with_tabW rat_May.tab1 rat_May.bits1 (fun HT_ HW_=>?_);generalize w7.drew=w8 at BK101 HB hHeld ⊢;refine pu_ 0 3 rfl rfl HT_ ?_;refine t_ 1 4 rfl rfl HT_ HW_ hHeld ?_;refine on_ 2 (some 5) rfl rfl HT_ (fun K hK=>?_);refine gn_ Tryz.func98 (whole_May.calls _ _ _ A2.out) ?_;intro w9 hb;replace BK101:=kb_ BK101 hb;replace HB:=bs_ HB hb;(try clear hb);refine hk_ hK (fun hHeld=>?_);clear hK K;refine nm_ ?_;refine pu_ 3 6 rfl rfl HT_ ?_;refine pu_ 4 7 rfl rfl HT_ ?_;refine t_ 5 8 rfl rfl HT_ HW_ hHeld ?_;refine on_ 6 (some 9) rfl rfl HT_ (fun K hK=>?_);refine gn_ Tryz.func79 (nat_May.calls _ _ _ A4.out) ?_;intro w10 hb;replace BK101:=kb_ BK101 hb;replace HB:=bs_ HB hb;(try clear hb);refine hk_ hK (fun hHeld=>?_);clear hK K;refine nm_ ?_;refine pu_ 7 10 rfl rfl HT_ ?_;refine pu_ 8 11 rfl rfl HT_ ?_;refine pu_ 9 12 rfl rfl HT_ ?_;refine t_ 10 13 rfl rfl HT_ HW_ hHeld ?_;refine pu_ 11 14 rfl rfl HT_ ?_;refine pu_ 12 15 rfl rfl HT_ ?_;refine pu_ 13 16 rfl rfl HT_ ?_;refine pv_ 14 17 rfl rfl HT_ ?_;refine pv_ 15 18 rfl rfl HT_ ?_;refine pv_ 16 19 rfl rfl HT_ ?_;refine pv_ 17 20 rfl rfl HT_ ?_;refine pv_ 18 21 rfl rfl HT_ ?_;refine pv_ 19 22 rfl rfl HT_ ?_;refine pv_ 20 23 rfl rfl HT_ ?_;refine pu_ 21 24 rfl rfl HT_ ?_;refine pu_ 22 2 rfl rfl HT_ ?_;refine done_ (done_of HT_.out (by kernel_rfl)) ?_
    try go_wp2
    go_ret
    exact⟨er_,b_ HB.out⟩
   ·have c6b0:(a0_1.toList == ([48]:List UInt8))=false:=beq_eq_false_iff_ne.mpr c6;have c6b1:(a0_1.toList != ([48]:List UInt8))=true:=bne_iff_ne.mpr c6;replace H:=bi_ H;obtain⟨t104,A11,H⟩:=H;replace H:=bi_ H;obtain⟨t105,A12,H⟩:=H;obtain rfl:=oi_ H;go_in
    try go_wp2_with ((refine bf_ 1 #[.string a0_0,.string a0_1] 23 HB ?_;clear HB;intro gb101 w13 BK101 GW101 HB))
    replace BK101:=ak_ (blk_drew BK101.out);replace HB:=ak_ (below_drew1 HB.out);refine sa_ 23 (fun w'=>w'.cell? ⟨gb101,0,none⟩=some (.string a0_0)∧w'.cell? ⟨gb101,1,none⟩=some (.string a0_1)) (fun hHeld=>?_);refine with_tabW rat_May.tab1 rat_May.bits1 (fun HT_ HW_=>?_);generalize w13.drew=w14 at BK101 HB hHeld ⊢;refine pu_ 0 3 rfl rfl HT_ ?_;refine t_ 1 4 rfl rfl HT_ HW_ hHeld ?_;refine on_ 2 (some 5) rfl rfl HT_ (fun K hK=>?_);refine gn_ Tryz.func98 (whole_May.calls _ _ _ A2.out) ?_;intro w15 hb;replace BK101:=kb_ BK101 hb;replace HB:=bs_ HB hb;(try clear hb);refine hk_ hK (fun hHeld=>?_);clear hK K;refine nm_ ?_;refine pu_ 3 6 rfl rfl HT_ ?_;refine pu_ 4 7 rfl rfl HT_ ?_;refine t_ 5 8 rfl rfl HT_ HW_ hHeld ?_;refine on_ 6 (some 9) rfl rfl HT_ (fun K hK=>?_);refine gn_ Tryz.func79 (nat_May.calls _ _ _ A4.out) ?_;intro w16 hb;replace BK101:=kb_ BK101 hb;replace HB:=bs_ HB hb;(try clear hb);refine hk_ hK (fun hHeld=>?_);clear hK K;refine nm_ ?_;refine pu_ 7 10 rfl rfl HT_ ?_;refine pu_ 8 11 rfl rfl HT_ ?_;refine pu_ 9 12 rfl rfl HT_ ?_;refine t_ 10 13 rfl rfl HT_ HW_ hHeld ?_;refine pu_ 11 14 rfl rfl HT_ ?_;refine pu_ 12 15 rfl rfl HT_ ?_;refine pu_ 13 16 rfl rfl HT_ ?_;refine pu_ 14 17 rfl rfl HT_ ?_;refine pu_ 17 20 rfl rfl HT_ ?_;refine t_ 15 18 rfl rfl HT_ HW_ hHeld ?_;refine t_ 18 21 rfl rfl HT_ HW_ hHeld ?_;refine on_ 16 (some 19) rfl rfl HT_ (fun K hK=>?_);refine gn_ Tryz.func62 (whole_Abs.calls _ _ _ A11.out) ?_;intro w17 hb;replace BK101:=kb_ BK101 hb;replace HB:=bs_ HB hb;(try clear hb);refine hk_ hK (fun hHeld=>?_);clear hK K;refine nm_ ?_;refine on_ 19 (some 22) rfl rfl HT_ (fun K hK=>?_);refine gn_ Tryz.func99 (nat_Gcd.calls _ _ _ _ (lb_ HLD HB) A12.out) ?_;intro w18 hb;replace BK101:=kb_ BK101 hb;replace HB:=bs_ HB hb;(try clear hb);refine hk_ hK (fun hHeld=>?_);clear hK K;refine nm_ ?_;refine pu_ 20 23 rfl rfl HT_ ?_;refine pu_ 21 24 rfl rfl HT_ ?_;refine pu_ 22 2 rfl rfl HT_ ?_;refine done_ (done_of HT_.out (by kernel_rfl)) ?_
    try go_wp2
    go_ret
    exact⟨er_,b_ HB.out⟩
  ·obtain rfl:=oi_ H;go_in
   try go_wp2_with ((refine bf_ 1 #[.string a0_0,.string a0_1] 23 HB ?_;clear HB;intro gb101 w19 BK101 GW101 HB))
   replace BK101:=ak_ (blk_drew BK101.out);replace HB:=ak_ (below_drew1 HB.out);refine sa_ 23 (fun w'=>w'.cell? ⟨gb101,0,none⟩=some (.string a0_0)∧w'.cell? ⟨gb101,1,none⟩=some (.string a0_1)) (fun hHeld=>?_);refine with_tabW rat_May.tab1 rat_May.bits1 (fun HT_ HW_=>?_);generalize w19.drew=w20 at BK101 HB hHeld ⊢;refine pu_ 0 3 rfl rfl HT_ ?_;refine t_ 1 4 rfl rfl HT_ HW_ hHeld ?_;refine on_ 2 (some 5) rfl rfl HT_ (fun K hK=>?_);refine gn_ Tryz.func98 (whole_May.calls _ _ _ A2.out) ?_;intro w21 hb;replace BK101:=kb_ BK101 hb;replace HB:=bs_ HB hb;(try clear hb);refine hk_ hK (fun hHeld=>?_);clear hK K;refine nm_ ?_;refine pu_ 3 6 rfl rfl HT_ ?_;refine pu_ 4 7 rfl rfl HT_ ?_;refine t_ 5 8 rfl rfl HT_ HW_ hHeld ?_;refine on_ 6 (some 9) rfl rfl HT_ (fun K hK=>?_);refine gn_ Tryz.func79 (nat_May.calls _ _ _ A4.out) ?_;intro w22 hb;replace BK101:=kb_ BK101 hb;replace HB:=bs_ HB hb;(try clear hb);refine hk_ hK (fun hHeld=>?_);clear hK K;refine nm_ ?_;refine pu_ 7 10 rfl rfl HT_ ?_;refine pu_ 8 11 rfl rfl HT_ ?_;refine pv_ 9 12 rfl rfl HT_ ?_;refine pv_ 10 13 rfl rfl HT_ ?_;refine pv_ 11 14 rfl rfl HT_ ?_;refine pu_ 12 15 rfl rfl HT_ ?_;refine pu_ 13 16 rfl rfl HT_ ?_;refine pv_ 14 17 rfl rfl HT_ ?_;refine pv_ 15 18 rfl rfl HT_ ?_;refine pv_ 16 19 rfl rfl HT_ ?_;refine pv_ 17 20 rfl rfl HT_ ?_;refine pv_ 18 21 rfl rfl HT_ ?_;refine pv_ 19 22 rfl rfl HT_ ?_;refine pv_ 20 23 rfl rfl HT_ ?_;refine pu_ 21 24 rfl rfl HT_ ?_;refine pu_ 22 2 rfl rfl HT_ ?_;refine done_ (done_of HT_.out (by kernel_rfl)) ?_
   try go_wp2
   go_ret
   exact⟨er_,b_ HB.out⟩
 ·obtain rfl:=oi_ H;go_in
  try go_wp2_with ((refine bf_ 1 #[.string a0_0,.string a0_1] 23 HB ?_;clear HB;intro gb101 w23 BK101 GW101 HB))
  replace BK101:=ak_ (blk_drew BK101.out);replace HB:=ak_ (below_drew1 HB.out);refine sa_ 23 (fun w'=>w'.cell? ⟨gb101,0,none⟩=some (.string a0_0)∧w'.cell? ⟨gb101,1,none⟩=some (.string a0_1)) (fun hHeld=>?_);refine with_tabW rat_May.tab1 rat_May.bits1 (fun HT_ HW_=>?_);generalize w23.drew=w24 at BK101 HB hHeld ⊢;refine pu_ 0 3 rfl rfl HT_ ?_;refine t_ 1 4 rfl rfl HT_ HW_ hHeld ?_;refine on_ 2 (some 5) rfl rfl HT_ (fun K hK=>?_);refine gn_ Tryz.func98 (whole_May.calls _ _ _ A2.out) ?_;intro w25 hb;replace BK101:=kb_ BK101 hb;replace HB:=bs_ HB hb;(try clear hb);refine hk_ hK (fun hHeld=>?_);clear hK K;refine nm_ ?_;refine pu_ 3 6 rfl rfl HT_ ?_;refine pv_ 4 7 rfl rfl HT_ ?_;refine pv_ 5 8 rfl rfl HT_ ?_;refine pv_ 6 9 rfl rfl HT_ ?_;refine pu_ 7 10 rfl rfl HT_ ?_;refine pu_ 8 11 rfl rfl HT_ ?_;refine pv_ 9 12 rfl rfl HT_ ?_;refine pv_ 10 13 rfl rfl HT_ ?_;refine pv_ 11 14 rfl rfl HT_ ?_;refine pu_ 12 15 rfl rfl HT_ ?_;refine pu_ 13 16 rfl rfl HT_ ?_;refine pv_ 14 17 rfl rfl HT_ ?_;refine pv_ 15 18 rfl rfl HT_ ?_;refine pv_ 16 19 rfl rfl HT_ ?_;refine pv_ 17 20 rfl rfl HT_ ?_;refine pv_ 18 21 rfl rfl HT_ ?_;refine pv_ 19 22 rfl rfl HT_ ?_;refine pv_ 20 23 rfl rfl HT_ ?_;refine pu_ 21 24 rfl rfl HT_ ?_;refine pu_ 22 2 rfl rfl HT_ ?_;refine done_ (done_of HT_.out (by kernel_rfl)) ?_
  try go_wp2
  go_ret
  exact⟨er_,b_ HB.out⟩
def rat_reduced.j0:Nat→ByteArray→ByteArray→Option (ByteArray×ByteArray)
 | 0,_,_=>none
 | k+1,x0,x1=>(whole_Abs.f x0).bind fun t110=>((nat_Gcd.f t110 x1).bind fun t111=>((whole_Div.f x0 t111).bind fun bt112=>((whole_Div.f x1 t111).bind fun bt115=>(some (bt112.1,bt115.1)))))
def rat_reduced.f (k:Nat) (a0 a1:ByteArray):Option (ByteArray×ByteArray):=(whole_Sign.f a1).bind fun t107=>(if t107<0 then ((whole_Neg.f a0).bind fun t108=>((whole_Neg.f a1).bind fun t109=>(rat_reduced.j0 k t108 t109))) else (rat_reduced.j0 k a0 a1))
theorem rat_reduced.calls (k:Nat) (a0 a1 r1 r2:ByteArray) (w:World) (hL_:Laid w) (h:rat_reduced.f k a0 a1=some (r1,r2)) :
  Calls Tryz.prog 128 #[.string a0,.string a1] w fun e w'=>e=.returned (.agg #[.string r1,.string r2])∧Below w.heap.size w w':=by
 have hu23:=Tryz.underlying23;have HLD:=ak_ hL_;clear hL_;have HB:=ak_ (Below.refl w.heap.size w);have H:=h;unfold rat_reduced.f at H;clear h;replace H:=bi_ H;obtain⟨t107,A3,H⟩:=H;have HC4:=ak_ H;clear H;go_in
 go_upto_if 8 with (first|(refine bf_ 4 #[.string ⟨#[]⟩,.string ⟨#[]⟩] 23 HB ?_;clear HB;intro gb106 w5 BK106 GW106 HB)|(refine gm_ 7 Tryz.func64 (whole_Sign.calls _ _ _ A3.out) ?_;intro w6 hb;replace BK106:=kb_ BK106 hb;replace HB:=bs_ HB hb;(try clear hb)))
 (try simp only[Act.put,List.setIfInBounds_toArray,List.set_cons_zero,List.set_cons_succ])
 go_cut [0,1] (fun v0 v1 wc=>∃ (kq:Nat) (x0_3 x1_3:ByteArray),v0=.string x0_3∧v1=.string x1_3∧Aside0 (rat_reduced.j0 kq x0_3 x1_3=some (r1,r2))∧Aside0 (kq≤k)∧Aside0 (wc.heap[gb106]?=some (.cells #[.string ⟨#[]⟩,.string ⟨#[]⟩] 23 (0,0)))∧Aside0 (Below w.heap.size w wc))
 case first =>
  have H:=HC4.out;clear HC4;replace H:=bw_ H;rcases H with ⟨c7,H⟩|⟨c7,H⟩
  ·have c7b0:=dt_ c7;clear c7;(first|rw[c7b0]|(simp only[i64_w,i32_w];rw[c7b0])|skip);replace H:=bi_ H;obtain⟨t108,A8,H⟩:=H;replace H:=bi_ H;obtain⟨t109,A9,H⟩:=H;have H':=ak_ H;clear H
   go_wp2_with (first|(refine gm_ 10 Tryz.func86 (whole_Neg.calls _ _ _ A8.out) ?_;intro w10 hb;replace BK106:=kb_ BK106 hb;replace HB:=bs_ HB hb;(try clear hb))|(refine gm_ 12 Tryz.func86 (whole_Neg.calls _ _ _ A9.out) ?_;intro w11 hb;replace BK106:=kb_ BK106 hb;replace HB:=bs_ HB hb;(try clear hb)))
   go_meet
   case rel=>exact⟨_,(t108),(t109),rl_,rl_,H',⟨nk_⟩,⟨k_ BK106.out⟩,⟨b_ HB.out⟩⟩
  ·have c7b0:=df_ c7;clear c7;(first|rw[c7b0]|(simp only[i64_w,i32_w];rw[c7b0])|skip);have H':=ak_ H;clear H;go_wp2
   go_meet
   case rel=>exact⟨_,(a0),(a1),rl_,rl_,H',⟨nk_⟩,⟨k_ BK106.out⟩,⟨b_ HB.out⟩⟩
 case rest =>
  clear HC4;obtain⟨kq,x0_3,x1_3,rfl,rfl,HA,HJ3,BK106,HB⟩:=hcut
  cases kq with
  | zero=>exact absurd HA.out (by simp[rat_reduced.j0])
  | succ kj3 =>
   have H:=HA.out;clear HA;simp only[rat_reduced.j0] at H;replace H:=bi_ H;obtain⟨t110,A12,H⟩:=H;replace H:=bi_ H;obtain⟨t111,A13,H⟩:=H;replace H:=bi_ H;obtain⟨⟨t112,t113,t114⟩,A14,H⟩:=H;(try dsimp only at H);replace H:=bi_ H;obtain⟨⟨t115,t116,t117⟩,A15,H⟩:=H;(try dsimp only at H);replace H:=pi2_ H;obtain⟨rfl,rfl⟩:=H
   go_wp2_with (first|(refine gm_ 14 Tryz.func62 (whole_Abs.calls _ _ _ A12.out) ?_;intro w16 hb;replace BK106:=kb_ BK106 hb;replace HB:=bs_ HB hb;(try clear hb))|(refine gm_ 16 Tryz.func99 (nat_Gcd.calls _ _ _ _ (lb_ HLD HB) A13.out) ?_;intro w17 hb;replace BK106:=kb_ BK106 hb;replace HB:=bs_ HB hb;(try clear hb))|(refine gm_ 20 Tryz.func160 (whole_Div.calls _ _ _ _ _ _ (lb_ HLD HB) A14.out) ?_;intro w18 hb;replace BK106:=kb_ BK106 hb;replace HB:=bs_ HB hb;(try clear hb))|(refine gm_ 27 Tryz.func160 (whole_Div.calls _ _ _ _ _ _ (lb_ HLD HB) A15.out) ?_;intro w19 hb;replace BK106:=kb_ BK106 hb;replace HB:=bs_ HB hb;(try clear hb);have hz20:=cs2_ BK106))
   refine bodyPost_ret (results_cell_row rfl _ _ gb106 23 #[.string t112,.string t115] (0,0) _ rfl (rp_ BK106.out) Tryz.underlying23 rfl (by kernel_rfl)) rfl ?_;exact⟨er_,b_ HB.out⟩
def rat_Make.f (k:Nat) (a0 a1:ByteArray):Option (ByteArray×ByteArray×Bool):=(whole_May.f a0).bind fun t119=>(if t119=true then ((whole_May.f a1).bind fun t120=>(if t120=true then (if a1.toList=([48]:List UInt8) then (some ((⟨#[]⟩:ByteArray),(⟨#[]⟩:ByteArray),false)) else ((rat_reduced.f k a0 a1).bind fun bt121=>(some (bt121.1,bt121.2,true)))) else (some ((⟨#[]⟩:ByteArray),(⟨#[]⟩:ByteArray),false)))) else (some ((⟨#[]⟩:ByteArray),(⟨#[]⟩:ByteArray),false)))
theorem rat_Make.calls (k:Nat) (a0 a1 r1 r2:ByteArray) (r3:Bool) (w:World) (hL_:Laid w) (h:rat_Make.f k a0 a1=some (r1,r2,r3)) :
  Calls Tryz.prog 87 #[.string a0,.string a1] w fun e w'=>e=.returned (.tuple #[.agg #[.string r1,.string r2],.bool r3])∧Below w.heap.size w w':=by
 have hu23:=Tryz.underlying23;have HLD:=ak_ hL_;clear hL_;have HB:=ak_ (Below.refl w.heap.size w);have H:=h;unfold rat_Make.f at H;clear h;replace H:=bi_ H;obtain⟨t119,A3,H⟩:=H;replace H:=bt_ H;rcases H with ⟨rfl,H⟩|⟨rfl,H⟩
 ·replace H:=bi_ H;obtain⟨t120,A5,H⟩:=H;replace H:=bt_ H;rcases H with ⟨rfl,H⟩|⟨rfl,H⟩
  ·replace H:=bw_ H;rcases H with ⟨c7,H⟩|⟨c7,H⟩
   ·have c7b0:(a1.toList == ([48]:List UInt8))=true:=beq_iff_eq.mpr c7;have c7b1:(a1.toList != ([48]:List UInt8))=false:=bne_eq_false_iff_eq.mpr c7;clear c7;replace H:=pi3_ H;obtain⟨rfl,rfl,rfl⟩:=H;go_in
    go_wp2_with (first|(refine bf_ 4 #[.string ⟨#[]⟩,.string ⟨#[]⟩] 23 HB ?_;clear HB;intro gb118 w8 BK118 GW118 HB)|(refine gm_ 7 Tryz.func98 (whole_May.calls _ _ _ A3.out) ?_;intro w9 hb;replace BK118:=kb_ BK118 hb;replace HB:=bs_ HB hb;(try clear hb))|(go_at_call 98;(with_reducible refine(whole_May.calls _ _ _ A5.out).mono ?_);rintro e w10 ⟨rfl,hb⟩;replace BK118:=kb_ BK118 hb;replace HB:=bs_ HB hb;(try clear hb);have hz11:=cs2_ BK118))
    refine bodyPost_ret (results_ct rfl _ _ gb118 23 #[.string ⟨#[]⟩,.string ⟨#[]⟩] (0,0) _ rfl (rp_ BK118.out) Tryz.underlying23 rfl (by kernel_rfl)) rfl ?_;exact⟨er_,b_ HB.out⟩
   ·have c7b0:(a1.toList == ([48]:List UInt8))=false:=beq_eq_false_iff_ne.mpr c7;have c7b1:(a1.toList != ([48]:List UInt8))=true:=bne_iff_ne.mpr c7;replace H:=bi_ H;obtain⟨⟨t121,t122⟩,A12,H⟩:=H;(try dsimp only at H);replace H:=pi3_ H;obtain⟨rfl,rfl,rfl⟩:=H;go_in
    go_wp2_with (first|(refine bf_ 4 #[.string ⟨#[]⟩,.string ⟨#[]⟩] 23 HB ?_;clear HB;intro gb118 w13 BK118 GW118 HB)|(refine gm_ 7 Tryz.func98 (whole_May.calls _ _ _ A3.out) ?_;intro w14 hb;replace BK118:=kb_ BK118 hb;replace HB:=bs_ HB hb;(try clear hb))|(go_at_call 98;(with_reducible refine(whole_May.calls _ _ _ A5.out).mono ?_);rintro e w15 ⟨rfl,hb⟩;replace BK118:=kb_ BK118 hb;replace HB:=bs_ HB hb;(try clear hb))|(refine gm_ 21 Tryz.func128 (rat_reduced.calls _ _ _ _ _ _ (lb_ HLD HB) A12.out) ?_;intro w16 hb;replace BK118:=kb_ BK118 hb;replace HB:=bs_ HB hb;(try clear hb);have hz17:=cs2_ BK118))
    refine bodyPost_ret (results_ct rfl _ _ gb118 23 #[.string t121,.string t122] (0,0) _ rfl (rp_ BK118.out) Tryz.underlying23 rfl (by kernel_rfl)) rfl ?_;exact⟨er_,b_ HB.out⟩
  ·replace H:=pi3_ H;obtain⟨rfl,rfl,rfl⟩:=H;go_in
   go_wp2_with (first|(refine bf_ 4 #[.string ⟨#[]⟩,.string ⟨#[]⟩] 23 HB ?_;clear HB;intro gb118 w18 BK118 GW118 HB)|(refine gm_ 7 Tryz.func98 (whole_May.calls _ _ _ A3.out) ?_;intro w19 hb;replace BK118:=kb_ BK118 hb;replace HB:=bs_ HB hb;(try clear hb))|(go_at_call 98;(with_reducible refine(whole_May.calls _ _ _ A5.out).mono ?_);rintro e w20 ⟨rfl,hb⟩;replace BK118:=kb_ BK118 hb;replace HB:=bs_ HB hb;(try clear hb);have hz21:=cs2_ BK118))
   refine bodyPost_ret (results_ct rfl _ _ gb118 23 #[.string ⟨#[]⟩,.string ⟨#[]⟩] (0,0) _ rfl (rp_ BK118.out) Tryz.underlying23 rfl (by kernel_rfl)) rfl ?_;exact⟨er_,b_ HB.out⟩
 ·replace H:=pi3_ H;obtain⟨rfl,rfl,rfl⟩:=H;go_in
  go_wp2_with (first|(refine bf_ 4 #[.string ⟨#[]⟩,.string ⟨#[]⟩] 23 HB ?_;clear HB;intro gb118 w22 BK118 GW118 HB)|(refine gm_ 7 Tryz.func98 (whole_May.calls _ _ _ A3.out) ?_;intro w23 hb;replace BK118:=kb_ BK118 hb;replace HB:=bs_ HB hb;(try clear hb);have hz24:=cs2_ BK118))
  refine bodyPost_ret (results_ct rfl _ _ gb118 23 #[.string ⟨#[]⟩,.string ⟨#[]⟩] (0,0) _ rfl (rp_ BK118.out) Tryz.underlying23 rfl (by kernel_rfl)) rfl ?_;exact⟨er_,b_ HB.out⟩
def rat_Of.f (a0:Int):Option (ByteArray×ByteArray):=(whole_Of.f a0).bind fun t124=>(some (t124,(⟨#[49]⟩:ByteArray)))
theorem rat_Of.calls (a0:Int) (r1 r2:ByteArray) (w:World) (hL_:Laid w) (h:rat_Of.f a0=some (r1,r2)) :
  Calls Tryz.prog 42 #[.int .i64 a0] w fun e w'=>e=.returned (.agg #[.string r1,.string r2])∧Below w.heap.size w w':=by
 have hu23:=Tryz.underlying23;have HLD:=ak_ hL_;clear hL_;have HB:=ak_ (Below.refl w.heap.size w);have H:=h;unfold rat_Of.f at H;clear h;replace H:=bi_ H;obtain⟨t124,A2,H⟩:=H;replace H:=pi2_ H;obtain⟨rfl,rfl⟩:=H;go_in
 go_wp2_with (first|(refine bf_ 2 #[.string ⟨#[]⟩,.string ⟨#[]⟩] 23 HB ?_;clear HB;intro gb123 w3 BK123 GW123 HB)|(refine gm_ 4 Tryz.func81 (whole_Of.calls _ _ _ (lb_ HLD HB) A2.out) ?_;intro w4 hb;replace BK123:=kb_ BK123 hb;replace HB:=bs_ HB hb;(try clear hb);have hz5:=cs2_ BK123))
 refine bodyPost_ret (results_cell_row rfl _ _ gb123 23 #[.string t124,.string ⟨#[49]⟩] (0,0) _ rfl (rp_ BK123.out) Tryz.underlying23 rfl (by kernel_rfl)) rfl ?_;exact⟨er_,b_ HB.out⟩
def rat_Sign.f (a0_0 a0_1:ByteArray):Option (Int):=(rat_May.f a0_0 a0_1).bind fun t126=>(if t126=true then ((whole_Sign.f a0_0).bind fun t127=>(some t127)) else (some 0))
theorem rat_Sign.calls (a0_0 a0_1:ByteArray) (r:Int) (w:World) (hL_:Laid w) (h:rat_Sign.f a0_0 a0_1=some r) :
  Calls Tryz.prog 54 #[.agg #[.string a0_0,.string a0_1]] w fun e w'=>e=.returned (.int .i64 r)∧Below w.heap.size w w':=by
 have hu23:=Tryz.underlying23;have HLD:=ak_ hL_;clear hL_;have HB:=ak_ (Below.refl w.heap.size w);have H:=h;unfold rat_Sign.f at H;clear h;replace H:=bi_ H;obtain⟨t126,A2,H⟩:=H;replace H:=bt_ H;rcases H with ⟨rfl,H⟩|⟨rfl,H⟩
 ·replace H:=bi_ H;obtain⟨t127,A4,H⟩:=H;obtain rfl:=oi_ H;go_in
  go_wp2_with (first|(refine bf_ 1 #[.string a0_0,.string a0_1] 23 HB ?_;clear HB;intro gb125 w5 BK125 GW125 HB;have hz6:=cs2_ BK125)|(refine gm_ 4 Tryz.func53 (rat_May.calls _ _ _ _ (lb_ HLD HB) A2.out) ?_;intro w7 hb;replace BK125:=kb_ BK125 hb;replace HB:=bs_ HB hb;(try clear hb);have hz8:=cs2_ BK125)|(refine gm_ 8 Tryz.func64 (whole_Sign.calls _ _ _ A4.out) ?_;intro w9 hb;replace BK125:=kb_ BK125 hb;replace HB:=bs_ HB hb;(try clear hb)))
  go_ret
  exact⟨er_,b_ HB.out⟩
 ·obtain rfl:=oi_ H;go_in
  go_wp2_with (first|(refine bf_ 1 #[.string a0_0,.string a0_1] 23 HB ?_;clear HB;intro gb125 w10 BK125 GW125 HB;have hz11:=cs2_ BK125)|(refine gm_ 4 Tryz.func53 (rat_May.calls _ _ _ _ (lb_ HLD HB) A2.out) ?_;intro w12 hb;replace BK125:=kb_ BK125 hb;replace HB:=bs_ HB hb;(try clear hb)))
  go_ret
  exact⟨er_,b_ HB.out⟩
end Py
theorem gMay {a:ByteArray} (h:a.size≤49990):whole_May.f a=some (mayW a):=by
 unfold whole_May.f
 rw[if_pos (show smw a=true from decide_eq_true h)]
theorem natB_beq_one (m:Nat):((natB m).toList == ([49]:List UInt8))=(m == 1):=by
 rw[Bool.eq_iff_iff,beq_iff_eq,beq_iff_eq,natB_toList_one]
theorem szI_natAbs (x:Int):sz x.natAbs≤szI x:=le_szI x
theorem gcd_le_l {x y:Int} (hy:y≠0):sz (Nat.gcd x.natAbs y.natAbs)≤szI y:=by
 have h:=sz_mono (Nat.gcd_le_right x.natAbs (show 0<y.natAbs by omega))
 have:=le_szI y
 omega
theorem ratmay_f {a b:ByteArray} (ha:a.size≤20000) (hb:b.size≤20000):Py.rat_May.f a b=some (mayR (a,b)):=by
 unfold Py.rat_May.f mayR
 rw[gMay (by omega),ob_]
 by_cases h1:mayW a=true
 ·rw[if_pos h1,fMay (by omega),ob_]
  by_cases h2:mayB b=true
  ·obtain⟨z,rfl⟩:=of_mayW h1
   obtain⟨n,rfl,e2⟩:=of_may h2
   have s1:szI z≤20000:=ha
   have s2:sz n≤20000:=hb
   have s3:=szI_natAbs z
   rw[if_pos h2,h1,h2,numW_int,numB_natB]
   by_cases h3:n=0
   ·rw[if_pos (natB_toList_zero.2 h3),h3]
    rfl
   ·rw[if_neg (fun e=>h3 (natB_toList_zero.1 e)),gAbs (by omega),ob_,intB_nat,fGcd (by omega) (by omega),ob_,natB_beq_one,decide_eq_true h3]
    rfl
  ·rw[if_neg h2,h1,(Bool.not_eq_true _).mp h2]
   rfl
 ·rw[if_neg h1,(Bool.not_eq_true _).mp h1]
  rfl
theorem red_core {x y:Int} (hy:0<y) (hx:szI x≤20000) (hs:szI y≤20000) (k:Nat):Py.rat_reduced.j0 (k+1) (intB x) (intB y)=some (rT (Rat.divInt x y)):=by
 have s3:=szI_natAbs x
 have s4:=szI_natAbs y
 have s5:=gcd_le_l (x:=x) (show y≠0 by omega)
 have hg:((Nat.gcd x.natAbs y.natAbs:Nat):Int)≠0:=by
  have:=Nat.gcd_pos_of_pos_right x.natAbs (show 0<y.natAbs by omega)
  omega
 have h1:=red_num (x:=x) (y:=y) (by omega)
 have h2:=red_den (x:=x) (y:=y) (by omega)
 rw[if_neg (by omega)] at h1
 have e:intB y=natB y.natAbs:=by rw[intB_nonneg (by omega)];congr 1;omega
 have e':(y.natAbs:Int)=y:=by omega
 simp only[Py.rat_reduced.j0]
 rw[gAbs (by omega),ob_,intB_nat,e,fGcd (by omega) (by omega),ob_,← e,← intB_nat,gDiv (by omega) (by rw[szI_nat];omega) hg,ob_,gDiv (by omega) (by rw[szI_nat];omega) hg,ob_]
 rw[e'] at h2
 show some (intB _,intB _)=some (intB _,natB _)
 rw[h1,h2,intB_nat]
theorem red_f {x y:Int} (hy:y≠0) (hx:szI x≤19000) (hs:szI y≤19000) (k:Nat):Py.rat_reduced.f (k+1) (intB x) (intB y)=some (rT (Rat.divInt x y)):=by
 unfold Py.rat_reduced.f
 rw[gSign (by omega),ob_]
 by_cases h:y<0
 ·have n1:=szI_neg x
  have n2:=szI_neg y
  rw[if_pos (by rw[cmp_lt' h];decide),gNeg (by omega),ob_,gNeg (by omega),ob_,red_core (by omega) (by omega) (by omega),Rat.neg_divInt_neg]
 ·rw[if_neg (by rw[cmp_gt' (by omega)];decide),red_core (by omega) (by omega) (by omega)]
theorem ratmake_f {a b:ByteArray} (ha:a.size≤19000) (hb:b.size≤19000) (k:Nat):Py.rat_Make.f (k+1) a b=some ((rmakeS a b).1.1,(rmakeS a b).1.2,(rmakeS a b).2):=by
 unfold Py.rat_Make.f rmakeS
 rw[gMay (by omega),ob_]
 by_cases h1:mayW a=true
 ·rw[if_pos h1,gMay (by omega),ob_]
  by_cases h2:mayW b=true
  ·obtain⟨x,rfl⟩:=of_mayW h1
   obtain⟨y,rfl⟩:=of_mayW h2
   have s1:szI x≤19000:=ha
   have s2:szI y≤19000:=hb
   rw[if_pos h2,show may2W (intB x) (intB y)=true by unfold may2W;rw[h1,h2];rfl,Bool.true_and,numW_int,numW_int]
   by_cases h3:y=0
   ·rw[if_pos (intB_toList_zero.2 h3),if_neg (by rw[h3];decide)]
    rfl
   ·rw[if_neg (fun e=>h3 (intB_toList_zero.1 e)),if_pos (decide_eq_true h3),red_f h3 s1 s2,ob_]
  ·rw[if_neg h2,show may2W a b=false by unfold may2W;rw[h1,(Bool.not_eq_true _).mp h2];rfl]
   rfl
 ·rw[if_neg h1,show may2W a b=false by unfold may2W;rw[(Bool.not_eq_true _).mp h1];rfl]
  rfl
theorem signQ_f (q:Rat):Lib.compareInt q.num 0=cmpQ q 0:=signQ_cmp q
theorem ratsign_f {x:BB} (ha:x.1.size≤20000) (hb:x.2.size≤20000):Py.rat_Sign.f x.1 x.2=some (rsignS x):=by
 unfold Py.rat_Sign.f rsignS
 rw[ratmay_f ha hb,ob_]
 by_cases h:mayR x=true
 ·obtain⟨q,rfl⟩:=of_mayR h
  have s1:szI q.num≤20000:=ha
  rw[if_pos h,if_pos h,ratR_rT]
  show ((whole_Sign.f (intB q.num)).bind fun t=>some t) = _
  rw[gSign (by omega),ob_,signQ_f]
 ·rw[if_neg h,if_neg h]
theorem ratof_f (n:Int) (h0:-9223372036854775808≤n) (h1:n≤9223372036854775807):Py.rat_Of.f n=some (rT (n:Rat)):=by
 unfold Py.rat_Of.f
 rw[gOf h0 h1,ob_,← natB_one]
 rfl
def rat_May.f (a0_0 a0_1:ByteArray):Option (Bool):=if smR (a0_0,a0_1)=true then some (mayR (a0_0,a0_1)) else none
theorem rat_May.calls (a0_0 a0_1:ByteArray) (r:Bool) (w:World) (hL_:Laid w) (h:rat_May.f a0_0 a0_1=some r) :
  Calls Tryz.prog 53 #[.agg #[.string a0_0,.string a0_1]] w fun e w'=>e=.returned (.bool r)∧Below w.heap.size w w':=by
 unfold rat_May.f at h
 split at h
 ·rename_i hp
  have hs:=smR_le hp
  rw[← ratmay_f (a:=a0_0) (b:=a0_1) (Nat.le_trans hs.1 (by decide)) (Nat.le_trans hs.2 (by decide))] at h
  exact Py.rat_May.calls a0_0 a0_1 r w hL_ h
 ·cases h
def rat_Make.f (a0 a1:ByteArray):Option (ByteArray×ByteArray×Bool):=if smR (a0,a1)=true then some ((rmakeS a0 a1).1.1,(rmakeS a0 a1).1.2,(rmakeS a0 a1).2) else none
theorem rat_Make.calls (a0 a1 r1 r2:ByteArray) (r3:Bool) (w:World) (hL_:Laid w) (h:rat_Make.f a0 a1=some (r1,r2,r3)) :
  Calls Tryz.prog 87 #[.string a0,.string a1] w fun e w'=>e=.returned (.tuple #[.agg #[.string r1,.string r2],.bool r3])∧Below w.heap.size w w':=by
 unfold rat_Make.f at h
 split at h
 ·rename_i hp
  have hs:=smR_le hp
  rw[← ratmake_f (a:=a0) (b:=a1) (Nat.le_trans hs.1 (by decide)) (Nat.le_trans hs.2 (by decide)) 1] at h
  exact Py.rat_Make.calls _ a0 a1 r1 r2 r3 w hL_ h
 ·cases h
def rat_Of.f (a0:Int):Option (ByteArray×ByteArray):=if -9223372036854775808≤a0∧a0≤9223372036854775807 then some (rT (a0:Rat)) else none
theorem rat_Of.calls (a0:Int) (r1 r2:ByteArray) (w:World) (hL_:Laid w) (h:rat_Of.f a0=some (r1,r2)) :
  Calls Tryz.prog 42 #[.int .i64 a0] w fun e w'=>e=.returned (.agg #[.string r1,.string r2])∧Below w.heap.size w w':=by
 unfold rat_Of.f at h
 split at h
 ·rename_i hp
  rw[← ratof_f a0 hp.1 hp.2] at h
  exact Py.rat_Of.calls a0 r1 r2 w hL_ h
 ·cases h
def rat_Sign.f (a0_0 a0_1:ByteArray):Option (Int):=if smR (a0_0,a0_1)=true then some (rsignS (a0_0,a0_1)) else none
theorem rat_Sign.calls (a0_0 a0_1:ByteArray) (r:Int) (w:World) (hL_:Laid w) (h:rat_Sign.f a0_0 a0_1=some r) :
  Calls Tryz.prog 54 #[.agg #[.string a0_0,.string a0_1]] w fun e w'=>e=.returned (.int .i64 r)∧Below w.heap.size w w':=by
 unfold rat_Sign.f at h
 split at h
 ·rename_i hp
  have hs:=smR_le hp
  rw[← ratsign_f (x:=(a0_0,a0_1)) (Nat.le_trans hs.1 (by decide)) (Nat.le_trans hs.2 (by decide))] at h
  exact Py.rat_Sign.calls a0_0 a0_1 r w hL_ h
 ·cases h
theorem zerosB_list (c:Int):(zerosB c).data.toList=List.replicate c.toNat 48:=rfl
theorem ten_list (n:Nat):((⟨#[49]⟩:ByteArray)++zerosB (n:Int)).data.toList=49 :: List.replicate n 48:=by
 rw[Joins.data_append,zerosB_list,Int.toNat_natCast]
 rfl
theorem all_zeros (n:Nat):(List.replicate n (48:UInt8)).all isDig=true:=by
 rw[List.all_eq_true]
 intro c hc
 rw[List.eq_of_mem_replicate hc]
 rfl
theorem dig_ten (n:Nat):digL (49 :: List.replicate n 48)=true:=by
 unfold digL
 rw[List.all_cons,all_zeros,decide_eq_true (by simp)]
 rfl
theorem num_ten (n:Nat):num (49 :: List.replicate n 48)=10 ^ n:=by
 rw[num_cons,List.length_replicate]
 have h:=num_zeros n []
 rw[List.append_nil] at h
 rw[h,num_nil]
 have e:(49:UInt8).toNat-48=1:=rfl
 rw[e]
 omega
theorem tenBB (n:Nat):(⟨#[49]⟩:ByteArray)++zerosB (n:Int)=natB (10 ^ n):=by
 apply bext
 rw[ten_list,natB_list,← num_ten n]
 refine(dig_num ?_).symm
 unfold mayL
 rw[List.all_cons,all_zeros,decide_eq_true (by simp),decide_eq_true (show (49 :: List.replicate n (48:UInt8)).head?≠some 48 by rw[List.head?_cons];decide),Bool.or_true]
 rfl
theorem tail_f {T s:ByteArray} {n p:Nat} (hT:T.size≤1000000000) (hn:n≤T.size) (hs:s.size=p) (hp:p≤1) :
  (if 0≤(wrap64 ((T.size:Int)-(n:Int))) then (if (wrap64 ((T.size:Int)-(n:Int)))≤(T.size:Int) then (if p+(T.extract 0 ((wrap64 ((T.size:Int)-(n:Int))):Int).toNat).size≤9223372036854775807 then (if (s++(T.extract 0 ((wrap64 ((T.size:Int)-(n:Int))):Int).toNat)).size+1≤9223372036854775807 then (if ((s++(T.extract 0 ((wrap64 ((T.size:Int)-(n:Int))):Int).toNat))++(⟨#[46]⟩:ByteArray)).size+(T.extract ((wrap64 ((T.size:Int)-(n:Int))):Int).toNat T.size).size≤9223372036854775807 then (some (((s++(T.extract 0 ((wrap64 ((T.size:Int)-(n:Int))):Int).toNat))++(⟨#[46]⟩:ByteArray))++(T.extract ((wrap64 ((T.size:Int)-(n:Int))):Int).toNat T.size))) else none) else none) else none) else none) else none)
  = some (⟨(s.data.toList++(T.data.toList.take (T.data.toList.length-n)++46 :: T.data.toList.drop (T.data.toList.length-n))).toArray⟩:ByteArray):=by
 rw[w64 (by omega) (by omega)]
 have e:((T.size:Int)-(n:Int)).toNat=T.size-n:=by omega
 have h1:(T.extract 0 (T.size-n)).data.toList=T.data.toList.take (T.size-n):=by rw[Lib.extract_data];simp
 have h2:(T.extract (T.size-n) T.size).data.toList=T.data.toList.drop (T.size-n):=Lib.extract_to_end T _
 have z1:(T.extract 0 (T.size-n)).size≤T.size:=by
  rw[size_len,h1,List.length_take,← size_len]
  omega
 have z2:(T.extract (T.size-n) T.size).size≤T.size:=by
  rw[size_len,h2,List.length_drop,← size_len]
  omega
 have z3:(⟨#[46]⟩:ByteArray).size=1:=rfl
 rw[e,if_pos (by omega),if_pos (by omega),if_pos (by omega),if_pos (by rw[ByteArray.size_append];omega),if_pos (by rw[ByteArray.size_append,ByteArray.size_append];omega)]
 congr 1
 apply bext
 rw[Joins.data_append,Joins.data_append,Joins.data_append,h1,h2,← size_len]
 show _ = s.data.toList++_
 simp only[List.append_assoc]
 rfl
def resL (m:Bool) (A B:List UInt8):Option Rat:=if (digL A&&digL B)=true then (if num B=0 then none else some (Rat.divInt (withS m (num A)) (num B:Int))) else none
def ansQ:Option Rat→ByteArray×ByteArray×Int
 | some q=>((rT q).1,(rT q).2,0)
 | none=>(noB,noB,40)
theorem parseS_ans (s:ByteArray):parseS s=ansQ (parseL s.data.toList):=by
 unfold parseS ansQ
 cases parseL s.data.toList <;> rfl
theorem resL_ten (m:Bool) {A:List UInt8} (n:Nat) (h:digL A=true):resL m A (49 :: List.replicate n 48)=some (Rat.divInt (withS m (num A)) ((10 ^ n:Nat):Int)):=by
 unfold resL
 rw[h,dig_ten,num_ten,Bool.true_and,if_pos rfl,if_neg]
 have:=tenI_ne n
 omega
theorem resL_one (m:Bool) (A:List UInt8):resL m A [49]=if digL A=true then some ((withS m (num A):Int):Rat) else none:=by
 unfold resL
 have e:num [49]=1:=num_ten 0
 have d:digL [49]=true:=dig_ten 0
 rw[d,e,Bool.and_true]
 by_cases h:digL A=true
 ·rw[if_pos h,if_pos h,if_neg (by decide)]
  congr 1
  have h3:=Rat.num_divInt_den ((withS m (num A):Int):Rat)
  rw[Rat.num_intCast,Rat.den_intCast] at h3
  exact h3
 ·rw[if_neg h,if_neg h]
theorem dig_point {A B:List UInt8}:digL (A++46 :: B)=false:=by
 unfold digL
 rw[List.all_append,List.all_cons,show isDig 46=false from rfl,Bool.false_and,Bool.and_false,Bool.and_false]
theorem dig_both {A B:List UInt8} (h:digL A=true) (h2:digL B=true):digL (A++B)=true:=by
 obtain⟨a1,a2,_⟩:=head_dig' h
 obtain⟨b1,b2,_⟩:=head_dig' h2
 unfold digL
 rw[List.all_append,a1,b1,Bool.true_and,Bool.and_true,decide_eq_true_eq]
 intro e
 exact a2 (List.append_eq_nil_iff.1 e).1
theorem parseA_forms (s:List UInt8):parseA s=match cutAt 47 (cutL s).1 with
  | some (a,b)=>resL (cutL s).2 a b
  | none=>match cutAt 46 (cutL s).1 with
   | some (a,b)=>if (digL a&&digL b)=true then resL (cutL s).2 (a++b) (49 :: List.replicate b.length 48) else none
   | none=>resL (cutL s).2 (cutL s).1 [49]:=by
 unfold parseA
 cases h:cutAt 47 (cutL s).1 with
 | some p=>rfl
 | none =>
  cases h2:cutAt 46 (cutL s).1 with
  | none =>
   simp only[]
   rw[resL_one]
  | some p =>
   obtain⟨a,b⟩:=p
   simp only[]
   by_cases hd:(digL a&&digL b)=true
   ·rw[if_pos hd,if_pos hd]
    rw[Bool.and_eq_true] at hd
    rw[resL_ten _ _ (dig_both hd.1 hd.2)]
   ·rw[if_neg hd,if_neg hd]
theorem point_not {t a b:List UInt8} (h:cutAt 46 t=some (a,b)) (m:Bool):resL m t [49]=none:=by
 obtain⟨h1,h2,h3⟩:=indexByte_some h
 rw[resL_one,h2,dig_point]
 rfl
theorem rAdd {m n:Nat} (hm:sz m≤50000) (hn:sz n≤50000):r1_Add.f (natB m) (natB n)=some (natB (m+n)):=by
 unfold r1_Add.f addS
 rw[if_pos (sm2_natB hm hn),if_pos (may2_natB m n),numB_natB,numB_natB]
theorem rMul {m n:Nat} (hm:sz m≤50000) (hn:sz n≤50000):r1_Mul.f (natB m) (natB n)=some (natB (m * n)):=by
 unfold r1_Mul.f mulS
 rw[if_pos (sm2_natB hm hn),if_pos (may2_natB m n),numB_natB,numB_natB]
theorem rSub {m n:Nat} (hm:sz m≤50000) (hn:sz n≤50000):r1_Sub.f (natB m) (natB n)=some (if n≤m then (natB (m-n),true) else (noB,false)):=by
 unfold r1_Sub.f subS
 rw[if_pos (sm2_natB hm hn),may2_natB,numB_natB,numB_natB,Bool.true_and]
 by_cases h:n≤m
 ·rw[if_pos (decide_eq_true h),if_pos h]
 ·rw[if_neg (by rw[decide_eq_true_eq];exact h),if_neg h]
theorem rDiv {m n:Nat} (hm:sz m≤50000) (hn:sz n≤50000) (h:n≠0):r1_Div.f (natB m) (natB n)=some (natB (m / n),natB (m % n),true):=by
 unfold r1_Div.f divS
 rw[if_pos (sm2_natB hm hn),may2_natB,numB_natB,numB_natB,Bool.true_and,if_pos (decide_eq_true h)]
theorem may2W_and' {a b:ByteArray}:may2W a b=true↔mayW a=true∧mayW b=true:=by unfold may2W;rw[Bool.and_eq_true]
theorem may2W_int' (x y:Int):may2W (intB x) (intB y)=true:=may2W_and'.2 ⟨mayW_int x,mayW_int y⟩
theorem casesW' (a b:ByteArray):(∃ x y,a=intB x∧b=intB y)∨¬ may2W a b=true:=by
 by_cases h:may2W a b=true
 ·obtain⟨h1,h2⟩:=may2W_and'.1 h
  obtain⟨x,hx⟩:=of_mayW h1
  obtain⟨y,hy⟩:=of_mayW h2
  exact .inl ⟨x,y,hx,hy⟩
 ·exact .inr h
theorem withS_int' (z:Int):withS (decide (z<0)) z.natAbs=z:=by
 unfold withS
 by_cases h:z<0
 ·rw[if_pos (decide_eq_true h)];omega
 ·rw[if_neg (by rw[decide_eq_true_eq];exact h)];omega
theorem withS_not' (z:Int):withS (!decide (z<0)) z.natAbs=-z:=by
 unfold withS
 by_cases h:z<0
 ·rw[decide_eq_true h,if_neg (by decide)];omega
 ·rw[decide_eq_false h,if_pos (by decide)];omega
theorem with_f (b:Bool) {n:Nat} (h:sz n≤1000000):Px.r2_with.f (natB n) b=some (intB (withS b n)):=by
 rw[← withS_text]
 unfold Px.r2_with.f
 cases b with
 | false=>rfl
 | true =>
  simp only[if_true]
  by_cases hz:n=0
  ·rw[if_pos (natB_toList_zero.2 hz),if_pos hz]
  ·unfold sz at h
   rw[if_neg (fun e=>hz (natB_toList_zero.1 e)),if_neg hz,if_pos (by omega)]
theorem r2of_f (n:Int) (h0:-9223372036854775808≤n) (h1:n≤9223372036854775807):Px.r2_Of.f n=some (intB n):=by
 unfold Px.r2_Of.f
 have hof:∀ m:Int,0≤m→m≤9223372036854775807→r1_Of.f m=some (natB m.toNat):=by
  intro m h2 h3
  unfold r1_Of.f ofS
  rw[if_pos ⟨by omega,h3⟩,if_neg (by omega)]
 by_cases h:n<0
 ·rw[if_pos h,w64 (x:=n+1) (by omega) (by omega),w64 (by omega) (by omega),hof _ (by omega) (by omega),ob_,← natB_one]
  have s1:sz (-(n+1)).toNat≤20:=sz_le (by omega) (by omega)
  have s2:sz 1≤20:=sz_le (by omega) (by omega)
  have s3:=sz_add (-(n+1)).toNat 1
  rw[rAdd (by omega) (by omega),ob_,if_pos (by unfold sz at s1 s2 s3;omega)]
  have e:(-(n+1)).toNat+1=n.natAbs:=by omega
  rw[e]
  unfold intB
  rw[if_pos h]
 ·rw[if_neg h,hof n (by omega) h1,ob_,intB_nonneg (by omega)]
theorem r2abs_f {a:ByteArray} (h:a.size≤50000):Px.r2_Abs.f a=some (wabsS a):=by
 unfold Px.r2_Abs.f wabsS
 rw[r2may_f h,ob_]
 by_cases hm:mayW a=true
 ·obtain⟨z,rfl⟩:=of_mayW hm
  rw[if_pos hm,amount_f,ob_,if_pos hm,numW_int,amtB_int]
 ·rw[if_neg hm,if_neg hm]
  rfl
theorem r2neg_f {a:ByteArray} (h:a.size≤50000):Px.r2_Neg.f a=some (wnegS a):=by
 unfold Px.r2_Neg.f wnegS
 rw[r2may_f h,ob_]
 by_cases hm:mayW a=true
 ·obtain⟨z,rfl⟩:=of_mayW hm
  have h1:=le_szI z
  have h2:szI z≤50000:=h
  rw[if_pos hm,amount_f,ob_,if_pos hm,numW_int,amtB_int,minusB_int,with_f _ (by omega),withS_not']
  rfl
 ·rw[if_neg hm,if_neg hm]
  rfl
theorem r2sign_f {a:ByteArray} (h:a.size≤50000) (k:Nat):Px.r2_Sign.f (k+1) a=some (wsignS a):=by
 unfold Px.r2_Sign.f wsignS
 rw[amount_f,ob_,r2may_f h,ob_]
 by_cases hm:mayW a=true
 ·obtain⟨z,rfl⟩:=of_mayW hm
  rw[if_pos hm,if_pos hm,amtB_int,minusB_int,natB_beq_zero,numW_int]
  simp only[Px.r2_Sign.j0]
  rcases (by omega:z<0∨z=0∨0<z) with hz|hz|hz
  ·rw[if_neg (by rw[decide_eq_true_eq];omega),if_pos (decide_eq_true hz),cmp_lt' hz]
  ·subst hz
   rfl
  ·rw[if_neg (by rw[decide_eq_true_eq];omega),if_neg (by rw[decide_eq_true_eq];omega),cmp_gt' hz]
 ·rw[if_neg hm,if_neg hm]
  rfl
theorem withS_mul' (a b:Bool) (m n:Nat):withS (a != b) (m * n)=withS a m * withS b n:=by
 unfold withS
 cases a <;> cases b <;> simp[Int.natCast_mul,Int.neg_mul,Int.mul_neg]
theorem r2mul_f {a b:ByteArray} (ha:a.size≤50000) (hb:b.size≤50000) (k:Nat):Px.r2_Mul.f (k+1) a b=some (wmulS a b):=by
 unfold Px.r2_Mul.f wmulS
 rw[r2may_f ha,ob_]
 rcases casesW' a b with ⟨x,y,rfl,rfl⟩|hm
 ·have h1:=le_szI x
  have h2:=le_szI y
  have h3:szI x≤50000:=ha
  have h4:szI y≤50000:=hb
  have h5:=sz_mul x.natAbs y.natAbs
  rw[if_pos (mayW_int x),r2may_f hb,ob_,mayW_int]
  simp only[Px.r2_Mul.j0]
  rw[if_neg (by decide),amount_f,ob_,amount_f,ob_,amtB_int,amtB_int,minusB_int,minusB_int,rMul (by omega) (by omega),ob_,with_f _ (by omega),withS_mul',withS_int',withS_int',if_pos (may2W_int' x y),numW_int,numW_int]
  rfl
 ·rw[if_neg hm]
  by_cases h1:mayW a=true
  ·rw[if_pos h1,r2may_f hb,ob_,(Bool.not_eq_true _).mp (fun h2=>hm (may2W_and'.2 ⟨h1,h2⟩))]
   rfl
  ·rw[if_neg h1]
   rfl
theorem r2div_f {a b:ByteArray} (ha:a.size≤49990) (hb:b.size≤49990) (k:Nat):Px.r2_Div.f (k+2) a b=some (wdivS a b):=by
 unfold Px.r2_Div.f wdivS
 rw[r2may_f (by omega),ob_]
 rcases casesW' a b with ⟨x,y,rfl,rfl⟩|hm
 ·have h1:=le_szI x
  have h2:=le_szI y
  have h3:szI x≤49990:=ha
  have h4:szI y≤49990:=hb
  have hb0:((intB y).toList == ([48]:List UInt8))=decide (y=0):=by
   have e:(intB 0).toList=[48]:=by
    rw[show intB 0=natB 0 from intB_nat 0]
    exact natB_toList_zero.2 rfl
   rw[Bool.eq_iff_iff,beq_iff_eq,decide_eq_true_eq,← e]
   exact intB_toList_inj
  rw[if_pos (mayW_int x),r2may_f (by omega),ob_,if_pos (mayW_int y),may2W_int',Bool.true_and,numW_int,numW_int,hb0]
  show Px.r2_Div.j0 (k+1+1) _ _ _ = _
  simp only[Px.r2_Div.j0]
  by_cases hy:y=0
  ·subst hy
   rfl
  ·have hy':y.natAbs≠0:=by omega
   have hd:=divW (m:=x.natAbs) hy' (decide (x<0)) (decide (y<0)) (by intro h;rw[decide_eq_true_eq] at h;omega)
   rw[withS_int',withS_int'] at hd
   have s1:=sz_mono (Nat.div_le_self x.natAbs y.natAbs)
   have s2:=sz_mono (Nat.mod_le x.natAbs y.natAbs)
   have hlt:=Nat.mod_lt x.natAbs (show 0<y.natAbs by omega)
   rw[if_neg (by rw[decide_eq_true_eq];exact hy),if_pos (decide_eq_true hy),amount_f,ob_,amount_f,ob_,amtB_int,amtB_int,minusB_int,minusB_int,rDiv (by omega) (by omega) hy',ob_,hd.1,hd.2]
   clear hd
   generalize x.natAbs / y.natAbs=q at *
   generalize x.natAbs % y.natAbs=r at *
   have one1:sz 1≤1:=sz_le (by omega) (by omega)
   have s3:=sz_add q 1
   by_cases hx:x<0
   ·rw[if_pos (decide_eq_true hx)]
    simp only[Px.r2_Div.j1]
    by_cases hr:r=0
    ·subst hr
     rw[if_neg (by have:=natB_beq_zero 0;simp[bne,this]),with_f _ (by omega),ob_,if_neg (by simp),if_neg (by simp),intB_nat]
    ·rw[if_pos (by have:=natB_beq_zero r;simp[bne,this,hr]),← natB_one,rAdd (by omega) (by omega),ob_,rSub (by omega) (by omega),ob_,if_pos (by omega),with_f _ (by omega),ob_,if_pos ⟨decide_eq_true hx,hr⟩,if_pos ⟨decide_eq_true hx,hr⟩,intB_nat]
   ·rw[if_neg (by rw[decide_eq_true_eq];exact hx)]
    simp only[Px.r2_Div.j1]
    have hf:¬ (decide (x<0)=true∧r≠0):=fun e=>hx (od_ e.1)
    rw[if_neg (by decide),with_f _ (by omega),ob_,if_neg hf,if_neg hf,intB_nat]
 ·rw[(Bool.not_eq_true _).mp hm]
  by_cases h1:mayW a=true
  ·rw[if_pos h1,r2may_f (by omega),ob_,if_neg (fun h2=>hm (may2W_and'.2 ⟨h1,h2⟩))]
   rfl
  ·rw[if_neg h1]
   rfl
def smr (s:ByteArray):Bool:=decide (s.size≤20000)
theorem smr_le {s:ByteArray} (h:smr s=true):s.size≤20000:=od_ h
def smr2 (a b:ByteArray):Bool:=smr a&&smr b
theorem smr2_le {a b:ByteArray} (h:smr2 a b=true):a.size≤20000∧b.size≤20000:=by
 unfold smr2 at h
 rw[Bool.and_eq_true] at h
 exact⟨smr_le h.1,smr_le h.2⟩
def r2_Of.f (a0:Int):Option ByteArray:=if -9223372036854775808≤a0∧a0≤9223372036854775807 then some (intB a0) else none
theorem r2_Of.calls (a0:Int) (r:ByteArray) (w:World) (h:r2_Of.f a0=some r) :
  Calls Tryz.prog 38 #[.int .i64 a0] w fun e w'=>e=.returned (.string r)∧Below w.heap.size w w':=by
 unfold r2_Of.f at h
 split at h
 ·rename_i hp
  rw[← r2of_f a0 hp.1 hp.2] at h
  exact Px.r2_Of.calls a0 r w h
 ·cases h
def r2_Sign.f (a0:ByteArray):Option Int:=if smr a0=true then some (wsignS a0) else none
theorem r2_Sign.calls (a0:ByteArray) (r:Int) (w:World) (h:r2_Sign.f a0=some r) :
  Calls Tryz.prog 73 #[.string a0] w fun e w'=>e=.returned (.int .i64 r)∧Below w.heap.size w w':=by
 unfold r2_Sign.f at h
 split at h
 ·rename_i hp
  have hs:=smr_le hp
  rw[← r2sign_f (by omega) 0] at h
  exact Px.r2_Sign.calls _ a0 r w h
 ·cases h
def r2_Abs.f (a0:ByteArray):Option ByteArray:=if smr a0=true then some (wabsS a0) else none
theorem r2_Abs.calls (a0 r:ByteArray) (w:World) (h:r2_Abs.f a0=some r) :
  Calls Tryz.prog 70 #[.string a0] w fun e w'=>e=.returned (.string r)∧Below w.heap.size w w':=by
 unfold r2_Abs.f at h
 split at h
 ·rename_i hp
  have hs:=smr_le hp
  rw[← r2abs_f (by omega)] at h
  exact Px.r2_Abs.calls a0 r w h
 ·cases h
def r2_Neg.f (a0:ByteArray):Option ByteArray:=if smr a0=true then some (wnegS a0) else none
theorem r2_Neg.calls (a0 r:ByteArray) (w:World) (h:r2_Neg.f a0=some r) :
  Calls Tryz.prog 50 #[.string a0] w fun e w'=>e=.returned (.string r)∧Below w.heap.size w w':=by
 unfold r2_Neg.f at h
 split at h
 ·rename_i hp
  have hs:=smr_le hp
  rw[← r2neg_f (by omega)] at h
  exact Px.r2_Neg.calls a0 r w h
 ·cases h
def r2_Mul.f (a0 a1:ByteArray):Option ByteArray:=if smr2 a0 a1=true then some (wmulS a0 a1) else none
theorem r2_Mul.calls (a0 a1 r:ByteArray) (w:World) (h:r2_Mul.f a0 a1=some r) :
  Calls Tryz.prog 113 #[.string a0,.string a1] w fun e w'=>e=.returned (.string r)∧Below w.heap.size w w':=by
 unfold r2_Mul.f at h
 split at h
 ·rename_i hp
  have hs:=smr2_le hp
  rw[← r2mul_f (by omega) (by omega) 0] at h
  exact Px.r2_Mul.calls _ a0 a1 r w h
 ·cases h
def r2_Div.f (a0 a1:ByteArray):Option (ByteArray×ByteArray×Bool):=if smr2 a0 a1=true then some (wdivS a0 a1) else none
theorem r2_Div.calls (a0 a1 r1 r2:ByteArray) (r3:Bool) (w:World) (h:r2_Div.f a0 a1=some (r1,r2,r3)) :
  Calls Tryz.prog 75 #[.string a0,.string a1] w fun e w'=>e=.returned (.tuple #[.string r1,.string r2,.bool r3])∧Below w.heap.size w w':=by
 unfold r2_Div.f at h
 split at h
 ·rename_i hp
  have hs:=smr2_le hp
  rw[← r2div_f (by omega) (by omega) 0] at h
  exact Px.r2_Div.calls _ a0 a1 r1 r2 r3 w h
 ·cases h
theorem rgcd_loop {N:Nat} (hN:N≤50000):∀ (n m k:Nat),(natB m).size≤N→(natB n).size≤N→n+22 * N+60≤k→Pq.r1_Gcd.l0 k (natB m) (natB n)=some (natB (Nat.gcd m n))
 | n,m,k,hm,hn,hk=>by
  obtain⟨k,rfl⟩:∃ j,k=j+1:=⟨k-1,by omega⟩
  simp only[Pq.r1_Gcd.l0]
  rw[ByteArray.toList_eq]
  have hz:=list48 (mayB_natB n)
  rw[numB_natB] at hz
  by_cases h:n=0
  ·rw[if_pos (hz.2 h),h,Nat.gcd_zero_right]
  ·rw[if_neg (fun e=>h (hz.1 e)),rdiv_f hN hm hn k (by omega),ob_]
   have hd:divS (natB m) (natB n)=(natB (m / n),natB (m % n),true):=by
    unfold divS
    rw[numB_natB,numB_natB,if_pos (by rw[may2_eq (mayB_natB m) (mayB_natB n),decide_eq_true h];rfl)]
   rw[hd]
   have h2:=Nat.mod_lt m (show 0<n by omega)
   have h3:=natB_le (mayB_natB n) (n:=m % n) (by rw[numB_natB];omega)
   have:=rgcd_loop hN (m % n) n k hn (by omega) (by omega)
   rw[this,Nat.gcd_comm m n,Nat.gcd_rec n m,Nat.gcd_comm]
 termination_by n=>n
 decreasing_by exact Nat.mod_lt m (by omega)
theorem rgcd_f {a b:ByteArray} {N:Nat} (hN:N≤50000) (ha:a.size≤N) (hb:b.size≤N) (k:Nat) (hk:numB b+22 * N+70≤k):Pq.r1_Gcd.f k a b=some (gcdS a b):=by
 obtain⟨k,rfl⟩:∃ m,k=m+1:=⟨k-1,by omega⟩
 unfold Pq.r1_Gcd.f
 rw[rmay_f a (by omega) _ (by omega),ob_]
 by_cases h1:mayB a=true
 ·rw[if_pos h1,rmay_f b (by omega) _ (by omega),ob_]
  by_cases h2:mayB b=true
  ·rw[h2]
   simp only[Pq.r1_Gcd.j0]
   unfold gcdS
   rw[if_pos (may2_eq h1 h2),if_neg (by decide)]
   have:=rgcd_loop hN (numB b) (numB a) k (by rw[natB_numB h1];exact ha) (by rw[natB_numB h2];exact hb) (by omega)
   rw[natB_numB h1,natB_numB h2] at this
   exact this
  ·rw[(Bool.not_eq_true _).mp h2]
   unfold gcdS
   rw[if_neg (may2_no2 h2)]
   rfl
 ·rw[if_neg h1]
  unfold gcdS
  rw[if_neg (may2_no1 h1)]
  rfl
def r1_Gcd.f (a0 a1:ByteArray):Option ByteArray:=if sm2 a0 a1=true then some (gcdS a0 a1) else none
theorem r1_Gcd.calls (a0 a1 r:ByteArray) (w:World) (h:r1_Gcd.f a0 a1=some r) :
  Calls Tryz.prog 74 #[.string a0,.string a1] w fun e w'=>e=.returned (.string r)∧Below w.heap.size w w':=by
 unfold r1_Gcd.f at h
 split at h
 ·rename_i hp
  rw[← rgcd_f (N:=50000) (by omega) (sm_le (and2 hp).1) (sm_le (and2 hp).2) _ (nr_ _)] at h
  exact Pq.r1_Gcd.calls _ a0 a1 r w h
 ·cases h
namespace Pz
def errW:Option Int→Value
 | none=>.nilIface
 | some c=>.iface 0 (.int .i64 c)
theorem errW_none:errW none=.nilIface:=rfl
theorem errW_some (c:Int):errW (some c)=.iface 0 (.int .i64 c):=rfl
def r3_May.f (a0_0 a0_1:ByteArray):Option (Bool):=(r2_May.f a0_0).bind fun t102=>(if t102=true then ((r1_May.f a0_1).bind fun t103=>(if t103=true then (if a0_1.toList=([48]:List UInt8) then (some false) else ((r2_Abs.f a0_0).bind fun t104=>((r1_Gcd.f t104 a0_1).bind fun t105=>(some (t105.toList == ([49]:List UInt8)))))) else (some false))) else (some false))
def r3_May.T1:Bool×List (List Nat×List Nat):=(true,[([],[]),([0],[0]),([1],[1]),([2,2],[2]),([3],[3]),([4,3],[3,4]),([5,3,3],[3,5]),([3,6],[3,6]),([7,6],[7]),([8],[8]),([9,8],[8,9]),([10,8],[8,10]),([8,11],[8,11]),([12,8],[12]),([13],[13]),([14,13],[13,14]),([15,13,13],[13,15]),([13],[13]),([17,13],[13,17]),([16,18,16,13],[13,16,18]),([19,13],[13,19]),([13,20],[13,20]),([21,19,0,1,2,3,4,5,6,7,8,9,10,11,12,13,14,15,16,17,18,19,20,21],[21])])
def r3_May.B1:List Nat:=[0,1,3,7,15,31,63,127,255,511,1023,2047,4095,8191,16383,32767,65535,16383,147455,524287,1048575,2097151,4194303]
theorem r3_May.tab1:rtab .any (opsOf Tryz.f55 1)=r3_May.T1:=by kernel_rfl
theorem r3_May.bits1:waitsOk r3_May.T1.2 r3_May.B1=true:=by kernel_rfl
theorem r3_May.calls (a0_0 a0_1:ByteArray) (r:Bool) (w:World) (h:r3_May.f a0_0 a0_1=some r) :
  Calls Tryz.prog 55 #[.agg #[.string a0_0,.string a0_1]] w fun e w'=>e=.returned (.bool r)∧Below w.heap.size w w':=by
 have hu23:=Tryz.underlying23;have HB:=ak_ (Below.refl w.heap.size w);have H:=h;unfold r3_May.f at H;clear h;replace H:=bi_ H;obtain⟨t102,A2,H⟩:=H;replace H:=bt_ H;rcases H with ⟨rfl,H⟩|⟨rfl,H⟩
 ·replace H:=bi_ H;obtain⟨t103,A4,H⟩:=H;replace H:=bt_ H;rcases H with ⟨rfl,H⟩|⟨rfl,H⟩
  ·replace H:=bw_ H;rcases H with ⟨c6,H⟩|⟨c6,H⟩
   ·have c6b0:(a0_1.toList == ([48]:List UInt8))=true:=beq_iff_eq.mpr c6;have c6b1:(a0_1.toList != ([48]:List UInt8))=false:=bne_eq_false_iff_eq.mpr c6;clear c6;obtain rfl:=oi_ H;go_in
    try go_wp2_with ((refine bf_ 1 #[.string a0_0,.string a0_1] 23 HB ?_;clear HB;intro gb101 w7 BK101 GW101 HB))
    replace BK101:=ak_ (blk_drew BK101.out);replace HB:=ak_ (below_drew1 HB.out);refine sa_ 23 (fun w'=>w'.cell? ⟨gb101,0,none⟩=some (.string a0_0)∧w'.cell? ⟨gb101,1,none⟩=some (.string a0_1)) (fun hHeld=>?_);refine with_tabW r3_May.tab1 r3_May.bits1 (fun HT_ HW_=>?_);generalize w7.drew=w8 at BK101 HB hHeld ⊢;refine pu_ 0 3 rfl rfl HT_ ?_;refine t_ 1 4 rfl rfl HT_ HW_ hHeld ?_;refine on_ 2 (some 5) rfl rfl HT_ (fun K hK=>?_);refine gn_ Tryz.func72 (r2_May.calls _ _ _ A2.out) ?_;intro w9 hb;replace BK101:=kb_ BK101 hb;replace HB:=bs_ HB hb;(try clear hb);refine hk_ hK (fun hHeld=>?_);clear hK K;refine nm_ ?_;refine pu_ 3 6 rfl rfl HT_ ?_;refine pu_ 4 7 rfl rfl HT_ ?_;refine t_ 5 8 rfl rfl HT_ HW_ hHeld ?_;refine on_ 6 (some 9) rfl rfl HT_ (fun K hK=>?_);refine gn_ Tryz.func44 (r1_May.calls _ _ _ A4.out) ?_;intro w10 hb;replace BK101:=kb_ BK101 hb;replace HB:=bs_ HB hb;(try clear hb);refine hk_ hK (fun hHeld=>?_);clear hK K;refine nm_ ?_;refine pu_ 7 10 rfl rfl HT_ ?_;refine pu_ 8 11 rfl rfl HT_ ?_;refine pu_ 9 12 rfl rfl HT_ ?_;refine t_ 10 13 rfl rfl HT_ HW_ hHeld ?_;refine pu_ 11 14 rfl rfl HT_ ?_;refine pu_ 12 15 rfl rfl HT_ ?_;refine pu_ 13 16 rfl rfl HT_ ?_;refine pv_ 14 17 rfl rfl HT_ ?_;refine pv_ 15 18 rfl rfl HT_ ?_;refine pv_ 16 19 rfl rfl HT_ ?_;refine pv_ 17 20 rfl rfl HT_ ?_;refine pv_ 18 21 rfl rfl HT_ ?_;refine pv_ 19 22 rfl rfl HT_ ?_;refine pv_ 20 23 rfl rfl HT_ ?_;refine pu_ 21 24 rfl rfl HT_ ?_;refine pu_ 22 2 rfl rfl HT_ ?_;refine done_ (done_of HT_.out (by kernel_rfl)) ?_
    try go_wp2
    go_ret
    exact⟨er_,b_ HB.out⟩
   ·have c6b0:(a0_1.toList == ([48]:List UInt8))=false:=beq_eq_false_iff_ne.mpr c6;have c6b1:(a0_1.toList != ([48]:List UInt8))=true:=bne_iff_ne.mpr c6;replace H:=bi_ H;obtain⟨t104,A11,H⟩:=H;replace H:=bi_ H;obtain⟨t105,A12,H⟩:=H;obtain rfl:=oi_ H;go_in
    try go_wp2_with ((refine bf_ 1 #[.string a0_0,.string a0_1] 23 HB ?_;clear HB;intro gb101 w13 BK101 GW101 HB))
    replace BK101:=ak_ (blk_drew BK101.out);replace HB:=ak_ (below_drew1 HB.out);refine sa_ 23 (fun w'=>w'.cell? ⟨gb101,0,none⟩=some (.string a0_0)∧w'.cell? ⟨gb101,1,none⟩=some (.string a0_1)) (fun hHeld=>?_);refine with_tabW r3_May.tab1 r3_May.bits1 (fun HT_ HW_=>?_);generalize w13.drew=w14 at BK101 HB hHeld ⊢;refine pu_ 0 3 rfl rfl HT_ ?_;refine t_ 1 4 rfl rfl HT_ HW_ hHeld ?_;refine on_ 2 (some 5) rfl rfl HT_ (fun K hK=>?_);refine gn_ Tryz.func72 (r2_May.calls _ _ _ A2.out) ?_;intro w15 hb;replace BK101:=kb_ BK101 hb;replace HB:=bs_ HB hb;(try clear hb);refine hk_ hK (fun hHeld=>?_);clear hK K;refine nm_ ?_;refine pu_ 3 6 rfl rfl HT_ ?_;refine pu_ 4 7 rfl rfl HT_ ?_;refine t_ 5 8 rfl rfl HT_ HW_ hHeld ?_;refine on_ 6 (some 9) rfl rfl HT_ (fun K hK=>?_);refine gn_ Tryz.func44 (r1_May.calls _ _ _ A4.out) ?_;intro w16 hb;replace BK101:=kb_ BK101 hb;replace HB:=bs_ HB hb;(try clear hb);refine hk_ hK (fun hHeld=>?_);clear hK K;refine nm_ ?_;refine pu_ 7 10 rfl rfl HT_ ?_;refine pu_ 8 11 rfl rfl HT_ ?_;refine pu_ 9 12 rfl rfl HT_ ?_;refine t_ 10 13 rfl rfl HT_ HW_ hHeld ?_;refine pu_ 11 14 rfl rfl HT_ ?_;refine pu_ 12 15 rfl rfl HT_ ?_;refine pu_ 13 16 rfl rfl HT_ ?_;refine pu_ 14 17 rfl rfl HT_ ?_;refine pu_ 17 20 rfl rfl HT_ ?_;refine t_ 15 18 rfl rfl HT_ HW_ hHeld ?_;refine t_ 18 21 rfl rfl HT_ HW_ hHeld ?_;refine on_ 16 (some 19) rfl rfl HT_ (fun K hK=>?_);refine gn_ Tryz.func70 (r2_Abs.calls _ _ _ A11.out) ?_;intro w17 hb;replace BK101:=kb_ BK101 hb;replace HB:=bs_ HB hb;(try clear hb);refine hk_ hK (fun hHeld=>?_);clear hK K;refine nm_ ?_;refine on_ 19 (some 22) rfl rfl HT_ (fun K hK=>?_);refine gn_ Tryz.func74 (r1_Gcd.calls _ _ _ _ A12.out) ?_;intro w18 hb;replace BK101:=kb_ BK101 hb;replace HB:=bs_ HB hb;(try clear hb);refine hk_ hK (fun hHeld=>?_);clear hK K;refine nm_ ?_;refine pu_ 20 23 rfl rfl HT_ ?_;refine pu_ 21 24 rfl rfl HT_ ?_;refine pu_ 22 2 rfl rfl HT_ ?_;refine done_ (done_of HT_.out (by kernel_rfl)) ?_
    try go_wp2
    go_ret
    exact⟨er_,b_ HB.out⟩
  ·obtain rfl:=oi_ H;go_in
   try go_wp2_with ((refine bf_ 1 #[.string a0_0,.string a0_1] 23 HB ?_;clear HB;intro gb101 w19 BK101 GW101 HB))
   replace BK101:=ak_ (blk_drew BK101.out);replace HB:=ak_ (below_drew1 HB.out);refine sa_ 23 (fun w'=>w'.cell? ⟨gb101,0,none⟩=some (.string a0_0)∧w'.cell? ⟨gb101,1,none⟩=some (.string a0_1)) (fun hHeld=>?_);refine with_tabW r3_May.tab1 r3_May.bits1 (fun HT_ HW_=>?_);generalize w19.drew=w20 at BK101 HB hHeld ⊢;refine pu_ 0 3 rfl rfl HT_ ?_;refine t_ 1 4 rfl rfl HT_ HW_ hHeld ?_;refine on_ 2 (some 5) rfl rfl HT_ (fun K hK=>?_);refine gn_ Tryz.func72 (r2_May.calls _ _ _ A2.out) ?_;intro w21 hb;replace BK101:=kb_ BK101 hb;replace HB:=bs_ HB hb;(try clear hb);refine hk_ hK (fun hHeld=>?_);clear hK K;refine nm_ ?_;refine pu_ 3 6 rfl rfl HT_ ?_;refine pu_ 4 7 rfl rfl HT_ ?_;refine t_ 5 8 rfl rfl HT_ HW_ hHeld ?_;refine on_ 6 (some 9) rfl rfl HT_ (fun K hK=>?_);refine gn_ Tryz.func44 (r1_May.calls _ _ _ A4.out) ?_;intro w22 hb;replace BK101:=kb_ BK101 hb;replace HB:=bs_ HB hb;(try clear hb);refine hk_ hK (fun hHeld=>?_);clear hK K;refine nm_ ?_;refine pu_ 7 10 rfl rfl HT_ ?_;refine pu_ 8 11 rfl rfl HT_ ?_;refine pv_ 9 12 rfl rfl HT_ ?_;refine pv_ 10 13 rfl rfl HT_ ?_;refine pv_ 11 14 rfl rfl HT_ ?_;refine pu_ 12 15 rfl rfl HT_ ?_;refine pu_ 13 16 rfl rfl HT_ ?_;refine pv_ 14 17 rfl rfl HT_ ?_;refine pv_ 15 18 rfl rfl HT_ ?_;refine pv_ 16 19 rfl rfl HT_ ?_;refine pv_ 17 20 rfl rfl HT_ ?_;refine pv_ 18 21 rfl rfl HT_ ?_;refine pv_ 19 22 rfl rfl HT_ ?_;refine pv_ 20 23 rfl rfl HT_ ?_;refine pu_ 21 24 rfl rfl HT_ ?_;refine pu_ 22 2 rfl rfl HT_ ?_;refine done_ (done_of HT_.out (by kernel_rfl)) ?_
   try go_wp2
   go_ret
   exact⟨er_,b_ HB.out⟩
 ·obtain rfl:=oi_ H;go_in
  try go_wp2_with ((refine bf_ 1 #[.string a0_0,.string a0_1] 23 HB ?_;clear HB;intro gb101 w23 BK101 GW101 HB))
  replace BK101:=ak_ (blk_drew BK101.out);replace HB:=ak_ (below_drew1 HB.out);refine sa_ 23 (fun w'=>w'.cell? ⟨gb101,0,none⟩=some (.string a0_0)∧w'.cell? ⟨gb101,1,none⟩=some (.string a0_1)) (fun hHeld=>?_);refine with_tabW r3_May.tab1 r3_May.bits1 (fun HT_ HW_=>?_);generalize w23.drew=w24 at BK101 HB hHeld ⊢;refine pu_ 0 3 rfl rfl HT_ ?_;refine t_ 1 4 rfl rfl HT_ HW_ hHeld ?_;refine on_ 2 (some 5) rfl rfl HT_ (fun K hK=>?_);refine gn_ Tryz.func72 (r2_May.calls _ _ _ A2.out) ?_;intro w25 hb;replace BK101:=kb_ BK101 hb;replace HB:=bs_ HB hb;(try clear hb);refine hk_ hK (fun hHeld=>?_);clear hK K;refine nm_ ?_;refine pu_ 3 6 rfl rfl HT_ ?_;refine pv_ 4 7 rfl rfl HT_ ?_;refine pv_ 5 8 rfl rfl HT_ ?_;refine pv_ 6 9 rfl rfl HT_ ?_;refine pu_ 7 10 rfl rfl HT_ ?_;refine pu_ 8 11 rfl rfl HT_ ?_;refine pv_ 9 12 rfl rfl HT_ ?_;refine pv_ 10 13 rfl rfl HT_ ?_;refine pv_ 11 14 rfl rfl HT_ ?_;refine pu_ 12 15 rfl rfl HT_ ?_;refine pu_ 13 16 rfl rfl HT_ ?_;refine pv_ 14 17 rfl rfl HT_ ?_;refine pv_ 15 18 rfl rfl HT_ ?_;refine pv_ 16 19 rfl rfl HT_ ?_;refine pv_ 17 20 rfl rfl HT_ ?_;refine pv_ 18 21 rfl rfl HT_ ?_;refine pv_ 19 22 rfl rfl HT_ ?_;refine pv_ 20 23 rfl rfl HT_ ?_;refine pu_ 21 24 rfl rfl HT_ ?_;refine pu_ 22 2 rfl rfl HT_ ?_;refine done_ (done_of HT_.out (by kernel_rfl)) ?_
  try go_wp2
  go_ret
  exact⟨er_,b_ HB.out⟩
mutual
def r3_Make.j0:Nat→ByteArray→ByteArray→Bool→Option (ByteArray×ByteArray×Bool)
 | 0,_,_,_=>none
 | k+1,x0,x1,x24=>if x24=true then (some ((⟨#[]⟩:ByteArray),(⟨#[]⟩:ByteArray),false)) else ((r2_Sign.f x1).bind fun t109=>(if t109<0 then ((r2_Neg.f x0).bind fun t110=>((r2_Neg.f x1).bind fun t111=>(r3_Make.j1 k t110 t111))) else (r3_Make.j1 k x0 x1)))
def r3_Make.j1:Nat→ByteArray→ByteArray→Option (ByteArray×ByteArray×Bool)
 | 0,_,_=>none
 | k+1,x0,x1=>(r2_Abs.f x0).bind fun t112=>((r1_Gcd.f t112 x1).bind fun t113=>((r2_Div.f x0 t113).bind fun bt114=>((r2_Div.f x1 t113).bind fun bt117=>(some (bt114.1,bt117.1,true)))))
end
def r3_Make.f (k:Nat) (a0 a1:ByteArray):Option (ByteArray×ByteArray×Bool):=(r2_May.f a0).bind fun t107=>(if t107=true then ((r2_May.f a1).bind fun t108=>(if t108=true then (r3_Make.j0 k a0 a1 (a1.toList == ([48]:List UInt8))) else (r3_Make.j0 k a0 a1 true))) else (r3_Make.j0 k a0 a1 true))
theorem r3_Make.calls (k:Nat) (a0 a1 r1 r2:ByteArray) (r3:Bool) (w:World) (h:r3_Make.f k a0 a1=some (r1,r2,r3)) :
  Calls Tryz.prog 39 #[.string a0,.string a1] w fun e w'=>e=.returned (.tuple #[.agg #[.string r1,.string r2],.bool r3])∧Below w.heap.size w w':=by
 have hu23:=Tryz.underlying23;have HB:=ak_ (Below.refl w.heap.size w);have H:=h;unfold r3_Make.f at H;clear h;have HC3:=ak_ H;clear H;go_in
 go_upto_region 1 with (first|(refine bf_ 4 #[.string ⟨#[]⟩,.string ⟨#[]⟩] 23 HB ?_;clear HB;intro gb106 w4 BK106 GW106 HB))
 (try simp only[Act.put,List.setIfInBounds_toArray,List.set_cons_zero,List.set_cons_succ])
 go_cut [24] (fun v24 wc=>∃ (kq:Nat) (x24_2:Bool),v24=.bool x24_2∧Aside0 (r3_Make.j0 kq a0 a1 x24_2=some (r1,r2,r3))∧Aside0 (kq≤k)∧Aside0 (wc.heap[gb106]?=some (.cells #[.string ⟨#[]⟩,.string ⟨#[]⟩] 23 (0,0)))∧Aside0 (Below w.heap.size w wc))
 case first =>
  have H:=HC3.out;clear HC3;replace H:=bi_ H;obtain⟨t107,A5,H⟩:=H;replace H:=bt_ H;rcases H with ⟨rfl,H⟩|⟨rfl,H⟩
  ·replace H:=bi_ H;obtain⟨t108,A7,H⟩:=H;replace H:=bt_ H;rcases H with ⟨rfl,H⟩|⟨rfl,H⟩
   ·have H':=ak_ H;clear H
    go_wp2_with (first|(refine gm_ 14 Tryz.func72 (r2_May.calls _ _ _ A5.out) ?_;intro w9 hb;replace BK106:=kb_ BK106 hb;replace HB:=bs_ HB hb;(try clear hb))|(go_at_call 72;(with_reducible refine(r2_May.calls _ _ _ A7.out).mono ?_);rintro e w10 ⟨rfl,hb⟩;replace BK106:=kb_ BK106 hb;replace HB:=bs_ HB hb;(try clear hb)))
    go_meet
    case rel=>exact⟨_,((a1.toList == ([48]:List UInt8))),rl_,H',⟨nk_⟩,⟨k_ BK106.out⟩,⟨b_ HB.out⟩⟩
   ·have H':=ak_ H;clear H
    go_wp2_with (first|(refine gm_ 14 Tryz.func72 (r2_May.calls _ _ _ A5.out) ?_;intro w11 hb;replace BK106:=kb_ BK106 hb;replace HB:=bs_ HB hb;(try clear hb))|(go_at_call 72;(with_reducible refine(r2_May.calls _ _ _ A7.out).mono ?_);rintro e w12 ⟨rfl,hb⟩;replace BK106:=kb_ BK106 hb;replace HB:=bs_ HB hb;(try clear hb)))
    go_meet
    case rel=>exact⟨_,(true),rl_,H',⟨nk_⟩,⟨k_ BK106.out⟩,⟨b_ HB.out⟩⟩
  ·have H':=ak_ H;clear H
   go_wp2_with ((refine gm_ 14 Tryz.func72 (r2_May.calls _ _ _ A5.out) ?_;intro w13 hb;replace BK106:=kb_ BK106 hb;replace HB:=bs_ HB hb;(try clear hb)))
   go_meet
   case rel=>exact⟨_,(true),rl_,H',⟨nk_⟩,⟨k_ BK106.out⟩,⟨b_ HB.out⟩⟩
 case rest =>
  clear HC3;obtain⟨kq,x24_2,rfl,HA,HJ2,BK106,HB⟩:=hcut
  cases kq with
  | zero=>exact absurd HA.out (by simp[r3_Make.j0])
  | succ kj2 =>
   have H:=HA.out;clear HA;simp only[r3_Make.j0] at H;replace H:=bt_ H;rcases H with ⟨rfl,H⟩|⟨rfl,H⟩
   ·replace H:=pi3_ H;obtain⟨rfl,rfl,rfl⟩:=H;have hz15:=cs2_ BK106;go_wp2;refine bodyPost_ret (results_ct rfl _ _ gb106 23 #[.string ⟨#[]⟩,.string ⟨#[]⟩] (0,0) _ rfl (rp_ BK106.out) Tryz.underlying23 rfl (by kernel_rfl)) rfl ?_;exact⟨er_,b_ HB.out⟩
   ·replace H:=bi_ H;obtain⟨t109,A16,H⟩:=H;have HC17:=ak_ H;clear H
    go_upto_if 28 with (first|(refine gm_ 27 Tryz.func73 (r2_Sign.calls _ _ _ A16.out) ?_;intro w18 hb;replace BK106:=kb_ BK106 hb;replace HB:=bs_ HB hb;(try clear hb)))
    (try simp only[Act.put,List.setIfInBounds_toArray,List.set_cons_zero,List.set_cons_succ])
    go_cut [0,1] (fun v0 v1 wc=>∃ (kq:Nat) (x0_16 x1_16:ByteArray),v0=.string x0_16∧v1=.string x1_16∧Aside0 (r3_Make.j1 kq x0_16 x1_16=some (r1,r2,r3))∧Aside0 (kq≤kj2)∧Aside0 (wc.heap[gb106]?=some (.cells #[.string ⟨#[]⟩,.string ⟨#[]⟩] 23 (0,0)))∧Aside0 (Below w.heap.size w wc))
    case first =>
     have H:=HC17.out;clear HC17;replace H:=bw_ H;rcases H with ⟨c19,H⟩|⟨c19,H⟩
     ·have c19b0:=dt_ c19;clear c19;(first|rw[c19b0]|(simp only[i64_w,i32_w];rw[c19b0])|skip);replace H:=bi_ H;obtain⟨t110,A20,H⟩:=H;replace H:=bi_ H;obtain⟨t111,A21,H⟩:=H;have H':=ak_ H;clear H
      go_wp2_with (first|(refine gm_ 30 Tryz.func50 (r2_Neg.calls _ _ _ A20.out) ?_;intro w22 hb;replace BK106:=kb_ BK106 hb;replace HB:=bs_ HB hb;(try clear hb))|(refine gm_ 32 Tryz.func50 (r2_Neg.calls _ _ _ A21.out) ?_;intro w23 hb;replace BK106:=kb_ BK106 hb;replace HB:=bs_ HB hb;(try clear hb)))
      go_meet
      case rel=>exact⟨_,(t110),(t111),rl_,rl_,H',⟨by have:=HJ2.out;first|omega|exact nr_ _⟩,⟨k_ BK106.out⟩,⟨b_ HB.out⟩⟩
     ·have c19b0:=df_ c19;clear c19;(first|rw[c19b0]|(simp only[i64_w,i32_w];rw[c19b0])|skip);have H':=ak_ H;clear H;go_wp2
      go_meet
      case rel=>exact⟨_,(a0),(a1),rl_,rl_,H',⟨by have:=HJ2.out;first|omega|exact nr_ _⟩,⟨k_ BK106.out⟩,⟨b_ HB.out⟩⟩
    case rest =>
     clear HC17;obtain⟨kq,x0_16,x1_16,rfl,rfl,HA,HJ16,BK106,HB⟩:=hcut
     cases kq with
     | zero=>exact absurd HA.out (by simp[r3_Make.j1])
     | succ kj16 =>
      have H:=HA.out;clear HA;simp only[r3_Make.j1] at H;replace H:=bi_ H;obtain⟨t112,A24,H⟩:=H;replace H:=bi_ H;obtain⟨t113,A25,H⟩:=H;replace H:=bi_ H;obtain⟨⟨t114,t115,t116⟩,A26,H⟩:=H;(try dsimp only at H);replace H:=bi_ H;obtain⟨⟨t117,t118,t119⟩,A27,H⟩:=H;(try dsimp only at H);replace H:=pi3_ H;obtain⟨rfl,rfl,rfl⟩:=H
      go_wp2_with (first|(refine gm_ 34 Tryz.func70 (r2_Abs.calls _ _ _ A24.out) ?_;intro w28 hb;replace BK106:=kb_ BK106 hb;replace HB:=bs_ HB hb;(try clear hb))|(refine gm_ 36 Tryz.func74 (r1_Gcd.calls _ _ _ _ A25.out) ?_;intro w29 hb;replace BK106:=kb_ BK106 hb;replace HB:=bs_ HB hb;(try clear hb))|(refine gm_ 40 Tryz.func75 (r2_Div.calls _ _ _ _ _ _ A26.out) ?_;intro w30 hb;replace BK106:=kb_ BK106 hb;replace HB:=bs_ HB hb;(try clear hb))|(refine gm_ 47 Tryz.func75 (r2_Div.calls _ _ _ _ _ _ A27.out) ?_;intro w31 hb;replace BK106:=kb_ BK106 hb;replace HB:=bs_ HB hb;(try clear hb);have hz32:=cs2_ BK106))
      refine bodyPost_ret (results_ct rfl _ _ gb106 23 #[.string t114,.string t117] (0,0) _ rfl (rp_ BK106.out) Tryz.underlying23 rfl (by kernel_rfl)) rfl ?_;exact⟨er_,b_ HB.out⟩
def r3_Of.f (a0:Int):Option (ByteArray×ByteArray):=(r2_Of.f a0).bind fun t121=>(some (t121,(⟨#[49]⟩:ByteArray)))
theorem r3_Of.calls (a0:Int) (r1 r2:ByteArray) (w:World) (h:r3_Of.f a0=some (r1,r2)) :
  Calls Tryz.prog 15 #[.int .i64 a0] w fun e w'=>e=.returned (.agg #[.string r1,.string r2])∧Below w.heap.size w w':=by
 have hu23:=Tryz.underlying23;have HB:=ak_ (Below.refl w.heap.size w);have H:=h;unfold r3_Of.f at H;clear h;replace H:=bi_ H;obtain⟨t121,A2,H⟩:=H;replace H:=pi2_ H;obtain⟨rfl,rfl⟩:=H;go_in
 go_wp2_with (first|(refine bf_ 2 #[.string ⟨#[]⟩,.string ⟨#[]⟩] 23 HB ?_;clear HB;intro gb120 w3 BK120 GW120 HB)|(refine gm_ 4 Tryz.func38 (r2_Of.calls _ _ _ A2.out) ?_;intro w4 hb;replace BK120:=kb_ BK120 hb;replace HB:=bs_ HB hb;(try clear hb);have hz5:=cs2_ BK120))
 refine bodyPost_ret (results_cell_row rfl _ _ gb120 23 #[.string t121,.string ⟨#[49]⟩] (0,0) _ rfl (rp_ BK120.out) Tryz.underlying23 rfl (by kernel_rfl)) rfl ?_;exact⟨er_,b_ HB.out⟩
def r3_Sign.f (a0_0 a0_1:ByteArray):Option (Int):=(r3_May.f a0_0 a0_1).bind fun t123=>(if t123=true then ((r2_Sign.f a0_0).bind fun t124=>(some t124)) else (some 0))
theorem r3_Sign.calls (a0_0 a0_1:ByteArray) (r:Int) (w:World) (h:r3_Sign.f a0_0 a0_1=some r) :
  Calls Tryz.prog 56 #[.agg #[.string a0_0,.string a0_1]] w fun e w'=>e=.returned (.int .i64 r)∧Below w.heap.size w w':=by
 have hu23:=Tryz.underlying23;have HB:=ak_ (Below.refl w.heap.size w);have H:=h;unfold r3_Sign.f at H;clear h;replace H:=bi_ H;obtain⟨t123,A2,H⟩:=H;replace H:=bt_ H;rcases H with ⟨rfl,H⟩|⟨rfl,H⟩
 ·replace H:=bi_ H;obtain⟨t124,A4,H⟩:=H;obtain rfl:=oi_ H;go_in
  go_wp2_with (first|(refine bf_ 1 #[.string a0_0,.string a0_1] 23 HB ?_;clear HB;intro gb122 w5 BK122 GW122 HB;have hz6:=cs2_ BK122)|(refine gm_ 4 Tryz.func55 (r3_May.calls _ _ _ _ A2.out) ?_;intro w7 hb;replace BK122:=kb_ BK122 hb;replace HB:=bs_ HB hb;(try clear hb);have hz8:=cs2_ BK122)|(refine gm_ 8 Tryz.func73 (r2_Sign.calls _ _ _ A4.out) ?_;intro w9 hb;replace BK122:=kb_ BK122 hb;replace HB:=bs_ HB hb;(try clear hb)))
  go_ret
  exact⟨er_,b_ HB.out⟩
 ·obtain rfl:=oi_ H;go_in
  go_wp2_with (first|(refine bf_ 1 #[.string a0_0,.string a0_1] 23 HB ?_;clear HB;intro gb122 w10 BK122 GW122 HB;have hz11:=cs2_ BK122)|(refine gm_ 4 Tryz.func55 (r3_May.calls _ _ _ _ A2.out) ?_;intro w12 hb;replace BK122:=kb_ BK122 hb;replace HB:=bs_ HB hb;(try clear hb)))
  go_ret
  exact⟨er_,b_ HB.out⟩
def r3_Mul.j0:Nat→Bool→ByteArray→ByteArray→ByteArray→ByteArray→Option (ByteArray×ByteArray)
 | 0,_,_,_,_,_=>none
 | k+1,x14,x126000,x126001,x127000,x127001=>if x14=true then (some ((⟨#[]⟩:ByteArray),(⟨#[]⟩:ByteArray))) else ((r2_Mul.f x126000 x127000).bind fun t130=>((r1_Mul.f x126001 x127001).bind fun t131=>((r3_Make.f k t130 t131).bind fun bt132=>(some (bt132.1,bt132.2.1)))))
def r3_Mul.f (k:Nat) (a0_0 a0_1 a1_0 a1_1:ByteArray):Option (ByteArray×ByteArray):=(r3_May.f a0_0 a0_1).bind fun t128=>(if t128=true then ((r3_May.f a1_0 a1_1).bind fun t129=>(r3_Mul.j0 k (!t129) a0_0 a0_1 a1_0 a1_1)) else (r3_Mul.j0 k true a0_0 a0_1 a1_0 a1_1))
def r3_Mul.T3:Bool×List (List Nat×List Nat):=(true,[([],[]),([0],[0]),([],[]),([2],[2]),([1,3],[1,3]),([],[]),([5],[5]),([],[]),([7],[7]),([6,8,4],[6,8]),([4,9,9],[4,9]),([10],[10]),([11],[11]),([11],[11]),([],[]),([14,12,10,0,1,2,3,4,5,6,7,8,9,10,11,12,14],[12,14]),([13,15,0,1,2,3,4,5,6,7,8,9,10,11,12,13,14,15],[13])])
def r3_Mul.B3:List Nat:=[0,1,0,4,15,0,32,0,128,511,1023,2047,4095,4095,0,24575,65535]
theorem r3_Mul.tab3:rtab .any (opsOf Tryz.f69 3)=r3_Mul.T3:=by kernel_rfl
theorem r3_Mul.bits3:waitsOk r3_Mul.T3.2 r3_Mul.B3=true:=by kernel_rfl
theorem r3_Mul.calls (k:Nat) (a0_0 a0_1 a1_0 a1_1 r1 r2:ByteArray) (w:World) (h:r3_Mul.f k a0_0 a0_1 a1_0 a1_1=some (r1,r2)) :
  Calls Tryz.prog 69 #[.agg #[.string a0_0,.string a0_1],.agg #[.string a1_0,.string a1_1]] w fun e w'=>e=.returned (.agg #[.string r1,.string r2])∧Below w.heap.size w w':=by
 have hu23:=Tryz.underlying23;have HB:=ak_ (Below.refl w.heap.size w);have H:=h;unfold r3_Mul.f at H;clear h;have HC3:=ak_ H;clear H;go_in
 go_upto_region 1 with (first|(refine bf_ 2 #[.string a0_0,.string a0_1] 23 HB ?_;clear HB;intro gb125 w4 BK125 GW125 HB)|(refine bg_ 3 #[.string a1_0,.string a1_1] 23 HB ?_;clear HB;intro gb126 w5 hg hb BK126 GW126 HB;have NB125_126:=nl_ BK125 hg;have NB126_125:=ng_ BK125 hg;replace BK125:=kb_ BK125 hb;clear hb hg)|(refine bg_ 4 #[.string ⟨#[]⟩,.string ⟨#[]⟩] 23 HB ?_;clear HB;intro gb127 w6 hg hb BK127 GW127 HB;have NB125_127:=nl_ BK125 hg;have NB127_125:=ng_ BK125 hg;have NB126_127:=nl_ BK126 hg;have NB127_126:=ng_ BK126 hg;replace BK125:=kb_ BK125 hb;replace BK126:=kb_ BK126 hb;clear hb hg))
 (try simp only[Act.put,List.setIfInBounds_toArray,List.set_cons_zero,List.set_cons_succ])
 go_cut [14] (fun v14 wc=>∃ (kq:Nat) (x14_2:Bool),v14=.bool x14_2∧Aside0 (r3_Mul.j0 kq x14_2 a0_0 a0_1 a1_0 a1_1=some (r1,r2))∧Aside0 (kq≤k)∧Aside0 (wc.heap[gb125]?=some (.cells #[.string a0_0,.string a0_1] 23 (0,0)))∧Aside0 (wc.heap[gb126]?=some (.cells #[.string a1_0,.string a1_1] 23 (0,0)))∧Aside0 (wc.heap[gb127]?=some (.cells #[.string ⟨#[]⟩,.string ⟨#[]⟩] 23 (0,0)))∧Aside0 (Below w.heap.size w wc))
 case first =>
  have H:=HC3.out;clear HC3;replace H:=bi_ H;obtain⟨t128,A7,H⟩:=H;replace H:=bt_ H;rcases H with ⟨rfl,H⟩|⟨rfl,H⟩
  ·replace H:=bi_ H;obtain⟨t129,A9,H⟩:=H;have H':=ak_ H;clear H;have hnb10:=NB125_126.out;have hnc10:=NB126_125.out;have hnb11:=NB125_127.out;have hnc11:=NB127_125.out;have hz12:=cs2_ BK125
   go_wp2_with (first|(refine gm_ 8 Tryz.func55 (r3_May.calls _ _ _ _ A7.out) ?_;intro w13 hb;replace BK125:=kb_ BK125 hb;replace BK126:=kb_ BK126 hb;replace BK127:=kb_ BK127 hb;replace HB:=bs_ HB hb;(try clear hb);have hnb14:=NB126_127.out;have hnc14:=NB127_126.out;have hz15:=cs2_ BK126)|(go_at_call 55;(with_reducible refine(r3_May.calls _ _ _ _ A9.out).mono ?_);rintro e w16 ⟨rfl,hb⟩;replace BK125:=kb_ BK125 hb;replace BK126:=kb_ BK126 hb;replace BK127:=kb_ BK127 hb;replace HB:=bs_ HB hb;(try clear hb)))
   go_meet
   case rel=>exact⟨_,(!t129),rl_,H',⟨nk_⟩,⟨k_ BK125.out⟩,⟨k_ BK126.out⟩,⟨k_ BK127.out⟩,⟨b_ HB.out⟩⟩
  ·have H':=ak_ H;clear H;have hnb17:=NB125_126.out;have hnc17:=NB126_125.out;have hnb18:=NB125_127.out;have hnc18:=NB127_125.out;have hz19:=cs2_ BK125
   go_wp2_with ((refine gm_ 8 Tryz.func55 (r3_May.calls _ _ _ _ A7.out) ?_;intro w20 hb;replace BK125:=kb_ BK125 hb;replace BK126:=kb_ BK126 hb;replace BK127:=kb_ BK127 hb;replace HB:=bs_ HB hb;(try clear hb)))
   go_meet
   case rel=>exact⟨_,(true),rl_,H',⟨nk_⟩,⟨k_ BK125.out⟩,⟨k_ BK126.out⟩,⟨k_ BK127.out⟩,⟨b_ HB.out⟩⟩
 case rest =>
  clear HC3;obtain⟨kq,x14_2,rfl,HA,HJ2,BK125,BK126,BK127,HB⟩:=hcut
  cases kq with
  | zero=>exact absurd HA.out (by simp[r3_Mul.j0])
  | succ kj2 =>
   have H:=HA.out;clear HA;simp only[r3_Mul.j0] at H;replace H:=bt_ H;rcases H with ⟨rfl,H⟩|⟨rfl,H⟩
   ·replace H:=pi2_ H;obtain⟨rfl,rfl⟩:=H;have hnb22:=NB127_125.out;have hnc22:=NB125_127.out;have hnb23:=NB127_126.out;have hnc23:=NB126_127.out;have hz24:=cs2_ BK127;go_wp2;refine bodyPost_ret (results_cell_row rfl _ _ gb127 23 #[.string ⟨#[]⟩,.string ⟨#[]⟩] (0,0) _ rfl (rp_ BK127.out) Tryz.underlying23 rfl (by kernel_rfl)) rfl ?_;exact⟨er_,b_ HB.out⟩
   ·replace H:=bi_ H;obtain⟨t130,A25,H⟩:=H;replace H:=bi_ H;obtain⟨t131,A26,H⟩:=H;replace H:=bi_ H;obtain⟨⟨t132,t133,t134⟩,A27,H⟩:=H;(try dsimp only at H);replace H:=pi2_ H;obtain⟨rfl,rfl⟩:=H
    try go_wp2
    replace BK125:=ak_ (blk_drew BK125.out);replace BK126:=ak_ (blk_drew BK126.out);replace BK127:=ak_ (blk_drew BK127.out);replace HB:=ak_ (below_drew1 HB.out);refine sa_ 17 (fun w'=>w'.cell? ⟨gb125,0,none⟩=some (.string a0_0)∧w'.cell? ⟨gb125,1,none⟩=some (.string a0_1)∧w'.cell? ⟨gb126,0,none⟩=some (.string a1_0)∧w'.cell? ⟨gb126,1,none⟩=some (.string a1_1)) (fun hHeld=>?_);refine with_tabW r3_Mul.tab3 r3_Mul.bits3 (fun HT_ HW_=>?_);generalize wc.drew=w28 at BK125 BK126 BK127 HB hHeld ⊢;refine pu_ 0 17 rfl rfl HT_ ?_;refine pu_ 2 19 rfl rfl HT_ ?_;refine pu_ 5 22 rfl rfl HT_ ?_;refine pu_ 7 24 rfl rfl HT_ ?_;refine t_ 1 18 rfl rfl HT_ HW_ hHeld ?_;refine t_ 3 20 rfl rfl HT_ HW_ hHeld ?_;refine t_ 6 23 rfl rfl HT_ HW_ hHeld ?_;refine t_ 8 25 rfl rfl HT_ HW_ hHeld ?_;refine join_ (σ:=Nat) 2 #[true,true,true,true,true,true,true,true,true,true,true,true,true,true,true,false,false] (fun s_=>[(21,.string t130),(26,.string t131),(27,.tuple #[.agg #[.string t132,.string t133],.bool t134]),(5,.pointer (some ⟨s_,0,none⟩)),(16,.tuple #[.agg #[.string t132,.string t133],.bool t134]),(28,.agg #[.string t132,.string t133]),(29,.bool t134)]) (fun s_ w'=>(w'.cell? ⟨gb125,0,none⟩=some (.string a0_0)∧w'.cell? ⟨gb125,1,none⟩=some (.string a0_1)∧w'.cell? ⟨gb126,0,none⟩=some (.string a1_0)∧w'.cell? ⟨gb126,1,none⟩=some (.string a1_1))∧(w'.heap[gb125]?=some (.cells #[.string a0_0,.string a0_1] 23 (0,0)))∧(w'.heap[gb126]?=some (.cells #[.string a1_0,.string a1_1] 23 (0,0)))∧(w'.heap[gb127]?=some (.cells #[.string ⟨#[]⟩,.string ⟨#[]⟩] 23 (0,0)))∧(w'.heap[s_]?=some (.cells #[.string ⟨#[]⟩,.string ⟨#[]⟩] 23 (0,0)))∧(w.heap.size≤s_)∧(w.heap.size≤s_)∧(gb125≠s_)∧(s_≠gb125)∧(gb126≠s_)∧(s_≠gb126)∧(gb127≠s_)∧(s_≠gb127)∧(Below w.heap.size w w')) ?_ ?_;rotate_left
    ·intro hCont;refine two_ (i:=4) (j:=14) (Ni:=some 21) (Nj:=some 5) #[true,true,true,true,true,true,true,true,true,false,false,false,false,false,false,false,false] #[true,true,true,true,false,true,true,true,true,false,false,false,false,false,true,false,false] rfl rfl rfl rfl (two_of HT_.out (by kernel_rfl)) (by decide) (by decide) (fun K hK=>?_) (fun K hK=>?_)
     ·skip;refine gn_ Tryz.func113 (r2_Mul.calls _ _ _ _ A25.out) ?_;intro w29 hb;replace BK125:=kb_ BK125 hb;replace BK126:=kb_ BK126 hb;replace BK127:=kb_ BK127 hb;replace HB:=bs_ HB hb;(try clear hb);refine hk_ hK (fun hHeld=>?_);clear hK K;refine nm_ ?_;refine two_ (i:=9) (j:=14) (Ni:=some 26) (Nj:=some 5) #[true,true,true,true,true,true,true,true,true,true,false,false,false,false,false,false,false] #[true,true,true,true,true,true,true,true,true,false,false,false,false,false,true,false,false] rfl rfl rfl rfl (two_of HT_.out (by kernel_rfl)) (by decide) (by decide) (fun K hK=>?_) (fun K hK=>?_)
      ·skip;refine gn_ Tryz.func114 (r1_Mul.calls _ _ _ _ A26.out) ?_;intro w30 hb;replace BK125:=kb_ BK125 hb;replace BK126:=kb_ BK126 hb;replace BK127:=kb_ BK127 hb;replace HB:=bs_ HB hb;(try clear hb);refine hk_ hK (fun hHeld=>?_);clear hK K;refine nm_ ?_;refine two_ (i:=10) (j:=14) (Ni:=some 27) (Nj:=some 5) #[true,true,true,true,true,true,true,true,true,true,true,false,false,false,false,false,false] #[true,true,true,true,true,true,true,true,true,true,false,false,false,false,true,false,false] rfl rfl rfl rfl (two_of HT_.out (by kernel_rfl)) (by decide) (by decide) (fun K hK=>?_) (fun K hK=>?_)
       ·skip;refine gn_ Tryz.func39 (r3_Make.calls _ _ _ _ _ _ _ A27.out) ?_;intro w31 hb;replace BK125:=kb_ BK125 hb;replace BK126:=kb_ BK126 hb;replace BK127:=kb_ BK127 hb;replace HB:=bs_ HB hb;(try clear hb);refine hk_ hK (fun hHeld=>?_);clear hK K;refine nm_ ?_;refine pu_ 11 16 rfl rfl HT_ ?_;refine pu_ 12 28 rfl rfl HT_ ?_;refine pu_ 13 29 rfl rfl HT_ ?_;refine on_ 14 (some 5) rfl rfl HT_ (fun K hK=>?_);refine box_step ?hg (N:=5) ?hd (cs:=#[.string ⟨#[]⟩,.string ⟨#[]⟩]) (t:=23) ?hr ?_;(case hd=>rfl);(case hg=>rfl);(case hr=>first|(go_simp;done)|(go_simp;rfl));intro gb135 hg w32 hbox hb;have BK135:=ak_ (hbox);have GW135:=ge_ HB hg;have GE135:=ge_ HB hg;have NB125_135:=nl_ BK125 hg;have NB135_125:=ng_ BK125 hg;have NB126_135:=nl_ BK126 hg;have NB135_126:=ng_ BK126 hg;have NB127_135:=nl_ BK127 hg;have NB135_127:=ng_ BK127 hg;replace BK125:=kb_ BK125 hb;replace BK126:=kb_ BK126 hb;replace BK127:=kb_ BK127 hb;replace HB:=bs_ HB hb;clear hb hbox hg;refine hk_ hK (fun hHeld=>?_);clear hK K;refine nm_ ?_;exact norm_ pa_ (hCont (gb135) _ ⟨hHeld,(k_ BK125.out),(k_ BK126.out),(k_ BK127.out),(k_ BK135.out),GW135.out,GE135.out,NB125_135.out,NB135_125.out,NB126_135.out,NB135_126.out,NB127_135.out,NB135_127.out,(b_ HB.out)⟩)
       ·skip;refine box_step ?hg (N:=5) ?hd (cs:=#[.string ⟨#[]⟩,.string ⟨#[]⟩]) (t:=23) ?hr ?_;(case hd=>rfl);(case hg=>rfl);(case hr=>first|(go_simp;done)|(go_simp;rfl));intro gb135 hg w31 hbox hb;have BK135:=ak_ (hbox);have GW135:=ge_ HB hg;have GE135:=ge_ HB hg;have NB125_135:=nl_ BK125 hg;have NB135_125:=ng_ BK125 hg;have NB126_135:=nl_ BK126 hg;have NB135_126:=ng_ BK126 hg;have NB127_135:=nl_ BK127 hg;have NB135_127:=ng_ BK127 hg;replace BK125:=kb_ BK125 hb;replace BK126:=kb_ BK126 hb;replace BK127:=kb_ BK127 hb;replace HB:=bs_ HB hb;clear hb hbox hg;refine hk_ hK (fun hHeld=>?_);clear hK K;refine nm_ ?_;refine on_ 10 (some 27) rfl rfl HT_ (fun K hK=>?_);refine gn_ Tryz.func39 (r3_Make.calls _ _ _ _ _ _ _ A27.out) ?_;intro w32 hb;replace BK125:=kb_ BK125 hb;replace BK126:=kb_ BK126 hb;replace BK127:=kb_ BK127 hb;replace BK135:=kb_ BK135 hb;replace HB:=bs_ HB hb;(try clear hb);refine hk_ hK (fun hHeld=>?_);clear hK K;refine nm_ ?_;refine pu_ 11 16 rfl rfl HT_ ?_;refine pu_ 12 28 rfl rfl HT_ ?_;refine pu_ 13 29 rfl rfl HT_ ?_;exact norm_ pa_ (hCont (gb135) _ ⟨hHeld,(k_ BK125.out),(k_ BK126.out),(k_ BK127.out),(k_ BK135.out),GW135.out,GE135.out,NB125_135.out,NB135_125.out,NB126_135.out,NB135_126.out,NB127_135.out,NB135_127.out,(b_ HB.out)⟩)
      ·skip;refine box_step ?hg (N:=5) ?hd (cs:=#[.string ⟨#[]⟩,.string ⟨#[]⟩]) (t:=23) ?hr ?_;(case hd=>rfl);(case hg=>rfl);(case hr=>first|(go_simp;done)|(go_simp;rfl));intro gb135 hg w30 hbox hb;have BK135:=ak_ (hbox);have GW135:=ge_ HB hg;have GE135:=ge_ HB hg;have NB125_135:=nl_ BK125 hg;have NB135_125:=ng_ BK125 hg;have NB126_135:=nl_ BK126 hg;have NB135_126:=ng_ BK126 hg;have NB127_135:=nl_ BK127 hg;have NB135_127:=ng_ BK127 hg;replace BK125:=kb_ BK125 hb;replace BK126:=kb_ BK126 hb;replace BK127:=kb_ BK127 hb;replace HB:=bs_ HB hb;clear hb hbox hg;refine hk_ hK (fun hHeld=>?_);clear hK K;refine nm_ ?_;refine on_ 9 (some 26) rfl rfl HT_ (fun K hK=>?_);refine gn_ Tryz.func114 (r1_Mul.calls _ _ _ _ A26.out) ?_;intro w31 hb;replace BK125:=kb_ BK125 hb;replace BK126:=kb_ BK126 hb;replace BK127:=kb_ BK127 hb;replace BK135:=kb_ BK135 hb;replace HB:=bs_ HB hb;(try clear hb);refine hk_ hK (fun hHeld=>?_);clear hK K;refine nm_ ?_;refine on_ 10 (some 27) rfl rfl HT_ (fun K hK=>?_);refine gn_ Tryz.func39 (r3_Make.calls _ _ _ _ _ _ _ A27.out) ?_;intro w32 hb;replace BK125:=kb_ BK125 hb;replace BK126:=kb_ BK126 hb;replace BK127:=kb_ BK127 hb;replace BK135:=kb_ BK135 hb;replace HB:=bs_ HB hb;(try clear hb);refine hk_ hK (fun hHeld=>?_);clear hK K;refine nm_ ?_;refine pu_ 11 16 rfl rfl HT_ ?_;refine pu_ 12 28 rfl rfl HT_ ?_;refine pu_ 13 29 rfl rfl HT_ ?_;exact norm_ pa_ (hCont (gb135) _ ⟨hHeld,(k_ BK125.out),(k_ BK126.out),(k_ BK127.out),(k_ BK135.out),GW135.out,GE135.out,NB125_135.out,NB135_125.out,NB126_135.out,NB135_126.out,NB127_135.out,NB135_127.out,(b_ HB.out)⟩)
     ·skip;refine box_step ?hg (N:=5) ?hd (cs:=#[.string ⟨#[]⟩,.string ⟨#[]⟩]) (t:=23) ?hr ?_;(case hd=>rfl);(case hg=>rfl);(case hr=>first|(go_simp;done)|(go_simp;rfl));intro gb135 hg w29 hbox hb;have BK135:=ak_ (hbox);have GW135:=ge_ HB hg;have GE135:=ge_ HB hg;have NB125_135:=nl_ BK125 hg;have NB135_125:=ng_ BK125 hg;have NB126_135:=nl_ BK126 hg;have NB135_126:=ng_ BK126 hg;have NB127_135:=nl_ BK127 hg;have NB135_127:=ng_ BK127 hg;replace BK125:=kb_ BK125 hb;replace BK126:=kb_ BK126 hb;replace BK127:=kb_ BK127 hb;replace HB:=bs_ HB hb;clear hb hbox hg;refine hk_ hK (fun hHeld=>?_);clear hK K;refine nm_ ?_;refine on_ 4 (some 21) rfl rfl HT_ (fun K hK=>?_);refine gn_ Tryz.func113 (r2_Mul.calls _ _ _ _ A25.out) ?_;intro w30 hb;replace BK125:=kb_ BK125 hb;replace BK126:=kb_ BK126 hb;replace BK127:=kb_ BK127 hb;replace BK135:=kb_ BK135 hb;replace HB:=bs_ HB hb;(try clear hb);refine hk_ hK (fun hHeld=>?_);clear hK K;refine nm_ ?_;refine on_ 9 (some 26) rfl rfl HT_ (fun K hK=>?_);refine gn_ Tryz.func114 (r1_Mul.calls _ _ _ _ A26.out) ?_;intro w31 hb;replace BK125:=kb_ BK125 hb;replace BK126:=kb_ BK126 hb;replace BK127:=kb_ BK127 hb;replace BK135:=kb_ BK135 hb;replace HB:=bs_ HB hb;(try clear hb);refine hk_ hK (fun hHeld=>?_);clear hK K;refine nm_ ?_;refine on_ 10 (some 27) rfl rfl HT_ (fun K hK=>?_);refine gn_ Tryz.func39 (r3_Make.calls _ _ _ _ _ _ _ A27.out) ?_;intro w32 hb;replace BK125:=kb_ BK125 hb;replace BK126:=kb_ BK126 hb;replace BK127:=kb_ BK127 hb;replace BK135:=kb_ BK135 hb;replace HB:=bs_ HB hb;(try clear hb);refine hk_ hK (fun hHeld=>?_);clear hK K;refine nm_ ?_;refine pu_ 11 16 rfl rfl HT_ ?_;refine pu_ 12 28 rfl rfl HT_ ?_;refine pu_ 13 29 rfl rfl HT_ ?_;exact norm_ pa_ (hCont (gb135) _ ⟨hHeld,(k_ BK125.out),(k_ BK126.out),(k_ BK127.out),(k_ BK135.out),GW135.out,GE135.out,NB125_135.out,NB135_125.out,NB126_135.out,NB135_126.out,NB127_135.out,NB135_127.out,(b_ HB.out)⟩)
    rintro gb135 w33 ⟨hS_,h0_,h1_,h2_,h3_,h4_,h5_,h6_,h7_,h8_,h9_,h10_,h11_,h12_⟩;have n0_:Aside0 (w33.heap[gb125]?=some (.cells #[.string a0_0,.string a0_1] 23 (0,0))):=⟨h0_⟩;have n1_:Aside0 (w33.heap[gb126]?=some (.cells #[.string a1_0,.string a1_1] 23 (0,0))):=⟨h1_⟩;have n2_:Aside0 (w33.heap[gb127]?=some (.cells #[.string ⟨#[]⟩,.string ⟨#[]⟩] 23 (0,0))):=⟨h2_⟩;have n3_:Aside0 (w33.heap[gb135]?=some (.cells #[.string ⟨#[]⟩,.string ⟨#[]⟩] 23 (0,0))):=⟨h3_⟩;have n4_:Aside0 (w.heap.size≤gb135):=⟨h4_⟩;have n5_:Aside0 (w.heap.size≤gb135):=⟨h5_⟩;have n6_:Aside0 (gb125≠gb135):=⟨h6_⟩;have n7_:Aside0 (gb135≠gb125):=⟨h7_⟩;have n8_:Aside0 (gb126≠gb135):=⟨h8_⟩;have n9_:Aside0 (gb135≠gb126):=⟨h9_⟩;have n10_:Aside0 (gb127≠gb135):=⟨h10_⟩;have n11_:Aside0 (gb135≠gb127):=⟨h11_⟩;have n12_:Aside0 (Below w.heap.size w w33):=⟨h12_⟩;clear BK125;clear BK126;clear BK127;clear HB;clear h0_ h1_ h2_ h3_ h4_ h5_ h6_ h7_ h8_ h9_ h10_ h11_ h12_;have BK125:=n0_;have BK126:=n1_;have BK127:=n2_;have BK135:=n3_;have GW135:=n4_;have GE135:=n5_;have NB125_135:=n6_;have NB135_125:=n7_;have NB126_135:=n8_;have NB135_126:=n9_;have NB127_135:=n10_;have NB135_127:=n11_;have HB:=n12_;clear n0_ n1_ n2_ n3_ n4_ n5_ n6_ n7_ n8_ n9_ n10_ n11_ n12_;have hHeld:w33.cell? ⟨gb125,0,none⟩=some (.string a0_0)∧w33.cell? ⟨gb125,1,none⟩=some (.string a0_1)∧w33.cell? ⟨gb126,0,none⟩=some (.string a1_0)∧w33.cell? ⟨gb126,1,none⟩=some (.string a1_1):=hS_;refine norm_ (a':=?_) ?_ ?_;rotate_left
    ·simp only[putAll,Act.put,List.setIfInBounds_toArray,List.set_cons_zero,List.set_cons_succ]
     rfl
    refine on_ 15 none rfl rfl HT_ (fun K hK=>?_);have hs34:=bc_ BK135 0 rfl;have hfs34:=blk_frozen BK135.out 0;have hns34_0:=NB125_135.out;have hns34_1:=NB126_135.out;have hns34_2:=NB127_135.out;have hms34_0:=NB135_125.out;have hms34_1:=NB135_126.out;have hms34_2:=NB135_127.out;have hs35:=bc_ BK135 1 rfl;have hfs35:=blk_frozen BK135.out 1;have hns35_0:=NB125_135.out;have hns35_1:=NB126_135.out;have hns35_2:=NB127_135.out;have hms35_0:=NB135_125.out;have hms35_1:=NB135_126.out;have hms35_2:=NB135_127.out;refine skip_ (w1:=?_) (by rfl) rfl ?_ ?_;rotate_left
    ·go_simp
     rfl
    refine hf_ hK hHeld (fun hHeld=>?_);clear hK K;refine pu_ 16 6 rfl rfl HT_ ?_;refine done_ (done_of HT_.out (by kernel_rfl)) ?_;have hnb36:=NB135_125.out;have hnc36:=NB125_135.out;have hnb37:=NB135_126.out;have hnc37:=NB126_135.out;have hnb38:=NB135_127.out;have hnc38:=NB127_135.out;have hz39:=cs2_ BK135;have hnb40:=NB127_125.out;have hnc40:=NB125_127.out;have hnb41:=NB127_126.out;have hnc41:=NB126_127.out;have hz42:=cs2_ BK127
    try go_wp2
    refine bodyPost_ret (results_cell_row rfl _ _ gb127 23 #[.string t132,.string t133] (0,0) _ rfl (by refine k_ ?_;refine blk_put (cs:=#[.string t132,.string ⟨#[]⟩]) ?_ 1 _ rfl;refine k_ ?_;refine blk_put (cs:=#[.string ⟨#[]⟩,.string ⟨#[]⟩]) ?_ 0 _ rfl;refine k_ ?_;refine blk_far ?_ NB127_135.out _;refine k_ ?_;refine blk_far ?_ NB127_135.out _;refine k_ ?_;exact BK127.out) Tryz.underlying23 rfl (by kernel_rfl)) rfl ?_;exact⟨er_,b_ HB.out⟩
def r3_One.f (k:Nat) (a0 a1:Int):Option (ByteArray×ByteArray):=(r2_Of.f a0).bind fun t137=>((r2_Of.f a1).bind fun t138=>((r3_Make.f k t137 t138).bind fun bt139=>(some (bt139.1,bt139.2.1))))
theorem r3_One.calls (k:Nat) (a0 a1:Int) (r1 r2:ByteArray) (w:World) (h:r3_One.f k a0 a1=some (r1,r2)) :
  Calls Tryz.prog 16 #[.int .i64 a0,.int .i64 a1] w fun e w'=>e=.returned (.agg #[.string r1,.string r2])∧Below w.heap.size w w':=by
 have hu23:=Tryz.underlying23;have HB:=ak_ (Below.refl w.heap.size w);have H:=h;unfold r3_One.f at H;clear h;replace H:=bi_ H;obtain⟨t137,A3,H⟩:=H;replace H:=bi_ H;obtain⟨t138,A4,H⟩:=H;replace H:=bi_ H;obtain⟨⟨t139,t140,t141⟩,A5,H⟩:=H;(try dsimp only at H);replace H:=pi2_ H;obtain⟨rfl,rfl⟩:=H;go_in
 go_wp2_with (first|(refine bf_ 4 #[.string ⟨#[]⟩,.string ⟨#[]⟩] 23 HB ?_;clear HB;intro gb136 w6 BK136 GW136 HB)|(refine gm_ 9 Tryz.func38 (r2_Of.calls _ _ _ A3.out) ?_;intro w7 hb;replace BK136:=kb_ BK136 hb;replace HB:=bs_ HB hb;(try clear hb))|(refine gm_ 11 Tryz.func38 (r2_Of.calls _ _ _ A4.out) ?_;intro w8 hb;replace BK136:=kb_ BK136 hb;replace HB:=bs_ HB hb;(try clear hb))|(refine gm_ 12 Tryz.func39 (r3_Make.calls _ _ _ _ _ _ _ A5.out) ?_;intro w9 hb;replace BK136:=kb_ BK136 hb;replace HB:=bs_ HB hb;(try clear hb))|(refine bg_ 5 #[.string ⟨#[]⟩,.string ⟨#[]⟩] 23 HB ?_;clear HB;intro gb142 w10 hg hb BK142 GW142 HB;have NB136_142:=nl_ BK136 hg;have NB142_136:=ng_ BK136 hg;replace BK136:=kb_ BK136 hb;clear hb hg;have hnb11:=NB142_136.out;have hnc11:=NB136_142.out;have hz12142:=cs2_ BK142;have hz13136:=cs2_ BK136))
 refine bodyPost_ret (results_cell_row rfl _ _ gb136 23 #[.string t139,.string t140] (0,0) _ rfl (by refine k_ ?_;refine blk_put (cs:=#[.string t139,.string ⟨#[]⟩]) ?_ 1 _ rfl;refine k_ ?_;refine blk_put (cs:=#[.string ⟨#[]⟩,.string ⟨#[]⟩]) ?_ 0 _ rfl;refine k_ ?_;refine blk_far ?_ NB136_142.out _;refine k_ ?_;refine blk_far ?_ NB136_142.out _;refine k_ ?_;exact BK136.out) Tryz.underlying23 rfl (by kernel_rfl)) rfl ?_;exact⟨er_,b_ HB.out⟩
end Pz
theorem smr_int {x:Int} (h:szI x≤20000):smr (intB x)=true:=decide_eq_true h
theorem smr2_int {x y:Int} (hx:szI x≤20000) (hy:szI y≤20000):smr2 (intB x) (intB y)=true:=by
 unfold smr2
 rw[smr_int hx,smr_int hy]
 rfl
theorem qAbs {x:Int} (hx:szI x≤20000):r2_Abs.f (intB x)=some (natB x.natAbs):=by
 unfold r2_Abs.f wabsS
 rw[if_pos (smr_int hx),if_pos (mayW_int x),numW_int]
theorem qNeg {x:Int} (hx:szI x≤20000):r2_Neg.f (intB x)=some (intB (-x)):=by
 unfold r2_Neg.f wnegS
 rw[if_pos (smr_int hx),if_pos (mayW_int x),numW_int]
theorem qSign {x:Int} (hx:szI x≤20000):r2_Sign.f (intB x)=some (Lib.compareInt x 0):=by
 unfold r2_Sign.f wsignS
 rw[if_pos (smr_int hx),if_pos (mayW_int x),numW_int]
theorem qMul {x y:Int} (hx:szI x≤20000) (hy:szI y≤20000):r2_Mul.f (intB x) (intB y)=some (intB (x * y)):=by
 unfold r2_Mul.f wmulS
 rw[if_pos (smr2_int hx hy),if_pos (may2W_int' x y),numW_int,numW_int]
theorem qDiv {x y:Int} (hx:szI x≤20000) (hy:szI y≤20000) (h:y≠0):r2_Div.f (intB x) (intB y)=some (intB (x / y),intB (x % y),true):=by
 unfold r2_Div.f wdivS
 rw[if_pos (smr2_int hx hy),may2W_int',Bool.true_and,numW_int,numW_int,if_pos (decide_eq_true h)]
theorem rGcd {m n:Nat} (hm:sz m≤50000) (hn:sz n≤50000):r1_Gcd.f (natB m) (natB n)=some (natB (Nat.gcd m n)):=by
 unfold r1_Gcd.f gcdS
 rw[if_pos (sm2_natB hm hn),if_pos (may2_natB m n),numB_natB,numB_natB]
theorem natB_beq_one' (m:Nat):((natB m).toList == ([49]:List UInt8))=(m == 1):=by
 rw[Bool.eq_iff_iff,beq_iff_eq,beq_iff_eq,natB_toList_one]
theorem r3may_f {a b:ByteArray} (ha:a.size≤20000) (hb:b.size≤20000):Pz.r3_May.f a b=some (mayR (a,b)):=by
 unfold Pz.r3_May.f mayR
 rw[rMay2 (by omega),ob_]
 by_cases h1:mayW a=true
 ·rw[if_pos h1,rMay (by omega),ob_]
  by_cases h2:mayB b=true
  ·obtain⟨z,rfl⟩:=of_mayW h1
   obtain⟨n,rfl,e2⟩:=of_may h2
   have s1:szI z≤20000:=ha
   have s2:sz n≤20000:=hb
   have s3:=le_szI z
   rw[if_pos h2,h1,h2,numW_int,numB_natB]
   by_cases h3:n=0
   ·rw[if_pos (natB_toList_zero.2 h3),h3]
    rfl
   ·rw[if_neg (fun e=>h3 (natB_toList_zero.1 e)),qAbs (by omega),ob_,rGcd (by omega) (by omega),ob_,natB_beq_one',decide_eq_true h3]
    rfl
  ·rw[if_neg h2,h1,(Bool.not_eq_true _).mp h2]
   rfl
 ·rw[if_neg h1,(Bool.not_eq_true _).mp h1]
  rfl
theorem gcd_le_l' {x y:Int} (hy:y≠0):sz (Nat.gcd x.natAbs y.natAbs)≤szI y:=by
 have h:=sz_mono (Nat.gcd_le_right x.natAbs (show 0<y.natAbs by omega))
 have:=le_szI y
 omega
theorem mk_core {x y:Int} (hy:0<y) (hx:szI x≤20000) (hs:szI y≤20000) (k:Nat):Pz.r3_Make.j1 (k+1) (intB x) (intB y)=some ((rT (Rat.divInt x y)).1,(rT (Rat.divInt x y)).2,true):=by
 have s3:=le_szI x
 have s4:=le_szI y
 have s5:=gcd_le_l' (x:=x) (show y≠0 by omega)
 have hg:((Nat.gcd x.natAbs y.natAbs:Nat):Int)≠0:=by
  have:=Nat.gcd_pos_of_pos_right x.natAbs (show 0<y.natAbs by omega)
  omega
 have h1:=red_num (x:=x) (y:=y) (by omega)
 have h2:=red_den (x:=x) (y:=y) (by omega)
 rw[if_neg (by omega)] at h1
 have e:intB y=natB y.natAbs:=by rw[intB_nonneg (by omega)];congr 1;omega
 have e':(y.natAbs:Int)=y:=by omega
 simp only[Pz.r3_Make.j1]
 rw[qAbs (by omega),ob_,e,rGcd (by omega) (by omega),ob_,← e,← intB_nat,qDiv (by omega) (by rw[szI_nat];omega) hg,ob_,qDiv (by omega) (by rw[szI_nat];omega) hg,ob_]
 rw[e'] at h2
 show some (intB _,intB _,true)=some (intB _,natB _,true)
 rw[h1,h2,intB_nat]
theorem mk_f {x y:Int} (hx:szI x≤19000) (hs:szI y≤19000) (k:Nat):Pz.r3_Make.f (k+2) (intB x) (intB y)=some (if y=0 then (noB,noB,false) else ((rT (Rat.divInt x y)).1,(rT (Rat.divInt x y)).2,true)):=by
 unfold Pz.r3_Make.f
 rw[rMay2 (show szI x≤50000 by omega),ob_,if_pos (mayW_int x),rMay2 (show szI y≤50000 by omega),ob_,if_pos (mayW_int y),intB_beq_zero]
 show Pz.r3_Make.j0 (k+1+1) _ _ _ = _
 simp only[Pz.r3_Make.j0]
 by_cases h0:y=0
 ·rw[if_pos (decide_eq_true h0),if_pos h0]
  rfl
 ·rw[if_neg (by rw[decide_eq_true_eq];exact h0),if_neg h0,qSign (by omega),ob_]
  by_cases h:y<0
  ·have n1:=szI_neg x
   have n2:=szI_neg y
   rw[if_pos (by rw[cmp_lt' h];decide),qNeg (by omega),ob_,qNeg (by omega),ob_,mk_core (by omega) (by omega) (by omega),Rat.neg_divInt_neg]
  ·rw[if_neg (by rw[cmp_gt' (by omega)];decide),mk_core (by omega) (by omega) (by omega)]
theorem mk_nf {x:Int} {n:Nat} (hy:n≠0) (hx:szI x≤19000) (hs:sz n≤19000) (k:Nat):Pz.r3_Make.f (k+2) (intB x) (natB n)=some ((rT (Rat.divInt x (n:Int))).1,(rT (Rat.divInt x (n:Int))).2,true):=by
 rw[← intB_nat,mk_f hx (by rw[szI_nat];exact hs),if_neg (by omega)]
theorem r3make_f {a b:ByteArray} (ha:a.size≤19000) (hb:b.size≤19000) (k:Nat):Pz.r3_Make.f (k+1) a b=some ((rmakeS a b).1.1,(rmakeS a b).1.2,(rmakeS a b).2)∨k=0:=by
 by_cases hk:k=0
 ·exact .inr hk
 obtain⟨k,rfl⟩:∃ m,k=m+1:=⟨k-1,by omega⟩
 refine .inl ?_
 by_cases h1:mayW a=true
 ·by_cases h2:mayW b=true
  ·obtain⟨x,rfl⟩:=of_mayW h1
   obtain⟨y,rfl⟩:=of_mayW h2
   rw[mk_f ha hb]
   unfold rmakeS
   rw[may2W_int',Bool.true_and,numW_int,numW_int]
   by_cases h3:y=0
   ·rw[if_pos h3,if_neg (by rw[h3];decide)]
    rfl
   ·rw[if_neg h3,if_pos (decide_eq_true h3)]
  ·unfold Pz.r3_Make.f rmakeS
   rw[rMay2 (by omega),ob_,if_pos h1,rMay2 (by omega),ob_,if_neg h2,show may2W a b=false by unfold may2W;rw[h1,(Bool.not_eq_true _).mp h2];rfl]
   rfl
 ·unfold Pz.r3_Make.f rmakeS
  rw[rMay2 (by omega),ob_,if_neg h1,show may2W a b=false by unfold may2W;rw[(Bool.not_eq_true _).mp h1];rfl]
  rfl
theorem r3make_f2 {a b:ByteArray} (ha:a.size≤19000) (hb:b.size≤19000) (k:Nat):Pz.r3_Make.f (k+2) a b=some ((rmakeS a b).1.1,(rmakeS a b).1.2,(rmakeS a b).2):=(r3make_f ha hb (k+1)).resolve_right (by omega)
theorem r3sign_f {x:BB} (ha:x.1.size≤20000) (hb:x.2.size≤20000):Pz.r3_Sign.f x.1 x.2=some (rsignS x):=by
 unfold Pz.r3_Sign.f rsignS
 rw[r3may_f ha hb,ob_]
 by_cases h:mayR x=true
 ·obtain⟨q,rfl⟩:=of_mayR h
  have s1:szI q.num≤20000:=ha
  rw[if_pos h,if_pos h,ratR_rT]
  show ((r2_Sign.f (intB q.num)).bind fun t=>some t) = _
  rw[qSign (by omega),ob_,← signQ_cmp]
  rfl
 ·rw[if_neg h,if_neg h]
theorem sm_rT' {q:Rat} (h:smR (rT q)=true):szI q.num≤4000∧sz q.den≤4000:=smR_le h
theorem r3two {x y:BB} (hm:¬ may2R x y=true) (h:mayR x=true):mayR y=false:=(Bool.not_eq_true _).mp (fun h2=>hm (by unfold may2R;rw[h,h2];rfl))
theorem r3mul_f {x y:BB} (hx:smR x=true) (hy:smR y=true) (k:Nat):Pz.r3_Mul.f (k+3) x.1 x.2 y.1 y.2=some (rmulS x y):=by
 have h1:=smR_le hx
 have h2:=smR_le hy
 unfold Pz.r3_Mul.f rmulS
 rw[r3may_f (by omega) (by omega),ob_]
 rcases casesR x y with ⟨p,q,rfl,rfl⟩|hm
 ·have h1:=sm_rT' hx
  have h2:=sm_rT' hy
  have s1:=szI_mul p.num q.num
  have s4:=sz_mul p.den q.den
  rw[if_pos (mayR_rT p),r3may_f (by omega) (by omega),ob_,if_pos (may2R_rT p q),ratR_rT,ratR_rT,show mayR ((rT q).1,(rT q).2)=true from mayR_rT q]
  show Pz.r3_Mul.j0 (k+2+1) _ (intB p.num) (natB p.den) (intB q.num) (natB q.den) = _
  simp only[Pz.r3_Mul.j0]
  rw[if_neg (by decide),qMul (by omega) (by omega),ob_,rMul (by omega) (by omega),ob_,mk_nf (Nat.mul_ne_zero p.den_nz q.den_nz) (by omega) (by omega),ob_,Int.natCast_mul,mul_parts]
 ·rw[if_neg hm]
  by_cases h:mayR x=true
  ·rw[if_pos h,r3may_f (by omega) (by omega),ob_,show mayR (y.1,y.2)=false from r3two hm h]
   show Pz.r3_Mul.j0 (k+2+1) _ _ _ _ _ = _
   simp only[Pz.r3_Mul.j0]
   rfl
  ·rw[if_neg h]
   show Pz.r3_Mul.j0 (k+2+1) _ _ _ _ _ = _
   simp only[Pz.r3_Mul.j0]
   rfl
theorem szI_64 {n:Int} (h0:-9223372036854775808≤n) (h1:n≤9223372036854775807):szI n≤21:=by
 have h:=szI_le n
 have h2:sz n.natAbs≤20:=sz_le (by omega) (by omega)
 omega
theorem r3one_f (a b:Int) (h0:-9223372036854775808≤a) (h1:a≤9223372036854775807) (h2:-9223372036854775808≤b) (h3:b≤9223372036854775807) (k:Nat):Pz.r3_One.f (k+2) a b=some (if b=0 then no2 else rT (Rat.divInt a b)):=by
 unfold Pz.r3_One.f r2_Of.f
 have s1:=szI_64 h0 h1
 have s2:=szI_64 h2 h3
 rw[if_pos ⟨h0,h1⟩,ob_,if_pos ⟨h2,h3⟩,ob_,mk_f (by omega) (by omega),ob_]
 by_cases h:b=0
 ·rw[if_pos h,if_pos h]
  rfl
 ·rw[if_neg h,if_neg h]
def r3_One.f (a0 a1:Int):Option BB:=if (-9223372036854775808≤a0∧a0≤9223372036854775807)∧-9223372036854775808≤a1∧a1≤9223372036854775807 then some (if a1=0 then no2 else rT (Rat.divInt a0 a1)) else none
theorem r3_One.calls (a0 a1:Int) (r1 r2:ByteArray) (w:World) (h:r3_One.f a0 a1=some (r1,r2)) :
  Calls Tryz.prog 16 #[.int .i64 a0,.int .i64 a1] w fun e w'=>e=.returned (.agg #[.string r1,.string r2])∧Below w.heap.size w w':=by
 unfold r3_One.f at h
 split at h
 ·rename_i hp
  rw[← r3one_f a0 a1 hp.1.1 hp.1.2 hp.2.1 hp.2.2 0] at h
  exact Pz.r3_One.calls _ a0 a1 r1 r2 w h
 ·cases h
def r3_May.f (a0_0 a0_1:ByteArray):Option (Bool):=if smR (a0_0,a0_1)=true then some (mayR (a0_0,a0_1)) else none
theorem r3_May.calls (a0_0 a0_1:ByteArray) (r:Bool) (w:World) (h:r3_May.f a0_0 a0_1=some r) :
  Calls Tryz.prog 55 #[.agg #[.string a0_0,.string a0_1]] w fun e w'=>e=.returned (.bool r)∧Below w.heap.size w w':=by
 unfold r3_May.f at h
 split at h
 ·rename_i hp
  have hs:=smR_le hp
  rw[← r3may_f (a:=a0_0) (b:=a0_1) (Nat.le_trans hs.1 (by decide)) (Nat.le_trans hs.2 (by decide))] at h
  exact Pz.r3_May.calls a0_0 a0_1 r w h
 ·cases h
def r3_Make.f (a0 a1:ByteArray):Option (ByteArray×ByteArray×Bool):=if smR (a0,a1)=true then some ((rmakeS a0 a1).1.1,(rmakeS a0 a1).1.2,(rmakeS a0 a1).2) else none
theorem r3_Make.calls (a0 a1 r1 r2:ByteArray) (r3:Bool) (w:World) (h:r3_Make.f a0 a1=some (r1,r2,r3)) :
  Calls Tryz.prog 39 #[.string a0,.string a1] w fun e w'=>e=.returned (.tuple #[.agg #[.string r1,.string r2],.bool r3])∧Below w.heap.size w w':=by
 unfold r3_Make.f at h
 split at h
 ·rename_i hp
  have hs:=smR_le hp
  rw[← r3make_f2 (a:=a0) (b:=a1) (Nat.le_trans hs.1 (by decide)) (Nat.le_trans hs.2 (by decide)) 0] at h
  exact Pz.r3_Make.calls _ a0 a1 r1 r2 r3 w h
 ·cases h
def r3_Sign.f (a0_0 a0_1:ByteArray):Option (Int):=if smR (a0_0,a0_1)=true then some (rsignS (a0_0,a0_1)) else none
theorem r3_Sign.calls (a0_0 a0_1:ByteArray) (r:Int) (w:World) (h:r3_Sign.f a0_0 a0_1=some r) :
  Calls Tryz.prog 56 #[.agg #[.string a0_0,.string a0_1]] w fun e w'=>e=.returned (.int .i64 r)∧Below w.heap.size w w':=by
 unfold r3_Sign.f at h
 split at h
 ·rename_i hp
  have hs:=smR_le hp
  rw[← r3sign_f (x:=(a0_0,a0_1)) (Nat.le_trans hs.1 (by decide)) (Nat.le_trans hs.2 (by decide))] at h
  exact Pz.r3_Sign.calls a0_0 a0_1 r w h
 ·cases h
def r3_Mul.f (a0_0 a0_1 a1_0 a1_1:ByteArray):Option (ByteArray×ByteArray):=if smR2 (a0_0,a0_1) (a1_0,a1_1)=true then some (rmulS (a0_0,a0_1) (a1_0,a1_1)) else none
theorem r3_Mul.calls (a0_0 a0_1 a1_0 a1_1 r1 r2:ByteArray) (w:World) (h:r3_Mul.f a0_0 a0_1 a1_0 a1_1=some (r1,r2)) :
  Calls Tryz.prog 69 #[.agg #[.string a0_0,.string a0_1],.agg #[.string a1_0,.string a1_1]] w fun e w'=>e=.returned (.agg #[.string r1,.string r2])∧Below w.heap.size w w':=by
 unfold r3_Mul.f at h
 split at h
 ·rename_i hp
  have hs:=smR2_le hp
  rw[← r3mul_f (x:=(a0_0,a0_1)) (y:=(a1_0,a1_1)) hs.1 hs.2.1 0] at h
  exact Pz.r3_Mul.calls _ a0_0 a0_1 a1_0 a1_1 r1 r2 w h
 ·cases h
theorem smR_rT {q:Rat} (h:szR q≤3999):smR (rT q)=true:=decide_eq_true ⟨Nat.le_trans (le_szR_num q) (by omega),Nat.le_trans (le_szR_den q) (by omega)⟩
theorem smR2_rT {p q:Rat} (hp:szR p≤3999) (hq:szR q≤3999):smR2 (rT p) (rT q)=true:=by
 unfold smR2
 rw[smR_rT hp,Bool.true_and]
 exact decide_eq_true ⟨Nat.le_trans (le_szR_num q) hq,Nat.le_trans (le_szR_den q) hq⟩
theorem hMake {x y:Int} (hx:szI x≤4000) (hy:szI y≤4000) (h:y≠0):rat_Make.f (intB x) (intB y)=some ((rT (Rat.divInt x y)).1,(rT (Rat.divInt x y)).2,true):=by
 unfold rat_Make.f rmakeS
 rw[if_pos (show smR (intB x,intB y)=true from decide_eq_true ⟨hx,hy⟩),may2W_int' x y,Bool.true_and,numW_int,numW_int,if_pos (decide_eq_true h)]
theorem hOf {n:Int} (h0:-9223372036854775808≤n) (h1:n≤9223372036854775807):rat_Of.f n=some (rT (n:Rat)):=by
 unfold rat_Of.f
 rw[if_pos ⟨h0,h1⟩]
def strings_CutPrefix.f (a0 a1:ByteArray):Option (ByteArray×Bool):=if a1=⟨#[45]⟩ then some (amtB a0,minusB a0) else none
theorem strings_CutPrefix.calls (a0 a1 r1:ByteArray) (r2:Bool) (w:World) (h:strings_CutPrefix.f a0 a1=some (r1,r2)) :
  Calls Tryz.prog 82 #[.string a0,.string a1] w fun e w'=>e=.returned (.tuple #[.string r1,.bool r2])∧Below w.heap.size w w':=by
 unfold strings_CutPrefix.f at h
 split at h
 ·rename_i hs
  subst hs
  rw[← cutW_f] at h
  refine(Pw.strings_CutPrefix.calls a0 _ r1 r2 w h).mono ?_
  rintro e w' ⟨rfl,n,rfl⟩
  exact⟨rfl,pw_below_drewN (Below.refl _ _) n⟩
 ·cases h
namespace Pd
def errW:Option Int→Value
 | none=>.nilIface
 | some c=>.iface 0 (.int .i64 c)
theorem errW_none:errW none=.nilIface:=rfl
theorem errW_some (c:Int):errW (some c)=.iface 0 (.int .i64 c):=rfl
def decimal_times.l0:Nat→ByteArray→ByteArray→Int→Option (Int×ByteArray)
 | 0,_,_,_=>none
 | k+1,x0,x1,x6=>(nat_Div.f x0 x1).bind fun bt101=>(if bt101.2.1.toList=([48]:List UInt8) then (decimal_times.l0 k bt101.1 x1 (wrap64 (x6+1))) else (some (x6,x0)))
def decimal_times.f (k:Nat) (a0 a1:ByteArray):Option (Int×ByteArray):=decimal_times.l0 k a0 a1 0
theorem decimal_times.calls (k:Nat) (a0 a1:ByteArray) (r1:Int) (r2:ByteArray) (w:World) (hL_:Laid w) (h:decimal_times.f k a0 a1=some (r1,r2)) :
  Calls Tryz.prog 137 #[.string a0,.string a1] w fun e w'=>e=.returned (.tuple #[.int .i64 r1,.string r2])∧Below w.heap.size w w':=by
 have HLD:=ak_ hL_;clear hL_;have HB:=ak_ (Below.refl w.heap.size w);have H:=h;unfold decimal_times.f at H;clear h;have H':=ak_ H;clear H;go_in
 go_wp2_with (first|(with_reducible refine Exit.jump_in ?_)|((with_reducible refine wp_scope_redo (rest:=?rest_) 0 ?hf_ ?_);(case hf_=>exact rfl))|(with_reducible apply wp_goto))
 (refine wp_label ?_;simp only[Exit.then];go_step)
 refine wp_label_ghost_r (fun (kq:Nat) (a':Act) (w':World)=>∃ u0 u6 u7 u8 u9 u10 u11 u12 u13 u14 u15 u16 u17 u18 u19 u20 u21 u22 u23:Value,(∃ (x0_1:ByteArray) (x6_1:Int),u0=.string x0_1∧u6=.int .i64 x6_1∧Aside0 (decimal_times.l0 kq x0_1 a1 x6_1=some (r1,r2))∧Aside0 (kq≤k)∧Aside0 (Below w.heap.size w w'))∧a'=⟨#[u0,Value.string a1,undef,undef,Value.int IntKind.i64 0,Value.string { data:=#[] },u6,u7,u8,u9,u10,u11,u12,u13,u14,u15,u16,u17,u18,u19,u20,u21,u22,u23],[]⟩) k ?atStart ?round
 case atStart =>
  (repeat apply Exists.intro)
  refine⟨?_,rfl⟩;exact⟨(a0),(0),rl_,rl_,H',⟨nr_ _⟩,⟨b_ HB.out⟩⟩
 case round =>
  intro gk _ wr hinv;obtain⟨u0,u6,u7,u8,u9,u10,u11,u12,u13,u14,u15,u16,u17,u18,u19,u20,u21,u22,u23,hrel,ha⟩:=hinv;subst ha
  try dsimp only
  intro _ _ _ _ _ _;clear H';obtain⟨x0_1,x6_1,rfl,rfl,HA,HK1,HB⟩:=hrel
  cases gk with
  | zero=>exact absurd HA.out (by simp[decimal_times.l0])
  | succ k1 =>
   have H:=HA.out;clear HA;simp only[decimal_times.l0] at H;replace H:=bi_ H;obtain⟨⟨t101,t102,t103⟩,A3,H⟩:=H;(try dsimp only at H);replace H:=bw_ H;rcases H with ⟨c4,H⟩|⟨c4,H⟩
   ·have c4b0:(t102.toList == ([48]:List UInt8))=true:=beq_iff_eq.mpr c4;have c4b1:(t102.toList != ([48]:List UInt8))=false:=bne_eq_false_iff_eq.mpr c4;clear c4;have H':=ak_ H;clear H
    go_wp2_with (first|(first|(with_reducible refine Exit.jump_in ?_)|((with_reducible refine wp_scope_redo (rest:=?rest_) 0 ?hf_ ?_);(case hf_=>exact rfl))|(with_reducible apply wp_goto))|(refine gm_ 13 Tryz.func59 (nat_Div.calls _ _ _ _ _ _ (lb_ HLD HB) A3.out) ?_;intro w5 hb;replace HB:=bs_ HB hb;(try clear hb)))
    go_roundg k1
    case measure=>have:=HK1.out;omega
    case rel=>exact⟨(t101),(wrap64 (x6_1+1)),rl_,rl_,H',⟨by have:=HK1.out;omega⟩,⟨b_ HB.out⟩⟩
   ·have c4b0:(t102.toList == ([48]:List UInt8))=false:=beq_eq_false_iff_ne.mpr c4;have c4b1:(t102.toList != ([48]:List UInt8))=true:=bne_iff_ne.mpr c4;replace H:=pi2_ H;obtain⟨rfl,rfl⟩:=H
    go_wp2_with (first|(first|(with_reducible refine Exit.jump_in ?_)|((with_reducible refine wp_scope_redo (rest:=?rest_) 0 ?hf_ ?_);(case hf_=>exact rfl))|(with_reducible apply wp_goto))|(refine gm_ 13 Tryz.func59 (nat_Div.calls _ _ _ _ _ _ (lb_ HLD HB) A3.out) ?_;intro w6 hb;replace HB:=bs_ HB hb;(try clear hb)))
    ((try simp only[Exit.inBlock,Exit.then,Exit.jump]);refine bodyPost_ret (results_tmp2 rfl _ _ _) rfl ?_)
    exact⟨er_,b_ HB.out⟩
def decimal_places.f (k:Nat) (a0:ByteArray):Option (Int×Bool):=(decimal_times.f k a0 (⟨#[50]⟩:ByteArray)).bind fun bt104=>((decimal_times.f k bt104.2 (⟨#[53]⟩:ByteArray)).bind fun bt106=>(some (mx bt104.1 bt106.1,(bt106.2.toList == ([49]:List UInt8)))))
theorem decimal_places.calls (k:Nat) (a0:ByteArray) (r1:Int) (r2:Bool) (w:World) (hL_:Laid w) (h:decimal_places.f k a0=some (r1,r2)) :
  Calls Tryz.prog 101 #[.string a0] w fun e w'=>e=.returned (.tuple #[.int .i64 r1,.bool r2])∧Below w.heap.size w w':=by
 have HLD:=ak_ hL_;clear hL_;have HB:=ak_ (Below.refl w.heap.size w);have H:=h;unfold decimal_places.f at H;clear h;replace H:=bi_ H;obtain⟨⟨t104,t105⟩,A2,H⟩:=H;(try dsimp only at H);replace H:=bi_ H;obtain⟨⟨t106,t107⟩,A3,H⟩:=H;(try dsimp only at H);obtain⟨ji4,hji4⟩:∃ j_:Int,(mx t104 t106)=j_:=⟨_,rfl⟩;(first|rw[hji4] at H|simp only[hji4] at H);(try rw[hji4] at A2);(try rw[hji4] at A3);have hji4_:(if t104<t106 then t106 else t104)=ji4:=hji4;replace H:=pi2_ H;obtain⟨rfl,rfl⟩:=H;go_in
 go_wp2_with (first|(first|(with_reducible refine Exit.only_intro ?_)|((with_reducible refine wp_scope_redo (rest:=?rest_) 0 ?hf_ ?_);(case hf_=>exact rfl))|(with_reducible apply wp_goto))|(refine gm_ 9 Tryz.func137 (decimal_times.calls _ _ _ _ _ _ (lb_ HLD HB) A2.out) ?_;intro w5 hb;replace HB:=bs_ HB hb;(try clear hb))|(refine gm_ 14 Tryz.func137 (decimal_times.calls _ _ _ _ _ _ (lb_ HLD HB) A3.out) ?_;intro w6 hb;replace HB:=bs_ HB hb;(try clear hb)))
 go_ret2;exact⟨by first|rfl|(simp[errW_none,errW_some] <;> rfl)|(simp only[← hji4];first|rfl|(simp[errW_none,errW_some] <;> rfl))|(simp[*,errW_none,errW_some] <;> rfl),b_ HB.out⟩
def decimal_Places.f (k:Nat) (a0_0 a0_1:ByteArray):Option (Int×Bool):=(rat_May.f a0_0 a0_1).bind fun t109=>(if t109=true then ((decimal_places.f k a0_1).bind fun bt110=>(if bt110.2=true then (some (bt110.1,true)) else (some (0,false)))) else (some (0,false)))
theorem decimal_Places.calls (k:Nat) (a0_0 a0_1:ByteArray) (r1:Int) (r2:Bool) (w:World) (hL_:Laid w) (h:decimal_Places.f k a0_0 a0_1=some (r1,r2)) :
  Calls Tryz.prog 58 #[.agg #[.string a0_0,.string a0_1]] w fun e w'=>e=.returned (.tuple #[.int .i64 r1,.bool r2])∧Below w.heap.size w w':=by
 have hu23:=Tryz.underlying23;have HLD:=ak_ hL_;clear hL_;have HB:=ak_ (Below.refl w.heap.size w);have H:=h;unfold decimal_Places.f at H;clear h;replace H:=bi_ H;obtain⟨t109,A2,H⟩:=H;replace H:=bt_ H;rcases H with ⟨rfl,H⟩|⟨rfl,H⟩
 ·replace H:=bi_ H;obtain⟨⟨t110,t111⟩,A4,H⟩:=H;(try dsimp only at H);replace H:=bt_ H;rcases H with ⟨rfl,H⟩|⟨rfl,H⟩
  ·replace H:=pi2_ H;obtain⟨rfl,rfl⟩:=H;go_in
   go_wp2_with (first|(first|(with_reducible refine Exit.only_intro ?_)|((with_reducible refine wp_scope_redo (rest:=?rest_) 0 ?hf_ ?_);(case hf_=>exact rfl))|(with_reducible apply wp_goto))|(refine bf_ 1 #[.string a0_0,.string a0_1] 23 HB ?_;clear HB;intro gb108 w6 BK108 GW108 HB;have hz7:=cs2_ BK108)|(refine gm_ 7 Tryz.func53 (rat_May.calls _ _ _ _ (lb_ HLD HB) A2.out) ?_;intro w8 hb;replace BK108:=kb_ BK108 hb;replace HB:=bs_ HB hb;(try clear hb);have hz9:=cs2_ BK108)|(refine gm_ 12 Tryz.func101 (decimal_places.calls _ _ _ _ _ (lb_ HLD HB) A4.out) ?_;intro w10 hb;replace BK108:=kb_ BK108 hb;replace HB:=bs_ HB hb;(try clear hb)))
   go_ret2;exact⟨er_,b_ HB.out⟩
  ·replace H:=pi2_ H;obtain⟨rfl,rfl⟩:=H;go_in
   go_wp2_with (first|(first|(with_reducible refine Exit.only_intro ?_)|((with_reducible refine wp_scope_redo (rest:=?rest_) 0 ?hf_ ?_);(case hf_=>exact rfl))|(with_reducible apply wp_goto))|(refine bf_ 1 #[.string a0_0,.string a0_1] 23 HB ?_;clear HB;intro gb108 w11 BK108 GW108 HB;have hz12:=cs2_ BK108)|(refine gm_ 7 Tryz.func53 (rat_May.calls _ _ _ _ (lb_ HLD HB) A2.out) ?_;intro w13 hb;replace BK108:=kb_ BK108 hb;replace HB:=bs_ HB hb;(try clear hb);have hz14:=cs2_ BK108)|(refine gm_ 12 Tryz.func101 (decimal_places.calls _ _ _ _ _ (lb_ HLD HB) A4.out) ?_;intro w15 hb;replace BK108:=kb_ BK108 hb;replace HB:=bs_ HB hb;(try clear hb)))
   go_ret2;exact⟨er_,b_ HB.out⟩
 ·replace H:=pi2_ H;obtain⟨rfl,rfl⟩:=H;go_in
  go_wp2_with (first|(first|(with_reducible refine Exit.only_intro ?_)|((with_reducible refine wp_scope_redo (rest:=?rest_) 0 ?hf_ ?_);(case hf_=>exact rfl))|(with_reducible apply wp_goto))|(refine bf_ 1 #[.string a0_0,.string a0_1] 23 HB ?_;clear HB;intro gb108 w16 BK108 GW108 HB;have hz17:=cs2_ BK108)|(refine gm_ 7 Tryz.func53 (rat_May.calls _ _ _ _ (lb_ HLD HB) A2.out) ?_;intro w18 hb;replace BK108:=kb_ BK108 hb;replace HB:=bs_ HB hb;(try clear hb)))
  go_ret2;exact⟨er_,b_ HB.out⟩
def decimal_power.f (a0:Int):Option (ByteArray):=(strings_Repeat.f (⟨#[48]⟩:ByteArray) a0).bind fun t112=>(if 1+t112.size≤9223372036854775807 then (some ((⟨#[49]⟩:ByteArray)++t112)) else (none))
theorem decimal_power.calls (a0:Int) (r:ByteArray) (w:World) (h:decimal_power.f a0=some r) :
  Calls Tryz.prog 60 #[.int .i64 a0] w fun e w'=>e=.returned (.string r)∧Below w.heap.size w w':=by
 have HB:=ak_ (Below.refl w.heap.size w);have H:=h;unfold decimal_power.f at H;clear h;replace H:=bi_ H;obtain⟨t112,A2,H⟩:=H;replace H:=bx_ H;obtain⟨c3,H⟩:=H;have c3b0:=eq_true c3;have c3b1:=dt_ c3
 try have c3b2:(9223372036854775807<1+t112.size)=False:=eq_false (Nat.not_lt.2 c3)
 obtain rfl:=oi_ H;go_in
 go_wp2_with (first|(first|(with_reducible refine Exit.only_intro ?_)|((with_reducible refine wp_scope_redo (rest:=?rest_) 0 ?hf_ ?_);(case hf_=>exact rfl))|(with_reducible apply wp_goto))|(refine gm_ 4 Tryz.func63 (strings_Repeat.calls _ _ _ _ A2.out) ?_;intro w4 hb;replace HB:=bs_ HB hb;(try clear hb)))
 go_ret
 exact⟨er_,b_ HB.out⟩
def decimal_Print.f (k:Nat) (a0_0 a0_1:ByteArray):Option (ByteArray):=(decimal_Places.f k a0_0 a0_1).bind fun bt114=>((rat_May.f a0_0 a0_1).bind fun t116=>(if t116=true then (if bt114.2=true then (if bt114.1=0 then (some a0_0) else ((decimal_power.f bt114.1).bind fun t117=>((nat_Div.f t117 a0_1).bind fun bt118=>((whole_Abs.f a0_0).bind fun t121=>((nat_Mul.f t121 bt118.1).bind fun t122=>((strings_Repeat.f (⟨#[48]⟩:ByteArray) (mx (wrap64 ((wrap64 (bt114.1+1))-(t122.size:Int))) 0)).bind fun t123=>(if t123.size+t122.size≤9223372036854775807 then ((whole_Sign.f a0_0).bind fun t124=>(if t124<0 then (if 0≤(wrap64 (((t123++t122).size:Int)-bt114.1)) then (if (wrap64 (((t123++t122).size:Int)-bt114.1))≤((t123++t122).size:Int) then (if 1+((t123++t122).extract 0 ((wrap64 (((t123++t122).size:Int)-bt114.1)):Int).toNat).size≤9223372036854775807 then (if ((⟨#[45]⟩:ByteArray)++((t123++t122).extract 0 ((wrap64 (((t123++t122).size:Int)-bt114.1)):Int).toNat)).size+1≤9223372036854775807 then (if (((⟨#[45]⟩:ByteArray)++((t123++t122).extract 0 ((wrap64 (((t123++t122).size:Int)-bt114.1)):Int).toNat))++(⟨#[46]⟩:ByteArray)).size+((t123++t122).extract ((wrap64 (((t123++t122).size:Int)-bt114.1)):Int).toNat (t123++t122).size).size≤9223372036854775807 then (some ((((⟨#[45]⟩:ByteArray)++((t123++t122).extract 0 ((wrap64 (((t123++t122).size:Int)-bt114.1)):Int).toNat))++(⟨#[46]⟩:ByteArray))++((t123++t122).extract ((wrap64 (((t123++t122).size:Int)-bt114.1)):Int).toNat (t123++t122).size))) else (none)) else (none)) else (none)) else (none)) else (none)) else (if 0≤(wrap64 (((t123++t122).size:Int)-bt114.1)) then (if (wrap64 (((t123++t122).size:Int)-bt114.1))≤((t123++t122).size:Int) then (if 0+((t123++t122).extract 0 ((wrap64 (((t123++t122).size:Int)-bt114.1)):Int).toNat).size≤9223372036854775807 then (if ((⟨#[]⟩:ByteArray)++((t123++t122).extract 0 ((wrap64 (((t123++t122).size:Int)-bt114.1)):Int).toNat)).size+1≤9223372036854775807 then (if (((⟨#[]⟩:ByteArray)++((t123++t122).extract 0 ((wrap64 (((t123++t122).size:Int)-bt114.1)):Int).toNat))++(⟨#[46]⟩:ByteArray)).size+((t123++t122).extract ((wrap64 (((t123++t122).size:Int)-bt114.1)):Int).toNat (t123++t122).size).size≤9223372036854775807 then (some ((((⟨#[]⟩:ByteArray)++((t123++t122).extract 0 ((wrap64 (((t123++t122).size:Int)-bt114.1)):Int).toNat))++(⟨#[46]⟩:ByteArray))++((t123++t122).extract ((wrap64 (((t123++t122).size:Int)-bt114.1)):Int).toNat (t123++t122).size))) else (none)) else (none)) else (none)) else (none)) else (none)))) else (none)))))))) else (if a0_0.size+1≤9223372036854775807 then (if (a0_0++(⟨#[47]⟩:ByteArray)).size+a0_1.size≤9223372036854775807 then (some ((a0_0++(⟨#[47]⟩:ByteArray))++a0_1)) else (none)) else (none))) else (some (⟨#[]⟩:ByteArray))))
def decimal_Print.T8:Bool×List (List Nat×List Nat):=(true,[([],[]),([0],[0]),([],[]),([2],[2]),([1,3,1],[1,3]),([4],[4]),([5],[5]),([5],[5]),([5],[5]),([6,4,0,1,2,3,4,5,6],[6]),([7,9,0,1,2,3,4,5,6,7,9],[7]),([8,10,0,1,2,3,4,5,6,7,8,9,10],[8])])
def decimal_Print.B8:List Nat:=[0,1,0,4,15,31,63,63,63,127,767,2047]
theorem decimal_Print.tab8:rtab .any (opsOf Tryz.f34 8)=decimal_Print.T8:=by kernel_rfl
theorem decimal_Print.bits8:waitsOk decimal_Print.T8.2 decimal_Print.B8=true:=by kernel_rfl
def decimal_Print.T14:Bool×List (List Nat×List Nat):=(true,[([],[]),([],[]),([],[]),([2],[2]),([],[]),([3,4],[3,4]),([1,5],[1,5]),([0,6],[0,6]),([7],[7]),([],[]),([],[]),([10],[10]),([],[]),([11,12],[11,12]),([9,13],[9,13]),([8,14],[8,14]),([15,0,1,2,3,4,5,6,7,8,9,10,11,12,13,14,15],[15])])
def decimal_Print.B14:List Nat:=[0,0,0,4,0,28,62,127,255,0,0,1024,0,7168,15872,32767,65535]
theorem decimal_Print.tab14:rtab .any (opsOf Tryz.f34 14)=decimal_Print.T14:=by kernel_rfl
theorem decimal_Print.bits14:waitsOk decimal_Print.T14.2 decimal_Print.B14=true:=by kernel_rfl
theorem decimal_Print.calls (k:Nat) (a0_0 a0_1 r:ByteArray) (w:World) (hL_:Laid w) (h:decimal_Print.f k a0_0 a0_1=some r) :
  Calls Tryz.prog 34 #[.agg #[.string a0_0,.string a0_1]] w fun e w'=>e=.returned (.string r)∧Below w.heap.size w w':=by
 have hu23:=Tryz.underlying23;have HLD:=ak_ hL_;clear hL_;have HB:=ak_ (Below.refl w.heap.size w);have H:=h;unfold decimal_Print.f at H;clear h;replace H:=bi_ H;obtain⟨⟨t114,t115⟩,A2,H⟩:=H;(try dsimp only at H);replace H:=bi_ H;obtain⟨t116,A3,H⟩:=H;replace H:=bt_ H;rcases H with ⟨rfl,H⟩|⟨rfl,H⟩
 ·replace H:=bt_ H;rcases H with ⟨rfl,H⟩|⟨rfl,H⟩
  ·replace H:=bw_ H;rcases H with ⟨c6,H⟩|⟨c6,H⟩
   ·have c6b0:(t114 == 0)=true:=beq_iff_eq.mpr c6;have c6b1:(t114 != 0)=false:=bne_eq_false_iff_eq.mpr c6;clear c6;obtain rfl:=oi_ H;go_in
    go_wp2_with (first|(refine bf_ 1 #[.string a0_0,.string a0_1] 23 HB ?_;clear HB;intro gb113 w7 BK113 GW113 HB;have hz8:=cs2_ BK113)|(refine gm_ 12 Tryz.func58 (decimal_Places.calls _ _ _ _ _ _ (lb_ HLD HB) A2.out) ?_;intro w9 hb;replace BK113:=kb_ BK113 hb;replace HB:=bs_ HB hb;(try clear hb);have hz10:=cs2_ BK113)|(refine gm_ 17 Tryz.func53 (rat_May.calls _ _ _ _ (lb_ HLD HB) A3.out) ?_;intro w11 hb;replace BK113:=kb_ BK113 hb;replace HB:=bs_ HB hb;(try clear hb);have hz12:=cs2_ BK113))
    go_ret
    exact⟨er_,b_ HB.out⟩
   ·have c6b0:(t114 == 0)=false:=beq_eq_false_iff_ne.mpr c6;have c6b1:(t114 != 0)=true:=bne_iff_ne.mpr c6;replace H:=bi_ H;obtain⟨t117,A13,H⟩:=H;replace H:=bi_ H;obtain⟨⟨t118,t119,t120⟩,A14,H⟩:=H;(try dsimp only at H);replace H:=bi_ H;obtain⟨t121,A15,H⟩:=H;replace H:=bi_ H;obtain⟨t122,A16,H⟩:=H;obtain⟨ji17,hji17⟩:∃ j_:Int,(mx (wrap64 ((wrap64 (t114+1))-(t122.size:Int))) 0)=j_:=⟨_,rfl⟩;(first|rw[hji17] at H|simp only[hji17] at H);(try rw[hji17] at A2);(try rw[hji17] at A3);(try rw[hji17] at A13);(try rw[hji17] at A14);(try rw[hji17] at A15);(try rw[hji17] at A16);(try(have hji17l:0≤ji17:=by(rw[← hji17];unfold mx;(repeat' split) <;> omega)));(try(have hji17m:0≤ji17:=by omega));have hji17_:(if (wrap64 ((wrap64 (t114+1))-(t122.size:Int)))<0 then 0 else (wrap64 ((wrap64 (t114+1))-(t122.size:Int))))=ji17:=hji17;replace H:=bi_ H;obtain⟨t123,A18,H⟩:=H;replace H:=bx_ H;obtain⟨c19,H⟩:=H;have c19b0:=eq_true c19;have c19b1:=dt_ c19
    try have c19b2:(9223372036854775807<t123.size+t122.size)=False:=eq_false (Nat.not_lt.2 c19)
    replace H:=bi_ H;obtain⟨t124,A20,H⟩:=H;replace H:=bw_ H;rcases H with ⟨c21,H⟩|⟨c21,H⟩
    ·have c21b0:=dt_ c21;clear c21;obtain⟨ji22,hji22⟩:∃ j_:Int,(wrap64 (((t123++t122).size:Int)-t114))=j_:=⟨_,rfl⟩;(first|rw[hji22] at H|simp only[hji22] at H);(try rw[hji22] at A2);(try rw[hji22] at A3);(try rw[hji22] at A13);(try rw[hji22] at A14);(try rw[hji22] at A15);(try rw[hji22] at A16);(try rw[hji22] at A18);(try rw[hji22] at A20);have hji22w:(IntKind.i64.wrap (((t123++t122).size:Int)-t114))=ji22:=(i64_w _).trans hji22;(try(have hji22v:=hji22;simp only[ByteArray.size_append,Int.natCast_add] at hji22v));(try(have hji22u:=hji22w;simp only[ByteArray.size_append,Int.natCast_add] at hji22u));replace H:=bx_ H;obtain⟨c23,H⟩:=H;have c23b0:=eq_true c23;replace c23:=dt_ c23;replace H:=bx_ H;obtain⟨c24,H⟩:=H;have c24b0:=eq_true c24;have c24b1:=dt_ c24;(try(have c24v:=c24;simp only[ByteArray.size_append,Int.natCast_add] at c24v;replace c24v:=eq_true c24v));replace H:=bx_ H;obtain⟨c25,H⟩:=H;have c25b0:=eq_true c25;have c25b1:=dt_ c25;(try have c25v0:(9223372036854775807<1+(ji22).toNat)=False:=sv_ ((ji22)≤((t123++t122).size:Int)) c25)
     try have c25b2:(9223372036854775807<1+((t123++t122).extract 0 ((ji22):Int).toNat).size)=False:=eq_false (Nat.not_lt.2 c25)
     replace H:=bx_ H;obtain⟨c26,H⟩:=H;have c26b0:=eq_true c26;have c26b1:=dt_ c26;(try have c26v0:(9223372036854775807<1+(ji22).toNat+1)=False:=sv_ ((ji22)≤((t123++t122).size:Int)) c26)
     try have c26b2:(9223372036854775807<((⟨#[45]⟩:ByteArray)++((t123++t122).extract 0 ((ji22):Int).toNat)).size+1)=False:=eq_false (Nat.not_lt.2 c26)
     have c27b0:=eq_true (od_ as_f:0≤(ji22));have c28b0:=eq_true (od_ as_f:(ji22)≤((t123++t122).size:Int));replace H:=bx_ H;obtain⟨c29,H⟩:=H;have c29b0:=eq_true c29;have c29b1:=dt_ c29;(try have c29v0:(9223372036854775807<1+(ji22).toNat+1+(t123.size+t122.size-(ji22).toNat))=False:=sv_ ((ji22)≤((t123++t122).size:Int)) c29)
     try have c29b2:(9223372036854775807<(((⟨#[45]⟩:ByteArray)++((t123++t122).extract 0 ((ji22):Int).toNat))++(⟨#[46]⟩:ByteArray)).size+((t123++t122).extract ((ji22):Int).toNat (t123++t122).size).size)=False:=eq_false (Nat.not_lt.2 c29)
     obtain rfl:=oi_ H;go_in
     try go_wp2_with (first|(refine bf_ 1 #[.string a0_0,.string a0_1] 23 HB ?_;clear HB;intro gb113 w30 BK113 GW113 HB;have hz31:=cs2_ BK113)|(refine gm_ 12 Tryz.func58 (decimal_Places.calls _ _ _ _ _ _ (lb_ HLD HB) A2.out) ?_;intro w32 hb;replace BK113:=kb_ BK113 hb;replace HB:=bs_ HB hb;(try clear hb);have hz33:=cs2_ BK113)|(refine gm_ 17 Tryz.func53 (rat_May.calls _ _ _ _ (lb_ HLD HB) A3.out) ?_;intro w34 hb;replace BK113:=kb_ BK113 hb;replace HB:=bs_ HB hb;(try clear hb)))
     replace BK113:=ak_ (blk_drew BK113.out);replace HB:=ak_ (below_drew1 HB.out);refine sa_ 12 (fun w'=>w'.cell? ⟨gb113,0,none⟩=some (.string a0_0)∧w'.cell? ⟨gb113,1,none⟩=some (.string a0_1)) (fun hHeld=>?_);refine with_tabW decimal_Print.tab8 decimal_Print.bits8 (fun HT_ HW_=>?_);generalize w34.drew=w35 at BK113 HB hHeld ⊢;refine pu_ 0 34 rfl rfl HT_ ?_;refine pu_ 2 36 rfl rfl HT_ ?_;refine t_ 3 37 rfl rfl HT_ HW_ hHeld ?_;refine on_ 1 (some 35) rfl rfl HT_ (fun K hK=>?_);refine gn_ Tryz.func60 (decimal_power.calls _ _ _ A13.out) ?_;intro w36 hb;replace BK113:=kb_ BK113 hb;replace HB:=bs_ HB hb;(try clear hb);refine hk_ hK (fun hHeld=>?_);clear hK K;refine nm_ ?_;refine on_ 4 (some 38) rfl rfl HT_ (fun K hK=>?_);refine gn_ Tryz.func59 (nat_Div.calls _ _ _ _ _ _ (lb_ HLD HB) A14.out) ?_;intro w37 hb;replace BK113:=kb_ BK113 hb;replace HB:=bs_ HB hb;(try clear hb);refine hk_ hK (fun hHeld=>?_);clear hK K;refine nm_ ?_;refine pu_ 5 33 rfl rfl HT_ ?_;refine pu_ 6 39 rfl rfl HT_ ?_;refine pu_ 7 40 rfl rfl HT_ ?_;refine pu_ 8 41 rfl rfl HT_ ?_;refine pu_ 9 5 rfl rfl HT_ ?_;refine pu_ 10 6 rfl rfl HT_ ?_;refine pu_ 11 7 rfl rfl HT_ ?_;refine done_ (done_of HT_.out (by kernel_rfl)) ?_;have hz38:=cs2_ BK113
     try go_wp2_with (first|(refine gm_ 44 Tryz.func62 (whole_Abs.calls _ _ _ A15.out) ?_;intro w39 hb;replace BK113:=kb_ BK113 hb;replace HB:=bs_ HB hb;(try clear hb))|(refine gm_ 46 Tryz.func61 (nat_Mul.calls _ _ _ _ (lb_ HLD HB) A16.out) ?_;intro w40 hb;replace BK113:=kb_ BK113 hb;replace HB:=bs_ HB hb;(try clear hb))|((with_reducible refine gate_callee (f:=63) rfl ?_);refine goesL_ (some 53) rfl rfl Tryz.func63 (by kernel_rfl) rfl #[.string ⟨#[48]⟩,.int .i64 ji17] rfl (by(try simp only[List.map_toArray,List.map_cons,List.map_nil]);first|done|(simp only[hji17];rfl)|rfl|(simp only[List.length_drop,List.length_take];rfl)) ?_;refine mo_ (strings_Repeat.calls _ _ _ _ A18.out) ?_;intro w41 hb;replace BK113:=kb_ BK113 hb;replace HB:=bs_ HB hb;(try clear hb);have hz42:=cs2_ BK113)|(refine gm_ 58 Tryz.func64 (whole_Sign.calls _ _ _ A20.out) ?_;intro w43 hb;replace BK113:=kb_ BK113 hb;replace HB:=bs_ HB hb;(try clear hb)))
     replace BK113:=ak_ (blk_drew BK113.out);replace HB:=ak_ (below_drew1 HB.out);refine start_ (n:=17) (S:=fun w'=>True) (ds:=[]) #[false,false,false,false,false,false,false,false,false,false,false,false,false,false,false,false,false] (by kernel_rfl) rfl rfl trivial (fun hHeld=>?_);refine with_tabW decimal_Print.tab14 decimal_Print.bits14 (fun HT_ HW_=>?_);generalize w43.drew=w44 at BK113 HB hHeld ⊢;refine pu_ 0 60 rfl rfl HT_ ?_;refine pu_ 1 61 rfl rfl HT_ ?_;refine pu_ 2 62 rfl rfl HT_ ?_;refine pu_ 3 63 rfl rfl HT_ ?_;refine pu_ 4 64 rfl rfl HT_ ?_;refine pu_ 5 65 rfl rfl HT_ ?_;refine pu_ 6 66 rfl rfl HT_ ?_;refine pu_ 7 67 rfl rfl HT_ ?_;refine pu_ 8 68 rfl rfl HT_ ?_;refine pu_ 9 69 rfl rfl HT_ ?_;refine pu_ 10 70 rfl rfl HT_ ?_;refine pu_ 11 71 rfl rfl HT_ ?_;refine pu_ 12 72 rfl rfl HT_ ?_;refine pu_ 13 73 rfl rfl HT_ ?_;refine pu_ 14 74 rfl rfl HT_ ?_;refine pu_ 15 75 rfl rfl HT_ ?_;refine pu_ 16 2 rfl rfl HT_ ?_;refine done_ (done_of HT_.out (by kernel_rfl)) ?_
     try go_wp2
     go_ret
     exact⟨by first|rfl|(simp[errW_none,errW_some] <;> rfl)|(simp only[← hji17,← hji22];first|rfl|(simp[errW_none,errW_some] <;> rfl))|(simp[*,errW_none,errW_some] <;> rfl),b_ HB.out⟩
    ·have c21b0:=df_ c21;clear c21;obtain⟨ji45,hji45⟩:∃ j_:Int,(wrap64 (((t123++t122).size:Int)-t114))=j_:=⟨_,rfl⟩;(first|rw[hji45] at H|simp only[hji45] at H);(try rw[hji45] at A2);(try rw[hji45] at A3);(try rw[hji45] at A13);(try rw[hji45] at A14);(try rw[hji45] at A15);(try rw[hji45] at A16);(try rw[hji45] at A18);(try rw[hji45] at A20);have hji45w:(IntKind.i64.wrap (((t123++t122).size:Int)-t114))=ji45:=(i64_w _).trans hji45;(try(have hji45v:=hji45;simp only[ByteArray.size_append,Int.natCast_add] at hji45v));(try(have hji45u:=hji45w;simp only[ByteArray.size_append,Int.natCast_add] at hji45u));replace H:=bx_ H;obtain⟨c46,H⟩:=H;have c46b0:=eq_true c46;replace c46:=dt_ c46;replace H:=bx_ H;obtain⟨c47,H⟩:=H;have c47b0:=eq_true c47;have c47b1:=dt_ c47;(try(have c47v:=c47;simp only[ByteArray.size_append,Int.natCast_add] at c47v;replace c47v:=eq_true c47v));replace H:=bx_ H;obtain⟨c48,H⟩:=H;have c48b0:=eq_true c48;have c48b1:=dt_ c48;(try have c48v0:(9223372036854775807<0+(ji45).toNat)=False:=sv_ ((ji45)≤((t123++t122).size:Int)) c48);(try have c48v1:(9223372036854775807<(ji45).toNat)=False:=sv_ ((ji45)≤((t123++t122).size:Int)) c48)
     try have c48b2:(9223372036854775807<0+((t123++t122).extract 0 ((ji45):Int).toNat).size)=False:=eq_false (Nat.not_lt.2 c48)
     replace H:=bx_ H;obtain⟨c49,H⟩:=H;have c49b0:=eq_true c49;have c49b1:=dt_ c49;(try have c49v0:(9223372036854775807<0+(ji45).toNat+1)=False:=sv_ ((ji45)≤((t123++t122).size:Int)) c49);(try have c49v1:(9223372036854775807<(ji45).toNat+1)=False:=sv_ ((ji45)≤((t123++t122).size:Int)) c49)
     try have c49b2:(9223372036854775807<((⟨#[]⟩:ByteArray)++((t123++t122).extract 0 ((ji45):Int).toNat)).size+1)=False:=eq_false (Nat.not_lt.2 c49)
     have c50b0:=eq_true (od_ as_f:0≤(ji45));have c51b0:=eq_true (od_ as_f:(ji45)≤((t123++t122).size:Int));replace H:=bx_ H;obtain⟨c52,H⟩:=H;have c52b0:=eq_true c52;have c52b1:=dt_ c52;(try have c52v0:(9223372036854775807<0+(ji45).toNat+1+(t123.size+t122.size-(ji45).toNat))=False:=sv_ ((ji45)≤((t123++t122).size:Int)) c52);(try have c52v1:(9223372036854775807<(ji45).toNat+1+(t123.size+t122.size-(ji45).toNat))=False:=sv_ ((ji45)≤((t123++t122).size:Int)) c52)
     try have c52b2:(9223372036854775807<(((⟨#[]⟩:ByteArray)++((t123++t122).extract 0 ((ji45):Int).toNat))++(⟨#[46]⟩:ByteArray)).size+((t123++t122).extract ((ji45):Int).toNat (t123++t122).size).size)=False:=eq_false (Nat.not_lt.2 c52)
     obtain rfl:=oi_ H;go_in
     try go_wp2_with (first|(refine bf_ 1 #[.string a0_0,.string a0_1] 23 HB ?_;clear HB;intro gb113 w53 BK113 GW113 HB;have hz54:=cs2_ BK113)|(refine gm_ 12 Tryz.func58 (decimal_Places.calls _ _ _ _ _ _ (lb_ HLD HB) A2.out) ?_;intro w55 hb;replace BK113:=kb_ BK113 hb;replace HB:=bs_ HB hb;(try clear hb);have hz56:=cs2_ BK113)|(refine gm_ 17 Tryz.func53 (rat_May.calls _ _ _ _ (lb_ HLD HB) A3.out) ?_;intro w57 hb;replace BK113:=kb_ BK113 hb;replace HB:=bs_ HB hb;(try clear hb)))
     replace BK113:=ak_ (blk_drew BK113.out);replace HB:=ak_ (below_drew1 HB.out);refine sa_ 12 (fun w'=>w'.cell? ⟨gb113,0,none⟩=some (.string a0_0)∧w'.cell? ⟨gb113,1,none⟩=some (.string a0_1)) (fun hHeld=>?_);refine with_tabW decimal_Print.tab8 decimal_Print.bits8 (fun HT_ HW_=>?_);generalize w57.drew=w58 at BK113 HB hHeld ⊢;refine pu_ 0 34 rfl rfl HT_ ?_;refine pu_ 2 36 rfl rfl HT_ ?_;refine t_ 3 37 rfl rfl HT_ HW_ hHeld ?_;refine on_ 1 (some 35) rfl rfl HT_ (fun K hK=>?_);refine gn_ Tryz.func60 (decimal_power.calls _ _ _ A13.out) ?_;intro w59 hb;replace BK113:=kb_ BK113 hb;replace HB:=bs_ HB hb;(try clear hb);refine hk_ hK (fun hHeld=>?_);clear hK K;refine nm_ ?_;refine on_ 4 (some 38) rfl rfl HT_ (fun K hK=>?_);refine gn_ Tryz.func59 (nat_Div.calls _ _ _ _ _ _ (lb_ HLD HB) A14.out) ?_;intro w60 hb;replace BK113:=kb_ BK113 hb;replace HB:=bs_ HB hb;(try clear hb);refine hk_ hK (fun hHeld=>?_);clear hK K;refine nm_ ?_;refine pu_ 5 33 rfl rfl HT_ ?_;refine pu_ 6 39 rfl rfl HT_ ?_;refine pu_ 7 40 rfl rfl HT_ ?_;refine pu_ 8 41 rfl rfl HT_ ?_;refine pu_ 9 5 rfl rfl HT_ ?_;refine pu_ 10 6 rfl rfl HT_ ?_;refine pu_ 11 7 rfl rfl HT_ ?_;refine done_ (done_of HT_.out (by kernel_rfl)) ?_;have hz61:=cs2_ BK113
     try go_wp2_with (first|(refine gm_ 44 Tryz.func62 (whole_Abs.calls _ _ _ A15.out) ?_;intro w62 hb;replace BK113:=kb_ BK113 hb;replace HB:=bs_ HB hb;(try clear hb))|(refine gm_ 46 Tryz.func61 (nat_Mul.calls _ _ _ _ (lb_ HLD HB) A16.out) ?_;intro w63 hb;replace BK113:=kb_ BK113 hb;replace HB:=bs_ HB hb;(try clear hb))|((with_reducible refine gate_callee (f:=63) rfl ?_);refine goesL_ (some 53) rfl rfl Tryz.func63 (by kernel_rfl) rfl #[.string ⟨#[48]⟩,.int .i64 ji17] rfl (by(try simp only[List.map_toArray,List.map_cons,List.map_nil]);first|done|(simp only[hji17];rfl)|rfl|(simp only[List.length_drop,List.length_take];rfl)) ?_;refine mo_ (strings_Repeat.calls _ _ _ _ A18.out) ?_;intro w64 hb;replace BK113:=kb_ BK113 hb;replace HB:=bs_ HB hb;(try clear hb);have hz65:=cs2_ BK113)|(refine gm_ 58 Tryz.func64 (whole_Sign.calls _ _ _ A20.out) ?_;intro w66 hb;replace BK113:=kb_ BK113 hb;replace HB:=bs_ HB hb;(try clear hb)))
     replace BK113:=ak_ (blk_drew BK113.out);replace HB:=ak_ (below_drew1 HB.out);refine start_ (n:=17) (S:=fun w'=>True) (ds:=[]) #[false,false,false,false,false,false,false,false,false,false,false,false,false,false,false,false,false] (by kernel_rfl) rfl rfl trivial (fun hHeld=>?_);refine with_tabW decimal_Print.tab14 decimal_Print.bits14 (fun HT_ HW_=>?_);generalize w66.drew=w67 at BK113 HB hHeld ⊢;refine pu_ 0 60 rfl rfl HT_ ?_;refine pu_ 1 61 rfl rfl HT_ ?_;refine pu_ 2 62 rfl rfl HT_ ?_;refine pu_ 3 63 rfl rfl HT_ ?_;refine pu_ 4 64 rfl rfl HT_ ?_;refine pu_ 5 65 rfl rfl HT_ ?_;refine pu_ 6 66 rfl rfl HT_ ?_;refine pu_ 7 67 rfl rfl HT_ ?_;refine pu_ 8 68 rfl rfl HT_ ?_;refine pu_ 9 69 rfl rfl HT_ ?_;refine pu_ 10 70 rfl rfl HT_ ?_;refine pu_ 11 71 rfl rfl HT_ ?_;refine pu_ 12 72 rfl rfl HT_ ?_;refine pu_ 13 73 rfl rfl HT_ ?_;refine pu_ 14 74 rfl rfl HT_ ?_;refine pu_ 15 75 rfl rfl HT_ ?_;refine pu_ 16 2 rfl rfl HT_ ?_;refine done_ (done_of HT_.out (by kernel_rfl)) ?_
     try go_wp2
     go_ret
     exact⟨by first|rfl|(simp[errW_none,errW_some] <;> rfl)|(simp only[← hji17,← hji45];first|rfl|(simp[errW_none,errW_some] <;> rfl))|(simp[*,errW_none,errW_some] <;> rfl),b_ HB.out⟩
  ·replace H:=bx_ H;obtain⟨c68,H⟩:=H;have c68b0:=eq_true c68;have c68b1:=dt_ c68
   try have c68b2:(9223372036854775807<a0_0.size+1)=False:=eq_false (Nat.not_lt.2 c68)
   replace H:=bx_ H;obtain⟨c69,H⟩:=H;have c69b0:=eq_true c69;have c69b1:=dt_ c69;(try have c69v:(9223372036854775807<a0_0.size+1+a0_1.size)=False:=eq_false (by have h_:=c69;simp only[ByteArray.size_append,ByteArray.size_mk',List.size_toArray,List.length_cons,List.length_nil] at h_;omega))
   try have c69b2:(9223372036854775807<(a0_0++(⟨#[47]⟩:ByteArray)).size+a0_1.size)=False:=eq_false (Nat.not_lt.2 c69)
   obtain rfl:=oi_ H;go_in
   go_wp2_with (first|(refine bf_ 1 #[.string a0_0,.string a0_1] 23 HB ?_;clear HB;intro gb113 w70 BK113 GW113 HB;have hz71:=cs2_ BK113)|(refine gm_ 12 Tryz.func58 (decimal_Places.calls _ _ _ _ _ _ (lb_ HLD HB) A2.out) ?_;intro w72 hb;replace BK113:=kb_ BK113 hb;replace HB:=bs_ HB hb;(try clear hb);have hz73:=cs2_ BK113)|(refine gm_ 17 Tryz.func53 (rat_May.calls _ _ _ _ (lb_ HLD HB) A3.out) ?_;intro w74 hb;replace BK113:=kb_ BK113 hb;replace HB:=bs_ HB hb;(try clear hb);have hz75:=cs2_ BK113))
   go_ret
   exact⟨er_,b_ HB.out⟩
 ·obtain rfl:=oi_ H;go_in
  go_wp2_with (first|(refine bf_ 1 #[.string a0_0,.string a0_1] 23 HB ?_;clear HB;intro gb113 w76 BK113 GW113 HB;have hz77:=cs2_ BK113)|(refine gm_ 12 Tryz.func58 (decimal_Places.calls _ _ _ _ _ _ (lb_ HLD HB) A2.out) ?_;intro w78 hb;replace BK113:=kb_ BK113 hb;replace HB:=bs_ HB hb;(try clear hb);have hz79:=cs2_ BK113)|(refine gm_ 17 Tryz.func53 (rat_May.calls _ _ _ _ (lb_ HLD HB) A3.out) ?_;intro w80 hb;replace BK113:=kb_ BK113 hb;replace HB:=bs_ HB hb;(try clear hb)))
  go_ret
  exact⟨er_,b_ HB.out⟩
def decimal_digits.f (a0:ByteArray):Option (Bool):=if a0.toList=([]:List UInt8) then (some false) else ((strings_Trim.f a0 (⟨#[48,49,50,51,52,53,54,55,56,57]⟩:ByteArray)).bind fun t125=>(some (t125.toList == ([]:List UInt8))))
theorem decimal_digits.calls (a0:ByteArray) (r:Bool) (w:World) (h:decimal_digits.f a0=some r) :
  Calls Tryz.prog 84 #[.string a0] w fun e w'=>e=.returned (.bool r)∧Below w.heap.size w w':=by
 have HB:=ak_ (Below.refl w.heap.size w);have H:=h;unfold decimal_digits.f at H;clear h;replace H:=bw_ H;rcases H with ⟨c2,H⟩|⟨c2,H⟩
 ·have c2b0:(a0.toList == ([]:List UInt8))=true:=beq_iff_eq.mpr c2;(try have c2e:(a0.toList.isEmpty)=true:=(by have h_:=c2b0;simp at h_ ⊢;exact h_));have c2b1:(a0.toList != ([]:List UInt8))=false:=bne_eq_false_iff_eq.mpr c2;clear c2;obtain rfl:=oi_ H;go_in;go_wp2
  go_ret
  exact⟨er_,b_ HB.out⟩
 ·have c2b0:(a0.toList == ([]:List UInt8))=false:=beq_eq_false_iff_ne.mpr c2;(try have c2e:(a0.toList.isEmpty)=false:=(by have h_:=c2b0;simp at h_ ⊢;exact h_));have c2b1:(a0.toList != ([]:List UInt8))=true:=bne_iff_ne.mpr c2;replace H:=bi_ H;obtain⟨t125,A3,H⟩:=H;obtain rfl:=oi_ H;go_in
  go_wp2_with ((go_at_call 52;(with_reducible refine(strings_Trim.calls _ _ _ _ A3.out).mono ?_);rintro e w4 ⟨rfl,hb⟩;replace HB:=bs_ HB hb;(try clear hb)))
  go_ret
  exact⟨er_,b_ HB.out⟩
def decimal_plain.f (a0:ByteArray):Option (ByteArray):=(strings_TrimLeft.f a0 (⟨#[48]⟩:ByteArray)).bind fun t126=>(if t126.toList=([]:List UInt8) then (some (⟨#[48]⟩:ByteArray)) else (some t126))
theorem decimal_plain.calls (a0 r:ByteArray) (w:World) (h:decimal_plain.f a0=some r) :
  Calls Tryz.prog 85 #[.string a0] w fun e w'=>e=.returned (.string r)∧Below w.heap.size w w':=by
 have HB:=ak_ (Below.refl w.heap.size w);have H:=h;unfold decimal_plain.f at H;clear h;replace H:=bi_ H;obtain⟨t126,A2,H⟩:=H;replace H:=bw_ H;rcases H with ⟨c3,H⟩|⟨c3,H⟩
 ·have c3b0:(t126.toList == ([]:List UInt8))=true:=beq_iff_eq.mpr c3;(try have c3e:(t126.toList.isEmpty)=true:=(by have h_:=c3b0;simp at h_ ⊢;exact h_));have c3b1:(t126.toList != ([]:List UInt8))=false:=bne_eq_false_iff_eq.mpr c3;clear c3;obtain rfl:=oi_ H;go_in
  go_wp2_with ((refine gm_ 5 Tryz.func126 (strings_TrimLeft.calls _ _ _ _ A2.out) ?_;intro w4 hb;replace HB:=bs_ HB hb;(try clear hb)))
  go_ret
  exact⟨er_,b_ HB.out⟩
 ·have c3b0:(t126.toList == ([]:List UInt8))=false:=beq_eq_false_iff_ne.mpr c3;(try have c3e:(t126.toList.isEmpty)=false:=(by have h_:=c3b0;simp at h_ ⊢;exact h_));have c3b1:(t126.toList != ([]:List UInt8))=true:=bne_iff_ne.mpr c3;obtain rfl:=oi_ H;go_in
  go_wp2_with ((refine gm_ 5 Tryz.func126 (strings_TrimLeft.calls _ _ _ _ A2.out) ?_;intro w5 hb;replace HB:=bs_ HB hb;(try clear hb)))
  go_ret
  exact⟨er_,b_ HB.out⟩
mutual
def decimal_Parse.j0:Nat→ByteArray→Bool→ByteArray→ByteArray→Option (ByteArray×ByteArray×Int)
 | 0,_,_,_,_=>none
 | k+1,x0,x5,x6,x7=>if (x0.size:Int)>1000 then (decimal_Parse.j1 k x5 x6 x7 true) else ((decimal_digits.f x6).bind fun t139=>(if t139=true then ((decimal_digits.f x7).bind fun t140=>(decimal_Parse.j1 k x5 x6 x7 (!t140))) else (decimal_Parse.j1 k x5 x6 x7 true)))
def decimal_Parse.j1:Nat→Bool→ByteArray→ByteArray→Bool→Option (ByteArray×ByteArray×Int)
 | 0,_,_,_,_=>none
 | k+1,x5,x6,x7,x64=>if x64=true then (some ((⟨#[]⟩:ByteArray),(⟨#[]⟩:ByteArray),40)) else ((decimal_plain.f x6).bind fun t141=>((decimal_plain.f x7).bind fun t142=>(if x5=true then ((whole_Neg.f t141).bind fun t143=>((rat_Make.f t143 t142).bind fun bt144=>(if bt144.2.2=true then (some (bt144.1,bt144.2.1,0)) else (some ((⟨#[]⟩:ByteArray),(⟨#[]⟩:ByteArray),40))))) else ((rat_Make.f t141 t142).bind fun bt148=>(if bt148.2.2=true then (some (bt148.1,bt148.2.1,0)) else (some ((⟨#[]⟩:ByteArray),(⟨#[]⟩:ByteArray),40)))))))
end
def decimal_Parse.f (k:Nat) (a0:ByteArray):Option (ByteArray×ByteArray×Int):=(strings_CutPrefix.f a0 (⟨#[45]⟩:ByteArray)).bind fun bt128=>((strings_Cut.f bt128.1 (⟨#[47]⟩:ByteArray)).bind fun bt130=>(if bt130.2.2=true then (decimal_Parse.j0 k a0 bt128.2 bt130.1 bt130.2.1) else ((strings_Cut.f bt128.1 (⟨#[46]⟩:ByteArray)).bind fun bt133=>(if bt133.2.2=true then ((decimal_digits.f bt133.1).bind fun t136=>(if t136=true then ((decimal_digits.f bt133.2.1).bind fun t137=>(if t137=true then (if bt133.1.size+bt133.2.1.size≤9223372036854775807 then ((decimal_power.f (bt133.2.1.size:Int)).bind fun t138=>(decimal_Parse.j0 k a0 bt128.2 (bt133.1++bt133.2.1) t138)) else (none)) else (decimal_Parse.j0 k a0 bt128.2 bt128.1 (⟨#[49]⟩:ByteArray)))) else (decimal_Parse.j0 k a0 bt128.2 bt128.1 (⟨#[49]⟩:ByteArray)))) else (decimal_Parse.j0 k a0 bt128.2 bt128.1 (⟨#[49]⟩:ByteArray))))))
theorem decimal_Parse.calls (k:Nat) (a0 r1 r2:ByteArray) (r3:Int) (w:World) (hL_:Laid w) (h:decimal_Parse.f k a0=some (r1,r2,r3)) :
  Calls Tryz.prog 43 #[.string a0] w fun e w'=>e=.returned (.tuple #[.agg #[.string r1,.string r2],.int .i64 r3])∧Below w.heap.size w w':=by
 have hu23:=Tryz.underlying23;have HLD:=ak_ hL_;clear hL_;have HB:=ak_ (Below.refl w.heap.size w);have H:=h;unfold decimal_Parse.f at H;clear h;replace H:=bi_ H;obtain⟨⟨t128,t129⟩,A2,H⟩:=H;(try dsimp only at H);replace H:=bi_ H;obtain⟨⟨t130,t131,t132⟩,A3,H⟩:=H;(try dsimp only at H);have HC4:=ak_ H;clear H;go_in
 go_upto_if 28 with (first|(refine bf_ 2 #[.string ⟨#[]⟩,.string ⟨#[]⟩] 23 HB ?_;clear HB;intro gb127 w5 BK127 GW127 HB)|(refine gm_ 18 Tryz.func82 (strings_CutPrefix.calls _ _ _ _ _ A2.out) ?_;intro w6 hb;replace BK127:=kb_ BK127 hb;replace HB:=bs_ HB hb;(try clear hb))|(refine gm_ 24 Tryz.func83 (strings_Cut.calls _ _ _ _ _ _ (lb_ HLD HB) A3.out) ?_;intro w7 hb;replace BK127:=kb_ BK127 hb;replace HB:=bs_ HB hb;(try clear hb)))
 (try simp only[Act.put,List.setIfInBounds_toArray,List.set_cons_zero,List.set_cons_succ])
 go_cut [6,7] (fun v6 v7 wc=>∃ (kq:Nat) (x6_3 x7_3:ByteArray),v6=.string x6_3∧v7=.string x7_3∧Aside0 (decimal_Parse.j0 kq a0 t129 x6_3 x7_3=some (r1,r2,r3))∧Aside0 (kq≤k)∧Aside0 (wc.heap[gb127]?=some (.cells #[.string ⟨#[]⟩,.string ⟨#[]⟩] 23 (0,0)))∧Aside0 (Below w.heap.size w wc))
 case first =>
  have H:=HC4.out;clear HC4;replace H:=bt_ H;rcases H with ⟨rfl,H⟩|⟨rfl,H⟩
  ·have H':=ak_ H;clear H;go_wp2
   go_meet
   case rel=>exact⟨_,(t130),(t131),rl_,rl_,H',⟨nk_⟩,⟨k_ BK127.out⟩,⟨b_ HB.out⟩⟩
  ·replace H:=bi_ H;obtain⟨⟨t133,t134,t135⟩,A9,H⟩:=H;(try dsimp only at H);replace H:=bt_ H;rcases H with ⟨rfl,H⟩|⟨rfl,H⟩
   ·replace H:=bi_ H;obtain⟨t136,A11,H⟩:=H;replace H:=bt_ H;rcases H with ⟨rfl,H⟩|⟨rfl,H⟩
    ·replace H:=bi_ H;obtain⟨t137,A13,H⟩:=H;replace H:=bt_ H;rcases H with ⟨rfl,H⟩|⟨rfl,H⟩
     ·replace H:=bx_ H;obtain⟨c15,H⟩:=H;have c15b0:=eq_true c15;have c15b1:=dt_ c15
      try have c15b2:(9223372036854775807<t133.size+t134.size)=False:=eq_false (Nat.not_lt.2 c15)
      replace H:=bi_ H;obtain⟨t138,A16,H⟩:=H;have H':=ak_ H;clear H
      go_wp2_with (first|(refine gm_ 33 Tryz.func83 (strings_Cut.calls _ _ _ _ _ _ (lb_ HLD HB) A9.out) ?_;intro w17 hb;replace BK127:=kb_ BK127 hb;replace HB:=bs_ HB hb;(try clear hb))|(go_at_call 84;(with_reducible refine(decimal_digits.calls _ _ _ A11.out).mono ?_);rintro e w18 ⟨rfl,hb⟩;replace BK127:=kb_ BK127 hb;replace HB:=bs_ HB hb;(try clear hb))|(go_at_call 84;(with_reducible refine(decimal_digits.calls _ _ _ A13.out).mono ?_);rintro e w19 ⟨rfl,hb⟩;replace BK127:=kb_ BK127 hb;replace HB:=bs_ HB hb;(try clear hb))|(refine gm_ 51 Tryz.func60 (decimal_power.calls _ _ _ A16.out) ?_;intro w20 hb;replace BK127:=kb_ BK127 hb;replace HB:=bs_ HB hb;(try clear hb)))
      go_meet
      case rel=>exact⟨_,(t133++t134),(t138),rl_,rl_,H',⟨nk_⟩,⟨k_ BK127.out⟩,⟨b_ HB.out⟩⟩
     ·have H':=ak_ H;clear H
      go_wp2_with (first|(refine gm_ 33 Tryz.func83 (strings_Cut.calls _ _ _ _ _ _ (lb_ HLD HB) A9.out) ?_;intro w21 hb;replace BK127:=kb_ BK127 hb;replace HB:=bs_ HB hb;(try clear hb))|(go_at_call 84;(with_reducible refine(decimal_digits.calls _ _ _ A11.out).mono ?_);rintro e w22 ⟨rfl,hb⟩;replace BK127:=kb_ BK127 hb;replace HB:=bs_ HB hb;(try clear hb))|(go_at_call 84;(with_reducible refine(decimal_digits.calls _ _ _ A13.out).mono ?_);rintro e w23 ⟨rfl,hb⟩;replace BK127:=kb_ BK127 hb;replace HB:=bs_ HB hb;(try clear hb)))
      go_meet
      case rel=>exact⟨_,(t128),((⟨#[49]⟩:ByteArray)),rl_,rl_,H',⟨nk_⟩,⟨k_ BK127.out⟩,⟨b_ HB.out⟩⟩
    ·have H':=ak_ H;clear H
     go_wp2_with (first|(refine gm_ 33 Tryz.func83 (strings_Cut.calls _ _ _ _ _ _ (lb_ HLD HB) A9.out) ?_;intro w24 hb;replace BK127:=kb_ BK127 hb;replace HB:=bs_ HB hb;(try clear hb))|(go_at_call 84;(with_reducible refine(decimal_digits.calls _ _ _ A11.out).mono ?_);rintro e w25 ⟨rfl,hb⟩;replace BK127:=kb_ BK127 hb;replace HB:=bs_ HB hb;(try clear hb)))
     go_meet
     case rel=>exact⟨_,(t128),((⟨#[49]⟩:ByteArray)),rl_,rl_,H',⟨nk_⟩,⟨k_ BK127.out⟩,⟨b_ HB.out⟩⟩
   ·have H':=ak_ H;clear H
    go_wp2_with ((refine gm_ 33 Tryz.func83 (strings_Cut.calls _ _ _ _ _ _ (lb_ HLD HB) A9.out) ?_;intro w26 hb;replace BK127:=kb_ BK127 hb;replace HB:=bs_ HB hb;(try clear hb)))
    go_meet
    case rel=>exact⟨_,(t128),((⟨#[49]⟩:ByteArray)),rl_,rl_,H',⟨nk_⟩,⟨k_ BK127.out⟩,⟨b_ HB.out⟩⟩
 case rest =>
  clear HC4;obtain⟨kq,x6_3,x7_3,rfl,rfl,HA,HJ3,BK127,HB⟩:=hcut
  cases kq with
  | zero=>exact absurd HA.out (by simp[decimal_Parse.j0])
  | succ kj3 =>
   have H:=HA.out;clear HA;simp only[decimal_Parse.j0] at H;have HC27:=ak_ H;clear H
   go_upto_region 9 with (fail)
   go_cut [64] (fun v64 wc=>∃ (kq:Nat) (x64_26:Bool),v64=.bool x64_26∧Aside0 (decimal_Parse.j1 kq t129 x6_3 x7_3 x64_26=some (r1,r2,r3))∧Aside0 (kq≤kj3)∧Aside0 (wc.heap[gb127]?=some (.cells #[.string ⟨#[]⟩,.string ⟨#[]⟩] 23 (0,0)))∧Aside0 (Below w.heap.size w wc))
   case first =>
    have H:=HC27.out;clear HC27;replace H:=bw_ H;rcases H with ⟨c28,H⟩|⟨c28,H⟩
    ·have c28b0:decide (1000<(a0.size:Int))=true:=decide_eq_true c28;have c28b1:decide (1000<a0.size)=true:=decide_eq_true (by omega);clear c28;(first|rw[c28b0]|(simp only[i64_w,i32_w];rw[c28b0])|skip);have H':=ak_ H;clear H;go_wp2
     go_meet
     case rel=>exact⟨_,(true),rl_,H',⟨by have:=HJ3.out;first|omega|exact nr_ _⟩,⟨k_ BK127.out⟩,⟨b_ HB.out⟩⟩
    ·have c28b0:decide (1000<(a0.size:Int))=false:=decide_eq_false c28;have c28b1:decide (1000<a0.size)=false:=decide_eq_false (by omega);clear c28;(first|rw[c28b0]|(simp only[i64_w,i32_w];rw[c28b0])|skip);replace H:=bi_ H;obtain⟨t139,A29,H⟩:=H;replace H:=bt_ H;rcases H with ⟨rfl,H⟩|⟨rfl,H⟩
     ·replace H:=bi_ H;obtain⟨t140,A31,H⟩:=H;have H':=ak_ H;clear H
      go_wp2_with (first|(go_at_call 84;(with_reducible refine(decimal_digits.calls _ _ _ A29.out).mono ?_);rintro e w32 ⟨rfl,hb⟩;replace BK127:=kb_ BK127 hb;replace HB:=bs_ HB hb;(try clear hb))|(go_at_call 84;(with_reducible refine(decimal_digits.calls _ _ _ A31.out).mono ?_);rintro e w33 ⟨rfl,hb⟩;replace BK127:=kb_ BK127 hb;replace HB:=bs_ HB hb;(try clear hb)))
      go_meet
      case rel=>exact⟨_,(!t140),rl_,H',⟨by have:=HJ3.out;first|omega|exact nr_ _⟩,⟨k_ BK127.out⟩,⟨b_ HB.out⟩⟩
     ·have H':=ak_ H;clear H
      go_wp2_with ((go_at_call 84;(with_reducible refine(decimal_digits.calls _ _ _ A29.out).mono ?_);rintro e w34 ⟨rfl,hb⟩;replace BK127:=kb_ BK127 hb;replace HB:=bs_ HB hb;(try clear hb)))
      go_meet
      case rel=>exact⟨_,(true),rl_,H',⟨by have:=HJ3.out;first|omega|exact nr_ _⟩,⟨k_ BK127.out⟩,⟨b_ HB.out⟩⟩
   case rest =>
    clear HC27;obtain⟨kq,x64_26,rfl,HA,HJ26,BK127,HB⟩:=hcut
    cases kq with
    | zero=>exact absurd HA.out (by simp[decimal_Parse.j1])
    | succ kj26 =>
     have H:=HA.out;clear HA;simp only[decimal_Parse.j1] at H;replace H:=bt_ H;rcases H with ⟨rfl,H⟩|⟨rfl,H⟩
     ·replace H:=pi3_ H;obtain⟨rfl,rfl,rfl⟩:=H;have hz36:=cs2_ BK127;go_wp2;refine bodyPost_ret (results_ct rfl _ _ gb127 23 #[.string ⟨#[]⟩,.string ⟨#[]⟩] (0,0) _ rfl (rp_ BK127.out) Tryz.underlying23 rfl (by kernel_rfl)) rfl ?_;exact⟨er_,b_ HB.out⟩
     ·replace H:=bi_ H;obtain⟨t141,A37,H⟩:=H;replace H:=bi_ H;obtain⟨t142,A38,H⟩:=H;replace H:=bt_ H;rcases H with ⟨rfl,H⟩|⟨rfl,H⟩
      ·replace H:=bi_ H;obtain⟨t143,A40,H⟩:=H;replace H:=bi_ H;obtain⟨⟨t144,t145,t146⟩,A41,H⟩:=H;(try dsimp only at H);replace H:=bt_ H;rcases H with ⟨rfl,H⟩|⟨rfl,H⟩
       ·replace H:=pi3_ H;obtain⟨rfl,rfl,rfl⟩:=H
        go_wp2_with (first|(refine gm_ 67 Tryz.func85 (decimal_plain.calls _ _ _ A37.out) ?_;intro w43 hb;replace BK127:=kb_ BK127 hb;replace HB:=bs_ HB hb;(try clear hb))|(refine gm_ 69 Tryz.func85 (decimal_plain.calls _ _ _ A38.out) ?_;intro w44 hb;replace BK127:=kb_ BK127 hb;replace HB:=bs_ HB hb;(try clear hb))|(refine gm_ 72 Tryz.func86 (whole_Neg.calls _ _ _ A40.out) ?_;intro w45 hb;replace BK127:=kb_ BK127 hb;replace HB:=bs_ HB hb;(try clear hb))|(refine gm_ 76 Tryz.func87 (rat_Make.calls _ _ _ _ _ _ (lb_ HLD HB) A41.out) ?_;intro w46 hb;replace BK127:=kb_ BK127 hb;replace HB:=bs_ HB hb;(try clear hb))|(refine bg_ 14 #[.string ⟨#[]⟩,.string ⟨#[]⟩] 23 HB ?_;clear HB;intro gb147 w47 hg hb BK147 GW147 HB;have NB127_147:=nl_ BK127 hg;have NB147_127:=ng_ BK127 hg;replace BK127:=kb_ BK127 hb;clear hb hg;have hnb48:=NB147_127.out;have hnc48:=NB127_147.out;have hz49147:=cs2_ BK147;have hz50127:=cs2_ BK127))
        refine bodyPost_ret (results_ct rfl _ _ gb127 23 #[.string t144,.string t145] (0,0) _ rfl (by refine k_ ?_;refine blk_put (cs:=#[.string t144,.string ⟨#[]⟩]) ?_ 1 _ rfl;refine k_ ?_;refine blk_put (cs:=#[.string ⟨#[]⟩,.string ⟨#[]⟩]) ?_ 0 _ rfl;refine k_ ?_;refine blk_far ?_ NB127_147.out _;refine k_ ?_;refine blk_far ?_ NB127_147.out _;refine k_ ?_;exact BK127.out) Tryz.underlying23 rfl (by kernel_rfl)) rfl ?_;exact⟨er_,b_ HB.out⟩
       ·replace H:=pi3_ H;obtain⟨rfl,rfl,rfl⟩:=H
        go_wp2_with (first|(refine gm_ 67 Tryz.func85 (decimal_plain.calls _ _ _ A37.out) ?_;intro w51 hb;replace BK127:=kb_ BK127 hb;replace HB:=bs_ HB hb;(try clear hb))|(refine gm_ 69 Tryz.func85 (decimal_plain.calls _ _ _ A38.out) ?_;intro w52 hb;replace BK127:=kb_ BK127 hb;replace HB:=bs_ HB hb;(try clear hb))|(refine gm_ 72 Tryz.func86 (whole_Neg.calls _ _ _ A40.out) ?_;intro w53 hb;replace BK127:=kb_ BK127 hb;replace HB:=bs_ HB hb;(try clear hb))|(refine gm_ 76 Tryz.func87 (rat_Make.calls _ _ _ _ _ _ (lb_ HLD HB) A41.out) ?_;intro w54 hb;replace BK127:=kb_ BK127 hb;replace HB:=bs_ HB hb;(try clear hb))|(refine bg_ 14 #[.string ⟨#[]⟩,.string ⟨#[]⟩] 23 HB ?_;clear HB;intro gb147 w55 hg hb BK147 GW147 HB;have NB127_147:=nl_ BK127 hg;have NB147_127:=ng_ BK127 hg;replace BK127:=kb_ BK127 hb;clear hb hg;have hnb56:=NB147_127.out;have hnc56:=NB127_147.out;have hz57147:=cs2_ BK147;have hz58127:=cs2_ BK127))
        refine bodyPost_ret (results_ct rfl _ _ gb127 23 #[.string ⟨#[]⟩,.string ⟨#[]⟩] (0,0) _ rfl (by refine k_ ?_;refine blk_put (cs:=#[.string ⟨#[]⟩,.string ⟨#[]⟩]) ?_ 1 _ rfl;refine k_ ?_;refine blk_put (cs:=#[.string ⟨#[]⟩,.string ⟨#[]⟩]) ?_ 0 _ rfl;refine k_ ?_;refine blk_far ?_ NB127_147.out _;refine k_ ?_;refine blk_far ?_ NB127_147.out _;refine k_ ?_;exact BK127.out) Tryz.underlying23 rfl (by kernel_rfl)) rfl ?_;exact⟨er_,b_ HB.out⟩
      ·replace H:=bi_ H;obtain⟨⟨t148,t149,t150⟩,A59,H⟩:=H;(try dsimp only at H);replace H:=bt_ H;rcases H with ⟨rfl,H⟩|⟨rfl,H⟩
       ·replace H:=pi3_ H;obtain⟨rfl,rfl,rfl⟩:=H
        go_wp2_with (first|(refine gm_ 67 Tryz.func85 (decimal_plain.calls _ _ _ A37.out) ?_;intro w61 hb;replace BK127:=kb_ BK127 hb;replace HB:=bs_ HB hb;(try clear hb))|(refine gm_ 69 Tryz.func85 (decimal_plain.calls _ _ _ A38.out) ?_;intro w62 hb;replace BK127:=kb_ BK127 hb;replace HB:=bs_ HB hb;(try clear hb))|(refine gm_ 76 Tryz.func87 (rat_Make.calls _ _ _ _ _ _ (lb_ HLD HB) A59.out) ?_;intro w63 hb;replace BK127:=kb_ BK127 hb;replace HB:=bs_ HB hb;(try clear hb))|(refine bg_ 14 #[.string ⟨#[]⟩,.string ⟨#[]⟩] 23 HB ?_;clear HB;intro gb151 w64 hg hb BK151 GW151 HB;have NB127_151:=nl_ BK127 hg;have NB151_127:=ng_ BK127 hg;replace BK127:=kb_ BK127 hb;clear hb hg;have hnb65:=NB151_127.out;have hnc65:=NB127_151.out;have hz66151:=cs2_ BK151;have hz67127:=cs2_ BK127))
        refine bodyPost_ret (results_ct rfl _ _ gb127 23 #[.string t148,.string t149] (0,0) _ rfl (by refine k_ ?_;refine blk_put (cs:=#[.string t148,.string ⟨#[]⟩]) ?_ 1 _ rfl;refine k_ ?_;refine blk_put (cs:=#[.string ⟨#[]⟩,.string ⟨#[]⟩]) ?_ 0 _ rfl;refine k_ ?_;refine blk_far ?_ NB127_151.out _;refine k_ ?_;refine blk_far ?_ NB127_151.out _;refine k_ ?_;exact BK127.out) Tryz.underlying23 rfl (by kernel_rfl)) rfl ?_;exact⟨er_,b_ HB.out⟩
       ·replace H:=pi3_ H;obtain⟨rfl,rfl,rfl⟩:=H
        go_wp2_with (first|(refine gm_ 67 Tryz.func85 (decimal_plain.calls _ _ _ A37.out) ?_;intro w68 hb;replace BK127:=kb_ BK127 hb;replace HB:=bs_ HB hb;(try clear hb))|(refine gm_ 69 Tryz.func85 (decimal_plain.calls _ _ _ A38.out) ?_;intro w69 hb;replace BK127:=kb_ BK127 hb;replace HB:=bs_ HB hb;(try clear hb))|(refine gm_ 76 Tryz.func87 (rat_Make.calls _ _ _ _ _ _ (lb_ HLD HB) A59.out) ?_;intro w70 hb;replace BK127:=kb_ BK127 hb;replace HB:=bs_ HB hb;(try clear hb))|(refine bg_ 14 #[.string ⟨#[]⟩,.string ⟨#[]⟩] 23 HB ?_;clear HB;intro gb151 w71 hg hb BK151 GW151 HB;have NB127_151:=nl_ BK127 hg;have NB151_127:=ng_ BK127 hg;replace BK127:=kb_ BK127 hb;clear hb hg;have hnb72:=NB151_127.out;have hnc72:=NB127_151.out;have hz73151:=cs2_ BK151;have hz74127:=cs2_ BK127))
        refine bodyPost_ret (results_ct rfl _ _ gb127 23 #[.string ⟨#[]⟩,.string ⟨#[]⟩] (0,0) _ rfl (by refine k_ ?_;refine blk_put (cs:=#[.string ⟨#[]⟩,.string ⟨#[]⟩]) ?_ 1 _ rfl;refine k_ ?_;refine blk_put (cs:=#[.string ⟨#[]⟩,.string ⟨#[]⟩]) ?_ 0 _ rfl;refine k_ ?_;refine blk_far ?_ NB127_151.out _;refine k_ ?_;refine blk_far ?_ NB127_151.out _;refine k_ ?_;exact BK127.out) Tryz.underlying23 rfl (by kernel_rfl)) rfl ?_;exact⟨er_,b_ HB.out⟩
end Pd
theorem rep_f {c:Int} (h0:0≤c) (h1:c≤140737488355328):strings_Repeat.f ⟨#[48]⟩ c=some (zerosB c):=by
 unfold strings_Repeat.f
 rw[if_pos]
 ·show some (⟨(Lib.repeatL [48] c.toNat).toArray⟩:ByteArray)=some (zerosB c)
  rw[repeatL_one]
  rfl
 ·rw[Bool.and_eq_true,Bool.and_eq_true,decide_eq_true_eq,decide_eq_true_eq,decide_eq_true_eq]
  refine⟨⟨h0,?_⟩,by omega⟩
  show 1 * c.toNat≤_
  omega
theorem power_f {n:Nat} (h:n≤1000000):Pd.decimal_power.f (n:Int)=some (natB (10 ^ n)):=by
 unfold Pd.decimal_power.f
 rw[rep_f (by omega) (by omega),ob_,if_pos (by rw[zerosB_size];omega),tenBB]
theorem times_loop {b:Nat} (hb:2≤b) (hs:sz b≤50000):∀ (n:Nat),0<n→sz n≤50000→∀ (c:Nat),c+(tms b n).1≤1000000000→∀ k,(tms b n).1+1≤k →
  Pd.decimal_times.l0 k (natB n) (natB b) (c:Int)=some (((c+(tms b n).1:Nat):Int),natB (tms b n).2)
 | n,hn,hz,c,hc,k,hk=>by
  obtain⟨k,rfl⟩:∃ m,k=m+1:=⟨k-1,by omega⟩
  simp only[Pd.decimal_times.l0]
  rw[fDiv hz hs (by omega),ob_]
  by_cases h:n % b=0
  ·have e:=tms_step hb hn h
   rw[e] at hc hk ⊢
   have hd:b ∣ n:=Nat.dvd_of_mod_eq_zero h
   have h1:0<n / b:=Nat.div_pos (Nat.le_of_dvd hn hd) (by omega)
   have e2:((c:Int)+1)=((c+1:Nat):Int):=by omega
   rw[if_pos (natB_toList_zero.2 h),w64 (by omega) (by omega),e2,times_loop hb hs (n / b) h1 (Nat.le_trans (sz_mono (Nat.div_le_self _ _)) hz) (c+1) (by dsimp only at hc;omega) k (by dsimp only at hk;omega)]
   congr 2
   dsimp only
   omega
  ·rw[if_neg (fun z=>h (natB_toList_zero.1 z)),tms_stop h]
   rfl
 termination_by n=>n
 decreasing_by exact Nat.div_lt_self hn hb
theorem natB_two:(⟨#[50]⟩:ByteArray)=natB 2:=by kernel_rfl
theorem natB_five:(⟨#[53]⟩:ByteArray)=natB 5:=by kernel_rfl
theorem sz_two:sz 2≤50000:=by decide +kernel
theorem sz_five:sz 5≤50000:=by decide +kernel
theorem places_f {n:Nat} (hn:0<n) (hz:sz n≤10000) (k:Nat) (hk:4 * sz n+2≤k):Pd.decimal_places.f k (natB n)=some ((plD n:Int),finD n):=by
 unfold Pd.decimal_places.f Pd.decimal_times.f
 have t1:=tms_le (b:=2) (by decide) hn (lt_sz n)
 have hp:=tms_pos (b:=2) (by decide) hn
 have hl:=tms_left_le (b:=2) (by decide) hn
 have t2:=tms_le (b:=5) (by decide) hp (Nat.lt_of_le_of_lt hl (lt_sz n))
 have e1:=times_loop (b:=2) (by decide) sz_two n hn (by omega) 0 (by omega) k (by omega)
 have e2:=times_loop (b:=5) (by decide) sz_five (tms 2 n).2 hp (Nat.le_trans (sz_mono hl) (by omega)) 0 (by omega) k (by omega)
 rw[Nat.zero_add] at e1 e2
 rw[natB_two,natB_five]
 have z:(0:Int)=((0:Nat):Int):=rfl
 rw[z,e1,ob_]
 dsimp only
 rw[e2,ob_,mx_nat]
 have e3:((natB (tms 5 (tms 2 n).2).2).toList == ([49]:List UInt8))=finD n:=by
  unfold finD
  by_cases h:(tms 5 (tms 2 n).2).2=1
  ·rw[natB_toList_one.2 h,h]
   rfl
  ·rw[beq_eq_false_iff_ne.2 (fun z=>h (natB_toList_one.1 z)),beq_eq_false_iff_ne.2 h]
 rw[e3]
 rfl
theorem Places_f {x:BB} (hx:x.1.size+x.2.size≤900) (k:Nat) (hk:3700≤k):Pd.decimal_Places.f k x.1 x.2=some (placesS x):=by
 unfold Pd.decimal_Places.f
 have em:rat_May.f x.1 x.2=some (mayR x):=by
  unfold rat_May.f
  rw[if_pos (show smR (x.1,x.2)=true from decide_eq_true ⟨by dsimp only;omega,by dsimp only;omega⟩)]
 rw[em,ob_]
 unfold placesS
 by_cases hm:mayR x=true
 ·obtain⟨q,rfl⟩:=of_mayR hm
  have hs:sz q.den≤900:=Nat.le_trans (le_szR_den q) hx
  have hd:0<q.den:=Nat.pos_of_ne_zero q.den_nz
  rw[if_pos hm,hm,Bool.true_and,ratR_rT]
  show ((Pd.decimal_places.f k (natB q.den)).bind fun bt110=>_) = _
  rw[places_f hd (by omega) k (by omega),ob_]
  dsimp only
  split <;> rfl
 ·rw[if_neg hm,if_neg (fun z=>hm (Bool.and_eq_true_iff.1 z).1)]
theorem pad_bytes (n m:Nat) (hn:n≤1000000) (hm:sz m≤1000000) :
  strings_Repeat.f ⟨#[48]⟩ (mx (wrap64 ((wrap64 ((n:Int)+1))-((natB m).size:Int))) 0)=some (zerosB ((n+1-(Lib.decDigits m).length:Nat):Int))∧(zerosB ((n+1-(Lib.decDigits m).length:Nat):Int)++natB m).data.toList=padL n (Lib.decDigits m):=by
 have e:=sz_dig m
 have e1:((natB m).size:Int)=((Lib.decDigits m).length:Int):=by rw[natB_size]
 have e2:mx (wrap64 ((wrap64 ((n:Int)+1))-((natB m).size:Int))) 0=((n+1-(Lib.decDigits m).length:Nat):Int):=by
  rw[e1,w64 (x:=(n:Int)+1) (by omega) (by omega),w64 (by omega) (by omega)]
  unfold mx
  split <;> omega
 rw[e2]
 refine⟨rep_f (by omega) (by omega),?_⟩
 rw[Joins.data_append,zerosB_list,natB_list,Int.toNat_natCast]
 rfl
theorem pad_size (n m:Nat):(padL n (Lib.decDigits m)).length≤n+1+(Lib.decDigits m).length:=by
 unfold padL
 rw[List.length_append,List.length_replicate]
 omega
theorem Print_f {x:BB} (hx:x.1.size+x.2.size≤900) (k:Nat) (hk:3700≤k):Pd.decimal_Print.f k x.1 x.2=some (printS x):=by
 unfold Pd.decimal_Print.f
 have em:rat_May.f x.1 x.2=some (mayR x):=by
  unfold rat_May.f
  rw[if_pos (show smR (x.1,x.2)=true from decide_eq_true ⟨by dsimp only;omega,by dsimp only;omega⟩)]
 rw[Places_f hx k hk,ob_,em,ob_]
 unfold printS
 by_cases hm:mayR x=true
 ·obtain⟨q,rfl⟩:=of_mayR hm
  have hs:szR q≤900:=hx
  have h1:=le_szR_num q
  have h2:=le_szR_den q
  have hd:0<q.den:=Nat.pos_of_ne_zero q.den_nz
  rw[if_pos hm,if_pos hm,ratR_rT,places_rT]
  unfold printL
  by_cases hf:finD q.den=true
  ·rw[if_pos hf,if_pos hf]
   dsimp only
   rw[if_pos rfl]
   by_cases h0:plD q.den=0
   ·rw[if_pos (by omega),if_pos h0]
    rfl
   ·rw[if_neg (by omega),if_neg h0]
    have hp:=plD_le hd (lt_sz q.den)
    have hm2:sz q.num.natAbs≤szI q.num:=le_szI _
    have s10:sz (10 ^ plD q.den)≤plD q.den+1:=sz_le (Nat.pow_lt_pow_right (by decide) (by omega)) (by omega)
    have su:sz (10 ^ plD q.den / q.den)≤plD q.den+1:=Nat.le_trans (sz_mono (Nat.div_le_self _ _)) s10
    have sp:=sz_mul q.num.natAbs (10 ^ plD q.den / q.den)
    rw[power_f (by omega),ob_]
    show ((nat_Div.f (natB (10 ^ plD q.den)) (natB q.den)).bind fun bt118=>_) = _
    rw[fDiv (by omega) (by omega) (by omega),ob_]
    show ((whole_Abs.f (intB q.num)).bind fun t121=>_) = _
    rw[gAbs (by omega),ob_,intB_nat,fMul (by omega) (by omega),ob_]
    obtain⟨p1,p2⟩:=pad_bytes (plD q.den) (q.num.natAbs * (10 ^ plD q.den / q.den)) (by omega) (by omega)
    rw[p1,ob_]
    have hsz:=pad_size (plD q.den) (q.num.natAbs * (10 ^ plD q.den / q.den))
    have hle:=pad_len (plD q.den) (Lib.decDigits (q.num.natAbs * (10 ^ plD q.den / q.den)))
    have e4:=sz_dig (q.num.natAbs * (10 ^ plD q.den / q.den))
    rw[if_pos (by rw[← ByteArray.size_append,size_len,p2];omega)]
    show ((whole_Sign.f (intB q.num)).bind fun t124=>_) = _
    rw[gSign (by omega),ob_]
    generalize hT:zerosB ((plD q.den+1-(Lib.decDigits (q.num.natAbs * (10 ^ plD q.den / q.den))).length:Nat):Int)++natB (q.num.natAbs * (10 ^ plD q.den / q.den))=T at *
    have eT:T.size=(padL (plD q.den) (Lib.decDigits (q.num.natAbs * (10 ^ plD q.den / q.den)))).length:=by rw[size_len,p2]
    unfold digsL
    rw[← p2]
    by_cases hn:q.num<0
    ·rw[if_pos (by rw[cmp_lt' hn];decide),tail_f (s:=⟨#[45]⟩) (p:=1) (by omega) (by omega) rfl (by decide)]
     unfold sgL
     rw[if_pos hn]
    ·rw[if_neg,tail_f (s:=⟨#[]⟩) (p:=0) (by omega) (by omega) rfl (by decide)]
     ·unfold sgL
      rw[if_neg hn]
     ·unfold Lib.compareInt
      (repeat' split) <;> omega
  ·rw[if_neg hf,if_neg hf]
   dsimp only
   rw[if_neg (by decide)]
   have l1:(⟨#[47]⟩:ByteArray).size=1:=rfl
   rw[if_pos (show (rT q).1.size+1≤9223372036854775807 by omega),if_pos (show ((rT q).1++(⟨#[47]⟩:ByteArray)).size+(rT q).2.size≤9223372036854775807 by rw[ByteArray.size_append];omega)]
   congr 1
   apply bext
   rw[Joins.data_append,Joins.data_append]
   show ((intB q.num).data.toList ++ [47])++(natB q.den).data.toList=(intB q.num).data.toList++47 :: Lib.decDigits q.den
   rw[natB_list,List.append_assoc]
   rfl
 ·rw[if_neg hm,if_neg hm]
  rfl
theorem digits_f {s:ByteArray} (h:s.size≤9223372036854775807):Pd.decimal_digits.f s=some (digL s.data.toList):=by
 unfold Pd.decimal_digits.f
 rw[ByteArray.toList_eq]
 unfold digL
 by_cases h0:s.data.toList=[]
 ·rw[if_pos h0,decide_eq_false (fun z=>z h0)]
  rfl
 ·rw[if_neg h0,decide_eq_true h0,Bool.true_and]
  have e:strings_Trim.f s (⟨#[48,49,50,51,52,53,54,55,56,57]⟩:ByteArray)=some ⟨(Lib.trimS s.data.toList decs).toArray⟩:=by
   unfold strings_Trim.f
   rw[if_pos]
   ·rfl
   ·rw[decide_eq_true h]
    rfl
  rw[e,ob_,ByteArray.toList_eq]
  show some (Lib.trimS s.data.toList decs == []) = _
  congr 1
  by_cases ha:s.data.toList.all isDig=true
  ·rw[(trim_nil _).2 ha,ha]
   rfl
  ·rw[beq_eq_false_iff_ne.2 (fun z=>ha ((trim_nil _).1 z))]
   exact((Bool.not_eq_true _).mp ha).symm
theorem plain_f {s:ByteArray} (h:digL s.data.toList=true):Pd.decimal_plain.f s=some (natB (num s.data.toList)):=by
 unfold Pd.decimal_plain.f strings_TrimLeft.f
 rw[if_pos rfl,ob_,ByteArray.toList_eq]
 show (if Lib.trimLeftB s.data.toList 48=[] then _ else _) = _
 have hl:=left_dec h
 by_cases h0:Lib.trimLeftB s.data.toList 48=[]
 ·rw[if_pos h0] at hl ⊢
  congr 1
  apply bext
  rw[natB_list,← hl]
 ·rw[if_neg h0] at hl ⊢
  congr 1
  apply bext
  rw[natB_list,← hl]
theorem hMake0 {x:Int} (hx:szI x≤4000):rat_Make.f (intB x) (natB 0)=some (noB,noB,false):=by
 unfold rat_Make.f rmakeS
 have e:numW (natB 0)=0:=by rw[← intB_nat,numW_int];rfl
 rw[if_pos (show smR (intB x,natB 0)=true from decide_eq_true ⟨hx,by dsimp only;rw[natB_zero];decide⟩),e,if_neg]
 ·rfl
 ·rw[Bool.and_eq_true,decide_eq_true_eq]
  exact fun z=>z.2 rfl
theorem make_res {m:Bool} {A B:List UInt8} (hA:digL A=true) (hB:digL B=true) (la:A.length≤3000) (lb:B.length≤3000) :
  ((rat_Make.f (intB (withS m (num A))) (natB (num B))).bind fun bt=>(if bt.2.2=true then (some (bt.1,bt.2.1,(0:Int))) else (some ((⟨#[]⟩:ByteArray),(⟨#[]⟩:ByteArray),40))))=some (ansQ (resL m A B)):=by
 have za:=num_sz (head_dig' hA).1
 have zb:=num_sz (head_dig' hB).1
 have wa:=withS_sz m (num A)
 unfold resL
 rw[hA,hB,Bool.true_and,if_pos rfl]
 by_cases h0:num B=0
 ·rw[if_pos h0,h0,hMake0 (by omega),ob_]
  rfl
 ·have hm:=hMake (x:=withS m (num A)) (y:=(num B:Int)) (by omega) (by rw[szI_nat];omega) (by omega)
  rw[intB_nat] at hm
  rw[if_neg h0,hm,ob_]
  rfl
theorem j1_true (m:Bool) (A B:ByteArray) (k:Nat):Pd.decimal_Parse.j1 (k+1) m A B true=some (ansQ none):=by
 simp only[Pd.decimal_Parse.j1]
 rfl
theorem j0_f {s A B:ByteArray} (m:Bool) (la:A.size≤3000) (lb:B.size≤3000) (k:Nat) :
  Pd.decimal_Parse.j0 (k+2) s m A B=some (ansQ (if 1000<s.size then none else resL m A.data.toList B.data.toList)):=by
 show Pd.decimal_Parse.j0 (k+1+1) s m A B = _
 simp only[Pd.decimal_Parse.j0]
 by_cases h:1000<s.size
 ·rw[if_pos (show (s.size:Int)>1000 by omega),if_pos h,j1_true]
 ·rw[if_neg (show ¬ (s.size:Int)>1000 by omega),if_neg h,digits_f (by omega),ob_]
  by_cases hA:digL A.data.toList=true
  ·rw[if_pos hA,digits_f (by omega),ob_]
   by_cases hB:digL B.data.toList=true
   ·have e:(!digL B.data.toList)=false:=by rw[hB];rfl
    rw[e]
    simp only[Pd.decimal_Parse.j1]
    rw[if_neg (by decide),plain_f hA,ob_,plain_f hB,ob_]
    have mk:=make_res (m:=m) hA hB (by rw[← size_len];exact la) (by rw[← size_len];exact lb)
    have za:=num_sz (head_dig' hA).1
    rw[← size_len] at za
    cases m with
    | true =>
     have hn:=gNeg (x:=(num A.data.toList:Int)) (by rw[szI_nat];omega)
     rw[intB_nat] at hn
     rw[if_pos rfl,hn,ob_]
     exact mk
    | false =>
     rw[if_neg (by decide)]
     have e2:intB (withS false (num A.data.toList))=natB (num A.data.toList):=intB_nat _
     rw[e2] at mk
     exact mk
   ·have e:(!digL B.data.toList)=true:=by rw[(Bool.not_eq_true _).mp hB];rfl
    rw[e,j1_true]
    unfold resL
    rw[if_neg (fun z=>hB (Bool.and_eq_true_iff.1 z).2)]
  ·rw[if_neg hA,j1_true]
   unfold resL
   rw[if_neg (fun z=>hA (Bool.and_eq_true_iff.1 z).1)]
theorem cut47 {s:ByteArray} (h:s.size≤100000) (c:UInt8):strings_Cut.f s ⟨#[c]⟩=some (match cutAt c s.data.toList with|some (a,b)=>(⟨a.toArray⟩,⟨b.toArray⟩,true)|none=>(s,⟨#[]⟩,false)):=by
 unfold strings_Cut.f cutB
 rw[if_pos (by omega)]
 have e:(⟨#[c]⟩:ByteArray).data.toList=[c]:=rfl
 rw[e,cut_one]
 cases cutAt c s.data.toList <;> rfl
theorem amtB_le (s:ByteArray):(amtB s).size≤s.size:=by
 rw[size_len,size_len,amtB_list]
 exact cutL_len _
theorem Parse_f {s:ByteArray} (h:s.size≤1100) (k:Nat) (hk:2≤k):Pd.decimal_Parse.f k s=some (parseS s):=by
 obtain⟨k,rfl⟩:∃ j,k=j+2:=⟨k-2,by omega⟩
 unfold Pd.decimal_Parse.f strings_CutPrefix.f
 rw[if_pos rfl,ob_,parseS_ans]
 have ha:=amtB_le s
 have hl:=amtB_list s
 unfold parseL
 rw[parseA_forms,← hl,← size_len]
 show ((strings_Cut.f (amtB s) ⟨#[47]⟩).bind fun bt133=>_) = _
 rw[cut47 (by omega),ob_]
 have hm:(cutL s.data.toList).2=minusB s:=rfl
 rw[hm]
 cases h1:cutAt 47 (amtB s).data.toList with
 | some p =>
  obtain⟨a,b⟩:=p
  have l1:=cutAt_len h1
  rw[← size_len] at l1
  dsimp only
  rw[if_pos rfl,j0_f (s:=s) (minusB s) (by show a.toArray.size≤_;rw[List.size_toArray];omega) (by show b.toArray.size≤_;rw[List.size_toArray];omega)]
 | none =>
  dsimp only
  rw[if_neg (by decide),cut47 (by omega),ob_]
  have last:Pd.decimal_Parse.j0 (k+2) s (minusB s) (amtB s) ⟨#[49]⟩=some (ansQ (if 1000<s.size then none else resL (minusB s) (amtB s).data.toList [49])):=j0_f (minusB s) (by omega) (by decide) k
  cases h2:cutAt 46 (amtB s).data.toList with
  | none =>
   dsimp only
   rw[if_neg (by decide),last]
  | some p =>
   obtain⟨a,b⟩:=p
   have l1:=cutAt_len h2
   rw[← size_len] at l1
   have sa:(⟨a.toArray⟩:ByteArray).size=a.length:=List.size_toArray
   have sb:(⟨b.toArray⟩:ByteArray).size=b.length:=List.size_toArray
   rw[point_not h2] at last
   dsimp only
   rw[if_pos rfl,digits_f (by omega),ob_]
   by_cases hA:digL a=true
   ·rw[if_pos hA,digits_f (by omega),ob_]
    by_cases hB:digL b=true
    ·rw[if_pos hB,if_pos (by omega),sb,power_f (by omega),ob_,j0_f (s:=s) (minusB s) (by rw[ByteArray.size_append];omega) (by rw[natB_size,← sz_dig];exact Nat.le_trans (sz_le (k:=b.length+1) (Nat.pow_lt_pow_right (by decide) (by omega)) (by omega)) (by omega)),← tenBB,ten_list,Joins.data_append,hA,hB,Bool.true_and,if_pos rfl]
    ·rw[if_neg hB,last,if_neg (fun z=>hB (Bool.and_eq_true_iff.1 z).2)]
   ·rw[if_neg hA,last,if_neg (fun z=>hA (Bool.and_eq_true_iff.1 z).1)]
def smD (x:BB):Bool:=decide (x.1.size+x.2.size≤900)
theorem smD_le {x:BB} (h:smD x=true):x.1.size+x.2.size≤900:=od_ h
def decimal_Places.f (a0_0 a0_1:ByteArray):Option (Int×Bool):=if smD (a0_0,a0_1)=true then some (placesS (a0_0,a0_1)) else none
def decimal_Print.f (a0_0 a0_1:ByteArray):Option ByteArray:=if smD (a0_0,a0_1)=true then some (printS (a0_0,a0_1)) else none
theorem decimal_Print.calls (a0_0 a0_1 r:ByteArray) (w:World) (hL_:Laid w) (h:decimal_Print.f a0_0 a0_1=some r) :
  Calls Tryz.prog 34 #[.agg #[.string a0_0,.string a0_1]] w fun e w'=>e=.returned (.string r)∧Below w.heap.size w w':=by
 unfold decimal_Print.f at h
 split at h
 ·rename_i hp
  rw[← Print_f (x:=(a0_0,a0_1)) (smD_le hp) 3700 (nr_ _)] at h
  exact Pd.decimal_Print.calls 3700 a0_0 a0_1 r w hL_ h
 ·cases h
def decimal_Parse.f (a0:ByteArray):Option (ByteArray×ByteArray×Int):=if a0.size≤1100 then some (parseS a0) else none
theorem decimal_Parse.calls (a0 r1 r2:ByteArray) (r3:Int) (w:World) (hL_:Laid w) (h:decimal_Parse.f a0=some (r1,r2,r3)) :
  Calls Tryz.prog 43 #[.string a0] w fun e w'=>e=.returned (.tuple #[.agg #[.string r1,.string r2],.int .i64 r3])∧Below w.heap.size w w':=by
 unfold decimal_Parse.f at h
 split at h
 ·rename_i hp
  rw[← Parse_f hp 2 (nr_ _)] at h
  exact Pd.decimal_Parse.calls 2 a0 r1 r2 r3 w hL_ h
 ·cases h
theorem Rd.ok_eq {w:World} {g gb i:Nat} {ws:List ByteArray} {a b:Bool} (h:Rd w g gb ws i a) (e:a=b):Rd w g gb ws i b:=e▸h
theorem Rd.far {w:World} {g gb i k:Nat} {ws:List ByteArray} {ok:Bool} (h:Rd w g gb ws i ok) (h1:k≠g) (h2:∀ (j:Nat) x,ws[j]?=some x→k≠gb) (a:Nat) (v:Value):Rd (w.setCell ⟨k,a,none⟩ v) g gb ws i ok:=by
 obtain⟨⟨A,c,c0,hA⟩,c1,f0,f1,row,ne,sz,inb⟩:=h
 refine⟨⟨A,c,?_,hA⟩,?_,?_,?_,?_,ne,sz,?_⟩
 ·rw[far_cell _ h1];exact c0
 ·rw[far_cell _ h1];exact c1
 ·rw[World.frozen?_setCell];exact f0
 ·rw[World.frozen?_setCell];exact f1
 ·intro j x hj
  rw[far_cell _ (h2 j x hj)]
  exact row j x hj
 ·simpa using inb
theorem num_none {g:Nat} {w0 w:World} (hL:Laid w0) (hb0:Below w0.heap.size w0 w) :
  Calls Tryz.prog 21 #[.pointer (some ⟨g,0,none⟩),.bool false] w fun e w'=>e=.returned (.agg #[.string (rT 0).1,.string (rT 0).2])∧Below w.heap.size w w':=by
 have hsm:rat_Of.f 0=some ((rT 0).1,(rT 0).2):=if_pos (by decide)
 generalize (rT 0).1=n at hsm ⊢
 generalize (rT 0).2=d at hsm ⊢
 have hu23:=Tryz.underlying23
 go_enter Tryz.func21,Tryz.ntmps21
 go_wp2_with (first|((with_reducible refine gate_dst (N:=4) rfl ?_);refine be_ 4 #[.string ⟨#[]⟩,.string ⟨#[]⟩] 23 ?_;intro gr hgr w1 hr b1;have hge:w.heap.size≤gr:=Nat.le_of_eq hgr.symm;clear hgr)|(go_at_call 42;refine(rat_Of.calls 0 n d _ (hL.below (hb0.trans (b1.mono (below_size hb0)))) hsm).mono ?_;rintro e w2 ⟨rfl,b2⟩;have hr2:=blk_below hr b2;have hc0:=bc_ ⟨hr2⟩ 0 rfl;have hc1:=bc_ ⟨hr2⟩ 1 rfl;have hf0:=blk_frozen hr2 0;have hf1:=blk_frozen hr2 1))
 refine bodyPost_ret (results_cell_row rfl _ _ gr 23 #[.string n,.string d] (0,0) _ rfl (rp_ hr2) Tryz.underlying23 rfl (by kernel_rfl)) rfl ?_
 exact⟨rfl,((b1.trans (b2.mono b1.size)).setCell hge _).setCell hge _⟩
theorem num_calls {g gb i:Nat} {ws:List ByteArray} {ok:Bool} {w0 w:World} (hL:Laid w0) (hb0:Below w0.heap.size w0 w) (hB:w0.heap.size≤g) (h:Rd w g gb ws i ok) (hsz:(ws.getD i ⟨#[]⟩).size≤1100) :
  Calls Tryz.prog 21 #[.pointer (some ⟨g,0,none⟩),.bool true] w fun e w'=>e=.returned (.agg #[.string (parseS (ws.getD i ⟨#[]⟩)).1,.string (parseS (ws.getD i ⟨#[]⟩)).2.1])∧Rd w' g gb ws (i+1) ((ok&&decide (i<ws.length))&&decide ((parseS (ws.getD i ⟨#[]⟩)).2.2=0))∧Below w0.heap.size w0 w'∧(∀ b,b≠g→b<w.heap.size→w'.heap[b]?=w.heap[b]?):=by
 have hw:=fun w1 (hb:Below w0.heap.size w0 w1) (hr:Rd w1 g gb ws i ok)=>word_calls (B:=w0.heap.size) hB hr
 have hsm:decimal_Parse.f (ws.getD i ⟨#[]⟩)=some ((parseS (ws.getD i ⟨#[]⟩)).1,(parseS (ws.getD i ⟨#[]⟩)).2.1,(parseS (ws.getD i ⟨#[]⟩)).2.2):=if_pos hsz
 generalize ws.getD i ⟨#[]⟩=s at hw hsm ⊢
 generalize (parseS s).1=n at hsm ⊢
 generalize (parseS s).2.1=d at hsm ⊢
 generalize (parseS s).2.2=c at hsm ⊢
 generalize hok:(ok&&decide (i<ws.length))=ok1 at hw ⊢
 have hu23:=Tryz.underlying23
 clear hsz hok
 have hin:=h.inb
 rcases Decidable.em (c=0) with rfl|hc
 all_goals cases ok1
 all_goals
  go_enter Tryz.func21,Tryz.ntmps21
  go_wp2_with (first|((with_reducible refine gate_dst (N:=4) rfl ?_);refine be_ 4 #[.string ⟨#[]⟩,.string ⟨#[]⟩] 23 ?_;intro gr hgr w1 hr b1;have hge:w.heap.size≤gr:=Nat.le_of_eq hgr.symm;clear hgr;have hne:gr≠g:=Nat.ne_of_gt (Nat.lt_of_lt_of_le hin hge);have a1:=hb0.trans (b1.mono (below_size hb0)))|((with_reducible refine gate_dst (N:=5) rfl ?_);refine be_ 5 #[.string ⟨#[]⟩,.string ⟨#[]⟩] 23 ?_;intro gx hgx w4 hx b4;have hnx:gx≠gr:=(by rw[hgx];exact Nat.ne_of_gt (blk_lt hr3));have hng:gx≠g:=(by rw[hgx];exact Nat.ne_of_gt h3.inb);have hgex:w.heap.size≤gx:=(by rw[hgx];exact Nat.le_trans b1.size (Nat.le_trans b2.size b3.size));clear hgx;have a4:=a3.trans (b4.mono (below_size a3));have h4:=h3.below b4;have hr4:=blk_below hr3 b4;have c0:=bc_ ⟨hr4⟩ 0 rfl;have c1:=bc_ ⟨hr4⟩ 1 rfl;have f0:=blk_frozen hr4 0;have f1:=blk_frozen hr4 1;have d0:=bc_ ⟨hx⟩ 0 rfl;have d1:=bc_ ⟨hx⟩ 1 rfl;have k0:=blk_frozen hx 0;have k1:=blk_frozen hx 1;have e1:=h4.c1;have e2:=h4.f1)|(refine gl_ 12 Tryz.func18 #[.pointer (some ⟨g,0,none⟩)] ?_;refine mo_ (hw _ a1 (h.below b1)) ?_;rintro w2 ⟨h2,b2,q2⟩;have a2:=a1.trans b2;have hr2:=(q2 gr hne).trans hr)|(refine gl_ 13 Tryz.func43 #[.string s] ?_;refine mo_ (decimal_Parse.calls s n d _ _ (hL.below a2) hsm) ?_;intro w3 b3;have a3:=a2.trans (b3.mono (below_size a2));have h3:=h2.below b3;have hr3:=blk_below hr2 b3))
  refine bodyPost_ret (results_cell_row rfl _ _ gr 23 #[.string n,.string d] (0,0) _ rfl (blk_put (cs:=#[.string n,.string ⟨#[]⟩]) (blk_put (cs:=#[.string ⟨#[]⟩,.string ⟨#[]⟩]) (blk_far (blk_far (blk_far hr4 hnx.symm _) hnx.symm _) hne _) 0 _ rfl) 1 _ rfl) Tryz.underlying23 rfl (by kernel_rfl)) rfl ?_
  have hgb:∀ (j:Nat) x,ws[j]?=some x→gb<w.heap.size:=fun j x hx=>World.block_lt_of_cell? w _ (h.row j x hx)
  have g1:∀ (j:Nat) x,ws[j]?=some x→gr≠gb:=fun j x hx=>Nat.ne_of_gt (Nat.lt_of_lt_of_le (hgb j x hx) hge)
  have g2:∀ (j:Nat) x,ws[j]?=some x→gx≠gb:=fun j x hx=>Nat.ne_of_gt (Nat.lt_of_lt_of_le (hgb j x hx) hgex)
  have hge0:=Nat.le_trans (below_size hb0) hge
  have hgex0:=Nat.le_trans (below_size hb0) hgex
  refine⟨rfl,Rd.ok_eq (((((h4.far hng g2 _ _).far hng g2 _ _).set_ok _).far hne g1 _ _).far hne g1 _ _) ?_,((((a4.setCell hgex0 _).setCell hgex0 _).setCell hB _).setCell hge0 _).setCell hge0 _,fun k hk hk2=>?_⟩
  ·first|rfl|(simp;done)
  ·have l1:k≠gr:=Nat.ne_of_lt (Nat.lt_of_lt_of_le hk2 hge)
   have l2:k≠gx:=Nat.ne_of_lt (Nat.lt_of_lt_of_le hk2 hgex)
   have s1:=Nat.lt_of_lt_of_le hk2 b1.size
   have s2:=Nat.lt_of_lt_of_le s1 b2.size
   rw[heap_setCell_other _ _ _ _ l1,heap_setCell_other _ _ _ _ l1,heap_setCell_other _ _ _ _ hk,heap_setCell_other _ _ _ _ l2,heap_setCell_other _ _ _ _ l2,b4.block k (Nat.lt_of_lt_of_le s2 b3.size),b3.block k s2,q2 k hk,b1.block k hk2]
def strings_Join.f (l0:List ByteArray) (a1:ByteArray):Option ByteArray:=if (decide (l0≠[])&&(decide (l0.length≤1000)&&decide ((Lib.join (l0.map (·.data.toList)) a1.data.toList).length≤140737488355328)))=true then some ⟨(Lib.join (l0.map (·.data.toList)) a1.data.toList).toArray⟩ else none
theorem strings_Join.callsR {e base:Nat} {ok:Nat→Prop} (A0:Option Addr) (c0:Nat) (l0:List ByteArray) (a1 r:ByteArray) (w:World) (hr0:Kd.R Kd.string e w base ok (.slice A0 l0.length c0) l0) (h:strings_Join.f l0 a1=some r) :
  Calls Tryz.prog 35 #[.slice A0 l0.length c0,.string a1] w fun e w'=>e=.returned (.string r)∧Below w.heap.size w w':=by
 unfold strings_Join.f at h
 split at h
 ·rename_i hp
  rw[Bool.and_eq_true,Bool.and_eq_true,decide_eq_true_eq,decide_eq_true_eq,decide_eq_true_eq] at hp
  obtain⟨hne,hl,hj⟩:=hp
  rw[← Option.some.inj h]
  have h0:0<l0.length:=List.length_pos_iff.2 hne
  obtain⟨-,hcap,hC⟩:=Kd.R_reads' hr0
  obtain⟨-,inner,hown,-⟩:=hr0
  obtain⟨ad,hA,hc⟩:=hC.2.2 h0
  have hcell:∀ (j:Nat) x,l0[j]?=some x→w.cell? (ad.add j)=some (.string x):=by
   intro j x hx
   obtain⟨cs,_,hk,hq⟩:=hc j x hx
   have e1:cs=[.string x]:=hk
   subst e1
   have h1:=hq 0 _ rfl
   have e2:j * (Kd.string).sz+0=j:=by
    show j * 1+0=j
    omega
   rw[e2] at h1
   exact h1
  rcases hown.2 with ⟨ho,hn⟩|⟨g,cap,cur,ho,_,hg,_,_,_,_⟩
  ·omega
  ·have hv:=ho
   rw[Value.slice.injEq] at hv
   obtain⟨hA',-,-⟩:=hv
   have hb:g<w.heap.size:=by
    rcases Nat.lt_or_ge g w.heap.size with h'|h'
    ·exact h'
    ·rw[Array.getElem?_eq_none h'] at hg;cases hg
   have e1:ad=⟨g,0,none⟩:=Option.some.inj (hA.symm.trans hA')
   subst e1
   subst hA
   refine Tryz.strings_Join g 0 c0 l0 a1 w ?_ hb (by omega) hcap hj
   intro j x hx
   have hq:=hcell j x hx
   have e2:(⟨g,0,none⟩:Addr).add j=⟨g,0+j,none⟩:=by
    unfold Addr.add
    split
    ·rename_i hz
     rw[hz]
    ·rfl
   rw[e2] at hq
   exact hq
 ·cases h
namespace Pj
def errW:Option Int→Value
 | none=>.nilIface
 | some c=>.iface 0 (.int .i64 c)
theorem errW_none:errW none=.nilIface:=rfl
theorem errW_some (c:Int):errW (some c)=.iface 0 (.int .i64 c):=rfl
theorem eqA23 (d:Nat) (w:World) (x0 y0 x1 y1:ByteArray) :
  (Op.equalIn (d+2) 23 (.agg #[.string x0,.string x1]) (.agg #[.string y0,.string y1])).run Tryz.prog w=.ok (x0.toList == y0.toList&&(x1.toList == y1.toList)) w:=by
 refine eqA_of Tryz.underlying23 (by kernel_rfl) ?_;refine eqf_cons (by rfl) (by go_simp;rfl) (by go_simp;rfl) (by go_simp) ?_;exact eqf_last (by rfl) (by go_simp;rfl) (by go_simp;rfl) (by go_simp)
end Pj
namespace Pj
attribute [local go_sem high] eqA23
def book_Name.f (a0:ByteArray):Option (Bool):=(strings_TrimPrefix.f a0 (⟨#[33]⟩:ByteArray)).bind fun t101=>(if a0.toList=([]:List UInt8) then (some false) else (if (a0.size:Int)≤20 then ((strings_Trim.f t101 (⟨#[97,98,99,100,101,102,103,104,105,106,107,108,109,110,111,112,113,114,115,116,117,118,119,120,121,122,48,49,50,51,52,53,54,55,56,57]⟩:ByteArray)).bind fun t102=>(some (t102.toList == ([]:List UInt8)))) else (some false)))
theorem book_Name.calls (a0:ByteArray) (r:Bool) (w:World) (h:book_Name.f a0=some r) :
  Calls Tryz.prog 27 #[.string a0] w fun e w'=>e=.returned (.bool r)∧Below w.heap.size w w':=by
 have HB:=ak_ (Below.refl w.heap.size w);have H:=h;unfold book_Name.f at H;clear h;replace H:=bi_ H;obtain⟨t101,A2,H⟩:=H;replace H:=bw_ H;rcases H with ⟨c3,H⟩|⟨c3,H⟩
 ·have c3b0:(a0.toList == ([]:List UInt8))=true:=beq_iff_eq.mpr c3;(try have c3e:(a0.toList.isEmpty)=true:=(by have h_:=c3b0;simp at h_ ⊢;exact h_));have c3b1:(a0.toList != ([]:List UInt8))=false:=bne_eq_false_iff_eq.mpr c3;clear c3;obtain rfl:=oi_ H;go_in
  go_wp2_with ((refine gm_ 5 Tryz.func51 (strings_TrimPrefix.calls _ _ _ _ A2.out) ?_;intro w4 hb;replace HB:=bs_ HB hb;(try clear hb)))
  go_ret
  exact⟨er_,b_ HB.out⟩
 ·have c3b0:(a0.toList == ([]:List UInt8))=false:=beq_eq_false_iff_ne.mpr c3;(try have c3e:(a0.toList.isEmpty)=false:=(by have h_:=c3b0;simp at h_ ⊢;exact h_));have c3b1:(a0.toList != ([]:List UInt8))=true:=bne_iff_ne.mpr c3;replace H:=bw_ H;rcases H with ⟨c5,H⟩|⟨c5,H⟩
  ·have c5b0:=dt_ c5;have c5b1:decide (a0.size≤20)=true:=decide_eq_true (by omega);clear c5;replace H:=bi_ H;obtain⟨t102,A6,H⟩:=H;obtain rfl:=oi_ H;go_in
   go_wp2_with (first|(refine gm_ 5 Tryz.func51 (strings_TrimPrefix.calls _ _ _ _ A2.out) ?_;intro w7 hb;replace HB:=bs_ HB hb;(try clear hb))|(go_at_call 52;(with_reducible refine(strings_Trim.calls _ _ _ _ A6.out).mono ?_);rintro e w8 ⟨rfl,hb⟩;replace HB:=bs_ HB hb;(try clear hb)))
   go_ret
   exact⟨er_,b_ HB.out⟩
  ·have c5b0:=df_ c5;have c5b1:decide (a0.size≤20)=false:=decide_eq_false (by omega);clear c5;obtain rfl:=oi_ H;go_in
   go_wp2_with ((refine gm_ 5 Tryz.func51 (strings_TrimPrefix.calls _ _ _ _ A2.out) ?_;intro w9 hb;replace HB:=bs_ HB hb;(try clear hb)))
   go_ret
   exact⟨er_,b_ HB.out⟩
def action_asset.f (a0:ByteArray):Option (Bool):=(book_Name.f a0).bind fun t103=>(if t103=true then (if 0<(a0.size:Int) then (if (bt a0 0)≥97 then (if (bt a0 0)≤122 then (some (a0.toList != ([99,97,115,104]:List UInt8))) else (some false)) else (some false)) else (none)) else (some false))
theorem action_asset.calls (a0:ByteArray) (r:Bool) (w:World) (h:action_asset.f a0=some r) :
  Calls Tryz.prog 28 #[.string a0] w fun e w'=>e=.returned (.bool r)∧Below w.heap.size w w':=by
 have HB:=ak_ (Below.refl w.heap.size w);have H:=h;unfold action_asset.f at H;clear h;replace H:=bi_ H;obtain⟨t103,A2,H⟩:=H;replace H:=bt_ H;rcases H with ⟨rfl,H⟩|⟨rfl,H⟩
 ·replace H:=bx_ H;obtain⟨c4,H⟩:=H;have c4b0:=dt_ c4;have c4b1:decide (0<a0.size)=true:=decide_eq_true (by omega);clear c4;replace H:=bw_ H;rcases H with ⟨c6,H⟩|⟨c6,H⟩
  ·have c6b0:decide (97≤(bt a0 0))=true:=decide_eq_true c6;clear c6;replace H:=bw_ H;rcases H with ⟨c8,H⟩|⟨c8,H⟩
   ·have c8b0:=dt_ c8;clear c8;obtain rfl:=oi_ H;go_in
    go_wp2_with ((refine gm_ 4 Tryz.func27 (book_Name.calls _ _ _ A2.out) ?_;intro w9 hb;replace HB:=bs_ HB hb;(try clear hb);have p5:0≤(0:Int):=(by omega);have q5:0<a0.size:=(by have:(0:Int)<(a0.size:Int):=od_ as_f;omega);have hx5:∀ h:0<a0.size,((a0[0]'h).toNat:Int)=bt a0 0:=bt_at a0 0;clear p5;have qi5:(0<(a0.size:Int))=True:=eq_true (od_ as_f);replace q5:=eq_true q5;have p7:0≤(0:Int):=(by omega);have q7:0<a0.size:=(by have:(0:Int)<(a0.size:Int):=od_ as_f;omega);have hx7:∀ h:0<a0.size,((a0[0]'h).toNat:Int)=bt a0 0:=bt_at a0 0;clear p7;have qi7:(0<(a0.size:Int))=True:=eq_true (od_ as_f);replace q7:=eq_true q7))
    go_ret
    exact⟨er_,b_ HB.out⟩
   ·have c8b0:=df_ c8;clear c8;obtain rfl:=oi_ H;go_in
    go_wp2_with ((refine gm_ 4 Tryz.func27 (book_Name.calls _ _ _ A2.out) ?_;intro w10 hb;replace HB:=bs_ HB hb;(try clear hb);have p5:0≤(0:Int):=(by omega);have q5:0<a0.size:=(by have:(0:Int)<(a0.size:Int):=od_ as_f;omega);have hx5:∀ h:0<a0.size,((a0[0]'h).toNat:Int)=bt a0 0:=bt_at a0 0;clear p5;have qi5:(0<(a0.size:Int))=True:=eq_true (od_ as_f);replace q5:=eq_true q5;have p7:0≤(0:Int):=(by omega);have q7:0<a0.size:=(by have:(0:Int)<(a0.size:Int):=od_ as_f;omega);have hx7:∀ h:0<a0.size,((a0[0]'h).toNat:Int)=bt a0 0:=bt_at a0 0;clear p7;have qi7:(0<(a0.size:Int))=True:=eq_true (od_ as_f);replace q7:=eq_true q7))
    go_ret
    exact⟨er_,b_ HB.out⟩
  ·have c6b0:decide (97≤(bt a0 0))=false:=decide_eq_false c6;clear c6;obtain rfl:=oi_ H;go_in
   go_wp2_with ((refine gm_ 4 Tryz.func27 (book_Name.calls _ _ _ A2.out) ?_;intro w11 hb;replace HB:=bs_ HB hb;(try clear hb);have p5:0≤(0:Int):=(by omega);have q5:0<a0.size:=(by have:(0:Int)<(a0.size:Int):=od_ as_f;omega);have hx5:∀ h:0<a0.size,((a0[0]'h).toNat:Int)=bt a0 0:=bt_at a0 0;clear p5;have qi5:(0<(a0.size:Int))=True:=eq_true (od_ as_f);replace q5:=eq_true q5))
   go_ret
   exact⟨er_,b_ HB.out⟩
 ·obtain rfl:=oi_ H;go_in
  go_wp2_with ((refine gm_ 4 Tryz.func27 (book_Name.calls _ _ _ A2.out) ?_;intro w12 hb;replace HB:=bs_ HB hb;(try clear hb)))
  go_ret
  exact⟨er_,b_ HB.out⟩
def action_number.f (a0_0 a0_1:ByteArray) (a1:Bool) (a2:Int):Option (Bool):=if a1=true then ((rat_May.f a0_0 a0_1).bind fun t105=>(if t105=true then ((rat_Sign.f a0_0 a0_1).bind fun t106=>(if t106≥a2 then (if (a0_0.size:Int)≤20 then (some (decide ((a0_1.size:Int)≤20))) else (some false)) else (some false))) else (some false))) else ((rat_Of.f 0).bind fun bt107=>(some (a0_0.toList == bt107.1.toList&&(a0_1.toList == bt107.2.toList))))
theorem action_number.calls (a0_0 a0_1:ByteArray) (a1:Bool) (a2:Int) (r:Bool) (w:World) (hL_:Laid w) (h:action_number.f a0_0 a0_1 a1 a2=some r) :
  Calls Tryz.prog 29 #[.agg #[.string a0_0,.string a0_1],.bool a1,.int .i64 a2] w fun e w'=>e=.returned (.bool r)∧Below w.heap.size w w':=by
 have hu23:=Tryz.underlying23;have HLD:=ak_ hL_;clear hL_;have HB:=ak_ (Below.refl w.heap.size w);have H:=h;unfold action_number.f at H;clear h;replace H:=bt_ H;rcases H with ⟨rfl,H⟩|⟨rfl,H⟩
 ·replace H:=bi_ H;obtain⟨t105,A5,H⟩:=H;replace H:=bt_ H;rcases H with ⟨rfl,H⟩|⟨rfl,H⟩
  ·replace H:=bi_ H;obtain⟨t106,A7,H⟩:=H;replace H:=bw_ H;rcases H with ⟨c8,H⟩|⟨c8,H⟩
   ·have c8b0:decide (a2≤t106)=true:=decide_eq_true c8;clear c8;replace H:=bw_ H;rcases H with ⟨c9,H⟩|⟨c9,H⟩
    ·have c9b0:=dt_ c9;have c9b1:decide (a0_0.size≤20)=true:=decide_eq_true (by omega);clear c9;obtain rfl:=oi_ H;go_in
     go_wp2_with (first|((with_reducible refine gate_dst (N:=3) rfl ?_);(try(refine gate_guard (by rfl) ?_;dsimp only));refine bf_ 3 #[.string a0_0,.string a0_1] 23 HB ?_;clear HB;intro gb104 w10 BK104 GW104 HB;have hz11:=cs2_ BK104)|(refine gm_ 13 Tryz.func53 (rat_May.calls _ _ _ _ (lb_ HLD HB) A5.out) ?_;intro w12 hb;replace BK104:=kb_ BK104 hb;replace HB:=bs_ HB hb;(try clear hb);have hz13:=cs2_ BK104)|(go_at_call 54;(with_reducible refine(rat_Sign.calls _ _ _ _ ?side1 A7.out).mono ?_);(case side1=>exact lb_ HLD HB);rintro e w14 ⟨rfl,hb⟩;replace BK104:=kb_ BK104 hb;replace HB:=bs_ HB hb;(try clear hb);have hz15:=cs2_ BK104))
     go_ret
     exact⟨er_,b_ HB.out⟩
    ·have c9b0:=df_ c9;have c9b1:decide (a0_0.size≤20)=false:=decide_eq_false (by omega);clear c9;obtain rfl:=oi_ H;go_in
     go_wp2_with (first|((with_reducible refine gate_dst (N:=3) rfl ?_);(try(refine gate_guard (by rfl) ?_;dsimp only));refine bf_ 3 #[.string a0_0,.string a0_1] 23 HB ?_;clear HB;intro gb104 w16 BK104 GW104 HB;have hz17:=cs2_ BK104)|(refine gm_ 13 Tryz.func53 (rat_May.calls _ _ _ _ (lb_ HLD HB) A5.out) ?_;intro w18 hb;replace BK104:=kb_ BK104 hb;replace HB:=bs_ HB hb;(try clear hb);have hz19:=cs2_ BK104)|(go_at_call 54;(with_reducible refine(rat_Sign.calls _ _ _ _ ?side1 A7.out).mono ?_);(case side1=>exact lb_ HLD HB);rintro e w20 ⟨rfl,hb⟩;replace BK104:=kb_ BK104 hb;replace HB:=bs_ HB hb;(try clear hb);have hz21:=cs2_ BK104))
     go_ret
     exact⟨er_,b_ HB.out⟩
   ·have c8b0:decide (a2≤t106)=false:=decide_eq_false c8;clear c8;obtain rfl:=oi_ H;go_in
    go_wp2_with (first|((with_reducible refine gate_dst (N:=3) rfl ?_);(try(refine gate_guard (by rfl) ?_;dsimp only));refine bf_ 3 #[.string a0_0,.string a0_1] 23 HB ?_;clear HB;intro gb104 w22 BK104 GW104 HB;have hz23:=cs2_ BK104)|(refine gm_ 13 Tryz.func53 (rat_May.calls _ _ _ _ (lb_ HLD HB) A5.out) ?_;intro w24 hb;replace BK104:=kb_ BK104 hb;replace HB:=bs_ HB hb;(try clear hb);have hz25:=cs2_ BK104)|(go_at_call 54;(with_reducible refine(rat_Sign.calls _ _ _ _ ?side1 A7.out).mono ?_);(case side1=>exact lb_ HLD HB);rintro e w26 ⟨rfl,hb⟩;replace BK104:=kb_ BK104 hb;replace HB:=bs_ HB hb;(try clear hb)))
    go_ret
    exact⟨er_,b_ HB.out⟩
  ·obtain rfl:=oi_ H;go_in
   go_wp2_with (first|((with_reducible refine gate_dst (N:=3) rfl ?_);(try(refine gate_guard (by rfl) ?_;dsimp only));refine bf_ 3 #[.string a0_0,.string a0_1] 23 HB ?_;clear HB;intro gb104 w27 BK104 GW104 HB;have hz28:=cs2_ BK104)|(refine gm_ 13 Tryz.func53 (rat_May.calls _ _ _ _ (lb_ HLD HB) A5.out) ?_;intro w29 hb;replace BK104:=kb_ BK104 hb;replace HB:=bs_ HB hb;(try clear hb)))
   go_ret
   exact⟨er_,b_ HB.out⟩
 ·replace H:=bi_ H;obtain⟨⟨t107,t108⟩,A30,H⟩:=H;(try dsimp only at H);obtain rfl:=oi_ H;go_in
  try go_wp2_with (((with_reducible refine gate_dst (N:=3) rfl ?_);(try(refine gate_guard (by rfl) ?_;dsimp only));refine bf_ 3 #[.string a0_0,.string a0_1] 23 HB ?_;clear HB;intro gb104 w31 BK104 GW104 HB))
  replace BK104:=ak_ (blk_drew BK104.out);replace HB:=ak_ (below_drew1 HB.out);refine sa_ 4 (fun w'=>w'.cell? ⟨gb104,0,none⟩=some (.string a0_0)∧w'.cell? ⟨gb104,1,none⟩=some (.string a0_1)) (fun hHeld=>?_);generalize w31.drew=w32 at BK104 HB hHeld ⊢;refine take_ (i:=0) (N:=some 9) (v:=?_) (a':=?_) #[true,false,false,false] rfl rfl (by kernel_rfl) (fun _ _ _ h=>h) (Or.inl ⟨by rfl,?_⟩) hHeld ?_ ?_;rotate_left
  ·rintro w' ⟨s0,s1⟩;go_simp;with_reducible rfl
  rotate_left
  ·exact ap_
  refine one_ (i:=1) (N:=some 10) #[true,true,false,false] rfl rfl (by kernel_rfl) (by decide) (fun K hK=>?_);refine gn_ Tryz.func42 (rat_Of.calls _ _ _ _ (lb_ HLD HB) A30.out) ?_;intro w33 hb;replace BK104:=kb_ BK104 hb;replace HB:=bs_ HB hb;(try clear hb);refine hk_ hK (fun hHeld=>?_);clear hK K;refine nm_ ?_;refine pure_ (i:=2) (N:=some 11) (v:=?_) (a':=?_) #[true,true,true,false] rfl rfl (by kernel_rfl) (fun _ _ _ h=>h) (Or.inl ⟨by rfl,?_⟩) ?_ ?_;rotate_left
  ·intro w';go_simp;with_reducible rfl
  rotate_left
  ·exact ap_
  refine pure_ (i:=3) (N:=some 6) (v:=?_) (a':=?_) #[true,true,true,true] rfl rfl (by kernel_rfl) (fun _ _ _ h=>h) (Or.inl ⟨by rfl,?_⟩) ?_ ?_;rotate_left
  ·intro w';go_simp;with_reducible rfl
  rotate_left
  ·exact ap_
  refine done_ (by kernel_rfl) ?_
  try go_wp2
  go_ret
  exact⟨er_,b_ HB.out⟩
end Pj
namespace Pj
end Pj
namespace Pl
open Pj
attribute [local go_sem] idx_shape
def errW:Option Int→Value
 | none=>.nilIface
 | some c=>.iface 0 (.int .i64 c)
theorem errW_none:errW none=.nilIface:=rfl
theorem errW_some (c:Int):errW (some c)=.iface 0 (.int .i64 c):=rfl
mutual
def action_May.j0:Nat→Bool→ByteArray→Int→ByteArray→ByteArray→ByteArray→ByteArray→ByteArray→ByteArray→Int→Int→Int→Option (Bool)
 | 0,_,_,_,_,_,_,_,_,_,_,_,_=>none
 | k+1,x49,x102000,x102001,x102002,x102003,x102004,x102005,x102006,x102007,x102008,x102009,x102010=>if x49=true then (some false) else ((action_shapes.f).bind fun bt104=>(if 0≤x102001 then (if x102001<5 then (if (ix5 x102001 bt104.2.1 bt104.2.2.2.2.2.1 bt104.2.2.2.2.2.2.2.2.2.1 bt104.2.2.2.2.2.2.2.2.2.2.2.2.2.1 bt104.2.2.2.2.2.2.2.2.2.2.2.2.2.2.2.2.2.1)=true then ((action_asset.f x102003).bind fun t125=>(if t125=true then (action_May.j1 k (x102003.toList != x102002.toList) x102000 x102001 x102002 x102003 x102004 x102005 x102006 x102007 x102008 x102009 x102010 (ix5 x102001 bt104.1 bt104.2.2.2.2.1 bt104.2.2.2.2.2.2.2.2.1 bt104.2.2.2.2.2.2.2.2.2.2.2.2.1 bt104.2.2.2.2.2.2.2.2.2.2.2.2.2.2.2.2.1) (ix5 x102001 bt104.2.1 bt104.2.2.2.2.2.1 bt104.2.2.2.2.2.2.2.2.2.1 bt104.2.2.2.2.2.2.2.2.2.2.2.2.2.1 bt104.2.2.2.2.2.2.2.2.2.2.2.2.2.2.2.2.2.1) (ix5 x102001 bt104.2.2.1 bt104.2.2.2.2.2.2.1 bt104.2.2.2.2.2.2.2.2.2.2.1 bt104.2.2.2.2.2.2.2.2.2.2.2.2.2.2.1 bt104.2.2.2.2.2.2.2.2.2.2.2.2.2.2.2.2.2.2.1) (ix5 x102001 bt104.2.2.2.1 bt104.2.2.2.2.2.2.2.1 bt104.2.2.2.2.2.2.2.2.2.2.2.1 bt104.2.2.2.2.2.2.2.2.2.2.2.2.2.2.2.1 bt104.2.2.2.2.2.2.2.2.2.2.2.2.2.2.2.2.2.2.2)) else (action_May.j1 k false x102000 x102001 x102002 x102003 x102004 x102005 x102006 x102007 x102008 x102009 x102010 (ix5 x102001 bt104.1 bt104.2.2.2.2.1 bt104.2.2.2.2.2.2.2.2.1 bt104.2.2.2.2.2.2.2.2.2.2.2.2.1 bt104.2.2.2.2.2.2.2.2.2.2.2.2.2.2.2.2.1) (ix5 x102001 bt104.2.1 bt104.2.2.2.2.2.1 bt104.2.2.2.2.2.2.2.2.2.1 bt104.2.2.2.2.2.2.2.2.2.2.2.2.2.1 bt104.2.2.2.2.2.2.2.2.2.2.2.2.2.2.2.2.2.1) (ix5 x102001 bt104.2.2.1 bt104.2.2.2.2.2.2.1 bt104.2.2.2.2.2.2.2.2.2.2.1 bt104.2.2.2.2.2.2.2.2.2.2.2.2.2.2.1 bt104.2.2.2.2.2.2.2.2.2.2.2.2.2.2.2.2.2.2.1) (ix5 x102001 bt104.2.2.2.1 bt104.2.2.2.2.2.2.2.1 bt104.2.2.2.2.2.2.2.2.2.2.2.1 bt104.2.2.2.2.2.2.2.2.2.2.2.2.2.2.2.1 bt104.2.2.2.2.2.2.2.2.2.2.2.2.2.2.2.2.2.2.2)))) else (action_May.j1 k (x102003.toList == ([]:List UInt8)) x102000 x102001 x102002 x102003 x102004 x102005 x102006 x102007 x102008 x102009 x102010 (ix5 x102001 bt104.1 bt104.2.2.2.2.1 bt104.2.2.2.2.2.2.2.2.1 bt104.2.2.2.2.2.2.2.2.2.2.2.2.1 bt104.2.2.2.2.2.2.2.2.2.2.2.2.2.2.2.2.1) (ix5 x102001 bt104.2.1 bt104.2.2.2.2.2.1 bt104.2.2.2.2.2.2.2.2.2.1 bt104.2.2.2.2.2.2.2.2.2.2.2.2.2.1 bt104.2.2.2.2.2.2.2.2.2.2.2.2.2.2.2.2.2.1) (ix5 x102001 bt104.2.2.1 bt104.2.2.2.2.2.2.1 bt104.2.2.2.2.2.2.2.2.2.2.1 bt104.2.2.2.2.2.2.2.2.2.2.2.2.2.2.1 bt104.2.2.2.2.2.2.2.2.2.2.2.2.2.2.2.2.2.2.1) (ix5 x102001 bt104.2.2.2.1 bt104.2.2.2.2.2.2.2.1 bt104.2.2.2.2.2.2.2.2.2.2.2.1 bt104.2.2.2.2.2.2.2.2.2.2.2.2.2.2.2.1 bt104.2.2.2.2.2.2.2.2.2.2.2.2.2.2.2.2.2.2.2))) else (none)) else (none)))
def action_May.j1:Nat→Bool→ByteArray→Int→ByteArray→ByteArray→ByteArray→ByteArray→ByteArray→ByteArray→Int→Int→Int→ByteArray→Bool→Bool→Bool→Option (Bool)
 | 0,_,_,_,_,_,_,_,_,_,_,_,_,_,_,_,_=>none
 | k+1,x4,x102000,x102001,x102002,x102003,x102004,x102005,x102006,x102007,x102008,x102009,x102010,x125000,x125001,x125002,x125003=>if x102001=4 then (if x4=true then ((action_number.f x102004 x102005 x125002 1).bind fun t126=>(if t126=true then ((action_number.f x102006 x102007 x125003 0).bind fun t127=>(some t127)) else (some false))) else (some false)) else (if x4=true then ((action_number.f x102004 x102005 x125002 1).bind fun t128=>(if t128=true then ((action_number.f x102006 x102007 x125003 1).bind fun t129=>(some t129)) else (some false))) else (some false))
end
def action_May.f (k:Nat) (a0_0:ByteArray) (a0_1:Int) (a0_2 a0_3 a0_4 a0_5 a0_6 a0_7:ByteArray) (a0_8 a0_9 a0_10:Int):Option (Bool):=if a0_1<0 then (action_May.j0 k true a0_0 a0_1 a0_2 a0_3 a0_4 a0_5 a0_6 a0_7 a0_8 a0_9 a0_10) else (if a0_1≥5 then (action_May.j0 k true a0_0 a0_1 a0_2 a0_3 a0_4 a0_5 a0_6 a0_7 a0_8 a0_9 a0_10) else ((book_Name.f a0_0).bind fun t102=>(if t102=true then ((action_asset.f a0_2).bind fun t103=>(if t103=true then (if a0_8<0 then (action_May.j0 k true a0_0 a0_1 a0_2 a0_3 a0_4 a0_5 a0_6 a0_7 a0_8 a0_9 a0_10) else (if a0_9<a0_8 then (action_May.j0 k true a0_0 a0_1 a0_2 a0_3 a0_4 a0_5 a0_6 a0_7 a0_8 a0_9 a0_10) else (if a0_10<a0_9 then (action_May.j0 k true a0_0 a0_1 a0_2 a0_3 a0_4 a0_5 a0_6 a0_7 a0_8 a0_9 a0_10) else (action_May.j0 k (decide (a0_10>9999)) a0_0 a0_1 a0_2 a0_3 a0_4 a0_5 a0_6 a0_7 a0_8 a0_9 a0_10)))) else (action_May.j0 k true a0_0 a0_1 a0_2 a0_3 a0_4 a0_5 a0_6 a0_7 a0_8 a0_9 a0_10))) else (action_May.j0 k true a0_0 a0_1 a0_2 a0_3 a0_4 a0_5 a0_6 a0_7 a0_8 a0_9 a0_10))))
theorem action_May.calls (k:Nat) (a0_0:ByteArray) (a0_1:Int) (a0_2 a0_3 a0_4 a0_5 a0_6 a0_7:ByteArray) (a0_8 a0_9 a0_10:Int) (r:Bool) (w:World) (hL_:Laid w) (h:action_May.f k a0_0 a0_1 a0_2 a0_3 a0_4 a0_5 a0_6 a0_7 a0_8 a0_9 a0_10=some r) :
  Calls Tryz.prog 11 #[.agg #[.string a0_0,.int .i64 a0_1,.string a0_2,.string a0_3,.string a0_4,.string a0_5,.string a0_6,.string a0_7,.int .i64 a0_8,.int .i64 a0_9,.int .i64 a0_10]] w fun e w'=>e=.returned (.bool r)∧Below w.heap.size w w':=by
 have hu25:=Tryz.underlying25;have hu46:=Tryz.underlying46;have hu23:=Tryz.underlying23;have HLD:=ak_ hL_;clear hL_;have HB:=ak_ (Below.refl w.heap.size w);have H:=h;unfold action_May.f at H;clear h;have HC2:=ak_ H;clear H;go_in
 go_upto_region 1 with (first|(refine bf_ 1 #[.string a0_0,.int .i64 a0_1,.string a0_2,.string a0_3,.string a0_4,.string a0_5,.string a0_6,.string a0_7,.int .i64 a0_8,.int .i64 a0_9,.int .i64 a0_10] 25 HB ?_;clear HB;intro gb101 w3 BK101 GW101 HB))
 (try simp only[Act.put,List.setIfInBounds_toArray,List.set_cons_zero,List.set_cons_succ])
 go_cut [49] (fun v49 wc=>∃ (kq:Nat) (x49_1:Bool),v49=.bool x49_1∧Aside0 (action_May.j0 kq x49_1 a0_0 a0_1 a0_2 a0_3 a0_4 a0_5 a0_6 a0_7 a0_8 a0_9 a0_10=some r)∧Aside0 (kq≤k)∧Aside0 (wc.heap[gb101]?=some (.cells #[.string a0_0,.int .i64 a0_1,.string a0_2,.string a0_3,.string a0_4,.string a0_5,.string a0_6,.string a0_7,.int .i64 a0_8,.int .i64 a0_9,.int .i64 a0_10] 25 (0,0)))∧Aside0 (Below w.heap.size w wc))
 case first =>
  have H:=HC2.out;clear HC2;replace H:=bw_ H;rcases H with ⟨c4,H⟩|⟨c4,H⟩
  ·have c4b0:=dt_ c4;clear c4;(first|rw[c4b0]|(simp only[i64_w,i32_w];rw[c4b0])|skip);have H':=ak_ H;clear H;have hz5:=cs11_ BK101;go_wp2
   go_meet
   case rel=>exact⟨_,(true),rl_,H',⟨nk_⟩,⟨k_ BK101.out⟩,⟨b_ HB.out⟩⟩
  ·have c4b0:=df_ c4;clear c4;(first|rw[c4b0]|(simp only[i64_w,i32_w];rw[c4b0])|skip);replace H:=bw_ H;rcases H with ⟨c6,H⟩|⟨c6,H⟩
   ·have c6b0:decide (5≤a0_1)=true:=decide_eq_true c6;clear c6;have H':=ak_ H;clear H;have hz7:=cs11_ BK101;go_wp2
    go_meet
    case rel=>exact⟨_,(true),rl_,H',⟨nk_⟩,⟨k_ BK101.out⟩,⟨b_ HB.out⟩⟩
   ·have c6b0:decide (5≤a0_1)=false:=decide_eq_false c6;clear c6;replace H:=bi_ H;obtain⟨t102,A8,H⟩:=H;replace H:=bt_ H;rcases H with ⟨rfl,H⟩|⟨rfl,H⟩
    ·replace H:=bi_ H;obtain⟨t103,A10,H⟩:=H;replace H:=bt_ H;rcases H with ⟨rfl,H⟩|⟨rfl,H⟩
     ·replace H:=bw_ H;rcases H with ⟨c12,H⟩|⟨c12,H⟩
      ·have c12b0:=dt_ c12;clear c12;have H':=ak_ H;clear H;have hz13:=cs11_ BK101
       go_wp2_with (first|(go_at_call 27;(with_reducible refine(book_Name.calls _ _ _ A8.out).mono ?_);rintro e w14 ⟨rfl,hb⟩;replace BK101:=kb_ BK101 hb;replace HB:=bs_ HB hb;(try clear hb);have hz15:=cs11_ BK101)|(go_at_call 28;(with_reducible refine(action_asset.calls _ _ _ A10.out).mono ?_);rintro e w16 ⟨rfl,hb⟩;replace BK101:=kb_ BK101 hb;replace HB:=bs_ HB hb;(try clear hb);have hz17:=cs11_ BK101))
       go_meet
       case rel=>exact⟨_,(true),rl_,H',⟨nk_⟩,⟨k_ BK101.out⟩,⟨b_ HB.out⟩⟩
      ·have c12b0:=df_ c12;clear c12;replace H:=bw_ H;rcases H with ⟨c18,H⟩|⟨c18,H⟩
       ·have c18b0:=dt_ c18;clear c18;have H':=ak_ H;clear H;have hz19:=cs11_ BK101
        go_wp2_with (first|(go_at_call 27;(with_reducible refine(book_Name.calls _ _ _ A8.out).mono ?_);rintro e w20 ⟨rfl,hb⟩;replace BK101:=kb_ BK101 hb;replace HB:=bs_ HB hb;(try clear hb);have hz21:=cs11_ BK101)|(go_at_call 28;(with_reducible refine(action_asset.calls _ _ _ A10.out).mono ?_);rintro e w22 ⟨rfl,hb⟩;replace BK101:=kb_ BK101 hb;replace HB:=bs_ HB hb;(try clear hb);have hz23:=cs11_ BK101))
        go_meet
        case rel=>exact⟨_,(true),rl_,H',⟨nk_⟩,⟨k_ BK101.out⟩,⟨b_ HB.out⟩⟩
       ·have c18b0:=df_ c18;clear c18;replace H:=bw_ H;rcases H with ⟨c24,H⟩|⟨c24,H⟩
        ·have c24b0:=dt_ c24;clear c24;have H':=ak_ H;clear H;have hz25:=cs11_ BK101
         go_wp2_with (first|(go_at_call 27;(with_reducible refine(book_Name.calls _ _ _ A8.out).mono ?_);rintro e w26 ⟨rfl,hb⟩;replace BK101:=kb_ BK101 hb;replace HB:=bs_ HB hb;(try clear hb);have hz27:=cs11_ BK101)|(go_at_call 28;(with_reducible refine(action_asset.calls _ _ _ A10.out).mono ?_);rintro e w28 ⟨rfl,hb⟩;replace BK101:=kb_ BK101 hb;replace HB:=bs_ HB hb;(try clear hb);have hz29:=cs11_ BK101))
         go_meet
         case rel=>exact⟨_,(true),rl_,H',⟨nk_⟩,⟨k_ BK101.out⟩,⟨b_ HB.out⟩⟩
        ·have c24b0:=df_ c24;clear c24;have H':=ak_ H;clear H;have hz30:=cs11_ BK101
         go_wp2_with (first|(go_at_call 27;(with_reducible refine(book_Name.calls _ _ _ A8.out).mono ?_);rintro e w31 ⟨rfl,hb⟩;replace BK101:=kb_ BK101 hb;replace HB:=bs_ HB hb;(try clear hb);have hz32:=cs11_ BK101)|(go_at_call 28;(with_reducible refine(action_asset.calls _ _ _ A10.out).mono ?_);rintro e w33 ⟨rfl,hb⟩;replace BK101:=kb_ BK101 hb;replace HB:=bs_ HB hb;(try clear hb);have hz34:=cs11_ BK101))
         go_meet
         case rel=>exact⟨_,(decide (a0_10>9999)),rl_,H',⟨nk_⟩,⟨k_ BK101.out⟩,⟨b_ HB.out⟩⟩
     ·have H':=ak_ H;clear H;have hz35:=cs11_ BK101
      go_wp2_with (first|(go_at_call 27;(with_reducible refine(book_Name.calls _ _ _ A8.out).mono ?_);rintro e w36 ⟨rfl,hb⟩;replace BK101:=kb_ BK101 hb;replace HB:=bs_ HB hb;(try clear hb);have hz37:=cs11_ BK101)|(go_at_call 28;(with_reducible refine(action_asset.calls _ _ _ A10.out).mono ?_);rintro e w38 ⟨rfl,hb⟩;replace BK101:=kb_ BK101 hb;replace HB:=bs_ HB hb;(try clear hb)))
      go_meet
      case rel=>exact⟨_,(true),rl_,H',⟨nk_⟩,⟨k_ BK101.out⟩,⟨b_ HB.out⟩⟩
    ·have H':=ak_ H;clear H;have hz39:=cs11_ BK101
     go_wp2_with ((go_at_call 27;(with_reducible refine(book_Name.calls _ _ _ A8.out).mono ?_);rintro e w40 ⟨rfl,hb⟩;replace BK101:=kb_ BK101 hb;replace HB:=bs_ HB hb;(try clear hb)))
     go_meet
     case rel=>exact⟨_,(true),rl_,H',⟨nk_⟩,⟨k_ BK101.out⟩,⟨b_ HB.out⟩⟩
 case rest =>
  clear HC2;obtain⟨kq,x49_1,rfl,HA,HJ1,BK101,HB⟩:=hcut
  cases kq with
  | zero=>exact absurd HA.out (by simp[action_May.j0])
  | succ kj1 =>
   have H:=HA.out;clear HA;simp only[action_May.j0] at H;replace H:=bt_ H;rcases H with ⟨rfl,H⟩|⟨rfl,H⟩
   ·obtain rfl:=oi_ H;go_wp2
    go_ret
    exact⟨er_,b_ HB.out⟩
   ·replace H:=bi_ H;obtain⟨⟨t104,t105,t106,t107,t108,t109,t110,t111,t112,t113,t114,t115,t116,t117,t118,t119,t120,t121,t122,t123⟩,A42,H⟩:=H;(try dsimp only at H);replace H:=bx_ H;obtain⟨c43,H⟩:=H;have c43b0:=eq_true c43;have c43b1:=dt_ c43;clear c43;replace H:=bx_ H;obtain⟨c44,H⟩:=H;have c44b0:=eq_true c44;have c44b1:=dt_ c44;clear c44;obtain⟨xa0_1_0,hxa0_1_0⟩:∃ y_:ByteArray,(ix5 a0_1 t104 t108 t112 t116 t120)=y_:=⟨_,rfl⟩;obtain⟨xa0_1_1,hxa0_1_1⟩:∃ y_:Bool,(ix5 a0_1 t105 t109 t113 t117 t121)=y_:=⟨_,rfl⟩;obtain⟨xa0_1_2,hxa0_1_2⟩:∃ y_:Bool,(ix5 a0_1 t106 t110 t114 t118 t122)=y_:=⟨_,rfl⟩;obtain⟨xa0_1_3,hxa0_1_3⟩:∃ y_:Bool,(ix5 a0_1 t107 t111 t115 t119 t123)=y_:=⟨_,rfl⟩;simp only[hxa0_1_0,hxa0_1_1,hxa0_1_2,hxa0_1_3] at H;have HC45:=ak_ H;clear H
    try go_wp2
    replace BK101:=ak_ (blk_drew BK101.out);replace HB:=ak_ (below_drew1 HB.out);refine sa_ 6 (fun w'=>w'.cell? ⟨gb101,0,none⟩=some (.string a0_0)∧w'.cell? ⟨gb101,1,none⟩=some (.int .i64 a0_1)∧w'.cell? ⟨gb101,2,none⟩=some (.string a0_2)∧w'.cell? ⟨gb101,3,none⟩=some (.string a0_3)∧w'.cell? ⟨gb101,4,none⟩=some (.string a0_4)∧w'.cell? ⟨gb101,5,none⟩=some (.string a0_5)∧w'.cell? ⟨gb101,6,none⟩=some (.string a0_6)∧w'.cell? ⟨gb101,7,none⟩=some (.string a0_7)∧w'.cell? ⟨gb101,8,none⟩=some (.int .i64 a0_8)∧w'.cell? ⟨gb101,9,none⟩=some (.int .i64 a0_9)∧w'.cell? ⟨gb101,10,none⟩=some (.int .i64 a0_10)) (fun hHeld=>?_);generalize wc.drew=w46 at BK101 HB hHeld ⊢;refine pure_ (i:=1) (N:=some 51) (v:=?_) (a':=?_) #[false,true,false,false,false,false] rfl rfl (by kernel_rfl) (fun _ _ _ h=>h) (Or.inl ⟨by rfl,?_⟩) ?_ ?_;rotate_left
    ·intro w';go_simp;with_reducible rfl
    rotate_left
    ·exact ap_
    refine take_ (i:=2) (N:=some 52) (v:=?_) (a':=?_) #[false,true,true,false,false,false] rfl rfl (by kernel_rfl) (fun _ _ _ h=>h) (Or.inl ⟨by rfl,?_⟩) hHeld ?_ ?_;rotate_left
    ·rintro w' ⟨s0,s1,s2,s3,s4,s5,s6,s7,s8,s9,s10⟩;go_simp;with_reducible rfl
    rotate_left
    ·exact ap_
    refine join_ (σ:=Nat) 1 #[true,true,true,true,true,false] (fun s_=>[(50,.agg #[.string t104,.bool t105,.bool t106,.bool t107,.string t108,.bool t109,.bool t110,.bool t111,.string t112,.bool t113,.bool t114,.bool t115,.string t116,.bool t117,.bool t118,.bool t119,.string t120,.bool t121,.bool t122,.bool t123]),(3,.pointer (some ⟨s_,0,none⟩)),(53,.agg #[.string xa0_1_0,.bool xa0_1_1,.bool xa0_1_2,.bool xa0_1_3])]) (fun s_ w'=>(w'.cell? ⟨gb101,0,none⟩=some (.string a0_0)∧w'.cell? ⟨gb101,1,none⟩=some (.int .i64 a0_1)∧w'.cell? ⟨gb101,2,none⟩=some (.string a0_2)∧w'.cell? ⟨gb101,3,none⟩=some (.string a0_3)∧w'.cell? ⟨gb101,4,none⟩=some (.string a0_4)∧w'.cell? ⟨gb101,5,none⟩=some (.string a0_5)∧w'.cell? ⟨gb101,6,none⟩=some (.string a0_6)∧w'.cell? ⟨gb101,7,none⟩=some (.string a0_7)∧w'.cell? ⟨gb101,8,none⟩=some (.int .i64 a0_8)∧w'.cell? ⟨gb101,9,none⟩=some (.int .i64 a0_9)∧w'.cell? ⟨gb101,10,none⟩=some (.int .i64 a0_10))∧(w'.heap[gb101]?=some (.cells #[.string a0_0,.int .i64 a0_1,.string a0_2,.string a0_3,.string a0_4,.string a0_5,.string a0_6,.string a0_7,.int .i64 a0_8,.int .i64 a0_9,.int .i64 a0_10] 25 (0,0)))∧(w'.heap[s_]?=some (.cells #[.string ⟨#[]⟩,.bool false,.bool false,.bool false] 46 (0,0)))∧(w.heap.size≤s_)∧(w.heap.size≤s_)∧(gb101≠s_)∧(s_≠gb101)∧(Below w.heap.size w w')) ?_ ?_;rotate_left
    ·intro hCont;refine two_ (i:=0) (j:=4) (Ni:=some 50) (Nj:=some 3) #[true,true,true,false,false,false] #[false,true,true,false,true,false] rfl rfl rfl rfl (by kernel_rfl) (by decide) (by decide) (fun K hK=>?_) (fun K hK=>?_)
     ·skip;refine gn_ Tryz.func19 (action_shapes.calls _ _ _ _ _ _ _ _ _ _ _ _ _ _ _ _ _ _ _ _ _ A42.out) ?_;intro w47 hb;replace BK101:=kb_ BK101 hb;replace HB:=bs_ HB hb;(try clear hb);refine hk_ hK (fun hHeld=>?_);clear hK K;refine nm_ ?_;refine take_ (i:=3) (N:=some 53) (v:=?_) (a':=?_) #[true,true,true,true,false,false] rfl rfl (by kernel_rfl) (fun _ _ _ h=>h) (Or.inl ⟨by rfl,?_⟩) hHeld ?_ ?_;rotate_left
      ·rintro w' ⟨s0,s1,s2,s3,s4,s5,s6,s7,s8,s9,s10⟩;go_simp;with_reducible rfl
      rotate_left
      ·exact ap_
      refine one_ (i:=4) (N:=some 3) #[true,true,true,true,true,false] rfl rfl (by kernel_rfl) (by decide) (fun K hK=>?_);refine box_step ?hg (N:=3) ?hd (cs:=#[.string ⟨#[]⟩,.bool false,.bool false,.bool false]) (t:=46) ?hr ?_;(case hd=>rfl);(case hg=>rfl);(case hr=>first|(go_simp;done)|(go_simp;rfl));intro gb124 hg w48 hbox hb;have BK124:=ak_ (hbox);have GW124:=ge_ HB hg;have GE124:=ge_ HB hg;have NB101_124:=nl_ BK101 hg;have NB124_101:=ng_ BK101 hg;replace BK101:=kb_ BK101 hb;replace HB:=bs_ HB hb;clear hb hbox hg;refine hk_ hK (fun hHeld=>?_);clear hK K;refine nm_ ?_;exact norm_ pa_ (hCont (gb124) _ ⟨hHeld,(k_ BK101.out),(k_ BK124.out),GW124.out,GE124.out,NB101_124.out,NB124_101.out,(b_ HB.out)⟩)
     ·skip;refine box_step ?hg (N:=3) ?hd (cs:=#[.string ⟨#[]⟩,.bool false,.bool false,.bool false]) (t:=46) ?hr ?_;(case hd=>rfl);(case hg=>rfl);(case hr=>first|(go_simp;done)|(go_simp;rfl));intro gb124 hg w47 hbox hb;have BK124:=ak_ (hbox);have GW124:=ge_ HB hg;have GE124:=ge_ HB hg;have NB101_124:=nl_ BK101 hg;have NB124_101:=ng_ BK101 hg;replace BK101:=kb_ BK101 hb;replace HB:=bs_ HB hb;clear hb hbox hg;refine hk_ hK (fun hHeld=>?_);clear hK K;refine nm_ ?_;refine one_ (i:=0) (N:=some 50) #[true,true,true,false,true,false] rfl rfl (by kernel_rfl) (by decide) (fun K hK=>?_);refine gn_ Tryz.func19 (action_shapes.calls _ _ _ _ _ _ _ _ _ _ _ _ _ _ _ _ _ _ _ _ _ A42.out) ?_;intro w48 hb;replace BK101:=kb_ BK101 hb;replace BK124:=kb_ BK124 hb;replace HB:=bs_ HB hb;(try clear hb);refine hk_ hK (fun hHeld=>?_);clear hK K;refine nm_ ?_;refine take_ (i:=3) (N:=some 53) (v:=?_) (a':=?_) #[true,true,true,true,true,false] rfl rfl (by kernel_rfl) (fun _ _ _ h=>h) (Or.inl ⟨by rfl,?_⟩) hHeld ?_ ?_;rotate_left
      ·rintro w' ⟨s0,s1,s2,s3,s4,s5,s6,s7,s8,s9,s10⟩;go_simp;with_reducible rfl
      rotate_left
      ·exact ap_
      exact norm_ pa_ (hCont (gb124) _ ⟨hHeld,(k_ BK101.out),(k_ BK124.out),GW124.out,GE124.out,NB101_124.out,NB124_101.out,(b_ HB.out)⟩)
    rintro gb124 w49 ⟨hS_,h0_,h1_,h2_,h3_,h4_,h5_,h6_⟩;have n0_:Aside0 (w49.heap[gb101]?=some (.cells #[.string a0_0,.int .i64 a0_1,.string a0_2,.string a0_3,.string a0_4,.string a0_5,.string a0_6,.string a0_7,.int .i64 a0_8,.int .i64 a0_9,.int .i64 a0_10] 25 (0,0))):=⟨h0_⟩;have n1_:Aside0 (w49.heap[gb124]?=some (.cells #[.string ⟨#[]⟩,.bool false,.bool false,.bool false] 46 (0,0))):=⟨h1_⟩;have n2_:Aside0 (w.heap.size≤gb124):=⟨h2_⟩;have n3_:Aside0 (w.heap.size≤gb124):=⟨h3_⟩;have n4_:Aside0 (gb101≠gb124):=⟨h4_⟩;have n5_:Aside0 (gb124≠gb101):=⟨h5_⟩;have n6_:Aside0 (Below w.heap.size w w49):=⟨h6_⟩;clear BK101;clear HB;clear h0_ h1_ h2_ h3_ h4_ h5_ h6_;have BK101:=n0_;have BK124:=n1_;have GW124:=n2_;have GE124:=n3_;have NB101_124:=n4_;have NB124_101:=n5_;have HB:=n6_;clear n0_ n1_ n2_ n3_ n4_ n5_ n6_;have hHeld:w49.cell? ⟨gb101,0,none⟩=some (.string a0_0)∧w49.cell? ⟨gb101,1,none⟩=some (.int .i64 a0_1)∧w49.cell? ⟨gb101,2,none⟩=some (.string a0_2)∧w49.cell? ⟨gb101,3,none⟩=some (.string a0_3)∧w49.cell? ⟨gb101,4,none⟩=some (.string a0_4)∧w49.cell? ⟨gb101,5,none⟩=some (.string a0_5)∧w49.cell? ⟨gb101,6,none⟩=some (.string a0_6)∧w49.cell? ⟨gb101,7,none⟩=some (.string a0_7)∧w49.cell? ⟨gb101,8,none⟩=some (.int .i64 a0_8)∧w49.cell? ⟨gb101,9,none⟩=some (.int .i64 a0_9)∧w49.cell? ⟨gb101,10,none⟩=some (.int .i64 a0_10):=hS_;refine norm_ (a':=?_) ?_ ?_;rotate_left
    ·simp only[putAll,Act.put,List.setIfInBounds_toArray,List.set_cons_zero,List.set_cons_succ]
     rfl
    refine one_ (i:=5) (N:=none) #[true,true,true,true,true,true] rfl rfl (by kernel_rfl) (by decide) (fun K hK=>?_);have hs50:=bc_ BK124 0 rfl;have hfs50:=blk_frozen BK124.out 0;have hns50_0:=NB101_124.out;have hms50_0:=NB124_101.out;have hs51:=bc_ BK124 1 rfl;have hfs51:=blk_frozen BK124.out 1;have hns51_0:=NB101_124.out;have hms51_0:=NB124_101.out;have hs52:=bc_ BK124 2 rfl;have hfs52:=blk_frozen BK124.out 2;have hns52_0:=NB101_124.out;have hms52_0:=NB124_101.out;have hs53:=bc_ BK124 3 rfl;have hfs53:=blk_frozen BK124.out 3;have hns53_0:=NB101_124.out;have hms53_0:=NB124_101.out;refine skip_ (w1:=?_) (by rfl) rfl ?_ ?_;rotate_left
    ·go_simp
     rfl
    refine hK.out _ _ ⟨((cell_far (p:=⟨gb124,_,none⟩) NB101_124.out _).trans (((cell_far (p:=⟨gb124,_,none⟩) NB101_124.out _).trans (((cell_far (p:=⟨gb124,_,none⟩) NB101_124.out _).trans (((cell_far (p:=⟨gb124,_,none⟩) NB101_124.out _).trans (hHeld.1)))))))),((cell_far (p:=⟨gb124,_,none⟩) NB101_124.out _).trans (((cell_far (p:=⟨gb124,_,none⟩) NB101_124.out _).trans (((cell_far (p:=⟨gb124,_,none⟩) NB101_124.out _).trans (((cell_far (p:=⟨gb124,_,none⟩) NB101_124.out _).trans (hHeld.2.1)))))))),((cell_far (p:=⟨gb124,_,none⟩) NB101_124.out _).trans (((cell_far (p:=⟨gb124,_,none⟩) NB101_124.out _).trans (((cell_far (p:=⟨gb124,_,none⟩) NB101_124.out _).trans (((cell_far (p:=⟨gb124,_,none⟩) NB101_124.out _).trans (hHeld.2.2.1)))))))),((cell_far (p:=⟨gb124,_,none⟩) NB101_124.out _).trans (((cell_far (p:=⟨gb124,_,none⟩) NB101_124.out _).trans (((cell_far (p:=⟨gb124,_,none⟩) NB101_124.out _).trans (((cell_far (p:=⟨gb124,_,none⟩) NB101_124.out _).trans (hHeld.2.2.2.1)))))))),((cell_far (p:=⟨gb124,_,none⟩) NB101_124.out _).trans (((cell_far (p:=⟨gb124,_,none⟩) NB101_124.out _).trans (((cell_far (p:=⟨gb124,_,none⟩) NB101_124.out _).trans (((cell_far (p:=⟨gb124,_,none⟩) NB101_124.out _).trans (hHeld.2.2.2.2.1)))))))),((cell_far (p:=⟨gb124,_,none⟩) NB101_124.out _).trans (((cell_far (p:=⟨gb124,_,none⟩) NB101_124.out _).trans (((cell_far (p:=⟨gb124,_,none⟩) NB101_124.out _).trans (((cell_far (p:=⟨gb124,_,none⟩) NB101_124.out _).trans (hHeld.2.2.2.2.2.1)))))))),((cell_far (p:=⟨gb124,_,none⟩) NB101_124.out _).trans (((cell_far (p:=⟨gb124,_,none⟩) NB101_124.out _).trans (((cell_far (p:=⟨gb124,_,none⟩) NB101_124.out _).trans (((cell_far (p:=⟨gb124,_,none⟩) NB101_124.out _).trans (hHeld.2.2.2.2.2.2.1)))))))),((cell_far (p:=⟨gb124,_,none⟩) NB101_124.out _).trans (((cell_far (p:=⟨gb124,_,none⟩) NB101_124.out _).trans (((cell_far (p:=⟨gb124,_,none⟩) NB101_124.out _).trans (((cell_far (p:=⟨gb124,_,none⟩) NB101_124.out _).trans (hHeld.2.2.2.2.2.2.2.1)))))))),((cell_far (p:=⟨gb124,_,none⟩) NB101_124.out _).trans (((cell_far (p:=⟨gb124,_,none⟩) NB101_124.out _).trans (((cell_far (p:=⟨gb124,_,none⟩) NB101_124.out _).trans (((cell_far (p:=⟨gb124,_,none⟩) NB101_124.out _).trans (hHeld.2.2.2.2.2.2.2.2.1)))))))),((cell_far (p:=⟨gb124,_,none⟩) NB101_124.out _).trans (((cell_far (p:=⟨gb124,_,none⟩) NB101_124.out _).trans (((cell_far (p:=⟨gb124,_,none⟩) NB101_124.out _).trans (((cell_far (p:=⟨gb124,_,none⟩) NB101_124.out _).trans (hHeld.2.2.2.2.2.2.2.2.2.1)))))))),((cell_far (p:=⟨gb124,_,none⟩) NB101_124.out _).trans (((cell_far (p:=⟨gb124,_,none⟩) NB101_124.out _).trans (((cell_far (p:=⟨gb124,_,none⟩) NB101_124.out _).trans (((cell_far (p:=⟨gb124,_,none⟩) NB101_124.out _).trans (hHeld.2.2.2.2.2.2.2.2.2.2))))))))⟩ (fun hHeld=>?_);clear hK K;refine done_ (by kernel_rfl) ?_;have hnb54:=NB101_124.out;have hnc54:=NB124_101.out;have hz55101:=cs11_ BK101;have hz56124:=cs4_ BK124
    go_upto_if 58 with (fail)
    go_cut [4] (fun v4 wc=>∃ (kq:Nat) (x4_44:Bool),v4=.bool x4_44∧Aside0 (action_May.j1 kq x4_44 a0_0 a0_1 a0_2 a0_3 a0_4 a0_5 a0_6 a0_7 a0_8 a0_9 a0_10 xa0_1_0 xa0_1_1 xa0_1_2 xa0_1_3=some r)∧Aside0 (kq≤kj1)∧Aside0 (wc.heap[gb101]?=some (.cells #[.string a0_0,.int .i64 a0_1,.string a0_2,.string a0_3,.string a0_4,.string a0_5,.string a0_6,.string a0_7,.int .i64 a0_8,.int .i64 a0_9,.int .i64 a0_10] 25 (0,0)))∧Aside0 (wc.heap[gb124]?=some (.cells #[.string xa0_1_0,.bool xa0_1_1,.bool xa0_1_2,.bool xa0_1_3] 46 (0,0)))∧Aside0 (Below w.heap.size w wc))
    case first =>
     have H:=HC45.out;clear HC45;replace H:=bt_ H;rcases H with ⟨rfl,H⟩|⟨rfl,H⟩
     ·replace H:=bi_ H;obtain⟨t125,A58,H⟩:=H;replace H:=bt_ H;rcases H with ⟨rfl,H⟩|⟨rfl,H⟩
      ·have H':=ak_ H;clear H;have hnb60:=NB101_124.out;have hnc60:=NB124_101.out;have hz61:=cs11_ BK101
       go_wp2_with ((refine gm_ 61 Tryz.func28 (action_asset.calls _ _ _ A58.out) ?_;intro w62 hb;replace BK101:=ak_ (blk_below (g:=gb101) (o:=.cells #[.string a0_0,.int .i64 a0_1,.string a0_2,.string a0_3,.string a0_4,.string a0_5,.string a0_6,.string a0_7,.int .i64 a0_8,.int .i64 a0_9,.int .i64 a0_10] 25 (0,0)) (fr_ BK101.out) hb);replace BK124:=ak_ (blk_below (g:=gb124) (o:=.cells #[.string xa0_1_0,.bool true,.bool xa0_1_2,.bool xa0_1_3] 46 (0,0)) (rp_ BK124.out) hb);replace HB:=bs_ HB hb;(try clear hb);have hz63:=cs11_ BK101))
       go_meet
       case rel=>exact⟨_,((a0_3.toList != a0_2.toList)),rl_,H',⟨by have:=HJ1.out;first|omega|exact nr_ _⟩,⟨k_ BK101.out⟩,⟨k_ BK124.out⟩,⟨b_ HB.out⟩⟩
      ·have H':=ak_ H;clear H;have hnb64:=NB101_124.out;have hnc64:=NB124_101.out;have hz65:=cs11_ BK101
       go_wp2_with ((refine gm_ 61 Tryz.func28 (action_asset.calls _ _ _ A58.out) ?_;intro w66 hb;replace BK101:=ak_ (blk_below (g:=gb101) (o:=.cells #[.string a0_0,.int .i64 a0_1,.string a0_2,.string a0_3,.string a0_4,.string a0_5,.string a0_6,.string a0_7,.int .i64 a0_8,.int .i64 a0_9,.int .i64 a0_10] 25 (0,0)) (fr_ BK101.out) hb);replace BK124:=ak_ (blk_below (g:=gb124) (o:=.cells #[.string xa0_1_0,.bool true,.bool xa0_1_2,.bool xa0_1_3] 46 (0,0)) (rp_ BK124.out) hb);replace HB:=bs_ HB hb;(try clear hb)))
       go_meet
       case rel=>exact⟨_,(false),rl_,H',⟨by have:=HJ1.out;first|omega|exact nr_ _⟩,⟨k_ BK101.out⟩,⟨k_ BK124.out⟩,⟨b_ HB.out⟩⟩
     ·have H':=ak_ H;clear H;go_wp2
      go_meet
      case rel=>exact⟨_,((a0_3.toList == ([]:List UInt8))),rl_,H',⟨by have:=HJ1.out;first|omega|exact nr_ _⟩,⟨fr_ BK101.out⟩,⟨rp_ BK124.out⟩,⟨b_ HB.out⟩⟩
    case rest =>
     clear HC45;(try clear c43b0);(try clear c43b1);(try clear c44b0);(try clear c44b1);(try clear hz55101);(try clear hz56124);obtain⟨kq,x4_44,rfl,HA,HJ44,BK101,BK124,HB⟩:=hcut
     cases kq with
     | zero=>exact absurd HA.out (by simp[action_May.j1])
     | succ kj44 =>
      have H:=HA.out;clear HA;simp only[action_May.j1] at H;replace H:=bw_ H;rcases H with ⟨c67,H⟩|⟨c67,H⟩
      ·have c67b0:(a0_1 == 4)=true:=beq_iff_eq.mpr c67;have c67b1:(a0_1 != 4)=false:=bne_eq_false_iff_eq.mpr c67;clear c67;replace H:=bt_ H;rcases H with ⟨rfl,H⟩|⟨rfl,H⟩
       ·replace H:=bi_ H;obtain⟨t126,A69,H⟩:=H;replace H:=bt_ H;rcases H with ⟨rfl,H⟩|⟨rfl,H⟩
        ·replace H:=bi_ H;obtain⟨t127,A71,H⟩:=H;obtain rfl:=oi_ H;have hnb72:=NB101_124.out;have hnc72:=NB124_101.out;have hz73101:=cs11_ BK101;have hz74124:=cs4_ BK124
         go_wp2_with (first|(go_at_call 29;(with_reducible refine(action_number.calls _ _ _ _ _ _ ?side1 A69.out).mono ?_);(case side1=>exact lb_ HLD HB);rintro e w75 ⟨rfl,hb⟩;replace BK101:=kb_ BK101 hb;replace BK124:=kb_ BK124 hb;replace HB:=bs_ HB hb;(try clear hb);have hz76101:=cs11_ BK101;have hz77124:=cs4_ BK124)|(go_at_call 29;(with_reducible refine(action_number.calls _ _ _ _ _ _ ?side1 A71.out).mono ?_);(case side1=>exact lb_ HLD HB);rintro e w78 ⟨rfl,hb⟩;replace BK101:=kb_ BK101 hb;replace BK124:=kb_ BK124 hb;replace HB:=bs_ HB hb;(try clear hb)))
         go_ret
         exact⟨er_,b_ HB.out⟩
        ·obtain rfl:=oi_ H;have hnb79:=NB101_124.out;have hnc79:=NB124_101.out;have hz80101:=cs11_ BK101;have hz81124:=cs4_ BK124
         go_wp2_with ((go_at_call 29;(with_reducible refine(action_number.calls _ _ _ _ _ _ ?side1 A69.out).mono ?_);(case side1=>exact lb_ HLD HB);rintro e w82 ⟨rfl,hb⟩;replace BK101:=kb_ BK101 hb;replace BK124:=kb_ BK124 hb;replace HB:=bs_ HB hb;(try clear hb)))
         go_ret
         exact⟨er_,b_ HB.out⟩
       ·obtain rfl:=oi_ H;have hnb83:=NB101_124.out;have hnc83:=NB124_101.out;have hz84:=cs11_ BK101;go_wp2
        go_ret
        exact⟨er_,b_ HB.out⟩
      ·have c67b0:(a0_1 == 4)=false:=beq_eq_false_iff_ne.mpr c67;have c67b1:(a0_1 != 4)=true:=bne_iff_ne.mpr c67;replace H:=bt_ H;rcases H with ⟨rfl,H⟩|⟨rfl,H⟩
       ·replace H:=bi_ H;obtain⟨t128,A86,H⟩:=H;replace H:=bt_ H;rcases H with ⟨rfl,H⟩|⟨rfl,H⟩
        ·replace H:=bi_ H;obtain⟨t129,A88,H⟩:=H;obtain rfl:=oi_ H;have hnb89:=NB101_124.out;have hnc89:=NB124_101.out;have hz90101:=cs11_ BK101;have hz91124:=cs4_ BK124
         go_wp2_with (first|(go_at_call 29;(with_reducible refine(action_number.calls _ _ _ _ _ _ ?side1 A86.out).mono ?_);(case side1=>exact lb_ HLD HB);rintro e w92 ⟨rfl,hb⟩;replace BK101:=kb_ BK101 hb;replace BK124:=kb_ BK124 hb;replace HB:=bs_ HB hb;(try clear hb);have hz93101:=cs11_ BK101;have hz94124:=cs4_ BK124)|(go_at_call 29;(with_reducible refine(action_number.calls _ _ _ _ _ _ ?side1 A88.out).mono ?_);(case side1=>exact lb_ HLD HB);rintro e w95 ⟨rfl,hb⟩;replace BK101:=kb_ BK101 hb;replace BK124:=kb_ BK124 hb;replace HB:=bs_ HB hb;(try clear hb)))
         go_ret
         exact⟨er_,b_ HB.out⟩
        ·obtain rfl:=oi_ H;have hnb96:=NB101_124.out;have hnc96:=NB124_101.out;have hz97101:=cs11_ BK101;have hz98124:=cs4_ BK124
         go_wp2_with ((go_at_call 29;(with_reducible refine(action_number.calls _ _ _ _ _ _ ?side1 A86.out).mono ?_);(case side1=>exact lb_ HLD HB);rintro e w99 ⟨rfl,hb⟩;replace BK101:=kb_ BK101 hb;replace BK124:=kb_ BK124 hb;replace HB:=bs_ HB hb;(try clear hb)))
         go_ret
         exact⟨er_,b_ HB.out⟩
       ·obtain rfl:=oi_ H;have hnb100:=NB101_124.out;have hnc100:=NB124_101.out;have hz101:=cs11_ BK101;go_wp2
        go_ret
        exact⟨er_,b_ HB.out⟩
end Pl
namespace Pl
open Pj
end Pl
namespace Po
open Pl
attribute [local go_sem] idx_shape
def errW:Option Int→Value
 | none=>.nilIface
 | some c=>.iface 0 (.int .i64 c)
theorem errW_none:errW none=.nilIface:=rfl
theorem errW_some (c:Int):errW (some c)=.iface 0 (.int .i64 c):=rfl
theorem info9:(Tryz.prog.info? 9).map (fun i=>(i.zero,i.size,i.bytes))=some (some (.string ⟨#[]⟩),1,16):=by kernel_rfl
end Po
end Go.Proofs.YtoghmeffpgbcfaaGreatDoor