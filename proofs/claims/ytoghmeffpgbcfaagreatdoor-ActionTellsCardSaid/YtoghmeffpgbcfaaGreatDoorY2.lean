/-
Parts of the proof, in build order: Pt2, Pt, Dig, Lim, NatLaw, TakeLaw, ShortLaw, Knuth, DivLaw, DivLaw2, DivLaw3, ReadLaw, Show, NatHands, Itoa, Pr0, SqL, Pr1, Pr, NatApi, Ten, Pq0, Pq1.
-/
import Derived.Test.YtoghmeffpgbcfaaGreatDoorY1
import Derived.Lib.PathFns
import Derived.Lib.SmallJoins
set_option linter.unusedVariables false
set_option linter.unusedSimpArgs false
set_option maxHeartbeats 64000000
set_option maxRecDepth 100000
namespace Go.Proofs.YtoghmeffpgbcfaaGreatDoor
open Go.RowKit Go.Proofs.YtoghmeffpgbcfaaGreatDoorW.PrintWords Go.Proofs.YtoghmeffpgbcfaaGreatDoorW.PrintLast Go.Proofs.YtoghmeffpgbcfaaGreatDoorW.PrintMore
attribute [local go_sem] max2_int min2_int max_two min_two max_three min_three max_four min_four
namespace Pt
open Pm
mutual
def nat_div.l0:Nat→List Int→List Int→List Int→Int→List Int→Int→Option (List Int×List Int)
 | 0,_,_,_,_,_,_=>none
 | k+1,x6,x7,x8,x9,x10,x11=>if x11≥0 then (if 0≤(wrap64 (x11+x9)) then (if (wrap64 (x11+x9))<(x7.length:Int) then (if 0≤(wrap64 ((wrap64 (x11+x9))-1)) then (if (wrap64 ((wrap64 (x11+x9))-1))<(x7.length:Int) then (if 0≤(wrap64 (x9-1)) then (if (wrap64 (x9-1))<(x8.length:Int) then (if (rd x8 (wrap64 (x9-1)))=0 then (none) else (nat_div.l1 k x6 x7 x8 x9 x10 x11 (wrap64 (Int.tdiv (wrap64 ((wrap64 ((rd x7 (wrap64 (x11+x9))) * 10000))+(rd x7 (wrap64 ((wrap64 (x11+x9))-1))))) (rd x8 (wrap64 (x9-1))))) (Int.tmod (wrap64 ((wrap64 ((rd x7 (wrap64 (x11+x9))) * 10000))+(rd x7 (wrap64 ((wrap64 (x11+x9))-1))))) (rd x8 (wrap64 (x9-1)))))) else (none)) else (none)) else (none)) else (none)) else (none)) else (none)) else ((nat_limbs_trim.f k x7).bind fun t142=>(if 0<(x6.length:Int) then ((nat_short.f t142 (rd x6 0)).bind fun bt146=>((nat_limbs_trim.f k x10).bind fun t152=>(some (t152,bt146.1)))) else (none)))
def nat_div.l1:Nat→List Int→List Int→List Int→Int→List Int→Int→Int→Int→Option (List Int×List Int)
 | 0,_,_,_,_,_,_,_,_=>none
 | k+1,x6,x7,x8,x9,x10,x11,x13,x14=>if x13≥10000 then (nat_div.j2 k x6 x7 x8 x9 x10 x11 x13 x14 true) else (if 0≤(wrap64 (x9-2)) then (if (wrap64 (x9-2))<(x8.length:Int) then (if 0≤(wrap64 ((wrap64 (x11+x9))-2)) then (if (wrap64 ((wrap64 (x11+x9))-2))<(x7.length:Int) then (nat_div.j2 k x6 x7 x8 x9 x10 x11 x13 x14 (decide ((wrap64 (x13 * (rd x8 (wrap64 (x9-2)))))>(wrap64 ((wrap64 (x14 * 10000))+(rd x7 (wrap64 ((wrap64 (x11+x9))-2)))))))) else (none)) else (none)) else (none)) else (none))
def nat_div.j2:Nat→List Int→List Int→List Int→Int→List Int→Int→Int→Int→Bool→Option (List Int×List Int)
 | 0,_,_,_,_,_,_,_,_,_=>none
 | k+1,x6,x7,x8,x9,x10,x11,x13,x14,x115=>if x115=true then (if 0≤(wrap64 (x9-1)) then (if (wrap64 (x9-1))<(x8.length:Int) then (if (wrap64 (x14+(rd x8 (wrap64 (x9-1)))))<10000 then (nat_div.l1 k x6 x7 x8 x9 x10 x11 (wrap64 (x13-1)) (wrap64 (x14+(rd x8 (wrap64 (x9-1)))))) else (nat_div.j3 k x6 x7 x8 x9 x10 x11 (wrap64 (x13-1)))) else (none)) else (none)) else (nat_div.j3 k x6 x7 x8 x9 x10 x11 x13)
def nat_div.j3:Nat→List Int→List Int→List Int→Int→List Int→Int→Int→Option (List Int×List Int)
 | 0,_,_,_,_,_,_,_=>none
 | k+1,x6,x7,x8,x9,x10,x11,x13=>(nat_take.f k x7 x8 x11 x13).bind fun bt162=>(if bt162.1<0 then ((nat_give.f k bt162.2 x8 x11).bind fun t164=>(if 0≤x11 then (if x11<(x10.length:Int) then (nat_div.l0 k x6 t164 x8 x9 (x10.set (x11:Int).toNat (wrap64 (x13-1))) (wrap64 (x11-1))) else (none)) else (none))) else (if 0≤x11 then (if x11<(x10.length:Int) then (nat_div.l0 k x6 bt162.2 x8 x9 (x10.set (x11:Int).toNat x13) (wrap64 (x11-1))) else (none)) else (none)))
end
def nat_div.f (k:Nat) (l0 l1:List Int):Option (List Int×List Int):=(nat_compare.f l0 l1).bind fun t115=>(if t115<0 then (some (([]:List Int),l0)) else (if (l1.length:Int)=1 then (if 0<(l1.length:Int) then ((nat_short.f l0 (rd l1 0)).bind fun bt117=>(some (bt117.1,bt117.2))) else (none)) else (if 0≤(wrap64 ((l1.length:Int)-1)) then (if (wrap64 ((l1.length:Int)-1))<(l1.length:Int) then (if (wrap64 ((rd l1 (wrap64 ((l1.length:Int)-1)))+1))=0 then (none) else ((some (([wrap64 (Int.tdiv (10000:Int) (wrap64 ((rd l1 (wrap64 ((l1.length:Int)-1)))+1)))]:List Int):List Int)).bind fun y124=>((nat_mul.f k l0 y124).bind fun t127=>((some (([0,0]:List Int):List Int)).bind fun y130=>(if t127.length+y130.length<17592186044416 then ((some (t127++y130:List Int)).bind fun y133=>((nat_mul.f k l1 y124).bind fun t136=>(if 0≤(wrap64 ((y133.length:Int)-(t136.length:Int))) then (if (wrap64 ((y133.length:Int)-(t136.length:Int)):Int).toNat≤35184372088832 then (nat_div.l0 k y124 y133 t136 (t136.length:Int) (List.replicate (wrap64 ((y133.length:Int)-(t136.length:Int)):Int).toNat 0) (wrap64 ((wrap64 ((y133.length:Int)-(t136.length:Int)))-1))) else (none)) else (none)))) else (none)))))) else (none)) else (none))))
def nat_div.T12:Bool×List (List Nat×List Nat):=(true,[([],[]),([],[]),([],[]),([1,2],[1,2]),([0,3],[0,3]),([4],[4]),([5],[5]),([],[]),([],[]),([],[]),([8,9],[8,9]),([10],[10]),([7,11],[7,11]),([12],[12]),([6,13],[6,13]),([14,0,1,2,3,4,5,6,7,8,9,10,11,12,13,14],[14])])
def nat_div.B12:List Nat:=[0,0,0,6,15,31,63,0,0,0,768,1792,3968,8064,16383,32767]
theorem nat_div.tab12:rtab .any (opsOf Tryz.f103 12)=nat_div.T12:=by kernel_rfl
theorem nat_div.bits12:waitsOk nat_div.T12.2 nat_div.B12=true:=by kernel_rfl
def nat_div.T13:Bool×List (List Nat×List Nat):=(true,[([],[]),([],[]),([],[]),([2],[2]),([1,3],[1,3]),([4],[4]),([0,5],[0,5]),([],[]),([],[]),([],[]),([9],[9]),([8,10],[8,10]),([11],[11]),([7,12],[7,12]),([6,0,1,2,3,4,5,6],[6]),([13,14,0,1,2,3,4,5,6,7,8,9,10,11,12,13,14],[13])])
def nat_div.B13:List Nat:=[0,0,0,4,14,30,63,0,0,0,512,1792,3840,8064,127,32767]
theorem nat_div.tab13:rtab .any (opsOf Tryz.f103 13)=nat_div.T13:=by kernel_rfl
theorem nat_div.bits13:waitsOk nat_div.T13.2 nat_div.B13=true:=by kernel_rfl
def nat_div.T14:Bool×List (List Nat×List Nat):=(true,[([],[]),([0],[0]),([1],[1]),([2],[2]),([2],[2]),([2],[2]),([5,2],[2,5]),([4,6,2],[2,4,6]),([7,2],[2,7]),([3,8,2],[2,3,8]),([2],[2]),([10,2],[2,10]),([2],[2]),([2],[2]),([2],[2]),([13,14,2],[2,13,14]),([15,2],[2,15]),([12,16,2],[2,12,16]),([17,2],[2,17]),([11,18,2],[2,11,18]),([9,19,2],[2,9,19]),([2,20],[2,20])])
def nat_div.B14:List Nat:=[0,1,3,7,7,7,39,119,247,511,7,1031,7,7,7,24583,57351,126983,258055,523271,1048575,2097151]
theorem nat_div.tab14:rtab .any (opsOf Tryz.f103 14)=nat_div.T14:=by kernel_rfl
theorem nat_div.bits14:waitsOk nat_div.T14.2 nat_div.B14=true:=by kernel_rfl
def nat_div.T22:Bool×List (List Nat×List Nat):=(true,[([],[]),([0],[0]),([],[]),([2],[2]),([3],[3]),([1,4,1],[1,4]),([5],[5]),([6],[6]),([6],[6]),([7,5,0,1,2,3,4,5,6,7],[7]),([8,9,0,1,2,3,4,5,6,7,8,9],[8])])
def nat_div.B22:List Nat:=[0,1,0,4,12,31,63,127,127,255,1023]
theorem nat_div.tab22:rtab .any (opsOf Tryz.f103 22)=nat_div.T22:=by kernel_rfl
theorem nat_div.bits22:waitsOk nat_div.T22.2 nat_div.B22=true:=by kernel_rfl
theorem nat_div.calls (k:Nat) (P0_:Nat→Prop) (A0:Option Addr) (c0:Nat) (l0:List Int) (A1:Option Addr) (c1:Nat) (l1 r1 r2:List Int) (w:World) (hs0:Kd.V (Kd.int .i64) 3 w w.heap.size (fun k_=>P0_ k_) (.slice A0 l0.length c0) l0) (hr1:Kd.C (Kd.int .i64) w A1 l1.length l1) (hc1:l1.length≤c1) (h:nat_div.f k l0 l1=some (r1,r2)) :
  Calls Tryz.prog 103 #[.slice A0 l0.length c0,.slice A1 l1.length c1] w fun e w'=>∃ v0_ v1_:Value,e=.returned (.tuple #[v0_,v1_])∧Kd.V (Kd.int .i64) 3 w' w.heap.size (fun k_=>(P0_ k_∨w.heap.size≤k_)) v0_ r1∧Kd.V (Kd.int .i64) 3 w' w.heap.size (fun k_=>(P0_ k_∨w.heap.size≤k_)) v1_ r2∧Below w.heap.size w w':=by
 have HO0:=ak_ (show Kd.V (Kd.int .i64) 3 w w.heap.size (fun k_=>(P0_ k_∨w.heap.size≤k_)) (.slice A0 l0.length c0) l0 from Kd.V_mono hs0 (fun k_ hk=>.inl hk));have HR1:=ak_ hr1;have HC1:=ak_ hc1;clear hr1 hc1;have HB:=ak_ (Below.refl w.heap.size w);have H:=h;unfold nat_div.f at H;clear h;obtain⟨t115,A3,H⟩:=bi_ H;replace H:=bw_ H;rcases H with ⟨c4,H⟩|⟨c4,H⟩
 ·have c4b0:=dt_ c4;clear c4;replace H:=pi2_ H;obtain⟨rfl,rfl⟩:=H;go_in
  go_wp2_with (first|(first|(with_reducible refine Exit.only_intro ?_)|((with_reducible refine wp_scope_redo (rest:=?rest_) 0 ?hf_ ?_);(case hf_=>exact rfl))|(with_reducible apply wp_goto))|(refine gl_ 19 Tryz.func139 #[.slice A0 l0.length c0,.slice A1 l1.length c1] ?_;(with_reducible refine(nat_compare.calls _ _ l0 _ _ l1 t115 _ ?side1 ?side2 ?side3 ?side4 A3.out).mono ?_);(case side1=>exact c_ (Kd.V_reads' HO0.out).2.2);(case side2=>exact(Kd.V_reads' HO0.out).2.1);(case side3=>repeat(first|exact HR1.out|(with_reducible refine Kd.C_alloc ?_ _)|(with_reducible refine Kd.C_drewN ?_ _)|(with_reducible refine Kd.C_drew ?_)));(case side4=>exact HC1.out);rintro e w5 ⟨rfl,hb⟩;refine⟨_,rfl,?_⟩;replace HO0:=ak_ (Kd.V_below (v_ HO0.out) hb);replace HB:=bs_ HB hb;(try clear hb);(try clear hk)))
  go_ret2;exact⟨(.slice none 0 0),_,er_,Kd.V_mono (Kd.V_nil _ _ _ _ _) (fun k_ hk=>by first|exact⟨(.inr (hk.1)),hk.2⟩|exact(.inr (hk))),by(with_reducible repeat(first|apply Kd.V_alloc|apply Kd.V_drewN|apply Kd.V_drew));exact HO0.out,b_ HB.out⟩
 ·have c4b0:=df_ c4;clear c4;replace H:=bw_ H;rcases H with ⟨c6,H⟩|⟨c6,H⟩
  ·have c6b0:((l1.length:Int) == 1)=true:=beq_iff_eq.mpr c6;have c6b1:((l1.length:Int) != 1)=false:=bne_eq_false_iff_eq.mpr c6;clear c6;replace H:=bx_ H;obtain⟨c7,H⟩:=H;have c7b0:=dt_ c7;have c7b1:decide (0<l1.length)=true:=decide_eq_true (by omega);clear c7;obtain⟨⟨t117,t120⟩,A8,H⟩:=bi_ H;(try dsimp only at H);replace H:=pi2_ H;obtain⟨rfl,rfl⟩:=H;go_in
   go_wp2_with (first|(first|(with_reducible refine Exit.only_intro ?_)|((with_reducible refine wp_scope_redo (rest:=?rest_) 0 ?hf_ ?_);(case hf_=>exact rfl))|(with_reducible apply wp_goto))|(refine gl_ 19 Tryz.func139 #[.slice A0 l0.length c0,.slice A1 l1.length c1] ?_;(with_reducible refine(nat_compare.calls _ _ l0 _ _ l1 t115 _ ?side1 ?side2 ?side3 ?side4 A3.out).mono ?_);(case side1=>exact c_ (Kd.V_reads' HO0.out).2.2);(case side2=>exact(Kd.V_reads' HO0.out).2.1);(case side3=>repeat(first|exact HR1.out|(with_reducible refine Kd.C_alloc ?_ _)|(with_reducible refine Kd.C_drewN ?_ _)|(with_reducible refine Kd.C_drew ?_)));(case side4=>exact HC1.out);rintro e w9 ⟨rfl,hb⟩;refine⟨_,rfl,?_⟩;replace HO0:=ak_ (Kd.V_below (v_ HO0.out) hb);replace HB:=bs_ HB hb;(try clear hb);(try clear hk);have p116:0≤(0:Int):=(by omega);have q116:0<(l1.length:Int):=od_ as_f;obtain⟨ad116,e116,hx116_0⟩:=Kd.at_int HR1.out 0 p116 q116;cases e116;have qi116:(0<l1.length)=True:=eq_true (by omega);(try rw[show ((0:Int)).toNat=0 from rfl] at hx116_0);(try rw[Addr.add_zero'] at hx116_0);replace hx116_0:=(HB.out.cell (World.block_lt_of_cell? w _ hx116_0)).trans hx116_0;replace p116:=eq_true p116;replace q116:=eq_true q116)|(refine gl_ 29 Tryz.func140 #[.slice A0 l0.length c0,.int .i64 (rd l1 0)] ?_;(with_reducible refine(nat_short.calls _ _ l0 (rd l1 0) t117 t120 _ ?side1 ?side2 A8.out).mono ?_);(case side1=>exact c_ (Kd.V_reads' HO0.out).2.2);(case side2=>exact(Kd.V_reads' HO0.out).2.1);rintro e w10 ⟨v118,v121,rfl,ho0,ho1,hb⟩;refine⟨_,rfl,?_⟩;have HO119:=ak_ (Kd.V_lower (Kd.V_mono (ok':=fun k_=>(P0_ k_∨w.heap.size≤k_)) ho0 (fun k_ hk_=>(.inr (Nat.le_trans (below_size (b_ HB.out)) hk_)))) (below_size (b_ HB.out)));have HO122:=ak_ (Kd.V_lower (Kd.V_mono (ok':=fun k_=>(P0_ k_∨w.heap.size≤k_)) ho1 (fun k_ hk_=>(.inr (Nat.le_trans (below_size (b_ HB.out)) hk_)))) (below_size (b_ HB.out)));replace HO0:=ak_ (Kd.V_below (v_ HO0.out) hb);replace HB:=bs_ HB hb;(try clear hb);(try clear hk);(try clear ho0);(try clear ho1)))
   go_ret2;exact⟨_,_,er_,by(with_reducible repeat(first|apply Kd.V_alloc|apply Kd.V_drewN|apply Kd.V_drew));exact HO119.out,by(with_reducible repeat(first|apply Kd.V_alloc|apply Kd.V_drewN|apply Kd.V_drew));exact HO122.out,b_ HB.out⟩
  ·have c6b0:((l1.length:Int) == 1)=false:=beq_eq_false_iff_ne.mpr c6;have c6b1:((l1.length:Int) != 1)=true:=bne_iff_ne.mpr c6;obtain⟨ji11,hji11⟩:∃ j_:Int,(wrap64 ((l1.length:Int)-1))=j_:=⟨_,rfl⟩;(first|rw[hji11] at H|simp only[hji11] at H);(try rw[hji11] at A3);have hji11w:(IntKind.i64.wrap ((l1.length:Int)-1))=ji11:=(i64_w _).trans hji11;replace H:=bx_ H;obtain⟨c12,H⟩:=H;have c12b0:=dt_ c12;clear c12;replace H:=bx_ H;obtain⟨c13,H⟩:=H;have c13b0:=dt_ c13;clear c13;replace H:=by_ H;obtain⟨c14,H⟩:=H;have c14b0:((wrap64 ((rd l1 (ji11))+1)) == 0)=false:=beq_eq_false_iff_ne.mpr c14;have c14b1:((wrap64 ((rd l1 (ji11))+1)) != 0)=true:=bne_iff_ne.mpr c14;obtain⟨y124,hy124⟩:∃ y_:List Int,y_ = (([wrap64 (Int.tdiv (10000:Int) (wrap64 ((rd l1 (ji11))+1)))]:List Int)):=⟨_,rfl⟩
   replace H:((nat_mul.f k l0 y124).bind fun t127=>((some (([0,0]:List Int):List Int)).bind fun y130=>(if t127.length+y130.length<17592186044416 then ((some (t127++y130:List Int)).bind fun y133=>((nat_mul.f k l1 y124).bind fun t136=>(if 0≤(wrap64 ((y133.length:Int)-(t136.length:Int))) then (if (wrap64 ((y133.length:Int)-(t136.length:Int)):Int).toNat≤35184372088832 then (nat_div.l0 k y124 y133 t136 (t136.length:Int) (List.replicate (wrap64 ((y133.length:Int)-(t136.length:Int)):Int).toNat 0) (wrap64 ((wrap64 ((y133.length:Int)-(t136.length:Int)))-1))) else (none)) else (none)))) else (none))))=some (r1,r2):=hr_ hy124 H
   have Ny124:=ak_ hy124;clear hy124;obtain⟨t127,A15,H⟩:=bi_ H;obtain⟨y130,hy130⟩:∃ y_:List Int,y_ = (([0,0]:List Int)):=⟨_,rfl⟩
   replace H:(if t127.length+y130.length<17592186044416 then ((some (t127++y130:List Int)).bind fun y133=>((nat_mul.f k l1 y124).bind fun t136=>(if 0≤(wrap64 ((y133.length:Int)-(t136.length:Int))) then (if (wrap64 ((y133.length:Int)-(t136.length:Int)):Int).toNat≤35184372088832 then (nat_div.l0 k y124 y133 t136 (t136.length:Int) (List.replicate (wrap64 ((y133.length:Int)-(t136.length:Int)):Int).toNat 0) (wrap64 ((wrap64 ((y133.length:Int)-(t136.length:Int)))-1))) else (none)) else (none)))) else (none))=some (r1,r2):=hr_ hy130 H
   have Ny130:=ak_ hy130;clear hy130;replace H:=bx_ H;obtain⟨c16,H⟩:=H;have LMc16:=ak_ c16;clear c16;obtain⟨y133,hy133⟩:∃ y_:List Int,y_ = (t127++y130):=⟨_,rfl⟩
   replace H:((nat_mul.f k l1 y124).bind fun t136=>(if 0≤(wrap64 ((y133.length:Int)-(t136.length:Int))) then (if (wrap64 ((y133.length:Int)-(t136.length:Int)):Int).toNat≤35184372088832 then (nat_div.l0 k y124 y133 t136 (t136.length:Int) (List.replicate (wrap64 ((y133.length:Int)-(t136.length:Int)):Int).toNat 0) (wrap64 ((wrap64 ((y133.length:Int)-(t136.length:Int)))-1))) else (none)) else (none)))=some (r1,r2):=hr_ hy133 H
   have Ny133:=ak_ hy133;clear hy133;obtain⟨t136,A17,H⟩:=bi_ H;obtain⟨ji18,hji18⟩:∃ j_:Int,(wrap64 ((y133.length:Int)-(t136.length:Int)))=j_:=⟨_,rfl⟩;(first|rw[hji18] at H|simp only[hji18] at H);(try rw[hji18] at A3);(try rw[hji18] at A15);(try rw[hji18] at A17);have hji18w:(IntKind.i64.wrap ((y133.length:Int)-(t136.length:Int)))=ji18:=(i64_w _).trans hji18;replace H:=bx_ H;obtain⟨c19,H⟩:=H;have c19b0:=eq_true c19;have c19b1:=dt_ c19;clear c19;replace H:=bx_ H;obtain⟨c20,H⟩:=H;have c20b0:=eq_true c20;have c20b1:=dt_ c20;clear c20;obtain⟨y139,hy139⟩:∃ y_:List Int,y_ = (List.replicate (ji18:Int).toNat 0):=⟨_,rfl⟩
   replace H:(nat_div.l0 k y124 y133 t136 (t136.length:Int) y139 (wrap64 ((ji18)-1)))=some (r1,r2):=hr_ hy139 H
   have Ny139:=ak_ hy139;clear hy139;have H':=ak_ H;clear H;go_in
   go_wp2_with (first|(first|(with_reducible refine Exit.only_intro ?_)|((with_reducible refine wp_scope_redo (rest:=?rest_) 0 ?hf_ ?_);(case hf_=>exact rfl))|(with_reducible apply wp_goto))|(refine gl_ 19 Tryz.func139 #[.slice A0 l0.length c0,.slice A1 l1.length c1] ?_;(with_reducible refine(nat_compare.calls _ _ l0 _ _ l1 t115 _ ?side1 ?side2 ?side3 ?side4 A3.out).mono ?_);(case side1=>exact c_ (Kd.V_reads' HO0.out).2.2);(case side2=>exact(Kd.V_reads' HO0.out).2.1);(case side3=>repeat(first|exact HR1.out|(with_reducible refine Kd.C_alloc ?_ _)|(with_reducible refine Kd.C_drewN ?_ _)|(with_reducible refine Kd.C_drew ?_)));(case side4=>exact HC1.out);rintro e w21 ⟨rfl,hb⟩;refine⟨_,rfl,?_⟩;replace HO0:=ak_ (Kd.V_below (v_ HO0.out) hb);replace HB:=bs_ HB hb;(try clear hb);(try clear hk);have p123:0≤((ji11):Int):=od_ as_f;have q123:(ji11)<(l1.length:Int):=od_ as_f;obtain⟨ad123,e123,hx123_0⟩:=Kd.at_int HR1.out (ji11) p123 q123;cases e123;replace hx123_0:=(HB.out.cell (World.block_lt_of_cell? w _ hx123_0)).trans hx123_0;replace p123:=eq_true p123;replace q123:=eq_true q123)|((with_reducible refine gate_dst (N:=40) rfl ?_);refine Kd.R_lit (Kd.int .i64) _ 3 ?hg (N:=40) ?hd (xs:=([wrap64 (Int.tdiv (10000:Int) (wrap64 ((rd l1 (ji11))+1)))]:List Int)) (inner:=[.int .i64 (wrap64 (Int.tdiv (10000:Int) (wrap64 ((rd l1 (ji11))+1))))]) (ok:=fun _=>True) (okp:=fun _=>True) ?hr ?hp (fun _ hk=>hk) trivial (Below.refl _ _) (nr_ _) (by simp) ?_;(case hd=>rfl);(case hg=>rfl);(case hr=>first|(go_simp;done)|(go_simp;rfl));(case hp=>exact(Reps.one (show Kd.M (Kd.int .i64) _ _ _ (wrap64 (Int.tdiv (10000:Int) (wrap64 ((rd l1 (ji11))+1)))) [.int .i64 (wrap64 (Int.tdiv (10000:Int) (wrap64 ((rd l1 (ji11))+1))))] from rfl) (Reps.none _ _)));intro v125 w22 ho23 hb hg_ hnew_;clear hg_ hnew_;(first|rw[← Ny124.out] at ho23|(simp only[Int.reduceToNat] at ho23;rw[← Ny124.out] at ho23));have HO126:=ak_ (Kd.R_lower (Kd.R_newM (M:=fun k_=>(w.heap.size≤k_)) ho23 (below_size (b_ HB.out)) (fun k_ h_=>h_)) (below_size (b_ HB.out)));replace HO0:=ak_ (Kd.V_elder' (v_ HO0.out) (Kd.R_base ho23) hb);replace HB:=bs_ HB hb;clear hb ho23;obtain⟨Ao24,co24,eo24⟩:=Kd.R_slice HO126.out;subst eo24)|(refine gl_ 43 Tryz.func105 #[.slice A0 l0.length c0,.slice Ao24 y124.length co24] ?_;(with_reducible refine(nat_mul.calls k _ _ l0 _ _ y124 t127 _ ?side1 ?side2 ?side3 ?side4 A15.out).mono ?_);(case side1=>exact c_ (Kd.V_reads' HO0.out).2.2);(case side2=>exact(Kd.V_reads' HO0.out).2.1);(case side3=>exact c_ (Kd.R_reads' HO126.out).2.2);(case side4=>exact(Kd.R_reads' HO126.out).2.1);rintro e w25 ⟨v128,rfl,ho0,hb⟩;refine⟨_,rfl,?_⟩;have HO129:=ak_ (Kd.R_lower (Kd.R_new' (Kd.R_newM (M:=fun k_=>(w.heap.size≤k_)) ho0 (below_size (b_ HB.out)) (fun k_ h_=>h_)) (Kd.R_lt (w_ HO126.out))) (below_size (b_ HB.out)));replace HO0:=ak_ (Kd.V_elder' (v_ HO0.out) (Kd.R_base ho0) hb);replace HO126:=ak_ (Kd.R_elder' (w_ HO126.out) (Kd.R_base ho0) hb);replace HB:=bs_ HB hb;(try clear hb);(try clear hk);(try clear ho0))|((with_reducible refine gate_dst (N:=44) rfl ?_);refine Kd.R_lit (Kd.int .i64) _ 3 ?hg (N:=44) ?hd (xs:=([0,0]:List Int)) (inner:=[.int .i64 0,.int .i64 0]) (ok:=fun _=>True) (okp:=fun _=>True) ?hr ?hp (fun _ hk=>hk) trivial (Below.refl _ _) (nr_ _) (by simp) ?_;(case hd=>rfl);(case hg=>rfl);(case hr=>first|(go_simp;done)|(go_simp;rfl));(case hp=>exact(Reps.one (show Kd.M (Kd.int .i64) _ _ _ 0 [.int .i64 0] from rfl) (Reps.one (show Kd.M (Kd.int .i64) _ _ _ 0 [.int .i64 0] from rfl) (Reps.none _ _))));intro v131 w26 ho27 hb hg_ hnew_;clear hg_ hnew_;(first|rw[← Ny130.out] at ho27|(simp only[Int.reduceToNat] at ho27;rw[← Ny130.out] at ho27));have HO132:=ak_ (Kd.R_lower (Kd.R_new' (Kd.R_new' (Kd.R_newM (M:=fun k_=>(w.heap.size≤k_)) ho27 (below_size (b_ HB.out)) (fun k_ h_=>h_)) (Kd.R_lt (w_ HO126.out))) (Kd.R_lt (w_ HO129.out))) (below_size (b_ HB.out)));replace HO0:=ak_ (Kd.V_elder' (v_ HO0.out) (Kd.R_base ho27) hb);replace HO126:=ak_ (Kd.R_elder' (w_ HO126.out) (Kd.R_base ho27) hb);replace HO129:=ak_ (Kd.R_elder' (w_ HO129.out) (Kd.R_base ho27) hb);replace HB:=bs_ HB hb;clear hb ho27;obtain⟨Ao29,co29,eo29⟩:=Kd.R_slice HO132.out;subst eo29)|((with_reducible refine gate_builtin (b:=.append) (xs:=#[.tmp 43,.tmp 44]) rfl ?_);at_builtin;refine Kd.R_append_rows (Kd.int .i64) (w0:=w) w.heap.size rfl (.tmp 43) (.tmp 44) 100 3 (.int .i64 0) 8 rfl Tryz.underlying100 info3 rfl (by decide) (by omega) v128 t127 y130 _ _ _ (fun k_=>(w.heap.size≤k_)∧some k_≠(.slice Ao24 y124.length co24:Value).ownBlock∧some k_≠(.slice Ao29 y130.length co29:Value).ownBlock) (fun _=>False) rfl rfl ?aO ?aR (fun _ _ h=>h) (fun _ h=>h.elim) ?aF ?aB ?aS ?aL ?_;(case aR=>repeat(first|exact(Kd.R_reads' HO132.out).2.2|(with_reducible refine Kd.C_alloc ?_ _)|(with_reducible refine Kd.C_drewN ?_ _)|(with_reducible refine Kd.C_drew ?_)));(case aB=>exact(b_ HB.out));(case aF=>exact(fun k_ hk=>⟨(Nat.le_trans (below_size (b_ HB.out)) hk),Kd.fresh' (Kd.R_lt (w_ HO126.out)) k_ hk,Kd.fresh' (Kd.R_lt (w_ HO132.out)) k_ hk⟩));(case aO=>exact(by(with_reducible repeat(first|apply Kd.R_alloc|apply Kd.R_drewN|apply Kd.R_drew));exact Kd.R_mono HO129.out (fun _ hk=>⟨hk.1.1.1,⟨hk.1.2,hk.2⟩⟩)));(case aS=>exact(below_size (b_ HB.out)));(case aL=>have:=LMc16.out;omega);intro v134 w28 ho hb hg hat;rw[← Ny133.out] at ho;have HO135:=ak_ (ho);replace HO0:=ak_ (Kd.V_afterv (ok:=(fun k_=>(P0_ k_∨w.heap.size≤k_)∧some k_≠(.slice Ao24 y124.length co24:Value).ownBlock∧some k_≠(.slice Ao29 y130.length co29:Value).ownBlock)) (by(with_reducible repeat(first|apply Kd.V_alloc|apply Kd.V_drewN|apply Kd.V_drew));exact Kd.V_mono HO0.out (fun _ hk=>⟨⟨hk.1.1.1,⟨hk.1.1.2,hk.2⟩⟩,hk.1.2⟩)) hg hat);replace HO126:=ak_ (Kd.R_after (ok:=(fun k_=>(w.heap.size≤k_)∧some k_≠(.slice Ao29 y130.length co29:Value).ownBlock)) (by(with_reducible repeat(first|apply Kd.R_alloc|apply Kd.R_drewN|apply Kd.R_drew));exact Kd.R_mono HO126.out (fun _ hk=>⟨⟨hk.1.1.1,hk.2⟩,hk.1.2⟩)) hg hat);replace HO132:=ak_ (Kd.R_after (ok:=(fun k_=>(w.heap.size≤k_)∧some k_≠(.slice Ao24 y124.length co24:Value).ownBlock)) (by(with_reducible repeat(first|apply Kd.R_alloc|apply Kd.R_drewN|apply Kd.R_drew));exact Kd.R_mono HO132.out (fun _ hk=>⟨⟨hk.1.1.1,hk.1.2⟩,hk.2⟩)) hg hat);replace HB:=ak_ (hb);clear HO129;clear ho hb hg hat)|(refine gl_ 48 Tryz.func105 #[.slice (some ad123) l1.length c1,.slice Ao24 y124.length co24] ?_;(with_reducible refine(nat_mul.calls k _ _ l1 _ _ y124 t136 _ ?side1 ?side2 ?side3 ?side4 A17.out).mono ?_);(case side1=>exact c_ (Kd.C_below HR1.out HB.out));(case side2=>exact HC1.out);(case side3=>exact c_ (Kd.R_reads' HO126.out).2.2);(case side4=>exact(Kd.R_reads' HO126.out).2.1);rintro e w30 ⟨v137,rfl,ho0,hb⟩;refine⟨_,rfl,?_⟩;have HO138:=ak_ (Kd.R_lower (Kd.R_new' (Kd.R_new' (Kd.R_new' (Kd.R_newM (M:=fun k_=>(w.heap.size≤k_)) ho0 (below_size (b_ HB.out)) (fun k_ h_=>h_)) (Kd.R_lt (w_ HO126.out))) (Kd.R_lt (w_ HO132.out))) (Kd.R_lt (w_ HO135.out))) (below_size (b_ HB.out)));replace HO0:=ak_ (Kd.V_elder' (v_ HO0.out) (Kd.R_base ho0) hb);replace HO126:=ak_ (Kd.R_elder' (w_ HO126.out) (Kd.R_base ho0) hb);replace HO132:=ak_ (Kd.R_elder' (w_ HO132.out) (Kd.R_base ho0) hb);replace HO135:=ak_ (Kd.R_elder' (w_ HO135.out) (Kd.R_base ho0) hb);replace HB:=bs_ HB hb;(try clear hb);(try clear hk);(try clear ho0);obtain⟨Ao31,co31,eo31⟩:=Kd.R_slice HO138.out;subst eo31;obtain⟨Ao32,co32,eo32⟩:=Kd.R_slice HO135.out;subst eo32)|((with_reducible refine gate_dst (N:=55) rfl ?_);refine Kd.R_make (Kd.int .i64) _ 3 rfl (N:=55) rfl 100 _ _ rfl ji18 (by first|rfl|(rw[← hji18];rfl)) (by first|rfl|(rw[← hji18];rfl)) Tryz.underlying100 (.int .i64 0) 8 info3 rfl (by decide) (by omega) 0 (ok:=fun _=>True) (okp:=fun _=>True) rfl (fun _ hk=>hk) trivial (od_ as_f) (by have h_:=(od_ as_f:ji18.toNat≤35184372088832);omega) (Below.refl _ _) (nr_ _) ?_;intro v140 w33 ho34 hb hg_ hnew_;clear hg_ hnew_;(first|rw[← Ny139.out] at ho34|(simp only[Int.reduceToNat] at ho34;rw[← Ny139.out] at ho34));have HO141:=ak_ (Kd.R_lower (Kd.R_new' (Kd.R_new' (Kd.R_new' (Kd.R_new' (Kd.R_newM (M:=fun k_=>(w.heap.size≤k_)) ho34 (below_size (b_ HB.out)) (fun k_ h_=>h_)) (Kd.R_lt (w_ HO126.out))) (Kd.R_lt (w_ HO132.out))) (Kd.R_lt (w_ HO135.out))) (Kd.R_lt (w_ HO138.out))) (below_size (b_ HB.out)));replace HO0:=ak_ (Kd.V_elder' (v_ HO0.out) (Kd.R_base ho34) hb);replace HO126:=ak_ (Kd.R_elder' (w_ HO126.out) (Kd.R_base ho34) hb);replace HO132:=ak_ (Kd.R_elder' (w_ HO132.out) (Kd.R_base ho34) hb);replace HO135:=ak_ (Kd.R_elder' (w_ HO135.out) (Kd.R_base ho34) hb);replace HO138:=ak_ (Kd.R_elder' (w_ HO138.out) (Kd.R_base ho34) hb);replace HB:=bs_ HB hb;clear hb ho34))
   go_loopg [11] k (fun kq v11 w'=>∃ (x7_1 x10_1:List Int) (x11_1:Int),v11=.int .i64 x11_1∧Aside0 (nat_div.l0 kq y124 x7_1 t136 (t136.length:Int) x10_1 x11_1=some (r1,r2))∧Aside0 (kq≤k)∧Aside0 (Kd.R (Kd.int .i64) 3 w' w.heap.size (fun k_=>(w.heap.size≤k_)∧some k_≠((.slice Ao32 y133.length co32):Value).ownBlock∧some k_≠((.slice Ao31 t136.length co31):Value).ownBlock∧some k_≠(v140:Value).ownBlock) (.slice Ao24 y124.length co24) y124)∧Aside0 (Kd.R (Kd.int .i64) 3 w' w.heap.size (fun k_=>(w.heap.size≤k_)∧some k_≠((.slice Ao24 y124.length co24):Value).ownBlock∧some k_≠((.slice Ao31 t136.length co31):Value).ownBlock∧some k_≠(v140:Value).ownBlock) (.slice Ao32 y133.length co32) x7_1)∧Aside0 (Kd.R (Kd.int .i64) 3 w' w.heap.size (fun k_=>(w.heap.size≤k_)∧some k_≠((.slice Ao24 y124.length co24):Value).ownBlock∧some k_≠((.slice Ao32 y133.length co32):Value).ownBlock∧some k_≠(v140:Value).ownBlock) (.slice Ao31 t136.length co31) t136)∧Aside0 (Kd.R (Kd.int .i64) 3 w' w.heap.size (fun k_=>(w.heap.size≤k_)∧some k_≠((.slice Ao24 y124.length co24):Value).ownBlock∧some k_≠((.slice Ao32 y133.length co32):Value).ownBlock∧some k_≠((.slice Ao31 t136.length co31):Value).ownBlock) v140 x10_1)∧Aside0 (Below w.heap.size w w'))
   case atStart=>exact⟨(y133),(y139),(wrap64 ((ji18)-1)),(by first|rfl|(simp;done)|(simp only[← hji18] <;> (first|rfl|simp))|(simp[*];done)),H',⟨nr_ _⟩,⟨by(with_reducible repeat(first|apply Kd.R_alloc|apply Kd.R_drewN|apply Kd.R_drew));exact Kd.R_mono HO126.out (fun _ hk=>⟨hk.1.1.1.1,⟨hk.1.1.2,⟨hk.1.2,hk.2⟩⟩⟩)⟩,⟨by(with_reducible repeat(first|apply Kd.R_alloc|apply Kd.R_drewN|apply Kd.R_drew));exact Kd.R_mono HO135.out (fun _ hk=>⟨hk.1.1.1,⟨hk.1.1.2.1,⟨hk.1.2,hk.2⟩⟩⟩)⟩,⟨by(with_reducible repeat(first|apply Kd.R_alloc|apply Kd.R_drewN|apply Kd.R_drew));exact Kd.R_mono HO138.out (fun _ hk=>⟨hk.1.1.1.1.1,⟨hk.1.1.1.2,⟨hk.1.2,hk.2⟩⟩⟩)⟩,⟨by(with_reducible repeat(first|apply Kd.R_alloc|apply Kd.R_drewN|apply Kd.R_drew));exact Kd.R_mono HO141.out (fun _ hk=>⟨hk.1.1.1.1.1,⟨hk.1.1.1.2,⟨hk.1.2,hk.2⟩⟩⟩)⟩,⟨b_ HB.out⟩⟩
   case round =>
    clear H';(try clear c1);(try clear c4b0);(try clear c6);(try clear c6b0);(try clear c6b1);(try clear c12b0);(try clear c13b0);(try clear c14);(try clear c14b0);(try clear c14b1);(try clear c19b0);(try clear c19b1);(try clear c20b0);(try clear c20b1);(try clear hx123_0);(try clear p123);(try clear q123);obtain⟨x7_1,x10_1,x11_1,rfl,HA,HK1,HO_6,HO_7,HO_8,HO_10,HB⟩:=hrel;have hl7_1:=(Kd.R_reads' HO_7.out).1;rw[hl7_1] at HO_7;(try simp only[hl7_1]);(try simp only[hl7_1] at HO_6);(try simp only[hl7_1] at HO_8);(try simp only[hl7_1] at HO_10)
    cases gk with
    | zero=>exact absurd HA.out (by simp[nat_div.l0])
    | succ k1 =>
     have H:=HA.out;clear HA;simp only[nat_div.l0] at H;replace H:=bw_ H;rcases H with ⟨c35,H⟩|⟨c35,H⟩
     ·have c35b0:decide (0≤x11_1)=true:=decide_eq_true c35;clear c35;obtain⟨ji36,hji36⟩:∃ j_:Int,(wrap64 (x11_1+(t136.length:Int)))=j_:=⟨_,rfl⟩;(first|rw[hji36] at H|simp only[hji36] at H);have hji36w:(IntKind.i64.wrap (x11_1+(t136.length:Int)))=ji36:=(i64_w _).trans hji36;replace H:=bx_ H;obtain⟨c37,H⟩:=H;have c37b0:=dt_ c37;clear c37;replace H:=bx_ H;obtain⟨c38,H⟩:=H;have c38b0:=dt_ c38;clear c38;obtain⟨ji39,hji39⟩:∃ j_:Int,(wrap64 ((ji36)-1))=j_:=⟨_,rfl⟩;(first|rw[hji39] at H|simp only[hji39] at H);have hji39w:(IntKind.i64.wrap ((ji36)-1))=ji39:=(i64_w _).trans hji39;replace H:=bx_ H;obtain⟨c40,H⟩:=H;have c40b0:=dt_ c40;clear c40;replace H:=bx_ H;obtain⟨c41,H⟩:=H;have c41b0:=dt_ c41;clear c41;obtain⟨ji42,hji42⟩:∃ j_:Int,(wrap64 ((t136.length:Int)-1))=j_:=⟨_,rfl⟩;(first|rw[hji42] at H|simp only[hji42] at H);have hji42w:(IntKind.i64.wrap ((t136.length:Int)-1))=ji42:=(i64_w _).trans hji42;replace H:=bx_ H;obtain⟨c43,H⟩:=H;have c43b0:=dt_ c43;clear c43;replace H:=bx_ H;obtain⟨c44,H⟩:=H;have c44b0:=dt_ c44;clear c44;replace H:=by_ H;obtain⟨c45,H⟩:=H;have c45b0:((rd t136 (ji42)) == 0)=false:=beq_eq_false_iff_ne.mpr c45;have c45b1:((rd t136 (ji42)) != 0)=true:=bne_iff_ne.mpr c45;have H':=ak_ H;clear H
      try go_wp2_with (first|(with_reducible refine Exit.only_intro ?_)|((with_reducible refine wp_scope_redo (rest:=?rest_) 0 ?hf_ ?_);(case hf_=>exact rfl))|(with_reducible apply wp_goto))
      replace HO_6:=ak_ (Kd.R_drew HO_6.out);replace HO_7:=ak_ (Kd.R_drew HO_7.out);replace HO_8:=ak_ (Kd.R_drew HO_8.out);replace HO_10:=ak_ (Kd.R_drew HO_10.out);replace HB:=ak_ (below_drew1 HB.out);have p155:0≤((ji36):Int):=od_ as_f;have q155:(ji36)<(x7_1.length:Int):=od_ as_f;obtain⟨ad155,e155,hx155_0⟩:=Kd.at_int (Kd.R_reads' HO_7.out).2.2 (ji36) p155 q155
      cases e155
      replace p155:=eq_true p155;replace q155:=eq_true q155;have p156:0≤((ji39):Int):=od_ as_f;have q156:(ji39)<(x7_1.length:Int):=od_ as_f;obtain⟨ad156,e156,hx156_0⟩:=Kd.at_int (Kd.R_reads' HO_7.out).2.2 (ji39) p156 q156;obtain rfl:ad155=ad156:=(by injection e156);replace p156:=eq_true p156;replace q156:=eq_true q156;refine start_ (n:=16) (S:=fun w'=>w'.cell? (ad155.add ((ji36)).toNat)=some (.int .i64 (rd x7_1 (ji36)))∧w'.cell? (ad155.add ((ji39)).toNat)=some (.int .i64 (rd x7_1 (ji39)))) (ds:=[]) #[false,false,false,false,false,false,false,false,false,false,false,false,false,false,false,false] (by kernel_rfl) rfl rfl ⟨hx155_0,hx156_0⟩ (fun hHeld=>?_);refine with_tabW nat_div.tab12 nat_div.bits12 (fun HT_ HW_=>?_);generalize wr.drew=w46 at HO_6 HO_7 HO_8 HO_10 HB hx155_0 hx156_0 hHeld ⊢;refine pu_ 0 65 rfl rfl HT_ ?_;refine pu_ 1 66 rfl rfl HT_ ?_;refine pu_ 2 67 rfl rfl HT_ ?_;refine pu_ 3 68 rfl rfl HT_ ?_;refine pu_ 4 69 rfl rfl HT_ ?_;refine pu_ 7 72 rfl rfl HT_ ?_;refine pu_ 8 73 rfl rfl HT_ ?_;refine pu_ 9 74 rfl rfl HT_ ?_;refine pu_ 10 75 rfl rfl HT_ ?_;refine pu_ 11 76 rfl rfl HT_ ?_;refine pu_ 12 77 rfl rfl HT_ ?_;refine t_ 5 70 rfl rfl HT_ HW_ hHeld ?_;refine pu_ 6 71 rfl rfl HT_ ?_;refine t_ 13 78 rfl rfl HT_ HW_ hHeld ?_;refine pu_ 14 79 rfl rfl HT_ ?_;refine pu_ 15 12 rfl rfl HT_ ?_;refine done_ (done_of HT_.out (by kernel_rfl)) ?_
      try go_wp2_with (first|(with_reducible refine Exit.only_intro ?_)|((with_reducible refine wp_scope_redo (rest:=?rest_) 0 ?hf_ ?_);(case hf_=>exact rfl))|(with_reducible apply wp_goto))
      replace HO_6:=ak_ (Kd.R_drew HO_6.out);replace HO_7:=ak_ (Kd.R_drew HO_7.out);replace HO_8:=ak_ (Kd.R_drew HO_8.out);replace HO_10:=ak_ (Kd.R_drew HO_10.out);replace HB:=ak_ (below_drew1 HB.out);have p157:0≤((ji42):Int):=od_ as_f;have q157:(ji42)<(t136.length:Int):=od_ as_f;obtain⟨ad157,e157,hx157_0⟩:=Kd.at_int (Kd.R_reads' HO_8.out).2.2 (ji42) p157 q157
      cases e157
      replace p157:=eq_true p157;replace q157:=eq_true q157;have p158:0≤((ji42):Int):=od_ as_f;have q158:(ji42)<(t136.length:Int):=od_ as_f;obtain⟨ad158,e158,hx158_0⟩:=Kd.at_int (Kd.R_reads' HO_8.out).2.2 (ji42) p158 q158;obtain rfl:ad157=ad158:=(by injection e158);replace p158:=eq_true p158;replace q158:=eq_true q158;refine start_ (n:=16) (S:=fun w'=>w'.cell? (ad157.add ((ji42)).toNat)=some (.int .i64 (rd t136 (ji42)))∧w'.cell? (ad157.add ((ji42)).toNat)=some (.int .i64 (rd t136 (ji42)))) (ds:=[]) #[false,false,false,false,false,false,false,false,false,false,false,false,false,false,false,false] (by kernel_rfl) rfl rfl ⟨hx157_0,hx158_0⟩ (fun hHeld=>?_);refine with_tabW nat_div.tab13 nat_div.bits13 (fun HT_ HW_=>?_);generalize w46.drew=w47 at HO_6 HO_7 HO_8 HO_10 HB hx157_0 hx158_0 hHeld ⊢;refine pu_ 0 80 rfl rfl HT_ ?_;refine pu_ 1 81 rfl rfl HT_ ?_;refine pu_ 2 82 rfl rfl HT_ ?_;refine pu_ 3 83 rfl rfl HT_ ?_;refine pu_ 4 84 rfl rfl HT_ ?_;refine pu_ 7 87 rfl rfl HT_ ?_;refine pu_ 8 88 rfl rfl HT_ ?_;refine pu_ 9 89 rfl rfl HT_ ?_;refine pu_ 10 90 rfl rfl HT_ ?_;refine pu_ 11 91 rfl rfl HT_ ?_;refine t_ 5 85 rfl rfl HT_ HW_ hHeld ?_;refine pu_ 6 86 rfl rfl HT_ ?_;refine pu_ 14 13 rfl rfl HT_ ?_;refine t_ 12 92 rfl rfl HT_ HW_ hHeld ?_;refine pu_ 13 93 rfl rfl HT_ ?_;refine pu_ 15 14 rfl rfl HT_ ?_;refine done_ (done_of HT_.out (by kernel_rfl)) ?_
      try go_wp2_with (first|(with_reducible refine Exit.only_intro ?_)|((with_reducible refine wp_scope_redo (rest:=?rest_) 0 ?hf_ ?_);(case hf_=>exact rfl))|(with_reducible apply wp_goto))
      (refine wp_label ?_;simp only[Exit.then];go_step)
      refine wp_label_ghost_k (fun (kq:Nat) (a':Act) (w':World)=>∃ u13 u14 u94 u95 u96 u97 u98 u99 u100 u101 u102 u103 u104 u105 u106 u107 u108 u109 u110 u111 u112 u113 u114 u115 u116 u117 u118 u119 u120 u121 u122 u123 u124 u125 u126 u127 u128 u129 u130 u131 u132 u133 u134 u135 u136 u137 u138 u139 u140 u141 u142:Value,(∃ (x7_2 x10_2:List Int) (x13_2 x14_2:Int),u13=.int .i64 x13_2∧u14=.int .i64 x14_2∧Aside0 (nat_div.l1 kq y124 x7_2 t136 (t136.length:Int) x10_2 x11_1 x13_2 x14_2=some (r1,r2))∧Aside0 (kq≤k1)∧Aside0 (Kd.R (Kd.int .i64) 3 w' w.heap.size (fun k_=>(w.heap.size≤k_)∧some k_≠((.slice (some ad155) x7_1.length co32):Value).ownBlock∧some k_≠((.slice (some ad157) t136.length co31):Value).ownBlock∧some k_≠(v140:Value).ownBlock) (.slice Ao24 y124.length co24) y124)∧Aside0 (Kd.R (Kd.int .i64) 3 w' w.heap.size (fun k_=>(w.heap.size≤k_)∧some k_≠((.slice Ao24 y124.length co24):Value).ownBlock∧some k_≠((.slice (some ad157) t136.length co31):Value).ownBlock∧some k_≠(v140:Value).ownBlock) (.slice (some ad155) x7_1.length co32) x7_2)∧Aside0 (Kd.R (Kd.int .i64) 3 w' w.heap.size (fun k_=>(w.heap.size≤k_)∧some k_≠((.slice Ao24 y124.length co24):Value).ownBlock∧some k_≠((.slice (some ad155) x7_1.length co32):Value).ownBlock∧some k_≠(v140:Value).ownBlock) (.slice (some ad157) t136.length co31) t136)∧Aside0 (Kd.R (Kd.int .i64) 3 w' w.heap.size (fun k_=>(w.heap.size≤k_)∧some k_≠((.slice Ao24 y124.length co24):Value).ownBlock∧some k_≠((.slice (some ad155) x7_1.length co32):Value).ownBlock∧some k_≠((.slice (some ad157) t136.length co31):Value).ownBlock) v140 x10_2)∧Aside0 (Below w.heap.size w w'))∧a'=⟨#[Value.slice A0 l0.length c0,Value.slice (some ad123) l1.length c1,undef,undef,Value.slice none 0 0,Value.slice none 0 0,Value.slice Ao24 y124.length co24,Value.slice (some ad155) x7_1.length co32,Value.slice (some ad157) t136.length co31,Value.int IntKind.i64 ↑t136.length,v140,Value.int IntKind.i64 x11_1,Value.int IntKind.i64 (wrap64 (wrap64 (rd x7_1 ji36 * 10000)+rd x7_1 ji39)),u13,u14,undef,undef,Value.slice A0 l0.length c0,Value.slice (some ad123) l1.length c1,Value.int IntKind.i64 t115,Value.bool false,undef,Value.slice (some ad123) l1.length c1,Value.int IntKind.i64 ↑l1.length,Value.bool false,undef,undef,undef,undef,undef,undef,undef,Value.slice (some ad123) l1.length c1,Value.slice (some ad123) l1.length c1,Value.int IntKind.i64 ↑l1.length,Value.int IntKind.i64 ji11,Value.pointer (some (ad123.add ji11.toNat)),Value.int IntKind.i64 (rd l1 ji11),Value.int IntKind.i64 (wrap64 (rd l1 ji11+1)),Value.int IntKind.i64 (wrap64 (Int.tdiv 10000 (wrap64 (rd l1 ji11+1)))),Value.slice Ao24 y124.length co24,Value.slice A0 l0.length c0,Value.slice Ao24 y124.length co24,v128,Value.slice Ao29 y130.length co29,Value.slice (some ad155) x7_1.length co32,Value.slice (some ad123) l1.length c1,Value.slice Ao24 y124.length co24,Value.slice (some ad157) t136.length co31,Value.slice (some ad157) t136.length co31,Value.int IntKind.i64 ↑t136.length,Value.slice (some ad155) x7_1.length co32,Value.int IntKind.i64 ↑x7_1.length,Value.int IntKind.i64 ↑t136.length,Value.int IntKind.i64 ji18,v140,Value.slice (some ad155) x7_1.length co32,Value.int IntKind.i64 ↑x7_1.length,Value.int IntKind.i64 ↑t136.length,Value.int IntKind.i64 ji18,Value.int IntKind.i64 (wrap64 (ji18-1)),Value.int IntKind.i64 x11_1,Value.bool true,u63,u64,Value.slice (some ad155) x7_1.length co32,Value.int IntKind.i64 x11_1,Value.int IntKind.i64 ↑t136.length,Value.int IntKind.i64 ji36,Value.pointer (some (ad155.add ji36.toNat)),Value.int IntKind.i64 (rd x7_1 ji36),Value.int IntKind.i64 (wrap64 (rd x7_1 ji36 * 10000)),Value.slice (some ad155) x7_1.length co32,Value.int IntKind.i64 x11_1,Value.int IntKind.i64 ↑t136.length,Value.int IntKind.i64 ji36,Value.int IntKind.i64 ji39,Value.pointer (some (ad155.add ji39.toNat)),Value.int IntKind.i64 (rd x7_1 ji39),Value.int IntKind.i64 (wrap64 (wrap64 (rd x7_1 ji36 * 10000)+rd x7_1 ji39)),Value.int IntKind.i64 (wrap64 (wrap64 (rd x7_1 ji36 * 10000)+rd x7_1 ji39)),Value.slice (some ad157) t136.length co31,Value.int IntKind.i64 ↑t136.length,Value.int IntKind.i64 ji42,Value.pointer (some (ad157.add ji42.toNat)),Value.int IntKind.i64 (rd t136 ji42),Value.int IntKind.i64 (wrap64 ((wrap64 (wrap64 (rd x7_1 ji36 * 10000)+rd x7_1 ji39)).tdiv (rd t136 ji42))),Value.int IntKind.i64 (wrap64 (wrap64 (rd x7_1 ji36 * 10000)+rd x7_1 ji39)),Value.slice (some ad157) t136.length co31,Value.int IntKind.i64 ↑t136.length,Value.int IntKind.i64 ji42,Value.pointer (some (ad157.add ji42.toNat)),Value.int IntKind.i64 (rd t136 ji42),Value.int IntKind.i64 ((wrap64 (wrap64 (rd x7_1 ji36 * 10000)+rd x7_1 ji39)).tmod (rd t136 ji42)),u94,u95,u96,u97,u98,u99,u100,u101,u102,u103,u104,u105,u106,u107,u108,u109,u110,u111,u112,u113,u114,u115,u116,u117,u118,u119,u120,u121,u122,u123,u124,u125,u126,u127,u128,u129,u130,u131,u132,u133,u134,u135,u136,u137,u138,u139,u140,u141,u142,undef,undef,undef,undef,undef,undef,undef,undef,undef,undef,undef,undef],[]⟩) k1 ?atStart ?round
      case atStart =>
       (repeat apply Exists.intro)
       refine⟨?_,rfl⟩;exact⟨(x7_1),(x10_1),(wrap64 (Int.tdiv (wrap64 ((wrap64 ((rd x7_1 (ji36)) * 10000))+(rd x7_1 (ji39)))) (rd t136 (ji42)))),(Int.tmod (wrap64 ((wrap64 ((rd x7_1 (ji36)) * 10000))+(rd x7_1 (ji39)))) (rd t136 (ji42))),(by first|rfl|(simp;done)|(simp only[← hji36,← hji39,← hji42] <;> (first|rfl|simp))|(simp[*];done)),(by first|rfl|(simp;done)|(simp only[← hji36,← hji39,← hji42] <;> (first|rfl|simp))|(simp[*];done)),H',⟨nr_ _⟩,⟨by(try simp only[hl7_1]);(with_reducible repeat(first|apply Kd.R_alloc|apply Kd.R_drewN|apply Kd.R_drew));exact HO_6.out⟩,⟨by(try simp only[hl7_1]);(with_reducible repeat(first|apply Kd.R_alloc|apply Kd.R_drewN|apply Kd.R_drew));exact HO_7.out⟩,⟨by(try simp only[hl7_1]);(with_reducible repeat(first|apply Kd.R_alloc|apply Kd.R_drewN|apply Kd.R_drew));exact HO_8.out⟩,⟨by(try simp only[hl7_1]);(with_reducible repeat(first|apply Kd.R_alloc|apply Kd.R_drewN|apply Kd.R_drew));exact HO_10.out⟩,⟨b_ HB.out⟩⟩
      case round =>
       intro gk _ wr hinv;obtain⟨u13,u14,u94,u95,u96,u97,u98,u99,u100,u101,u102,u103,u104,u105,u106,u107,u108,u109,u110,u111,u112,u113,u114,u115,u116,u117,u118,u119,u120,u121,u122,u123,u124,u125,u126,u127,u128,u129,u130,u131,u132,u133,u134,u135,u136,u137,u138,u139,u140,u141,u142,hrel,ha⟩:=hinv;subst ha
       try dsimp only
       intro _ _ _ _ _ _;clear H';(try clear c1);(try clear c4b0);(try clear c6);(try clear c6b0);(try clear c6b1);(try clear c12b0);(try clear c13b0);(try clear c14);(try clear c14b0);(try clear c14b1);(try clear c19b0);(try clear c19b1);(try clear c20b0);(try clear c20b1);(try clear c35b0);(try clear c37b0);(try clear c38b0);(try clear c40b0);(try clear c41b0);(try clear c43b0);(try clear c44b0);(try clear c45);(try clear c45b0);(try clear c45b1);(try clear hx123_0);(try clear hx155_0);(try clear hx156_0);(try clear hx157_0);(try clear hx158_0);(try clear p123);(try clear p155);(try clear p156);(try clear p157);(try clear p158);(try clear q123);(try clear q155);(try clear q156);(try clear q157);(try clear q158);obtain⟨x7_2,x10_2,x13_2,x14_2,rfl,rfl,HA,HK2,HO_6,HO_7,HO_8,HO_10,HB⟩:=hrel;have hl7_2:=(Kd.R_reads' HO_7.out).1;rw[hl7_2] at HO_7;(try simp only[hl7_2]);(try simp only[hl7_2] at HO_6);(try simp only[hl7_2] at HO_8);(try simp only[hl7_2] at HO_10)
       cases gk with
       | zero=>exact absurd HA.out (by simp[nat_div.l1])
       | succ k2 =>
        have H:=HA.out;clear HA;simp only[nat_div.l1] at H;have HC48:=ak_ H;clear H
        go_upto_region 14 with (fail)
        go_cut [115] from 94 to 126 (fun v115 wc=>∃ (kq:Nat) (x115_47:Bool),v115=.bool x115_47∧Aside0 (nat_div.j2 kq y124 x7_2 t136 (t136.length:Int) x10_2 x11_1 x13_2 x14_2 x115_47=some (r1,r2))∧Aside0 (kq≤k2)∧Aside0 (Kd.R (Kd.int .i64) 3 wc w.heap.size (fun k_=>(w.heap.size≤k_)∧some k_≠((.slice (some ad155) x7_2.length co32):Value).ownBlock∧some k_≠((.slice (some ad157) t136.length co31):Value).ownBlock∧some k_≠(v140:Value).ownBlock) (.slice Ao24 y124.length co24) y124)∧Aside0 (Kd.R (Kd.int .i64) 3 wc w.heap.size (fun k_=>(w.heap.size≤k_)∧some k_≠((.slice Ao24 y124.length co24):Value).ownBlock∧some k_≠((.slice (some ad157) t136.length co31):Value).ownBlock∧some k_≠(v140:Value).ownBlock) (.slice (some ad155) x7_2.length co32) x7_2)∧Aside0 (Kd.R (Kd.int .i64) 3 wc w.heap.size (fun k_=>(w.heap.size≤k_)∧some k_≠((.slice Ao24 y124.length co24):Value).ownBlock∧some k_≠((.slice (some ad155) x7_2.length co32):Value).ownBlock∧some k_≠(v140:Value).ownBlock) (.slice (some ad157) t136.length co31) t136)∧Aside0 (Kd.R (Kd.int .i64) 3 wc w.heap.size (fun k_=>(w.heap.size≤k_)∧some k_≠((.slice Ao24 y124.length co24):Value).ownBlock∧some k_≠((.slice (some ad155) x7_2.length co32):Value).ownBlock∧some k_≠((.slice (some ad157) t136.length co31):Value).ownBlock) v140 x10_2)∧Aside0 (Below w.heap.size w wc))
        case first =>
         have H:=HC48.out;clear HC48;replace H:=bw_ H;rcases H with ⟨c49,H⟩|⟨c49,H⟩
         ·have c49b0:decide (10000≤x13_2)=true:=decide_eq_true c49;clear c49;(first|rw[c49b0]|(simp only[i64_w,i32_w];rw[c49b0])|skip);have H':=ak_ H;clear H
          try go_wp2_with (first|(with_reducible refine Exit.only_intro ?_)|((with_reducible refine wp_scope_redo (rest:=?rest_) 0 ?hf_ ?_);(case hf_=>exact rfl))|(with_reducible apply wp_goto))
          replace HO_6:=ak_ (Kd.R_drew HO_6.out);replace HO_7:=ak_ (Kd.R_drew HO_7.out);replace HO_8:=ak_ (Kd.R_drew HO_8.out);replace HO_10:=ak_ (Kd.R_drew HO_10.out);replace HB:=ak_ (below_drew1 HB.out);refine start_ (n:=22) (S:=fun w'=>True) (ds:=[]) #[false,false,false,false,false,false,false,false,false,false,false,false,false,false,false,false,false,false,false,false,false,false] (by kernel_rfl) rfl rfl trivial (fun hHeld=>?_);refine with_tabW nat_div.tab14 nat_div.bits14 (fun HT_ HW_=>?_);generalize wr.drew=w50 at HO_6 HO_7 HO_8 HO_10 HB hHeld ⊢;refine pu_ 0 94 rfl rfl HT_ ?_;refine pu_ 1 95 rfl rfl HT_ ?_;refine pu_ 2 96 rfl rfl HT_ ?_;refine pv_ 3 97 rfl rfl HT_ ?_;refine pv_ 4 98 rfl rfl HT_ ?_;refine pv_ 5 99 rfl rfl HT_ ?_;refine pv_ 6 100 rfl rfl HT_ ?_;refine pv_ 7 101 rfl rfl HT_ ?_;refine pv_ 8 102 rfl rfl HT_ ?_;refine pv_ 9 103 rfl rfl HT_ ?_;refine pv_ 10 104 rfl rfl HT_ ?_;refine pv_ 11 105 rfl rfl HT_ ?_;refine pv_ 12 106 rfl rfl HT_ ?_;refine pv_ 13 107 rfl rfl HT_ ?_;refine pv_ 14 108 rfl rfl HT_ ?_;refine pv_ 15 109 rfl rfl HT_ ?_;refine pv_ 16 110 rfl rfl HT_ ?_;refine pv_ 17 111 rfl rfl HT_ ?_;refine pv_ 18 112 rfl rfl HT_ ?_;refine pv_ 19 113 rfl rfl HT_ ?_;refine pv_ 20 114 rfl rfl HT_ ?_;refine pu_ 21 115 rfl rfl HT_ ?_;refine done_ (done_of HT_.out (by kernel_rfl)) ?_
          try go_wp2_with (first|(with_reducible refine Exit.only_intro ?_)|((with_reducible refine wp_scope_redo (rest:=?rest_) 0 ?hf_ ?_);(case hf_=>exact rfl))|(with_reducible apply wp_goto))
          go_meet
          case rel=>exact⟨_,(true),rl_,H',⟨by have:=HK1.out;have:=HK2.out;first|omega|exact nr_ _⟩,⟨by(try simp only[hl7_1]);(try simp only[hl7_2]);(with_reducible repeat(first|apply Kd.R_alloc|apply Kd.R_drewN|apply Kd.R_drew));exact HO_6.out⟩,⟨by(try simp only[hl7_1]);(try simp only[hl7_2]);(with_reducible repeat(first|apply Kd.R_alloc|apply Kd.R_drewN|apply Kd.R_drew));exact HO_7.out⟩,⟨by(try simp only[hl7_1]);(try simp only[hl7_2]);(with_reducible repeat(first|apply Kd.R_alloc|apply Kd.R_drewN|apply Kd.R_drew));exact HO_8.out⟩,⟨by(try simp only[hl7_1]);(try simp only[hl7_2]);(with_reducible repeat(first|apply Kd.R_alloc|apply Kd.R_drewN|apply Kd.R_drew));exact HO_10.out⟩,⟨b_ HB.out⟩⟩
         ·have c49b0:decide (10000≤x13_2)=false:=decide_eq_false c49;clear c49;(first|rw[c49b0]|(simp only[i64_w,i32_w];rw[c49b0])|skip);obtain⟨ji51,hji51⟩:∃ j_:Int,(wrap64 ((t136.length:Int)-2))=j_:=⟨_,rfl⟩;(first|rw[hji51] at H|simp only[hji51] at H);have hji51w:(IntKind.i64.wrap ((t136.length:Int)-2))=ji51:=(i64_w _).trans hji51;replace H:=bx_ H;obtain⟨c52,H⟩:=H;have c52b0:=dt_ c52;clear c52;replace H:=bx_ H;obtain⟨c53,H⟩:=H;have c53b0:=dt_ c53;clear c53;obtain⟨ji54,hji54⟩:∃ j_:Int,(wrap64 ((wrap64 (x11_1+(t136.length:Int)))-2))=j_:=⟨_,rfl⟩;(first|rw[hji54] at H|simp only[hji54] at H);have hji54w:(IntKind.i64.wrap ((wrap64 (x11_1+(t136.length:Int)))-2))=ji54:=(i64_w _).trans hji54;(try have hji54ji36:(IntKind.i64.wrap ((ji36)-2))=ji54:=by rw[← hji36];exact hji54w);(try have hji54ji36_:(wrap64 ((ji36)-2))=ji54:=by rw[← hji36];exact hji54);replace H:=bx_ H;obtain⟨c55,H⟩:=H;have c55b0:=dt_ c55;clear c55;replace H:=bx_ H;obtain⟨c56,H⟩:=H;have c56b0:=dt_ c56;clear c56;have H':=ak_ H;clear H
          try go_wp2_with (first|(with_reducible refine Exit.only_intro ?_)|((with_reducible refine wp_scope_redo (rest:=?rest_) 0 ?hf_ ?_);(case hf_=>exact rfl))|(with_reducible apply wp_goto))
          replace HO_6:=ak_ (Kd.R_drew HO_6.out);replace HO_7:=ak_ (Kd.R_drew HO_7.out);replace HO_8:=ak_ (Kd.R_drew HO_8.out);replace HO_10:=ak_ (Kd.R_drew HO_10.out);replace HB:=ak_ (below_drew1 HB.out);have p159:0≤((ji51):Int):=od_ as_f;have q159:(ji51)<(t136.length:Int):=od_ as_f;obtain⟨ad159,e159,hx159_0⟩:=Kd.at_int (Kd.R_reads' HO_8.out).2.2 (ji51) p159 q159;obtain rfl:ad157=ad159:=(by injection e159);replace p159:=eq_true p159;replace q159:=eq_true q159;have p160:0≤((ji54):Int):=od_ as_f;have q160:(ji54)<(x7_2.length:Int):=od_ as_f;obtain⟨ad160,e160,hx160_0⟩:=Kd.at_int (Kd.R_reads' HO_7.out).2.2 (ji54) p160 q160;obtain rfl:ad155=ad160:=(by injection e160);replace p160:=eq_true p160;replace q160:=eq_true q160;refine start_ (n:=22) (S:=fun w'=>w'.cell? (ad157.add ((ji51)).toNat)=some (.int .i64 (rd t136 (ji51)))∧w'.cell? (ad155.add ((ji54)).toNat)=some (.int .i64 (rd x7_2 (ji54)))) (ds:=[]) #[false,false,false,false,false,false,false,false,false,false,false,false,false,false,false,false,false,false,false,false,false,false] (by kernel_rfl) rfl rfl ⟨hx159_0,hx160_0⟩ (fun hHeld=>?_);refine with_tabW nat_div.tab14 nat_div.bits14 (fun HT_ HW_=>?_);generalize wr.drew=w57 at HO_6 HO_7 HO_8 HO_10 HB hx159_0 hx160_0 hHeld ⊢;refine pu_ 0 94 rfl rfl HT_ ?_;refine pu_ 1 95 rfl rfl HT_ ?_;refine pu_ 2 96 rfl rfl HT_ ?_;refine pu_ 3 97 rfl rfl HT_ ?_;refine pu_ 4 98 rfl rfl HT_ ?_;refine pu_ 5 99 rfl rfl HT_ ?_;refine pu_ 6 100 rfl rfl HT_ ?_;refine pu_ 7 101 rfl rfl HT_ ?_;refine pu_ 10 104 rfl rfl HT_ ?_;refine pu_ 11 105 rfl rfl HT_ ?_;refine pu_ 12 106 rfl rfl HT_ ?_;refine pu_ 13 107 rfl rfl HT_ ?_;refine pu_ 14 108 rfl rfl HT_ ?_;refine pu_ 15 109 rfl rfl HT_ ?_;refine pu_ 16 110 rfl rfl HT_ ?_;refine pu_ 17 111 rfl rfl HT_ ?_;refine t_ 8 102 rfl rfl HT_ HW_ hHeld ?_;refine pu_ 9 103 rfl rfl HT_ ?_;refine t_ 18 112 rfl rfl HT_ HW_ hHeld ?_;refine pu_ 19 113 rfl rfl HT_ ?_;refine pu_ 20 114 rfl rfl HT_ ?_;refine pu_ 21 115 rfl rfl HT_ ?_;refine done_ (done_of HT_.out (by kernel_rfl)) ?_
          try go_wp2_with (first|(with_reducible refine Exit.only_intro ?_)|((with_reducible refine wp_scope_redo (rest:=?rest_) 0 ?hf_ ?_);(case hf_=>exact rfl))|(with_reducible apply wp_goto))
          go_meet
          case rel=>exact⟨_,(decide ((wrap64 (x13_2 * (rd t136 (ji51))))>(wrap64 ((wrap64 (x14_2 * 10000))+(rd x7_2 (ji54)))))),(by first|rfl|(simp;done)|(simp only[← hji51,← hji54] <;> (first|rfl|simp))|(simp[*];done)),H',⟨by have:=HK1.out;have:=HK2.out;first|omega|exact nr_ _⟩,⟨by(try simp only[hl7_1]);(try simp only[hl7_2]);(with_reducible repeat(first|apply Kd.R_alloc|apply Kd.R_drewN|apply Kd.R_drew));exact HO_6.out⟩,⟨by(try simp only[hl7_1]);(try simp only[hl7_2]);(with_reducible repeat(first|apply Kd.R_alloc|apply Kd.R_drewN|apply Kd.R_drew));exact HO_7.out⟩,⟨by(try simp only[hl7_1]);(try simp only[hl7_2]);(with_reducible repeat(first|apply Kd.R_alloc|apply Kd.R_drewN|apply Kd.R_drew));exact HO_8.out⟩,⟨by(try simp only[hl7_1]);(try simp only[hl7_2]);(with_reducible repeat(first|apply Kd.R_alloc|apply Kd.R_drewN|apply Kd.R_drew));exact HO_10.out⟩,⟨b_ HB.out⟩⟩
        case rest =>
         clear HC48;(try clear c1);(try clear c4b0);(try clear c6);(try clear c6b0);(try clear c6b1);(try clear c12b0);(try clear c13b0);(try clear c14);(try clear c14b0);(try clear c14b1);(try clear c19b0);(try clear c19b1);(try clear c20b0);(try clear c20b1);(try clear c35b0);(try clear c37b0);(try clear c38b0);(try clear c40b0);(try clear c41b0);(try clear c43b0);(try clear c44b0);(try clear c45);(try clear c45b0);(try clear c45b1);(try clear hx123_0);(try clear hx155_0);(try clear hx156_0);(try clear hx157_0);(try clear hx158_0);(try clear p123);(try clear p155);(try clear p156);(try clear p157);(try clear p158);(try clear q123);(try clear q155);(try clear q156);(try clear q157);(try clear q158);obtain⟨kq,x115_47,rfl,HA,HJ47,HO_6,HO_7,HO_8,HO_10,HB⟩:=hcut
         cases kq with
         | zero=>exact absurd HA.out (by simp[nat_div.j2])
         | succ kj47 =>
          have H:=HA.out;clear HA;simp only[nat_div.j2] at H;have HC58:=ak_ H;clear H
          go_upto_if 115 with (fail)
          go_cut [13] from 94 to 126 (fun v13 wc=>∃ (kq:Nat) (x13_57:Int),v13=.int .i64 x13_57∧Aside0 (nat_div.j3 kq y124 x7_2 t136 (t136.length:Int) x10_2 x11_1 x13_57=some (r1,r2))∧Aside0 (kq≤kj47)∧Aside0 (Kd.R (Kd.int .i64) 3 wc w.heap.size (fun k_=>(w.heap.size≤k_)∧some k_≠((.slice (some ad155) x7_2.length co32):Value).ownBlock∧some k_≠((.slice (some ad157) t136.length co31):Value).ownBlock∧some k_≠(v140:Value).ownBlock) (.slice Ao24 y124.length co24) y124)∧Aside0 (Kd.R (Kd.int .i64) 3 wc w.heap.size (fun k_=>(w.heap.size≤k_)∧some k_≠((.slice Ao24 y124.length co24):Value).ownBlock∧some k_≠((.slice (some ad157) t136.length co31):Value).ownBlock∧some k_≠(v140:Value).ownBlock) (.slice (some ad155) x7_2.length co32) x7_2)∧Aside0 (Kd.R (Kd.int .i64) 3 wc w.heap.size (fun k_=>(w.heap.size≤k_)∧some k_≠((.slice Ao24 y124.length co24):Value).ownBlock∧some k_≠((.slice (some ad155) x7_2.length co32):Value).ownBlock∧some k_≠(v140:Value).ownBlock) (.slice (some ad157) t136.length co31) t136)∧Aside0 (Kd.R (Kd.int .i64) 3 wc w.heap.size (fun k_=>(w.heap.size≤k_)∧some k_≠((.slice Ao24 y124.length co24):Value).ownBlock∧some k_≠((.slice (some ad155) x7_2.length co32):Value).ownBlock∧some k_≠((.slice (some ad157) t136.length co31):Value).ownBlock) v140 x10_2)∧Aside0 (Below w.heap.size w wc))
          case first =>
           have H:=HC58.out;clear HC58;replace H:=bt_ H;rcases H with ⟨rfl,H⟩|⟨rfl,H⟩
           ·obtain⟨ji60,hji60⟩:∃ j_:Int,(wrap64 ((t136.length:Int)-1))=j_:=⟨_,rfl⟩;(first|rw[hji60] at H|simp only[hji60] at H);have hji60w:(IntKind.i64.wrap ((t136.length:Int)-1))=ji60:=(i64_w _).trans hji60;(try have hji60ji42:ji42=ji60:=hji42.symm.trans hji60);replace H:=bx_ H;obtain⟨c61,H⟩:=H;have c61b0:=dt_ c61;clear c61;(first|rw[c61b0]|(simp only[i64_w,i32_w];rw[c61b0])|skip);replace H:=bx_ H;obtain⟨c62,H⟩:=H;have c62b0:=dt_ c62;clear c62;replace H:=bw_ H;rcases H with ⟨c63,H⟩|⟨c63,H⟩
            ·have c63b0:=dt_ c63
             have c63b0w:decide ((IntKind.i64.wrap (x14_2+(rd t136 (ji60))))<10000)=true:=by simp only[i64_w];exact c63b0
             clear c63;have H':=ak_ H;clear H;have p161:0≤((ji60):Int):=od_ as_f;have q161:(ji60)<(t136.length:Int):=od_ as_f;obtain⟨ad161,e161,hx161_0⟩:=Kd.at_int (Kd.R_reads' HO_8.out).2.2 (ji60) p161 q161;obtain rfl:ad157=ad161:=(by injection e161);replace p161:=eq_true p161;replace q161:=eq_true q161
             go_wp2_with (first|(with_reducible refine Exit.only_intro ?_)|((with_reducible refine wp_scope_redo (rest:=?rest_) 0 ?hf_ ?_);(case hf_=>exact rfl))|(with_reducible apply wp_goto))
             (try simp only[← hl7_2]);(try simp only[← hji60ji42])
             go_roundg kj47
             case measure=>have:=HK1.out;have:=HK2.out;have:=HJ47.out;omega
             case rel=>exact⟨(x7_2),(x10_2),(wrap64 (x13_2-1)),(wrap64 (x14_2+(rd t136 (ji60)))),(by first|rfl|(simp only[hji60ji42];done)|(simp;done)|(simp[*];done)),(by first|rfl|(simp only[hji60ji42];done)|(simp;done)|(simp only[← hji60] <;> (first|rfl|simp))|(simp[*];done)),H',⟨by have:=HK1.out;have:=HK2.out;have:=HJ47.out;omega⟩,⟨by(try simp only[hl7_1]);(try simp only[hl7_2]);(with_reducible repeat(first|apply Kd.R_alloc|apply Kd.R_drewN|apply Kd.R_drew));exact HO_6.out⟩,⟨by(try simp only[hl7_1]);(try simp only[hl7_2]);(with_reducible repeat(first|apply Kd.R_alloc|apply Kd.R_drewN|apply Kd.R_drew));exact HO_7.out⟩,⟨by(try simp only[hl7_1]);(try simp only[hl7_2]);(with_reducible repeat(first|apply Kd.R_alloc|apply Kd.R_drewN|apply Kd.R_drew));exact HO_8.out⟩,⟨by(try simp only[hl7_1]);(try simp only[hl7_2]);(with_reducible repeat(first|apply Kd.R_alloc|apply Kd.R_drewN|apply Kd.R_drew));exact HO_10.out⟩,⟨b_ HB.out⟩⟩
            ·have c63b0:=df_ c63
             have c63b0w:decide ((IntKind.i64.wrap (x14_2+(rd t136 (ji60))))<10000)=false:=by simp only[i64_w];exact c63b0
             clear c63;have H':=ak_ H;clear H;have p161:0≤((ji60):Int):=od_ as_f;have q161:(ji60)<(t136.length:Int):=od_ as_f;obtain⟨ad161,e161,hx161_0⟩:=Kd.at_int (Kd.R_reads' HO_8.out).2.2 (ji60) p161 q161;obtain rfl:ad157=ad161:=(by injection e161);replace p161:=eq_true p161;replace q161:=eq_true q161
             go_wp2_with (first|(with_reducible refine Exit.only_intro ?_)|((with_reducible refine wp_scope_redo (rest:=?rest_) 0 ?hf_ ?_);(case hf_=>exact rfl))|(with_reducible apply wp_goto))
             (try simp only[← hji60ji42])
             go_meet
             case rel=>exact⟨_,(wrap64 (x13_2-1)),(by first|rfl|(simp only[hji60ji42];done)|(simp;done)|(simp[*];done)),H',⟨by have:=HK1.out;have:=HK2.out;have:=HJ47.out;first|omega|exact nr_ _⟩,⟨by(try simp only[hl7_1]);(try simp only[hl7_2]);(with_reducible repeat(first|apply Kd.R_alloc|apply Kd.R_drewN|apply Kd.R_drew));exact HO_6.out⟩,⟨by(try simp only[hl7_1]);(try simp only[hl7_2]);(with_reducible repeat(first|apply Kd.R_alloc|apply Kd.R_drewN|apply Kd.R_drew));exact HO_7.out⟩,⟨by(try simp only[hl7_1]);(try simp only[hl7_2]);(with_reducible repeat(first|apply Kd.R_alloc|apply Kd.R_drewN|apply Kd.R_drew));exact HO_8.out⟩,⟨by(try simp only[hl7_1]);(try simp only[hl7_2]);(with_reducible repeat(first|apply Kd.R_alloc|apply Kd.R_drewN|apply Kd.R_drew));exact HO_10.out⟩,⟨b_ HB.out⟩⟩
           ·have H':=ak_ H;clear H
            go_wp2_with (first|(with_reducible refine Exit.only_intro ?_)|((with_reducible refine wp_scope_redo (rest:=?rest_) 0 ?hf_ ?_);(case hf_=>exact rfl))|(with_reducible apply wp_goto))
            go_meet
            case rel=>exact⟨_,(x13_2),rl_,H',⟨by have:=HK1.out;have:=HK2.out;have:=HJ47.out;first|omega|exact nr_ _⟩,⟨by(try simp only[hl7_1]);(try simp only[hl7_2]);(with_reducible repeat(first|apply Kd.R_alloc|apply Kd.R_drewN|apply Kd.R_drew));exact HO_6.out⟩,⟨by(try simp only[hl7_1]);(try simp only[hl7_2]);(with_reducible repeat(first|apply Kd.R_alloc|apply Kd.R_drewN|apply Kd.R_drew));exact HO_7.out⟩,⟨by(try simp only[hl7_1]);(try simp only[hl7_2]);(with_reducible repeat(first|apply Kd.R_alloc|apply Kd.R_drewN|apply Kd.R_drew));exact HO_8.out⟩,⟨by(try simp only[hl7_1]);(try simp only[hl7_2]);(with_reducible repeat(first|apply Kd.R_alloc|apply Kd.R_drewN|apply Kd.R_drew));exact HO_10.out⟩,⟨b_ HB.out⟩⟩
          case rest =>
           clear HC58;(try clear c1);(try clear c4b0);(try clear c6);(try clear c6b0);(try clear c6b1);(try clear c12b0);(try clear c13b0);(try clear c14);(try clear c14b0);(try clear c14b1);(try clear c19b0);(try clear c19b1);(try clear c20b0);(try clear c20b1);(try clear c35b0);(try clear c37b0);(try clear c38b0);(try clear c40b0);(try clear c41b0);(try clear c43b0);(try clear c44b0);(try clear c45);(try clear c45b0);(try clear c45b1);(try clear hx123_0);(try clear hx155_0);(try clear hx156_0);(try clear hx157_0);(try clear hx158_0);(try clear p123);(try clear p155);(try clear p156);(try clear p157);(try clear p158);(try clear q123);(try clear q155);(try clear q156);(try clear q157);(try clear q158);obtain⟨kq,x13_57,rfl,HA,HJ57,HO_6,HO_7,HO_8,HO_10,HB⟩:=hcut
           cases kq with
           | zero=>exact absurd HA.out (by simp[nat_div.j3])
           | succ kj57 =>
            have H:=HA.out;clear HA;simp only[nat_div.j3] at H;obtain⟨⟨t162,t163⟩,A64,H⟩:=bi_ H;(try dsimp only at H);replace H:=bw_ H;rcases H with ⟨c65,H⟩|⟨c65,H⟩
            ·have c65b0:=dt_ c65;clear c65;obtain⟨t164,A66,H⟩:=bi_ H;replace H:=bx_ H;obtain⟨c67,H⟩:=H;replace c67:=dt_ c67;replace H:=bx_ H;obtain⟨c68,H⟩:=H;replace c68:=dt_ c68;obtain⟨y165,hy165⟩:∃ y_:List Int,y_ = (x10_2.set (x11_1:Int).toNat (wrap64 (x13_57-1))):=⟨_,rfl⟩
             replace H:(nat_div.l0 kj57 y124 t164 t136 (t136.length:Int) y165 (wrap64 (x11_1-1)))=some (r1,r2):=hr_ hy165 H
             have Ny165:=ak_ hy165;clear hy165;have H':=ak_ H;clear H
             go_wp2_with (first|(first|(with_reducible refine Exit.only_intro ?_)|((with_reducible refine wp_scope_redo (rest:=?rest_) 0 ?hf_ ?_);(case hf_=>exact rfl))|(with_reducible apply wp_goto))|(refine gl_ 131 Tryz.func141 #[.slice (some ad155) x7_2.length co32,.slice (some ad157) t136.length co31,.int .i64 x11_1,.int .i64 x13_57] ?_;(with_reducible refine(nat_take.calls kj57 (fun k_=>some k_ = (.slice (some ad155) x7_2.length co32:Value).ownBlock) (.slice (some ad155) x7_2.length co32) x7_2 _ _ t136 x11_1 x13_57 t162 t163 w _ ?side1 ?side2 ?side3 ?side4 A64.out).mono ?_);(case side1=>repeat(first|(with_reducible first|exact HB.out|apply below_alloc|apply pw_below_drewN|apply below_drew1)|exact HB.out));(case side2=>exact Kd.R_tight rfl HO_7.out);(case side3=>exact Kd.C_kept_own (HO_8.out) (fun k_ hk_ hs_=>(hk_.2.2.1) hs_));(case side4=>exact(Kd.R_reads' HO_8.out).2.1);rintro e w70 ⟨rfl,hy0,hb,hkp⟩;refine⟨_,rfl,?_⟩;replace HO_6:=ak_ (Kd.R_mono (ok':=fun k_=>(w.heap.size≤k_)∧some k_≠(.slice (some ad155) x7_2.length co32:Value).ownBlock∧some k_≠(.slice (some ad157) t136.length co31:Value).ownBlock∧some k_≠(v140:Value).ownBlock) (Kd.R_keptB (HO_6.out) hkp (fun k_ hk_ hs_=>(hk_.2.1) hs_)) (fun k_ hk_=>⟨hk_.1.1,hk_.1.2.1,hk_.1.2.2.1,hk_.1.2.2.2⟩));replace HO_7:=ak_ (Kd.R_reok rfl hy0 (fun k_ e_=>HO_7.out.1 k_ e_));replace HO_8:=ak_ (Kd.R_mono (ok':=fun k_=>(w.heap.size≤k_)∧some k_≠(.slice Ao24 y124.length co24:Value).ownBlock∧some k_≠(.slice (some ad155) x7_2.length co32:Value).ownBlock∧some k_≠(v140:Value).ownBlock) (Kd.R_keptB (HO_8.out) hkp (fun k_ hk_ hs_=>(hk_.2.2.1) hs_)) (fun k_ hk_=>⟨hk_.1.1,hk_.1.2.1,hk_.1.2.2.1,hk_.1.2.2.2⟩));replace HO_10:=ak_ (Kd.R_mono (ok':=fun k_=>(w.heap.size≤k_)∧some k_≠(.slice Ao24 y124.length co24:Value).ownBlock∧some k_≠(.slice (some ad155) x7_2.length co32:Value).ownBlock∧some k_≠(.slice (some ad157) t136.length co31:Value).ownBlock) (Kd.R_keptB (HO_10.out) hkp (fun k_ hk_ hs_=>(hk_.2.2.1) hs_)) (fun k_ hk_=>⟨hk_.1.1,hk_.1.2.1,hk_.1.2.2.1,hk_.1.2.2.2⟩));replace HB:=ak_ (hb);(try clear hb);(try clear hkp);(try clear hy0))|(refine gl_ 138 Tryz.func142 #[.slice (some ad155) x7_2.length co32,.slice (some ad157) t136.length co31,.int .i64 x11_1] ?_;(with_reducible refine(nat_give.calls kj57 (fun k_=>some k_ = (.slice (some ad155) x7_2.length co32:Value).ownBlock) (.slice (some ad155) x7_2.length co32) t163 _ _ t136 x11_1 t164 w _ ?side1 ?side2 ?side3 ?side4 A66.out).mono ?_);(case side1=>repeat(first|(with_reducible first|exact HB.out|apply below_alloc|apply pw_below_drewN|apply below_drew1)|exact HB.out));(case side2=>exact Kd.R_tight rfl HO_7.out);(case side3=>exact Kd.C_kept_own (HO_8.out) (fun k_ hk_ hs_=>(hk_.2.2.1) hs_));(case side4=>exact(Kd.R_reads' HO_8.out).2.1);rintro e w71 ⟨rfl,hy0,hb,hkp⟩;refine⟨_,rfl,?_⟩;replace HO_6:=ak_ (Kd.R_mono (ok':=fun k_=>(w.heap.size≤k_)∧some k_≠(.slice (some ad155) x7_2.length co32:Value).ownBlock∧some k_≠(.slice (some ad157) t136.length co31:Value).ownBlock∧some k_≠(v140:Value).ownBlock) (Kd.R_keptB (HO_6.out) hkp (fun k_ hk_ hs_=>(hk_.2.1) hs_)) (fun k_ hk_=>⟨hk_.1.1,hk_.1.2.1,hk_.1.2.2.1,hk_.1.2.2.2⟩));replace HO_7:=ak_ (Kd.R_reok rfl hy0 (fun k_ e_=>HO_7.out.1 k_ e_));replace HO_8:=ak_ (Kd.R_mono (ok':=fun k_=>(w.heap.size≤k_)∧some k_≠(.slice Ao24 y124.length co24:Value).ownBlock∧some k_≠(.slice (some ad155) x7_2.length co32:Value).ownBlock∧some k_≠(v140:Value).ownBlock) (Kd.R_keptB (HO_8.out) hkp (fun k_ hk_ hs_=>(hk_.2.2.1) hs_)) (fun k_ hk_=>⟨hk_.1.1,hk_.1.2.1,hk_.1.2.2.1,hk_.1.2.2.2⟩));replace HO_10:=ak_ (Kd.R_mono (ok':=fun k_=>(w.heap.size≤k_)∧some k_≠(.slice Ao24 y124.length co24:Value).ownBlock∧some k_≠(.slice (some ad155) x7_2.length co32:Value).ownBlock∧some k_≠(.slice (some ad157) t136.length co31:Value).ownBlock) (Kd.R_keptB (HO_10.out) hkp (fun k_ hk_ hs_=>(hk_.2.2.1) hs_)) (fun k_ hk_=>⟨hk_.1.1,hk_.1.2.1,hk_.1.2.2.1,hk_.1.2.2.2⟩));replace HB:=ak_ (hb);(try clear hb);(try clear hkp);(try clear hy0);have p69:0≤(x11_1:Int):=od_ as_f;have q69:(x11_1:Int)<((x10_2.length:Int):Int):=od_ as_f;obtain⟨go69,co69,eo69,gb69,gl69,cl69,HG69⟩:=Kd.R_form HO_10.out (by omega);(first|cases eo69|(injection eo69 with ea_ en_ ec_;(first|subst ea_|(injection ea_ with ea_;subst ea_));subst ec_;clear en_));have GB69:=ak_ gb69;have GG69:=ak_ HG69;clear gb69 gl69 HG69;obtain⟨hx69_0,hf69_0⟩:=Kd.R_celln 0 HO_10.out (x11_1:Int) p69 q69;replace p69:=eq_true p69;replace q69:=eq_true q69;obtain⟨hy72_,hz72_⟩:=Kd.R_celln 0 HO_10.out (x11_1:Int) (od_ as_f) (od_ as_f);have HP72:=Kd.R_putg HO_10.out (x11_1:Int) (wrap64 (x13_57-1)))|((with_reducible refine gate_store (t:=3) (p:=142) rfl ?_);refine store_event (t:=3) (p:=142) (v:=?vo_w73) (w1:=(w71.setCell ⟨go69,(x11_1:Int).toNat,none⟩ (.int .i64 (wrap64 (x13_57-1))))) ?hg ?ho ?hn ?hr ?_;(case ho=>rfl);(case hg=>rfl);(case hn=>rfl);(case hr=>first|(go_simp;done)|(go_simp;rfl));intro w73 hw;have hg:w71.grownBy w73 (some go69):=(by rw[hw];exact HP72.2);have hp_:Kd.R (Kd.int .i64) 3 w73 w.heap.size (fun k_=>(w.heap.size≤k_)∧some k_≠(.slice Ao24 y124.length co24:Value).ownBlock∧some k_≠(.slice (some ad155) x7_2.length co32:Value).ownBlock∧some k_≠(.slice (some ad157) t136.length co31:Value).ownBlock) (.slice (some ⟨go69,0,none⟩) x10_2.length co69) y165:=(by rw[hw,Ny165.out];exact HP72.1);clear HP72;replace HO_6:=ak_ (Kd.R_after (v:=(.slice (some ⟨go69,0,none⟩) x10_2.length co69)) (v1:=(.slice (some ⟨go69,0,none⟩) x10_2.length co69)) (ok:=(fun k_=>(w.heap.size≤k_)∧some k_≠(.slice (some ad155) x7_2.length co32:Value).ownBlock∧some k_≠(.slice (some ad157) t136.length co31:Value).ownBlock)) (by(with_reducible repeat(first|apply Kd.R_alloc|apply Kd.R_drewN|apply Kd.R_drew));exact Kd.R_mono HO_6.out (fun _ hk=>⟨⟨hk.1,⟨hk.2.1,hk.2.2.1⟩⟩,hk.2.2.2⟩)) hg (.inl rfl));replace HO_7:=ak_ (Kd.R_after (v:=(.slice (some ⟨go69,0,none⟩) x10_2.length co69)) (v1:=(.slice (some ⟨go69,0,none⟩) x10_2.length co69)) (ok:=(fun k_=>(w.heap.size≤k_)∧some k_≠(.slice Ao24 y124.length co24:Value).ownBlock∧some k_≠(.slice (some ad157) t136.length co31:Value).ownBlock)) (by(with_reducible repeat(first|apply Kd.R_alloc|apply Kd.R_drewN|apply Kd.R_drew));exact Kd.R_mono HO_7.out (fun _ hk=>⟨⟨hk.1,⟨hk.2.1,hk.2.2.1⟩⟩,hk.2.2.2⟩)) hg (.inl rfl));replace HO_8:=ak_ (Kd.R_after (v:=(.slice (some ⟨go69,0,none⟩) x10_2.length co69)) (v1:=(.slice (some ⟨go69,0,none⟩) x10_2.length co69)) (ok:=(fun k_=>(w.heap.size≤k_)∧some k_≠(.slice Ao24 y124.length co24:Value).ownBlock∧some k_≠(.slice (some ad155) x7_2.length co32:Value).ownBlock)) (by(with_reducible repeat(first|apply Kd.R_alloc|apply Kd.R_drewN|apply Kd.R_drew));exact Kd.R_mono HO_8.out (fun _ hk=>⟨⟨hk.1,⟨hk.2.1,hk.2.2.1⟩⟩,hk.2.2.2⟩)) hg (.inl rfl));replace HO_10:=ak_ (hp_);replace HB:=ak_ ((by rw[hw];exact below_set (HB.out) GB69.out:Below w.heap.size w w73));clear hg hw hp_))
             (try simp only[← hl7_1,← hl7_2])
             go_roundg kj57
             case measure=>have:=HK1.out;have:=HK2.out;have:=HJ47.out;have:=HJ57.out;omega
             case rel=>exact⟨(t164),(y165),(wrap64 (x11_1-1)),rl_,H',⟨by have:=HK1.out;have:=HK2.out;have:=HJ47.out;have:=HJ57.out;omega⟩,⟨by(try simp only[hl7_1]);(try simp only[hl7_2]);(with_reducible repeat(first|apply Kd.R_alloc|apply Kd.R_drewN|apply Kd.R_drew));exact Kd.R_mono HO_6.out (fun _ hk=>⟨hk.1.1,⟨hk.1.2.1,⟨hk.1.2.2,hk.2⟩⟩⟩)⟩,⟨by(try simp only[hl7_1]);(try simp only[hl7_2]);(with_reducible repeat(first|apply Kd.R_alloc|apply Kd.R_drewN|apply Kd.R_drew));exact Kd.R_mono HO_7.out (fun _ hk=>⟨hk.1.1,⟨hk.1.2.1,⟨hk.1.2.2,hk.2⟩⟩⟩)⟩,⟨by(try simp only[hl7_1]);(try simp only[hl7_2]);(with_reducible repeat(first|apply Kd.R_alloc|apply Kd.R_drewN|apply Kd.R_drew));exact Kd.R_mono HO_8.out (fun _ hk=>⟨hk.1.1,⟨hk.1.2.1,⟨hk.1.2.2,hk.2⟩⟩⟩)⟩,⟨by(try simp only[hl7_1]);(try simp only[hl7_2]);(with_reducible repeat(first|apply Kd.R_alloc|apply Kd.R_drewN|apply Kd.R_drew));exact HO_10.out⟩,⟨b_ HB.out⟩⟩
            ·have c65b0:=df_ c65;clear c65;replace H:=bx_ H;obtain⟨c74,H⟩:=H;replace c74:=dt_ c74;replace H:=bx_ H;obtain⟨c75,H⟩:=H;replace c75:=dt_ c75;obtain⟨y166,hy166⟩:∃ y_:List Int,y_ = (x10_2.set (x11_1:Int).toNat x13_57):=⟨_,rfl⟩
             replace H:(nat_div.l0 kj57 y124 t163 t136 (t136.length:Int) y166 (wrap64 (x11_1-1)))=some (r1,r2):=hr_ hy166 H
             have Ny166:=ak_ hy166;clear hy166;have H':=ak_ H;clear H
             go_wp2_with (first|(first|(with_reducible refine Exit.only_intro ?_)|((with_reducible refine wp_scope_redo (rest:=?rest_) 0 ?hf_ ?_);(case hf_=>exact rfl))|(with_reducible apply wp_goto))|(refine gl_ 131 Tryz.func141 #[.slice (some ad155) x7_2.length co32,.slice (some ad157) t136.length co31,.int .i64 x11_1,.int .i64 x13_57] ?_;(with_reducible refine(nat_take.calls kj57 (fun k_=>some k_ = (.slice (some ad155) x7_2.length co32:Value).ownBlock) (.slice (some ad155) x7_2.length co32) x7_2 _ _ t136 x11_1 x13_57 t162 t163 w _ ?side1 ?side2 ?side3 ?side4 A64.out).mono ?_);(case side1=>repeat(first|(with_reducible first|exact HB.out|apply below_alloc|apply pw_below_drewN|apply below_drew1)|exact HB.out));(case side2=>exact Kd.R_tight rfl HO_7.out);(case side3=>exact Kd.C_kept_own (HO_8.out) (fun k_ hk_ hs_=>(hk_.2.2.1) hs_));(case side4=>exact(Kd.R_reads' HO_8.out).2.1);rintro e w77 ⟨rfl,hy0,hb,hkp⟩;refine⟨_,rfl,?_⟩;replace HO_6:=ak_ (Kd.R_mono (ok':=fun k_=>(w.heap.size≤k_)∧some k_≠(.slice (some ad155) x7_2.length co32:Value).ownBlock∧some k_≠(.slice (some ad157) t136.length co31:Value).ownBlock∧some k_≠(v140:Value).ownBlock) (Kd.R_keptB (HO_6.out) hkp (fun k_ hk_ hs_=>(hk_.2.1) hs_)) (fun k_ hk_=>⟨hk_.1.1,hk_.1.2.1,hk_.1.2.2.1,hk_.1.2.2.2⟩));replace HO_7:=ak_ (Kd.R_reok rfl hy0 (fun k_ e_=>HO_7.out.1 k_ e_));replace HO_8:=ak_ (Kd.R_mono (ok':=fun k_=>(w.heap.size≤k_)∧some k_≠(.slice Ao24 y124.length co24:Value).ownBlock∧some k_≠(.slice (some ad155) x7_2.length co32:Value).ownBlock∧some k_≠(v140:Value).ownBlock) (Kd.R_keptB (HO_8.out) hkp (fun k_ hk_ hs_=>(hk_.2.2.1) hs_)) (fun k_ hk_=>⟨hk_.1.1,hk_.1.2.1,hk_.1.2.2.1,hk_.1.2.2.2⟩));replace HO_10:=ak_ (Kd.R_mono (ok':=fun k_=>(w.heap.size≤k_)∧some k_≠(.slice Ao24 y124.length co24:Value).ownBlock∧some k_≠(.slice (some ad155) x7_2.length co32:Value).ownBlock∧some k_≠(.slice (some ad157) t136.length co31:Value).ownBlock) (Kd.R_keptB (HO_10.out) hkp (fun k_ hk_ hs_=>(hk_.2.2.1) hs_)) (fun k_ hk_=>⟨hk_.1.1,hk_.1.2.1,hk_.1.2.2.1,hk_.1.2.2.2⟩));replace HB:=ak_ (hb);(try clear hb);(try clear hkp);(try clear hy0);have p76:0≤(x11_1:Int):=od_ as_f;have q76:(x11_1:Int)<((x10_2.length:Int):Int):=od_ as_f;obtain⟨go76,co76,eo76,gb76,gl76,cl76,HG76⟩:=Kd.R_form HO_10.out (by omega);(first|cases eo76|(injection eo76 with ea_ en_ ec_;(first|subst ea_|(injection ea_ with ea_;subst ea_));subst ec_;clear en_));have GB76:=ak_ gb76;have GG76:=ak_ HG76;clear gb76 gl76 HG76;obtain⟨hx76_0,hf76_0⟩:=Kd.R_celln 0 HO_10.out (x11_1:Int) p76 q76;replace p76:=eq_true p76;replace q76:=eq_true q76;obtain⟨hy78_,hz78_⟩:=Kd.R_celln 0 HO_10.out (x11_1:Int) (od_ as_f) (od_ as_f);have HP78:=Kd.R_putg HO_10.out (x11_1:Int) x13_57)|((with_reducible refine gate_store (t:=3) (p:=142) rfl ?_);refine store_event (t:=3) (p:=142) (v:=?vo_w79) (w1:=(w77.setCell ⟨go76,(x11_1:Int).toNat,none⟩ (.int .i64 x13_57))) ?hg ?ho ?hn ?hr ?_;(case ho=>rfl);(case hg=>rfl);(case hn=>rfl);(case hr=>first|(go_simp;done)|(go_simp;rfl));intro w79 hw;have hg:w77.grownBy w79 (some go76):=(by rw[hw];exact HP78.2);have hp_:Kd.R (Kd.int .i64) 3 w79 w.heap.size (fun k_=>(w.heap.size≤k_)∧some k_≠(.slice Ao24 y124.length co24:Value).ownBlock∧some k_≠(.slice (some ad155) x7_2.length co32:Value).ownBlock∧some k_≠(.slice (some ad157) t136.length co31:Value).ownBlock) (.slice (some ⟨go76,0,none⟩) x10_2.length co76) y166:=(by rw[hw,Ny166.out];exact HP78.1);clear HP78;replace HO_6:=ak_ (Kd.R_after (v:=(.slice (some ⟨go76,0,none⟩) x10_2.length co76)) (v1:=(.slice (some ⟨go76,0,none⟩) x10_2.length co76)) (ok:=(fun k_=>(w.heap.size≤k_)∧some k_≠(.slice (some ad155) x7_2.length co32:Value).ownBlock∧some k_≠(.slice (some ad157) t136.length co31:Value).ownBlock)) (by(with_reducible repeat(first|apply Kd.R_alloc|apply Kd.R_drewN|apply Kd.R_drew));exact Kd.R_mono HO_6.out (fun _ hk=>⟨⟨hk.1,⟨hk.2.1,hk.2.2.1⟩⟩,hk.2.2.2⟩)) hg (.inl rfl));replace HO_7:=ak_ (Kd.R_after (v:=(.slice (some ⟨go76,0,none⟩) x10_2.length co76)) (v1:=(.slice (some ⟨go76,0,none⟩) x10_2.length co76)) (ok:=(fun k_=>(w.heap.size≤k_)∧some k_≠(.slice Ao24 y124.length co24:Value).ownBlock∧some k_≠(.slice (some ad157) t136.length co31:Value).ownBlock)) (by(with_reducible repeat(first|apply Kd.R_alloc|apply Kd.R_drewN|apply Kd.R_drew));exact Kd.R_mono HO_7.out (fun _ hk=>⟨⟨hk.1,⟨hk.2.1,hk.2.2.1⟩⟩,hk.2.2.2⟩)) hg (.inl rfl));replace HO_8:=ak_ (Kd.R_after (v:=(.slice (some ⟨go76,0,none⟩) x10_2.length co76)) (v1:=(.slice (some ⟨go76,0,none⟩) x10_2.length co76)) (ok:=(fun k_=>(w.heap.size≤k_)∧some k_≠(.slice Ao24 y124.length co24:Value).ownBlock∧some k_≠(.slice (some ad155) x7_2.length co32:Value).ownBlock)) (by(with_reducible repeat(first|apply Kd.R_alloc|apply Kd.R_drewN|apply Kd.R_drew));exact Kd.R_mono HO_8.out (fun _ hk=>⟨⟨hk.1,⟨hk.2.1,hk.2.2.1⟩⟩,hk.2.2.2⟩)) hg (.inl rfl));replace HO_10:=ak_ (hp_);replace HB:=ak_ ((by rw[hw];exact below_set (HB.out) GB76.out:Below w.heap.size w w79));clear hg hw hp_))
             (try simp only[← hl7_1,← hl7_2])
             go_roundg kj57
             case measure=>have:=HK1.out;have:=HK2.out;have:=HJ47.out;have:=HJ57.out;omega
             case rel=>exact⟨(t163),(y166),(wrap64 (x11_1-1)),rl_,H',⟨by have:=HK1.out;have:=HK2.out;have:=HJ47.out;have:=HJ57.out;omega⟩,⟨by(try simp only[hl7_1]);(try simp only[hl7_2]);(with_reducible repeat(first|apply Kd.R_alloc|apply Kd.R_drewN|apply Kd.R_drew));exact Kd.R_mono HO_6.out (fun _ hk=>⟨hk.1.1,⟨hk.1.2.1,⟨hk.1.2.2,hk.2⟩⟩⟩)⟩,⟨by(try simp only[hl7_1]);(try simp only[hl7_2]);(with_reducible repeat(first|apply Kd.R_alloc|apply Kd.R_drewN|apply Kd.R_drew));exact Kd.R_mono HO_7.out (fun _ hk=>⟨hk.1.1,⟨hk.1.2.1,⟨hk.1.2.2,hk.2⟩⟩⟩)⟩,⟨by(try simp only[hl7_1]);(try simp only[hl7_2]);(with_reducible repeat(first|apply Kd.R_alloc|apply Kd.R_drewN|apply Kd.R_drew));exact Kd.R_mono HO_8.out (fun _ hk=>⟨hk.1.1,⟨hk.1.2.1,⟨hk.1.2.2,hk.2⟩⟩⟩)⟩,⟨by(try simp only[hl7_1]);(try simp only[hl7_2]);(with_reducible repeat(first|apply Kd.R_alloc|apply Kd.R_drewN|apply Kd.R_drew));exact HO_10.out⟩,⟨b_ HB.out⟩⟩
     ·have c35b0:decide (0≤x11_1)=false:=decide_eq_false c35;clear c35;obtain⟨t142,A80,H⟩:=bi_ H;replace H:=bx_ H;obtain⟨c81,H⟩:=H;have c81b0:=dt_ c81;have c81b1:decide (0<y124.length)=true:=decide_eq_true (by omega);clear c81;obtain⟨⟨t146,t149⟩,A82,H⟩:=bi_ H;(try dsimp only at H);obtain⟨t152,A83,H⟩:=bi_ H;replace H:=pi2_ H;obtain⟨rfl,rfl⟩:=H
      try go_wp2_with (first|(with_reducible refine Exit.only_intro ?_)|((with_reducible refine wp_scope_redo (rest:=?rest_) 0 ?hf_ ?_);(case hf_=>exact rfl))|(with_reducible apply wp_goto))
      replace HO_6:=ak_ (Kd.R_drew HO_6.out);replace HO_7:=ak_ (Kd.R_drew HO_7.out);replace HO_8:=ak_ (Kd.R_drew HO_8.out);replace HO_10:=ak_ (Kd.R_drew HO_10.out);replace HB:=ak_ (below_drew1 HB.out);have p145:0≤(0:Int):=(by omega);have q145:0<(y124.length:Int):=od_ as_f;obtain⟨ad145,e145,hx145_0⟩:=Kd.at_int (Kd.R_reads' HO_6.out).2.2 0 p145 q145
      cases e145
      have qi145:(0<y124.length)=True:=eq_true (by omega);(try rw[show ((0:Int)).toNat=0 from rfl] at hx145_0);(try rw[Addr.add_zero'] at hx145_0);replace p145:=eq_true p145;replace q145:=eq_true q145;refine start_ (n:=11) (S:=fun w'=>w'.cell? ad145=some (.int .i64 (rd y124 0))) (ds:=[]) #[false,false,false,false,false,false,false,false,false,false,false] (by kernel_rfl) rfl rfl (hx145_0) (fun hHeld=>?_);refine with_tabW nat_div.tab22 nat_div.bits22 (fun HT_ HW_=>?_);generalize wr.drew=w84 at HO_6 HO_7 HO_8 HO_10 HB hx145_0 hHeld ⊢;refine pu_ 0 144 rfl rfl HT_ ?_;refine pu_ 2 146 rfl rfl HT_ ?_;refine pu_ 3 147 rfl rfl HT_ ?_;refine t_ 4 148 rfl rfl HT_ HW_ hHeld ?_;refine on_ 1 (some 145) rfl rfl HT_ (fun K hK=>?_);refine gs_ Tryz.func143 #[.slice Ao32 x7_1.length co32] ?_
      with_reducible refine(nat_limbs_trim.calls k1 (fun k_=>some k_ = (.slice Ao32 x7_1.length co32:Value).ownBlock) _ _ x7_1 t142 _ ?side1 A80.out).mono ?_
      (case side1=>exact Kd.R_V (Kd.R_tight rfl (HO_7.out)))
      rintro e w85 ⟨v143,rfl,ho0,hb⟩;have HS0_:=(hb.cell (World.block_lt_of_cell? _ _ (hHeld))).trans (hHeld);refine⟨_,rfl,?_⟩;have HO144:=ak_ (Kd.V_lower (Kd.V_mono (ok':=fun k_=>(P0_ k_∨w.heap.size≤k_)∧some k_≠(.slice (some ad145) y124.length co24:Value).ownBlock∧some k_≠(.slice Ao31 t136.length co31:Value).ownBlock∧some k_≠(v140:Value).ownBlock) ho0 (fun k_ hk_=>⟨Or.elim hk_ (fun hs_=>(.inr (((HO_7.out).1 k_ hs_.symm).1))) (fun hn_=>(.inr (Nat.le_trans (below_size (b_ HB.out)) hn_))),Or.elim hk_ (fun hs_=>((HO_7.out).1 k_ hs_.symm).2.1) (fun hn_=>(Kd.fresh' (Kd.R_lt (w_ HO_6.out)) k_ hn_)),Or.elim hk_ (fun hs_=>((HO_7.out).1 k_ hs_.symm).2.2.1) (fun hn_=>(Kd.fresh' (Kd.R_lt (w_ HO_8.out)) k_ hn_)),Or.elim hk_ (fun hs_=>((HO_7.out).1 k_ hs_.symm).2.2.2) (fun hn_=>(Kd.fresh' (Kd.R_lt (w_ HO_10.out)) k_ hn_))⟩)) (below_size (b_ HB.out)));replace HO_6:=ak_ (Kd.R_below (w_ HO_6.out) hb);replace HO_7:=ak_ (Kd.R_below (w_ HO_7.out) hb);replace HO_8:=ak_ (Kd.R_below (w_ HO_8.out) hb);replace HO_10:=ak_ (Kd.R_below (w_ HO_10.out) hb);replace HB:=bs_ HB hb;(try clear hb);(try clear ho0);obtain⟨Ao86,co86,eo86⟩:=Kd.V_slice HO144.out;(first|subst eo86|(injection eo86 with f1_ f2_ f3_;have f4_:=f1_.symm;have f5_:=f3_.symm;clear f1_ f2_ f3_;subst f4_;subst f5_));refine hK.out _ _ (HS0_) (fun hHeld=>?_);clear hK K;refine nm_ ?_;refine on_ 5 (some 149) rfl rfl HT_ (fun K hK=>?_);refine gs_ Tryz.func140 #[.slice Ao86 t142.length co86,.int .i64 (rd y124 0)] ?_
      with_reducible refine(nat_short.calls _ _ t142 (rd y124 0) t146 t149 _ ?side1 ?side2 A82.out).mono ?_
      (case side1=>exact c_ (Kd.V_reads' HO144.out).2.2)
      (case side2=>exact(Kd.V_reads' HO144.out).2.1)
      rintro e w87 ⟨v147,v150,rfl,ho0,ho1,hb⟩;have HS0_:=(hb.cell (World.block_lt_of_cell? _ _ (hHeld))).trans (hHeld);refine⟨_,rfl,?_⟩;have HO148:=ak_ (Kd.V_lower (Kd.V_mono (ok':=fun k_=>(P0_ k_∨w.heap.size≤k_)∧some k_≠(.slice (some ad145) y124.length co24:Value).ownBlock∧some k_≠(.slice Ao32 x7_1.length co32:Value).ownBlock∧some k_≠(.slice Ao31 t136.length co31:Value).ownBlock∧some k_≠(v140:Value).ownBlock) ho0 (fun k_ hk_=>⟨(.inr (Nat.le_trans (below_size (b_ HB.out)) hk_)),(Kd.fresh' (Kd.R_lt (w_ HO_6.out)) k_ hk_),(Kd.fresh' (Kd.R_lt (w_ HO_7.out)) k_ hk_),(Kd.fresh' (Kd.R_lt (w_ HO_8.out)) k_ hk_),(Kd.fresh' (Kd.R_lt (w_ HO_10.out)) k_ hk_)⟩)) (below_size (b_ HB.out)));have HO151:=ak_ (Kd.V_lower (Kd.V_mono (ok':=fun k_=>(P0_ k_∨w.heap.size≤k_)∧some k_≠(.slice (some ad145) y124.length co24:Value).ownBlock∧some k_≠(.slice Ao32 x7_1.length co32:Value).ownBlock∧some k_≠(.slice Ao31 t136.length co31:Value).ownBlock∧some k_≠(v140:Value).ownBlock) ho1 (fun k_ hk_=>⟨(.inr (Nat.le_trans (below_size (b_ HB.out)) hk_)),(Kd.fresh' (Kd.R_lt (w_ HO_6.out)) k_ hk_),(Kd.fresh' (Kd.R_lt (w_ HO_7.out)) k_ hk_),(Kd.fresh' (Kd.R_lt (w_ HO_8.out)) k_ hk_),(Kd.fresh' (Kd.R_lt (w_ HO_10.out)) k_ hk_)⟩)) (below_size (b_ HB.out)));replace HO_6:=ak_ (Kd.R_below (w_ HO_6.out) hb);replace HO_7:=ak_ (Kd.R_below (w_ HO_7.out) hb);replace HO_8:=ak_ (Kd.R_below (w_ HO_8.out) hb);replace HO_10:=ak_ (Kd.R_below (w_ HO_10.out) hb);replace HO144:=ak_ (Kd.V_below (v_ HO144.out) hb);replace HB:=bs_ HB hb;(try clear hb);(try clear ho0);(try clear ho1);refine hK.out _ _ (HS0_) (fun hHeld=>?_);clear hK K;refine nm_ ?_;refine pu_ 6 143 rfl rfl HT_ ?_;refine pu_ 7 150 rfl rfl HT_ ?_;refine pu_ 8 151 rfl rfl HT_ ?_;refine pu_ 9 15 rfl rfl HT_ ?_;refine pu_ 10 16 rfl rfl HT_ ?_;refine done_ (done_of HT_.out (by kernel_rfl)) ?_;obtain⟨Ao88,co88,eo88⟩:=Kd.R_slice HO_10.out;subst eo88
      try go_wp2_with (first|(first|(with_reducible refine Exit.only_intro ?_)|((with_reducible refine wp_scope_redo (rest:=?rest_) 0 ?hf_ ?_);(case hf_=>exact rfl))|(with_reducible apply wp_goto))|(refine gl_ 153 Tryz.func143 #[.slice Ao88 x10_1.length co88] ?_;(with_reducible refine(nat_limbs_trim.calls k1 (fun k_=>some k_ = (.slice Ao88 x10_1.length co88:Value).ownBlock) _ _ x10_1 t152 _ ?side1 A83.out).mono ?_);(case side1=>exact Kd.R_V (Kd.R_tight rfl (HO_10.out)));rintro e w89 ⟨v153,rfl,ho0,hb⟩;refine⟨_,rfl,?_⟩;have HO154:=ak_ (Kd.V_lower (Kd.V_mono (ok':=fun k_=>(P0_ k_∨w.heap.size≤k_)∧some k_≠(.slice (some ad145) y124.length co24:Value).ownBlock∧some k_≠(.slice Ao32 x7_1.length co32:Value).ownBlock∧some k_≠(.slice Ao31 t136.length co31:Value).ownBlock) ho0 (fun k_ hk_=>⟨Or.elim hk_ (fun hs_=>(.inr (((HO_10.out).1 k_ hs_.symm).1))) (fun hn_=>(.inr (Nat.le_trans (below_size (b_ HB.out)) hn_))),Or.elim hk_ (fun hs_=>((HO_10.out).1 k_ hs_.symm).2.1) (fun hn_=>(Kd.fresh' (Kd.R_lt (w_ HO_6.out)) k_ hn_)),Or.elim hk_ (fun hs_=>((HO_10.out).1 k_ hs_.symm).2.2.1) (fun hn_=>(Kd.fresh' (Kd.R_lt (w_ HO_7.out)) k_ hn_)),Or.elim hk_ (fun hs_=>((HO_10.out).1 k_ hs_.symm).2.2.2) (fun hn_=>(Kd.fresh' (Kd.R_lt (w_ HO_8.out)) k_ hn_))⟩)) (below_size (b_ HB.out)));replace HO_6:=ak_ (Kd.R_below (w_ HO_6.out) hb);replace HO_7:=ak_ (Kd.R_below (w_ HO_7.out) hb);replace HO_8:=ak_ (Kd.R_below (w_ HO_8.out) hb);replace HO_10:=ak_ (Kd.R_below (w_ HO_10.out) hb);replace HO144:=ak_ (Kd.V_below (v_ HO144.out) hb);replace HO148:=ak_ (Kd.V_below (v_ HO148.out) hb);replace HO151:=ak_ (Kd.V_below (v_ HO151.out) hb);replace HB:=bs_ HB hb;(try clear hb);(try clear hk);(try clear ho0)))
      go_ret2;exact⟨_,_,by first|rfl|(simp[errW_none,errW_some] <;> rfl)|(simp only[← hji11,← hji18];first|rfl|(simp[errW_none,errW_some] <;> rfl))|(simp[*,errW_none,errW_some] <;> rfl),by(with_reducible repeat(first|apply Kd.V_alloc|apply Kd.V_drewN|apply Kd.V_drew));exact Kd.V_mono HO154.out (fun _ hk=>hk.1),by(with_reducible repeat(first|apply Kd.V_alloc|apply Kd.V_drewN|apply Kd.V_drew));exact Kd.V_mono HO148.out (fun _ hk=>hk.1),b_ HB.out⟩
end Pt
open Go.Lib (decDigits)
def isDig (c:UInt8):Bool:=decide (48≤c.toNat∧c.toNat≤57)
def num (l:List UInt8):Nat:=l.foldl (fun n c=>n * 10+(c.toNat-48)) 0
def mayL (l:List UInt8):Bool:=decide (l≠[])&&l.all isDig&&(decide (l=[48]) || decide (l.head?≠some 48))
theorem num_nil:num []=0:=rfl
theorem num_snoc (l:List UInt8) (c:UInt8):num (l ++ [c])=num l * 10+(c.toNat-48):=by simp[num]
theorem foldl_num (l:List UInt8) (a:Nat):l.foldl (fun n c=>n * 10+(c.toNat-48)) a=a * 10 ^ l.length+num l:=by
 induction l generalizing a with
 | nil=>simp[num]
 | cons c r ih =>
  have h:=ih (a * 10+(c.toNat-48))
  have h2:=ih (0 * 10+(c.toNat-48))
  simp only[num,List.foldl_cons,List.length_cons] at h h2 ⊢
  rw[h,h2,Nat.pow_succ]
  grind
theorem num_append (l r:List UInt8):num (l++r)=num l * 10 ^ r.length+num r:=by
 unfold num
 rw[List.foldl_append,foldl_num]
 rfl
theorem num_cons (c:UInt8) (r:List UInt8):num (c :: r)=(c.toNat-48) * 10 ^ r.length+num r:=by
 have h:=num_append [c] r
 simpa [num] using h
theorem num_lt {l:List UInt8} (h:l.all isDig=true):num l<10 ^ l.length:=by
 induction l with
 | nil=>simp[num]
 | cons c r ih =>
  simp only[List.all_cons,Bool.and_eq_true] at h
  have hc:c.toNat≤57:=by have:=h.1;simp[isDig] at this;exact this.2
  have:=ih h.2
  rw[num_cons,List.length_cons,Nat.pow_succ]
  have h2:(c.toNat-48) * 10 ^ r.length≤9 * 10 ^ r.length:=Nat.mul_le_mul_right _ (by omega)
  omega
theorem ofNat_dig {d:Nat} (h:d<10):(UInt8.ofNat (48+d)).toNat=48+d:=by
 simp[UInt8.toNat_ofNat]
 omega
theorem isDig_ofNat {d:Nat} (h:d<10):isDig (UInt8.ofNat (48+d))=true:=by
 unfold isDig
 rw[ofNat_dig h]
 simp
 omega
theorem dig_small {n:Nat} (h:n<10):decDigits n=[UInt8.ofNat (48+n)]:=by rw[decDigits,dif_pos h]
theorem dig_big {n:Nat} (h:¬ n<10):decDigits n=decDigits (n / 10) ++ [UInt8.ofNat (48+n % 10)]:=by rw[decDigits,dif_neg h]
theorem dig_ne (n:Nat):decDigits n≠[]:=by
 by_cases h:n<10
 ·rw[dig_small h];simp
 ·rw[dig_big h];simp
theorem num_dig (n:Nat):num (decDigits n)=n:=by
 induction n using Nat.strongRecOn with
 | _ n ih =>
  by_cases h:n<10
  ·rw[dig_small h]
   have:=ofNat_dig h
   simp[num] at this ⊢
   omega
  ·rw[dig_big h,num_snoc,ih (n / 10) (by omega),ofNat_dig (by omega)]
   omega
theorem dig_all (n:Nat):(decDigits n).all isDig=true:=by
 induction n using Nat.strongRecOn with
 | _ n ih =>
  by_cases h:n<10
  ·rw[dig_small h,List.all_cons,isDig_ofNat h];rfl
  ·rw[dig_big h,List.all_append,ih (n / 10) (by omega),List.all_cons,isDig_ofNat (show n % 10<10 by omega)]
   rfl
theorem dig_head {n:Nat} (h:n≠0):(decDigits n).head?≠some 48:=by
 induction n using Nat.strongRecOn with
 | _ n ih =>
  by_cases h10:n<10
  ·rw[dig_small h10]
   intro e
   have e2:UInt8.ofNat (48+n)=48:=by simpa using e
   have:=ofNat_dig h10
   rw[e2] at this
   simp at this
   omega
  ·rw[dig_big h10,List.head?_append]
   have h2:=ih (n / 10) (by omega) (by omega)
   cases hh:(decDigits (n / 10)).head? with
   | none=>exact absurd (List.head?_eq_none_iff.1 hh) (dig_ne _)
   | some c=>rw[hh] at h2;simpa using h2
theorem may_dig (n:Nat):mayL (decDigits n)=true:=by
 unfold mayL
 rw[dig_all]
 simp only[Bool.and_true,Bool.and_eq_true,Bool.or_eq_true,decide_eq_true_eq]
 refine⟨dig_ne n,?_⟩
 by_cases h:n=0
 ·left;subst h;rw[dig_small (by omega)];rfl
 ·right;exact dig_head h
theorem mayL_all {l:List UInt8} (h:mayL l=true):l.all isDig=true:=by
 unfold mayL at h
 simp only[Bool.and_eq_true] at h
 exact h.1.2
theorem mayL_ne {l:List UInt8} (h:mayL l=true):l≠[]:=by
 unfold mayL at h
 simp only[Bool.and_eq_true,decide_eq_true_eq] at h
 exact h.1.1
theorem mayL_head {l:List UInt8} (h:mayL l=true):l=[48]∨l.head?≠some 48:=by
 unfold mayL at h
 simp only[Bool.and_eq_true,Bool.or_eq_true,decide_eq_true_eq] at h
 exact h.2
theorem isDig_bounds {c:UInt8} (h:isDig c=true):48≤c.toNat∧c.toNat≤57:=by simpa [isDig] using h
theorem dig_of_byte {c:UInt8} (h:isDig c=true):UInt8.ofNat (48+(c.toNat-48))=c:=by
 have:=isDig_bounds h
 have e:48+(c.toNat-48)=c.toNat:=by omega
 rw[e]
 simp
theorem num_pos {l:List UInt8} (h:l.all isDig=true) (h1:l≠[]) (h2:l.head?≠some 48):10 ^ (l.length-1)≤num l:=by
 cases l with
 | nil=>exact absurd rfl h1
 | cons c r =>
  simp only[List.all_cons,Bool.and_eq_true] at h
  have hb:=isDig_bounds h.1
  have hc:c.toNat≠48:=by
   intro e
   apply h2
   have:c=48:=UInt8.toNat_inj.1 (by rw[e];rfl)
   simp[this]
  rw[num_cons]
  simp only[List.length_cons,Nat.add_sub_cancel]
  have:1 * 10 ^ r.length≤(c.toNat-48) * 10 ^ r.length:=Nat.mul_le_mul_right _ (by omega)
  omega
theorem dig_num {l:List UInt8} (h:mayL l=true):decDigits (num l)=l:=by
 rcases mayL_head h with rfl|hh
 ·rw[dig_small (by decide)];rfl
 ·have ha:=mayL_all h
  have hn:=mayL_ne h
  clear h
  obtain⟨m,hm⟩:∃ m,l.length=m:=⟨_,rfl⟩
  induction m generalizing l with
  | zero=>exact absurd (List.length_eq_zero_iff.1 hm) hn
  | succ m ih =>
   rcases List.eq_nil_or_concat l with rfl|⟨r,c,rfl⟩
   ·exact absurd rfl hn
   ·rw[List.concat_eq_append] at *
    simp only[List.all_append,List.all_cons,List.all_nil,Bool.and_true,Bool.and_eq_true] at ha
    have hb:=isDig_bounds ha.2
    rw[num_snoc]
    by_cases hr:r=[]
    ·subst hr
     rw[num_nil,dig_small (by omega)]
     simp only[Nat.zero_mul,Nat.zero_add,List.nil_append]
     rw[dig_of_byte ha.2]
    ·have hh':r.head?≠some 48:=by
      rw[List.head?_append] at hh
      cases hx:r.head? with
      | none=>exact absurd (List.head?_eq_none_iff.1 hx) hr
      | some x=>rw[hx] at hh;simpa using hh
     have h1:=num_pos ha.1 hr hh'
     have h0:1≤10 ^ (r.length-1):=Nat.one_le_pow _ _ (by omega)
     rw[dig_big (by omega)]
     have e1:(num r * 10+(c.toNat-48)) / 10=num r:=by omega
     have e2:(num r * 10+(c.toNat-48)) % 10=c.toNat-48:=by omega
     rw[e1,e2,dig_of_byte ha.2,ih hh' ha.1 hr (by simpa using hm)]
theorem num_inj {l r:List UInt8} (hl:mayL l=true) (hr:mayL r=true) (h:num l=num r):l=r:=by
 rw[← dig_num hl,← dig_num hr,h]
theorem parse_digits:∀ (l:List UInt8) (a:Nat),l.all isDig=true→l.foldl (fun n c=>n * 10+(c.toNat-48)) a<18446744073709551616→Lib.parseUint10 a l=.ok (l.foldl (fun n c=>n * 10+(c.toNat-48)) a)
 | [],a,_,_=>rfl
 | c :: r,a,h,hn=>by
  simp only[List.all_cons,Bool.and_eq_true] at h
  have hb:=isDig_bounds h.1
  simp only[List.foldl_cons] at hn ⊢
  have hge:a * 10+(c.toNat-48)≤r.foldl (fun n c=>n * 10+(c.toNat-48)) (a * 10+(c.toNat-48)):=by
   rw[foldl_num]
   have:1≤10 ^ r.length:=Nat.one_le_pow _ _ (by omega)
   have:=Nat.le_mul_of_pos_right (a * 10+(c.toNat-48)) this
   omega
  rw[Lib.parseUint10,if_pos hb,if_neg (by omega),if_neg (by omega)]
  exact parse_digits r _ h.2 hn
theorem parse_range:∀ (l:List UInt8) (a:Nat),a<18446744073709551616→l.all isDig=true→18446744073709551616≤l.foldl (fun n c=>n * 10+(c.toNat-48)) a→Lib.parseUint10 a l=.range
 | [],a,ha,_,hn=>by simp at hn;omega
 | c :: r,a,ha,h,hn=>by
  simp only[List.all_cons,Bool.and_eq_true] at h
  have hb:=isDig_bounds h.1
  simp only[List.foldl_cons] at hn
  rw[Lib.parseUint10,if_pos hb]
  by_cases h1:1844674407370955162≤a
  ·rw[if_pos h1]
  ·rw[if_neg h1]
   by_cases h2:18446744073709551616≤a * 10+(c.toNat-48)
   ·rw[if_pos h2]
   ·rw[if_neg h2]
    exact parse_range r _ (by omega) h.2 hn
theorem atoi_digits {l:List UInt8} (h1:l≠[]) (h:l.all isDig=true):Lib.atoiAll l=if num l<9223372036854775808 then .ok (num l:Int) else .range:=by
 cases l with
 | nil=>exact absurd rfl h1
 | cons c r =>
  have hb:=isDig_bounds (by simp only[List.all_cons,Bool.and_eq_true] at h;exact h.1:isDig c=true)
  rw[Lib.atoiAll_plain c r (by omega) (by omega)]
  unfold Lib.parseMag
  rw[if_neg (by simp)]
  by_cases hn:num (c :: r)<18446744073709551616
  ·rw[parse_digits _ 0 h hn]
   show Lib.signless (.ok (num (c :: r))) = _
   unfold Lib.signless
   by_cases h2:num (c :: r)<9223372036854775808
   ·rw[if_pos h2];simp;omega
   ·rw[if_neg h2];simp;omega
  ·rw[parse_range _ 0 (by omega) h (by exact Nat.le_of_not_lt hn),if_neg (by omega)]
   rfl
def val:List Int→Int
 | []=>0
 | x :: r=>x+10000 * val r
def Ok (l:List Int):Prop:=∀ x∈l,0≤x∧x<10000
def lim (n:Nat):List Int:=if h:n=0 then [] else ((n % 10000:Nat):Int) :: lim (n / 10000)
 termination_by n
 decreasing_by omega
theorem lim_zero:lim 0=[]:=by rw[lim,dif_pos rfl]
theorem lim_pos {n:Nat} (h:n≠0):lim n=((n % 10000:Nat):Int) :: lim (n / 10000):=by rw[lim,dif_neg h]
theorem lim_nil {n:Nat}:lim n=[]↔n=0:=by
 constructor
 ·intro h
  by_cases h0:n=0
  ·exact h0
  ·rw[lim_pos h0] at h;cases h
 ·rintro rfl;exact lim_zero
theorem ok_nil:Ok []:=by intro x h;cases h
theorem ok_cons {x:Int} {r:List Int}:Ok (x :: r)↔(0≤x∧x<10000)∧Ok r:=by simp[Ok]
theorem ok_append {l r:List Int}:Ok (l++r)↔Ok l∧Ok r:=by
 simp only[Ok,List.mem_append]
 constructor
 ·exact fun h=>⟨fun x hx=>h x (.inl hx),fun x hx=>h x (.inr hx)⟩
 ·rintro⟨h1,h2⟩ x (hx|hx)
  ·exact h1 x hx
  ·exact h2 x hx
theorem ok_snoc {l:List Int} {x:Int} (h:Ok l) (h0:0≤x) (h1:x<10000):Ok (l ++ [x]):=ok_append.2 ⟨h,ok_cons.2 ⟨⟨h0,h1⟩,ok_nil⟩⟩
theorem ok_take {l:List Int} (h:Ok l) (k:Nat):Ok (l.take k):=fun x hx=>h x (List.mem_of_mem_take hx)
theorem ok_set {l:List Int} (h:Ok l) (j:Nat) {v:Int} (h0:0≤v) (h1:v<10000):Ok (l.set j v):=by
 intro x hx
 rcases List.mem_or_eq_of_mem_set hx with hx|rfl
 ·exact h x hx
 ·exact⟨h0,h1⟩
theorem ok_replicate (n:Nat):Ok (List.replicate n 0):=by
 intro x hx
 rw[List.eq_of_mem_replicate hx]
 decide
theorem ok_lim (n:Nat):Ok (lim n):=by
 induction n using Nat.strongRecOn with
 | _ n ih =>
  by_cases h:n=0
  ·subst h;rw[lim_zero];exact ok_nil
  ·rw[lim_pos h];exact ok_cons.2 ⟨by omega,ih _ (by omega)⟩
theorem limb_ok {l:List Int} (h:Ok l) (i:Nat):0≤limb l i∧limb l i<10000:=by
 unfold limb
 rw[List.getD_eq_getElem?_getD]
 cases hx:l[i]? with
 | none=>simp
 | some x=>exact h x (List.mem_of_getElem? hx)
theorem limbsOk_of {l:List Int} (h:Ok l):limbsOk l=true:=by
 unfold limbsOk
 rw[List.all_eq_true]
 intro x hx
 have:=h x hx
 simp;omega
theorem limb_out {l:List Int} {i:Nat} (h:l.length≤i):limb l i=0:=by simp[limb,h]
theorem rd_limb (l:List Int) (i:Nat):rd l (i:Int)=limb l i:=by simp[rd,limb]
theorem val_append (a b:List Int):val (a++b)=val a+10000 ^ a.length * val b:=by
 induction a with
 | nil=>simp[val]
 | cons x r ih=>simp only[List.cons_append,val,ih,List.length_cons];grind
theorem val_snoc (a:List Int) (x:Int):val (a ++ [x])=val a+10000 ^ a.length * x:=by rw[val_append];simp[val]
theorem val_lim (n:Nat):val (lim n)=n:=by
 induction n using Nat.strongRecOn with
 | _ n ih =>
  by_cases h:n=0
  ·subst h;rw[lim_zero];rfl
  ·rw[lim_pos h,val,ih _ (by omega)];omega
theorem pow_pos' (k:Nat):(0:Int)<10000 ^ k:=Int.pow_pos (by decide)
theorem val_bounds {l:List Int} (h:Ok l):0≤val l∧val l<10000 ^ l.length:=by
 induction l with
 | nil=>simp[val]
 | cons x r ih =>
  have ⟨h1,h2⟩:=ok_cons.1 h
  have ⟨h3,h4⟩:=ih h2
  simp only[val,List.length_cons]
  rw[Int.pow_succ]
  omega
theorem val_replicate (n:Nat):val (List.replicate n 0)=0:=by
 induction n with
 | zero=>rfl
 | succ n ih=>rw[List.replicate_succ,val,ih];rfl
theorem val_take_succ (l:List Int) (i:Nat):val (l.take (i+1))=val (l.take i)+10000 ^ i * limb l i:=by
 by_cases h:i<l.length
 ·rw[take_step l i h,val_snoc,List.length_take,Nat.min_eq_left (by omega)]
 ·rw[List.take_of_length_le (by omega),List.take_of_length_le (by omega),limb_out (by omega)];omega
theorem val_set {l:List Int} {j:Nat} (h:j<l.length) (v:Int):val (l.set j v)=val l+10000 ^ j * (v-limb l j):=by
 induction l generalizing j with
 | nil=>simp at h
 | cons x r ih =>
  cases j with
  | zero=>simp[val,limb];omega
  | succ j =>
   simp only[List.set_cons_succ,val]
   rw[ih (by simpa using h)]
   have:limb (x :: r) (j+1)=limb r j:=by simp[limb]
   rw[this]
   grind
theorem limb_set (l:List Int) (j i:Nat) (v:Int) (h:j<l.length):limb (l.set j v) i=if i=j then v else limb l i:=by
 unfold limb
 simp only[List.getD_eq_getElem?_getD,List.getElem?_set]
 by_cases e:j=i
 ·subst e;simp[h]
 ·rw[if_neg e,if_neg (Ne.symm e)]
theorem limb_val {l:List Int} (h:Ok l) (i:Nat):10000 ^ i * limb l i≤val l:=by
 have h1:=val_take_succ l i
 have h2:=(val_bounds (ok_take h i)).1
 have h3:val (l.take (i+1))≤val l:=by
  have e:=val_append (l.take (i+1)) (l.drop (i+1))
  rw[List.take_append_drop] at e
  have h4:=(val_bounds (l:=l.drop (i+1)) (fun x hx=>h x (List.mem_of_mem_drop hx))).1
  have:=Int.mul_nonneg (Int.le_of_lt (pow_pos' (l.take (i+1)).length)) h4
  omega
 omega
theorem trimL_cons (x:Int) (r:List Int):trimL (x :: r)=if trimL r=[] then (if x=0 then [] else [x]) else x :: trimL r:=by
 simp only[trimL,List.reverse_cons,List.dropWhile_append]
 by_cases h:(r.reverse.dropWhile (· == 0))=[]
 ·simp only[h,List.isEmpty_nil,if_true,List.reverse_nil]
  by_cases hx:x=0 <;> simp[hx]
 ·simp[h]
theorem trimL_lim {l:List Int} (h:Ok l):trimL l=lim (val l).toNat:=by
 induction l with
 | nil=>rw[val];simp[lim_zero,trimL]
 | cons x r ih =>
  have ⟨h1,h2⟩:=ok_cons.1 h
  have hv:=(val_bounds h2).1
  rw[trimL_cons,ih h2,val]
  by_cases hz:val r=0
  ·rw[hz]
   simp only[Int.toNat_zero,lim_zero,if_true,Int.mul_zero,Int.add_zero]
   by_cases hx:x=0
   ·subst hx;simp[lim_zero]
   ·rw[if_neg hx,lim_pos (by omega),show x.toNat / 10000=0 by omega,lim_zero]
    congr 1
    omega
  ·have e1:(val r).toNat≠0:=by omega
   rw[if_neg (fun e=>e1 (lim_nil.1 e)),lim_pos (show (x+10000 * val r).toNat≠0 by omega)]
   have e2:(x+10000 * val r).toNat / 10000=(val r).toNat:=by omega
   rw[e2]
   congr 1
   omega
theorem trimL_of_lim (n:Nat):trimL (lim n)=lim n:=by
 rw[trimL_lim (ok_lim n),val_lim]
 rfl
theorem lim_top {n:Nat} (h:n≠0):∃ r x,lim n=r ++ [x]∧x≠0:=by
 rcases List.eq_nil_or_concat (lim n) with e|⟨r,x,e⟩
 ·exact absurd (lim_nil.1 e) h
 ·rw[List.concat_eq_append] at e
  refine⟨r,x,e,?_⟩
  rintro rfl
  have h1:=trimL_of_lim n
  rw[e,trimL_zero] at h1
  have h2:=congrArg List.length h1
  have h3:=congrArg List.length (trimL_prefix r)
  rw[List.length_take] at h3
  simp only[List.length_append,List.length_cons,List.length_nil] at h2
  omega
theorem lim_low {n:Nat} (h:n≠0):(10000:Int) ^ ((lim n).length-1)≤n:=by
 obtain⟨r,x,e,hx⟩:=lim_top h
 have h1:=val_lim n
 have ho:=ok_lim n
 rw[e] at h1 ho ⊢
 rw[val_snoc] at h1
 have ⟨h2,h3⟩:=ok_append.1 ho
 have h4:=(ok_cons.1 h3).1
 have h5:=(val_bounds h2).1
 simp only[List.length_append,List.length_cons,List.length_nil,Nat.add_sub_cancel]
 have h6:(10000:Int) ^ r.length * 1≤10000 ^ r.length * x:=Int.mul_le_mul_of_nonneg_left (by omega) (Int.le_of_lt (pow_pos' _))
 omega
theorem lim_high (n:Nat):(n:Int)<10000 ^ (lim n).length:=by
 have:=(val_bounds (ok_lim n)).2
 rw[val_lim] at this
 exact this
theorem pow_mono' {a b:Nat} (h:a≤b):(10000:Int) ^ a≤10000 ^ b:=by
 obtain⟨d,rfl⟩:∃ d,b=a+d:=⟨b-a,by omega⟩
 rw[Int.pow_add]
 have h1:=pow_pos' a
 have h2:=pow_pos' d
 have:=Int.mul_le_mul_of_nonneg_left (show (1:Int)≤10000 ^ d by omega) (Int.le_of_lt h1)
 omega
theorem lim_len {n k:Nat} (h:(n:Int)<10000 ^ k):(lim n).length≤k:=by
 by_cases h0:n=0
 ·subst h0;rw[lim_zero];simp
 ·have h1:=lim_low h0
  rcases Nat.lt_or_ge k (lim n).length with hk|hk
  ·have:=pow_mono' (a:=k) (b:=(lim n).length-1) (by omega)
   omega
  ·exact hk
theorem cmp_lt' {x y:Int} (h:x<y):Lib.compareInt x y=-1:=by unfold Lib.compareInt;rw[if_pos h]
theorem cmp_gt' {x y:Int} (h:y<x):Lib.compareInt x y=1:=by unfold Lib.compareInt;rw[if_neg (by omega),if_pos h]
theorem cmp_eq' {x y:Int} (h:x=y):Lib.compareInt x y=0:=by unfold Lib.compareInt;rw[if_neg (by omega),if_neg (by omega)]
theorem cmpK_val {a b:List Int} (ha:Ok a) (hb:Ok b):∀ k,cmpK a b k=Lib.compareInt (val (a.take k)) (val (b.take k))
 | 0=>rfl
 | k+1=>by
  rw[cmpK,val_take_succ,val_take_succ,cmpK_val ha hb k]
  have h1:=val_bounds (ok_take ha k)
  have h2:=val_bounds (ok_take hb k)
  have hk:∀ l:List Int,(10000:Int) ^ (l.take k).length≤10000 ^ k:=fun l=>pow_mono' (by rw[List.length_take];omega)
  have h3:=hk a
  have h4:=hk b
  have hp:=pow_pos' k
  generalize (10000:Int) ^ k=p at *
  by_cases e:limb a k=limb b k
  ·rw[if_pos e,e]
   unfold Lib.compareInt
   repeat' split
   all_goals first|rfl|omega
  ·rw[if_neg e]
   rcases Int.lt_or_gt_of_ne e with hl|hl
   ·have:=Int.mul_le_mul_of_nonneg_left (show limb a k+1≤limb b k by omega) (Int.le_of_lt hp)
    rw[Int.mul_add,Int.mul_one] at this
    rw[cmp_lt' hl,cmp_lt' (by omega)]
   ·have:=Int.mul_le_mul_of_nonneg_left (show limb b k+1≤limb a k by omega) (Int.le_of_lt hp)
    rw[Int.mul_add,Int.mul_one] at this
    rw[cmp_gt' hl,cmp_gt' (by omega)]
theorem cmpL_lim (m n:Nat):cmpL (lim m) (lim n)=Lib.compareInt m n:=by
 unfold cmpL
 by_cases h:(lim m).length=(lim n).length
 ·rw[if_pos h,cmpK_val (ok_lim m) (ok_lim n),List.take_of_length_le (nr_ _),h,List.take_of_length_le (nr_ _),val_lim,val_lim]
 ·rw[if_neg h]
  have key:∀ m n:Nat,(lim m).length<(lim n).length→(m:Int)<n:=by
   intro m n hl
   have h0:n≠0:=by rintro rfl;rw[lim_zero] at hl;simp at hl
   have h1:=lim_high m
   have h2:=lim_low h0
   have:=pow_mono' (a:=(lim m).length) (b:=(lim n).length-1) (by omega)
   omega
  rcases Nat.lt_or_gt_of_ne h with hl|hl
  ·rw[cmp_lt' (by omega),cmp_lt' (key m n hl)]
  ·rw[cmp_gt' (by omega),cmp_gt' (key n m hl)]
section
open Pn
theorem w64 {x:Int} (h0:-9223372036854775808≤x) (h1:x<9223372036854775808):wrap64 x=x:=by unfold wrap64;omega
theorem trim_lim {l:List Int} {k:Nat} (ho:Ok l) (hl:l.length≤9223372036854775807) (hk:l.length<k):nat_limbs_trim.f k l=some (lim (val l).toNat):=by
 rw[trim_tells l.length l rfl hl k hk,trimL_lim ho]
theorem at_limb (l:List Int) (i:Nat):nat_limbs_at.f l (i:Int)=some (limb l i):=by
 unfold nat_limbs_at.f
 by_cases h:i<l.length
 ·rw[if_pos (by omega),if_pos (by omega),rd_limb]
 ·rw[if_neg (by omega),limb_out (by omega)]
theorem add_loop {a b:List Int} {s:Int} (hs:s=1∨s=-1) (ha:Ok a) (hb:Ok b) {N:Nat} (hN:N≤1000000000) (hal:a.length≤N) (hbl:b.length≤N)
  (h0:0≤val a+s * val b) (h1:val a+s * val b<10000 ^ N) :
  ∀ (d i:Nat),i+d=N→∀ (out:List Int) (c:Int) (k:Nat),d+N+2≤k→Ok out→out.length=i→-1≤c→c≤1 →
   val out+c * 10000 ^ i=val (a.take i)+s * val (b.take i)→nat_add.l0 k a b s out c (N:Int) (i:Int)=some (lim (val a+s * val b).toNat)
 | 0,i,hi,out,c,k,hk,ho,hol,hc0,hc1,hv=>by
  obtain rfl:i=N:=by omega
  obtain⟨k,rfl⟩:∃ m,k=m+1:=⟨k-1,by omega⟩
  simp only[nat_add.l0]
  rw[if_neg (by omega),trim_lim ho (by omega) (by omega)]
  rw[List.take_of_length_le hal,List.take_of_length_le hbl] at hv
  have ⟨h2,h3⟩:=val_bounds ho
  rw[hol] at h3
  have hp:=pow_pos' i
  have hc:c=0:=by
   rcases (by omega:c=-1∨c=0∨c=1) with rfl|rfl|rfl <;> omega
  subst hc
  rw[Int.zero_mul,Int.add_zero] at hv
  rw[hv]
  rfl
 | d+1,i,hi,out,c,k,hk,ho,hol,hc0,hc1,hv=>by
  obtain⟨k,rfl⟩:∃ m,k=m+1:=⟨k-1,by omega⟩
  simp only[nat_add.l0]
  rw[if_pos (by omega),at_limb,at_limb]
  simp only[ob_]
  have hta:=val_take_succ a i
  have htb:=val_take_succ b i
  have hx:=limb_ok ha i
  have hy:=limb_ok hb i
  generalize limb a i=x at *
  generalize limb b i=y at *
  have hsy:-9999≤s * y∧s * y≤9999:=by rcases hs with rfl|rfl <;> omega
  rw[w64 (x:=s * y) (by omega) (by omega),w64 (x:=x+s * y) (by omega) (by omega),w64 (x:=x+s * y+c) (by omega) (by omega)]
  have key:∀ (v c':Int),0≤v→v<10000→-1≤c'→c'≤1→v+10000 * c'=x+s * y+c→nat_add.l0 k a b s (out ++ [v]) c' (N:Int) (wrap64 ((i:Int)+1))=some (lim (val a+s * val b).toNat):=by
   intro v c' hv0 hv1 hc0' hc1' he
   rw[w64 (by omega) (by omega)]
   refine add_loop hs ha hb hN hal hbl h0 h1 d (i+1) (by omega) _ c' k (by omega) (ok_snoc ho hv0 hv1) (by simp[hol]) hc0' hc1' ?_
   rw[val_snoc,hol,hta,htb,Int.pow_succ]
   generalize (10000:Int) ^ i=p at *
   have e:v=x+s * y+c-10000 * c':=by omega
   subst e
   grind
  by_cases hn:x+s * y+c<0
  ·rw[if_pos hn,w64 (x:=x+s * y+c+10000) (by omega) (by omega),if_neg (by omega),if_pos (by omega)]
   exact key _ (-1) (by omega) (by omega) (by omega) (by omega) (by omega)
  ·rw[if_neg hn]
   by_cases hn2:x+s * y+c≥10000
   ·rw[if_pos hn2,if_pos (by omega),w64 (x:=x+s * y+c-10000) (by omega) (by omega)]
    exact key _ 1 (by omega) (by omega) (by omega) (by omega) (by omega)
   ·rw[if_neg hn2,if_pos (by omega)]
    exact key _ 0 (by omega) (by omega) (by omega) (by omega) (by omega)
theorem mx_nat (m n:Nat):mx (m:Int) (n:Int)=((max m n:Nat):Int):=by unfold mx;split <;> omega
theorem add_tells {a b:List Int} {s:Int} (hs:s=1∨s=-1) (ha:Ok a) (hb:Ok b) (hal:a.length≤100000000) (hbl:b.length≤100000000) (h0:0≤val a+s * val b) (k:Nat) (hk:300000000≤k) :
  nat_add.f k a b s=some (lim (val a+s * val b).toNat):=by
 unfold nat_add.f
 have hN:wrap64 (mx (a.length:Int) (b.length:Int)+1)=((max a.length b.length+1:Nat):Int):=by
  rw[mx_nat,w64 (by omega) (by omega)]
  omega
 rw[hN,if_pos (by omega),if_pos (by omega)]
 have hva:=(val_bounds ha).2
 have hvb:=(val_bounds hb).2
 have hvb0:=(val_bounds hb).1
 have p1:=pow_mono' (a:=a.length) (b:=max a.length b.length) (by omega)
 have p2:=pow_mono' (a:=b.length) (b:=max a.length b.length) (by omega)
 refine add_loop hs ha hb (by omega) (by omega) (by omega) h0 ?_ (max a.length b.length+1) 0 (by omega) [] 0 k (by omega) ok_nil rfl (by omega) (by omega) (by simp[val])
 rw[Int.pow_succ]
 rcases hs with rfl|rfl <;> omega
theorem mul_alg {p r u q c x n y V B0 T t:Int} (hv:V+c * (p * r)=B0+n * T * p) (hq:c+(x+n * y)=q) (ht:t=q-10000 * u):V+p * r * (t-x)+u * (p * r * 10000)=B0+n * (T+r * y) * p:=by
 subst ht
 subst hq
 have e:V=B0+n * T * p-c * (p * r):=by omega
 subst e
 grind
theorem mul_inner {a b:List Int} {n:Int} {i L:Nat} {R:Option (List Int)} (hb:Ok b) (hn:0≤n∧n<10000) (hL:L≤1000000000) (hi:i+b.length+1≤L) {B0:Int} {need:Nat}
  (H:∀ (out:List Int) (k:Nat) (c:Int),need≤k→Ok out→out.length=L→0≤c→val out+c * 10000 ^ (i+b.length+1)=B0+n * val b * 10000 ^ i→nat_mul.l0 k b out a (a.length:Int) ((i:Int)+1)=R) :
  ∀ (d j:Nat),j+d=b.length+1→∀ (out:List Int) (c:Int) (k:Nat),d+1+need≤k→Ok out→out.length=L→0≤c→c<10000 →
   val out+c * 10000 ^ (i+j)=B0+n * val (b.take j) * 10000 ^ i→nat_mul.l1 k b out (i:Int) n c a (a.length:Int) (i:Int) ((b.length:Int)+1) (j:Int)=R
 | 0,j,hj,out,c,k,hk,ho,hol,hc0,hc1,hv=>by
  obtain rfl:j=b.length+1:=by omega
  obtain⟨k,rfl⟩:∃ m,k=m+1:=⟨k-1,by omega⟩
  simp only[nat_mul.l1]
  rw[if_neg (by omega),w64 (by omega) (by omega)]
  rw[List.take_of_length_le (by omega)] at hv
  exact H out k c (by omega) ho hol hc0 hv
 | d+1,j,hj,out,c,k,hk,ho,hol,hc0,hc1,hv=>by
  have HV:=Lib.hid hv
  clear hv
  obtain⟨k,rfl⟩:∃ m,k=m+1:=⟨k-1,by omega⟩
  have hij:wrap64 ((i:Int)+(j:Int))=((i+j:Nat):Int):=by rw[w64 (by omega) (by omega)];omega
  simp only[nat_mul.l1]
  rw[hij]
  clear hij
  have g1:(j:Int)<(b.length:Int)+1:=by omega
  have g2:(0:Int)≤((i+j:Nat):Int):=by omega
  have g3:((i+j:Nat):Int)<(out.length:Int):=by omega
  rw[if_pos g1]
  rw[if_pos g2]
  rw[if_pos g3]
  rw[at_limb,rd_limb,Int.toNat_natCast]
  simp only[ob_]
  have htb:=val_take_succ b j
  have hy:=limb_ok hb j
  have hx:=limb_ok ho (i+j)
  have hset:=fun v=>val_set (l:=out) (j:=i+j) (by omega) v
  generalize limb b j=y at *
  generalize limb out (i+j)=x at *
  have hny0:0≤n * y:=Int.mul_nonneg hn.1 hy.1
  have hny1:n * y≤9999 * 9999:=by
   have h1:=Int.mul_le_mul (show n≤9999 by omega) (show y≤9999 by omega) hy.1 (by omega:(0:Int)≤9999)
   exact h1
  rw[w64 (x:=n * y) (by omega) (by omega),w64 (x:=x+n * y) (by omega) (by omega),w64 (x:=c+(x+n * y)) (by omega) (by omega)]
  generalize hq:c+(x+n * y)=q at *
  have hq0:0≤q:=by omega
  rw[Int.tmod_eq_emod_of_nonneg hq0,Int.tdiv_eq_ediv_of_nonneg hq0,w64 (x:=q / 10000) (by omega) (by omega),w64 (by omega) (by omega)]
  refine mul_inner hb hn hL hi H d (j+1) (by omega) _ _ k (by omega) (ok_set ho _ (by omega) (by omega)) (by simp[hol]) (by omega) (by omega) ?_
  rw[hset,htb,show i+(j+1)=(i+j)+1 by omega,Int.pow_succ,Int.pow_add]
  have hv:=HV.out
  rw[Int.pow_add] at hv
  have e:=Int.mul_ediv_add_emod q 10000
  exact mul_alg hv hq (by omega)
theorem mul_outer {a b:List Int} (ha:Ok a) (hb:Ok b) {L:Nat} (hL:L≤1000000000) (hab:a.length+b.length+1=L) :
  ∀ (d i:Nat),i+d=a.length→∀ (out:List Int) (k:Nat),d * (b.length+4)+L+2≤k→Ok out→out.length=L→val out=val (a.take i) * val b→nat_mul.l0 k b out a (a.length:Int) (i:Int)=some (lim (val a * val b).toNat)
 | 0,i,hi,out,k,hk,ho,hol,hv=>by
  obtain rfl:i=a.length:=by omega
  obtain⟨k,rfl⟩:∃ m,k=m+1:=⟨k-1,by omega⟩
  simp only[nat_mul.l0]
  rw[if_neg (by omega),trim_lim ho (by omega) (by omega)]
  rw[List.take_of_length_le (by omega)] at hv
  rw[hv]
  rfl
 | d+1,i,hi,out,k,hk,ho,hol,hv=>by
  obtain⟨k,rfl⟩:∃ m,k=m+1:=⟨k-1,by omega⟩
  simp only[nat_mul.l0]
  rw[if_pos (by omega),if_pos (by omega),if_pos (by omega),rd_limb,w64 (x:=(b.length:Int)+1) (by omega) (by omega)]
  rw[Nat.add_mul] at hk
  have hx:=limb_ok ha i
  have hta:=val_take_succ a i
  refine mul_inner (B0:=val out) (need:=d * (b.length+4)+L+2) hb hx hL (by omega) ?_ (b.length+1) 0 (by omega) out 0 k (by omega) ho hol (by omega) (by omega) (by simp[val])
  intro out' k' c hk' ho' hol' hc0 hv'
  have hvb:=val_bounds hb
  have hva:=val_bounds (ok_take ha (i+1))
  have hlen:(a.take (i+1)).length=i+1:=by rw[List.length_take];omega
  rw[hlen] at hva
  have hval:val out'+c * 10000 ^ (i+b.length+1)=val (a.take (i+1)) * val b:=by
   rw[hv',hv,hta]
   grind
  have hc:c=0:=by
   have h1:val (a.take (i+1)) * val b<10000 ^ (i+b.length+1):=by
    have h2:val (a.take (i+1)) * val b≤val (a.take (i+1)) * 10000 ^ b.length:=Int.mul_le_mul_of_nonneg_left (by omega) hva.1
    have h3:val (a.take (i+1)) * 10000 ^ b.length<10000 ^ (i+1) * 10000 ^ b.length:=Int.mul_lt_mul_of_pos_right hva.2 (pow_pos' _)
    rw[← Int.pow_add,show i+1+b.length=i+b.length+1 by omega] at h3
    omega
   have h2:=(val_bounds ho').1
   rcases Int.lt_or_le 0 c with hp|hp
   ·have:=Int.mul_le_mul_of_nonneg_right (show 1≤c by omega) (Int.le_of_lt (pow_pos' (i+b.length+1)))
    omega
   ·omega
  subst hc
  rw[Int.zero_mul,Int.add_zero] at hval
  have:=mul_outer ha hb hL hab d (i+1) (by omega) out' k' hk' ho' hol' hval
  rw[show ((i:Int)+1)=((i+1:Nat):Int) by omega]
  exact this
theorem mul_tells {a b:List Int} (ha:Ok a) (hb:Ok b) (hal:a.length≤100000000) (hbl:b.length≤100000000) (k:Nat) (hk:a.length * (b.length+4)+a.length+b.length+3≤k):nat_mul.f k a b=some (lim (val a * val b).toNat):=by
 unfold nat_mul.f
 have hN:wrap64 (wrap64 ((a.length:Int)+(b.length:Int))+1)=((a.length+b.length+1:Nat):Int):=by
  rw[w64 (x:=(a.length:Int)+(b.length:Int)) (by omega) (by omega),w64 (by omega) (by omega)]
  omega
 rw[hN,if_pos (by omega),if_pos (by omega),Int.toNat_natCast]
 exact mul_outer ha hb (L:=a.length+b.length+1) (by omega) rfl a.length 0 (by omega) _ k (by omega) (ok_replicate _) (by simp) (by simp[val_replicate,val])
end
section
open Pt
theorem at_limb' (l:List Int) (i:Nat):Pt.nat_limbs_at.f l (i:Int)=some (limb l i):=at_limb l i
theorem step_alg {p r u q c x B0 T t e:Int} (hv:x+c * (p * r)=B0+T * p) (hq:e+c=q) (ht:t+10000 * u=q) (L:Int):x+p * r * (L+t-L)+u * (p * r * 10000)=B0+(T+r * e) * p:=by
 have e1:t=e+c-10000 * u:=by omega
 subst e1
 have e2:x=B0+T * p-c * (p * r):=by omega
 subst e2
 grind
theorem take_loop {v:List Int} {q:Int} {at_:Nat} (hv:Ok v) (hq:0≤q∧q≤10000) {L:Nat} (hL:L≤1000000000) (hL2:at_+v.length+1≤L) {B0:Int} {u0:List Int} :
  ∀ (d j:Nat),j+d=v.length+1→∀ (u:List Int) (c:Int) (k:Nat),d+1≤k→Ok u→u.length=L→-10001≤c→c≤0→(∀ i,at_+v.length+1≤i→limb u i=limb u0 i) →
   val u+c * 10000 ^ (at_+j)=B0+(-q * val (v.take j)) * 10000 ^ at_ →
   ∃ u' c',nat_take.l0 k u v (at_:Int) q c ((v.length:Int)+1) (j:Int)=some (c',u')∧Ok u'∧u'.length=L∧-10001≤c'∧c'≤0∧(∀ i,at_+v.length+1≤i→limb u' i=limb u0 i) ∧
    val u'+c' * 10000 ^ (at_+v.length+1)=B0+(-q * val v) * 10000 ^ at_
 | 0,j,hj,u,c,k,hk,ho,hol,hc0,hc1,hsame,hval=>by
  obtain rfl:j=v.length+1:=by omega
  obtain⟨k,rfl⟩:∃ m,k=m+1:=⟨k-1,by omega⟩
  simp only[nat_take.l0]
  have g1:¬ ((v.length+1:Nat):Int)<(v.length:Int)+1:=by omega
  rw[if_neg g1]
  rw[List.take_of_length_le (by omega)] at hval
  exact⟨u,c,rfl,ho,hol,hc0,hc1,hsame,hval⟩
 | d+1,j,hj,u,c,k,hk,ho,hol,hc0,hc1,hsame,hval=>by
  have HV:=Lib.hid hval
  clear hval
  obtain⟨k,rfl⟩:∃ m,k=m+1:=⟨k-1,by omega⟩
  have hij:wrap64 ((at_:Int)+(j:Int))=((at_+j:Nat):Int):=by rw[w64 (by omega) (by omega)];omega
  simp only[nat_take.l0]
  rw[hij]
  clear hij
  have g1:(j:Int)<(v.length:Int)+1:=by omega
  have g2:(0:Int)≤((at_+j:Nat):Int):=by omega
  have g3:((at_+j:Nat):Int)<(u.length:Int):=by omega
  rw[if_pos g1]
  rw[if_pos g2]
  rw[if_pos g3]
  rw[at_limb',rd_limb,Int.toNat_natCast]
  simp only[ob_]
  have htb:=val_take_succ v j
  have hy:=limb_ok hv j
  have hx:=limb_ok ho (at_+j)
  have hset:=fun z=>val_set (l:=u) (j:=at_+j) (by omega) z
  have hlset:=fun z i=>limb_set u (at_+j) i z (by omega)
  generalize limb v j=y at *
  generalize limb u (at_+j)=x at *
  have hqy0:0≤q * y:=Int.mul_nonneg hq.1 hy.1
  have hqy1:q * y≤10000 * 9999:=by
   have h1:=Int.mul_le_mul (show q≤10000 by omega) (show y≤9999 by omega) hy.1 (by omega:(0:Int)≤10000)
   exact h1
  rw[w64 (x:=q * y) (by omega) (by omega),w64 (x:=x-q * y) (by omega) (by omega),w64 (x:=x-q * y+c) (by omega) (by omega)]
  generalize hn:x-q * y+c=n at *
  have hn0:-100020000≤n:=by omega
  have hn1:n≤9999:=by omega
  have key:∀ c' t:Int,-10001≤c'→c'≤0→0≤t→t<10000→t+10000 * c'=n→∃ u' c'',nat_take.l0 k (u.set (at_+j) t) v (at_:Int) q c' ((v.length:Int)+1) ((j+1:Nat):Int)=some (c'',u')∧Ok u'∧u'.length=L∧-10001≤c''∧c''≤0∧(∀ i,at_+v.length+1≤i→limb u' i=limb u0 i)∧val u'+c'' * 10000 ^ (at_+v.length+1)=B0+(-q * val v) * 10000 ^ at_:=by
   intro c' t h1 h2 h3 h4 h5
   refine take_loop hv hq hL hL2 d (j+1) (by omega) _ c' k (by omega) (ok_set ho _ h3 h4) (by simp[hol]) h1 h2 ?_ ?_
   ·intro i hi
    rw[hlset,if_neg (by omega)]
    exact hsame i hi
   ·rw[hset,htb,show at_+(j+1)=(at_+j)+1 by omega,Int.pow_succ,Int.pow_add]
    have hval:=HV.out
    rw[Int.pow_add] at hval
    have h6:=step_alg (e:=x-q * y) hval hn h5 x
    generalize (10000:Int) ^ at_ = p at *
    generalize (10000:Int) ^ j=r at *
    subst hn
    have h7:t=x-q * y+c-10000 * c':=by omega
    subst h7
    have h8:val u=B0 + -q * val (v.take j) * p-c * (p * r):=by omega
    rw[h8]
    grind
  have hj1:wrap64 ((j:Int)+1)=((j+1:Nat):Int):=by rw[w64 (by omega) (by omega)];omega
  rw[hj1]
  clear hj1
  by_cases hneg:n<0
  ·rw[if_pos hneg,w64 (x:=-n) (by omega) (by omega),w64 (x:=-n+10000) (by omega) (by omega),w64 (x:=-n+10000-1) (by omega) (by omega),Int.tdiv_eq_ediv_of_nonneg (by omega),w64 (x:=(-n+10000-1) / 10000) (by omega) (by omega),w64 (x:=-((-n+10000-1) / 10000)) (by omega) (by omega),w64 (x:=-((-n+10000-1) / 10000) * 10000) (by omega) (by omega),w64 (x:=n - -((-n+10000-1) / 10000) * 10000) (by omega) (by omega)]
   exact key _ _ (by omega) (by omega) (by omega) (by omega) (by omega)
  ·rw[if_neg hneg,w64 (x:=n-0 * 10000) (by omega) (by omega)]
   exact key _ _ (by omega) (by omega) (by omega) (by omega) (by omega)
theorem give_loop {v:List Int} {at_:Nat} (hv:Ok v) {L:Nat} (hL:L≤1000000000) (hL2:at_+v.length+1≤L) {B0:Int} {u0:List Int} :
  ∀ (d j:Nat),j+d=v.length+1→∀ (u:List Int) (c:Int) (k:Nat),d+1≤k→Ok u→u.length=L→0≤c→c≤1→(∀ i,at_+v.length+1≤i→limb u i=limb u0 i) →
   val u+c * 10000 ^ (at_+j)=B0+val (v.take j) * 10000 ^ at_ →
   ∃ u' c',nat_give.l0 k u v (at_:Int) c ((v.length:Int)+1) (j:Int)=some u'∧Ok u'∧u'.length=L∧0≤c'∧c'≤1∧(∀ i,at_+v.length+1≤i→limb u' i=limb u0 i) ∧
    val u'+c' * 10000 ^ (at_+v.length+1)=B0+val v * 10000 ^ at_
 | 0,j,hj,u,c,k,hk,ho,hol,hc0,hc1,hsame,hval=>by
  obtain rfl:j=v.length+1:=by omega
  obtain⟨k,rfl⟩:∃ m,k=m+1:=⟨k-1,by omega⟩
  simp only[nat_give.l0]
  have g1:¬ ((v.length+1:Nat):Int)<(v.length:Int)+1:=by omega
  rw[if_neg g1]
  rw[List.take_of_length_le (by omega)] at hval
  exact⟨u,c,rfl,ho,hol,hc0,hc1,hsame,hval⟩
 | d+1,j,hj,u,c,k,hk,ho,hol,hc0,hc1,hsame,hval=>by
  have HV:=Lib.hid hval
  clear hval
  obtain⟨k,rfl⟩:∃ m,k=m+1:=⟨k-1,by omega⟩
  have hij:wrap64 ((at_:Int)+(j:Int))=((at_+j:Nat):Int):=by rw[w64 (by omega) (by omega)];omega
  simp only[nat_give.l0]
  rw[hij]
  clear hij
  have g1:(j:Int)<(v.length:Int)+1:=by omega
  have g2:(0:Int)≤((at_+j:Nat):Int):=by omega
  have g3:((at_+j:Nat):Int)<(u.length:Int):=by omega
  rw[if_pos g1]
  rw[if_pos g2]
  rw[if_pos g3]
  rw[at_limb',rd_limb,Int.toNat_natCast]
  simp only[ob_]
  have htb:=val_take_succ v j
  have hy:=limb_ok hv j
  have hx:=limb_ok ho (at_+j)
  have hset:=fun z=>val_set (l:=u) (j:=at_+j) (by omega) z
  have hlset:=fun z i=>limb_set u (at_+j) i z (by omega)
  generalize limb v j=y at *
  generalize limb u (at_+j)=x at *
  have hj1:wrap64 ((j:Int)+1)=((j+1:Nat):Int):=by rw[w64 (by omega) (by omega)];omega
  rw[hj1]
  clear hj1
  rw[w64 (x:=x+y) (by omega) (by omega),w64 (x:=x+y+c) (by omega) (by omega)]
  generalize hn:x+y+c=n at *
  have hn0:0≤n:=by omega
  rw[Int.tmod_eq_emod_of_nonneg hn0,Int.tdiv_eq_ediv_of_nonneg hn0,w64 (x:=n / 10000) (by omega) (by omega)]
  have h5:n % 10000+10000 * (n / 10000)=n:=by omega
  have h1:0≤n / 10000:=by omega
  have h2:n / 10000≤1:=by omega
  have h3:0≤n % 10000:=by omega
  have h4:n % 10000<10000:=by omega
  generalize n % 10000=t at *
  generalize n / 10000=c' at *
  refine give_loop hv hL hL2 d (j+1) (by omega) _ c' k (by omega) (ok_set ho _ h3 h4) (by simp[hol]) h1 h2 ?_ ?_
  ·intro i hi
   rw[hlset,if_neg (by omega)]
   exact hsame i hi
  ·rw[hset,htb,show at_+(j+1)=(at_+j)+1 by omega,Int.pow_succ,Int.pow_add]
   have hval:=HV.out
   rw[Int.pow_add] at hval
   generalize (10000:Int) ^ at_ = p at *
   generalize (10000:Int) ^ j=r at *
   have h7:t=x+y+c-10000 * c':=by omega
   subst h7
   have h8:val u=B0+val (v.take j) * p-c * (p * r):=by omega
   rw[h8]
   grind
theorem take_tells {u v:List Int} {q:Int} {at_:Nat} (hu:Ok u) (hv:Ok v) (hq:0≤q∧q≤10000) (hL:u.length≤1000000000) (hL2:at_+v.length+1≤u.length) (k:Nat) (hk:v.length+2≤k) :
  ∃ u' c',nat_take.f k u v (at_:Int) q=some (c',u')∧Ok u'∧u'.length=u.length∧-10001≤c'∧c'≤0∧(∀ i,at_+v.length+1≤i→limb u' i=limb u i) ∧
    val u'+c' * 10000 ^ (at_+v.length+1)=val u+(-q * val v) * 10000 ^ at_:=by
 unfold nat_take.f
 rw[w64 (by omega) (by omega)]
 exact take_loop (B0:=val u) (u0:=u) hv hq hL hL2 (v.length+1) 0 (by omega) u 0 k (by omega) hu rfl (by omega) (by omega) (fun _ _=>rfl) (by simp[val])
theorem give_tells {u v:List Int} {at_:Nat} (hu:Ok u) (hv:Ok v) (hL:u.length≤1000000000) (hL2:at_+v.length+1≤u.length) (k:Nat) (hk:v.length+2≤k) :
  ∃ u' c',nat_give.f k u v (at_:Int)=some u'∧Ok u'∧u'.length=u.length∧0≤c'∧c'≤1∧(∀ i,at_+v.length+1≤i→limb u' i=limb u i) ∧
    val u'+c' * 10000 ^ (at_+v.length+1)=val u+val v * 10000 ^ at_:=by
 unfold nat_give.f
 rw[w64 (by omega) (by omega)]
 exact give_loop (B0:=val u) (u0:=u) hv hL hL2 (v.length+1) 0 (by omega) u 0 k (by omega) hu rfl (by omega) (by omega) (fun _ _=>rfl) (by simp[val])
end
theorem val_drop {l:List Int} {i:Nat} (h:i<l.length):val (l.drop i)=limb l i+10000 * val (l.drop (i+1)):=by
 rw[List.drop_eq_getElem_cons h,val]
 simp[limb,h]
structure ShortInv (l:List Int) (n:Int) (k:Nat) (s:List Int×Int):Prop where
 len:s.1.length=l.length
 ok:Ok s.1
 low:∀ i,i<l.length-k→limb s.1 i=0
 quo:val s.1=10000 ^ (l.length-k) * (val (l.drop (l.length-k)) / n)
 rest:s.2=val (l.drop (l.length-k)) % n
theorem short_inv {l:List Int} {n:Int} (hl:Ok l) (hn:0<n):∀ k,k≤l.length→ShortInv l n k ((upto l.length k).foldl (sstep l n) (List.replicate l.length 0,0))
 | 0,_=>by
  refine⟨by simp[upto],by simpa [upto] using ok_replicate _,?_,?_,?_⟩
  ·intro i hi
   simp only[upto,List.range_zero,List.map_nil,List.foldl_nil,limb,List.getD_eq_getElem?_getD,List.getElem?_replicate]
   split <;> rfl
  ·simp[upto,val_replicate,val]
  ·simp[upto,val]
 | k+1,hk=>by
  have ⟨h1,h2,h3,h4,h5⟩:=short_inv hl hn k (by omega)
  rw[upto_succ,List.foldl_append]
  generalize (upto l.length k).foldl (sstep l n) (List.replicate l.length 0,0)=s at h1 h2 h3 h4 h5 ⊢
  obtain⟨o,r⟩:=s
  dsimp only at h1 h2 h3 h4 h5
  simp only[List.foldl_cons,List.foldl_nil,sstep]
  obtain⟨i,hi⟩:∃ i,l.length-1-k=i:=⟨_,rfl⟩
  have hi1:l.length-k=i+1:=by omega
  have hi2:l.length-(k+1)=i:=by omega
  rw[hi1] at h3 h4 h5
  rw[hi]
  have hil:i<l.length:=by omega
  have hd:=val_drop hil
  generalize val (l.drop (i+1))=v at *
  have hx:=limb_ok hl i
  generalize limb l i=x at *
  have hr0:=Int.emod_nonneg v (show n≠0 by omega)
  have hr1:=Int.emod_lt_of_pos v hn
  have hdm:=Int.mul_ediv_add_emod v n
  rw[← h5] at hr0 hr1 hdm
  generalize hQ:v / n=Q at *
  have e1:x+10000 * v=(r * 10000+x)+n * (10000 * Q):=by rw[← hdm];grind
  have e2:(x+10000 * v) / n=(r * 10000+x) / n+10000 * Q:=by rw[e1,Int.add_mul_ediv_left _ _ (by omega)]
  have e3:(x+10000 * v) % n=(r * 10000+x) % n:=by rw[e1,Int.add_mul_emod_self_left]
  have hq0:0≤(r * 10000+x) / n:=Int.ediv_nonneg (by omega) (by omega)
  have hq1:(r * 10000+x) / n<10000:=by
   apply Int.ediv_lt_of_lt_mul hn
   have:=Int.mul_le_mul_of_nonneg_left (show r+1≤n by omega) (show (0:Int)≤10000 by omega)
   omega
  refine⟨by simp[h1],ok_set h2 _ hq0 hq1,?_,?_,?_⟩
  ·intro j hj
   rw[hi2] at hj
   rw[limb_set _ _ _ _ (by omega),if_neg (by omega)]
   exact h3 j (by omega)
  ·dsimp only
   rw[hi2,val_set (by omega),h4,h3 i (by omega),hd,e2,Int.pow_succ]
   grind
  ·rw[hi2,hd,e3]
theorem short_law {l:List Int} {n:Int} (hl:Ok l) (hn:0<n) (hn2:n≤10000):trimL (shortL l n).1=lim (val l / n).toNat∧trimL [(shortL l n).2]=lim (val l % n).toNat:=by
 have ⟨h1,h2,h3,h4,h5⟩:=short_inv hl hn l.length (nr_ _)
 have e:(upto l.length l.length).foldl (sstep l n) (List.replicate l.length 0,0)=shortL l n:=rfl
 rw[e] at h1 h2 h3 h4 h5
 rw[Nat.sub_self] at h4 h5
 simp only[Int.pow_zero,Int.one_mul,List.drop_zero] at h4 h5
 refine⟨?_,?_⟩
 ·rw[trimL_lim h2,h4]
 ·have hr0:=Int.emod_nonneg (val l) (show n≠0 by omega)
  have hr1:=Int.emod_lt_of_pos (val l) hn
  rw[trimL_lim (ok_cons.2 ⟨⟨by omega,by omega⟩,ok_nil⟩),val,val,h5]
  simp
theorem kn_upper {t V S U Q W H:Int} (hS:0<S) (hQ:0<Q) (ht0:0≤t) (h1:t * V * S≤U) (h2:U<S * Q * (H+1)) (h3:Q * W≤V):t * W≤H:=by
 have h4:t * (Q * W)≤t * V:=Int.mul_le_mul_of_nonneg_left h3 ht0
 have h5:t * (Q * W) * S≤t * V * S:=Int.mul_le_mul_of_nonneg_right h4 (Int.le_of_lt hS)
 have hSQ:0<S * Q:=Int.mul_pos hS hQ
 have h6:S * Q * (t * W)<S * Q * (H+1):=by
  have e:S * Q * (t * W)=t * (Q * W) * S:=by grind
  omega
 have:=Int.lt_of_mul_lt_mul_left h6 (Int.le_of_lt hSQ)
 omega
theorem kn_lower {q t V S U Q W H:Int} (hS:0<S) (hQ:0<Q) (hV:0<V) (hq0:0≤q) (hqW:q≤W) (h1:U<(t+1) * V * S) (h2:S * Q * H≤U) (h3:Q * W≤V) (h4:V≤Q * W+Q) (h5:q * W≤H):q≤t+1:=by
 have h6:q * V≤q * (Q * W+Q):=Int.mul_le_mul_of_nonneg_left h4 hq0
 have h7:Q * (q * W)≤Q * H:=Int.mul_le_mul_of_nonneg_left h5 (Int.le_of_lt hQ)
 have h8:Q * q≤Q * W:=Int.mul_le_mul_of_nonneg_left hqW (Int.le_of_lt hQ)
 have h9:(q-1) * V≤Q * H:=by
  have e1:q * (Q * W+Q)=Q * (q * W)+Q * q:=by grind
  have e2:(q-1) * V=q * V-V:=by grind
  omega
 have h10:(q-1) * V * S≤Q * H * S:=Int.mul_le_mul_of_nonneg_right h9 (Int.le_of_lt hS)
 have h11:(q-1) * (V * S)<(t+1) * (V * S):=by
  have e1:(q-1) * (V * S)=(q-1) * V * S:=by grind
  have e2:(t+1) * (V * S)=(t+1) * V * S:=by grind
  have e3:Q * H * S=S * Q * H:=by grind
  omega
 have:=Int.lt_of_mul_lt_mul_right h11 (Int.le_of_lt (Int.mul_pos hV hS))
 omega
theorem kn_top {U V S Q u3 u2 u1 v1 v2:Int} (hS:0<S) (hQ:0<Q) (h1:U<V * S * 10000) (h2:S * Q * (u1+10000 * (u2+10000 * u3))≤U) (h4:V≤Q * (v2+10000 * v1)+Q) (hu2:0≤u2) (hu1:0≤u1) (hv2:v2<10000):u3≤v1:=by
 have hSQ:0<S * Q:=Int.mul_pos hS hQ
 have h5:V * (S * 10000)≤(Q * (v2+10000 * v1)+Q) * (S * 10000):=Int.mul_le_mul_of_nonneg_right h4 (by omega)
 have h6:S * Q * (u1+10000 * (u2+10000 * u3))<S * Q * ((v2+10000 * v1+1) * 10000):=by
  have e1:V * S * 10000=V * (S * 10000):=by grind
  have e2:(Q * (v2+10000 * v1)+Q) * (S * 10000)=S * Q * ((v2+10000 * v1+1) * 10000):=by grind
  omega
 have:=Int.lt_of_mul_lt_mul_left h6 (Int.le_of_lt hSQ)
 omega
section
open Pt
theorem val_low {u:List Int} {J:Nat} (h:∀ i,J≤i→limb u i=0):val u=val (u.take J):=by
 have key:∀ d,val (u.take (J+d))=val (u.take J):=by
  intro d
  induction d with
  | zero=>rfl
  | succ d ih=>rw[show J+(d+1)=(J+d)+1 by omega,val_take_succ,ih,h (J+d) (by omega)];omega
 have h2:=key u.length
 rw[List.take_of_length_le (by omega)] at h2
 exact h2
theorem low_lt {u:List Int} {J:Nat} (ho:Ok u) (h:∀ i,J≤i→limb u i=0):val u<10000 ^ J:=by
 rw[val_low h]
 have h1:=(val_bounds (ok_take ho J)).2
 have h2:=pow_mono' (a:=(u.take J).length) (b:=J) (by rw[List.length_take];omega)
 omega
theorem high_zero {u:List Int} {J:Nat} (ho:Ok u) (h:val u<10000 ^ J) (i:Nat) (hi:J≤i):limb u i=0:=by
 have h1:=limb_val ho i
 have h2:=pow_mono' hi
 have h3:=limb_ok ho i
 rcases Int.lt_or_le 0 (limb u i) with hp|hp
 ·have:=Int.mul_le_mul_of_nonneg_left (show 1≤limb u i by omega) (Int.le_of_lt (pow_pos' i))
  omega
 ·omega
theorem j3_step {u v out scale:List Int} {j n L need:Nat} {t q:Int} {R:Option (List Int×List Int)} (hu:Ok u) (hv:Ok v) (hn:v.length=n) (hul:u.length=L) (hL:L≤1000000000) (hj:j+n+1≤L) (hjo:j<out.length)
  (hlow:val u<10000 ^ (j+n+1)) (ht1:t * val v * 10000 ^ j≤val u) (ht2:val u<(t+1) * val v * 10000 ^ j) (hVS:val v * 10000 ^ j≤10000 ^ (j+n+1)) (hVp:0<val v)
  (hq1:t≤q) (hq2:q≤t+1) (hq3:0≤q) (hq4:q≤9999)
  (H:∀ (u':List Int) (k:Nat),need≤k→Ok u'→u'.length=L→val u'=val u-t * val v * 10000 ^ j→nat_div.l0 k scale u' v (n:Int) (out.set j t) ((j:Int)-1)=R)
  (k:Nat) (hk:need+n+3≤k):nat_div.j3 k scale u v (n:Int) out (j:Int) q=R:=by
 obtain⟨k,rfl⟩:∃ m,k=m+1:=⟨k-1,by omega⟩
 simp only[nat_div.j3]
 obtain⟨u1,c1,e1,ho1,hl1,hc1,hc2,hs1,hv1⟩:=take_tells (u:=u) (v:=v) (q:=q) (at_:=j) hu hv ⟨hq3,by omega⟩ (by omega) (by omega) k (by omega)
 rw[e1]
 simp only[ob_]
 have hz0:=high_zero hu hlow
 rw[hn] at hs1 hv1
 have hz1:∀ i,j+n+1≤i→limb u1 i=0:=fun i hi=>(hs1 i hi).trans (hz0 i hi)
 have hlt1:=low_lt ho1 hz1
 have hge1:=(val_bounds ho1).1
 have g1:(0:Int)≤(j:Int):=by omega
 have g2:(j:Int)<(out.length:Int):=by omega
 have hS:=pow_pos' j
 have hdist:∀ z:Int,(z+1) * val v * 10000 ^ j=z * val v * 10000 ^ j+val v * 10000 ^ j:=by intro z;grind
 have hneg:-q * val v * 10000 ^ j=-(q * val v * 10000 ^ j):=by grind
 have hmon:∀ x y:Int,x≤y→x * val v * 10000 ^ j≤y * val v * 10000 ^ j:=fun x y h=>Int.mul_le_mul_of_nonneg_right (Int.mul_le_mul_of_nonneg_right h (Int.le_of_lt hVp)) (Int.le_of_lt hS)
 rw[w64 (x:=(j:Int)-1) (by omega) (by omega)]
 by_cases hc:c1<0
 ·rw[if_pos hc]
  obtain⟨u2,c3,e2,ho2,hl2,hc3,hc4,hs2,hv2⟩:=give_tells (u:=u1) (v:=v) (at_:=j) ho1 hv (by omega) (by omega) k (by omega)
  rw[e2]
  simp only[ob_]
  rw[if_pos g1,if_pos g2,Int.toNat_natCast,w64 (x:=q-1) (by omega) (by omega)]
  rw[hn] at hs2 hv2
  have hz2:∀ i,j+n+1≤i→limb u2 i=0:=fun i hi=>(hs2 i hi).trans (hz1 i hi)
  have hlt2:=low_lt ho2 hz2
  have hge2:=(val_bounds ho2).1
  have hP:=pow_pos' (j+n+1)
  generalize (10000:Int) ^ (j+n+1)=P at *
  have hcP:c1 * P≤-1 * P:=Int.mul_le_mul_of_nonneg_right (by omega) (Int.le_of_lt hP)
  have hqt:q=t+1:=by
   rcases (by omega:q=t∨q=t+1) with rfl|h
   ·exfalso;omega
   ·exact h
  subst hqt
  have hd:=hdist t
  have hfin:val u2=val u-t * val v * 10000 ^ j:=by
   have hcc:(c1+c3) * P=c1 * P+c3 * P:=by grind
   have hz:c1+c3=0:=by
    rcases (by omega:c1+c3≤-1∨c1+c3=0∨1≤c1+c3) with h|h|h
    ·have:=Int.mul_le_mul_of_nonneg_right h (Int.le_of_lt hP)
     exfalso;omega
    ·exact h
    ·have:=Int.mul_le_mul_of_nonneg_right h (Int.le_of_lt hP)
     exfalso;omega
   rw[hz,Int.zero_mul] at hcc
   omega
  rw[show t+1-1=t by omega]
  exact H u2 k (by omega) ho2 (by omega) hfin
 ·rw[if_neg hc,if_pos g1,if_pos g2,Int.toNat_natCast]
  obtain rfl:c1=0:=by omega
  rw[Int.zero_mul,Int.add_zero] at hv1
  have hqt:q=t:=by
   rcases (by omega:q=t∨q=t+1) with h|rfl
   ·exact h
   ·have hd:=hdist t
    exfalso;omega
  subst hqt
  exact H u1 k (by omega) ho1 (by omega) (by omega)
theorem inner_loop {u v out scale:List Int} {j m L need:Nat} {t v1 v2 u1 u2 u3:Int} {R:Option (List Int×List Int)} (hn:v.length=m+2) (hul:u.length=L) (hL:L≤1000000000) (hj:j+(m+2)+1≤L)
  (hv1:limb v (m+1)=v1) (hv2:limb v m=v2) (hu1:limb u (j+m)=u1) (bv1:5000≤v1∧v1<10000) (bv2:0≤v2∧v2<10000) (bu1:0≤u1∧u1<10000) (bu2:0≤u2∧u2<10000) (bu3:0≤u3∧u3≤v1)
  (ht0:0≤t) (ht9:t≤9999) (hup:t * (v2+10000 * v1)≤u1+10000 * (u2+10000 * u3)) (hlo:∀ q:Int,0≤q→q≤9999→q * (v2+10000 * v1)≤u1+10000 * (u2+10000 * u3)→q≤t+1)
  (H:∀ (q:Int) (k:Nat),need≤k→t≤q→q≤t+1→0≤q→q≤9999→nat_div.j3 k scale u v ((m+2:Nat):Int) out (j:Int) q=R) :
  ∀ (r:Nat) (q rest:Int) (k:Nat),2 * r+2+need≤k→10000≤rest+5000 * r→0≤rest→rest<10000→t≤q→q≤20000→q * v1+rest=u2+10000 * u3→nat_div.l1 k scale u v ((m+2:Nat):Int) out (j:Int) q rest=R
 | 0,q,rest,k,hk,hr,hr0,hr1,hq0,hq1,he=>by omega
 | r+1,q,rest,k,hk,hr,hr0,hr1,hq0,hq1,he=>by
  obtain⟨k,rfl⟩:∃ m,k=m+2:=⟨k-2,by omega⟩
  have hqv1:q * v1=u2+10000 * u3-rest:=by omega
  have hqW:q * (v2+10000 * v1)=q * v2+10000 * (q * v1):=by grind
  have hqv20:0≤q * v2:=Int.mul_nonneg (by omega) bv2.1
  have hqv21:q * v2≤20000 * 9999:=Int.mul_le_mul hq1 (by omega) bv2.1 (by omega)
  have down:(10000≤q∨rest * 10000+u1<q * v2)→nat_div.j2 (k+1) scale u v ((m+2:Nat):Int) out (j:Int) q rest true=R:=by
   intro hc
   simp only[nat_div.j2]
   have e1:wrap64 (((m+2:Nat):Int)-1)=((m+1:Nat):Int):=by rw[w64 (by omega) (by omega)];omega
   rw[e1]
   clear e1
   have g1:(0:Int)≤((m+1:Nat):Int):=by omega
   have g2:((m+1:Nat):Int)<(v.length:Int):=by omega
   rw[if_pos trivial]
   rw[if_pos g1]
   rw[if_pos g2]
   rw[rd_limb,hv1,w64 (x:=rest+v1) (by omega) (by omega),w64 (x:=q-1) (by omega) (by omega)]
   have htq:t≤q-1:=by
    rcases hc with hc|hc
    ·omega
    ·have h1:t * (v2+10000 * v1)<q * (v2+10000 * v1):=by omega
     have:=Int.lt_of_mul_lt_mul_right h1 (by omega)
     omega
   have hq1v:(q-1) * v1=q * v1-v1:=by grind
   by_cases hrr:rest+v1<10000
   ·rw[if_pos hrr]
    exact inner_loop hn hul hL hj hv1 hv2 hu1 bv1 bv2 bu1 bu2 bu3 ht0 ht9 hup hlo H r (q-1) (rest+v1) k (by omega) (by omega) (by omega) hrr htq (by omega) (by omega)
   ·rw[if_neg hrr]
    have hq9:q-1≤9999:=by
     have h1:(q-1) * v1<10000 * v1:=by omega
     have:=Int.lt_of_mul_lt_mul_right h1 (by omega)
     omega
    have hw:(q-1) * v2≤9999 * 9999:=Int.mul_le_mul hq9 (by omega) bv2.1 (by omega)
    have hW:(q-1) * (v2+10000 * v1)=(q-1) * v2+10000 * ((q-1) * v1):=by grind
    exact H (q-1) k (by omega) htq (hlo _ (by omega) hq9 (by omega)) (by omega) hq9
  show nat_div.l1 (k+1+1) scale u v ((m+2:Nat):Int) out (j:Int) q rest=R
  simp only[nat_div.l1]
  by_cases hb:q≥10000
  ·rw[if_pos hb]
   exact down (.inl hb)
  ·rw[if_neg hb]
   have e1:wrap64 (((m+2:Nat):Int)-2)=((m:Nat):Int):=by rw[w64 (by omega) (by omega)];omega
   rw[e1]
   clear e1
   have e2:wrap64 ((j:Int)+((m+2:Nat):Int))=((j+m+2:Nat):Int):=by rw[w64 (by omega) (by omega)];omega
   rw[e2]
   clear e2
   have e3:wrap64 (((j+m+2:Nat):Int)-2)=((j+m:Nat):Int):=by rw[w64 (by omega) (by omega)];omega
   rw[e3]
   clear e3
   have g1:(0:Int)≤((m:Nat):Int):=by omega
   have g2:((m:Nat):Int)<(v.length:Int):=by omega
   have g3:(0:Int)≤((j+m:Nat):Int):=by omega
   have g4:((j+m:Nat):Int)<(u.length:Int):=by omega
   rw[if_pos g1]
   rw[if_pos g2]
   rw[if_pos g3]
   rw[if_pos g4]
   rw[rd_limb,rd_limb,hv2,hu1,w64 (x:=q * v2) (by omega) (by omega),w64 (x:=rest * 10000) (by omega) (by omega),w64 (x:=rest * 10000+u1) (by omega) (by omega)]
   by_cases hc:q * v2>rest * 10000+u1
   ·rw[decide_eq_true hc]
    exact down (.inr (by omega))
   ·rw[decide_eq_false hc]
    simp only[nat_div.j2]
    rw[if_neg (by decide)]
    exact H q k (by omega) hq0 (hlo q (by omega) (by omega) (by omega)) (by omega) (by omega)
theorem w64n {a:Int} {b:Nat} (h:a=b) (hb:b<4611686018427387904):wrap64 a=(b:Int):=by rw[h,w64 (by omega) (by omega)]
structure DivInv (u v out:List Int) (j L m:Nat) (U0:Int):Prop where
 ou:Ok u
 oo:Ok out
 ul:u.length=L
 ol:out.length=L-(m+2)
 jl:j≤L-(m+2)
 low:val u<val v * 10000 ^ j
 sum:val u+val v * val out=U0
 zero:∀ i,i<j→limb out i=0
theorem div_round {v scale:List Int} {L m:Nat} {U0:Int} {R:Option (List Int×List Int)} (hv:Ok v) (hn:v.length=m+2) (hL:L≤1000000000) (hmL:m+2≤L) (htop:5000≤limb v (m+1)) {need:Nat} {u out:List Int} {j:Nat} (inv:DivInv u v out (j+1) L m U0)
  (H:∀ (u' out':List Int) (k:Nat),need≤k→DivInv u' v out' j L m U0→nat_div.l0 k scale u' v ((m+2:Nat):Int) out' ((j:Int)-1)=R)
  (k:Nat) (hk:need+(m+2)+3+7≤k):nat_div.l0 k scale u v ((m+2:Nat):Int) out (j:Int)=R:=by
 obtain⟨ou,oo,ul,ol,jl,low,sum,zero⟩:=inv
 obtain⟨k,rfl⟩:∃ m,k=m+1:=⟨k-1,by omega⟩
 have hvb:=val_bounds hv
 rw[hn] at hvb
 have bv1:=limb_ok hv (m+1)
 have bv2:=limb_ok hv m
 have bu1:=limb_ok ou (j+m)
 have bu2:=limb_ok ou (j+m+1)
 have bu3:=limb_ok ou (j+m+2)
 have hVdec:val v=val (v.take m)+10000 ^ m * (limb v m+10000 * limb v (m+1)):=by
  have h1:=val_take_succ v m
  have h2:=val_take_succ v (m+1)
  rw[List.take_of_length_le (by omega:v.length≤m+1+1),h1,Int.pow_succ] at h2
  rw[h2]
  grind
 have hVl:=val_bounds (ok_take hv m)
 have hVlen:(v.take m).length=m:=by rw[List.length_take];omega
 rw[hVlen] at hVl
 have hQ:=pow_pos' m
 have hS:=pow_pos' j
 have hlowP:val u<10000 ^ (j+(m+2)+1):=by
  have h1:val v * 10000 ^ (j+1)<10000 ^ (m+2) * 10000 ^ (j+1):=Int.mul_lt_mul_of_pos_right hvb.2 (pow_pos' _)
  rw[← Int.pow_add,show m+2+(j+1)=j+(m+2)+1 by omega] at h1
  omega
 have hz:=high_zero ou hlowP
 have hUdec:val u=val (u.take (j+m))+10000 ^ j * 10000 ^ m * (limb u (j+m)+10000 * (limb u (j+m+1)+10000 * limb u (j+m+2))):=by
  rw[val_low (J:=j+m+2+1) (fun i hi=>hz i (by omega)),val_take_succ,val_take_succ,val_take_succ]
  have e1:(10000:Int) ^ (j+m+1)=10000 ^ j * 10000 ^ m * 10000:=by rw[Int.pow_succ,Int.pow_add]
  have e2:(10000:Int) ^ (j+m+2)=10000 ^ j * 10000 ^ m * 10000 * 10000:=by rw[show j+m+2=j+m+1+1 by omega,Int.pow_succ,e1]
  have e0:(10000:Int) ^ (j+m)=10000 ^ j * 10000 ^ m:=Int.pow_add _ _ _
  rw[e1,e2,e0]
  grind
 have hUl:=val_bounds (ok_take ou (j+m))
 have hUlen:(10000:Int) ^ (u.take (j+m)).length≤10000 ^ j * 10000 ^ m:=by
  rw[← Int.pow_add]
  exact pow_mono' (by rw[List.length_take];omega)
 have hV0:0<val v:=by
  have h1:10000 ^ m * 1≤10000 ^ m * (limb v m+10000 * limb v (m+1)):=Int.mul_le_mul_of_nonneg_left (by omega) (Int.le_of_lt hQ)
  omega
 have hVS:val v * 10000 ^ j≤10000 ^ (j+(m+2)+1):=by
  have h1:val v * 10000 ^ j≤10000 ^ (m+2) * 10000 ^ j:=Int.mul_le_mul_of_nonneg_right (by omega) (Int.le_of_lt hS)
  rw[← Int.pow_add] at h1
  have h2:=pow_mono' (a:=m+2+j) (b:=j+(m+2)+1) (by omega)
  omega
 obtain⟨t,ht⟩:∃ t,val u / (val v * 10000 ^ j)=t:=⟨_,rfl⟩
 have hVSp:0<val v * 10000 ^ j:=Int.mul_pos hV0 hS
 have hub:=val_bounds ou
 have ht0:0≤t:=by rw[← ht];exact Int.ediv_nonneg hub.1 (Int.le_of_lt hVSp)
 have hdm:=Int.mul_ediv_add_emod (val u) (val v * 10000 ^ j)
 have hm0:=Int.emod_nonneg (val u) (show val v * 10000 ^ j≠0 by omega)
 have hm1:=Int.emod_lt_of_pos (val u) hVSp
 rw[ht] at hdm
 have ht1:t * val v * 10000 ^ j≤val u:=by
  have e:t * val v * 10000 ^ j=val v * 10000 ^ j * t:=by grind
  omega
 have ht2:val u<(t+1) * val v * 10000 ^ j:=by
  have e:(t+1) * val v * 10000 ^ j=val v * 10000 ^ j * t+val v * 10000 ^ j:=by grind
  omega
 have ht9:t≤9999:=by
  have h1:val v * 10000 ^ j * t<val v * 10000 ^ j * 10000:=by
   rw[Int.pow_succ] at low
   have e:val v * (10000 ^ j * 10000)=val v * 10000 ^ j * 10000:=by grind
   omega
  have:=Int.lt_of_mul_lt_mul_left h1 (Int.le_of_lt hVSp)
  omega
 clear hdm hm0 hm1 ht
 have lowS:val u<val v * 10000 ^ j * 10000:=by
  rw[Int.pow_succ] at low
  have e:val v * (10000 ^ j * 10000)=val v * 10000 ^ j * 10000:=by grind
  omega
 have hjo:j<out.length:=by omega
 have hstep:∀ (u':List Int) (k':Nat),need≤k'→Ok u'→u'.length=L→val u'=val u-t * val v * 10000 ^ j→nat_div.l0 k' scale u' v ((m+2:Nat):Int) (out.set j t) ((j:Int)-1)=R:=by
  intro u' k' hk' ho' hl' hv'
  refine H u' (out.set j t) k' hk' ⟨ho',ok_set oo j ht0 (by omega),hl',by simp[ol],by omega,?_,?_,?_⟩
  ·have e:(t+1) * val v * 10000 ^ j=t * val v * 10000 ^ j+val v * 10000 ^ j:=by grind
   omega
  ·rw[hv',val_set hjo,zero j (by omega),← sum]
   grind
  ·intro i hi
   rw[limb_set _ _ _ _ hjo,if_neg (by omega)]
   exact zero i (by omega)
 have hUlow:10000 ^ j * 10000 ^ m * (limb u (j+m)+10000 * (limb u (j+m+1)+10000 * limb u (j+m+2)))≤val u:=by omega
 have hUhigh:val u<10000 ^ j * 10000 ^ m * (limb u (j+m)+10000 * (limb u (j+m+1)+10000 * limb u (j+m+2))+1):=by rw[Int.mul_add,Int.mul_one];omega
 have hVlow:10000 ^ m * (limb v m+10000 * limb v (m+1))≤val v:=by omega
 have hVhigh:val v≤10000 ^ m * (limb v m+10000 * limb v (m+1))+10000 ^ m:=by omega
 have hup:=kn_upper hS hQ ht0 ht1 hUhigh hVlow
 have hlo:∀ q:Int,0≤q→q≤9999→q * (limb v m+10000 * limb v (m+1))≤limb u (j+m)+10000 * (limb u (j+m+1)+10000 * limb u (j+m+2))→q≤t+1:=fun q h1 h2 h3=>kn_lower hS hQ hV0 h1 (by omega) ht2 hUlow hVlow hVhigh h3
 have htop3:=kn_top hS hQ lowS hUlow hVhigh bu2.1 bu1.1 bv2.2
 have h3:∀ (q:Int) (k':Nat),need+(m+2)+3≤k'→t≤q→q≤t+1→0≤q→q≤9999→nat_div.j3 k' scale u v ((m+2:Nat):Int) out (j:Int) q=R :=
  fun q k' hk' h1 h2 h3 h4=>j3_step (n:=m+2) (need:=need) ou hv hn ul hL (by omega) hjo hlowP ht1 ht2 hVS hV0 h1 h2 h3 h4 hstep k' hk'
 have hin:=inner_loop (scale:=scale) (out:=out) (need:=need+(m+2)+3) (R:=R) hn ul hL (by omega) rfl rfl rfl ⟨htop,bv1.2⟩ bv2 bu1 bu2 ⟨bu3.1,htop3⟩ ht0 ht9 hup hlo h3
 clear hUlow hUhigh hVlow hVhigh hlo htop3 h3 hstep hUdec hVdec hUl hUlen hVl hVlen lowS low hVS hlowP ht1 ht2 hub hVSp hz hvb hV0 hS hQ sum zero H
 have htq:t * limb v (m+1)≤limb u (j+m+1)+10000 * limb u (j+m+2):=by
  have e:t * (limb v m+10000 * limb v (m+1))=t * limb v m+10000 * (t * limb v (m+1)):=by grind
  have h1:0≤t * limb v m:=Int.mul_nonneg ht0 bv2.1
  omega
 clear hup
 simp only[nat_div.l0]
 have g0:(j:Int)≥0:=by omega
 rw[if_pos g0]
 rw[w64n (a:=(j:Int)+((m+2:Nat):Int)) (b:=j+m+2) (by omega) (by omega)]
 rw[w64n (a:=((j+m+2:Nat):Int)-1) (b:=j+m+1) (by omega) (by omega)]
 rw[w64n (a:=((m+2:Nat):Int)-1) (b:=m+1) (by omega) (by omega)]
 have g1:(0:Int)≤((j+m+2:Nat):Int):=by omega
 have g2:((j+m+2:Nat):Int)<(u.length:Int):=by omega
 have g3:(0:Int)≤((j+m+1:Nat):Int):=by omega
 have g4:((j+m+1:Nat):Int)<(u.length:Int):=by omega
 have g5:(0:Int)≤((m+1:Nat):Int):=by omega
 have g6:((m+1:Nat):Int)<(v.length:Int):=by omega
 rw[if_pos g1]
 rw[if_pos g2]
 rw[if_pos g3]
 rw[if_pos g4]
 rw[if_pos g5]
 rw[if_pos g6]
 rw[rd_limb,rd_limb,rd_limb]
 generalize limb v (m+1)=v1 at *
 generalize limb u (j+m+2)=u3 at *
 generalize limb u (j+m+1)=u2 at *
 have g7:¬ v1=0:=by omega
 rw[if_neg g7,w64 (x:=u3 * 10000) (by omega) (by omega),w64 (x:=u3 * 10000+u2) (by omega) (by omega)]
 have hh0:0≤u3 * 10000+u2:=by omega
 rw[Int.tmod_eq_emod_of_nonneg hh0,Int.tdiv_eq_ediv_of_nonneg hh0]
 have hdm:=Int.mul_ediv_add_emod (u3 * 10000+u2) v1
 have hm0:=Int.emod_nonneg (u3 * 10000+u2) (show v1≠0 by omega)
 have hm1:=Int.emod_lt_of_pos (u3 * 10000+u2) (show 0<v1 by omega)
 have hq0:t≤(u3 * 10000+u2) / v1:=by
  apply Int.le_ediv_of_mul_le (by omega)
  omega
 have hq1:(u3 * 10000+u2) / v1≤20000:=by
  have h1:(u3 * 10000+u2) / v1<20001:=by
   apply Int.ediv_lt_of_lt_mul (by omega)
   omega
  omega
 generalize (u3 * 10000+u2) / v1=q at *
 generalize (u3 * 10000+u2) % v1=rest at *
 rw[w64 (x:=q) (by omega) (by omega)]
 refine hin 2 q rest k (by omega) (by omega) hm0 (by omega) hq0 hq1 ?_
 have e:v1 * q=q * v1:=Int.mul_comm _ _
 omega
theorem trim_same0:∀ (k:Nat) (l:List Int),Pt.nat_limbs_trim.l0 k l=Pn.nat_limbs_trim.l0 k l
 | 0,_=>rfl
 | k+1,l=>by simp only[Pt.nat_limbs_trim.l0,Pn.nat_limbs_trim.l0,trim_same0 k]
theorem trim_same (k:Nat) (l:List Int):Pt.nat_limbs_trim.f k l=Pn.nat_limbs_trim.f k l:=trim_same0 k l
theorem lim_nat {z:Int} (h:0≤z):val (lim z.toNat)=z:=by rw[val_lim];omega
theorem short_tells {z s:Int} (hz:0≤z) (hs0:0<s) (hs1:s≤10000) (hl:(lim z.toNat).length≤17592186044416):nat_short.f (lim z.toNat) s=some (lim (z / s).toNat,lim (z % s).toNat):=by
 unfold nat_short.f
 have h:=short_law (ok_lim z.toNat) hs0 hs1
 rw[lim_nat hz] at h
 rw[if_pos ⟨limbsOk_of (ok_lim _),hl,hs0,hs1⟩,h.1,h.2]
theorem div_outer {v:List Int} {s:Int} {L m:Nat} {U0:Int} (hv:Ok v) (hn:v.length=m+2) (hL:L≤1000000000) (hmL:m+2≤L) (htop:5000≤limb v (m+1)) (hs0:0<s) (hs1:s≤10000) :
  ∀ (j:Nat) (u out:List Int) (k:Nat),j * (m+12)+L+2≤k→DivInv u v out j L m U0→nat_div.l0 k [s] u v ((m+2:Nat):Int) out ((j:Int)-1)=some (lim (U0 / val v).toNat,lim (U0 % val v / s).toNat)
 | 0,u,out,k,hk,⟨ou,oo,ul,ol,jl,low,sum,zero⟩=>by
  obtain⟨k,rfl⟩:∃ m,k=m+1:=⟨k-1,by omega⟩
  simp only[nat_div.l0]
  have g0:¬ ((0:Nat):Int)-1≥0:=by omega
  rw[if_neg g0,trim_same,trim_same,trim_lim ou (by omega) (by omega),trim_lim oo (by omega) (by omega)]
  simp only[ob_]
  have g1:(0:Int)<(([s]:List Int).length:Int):=by simp
  have hb:=val_bounds ou
  have hob:=val_bounds oo
  have hrd:rd [s] 0=s:=rfl
  have hlen:(lim (val u).toNat).length≤17592186044416:=by
   have:(lim (val u).toNat).length≤u.length:=lim_len (by rw[Int.toNat_of_nonneg hb.1];exact hb.2)
   omega
  rw[if_pos g1,hrd,short_tells hb.1 hs0 hs1 hlen]
  simp only[ob_]
  rw[Int.pow_zero,Int.mul_one] at low
  have e1:U0 / val v=val out:=by
   rw[← sum,Int.add_mul_ediv_left _ _ (by omega),Int.ediv_eq_zero_of_lt hb.1 low,Int.zero_add]
  have e2:U0 % val v=val u:=by
   rw[← sum,Int.add_mul_emod_self_left,Int.emod_eq_of_lt hb.1 low]
  rw[e1,e2]
 | j+1,u,out,k,hk,inv=>by
  rw[Nat.add_mul] at hk
  rw[show ((j+1:Nat):Int)-1=(j:Int) by omega]
  exact div_round hv hn hL hmL htop inv (need:=j * (m+12)+L+2) (fun u' out' k' hk' inv'=>div_outer hv hn hL hmL htop hs0 hs1 j u' out' k' hk' inv') k (by omega)
theorem scale_top {t:Nat} (h0:1≤t) (h1:t<10000):5000≤t * (10000 / (t+1)):=by
 have hd:=Nat.div_add_mod 10000 (t+1)
 have hr:=Nat.mod_lt 10000 (show 0<t+1 by omega)
 generalize 10000 / (t+1)=q at *
 generalize 10000 % (t+1)=r at *
 have e:(t+1) * q=t * q+q:=by grind
 by_cases h5:5000≤t
 ·rcases Nat.eq_zero_or_pos q with rfl|hq
  ·omega
  ·have:=Nat.mul_le_mul_left t hq
   omega
 ·have hq2:2≤q:=by
   rcases (by omega:q=0∨q=1∨2≤q) with rfl|rfl|h
   ·omega
   ·omega
   ·exact h
  obtain⟨x,rfl⟩:∃ x,q=x+2:=⟨q-2,by omega⟩
  obtain⟨y,rfl⟩:∃ y,t=y+1:=⟨t-1,by omega⟩
  have e2:(y+1) * (x+2)=y * x+2 * y+x+2:=by grind
  have h3:0≤y * x:=Nat.zero_le _
  omega
theorem mul_same (k:Nat) (a b:List Int):Pm.nat_mul.f k a b=Pn.nat_mul.f k a b:=rfl
theorem div_tells (a b:Nat) (hb:0<b) (hla:(lim a).length≤50000000) (hlb:(lim b).length≤50000000) (k:Nat)
  (hk:((lim a).length+10) * ((lim b).length+20)+((lim a).length+10) * 20≤k):nat_div.f k (lim a) (lim b)=some (lim (a / b),lim (a % b)):=by
 unfold nat_div.f nat_compare.f
 rw[ob_,cmpL_lim]
 by_cases hlt:a<b
 ·rw[cmp_lt' (by omega),if_pos (by decide),Nat.div_eq_of_lt hlt,Nat.mod_eq_of_lt hlt,lim_zero]
 ·have g0:¬ Lib.compareInt (a:Int) (b:Int)<0:=by
   unfold Lib.compareInt
   rw[if_neg (by omega)]
   split <;> omega
  rw[if_neg g0]
  obtain⟨r,x,hbx,hx0⟩:=lim_top (show b≠0 by omega)
  have hob:=ok_lim b
  have hvb:=val_lim b
  rw[hbx] at hob hvb
  have hx:=(ok_cons.1 (ok_append.1 hob).2).1
  have hr:=val_bounds (ok_append.1 hob).1
  rw[val_snoc] at hvb
  have hlenb:(lim b).length=r.length+1:=by rw[hbx];simp
  have hlim:∀ i:Nat,i=r.length→rd (lim b) (i:Int)=x:=by
   rintro i rfl
   rw[rd_limb,hbx]
   simp[limb]
  by_cases h1:((lim b).length:Int)=1
  ·have g1:(0:Int)<((lim b).length:Int):=by omega
   have hr0:r=[]:=List.length_eq_zero_iff.1 (by omega)
   subst hr0
   have hbv:x=b:=by simpa [val] using hvb
   have:=hlim 0 rfl
   rw[if_pos h1,if_pos g1]
   have hrd:rd (lim b) 0=(b:Int):=by rw[← hbv];exact this
   have hz:(0:Int)≤(a:Int):=by omega
   have ha:lim (a:Int).toNat=lim a:=by rw[Int.toNat_natCast]
   rw[hrd,← ha,short_tells hz (by omega) (by omega) (by rw[ha];omega)]
   rw[ob_]
   have e1:((a:Int) / (b:Int)).toNat=a / b:=by rw[← Int.natCast_ediv,Int.toNat_natCast]
   have e2:((a:Int) % (b:Int)).toNat=a % b:=by rw[← Int.natCast_emod,Int.toNat_natCast]
   rw[e1,e2]
  ·rw[if_neg h1]
   obtain⟨m,hm⟩:∃ m,r.length=m+1:=⟨r.length-1,by omega⟩
   have hn:(lim b).length=m+2:=by omega
   rw[w64n (a:=((lim b).length:Int)-1) (b:=m+1) (by omega) (by omega)]
   have g1:(0:Int)≤((m+1:Nat):Int):=by omega
   have g2:((m+1:Nat):Int)<((lim b).length:Int):=by omega
   rw[if_pos g1]
   rw[if_pos g2]
   rw[hlim (m+1) (by omega),w64 (x:=x+1) (by omega) (by omega)]
   have g3:¬ x+1=0:=by omega
   rw[if_neg g3,ob_]
   have hsx:=scale_top (t:=x.toNat) (by omega) (by omega)
   have hsd:Int.tdiv 10000 (x+1)=10000 / (x+1):=Int.tdiv_eq_ediv_of_nonneg (by decide)
   have hs0:1≤(10000:Int) / (x+1):=Int.le_ediv_of_mul_le (by omega) (by omega)
   have hs1:(10000:Int) / (x+1)≤10000:=Int.ediv_le_self _ (by decide)
   have hs2:(10000:Int) / (x+1) * (x+1)≤10000:=Int.ediv_mul_le _ (by omega)
   have hs3:(5000:Int)≤x * (10000 / (x+1)):=by
    have e:((x.toNat * (10000 / (x.toNat+1)):Nat):Int)=x * (10000 / (x+1)):=by
     rw[Int.natCast_mul,Int.natCast_ediv]
     have ex:(x.toNat:Int)=x:=by omega
     rw[show ((x.toNat+1:Nat):Int)=x+1 by omega,ex]
     rfl
    omega
   rw[hsd,w64 (x:=10000 / (x+1)) (by omega) (by omega)]
   generalize hs:(10000:Int) / (x+1)=s at *
   have hs9:s≤5000:=by
    have:=Int.mul_le_mul_of_nonneg_left (show (2:Int)≤x+1 by omega) (show 0≤s by omega)
    omega
   have oks:Ok [s]:=ok_cons.2 ⟨⟨by omega,by omega⟩,ok_nil⟩
   have vals:val [s]=s:=by simp[val]
   have hkA:(lim a).length * (1+4)+(lim a).length+1+3≤k:=by
    have:=Nat.mul_le_mul_left ((lim a).length+10) (show 20≤(lim b).length+20 by omega)
    omega
   have hlen_le:(lim b).length≤(lim a).length:=by
    rcases Nat.lt_or_ge (lim a).length (lim b).length with h|h
    ·exfalso
     have h2:=lim_high a
     have h3:=lim_low (show b≠0 by omega)
     have:=pow_mono' (a:=(lim a).length) (b:=(lim b).length-1) (by omega)
     omega
    ·exact h
   have hkB:(lim b).length * (1+4)+(lim b).length+1+3≤k:=by omega
   rw[mul_same,mul_same,mul_tells (ok_lim a) oks (by omega) (by simp) k (by simpa using hkA),mul_tells (ok_lim b) oks (by omega) (by simp) k (by simpa using hkB)]
   rw[ob_,ob_]
   rw[val_lim,val_lim,vals]
   have hA0:0≤(a:Int) * s:=Int.mul_nonneg (by omega) (by omega)
   have hB0:0≤(b:Int) * s:=Int.mul_nonneg (by omega) (by omega)
   have hAlen:(lim ((a:Int) * s).toNat).length≤(lim a).length+1:=by
    apply lim_len
    rw[Int.toNat_of_nonneg hA0,Int.pow_succ]
    have h2:=lim_high a
    have h3:(a:Int) * s≤10000 ^ (lim a).length * s:=Int.mul_le_mul_of_nonneg_right (by omega) (by omega)
    have h4:(10000:Int) ^ (lim a).length * s<10000 ^ (lim a).length * 10000:=Int.mul_lt_mul_of_pos_left (by omega) (pow_pos' _)
    omega
   have hBhi:(b:Int) * s<10000 ^ (m+2):=by
    have h2:(b:Int)+1≤10000 ^ (m+1) * (x+1):=by
     rw[← hvb,hm,Int.mul_add,Int.mul_one]
     rw[hm] at hr
     omega
    have h3:((b:Int)+1) * s≤10000 ^ (m+1) * (x+1) * s:=Int.mul_le_mul_of_nonneg_right h2 (by omega)
    have h4:(10000:Int) ^ (m+1) * (s * (x+1))≤10000 ^ (m+1) * 10000:=Int.mul_le_mul_of_nonneg_left hs2 (Int.le_of_lt (pow_pos' _))
    have e1:(10000:Int) ^ (m+1) * (x+1) * s=10000 ^ (m+1) * (s * (x+1)):=by grind
    have e2:((b:Int)+1) * s=b * s+s:=by grind
    rw[Int.pow_succ 10000 (m+1)]
    omega
   have hBlo:(10000:Int) ^ (m+1) * (x * s)≤b * s:=by
    have h2:10000 ^ (m+1) * x≤(b:Int):=by rw[← hvb,hm];omega
    have h3:=Int.mul_le_mul_of_nonneg_right h2 (show 0≤s by omega)
    have e:(10000:Int) ^ (m+1) * x * s=10000 ^ (m+1) * (x * s):=by grind
    omega
   have hvOk:=ok_lim ((b:Int) * s).toNat
   have hvVal:val (lim ((b:Int) * s).toNat)=b * s:=lim_nat hB0
   have hvLen:(lim ((b:Int) * s).toNat).length=m+2:=by
    have h2:(lim ((b:Int) * s).toNat).length≤m+2:=lim_len (by rw[Int.toNat_of_nonneg hB0];exact hBhi)
    rcases Nat.lt_or_ge (lim ((b:Int) * s).toNat).length (m+2) with h|h
    ·exfalso
     have h3:=(val_bounds hvOk).2
     rw[hvVal] at h3
     have h4:=pow_mono' (a:=(lim ((b:Int) * s).toNat).length) (b:=m+1) (by omega)
     have h5:(10000:Int) ^ (m+1) * 1≤10000 ^ (m+1) * (x * s):=Int.mul_le_mul_of_nonneg_left (by omega) (Int.le_of_lt (pow_pos' _))
     omega
    ·omega
   have htop:5000≤limb (lim ((b:Int) * s).toNat) (m+1):=by
    have h2:=val_take_succ (lim ((b:Int) * s).toNat) (m+1)
    rw[List.take_of_length_le (by omega),hvVal] at h2
    have h3:=(val_bounds (ok_take hvOk (m+1))).2
    rw[List.length_take,hvLen,Nat.min_eq_left (by omega)] at h3
    have h4:(10000:Int) ^ (m+1) * (x * s)<10000 ^ (m+1) * (limb (lim ((b:Int) * s).toNat) (m+1)+1):=by rw[Int.mul_add,Int.mul_one];omega
    have:=Int.lt_of_mul_lt_mul_left h4 (Int.le_of_lt (pow_pos' _))
    omega
   have hABlen:m+2≤(lim ((a:Int) * s).toNat).length:=by
    rcases Nat.lt_or_ge (lim ((a:Int) * s).toNat).length (m+2) with h|h
    ·exfalso
     have h3:=(val_bounds (ok_lim ((a:Int) * s).toNat)).2
     rw[lim_nat hA0] at h3
     have h4:=pow_mono' (a:=(lim ((a:Int) * s).toNat).length) (b:=m+1) (by omega)
     have h5:(10000:Int) ^ (m+1) * 1≤10000 ^ (m+1) * (x * s):=Int.mul_le_mul_of_nonneg_left (by omega) (Int.le_of_lt (pow_pos' _))
     have h6:(b:Int) * s≤a * s:=Int.mul_le_mul_of_nonneg_right (by omega) (by omega)
     omega
    ·exact h
   have hAval:=lim_nat hA0
   have hAok:=ok_lim ((a:Int) * s).toNat
   have hAhi:=(val_bounds hAok).2
   rw[hAval] at hAhi
   generalize lim ((a:Int) * s).toNat=A at *
   generalize lim ((b:Int) * s).toNat=B at *
   have g4:A.length+([0,0]:List Int).length<17592186044416:=by simp only[List.length_cons,List.length_nil];omega
   rw[if_pos g4,ob_,ob_]
   have hAL:(A ++ [0,0]).length=A.length+2:=by simp
   rw[hAL,hvLen]
   rw[w64n (a:=((A.length+2:Nat):Int)-((m+2:Nat):Int)) (b:=A.length-m) (by omega) (by omega)]
   have g5:(0:Int)≤((A.length-m:Nat):Int):=by omega
   have g6:((A.length-m:Nat):Int).toNat≤35184372088832:=by omega
   rw[if_pos g5]
   rw[if_pos g6]
   rw[w64 (x:=((A.length-m:Nat):Int)-1) (by omega) (by omega),Int.toNat_natCast]
   have hkk:(A.length-m) * (m+12)+(A.length+2)+2≤k:=by
    have h2:=Nat.mul_le_mul (show A.length-m≤(lim a).length+10 by omega) (show m+12≤(lim b).length+20 by omega)
    omega
   have hfin:=div_outer (s:=s) (L:=A.length+2) (m:=m) (U0:=a * s) hvOk hvLen (by omega) (by omega) htop (by omega) (by omega) (A.length-m) (A ++ [0,0]) (List.replicate (A.length-m) 0) k hkk
    ⟨ok_append.2 ⟨hAok,ok_cons.2 ⟨by omega,ok_cons.2 ⟨by omega,ok_nil⟩⟩⟩,ok_replicate _,hAL,by simp,by omega,?_,?_,?_⟩
   ·rw[hfin,hvVal]
    have e1:(a:Int) * s / (b * s)=((a / b:Nat):Int):=by
     rw[Int.mul_ediv_mul_of_pos_left _ _ (by omega),Int.natCast_ediv]
    have e2:(a:Int) * s % (b * s) / s=((a % b:Nat):Int):=by
     rw[Int.mul_comm (a:Int) s,Int.mul_comm (b:Int) s,Int.mul_emod_mul_of_pos _ _ (by omega),Int.mul_ediv_cancel_left _ (by omega),Int.natCast_emod]
    rw[e1,e2,Int.toNat_natCast,Int.toNat_natCast]
   ·rw[val_append,hAval,hvVal]
    have ez:val [0,0]=0:=rfl
    rw[ez,Int.mul_zero,Int.add_zero]
    have h2:(10000:Int) ^ (m+1) * 1≤b * s:=by
     have h5:(10000:Int) ^ (m+1) * 1≤10000 ^ (m+1) * (x * s):=Int.mul_le_mul_of_nonneg_left (by omega) (Int.le_of_lt (pow_pos' _))
     omega
    have h3:=Int.mul_le_mul_of_nonneg_right h2 (Int.le_of_lt (pow_pos' (A.length-m)))
    rw[Int.mul_one,← Int.pow_add] at h3
    have h4:=pow_mono' (a:=A.length) (b:=m+1+(A.length-m)) (by omega)
    omega
   ·rw[val_append,hAval,val_replicate]
    have ez:val [0,0]=0:=rfl
    rw[ez]
    omega
   ·intro i hi
    simp only[limb,List.getD_eq_getElem?_getD,List.getElem?_replicate]
    split <;> rfl
end
section
open Pn
theorem size_len (s:ByteArray):s.size=s.data.toList.length:=(Array.length_toList (xs:=s.data)).symm
theorem bt_get (s:ByteArray) (i:Nat) (h:i<s.size):∃ c:UInt8,s.data.toList[i]?=some c∧bt s (i:Int)=c.toNat:=by
 have hl:i<s.data.toList.length:=by rw[← size_len];exact h
 refine⟨s.data.toList[i]'hl,List.getElem?_eq_getElem hl,?_⟩
 unfold bt
 rw[dif_pos (by rw[Int.toNat_natCast];exact h)]
 rfl
theorem may_loop (s:ByteArray) (hs:s.size≤4611686018427387904):∀ (d i:Nat),i+d=s.size→∀ k,d+1≤k→nat_May.l0 k s (s.size:Int) (i:Int)=some ((s.data.toList.drop i).all isDig)
 | 0,i,hi,k,hk=>by
  obtain⟨k,rfl⟩:∃ m,k=m+1:=⟨k-1,by omega⟩
  simp only[nat_May.l0]
  rw[if_neg (by omega),List.drop_of_length_le (by rw[← size_len];omega)]
  rfl
 | d+1,i,hi,k,hk=>by
  obtain⟨k,rfl⟩:∃ m,k=m+1:=⟨k-1,by omega⟩
  simp only[nat_May.l0]
  have g1:(i:Int)<(s.size:Int):=by omega
  rw[if_pos g1,if_pos (by omega),if_pos g1]
  obtain⟨c,hc,hb⟩:=bt_get s i (by omega)
  have hil:i<s.data.toList.length:=by rw[← size_len];omega
  have hcc:s.data.toList[i]=c:=by
   rw[List.getElem?_eq_getElem hil] at hc
   exact Option.some.inj hc
  rw[hb,List.drop_eq_getElem_cons hil,hcc,List.all_cons,w64 (by omega) (by omega)]
  by_cases h1:(c.toNat:Int)<48
  ·rw[if_pos h1]
   have:isDig c=false:=by simp[isDig];omega
   rw[this];rfl
  ·rw[if_neg h1]
   by_cases h2:(c.toNat:Int)>57
   ·rw[if_pos h2]
    have:isDig c=false:=by simp[isDig];omega
    rw[this];rfl
   ·rw[if_neg h2]
    have:isDig c=true:=by simp[isDig];omega
    rw[this,Bool.true_and]
    have:=may_loop s hs d (i+1) (by omega) k (by omega)
    rw[show ((i:Int)+1)=((i+1:Nat):Int) by omega]
    exact this
theorem may_tells (s:ByteArray) (hs:s.size≤4611686018427387904) (k:Nat) (hk:s.size+2≤k):nat_May.f k s=some (mayL s.data.toList):=by
 obtain⟨k,rfl⟩:∃ m,k=m+1:=⟨k-1,by omega⟩
 unfold nat_May.f
 rw[ByteArray.toList_eq]
 by_cases h0:s.data.toList=[]
 ·rw[if_pos h0]
  simp only[nat_May.j0,if_true]
  rw[h0]
  rfl
 ·have hpos:0<s.size:=by
   rw[size_len]
   exact List.length_pos_iff.2 h0
  have g1:(0:Int)<(s.size:Int):=by omega
  rw[if_neg h0,if_pos g1]
  obtain⟨c,hc,hb⟩:=bt_get s 0 hpos
  have hb':bt s 0=(c.toNat:Int):=hb
  have hhead:s.data.toList.head?=some c:=by rw[← hc,List.head?_eq_getElem?]
  have hl:=may_loop s hs s.size 0 (by omega) k (by omega)
  rw[List.drop_zero] at hl
  have hl':nat_May.l0 k s (s.size:Int) 0=some (s.data.toList.all isDig):=hl
  rw[hb']
  have hc48:(c.toNat:Int)=48↔c=48:=by
   constructor
   ·intro h
    exact UInt8.toNat_inj.1 (by rw[show (48:UInt8).toNat=48 from rfl];omega)
   ·rintro rfl;rfl
  by_cases h1:(c.toNat:Int)=48
  ·rw[if_pos h1]
   simp only[nat_May.j0]
   by_cases h2:s.data.toList=[48]
   ·rw[h2]
    rw[if_neg (by decide),hl',h2]
    rfl
   ·have e:(s.data.toList != [48])=true:=by rw[bne_iff_ne];exact h2
    rw[if_pos e]
    unfold mayL
    have:s.data.toList.head?=some 48:=by rw[hhead,hc48.1 h1]
    simp[h2,this]
  ·rw[if_neg h1]
   simp only[nat_May.j0]
   rw[if_neg (by decide),hl']
   unfold mayL
   have:s.data.toList.head?≠some 48:=by rw[hhead];intro e;exact h1 (hc48.2 (Option.some.inj e))
   simp[h0,this]
theorem atoi_f (s:ByteArray) (h1:s.data.toList≠[]) (h:s.data.toList.all isDig=true) (hn:s.size≤4):strconv_Atoi.f s=some ((num s.data.toList:Int),none):=by
 unfold strconv_Atoi.f
 have hlt:=num_lt h
 have hle:10 ^ s.data.toList.length≤10 ^ 4:=Nat.pow_le_pow_right (by omega) (by rw[← size_len];exact hn)
 rw[if_pos (by omega),atoi_digits h1 h,if_pos (by omega)]
theorem read_loop (N:Nat):∀ (m:Nat) (s:ByteArray),s.size=m→m≤1000000000→∀ (out:List Int) (k:Nat),2 * m+out.length+3≤k→out.length+m≤1000000000→Ok out→s.data.toList.all isDig=true →
  val out+10000 ^ out.length * (num s.data.toList:Int)=N→nat_read.l0 k s out=some (lim N)
 | m,s,hs,hm,out,k,hk,hol,ho,hd,hv=>by
  obtain⟨k,rfl⟩:∃ m,k=m+1:=⟨k-1,by omega⟩
  simp only[nat_read.l0]
  by_cases h0:m=0
  ·have g1:¬ (s.size:Int)>0:=by omega
   rw[if_neg g1,trim_lim ho (by omega) (by omega)]
   have hnil:s.data.toList=[]:=by
    apply List.length_eq_zero_iff.1
    rw[← size_len];omega
   rw[hnil,num_nil] at hv
   simp only[Int.natCast_zero,Int.mul_zero,Int.add_zero] at hv
   rw[hv]
   rfl
  ·have g1:(s.size:Int)>0:=by omega
   have hmx:mx (wrap64 ((s.size:Int)-4)) 0=((s.size-4:Nat):Int):=by
    rw[w64 (by omega) (by omega)]
    unfold mx
    split <;> omega
   rw[if_pos g1,hmx]
   clear hmx
   have g2:(0:Int)≤((s.size-4:Nat):Int):=by omega
   have g3:((s.size-4:Nat):Int)≤(s.size:Int):=by omega
   rw[if_pos g2,if_pos g3,Int.toNat_natCast]
   have hsz:(s.extract (s.size-4) s.size).size=s.size-(s.size-4):=by simp[ByteArray.size_extract]
   have hl1:(s.extract (s.size-4) s.size).data.toList=s.data.toList.drop (s.size-4):=by
    rw[Lib.Pa.extract_drop s _ _ rfl]
   have hl2:(s.extract 0 (s.size-4)).data.toList=s.data.toList.take (s.size-4):=Lib.Pa.extract_upto_list s _
   have hall:(s.data.toList.take (s.size-4)).all isDig=true∧(s.data.toList.drop (s.size-4)).all isDig=true:=by
    rw[← Bool.and_eq_true,← List.all_append,List.take_append_drop]
    exact hd
   have hne:s.data.toList.drop (s.size-4)≠[]:=by
    intro e
    have:=congrArg List.length e
    rw[List.length_drop,← size_len] at this
    simp at this
    omega
   rw[atoi_f _ (by rw[hl1];exact hne) (by rw[hl1];exact hall.2) (by omega)]
   simp only[ob_]
   have g4:out.length<17592186044416:=by omega
   rw[if_pos g4,hl1]
   have hnum:=num_append (s.data.toList.take (s.size-4)) (s.data.toList.drop (s.size-4))
   rw[List.take_append_drop] at hnum
   have hlen:(s.data.toList.drop (s.size-4)).length=s.size-(s.size-4):=by rw[List.length_drop,← size_len]
   have hlt:=num_lt hall.2
   have hle:10 ^ (s.data.toList.drop (s.size-4)).length≤10 ^ 4:=Nat.pow_le_pow_right (by omega) (by omega)
   have hkey:num s.data.toList=num (s.data.toList.take (s.size-4)) * 10000+num (s.data.toList.drop (s.size-4)):=by
    rw[hnum,hlen]
    by_cases h4:4≤s.size
    ·rw[show s.size-(s.size-4)=4 by omega]
    ·rw[show s.size-4=0 by omega,List.take_zero,num_nil,Nat.zero_mul,Nat.zero_mul]
   have hes:(s.extract 0 (s.size-4)).size=s.size-4:=by rw[size_len,hl2,List.length_take,← size_len];omega
   refine read_loop N (s.size-4) (s.extract 0 (s.size-4)) hes (by omega) _ k (by rw[List.length_append];simp only[List.length_cons,List.length_nil];omega) (by rw[List.length_append];simp only[List.length_cons,List.length_nil];omega) (ok_snoc ho (by omega) (by omega)) (by rw[hl2];exact hall.1) ?_
   rw[hl2,val_snoc,List.length_append,← hv,hkey]
   simp only[List.length_cons,List.length_nil,Nat.zero_add,Int.pow_succ]
   generalize (10000:Int) ^ out.length=p
   generalize num (s.data.toList.take (s.size-4))=a
   generalize num (s.data.toList.drop (s.size-4))=b
   generalize val out=v
   simp only[Int.natCast_add,Int.natCast_mul]
   grind
 termination_by m=>m
 decreasing_by omega
theorem read_tells (s:ByteArray) (hs:s.size≤400000000) (h:mayL s.data.toList=true) (k:Nat) (hk:2 * s.size+3≤k):nat_read.f k s=some (lim (num s.data.toList)):=by
 unfold nat_read.f
 refine read_loop _ s.size s rfl (by omega) [] k (by simp;omega) (by simp;omega) ok_nil (mayL_all h) (by simp[val])
end
open Go.Lib (decDigits)
def pad4 (x:Int):List UInt8:=List.replicate (4-(Lib.itoa x).length) 48++Lib.itoa x
def textR:List Int→List UInt8
 | []=>[]
 | [x]=>Lib.itoa x
 | x :: y :: r=>textR (y :: r)++pad4 x
theorem upto_cons (n:Nat):upto (n+1) (n+1)=(upto n n).map (· + 1) ++ [0]:=by
 simp only[upto,List.map_map]
 rw[List.range_succ,List.map_append]
 congr 1
 ·refine List.map_congr_left fun j hj=>?_
  have:=List.mem_range.1 hj
  simp;omega
 ·simp
theorem textL_R {l:List Int} (h:l≠[]):textL l=textR l:=by
 unfold textL
 induction l with
 | nil=>exact absurd rfl h
 | cons x r ih =>
  rw[if_neg (by simp),List.length_cons,upto_cons,List.flatMap_append]
  cases r with
  | nil=>simp[upto,textR,piece,limb]
  | cons y r =>
   have ih':=ih (by simp)
   rw[if_neg (by simp)] at ih'
   rw[textR,← ih',List.flatMap_map]
   congr 1
   ·apply congrArg List.flatten
    refine List.map_congr_left fun i hi=>?_
    have e:limb (x :: y :: r) (i+1)=limb (y :: r) i:=by simp[limb]
    simp only[piece,e]
    simp
   ·simp[piece,limb,pad4]
theorem dig4 {m:Nat} (h:m<10000):pad4 (m:Int)=[UInt8.ofNat (48+m / 1000),UInt8.ofNat (48+m / 100 % 10),UInt8.ofNat (48+m / 10 % 10),UInt8.ofNat (48+m % 10)]:=by
 unfold pad4
 rw[Lib.itoa_nonneg]
 have z:(48:UInt8)=UInt8.ofNat (48+0):=rfl
 by_cases h1:m<10
 ·rw[dig_small h1,show m / 1000=0 by omega,show m / 100 % 10=0 by omega,show m / 10 % 10=0 by omega,show m % 10=m by omega]
  rfl
 ·rw[dig_big h1]
  by_cases h2:m / 10<10
  ·rw[dig_small h2,show m / 1000=0 by omega,show m / 100 % 10=0 by omega,show m / 10 % 10=m / 10 by omega]
   rfl
  ·rw[dig_big h2]
   by_cases h3:m / 10 / 10<10
   ·rw[dig_small h3,show m / 1000=0 by omega,show m / 100 % 10=m / 10 / 10 by omega]
    rfl
   ·rw[dig_big h3,dig_small (by omega:m / 10 / 10 / 10<10),show m / 1000=m / 10 / 10 / 10 by omega,show m / 100 % 10=m / 10 / 10 % 10 by omega]
    rfl
theorem dig_four {n:Nat} (h:10000≤n):decDigits n=decDigits (n / 10000)++pad4 ((n % 10000:Nat):Int):=by
 rw[dig4 (by omega),dig_big (by omega:¬ n<10),dig_big (by omega:¬ n / 10<10),dig_big (by omega:¬ n / 10 / 10<10),dig_big (by omega:¬ n / 10 / 10 / 10<10)]
 rw[show n / 10 / 10 / 10 / 10=n / 10000 by omega,show n / 10 / 10 / 10 % 10=n % 10000 / 1000 by omega,show n / 10 / 10 % 10=n % 10000 / 100 % 10 by omega,show n / 10 % 10=n % 10000 / 10 % 10 by omega,show n % 10=n % 10000 % 10 by omega]
 simp
theorem textR_lim {n:Nat} (h:n≠0):textR (lim n)=decDigits n:=by
 induction n using Nat.strongRecOn with
 | _ n ih =>
  rw[lim_pos h]
  by_cases h1:n<10000
  ·rw[show n / 10000=0 by omega,lim_zero,textR,Lib.itoa_nonneg,Nat.mod_eq_of_lt h1]
  ·have h2:n / 10000≠0:=by omega
   have h3:=ih (n / 10000) (by omega) h2
   rw[dig_four (by omega),← h3]
   obtain⟨x,r,e⟩:∃ x r,lim (n / 10000)=x :: r:=⟨_,_,lim_pos h2⟩
   rw[e,textR]
theorem textL_lim (n:Nat):textL (lim n)=decDigits n:=by
 by_cases h:n=0
 ·subst h;rw[lim_zero,dig_small (by omega)];rfl
 ·rw[textL_R (fun e=>h (lim_nil.1 e)),textR_lim h]
def mayB (s:ByteArray):Bool:=mayL s.data.toList
def numB (s:ByteArray):Nat:=num s.data.toList
def natB (n:Nat):ByteArray:=⟨(Lib.decDigits n).toArray⟩
def sm (s:ByteArray):Bool:=decide (s.size≤50000)
def lm (l:List Int):Bool:=decide (l.length≤50000)
def canon (l:List Int):Bool:=decide (l=lim (val l).toNat)
theorem natB_list (n:Nat):(natB n).data.toList=Lib.decDigits n:=rfl
theorem mayB_natB (n:Nat):mayB (natB n)=true:=may_dig n
theorem numB_natB (n:Nat):numB (natB n)=n:=num_dig n
theorem natB_numB {s:ByteArray} (h:mayB s=true):natB (numB s)=s:=by
 unfold natB numB
 rw[dig_num h]
theorem lm_le {l:List Int} (h:lm l=true):l.length≤50000:=od_ h
theorem sm_le {s:ByteArray} (h:sm s=true):s.size≤50000:=od_ h
theorem ok_of {l:List Int} (h:limbsOk l=true):Ok l:=by
 intro x hx
 have:=List.all_eq_true.1 h x hx
 simp at this
 exact this
theorem canon_eq {l:List Int} (h:canon l=true):l=lim (val l).toNat:=od_ h
theorem canon_lim (n:Nat):canon (lim n)=true:=by
 unfold canon
 rw[val_lim,Int.toNat_natCast]
 exact decide_eq_true rfl
theorem limbsOk_lim (n:Nat):limbsOk (lim n)=true:=limbsOk_of (ok_lim n)
def nat_May.f (a0:ByteArray):Option Bool:=if sm a0=true then some (mayB a0) else none
theorem nat_May.calls (a0:ByteArray) (r:Bool) (w:World) (h:nat_May.f a0=some r) :
  Calls Tryz.prog 79 #[.string a0] w fun e w'=>e=.returned (.bool r)∧Below w.heap.size w w':=by
 unfold nat_May.f at h
 split at h
 ·rename_i hp
  obtain rfl:=Option.some.inj h
  have hs:=sm_le hp
  refine(Pn.nat_May.calls (a0.size+2) a0 _ w (may_tells a0 (by omega) _ (by omega))).mono ?_
  rintro e w' ⟨rfl,n,rfl⟩
  exact⟨rfl,pw_below_drewN (Below.refl _ _) n⟩
 ·cases h
def nat_read.f (a0:ByteArray):Option (List Int):=if (sm a0&&mayB a0)=true then some (lim (numB a0)) else none
theorem nat_read.calls (a0:ByteArray) (r:List Int) (w:World) (h:nat_read.f a0=some r) :
  Calls Tryz.prog 138 #[.string a0] w fun e w'=>∃ v0_:Value,e=.returned (v0_)∧Kd.V (Kd.int .i64) 3 w' w.heap.size (fun k_=>(w.heap.size≤k_)) v0_ r∧Below w.heap.size w w':=by
 unfold nat_read.f at h
 split at h
 ·rename_i hp
  obtain rfl:=Option.some.inj h
  rw[Bool.and_eq_true] at hp
  have hs:=sm_le hp.1
  exact Pn.nat_read.calls (2 * a0.size+3) a0 _ w (read_tells a0 (by omega) hp.2 _ (nr_ _))
 ·cases h
def nat_add.f (l0 l1:List Int) (a2:Int):Option (List Int):=if (limbsOk l0&&limbsOk l1&&lm l0&&lm l1&&(decide (a2=1) || decide (a2=-1))&&decide (0≤val l0+a2 * val l1))=true then some (lim (val l0+a2 * val l1).toNat) else none
theorem nat_add.calls (A0:Option Addr) (c0:Nat) (l0:List Int) (A1:Option Addr) (c1:Nat) (l1:List Int) (a2:Int) (r:List Int) (w:World) (hr0:Kd.C (Kd.int .i64) w A0 l0.length l0) (hc0:l0.length≤c0) (hr1:Kd.C (Kd.int .i64) w A1 l1.length l1) (hc1:l1.length≤c1) (h:nat_add.f l0 l1 a2=some r) :
  Calls Tryz.prog 185 #[.slice A0 l0.length c0,.slice A1 l1.length c1,.int .i64 a2] w fun e w'=>∃ v0_:Value,e=.returned (v0_)∧Kd.V (Kd.int .i64) 3 w' w.heap.size (fun k_=>(w.heap.size≤k_)) v0_ r∧Below w.heap.size w w':=by
 unfold nat_add.f at h
 split at h
 ·rename_i hp
  obtain rfl:=Option.some.inj h
  simp only[Bool.and_eq_true,Bool.or_eq_true,decide_eq_true_eq] at hp
  obtain⟨⟨⟨⟨⟨h1,h2⟩,h3⟩,h4⟩,h5⟩,h6⟩:=hp
  have h3':=lm_le h3
  have h4':=lm_le h4
  obtain⟨k,hk⟩:∃ k:Nat,300000000≤k:=⟨_,nr_ _⟩
  exact Pn.nat_add.calls k A0 c0 l0 A1 c1 l1 a2 _ w hr0 hc0 hr1 hc1 (add_tells h5 (ok_of h1) (ok_of h2) (by omega) (by omega) h6 k hk)
 ·cases h
def nat_mul.f (l0 l1:List Int):Option (List Int):=if (limbsOk l0&&limbsOk l1&&lm l0&&lm l1)=true then some (lim (val l0 * val l1).toNat) else none
theorem nat_mul.calls (A0:Option Addr) (c0:Nat) (l0:List Int) (A1:Option Addr) (c1:Nat) (l1 r:List Int) (w:World) (hr0:Kd.C (Kd.int .i64) w A0 l0.length l0) (hc0:l0.length≤c0) (hr1:Kd.C (Kd.int .i64) w A1 l1.length l1) (hc1:l1.length≤c1) (h:nat_mul.f l0 l1=some r) :
  Calls Tryz.prog 105 #[.slice A0 l0.length c0,.slice A1 l1.length c1] w fun e w'=>∃ v0_:Value,e=.returned (v0_)∧Kd.V (Kd.int .i64) 3 w' w.heap.size (fun k_=>(w.heap.size≤k_)) v0_ r∧Below w.heap.size w w':=by
 unfold nat_mul.f at h
 split at h
 ·rename_i hp
  obtain rfl:=Option.some.inj h
  simp only[Bool.and_eq_true] at hp
  obtain⟨⟨⟨h1,h2⟩,h3⟩,h4⟩:=hp
  have h3':=lm_le h3
  have h4':=lm_le h4
  exact(Pn.nat_mulR.calls _ A0 c0 l0 A1 c1 l1 _ w hr0 hc0 hr1 hc1 (mul_tells (ok_of h1) (ok_of h2) (by omega) (by omega) _ (nr_ _))).mono fun e w' ⟨v,he,hR,hb⟩=>⟨v,he,Kd.R_V hR,hb⟩
 ·cases h
def nat_div.f (l0 l1:List Int):Option (List Int×List Int):=if (canon l0&&canon l1&&lm l0&&lm l1&&decide (val l1≠0))=true then some (lim ((val l0).toNat / (val l1).toNat),lim ((val l0).toNat % (val l1).toNat)) else none
theorem nat_div.calls (P0_:Nat→Prop) (A0:Option Addr) (c0:Nat) (l0:List Int) (A1:Option Addr) (c1:Nat) (l1 r1 r2:List Int) (w:World) (hs0:Kd.V (Kd.int .i64) 3 w w.heap.size (fun k_=>P0_ k_) (.slice A0 l0.length c0) l0) (hr1:Kd.C (Kd.int .i64) w A1 l1.length l1) (hc1:l1.length≤c1) (h:nat_div.f l0 l1=some (r1,r2)) :
  Calls Tryz.prog 103 #[.slice A0 l0.length c0,.slice A1 l1.length c1] w fun e w'=>∃ v0_ v1_:Value,e=.returned (.tuple #[v0_,v1_])∧Kd.V (Kd.int .i64) 3 w' w.heap.size (fun k_=>(P0_ k_∨w.heap.size≤k_)) v0_ r1∧Kd.V (Kd.int .i64) 3 w' w.heap.size (fun k_=>(P0_ k_∨w.heap.size≤k_)) v1_ r2∧Below w.heap.size w w':=by
 unfold nat_div.f at h
 split at h
 ·rename_i hp
  simp only[Bool.and_eq_true,decide_eq_true_eq] at hp
  obtain⟨⟨⟨⟨h1,h2⟩,h3⟩,h4⟩,h5⟩:=hp
  have h3':=lm_le h3
  have h4':=lm_le h4
  have e0:=canon_eq h1
  have e1:=canon_eq h2
  have h6:0<(val l1).toNat:=by
   rcases Nat.eq_zero_or_pos (val l1).toNat with e|e
   ·rw[e,lim_zero] at e1
    rw[e1] at h5
    exact absurd rfl h5
   ·exact e
  have ht:=div_tells (val l0).toNat (val l1).toNat h6 (by rw[← e0];omega) (by rw[← e1];omega) _ (nr_ _)
  rw[← e0,← e1] at ht
  rw[← ht] at h
  exact Pt.nat_div.calls _ P0_ A0 c0 l0 A1 c1 l1 r1 r2 w hs0 hr1 hc1 h
 ·cases h
def strconv_Itoa.f (a0:Int):Option ByteArray:=if -9223372036854775808≤a0∧a0≤9223372036854775807 then some (itoaB a0) else none
theorem strconv_Itoa.calls (a0:Int) (r:ByteArray) (w:World) (hL_:Laid w) (h:strconv_Itoa.f a0=some r) :
  Calls Tryz.prog 33 #[.int .i64 a0] w fun e w'=>e=.returned (.string r)∧Below w.heap.size w w':=by
 unfold strconv_Itoa.f at h
 split at h
 ·rename_i hp
  obtain rfl:=Option.some.inj h
  exact itoaB_calls a0 hp.1 hp.2 w hL_
 ·cases h
namespace Pr
def errW:Option Int→Value
 | none=>.nilIface
 | some c=>.iface 0 (.int .i64 c)
theorem errW_none:errW none=.nilIface:=rfl
theorem errW_some (c:Int):errW (some c)=.iface 0 (.int .i64 c):=rfl
end Pr
theorem lb_ {w w1 w2:World} (hL:Aside0 (Laid w)) (h:Aside0 (Below w.heap.size w w1)) (t:Below w.heap.size w w1→Below w.heap.size w w2:=by intro HB_;repeat(first|(with_reducible first|exact HB_|apply below_alloc|apply pw_below_drewN|apply below_drew1|refine below_set ?_ (Aside0.out (by with_reducible assumption)))|exact HB_)):Laid w2 :=
 Laid.below hL.out (t h.out)
namespace Pr
def nat_both.j0:Nat→ByteArray→ByteArray→Bool→Option (List Int×List Int×Bool)
 | 0,_,_,_=>none
 | k+1,x0,x1,x14=>if x14=true then (some (([]:List Int),([]:List Int),false)) else ((nat_read.f x0).bind fun t103=>((nat_read.f x1).bind fun t106=>(some (t103,t106,true))))
def nat_both.f (k:Nat) (a0 a1:ByteArray):Option (List Int×List Int×Bool):=(nat_May.f a0).bind fun t101=>(if t101=true then ((nat_May.f a1).bind fun t102=>(nat_both.j0 k a0 a1 (!t102))) else (nat_both.j0 k a0 a1 true))
theorem nat_both.calls (k:Nat) (a0 a1:ByteArray) (r1 r2:List Int) (r3:Bool) (w:World) (h:nat_both.f k a0 a1=some (r1,r2,r3)) :
  Calls Tryz.prog 102 #[.string a0,.string a1] w fun e w'=>∃ v0_ v1_:Value,e=.returned (.tuple #[v0_,v1_,.bool r3])∧Kd.V (Kd.int .i64) 3 w' w.heap.size (fun k_=>(w.heap.size≤k_)) v0_ r1∧Kd.V (Kd.int .i64) 3 w' w.heap.size (fun k_=>(w.heap.size≤k_)) v1_ r2∧Below w.heap.size w w':=by
 have HB:=ak_ (Below.refl w.heap.size w);have H:=h;unfold nat_both.f at H;clear h;have HC3:=ak_ H;clear H;go_in
 go_upto_region 1 with (fail)
 go_cut [14] (fun v14 wc=>∃ (kq:Nat) (x14_2:Bool),v14=.bool x14_2∧Aside0 (nat_both.j0 kq a0 a1 x14_2=some (r1,r2,r3))∧Aside0 (kq≤k)∧Aside0 (Below w.heap.size w wc))
 case first =>
  have H:=HC3.out;clear HC3;replace H:=bi_ H;obtain⟨t101,A4,H⟩:=H;replace H:=bt_ H;rcases H with ⟨rfl,H⟩|⟨rfl,H⟩
  ·replace H:=bi_ H;obtain⟨t102,A6,H⟩:=H;have H':=ak_ H;clear H
   go_wp2_with (first|(refine gm_ 8 Tryz.func79 (nat_May.calls _ _ _ A4.out) ?_;intro w7 hb;replace HB:=bs_ HB hb;(try clear hb))|(go_at_call 79;(with_reducible refine(nat_May.calls _ _ _ A6.out).mono ?_);rintro e w8 ⟨rfl,hb⟩;replace HB:=bs_ HB hb;(try clear hb)))
   go_meet
   case rel=>exact⟨_,(!t102),rl_,H',⟨nk_⟩,⟨b_ HB.out⟩⟩
  ·have H':=ak_ H;clear H
   go_wp2_with ((refine gm_ 8 Tryz.func79 (nat_May.calls _ _ _ A4.out) ?_;intro w9 hb;replace HB:=bs_ HB hb;(try clear hb)))
   go_meet
   case rel=>exact⟨_,(true),rl_,H',⟨nk_⟩,⟨b_ HB.out⟩⟩
 case rest =>
  clear HC3;obtain⟨kq,x14_2,rfl,HA,HJ2,HB⟩:=hcut
  cases kq with
  | zero=>exact absurd HA.out (by simp[nat_both.j0])
  | succ kj2 =>
   have H:=HA.out;clear HA;simp only[nat_both.j0] at H;replace H:=bt_ H;rcases H with ⟨rfl,H⟩|⟨rfl,H⟩
   ·replace H:=pi3_ H;obtain⟨rfl,rfl,rfl⟩:=H;go_wp2
    go_ret3
    exact⟨(.slice none 0 0),(.slice none 0 0),er_,Kd.V_nil _ _ _ _ _,Kd.V_nil _ _ _ _ _,b_ HB.out⟩
   ·replace H:=bi_ H;obtain⟨t103,A11,H⟩:=H;replace H:=bi_ H;obtain⟨t106,A12,H⟩:=H;replace H:=pi3_ H;obtain⟨rfl,rfl,rfl⟩:=H
    go_wp2_with (first|(refine gl_ 16 Tryz.func138 #[.string a0] ?_;(with_reducible refine(nat_read.calls _ _ _ A11.out).mono ?_);rintro e w13 ⟨v104,rfl,ho0,hb⟩;refine⟨_,rfl,?_⟩;have HO105:=ak_ (Kd.V_lower (Kd.V_mono (ok':=fun k_=>(w.heap.size≤k_)) ho0 (fun k_ hk_=>(Nat.le_trans (below_size (b_ HB.out)) hk_))) (below_size (b_ HB.out)));replace HB:=bs_ HB hb;(try clear hb);(try clear ho0))|(refine gl_ 18 Tryz.func138 #[.string a1] ?_;(with_reducible refine(nat_read.calls _ _ _ A12.out).mono ?_);rintro e w14 ⟨v107,rfl,ho0,hb⟩;refine⟨_,rfl,?_⟩;have HO108:=ak_ (Kd.V_lower (Kd.V_mono (ok':=fun k_=>(w.heap.size≤k_)) ho0 (fun k_ hk_=>(Nat.le_trans (below_size (b_ HB.out)) hk_))) (below_size (b_ HB.out)));replace HO105:=ak_ (Kd.V_below (v_ HO105.out) hb);replace HB:=bs_ HB hb;(try clear hb);(try clear ho0)))
    go_ret3
    exact⟨_,_,er_,by(with_reducible repeat(first|apply Kd.V_alloc|apply Kd.V_drewN|apply Kd.V_drew));exact HO105.out,by(with_reducible repeat(first|apply Kd.V_alloc|apply Kd.V_drewN|apply Kd.V_drew));exact HO108.out,b_ HB.out⟩
def nat_Add.f (k:Nat) (a0 a1:ByteArray):Option (ByteArray):=(nat_both.f k a0 a1).bind fun bt109=>(if bt109.2.2=true then ((nat_add.f bt109.1 bt109.2.1 1).bind fun t116=>((nat_limbs_text.f t116).bind fun t119=>(some t119))) else (some (⟨#[]⟩:ByteArray)))
theorem nat_Add.calls (k:Nat) (a0 a1 r:ByteArray) (w:World) (hL_:Laid w) (h:nat_Add.f k a0 a1=some r) :
  Calls Tryz.prog 176 #[.string a0,.string a1] w fun e w'=>e=.returned (.string r)∧Below w.heap.size w w':=by
 have HLD:=ak_ hL_;clear hL_;have HB:=ak_ (Below.refl w.heap.size w);have H:=h;unfold nat_Add.f at H;clear h;replace H:=bi_ H;obtain⟨⟨t109,t112,t115⟩,A3,H⟩:=H;(try dsimp only at H);replace H:=bt_ H;rcases H with ⟨rfl,H⟩|⟨rfl,H⟩
 ·replace H:=bi_ H;obtain⟨t116,A5,H⟩:=H;replace H:=bi_ H;obtain⟨t119,A6,H⟩:=H;obtain rfl:=oi_ H;go_in
  go_wp2_with (first|(refine gl_ 11 Tryz.func102 #[.string a0,.string a1] ?_;(with_reducible refine(nat_both.calls _ _ _ _ _ _ _ A3.out).mono ?_);rintro e w7 ⟨v110,v113,rfl,ho0,ho1,hb⟩;refine⟨_,rfl,?_⟩;have HO111:=ak_ (Kd.V_lower (Kd.V_mono (ok':=fun k_=>True) ho0 (fun k_ hk_=>trivial)) (below_size (b_ HB.out)));have HO114:=ak_ (Kd.V_lower (Kd.V_mono (ok':=fun k_=>True) ho1 (fun k_ hk_=>trivial)) (below_size (b_ HB.out)));replace HB:=bs_ HB hb;(try clear hb);(try clear ho0);(try clear ho1);obtain⟨Ao8,co8,eo8⟩:=Kd.V_slice HO111.out;subst eo8;obtain⟨Ao9,co9,eo9⟩:=Kd.V_slice HO114.out;subst eo9)|(refine gl_ 19 Tryz.func185 #[.slice Ao8 t109.length co8,.slice Ao9 t112.length co9,.int .i64 1] ?_;(with_reducible refine(nat_add.calls _ _ _ _ _ _ _ _ _ ?side1 ?side2 ?side3 ?side4 A5.out).mono ?_);(case side1=>exact c_ (Kd.V_reads' HO111.out).2.2);(case side2=>exact(Kd.V_reads' HO111.out).2.1);(case side3=>exact c_ (Kd.V_reads' HO114.out).2.2);(case side4=>exact(Kd.V_reads' HO114.out).2.1);rintro e w10 ⟨v117,rfl,ho0,hb⟩;refine⟨_,rfl,?_⟩;have HO118:=ak_ (Kd.V_lower (Kd.V_mono (ok':=fun k_=>True) ho0 (fun k_ hk_=>trivial)) (below_size (b_ HB.out)));replace HO111:=ak_ (Kd.V_below (v_ HO111.out) hb);replace HO114:=ak_ (Kd.V_below (v_ HO114.out) hb);replace HB:=bs_ HB hb;(try clear hb);(try clear ho0);obtain⟨Ao11,co11,eo11⟩:=Kd.V_slice HO118.out;subst eo11)|(refine gl_ 20 Tryz.func104 #[.slice Ao11 t116.length co11] ?_;(with_reducible refine(nat_limbs_text.calls _ _ _ _ _ ?side1 ?side2 ?side3 A6.out).mono ?_);(case side1=>exact c_ (Kd.V_reads' HO118.out).2.2);(case side2=>exact(Kd.V_reads' HO118.out).2.1);(case side3=>exact lb_ HLD HB);rintro e w12 ⟨rfl,hb⟩;refine⟨_,rfl,?_⟩;replace HO111:=ak_ (Kd.V_below (v_ HO111.out) hb);replace HO114:=ak_ (Kd.V_below (v_ HO114.out) hb);replace HO118:=ak_ (Kd.V_below (v_ HO118.out) hb);replace HB:=bs_ HB hb;(try clear hb)))
  go_ret
  exact⟨er_,b_ HB.out⟩
 ·obtain rfl:=oi_ H;go_in
  go_wp2_with ((refine gl_ 11 Tryz.func102 #[.string a0,.string a1] ?_;(with_reducible refine(nat_both.calls _ _ _ _ _ _ _ A3.out).mono ?_);rintro e w13 ⟨v110,v113,rfl,ho0,ho1,hb⟩;refine⟨_,rfl,?_⟩;have HO111:=ak_ (Kd.V_lower (Kd.V_mono (ok':=fun k_=>True) ho0 (fun k_ hk_=>trivial)) (below_size (b_ HB.out)));have HO114:=ak_ (Kd.V_lower (Kd.V_mono (ok':=fun k_=>True) ho1 (fun k_ hk_=>trivial)) (below_size (b_ HB.out)));replace HB:=bs_ HB hb;(try clear hb);(try clear ho0);(try clear ho1)))
  go_ret
  exact⟨er_,b_ HB.out⟩
def nat_Sub.j0:Nat→List Int→List Int→Bool→Option (ByteArray×Bool)
 | 0,_,_,_=>none
 | k+1,x6,x7,x23=>if x23=true then (some ((⟨#[]⟩:ByteArray),false)) else ((nat_add.f x6 x7 (-1)).bind fun t128=>((nat_limbs_text.f t128).bind fun t131=>(some (t131,true))))
def nat_Sub.f (k:Nat) (a0 a1:ByteArray):Option (ByteArray×Bool):=(nat_both.f k a0 a1).bind fun bt120=>(if bt120.2.2=true then ((nat_compare.f bt120.1 bt120.2.1).bind fun t127=>(nat_Sub.j0 k bt120.1 bt120.2.1 (decide (t127<0)))) else (nat_Sub.j0 k bt120.1 bt120.2.1 true))
theorem nat_Sub.calls (k:Nat) (a0 a1 r1:ByteArray) (r2:Bool) (w:World) (hL_:Laid w) (h:nat_Sub.f k a0 a1=some (r1,r2)) :
  Calls Tryz.prog 177 #[.string a0,.string a1] w fun e w'=>e=.returned (.tuple #[.string r1,.bool r2])∧Below w.heap.size w w':=by
 have HLD:=ak_ hL_;clear hL_;have HB:=ak_ (Below.refl w.heap.size w);have H:=h;unfold nat_Sub.f at H;clear h;replace H:=bi_ H;obtain⟨⟨t120,t123,t126⟩,A3,H⟩:=H;(try dsimp only at H);have HC4:=ak_ H;clear H;go_in
 go_upto_region 2 with (first|(refine gl_ 12 Tryz.func102 #[.string a0,.string a1] ?_;(with_reducible refine(nat_both.calls _ _ _ _ _ _ _ A3.out).mono ?_);rintro e w5 ⟨v121,v124,rfl,ho0,ho1,hb⟩;refine⟨_,rfl,?_⟩;have HO122:=ak_ (Kd.V_lower (Kd.V_mono (ok':=fun k_=>True) ho0 (fun k_ hk_=>trivial)) (below_size (b_ HB.out)));have HO125:=ak_ (Kd.V_lower (Kd.V_mono (ok':=fun k_=>True) ho1 (fun k_ hk_=>trivial)) (below_size (b_ HB.out)));replace HB:=bs_ HB hb;(try clear hb);(try clear ho0);(try clear ho1)))
 (try simp only[Act.put,List.setIfInBounds_toArray,List.set_cons_zero,List.set_cons_succ])
 go_cut [23] (fun v23 wc=>∃ (kq:Nat) (x23_3:Bool),v23=.bool x23_3∧Aside0 (nat_Sub.j0 kq t120 t123 x23_3=some (r1,r2))∧Aside0 (kq≤k)∧Aside0 (Kd.V (Kd.int .i64) 3 wc w.heap.size (fun _=>True) v121 t120)∧Aside0 (Kd.V (Kd.int .i64) 3 wc w.heap.size (fun _=>True) v124 t123)∧Aside0 (Below w.heap.size w wc))
 case first =>
  have H:=HC4.out;clear HC4;replace H:=bt_ H;rcases H with ⟨rfl,H⟩|⟨rfl,H⟩
  ·replace H:=bi_ H;obtain⟨t127,A7,H⟩:=H;have H':=ak_ H;clear H;obtain⟨Ao8,co8,eo8⟩:=Kd.V_slice HO122.out;subst eo8;obtain⟨Ao9,co9,eo9⟩:=Kd.V_slice HO125.out;subst eo9
   go_wp2_with ((go_at_call 139;(with_reducible refine(nat_compare.calls _ _ _ _ _ _ _ _ ?side1 ?side2 ?side3 ?side4 A7.out).mono ?_);(case side1=>exact c_ (Kd.V_reads' HO122.out).2.2);(case side2=>exact(Kd.V_reads' HO122.out).2.1);(case side3=>exact c_ (Kd.V_reads' HO125.out).2.2);(case side4=>exact(Kd.V_reads' HO125.out).2.1);rintro e w10 ⟨rfl,hb⟩;replace HO122:=ak_ (Kd.V_below (v_ HO122.out) hb);replace HO125:=ak_ (Kd.V_below (v_ HO125.out) hb);replace HB:=bs_ HB hb;(try clear hb)))
   go_meet
   case rel=>exact⟨_,(decide (t127<0)),rl_,H',⟨nk_⟩,⟨by(with_reducible repeat(first|apply Kd.V_alloc|apply Kd.V_drewN|apply Kd.V_drew));exact HO122.out⟩,⟨by(with_reducible repeat(first|apply Kd.V_alloc|apply Kd.V_drewN|apply Kd.V_drew));exact HO125.out⟩,⟨b_ HB.out⟩⟩
  ·have H':=ak_ H;clear H;go_wp2
   go_meet
   case rel=>exact⟨_,(true),rl_,H',⟨nk_⟩,⟨by(with_reducible repeat(first|apply Kd.V_alloc|apply Kd.V_drewN|apply Kd.V_drew));exact HO122.out⟩,⟨by(with_reducible repeat(first|apply Kd.V_alloc|apply Kd.V_drewN|apply Kd.V_drew));exact HO125.out⟩,⟨b_ HB.out⟩⟩
 case rest =>
  clear HC4;obtain⟨kq,x23_3,rfl,HA,HJ3,HO_6,HO_7,HB⟩:=hcut
  cases kq with
  | zero=>exact absurd HA.out (by simp[nat_Sub.j0])
  | succ kj3 =>
   have H:=HA.out;clear HA;simp only[nat_Sub.j0] at H;replace H:=bt_ H;rcases H with ⟨rfl,H⟩|⟨rfl,H⟩
   ·replace H:=pi2_ H;obtain⟨rfl,rfl⟩:=H;go_wp2;go_ret2;exact⟨er_,b_ HB.out⟩
   ·replace H:=bi_ H;obtain⟨t128,A12,H⟩:=H;replace H:=bi_ H;obtain⟨t131,A13,H⟩:=H;replace H:=pi2_ H;obtain⟨rfl,rfl⟩:=H;obtain⟨Ao14,co14,eo14⟩:=Kd.V_slice HO_6.out;subst eo14;obtain⟨Ao15,co15,eo15⟩:=Kd.V_slice HO_7.out;subst eo15
    go_wp2_with (first|(refine gl_ 26 Tryz.func185 #[.slice Ao14 t120.length co14,.slice Ao15 t123.length co15,.int .i64 (-1)] ?_;(with_reducible refine(nat_add.calls _ _ _ _ _ _ _ _ _ ?side1 ?side2 ?side3 ?side4 A12.out).mono ?_);(case side1=>exact c_ (Kd.V_reads' HO_6.out).2.2);(case side2=>exact(Kd.V_reads' HO_6.out).2.1);(case side3=>exact c_ (Kd.V_reads' HO_7.out).2.2);(case side4=>exact(Kd.V_reads' HO_7.out).2.1);rintro e w16 ⟨v129,rfl,ho0,hb⟩;refine⟨_,rfl,?_⟩;have HO130:=ak_ (Kd.V_lower (Kd.V_mono (ok':=fun k_=>True) ho0 (fun k_ hk_=>trivial)) (below_size (b_ HB.out)));replace HO_6:=ak_ (Kd.V_below (v_ HO_6.out) hb);replace HO_7:=ak_ (Kd.V_below (v_ HO_7.out) hb);replace HB:=bs_ HB hb;(try clear hb);(try clear ho0);obtain⟨Ao17,co17,eo17⟩:=Kd.V_slice HO130.out;subst eo17)|(refine gl_ 27 Tryz.func104 #[.slice Ao17 t128.length co17] ?_;(with_reducible refine(nat_limbs_text.calls _ _ _ _ _ ?side1 ?side2 ?side3 A13.out).mono ?_);(case side1=>exact c_ (Kd.V_reads' HO130.out).2.2);(case side2=>exact(Kd.V_reads' HO130.out).2.1);(case side3=>exact lb_ HLD HB);rintro e w18 ⟨rfl,hb⟩;refine⟨_,rfl,?_⟩;replace HO_6:=ak_ (Kd.V_below (v_ HO_6.out) hb);replace HO_7:=ak_ (Kd.V_below (v_ HO_7.out) hb);replace HO130:=ak_ (Kd.V_below (v_ HO130.out) hb);replace HB:=bs_ HB hb;(try clear hb)))
    go_ret2;exact⟨er_,b_ HB.out⟩
def nat_Mul.f (k:Nat) (a0 a1:ByteArray):Option (ByteArray):=(nat_both.f k a0 a1).bind fun bt132=>(if bt132.2.2=true then ((nat_mul.f bt132.1 bt132.2.1).bind fun t139=>((nat_limbs_text.f t139).bind fun t142=>(some t142))) else (some (⟨#[]⟩:ByteArray)))
theorem nat_Mul.calls (k:Nat) (a0 a1 r:ByteArray) (w:World) (hL_:Laid w) (h:nat_Mul.f k a0 a1=some r) :
  Calls Tryz.prog 61 #[.string a0,.string a1] w fun e w'=>e=.returned (.string r)∧Below w.heap.size w w':=by
 have HLD:=ak_ hL_;clear hL_;have HB:=ak_ (Below.refl w.heap.size w);have H:=h;unfold nat_Mul.f at H;clear h;replace H:=bi_ H;obtain⟨⟨t132,t135,t138⟩,A3,H⟩:=H;(try dsimp only at H);replace H:=bt_ H;rcases H with ⟨rfl,H⟩|⟨rfl,H⟩
 ·replace H:=bi_ H;obtain⟨t139,A5,H⟩:=H;replace H:=bi_ H;obtain⟨t142,A6,H⟩:=H;obtain rfl:=oi_ H;go_in
  go_wp2_with (first|(refine gl_ 11 Tryz.func102 #[.string a0,.string a1] ?_;(with_reducible refine(nat_both.calls _ _ _ _ _ _ _ A3.out).mono ?_);rintro e w7 ⟨v133,v136,rfl,ho0,ho1,hb⟩;refine⟨_,rfl,?_⟩;have HO134:=ak_ (Kd.V_lower (Kd.V_mono (ok':=fun k_=>True) ho0 (fun k_ hk_=>trivial)) (below_size (b_ HB.out)));have HO137:=ak_ (Kd.V_lower (Kd.V_mono (ok':=fun k_=>True) ho1 (fun k_ hk_=>trivial)) (below_size (b_ HB.out)));replace HB:=bs_ HB hb;(try clear hb);(try clear ho0);(try clear ho1);obtain⟨Ao8,co8,eo8⟩:=Kd.V_slice HO134.out;subst eo8;obtain⟨Ao9,co9,eo9⟩:=Kd.V_slice HO137.out;subst eo9)|(refine gl_ 19 Tryz.func105 #[.slice Ao8 t132.length co8,.slice Ao9 t135.length co9] ?_;(with_reducible refine(nat_mul.calls _ _ _ _ _ _ _ _ ?side1 ?side2 ?side3 ?side4 A5.out).mono ?_);(case side1=>exact c_ (Kd.V_reads' HO134.out).2.2);(case side2=>exact(Kd.V_reads' HO134.out).2.1);(case side3=>exact c_ (Kd.V_reads' HO137.out).2.2);(case side4=>exact(Kd.V_reads' HO137.out).2.1);rintro e w10 ⟨v140,rfl,ho0,hb⟩;refine⟨_,rfl,?_⟩;have HO141:=ak_ (Kd.V_lower (Kd.V_mono (ok':=fun k_=>True) ho0 (fun k_ hk_=>trivial)) (below_size (b_ HB.out)));replace HO134:=ak_ (Kd.V_below (v_ HO134.out) hb);replace HO137:=ak_ (Kd.V_below (v_ HO137.out) hb);replace HB:=bs_ HB hb;(try clear hb);(try clear ho0);obtain⟨Ao11,co11,eo11⟩:=Kd.V_slice HO141.out;subst eo11)|(refine gl_ 20 Tryz.func104 #[.slice Ao11 t139.length co11] ?_;(with_reducible refine(nat_limbs_text.calls _ _ _ _ _ ?side1 ?side2 ?side3 A6.out).mono ?_);(case side1=>exact c_ (Kd.V_reads' HO141.out).2.2);(case side2=>exact(Kd.V_reads' HO141.out).2.1);(case side3=>exact lb_ HLD HB);rintro e w12 ⟨rfl,hb⟩;refine⟨_,rfl,?_⟩;replace HO134:=ak_ (Kd.V_below (v_ HO134.out) hb);replace HO137:=ak_ (Kd.V_below (v_ HO137.out) hb);replace HO141:=ak_ (Kd.V_below (v_ HO141.out) hb);replace HB:=bs_ HB hb;(try clear hb)))
  go_ret
  exact⟨er_,b_ HB.out⟩
 ·obtain rfl:=oi_ H;go_in
  go_wp2_with ((refine gl_ 11 Tryz.func102 #[.string a0,.string a1] ?_;(with_reducible refine(nat_both.calls _ _ _ _ _ _ _ A3.out).mono ?_);rintro e w13 ⟨v133,v136,rfl,ho0,ho1,hb⟩;refine⟨_,rfl,?_⟩;have HO134:=ak_ (Kd.V_lower (Kd.V_mono (ok':=fun k_=>True) ho0 (fun k_ hk_=>trivial)) (below_size (b_ HB.out)));have HO137:=ak_ (Kd.V_lower (Kd.V_mono (ok':=fun k_=>True) ho1 (fun k_ hk_=>trivial)) (below_size (b_ HB.out)));replace HB:=bs_ HB hb;(try clear hb);(try clear ho0);(try clear ho1)))
  go_ret
  exact⟨er_,b_ HB.out⟩
def nat_Div.j0:Nat→List Int→List Int→Bool→Option (ByteArray×ByteArray×Bool)
 | 0,_,_,_=>none
 | k+1,x7,x8,x25=>if x25=true then (some ((⟨#[]⟩:ByteArray),(⟨#[]⟩:ByteArray),false)) else ((nat_div.f x7 x8).bind fun bt150=>((nat_limbs_text.f bt150.1).bind fun t156=>((nat_limbs_text.f bt150.2).bind fun t157=>(some (t156,t157,true)))))
def nat_Div.f (k:Nat) (a0 a1:ByteArray):Option (ByteArray×ByteArray×Bool):=(nat_both.f k a0 a1).bind fun bt143=>(if bt143.2.2=true then (nat_Div.j0 k bt143.1 bt143.2.1 ((bt143.2.1.length:Int) == 0)) else (nat_Div.j0 k bt143.1 bt143.2.1 true))
theorem nat_Div.calls (k:Nat) (a0 a1 r1 r2:ByteArray) (r3:Bool) (w:World) (hL_:Laid w) (h:nat_Div.f k a0 a1=some (r1,r2,r3)) :
  Calls Tryz.prog 59 #[.string a0,.string a1] w fun e w'=>e=.returned (.tuple #[.string r1,.string r2,.bool r3])∧Below w.heap.size w w':=by
 have HLD:=ak_ hL_;clear hL_;have HB:=ak_ (Below.refl w.heap.size w);have H:=h;unfold nat_Div.f at H;clear h;replace H:=bi_ H;obtain⟨⟨t143,t146,t149⟩,A3,H⟩:=H;(try dsimp only at H);have HC4:=ak_ H;clear H;go_in
 go_upto_region 2 with (first|(refine gl_ 15 Tryz.func102 #[.string a0,.string a1] ?_;(with_reducible refine(nat_both.calls _ _ _ _ _ _ _ A3.out).mono ?_);rintro e w5 ⟨v144,v147,rfl,ho0,ho1,hb⟩;refine⟨_,rfl,?_⟩;have HO145:=ak_ (Kd.V_lower (Kd.V_mono (ok':=fun k_=>True) ho0 (fun k_ hk_=>trivial)) (below_size (b_ HB.out)));have HO148:=ak_ (Kd.V_lower (Kd.V_mono (ok':=fun k_=>True) ho1 (fun k_ hk_=>trivial)) (below_size (b_ HB.out)));replace HB:=bs_ HB hb;(try clear hb);(try clear ho0);(try clear ho1)))
 (try simp only[Act.put,List.setIfInBounds_toArray,List.set_cons_zero,List.set_cons_succ])
 go_cut [25] (fun v25 wc=>∃ (kq:Nat) (x25_3:Bool),v25=.bool x25_3∧Aside0 (nat_Div.j0 kq t143 t146 x25_3=some (r1,r2,r3))∧Aside0 (kq≤k)∧Aside0 (Kd.V (Kd.int .i64) 3 wc w.heap.size (fun _=>True) v144 t143)∧Aside0 (Kd.V (Kd.int .i64) 3 wc w.heap.size (fun _=>True) v147 t146)∧Aside0 (Below w.heap.size w wc))
 case first =>
  have H:=HC4.out;clear HC4;replace H:=bt_ H;rcases H with ⟨rfl,H⟩|⟨rfl,H⟩
  ·have H':=ak_ H;clear H;obtain⟨Ao7,co7,eo7⟩:=Kd.V_slice HO148.out;subst eo7;go_wp2
   go_meet
   case rel=>exact⟨_,(((t146.length:Int) == 0)),rl_,H',⟨nk_⟩,⟨by(with_reducible repeat(first|apply Kd.V_alloc|apply Kd.V_drewN|apply Kd.V_drew));exact HO145.out⟩,⟨by(with_reducible repeat(first|apply Kd.V_alloc|apply Kd.V_drewN|apply Kd.V_drew));exact HO148.out⟩,⟨b_ HB.out⟩⟩
  ·have H':=ak_ H;clear H;go_wp2
   go_meet
   case rel=>exact⟨_,(true),rl_,H',⟨nk_⟩,⟨by(with_reducible repeat(first|apply Kd.V_alloc|apply Kd.V_drewN|apply Kd.V_drew));exact HO145.out⟩,⟨by(with_reducible repeat(first|apply Kd.V_alloc|apply Kd.V_drewN|apply Kd.V_drew));exact HO148.out⟩,⟨b_ HB.out⟩⟩
 case rest =>
  clear HC4;obtain⟨kq,x25_3,rfl,HA,HJ3,HO_7,HO_8,HB⟩:=hcut
  cases kq with
  | zero=>exact absurd HA.out (by simp[nat_Div.j0])
  | succ kj3 =>
   have H:=HA.out;clear HA;simp only[nat_Div.j0] at H;replace H:=bt_ H;rcases H with ⟨rfl,H⟩|⟨rfl,H⟩
   ·replace H:=pi3_ H;obtain⟨rfl,rfl,rfl⟩:=H;go_wp2
    go_ret3
    exact⟨er_,b_ HB.out⟩
   ·replace H:=bi_ H;obtain⟨⟨t150,t153⟩,A9,H⟩:=H;(try dsimp only at H);replace H:=bi_ H;obtain⟨t156,A10,H⟩:=H;replace H:=bi_ H;obtain⟨t157,A11,H⟩:=H;replace H:=pi3_ H;obtain⟨rfl,rfl,rfl⟩:=H;obtain⟨Ao12,co12,eo12⟩:=Kd.V_slice HO_7.out;subst eo12;obtain⟨Ao13,co13,eo13⟩:=Kd.V_slice HO_8.out;subst eo13
    go_wp2_with (first|(refine gl_ 29 Tryz.func103 #[.slice Ao12 t143.length co12,.slice Ao13 t146.length co13] ?_;(with_reducible refine(nat_div.calls (fun k_=>True) _ _ _ _ _ _ _ _ _ ?side1 ?side2 ?side3 A9.out).mono ?_);(case side1=>exact HO_7.out);(case side2=>exact c_ (Kd.V_reads' HO_8.out).2.2);(case side3=>exact(Kd.V_reads' HO_8.out).2.1);rintro e w14 ⟨v151,v154,rfl,ho0,ho1,hb⟩;refine⟨_,rfl,?_⟩;have HO152:=ak_ (Kd.V_lower (Kd.V_mono (ok':=fun k_=>True) ho0 (fun k_ hk_=>trivial)) (below_size (b_ HB.out)));have HO155:=ak_ (Kd.V_lower (Kd.V_mono (ok':=fun k_=>True) ho1 (fun k_ hk_=>trivial)) (below_size (b_ HB.out)));replace HO_7:=ak_ (Kd.V_below (v_ HO_7.out) hb);replace HO_8:=ak_ (Kd.V_below (v_ HO_8.out) hb);replace HB:=bs_ HB hb;(try clear hb);(try clear ho0);(try clear ho1);obtain⟨Ao15,co15,eo15⟩:=Kd.V_slice HO152.out;subst eo15)|(refine gl_ 33 Tryz.func104 #[.slice Ao15 t150.length co15] ?_;(with_reducible refine(nat_limbs_text.calls _ _ _ _ _ ?side1 ?side2 ?side3 A10.out).mono ?_);(case side1=>exact c_ (Kd.V_reads' HO152.out).2.2);(case side2=>exact(Kd.V_reads' HO152.out).2.1);(case side3=>exact lb_ HLD HB);rintro e w16 ⟨rfl,hb⟩;refine⟨_,rfl,?_⟩;replace HO_7:=ak_ (Kd.V_below (v_ HO_7.out) hb);replace HO_8:=ak_ (Kd.V_below (v_ HO_8.out) hb);replace HO152:=ak_ (Kd.V_below (v_ HO152.out) hb);replace HO155:=ak_ (Kd.V_below (v_ HO155.out) hb);replace HB:=bs_ HB hb;(try clear hb);obtain⟨Ao17,co17,eo17⟩:=Kd.V_slice HO155.out;subst eo17)|(refine gl_ 35 Tryz.func104 #[.slice Ao17 t153.length co17] ?_;(with_reducible refine(nat_limbs_text.calls _ _ _ _ _ ?side1 ?side2 ?side3 A11.out).mono ?_);(case side1=>exact c_ (Kd.V_reads' HO155.out).2.2);(case side2=>exact(Kd.V_reads' HO155.out).2.1);(case side3=>exact lb_ HLD HB);rintro e w18 ⟨rfl,hb⟩;refine⟨_,rfl,?_⟩;replace HO_7:=ak_ (Kd.V_below (v_ HO_7.out) hb);replace HO_8:=ak_ (Kd.V_below (v_ HO_8.out) hb);replace HO152:=ak_ (Kd.V_below (v_ HO152.out) hb);replace HO155:=ak_ (Kd.V_below (v_ HO155.out) hb);replace HB:=bs_ HB hb;(try clear hb)))
    go_ret3
    exact⟨er_,b_ HB.out⟩
def nat_Gcd.l0:Nat→List Int→List Int→Option (ByteArray)
 | 0,_,_=>none
 | k+1,x5,x6=>if (x6.length:Int)>0 then ((nat_div.f x5 x6).bind fun bt165=>(nat_Gcd.l0 k x6 bt165.2)) else ((nat_limbs_text.f x5).bind fun t171=>(some t171))
def nat_Gcd.f (k:Nat) (a0 a1:ByteArray):Option (ByteArray):=(nat_both.f k a0 a1).bind fun bt158=>(if bt158.2.2=true then (nat_Gcd.l0 k bt158.1 bt158.2.1) else (some (⟨#[]⟩:ByteArray)))
theorem nat_Gcd.calls (k:Nat) (a0 a1 r:ByteArray) (w:World) (hL_:Laid w) (h:nat_Gcd.f k a0 a1=some r) :
  Calls Tryz.prog 99 #[.string a0,.string a1] w fun e w'=>e=.returned (.string r)∧Below w.heap.size w w':=by
 have HLD:=ak_ hL_;clear hL_;have HB:=ak_ (Below.refl w.heap.size w);have H:=h;unfold nat_Gcd.f at H;clear h;replace H:=bi_ H;obtain⟨⟨t158,t161,t164⟩,A3,H⟩:=H;(try dsimp only at H);replace H:=bt_ H;rcases H with ⟨rfl,H⟩|⟨rfl,H⟩
 ·have H':=ak_ H;clear H;go_in
  go_wp2_with ((refine gl_ 13 Tryz.func102 #[.string a0,.string a1] ?_;(with_reducible refine(nat_both.calls _ _ _ _ _ _ _ A3.out).mono ?_);rintro e w5 ⟨v159,v162,rfl,ho0,ho1,hb⟩;refine⟨_,rfl,?_⟩;have HO160:=ak_ (Kd.V_lower (Kd.V_mono (ok':=fun k_=>True) ho0 (fun k_ hk_=>trivial)) (below_size (b_ HB.out)));have HO163:=ak_ (Kd.V_lower (Kd.V_mono (ok':=fun k_=>True) ho1 (fun k_ hk_=>trivial)) (below_size (b_ HB.out)));replace HB:=bs_ HB hb;(try clear hb);(try clear ho0);(try clear ho1)))
  go_loopg [5,6] k (fun kq v5 v6 w'=>∃ (x5_1 x6_1:List Int),Aside0 (nat_Gcd.l0 kq x5_1 x6_1=some r)∧Aside0 (kq≤k)∧Aside0 (Kd.V (Kd.int .i64) 3 w' w.heap.size (fun _=>True) v5 x5_1)∧Aside0 (Kd.V (Kd.int .i64) 3 w' w.heap.size (fun _=>True) v6 x6_1)∧Aside0 (Below w.heap.size w w'))
  case atStart=>exact⟨(t158),(t161),H',⟨nr_ _⟩,⟨by(with_reducible repeat(first|apply Kd.V_alloc|apply Kd.V_drewN|apply Kd.V_drew));exact HO160.out⟩,⟨by(with_reducible repeat(first|apply Kd.V_alloc|apply Kd.V_drewN|apply Kd.V_drew));exact HO163.out⟩,⟨b_ HB.out⟩⟩
  case round =>
   clear H';obtain⟨x5_1,x6_1,HA,HK1,HO_5,HO_6,HB⟩:=hrel
   cases gk with
   | zero=>exact absurd HA.out (by simp[nat_Gcd.l0])
   | succ k1 =>
    have H:=HA.out;clear HA;simp only[nat_Gcd.l0] at H;replace H:=bw_ H;rcases H with ⟨c6,H⟩|⟨c6,H⟩
    ·have c6b0:decide (0<(x6_1.length:Int))=true:=decide_eq_true c6;have c6b1:decide (0<x6_1.length)=true:=decide_eq_true (by omega);clear c6;replace H:=bi_ H;obtain⟨⟨t165,t168⟩,A7,H⟩:=H;(try dsimp only at H);have H':=ak_ H;clear H;obtain⟨Ao8,co8,eo8⟩:=Kd.V_slice HO_6.out;subst eo8;obtain⟨Ao9,co9,eo9⟩:=Kd.V_slice HO_5.out;subst eo9
     go_wp2_with ((refine gl_ 25 Tryz.func103 #[.slice Ao9 x5_1.length co9,.slice Ao8 x6_1.length co8] ?_;(with_reducible refine(nat_div.calls (fun k_=>True) _ _ _ _ _ _ _ _ _ ?side1 ?side2 ?side3 A7.out).mono ?_);(case side1=>exact HO_5.out);(case side2=>exact c_ (Kd.V_reads' HO_6.out).2.2);(case side3=>exact(Kd.V_reads' HO_6.out).2.1);rintro e w10 ⟨v166,v169,rfl,ho0,ho1,hb⟩;refine⟨_,rfl,?_⟩;have HO167:=ak_ (Kd.V_lower (Kd.V_mono (ok':=fun k_=>True) ho0 (fun k_ hk_=>trivial)) (below_size (b_ HB.out)));have HO170:=ak_ (Kd.V_lower (Kd.V_mono (ok':=fun k_=>True) ho1 (fun k_ hk_=>trivial)) (below_size (b_ HB.out)));replace HO_5:=ak_ (Kd.V_below (v_ HO_5.out) hb);replace HO_6:=ak_ (Kd.V_below (v_ HO_6.out) hb);replace HB:=bs_ HB hb;(try clear hb);(try clear ho0);(try clear ho1)))
     go_roundg k1
     case measure=>have:=HK1.out;omega
     case rel=>exact⟨(x6_1),(t168),H',⟨by have:=HK1.out;omega⟩,⟨by(with_reducible repeat(first|apply Kd.V_alloc|apply Kd.V_drewN|apply Kd.V_drew));exact HO_6.out⟩,⟨by(with_reducible repeat(first|apply Kd.V_alloc|apply Kd.V_drewN|apply Kd.V_drew));exact HO170.out⟩,⟨b_ HB.out⟩⟩
    ·have c6b0:decide (0<(x6_1.length:Int))=false:=decide_eq_false c6;have c6b1:decide (0<x6_1.length)=false:=decide_eq_false (by omega);clear c6;replace H:=bi_ H;obtain⟨t171,A11,H⟩:=H;obtain rfl:=oi_ H;obtain⟨Ao12,co12,eo12⟩:=Kd.V_slice HO_6.out;subst eo12;obtain⟨Ao13,co13,eo13⟩:=Kd.V_slice HO_5.out;subst eo13
     go_wp2_with ((refine gl_ 31 Tryz.func104 #[.slice Ao13 x5_1.length co13] ?_;(with_reducible refine(nat_limbs_text.calls _ _ _ _ _ ?side1 ?side2 ?side3 A11.out).mono ?_);(case side1=>exact c_ (Kd.V_reads' HO_5.out).2.2);(case side2=>exact(Kd.V_reads' HO_5.out).2.1);(case side3=>exact lb_ HLD HB);rintro e w14 ⟨rfl,hb⟩;refine⟨_,rfl,?_⟩;replace HO_5:=ak_ (Kd.V_below (v_ HO_5.out) hb);replace HO_6:=ak_ (Kd.V_below (v_ HO_6.out) hb);replace HB:=bs_ HB hb;(try clear hb)))
     go_ret
     exact⟨er_,b_ HB.out⟩
 ·obtain rfl:=oi_ H;go_in
  go_wp2_with ((refine gl_ 13 Tryz.func102 #[.string a0,.string a1] ?_;(with_reducible refine(nat_both.calls _ _ _ _ _ _ _ A3.out).mono ?_);rintro e w15 ⟨v159,v162,rfl,ho0,ho1,hb⟩;refine⟨_,rfl,?_⟩;have HO160:=ak_ (Kd.V_lower (Kd.V_mono (ok':=fun k_=>True) ho0 (fun k_ hk_=>trivial)) (below_size (b_ HB.out)));have HO163:=ak_ (Kd.V_lower (Kd.V_mono (ok':=fun k_=>True) ho1 (fun k_ hk_=>trivial)) (below_size (b_ HB.out)));replace HB:=bs_ HB hb;(try clear hb);(try clear ho0);(try clear ho1)))
  go_ret
  exact⟨er_,b_ HB.out⟩
end Pr
def noB:ByteArray:=⟨#[]⟩
def may2 (a b:ByteArray):Bool:=mayB a&&mayB b
def sm2 (a b:ByteArray):Bool:=sm a&&sm b
def addS (a b:ByteArray):ByteArray:=if may2 a b=true then natB (numB a+numB b) else noB
def subS (a b:ByteArray):ByteArray×Bool:=if (may2 a b&&decide (numB b≤numB a))=true then (natB (numB a-numB b),true) else (noB,false)
def mulS (a b:ByteArray):ByteArray:=if may2 a b=true then natB (numB a * numB b) else noB
def divS (a b:ByteArray):ByteArray×ByteArray×Bool:=if (may2 a b&&decide (numB b≠0))=true then (natB (numB a / numB b),natB (numB a % numB b),true) else (noB,noB,false)
def cmpS (a b:ByteArray):Int:=if may2 a b=true then Lib.compareInt (numB a) (numB b) else 0
theorem lim_sm {a:ByteArray} (h:sm a=true) (hm:mayB a=true):(lim (numB a)).length≤50000:=by
 have h1:=num_lt (mayL_all hm)
 have h2:=sm_le h
 rw[size_len] at h2
 refine Nat.le_trans (lim_len (k:=a.data.toList.length) ?_) h2
 have h3:(10:Nat) ^ a.data.toList.length≤10000 ^ a.data.toList.length:=Nat.pow_le_pow_left (by omega) _
 have h4:numB a<10000 ^ a.data.toList.length:=Nat.lt_of_lt_of_le h1 h3
 have h5:=Int.ofNat_lt.2 h4
 rw[Int.natCast_pow] at h5
 exact h5
theorem text_natB {n:Nat} (h:(lim n).length≤17592186044416):nat_limbs_text.f (lim n)=some (natB n):=by
 unfold nat_limbs_text.f natB
 rw[if_pos ⟨limbsOk_lim n,h⟩,textL_lim]
theorem lim_add_len (m n:Nat):(lim (m+n)).length≤(lim m).length+(lim n).length+1:=by
 apply lim_len
 have h1:=lim_high m
 have h2:=lim_high n
 have h3:=pow_mono' (a:=(lim m).length) (b:=(lim m).length+(lim n).length) (by omega)
 have h4:=pow_mono' (a:=(lim n).length) (b:=(lim m).length+(lim n).length) (by omega)
 rw[Int.pow_succ]
 omega
theorem lim_mul_len (m n:Nat):(lim (m * n)).length≤(lim m).length+(lim n).length:=by
 apply lim_len
 have h1:=lim_high m
 have h2:=lim_high n
 rw[Int.natCast_mul,Int.pow_add]
 have h3:(m:Int) * n≤m * 10000 ^ (lim n).length:=Int.mul_le_mul_of_nonneg_left (by omega) (by omega)
 have h4:(m:Int) * 10000 ^ (lim n).length<10000 ^ (lim m).length * 10000 ^ (lim n).length:=Int.mul_lt_mul_of_pos_right h1 (pow_pos' _)
 omega
theorem lim_le_len {m n:Nat} (h:m≤n):(lim m).length≤(lim n).length:=by
 apply lim_len
 have h1:=lim_high n
 omega
theorem may_f {a:ByteArray} (h:sm a=true):nat_May.f a=some (mayB a):=by
 unfold nat_May.f
 rw[if_pos h]
theorem read_f {a:ByteArray} (h:sm a=true) (hm:mayB a=true):nat_read.f a=some (lim (numB a)):=by
 unfold nat_read.f
 rw[if_pos (by rw[h,hm];rfl)]
theorem both_f {a b:ByteArray} (ha:sm a=true) (hb:sm b=true) (k:Nat):Pr.nat_both.f (k+1) a b=some (if may2 a b=true then (lim (numB a),lim (numB b),true) else ([],[],false)):=by
 unfold Pr.nat_both.f may2
 rw[may_f ha,may_f hb]
 cases h1:mayB a <;> cases h2:mayB b
 ·rfl
 ·rfl
 ·rfl
 ·simp only[ob_,if_true,Pr.nat_both.j0,read_f ha h1,read_f hb h2,Bool.not_true,Bool.and_self,if_false,Bool.false_eq_true]
theorem lmlim {a:ByteArray} (h:sm a=true) (hm:mayB a=true):lm (lim (numB a))=true:=decide_eq_true (lim_sm h hm)
theorem may2_and {a b:ByteArray} (h:may2 a b=true):mayB a=true∧mayB b=true:=by
 unfold may2 at h
 rwa [Bool.and_eq_true] at h
theorem add_f {a b:ByteArray} (ha:sm a=true) (hb:sm b=true) (k:Nat):Pr.nat_Add.f (k+1) a b=some (addS a b):=by
 unfold Pr.nat_Add.f addS
 rw[both_f ha hb,ob_]
 by_cases h:may2 a b=true
 ·obtain⟨h1,h2⟩:=may2_and h
  rw[if_pos h,if_pos rfl,if_pos h]
  have h3:=lim_sm ha h1
  have h4:=lim_sm hb h2
  have h5:=lim_add_len (numB a) (numB b)
  have e:(val (lim (numB a))+1 * val (lim (numB b))).toNat=numB a+numB b:=by rw[val_lim,val_lim];omega
  have hz:0≤val (lim (numB a))+1 * val (lim (numB b)):=by rw[val_lim,val_lim];omega
  unfold nat_add.f
  rw[if_pos (by rw[limbsOk_lim,limbsOk_lim,lmlim ha h1,lmlim hb h2,decide_eq_true hz];rfl),e,ob_,text_natB (by omega)]
  rfl
 ·rw[if_neg h,if_neg (by decide),if_neg h]
  rfl
theorem mul_f {a b:ByteArray} (ha:sm a=true) (hb:sm b=true) (k:Nat):Pr.nat_Mul.f (k+1) a b=some (mulS a b):=by
 unfold Pr.nat_Mul.f mulS
 rw[both_f ha hb,ob_]
 by_cases h:may2 a b=true
 ·obtain⟨h1,h2⟩:=may2_and h
  rw[if_pos h,if_pos rfl,if_pos h]
  have h3:=lim_sm ha h1
  have h4:=lim_sm hb h2
  have h5:=lim_mul_len (numB a) (numB b)
  have e:(val (lim (numB a)) * val (lim (numB b))).toNat=numB a * numB b:=by rw[val_lim,val_lim,← Int.natCast_mul,Int.toNat_natCast]
  unfold nat_mul.f
  rw[if_pos (by rw[limbsOk_lim,limbsOk_lim,lmlim ha h1,lmlim hb h2];rfl),e,ob_,text_natB (by omega)]
  rfl
 ·rw[if_neg h,if_neg (by decide),if_neg h]
  rfl
theorem cmpI_neg (m n:Nat):Lib.compareInt (m:Int) (n:Int)<0↔¬ n≤m:=by
 unfold Lib.compareInt
 split
 ·constructor
  ·intro _;omega
  ·intro _;decide
 ·split
  ·constructor
   ·intro h;exact absurd h (by decide)
   ·intro h;omega
  ·constructor
   ·intro h;exact absurd h (by decide)
   ·intro h;omega
theorem sub_f {a b:ByteArray} (ha:sm a=true) (hb:sm b=true) (k:Nat):Pr.nat_Sub.f (k+1) a b=some (subS a b):=by
 unfold Pr.nat_Sub.f subS
 rw[both_f ha hb,ob_]
 by_cases h:may2 a b=true
 ·obtain⟨h1,h2⟩:=may2_and h
  rw[if_pos h,if_pos rfl,h]
  unfold nat_compare.f
  rw[cmpL_lim,ob_]
  simp only[Pr.nat_Sub.j0]
  by_cases hc:numB b≤numB a
  ·rw[if_neg (by rw[decide_eq_true_eq,cmpI_neg];omega),if_pos (by rw[decide_eq_true hc];rfl)]
   have h3:=lim_sm ha h1
   have h5:=lim_le_len (show numB a-numB b≤numB a by omega)
   have e:(val (lim (numB a)) + -1 * val (lim (numB b))).toNat=numB a-numB b:=by rw[val_lim,val_lim];omega
   have hz:0≤val (lim (numB a)) + -1 * val (lim (numB b)):=by rw[val_lim,val_lim];omega
   unfold nat_add.f
   rw[if_pos (by rw[limbsOk_lim,limbsOk_lim,lmlim ha h1,lmlim hb h2,decide_eq_true hz];rfl),e,ob_,text_natB (by omega)]
   rfl
  ·rw[if_pos (by rw[decide_eq_true_eq,cmpI_neg];omega),if_neg (by rw[decide_eq_false hc];decide)]
   rfl
 ·rw[if_neg h,if_neg (by decide),(Bool.not_eq_true _).mp h]
  rfl
theorem lim_zero_len (n:Nat):((lim n).length:Int)=0↔n=0:=by
 rw[Int.natCast_eq_zero,List.length_eq_zero_iff,lim_nil]
theorem divL_f {m n:Nat} (hm:(lim m).length≤50000) (hn:(lim n).length≤50000) (h:n≠0):nat_div.f (lim m) (lim n)=some (lim (m / n),lim (m % n)):=by
 unfold nat_div.f
 rw[val_lim,val_lim,Int.toNat_natCast,Int.toNat_natCast,if_pos (by rw[canon_lim,canon_lim,show lm (lim m)=true from decide_eq_true hm,show lm (lim n)=true from decide_eq_true hn,decide_eq_true (by omega:(n:Int)≠0)];rfl)]
theorem div_f {a b:ByteArray} (ha:sm a=true) (hb:sm b=true) (k:Nat):Pr.nat_Div.f (k+1) a b=some (divS a b):=by
 unfold Pr.nat_Div.f divS
 rw[both_f ha hb,ob_]
 by_cases h:may2 a b=true
 ·obtain⟨h1,h2⟩:=may2_and h
  rw[if_pos h,if_pos rfl,h]
  simp only[Pr.nat_Div.j0]
  by_cases hc:numB b=0
  ·rw[if_pos (by rw[beq_iff_eq,lim_zero_len];exact hc),if_neg (by rw[hc];decide)]
   rfl
  ·rw[if_neg (by rw[beq_iff_eq,lim_zero_len];exact hc),if_pos (by rw[decide_eq_true hc];rfl)]
   have h3:=lim_sm ha h1
   have h4:=lim_sm hb h2
   have h5:=lim_le_len (Nat.div_le_self (numB a) (numB b))
   have h6:=lim_le_len (Nat.mod_le (numB a) (numB b))
   rw[divL_f h3 h4 hc,ob_,text_natB (by omega)]
   simp only[ob_]
   rw[text_natB (by omega)]
   rfl
 ·rw[if_neg h,if_neg (by decide),(Bool.not_eq_true _).mp h]
  rfl
theorem bext {a b:ByteArray} (h:a.data.toList=b.data.toList):a=b:=by
 obtain⟨⟨a⟩⟩:=a
 obtain⟨⟨b⟩⟩:=b
 congr 2
theorem bmk {a:ByteArray} {l:List UInt8} (h:a.data.toList=l):a=⟨l.toArray⟩:=bext (by rw[h])
def ten:List Int→Int
 | []=>0
 | x :: r=>x+10 * ten r
theorem ten_append (a b:List Int):ten (a++b)=ten a+10 ^ a.length * ten b:=by
 induction a with
 | nil=>simp[ten]
 | cons x r ih=>simp only[List.cons_append,ten,ih,List.length_cons];grind
theorem ten_snoc (a:List Int) (x:Int):ten (a ++ [x])=ten a+10 ^ a.length * x:=by rw[ten_append];simp[ten]
theorem p10 (k:Nat):(0:Int)<10 ^ k:=Int.pow_pos (by decide)
theorem p10_mono {a b:Nat} (h:a≤b):(10:Int) ^ a≤10 ^ b:=by
 obtain⟨d,rfl⟩:∃ d,b=a+d:=⟨b-a,by omega⟩
 rw[Int.pow_add]
 have h1:=p10 a
 have h2:=p10 d
 have:=Int.mul_le_mul_of_nonneg_left (show (1:Int)≤10 ^ d by omega) (Int.le_of_lt h1)
 omega
theorem ten_take_succ (l:List Int) (i:Nat):ten (l.take (i+1))=ten (l.take i)+10 ^ i * limb l i:=by
 by_cases h:i<l.length
 ·rw[take_step l i h,ten_snoc,List.length_take,Nat.min_eq_left (by omega)]
 ·rw[List.take_of_length_le (by omega),List.take_of_length_le (by omega),limb_out (by omega)];omega
theorem ten_replicate (n:Nat):ten (List.replicate n 0)=0:=by
 induction n with
 | zero=>rfl
 | succ n ih=>rw[List.replicate_succ,ten,ih];rfl
theorem ten_set {l:List Int} {j:Nat} (h:j<l.length) (v:Int):ten (l.set j v)=ten l+10 ^ j * (v-limb l j):=by
 induction l generalizing j with
 | nil=>simp at h
 | cons x r ih =>
  cases j with
  | zero=>simp[ten,limb];omega
  | succ j =>
   simp only[List.set_cons_succ,ten]
   rw[ih (by simpa using h)]
   have:limb (x :: r) (j+1)=limb r j:=by simp[limb]
   rw[this]
   grind
theorem ten_nonneg {l:List Int} (h:∀ x∈l,0≤x):0≤ten l:=by
 induction l with
 | nil=>simp[ten]
 | cons x r ih =>
  have h1:=h x (by simp)
  have h2:=ih (fun y hy=>h y (by simp[hy]))
  simp only[ten]
  omega
def dl (s:ByteArray):List Int:=s.data.toList.reverse.map fun c=>(c.toNat:Int)-48
theorem dl_length (s:ByteArray):(dl s).length=s.size:=by
 unfold dl
 rw[List.length_map,List.length_reverse,← size_len]
def Dig (l:List Int):Prop:=∀ x∈l,0≤x∧x<10
theorem dl_dig {s:ByteArray} (h:s.data.toList.all isDig=true):Dig (dl s):=by
 intro x hx
 unfold dl at hx
 rw[List.mem_map] at hx
 obtain⟨c,hc,rfl⟩:=hx
 have:=isDig_bounds (List.all_eq_true.1 h c (List.mem_reverse.1 hc))
 omega
theorem ten_dl_list:∀ l:List UInt8,l.all isDig=true→ten (l.reverse.map fun c=>(c.toNat:Int)-48)=num l:=by
 intro l
 induction l with
 | nil=>intro _;rfl
 | cons c r ih =>
  intro h
  simp only[List.all_cons,Bool.and_eq_true] at h
  have hb:=isDig_bounds h.1
  rw[List.reverse_cons,List.map_append,ten_append,ih h.2,num_cons,List.length_map,List.length_reverse]
  simp only[List.map_cons,List.map_nil,ten,Int.natCast_add,Int.natCast_mul,Int.natCast_pow]
  have e:((c.toNat-48:Nat):Int)=(c.toNat:Int)-48:=by omega
  rw[e]
  have e2:((10:Nat):Int)=10:=rfl
  rw[e2]
  grind
theorem ten_dl {s:ByteArray} (h:s.data.toList.all isDig=true):ten (dl s)=numB s:=ten_dl_list _ h
theorem dig_limb {l:List Int} (h:Dig l) (i:Nat):0≤limb l i∧limb l i<10:=by
 unfold limb
 rw[List.getD_eq_getElem?_getD]
 cases hx:l[i]? with
 | none=>simp
 | some x=>exact h x (List.mem_of_getElem? hx)
theorem ten_lt {l:List Int} (h:Dig l):0≤ten l∧ten l<10 ^ l.length:=by
 induction l with
 | nil=>simp[ten]
 | cons x r ih =>
  have h1:=h x (by simp)
  have h2:=ih (fun y hy=>h y (by simp[hy]))
  simp only[ten,List.length_cons]
  rw[Int.pow_succ]
  omega
def mayEnd (l:List UInt8):Bool:=decide (l≠[])&&(decide (l=[48]) || decide (l.head?≠some 48))
theorem mayL_split (l:List UInt8):mayL l=(l.all isDig&&mayEnd l):=by
 unfold mayL mayEnd
 cases decide (l≠[]) <;> cases l.all isDig <;> rfl
def strip:List UInt8→List UInt8
 | []=>[]
 | [c]=>[c]
 | c :: d :: r=>if c=48 then strip (d :: r) else c :: d :: r
theorem strip_num:∀ l:List UInt8,num (strip l)=num l
 | []=>rfl
 | [c]=>rfl
 | c :: d :: r=>by
  rw[strip]
  split
  ·rename_i h
   subst h
   rw[strip_num,num_cons 48]
   simp
  ·rfl
theorem strip_may:∀ l:List UInt8,l≠[]→l.all isDig=true→mayL (strip l)=true
 | [],h,_=>absurd rfl h
 | [c],_,h=>by
  rw[mayL_split,strip,h]
  unfold mayEnd
  by_cases hc:c=48
  ·subst hc;rfl
  ·have:([c]:List UInt8).head?≠some 48:=by simpa using hc
   rw[decide_eq_true this];simp
 | c :: d :: r,_,h=>by
  rw[strip]
  split
  ·simp only[List.all_cons,Bool.and_eq_true] at h
   exact strip_may (d :: r) (by simp) (by simp only[List.all_cons,Bool.and_eq_true];exact h.2)
  ·rename_i hc
   rw[mayL_split,h]
   unfold mayEnd
   have:(c :: d :: r:List UInt8).head?≠some 48:=by simpa using hc
   rw[decide_eq_true this];simp
theorem strip_dig {l:List UInt8} (h:l≠[]) (hd:l.all isDig=true):strip l=Lib.decDigits (num l):=by
 rw[← strip_num l,dig_num (strip_may l h hd)]
theorem may_all {a:ByteArray} (h:mayB a=true):a.data.toList.all isDig=true:=mayL_all h
theorem may_ne {a:ByteArray} (h:mayB a=true):a.data.toList≠[]:=mayL_ne h
theorem may_pos {a:ByteArray} (h:mayB a=true):0<a.size:=by
 rw[size_len]
 exact List.length_pos_iff.2 (mayL_ne h)
theorem numB_inj {a b:ByteArray} (ha:mayB a=true) (hb:mayB b=true) (h:numB a=numB b):a=b:=bext (num_inj ha hb h)
theorem less_num:∀ (a b:List UInt8),a.length=b.length→a.all isDig=true→b.all isDig=true→(Op.bytesLess a b=true↔num a<num b)
 | [],[],_,_,_=>by simp[Op.bytesLess,num]
 | a :: x,b :: y,hl,ha,hb=>by
  simp only[List.all_cons,Bool.and_eq_true] at ha hb
  have h1:=isDig_bounds ha.1
  have h2:=isDig_bounds hb.1
  have hl':x.length=y.length:=by simpa using hl
  have h3:=num_lt ha.2
  have h4:=num_lt hb.2
  have ih:=less_num x y hl' ha.2 hb.2
  rw[num_cons,num_cons,hl']
  rw[hl'] at h3
  simp only[Op.bytesLess,Bool.or_eq_true,Bool.and_eq_true,decide_eq_true_eq,beq_iff_eq,UInt8.lt_iff_toNat_lt]
  rw[ih]
  generalize 10 ^ y.length=p at *
  constructor
  ·rintro (h|⟨rfl,h⟩)
   ·have h5:(a.toNat-48+1) * p≤(b.toNat-48) * p:=Nat.mul_le_mul_right _ (by omega)
    rw[Nat.add_mul] at h5
    omega
   ·omega
  ·intro h
   rcases Nat.lt_trichotomy a.toNat b.toNat with h5|h5|h5
   ·exact .inl h5
   ·exact .inr ⟨UInt8.toNat_inj.1 h5,by rw[h5] at h;omega⟩
   ·exfalso
    have h6:(b.toNat-48+1) * p≤(a.toNat-48) * p:=Nat.mul_le_mul_right _ (by omega)
    rw[Nat.add_mul] at h6
    omega
theorem num_shorter {a b:ByteArray} (ha:mayB a=true) (hb:mayB b=true) (h:a.size<b.size):numB a<numB b:=by
 have h1:=num_lt (may_all ha)
 have h0:=may_pos ha
 have hne:b.data.toList≠[48]:=by
  intro e
  have:=congrArg List.length e
  rw[← size_len] at this
  simp at this
  omega
 have h2:=num_pos (may_all hb) (may_ne hb) ((mayL_head hb).resolve_left hne)
 rw[← size_len] at h1 h2
 have h3:(10:Nat) ^ a.size≤10 ^ (b.size-1):=Nat.pow_le_pow_right (by omega) (by omega)
 unfold numB
 omega
theorem cmpI_lt {m n:Nat} (h:m<n):Lib.compareInt (m:Int) (n:Int)=-1:=cmp_lt' (by omega)
theorem cmpI_gt {m n:Nat} (h:n<m):Lib.compareInt (m:Int) (n:Int)=1:=cmp_gt' (by omega)
theorem cmpI_eq {m n:Nat} (h:m=n):Lib.compareInt (m:Int) (n:Int)=0:=cmp_eq' (by omega)
theorem cmpS_no {a b:ByteArray} (h:may2 a b=false):cmpS a b=0:=by
 unfold cmpS
 rw[h]
 rfl
theorem may2_eq {a b:ByteArray} (h1:mayB a=true) (h2:mayB b=true):may2 a b=true:=by unfold may2;rw[h1,h2];rfl
theorem may2_no1 {a b:ByteArray} (h1:¬ mayB a=true):¬ may2 a b=true:=fun h=>h1 (may2_and h).1
theorem may2_no2 {a b:ByteArray} (h1:¬ mayB b=true):¬ may2 a b=true:=fun h=>h1 (may2_and h).2
theorem natB_size (n:Nat):(natB n).size=(Lib.decDigits n).length:=by rw[size_len,natB_list]
theorem dig_len_le {n k:Nat} (h:n<10 ^ k) (hk:1≤k):(Lib.decDigits n).length≤k:=by
 by_cases h0:n=0
 ·subst h0
  rw[dig_small (by omega)]
  simpa using hk
 ·have h1:=num_pos (dig_all n) (dig_ne n) (dig_head h0)
  rw[num_dig] at h1
  have h2:10 ^ ((Lib.decDigits n).length-1)<10 ^ k:=by omega
  have:=(Nat.pow_lt_pow_iff_right (by omega:1<10)).1 h2
  omega
theorem natB_le {n:Nat} {b:ByteArray} (hb:mayB b=true) (h:n≤numB b):(natB n).size≤b.size:=by
 rw[natB_size]
 have h1:=num_lt (may_all hb)
 rw[← size_len] at h1
 exact dig_len_le (by unfold numB at h;omega) (may_pos hb)
theorem list48 {b:ByteArray} (hb:mayB b=true):(b.data.toList=[48]↔numB b=0):=by
 constructor
 ·intro h
  unfold numB
  rw[h]
  rfl
 ·intro h
  have:b=natB 0:=numB_inj hb (mayB_natB 0) (by rw[h,numB_natB])
  rw[this,natB_list,dig_small (by omega)]
  rfl
namespace Pq
def errW:Option Int→Value
 | none=>.nilIface
 | some c=>.iface 0 (.int .i64 c)
theorem errW_none:errW none=.nilIface:=rfl
theorem errW_some (c:Int):errW (some c)=.iface 0 (.int .i64 c):=rfl
theorem info3:(Tryz.prog.info? 3).map (fun i=>(i.zero,i.size,i.bytes))=some (some (.int .i64 0),1,8):=by kernel_rfl
theorem info5:(Tryz.prog.info? 5).map (fun i=>(i.zero,i.size,i.bytes))=some (some (.int .u8 0),1,1):=by kernel_rfl
def r1_May.l0:Nat→ByteArray→Int→Option (Bool)
 | 0,_,_=>none
 | k+1,x0,x3=>if x3<(x0.size:Int) then (if 0≤x3 then (if (bt x0 x3)<48 then (some false) else (if (bt x0 x3)>57 then (some false) else (r1_May.l0 k x0 (wrap64 (x3+1))))) else (none)) else (if (x0.size:Int)>0 then (if x0.toList=([48]:List UInt8) then (some true) else (if 0<(x0.size:Int) then (some ((bt x0 0) != 48)) else (none))) else (some false))
def r1_May.f (k:Nat) (a0:ByteArray):Option (Bool):=r1_May.l0 k a0 0
theorem r1_May.calls (k:Nat) (a0:ByteArray) (r:Bool) (w:World) (h:r1_May.f k a0=some r) :
  Calls Tryz.prog 44 #[.string a0] w fun e w'=>e=.returned (.bool r)∧Drawn0 w w':=by
 have H:=h;unfold r1_May.f at H;clear h;have H':=ak_ H;clear H;go_in;go_wp2
 go_loopg [3] k (fun kq v3 w'=>∃ (x3_1:Int),v3=.int .i64 x3_1∧Aside0 (r1_May.l0 kq a0 x3_1=some r)∧Aside0 (kq≤k)∧Drawn0 w w')
 case atStart=>exact⟨(0),rl_,H',⟨nr_ _⟩,d0_⟩
 case round =>
  clear H';obtain⟨x3_1,rfl,HA,HK1,⟨m1,rfl⟩⟩:=hrel
  cases gk with
  | zero=>exact absurd HA.out (by simp[r1_May.l0])
  | succ k1 =>
   have H:=HA.out;clear HA;simp only[r1_May.l0] at H;replace H:=bw_ H;rcases H with ⟨c2,H⟩|⟨c2,H⟩
   ·have c2b0:=dt_ c2;clear c2;replace H:=bx_ H;obtain⟨c3,H⟩:=H;replace c3:=dt_ c3;replace H:=bw_ H;rcases H with ⟨c5,H⟩|⟨c5,H⟩
    ·have c5b0:=dt_ c5;clear c5;obtain rfl:=oi_ H;have p4:0≤(x3_1:Int):=od_ as_f;have q4:x3_1<(a0.size:Int):=od_ as_f;have hx4:=bt_at a0 x3_1;replace p4:=eq_true p4;replace q4:=eq_true q4;go_wp2
     go_ret
     exact⟨rl_,d0_⟩
    ·have c5b0:=df_ c5;clear c5;replace H:=bw_ H;rcases H with ⟨c7,H⟩|⟨c7,H⟩
     ·have c7b0:decide (57<(bt a0 x3_1))=true:=decide_eq_true c7;clear c7;obtain rfl:=oi_ H;have p4:0≤(x3_1:Int):=od_ as_f;have q4:x3_1<(a0.size:Int):=od_ as_f;have hx4:=bt_at a0 x3_1;replace p4:=eq_true p4;replace q4:=eq_true q4;have p6:0≤(x3_1:Int):=od_ as_f;have q6:x3_1<(a0.size:Int):=od_ as_f;have hx6:=bt_at a0 x3_1;replace p6:=eq_true p6;replace q6:=eq_true q6;go_wp2
      go_ret
      exact⟨rl_,d0_⟩
     ·have c7b0:decide (57<(bt a0 x3_1))=false:=decide_eq_false c7;clear c7;have H':=ak_ H;clear H;have p4:0≤(x3_1:Int):=od_ as_f;have q4:x3_1<(a0.size:Int):=od_ as_f;have hx4:=bt_at a0 x3_1;replace p4:=eq_true p4;replace q4:=eq_true q4;have p6:0≤(x3_1:Int):=od_ as_f;have q6:x3_1<(a0.size:Int):=od_ as_f;have hx6:=bt_at a0 x3_1;replace p6:=eq_true p6;replace q6:=eq_true q6;go_wp2
      go_roundg k1
      case measure=>have:=HK1.out;omega
      case rel=>exact⟨(wrap64 (x3_1+1)),rl_,H',⟨by have:=HK1.out;omega⟩,d0_⟩
   ·have c2b0:=df_ c2;clear c2;replace H:=bw_ H;rcases H with ⟨c8,H⟩|⟨c8,H⟩
    ·have c8b0:decide (0<(a0.size:Int))=true:=decide_eq_true c8;have c8b1:decide (0<a0.size)=true:=decide_eq_true (by omega);clear c8;replace H:=bw_ H;rcases H with ⟨c9,H⟩|⟨c9,H⟩
     ·have c9b0:(a0.toList == ([48]:List UInt8))=true:=beq_iff_eq.mpr c9;have c9b1:(a0.toList != ([48]:List UInt8))=false:=bne_eq_false_iff_eq.mpr c9;clear c9;obtain rfl:=oi_ H;go_wp2
      go_ret
      exact⟨rl_,d0_⟩
     ·have c9b0:(a0.toList == ([48]:List UInt8))=false:=beq_eq_false_iff_ne.mpr c9;have c9b1:(a0.toList != ([48]:List UInt8))=true:=bne_iff_ne.mpr c9;replace H:=bx_ H;obtain⟨c10,H⟩:=H;have c10b0:=dt_ c10;have c10b1:decide (0<a0.size)=true:=decide_eq_true (by omega);clear c10;obtain rfl:=oi_ H;have p11:0≤(0:Int):=(by omega);have q11:0<a0.size:=(by have:(0:Int)<(a0.size:Int):=od_ as_f;omega);have hx11:∀ h:0<a0.size,((a0[0]'h).toNat:Int)=bt a0 0:=bt_at a0 0;clear p11;have qi11:(0<(a0.size:Int))=True:=eq_true (od_ as_f);replace q11:=eq_true q11;go_wp2
      go_ret
      exact⟨rl_,d0_⟩
    ·have c8b0:decide (0<(a0.size:Int))=false:=decide_eq_false c8;have c8b1:decide (0<a0.size)=false:=decide_eq_false (by omega);clear c8;obtain rfl:=oi_ H;go_wp2
     go_ret
     exact⟨rl_,d0_⟩
def r1_Of.l0:Nat→Int→ByteArray→Option (ByteArray)
 | 0,_,_=>none
 | k+1,x0,x3=>if x0>9 then (if 0≤(Int.tmod x0 10) then (if (Int.tmod x0 10)≤(wrap64 ((Int.tmod x0 10)+1)) then (if (wrap64 ((Int.tmod x0 10)+1))≤10 then (if ((⟨#[48,49,50,51,52,53,54,55,56,57]⟩:ByteArray).extract ((Int.tmod x0 10):Int).toNat ((wrap64 ((Int.tmod x0 10)+1)):Int).toNat).size+x3.size≤9223372036854775807 then (r1_Of.l0 k (wrap64 (Int.tdiv x0 10)) (((⟨#[48,49,50,51,52,53,54,55,56,57]⟩:ByteArray).extract ((Int.tmod x0 10):Int).toNat ((wrap64 ((Int.tmod x0 10)+1)):Int).toNat)++x3)) else (none)) else (none)) else (none)) else (none)) else (if 0≤x0 then (if x0≤(wrap64 (x0+1)) then (if (wrap64 (x0+1))≤10 then (if ((⟨#[48,49,50,51,52,53,54,55,56,57]⟩:ByteArray).extract (x0:Int).toNat ((wrap64 (x0+1)):Int).toNat).size+x3.size≤9223372036854775807 then (some (((⟨#[48,49,50,51,52,53,54,55,56,57]⟩:ByteArray).extract (x0:Int).toNat ((wrap64 (x0+1)):Int).toNat)++x3)) else (none)) else (none)) else (none)) else (none))
def r1_Of.f (k:Nat) (a0:Int):Option (ByteArray):=if a0<0 then (some (⟨#[]⟩:ByteArray)) else (r1_Of.l0 k a0 (⟨#[]⟩:ByteArray))
theorem r1_Of.calls (k:Nat) (a0:Int) (r:ByteArray) (w:World) (h:r1_Of.f k a0=some r) :
  Calls Tryz.prog 36 #[.int .i64 a0] w fun e w'=>e=.returned (.string r)∧Drawn0 w w':=by
 have H:=h;unfold r1_Of.f at H;clear h;replace H:=bw_ H;rcases H with ⟨c2,H⟩|⟨c2,H⟩
 ·have c2b0:=dt_ c2;clear c2;obtain rfl:=oi_ H;go_in;go_wp2
  go_ret
  exact⟨rl_,d0_⟩
 ·have c2b0:=df_ c2;clear c2;have H':=ak_ H;clear H;go_in;go_wp2
  go_loopg [0,3] k (fun kq v0 v3 w'=>∃ (x0_1:Int) (x3_1:ByteArray),v0=.int .i64 x0_1∧v3=.string x3_1∧Aside0 (r1_Of.l0 kq x0_1 x3_1=some r)∧Aside0 (kq≤k)∧Drawn0 w w')
  case atStart=>exact⟨(a0),((⟨#[]⟩:ByteArray)),rl_,rl_,H',⟨nr_ _⟩,d0_⟩
  case round =>
   clear H';(try clear c2b0);obtain⟨x0_1,x3_1,rfl,rfl,HA,HK1,⟨m1,rfl⟩⟩:=hrel
   cases gk with
   | zero=>exact absurd HA.out (by simp[r1_Of.l0])
   | succ k1 =>
    have H:=HA.out;clear HA;simp only[r1_Of.l0] at H;replace H:=bw_ H;rcases H with ⟨c3,H⟩|⟨c3,H⟩
    ·have c3b0:decide (9<x0_1)=true:=decide_eq_true c3;clear c3;obtain⟨ji4,hji4⟩:∃ j_:Int,(Int.tmod x0_1 10)=j_:=⟨_,rfl⟩;(first|rw[hji4] at H|simp only[hji4] at H);replace H:=bx_ H;obtain⟨c5,H⟩:=H;have c5b0:=eq_true c5;replace c5:=dt_ c5;replace H:=bx_ H;obtain⟨c6,H⟩:=H;have c6b0:=eq_true c6;have c6b1:=dt_ c6
     have c6b1w:decide ((ji4)≤(IntKind.i64.wrap ((ji4)+1)))=true:=by simp only[i64_w];exact c6b1
     replace H:=bx_ H;obtain⟨c7,H⟩:=H;have c7b0:=eq_true c7;have c7b1:=dt_ c7
     have c7b1w:decide ((IntKind.i64.wrap ((ji4)+1))≤10)=true:=by simp only[i64_w];exact c7b1
     replace H:=bx_ H;obtain⟨c8,H⟩:=H;have c8b0:=eq_true c8;have c8b1:=dt_ c8
     have c8b1w:decide (((⟨#[48,49,50,51,52,53,54,55,56,57]⟩:ByteArray).extract ((ji4):Int).toNat ((IntKind.i64.wrap ((ji4)+1)):Int).toNat).size+x3_1.size≤9223372036854775807)=true:=by simp only[i64_w];exact c8b1
     try have c8b2:(9223372036854775807<((⟨#[48,49,50,51,52,53,54,55,56,57]⟩:ByteArray).extract ((ji4):Int).toNat ((wrap64 ((ji4)+1)):Int).toNat).size+x3_1.size)=False:=eq_false (Nat.not_lt.2 c8)
     have H':=ak_ H;clear H;go_wp2
     go_roundg k1
     case measure=>have:=HK1.out;omega
     case rel=>exact⟨(wrap64 (Int.tdiv x0_1 10)),(((⟨#[48,49,50,51,52,53,54,55,56,57]⟩:ByteArray).extract ((ji4):Int).toNat ((wrap64 ((ji4)+1)):Int).toNat)++x3_1),rl_,(by first|rfl|(simp;done)|(simp only[← hji4] <;> (first|rfl|simp))|(simp[*];done)),H',⟨by have:=HK1.out;omega⟩,d0_⟩
    ·have c3b0:decide (9<x0_1)=false:=decide_eq_false c3;clear c3;replace H:=bx_ H;obtain⟨c9,H⟩:=H;have c9b0:=eq_true c9;replace c9:=dt_ c9;replace H:=bx_ H;obtain⟨c10,H⟩:=H;have c10b0:=eq_true c10;have c10b1:=dt_ c10
     have c10b1w:decide (x0_1≤(IntKind.i64.wrap (x0_1+1)))=true:=by simp only[i64_w];exact c10b1
     replace H:=bx_ H;obtain⟨c11,H⟩:=H;have c11b0:=eq_true c11;have c11b1:=dt_ c11
     have c11b1w:decide ((IntKind.i64.wrap (x0_1+1))≤10)=true:=by simp only[i64_w];exact c11b1
     replace H:=bx_ H;obtain⟨c12,H⟩:=H;have c12b0:=eq_true c12;have c12b1:=dt_ c12
     have c12b1w:decide (((⟨#[48,49,50,51,52,53,54,55,56,57]⟩:ByteArray).extract (x0_1:Int).toNat ((IntKind.i64.wrap (x0_1+1)):Int).toNat).size+x3_1.size≤9223372036854775807)=true:=by simp only[i64_w];exact c12b1
     try have c12b2:(9223372036854775807<((⟨#[48,49,50,51,52,53,54,55,56,57]⟩:ByteArray).extract (x0_1:Int).toNat ((wrap64 (x0_1+1)):Int).toNat).size+x3_1.size)=False:=eq_false (Nat.not_lt.2 c12)
     obtain rfl:=oi_ H;go_wp2
     go_ret
     exact⟨rl_,d0_⟩
def r1_Cmp.j0:Nat→ByteArray→ByteArray→Bool→Option (Int)
 | 0,_,_,_=>none
 | k+1,x0,x1,x17=>if x17=true then (some 0) else (if (x0.size:Int)<(x1.size:Int) then (some (-1)) else (if (x0.size:Int)=(x1.size:Int) then (if (Op.bytesLess x0.toList x1.toList)=true then (some (-1)) else (some 1)) else (some 1)))
def r1_Cmp.f (k:Nat) (a0 a1:ByteArray):Option (Int):=(r1_May.f k a0).bind fun t101=>(if t101=true then ((r1_May.f k a1).bind fun t102=>(if t102=true then (r1_Cmp.j0 k a0 a1 (a0.toList == a1.toList)) else (r1_Cmp.j0 k a0 a1 true))) else (r1_Cmp.j0 k a0 a1 true))
theorem r1_Cmp.calls (k:Nat) (a0 a1:ByteArray) (r:Int) (w:World) (h:r1_Cmp.f k a0 a1=some r) :
  Calls Tryz.prog 45 #[.string a0,.string a1] w fun e w'=>e=.returned (.int .i64 r)∧Drawn0 w w':=by
 have H:=h;unfold r1_Cmp.f at H;clear h;have HC3:=ak_ H;clear H;go_in
 go_upto_region 1 with (fail)
 go_cut [17] (fun v17 wc=>∃ (kq:Nat) (x17_2:Bool),v17=.bool x17_2∧Aside0 (r1_Cmp.j0 kq a0 a1 x17_2=some r)∧Aside0 (kq≤k)∧Drawn0 w wc)
 case first =>
  have H:=HC3.out;clear HC3;replace H:=bi_ H;obtain⟨t101,A4,H⟩:=H;replace H:=bt_ H;rcases H with ⟨rfl,H⟩|⟨rfl,H⟩
  ·replace H:=bi_ H;obtain⟨t102,A6,H⟩:=H;replace H:=bt_ H;rcases H with ⟨rfl,H⟩|⟨rfl,H⟩
   ·have H':=ak_ H;clear H
    go_wp2_with (first|(refine gm_ 6 Tryz.func44 (r1_May.calls _ _ _ _ A4.out) ?_;rintro w' ⟨nd,rfl⟩)|(go_at_call 44;(with_reducible refine(r1_May.calls _ _ _ _ A6.out).mono ?_);rintro e w' ⟨rfl,⟨nd,rfl⟩⟩))
    go_meet
    case rel=>exact⟨_,((a0.toList == a1.toList)),rl_,H',⟨nk_⟩,d0_⟩
   ·have H':=ak_ H;clear H
    go_wp2_with (first|(refine gm_ 6 Tryz.func44 (r1_May.calls _ _ _ _ A4.out) ?_;rintro w' ⟨nd,rfl⟩)|(go_at_call 44;(with_reducible refine(r1_May.calls _ _ _ _ A6.out).mono ?_);rintro e w' ⟨rfl,⟨nd,rfl⟩⟩))
    go_meet
    case rel=>exact⟨_,(true),rl_,H',⟨nk_⟩,d0_⟩
  ·have H':=ak_ H;clear H
   go_wp2_with ((refine gm_ 6 Tryz.func44 (r1_May.calls _ _ _ _ A4.out) ?_;rintro w' ⟨nd,rfl⟩))
   go_meet
   case rel=>exact⟨_,(true),rl_,H',⟨nk_⟩,d0_⟩
 case rest =>
  clear HC3;obtain⟨kq,x17_2,rfl,HA,HJ2,⟨mc2,rfl⟩⟩:=hcut
  cases kq with
  | zero=>exact absurd HA.out (by simp[r1_Cmp.j0])
  | succ kj2 =>
   have H:=HA.out;clear HA;simp only[r1_Cmp.j0] at H;replace H:=bt_ H;rcases H with ⟨rfl,H⟩|⟨rfl,H⟩
   ·obtain rfl:=oi_ H;go_wp2
    go_ret
    exact⟨rl_,d0_⟩
   ·replace H:=bw_ H;rcases H with ⟨c9,H⟩|⟨c9,H⟩
    ·have c9b0:=dt_ c9;have c9b1:decide (a0.size<a1.size)=true:=decide_eq_true (Int.ofNat_lt.mp c9);clear c9;obtain rfl:=oi_ H;go_wp2
     go_ret
     exact⟨rl_,d0_⟩
    ·have c9b0:=df_ c9;have c9b1:decide (a0.size<a1.size)=false:=decide_eq_false (fun h=>c9 (Int.ofNat_lt.mpr h));clear c9;replace H:=bw_ H;rcases H with ⟨c10,H⟩|⟨c10,H⟩
     ·have c10b0:((a0.size:Int) == (a1.size:Int))=true:=beq_iff_eq.mpr c10;have c10b1:((a0.size:Int) != (a1.size:Int))=false:=bne_eq_false_iff_eq.mpr c10
      have c10b2:(a0.size == a1.size)=true:=by first|simpa using c10|(simp at c10 ⊢;omega)
      clear c10;by_cases c11:(Op.bytesLess a0.toList a1.toList)=true
      ·rw[if_pos c11] at H;have c11b0:(Op.bytesLess a0.toList a1.toList)=true:=c11;clear c11;obtain rfl:=oi_ H;go_wp2
       go_ret
       exact⟨rl_,d0_⟩
      ·rw[if_neg c11] at H
       have c11b0:(Op.bytesLess a0.toList a1.toList)=false:=by simpa using c11
       clear c11;obtain rfl:=oi_ H;go_wp2
       go_ret
       exact⟨rl_,d0_⟩
     ·have c10b0:((a0.size:Int) == (a1.size:Int))=false:=beq_eq_false_iff_ne.mpr c10;have c10b1:((a0.size:Int) != (a1.size:Int))=true:=bne_iff_ne.mpr c10
      have c10b2:(a0.size == a1.size)=false:=by first|simpa using c10|(simp at c10 ⊢;omega)
      obtain rfl:=oi_ H;go_wp2
      go_ret
      exact⟨rl_,d0_⟩
mutual
def r1_Small.j0:Nat→ByteArray→Bool→Option (Int×Bool)
 | 0,_,_=>none
 | k+1,x0,x13=>if x13=true then (some (0,false)) else (r1_Small.l0 k x0 0 0)
def r1_Small.l0:Nat→ByteArray→Int→Int→Option (Int×Bool)
 | 0,_,_,_=>none
 | k+1,x0,x4,x5=>if x5<(x0.size:Int) then (if 0≤x5 then (r1_Small.l0 k x0 (wrap64 ((wrap64 (10 * x4))+(((bt x0 x5)-48) % 256))) (wrap64 (x5+1))) else (none)) else (some (x4,true))
end
def r1_Small.f (k:Nat) (a0:ByteArray):Option (Int×Bool):=(r1_May.f k a0).bind fun t103=>(if t103=true then ((r1_Cmp.f k a0 (⟨#[57,50,50,51,51,55,50,48,51,54,56,53,52,55,55,53,56,48,55]⟩:ByteArray)).bind fun t104=>(r1_Small.j0 k a0 (decide (t104>0)))) else (r1_Small.j0 k a0 true))
theorem r1_Small.calls (k:Nat) (a0:ByteArray) (r1:Int) (r2:Bool) (w:World) (h:r1_Small.f k a0=some (r1,r2)) :
  Calls Tryz.prog 25 #[.string a0] w fun e w'=>e=.returned (.tuple #[.int .i64 r1,.bool r2])∧Drawn0 w w':=by
 have H:=h;unfold r1_Small.f at H;clear h;have HC2:=ak_ H;clear H;go_in
 go_upto_region 1 with (fail)
 go_cut [13] (fun v13 wc=>∃ (kq:Nat) (x13_1:Bool),v13=.bool x13_1∧Aside0 (r1_Small.j0 kq a0 x13_1=some (r1,r2))∧Aside0 (kq≤k)∧Drawn0 w wc)
 case first =>
  have H:=HC2.out;clear HC2;replace H:=bi_ H;obtain⟨t103,A3,H⟩:=H;replace H:=bt_ H;rcases H with ⟨rfl,H⟩|⟨rfl,H⟩
  ·replace H:=bi_ H;obtain⟨t104,A5,H⟩:=H;have H':=ak_ H;clear H
   go_wp2_with (first|(refine gm_ 7 Tryz.func44 (r1_May.calls _ _ _ _ A3.out) ?_;rintro w' ⟨nd,rfl⟩)|(go_at_call 45;(with_reducible refine(r1_Cmp.calls _ _ _ _ _ A5.out).mono ?_);rintro e w' ⟨rfl,⟨nd,rfl⟩⟩))
   go_meet
   case rel=>exact⟨_,(decide (t104>0)),rl_,H',⟨nk_⟩,d0_⟩
  ·have H':=ak_ H;clear H
   go_wp2_with ((refine gm_ 7 Tryz.func44 (r1_May.calls _ _ _ _ A3.out) ?_;rintro w' ⟨nd,rfl⟩))
   go_meet
   case rel=>exact⟨_,(true),rl_,H',⟨nk_⟩,d0_⟩
 case rest =>
  clear HC2;obtain⟨kq,x13_1,rfl,HA,HJ1,⟨mc1,rfl⟩⟩:=hcut
  cases kq with
  | zero=>exact absurd HA.out (by simp[r1_Small.j0])
  | succ kj1 =>
   have H:=HA.out;clear HA;simp only[r1_Small.j0] at H;replace H:=bt_ H;rcases H with ⟨rfl,H⟩|⟨rfl,H⟩
   ·replace H:=pi2_ H;obtain⟨rfl,rfl⟩:=H;go_wp2;go_ret2;exact⟨rl_,d0_⟩
   ·have H':=ak_ H;clear H;go_wp2
    go_loopg [4,5] kj1 (fun kq v4 v5 w'=>∃ (x4_2 x5_2:Int),v4=.int .i64 x4_2∧v5=.int .i64 x5_2∧Aside0 (r1_Small.l0 kq a0 x4_2 x5_2=some (r1,r2))∧Aside0 (kq≤kj1)∧Drawn0 w w')
    case atStart=>exact⟨(0),(0),rl_,rl_,H',⟨nr_ _⟩,d0_⟩
    case round =>
     clear H';obtain⟨x4_2,x5_2,rfl,rfl,HA,HK2,⟨m2,rfl⟩⟩:=hrel
     cases gk with
     | zero=>exact absurd HA.out (by simp[r1_Small.l0])
     | succ k2 =>
      have H:=HA.out;clear HA;simp only[r1_Small.l0] at H;replace H:=bw_ H;rcases H with ⟨c7,H⟩|⟨c7,H⟩
      ·have c7b0:=dt_ c7;clear c7;replace H:=bx_ H;obtain⟨c8,H⟩:=H;replace c8:=dt_ c8;have H':=ak_ H;clear H;have p9:0≤(x5_2:Int):=od_ as_f;have q9:x5_2<(a0.size:Int):=od_ as_f;have hx9:=bt_at a0 x5_2;replace p9:=eq_true p9;replace q9:=eq_true q9;go_wp2
       go_roundg k2
       case measure=>have:=HJ1.out;have:=HK2.out;omega
       case rel=>exact⟨(wrap64 ((wrap64 (10 * x4_2))+(((bt a0 x5_2)-48) % 256))),(wrap64 (x5_2+1)),rl_,rl_,H',⟨by have:=HJ1.out;have:=HK2.out;omega⟩,d0_⟩
      ·have c7b0:=df_ c7;clear c7;replace H:=pi2_ H;obtain⟨rfl,rfl⟩:=H;go_wp2;go_ret2;exact⟨rl_,d0_⟩
def r1_at.f (a0:ByteArray) (a1:Int):Option (Int):=if a1≥(a0.size:Int) then (some 0) else (if 0≤(wrap64 ((wrap64 ((a0.size:Int)-1))-a1)) then (if (wrap64 ((wrap64 ((a0.size:Int)-1))-a1))<(a0.size:Int) then (some (((bt a0 (wrap64 ((wrap64 ((a0.size:Int)-1))-a1)))-48) % 256)) else (none)) else (none))
theorem r1_at.calls (a0:ByteArray) (a1 r:Int) (w:World) (h:r1_at.f a0 a1=some r) :
  Calls Tryz.prog 115 #[.string a0,.int .i64 a1] w fun e w'=>e=.returned (.int .i64 r)∧Drawn0 w w':=by
 have H:=h;unfold r1_at.f at H;clear h;replace H:=bw_ H;rcases H with ⟨c3,H⟩|⟨c3,H⟩
 ·have c3b0:decide ((a0.size:Int)≤a1)=true:=decide_eq_true c3;clear c3;obtain rfl:=oi_ H;go_in;go_wp2
  go_ret
  exact⟨rl_,d0_⟩
 ·have c3b0:decide ((a0.size:Int)≤a1)=false:=decide_eq_false c3;clear c3;obtain⟨ji4,hji4⟩:∃ j_:Int,(wrap64 ((wrap64 ((a0.size:Int)-1))-a1))=j_:=⟨_,rfl⟩;(first|rw[hji4] at H|simp only[hji4] at H);have hji4w:(IntKind.i64.wrap ((wrap64 ((a0.size:Int)-1))-a1))=ji4:=(i64_w _).trans hji4;replace H:=bx_ H;obtain⟨c5,H⟩:=H;replace c5:=dt_ c5;replace H:=bx_ H;obtain⟨c6,H⟩:=H;replace c6:=dt_ c6;obtain rfl:=oi_ H;have p7:0≤((ji4):Int):=od_ as_f;have q7:(ji4)<(a0.size:Int):=od_ as_f;have hx7:=bt_at a0 (ji4);replace p7:=eq_true p7;replace q7:=eq_true q7;go_in;go_wp2
  go_ret
  exact⟨by first|rfl|(simp;done)|(simp only[← hji4] <;> (first|rfl|simp))|(simp[*];done),d0_⟩
def r1_trim.l0:Nat→ByteArray→Int→Option (ByteArray)
 | 0,_,_=>none
 | k+1,x0,x3=>if (wrap64 (x3+1))<(x0.size:Int) then (if 0≤x3 then (if x3<(x0.size:Int) then (if (bt x0 x3)=48 then (r1_trim.l0 k x0 (wrap64 (x3+1))) else (if x3≤(x0.size:Int) then (some (x0.extract (x3:Int).toNat x0.size)) else (none))) else (none)) else (none)) else (if 0≤x3 then (if x3≤(x0.size:Int) then (some (x0.extract (x3:Int).toNat x0.size)) else (none)) else (none))
def r1_trim.f (k:Nat) (a0:ByteArray):Option (ByteArray):=r1_trim.l0 k a0 0
theorem r1_trim.calls (k:Nat) (a0 r:ByteArray) (w:World) (h:r1_trim.f k a0=some r) :
  Calls Tryz.prog 116 #[.string a0] w fun e w'=>e=.returned (.string r)∧Drawn0 w w':=by
 have H:=h;unfold r1_trim.f at H;clear h;have H':=ak_ H;clear H;go_in;go_wp2
 go_loopg [3] k (fun kq v3 w'=>∃ (x3_1:Int),v3=.int .i64 x3_1∧Aside0 (r1_trim.l0 kq a0 x3_1=some r)∧Aside0 (kq≤k)∧Drawn0 w w')
 case atStart=>exact⟨(0),rl_,H',⟨nr_ _⟩,d0_⟩
 case round =>
  clear H';obtain⟨x3_1,rfl,HA,HK1,⟨m1,rfl⟩⟩:=hrel
  cases gk with
  | zero=>exact absurd HA.out (by simp[r1_trim.l0])
  | succ k1 =>
   have H:=HA.out;clear HA;simp only[r1_trim.l0] at H;replace H:=bw_ H;rcases H with ⟨c2,H⟩|⟨c2,H⟩
   ·have c2b0:=dt_ c2
    have c2b0w:decide ((IntKind.i64.wrap (x3_1+1))<(a0.size:Int))=true:=by simp only[i64_w];exact c2b0
    clear c2;replace H:=bx_ H;obtain⟨c3,H⟩:=H;replace c3:=dt_ c3;replace H:=bx_ H;obtain⟨c4,H⟩:=H;replace c4:=dt_ c4;replace H:=bw_ H;rcases H with ⟨c6,H⟩|⟨c6,H⟩
    ·have c6b0:((bt a0 x3_1) == 48)=true:=beq_iff_eq.mpr c6;have c6b1:((bt a0 x3_1) != 48)=false:=bne_eq_false_iff_eq.mpr c6;clear c6;have H':=ak_ H;clear H;have p5:0≤(x3_1:Int):=od_ as_f;have q5:x3_1<(a0.size:Int):=od_ as_f;have hx5:=bt_at a0 x3_1;replace p5:=eq_true p5;replace q5:=eq_true q5;go_wp2
     go_roundg k1
     case measure=>have:=HK1.out;omega
     case rel=>exact⟨(wrap64 (x3_1+1)),rl_,H',⟨by have:=HK1.out;omega⟩,d0_⟩
    ·have c6b0:((bt a0 x3_1) == 48)=false:=beq_eq_false_iff_ne.mpr c6;have c6b1:((bt a0 x3_1) != 48)=true:=bne_iff_ne.mpr c6;have c7b0:=eq_true (od_ as_f:0≤x3_1);replace H:=bx_ H;obtain⟨c8,H⟩:=H;have c8b0:=eq_true c8;replace c8:=dt_ c8;obtain rfl:=oi_ H;have p5:0≤(x3_1:Int):=od_ as_f;have q5:x3_1<(a0.size:Int):=od_ as_f;have hx5:=bt_at a0 x3_1;replace p5:=eq_true p5;replace q5:=eq_true q5;go_wp2
     go_ret
     exact⟨rl_,d0_⟩
   ·have c2b0:=df_ c2
    have c2b0w:decide ((IntKind.i64.wrap (x3_1+1))<(a0.size:Int))=false:=by simp only[i64_w];exact c2b0
    clear c2;replace H:=bx_ H;obtain⟨c9,H⟩:=H;have c9b0:=eq_true c9;replace c9:=dt_ c9;replace H:=bx_ H;obtain⟨c10,H⟩:=H;have c10b0:=eq_true c10;replace c10:=dt_ c10;obtain rfl:=oi_ H;go_wp2
    go_ret
    exact⟨rl_,d0_⟩
end Pq
end Go.Proofs.YtoghmeffpgbcfaaGreatDoor