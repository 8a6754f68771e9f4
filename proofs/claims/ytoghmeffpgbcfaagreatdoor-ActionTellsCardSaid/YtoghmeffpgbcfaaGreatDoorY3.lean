/-
Parts of the proof, in build order: Pq2, Pq3, Pq4, Pq, TenMay, NatDone, RefMay, RefShort, Num, Int, WholeS, RatS, DecS, Pw0, Pw1, Pw2, Pw, WholeApi, WholeDone, TenAt, RefAdd, RefMul, OfS, RefDiv, RefDone, Px0, Px1, Px, Ref2May, PuCom, NumW, RatW, DecW, DecL, Small, ActS, ActDay, GcdS, NatGcd, NumGcd, Py0.
-/
import Derived.Test.YtoghmeffpgbcfaaGreatDoorY2
set_option linter.unusedVariables false
set_option linter.unusedSimpArgs false
set_option maxHeartbeats 64000000
set_option maxRecDepth 100000
namespace Go.Proofs.YtoghmeffpgbcfaaGreatDoor
open Go.RowKit Go.Proofs.YtoghmeffpgbcfaaGreatDoorW.PrintWords Go.Proofs.YtoghmeffpgbcfaaGreatDoorW.PrintLast Go.Proofs.YtoghmeffpgbcfaaGreatDoorW.PrintMore
attribute [local go_sem] max2_int min2_int max_two min_two max_three min_three max_four min_four
namespace Pq
mutual
def r1_Add.j0:Nat→ByteArray→ByteArray→Bool→Option (ByteArray)
 | 0,_,_,_=>none
 | k+1,x0,x1,x17=>if x17=true then (some (⟨#[]⟩:ByteArray)) else (if 0≤(wrap64 ((mx (x0.size:Int) (x1.size:Int))+1)) then (if (wrap64 ((mx (x0.size:Int) (x1.size:Int))+1):Int).toNat≤281474976710656 then (r1_Add.l0 k x0 x1 (wrap64 ((mx (x0.size:Int) (x1.size:Int))+1)) (List.replicate (wrap64 ((mx (x0.size:Int) (x1.size:Int))+1):Int).toNat 0) 0 0) else (none)) else (none))
def r1_Add.l0:Nat→ByteArray→ByteArray→Int→List Int→Int→Int→Option (ByteArray)
 | 0,_,_,_,_,_,_=>none
 | k+1,x0,x1,x5,x6,x7,x8=>if x8<x5 then ((r1_at.f x0 x8).bind fun t110=>((r1_at.f x1 x8).bind fun t111=>(if 0≤(wrap64 ((wrap64 (x5-1))-x8)) then (if (wrap64 ((wrap64 (x5-1))-x8))<(x6.length:Int) then (r1_Add.l0 k x0 x1 x5 (x6.set ((wrap64 ((wrap64 (x5-1))-x8)):Int).toNat ((wrap64 (48+(Int.tmod (wrap64 ((wrap64 (t110+t111))+x7)) 10))) % 256)) (wrap64 (Int.tdiv (wrap64 ((wrap64 (t110+t111))+x7)) 10)) (wrap64 (x8+1))) else (none)) else (none)))) else ((r1_trim.f k (strOfNums x6)).bind fun t113=>(some t113))
end
def r1_Add.f (k:Nat) (a0 a1:ByteArray):Option (ByteArray):=(r1_May.f k a0).bind fun t105=>(if t105=true then ((r1_May.f k a1).bind fun t106=>(r1_Add.j0 k a0 a1 (!t106))) else (r1_Add.j0 k a0 a1 true))
theorem r1_Add.calls (k:Nat) (a0 a1 r:ByteArray) (w:World) (h:r1_Add.f k a0 a1=some r) :
  Calls Tryz.prog 71 #[.string a0,.string a1] w fun e w'=>e=.returned (.string r)∧Below w.heap.size w w':=by
 have HB:=ak_ (Below.refl w.heap.size w);have H:=h;unfold r1_Add.f at H;clear h;have HC3:=ak_ H;clear H;go_in
 go_upto_region 1 with (fail)
 go_cut [17] (fun v17 wc=>∃ (kq:Nat) (x17_2:Bool),v17=.bool x17_2∧Aside0 (r1_Add.j0 kq a0 a1 x17_2=some r)∧Aside0 (kq≤k)∧Aside0 (Below w.heap.size w wc))
 case first =>
  have H:=HC3.out;clear HC3;replace H:=bi_ H;obtain⟨t105,A4,H⟩:=H;replace H:=bt_ H;rcases H with ⟨rfl,H⟩|⟨rfl,H⟩
  ·replace H:=bi_ H;obtain⟨t106,A6,H⟩:=H;have H':=ak_ H;clear H
   go_wp2_with (first|(refine gm_ 11 Tryz.func44 (r1_May.calls _ _ _ _ A4.out) ?_;rintro w' ⟨nd,rfl⟩)|(go_at_call 44;(with_reducible refine(r1_May.calls _ _ _ _ A6.out).mono ?_);rintro e w' ⟨rfl,⟨nd,rfl⟩⟩))
   go_meet
   case rel=>exact⟨_,(!t106),rl_,H',⟨nk_⟩,⟨b_ HB.out⟩⟩
  ·have H':=ak_ H;clear H
   go_wp2_with ((refine gm_ 11 Tryz.func44 (r1_May.calls _ _ _ _ A4.out) ?_;rintro w' ⟨nd,rfl⟩))
   go_meet
   case rel=>exact⟨_,(true),rl_,H',⟨nk_⟩,⟨b_ HB.out⟩⟩
 case rest =>
  clear HC3;obtain⟨kq,x17_2,rfl,HA,HJ2,HB⟩:=hcut
  cases kq with
  | zero=>exact absurd HA.out (by simp[r1_Add.j0])
  | succ kj2 =>
   have H:=HA.out;clear HA;simp only[r1_Add.j0] at H;replace H:=bt_ H;rcases H with ⟨rfl,H⟩|⟨rfl,H⟩
   ·obtain rfl:=oi_ H;go_wp2
    go_ret
    exact⟨er_,b_ HB.out⟩
   ·obtain⟨ji8,hji8⟩:∃ j_:Int,(mx (a0.size:Int) (a1.size:Int))=j_:=⟨_,rfl⟩;(first|rw[hji8] at H|simp only[hji8] at H);have hji8_:(if (a0.size:Int)<(a1.size:Int) then (a1.size:Int) else (a0.size:Int))=ji8:=hji8;have hji8_n:(if a0.size<a1.size then (a1.size:Int) else (a0.size:Int))=ji8:=(ite_congr (propext Int.ofNat_lt.symm) (fun _=>rfl) (fun _=>rfl)).trans hji8_;obtain⟨ji9,hji9⟩:∃ j_:Int,(wrap64 ((ji8)+1))=j_:=⟨_,rfl⟩;(first|rw[hji9] at H|simp only[hji9] at H);have hji9w:(IntKind.i64.wrap ((ji8)+1))=ji9:=(i64_w _).trans hji9;replace H:=bx_ H;obtain⟨c10,H⟩:=H;have c10b0:=eq_true c10;have c10b1:=dt_ c10;clear c10;replace H:=bx_ H;obtain⟨c11,H⟩:=H;have c11b0:=eq_true c11;have c11b1:=dt_ c11;clear c11;obtain⟨y107,hy107⟩:∃ y_:List Int,y_ = (List.replicate (ji9:Int).toNat 0):=⟨_,rfl⟩
    replace H:(r1_Add.l0 kj2 a0 a1 ji9 y107 0 0)=some r:=hr_ hy107 H
    have Ny107:=ak_ hy107;clear hy107;have H':=ak_ H;clear H
    go_wp2_with (((with_reducible refine gate_dst (N:=25) rfl ?_);refine Kd.R_make (Kd.int .u8) _ 5 rfl (N:=25) rfl 78 _ _ rfl ji9 (by first|rfl|(rw[← hji9];rfl)) (by first|rfl|(rw[← hji9];rfl)) Tryz.underlying78 (.int .u8 0) 1 info5 rfl (by decide) (by omega) 0 (ok:=fun _=>True) (okp:=fun _=>True) rfl (fun _ hk=>hk) trivial (od_ as_f) (by have h_:=(od_ as_f:ji9.toNat≤281474976710656);omega) (Below.refl _ _) (nr_ _) ?_;intro v108 w12 ho13 hb hg_ hnew_;clear hg_ hnew_;(first|rw[← Ny107.out] at ho13|(simp only[Int.reduceToNat] at ho13;rw[← Ny107.out] at ho13));have HO109:=ak_ (Kd.R_lower ho13 (below_size (b_ HB.out)));replace HB:=bs_ HB hb;clear hb ho13))
    go_loopg [7,8] kj2 (fun kq v7 v8 w'=>∃ (x6_2:List Int) (x7_2 x8_2:Int),v7=.int .i64 x7_2∧v8=.int .i64 x8_2∧Aside0 (r1_Add.l0 kq a0 a1 ji9 x6_2 x7_2 x8_2=some r)∧Aside0 (kq≤kj2)∧Aside0 (Kd.R (Kd.int .u8) 5 w' w.heap.size (fun _=>True) v108 x6_2)∧Aside0 (Below w.heap.size w w'))
    case atStart=>exact⟨(y107),(0),(0),rl_,rl_,H',⟨nr_ _⟩,⟨by(with_reducible repeat(first|apply Kd.R_alloc|apply Kd.R_drewN|apply Kd.R_drew));exact HO109.out⟩,⟨b_ HB.out⟩⟩
    case round =>
     clear H';(try clear c10b0);(try clear c10b1);(try clear c11b0);(try clear c11b1);obtain⟨x6_2,x7_2,x8_2,rfl,rfl,HA,HK2,HO_6,HB⟩:=hrel
     cases gk with
     | zero=>exact absurd HA.out (by simp[r1_Add.l0])
     | succ k2 =>
      have H:=HA.out;clear HA;simp only[r1_Add.l0] at H;replace H:=bw_ H;rcases H with ⟨c14,H⟩|⟨c14,H⟩
      ·have c14b0:=dt_ c14;clear c14;replace H:=bi_ H;obtain⟨t110,A15,H⟩:=H;replace H:=bi_ H;obtain⟨t111,A16,H⟩:=H;obtain⟨ji17,hji17⟩:∃ j_:Int,(wrap64 ((wrap64 (ji9-1))-x8_2))=j_:=⟨_,rfl⟩;(first|rw[hji17] at H|simp only[hji17] at H);(try rw[hji17] at A15);(try rw[hji17] at A16);have hji17w:(IntKind.i64.wrap ((wrap64 (ji9-1))-x8_2))=ji17:=(i64_w _).trans hji17;replace H:=bx_ H;obtain⟨c18,H⟩:=H;replace c18:=dt_ c18;replace H:=bx_ H;obtain⟨c19,H⟩:=H;replace c19:=dt_ c19;obtain⟨y112,hy112⟩:∃ y_:List Int,y_ = (x6_2.set ((ji17):Int).toNat ((wrap64 (48+(Int.tmod (wrap64 ((wrap64 (t110+t111))+x7_2)) 10))) % 256)):=⟨_,rfl⟩
       replace H:(r1_Add.l0 k2 a0 a1 ji9 y112 (wrap64 (Int.tdiv (wrap64 ((wrap64 (t110+t111))+x7_2)) 10)) (wrap64 (x8_2+1)))=some r:=hr_ hy112 H
       have Ny112:=ak_ hy112;clear hy112;have H':=ak_ H;clear H
       go_wp2_with (first|(refine gm_ 33 Tryz.func115 (r1_at.calls _ _ _ _ A15.out) ?_;rintro w' ⟨nd,rfl⟩;(try(rw[drewN_self wr];generalize hq_:World.drewN wr _ = wr;have n0_:Aside0 (Kd.R (Kd.int .u8) 5 wr w.heap.size (fun _=>True) v108 x6_2):=⟨by rw[← hq_];exact(w_ HO_6.out)⟩;have n1_:Aside0 (Below w.heap.size w wr):=⟨by rw[← hq_];exact(b_ HB.out)⟩;clear HO_6 HB hq_;have HO_6:=n0_;have HB:=n1_;clear n0_ n1_)))|(refine gm_ 36 Tryz.func115 (r1_at.calls _ _ _ _ A16.out) ?_;rintro w' ⟨nd,rfl⟩;(try(rw[drewN_self wr];generalize hq_:World.drewN wr _ = wr;have n0_:Aside0 (Kd.R (Kd.int .u8) 5 wr w.heap.size (fun _=>True) v108 x6_2):=⟨by rw[← hq_];exact(w_ HO_6.out)⟩;have n1_:Aside0 (Below w.heap.size w wr):=⟨by rw[← hq_];exact(b_ HB.out)⟩;clear HO_6 HB hq_;have HO_6:=n0_;have HB:=n1_;clear n0_ n1_));have p20:0≤((ji17):Int):=od_ as_f;have q20:((ji17):Int)<((x6_2.length:Int):Int):=od_ as_f;obtain⟨go20,co20,eo20,gb20,gl20,cl20,HG20⟩:=Kd.R_form HO_6.out (by omega);(first|cases eo20|(injection eo20 with ea_ en_ ec_;(first|subst ea_|(injection ea_ with ea_;subst ea_));subst ec_;clear en_));have GB20:=ak_ gb20;have GG20:=ak_ HG20;clear gb20 gl20 HG20;obtain⟨hx20_0,hf20_0⟩:=Kd.R_celln 0 HO_6.out ((ji17):Int) p20 q20;replace p20:=eq_true p20;replace q20:=eq_true q20;obtain⟨hy21_,hz21_⟩:=Kd.R_celln 0 HO_6.out ((ji17):Int) (od_ as_f) (od_ as_f);have HP21:=Kd.R_putg HO_6.out ((ji17):Int) ((wrap64 (48+(Int.tmod (wrap64 ((wrap64 (t110+t111))+x7_2)) 10))) % 256))|((with_reducible refine gate_store (t:=5) (p:=49) rfl ?_);refine store_event (t:=5) (p:=49) (v:=?vo_w22) (w1:=(wr.setCell ⟨go20,((ji17):Int).toNat,none⟩ (.int .u8 ((wrap64 (48+(Int.tmod (wrap64 ((wrap64 (t110+t111))+x7_2)) 10))) % 256)))) ?hg ?ho ?hn ?hr ?_;(case ho=>rfl);(case hg=>rfl);(case hn=>rfl);(case hr=>first|(go_simp;done)|(go_simp;rfl));intro w22 hw;have hg:wr.grownBy w22 (some go20):=(by rw[hw];exact HP21.2);have hp_:Kd.R (Kd.int .u8) 5 w22 w.heap.size (fun _=>True) (.slice (some ⟨go20,0,none⟩) x6_2.length co20) y112:=(by rw[hw,Ny112.out];exact HP21.1);clear HP21;replace HO_6:=ak_ (hp_);replace HB:=ak_ ((by rw[hw];exact below_set (HB.out) GB20.out:Below w.heap.size w w22));clear hg hw hp_))
       go_roundg k2
       case measure=>have:=HJ2.out;have:=HK2.out;omega
       case rel=>exact⟨(y112),(wrap64 (Int.tdiv (wrap64 ((wrap64 (t110+t111))+x7_2)) 10)),(wrap64 (x8_2+1)),rl_,rl_,H',⟨by have:=HJ2.out;have:=HK2.out;omega⟩,⟨by(with_reducible repeat(first|apply Kd.R_alloc|apply Kd.R_drewN|apply Kd.R_drew));exact HO_6.out⟩,⟨b_ HB.out⟩⟩
      ·have c14b0:=df_ c14;clear c14;replace H:=bi_ H;obtain⟨t113,A23,H⟩:=H;obtain rfl:=oi_ H;have hcv24:=own_string (P:=Tryz.prog) Tryz.underlying78 Tryz.underlying5 Tryz.underlying9 (Kd.own_of_R HO_6.out)
       go_wp2_with ((refine gm_ 54 Tryz.func116 (r1_trim.calls _ _ _ _ A23.out) ?_;rintro w' ⟨nd,rfl⟩))
       go_ret
       exact⟨by first|rfl|(simp[errW_none,errW_some] <;> rfl)|(simp only[← hji8,← hji9];first|rfl|(simp[errW_none,errW_some] <;> rfl))|(simp[*,errW_none,errW_some] <;> rfl),b_ HB.out⟩
mutual
def r1_Sub.j0:Nat→ByteArray→ByteArray→Bool→Option (ByteArray×Bool)
 | 0,_,_,_=>none
 | k+1,x0,x1,x23=>if x23=true then (some ((⟨#[]⟩:ByteArray),false)) else (if 0≤(x0.size:Int) then (if ((x0.size:Int):Int).toNat≤281474976710656 then (r1_Sub.l0 k x0 x1 (List.replicate ((x0.size:Int):Int).toNat 0) 0 0) else (none)) else (none))
def r1_Sub.l0:Nat→ByteArray→ByteArray→List Int→Int→Int→Option (ByteArray×Bool)
 | 0,_,_,_,_,_=>none
 | k+1,x0,x1,x6,x7,x8=>if x8<(x0.size:Int) then ((r1_at.f x0 x8).bind fun t121=>((r1_at.f x1 x8).bind fun t122=>(if (wrap64 ((wrap64 (t121-t122))-x7))<0 then (if 0≤(wrap64 ((wrap64 ((x0.size:Int)-1))-x8)) then (if (wrap64 ((wrap64 ((x0.size:Int)-1))-x8))<(x6.length:Int) then (r1_Sub.l0 k x0 x1 (x6.set ((wrap64 ((wrap64 ((x0.size:Int)-1))-x8)):Int).toNat ((wrap64 (48+(wrap64 ((wrap64 ((wrap64 (t121-t122))-x7))+10)))) % 256)) 1 (wrap64 (x8+1))) else (none)) else (none)) else (if 0≤(wrap64 ((wrap64 ((x0.size:Int)-1))-x8)) then (if (wrap64 ((wrap64 ((x0.size:Int)-1))-x8))<(x6.length:Int) then (r1_Sub.l0 k x0 x1 (x6.set ((wrap64 ((wrap64 ((x0.size:Int)-1))-x8)):Int).toNat ((wrap64 (48+(wrap64 ((wrap64 (t121-t122))-x7)))) % 256)) 0 (wrap64 (x8+1))) else (none)) else (none))))) else ((r1_trim.f k (strOfNums x6)).bind fun t120=>(some (t120,true)))
end
def r1_Sub.f (k:Nat) (a0 a1:ByteArray):Option (ByteArray×Bool):=(r1_May.f k a0).bind fun t114=>(if t114=true then ((r1_May.f k a1).bind fun t115=>(if t115=true then ((r1_Cmp.f k a0 a1).bind fun t116=>(r1_Sub.j0 k a0 a1 (decide (t116<0)))) else (r1_Sub.j0 k a0 a1 true))) else (r1_Sub.j0 k a0 a1 true))
theorem r1_Sub.calls (k:Nat) (a0 a1 r1:ByteArray) (r2:Bool) (w:World) (h:r1_Sub.f k a0 a1=some (r1,r2)) :
  Calls Tryz.prog 117 #[.string a0,.string a1] w fun e w'=>e=.returned (.tuple #[.string r1,.bool r2])∧Below w.heap.size w w':=by
 have HB:=ak_ (Below.refl w.heap.size w);have H:=h;unfold r1_Sub.f at H;clear h;have HC3:=ak_ H;clear H;go_in
 go_upto_region 1 with (fail)
 go_cut [23] (fun v23 wc=>∃ (kq:Nat) (x23_2:Bool),v23=.bool x23_2∧Aside0 (r1_Sub.j0 kq a0 a1 x23_2=some (r1,r2))∧Aside0 (kq≤k)∧Aside0 (Below w.heap.size w wc))
 case first =>
  have H:=HC3.out;clear HC3;replace H:=bi_ H;obtain⟨t114,A4,H⟩:=H;replace H:=bt_ H;rcases H with ⟨rfl,H⟩|⟨rfl,H⟩
  ·replace H:=bi_ H;obtain⟨t115,A6,H⟩:=H;replace H:=bt_ H;rcases H with ⟨rfl,H⟩|⟨rfl,H⟩
   ·replace H:=bi_ H;obtain⟨t116,A8,H⟩:=H;have H':=ak_ H;clear H
    go_wp2_with (first|(refine gm_ 11 Tryz.func44 (r1_May.calls _ _ _ _ A4.out) ?_;rintro w' ⟨nd,rfl⟩)|(go_at_call 44;(with_reducible refine(r1_May.calls _ _ _ _ A6.out).mono ?_);rintro e w' ⟨rfl,⟨nd,rfl⟩⟩)|(go_at_call 45;(with_reducible refine(r1_Cmp.calls _ _ _ _ _ A8.out).mono ?_);rintro e w' ⟨rfl,⟨nd,rfl⟩⟩))
    go_meet
    case rel=>exact⟨_,(decide (t116<0)),rl_,H',⟨nk_⟩,⟨b_ HB.out⟩⟩
   ·have H':=ak_ H;clear H
    go_wp2_with (first|(refine gm_ 11 Tryz.func44 (r1_May.calls _ _ _ _ A4.out) ?_;rintro w' ⟨nd,rfl⟩)|(go_at_call 44;(with_reducible refine(r1_May.calls _ _ _ _ A6.out).mono ?_);rintro e w' ⟨rfl,⟨nd,rfl⟩⟩))
    go_meet
    case rel=>exact⟨_,(true),rl_,H',⟨nk_⟩,⟨b_ HB.out⟩⟩
  ·have H':=ak_ H;clear H
   go_wp2_with ((refine gm_ 11 Tryz.func44 (r1_May.calls _ _ _ _ A4.out) ?_;rintro w' ⟨nd,rfl⟩))
   go_meet
   case rel=>exact⟨_,(true),rl_,H',⟨nk_⟩,⟨b_ HB.out⟩⟩
 case rest =>
  clear HC3;obtain⟨kq,x23_2,rfl,HA,HJ2,HB⟩:=hcut
  cases kq with
  | zero=>exact absurd HA.out (by simp[r1_Sub.j0])
  | succ kj2 =>
   have H:=HA.out;clear HA;simp only[r1_Sub.j0] at H;replace H:=bt_ H;rcases H with ⟨rfl,H⟩|⟨rfl,H⟩
   ·replace H:=pi2_ H;obtain⟨rfl,rfl⟩:=H;go_wp2;go_ret2;exact⟨er_,b_ HB.out⟩
   ·replace H:=bx_ H;obtain⟨c10,H⟩:=H;have c10b0:=eq_true c10;have c10b1:=dt_ c10;clear c10;replace H:=bx_ H;obtain⟨c11,H⟩:=H;have c11b0:=eq_true c11;have c11b1:=dt_ c11;clear c11;obtain⟨y117,hy117⟩:∃ y_:List Int,y_ = (List.replicate ((a0.size:Int):Int).toNat 0):=⟨_,rfl⟩
    replace H:(r1_Sub.l0 kj2 a0 a1 y117 0 0)=some (r1,r2):=hr_ hy117 H
    have Ny117:=ak_ hy117;clear hy117;have H':=ak_ H;clear H
    go_wp2_with (((with_reducible refine gate_dst (N:=26) rfl ?_);refine Kd.R_make (Kd.int .u8) _ 5 rfl (N:=26) rfl 78 _ _ rfl (a0.size:Int) rfl rfl Tryz.underlying78 (.int .u8 0) 1 info5 rfl (by decide) (by omega) 0 (ok:=fun _=>True) (okp:=fun _=>True) rfl (fun _ hk=>hk) trivial (od_ as_f) (by have h_:=(od_ as_f:(a0.size:Int).toNat≤281474976710656);omega) (Below.refl _ _) (nr_ _) ?_;intro v118 w12 ho13 hb hg_ hnew_;clear hg_ hnew_;(first|rw[← Ny117.out] at ho13|(simp only[Int.reduceToNat] at ho13;rw[← Ny117.out] at ho13));have HO119:=ak_ (Kd.R_lower ho13 (below_size (b_ HB.out)));replace HB:=bs_ HB hb;clear hb ho13))
    go_loopg [7,8] kj2 (fun kq v7 v8 w'=>∃ (x6_2:List Int) (x7_2 x8_2:Int),v7=.int .i64 x7_2∧v8=.int .i64 x8_2∧Aside0 (r1_Sub.l0 kq a0 a1 x6_2 x7_2 x8_2=some (r1,r2))∧Aside0 (kq≤kj2)∧Aside0 (Kd.R (Kd.int .u8) 5 w' w.heap.size (fun _=>True) v118 x6_2)∧Aside0 (Below w.heap.size w w'))
    case atStart=>exact⟨(y117),(0),(0),rl_,rl_,H',⟨nr_ _⟩,⟨by(with_reducible repeat(first|apply Kd.R_alloc|apply Kd.R_drewN|apply Kd.R_drew));exact HO119.out⟩,⟨b_ HB.out⟩⟩
    case round =>
     clear H';(try clear c10b0);(try clear c10b1);(try clear c11b0);(try clear c11b1);obtain⟨x6_2,x7_2,x8_2,rfl,rfl,HA,HK2,HO_6,HB⟩:=hrel
     cases gk with
     | zero=>exact absurd HA.out (by simp[r1_Sub.l0])
     | succ k2 =>
      have H:=HA.out;clear HA;simp only[r1_Sub.l0] at H;replace H:=bw_ H;rcases H with ⟨c14,H⟩|⟨c14,H⟩
      ·have c14b0:=dt_ c14;clear c14;replace H:=bi_ H;obtain⟨t121,A15,H⟩:=H;replace H:=bi_ H;obtain⟨t122,A16,H⟩:=H;replace H:=bw_ H;rcases H with ⟨c17,H⟩|⟨c17,H⟩
       ·have c17b0:=dt_ c17
        have c17b0w:decide ((IntKind.i64.wrap ((IntKind.i64.wrap (t121-t122))-x7_2))<0)=true:=by simp only[i64_w];exact c17b0
        clear c17;obtain⟨ji18,hji18⟩:∃ j_:Int,(wrap64 ((wrap64 ((a0.size:Int)-1))-x8_2))=j_:=⟨_,rfl⟩;(first|rw[hji18] at H|simp only[hji18] at H);(try rw[hji18] at A15);(try rw[hji18] at A16);have hji18w:(IntKind.i64.wrap ((wrap64 ((a0.size:Int)-1))-x8_2))=ji18:=(i64_w _).trans hji18;replace H:=bx_ H;obtain⟨c19,H⟩:=H;replace c19:=dt_ c19;replace H:=bx_ H;obtain⟨c20,H⟩:=H;replace c20:=dt_ c20;obtain⟨y123,hy123⟩:∃ y_:List Int,y_ = (x6_2.set ((ji18):Int).toNat ((wrap64 (48+(wrap64 ((wrap64 ((wrap64 (t121-t122))-x7_2))+10)))) % 256)):=⟨_,rfl⟩
        replace H:(r1_Sub.l0 k2 a0 a1 y123 1 (wrap64 (x8_2+1)))=some (r1,r2):=hr_ hy123 H
        have Ny123:=ak_ hy123;clear hy123;have H':=ak_ H;clear H
        go_wp2_with (first|(refine gm_ 35 Tryz.func115 (r1_at.calls _ _ _ _ A15.out) ?_;rintro w' ⟨nd,rfl⟩;(try(rw[drewN_self wr];generalize hq_:World.drewN wr _ = wr;have n0_:Aside0 (Kd.R (Kd.int .u8) 5 wr w.heap.size (fun _=>True) v118 x6_2):=⟨by rw[← hq_];exact(w_ HO_6.out)⟩;have n1_:Aside0 (Below w.heap.size w wr):=⟨by rw[← hq_];exact(b_ HB.out)⟩;clear HO_6 HB hq_;have HO_6:=n0_;have HB:=n1_;clear n0_ n1_)))|(refine gm_ 38 Tryz.func115 (r1_at.calls _ _ _ _ A16.out) ?_;rintro w' ⟨nd,rfl⟩;(try(rw[drewN_self wr];generalize hq_:World.drewN wr _ = wr;have n0_:Aside0 (Kd.R (Kd.int .u8) 5 wr w.heap.size (fun _=>True) v118 x6_2):=⟨by rw[← hq_];exact(w_ HO_6.out)⟩;have n1_:Aside0 (Below w.heap.size w wr):=⟨by rw[← hq_];exact(b_ HB.out)⟩;clear HO_6 HB hq_;have HO_6:=n0_;have HB:=n1_;clear n0_ n1_));have p21:0≤((ji18):Int):=od_ as_f;have q21:((ji18):Int)<((x6_2.length:Int):Int):=od_ as_f;obtain⟨go21,co21,eo21,gb21,gl21,cl21,HG21⟩:=Kd.R_form HO_6.out (by omega);(first|cases eo21|(injection eo21 with ea_ en_ ec_;(first|subst ea_|(injection ea_ with ea_;subst ea_));subst ec_;clear en_));have GB21:=ak_ gb21;have GG21:=ak_ HG21;clear gb21 gl21 HG21;obtain⟨hx21_0,hf21_0⟩:=Kd.R_celln 0 HO_6.out ((ji18):Int) p21 q21;replace p21:=eq_true p21;replace q21:=eq_true q21;obtain⟨hy22_,hz22_⟩:=Kd.R_celln 0 HO_6.out ((ji18):Int) (od_ as_f) (od_ as_f);have HP22:=Kd.R_putg HO_6.out ((ji18):Int) ((wrap64 (48+(wrap64 ((wrap64 ((wrap64 (t121-t122))-x7_2))+10)))) % 256))|((with_reducible refine gate_store (t:=5) (p:=55) rfl ?_);refine store_event (t:=5) (p:=55) (v:=?vo_w23) (w1:=(wr.setCell ⟨go21,((ji18):Int).toNat,none⟩ (.int .u8 ((wrap64 (48+(wrap64 ((wrap64 ((wrap64 (t121-t122))-x7_2))+10)))) % 256)))) ?hg ?ho ?hn ?hr ?_;(case ho=>rfl);(case hg=>rfl);(case hn=>rfl);(case hr=>first|(go_simp;done)|(go_simp;rfl));intro w23 hw;have hg:wr.grownBy w23 (some go21):=(by rw[hw];exact HP22.2);have hp_:Kd.R (Kd.int .u8) 5 w23 w.heap.size (fun _=>True) (.slice (some ⟨go21,0,none⟩) x6_2.length co21) y123:=(by rw[hw,Ny123.out];exact HP22.1);clear HP22;replace HO_6:=ak_ (hp_);replace HB:=ak_ ((by rw[hw];exact below_set (HB.out) GB21.out:Below w.heap.size w w23));clear hg hw hp_))
        go_roundg k2
        case measure=>have:=HJ2.out;have:=HK2.out;omega
        case rel=>exact⟨(y123),(1),(wrap64 (x8_2+1)),rl_,rl_,H',⟨by have:=HJ2.out;have:=HK2.out;omega⟩,⟨by(with_reducible repeat(first|apply Kd.R_alloc|apply Kd.R_drewN|apply Kd.R_drew));exact HO_6.out⟩,⟨b_ HB.out⟩⟩
       ·have c17b0:=df_ c17
        have c17b0w:decide ((IntKind.i64.wrap ((IntKind.i64.wrap (t121-t122))-x7_2))<0)=false:=by simp only[i64_w];exact c17b0
        clear c17;obtain⟨ji24,hji24⟩:∃ j_:Int,(wrap64 ((wrap64 ((a0.size:Int)-1))-x8_2))=j_:=⟨_,rfl⟩;(first|rw[hji24] at H|simp only[hji24] at H);(try rw[hji24] at A15);(try rw[hji24] at A16);have hji24w:(IntKind.i64.wrap ((wrap64 ((a0.size:Int)-1))-x8_2))=ji24:=(i64_w _).trans hji24;replace H:=bx_ H;obtain⟨c25,H⟩:=H;replace c25:=dt_ c25;replace H:=bx_ H;obtain⟨c26,H⟩:=H;replace c26:=dt_ c26;obtain⟨y124,hy124⟩:∃ y_:List Int,y_ = (x6_2.set ((ji24):Int).toNat ((wrap64 (48+(wrap64 ((wrap64 (t121-t122))-x7_2)))) % 256)):=⟨_,rfl⟩
        replace H:(r1_Sub.l0 k2 a0 a1 y124 0 (wrap64 (x8_2+1)))=some (r1,r2):=hr_ hy124 H
        have Ny124:=ak_ hy124;clear hy124;have H':=ak_ H;clear H
        go_wp2_with (first|(refine gm_ 35 Tryz.func115 (r1_at.calls _ _ _ _ A15.out) ?_;rintro w' ⟨nd,rfl⟩;(try(rw[drewN_self wr];generalize hq_:World.drewN wr _ = wr;have n0_:Aside0 (Kd.R (Kd.int .u8) 5 wr w.heap.size (fun _=>True) v118 x6_2):=⟨by rw[← hq_];exact(w_ HO_6.out)⟩;have n1_:Aside0 (Below w.heap.size w wr):=⟨by rw[← hq_];exact(b_ HB.out)⟩;clear HO_6 HB hq_;have HO_6:=n0_;have HB:=n1_;clear n0_ n1_)))|(refine gm_ 38 Tryz.func115 (r1_at.calls _ _ _ _ A16.out) ?_;rintro w' ⟨nd,rfl⟩;(try(rw[drewN_self wr];generalize hq_:World.drewN wr _ = wr;have n0_:Aside0 (Kd.R (Kd.int .u8) 5 wr w.heap.size (fun _=>True) v118 x6_2):=⟨by rw[← hq_];exact(w_ HO_6.out)⟩;have n1_:Aside0 (Below w.heap.size w wr):=⟨by rw[← hq_];exact(b_ HB.out)⟩;clear HO_6 HB hq_;have HO_6:=n0_;have HB:=n1_;clear n0_ n1_));have p27:0≤((ji24):Int):=od_ as_f;have q27:((ji24):Int)<((x6_2.length:Int):Int):=od_ as_f;obtain⟨go27,co27,eo27,gb27,gl27,cl27,HG27⟩:=Kd.R_form HO_6.out (by omega);(first|cases eo27|(injection eo27 with ea_ en_ ec_;(first|subst ea_|(injection ea_ with ea_;subst ea_));subst ec_;clear en_));have GB27:=ak_ gb27;have GG27:=ak_ HG27;clear gb27 gl27 HG27;obtain⟨hx27_0,hf27_0⟩:=Kd.R_celln 0 HO_6.out ((ji24):Int) p27 q27;replace p27:=eq_true p27;replace q27:=eq_true q27;obtain⟨hy28_,hz28_⟩:=Kd.R_celln 0 HO_6.out ((ji24):Int) (od_ as_f) (od_ as_f);have HP28:=Kd.R_putg HO_6.out ((ji24):Int) ((wrap64 (48+(wrap64 ((wrap64 (t121-t122))-x7_2)))) % 256))|((with_reducible refine gate_store (t:=5) (p:=55) rfl ?_);refine store_event (t:=5) (p:=55) (v:=?vo_w29) (w1:=(wr.setCell ⟨go27,((ji24):Int).toNat,none⟩ (.int .u8 ((wrap64 (48+(wrap64 ((wrap64 (t121-t122))-x7_2)))) % 256)))) ?hg ?ho ?hn ?hr ?_;(case ho=>rfl);(case hg=>rfl);(case hn=>rfl);(case hr=>first|(go_simp;done)|(go_simp;rfl));intro w29 hw;have hg:wr.grownBy w29 (some go27):=(by rw[hw];exact HP28.2);have hp_:Kd.R (Kd.int .u8) 5 w29 w.heap.size (fun _=>True) (.slice (some ⟨go27,0,none⟩) x6_2.length co27) y124:=(by rw[hw,Ny124.out];exact HP28.1);clear HP28;replace HO_6:=ak_ (hp_);replace HB:=ak_ ((by rw[hw];exact below_set (HB.out) GB27.out:Below w.heap.size w w29));clear hg hw hp_))
        go_roundg k2
        case measure=>have:=HJ2.out;have:=HK2.out;omega
        case rel=>exact⟨(y124),(0),(wrap64 (x8_2+1)),rl_,rl_,H',⟨by have:=HJ2.out;have:=HK2.out;omega⟩,⟨by(with_reducible repeat(first|apply Kd.R_alloc|apply Kd.R_drewN|apply Kd.R_drew));exact HO_6.out⟩,⟨b_ HB.out⟩⟩
      ·have c14b0:=df_ c14;clear c14;replace H:=bi_ H;obtain⟨t120,A30,H⟩:=H;replace H:=pi2_ H;obtain⟨rfl,rfl⟩:=H;have hcv31:=own_string (P:=Tryz.prog) Tryz.underlying78 Tryz.underlying5 Tryz.underlying9 (Kd.own_of_R HO_6.out)
       go_wp2_with ((refine gm_ 58 Tryz.func116 (r1_trim.calls _ _ _ _ A30.out) ?_;rintro w' ⟨nd,rfl⟩))
       go_ret2;exact⟨er_,b_ HB.out⟩
mutual
def r1_Mul.j0:Nat→ByteArray→ByteArray→Bool→Option (ByteArray)
 | 0,_,_,_=>none
 | k+1,x0,x1,x20=>if x20=true then (some (⟨#[]⟩:ByteArray)) else (if 0≤(wrap64 ((wrap64 ((x0.size:Int)+(x1.size:Int)))+1)) then (if (wrap64 ((wrap64 ((x0.size:Int)+(x1.size:Int)))+1):Int).toNat≤35184372088832 then (r1_Mul.l0 k x0 x1 (wrap64 ((x0.size:Int)+(x1.size:Int))) (List.replicate (wrap64 ((wrap64 ((x0.size:Int)+(x1.size:Int)))+1):Int).toNat 0) 0) else (none)) else (none))
def r1_Mul.l0:Nat→ByteArray→ByteArray→Int→List Int→Int→Option (ByteArray)
 | 0,_,_,_,_,_=>none
 | k+1,x0,x1,x5,x6,x7=>if x7<(x0.size:Int) then (r1_Mul.l1 k x0 x1 x5 x6 x7 0) else (if 0≤x5 then (if (x5:Int).toNat≤281474976710656 then (r1_Mul.l2 k x5 x6 (List.replicate (x5:Int).toNat 0) 0 0) else (none)) else (none))
def r1_Mul.l1:Nat→ByteArray→ByteArray→Int→List Int→Int→Int→Option (ByteArray)
 | 0,_,_,_,_,_,_=>none
 | k+1,x0,x1,x5,x6,x7,x8=>if x8<(x1.size:Int) then (if 0≤(wrap64 (x7+x8)) then (if (wrap64 (x7+x8))<(x6.length:Int) then ((r1_at.f x0 x7).bind fun t131=>((r1_at.f x1 x8).bind fun t132=>(r1_Mul.l1 k x0 x1 x5 (x6.set ((wrap64 (x7+x8)):Int).toNat (wrap64 ((rd x6 (wrap64 (x7+x8)))+(wrap64 (t131 * t132))))) x7 (wrap64 (x8+1))))) else (none)) else (none)) else (r1_Mul.l0 k x0 x1 x5 x6 (wrap64 (x7+1)))
def r1_Mul.l2:Nat→Int→List Int→List Int→Int→Int→Option (ByteArray)
 | 0,_,_,_,_,_=>none
 | k+1,x5,x6,x9,x10,x11=>if x11<x5 then (if 0≤x11 then (if x11<(x6.length:Int) then (if 0≤(wrap64 ((wrap64 (x5-1))-x11)) then (if (wrap64 ((wrap64 (x5-1))-x11))<(x9.length:Int) then (r1_Mul.l2 k x5 x6 (x9.set ((wrap64 ((wrap64 (x5-1))-x11)):Int).toNat ((wrap64 (48+(Int.tmod (wrap64 ((rd x6 x11)+x10)) 10))) % 256)) (wrap64 (Int.tdiv (wrap64 ((rd x6 x11)+x10)) 10)) (wrap64 (x11+1))) else (none)) else (none)) else (none)) else (none)) else ((r1_trim.f k (strOfNums x9)).bind fun t139=>(some t139))
end
def r1_Mul.f (k:Nat) (a0 a1:ByteArray):Option (ByteArray):=(r1_May.f k a0).bind fun t125=>(if t125=true then ((r1_May.f k a1).bind fun t126=>(r1_Mul.j0 k a0 a1 (!t126))) else (r1_Mul.j0 k a0 a1 true))
def r1_Mul.T11:Bool×List (List Nat×List Nat):=(true,[([],[]),([],[]),([],[]),([1,2],[1,2]),([0,3],[0,3]),([4],[4]),([],[]),([],[]),([6,7],[6,7]),([],[]),([],[]),([9,10,8],[9,10]),([8,11],[8,11]),([5,12],[5,12]),([0,3,0,1,2,3,4,5,6,7,8,9,10,11,12,13],[0,3]),([14,13,11,0,1,2,3,4,5,6,7,8,9,10,11,12,13],[13,14])])
def r1_Mul.B11:List Nat:=[0,0,0,6,15,31,0,0,192,0,0,1984,4032,8191,16383,32767]
theorem r1_Mul.tab11:rtab .any (opsOf Tryz.f114 11)=r1_Mul.T11:=by kernel_rfl
theorem r1_Mul.bits11:waitsOk r1_Mul.T11.2 r1_Mul.B11=true:=by kernel_rfl
theorem r1_Mul.calls (k:Nat) (a0 a1 r:ByteArray) (w:World) (h:r1_Mul.f k a0 a1=some r) :
  Calls Tryz.prog 114 #[.string a0,.string a1] w fun e w'=>e=.returned (.string r)∧Below w.heap.size w w':=by
 have HB:=ak_ (Below.refl w.heap.size w);have H:=h;unfold r1_Mul.f at H;clear h;have HC3:=ak_ H;clear H;go_in
 go_upto_region 1 with (fail)
 go_cut [20] (fun v20 wc=>∃ (kq:Nat) (x20_2:Bool),v20=.bool x20_2∧Aside0 (r1_Mul.j0 kq a0 a1 x20_2=some r)∧Aside0 (kq≤k)∧Aside0 (Below w.heap.size w wc))
 case first =>
  have H:=HC3.out;clear HC3;replace H:=bi_ H;obtain⟨t125,A4,H⟩:=H;replace H:=bt_ H;rcases H with ⟨rfl,H⟩|⟨rfl,H⟩
  ·replace H:=bi_ H;obtain⟨t126,A6,H⟩:=H;have H':=ak_ H;clear H
   go_wp2_with (first|(refine gm_ 14 Tryz.func44 (r1_May.calls _ _ _ _ A4.out) ?_;rintro w' ⟨nd,rfl⟩)|(go_at_call 44;(with_reducible refine(r1_May.calls _ _ _ _ A6.out).mono ?_);rintro e w' ⟨rfl,⟨nd,rfl⟩⟩))
   go_meet
   case rel=>exact⟨_,(!t126),rl_,H',⟨nk_⟩,⟨b_ HB.out⟩⟩
  ·have H':=ak_ H;clear H
   go_wp2_with ((refine gm_ 14 Tryz.func44 (r1_May.calls _ _ _ _ A4.out) ?_;rintro w' ⟨nd,rfl⟩))
   go_meet
   case rel=>exact⟨_,(true),rl_,H',⟨nk_⟩,⟨b_ HB.out⟩⟩
 case rest =>
  clear HC3;obtain⟨kq,x20_2,rfl,HA,HJ2,HB⟩:=hcut
  cases kq with
  | zero=>exact absurd HA.out (by simp[r1_Mul.j0])
  | succ kj2 =>
   have H:=HA.out;clear HA;simp only[r1_Mul.j0] at H;replace H:=bt_ H;rcases H with ⟨rfl,H⟩|⟨rfl,H⟩
   ·obtain rfl:=oi_ H;go_wp2
    go_ret
    exact⟨er_,b_ HB.out⟩
   ·obtain⟨ji8,hji8⟩:∃ j_:Int,(wrap64 ((wrap64 ((a0.size:Int)+(a1.size:Int)))+1))=j_:=⟨_,rfl⟩;(first|rw[hji8] at H|simp only[hji8] at H);have hji8w:(IntKind.i64.wrap ((wrap64 ((a0.size:Int)+(a1.size:Int)))+1))=ji8:=(i64_w _).trans hji8;replace H:=bx_ H;obtain⟨c9,H⟩:=H;have c9b0:=eq_true c9;have c9b1:=dt_ c9;clear c9;replace H:=bx_ H;obtain⟨c10,H⟩:=H;have c10b0:=eq_true c10;have c10b1:=dt_ c10;clear c10;obtain⟨y127,hy127⟩:∃ y_:List Int,y_ = (List.replicate (ji8:Int).toNat 0):=⟨_,rfl⟩
    replace H:(r1_Mul.l0 kj2 a0 a1 (wrap64 ((a0.size:Int)+(a1.size:Int))) y127 0)=some r:=hr_ hy127 H
    have Ny127:=ak_ hy127;clear hy127;have H':=ak_ H;clear H
    go_wp2_with (((with_reducible refine gate_dst (N:=28) rfl ?_);refine Kd.R_make (Kd.int .i64) _ 3 rfl (N:=28) rfl 99 _ _ rfl ji8 (by first|rfl|(rw[← hji8];rfl)) (by first|rfl|(rw[← hji8];rfl)) Tryz.underlying99 (.int .i64 0) 8 info3 rfl (by decide) (by omega) 0 (ok:=fun _=>True) (okp:=fun _=>True) rfl (fun _ hk=>hk) trivial (od_ as_f) (by have h_:=(od_ as_f:ji8.toNat≤35184372088832);omega) (Below.refl _ _) (nr_ _) ?_;intro v128 w11 ho12 hb hg_ hnew_;clear hg_ hnew_;(first|rw[← Ny127.out] at ho12|(simp only[Int.reduceToNat] at ho12;rw[← Ny127.out] at ho12));have HO129:=ak_ (Kd.R_lower ho12 (below_size (b_ HB.out)));replace HB:=bs_ HB hb;clear hb ho12))
    go_loopg [7] kj2 (fun kq v7 w'=>∃ (x6_2:List Int) (x7_2:Int),v7=.int .i64 x7_2∧Aside0 (r1_Mul.l0 kq a0 a1 (wrap64 ((a0.size:Int)+(a1.size:Int))) x6_2 x7_2=some r)∧Aside0 (kq≤kj2)∧Aside0 (Kd.R (Kd.int .i64) 3 w' w.heap.size (fun _=>True) v128 x6_2)∧Aside0 (Below w.heap.size w w'))
    case atStart=>exact⟨(y127),(0),rl_,H',⟨nr_ _⟩,⟨by(with_reducible repeat(first|apply Kd.R_alloc|apply Kd.R_drewN|apply Kd.R_drew));exact HO129.out⟩,⟨b_ HB.out⟩⟩
    case round =>
     clear H';(try clear c9b0);(try clear c9b1);(try clear c10b0);(try clear c10b1);obtain⟨x6_2,x7_2,rfl,HA,HK2,HO_6,HB⟩:=hrel
     cases gk with
     | zero=>exact absurd HA.out (by simp[r1_Mul.l0])
     | succ k2 =>
      have H:=HA.out;clear HA;simp only[r1_Mul.l0] at H;replace H:=bw_ H;rcases H with ⟨c13,H⟩|⟨c13,H⟩
      ·have c13b0:=dt_ c13;clear c13;have H':=ak_ H;clear H;go_wp2
       go_loopg [8] k2 (fun kq v8 w'=>∃ (x6_3:List Int) (x8_3:Int),v8=.int .i64 x8_3∧Aside0 (r1_Mul.l1 kq a0 a1 (wrap64 ((a0.size:Int)+(a1.size:Int))) x6_3 x7_2 x8_3=some r)∧Aside0 (kq≤k2)∧Aside0 (Kd.R (Kd.int .i64) 3 w' w.heap.size (fun _=>True) v128 x6_3)∧Aside0 (Below w.heap.size w w'))
       case atStart=>exact⟨(x6_2),(0),rl_,H',⟨nr_ _⟩,⟨by(with_reducible repeat(first|apply Kd.R_alloc|apply Kd.R_drewN|apply Kd.R_drew));exact HO_6.out⟩,⟨b_ HB.out⟩⟩
       case round =>
        clear H';(try clear c9b0);(try clear c9b1);(try clear c10b0);(try clear c10b1);(try clear c13b0);obtain⟨x6_3,x8_3,rfl,HA,HK3,HO_6,HB⟩:=hrel
        cases gk with
        | zero=>exact absurd HA.out (by simp[r1_Mul.l1])
        | succ k3 =>
         have H:=HA.out;clear HA;simp only[r1_Mul.l1] at H;replace H:=bw_ H;rcases H with ⟨c14,H⟩|⟨c14,H⟩
         ·have c14b0:=dt_ c14;clear c14;obtain⟨ji15,hji15⟩:∃ j_:Int,(wrap64 (x7_2+x8_3))=j_:=⟨_,rfl⟩;(first|rw[hji15] at H|simp only[hji15] at H);have hji15w:(IntKind.i64.wrap (x7_2+x8_3))=ji15:=(i64_w _).trans hji15;replace H:=bx_ H;obtain⟨c16,H⟩:=H;have c16b0:=dt_ c16;clear c16;replace H:=bx_ H;obtain⟨c17,H⟩:=H;have c17b0:=dt_ c17;clear c17;replace H:=bi_ H;obtain⟨t131,A18,H⟩:=H;replace H:=bi_ H;obtain⟨t132,A19,H⟩:=H;obtain⟨y133,hy133⟩:∃ y_:List Int,y_ = (x6_3.set ((ji15):Int).toNat (wrap64 ((rd x6_3 (ji15))+(wrap64 (t131 * t132))))):=⟨_,rfl⟩
          replace H:(r1_Mul.l1 k3 a0 a1 (wrap64 ((a0.size:Int)+(a1.size:Int))) y133 x7_2 (wrap64 (x8_3+1)))=some r:=hr_ hy133 H
          have Ny133:=ak_ hy133;clear hy133;have H':=ak_ H;clear H
          try go_wp2
          replace HO_6:=ak_ (Kd.R_drew HO_6.out);replace HB:=ak_ (below_drew1 HB.out);obtain⟨Ao22,co22,eo22⟩:=Kd.R_slice HO_6.out;(first|subst eo22|(injection eo22 with f1_ f2_ f3_;have f4_:=f1_.symm;have f5_:=f3_.symm;clear f1_ f2_ f3_;subst f4_;subst f5_));have p130:0≤((ji15):Int):=od_ as_f;have q130:(ji15)<(x6_3.length:Int):=od_ as_f;obtain⟨ad130,e130,hx130_0⟩:=Kd.at_int (Kd.R_reads' HO_6.out).2.2 (ji15) p130 q130
          cases e130
          replace p130:=eq_true p130;replace q130:=eq_true q130;refine start_ (n:=16) (S:=fun w'=>w'.cell? (ad130.add ((ji15)).toNat)=some (.int .i64 (rd x6_3 (ji15)))) (ds:=[15]) #[false,false,false,false,false,false,false,false,false,false,false,false,false,false,false,false] (by kernel_rfl) rfl rfl (hx130_0) (fun hHeld=>?_);refine with_tabW r1_Mul.tab11 r1_Mul.bits11 (fun HT_ HW_=>?_);generalize wr.drew=w21 at HO_6 HB hx130_0 hHeld ⊢;refine pu_ 0 41 rfl rfl HT_ ?_;refine pu_ 1 42 rfl rfl HT_ ?_;refine pu_ 2 43 rfl rfl HT_ ?_;refine pu_ 3 44 rfl rfl HT_ ?_;refine pu_ 4 45 rfl rfl HT_ ?_;refine pu_ 6 47 rfl rfl HT_ ?_;refine pu_ 7 48 rfl rfl HT_ ?_;refine pu_ 9 50 rfl rfl HT_ ?_;refine pu_ 10 51 rfl rfl HT_ ?_;refine t_ 5 46 rfl rfl HT_ HW_ hHeld ?_;refine on_ 8 (some 49) rfl rfl HT_ (fun K hK=>?_);refine gs_ Tryz.func115 #[.string a0,.int .i64 x7_2] ?_
          with_reducible refine(r1_at.calls _ _ _ _ A18.out).mono ?_
          rintro e w' ⟨rfl,⟨nd,rfl⟩⟩;refine⟨_,rfl,?_⟩;refine hK.out _ _ (hHeld) (fun hHeld=>?_);clear hK K;refine nm_ ?_;refine on_ 11 (some 52) rfl rfl HT_ (fun K hK=>?_);refine gs_ Tryz.func115 #[.string a1,.int .i64 x8_3] ?_
          with_reducible refine(r1_at.calls _ _ _ _ A19.out).mono ?_
          rintro e w' ⟨rfl,⟨nd,rfl⟩⟩;refine⟨_,rfl,?_⟩;have p20:0≤((ji15):Int):=od_ as_f;have q20:((ji15):Int)<((x6_3.length:Int):Int):=od_ as_f;obtain⟨go20,co20,eo20,gb20,gl20,cl20,HG20⟩:=Kd.R_form HO_6.out (by omega);(first|cases eo20|(injection eo20 with ea_ en_ ec_;(first|subst ea_|(injection ea_ with ea_;subst ea_));subst ec_;clear en_));have GB20:=ak_ gb20;have GG20:=ak_ HG20;clear gb20 gl20 HG20;(first|simp only[add_plain] at hx130_0|skip);obtain⟨hx20_0,hf20_0⟩:=Kd.R_celln 0 HO_6.out ((ji15):Int) p20 q20;replace p20:=eq_true p20;replace q20:=eq_true q20;have HP23:=Kd.R_putn HO_6.out ((ji15):Int) (wrap64 ((rd x6_3 (ji15))+(wrap64 (t131 * t132))));rw[← Ny133.out] at HP23;have HQ23:=ak_ HP23;clear HP23;refine hK.out _ _ (hHeld) (fun hHeld=>?_);clear hK K;refine nm_ ?_;refine pu_ 12 53 rfl rfl HT_ ?_;refine pu_ 13 54 rfl rfl HT_ ?_;refine pu_ 14 55 rfl rfl HT_ ?_;refine last_ (i:=15) (N:=none) #[true,true,true,true,true,true,true,true,true,true,true,true,true,true,true,true] rfl rfl (one_of HT_.out (by kernel_rfl)) (by decide) (fun K hK=>?_);refine skip_ (w1:=?_) (by rfl) rfl ?_ ?_;rotate_left
          ·go_simp
           rfl
          refine hK.out _ _ ?_;clear hK K;refine done_ (done_of HT_.out (by kernel_rfl)) ?_
          try go_wp2
          go_roundg k3
          case measure=>have:=HJ2.out;have:=HK2.out;have:=HK3.out;omega
          case rel=>exact⟨(y133),(wrap64 (x8_3+1)),rl_,H',⟨by have:=HJ2.out;have:=HK2.out;have:=HK3.out;omega⟩,⟨by(with_reducible repeat(first|apply Kd.R_alloc|apply Kd.R_drewN|apply Kd.R_drew));exact HQ23.out⟩,⟨by repeat(first|(with_reducible first|exact HB.out|apply below_alloc|apply pw_below_drewN|apply below_drew1|refine below_set ?_ GB20.out)|exact HB.out)⟩⟩
         ·have c14b0:=df_ c14;clear c14;have H':=ak_ H;clear H;go_wp2
          go_roundg k3
          case measure=>have:=HJ2.out;have:=HK2.out;have:=HK3.out;omega
          case rel=>exact⟨(x6_3),(wrap64 (x7_2+1)),rl_,H',⟨by have:=HJ2.out;have:=HK2.out;have:=HK3.out;omega⟩,⟨by(with_reducible repeat(first|apply Kd.R_alloc|apply Kd.R_drewN|apply Kd.R_drew));exact HO_6.out⟩,⟨b_ HB.out⟩⟩
      ·have c13b0:=df_ c13;clear c13;obtain⟨ji24,hji24⟩:∃ j_:Int,(wrap64 ((a0.size:Int)+(a1.size:Int)))=j_:=⟨_,rfl⟩;(first|rw[hji24] at H|simp only[hji24] at H);have hji24w:(IntKind.i64.wrap ((a0.size:Int)+(a1.size:Int)))=ji24:=(i64_w _).trans hji24;replace H:=bx_ H;obtain⟨c25,H⟩:=H;have c25b0:=eq_true c25;have c25b1:=dt_ c25;clear c25;replace H:=bx_ H;obtain⟨c26,H⟩:=H;have c26b0:=eq_true c26;have c26b1:=dt_ c26;clear c26;obtain⟨y134,hy134⟩:∃ y_:List Int,y_ = (List.replicate ((ji24):Int).toNat 0):=⟨_,rfl⟩
       replace H:(r1_Mul.l2 k2 (ji24) x6_2 y134 0 0)=some r:=hr_ hy134 H
       have Ny134:=ak_ hy134;clear hy134;have H':=ak_ H;clear H
       go_wp2_with (((with_reducible refine gate_dst (N:=57) rfl ?_);refine Kd.R_make (Kd.int .u8) _ 5 rfl (N:=57) rfl 78 _ _ rfl (ji24) (by first|rfl|(rw[← hji24];rfl)) (by first|rfl|(rw[← hji24];rfl)) Tryz.underlying78 (.int .u8 0) 1 info5 rfl (by decide) (by omega) 0 (ok:=fun _=>True) (okp:=fun _=>True) rfl (fun _ hk=>hk) trivial (od_ as_f) (by have h_:=(od_ as_f:(ji24).toNat≤281474976710656);omega) (Below.refl _ _) (nr_ _) ?_;intro v135 w27 ho28 hb hg_ hnew_;clear hg_ hnew_;(first|rw[← Ny134.out] at ho28|(simp only[Int.reduceToNat] at ho28;rw[← Ny134.out] at ho28));have HO136:=ak_ (Kd.R_lower ho28 (below_size (b_ HB.out)));replace HO_6:=ak_ (Kd.R_below (w_ HO_6.out) hb);replace HB:=bs_ HB hb;clear hb ho28))
       go_loopg [10,11] k2 (fun kq v10 v11 w'=>∃ (x9_3:List Int) (x10_3 x11_3:Int),v10=.int .i64 x10_3∧v11=.int .i64 x11_3∧Aside0 (r1_Mul.l2 kq (ji24) x6_2 x9_3 x10_3 x11_3=some r)∧Aside0 (kq≤k2)∧Aside0 (Kd.R (Kd.int .i64) 3 w' w.heap.size (fun _=>True) v128 x6_2)∧Aside0 (Kd.R (Kd.int .u8) 5 w' w.heap.size (fun _=>True) v135 x9_3)∧Aside0 (Below w.heap.size w w'))
       case atStart=>exact⟨(y134),(0),(0),rl_,rl_,H',⟨nr_ _⟩,⟨by(with_reducible repeat(first|apply Kd.R_alloc|apply Kd.R_drewN|apply Kd.R_drew));exact HO_6.out⟩,⟨by(with_reducible repeat(first|apply Kd.R_alloc|apply Kd.R_drewN|apply Kd.R_drew));exact HO136.out⟩,⟨b_ HB.out⟩⟩
       case round =>
        clear H';(try clear c9b0);(try clear c9b1);(try clear c10b0);(try clear c10b1);(try clear c13b0);(try clear c25b0);(try clear c25b1);(try clear c26b0);(try clear c26b1);obtain⟨x9_3,x10_3,x11_3,rfl,rfl,HA,HK3,HO_6,HO_9,HB⟩:=hrel
        cases gk with
        | zero=>exact absurd HA.out (by simp[r1_Mul.l2])
        | succ k3 =>
         have H:=HA.out;clear HA;simp only[r1_Mul.l2] at H;replace H:=bw_ H;rcases H with ⟨c29,H⟩|⟨c29,H⟩
         ·have c29b0:=dt_ c29;clear c29;replace H:=bx_ H;obtain⟨c30,H⟩:=H;replace c30:=dt_ c30;replace H:=bx_ H;obtain⟨c31,H⟩:=H;replace c31:=dt_ c31;obtain⟨ji32,hji32⟩:∃ j_:Int,(wrap64 ((wrap64 ((ji24)-1))-x11_3))=j_:=⟨_,rfl⟩;(first|rw[hji32] at H|simp only[hji32] at H);have hji32w:(IntKind.i64.wrap ((wrap64 ((ji24)-1))-x11_3))=ji32:=(i64_w _).trans hji32;replace H:=bx_ H;obtain⟨c33,H⟩:=H;replace c33:=dt_ c33;replace H:=bx_ H;obtain⟨c34,H⟩:=H;replace c34:=dt_ c34;obtain⟨y138,hy138⟩:∃ y_:List Int,y_ = (x9_3.set ((ji32):Int).toNat ((wrap64 (48+(Int.tmod (wrap64 ((rd x6_2 x11_3)+x10_3)) 10))) % 256)):=⟨_,rfl⟩
          replace H:(r1_Mul.l2 k3 (ji24) x6_2 y138 (wrap64 (Int.tdiv (wrap64 ((rd x6_2 x11_3)+x10_3)) 10)) (wrap64 (x11_3+1)))=some r:=hr_ hy138 H
          have Ny138:=ak_ hy138;clear hy138;have H':=ak_ H;clear H;obtain⟨Ao36,co36,eo36⟩:=Kd.R_slice HO_6.out;subst eo36;have p137:0≤(x11_3:Int):=od_ as_f;have q137:x11_3<(x6_2.length:Int):=od_ as_f;obtain⟨ad137,e137,hx137_0⟩:=Kd.at_int (Kd.R_reads' HO_6.out).2.2 x11_3 p137 q137
          cases e137
          replace p137:=eq_true p137;replace q137:=eq_true q137;have p35:0≤((ji32):Int):=od_ as_f;have q35:((ji32):Int)<((x9_3.length:Int):Int):=od_ as_f;obtain⟨go35,co35,eo35,gb35,gl35,cl35,HG35⟩:=Kd.R_form HO_9.out (by omega);(first|cases eo35|(injection eo35 with ea_ en_ ec_;(first|subst ea_|(injection ea_ with ea_;subst ea_));subst ec_;clear en_));have GB35:=ak_ gb35;have GG35:=ak_ HG35;clear gb35 gl35 HG35;obtain⟨hx35_0,hf35_0⟩:=Kd.R_celln 0 HO_9.out ((ji32):Int) p35 q35;replace p35:=eq_true p35;replace q35:=eq_true q35;have HP37:=Kd.R_putg HO_9.out ((ji32):Int) ((wrap64 (48+(Int.tmod (wrap64 ((rd x6_2 x11_3)+x10_3)) 10))) % 256)
          go_wp2_with (((with_reducible refine gate_store (t:=5) (p:=78) rfl ?_);refine store_event (t:=5) (p:=78) (v:=?vo_w38) (w1:=(wr.setCell ⟨go35,((ji32):Int).toNat,none⟩ (.int .u8 ((wrap64 (48+(Int.tmod (wrap64 ((rd x6_2 x11_3)+x10_3)) 10))) % 256)))) ?hg ?ho ?hn ?hr ?_;(case ho=>rfl);(case hg=>rfl);(case hn=>rfl);(case hr=>first|(go_simp;done)|(go_simp;rfl));intro w38 hw;have hg:wr.grownBy w38 (some go35):=(by rw[hw];exact HP37.2);have hp_:Kd.R (Kd.int .u8) 5 w38 w.heap.size (fun _=>True) (.slice (some ⟨go35,0,none⟩) x9_3.length co35) y138:=(by rw[hw,Ny138.out];exact HP37.1);clear HP37;replace HO_6:=ak_ (Kd.R_over' (v:=(.slice (some ⟨go35,0,none⟩) x9_3.length co35)) (w_ HO_6.out) (Kd.R_typed HO_9.out) (by decide) hg);replace HO_9:=ak_ (hp_);replace HB:=ak_ ((by rw[hw];exact below_set (HB.out) GB35.out:Below w.heap.size w w38));clear hg hw hp_))
          go_roundg k3
          case measure=>have:=HJ2.out;have:=HK2.out;have:=HK3.out;omega
          case rel=>exact⟨(y138),(wrap64 (Int.tdiv (wrap64 ((rd x6_2 x11_3)+x10_3)) 10)),(wrap64 (x11_3+1)),rl_,rl_,H',⟨by have:=HJ2.out;have:=HK2.out;have:=HK3.out;omega⟩,⟨by(with_reducible repeat(first|apply Kd.R_alloc|apply Kd.R_drewN|apply Kd.R_drew));exact HO_6.out⟩,⟨by(with_reducible repeat(first|apply Kd.R_alloc|apply Kd.R_drewN|apply Kd.R_drew));exact HO_9.out⟩,⟨b_ HB.out⟩⟩
         ·have c29b0:=df_ c29;clear c29;replace H:=bi_ H;obtain⟨t139,A39,H⟩:=H;obtain rfl:=oi_ H;have hcv40:=own_string (P:=Tryz.prog) Tryz.underlying78 Tryz.underlying5 Tryz.underlying9 (Kd.own_of_R HO_9.out)
          go_wp2_with ((refine gm_ 83 Tryz.func116 (r1_trim.calls _ _ _ _ A39.out) ?_;rintro w' ⟨nd,rfl⟩))
          go_ret
          exact⟨by first|rfl|(simp[errW_none,errW_some] <;> rfl)|(simp only[← hji8,← hji24];first|rfl|(simp[errW_none,errW_some] <;> rfl))|(simp[*,errW_none,errW_some] <;> rfl),b_ HB.out⟩
mutual
def r1_Div.j0:Nat→ByteArray→ByteArray→Bool→Option (ByteArray×ByteArray×Bool)
 | 0,_,_,_=>none
 | k+1,x0,x1,x24=>if x24=true then (some ((⟨#[]⟩:ByteArray),(⟨#[]⟩:ByteArray),false)) else (r1_Div.l0 k x0 x1 (⟨#[]⟩:ByteArray) (⟨#[48]⟩:ByteArray) 0)
def r1_Div.l0:Nat→ByteArray→ByteArray→ByteArray→ByteArray→Int→Option (ByteArray×ByteArray×Bool)
 | 0,_,_,_,_,_=>none
 | k+1,x0,x1,x7,x8,x9=>if x9<(x0.size:Int) then (if 0≤x9 then (if x9≤(wrap64 (x9+1)) then (if (wrap64 (x9+1))≤(x0.size:Int) then (if x8.size+(x0.extract (x9:Int).toNat ((wrap64 (x9+1)):Int).toNat).size≤9223372036854775807 then ((r1_trim.f k (x8++(x0.extract (x9:Int).toNat ((wrap64 (x9+1)):Int).toNat))).bind fun t143=>(r1_Div.l1 k x0 x1 x7 t143 x9 0)) else (none)) else (none)) else (none)) else (none)) else ((r1_trim.f k x7).bind fun t142=>(some (t142,x8,true)))
def r1_Div.l1:Nat→ByteArray→ByteArray→ByteArray→ByteArray→Int→Int→Option (ByteArray×ByteArray×Bool)
 | 0,_,_,_,_,_,_=>none
 | k+1,x0,x1,x7,x8,x9,x10=>(r1_Cmp.f k x8 x1).bind fun t144=>(if t144≥0 then ((r1_Sub.f k x8 x1).bind fun bt145=>(r1_Div.l1 k x0 x1 x7 bt145.1 x9 (wrap64 (x10+1)))) else (if 0≤x10 then (if x10≤(wrap64 (x10+1)) then (if (wrap64 (x10+1))≤10 then (if x7.size+((⟨#[48,49,50,51,52,53,54,55,56,57]⟩:ByteArray).extract (x10:Int).toNat ((wrap64 (x10+1)):Int).toNat).size≤9223372036854775807 then (r1_Div.l0 k x0 x1 (x7++((⟨#[48,49,50,51,52,53,54,55,56,57]⟩:ByteArray).extract (x10:Int).toNat ((wrap64 (x10+1)):Int).toNat)) x8 (wrap64 (x9+1))) else (none)) else (none)) else (none)) else (none)))
end
def r1_Div.f (k:Nat) (a0 a1:ByteArray):Option (ByteArray×ByteArray×Bool):=(r1_May.f k a0).bind fun t140=>(if t140=true then ((r1_May.f k a1).bind fun t141=>(if t141=true then (r1_Div.j0 k a0 a1 (a1.toList == ([48]:List UInt8))) else (r1_Div.j0 k a0 a1 true))) else (r1_Div.j0 k a0 a1 true))
theorem r1_Div.calls (k:Nat) (a0 a1 r1 r2:ByteArray) (r3:Bool) (w:World) (h:r1_Div.f k a0 a1=some (r1,r2,r3)) :
  Calls Tryz.prog 112 #[.string a0,.string a1] w fun e w'=>e=.returned (.tuple #[.string r1,.string r2,.bool r3])∧Below w.heap.size w w':=by
 have HB:=ak_ (Below.refl w.heap.size w);have H:=h;unfold r1_Div.f at H;clear h;have HC3:=ak_ H;clear H;go_in
 go_upto_region 1 with (fail)
 go_cut [24] (fun v24 wc=>∃ (kq:Nat) (x24_2:Bool),v24=.bool x24_2∧Aside0 (r1_Div.j0 kq a0 a1 x24_2=some (r1,r2,r3))∧Aside0 (kq≤k)∧Aside0 (Below w.heap.size w wc))
 case first =>
  have H:=HC3.out;clear HC3;replace H:=bi_ H;obtain⟨t140,A4,H⟩:=H;replace H:=bt_ H;rcases H with ⟨rfl,H⟩|⟨rfl,H⟩
  ·replace H:=bi_ H;obtain⟨t141,A6,H⟩:=H;replace H:=bt_ H;rcases H with ⟨rfl,H⟩|⟨rfl,H⟩
   ·have H':=ak_ H;clear H
    go_wp2_with (first|(refine gm_ 14 Tryz.func44 (r1_May.calls _ _ _ _ A4.out) ?_;rintro w' ⟨nd,rfl⟩)|(go_at_call 44;(with_reducible refine(r1_May.calls _ _ _ _ A6.out).mono ?_);rintro e w' ⟨rfl,⟨nd,rfl⟩⟩))
    go_meet
    case rel=>exact⟨_,((a1.toList == ([48]:List UInt8))),rl_,H',⟨nk_⟩,⟨b_ HB.out⟩⟩
   ·have H':=ak_ H;clear H
    go_wp2_with (first|(refine gm_ 14 Tryz.func44 (r1_May.calls _ _ _ _ A4.out) ?_;rintro w' ⟨nd,rfl⟩)|(go_at_call 44;(with_reducible refine(r1_May.calls _ _ _ _ A6.out).mono ?_);rintro e w' ⟨rfl,⟨nd,rfl⟩⟩))
    go_meet
    case rel=>exact⟨_,(true),rl_,H',⟨nk_⟩,⟨b_ HB.out⟩⟩
  ·have H':=ak_ H;clear H
   go_wp2_with ((refine gm_ 14 Tryz.func44 (r1_May.calls _ _ _ _ A4.out) ?_;rintro w' ⟨nd,rfl⟩))
   go_meet
   case rel=>exact⟨_,(true),rl_,H',⟨nk_⟩,⟨b_ HB.out⟩⟩
 case rest =>
  clear HC3;obtain⟨kq,x24_2,rfl,HA,HJ2,HB⟩:=hcut
  cases kq with
  | zero=>exact absurd HA.out (by simp[r1_Div.j0])
  | succ kj2 =>
   have H:=HA.out;clear HA;simp only[r1_Div.j0] at H;replace H:=bt_ H;rcases H with ⟨rfl,H⟩|⟨rfl,H⟩
   ·replace H:=pi3_ H;obtain⟨rfl,rfl,rfl⟩:=H;go_wp2
    go_ret3
    exact⟨er_,b_ HB.out⟩
   ·have H':=ak_ H;clear H;go_wp2
    go_loopg [7,8,9] kj2 (fun kq v7 v8 v9 w'=>∃ (x7_2 x8_2:ByteArray) (x9_2:Int),v7=.string x7_2∧v8=.string x8_2∧v9=.int .i64 x9_2∧Aside0 (r1_Div.l0 kq a0 a1 x7_2 x8_2 x9_2=some (r1,r2,r3))∧Aside0 (kq≤kj2)∧Aside0 (Below w.heap.size w w'))
    case atStart=>exact⟨((⟨#[]⟩:ByteArray)),((⟨#[48]⟩:ByteArray)),(0),rl_,rl_,rl_,H',⟨nr_ _⟩,⟨b_ HB.out⟩⟩
    case round =>
     clear H';obtain⟨x7_2,x8_2,x9_2,rfl,rfl,rfl,HA,HK2,HB⟩:=hrel
     cases gk with
     | zero=>exact absurd HA.out (by simp[r1_Div.l0])
     | succ k2 =>
      have H:=HA.out;clear HA;simp only[r1_Div.l0] at H;replace H:=bw_ H;rcases H with ⟨c9,H⟩|⟨c9,H⟩
      ·have c9b0:=dt_ c9;clear c9;replace H:=bx_ H;obtain⟨c10,H⟩:=H;have c10b0:=eq_true c10;have c10b1:=dt_ c10;clear c10;replace H:=bx_ H;obtain⟨c11,H⟩:=H;have c11b0:=eq_true c11;have c11b1:=dt_ c11
       have c11b1w:decide (x9_2≤(IntKind.i64.wrap (x9_2+1)))=true:=by simp only[i64_w];exact c11b1
       replace H:=bx_ H;obtain⟨c12,H⟩:=H;have c12b0:=eq_true c12;have c12b1:=dt_ c12
       have c12b1w:decide ((IntKind.i64.wrap (x9_2+1))≤(a0.size:Int))=true:=by simp only[i64_w];exact c12b1
       replace H:=bx_ H;obtain⟨c13,H⟩:=H;have c13b0:=eq_true c13;have c13b1:=dt_ c13
       have c13b1w:decide (x8_2.size+(a0.extract (x9_2:Int).toNat ((IntKind.i64.wrap (x9_2+1)):Int).toNat).size≤9223372036854775807)=true:=by simp only[i64_w];exact c13b1
       try have c13b2:(9223372036854775807<x8_2.size+(a0.extract (x9_2:Int).toNat ((wrap64 (x9_2+1)):Int).toNat).size)=False:=eq_false (Nat.not_lt.2 c13)
       replace H:=bi_ H;obtain⟨t143,A14,H⟩:=H;have H':=ak_ H;clear H
       go_wp2_with ((refine gl_ 38 Tryz.func116 #[.string (x8_2++(a0.extract (x9_2:Int).toNat ((wrap64 (x9_2+1)):Int).toNat))] ?_;refine mo_ (r1_trim.calls k2 (x8_2++(a0.extract (x9_2:Int).toNat ((wrap64 (x9_2+1)):Int).toNat)) t143 _ A14.out) ?_;rintro w' ⟨nd,rfl⟩))
       go_loopg [8,10] k2 (fun kq v8 v10 w'=>∃ (x8_3:ByteArray) (x10_3:Int),v8=.string x8_3∧v10=.int .i64 x10_3∧Aside0 (r1_Div.l1 kq a0 a1 x7_2 x8_3 x9_2 x10_3=some (r1,r2,r3))∧Aside0 (kq≤k2)∧Aside0 (Below w.heap.size w w'))
       case atStart=>exact⟨(t143),(0),rl_,rl_,H',⟨nr_ _⟩,⟨b_ HB.out⟩⟩
       case round =>
        clear H';(try clear c9b0);(try clear c10b0);(try clear c10b1);(try clear c11);(try clear c11b0);(try clear c11b1);(try clear c12);(try clear c12b0);(try clear c12b1);(try clear c13);(try clear c13b0);(try clear c13b1);(try clear c13b2);obtain⟨x8_3,x10_3,rfl,rfl,HA,HK3,HB⟩:=hrel
        cases gk with
        | zero=>exact absurd HA.out (by simp[r1_Div.l1])
        | succ k3 =>
         have H:=HA.out;clear HA;simp only[r1_Div.l1] at H;replace H:=bi_ H;obtain⟨t144,A15,H⟩:=H;replace H:=bw_ H;rcases H with ⟨c16,H⟩|⟨c16,H⟩
         ·have c16b0:decide (0≤t144)=true:=decide_eq_true c16;clear c16;replace H:=bi_ H;obtain⟨⟨t145,t146⟩,A17,H⟩:=H;(try dsimp only at H);have H':=ak_ H;clear H
          go_wp2_with (first|(refine gm_ 41 Tryz.func45 (r1_Cmp.calls _ _ _ _ _ A15.out) ?_;rintro w' ⟨nd,rfl⟩)|(refine gm_ 46 Tryz.func117 (r1_Sub.calls _ _ _ _ _ _ A17.out) ?_;intro w18 hb;replace HB:=bs_ HB hb;(try clear hb)))
          go_roundg k3
          case measure=>have:=HJ2.out;have:=HK2.out;have:=HK3.out;omega
          case rel=>exact⟨(t145),(wrap64 (x10_3+1)),rl_,rl_,H',⟨by have:=HJ2.out;have:=HK2.out;have:=HK3.out;omega⟩,⟨b_ HB.out⟩⟩
         ·have c16b0:decide (0≤t144)=false:=decide_eq_false c16;clear c16;replace H:=bx_ H;obtain⟨c19,H⟩:=H;have c19b0:=eq_true c19;replace c19:=dt_ c19;replace H:=bx_ H;obtain⟨c20,H⟩:=H;have c20b0:=eq_true c20;have c20b1:=dt_ c20
          have c20b1w:decide (x10_3≤(IntKind.i64.wrap (x10_3+1)))=true:=by simp only[i64_w];exact c20b1
          replace H:=bx_ H;obtain⟨c21,H⟩:=H;have c21b0:=eq_true c21;have c21b1:=dt_ c21
          have c21b1w:decide ((IntKind.i64.wrap (x10_3+1))≤10)=true:=by simp only[i64_w];exact c21b1
          replace H:=bx_ H;obtain⟨c22,H⟩:=H;have c22b0:=eq_true c22;have c22b1:=dt_ c22
          have c22b1w:decide (x7_2.size+((⟨#[48,49,50,51,52,53,54,55,56,57]⟩:ByteArray).extract (x10_3:Int).toNat ((IntKind.i64.wrap (x10_3+1)):Int).toNat).size≤9223372036854775807)=true:=by simp only[i64_w];exact c22b1
          try have c22b2:(9223372036854775807<x7_2.size+((⟨#[48,49,50,51,52,53,54,55,56,57]⟩:ByteArray).extract (x10_3:Int).toNat ((wrap64 (x10_3+1)):Int).toNat).size)=False:=eq_false (Nat.not_lt.2 c22)
          have H':=ak_ H;clear H
          go_wp2_with ((refine gm_ 41 Tryz.func45 (r1_Cmp.calls _ _ _ _ _ A15.out) ?_;rintro w' ⟨nd,rfl⟩))
          go_roundg k3
          case measure=>have:=HJ2.out;have:=HK2.out;have:=HK3.out;omega
          case rel=>exact⟨(x7_2++((⟨#[48,49,50,51,52,53,54,55,56,57]⟩:ByteArray).extract (x10_3:Int).toNat ((wrap64 (x10_3+1)):Int).toNat)),(x8_3),(wrap64 (x9_2+1)),rl_,rl_,rl_,H',⟨by have:=HJ2.out;have:=HK2.out;have:=HK3.out;omega⟩,⟨b_ HB.out⟩⟩
      ·have c9b0:=df_ c9;clear c9;replace H:=bi_ H;obtain⟨t142,A23,H⟩:=H;replace H:=pi3_ H;obtain⟨rfl,rfl,rfl⟩:=H
       go_wp2_with ((refine gm_ 59 Tryz.func116 (r1_trim.calls _ _ _ _ A23.out) ?_;rintro w' ⟨nd,rfl⟩))
       go_ret3
       exact⟨er_,b_ HB.out⟩
mutual
def r1_Gcd.j0:Nat→ByteArray→ByteArray→Bool→Option (ByteArray)
 | 0,_,_,_=>none
 | k+1,x0,x1,x15=>if x15=true then (some (⟨#[]⟩:ByteArray)) else (r1_Gcd.l0 k x0 x1)
def r1_Gcd.l0:Nat→ByteArray→ByteArray→Option (ByteArray)
 | 0,_,_=>none
 | k+1,x0,x1=>if x1.toList=([48]:List UInt8) then (some x0) else ((r1_Div.f k x0 x1).bind fun bt149=>(r1_Gcd.l0 k x1 bt149.2.1))
end
def r1_Gcd.f (k:Nat) (a0 a1:ByteArray):Option (ByteArray):=(r1_May.f k a0).bind fun t147=>(if t147=true then ((r1_May.f k a1).bind fun t148=>(r1_Gcd.j0 k a0 a1 (!t148))) else (r1_Gcd.j0 k a0 a1 true))
theorem r1_Gcd.calls (k:Nat) (a0 a1 r:ByteArray) (w:World) (h:r1_Gcd.f k a0 a1=some r) :
  Calls Tryz.prog 74 #[.string a0,.string a1] w fun e w'=>e=.returned (.string r)∧Below w.heap.size w w':=by
 have HB:=ak_ (Below.refl w.heap.size w);have H:=h;unfold r1_Gcd.f at H;clear h;have HC3:=ak_ H;clear H;go_in
 go_upto_region 1 with (fail)
 go_cut [15] (fun v15 wc=>∃ (kq:Nat) (x15_2:Bool),v15=.bool x15_2∧Aside0 (r1_Gcd.j0 kq a0 a1 x15_2=some r)∧Aside0 (kq≤k)∧Aside0 (Below w.heap.size w wc))
 case first =>
  have H:=HC3.out;clear HC3;replace H:=bi_ H;obtain⟨t147,A4,H⟩:=H;replace H:=bt_ H;rcases H with ⟨rfl,H⟩|⟨rfl,H⟩
  ·replace H:=bi_ H;obtain⟨t148,A6,H⟩:=H;have H':=ak_ H;clear H
   go_wp2_with (first|(refine gm_ 9 Tryz.func44 (r1_May.calls _ _ _ _ A4.out) ?_;rintro w' ⟨nd,rfl⟩)|(go_at_call 44;(with_reducible refine(r1_May.calls _ _ _ _ A6.out).mono ?_);rintro e w' ⟨rfl,⟨nd,rfl⟩⟩))
   go_meet
   case rel=>exact⟨_,(!t148),rl_,H',⟨nk_⟩,⟨b_ HB.out⟩⟩
  ·have H':=ak_ H;clear H
   go_wp2_with ((refine gm_ 9 Tryz.func44 (r1_May.calls _ _ _ _ A4.out) ?_;rintro w' ⟨nd,rfl⟩))
   go_meet
   case rel=>exact⟨_,(true),rl_,H',⟨nk_⟩,⟨b_ HB.out⟩⟩
 case rest =>
  clear HC3;obtain⟨kq,x15_2,rfl,HA,HJ2,HB⟩:=hcut
  cases kq with
  | zero=>exact absurd HA.out (by simp[r1_Gcd.j0])
  | succ kj2 =>
   have H:=HA.out;clear HA;simp only[r1_Gcd.j0] at H;replace H:=bt_ H;rcases H with ⟨rfl,H⟩|⟨rfl,H⟩
   ·obtain rfl:=oi_ H;go_wp2
    go_ret
    exact⟨er_,b_ HB.out⟩
   ·have H':=ak_ H;clear H;go_wp2
    go_loopg [0,1] kj2 (fun kq v0 v1 w'=>∃ (x0_2 x1_2:ByteArray),v0=.string x0_2∧v1=.string x1_2∧Aside0 (r1_Gcd.l0 kq x0_2 x1_2=some r)∧Aside0 (kq≤kj2)∧Aside0 (Below w.heap.size w w'))
    case atStart=>exact⟨(a0),(a1),rl_,rl_,H',⟨nr_ _⟩,⟨b_ HB.out⟩⟩
    case round =>
     clear H';obtain⟨x0_2,x1_2,rfl,rfl,HA,HK2,HB⟩:=hrel
     cases gk with
     | zero=>exact absurd HA.out (by simp[r1_Gcd.l0])
     | succ k2 =>
      have H:=HA.out;clear HA;simp only[r1_Gcd.l0] at H;replace H:=bw_ H;rcases H with ⟨c8,H⟩|⟨c8,H⟩
      ·have c8b0:(x1_2.toList == ([48]:List UInt8))=true:=beq_iff_eq.mpr c8;have c8b1:(x1_2.toList != ([48]:List UInt8))=false:=bne_eq_false_iff_eq.mpr c8;clear c8;obtain rfl:=oi_ H;go_wp2
       go_ret
       exact⟨er_,b_ HB.out⟩
      ·have c8b0:(x1_2.toList == ([48]:List UInt8))=false:=beq_eq_false_iff_ne.mpr c8;have c8b1:(x1_2.toList != ([48]:List UInt8))=true:=bne_iff_ne.mpr c8;replace H:=bi_ H;obtain⟨⟨t149,t150,t151⟩,A9,H⟩:=H;(try dsimp only at H);have H':=ak_ H;clear H
       go_wp2_with ((refine gm_ 21 Tryz.func112 (r1_Div.calls _ _ _ _ _ _ _ A9.out) ?_;intro w10 hb;replace HB:=bs_ HB hb;(try clear hb)))
       go_roundg k2
       case measure=>have:=HJ2.out;have:=HK2.out;omega
       case rel=>exact⟨(x1_2),(t150),rl_,rl_,H',⟨by have:=HJ2.out;have:=HK2.out;omega⟩,⟨b_ HB.out⟩⟩
end Pq
theorem rmay_end (s:ByteArray):(if (s.size:Int)>0 then (if s.toList=([48]:List UInt8) then (some true) else (if 0<(s.size:Int) then (some ((bt s 0) != 48)) else (none))) else (some false))=some (mayEnd s.data.toList):=by
 rw[ByteArray.toList_eq]
 unfold mayEnd
 by_cases h:(s.size:Int)>0
 ·have hne:s.data.toList≠[]:=by
   intro e
   have:=congrArg List.length e
   rw[← size_len,List.length_nil] at this
   omega
  rw[if_pos h,decide_eq_true hne]
  by_cases h1:s.data.toList=[48]
  ·rw[if_pos h1,decide_eq_true h1];rfl
  ·rw[if_neg h1,if_pos h,decide_eq_false h1]
   obtain⟨c,hc,hb⟩:=bt_get s 0 (by omega)
   have hb':bt s 0=(c.toNat:Int):=hb
   have hhead:s.data.toList.head?=some c:=by rw[← hc,List.head?_eq_getElem?]
   rw[hb',hhead]
   by_cases h2:c=48
   ·subst h2;rfl
   ·have h3:(c.toNat:Int)≠48:=by
     intro e
     exact h2 (UInt8.toNat_inj.1 (by rw[show (48:UInt8).toNat=48 from rfl];omega))
    have h4:(some c≠some (48:UInt8)):=by intro e;exact h2 (Option.some.inj e)
    rw[decide_eq_true h4,bne_iff_ne.2 h3]
    rfl
 ·have hne:s.data.toList=[]:=by
   apply List.length_eq_zero_iff.1
   rw[← size_len];omega
  rw[if_neg h,hne]
  rfl
theorem rmay_loop (s:ByteArray) (hs:s.size≤4611686018427387904):∀ (d i:Nat),i+d=s.size→∀ k,d+1≤k→Pq.r1_May.l0 k s (i:Int)=some ((s.data.toList.drop i).all isDig&&mayEnd s.data.toList)
 | 0,i,hi,k,hk=>by
  obtain⟨k,rfl⟩:∃ m,k=m+1:=⟨k-1,by omega⟩
  simp only[Pq.r1_May.l0]
  rw[if_neg (by omega),rmay_end,List.drop_of_length_le (by rw[← size_len];omega)]
  rfl
 | d+1,i,hi,k,hk=>by
  obtain⟨k,rfl⟩:∃ m,k=m+1:=⟨k-1,by omega⟩
  simp only[Pq.r1_May.l0]
  have g1:(i:Int)<(s.size:Int):=by omega
  rw[if_pos g1,if_pos (by omega)]
  obtain⟨c,hc,hb⟩:=bt_get s i (by omega)
  have hil:i<s.data.toList.length:=by rw[← size_len];omega
  have hcc:s.data.toList[i]=c:=by
   rw[List.getElem?_eq_getElem hil] at hc
   exact Option.some.inj hc
  rw[hb,List.drop_eq_getElem_cons hil,hcc,List.all_cons,w64 (by omega) (by omega)]
  by_cases h1:(c.toNat:Int)<48
  ·rw[if_pos h1]
   have:isDig c=false:=by simp[isDig];omega
   rw[this];rfl
  ·rw[if_neg h1]
   by_cases h2:(c.toNat:Int)>57
   ·rw[if_pos h2]
    have:isDig c=false:=by simp[isDig];omega
    rw[this];rfl
   ·rw[if_neg h2]
    have:isDig c=true:=by simp[isDig];omega
    rw[this,Bool.true_and]
    have:=rmay_loop s hs d (i+1) (by omega) k (by omega)
    rw[show ((i:Int)+1)=((i+1:Nat):Int) by omega]
    exact this
theorem rmay_f (s:ByteArray) (hs:s.size≤4611686018427387904) (k:Nat) (hk:s.size+1≤k):Pq.r1_May.f k s=some (mayB s):=by
 unfold Pq.r1_May.f mayB
 rw[mayL_split]
 have:=rmay_loop s hs s.size 0 (by omega) k (by omega)
 rw[List.drop_zero] at this
 exact this
theorem and2 {a b:ByteArray} (h:sm2 a b=true):sm a=true∧sm b=true:=by
 unfold sm2 at h
 rwa [Bool.and_eq_true] at h
def nat_Add.f (a0 a1:ByteArray):Option ByteArray:=if sm2 a0 a1=true then some (addS a0 a1) else none
theorem nat_Add.calls (a0 a1 r:ByteArray) (w:World) (hL_:Laid w) (h:nat_Add.f a0 a1=some r) :
  Calls Tryz.prog 176 #[.string a0,.string a1] w fun e w'=>e=.returned (.string r)∧Below w.heap.size w w':=by
 unfold nat_Add.f at h
 split at h
 ·rename_i hp
  rw[← add_f (and2 hp).1 (and2 hp).2 0] at h
  exact Pr.nat_Add.calls _ a0 a1 r w hL_ h
 ·cases h
def nat_Sub.f (a0 a1:ByteArray):Option (ByteArray×Bool):=if sm2 a0 a1=true then some (subS a0 a1) else none
theorem nat_Sub.calls (a0 a1 r1:ByteArray) (r2:Bool) (w:World) (hL_:Laid w) (h:nat_Sub.f a0 a1=some (r1,r2)) :
  Calls Tryz.prog 177 #[.string a0,.string a1] w fun e w'=>e=.returned (.tuple #[.string r1,.bool r2])∧Below w.heap.size w w':=by
 unfold nat_Sub.f at h
 split at h
 ·rename_i hp
  rw[← sub_f (and2 hp).1 (and2 hp).2 0] at h
  exact Pr.nat_Sub.calls _ a0 a1 r1 r2 w hL_ h
 ·cases h
def nat_Mul.f (a0 a1:ByteArray):Option ByteArray:=if sm2 a0 a1=true then some (mulS a0 a1) else none
theorem nat_Mul.calls (a0 a1 r:ByteArray) (w:World) (hL_:Laid w) (h:nat_Mul.f a0 a1=some r) :
  Calls Tryz.prog 61 #[.string a0,.string a1] w fun e w'=>e=.returned (.string r)∧Below w.heap.size w w':=by
 unfold nat_Mul.f at h
 split at h
 ·rename_i hp
  rw[← mul_f (and2 hp).1 (and2 hp).2 0] at h
  exact Pr.nat_Mul.calls _ a0 a1 r w hL_ h
 ·cases h
def nat_Div.f (a0 a1:ByteArray):Option (ByteArray×ByteArray×Bool):=if sm2 a0 a1=true then some (divS a0 a1) else none
theorem nat_Div.calls (a0 a1 r1 r2:ByteArray) (r3:Bool) (w:World) (hL_:Laid w) (h:nat_Div.f a0 a1=some (r1,r2,r3)) :
  Calls Tryz.prog 59 #[.string a0,.string a1] w fun e w'=>e=.returned (.tuple #[.string r1,.string r2,.bool r3])∧Below w.heap.size w w':=by
 unfold nat_Div.f at h
 split at h
 ·rename_i hp
  rw[← div_f (and2 hp).1 (and2 hp).2 0] at h
  exact Pr.nat_Div.calls _ a0 a1 r1 r2 r3 w hL_ h
 ·cases h
theorem drawn_below {w w':World} (h:Drawn0 w w'):Below w.heap.size w w':=by
 obtain⟨n,rfl⟩:=h
 exact pw_below_drewN (Below.refl _ _) n
def r1_May.f (a0:ByteArray):Option Bool:=if sm a0=true then some (mayB a0) else none
theorem r1_May.calls (a0:ByteArray) (r:Bool) (w:World) (h:r1_May.f a0=some r) :
  Calls Tryz.prog 44 #[.string a0] w fun e w'=>e=.returned (.bool r)∧Below w.heap.size w w':=by
 unfold r1_May.f at h
 split at h
 ·rename_i hp
  have hs:=sm_le hp
  rw[← rmay_f a0 (by omega) _ (nr_ _)] at h
  exact(Pq.r1_May.calls _ a0 r w h).mono fun e w' ⟨he,hw⟩=>⟨he,drawn_below hw⟩
 ·cases h
def sz (n:Nat):Nat:=(natB n).size
theorem sz_dig (n:Nat):sz n=(Lib.decDigits n).length:=natB_size n
theorem sz_pos (n:Nat):1≤sz n:=may_pos (mayB_natB n)
theorem lt_sz (n:Nat):n<10 ^ sz n:=by
 have h:=num_lt (dig_all n)
 rw[num_dig,← sz_dig] at h
 exact h
theorem sz_le {n k:Nat} (h:n<10 ^ k) (hk:1≤k):sz n≤k:=by
 rw[sz_dig]
 exact dig_len_le h hk
theorem sz_mono {m n:Nat} (h:m≤n):sz m≤sz n:=sz_le (Nat.lt_of_le_of_lt h (lt_sz n)) (sz_pos n)
theorem ten_mono {a b:Nat} (h:a≤b):(10:Nat) ^ a≤10 ^ b:=Nat.pow_le_pow_right (by omega) h
theorem sz_add (m n:Nat):sz (m+n)≤sz m+sz n:=by
 have h1:=lt_sz m
 have h2:=lt_sz n
 have h3:=sz_pos m
 have h4:=sz_pos n
 apply sz_le _ (by omega)
 have h5:=ten_mono (a:=sz m) (b:=sz m+sz n-1) (by omega)
 have h6:=ten_mono (a:=sz n) (b:=sz m+sz n-1) (by omega)
 obtain⟨k,hk⟩:∃ k,sz m+sz n=k+1:=⟨sz m+sz n-1,by omega⟩
 rw[hk,Nat.add_sub_cancel] at h5 h6
 rw[hk,Nat.pow_succ]
 omega
theorem sz_mul (m n:Nat):sz (m * n)≤sz m+sz n:=by
 have h1:=lt_sz m
 have h2:=lt_sz n
 apply sz_le _ (by have:=sz_pos m;omega)
 rw[Nat.pow_add]
 exact Nat.mul_lt_mul'' h1 h2
theorem sm_natB {n:Nat} (h:sz n≤50000):sm (natB n)=true:=decide_eq_true h
theorem sm2_natB {m n:Nat} (hm:sz m≤50000) (hn:sz n≤50000):sm2 (natB m) (natB n)=true:=by unfold sm2;rw[sm_natB hm,sm_natB hn];rfl
theorem may2_natB (m n:Nat):may2 (natB m) (natB n)=true:=may2_eq (mayB_natB m) (mayB_natB n)
theorem of_may {a:ByteArray} (h:mayB a=true):∃ n,a=natB n∧sz n=a.size:=⟨numB a,(natB_numB h).symm,by unfold sz;rw[natB_numB h]⟩
theorem natB_inj {m n:Nat}:natB m=natB n↔m=n:=⟨fun h=>by rw[← numB_natB m,h,numB_natB],fun h=>by rw[h]⟩
theorem toList_inj {a b:ByteArray}:a.toList=b.toList↔a=b:=by
 rw[ByteArray.toList_eq,ByteArray.toList_eq]
 exact⟨bext,fun h=>by rw[h]⟩
theorem natB_toList_inj {m n:Nat}:(natB m).toList=(natB n).toList↔m=n:=by rw[toList_inj,natB_inj]
theorem natB_toList_zero {m:Nat}:(natB m).toList=[48]↔m=0:=by
 rw[ByteArray.toList_eq]
 have:=list48 (mayB_natB m)
 rw[numB_natB] at this
 exact this
theorem natB_beq_zero (m:Nat):((natB m).toList == ([48]:List UInt8))=decide (m=0):=by
 rw[Bool.eq_iff_iff,beq_iff_eq,natB_toList_zero,decide_eq_true_eq]
theorem natB_one:natB 1=⟨#[49]⟩:=bext (by rw[natB_list,dig_small (by omega)];rfl)
theorem natB_zero:natB 0=⟨#[48]⟩:=bext (by rw[natB_list,dig_small (by omega)];rfl)
theorem natB_toList_one {m:Nat}:(natB m).toList=[49]↔m=1:=by
 have h:(natB 1).toList=[49]:=by rw[ByteArray.toList_eq,natB_list,dig_small (by omega)];rfl
 rw[← h]
 exact natB_toList_inj
theorem fMay {a:ByteArray} (h:a.size≤50000):nat_May.f a=some (mayB a):=may_f (decide_eq_true h)
theorem rMay {a:ByteArray} (h:a.size≤50000):r1_May.f a=some (mayB a):=by
 unfold r1_May.f
 rw[if_pos (show sm a=true from decide_eq_true h)]
theorem fAdd {m n:Nat} (hm:sz m≤50000) (hn:sz n≤50000):nat_Add.f (natB m) (natB n)=some (natB (m+n)):=by
 unfold nat_Add.f addS
 rw[if_pos (sm2_natB hm hn),if_pos (may2_natB m n),numB_natB,numB_natB]
theorem fMul {m n:Nat} (hm:sz m≤50000) (hn:sz n≤50000):nat_Mul.f (natB m) (natB n)=some (natB (m * n)):=by
 unfold nat_Mul.f mulS
 rw[if_pos (sm2_natB hm hn),if_pos (may2_natB m n),numB_natB,numB_natB]
theorem fSub {m n:Nat} (hm:sz m≤50000) (hn:sz n≤50000):nat_Sub.f (natB m) (natB n)=some (if n≤m then (natB (m-n),true) else (noB,false)):=by
 unfold nat_Sub.f subS
 rw[if_pos (sm2_natB hm hn),may2_natB,numB_natB,numB_natB,Bool.true_and]
 by_cases h:n≤m
 ·rw[if_pos (decide_eq_true h),if_pos h]
 ·rw[if_neg (by rw[decide_eq_true_eq];exact h),if_neg h]
theorem fDiv {m n:Nat} (hm:sz m≤50000) (hn:sz n≤50000) (h:n≠0):nat_Div.f (natB m) (natB n)=some (natB (m / n),natB (m % n),true):=by
 unfold nat_Div.f divS
 rw[if_pos (sm2_natB hm hn),may2_natB,numB_natB,numB_natB,Bool.true_and,if_pos (decide_eq_true h)]
def intB (z:Int):ByteArray:=if z<0 then ⟨#[45]⟩++natB z.natAbs else natB z.natAbs
def cutL (l:List UInt8):List UInt8×Bool:=match l with
 | 45 :: r=>(r,true)
 | l=>(l,false)
def amtB (s:ByteArray):ByteArray:=⟨(cutL s.data.toList).1.toArray⟩
def minusB (s:ByteArray):Bool:=(cutL s.data.toList).2
def mayW (s:ByteArray):Bool:=mayB (amtB s)&&(!minusB s || decide (numB (amtB s)≠0))
def numW (s:ByteArray):Int:=if minusB s=true then -(numB (amtB s):Int) else (numB (amtB s):Int)
theorem amtB_list (s:ByteArray):(amtB s).data.toList=(cutL s.data.toList).1:=rfl
theorem head_dig {l:List UInt8} (h:l.all isDig=true):cutL l=(l,false):=by
 unfold cutL
 split
 ·rename_i r
  simp only[List.all_cons,Bool.and_eq_true] at h
  exact absurd h.1 (by decide)
 ·rfl
theorem amtB_nat (n:Nat):amtB (natB n)=natB n:=by
 apply bext
 rw[amtB_list,natB_list,head_dig (dig_all n)]
theorem minusB_nat (n:Nat):minusB (natB n)=false:=by
 unfold minusB
 rw[natB_list,head_dig (dig_all n)]
theorem neg_list (n:Nat):((⟨#[45]⟩:ByteArray)++natB n).data.toList=45 :: Lib.decDigits n:=by
 rw[Joins.data_append,natB_list]
 rfl
theorem amtB_neg (n:Nat):amtB (⟨#[45]⟩++natB n)=natB n:=by
 apply bext
 rw[amtB_list,neg_list,natB_list]
 rfl
theorem minusB_neg (n:Nat):minusB (⟨#[45]⟩++natB n)=true:=by
 unfold minusB
 rw[neg_list]
 rfl
theorem amtB_int (z:Int):amtB (intB z)=natB z.natAbs:=by
 unfold intB
 split
 ·exact amtB_neg _
 ·exact amtB_nat _
theorem minusB_int (z:Int):minusB (intB z)=decide (z<0):=by
 unfold intB
 split
 ·rename_i h
  rw[minusB_neg,decide_eq_true h]
 ·rename_i h
  rw[minusB_nat,decide_eq_false h]
theorem mayW_int (z:Int):mayW (intB z)=true:=by
 unfold mayW
 rw[amtB_int,minusB_int,mayB_natB,numB_natB,Bool.true_and]
 by_cases h:z<0
 ·rw[decide_eq_true h,decide_eq_true (by omega:z.natAbs≠0)]
  rfl
 ·rw[decide_eq_false h]
  rfl
theorem numW_int (z:Int):numW (intB z)=z:=by
 unfold numW
 rw[amtB_int,minusB_int,numB_natB]
 by_cases h:z<0
 ·rw[if_pos (decide_eq_true h)]
  omega
 ·rw[if_neg (by rw[decide_eq_true_eq];exact h)]
  omega
theorem cut_back (l:List UInt8):l=if (cutL l).2=true then 45 :: (cutL l).1 else (cutL l).1:=by
 unfold cutL
 split <;> rfl
theorem intB_num {s:ByteArray} (h:mayW s=true):intB (numW s)=s:=by
 unfold mayW at h
 rw[Bool.and_eq_true] at h
 have hc:=cut_back s.data.toList
 have hb:=natB_numB h.1
 apply bext
 unfold intB numW
 cases hm:minusB s with
 | true =>
  have h2:=h.2
  rw[hm] at h2
  simp only[Bool.not_true,Bool.false_or,decide_eq_true_eq] at h2
  rw[if_pos rfl,if_pos (by omega),Int.natAbs_neg,Int.natAbs_natCast,hb,Joins.data_append,amtB_list]
  unfold minusB at hm
  rw[if_pos hm] at hc
  rw[hc]
  rfl
 | false =>
  simp only[Bool.false_eq_true,if_false]
  rw[if_neg (by omega),Int.natAbs_natCast,hb,amtB_list]
  unfold minusB at hm
  rw[hm,if_neg (by decide)] at hc
  exact hc.symm
theorem of_mayW {a:ByteArray} (h:mayW a=true):∃ z,a=intB z:=⟨numW a,(intB_num h).symm⟩
theorem intB_inj {x y:Int}:intB x=intB y↔x=y:=⟨fun h=>by rw[← numW_int x,h,numW_int],fun h=>by rw[h]⟩
theorem intB_toList_inj {x y:Int}:(intB x).toList=(intB y).toList↔x=y:=by rw[toList_inj,intB_inj]
theorem intB_nat (n:Nat):intB (n:Int)=natB n:=by
 unfold intB
 rw[if_neg (by omega),Int.natAbs_natCast]
theorem intB_nonneg {z:Int} (h:0≤z):intB z=natB z.toNat:=by
 unfold intB
 rw[if_neg (by omega)]
 congr 1
 omega
def szI (z:Int):Nat:=(intB z).size
theorem szI_le (z:Int):szI z≤sz z.natAbs+1:=by
 unfold szI intB
 split
 ·rw[ByteArray.size_append]
  show 1+sz _≤_
  omega
 ·show sz _≤_
  omega
theorem le_szI (z:Int):sz z.natAbs≤szI z:=by
 unfold szI intB
 split
 ·rw[ByteArray.size_append]
  show sz _≤1+sz _
  omega
 ·exact nr_ _
def may2W (a b:ByteArray):Bool:=mayW a&&mayW b
def wmulS (a b:ByteArray):ByteArray:=if may2W a b=true then intB (numW a * numW b) else noB
def wdivS (a b:ByteArray):ByteArray×ByteArray×Bool:=if (may2W a b&&decide (numW b≠0))=true then (intB (numW a / numW b),intB (numW a % numW b),true) else (noB,noB,false)
def wsignS (a:ByteArray):Int:=if mayW a=true then Lib.compareInt (numW a) 0 else 0
def wabsS (a:ByteArray):ByteArray:=if mayW a=true then natB (numW a).natAbs else noB
def wnegS (a:ByteArray):ByteArray:=if mayW a=true then intB (-numW a) else noB
def withS (minus:Bool) (n:Nat):Int:=if minus=true then -(n:Int) else n
theorem withS_text (minus:Bool) (n:Nat):(if minus=true then (if n=0 then natB n else (⟨#[45]⟩:ByteArray)++natB n) else natB n)=intB (withS minus n):=by
 cases minus with
 | true =>
  unfold withS intB
  simp only[if_true]
  by_cases h:n=0
  ·subst h
   rw[if_pos rfl,if_neg (by omega)]
   rfl
  ·rw[if_neg h,if_pos (by omega),Int.natAbs_neg,Int.natAbs_natCast]
 | false =>
  unfold withS
  simp only[Bool.false_eq_true,if_false]
  exact(intB_nat n).symm
theorem ediv_pos {x:Int} {b q r:Int} (hb:0<b) (h1:r+b * q=x) (h2:0≤r) (h3:r<b):x / b=q∧x % b=r:=(Int.ediv_emod_unique hb).2 ⟨h1,h2,h3⟩
theorem divW {m n:Nat} (hn:n≠0) (a b:Bool) (ha:a=true→m≠0) :
  (withS a m / withS b n=if a=true∧m % n≠0 then withS (a != b) (m / n+1) else withS (a != b) (m / n)) ∧
  (withS a m % withS b n=if a=true∧m % n≠0 then ((n-m % n:Nat):Int) else ((m % n:Nat):Int)):=by
 have hdm:=Nat.div_add_mod m n
 have hlt:=Nat.mod_lt m (show 0<n by omega)
 have hc:(n:Int) * ((m / n:Nat):Int)+((m % n:Nat):Int)=(m:Int):=by
  rw[← Int.natCast_mul,← Int.natCast_add,hdm]
 generalize m / n=q at *
 generalize m % n=r at *
 have hbase:(withS a m / (n:Int)=if a=true∧r≠0 then -((q+1:Nat):Int) else withS a q)∧(withS a m % (n:Int)=if a=true∧r≠0 then ((n-r:Nat):Int) else (r:Int)):=by
  cases a with
  | false =>
   simp only[Bool.false_eq_true,false_and,if_false,withS]
   exact ediv_pos (by omega) (by omega) (by omega) (by omega)
  | true =>
   by_cases hr:r=0
   ·subst hr
    simp only[ne_eq,not_true_eq_false,and_false,if_false,withS,if_true]
    exact ediv_pos (by omega) (by rw[Int.mul_neg];omega) (by omega) (by omega)
   ·rw[if_pos ⟨rfl,hr⟩,if_pos ⟨rfl,hr⟩]
    simp only[withS,if_true]
    refine ediv_pos (by omega) ?_ (by omega) (by omega)
    rw[Int.mul_neg,Int.natCast_add,Int.mul_add]
    omega
 cases b with
 | false =>
  have e:withS false n=(n:Int):=rfl
  rw[e,hbase.1,hbase.2]
  refine⟨?_,rfl⟩
  cases a with
  | false=>rfl
  | true=>rfl
 | true =>
  have e:withS true n=-(n:Int):=rfl
  rw[e,Int.ediv_neg,Int.emod_neg,hbase.1,hbase.2]
  refine⟨?_,rfl⟩
  cases a with
  | false =>
   simp only[Bool.false_eq_true,false_and,if_false,withS]
   rfl
  | true =>
   by_cases hr:r=0
   ·subst hr
    simp only[ne_eq,not_true_eq_false,and_false,if_false,withS,if_true,Int.neg_neg]
    rfl
   ·rw[if_pos ⟨rfl,hr⟩,if_pos ⟨rfl,hr⟩,Int.neg_neg]
    rfl
def rT (q:Rat):ByteArray×ByteArray:=(intB q.num,natB q.den)
def mayR (x:ByteArray×ByteArray):Bool:=mayW x.1&&mayB x.2&&decide (numB x.2≠0)&&(Nat.gcd (numW x.1).natAbs (numB x.2) == 1)
def ratR (x:ByteArray×ByteArray):Rat:=mkRat (numW x.1) (numB x.2)
theorem ratR_rT (q:Rat):ratR (rT q)=q:=by
 unfold ratR rT
 rw[numW_int,numB_natB,Rat.mkRat_self]
theorem mayR_rT (q:Rat):mayR (rT q)=true:=by
 unfold mayR rT
 have h:Nat.gcd q.num.natAbs q.den=1:=q.reduced
 rw[mayW_int,mayB_natB,numW_int,numB_natB,h,decide_eq_true q.den_nz]
 rfl
theorem rT_ratR {x:ByteArray×ByteArray} (h:mayR x=true):rT (ratR x)=x:=by
 unfold mayR at h
 simp only[Bool.and_eq_true,decide_eq_true_eq,beq_iff_eq] at h
 obtain⟨⟨⟨h1,h2⟩,h3⟩,h4⟩:=h
 have h4':Nat.gcd (numB x.2) (numW x.1).natAbs=1:=by rw[Nat.gcd_comm];exact h4
 unfold rT ratR
 rw[Rat.num_mkRat,Rat.den_mkRat,if_neg h3,if_neg h3,h4',Nat.div_one,natB_numB h2]
 have e:numW x.1 / ((1:Nat):Int)=numW x.1:=Int.ediv_one _
 rw[e,intB_num h1]
theorem of_mayR {x:ByteArray×ByteArray} (h:mayR x=true):∃ q,x=rT q:=⟨ratR x,(rT_ratR h).symm⟩
theorem red_num {x y:Int} (hy:y≠0):(if y<0 then -x else x) / ((Nat.gcd x.natAbs y.natAbs:Nat):Int)=(Rat.divInt x y).num:=by
 rw[Rat.num_divInt]
 have e1:Int.gcd y x=Nat.gcd x.natAbs y.natAbs:=Nat.gcd_comm _ _
 rw[e1]
 congr 1
 by_cases h:y<0
 ·rw[if_pos h,Int.sign_eq_neg_one_of_neg h]
  omega
 ·rw[if_neg h,Int.sign_eq_one_of_pos (by omega)]
  omega
theorem red_den {x y:Int} (hy:y≠0):(y.natAbs:Int) / ((Nat.gcd x.natAbs y.natAbs:Nat):Int)=((Rat.divInt x y).den:Int):=by
 rw[Rat.den_divInt,if_neg hy]
 have e1:Int.gcd y x=Nat.gcd x.natAbs y.natAbs:=Nat.gcd_comm _ _
 rw[e1,Int.natCast_ediv]
def cmpQ (x y:Rat):Int:=if x<y then -1 else if y<x then 1 else 0
theorem cmpQ_int (x y:Rat):Lib.compareInt (x.num * (y.den:Int)) (y.num * (x.den:Int))=cmpQ x y:=by
 unfold Lib.compareInt cmpQ
 by_cases h1:x<y
 ·rw[if_pos h1,if_pos ((Rat.lt_iff x y).1 h1)]
 ·rw[if_neg h1,if_neg (fun h=>h1 ((Rat.lt_iff x y).2 h))]
  by_cases h2:y<x
  ·rw[if_pos h2,if_pos ((Rat.lt_iff y x).1 h2)]
  ·rw[if_neg h2,if_neg (fun h=>h2 ((Rat.lt_iff y x).2 h))]
def signQ (x:Rat):Int:=Lib.compareInt x.num 0
theorem signQ_cmp (x:Rat):signQ x=cmpQ x 0:=by
 have h:=cmpQ_int x 0
 have e1:(0:Rat).den=1:=rfl
 have e2:(0:Rat).num=0:=rfl
 rw[e1,e2,Int.zero_mul] at h
 rw[← h]
 unfold signQ
 congr 1
 exact(Int.mul_one _).symm
theorem mul_parts (x y:Rat):Rat.divInt (x.num * y.num) ((x.den:Int) * (y.den:Int))=x * y:=by
 rw[Rat.mul_def',← Int.natCast_mul,Rat.divInt_ofNat]
def tms (b n:Nat):Nat×Nat:=if h:2≤b∧0<n∧n % b=0 then ((tms b (n / b)).1+1,(tms b (n / b)).2) else (0,n)
 termination_by n
 decreasing_by all_goals exact Nat.div_lt_self h.2.1 h.1
theorem tms_step {b n:Nat} (hb:2≤b) (hn:0<n) (h:n % b=0):tms b n=((tms b (n / b)).1+1,(tms b (n / b)).2):=by
 rw[tms,dif_pos ⟨hb,hn,h⟩]
theorem tms_stop {b n:Nat} (h:n % b≠0):tms b n=(0,n):=by
 rw[tms,dif_neg (fun z=>h z.2.2)]
theorem tms_spec {b:Nat} (hb:2≤b):∀ n:Nat,0<n→b ^ (tms b n).1 * (tms b n).2=n∧(tms b n).2 % b≠0
 | n,hn=>by
  by_cases h:n % b=0
  ·have hd:b ∣ n:=Nat.dvd_of_mod_eq_zero h
   have h1:0<n / b:=Nat.div_pos (Nat.le_of_dvd hn hd) (by omega)
   have ih:=tms_spec hb (n / b) h1
   rw[tms_step hb hn h]
   refine⟨?_,ih.2⟩
   show b ^ ((tms b (n / b)).1+1) * (tms b (n / b)).2=n
   rw[Nat.pow_succ,Nat.mul_comm (b ^ _) b,Nat.mul_assoc,ih.1,Nat.mul_div_cancel' hd]
  ·rw[tms_stop h]
   exact⟨by simp,h⟩
 termination_by n=>n
 decreasing_by exact Nat.div_lt_self hn hb
def finD (n:Nat):Bool:=(tms 5 (tms 2 n).2).2 == 1
def plD (n:Nat):Nat:=max (tms 2 n).1 (tms 5 (tms 2 n).2).1
theorem co_p {p n:Nat} (hp:p=2∨p=5) (h:n % p≠0):Nat.Coprime n p:=by
 unfold Nat.Coprime
 have h1:=Nat.gcd_dvd_right n p
 have h2:=Nat.gcd_dvd_left n p
 have h3:Nat.gcd n p≤p:=Nat.le_of_dvd (by omega) h1
 rcases hp with rfl|rfl
 ·have h4:Nat.gcd n 2=0∨Nat.gcd n 2=1∨Nat.gcd n 2=2:=by omega
  rcases h4 with e|e|e <;> rw[e] at h1 h2 ⊢ <;> first|omega|(exact absurd h1 (by decide))
 ·have h4:Nat.gcd n 5=0∨Nat.gcd n 5=1∨Nat.gcd n 5=2∨Nat.gcd n 5=3∨Nat.gcd n 5=4∨Nat.gcd n 5=5:=by omega
  rcases h4 with e|e|e|e|e|e <;> rw[e] at h1 h2 ⊢ <;> first|omega|(exact absurd h1 (by decide))
theorem parts {n:Nat} (hn:0<n):∃ a c r,(tms 2 n).1=a∧(tms 5 (tms 2 n).2).1=c∧(tms 5 (tms 2 n).2).2=r∧2 ^ a * (5 ^ c * r)=n∧(5 ^ c * r) % 2≠0∧r % 2≠0∧r % 5≠0:=by
 obtain⟨h1,h2⟩:=tms_spec (b:=2) (by decide) n hn
 have hp:0<(tms 2 n).2:=by
  rcases Nat.eq_zero_or_pos (tms 2 n).2 with e|e
  ·rw[e] at h2;exact absurd rfl h2
  ·exact e
 obtain⟨h3,h4⟩:=tms_spec (b:=5) (by decide) _ hp
 refine⟨_,_,_,rfl,rfl,rfl,?_,?_,?_,h4⟩
 ·rw[h3,h1]
 ·rw[h3];exact h2
 ·intro e
  apply h2
  rw[← h3,Nat.mul_mod,e,Nat.mul_zero,Nat.zero_mod]
theorem ten_pow (k:Nat):(10:Nat) ^ k=2 ^ k * 5 ^ k:=by rw[← Nat.mul_pow]
theorem dvd_ten {n:Nat} (hn:0<n) (k:Nat):n ∣ 10 ^ k↔finD n=true∧plD n≤k:=by
 obtain⟨a,c,r,ha,hc,hr,h1,h2,h3,h4⟩:=parts hn
 unfold finD plD
 rw[hr,hc,ha,beq_iff_eq,Nat.max_le]
 have c2:Nat.Coprime r 2:=co_p (.inl rfl) h3
 have c5:Nat.Coprime r 5:=co_p (.inr rfl) h4
 constructor
 ·intro h
  have hr10:r ∣ 2 ^ k * 5 ^ k:=by
   rw[← ten_pow]
   refine Nat.dvd_trans ⟨2 ^ a * 5 ^ c,?_⟩ h
   rw[← h1,Nat.mul_comm r,Nat.mul_assoc]
  have r1:r=1:=by
   have e1:=Nat.Coprime.pow 1 k c2
   have e2:=Nat.Coprime.pow 1 k c5
   rw[Nat.pow_one] at e1 e2
   exact Nat.Coprime.eq_one_of_dvd e2 (Nat.Coprime.dvd_of_dvd_mul_left e1 hr10)
  refine⟨r1,?_,?_⟩
  ·have d2:2 ^ a ∣ 5 ^ k * 2 ^ k:=by
    rw[Nat.mul_comm,← ten_pow]
    exact Nat.dvd_trans ⟨5 ^ c * r,h1.symm⟩ h
   have co:Nat.Coprime (2 ^ a) (5 ^ k):=Nat.Coprime.pow a k (by decide)
   exact(Nat.pow_dvd_pow_iff_le_right (by decide)).1 (Nat.Coprime.dvd_of_dvd_mul_left co d2)
  ·have d5:5 ^ c ∣ 2 ^ k * 5 ^ k:=by
    rw[← ten_pow]
    refine Nat.dvd_trans ⟨2 ^ a * r,?_⟩ h
    rw[← h1,Nat.mul_comm (5 ^ c) (2 ^ a * r),Nat.mul_assoc,Nat.mul_comm r]
   have co:Nat.Coprime (5 ^ c) (2 ^ k):=Nat.Coprime.pow c k (by decide)
   exact(Nat.pow_dvd_pow_iff_le_right (by decide)).1 (Nat.Coprime.dvd_of_dvd_mul_left co d5)
 ·rintro⟨r1,ha',hc'⟩
  rw[← h1,r1,Nat.mul_one,ten_pow]
  exact Nat.mul_dvd_mul (Nat.pow_dvd_pow 2 ha') (Nat.pow_dvd_pow 5 hc')
theorem finD_one:finD 1=true:=by
 unfold finD
 rw[tms_stop (b:=2) (by decide),tms_stop (b:=5) (by decide)]
 rfl
def cutAt (c:UInt8):List UInt8→Option (List UInt8×List UInt8)
 | []=>none
 | x :: r=>if x=c then some ([],r) else (cutAt c r).map fun p=>(x :: p.1,p.2)
theorem cutAt_none {c:UInt8}:∀ {l:List UInt8},c∉l→cutAt c l=none
 | [],_=>rfl
 | x :: r,h=>by
  have h1:¬ x=c:=fun e=>h (by rw[e];exact List.mem_cons_self)
  have h2:c∉r:=fun e=>h (List.mem_cons_of_mem _ e)
  unfold cutAt
  rw[if_neg h1,cutAt_none h2]
  rfl
theorem cutAt_some {c:UInt8}:∀ {a:List UInt8} (b:List UInt8),c∉a→cutAt c (a++c :: b)=some (a,b)
 | [],b,_=>by
  show cutAt c (c :: b) = _
  unfold cutAt
  rw[if_pos rfl]
 | x :: r,b,h=>by
  have h1:¬ x=c:=fun e=>h (by rw[e];exact List.mem_cons_self)
  have h2:c∉r:=fun e=>h (List.mem_cons_of_mem _ e)
  show cutAt c (x :: (r++c :: b)) = _
  unfold cutAt
  rw[if_neg h1,cutAt_some b h2]
  rfl
def digL (l:List UInt8):Bool:=decide (l≠[])&&l.all isDig
theorem num_zeros:∀ (k:Nat) (l:List UInt8),num (List.replicate k 48++l)=num l
 | 0,l=>rfl
 | k+1,l=>by
  rw[List.replicate_succ,List.cons_append,num_cons,num_zeros k l]
  have:(48:UInt8).toNat-48=0:=rfl
  rw[this,Nat.zero_mul,Nat.zero_add]
def sgL (z:Int):List UInt8:=if z<0 then [45] else []
theorem head_all {A B:List UInt8} (h:A.all isDig=true) (h1:A≠[]):(A++B).head?≠some 45:=by
 cases A with
 | nil=>exact absurd rfl h1
 | cons x r =>
  simp only[List.cons_append,List.head?_cons]
  intro e
  have e':x=45:=Option.some.inj e
  subst e'
  simp only[List.all_cons,Bool.and_eq_true] at h
  exact absurd h.1 (by decide)
def parseA (s:List UInt8):Option Rat :=
 match cutAt 47 (cutL s).1 with
 | some (a,b)=>if (digL a&&digL b)=true then (if num b=0 then none else some (Rat.divInt (withS (cutL s).2 (num a)) (num b:Int))) else none
 | none=>match cutAt 46 (cutL s).1 with
  | some (a,b)=>if (digL a&&digL b)=true then some (Rat.divInt (withS (cutL s).2 (num (a++b))) ((10 ^ b.length:Nat):Int)) else none
  | none=>if digL (cutL s).1=true then some ((withS (cutL s).2 (num (cutL s).1):Int):Rat) else none
def parseL (s:List UInt8):Option Rat:=if 1000<s.length then none else parseA s
def padL (n:Nat) (l:List UInt8):List UInt8:=List.replicate (n+1-l.length) 48++l
def digsL (x:Rat):List UInt8:=padL (plD x.den) (Lib.decDigits (x.num.natAbs * (10 ^ plD x.den / x.den)))
def printL (x:Rat):List UInt8 :=
 if finD x.den=true then
  (if plD x.den=0 then (intB x.num).data.toList else sgL x.num++((digsL x).take ((digsL x).length-plD x.den)++46 :: (digsL x).drop ((digsL x).length-plD x.den)))
 else (intB x.num).data.toList++47 :: Lib.decDigits x.den
theorem pad_len (n:Nat) (l:List UInt8):n+1≤(padL n l).length:=by
 unfold padL
 rw[List.length_append,List.length_replicate]
 omega
namespace Pw
def errW:Option Int→Value
 | none=>.nilIface
 | some c=>.iface 0 (.int .i64 c)
theorem errW_none:errW none=.nilIface:=rfl
theorem errW_some (c:Int):errW (some c)=.iface 0 (.int .i64 c):=rfl
def stringslite_HasPrefix.f (a0 a1:ByteArray):Option (Bool):=if (a0.size:Int)≥(a1.size:Int) then (if 0≤(a1.size:Int) then (if (a1.size:Int)≤(a0.size:Int) then (some ((a0.extract 0 ((a1.size:Int):Int).toNat).toList == a1.toList)) else (none)) else (none)) else (some false)
theorem stringslite_HasPrefix.calls (a0 a1:ByteArray) (r:Bool) (w:World) (h:stringslite_HasPrefix.f a0 a1=some r) :
  Calls Tryz.prog 129 #[.string a0,.string a1] w fun e w'=>e=.returned (.bool r)∧Drawn0 w w':=by
 have H:=h;unfold stringslite_HasPrefix.f at H;clear h;replace H:=bw_ H;rcases H with ⟨c3,H⟩|⟨c3,H⟩
 ·have c3b0:decide ((a1.size:Int)≤(a0.size:Int))=true:=decide_eq_true c3;have c3b1:decide (a1.size≤a0.size)=true:=decide_eq_true (Int.ofNat_le.mp c3);clear c3;replace H:=bx_ H;obtain⟨c4,H⟩:=H;have c4b0:=eq_true c4;replace c4:=dt_ c4;replace H:=bx_ H;obtain⟨c5,H⟩:=H;have c5b0:=eq_true c5;replace c5:=dt_ c5;obtain rfl:=oi_ H;go_in;go_wp2
  go_ret
  exact⟨rl_,d0_⟩
 ·have c3b0:decide ((a1.size:Int)≤(a0.size:Int))=false:=decide_eq_false c3;have c3b1:decide (a1.size≤a0.size)=false:=decide_eq_false (fun h=>c3 (Int.ofNat_le.mpr h));clear c3;obtain rfl:=oi_ H;go_in;go_wp2
  go_ret
  exact⟨rl_,d0_⟩
def stringslite_CutPrefix.f (a0 a1:ByteArray):Option (ByteArray×Bool):=(stringslite_HasPrefix.f a0 a1).bind fun t101=>(if t101=true then (if 0≤(a1.size:Int) then (if (a1.size:Int)≤(a0.size:Int) then (some (a0.extract ((a1.size:Int):Int).toNat a0.size,true)) else (none)) else (none)) else (some (a0,false)))
theorem stringslite_CutPrefix.calls (a0 a1 r1:ByteArray) (r2:Bool) (w:World) (h:stringslite_CutPrefix.f a0 a1=some (r1,r2)) :
  Calls Tryz.prog 124 #[.string a0,.string a1] w fun e w'=>e=.returned (.tuple #[.string r1,.bool r2])∧Drawn0 w w':=by
 have H:=h;unfold stringslite_CutPrefix.f at H;clear h;replace H:=bi_ H;obtain⟨t101,A3,H⟩:=H;replace H:=bt_ H;rcases H with ⟨rfl,H⟩|⟨rfl,H⟩
 ·replace H:=bx_ H;obtain⟨c5,H⟩:=H;have c5b0:=eq_true c5;replace c5:=dt_ c5;replace H:=bx_ H;obtain⟨c6,H⟩:=H;have c6b0:=eq_true c6;replace c6:=dt_ c6;replace H:=pi2_ H;obtain⟨rfl,rfl⟩:=H;go_in
  go_wp2_with ((refine gm_ 8 Tryz.func129 (stringslite_HasPrefix.calls _ _ _ _ A3.out) ?_;rintro w' ⟨nd,rfl⟩))
  go_ret2;exact⟨rl_,d0_⟩
 ·replace H:=pi2_ H;obtain⟨rfl,rfl⟩:=H;go_in
  go_wp2_with ((refine gm_ 8 Tryz.func129 (stringslite_HasPrefix.calls _ _ _ _ A3.out) ?_;rintro w' ⟨nd,rfl⟩))
  go_ret2;exact⟨rl_,d0_⟩
def strings_CutPrefix.f (a0 a1:ByteArray):Option (ByteArray×Bool):=(stringslite_CutPrefix.f a0 a1).bind fun bt102=>(some (bt102.1,bt102.2))
theorem strings_CutPrefix.calls (a0 a1 r1:ByteArray) (r2:Bool) (w:World) (h:strings_CutPrefix.f a0 a1=some (r1,r2)) :
  Calls Tryz.prog 82 #[.string a0,.string a1] w fun e w'=>e=.returned (.tuple #[.string r1,.bool r2])∧Drawn0 w w':=by
 have H:=h;unfold strings_CutPrefix.f at H;clear h;replace H:=bi_ H;obtain⟨⟨t102,t103⟩,A3,H⟩:=H;(try dsimp only at H);replace H:=pi2_ H;obtain⟨rfl,rfl⟩:=H;go_in
 go_wp2_with ((refine gm_ 8 Tryz.func124 (stringslite_CutPrefix.calls _ _ _ _ _ A3.out) ?_;rintro w' ⟨nd,rfl⟩))
 go_ret2;exact⟨rl_,d0_⟩
def whole_read.f (a0:ByteArray):Option (ByteArray×Bool×Bool):=(strings_CutPrefix.f a0 (⟨#[45]⟩:ByteArray)).bind fun bt105=>((nat_May.f bt105.1).bind fun t107=>(if t107=true then (if bt105.2=true then (if bt105.1.toList=([48]:List UInt8) then (some ((⟨#[]⟩:ByteArray),false,false)) else (some (bt105.1,bt105.2,true))) else (some (bt105.1,bt105.2,true))) else (some ((⟨#[]⟩:ByteArray),false,false))))
theorem whole_read.calls (a0 r1:ByteArray) (r2 r3:Bool) (w:World) (h:whole_read.f a0=some (r1,r2,r3)) :
  Calls Tryz.prog 106 #[.string a0] w fun e w'=>e=.returned (.tuple #[.agg #[.string r1,.bool r2],.bool r3])∧Below w.heap.size w w':=by
 have hu107:=Tryz.underlying107;have HB:=ak_ (Below.refl w.heap.size w);have H:=h;unfold whole_read.f at H;clear h;replace H:=bi_ H;obtain⟨⟨t105,t106⟩,A2,H⟩:=H;(try dsimp only at H);replace H:=bi_ H;obtain⟨t107,A3,H⟩:=H;replace H:=bt_ H;rcases H with ⟨rfl,H⟩|⟨rfl,H⟩
 ·replace H:=bt_ H;rcases H with ⟨rfl,H⟩|⟨rfl,H⟩
  ·replace H:=bw_ H;rcases H with ⟨c6,H⟩|⟨c6,H⟩
   ·have c6b0:(t105.toList == ([48]:List UInt8))=true:=beq_iff_eq.mpr c6;have c6b1:(t105.toList != ([48]:List UInt8))=false:=bne_eq_false_iff_eq.mpr c6;clear c6;replace H:=pi3_ H;obtain⟨rfl,rfl,rfl⟩:=H;go_in
    go_wp2_with (first|(refine bf_ 2 #[.string ⟨#[]⟩,.bool false] 107 HB ?_;clear HB;intro gb104 w7 BK104 GW104 HB)|(refine gm_ 8 Tryz.func82 (strings_CutPrefix.calls _ _ _ _ _ A2.out) ?_;rintro w' ⟨nd,rfl⟩;(try(rw[drewN_self w7];generalize hq_:World.drewN w7 _ = w7;have n0_:Aside0 (w7.heap[gb104]?=some (.cells #[.string ⟨#[]⟩,.bool false] 107 (0,0))):=⟨by rw[← hq_];exact(k_ BK104.out)⟩;have n1_:Aside0 (Below w.heap.size w w7):=⟨by rw[← hq_];exact(b_ HB.out)⟩;clear BK104 HB hq_;have BK104:=n0_;have HB:=n1_;clear n0_ n1_)))|(refine gm_ 12 Tryz.func79 (nat_May.calls _ _ _ A3.out) ?_;intro w8 hb;replace BK104:=kb_ BK104 hb;replace HB:=bs_ HB hb;(try clear hb);have hz9:=cs2_ BK104))
    refine bodyPost_ret (results_ct rfl _ _ gb104 107 #[.string ⟨#[]⟩,.bool false] (0,0) _ rfl (rp_ BK104.out) Tryz.underlying107 rfl (by kernel_rfl)) rfl ?_;exact⟨er_,b_ HB.out⟩
   ·have c6b0:(t105.toList == ([48]:List UInt8))=false:=beq_eq_false_iff_ne.mpr c6;have c6b1:(t105.toList != ([48]:List UInt8))=true:=bne_iff_ne.mpr c6;replace H:=pi3_ H;obtain⟨rfl,rfl,rfl⟩:=H;go_in
    go_wp2_with (first|(refine bf_ 2 #[.string ⟨#[]⟩,.bool false] 107 HB ?_;clear HB;intro gb104 w10 BK104 GW104 HB)|(refine gm_ 8 Tryz.func82 (strings_CutPrefix.calls _ _ _ _ _ A2.out) ?_;rintro w' ⟨nd,rfl⟩;(try(rw[drewN_self w10];generalize hq_:World.drewN w10 _ = w10;have n0_:Aside0 (w10.heap[gb104]?=some (.cells #[.string ⟨#[]⟩,.bool false] 107 (0,0))):=⟨by rw[← hq_];exact(k_ BK104.out)⟩;have n1_:Aside0 (Below w.heap.size w w10):=⟨by rw[← hq_];exact(b_ HB.out)⟩;clear BK104 HB hq_;have BK104:=n0_;have HB:=n1_;clear n0_ n1_)))|(refine gm_ 12 Tryz.func79 (nat_May.calls _ _ _ A3.out) ?_;intro w11 hb;replace BK104:=kb_ BK104 hb;replace HB:=bs_ HB hb;(try clear hb);have hz12:=cs2_ BK104))
    refine bodyPost_ret (results_ct rfl _ _ gb104 107 #[.string t105,.bool true] (0,0) _ rfl (rp_ BK104.out) Tryz.underlying107 rfl (by kernel_rfl)) rfl ?_;exact⟨er_,b_ HB.out⟩
  ·replace H:=pi3_ H;obtain⟨rfl,rfl,rfl⟩:=H;go_in
   go_wp2_with (first|(refine bf_ 2 #[.string ⟨#[]⟩,.bool false] 107 HB ?_;clear HB;intro gb104 w13 BK104 GW104 HB)|(refine gm_ 8 Tryz.func82 (strings_CutPrefix.calls _ _ _ _ _ A2.out) ?_;rintro w' ⟨nd,rfl⟩;(try(rw[drewN_self w13];generalize hq_:World.drewN w13 _ = w13;have n0_:Aside0 (w13.heap[gb104]?=some (.cells #[.string ⟨#[]⟩,.bool false] 107 (0,0))):=⟨by rw[← hq_];exact(k_ BK104.out)⟩;have n1_:Aside0 (Below w.heap.size w w13):=⟨by rw[← hq_];exact(b_ HB.out)⟩;clear BK104 HB hq_;have BK104:=n0_;have HB:=n1_;clear n0_ n1_)))|(refine gm_ 12 Tryz.func79 (nat_May.calls _ _ _ A3.out) ?_;intro w14 hb;replace BK104:=kb_ BK104 hb;replace HB:=bs_ HB hb;(try clear hb);have hz15:=cs2_ BK104))
   refine bodyPost_ret (results_ct rfl _ _ gb104 107 #[.string t105,.bool false] (0,0) _ rfl (rp_ BK104.out) Tryz.underlying107 rfl (by kernel_rfl)) rfl ?_;exact⟨er_,b_ HB.out⟩
 ·replace H:=pi3_ H;obtain⟨rfl,rfl,rfl⟩:=H;go_in
  go_wp2_with (first|(refine bf_ 2 #[.string ⟨#[]⟩,.bool false] 107 HB ?_;clear HB;intro gb104 w16 BK104 GW104 HB)|(refine gm_ 8 Tryz.func82 (strings_CutPrefix.calls _ _ _ _ _ A2.out) ?_;rintro w' ⟨nd,rfl⟩;(try(rw[drewN_self w16];generalize hq_:World.drewN w16 _ = w16;have n0_:Aside0 (w16.heap[gb104]?=some (.cells #[.string ⟨#[]⟩,.bool false] 107 (0,0))):=⟨by rw[← hq_];exact(k_ BK104.out)⟩;have n1_:Aside0 (Below w.heap.size w w16):=⟨by rw[← hq_];exact(b_ HB.out)⟩;clear BK104 HB hq_;have BK104:=n0_;have HB:=n1_;clear n0_ n1_)))|(refine gm_ 12 Tryz.func79 (nat_May.calls _ _ _ A3.out) ?_;intro w17 hb;replace BK104:=kb_ BK104 hb;replace HB:=bs_ HB hb;(try clear hb);have hz18:=cs2_ BK104))
  refine bodyPost_ret (results_ct rfl _ _ gb104 107 #[.string ⟨#[]⟩,.bool false] (0,0) _ rfl (rp_ BK104.out) Tryz.underlying107 rfl (by kernel_rfl)) rfl ?_;exact⟨er_,b_ HB.out⟩
def whole_May.f (a0:ByteArray):Option (Bool):=(whole_read.f a0).bind fun bt108=>(some bt108.2.2)
theorem whole_May.calls (a0:ByteArray) (r:Bool) (w:World) (h:whole_May.f a0=some r) :
  Calls Tryz.prog 98 #[.string a0] w fun e w'=>e=.returned (.bool r)∧Below w.heap.size w w':=by
 have hu107:=Tryz.underlying107;have HB:=ak_ (Below.refl w.heap.size w);have H:=h;unfold whole_May.f at H;clear h;replace H:=bi_ H;obtain⟨⟨t108,t109,t110⟩,A2,H⟩:=H;(try dsimp only at H);obtain rfl:=oi_ H;go_in
 go_wp2_with (first|(refine gm_ 7 Tryz.func106 (whole_read.calls _ _ _ _ _ A2.out) ?_;intro w3 hb;replace HB:=bs_ HB hb;(try clear hb))|(refine bf_ 3 #[.string ⟨#[]⟩,.bool false] 107 HB ?_;clear HB;intro gb111 w4 BK111 GW111 HB;have hz5:=cs2_ BK111))
 go_ret
 exact⟨er_,b_ HB.out⟩
def whole_Of.f (a0:Int):Option (ByteArray):=(strconv_Itoa.f a0).bind fun t112=>(some t112)
theorem whole_Of.calls (a0:Int) (r:ByteArray) (w:World) (hL_:Laid w) (h:whole_Of.f a0=some r) :
  Calls Tryz.prog 81 #[.int .i64 a0] w fun e w'=>e=.returned (.string r)∧Below w.heap.size w w':=by
 have HLD:=ak_ hL_;clear hL_;have HB:=ak_ (Below.refl w.heap.size w);have H:=h;unfold whole_Of.f at H;clear h;replace H:=bi_ H;obtain⟨t112,A2,H⟩:=H;obtain rfl:=oi_ H;go_in
 go_wp2_with ((refine gm_ 4 Tryz.func33 (strconv_Itoa.calls _ _ _ (lb_ HLD HB) A2.out) ?_;intro w3 hb;replace HB:=bs_ HB hb;(try clear hb)))
 go_ret
 exact⟨er_,b_ HB.out⟩
def whole_Sign.j0:Nat→Bool→ByteArray→Bool→Option (Int)
 | 0,_,_,_=>none
 | k+1,x10,x117000,x117001=>if x10=true then (some 0) else (if x117001=true then (some (-1)) else (some 1))
def whole_Sign.f (k:Nat) (a0:ByteArray):Option (Int):=(whole_read.f a0).bind fun bt113=>(if bt113.2.2=true then (whole_Sign.j0 k (bt113.1.toList == ([48]:List UInt8)) bt113.1 bt113.2.1) else (whole_Sign.j0 k true bt113.1 bt113.2.1))
theorem whole_Sign.calls (k:Nat) (a0:ByteArray) (r:Int) (w:World) (h:whole_Sign.f k a0=some r) :
  Calls Tryz.prog 64 #[.string a0] w fun e w'=>e=.returned (.int .i64 r)∧Below w.heap.size w w':=by
 have hu107:=Tryz.underlying107;have HB:=ak_ (Below.refl w.heap.size w);have H:=h;unfold whole_Sign.f at H;clear h;replace H:=bi_ H;obtain⟨⟨t113,t114,t115⟩,A2,H⟩:=H;(try dsimp only at H);have HC3:=ak_ H;clear H;go_in
 go_upto_region 2 with (first|(refine gm_ 7 Tryz.func106 (whole_read.calls _ _ _ _ _ A2.out) ?_;intro w4 hb;replace HB:=bs_ HB hb;(try clear hb))|(refine bf_ 3 #[.string ⟨#[]⟩,.bool false] 107 HB ?_;clear HB;intro gb116 w5 BK116 GW116 HB;have hz6:=cs2_ BK116))
 (try simp only[Act.put,List.setIfInBounds_toArray,List.set_cons_zero,List.set_cons_succ])
 go_cut [10] (fun v10 wc=>∃ (kq:Nat) (x10_2:Bool),v10=.bool x10_2∧Aside0 (whole_Sign.j0 kq x10_2 t113 t114=some r)∧Aside0 (kq≤k)∧Aside0 (wc.heap[gb116]?=some (.cells #[.string t113,.bool t114] 107 (0,0)))∧Aside0 (Below w.heap.size w wc))
 case first =>
  have H:=HC3.out;clear HC3;replace H:=bt_ H;rcases H with ⟨rfl,H⟩|⟨rfl,H⟩
  ·have H':=ak_ H;clear H;have hz8:=cs2_ BK116;go_wp2
   go_meet
   case rel=>exact⟨_,((t113.toList == ([48]:List UInt8))),rl_,H',⟨nk_⟩,⟨rp_ BK116.out⟩,⟨b_ HB.out⟩⟩
  ·have H':=ak_ H;clear H;go_wp2
   go_meet
   case rel=>exact⟨_,(true),rl_,H',⟨nk_⟩,⟨rp_ BK116.out⟩,⟨b_ HB.out⟩⟩
 case rest =>
  clear HC3;(try clear hz6);obtain⟨kq,x10_2,rfl,HA,HJ2,BK116,HB⟩:=hcut
  cases kq with
  | zero=>exact absurd HA.out (by simp[whole_Sign.j0])
  | succ kj2 =>
   have H:=HA.out;clear HA;simp only[whole_Sign.j0] at H;replace H:=bt_ H;rcases H with ⟨rfl,H⟩|⟨rfl,H⟩
   ·obtain rfl:=oi_ H;go_wp2
    go_ret
    exact⟨er_,b_ HB.out⟩
   ·replace H:=bt_ H;rcases H with ⟨rfl,H⟩|⟨rfl,H⟩
    ·obtain rfl:=oi_ H;have hz11:=cs2_ BK116;go_wp2
     go_ret
     exact⟨er_,b_ HB.out⟩
    ·obtain rfl:=oi_ H;have hz12:=cs2_ BK116;go_wp2
     go_ret
     exact⟨er_,b_ HB.out⟩
def whole_Abs.f (a0:ByteArray):Option (ByteArray):=(whole_read.f a0).bind fun bt117=>(some bt117.1)
theorem whole_Abs.calls (a0 r:ByteArray) (w:World) (h:whole_Abs.f a0=some r) :
  Calls Tryz.prog 62 #[.string a0] w fun e w'=>e=.returned (.string r)∧Below w.heap.size w w':=by
 have hu107:=Tryz.underlying107;have HB:=ak_ (Below.refl w.heap.size w);have H:=h;unfold whole_Abs.f at H;clear h;replace H:=bi_ H;obtain⟨⟨t117,t118,t119⟩,A2,H⟩:=H;(try dsimp only at H);obtain rfl:=oi_ H;go_in
 go_wp2_with (first|(refine gm_ 7 Tryz.func106 (whole_read.calls _ _ _ _ _ A2.out) ?_;intro w3 hb;replace HB:=bs_ HB hb;(try clear hb))|(refine bf_ 3 #[.string ⟨#[]⟩,.bool false] 107 HB ?_;clear HB;intro gb120 w4 BK120 GW120 HB;have hz5:=cs2_ BK120))
 go_ret
 exact⟨er_,b_ HB.out⟩
def whole_number_text.f (a0_0:ByteArray) (a0_1:Bool):Option (ByteArray):=if a0_1=true then (if a0_0.toList=([48]:List UInt8) then (some a0_0) else (if 1+a0_0.size≤9223372036854775807 then (some ((⟨#[45]⟩:ByteArray)++a0_0)) else (none))) else (some a0_0)
theorem whole_number_text.calls (a0_0:ByteArray) (a0_1:Bool) (r:ByteArray) (w:World) (h:whole_number_text.f a0_0 a0_1=some r) :
  Calls Tryz.prog 127 #[.agg #[.string a0_0,.bool a0_1]] w fun e w'=>e=.returned (.string r)∧Below w.heap.size w w':=by
 have hu107:=Tryz.underlying107;have HB:=ak_ (Below.refl w.heap.size w);have H:=h;unfold whole_number_text.f at H;clear h;replace H:=bt_ H;rcases H with ⟨rfl,H⟩|⟨rfl,H⟩
 ·replace H:=bw_ H;rcases H with ⟨c3,H⟩|⟨c3,H⟩
  ·have c3b0:(a0_0.toList == ([48]:List UInt8))=true:=beq_iff_eq.mpr c3;have c3b1:(a0_0.toList != ([48]:List UInt8))=false:=bne_eq_false_iff_eq.mpr c3;clear c3;obtain rfl:=oi_ H;go_in
   go_wp2_with ((refine bf_ 1 #[.string a0_0,.bool true] 107 HB ?_;clear HB;intro gb121 w4 BK121 GW121 HB;have hz5:=cs2_ BK121))
   go_ret
   exact⟨er_,b_ HB.out⟩
  ·have c3b0:(a0_0.toList == ([48]:List UInt8))=false:=beq_eq_false_iff_ne.mpr c3;have c3b1:(a0_0.toList != ([48]:List UInt8))=true:=bne_iff_ne.mpr c3;replace H:=bx_ H;obtain⟨c6,H⟩:=H;have c6b0:=eq_true c6;have c6b1:=dt_ c6
   try have c6b2:(9223372036854775807<1+a0_0.size)=False:=eq_false (Nat.not_lt.2 c6)
   obtain rfl:=oi_ H;go_in
   go_wp2_with ((refine bf_ 1 #[.string a0_0,.bool true] 107 HB ?_;clear HB;intro gb121 w7 BK121 GW121 HB;have hz8:=cs2_ BK121))
   go_ret
   exact⟨er_,b_ HB.out⟩
 ·obtain rfl:=oi_ H;go_in
  go_wp2_with ((refine bf_ 1 #[.string a0_0,.bool false] 107 HB ?_;clear HB;intro gb121 w9 BK121 GW121 HB;have hz10:=cs2_ BK121))
  go_ret
  exact⟨er_,b_ HB.out⟩
def whole_Neg.f (a0:ByteArray):Option (ByteArray):=(whole_read.f a0).bind fun bt122=>(if bt122.2.2=true then ((whole_number_text.f bt122.1 (!bt122.2.1)).bind fun t126=>(some t126)) else (some (⟨#[]⟩:ByteArray)))
theorem whole_Neg.calls (a0 r:ByteArray) (w:World) (h:whole_Neg.f a0=some r) :
  Calls Tryz.prog 86 #[.string a0] w fun e w'=>e=.returned (.string r)∧Below w.heap.size w w':=by
 have hu107:=Tryz.underlying107;have HB:=ak_ (Below.refl w.heap.size w);have H:=h;unfold whole_Neg.f at H;clear h;replace H:=bi_ H;obtain⟨⟨t122,t123,t124⟩,A2,H⟩:=H;(try dsimp only at H);replace H:=bt_ H;rcases H with ⟨rfl,H⟩|⟨rfl,H⟩
 ·replace H:=bi_ H;obtain⟨t126,A4,H⟩:=H;obtain rfl:=oi_ H;go_in
  go_wp2_with (first|(refine gm_ 7 Tryz.func106 (whole_read.calls _ _ _ _ _ A2.out) ?_;intro w5 hb;replace HB:=bs_ HB hb;(try clear hb))|(refine bf_ 3 #[.string ⟨#[]⟩,.bool false] 107 HB ?_;clear HB;intro gb125 w6 BK125 GW125 HB;have hcz7_0:=bc_ BK125 0 rfl;have hcz7_1:=bc_ BK125 1 rfl;have hcd7_1:∀ (x y z:Value),(((w6.setCell ⟨gb125,0,none⟩ x).setCell ⟨gb125,1,none⟩ y).setCell ⟨gb125,1,none⟩ z).cell? ⟨gb125,1,none⟩=some z:=(fun x y z=>(blk_cell (blk_put (cs:=#[x,y]) (blk_put (cs:=#[x,.bool false]) (blk_put (cs:=#[.string ⟨#[]⟩,.bool false]) BK125.out 0 x rfl) 1 y rfl) 1 z rfl) 1).trans rfl);have hfz7_0:=blk_frozen BK125.out 0;have hfz7_1:=blk_frozen BK125.out 1)|(refine gm_ 17 Tryz.func127 (whole_number_text.calls _ _ _ _ A4.out) ?_;intro w8 hb;replace BK125:=ak_ (blk_below (g:=gb125) (o:=.cells #[.string t122,.bool (!t123)] 107 (0,0)) (rp_ BK125.out) hb);replace HB:=bs_ HB hb;(try clear hb)))
  go_ret
  exact⟨er_,b_ HB.out⟩
 ·obtain rfl:=oi_ H;go_in
  go_wp2_with (first|(refine gm_ 7 Tryz.func106 (whole_read.calls _ _ _ _ _ A2.out) ?_;intro w9 hb;replace HB:=bs_ HB hb;(try clear hb))|(refine bf_ 3 #[.string ⟨#[]⟩,.bool false] 107 HB ?_;clear HB;intro gb125 w10 BK125 GW125 HB;have hcz11_0:=bc_ BK125 0 rfl;have hcz11_1:=bc_ BK125 1 rfl;have hcd11_1:∀ (x y z:Value),(((w10.setCell ⟨gb125,0,none⟩ x).setCell ⟨gb125,1,none⟩ y).setCell ⟨gb125,1,none⟩ z).cell? ⟨gb125,1,none⟩=some z:=(fun x y z=>(blk_cell (blk_put (cs:=#[x,y]) (blk_put (cs:=#[x,.bool false]) (blk_put (cs:=#[.string ⟨#[]⟩,.bool false]) BK125.out 0 x rfl) 1 y rfl) 1 z rfl) 1).trans rfl);have hfz11_0:=blk_frozen BK125.out 0;have hfz11_1:=blk_frozen BK125.out 1))
  go_ret
  exact⟨er_,b_ HB.out⟩
def whole_both.f (a0 a1:ByteArray):Option (ByteArray×Bool×ByteArray×Bool×Bool):=(whole_read.f a0).bind fun bt129=>((whole_read.f a1).bind fun bt133=>(if bt129.2.2=true then (some (bt129.1,bt129.2.1,bt133.1,bt133.2.1,bt133.2.2)) else (some (bt129.1,bt129.2.1,bt133.1,bt133.2.1,false))))
def whole_both.T3:Bool×List (List Nat×List Nat):=(true,[([],[]),([],[]),([],[]),([2],[2]),([3],[3]),([3,4],[3,4]),([0,3,0],[0]),([1,6,0,1,6],[1]),([5,7,0,1,2,3,4,5,6,7],[5])])
def whole_both.B3:List Nat:=[0,0,0,4,12,28,13,79,255]
theorem whole_both.tab3:rtab .any (opsOf Tryz.f175 3)=whole_both.T3:=by kernel_rfl
theorem whole_both.bits3:waitsOk whole_both.T3.2 whole_both.B3=true:=by kernel_rfl
theorem whole_both.calls (a0 a1 r1:ByteArray) (r2:Bool) (r3:ByteArray) (r4 r5:Bool) (w:World) (h:whole_both.f a0 a1=some (r1,r2,r3,r4,r5)) :
  Calls Tryz.prog 175 #[.string a0,.string a1] w fun e w'=>e=.returned (.tuple #[.agg #[.string r1,.bool r2],.agg #[.string r3,.bool r4],.bool r5])∧Below w.heap.size w w':=by
 have hu107:=Tryz.underlying107;have HB:=ak_ (Below.refl w.heap.size w);have H:=h;unfold whole_both.f at H;clear h;replace H:=bi_ H;obtain⟨⟨t129,t130,t131⟩,A3,H⟩:=H;(try dsimp only at H);replace H:=bi_ H;obtain⟨⟨t133,t134,t135⟩,A4,H⟩:=H;(try dsimp only at H);replace H:=bt_ H;rcases H with ⟨rfl,H⟩|⟨rfl,H⟩
 ·simp only[Option.some.injEq,Prod.mk.injEq] at H;obtain⟨rfl,rfl,rfl,rfl,rfl⟩:=H;go_in
  try go_wp2_with (first|(refine bf_ 4 #[.string ⟨#[]⟩,.bool false] 107 HB ?_;clear HB;intro gb127 w6 BK127 GW127 HB)|(refine bg_ 5 #[.string ⟨#[]⟩,.bool false] 107 HB ?_;clear HB;intro gb128 w7 hg hb BK128 GW128 HB;have NB127_128:=nl_ BK127 hg;have NB128_127:=ng_ BK127 hg;replace BK127:=kb_ BK127 hb;clear hb hg)|(refine gm_ 13 Tryz.func106 (whole_read.calls _ _ _ _ _ A3.out) ?_;intro w8 hb;replace BK127:=kb_ BK127 hb;replace BK128:=kb_ BK128 hb;replace HB:=bs_ HB hb;(try clear hb))|(refine bg_ 7 #[.string ⟨#[]⟩,.bool false] 107 HB ?_;clear HB;intro gb132 w9 hg hb BK132 GW132 HB;have NB127_132:=nl_ BK127 hg;have NB132_127:=ng_ BK127 hg;have NB128_132:=nl_ BK128 hg;have NB132_128:=ng_ BK128 hg;replace BK127:=kb_ BK127 hb;replace BK128:=kb_ BK128 hb;clear hb hg;have hnb10:=NB132_127.out;have hnc10:=NB127_132.out;have hnb11:=NB132_128.out;have hnc11:=NB128_132.out;have hz12:=cs2_ BK132)|(refine gm_ 18 Tryz.func106 (whole_read.calls _ _ _ _ _ A4.out) ?_;intro w13 hb;replace BK127:=ak_ (blk_below (g:=gb127) (o:=.cells #[.string ⟨#[]⟩,.bool false] 107 (0,0)) (fr_ BK127.out) hb);replace BK128:=ak_ (blk_below (g:=gb128) (o:=.cells #[.string ⟨#[]⟩,.bool false] 107 (0,0)) (fr_ BK128.out) hb);replace BK132:=ak_ (blk_below (g:=gb132) (o:=.cells #[.string t129,.bool t130] 107 (0,0)) (rp_ BK132.out) hb);replace HB:=bs_ HB hb;(try clear hb))|(refine bg_ 9 #[.string ⟨#[]⟩,.bool false] 107 HB ?_;clear HB;intro gb136 w14 hg hb BK136 GW136 HB;have NB127_136:=nl_ BK127 hg;have NB136_127:=ng_ BK127 hg;have NB128_136:=nl_ BK128 hg;have NB136_128:=ng_ BK128 hg;have NB132_136:=nl_ BK132 hg;have NB136_132:=ng_ BK132 hg;replace BK127:=kb_ BK127 hb;replace BK128:=kb_ BK128 hb;replace BK132:=kb_ BK132 hb;clear hb hg;have hnb15:=NB136_127.out;have hnc15:=NB127_136.out;have hnb16:=NB136_128.out;have hnc16:=NB128_136.out;have hnb17:=NB136_132.out;have hnc17:=NB132_136.out;have hz18:=cs2_ BK136))
  have n0_:Aside0 (((w14.setCell ⟨gb136,0,none⟩ (.string t133)).setCell ⟨gb136,1,none⟩ (.bool t134)).heap[gb127]?=some (.cells #[.string ⟨#[]⟩,.bool false] 107 (0,0))):=⟨fr_ BK127.out⟩;have n1_:Aside0 (((w14.setCell ⟨gb136,0,none⟩ (.string t133)).setCell ⟨gb136,1,none⟩ (.bool t134)).heap[gb128]?=some (.cells #[.string ⟨#[]⟩,.bool false] 107 (0,0))):=⟨fr_ BK128.out⟩;have n2_:Aside0 (((w14.setCell ⟨gb136,0,none⟩ (.string t133)).setCell ⟨gb136,1,none⟩ (.bool t134)).heap[gb132]?=some (.cells #[.string t129,.bool t130] 107 (0,0))):=⟨fr_ BK132.out⟩;have n3_:Aside0 (((w14.setCell ⟨gb136,0,none⟩ (.string t133)).setCell ⟨gb136,1,none⟩ (.bool t134)).heap[gb136]?=some (.cells #[.string t133,.bool t134] 107 (0,0))):=⟨rp_ BK136.out⟩;have n4_:Aside0 (Below w.heap.size w ((w14.setCell ⟨gb136,0,none⟩ (.string t133)).setCell ⟨gb136,1,none⟩ (.bool t134))):=⟨b_ HB.out⟩;(try clear BK127);(try clear BK128);(try clear BK132);(try clear BK136);(try clear HB);generalize ((w14.setCell ⟨gb136,0,none⟩ (.string t133)).setCell ⟨gb136,1,none⟩ (.bool t134))=w19 at n0_ n1_ n2_ n3_ n4_ ⊢;have BK127:=n0_;have BK128:=n1_;have BK132:=n2_;have BK136:=n3_;have HB:=n4_;clear n0_ n1_ n2_ n3_ n4_;replace BK127:=ak_ (blk_drew BK127.out);replace BK128:=ak_ (blk_drew BK128.out);replace BK132:=ak_ (blk_drew BK132.out);replace BK136:=ak_ (blk_drew BK136.out);replace HB:=ak_ (below_drew1 HB.out);refine sa_ 9 (fun w'=>w'.cell? ⟨gb132,0,none⟩=some (.string t129)∧w'.cell? ⟨gb132,1,none⟩=some (.bool t130)∧w'.cell? ⟨gb136,0,none⟩=some (.string t133)∧w'.cell? ⟨gb136,1,none⟩=some (.bool t134)) (fun hHeld=>?_);refine with_tabW whole_both.tab3 whole_both.bits3 (fun HT_ HW_=>?_);generalize w19.drew=w20 at BK127 BK128 BK132 BK136 HB hHeld ⊢;refine pu_ 2 23 rfl rfl HT_ ?_;refine pu_ 3 24 rfl rfl HT_ ?_;refine pu_ 4 25 rfl rfl HT_ ?_;refine pu_ 5 26 rfl rfl HT_ ?_;refine t_ 0 21 rfl rfl HT_ HW_ hHeld ?_;refine t_ 1 22 rfl rfl HT_ HW_ hHeld ?_;refine on_ 6 none rfl rfl HT_ (fun K hK=>?_);have hs21:=bc_ BK127 0 rfl;have hfs21:=blk_frozen BK127.out 0;have hns21_1:=NB128_127.out;have hns21_2:=NB132_127.out;have hns21_3:=NB136_127.out;have hms21_1:=NB127_128.out;have hms21_2:=NB127_132.out;have hms21_3:=NB127_136.out;have hs22:=bc_ BK127 1 rfl;have hfs22:=blk_frozen BK127.out 1;have hns22_1:=NB128_127.out;have hns22_2:=NB132_127.out;have hns22_3:=NB136_127.out;have hms22_1:=NB127_128.out;have hms22_2:=NB127_132.out;have hms22_3:=NB127_136.out;refine skip_ (w1:=?_) (by rfl) rfl ?_ ?_;rotate_left
  ·go_simp
   rfl
  refine hf_ hK hHeld (fun hHeld=>?_);clear hK K;refine on_ 7 none rfl rfl HT_ (fun K hK=>?_);have hs23:=bc_ BK128 0 rfl;have hfs23:=blk_frozen BK128.out 0;have hns23_0:=NB127_128.out;have hns23_2:=NB132_128.out;have hns23_3:=NB136_128.out;have hms23_0:=NB128_127.out;have hms23_2:=NB128_132.out;have hms23_3:=NB128_136.out;have hs24:=bc_ BK128 1 rfl;have hfs24:=blk_frozen BK128.out 1;have hns24_0:=NB127_128.out;have hns24_2:=NB132_128.out;have hns24_3:=NB136_128.out;have hms24_0:=NB128_127.out;have hms24_2:=NB128_132.out;have hms24_3:=NB128_136.out;refine skip_ (w1:=?_) (by rfl) rfl ?_ ?_;rotate_left
  ·go_simp
   rfl
  refine hf_ hK hHeld (fun hHeld=>?_);clear hK K;refine pu_ 8 6 rfl rfl HT_ ?_;refine done_ (done_of HT_.out (by kernel_rfl)) ?_
  try go_wp2
  refine bodyPost_ret (results_list (rs:=[.cell 4 107,.cell 5 107,.tmp 6]) rfl (by simp) (.cell gb127 107 #[.string t129,.bool t130] (0,0) _ rfl (by refine k_ ?_;refine blk_far ?_ NB127_128.out _;refine k_ ?_;refine blk_far ?_ NB127_128.out _;refine k_ ?_;refine blk_put (cs:=#[.string t129,.bool false]) ?_ 1 _ rfl;refine k_ ?_;refine blk_put (cs:=#[.string ⟨#[]⟩,.bool false]) ?_ 0 _ rfl;refine k_ ?_;exact BK127.out) Tryz.underlying107 rfl (by kernel_rfl) (.cell gb128 107 #[.string t133,.bool t134] (0,0) _ rfl (by refine k_ ?_;refine blk_put (cs:=#[.string t133,.bool false]) ?_ 1 _ rfl;refine k_ ?_;refine blk_put (cs:=#[.string ⟨#[]⟩,.bool false]) ?_ 0 _ rfl;refine k_ ?_;refine blk_far ?_ NB128_127.out _;refine k_ ?_;refine blk_far ?_ NB128_127.out _;refine k_ ?_;exact BK128.out) Tryz.underlying107 rfl (by kernel_rfl) (.tmp .nil)))) rfl ?_;exact⟨er_,b_ HB.out⟩
 ·simp only[Option.some.injEq,Prod.mk.injEq] at H;obtain⟨rfl,rfl,rfl,rfl,rfl⟩:=H;go_in
  try go_wp2_with (first|(refine bf_ 4 #[.string ⟨#[]⟩,.bool false] 107 HB ?_;clear HB;intro gb127 w25 BK127 GW127 HB)|(refine bg_ 5 #[.string ⟨#[]⟩,.bool false] 107 HB ?_;clear HB;intro gb128 w26 hg hb BK128 GW128 HB;have NB127_128:=nl_ BK127 hg;have NB128_127:=ng_ BK127 hg;replace BK127:=kb_ BK127 hb;clear hb hg)|(refine gm_ 13 Tryz.func106 (whole_read.calls _ _ _ _ _ A3.out) ?_;intro w27 hb;replace BK127:=kb_ BK127 hb;replace BK128:=kb_ BK128 hb;replace HB:=bs_ HB hb;(try clear hb))|(refine bg_ 7 #[.string ⟨#[]⟩,.bool false] 107 HB ?_;clear HB;intro gb132 w28 hg hb BK132 GW132 HB;have NB127_132:=nl_ BK127 hg;have NB132_127:=ng_ BK127 hg;have NB128_132:=nl_ BK128 hg;have NB132_128:=ng_ BK128 hg;replace BK127:=kb_ BK127 hb;replace BK128:=kb_ BK128 hb;clear hb hg;have hnb29:=NB132_127.out;have hnc29:=NB127_132.out;have hnb30:=NB132_128.out;have hnc30:=NB128_132.out;have hz31:=cs2_ BK132)|(refine gm_ 18 Tryz.func106 (whole_read.calls _ _ _ _ _ A4.out) ?_;intro w32 hb;replace BK127:=ak_ (blk_below (g:=gb127) (o:=.cells #[.string ⟨#[]⟩,.bool false] 107 (0,0)) (fr_ BK127.out) hb);replace BK128:=ak_ (blk_below (g:=gb128) (o:=.cells #[.string ⟨#[]⟩,.bool false] 107 (0,0)) (fr_ BK128.out) hb);replace BK132:=ak_ (blk_below (g:=gb132) (o:=.cells #[.string t129,.bool t130] 107 (0,0)) (rp_ BK132.out) hb);replace HB:=bs_ HB hb;(try clear hb))|(refine bg_ 9 #[.string ⟨#[]⟩,.bool false] 107 HB ?_;clear HB;intro gb136 w33 hg hb BK136 GW136 HB;have NB127_136:=nl_ BK127 hg;have NB136_127:=ng_ BK127 hg;have NB128_136:=nl_ BK128 hg;have NB136_128:=ng_ BK128 hg;have NB132_136:=nl_ BK132 hg;have NB136_132:=ng_ BK132 hg;replace BK127:=kb_ BK127 hb;replace BK128:=kb_ BK128 hb;replace BK132:=kb_ BK132 hb;clear hb hg;have hnb34:=NB136_127.out;have hnc34:=NB127_136.out;have hnb35:=NB136_128.out;have hnc35:=NB128_136.out;have hnb36:=NB136_132.out;have hnc36:=NB132_136.out;have hz37:=cs2_ BK136))
  have n0_:Aside0 (((w33.setCell ⟨gb136,0,none⟩ (.string t133)).setCell ⟨gb136,1,none⟩ (.bool t134)).heap[gb127]?=some (.cells #[.string ⟨#[]⟩,.bool false] 107 (0,0))):=⟨fr_ BK127.out⟩;have n1_:Aside0 (((w33.setCell ⟨gb136,0,none⟩ (.string t133)).setCell ⟨gb136,1,none⟩ (.bool t134)).heap[gb128]?=some (.cells #[.string ⟨#[]⟩,.bool false] 107 (0,0))):=⟨fr_ BK128.out⟩;have n2_:Aside0 (((w33.setCell ⟨gb136,0,none⟩ (.string t133)).setCell ⟨gb136,1,none⟩ (.bool t134)).heap[gb132]?=some (.cells #[.string t129,.bool t130] 107 (0,0))):=⟨fr_ BK132.out⟩;have n3_:Aside0 (((w33.setCell ⟨gb136,0,none⟩ (.string t133)).setCell ⟨gb136,1,none⟩ (.bool t134)).heap[gb136]?=some (.cells #[.string t133,.bool t134] 107 (0,0))):=⟨rp_ BK136.out⟩;have n4_:Aside0 (Below w.heap.size w ((w33.setCell ⟨gb136,0,none⟩ (.string t133)).setCell ⟨gb136,1,none⟩ (.bool t134))):=⟨b_ HB.out⟩;(try clear BK127);(try clear BK128);(try clear BK132);(try clear BK136);(try clear HB);generalize ((w33.setCell ⟨gb136,0,none⟩ (.string t133)).setCell ⟨gb136,1,none⟩ (.bool t134))=w38 at n0_ n1_ n2_ n3_ n4_ ⊢;have BK127:=n0_;have BK128:=n1_;have BK132:=n2_;have BK136:=n3_;have HB:=n4_;clear n0_ n1_ n2_ n3_ n4_;replace BK127:=ak_ (blk_drew BK127.out);replace BK128:=ak_ (blk_drew BK128.out);replace BK132:=ak_ (blk_drew BK132.out);replace BK136:=ak_ (blk_drew BK136.out);replace HB:=ak_ (below_drew1 HB.out);refine sa_ 9 (fun w'=>w'.cell? ⟨gb132,0,none⟩=some (.string t129)∧w'.cell? ⟨gb132,1,none⟩=some (.bool t130)∧w'.cell? ⟨gb136,0,none⟩=some (.string t133)∧w'.cell? ⟨gb136,1,none⟩=some (.bool t134)) (fun hHeld=>?_);refine with_tabW whole_both.tab3 whole_both.bits3 (fun HT_ HW_=>?_);generalize w38.drew=w39 at BK127 BK128 BK132 BK136 HB hHeld ⊢;refine pu_ 2 23 rfl rfl HT_ ?_;refine pu_ 3 24 rfl rfl HT_ ?_;refine pv_ 4 25 rfl rfl HT_ ?_;refine pu_ 5 26 rfl rfl HT_ ?_;refine t_ 0 21 rfl rfl HT_ HW_ hHeld ?_;refine t_ 1 22 rfl rfl HT_ HW_ hHeld ?_;refine on_ 6 none rfl rfl HT_ (fun K hK=>?_);have hs40:=bc_ BK127 0 rfl;have hfs40:=blk_frozen BK127.out 0;have hns40_1:=NB128_127.out;have hns40_2:=NB132_127.out;have hns40_3:=NB136_127.out;have hms40_1:=NB127_128.out;have hms40_2:=NB127_132.out;have hms40_3:=NB127_136.out;have hs41:=bc_ BK127 1 rfl;have hfs41:=blk_frozen BK127.out 1;have hns41_1:=NB128_127.out;have hns41_2:=NB132_127.out;have hns41_3:=NB136_127.out;have hms41_1:=NB127_128.out;have hms41_2:=NB127_132.out;have hms41_3:=NB127_136.out;refine skip_ (w1:=?_) (by rfl) rfl ?_ ?_;rotate_left
  ·go_simp
   rfl
  refine hf_ hK hHeld (fun hHeld=>?_);clear hK K;refine on_ 7 none rfl rfl HT_ (fun K hK=>?_);have hs42:=bc_ BK128 0 rfl;have hfs42:=blk_frozen BK128.out 0;have hns42_0:=NB127_128.out;have hns42_2:=NB132_128.out;have hns42_3:=NB136_128.out;have hms42_0:=NB128_127.out;have hms42_2:=NB128_132.out;have hms42_3:=NB128_136.out;have hs43:=bc_ BK128 1 rfl;have hfs43:=blk_frozen BK128.out 1;have hns43_0:=NB127_128.out;have hns43_2:=NB132_128.out;have hns43_3:=NB136_128.out;have hms43_0:=NB128_127.out;have hms43_2:=NB128_132.out;have hms43_3:=NB128_136.out;refine skip_ (w1:=?_) (by rfl) rfl ?_ ?_;rotate_left
  ·go_simp
   rfl
  refine hf_ hK hHeld (fun hHeld=>?_);clear hK K;refine pu_ 8 6 rfl rfl HT_ ?_;refine done_ (done_of HT_.out (by kernel_rfl)) ?_
  try go_wp2
  refine bodyPost_ret (results_list (rs:=[.cell 4 107,.cell 5 107,.tmp 6]) rfl (by simp) (.cell gb127 107 #[.string t129,.bool t130] (0,0) _ rfl (by refine k_ ?_;refine blk_far ?_ NB127_128.out _;refine k_ ?_;refine blk_far ?_ NB127_128.out _;refine k_ ?_;refine blk_put (cs:=#[.string t129,.bool false]) ?_ 1 _ rfl;refine k_ ?_;refine blk_put (cs:=#[.string ⟨#[]⟩,.bool false]) ?_ 0 _ rfl;refine k_ ?_;exact BK127.out) Tryz.underlying107 rfl (by kernel_rfl) (.cell gb128 107 #[.string t133,.bool t134] (0,0) _ rfl (by refine k_ ?_;refine blk_put (cs:=#[.string t133,.bool false]) ?_ 1 _ rfl;refine k_ ?_;refine blk_put (cs:=#[.string ⟨#[]⟩,.bool false]) ?_ 0 _ rfl;refine k_ ?_;refine blk_far ?_ NB128_127.out _;refine k_ ?_;refine blk_far ?_ NB128_127.out _;refine k_ ?_;exact BK128.out) Tryz.underlying107 rfl (by kernel_rfl) (.tmp .nil)))) rfl ?_;exact⟨er_,b_ HB.out⟩
mutual
def whole_Div.j0:Nat→Bool→ByteArray→Bool→ByteArray→Bool→Option (ByteArray×ByteArray×Bool)
 | 0,_,_,_,_,_=>none
 | k+1,x26,x143000,x143001,x144000,x144001=>if x26=true then (some ((⟨#[]⟩:ByteArray),(⟨#[]⟩:ByteArray),false)) else ((nat_Div.f x143000 x144000).bind fun bt144=>(if x143001=true then (whole_Div.j1 k bt144.1 bt144.2.1 (bt144.2.1.toList != ([48]:List UInt8)) x143000 x143001 x144000 x144001) else (whole_Div.j1 k bt144.1 bt144.2.1 false x143000 x143001 x144000 x144001)))
def whole_Div.j1:Nat→ByteArray→ByteArray→Bool→ByteArray→Bool→ByteArray→Bool→Option (ByteArray×ByteArray×Bool)
 | 0,_,_,_,_,_,_,_=>none
 | k+1,x10,x11,x41,x143000,x143001,x144000,x144001=>if x41=true then ((nat_Add.f x10 (⟨#[49]⟩:ByteArray)).bind fun t147=>((nat_Sub.f x144000 x11).bind fun bt148=>((whole_number_text.f t147 (x143001 != x144001)).bind fun t150=>(some (t150,bt148.1,true))))) else ((whole_number_text.f x10 (x143001 != x144001)).bind fun t151=>(some (t151,x11,true)))
end
def whole_Div.f (k:Nat) (a0 a1:ByteArray):Option (ByteArray×ByteArray×Bool):=(whole_both.f a0 a1).bind fun bt137=>(if bt137.2.2.2.2=true then (whole_Div.j0 k (bt137.2.2.1.toList == ([48]:List UInt8)) bt137.1 bt137.2.1 bt137.2.2.1 bt137.2.2.2.1) else (whole_Div.j0 k true bt137.1 bt137.2.1 bt137.2.2.1 bt137.2.2.2.1))
theorem whole_Div.calls (k:Nat) (a0 a1 r1 r2:ByteArray) (r3:Bool) (w:World) (hL_:Laid w) (h:whole_Div.f k a0 a1=some (r1,r2,r3)) :
  Calls Tryz.prog 160 #[.string a0,.string a1] w fun e w'=>e=.returned (.tuple #[.string r1,.string r2,.bool r3])∧Below w.heap.size w w':=by
 have hu107:=Tryz.underlying107;have HLD:=ak_ hL_;clear hL_;have HB:=ak_ (Below.refl w.heap.size w);have H:=h;unfold whole_Div.f at H;clear h;replace H:=bi_ H;obtain⟨⟨t137,t138,t139,t140,t141⟩,A3,H⟩:=H;(try dsimp only at H);have HC4:=ak_ H;clear H;go_in
 go_upto_region 2 with (first|(refine gm_ 16 Tryz.func175 (whole_both.calls _ _ _ _ _ _ _ _ A3.out) ?_;intro w5 hb;replace HB:=bs_ HB hb;(try clear hb))|(refine bf_ 7 #[.string ⟨#[]⟩,.bool false] 107 HB ?_;clear HB;intro gb142 w6 BK142 GW142 HB)|(refine bg_ 8 #[.string ⟨#[]⟩,.bool false] 107 HB ?_;clear HB;intro gb143 w7 hg hb BK143 GW143 HB;have NB142_143:=nl_ BK142 hg;have NB143_142:=ng_ BK142 hg;replace BK142:=kb_ BK142 hb;clear hb hg;have hnb8:=NB142_143.out;have hnc8:=NB143_142.out;have hz9142:=cs2_ BK142;have hz10143:=cs2_ BK143))
 (try simp only[Act.put,List.setIfInBounds_toArray,List.set_cons_zero,List.set_cons_succ])
 go_cut [26] (fun v26 wc=>∃ (kq:Nat) (x26_3:Bool),v26=.bool x26_3∧Aside0 (whole_Div.j0 kq x26_3 t137 t138 t139 t140=some (r1,r2,r3))∧Aside0 (kq≤k)∧Aside0 (wc.heap[gb142]?=some (.cells #[.string t137,.bool t138] 107 (0,0)))∧Aside0 (wc.heap[gb143]?=some (.cells #[.string t139,.bool t140] 107 (0,0)))∧Aside0 (Below w.heap.size w wc))
 case first =>
  have H:=HC4.out;clear HC4;replace H:=bt_ H;rcases H with ⟨rfl,H⟩|⟨rfl,H⟩
  ·have H':=ak_ H;clear H;have hnb12:=NB143_142.out;have hnc12:=NB142_143.out;have hz13:=cs2_ BK143;go_wp2
   go_meet
   case rel=>exact⟨_,((t139.toList == ([48]:List UInt8))),rl_,H',⟨nk_⟩,⟨by refine k_ ?_;refine blk_far ?_ NB142_143.out _;refine k_ ?_;refine blk_far ?_ NB142_143.out _;refine k_ ?_;refine blk_put (cs:=#[.string t137,.bool false]) ?_ 1 _ rfl;refine k_ ?_;refine blk_put (cs:=#[.string ⟨#[]⟩,.bool false]) ?_ 0 _ rfl;refine k_ ?_;exact BK142.out⟩,⟨by refine k_ ?_;refine blk_put (cs:=#[.string t139,.bool false]) ?_ 1 _ rfl;refine k_ ?_;refine blk_put (cs:=#[.string ⟨#[]⟩,.bool false]) ?_ 0 _ rfl;refine k_ ?_;refine blk_far ?_ NB143_142.out _;refine k_ ?_;refine blk_far ?_ NB143_142.out _;refine k_ ?_;exact BK143.out⟩,⟨b_ HB.out⟩⟩
  ·have H':=ak_ H;clear H;go_wp2
   go_meet
   case rel=>exact⟨_,(true),rl_,H',⟨nk_⟩,⟨by refine k_ ?_;refine blk_far ?_ NB142_143.out _;refine k_ ?_;refine blk_far ?_ NB142_143.out _;refine k_ ?_;refine blk_put (cs:=#[.string t137,.bool false]) ?_ 1 _ rfl;refine k_ ?_;refine blk_put (cs:=#[.string ⟨#[]⟩,.bool false]) ?_ 0 _ rfl;refine k_ ?_;exact BK142.out⟩,⟨by refine k_ ?_;refine blk_put (cs:=#[.string t139,.bool false]) ?_ 1 _ rfl;refine k_ ?_;refine blk_put (cs:=#[.string ⟨#[]⟩,.bool false]) ?_ 0 _ rfl;refine k_ ?_;refine blk_far ?_ NB143_142.out _;refine k_ ?_;refine blk_far ?_ NB143_142.out _;refine k_ ?_;exact BK143.out⟩,⟨b_ HB.out⟩⟩
 case rest =>
  clear HC4;(try clear hz10143);(try clear hz9142);obtain⟨kq,x26_3,rfl,HA,HJ3,BK142,BK143,HB⟩:=hcut
  cases kq with
  | zero=>exact absurd HA.out (by simp[whole_Div.j0])
  | succ kj3 =>
   have H:=HA.out;clear HA;simp only[whole_Div.j0] at H;replace H:=bt_ H;rcases H with ⟨rfl,H⟩|⟨rfl,H⟩
   ·replace H:=pi3_ H;obtain⟨rfl,rfl,rfl⟩:=H;go_wp2
    go_ret3
    exact⟨er_,b_ HB.out⟩
   ·replace H:=bi_ H;obtain⟨⟨t144,t145,t146⟩,A15,H⟩:=H;(try dsimp only at H);have HC16:=ak_ H;clear H;have hnb17:=NB142_143.out;have hnc17:=NB143_142.out;have hz18142:=cs2_ BK142;have hz19143:=cs2_ BK143
    go_upto_region 5 with (first|(refine gm_ 32 Tryz.func59 (nat_Div.calls _ _ _ _ _ _ (lb_ HLD HB) A15.out) ?_;intro w20 hb;replace BK142:=kb_ BK142 hb;replace BK143:=kb_ BK143 hb;replace HB:=bs_ HB hb;(try clear hb)))
    (try simp only[Act.put,List.setIfInBounds_toArray,List.set_cons_zero,List.set_cons_succ])
    go_cut [41] (fun v41 wc=>∃ (kq:Nat) (x41_15:Bool),v41=.bool x41_15∧Aside0 (whole_Div.j1 kq t144 t145 x41_15 t137 t138 t139 t140=some (r1,r2,r3))∧Aside0 (kq≤kj3)∧Aside0 (wc.heap[gb142]?=some (.cells #[.string t137,.bool t138] 107 (0,0)))∧Aside0 (wc.heap[gb143]?=some (.cells #[.string t139,.bool t140] 107 (0,0)))∧Aside0 (Below w.heap.size w wc))
    case first =>
     have H:=HC16.out;clear HC16;replace H:=bt_ H;rcases H with ⟨rfl,H⟩|⟨rfl,H⟩
     ·have H':=ak_ H;clear H;have hnb22:=NB142_143.out;have hnc22:=NB143_142.out;have hz23:=cs2_ BK142;go_wp2
      go_meet
      case rel=>exact⟨_,((t145.toList != ([48]:List UInt8))),rl_,H',⟨by have:=HJ3.out;first|omega|exact nr_ _⟩,⟨k_ BK142.out⟩,⟨k_ BK143.out⟩,⟨b_ HB.out⟩⟩
     ·have H':=ak_ H;clear H;have hnb24:=NB142_143.out;have hnc24:=NB143_142.out;have hz25:=cs2_ BK142;go_wp2
      go_meet
      case rel=>exact⟨_,(false),rl_,H',⟨by have:=HJ3.out;first|omega|exact nr_ _⟩,⟨k_ BK142.out⟩,⟨k_ BK143.out⟩,⟨b_ HB.out⟩⟩
    case rest =>
     clear HC16;(try clear hz10143);(try clear hz18142);(try clear hz19143);(try clear hz9142);obtain⟨kq,x41_15,rfl,HA,HJ15,BK142,BK143,HB⟩:=hcut
     cases kq with
     | zero=>exact absurd HA.out (by simp[whole_Div.j1])
     | succ kj15 =>
      have H:=HA.out;clear HA;simp only[whole_Div.j1] at H;replace H:=bt_ H;rcases H with ⟨rfl,H⟩|⟨rfl,H⟩
      ·replace H:=bi_ H;obtain⟨t147,A27,H⟩:=H;replace H:=bi_ H;obtain⟨⟨t148,t149⟩,A28,H⟩:=H;(try dsimp only at H);replace H:=bi_ H;obtain⟨t150,A29,H⟩:=H;replace H:=pi3_ H;obtain⟨rfl,rfl,rfl⟩:=H
       go_wp2_with (first|(refine gm_ 43 Tryz.func176 (nat_Add.calls _ _ _ _ (lb_ HLD HB) A27.out) ?_;intro w30 hb;replace BK142:=kb_ BK142 hb;replace BK143:=kb_ BK143 hb;replace HB:=bs_ HB hb;(try clear hb);have hnb31:=NB143_142.out;have hnc31:=NB142_143.out;have hz32:=cs2_ BK143)|(refine gm_ 48 Tryz.func177 (nat_Sub.calls _ _ _ _ _ (lb_ HLD HB) A28.out) ?_;intro w33 hb;replace BK142:=kb_ BK142 hb;replace BK143:=kb_ BK143 hb;replace HB:=bs_ HB hb;(try clear hb);have hz34142:=cs2_ BK142;have hz35143:=cs2_ BK143)|(refine gm_ 58 Tryz.func127 (whole_number_text.calls _ _ _ _ A29.out) ?_;intro w36 hb;replace BK142:=kb_ BK142 hb;replace BK143:=kb_ BK143 hb;replace HB:=bs_ HB hb;(try clear hb)))
       go_ret3
       exact⟨er_,b_ HB.out⟩
      ·replace H:=bi_ H;obtain⟨t151,A37,H⟩:=H;replace H:=pi3_ H;obtain⟨rfl,rfl,rfl⟩:=H;have hnb38:=NB142_143.out;have hnc38:=NB143_142.out;have hz39142:=cs2_ BK142;have hz40143:=cs2_ BK143
       go_wp2_with ((refine gm_ 58 Tryz.func127 (whole_number_text.calls _ _ _ _ A37.out) ?_;intro w41 hb;replace BK142:=kb_ BK142 hb;replace BK143:=kb_ BK143 hb;replace HB:=bs_ HB hb;(try clear hb)))
       go_ret3
       exact⟨er_,b_ HB.out⟩
end Pw
theorem cutW_f (a:ByteArray):Pw.strings_CutPrefix.f a ⟨#[45]⟩=some (amtB a,minusB a):=by
 unfold Pw.strings_CutPrefix.f Pw.stringslite_CutPrefix.f Pw.stringslite_HasPrefix.f
 have h1:((⟨#[45]⟩:ByteArray).size:Int)=1:=rfl
 have h1':(((⟨#[45]⟩:ByteArray).size:Int)).toNat=1:=rfl
 have h2:(⟨#[45]⟩:ByteArray).toList=[45]:=by rw[ByteArray.toList_eq]
 rw[h1',h1,h2,ByteArray.toList_eq]
 unfold amtB minusB
 have hs:=size_len a
 cases hl:a.data.toList with
 | nil =>
  rw[hl] at hs
  rw[if_neg (by rw[hs];decide),ob_]
  simp only[Bool.false_eq_true,if_false,ob_,cutL]
  congr 2
  apply bext
  rw[hl]
 | cons c r =>
  rw[hl] at hs
  have hsz:(1:Int)≤(a.size:Int):=by rw[hs,List.length_cons];omega
  have hx:(a.extract 0 1).data.toList=[c]:=by
   rw[Lib.extract_data,hl]
   rfl
  rw[if_pos hsz,if_pos (by decide),if_pos hsz,ob_,hx]
  by_cases hc:c=45
  ·subst hc
   rw[if_pos (by decide),if_pos (by decide),if_pos hsz]
   simp only[ob_,cutL]
   congr 2
   apply bext
   rw[Lib.extract_to_end,hl]
   rfl
  ·have hne:([c] == ([45]:List UInt8))=false:=by rw[beq_eq_false_iff_ne];simpa using hc
   rw[hne]
   simp only[Bool.false_eq_true,if_false,ob_]
   have e:cutL (c :: r)=(c :: r,false):=by
    unfold cutL
    split
    ·rename_i h
     injection h with h _
     exact absurd h hc
    ·rfl
   rw[e]
   congr 2
   apply bext
   rw[hl]
theorem amtB_size (a:ByteArray):(amtB a).size≤a.size:=by
 rw[size_len,size_len,amtB_list]
 unfold cutL
 split
 ·rename_i h;rw[h];simp
 ·exact nr_ _
theorem readW_f {a:ByteArray} (h:a.size≤50000):Pw.whole_read.f a=some (if mayW a=true then (amtB a,minusB a,true) else (noB,false,false)):=by
 unfold Pw.whole_read.f mayW
 rw[cutW_f,ob_]
 have hs:=amtB_size a
 rw[may_f (show sm (amtB a)=true from decide_eq_true (by omega)),ob_]
 cases hm:mayB (amtB a) with
 | false=>rfl
 | true =>
  simp only[if_true,Bool.true_and]
  cases hn:minusB a with
  | false=>rfl
  | true =>
   simp only[if_true,Bool.not_true,Bool.false_or]
   have h48:=list48 hm
   rw[← ByteArray.toList_eq] at h48
   by_cases hz:numB (amtB a)=0
   ·rw[if_pos (h48.2 hz),if_neg (by rw[hz];decide)]
    rfl
   ·rw[if_neg (fun e=>hz (h48.1 e)),if_pos (decide_eq_true hz)]
theorem readW_int {z:Int} (h:szI z≤50000):Pw.whole_read.f (intB z)=some (natB z.natAbs,decide (z<0),true):=by
 rw[readW_f h,if_pos (mayW_int z),amtB_int,minusB_int]
theorem readW_no {a:ByteArray} (h:a.size≤50000) (hm:¬ mayW a=true):Pw.whole_read.f a=some (noB,false,false):=by
 rw[readW_f h,if_neg hm]
theorem textW_f (b:Bool) {n:Nat} (h:sz n≤1000000):Pw.whole_number_text.f (natB n) b=some (intB (withS b n)):=by
 rw[← withS_text]
 unfold Pw.whole_number_text.f
 cases b with
 | false=>rfl
 | true =>
  simp only[if_true]
  by_cases hz:n=0
  ·rw[if_pos (natB_toList_zero.2 hz),if_pos hz]
  ·unfold sz at h
   rw[if_neg (fun e=>hz (natB_toList_zero.1 e)),if_neg hz,if_pos (by omega)]
theorem withS_int (z:Int):withS (decide (z<0)) z.natAbs=z:=by
 unfold withS
 by_cases h:z<0
 ·rw[if_pos (decide_eq_true h)];omega
 ·rw[if_neg (by rw[decide_eq_true_eq];exact h)];omega
theorem withS_not (z:Int):withS (!decide (z<0)) z.natAbs=-z:=by
 unfold withS
 by_cases h:z<0
 ·rw[decide_eq_true h,if_neg (by decide)];omega
 ·rw[decide_eq_false h,if_pos (by decide)];omega
theorem mayW_f {a:ByteArray} (h:a.size≤50000):Pw.whole_May.f a=some (mayW a):=by
 unfold Pw.whole_May.f
 rw[readW_f h,ob_]
 cases hm:mayW a <;> rfl
theorem absW_f {a:ByteArray} (h:a.size≤50000):Pw.whole_Abs.f a=some (wabsS a):=by
 unfold Pw.whole_Abs.f wabsS
 by_cases hm:mayW a=true
 ·obtain⟨z,rfl⟩:=of_mayW hm
  rw[readW_int h,if_pos hm,numW_int]
  rfl
 ·rw[readW_no h hm,if_neg hm]
  rfl
theorem negW_f {a:ByteArray} (h:a.size≤50000):Pw.whole_Neg.f a=some (wnegS a):=by
 unfold Pw.whole_Neg.f wnegS
 by_cases hm:mayW a=true
 ·obtain⟨z,rfl⟩:=of_mayW hm
  have h1:=le_szI z
  have h2:szI z≤50000:=h
  rw[readW_int h,ob_,if_pos rfl,if_pos hm,numW_int,textW_f _ (by omega),withS_not]
  rfl
 ·rw[readW_no h hm,if_neg hm]
  rfl
theorem signW_f {a:ByteArray} (h:a.size≤50000) (k:Nat):Pw.whole_Sign.f (k+1) a=some (wsignS a):=by
 unfold Pw.whole_Sign.f wsignS
 by_cases hm:mayW a=true
 ·obtain⟨z,rfl⟩:=of_mayW hm
  rw[readW_int h,ob_,if_pos rfl,if_pos hm,numW_int,natB_beq_zero]
  simp only[Pw.whole_Sign.j0]
  rcases (by omega:z<0∨z=0∨0<z) with hz|hz|hz
  ·rw[if_neg (by rw[decide_eq_true_eq];omega),if_pos (decide_eq_true hz),cmp_lt' hz]
  ·subst hz
   rfl
  ·rw[if_neg (by rw[decide_eq_true_eq];omega),if_neg (by rw[decide_eq_true_eq];omega),cmp_gt' hz]
 ·rw[readW_no h hm,if_neg hm]
  rfl
theorem may2W_and {a b:ByteArray}:may2W a b=true↔mayW a=true∧mayW b=true:=by unfold may2W;rw[Bool.and_eq_true]
theorem bothW_int {x y:Int} (hx:szI x≤50000) (hy:szI y≤50000):Pw.whole_both.f (intB x) (intB y)=some (natB x.natAbs,decide (x<0),natB y.natAbs,decide (y<0),true):=by
 unfold Pw.whole_both.f
 rw[readW_int hx,ob_,readW_int hy,ob_,if_pos rfl]
theorem bothW_no {a b:ByteArray} (ha:a.size≤50000) (hb:b.size≤50000) (hm:¬ may2W a b=true):∃ p q r s,Pw.whole_both.f a b=some (p,q,r,s,false):=by
 unfold Pw.whole_both.f
 rw[readW_f ha,ob_,readW_f hb,ob_]
 by_cases h1:mayW a=true
 ·have h2:¬ mayW b=true:=fun h2=>hm (may2W_and.2 ⟨h1,h2⟩)
  rw[if_pos h1,if_neg h2,if_pos rfl]
  exact⟨_,_,_,_,rfl⟩
 ·rw[if_neg h1,if_neg (by decide)]
  exact⟨_,_,_,_,rfl⟩
theorem may2W_int (x y:Int):may2W (intB x) (intB y)=true:=may2W_and.2 ⟨mayW_int x,mayW_int y⟩
theorem casesW (a b:ByteArray):(∃ x y,a=intB x∧b=intB y)∨¬ may2W a b=true:=by
 by_cases h:may2W a b=true
 ·obtain⟨h1,h2⟩:=may2W_and.1 h
  obtain⟨x,hx⟩:=of_mayW h1
  obtain⟨y,hy⟩:=of_mayW h2
  exact .inl ⟨x,y,hx,hy⟩
 ·exact .inr h
theorem divW_f {a b:ByteArray} (ha:a.size≤49990) (hb:b.size≤49990) (k:Nat):Pw.whole_Div.f (k+2) a b=some (wdivS a b):=by
 unfold Pw.whole_Div.f wdivS
 rcases casesW a b with ⟨x,y,rfl,rfl⟩|hm
 ·have h1:=le_szI x
  have h2:=le_szI y
  have h3:szI x≤49990:=ha
  have h4:szI y≤49990:=hb
  rw[bothW_int (by omega) (by omega),ob_,if_pos rfl,natB_beq_zero,may2W_int,Bool.true_and,numW_int,numW_int]
  show Pw.whole_Div.j0 (k+1+1) _ _ _ _ _ = _
  simp only[Pw.whole_Div.j0]
  by_cases hy:y=0
  ·subst hy
   rfl
  ·have hy':y.natAbs≠0:=by omega
   have hd:=divW (m:=x.natAbs) hy' (decide (x<0)) (decide (y<0)) (by intro h;rw[decide_eq_true_eq] at h;omega)
   rw[withS_int,withS_int] at hd
   have s1:=sz_mono (Nat.div_le_self x.natAbs y.natAbs)
   have s2:=sz_mono (Nat.mod_le x.natAbs y.natAbs)
   have hlt:=Nat.mod_lt x.natAbs (show 0<y.natAbs by omega)
   rw[if_neg (by rw[decide_eq_true_eq];exact hy'),if_pos (decide_eq_true hy),fDiv (by omega) (by omega) hy',ob_,hd.1,hd.2]
   clear hd
   generalize x.natAbs / y.natAbs=q at *
   generalize x.natAbs % y.natAbs=r at *
   have one1:sz 1≤1:=sz_le (by omega) (by omega)
   have s3:=sz_add q 1
   by_cases hx:x<0
   ·rw[if_pos (decide_eq_true hx)]
    simp only[Pw.whole_Div.j1]
    by_cases hr:r=0
    ·subst hr
     rw[if_neg (by have:=natB_beq_zero 0;simp[bne,this]),textW_f _ (by omega),ob_,if_neg (by simp),if_neg (by simp)]
     rw[show ((0:Nat):Int)=((0:Nat):Int) from rfl,intB_nat]
    ·rw[if_pos (by have:=natB_beq_zero r;simp[bne,this,hr]),← natB_one,fAdd (by omega) (by omega),ob_,fSub (by omega) (by omega),ob_,if_pos (by omega),textW_f _ (by omega),ob_,if_pos ⟨decide_eq_true hx,hr⟩,if_pos ⟨decide_eq_true hx,hr⟩,intB_nat]
   ·rw[if_neg (by rw[decide_eq_true_eq];exact hx)]
    simp only[Pw.whole_Div.j1]
    have hf:¬ (decide (x<0)=true∧r≠0):=fun e=>hx (od_ e.1)
    rw[if_neg (by decide),textW_f _ (by omega),ob_,if_neg hf,if_neg hf,intB_nat]
 ·obtain⟨p,q,r,s,e⟩:=bothW_no (Nat.le_trans ha (by omega)) (Nat.le_trans hb (by omega)) hm
  rw[e,ob_,if_neg (show ¬ ((p,q,r,s,false):ByteArray×Bool×ByteArray×Bool×Bool).2.2.2.2=true from Bool.false_ne_true),(Bool.not_eq_true _).mp hm]
  simp only[Pw.whole_Div.j0]
  rfl
theorem ofW_f (n:Int) (h0:-9223372036854775808≤n) (h1:n≤9223372036854775807):Pw.whole_Of.f n=some (itoaB n):=by
 unfold Pw.whole_Of.f strconv_Itoa.f
 rw[if_pos ⟨h0,h1⟩]
 rfl
def smw (s:ByteArray):Bool:=decide (s.size≤49990)
def smw2 (a b:ByteArray):Bool:=smw a&&smw b
theorem smw_le {s:ByteArray} (h:smw s=true):s.size≤49990:=od_ h
theorem smw2_le {a b:ByteArray} (h:smw2 a b=true):a.size≤49990∧b.size≤49990:=by
 unfold smw2 at h
 rw[Bool.and_eq_true] at h
 exact⟨smw_le h.1,smw_le h.2⟩
theorem itoaB_int (n:Int):itoaB n=intB n:=by
 apply bext
 unfold itoaB intB Lib.itoa
 by_cases h:n<0
 ·rw[if_pos h,if_pos h,Joins.data_append,natB_list]
  rfl
 ·rw[if_neg h,if_neg h,natB_list]
  have e:n.toNat=n.natAbs:=by omega
  rw[e]
def whole_May.f (a0:ByteArray):Option Bool:=if smw a0=true then some (mayW a0) else none
theorem whole_May.calls (a0:ByteArray) (r:Bool) (w:World) (h:whole_May.f a0=some r) :
  Calls Tryz.prog 98 #[.string a0] w fun e w'=>e=.returned (.bool r)∧Below w.heap.size w w':=by
 unfold whole_May.f at h
 split at h
 ·rename_i hp
  have hs:=smw_le hp
  rw[← mayW_f (by omega)] at h
  exact Pw.whole_May.calls a0 r w h
 ·cases h
def whole_Of.f (a0:Int):Option ByteArray:=if -9223372036854775808≤a0∧a0≤9223372036854775807 then some (intB a0) else none
theorem whole_Of.calls (a0:Int) (r:ByteArray) (w:World) (hL_:Laid w) (h:whole_Of.f a0=some r) :
  Calls Tryz.prog 81 #[.int .i64 a0] w fun e w'=>e=.returned (.string r)∧Below w.heap.size w w':=by
 unfold whole_Of.f at h
 split at h
 ·rename_i hp
  rw[← itoaB_int,← ofW_f a0 hp.1 hp.2] at h
  exact Pw.whole_Of.calls a0 r w hL_ h
 ·cases h
def whole_Sign.f (a0:ByteArray):Option Int:=if smw a0=true then some (wsignS a0) else none
theorem whole_Sign.calls (a0:ByteArray) (r:Int) (w:World) (h:whole_Sign.f a0=some r) :
  Calls Tryz.prog 64 #[.string a0] w fun e w'=>e=.returned (.int .i64 r)∧Below w.heap.size w w':=by
 unfold whole_Sign.f at h
 split at h
 ·rename_i hp
  have hs:=smw_le hp
  rw[← signW_f (by omega) 0] at h
  exact Pw.whole_Sign.calls _ a0 r w h
 ·cases h
def whole_Abs.f (a0:ByteArray):Option ByteArray:=if smw a0=true then some (wabsS a0) else none
theorem whole_Abs.calls (a0 r:ByteArray) (w:World) (h:whole_Abs.f a0=some r) :
  Calls Tryz.prog 62 #[.string a0] w fun e w'=>e=.returned (.string r)∧Below w.heap.size w w':=by
 unfold whole_Abs.f at h
 split at h
 ·rename_i hp
  have hs:=smw_le hp
  rw[← absW_f (by omega)] at h
  exact Pw.whole_Abs.calls a0 r w h
 ·cases h
def whole_Neg.f (a0:ByteArray):Option ByteArray:=if smw a0=true then some (wnegS a0) else none
theorem whole_Neg.calls (a0 r:ByteArray) (w:World) (h:whole_Neg.f a0=some r) :
  Calls Tryz.prog 86 #[.string a0] w fun e w'=>e=.returned (.string r)∧Below w.heap.size w w':=by
 unfold whole_Neg.f at h
 split at h
 ·rename_i hp
  have hs:=smw_le hp
  rw[← negW_f (by omega)] at h
  exact Pw.whole_Neg.calls a0 r w h
 ·cases h
def whole_Div.f (a0 a1:ByteArray):Option (ByteArray×ByteArray×Bool):=if smw2 a0 a1=true then some (wdivS a0 a1) else none
theorem whole_Div.calls (a0 a1 r1 r2:ByteArray) (r3:Bool) (w:World) (hL_:Laid w) (h:whole_Div.f a0 a1=some (r1,r2,r3)) :
  Calls Tryz.prog 160 #[.string a0,.string a1] w fun e w'=>e=.returned (.tuple #[.string r1,.string r2,.bool r3])∧Below w.heap.size w w':=by
 unfold whole_Div.f at h
 split at h
 ·rename_i hp
  have hs:=smw2_le hp
  rw[← divW_f hs.1 hs.2 0] at h
  exact Pw.whole_Div.calls _ a0 a1 r1 r2 r3 w hL_ h
 ·cases h
theorem at_f (s:ByteArray) (hs:s.size≤4611686018427387904) (hd:s.data.toList.all isDig=true) (i:Nat) (hi:i≤4611686018427387904):Pq.r1_at.f s (i:Int)=some (limb (dl s) i):=by
 unfold Pq.r1_at.f
 by_cases h:s.size≤i
 ·rw[if_pos (by omega),limb_out (by rw[dl_length];exact h)]
 ·have e:wrap64 (wrap64 ((s.size:Int)-1)-(i:Int))=((s.size-1-i:Nat):Int):=by
   rw[w64 (x:=(s.size:Int)-1) (by omega) (by omega),w64 (by omega) (by omega)]
   omega
  rw[if_neg (by omega),e,if_pos (by omega),if_pos (by omega)]
  obtain⟨c,hc,hb⟩:=bt_get s (s.size-1-i) (by omega)
  have hcd:=isDig_bounds (List.all_eq_true.1 hd c (List.mem_of_getElem? hc))
  rw[hb]
  have e2:((c.toNat:Int)-48) % 256=(c.toNat:Int)-48:=Int.emod_eq_of_lt (by omega) (by omega)
  rw[e2]
  have e3:limb (dl s) i=(c.toNat:Int)-48:=by
   unfold limb dl
   rw[List.getD_eq_getElem?_getD,List.getElem?_map,List.getElem?_reverse (by rw[← size_len];omega),← size_len,hc]
   rfl
  rw[e3]
theorem trim_loop (s:ByteArray) (hs:s.size≤4611686018427387904):∀ (d i:Nat),i+d=s.size→∀ k,d+1≤k→Pq.r1_trim.l0 k s (i:Int)=some ⟨(strip (s.data.toList.drop i)).toArray⟩
 | 0,i,hi,k,hk=>by
  obtain⟨k,rfl⟩:∃ m,k=m+1:=⟨k-1,by omega⟩
  simp only[Pq.r1_trim.l0]
  rw[w64 (by omega) (by omega),if_neg (by omega),if_pos (by omega),if_pos (by omega),Int.toNat_natCast]
  congr 1
  apply bmk
  rw[Lib.extract_to_end,List.drop_of_length_le (by rw[← size_len];omega)]
  rfl
 | d+1,i,hi,k,hk=>by
  obtain⟨k,rfl⟩:∃ m,k=m+1:=⟨k-1,by omega⟩
  simp only[Pq.r1_trim.l0]
  have hil:i<s.data.toList.length:=by rw[← size_len];omega
  have stop:∀ l:List UInt8,strip (s.data.toList.drop i)=s.data.toList.drop i→some (s.extract (i:Int).toNat s.size)=some (⟨(strip (s.data.toList.drop i)).toArray⟩:ByteArray):=by
   intro _ h
   congr 1
   apply bmk
   rw[Int.toNat_natCast,Lib.extract_to_end,h]
  rw[w64 (by omega) (by omega)]
  by_cases h0:d=0
  ·rw[if_neg (by omega),if_pos (by omega),if_pos (by omega)]
   refine stop [] ?_
   rw[List.drop_eq_getElem_cons hil,List.drop_of_length_le (by rw[← size_len];omega)]
   rfl
  ·rw[if_pos (by omega),if_pos (by omega),if_pos (by omega)]
   obtain⟨c,hc,hb⟩:=bt_get s i (by omega)
   have hcc:s.data.toList[i]=c:=by
    rw[List.getElem?_eq_getElem hil] at hc
    exact Option.some.inj hc
   have hil2:i+1<s.data.toList.length:=by rw[← size_len];omega
   have hdrop:s.data.toList.drop i=c :: s.data.toList[i+1] :: s.data.toList.drop (i+2):=by
    rw[List.drop_eq_getElem_cons hil,hcc,List.drop_eq_getElem_cons hil2]
   rw[hb]
   by_cases h1:(c.toNat:Int)=48
   ·have h2:c=48:=UInt8.toNat_inj.1 (by rw[show (48:UInt8).toNat=48 from rfl];omega)
    rw[if_pos h1,show ((i:Int)+1)=((i+1:Nat):Int) by omega,trim_loop s hs d (i+1) (by omega) k (by omega),hdrop,strip,if_pos h2,List.drop_eq_getElem_cons hil2]
   ·rw[if_neg h1,if_pos (by omega)]
    refine stop [] ?_
    have h2:¬ c=48:=by rintro rfl;exact h1 rfl
    rw[hdrop,strip,if_neg h2]
theorem trim_f (s:ByteArray) (hs:s.size≤4611686018427387904) (k:Nat) (hk:s.size+1≤k) (h:s.data.toList≠[]) (hd:s.data.toList.all isDig=true):Pq.r1_trim.f k s=some (natB (numB s)):=by
 unfold Pq.r1_trim.f
 have:=trim_loop s hs s.size 0 (by omega) k (by omega)
 rw[List.drop_zero,strip_dig h hd] at this
 exact this
theorem rcmp_end {a b:ByteArray} (ha:mayB a=true) (hb:mayB b=true) (k:Nat):Pq.r1_Cmp.j0 (k+1) a b (a.toList == b.toList)=some (cmpS a b):=by
 simp only[Pq.r1_Cmp.j0]
 rw[ByteArray.toList_eq,ByteArray.toList_eq]
 unfold cmpS may2
 rw[ha,hb,if_pos (show (true&&true)=true from rfl)]
 by_cases h:a.data.toList=b.data.toList
 ·rw[if_pos (by rw[beq_iff_eq];exact h)]
  have:numB a=numB b:=by unfold numB;rw[h]
  rw[cmpI_eq this]
 ·rw[if_neg (by rw[beq_iff_eq];exact h)]
  have hne:numB a≠numB b:=fun e=>h (num_inj ha hb e)
  by_cases h1:a.size<b.size
  ·rw[if_pos (by omega),cmpI_lt (num_shorter ha hb h1)]
  ·rw[if_neg (by omega)]
   by_cases h2:a.size=b.size
   ·rw[if_pos (by omega)]
    have h3:=less_num a.data.toList b.data.toList (by rw[← size_len,← size_len];exact h2) (may_all ha) (may_all hb)
    by_cases h4:num a.data.toList<num b.data.toList
    ·have e5:Lib.compareInt (numB a:Int) (numB b:Int)=-1:=cmpI_lt h4
     rw[if_pos (h3.2 h4),e5]
    ·rw[if_neg (fun e=>h4 (h3.1 e)),cmpI_gt]
     unfold numB at hne ⊢
     omega
   ·rw[if_neg (by omega),cmpI_gt (num_shorter hb ha (by omega))]
theorem rcmp_f {a b:ByteArray} {N:Nat} (hN:N≤4611686018427387904) (ha:a.size≤N) (hb:b.size≤N) (k:Nat) (hk:N+1≤k):Pq.r1_Cmp.f k a b=some (cmpS a b):=by
 obtain⟨k,rfl⟩:∃ m,k=m+1:=⟨k-1,by omega⟩
 unfold Pq.r1_Cmp.f
 rw[rmay_f a (by omega) _ (by omega),ob_]
 by_cases h1:mayB a=true
 ·rw[if_pos h1,rmay_f b (by omega) _ (by omega),ob_]
  by_cases h2:mayB b=true
  ·rw[if_pos h2,rcmp_end h1 h2]
  ·rw[if_neg h2,cmpS_no (by unfold may2;rw[(Bool.not_eq_true _).mp h2,Bool.and_false])]
   rfl
 ·rw[if_neg h1,cmpS_no (by unfold may2;rw[(Bool.not_eq_true _).mp h1,Bool.false_and])]
  rfl
def Code10 (l:List Int):Prop:=∀ x∈l,48≤x∧x≤57
def cnum (l:List Int):Int:=ten (l.reverse.map fun x=>x-48)
theorem cnum_cons (v:Int) (T:List Int):cnum (v :: T)=cnum T+10 ^ T.length * (v-48):=by
 unfold cnum
 rw[List.reverse_cons,List.map_append,ten_append,List.length_map,List.length_reverse]
 simp[ten]
theorem code_cons {v:Int} {T:List Int} (h0:48≤v) (h1:v≤57) (h:Code10 T):Code10 (v :: T):=by
 intro x hx
 rcases List.mem_cons.1 hx with rfl|hx
 ·exact⟨h0,h1⟩
 ·exact h x hx
theorem code_nil:Code10 []:=by intro x h;cases h
theorem cnum_lt {T:List Int} (h:Code10 T):0≤cnum T∧cnum T<10 ^ T.length:=by
 have h1:=ten_lt (l:=T.reverse.map fun x=>x-48) (by
  intro x hx
  rw[List.mem_map] at hx
  obtain⟨y,hy,rfl⟩:=hx
  have:=h y (List.mem_reverse.1 hy)
  omega)
 rw[List.length_map,List.length_reverse] at h1
 exact h1
theorem code_byte {x:Int} (h0:48≤x) (h1:x≤57):isDig (UInt8.ofNat x.toNat)=true∧((UInt8.ofNat x.toNat).toNat:Int)=x:=by
 have e:(UInt8.ofNat x.toNat).toNat=x.toNat:=by
  rw[UInt8.toNat_ofNat']
  exact Nat.mod_eq_of_lt (by omega)
 refine⟨?_,by rw[e];omega⟩
 unfold isDig
 rw[e]
 simp
 omega
theorem code_all {T:List Int} (h:Code10 T):(strOfNums T).data.toList.all isDig=true:=by
 rw[strOfNums_data,List.all_eq_true]
 intro c hc
 rw[List.mem_map] at hc
 obtain⟨x,hx,rfl⟩:=hc
 exact(code_byte (h x hx).1 (h x hx).2).1
theorem code_num {T:List Int} (h:Code10 T):(numB (strOfNums T):Int)=cnum T:=by
 rw[← ten_dl (code_all h)]
 unfold dl cnum
 rw[strOfNums_data,← List.map_reverse,List.map_map]
 congr 1
 apply List.map_congr_left
 intro x hx
 have:=h x (List.mem_reverse.1 hx)
 have:=(code_byte this.1 this.2).2
 simp only[Function.comp]
 omega
theorem code_trim {T:List Int} (h:Code10 T) (h1:T≠[]) {n:Nat} (hn:cnum T=n) (hl:T.length≤4611686018427387904) (k:Nat) (hk:T.length+1≤k):Pq.r1_trim.f k (strOfNums T)=some (natB n):=by
 have h2:=trim_f (strOfNums T) (by rw[strOfNums_size];exact hl) k (by rw[strOfNums_size];exact hk) (by rw[strOfNums_data];simpa using h1) (code_all h)
 have h3:=code_num h
 rw[hn] at h3
 rw[h2,Int.ofNat_inj.1 h3]
theorem set_rep (m:Nat) (T:List Int) (v:Int):(List.replicate (m+1) 0++T).set m v=List.replicate m 0++v :: T:=by
 rw[List.set_append_left _ _ (by simp)]
 have:(List.replicate (m+1) (0:Int)).set m v=List.replicate m 0 ++ [v]:=by
  induction m with
  | zero=>rfl
  | succ m ih=>rw[List.replicate_succ,List.set_cons_succ,ih];rfl
 rw[this,List.append_assoc]
 rfl
theorem radd_loop {a b:ByteArray} {n s:Nat} (hd1:a.data.toList.all isDig=true) (hd2:b.data.toList.all isDig=true) (hn:n≤1000000000) (h1:a.size≤n) (h2:b.size≤n) (hs:(s:Int)=ten (dl a)+ten (dl b)) (hlt:(s:Int)<10 ^ n) (hn0:0<n) :
  ∀ (d i:Nat),i+d=n→∀ (T:List Int) (c:Int) (k:Nat),d+n+2≤k→Code10 T→T.length=i→0≤c→c≤1→cnum T+10 ^ i * c=ten ((dl a).take i)+ten ((dl b).take i) →
   Pq.r1_Add.l0 k a b (n:Int) (List.replicate d 0++T) c (i:Int)=some (natB s)
 | 0,i,hi,T,c,k,hk,hT,hl,hc0,hc1,hv=>by
  obtain⟨k,rfl⟩:∃ m,k=m+1:=⟨k-1,by omega⟩
  obtain rfl:i=n:=by omega
  simp only[Pq.r1_Add.l0]
  rw[if_neg (by omega)]
  rw[List.take_of_length_le (by rw[dl_length];exact h1),List.take_of_length_le (by rw[dl_length];exact h2),← hs] at hv
  have h3:=cnum_lt hT
  have h4:c=0:=by
   rcases (by omega:c=0∨c=1) with h|rfl
   ·exact h
   ·exfalso
    omega
  subst h4
  rw[Int.mul_zero,Int.add_zero] at hv
  rw[List.replicate_zero,List.nil_append,code_trim hT (by intro e;rw[e] at hl;simp at hl;omega) hv (by omega) _ (by omega)]
  rfl
 | d+1,i,hi,T,c,k,hk,hT,hl,hc0,hc1,hv=>by
  obtain⟨k,rfl⟩:∃ m,k=m+1:=⟨k-1,by omega⟩
  simp only[Pq.r1_Add.l0]
  have e1:wrap64 (wrap64 ((n:Int)-1)-(i:Int))=(d:Int):=by
   rw[w64 (x:=(n:Int)-1) (by omega) (by omega),w64 (by omega) (by omega)]
   omega
  rw[if_pos (by omega),at_f a (by omega) hd1 i (by omega),ob_,at_f b (by omega) hd2 i (by omega),ob_,e1,if_pos (by omega),if_pos (by rw[List.length_append,List.length_replicate];omega),Int.toNat_natCast,set_rep]
  have h3:=dig_limb (dl_dig hd1) i
  have h4:=dig_limb (dl_dig hd2) i
  have h5:=ten_take_succ (dl a) i
  have h6:=ten_take_succ (dl b) i
  generalize limb (dl a) i=x at *
  generalize limb (dl b) i=y at *
  rw[w64 (x:=x+y) (by omega) (by omega),w64 (x:=x+y+c) (by omega) (by omega),Int.tmod_eq_emod_of_nonneg (by omega),Int.tdiv_eq_ediv_of_nonneg (by omega),w64 (x:=48+(x+y+c) % 10) (by omega) (by omega),w64 (x:=(x+y+c) / 10) (by omega) (by omega),w64 (x:=(i:Int)+1) (by omega) (by omega)]
  rw[Int.emod_eq_of_lt (a:=48+(x+y+c) % 10) (by omega) (by omega)]
  refine radd_loop hd1 hd2 hn h1 h2 hs hlt hn0 d (i+1) (by omega) _ _ k (by omega) (code_cons (by omega) (by omega) hT) (by simp[hl]) (by omega) (by omega) ?_
  rw[cnum_cons,hl,h5,h6,Int.pow_succ]
  have e2:=Int.mul_ediv_add_emod (x+y+c) 10
  generalize (x+y+c) / 10=q at *
  generalize (x+y+c) % 10=r at *
  generalize (10:Int) ^ i=p at *
  have e3:r=x+y+c-10 * q:=by omega
  subst e3
  grind
theorem radd_f {a b:ByteArray} {N:Nat} (hN:N≤100000000) (ha:a.size≤N) (hb:b.size≤N) (k:Nat) (hk:2 * N+10≤k):Pq.r1_Add.f k a b=some (addS a b):=by
 obtain⟨k,rfl⟩:∃ m,k=m+1:=⟨k-1,by omega⟩
 unfold Pq.r1_Add.f
 rw[rmay_f a (by omega) _ (by omega),ob_]
 by_cases h1:mayB a=true
 ·rw[if_pos h1,rmay_f b (by omega) _ (by omega),ob_]
  by_cases h2:mayB b=true
  ·rw[h2]
   simp only[Pq.r1_Add.j0]
   unfold addS
   rw[if_pos (may2_eq h1 h2),if_neg (by decide)]
   have hn:wrap64 (mx (a.size:Int) (b.size:Int)+1)=((max a.size b.size+1:Nat):Int):=by
    rw[mx_nat,w64 (by omega) (by omega)]
    omega
   rw[hn,if_pos (by omega),if_pos (by omega),Int.toNat_natCast]
   have ta:=ten_dl (may_all h1)
   have tb:=ten_dl (may_all h2)
   have la:=(ten_lt (dl_dig (may_all h1))).2
   have lb:=(ten_lt (dl_dig (may_all h2))).2
   rw[dl_length] at la lb
   have pa:=p10_mono (a:=a.size) (b:=max a.size b.size) (by omega)
   have pb:=p10_mono (a:=b.size) (b:=max a.size b.size) (by omega)
   have:=radd_loop (s:=numB a+numB b) (n:=max a.size b.size+1) (may_all h1) (may_all h2) (by omega) (by omega) (by omega) (by rw[ta,tb];omega) (by rw[Int.pow_succ];omega) (by omega) (max a.size b.size+1) 0 (by omega) [] 0 k (by omega) code_nil rfl (by omega) (by omega) (by simp[cnum,ten])
   rw[List.append_nil] at this
   exact this
  ·rw[(Bool.not_eq_true _).mp h2]
   unfold addS
   rw[if_neg (may2_no2 h2)]
   rfl
 ·rw[if_neg h1]
  unfold addS
  rw[if_neg (may2_no1 h1)]
  rfl
theorem rsub_loop {a b:ByteArray} {n s:Nat} (hd1:a.data.toList.all isDig=true) (hd2:b.data.toList.all isDig=true) (hn:n≤1000000000) (h1:a.size=n) (h2:b.size≤n) (hs:(s:Int)=ten (dl a)-ten (dl b)) (hn0:0<n) :
  ∀ (d i:Nat),i+d=n→∀ (T:List Int) (c:Int) (k:Nat),d+n+2≤k→Code10 T→T.length=i→0≤c→c≤1→cnum T-10 ^ i * c=ten ((dl a).take i)-ten ((dl b).take i) →
   Pq.r1_Sub.l0 k a b (List.replicate d 0++T) c (i:Int)=some (natB s,true)
 | 0,i,hi,T,c,k,hk,hT,hl,hc0,hc1,hv=>by
  obtain⟨k,rfl⟩:∃ m,k=m+1:=⟨k-1,by omega⟩
  obtain rfl:i=n:=by omega
  simp only[Pq.r1_Sub.l0]
  rw[if_neg (by omega)]
  rw[List.take_of_length_le (by rw[dl_length];omega),List.take_of_length_le (by rw[dl_length];exact h2),← hs] at hv
  have h3:=cnum_lt hT
  rw[hl] at h3
  have h4:c=0:=by
   rcases (by omega:c=0∨c=1) with h|rfl
   ·exact h
   ·exfalso
    omega
  subst h4
  rw[Int.mul_zero,Int.sub_zero] at hv
  rw[List.replicate_zero,List.nil_append,code_trim hT (by intro e;rw[e] at hl;simp at hl;omega) hv (by omega) _ (by omega)]
  rfl
 | d+1,i,hi,T,c,k,hk,hT,hl,hc0,hc1,hv=>by
  obtain⟨k,rfl⟩:∃ m,k=m+1:=⟨k-1,by omega⟩
  simp only[Pq.r1_Sub.l0]
  have e1:wrap64 (wrap64 ((a.size:Int)-1)-(i:Int))=(d:Int):=by
   rw[w64 (x:=(a.size:Int)-1) (by omega) (by omega),w64 (by omega) (by omega)]
   omega
  rw[if_pos (by omega),at_f a (by omega) hd1 i (by omega),ob_,at_f b (by omega) hd2 i (by omega),ob_,e1]
  have g1:(0:Int)≤(d:Int):=by omega
  have g2:(d:Int)<((List.replicate (d+1) (0:Int)++T).length:Int):=by rw[List.length_append,List.length_replicate];omega
  rw[if_pos g1,if_pos g1,if_pos g2,if_pos g2,Int.toNat_natCast,set_rep,set_rep]
  have h3:=dig_limb (dl_dig hd1) i
  have h4:=dig_limb (dl_dig hd2) i
  have h5:=ten_take_succ (dl a) i
  have h6:=ten_take_succ (dl b) i
  generalize limb (dl a) i=x at *
  generalize limb (dl b) i=y at *
  have key:∀ v c':Int,48≤v→v≤57→0≤c'→c'≤1→v-48-10 * c'=x-y-c→Pq.r1_Sub.l0 k a b (List.replicate d 0++v :: T) c' ((i+1:Nat):Int)=some (natB s,true):=by
   intro v c' hv0 hv1 hc0' hc1' he
   refine rsub_loop hd1 hd2 hn h1 h2 hs hn0 d (i+1) (by omega) _ _ k (by omega) (code_cons hv0 hv1 hT) (by simp[hl]) hc0' hc1' ?_
   rw[cnum_cons,hl,h5,h6,Int.pow_succ]
   generalize (10:Int) ^ i=p at *
   have e3:v=x-y-c+48+10 * c':=by omega
   subst e3
   grind
  have ei:wrap64 ((i:Int)+1)=((i+1:Nat):Int):=by rw[w64 (by omega) (by omega)];omega
  rw[ei,w64 (x:=x-y) (by omega) (by omega),w64 (x:=x-y-c) (by omega) (by omega)]
  by_cases hneg:x-y-c<0
  ·rw[if_pos hneg,w64 (x:=x-y-c+10) (by omega) (by omega),w64 (x:=48+(x-y-c+10)) (by omega) (by omega),Int.emod_eq_of_lt (a:=48+(x-y-c+10)) (by omega) (by omega)]
   exact key _ _ (by omega) (by omega) (by omega) (by omega) (by omega)
  ·rw[if_neg hneg,w64 (x:=48+(x-y-c)) (by omega) (by omega),Int.emod_eq_of_lt (a:=48+(x-y-c)) (by omega) (by omega)]
   exact key _ _ (by omega) (by omega) (by omega) (by omega) (by omega)
theorem rsub_f {a b:ByteArray} {N:Nat} (hN:N≤100000000) (ha:a.size≤N) (hb:b.size≤N) (k:Nat) (hk:2 * N+10≤k):Pq.r1_Sub.f k a b=some (subS a b):=by
 obtain⟨k,rfl⟩:∃ m,k=m+1:=⟨k-1,by omega⟩
 unfold Pq.r1_Sub.f
 rw[rmay_f a (by omega) _ (by omega),ob_]
 by_cases h1:mayB a=true
 ·rw[if_pos h1,rmay_f b (by omega) _ (by omega),ob_]
  by_cases h2:mayB b=true
  ·rw[if_pos h2,rcmp_f (N:=N) (by omega) ha hb _ (by omega),ob_]
   simp only[Pq.r1_Sub.j0]
   unfold subS cmpS
   rw[may2_eq h1 h2,if_pos rfl]
   by_cases hc:numB b≤numB a
   ·rw[if_neg (by rw[decide_eq_true_eq,cmpI_neg];omega),if_pos (by omega),if_pos (by omega),if_pos (by rw[decide_eq_true hc];rfl),Int.toNat_natCast]
    have ta:=ten_dl (may_all h1)
    have tb:=ten_dl (may_all h2)
    have hsz:b.size≤a.size:=by
     rcases Nat.lt_or_ge a.size b.size with h|h
     ·have:=num_shorter h1 h2 h
      omega
     ·exact h
    have:=rsub_loop (s:=numB a-numB b) (n:=a.size) (may_all h1) (may_all h2) (by omega) rfl hsz (by rw[ta,tb];omega) (may_pos h1) a.size 0 (by omega) [] 0 k (by omega) code_nil rfl (by omega) (by omega) (by simp[cnum,ten])
    rw[List.append_nil] at this
    exact this
   ·rw[if_pos (by rw[decide_eq_true_eq,cmpI_neg];omega),if_neg (by rw[decide_eq_false hc];decide)]
    rfl
  ·rw[if_neg h2]
   unfold subS
   rw[(Bool.not_eq_true _).mp (may2_no2 (a:=a) h2)]
   rfl
 ·rw[if_neg h1]
  unfold subS
  rw[(Bool.not_eq_true _).mp (may2_no1 (b:=b) h1)]
  rfl
def Cells (M:Int) (l:List Int):Prop:=∀ x∈l,0≤x∧x≤M
theorem cells_mono {M M':Int} {l:List Int} (h:Cells M l) (hm:M≤M'):Cells M' l:=fun x hx=>⟨(h x hx).1,by have:=(h x hx).2;omega⟩
theorem cells_set {M:Int} {l:List Int} (h:Cells M l) (j:Nat) {v:Int} (h0:0≤v) (h1:v≤M):Cells M (l.set j v):=by
 intro x hx
 rcases List.mem_or_eq_of_mem_set hx with hx|rfl
 ·exact h x hx
 ·exact⟨h0,h1⟩
theorem cells_limb {M:Int} {l:List Int} (h:Cells M l) (hM:0≤M) (i:Nat):0≤limb l i∧limb l i≤M:=by
 unfold limb
 rw[List.getD_eq_getElem?_getD]
 cases hx:l[i]? with
 | none=>exact⟨Int.le_refl _,hM⟩
 | some x=>exact h x (List.mem_of_getElem? hx)
theorem cells_rep (n:Nat):Cells 0 (List.replicate n 0):=by
 intro x hx
 rw[List.eq_of_mem_replicate hx]
 decide
theorem dig_mul {x y:Int} (hx:0≤x∧x<10) (hy:0≤y∧y<10):0≤x * y∧x * y≤81:=by
 refine⟨Int.mul_nonneg hx.1 hy.1,?_⟩
 have h1:x * y≤x * 9:=Int.mul_le_mul_of_nonneg_left (by omega) hx.1
 omega
theorem w64_cell {z p M:Int} {j:Nat} (h:0≤z∧z≤M+81 * (j:Int)) (hj:j≤50000) (hM:M≤300000000000) (hp:0≤p∧p≤81):wrap64 (z+p)=z+p:=w64 (by omega) (by omega)
theorem w64_small {p:Int} (hp:0≤p∧p≤81):wrap64 p=p:=w64 (by omega) (by omega)
theorem cell_new {z p M:Int} {j:Nat} (h:0≤z∧z≤M+81 * (j:Int)) (hp:0≤p∧p≤81):0≤z+p∧z+p≤M+81 * ((j+1:Nat):Int):=by omega
theorem rmul_carry {n s:Nat} {cells:List Int} (hn:n≤1000000000) (hn0:0<n) {M:Int} (hM0:0≤M) (hM:M≤1000000000000) (hc:Cells M cells) (hl:n+1≤cells.length) (hs:ten (cells.take n)=s) (hlt:(s:Int)<10 ^ n) :
  ∀ (d i:Nat),i+d=n→∀ (T:List Int) (c:Int) (k:Nat),d+n+2≤k→Code10 T→T.length=i→0≤c→c≤M→cnum T+10 ^ i * c=ten (cells.take i) →
   Pq.r1_Mul.l2 k (n:Int) cells (List.replicate d 0++T) c (i:Int)=some (natB s)
 | 0,i,hi,T,c,k,hk,hT,hTl,hc0,hc1,hv=>by
  obtain⟨k,rfl⟩:∃ m,k=m+1:=⟨k-1,by omega⟩
  obtain rfl:i=n:=by omega
  simp only[Pq.r1_Mul.l2]
  rw[if_neg (by omega)]
  rw[hs] at hv
  have h3:=cnum_lt hT
  have h4:c=0:=by
   rcases (by omega:c=0∨1≤c) with h|h
   ·exact h
   ·exfalso
    have:=Int.mul_le_mul_of_nonneg_left h (Int.le_of_lt (p10 i))
    omega
  subst h4
  rw[Int.mul_zero,Int.add_zero] at hv
  rw[List.replicate_zero,List.nil_append,code_trim hT (by intro e;rw[e] at hTl;simp at hTl;omega) hv (by omega) _ (by omega)]
  rfl
 | d+1,i,hi,T,c,k,hk,hT,hTl,hc0,hc1,hv=>by
  obtain⟨k,rfl⟩:∃ m,k=m+1:=⟨k-1,by omega⟩
  simp only[Pq.r1_Mul.l2]
  have e1:wrap64 (wrap64 ((n:Int)-1)-(i:Int))=(d:Int):=by
   rw[w64 (x:=(n:Int)-1) (by omega) (by omega),w64 (by omega) (by omega)]
   omega
  rw[e1]
  clear e1
  rw[if_pos (by omega),if_pos (by omega),if_pos (by omega),if_pos (by omega),if_pos (by rw[List.length_append,List.length_replicate];omega),Int.toNat_natCast,set_rep,rd_limb]
  have h3:=cells_limb hc hM0 i
  have h5:=ten_take_succ cells i
  generalize limb cells i=x at *
  rw[w64 (x:=x+c) (by omega) (by omega),Int.tmod_eq_emod_of_nonneg (by omega),Int.tdiv_eq_ediv_of_nonneg (by omega),w64 (x:=48+(x+c) % 10) (by omega) (by omega),w64 (x:=(x+c) / 10) (by omega) (by omega),w64 (x:=(i:Int)+1) (by omega) (by omega)]
  rw[Int.emod_eq_of_lt (a:=48+(x+c) % 10) (by omega) (by omega)]
  refine rmul_carry hn hn0 hM0 hM hc hl hs hlt d (i+1) (by omega) _ _ k (by omega) (code_cons (by omega) (by omega) hT) (by simp[hTl]) (by omega) (by omega) ?_
  rw[cnum_cons,hTl,h5,Int.pow_succ]
  have e2:=Int.mul_ediv_add_emod (x+c) 10
  generalize (x+c) / 10=q at *
  generalize (x+c) % 10=r at *
  generalize (10:Int) ^ i=p at *
  have e3:r=x+c-10 * q:=by omega
  subst e3
  grind
theorem rmul_inner {a b:ByteArray} {n i:Nat} (hd1:a.data.toList.all isDig=true) (hd2:b.data.toList.all isDig=true) (ha:a.size≤50000) (hb:b.size≤50000) (hn:n=a.size+b.size) (hi:i<a.size) {M:Int} (hM0:0≤M) (hM:M≤300000000000) {need:Nat} {R:Option ByteArray} {V0:Int}
  (H:∀ (cells:List Int) (k:Nat),need≤k→Cells (M+81 * (b.size:Int)) cells→cells.length=n+1→ten cells=V0+10 ^ i * (limb (dl a) i * ten (dl b))→Pq.r1_Mul.l0 k a b (n:Int) cells ((i+1:Nat):Int)=R) :
  ∀ (d j:Nat),j+d=b.size→∀ (cells:List Int) (k:Nat),need+d+1≤k→Cells (M+81 * (j:Int)) cells→cells.length=n+1→ten cells=V0+10 ^ i * (limb (dl a) i * ten ((dl b).take j)) →
   Pq.r1_Mul.l1 k a b (n:Int) cells (i:Int) (j:Int)=R
 | 0,j,hj,cells,k,hk,hc,hl,hv=>by
  obtain⟨k,rfl⟩:∃ m,k=m+1:=⟨k-1,by omega⟩
  have HV:=Lib.hid hv
  clear hv
  obtain rfl:j=b.size:=by omega
  simp only[Pq.r1_Mul.l1]
  rw[if_neg (by omega),w64 (by omega) (by omega),show ((i:Int)+1)=((i+1:Nat):Int) by omega]
  have hv:=HV.out
  rw[List.take_of_length_le (by rw[dl_length];exact nr_ _)] at hv
  exact H cells k (by omega) hc hl hv
 | d+1,j,hj,cells,k,hk,hc,hl,hv=>by
  obtain⟨k,rfl⟩:∃ m,k=m+1:=⟨k-1,by omega⟩
  have HV:=Lib.hid hv
  clear hv
  simp only[Pq.r1_Mul.l1]
  have e1:wrap64 ((i:Int)+(j:Int))=((i+j:Nat):Int):=by rw[w64 (by omega) (by omega)];omega
  rw[e1]
  clear e1
  rw[if_pos (by omega),if_pos (by omega),if_pos (by omega),at_f a (by omega) hd1 i (by omega),ob_,at_f b (by omega) hd2 j (by omega),ob_,rd_limb,Int.toNat_natCast]
  have h3:=dig_limb (dl_dig hd1) i
  have h4:=dig_limb (dl_dig hd2) j
  have h6:=cells_limb hc (by omega) (i+j)
  have hset:=fun v=>ten_set (l:=cells) (j:=i+j) (by omega) v
  generalize limb cells (i+j)=z at *
  have hxy:=dig_mul h3 h4
  have ej:wrap64 ((j:Int)+1)=((j+1:Nat):Int):=by rw[w64 (by omega) (by omega)];omega
  rw[ej]
  clear ej
  rw[w64_small hxy,w64_cell h6 (by omega) hM hxy]
  have hnew:=cell_new h6 hxy
  refine rmul_inner hd1 hd2 ha hb hn hi hM0 hM H d (j+1) (by omega) _ k (by omega) (cells_set (cells_mono hc (by omega)) _ hnew.1 hnew.2) (by simp[hl]) ?_
  rw[hset,ten_take_succ,HV.out,Int.pow_add]
  grind
theorem rmul_outer {a b:ByteArray} {n s:Nat} (hd1:a.data.toList.all isDig=true) (hd2:b.data.toList.all isDig=true) (ha:a.size≤50000) (hb:b.size≤50000) (ha0:0<a.size) (hn:n=a.size+b.size) (hs:(s:Int)=ten (dl a) * ten (dl b)) :
  ∀ (d i:Nat),i+d=a.size→∀ (cells:List Int) (k:Nat),d * (b.size+2)+2 * n+5≤k→Cells (4050000 * (i:Int)) cells→cells.length=n+1→ten cells=ten ((dl a).take i) * ten (dl b) →
   Pq.r1_Mul.l0 k a b (n:Int) cells (i:Int)=some (natB s)
 | 0,i,hi,cells,k,hk,hc,hl,hv=>by
  obtain⟨k,rfl⟩:∃ m,k=m+1:=⟨k-1,by omega⟩
  have HV:=Lib.hid hv
  clear hv
  have HS:=Lib.hid hs
  clear hs
  simp only[Pq.r1_Mul.l0]
  rw[if_neg (by omega),if_pos (by omega),if_pos (by omega),Int.toNat_natCast]
  have hs:=HS.out
  have hv:=HV.out
  rw[List.take_of_length_le (by rw[dl_length];omega),← hs] at hv
  have hA:=ten_lt (dl_dig hd1)
  have hB:=ten_lt (dl_dig hd2)
  rw[dl_length] at hA hB
  have hlt:(s:Int)<10 ^ n:=by
   rw[hs,hn,Int.pow_add]
   have h1:ten (dl a) * ten (dl b)≤ten (dl a) * 10 ^ b.size:=Int.mul_le_mul_of_nonneg_left (by omega) hA.1
   have h2:ten (dl a) * 10 ^ b.size<10 ^ a.size * 10 ^ b.size:=Int.mul_lt_mul_of_pos_right hA.2 (p10 _)
   omega
  have htop:ten (cells.take n)=s:=by
   have h1:=ten_take_succ cells n
   rw[List.take_of_length_le (by omega)] at h1
   have h2:=(cells_limb hc (by omega) n).1
   have h3:=ten_nonneg (l:=cells.take n) (fun x hx=>(hc x (List.mem_of_mem_take hx)).1)
   rcases (by omega:limb cells n=0∨1≤limb cells n) with h4|h4
   ·rw[h4,Int.mul_zero] at h1
    omega
   ·exfalso
    have:=Int.mul_le_mul_of_nonneg_left h4 (Int.le_of_lt (p10 n))
    omega
  have:=rmul_carry (n:=n) (s:=s) (M:=4050000 * (i:Int)) (by omega) (by omega) (by omega) (by omega) hc (by omega) htop hlt n 0 (by omega) [] 0 k (by omega) code_nil rfl (by omega) (by omega) (by simp[cnum,ten])
  rw[List.append_nil] at this
  exact this
 | d+1,i,hi,cells,k,hk,hc,hl,hv=>by
  obtain⟨k,rfl⟩:∃ m,k=m+1:=⟨k-1,by omega⟩
  have HV:=Lib.hid hv
  clear hv
  have HS:=Lib.hid hs
  clear hs
  simp only[Pq.r1_Mul.l0]
  rw[Nat.add_mul] at hk
  rw[if_pos (by omega)]
  refine rmul_inner (V0:=ten cells) (M:=4050000 * (i:Int)) (need:=d * (b.size+2)+2 * n+5) hd1 hd2 ha hb hn (by omega) (by omega) (by omega) ?_ b.size 0 (by omega) cells k (by omega) (cells_mono hc (by omega)) hl (by simp[ten])
  intro cells' k' hk' hc' hl' hv'
  have HV':=Lib.hid hv'
  clear hv'
  refine rmul_outer hd1 hd2 ha hb ha0 hn HS.out d (i+1) (by omega) cells' k' hk' (cells_mono hc' (by omega)) hl' ?_
  rw[HV'.out,HV.out,ten_take_succ]
  grind
theorem rmul_f {a b:ByteArray} (ha:a.size≤50000) (hb:b.size≤50000) (k:Nat) (hk:a.size * (b.size+2)+2 * (a.size+b.size)+60010≤k):Pq.r1_Mul.f k a b=some (mulS a b):=by
 obtain⟨k,rfl⟩:∃ m,k=m+1:=⟨k-1,by omega⟩
 unfold Pq.r1_Mul.f
 rw[rmay_f a (by omega) _ (by omega),ob_]
 by_cases h1:mayB a=true
 ·rw[if_pos h1,rmay_f b (by omega) _ (by omega),ob_]
  by_cases h2:mayB b=true
  ·rw[h2]
   simp only[Pq.r1_Mul.j0]
   unfold mulS
   rw[if_pos (may2_eq h1 h2),if_neg (by decide)]
   have hn:wrap64 ((a.size:Int)+(b.size:Int))=((a.size+b.size:Nat):Int):=by
    rw[w64 (by omega) (by omega)]
    omega
   have hn1:wrap64 (((a.size+b.size:Nat):Int)+1)=((a.size+b.size+1:Nat):Int):=by
    rw[w64 (by omega) (by omega)]
    omega
   rw[hn,hn1,if_pos (by omega),if_pos (by omega),Int.toNat_natCast]
   have ta:=ten_dl (may_all h1)
   have tb:=ten_dl (may_all h2)
   exact rmul_outer (s:=numB a * numB b) (may_all h1) (may_all h2) ha hb (may_pos h1) rfl (by rw[ta,tb,Int.natCast_mul]) a.size 0 (by omega) _ k (by omega) (cells_rep _) (by simp) (by rw[ten_replicate];simp[ten])
  ·rw[(Bool.not_eq_true _).mp h2]
   unfold mulS
   rw[if_neg (may2_no2 h2)]
   rfl
 ·rw[if_neg h1]
  unfold mulS
  rw[if_neg (may2_no1 h1)]
  rfl
def ofS (n:Int):ByteArray:=if n<0 then noB else natB n.toNat
def tenB:ByteArray:=⟨#[48,49,50,51,52,53,54,55,56,57]⟩
theorem ten_cut {d:Nat} (h:d<10):(tenB.extract d (d+1)).data.toList=[UInt8.ofNat (48+d)]:=by
 rcases (by omega:d=0∨d=1∨d=2∨d=3∨d=4∨d=5∨d=6∨d=7∨d=8∨d=9) with rfl|rfl|rfl|rfl|rfl|rfl|rfl|rfl|rfl|rfl <;> rfl
theorem ten_cut_size {d:Nat} (h:d<10):(tenB.extract d (d+1)).size=1:=by rw[size_len,ten_cut h];rfl
theorem rof_loop:∀ (n:Nat) (s:ByteArray) (k:Nat),n+1≤k→n≤9223372036854775807→s.size+n / 2≤5000000000000000000→Pq.r1_Of.l0 k (n:Int) s=some ⟨(Lib.decDigits n++s.data.toList).toArray⟩
 | n,s,k,hk,hn,hs=>by
  obtain⟨k,rfl⟩:∃ m,k=m+1:=⟨k-1,by omega⟩
  simp only[Pq.r1_Of.l0]
  by_cases h:n<10
  ·rw[if_neg (by omega),if_pos (by omega),w64 (x:=(n:Int)+1) (by omega) (by omega),if_pos (by omega),if_pos (by omega)]
   have e:((n:Int)+1).toNat=n+1:=by omega
   rw[e,Int.toNat_natCast]
   have h1:=ten_cut_size h
   unfold tenB at h1
   rw[if_pos (by rw[h1];omega)]
   congr 1
   apply bmk
   rw[Joins.data_append,dig_small h]
   have h2:=ten_cut h
   unfold tenB at h2
   rw[h2]
  ·rw[if_pos (by omega),Int.tmod_eq_emod_of_nonneg (by omega),Int.tdiv_eq_ediv_of_nonneg (by omega)]
   have e1:(n:Int) % 10=((n % 10:Nat):Int):=by omega
   have e2:(n:Int) / 10=((n / 10:Nat):Int):=by omega
   rw[e1,e2]
   clear e1 e2
   obtain⟨d,hd⟩:∃ d,n % 10=d:=⟨_,rfl⟩
   have hd10:d<10:=by omega
   obtain⟨q,hq⟩:∃ q,n / 10=q:=⟨_,rfl⟩
   have hq1:q+1≤n:=by omega
   have hq2:q<n:=by omega
   have hq3:q / 2+1≤n / 2:=by omega
   rw[hd,hq]
   have HD:=Lib.hid hd
   have HQ:=Lib.hid hq
   clear hd hq
   rw[if_pos (by omega),w64 (x:=(d:Int)+1) (by omega) (by omega),if_pos (by omega),if_pos (by omega)]
   have e:((d:Int)+1).toNat=d+1:=by omega
   rw[e,Int.toNat_natCast]
   have h1:=ten_cut_size hd10
   unfold tenB at h1
   rw[if_pos (by rw[h1];omega),w64 (x:=(q:Int)) (by omega) (by omega)]
   have hsz:(((⟨#[48,49,50,51,52,53,54,55,56,57]⟩:ByteArray).extract d (d+1))++s).size=s.size+1:=by rw[ByteArray.size_append,h1];omega
   rw[rof_loop q _ k (by omega) (by omega) (by rw[hsz];omega)]
   congr 1
   rw[dig_big h,HD.out,HQ.out,Joins.data_append]
   have h2:=ten_cut hd10
   unfold tenB at h2
   rw[h2,List.append_assoc]
 termination_by n=>n
 decreasing_by exact hq2
theorem rof_f (n:Int) (h1:n≤9223372036854775807) (k:Nat) (hk:n.toNat+1≤k):Pq.r1_Of.f k n=some (ofS n):=by
 unfold Pq.r1_Of.f ofS
 by_cases h:n<0
 ·rw[if_pos h,if_pos h]
  rfl
 ·rw[if_neg h,if_neg h]
  obtain⟨m,rfl⟩:=Int.eq_ofNat_of_zero_le (show 0≤n by omega)
  rw[Int.toNat_natCast] at hk ⊢
  have h0:(⟨#[]⟩:ByteArray).size=0:=rfl
  rw[rof_loop m _ k hk (by omega) (by rw[h0];omega)]
  unfold natB
  simp
theorem push_f {R:Nat} {c:UInt8} (hc:isDig c=true) (t:ByteArray) (ht:t.data.toList=[c]) (k:Nat) (hsz:(natB R).size≤1000000000) (hk:(natB R).size+2≤k):Pq.r1_trim.f k (natB R++t)=some (natB (R * 10+(c.toNat-48))):=by
 have hl:(natB R++t).data.toList=Lib.decDigits R ++ [c]:=by rw[Joins.data_append,natB_list,ht]
 have hs:(natB R++t).size=(natB R).size+1:=by
  rw[size_len,hl,List.length_append,natB_size]
  rfl
 have h1:=trim_f (natB R++t) (by omega) k (by omega) (by rw[hl];simp) (by rw[hl,List.all_append,dig_all];simp[hc])
 rw[h1]
 unfold numB
 rw[hl,num_snoc,num_dig]
theorem rdiv_inner {a b q:ByteArray} {i:Nat} {N:Nat} (hN:N≤50000) (hb:mayB b=true) (hbs:b.size≤N) (hB:0<numB b) (hqs:q.size≤N) {R0:Nat} (hR0:R0<10 * numB b) {need:Nat} {X:Option (ByteArray×ByteArray×Bool)} (hi:i≤N)
  (H:∀ (k:Nat),need≤k→Pq.r1_Div.l0 k a b (q++tenB.extract (R0 / numB b) (R0 / numB b+1)) (natB (R0 % numB b)) ((i+1:Nat):Int)=X) :
  ∀ (e R d:Nat),R / numB b=e→R=R0-d * numB b→d * numB b≤R0→∀ k,need+e+1≤k→2 * N+20≤need→Pq.r1_Div.l1 k a b q (natB R) (i:Int) (d:Int)=X
 | 0,R,d,he,hR,hd,k,hk,hneed=>by
  obtain⟨k,rfl⟩:∃ m,k=m+1:=⟨k-1,by omega⟩
  have hlt:R<numB b:=by
   rcases Nat.lt_or_ge R (numB b) with h|h
   ·exact h
   ·have:=Nat.div_pos h hB
    omega
  have hsz:=natB_le hb (Nat.le_of_lt hlt)
  simp only[Pq.r1_Div.l1]
  rw[rcmp_f (N:=N) (by omega) (by omega) hbs _ (by omega),ob_]
  have hc:cmpS (natB R) b=-1:=by
   unfold cmpS
   rw[if_pos (may2_eq (mayB_natB R) hb),numB_natB,cmpI_lt hlt]
  have hd10:d<10:=by
   have h1:d * numB b<10 * numB b:=by omega
   exact Nat.lt_of_mul_lt_mul_right h1
  have hq:R0 / numB b=d:=by
   have e1:R0=R+numB b * d:=by rw[Nat.mul_comm (numB b) d];omega
   rw[e1,Nat.add_mul_div_left _ _ hB,Nat.div_eq_of_lt hlt,Nat.zero_add]
  have hr:R0 % numB b=R:=by
   have e1:R0=R+numB b * d:=by rw[Nat.mul_comm (numB b) d];omega
   rw[e1,Nat.add_mul_mod_self_left,Nat.mod_eq_of_lt hlt]
  rw[hq,hr] at H
  have h1:=ten_cut_size hd10
  rw[hc,if_neg (by decide),if_pos (by omega),w64 (x:=(d:Int)+1) (by omega) (by omega),if_pos (by omega),if_pos (by omega)]
  have e:((d:Int)+1).toNat=d+1:=by omega
  rw[e,Int.toNat_natCast]
  have h1':=h1
  unfold tenB at h1'
  rw[if_pos (by rw[h1'];omega),w64 (x:=(i:Int)+1) (by omega) (by omega),show ((i:Int)+1)=((i+1:Nat):Int) by omega]
  exact H k (by omega)
 | e+1,R,d,he,hR,hd,k,hk,hneed=>by
  obtain⟨k,rfl⟩:∃ m,k=m+1:=⟨k-1,by omega⟩
  have hge:numB b≤R:=by
   rcases Nat.lt_or_ge R (numB b) with h|h
   ·rw[Nat.div_eq_of_lt h] at he
    omega
   ·exact h
  have hsz:(natB R).size≤N+1:=by
   rw[natB_size]
   have h1:=num_lt (may_all hb)
   rw[← size_len] at h1
   have h2:(10:Nat) ^ b.size≤10 ^ N:=Nat.pow_le_pow_right (by omega) hbs
   apply dig_len_le _ (by omega)
   rw[Nat.pow_succ]
   unfold numB at hR0
   omega
  simp only[Pq.r1_Div.l1]
  rw[rcmp_f (N:=N+1) (by omega) hsz (by omega) _ (by omega),ob_]
  have hc:¬ cmpS (natB R) b<0:=by
   unfold cmpS
   rw[if_pos (may2_eq (mayB_natB R) hb),numB_natB,cmpI_neg]
   omega
  have hs:subS (natB R) b=(natB (R-numB b),true):=by
   unfold subS
   rw[numB_natB,if_pos (by rw[may2_eq (mayB_natB R) hb,decide_eq_true hge];rfl)]
  rw[if_pos (by omega),rsub_f (N:=N+1) (by omega) hsz (by omega) _ (by omega),ob_,hs]
  have hd10:d<10:=by
   have h1:d * numB b<10 * numB b:=by omega
   exact Nat.lt_of_mul_lt_mul_right h1
  rw[w64 (x:=(d:Int)+1) (by omega) (by omega),show ((d:Int)+1)=((d+1:Nat):Int) by omega]
  have e1:(d+1) * numB b=d * numB b+numB b:=by rw[Nat.add_mul,Nat.one_mul]
  refine rdiv_inner hN hb hbs hB hqs hR0 hi H e (R-numB b) (d+1) ?_ (by omega) (by omega) k (by omega) hneed
  have e2:R=(R-numB b)+numB b:=by omega
  rw[e2,Nat.add_div_right _ hB] at he
  omega
theorem rdiv_loop {a b:ByteArray} {N:Nat} (hN:N≤50000) (ha:mayB a=true) (hb:mayB b=true) (has:a.size≤N) (hbs:b.size≤N) (hB:0<numB b) :
  ∀ (e i:Nat),i+e=a.size→∀ (q:ByteArray) (R k:Nat),e * 20+2 * N+30≤k→q.size=i→q.data.toList.all isDig=true→R<numB b→num q.data.toList * numB b+R=num (a.data.toList.take i) →
   Pq.r1_Div.l0 k a b q (natB R) (i:Int)=some (natB (numB a / numB b),natB (numB a % numB b),true)
 | 0,i,hi,q,R,k,hk,hq,hqd,hR,hv=>by
  obtain⟨k,rfl⟩:∃ m,k=m+1:=⟨k-1,by omega⟩
  simp only[Pq.r1_Div.l0]
  have hpos:=may_pos ha
  rw[if_neg (by omega),trim_f q (by omega) k (by omega) (by intro h;have:=congrArg List.length h;rw[← size_len,List.length_nil] at this;omega) hqd,ob_]
  rw[List.take_of_length_le (by rw[← size_len];omega)] at hv
  have e1:numB a=R+numB b * numB q:=by unfold numB at hv ⊢;rw[← hv,Nat.mul_comm (num b.data.toList)];omega
  rw[e1,Nat.add_mul_div_left _ _ hB,Nat.div_eq_of_lt hR,Nat.zero_add,Nat.add_mul_mod_self_left,Nat.mod_eq_of_lt hR]
 | e+1,i,hi,q,R,k,hk,hq,hqd,hR,hv=>by
  obtain⟨k,rfl⟩:∃ m,k=m+1:=⟨k-1,by omega⟩
  obtain⟨c,hc,_⟩:=bt_get a i (by omega)
  have hcd:=List.all_eq_true.1 (may_all ha) c (List.mem_of_getElem? hc)
  have hcb:=isDig_bounds hcd
  have hil:i<a.data.toList.length:=by rw[← size_len];omega
  have hcc:a.data.toList[i]=c:=by
   rw[List.getElem?_eq_getElem hil] at hc
   exact Option.some.inj hc
  have hx:(a.extract i (i+1)).data.toList=[c]:=by
   rw[Lib.extract_data,List.drop_eq_getElem_cons hil,hcc,Nat.add_sub_cancel_left]
   rfl
  have hxs:(a.extract i (i+1)).size=1:=by rw[size_len,hx];rfl
  have hsz:=natB_le hb (Nat.le_of_lt hR)
  simp only[Pq.r1_Div.l0]
  rw[if_pos (by omega),if_pos (by omega),w64 (x:=(i:Int)+1) (by omega) (by omega),if_pos (by omega),if_pos (by omega)]
  have e0:((i:Int)+1).toNat=i+1:=by omega
  rw[e0,Int.toNat_natCast,if_pos (by rw[hxs];omega),push_f hcd _ hx k (by omega) (by omega),ob_]
  have hR0:R * 10+(c.toNat-48)<10 * numB b:=by omega
  have hdm:=Nat.div_add_mod (R * 10+(c.toNat-48)) (numB b)
  have hml:=Nat.mod_lt (R * 10+(c.toNat-48)) hB
  have hd10:(R * 10+(c.toNat-48)) / numB b<10:=Nat.div_lt_of_lt_mul (by rw[Nat.mul_comm (numB b)];exact hR0)
  have hnum:num (a.data.toList.take (i+1))=num (a.data.toList.take i) * 10+(c.toNat-48):=by
   rw[List.take_succ_eq_append_getElem hil,hcc,num_snoc]
  obtain⟨R0,hR0e⟩:∃ z,R * 10+(c.toNat-48)=z:=⟨_,rfl⟩
  rw[hR0e] at hR0 hdm hml hd10 ⊢
  have hcut:=ten_cut hd10
  have hcuts:=ten_cut_size hd10
  have hdig:isDig (UInt8.ofNat (48+R0 / numB b))=true:=isDig_ofNat hd10
  have hdn:=ofNat_dig hd10
  refine rdiv_inner (N:=N) (need:=e * 20+2 * N+30) hN hb hbs hB (by omega) hR0 (by omega) ?_ (R0 / numB b) R0 0 rfl (by omega) (by omega) k (by omega) (by omega)
  intro k' hk'
  refine rdiv_loop hN ha hb has hbs hB e (i+1) (by omega) _ _ k' hk' ?_ ?_ hml ?_
  ·rw[ByteArray.size_append,hcuts,hq]
  ·rw[Joins.data_append,hcut,List.all_append,hqd,List.all_cons,hdig]
   rfl
  ·rw[Joins.data_append,hcut,num_snoc,hnum,← hv,hdn]
   rw[Nat.add_sub_cancel_left]
   generalize R0 / numB b=d at *
   generalize R0 % numB b=r at *
   generalize num q.data.toList=Q at *
   generalize numB b=B at *
   have e3:(Q * 10+d) * B=Q * B * 10+B * d:=by grind
   omega
theorem rdiv_f {a b:ByteArray} {N:Nat} (hN:N≤50000) (ha:a.size≤N) (hb:b.size≤N) (k:Nat) (hk:22 * N+40≤k):Pq.r1_Div.f k a b=some (divS a b):=by
 obtain⟨k,rfl⟩:∃ m,k=m+1:=⟨k-1,by omega⟩
 unfold Pq.r1_Div.f
 rw[rmay_f a (by omega) _ (by omega),ob_]
 by_cases h1:mayB a=true
 ·rw[if_pos h1,rmay_f b (by omega) _ (by omega),ob_]
  by_cases h2:mayB b=true
  ·rw[if_pos h2]
   simp only[Pq.r1_Div.j0]
   unfold divS
   rw[may2_eq h1 h2,ByteArray.toList_eq]
   by_cases hc:numB b=0
   ·rw[if_pos (by rw[beq_iff_eq,list48 h2];exact hc),if_neg (by rw[hc];decide)]
    rfl
   ·rw[if_neg (by rw[beq_iff_eq,list48 h2];exact hc),if_pos (by rw[decide_eq_true hc];rfl)]
    have e0:(⟨#[48]⟩:ByteArray)=natB 0:=by
     apply bext
     rw[natB_list,dig_small (by omega)]
     rfl
    rw[e0]
    exact rdiv_loop hN h1 h2 ha hb (by omega) a.size 0 (by omega) _ 0 k (by omega) rfl rfl (by omega) (by simp[num])
  ·rw[if_neg h2]
   unfold divS
   rw[(Bool.not_eq_true _).mp (may2_no2 (a:=a) h2)]
   rfl
 ·rw[if_neg h1]
  unfold divS
  rw[(Bool.not_eq_true _).mp (may2_no1 (b:=b) h1)]
  rfl
def r1_Of.f (a0:Int):Option ByteArray:=if -9223372036854775808≤a0∧a0≤9223372036854775807 then some (ofS a0) else none
theorem r1_Of.calls (a0:Int) (r:ByteArray) (w:World) (h:r1_Of.f a0=some r) :
  Calls Tryz.prog 36 #[.int .i64 a0] w fun e w'=>e=.returned (.string r)∧Below w.heap.size w w':=by
 unfold r1_Of.f at h
 split at h
 ·rename_i hp
  rw[← rof_f a0 hp.2 _ (nr_ _)] at h
  exact(Pq.r1_Of.calls _ a0 r w h).mono fun e w' ⟨he,hw⟩=>⟨he,drawn_below hw⟩
 ·cases h
def r1_Cmp.f (a0 a1:ByteArray):Option Int:=if sm2 a0 a1=true then some (cmpS a0 a1) else none
def r1_Add.f (a0 a1:ByteArray):Option ByteArray:=if sm2 a0 a1=true then some (addS a0 a1) else none
theorem r1_Add.calls (a0 a1 r:ByteArray) (w:World) (h:r1_Add.f a0 a1=some r) :
  Calls Tryz.prog 71 #[.string a0,.string a1] w fun e w'=>e=.returned (.string r)∧Below w.heap.size w w':=by
 unfold r1_Add.f at h
 split at h
 ·rename_i hp
  rw[← radd_f (N:=50000) (by omega) (sm_le (and2 hp).1) (sm_le (and2 hp).2) _ (nr_ _)] at h
  exact Pq.r1_Add.calls _ a0 a1 r w h
 ·cases h
def r1_Sub.f (a0 a1:ByteArray):Option (ByteArray×Bool):=if sm2 a0 a1=true then some (subS a0 a1) else none
theorem r1_Sub.calls (a0 a1 r1:ByteArray) (r2:Bool) (w:World) (h:r1_Sub.f a0 a1=some (r1,r2)) :
  Calls Tryz.prog 117 #[.string a0,.string a1] w fun e w'=>e=.returned (.tuple #[.string r1,.bool r2])∧Below w.heap.size w w':=by
 unfold r1_Sub.f at h
 split at h
 ·rename_i hp
  rw[← rsub_f (N:=50000) (by omega) (sm_le (and2 hp).1) (sm_le (and2 hp).2) _ (nr_ _)] at h
  exact Pq.r1_Sub.calls _ a0 a1 r1 r2 w h
 ·cases h
def r1_Mul.f (a0 a1:ByteArray):Option ByteArray:=if sm2 a0 a1=true then some (mulS a0 a1) else none
theorem r1_Mul.calls (a0 a1 r:ByteArray) (w:World) (h:r1_Mul.f a0 a1=some r) :
  Calls Tryz.prog 114 #[.string a0,.string a1] w fun e w'=>e=.returned (.string r)∧Below w.heap.size w w':=by
 unfold r1_Mul.f at h
 split at h
 ·rename_i hp
  rw[← rmul_f (sm_le (and2 hp).1) (sm_le (and2 hp).2) _ (nr_ _)] at h
  exact Pq.r1_Mul.calls _ a0 a1 r w h
 ·cases h
def r1_Div.f (a0 a1:ByteArray):Option (ByteArray×ByteArray×Bool):=if sm2 a0 a1=true then some (divS a0 a1) else none
theorem r1_Div.calls (a0 a1 r1 r2:ByteArray) (r3:Bool) (w:World) (h:r1_Div.f a0 a1=some (r1,r2,r3)) :
  Calls Tryz.prog 112 #[.string a0,.string a1] w fun e w'=>e=.returned (.tuple #[.string r1,.string r2,.bool r3])∧Below w.heap.size w w':=by
 unfold r1_Div.f at h
 split at h
 ·rename_i hp
  rw[← rdiv_f (N:=50000) (by omega) (sm_le (and2 hp).1) (sm_le (and2 hp).2) _ (nr_ _)] at h
  exact Pq.r1_Div.calls _ a0 a1 r1 r2 r3 w h
 ·cases h
namespace Px
def errW:Option Int→Value
 | none=>.nilIface
 | some c=>.iface 0 (.int .i64 c)
theorem errW_none:errW none=.nilIface:=rfl
theorem errW_some (c:Int):errW (some c)=.iface 0 (.int .i64 c):=rfl
def r2_amount.f (a0:ByteArray):Option (ByteArray×Bool):=if (a0.size:Int)>0 then (if 0<(a0.size:Int) then (if (bt a0 0)=45 then (if 1≤(a0.size:Int) then (some (a0.extract 1 a0.size,true)) else (none)) else (some (a0,false))) else (none)) else (some (a0,false))
theorem r2_amount.calls (a0 r1:ByteArray) (r2:Bool) (w:World) (h:r2_amount.f a0=some (r1,r2)) :
  Calls Tryz.prog 88 #[.string a0] w fun e w'=>e=.returned (.tuple #[.string r1,.bool r2])∧Drawn0 w w':=by
 have H:=h;unfold r2_amount.f at H;clear h;replace H:=bw_ H;rcases H with ⟨c2,H⟩|⟨c2,H⟩
 ·have c2b0:decide (0<(a0.size:Int))=true:=decide_eq_true c2;have c2b1:decide (0<a0.size)=true:=decide_eq_true (by omega);clear c2;replace H:=bx_ H;obtain⟨c3,H⟩:=H;have c3b0:=dt_ c3;have c3b1:decide (0<a0.size)=true:=decide_eq_true (by omega);clear c3;replace H:=bw_ H;rcases H with ⟨c5,H⟩|⟨c5,H⟩
  ·have c5b0:((bt a0 0) == 45)=true:=beq_iff_eq.mpr c5;have c5b1:((bt a0 0) != 45)=false:=bne_eq_false_iff_eq.mpr c5;clear c5;replace H:=bx_ H;obtain⟨c6,H⟩:=H;have c6b0:=eq_true c6;replace c6:=dt_ c6;replace H:=pi2_ H;obtain⟨rfl,rfl⟩:=H;have p4:0≤(0:Int):=(by omega);have q4:0<a0.size:=(by have:(0:Int)<(a0.size:Int):=od_ as_f;omega);have hx4:∀ h:0<a0.size,((a0[0]'h).toNat:Int)=bt a0 0:=bt_at a0 0;clear p4;have qi4:(0<(a0.size:Int))=True:=eq_true (od_ as_f);replace q4:=eq_true q4;go_in;go_wp2;go_ret2;exact⟨rl_,d0_⟩
  ·have c5b0:((bt a0 0) == 45)=false:=beq_eq_false_iff_ne.mpr c5;have c5b1:((bt a0 0) != 45)=true:=bne_iff_ne.mpr c5;replace H:=pi2_ H;obtain⟨rfl,rfl⟩:=H;have p4:0≤(0:Int):=(by omega);have q4:0<a0.size:=(by have:(0:Int)<(a0.size:Int):=od_ as_f;omega);have hx4:∀ h:0<a0.size,((a0[0]'h).toNat:Int)=bt a0 0:=bt_at a0 0;clear p4;have qi4:(0<(a0.size:Int))=True:=eq_true (od_ as_f);replace q4:=eq_true q4;go_in;go_wp2;go_ret2;exact⟨rl_,d0_⟩
 ·have c2b0:decide (0<(a0.size:Int))=false:=decide_eq_false c2;have c2b1:decide (0<a0.size)=false:=decide_eq_false (by omega);clear c2;replace H:=pi2_ H;obtain⟨rfl,rfl⟩:=H;go_in;go_wp2;go_ret2;exact⟨rl_,d0_⟩
def r2_May.f (a0:ByteArray):Option (Bool):=(r2_amount.f a0).bind fun bt101=>((r1_May.f bt101.1).bind fun t103=>(if t103=true then (if bt101.2=true then (some (bt101.1.toList != ([48]:List UInt8))) else (some true)) else (some false)))
theorem r2_May.calls (a0:ByteArray) (r:Bool) (w:World) (h:r2_May.f a0=some r) :
  Calls Tryz.prog 72 #[.string a0] w fun e w'=>e=.returned (.bool r)∧Below w.heap.size w w':=by
 have HB:=ak_ (Below.refl w.heap.size w);have H:=h;unfold r2_May.f at H;clear h;replace H:=bi_ H;obtain⟨⟨t101,t102⟩,A2,H⟩:=H;(try dsimp only at H);replace H:=bi_ H;obtain⟨t103,A3,H⟩:=H;replace H:=bt_ H;rcases H with ⟨rfl,H⟩|⟨rfl,H⟩
 ·replace H:=bt_ H;rcases H with ⟨rfl,H⟩|⟨rfl,H⟩
  ·obtain rfl:=oi_ H;go_in
   go_wp2_with (first|(refine gm_ 7 Tryz.func88 (r2_amount.calls _ _ _ _ A2.out) ?_;rintro w' ⟨nd,rfl⟩)|(refine gm_ 11 Tryz.func44 (r1_May.calls _ _ _ A3.out) ?_;intro w6 hb;replace HB:=bs_ HB hb;(try clear hb)))
   go_ret
   exact⟨er_,b_ HB.out⟩
  ·obtain rfl:=oi_ H;go_in
   go_wp2_with (first|(refine gm_ 7 Tryz.func88 (r2_amount.calls _ _ _ _ A2.out) ?_;rintro w' ⟨nd,rfl⟩)|(refine gm_ 11 Tryz.func44 (r1_May.calls _ _ _ A3.out) ?_;intro w7 hb;replace HB:=bs_ HB hb;(try clear hb)))
   go_ret
   exact⟨er_,b_ HB.out⟩
 ·obtain rfl:=oi_ H;go_in
  go_wp2_with (first|(refine gm_ 7 Tryz.func88 (r2_amount.calls _ _ _ _ A2.out) ?_;rintro w' ⟨nd,rfl⟩)|(refine gm_ 11 Tryz.func44 (r1_May.calls _ _ _ A3.out) ?_;intro w8 hb;replace HB:=bs_ HB hb;(try clear hb)))
  go_ret
  exact⟨er_,b_ HB.out⟩
def r2_Of.f (a0:Int):Option (ByteArray):=if a0<0 then ((r1_Of.f (wrap64 (-(wrap64 (a0+1))))).bind fun t104=>((r1_Add.f t104 (⟨#[49]⟩:ByteArray)).bind fun t105=>(if 1+t105.size≤9223372036854775807 then (some ((⟨#[45]⟩:ByteArray)++t105)) else (none)))) else ((r1_Of.f a0).bind fun t106=>(some t106))
theorem r2_Of.calls (a0:Int) (r:ByteArray) (w:World) (h:r2_Of.f a0=some r) :
  Calls Tryz.prog 38 #[.int .i64 a0] w fun e w'=>e=.returned (.string r)∧Below w.heap.size w w':=by
 have HB:=ak_ (Below.refl w.heap.size w);have H:=h;unfold r2_Of.f at H;clear h;replace H:=bw_ H;rcases H with ⟨c2,H⟩|⟨c2,H⟩
 ·have c2b0:=dt_ c2;clear c2;replace H:=bi_ H;obtain⟨t104,A3,H⟩:=H;replace H:=bi_ H;obtain⟨t105,A4,H⟩:=H;replace H:=bx_ H;obtain⟨c5,H⟩:=H;have c5b0:=eq_true c5;have c5b1:=dt_ c5
  try have c5b2:(9223372036854775807<1+t105.size)=False:=eq_false (Nat.not_lt.2 c5)
  obtain rfl:=oi_ H;go_in
  go_wp2_with (first|(refine gl_ 8 Tryz.func36 #[.int .i64 (wrap64 (-(wrap64 (a0+1))))] ?_;refine mo_ (r1_Of.calls (wrap64 (-(wrap64 (a0+1)))) t104 _ A3.out) ?_;intro w6 hb;replace HB:=bs_ HB hb;(try clear hb))|(refine gm_ 9 Tryz.func71 (r1_Add.calls _ _ _ _ A4.out) ?_;intro w7 hb;replace HB:=bs_ HB hb;(try clear hb)))
  go_ret
  exact⟨er_,b_ HB.out⟩
 ·have c2b0:=df_ c2;clear c2;replace H:=bi_ H;obtain⟨t106,A8,H⟩:=H;obtain rfl:=oi_ H;go_in
  go_wp2_with ((refine gm_ 12 Tryz.func36 (r1_Of.calls _ _ _ A8.out) ?_;intro w9 hb;replace HB:=bs_ HB hb;(try clear hb)))
  go_ret
  exact⟨er_,b_ HB.out⟩
def r2_Sign.j0:Nat→Bool→Bool→Option (Int)
 | 0,_,_=>none
 | k+1,x4,x16=>if x16=true then (some 0) else (if x4=true then (some (-1)) else (some 1))
def r2_Sign.f (k:Nat) (a0:ByteArray):Option (Int):=(r2_amount.f a0).bind fun bt107=>((r2_May.f a0).bind fun t109=>(if t109=true then (r2_Sign.j0 k bt107.2 (bt107.1.toList == ([48]:List UInt8))) else (r2_Sign.j0 k bt107.2 true)))
theorem r2_Sign.calls (k:Nat) (a0:ByteArray) (r:Int) (w:World) (h:r2_Sign.f k a0=some r) :
  Calls Tryz.prog 73 #[.string a0] w fun e w'=>e=.returned (.int .i64 r)∧Below w.heap.size w w':=by
 have HB:=ak_ (Below.refl w.heap.size w);have H:=h;unfold r2_Sign.f at H;clear h;replace H:=bi_ H;obtain⟨⟨t107,t108⟩,A2,H⟩:=H;(try dsimp only at H);have HC3:=ak_ H;clear H;go_in
 go_upto_region 2 with (first|(refine gm_ 7 Tryz.func88 (r2_amount.calls _ _ _ _ A2.out) ?_;rintro w' ⟨nd,rfl⟩))
 (try simp only[Act.put,List.setIfInBounds_toArray,List.set_cons_zero,List.set_cons_succ])
 go_cut [16] (fun v16 wc=>∃ (kq:Nat) (x16_2:Bool),v16=.bool x16_2∧Aside0 (r2_Sign.j0 kq t108 x16_2=some r)∧Aside0 (kq≤k)∧Aside0 (Below w.heap.size w wc))
 case first =>
  have H:=HC3.out;clear HC3;replace H:=bi_ H;obtain⟨t109,A4,H⟩:=H;replace H:=bt_ H;rcases H with ⟨rfl,H⟩|⟨rfl,H⟩
  ·have H':=ak_ H;clear H
   go_wp2_with ((refine gm_ 11 Tryz.func72 (r2_May.calls _ _ _ A4.out) ?_;intro w6 hb;replace HB:=bs_ HB hb;(try clear hb)))
   go_meet
   case rel=>exact⟨_,((t107.toList == ([48]:List UInt8))),rl_,H',⟨nk_⟩,⟨b_ HB.out⟩⟩
  ·have H':=ak_ H;clear H
   go_wp2_with ((refine gm_ 11 Tryz.func72 (r2_May.calls _ _ _ A4.out) ?_;intro w7 hb;replace HB:=bs_ HB hb;(try clear hb)))
   go_meet
   case rel=>exact⟨_,(true),rl_,H',⟨nk_⟩,⟨b_ HB.out⟩⟩
 case rest =>
  clear HC3;obtain⟨kq,x16_2,rfl,HA,HJ2,HB⟩:=hcut
  cases kq with
  | zero=>exact absurd HA.out (by simp[r2_Sign.j0])
  | succ kj2 =>
   have H:=HA.out;clear HA;simp only[r2_Sign.j0] at H;replace H:=bt_ H;rcases H with ⟨rfl,H⟩|⟨rfl,H⟩
   ·obtain rfl:=oi_ H;go_wp2
    go_ret
    exact⟨er_,b_ HB.out⟩
   ·replace H:=bt_ H;rcases H with ⟨rfl,H⟩|⟨rfl,H⟩
    ·obtain rfl:=oi_ H;go_wp2
     go_ret
     exact⟨er_,b_ HB.out⟩
    ·obtain rfl:=oi_ H;go_wp2
     go_ret
     exact⟨er_,b_ HB.out⟩
def r2_Abs.f (a0:ByteArray):Option (ByteArray):=(r2_May.f a0).bind fun t110=>(if t110=true then ((r2_amount.f a0).bind fun bt111=>(some bt111.1)) else (some (⟨#[]⟩:ByteArray)))
theorem r2_Abs.calls (a0 r:ByteArray) (w:World) (h:r2_Abs.f a0=some r) :
  Calls Tryz.prog 70 #[.string a0] w fun e w'=>e=.returned (.string r)∧Below w.heap.size w w':=by
 have HB:=ak_ (Below.refl w.heap.size w);have H:=h;unfold r2_Abs.f at H;clear h;replace H:=bi_ H;obtain⟨t110,A2,H⟩:=H;replace H:=bt_ H;rcases H with ⟨rfl,H⟩|⟨rfl,H⟩
 ·replace H:=bi_ H;obtain⟨⟨t111,t112⟩,A4,H⟩:=H;(try dsimp only at H);obtain rfl:=oi_ H;go_in
  go_wp2_with (first|(refine gm_ 6 Tryz.func72 (r2_May.calls _ _ _ A2.out) ?_;intro w5 hb;replace HB:=bs_ HB hb;(try clear hb))|(refine gm_ 10 Tryz.func88 (r2_amount.calls _ _ _ _ A4.out) ?_;rintro w' ⟨nd,rfl⟩))
  go_ret
  exact⟨er_,b_ HB.out⟩
 ·obtain rfl:=oi_ H;go_in
  go_wp2_with ((refine gm_ 6 Tryz.func72 (r2_May.calls _ _ _ A2.out) ?_;intro w6 hb;replace HB:=bs_ HB hb;(try clear hb)))
  go_ret
  exact⟨er_,b_ HB.out⟩
def r2_with.f (a0:ByteArray) (a1:Bool):Option (ByteArray):=if a1=true then (if a0.toList=([48]:List UInt8) then (some a0) else (if 1+a0.size≤9223372036854775807 then (some ((⟨#[45]⟩:ByteArray)++a0)) else (none))) else (some a0)
theorem r2_with.calls (a0:ByteArray) (a1:Bool) (r:ByteArray) (w:World) (h:r2_with.f a0 a1=some r) :
  Calls Tryz.prog 89 #[.string a0,.bool a1] w fun e w'=>e=.returned (.string r)∧Drawn0 w w':=by
 have H:=h;unfold r2_with.f at H;clear h;replace H:=bt_ H;rcases H with ⟨rfl,H⟩|⟨rfl,H⟩
 ·replace H:=bw_ H;rcases H with ⟨c4,H⟩|⟨c4,H⟩
  ·have c4b0:(a0.toList == ([48]:List UInt8))=true:=beq_iff_eq.mpr c4;have c4b1:(a0.toList != ([48]:List UInt8))=false:=bne_eq_false_iff_eq.mpr c4;clear c4;obtain rfl:=oi_ H;go_in;go_wp2
   go_ret
   exact⟨rl_,d0_⟩
  ·have c4b0:(a0.toList == ([48]:List UInt8))=false:=beq_eq_false_iff_ne.mpr c4;have c4b1:(a0.toList != ([48]:List UInt8))=true:=bne_iff_ne.mpr c4;replace H:=bx_ H;obtain⟨c5,H⟩:=H;have c5b0:=eq_true c5;have c5b1:=dt_ c5
   try have c5b2:(9223372036854775807<1+a0.size)=False:=eq_false (Nat.not_lt.2 c5)
   obtain rfl:=oi_ H;go_in;go_wp2
   go_ret
   exact⟨rl_,d0_⟩
 ·obtain rfl:=oi_ H;go_in;go_wp2
  go_ret
  exact⟨rl_,d0_⟩
def r2_Neg.f (a0:ByteArray):Option (ByteArray):=(r2_May.f a0).bind fun t113=>(if t113=true then ((r2_amount.f a0).bind fun bt114=>((r2_with.f bt114.1 (!bt114.2)).bind fun t116=>(some t116))) else (some (⟨#[]⟩:ByteArray)))
theorem r2_Neg.calls (a0 r:ByteArray) (w:World) (h:r2_Neg.f a0=some r) :
  Calls Tryz.prog 50 #[.string a0] w fun e w'=>e=.returned (.string r)∧Below w.heap.size w w':=by
 have HB:=ak_ (Below.refl w.heap.size w);have H:=h;unfold r2_Neg.f at H;clear h;replace H:=bi_ H;obtain⟨t113,A2,H⟩:=H;replace H:=bt_ H;rcases H with ⟨rfl,H⟩|⟨rfl,H⟩
 ·replace H:=bi_ H;obtain⟨⟨t114,t115⟩,A4,H⟩:=H;(try dsimp only at H);replace H:=bi_ H;obtain⟨t116,A5,H⟩:=H;obtain rfl:=oi_ H;go_in
  go_wp2_with (first|(refine gm_ 6 Tryz.func72 (r2_May.calls _ _ _ A2.out) ?_;intro w6 hb;replace HB:=bs_ HB hb;(try clear hb))|(refine gm_ 10 Tryz.func88 (r2_amount.calls _ _ _ _ A4.out) ?_;rintro w' ⟨nd,rfl⟩)|(refine gm_ 16 Tryz.func89 (r2_with.calls _ _ _ _ A5.out) ?_;rintro w' ⟨nd,rfl⟩))
  go_ret
  exact⟨er_,b_ HB.out⟩
 ·obtain rfl:=oi_ H;go_in
  go_wp2_with ((refine gm_ 6 Tryz.func72 (r2_May.calls _ _ _ A2.out) ?_;intro w7 hb;replace HB:=bs_ HB hb;(try clear hb)))
  go_ret
  exact⟨er_,b_ HB.out⟩
def r2_Mul.j0:Nat→ByteArray→ByteArray→Bool→Option (ByteArray)
 | 0,_,_,_=>none
 | k+1,x0,x1,x16=>if x16=true then (some (⟨#[]⟩:ByteArray)) else ((r2_amount.f x0).bind fun bt119=>((r2_amount.f x1).bind fun bt121=>((r1_Mul.f bt119.1 bt121.1).bind fun t123=>((r2_with.f t123 (bt119.2 != bt121.2)).bind fun t124=>(some t124)))))
def r2_Mul.f (k:Nat) (a0 a1:ByteArray):Option (ByteArray):=(r2_May.f a0).bind fun t117=>(if t117=true then ((r2_May.f a1).bind fun t118=>(r2_Mul.j0 k a0 a1 (!t118))) else (r2_Mul.j0 k a0 a1 true))
theorem r2_Mul.calls (k:Nat) (a0 a1 r:ByteArray) (w:World) (h:r2_Mul.f k a0 a1=some r) :
  Calls Tryz.prog 113 #[.string a0,.string a1] w fun e w'=>e=.returned (.string r)∧Below w.heap.size w w':=by
 have HB:=ak_ (Below.refl w.heap.size w);have H:=h;unfold r2_Mul.f at H;clear h;have HC3:=ak_ H;clear H;go_in
 go_upto_region 1 with (fail)
 go_cut [16] (fun v16 wc=>∃ (kq:Nat) (x16_2:Bool),v16=.bool x16_2∧Aside0 (r2_Mul.j0 kq a0 a1 x16_2=some r)∧Aside0 (kq≤k)∧Aside0 (Below w.heap.size w wc))
 case first =>
  have H:=HC3.out;clear HC3;replace H:=bi_ H;obtain⟨t117,A4,H⟩:=H;replace H:=bt_ H;rcases H with ⟨rfl,H⟩|⟨rfl,H⟩
  ·replace H:=bi_ H;obtain⟨t118,A6,H⟩:=H;have H':=ak_ H;clear H
   go_wp2_with (first|(refine gm_ 10 Tryz.func72 (r2_May.calls _ _ _ A4.out) ?_;intro w7 hb;replace HB:=bs_ HB hb;(try clear hb))|(go_at_call 72;(with_reducible refine(r2_May.calls _ _ _ A6.out).mono ?_);rintro e w8 ⟨rfl,hb⟩;replace HB:=bs_ HB hb;(try clear hb)))
   go_meet
   case rel=>exact⟨_,(!t118),rl_,H',⟨nk_⟩,⟨b_ HB.out⟩⟩
  ·have H':=ak_ H;clear H
   go_wp2_with ((refine gm_ 10 Tryz.func72 (r2_May.calls _ _ _ A4.out) ?_;intro w9 hb;replace HB:=bs_ HB hb;(try clear hb)))
   go_meet
   case rel=>exact⟨_,(true),rl_,H',⟨nk_⟩,⟨b_ HB.out⟩⟩
 case rest =>
  clear HC3;obtain⟨kq,x16_2,rfl,HA,HJ2,HB⟩:=hcut
  cases kq with
  | zero=>exact absurd HA.out (by simp[r2_Mul.j0])
  | succ kj2 =>
   have H:=HA.out;clear HA;simp only[r2_Mul.j0] at H;replace H:=bt_ H;rcases H with ⟨rfl,H⟩|⟨rfl,H⟩
   ·obtain rfl:=oi_ H;go_wp2
    go_ret
    exact⟨er_,b_ HB.out⟩
   ·replace H:=bi_ H;obtain⟨⟨t119,t120⟩,A11,H⟩:=H;(try dsimp only at H);replace H:=bi_ H;obtain⟨⟨t121,t122⟩,A12,H⟩:=H;(try dsimp only at H);replace H:=bi_ H;obtain⟨t123,A13,H⟩:=H;replace H:=bi_ H;obtain⟨t124,A14,H⟩:=H;obtain rfl:=oi_ H
    go_wp2_with (first|(refine gm_ 19 Tryz.func88 (r2_amount.calls _ _ _ _ A11.out) ?_;rintro w' ⟨nd,rfl⟩)|(refine gm_ 24 Tryz.func88 (r2_amount.calls _ _ _ _ A12.out) ?_;rintro w' ⟨nd,rfl⟩)|(refine gm_ 29 Tryz.func114 (r1_Mul.calls _ _ _ _ A13.out) ?_;intro w15 hb;replace HB:=bs_ HB hb;(try clear hb))|(refine gm_ 33 Tryz.func89 (r2_with.calls _ _ _ _ A14.out) ?_;rintro w' ⟨nd,rfl⟩))
    go_ret
    exact⟨er_,b_ HB.out⟩
mutual
def r2_Div.j0:Nat→ByteArray→ByteArray→Bool→Option (ByteArray×ByteArray×Bool)
 | 0,_,_,_=>none
 | k+1,x0,x1,x27=>if x27=true then (some ((⟨#[]⟩:ByteArray),(⟨#[]⟩:ByteArray),false)) else ((r2_amount.f x0).bind fun bt127=>((r2_amount.f x1).bind fun bt129=>((r1_Div.f bt127.1 bt129.1).bind fun bt131=>(if bt127.2=true then (r2_Div.j1 k bt127.2 bt129.1 bt129.2 bt131.1 bt131.2.1 (bt131.2.1.toList != ([48]:List UInt8))) else (r2_Div.j1 k bt127.2 bt129.1 bt129.2 bt131.1 bt131.2.1 false)))))
def r2_Div.j1:Nat→Bool→ByteArray→Bool→ByteArray→ByteArray→Bool→Option (ByteArray×ByteArray×Bool)
 | 0,_,_,_,_,_,_=>none
 | k+1,x8,x9,x10,x11,x12,x49=>if x49=true then ((r1_Add.f x11 (⟨#[49]⟩:ByteArray)).bind fun t134=>((r1_Sub.f x9 x12).bind fun bt135=>((r2_with.f t134 (x8 != x10)).bind fun t137=>(some (t137,bt135.1,true))))) else ((r2_with.f x11 (x8 != x10)).bind fun t138=>(some (t138,x12,true)))
end
def r2_Div.f (k:Nat) (a0 a1:ByteArray):Option (ByteArray×ByteArray×Bool):=(r2_May.f a0).bind fun t125=>(if t125=true then ((r2_May.f a1).bind fun t126=>(if t126=true then (r2_Div.j0 k a0 a1 (a1.toList == ([48]:List UInt8))) else (r2_Div.j0 k a0 a1 true))) else (r2_Div.j0 k a0 a1 true))
theorem r2_Div.calls (k:Nat) (a0 a1 r1 r2:ByteArray) (r3:Bool) (w:World) (h:r2_Div.f k a0 a1=some (r1,r2,r3)) :
  Calls Tryz.prog 75 #[.string a0,.string a1] w fun e w'=>e=.returned (.tuple #[.string r1,.string r2,.bool r3])∧Below w.heap.size w w':=by
 have HB:=ak_ (Below.refl w.heap.size w);have H:=h;unfold r2_Div.f at H;clear h;have HC3:=ak_ H;clear H;go_in
 go_upto_region 1 with (fail)
 go_cut [27] (fun v27 wc=>∃ (kq:Nat) (x27_2:Bool),v27=.bool x27_2∧Aside0 (r2_Div.j0 kq a0 a1 x27_2=some (r1,r2,r3))∧Aside0 (kq≤k)∧Aside0 (Below w.heap.size w wc))
 case first =>
  have H:=HC3.out;clear HC3;replace H:=bi_ H;obtain⟨t125,A4,H⟩:=H;replace H:=bt_ H;rcases H with ⟨rfl,H⟩|⟨rfl,H⟩
  ·replace H:=bi_ H;obtain⟨t126,A6,H⟩:=H;replace H:=bt_ H;rcases H with ⟨rfl,H⟩|⟨rfl,H⟩
   ·have H':=ak_ H;clear H
    go_wp2_with (first|(refine gm_ 17 Tryz.func72 (r2_May.calls _ _ _ A4.out) ?_;intro w8 hb;replace HB:=bs_ HB hb;(try clear hb))|(go_at_call 72;(with_reducible refine(r2_May.calls _ _ _ A6.out).mono ?_);rintro e w9 ⟨rfl,hb⟩;replace HB:=bs_ HB hb;(try clear hb)))
    go_meet
    case rel=>exact⟨_,((a1.toList == ([48]:List UInt8))),rl_,H',⟨nk_⟩,⟨b_ HB.out⟩⟩
   ·have H':=ak_ H;clear H
    go_wp2_with (first|(refine gm_ 17 Tryz.func72 (r2_May.calls _ _ _ A4.out) ?_;intro w10 hb;replace HB:=bs_ HB hb;(try clear hb))|(go_at_call 72;(with_reducible refine(r2_May.calls _ _ _ A6.out).mono ?_);rintro e w11 ⟨rfl,hb⟩;replace HB:=bs_ HB hb;(try clear hb)))
    go_meet
    case rel=>exact⟨_,(true),rl_,H',⟨nk_⟩,⟨b_ HB.out⟩⟩
  ·have H':=ak_ H;clear H
   go_wp2_with ((refine gm_ 17 Tryz.func72 (r2_May.calls _ _ _ A4.out) ?_;intro w12 hb;replace HB:=bs_ HB hb;(try clear hb)))
   go_meet
   case rel=>exact⟨_,(true),rl_,H',⟨nk_⟩,⟨b_ HB.out⟩⟩
 case rest =>
  clear HC3;obtain⟨kq,x27_2,rfl,HA,HJ2,HB⟩:=hcut
  cases kq with
  | zero=>exact absurd HA.out (by simp[r2_Div.j0])
  | succ kj2 =>
   have H:=HA.out;clear HA;simp only[r2_Div.j0] at H;replace H:=bt_ H;rcases H with ⟨rfl,H⟩|⟨rfl,H⟩
   ·replace H:=pi3_ H;obtain⟨rfl,rfl,rfl⟩:=H;go_wp2
    go_ret3
    exact⟨er_,b_ HB.out⟩
   ·replace H:=bi_ H;obtain⟨⟨t127,t128⟩,A14,H⟩:=H;(try dsimp only at H);replace H:=bi_ H;obtain⟨⟨t129,t130⟩,A15,H⟩:=H;(try dsimp only at H);replace H:=bi_ H;obtain⟨⟨t131,t132,t133⟩,A16,H⟩:=H;(try dsimp only at H);have HC17:=ak_ H;clear H
    go_upto_region 6 with (first|(refine gm_ 30 Tryz.func88 (r2_amount.calls _ _ _ _ A14.out) ?_;rintro w' ⟨nd,rfl⟩)|(refine gm_ 35 Tryz.func88 (r2_amount.calls _ _ _ _ A15.out) ?_;rintro w' ⟨nd,rfl⟩)|(refine gm_ 41 Tryz.func112 (r1_Div.calls _ _ _ _ _ _ A16.out) ?_;intro w18 hb;replace HB:=bs_ HB hb;(try clear hb)))
    (try simp only[Act.put,List.setIfInBounds_toArray,List.set_cons_zero,List.set_cons_succ])
    go_cut [49] (fun v49 wc=>∃ (kq:Nat) (x49_16:Bool),v49=.bool x49_16∧Aside0 (r2_Div.j1 kq t128 t129 t130 t131 t132 x49_16=some (r1,r2,r3))∧Aside0 (kq≤kj2)∧Aside0 (Below w.heap.size w wc))
    case first =>
     have H:=HC17.out;clear HC17;replace H:=bt_ H;rcases H with ⟨rfl,H⟩|⟨rfl,H⟩
     ·have H':=ak_ H;clear H;go_wp2
      go_meet
      case rel=>exact⟨_,((t132.toList != ([48]:List UInt8))),rl_,H',⟨by have:=HJ2.out;first|omega|exact nr_ _⟩,⟨b_ HB.out⟩⟩
     ·have H':=ak_ H;clear H;go_wp2
      go_meet
      case rel=>exact⟨_,(false),rl_,H',⟨by have:=HJ2.out;first|omega|exact nr_ _⟩,⟨b_ HB.out⟩⟩
    case rest =>
     clear HC17;obtain⟨kq,x49_16,rfl,HA,HJ16,HB⟩:=hcut
     cases kq with
     | zero=>exact absurd HA.out (by simp[r2_Div.j1])
     | succ kj16 =>
      have H:=HA.out;clear HA;simp only[r2_Div.j1] at H;replace H:=bt_ H;rcases H with ⟨rfl,H⟩|⟨rfl,H⟩
      ·replace H:=bi_ H;obtain⟨t134,A21,H⟩:=H;replace H:=bi_ H;obtain⟨⟨t135,t136⟩,A22,H⟩:=H;(try dsimp only at H);replace H:=bi_ H;obtain⟨t137,A23,H⟩:=H;replace H:=pi3_ H;obtain⟨rfl,rfl,rfl⟩:=H
       go_wp2_with (first|(refine gm_ 51 Tryz.func71 (r1_Add.calls _ _ _ _ A21.out) ?_;intro w24 hb;replace HB:=bs_ HB hb;(try clear hb))|(refine gm_ 55 Tryz.func117 (r1_Sub.calls _ _ _ _ _ A22.out) ?_;intro w25 hb;replace HB:=bs_ HB hb;(try clear hb))|(refine gm_ 63 Tryz.func89 (r2_with.calls _ _ _ _ A23.out) ?_;rintro w' ⟨nd,rfl⟩))
       go_ret3
       exact⟨er_,b_ HB.out⟩
      ·replace H:=bi_ H;obtain⟨t138,A26,H⟩:=H;replace H:=pi3_ H;obtain⟨rfl,rfl,rfl⟩:=H
       go_wp2_with ((refine gm_ 63 Tryz.func89 (r2_with.calls _ _ _ _ A26.out) ?_;rintro w' ⟨nd,rfl⟩))
       go_ret3
       exact⟨er_,b_ HB.out⟩
end Px
theorem amount_f (a:ByteArray):Px.r2_amount.f a=some (amtB a,minusB a):=by
 unfold Px.r2_amount.f amtB minusB
 have hs:=size_len a
 cases hl:a.data.toList with
 | nil =>
  rw[hl,List.length_nil] at hs
  rw[if_neg (by omega)]
  simp only[cutL]
  congr 2
  apply bext
  rw[hl]
 | cons c r =>
  rw[hl,List.length_cons] at hs
  obtain⟨c',hc,hb⟩:=bt_get a 0 (by omega)
  have hcc:c'=c:=by
   rw[hl] at hc
   exact(Option.some.inj hc).symm
  subst hcc
  have hb':bt a 0=(c'.toNat:Int):=hb
  rw[if_pos (by omega),if_pos (by omega),hb']
  by_cases h:c'=45
  ·subst h
   rw[if_pos (by decide),if_pos (by omega)]
   simp only[cutL]
   congr 2
   apply bext
   rw[Lib.extract_to_end,hl]
   rfl
  ·have hn:¬ (c'.toNat:Int)=45:=by
    intro e
    exact h (UInt8.toNat_inj.1 (by rw[show (45:UInt8).toNat=45 from rfl];omega))
   have e:cutL (c' :: r)=(c' :: r,false):=by
    unfold cutL
    split
    ·rename_i h'
     injection h' with h' _
     exact absurd h' h
    ·rfl
   rw[if_neg hn,e]
   congr 2
   apply bext
   rw[hl]
theorem amtB_size' (a:ByteArray):(amtB a).size≤a.size:=by
 rw[size_len,size_len,amtB_list]
 unfold cutL
 split
 ·rename_i h;rw[h];simp
 ·exact nr_ _
theorem r2may_f {a:ByteArray} (h:a.size≤50000):Px.r2_May.f a=some (mayW a):=by
 unfold Px.r2_May.f mayW
 have hs:=amtB_size' a
 rw[amount_f,ob_,rMay (a:=amtB a) (by omega),ob_]
 cases hm:mayB (amtB a) with
 | false=>rfl
 | true =>
  simp only[if_true,Bool.true_and]
  cases hn:minusB a with
  | false=>rfl
  | true =>
   simp only[if_true,Bool.not_true,Bool.false_or]
   congr 1
   have h48:=list48 hm
   rw[← ByteArray.toList_eq] at h48
   rw[Bool.eq_iff_iff,bne_iff_ne,decide_eq_true_eq]
   exact not_congr h48
def r2_May.f (a0:ByteArray):Option Bool:=if sm a0=true then some (mayW a0) else none
theorem r2_May.calls (a0:ByteArray) (r:Bool) (w:World) (h:r2_May.f a0=some r) :
  Calls Tryz.prog 72 #[.string a0] w fun e w'=>e=.returned (.bool r)∧Below w.heap.size w w':=by
 unfold r2_May.f at h
 split at h
 ·rename_i hp
  rw[← r2may_f (sm_le hp)] at h
  exact Px.r2_May.calls a0 r w h
 ·cases h
theorem szI_neg (x:Int):szI (-x)≤szI x+1:=by
 have h1:=szI_le (-x)
 have h4:=le_szI x
 rw[Int.natAbs_neg] at h1
 omega
theorem szI_mul (x y:Int):szI (x * y)≤szI x+szI y+1:=by
 have h1:=szI_le (x * y)
 rw[Int.natAbs_mul] at h1
 have h3:=sz_mul x.natAbs y.natAbs
 have h4:=le_szI x
 have h5:=le_szI y
 omega
theorem smw2_int {x y:Int} (hx:szI x≤49990) (hy:szI y≤49990):smw2 (intB x) (intB y)=true:=by
 unfold smw2
 rw[show smw (intB x)=true from decide_eq_true hx,show smw (intB y)=true from decide_eq_true hy]
 rfl
theorem smw_int {x:Int} (hx:szI x≤49990):smw (intB x)=true:=decide_eq_true hx
theorem gDiv {x y:Int} (hx:szI x≤49990) (hy:szI y≤49990) (h:y≠0):whole_Div.f (intB x) (intB y)=some (intB (x / y),intB (x % y),true):=by
 unfold whole_Div.f wdivS
 rw[if_pos (smw2_int hx hy),may2W_int,Bool.true_and,numW_int,numW_int,if_pos (decide_eq_true h)]
theorem gNeg {x:Int} (hx:szI x≤49990):whole_Neg.f (intB x)=some (intB (-x)):=by
 unfold whole_Neg.f wnegS
 rw[if_pos (smw_int hx),if_pos (mayW_int x),numW_int]
theorem gSign {x:Int} (hx:szI x≤49990):whole_Sign.f (intB x)=some (Lib.compareInt x 0):=by
 unfold whole_Sign.f wsignS
 rw[if_pos (smw_int hx),if_pos (mayW_int x),numW_int]
theorem gAbs {x:Int} (hx:szI x≤49990):whole_Abs.f (intB x)=some (intB (x.natAbs:Int)):=by
 unfold whole_Abs.f wabsS
 rw[if_pos (smw_int hx),if_pos (mayW_int x),numW_int,intB_nat]
theorem gOf {n:Int} (h0:-9223372036854775808≤n) (h1:n≤9223372036854775807):whole_Of.f n=some (intB n):=by
 unfold whole_Of.f
 rw[if_pos ⟨h0,h1⟩]
theorem rMay2 {a:ByteArray} (h:a.size≤50000):r2_May.f a=some (mayW a):=by
 unfold r2_May.f
 rw[if_pos (show sm a=true from decide_eq_true h)]
theorem intB_toList_zero {z:Int}:(intB z).toList=[48]↔z=0:=by
 have h:(intB 0).toList=[48]:=by
  have e:intB 0=natB 0:=intB_nat 0
  rw[e,ByteArray.toList_eq,natB_list,dig_small (by omega)]
  rfl
 rw[← h]
 exact intB_toList_inj
theorem intB_beq_zero (x:Int):((intB x).toList == ([48]:List UInt8))=decide (x=0):=by
 rw[Bool.eq_iff_iff,beq_iff_eq,intB_toList_zero,decide_eq_true_eq]
abbrev BB:=ByteArray×ByteArray
def no2:BB:=(noB,noB)
def may2R (x y:BB):Bool:=mayR x&&mayR y
def rmakeS (a b:ByteArray):BB×Bool:=if (may2W a b&&decide (numW b≠0))=true then (rT (Rat.divInt (numW a) (numW b)),true) else (no2,false)
def rsignS (x:BB):Int:=if mayR x=true then cmpQ (ratR x) 0 else 0
def rmulS (x y:BB):BB:=if may2R x y=true then rT (ratR x * ratR y) else no2
def szR (q:Rat):Nat:=szI q.num+sz q.den
theorem le_szR_num (q:Rat):szI q.num≤szR q:=Nat.le_add_right _ _
theorem le_szR_den (q:Rat):sz q.den≤szR q:=Nat.le_add_left _ _
theorem szI_nat (n:Nat):szI (n:Int)=sz n:=by unfold szI sz;rw[intB_nat]
theorem sz_den_le (x:Int) {y:Int} (hy:y≠0):sz (Rat.divInt x y).den≤szI y:=by
 have h:((Rat.divInt x y).den:Int)≤(y.natAbs:Int):=by
  rw[← red_den hy]
  exact Int.ediv_le_self _ (Int.natCast_nonneg _)
 have h1:=sz_mono (show (Rat.divInt x y).den≤y.natAbs by omega)
 have h2:=le_szI y
 omega
theorem sz_num_le (x:Int) {y:Int} (hy:y≠0):szI (Rat.divInt x y).num≤szI x+1:=by
 have h:(Rat.divInt x y).num.natAbs≤x.natAbs:=by
  rw[← red_num hy]
  have e:=Int.natAbs_ediv_le_natAbs (if y<0 then -x else x) ((Nat.gcd x.natAbs y.natAbs:Nat):Int)
  have e2:(if y<0 then -x else x).natAbs=x.natAbs:=by split <;> omega
  have h3:Int.natAbs ((if y<0 then -x else x) / ((Nat.gcd x.natAbs y.natAbs:Nat):Int))=(if y<0 then -x else x).natAbs / Nat.gcd x.natAbs y.natAbs:=by
   have hd:((Nat.gcd x.natAbs y.natAbs:Nat):Int) ∣ (if y<0 then -x else x):=by
    rw[Int.ofNat_dvd_left,e2]
    exact Nat.gcd_dvd_left _ _
   rw[Int.natAbs_ediv_of_dvd hd,Int.natAbs_natCast]
  rw[h3,e2]
  exact Nat.div_le_self _ _
 have h1:=sz_mono h
 have h2:=le_szI x
 have h3:=szI_le (Rat.divInt x y).num
 omega
theorem szR_divInt (x:Int) {y:Int} (hy:y≠0):szR (Rat.divInt x y)≤szI x+szI y+1:=by
 have h1:=sz_den_le x hy
 have h2:=sz_num_le x hy
 unfold szR
 omega
theorem szR_int (n:Int):szR (n:Rat)=szI n+1:=by
 unfold szR
 rw[Rat.num_intCast,Rat.den_intCast]
 have:sz 1=1:=Nat.le_antisymm (sz_le (by omega) (by omega)) (sz_pos 1)
 rw[this]
theorem casesR (x y:BB):(∃ p q,x=rT p∧y=rT q)∨¬ may2R x y=true:=by
 by_cases h:may2R x y=true
 ·have h':=h
  unfold may2R at h'
  rw[Bool.and_eq_true] at h'
  obtain⟨p,hp⟩:=of_mayR h'.1
  obtain⟨q,hq⟩:=of_mayR h'.2
  exact .inl ⟨p,q,hp,hq⟩
 ·exact .inr h
theorem may2R_rT (p q:Rat):may2R (rT p) (rT q)=true:=by unfold may2R;rw[mayR_rT,mayR_rT];rfl
def smR (x:BB):Bool:=decide (x.1.size≤4000∧x.2.size≤4000)
theorem smR_le {x:BB} (h:smR x=true):x.1.size≤4000∧x.2.size≤4000:=od_ h
def smR2 (x y:BB):Bool:=smR x&&decide (y.1.size≤3999∧y.2.size≤3999)
theorem smR2_le {x y:BB} (h:smR2 x y=true):smR x=true∧smR y=true∧(y.1.size≤3999∧y.2.size≤4000):=by
 unfold smR2 at h
 rw[Bool.and_eq_true,decide_eq_true_eq] at h
 exact⟨h.1,decide_eq_true (by omega),by omega⟩
theorem dec_len_le {n k:Nat} (h:n<10 ^ k) (hk:1≤k):(Lib.decDigits n).length≤k:=dig_len_le h hk
theorem plD_le {n s:Nat} (hn:0<n) (h:n<10 ^ s):plD n≤4 * s:=by
 obtain⟨a,c,r,ha,hc,hr,h1,h2,h3,h4⟩:=parts hn
 have r0:0<r:=by
  rcases Nat.eq_zero_or_pos r with e|e
  ·rw[e] at h3;exact absurd rfl h3
  ·exact e
 unfold plD
 rw[ha,hc]
 have p5:0<5 ^ c:=by have:=Nat.pow_le_pow_right (show 0<5 by decide) (Nat.zero_le c);rw[Nat.pow_zero] at this;omega
 have p2:0<2 ^ a:=by have:=Nat.pow_le_pow_right (show 0<2 by decide) (Nat.zero_le a);rw[Nat.pow_zero] at this;omega
 have a1:2 ^ a≤n:=by
  rw[← h1]
  exact Nat.le_mul_of_pos_right _ (Nat.mul_pos p5 r0)
 have c1:5 ^ c≤n:=by
  rw[← h1]
  refine Nat.le_trans (Nat.le_mul_of_pos_right _ r0) (Nat.le_mul_of_pos_left _ p2)
 have up:(10:Nat) ^ s≤2 ^ (4 * s):=by
  rw[Nat.pow_mul]
  exact Nat.pow_le_pow_left (by decide) s
 have up5:(10:Nat) ^ s≤5 ^ (2 * s):=by
  rw[Nat.pow_mul]
  exact Nat.pow_le_pow_left (by decide) s
 have a2:a<4 * s:=by
  rcases Nat.lt_or_ge a (4 * s) with e|e
  ·exact e
  ·have:=Nat.pow_le_pow_right (show 0<2 by decide) e
   omega
 have c2:c<2 * s:=by
  rcases Nat.lt_or_ge c (2 * s) with e|e
  ·exact e
  ·have:=Nat.pow_le_pow_right (show 0<5 by decide) e
   omega
 omega
theorem sgL_len (z:Int):(sgL z).length≤1:=by
 unfold sgL
 split <;> simp
theorem print_len (x:Rat):(printL x).length≤5 * (szR x)+5:=by
 have hd:0<x.den:=Nat.pos_of_ne_zero x.den_nz
 have e1:(intB x.num).data.toList.length=szI x.num:=by
  unfold szI
  rw[size_len]
 have e2:(Lib.decDigits x.den).length=sz x.den:=(sz_dig x.den).symm
 unfold printL
 by_cases hf:finD x.den=true
 ·rw[if_pos hf]
  by_cases h0:plD x.den=0
  ·rw[if_pos h0,e1]
   unfold szR
   omega
  ·have hp:=plD_le hd (lt_sz x.den)
   have hs:=sgL_len x.num
   have hn:=lt_sz x.num.natAbs
   have h3:=le_szI x.num
   have hz:=sz_pos x.num.natAbs
   have hlen:(digsL x).length≤sz x.num.natAbs+plD x.den+1:=by
    unfold digsL padL
    rw[List.length_append,List.length_replicate]
    have hb:(Lib.decDigits (x.num.natAbs * (10 ^ plD x.den / x.den))).length≤sz x.num.natAbs+plD x.den:=by
     refine dec_len_le ?_ (by omega)
     rw[Nat.pow_add]
     have h4:10 ^ plD x.den / x.den≤10 ^ plD x.den:=Nat.div_le_self _ _
     have h5:x.num.natAbs * (10 ^ plD x.den / x.den)≤x.num.natAbs * 10 ^ plD x.den:=Nat.mul_le_mul_left _ h4
     have h6:0<10 ^ plD x.den:=by have:=Nat.pow_le_pow_right (show 0<10 by decide) (Nat.zero_le (plD x.den));rw[Nat.pow_zero] at this;omega
     exact Nat.lt_of_le_of_lt h5 (Nat.mul_lt_mul_of_pos_right hn h6)
    omega
   rw[if_neg h0,List.length_append,List.length_append,List.length_cons,List.length_take,List.length_drop]
   unfold szR
   omega
 ·rw[if_neg hf,List.length_append,List.length_cons,e1,e2]
  unfold szR
  omega
theorem head_dig' {A:List UInt8} (h:digL A=true):A.all isDig=true∧A≠[]∧A.head?≠some 45:=by
 unfold digL at h
 rw[Bool.and_eq_true,decide_eq_true_eq] at h
 refine⟨h.2,h.1,?_⟩
 have:=head_all (B:=[]) h.2 h.1
 rwa [List.append_nil] at this
theorem tenI_ne (k:Nat):((10 ^ k:Nat):Int)≠0:=by
 have:=Nat.pow_le_pow_right (show 0<10 by decide) (Nat.zero_le k)
 rw[Nat.pow_zero] at this
 omega
theorem mul_num {x:Rat} {m:Nat} (h:x.den ∣ m):x * ((m:Int):Rat)=((x.num * ((m / x.den:Nat):Int):Int):Rat):=by
 have hd:0<x.den:=Nat.pos_of_ne_zero x.den_nz
 have hne:((x.den:Int):Rat)≠0:=by
  intro e
  have e0:((0:Int):Rat)=0:=rfl
  rw[← e0,Rat.intCast_inj] at e
  omega
 have hx:x * ((x.den:Int):Rat)=((x.num:Int):Rat):=by
  have h2:=Rat.num_divInt_den x
  rw[Rat.divInt_eq_div] at h2
  have h3:=Rat.div_mul_cancel (a:=((x.num:Int):Rat)) hne
  rw[h2] at h3
  exact h3
 obtain⟨k,hk⟩:=h
 rw[show m / x.den=k by rw[hk,Nat.mul_div_cancel_left _ hd],hk,Int.natCast_mul,Rat.intCast_mul,Rat.intCast_mul,← hx]
 grind
def placesS (x:BB):Int×Bool:=if (mayR x&&finD (ratR x).den)=true then ((plD (ratR x).den:Int),true) else (0,false)
def printS (x:BB):ByteArray:=if mayR x=true then ⟨(printL (ratR x)).toArray⟩ else noB
def parseS (s:ByteArray):ByteArray×ByteArray×Int:=match parseL s.data.toList with
 | some q=>((rT q).1,(rT q).2,0)
 | none=>(noB,noB,40)
theorem places_rT (q:Rat):placesS (rT q)=if finD q.den=true then ((plD q.den:Int),true) else (0,false):=by
 unfold placesS
 rw[ratR_rT,mayR_rT,Bool.true_and]
theorem print_rT (q:Rat):printS (rT q)=⟨(printL q).toArray⟩:=by
 unfold printS
 rw[ratR_rT,if_pos (mayR_rT q)]
theorem print_rT_list (q:Rat):(printS (rT q)).data.toList=printL q:=by rw[print_rT]
theorem parse_some {s:ByteArray} {q:Rat} (h:parseL s.data.toList=some q):parseS s=((rT q).1,(rT q).2,0):=by
 unfold parseS
 rw[h]
theorem parse_none {s:ByteArray} (h:parseL s.data.toList=none):parseS s=(noB,noB,40):=by
 unfold parseS
 rw[h]
theorem indexByte_none {c:UInt8}:∀ {l:List UInt8},cutAt c l=none→Lib.indexByte l c=-1
 | [],_=>rfl
 | x :: r,h=>by
  unfold cutAt at h
  by_cases e:x=c
  ·rw[if_pos e] at h;exact absurd h (by simp)
  ·rw[if_neg e,Option.map_eq_none_iff] at h
   have ih:=indexByte_none h
   unfold Lib.indexByte
   rw[ih,beq_eq_false_iff_ne.2 e]
   rfl
theorem indexByte_some {c:UInt8}:∀ {l a b:List UInt8},cutAt c l=some (a,b)→Lib.indexByte l c=(a.length:Int)∧l=a++c :: b∧c∉a
 | [],_,_,h=>absurd h (by simp[cutAt])
 | x :: r,a,b,h=>by
  unfold cutAt at h
  by_cases e:x=c
  ·rw[if_pos e] at h
   have h':=Option.some.inj h
   rw[Prod.mk.injEq] at h'
   obtain⟨rfl,rfl⟩:=h'
   subst e
   refine⟨?_,rfl,by simp⟩
   unfold Lib.indexByte
   rw[beq_self_eq_true,if_pos rfl]
   rfl
  ·rw[if_neg e,Option.map_eq_some_iff] at h
   obtain⟨⟨a',b'⟩,h1,h2⟩:=h
   rw[Prod.mk.injEq] at h2
   obtain⟨rfl,rfl⟩:=h2
   obtain⟨i1,i2,i3⟩:=indexByte_some h1
   refine⟨?_,by rw[i2];rfl,?_⟩
   ·unfold Lib.indexByte
    rw[i1,beq_eq_false_iff_ne.2 e,if_neg (by decide),if_neg]
    ·simp
    ·rw[beq_iff_eq];omega
   ·intro hm
    rcases List.mem_cons.1 hm with h3|h3
    ·exact e h3.symm
    ·exact i3 h3
theorem cut_one (c:UInt8) (l:List UInt8):Lib.cut l [c]=match cutAt c l with|some (a,b)=>(a,b,true)|none=>(l,[],false):=by
 unfold Lib.cut
 rw[Lib.index_one]
 cases h:cutAt c l with
 | none=>rw[indexByte_none h,if_neg (by decide)]
 | some p =>
  obtain⟨a,b⟩:=p
  obtain⟨h1,h2,h3⟩:=indexByte_some h
  rw[h1,if_pos (by omega)]
  show (l.take a.length,l.drop (a.length+1),true)=(a,b,true)
  rw[h2,List.take_left,← List.drop_drop,List.drop_left]
  rfl
def decs:List UInt8:=[48,49,50,51,52,53,54,55,56,57]
theorem decs_has (c:UInt8):decs.contains c=isDig c:=by
 have h:∀ n:Fin 256,decs.contains (UInt8.ofNat n.val)=isDig (UInt8.ofNat n.val):=by decide +kernel
 have:=h ⟨c.toNat,c.toNat_lt⟩
 rwa [show UInt8.ofNat (⟨c.toNat,c.toNat_lt⟩:Fin 256).val=c from UInt8.ofNat_toNat] at this
theorem dropWhile_nil {p:UInt8→Bool}:∀ {l:List UInt8},l.dropWhile p=[]↔l.all p=true
 | []=>by simp
 | x :: r=>by
  rw[List.dropWhile_cons]
  by_cases h:p x=true
  ·rw[if_pos h,dropWhile_nil,List.all_cons,h,Bool.true_and]
  ·rw[if_neg h,List.all_cons,(Bool.not_eq_true _).mp h]
   simp
theorem trim_nil (l:List UInt8):Lib.trimS l decs=[]↔l.all isDig=true:=by
 have e:(fun c=>decs.contains c)=isDig:=funext decs_has
 unfold Lib.trimS Lib.trimLeftS Lib.trimRightS
 rw[e,dropWhile_nil]
 constructor
 ·intro h
  by_cases hn:l.reverse.dropWhile isDig=[]
  ·rw[dropWhile_nil,List.all_reverse] at hn
   exact hn
  ·exfalso
   rw[List.all_reverse] at h
   have h1:=List.head_dropWhile_not isDig hn
   have h2:=List.all_eq_true.1 h _ (List.head_mem hn)
   rw[h2] at h1
   exact absurd h1 (by decide)
 ·intro h
  have:l.reverse.dropWhile isDig=[]:=by rw[dropWhile_nil,List.all_reverse];exact h
  rw[this]
  rfl
theorem drop_not {c:UInt8} (h:¬ c=48) (r:List UInt8):Lib.trimLeftB (c :: r) 48=c :: r:=by
 unfold Lib.trimLeftB
 rw[List.dropWhile_cons]
 exact if_neg (by rw[beq_iff_eq];exact h)
theorem left_strip:∀ {l:List UInt8},l≠[]→(if Lib.trimLeftB l 48=[] then [48] else Lib.trimLeftB l 48)=strip l
 | [],h=>absurd rfl h
 | [c],_=>by
  by_cases h:c=48
  ·subst h;rfl
  ·rw[drop_not h,if_neg (by simp)]
   rfl
 | c :: d :: r,_=>by
  by_cases h:c=48
  ·subst h
   have ih:=left_strip (l:=d :: r) (by simp)
   rw[strip,if_pos rfl,← ih]
   rfl
  ·rw[strip,if_neg h,drop_not h,if_neg (by simp)]
theorem left_dec {l:List UInt8} (h:digL l=true):(if Lib.trimLeftB l 48=[] then [48] else Lib.trimLeftB l 48)=Lib.decDigits (num l):=by
 obtain⟨h1,h2,h3⟩:=head_dig' h
 rw[left_strip h2,strip_dig h2 h1]
theorem tms_pos {b n:Nat} (hb:2≤b) (hn:0<n):0<(tms b n).2:=by
 obtain⟨h1,h2⟩:=tms_spec hb n hn
 rcases Nat.eq_zero_or_pos (tms b n).2 with e|e
 ·rw[e,Nat.zero_mod] at h2;exact absurd rfl h2
 ·exact e
def tw (n:Nat):Nat:=(tms 2 n).1
def fv (n:Nat):Nat:=(tms 5 (tms 2 n).2).1
theorem plD_tf (n:Nat):plD n=max (tw n) (fv n):=rfl
theorem pl_even {n:Nat} (hn:0<n) (h:n % 2=0):tw n=tw (n / 2)+1∧fv n=fv (n / 2)∧finD n=finD (n / 2):=by
 unfold tw fv finD
 rw[tms_step (by decide) hn h]
 exact⟨rfl,rfl,rfl⟩
theorem odd_five {n:Nat} (h:n % 2≠0) (h5:n % 5=0):n / 5 % 2≠0:=by omega
theorem pl_five {n:Nat} (hn:0<n) (h:n % 2≠0) (h5:n % 5=0):tw n=tw (n / 5)∧fv n=fv (n / 5)+1∧finD n=finD (n / 5):=by
 unfold tw fv finD
 rw[tms_stop h,tms_stop (odd_five h h5)]
 show 0=0∧(tms 5 n).1=(tms 5 (n / 5)).1+1∧((tms 5 n).2 == 1)=((tms 5 (n / 5)).2 == 1)
 rw[tms_step (by decide) hn h5]
 exact⟨rfl,rfl,rfl⟩
theorem pl_stop {n:Nat} (h:n % 2≠0) (h5:n % 5≠0):tw n=0∧fv n=0∧finD n=(n == 1):=by
 unfold tw fv finD
 rw[tms_stop h]
 show 0=0∧(tms 5 n).1=0∧((tms 5 n).2 == 1)=(n == 1)
 rw[tms_stop h5]
 exact⟨rfl,rfl,rfl⟩
theorem tms_le {b:Nat} (hb:2≤b) {n s:Nat} (hn:0<n) (h:n<10 ^ s):(tms b n).1≤4 * s:=by
 obtain⟨h1,h2⟩:=tms_spec hb n hn
 have h3:=tms_pos hb hn
 have h4:2 ^ (tms b n).1≤b ^ (tms b n).1:=Nat.pow_le_pow_left hb _
 have h5:b ^ (tms b n).1≤n:=by
  calc b ^ (tms b n).1≤b ^ (tms b n).1 * (tms b n).2:=Nat.le_mul_of_pos_right _ h3
   _ = n:=h1
 have up:(10:Nat) ^ s≤2 ^ (4 * s):=by
  rw[Nat.pow_mul]
  exact Nat.pow_le_pow_left (by decide) s
 rcases Nat.lt_or_ge (4 * s) (tms b n).1 with e|e
 ·have:=Nat.pow_le_pow_right (show 0<2 by decide) (Nat.le_of_lt e)
  omega
 ·exact e
theorem tms_left_le {b:Nat} (hb:2≤b) {n:Nat} (hn:0<n):(tms b n).2≤n:=by
 obtain⟨h1,h2⟩:=tms_spec hb n hn
 have:0<b ^ (tms b n).1:=Nat.pow_pos (by omega)
 calc (tms b n).2≤b ^ (tms b n).1 * (tms b n).2:=Nat.le_mul_of_pos_left _ this
  _ = n:=h1
theorem num_sz {l:List UInt8} (h:l.all isDig=true):sz (num l)≤l.length+1 :=
 sz_le (Nat.lt_of_lt_of_le (num_lt h) (Nat.pow_le_pow_right (by decide) (Nat.le_succ _))) (by omega)
theorem withS_sz (b:Bool) (n:Nat):szI (withS b n)≤sz n+1:=by
 have h:=szI_le (withS b n)
 have e:(withS b n).natAbs=n:=by
  unfold withS
  cases b <;> simp
 rw[e] at h
 exact h
theorem cutL_len (s:List UInt8):(cutL s).1.length≤s.length:=by
 unfold cutL
 split
 ·simp
 ·exact nr_ _
theorem cutAt_len {c:UInt8} {l a b:List UInt8} (h:cutAt c l=some (a,b)):a.length+b.length+1=l.length:=by
 obtain⟨h1,h2,h3⟩:=indexByte_some h
 rw[h2,List.length_append,List.length_cons]
 omega
theorem ten_sz (n:Nat):szI ((10 ^ n:Nat):Int)≤n+1:=by
 rw[szI_nat]
 refine sz_le ?_ (by omega)
 rw[Nat.pow_succ]
 have:=Nat.pow_le_pow_right (show 0<10 by decide) (Nat.zero_le n)
 rw[Nat.pow_zero] at this
 omega
theorem parse_sz {s:List UInt8} {q:Rat} (h:parseA s=some q):szR q≤2 * s.length+8:=by
 have hl:=cutL_len s
 unfold parseA at h
 split at h
 ·rename_i a b e
  have h0:=cutAt_len e
  split at h
  ·rename_i hd
   rw[Bool.and_eq_true] at hd
   split at h
   ·exact absurd h (by simp)
   ·rename_i hb
    rw[← Option.some.inj h]
    have h1:=szR_divInt (withS (cutL s).2 (num a)) (show ((num b:Nat):Int)≠0 by omega)
    have h2:=withS_sz (cutL s).2 (num a)
    have h3:=num_sz (head_dig' hd.1).1
    have h4:=num_sz (head_dig' hd.2).1
    rw[szI_nat] at h1
    omega
  ·exact absurd h (by simp)
 ·split at h
  ·rename_i a b e
   have h0:=cutAt_len e
   split at h
   ·rename_i hd
    rw[Bool.and_eq_true] at hd
    rw[← Option.some.inj h]
    have h1:=szR_divInt (withS (cutL s).2 (num (a++b))) (tenI_ne b.length)
    have h2:=withS_sz (cutL s).2 (num (a++b))
    have h3:=num_sz (l:=a++b) (by rw[List.all_append,(head_dig' hd.1).1,(head_dig' hd.2).1];rfl)
    have h4:=ten_sz b.length
    rw[List.length_append] at h3
    omega
   ·exact absurd h (by simp)
  ·split at h
   ·rename_i hd
    rw[← Option.some.inj h,szR_int]
    have h2:=withS_sz (cutL s).2 (num (cutL s).1)
    have h3:=num_sz (head_dig' hd).1
    omega
   ·exact absurd h (by simp)
theorem parseL_sz {s:List UInt8} {q:Rat} (h:parseL s=some q):szR q≤2 * s.length+8:=by
 unfold parseL at h
 split at h
 ·exact absurd h (by simp)
 ·exact parse_sz h
section
open Go.Shelf
def most63:Nat:=9223372036854775807
def smallS (s:ByteArray):Int×Bool:=if (mayB s&&decide (numB s≤most63))=true then ((numB s:Int),true) else (0,false)
theorem atoi_may {s:ByteArray} (hm:mayB s=true):(numB s≤most63→Lib.atoiAll s.data.toList=.ok (numB s:Int))∧(¬ numB s≤most63→Lib.atoiAll s.data.toList=.range):=by
 have h:=atoi_digits (mayL_ne hm) (mayL_all hm)
 unfold numB most63
 constructor
 ·intro hn
  rw[h,if_pos (by omega)]
 ·intro hn
  rw[h,if_neg (by omega)]
theorem bytesW_below (w:World) (t:ByteArray):Below w.heap.size w (Lib.bytesWorld w 5 t):=bytes_below (Below.refl _ _) (nr_ _) _ _
theorem small_no (s:ByteArray) (hs:sm s=true) (hm:mayB s=false) (w:World) :
  Calls Tryz.prog 41 #[.string s] w fun e w'=>e=.returned (.tuple #[.int .i64 0,.bool false])∧Below w.heap.size w w':=by
 have hf:nat_May.f s=some false:=by rw[may_f hs,hm]
 have H:=Lib.hid hf
 clear hf hs hm
 go_enter Tryz.func41,Tryz.ntmps41
 go_wp2_with (go_at_call 79;refine(nat_May.calls s false _ H.out).mono ?_;rintro e w1 ⟨rfl,hb⟩)
 go_ret2
 exact⟨rfl,hb⟩
theorem small_ok (s:ByteArray) (hs:sm s=true) (hm:mayB s=true) (hn:numB s≤most63) (w:World) :
  Calls Tryz.prog 41 #[.string s] w fun e w'=>e=.returned (.tuple #[.int .i64 (numB s:Int),.bool true])∧Below w.heap.size w w':=by
 have hf:nat_May.f s=some true:=by rw[may_f hs,hm]
 have hsz:s.size≤9223372036854775806:=Nat.le_trans (sm_le hs) (by omega)
 have HS:=Lib.hid hsz
 have H:=Lib.hid hf
 have HA:=Lib.hid ((atoi_may hm).1 hn)
 clear hf hs hm hn hsz
 go_enter Tryz.func41,Tryz.ntmps41
 go_wp2_with (first|(go_at_call 79;refine(nat_May.calls s true _ H.out).mono ?_;rintro e w1 ⟨rfl,hb⟩)|(go_at_call 80;refine(Tryz.strconv_Atoi_ok s HS.out _ HA.out _).mono ?_;rintro e w2 ⟨rfl,hb2⟩))
 go_ret2
 refine⟨rfl,hb.trans ?_⟩
 rcases hb2 with rfl|⟨t,rfl⟩
 ·exact Below.refl _ _
 ·exact(bytesW_below _ t).mono hb.size
theorem small_big (s:ByteArray) (hs:sm s=true) (hm:mayB s=true) (hn:¬ numB s≤most63) (w:World) (hL:Laid w) :
  Calls Tryz.prog 41 #[.string s] w fun e w'=>e=.returned (.tuple #[.int .i64 0,.bool false])∧Below w.heap.size w w':=by
 have hf:nat_May.f s=some true:=by rw[may_f hs,hm]
 have hsz:s.size≤281474976710656:=Nat.le_trans (sm_le hs) (by omega)
 have HS:=Lib.hid hsz
 have H:=Lib.hid hf
 have HA:=Lib.hid ((atoi_may hm).2 hn)
 have HL:=Lib.hid hL
 clear hf hs hm hn hL hsz
 go_enter Tryz.func41,Tryz.ntmps41
 go_wp2_with (go_at_call 79;refine(nat_May.calls s true _ H.out).mono ?_;rintro e w1 ⟨rfl,hb⟩)
 have hL1:=HL.out.below hb
 obtain⟨tp,p,hv⟩:=hL1.rng
 have HV:=Lib.hid hv
 clear hL1 hv
 go_wp2_with (go_at_call 80;refine(Tryz.strconv_Atoi_range_var s HS.out HA.out tp p _ HV.out).mono ?_;rintro e w2 ⟨q,rfl,hq,hc,hb2⟩)
 all_goals (go_ret2;exact⟨rfl,hb.trans (hb2.mono hb.size)⟩)
def nat_Small.f (a0:ByteArray):Option (Int×Bool):=if sm a0=true then some (smallS a0) else none
theorem nat_Small.calls (a0:ByteArray) (r1:Int) (r2:Bool) (w:World) (hL_:Laid w) (h:nat_Small.f a0=some (r1,r2)) :
  Calls Tryz.prog 41 #[.string a0] w fun e w'=>e=.returned (.tuple #[.int .i64 r1,.bool r2])∧Below w.heap.size w w':=by
 unfold nat_Small.f smallS at h
 split at h
 ·rename_i hs
  split at h
  ·rename_i hp
   rw[Bool.and_eq_true,decide_eq_true_eq] at hp
   cases h
   exact small_ok a0 hs hp.1 hp.2 w
  ·rename_i hp
   cases h
   rw[Bool.and_eq_true,decide_eq_true_eq] at hp
   by_cases hm:mayB a0=true
   ·exact small_big a0 hs hm (fun hn=>hp ⟨hm,hn⟩) w hL_
   ·exact small_no a0 hs ((Bool.not_eq_true _).mp hm) w
 ·cases h
end
structure ActV where
 name:ByteArray
 kind:Int
 asset:ByteArray
 other:ByteArray
 ratio:BB
 cash:BB
 ex:Int
 rec_:Int
 pay:Int
def nameC (c:UInt8):Bool:=decide (97≤c.toNat∧c.toNat≤122) || isDig c
def bang (l:List UInt8):List UInt8:=match l with
 | 33 :: r=>r
 | l=>l
def nameL (l:List UInt8):Bool:=decide (l≠[])&&(decide (l.length≤20)&&(bang l).all nameC)
def lowL (l:List UInt8):Bool:=match l with
 | c :: _=>decide (97≤c.toNat∧c.toNat≤122)
 | []=>false
def cashL:List UInt8:=[99,97,115,104]
def assetL (l:List UInt8):Bool:=nameL l&&(lowL l&&decide (l≠cashL))
def numOk (x:BB) (named:Bool) (least:Int):Bool:=if named=true then mayR x&&(decide (least≤cmpQ (ratR x) 0)&&(decide (x.1.size≤20)&&decide (x.2.size≤20))) else decide (x=rT 0)
def kOther (k:Int):Bool:=decide (3≤k)
def kRatio (k:Int):Bool:=decide (k≠2)
def kCash (k:Int):Bool:=decide (k=2) || decide (k=4)
def kLeast (k:Int):Int:=if k=4 then 0 else 1
def wordK (k:Int):List UInt8:=if k=0 then [115,112,108,105,116] else if k=1 then [115,116,111,99,107] else if k=2 then [99,97,115,104] else if k=3 then [115,112,105,110] else [109,101,114,103,101,114]
def otherOk (a:ActV):Bool:=if kOther a.kind=true then assetL a.other.data.toList&&decide (a.other≠a.asset) else decide (a.other=noB)
def daysOk (a:ActV):Bool:=decide (0≤a.ex)&&(decide (a.ex≤a.rec_)&&(decide (a.rec_≤a.pay)&&decide (a.pay≤9999)))
def mayA (a:ActV):Bool:=decide (0≤a.kind)&&(decide (a.kind≤4)&&(nameL a.name.data.toList&&(assetL a.asset.data.toList&&(daysOk a&&(otherOk a&&(numOk a.ratio (kRatio a.kind) 1&&numOk a.cash (kCash a.kind) (kLeast a.kind)))))))
def numsA (a:ActV):List (List UInt8):=(if kRatio a.kind=true then [(printS a.ratio).data.toList] else [])++(if kCash a.kind=true then [(printS a.cash).data.toList] else [])
def restA (a:ActV):List (List UInt8):=(if kOther a.kind=true then [a.other.data.toList] else [])++numsA a
def wordsA (a:ActV):List (List UInt8):=wordK a.kind :: a.name.data.toList :: a.asset.data.toList :: Lib.decDigits a.ex.toNat :: Lib.decDigits a.rec_.toNat :: Lib.decDigits a.pay.toNat :: restA a
def printA (a:ActV):ByteArray:=if mayA a=true then ⟨(Lib.join (wordsA a) [32]).toArray⟩ else noB
def splitL (l:List UInt8):List (List UInt8):=match l with
 | []=>[[]]
 | c :: r=>if c=32 then [] :: splitL r else match splitL r with
  | w :: ws=>(c :: w) :: ws
  | []=>[[c]]
theorem split_ne:∀ l:List UInt8,splitL l≠[]
 | []=>by simp[splitL]
 | c :: r=>by
  unfold splitL
  split
  ·simp
  ·split <;> simp
theorem split_word:∀ {w:List UInt8},(32:UInt8)∉w→splitL w=[w]
 | [],_=>rfl
 | c :: r,h=>by
  have h1:¬ c=32:=fun e=>h (by rw[e];exact List.mem_cons_self)
  rw[splitL,if_neg h1,split_word (fun e=>h (List.mem_cons_of_mem _ e))]
theorem split_first:∀ {w:List UInt8} (r:List UInt8),(32:UInt8)∉w→splitL (w++32 :: r)=w :: splitL r
 | [],r,_=>by
  show splitL (32 :: r) = _
  rw[splitL,if_pos rfl]
 | c :: w,r,h=>by
  have h1:¬ c=32:=fun e=>h (by rw[e];exact List.mem_cons_self)
  show splitL (c :: (w++32 :: r)) = _
  rw[splitL,if_neg h1,split_first r (fun e=>h (List.mem_cons_of_mem _ e))]
def kindW (w:List UInt8):Option Int:=if w=wordK 0 then some 0 else if w=wordK 1 then some 1 else if w=wordK 2 then some 2 else if w=wordK 3 then some 3 else if w=wordK 4 then some 4 else none
theorem kindW_word {k:Int} (h0:0≤k) (h4:k≤4):kindW (wordK k)=some k:=by
 have:k=0∨k=1∨k=2∨k=3∨k=4:=by omega
 rcases this with rfl|rfl|rfl|rfl|rfl <;> decide
theorem kindW_le {w:List UInt8} {k:Int} (h:kindW w=some k):0≤k∧k≤4∧w=wordK k:=by
 unfold kindW at h
 (repeat' split at h) <;> first|(rename_i e;have h':=Option.some.inj h;subst h';exact⟨by decide,by decide,e⟩)|cases h
def dayW (w:List UInt8):Int×Bool:=smallS ⟨w.toArray⟩
def ratW (w:List UInt8):BB×Bool:=match parseL w with
 | some q=>(rT q,true)
 | none=>(no2,false)
def owed (k:Int):Nat:=6+(if kOther k=true then 1 else 0)+(if kRatio k=true then 1 else 0)+(if kCash k=true then 1 else 0)
def wAt (l:List (List UInt8)) (i:Nat):List UInt8:=l.getD i []
def wB (l:List (List UInt8)) (i:Nat):ByteArray:=⟨(wAt l i).toArray⟩
def ratAt (k:Int):Nat:=if kOther k=true then 7 else 6
def cashAt (k:Int):Nat:=ratAt k+(if kRatio k=true then 1 else 0)
def readA (k:Int) (l:List (List UInt8)):ActV:={ name:=wB l 1,kind:=k,asset:=wB l 2,other:=if kOther k=true then wB l 6 else noB,ratio:=if kRatio k=true then (ratW (wAt l (ratAt k))).1 else rT 0,cash:=if kCash k=true then (ratW (wAt l (cashAt k))).1 else rT 0,ex:=(dayW (wAt l 3)).1,rec_:=(dayW (wAt l 4)).1,pay:=(dayW (wAt l 5)).1 }
def readOk (k:Int) (l:List (List UInt8)):Bool:=decide (l.length=owed k)&&((dayW (wAt l 3)).2&&((dayW (wAt l 4)).2&&((dayW (wAt l 5)).2&&((!kRatio k || (ratW (wAt l (ratAt k))).2)&&(!kCash k || (ratW (wAt l (cashAt k))).2)))))
def parseWs (l:List (List UInt8)):Option ActV:=match kindW (wAt l 0) with
 | some k=>if (readOk k l&&mayA (readA k l))=true then some (readA k l) else none
 | none=>none
theorem mayA_and {a:ActV} (h:mayA a=true):(0≤a.kind∧a.kind≤4)∧nameL a.name.data.toList=true∧assetL a.asset.data.toList=true∧daysOk a=true∧otherOk a=true∧numOk a.ratio (kRatio a.kind) 1=true∧numOk a.cash (kCash a.kind) (kLeast a.kind)=true:=by
 unfold mayA at h
 simp only[Bool.and_eq_true,decide_eq_true_eq] at h
 exact⟨⟨h.1,h.2.1⟩,h.2.2.1,h.2.2.2.1,h.2.2.2.2.1,h.2.2.2.2.2.1,h.2.2.2.2.2.2.1,h.2.2.2.2.2.2.2⟩
theorem toB (s:ByteArray):(⟨s.data.toList.toArray⟩:ByteArray)=s:=bext rfl
theorem print_list {a:ActV} (h:mayA a=true):(printA a).data.toList=Lib.join (wordsA a) [32]:=by
 unfold printA
 rw[if_pos h]
theorem print_not {a:ActV} (h:¬ mayA a=true):printA a=noB:=if_neg h
theorem Rd.set_ok {w:World} {g gb i:Nat} {ws:List ByteArray} {ok:Bool} (h:Rd w g gb ws i ok) (b:Bool):Rd (w.setCell ⟨g,1,none⟩ (.bool b)) g gb ws i b:=by
 obtain⟨⟨A,c,c0,hA⟩,c1,f0,f1,row,ne,sz,inb⟩:=h
 refine⟨⟨A,c,?_,hA⟩,?_,?_,?_,?_,ne,sz,?_⟩
 ·rw[off_cell _ (by decide)];exact c0
 ·exact World.cell?_setCell_same _ _ _ c1
 ·rw[World.frozen?_setCell];exact f0
 ·rw[World.frozen?_setCell];exact f1
 ·intro j x hj
  rw[far_cell _ ne]
  exact row j x hj
 ·simpa using inb
theorem day_calls {g gb i:Nat} {ws:List ByteArray} {ok:Bool} {w0 w:World} (hL:Laid w0) (hb0:Below w0.heap.size w0 w) (hB:w0.heap.size≤g) (h:Rd w g gb ws i ok) (hsz:(ws.getD i ⟨#[]⟩).size≤50000) :
  Calls Tryz.prog 20 #[.pointer (some ⟨g,0,none⟩)] w fun e w'=>e=.returned (.int .i64 (smallS (ws.getD i ⟨#[]⟩)).1)∧Rd w' g gb ws (i+1) ((ok&&decide (i<ws.length))&&(smallS (ws.getD i ⟨#[]⟩)).2)∧Below w0.heap.size w0 w'∧(∀ b,b≠g→b<w.heap.size→w'.heap[b]?=w.heap[b]?):=by
 have hw:=word_calls (B:=w0.heap.size) hB h
 have hsm:nat_Small.f (ws.getD i ⟨#[]⟩)=some ((smallS (ws.getD i ⟨#[]⟩)).1,(smallS (ws.getD i ⟨#[]⟩)).2):=if_pos (decide_eq_true hsz)
 generalize ws.getD i ⟨#[]⟩=s at hw hsm ⊢
 generalize (smallS s).1=n at hsm ⊢
 generalize (smallS s).2=b at hsm ⊢
 generalize (ok&&decide (i<ws.length))=ok1 at hw ⊢
 clear hsz h
 cases ok1 <;> cases b
 all_goals
  go_enter Tryz.func20,Tryz.ntmps20
  go_wp2_with (first|(go_at_call 18;refine hw.mono ?_;rintro e w1 ⟨rfl,h1,b1,k1⟩;have hc1:=h1.c1;have hf1:=h1.f1)|(go_at_call 41;refine(nat_Small.calls s n _ w1 (hL.below (hb0.trans b1)) hsm).mono ?_;rintro e w2 ⟨rfl,b2⟩;have h2:=h1.below b2;have hc2:=h2.c1;have hf2:=h2.f1))
  go_ret
  refine⟨rfl,h2.set_ok _,((hb0.trans b1).trans (b2.mono (below_size (hb0.trans b1)))).setCell hB _,fun k hk hk2=>?_⟩
  rw[heap_setCell_other _ _ _ _ hk,b2.block k (Nat.lt_of_lt_of_le hk2 b1.size),k1 k hk]
def gcdS (a b:ByteArray):ByteArray:=if may2 a b=true then natB (Nat.gcd (numB a) (numB b)) else noB
theorem gcd_loop:∀ (n m k:Nat),(lim m).length≤50000→(lim n).length≤50000→n+1≤k→Pr.nat_Gcd.l0 k (lim m) (lim n)=some (natB (Nat.gcd m n))
 | n,m,k,hm,hn,hk=>by
  obtain⟨k,rfl⟩:∃ j,k=j+1:=⟨k-1,by omega⟩
  simp only[Pr.nat_Gcd.l0]
  by_cases h:n=0
  ·subst h
   rw[lim_zero,if_neg (by decide),text_natB (by omega),Nat.gcd_zero_right]
   rfl
  ·have h1:((lim n).length:Int)>0:=by
    have:((lim n).length:Int)≠0:=fun e=>h ((lim_zero_len n).1 e)
    omega
   rw[if_pos h1,divL_f hm hn h,ob_]
   have h2:=Nat.mod_lt m (show 0<n by omega)
   have:=gcd_loop (m % n) n k hn (Nat.le_trans (lim_le_len (Nat.mod_le m n)) hm) (by omega)
   rw[this,Nat.gcd_comm m n,Nat.gcd_rec n m,Nat.gcd_comm]
 termination_by n=>n
 decreasing_by exact Nat.mod_lt m (by omega)
theorem gcd_f {a b:ByteArray} (ha:sm a=true) (hb:sm b=true) (k:Nat) (hk:numB b+1≤k):Pr.nat_Gcd.f k a b=some (gcdS a b):=by
 obtain⟨k,rfl⟩:∃ j,k=j+1:=⟨k-1,by omega⟩
 unfold Pr.nat_Gcd.f gcdS
 rw[both_f ha hb,ob_]
 by_cases h:may2 a b=true
 ·obtain⟨h1,h2⟩:=may2_and h
  rw[if_pos h,if_pos rfl,if_pos h]
  exact gcd_loop (numB b) (numB a) (k+1) (lim_sm ha h1) (lim_sm hb h2) hk
 ·rw[if_neg h,if_neg (by decide),if_neg h]
  rfl
def nat_Gcd.f (a0 a1:ByteArray):Option ByteArray:=if sm2 a0 a1=true then some (gcdS a0 a1) else none
theorem nat_Gcd.calls (a0 a1 r:ByteArray) (w:World) (hL_:Laid w) (h:nat_Gcd.f a0 a1=some r) :
  Calls Tryz.prog 99 #[.string a0,.string a1] w fun e w'=>e=.returned (.string r)∧Below w.heap.size w w':=by
 unfold nat_Gcd.f at h
 split at h
 ·rename_i hp
  rw[← gcd_f (and2 hp).1 (and2 hp).2 _ (nr_ _)] at h
  exact Pr.nat_Gcd.calls _ a0 a1 r w hL_ h
 ·cases h
theorem fGcd {m n:Nat} (hm:sz m≤50000) (hn:sz n≤50000):nat_Gcd.f (natB m) (natB n)=some (natB (Nat.gcd m n)):=by
 unfold nat_Gcd.f gcdS
 rw[if_pos (sm2_natB hm hn),if_pos (may2_natB m n),numB_natB,numB_natB]
namespace Py
def errW:Option Int→Value
 | none=>.nilIface
 | some c=>.iface 0 (.int .i64 c)
theorem errW_none:errW none=.nilIface:=rfl
theorem errW_some (c:Int):errW (some c)=.iface 0 (.int .i64 c):=rfl
end Py
end Go.Proofs.YtoghmeffpgbcfaaGreatDoor