/-
Parts of the proof, in build order: Pk2, Pk3, Pk4, Pk, Ref15A, Ref15B, Ref15W, RefSmall, Sq15, Ref15E.
-/
import Derived.Test.YtoghmeffpgbcfaaGreatDoorY5
set_option linter.unusedVariables false
set_option linter.unusedSimpArgs false
set_option maxHeartbeats 64000000
set_option maxRecDepth 100000
namespace Go.Proofs.YtoghmeffpgbcfaaGreatDoor
open Go.RowKit Go.Proofs.YtoghmeffpgbcfaaGreatDoorW.PrintWords Go.Proofs.YtoghmeffpgbcfaaGreatDoorW.PrintLast Go.Proofs.YtoghmeffpgbcfaaGreatDoorW.PrintMore
attribute [local go_sem] max2_int min2_int max_two min_two max_three min_three max_four min_four
namespace Pk
attribute [local go_sem high] eqA23
def r6_Name.l0:Nat→ByteArray→Int→Option (Bool)
 | 0,_,_=>none
 | k+1,x0,x3=>if x3<(x0.size:Int) then (if 0≤x3 then (if (bt x0 x3)<97 then (if (bt x0 x3)<48 then (if (bt x0 x3)=33 then (if x3>0 then (some false) else (r6_Name.l0 k x0 (wrap64 (x3+1)))) else (some false)) else (if (bt x0 x3)>57 then (if (bt x0 x3)=33 then (if x3>0 then (some false) else (r6_Name.l0 k x0 (wrap64 (x3+1)))) else (some false)) else (r6_Name.l0 k x0 (wrap64 (x3+1))))) else (if (bt x0 x3)>122 then (if (bt x0 x3)<48 then (if (bt x0 x3)=33 then (if x3>0 then (some false) else (r6_Name.l0 k x0 (wrap64 (x3+1)))) else (some false)) else (if (bt x0 x3)>57 then (if (bt x0 x3)=33 then (if x3>0 then (some false) else (r6_Name.l0 k x0 (wrap64 (x3+1)))) else (some false)) else (r6_Name.l0 k x0 (wrap64 (x3+1))))) else (r6_Name.l0 k x0 (wrap64 (x3+1))))) else (none)) else (if (x0.size:Int)≥1 then (some (decide ((x0.size:Int)≤20))) else (some false))
def r6_Name.f (k:Nat) (a0:ByteArray):Option (Bool):=r6_Name.l0 k a0 0
theorem r6_Name.calls (k:Nat) (a0:ByteArray) (r:Bool) (w:World) (h:r6_Name.f k a0=some r) :
  Calls Tryz.prog 30 #[.string a0] w fun e w'=>e=.returned (.bool r)∧Drawn0 w w':=by
 have H:=h;unfold r6_Name.f at H;clear h;have H':=ak_ H;clear H;go_in;go_wp2
 go_loopg [3] k (fun kq v3 w'=>∃ (x3_1:Int),v3=.int .i64 x3_1∧Aside0 (r6_Name.l0 kq a0 x3_1=some r)∧Aside0 (kq≤k)∧Drawn0 w w')
 case atStart=>exact⟨(0),rl_,H',⟨nr_ _⟩,d0_⟩
 case round =>
  clear H';obtain⟨x3_1,rfl,HA,HK1,⟨m1,rfl⟩⟩:=hrel
  cases gk with
  | zero=>exact absurd HA.out (by simp[r6_Name.l0])
  | succ k1 =>
   have H:=HA.out;clear HA;simp only[r6_Name.l0] at H;replace H:=bw_ H;rcases H with ⟨c2,H⟩|⟨c2,H⟩
   ·have c2b0:=dt_ c2;clear c2;replace H:=bx_ H;obtain⟨c3,H⟩:=H;replace c3:=dt_ c3;replace H:=bw_ H;rcases H with ⟨c5,H⟩|⟨c5,H⟩
    ·have c5b0:=dt_ c5;clear c5;replace H:=bw_ H;rcases H with ⟨c6,H⟩|⟨c6,H⟩
     ·have c6b0:=dt_ c6;clear c6;replace H:=bw_ H;rcases H with ⟨c7,H⟩|⟨c7,H⟩
      ·have c7b0:((bt a0 x3_1) == 33)=true:=beq_iff_eq.mpr c7;have c7b1:((bt a0 x3_1) != 33)=false:=bne_eq_false_iff_eq.mpr c7;clear c7;replace H:=bw_ H;rcases H with ⟨c8,H⟩|⟨c8,H⟩
       ·have c8b0:decide (0<x3_1)=true:=decide_eq_true c8;clear c8;obtain rfl:=oi_ H;have p4:0≤(x3_1:Int):=od_ as_f;have q4:x3_1<(a0.size:Int):=od_ as_f;have hx4:=bt_at a0 x3_1;replace p4:=eq_true p4;replace q4:=eq_true q4;go_wp2
        go_ret
        exact⟨rl_,d0_⟩
       ·have c8b0:decide (0<x3_1)=false:=decide_eq_false c8;clear c8;have H':=ak_ H;clear H;have p4:0≤(x3_1:Int):=od_ as_f;have q4:x3_1<(a0.size:Int):=od_ as_f;have hx4:=bt_at a0 x3_1;replace p4:=eq_true p4;replace q4:=eq_true q4;go_wp2
        go_roundg k1
        case measure=>have:=HK1.out;omega
        case rel=>exact⟨(wrap64 (x3_1+1)),rl_,H',⟨by have:=HK1.out;omega⟩,d0_⟩
      ·have c7b0:((bt a0 x3_1) == 33)=false:=beq_eq_false_iff_ne.mpr c7;have c7b1:((bt a0 x3_1) != 33)=true:=bne_iff_ne.mpr c7;obtain rfl:=oi_ H;have p4:0≤(x3_1:Int):=od_ as_f;have q4:x3_1<(a0.size:Int):=od_ as_f;have hx4:=bt_at a0 x3_1;replace p4:=eq_true p4;replace q4:=eq_true q4;go_wp2
       go_ret
       exact⟨rl_,d0_⟩
     ·have c6b0:=df_ c6;clear c6;replace H:=bw_ H;rcases H with ⟨c9,H⟩|⟨c9,H⟩
      ·have c9b0:decide (57<(bt a0 x3_1))=true:=decide_eq_true c9;clear c9;replace H:=bw_ H;rcases H with ⟨c10,H⟩|⟨c10,H⟩
       ·have c10b0:((bt a0 x3_1) == 33)=true:=beq_iff_eq.mpr c10;have c10b1:((bt a0 x3_1) != 33)=false:=bne_eq_false_iff_eq.mpr c10;clear c10;replace H:=bw_ H;rcases H with ⟨c11,H⟩|⟨c11,H⟩
        ·have c11b0:decide (0<x3_1)=true:=decide_eq_true c11;clear c11;obtain rfl:=oi_ H;have p4:0≤(x3_1:Int):=od_ as_f;have q4:x3_1<(a0.size:Int):=od_ as_f;have hx4:=bt_at a0 x3_1;replace p4:=eq_true p4;replace q4:=eq_true q4;go_wp2
         go_ret
         exact⟨rl_,d0_⟩
        ·have c11b0:decide (0<x3_1)=false:=decide_eq_false c11;clear c11;have H':=ak_ H;clear H;have p4:0≤(x3_1:Int):=od_ as_f;have q4:x3_1<(a0.size:Int):=od_ as_f;have hx4:=bt_at a0 x3_1;replace p4:=eq_true p4;replace q4:=eq_true q4;go_wp2
         go_roundg k1
         case measure=>have:=HK1.out;omega
         case rel=>exact⟨(wrap64 (x3_1+1)),rl_,H',⟨by have:=HK1.out;omega⟩,d0_⟩
       ·have c10b0:((bt a0 x3_1) == 33)=false:=beq_eq_false_iff_ne.mpr c10;have c10b1:((bt a0 x3_1) != 33)=true:=bne_iff_ne.mpr c10;obtain rfl:=oi_ H;have p4:0≤(x3_1:Int):=od_ as_f;have q4:x3_1<(a0.size:Int):=od_ as_f;have hx4:=bt_at a0 x3_1;replace p4:=eq_true p4;replace q4:=eq_true q4;go_wp2
        go_ret
        exact⟨rl_,d0_⟩
      ·have c9b0:decide (57<(bt a0 x3_1))=false:=decide_eq_false c9;clear c9;have H':=ak_ H;clear H;have p4:0≤(x3_1:Int):=od_ as_f;have q4:x3_1<(a0.size:Int):=od_ as_f;have hx4:=bt_at a0 x3_1;replace p4:=eq_true p4;replace q4:=eq_true q4;go_wp2
       go_roundg k1
       case measure=>have:=HK1.out;omega
       case rel=>exact⟨(wrap64 (x3_1+1)),rl_,H',⟨by have:=HK1.out;omega⟩,d0_⟩
    ·have c5b0:=df_ c5;clear c5;replace H:=bw_ H;rcases H with ⟨c12,H⟩|⟨c12,H⟩
     ·have c12b0:decide (122<(bt a0 x3_1))=true:=decide_eq_true c12;clear c12;replace H:=bw_ H;rcases H with ⟨c13,H⟩|⟨c13,H⟩
      ·have c13b0:=dt_ c13;clear c13;replace H:=bw_ H;rcases H with ⟨c14,H⟩|⟨c14,H⟩
       ·have c14b0:((bt a0 x3_1) == 33)=true:=beq_iff_eq.mpr c14;have c14b1:((bt a0 x3_1) != 33)=false:=bne_eq_false_iff_eq.mpr c14;clear c14;replace H:=bw_ H;rcases H with ⟨c15,H⟩|⟨c15,H⟩
        ·have c15b0:decide (0<x3_1)=true:=decide_eq_true c15;clear c15;obtain rfl:=oi_ H;have p4:0≤(x3_1:Int):=od_ as_f;have q4:x3_1<(a0.size:Int):=od_ as_f;have hx4:=bt_at a0 x3_1;replace p4:=eq_true p4;replace q4:=eq_true q4;go_wp2
         go_ret
         exact⟨rl_,d0_⟩
        ·have c15b0:decide (0<x3_1)=false:=decide_eq_false c15;clear c15;have H':=ak_ H;clear H;have p4:0≤(x3_1:Int):=od_ as_f;have q4:x3_1<(a0.size:Int):=od_ as_f;have hx4:=bt_at a0 x3_1;replace p4:=eq_true p4;replace q4:=eq_true q4;go_wp2
         go_roundg k1
         case measure=>have:=HK1.out;omega
         case rel=>exact⟨(wrap64 (x3_1+1)),rl_,H',⟨by have:=HK1.out;omega⟩,d0_⟩
       ·have c14b0:((bt a0 x3_1) == 33)=false:=beq_eq_false_iff_ne.mpr c14;have c14b1:((bt a0 x3_1) != 33)=true:=bne_iff_ne.mpr c14;obtain rfl:=oi_ H;have p4:0≤(x3_1:Int):=od_ as_f;have q4:x3_1<(a0.size:Int):=od_ as_f;have hx4:=bt_at a0 x3_1;replace p4:=eq_true p4;replace q4:=eq_true q4;go_wp2
        go_ret
        exact⟨rl_,d0_⟩
      ·have c13b0:=df_ c13;clear c13;replace H:=bw_ H;rcases H with ⟨c16,H⟩|⟨c16,H⟩
       ·have c16b0:decide (57<(bt a0 x3_1))=true:=decide_eq_true c16;clear c16;replace H:=bw_ H;rcases H with ⟨c17,H⟩|⟨c17,H⟩
        ·have c17b0:((bt a0 x3_1) == 33)=true:=beq_iff_eq.mpr c17;have c17b1:((bt a0 x3_1) != 33)=false:=bne_eq_false_iff_eq.mpr c17;clear c17;replace H:=bw_ H;rcases H with ⟨c18,H⟩|⟨c18,H⟩
         ·have c18b0:decide (0<x3_1)=true:=decide_eq_true c18;clear c18;obtain rfl:=oi_ H;have p4:0≤(x3_1:Int):=od_ as_f;have q4:x3_1<(a0.size:Int):=od_ as_f;have hx4:=bt_at a0 x3_1;replace p4:=eq_true p4;replace q4:=eq_true q4;go_wp2
          go_ret
          exact⟨rl_,d0_⟩
         ·have c18b0:decide (0<x3_1)=false:=decide_eq_false c18;clear c18;have H':=ak_ H;clear H;have p4:0≤(x3_1:Int):=od_ as_f;have q4:x3_1<(a0.size:Int):=od_ as_f;have hx4:=bt_at a0 x3_1;replace p4:=eq_true p4;replace q4:=eq_true q4;go_wp2
          go_roundg k1
          case measure=>have:=HK1.out;omega
          case rel=>exact⟨(wrap64 (x3_1+1)),rl_,H',⟨by have:=HK1.out;omega⟩,d0_⟩
        ·have c17b0:((bt a0 x3_1) == 33)=false:=beq_eq_false_iff_ne.mpr c17;have c17b1:((bt a0 x3_1) != 33)=true:=bne_iff_ne.mpr c17;obtain rfl:=oi_ H;have p4:0≤(x3_1:Int):=od_ as_f;have q4:x3_1<(a0.size:Int):=od_ as_f;have hx4:=bt_at a0 x3_1;replace p4:=eq_true p4;replace q4:=eq_true q4;go_wp2
         go_ret
         exact⟨rl_,d0_⟩
       ·have c16b0:decide (57<(bt a0 x3_1))=false:=decide_eq_false c16;clear c16;have H':=ak_ H;clear H;have p4:0≤(x3_1:Int):=od_ as_f;have q4:x3_1<(a0.size:Int):=od_ as_f;have hx4:=bt_at a0 x3_1;replace p4:=eq_true p4;replace q4:=eq_true q4;go_wp2
        go_roundg k1
        case measure=>have:=HK1.out;omega
        case rel=>exact⟨(wrap64 (x3_1+1)),rl_,H',⟨by have:=HK1.out;omega⟩,d0_⟩
     ·have c12b0:decide (122<(bt a0 x3_1))=false:=decide_eq_false c12;clear c12;have H':=ak_ H;clear H;have p4:0≤(x3_1:Int):=od_ as_f;have q4:x3_1<(a0.size:Int):=od_ as_f;have hx4:=bt_at a0 x3_1;replace p4:=eq_true p4;replace q4:=eq_true q4;go_wp2
      go_roundg k1
      case measure=>have:=HK1.out;omega
      case rel=>exact⟨(wrap64 (x3_1+1)),rl_,H',⟨by have:=HK1.out;omega⟩,d0_⟩
   ·have c2b0:=df_ c2;clear c2;replace H:=bw_ H;rcases H with ⟨c19,H⟩|⟨c19,H⟩
    ·have c19b0:decide (1≤(a0.size:Int))=true:=decide_eq_true c19;have c19b1:decide (1≤a0.size)=true:=decide_eq_true (by omega);clear c19;obtain rfl:=oi_ H;go_wp2
     go_ret
     exact⟨rl_,d0_⟩
    ·have c19b0:decide (1≤(a0.size:Int))=false:=decide_eq_false c19;have c19b1:decide (1≤a0.size)=false:=decide_eq_false (by omega);clear c19;obtain rfl:=oi_ H;go_wp2
     go_ret
     exact⟨rl_,d0_⟩
mutual
def r14_Words.l0:Nat→ByteArray→Int→List ByteArray→Int→Int→Option (List ByteArray)
 | 0,_,_,_,_,_=>none
 | k+1,x0,x1,x5,x6,x7=>if x7<(x0.size:Int) then (r14_Words.j1 k x0 x1 x5 x6 x7 (decide ((x5.length:Int)<(wrap64 (x1-1))))) else (r14_Words.j1 k x0 x1 x5 x6 x7 false)
def r14_Words.j1:Nat→ByteArray→Int→List ByteArray→Int→Int→Bool→Option (List ByteArray)
 | 0,_,_,_,_,_,_=>none
 | k+1,x0,x1,x5,x6,x7,x19=>if x19=true then (if 0≤x7 then (if x7<(x0.size:Int) then (if (bt x0 x7)=32 then (if 0≤x6 then (if x6≤x7 then (if x7≤(x0.size:Int) then (if x5.length<8796093022208 then (r14_Words.l0 k x0 x1 (x5 ++ [x0.extract (x6:Int).toNat (x7:Int).toNat]) (wrap64 (x7+1)) (wrap64 (x7+1))) else (none)) else (none)) else (none)) else (none)) else (r14_Words.l0 k x0 x1 x5 x6 (wrap64 (x7+1)))) else (none)) else (none)) else (if 0≤x6 then (if x6≤(x0.size:Int) then (if x5.length<8796093022208 then (some (x5 ++ [x0.extract (x6:Int).toNat x0.size])) else (none)) else (none)) else (none))
end
def r14_Words.f (k:Nat) (a0:ByteArray) (a1:Int):Option (List ByteArray):=r14_Words.l0 k a0 a1 (([]:List ByteArray)) 0 0
theorem r14_Words.calls (k:Nat) (a0:ByteArray) (a1:Int) (r:List ByteArray) (w:World) (h:r14_Words.f k a0 a1=some r) :
  Calls Tryz.prog 22 #[.string a0,.int .i64 a1] w fun e w'=>∃ v0_:Value,e=.returned (v0_)∧Kd.R Kd.string 9 w' w.heap.size (fun _=>True) v0_ r∧Below w.heap.size w w':=by
 have HB:=ak_ (Below.refl w.heap.size w);have H:=h;unfold r14_Words.f at H;clear h;obtain⟨y101,hy101⟩:∃ y_:List ByteArray,y_ = (([]:List ByteArray)):=⟨_,rfl⟩
 replace H:(r14_Words.l0 k a0 a1 y101 0 0)=some r:=hr_ hy101 H
 have Ny101:=ak_ hy101;clear hy101;have H':=ak_ H;clear H;go_in
 go_wp2_with (((with_reducible refine gate_dst (N:=8) rfl ?_);(try(refine gate_guard (by rfl) ?_;dsimp only));refine Kd.R_lit Kd.string _ 9 ?hg (N:=8) ?hd (xs:=([]:List ByteArray)) (inner:=[]) (ok:=fun _=>True) (okp:=fun _=>True) ?hr ?hp (fun _ hk=>hk) trivial (Below.refl _ _) (nr_ _) (by simp) ?_;(case hd=>rfl);(case hg=>rfl);(case hr=>first|(go_simp;done)|(go_simp;rfl));(case hp=>exact(Reps.none _ _));intro v102 w3 ho4 hb hg_ hnew_;clear hg_ hnew_;(first|rw[← Ny101.out] at ho4|(simp only[Int.reduceToNat] at ho4;rw[← Ny101.out] at ho4));have HO103:=ak_ (Kd.R_lower ho4 (below_size (b_ HB.out)));replace HB:=bs_ HB hb;clear hb ho4))
 go_loopg [5,6,7] k (fun kq v5 v6 v7 w'=>∃ (x5_1:List ByteArray) (x6_1:Int) (x7_1:Int),v6=.int .i64 x6_1∧v7=.int .i64 x7_1∧Aside0 (r14_Words.l0 kq a0 a1 x5_1 x6_1 x7_1=some r)∧Aside0 (kq≤k)∧Aside0 (Kd.R Kd.string 9 w' w.heap.size (fun _=>True) v5 x5_1)∧Aside0 (Below w.heap.size w w'))
 case atStart=>exact⟨(y101),(0),(0),rl_,rl_,H',⟨nr_ _⟩,⟨by(with_reducible repeat(first|apply Kd.R_alloc|apply Kd.R_drewN|apply Kd.R_drew));exact HO103.out⟩,⟨b_ HB.out⟩⟩
 case round =>
  clear H';obtain⟨x5_1,x6_1,x7_1,rfl,rfl,HA,HK1,HO_5,HB⟩:=hrel
  cases gk with
  | zero=>exact absurd HA.out (by simp[r14_Words.l0])
  | succ k1 =>
   have H:=HA.out;clear HA;simp only[r14_Words.l0] at H;have HC5:=ak_ H;clear H
   go_upto_region 4 with (fail)
   go_cut [19] (fun v19 wc=>∃ (kq:Nat) (x19_4:Bool),v19=.bool x19_4∧Aside0 (r14_Words.j1 kq a0 a1 x5_1 x6_1 x7_1 x19_4=some r)∧Aside0 (kq≤k1)∧Aside0 (Kd.R Kd.string 9 wc w.heap.size (fun _=>True) u5 x5_1)∧Aside0 (Below w.heap.size w wc))
   case first =>
    have H:=HC5.out;clear HC5;replace H:=bw_ H;rcases H with ⟨c6,H⟩|⟨c6,H⟩
    ·have c6b0:=dt_ c6;clear c6;(first|rw[c6b0]|(simp only[i64_w,i32_w];rw[c6b0])|skip);have H':=ak_ H;clear H;obtain⟨Ao7,co7,eo7⟩:=Kd.R_slice HO_5.out;subst eo7;go_wp2
     go_meet
     case rel=>exact⟨_,(decide ((x5_1.length:Int)<(wrap64 (a1-1)))),rl_,H',⟨by have:=HK1.out;first|omega|exact nr_ _⟩,⟨by(with_reducible repeat(first|apply Kd.R_alloc|apply Kd.R_drewN|apply Kd.R_drew));exact HO_5.out⟩,⟨b_ HB.out⟩⟩
    ·have c6b0:=df_ c6;clear c6;(first|rw[c6b0]|(simp only[i64_w,i32_w];rw[c6b0])|skip);have H':=ak_ H;clear H;go_wp2
     go_meet
     case rel=>exact⟨_,(false),rl_,H',⟨by have:=HK1.out;first|omega|exact nr_ _⟩,⟨by(with_reducible repeat(first|apply Kd.R_alloc|apply Kd.R_drewN|apply Kd.R_drew));exact HO_5.out⟩,⟨b_ HB.out⟩⟩
   case rest =>
    clear HC5;obtain⟨kq,x19_4,rfl,HA,HJ4,HO_5,HB⟩:=hcut
    cases kq with
    | zero=>exact absurd HA.out (by simp[r14_Words.j1])
    | succ kj4 =>
     have H:=HA.out;clear HA;simp only[r14_Words.j1] at H;replace H:=bt_ H;rcases H with ⟨rfl,H⟩|⟨rfl,H⟩
     ·replace H:=bx_ H;obtain⟨c9,H⟩:=H;replace c9:=dt_ c9;replace H:=bx_ H;obtain⟨c10,H⟩:=H;replace c10:=dt_ c10;replace H:=bw_ H;rcases H with ⟨c12,H⟩|⟨c12,H⟩
      ·have c12b0:((bt a0 x7_1) == 32)=true:=beq_iff_eq.mpr c12;have c12b1:((bt a0 x7_1) != 32)=false:=bne_eq_false_iff_eq.mpr c12;clear c12;replace H:=bx_ H;obtain⟨c13,H⟩:=H;have c13b0:=eq_true c13;replace c13:=dt_ c13;replace H:=bx_ H;obtain⟨c14,H⟩:=H;have c14b0:=eq_true c14;replace c14:=dt_ c14;replace H:=bx_ H;obtain⟨c15,H⟩:=H;have c15b0:=eq_true c15;replace c15:=dt_ c15;replace H:=bx_ H;obtain⟨c16,H⟩:=H;have LMc16:=ak_ c16;clear c16;obtain⟨y104,hy104⟩:∃ y_:List ByteArray,y_ = (x5_1 ++ [a0.extract (x6_1:Int).toNat (x7_1:Int).toNat]):=⟨_,rfl⟩
       replace H:(r14_Words.l0 kj4 a0 a1 y104 (wrap64 (x7_1+1)) (wrap64 (x7_1+1)))=some r:=hr_ hy104 H
       have Ny104:=ak_ hy104;clear hy104;have H':=ak_ H;clear H;have p11:0≤(x7_1:Int):=od_ as_f;have q11:x7_1<(a0.size:Int):=od_ as_f;have hx11:=bt_at a0 x7_1;replace p11:=eq_true p11;replace q11:=eq_true q11
       go_wp2_with (((with_reducible refine gate_builtin (b:=.append) (xs:=#[.tmp 26,.tmp 31]) rfl ?_);(try(refine gate_guard (by rfl) ?_;dsimp only));at_builtin;refine Kd.R_append Kd.string (w0:=w) w.heap.size rfl (.tmp 26) (.tmp 31) 40 9 (.string ⟨#[]⟩) 16 rfl Tryz.underlying40 info9 rfl (by decide) (by omega) u5 x5_1 (a0.extract (x6_1:Int).toNat (x7_1:Int).toNat) [.string (a0.extract (x6_1:Int).toNat (x7_1:Int).toNat)] (fun _=>True) (fun _=>False) rfl rfl ?aP (fun _ hk=>hk.elim) ?aF ?aO ?aB ?aS ?aL ?_;(case aP=>exact rfl);(case aB=>exact(b_ HB.out));(case aF=>exact(fun _ _=>trivial));(case aO=>exact(w_ HO_5.out));(case aS=>exact(below_size (b_ HB.out)));(case aL=>have:=LMc16.out;omega);intro v105 w17 ho hb hg hat;rw[← Ny104.out] at ho;have HO106:=ak_ (ho);replace HB:=ak_ (hb);clear HO_5;clear ho hb hg hat))
       go_roundg kj4
       case measure=>have:=HK1.out;have:=HJ4.out;omega
       case rel=>exact⟨(y104),(wrap64 (x7_1+1)),(wrap64 (x7_1+1)),rl_,rl_,H',⟨by have:=HK1.out;have:=HJ4.out;omega⟩,⟨by(with_reducible repeat(first|apply Kd.R_alloc|apply Kd.R_drewN|apply Kd.R_drew));exact HO106.out⟩,⟨b_ HB.out⟩⟩
      ·have c12b0:((bt a0 x7_1) == 32)=false:=beq_eq_false_iff_ne.mpr c12;have c12b1:((bt a0 x7_1) != 32)=true:=bne_iff_ne.mpr c12;have H':=ak_ H;clear H;have p11:0≤(x7_1:Int):=od_ as_f;have q11:x7_1<(a0.size:Int):=od_ as_f;have hx11:=bt_at a0 x7_1;replace p11:=eq_true p11;replace q11:=eq_true q11;go_wp2
       go_roundg kj4
       case measure=>have:=HK1.out;have:=HJ4.out;omega
       case rel=>exact⟨(x5_1),(x6_1),(wrap64 (x7_1+1)),rl_,rl_,H',⟨by have:=HK1.out;have:=HJ4.out;omega⟩,⟨by(with_reducible repeat(first|apply Kd.R_alloc|apply Kd.R_drewN|apply Kd.R_drew));exact HO_5.out⟩,⟨b_ HB.out⟩⟩
     ·replace H:=bx_ H;obtain⟨c18,H⟩:=H;have c18b0:=eq_true c18;replace c18:=dt_ c18;replace H:=bx_ H;obtain⟨c19,H⟩:=H;have c19b0:=eq_true c19;replace c19:=dt_ c19;replace H:=bx_ H;obtain⟨c20,H⟩:=H;have LMc20:=ak_ c20;clear c20;obtain⟨y107,hy107⟩:∃ y_:List ByteArray,y_ = (x5_1 ++ [a0.extract (x6_1:Int).toNat a0.size]):=⟨_,rfl⟩
      replace H:(some y107)=some r:=hr_ hy107 H
      have Ny107:=ak_ hy107;clear hy107;obtain rfl:=oi_ H
      go_wp2_with (((with_reducible refine gate_builtin (b:=.append) (xs:=#[.tmp 35,.tmp 39]) rfl ?_);(try(refine gate_guard (by rfl) ?_;dsimp only));at_builtin;refine Kd.R_append Kd.string (w0:=w) w.heap.size rfl (.tmp 35) (.tmp 39) 40 9 (.string ⟨#[]⟩) 16 rfl Tryz.underlying40 info9 rfl (by decide) (by omega) u5 x5_1 (a0.extract (x6_1:Int).toNat a0.size) [.string (a0.extract (x6_1:Int).toNat a0.size)] (fun _=>True) (fun _=>False) rfl rfl ?aP (fun _ hk=>hk.elim) ?aF ?aO ?aB ?aS ?aL ?_;(case aP=>exact rfl);(case aB=>exact(b_ HB.out));(case aF=>exact(fun _ _=>trivial));(case aO=>exact(w_ HO_5.out));(case aS=>exact(below_size (b_ HB.out)));(case aL=>have:=LMc20.out;omega);intro v108 w21 ho hb hg hat;rw[← Ny107.out] at ho;have HO109:=ak_ (ho);replace HB:=ak_ (hb);clear HO_5;clear ho hb hg hat))
      go_ret
      exact⟨_,er_,by(with_reducible repeat(first|apply Kd.R_alloc|apply Kd.R_drewN|apply Kd.R_drew));exact HO109.out,b_ HB.out⟩
def r15_names.f (a0:Int):Option (Bool×Bool×Bool):=if a0=2 then (some (decide (a0≥3),(a0 != 2),true)) else (some (decide (a0≥3),(a0 != 2),(a0 == 4)))
theorem r15_names.calls (a0:Int) (r1 r2 r3:Bool) (w:World) (h:r15_names.f a0=some (r1,r2,r3)) :
  Calls Tryz.prog 24 #[.int .i64 a0] w fun e w'=>e=.returned (.tuple #[.bool r1,.bool r2,.bool r3])∧Drawn0 w w':=by
 have H:=h;unfold r15_names.f at H;clear h;replace H:=bw_ H;rcases H with ⟨c2,H⟩|⟨c2,H⟩
 ·have c2b0:(a0 == 2)=true:=beq_iff_eq.mpr c2;have c2b1:(a0 != 2)=false:=bne_eq_false_iff_eq.mpr c2;clear c2;replace H:=pi3_ H;obtain⟨rfl,rfl,rfl⟩:=H;go_in;go_wp2
  go_ret3
  exact⟨rl_,d0_⟩
 ·have c2b0:(a0 == 2)=false:=beq_eq_false_iff_ne.mpr c2;have c2b1:(a0 != 2)=true:=bne_iff_ne.mpr c2;replace H:=pi3_ H;obtain⟨rfl,rfl,rfl⟩:=H;go_in;go_wp2
  go_ret3
  exact⟨rl_,d0_⟩
def r15_asset.f (k:Nat) (a0:ByteArray):Option (Bool):=(r6_Name.f k a0).bind fun t110=>(if t110=true then (if 0<(a0.size:Int) then (if (bt a0 0)=33 then (some false) else (if (bt a0 0)<48 then (some (a0.toList != ([99,97,115,104]:List UInt8))) else (if (bt a0 0)>57 then (some (a0.toList != ([99,97,115,104]:List UInt8))) else (some false)))) else (none)) else (some false))
theorem r15_asset.calls (k:Nat) (a0:ByteArray) (r:Bool) (w:World) (h:r15_asset.f k a0=some r) :
  Calls Tryz.prog 31 #[.string a0] w fun e w'=>e=.returned (.bool r)∧Drawn0 w w':=by
 have H:=h;unfold r15_asset.f at H;clear h;replace H:=bi_ H;obtain⟨t110,A2,H⟩:=H;replace H:=bt_ H;rcases H with ⟨rfl,H⟩|⟨rfl,H⟩
 ·replace H:=bx_ H;obtain⟨c4,H⟩:=H;have c4b0:=dt_ c4;have c4b1:decide (0<a0.size)=true:=decide_eq_true (by omega);clear c4;replace H:=bw_ H;rcases H with ⟨c6,H⟩|⟨c6,H⟩
  ·have c6b0:((bt a0 0) == 33)=true:=beq_iff_eq.mpr c6;have c6b1:((bt a0 0) != 33)=false:=bne_eq_false_iff_eq.mpr c6;clear c6;obtain rfl:=oi_ H;go_in
   go_wp2_with ((refine gm_ 4 Tryz.func30 (r6_Name.calls _ _ _ _ A2.out) ?_;rintro w' ⟨nd,rfl⟩;have p5:0≤(0:Int):=(by omega);have q5:0<a0.size:=(by have:(0:Int)<(a0.size:Int):=od_ as_f;omega);have hx5:∀ h:0<a0.size,((a0[0]'h).toNat:Int)=bt a0 0:=bt_at a0 0;clear p5;have qi5:(0<(a0.size:Int))=True:=eq_true (od_ as_f);replace q5:=eq_true q5))
   go_ret
   exact⟨rl_,d0_⟩
  ·have c6b0:((bt a0 0) == 33)=false:=beq_eq_false_iff_ne.mpr c6;have c6b1:((bt a0 0) != 33)=true:=bne_iff_ne.mpr c6;replace H:=bw_ H;rcases H with ⟨c8,H⟩|⟨c8,H⟩
   ·have c8b0:=dt_ c8;clear c8;obtain rfl:=oi_ H;go_in
    go_wp2_with ((refine gm_ 4 Tryz.func30 (r6_Name.calls _ _ _ _ A2.out) ?_;rintro w' ⟨nd,rfl⟩;have p5:0≤(0:Int):=(by omega);have q5:0<a0.size:=(by have:(0:Int)<(a0.size:Int):=od_ as_f;omega);have hx5:∀ h:0<a0.size,((a0[0]'h).toNat:Int)=bt a0 0:=bt_at a0 0;clear p5;have qi5:(0<(a0.size:Int))=True:=eq_true (od_ as_f);replace q5:=eq_true q5;have p7:0≤(0:Int):=(by omega);have q7:0<a0.size:=(by have:(0:Int)<(a0.size:Int):=od_ as_f;omega);have hx7:∀ h:0<a0.size,((a0[0]'h).toNat:Int)=bt a0 0:=bt_at a0 0;clear p7;have qi7:(0<(a0.size:Int))=True:=eq_true (od_ as_f);replace q7:=eq_true q7))
    go_ret
    exact⟨rl_,d0_⟩
   ·have c8b0:=df_ c8;clear c8;replace H:=bw_ H;rcases H with ⟨c10,H⟩|⟨c10,H⟩
    ·have c10b0:decide (57<(bt a0 0))=true:=decide_eq_true c10;clear c10;obtain rfl:=oi_ H;go_in
     go_wp2_with ((refine gm_ 4 Tryz.func30 (r6_Name.calls _ _ _ _ A2.out) ?_;rintro w' ⟨nd,rfl⟩;have p5:0≤(0:Int):=(by omega);have q5:0<a0.size:=(by have:(0:Int)<(a0.size:Int):=od_ as_f;omega);have hx5:∀ h:0<a0.size,((a0[0]'h).toNat:Int)=bt a0 0:=bt_at a0 0;clear p5;have qi5:(0<(a0.size:Int))=True:=eq_true (od_ as_f);replace q5:=eq_true q5;have p7:0≤(0:Int):=(by omega);have q7:0<a0.size:=(by have:(0:Int)<(a0.size:Int):=od_ as_f;omega);have hx7:∀ h:0<a0.size,((a0[0]'h).toNat:Int)=bt a0 0:=bt_at a0 0;clear p7;have qi7:(0<(a0.size:Int))=True:=eq_true (od_ as_f);replace q7:=eq_true q7;have p9:0≤(0:Int):=(by omega);have q9:0<a0.size:=(by have:(0:Int)<(a0.size:Int):=od_ as_f;omega);have hx9:∀ h:0<a0.size,((a0[0]'h).toNat:Int)=bt a0 0:=bt_at a0 0;clear p9;have qi9:(0<(a0.size:Int))=True:=eq_true (od_ as_f);replace q9:=eq_true q9))
     go_ret
     exact⟨rl_,d0_⟩
    ·have c10b0:decide (57<(bt a0 0))=false:=decide_eq_false c10;clear c10;obtain rfl:=oi_ H;go_in
     go_wp2_with ((refine gm_ 4 Tryz.func30 (r6_Name.calls _ _ _ _ A2.out) ?_;rintro w' ⟨nd,rfl⟩;have p5:0≤(0:Int):=(by omega);have q5:0<a0.size:=(by have:(0:Int)<(a0.size:Int):=od_ as_f;omega);have hx5:∀ h:0<a0.size,((a0[0]'h).toNat:Int)=bt a0 0:=bt_at a0 0;clear p5;have qi5:(0<(a0.size:Int))=True:=eq_true (od_ as_f);replace q5:=eq_true q5;have p7:0≤(0:Int):=(by omega);have q7:0<a0.size:=(by have:(0:Int)<(a0.size:Int):=od_ as_f;omega);have hx7:∀ h:0<a0.size,((a0[0]'h).toNat:Int)=bt a0 0:=bt_at a0 0;clear p7;have qi7:(0<(a0.size:Int))=True:=eq_true (od_ as_f);replace q7:=eq_true q7;have p9:0≤(0:Int):=(by omega);have q9:0<a0.size:=(by have:(0:Int)<(a0.size:Int):=od_ as_f;omega);have hx9:∀ h:0<a0.size,((a0[0]'h).toNat:Int)=bt a0 0:=bt_at a0 0;clear p9;have qi9:(0<(a0.size:Int))=True:=eq_true (od_ as_f);replace q9:=eq_true q9))
     go_ret
     exact⟨rl_,d0_⟩
 ·obtain rfl:=oi_ H;go_in
  go_wp2_with ((refine gm_ 4 Tryz.func30 (r6_Name.calls _ _ _ _ A2.out) ?_;rintro w' ⟨nd,rfl⟩))
  go_ret
  exact⟨rl_,d0_⟩
def r15_number.f (a0_0 a0_1:ByteArray) (a1:Bool) (a2:Int):Option (Bool):=if a1=true then ((r3_May.f a0_0 a0_1).bind fun t112=>(if t112=true then ((r3_Sign.f a0_0 a0_1).bind fun t113=>(if t113≥a2 then (if (a0_0.size:Int)≤20 then (some (decide ((a0_1.size:Int)≤20))) else (some false)) else (some false))) else (some false))) else ((r3_Of.f 0).bind fun bt114=>(some (a0_0.toList == bt114.1.toList&&(a0_1.toList == bt114.2.toList))))
theorem r15_number.calls (a0_0 a0_1:ByteArray) (a1:Bool) (a2:Int) (r:Bool) (w:World) (h:r15_number.f a0_0 a0_1 a1 a2=some r) :
  Calls Tryz.prog 32 #[.agg #[.string a0_0,.string a0_1],.bool a1,.int .i64 a2] w fun e w'=>e=.returned (.bool r)∧Below w.heap.size w w':=by
 have hu23:=Tryz.underlying23;have HB:=ak_ (Below.refl w.heap.size w);have H:=h;unfold r15_number.f at H;clear h;replace H:=bt_ H;rcases H with ⟨rfl,H⟩|⟨rfl,H⟩
 ·replace H:=bi_ H;obtain⟨t112,A5,H⟩:=H;replace H:=bt_ H;rcases H with ⟨rfl,H⟩|⟨rfl,H⟩
  ·replace H:=bi_ H;obtain⟨t113,A7,H⟩:=H;replace H:=bw_ H;rcases H with ⟨c8,H⟩|⟨c8,H⟩
   ·have c8b0:decide (a2≤t113)=true:=decide_eq_true c8;clear c8;replace H:=bw_ H;rcases H with ⟨c9,H⟩|⟨c9,H⟩
    ·have c9b0:=dt_ c9;have c9b1:decide (a0_0.size≤20)=true:=decide_eq_true (by omega);clear c9;obtain rfl:=oi_ H;go_in
     go_wp2_with (first|((with_reducible refine gate_dst (N:=3) rfl ?_);(try(refine gate_guard (by rfl) ?_;dsimp only));refine bf_ 3 #[.string a0_0,.string a0_1] 23 HB ?_;clear HB;intro gb111 w10 BK111 GW111 HB;have hz11:=cs2_ BK111)|(refine gm_ 13 Tryz.func55 (r3_May.calls _ _ _ _ A5.out) ?_;intro w12 hb;replace BK111:=kb_ BK111 hb;replace HB:=bs_ HB hb;(try clear hb);have hz13:=cs2_ BK111)|(go_at_call 56;(with_reducible refine(r3_Sign.calls _ _ _ _ A7.out).mono ?_);rintro e w14 ⟨rfl,hb⟩;replace BK111:=kb_ BK111 hb;replace HB:=bs_ HB hb;(try clear hb);have hz15:=cs2_ BK111))
     go_ret
     exact⟨er_,b_ HB.out⟩
    ·have c9b0:=df_ c9;have c9b1:decide (a0_0.size≤20)=false:=decide_eq_false (by omega);clear c9;obtain rfl:=oi_ H;go_in
     go_wp2_with (first|((with_reducible refine gate_dst (N:=3) rfl ?_);(try(refine gate_guard (by rfl) ?_;dsimp only));refine bf_ 3 #[.string a0_0,.string a0_1] 23 HB ?_;clear HB;intro gb111 w16 BK111 GW111 HB;have hz17:=cs2_ BK111)|(refine gm_ 13 Tryz.func55 (r3_May.calls _ _ _ _ A5.out) ?_;intro w18 hb;replace BK111:=kb_ BK111 hb;replace HB:=bs_ HB hb;(try clear hb);have hz19:=cs2_ BK111)|(go_at_call 56;(with_reducible refine(r3_Sign.calls _ _ _ _ A7.out).mono ?_);rintro e w20 ⟨rfl,hb⟩;replace BK111:=kb_ BK111 hb;replace HB:=bs_ HB hb;(try clear hb);have hz21:=cs2_ BK111))
     go_ret
     exact⟨er_,b_ HB.out⟩
   ·have c8b0:decide (a2≤t113)=false:=decide_eq_false c8;clear c8;obtain rfl:=oi_ H;go_in
    go_wp2_with (first|((with_reducible refine gate_dst (N:=3) rfl ?_);(try(refine gate_guard (by rfl) ?_;dsimp only));refine bf_ 3 #[.string a0_0,.string a0_1] 23 HB ?_;clear HB;intro gb111 w22 BK111 GW111 HB;have hz23:=cs2_ BK111)|(refine gm_ 13 Tryz.func55 (r3_May.calls _ _ _ _ A5.out) ?_;intro w24 hb;replace BK111:=kb_ BK111 hb;replace HB:=bs_ HB hb;(try clear hb);have hz25:=cs2_ BK111)|(go_at_call 56;(with_reducible refine(r3_Sign.calls _ _ _ _ A7.out).mono ?_);rintro e w26 ⟨rfl,hb⟩;replace BK111:=kb_ BK111 hb;replace HB:=bs_ HB hb;(try clear hb)))
    go_ret
    exact⟨er_,b_ HB.out⟩
  ·obtain rfl:=oi_ H;go_in
   go_wp2_with (first|((with_reducible refine gate_dst (N:=3) rfl ?_);(try(refine gate_guard (by rfl) ?_;dsimp only));refine bf_ 3 #[.string a0_0,.string a0_1] 23 HB ?_;clear HB;intro gb111 w27 BK111 GW111 HB;have hz28:=cs2_ BK111)|(refine gm_ 13 Tryz.func55 (r3_May.calls _ _ _ _ A5.out) ?_;intro w29 hb;replace BK111:=kb_ BK111 hb;replace HB:=bs_ HB hb;(try clear hb)))
   go_ret
   exact⟨er_,b_ HB.out⟩
 ·replace H:=bi_ H;obtain⟨⟨t114,t115⟩,A30,H⟩:=H;(try dsimp only at H);obtain rfl:=oi_ H;go_in
  try go_wp2_with (((with_reducible refine gate_dst (N:=3) rfl ?_);(try(refine gate_guard (by rfl) ?_;dsimp only));refine bf_ 3 #[.string a0_0,.string a0_1] 23 HB ?_;clear HB;intro gb111 w31 BK111 GW111 HB))
  replace BK111:=ak_ (blk_drew BK111.out);replace HB:=ak_ (below_drew1 HB.out);refine sa_ 4 (fun w'=>w'.cell? ⟨gb111,0,none⟩=some (.string a0_0)∧w'.cell? ⟨gb111,1,none⟩=some (.string a0_1)) (fun hHeld=>?_);generalize w31.drew=w32 at BK111 HB hHeld ⊢;refine take_ (i:=0) (N:=some 9) (v:=?_) (a':=?_) #[true,false,false,false] rfl rfl (by kernel_rfl) (fun _ _ _ h=>h) (Or.inl ⟨by rfl,?_⟩) hHeld ?_ ?_;rotate_left
  ·rintro w' ⟨s0,s1⟩;go_simp;with_reducible rfl
  rotate_left
  ·exact ap_
  refine one_ (i:=1) (N:=some 10) #[true,true,false,false] rfl rfl (by kernel_rfl) (by decide) (fun K hK=>?_);refine gn_ Tryz.func15 (r3_Of.calls _ _ _ _ A30.out) ?_;intro w33 hb;replace BK111:=kb_ BK111 hb;replace HB:=bs_ HB hb;(try clear hb);refine hk_ hK (fun hHeld=>?_);clear hK K;refine nm_ ?_;refine pure_ (i:=2) (N:=some 11) (v:=?_) (a':=?_) #[true,true,true,false] rfl rfl (by kernel_rfl) (fun _ _ _ h=>h) (Or.inl ⟨by rfl,?_⟩) ?_ ?_;rotate_left
  ·intro w';go_simp;with_reducible rfl
  rotate_left
  ·exact ap_
  refine pure_ (i:=3) (N:=some 6) (v:=?_) (a':=?_) #[true,true,true,true] rfl rfl (by kernel_rfl) (fun _ _ _ h=>h) (Or.inl ⟨by rfl,?_⟩) ?_ ?_;rotate_left
  ·intro w';go_simp;with_reducible rfl
  rotate_left
  ·exact ap_
  refine done_ (by kernel_rfl) ?_
  try go_wp2
  go_ret
  exact⟨er_,b_ HB.out⟩
end Pk
namespace Pk
mutual
def r15_May.j0:Nat→Bool→ByteArray→Int→ByteArray→ByteArray→ByteArray→ByteArray→ByteArray→ByteArray→Int→Int→Int→Option (Bool)
 | 0,_,_,_,_,_,_,_,_,_,_,_,_=>none
 | k+1,x50,x117000,x117001,x117002,x117003,x117004,x117005,x117006,x117007,x117008,x117009,x117010=>if x50=true then (some false) else ((r15_names.f x117001).bind fun bt119=>(if bt119.1=true then ((r15_asset.f k x117003).bind fun t122=>(if t122=true then (if x117003.toList=x117002.toList then (r15_May.j1 k bt119.2.1 bt119.2.2 true x117000 x117001 x117002 x117003 x117004 x117005 x117006 x117007 x117008 x117009 x117010) else (r15_May.j1 k bt119.2.1 bt119.2.2 false x117000 x117001 x117002 x117003 x117004 x117005 x117006 x117007 x117008 x117009 x117010)) else (r15_May.j1 k bt119.2.1 bt119.2.2 true x117000 x117001 x117002 x117003 x117004 x117005 x117006 x117007 x117008 x117009 x117010))) else (r15_May.j1 k bt119.2.1 bt119.2.2 (x117003.toList != ([]:List UInt8)) x117000 x117001 x117002 x117003 x117004 x117005 x117006 x117007 x117008 x117009 x117010)))
def r15_May.j1:Nat→Bool→Bool→Bool→ByteArray→Int→ByteArray→ByteArray→ByteArray→ByteArray→ByteArray→ByteArray→Int→Int→Int→Option (Bool)
 | 0,_,_,_,_,_,_,_,_,_,_,_,_,_,_=>none
 | k+1,x4,x5,x80,x117000,x117001,x117002,x117003,x117004,x117005,x117006,x117007,x117008,x117009,x117010=>if x80=true then (some false) else (if x117001=4 then ((r15_number.f x117004 x117005 x4 1).bind fun t123=>(if t123=true then ((r15_number.f x117006 x117007 x5 0).bind fun t124=>(some t124)) else (some false))) else ((r15_number.f x117004 x117005 x4 1).bind fun t125=>(if t125=true then ((r15_number.f x117006 x117007 x5 1).bind fun t126=>(some t126)) else (some false))))
end
def r15_May.f (k:Nat) (a0_0:ByteArray) (a0_1:Int) (a0_2 a0_3 a0_4 a0_5 a0_6 a0_7:ByteArray) (a0_8 a0_9 a0_10:Int):Option (Bool):=(r6_Name.f k a0_0).bind fun t117=>(if t117=true then ((r15_asset.f k a0_2).bind fun t118=>(if t118=true then (if a0_1<0 then (r15_May.j0 k true a0_0 a0_1 a0_2 a0_3 a0_4 a0_5 a0_6 a0_7 a0_8 a0_9 a0_10) else (if a0_1>4 then (r15_May.j0 k true a0_0 a0_1 a0_2 a0_3 a0_4 a0_5 a0_6 a0_7 a0_8 a0_9 a0_10) else (if a0_8<0 then (r15_May.j0 k true a0_0 a0_1 a0_2 a0_3 a0_4 a0_5 a0_6 a0_7 a0_8 a0_9 a0_10) else (if a0_8>a0_9 then (r15_May.j0 k true a0_0 a0_1 a0_2 a0_3 a0_4 a0_5 a0_6 a0_7 a0_8 a0_9 a0_10) else (if a0_9>a0_10 then (r15_May.j0 k true a0_0 a0_1 a0_2 a0_3 a0_4 a0_5 a0_6 a0_7 a0_8 a0_9 a0_10) else (r15_May.j0 k (decide (a0_10>9999)) a0_0 a0_1 a0_2 a0_3 a0_4 a0_5 a0_6 a0_7 a0_8 a0_9 a0_10)))))) else (r15_May.j0 k true a0_0 a0_1 a0_2 a0_3 a0_4 a0_5 a0_6 a0_7 a0_8 a0_9 a0_10))) else (r15_May.j0 k true a0_0 a0_1 a0_2 a0_3 a0_4 a0_5 a0_6 a0_7 a0_8 a0_9 a0_10))
theorem r15_May.calls (k:Nat) (a0_0:ByteArray) (a0_1:Int) (a0_2 a0_3 a0_4 a0_5 a0_6 a0_7:ByteArray) (a0_8 a0_9 a0_10:Int) (r:Bool) (w:World) (h:r15_May.f k a0_0 a0_1 a0_2 a0_3 a0_4 a0_5 a0_6 a0_7 a0_8 a0_9 a0_10=some r) :
  Calls Tryz.prog 12 #[.agg #[.string a0_0,.int .i64 a0_1,.string a0_2,.string a0_3,.string a0_4,.string a0_5,.string a0_6,.string a0_7,.int .i64 a0_8,.int .i64 a0_9,.int .i64 a0_10]] w fun e w'=>e=.returned (.bool r)∧Below w.heap.size w w':=by
 have hu25:=Tryz.underlying25;have hu23:=Tryz.underlying23;have HB:=ak_ (Below.refl w.heap.size w);have H:=h;unfold r15_May.f at H;clear h;have HC2:=ak_ H;clear H;go_in
 go_upto_region 1 with (first|(refine bf_ 1 #[.string a0_0,.int .i64 a0_1,.string a0_2,.string a0_3,.string a0_4,.string a0_5,.string a0_6,.string a0_7,.int .i64 a0_8,.int .i64 a0_9,.int .i64 a0_10] 25 HB ?_;clear HB;intro gb116 w3 BK116 GW116 HB))
 (try simp only[Act.put,List.setIfInBounds_toArray,List.set_cons_zero,List.set_cons_succ])
 go_cut [50] (fun v50 wc=>∃ (kq:Nat) (x50_1:Bool),v50=.bool x50_1∧Aside0 (r15_May.j0 kq x50_1 a0_0 a0_1 a0_2 a0_3 a0_4 a0_5 a0_6 a0_7 a0_8 a0_9 a0_10=some r)∧Aside0 (kq≤k)∧Aside0 (wc.heap[gb116]?=some (.cells #[.string a0_0,.int .i64 a0_1,.string a0_2,.string a0_3,.string a0_4,.string a0_5,.string a0_6,.string a0_7,.int .i64 a0_8,.int .i64 a0_9,.int .i64 a0_10] 25 (0,0)))∧Aside0 (Below w.heap.size w wc))
 case first =>
  have H:=HC2.out;clear HC2;replace H:=bi_ H;obtain⟨t117,A4,H⟩:=H;replace H:=bt_ H;rcases H with ⟨rfl,H⟩|⟨rfl,H⟩
  ·replace H:=bi_ H;obtain⟨t118,A6,H⟩:=H;replace H:=bt_ H;rcases H with ⟨rfl,H⟩|⟨rfl,H⟩
   ·replace H:=bw_ H;rcases H with ⟨c8,H⟩|⟨c8,H⟩
    ·have c8b0:=dt_ c8;clear c8;(first|rw[c8b0]|(simp only[i64_w,i32_w];rw[c8b0])|skip);have H':=ak_ H;clear H;have hz9:=cs11_ BK116
     go_wp2_with (first|(refine gm_ 9 Tryz.func30 (r6_Name.calls _ _ _ _ A4.out) ?_;rintro w' ⟨nd,rfl⟩)|(go_at_call 31;(with_reducible refine(r15_asset.calls _ _ _ _ A6.out).mono ?_);rintro e w' ⟨rfl,⟨nd,rfl⟩⟩))
     go_meet
     case rel=>exact⟨_,(true),rl_,H',⟨nk_⟩,⟨k_ BK116.out⟩,⟨b_ HB.out⟩⟩
    ·have c8b0:=df_ c8;clear c8;(first|rw[c8b0]|(simp only[i64_w,i32_w];rw[c8b0])|skip);replace H:=bw_ H;rcases H with ⟨c10,H⟩|⟨c10,H⟩
     ·have c10b0:decide (4<a0_1)=true:=decide_eq_true c10;clear c10;have H':=ak_ H;clear H;have hz11:=cs11_ BK116
      go_wp2_with (first|(refine gm_ 9 Tryz.func30 (r6_Name.calls _ _ _ _ A4.out) ?_;rintro w' ⟨nd,rfl⟩)|(go_at_call 31;(with_reducible refine(r15_asset.calls _ _ _ _ A6.out).mono ?_);rintro e w' ⟨rfl,⟨nd,rfl⟩⟩))
      go_meet
      case rel=>exact⟨_,(true),rl_,H',⟨nk_⟩,⟨k_ BK116.out⟩,⟨b_ HB.out⟩⟩
     ·have c10b0:decide (4<a0_1)=false:=decide_eq_false c10;clear c10;replace H:=bw_ H;rcases H with ⟨c12,H⟩|⟨c12,H⟩
      ·have c12b0:=dt_ c12;clear c12;have H':=ak_ H;clear H;have hz13:=cs11_ BK116
       go_wp2_with (first|(refine gm_ 9 Tryz.func30 (r6_Name.calls _ _ _ _ A4.out) ?_;rintro w' ⟨nd,rfl⟩)|(go_at_call 31;(with_reducible refine(r15_asset.calls _ _ _ _ A6.out).mono ?_);rintro e w' ⟨rfl,⟨nd,rfl⟩⟩))
       go_meet
       case rel=>exact⟨_,(true),rl_,H',⟨nk_⟩,⟨k_ BK116.out⟩,⟨b_ HB.out⟩⟩
      ·have c12b0:=df_ c12;clear c12;replace H:=bw_ H;rcases H with ⟨c14,H⟩|⟨c14,H⟩
       ·have c14b0:decide (a0_9<a0_8)=true:=decide_eq_true c14;clear c14;have H':=ak_ H;clear H;have hz15:=cs11_ BK116
        go_wp2_with (first|(refine gm_ 9 Tryz.func30 (r6_Name.calls _ _ _ _ A4.out) ?_;rintro w' ⟨nd,rfl⟩)|(go_at_call 31;(with_reducible refine(r15_asset.calls _ _ _ _ A6.out).mono ?_);rintro e w' ⟨rfl,⟨nd,rfl⟩⟩))
        go_meet
        case rel=>exact⟨_,(true),rl_,H',⟨nk_⟩,⟨k_ BK116.out⟩,⟨b_ HB.out⟩⟩
       ·have c14b0:decide (a0_9<a0_8)=false:=decide_eq_false c14;clear c14;replace H:=bw_ H;rcases H with ⟨c16,H⟩|⟨c16,H⟩
        ·have c16b0:decide (a0_10<a0_9)=true:=decide_eq_true c16;clear c16;have H':=ak_ H;clear H;have hz17:=cs11_ BK116
         go_wp2_with (first|(refine gm_ 9 Tryz.func30 (r6_Name.calls _ _ _ _ A4.out) ?_;rintro w' ⟨nd,rfl⟩)|(go_at_call 31;(with_reducible refine(r15_asset.calls _ _ _ _ A6.out).mono ?_);rintro e w' ⟨rfl,⟨nd,rfl⟩⟩))
         go_meet
         case rel=>exact⟨_,(true),rl_,H',⟨nk_⟩,⟨k_ BK116.out⟩,⟨b_ HB.out⟩⟩
        ·have c16b0:decide (a0_10<a0_9)=false:=decide_eq_false c16;clear c16;have H':=ak_ H;clear H;have hz18:=cs11_ BK116
         go_wp2_with (first|(refine gm_ 9 Tryz.func30 (r6_Name.calls _ _ _ _ A4.out) ?_;rintro w' ⟨nd,rfl⟩)|(go_at_call 31;(with_reducible refine(r15_asset.calls _ _ _ _ A6.out).mono ?_);rintro e w' ⟨rfl,⟨nd,rfl⟩⟩))
         go_meet
         case rel=>exact⟨_,(decide (a0_10>9999)),rl_,H',⟨nk_⟩,⟨k_ BK116.out⟩,⟨b_ HB.out⟩⟩
   ·have H':=ak_ H;clear H;have hz19:=cs11_ BK116
    go_wp2_with (first|(refine gm_ 9 Tryz.func30 (r6_Name.calls _ _ _ _ A4.out) ?_;rintro w' ⟨nd,rfl⟩)|(go_at_call 31;(with_reducible refine(r15_asset.calls _ _ _ _ A6.out).mono ?_);rintro e w' ⟨rfl,⟨nd,rfl⟩⟩))
    go_meet
    case rel=>exact⟨_,(true),rl_,H',⟨nk_⟩,⟨k_ BK116.out⟩,⟨b_ HB.out⟩⟩
  ·have H':=ak_ H;clear H;have hz20:=cs11_ BK116
   go_wp2_with ((refine gm_ 9 Tryz.func30 (r6_Name.calls _ _ _ _ A4.out) ?_;rintro w' ⟨nd,rfl⟩))
   go_meet
   case rel=>exact⟨_,(true),rl_,H',⟨nk_⟩,⟨k_ BK116.out⟩,⟨b_ HB.out⟩⟩
 case rest =>
  clear HC2;obtain⟨kq,x50_1,rfl,HA,HJ1,BK116,HB⟩:=hcut
  cases kq with
  | zero=>exact absurd HA.out (by simp[r15_May.j0])
  | succ kj1 =>
   have H:=HA.out;clear HA;simp only[r15_May.j0] at H;replace H:=bt_ H;rcases H with ⟨rfl,H⟩|⟨rfl,H⟩
   ·obtain rfl:=oi_ H;go_wp2
    go_ret
    exact⟨er_,b_ HB.out⟩
   ·replace H:=bi_ H;obtain⟨⟨t119,t120,t121⟩,A22,H⟩:=H;(try dsimp only at H);have HC23:=ak_ H;clear H;have hz24:=cs11_ BK116
    go_upto_region 4 with (first|(refine gm_ 54 Tryz.func24 (r15_names.calls _ _ _ _ _ A22.out) ?_;rintro w' ⟨nd,rfl⟩))
    (try simp only[Act.put,List.setIfInBounds_toArray,List.set_cons_zero,List.set_cons_succ])
    go_cut [80] (fun v80 wc=>∃ (kq:Nat) (x80_22:Bool),v80=.bool x80_22∧Aside0 (r15_May.j1 kq t120 t121 x80_22 a0_0 a0_1 a0_2 a0_3 a0_4 a0_5 a0_6 a0_7 a0_8 a0_9 a0_10=some r)∧Aside0 (kq≤kj1)∧Aside0 (wc.heap[gb116]?=some (.cells #[.string a0_0,.int .i64 a0_1,.string a0_2,.string a0_3,.string a0_4,.string a0_5,.string a0_6,.string a0_7,.int .i64 a0_8,.int .i64 a0_9,.int .i64 a0_10] 25 (0,0)))∧Aside0 (Below w.heap.size w wc))
    case first =>
     have H:=HC23.out;clear HC23;replace H:=bt_ H;rcases H with ⟨rfl,H⟩|⟨rfl,H⟩
     ·replace H:=bi_ H;obtain⟨t122,A26,H⟩:=H;replace H:=bt_ H;rcases H with ⟨rfl,H⟩|⟨rfl,H⟩
      ·replace H:=bw_ H;rcases H with ⟨c28,H⟩|⟨c28,H⟩
       ·have c28b0:(a0_3.toList == a0_2.toList)=true:=beq_iff_eq.mpr c28;have c28b1:(a0_3.toList != a0_2.toList)=false:=bne_eq_false_iff_eq.mpr c28;clear c28;(first|rw[c28b0]|(simp only[i64_w,i32_w];rw[c28b0])|skip);have H':=ak_ H;clear H;have hz29:=cs11_ BK116
        go_wp2_with ((go_at_call 31;(with_reducible refine(r15_asset.calls _ _ _ _ A26.out).mono ?_);rintro e w' ⟨rfl,⟨nd,rfl⟩⟩))
        go_meet
        case rel=>exact⟨_,(true),rl_,H',⟨by have:=HJ1.out;first|omega|exact nr_ _⟩,⟨k_ BK116.out⟩,⟨b_ HB.out⟩⟩
       ·have c28b0:(a0_3.toList == a0_2.toList)=false:=beq_eq_false_iff_ne.mpr c28;have c28b1:(a0_3.toList != a0_2.toList)=true:=bne_iff_ne.mpr c28;(first|rw[c28b0]|(simp only[i64_w,i32_w];rw[c28b0])|skip);have H':=ak_ H;clear H;have hz30:=cs11_ BK116
        go_wp2_with ((go_at_call 31;(with_reducible refine(r15_asset.calls _ _ _ _ A26.out).mono ?_);rintro e w' ⟨rfl,⟨nd,rfl⟩⟩))
        go_meet
        case rel=>exact⟨_,(false),rl_,H',⟨by have:=HJ1.out;first|omega|exact nr_ _⟩,⟨k_ BK116.out⟩,⟨b_ HB.out⟩⟩
      ·have H':=ak_ H;clear H;have hz31:=cs11_ BK116
       go_wp2_with ((go_at_call 31;(with_reducible refine(r15_asset.calls _ _ _ _ A26.out).mono ?_);rintro e w' ⟨rfl,⟨nd,rfl⟩⟩))
       go_meet
       case rel=>exact⟨_,(true),rl_,H',⟨by have:=HJ1.out;first|omega|exact nr_ _⟩,⟨k_ BK116.out⟩,⟨b_ HB.out⟩⟩
     ·have H':=ak_ H;clear H;have hz32:=cs11_ BK116;go_wp2
      go_meet
      case rel=>exact⟨_,((a0_3.toList != ([]:List UInt8))),(by first|rfl|(simp;cases a0_3.toList <;> rfl)|(cases a0_3.toList <;> rfl)|(cases a0_3.toList <;> simp)),H',⟨by have:=HJ1.out;first|omega|exact nr_ _⟩,⟨k_ BK116.out⟩,⟨b_ HB.out⟩⟩
    case rest =>
     clear HC23;(try clear hz24);obtain⟨kq,x80_22,rfl,HA,HJ22,BK116,HB⟩:=hcut
     cases kq with
     | zero=>exact absurd HA.out (by simp[r15_May.j1])
     | succ kj22 =>
      have H:=HA.out;clear HA;simp only[r15_May.j1] at H;replace H:=bt_ H;rcases H with ⟨rfl,H⟩|⟨rfl,H⟩
      ·obtain rfl:=oi_ H;go_wp2
       go_ret
       exact⟨er_,b_ HB.out⟩
      ·replace H:=bw_ H;rcases H with ⟨c34,H⟩|⟨c34,H⟩
       ·have c34b0:(a0_1 == 4)=true:=beq_iff_eq.mpr c34;have c34b1:(a0_1 != 4)=false:=bne_eq_false_iff_eq.mpr c34;clear c34;replace H:=bi_ H;obtain⟨t123,A35,H⟩:=H;replace H:=bt_ H;rcases H with ⟨rfl,H⟩|⟨rfl,H⟩
        ·replace H:=bi_ H;obtain⟨t124,A37,H⟩:=H;obtain rfl:=oi_ H;have hz38:=cs11_ BK116
         go_wp2_with (first|(refine gm_ 87 Tryz.func32 (r15_number.calls _ _ _ _ _ _ A35.out) ?_;intro w39 hb;replace BK116:=kb_ BK116 hb;replace HB:=bs_ HB hb;(try clear hb);have hz40:=cs11_ BK116)|(go_at_call 32;(with_reducible refine(r15_number.calls _ _ _ _ _ _ A37.out).mono ?_);rintro e w41 ⟨rfl,hb⟩;replace BK116:=kb_ BK116 hb;replace HB:=bs_ HB hb;(try clear hb)))
         go_ret
         exact⟨er_,b_ HB.out⟩
        ·obtain rfl:=oi_ H;have hz42:=cs11_ BK116
         go_wp2_with ((refine gm_ 87 Tryz.func32 (r15_number.calls _ _ _ _ _ _ A35.out) ?_;intro w43 hb;replace BK116:=kb_ BK116 hb;replace HB:=bs_ HB hb;(try clear hb)))
         go_ret
         exact⟨er_,b_ HB.out⟩
       ·have c34b0:(a0_1 == 4)=false:=beq_eq_false_iff_ne.mpr c34;have c34b1:(a0_1 != 4)=true:=bne_iff_ne.mpr c34;replace H:=bi_ H;obtain⟨t125,A44,H⟩:=H;replace H:=bt_ H;rcases H with ⟨rfl,H⟩|⟨rfl,H⟩
        ·replace H:=bi_ H;obtain⟨t126,A46,H⟩:=H;obtain rfl:=oi_ H;have hz47:=cs11_ BK116
         go_wp2_with (first|(refine gm_ 87 Tryz.func32 (r15_number.calls _ _ _ _ _ _ A44.out) ?_;intro w48 hb;replace BK116:=kb_ BK116 hb;replace HB:=bs_ HB hb;(try clear hb);have hz49:=cs11_ BK116)|(go_at_call 32;(with_reducible refine(r15_number.calls _ _ _ _ _ _ A46.out).mono ?_);rintro e w50 ⟨rfl,hb⟩;replace BK116:=kb_ BK116 hb;replace HB:=bs_ HB hb;(try clear hb)))
         go_ret
         exact⟨er_,b_ HB.out⟩
        ·obtain rfl:=oi_ H;have hz51:=cs11_ BK116
         go_wp2_with ((refine gm_ 87 Tryz.func32 (r15_number.calls _ _ _ _ _ _ A44.out) ?_;intro w52 hb;replace BK116:=kb_ BK116 hb;replace HB:=bs_ HB hb;(try clear hb)))
         go_ret
         exact⟨er_,b_ HB.out⟩
def r15_word.f (a0:Int):Option (ByteArray):=(some (([(⟨#[115,112,108,105,116]⟩:ByteArray),(⟨#[115,116,111,99,107]⟩:ByteArray),(⟨#[99,97,115,104]⟩:ByteArray),(⟨#[115,112,105,110]⟩:ByteArray),(⟨#[109,101,114,103,101,114]⟩:ByteArray)]:List ByteArray):List ByteArray)).bind fun y127=>(if 0≤a0 then (if a0<(y127.length:Int) then (some (rdOf ByteArray.empty y127 a0)) else (none)) else (none))
theorem r15_word.calls (a0:Int) (r:ByteArray) (w:World) (h:r15_word.f a0=some r) :
  Calls Tryz.prog 23 #[.int .i64 a0] w fun e w'=>e=.returned (.string r)∧Below w.heap.size w w':=by
 have HB:=ak_ (Below.refl w.heap.size w);have H:=h;unfold r15_word.f at H;clear h;obtain⟨y127,hy127⟩:∃ y_:List ByteArray,y_ = (([(⟨#[115,112,108,105,116]⟩:ByteArray),(⟨#[115,116,111,99,107]⟩:ByteArray),(⟨#[99,97,115,104]⟩:ByteArray),(⟨#[115,112,105,110]⟩:ByteArray),(⟨#[109,101,114,103,101,114]⟩:ByteArray)]:List ByteArray)):=⟨_,rfl⟩
 replace H:(if 0≤a0 then (if a0<(y127.length:Int) then (some (rdOf ByteArray.empty y127 a0)) else (none)) else (none))=some r:=hr_ hy127 H
 have Ny127:=ak_ hy127;clear hy127;replace H:=bx_ H;obtain⟨c2,H⟩:=H;replace c2:=dt_ c2;replace H:=bx_ H;obtain⟨c3,H⟩:=H;replace c3:=dt_ c3;obtain rfl:=oi_ H;go_in
 go_wp2_with (((with_reducible refine gate_dst (N:=3) rfl ?_);refine Kd.R_lit Kd.string _ 9 ?hg (N:=3) ?hd (xs:=([(⟨#[115,112,108,105,116]⟩:ByteArray),(⟨#[115,116,111,99,107]⟩:ByteArray),(⟨#[99,97,115,104]⟩:ByteArray),(⟨#[115,112,105,110]⟩:ByteArray),(⟨#[109,101,114,103,101,114]⟩:ByteArray)]:List ByteArray)) (inner:=[.string ⟨#[115,112,108,105,116]⟩,.string ⟨#[115,116,111,99,107]⟩,.string ⟨#[99,97,115,104]⟩,.string ⟨#[115,112,105,110]⟩,.string ⟨#[109,101,114,103,101,114]⟩]) (ok:=fun _=>True) (okp:=fun _=>True) ?hr ?hp (fun _ hk=>hk) trivial (Below.refl _ _) (nr_ _) (by simp) ?_;(case hd=>rfl);(case hg=>rfl);(case hr=>first|(go_simp;done)|(go_simp;rfl));(case hp=>exact(Reps.one (show Kd.M Kd.string _ _ _ (⟨#[115,112,108,105,116]⟩:ByteArray) [.string ⟨#[115,112,108,105,116]⟩] from rfl) (Reps.one (show Kd.M Kd.string _ _ _ (⟨#[115,116,111,99,107]⟩:ByteArray) [.string ⟨#[115,116,111,99,107]⟩] from rfl) (Reps.one (show Kd.M Kd.string _ _ _ (⟨#[99,97,115,104]⟩:ByteArray) [.string ⟨#[99,97,115,104]⟩] from rfl) (Reps.one (show Kd.M Kd.string _ _ _ (⟨#[115,112,105,110]⟩:ByteArray) [.string ⟨#[115,112,105,110]⟩] from rfl) (Reps.one (show Kd.M Kd.string _ _ _ (⟨#[109,101,114,103,101,114]⟩:ByteArray) [.string ⟨#[109,101,114,103,101,114]⟩] from rfl) (Reps.none _ _)))))));intro v128 w4 ho5 hb hg_ hnew_;clear hg_ hnew_;(first|rw[← Ny127.out] at ho5|(simp only[Int.reduceToNat] at ho5;rw[← Ny127.out] at ho5));have HO129:=ak_ (Kd.R_lower ho5 (below_size (b_ HB.out)));replace HB:=bs_ HB hb;clear hb ho5;obtain⟨Ao6,co6,eo6⟩:=Kd.R_slice HO129.out;subst eo6;have p130:0≤(a0:Int):=od_ as_f;have q130:a0<(y127.length:Int):=od_ as_f;obtain⟨ad130,e130,hx130_0⟩:=Kd.at_string (Kd.R_reads' HO129.out).2.2 a0 p130 q130;cases e130;replace p130:=eq_true p130;replace q130:=eq_true q130))
 go_ret
 exact⟨er_,b_ HB.out⟩
def r15_Print.j0:Nat→Bool→Bool→ByteArray→ByteArray→Int→ByteArray→ByteArray→ByteArray→ByteArray→ByteArray→ByteArray→Int→Int→Int→Option (ByteArray)
 | 0,_,_,_,_,_,_,_,_,_,_,_,_,_,_=>none
 | k+1,x4,x5,x6,x132000,x132001,x132002,x132003,x132004,x132005,x132006,x132007,x132008,x132009,x132010=>if x4=true then ((r4_Print.f x132004 x132005).bind fun t140=>(if 1+t140.size≤9223372036854775807 then (if x6.size+((⟨#[32]⟩:ByteArray)++t140).size≤9223372036854775807 then (if x5=true then ((r4_Print.f x132006 x132007).bind fun t141=>(if 1+t141.size≤9223372036854775807 then (if (x6++((⟨#[32]⟩:ByteArray)++t140)).size+((⟨#[32]⟩:ByteArray)++t141).size≤9223372036854775807 then (some ((x6++((⟨#[32]⟩:ByteArray)++t140))++((⟨#[32]⟩:ByteArray)++t141))) else (none)) else (none))) else (some (x6++((⟨#[32]⟩:ByteArray)++t140)))) else (none)) else (none))) else (if x5=true then ((r4_Print.f x132006 x132007).bind fun t142=>(if 1+t142.size≤9223372036854775807 then (if x6.size+((⟨#[32]⟩:ByteArray)++t142).size≤9223372036854775807 then (some (x6++((⟨#[32]⟩:ByteArray)++t142))) else (none)) else (none))) else (some x6))
def r15_Print.f (k:Nat) (a0_0:ByteArray) (a0_1:Int) (a0_2 a0_3 a0_4 a0_5 a0_6 a0_7:ByteArray) (a0_8 a0_9 a0_10:Int):Option (ByteArray):=(r15_May.f k a0_0 a0_1 a0_2 a0_3 a0_4 a0_5 a0_6 a0_7 a0_8 a0_9 a0_10).bind fun t132=>(if t132=true then ((r15_names.f a0_1).bind fun bt133=>((r15_word.f a0_1).bind fun t136=>(if t136.size+1≤9223372036854775807 then (if (t136++(⟨#[32]⟩:ByteArray)).size+a0_0.size≤9223372036854775807 then (if ((t136++(⟨#[32]⟩:ByteArray))++a0_0).size+1≤9223372036854775807 then (if (((t136++(⟨#[32]⟩:ByteArray))++a0_0)++(⟨#[32]⟩:ByteArray)).size+a0_2.size≤9223372036854775807 then (if ((((t136++(⟨#[32]⟩:ByteArray))++a0_0)++(⟨#[32]⟩:ByteArray))++a0_2).size+1≤9223372036854775807 then ((r1_Of.f a0_8).bind fun t137=>(if (((((t136++(⟨#[32]⟩:ByteArray))++a0_0)++(⟨#[32]⟩:ByteArray))++a0_2)++(⟨#[32]⟩:ByteArray)).size+t137.size≤9223372036854775807 then (if ((((((t136++(⟨#[32]⟩:ByteArray))++a0_0)++(⟨#[32]⟩:ByteArray))++a0_2)++(⟨#[32]⟩:ByteArray))++t137).size+1≤9223372036854775807 then ((r1_Of.f a0_9).bind fun t138=>(if (((((((t136++(⟨#[32]⟩:ByteArray))++a0_0)++(⟨#[32]⟩:ByteArray))++a0_2)++(⟨#[32]⟩:ByteArray))++t137)++(⟨#[32]⟩:ByteArray)).size+t138.size≤9223372036854775807 then (if ((((((((t136++(⟨#[32]⟩:ByteArray))++a0_0)++(⟨#[32]⟩:ByteArray))++a0_2)++(⟨#[32]⟩:ByteArray))++t137)++(⟨#[32]⟩:ByteArray))++t138).size+1≤9223372036854775807 then ((r1_Of.f a0_10).bind fun t139=>(if (((((((((t136++(⟨#[32]⟩:ByteArray))++a0_0)++(⟨#[32]⟩:ByteArray))++a0_2)++(⟨#[32]⟩:ByteArray))++t137)++(⟨#[32]⟩:ByteArray))++t138)++(⟨#[32]⟩:ByteArray)).size+t139.size≤9223372036854775807 then (if bt133.1=true then (if 1+a0_3.size≤9223372036854775807 then (if ((((((((((t136++(⟨#[32]⟩:ByteArray))++a0_0)++(⟨#[32]⟩:ByteArray))++a0_2)++(⟨#[32]⟩:ByteArray))++t137)++(⟨#[32]⟩:ByteArray))++t138)++(⟨#[32]⟩:ByteArray))++t139).size+((⟨#[32]⟩:ByteArray)++a0_3).size≤9223372036854775807 then (r15_Print.j0 k bt133.2.1 bt133.2.2 (((((((((((t136++(⟨#[32]⟩:ByteArray))++a0_0)++(⟨#[32]⟩:ByteArray))++a0_2)++(⟨#[32]⟩:ByteArray))++t137)++(⟨#[32]⟩:ByteArray))++t138)++(⟨#[32]⟩:ByteArray))++t139)++((⟨#[32]⟩:ByteArray)++a0_3)) a0_0 a0_1 a0_2 a0_3 a0_4 a0_5 a0_6 a0_7 a0_8 a0_9 a0_10) else (none)) else (none)) else (r15_Print.j0 k bt133.2.1 bt133.2.2 ((((((((((t136++(⟨#[32]⟩:ByteArray))++a0_0)++(⟨#[32]⟩:ByteArray))++a0_2)++(⟨#[32]⟩:ByteArray))++t137)++(⟨#[32]⟩:ByteArray))++t138)++(⟨#[32]⟩:ByteArray))++t139) a0_0 a0_1 a0_2 a0_3 a0_4 a0_5 a0_6 a0_7 a0_8 a0_9 a0_10)) else (none))) else (none)) else (none))) else (none)) else (none))) else (none)) else (none)) else (none)) else (none)) else (none)))) else (some (⟨#[]⟩:ByteArray)))
def r15_Print.T4:Bool×List (List Nat×List Nat):=(true,[([],[]),([0],[0]),([1],[1]),([2],[2]),([],[]),([4],[4]),([3,5],[3,5]),([6],[6]),([],[]),([8],[8]),([7,9],[7,9]),([10],[10]),([],[]),([12],[12]),([13,2],[13]),([11,14],[11,14]),([15],[15]),([],[]),([17],[17]),([18,14],[18]),([16,19],[16,19]),([20],[20]),([],[]),([22],[22]),([23,19],[23]),([21,24],[21,24]),([25,24,0,1,2,3,4,5,6,7,8,9,10,11,12,13,14,15,16,17,18,19,20,21,22,23,24,25],[25])])
def r15_Print.B4:List Nat:=[0,1,3,7,0,16,63,127,0,256,1023,2047,0,4096,12295,32767,65535,0,131072,421895,1048575,2097151,0,4194304,13529095,33554431,67108863]
theorem r15_Print.tab4:rtab .any (opsOf Tryz.f14 4)=r15_Print.T4:=by kernel_rfl
theorem r15_Print.bits4:waitsOk r15_Print.T4.2 r15_Print.B4=true:=by kernel_rfl
theorem r15_Print.calls (k:Nat) (a0_0:ByteArray) (a0_1:Int) (a0_2 a0_3 a0_4 a0_5 a0_6 a0_7:ByteArray) (a0_8 a0_9 a0_10:Int) (r:ByteArray) (w:World) (h:r15_Print.f k a0_0 a0_1 a0_2 a0_3 a0_4 a0_5 a0_6 a0_7 a0_8 a0_9 a0_10=some r) :
  Calls Tryz.prog 14 #[.agg #[.string a0_0,.int .i64 a0_1,.string a0_2,.string a0_3,.string a0_4,.string a0_5,.string a0_6,.string a0_7,.int .i64 a0_8,.int .i64 a0_9,.int .i64 a0_10]] w fun e w'=>e=.returned (.string r)∧Below w.heap.size w w':=by
 have hu25:=Tryz.underlying25;have hu23:=Tryz.underlying23;have HB:=ak_ (Below.refl w.heap.size w);have H:=h;unfold r15_Print.f at H;clear h;replace H:=bi_ H;obtain⟨t132,A2,H⟩:=H;replace H:=bt_ H;rcases H with ⟨rfl,H⟩|⟨rfl,H⟩
 ·replace H:=bi_ H;obtain⟨⟨t133,t134,t135⟩,A4,H⟩:=H;(try dsimp only at H);replace H:=bi_ H;obtain⟨t136,A5,H⟩:=H;replace H:=bx_ H;obtain⟨c6,H⟩:=H;have c6b0:=eq_true c6;have c6b1:=dt_ c6
  try have c6b2:(9223372036854775807<t136.size+1)=False:=eq_false (Nat.not_lt.2 c6)
  replace H:=bx_ H;obtain⟨c7,H⟩:=H;have c7b0:=eq_true c7;have c7b1:=dt_ c7;(try have c7v:(9223372036854775807<t136.size+1+a0_0.size)=False:=eq_false (by have h_:=c7;simp only[ByteArray.size_append,ByteArray.size_mk',List.size_toArray,List.length_cons,List.length_nil] at h_;omega))
  try have c7b2:(9223372036854775807<(t136++(⟨#[32]⟩:ByteArray)).size+a0_0.size)=False:=eq_false (Nat.not_lt.2 c7)
  replace H:=bx_ H;obtain⟨c8,H⟩:=H;have c8b0:=eq_true c8;have c8b1:=dt_ c8;(try have c8v:(9223372036854775807<t136.size+1+a0_0.size+1)=False:=eq_false (by have h_:=c8;simp only[ByteArray.size_append,ByteArray.size_mk',List.size_toArray,List.length_cons,List.length_nil] at h_;omega))
  try have c8b2:(9223372036854775807<((t136++(⟨#[32]⟩:ByteArray))++a0_0).size+1)=False:=eq_false (Nat.not_lt.2 c8)
  replace H:=bx_ H;obtain⟨c9,H⟩:=H;have c9b0:=eq_true c9;have c9b1:=dt_ c9;(try have c9v:(9223372036854775807<t136.size+1+a0_0.size+1+a0_2.size)=False:=eq_false (by have h_:=c9;simp only[ByteArray.size_append,ByteArray.size_mk',List.size_toArray,List.length_cons,List.length_nil] at h_;omega))
  try have c9b2:(9223372036854775807<(((t136++(⟨#[32]⟩:ByteArray))++a0_0)++(⟨#[32]⟩:ByteArray)).size+a0_2.size)=False:=eq_false (Nat.not_lt.2 c9)
  replace H:=bx_ H;obtain⟨c10,H⟩:=H;have c10b0:=eq_true c10;have c10b1:=dt_ c10;(try have c10v:(9223372036854775807<t136.size+1+a0_0.size+1+a0_2.size+1)=False:=eq_false (by have h_:=c10;simp only[ByteArray.size_append,ByteArray.size_mk',List.size_toArray,List.length_cons,List.length_nil] at h_;omega))
  try have c10b2:(9223372036854775807<((((t136++(⟨#[32]⟩:ByteArray))++a0_0)++(⟨#[32]⟩:ByteArray))++a0_2).size+1)=False:=eq_false (Nat.not_lt.2 c10)
  replace H:=bi_ H;obtain⟨t137,A11,H⟩:=H;replace H:=bx_ H;obtain⟨c12,H⟩:=H;have c12b0:=eq_true c12;have c12b1:=dt_ c12;(try have c12v:(9223372036854775807<t136.size+1+a0_0.size+1+a0_2.size+1+t137.size)=False:=eq_false (by have h_:=c12;simp only[ByteArray.size_append,ByteArray.size_mk',List.size_toArray,List.length_cons,List.length_nil] at h_;omega))
  try have c12b2:(9223372036854775807<(((((t136++(⟨#[32]⟩:ByteArray))++a0_0)++(⟨#[32]⟩:ByteArray))++a0_2)++(⟨#[32]⟩:ByteArray)).size+t137.size)=False:=eq_false (Nat.not_lt.2 c12)
  replace H:=bx_ H;obtain⟨c13,H⟩:=H;have c13b0:=eq_true c13;have c13b1:=dt_ c13;(try have c13v:(9223372036854775807<t136.size+1+a0_0.size+1+a0_2.size+1+t137.size+1)=False:=eq_false (by have h_:=c13;simp only[ByteArray.size_append,ByteArray.size_mk',List.size_toArray,List.length_cons,List.length_nil] at h_;omega))
  try have c13b2:(9223372036854775807<((((((t136++(⟨#[32]⟩:ByteArray))++a0_0)++(⟨#[32]⟩:ByteArray))++a0_2)++(⟨#[32]⟩:ByteArray))++t137).size+1)=False:=eq_false (Nat.not_lt.2 c13)
  replace H:=bi_ H;obtain⟨t138,A14,H⟩:=H;replace H:=bx_ H;obtain⟨c15,H⟩:=H;have c15b0:=eq_true c15;have c15b1:=dt_ c15;(try have c15v:(9223372036854775807<t136.size+1+a0_0.size+1+a0_2.size+1+t137.size+1+t138.size)=False:=eq_false (by have h_:=c15;simp only[ByteArray.size_append,ByteArray.size_mk',List.size_toArray,List.length_cons,List.length_nil] at h_;omega))
  try have c15b2:(9223372036854775807<(((((((t136++(⟨#[32]⟩:ByteArray))++a0_0)++(⟨#[32]⟩:ByteArray))++a0_2)++(⟨#[32]⟩:ByteArray))++t137)++(⟨#[32]⟩:ByteArray)).size+t138.size)=False:=eq_false (Nat.not_lt.2 c15)
  replace H:=bx_ H;obtain⟨c16,H⟩:=H;have c16b0:=eq_true c16;have c16b1:=dt_ c16;(try have c16v:(9223372036854775807<t136.size+1+a0_0.size+1+a0_2.size+1+t137.size+1+t138.size+1)=False:=eq_false (by have h_:=c16;simp only[ByteArray.size_append,ByteArray.size_mk',List.size_toArray,List.length_cons,List.length_nil] at h_;omega))
  try have c16b2:(9223372036854775807<((((((((t136++(⟨#[32]⟩:ByteArray))++a0_0)++(⟨#[32]⟩:ByteArray))++a0_2)++(⟨#[32]⟩:ByteArray))++t137)++(⟨#[32]⟩:ByteArray))++t138).size+1)=False:=eq_false (Nat.not_lt.2 c16)
  replace H:=bi_ H;obtain⟨t139,A17,H⟩:=H;replace H:=bx_ H;obtain⟨c18,H⟩:=H;have c18b0:=eq_true c18;have c18b1:=dt_ c18;(try have c18v:(9223372036854775807<t136.size+1+a0_0.size+1+a0_2.size+1+t137.size+1+t138.size+1+t139.size)=False:=eq_false (by have h_:=c18;simp only[ByteArray.size_append,ByteArray.size_mk',List.size_toArray,List.length_cons,List.length_nil] at h_;omega))
  try have c18b2:(9223372036854775807<(((((((((t136++(⟨#[32]⟩:ByteArray))++a0_0)++(⟨#[32]⟩:ByteArray))++a0_2)++(⟨#[32]⟩:ByteArray))++t137)++(⟨#[32]⟩:ByteArray))++t138)++(⟨#[32]⟩:ByteArray)).size+t139.size)=False:=eq_false (Nat.not_lt.2 c18)
  have HC19:=ak_ H;clear H;go_in
  try go_wp2_with (first|(refine bf_ 1 #[.string a0_0,.int .i64 a0_1,.string a0_2,.string a0_3,.string a0_4,.string a0_5,.string a0_6,.string a0_7,.int .i64 a0_8,.int .i64 a0_9,.int .i64 a0_10] 25 HB ?_;clear HB;intro gb131 w20 BK131 GW131 HB;have hz21:=cs11_ BK131)|(refine gm_ 8 Tryz.func12 (r15_May.calls _ _ _ _ _ _ _ _ _ _ _ _ _ _ A2.out) ?_;intro w22 hb;replace BK131:=kb_ BK131 hb;replace HB:=bs_ HB hb;(try clear hb);have hz23:=cs11_ BK131)|(refine gm_ 13 Tryz.func24 (r15_names.calls _ _ _ _ _ A4.out) ?_;rintro w' ⟨nd,rfl⟩))
  (try(rw[drewN_self w22];generalize hq_:World.drewN w22 _ = w22;have n0_:Aside0 (w22.heap[gb131]?=some (.cells #[.string a0_0,.int .i64 a0_1,.string a0_2,.string a0_3,.string a0_4,.string a0_5,.string a0_6,.string a0_7,.int .i64 a0_8,.int .i64 a0_9,.int .i64 a0_10] 25 (0,0))):=⟨by rw[← hq_];exact(k_ BK131.out)⟩;have n1_:Aside0 (Below w.heap.size w w22):=⟨by rw[← hq_];exact(b_ HB.out)⟩;clear BK131 HB hq_;have BK131:=n0_;have HB:=n1_;clear n0_ n1_));replace BK131:=ak_ (blk_drew BK131.out);replace HB:=ak_ (below_drew1 HB.out);refine sa_ 27 (fun w'=>w'.cell? ⟨gb131,0,none⟩=some (.string a0_0)∧w'.cell? ⟨gb131,1,none⟩=some (.int .i64 a0_1)∧w'.cell? ⟨gb131,2,none⟩=some (.string a0_2)∧w'.cell? ⟨gb131,3,none⟩=some (.string a0_3)∧w'.cell? ⟨gb131,4,none⟩=some (.string a0_4)∧w'.cell? ⟨gb131,5,none⟩=some (.string a0_5)∧w'.cell? ⟨gb131,6,none⟩=some (.string a0_6)∧w'.cell? ⟨gb131,7,none⟩=some (.string a0_7)∧w'.cell? ⟨gb131,8,none⟩=some (.int .i64 a0_8)∧w'.cell? ⟨gb131,9,none⟩=some (.int .i64 a0_9)∧w'.cell? ⟨gb131,10,none⟩=some (.int .i64 a0_10)) (fun hHeld=>?_);refine with_tabW r15_Print.tab4 r15_Print.bits4 (fun HT_ HW_=>?_);generalize w22.drew=w24 at BK131 HB hHeld ⊢;refine pu_ 0 17 rfl rfl HT_ ?_;refine pu_ 4 21 rfl rfl HT_ ?_;refine pu_ 8 25 rfl rfl HT_ ?_;refine pu_ 12 29 rfl rfl HT_ ?_;refine pu_ 17 34 rfl rfl HT_ ?_;refine pu_ 22 39 rfl rfl HT_ ?_;refine t_ 1 18 rfl rfl HT_ HW_ hHeld ?_;refine t_ 5 22 rfl rfl HT_ HW_ hHeld ?_;refine t_ 9 26 rfl rfl HT_ HW_ hHeld ?_;refine t_ 13 30 rfl rfl HT_ HW_ hHeld ?_;refine t_ 18 35 rfl rfl HT_ HW_ hHeld ?_;refine t_ 23 40 rfl rfl HT_ HW_ hHeld ?_;refine on_ 2 (some 19) rfl rfl HT_ (fun K hK=>?_);refine gn_ Tryz.func23 (r15_word.calls _ _ _ A5.out) ?_;intro w25 hb;replace BK131:=kb_ BK131 hb;replace HB:=bs_ HB hb;(try clear hb);refine hk_ hK (fun hHeld=>?_);clear hK K;refine nm_ ?_;refine pu_ 3 20 rfl rfl HT_ ?_;refine pu_ 6 23 rfl rfl HT_ ?_;refine pu_ 7 24 rfl rfl HT_ ?_;refine pu_ 10 27 rfl rfl HT_ ?_;refine pu_ 11 28 rfl rfl HT_ ?_;refine on_ 14 (some 31) rfl rfl HT_ (fun K hK=>?_);refine gn_ Tryz.func36 (r1_Of.calls _ _ _ A11.out) ?_;intro w26 hb;replace BK131:=kb_ BK131 hb;replace HB:=bs_ HB hb;(try clear hb);refine hk_ hK (fun hHeld=>?_);clear hK K;refine nm_ ?_;refine pu_ 15 32 rfl rfl HT_ ?_;refine pu_ 16 33 rfl rfl HT_ ?_;refine on_ 19 (some 36) rfl rfl HT_ (fun K hK=>?_);refine gn_ Tryz.func36 (r1_Of.calls _ _ _ A14.out) ?_;intro w27 hb;replace BK131:=kb_ BK131 hb;replace HB:=bs_ HB hb;(try clear hb);refine hk_ hK (fun hHeld=>?_);clear hK K;refine nm_ ?_;refine pu_ 20 37 rfl rfl HT_ ?_;refine pu_ 21 38 rfl rfl HT_ ?_;refine on_ 24 (some 41) rfl rfl HT_ (fun K hK=>?_);refine gn_ Tryz.func36 (r1_Of.calls _ _ _ A17.out) ?_;intro w28 hb;replace BK131:=kb_ BK131 hb;replace HB:=bs_ HB hb;(try clear hb);refine hk_ hK (fun hHeld=>?_);clear hK K;refine nm_ ?_;refine pu_ 25 42 rfl rfl HT_ ?_;refine pu_ 26 6 rfl rfl HT_ ?_;refine done_ (done_of HT_.out (by kernel_rfl)) ?_
  go_upto_if 43 with (fail)
  go_cut [6] (fun v6 wc=>∃ (kq:Nat) (x6_18:ByteArray),v6=.string x6_18∧Aside0 (r15_Print.j0 kq t134 t135 x6_18 a0_0 a0_1 a0_2 a0_3 a0_4 a0_5 a0_6 a0_7 a0_8 a0_9 a0_10=some r)∧Aside0 (kq≤k)∧Aside0 (wc.heap[gb131]?=some (.cells #[.string a0_0,.int .i64 a0_1,.string a0_2,.string a0_3,.string a0_4,.string a0_5,.string a0_6,.string a0_7,.int .i64 a0_8,.int .i64 a0_9,.int .i64 a0_10] 25 (0,0)))∧Aside0 (Below w.heap.size w wc))
  case first =>
   have H:=HC19.out;clear HC19;replace H:=bt_ H;rcases H with ⟨rfl,H⟩|⟨rfl,H⟩
   ·replace H:=bx_ H;obtain⟨c30,H⟩:=H;have c30b0:=eq_true c30;have c30b1:=dt_ c30
    try have c30b2:(9223372036854775807<1+a0_3.size)=False:=eq_false (Nat.not_lt.2 c30)
    replace H:=bx_ H;obtain⟨c31,H⟩:=H;have c31b0:=eq_true c31;have c31b1:=dt_ c31;(try have c31v:(9223372036854775807<t136.size+1+a0_0.size+1+a0_2.size+1+t137.size+1+t138.size+1+t139.size+(1+a0_3.size))=False:=eq_false (by have h_:=c31;simp only[ByteArray.size_append,ByteArray.size_mk',List.size_toArray,List.length_cons,List.length_nil] at h_;omega))
    try have c31b2:(9223372036854775807<((((((((((t136++(⟨#[32]⟩:ByteArray))++a0_0)++(⟨#[32]⟩:ByteArray))++a0_2)++(⟨#[32]⟩:ByteArray))++t137)++(⟨#[32]⟩:ByteArray))++t138)++(⟨#[32]⟩:ByteArray))++t139).size+((⟨#[32]⟩:ByteArray)++a0_3).size)=False:=eq_false (Nat.not_lt.2 c31)
    have H':=ak_ H;clear H;have hz32:=cs11_ BK131;go_wp2
    go_meet
    case rel=>exact⟨_,(((((((((((t136++(⟨#[32]⟩:ByteArray))++a0_0)++(⟨#[32]⟩:ByteArray))++a0_2)++(⟨#[32]⟩:ByteArray))++t137)++(⟨#[32]⟩:ByteArray))++t138)++(⟨#[32]⟩:ByteArray))++t139)++((⟨#[32]⟩:ByteArray)++a0_3)),rl_,H',⟨nk_⟩,⟨k_ BK131.out⟩,⟨b_ HB.out⟩⟩
   ·have H':=ak_ H;clear H;go_wp2
    go_meet
    case rel=>exact⟨_,((((((((((t136++(⟨#[32]⟩:ByteArray))++a0_0)++(⟨#[32]⟩:ByteArray))++a0_2)++(⟨#[32]⟩:ByteArray))++t137)++(⟨#[32]⟩:ByteArray))++t138)++(⟨#[32]⟩:ByteArray))++t139),rl_,H',⟨nk_⟩,⟨k_ BK131.out⟩,⟨b_ HB.out⟩⟩
  case rest =>
   clear HC19;(try clear c6);(try clear c6b0);(try clear c6b1);(try clear c6b2);(try clear c7);(try clear c7b0);(try clear c7b1);(try clear c7b2);(try clear c8);(try clear c8b0);(try clear c8b1);(try clear c8b2);(try clear c9);(try clear c9b0);(try clear c9b1);(try clear c9b2);(try clear c10);(try clear c10b0);(try clear c10b1);(try clear c10b2);(try clear c12);(try clear c12b0);(try clear c12b1);(try clear c12b2);(try clear c13);(try clear c13b0);(try clear c13b1);(try clear c13b2);(try clear c15);(try clear c15b0);(try clear c15b1);(try clear c15b2);(try clear c16);(try clear c16b0);(try clear c16b1);(try clear c16b2);(try clear c18);(try clear c18b0);(try clear c18b1);(try clear c18b2);(try clear hz21);(try clear hz23);obtain⟨kq,x6_18,rfl,HA,HJ18,BK131,HB⟩:=hcut
   cases kq with
   | zero=>exact absurd HA.out (by simp[r15_Print.j0])
   | succ kj18 =>
    have H:=HA.out;clear HA;simp only[r15_Print.j0] at H;replace H:=bt_ H;rcases H with ⟨rfl,H⟩|⟨rfl,H⟩
    ·replace H:=bi_ H;obtain⟨t140,A34,H⟩:=H;replace H:=bx_ H;obtain⟨c35,H⟩:=H;have c35b0:=eq_true c35;have c35b1:=dt_ c35
     try have c35b2:(9223372036854775807<1+t140.size)=False:=eq_false (Nat.not_lt.2 c35)
     replace H:=bx_ H;obtain⟨c36,H⟩:=H;have c36b0:=eq_true c36;have c36b1:=dt_ c36;(try have c36v:(9223372036854775807<x6_18.size+(1+t140.size))=False:=eq_false (by have h_:=c36;simp only[ByteArray.size_append,ByteArray.size_mk',List.size_toArray,List.length_cons,List.length_nil] at h_;omega))
     try have c36b2:(9223372036854775807<x6_18.size+((⟨#[32]⟩:ByteArray)++t140).size)=False:=eq_false (Nat.not_lt.2 c36)
     replace H:=bt_ H;rcases H with ⟨rfl,H⟩|⟨rfl,H⟩
     ·replace H:=bi_ H;obtain⟨t141,A38,H⟩:=H;replace H:=bx_ H;obtain⟨c39,H⟩:=H;have c39b0:=eq_true c39;have c39b1:=dt_ c39
      try have c39b2:(9223372036854775807<1+t141.size)=False:=eq_false (Nat.not_lt.2 c39)
      replace H:=bx_ H;obtain⟨c40,H⟩:=H;have c40b0:=eq_true c40;have c40b1:=dt_ c40;(try have c40v:(9223372036854775807<x6_18.size+(1+t140.size)+(1+t141.size))=False:=eq_false (by have h_:=c40;simp only[ByteArray.size_append,ByteArray.size_mk',List.size_toArray,List.length_cons,List.length_nil] at h_;omega))
      try have c40b2:(9223372036854775807<(x6_18++((⟨#[32]⟩:ByteArray)++t140)).size+((⟨#[32]⟩:ByteArray)++t141).size)=False:=eq_false (Nat.not_lt.2 c40)
      obtain rfl:=oi_ H;have hz41:=cs11_ BK131
      go_wp2_with (first|(refine gm_ 53 Tryz.func37 (r4_Print.calls _ _ _ _ A34.out) ?_;intro w42 hb;replace BK131:=kb_ BK131 hb;replace HB:=bs_ HB hb;(try clear hb);have hz43:=cs11_ BK131)|(refine gm_ 60 Tryz.func37 (r4_Print.calls _ _ _ _ A38.out) ?_;intro w44 hb;replace BK131:=kb_ BK131 hb;replace HB:=bs_ HB hb;(try clear hb)))
      go_ret
      exact⟨er_,b_ HB.out⟩
     ·obtain rfl:=oi_ H;have hz45:=cs11_ BK131
      go_wp2_with ((refine gm_ 53 Tryz.func37 (r4_Print.calls _ _ _ _ A34.out) ?_;intro w46 hb;replace BK131:=kb_ BK131 hb;replace HB:=bs_ HB hb;(try clear hb)))
      go_ret
      exact⟨er_,b_ HB.out⟩
    ·replace H:=bt_ H;rcases H with ⟨rfl,H⟩|⟨rfl,H⟩
     ·replace H:=bi_ H;obtain⟨t142,A48,H⟩:=H;replace H:=bx_ H;obtain⟨c49,H⟩:=H;have c49b0:=eq_true c49;have c49b1:=dt_ c49
      try have c49b2:(9223372036854775807<1+t142.size)=False:=eq_false (Nat.not_lt.2 c49)
      replace H:=bx_ H;obtain⟨c50,H⟩:=H;have c50b0:=eq_true c50;have c50b1:=dt_ c50;(try have c50v:(9223372036854775807<x6_18.size+(1+t142.size))=False:=eq_false (by have h_:=c50;simp only[ByteArray.size_append,ByteArray.size_mk',List.size_toArray,List.length_cons,List.length_nil] at h_;omega))
      try have c50b2:(9223372036854775807<x6_18.size+((⟨#[32]⟩:ByteArray)++t142).size)=False:=eq_false (Nat.not_lt.2 c50)
      obtain rfl:=oi_ H;have hz51:=cs11_ BK131
      go_wp2_with ((refine gm_ 60 Tryz.func37 (r4_Print.calls _ _ _ _ A48.out) ?_;intro w52 hb;replace BK131:=kb_ BK131 hb;replace HB:=bs_ HB hb;(try clear hb)))
      go_ret
      exact⟨er_,b_ HB.out⟩
     ·obtain rfl:=oi_ H;go_wp2
      go_ret
      exact⟨er_,b_ HB.out⟩
 ·obtain rfl:=oi_ H;go_in
  go_wp2_with (first|(refine bf_ 1 #[.string a0_0,.int .i64 a0_1,.string a0_2,.string a0_3,.string a0_4,.string a0_5,.string a0_6,.string a0_7,.int .i64 a0_8,.int .i64 a0_9,.int .i64 a0_10] 25 HB ?_;clear HB;intro gb131 w53 BK131 GW131 HB;have hz54:=cs11_ BK131)|(refine gm_ 8 Tryz.func12 (r15_May.calls _ _ _ _ _ _ _ _ _ _ _ _ _ _ A2.out) ?_;intro w55 hb;replace BK131:=kb_ BK131 hb;replace HB:=bs_ HB hb;(try clear hb)))
  go_ret
  exact⟨er_,b_ HB.out⟩
end Pk
theorem rname_step {α:Type} (c:UInt8) (i:Int) (A B:α) :
  (if (c.toNat:Int)<97 then (if (c.toNat:Int)<48 then (if (c.toNat:Int)=33 then (if i>0 then A else B) else A) else (if (c.toNat:Int)>57 then (if (c.toNat:Int)=33 then (if i>0 then A else B) else A) else B)) else (if (c.toNat:Int)>122 then (if (c.toNat:Int)<48 then (if (c.toNat:Int)=33 then (if i>0 then A else B) else A) else (if (c.toNat:Int)>57 then (if (c.toNat:Int)=33 then (if i>0 then A else B) else A) else B)) else B))
   = if (nameC c || (decide (c.toNat=33)&&decide (¬ i>0)))=true then B else A:=by
 unfold nameC isDig
 (repeat' split) <;> first|rfl|(exfalso;simp only[Bool.or_eq_true,Bool.and_eq_true,decide_eq_true_eq] at *;omega)
theorem rname_loop (s:ByteArray) (hs:s.size≤4611686018427387904):∀ (d i:Nat),i+d=s.size→0<i→∀ k,d+1≤k→Pk.r6_Name.l0 k s (i:Int)=some ((s.data.toList.drop i).all nameC&&(decide (1≤s.size)&&decide (s.size≤20))):=by
 intro d
 induction d with
 | zero =>
  intro i hi h0 k hk
  obtain⟨k,rfl⟩:∃ z,k=z+1:=⟨k-1,by omega⟩
  simp only[Pk.r6_Name.l0]
  rw[if_neg (by omega),List.drop_of_length_le (by rw[← size_len];omega)]
  by_cases h1:(s.size:Int)≥1
  ·rw[if_pos h1,decide_eq_true (show 1≤s.size by omega)]
   simp
   omega
  ·rw[if_neg h1,decide_eq_false (show ¬ 1≤s.size by omega)]
   rfl
 | succ d ih =>
  intro i hi h0 k hk
  obtain⟨k,rfl⟩:∃ z,k=z+1:=⟨k-1,by omega⟩
  obtain⟨c,hc,hb⟩:=bt_get s i (by omega)
  have hlt:i<s.data.toList.length:=by rw[← size_len];omega
  have hdrop:s.data.toList.drop i=c :: s.data.toList.drop (i+1):=by
   rw[List.drop_eq_getElem_cons hlt]
   congr 1
   rw[List.getElem?_eq_getElem hlt] at hc
   exact Option.some.inj hc
  have hn:=ih (i+1) (by omega) (by omega) k (by omega)
  simp only[Pk.r6_Name.l0]
  rw[if_pos (by omega),if_pos (by omega),hb,w64 (x:=(i:Int)+1) (by omega) (by omega),show ((i:Int)+1)=((i+1:Nat):Int) by omega,rname_step,hn,hdrop,List.all_cons,decide_eq_false (show ¬ ¬ (i:Int)>0 by omega),Bool.and_false,Bool.or_false]
  cases nameC c <;> rfl
theorem rname_f {s:ByteArray} (hs:s.size≤1000000) (k:Nat) (hk:1000010≤k):Pk.r6_Name.f k s=some (nameL s.data.toList):=by
 unfold Pk.r6_Name.f
 obtain⟨k,rfl⟩:∃ z,k=z+1:=⟨k-1,by omega⟩
 have hsz:=size_len s
 cases hl:s.data.toList with
 | nil =>
  rw[hl] at hsz
  simp only[Pk.r6_Name.l0]
  rw[if_neg (by rw[hsz];decide),if_neg (by rw[hsz];decide)]
  rfl
 | cons c r =>
  rw[hl] at hsz
  have hp:0<s.size:=by rw[hsz];simp
  obtain⟨x,hx,hb⟩:=bt_get s 0 hp
  rw[hl] at hx
  obtain rfl:c=x:=Option.some.inj hx
  have hb':bt s 0=(c.toNat:Int):=hb
  have hn:=rname_loop s (by omega) (s.size-1) 1 (by omega) (by omega) k (by omega)
  have hn':Pk.r6_Name.l0 k s 1 = _:=hn
  simp only[Pk.r6_Name.l0]
  rw[if_pos (show (0:Int)<(s.size:Int) by omega),if_pos (by decide),hb',show wrap64 ((0:Int)+1)=1 from w64 (by decide) (by decide),rname_step,hn',hl,List.drop_one,List.tail_cons,decide_eq_true (show ¬ (0:Int)>0 by decide),Bool.and_true]
  have e1:decide (1≤s.size)=true:=decide_eq_true hp
  have e2:decide ((c :: r).length≤20)=decide (s.size≤20):=by rw[hsz]
  unfold nameL
  rw[e1,e2,decide_eq_true (show c :: r≠[] by simp),Bool.true_and,Bool.true_and]
  by_cases h33:c=33
  ·subst h33
   have hbang:bang (33 :: r)=r:=rfl
   rw[hbang,decide_eq_true (show (33:UInt8).toNat=33 from rfl),Bool.or_true,if_pos rfl,Bool.and_comm]
  ·have hbang:bang (c :: r)=c :: r:=by
    unfold bang
    split
    ·rename_i e
     rw[List.cons.injEq] at e
     exact absurd e.1 h33
    ·rfl
   have hne:¬ c.toNat=33:=fun e=>h33 (UInt8.toNat_inj.1 e)
   rw[hbang,decide_eq_false hne,Bool.or_false,List.all_cons]
   cases nameC c
   ·simp
   ·rw[if_pos rfl,Bool.true_and,Bool.and_comm]
theorem rasset_f {s:ByteArray} (h:s.size≤1000000) (k:Nat) (hk:1000010≤k):Pk.r15_asset.f k s=some (assetL s.data.toList):=by
 unfold Pk.r15_asset.f
 rw[rname_f h k hk,ob_]
 unfold assetL
 by_cases hn:nameL s.data.toList=true
 ·rw[if_pos hn,hn,Bool.true_and]
  have hn':=hn
  unfold nameL at hn'
  rw[Bool.and_eq_true,decide_eq_true_eq] at hn'
  have hne:=hn'.1
  have hs:=size_len s
  have hpos:=List.length_pos_iff.2 hne
  obtain⟨c,hc,hb⟩:=bt_get s 0 (by omega)
  have hb':bt s 0=(c.toNat:Int):=hb
  rw[if_pos (show (0:Int)<(s.size:Int) by omega),hb']
  cases hl:s.data.toList with
  | nil=>exact absurd hl hne
  | cons x r =>
   rw[hl] at hc
   obtain rfl:x=c:=Option.some.inj hc
   have hall:x≠33→nameC x=true:=by
    intro h33
    have:=(Bool.and_eq_true_iff.1 hn'.2).2
    rw[hl] at this
    unfold bang at this
    split at this
    ·rename_i e
     rw[List.cons.injEq] at e
     exact absurd e.1 h33
    ·rw[List.all_cons,Bool.and_eq_true] at this
     exact this.1
   have hcash:(s.toList != ([99,97,115,104]:List UInt8))=decide (s.data.toList≠cashL):=by
    rw[ByteArray.toList_eq]
    by_cases e:s.data.toList=cashL
    ·rw[e];rfl
    ·rw[decide_eq_true e]
     exact bne_iff_ne.2 e
   rw[hl] at hcash
   rw[hcash]
   show _ = some (decide (97≤x.toNat∧x.toNat≤122)&&decide (x :: r≠cashL))
   by_cases h33:(x.toNat:Int)=33
   ·rw[if_pos h33,decide_eq_false (show ¬ (97≤x.toNat∧x.toNat≤122) by omega)]
    rfl
   ·rw[if_neg h33]
    have hC:=hall (fun e=>h33 (by rw[e];rfl))
    unfold nameC isDig at hC
    rw[Bool.or_eq_true,decide_eq_true_eq,decide_eq_true_eq] at hC
    by_cases h1:(x.toNat:Int)<48
    ·exfalso
     omega
    ·rw[if_neg h1]
     by_cases h2:(x.toNat:Int)>57
     ·rw[if_pos h2,decide_eq_true (show 97≤x.toNat∧x.toNat≤122 by omega)]
      rfl
     ·rw[if_neg h2,decide_eq_false (show ¬ (97≤x.toNat∧x.toNat≤122) by omega)]
      rfl
 ·rw[if_neg hn,(Bool.not_eq_true _).mp hn]
  rfl
theorem rnumber_f {x:BB} (h:smR x=true) (named:Bool) (least:Int):Pk.r15_number.f x.1 x.2 named least=some (numOk x named least):=by
 unfold Pk.r15_number.f numOk
 cases named with
 | false =>
  have of0:r3_Of.f 0=some (rT 0):=if_pos (by decide)
  rw[if_neg (by decide),if_neg (by decide),of0,ob_,bb_beq]
 | true =>
  have em:r3_May.f x.1 x.2=some (mayR x):=if_pos (show smR (x.1,x.2)=true from h)
  rw[if_pos rfl,if_pos rfl,em,ob_]
  by_cases hm:mayR x=true
  ·have es:r3_Sign.f x.1 x.2=some (cmpQ (ratR x) 0):=by
    unfold r3_Sign.f rsignS
    rw[if_pos (show smR (x.1,x.2)=true from h),if_pos (show mayR (x.1,x.2)=true from hm)]
   rw[if_pos hm,es,ob_,hm,Bool.true_and]
   by_cases h1:cmpQ (ratR x) 0≥least
   ·rw[if_pos h1,decide_eq_true (show least≤cmpQ (ratR x) 0 from h1),Bool.true_and]
    by_cases h2:(x.1.size:Int)≤20
    ·rw[if_pos h2,decide_eq_true (show x.1.size≤20 by omega),Bool.true_and]
     congr 1
     rw[decide_eq_decide]
     omega
    ·rw[if_neg h2,decide_eq_false (show ¬ x.1.size≤20 by omega)]
     rfl
   ·rw[if_neg h1,decide_eq_false (show ¬ least≤cmpQ (ratR x) 0 from h1)]
    rfl
  ·rw[if_neg hm,(Bool.not_eq_true _).mp hm]
   rfl
theorem rnames_f (k:Int):Pk.r15_names.f k=some (kOther k,kRatio k,kCash k):=by
 unfold Pk.r15_names.f kOther kRatio kCash
 by_cases h2:k=2
 ·subst h2
  rfl
 ·rw[if_neg h2,decide_eq_true h2,decide_eq_false h2,Bool.false_or]
  have e1:decide (k≥3)=decide (3≤k):=rfl
  have e2:(k != 2)=true:=bne_iff_ne.2 h2
  have e3:(k == 4)=decide (k=4):=rfl
  rw[e1,e2,e3]
theorem r15may_j1 {x:Bool} {a0 a2 a3 a4 a5 a6 a7:ByteArray} {a1 a8 a9 a10:Int} (hr:smR (a4,a5)=true) (hc:smR (a6,a7)=true) (k:Nat) :
  Pk.r15_May.j1 (k+1) (kRatio a1) (kCash a1) x a0 a1 a2 a3 a4 a5 a6 a7 a8 a9 a10=some (!x&&(numOk (a4,a5) (kRatio a1) 1&&numOk (a6,a7) (kCash a1) (kLeast a1))):=by
 simp only[Pk.r15_May.j1]
 have n1:=rnumber_f (x:=(a4,a5)) hr (kRatio a1) 1
 have n2:=fun l=>rnumber_f (x:=(a6,a7)) hc (kCash a1) l
 dsimp only at n1 n2
 rw[n1]
 unfold kLeast
 cases x with
 | true=>rfl
 | false =>
  rw[if_neg (by decide),ob_]
  by_cases h4:a1=4
  ·rw[if_pos h4,if_pos h4,n2]
   cases numOk (a4,a5) (kRatio a1) 1 <;> rfl
  ·rw[if_neg h4,if_neg h4,n2]
   cases numOk (a4,a5) (kRatio a1) 1 <;> rfl
theorem r15may_f {a0 a2 a3 a4 a5 a6 a7:ByteArray} {a1 a8 a9 a10:Int} (h:smA (actV a0 a1 a2 a3 a4 a5 a6 a7 a8 a9 a10)=true) (k:Nat) (hk:1000012≤k) :
  Pk.r15_May.f k a0 a1 a2 a3 a4 a5 a6 a7 a8 a9 a10=some (mayA (actV a0 a1 a2 a3 a4 a5 a6 a7 a8 a9 a10)):=by
 obtain⟨k,rfl⟩:∃ z,k=z+2:=⟨k-2,by omega⟩
 unfold smA actV at h
 dsimp only at h
 rw[Bool.and_eq_true,Bool.and_eq_true,Bool.and_eq_true,Bool.and_eq_true,decide_eq_true_eq,decide_eq_true_eq,decide_eq_true_eq] at h
 obtain⟨s0,s2,s3,hr,hc⟩:=h
 have hj:Pk.r15_May.j0 (k+2) true a0 a1 a2 a3 a4 a5 a6 a7 a8 a9 a10=some false:=by
  show Pk.r15_May.j0 (k+1+1) _ _ _ _ _ _ _ _ _ _ _ _ = _
  simp only[Pk.r15_May.j0]
  rfl
 unfold Pk.r15_May.f mayA actV
 dsimp only
 rw[rname_f s0 _ (by omega),ob_,rasset_f s2 _ (by omega)]
 by_cases hn:nameL a0.data.toList=true
 case neg =>
  rw[if_neg hn,hj,(Bool.not_eq_true _).mp hn]
  simp
 rw[if_pos hn,ob_,hn,Bool.true_and]
 by_cases ha:assetL a2.data.toList=true
 case neg =>
  rw[if_neg ha,hj,(Bool.not_eq_true _).mp ha]
  simp
 rw[if_pos ha,ha,Bool.true_and]
 by_cases k0:a1<0
 ·rw[if_pos k0,hj,decide_eq_false (show ¬ 0≤a1 by omega)]
  rfl
 rw[if_neg k0,decide_eq_true (show 0≤a1 by omega),Bool.true_and]
 by_cases k5:a1>4
 ·rw[if_pos k5,hj,decide_eq_false (show ¬ a1≤4 by omega)]
  rfl
 rw[if_neg k5,decide_eq_true (show a1≤4 by omega),Bool.true_and]
 unfold daysOk
 dsimp only
 by_cases d0:a8<0
 ·rw[if_pos d0,hj,decide_eq_false (show ¬ 0≤a8 by omega)]
  rfl
 rw[if_neg d0,decide_eq_true (show 0≤a8 by omega),Bool.true_and]
 by_cases d1:a8>a9
 ·rw[if_pos d1,hj,decide_eq_false (show ¬ a8≤a9 by omega)]
  rfl
 rw[if_neg d1,decide_eq_true (show a8≤a9 by omega),Bool.true_and]
 by_cases d2:a9>a10
 ·rw[if_pos d2,hj,decide_eq_false (show ¬ a9≤a10 by omega)]
  rfl
 rw[if_neg d2,decide_eq_true (show a9≤a10 by omega),Bool.true_and]
 by_cases d3:a10>9999
 ·rw[decide_eq_true d3,hj,decide_eq_false (show ¬ a10≤9999 by omega)]
  rfl
 rw[decide_eq_false d3,decide_eq_true (show a10≤9999 by omega),Bool.true_and]
 show Pk.r15_May.j0 (k+1+1) _ _ _ _ _ _ _ _ _ _ _ _ = _
 simp only[Pk.r15_May.j0]
 rw[if_neg (by decide),rnames_f,ob_]
 dsimp only
 unfold otherOk
 dsimp only
 by_cases ho:kOther a1=true
 ·rw[if_pos ho,if_pos ho,rasset_f s3 _ (by omega),ob_]
  by_cases hs:assetL a3.data.toList=true
  ·rw[if_pos hs,hs,Bool.true_and]
   by_cases e:a3=a2
   ·rw[if_pos (congrArg ByteArray.toList e),r15may_j1 hr hc,e,decide_eq_false (by simp)]
    rfl
   ·rw[if_neg (fun z=>e (toList_inj.1 z)),r15may_j1 hr hc,decide_eq_true e]
    rfl
  ·rw[if_neg hs,(Bool.not_eq_true _).mp hs,r15may_j1 hr hc]
   rfl
 ·rw[if_neg ho,if_neg ho,r15may_j1 hr hc]
  congr 2
  by_cases e:a3=noB
  ·rw[e,decide_eq_true rfl,ByteArray.toList_eq]
   rfl
  ·rw[decide_eq_false e,Bool.not_eq_false',bne_iff_ne]
   intro z
   refine e (toList_inj.1 (z.trans ?_))
   rw[ByteArray.toList_eq]
   rfl
theorem rword_f {k:Int} (h0:0≤k) (h4:k≤4):∃ w:ByteArray,Pk.r15_word.f k=some w∧w.data.toList=wordK k∧w.size≤6:=by
 have:k=0∨k=1∨k=2∨k=3∨k=4:=by omega
 rcases this with rfl|rfl|rfl|rfl|rfl
 ·exact⟨_,rfl,rfl,by decide⟩
 ·exact⟨_,rfl,rfl,by decide⟩
 ·exact⟨_,rfl,rfl,by decide⟩
 ·exact⟨_,rfl,rfl,by decide⟩
 ·exact⟨_,rfl,rfl,by decide⟩
theorem rOf_day {n:Int} (h0:0≤n) (h1:n≤9999):r1_Of.f n=some (natB n.toNat):=by
 unfold r1_Of.f ofS
 rw[if_pos (by omega)]
 first|rfl|(rw[if_neg (by omega)])|(rw[if_pos (by omega)])
theorem numOk_rprint {x:BB} {least:Int} (h:numOk x true least=true):r4_Print.f x.1 x.2=some (printS x)∧(printS x).size≤1000:=by
 refine⟨?_,(numOk_print h).2⟩
 unfold numOk at h
 rw[if_pos rfl,Bool.and_eq_true,Bool.and_eq_true,Bool.and_eq_true,decide_eq_true_eq,decide_eq_true_eq,decide_eq_true_eq] at h
 unfold r4_Print.f
 exact if_pos (show smE (x.1,x.2)=true from decide_eq_true (show x.1.size+x.2.size≤300 by omega))
theorem tail_more (x:List UInt8) (ws:List (List UInt8)):Lib.joinTail [32] (ws ++ [x])=Lib.joinTail [32] ws++(32 :: x):=by
 unfold Lib.joinTail
 rw[List.map_append,List.flatten_append]
 simp
theorem join_more {w:List UInt8} {ws:List (List UInt8)} (x:List UInt8):Lib.join (w :: ws ++ [x]) [32]=Lib.join (w :: ws) [32]++(32 :: x):=by
 rw[List.cons_append,Lib.join_cons,Lib.join_cons,List.append_assoc,tail_more]
def spB:ByteArray:=⟨#[32]⟩
theorem spB_size:spB.size=1:=rfl
theorem spB_list:spB.data.toList=[32]:=rfl
theorem line_more {s x:ByteArray} {w:List UInt8} {ws:List (List UInt8)} (h:s.data.toList=Lib.join (w :: ws) [32]):(s++(spB++x)).data.toList=Lib.join (w :: ws ++ [x.data.toList]) [32]:=by
 rw[join_more,← h,ByteArray.data_append,ByteArray.data_append,Array.toList_append,Array.toList_append,spB_list]
 rfl
theorem line_more' {s x:ByteArray} {w:List UInt8} {ws:List (List UInt8)} (h:s.data.toList=Lib.join (w :: ws) [32]):((s++spB)++x).data.toList=Lib.join (w :: ws ++ [x.data.toList]) [32]:=by
 rw[join_more,← h,ByteArray.data_append,ByteArray.data_append,Array.toList_append,Array.toList_append,spB_list,List.append_assoc]
 rfl
theorem rprint_j0 {s:ByteArray} {w:List UInt8} {ws:List (List UInt8)} (hs:s.data.toList=Lib.join (w :: ws) [32]) (hz:s.size≤100000) {a0 a2 a3 a4 a5 a6 a7:ByteArray} {a1 a8 a9 a10:Int}
  (hr:numOk (a4,a5) (kRatio a1) 1=true) (hc:numOk (a6,a7) (kCash a1) (kLeast a1)=true) (k:Nat) :
  ∃ t,Pk.r15_Print.j0 (k+1) (kRatio a1) (kCash a1) s a0 a1 a2 a3 a4 a5 a6 a7 a8 a9 a10=some t ∧
   t.data.toList=Lib.join (w :: ws++((if kRatio a1=true then [(printS (a4,a5)).data.toList] else [])++(if kCash a1=true then [(printS (a6,a7)).data.toList] else []))) [32]:=by
 simp only[Pk.r15_Print.j0]
 have esp:(⟨#[32]⟩:ByteArray)=spB:=rfl
 rw[esp]
 by_cases h:kRatio a1=true
 ·have hr':=hr
  rw[h] at hr'
  obtain⟨p1,p2⟩:=numOk_rprint hr'
  have p1':r4_Print.f a4 a5=some (printS (a4,a5)):=p1
  have l1:=line_more (x:=printS (a4,a5)) hs
  have z1:(spB++printS (a4,a5)).size=1+(printS (a4,a5)).size:=by rw[ByteArray.size_append,spB_size]
  have z2:(s++(spB++printS (a4,a5))).size=s.size+(1+(printS (a4,a5)).size):=by rw[ByteArray.size_append,z1]
  rw[if_pos h,if_pos h,p1',ob_,if_pos (by omega),if_pos (by omega)]
  by_cases hk:kCash a1=true
  ·rw[hk] at hc
   obtain⟨q1,q2⟩:=numOk_rprint hc
   have q1':r4_Print.f a6 a7=some (printS (a6,a7)):=q1
   have z3:(spB++printS (a6,a7)).size=1+(printS (a6,a7)).size:=by rw[ByteArray.size_append,spB_size]
   rw[if_pos hk,if_pos hk,q1',ob_,if_pos (by omega),if_pos (by omega)]
   refine⟨_,rfl,?_⟩
   exact(line_more (x:=printS (a6,a7)) l1).trans (congrArg (fun z=>Lib.join z [32]) (List.append_assoc (w :: ws) [(printS (a4,a5)).data.toList] [(printS (a6,a7)).data.toList]))
  ·rw[if_neg hk,if_neg hk,List.append_nil]
   exact⟨_,rfl,l1⟩
 ·rw[if_neg h,if_neg h,List.nil_append]
  by_cases hk:kCash a1=true
  ·rw[hk] at hc
   obtain⟨q1,q2⟩:=numOk_rprint hc
   have q1':r4_Print.f a6 a7=some (printS (a6,a7)):=q1
   have z3:(spB++printS (a6,a7)).size=1+(printS (a6,a7)).size:=by rw[ByteArray.size_append,spB_size]
   rw[if_pos hk,if_pos hk,q1',ob_,if_pos (by omega),if_pos (by omega)]
   exact⟨_,rfl,line_more hs⟩
  ·rw[if_neg hk,if_neg hk,List.append_nil]
   exact⟨_,rfl,hs⟩
theorem r15print_f {a0 a2 a3 a4 a5 a6 a7:ByteArray} {a1 a8 a9 a10:Int} (h:smA (actV a0 a1 a2 a3 a4 a5 a6 a7 a8 a9 a10)=true) (k:Nat) (hk:1000012≤k) :
  Pk.r15_Print.f k a0 a1 a2 a3 a4 a5 a6 a7 a8 a9 a10=some (printA (actV a0 a1 a2 a3 a4 a5 a6 a7 a8 a9 a10)):=by
 unfold Pk.r15_Print.f
 rw[r15may_f h k hk,ob_]
 by_cases hm:mayA (actV a0 a1 a2 a3 a4 a5 a6 a7 a8 a9 a10)=true
 case neg =>
  rw[if_neg hm,print_not hm]
  rfl
 rw[if_pos hm]
 obtain⟨⟨k0,k4⟩,h1,h2,h3,h4,h5,h6⟩:=mayA_and hm
 unfold daysOk at h3
 simp only[Bool.and_eq_true,decide_eq_true_eq] at h3
 obtain⟨d0,d1,d2,d3⟩:=h3
 dsimp only[actV] at k0 k4 h1 h2 h4 h5 h6 d0 d1 d2 d3
 have hl:=print_list hm
 obtain⟨wd,ew,lw,zw⟩:=rword_f k0 k4
 have z1:=nameL_size h1
 have z2:=nameL_size (Bool.and_eq_true_iff.1 h2).1
 have z8:=day_size (n:=a8) (by omega)
 have z9:=day_size (n:=a9) (by omega)
 have z10:=day_size (n:=a10) (by omega)
 have f8:=rOf_day (n:=a8) (by omega) (by omega)
 have f9:=rOf_day (n:=a9) (by omega) (by omega)
 have f10:=rOf_day (n:=a10) (by omega) (by omega)
 have esp:(⟨#[32]⟩:ByteArray)=spB:=rfl
 have l0:wd.data.toList=Lib.join (wordK a1 :: []) [32]:=by rw[Lib.join_one,lw]
 have l1:=line_more' (x:=a0) l0
 have l2:=line_more' (x:=a2) l1
 have l3:=line_more' (x:=natB a8.toNat) l2
 have l4:=line_more' (x:=natB a9.toNat) l3
 have l5:=line_more' (x:=natB a10.toNat) l4
 rw[rnames_f,ob_,ew,ob_,esp]
 dsimp only
 rw[f8,f9,f10]
 have s1:(wd++spB).size=wd.size+1:=by rw[ByteArray.size_append,spB_size]
 have s2:((wd++spB)++a0).size=wd.size+1+a0.size:=by rw[ByteArray.size_append,s1]
 have s3:(((wd++spB)++a0)++spB).size=wd.size+1+a0.size+1:=by rw[ByteArray.size_append,s2,spB_size]
 have s4:((((wd++spB)++a0)++spB)++a2).size=wd.size+1+a0.size+1+a2.size:=by rw[ByteArray.size_append,s3]
 have s5:(((((wd++spB)++a0)++spB)++a2)++spB).size=wd.size+1+a0.size+1+a2.size+1:=by rw[ByteArray.size_append,s4,spB_size]
 have s6:((((((wd++spB)++a0)++spB)++a2)++spB)++natB a8.toNat).size=wd.size+1+a0.size+1+a2.size+1+(natB a8.toNat).size:=by rw[ByteArray.size_append,s5]
 have s7:(((((((wd++spB)++a0)++spB)++a2)++spB)++natB a8.toNat)++spB).size=wd.size+1+a0.size+1+a2.size+1+(natB a8.toNat).size+1:=by rw[ByteArray.size_append,s6,spB_size]
 have s8:((((((((wd++spB)++a0)++spB)++a2)++spB)++natB a8.toNat)++spB)++natB a9.toNat).size=wd.size+1+a0.size+1+a2.size+1+(natB a8.toNat).size+1+(natB a9.toNat).size:=by rw[ByteArray.size_append,s7]
 have s9:(((((((((wd++spB)++a0)++spB)++a2)++spB)++natB a8.toNat)++spB)++natB a9.toNat)++spB).size=wd.size+1+a0.size+1+a2.size+1+(natB a8.toNat).size+1+(natB a9.toNat).size+1:=by rw[ByteArray.size_append,s8,spB_size]
 have s10:((((((((((wd++spB)++a0)++spB)++a2)++spB)++natB a8.toNat)++spB)++natB a9.toNat)++spB)++natB a10.toNat).size=wd.size+1+a0.size+1+a2.size+1+(natB a8.toNat).size+1+(natB a9.toNat).size+1+(natB a10.toNat).size:=by rw[ByteArray.size_append,s9]
 rw[if_pos (by omega),if_pos (by omega),if_pos (by omega),if_pos (by omega),if_pos (by omega),ob_,if_pos (by omega),if_pos (by omega),ob_,if_pos (by omega),if_pos (by omega),ob_,if_pos (by omega)]
 clear s1 s2 s3 s4 s5 s6 s7 s8 s9 l0 l1 l2 l3 l4
 generalize ((((((((((wd++spB)++a0)++spB)++a2)++spB)++natB a8.toNat)++spB)++natB a9.toNat)++spB)++natB a10.toNat)=s at l5 s10 ⊢
 obtain⟨k,rfl⟩:∃ z,k=z+1:=⟨k-1,by omega⟩
 have hw:wordsA (actV a0 a1 a2 a3 a4 a5 a6 a7 a8 a9 a10)=[wordK a1,a0.data.toList,a2.data.toList,Lib.decDigits a8.toNat,Lib.decDigits a9.toNat,Lib.decDigits a10.toNat]++((if kOther a1=true then [a3.data.toList] else [])++((if kRatio a1=true then [(printS (a4,a5)).data.toList] else [])++(if kCash a1=true then [(printS (a6,a7)).data.toList] else []))):=rfl
 rw[natB_list,natB_list,natB_list] at l5
 have done:∀ t:ByteArray,t.data.toList=Lib.join (wordsA (actV a0 a1 a2 a3 a4 a5 a6 a7 a8 a9 a10)) [32]→some t=some (printA (actV a0 a1 a2 a3 a4 a5 a6 a7 a8 a9 a10)):=fun t ht=>congrArg some (bext (ht.trans hl.symm))
 unfold otherOk at h4
 dsimp only[actV] at h4
 by_cases ho:kOther a1=true
 ·rw[if_pos ho] at h4 hw
  have z3:=nameL_size (Bool.and_eq_true_iff.1 (Bool.and_eq_true_iff.1 h4).1).1
  have z4:(spB++a3).size=1+a3.size:=by rw[ByteArray.size_append,spB_size]
  have z5:(s++(spB++a3)).size=s.size+(1+a3.size):=by rw[ByteArray.size_append,z4]
  have l6:=line_more (x:=a3) l5
  obtain⟨t,et,lt⟩:=rprint_j0 (a0:=a0) (a2:=a2) (a3:=a3) (a8:=a8) (a9:=a9) (a10:=a10) l6 (by omega) h5 h6 k
  rw[if_pos ho,if_pos (by omega),if_pos (by omega),et]
  refine done t (lt.trans ?_)
  rw[hw]
  rfl
 ·rw[if_neg ho] at hw
  obtain⟨t,et,lt⟩:=rprint_j0 (a0:=a0) (a2:=a2) (a3:=a3) (a8:=a8) (a9:=a9) (a10:=a10) l5 (by omega) h5 h6 k
  rw[if_neg ho,et]
  refine done t (lt.trans ?_)
  rw[hw]
  rfl
def splitM:Nat→List UInt8→List (List UInt8)
 | 0,l=>[l]
 | n+1,l=>match cutAt 32 l with
  | some (a,b)=>a :: splitM n b
  | none=>[l]
theorem splitL_some {l a b:List UInt8} (h:cutAt 32 l=some (a,b)):splitL l=a :: splitL b:=by
 obtain⟨_,h2,h3⟩:=indexByte_some h
 rw[h2,split_first _ h3]
theorem splitL_none {l:List UInt8} (h:cutAt 32 l=none):splitL l=[l]:=by
 have h0:=Lib.count_miss (s:=l) (sub:=[32]) (by rw[Lib.index_one];exact indexByte_none h)
 rw[Lib.count_one] at h0
 exact split_word (List.count_eq_zero.1 h0)
theorem splitM_some {n:Nat} {l a b:List UInt8} (h:cutAt 32 l=some (a,b)):splitM (n+1) l=a :: splitM n b:=by
 show (match cutAt 32 l with|some (a,b)=>a :: splitM n b|none=>[l]) = _
 rw[h]
theorem splitM_none {n:Nat} {l:List UInt8} (h:cutAt 32 l=none):splitM n l=[l]:=by
 cases n with
 | zero=>rfl
 | succ n =>
  show (match cutAt 32 l with|some (a,b)=>a :: splitM n b|none=>[l]) = _
  rw[h]
theorem splitM_eq:∀ (n:Nat) (l:List UInt8),(splitL l).length≤n+1→splitM n l=splitL l:=by
 intro n
 induction n with
 | zero =>
  intro l h
  cases e:cutAt 32 l with
  | none=>rw[splitL_none e];rfl
  | some p =>
   obtain⟨a,b⟩:=p
   rw[splitL_some e,List.length_cons] at h
   have:=List.length_pos_iff.2 (split_ne b)
   omega
 | succ n ih =>
  intro l h
  cases e:cutAt 32 l with
  | none=>rw[splitL_none e,splitM_none e]
  | some p =>
   obtain⟨a,b⟩:=p
   rw[splitL_some e,List.length_cons] at h
   rw[splitL_some e,splitM_some e,ih b (by omega)]
theorem splitM_len:∀ (n:Nat) (l:List UInt8),n+1<(splitL l).length→(splitM n l).length=n+1:=by
 intro n
 induction n with
 | zero=>intro l _;rfl
 | succ n ih =>
  intro l h
  cases e:cutAt 32 l with
  | none =>
   rw[splitL_none e] at h
   simp at h
  | some p =>
   obtain⟨a,b⟩:=p
   rw[splitL_some e,List.length_cons] at h
   rw[splitM_some e,List.length_cons,ih b (by omega)]
theorem owed_le (k:Int):owed k≤9:=by
 unfold owed
 (repeat' split) <;> omega
theorem parseWs_long {l:List (List UInt8)} (h:9<l.length):parseWs l=none:=by
 unfold parseWs
 split
 ·rename_i k _
  have hr:readOk k l=false:=by
   have:=owed_le k
   unfold readOk
   rw[decide_eq_false (show ¬ l.length=owed k by omega)]
   rfl
  rw[hr]
  rfl
 ·rfl
theorem outM (l:List UInt8):outW (splitM 11 l)=outW (splitL l):=by
 by_cases h:(splitL l).length≤12
 ·rw[splitM_eq 11 l h]
 ·rw[outW_none (l:=splitM 11 l) (parseWs_long (by rw[splitM_len 11 l (by omega)];decide)),outW_none (l:=splitL l) (parseWs_long (by omega))]
theorem splitM_size:∀ (n:Nat) (l:List UInt8),(splitM n l).length≤n+1∧1≤(splitM n l).length∧∀ w∈splitM n l,w.length≤l.length:=by
 intro n
 induction n with
 | zero =>
  intro l
  refine⟨nr_ _,nr_ _,?_⟩
  intro w hw
  obtain rfl:w=l:=by simpa [splitM] using hw
  exact nr_ _
 | succ n ih =>
  intro l
  cases e:cutAt 32 l with
  | none =>
   rw[splitM_none e]
   refine⟨by simp,nr_ _,?_⟩
   intro w hw
   obtain rfl:=List.mem_singleton.1 hw
   exact nr_ _
  | some p =>
   obtain⟨a,b⟩:=p
   obtain⟨i1,i2,i3⟩:=ih b
   have hl:=cutAt_len e
   rw[splitM_some e]
   refine⟨by rw[List.length_cons];omega,by rw[List.length_cons];omega,?_⟩
   intro w hw
   rcases List.mem_cons.1 hw with rfl|hw
   ·omega
   ·have:=i3 w hw
    omega
theorem rwords_loop (s:ByteArray) (hs:s.size≤1000000):∀ (d i f n:Nat) (out:List ByteArray),i+d=s.size→f≤i→(32:UInt8)∉(s.data.toList.drop f).take (i-f)→out.length+n=11→∀ k,2 * d+2≤k →
  ∃ ws,Pk.r14_Words.l0 k s 12 out (f:Int) (i:Int)=some ws∧ws.map (·.data.toList)=out.map (·.data.toList)++splitM n (s.data.toList.drop f):=by
 have last:∀ (k f:Nat) (i:Int) (out:List ByteArray),f≤s.size→out.length≤11→Pk.r14_Words.j1 (k+1) s 12 out (f:Int) i false=some (out ++ [s.extract f s.size]):=by
  intro k f i out hf ho
  simp only[Pk.r14_Words.j1]
  rw[if_neg (by decide),if_pos (by omega),if_pos (by omega),if_pos (by omega),Int.toNat_natCast]
 intro d
 induction d with
 | zero =>
  intro i f n out hi hf hb hn k hk
  obtain⟨k,rfl⟩:∃ z,k=z+2:=⟨k-2,by omega⟩
  have e:Pk.r14_Words.l0 (k+2) s 12 out (f:Int) (i:Int)=Pk.r14_Words.j1 (k+1) s 12 out (f:Int) (i:Int) false:=by
   show Pk.r14_Words.l0 (k+1+1) s 12 out (f:Int) (i:Int) = _
   simp only[Pk.r14_Words.l0]
   rw[if_neg (by omega)]
  refine⟨_,e.trans (last k f i out (by omega) (by omega)),?_⟩
  have hnone:cutAt 32 (s.data.toList.drop f)=none:=by
   refine cutAt_none ?_
   rw[List.take_of_length_le (by rw[List.length_drop,← size_len];omega)] at hb
   exact hb
  rw[List.map_append,splitM_none hnone,List.map_cons,List.map_nil,Lib.extract_to_end]
 | succ d ih =>
  intro i f n out hi hf hb hn k hk
  obtain⟨k,rfl⟩:∃ z,k=z+2:=⟨k-2,by omega⟩
  have e:Pk.r14_Words.l0 (k+2) s 12 out (f:Int) (i:Int)=Pk.r14_Words.j1 (k+1) s 12 out (f:Int) (i:Int) (decide ((out.length:Int)<11)):=by
   show Pk.r14_Words.l0 (k+1+1) s 12 out (f:Int) (i:Int) = _
   simp only[Pk.r14_Words.l0]
   rw[if_pos (by omega),w64 (by decide) (by decide)]
   rfl
  rw[e]
  cases n with
  | zero =>
   rw[decide_eq_false (show ¬ (out.length:Int)<11 by omega)]
   refine⟨_,last k f i out (by omega) (by omega),?_⟩
   rw[List.map_append,List.map_cons,List.map_nil,Lib.extract_to_end]
   rfl
  | succ n =>
   obtain⟨c,hc,hbt⟩:=bt_get s i (by omega)
   have hlt:i<s.data.toList.length:=by rw[← size_len];omega
   have hcc:s.data.toList[i]=c:=by
    rw[List.getElem?_eq_getElem hlt] at hc
    exact Option.some.inj hc
   rw[decide_eq_true (show (out.length:Int)<11 by omega)]
   simp only[Pk.r14_Words.j1]
   rw[if_pos trivial,if_pos (by omega),if_pos (by omega),hbt,w64 (by omega) (by omega),show ((i:Int)+1)=((i+1:Nat):Int) by omega]
   by_cases h32:(c.toNat:Int)=32
   ·have hc32:c=32:=UInt8.toNat_inj.1 (by rw[show (32:UInt8).toNat=32 from rfl];omega)
    rw[if_pos h32,if_pos (by omega),if_pos (by omega),if_pos (by omega),if_pos (by omega),Int.toNat_natCast,Int.toNat_natCast]
    obtain⟨ws,h1,h2⟩:=ih (i+1) (i+1) n (out ++ [s.extract f i]) (by omega) (nr_ _) (by rw[Nat.sub_self,List.take_zero];simp) (by rw[List.length_append,List.length_singleton];omega) k (by omega)
    refine⟨ws,h1,?_⟩
    have hcut:cutAt 32 (s.data.toList.drop f)=some ((s.data.toList.drop f).take (i-f),s.data.toList.drop (i+1)):=by
     have hd:s.data.toList.drop f=(s.data.toList.drop f).take (i-f)++32 :: s.data.toList.drop (i+1):=by
      have h3:(s.data.toList.drop f).drop (i-f)=32 :: s.data.toList.drop (i+1):=by
       rw[List.drop_drop,show f+(i-f)=i by omega,List.drop_eq_getElem_cons hlt,hcc,hc32]
      rw[← h3,List.take_append_drop]
     have h4:=cutAt_some (s.data.toList.drop (i+1)) hb
     rw[← hd] at h4
     exact h4
    rw[h2,splitM_some hcut,List.map_append,List.map_cons,List.map_nil,Lib.extract_data,List.append_assoc]
    rfl
   ·rw[if_neg h32]
    refine ih (i+1) f (n+1) out (by omega) (by omega) ?_ hn k (by omega)
    rw[show i+1-f=(i-f)+1 by omega,List.take_add_one]
    intro hm
    rcases List.mem_append.1 hm with hm|hm
    ·exact hb hm
    ·rw[List.getElem?_drop,show f+(i-f)=i by omega,hc] at hm
     have:(32:UInt8)=c:=by simpa using hm
     exact h32 (by rw[← this];rfl)
theorem rwords_f {s:ByteArray} (hs:s.size≤1000000) (k:Nat) (hk:2000010≤k):∃ ws,Pk.r14_Words.f k s 12=some ws∧ws.map (·.data.toList)=splitM 11 s.data.toList:=by
 unfold Pk.r14_Words.f
 obtain⟨ws,h1,h2⟩:=rwords_loop s hs s.size 0 0 11 [] (by omega) (nr_ _) (by simp) rfl k (by omega)
 exact⟨ws,h1,h2⟩
def most63B:ByteArray:=⟨#[57,50,50,51,51,55,50,48,51,54,56,53,52,55,55,53,56,48,55]⟩
theorem most63B_may:mayB most63B=true:=by decide
theorem most63B_num:numB most63B=most63:=by decide
theorem num_take_le {l:List UInt8} (h:l.all isDig=true) (i:Nat):num (l.take i)≤num l:=by
 have e:=num_append (l.take i) (l.drop i)
 rw[List.take_append_drop] at e
 have h1:1≤10 ^ (l.drop i).length:=Nat.one_le_pow _ _ (by omega)
 have h2:=Nat.le_mul_of_pos_right (num (l.take i)) h1
 omega
theorem rsmall_loop {s:ByteArray} (hd:s.data.toList.all isDig=true) (hs:s.size≤1000000000) (hn:numB s≤9223372036854775807):∀ (d i:Nat),i+d=s.size→∀ k,d+1≤k→Pq.r1_Small.l0 k s (num (s.data.toList.take i):Int) (i:Int)=some ((numB s:Int),true)
 | 0,i,hi,k,hk=>by
  obtain⟨k,rfl⟩:∃ m,k=m+1:=⟨k-1,by omega⟩
  simp only[Pq.r1_Small.l0]
  rw[if_neg (by omega),List.take_of_length_le (by rw[← size_len];omega)]
  rfl
 | d+1,i,hi,k,hk=>by
  obtain⟨k,rfl⟩:∃ m,k=m+1:=⟨k-1,by omega⟩
  simp only[Pq.r1_Small.l0]
  obtain⟨c,hc,hb⟩:=bt_get s i (by omega)
  have hcb:=isDig_bounds (List.all_eq_true.1 hd c (List.mem_of_getElem? hc))
  have hil:i<s.data.toList.length:=by rw[← size_len];omega
  have hcc:s.data.toList[i]=c:=by
   rw[List.getElem?_eq_getElem hil] at hc
   exact Option.some.inj hc
  have h1:=num_take_le hd (i+1)
  have h2:num (s.data.toList.take (i+1))=num (s.data.toList.take i) * 10+(c.toNat-48):=by
   rw[List.take_succ_eq_append_getElem hil,hcc,num_snoc]
  have h3:num s.data.toList≤9223372036854775807:=hn
  rw[if_pos (by omega),if_pos (by omega),hb]
  have e1:((c.toNat:Int)-48) % 256=(c.toNat:Int)-48:=Int.emod_eq_of_lt (by omega) (by omega)
  rw[e1,w64 (x:=10 * (num (s.data.toList.take i):Int)) (by omega) (by omega),w64 (x:=10 * (num (s.data.toList.take i):Int)+((c.toNat:Int)-48)) (by omega) (by omega),w64 (x:=(i:Int)+1) (by omega) (by omega)]
  have e2:10 * (num (s.data.toList.take i):Int)+((c.toNat:Int)-48)=((num (s.data.toList.take (i+1)):Nat):Int):=by omega
  rw[e2,show ((i:Int)+1)=((i+1:Nat):Int) by omega]
  exact rsmall_loop hd hs hn d (i+1) (by omega) k (by omega)
theorem cmpI_pos (m n:Nat):Lib.compareInt (m:Int) (n:Int)>0↔¬ m≤n:=by
 unfold Lib.compareInt
 split
 ·constructor
  ·intro h;exact absurd h (by decide)
  ·intro h;omega
 ·split
  ·constructor
   ·intro _;omega
   ·intro _;decide
  ·constructor
   ·intro h;exact absurd h (by decide)
   ·intro h;omega
theorem rsmall_f {a:ByteArray} (ha:a.size≤50000) (k:Nat) (hk:50010≤k):Pq.r1_Small.f k a=some (smallS a):=by
 obtain⟨k,rfl⟩:∃ m,k=m+1:=⟨k-1,by omega⟩
 unfold Pq.r1_Small.f
 rw[rmay_f a (by omega) _ (by omega),ob_]
 by_cases h1:mayB a=true
 ·have hmb:most63B.size≤50000:=Nat.le_trans (show most63B.size≤19 from nr_ 19) (by omega)
  have hc:=rcmp_f (N:=50000) (by omega) ha hmb (k+1) (by omega)
  unfold most63B at hc
  rw[if_pos h1,hc,ob_]
  simp only[Pq.r1_Small.j0]
  have hcs:cmpS a ⟨#[57,50,50,51,51,55,50,48,51,54,56,53,52,55,55,53,56,48,55]⟩=Lib.compareInt (numB a:Int) (most63:Int):=by
   have h2:=most63B_may
   have h3:=most63B_num
   unfold most63B at h2 h3
   unfold cmpS
   rw[if_pos (may2_eq h1 h2),h3]
  rw[hcs]
  unfold smallS
  rw[h1,Bool.true_and]
  by_cases h:numB a≤most63
  ·rw[if_neg (by rw[decide_eq_true_eq,cmpI_pos];omega),if_pos (decide_eq_true h)]
   exact rsmall_loop (may_all h1) (by omega) (by unfold most63 at h;exact h) a.size 0 (by omega) k (by omega)
  ·rw[if_pos (by rw[decide_eq_true_eq,cmpI_pos];exact h),if_neg (by rw[decide_eq_true_eq];exact h)]
 ·rw[if_neg h1]
  unfold smallS
  rw[(Bool.not_eq_true _).mp h1]
  rfl
def r1_Small.f (a0:ByteArray):Option (Int×Bool):=if sm a0=true then some (smallS a0) else none
theorem r1_Small.calls (a0:ByteArray) (r1:Int) (r2:Bool) (w:World) (h:r1_Small.f a0=some (r1,r2)) :
  Calls Tryz.prog 25 #[.string a0] w fun e w'=>e=.returned (.tuple #[.int .i64 r1,.bool r2])∧Below w.heap.size w w':=by
 unfold r1_Small.f at h
 split at h
 ·rename_i hp
  rw[← rsmall_f (sm_le hp) _ (nr_ _)] at h
  exact(Pq.r1_Small.calls _ a0 r1 r2 w h).mono fun e w' ⟨he,hw⟩=>⟨he,drawn_below hw⟩
 ·cases h
theorem bp_ {w:World} {g:Nat} {t:TypeId} {cs cs':Array Value} (h:w.heap[g]?=some (.cells cs t (0,0))) (i:Nat) (u:Value) (e:cs.setIfInBounds i u=cs':=by first|(simp only[List.setIfInBounds_toArray,List.set_cons_zero,List.set_cons_succ];done)|(simp only[List.setIfInBounds_toArray,List.set_cons_zero,List.set_cons_succ];rfl)):(w.setCell ⟨g,i,none⟩ u).heap[g]?=some (.cells cs' t (0,0)):=blk_put h i u e
theorem bp2_ {w:World} {g:Nat} {t:TypeId} {cs cs':Array Value} (h:w.heap[g]?=some (.cells cs t (0,0))) (i:Nat) (u:Value) (j:Nat) (v:Value) (e:(cs.setIfInBounds i u).setIfInBounds j v=cs':=by first|(simp only[List.setIfInBounds_toArray,List.set_cons_zero,List.set_cons_succ];done)|(simp only[List.setIfInBounds_toArray,List.set_cons_zero,List.set_cons_succ];rfl)):((w.setCell ⟨g,i,none⟩ u).setCell ⟨g,j,none⟩ v).heap[g]?=some (.cells cs' t (0,0)):=blk_put (blk_set h i u) j v e
theorem rq_ {P Q:Prop} (h:Q) (t:Q→P:=by intro h_;(with_reducible repeat(first|refine blk_drewN ?_ _|refine blk_drew ?_|refine blk_alloc ?_ _));(with_reducible first|exact h_|exact blk_set11 h_ _ _ _ _ _ _ _ _ _ _ _|exact bp_ h_ _ _|exact bp2_ h_ _ _ _ _|exact bp_ (blk_set11 h_ _ _ _ _ _ _ _ _ _ _ _) _ _|exact bp2_ (blk_set11 h_ _ _ _ _ _ _ _ _ _ _ _) _ _ _ _)):P:=t h
theorem fq_ {P Q:Prop} (h:Q) (t:Q→P:=by intro h_;repeat(first|(with_reducible exact h_)|(with_reducible refine blk_drewN ?_ _)|(with_reducible refine blk_drew ?_)|(with_reducible refine blk_alloc ?_ _)|(with_reducible refine blk_far11 ?_ (Aside0.out (by with_reducible assumption)) _ _ _ _ _ _ _ _ _ _ _)|(with_reducible refine blk_far ?_ (Aside0.out (by with_reducible assumption)) _)|exact h_)):P:=t h
def NumT (xr:Bool) (i n:Nat) (y:ByteArray) (b5 z:Bool) (rn rd z1 z2:ByteArray):Prop:=(xr=true∧i<n∧∃ b6:Bool,parseS y=(rn,rd,if b6=true then 0 else 40)∧z=(b5&&b6))∨((xr=false∨n≤i)∧rn=z1∧rd=z2∧z=b5)
theorem parseS_two (y:ByteArray):∃ rn rd b,parseS y=(rn,rd,if b=true then 0 else 40):=by
 unfold parseS
 split
 ·exact⟨_,_,true,rfl⟩
 ·exact⟨_,_,false,rfl⟩
theorem NumT.get {xr:Bool} {i n:Nat} {y:ByteArray} {b5 z:Bool} {rn rd z1 z2:ByteArray} (h:NumT xr i n y b5 z rn rd z1 z2) (hi:xr=true→i<n) :
  ∃ b6,(if xr=true then parseS y else (z1,z2,0))=(rn,rd,if b6=true then 0 else 40)∧z=(b5&&(!xr || b6)):=by
 rcases h with ⟨rfl,_,b6,e,hz⟩|⟨ho,rfl,rfl,rfl⟩
 ·exact⟨b6,e,hz⟩
 ·cases xr
  ·exact⟨true,rfl,by cases z <;> rfl⟩
  ·rcases ho with h|h
   ·cases h
   ·exact absurd (hi rfl) (by omega)
theorem parseS_sm {y n d:ByteArray} {c:Int} (hy:y.size≤1100) (e:parseS y=(n,d,c)):smR (n,d)=true:=by
 cases hp:parseL y.data.toList with
 | some q =>
  rw[parse_some hp] at e
  have h1:=parseL_sz hp
  rw[← size_len] at h1
  have g1:=le_szR_num q
  have g2:=le_szR_den q
  simp only[Prod.mk.injEq] at e
  rw[← e.1,← e.2.1]
  exact decide_eq_true ⟨Nat.le_trans g1 (by omega),Nat.le_trans g2 (by omega)⟩
 | none =>
  rw[parse_none hp] at e
  simp only[Prod.mk.injEq] at e
  rw[← e.1,← e.2.1]
  decide
theorem NumT.sm {xr:Bool} {i n:Nat} {y:ByteArray} {b5 z:Bool} {rn rd z1 z2:ByteArray} (h:NumT xr i n y b5 z rn rd z1 z2) (hy:y.size≤1100) (hz:smR (z1,z2)=true):smR (rn,rd)=true:=by
 rcases h with ⟨_,_,b6,e,_⟩|⟨_,h1,h2,_⟩
 ·exact parseS_sm hy e
 ·rw[h1,h2]
  exact hz
theorem parseWs_ne {l:List (List UInt8)} {k:Int} (h0:0≤k) (h4:k≤4) (hx:wAt l 0=wordK k) (h:l.length≠owed k):parseWs l=none:=by
 have hr:readOk k l=false:=by
  unfold readOk
  rw[decide_eq_false h]
  rfl
 unfold parseWs
 rw[hx,kindW_word h0 h4]
 dsimp only
 rw[hr]
 rfl
theorem rpar_end {ws:List ByteArray} {kd:Int} {x0 x1 x2 x3 rn rd cn cd z1 z2 y3 y4 y5 yr yc:ByteArray} {n3 n4 n5:Int} {b3 b4 b5 zr zc xo xr xc:Bool} {i6 i7 i8:Nat} (k0:0≤kd) (k4:kd≤4) (hx0:ws.getD 0 ⟨#[]⟩=x0) (hxw:x0.data.toList=wordK kd)
  (KO:kOther kd=xo) (KR:kRatio kd=xr) (KC:kCash kd=xc) (e1:ws.getD 1 ⟨#[]⟩=x1) (e2:ws.getD 2 ⟨#[]⟩=x2) (ez1:(rT 0).1=z1) (ez2:(rT 0).2=z2)
  (ey3:ws.getD 3 ⟨#[]⟩=y3) (ey4:ws.getD 4 ⟨#[]⟩=y4) (ey5:ws.getD 5 ⟨#[]⟩=y5) (e3:smallS y3=(n3,b3)) (e4:smallS y4=(n4,b4)) (e5:smallS y5=(n5,b5))
  (HO:(xo=true∧i6=7∧x3=ws.getD 6 ⟨#[]⟩)∨(xo=false∧i6=6∧x3=⟨#[]⟩)) (eyr:ws.getD i6 ⟨#[]⟩=yr) (HR:NumT xr i6 ws.length yr b5 zr rn rd z1 z2) (h7:i7=if xr=true then i6+1 else i6)
  (eyc:ws.getD i7 ⟨#[]⟩=yc) (HC:NumT xc i7 ws.length yc zr zc cn cd z1 z2) (h8:i8=if xc=true then i7+1 else i7) :
  parseWs (ws.map (·.data.toList))=if ((b3&&(b4&&(zc&&decide (i8=ws.length))))&&mayA (actV x1 kd x2 x3 rn rd cn cd n3 n4 n5))=true then some (actV x1 kd x2 x3 rn rd cn cd n3 n4 n5) else none:=by
 have h6:i6=if xo=true then 7 else 6:=by rcases HO with ⟨rfl,h,_⟩|⟨rfl,h,_⟩ <;> exact h
 have hend:i8=endA xo xr xc:=by
  subst h8 h7 h6
  unfold endA
  cases xo <;> cases xr <;> cases xc <;> rfl
 by_cases hl:i8=ws.length
 ·obtain⟨b6,p6,q6⟩:=HR.get (fun h=>by subst h7 h8;rw[if_pos h] at hl;split at hl <;> omega)
  obtain⟨b7,p7,q7⟩:=HC.get (fun h=>by subst h8;rw[if_pos h] at hl;omega)
  have hx3:x3=if kOther kd=true then ws.getD 6 ⟨#[]⟩ else ⟨#[]⟩:=by
   rw[KO]
   rcases HO with ⟨rfl,_,h⟩|⟨rfl,_,h⟩ <;> exact h
  have PE:=parse_end (x3:=x3) (rn:=rn) (rd:=rd) (cn:=cn) (cd:=cd) (b6:=b6) (b7:=b7) (n3:=n3) (n4:=n4) (n5:=n5) (b3:=b3) (b4:=b4) (b5:=b5) k0 k4 ((congrArg (fun z:ByteArray=>z.data.toList) hx0).trans hxw) e1 e2 (by rw[ey3];exact e3) (by rw[ey4];exact e4) (by rw[ey5];exact e5) hx3
   (by rw[KO,KR,← h6,eyr,ez1,ez2];exact p6)
   (by rw[KO,KR,KC,← h6,show (i6+if xr=true then 1 else 0)=i7 by rw[h7];cases xr <;> rfl,eyc,ez1,ez2];exact p7)
  rw[PE,KO,KR,KC,flag_end,← hend,decide_eq_true hl,decide_eq_true hl.symm,q7,q6]
  congr 2
  cases b3 <;> cases b4 <;> cases b5 <;> cases xr <;> cases xc <;> cases b6 <;> cases b7 <;> rfl
 ·rw[decide_eq_false hl,Bool.and_false,Bool.and_false,Bool.and_false,Bool.false_and,if_neg (by decide)]
  refine parseWs_ne k0 k4 ?_ ?_
  ·rw[wAt_map,hx0,hxw]
  ·rw[List.length_map,owed_end,KO,KR,KC,← hend]
   exact fun h=>hl h.symm
end Go.Proofs.YtoghmeffpgbcfaaGreatDoor