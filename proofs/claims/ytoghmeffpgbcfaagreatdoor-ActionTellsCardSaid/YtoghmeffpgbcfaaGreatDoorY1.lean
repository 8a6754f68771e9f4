/-
Parts of the proof, in build order: Back, Shelf, Base, Shelf4, Lib4, Shelf15, Lib15, ActRead, Extra, Compare, Text, Trim2, Short, Jump, Sq, Atoi, Pn0, Pn1, Pn2, Pn, TrimLaw, Own, MulR, Pt0, Pt1.
-/
import Derived.Test.YtoghmeffpgbcfaaGreatDoorY0
import Derived.RangeFuncNested
import Derived.RangeFuncBound
import Derived.OwnWalkIn
import Derived.LoopNIn
import Derived.LoopIn
import Derived.Test.YtoghmeffpgbcfaaGreatDoorProg
import Derived.Shelf.Small.Wraps
import Derived.Shelf.Strings.BuilderK
import Derived.Shelf.Strconv.Itoa3
import Derived.Shelf.Strconv.ErrVarAll
import Derived.Shelf.Strings.Repeat
import Derived.Shelf.Strings.Cut
import Derived.Shelf.Strings.SlTrimAscii
import Derived.Shelf.Strings.OnBuilder
import Derived.Shelf.Strings.Split
import Derived.Laws.CopyOwn
import Derived.Shelf.RegionOpen
set_option linter.unusedVariables false
set_option linter.unusedSimpArgs false
set_option maxHeartbeats 64000000
set_option maxRecDepth 100000
namespace Go.Proofs.YtoghmeffpgbcfaaGreatDoor
open Go.RowKit Go.Proofs.YtoghmeffpgbcfaaGreatDoorW.PrintWords Go.Proofs.YtoghmeffpgbcfaaGreatDoorW.PrintLast Go.Proofs.YtoghmeffpgbcfaaGreatDoorW.PrintMore
theorem od_ {p:Prop} [Decidable p] (h:decide p=true):p:=of_decide_eq_true h
theorem ob_ {α β:Type} (a:α) (f:α→Option β):(some a).bind f=f a:=rfl
theorem ak_ {p:Prop} (h:p):Aside0 p:=⟨h⟩
theorem nr_ (n:Nat):n≤n:=Nat.le_refl n
section
open Go.Shelf
attribute [local go_sem] Oper.semAt_some
def upto (n k:Nat):List Nat:=(List.range k).map fun j=>n-1-j
theorem upto_succ (n k:Nat):upto n (k+1)=upto n k ++ [n-1-k]:=by simp[upto,List.range_succ]
theorem upto_length (n k:Nat):(upto n k).length=k:=by simp[upto]
def limb (zs:List Int) (i:Nat):Int:=zs.getD i 0
theorem blk_add (ad:Addr) (j:Nat):(ad.add j).block=ad.block:=by unfold Addr.add;split <;> rfl
def IntsAt (n₀:Nat) (W:World) (sv:Value) (zs:List Int):Prop :=
 ∃ A cap,sv=.slice A zs.length cap∧(0<zs.length→∃ ad,A=some ad∧ad.block<n₀∧∀ j,j<zs.length→W.cell? (ad.add j)=some (.int .i64 (limb zs j)))
theorem IntsAt.below {n₀:Nat} {A B:World} (h:Below n₀ A B) {sv:Value} {zs:List Int}:IntsAt n₀ A sv zs→IntsAt n₀ B sv zs
 | ⟨q,cap,e,hc⟩=>⟨q,cap,e,fun h0=>by
   obtain⟨ad,e1,hb,hc⟩:=hc h0
   exact⟨ad,e1,hb,fun j hj=>(h.cell (p:=ad.add j) (by rw[blk_add];exact hb)).trans (hc j hj)⟩⟩
structure KeepB (n₀ Bs:Nat) (W W':World):Prop where
 low:Below n₀ W W'
 box:W'.heap[Bs]?=W.heap[Bs]?
theorem KeepB.refl (n₀ Bs:Nat) (W:World):KeepB n₀ Bs W W:=⟨Below.refl _ _,rfl⟩
theorem KeepB.trans {n₀ Bs:Nat} {A B C:World} (h:KeepB n₀ Bs A B) (k:KeepB n₀ Bs B C):KeepB n₀ Bs A C:=⟨h.low.trans k.low,k.box.trans h.box⟩
theorem KeepB.putObj {n₀ Bs:Nat} {w:World} (hn:n₀≤w.heap.size) (hB:Bs<w.heap.size) (W:World) (l:Nat) (o o':Obj) (hl:w.heap.size≤l) (h:W.heap[l]?=some o) (hc:o.isCells=false) (hw:o.isWalk=false):KeepB n₀ Bs W (W.putObj l o') :=
 ⟨belowK_b hn W l o o' hl h hc hw,World.putObj_heap_other (by omega)⟩
def item (zs:List Int) (x:Fin zs.length):Array Value:=#[.int .i64 (x.val:Int),.int .i64 (limb zs x.val)]
theorem back1_in (F:Fence) (n:Nat) (hf:F.fn 169) (hro:F.round=none) (hn:1≤n) (l Bs n₀:Nat) (ad:Addr) (cap:Nat) (zs:List Int) (hreach:zs.length≤9223372036854775807) (hb:ad.block<n₀) (J Jx:List (Fin zs.length)→World→Prop)
  (hY:∀ pre x W,J pre W→pre.length<zs.length→YieldAt F (n-1) Tryz.prog l (item zs x) W fun e W' =>
   (e=.returned (.bool true)∧J (pre ++ [x]) W'∧KeepB n₀ Bs W W')∨(e=.returned (.bool false)∧Jx (pre ++ [x]) W'))
  (W:World) (hBs:W.cell? ⟨Bs,0,none⟩=some (.slice (some ad) zs.length cap)) (hc:∀ j,j<zs.length→W.cell? (ad.add j)=some (.int .i64 (limb zs j))) (h0:J [] W) :
  CallsIn F n Tryz.prog 169 #[.func (.yield l) #[] #[],.pointer (some ⟨Bs,0,none⟩)] W fun e W'=>(∃ v,e=.returned v) ∧
   ((∃ ys,ys.map Fin.val=upto zs.length zs.length∧J ys W')∨(∃ pre,(∃ k,k≤zs.length∧pre.map Fin.val=upto zs.length k)∧Jx pre W')):=by
 refine callsIn_of_wp Tryz.func169 rfl hf ?_ hro
 simp only[Tryz.ntmps169,List.size_toArray,List.length_cons,List.length_nil,Nat.reduceAdd,Nat.reduceSub,Array.replicate_succ,Array.replicate_zero,List.push_toArray,List.append_toArray,List.nil_append,List.cons_append]
 gi_wp2
 gi_loopw [3] (fun i wr=>∃ (k:Nat) (pre:List (Fin zs.length)),k≤zs.length∧pre.map Fin.val=upto zs.length k∧i=.int .i64 ((zs.length:Int)-1-k)∧J pre wr∧KeepB n₀ Bs W wr)
  (fun i _=>(intOf i+1).toNat)
 case atStart=>exact⟨0,[],Nat.zero_le _,rfl,by simp,h0,KeepB.refl _ _ _⟩
 case round =>
  obtain⟨k,pre,hk,hpre,rfl,hJs,hnx⟩:=hrel
  have HP:=Lib.hid hpre
  have hpl:pre.length=k:=by have:=congrArg List.length hpre;rw[upto_length,List.length_map] at this;exact this
  have HL:=Lib.hid hpl
  clear hpre hpl
  have hBs':wr.cell? ⟨Bs,0,none⟩=some (.slice (some ad) zs.length cap):=(World.cell?_of_block (w:=W) hnx.box).trans hBs
  by_cases hlt:k<zs.length
  ·obtain⟨q,hq⟩:∃ q:Nat,zs.length-1-k=q:=⟨_,rfl⟩
   have hcast:((zs.length:Int)-1-k)=(q:Int):=by omega
   have hql:q<zs.length:=by omega
   have hcx:wr.cell? (ad.add q)=some (.int .i64 (limb zs q)):=(hnx.low.cell (p:=ad.add q) (by rw[blk_add];exact hb)).trans (hc q hql)
   obtain⟨fn,tmps,assign,body,hy,hR⟩:=hY pre ⟨q,hql⟩ wr hJs (by rw[HL.out];exact hlt)
   dsimp only[item] at hy
   rw[hcast]
   have hkq:=Lib.hid hq
   have HC:=Lib.hid hcast
   clear hq hcast
   gi_wp2
   refine hR.mono ?_
   rintro e W3 (⟨rfl,hJ3,hk3⟩|⟨rfl,hJx3⟩)
   ·gi_wp2
    go_roundw
    case rel=>exact⟨k+1,pre ++ [⟨q,hql⟩],by omega,by rw[List.map_append,HP.out,upto_succ,hkq.out];rfl,by have:=hkq.out;congr 1;omega,hJ3,hnx.trans hk3⟩
    case measure=>simp[intOf] <;> omega
   ·gi_wp2
    refine bodyPost_ret (results_none rfl _ _ _) rfl ?_
    exact⟨⟨_,rfl⟩,.inr ⟨_,⟨k+1,by omega,by rw[List.map_append,HP.out,upto_succ,hkq.out];rfl⟩,hJx3⟩⟩
  ·obtain rfl:k=zs.length:=by omega
   have hz:((zs.length:Int)-1-(zs.length:Int))=-1:=by omega
   rw[hz]
   clear hz
   gi_wp2
   go_end0
   exact⟨⟨_,rfl⟩,.inl ⟨pre,HP.out,hJs⟩⟩
theorem back1_nil_in {α:Type} (A:Option Addr) (F:Fence) (n:Nat) (hf:F.fn 169) (hro:F.round=none) (l Bs c:Nat) (J:List α→World→Prop) (W:World) (hBs:W.cell? ⟨Bs,0,none⟩=some (.slice A 0 c)) (h0:J [] W) :
  CallsIn F n Tryz.prog 169 #[.func (.yield l) #[] #[],.pointer (some ⟨Bs,0,none⟩)] W fun e W'=>(∃ v,e=.returned v)∧J [] W':=by
 refine callsIn_of_wp Tryz.func169 rfl hf ?_ hro
 simp only[Tryz.ntmps169,List.size_toArray,List.length_cons,List.length_nil,Nat.reduceAdd,Nat.reduceSub,Array.replicate_succ,Array.replicate_zero,List.push_toArray,List.append_toArray,List.nil_append,List.cons_append]
 gi_wp2
 gi_loopw [3] (fun i wr=>i=.int .i64 (-1)∧J [] wr) (fun _ _=>0)
 case atStart=>exact⟨rfl,h0⟩
 case round =>
  obtain⟨rfl,hJs⟩:=hrel
  gi_wp2
  go_end0
  exact⟨⟨_,rfl⟩,hJs⟩
theorem backward_in (F:Fence) (n:Nat) (hf:F.fn 144) (hro:F.round=none) (a:Option Addr) (len cap:Nat) (w:World) :
  CallsIn F n Tryz.prog 144 #[.slice a len cap] w fun e w'=>e=.returned (.func (.func 169) #[] #[.pointer (some ⟨w.heap.size,0,none⟩)])∧w'=w.alloc (.cells #[.slice a len cap] 100):=by
 refine callsIn_of_wp Tryz.func144 rfl hf ?_ hro
 simp only[Tryz.ntmps144,List.size_toArray,List.length_cons,List.length_nil,Nat.reduceAdd,Nat.reduceSub,Array.replicate_succ,Array.replicate_zero,List.push_toArray,List.append_toArray,List.nil_append,List.cons_append]
 gi_wp2
 go_ret
 exact⟨rfl,rfl⟩
theorem back_stops (F:Fence) (n:Nat) (hf:F.fn 169) (hro:F.round=none) (hn:1≤n) (Bs n₀:Nat) (sv:Value) (zs:List Int) (hreach:zs.length≤9223372036854775807) (w:World) (hBs:Bs<w.heap.size) (hn₀:n₀≤w.heap.size)
  (hc:w.cell? ⟨Bs,0,none⟩=some sv) (hI:IntsAt n₀ w sv zs) :
  SeqStopsK F n Tryz.prog 169 #[.pointer (some ⟨Bs,0,none⟩)] (item zs) (KeepB n₀ Bs) (fun ys=>ys.map Fin.val=upto zs.length zs.length)
   (fun pre=>∃ k,k≤zs.length∧pre.map Fin.val=upto zs.length k) zs.length w:=fun l J Jx W hW _ _ hY h0=>by
 have hc':=(hW.cell (p:=⟨Bs,0,none⟩) hBs).trans hc
 obtain⟨A,cap,rfl,hI'⟩:=hI.below (hW.mono hn₀)
 by_cases h00:0<zs.length
 ·obtain⟨ad,rfl,hb,hcs⟩:=hI' h00
  exact back1_in F n hf hro hn l Bs n₀ ad cap zs hreach hb J Jx hY W hc' hcs h0
 ·have hz:zs.length=0:=by omega
  have hc'':=hc'
  rw[hz] at hc''
  exact(back1_nil_in A F n hf hro l Bs cap J W hc'' h0).mono fun e W' ⟨he,hj⟩=>⟨he,.inl ⟨_,by rw[hz];rfl,hj⟩⟩
end
end Go.Proofs.YtoghmeffpgbcfaaGreatDoor
section
open Go.RowKit Go.Proofs.YtoghmeffpgbcfaaGreatDoorW.PrintWords Go.Proofs.YtoghmeffpgbcfaaGreatDoorW.PrintLast Go.Proofs.YtoghmeffpgbcfaaGreatDoorW.PrintMore Go.Proofs.YtoghmeffpgbcfaaGreatDoor
namespace Go.Proofs
open Go.Shelf
def Tryz.lays169_ren:Go.Shelf.Ren:=⟨fun|169=>67|n=>n,fun|70=>77|9=>9|0=>0|72=>80|37=>78|127=>114|3=>3|5=>5|n=>n,fun|n=>n⟩
theorem Tryz.lays169:Go.Proofs.Lays.n169 Tryz.prog Tryz.lays169_ren:=by repeat' first|kernel_rfl|(intro _;kernel_rfl)|decide|constructor
theorem Tryz.Builder_Extra_169:Builder.Extra Tryz.prog Tryz.lays169_ren:=by repeat' first|kernel_rfl|(intro _;kernel_rfl)|decide|constructor
def Tryz.lays122_ren:Go.Shelf.Ren:=⟨fun|122=>168|215=>182|n=>n,fun|3=>3|4=>4|n=>n,fun|n=>n⟩
theorem Tryz.lays122:Go.Proofs.Lays.n122 Tryz.prog Tryz.lays122_ren:=by repeat' first|kernel_rfl|(intro _;kernel_rfl)|decide|constructor
open Go.RowKit in
theorem Tryz.cmp_Compare_int (x y:Int) (w:World) :
  Calls Tryz.prog 168 #[.int .i64 x,.int .i64 y] w fun e w'=>e=.returned (.int .i64 (Lib.compareInt x y))∧w'=w:=Any.cmp_Compare_int Tryz.lays122 x y w
open Go.RowKit in
theorem Tryz.Builder_String_any_k (B b:Nat) (l:List UInt8) (w:World) (h:Lib.IsBuilderF 80 5 B b (Lib.byteCells l) w) (hBw:B≤w.heap.size) :
  Calls Tryz.prog 67 #[.pointer (some ⟨b,0,none⟩)] w fun e w'=>e=.returned (.string ⟨l.toArray⟩)∧(Lib.IsBuilderF 80 5 B b (Lib.byteCells l) w'∧Below B w w'∧Lib.OthersKept 5 (some b) w w'):=Any.Builder_String_any_k Tryz.lays169 Tryz.Builder_Extra_169 B b l w h hBw
def Tryz.laysM171_ren:Go.Shelf.Ren:=⟨fun|171=>33|243=>57|246=>100|283=>133|284=>134|285=>135|286=>136|129=>164|317=>163|318=>165|319=>166|320=>167|337=>180|338=>181|n=>n,fun|3=>3|9=>9|2=>2|4=>4|171=>122|0=>0|53=>123|37=>78|5=>5|173=>126|212=>156|51=>140|20=>20|213=>157|46=>110|232=>181|233=>182|n=>n,fun|17=>1|18=>6|19=>7|n=>n⟩
theorem Tryz.laysM171:Go.Proofs.LaysM.n171 Tryz.prog Tryz.laysM171_ren:=by repeat' first|kernel_rfl|(intro _;kernel_rfl)|decide|constructor
open Go.RowKit Go.Sort Go.Lib in
theorem Tryz.strconv_Itoa (n:Int) (h0:-9223372036854775808≤n) (h1:n≤9223372036854775807) (w:World) (htab:Lib.TabIs Tryz.prog w "internal/strconv.uint64pow10" .u64 Lib.pow10Tab) :
  Calls Tryz.prog 33 #[.int .i64 n] w fun e w'=>e=.returned (.string ⟨(Lib.itoa n).toArray⟩)∧∃ k os,w'=grow (w.drewN k) os:=Any.strconv_Itoa Tryz.laysM171 n h0 h1 w htab
def Tryz.laysC172_ren:Go.Shelf.Ren:=⟨fun|172=>80|244=>122|245=>123|247=>155|279=>156|280=>157|281=>158|282=>159|287=>172|316=>173|171=>33|205=>174|321=>183|322=>184|243=>57|246=>100|283=>133|284=>134|285=>135|286=>136|129=>164|317=>163|318=>165|319=>166|320=>167|337=>180|338=>181|n=>n,fun|9=>9|3=>3|75=>83|76=>84|4=>4|5=>5|167=>148|37=>78|0=>0|85=>149|2=>2|168=>151|53=>123|175=>167|46=>110|210=>170|127=>114|145=>179|143=>177|21=>21|171=>122|173=>126|212=>156|51=>140|20=>20|213=>157|232=>181|233=>182|80=>44|n=>n,fun|15=>4|16=>5|17=>1|18=>6|19=>7|n=>n⟩
theorem Tryz.laysC172:Go.Proofs.LaysC.n172 Tryz.prog Tryz.laysC172_ren:=by repeat' first|kernel_rfl|(intro _;kernel_rfl)|decide|constructor
open Go.RowKit in
theorem Tryz.strconv_Atoi_ok (s:ByteArray) (hmax:s.size≤9223372036854775806) (v:Int) (h:Lib.atoiAll s.data.toList=.ok v) (w:World) :
  Calls Tryz.prog 80 #[.string s] w fun e w'=>e=.returned (.tuple #[.int .i64 v,.nilIface])∧(w'=w∨∃ t,w'=Lib.bytesWorld w 5 t):=Any.strconv_Atoi_ok Tryz.laysC172 s hmax v h w
open Go.RowKit in
theorem Tryz.strconv_Atoi_range_var (s:ByteArray) (hlim:s.size≤281474976710656) (h:Lib.atoiAll s.data.toList=.range) (tp:TypeId) (p:Value) (w:World) (hvar:w.var? Tryz.prog "strconv.ErrRange" = some #[.iface tp p]) :
  Calls Tryz.prog 80 #[.string s] w fun e w'=>∃ N,e=.returned (.tuple #[.int .i64 (Lib.atoiSat s.data.toList),.iface 151 (.pointer (some ⟨N,0,none⟩))])∧w.heap.size≤N∧w'.heap[N]?=some (.cells #[.string ⟨#[65,116,111,105]⟩,.string s,.iface tp p] 170 (0,0))∧Below w.heap.size w w':=Any.strconv_Atoi_range_var Tryz.laysC172 s hlim h tp p w hvar
def Tryz.lays105_ren:Go.Shelf.Ren:=⟨fun|105=>63|212=>107|99=>108|165=>65|166=>66|170=>109|169=>67|263=>146|264=>147|206=>129|240=>110|241=>111|276=>148|277=>149|n=>n,fun|9=>9|3=>3|4=>4|20=>20|0=>0|46=>110|109=>111|5=>5|72=>80|76=>84|51=>140|146=>141|53=>123|148=>143|70=>77|37=>78|75=>83|127=>114|164=>145|80=>44|n=>n,fun|n=>n⟩
theorem Tryz.lays105:Go.Proofs.Lays.n105 Tryz.prog Tryz.lays105_ren:=by repeat' first|kernel_rfl|(intro _;kernel_rfl)|decide|constructor
theorem Tryz.Builder_Extra_105:Builder.Extra Tryz.prog Tryz.lays105_ren:=by repeat' first|kernel_rfl|(intro _;kernel_rfl)|decide|constructor
open Go.RowKit Go.Lib in
theorem Tryz.strings_Repeat (s:ByteArray) (c:Nat) (w:World) (hc:c≤9223372036854775807) (hlen:s.size * c≤140737488355328) :
  Calls Tryz.prog 63 #[.string s,.int .i64 c] w fun e w'=>e=.returned (.string ⟨(Lib.repeatL s.data.toList c).toArray⟩)∧Below w.heap.size w w':=Any.strings_Repeat Tryz.lays105 Tryz.Builder_Extra_105 s c w hc hlen
def Tryz.lays166_ren:Go.Shelf.Ren:=⟨fun|166=>66|240=>110|276=>148|n=>n,fun|0=>0|3=>3|4=>4|9=>9|20=>20|37=>78|70=>77|72=>80|75=>83|164=>145|5=>5|80=>44|n=>n,fun|n=>n⟩
theorem Tryz.lays166:Go.Proofs.Lays.n166 Tryz.prog Tryz.lays166_ren:=by repeat' first|kernel_rfl|(intro _;kernel_rfl)|decide|constructor
theorem Tryz.Builder_Extra_166:Builder.Extra Tryz.prog Tryz.lays166_ren:=by repeat' first|kernel_rfl|(intro _;kernel_rfl)|decide|constructor
open Go.RowKit in
theorem Tryz.Builder_WriteString_k (B b:Nat) (bs:List Value) (s:ByteArray) (w:World) (h:Lib.IsBuilderF 80 5 B b bs w) (hlen:bs.length+s.size≤140737488355328) (hBw:B≤w.heap.size) :
  Calls Tryz.prog 66 #[.pointer (some ⟨b,0,none⟩),.string s] w fun e w'=>e=.returned (.tuple #[.int .i64 s.size,.nilIface])∧(Lib.BuilderAtF 80 5 B b (.pointer (some ⟨b,0,none⟩)) (bs++Lib.strCells s) w'∧Below B w w'∧Lib.OthersKept 5 (some b) w w'):=Any.Builder_WriteString_k Tryz.lays166 Tryz.Builder_Extra_166 B b bs s w h hlen hBw
end Go.Proofs
end
namespace Go.Proofs.YtoghmeffpgbcfaaGreatDoor
open Go.RowKit Go.Proofs.YtoghmeffpgbcfaaGreatDoorW.PrintWords Go.Proofs.YtoghmeffpgbcfaaGreatDoorW.PrintLast Go.Proofs.YtoghmeffpgbcfaaGreatDoorW.PrintMore
theorem gTab:Tryz.prog.globalNamed "internal/strconv.uint64pow10" = some 1:=by kernel_rfl
theorem gRng:Tryz.prog.globalNamed "strconv.ErrRange" = some 5:=by kernel_rfl
structure Laid (w:World):Prop where
 tab:Lib.TabIs Tryz.prog w "internal/strconv.uint64pow10" .u64 Lib.pow10Tab
 rng:∃ tp p,w.var? Tryz.prog "strconv.ErrRange" = some #[.iface tp p]
 mx:∃ m,w.cell? ⟨0,0,none⟩=some (.int .i64 m)
theorem var_below {n:String} {g:Nat} {cs:Array Value} {w w':World} (hg:Tryz.prog.globalNamed n=some g) (h:w.var? Tryz.prog n=some cs) (hb:Below w.heap.size w w'):w'.var? Tryz.prog n=some cs:=by
 unfold World.var? at h ⊢
 rw[hg] at h ⊢
 simp only[ob_] at h ⊢
 have hlt:g<w.heap.size:=by
  rcases Nat.lt_or_ge g w.heap.size with h'|h'
  ·exact h'
  ·rw[Array.getElem?_eq_none h'] at h;cases h
 rw[hb.block g hlt]
 exact h
theorem Laid.below {w w':World} (h:Laid w) (hb:Below w.heap.size w w'):Laid w' :=
 ⟨var_below gTab h.tab hb,by obtain⟨tp,p,hv⟩:=h.rng;exact⟨tp,p,var_below gRng hv hb⟩,by obtain⟨m,hm⟩:=h.mx;exact⟨m,(hb.cell (World.block_lt_of_cell? w _ hm)).trans hm⟩⟩
theorem Laid.drewN {w:World} (h:Laid w) (n:Nat):Laid (w.drewN n):=h.below (pw_below_drewN (Below.refl _ _) n)
theorem intsAt_of_C {w:World} {A:Option Addr} {c:Nat} {zs:List Int} (h:Kd.C (Kd.int .i64) w A zs.length zs):IntsAt w.heap.size w (.slice A zs.length c) zs:=by
 refine⟨A,c,rfl,fun h0=>?_⟩
 obtain⟨ad,rfl,hc⟩:=h.2.2 h0
 have hall:∀ j,j<zs.length→w.cell? (ad.add j)=some (.int .i64 (limb zs j)):=by
  intro j hj
  obtain⟨cs,_,hk,hcell⟩:=hc j (zs[j]) (by simp[hj])
  have e:cs=[.int .i64 (zs[j])]:=hk
  subst e
  have h1:=hcell 0 _ rfl
  have e1:j * (Kd.int .i64).sz+0=j:=by
   show j * 1+0=j
   omega
  rw[e1] at h1
  rw[h1]
  simp[limb,hj]
 refine⟨ad,rfl,?_,hall⟩
 have h1:=World.block_lt_of_cell? w _ (hall 0 h0)
 rw[blk_add] at h1
 exact h1
end Go.Proofs.YtoghmeffpgbcfaaGreatDoor
section
open Go.RowKit Go.Proofs.YtoghmeffpgbcfaaGreatDoorW.PrintWords Go.Proofs.YtoghmeffpgbcfaaGreatDoorW.PrintLast Go.Proofs.YtoghmeffpgbcfaaGreatDoorW.PrintMore Go.Proofs.YtoghmeffpgbcfaaGreatDoor
namespace Go.Proofs
open Go.Shelf
def Tryz.lays161_ren:Go.Shelf.Ren:=⟨fun|161=>126|231=>91|227=>93|233=>94|235=>96|228=>130|197=>119|151=>131|260=>150|152=>161|137=>178|119=>179|224=>153|225=>152|217=>151|266=>170|n=>n,fun|9=>9|4=>4|3=>3|5=>5|117=>94|116=>93|0=>0|124=>97|105=>116|21=>21|119=>162|46=>110|139=>165|138=>164|n=>n,fun|3=>2|4=>3|n=>n⟩
theorem Tryz.lays161:Go.Proofs.Lays.n161 Tryz.prog Tryz.lays161_ren:=by repeat' first|kernel_rfl|(intro _;kernel_rfl)|decide|constructor
open Go.RowKit in
theorem Tryz.strings_TrimLeft_one (s:ByteArray) (c:UInt8) (hc:c.toNat<128) (w:World) :
  Calls Tryz.prog 126 #[.string s,.string ⟨#[c]⟩] w fun e w'=>e=.returned (.string ⟨(Lib.trimLeftB s.data.toList c).toArray⟩)∧w'=w:=Any.strings_TrimLeft_one Tryz.lays161 s c hc w
def Tryz.lays160_ren:Go.Shelf.Ren:=⟨fun|160=>52|232=>92|231=>91|227=>93|234=>95|233=>94|236=>97|235=>96|228=>130|271=>132|151=>131|197=>119|120=>162|152=>161|260=>150|137=>178|119=>179|224=>153|225=>152|217=>151|266=>170|n=>n,fun|9=>9|4=>4|3=>3|5=>5|117=>94|116=>93|0=>0|124=>97|21=>21|105=>116|46=>110|119=>162|139=>165|138=>164|n=>n,fun|3=>2|4=>3|n=>n⟩
theorem Tryz.lays160:Go.Proofs.Lays.n160 Tryz.prog Tryz.lays160_ren:=by repeat' first|kernel_rfl|(intro _;kernel_rfl)|decide|constructor
open Go.RowKit in
theorem Tryz.strings_Trim_laid (s cutset:ByteArray) (w:World) (hs:s.size≤9223372036854775807) (hcs:cutset.size<4294967281) (ha:cutset.data.toList.all (fun b=>decide (b.toNat<128))=true) :
  Calls Tryz.prog 52 #[.string s,.string cutset] w fun e w'=>e=.returned (.string ⟨(Lib.trimS s.data.toList cutset.data.toList).toArray⟩)∧Below w.heap.size w w' :=
 Any.strings_Trim_laid Tryz.lays160 (by kernel_rfl) s cutset w hs hcs (ascii_of_all ha)
def Tryz.lays145_ren:Go.Shelf.Ren:=⟨fun|145=>83|220=>125|219=>121|217=>151|225=>152|224=>153|267=>154|266=>170|314=>171|n=>n,fun|9=>9|4=>4|59=>73|3=>3|5=>5|46=>110|146=>141|51=>140|n=>n,fun|1=>0|n=>n⟩
theorem Tryz.lays145:Go.Proofs.Lays.n145 Tryz.prog Tryz.lays145_ren:=by repeat' first|kernel_rfl|(intro _;kernel_rfl)|decide|constructor
open Go.RowKit Go.Lib in
theorem Tryz.strings_Cut (s sep:ByteArray) (m:Int) (w:World) (hs:s.size<4294967281) (hm:w.cell? ⟨0,0,none⟩=some (.int .i64 m)) :
  Calls Tryz.prog 83 #[.string s,.string sep] w fun e w'=>e=.returned (.tuple #[.string ⟨(Lib.cut s.data.toList sep.data.toList).1.toArray⟩,.string ⟨(Lib.cut s.data.toList sep.data.toList).2.1.toArray⟩,.bool (Lib.cut s.data.toList sep.data.toList).2.2])∧∃ n,w'=w.drewN n:=Any.strings_Cut Tryz.lays145 s sep m w hs hm
end Go.Proofs
end
namespace Go.Proofs.YtoghmeffpgbcfaaGreatDoor
open Go.RowKit Go.Proofs.YtoghmeffpgbcfaaGreatDoorW.PrintWords Go.Proofs.YtoghmeffpgbcfaaGreatDoorW.PrintLast Go.Proofs.YtoghmeffpgbcfaaGreatDoorW.PrintMore
def cutB (s sep:ByteArray):ByteArray×ByteArray×Bool:=(⟨(Lib.cut s.data.toList sep.data.toList).1.toArray⟩,⟨(Lib.cut s.data.toList sep.data.toList).2.1.toArray⟩,(Lib.cut s.data.toList sep.data.toList).2.2)
def strings_Cut.f (a0 a1:ByteArray):Option (ByteArray×ByteArray×Bool):=if a0.size<4294967281 then some (cutB a0 a1) else none
theorem strings_Cut.calls (a0 a1 r1 r2:ByteArray) (r3:Bool) (w:World) (hL_:Laid w) (h:strings_Cut.f a0 a1=some (r1,r2,r3)) :
  Calls Tryz.prog 83 #[.string a0,.string a1] w fun e w'=>e=.returned (.tuple #[.string r1,.string r2,.bool r3])∧Below w.heap.size w w':=by
 unfold strings_Cut.f at h
 split at h
 ·rename_i hs
  obtain⟨m,hm⟩:=hL_.mx
  have h':=Option.some.inj h
  refine(Tryz.strings_Cut a0 a1 m w hs hm).mono ?_
  rintro e w' ⟨rfl,n,rfl⟩
  unfold cutB at h'
  rw[Prod.mk.injEq,Prod.mk.injEq] at h'
  obtain⟨rfl,rfl,rfl⟩:=h'
  exact⟨rfl,pw_below_drewN (Below.refl _ _) n⟩
 ·cases h
def ascS (s:ByteArray):Bool:=s.data.toList.all (fun b=>decide (b.toNat<128))
def strings_Trim.f (a0 a1:ByteArray):Option ByteArray:=if (decide (a0.size≤9223372036854775807)&&(decide (a1.size<4294967281)&&ascS a1))=true then some ⟨(Lib.trimS a0.data.toList a1.data.toList).toArray⟩ else none
theorem strings_Trim.calls (a0 a1 r:ByteArray) (w:World) (h:strings_Trim.f a0 a1=some r) :
  Calls Tryz.prog 52 #[.string a0,.string a1] w fun e w'=>e=.returned (.string r)∧Below w.heap.size w w':=by
 unfold strings_Trim.f at h
 split at h
 ·rename_i hs
  rw[Bool.and_eq_true,Bool.and_eq_true,decide_eq_true_eq,decide_eq_true_eq] at hs
  rw[← Option.some.inj h]
  exact Tryz.strings_Trim_laid a0 a1 w hs.1 hs.2.1 hs.2.2
 ·cases h
def strings_TrimLeft.f (a0 a1:ByteArray):Option ByteArray:=if a1=⟨#[48]⟩ then some ⟨(Lib.trimLeftB a0.data.toList 48).toArray⟩ else none
theorem strings_TrimLeft.calls (a0 a1 r:ByteArray) (w:World) (h:strings_TrimLeft.f a0 a1=some r) :
  Calls Tryz.prog 126 #[.string a0,.string a1] w fun e w'=>e=.returned (.string r)∧Below w.heap.size w w':=by
 unfold strings_TrimLeft.f at h
 split at h
 ·rename_i hs
  subst hs
  rw[← Option.some.inj h]
  refine(Tryz.strings_TrimLeft_one a0 48 (by decide) w).mono ?_
  rintro e w' ⟨rfl,rfl⟩
  exact⟨rfl,Below.refl _ _⟩
 ·cases h
def strings_Repeat.f (a0:ByteArray) (a1:Int):Option ByteArray:=if (decide (0≤a1)&&decide (a0.size * a1.toNat≤140737488355328)&&decide (a1≤9223372036854775807))=true then some ⟨(Lib.repeatL a0.data.toList a1.toNat).toArray⟩ else none
theorem strings_Repeat.calls (a0:ByteArray) (a1:Int) (r:ByteArray) (w:World) (h:strings_Repeat.f a0 a1=some r) :
  Calls Tryz.prog 63 #[.string a0,.int .i64 a1] w fun e w'=>e=.returned (.string r)∧Below w.heap.size w w':=by
 unfold strings_Repeat.f at h
 split at h
 ·rename_i hs
  rw[Bool.and_eq_true,Bool.and_eq_true,decide_eq_true_eq,decide_eq_true_eq,decide_eq_true_eq] at hs
  rw[← Option.some.inj h]
  obtain⟨⟨h0,h1⟩,h2⟩:=hs
  obtain⟨u,rfl⟩:=Int.eq_ofNat_of_zero_le h0
  exact Tryz.strings_Repeat a0 u w (by omega) h1
 ·cases h
end Go.Proofs.YtoghmeffpgbcfaaGreatDoor
section
open Go.RowKit Go.Proofs.YtoghmeffpgbcfaaGreatDoorW.PrintWords Go.Proofs.YtoghmeffpgbcfaaGreatDoorW.PrintLast Go.Proofs.YtoghmeffpgbcfaaGreatDoorW.PrintMore Go.Proofs.YtoghmeffpgbcfaaGreatDoor
namespace Go.Proofs
open Go.Shelf
def Tryz.lays156_ren:Go.Shelf.Ren:=⟨fun|156=>35|165=>65|166=>66|169=>67|240=>110|241=>111|276=>148|277=>149|n=>n,fun|31=>40|9=>9|3=>3|4=>4|0=>0|20=>20|72=>80|76=>84|70=>77|37=>78|75=>83|127=>114|164=>145|5=>5|80=>44|n=>n,fun|n=>n⟩
theorem Tryz.lays156:Go.Proofs.Lays.n156 Tryz.prog Tryz.lays156_ren:=by repeat' first|kernel_rfl|(intro _;kernel_rfl)|decide|constructor
theorem Tryz.Builder_Extra_156:Builder.Extra Tryz.prog Tryz.lays156_ren:=by repeat' first|kernel_rfl|(intro _;kernel_rfl)|decide|constructor
open Go.RowKit in
theorem Tryz.strings_Join (bk o c:Nat) (xs:List ByteArray) (sep:ByteArray) (w:World) (hcells:∀ (j:Nat) x,xs[j]?=some x→w.cell? ⟨bk,o+j,none⟩=some (.string x)) (hbk:bk<w.heap.size) (hN:xs.length≤140737488355328) (hcap:xs.length≤c) (hlen:(Lib.join (xs.map (·.data.toList)) sep.data.toList).length≤140737488355328) :
  Calls Tryz.prog 35 #[.slice (some ⟨bk,o,none⟩) xs.length c,.string sep] w fun e w'=>e=.returned (.string ⟨(Lib.join (xs.map (·.data.toList)) sep.data.toList).toArray⟩)∧Below w.heap.size w w':=Any.strings_Join Tryz.lays156 Tryz.Builder_Extra_156 bk o c xs sep w hcells hbk hN hcap hlen
def Tryz.lays101_ren:Go.Shelf.Ren:=⟨fun|101=>51|208=>90|206=>129|n=>n,fun|9=>9|4=>4|3=>3|n=>n,fun|n=>n⟩
theorem Tryz.lays101:Go.Proofs.Lays.n101 Tryz.prog Tryz.lays101_ren:=by repeat' first|kernel_rfl|(intro _;kernel_rfl)|decide|constructor
open Go.RowKit Go.Lib in
theorem Tryz.strings_TrimPrefix (s p:ByteArray) (w:World) :
  Calls Tryz.prog 51 #[.string s,.string p] w fun e w'=>e=.returned (.string ⟨(Lib.trimPrefix s.data.toList p.data.toList).toArray⟩)∧w'=w:=Any.strings_TrimPrefix Tryz.lays101 s p w
def Tryz.lays146_ren:Go.Shelf.Ren:=⟨fun|146=>17|221=>40|268=>76|138=>77|143=>78|195=>118|197=>119|218=>120|219=>121|260=>150|217=>151|225=>152|224=>153|267=>154|266=>170|314=>171|n=>n,fun|9=>9|31=>40|3=>3|4=>4|0=>0|105=>116|21=>21|5=>5|46=>110|119=>162|139=>165|138=>164|146=>141|51=>140|n=>n,fun|1=>0|3=>2|4=>3|n=>n⟩
theorem Tryz.lays146:Go.Proofs.Lays.n146 Tryz.prog Tryz.lays146_ren:=by repeat' first|kernel_rfl|(intro _;kernel_rfl)|decide|constructor
open Go.RowKit Go.Lib in
theorem Tryz.strings_Split (s sep:ByteArray) (m:Int) (w:World) (hs:s.size<4294967281) (hm:w.cell? ⟨0,0,none⟩=some (.int .i64 m)) (h1:1≤sep.size) :
  Calls Tryz.prog 17 #[.string s,.string sep] w fun e w' =>
   e=.returned (.slice (some ⟨w.heap.size,0,none⟩) (Lib.countB s sep+1) (Lib.countB s sep+1))∧w'=w.alloc (.cells ((Lib.splitB sep 0 (Lib.countB s sep) s).map Value.string).toArray 9):=Any.strings_Split Tryz.lays146 (by kernel_rfl) s sep m w hs hm h1
end Go.Proofs
end
namespace Go.Proofs.YtoghmeffpgbcfaaGreatDoor
open Go.RowKit Go.Proofs.YtoghmeffpgbcfaaGreatDoorW.PrintWords Go.Proofs.YtoghmeffpgbcfaaGreatDoorW.PrintLast Go.Proofs.YtoghmeffpgbcfaaGreatDoorW.PrintMore
def strings_TrimPrefix.f (a0 a1:ByteArray):Option ByteArray:=some ⟨(Lib.trimPrefix a0.data.toList a1.data.toList).toArray⟩
theorem strings_TrimPrefix.calls (a0 a1 r:ByteArray) (w:World) (h:strings_TrimPrefix.f a0 a1=some r) :
  Calls Tryz.prog 51 #[.string a0,.string a1] w fun e w'=>e=.returned (.string r)∧Below w.heap.size w w':=by
 rw[← Option.some.inj h]
 refine(Tryz.strings_TrimPrefix a0 a1 w).mono ?_
 rintro e w' ⟨rfl,rfl⟩
 exact⟨rfl,Below.refl _ _⟩
def ix5 {α:Type} (j:Int) (a b c d e:α):α:=if j=0 then a else if j=1 then b else if j=2 then c else if j=3 then d else e
theorem idx_shape0 (a0 a1 a2 a3 a4:ByteArray) (b0 b1 b2 b3 b4 c0 c1 c2 c3 c4 d0 d1 d2 d3 d4:Bool) (w:World):(Instr.index 47 (.agg #[.string a0,.bool b0,.bool c0,.bool d0,.string a1,.bool b1,.bool c1,.bool d1,.string a2,.bool b2,.bool c2,.bool d2,.string a3,.bool b3,.bool c3,.bool d3,.string a4,.bool b4,.bool c4,.bool d4]) (.int .i64 0)).run Tryz.prog w=.ok (.agg #[.string a0,.bool b0,.bool c0,.bool d0]) w:=by kernel_rfl
theorem idx_shape1 (a0 a1 a2 a3 a4:ByteArray) (b0 b1 b2 b3 b4 c0 c1 c2 c3 c4 d0 d1 d2 d3 d4:Bool) (w:World):(Instr.index 47 (.agg #[.string a0,.bool b0,.bool c0,.bool d0,.string a1,.bool b1,.bool c1,.bool d1,.string a2,.bool b2,.bool c2,.bool d2,.string a3,.bool b3,.bool c3,.bool d3,.string a4,.bool b4,.bool c4,.bool d4]) (.int .i64 1)).run Tryz.prog w=.ok (.agg #[.string a1,.bool b1,.bool c1,.bool d1]) w:=by kernel_rfl
theorem idx_shape2 (a0 a1 a2 a3 a4:ByteArray) (b0 b1 b2 b3 b4 c0 c1 c2 c3 c4 d0 d1 d2 d3 d4:Bool) (w:World):(Instr.index 47 (.agg #[.string a0,.bool b0,.bool c0,.bool d0,.string a1,.bool b1,.bool c1,.bool d1,.string a2,.bool b2,.bool c2,.bool d2,.string a3,.bool b3,.bool c3,.bool d3,.string a4,.bool b4,.bool c4,.bool d4]) (.int .i64 2)).run Tryz.prog w=.ok (.agg #[.string a2,.bool b2,.bool c2,.bool d2]) w:=by kernel_rfl
theorem idx_shape3 (a0 a1 a2 a3 a4:ByteArray) (b0 b1 b2 b3 b4 c0 c1 c2 c3 c4 d0 d1 d2 d3 d4:Bool) (w:World):(Instr.index 47 (.agg #[.string a0,.bool b0,.bool c0,.bool d0,.string a1,.bool b1,.bool c1,.bool d1,.string a2,.bool b2,.bool c2,.bool d2,.string a3,.bool b3,.bool c3,.bool d3,.string a4,.bool b4,.bool c4,.bool d4]) (.int .i64 3)).run Tryz.prog w=.ok (.agg #[.string a3,.bool b3,.bool c3,.bool d3]) w:=by kernel_rfl
theorem idx_shape4 (a0 a1 a2 a3 a4:ByteArray) (b0 b1 b2 b3 b4 c0 c1 c2 c3 c4 d0 d1 d2 d3 d4:Bool) (w:World):(Instr.index 47 (.agg #[.string a0,.bool b0,.bool c0,.bool d0,.string a1,.bool b1,.bool c1,.bool d1,.string a2,.bool b2,.bool c2,.bool d2,.string a3,.bool b3,.bool c3,.bool d3,.string a4,.bool b4,.bool c4,.bool d4]) (.int .i64 4)).run Tryz.prog w=.ok (.agg #[.string a4,.bool b4,.bool c4,.bool d4]) w:=by kernel_rfl
theorem idx_shape (j:Int) (h0:0≤j) (h1:j<5) (a0 a1 a2 a3 a4:ByteArray) (b0 b1 b2 b3 b4 c0 c1 c2 c3 c4 d0 d1 d2 d3 d4:Bool) (w:World) :
  (Instr.index 47 (.agg #[.string a0,.bool b0,.bool c0,.bool d0,.string a1,.bool b1,.bool c1,.bool d1,.string a2,.bool b2,.bool c2,.bool d2,.string a3,.bool b3,.bool c3,.bool d3,.string a4,.bool b4,.bool c4,.bool d4]) (.int .i64 j)).run Tryz.prog w
   = .ok (.agg #[.string (ix5 j a0 a1 a2 a3 a4),.bool (ix5 j b0 b1 b2 b3 b4),.bool (ix5 j c0 c1 c2 c3 c4),.bool (ix5 j d0 d1 d2 d3 d4)]) w:=by
 have:j=0∨j=1∨j=2∨j=3∨j=4:=by omega
 rcases this with rfl|rfl|rfl|rfl|rfl
 ·exact idx_shape0 a0 a1 a2 a3 a4 b0 b1 b2 b3 b4 c0 c1 c2 c3 c4 d0 d1 d2 d3 d4 w
 ·exact idx_shape1 a0 a1 a2 a3 a4 b0 b1 b2 b3 b4 c0 c1 c2 c3 c4 d0 d1 d2 d3 d4 w
 ·exact idx_shape2 a0 a1 a2 a3 a4 b0 b1 b2 b3 b4 c0 c1 c2 c3 c4 d0 d1 d2 d3 d4 w
 ·exact idx_shape3 a0 a1 a2 a3 a4 b0 b1 b2 b3 b4 c0 c1 c2 c3 c4 d0 d1 d2 d3 d4 w
 ·exact idx_shape4 a0 a1 a2 a3 a4 b0 b1 b2 b3 b4 c0 c1 c2 c3 c4 d0 d1 d2 d3 d4 w
def wSplit:ByteArray:=⟨#[115,112,108,105,116]⟩
def wStock:ByteArray:=⟨#[115,116,111,99,107]⟩
def wCash:ByteArray:=⟨#[99,97,115,104]⟩
def wSpin:ByteArray:=⟨#[115,112,105,110]⟩
def wMerger:ByteArray:=⟨#[109,101,114,103,101,114]⟩
def action_shapes.f:Option (ByteArray×Bool×Bool×Bool×ByteArray×Bool×Bool×Bool×ByteArray×Bool×Bool×Bool×ByteArray×Bool×Bool×Bool×ByteArray×Bool×Bool×Bool) :=
 some (wSplit,false,true,false,wStock,false,true,false,wCash,false,false,true,wSpin,true,true,false,wMerger,true,true,true)
theorem build46a (s:ByteArray) (c:Bool) (w:World):(Instr.build 46 #[(0,.string s),(2,.bool c)]).run Tryz.prog w=.ok (.agg #[.string s,.bool false,.bool c,.bool false]) w:=by kernel_rfl
theorem build46b (s:ByteArray) (d:Bool) (w:World):(Instr.build 46 #[(0,.string s),(3,.bool d)]).run Tryz.prog w=.ok (.agg #[.string s,.bool false,.bool false,.bool d]) w:=by kernel_rfl
theorem build46c (s:ByteArray) (b c:Bool) (w:World):(Instr.build 46 #[(0,.string s),(1,.bool b),(2,.bool c)]).run Tryz.prog w=.ok (.agg #[.string s,.bool b,.bool c,.bool false]) w:=by kernel_rfl
theorem build46d (s:ByteArray) (b c d:Bool) (w:World):(Instr.build 46 #[(0,.string s),(1,.bool b),(2,.bool c),(3,.bool d)]).run Tryz.prog w=.ok (.agg #[.string s,.bool b,.bool c,.bool d]) w:=by kernel_rfl
theorem build47 (a0 a1 a2 a3 a4:ByteArray) (b0 b1 b2 b3 b4 c0 c1 c2 c3 c4 d0 d1 d2 d3 d4:Bool) (w:World):(Instr.build 47 #[(0,.agg #[.string a0,.bool b0,.bool c0,.bool d0]),(1,.agg #[.string a1,.bool b1,.bool c1,.bool d1]),(2,.agg #[.string a2,.bool b2,.bool c2,.bool d2]),(3,.agg #[.string a3,.bool b3,.bool c3,.bool d3]),(4,.agg #[.string a4,.bool b4,.bool c4,.bool d4])]).run Tryz.prog w=.ok (.agg #[.string a0,.bool b0,.bool c0,.bool d0,.string a1,.bool b1,.bool c1,.bool d1,.string a2,.bool b2,.bool c2,.bool d2,.string a3,.bool b3,.bool c3,.bool d3,.string a4,.bool b4,.bool c4,.bool d4]) w:=by kernel_rfl
attribute [local go_sem] build46a build46b build46c build46d build47
theorem action_shapes.calls (r1:ByteArray) (r2 r3 r4:Bool) (r5:ByteArray) (r6 r7 r8:Bool) (r9:ByteArray) (r10 r11 r12:Bool) (r13:ByteArray) (r14 r15 r16:Bool) (r17:ByteArray) (r18 r19 r20:Bool) (w:World)
  (h:action_shapes.f=some (r1,r2,r3,r4,r5,r6,r7,r8,r9,r10,r11,r12,r13,r14,r15,r16,r17,r18,r19,r20)) :
  Calls Tryz.prog 19 #[] w fun e w'=>e=.returned (.agg #[.string r1,.bool r2,.bool r3,.bool r4,.string r5,.bool r6,.bool r7,.bool r8,.string r9,.bool r10,.bool r11,.bool r12,.string r13,.bool r14,.bool r15,.bool r16,.string r17,.bool r18,.bool r19,.bool r20])∧Below w.heap.size w w':=by
 have h':=Option.some.inj h
 simp only[Prod.mk.injEq] at h'
 obtain⟨rfl,rfl,rfl,rfl,rfl,rfl,rfl,rfl,rfl,rfl,rfl,rfl,rfl,rfl,rfl,rfl,rfl,rfl,rfl,rfl⟩:=h'
 clear h
 go_enter Tryz.func19,Tryz.ntmps19
 go_upto_region 1 with (fail)
 have hg:=heap_alloc_new w (.cells #[.string ⟨#[]⟩,.bool false,.bool false,.bool false,.string ⟨#[]⟩,.bool false,.bool false,.bool false,.string ⟨#[]⟩,.bool false,.bool false,.bool false,.string ⟨#[]⟩,.bool false,.bool false,.bool false,.string ⟨#[]⟩,.bool false,.bool false,.bool false] 47)
 have HB:=(Below.refl w.heap.size w).alloc (nr_ _) (.cells #[.string ⟨#[]⟩,.bool false,.bool false,.bool false,.string ⟨#[]⟩,.bool false,.bool false,.bool false,.string ⟨#[]⟩,.bool false,.bool false,.bool false,.string ⟨#[]⟩,.bool false,.bool false,.bool false,.string ⟨#[]⟩,.bool false,.bool false,.bool false] 47)
 generalize w.alloc (.cells #[.string ⟨#[]⟩,.bool false,.bool false,.bool false,.string ⟨#[]⟩,.bool false,.bool false,.bool false,.string ⟨#[]⟩,.bool false,.bool false,.bool false,.string ⟨#[]⟩,.bool false,.bool false,.bool false,.string ⟨#[]⟩,.bool false,.bool false,.bool false] 47)=w1 at hg HB ⊢
 iterate 19 go_step
 refine wpList_store_row ?hgd 47 (.tmp 0) (.tmp 6) ?ho w.heap.size #[.string wSplit,.bool false,.bool true,.bool false,.string wStock,.bool false,.bool true,.bool false,.string wCash,.bool false,.bool false,.bool true,.string wSpin,.bool true,.bool true,.bool false,.string wMerger,.bool true,.bool true,.bool true] ?hx ?hy 47 _ hg ?hi ?hold ?hone ?rest
 (case hgd=>rfl)
 (case ho=>rfl)
 (case hx=>rfl)
 (case hy=>rfl)
 (case hi=>kernel_rfl)
 (case hold=>rfl)
 (case hone=>first|kernel_rfl|(simp[Value.oneCell'];done))
 go_wp2
 refine bodyPost_ret (results_cell_row rfl _ _ w.heap.size 47 _ (0,0) _ rfl (setRow_heap _ _ _ _ _ _ hg) Tryz.underlying47 rfl (by kernel_rfl)) rfl ?_
 exact⟨rfl,below_setRow HB (nr_ _) _⟩
theorem word_none (g:Nat) (A:Option Addr) (c:Nat) (ok:Bool) (w:World) (c0:w.cell? ⟨g,0,none⟩=some (.slice A 0 c)) (c1:w.cell? ⟨g,1,none⟩=some (.bool ok)) (f1:w.frozen? ⟨g,1,none⟩=false) :
  Calls Tryz.prog 18 #[.pointer (some ⟨g,0,none⟩)] w fun e w'=>e=.returned (.string ⟨#[]⟩)∧w'=w.setCell ⟨g,1,none⟩ (.bool false):=by
 go_enter Tryz.func18,Tryz.ntmps18
 go_wp2
 go_ret
 exact⟨rfl,rfl⟩
theorem word_some (g gb i m:Nat) (x:ByteArray) (ok:Bool) (w:World) (hm:0<m) (hm2:m≤1000000) (c0:w.cell? ⟨g,0,none⟩=some (.slice (some ⟨gb,i,none⟩) m m)) (c1:w.cell? ⟨g,1,none⟩=some (.bool ok)) (f0:w.frozen? ⟨g,0,none⟩=false) (hx:w.cell? ⟨gb,i,none⟩=some (.string x)) :
  Calls Tryz.prog 18 #[.pointer (some ⟨g,0,none⟩)] w fun e w'=>e=.returned (.string x)∧∃ A,w'=w.setCell ⟨g,0,none⟩ (.slice A (m-1) (m-1))∧(1<m→A=some ⟨gb,i+1,none⟩):=by
 have e1:((m:Int) == 0)=false:=beq_eq_false_iff_ne.2 (by omega)
 have e2:(0:Int)<(m:Int):=by omega
 have e3:(1:Int)≤(m:Int):=by omega
 go_enter Tryz.func18,Tryz.ntmps18
 go_wp2
 all_goals go_ret
 all_goals first|exact⟨rfl,_,rfl,fun _=>rfl⟩|exact⟨rfl,_,rfl⟩|(refine⟨rfl,?_⟩;simp;done)
structure Rd (w:World) (g gb:Nat) (ws:List ByteArray) (i:Nat) (ok:Bool):Prop where
 c0:∃ A c,w.cell? ⟨g,0,none⟩=some (.slice A (ws.length-i) c)∧(i<ws.length→A=some ⟨gb,i,none⟩∧c=ws.length-i)
 c1:w.cell? ⟨g,1,none⟩=some (.bool ok)
 f0:w.frozen? ⟨g,0,none⟩=false
 f1:w.frozen? ⟨g,1,none⟩=false
 row:∀ (j:Nat) x,ws[j]?=some x→w.cell? ⟨gb,j,none⟩=some (.string x)
 ne:g≠gb
 sz:ws.length≤1000000
 inb:g<w.heap.size
theorem Rd.below {w w':World} {g gb i:Nat} {ws:List ByteArray} {ok:Bool} (h:Rd w g gb ws i ok) (hb:Below w.heap.size w w'):Rd w' g gb ws i ok:=by
 obtain⟨⟨A,c,hc,hA⟩,c1,f0,f1,row,ne,sz,inb⟩:=h
 refine⟨⟨A,c,(hb.cell inb).trans hc,hA⟩,(hb.cell inb).trans c1,(hb.frozen inb).trans f0,(hb.frozen inb).trans f1,fun j x hx=>?_,ne,sz,?_⟩
 ·have h1:=row j x hx
  exact(hb.cell (World.block_lt_of_cell? w _ h1)).trans h1
 ·exact Nat.lt_of_lt_of_le inb (below_size hb)
theorem far_cell {w:World} {g gb j:Nat} {a:Nat} (v:Value) (h:g≠gb):(w.setCell ⟨g,a,none⟩ v).cell? ⟨gb,j,none⟩=w.cell? ⟨gb,j,none⟩ :=
 World.cell?_setCell_other _ _ _ _ (fun e=>h (congrArg Addr.block e))
theorem off_cell {w:World} {g a b:Nat} (v:Value) (h:a≠b):(w.setCell ⟨g,a,none⟩ v).cell? ⟨g,b,none⟩=w.cell? ⟨g,b,none⟩ :=
 World.cell?_setCell_other _ _ _ _ (fun e=>h (congrArg Addr.off e))
theorem word_calls {B g gb i:Nat} {ws:List ByteArray} {ok:Bool} {w:World} (hB:B≤g) (h:Rd w g gb ws i ok) :
  Calls Tryz.prog 18 #[.pointer (some ⟨g,0,none⟩)] w fun e w'=>e=.returned (.string (ws.getD i ⟨#[]⟩))∧Rd w' g gb ws (i+1) (ok&&decide (i<ws.length))∧Below B w w'∧(∀ b,b≠g→w'.heap[b]?=w.heap[b]?):=by
 obtain⟨⟨A,c,c0,hA⟩,c1,f0,f1,row,ne,sz,inb⟩:=h
 by_cases hi:i<ws.length
 ·obtain⟨rfl,rfl⟩:=hA hi
  have hx:=row i ws[i] (List.getElem?_eq_getElem hi)
  refine(word_some g gb i (ws.length-i) ws[i] ok w (by omega) (by omega) c0 c1 f0 hx).mono ?_
  rintro e w' ⟨rfl,A',rfl,hA'⟩
  refine⟨?_,⟨⟨A',ws.length-i-1,?_,?_⟩,?_,?_,?_,?_,ne,sz,?_⟩,(Below.refl _ w).setCell hB _,fun b hb=>heap_setCell_other _ _ _ _ hb⟩
  ·rw[List.getD_eq_getElem?_getD,List.getElem?_eq_getElem hi]
   rfl
  ·rw[World.cell?_setCell_same _ _ _ c0,show ws.length-(i+1)=ws.length-i-1 by omega]
  ·intro h1
   exact⟨hA' (by omega),by omega⟩
  ·rw[off_cell _ (by decide),decide_eq_true hi,Bool.and_true]
   exact c1
  ·rw[World.frozen?_setCell];exact f0
  ·rw[World.frozen?_setCell];exact f1
  ·intro j x hj
   rw[far_cell _ ne]
   exact row j x hj
  ·simpa using inb
 ·have h0:ws.length-i=0:=by omega
  rw[h0] at c0
  refine(word_none g A c ok w c0 c1 f1).mono ?_
  rintro e w' ⟨rfl,rfl⟩
  refine⟨?_,⟨⟨A,c,?_,?_⟩,?_,?_,?_,?_,ne,sz,?_⟩,(Below.refl _ w).setCell hB _,fun b hb=>heap_setCell_other _ _ _ _ hb⟩
  ·rw[List.getD_eq_getElem?_getD,List.getElem?_eq_none (by omega)]
   rfl
  ·rw[off_cell _ (by decide),show ws.length-(i+1)=0 by omega]
   exact c0
  ·intro h1
   omega
  ·rw[World.cell?_setCell_same _ _ _ c1,decide_eq_false hi,Bool.and_false]
  ·rw[World.frozen?_setCell];exact f0
  ·rw[World.frozen?_setCell];exact f1
  ·intro j x hj
   rw[far_cell _ ne]
   exact row j x hj
  ·simpa using inb
end Go.Proofs.YtoghmeffpgbcfaaGreatDoor
section
open Go.RowKit Go.Proofs.YtoghmeffpgbcfaaGreatDoorW.PrintWords Go.Proofs.YtoghmeffpgbcfaaGreatDoorW.PrintLast Go.Proofs.YtoghmeffpgbcfaaGreatDoorW.PrintMore Go.Proofs.YtoghmeffpgbcfaaGreatDoor
namespace Go.Proofs.YtoghmeffpgbcfaaGreatDoorW.PrintWords
open Go.RowKit
namespace Kd
section
variable {P:Program} {ops:Array Oper} {Q:Exit→Act→World→Prop} {rest:List Oper} {o:Oper} {a:Act} {α:Type}
theorem R_make0 (d:Kd α) {w0 W:World} (base e:Nat) (hgd:o.guard=none) {N:Tmp} (hd:o.dst=some N) (t:TypeId) (x y:Operand) (ho:o.op=.makeSlice t x y) (n:Int) (hx:a.eval x=.int .i64 0) (hy:a.eval y=.int .i64 n)
  (ht:P.underlying t=some (.slice e)) (z:Value) (bytes:Nat) (hinfo:(P.info? e).map (fun i=>(i.zero,i.size,i.bytes))=some (some z,d.sz,bytes)) (hz:z.cells.size=d.sz) (hs0:0<d.sz) (hb0:0<bytes)
  (z0:α) {ok okp:Nat→Prop} (hzero:d.M W base okp z0 z.cells.toList) (hok:∀ k,okp k→ok k) (hfresh:ok W.heap.size) (h0:0≤n) (hl:n.toNat * bytes≤281474976710656) (HB:Below base w0 W) (hbase:base≤W.heap.size)
  (h:∀ v1 w1,d.R e w1 base ok v1 ([]:List α)→Below base w0 w1→W.grownBy w1 none→(∃ b,v1.ownBlock=some b∧W.heap.size≤b)→wpList P ops Q rest (a.put o.dst v1) w1):wpList P ops Q (o :: rest) a W:=by
 obtain⟨m,rfl⟩:=Int.eq_ofNat_of_zero_le h0
 simp only[Int.toNat_natCast] at hl
 obtain⟨i0,hi,hzz⟩:=Option.map_eq_some_iff.1 hinfo
 simp only[Prod.mk.injEq] at hzz
 obtain⟨hz0,hz1,hz2⟩:=hzz
 have hm:m≤281474976710656:=Nat.le_trans (Nat.le_mul_of_pos_right _ hb0) hl
 obtain⟨w1,hr,hown,hg⟩:=run_make_own (P:=P) W base t e i0 z d.sz ht hi hz0 hz1 .i64 .i64 m (by rw[hz2,Nat.mul_comm];exact hl) (by unfold maxLen;omega) hbase
 refine event_run hgd (by simp[execOp,ho,hx,hy,hr]) (h _ _ ⟨fun k hk=>?_,[],hown,Reps.none _ _⟩ (HB.grown hg hbase (fun k e=>by cases e)) hg ⟨W.heap.size,by simp[Value.ownBlock],nr_ _⟩)
 have:W.heap.size=k:=by simpa [Value.ownBlock] using hk
 subst this
 exact hfresh
end
end Kd
end Go.Proofs.YtoghmeffpgbcfaaGreatDoorW.PrintWords
end
namespace Go.Proofs.YtoghmeffpgbcfaaGreatDoor
open Go.RowKit Go.Proofs.YtoghmeffpgbcfaaGreatDoorW.PrintWords Go.Proofs.YtoghmeffpgbcfaaGreatDoorW.PrintLast Go.Proofs.YtoghmeffpgbcfaaGreatDoorW.PrintMore
section
open Go.Shelf
attribute [local go_sem] Oper.semAt_some
def cmpK (l0 l1:List Int):Nat→Int
 | 0=>0
 | k+1=>if limb l0 k=limb l1 k then cmpK l0 l1 k else Lib.compareInt (limb l0 k) (limb l1 k)
def cmpL (l0 l1:List Int):Int:=if l0.length=l1.length then cmpK l0 l1 l0.length else Lib.compareInt l0.length l1.length
theorem cmpK_skip (l0 l1:List Int) (n k:Nat) (hk:k≤n) (h:∀ j,k≤j→j<n→limb l0 j=limb l1 j):cmpK l0 l1 n=cmpK l0 l1 k:=by
 induction n with
 | zero =>
      obtain rfl:k=0:=by omega
      rfl
 | succ n ih =>
  by_cases e:k=n+1
  ·rw[e]
  ·simp only[cmpK]
   rw[if_pos (h n (by omega) (by omega))]
   exact ih (by omega) (fun j h1 h2=>h j h1 (by omega))
theorem upto_has {n k j:Nat} (h1:n-k≤j) (h2:j<n):j∈upto n k:=by
 simp only[upto,List.mem_map,List.mem_range]
 exact⟨n-1-j,by omega,by omega⟩
theorem cmp_done {l0 l1:List Int} {ys:List (Fin l0.length)} (hlen:l0.length=l1.length) (hy:ys.map Fin.val=upto l0.length l0.length) (h:∀ x∈ys,limb l0 x.val=limb l1 x.val):cmpL l0 l1=0:=by
 unfold cmpL
 rw[if_pos hlen]
 exact cmpK_skip l0 l1 l0.length 0 (by omega) (fun j _ hj=>by
  have hm:j∈ys.map Fin.val:=by rw[hy];exact upto_has (by omega) hj
  obtain⟨x,hx,rfl⟩:=List.mem_map.1 hm
  exact h x hx)
theorem cmp_stop {l0 l1:List Int} {ini:List (Fin l0.length)} {last:Fin l0.length} {k:Nat} (hlen:l0.length=l1.length) (hk:k≤l0.length) (hy:(ini ++ [last]).map Fin.val=upto l0.length k) (h:∀ x∈ini,limb l0 x.val=limb l1 x.val) (hd:limb l0 last.val≠limb l1 last.val) :
  cmpL l0 l1=Lib.compareInt (limb l0 last.val) (limb l1 last.val):=by
 obtain⟨k',rfl⟩:∃ k',k=k'+1:=by
  cases k with
  | zero=>simp[upto] at hy
  | succ k'=>exact⟨k',rfl⟩
 rw[List.map_append,upto_succ] at hy
 obtain⟨e1,e2⟩:=List.append_inj' hy rfl
 have e3:last.val=l0.length-1-k':=by simpa using e2
 unfold cmpL
 rw[if_pos hlen,cmpK_skip l0 l1 l0.length (last.val+1) (by omega) (fun j h1 h2=>by
  have hm:j∈ini.map Fin.val:=by rw[e1];exact upto_has (by omega) h2
  obtain⟨x,hx,rfl⟩:=List.mem_map.1 hm
  exact h x hx)]
 simp only[cmpK]
 rw[if_neg hd]
theorem compare_eq
  (A0 A1:Option Addr) (c0 c1:Nat) (l0 l1:List Int) (hreach:l0.length≤9223372036854775807) (hlen:l0.length=l1.length) (w:World) (hI:IntsAt w.heap.size w (.slice A0 l0.length c0) l0) (hI1:IntsAt w.heap.size w (.slice A1 l1.length c1) l1) :
  Calls Tryz.prog 139 #[.slice A0 l0.length c0,.slice A1 l1.length c1] w fun e W'=>e=.returned (.int .i64 (cmpL l0 l1))∧Below w.heap.size w W':=by
 have hdec:((l0.length:Int) != (l1.length:Int))=false:=by rw[bne_eq_false_iff_eq];omega
 have HLEN:=Lib.hid hlen
 clear hlen
 refine(callsIn_wide (n:=3)).1 ?_
 refine callsIn_of_wp_marks Tryz.func139 rfl trivial ?_ rfl
 simp only[Tryz.ntmps139,List.size_toArray,List.length_cons,List.length_nil,Nat.reduceAdd,Nat.reduceSub,Array.replicate_succ,Array.replicate_zero,List.push_toArray,List.append_toArray,List.nil_append,List.cons_append]
 gi_wp2_with (refine⟨trivial,?_⟩;gi_at_call 144;refine(backward_in Fence.wide _ trivial rfl _ _ _ _).mono ?_;rintro e w' ⟨rfl,rfl⟩)
 have bS:=Boxed.new w 100 (.slice A1 l1.length c1)
 have bR:=Boxed.new (w.alloc (.cells #[.slice A1 l1.length c1] 100)) 3 (.int .i64 0)
 have bN:=Boxed.new ((w.alloc (.cells #[.slice A1 l1.length c1] 100)).alloc (.cells #[.int .i64 0] 3)) 100 (.slice A0 l0.length c0)
 rw[World.size_alloc] at bR
 rw[World.size_alloc,World.size_alloc] at bN
 have hB0:Below w.heap.size w (((w.alloc (.cells #[.slice A1 l1.length c1] 100)).alloc (.cells #[.int .i64 0] 3)).alloc (.cells #[.slice A0 l0.length c0] 100)):=(((Below.refl _ w).alloc (nr_ _) _).alloc (by simp) _).alloc (by simp;omega) _
 refine wpIn_rangeFunc_ownG rfl (by omega) (gf:=169) (lb:=#[.pointer (some ⟨w.heap.size+1+1,0,none⟩)]) rfl trivial (enters_of Tryz.func169 (by kernel_rfl) rfl)
  (back_stops Fence.wide _ trivial rfl (by omega) (w.heap.size+1+1) w.heap.size _ l0 hreach _ (by simp) (by simp;omega) bN.cell (hI.below hB0)) KeepB.trans (KeepB.putObj (by simp;omega) (by simp)) (Below.refl _ _) (fun _=>rfl)
  (fun pre W=>((∀ x∈pre,limb l0 x.val=limb l1 x.val)∧(W.cell? ⟨w.heap.size,0,none⟩=some (.slice A1 l1.length c1))∧W.cell? ⟨w.heap.size+1,0,none⟩=some (.int .i64 0)∧W.frozen? ⟨w.heap.size+1,0,none⟩=false)∧Below w.heap.size w W)
  (fun c pre W=>(c=.ret∧∃ ini last,pre=ini ++ [last]∧(∀ x∈ini,limb l0 x.val=limb l1 x.val)∧limb l0 last.val≠limb l1 last.val∧W.cell? ⟨w.heap.size+1,0,none⟩=some (.int .i64 (Lib.compareInt (limb l0 last.val) (limb l1 last.val))))∧Below w.heap.size w W)
  (OwnFrom.and (Own.from (fun s A B row hs hg hr=>⟨hs.1,cell_kept hs.2.1 hg hr,cell_kept hs.2.2.1 hg hr,(frozen_kept hs.2.2.1 hg hr).trans hs.2.2.2⟩) _) (ownFrom_below (nr_ _) (by simp;omega)))
  (fun c=>OwnFrom.and (Own.from (fun s A B row hs hg hr=>by obtain⟨hc,ini,last,e1,e2,e3,e4⟩:=hs;exact⟨hc,ini,last,e1,e2,e3,cell_kept e4 hg hr⟩) _) (ownFrom_below (nr_ _) (by simp;omega)))
  ⟨⟨by simp,((bS.alloc _).alloc _).cell,(bR.alloc _).cell,(bR.alloc _).frozen⟩,hB0⟩
  (fun x=>{ tmps:=#[.slice A0 l0.length c0,.slice A1 l1.length c1,undef,.pointer (some ⟨w.heap.size,0,none⟩),.pointer (some ⟨w.heap.size+1,0,none⟩),.int .i64 (x.val:Int),.int .i64 (limb l0 x.val),.slice A0 l0.length c0,.int .i64 l0.length,.slice A1 l1.length c1,.int .i64 l1.length,.bool false,undef,undef,undef,undef,undef,.slice A0 l0.length c0,.func (.func 169) #[] #[.pointer (some ⟨w.heap.size+1+1,0,none⟩)],.int .i64 (x.val:Int),.int .i64 (limb l0 x.val),undef,undef,undef,undef,undef,undef,undef,undef,undef,undef,undef,undef],defers:=[] }) ?assign ?body ?done ?stop
 case assign =>
  intro l x W K hK
  dsimp only[item]
  gi_wp2
  exact hK
 case body =>
  rintro l pre x W ⟨⟨hp,hcs,hcr,hfr⟩,hB⟩ _
  obtain⟨A1',cap1,e1,hI1'⟩:=hI1
  have hx0:=x.isLt
  have hx1:x.val<l1.length:=by have:=HLEN.out;omega
  obtain⟨ad1,rfl,hb1,hc1⟩:=hI1' (by omega)
  injection e1 with e1 _ ec
  subst e1
  subst ec
  have hcx:W.cell? (ad1.add x.val)=some (.int .i64 (limb l1 x.val)):=(hB.cell (p:=ad1.add x.val) (by rw[blk_add];exact hb1)).trans (hc1 x.val hx1)
  clear hI1' hc1 hI
  by_cases hd:limb l0 x.val=limb l1 x.val
  ·have hdb:(limb l0 x.val != limb l1 x.val)=false:=by rw[bne_eq_false_iff_eq];exact hd
   have HD:=Lib.hid hd
   clear hd
   gi_wp2
   exact⟨KeepsFrom.refl _ _,KeepB.refl _ _ _,⟨fun p hp'=>(List.mem_append.1 hp').elim (hp p) (fun e=>by simp at e;subst e;exact HD.out),hcs,hcr,hfr⟩,hB⟩
  ·have hdb:(limb l0 x.val != limb l1 x.val)=true:=by rw[bne_iff_ne];exact hd
   gi_wp2_with (refine⟨trivial,?_⟩;gi_at_call 168;refine(CallsIn.inRound l (callsIn_wide.2 (Tryz.cmp_Compare_int _ _ _))).mono ?_;rintro e w' ⟨rfl,rfl⟩)
   exact⟨(KeepsOthers.setCell _ _ _).from _,⟨rfl,pre,x,rfl,hp,hd,World.cell?_setCell_same' _ _ _ (by rw[hcr];rfl)⟩,hB.setCell (p:=⟨w.heap.size+1,0,none⟩) (by simp) _⟩
 case done =>
  rintro D ys W hD hys ⟨⟨hne,hcs,hcr,hfr⟩,hB⟩ hK
  gi_wp2
  have hK':=(KeepsOthers.setCell W ⟨w.heap.size+1,0,none⟩ (.int .i64 0)).same D _ hK rfl
  refine⟨by simp,.inl ⟨_,_,rfl,run_takeDeferred hK',?_⟩⟩
  have hc5:=cell_kept (World.cell?_setCell_same' W ⟨w.heap.size+1,0,none⟩ (.int .i64 0) (by rw[hcr];rfl)) (grownBy_putObj' _ D (.deferred none)) (fun r e=>by cases e;exact⟨_,hK',rfl⟩)
  refine⟨.int .i64 0,?_,by rw[cmp_done HLEN.out hys hne],(hB.setCell (p:=⟨w.heap.size+1,0,none⟩) (by simp) _).trans (belowK_b (w:=w) (nr_ _) _ D _ _ (by simp at hD;omega) hK' rfl rfl)⟩
  simp[results,Tryz.f139,go_sem,hc5]
 case stop =>
  rintro D c pre W hD ⟨k,hk,hpre⟩ ⟨⟨rfl,ini,last,rfl,e2,e3,hcr⟩,hB⟩ hK
  gi_wp2
  refine⟨by simp,.inl ⟨_,_,rfl,run_takeDeferred hK,?_⟩⟩
  have hc5:=cell_kept hcr (grownBy_putObj' _ D (.deferred none)) (fun r e=>by cases e;exact⟨_,hK,rfl⟩)
  refine⟨.int .i64 (Lib.compareInt (limb l0 last.val) (limb l1 last.val)),?_,by rw[cmp_stop HLEN.out hk hpre e2 e3],hB.trans (belowK_b (w:=w) (nr_ _) _ D _ _ (by simp at hD;omega) hK rfl rfl)⟩
  simp[results,Tryz.f139,go_sem,hc5]
theorem compare_ne (A0 A1:Option Addr) (c0 c1:Nat) (l0 l1:List Int) (h0:l0.length≤9223372036854775807) (h1:l1.length≤9223372036854775807) (hlen:l0.length≠l1.length) (w:World) :
  Calls Tryz.prog 139 #[.slice A0 l0.length c0,.slice A1 l1.length c1] w fun e W'=>e=.returned (.int .i64 (cmpL l0 l1))∧Below w.heap.size w W':=by
 have hdec:((l0.length:Int) != (l1.length:Int))=true:=by rw[bne_iff_ne];omega
 have hres:cmpL l0 l1=Lib.compareInt l0.length l1.length:=by unfold cmpL;rw[if_neg hlen]
 have HR:=Lib.hid hres
 clear hres hlen
 go_enter Tryz.func139,Tryz.ntmps139
 go_wp2_with (go_at_call 168;refine(Tryz.cmp_Compare_int _ _ _).mono ?_;rintro e w' ⟨rfl,rfl⟩)
 refine bodyPost_ret (v:=.int .i64 (Lib.compareInt l0.length l1.length)) (by simp[results,Tryz.f139,go_sem]) rfl ⟨by rw[HR.out],?_⟩
 exact(((Below.refl _ w).alloc (nr_ _) _).alloc (by simp) _)
def nat_compare.f (l0 l1:List Int):Option Int:=some (cmpL l0 l1)
theorem nat_compare.calls (A0:Option Addr) (c0:Nat) (l0:List Int) (A1:Option Addr) (c1:Nat) (l1:List Int) (r:Int) (w:World) (hr0:Kd.C (Kd.int .i64) w A0 l0.length l0) (hc0:l0.length≤c0) (hr1:Kd.C (Kd.int .i64) w A1 l1.length l1) (hc1:l1.length≤c1) (h:nat_compare.f l0 l1=some r) :
  Calls Tryz.prog 139 #[.slice A0 l0.length c0,.slice A1 l1.length c1] w fun e w'=>e=.returned (.int .i64 r)∧Below w.heap.size w w':=by
 obtain rfl:=Option.some.inj h
 by_cases e:l0.length=l1.length
 ·exact compare_eq A0 A1 c0 c1 l0 l1 hr0.2.1 e w (intsAt_of_C hr0) (intsAt_of_C hr1)
 ·exact compare_ne A0 A1 c0 c1 l0 l1 hr0.2.1 hr1.2.1 e w
def piece (n i:Nat) (x:Int):List UInt8:=(if i+1<n then List.replicate (4-(Lib.itoa x).length) 48 else [])++Lib.itoa x
def pieces (l:List Int) (pre:List (Fin l.length)):List UInt8:=pre.flatMap fun x=>piece l.length x.val (limb l x.val)
def textL (l:List Int):List UInt8:=if l.length=0 then [48] else (upto l.length l.length).flatMap fun i=>piece l.length i (limb l i)
theorem pieces_snoc (l:List Int) (pre:List (Fin l.length)) (x:Fin l.length):pieces l (pre ++ [x])=pieces l pre++piece l.length x.val (limb l x.val):=by simp[pieces]
theorem pieces_all (l:List Int) (ys:List (Fin l.length)) (h0:l.length≠0) (h:ys.map Fin.val=upto l.length l.length):pieces l ys=textL l:=by
 unfold textL
 rw[if_neg h0,← h,List.flatMap_map]
 rfl
theorem itoa_len {n:Int} (h0:0≤n) (h1:n<10000):1≤(Lib.itoa n).length∧(Lib.itoa n).length≤4:=by
 unfold Lib.itoa
 rw[if_neg (by omega)]
 obtain⟨u,rfl⟩:=Int.eq_ofNat_of_zero_le h0
 simp only[Int.toNat_natCast]
 have hu:u<10000:=by omega
 clear h0 h1
 unfold Lib.decDigits
 by_cases a:u<10
 ·rw[dif_pos a];simp
 ·rw[dif_neg a]
  unfold Lib.decDigits
  by_cases b:u / 10<10
  ·rw[dif_pos b];simp
  ·rw[dif_neg b]
   unfold Lib.decDigits
   by_cases c:u / 10 / 10<10
   ·rw[dif_pos c];simp
   ·rw[dif_neg c]
    unfold Lib.decDigits
    have d:u / 10 / 10 / 10<10:=by omega
    rw[dif_pos d];simp
theorem piece_len {n i:Nat} {x:Int} (h0:0≤x) (h1:x<10000):(piece n i x).length≤4:=by
 have:=itoa_len h0 h1
 unfold piece
 by_cases h:i+1<n
 ·rw[if_pos h];simp;omega
 ·rw[if_neg h];simp;omega
theorem pieces_len {l:List Int} (hR:∀ i,i<l.length→0≤limb l i∧limb l i<10000) (pre:List (Fin l.length)):(pieces l pre).length≤4 * pre.length:=by
 induction pre with
 | nil=>simp[pieces]
 | cons x r ih =>
  have e:pieces l (x :: r)=piece l.length x.val (limb l x.val)++pieces l r:=by simp[pieces]
  have:=piece_len (n:=l.length) (i:=x.val) (hR x.val x.isLt).1 (hR x.val x.isLt).2
  rw[e,List.length_append,List.length_cons]
  omega
theorem builder_cells {T e:TypeId} {B b:Nat} {bs:List Value} {w w':World} (h:Lib.IsBuilderF T e B b bs w) (hc:∀ (k:Nat) c t fz,w.heap[k]?=some (.cells c t fz)→w'.heap[k]?=some (.cells c t fz)):Lib.IsBuilderF T e B b bs w':=by
 have step:∀ p,Lib.BuilderAtF T e B b p bs w→Lib.BuilderAtF T e B b p bs w':=by
  rintro p ⟨hB,v,hb,hown,hne⟩
  refine⟨hB,v,hc _ _ _ _ hb,⟨hown.1,?_⟩,hne⟩
  rcases hown.2 with hn|⟨g,cap,cur,fz,hv,hbg,hg,rest⟩
  ·exact .inl hn
  ·exact .inr ⟨g,cap,cur,fz,hv,hbg,hc _ _ _ _ hg,rest⟩
 exact h.elim (fun x=>.inl (step _ x)) (fun x=>.inr (step _ x))
theorem builder_block {T e:TypeId} {B b:Nat} {bs:List Value} {w:World} (h:Lib.IsBuilderF T e B b bs w):∃ c t fz,w.heap[b]?=some (.cells c t fz):=by
 rcases h with ⟨_,v,hb,_⟩|⟨_,v,hb,_⟩
 ·exact⟨_,_,_,hb⟩
 ·exact⟨_,_,_,hb⟩
theorem heap_of_below {w w':World} (h:Below w.heap.size w w') {k:Nat} {o:Obj} (hk:w.heap[k]?=some o):w'.heap[k]?=some o:=by
 have hlt:k<w.heap.size:=by
  rcases Nat.lt_or_ge k w.heap.size with h'|h'
  ·exact h'
  ·rw[Array.getElem?_eq_none h'] at hk;cases hk
 rw[h.block k hlt];exact hk
theorem below_grow {w:World} (k:Nat) (os:Array Obj):Below w.heap.size w (Go.Sort.grow (w.drewN k) os):=by
 refine(pw_below_drewN (Below.refl _ _) k).trans ?_
 refine⟨rfl,rfl,rfl,by simp[Go.Sort.grow],fun i hi=>?_⟩
 show ((w.drewN k).heap++os)[i]?=(w.drewN k).heap[i]?
 rw[Array.getElem?_append_left (by exact hi)]
theorem itoa_calls (n:Int) (h0:-9223372036854775808≤n) (h1:n≤9223372036854775807) (w:World) (hL:Laid w) :
  Calls Tryz.prog 33 #[.int .i64 n] w fun e w'=>e=.returned (.string ⟨(Lib.itoa n).toArray⟩)∧Below w.heap.size w w':=by
 refine(Tryz.strconv_Itoa n h0 h1 w hL.tab).mono ?_
 rintro e w' ⟨rfl,k,os,rfl⟩
 exact⟨rfl,below_grow k os⟩
theorem repeatL_one (c:Nat):Lib.repeatL [48] c=List.replicate c 48:=by
 induction c with
 | zero=>rfl
 | succ c ih=>rw[List.replicate_succ,← ih];rfl
def itoaB (n:Int):ByteArray:=⟨(Lib.itoa n).toArray⟩
theorem itoaB_size (n:Int):(itoaB n).size=(Lib.itoa n).length:=by simp[itoaB,ByteArray.size]
theorem itoaB_calls (n:Int) (h0:-9223372036854775808≤n) (h1:n≤9223372036854775807) (w:World) (hL:Laid w) :
  Calls Tryz.prog 33 #[.int .i64 n] w fun e w'=>e=.returned (.string (itoaB n))∧Below w.heap.size w w':=itoa_calls n h0 h1 w hL
def zerosB (c:Int):ByteArray:=⟨(List.replicate c.toNat 48).toArray⟩
theorem zerosB_size (c:Int):(zerosB c).size=c.toNat:=by simp[zerosB,ByteArray.size]
theorem zerosB_calls (c:Int) (h0:0≤c) (h1:c≤140737488355328) (w:World) :
  Calls Tryz.prog 63 #[.string ⟨#[48]⟩,.int .i64 c] w fun e w'=>e=.returned (.string (zerosB c))∧Below w.heap.size w w':=by
 obtain⟨u,rfl⟩:=Int.eq_ofNat_of_zero_le h0
 refine(Tryz.strings_Repeat ⟨#[48]⟩ u w (by omega) (by show 1 * u≤_;omega)).mono ?_
 rintro e w' ⟨rfl,hb⟩
 refine⟨?_,hb⟩
 rw[repeatL_one]
 rfl
theorem text_nil (A0:Option Addr) (c0:Nat) (l0:List Int) (h:l0.length=0) (w:World) :
  Calls Tryz.prog 104 #[.slice A0 l0.length c0] w fun e W'=>e=.returned (.string ⟨(textL l0).toArray⟩)∧Below w.heap.size w W':=by
 have hres:textL l0=[48]:=by unfold textL;rw[if_pos h]
 rw[hres,h]
 clear h hres
 go_enter Tryz.func104,Tryz.ntmps104
 go_wp2
 go_ret
 exact⟨rfl,(Below.refl _ w).alloc (nr_ _) _⟩
theorem text_some (A0:Option Addr) (c0:Nat) (l0:List Int) (h0:l0.length≠0) (hreach:l0.length≤17592186044416) (hR:∀ i,i<l0.length→0≤limb l0 i∧limb l0 i<10000) (w:World) (hI:IntsAt w.heap.size w (.slice A0 l0.length c0) l0) (hL:Laid w) :
  Calls Tryz.prog 104 #[.slice A0 l0.length c0] w fun e W'=>e=.returned (.string ⟨(textL l0).toArray⟩)∧Below w.heap.size w W':=by
 have hd:((l0.length:Int) == 0)=false:=by rw[beq_eq_false_iff_ne];omega
 refine(callsIn_wide (n:=3)).1 ?_
 refine callsIn_of_wp_marks Tryz.func104 rfl trivial ?_ rfl
 simp only[Tryz.ntmps104,List.size_toArray,List.length_cons,List.length_nil,Nat.reduceAdd,Nat.reduceSub,Array.replicate_succ,Array.replicate_zero,List.push_toArray,List.append_toArray,List.nil_append,List.cons_append]
 gi_wp2_with (refine⟨trivial,?_⟩;gi_at_call 144;refine(backward_in Fence.wide _ trivial rfl _ _ _ _).mono ?_;rintro e w' ⟨rfl,rfl⟩)
 have bS:=Boxed.new w 100 (.slice A0 l0.length c0)
 have bB:(w.alloc (.cells #[.slice A0 l0.length c0] 100)).heap.size=w.heap.size+1:=by simp
 have hB0:Below w.heap.size w (((w.alloc (.cells #[.slice A0 l0.length c0] 100)).alloc (.cells #[.pointer none,.slice none 0 0] 80)).alloc (.cells #[.slice A0 l0.length c0] 100)):=(((Below.refl _ w).alloc (nr_ _) _).alloc (by simp) _).alloc (by simp;omega) _
 have bN:=Boxed.new ((w.alloc (.cells #[.slice A0 l0.length c0] 100)).alloc (.cells #[.pointer none,.slice none 0 0] 80)) 100 (.slice A0 l0.length c0)
 rw[World.size_alloc,World.size_alloc] at bN
 have hI0:Lib.IsBuilderF 80 5 (w.heap.size+1) (w.heap.size+1) (Lib.byteCells []) (((w.alloc (.cells #[.slice A0 l0.length c0] 100)).alloc (.cells #[.pointer none,.slice none 0 0] 80)).alloc (.cells #[.slice A0 l0.length c0] 100)):=by
  refine Lib.IsBuilderF.alloc ?_ _
  refine .inl ⟨nr_ _,.slice none 0 0,?_,World.ownsRowF_of (World.ownsRow_nil _ _ _ _),by simp[Value.ownBlock]⟩
  rw[← bB]
  exact heap_alloc_new _ _
 refine wpIn_rangeFunc_ownG rfl (by omega) (gf:=169) (lb:=#[.pointer (some ⟨w.heap.size+1+1,0,none⟩)]) rfl trivial (enters_of Tryz.func169 (by kernel_rfl) rfl)
  (back_stops Fence.wide _ trivial rfl (by omega) (w.heap.size+1+1) w.heap.size _ l0 (by omega) _ (by simp) (by simp;omega) bN.cell (hI.below hB0)) KeepB.trans (KeepB.putObj (by simp;omega) (by simp)) (Below.refl _ _) (fun _=>rfl)
  (fun pre W=>(W.heap[w.heap.size]?=some (.cells #[.slice A0 l0.length c0] 100 (0,0))∧W.heap[w.heap.size+1+1]?=some (.cells #[.slice A0 l0.length c0] 100 (0,0))∧Lib.IsBuilderF 80 5 (w.heap.size+1) (w.heap.size+1) (Lib.byteCells (pieces l0 pre)) W)∧Below w.heap.size w W)
  (fun _ _ _=>False)
  (OwnFrom.and (Own.from (fun s A B row hs hg hr=>by
   have hc:∀ (k:Nat) c t fz,A.heap[k]?=some (.cells c t fz)→B.heap[k]?=some (.cells c t fz):=by
    intro k c t fz hk
    have hlt:k<A.heap.size:=by
     rcases Nat.lt_or_ge k A.heap.size with h'|h'
     ·exact h'
     ·rw[Array.getElem?_eq_none h'] at hk;cases hk
    rw[hg.block k hlt (fun e=>by
     obtain⟨o,ho,hcell⟩:=hr k e.symm
     rw[hk] at ho
     cases ho
     cases hcell)]
    exact hk
   exact⟨hc _ _ _ _ hs.1,hc _ _ _ _ hs.2.1,builder_cells hs.2.2 hc⟩) _) (ownFrom_below (nr_ _) (by simp;omega)))
  (fun _ _ _ _ _ hs _ _=>hs)
  ⟨⟨?st1,?st2,hI0⟩,hB0⟩
  (fun x=>{ tmps:=#[.slice A0 l0.length c0,.pointer (some ⟨w.heap.size,0,none⟩),.string ⟨#[]⟩,.pointer (some ⟨w.heap.size+1,0,none⟩),.int .i64 (x.val:Int),.int .i64 (limb l0 x.val),undef,.slice A0 l0.length c0,.int .i64 l0.length,.bool false,.slice A0 l0.length c0,.func (.func 169) #[] #[.pointer (some ⟨w.heap.size+1+1,0,none⟩)],.int .i64 (x.val:Int),.int .i64 (limb l0 x.val),undef,undef,undef,undef,undef,undef,undef,undef,undef,undef,undef,undef,undef,undef,undef],defers:=[] }) ?assign ?body ?done ?stop
 case st1=>exact(bS.alloc _).alloc _
 case st2=>exact bN
 case assign =>
  intro l x W K hK
  dsimp only[item]
  gi_wp2
  exact hK
 case body =>
  rintro l pre x W ⟨⟨h1,h2,hI1⟩,hB⟩ hN
  have hx:=hR x.val x.isLt
  have hlen:=pieces_len hR pre
  have hlx:=itoa_len hx.1 hx.2
  have hLW:=hL.below hB
  have hcell1:W.cell? ⟨w.heap.size,0,none⟩=some (.slice A0 l0.length c0):=by simp[World.cell?,h1]
  rw[← itoaB_size] at hlx
  have hbl:w.heap.size+1+1<W.heap.size:=by
   rcases Nat.lt_or_ge (w.heap.size+1+1) W.heap.size with h'|h'
   ·exact h'
   ·rw[Array.getElem?_eq_none h'] at h2;cases h2
  have hpn:pre.length<17592186044416:=by omega
  obtain⟨s,hs⟩:∃ s,itoaB (limb l0 x.val)=s:=⟨_,rfl⟩
  have hsl:s.data.toList=Lib.itoa (limb l0 x.val):=by rw[← hs];simp[itoaB]
  rw[hs] at hlx
  have HS:=Lib.hid hs
  have HSL:=Lib.hid hsl
  obtain⟨hl1,hl4⟩:=hlx
  obtain⟨hx0,hx1⟩:=hx
  have keep4:∀ {W1 W4:World},Below W.heap.size W W1→Below (w.heap.size+1) W1 W4→Lib.OthersKept 5 (some (w.heap.size+1)) W1 W4→KeepsFrom (((w.alloc (.cells #[.slice A0 l0.length c0] 100)).alloc (.cells #[.pointer none,.slice none 0 0] 80)).alloc (.cells #[.slice A0 l0.length c0] 100)).heap.size W W4∧KeepB w.heap.size (w.heap.size+1+1) W W4∧W4.heap[w.heap.size]?=some (.cells #[.slice A0 l0.length c0] 100 (0,0))∧W4.heap[w.heap.size+1+1]?=some (.cells #[.slice A0 l0.length c0] 100 (0,0))∧Below w.heap.size w W4:=by
   intro W1 W4 hb1 hb4 ho4
   have g2:W4.heap[w.heap.size+1+1]?=some (.cells #[.slice A0 l0.length c0] 100 (0,0)):=ho4 _ _ (heap_of_below hb1 h2) (by simp) (by intro c fz e;cases e)
   have g1:W4.heap[w.heap.size]?=some (.cells #[.slice A0 l0.length c0] 100 (0,0)):=(hb4.block _ (by omega)).trans (heap_of_below hb1 h1)
   obtain⟨bc,bt,bf,hbb⟩:=builder_block hI1
   refine⟨⟨Nat.le_trans hb1.size hb4.size,fun k o hk ho hc=>?_⟩,⟨(hb1.mono (by omega)).trans (hb4.mono (by omega)),g2.trans h2.symm⟩,g1,g2,hB.trans ((hb1.mono (by omega)).trans (hb4.mono (by omega)))⟩
   refine ho4 k o (heap_of_below hb1 ho) ?_ ?_
   ·intro e
    cases e
    rw[hbb] at ho
    cases ho
    cases hc
   ·intro c fz e
    rw[e] at hc
    cases hc
  by_cases ht:x.val+1<l0.length
  ·have hdt:decide ((x.val:Int)<(l0.length:Int)-1)=true:=by simp;omega
   have hpc:piece l0.length x.val (limb l0 x.val)=(zerosB (4-(s.size:Int))).data.toList++s.data.toList:=by
    unfold piece
    rw[if_pos ht,HSL.out,← HS.out,itoaB_size]
    congr 1
    simp[zerosB] <;> omega
   have HP:=Lib.hid hpc
   clear hpc hs hsl ht
   gi_wp2_with fail
   refine⟨trivial,?_⟩
   gi_at_call 33
   refine(CallsIn.inRound l (callsIn_wide.2 (itoaB_calls _ (by omega) (by omega) _ hLW))).mono ?_
   rintro e W1 ⟨rfl,hb1⟩
   rw[HS.out]
   have hcell2:W1.cell? ⟨w.heap.size,0,none⟩=some (.slice A0 l0.length c0):=(hb1.cell (World.block_lt_of_cell? W _ hcell1)).trans hcell1
   gi_wp2_with fail
   refine⟨trivial,?_⟩
   gi_at_call 63
   refine(CallsIn.inRound l (callsIn_wide.2 (zerosB_calls _ (by omega) (by omega) _))).mono ?_
   rintro e W2 ⟨rfl,hb2⟩
   have hb12:=hb1.trans (hb2.mono hb1.size)
   have hI2:=builder_cells hI1 (fun k c t fz hk=>heap_of_below hb12 hk)
   have hz:=zerosB_size (4-(s.size:Int))
   gi_wp2_with fail
   refine⟨trivial,?_⟩
   gi_at_call 66
   refine(CallsIn.inRound l (callsIn_wide.2 (Tryz.Builder_WriteString_k (w.heap.size+1) (w.heap.size+1) _ _ _ hI2 (by rw[Lib.byteCells_length];omega) (by have:=hb12.size;omega)))).mono ?_
   rintro e W3 ⟨rfl,hI3,hb3,ho3⟩
   gi_wp2_with fail
   refine⟨trivial,?_⟩
   gi_at_call 66
   refine(CallsIn.inRound l (callsIn_wide.2 (Tryz.Builder_WriteString_k (w.heap.size+1) (w.heap.size+1) _ _ _ (.inr hI3) (by rw[List.length_append,Lib.byteCells_length,Lib.strCells_length];omega) (by have:=hb12.size;have:=hb3.size;omega)))).mono ?_
   rintro e W4 ⟨rfl,hI4,hb4,ho4⟩
   gi_wp2
   obtain⟨k1,k2,k3,k4,k5⟩:=keep4 hb12 (hb3.trans hb4) (ho3.trans ho4)
   refine⟨k1,k2,⟨k3,k4,?_⟩,k5⟩
   rw[pieces_snoc,HP.out,Lib.byteCells_append,Lib.byteCells_append,← List.append_assoc]
   exact .inr hI4
  ·have hdt:decide ((x.val:Int)<(l0.length:Int)-1)=false:=by simp;omega
   have hpc:piece l0.length x.val (limb l0 x.val)=s.data.toList:=by
    unfold piece
    rw[if_neg ht,HSL.out]
    rfl
   have HP:=Lib.hid hpc
   clear hpc hs hsl ht
   gi_wp2_with fail
   refine⟨trivial,?_⟩
   gi_at_call 33
   refine(CallsIn.inRound l (callsIn_wide.2 (itoaB_calls _ (by omega) (by omega) _ hLW))).mono ?_
   rintro e W1 ⟨rfl,hb1⟩
   rw[HS.out]
   have hcell2:W1.cell? ⟨w.heap.size,0,none⟩=some (.slice A0 l0.length c0):=(hb1.cell (World.block_lt_of_cell? W _ hcell1)).trans hcell1
   have hI2:=builder_cells hI1 (fun k c t fz hk=>heap_of_below hb1 hk)
   gi_wp2_with fail
   refine⟨trivial,?_⟩
   gi_at_call 66
   refine(CallsIn.inRound l (callsIn_wide.2 (Tryz.Builder_WriteString_k (w.heap.size+1) (w.heap.size+1) _ _ _ hI2 (by rw[Lib.byteCells_length];omega) (by have:=hb1.size;omega)))).mono ?_
   rintro e W4 ⟨rfl,hI4,hb4,ho4⟩
   gi_wp2
   obtain⟨k1,k2,k3,k4,k5⟩:=keep4 hb1 hb4 ho4
   refine⟨k1,k2,⟨k3,k4,?_⟩,k5⟩
   rw[pieces_snoc,HP.out,Lib.byteCells_append]
   exact .inr hI4
 case done =>
  rintro D ys W hD hys ⟨⟨h1,h2,hI1⟩,hB⟩ hK
  have HY:=Lib.hid hys
  clear hys
  have hbl:w.heap.size+1+1<W.heap.size:=by
   rcases Nat.lt_or_ge (w.heap.size+1+1) W.heap.size with h'|h'
   ·exact h'
   ·rw[Array.getElem?_eq_none h'] at h2;cases h2
  have hD':w.heap.size+1+1<D:=by simp at hD;omega
  gi_wp2_with fail
  refine⟨trivial,?_⟩
  gi_at_call 67
  refine(callsIn_wide.2 (Tryz.Builder_String_any_k (w.heap.size+1) (w.heap.size+1) _ _ hI1 (by omega))).mono ?_
  rintro e W2 ⟨rfl,hI2,hb2,ho2⟩
  have hK2:W2.heap[D]?=some (.deferred (some [])):=ho2 _ _ hK (by intro e;cases e;omega) (by intro c fz e;cases e)
  gi_wp2
  refine⟨by simp,.inl ⟨_,_,rfl,run_takeDeferred hK2,?_⟩⟩
  exact⟨_,results_tmp rfl _ _ _,by rw[pieces_all l0 ys h0 HY.out];rfl,(hB.trans (hb2.mono (by omega))).trans (belowK_b (w:=w) (nr_ _) W2 D _ _ (by omega) hK2 rfl rfl)⟩
 case stop =>
  rintro D c pre W _ _ h _
  exact h.elim
def LimbsIn (l:List Int):Prop:=∀ i,i<l.length→0≤limb l i∧limb l i<10000
def limbsOk (l:List Int):Bool:=l.all fun x=>decide (0≤x)&&decide (x<10000)
theorem limbsIn_of_ok {l:List Int} (h:limbsOk l=true):LimbsIn l:=by
 intro i hi
 have hm:limb l i∈l:=by
  unfold limb
  rw[List.getD_eq_getElem?_getD,List.getElem?_eq_getElem hi]
  exact List.getElem_mem hi
 have:=List.all_eq_true.1 h _ hm
 simp at this
 exact this
def nat_limbs_text.f (l:List Int):Option ByteArray:=if limbsOk l=true∧l.length≤17592186044416 then some ⟨(textL l).toArray⟩ else none
theorem nat_limbs_text.calls (A0:Option Addr) (c0:Nat) (l0:List Int) (r:ByteArray) (w:World) (hr0:Kd.C (Kd.int .i64) w A0 l0.length l0) (hc0:l0.length≤c0) (hL_:Laid w) (h:nat_limbs_text.f l0=some r) :
  Calls Tryz.prog 104 #[.slice A0 l0.length c0] w fun e w'=>e=.returned (.string r)∧Below w.heap.size w w':=by
 unfold nat_limbs_text.f at h
 split at h
 ·rename_i hp
  obtain rfl:=Option.some.inj h
  by_cases e:l0.length=0
  ·exact text_nil A0 c0 l0 e w
  ·exact text_some A0 c0 l0 e hp.2 (limbsIn_of_ok hp.1) w (intsAt_of_C hr0) hL_
 ·cases h
end
section
open Go.Shelf
def trimL (l:List Int):List Int:=(l.reverse.dropWhile (· == 0)).reverse
theorem trimL_zero (l:List Int):trimL (l ++ [0])=trimL l:=by simp[trimL]
theorem trimL_snoc (l:List Int) (x:Int) (h:x≠0):trimL (l ++ [x])=l ++ [x]:=by simp[trimL,h]
theorem trimL_prefix (l:List Int):trimL l=l.take (trimL l).length:=by
 have h:trimL l <+: l:=by
  have h1:=List.dropWhile_suffix (l:=l.reverse) (p:=(· == 0))
  have h2:=List.reverse_prefix.2 h1
  simpa [trimL] using h2
 exact List.prefix_iff_eq_take.1 h
theorem take_step (l:List Int) (m:Nat) (h:m<l.length):l.take (m+1)=l.take m ++ [limb l m]:=by
 rw[List.take_succ_eq_append_getElem h]
 simp[limb,h]
theorem trim_exact (A0:Option Addr) (c0:Nat) (l:List Int) (hm:l.length≤9223372036854775807) (hc0:l.length≤c0) (w:World) (hI:0<l.length→∃ ad,A0=some ad∧∀ j,j<l.length→w.cell? (ad.add j)=some (.int .i64 (limb l j))) :
  Calls Tryz.prog 143 #[.slice A0 l.length c0] w fun e w'=>e=.returned (.slice A0 (trimL l).length c0)∧w'=w:=by
 go_enter Tryz.func143,Tryz.ntmps143
 go_wp2
 go_loop [0] (fun v=>∃ m:Nat,m≤l.length∧v=.slice A0 m c0∧trimL (l.take m)=trimL l) (fun v=>match v with|.slice _ m _=>m|_=>0)
 case atStart=>exact⟨l.length,nr_ _,rfl,by rw[List.take_length]⟩
 case round =>
  obtain⟨m,hml,rfl,ht⟩:=hrel
  have HT:=Lib.hid ht
  clear ht
  cases m with
  | zero =>
   have hl0:(trimL l).length=0:=by rw[← HT.out];rfl
   have HL:=Lib.hid hl0
   clear hl0
   go_wp2
   go_ret
   exact⟨by rw[HL.out];rfl,rfl⟩
  | succ m =>
   obtain⟨ad,rfl,hc⟩:=hI (by omega)
   have hcm:=hc m (by omega)
   have hst:=take_step l m (by omega)
   clear hc hI
   by_cases hz:limb l m=0
   ·rw[hz] at hcm hst
    have HS:=Lib.hid hst
    clear hz hst
    go_wp2
    exact⟨⟨m,by omega,rfl,by rw[← HT.out,HS.out,trimL_zero]⟩,Nat.lt_succ_self m⟩
   ·have hzb:(limb l m == 0)=false:=by rw[beq_eq_false_iff_ne];exact hz
    have hl0:(trimL l).length=m+1:=by
     rw[← HT.out,hst,trimL_snoc _ _ hz,List.length_append,List.length_take]
     simp
     omega
    have HL:=Lib.hid hl0
    clear hz hst hl0
    go_wp2
    go_ret
    exact⟨by rw[HL.out];rfl,rfl⟩
theorem trim_at {m_:Nat} (A0:Option Addr) (n c0:Nat) (l:List Int) (hn:n=l.length) (hm:l.length≤9223372036854775807) (hc0:l.length≤c0) (w:World) (hI:0<l.length→∃ ad,A0=some ad∧∀ j,j<l.length→w.cell? (ad.add j)=some (.int .i64 (limb l j))) :
  CallsIn Fence.wide m_ Tryz.prog 143 #[.slice A0 n c0] w fun e w'=>e=.returned (.slice A0 (trimL l).length c0)∧w'=w:=by
 subst hn
 exact callsIn_wide.2 (trim_exact A0 c0 l hm hc0 w hI)
end
section
open Go.Shelf
attribute [local go_sem] Oper.semAt_some
def sstep (l:List Int) (n:Int) (s:List Int×Int) (i:Nat):List Int×Int:=(s.1.set i ((s.2 * 10000+limb l i) / n),(s.2 * 10000+limb l i) % n)
def sfold (l:List Int) (n:Int) (pre:List (Fin l.length)):List Int×Int:=(pre.map Fin.val).foldl (sstep l n) (List.replicate l.length 0,0)
theorem sfold_snoc (l:List Int) (n:Int) (pre:List (Fin l.length)) (x:Fin l.length):sfold l n (pre ++ [x])=sstep l n (sfold l n pre) x.val:=by simp[sfold]
def shortL (l:List Int) (n:Int):List Int×Int:=(upto l.length l.length).foldl (sstep l n) (List.replicate l.length 0,0)
theorem sfold_rest {l:List Int} {n:Int} (hn:0<n) (pre:List (Fin l.length)):0≤(sfold l n pre).2∧(sfold l n pre).2<n:=by
 rcases List.eq_nil_or_concat pre with rfl|⟨r,x,rfl⟩
 ·simp[sfold];exact hn
 ·rw[List.concat_eq_append,sfold_snoc]
  exact⟨Int.emod_nonneg _ (by omega),Int.emod_lt_of_pos _ hn⟩
theorem sfold_len {l:List Int} {n:Int} (pre:List (Fin l.length)):(sfold l n pre).1.length=l.length:=by
 unfold sfold
 generalize hs:(List.replicate l.length (0:Int),(0:Int))=s
 have h0:s.1.length=l.length:=by rw[← hs];simp
 clear hs
 induction pre generalizing s with
 | nil=>exact h0
 | cons x r ih=>exact ih _ (by simp[sstep,h0])
theorem Boxed_alloc {w:World} {g:Nat} {o o':Obj} (h:w.heap[g]?=some o):(w.alloc o').heap[g]?=some o:=(Below.heap_alloc w o' g (blk_lt h)).trans h
def rowOf (o:List Int):Array Value:=(o.map (Value.int .i64)).toArray
theorem rowOf_set (o:List Int) (i:Nat) (v:Int):(rowOf o).setIfInBounds i (.int .i64 v)=rowOf (o.set i v):=by
 apply Array.toList_inj.1
 simp[rowOf,List.map_set]
theorem rowOf_get (o:List Int) (i:Nat) (h:i<o.length):(rowOf o)[i]?=some (.int .i64 (limb o i)):=by
 simp[rowOf,limb,h]
theorem V_of_row {W:World} {g base c n:Nat} {ok:Nat→Prop} {o p:List Int} (h:W.heap[g]?=some (.cells (rowOf o) 3 (0,0))) (hok:ok g) (hp:p=o.take n) (hn:n≤o.length) (hc:n≤c) (hl:o.length≤9223372036854775807):Kd.V (Kd.int .i64) 3 W base ok (.slice (some ⟨g,0,none⟩) n c) p:=by
 have hpn:p.length=n:=by rw[hp,List.length_take];omega
 subst hpn
 refine⟨_,_,rfl,hc,fun W' hW=>?_⟩
 have h':W'.heap[g]?=some (.cells (rowOf o) 3 (0,0)):=(hW g hok (blk_lt h)).trans h
 refine⟨rfl,by omega,fun _=>⟨_,rfl,fun j q hj=>⟨[.int .i64 q],rfl,rfl,fun i u hu=>?_⟩⟩⟩
 have hjp:j<p.length:=(List.getElem?_eq_some_iff.1 hj).1
 have hjl:j<o.length:=by omega
 have hi:i=0:=by
  rcases i with _|i
  ·rfl
  ·simp at hu
 subst hi
 obtain rfl:Value.int .i64 q=u:=by simpa using hu
 have e1:(⟨g,0,none⟩:Addr).add (j * (Kd.int .i64).sz+0)=⟨g,j,none⟩:=by
  have e2:j * (Kd.int .i64).sz+0=j:=by show j * 1+0=j;omega
  rw[e2]
  unfold Addr.add
  split
  ·rename_i h0;subst h0;rfl
  ·simp
 rw[e1,blk_cell h' j,rowOf_get o j hjl]
 have hq:o[j]?=some q:=by
  rw[hp,List.getElem?_take_of_lt hjp] at hj
  exact hj
 simp[limb,hq]
theorem row_put {W:World} {g D:Nat} {o x:Obj} (h:W.heap[g]?=some x) (hne:g≠D):(W.putObj D o).heap[g]?=some x:=by
 rw[← h]
 simp[World.putObj,Ne.symm hne]
theorem made_row (n:Nat):madeCells (Value.int .i64 0).cells n=rowOf (List.replicate n 0):=by
 apply Array.toList_inj.1
 have:=toList_madeCells_one (.int .i64 0) n
 simpa [rowOf,Value.cells] using this
theorem row_cells {w:World} {g:Nat} {o:List Int} (h:w.heap[g]?=some (.cells (rowOf o) 3 (0,0))) (j:Nat) (hj:j<o.length):w.cell? ((⟨g,0,none⟩:Addr).add j)=some (.int .i64 (limb o j)):=by
 have e:(⟨g,0,none⟩:Addr).add j=⟨g,j,none⟩:=by
  unfold Addr.add
  split
  ·rename_i h0;subst h0;rfl
  ·simp
 rw[e]
 exact(blk_cell h _).trans (rowOf_get o _ hj)
theorem row_far {w:World} {g:Nat} {o:List Int} {ad:Addr} {v:Value} (h:w.heap[g]?=some (.cells (rowOf o) 3 (0,0))) (hne:g≠ad.block):(w.setCell ad v).heap[g]?=some (.cells (rowOf o) 3 (0,0)):=blk_far h hne _
theorem row_drew {w:World} {g:Nat} {o:Obj} (h:w.heap[g]?=some o):w.drew.heap[g]?=some o:=h
theorem row_drewN {w:World} {g n:Nat} {o:Obj} (h:w.heap[g]?=some o):(w.drewN n).heap[g]?=some o:=h
theorem make_run (n:Nat) (hn:n≤17592186044416) (w:World):(Instr.makeSlice 100 (.int .i64 (n:Int)) (.int .i64 (n:Int))).run Tryz.prog w=.ok (.slice (some ⟨w.heap.size,0,none⟩) n n) (w.alloc (.cells (rowOf (List.replicate n 0)) 3)):=by
 have hinfo:(Tryz.prog.info? 3).map (fun i=>(i.zero,i.size,i.bytes))=some (some (.int .i64 0),1,8):=by kernel_rfl
 obtain⟨i0,hi,hz0,hz1,hz2⟩:=info_parts hinfo
 have h:=run_make (P:=Tryz.prog) w 100 3 i0 (.int .i64 0) Tryz.underlying100 hi hz0 .i64 .i64 n n (by omega) (by omega) (by rw[hz2];omega) (by omega)
 rw[hz1] at h
 simp only[Int.toNat_natCast,Nat.mul_one] at h
 rw[made_row] at h
 exact h
theorem short_walk (A0:Option Addr) (c0:Nat) (l0:List Int) (n:Int) (hn0:0<n) (hn1:n≤10000) (hreach:l0.length≤17592186044416) (hR:∀ i,i<l0.length→0≤limb l0 i∧limb l0 i<10000) (w:World) (hI:IntsAt w.heap.size w (.slice A0 l0.length c0) l0) :
  Calls Tryz.prog 140 #[.slice A0 l0.length c0,.int .i64 n] w fun e w'=>∃ v0_ v1_:Value,e=.returned (.tuple #[v0_,v1_])∧Kd.V (Kd.int .i64) 3 w' w.heap.size (fun k_=>(w.heap.size≤k_)) v0_ (trimL (shortL l0 n).1)∧Kd.V (Kd.int .i64) 3 w' w.heap.size (fun k_=>(w.heap.size≤k_)) v1_ (trimL [(shortL l0 n).2])∧Below w.heap.size w w':=by
 have hmk:=make_run l0.length hreach
 refine(callsIn_wide (n:=3)).1 ?_
 refine callsIn_of_wp_marks Tryz.func140 rfl trivial ?_ rfl
 simp only[Tryz.ntmps140,List.size_toArray,List.length_cons,List.length_nil,Nat.reduceAdd,Nat.reduceSub,Array.replicate_succ,Array.replicate_zero,List.push_toArray,List.append_toArray,List.nil_append,List.cons_append]
 gi_wp2_with (refine⟨trivial,?_⟩;gi_at_call 144;refine(backward_in Fence.wide _ trivial rfl _ _ _ _).mono ?_;rintro e w' ⟨rfl,rfl⟩)
 have hB0:Below w.heap.size w (((((w.alloc (.cells #[.int .i64 n] 3)).alloc (.cells (rowOf (List.replicate l0.length 0)) 3)).alloc (.cells #[.slice (some ⟨w.heap.size+1,0,none⟩) l0.length l0.length] 100)).alloc (.cells #[.int .i64 0] 3)).alloc (.cells #[.slice A0 l0.length c0] 100)) :=
  (((((Below.refl _ w).alloc (nr_ _) _).alloc (by simp) _).alloc (by simp;omega) _).alloc (by simp;omega) _).alloc (by simp;omega) _
 have bN:Boxed (((((w.alloc (.cells #[.int .i64 n] 3)).alloc (.cells (rowOf (List.replicate l0.length 0)) 3)).alloc (.cells #[.slice (some ⟨w.heap.size+1,0,none⟩) l0.length l0.length] 100)).alloc (.cells #[.int .i64 0] 3)).alloc (.cells #[.slice A0 l0.length c0] 100)) (w.heap.size+1+1+1+1) 100 (.slice A0 l0.length c0):=by
  have h:=Boxed.new ((((w.alloc (.cells #[.int .i64 n] 3)).alloc (.cells (rowOf (List.replicate l0.length 0)) 3)).alloc (.cells #[.slice (some ⟨w.heap.size+1,0,none⟩) l0.length l0.length] 100)).alloc (.cells #[.int .i64 0] 3)) 100 (.slice A0 l0.length c0)
  simpa using h
 have hn2:(n == 0)=false:=by rw[beq_eq_false_iff_ne];omega
 refine wpIn_rangeFunc_ownG rfl (by omega) (gf:=169) (lb:=#[.pointer (some ⟨w.heap.size+1+1+1+1,0,none⟩)]) rfl trivial (enters_of Tryz.func169 (by kernel_rfl) rfl)
  (back_stops Fence.wide _ trivial rfl (by omega) (w.heap.size+1+1+1+1) w.heap.size _ l0 (by omega) _ (by simp) (by simp;omega) bN.cell (hI.below hB0)) KeepB.trans (KeepB.putObj (by simp;omega) (by simp)) (Below.refl _ _) (fun _=>rfl)
  (fun pre W=>(W.heap[w.heap.size]?=some (.cells #[.int .i64 n] 3 (0,0))∧W.heap[w.heap.size+1]?=some (.cells (rowOf (sfold l0 n pre).1) 3 (0,0))∧W.heap[w.heap.size+1+1]?=some (.cells #[.slice (some ⟨w.heap.size+1,0,none⟩) l0.length l0.length] 100 (0,0))∧W.heap[w.heap.size+1+1+1]?=some (.cells #[.int .i64 (sfold l0 n pre).2] 3 (0,0)))∧Below w.heap.size w W)
  (fun _ _ _=>False)
  (OwnFrom.and (Own.from (fun s A B row hs hg hr=>by
   have hc:∀ (k:Nat) c t fz,A.heap[k]?=some (.cells c t fz)→B.heap[k]?=some (.cells c t fz):=by
    intro k c t fz hk
    have hlt:k<A.heap.size:=by
     rcases Nat.lt_or_ge k A.heap.size with h'|h'
     ·exact h'
     ·rw[Array.getElem?_eq_none h'] at hk;cases hk
    rw[hg.block k hlt (fun e=>by
     obtain⟨o,ho,hcell⟩:=hr k e.symm
     rw[hk] at ho
     cases ho
     cases hcell)]
    exact hk
   exact⟨hc _ _ _ _ hs.1,hc _ _ _ _ hs.2.1,hc _ _ _ _ hs.2.2.1,hc _ _ _ _ hs.2.2.2⟩) _) (ownFrom_below (nr_ _) (by simp;omega)))
  (fun _ _ _ _ _ hs _ _=>hs)
  ⟨⟨?st0,?st1,?st2,?st3⟩,hB0⟩
  (fun x=>{ tmps:=#[.slice A0 l0.length c0,.int .i64 n,undef,.pointer (some ⟨w.heap.size,0,none⟩),.slice none 0 0,.slice none 0 0,.pointer (some ⟨w.heap.size+1+1,0,none⟩),.pointer (some ⟨w.heap.size+1+1+1,0,none⟩),.int .i64 (x.val:Int),.int .i64 (limb l0 x.val),.slice A0 l0.length c0,.int .i64 l0.length,.slice (some ⟨w.heap.size+1,0,none⟩) l0.length l0.length,.slice A0 l0.length c0,.func (.func 169) #[] #[.pointer (some ⟨w.heap.size+1+1+1+1,0,none⟩)],.int .i64 (x.val:Int),.int .i64 (limb l0 x.val),undef,undef,undef,undef,undef,undef,undef,undef,undef,undef,undef,undef,undef,undef,undef,undef,undef,undef],defers:=[] }) ?assign ?body ?done ?stop
 case st0=>exact(((Boxed.new w 3 (.int .i64 n)).alloc _).alloc _).alloc _ |>.alloc _
 case st1 =>
  have h:=((heap_alloc_new (w.alloc (.cells #[.int .i64 n] 3)) (.cells (rowOf (List.replicate l0.length 0)) 3)))
  rw[World.size_alloc] at h
  exact Boxed_alloc (Boxed_alloc (Boxed_alloc h))
 case st2 =>
  have h:=Boxed.new ((w.alloc (.cells #[.int .i64 n] 3)).alloc (.cells (rowOf (List.replicate l0.length 0)) 3)) 100 (.slice (some ⟨w.heap.size+1,0,none⟩) l0.length l0.length)
  rw[World.size_alloc,World.size_alloc] at h
  exact Boxed_alloc (Boxed_alloc h)
 case st3 =>
  have h:=Boxed.new (((w.alloc (.cells #[.int .i64 n] 3)).alloc (.cells (rowOf (List.replicate l0.length 0)) 3)).alloc (.cells #[.slice (some ⟨w.heap.size+1,0,none⟩) l0.length l0.length] 100)) 3 (.int .i64 0)
  rw[World.size_alloc,World.size_alloc,World.size_alloc] at h
  exact Boxed_alloc h
 case assign =>
  intro l x W K hK
  dsimp only[item]
  gi_wp2
  exact hK
 case body =>
  rintro l pre x W ⟨⟨h1,h2,h3,h4⟩,hB⟩ hN
  have hx:=hR x.val x.isLt
  have hs2:=sfold_rest (l:=l0) hn0 pre
  have hs1:=sfold_len (l:=l0) (n:=n) pre
  have hst:=sfold_snoc l0 n pre x
  obtain⟨o,r,hor⟩:∃ o r,sfold l0 n pre=(o,r):=⟨_,_,rfl⟩
  rw[hor] at h2 h4 hs2 hs1 hst
  dsimp only at h2 h4 hs2 hs1
  obtain⟨v,hv⟩:∃ v,limb l0 x.val=v:=⟨_,rfl⟩
  simp only[sstep,hv] at hst
  rw[hv] at hx ⊢
  have HST:=Lib.hid hst
  have HS1:=Lib.hid hs1
  clear hst hor hv hR
  have hxl:=x.isLt
  have hlt:x.val<o.length:=by rw[hs1];exact hxl
  clear hs1
  obtain⟨hx0,hx1⟩:=hx
  obtain⟨hr0,hr1⟩:=hs2
  have c3:W.cell? ⟨w.heap.size,0,none⟩=some (.int .i64 n):=by simp[World.cell?,h1]
  have c6:W.cell? ⟨w.heap.size+1+1,0,none⟩=some (.slice (some ⟨w.heap.size+1,0,none⟩) l0.length l0.length):=by simp[World.cell?,h3]
  have c7:W.cell? ⟨w.heap.size+1+1+1,0,none⟩=some (.int .i64 r):=by simp[World.cell?,h4]
  have f7:W.frozen? ⟨w.heap.size+1+1+1,0,none⟩=false:=by simp[World.frozen?,h4]
  gi_wp2
  obtain⟨s,hs⟩:∃ s,r * 10000+v=s:=⟨_,rfl⟩
  have hs0:0≤s:=by omega
  have hs9:s<100000000:=by omega
  rw[hs]
  have HSS:=Lib.hid hs
  clear hs
  obtain⟨W1,hW1⟩:∃ W1,W.setCell ⟨w.heap.size+1+1+1,0,none⟩ (.int .i64 s)=W1:=⟨_,rfl⟩
  have g1:W1.heap[w.heap.size]?=some (.cells #[.int .i64 n] 3 (0,0)):=by rw[← hW1];exact blk_far h1 (by simp;omega) _
  have g2:W1.heap[w.heap.size+1]?=some (.cells (rowOf o) 3 (0,0)):=by rw[← hW1];exact blk_far h2 (by simp) _
  have g3:W1.heap[w.heap.size+1+1]?=some (.cells #[.slice (some ⟨w.heap.size+1,0,none⟩) l0.length l0.length] 100 (0,0)):=by rw[← hW1];exact blk_far h3 (by simp) _
  have g4:W1.heap[w.heap.size+1+1+1]?=some (.cells #[.int .i64 s] 3 (0,0)):=by rw[← hW1];exact blk_set h4 0 _
  have kB:KeepB w.heap.size (w.heap.size+1+1+1+1) W W1:=by
   rw[← hW1]
   exact⟨(Below.refl _ _).setCell (p:=⟨w.heap.size+1+1+1,0,none⟩) (by simp;omega) _,Below.heap_setCell _ _ _ _ (by simp)⟩
  have kF:KeepsFrom (((((w.alloc (.cells #[.int .i64 n] 3)).alloc (.cells (rowOf (List.replicate l0.length 0)) 3)).alloc (.cells #[.slice (some ⟨w.heap.size+1,0,none⟩) l0.length l0.length] 100)).alloc (.cells #[.int .i64 0] 3)).alloc (.cells #[.slice A0 l0.length c0] 100)).heap.size W W1:=by
   rw[← hW1]
   exact(KeepsOthers.setCell _ _ _).from _
  rw[hW1]
  clear hW1 h1 h2 h3 h4 c3 c6 c7 f7
  have c3:W1.cell? ⟨w.heap.size,0,none⟩=some (.int .i64 n):=by simp[World.cell?,g1]
  have c6:W1.cell? ⟨w.heap.size+1+1,0,none⟩=some (.slice (some ⟨w.heap.size+1,0,none⟩) l0.length l0.length):=by simp[World.cell?,g3]
  have c7:W1.cell? ⟨w.heap.size+1+1+1,0,none⟩=some (.int .i64 s):=by simp[World.cell?,g4]
  have c2:W1.cell? ⟨w.heap.size+1,x.val,none⟩=some (.int .i64 (limb o x.val)):=(blk_cell g2 _).trans (rowOf_get o _ hlt)
  have f2:W1.frozen? ⟨w.heap.size+1,x.val,none⟩=false:=blk_frozen g2 _
  have HST2:Hid (sfold l0 n (pre ++ [x])=(o.set x.val (s / n),s % n)):=by
   have h:=HST.out
   rw[HSS.out] at h
   exact h
  obtain⟨W2,hW2,d3,d7,e7,fin⟩:∃ W2,(W1.setCell ⟨w.heap.size+1,x.val,none⟩ (.int .i64 (s / n))).drew=W2∧W2.cell? ⟨w.heap.size,0,none⟩=some (.int .i64 n)∧W2.cell? ⟨w.heap.size+1+1+1,0,none⟩=some (.int .i64 s)∧W2.frozen? ⟨w.heap.size+1+1+1,0,none⟩=false ∧
    (KeepsFrom (((((w.alloc (.cells #[.int .i64 n] 3)).alloc (.cells (rowOf (List.replicate l0.length 0)) 3)).alloc (.cells #[.slice (some ⟨w.heap.size+1,0,none⟩) l0.length l0.length] 100)).alloc (.cells #[.int .i64 0] 3)).alloc (.cells #[.slice A0 l0.length c0] 100)).heap.size W (W2.setCell ⟨w.heap.size+1+1+1,0,none⟩ (.int .i64 (s % n))) ∧
     KeepB w.heap.size (w.heap.size+1+1+1+1) W (W2.setCell ⟨w.heap.size+1+1+1,0,none⟩ (.int .i64 (s % n))) ∧
     ((W2.setCell ⟨w.heap.size+1+1+1,0,none⟩ (.int .i64 (s % n))).heap[w.heap.size]?=some (.cells #[.int .i64 n] 3 (0,0))∧(W2.setCell ⟨w.heap.size+1+1+1,0,none⟩ (.int .i64 (s % n))).heap[w.heap.size+1]?=some (.cells (rowOf (sfold l0 n (pre ++ [x])).1) 3 (0,0))∧(W2.setCell ⟨w.heap.size+1+1+1,0,none⟩ (.int .i64 (s % n))).heap[w.heap.size+1+1]?=some (.cells #[.slice (some ⟨w.heap.size+1,0,none⟩) l0.length l0.length] 100 (0,0))∧(W2.setCell ⟨w.heap.size+1+1+1,0,none⟩ (.int .i64 (s % n))).heap[w.heap.size+1+1+1]?=some (.cells #[.int .i64 (sfold l0 n (pre ++ [x])).2] 3 (0,0)))∧Below w.heap.size w (W2.setCell ⟨w.heap.size+1+1+1,0,none⟩ (.int .i64 (s % n)))):=by
   refine⟨_,rfl,?_⟩
   have q1:((W1.setCell ⟨w.heap.size+1,x.val,none⟩ (.int .i64 (s / n))).drew).heap[w.heap.size]?=some (.cells #[.int .i64 n] 3 (0,0)):=blk_far g1 (by simp) _
   have q2:((W1.setCell ⟨w.heap.size+1,x.val,none⟩ (.int .i64 (s / n))).drew).heap[w.heap.size+1]?=some (.cells (rowOf (o.set x.val (s / n))) 3 (0,0)):=by
    have h:=blk_set g2 x.val (.int .i64 (s / n))
    rw[rowOf_set] at h
    exact h
   have q3:((W1.setCell ⟨w.heap.size+1,x.val,none⟩ (.int .i64 (s / n))).drew).heap[w.heap.size+1+1]?=some (.cells #[.slice (some ⟨w.heap.size+1,0,none⟩) l0.length l0.length] 100 (0,0)):=blk_far g3 (by simp) _
   have q4:((W1.setCell ⟨w.heap.size+1,x.val,none⟩ (.int .i64 (s / n))).drew).heap[w.heap.size+1+1+1]?=some (.cells #[.int .i64 s] 3 (0,0)):=blk_far g4 (by simp;omega) _
   have qB:KeepB w.heap.size (w.heap.size+1+1+1+1) W1 ((W1.setCell ⟨w.heap.size+1,x.val,none⟩ (.int .i64 (s / n))).drew):=⟨((Below.refl _ _).setCell (p:=⟨w.heap.size+1,x.val,none⟩) (by simp) _).drew,Below.heap_setCell _ _ _ _ (by simp;omega)⟩
   have qF:=(KeepsOthers.setCell W1 ⟨w.heap.size+1,x.val,none⟩ (.int .i64 (s / n))).trans (KeepsOthers.drew _)
   generalize (W1.setCell ⟨w.heap.size+1,x.val,none⟩ (.int .i64 (s / n))).drew=W2 at q1 q2 q3 q4 qB qF ⊢
   have kB2:KeepB w.heap.size (w.heap.size+1+1+1+1) W2 (W2.setCell ⟨w.heap.size+1+1+1,0,none⟩ (.int .i64 (s % n))):=⟨(Below.refl _ _).setCell (p:=⟨w.heap.size+1+1+1,0,none⟩) (by simp;omega) _,Below.heap_setCell _ _ _ _ (by simp)⟩
   rw[HST2.out]
   exact⟨by simp[World.cell?,q1],by simp[World.cell?,q4],by simp[World.frozen?,q4],(kF.trans (qF.from _)).trans ((KeepsOthers.setCell _ _ _).from _),(kB.trans qB).trans kB2,
    ⟨blk_far q1 (by simp;omega) _,blk_far q2 (by simp) _,blk_far q3 (by simp) _,blk_set q4 0 _⟩,hB.trans ((kB.low.trans qB.low).trans kB2.low)⟩
  clear g1 g3 g4 g2
  have HW2:=Lib.hid hW2
  clear hW2
  have hne:¬ n=0:=by omega
  have mixed:Tryz.prog.follows .mixedOrders=true:=by kernel_rfl
  have hq0:0≤s / n:=Int.ediv_nonneg hs0 (by omega)
  have hq1:s / n≤s:=Int.ediv_le_self _ hs0
  have ht1:s.tdiv n=s / n:=Int.tdiv_eq_ediv_of_nonneg hs0
  have ht2:IntKind.i64.wrap (s / n)=s / n:=by rw[IntKind.wrap_i64];omega
  have ht5:0≤s % n:=Int.emod_nonneg _ (by omega)
  have ht6:s % n<n:=Int.emod_lt_of_pos _ (by omega)
  have ht3:s.tmod n=s % n:=Int.tmod_eq_emod_of_nonneg hs0
  have ht4:IntKind.i64.wrap (s % n)=s % n:=by rw[IntKind.wrap_i64];omega
  gi_region_o
  all_goals
   rw[HW2.out]
   gi_wp2
   exact fin
 case done =>
  rintro D ys W hD hys ⟨⟨h1,h2,h3,h4⟩,hB⟩ hK
  gi_wp2
  have hfold:sfold l0 n ys=shortL l0 n:=by unfold sfold shortL;rw[hys]
  have hs2:=sfold_rest (l:=l0) hn0 ys
  have hs1:=sfold_len (l:=l0) (n:=n) ys
  obtain⟨o,r,hor⟩:∃ o r,shortL l0 n=(o,r):=⟨_,_,rfl⟩
  rw[hfold,hor] at h2 h4 hs1 hs2
  dsimp only at h2 h4 hs1 hs2
  have HS1:=Lib.hid hs1
  have HOR:=Lib.hid hor
  clear hfold hor hs1 hys hR hmk hI
  have hD':w.heap.size+1+1+1+1<D:=by simp at hD;omega
  have c6:W.cell? ⟨w.heap.size+1+1,0,none⟩=some (.slice (some ⟨w.heap.size+1,0,none⟩) l0.length l0.length):=by simp[World.cell?,h3]
  have c7:W.cell? ⟨w.heap.size+1+1+1,0,none⟩=some (.int .i64 r):=by simp[World.cell?,h4]
  have hsz:=hB.size
  have hlen:o.length≤9223372036854775807:=by rw[HS1.out];omega
  have hcap:o.length≤l0.length:=by rw[HS1.out];exact nr_ _
  have hlt6:w.heap.size+1+1<W.heap.size:=blk_lt h3
  have hlt7:w.heap.size+1+1+1<W.heap.size:=blk_lt h4
  have c6a:∀ o,(W.drew.alloc o).cell? ⟨w.heap.size+1+1,0,none⟩=some (.slice (some ⟨w.heap.size+1,0,none⟩) l0.length l0.length):=fun o=>(World.cell?_alloc_lt _ _ _ hlt6).trans c6
  have c7a:∀ o,(W.drew.alloc o).cell? ⟨w.heap.size+1+1+1,0,none⟩=some (.int .i64 r):=fun o=>(World.cell?_alloc_lt _ _ _ hlt7).trans c7
  have hr1:((W.alloc (.cells #[.int .i64 r] 3)).drew).heap[W.heap.size]?=some (.cells (rowOf [r]) 3 (0,0)):=Boxed.new W 3 (.int .i64 r)
  clear h1 h3 h4
  have mixed:Tryz.prog.follows .mixedOrders=true:=by kernel_rfl
  have tok1:True:=trivial
  first|gi_region_with_o (refine⟨trivial,?_⟩;gi_at_call 143;first|(have _t:=tok1;clear _t tok1;refine(trim_at _ _ _ o HS1.out.symm hlen hcap _ (fun _=>⟨_,rfl,row_cells (by with_reducible (repeat(first|exact h2|refine Boxed_alloc ?_|refine row_drew ?_|refine row_drewN ?_|refine row_far ?_ (by simp;omega))))⟩)).mono ?_;rintro e w' ⟨rfl,rfl⟩)|(refine(trim_at _ _ _ [r] rfl (by simp) (by simp) _ (fun _=>⟨_,rfl,row_cells hr1⟩)).mono ?_;rintro e w' ⟨rfl,rfl⟩))|fail
  all_goals
   have hKf:((W.alloc (.cells #[.int .i64 r] 3)).drew).heap[D]?=some (.deferred (some [])):=Boxed_alloc hK
   have h2f:((W.alloc (.cells #[.int .i64 r] 3)).drew).heap[w.heap.size+1]?=some (.cells (rowOf o) 3 (0,0)):=Boxed_alloc h2
   have hrf:((W.alloc (.cells #[.int .i64 r] 3)).drew).heap[W.heap.size]?=some (.cells (rowOf [r]) 3 (0,0)):=Boxed.new W 3 (.int .i64 r)
   have hBf:Below w.heap.size w ((W.alloc (.cells #[.int .i64 r] 3)).drew):=(hB.alloc hsz _).drew
   have hDl:D<W.heap.size:=blk_lt hK
   have ht1:(trimL o).length≤o.length:=by
    have h:=congrArg List.length (trimL_prefix o)
    rw[List.length_take] at h
    omega
   have ht2:(trimL [r]).length≤1:=by
    have h:=congrArg List.length (trimL_prefix [r])
    rw[List.length_take] at h
    simp only[List.length_cons,List.length_nil] at h
    omega
   generalize (W.alloc (.cells #[.int .i64 r] 3)).drew=Wf at hKf h2f hrf hBf ⊢
   gi_wp2
   refine⟨by simp,.inl ⟨_,_,rfl,run_takeDeferred hKf,?_⟩⟩
   refine⟨.tuple #[.slice (some ⟨w.heap.size+1,0,none⟩) (trimL o).length l0.length,.slice (some ⟨W.heap.size,0,none⟩) (trimL [r]).length 1],?_,.slice (some ⟨w.heap.size+1,0,none⟩) (trimL o).length l0.length,.slice (some ⟨W.heap.size,0,none⟩) (trimL [r]).length 1,rfl,?_,?_,hBf.trans (belowK_b (w:=w) (nr_ _) _ D _ _ (by omega) hKf rfl rfl)⟩
   ·simp[results,Tryz.f140,go_sem]
   ·rw[HOR.out]
    exact V_of_row (row_put h2f (by omega)) (by omega) (trimL_prefix o) ht1 (Nat.le_trans ht1 hcap) hlen
   ·rw[HOR.out]
    exact V_of_row (row_put hrf (by omega)) (by omega) (trimL_prefix [r]) ht2 ht2 (by simp)
 case stop =>
  rintro D c pre W _ _ h _
  exact h.elim
def nat_short.f (l0:List Int) (a1:Int):Option (List Int×List Int):=if limbsOk l0=true∧l0.length≤17592186044416∧0<a1∧a1≤10000 then some (trimL (shortL l0 a1).1,trimL [(shortL l0 a1).2]) else none
theorem nat_short.calls (A0:Option Addr) (c0:Nat) (l0:List Int) (a1:Int) (r1 r2:List Int) (w:World) (hr0:Kd.C (Kd.int .i64) w A0 l0.length l0) (hc0:l0.length≤c0) (h:nat_short.f l0 a1=some (r1,r2)) :
  Calls Tryz.prog 140 #[.slice A0 l0.length c0,.int .i64 a1] w fun e w'=>∃ v0_ v1_:Value,e=.returned (.tuple #[v0_,v1_])∧Kd.V (Kd.int .i64) 3 w' w.heap.size (fun k_=>(w.heap.size≤k_)) v0_ r1∧Kd.V (Kd.int .i64) 3 w' w.heap.size (fun k_=>(w.heap.size≤k_)) v1_ r2∧Below w.heap.size w w':=by
 unfold nat_short.f at h
 split at h
 ·rename_i hp
  cases h
  exact short_walk A0 c0 l0 a1 hp.2.2.1 hp.2.2.2 hp.2.1 (limbsIn_of_ok hp.1) w (intsAt_of_C hr0)
 ·cases h
end
end Go.Proofs.YtoghmeffpgbcfaaGreatDoor
section
open Go.RowKit Go.Proofs.YtoghmeffpgbcfaaGreatDoorW.PrintWords Go.Proofs.YtoghmeffpgbcfaaGreatDoorW.PrintLast Go.Proofs.YtoghmeffpgbcfaaGreatDoorW.PrintMore Go.Proofs.YtoghmeffpgbcfaaGreatDoor
namespace Go
def Redo (P:Program) (l:Nat) (X:Code) (Q:Exit→Act→World→Prop) (a:Act) (w:World):Prop :=
 ∀ R:Act→World→Prop,(∀ a w,X.wp P (Exit.jump l R Q) a w→R a w)→R a w
theorem Exit.jump_mono {l:Nat} {J J':Act→World→Prop} {Q:Exit→Act→World→Prop} (h:∀ a w,J a w→J' a w):∀ e a w,Exit.jump l J Q e a w→Exit.jump l J' Q e a w:=by
 intro e a w hq
 cases e <;> first|exact hq|exact⟨hq.1,h _ _ hq.2⟩
theorem Redo.fold {P:Program} {l:Nat} {X:Code} {Q:Exit→Act→World→Prop} {a:Act} {w:World} (h:X.wp P (Exit.jump l (Redo P l X Q) Q) a w):Redo P l X Q a w :=
 fun R hR=>hR a w (Code.wp_mono (Exit.jump_mono fun a w hr=>hr R hR) h)
theorem wp_scope_redo {P:Program} {a:Act} {w:World} {Q:Exit→Act→World→Prop} {c rest:Code} (l:Nat) (hf:findLabel c l=some rest)
  (first:c.wp P (Exit.jump l (Redo P l rest Q) Q) a w):(Code.scope c).wp P Q a w:=by
 intro b k cs
 have hg:gotoIn l (.inScope c :: k)=some (.code rest :: .inScope c :: k):=by simp[gotoIn,hf]
 have out:∀ (s:Machine) (J:Act→World→Prop),(∀ a' w',J a' w'→∃ e a'' w'',Q e a'' w''∧Arrives P (lone (b.at a' (.code rest :: .inScope c :: k)) cs w') b k cs e a'' w'') →
   ∀ e a₁ w₁,Exit.jump l J Q e a₁ w₁→Arrives P s b (.inScope c :: k) cs e a₁ w₁→∃ e a'' w'',Q e a'' w''∧Arrives P s b k cs e a'' w'':=by
  intro s J hJ e a₁ w₁ hq harr
  cases e with
  | normal=>exact⟨.normal,a₁,w₁,hq,Steps.trans harr (.one step_inScope)⟩
  | exit id=>exact⟨.exit id,a₁,w₁,hq,fun k' hk=>harr k' (by simp[exitTo,hk])⟩
  | goto l' =>
   obtain⟨rfl,hr⟩:=hq
   obtain⟨e₂,a₂,w₂,hq₂,harr₂⟩:=hJ a₁ w₁ hr
   exact⟨e₂,a₂,w₂,hq₂,.of_steps (harr _ hg) harr₂⟩
  | ret=>exact⟨_,a₁,w₁,hq,harr⟩
  | panic ch=>exact⟨_,a₁,w₁,hq,harr⟩
  | outgrown=>exact⟨_,a₁,w₁,hq,harr⟩
 obtain⟨e,a₁,w₁,hq,harr⟩:=first b (.inScope c :: k) cs
 obtain⟨e₂,a₂,w₂,hq₂,harr₂⟩:=out _ (Redo P l rest Q) (fun a' w' hr=>hr (fun a' w'=>∃ e a'' w'',Q e a'' w''∧Arrives P (lone (b.at a' (.code rest :: .inScope c :: k)) cs w') b k cs e a'' w'')
  (fun a₂ w₂ hx=>by
   obtain⟨e,a₃,w₃,hq,harr⟩:=hx b (.inScope c :: k) cs
   exact out _ _ (fun a' w' h=>h) e a₃ w₃ hq harr)) e a₁ w₁ hq harr
 exact⟨e₂,a₂,w₂,hq₂,.of_steps (.one step_scope) harr₂⟩
def Exit.only (l:Nat) (K:Act→World→Prop):Exit→Act→World→Prop
 | .goto l',a,w=>l'=l∧K a w
 | _,_,_=>False
theorem Exit.only_intro {l:Nat} {K:Act→World→Prop} {a:Act} {w:World} (h:K a w):Exit.only l K (.goto l) a w:=⟨rfl,h⟩
theorem wp_label_ghost_k {P:Program} {Q:Exit→Act→World→Prop} {a:Act} {w:World} {X:Code} {l:Nat} (I:Nat→Act→World→Prop) (n₀:Nat) (h₀:I n₀ a w)
  (round:∀ n a w,I n a w→∀ (J:Nat→Act→World→Prop) (K G:Act→World→Prop),(∀ k a' w',I k a' w'→J k a' w')→(∀ a' w',Q .normal a' w'→K a' w')→(∀ a' w',Handed J n a' w'→G a' w')→X.wp P (Exit.then K (Exit.only l G)) a w) :
  X.wp P (Exit.jump l (Redo P l (Code.skip.seq X) Q) Q) a w:=by
 induction n₀ using Nat.strongRecOn generalizing a w with
 | _ n ih =>
  refine Code.wp_mono ?_ (round n a w h₀ I (Q .normal) (Handed I n) (fun _ _ _ q=>q) (fun _ _ q=>q) (fun _ _ q=>q))
  intro e a' w' hq
  cases e with
  | goto l' =>
   obtain⟨rfl,k,hk,hI⟩:=hq
   exact⟨rfl,Redo.fold (wp_seq_k fun K hK=>wp_skip (hK _ _ (ih k hk hI)))⟩
  | normal=>exact hq
  | exit id=>exact hq.elim
  | ret=>exact hq.elim
  | panic ch=>exact hq.elim
  | outgrown=>exact hq.elim
theorem Exit.jump_in {l:Nat} {J:Act→World→Prop} {Q:Exit→Act→World→Prop} {a:Act} {w:World} (h:J a w):Exit.jump l J Q (.goto l) a w:=⟨rfl,h⟩
theorem wp_label_ghost_r {P:Program} {Q:Exit→Act→World→Prop} {a:Act} {w:World} {X:Code} {l:Nat} (I:Nat→Act→World→Prop) (n₀:Nat) (h₀:I n₀ a w)
  (round:∀ n a w,I n a w→∀ (J:Nat→Act→World→Prop) (K G:Act→World→Prop),(∀ k a' w',I k a' w'→J k a' w')→(∀ a' w',Q .normal a' w'→K a' w')→(∀ a' w',Handed J n a' w'→G a' w')→X.wp P (Exit.then K (Exit.jump l G Q)) a w) :
  X.wp P (Exit.jump l (Redo P l (Code.skip.seq X) Q) Q) a w:=by
 induction n₀ using Nat.strongRecOn generalizing a w with
 | _ n ih =>
  refine Code.wp_mono ?_ (round n a w h₀ I (Q .normal) (Handed I n) (fun _ _ _ q=>q) (fun _ _ q=>q) (fun _ _ q=>q))
  intro e a' w' hq
  cases e with
  | goto l' =>
   obtain⟨rfl,k,hk,hI⟩:=hq
   exact⟨rfl,Redo.fold (wp_seq_k fun K hK=>wp_skip (hK _ _ (ih k hk hI)))⟩
  | normal=>exact hq
  | exit id=>exact hq
  | ret=>exact hq
  | panic ch=>exact hq
  | outgrown=>exact hq
end Go
end
namespace Go.Proofs.YtoghmeffpgbcfaaGreatDoor
open Go.RowKit Go.Proofs.YtoghmeffpgbcfaaGreatDoorW.PrintWords Go.Proofs.YtoghmeffpgbcfaaGreatDoorW.PrintLast Go.Proofs.YtoghmeffpgbcfaaGreatDoorW.PrintMore
theorem b_ {P Q:Prop} (h:Q) (t:Q→P:=by intro HB_;repeat(first|(with_reducible first|exact HB_|apply below_alloc|apply pw_below_drewN|apply below_drew1|refine below_set ?_ (Aside0.out (by with_reducible assumption)))|exact HB_)):P:=t h
theorem k_ {P Q:Prop} (h:Q) (t:Q→P:=by intro h_;(with_reducible repeat(first|refine blk_drewN ?_ _|refine blk_drew ?_|refine blk_alloc ?_ _));exact h_):P:=t h
theorem kb_ {w1 w2 w3:World} {g:Nat} {o:Obj} (h:Aside0 (w1.heap[g]?=some o)) (hb:Below w2.heap.size w2 w3) (t:w1.heap[g]?=some o→w2.heap[g]?=some o:=by intro h_;(with_reducible repeat(first|refine blk_drewN ?_ _|refine blk_drew ?_|refine blk_alloc ?_ _));exact h_):Aside0 (w3.heap[g]?=some o) :=
 ⟨blk_below (t h.out) hb⟩
theorem bs_ {w w1 w2 w3:World} (h:Aside0 (Below w.heap.size w w1)) (hb:Below w2.heap.size w2 w3) (t:Below w.heap.size w w1→Below w.heap.size w w2:=by intro HB_;repeat(first|(with_reducible first|exact HB_|apply below_alloc|apply pw_below_drewN|apply below_drew1|refine below_set ?_ (Aside0.out (by with_reducible assumption)))|exact HB_)):Aside0 (Below w.heap.size w w3) :=
 ⟨below_step (t h.out) hb⟩
theorem ge_ {w w1 w2:World} {g:Nat} (h:Aside0 (Below w.heap.size w w1)) (hg:g=w2.heap.size) (t:Below w.heap.size w w1→Below w.heap.size w w2:=by intro HB_;repeat(first|(with_reducible first|exact HB_|apply below_alloc|apply pw_below_drewN|apply below_drew1|refine below_set ?_ (Aside0.out (by with_reducible assumption)))|exact HB_)):Aside0 (w.heap.size≤g) :=
 ⟨by rw[hg];exact below_size (t h.out)⟩
theorem nl_ {w1 w2:World} {g g':Nat} {o:Obj} (h:Aside0 (w1.heap[g]?=some o)) (hg:g'=w2.heap.size) (t:w1.heap[g]?=some o→w2.heap[g]?=some o:=by intro h_;(with_reducible repeat(first|refine blk_drewN ?_ _|refine blk_drew ?_|refine blk_alloc ?_ _));exact h_):Aside0 (g≠g') :=
 ⟨by rw[hg];exact Nat.ne_of_lt (blk_lt (t h.out))⟩
theorem ng_ {w1 w2:World} {g g':Nat} {o:Obj} (h:Aside0 (w1.heap[g]?=some o)) (hg:g'=w2.heap.size) (t:w1.heap[g]?=some o→w2.heap[g]?=some o:=by intro h_;(with_reducible repeat(first|refine blk_drewN ?_ _|refine blk_drew ?_|refine blk_alloc ?_ _));exact h_):Aside0 (g'≠g) :=
 ⟨by rw[hg];exact Nat.ne_of_gt (blk_lt (t h.out))⟩
theorem v_ {P Q:Prop} (h:Q) (t:Q→P:=by intro h_;(with_reducible repeat(first|apply Kd.V_alloc|apply Kd.V_drewN|apply Kd.V_drew));exact h_):P:=t h
theorem w_ {P Q:Prop} (h:Q) (t:Q→P:=by intro h_;(with_reducible repeat(first|apply Kd.R_alloc|apply Kd.R_drewN|apply Kd.R_drew));exact h_):P:=t h
theorem kt_ {P Q:Prop} (h:Q) (t:Q→P:=by intro h_;repeat(first|(with_reducible first|exact h_|apply Kept.alloc|apply Kept.drewN|apply Kept.drew)|exact h_)):P:=t h
theorem bc_ {w:World} {g:Nat} {t:TypeId} {cs:Array Value} {v:Value} (h:Aside0 (w.heap[g]?=some (.cells cs t (0,0)))) (i:Nat) (e:cs[i]?=some v):w.cell? ⟨g,i,none⟩=some v:=(blk_cell h.out i).trans e
theorem rp_ {P Q:Prop} (h:Q) (t:Q→P:=by intro h_;(repeat(first|exact h_|(with_reducible refine blk_drewN ?_ _)|(with_reducible refine blk_drew ?_)|(with_reducible refine blk_alloc ?_ _)|apply blk_put));(all_goals rfl)):P:=t h
theorem fr_ {P Q:Prop} (h:Q) (t:Q→P:=by intro h_;repeat(first|exact h_|(with_reducible refine blk_drewN ?_ _)|(with_reducible refine blk_drew ?_)|(with_reducible refine blk_alloc ?_ _)|refine blk_far ?_ (Aside0.out (by with_reducible assumption)) _)):P:=t h
theorem cs2_ {w:World} {g:Nat} {t:TypeId} {v0 v1:Value} (h:Aside0 (w.heap[g]?=some (.cells #[v0,v1] t (0,0)))):(∀ i,w.frozen? ⟨g,i,none⟩=false)∧w.cell? ⟨g,0,none⟩=some v0∧w.cell? ⟨g,1,none⟩=some v1 :=
 ⟨blk_frozen h.out,bc_ h 0 rfl,bc_ h 1 rfl⟩
theorem cs4_ {w:World} {g:Nat} {t:TypeId} {v0 v1 v2 v3:Value} (h:Aside0 (w.heap[g]?=some (.cells #[v0,v1,v2,v3] t (0,0)))):(∀ i,w.frozen? ⟨g,i,none⟩=false)∧w.cell? ⟨g,0,none⟩=some v0∧w.cell? ⟨g,1,none⟩=some v1∧w.cell? ⟨g,2,none⟩=some v2∧w.cell? ⟨g,3,none⟩=some v3 :=
 ⟨blk_frozen h.out,bc_ h 0 rfl,bc_ h 1 rfl,bc_ h 2 rfl,bc_ h 3 rfl⟩
theorem cs11_ {w:World} {g:Nat} {t:TypeId} {v0 v1 v2 v3 v4 v5 v6 v7 v8 v9 v10:Value} (h:Aside0 (w.heap[g]?=some (.cells #[v0,v1,v2,v3,v4,v5,v6,v7,v8,v9,v10] t (0,0)))):(∀ i,w.frozen? ⟨g,i,none⟩=false)∧w.cell? ⟨g,0,none⟩=some v0∧w.cell? ⟨g,1,none⟩=some v1∧w.cell? ⟨g,2,none⟩=some v2∧w.cell? ⟨g,3,none⟩=some v3∧w.cell? ⟨g,4,none⟩=some v4∧w.cell? ⟨g,5,none⟩=some v5∧w.cell? ⟨g,6,none⟩=some v6∧w.cell? ⟨g,7,none⟩=some v7∧w.cell? ⟨g,8,none⟩=some v8∧w.cell? ⟨g,9,none⟩=some v9∧w.cell? ⟨g,10,none⟩=some v10 :=
 ⟨blk_frozen h.out,bc_ h 0 rfl,bc_ h 1 rfl,bc_ h 2 rfl,bc_ h 3 rfl,bc_ h 4 rfl,bc_ h 5 rfl,bc_ h 6 rfl,bc_ h 7 rfl,bc_ h 8 rfl,bc_ h 9 rfl,bc_ h 10 rfl⟩
theorem bt_ {α:Type} {c:Bool} {x y:Option α} {r:α} (h:(if c=true then x else y)=some r):(c=true∧x=some r)∨(c=false∧y=some r):=by cases c <;> simp_all
theorem bw_ {α:Type} {c:Prop} [Decidable c] {x y:Option α} {r:α} (h:(if c then x else y)=some r):(c∧x=some r)∨(¬ c∧y=some r):=by split at h <;> simp_all
theorem bx_ {α:Type} {c:Prop} [Decidable c] {x y:Option α} {r:α} (h:(if c then x else y)=some r) (n:y=some r→False:=by(intro h_;exact absurd h_ (by simp))):c∧x=some r:=by
 split at h
 ·exact⟨by assumption,h⟩
 ·exact(n h).elim
theorem by_ {α:Type} {c:Prop} [Decidable c] {x y:Option α} {r:α} (h:(if c then x else y)=some r) (n:x=some r→False:=by(intro h_;exact absurd h_ (by simp))):¬ c∧y=some r:=by
 split at h
 ·exact(n h).elim
 ·exact⟨by assumption,h⟩
theorem dt_ {p:Prop} [Decidable p] (h:p):decide p=true:=decide_eq_true h
theorem df_ {p:Prop} [Decidable p] (h:¬ p):decide p=false:=decide_eq_false h
theorem bi_ {α β:Type} {x:Option α} {f:α→Option β} {b:β} (h:x.bind f=some b):∃ a,Aside0 (x=some a)∧f a=some b:=(Option.bind_eq_some_iff.mp h).imp fun _ h=>⟨⟨h.1⟩,h.2⟩
theorem c_ {P Q:Prop} (h:Q) (t:Q→P:=by intro h_;repeat(first|exact h_|(with_reducible refine Kd.C_alloc ?_ _)|(with_reducible refine Kd.C_drewN ?_ _)|(with_reducible refine Kd.C_drew ?_))):P:=t h
theorem ap_ {P:Prop} (t:P:=by simp only[Act.put,List.setIfInBounds_toArray,List.set_cons_zero,List.set_cons_succ,i64_w,i32_w];rfl):P:=t
theorem er_ {P:Prop} (t:P:=by first|rfl|(simp[*] <;> rfl)):P:=t
theorem nk_ {P:Prop} (t:P:=by first|omega|exact nr_ _):P:=t
theorem dd_ {P:Prop} (t:P:=by first|exact⟨rfl,_,World.drewN_drewN _ _ _⟩|exact⟨rfl,_,Eq.trans (World.drewN_drewN _ _ _) (congrArg (World.drewN _) (Nat.add_assoc _ _ _))⟩):P:=t
theorem hr_ {α:Type} {a b:α} {P Q:Prop} (hy:a=b) (h:Q) (t:a=b→Q→P:=by intro hy_ H_;first|(rw[hy_];with_reducible exact H_)|(have H2_:=(ob_ _ _).symm.trans H_;rw[hy_];with_reducible exact H2_)|(have H2_:=(ob_ _ _).symm.trans H_;with_reducible exact H2_)|with_reducible exact H_|(rw[hy_];exact H_)|exact H_):P:=t hy h
theorem oi_ {α:Type} {a b:α} (h:some a=some b):a=b:=Option.some.inj h
theorem pi2_ {α β:Type} {a c:α} {b d:β} (h:some (a,b)=some (c,d)):a=c∧b=d:=Prod.mk.inj (Option.some.inj h)
theorem pi3_ {α β γ:Type} {a d:α} {b e:β} {c f:γ} (h:some (a,b,c)=some (d,e,f)):a=d∧b=e∧c=f:=by cases h;exact⟨rfl,rfl,rfl⟩
theorem as_f {P:Prop} (t:P:=by first|(with_reducible assumption)|assumption):P:=t
theorem pa_ {P:Prop} (t:P:=by first|(simp only[putAll,Act.put,List.setIfInBounds_toArray,List.set_cons_zero,List.set_cons_succ];done)|(simp only[putAll,Act.put,List.setIfInBounds_toArray,List.set_cons_zero,List.set_cons_succ];rfl)):P:=t
theorem rl_ {P:Prop} (t:P:=by first|rfl|(simp;done)|(simp[*];done)):P:=t
theorem d0_ {P:Prop} (t:P:=by repeat(first|exact Drawn0.refl _|apply Drawn0.step)):P:=t
section
variable {P:Program} {ops:Array Oper} {Q:Exit→Act→World→Prop} {md:Region.Mode} {S:World→Prop} {ds:List Nat}
theorem pu_ {oi:Oper} {v:Value} {fuel:Nat} {l l':Array Bool} {a a':Act} {w:World} {T:Bool×List (List Nat×List Nat)} (i N:Nat) (hi:ops[i]?=some oi) (hN:oi.dst=some N) (hT:Aside0 (rtab md ops=T))
  (h:wpAnyLast P md ops Q S ds fuel l' a' w) (hl:l.setIfInBounds i true=l':=by simp only[List.setIfInBounds_toArray,List.set_cons_zero,List.set_cons_succ];rfl) (hc:anyT T l.toList l'.toList i=true:=by kernel_rfl) (hQ:∀ c a w,Q (.panic c) (a.put oi.dst v) w→Q (.panic c) a w:=by exact fun _ _ _ h=>h)
  (hw:Region.wanted oi (yielded ops a.tmps)=true:=by rfl) (hv:∀ w,(execOp a.eval oi).run P w=.ok (.value v) w:=by(intro w';go_simp;with_reducible rfl)) (ha:a.put (some N) v=a':=by simp only[Act.put,List.setIfInBounds_toArray,List.set_cons_zero,List.set_cons_succ,i64_w,i32_w];rfl):wpAnyLast P md ops Q S ds (fuel+1) l a w :=
 pure_ l' hi hN (any_of hT.out hc) hQ (Or.inl ⟨hw,hv⟩) ha h
theorem pv_ {oi:Oper} {fuel:Nat} {l l':Array Bool} {a a':Act} {w:World} {T:Bool×List (List Nat×List Nat)} (i N:Nat) (hi:ops[i]?=some oi) (hN:oi.dst=some N) (hT:Aside0 (rtab md ops=T))
  (h:wpAnyLast P md ops Q S ds fuel l' a' w) (hl:l.setIfInBounds i true=l':=by simp only[List.setIfInBounds_toArray,List.set_cons_zero,List.set_cons_succ];rfl) (hc:anyT T l.toList l'.toList i=true:=by kernel_rfl) (hQ:∀ c a w,Q (.panic c) (a.put oi.dst undef) w→Q (.panic c) a w:=by exact fun _ _ _ h=>h)
  (hw:Region.wanted oi (yielded ops a.tmps)=false:=by rfl) (ha:a.put (some N) undef=a':=by simp only[Act.put,List.setIfInBounds_toArray,List.set_cons_zero,List.set_cons_succ,i64_w,i32_w];rfl):wpAnyLast P md ops Q S ds (fuel+1) l a w :=
 pure_ l' hi hN (any_of hT.out hc) hQ (Or.inr ⟨hw,rfl⟩) ha h
theorem on_ {oi:Oper} {fuel:Nat} {l l':Array Bool} {a:Act} {w:World} {T:Bool×List (List Nat×List Nat)} (i:Nat) (N:Option Tmp) (hi:ops[i]?=some oi) (hN:oi.dst=N) (hT:Aside0 (rtab md ops=T))
  (h:∀ K:Act→World→Prop,Shut (∀ a' w',S w'→(S w'→wpAnyLast P md ops Q S ds fuel l' a' w')→K a' w')→if Region.wanted oi (yielded ops a.tmps)=true then Oper.wp P oi a w K Q else K (a.put N undef) w)
  (hl:l.setIfInBounds i true=l':=by simp only[List.setIfInBounds_toArray,List.set_cons_zero,List.set_cons_succ];rfl) (hc:(readyT T.2 l.toList == [i]&&l.toList.set i true == l'.toList)=true:=by kernel_rfl) (hd:i∉ds:=by decide):wpAnyLast P md ops Q S ds (fuel+1) l a w :=
 one_ l' hi hN (one_of hT.out hc) hd h
theorem nm_ {fuel:Nat} {l:Array Bool} {a a':Act} {w:World} (h:wpAnyLast P md ops Q S ds fuel l a' w) (ha:a=a':=by simp only[Act.put,List.setIfInBounds_toArray,List.set_cons_zero,List.set_cons_succ,i64_w,i32_w];rfl):wpAnyLast P md ops Q S ds fuel l a w:=norm_ ha h
theorem gs_ {oi:Oper} {N:Option Tmp} {a:Act} {w:World} {K:Act→World→Prop} {f:FuncId} {fn:Func} {xs_:Array Operand} {ts:Array TypeId} (hf:P.funcs[f]?=some fn) (args:Array Value)
  (h:Calls P f args w fun e w'=>∃ v,e=.returned v∧K (a.put N v) w') (hname:(fn.name == "runtime.NumGoroutine")=false:=by kernel_rfl) (hb:fn.body.isSome=true:=by rfl) (hw:Region.wanted oi (yielded ops a.tmps)=true:=by rfl) (hN:oi.dst=N:=by rfl)
  (hop:oi.op=.call { callee:=.value (.func f),args:=xs_,argTypes:=ts }:=by rfl) (hargs:xs_.map a.eval=args:=by(try simp only[List.map_toArray,List.map_cons,List.map_nil]);first|done|rfl|(simp only[List.length_drop,List.length_take];rfl)) :
  if Region.wanted oi (yielded ops a.tmps)=true then Oper.wp P oi a w K Q else K (a.put N undef) w:=goes_ hf hname hb args hw hN hop hargs h
theorem gl_ {rest:List Oper} {oi:Oper} {a:Act} {w:World} (N:Tmp) {f:FuncId} {fn:Func} {xs_:Array Operand} {ts:Array TypeId} (hf:P.funcs[f]?=some fn) (args:Array Value)
  (h:Calls P f args w fun e w'=>∃ v,e=.returned v∧wpList P ops Q rest (a.put (some N) v) w') (hd:oi.dst=some N:=by rfl) (hg:oi.guard=none:=by rfl) (hname:(fn.name == "runtime.NumGoroutine")=false:=by kernel_rfl) (hb:fn.body.isSome=true:=by rfl)
  (hop:oi.op=.call { callee:=.value (.func f),args:=xs_,argTypes:=ts }:=by rfl) (hargs:xs_.map a.eval=args:=by(try simp only[List.map_toArray,List.map_cons,List.map_nil]);first|done|rfl|(simp only[List.length_drop,List.length_take];rfl)) :
  wpList P ops Q (oi :: rest) a w:=goesL_ (some N) hd hg hf hname hb args hop hargs h
theorem gm_ {rest:List Oper} {oi:Oper} {a:Act} {w:World} (N:Tmp) {f:FuncId} {fn:Func} {xs_:Array Operand} {ts:Array TypeId} {args:Array Value} {v:Value} {R:World→Prop} (hf:P.funcs[f]?=some fn)
  (hc:Calls P f args w fun e w'=>e=.returned v∧R w') (k:∀ w',R w'→wpList P ops Q rest (a.put (some N) v) w') (hd:oi.dst=some N:=by rfl) (hg:oi.guard=none:=by rfl) (hname:(fn.name == "runtime.NumGoroutine")=false:=by kernel_rfl) (hb:fn.body.isSome=true:=by rfl)
  (hop:oi.op=.call { callee:=.value (.func f),args:=xs_,argTypes:=ts }:=by rfl) (hargs:xs_.map a.eval=args:=by(try simp only[List.map_toArray,List.map_cons,List.map_nil]);first|done|rfl|(simp only[List.length_drop,List.length_take];rfl)) :
  wpList P ops Q (oi :: rest) a w:=gl_ N hf args (hc.mono fun _ w' ⟨he,hr⟩=>⟨v,he,k w' hr⟩) hd hg hname hb hop hargs
theorem be_ {rest:List Oper} {o:Oper} {a:Act} {W:World} (N:Tmp) (cs:Array Value) (t:TypeId)
  (h:∀ g,g=W.heap.size→∀ w1,w1.heap[g]?=some (.cells cs t (0,0))→Below W.heap.size W w1→wpList P ops Q rest (a.put o.dst (.pointer (some ⟨g,0,none⟩))) w1)
  (hgd:o.guard=none:=by rfl) (hd:o.dst=some N:=by rfl) (hrun:(execOp a.eval o).run P W=.ok (.value (.pointer (some ⟨W.heap.size,0,none⟩))) (W.alloc (.cells cs t (0,0))):=by first|(go_simp;done)|(go_simp;rfl)):wpList P ops Q (o :: rest) a W :=
 box_event hgd hd hrun h
theorem bf_ {rest:List Oper} {o:Oper} {a:Act} {w W0 W:World} (N:Tmp) (cs:Array Value) (t:TypeId) (HB:Aside0 (Below w.heap.size w W0))
  (h:∀ g w1,Aside0 (w1.heap[g]?=some (.cells cs t (0,0)))→Aside0 (w.heap.size≤g)→Aside0 (Below w.heap.size w w1)→wpList P ops Q rest (a.put o.dst (.pointer (some ⟨g,0,none⟩))) w1)
  (hgd:o.guard=none:=by rfl) (hd:o.dst=some N:=by rfl) (hrun:(execOp a.eval o).run P W=.ok (.value (.pointer (some ⟨W.heap.size,0,none⟩))) (W.alloc (.cells cs t (0,0))):=by first|(go_simp;done)|(go_simp;rfl))
  (tt:Below w.heap.size w W0→Below w.heap.size w W:=by intro HB_;repeat(first|(with_reducible first|exact HB_|apply below_alloc|apply pw_below_drewN|apply below_drew1|refine below_set ?_ (Aside0.out (by with_reducible assumption)))|exact HB_)):wpList P ops Q (o :: rest) a W :=
 be_ N cs t (fun g hg w1 hbox hb=>h g w1 ⟨hbox⟩ (ge_ HB hg tt) (bs_ HB hb tt)) hgd hd hrun
theorem bg_ {rest:List Oper} {o:Oper} {a:Act} {w W0 W:World} (N:Tmp) (cs:Array Value) (t:TypeId) (HB:Aside0 (Below w.heap.size w W0))
  (h:∀ g w1,g=W.heap.size→Below W.heap.size W w1→Aside0 (w1.heap[g]?=some (.cells cs t (0,0)))→Aside0 (w.heap.size≤g)→Aside0 (Below w.heap.size w w1)→wpList P ops Q rest (a.put o.dst (.pointer (some ⟨g,0,none⟩))) w1)
  (hgd:o.guard=none:=by rfl) (hd:o.dst=some N:=by rfl) (hrun:(execOp a.eval o).run P W=.ok (.value (.pointer (some ⟨W.heap.size,0,none⟩))) (W.alloc (.cells cs t (0,0))):=by first|(go_simp;done)|(go_simp;rfl))
  (tt:Below w.heap.size w W0→Below w.heap.size w W:=by intro HB_;repeat(first|(with_reducible first|exact HB_|apply below_alloc|apply pw_below_drewN|apply below_drew1|refine below_set ?_ (Aside0.out (by with_reducible assumption)))|exact HB_)):wpList P ops Q (o :: rest) a W :=
 be_ N cs t (fun g hg w1 hbox hb=>h g w1 hg hb ⟨hbox⟩ (ge_ HB hg tt) (bs_ HB hb tt)) hgd hd hrun
theorem hf_ {a':Act} {w':World} {K:Act→World→Prop} {fuel:Nat} {l:Array Bool} {Z:Prop} (hK:Shut (∀ a' w',S w'→(S w'→wpAnyLast P md ops Q S ds fuel l a' w')→K a' w')) (hh:Z) (h:S w'→wpAnyLast P md ops Q S ds fuel l a' w')
  (hS:Z→S w':=by(intro hh_;(try dsimp only);(repeat' apply And.intro) <;> (repeat(first|(with_reducible first|exact hh_|exact hh_.1|exact hh_.2|exact hh_.2.1|exact hh_.2.2|exact hh_.2.2.1|exact hh_.2.2.2|exact hh_.2.2.2.1|exact hh_.2.2.2.2|exact hh_.2.2.2.2.1|exact hh_.2.2.2.2.2|exact hh_.2.2.2.2.2.1|exact hh_.2.2.2.2.2.2)|refine(cell_far (Aside0.out (by with_reducible assumption)) _).trans ?_)))):K a' w':=hK.out _ _ (hS hh) h
theorem sa_ {id:Nat} {a:Act} {w:World} {l:Array Bool} (n:Nat) (S:World→Prop) (h:S w.drew→wpAnyLast P .any ops Q S [] n l a w.drew) (hS:S w.drew:=by(try dsimp only);(repeat' apply And.intro) <;> exact(blk_cell (Aside0.out (by with_reducible assumption)) _).trans rfl)
  (hm:P.follows .mixedOrders=true:=by kernel_rfl) (hn:ops.size=n:=by rfl) (hl:Array.replicate n false=l:=by simp only[Array.replicate,List.replicate];rfl):(Code.region id ops true).wp P Q a w:=start_ l hm hn hl hS h
theorem mo_ {f:FuncId} {args:Array Value} {w:World} {v:Value} {R:World→Prop} {K:Value→World→Prop} (hc:Calls P f args w fun e w'=>e=.returned v∧R w') (k:∀ w',R w'→K v w'):Calls P f args w fun e w'=>∃ v,e=.returned v∧K v w' :=
 hc.mono fun _ w' ⟨he,hr⟩=>⟨v,he,k w' hr⟩
theorem hk_ {a':Act} {w':World} {K:Act→World→Prop} {fuel:Nat} {l:Array Bool} (hK:Shut (∀ a' w',S w'→(S w'→wpAnyLast P md ops Q S ds fuel l a' w')→K a' w')) (h:S w'→wpAnyLast P md ops Q S ds fuel l a' w')
  (hS:S w':=by(try dsimp only);(repeat' apply And.intro) <;> exact(blk_cell (Aside0.out (by with_reducible assumption)) _).trans rfl):K a' w':=hK.out _ _ hS h
theorem t_ {oi:Oper} {v:Value} {fuel:Nat} {l l':Array Bool} {a a':Act} {w:World} {T:Bool×List (List Nat×List Nat)} {B:List Nat} (i N:Nat) (hi:ops[i]?=some oi) (hN:oi.dst=some N) (hT:Aside0 (rtab md ops=T)) (hB:Aside0 (waitsOk T.2 B=true)) (hS:S w)
  (h:wpAnyLast P md ops Q S ds fuel l' a' w) (hl:l.setIfInBounds i true=l':=by simp only[List.setIfInBounds_toArray,List.set_cons_zero,List.set_cons_succ];rfl) (hc:takeW T B ds l.toList l'.toList i=true:=by kernel_rfl) (hQ:∀ c a w,Q (.panic c) (a.put oi.dst v) w→Q (.panic c) a w:=by exact fun _ _ _ h=>h)
  (hw:Region.wanted oi (yielded ops a.tmps)=true:=by rfl) (hv:∀ w',S w'→(execOp a.eval oi).run P w'=.ok (.value v) w':=by(intro w' h_;(repeat(obtain⟨_,h_⟩:_∧_:=h_));go_simp;with_reducible rfl)) (ha:a.put (some N) v=a':=by simp only[Act.put,List.setIfInBounds_toArray,List.set_cons_zero,List.set_cons_succ,i64_w,i32_w];rfl):wpAnyLast P md ops Q S ds (fuel+1) l a w :=
 take_ l' hi hN (take_ofW hT.out hB.out hc) hQ (Or.inl ⟨hw,hv⟩) hS ha h
end
def strconv_Atoi.f (a0:ByteArray):Option (Int×Option Int):=if a0.size≤9223372036854775806 then (match Lib.atoiAll a0.data.toList with|.ok v=>some (v,none)|_=>none) else none
theorem strconv_Atoi.calls (a0:ByteArray) (r1:Int) (r2:Option Int) (w:World) (h:strconv_Atoi.f a0=some (r1,r2)) :
  Calls Tryz.prog 80 #[.string a0] w fun e w'=>e=.returned (.tuple #[.int .i64 r1,.nilIface])∧Below w.heap.size w w':=by
 unfold strconv_Atoi.f at h
 split at h
 ·rename_i hs
  split at h
  ·rename_i v hv
   cases h
   refine(Tryz.strconv_Atoi_ok a0 hs r1 hv w).mono ?_
   rintro e w' ⟨rfl,h⟩
   refine⟨rfl,?_⟩
   rcases h with rfl|⟨t,rfl⟩
   ·exact Below.refl _ _
   ·exact bytes_below (Below.refl _ _) (nr_ _) _ _
  ·cases h
 ·cases h
attribute [local go_sem] max2_int min2_int max_two min_two max_three min_three max_four min_four
namespace Pn
def errW:Option Int→Value
 | none=>.nilIface
 | some c=>.iface 0 (.int .i64 c)
theorem errW_none:errW none=.nilIface:=rfl
theorem errW_some (c:Int):errW (some c)=.iface 0 (.int .i64 c):=rfl
theorem info3:(Tryz.prog.info? 3).map (fun i=>(i.zero,i.size,i.bytes))=some (some (.int .i64 0),1,8):=by kernel_rfl
def nat_limbs_trim.l0:Nat→List Int→Option (List Int)
 | 0,_=>none
 | k+1,x0=>if (x0.length:Int)>0 then (if 0≤(wrap64 ((x0.length:Int)-1)) then (if (wrap64 ((x0.length:Int)-1))<(x0.length:Int) then (if (rd x0 (wrap64 ((x0.length:Int)-1)))=0 then (if (wrap64 ((x0.length:Int)-1))≤(x0.length:Int) then (nat_limbs_trim.l0 k (x0.take ((wrap64 ((x0.length:Int)-1)):Int).toNat)) else (none)) else (some x0)) else (none)) else (none)) else (some x0)
def nat_limbs_trim.f (k:Nat) (l0:List Int):Option (List Int):=nat_limbs_trim.l0 k l0
theorem nat_limbs_trim.mono_l:∀ k,(∀ y0,LeO (nat_limbs_trim.l0 k y0) (nat_limbs_trim.l0 (k+1) y0))
 | 0=>fun _ r h=>by simp[nat_limbs_trim.l0] at h
 | k+1=>by
  have ih0:=nat_limbs_trim.mono_l k
  ·intro y0;unfold nat_limbs_trim.l0
   repeat' first
   | (with_reducible exact ih0 _)
   | (with_reducible exact LeO.refl _)
   | (with_reducible exact LeO.none _)
   | (with_reducible refine LeO.ite ?_ ?_)
   | (with_reducible refine LeO.bind ?_ (fun _=>?_))
   | exact ih0 _
   | exact LeO.none _
   | refine LeO.ite ?_ ?_
   | refine LeO.bind ?_ (fun _=>?_)
theorem nat_limbs_trim.mono:∀ a0 k,LeO (nat_limbs_trim.f k a0) (nat_limbs_trim.f (k+1) a0):=by
 intro a0 k;have ih0:=nat_limbs_trim.mono_l k;unfold nat_limbs_trim.f
 repeat' first
   | (with_reducible exact ih0 _)
   | (with_reducible exact LeO.refl _)
   | (with_reducible exact LeO.none _)
   | (with_reducible refine LeO.ite ?_ ?_)
   | (with_reducible refine LeO.bind ?_ (fun _=>?_))
   | exact ih0 _
   | exact LeO.none _
   | refine LeO.ite ?_ ?_
   | refine LeO.bind ?_ (fun _=>?_)
theorem nat_limbs_trim.calls (k:Nat) (P0_:Nat→Prop) (A0:Option Addr) (c0:Nat) (l0 r:List Int) (w:World) (hs0:Kd.V (Kd.int .i64) 3 w w.heap.size (fun k_=>P0_ k_) (.slice A0 l0.length c0) l0) (h:nat_limbs_trim.f k l0=some r) :
  Calls Tryz.prog 143 #[.slice A0 l0.length c0] w fun e w'=>∃ v0_:Value,e=.returned (v0_)∧Kd.V (Kd.int .i64) 3 w' w.heap.size (fun k_=>(P0_ k_∨w.heap.size≤k_)) v0_ r∧Below w.heap.size w w':=by
 have HO0:=ak_ (show Kd.V (Kd.int .i64) 3 w w.heap.size (fun k_=>(P0_ k_∨w.heap.size≤k_)) (.slice A0 l0.length c0) l0 from Kd.V_mono hs0 (fun k_ hk=>.inl hk));have HB:=ak_ (Below.refl w.heap.size w);have H:=h;unfold nat_limbs_trim.f at H;clear h;have H':=ak_ H;clear H;go_in;go_wp2
 go_loopg [0] k (fun kq v0 w'=>∃ (x0_1:List Int),Aside0 (nat_limbs_trim.l0 kq x0_1=some r)∧Aside0 (kq≤k)∧Aside0 (Kd.V (Kd.int .i64) 3 w' w.heap.size (fun k_=>(P0_ k_∨w.heap.size≤k_)) v0 x0_1)∧Aside0 (Below w.heap.size w w'))
 case atStart=>exact⟨(l0),H',⟨nr_ _⟩,⟨by(with_reducible repeat(first|apply Kd.V_alloc|apply Kd.V_drewN|apply Kd.V_drew));exact HO0.out⟩,⟨b_ HB.out⟩⟩
 case round =>
  clear H';obtain⟨x0_1,HA,HK1,HO_0,HB⟩:=hrel
  cases gk with
  | zero=>exact absurd HA.out (by simp[nat_limbs_trim.l0])
  | succ k1 =>
   have H:=HA.out;clear HA;simp only[nat_limbs_trim.l0] at H;replace H:=bw_ H;rcases H with ⟨c2,H⟩|⟨c2,H⟩
   ·have c2b0:decide (0<(x0_1.length:Int))=true:=decide_eq_true c2;have c2b1:decide (0<x0_1.length)=true:=decide_eq_true (by omega);clear c2;obtain⟨ji3,hji3⟩:∃ j_:Int,(wrap64 ((x0_1.length:Int)-1))=j_:=⟨_,rfl⟩;(first|rw[hji3] at H|simp only[hji3] at H);have hji3w:(IntKind.i64.wrap ((x0_1.length:Int)-1))=ji3:=(i64_w _).trans hji3;replace H:=bx_ H;obtain⟨c4,H⟩:=H;replace c4:=dt_ c4;replace H:=bx_ H;obtain⟨c5,H⟩:=H;replace c5:=dt_ c5;replace H:=bw_ H;rcases H with ⟨c6,H⟩|⟨c6,H⟩
    ·have c6b0:((rd x0_1 (ji3)) == 0)=true:=beq_iff_eq.mpr c6;have c6b1:((rd x0_1 (ji3)) != 0)=false:=bne_eq_false_iff_eq.mpr c6;clear c6;have c7b0:=eq_true (od_ as_f:0≤(ji3));replace H:=bx_ H;obtain⟨c8,H⟩:=H;have c8b0:=eq_true c8;replace c8:=dt_ c8;obtain⟨y102,hy102⟩:∃ y_:List Int,y_ = (x0_1.take ((ji3):Int).toNat):=⟨_,rfl⟩
     replace H:(nat_limbs_trim.l0 k1 y102)=some r:=hr_ hy102 H
     have Ny102:=ak_ hy102;clear hy102;have H':=ak_ H;clear H;obtain⟨Ao9,co9,eo9⟩:=Kd.V_slice HO_0.out;subst eo9;have p101:0≤((ji3):Int):=od_ as_f;have q101:(ji3)<(x0_1.length:Int):=od_ as_f;obtain⟨ad101,e101,hx101_0⟩:=Kd.at_int (Kd.V_reads' HO_0.out).2.2 (ji3) p101 q101
     cases e101
     replace p101:=eq_true p101;replace q101:=eq_true q101;have q10:((ji3):Int)≤((x0_1.length:Int):Int):=od_ as_f;obtain⟨i010,hi010,_,hsz10,_⟩:=info_parts info3;have hroom10:x0_1.length≤co9:=(Kd.V_reads' HO_0.out).2.1;have hC10:Kd.F (Kd.int .i64) _ _ (some ad101) x0_1.length x0_1:=(Kd.V_at (base:=w.heap.size) HO_0.out).2.2;have hcut10:=cut_to (P:=Tryz.prog) 100 3 .i64 Tryz.underlying100 hi010 (some ad101) x0_1.length co9 (ji3) (od_ as_f) q10 hroom10;have hr10:=Kd.F_take (m:=((ji3):Int).toNat) hC10 (by omega);have hy10:y102.length=((ji3):Int).toNat:=(by rw[Ny102.out,List.length_take];omega);rw[← Ny102.out] at hr10;rw[← hy10] at hcut10;have HO106:=ak_ (show Kd.V (Kd.int .i64) 3 _ w.heap.size _ (.slice (some ad101) y102.length co9) y102 from Kd.V_mk (by omega) hr10);have HC106:=ak_ (show y102.length≤co9 from by omega);clear hr10 hC10 hroom10 hi010 hsz10;have KY10:=ak_ hy10;clear hy10;replace q10:=eq_true q10;go_wp2
     go_roundg k1
     case measure=>have:=HK1.out;omega
     case rel=>exact⟨(y102),H',⟨by have:=HK1.out;omega⟩,⟨by(with_reducible repeat(first|apply Kd.V_alloc|apply Kd.V_drewN|apply Kd.V_drew));exact HO106.out⟩,⟨b_ HB.out⟩⟩
    ·have c6b0:((rd x0_1 (ji3)) == 0)=false:=beq_eq_false_iff_ne.mpr c6;have c6b1:((rd x0_1 (ji3)) != 0)=true:=bne_iff_ne.mpr c6;obtain rfl:=oi_ H;obtain⟨Ao11,co11,eo11⟩:=Kd.V_slice HO_0.out;subst eo11;have p101:0≤((ji3):Int):=od_ as_f;have q101:(ji3)<(x0_1.length:Int):=od_ as_f;obtain⟨ad101,e101,hx101_0⟩:=Kd.at_int (Kd.V_reads' HO_0.out).2.2 (ji3) p101 q101
     cases e101
     replace p101:=eq_true p101;replace q101:=eq_true q101;go_wp2
     go_ret
     exact⟨_,by first|rfl|(simp[errW_none,errW_some] <;> rfl)|(simp only[← hji3];first|rfl|(simp[errW_none,errW_some] <;> rfl))|(simp[*,errW_none,errW_some] <;> rfl),by(with_reducible repeat(first|apply Kd.V_alloc|apply Kd.V_drewN|apply Kd.V_drew));exact HO_0.out,b_ HB.out⟩
   ·have c2b0:decide (0<(x0_1.length:Int))=false:=decide_eq_false c2;have c2b1:decide (0<x0_1.length)=false:=decide_eq_false (by omega);clear c2;obtain rfl:=oi_ H;obtain⟨Ao12,co12,eo12⟩:=Kd.V_slice HO_0.out;subst eo12;go_wp2
    go_ret
    exact⟨_,er_,by(with_reducible repeat(first|apply Kd.V_alloc|apply Kd.V_drewN|apply Kd.V_drew));exact HO_0.out,b_ HB.out⟩
def nat_limbs_at.f (l0:List Int) (a1:Int):Option (Int):=if a1<(l0.length:Int) then (if 0≤a1 then (some (rd l0 a1)) else (none)) else (some 0)
theorem nat_limbs_at.calls (A0:Option Addr) (c0:Nat) (l0:List Int) (a1 r:Int) (w:World) (hr0:Kd.C (Kd.int .i64) w A0 l0.length l0) (hc0:l0.length≤c0) (h:nat_limbs_at.f l0 a1=some r) :
  Calls Tryz.prog 145 #[.slice A0 l0.length c0,.int .i64 a1] w fun e w'=>e=.returned (.int .i64 r)∧Drawn0 w w':=by
 have HR0:=ak_ hr0;have HC0:=ak_ hc0;clear hr0 hc0;have H:=h;unfold nat_limbs_at.f at H;clear h;replace H:=bw_ H;rcases H with ⟨c3,H⟩|⟨c3,H⟩
 ·have c3b0:=dt_ c3;clear c3;replace H:=bx_ H;obtain⟨c4,H⟩:=H;replace c4:=dt_ c4;obtain rfl:=oi_ H;have p107:0≤(a1:Int):=od_ as_f;have q107:a1<(l0.length:Int):=od_ as_f;obtain⟨ad107,e107,hx107_0⟩:=Kd.at_int HR0.out a1 p107 q107
  cases e107
  replace p107:=eq_true p107;replace q107:=eq_true q107;go_in;go_wp2
  go_ret
  exact⟨rl_,d0_⟩
 ·have c3b0:=df_ c3;clear c3;obtain rfl:=oi_ H;go_in;go_wp2
  go_ret
  exact⟨rl_,d0_⟩
mutual
def nat_mul.l0:Nat→List Int→List Int→List Int→Int→Int→Option (List Int)
 | 0,_,_,_,_,_=>none
 | k+1,x1,x5,x17,x18,x19=>if x19<x18 then (if 0≤x19 then (if x19<(x17.length:Int) then (nat_mul.l1 k x1 x5 x19 (rd x17 x19) 0 x17 x18 x19 (wrap64 ((x1.length:Int)+1)) 0) else (none)) else (none)) else ((nat_limbs_trim.f k x5).bind fun t111=>(some t111))
def nat_mul.l1:Nat→List Int→List Int→Int→Int→Int→List Int→Int→Int→Int→Int→Option (List Int)
 | 0,_,_,_,_,_,_,_,_,_,_=>none
 | k+1,x1,x5,x6,x7,x8,x17,x18,x19,x26,x27=>if x27<x26 then (if 0≤(wrap64 (x6+x27)) then (if (wrap64 (x6+x27))<(x5.length:Int) then ((nat_limbs_at.f x1 x27).bind fun t116=>(nat_mul.l1 k x1 (x5.set ((wrap64 (x6+x27)):Int).toNat (Int.tmod (wrap64 (x8+(wrap64 ((rd x5 (wrap64 (x6+x27)))+(wrap64 (x7 * t116)))))) 10000)) x6 x7 (wrap64 (Int.tdiv (wrap64 (x8+(wrap64 ((rd x5 (wrap64 (x6+x27)))+(wrap64 (x7 * t116)))))) 10000)) x17 x18 x19 x26 (wrap64 (x27+1)))) else (none)) else (none)) else (nat_mul.l0 k x1 x5 x17 x18 (wrap64 (x19+1)))
end
def nat_mul.f (k:Nat) (l0 l1:List Int):Option (List Int):=if 0≤(wrap64 ((wrap64 ((l0.length:Int)+(l1.length:Int)))+1)) then (if (wrap64 ((wrap64 ((l0.length:Int)+(l1.length:Int)))+1):Int).toNat≤35184372088832 then (nat_mul.l0 k l1 (List.replicate (wrap64 ((wrap64 ((l0.length:Int)+(l1.length:Int)))+1):Int).toNat 0) l0 (l0.length:Int) 0) else (none)) else (none)
mutual
def nat_May.j0:Nat→ByteArray→Bool→Option (Bool)
 | 0,_,_=>none
 | k+1,x0,x14=>if x14=true then (some false) else (nat_May.l0 k x0 (x0.size:Int) 0)
def nat_May.l0:Nat→ByteArray→Int→Int→Option (Bool)
 | 0,_,_,_=>none
 | k+1,x0,x16,x17=>if x17<x16 then (if 0≤x17 then (if x17<(x0.size:Int) then (if (bt x0 x17)<48 then (some false) else (if (bt x0 x17)>57 then (some false) else (nat_May.l0 k x0 x16 (wrap64 (x17+1))))) else (none)) else (none)) else (some true)
end
def nat_May.f (k:Nat) (a0:ByteArray):Option (Bool):=if a0.toList=([]:List UInt8) then (nat_May.j0 k a0 true) else (if 0<(a0.size:Int) then (if (bt a0 0)=48 then (nat_May.j0 k a0 (a0.toList != ([48]:List UInt8))) else (nat_May.j0 k a0 false)) else (none))
theorem nat_May.calls (k:Nat) (a0:ByteArray) (r:Bool) (w:World) (h:nat_May.f k a0=some r) :
  Calls Tryz.prog 79 #[.string a0] w fun e w'=>e=.returned (.bool r)∧Drawn0 w w':=by
 have H:=h;unfold nat_May.f at H;clear h;have HC2:=ak_ H;clear H;go_in
 go_upto_region 1 with (fail)
 go_cut [14] (fun v14 wc=>∃ (kq:Nat) (x14_1:Bool),v14=.bool x14_1∧Aside0 (nat_May.j0 kq a0 x14_1=some r)∧Aside0 (kq≤k)∧Drawn0 w wc)
 case first =>
  have H:=HC2.out;clear HC2;replace H:=bw_ H;rcases H with ⟨c3,H⟩|⟨c3,H⟩
  ·have c3b0:(a0.toList == ([]:List UInt8))=true:=beq_iff_eq.mpr c3;(try have c3e:(a0.toList.isEmpty)=true:=(by have h_:=c3b0;simp at h_ ⊢;exact h_));have c3b1:(a0.toList != ([]:List UInt8))=false:=bne_eq_false_iff_eq.mpr c3;clear c3;(first|rw[c3b0]|(simp only[i64_w,i32_w];rw[c3b0])|skip);have H':=ak_ H;clear H;go_wp2
   go_meet
   case rel=>exact⟨_,(true),rl_,H',⟨nk_⟩,d0_⟩
  ·have c3b0:(a0.toList == ([]:List UInt8))=false:=beq_eq_false_iff_ne.mpr c3;(try have c3e:(a0.toList.isEmpty)=false:=(by have h_:=c3b0;simp at h_ ⊢;exact h_));have c3b1:(a0.toList != ([]:List UInt8))=true:=bne_iff_ne.mpr c3;(first|rw[c3b0]|(simp only[i64_w,i32_w];rw[c3b0])|skip);replace H:=bx_ H;obtain⟨c4,H⟩:=H;have c4b0:=dt_ c4;have c4b1:decide (0<a0.size)=true:=decide_eq_true (by omega);clear c4;replace H:=bw_ H;rcases H with ⟨c6,H⟩|⟨c6,H⟩
   ·have c6b0:((bt a0 0) == 48)=true:=beq_iff_eq.mpr c6;have c6b1:((bt a0 0) != 48)=false:=bne_eq_false_iff_eq.mpr c6;clear c6;have H':=ak_ H;clear H;have p5:0≤(0:Int):=(by omega);have q5:0<a0.size:=(by have:(0:Int)<(a0.size:Int):=od_ as_f;omega);have hx5:∀ h:0<a0.size,((a0[0]'h).toNat:Int)=bt a0 0:=bt_at a0 0;clear p5;have qi5:(0<(a0.size:Int))=True:=eq_true (od_ as_f);replace q5:=eq_true q5;go_wp2
    go_meet
    case rel=>exact⟨_,((a0.toList != ([48]:List UInt8))),rl_,H',⟨nk_⟩,d0_⟩
   ·have c6b0:((bt a0 0) == 48)=false:=beq_eq_false_iff_ne.mpr c6;have c6b1:((bt a0 0) != 48)=true:=bne_iff_ne.mpr c6;have H':=ak_ H;clear H;have p5:0≤(0:Int):=(by omega);have q5:0<a0.size:=(by have:(0:Int)<(a0.size:Int):=od_ as_f;omega);have hx5:∀ h:0<a0.size,((a0[0]'h).toNat:Int)=bt a0 0:=bt_at a0 0;clear p5;have qi5:(0<(a0.size:Int))=True:=eq_true (od_ as_f);replace q5:=eq_true q5;go_wp2
    go_meet
    case rel=>exact⟨_,(false),rl_,H',⟨nk_⟩,d0_⟩
 case rest =>
  clear HC2;obtain⟨kq,x14_1,rfl,HA,HJ1,⟨mc1,rfl⟩⟩:=hcut
  cases kq with
  | zero=>exact absurd HA.out (by simp[nat_May.j0])
  | succ kj1 =>
   have H:=HA.out;clear HA;simp only[nat_May.j0] at H;replace H:=bt_ H;rcases H with ⟨rfl,H⟩|⟨rfl,H⟩
   ·obtain rfl:=oi_ H;go_wp2
    go_ret
    exact⟨rl_,d0_⟩
   ·have H':=ak_ H;clear H;go_wp2
    go_loopg [17] kj1 (fun kq v17 w'=>∃ (x17_2:Int),v17=.int .i64 x17_2∧Aside0 (nat_May.l0 kq a0 (a0.size:Int) x17_2=some r)∧Aside0 (kq≤kj1)∧Drawn0 w w')
    case atStart=>exact⟨(0),rl_,H',⟨nr_ _⟩,d0_⟩
    case round =>
     clear H';obtain⟨x17_2,rfl,HA,HK2,⟨m2,rfl⟩⟩:=hrel
     cases gk with
     | zero=>exact absurd HA.out (by simp[nat_May.l0])
     | succ k2 =>
      have H:=HA.out;clear HA;simp only[nat_May.l0] at H;replace H:=bw_ H;rcases H with ⟨c8,H⟩|⟨c8,H⟩
      ·have c8b0:=dt_ c8;clear c8;replace H:=bx_ H;obtain⟨c9,H⟩:=H;replace c9:=dt_ c9;replace H:=bx_ H;obtain⟨c10,H⟩:=H;replace c10:=dt_ c10;replace H:=bw_ H;rcases H with ⟨c12,H⟩|⟨c12,H⟩
       ·have c12b0:=dt_ c12;clear c12;obtain rfl:=oi_ H;have p11:0≤(x17_2:Int):=od_ as_f;have q11:x17_2<(a0.size:Int):=od_ as_f;have hx11:=bt_at a0 x17_2;replace p11:=eq_true p11;replace q11:=eq_true q11;go_wp2
        go_ret
        exact⟨rl_,d0_⟩
       ·have c12b0:=df_ c12;clear c12;replace H:=bw_ H;rcases H with ⟨c14,H⟩|⟨c14,H⟩
        ·have c14b0:decide (57<(bt a0 x17_2))=true:=decide_eq_true c14;clear c14;obtain rfl:=oi_ H;have p11:0≤(x17_2:Int):=od_ as_f;have q11:x17_2<(a0.size:Int):=od_ as_f;have hx11:=bt_at a0 x17_2;replace p11:=eq_true p11;replace q11:=eq_true q11;have p13:0≤(x17_2:Int):=od_ as_f;have q13:x17_2<(a0.size:Int):=od_ as_f;have hx13:=bt_at a0 x17_2;replace p13:=eq_true p13;replace q13:=eq_true q13;go_wp2
         go_ret
         exact⟨rl_,d0_⟩
        ·have c14b0:decide (57<(bt a0 x17_2))=false:=decide_eq_false c14;clear c14;have H':=ak_ H;clear H;have p11:0≤(x17_2:Int):=od_ as_f;have q11:x17_2<(a0.size:Int):=od_ as_f;have hx11:=bt_at a0 x17_2;replace p11:=eq_true p11;replace q11:=eq_true q11;have p13:0≤(x17_2:Int):=od_ as_f;have q13:x17_2<(a0.size:Int):=od_ as_f;have hx13:=bt_at a0 x17_2;replace p13:=eq_true p13;replace q13:=eq_true q13;go_wp2
         go_roundg k2
         case measure=>have:=HJ1.out;have:=HK2.out;omega
         case rel=>exact⟨(wrap64 (x17_2+1)),rl_,H',⟨by have:=HJ1.out;have:=HK2.out;omega⟩,d0_⟩
      ·have c8b0:=df_ c8;clear c8;obtain rfl:=oi_ H;go_wp2
       go_ret
       exact⟨rl_,d0_⟩
def nat_add.l0:Nat→List Int→List Int→Int→List Int→Int→Int→Int→Option (List Int)
 | 0,_,_,_,_,_,_,_=>none
 | k+1,x0,x1,x2,x7,x8,x23,x24=>if x24<x23 then ((nat_limbs_at.f x0 x24).bind fun t124=>((nat_limbs_at.f x1 x24).bind fun t125=>(if (wrap64 ((wrap64 (t124+(wrap64 (x2 * t125))))+x8))<0 then (if (wrap64 ((wrap64 ((wrap64 (t124+(wrap64 (x2 * t125))))+x8))+10000))≥10000 then (if x7.length<17592186044416 then (nat_add.l0 k x0 x1 x2 (x7 ++ [wrap64 ((wrap64 ((wrap64 ((wrap64 (t124+(wrap64 (x2 * t125))))+x8))+10000))-10000)]) 1 x23 (wrap64 (x24+1))) else (none)) else (if x7.length<17592186044416 then (nat_add.l0 k x0 x1 x2 (x7 ++ [wrap64 ((wrap64 ((wrap64 (t124+(wrap64 (x2 * t125))))+x8))+10000)]) (-1) x23 (wrap64 (x24+1))) else (none))) else (if (wrap64 ((wrap64 (t124+(wrap64 (x2 * t125))))+x8))≥10000 then (if x7.length<17592186044416 then (nat_add.l0 k x0 x1 x2 (x7 ++ [wrap64 ((wrap64 ((wrap64 (t124+(wrap64 (x2 * t125))))+x8))-10000)]) 1 x23 (wrap64 (x24+1))) else (none)) else (if x7.length<17592186044416 then (nat_add.l0 k x0 x1 x2 (x7 ++ [wrap64 ((wrap64 (t124+(wrap64 (x2 * t125))))+x8)]) 0 x23 (wrap64 (x24+1))) else (none)))))) else ((nat_limbs_trim.f k x7).bind fun t121=>(some t121))
def nat_add.f (k:Nat) (l0 l1:List Int) (a2:Int):Option (List Int):=if 0≤(wrap64 ((mx (l0.length:Int) (l1.length:Int))+1)) then (if (wrap64 ((mx (l0.length:Int) (l1.length:Int))+1):Int).toNat≤35184372088832 then (nat_add.l0 k l0 l1 a2 (([]:List Int)) 0 (wrap64 ((mx (l0.length:Int) (l1.length:Int))+1)) 0) else (none)) else (none)
theorem nat_add.calls (k:Nat) (A0:Option Addr) (c0:Nat) (l0:List Int) (A1:Option Addr) (c1:Nat) (l1:List Int) (a2:Int) (r:List Int) (w:World) (hr0:Kd.C (Kd.int .i64) w A0 l0.length l0) (hc0:l0.length≤c0) (hr1:Kd.C (Kd.int .i64) w A1 l1.length l1) (hc1:l1.length≤c1) (h:nat_add.f k l0 l1 a2=some r) :
  Calls Tryz.prog 185 #[.slice A0 l0.length c0,.slice A1 l1.length c1,.int .i64 a2] w fun e w'=>∃ v0_:Value,e=.returned (v0_)∧Kd.V (Kd.int .i64) 3 w' w.heap.size (fun k_=>(w.heap.size≤k_)) v0_ r∧Below w.heap.size w w':=by
 have HR0:=ak_ hr0;have HC0:=ak_ hc0;clear hr0 hc0;have HR1:=ak_ hr1;have HC1:=ak_ hc1;clear hr1 hc1;have HB:=ak_ (Below.refl w.heap.size w);have H:=h;unfold nat_add.f at H;clear h;obtain⟨ji4,hji4⟩:∃ j_:Int,(mx (l0.length:Int) (l1.length:Int))=j_:=⟨_,rfl⟩;(first|rw[hji4] at H|simp only[hji4] at H);(try(have hji4l:0≤ji4:=by(rw[← hji4];unfold mx;(repeat' split) <;> omega)));(try(have hji4m:0≤ji4:=by omega));have hji4_:(if (l0.length:Int)<(l1.length:Int) then (l1.length:Int) else (l0.length:Int))=ji4:=hji4;have hji4_n:(if l0.length<l1.length then (l1.length:Int) else (l0.length:Int))=ji4:=(ite_congr (propext Int.ofNat_lt.symm) (fun _=>rfl) (fun _=>rfl)).trans hji4_;obtain⟨ji5,hji5⟩:∃ j_:Int,(wrap64 ((ji4)+1))=j_:=⟨_,rfl⟩;(first|rw[hji5] at H|simp only[hji5] at H);have hji5w:(IntKind.i64.wrap ((ji4)+1))=ji5:=(i64_w _).trans hji5;replace H:=bx_ H;obtain⟨c6,H⟩:=H;have c6b0:=eq_true c6;have c6b1:=dt_ c6;clear c6;replace H:=bx_ H;obtain⟨c7,H⟩:=H;have c7b0:=eq_true c7;have c7b1:=dt_ c7;clear c7;obtain⟨y118,hy118⟩:∃ y_:List Int,y_ = (([]:List Int)):=⟨_,rfl⟩
 replace H:(nat_add.l0 k l0 l1 a2 y118 0 ji5 0)=some r:=hr_ hy118 H
 have Ny118:=ak_ hy118;clear hy118;have H':=ak_ H;clear H;go_in
 go_wp2_with (first|((with_reducible refine gate_dst (N:=17) rfl ?_);refine Kd.R_make0 (Kd.int .i64) _ 3 rfl (N:=17) rfl 100 _ _ rfl ji5 (by first|rfl|(rw[← hji5];rfl)) (by first|rfl|(rw[← hji5];rfl)) Tryz.underlying100 (.int .i64 0) 8 info3 rfl (by decide) (by omega) 0 (ok:=fun _=>True) (okp:=fun _=>True) rfl (fun _ hk=>hk) trivial (od_ as_f) (by have h_:=(od_ as_f:ji5.toNat≤35184372088832);omega) (Below.refl _ _) (nr_ _) ?_;intro v119 w8 ho9 hb hg_ hnew_;clear hg_ hnew_;(first|rw[← Ny118.out] at ho9|(simp only[Int.reduceToNat] at ho9;rw[← Ny118.out] at ho9));have HO120:=ak_ (Kd.R_lower (Kd.R_newM (M:=fun k_=>(w.heap.size≤k_)) ho9 (below_size (b_ HB.out)) (fun k_ h_=>h_)) (below_size (b_ HB.out)));replace HB:=bs_ HB hb;clear hb ho9))
 go_loopg [7,8,24] k (fun kq v7 v8 v24 w'=>∃ (x7_1:List Int) (x8_1 x24_1:Int),v8=.int .i64 x8_1∧v24=.int .i64 x24_1∧Aside0 (nat_add.l0 kq l0 l1 a2 x7_1 x8_1 ji5 x24_1=some r)∧Aside0 (kq≤k)∧Aside0 (Kd.R (Kd.int .i64) 3 w' w.heap.size (fun k_=>(w.heap.size≤k_)) v7 x7_1)∧Aside0 (Below w.heap.size w w'))
 case atStart=>exact⟨(y118),(0),(0),rl_,rl_,H',⟨nr_ _⟩,⟨by(with_reducible repeat(first|apply Kd.R_alloc|apply Kd.R_drewN|apply Kd.R_drew));exact Kd.R_mono HO120.out (fun _ hk=>hk.1)⟩,⟨b_ HB.out⟩⟩
 case round =>
  clear H';(try clear c1);(try clear c6b0);(try clear c6b1);(try clear c7b0);(try clear c7b1);obtain⟨x7_1,x8_1,x24_1,rfl,rfl,HA,HK1,HO_7,HB⟩:=hrel
  cases gk with
  | zero=>exact absurd HA.out (by simp[nat_add.l0])
  | succ k1 =>
   have H:=HA.out;clear HA;simp only[nat_add.l0] at H;replace H:=bw_ H;rcases H with ⟨c10,H⟩|⟨c10,H⟩
   ·have c10b0:=dt_ c10;clear c10;obtain⟨t124,A11,H⟩:=bi_ H;obtain⟨t125,A12,H⟩:=bi_ H;replace H:=bw_ H;rcases H with ⟨c13,H⟩|⟨c13,H⟩
    ·have c13b0:=dt_ c13
     have c13b0w:decide ((IntKind.i64.wrap ((IntKind.i64.wrap (t124+(IntKind.i64.wrap (a2 * t125))))+x8_1))<0)=true:=by simp only[i64_w];exact c13b0
     clear c13;replace H:=bw_ H;rcases H with ⟨c14,H⟩|⟨c14,H⟩
     ·have c14b0:decide (10000≤(wrap64 ((wrap64 ((wrap64 (t124+(wrap64 (a2 * t125))))+x8_1))+10000)))=true:=decide_eq_true c14
      have c14b0w:decide (10000≤(IntKind.i64.wrap ((IntKind.i64.wrap ((IntKind.i64.wrap (t124+(IntKind.i64.wrap (a2 * t125))))+x8_1))+10000)))=true:=by simp only[i64_w];exact c14b0
      clear c14;replace H:=bx_ H;obtain⟨c15,H⟩:=H;have LMc15:=ak_ c15;clear c15;obtain⟨y126,hy126⟩:∃ y_:List Int,y_ = (x7_1 ++ [wrap64 ((wrap64 ((wrap64 ((wrap64 (t124+(wrap64 (a2 * t125))))+x8_1))+10000))-10000)]):=⟨_,rfl⟩
      replace H:(nat_add.l0 k1 l0 l1 a2 y126 1 ji5 (wrap64 (x24_1+1)))=some r:=hr_ hy126 H
      have Ny126:=ak_ hy126;clear hy126;have H':=ak_ H;clear H
      go_wp2_with (first|(refine gm_ 29 Tryz.func145 (nat_limbs_at.calls _ _ _ _ _ _ (c_ (Kd.C_below HR0.out HB.out)) (HC0.out) A11.out) ?_;rintro w' ⟨nd,rfl⟩)|(refine gl_ 33 Tryz.func145 #[.slice A1 l1.length c1,.int .i64 x24_1] ?_;(with_reducible refine(nat_limbs_at.calls _ _ _ _ _ _ ?side1 ?side2 A12.out).mono ?_);(case side1=>repeat(first|exact(Kd.C_below HR1.out (b_ HB.out))|(with_reducible refine Kd.C_alloc ?_ _)|(with_reducible refine Kd.C_drewN ?_ _)|(with_reducible refine Kd.C_drew ?_)));(case side2=>exact HC1.out);rintro e w' ⟨rfl,⟨nd,rfl⟩⟩;refine⟨_,rfl,?_⟩)|((with_reducible refine gate_builtin (b:=.append) (xs:=#[.tmp 46,.tmp 48]) rfl ?_);at_builtin;refine Kd.R_append (Kd.int .i64) (w0:=w) w.heap.size rfl (.tmp 46) (.tmp 48) 100 3 (.int .i64 0) 8 rfl Tryz.underlying100 info3 rfl (by decide) (by omega) u7 x7_1 (wrap64 ((wrap64 ((wrap64 ((wrap64 (t124+(wrap64 (a2 * t125))))+x8_1))+10000))-10000)) [.int .i64 (wrap64 ((wrap64 ((wrap64 ((wrap64 (t124+(wrap64 (a2 * t125))))+x8_1))+10000))-10000))] (fun k_=>(w.heap.size≤k_)) (fun _=>False) rfl rfl ?aP (fun _ hk=>hk.elim) ?aF ?aO ?aB ?aS ?aL ?_;(case aP=>exact rfl);(case aB=>exact(b_ HB.out));(case aF=>exact(fun k_ hk=>(Nat.le_trans (below_size (b_ HB.out)) hk)));(case aO=>exact(w_ HO_7.out));(case aS=>exact(below_size (b_ HB.out)));(case aL=>have:=LMc15.out;omega);intro v127 w16 ho hb hg hat;rw[← Ny126.out] at ho;have HO128:=ak_ (ho);replace HB:=ak_ (hb);clear HO_7;clear ho hb hg hat))
      go_roundg k1
      case measure=>have:=HK1.out;omega
      case rel=>exact⟨(y126),(1),(wrap64 (x24_1+1)),rl_,rl_,H',⟨by have:=HK1.out;omega⟩,⟨by(with_reducible repeat(first|apply Kd.R_alloc|apply Kd.R_drewN|apply Kd.R_drew));exact HO128.out⟩,⟨b_ HB.out⟩⟩
     ·have c14b0:decide (10000≤(wrap64 ((wrap64 ((wrap64 (t124+(wrap64 (a2 * t125))))+x8_1))+10000)))=false:=decide_eq_false c14
      have c14b0w:decide (10000≤(IntKind.i64.wrap ((IntKind.i64.wrap ((IntKind.i64.wrap (t124+(IntKind.i64.wrap (a2 * t125))))+x8_1))+10000)))=false:=by simp only[i64_w];exact c14b0
      clear c14;replace H:=bx_ H;obtain⟨c17,H⟩:=H;have LMc17:=ak_ c17;clear c17;obtain⟨y129,hy129⟩:∃ y_:List Int,y_ = (x7_1 ++ [wrap64 ((wrap64 ((wrap64 (t124+(wrap64 (a2 * t125))))+x8_1))+10000)]):=⟨_,rfl⟩
      replace H:(nat_add.l0 k1 l0 l1 a2 y129 (-1) ji5 (wrap64 (x24_1+1)))=some r:=hr_ hy129 H
      have Ny129:=ak_ hy129;clear hy129;have H':=ak_ H;clear H
      go_wp2_with (first|(refine gm_ 29 Tryz.func145 (nat_limbs_at.calls _ _ _ _ _ _ (c_ (Kd.C_below HR0.out HB.out)) (HC0.out) A11.out) ?_;rintro w' ⟨nd,rfl⟩)|(refine gl_ 33 Tryz.func145 #[.slice A1 l1.length c1,.int .i64 x24_1] ?_;(with_reducible refine(nat_limbs_at.calls _ _ _ _ _ _ ?side1 ?side2 A12.out).mono ?_);(case side1=>repeat(first|exact(Kd.C_below HR1.out (b_ HB.out))|(with_reducible refine Kd.C_alloc ?_ _)|(with_reducible refine Kd.C_drewN ?_ _)|(with_reducible refine Kd.C_drew ?_)));(case side2=>exact HC1.out);rintro e w' ⟨rfl,⟨nd,rfl⟩⟩;refine⟨_,rfl,?_⟩)|((with_reducible refine gate_builtin (b:=.append) (xs:=#[.tmp 46,.tmp 48]) rfl ?_);at_builtin;refine Kd.R_append (Kd.int .i64) (w0:=w) w.heap.size rfl (.tmp 46) (.tmp 48) 100 3 (.int .i64 0) 8 rfl Tryz.underlying100 info3 rfl (by decide) (by omega) u7 x7_1 (wrap64 ((wrap64 ((wrap64 (t124+(wrap64 (a2 * t125))))+x8_1))+10000)) [.int .i64 (wrap64 ((wrap64 ((wrap64 (t124+(wrap64 (a2 * t125))))+x8_1))+10000))] (fun k_=>(w.heap.size≤k_)) (fun _=>False) rfl rfl ?aP (fun _ hk=>hk.elim) ?aF ?aO ?aB ?aS ?aL ?_;(case aP=>exact rfl);(case aB=>exact(b_ HB.out));(case aF=>exact(fun k_ hk=>(Nat.le_trans (below_size (b_ HB.out)) hk)));(case aO=>exact(w_ HO_7.out));(case aS=>exact(below_size (b_ HB.out)));(case aL=>have:=LMc17.out;omega);intro v130 w18 ho hb hg hat;rw[← Ny129.out] at ho;have HO131:=ak_ (ho);replace HB:=ak_ (hb);clear HO_7;clear ho hb hg hat))
      go_roundg k1
      case measure=>have:=HK1.out;omega
      case rel=>exact⟨(y129),((-1)),(wrap64 (x24_1+1)),rl_,rl_,H',⟨by have:=HK1.out;omega⟩,⟨by(with_reducible repeat(first|apply Kd.R_alloc|apply Kd.R_drewN|apply Kd.R_drew));exact HO131.out⟩,⟨b_ HB.out⟩⟩
    ·have c13b0:=df_ c13
     have c13b0w:decide ((IntKind.i64.wrap ((IntKind.i64.wrap (t124+(IntKind.i64.wrap (a2 * t125))))+x8_1))<0)=false:=by simp only[i64_w];exact c13b0
     clear c13;replace H:=bw_ H;rcases H with ⟨c19,H⟩|⟨c19,H⟩
     ·have c19b0:decide (10000≤(wrap64 ((wrap64 (t124+(wrap64 (a2 * t125))))+x8_1)))=true:=decide_eq_true c19
      have c19b0w:decide (10000≤(IntKind.i64.wrap ((IntKind.i64.wrap (t124+(IntKind.i64.wrap (a2 * t125))))+x8_1)))=true:=by simp only[i64_w];exact c19b0
      clear c19;replace H:=bx_ H;obtain⟨c20,H⟩:=H;have LMc20:=ak_ c20;clear c20;obtain⟨y132,hy132⟩:∃ y_:List Int,y_ = (x7_1 ++ [wrap64 ((wrap64 ((wrap64 (t124+(wrap64 (a2 * t125))))+x8_1))-10000)]):=⟨_,rfl⟩
      replace H:(nat_add.l0 k1 l0 l1 a2 y132 1 ji5 (wrap64 (x24_1+1)))=some r:=hr_ hy132 H
      have Ny132:=ak_ hy132;clear hy132;have H':=ak_ H;clear H
      go_wp2_with (first|(refine gm_ 29 Tryz.func145 (nat_limbs_at.calls _ _ _ _ _ _ (c_ (Kd.C_below HR0.out HB.out)) (HC0.out) A11.out) ?_;rintro w' ⟨nd,rfl⟩)|(refine gl_ 33 Tryz.func145 #[.slice A1 l1.length c1,.int .i64 x24_1] ?_;(with_reducible refine(nat_limbs_at.calls _ _ _ _ _ _ ?side1 ?side2 A12.out).mono ?_);(case side1=>repeat(first|exact(Kd.C_below HR1.out (b_ HB.out))|(with_reducible refine Kd.C_alloc ?_ _)|(with_reducible refine Kd.C_drewN ?_ _)|(with_reducible refine Kd.C_drew ?_)));(case side2=>exact HC1.out);rintro e w' ⟨rfl,⟨nd,rfl⟩⟩;refine⟨_,rfl,?_⟩)|((with_reducible refine gate_builtin (b:=.append) (xs:=#[.tmp 46,.tmp 48]) rfl ?_);at_builtin;refine Kd.R_append (Kd.int .i64) (w0:=w) w.heap.size rfl (.tmp 46) (.tmp 48) 100 3 (.int .i64 0) 8 rfl Tryz.underlying100 info3 rfl (by decide) (by omega) u7 x7_1 (wrap64 ((wrap64 ((wrap64 (t124+(wrap64 (a2 * t125))))+x8_1))-10000)) [.int .i64 (wrap64 ((wrap64 ((wrap64 (t124+(wrap64 (a2 * t125))))+x8_1))-10000))] (fun k_=>(w.heap.size≤k_)) (fun _=>False) rfl rfl ?aP (fun _ hk=>hk.elim) ?aF ?aO ?aB ?aS ?aL ?_;(case aP=>exact rfl);(case aB=>exact(b_ HB.out));(case aF=>exact(fun k_ hk=>(Nat.le_trans (below_size (b_ HB.out)) hk)));(case aO=>exact(w_ HO_7.out));(case aS=>exact(below_size (b_ HB.out)));(case aL=>have:=LMc20.out;omega);intro v133 w21 ho hb hg hat;rw[← Ny132.out] at ho;have HO134:=ak_ (ho);replace HB:=ak_ (hb);clear HO_7;clear ho hb hg hat))
      go_roundg k1
      case measure=>have:=HK1.out;omega
      case rel=>exact⟨(y132),(1),(wrap64 (x24_1+1)),rl_,rl_,H',⟨by have:=HK1.out;omega⟩,⟨by(with_reducible repeat(first|apply Kd.R_alloc|apply Kd.R_drewN|apply Kd.R_drew));exact HO134.out⟩,⟨b_ HB.out⟩⟩
     ·have c19b0:decide (10000≤(wrap64 ((wrap64 (t124+(wrap64 (a2 * t125))))+x8_1)))=false:=decide_eq_false c19
      have c19b0w:decide (10000≤(IntKind.i64.wrap ((IntKind.i64.wrap (t124+(IntKind.i64.wrap (a2 * t125))))+x8_1)))=false:=by simp only[i64_w];exact c19b0
      clear c19;replace H:=bx_ H;obtain⟨c22,H⟩:=H;have LMc22:=ak_ c22;clear c22;obtain⟨y135,hy135⟩:∃ y_:List Int,y_ = (x7_1 ++ [wrap64 ((wrap64 (t124+(wrap64 (a2 * t125))))+x8_1)]):=⟨_,rfl⟩
      replace H:(nat_add.l0 k1 l0 l1 a2 y135 0 ji5 (wrap64 (x24_1+1)))=some r:=hr_ hy135 H
      have Ny135:=ak_ hy135;clear hy135;have H':=ak_ H;clear H
      go_wp2_with (first|(refine gm_ 29 Tryz.func145 (nat_limbs_at.calls _ _ _ _ _ _ (c_ (Kd.C_below HR0.out HB.out)) (HC0.out) A11.out) ?_;rintro w' ⟨nd,rfl⟩)|(refine gl_ 33 Tryz.func145 #[.slice A1 l1.length c1,.int .i64 x24_1] ?_;(with_reducible refine(nat_limbs_at.calls _ _ _ _ _ _ ?side1 ?side2 A12.out).mono ?_);(case side1=>repeat(first|exact(Kd.C_below HR1.out (b_ HB.out))|(with_reducible refine Kd.C_alloc ?_ _)|(with_reducible refine Kd.C_drewN ?_ _)|(with_reducible refine Kd.C_drew ?_)));(case side2=>exact HC1.out);rintro e w' ⟨rfl,⟨nd,rfl⟩⟩;refine⟨_,rfl,?_⟩)|((with_reducible refine gate_builtin (b:=.append) (xs:=#[.tmp 46,.tmp 48]) rfl ?_);at_builtin;refine Kd.R_append (Kd.int .i64) (w0:=w) w.heap.size rfl (.tmp 46) (.tmp 48) 100 3 (.int .i64 0) 8 rfl Tryz.underlying100 info3 rfl (by decide) (by omega) u7 x7_1 (wrap64 ((wrap64 (t124+(wrap64 (a2 * t125))))+x8_1)) [.int .i64 (wrap64 ((wrap64 (t124+(wrap64 (a2 * t125))))+x8_1))] (fun k_=>(w.heap.size≤k_)) (fun _=>False) rfl rfl ?aP (fun _ hk=>hk.elim) ?aF ?aO ?aB ?aS ?aL ?_;(case aP=>exact rfl);(case aB=>exact(b_ HB.out));(case aF=>exact(fun k_ hk=>(Nat.le_trans (below_size (b_ HB.out)) hk)));(case aO=>exact(w_ HO_7.out));(case aS=>exact(below_size (b_ HB.out)));(case aL=>have:=LMc22.out;omega);intro v136 w23 ho hb hg hat;rw[← Ny135.out] at ho;have HO137:=ak_ (ho);replace HB:=ak_ (hb);clear HO_7;clear ho hb hg hat))
      go_roundg k1
      case measure=>have:=HK1.out;omega
      case rel=>exact⟨(y135),(0),(wrap64 (x24_1+1)),rl_,rl_,H',⟨by have:=HK1.out;omega⟩,⟨by(with_reducible repeat(first|apply Kd.R_alloc|apply Kd.R_drewN|apply Kd.R_drew));exact HO137.out⟩,⟨b_ HB.out⟩⟩
   ·have c10b0:=df_ c10;clear c10;obtain⟨t121,A24,H⟩:=bi_ H;obtain rfl:=oi_ H;obtain⟨Ao25,co25,eo25⟩:=Kd.R_slice HO_7.out;subst eo25
    go_wp2_with (first|(refine gl_ 52 Tryz.func143 #[.slice Ao25 x7_1.length co25] ?_;(with_reducible refine(nat_limbs_trim.calls _ (fun k_=>some k_ = (.slice Ao25 x7_1.length co25:Value).ownBlock) _ _ _ _ _ ?side1 A24.out).mono ?_);(case side1=>exact Kd.R_V (Kd.R_tight rfl (HO_7.out)));rintro e w26 ⟨v122,rfl,ho0,hb⟩;refine⟨_,rfl,?_⟩;have HO123:=ak_ (Kd.V_lower (Kd.V_mono (ok':=fun k_=>(w.heap.size≤k_)) ho0 (fun k_ hk_=>Or.elim hk_ (fun hs_=>((HO_7.out).1 k_ hs_.symm)) (fun hn_=>(Nat.le_trans (below_size (b_ HB.out)) hn_)))) (below_size (b_ HB.out)));replace HO_7:=ak_ (Kd.R_below (w_ HO_7.out) hb);replace HB:=bs_ HB hb;(try clear hb);(try clear hk);(try clear ho0)))
    go_ret
    exact⟨_,by first|rfl|(simp[errW_none,errW_some] <;> rfl)|(simp only[← hji4,← hji5];first|rfl|(simp[errW_none,errW_some] <;> rfl))|(simp[*,errW_none,errW_some] <;> rfl),by(with_reducible repeat(first|apply Kd.V_alloc|apply Kd.V_drewN|apply Kd.V_drew));exact HO123.out,b_ HB.out⟩
def nat_read.l0:Nat→ByteArray→List Int→Option (List Int)
 | 0,_,_=>none
 | k+1,x0,x3=>if (x0.size:Int)>0 then (if 0≤(mx (wrap64 ((x0.size:Int)-4)) 0) then (if (mx (wrap64 ((x0.size:Int)-4)) 0)≤(x0.size:Int) then ((strconv_Atoi.f (x0.extract ((mx (wrap64 ((x0.size:Int)-4)) 0):Int).toNat x0.size)).bind fun bt138=>(if x3.length<17592186044416 then (nat_read.l0 k (x0.extract 0 ((mx (wrap64 ((x0.size:Int)-4)) 0):Int).toNat) (x3 ++ [bt138.1])) else (none))) else (none)) else (none)) else ((nat_limbs_trim.f k x3).bind fun t143=>(some t143))
def nat_read.f (k:Nat) (a0:ByteArray):Option (List Int):=nat_read.l0 k a0 ([]:List Int)
theorem nat_read.calls (k:Nat) (a0:ByteArray) (r:List Int) (w:World) (h:nat_read.f k a0=some r) :
  Calls Tryz.prog 138 #[.string a0] w fun e w'=>∃ v0_:Value,e=.returned (v0_)∧Kd.V (Kd.int .i64) 3 w' w.heap.size (fun k_=>(w.heap.size≤k_)) v0_ r∧Below w.heap.size w w':=by
 have HB:=ak_ (Below.refl w.heap.size w);have H:=h;unfold nat_read.f at H;clear h;have H':=ak_ H;clear H;go_in;go_wp2
 go_loopg [0,3] k (fun kq v0 v3 w'=>∃ (x0_1:ByteArray) (x3_1:List Int),v0=.string x0_1∧Aside0 (nat_read.l0 kq x0_1 x3_1=some r)∧Aside0 (kq≤k)∧Aside0 (Kd.R (Kd.int .i64) 3 w' w.heap.size (fun k_=>(w.heap.size≤k_)) v3 x3_1)∧Aside0 (Below w.heap.size w w'))
 case atStart=>exact⟨(a0),(([]:List Int)),rl_,H',⟨nr_ _⟩,⟨by first|exact Kd.R_nil _ _ _ _ _|exact Kd.N_nil _ _ _ _ _|exact Kd.V_nil _ _ _ _ _|exact Kd.Q_nil _ _ _ _ _|exact Kd.S_nil _ _ _ _ _⟩,⟨b_ HB.out⟩⟩
 case round =>
  clear H';obtain⟨x0_1,x3_1,rfl,HA,HK1,HO_3,HB⟩:=hrel
  cases gk with
  | zero=>exact absurd HA.out (by simp[nat_read.l0])
  | succ k1 =>
   have H:=HA.out;clear HA;simp only[nat_read.l0] at H;replace H:=bw_ H;rcases H with ⟨c2,H⟩|⟨c2,H⟩
   ·have c2b0:decide (0<(x0_1.size:Int))=true:=decide_eq_true c2;have c2b1:decide (0<x0_1.size)=true:=decide_eq_true (by omega);clear c2;obtain⟨ji3,hji3⟩:∃ j_:Int,(mx (wrap64 ((x0_1.size:Int)-4)) 0)=j_:=⟨_,rfl⟩;(first|rw[hji3] at H|simp only[hji3] at H);have hji3_:(if (wrap64 ((x0_1.size:Int)-4))<0 then 0 else (wrap64 ((x0_1.size:Int)-4)))=ji3:=hji3;replace H:=bx_ H;obtain⟨c4,H⟩:=H;have c4b0:=eq_true c4;replace c4:=dt_ c4;replace H:=bx_ H;obtain⟨c5,H⟩:=H;have c5b0:=eq_true c5;replace c5:=dt_ c5;obtain⟨⟨t138,t139⟩,A6,H⟩:=bi_ H;(try dsimp only at H);replace H:=bx_ H;obtain⟨c7,H⟩:=H;have LMc7:=ak_ c7;clear c7;obtain⟨y140,hy140⟩:∃ y_:List Int,y_ = (x3_1 ++ [t138]):=⟨_,rfl⟩
    replace H:(nat_read.l0 k1 (x0_1.extract 0 ((ji3):Int).toNat) y140)=some r:=hr_ hy140 H
    have Ny140:=ak_ hy140;clear hy140;have c8b0:=eq_true (od_ as_f:0≤(ji3));have c9b0:=eq_true (od_ as_f:(ji3)≤(x0_1.size:Int));have H':=ak_ H;clear H
    go_wp2_with (first|((with_reducible refine gate_callee (f:=80) rfl ?_);refine goesL_ (some 18) rfl rfl Tryz.func80 (by kernel_rfl) rfl #[.string (x0_1.extract ((ji3):Int).toNat x0_1.size)] rfl (by(try simp only[List.map_toArray,List.map_cons,List.map_nil]);first|done|(simp only[hji3];rfl)|rfl|(simp only[List.length_drop,List.length_take];rfl)) ?_;refine mo_ (strconv_Atoi.calls _ _ _ _ A6.out) ?_;intro w10 hb;replace HO_3:=ak_ (Kd.R_below (w_ HO_3.out) hb);replace HB:=bs_ HB hb;(try clear hb);(try simp only[errW_none,errW_some]))|((with_reducible refine gate_builtin (b:=.append) (xs:=#[.tmp 21,.tmp 23]) rfl ?_);at_builtin;refine Kd.R_append (Kd.int .i64) (w0:=w) w.heap.size rfl (.tmp 21) (.tmp 23) 100 3 (.int .i64 0) 8 rfl Tryz.underlying100 info3 rfl (by decide) (by omega) u3 x3_1 t138 [.int .i64 t138] (fun k_=>(w.heap.size≤k_)) (fun _=>False) rfl rfl ?aP (fun _ hk=>hk.elim) ?aF ?aO ?aB ?aS ?aL ?_;(case aP=>exact rfl);(case aB=>exact(b_ HB.out));(case aF=>exact(fun k_ hk=>(Nat.le_trans (below_size (b_ HB.out)) hk)));(case aO=>exact(w_ HO_3.out));(case aS=>exact(below_size (b_ HB.out)));(case aL=>have:=LMc7.out;omega);intro v141 w11 ho hb hg hat;rw[← Ny140.out] at ho;have HO142:=ak_ (ho);replace HB:=ak_ (hb);clear HO_3;clear ho hb hg hat))
    go_roundg k1
    case measure=>have:=HK1.out;omega
    case rel=>exact⟨(x0_1.extract 0 ((ji3):Int).toNat),(y140),(by first|rfl|(simp;done)|(simp only[← hji3] <;> (first|rfl|simp))|(simp[*];done)),H',⟨by have:=HK1.out;omega⟩,⟨by(with_reducible repeat(first|apply Kd.R_alloc|apply Kd.R_drewN|apply Kd.R_drew));exact HO142.out⟩,⟨b_ HB.out⟩⟩
   ·have c2b0:decide (0<(x0_1.size:Int))=false:=decide_eq_false c2;have c2b1:decide (0<x0_1.size)=false:=decide_eq_false (by omega);clear c2;obtain⟨t143,A12,H⟩:=bi_ H;obtain rfl:=oi_ H;obtain⟨Ao13,co13,eo13⟩:=Kd.R_slice HO_3.out;subst eo13
    go_wp2_with (first|(refine gl_ 29 Tryz.func143 #[.slice Ao13 x3_1.length co13] ?_;(with_reducible refine(nat_limbs_trim.calls _ (fun k_=>some k_ = (.slice Ao13 x3_1.length co13:Value).ownBlock) _ _ _ _ _ ?side1 A12.out).mono ?_);(case side1=>exact Kd.R_V (Kd.R_tight rfl (HO_3.out)));rintro e w14 ⟨v144,rfl,ho0,hb⟩;refine⟨_,rfl,?_⟩;have HO145:=ak_ (Kd.V_lower (Kd.V_mono (ok':=fun k_=>(w.heap.size≤k_)) ho0 (fun k_ hk_=>Or.elim hk_ (fun hs_=>((HO_3.out).1 k_ hs_.symm)) (fun hn_=>(Nat.le_trans (below_size (b_ HB.out)) hn_)))) (below_size (b_ HB.out)));replace HO_3:=ak_ (Kd.R_below (w_ HO_3.out) hb);replace HB:=bs_ HB hb;(try clear hb);(try clear ho0)))
    go_ret
    exact⟨_,er_,by(with_reducible repeat(first|apply Kd.V_alloc|apply Kd.V_drewN|apply Kd.V_drew));exact HO145.out,b_ HB.out⟩
end Pn
section
open Pn
theorem trim_tells:∀ (n:Nat) (l:List Int),l.length=n→n≤9223372036854775807→∀ k,n<k→nat_limbs_trim.f k l=some (trimL l)
 | n,l,hl,hn,k,hk=>by
  obtain⟨k,rfl⟩:∃ m,k=m+1:=⟨k-1,by omega⟩
  unfold nat_limbs_trim.f
  rcases List.eq_nil_or_concat l with rfl|⟨r,x,rfl⟩
  ·simp[nat_limbs_trim.l0,trimL]
  ·rw[List.concat_eq_append] at hl ⊢
   have hr:r.length+1=n:=by simpa using hl
   have h1:wrap64 (((r ++ [x]).length:Int)-1)=(r.length:Int):=by
    rw[List.length_append]
    unfold wrap64
    simp only[List.length_cons,List.length_nil]
    omega
   simp only[nat_limbs_trim.l0]
   rw[h1,if_pos (by rw[List.length_append];simp only[List.length_cons,List.length_nil];omega),if_pos (by omega),if_pos (by rw[List.length_append];simp only[List.length_cons,List.length_nil];omega)]
   have h2:rd (r ++ [x]) (r.length:Int)=x:=by
    unfold rd
    rw[Int.toNat_natCast,List.getD_eq_getElem?_getD]
    simp
   rw[h2]
   by_cases h:x=0
   ·subst h
    rw[if_pos rfl,if_pos (by rw[List.length_append];simp only[List.length_cons,List.length_nil];omega),Int.toNat_natCast,List.take_left,trimL_zero]
    exact trim_tells r.length r rfl (by omega) k (by omega)
   ·rw[if_neg h,trimL_snoc _ _ h]
 termination_by n=>n
 decreasing_by omega
theorem mono_le {α:Type} {f:Nat→Option α} (hm:∀ k,LeO (f k) (f (k+1))):∀ d k,LeO (f k) (f (k+d))
 | 0,k=>LeO.refl _
 | d+1,k=>LeO.trans (mono_le hm d k) (hm (k+d))
theorem trim_only {k:Nat} {l t:List Int} (hl:l.length≤9223372036854775807) (h:nat_limbs_trim.f k l=some t):t=trimL l:=by
 have h1:=mono_le (f:=fun k=>nat_limbs_trim.f k l) (nat_limbs_trim.mono l) (l.length+1) k t h
 have h2:=trim_tells l.length l rfl hl (k+(l.length+1)) (by omega)
 rw[h2] at h1
 exact(Option.some.inj h1).symm
theorem R_cut {e base c:Nat} {ok:Nat→Prop} {w:World} {A:Option Addr} {xs ys:List Int} (h:Kd.R (Kd.int .i64) e w base ok (.slice A xs.length c) xs) (hy:ys=xs.take ys.length):Kd.R (Kd.int .i64) e w base ok (.slice A ys.length c) ys:=by
 obtain⟨h0,inner,⟨hlen,ho⟩,hr1,hr2⟩:=h
 have hle:ys.length≤xs.length:=by
  have h:=congrArg List.length hy
  rw[List.length_take] at h
  omega
 have hone:(Kd.int .i64).sz=1:=rfl
 rw[hone] at hlen ho hr1 hr2
 refine⟨fun k hk=>h0 k (by cases A with|none=>cases hk|some _=>exact hk),inner.take ys.length,⟨?_,?_⟩,?_,?_⟩
 ·rw[List.length_take,hlen,hone];omega
 ·rcases ho with ⟨hv,hn⟩|⟨g,cap,cur,hv,hb,hg,hn,hm,hs,ht⟩
  ·injection hv with ha _ hc
   subst ha;subst hc
   have:ys.length=0:=by omega
   exact .inl ⟨by rw[this],this⟩
  ·injection hv with ha _ hc
   subst ha;subst hc
   refine .inr ⟨g,c,cur,rfl,hb,hg,by omega,hm,by rw[hs,hone],?_⟩
   rw[← ht,hone,List.take_take]
   congr 1
   omega
 ·rw[List.length_take,hlen,hone];omega
 ·intro j p hj
  have hjl:j<ys.length:=(List.getElem?_eq_some_iff.1 hj).1
  have hx:xs[j]?=some p:=by
   rw[hy,List.getElem?_take_of_lt hjl] at hj
   exact hj
  have h:=hr2 j p hx
  rw[hone]
  have e1:((inner.take ys.length).drop (j * 1)).take 1=(inner.drop (j * 1)).take 1:=by
   rw[List.drop_take,List.take_take]
   congr 1
   omega
  rw[e1]
  exact h
theorem trim_own {e base:Nat} {ok:Nat→Prop} {A:Option Addr} {n c:Nat} {k:Nat} {l t:List Int} {w:World} (hn:n=l.length) (ho:Kd.R (Kd.int .i64) e w base ok (.slice A l.length c) l) (h:nat_limbs_trim.f k l=some t) :
  Calls Tryz.prog 143 #[.slice A n c] w fun e' w'=>∃ v,e'=.returned v∧w'=w∧Kd.R (Kd.int .i64) e w base ok v t:=by
 subst hn
 obtain⟨_,hc,hC⟩:=Kd.R_reads' ho
 have hl:=hC.2.1
 refine(trim_exact A c l hl hc w ?_).mono ?_
 ·intro h0
  obtain⟨A',c',hv,hI⟩:=intsAt_of_C (c:=c) hC
  injection hv with ha _ _
  subst ha
  obtain⟨ad,had,_,hall⟩:=hI h0
  exact⟨ad,had,hall⟩
 ·rintro e' w' ⟨rfl,rfl⟩
  obtain rfl:=trim_only hl h
  exact⟨_,rfl,rfl,R_cut ho (trimL_prefix l)⟩
end
end Go.Proofs.YtoghmeffpgbcfaaGreatDoor
section
open Go.RowKit Go.Proofs.YtoghmeffpgbcfaaGreatDoorW.PrintWords Go.Proofs.YtoghmeffpgbcfaaGreatDoorW.PrintLast Go.Proofs.YtoghmeffpgbcfaaGreatDoorW.PrintMore Go.Proofs.YtoghmeffpgbcfaaGreatDoor
namespace Go.Proofs.YtoghmeffpgbcfaaGreatDoor.Pm
open Go.Proofs.YtoghmeffpgbcfaaGreatDoor.Pn
def nat_mul.f (k:Nat) (l0 l1:List Int):Option (List Int):=Pn.nat_mul.f k l0 l1
end Go.Proofs.YtoghmeffpgbcfaaGreatDoor.Pm
namespace Go.Proofs.YtoghmeffpgbcfaaGreatDoor.Pn
open Go.Proofs.YtoghmeffpgbcfaaGreatDoor
theorem nat_mulR.calls (k:Nat) (A0:Option Addr) (c0:Nat) (l0:List Int) (A1:Option Addr) (c1:Nat) (l1 r:List Int) (w:World) (hr0:Kd.C (Kd.int .i64) w A0 l0.length l0) (hc0:l0.length≤c0) (hr1:Kd.C (Kd.int .i64) w A1 l1.length l1) (hc1:l1.length≤c1) (h:nat_mul.f k l0 l1=some r) :
  Calls Tryz.prog 105 #[.slice A0 l0.length c0,.slice A1 l1.length c1] w fun e w'=>∃ v0_:Value,e=.returned (v0_)∧Kd.R (Kd.int .i64) 3 w' w.heap.size (fun k_=>(w.heap.size≤k_)) v0_ r∧Below w.heap.size w w':=by
 have HR0:=ak_ hr0;have HC0:=ak_ hc0;clear hr0 hc0;have HR1:=ak_ hr1;have HC1:=ak_ hc1;clear hr1 hc1;have HB:=ak_ (Below.refl w.heap.size w);have H:(if 0≤(wrap64 ((wrap64 ((l0.length:Int)+(l1.length:Int)))+1)) then (if (wrap64 ((wrap64 ((l0.length:Int)+(l1.length:Int)))+1):Int).toNat≤35184372088832 then (nat_mul.l0 k l1 (List.replicate (wrap64 ((wrap64 ((l0.length:Int)+(l1.length:Int)))+1):Int).toNat 0) l0 (l0.length:Int) 0) else (none)) else (none))=some r:=h;clear h;obtain⟨ji3,hji3⟩:∃ j_:Int,(wrap64 ((wrap64 ((l0.length:Int)+(l1.length:Int)))+1))=j_:=⟨_,rfl⟩;(first|rw[hji3] at H|simp only[hji3] at H);have hji3w:(IntKind.i64.wrap ((wrap64 ((l0.length:Int)+(l1.length:Int)))+1))=ji3:=(i64_w _).trans hji3;replace H:=bx_ H;obtain⟨c4,H⟩:=H;have c4b0:=eq_true c4;have c4b1:=dt_ c4;clear c4;replace H:=bx_ H;obtain⟨c5,H⟩:=H;have c5b0:=eq_true c5;have c5b1:=dt_ c5;clear c5;obtain⟨y108,hy108⟩:∃ y_:List Int,y_ = (List.replicate (ji3:Int).toNat 0):=⟨_,rfl⟩
 replace H:(nat_mul.l0 k l1 y108 l0 (l0.length:Int) 0)=some r:=hr_ hy108 H
 have Ny108:=ak_ hy108;clear hy108;have H':=ak_ H;clear H;go_in
 go_wp2_with (first|((with_reducible refine gate_dst (N:=16) rfl ?_);refine Kd.R_make (Kd.int .i64) _ 3 rfl (N:=16) rfl 100 _ _ rfl ji3 (by first|rfl|(rw[← hji3];rfl)) (by first|rfl|(rw[← hji3];rfl)) Tryz.underlying100 (.int .i64 0) 8 info3 rfl (by decide) (by omega) 0 (ok:=fun _=>True) (okp:=fun _=>True) rfl (fun _ hk=>hk) trivial (od_ as_f) (by have h_:=(od_ as_f:ji3.toNat≤35184372088832);omega) (Below.refl _ _) (nr_ _) ?_;intro v109 w6 ho7 hb hg_ hnew_;clear hg_ hnew_;(first|rw[← Ny108.out] at ho7|(simp only[Int.reduceToNat] at ho7;rw[← Ny108.out] at ho7));have HO110:=ak_ (Kd.R_lower (Kd.R_newM (M:=fun k_=>(w.heap.size≤k_)) ho7 (below_size (b_ HB.out)) (fun k_ h_=>h_)) (below_size (b_ HB.out)));replace HB:=bs_ HB hb;clear hb ho7))
 repeat(go_quiet (first|((with_reducible refine gate_dst (N:=16) rfl ?_);refine Kd.R_make (Kd.int .i64) _ 3 rfl (N:=16) rfl 100 _ _ rfl ji3 (by first|rfl|(rw[← hji3];rfl)) (by first|rfl|(rw[← hji3];rfl)) Tryz.underlying100 (.int .i64 0) 8 info3 rfl (by decide) (by omega) 0 (ok:=fun _=>True) (okp:=fun _=>True) rfl (fun _ hk=>hk) trivial (od_ as_f) (by have h_:=(od_ as_f:ji3.toNat≤35184372088832);omega) (Below.refl _ _) (nr_ _) ?_;intro v109 w6 ho7 hb hg_ hnew_;clear hg_ hnew_;(first|rw[← Ny108.out] at ho7|(simp only[Int.reduceToNat] at ho7;rw[← Ny108.out] at ho7));have HO110:=ak_ (Kd.R_lower (Kd.R_newM (M:=fun k_=>(w.heap.size≤k_)) ho7 (below_size (b_ HB.out)) (fun k_ h_=>h_)) (below_size (b_ HB.out)));replace HB:=bs_ HB hb;clear hb ho7));try go_wp2_with (first|((with_reducible refine gate_dst (N:=16) rfl ?_);refine Kd.R_make (Kd.int .i64) _ 3 rfl (N:=16) rfl 100 _ _ rfl ji3 (by first|rfl|(rw[← hji3];rfl)) (by first|rfl|(rw[← hji3];rfl)) Tryz.underlying100 (.int .i64 0) 8 info3 rfl (by decide) (by omega) 0 (ok:=fun _=>True) (okp:=fun _=>True) rfl (fun _ hk=>hk) trivial (od_ as_f) (by have h_:=(od_ as_f:ji3.toNat≤35184372088832);omega) (Below.refl _ _) (nr_ _) ?_;intro v109 w6 ho7 hb hg_ hnew_;clear hg_ hnew_;(first|rw[← Ny108.out] at ho7|(simp only[Int.reduceToNat] at ho7;rw[← Ny108.out] at ho7));have HO110:=ak_ (Kd.R_lower (Kd.R_newM (M:=fun k_=>(w.heap.size≤k_)) ho7 (below_size (b_ HB.out)) (fun k_ h_=>h_)) (below_size (b_ HB.out)));replace HB:=bs_ HB hb;clear hb ho7)))
 go_loopg [19] k (fun kq v19 w'=>∃ (x5_1:List Int) (x19_1:Int),v19=.int .i64 x19_1∧Aside0 (nat_mul.l0 kq l1 x5_1 l0 (l0.length:Int) x19_1=some r)∧Aside0 (kq≤k)∧Aside0 (Kd.R (Kd.int .i64) 3 w' w.heap.size (fun k_=>(w.heap.size≤k_)) v109 x5_1)∧Aside0 (Below w.heap.size w w'))
 case atStart=>exact⟨(y108),(0),rl_,H',⟨nr_ _⟩,⟨by(with_reducible repeat(first|apply Kd.R_alloc|apply Kd.R_drewN|apply Kd.R_drew));exact Kd.R_mono HO110.out (fun _ hk=>hk.1)⟩,⟨b_ HB.out⟩⟩
 case round =>
  clear H';(try clear c1);(try clear c4b0);(try clear c4b1);(try clear c5b0);(try clear c5b1);obtain⟨x5_1,x19_1,rfl,HA,HK1,HO_5,HB⟩:=hrel
  cases gk with
  | zero=>exact absurd HA.out (by simp[nat_mul.l0])
  | succ k1 =>
   have H:=HA.out;clear HA;simp only[nat_mul.l0] at H;replace H:=bw_ H;rcases H with ⟨c8,H⟩|⟨c8,H⟩
   ·have c8b0:=dt_ c8;clear c8;replace H:=bx_ H;obtain⟨c9,H⟩:=H;have c9b0:=dt_ c9;clear c9;replace H:=bx_ H;obtain⟨c10,H⟩:=H;have c10b0:=dt_ c10;clear c10;have H':=ak_ H;clear H;have p114:0≤(x19_1:Int):=od_ as_f;have q114:x19_1<(l0.length:Int):=od_ as_f;obtain⟨ad114,e114,hx114_0⟩:=Kd.at_int HR0.out x19_1 p114 q114
    cases e114
    replace hx114_0:=(HB.out.cell (World.block_lt_of_cell? w _ hx114_0)).trans hx114_0;replace p114:=eq_true p114;replace q114:=eq_true q114;go_wp2
    repeat(go_quiet (fail);try go_wp2)
    go_loopg [8,27] k1 (fun kq v8 v27 w'=>∃ (x5_2:List Int) (x8_2 x27_2:Int),v8=.int .i64 x8_2∧v27=.int .i64 x27_2∧Aside0 (nat_mul.l1 kq l1 x5_2 x19_1 (rd l0 x19_1) x8_2 l0 (l0.length:Int) x19_1 (wrap64 ((l1.length:Int)+1)) x27_2=some r)∧Aside0 (kq≤k1)∧Aside0 (Kd.R (Kd.int .i64) 3 w' w.heap.size (fun k_=>(w.heap.size≤k_)) v109 x5_2)∧Aside0 (Below w.heap.size w w'))
    case atStart=>exact⟨(x5_1),(0),(0),rl_,rl_,H',⟨nr_ _⟩,⟨by(with_reducible repeat(first|apply Kd.R_alloc|apply Kd.R_drewN|apply Kd.R_drew));exact HO_5.out⟩,⟨b_ HB.out⟩⟩
    case round =>
     clear H';(try clear c1);(try clear c4b0);(try clear c4b1);(try clear c5b0);(try clear c5b1);(try clear c8b0);(try clear c9b0);(try clear c10b0);(try clear hx114_0);(try clear p114);(try clear q114);obtain⟨x5_2,x8_2,x27_2,rfl,rfl,HA,HK2,HO_5,HB⟩:=hrel
     cases gk with
     | zero=>exact absurd HA.out (by simp[nat_mul.l1])
     | succ k2 =>
      have H:=HA.out;clear HA;simp only[nat_mul.l1] at H;replace H:=bw_ H;rcases H with ⟨c11,H⟩|⟨c11,H⟩
      ·have c11b0:=dt_ c11
       have c11b0w:decide (x27_2<(IntKind.i64.wrap ((l1.length:Int)+1)))=true:=by simp only[i64_w];exact c11b0
       clear c11;obtain⟨ji12,hji12⟩:∃ j_:Int,(wrap64 (x19_1+x27_2))=j_:=⟨_,rfl⟩;(first|rw[hji12] at H|simp only[hji12] at H);have hji12w:(IntKind.i64.wrap (x19_1+x27_2))=ji12:=(i64_w _).trans hji12;replace H:=bx_ H;obtain⟨c13,H⟩:=H;replace c13:=dt_ c13;replace H:=bx_ H;obtain⟨c14,H⟩:=H;replace c14:=dt_ c14;obtain⟨t116,A15,H⟩:=bi_ H;obtain⟨y117,hy117⟩:∃ y_:List Int,y_ = (x5_2.set ((ji12):Int).toNat (Int.tmod (wrap64 (x8_2+(wrap64 ((rd x5_2 (ji12))+(wrap64 ((rd l0 x19_1) * t116)))))) 10000)):=⟨_,rfl⟩
       replace H:(nat_mul.l1 k2 l1 y117 x19_1 (rd l0 x19_1) (wrap64 (Int.tdiv (wrap64 (x8_2+(wrap64 ((rd x5_2 (ji12))+(wrap64 ((rd l0 x19_1) * t116)))))) 10000)) l0 (l0.length:Int) x19_1 (wrap64 ((l1.length:Int)+1)) (wrap64 (x27_2+1)))=some r:=hr_ hy117 H
       have Ny117:=ak_ hy117;clear hy117;have H':=ak_ H;clear H;obtain⟨Ao17,co17,eo17⟩:=Kd.R_slice HO_5.out;subst eo17;have p115:0≤((ji12):Int):=od_ as_f;have q115:(ji12)<(x5_2.length:Int):=od_ as_f;obtain⟨ad115,e115,hx115_0⟩:=Kd.at_int (Kd.R_reads' HO_5.out).2.2 (ji12) p115 q115
       cases e115
       replace p115:=eq_true p115;replace q115:=eq_true q115
       go_wp2_with (first|(go_at_call 145;(with_reducible refine(nat_limbs_at.calls _ _ _ _ _ _ ?side1 ?side2 A15.out).mono ?_);(case side1=>exact c_ (Kd.C_below HR1.out HB.out));(case side2=>exact HC1.out);rintro e w' ⟨rfl,⟨nd,rfl⟩⟩;(try exact dd_);have p16:0≤((ji12):Int):=od_ as_f;have q16:((ji12):Int)<((x5_2.length:Int):Int):=od_ as_f;obtain⟨go16,co16,eo16,gb16,gl16,cl16,HG16⟩:=Kd.R_form HO_5.out (by omega);(first|cases eo16|(injection eo16 with ea_ en_ ec_;(first|subst ea_|(injection ea_ with ea_;subst ea_));subst ec_;clear en_));have GB16:=ak_ gb16;have GG16:=ak_ HG16;clear gb16 gl16 HG16;(first|simp only[add_plain] at hx115_0|skip);obtain⟨hx16_0,hf16_0⟩:=Kd.R_celln 0 HO_5.out ((ji12):Int) p16 q16;replace p16:=eq_true p16;replace q16:=eq_true q16;obtain⟨hy18_,hz18_⟩:=Kd.R_celln 0 HO_5.out ((ji12):Int) (od_ as_f) (od_ as_f);have HP18:=Kd.R_putg HO_5.out ((ji12):Int) (Int.tmod (wrap64 (x8_2+(wrap64 ((rd x5_2 (ji12))+(wrap64 ((rd l0 x19_1) * t116)))))) 10000))|((with_reducible refine gate_store (t:=3) (p:=50) rfl ?_);(try(rw[drewN_self wr];generalize hq_:World.drewN wr _ = wr;have n0_:=ak_ (Kd.R_at hq_ HO_5.out);have n1_:=ak_ (below_at hq_ HB.out);clear hq_ HO_5 HB;have HO_5:=n0_;have HB:=n1_;clear n0_ n1_;(try(obtain⟨hy18_,hz18_⟩:=Kd.R_celln 0 HO_5.out ((ji12):Int) (od_ as_f) (od_ as_f)));(try(have HP18:=Kd.R_putg HO_5.out ((ji12):Int) (Int.tmod (wrap64 (x8_2+(wrap64 ((rd x5_2 (ji12))+(wrap64 ((rd l0 x19_1) * t116)))))) 10000)))));refine store_event (t:=3) (p:=50) (v:=?vo_w19) (w1:=(wr.setCell ⟨go16,((ji12):Int).toNat,none⟩ (.int .i64 (Int.tmod (wrap64 (x8_2+(wrap64 ((rd x5_2 (ji12))+(wrap64 ((rd l0 x19_1) * t116)))))) 10000)))) ?hg ?ho ?hn ?hr ?_;(case ho=>rfl);(case hg=>rfl);(case hn=>rfl);(case hr=>first|(go_simp;done)|(go_simp;rfl));intro w19 hw;have hg:wr.grownBy w19 (some go16):=(by rw[hw];exact HP18.2);have hp_:Kd.R (Kd.int .i64) 3 w19 w.heap.size (fun k_=>(w.heap.size≤k_)) (.slice (some ⟨go16,0,none⟩) x5_2.length co17) y117:=(by rw[hw,Ny117.out];exact HP18.1);clear HP18;replace HO_5:=ak_ (hp_);replace HB:=ak_ ((by rw[hw];exact below_set (HB.out) GB16.out:Below w.heap.size w w19));clear hg hw hp_))
       repeat(go_quiet (first|(go_at_call 145;(with_reducible refine(nat_limbs_at.calls _ _ _ _ _ _ ?side1 ?side2 A15.out).mono ?_);(case side1=>exact c_ (Kd.C_below HR1.out HB.out));(case side2=>exact HC1.out);rintro e w' ⟨rfl,⟨nd,rfl⟩⟩;(try exact dd_);have p16:0≤((ji12):Int):=od_ as_f;have q16:((ji12):Int)<((x5_2.length:Int):Int):=od_ as_f;obtain⟨go16,co16,eo16,gb16,gl16,cl16,HG16⟩:=Kd.R_form HO_5.out (by omega);(first|cases eo16|(injection eo16 with ea_ en_ ec_;(first|subst ea_|(injection ea_ with ea_;subst ea_));subst ec_;clear en_));have GB16:=ak_ gb16;have GG16:=ak_ HG16;clear gb16 gl16 HG16;(first|simp only[add_plain] at hx115_0|skip);obtain⟨hx16_0,hf16_0⟩:=Kd.R_celln 0 HO_5.out ((ji12):Int) p16 q16;replace p16:=eq_true p16;replace q16:=eq_true q16;obtain⟨hy18_,hz18_⟩:=Kd.R_celln 0 HO_5.out ((ji12):Int) (od_ as_f) (od_ as_f);have HP18:=Kd.R_putg HO_5.out ((ji12):Int) (Int.tmod (wrap64 (x8_2+(wrap64 ((rd x5_2 (ji12))+(wrap64 ((rd l0 x19_1) * t116)))))) 10000))|((with_reducible refine gate_store (t:=3) (p:=50) rfl ?_);(try(rw[drewN_self wr];generalize hq_:World.drewN wr _ = wr;have n0_:=ak_ (Kd.R_at hq_ HO_5.out);have n1_:=ak_ (below_at hq_ HB.out);clear hq_ HO_5 HB;have HO_5:=n0_;have HB:=n1_;clear n0_ n1_;(try(obtain⟨hy18_,hz18_⟩:=Kd.R_celln 0 HO_5.out ((ji12):Int) (od_ as_f) (od_ as_f)));(try(have HP18:=Kd.R_putg HO_5.out ((ji12):Int) (Int.tmod (wrap64 (x8_2+(wrap64 ((rd x5_2 (ji12))+(wrap64 ((rd l0 x19_1) * t116)))))) 10000)))));refine store_event (t:=3) (p:=50) (v:=?vo_w19) (w1:=(wr.setCell ⟨go16,((ji12):Int).toNat,none⟩ (.int .i64 (Int.tmod (wrap64 (x8_2+(wrap64 ((rd x5_2 (ji12))+(wrap64 ((rd l0 x19_1) * t116)))))) 10000)))) ?hg ?ho ?hn ?hr ?_;(case ho=>rfl);(case hg=>rfl);(case hn=>rfl);(case hr=>first|(go_simp;done)|(go_simp;rfl));intro w19 hw;have hg:wr.grownBy w19 (some go16):=(by rw[hw];exact HP18.2);have hp_:Kd.R (Kd.int .i64) 3 w19 w.heap.size (fun k_=>(w.heap.size≤k_)) (.slice (some ⟨go16,0,none⟩) x5_2.length co17) y117:=(by rw[hw,Ny117.out];exact HP18.1);clear HP18;replace HO_5:=ak_ (hp_);replace HB:=ak_ ((by rw[hw];exact below_set (HB.out) GB16.out:Below w.heap.size w w19));clear hg hw hp_));try go_wp2_with (first|(go_at_call 145;(with_reducible refine(nat_limbs_at.calls _ _ _ _ _ _ ?side1 ?side2 A15.out).mono ?_);(case side1=>exact c_ (Kd.C_below HR1.out HB.out));(case side2=>exact HC1.out);rintro e w' ⟨rfl,⟨nd,rfl⟩⟩;(try exact dd_);have p16:0≤((ji12):Int):=od_ as_f;have q16:((ji12):Int)<((x5_2.length:Int):Int):=od_ as_f;obtain⟨go16,co16,eo16,gb16,gl16,cl16,HG16⟩:=Kd.R_form HO_5.out (by omega);(first|cases eo16|(injection eo16 with ea_ en_ ec_;(first|subst ea_|(injection ea_ with ea_;subst ea_));subst ec_;clear en_));have GB16:=ak_ gb16;have GG16:=ak_ HG16;clear gb16 gl16 HG16;(first|simp only[add_plain] at hx115_0|skip);obtain⟨hx16_0,hf16_0⟩:=Kd.R_celln 0 HO_5.out ((ji12):Int) p16 q16;replace p16:=eq_true p16;replace q16:=eq_true q16;obtain⟨hy18_,hz18_⟩:=Kd.R_celln 0 HO_5.out ((ji12):Int) (od_ as_f) (od_ as_f);have HP18:=Kd.R_putg HO_5.out ((ji12):Int) (Int.tmod (wrap64 (x8_2+(wrap64 ((rd x5_2 (ji12))+(wrap64 ((rd l0 x19_1) * t116)))))) 10000))|((with_reducible refine gate_store (t:=3) (p:=50) rfl ?_);(try(rw[drewN_self wr];generalize hq_:World.drewN wr _ = wr;have n0_:=ak_ (Kd.R_at hq_ HO_5.out);have n1_:=ak_ (below_at hq_ HB.out);clear hq_ HO_5 HB;have HO_5:=n0_;have HB:=n1_;clear n0_ n1_;(try(obtain⟨hy18_,hz18_⟩:=Kd.R_celln 0 HO_5.out ((ji12):Int) (od_ as_f) (od_ as_f)));(try(have HP18:=Kd.R_putg HO_5.out ((ji12):Int) (Int.tmod (wrap64 (x8_2+(wrap64 ((rd x5_2 (ji12))+(wrap64 ((rd l0 x19_1) * t116)))))) 10000)))));refine store_event (t:=3) (p:=50) (v:=?vo_w19) (w1:=(wr.setCell ⟨go16,((ji12):Int).toNat,none⟩ (.int .i64 (Int.tmod (wrap64 (x8_2+(wrap64 ((rd x5_2 (ji12))+(wrap64 ((rd l0 x19_1) * t116)))))) 10000)))) ?hg ?ho ?hn ?hr ?_;(case ho=>rfl);(case hg=>rfl);(case hn=>rfl);(case hr=>first|(go_simp;done)|(go_simp;rfl));intro w19 hw;have hg:wr.grownBy w19 (some go16):=(by rw[hw];exact HP18.2);have hp_:Kd.R (Kd.int .i64) 3 w19 w.heap.size (fun k_=>(w.heap.size≤k_)) (.slice (some ⟨go16,0,none⟩) x5_2.length co17) y117:=(by rw[hw,Ny117.out];exact HP18.1);clear HP18;replace HO_5:=ak_ (hp_);replace HB:=ak_ ((by rw[hw];exact below_set (HB.out) GB16.out:Below w.heap.size w w19));clear hg hw hp_)))
       go_roundg k2
       case measure=>have:=HK1.out;have:=HK2.out;omega
       case rel=>exact⟨(y117),(wrap64 (Int.tdiv (wrap64 (x8_2+(wrap64 ((rd x5_2 (ji12))+(wrap64 ((rd l0 x19_1) * t116)))))) 10000)),(wrap64 (x27_2+1)),(by first|rfl|(simp;done)|(simp only[← hji12] <;> (first|rfl|simp))|(simp[*];done)),rl_,H',⟨by have:=HK1.out;have:=HK2.out;omega⟩,⟨by(with_reducible repeat(first|apply Kd.R_alloc|apply Kd.R_drewN|apply Kd.R_drew));exact HO_5.out⟩,⟨b_ HB.out⟩⟩
      ·have c11b0:=df_ c11
       have c11b0w:decide (x27_2<(IntKind.i64.wrap ((l1.length:Int)+1)))=false:=by simp only[i64_w];exact c11b0
       clear c11;have H':=ak_ H;clear H;go_wp2
       repeat(go_quiet (fail);try go_wp2)
       go_roundg k2
       case measure=>have:=HK1.out;have:=HK2.out;omega
       case rel=>exact⟨(x5_2),(wrap64 (x19_1+1)),rl_,H',⟨by have:=HK1.out;have:=HK2.out;omega⟩,⟨by(with_reducible repeat(first|apply Kd.R_alloc|apply Kd.R_drewN|apply Kd.R_drew));exact HO_5.out⟩,⟨b_ HB.out⟩⟩
   ·have c8b0:=df_ c8;clear c8;obtain⟨t111,A20,H⟩:=bi_ H;obtain rfl:=oi_ H;obtain⟨Ao21,co21,eo21⟩:=Kd.R_slice HO_5.out;subst eo21
    go_wp2_with (go_at_call 143;refine(trim_own (base:=w.heap.size) (ok:=fun k_=>(w.heap.size≤k_)) (e:=3) rfl (w_ HO_5.out) A20.out).mono ?_;rintro e w22 ⟨v112,rfl,rfl,hown⟩)
    go_ret
    exact⟨_,by first|rfl|(simp[errW_none,errW_some] <;> rfl)|(simp only[← hji3];first|rfl|(simp[errW_none,errW_some] <;> rfl))|(simp[*,errW_none,errW_some] <;> rfl),hown,b_ HB.out⟩
end Go.Proofs.YtoghmeffpgbcfaaGreatDoor.Pn
namespace Go.Proofs.YtoghmeffpgbcfaaGreatDoor.Pm
theorem nat_mul.calls (k:Nat) (A0:Option Addr) (c0:Nat) (l0:List Int) (A1:Option Addr) (c1:Nat) (l1 r:List Int) (w:World) (hr0:Kd.C (Kd.int .i64) w A0 l0.length l0) (hc0:l0.length≤c0) (hr1:Kd.C (Kd.int .i64) w A1 l1.length l1) (hc1:l1.length≤c1) (h:nat_mul.f k l0 l1=some r) :
  Calls Tryz.prog 105 #[.slice A0 l0.length c0,.slice A1 l1.length c1] w fun e w'=>∃ v0_:Value,e=.returned (v0_)∧Kd.R (Kd.int .i64) 3 w' w.heap.size (fun k_=>(w.heap.size≤k_)) v0_ r∧Below w.heap.size w w' :=
 Pn.nat_mulR.calls k A0 c0 l0 A1 c1 l1 r w hr0 hc0 hr1 hc1 h
end Go.Proofs.YtoghmeffpgbcfaaGreatDoor.Pm
end
namespace Go.Proofs.YtoghmeffpgbcfaaGreatDoor
open Go.RowKit Go.Proofs.YtoghmeffpgbcfaaGreatDoorW.PrintWords Go.Proofs.YtoghmeffpgbcfaaGreatDoorW.PrintLast Go.Proofs.YtoghmeffpgbcfaaGreatDoorW.PrintMore
attribute [local go_sem] max2_int min2_int max_two min_two max_three min_three max_four min_four
namespace Pt
open Pm
def errW:Option Int→Value
 | none=>.nilIface
 | some c=>.iface 0 (.int .i64 c)
theorem errW_none:errW none=.nilIface:=rfl
theorem errW_some (c:Int):errW (some c)=.iface 0 (.int .i64 c):=rfl
theorem info3:(Tryz.prog.info? 3).map (fun i=>(i.zero,i.size,i.bytes))=some (some (.int .i64 0),1,8):=by kernel_rfl
def nat_limbs_at.f (l0:List Int) (a1:Int):Option (Int):=if a1<(l0.length:Int) then (if 0≤a1 then (some (rd l0 a1)) else (none)) else (some 0)
theorem nat_limbs_at.calls (A0:Option Addr) (c0:Nat) (l0:List Int) (a1 r:Int) (w:World) (hr0:Kd.C (Kd.int .i64) w A0 l0.length l0) (hc0:l0.length≤c0) (h:nat_limbs_at.f l0 a1=some r) :
  Calls Tryz.prog 145 #[.slice A0 l0.length c0,.int .i64 a1] w fun e w'=>e=.returned (.int .i64 r)∧Drawn0 w w':=by
 have HR0:=ak_ hr0;have HC0:=ak_ hc0;clear hr0 hc0;have H:=h;unfold nat_limbs_at.f at H;clear h;replace H:=bw_ H;rcases H with ⟨c3,H⟩|⟨c3,H⟩
 ·have c3b0:=dt_ c3;clear c3;replace H:=bx_ H;obtain⟨c4,H⟩:=H;replace c4:=dt_ c4;obtain rfl:=oi_ H;have p101:0≤(a1:Int):=od_ as_f;have q101:a1<(l0.length:Int):=od_ as_f;obtain⟨ad101,e101,hx101_0⟩:=Kd.at_int HR0.out a1 p101 q101
  cases e101
  replace p101:=eq_true p101;replace q101:=eq_true q101;go_in;go_wp2
  go_ret
  exact⟨rl_,d0_⟩
 ·have c3b0:=df_ c3;clear c3;obtain rfl:=oi_ H;go_in;go_wp2
  go_ret
  exact⟨rl_,d0_⟩
def nat_take.l0:Nat→List Int→List Int→Int→Int→Int→Int→Int→Option (Int×List Int)
 | 0,_,_,_,_,_,_,_=>none
 | k+1,x0,x1,x2,x3,x9,x14,x15=>if x15<x14 then (if 0≤(wrap64 (x2+x15)) then (if (wrap64 (x2+x15))<(x0.length:Int) then ((nat_limbs_at.f x1 x15).bind fun t103=>(if (wrap64 ((wrap64 ((rd x0 (wrap64 (x2+x15)))-(wrap64 (x3 * t103))))+x9))<0 then (nat_take.l0 k (x0.set ((wrap64 (x2+x15)):Int).toNat (wrap64 ((wrap64 ((wrap64 ((rd x0 (wrap64 (x2+x15)))-(wrap64 (x3 * t103))))+x9))-(wrap64 ((wrap64 (-(wrap64 (Int.tdiv (wrap64 ((wrap64 ((wrap64 (-(wrap64 ((wrap64 ((rd x0 (wrap64 (x2+x15)))-(wrap64 (x3 * t103))))+x9))))+10000))-1)) 10000)))) * 10000))))) x1 x2 x3 (wrap64 (-(wrap64 (Int.tdiv (wrap64 ((wrap64 ((wrap64 (-(wrap64 ((wrap64 ((rd x0 (wrap64 (x2+x15)))-(wrap64 (x3 * t103))))+x9))))+10000))-1)) 10000)))) x14 (wrap64 (x15+1))) else (nat_take.l0 k (x0.set ((wrap64 (x2+x15)):Int).toNat (wrap64 ((wrap64 ((wrap64 ((rd x0 (wrap64 (x2+x15)))-(wrap64 (x3 * t103))))+x9))-(0 * 10000)))) x1 x2 x3 0 x14 (wrap64 (x15+1))))) else (none)) else (none)) else (some (x9,x0))
def nat_take.f (k:Nat) (l0 l1:List Int) (a2 a3:Int):Option (Int×List Int):=nat_take.l0 k l0 l1 a2 a3 0 (wrap64 ((l1.length:Int)+1)) 0
theorem nat_take.calls (k:Nat) (P0_:Nat→Prop) (u9000_:Value) (l0:List Int) (A1:Option Addr) (c1:Nat) (l1:List Int) (a2 a3 r1:Int) (r2:List Int) (w0 w:World) (hB:Below w0.heap.size w0 w) (ho0:Kd.R (Kd.int .i64) 3 w w0.heap.size P0_ u9000_ l0) (hr1:∀ W_,Kept w W_ (fun k_=>P0_ k_)→Kd.C (Kd.int .i64) W_ A1 l1.length l1) (hc1:l1.length≤c1) (h:nat_take.f k l0 l1 a2 a3=some (r1,r2)) :
  Calls Tryz.prog 141 #[u9000_,.slice A1 l1.length c1,.int .i64 a2,.int .i64 a3] w fun e w'=>e=.returned (.int .i64 r1)∧Kd.R (Kd.int .i64) 3 w' w0.heap.size (fun k_=>(P0_ k_∨w.heap.size≤k_)) u9000_ r2∧Below w0.heap.size w0 w'∧Kept w w' (fun k_=>P0_ k_):=by
 have HO0:=ak_ (show Kd.R (Kd.int .i64) 3 w w0.heap.size (fun k_=>(P0_ k_∨w.heap.size≤k_)) u9000_ l0 from Kd.R_mono ho0 (fun k_ hk=>(.inl hk)));have HR1:=ak_ hr1;have HC1:=ak_ hc1;clear hr1 hc1;have HK:=ak_ (Kept.refl w (fun k_=>P0_ k_));have HW0:=ak_ hB.size;have HB:=ak_ hB;clear hB;have H:=h;unfold nat_take.f at H;clear h;have H':=ak_ H;clear H;go_in;go_wp2
 repeat(go_quiet (fail);try go_wp2)
 go_loopg [9,15] k (fun kq v9 v15 w'=>∃ (x0_1:List Int) (x9_1 x15_1:Int),v9=.int .i64 x9_1∧v15=.int .i64 x15_1∧Aside0 (nat_take.l0 kq x0_1 l1 a2 a3 x9_1 (wrap64 ((l1.length:Int)+1)) x15_1=some (r1,r2))∧Aside0 (kq≤k)∧Aside0 (Kd.R (Kd.int .i64) 3 w' w0.heap.size (fun k_=>(P0_ k_∨w.heap.size≤k_)) u9000_ x0_1)∧Aside0 (Kept w w' (fun k_=>P0_ k_))∧Aside0 (Below w0.heap.size w0 w'))
 case atStart=>exact⟨(l0),(0),(0),rl_,rl_,H',⟨nr_ _⟩,⟨by(with_reducible repeat(first|apply Kd.R_alloc|apply Kd.R_drewN|apply Kd.R_drew));exact HO0.out⟩,⟨by repeat(first|(with_reducible first|exact HK.out|apply Kept.alloc|apply Kept.drewN|apply Kept.drew)|exact HK.out)⟩,⟨b_ HB.out⟩⟩
 case round =>
  clear H';(try clear c1);obtain⟨x0_1,x9_1,x15_1,rfl,rfl,HA,HK1,HO_0,HK,HB⟩:=hrel
  cases gk with
  | zero=>exact absurd HA.out (by simp[nat_take.l0])
  | succ k1 =>
   have H:=HA.out;clear HA;simp only[nat_take.l0] at H;replace H:=bw_ H;rcases H with ⟨c5,H⟩|⟨c5,H⟩
   ·have c5b0:=dt_ c5
    have c5b0w:decide (x15_1<(IntKind.i64.wrap ((l1.length:Int)+1)))=true:=by simp only[i64_w];exact c5b0
    clear c5;obtain⟨ji6,hji6⟩:∃ j_:Int,(wrap64 (a2+x15_1))=j_:=⟨_,rfl⟩;(first|rw[hji6] at H|simp only[hji6] at H);have hji6w:(IntKind.i64.wrap (a2+x15_1))=ji6:=(i64_w _).trans hji6;replace H:=bx_ H;obtain⟨c7,H⟩:=H;replace c7:=dt_ c7;replace H:=bx_ H;obtain⟨c8,H⟩:=H;replace c8:=dt_ c8;obtain⟨t103,A9,H⟩:=bi_ H;replace H:=bw_ H;rcases H with ⟨c10,H⟩|⟨c10,H⟩
    ·have c10b0:=dt_ c10
     have c10b0w:decide ((IntKind.i64.wrap ((IntKind.i64.wrap ((rd x0_1 (ji6))-(IntKind.i64.wrap (a3 * t103))))+x9_1))<0)=true:=by simp only[i64_w];exact c10b0
     clear c10;obtain⟨y104,hy104⟩:∃ y_:List Int,y_ = (x0_1.set ((ji6):Int).toNat (wrap64 ((wrap64 ((wrap64 ((rd x0_1 (ji6))-(wrap64 (a3 * t103))))+x9_1))-(wrap64 ((wrap64 (-(wrap64 (Int.tdiv (wrap64 ((wrap64 ((wrap64 (-(wrap64 ((wrap64 ((rd x0_1 (ji6))-(wrap64 (a3 * t103))))+x9_1))))+10000))-1)) 10000)))) * 10000))))):=⟨_,rfl⟩
     replace H:(nat_take.l0 k1 y104 l1 a2 a3 (wrap64 (-(wrap64 (Int.tdiv (wrap64 ((wrap64 ((wrap64 (-(wrap64 ((wrap64 ((rd x0_1 (ji6))-(wrap64 (a3 * t103))))+x9_1))))+10000))-1)) 10000)))) (wrap64 ((l1.length:Int)+1)) (wrap64 (x15_1+1)))=some (r1,r2):=hr_ hy104 H
     have Ny104:=ak_ hy104;clear hy104;have H':=ak_ H;clear H;obtain⟨Ao12,co12,eo12⟩:=Kd.R_slice HO_0.out;subst eo12;have p102:0≤((ji6):Int):=od_ as_f;have q102:(ji6)<(x0_1.length:Int):=od_ as_f;obtain⟨ad102,e102,hx102_0⟩:=Kd.at_int (Kd.R_reads' HO_0.out).2.2 (ji6) p102 q102
     cases e102
     replace p102:=eq_true p102;replace q102:=eq_true q102
     go_wp2_with (first|(go_at_call 145;(with_reducible refine(nat_limbs_at.calls _ _ _ _ _ _ ?side1 ?side2 A9.out).mono ?_);(case side1=>exact Kd.C_kept_now HR1.out (kt_ HK.out));(case side2=>exact HC1.out);rintro e w' ⟨rfl,⟨nd,rfl⟩⟩;(try exact dd_);have p11:0≤((ji6):Int):=od_ as_f;have q11:((ji6):Int)<((x0_1.length:Int):Int):=od_ as_f;obtain⟨go11,co11,eo11,gb11,gl11,cl11,HG11⟩:=Kd.R_form HO_0.out (by omega);(first|cases eo11|(injection eo11 with ea_ en_ ec_;(first|subst ea_|(injection ea_ with ea_;subst ea_));subst ec_;clear en_));have GB11:=ak_ gb11;have GG11:=ak_ HG11;clear gb11 gl11 HG11;have HMgo11:=ak_ (show (P0_ go11∨w.heap.size≤go11) from (HO_0.out.1 _ rfl));(first|simp only[add_plain] at hx102_0|skip);obtain⟨hx11_0,hf11_0⟩:=Kd.R_celln 0 HO_0.out ((ji6):Int) p11 q11;replace p11:=eq_true p11;replace q11:=eq_true q11;obtain⟨hy13_,hz13_⟩:=Kd.R_celln 0 HO_0.out ((ji6):Int) (od_ as_f) (od_ as_f);have HP13:=Kd.R_putg HO_0.out ((ji6):Int) (wrap64 ((wrap64 ((wrap64 ((rd x0_1 (ji6))-(wrap64 (a3 * t103))))+x9_1))-(wrap64 ((wrap64 (-(wrap64 (Int.tdiv (wrap64 ((wrap64 ((wrap64 (-(wrap64 ((wrap64 ((rd x0_1 (ji6))-(wrap64 (a3 * t103))))+x9_1))))+10000))-1)) 10000)))) * 10000)))))|((with_reducible refine gate_store (t:=3) (p:=48) rfl ?_);(try(rw[drewN_self wr];generalize hq_:World.drewN wr _ = wr;have n0_:=ak_ (Kd.R_at hq_ HO_0.out);have n1_:=ak_ (kept_at hq_ HK.out);have n2_:=ak_ (below_at hq_ HB.out);clear hq_ HO_0 HK HB;have HO_0:=n0_;have HK:=n1_;have HB:=n2_;clear n0_ n1_ n2_;(try(obtain⟨hy13_,hz13_⟩:=Kd.R_celln 0 HO_0.out ((ji6):Int) (od_ as_f) (od_ as_f)));(try(have HP13:=Kd.R_putg HO_0.out ((ji6):Int) (wrap64 ((wrap64 ((wrap64 ((rd x0_1 (ji6))-(wrap64 (a3 * t103))))+x9_1))-(wrap64 ((wrap64 (-(wrap64 (Int.tdiv (wrap64 ((wrap64 ((wrap64 (-(wrap64 ((wrap64 ((rd x0_1 (ji6))-(wrap64 (a3 * t103))))+x9_1))))+10000))-1)) 10000)))) * 10000))))))));refine store_event (t:=3) (p:=48) (v:=?vo_w14) (w1:=(wr.setCell ⟨go11,((ji6):Int).toNat,none⟩ (.int .i64 (wrap64 ((wrap64 ((wrap64 ((rd x0_1 (ji6))-(wrap64 (a3 * t103))))+x9_1))-(wrap64 ((wrap64 (-(wrap64 (Int.tdiv (wrap64 ((wrap64 ((wrap64 (-(wrap64 ((wrap64 ((rd x0_1 (ji6))-(wrap64 (a3 * t103))))+x9_1))))+10000))-1)) 10000)))) * 10000))))))) ?hg ?ho ?hn ?hr ?_;(case ho=>rfl);(case hg=>rfl);(case hn=>rfl);(case hr=>first|(go_simp;done)|(go_simp;rfl));intro w14 hw;have hg:wr.grownBy w14 (some go11):=(by rw[hw];exact HP13.2);have hp_:Kd.R (Kd.int .i64) 3 w14 w0.heap.size (fun k_=>(P0_ k_∨w.heap.size≤k_)) (.slice (some ⟨go11,0,none⟩) x0_1.length co12) y104:=(by rw[hw,Ny104.out];exact HP13.1);clear HP13;replace HB:=ak_ ((by rw[hw];exact below_set (HB.out) GB11.out:Below w0.heap.size w0 w14));replace HK:=ak_ (Kept.of_grown (S:=(fun k_=>P0_ k_)) hg (kt_ HK.out) (fun k_ e_=>(HO_0.out.1 k_ e_)));replace HO_0:=ak_ (hp_);clear hg hw hp_))
     repeat(go_quiet (first|(go_at_call 145;(with_reducible refine(nat_limbs_at.calls _ _ _ _ _ _ ?side1 ?side2 A9.out).mono ?_);(case side1=>exact Kd.C_kept_now HR1.out (kt_ HK.out));(case side2=>exact HC1.out);rintro e w' ⟨rfl,⟨nd,rfl⟩⟩;(try exact dd_);have p11:0≤((ji6):Int):=od_ as_f;have q11:((ji6):Int)<((x0_1.length:Int):Int):=od_ as_f;obtain⟨go11,co11,eo11,gb11,gl11,cl11,HG11⟩:=Kd.R_form HO_0.out (by omega);(first|cases eo11|(injection eo11 with ea_ en_ ec_;(first|subst ea_|(injection ea_ with ea_;subst ea_));subst ec_;clear en_));have GB11:=ak_ gb11;have GG11:=ak_ HG11;clear gb11 gl11 HG11;have HMgo11:=ak_ (show (P0_ go11∨w.heap.size≤go11) from (HO_0.out.1 _ rfl));(first|simp only[add_plain] at hx102_0|skip);obtain⟨hx11_0,hf11_0⟩:=Kd.R_celln 0 HO_0.out ((ji6):Int) p11 q11;replace p11:=eq_true p11;replace q11:=eq_true q11;obtain⟨hy13_,hz13_⟩:=Kd.R_celln 0 HO_0.out ((ji6):Int) (od_ as_f) (od_ as_f);have HP13:=Kd.R_putg HO_0.out ((ji6):Int) (wrap64 ((wrap64 ((wrap64 ((rd x0_1 (ji6))-(wrap64 (a3 * t103))))+x9_1))-(wrap64 ((wrap64 (-(wrap64 (Int.tdiv (wrap64 ((wrap64 ((wrap64 (-(wrap64 ((wrap64 ((rd x0_1 (ji6))-(wrap64 (a3 * t103))))+x9_1))))+10000))-1)) 10000)))) * 10000)))))|((with_reducible refine gate_store (t:=3) (p:=48) rfl ?_);(try(rw[drewN_self wr];generalize hq_:World.drewN wr _ = wr;have n0_:=ak_ (Kd.R_at hq_ HO_0.out);have n1_:=ak_ (kept_at hq_ HK.out);have n2_:=ak_ (below_at hq_ HB.out);clear hq_ HO_0 HK HB;have HO_0:=n0_;have HK:=n1_;have HB:=n2_;clear n0_ n1_ n2_;(try(obtain⟨hy13_,hz13_⟩:=Kd.R_celln 0 HO_0.out ((ji6):Int) (od_ as_f) (od_ as_f)));(try(have HP13:=Kd.R_putg HO_0.out ((ji6):Int) (wrap64 ((wrap64 ((wrap64 ((rd x0_1 (ji6))-(wrap64 (a3 * t103))))+x9_1))-(wrap64 ((wrap64 (-(wrap64 (Int.tdiv (wrap64 ((wrap64 ((wrap64 (-(wrap64 ((wrap64 ((rd x0_1 (ji6))-(wrap64 (a3 * t103))))+x9_1))))+10000))-1)) 10000)))) * 10000))))))));refine store_event (t:=3) (p:=48) (v:=?vo_w14) (w1:=(wr.setCell ⟨go11,((ji6):Int).toNat,none⟩ (.int .i64 (wrap64 ((wrap64 ((wrap64 ((rd x0_1 (ji6))-(wrap64 (a3 * t103))))+x9_1))-(wrap64 ((wrap64 (-(wrap64 (Int.tdiv (wrap64 ((wrap64 ((wrap64 (-(wrap64 ((wrap64 ((rd x0_1 (ji6))-(wrap64 (a3 * t103))))+x9_1))))+10000))-1)) 10000)))) * 10000))))))) ?hg ?ho ?hn ?hr ?_;(case ho=>rfl);(case hg=>rfl);(case hn=>rfl);(case hr=>first|(go_simp;done)|(go_simp;rfl));intro w14 hw;have hg:wr.grownBy w14 (some go11):=(by rw[hw];exact HP13.2);have hp_:Kd.R (Kd.int .i64) 3 w14 w0.heap.size (fun k_=>(P0_ k_∨w.heap.size≤k_)) (.slice (some ⟨go11,0,none⟩) x0_1.length co12) y104:=(by rw[hw,Ny104.out];exact HP13.1);clear HP13;replace HB:=ak_ ((by rw[hw];exact below_set (HB.out) GB11.out:Below w0.heap.size w0 w14));replace HK:=ak_ (Kept.of_grown (S:=(fun k_=>P0_ k_)) hg (kt_ HK.out) (fun k_ e_=>(HO_0.out.1 k_ e_)));replace HO_0:=ak_ (hp_);clear hg hw hp_));try go_wp2_with (first|(go_at_call 145;(with_reducible refine(nat_limbs_at.calls _ _ _ _ _ _ ?side1 ?side2 A9.out).mono ?_);(case side1=>exact Kd.C_kept_now HR1.out (kt_ HK.out));(case side2=>exact HC1.out);rintro e w' ⟨rfl,⟨nd,rfl⟩⟩;(try exact dd_);have p11:0≤((ji6):Int):=od_ as_f;have q11:((ji6):Int)<((x0_1.length:Int):Int):=od_ as_f;obtain⟨go11,co11,eo11,gb11,gl11,cl11,HG11⟩:=Kd.R_form HO_0.out (by omega);(first|cases eo11|(injection eo11 with ea_ en_ ec_;(first|subst ea_|(injection ea_ with ea_;subst ea_));subst ec_;clear en_));have GB11:=ak_ gb11;have GG11:=ak_ HG11;clear gb11 gl11 HG11;have HMgo11:=ak_ (show (P0_ go11∨w.heap.size≤go11) from (HO_0.out.1 _ rfl));(first|simp only[add_plain] at hx102_0|skip);obtain⟨hx11_0,hf11_0⟩:=Kd.R_celln 0 HO_0.out ((ji6):Int) p11 q11;replace p11:=eq_true p11;replace q11:=eq_true q11;obtain⟨hy13_,hz13_⟩:=Kd.R_celln 0 HO_0.out ((ji6):Int) (od_ as_f) (od_ as_f);have HP13:=Kd.R_putg HO_0.out ((ji6):Int) (wrap64 ((wrap64 ((wrap64 ((rd x0_1 (ji6))-(wrap64 (a3 * t103))))+x9_1))-(wrap64 ((wrap64 (-(wrap64 (Int.tdiv (wrap64 ((wrap64 ((wrap64 (-(wrap64 ((wrap64 ((rd x0_1 (ji6))-(wrap64 (a3 * t103))))+x9_1))))+10000))-1)) 10000)))) * 10000)))))|((with_reducible refine gate_store (t:=3) (p:=48) rfl ?_);(try(rw[drewN_self wr];generalize hq_:World.drewN wr _ = wr;have n0_:=ak_ (Kd.R_at hq_ HO_0.out);have n1_:=ak_ (kept_at hq_ HK.out);have n2_:=ak_ (below_at hq_ HB.out);clear hq_ HO_0 HK HB;have HO_0:=n0_;have HK:=n1_;have HB:=n2_;clear n0_ n1_ n2_;(try(obtain⟨hy13_,hz13_⟩:=Kd.R_celln 0 HO_0.out ((ji6):Int) (od_ as_f) (od_ as_f)));(try(have HP13:=Kd.R_putg HO_0.out ((ji6):Int) (wrap64 ((wrap64 ((wrap64 ((rd x0_1 (ji6))-(wrap64 (a3 * t103))))+x9_1))-(wrap64 ((wrap64 (-(wrap64 (Int.tdiv (wrap64 ((wrap64 ((wrap64 (-(wrap64 ((wrap64 ((rd x0_1 (ji6))-(wrap64 (a3 * t103))))+x9_1))))+10000))-1)) 10000)))) * 10000))))))));refine store_event (t:=3) (p:=48) (v:=?vo_w14) (w1:=(wr.setCell ⟨go11,((ji6):Int).toNat,none⟩ (.int .i64 (wrap64 ((wrap64 ((wrap64 ((rd x0_1 (ji6))-(wrap64 (a3 * t103))))+x9_1))-(wrap64 ((wrap64 (-(wrap64 (Int.tdiv (wrap64 ((wrap64 ((wrap64 (-(wrap64 ((wrap64 ((rd x0_1 (ji6))-(wrap64 (a3 * t103))))+x9_1))))+10000))-1)) 10000)))) * 10000))))))) ?hg ?ho ?hn ?hr ?_;(case ho=>rfl);(case hg=>rfl);(case hn=>rfl);(case hr=>first|(go_simp;done)|(go_simp;rfl));intro w14 hw;have hg:wr.grownBy w14 (some go11):=(by rw[hw];exact HP13.2);have hp_:Kd.R (Kd.int .i64) 3 w14 w0.heap.size (fun k_=>(P0_ k_∨w.heap.size≤k_)) (.slice (some ⟨go11,0,none⟩) x0_1.length co12) y104:=(by rw[hw,Ny104.out];exact HP13.1);clear HP13;replace HB:=ak_ ((by rw[hw];exact below_set (HB.out) GB11.out:Below w0.heap.size w0 w14));replace HK:=ak_ (Kept.of_grown (S:=(fun k_=>P0_ k_)) hg (kt_ HK.out) (fun k_ e_=>(HO_0.out.1 k_ e_)));replace HO_0:=ak_ (hp_);clear hg hw hp_)))
     go_roundg k1
     case measure=>have:=HK1.out;omega
     case rel=>exact⟨(y104),(wrap64 (-(wrap64 (Int.tdiv (wrap64 ((wrap64 ((wrap64 (-(wrap64 ((wrap64 ((rd x0_1 (ji6))-(wrap64 (a3 * t103))))+x9_1))))+10000))-1)) 10000)))),(wrap64 (x15_1+1)),(by first|rfl|(simp;done)|(simp only[← hji6] <;> (first|rfl|simp))|(simp[*];done)),rl_,H',⟨by have:=HK1.out;omega⟩,⟨by(with_reducible repeat(first|apply Kd.R_alloc|apply Kd.R_drewN|apply Kd.R_drew));exact HO_0.out⟩,⟨by repeat(first|(with_reducible first|exact HK.out|apply Kept.alloc|apply Kept.drewN|apply Kept.drew)|exact HK.out)⟩,⟨b_ HB.out⟩⟩
    ·have c10b0:=df_ c10
     have c10b0w:decide ((IntKind.i64.wrap ((IntKind.i64.wrap ((rd x0_1 (ji6))-(IntKind.i64.wrap (a3 * t103))))+x9_1))<0)=false:=by simp only[i64_w];exact c10b0
     clear c10;obtain⟨y105,hy105⟩:∃ y_:List Int,y_ = (x0_1.set ((ji6):Int).toNat (wrap64 ((wrap64 ((wrap64 ((rd x0_1 (ji6))-(wrap64 (a3 * t103))))+x9_1))-(0 * 10000)))):=⟨_,rfl⟩
     replace H:(nat_take.l0 k1 y105 l1 a2 a3 0 (wrap64 ((l1.length:Int)+1)) (wrap64 (x15_1+1)))=some (r1,r2):=hr_ hy105 H
     have Ny105:=ak_ hy105;clear hy105;have H':=ak_ H;clear H;obtain⟨Ao16,co16,eo16⟩:=Kd.R_slice HO_0.out;subst eo16;have p102:0≤((ji6):Int):=od_ as_f;have q102:(ji6)<(x0_1.length:Int):=od_ as_f;obtain⟨ad102,e102,hx102_0⟩:=Kd.at_int (Kd.R_reads' HO_0.out).2.2 (ji6) p102 q102
     cases e102
     replace p102:=eq_true p102;replace q102:=eq_true q102
     go_wp2_with (first|(go_at_call 145;(with_reducible refine(nat_limbs_at.calls _ _ _ _ _ _ ?side1 ?side2 A9.out).mono ?_);(case side1=>exact Kd.C_kept_now HR1.out (kt_ HK.out));(case side2=>exact HC1.out);rintro e w' ⟨rfl,⟨nd,rfl⟩⟩;(try exact dd_);have p15:0≤((ji6):Int):=od_ as_f;have q15:((ji6):Int)<((x0_1.length:Int):Int):=od_ as_f;obtain⟨go15,co15,eo15,gb15,gl15,cl15,HG15⟩:=Kd.R_form HO_0.out (by omega);(first|cases eo15|(injection eo15 with ea_ en_ ec_;(first|subst ea_|(injection ea_ with ea_;subst ea_));subst ec_;clear en_));have GB15:=ak_ gb15;have GG15:=ak_ HG15;clear gb15 gl15 HG15;have HMgo15:=ak_ (show (P0_ go15∨w.heap.size≤go15) from (HO_0.out.1 _ rfl));(first|simp only[add_plain] at hx102_0|skip);obtain⟨hx15_0,hf15_0⟩:=Kd.R_celln 0 HO_0.out ((ji6):Int) p15 q15;replace p15:=eq_true p15;replace q15:=eq_true q15;obtain⟨hy17_,hz17_⟩:=Kd.R_celln 0 HO_0.out ((ji6):Int) (od_ as_f) (od_ as_f);have HP17:=Kd.R_putg HO_0.out ((ji6):Int) (wrap64 ((wrap64 ((wrap64 ((rd x0_1 (ji6))-(wrap64 (a3 * t103))))+x9_1))-(0 * 10000))))|((with_reducible refine gate_store (t:=3) (p:=48) rfl ?_);(try(rw[drewN_self wr];generalize hq_:World.drewN wr _ = wr;have n0_:=ak_ (Kd.R_at hq_ HO_0.out);have n1_:=ak_ (kept_at hq_ HK.out);have n2_:=ak_ (below_at hq_ HB.out);clear hq_ HO_0 HK HB;have HO_0:=n0_;have HK:=n1_;have HB:=n2_;clear n0_ n1_ n2_;(try(obtain⟨hy17_,hz17_⟩:=Kd.R_celln 0 HO_0.out ((ji6):Int) (od_ as_f) (od_ as_f)));(try(have HP17:=Kd.R_putg HO_0.out ((ji6):Int) (wrap64 ((wrap64 ((wrap64 ((rd x0_1 (ji6))-(wrap64 (a3 * t103))))+x9_1))-(0 * 10000)))))));refine store_event (t:=3) (p:=48) (v:=?vo_w18) (w1:=(wr.setCell ⟨go15,((ji6):Int).toNat,none⟩ (.int .i64 (wrap64 ((wrap64 ((wrap64 ((rd x0_1 (ji6))-(wrap64 (a3 * t103))))+x9_1))-(0 * 10000)))))) ?hg ?ho ?hn ?hr ?_;(case ho=>rfl);(case hg=>rfl);(case hn=>rfl);(case hr=>first|(go_simp;done)|(go_simp;rfl));intro w18 hw;have hg:wr.grownBy w18 (some go15):=(by rw[hw];exact HP17.2);have hp_:Kd.R (Kd.int .i64) 3 w18 w0.heap.size (fun k_=>(P0_ k_∨w.heap.size≤k_)) (.slice (some ⟨go15,0,none⟩) x0_1.length co16) y105:=(by rw[hw,Ny105.out];exact HP17.1);clear HP17;replace HB:=ak_ ((by rw[hw];exact below_set (HB.out) GB15.out:Below w0.heap.size w0 w18));replace HK:=ak_ (Kept.of_grown (S:=(fun k_=>P0_ k_)) hg (kt_ HK.out) (fun k_ e_=>(HO_0.out.1 k_ e_)));replace HO_0:=ak_ (hp_);clear hg hw hp_))
     repeat(go_quiet (first|(go_at_call 145;(with_reducible refine(nat_limbs_at.calls _ _ _ _ _ _ ?side1 ?side2 A9.out).mono ?_);(case side1=>exact Kd.C_kept_now HR1.out (kt_ HK.out));(case side2=>exact HC1.out);rintro e w' ⟨rfl,⟨nd,rfl⟩⟩;(try exact dd_);have p15:0≤((ji6):Int):=od_ as_f;have q15:((ji6):Int)<((x0_1.length:Int):Int):=od_ as_f;obtain⟨go15,co15,eo15,gb15,gl15,cl15,HG15⟩:=Kd.R_form HO_0.out (by omega);(first|cases eo15|(injection eo15 with ea_ en_ ec_;(first|subst ea_|(injection ea_ with ea_;subst ea_));subst ec_;clear en_));have GB15:=ak_ gb15;have GG15:=ak_ HG15;clear gb15 gl15 HG15;have HMgo15:=ak_ (show (P0_ go15∨w.heap.size≤go15) from (HO_0.out.1 _ rfl));(first|simp only[add_plain] at hx102_0|skip);obtain⟨hx15_0,hf15_0⟩:=Kd.R_celln 0 HO_0.out ((ji6):Int) p15 q15;replace p15:=eq_true p15;replace q15:=eq_true q15;obtain⟨hy17_,hz17_⟩:=Kd.R_celln 0 HO_0.out ((ji6):Int) (od_ as_f) (od_ as_f);have HP17:=Kd.R_putg HO_0.out ((ji6):Int) (wrap64 ((wrap64 ((wrap64 ((rd x0_1 (ji6))-(wrap64 (a3 * t103))))+x9_1))-(0 * 10000))))|((with_reducible refine gate_store (t:=3) (p:=48) rfl ?_);(try(rw[drewN_self wr];generalize hq_:World.drewN wr _ = wr;have n0_:=ak_ (Kd.R_at hq_ HO_0.out);have n1_:=ak_ (kept_at hq_ HK.out);have n2_:=ak_ (below_at hq_ HB.out);clear hq_ HO_0 HK HB;have HO_0:=n0_;have HK:=n1_;have HB:=n2_;clear n0_ n1_ n2_;(try(obtain⟨hy17_,hz17_⟩:=Kd.R_celln 0 HO_0.out ((ji6):Int) (od_ as_f) (od_ as_f)));(try(have HP17:=Kd.R_putg HO_0.out ((ji6):Int) (wrap64 ((wrap64 ((wrap64 ((rd x0_1 (ji6))-(wrap64 (a3 * t103))))+x9_1))-(0 * 10000)))))));refine store_event (t:=3) (p:=48) (v:=?vo_w18) (w1:=(wr.setCell ⟨go15,((ji6):Int).toNat,none⟩ (.int .i64 (wrap64 ((wrap64 ((wrap64 ((rd x0_1 (ji6))-(wrap64 (a3 * t103))))+x9_1))-(0 * 10000)))))) ?hg ?ho ?hn ?hr ?_;(case ho=>rfl);(case hg=>rfl);(case hn=>rfl);(case hr=>first|(go_simp;done)|(go_simp;rfl));intro w18 hw;have hg:wr.grownBy w18 (some go15):=(by rw[hw];exact HP17.2);have hp_:Kd.R (Kd.int .i64) 3 w18 w0.heap.size (fun k_=>(P0_ k_∨w.heap.size≤k_)) (.slice (some ⟨go15,0,none⟩) x0_1.length co16) y105:=(by rw[hw,Ny105.out];exact HP17.1);clear HP17;replace HB:=ak_ ((by rw[hw];exact below_set (HB.out) GB15.out:Below w0.heap.size w0 w18));replace HK:=ak_ (Kept.of_grown (S:=(fun k_=>P0_ k_)) hg (kt_ HK.out) (fun k_ e_=>(HO_0.out.1 k_ e_)));replace HO_0:=ak_ (hp_);clear hg hw hp_));try go_wp2_with (first|(go_at_call 145;(with_reducible refine(nat_limbs_at.calls _ _ _ _ _ _ ?side1 ?side2 A9.out).mono ?_);(case side1=>exact Kd.C_kept_now HR1.out (kt_ HK.out));(case side2=>exact HC1.out);rintro e w' ⟨rfl,⟨nd,rfl⟩⟩;(try exact dd_);have p15:0≤((ji6):Int):=od_ as_f;have q15:((ji6):Int)<((x0_1.length:Int):Int):=od_ as_f;obtain⟨go15,co15,eo15,gb15,gl15,cl15,HG15⟩:=Kd.R_form HO_0.out (by omega);(first|cases eo15|(injection eo15 with ea_ en_ ec_;(first|subst ea_|(injection ea_ with ea_;subst ea_));subst ec_;clear en_));have GB15:=ak_ gb15;have GG15:=ak_ HG15;clear gb15 gl15 HG15;have HMgo15:=ak_ (show (P0_ go15∨w.heap.size≤go15) from (HO_0.out.1 _ rfl));(first|simp only[add_plain] at hx102_0|skip);obtain⟨hx15_0,hf15_0⟩:=Kd.R_celln 0 HO_0.out ((ji6):Int) p15 q15;replace p15:=eq_true p15;replace q15:=eq_true q15;obtain⟨hy17_,hz17_⟩:=Kd.R_celln 0 HO_0.out ((ji6):Int) (od_ as_f) (od_ as_f);have HP17:=Kd.R_putg HO_0.out ((ji6):Int) (wrap64 ((wrap64 ((wrap64 ((rd x0_1 (ji6))-(wrap64 (a3 * t103))))+x9_1))-(0 * 10000))))|((with_reducible refine gate_store (t:=3) (p:=48) rfl ?_);(try(rw[drewN_self wr];generalize hq_:World.drewN wr _ = wr;have n0_:=ak_ (Kd.R_at hq_ HO_0.out);have n1_:=ak_ (kept_at hq_ HK.out);have n2_:=ak_ (below_at hq_ HB.out);clear hq_ HO_0 HK HB;have HO_0:=n0_;have HK:=n1_;have HB:=n2_;clear n0_ n1_ n2_;(try(obtain⟨hy17_,hz17_⟩:=Kd.R_celln 0 HO_0.out ((ji6):Int) (od_ as_f) (od_ as_f)));(try(have HP17:=Kd.R_putg HO_0.out ((ji6):Int) (wrap64 ((wrap64 ((wrap64 ((rd x0_1 (ji6))-(wrap64 (a3 * t103))))+x9_1))-(0 * 10000)))))));refine store_event (t:=3) (p:=48) (v:=?vo_w18) (w1:=(wr.setCell ⟨go15,((ji6):Int).toNat,none⟩ (.int .i64 (wrap64 ((wrap64 ((wrap64 ((rd x0_1 (ji6))-(wrap64 (a3 * t103))))+x9_1))-(0 * 10000)))))) ?hg ?ho ?hn ?hr ?_;(case ho=>rfl);(case hg=>rfl);(case hn=>rfl);(case hr=>first|(go_simp;done)|(go_simp;rfl));intro w18 hw;have hg:wr.grownBy w18 (some go15):=(by rw[hw];exact HP17.2);have hp_:Kd.R (Kd.int .i64) 3 w18 w0.heap.size (fun k_=>(P0_ k_∨w.heap.size≤k_)) (.slice (some ⟨go15,0,none⟩) x0_1.length co16) y105:=(by rw[hw,Ny105.out];exact HP17.1);clear HP17;replace HB:=ak_ ((by rw[hw];exact below_set (HB.out) GB15.out:Below w0.heap.size w0 w18));replace HK:=ak_ (Kept.of_grown (S:=(fun k_=>P0_ k_)) hg (kt_ HK.out) (fun k_ e_=>(HO_0.out.1 k_ e_)));replace HO_0:=ak_ (hp_);clear hg hw hp_)))
     go_roundg k1
     case measure=>have:=HK1.out;omega
     case rel=>exact⟨(y105),(0),(wrap64 (x15_1+1)),rl_,rl_,H',⟨by have:=HK1.out;omega⟩,⟨by(with_reducible repeat(first|apply Kd.R_alloc|apply Kd.R_drewN|apply Kd.R_drew));exact HO_0.out⟩,⟨by repeat(first|(with_reducible first|exact HK.out|apply Kept.alloc|apply Kept.drewN|apply Kept.drew)|exact HK.out)⟩,⟨b_ HB.out⟩⟩
   ·have c5b0:=df_ c5
    have c5b0w:decide (x15_1<(IntKind.i64.wrap ((l1.length:Int)+1)))=false:=by simp only[i64_w];exact c5b0
    clear c5;replace H:=pi2_ H;obtain⟨rfl,rfl⟩:=H;go_wp2
    repeat(go_quiet (fail);try go_wp2)
    go_ret
    exact⟨er_,by(with_reducible repeat(first|apply Kd.R_alloc|apply Kd.R_drewN|apply Kd.R_drew));exact HO_0.out,b_ HB.out,by repeat(first|(with_reducible first|exact HK.out|apply Kept.alloc|apply Kept.drewN|apply Kept.drew)|exact HK.out)⟩
def nat_give.l0:Nat→List Int→List Int→Int→Int→Int→Int→Option (List Int)
 | 0,_,_,_,_,_,_=>none
 | k+1,x0,x1,x2,x6,x11,x12=>if x12<x11 then (if 0≤(wrap64 (x2+x12)) then (if (wrap64 (x2+x12))<(x0.length:Int) then ((nat_limbs_at.f x1 x12).bind fun t107=>(nat_give.l0 k (x0.set ((wrap64 (x2+x12)):Int).toNat (Int.tmod (wrap64 ((wrap64 ((rd x0 (wrap64 (x2+x12)))+t107))+x6)) 10000)) x1 x2 (wrap64 (Int.tdiv (wrap64 ((wrap64 ((rd x0 (wrap64 (x2+x12)))+t107))+x6)) 10000)) x11 (wrap64 (x12+1)))) else (none)) else (none)) else (some x0)
def nat_give.f (k:Nat) (l0 l1:List Int) (a2:Int):Option (List Int):=nat_give.l0 k l0 l1 a2 0 (wrap64 ((l1.length:Int)+1)) 0
theorem nat_give.calls (k:Nat) (P0_:Nat→Prop) (u9000_:Value) (l0:List Int) (A1:Option Addr) (c1:Nat) (l1:List Int) (a2:Int) (r:List Int) (w0 w:World) (hB:Below w0.heap.size w0 w) (ho0:Kd.R (Kd.int .i64) 3 w w0.heap.size P0_ u9000_ l0) (hr1:∀ W_,Kept w W_ (fun k_=>P0_ k_)→Kd.C (Kd.int .i64) W_ A1 l1.length l1) (hc1:l1.length≤c1) (h:nat_give.f k l0 l1 a2=some r) :
  Calls Tryz.prog 142 #[u9000_,.slice A1 l1.length c1,.int .i64 a2] w fun e w'=>e=.returned (.tuple #[])∧Kd.R (Kd.int .i64) 3 w' w0.heap.size (fun k_=>(P0_ k_∨w.heap.size≤k_)) u9000_ r∧Below w0.heap.size w0 w'∧Kept w w' (fun k_=>P0_ k_):=by
 have HO0:=ak_ (show Kd.R (Kd.int .i64) 3 w w0.heap.size (fun k_=>(P0_ k_∨w.heap.size≤k_)) u9000_ l0 from Kd.R_mono ho0 (fun k_ hk=>(.inl hk)));have HR1:=ak_ hr1;have HC1:=ak_ hc1;clear hr1 hc1;have HK:=ak_ (Kept.refl w (fun k_=>P0_ k_));have HW0:=ak_ hB.size;have HB:=ak_ hB;clear hB;have H:=h;unfold nat_give.f at H;clear h;have H':=ak_ H;clear H;go_in;go_wp2
 repeat(go_quiet (fail);try go_wp2)
 go_loopg [6,12] k (fun kq v6 v12 w'=>∃ (x0_1:List Int) (x6_1 x12_1:Int),v6=.int .i64 x6_1∧v12=.int .i64 x12_1∧Aside0 (nat_give.l0 kq x0_1 l1 a2 x6_1 (wrap64 ((l1.length:Int)+1)) x12_1=some r)∧Aside0 (kq≤k)∧Aside0 (Kd.R (Kd.int .i64) 3 w' w0.heap.size (fun k_=>(P0_ k_∨w.heap.size≤k_)) u9000_ x0_1)∧Aside0 (Kept w w' (fun k_=>P0_ k_))∧Aside0 (Below w0.heap.size w0 w'))
 case atStart=>exact⟨(l0),(0),(0),rl_,rl_,H',⟨nr_ _⟩,⟨by(with_reducible repeat(first|apply Kd.R_alloc|apply Kd.R_drewN|apply Kd.R_drew));exact HO0.out⟩,⟨by repeat(first|(with_reducible first|exact HK.out|apply Kept.alloc|apply Kept.drewN|apply Kept.drew)|exact HK.out)⟩,⟨b_ HB.out⟩⟩
 case round =>
  clear H';(try clear c1);obtain⟨x0_1,x6_1,x12_1,rfl,rfl,HA,HK1,HO_0,HK,HB⟩:=hrel
  cases gk with
  | zero=>exact absurd HA.out (by simp[nat_give.l0])
  | succ k1 =>
   have H:=HA.out;clear HA;simp only[nat_give.l0] at H;replace H:=bw_ H;rcases H with ⟨c4,H⟩|⟨c4,H⟩
   ·have c4b0:=dt_ c4
    have c4b0w:decide (x12_1<(IntKind.i64.wrap ((l1.length:Int)+1)))=true:=by simp only[i64_w];exact c4b0
    clear c4;obtain⟨ji5,hji5⟩:∃ j_:Int,(wrap64 (a2+x12_1))=j_:=⟨_,rfl⟩;(first|rw[hji5] at H|simp only[hji5] at H);have hji5w:(IntKind.i64.wrap (a2+x12_1))=ji5:=(i64_w _).trans hji5;replace H:=bx_ H;obtain⟨c6,H⟩:=H;replace c6:=dt_ c6;replace H:=bx_ H;obtain⟨c7,H⟩:=H;replace c7:=dt_ c7;obtain⟨t107,A8,H⟩:=bi_ H;obtain⟨y108,hy108⟩:∃ y_:List Int,y_ = (x0_1.set ((ji5):Int).toNat (Int.tmod (wrap64 ((wrap64 ((rd x0_1 (ji5))+t107))+x6_1)) 10000)):=⟨_,rfl⟩
    replace H:(nat_give.l0 k1 y108 l1 a2 (wrap64 (Int.tdiv (wrap64 ((wrap64 ((rd x0_1 (ji5))+t107))+x6_1)) 10000)) (wrap64 ((l1.length:Int)+1)) (wrap64 (x12_1+1)))=some r:=hr_ hy108 H
    have Ny108:=ak_ hy108;clear hy108;have H':=ak_ H;clear H;obtain⟨Ao10,co10,eo10⟩:=Kd.R_slice HO_0.out;subst eo10;have p106:0≤((ji5):Int):=od_ as_f;have q106:(ji5)<(x0_1.length:Int):=od_ as_f;obtain⟨ad106,e106,hx106_0⟩:=Kd.at_int (Kd.R_reads' HO_0.out).2.2 (ji5) p106 q106
    cases e106
    replace p106:=eq_true p106;replace q106:=eq_true q106
    go_wp2_with (first|(go_at_call 145;(with_reducible refine(nat_limbs_at.calls _ _ _ _ _ _ ?side1 ?side2 A8.out).mono ?_);(case side1=>exact Kd.C_kept_now HR1.out (kt_ HK.out));(case side2=>exact HC1.out);rintro e w' ⟨rfl,⟨nd,rfl⟩⟩;(try exact dd_);have p9:0≤((ji5):Int):=od_ as_f;have q9:((ji5):Int)<((x0_1.length:Int):Int):=od_ as_f;obtain⟨go9,co9,eo9,gb9,gl9,cl9,HG9⟩:=Kd.R_form HO_0.out (by omega);(first|cases eo9|(injection eo9 with ea_ en_ ec_;(first|subst ea_|(injection ea_ with ea_;subst ea_));subst ec_;clear en_));have GB9:=ak_ gb9;have GG9:=ak_ HG9;clear gb9 gl9 HG9;have HMgo9:=ak_ (show (P0_ go9∨w.heap.size≤go9) from (HO_0.out.1 _ rfl));(first|simp only[add_plain] at hx106_0|skip);obtain⟨hx9_0,hf9_0⟩:=Kd.R_celln 0 HO_0.out ((ji5):Int) p9 q9;replace p9:=eq_true p9;replace q9:=eq_true q9;obtain⟨hy11_,hz11_⟩:=Kd.R_celln 0 HO_0.out ((ji5):Int) (od_ as_f) (od_ as_f);have HP11:=Kd.R_putg HO_0.out ((ji5):Int) (Int.tmod (wrap64 ((wrap64 ((rd x0_1 (ji5))+t107))+x6_1)) 10000))|((with_reducible refine gate_store (t:=3) (p:=35) rfl ?_);(try(rw[drewN_self wr];generalize hq_:World.drewN wr _ = wr;have n0_:=ak_ (Kd.R_at hq_ HO_0.out);have n1_:=ak_ (kept_at hq_ HK.out);have n2_:=ak_ (below_at hq_ HB.out);clear hq_ HO_0 HK HB;have HO_0:=n0_;have HK:=n1_;have HB:=n2_;clear n0_ n1_ n2_;(try(obtain⟨hy11_,hz11_⟩:=Kd.R_celln 0 HO_0.out ((ji5):Int) (od_ as_f) (od_ as_f)));(try(have HP11:=Kd.R_putg HO_0.out ((ji5):Int) (Int.tmod (wrap64 ((wrap64 ((rd x0_1 (ji5))+t107))+x6_1)) 10000)))));refine store_event (t:=3) (p:=35) (v:=?vo_w12) (w1:=(wr.setCell ⟨go9,((ji5):Int).toNat,none⟩ (.int .i64 (Int.tmod (wrap64 ((wrap64 ((rd x0_1 (ji5))+t107))+x6_1)) 10000)))) ?hg ?ho ?hn ?hr ?_;(case ho=>rfl);(case hg=>rfl);(case hn=>rfl);(case hr=>first|(go_simp;done)|(go_simp;rfl));intro w12 hw;have hg:wr.grownBy w12 (some go9):=(by rw[hw];exact HP11.2);have hp_:Kd.R (Kd.int .i64) 3 w12 w0.heap.size (fun k_=>(P0_ k_∨w.heap.size≤k_)) (.slice (some ⟨go9,0,none⟩) x0_1.length co10) y108:=(by rw[hw,Ny108.out];exact HP11.1);clear HP11;replace HB:=ak_ ((by rw[hw];exact below_set (HB.out) GB9.out:Below w0.heap.size w0 w12));replace HK:=ak_ (Kept.of_grown (S:=(fun k_=>P0_ k_)) hg (kt_ HK.out) (fun k_ e_=>(HO_0.out.1 k_ e_)));replace HO_0:=ak_ (hp_);clear hg hw hp_))
    repeat(go_quiet (first|(go_at_call 145;(with_reducible refine(nat_limbs_at.calls _ _ _ _ _ _ ?side1 ?side2 A8.out).mono ?_);(case side1=>exact Kd.C_kept_now HR1.out (kt_ HK.out));(case side2=>exact HC1.out);rintro e w' ⟨rfl,⟨nd,rfl⟩⟩;(try exact dd_);have p9:0≤((ji5):Int):=od_ as_f;have q9:((ji5):Int)<((x0_1.length:Int):Int):=od_ as_f;obtain⟨go9,co9,eo9,gb9,gl9,cl9,HG9⟩:=Kd.R_form HO_0.out (by omega);(first|cases eo9|(injection eo9 with ea_ en_ ec_;(first|subst ea_|(injection ea_ with ea_;subst ea_));subst ec_;clear en_));have GB9:=ak_ gb9;have GG9:=ak_ HG9;clear gb9 gl9 HG9;have HMgo9:=ak_ (show (P0_ go9∨w.heap.size≤go9) from (HO_0.out.1 _ rfl));(first|simp only[add_plain] at hx106_0|skip);obtain⟨hx9_0,hf9_0⟩:=Kd.R_celln 0 HO_0.out ((ji5):Int) p9 q9;replace p9:=eq_true p9;replace q9:=eq_true q9;obtain⟨hy11_,hz11_⟩:=Kd.R_celln 0 HO_0.out ((ji5):Int) (od_ as_f) (od_ as_f);have HP11:=Kd.R_putg HO_0.out ((ji5):Int) (Int.tmod (wrap64 ((wrap64 ((rd x0_1 (ji5))+t107))+x6_1)) 10000))|((with_reducible refine gate_store (t:=3) (p:=35) rfl ?_);(try(rw[drewN_self wr];generalize hq_:World.drewN wr _ = wr;have n0_:=ak_ (Kd.R_at hq_ HO_0.out);have n1_:=ak_ (kept_at hq_ HK.out);have n2_:=ak_ (below_at hq_ HB.out);clear hq_ HO_0 HK HB;have HO_0:=n0_;have HK:=n1_;have HB:=n2_;clear n0_ n1_ n2_;(try(obtain⟨hy11_,hz11_⟩:=Kd.R_celln 0 HO_0.out ((ji5):Int) (od_ as_f) (od_ as_f)));(try(have HP11:=Kd.R_putg HO_0.out ((ji5):Int) (Int.tmod (wrap64 ((wrap64 ((rd x0_1 (ji5))+t107))+x6_1)) 10000)))));refine store_event (t:=3) (p:=35) (v:=?vo_w12) (w1:=(wr.setCell ⟨go9,((ji5):Int).toNat,none⟩ (.int .i64 (Int.tmod (wrap64 ((wrap64 ((rd x0_1 (ji5))+t107))+x6_1)) 10000)))) ?hg ?ho ?hn ?hr ?_;(case ho=>rfl);(case hg=>rfl);(case hn=>rfl);(case hr=>first|(go_simp;done)|(go_simp;rfl));intro w12 hw;have hg:wr.grownBy w12 (some go9):=(by rw[hw];exact HP11.2);have hp_:Kd.R (Kd.int .i64) 3 w12 w0.heap.size (fun k_=>(P0_ k_∨w.heap.size≤k_)) (.slice (some ⟨go9,0,none⟩) x0_1.length co10) y108:=(by rw[hw,Ny108.out];exact HP11.1);clear HP11;replace HB:=ak_ ((by rw[hw];exact below_set (HB.out) GB9.out:Below w0.heap.size w0 w12));replace HK:=ak_ (Kept.of_grown (S:=(fun k_=>P0_ k_)) hg (kt_ HK.out) (fun k_ e_=>(HO_0.out.1 k_ e_)));replace HO_0:=ak_ (hp_);clear hg hw hp_));try go_wp2_with (first|(go_at_call 145;(with_reducible refine(nat_limbs_at.calls _ _ _ _ _ _ ?side1 ?side2 A8.out).mono ?_);(case side1=>exact Kd.C_kept_now HR1.out (kt_ HK.out));(case side2=>exact HC1.out);rintro e w' ⟨rfl,⟨nd,rfl⟩⟩;(try exact dd_);have p9:0≤((ji5):Int):=od_ as_f;have q9:((ji5):Int)<((x0_1.length:Int):Int):=od_ as_f;obtain⟨go9,co9,eo9,gb9,gl9,cl9,HG9⟩:=Kd.R_form HO_0.out (by omega);(first|cases eo9|(injection eo9 with ea_ en_ ec_;(first|subst ea_|(injection ea_ with ea_;subst ea_));subst ec_;clear en_));have GB9:=ak_ gb9;have GG9:=ak_ HG9;clear gb9 gl9 HG9;have HMgo9:=ak_ (show (P0_ go9∨w.heap.size≤go9) from (HO_0.out.1 _ rfl));(first|simp only[add_plain] at hx106_0|skip);obtain⟨hx9_0,hf9_0⟩:=Kd.R_celln 0 HO_0.out ((ji5):Int) p9 q9;replace p9:=eq_true p9;replace q9:=eq_true q9;obtain⟨hy11_,hz11_⟩:=Kd.R_celln 0 HO_0.out ((ji5):Int) (od_ as_f) (od_ as_f);have HP11:=Kd.R_putg HO_0.out ((ji5):Int) (Int.tmod (wrap64 ((wrap64 ((rd x0_1 (ji5))+t107))+x6_1)) 10000))|((with_reducible refine gate_store (t:=3) (p:=35) rfl ?_);(try(rw[drewN_self wr];generalize hq_:World.drewN wr _ = wr;have n0_:=ak_ (Kd.R_at hq_ HO_0.out);have n1_:=ak_ (kept_at hq_ HK.out);have n2_:=ak_ (below_at hq_ HB.out);clear hq_ HO_0 HK HB;have HO_0:=n0_;have HK:=n1_;have HB:=n2_;clear n0_ n1_ n2_;(try(obtain⟨hy11_,hz11_⟩:=Kd.R_celln 0 HO_0.out ((ji5):Int) (od_ as_f) (od_ as_f)));(try(have HP11:=Kd.R_putg HO_0.out ((ji5):Int) (Int.tmod (wrap64 ((wrap64 ((rd x0_1 (ji5))+t107))+x6_1)) 10000)))));refine store_event (t:=3) (p:=35) (v:=?vo_w12) (w1:=(wr.setCell ⟨go9,((ji5):Int).toNat,none⟩ (.int .i64 (Int.tmod (wrap64 ((wrap64 ((rd x0_1 (ji5))+t107))+x6_1)) 10000)))) ?hg ?ho ?hn ?hr ?_;(case ho=>rfl);(case hg=>rfl);(case hn=>rfl);(case hr=>first|(go_simp;done)|(go_simp;rfl));intro w12 hw;have hg:wr.grownBy w12 (some go9):=(by rw[hw];exact HP11.2);have hp_:Kd.R (Kd.int .i64) 3 w12 w0.heap.size (fun k_=>(P0_ k_∨w.heap.size≤k_)) (.slice (some ⟨go9,0,none⟩) x0_1.length co10) y108:=(by rw[hw,Ny108.out];exact HP11.1);clear HP11;replace HB:=ak_ ((by rw[hw];exact below_set (HB.out) GB9.out:Below w0.heap.size w0 w12));replace HK:=ak_ (Kept.of_grown (S:=(fun k_=>P0_ k_)) hg (kt_ HK.out) (fun k_ e_=>(HO_0.out.1 k_ e_)));replace HO_0:=ak_ (hp_);clear hg hw hp_)))
    go_roundg k1
    case measure=>have:=HK1.out;omega
    case rel=>exact⟨(y108),(wrap64 (Int.tdiv (wrap64 ((wrap64 ((rd x0_1 (ji5))+t107))+x6_1)) 10000)),(wrap64 (x12_1+1)),(by first|rfl|(simp;done)|(simp only[← hji5] <;> (first|rfl|simp))|(simp[*];done)),rl_,H',⟨by have:=HK1.out;omega⟩,⟨by(with_reducible repeat(first|apply Kd.R_alloc|apply Kd.R_drewN|apply Kd.R_drew));exact HO_0.out⟩,⟨by repeat(first|(with_reducible first|exact HK.out|apply Kept.alloc|apply Kept.drewN|apply Kept.drew)|exact HK.out)⟩,⟨b_ HB.out⟩⟩
   ·have c4b0:=df_ c4
    have c4b0w:decide (x12_1<(IntKind.i64.wrap ((l1.length:Int)+1)))=false:=by simp only[i64_w];exact c4b0
    clear c4;obtain rfl:=oi_ H;go_wp2
    repeat(go_quiet (fail);try go_wp2)
    first|go_end0|((try simp only[Exit.inBlock,Exit.then]);refine bodyPost_ret (results_none rfl _ _ _) rfl ?_)
    exact⟨er_,by(with_reducible repeat(first|apply Kd.R_alloc|apply Kd.R_drewN|apply Kd.R_drew));exact HO_0.out,b_ HB.out,by repeat(first|(with_reducible first|exact HK.out|apply Kept.alloc|apply Kept.drewN|apply Kept.drew)|exact HK.out)⟩
def nat_limbs_trim.l0:Nat→List Int→Option (List Int)
 | 0,_=>none
 | k+1,x0=>if (x0.length:Int)>0 then (if 0≤(wrap64 ((x0.length:Int)-1)) then (if (wrap64 ((x0.length:Int)-1))<(x0.length:Int) then (if (rd x0 (wrap64 ((x0.length:Int)-1)))=0 then (if (wrap64 ((x0.length:Int)-1))≤(x0.length:Int) then (nat_limbs_trim.l0 k (x0.take ((wrap64 ((x0.length:Int)-1)):Int).toNat)) else (none)) else (some x0)) else (none)) else (none)) else (some x0)
def nat_limbs_trim.f (k:Nat) (l0:List Int):Option (List Int):=nat_limbs_trim.l0 k l0
theorem nat_limbs_trim.mono_l:∀ k,(∀ y0,LeO (nat_limbs_trim.l0 k y0) (nat_limbs_trim.l0 (k+1) y0))
 | 0=>fun _ r h=>by simp[nat_limbs_trim.l0] at h
 | k+1=>by
  have ih0:=nat_limbs_trim.mono_l k
  ·intro y0;unfold nat_limbs_trim.l0
   repeat' first
   | (with_reducible exact ih0 _)
   | (with_reducible exact LeO.refl _)
   | (with_reducible exact LeO.none _)
   | (with_reducible refine LeO.ite ?_ ?_)
   | (with_reducible refine LeO.bind ?_ (fun _=>?_))
   | exact ih0 _
   | exact LeO.none _
   | refine LeO.ite ?_ ?_
   | refine LeO.bind ?_ (fun _=>?_)
theorem nat_limbs_trim.mono:∀ a0 k,LeO (nat_limbs_trim.f k a0) (nat_limbs_trim.f (k+1) a0):=by
 intro a0 k;have ih0:=nat_limbs_trim.mono_l k;unfold nat_limbs_trim.f
 repeat' first
   | (with_reducible exact ih0 _)
   | (with_reducible exact LeO.refl _)
   | (with_reducible exact LeO.none _)
   | (with_reducible refine LeO.ite ?_ ?_)
   | (with_reducible refine LeO.bind ?_ (fun _=>?_))
   | exact ih0 _
   | exact LeO.none _
   | refine LeO.ite ?_ ?_
   | refine LeO.bind ?_ (fun _=>?_)
theorem nat_limbs_trim.calls (k:Nat) (P0_:Nat→Prop) (A0:Option Addr) (c0:Nat) (l0 r:List Int) (w:World) (hs0:Kd.V (Kd.int .i64) 3 w w.heap.size (fun k_=>P0_ k_) (.slice A0 l0.length c0) l0) (h:nat_limbs_trim.f k l0=some r) :
  Calls Tryz.prog 143 #[.slice A0 l0.length c0] w fun e w'=>∃ v0_:Value,e=.returned (v0_)∧Kd.V (Kd.int .i64) 3 w' w.heap.size (fun k_=>(P0_ k_∨w.heap.size≤k_)) v0_ r∧Below w.heap.size w w':=by
 have HO0:=ak_ (show Kd.V (Kd.int .i64) 3 w w.heap.size (fun k_=>(P0_ k_∨w.heap.size≤k_)) (.slice A0 l0.length c0) l0 from Kd.V_mono hs0 (fun k_ hk=>.inl hk));have HB:=ak_ (Below.refl w.heap.size w);have H:=h;unfold nat_limbs_trim.f at H;clear h;have H':=ak_ H;clear H;go_in;go_wp2
 go_loopg [0] k (fun kq v0 w'=>∃ (x0_1:List Int),Aside0 (nat_limbs_trim.l0 kq x0_1=some r)∧Aside0 (kq≤k)∧Aside0 (Kd.V (Kd.int .i64) 3 w' w.heap.size (fun k_=>(P0_ k_∨w.heap.size≤k_)) v0 x0_1)∧Aside0 (Below w.heap.size w w'))
 case atStart=>exact⟨(l0),H',⟨nr_ _⟩,⟨by(with_reducible repeat(first|apply Kd.V_alloc|apply Kd.V_drewN|apply Kd.V_drew));exact HO0.out⟩,⟨b_ HB.out⟩⟩
 case round =>
  clear H';obtain⟨x0_1,HA,HK1,HO_0,HB⟩:=hrel
  cases gk with
  | zero=>exact absurd HA.out (by simp[nat_limbs_trim.l0])
  | succ k1 =>
   have H:=HA.out;clear HA;simp only[nat_limbs_trim.l0] at H;replace H:=bw_ H;rcases H with ⟨c2,H⟩|⟨c2,H⟩
   ·have c2b0:decide (0<(x0_1.length:Int))=true:=decide_eq_true c2;have c2b1:decide (0<x0_1.length)=true:=decide_eq_true (by omega);clear c2;obtain⟨ji3,hji3⟩:∃ j_:Int,(wrap64 ((x0_1.length:Int)-1))=j_:=⟨_,rfl⟩;(first|rw[hji3] at H|simp only[hji3] at H);have hji3w:(IntKind.i64.wrap ((x0_1.length:Int)-1))=ji3:=(i64_w _).trans hji3;replace H:=bx_ H;obtain⟨c4,H⟩:=H;replace c4:=dt_ c4;replace H:=bx_ H;obtain⟨c5,H⟩:=H;replace c5:=dt_ c5;replace H:=bw_ H;rcases H with ⟨c6,H⟩|⟨c6,H⟩
    ·have c6b0:((rd x0_1 (ji3)) == 0)=true:=beq_iff_eq.mpr c6;have c6b1:((rd x0_1 (ji3)) != 0)=false:=bne_eq_false_iff_eq.mpr c6;clear c6;have c7b0:=eq_true (od_ as_f:0≤(ji3));replace H:=bx_ H;obtain⟨c8,H⟩:=H;have c8b0:=eq_true c8;replace c8:=dt_ c8;obtain⟨y110,hy110⟩:∃ y_:List Int,y_ = (x0_1.take ((ji3):Int).toNat):=⟨_,rfl⟩
     replace H:(nat_limbs_trim.l0 k1 y110)=some r:=hr_ hy110 H
     have Ny110:=ak_ hy110;clear hy110;have H':=ak_ H;clear H;obtain⟨Ao9,co9,eo9⟩:=Kd.V_slice HO_0.out;subst eo9;have p109:0≤((ji3):Int):=od_ as_f;have q109:(ji3)<(x0_1.length:Int):=od_ as_f;obtain⟨ad109,e109,hx109_0⟩:=Kd.at_int (Kd.V_reads' HO_0.out).2.2 (ji3) p109 q109
     cases e109
     replace p109:=eq_true p109;replace q109:=eq_true q109;have q10:((ji3):Int)≤((x0_1.length:Int):Int):=od_ as_f;obtain⟨i010,hi010,_,hsz10,_⟩:=info_parts info3;have hroom10:x0_1.length≤co9:=(Kd.V_reads' HO_0.out).2.1;have hC10:Kd.F (Kd.int .i64) _ _ (some ad109) x0_1.length x0_1:=(Kd.V_at (base:=w.heap.size) HO_0.out).2.2;have hcut10:=cut_to (P:=Tryz.prog) 100 3 .i64 Tryz.underlying100 hi010 (some ad109) x0_1.length co9 (ji3) (od_ as_f) q10 hroom10;have hr10:=Kd.F_take (m:=((ji3):Int).toNat) hC10 (by omega);have hy10:y110.length=((ji3):Int).toNat:=(by rw[Ny110.out,List.length_take];omega);rw[← Ny110.out] at hr10;rw[← hy10] at hcut10;have HO114:=ak_ (show Kd.V (Kd.int .i64) 3 _ w.heap.size _ (.slice (some ad109) y110.length co9) y110 from Kd.V_mk (by omega) hr10);have HC114:=ak_ (show y110.length≤co9 from by omega);clear hr10 hC10 hroom10 hi010 hsz10;have KY10:=ak_ hy10;clear hy10;replace q10:=eq_true q10;go_wp2
     go_roundg k1
     case measure=>have:=HK1.out;omega
     case rel=>exact⟨(y110),H',⟨by have:=HK1.out;omega⟩,⟨by(with_reducible repeat(first|apply Kd.V_alloc|apply Kd.V_drewN|apply Kd.V_drew));exact HO114.out⟩,⟨b_ HB.out⟩⟩
    ·have c6b0:((rd x0_1 (ji3)) == 0)=false:=beq_eq_false_iff_ne.mpr c6;have c6b1:((rd x0_1 (ji3)) != 0)=true:=bne_iff_ne.mpr c6;obtain rfl:=oi_ H;obtain⟨Ao11,co11,eo11⟩:=Kd.V_slice HO_0.out;subst eo11;have p109:0≤((ji3):Int):=od_ as_f;have q109:(ji3)<(x0_1.length:Int):=od_ as_f;obtain⟨ad109,e109,hx109_0⟩:=Kd.at_int (Kd.V_reads' HO_0.out).2.2 (ji3) p109 q109
     cases e109
     replace p109:=eq_true p109;replace q109:=eq_true q109;go_wp2
     go_ret
     exact⟨_,by first|rfl|(simp[errW_none,errW_some] <;> rfl)|(simp only[← hji3];first|rfl|(simp[errW_none,errW_some] <;> rfl))|(simp[*,errW_none,errW_some] <;> rfl),by(with_reducible repeat(first|apply Kd.V_alloc|apply Kd.V_drewN|apply Kd.V_drew));exact HO_0.out,b_ HB.out⟩
   ·have c2b0:decide (0<(x0_1.length:Int))=false:=decide_eq_false c2;have c2b1:decide (0<x0_1.length)=false:=decide_eq_false (by omega);clear c2;obtain rfl:=oi_ H;obtain⟨Ao12,co12,eo12⟩:=Kd.V_slice HO_0.out;subst eo12;go_wp2
    go_ret
    exact⟨_,er_,by(with_reducible repeat(first|apply Kd.V_alloc|apply Kd.V_drewN|apply Kd.V_drew));exact HO_0.out,b_ HB.out⟩
end Pt
end Go.Proofs.YtoghmeffpgbcfaaGreatDoor