/-
Parts of the proof, in build order: Ref15P.
-/
import Derived.Test.YtoghmeffpgbcfaaGreatDoorY6
set_option linter.unusedVariables false
set_option linter.unusedSimpArgs false
set_option maxHeartbeats 64000000
set_option maxRecDepth 100000
namespace Go.Proofs.YtoghmeffpgbcfaaGreatDoor
open Go.RowKit Go.Proofs.YtoghmeffpgbcfaaGreatDoorW.PrintWords Go.Proofs.YtoghmeffpgbcfaaGreatDoorW.PrintLast Go.Proofs.YtoghmeffpgbcfaaGreatDoorW.PrintMore
def Rw (w:World) (gb:Nat) (ws:List ByteArray):Prop:=∀ (j:Nat) x,ws[j]?=some x→w.cell? ⟨gb,j,none⟩=some (.string x)
theorem Rw.below {w w':World} {gb:Nat} {ws:List ByteArray} (h:Rw w gb ws) (hb:Below w.heap.size w w'):Rw w' gb ws:=fun j x hx=>(hb.cell (World.block_lt_of_cell? w _ (h j x hx))).trans (h j x hx)
theorem Rw.far {w:World} {gb k:Nat} {ws:List ByteArray} (h:Rw w gb ws) (h1:k≠gb) (a:Nat) (v:Value):Rw (w.setCell ⟨k,a,none⟩ v) gb ws:=fun j x hx=>by
 rw[far_cell _ h1]
 exact h j x hx
theorem Rw.far11 {w:World} {gb k:Nat} {ws:List ByteArray} (h:Rw w gb ws) (h1:k≠gb) (v0 v1 v2 v3 v4 v5 v6 v7 v8 v9 v10:Value):Rw (((((((((((w.setCell ⟨k,0,none⟩ v0).setCell ⟨k,1,none⟩ v1).setCell ⟨k,2,none⟩ v2).setCell ⟨k,3,none⟩ v3).setCell ⟨k,4,none⟩ v4).setCell ⟨k,5,none⟩ v5).setCell ⟨k,6,none⟩ v6).setCell ⟨k,7,none⟩ v7).setCell ⟨k,8,none⟩ v8).setCell ⟨k,9,none⟩ v9).setCell ⟨k,10,none⟩ v10) gb ws:=by
 have z0:=h.far h1 0 v0
 have z1:=z0.far h1 1 v1
 have z2:=z1.far h1 2 v2
 have z3:=z2.far h1 3 v3
 have z4:=z3.far h1 4 v4
 have z5:=z4.far h1 5 v5
 have z6:=z5.far h1 6 v6
 have z7:=z6.far h1 7 v7
 have z8:=z7.far h1 8 v8
 have z9:=z8.far h1 9 v9
 have z10:=z9.far h1 10 v10
 exact z10
theorem Rw.at {w:World} {gb:Nat} {ws:List ByteArray} (h:Rw w gb ws) (j:Nat) (hj:j<ws.length):w.cell? ⟨gb,j,none⟩=some (.string (ws.getD j ⟨#[]⟩)):=by
 refine h j _ ?_
 rw[List.getD_eq_getElem?_getD,List.getElem?_eq_getElem hj]
 rfl
theorem row_of_R {e base:Nat} {w:World} {ok:Nat→Prop} {v:Value} {ws:List ByteArray} (h:Kd.R Kd.string e w base ok v ws) (hn:0<ws.length) :
  ∃ gb cap,v=.slice (some ⟨gb,0,none⟩) ws.length cap∧base≤gb∧gb<w.heap.size∧Rw w gb ws:=by
 obtain⟨A,c,rfl⟩:=Kd.R_slice h
 have hr:=(Kd.R_reads' h).2.2
 obtain⟨_,inner,ho,_⟩:=h
 rcases ho.2 with ⟨h0,_⟩|⟨g,cap,cur,hv,hg,hh,r⟩
 ·injection h0 with h1 h2 h3
  omega
 ·injection hv with h1 h2 h3
  subst h1 h3
  refine⟨g,c,rfl,hg,blk_lt hh,fun j x hx=>?_⟩
  obtain⟨ad,e1,hc⟩:=hr.2.2 hn
  obtain rfl:(⟨g,0,none⟩:Addr)=ad:=Option.some.inj e1
  obtain⟨cs,_,hk,hcell⟩:=hc j x hx
  have e:cs=[.string x]:=hk
  subst e
  have h1:=hcell 0 _ rfl
  have e1:(⟨g,0,none⟩:Addr).add (j * Kd.string.sz+0)=⟨g,j,none⟩:=by
   show (⟨g,0,none⟩:Addr).add (j * 1+0) = _
   first|(simp[Addr.add];done)|(simp[Addr.add];omega)
  rw[e1] at h1
  exact h1
structure Rp (w0 w:World) (gb gr ga:Nat) (ws:List ByteArray):Prop where
 hr:w.heap[gr]?=some (.cells #[.string ⟨#[]⟩,.int .i64 0,.string ⟨#[]⟩,.string ⟨#[]⟩,.string ⟨#[]⟩,.string ⟨#[]⟩,.string ⟨#[]⟩,.string ⟨#[]⟩,.int .i64 0,.int .i64 0,.int .i64 0] 25 (0,0))
 ha:w.heap[ga]?=some (.cells #[.string ⟨#[]⟩,.int .i64 0,.string ⟨#[]⟩,.string ⟨#[]⟩,.string ⟨#[]⟩,.string ⟨#[]⟩,.string ⟨#[]⟩,.string ⟨#[]⟩,.int .i64 0,.int .i64 0,.int .i64 0] 25 (0,0))
 row:Rw w gb ws
 hB:Below w0.heap.size w0 w
theorem Rp.below {w0 w w':World} {gb gr ga:Nat} {ws:List ByteArray} (h:Rp w0 w gb gr ga ws) (hb:Below w.heap.size w w'):Rp w0 w' gb gr ga ws :=
 ⟨blk_below h.hr hb,blk_below h.ha hb,h.row.below hb,h.hB.trans (hb.mono (below_size h.hB))⟩
structure New (w0:World) (gb gr ga k:Nat):Prop where
 r:gr≠k
 a:ga≠k
 b:k≠gb
 l:w0.heap.size≤k
theorem Rp.new {w0 w:World} {gb gr ga:Nat} {ws:List ByteArray} (h:Rp w0 w gb gr ga ws) (hg:gb<w.heap.size) {k:Nat} (hk:k=w.heap.size):New w0 gb gr ga k :=
 ⟨by rw[hk];exact Nat.ne_of_lt (blk_lt h.hr),by rw[hk];exact Nat.ne_of_lt (blk_lt h.ha),by rw[hk];exact Nat.ne_of_gt hg,by rw[hk];exact below_size h.hB⟩
theorem Rp.far11 {w0 w:World} {gb gr ga k:Nat} {ws:List ByteArray} (h:Rp w0 w gb gr ga ws) (n:New w0 gb gr ga k) (v0 v1 v2 v3 v4 v5 v6 v7 v8 v9 v10:Value):Rp w0 (((((((((((w.setCell ⟨k,0,none⟩ v0).setCell ⟨k,1,none⟩ v1).setCell ⟨k,2,none⟩ v2).setCell ⟨k,3,none⟩ v3).setCell ⟨k,4,none⟩ v4).setCell ⟨k,5,none⟩ v5).setCell ⟨k,6,none⟩ v6).setCell ⟨k,7,none⟩ v7).setCell ⟨k,8,none⟩ v8).setCell ⟨k,9,none⟩ v9).setCell ⟨k,10,none⟩ v10) gb gr ga ws :=
 ⟨blk_far11 h.hr n.r v0 v1 v2 v3 v4 v5 v6 v7 v8 v9 v10,blk_far11 h.ha n.a v0 v1 v2 v3 v4 v5 v6 v7 v8 v9 v10,h.row.far11 n.b v0 v1 v2 v3 v4 v5 v6 v7 v8 v9 v10,below_set11 h.hB n.l v0 v1 v2 v3 v4 v5 v6 v7 v8 v9 v10⟩
theorem Rp.far {w0 w:World} {gb gr ga k:Nat} {ws:List ByteArray} (h:Rp w0 w gb gr ga ws) (n:New w0 gb gr ga k) (i:Nat) (v:Value):Rp w0 (w.setCell ⟨k,i,none⟩ v) gb gr ga ws :=
 ⟨blk_far (p:=⟨k,i,none⟩) h.hr n.r v,blk_far (p:=⟨k,i,none⟩) h.ha n.a v,h.row.far n.b i v,h.hB.setCell n.l v⟩
theorem kinds_of {kd:Int} (k0:0≤kd) (k4:kd≤4):∃ xo xr xc:Bool,Pk.r15_names.f kd=some (xo,xr,xc)∧Aside0 (kOther kd=xo)∧Aside0 (kRatio kd=xr)∧Aside0 (kCash kd=xc)∧((xo=false∧xr=true∧xc=false)∨(xo=false∧xr=false∧xc=true)∨(xo=true∧xr=true∧xc=false)∨(xo=true∧xr=true∧xc=true)):=by
 refine⟨_,_,_,rnames_f kd,⟨rfl⟩,⟨rfl⟩,⟨rfl⟩,?_⟩
 have:kd=0∨kd=1∨kd=2∨kd=3∨kd=4:=by omega
 rcases this with rfl|rfl|rfl|rfl|rfl <;> decide
theorem and3_ {a b c:Bool} (h:(a&&(b&&c))=true):a=true∧b=true∧c=true:=by
 rw[Bool.and_eq_true,Bool.and_eq_true] at h
 exact h
theorem rsmall_c {x:ByteArray} {n:Int} {b:Bool} (hs:x.size≤1000) (h:smallS x=(n,b)):r1_Small.f x=some (n,b):=by
 unfold r1_Small.f
 rw[← h]
 exact if_pos (show sm x=true from decide_eq_true (by omega))
theorem blk_set3 {w:World} {g:Nat} {t:TypeId} {cs cs':Array Value} (h:w.heap[g]?=some (.cells cs t (0,0))) (i:Nat) (u:Value) (j:Nat) (v:Value) (l:Nat) (x:Value) (e:((cs.setIfInBounds i u).setIfInBounds j v).setIfInBounds l x=cs') :
  (((w.setCell ⟨g,i,none⟩ u).setCell ⟨g,j,none⟩ v).setCell ⟨g,l,none⟩ x).heap[g]?=some (.cells cs' t (0,0)):=e▸blk_set (blk_set (blk_set h i u) j v) l x
def Kn (x0:ByteArray) (kd j:Int):Prop:=(kd=-1∧∀ i:Int,0≤i→i<j→x0.data.toList≠wordK i)∨(0≤kd∧kd≤4∧x0.data.toList=wordK kd)
def rpar_T7:Bool×List (List Nat×List Nat):=(true,[([],[]),([0],[0]),([1],[1]),([],[]),([3],[3]),([2,4],[2,4])])
theorem rpar_tab7:rtab .any (opsOf Tryz.f10 7)=rpar_T7:=by kernel_rfl
def rpar_B7:List Nat:=[0,1,3,0,8,31]
theorem rpar_bits7:waitsOk rpar_T7.2 rpar_B7=true:=by kernel_rfl
def rpar_T12:Bool×List (List Nat×List Nat):=(true,[([],[]),([],[]),([1],[1]),([2],[2]),([],[]),([4],[4]),([5],[5]),([],[]),([7],[]),([0,3,6,7,8],[0,3,6,7,8]),([],[]),([10,9,8,0,1,2,3,4,5,6,7,8,9,10],[9,10])])
theorem rpar_tab12:rtab .any (opsOf Tryz.f10 12)=rpar_T12:=by kernel_rfl
def rpar_B12:List Nat:=[0,0,2,6,0,16,48,0,128,511,0,2047]
theorem rpar_bits12:waitsOk rpar_T12.2 rpar_B12=true:=by kernel_rfl
theorem parseWs_short {l:List (List UInt8)} (h:l.length<7):parseWs l=none:=by
 unfold parseWs
 split
 ·rename_i k _
  have hr:readOk k l=false:=by
   have:7≤owed k:=by
    have h7:∀ a b:Bool,(a=true∨b=true)→7≤6+(if a=true then 1 else 0)+(if b=true then 1 else 0):=by decide
    unfold owed
    by_cases h2:k=2
    ·subst h2;decide
    ·have:kRatio k=true:=decide_eq_true h2
     rw[if_pos this]
     omega
   unfold readOk
   rw[decide_eq_false (show ¬ l.length=owed k by omega)]
   rfl
  rw[hr]
  rfl
 ·rfl
theorem Kn.next {x0:ByteArray} {kd j:Int} (h:Kn x0 kd j) (hx:x0.data.toList≠wordK j):Kn x0 kd (j+1):=by
 rcases h with ⟨h1,h2⟩|h
 ·refine Or.inl ⟨h1,fun i i0 i1=>?_⟩
  by_cases e:i=j
  ·rw[e];exact hx
  ·exact h2 i i0 (by omega)
 ·exact Or.inr h
theorem rparse_walk (s x0:ByteArray) (ws:List ByteArray) (k:Nat) (w:World) (hW:Aside0 (Pk.r14_Words.f k s 12=some ws)) (h1:1≤ws.length) (h12:ws.length≤12) (hx0:Aside0 (ws.getD 0 ⟨#[]⟩=x0)) (hsz:Aside0 (∀ i:Nat,(ws.getD i ⟨#[]⟩).size≤1000)) :
  Calls Tryz.prog 10 #[.string s] w fun e w'=>e=.returned (.tuple #[cellsA (outW (ws.map (·.data.toList))).1,.int .i64 (outW (ws.map (·.data.toList))).2])∧Below w.heap.size w w':=by
 have hu25:=Tryz.underlying25
 have hu23:=Tryz.underlying23
 have L1:=ak_ h1
 have L12:=ak_ h12
 clear h1 h12
 go_enter Tryz.func10,Tryz.ntmps10
 go_upto_region 2 with (first|((with_reducible refine gate_dst (N:=2) rfl ?_);refine be_ 2 #[.string ⟨#[]⟩,.int .i64 0,.string ⟨#[]⟩,.string ⟨#[]⟩,.string ⟨#[]⟩,.string ⟨#[]⟩,.string ⟨#[]⟩,.string ⟨#[]⟩,.int .i64 0,.int .i64 0,.int .i64 0] 25 ?_;intro gr hg w1 hr hB;have GR:=ak_ (Nat.le_of_eq hg.symm);clear hg)|(refine gl_ 24 Tryz.func22 #[.string s,.int .i64 12] ?_;refine(Pk.r14_Words.calls k s 12 ws _ hW.out).mono ?_;rintro e w2 ⟨v,rfl,ho,b2⟩;obtain⟨gb,cap,rfl,hgb,hgl,hrow⟩:=row_of_R ho (by have:=L1.out;omega);refine⟨_,rfl,?_⟩;have hnb:Aside0 (gr≠gb):=⟨Nat.ne_of_lt (Nat.lt_of_lt_of_le (blk_lt hr) hgb)⟩;replace hB:=hB.trans (b2.mono (below_size hB));replace hr:=blk_below hr b2;clear b2 ho hgb))
 go_upto_region 3 with (first|((with_reducible refine gate_dst (N:=5) rfl ?_);refine be_ 5 #[.string ⟨#[]⟩,.int .i64 0,.string ⟨#[]⟩,.string ⟨#[]⟩,.string ⟨#[]⟩,.string ⟨#[]⟩,.string ⟨#[]⟩,.string ⟨#[]⟩,.int .i64 0,.int .i64 0,.int .i64 0] 25 ?_;intro ga hg w3 ha b3;have hna:Aside0 (ga≠gr):=⟨by rw[hg];exact Nat.ne_of_gt (blk_lt hr)⟩;have hnw:Aside0 (ga≠gb):=⟨by rw[hg];exact Nat.ne_of_gt hgl⟩;have GA:Aside0 (w.heap.size≤ga):=⟨by rw[hg];exact below_size hB⟩;replace hB:=hB.trans (b3.mono (below_size hB));replace hr:=blk_below hr b3;replace hrow:=hrow.below b3;clear hg b3 hgl;have dz:=cs11_ ⟨ha⟩))
 clear dz
 have ha4:=blk_set11 ha (.string ⟨#[]⟩) (.int .i64 0) (.string ⟨#[]⟩) (.string ⟨#[]⟩) (.string ⟨#[]⟩) (.string ⟨#[]⟩) (.string ⟨#[]⟩) (.string ⟨#[]⟩) (.int .i64 0) (.int .i64 0) (.int .i64 0)
 have hr4:=blk_far11 hr hna.out.symm (.string ⟨#[]⟩) (.int .i64 0) (.string ⟨#[]⟩) (.string ⟨#[]⟩) (.string ⟨#[]⟩) (.string ⟨#[]⟩) (.string ⟨#[]⟩) (.string ⟨#[]⟩) (.int .i64 0) (.int .i64 0) (.int .i64 0)
 have hrow4:=hrow.far11 hnw.out (.string ⟨#[]⟩) (.int .i64 0) (.string ⟨#[]⟩) (.string ⟨#[]⟩) (.string ⟨#[]⟩) (.string ⟨#[]⟩) (.string ⟨#[]⟩) (.string ⟨#[]⟩) (.int .i64 0) (.int .i64 0) (.int .i64 0)
 have hB4:=below_set11 hB GA.out (.string ⟨#[]⟩) (.int .i64 0) (.string ⟨#[]⟩) (.string ⟨#[]⟩) (.string ⟨#[]⟩) (.string ⟨#[]⟩) (.string ⟨#[]⟩) (.string ⟨#[]⟩) (.int .i64 0) (.int .i64 0) (.int .i64 0)
 clear ha hr hrow hB
 generalize (((((((((((w3.setCell ⟨ga,0,none⟩ (.string ⟨#[]⟩)).setCell ⟨ga,1,none⟩ (.int .i64 0)).setCell ⟨ga,2,none⟩ (.string ⟨#[]⟩)).setCell ⟨ga,3,none⟩ (.string ⟨#[]⟩)).setCell ⟨ga,4,none⟩ (.string ⟨#[]⟩)).setCell ⟨ga,5,none⟩ (.string ⟨#[]⟩)).setCell ⟨ga,6,none⟩ (.string ⟨#[]⟩)).setCell ⟨ga,7,none⟩ (.string ⟨#[]⟩)).setCell ⟨ga,8,none⟩ (.int .i64 0)).setCell ⟨ga,9,none⟩ (.int .i64 0)).setCell ⟨ga,10,none⟩ (.int .i64 0))=w4 at ha4 hr4 hrow4 hB4 ⊢
 go_upto_region 5 with (fail)
 go_loopg [6,7] 5 (fun kq v6 v7 w'=>∃ kd j:Int,v6=.int .i64 kd∧v7=.int .i64 j∧Aside0 (j=5-(kq:Int))∧Aside0 (kq≤5)∧Aside0 (Kn x0 kd j)∧Aside0 (w'.heap[gr]?=some (.cells #[.string ⟨#[]⟩,.int .i64 0,.string ⟨#[]⟩,.string ⟨#[]⟩,.string ⟨#[]⟩,.string ⟨#[]⟩,.string ⟨#[]⟩,.string ⟨#[]⟩,.int .i64 0,.int .i64 0,.int .i64 0] 25 (0,0)))∧Aside0 (w'.heap[ga]?=some (.cells #[.string ⟨#[]⟩,.int .i64 0,.string ⟨#[]⟩,.string ⟨#[]⟩,.string ⟨#[]⟩,.string ⟨#[]⟩,.string ⟨#[]⟩,.string ⟨#[]⟩,.int .i64 0,.int .i64 0,.int .i64 0] 25 (0,0)))∧Aside0 (Rw w' gb ws)∧Aside0 (Below w.heap.size w w'))
 case atStart=>exact⟨-1,0,rfl,rfl,⟨rfl⟩,⟨nr_ _⟩,⟨Or.inl ⟨rfl,fun i h0 h1=>absurd h1 (by omega)⟩⟩,⟨hr4⟩,⟨ha4⟩,⟨hrow4⟩,⟨hB4⟩⟩
 case round =>
  clear hr4 ha4 hrow4 hB4
  obtain⟨kd,j,rfl,rfl,hj,hk,hK,hr,ha,hrow,hB⟩:=hrel
  have q0:(0:Int)<(ws.length:Int):=by have:=L1.out;omega
  have q0n:0<ws.length:=by omega
  by_cases c8:j<5
  ·have b8:decide (j<5)=true:=decide_eq_true c8
   have c0:0≤j:=by have:=hj.out;have:=hk.out;omega
   obtain⟨wd,ew,lw,zw⟩:=rword_f c0 (by omega)
   rcases Bool.eq_false_or_eq_true (x0.toList == wd.toList) with hxb0|hxb0
   all_goals
    go_upto_region 7 with (fail)
    replace hr:=ak_ (blk_drew hr.out)
    replace ha:=ak_ (blk_drew ha.out)
    replace hB:=ak_ (below_drew1 hB.out)
    replace hrow:=ak_ (hrow.out.below (below_drew1 (Below.refl _ _)))
    have hc0:=hrow.out.at 0 q0n
    rw[hx0.out] at hc0
    refine sa_ 6 (fun w'=>w'.cell? ⟨gb,0,none⟩=some (.string x0)) (fun hHeld=>?_) hc0
    refine with_tabW rpar_tab7 rpar_bits7 (fun HT_ HW_=>?_)
    generalize wr.drew=w6 at hr ha hB hrow hc0 hHeld ⊢
    refine pu_ 0 30 rfl rfl HT_ ?_;refine pu_ 1 31 rfl rfl HT_ ?_;refine pu_ 3 33 rfl rfl HT_ ?_;refine t_ 2 32 rfl rfl HT_ HW_ hHeld ?_
    refine on_ 4 (some 34) rfl rfl HT_ (fun K hKK=>?_);refine gs_ Tryz.func23 #[.int .i64 j] ?_;refine mo_ (Pk.r15_word.calls j wd _ ew) ?_;intro w7 b7
    replace hr:=ak_ (blk_below hr.out b7);replace ha:=ak_ (blk_below ha.out b7);replace hB:=ak_ (hB.out.trans (b7.mono (below_size hB.out)));replace hrow:=ak_ (hrow.out.below b7)
    have hs0:=(b7.cell (World.block_lt_of_cell? _ _ hc0)).trans hc0
    refine hKK.out _ _ hs0 (fun hHeld=>?_);clear hKK K;refine nm_ ?_
    refine pu_ 5 35 rfl rfl HT_ ?_
    refine done_ (done_of HT_.out (by kernel_rfl)) ?_
    clear HT_ HW_ hHeld hs0 hc0 b7
   ·have hxw:x0.data.toList=wordK j:=by rw[toList_inj.1 (beq_iff_eq.1 hxb0)];exact lw
    go_wp2
    go_roundg (gk-1)
    case measure=>have:=hj.out;omega
    case rel=>exact⟨j,j+1,rfl,rfl,⟨by have:=hj.out;omega⟩,⟨by have:=hk.out;omega⟩,⟨Or.inr ⟨c0,by omega,hxw⟩⟩,hr,ha,hrow,hB⟩
   ·have hKn:=ak_ (hK.out.next (j:=j) (fun e=>(beq_eq_false_iff_ne.1 hxb0) (toList_inj.2 (bext (e.trans lw.symm)))))
    go_wp2
    go_roundg (gk-1)
    case measure=>have:=hj.out;omega
    case rel=>exact⟨kd,j+1,rfl,rfl,⟨by have:=hj.out;omega⟩,⟨by have:=hk.out;omega⟩,hKn,hr,ha,hrow,hB⟩
  ·have b8:decide (j<5)=false:=decide_eq_false c8
   have hj5:j=5:=by have:=hj.out;have:=hk.out;omega
   have dz:=cs11_ ha;have cz:=cs11_ hr
   go_upto_region 9 with (fail)
   rcases hK.out with ⟨rfl,hno⟩|⟨k0,k4,hxw⟩
   ·have PN:Aside0 (outW (ws.map (·.data.toList))=(zeroA,150)):=⟨outW_none (parse_nokind hx0.out (fun i h0 h1=>hno i h0 (by omega)))⟩
    have nga:=hna.out
    go_wp2
    refine bodyPost_ret (results_ct rfl _ _ gr 25 #[.string ⟨#[]⟩,.int .i64 0,.string ⟨#[]⟩,.string ⟨#[]⟩,.string ⟨#[]⟩,.string ⟨#[]⟩,.string ⟨#[]⟩,.string ⟨#[]⟩,.int .i64 0,.int .i64 0,.int .i64 0] (0,0) _ rfl (blk_set11 hr.out _ _ _ _ _ _ _ _ _ _ _) Tryz.underlying25 rfl (by kernel_rfl)) rfl ?_
    (try rw[PN.out])
    exact⟨rfl,below_set11 hB.out GR.out _ _ _ _ _ _ _ _ _ _ _⟩
   by_cases h7:ws.length<7
   ·have PN:Aside0 (outW (ws.map (·.data.toList))=(zeroA,150)):=⟨outW_none (parseWs_short (by rw[List.length_map];exact h7))⟩
    have nga:=hna.out
    have bk:decide (kd<0)=false:=decide_eq_false (by omega)
    have bl:decide ((ws.length:Int)<7)=true:=decide_eq_true (by omega)
    go_wp2
    refine bodyPost_ret (results_ct rfl _ _ gr 25 #[.string ⟨#[]⟩,.int .i64 0,.string ⟨#[]⟩,.string ⟨#[]⟩,.string ⟨#[]⟩,.string ⟨#[]⟩,.string ⟨#[]⟩,.string ⟨#[]⟩,.int .i64 0,.int .i64 0,.int .i64 0] (0,0) _ rfl (blk_set11 hr.out _ _ _ _ _ _ _ _ _ _ _) Tryz.underlying25 rfl (by kernel_rfl)) rfl ?_
    (try rw[PN.out])
    exact⟨rfl,below_set11 hB.out GR.out _ _ _ _ _ _ _ _ _ _ _⟩
   have bk:decide (kd<0)=false:=decide_eq_false (by omega)
   have bl:decide ((ws.length:Int)<7)=false:=decide_eq_false (by omega)
   go_upto_region 11 with (fail)
   clear dz cz
   have RP:Aside0 (Rp w wr gb gr ga ws):=⟨⟨hr.out,ha.out,hrow.out,hB.out⟩⟩
   clear hr ha hrow hB hj hk hK hj5
   have q1:(1:Int)<(ws.length:Int):=by omega
   have q2:(2:Int)<(ws.length:Int):=by omega
   have q1n:1<ws.length:=by omega
   have q2n:2<ws.length:=by omega
   obtain⟨xo,xr,xc,ew,KO,KR,KC,hcomb⟩:=kinds_of k0 k4
   go_upto_region 12 with (first|(refine gl_ 47 Tryz.func24 #[.int .i64 kd] ?_;go_loud (refine(Pk.r15_names.calls kd xo xr xc _ ew).mono ?_;rintro e w8 ⟨rfl,hd_⟩;refine⟨_,rfl,?_⟩;replace RP:=ak_ (RP.out.below (drawn_below hd_));clear hd_)))
   replace RP:=ak_ (RP.out.below (below_drew1 (Below.refl _ _)))
   obtain⟨x1,e1⟩:∃ x,Aside0 (ws.getD 1 ⟨#[]⟩=x):=⟨_,⟨rfl⟩⟩
   obtain⟨x2,e2⟩:∃ x,Aside0 (ws.getD 2 ⟨#[]⟩=x):=⟨_,⟨rfl⟩⟩
   obtain⟨z1,z2,ez,ez1,ez2⟩:∃ z1 z2,Aside0 (r3_Of.f 0=some (z1,z2))∧Aside0 ((rT 0).1=z1)∧Aside0 ((rT 0).2=z2):=⟨_,_,⟨if_pos (by decide)⟩,⟨rfl⟩,⟨rfl⟩⟩
   have hc1:=RP.out.row.at 1 q1n
   have hc2:=RP.out.row.at 2 q2n
   rw[e1.out] at hc1
   rw[e2.out] at hc2
   refine sa_ 12 (fun w'=>w'.cell? ⟨gb,1,none⟩=some (.string x1)∧w'.cell? ⟨gb,2,none⟩=some (.string x2)) (fun hHeld=>?_) ⟨hc1,hc2⟩
   clear hc1 hc2
   refine with_tabW rpar_tab12 rpar_bits12 (fun HT_ HW_=>?_)
   generalize w8.drew=w9 at RP hHeld ⊢
   refine pu_ 0 51 rfl rfl HT_ ?_;refine pu_ 1 52 rfl rfl HT_ ?_;refine pu_ 2 53 rfl rfl HT_ ?_;refine pu_ 4 55 rfl rfl HT_ ?_;refine pu_ 5 56 rfl rfl HT_ ?_;refine t_ 3 54 rfl rfl HT_ HW_ hHeld ?_;refine t_ 6 57 rfl rfl HT_ HW_ hHeld ?_
   refine join_ (σ:=Nat) 1 #[true,true,true,true,true,true,true,true,true,true,true,false] (fun s_=>[(58,.agg #[.string z1,.string z2]),(59,.agg #[.string z1,.string z2]),(11,.pointer (some ⟨s_,0,none⟩)),(60,.agg #[.string x1,.int .i64 kd,.string x2,.string ⟨#[]⟩,.string z1,.string z2,.string z1,.string z2,.int .i64 0,.int .i64 0,.int .i64 0])]) (fun s_ w'=>(w'.cell? ⟨gb,1,none⟩=some (.string x1)∧w'.cell? ⟨gb,2,none⟩=some (.string x2))∧Rp w w' gb gr ga ws∧w'.heap[s_]?=some (.cells #[.string ⟨#[]⟩,.int .i64 0,.string ⟨#[]⟩,.string ⟨#[]⟩,.string ⟨#[]⟩,.string ⟨#[]⟩,.string ⟨#[]⟩,.string ⟨#[]⟩,.int .i64 0,.int .i64 0,.int .i64 0] 25 (0,0))∧New w gb gr ga s_) ?_ ?_;rotate_left
   ·intro hCont
    refine two_ (i:=7) (j:=10) (Ni:=some 58) (Nj:=some 11) #[true,true,true,true,true,true,true,true,false,false,false,false] #[true,true,true,true,true,true,true,false,false,false,true,false] rfl rfl rfl rfl (two_of HT_.out (by kernel_rfl)) (by decide) (by decide) (fun K hKK=>?_) (fun K hKK=>?_)
    ·refine gs_ Tryz.func15 #[.int .i64 0] ?_;refine mo_ (r3_Of.calls 0 z1 z2 _ ez.out) ?_;intro wn b_;have HS_:=And.intro ((b_.cell (World.block_lt_of_cell? _ _ hHeld.1)).trans hHeld.1) ((b_.cell (World.block_lt_of_cell? _ _ hHeld.2)).trans hHeld.2);replace RP:=ak_ (RP.out.below b_);clear b_;refine hKK.out _ _ HS_ (fun hHeld=>?_);clear hKK K HS_;refine nm_ ?_
     refine two_ (i:=8) (j:=10) (Ni:=some 59) (Nj:=some 11) #[true,true,true,true,true,true,true,true,true,false,false,false] #[true,true,true,true,true,true,true,true,false,false,true,false] rfl rfl rfl rfl (two_of HT_.out (by kernel_rfl)) (by decide) (by decide) (fun K hKK=>?_) (fun K hKK=>?_)
     ·refine gs_ Tryz.func15 #[.int .i64 0] ?_;refine mo_ (r3_Of.calls 0 z1 z2 _ ez.out) ?_;intro wn b_;have HS_:=And.intro ((b_.cell (World.block_lt_of_cell? _ _ hHeld.1)).trans hHeld.1) ((b_.cell (World.block_lt_of_cell? _ _ hHeld.2)).trans hHeld.2);replace RP:=ak_ (RP.out.below b_);clear b_;refine hKK.out _ _ HS_ (fun hHeld=>?_);clear hKK K HS_;refine nm_ ?_
      refine pu_ 9 60 rfl rfl HT_ ?_
      refine on_ 10 (some 11) rfl rfl HT_ (fun K hKK=>?_);refine box_step ?hg (N:=11) ?hd (cs:=#[.string ⟨#[]⟩,.int .i64 0,.string ⟨#[]⟩,.string ⟨#[]⟩,.string ⟨#[]⟩,.string ⟨#[]⟩,.string ⟨#[]⟩,.string ⟨#[]⟩,.int .i64 0,.int .i64 0,.int .i64 0]) (t:=25) ?hr ?_;(case hd=>rfl);(case hg=>rfl);(case hr=>first|(go_simp;done)|(go_simp;rfl));intro sn hg wn BN b_;have NW:=RP.out.new (World.block_lt_of_cell? _ _ hHeld.1) hg;have HS_:=And.intro ((b_.cell (World.block_lt_of_cell? _ _ hHeld.1)).trans hHeld.1) ((b_.cell (World.block_lt_of_cell? _ _ hHeld.2)).trans hHeld.2);replace RP:=ak_ (RP.out.below b_);clear b_ hg;refine hKK.out _ _ HS_ (fun hHeld=>?_);clear hKK K HS_;refine nm_ ?_
      exact norm_ pa_ (hCont sn _ ⟨hHeld,RP.out,BN,NW⟩)
     ·refine box_step ?hg (N:=11) ?hd (cs:=#[.string ⟨#[]⟩,.int .i64 0,.string ⟨#[]⟩,.string ⟨#[]⟩,.string ⟨#[]⟩,.string ⟨#[]⟩,.string ⟨#[]⟩,.string ⟨#[]⟩,.int .i64 0,.int .i64 0,.int .i64 0]) (t:=25) ?hr ?_;(case hd=>rfl);(case hg=>rfl);(case hr=>first|(go_simp;done)|(go_simp;rfl));intro sn hg wn BN b_;have NW:=RP.out.new (World.block_lt_of_cell? _ _ hHeld.1) hg;have HS_:=And.intro ((b_.cell (World.block_lt_of_cell? _ _ hHeld.1)).trans hHeld.1) ((b_.cell (World.block_lt_of_cell? _ _ hHeld.2)).trans hHeld.2);replace RP:=ak_ (RP.out.below b_);clear b_ hg;refine hKK.out _ _ HS_ (fun hHeld=>?_);clear hKK K HS_;refine nm_ ?_
      refine on_ 8 (some 59) rfl rfl HT_ (fun K hKK=>?_);refine gs_ Tryz.func15 #[.int .i64 0] ?_;refine mo_ (r3_Of.calls 0 z1 z2 _ ez.out) ?_;intro wn b_;have HS_:=And.intro ((b_.cell (World.block_lt_of_cell? _ _ hHeld.1)).trans hHeld.1) ((b_.cell (World.block_lt_of_cell? _ _ hHeld.2)).trans hHeld.2);replace RP:=ak_ (RP.out.below b_);replace BN:=blk_below BN b_;clear b_;refine hKK.out _ _ HS_ (fun hHeld=>?_);clear hKK K HS_;refine nm_ ?_
      refine pu_ 9 60 rfl rfl HT_ ?_
      exact norm_ pa_ (hCont sn _ ⟨hHeld,RP.out,BN,NW⟩)
    ·refine box_step ?hg (N:=11) ?hd (cs:=#[.string ⟨#[]⟩,.int .i64 0,.string ⟨#[]⟩,.string ⟨#[]⟩,.string ⟨#[]⟩,.string ⟨#[]⟩,.string ⟨#[]⟩,.string ⟨#[]⟩,.int .i64 0,.int .i64 0,.int .i64 0]) (t:=25) ?hr ?_;(case hd=>rfl);(case hg=>rfl);(case hr=>first|(go_simp;done)|(go_simp;rfl));intro sn hg wn BN b_;have NW:=RP.out.new (World.block_lt_of_cell? _ _ hHeld.1) hg;have HS_:=And.intro ((b_.cell (World.block_lt_of_cell? _ _ hHeld.1)).trans hHeld.1) ((b_.cell (World.block_lt_of_cell? _ _ hHeld.2)).trans hHeld.2);replace RP:=ak_ (RP.out.below b_);clear b_ hg;refine hKK.out _ _ HS_ (fun hHeld=>?_);clear hKK K HS_;refine nm_ ?_
     refine on_ 7 (some 58) rfl rfl HT_ (fun K hKK=>?_);refine gs_ Tryz.func15 #[.int .i64 0] ?_;refine mo_ (r3_Of.calls 0 z1 z2 _ ez.out) ?_;intro wn b_;have HS_:=And.intro ((b_.cell (World.block_lt_of_cell? _ _ hHeld.1)).trans hHeld.1) ((b_.cell (World.block_lt_of_cell? _ _ hHeld.2)).trans hHeld.2);replace RP:=ak_ (RP.out.below b_);replace BN:=blk_below BN b_;clear b_;refine hKK.out _ _ HS_ (fun hHeld=>?_);clear hKK K HS_;refine nm_ ?_
     refine on_ 8 (some 59) rfl rfl HT_ (fun K hKK=>?_);refine gs_ Tryz.func15 #[.int .i64 0] ?_;refine mo_ (r3_Of.calls 0 z1 z2 _ ez.out) ?_;intro wn b_;have HS_:=And.intro ((b_.cell (World.block_lt_of_cell? _ _ hHeld.1)).trans hHeld.1) ((b_.cell (World.block_lt_of_cell? _ _ hHeld.2)).trans hHeld.2);replace RP:=ak_ (RP.out.below b_);replace BN:=blk_below BN b_;clear b_;refine hKK.out _ _ HS_ (fun hHeld=>?_);clear hKK K HS_;refine nm_ ?_
     refine pu_ 9 60 rfl rfl HT_ ?_
     exact norm_ pa_ (hCont sn _ ⟨hHeld,RP.out,BN,NW⟩)
   clear RP
   rintro sn w13 ⟨hHeld,RP,BN,NW⟩
   refine norm_ (a':=?_) ?_ ?_;rotate_left
   ·simp only[putAll,Act.put,List.setIfInBounds_toArray,List.set_cons_zero,List.set_cons_succ]
    rfl
   refine on_ 11 none rfl rfl HT_ (fun K hKK=>?_)
   have dz:=cs11_ ⟨BN⟩
   refine skip_ (w1:=?_) (by rfl) rfl ?_ ?_;rotate_left
   ·go_simp
    rfl
   clear dz
   have RP:=ak_ (RP.far11 NW (.string x1) (.int .i64 kd) (.string x2) (.string ⟨#[]⟩) (.string z1) (.string z2) (.string z1) (.string z2) (.int .i64 0) (.int .i64 0) (.int .i64 0))
   have BN:=blk_set11 BN (.string x1) (.int .i64 kd) (.string x2) (.string ⟨#[]⟩) (.string z1) (.string z2) (.string z1) (.string z2) (.int .i64 0) (.int .i64 0) (.int .i64 0)
   clear hHeld
   generalize (((((((((((w13.setCell ⟨sn,0,none⟩ (.string x1)).setCell ⟨sn,1,none⟩ (.int .i64 kd)).setCell ⟨sn,2,none⟩ (.string x2)).setCell ⟨sn,3,none⟩ (.string ⟨#[]⟩)).setCell ⟨sn,4,none⟩ (.string z1)).setCell ⟨sn,5,none⟩ (.string z2)).setCell ⟨sn,6,none⟩ (.string z1)).setCell ⟨sn,7,none⟩ (.string z2)).setCell ⟨sn,8,none⟩ (.int .i64 0)).setCell ⟨sn,9,none⟩ (.int .i64 0)).setCell ⟨sn,10,none⟩ (.int .i64 0))=w14 at RP BN ⊢
   have hc1:=RP.out.row.at 1 q1n
   have hc2:=RP.out.row.at 2 q2n
   rw[e1.out] at hc1
   rw[e2.out] at hc2
   refine hKK.out _ _ ⟨hc1,hc2⟩ (fun hHeld=>?_);clear hKK K
   refine done_ (done_of HT_.out (by kernel_rfl)) ?_
   clear HT_ HW_ hHeld hc1 hc2
   have q3:(3:Int)<(ws.length:Int):=by omega
   have q4:(4:Int)<(ws.length:Int):=by omega
   have q5:(5:Int)<(ws.length:Int):=by omega
   have q3n:3<ws.length:=by omega
   have q4n:4<ws.length:=by omega
   have q5n:5<ws.length:=by omega
   obtain⟨y3,ey3⟩:∃ x,Aside0 (ws.getD 3 ⟨#[]⟩=x):=⟨_,⟨rfl⟩⟩
   obtain⟨n3,b3,e3⟩:∃ n b,Aside0 (smallS y3=(n,b)):=⟨_,_,⟨rfl⟩⟩
   have es3:Aside0 (r1_Small.f y3=some (n3,b3)):=⟨rsmall_c (by rw[← ey3.out];exact hsz.out 3) e3.out⟩
   obtain⟨y4,ey4⟩:∃ x,Aside0 (ws.getD 4 ⟨#[]⟩=x):=⟨_,⟨rfl⟩⟩
   obtain⟨n4,b4,e4⟩:∃ n b,Aside0 (smallS y4=(n,b)):=⟨_,_,⟨rfl⟩⟩
   have es4:Aside0 (r1_Small.f y4=some (n4,b4)):=⟨rsmall_c (by rw[← ey4.out];exact hsz.out 4) e4.out⟩
   obtain⟨y5,ey5⟩:∃ x,Aside0 (ws.getD 5 ⟨#[]⟩=x):=⟨_,⟨rfl⟩⟩
   obtain⟨n5,b5,e5⟩:∃ n b,Aside0 (smallS y5=(n,b)):=⟨_,_,⟨rfl⟩⟩
   have es5:Aside0 (r1_Small.f y5=some (n5,b5)):=⟨rsmall_c (by rw[← ey5.out];exact hsz.out 5) e5.out⟩
   have hc3:=(RP.out.row.at 3 q3n).trans (congrArg (fun z=>some (Value.string z)) ey3.out)
   go_upto_region 16 with (first|(refine gl_ 65 Tryz.func25 #[.string y3] ?_;refine mo_ (r1_Small.calls y3 n3 b3 _ es3.out) ?_;clear hc3;intro w15 b_;replace RP:=ak_ (RP.out.below b_);replace BN:=blk_below BN b_;clear b_;have hc4:=(RP.out.row.at 4 q4n).trans (congrArg (fun z=>some (Value.string z)) ey4.out))|(refine gl_ 72 Tryz.func25 #[.string y4] ?_;refine mo_ (r1_Small.calls y4 n4 b4 _ es4.out) ?_;clear hc4;intro w16 b_;replace RP:=ak_ (RP.out.below b_);replace BN:=blk_below BN b_;clear b_;have hc5:=(RP.out.row.at 5 q5n).trans (congrArg (fun z=>some (Value.string z)) ey5.out))|(refine gl_ 79 Tryz.func25 #[.string y5] ?_;refine mo_ (r1_Small.calls y5 n5 b5 _ es5.out) ?_;clear hc5;intro w17 b_;replace RP:=ak_ (RP.out.below b_);replace BN:=blk_below BN b_;clear b_))
   clear q1 q2 q3 q4 q5 q1n q2n q3n q4n q5n es3 es4 es5
   have d8:=bc_ ⟨BN⟩ 8 rfl;have d9:=bc_ ⟨BN⟩ 9 rfl;have d10:=bc_ ⟨BN⟩ 10 rfl;have f8:=blk_frozen BN 8;have f9:=blk_frozen BN 9;have f10:=blk_frozen BN 10
   go_upto_region 20 with (fail)
   clear d8 d9 d10 f8 f9 f10
   replace RP:=ak_ (((RP.out.far NW 8 (.int .i64 n3)).far NW 9 (.int .i64 n4)).far NW 10 (.int .i64 n5))
   have BN:=blk_set3 BN 8 (.int .i64 n3) 9 (.int .i64 n4) 10 (.int .i64 n5) (cs':=#[.string x1,.int .i64 kd,.string x2,.string ⟨#[]⟩,.string z1,.string z2,.string z1,.string z2,.int .i64 n3,.int .i64 n4,.int .i64 n5]) rfl
   generalize (((w17.setCell ⟨sn,8,none⟩ (.int .i64 n3)).setCell ⟨sn,9,none⟩ (.int .i64 n4)).setCell ⟨sn,10,none⟩ (.int .i64 n5))=w18 at RP BN ⊢
   clear hcomb
   obtain⟨y6,ey6⟩:∃ x,Aside0 (ws.getD 6 ⟨#[]⟩=x):=⟨_,⟨rfl⟩⟩
   have q6:(6:Int)<(ws.length:Int):=by omega
   have q6n:6<ws.length:=by omega
   go_upto_if 88 with (fail)
   (try simp only[Act.put,List.setIfInBounds_toArray,List.set_cons_zero,List.set_cons_succ])
   go_cut [18] (fun v18 wc=>∃ (i6:Nat) (x3:ByteArray),v18=.int .i64 (i6:Int)∧Aside0 ((xo=true∧i6=7∧x3=ws.getD 6 ⟨#[]⟩)∨(xo=false∧i6=6∧x3=⟨#[]⟩))∧Aside0 (Rp w wc gb gr ga ws)∧Aside0 (wc.heap[sn]?=some (.cells #[.string x1,.int .i64 kd,.string x2,.string x3,.string z1,.string z2,.string z1,.string z2,.int .i64 n3,.int .i64 n4,.int .i64 n5] 25 (0,0))))
   case first =>
    as_aux_lemma =>
     cases xo
     ·go_wp2
      go_meet
      case rel=>exact⟨6,⟨#[]⟩,rfl,⟨Or.inr ⟨rl_,rl_,rl_⟩⟩,RP,⟨BN⟩⟩
     ·have hc6:=(RP.out.row.at 6 q6n).trans (congrArg (fun z=>some (Value.string z)) ey6.out)
      have d3:=bc_ ⟨BN⟩ 3 rfl
      have f3:=blk_frozen BN 3
      go_wp2
      go_meet
      case rel=>exact⟨7,y6,rfl,⟨Or.inl ⟨rl_,rl_,ey6.out.symm⟩⟩,⟨RP.out.far NW 3 (.string y6)⟩,⟨bp_ BN 3 (.string y6)⟩⟩
   case rest =>
    clear q6 q6n ey6 BN RP
    obtain⟨i6,x3,rfl,HO,RP,BN⟩:=hcut
    obtain⟨yr,eyr⟩:∃ x,Aside0 (ws.getD i6 ⟨#[]⟩=x):=⟨_,⟨rfl⟩⟩
    obtain⟨pn,pd,bp,EP⟩:∃ pn pd b,Aside0 (parseS yr=(pn,pd,if b=true then 0 else 40)):=by obtain⟨pn,pd,b,e⟩:=parseS_two yr;exact⟨pn,pd,b,⟨e⟩⟩
    have epf:Aside0 (r4_Parse.f yr=some (pn,pd,if bp=true then 0 else 40)):=⟨by unfold r4_Parse.f;rw[if_pos (by rw[← eyr.out];exact Nat.le_trans (hsz.out i6) (by decide)),EP.out]⟩
    go_upto_region 23 with (fail)
    (try simp only[Act.put,List.setIfInBounds_toArray,List.set_cons_zero,List.set_cons_succ])
    go_cut [102] (fun vc wc=>∃ c:Bool,vc=.bool c∧Aside0 ((c=true∧xr=true∧i6<ws.length)∨(c=false∧(xr=false∨ws.length≤i6)))∧Aside0 (Rp w wc gb gr ga ws)∧Aside0 (wc.heap[sn]?=some (.cells #[.string x1,.int .i64 kd,.string x2,.string x3,.string z1,.string z2,.string z1,.string z2,.int .i64 n3,.int .i64 n4,.int .i64 n5] 25 (0,0))))
    case first =>
     as_aux_lemma =>
      cases xr
      ·go_wp2
       go_meet
       case rel=>exact⟨false,rl_,⟨Or.inr ⟨rfl,Or.inl rl_⟩⟩,RP,BN⟩
      ·rcases Nat.lt_or_ge i6 ws.length with hlt|hge
       ·have bq:decide ((i6:Int)<(ws.length:Int))=true:=decide_eq_true (by omega)
        go_wp2
        go_meet
        case rel=>exact⟨true,rl_,⟨Or.inl ⟨rfl,rl_,hlt⟩⟩,RP,BN⟩
       ·have bq:decide ((i6:Int)<(ws.length:Int))=false:=decide_eq_false (by omega)
        go_wp2
        go_meet
        case rel=>exact⟨false,rl_,⟨Or.inr ⟨rfl,Or.inr hge⟩⟩,RP,BN⟩
    case rest =>
     clear BN RP
     obtain⟨cc,rfl,HC,RP,BN⟩:=hcut
     go_upto_if 102 with (fail)
     (try simp only[Act.put,List.setIfInBounds_toArray,List.set_cons_zero,List.set_cons_succ])
     go_cut [17] (fun v17 wc=>∃ (zr:Bool) (rn rd:ByteArray),v17=.bool zr∧Aside0 (NumT xr i6 ws.length yr b5 zr rn rd z1 z2)∧Aside0 (Rp w wc gb gr ga ws)∧Aside0 (wc.heap[sn]?=some (.cells #[.string x1,.int .i64 kd,.string x2,.string x3,.string rn,.string rd,.string z1,.string z2,.int .i64 n3,.int .i64 n4,.int .i64 n5] 25 (0,0))))
     case first =>
      as_aux_lemma =>
       rcases HC.out with ⟨rfl,hxr,hlt⟩|⟨rfl,hor⟩
       ·have qi:(i6:Int)<(ws.length:Int):=by omega
        have q0_:(0:Int)≤(i6:Int):=by omega
        have hcy:=(RP.out.row.at i6 hlt).trans (congrArg (fun z=>some (Value.string z)) eyr.out)
        have Hxr_:=ak_ hxr
        clear hxr
        have ENDc:Aside0 (∀ (z:Bool) (wv:World),z=(b5&&bp)→Rp w wv gb gr ga ws→wv.heap[sn]?=some (.cells #[.string x1,.int .i64 kd,.string x2,.string x3,.string pn,.string pd,.string z1,.string z2,.int .i64 n3,.int .i64 n4,.int .i64 n5] 25 (0,0))→∃ (zr:Bool) (rn rd:ByteArray),Value.bool z=.bool zr∧Aside0 (NumT xr i6 ws.length yr b5 zr rn rd z1 z2)∧Aside0 (Rp w wv gb gr ga ws)∧Aside0 (wv.heap[sn]?=some (.cells #[.string x1,.int .i64 kd,.string x2,.string x3,.string rn,.string rd,.string z1,.string z2,.int .i64 n3,.int .i64 n4,.int .i64 n5] 25 (0,0)))):=⟨fun z wv hz h1 h2=>⟨z,pn,pd,rfl,⟨Or.inl ⟨Hxr_.out,hlt,bp,EP.out,hz⟩⟩,⟨h1⟩,⟨h2⟩⟩⟩
        go_upto_region 26 with (first|(refine gl_ 108 Tryz.func26 #[.string yr] ?_;refine mo_ (r4_Parse.calls yr pn pd _ _ epf.out) ?_;clear hcy;intro wp_ b_;replace RP:=ak_ (RP.out.below b_);replace BN:=ak_ (blk_below BN.out b_);clear b_)|((with_reducible refine gate_dst (N:=19) rfl ?_);refine be_ 19 #[.string ⟨#[]⟩,.string ⟨#[]⟩] 23 ?_;intro gx hg wx hx b_;have NX:=RP.out.new (World.block_lt_of_cell? _ _ (RP.out.row.at i6 hlt)) hg;have nxs:gx≠sn:=(by rw[hg];exact Nat.ne_of_gt (blk_lt BN.out));have nsx:=nxs.symm;replace RP:=ak_ (RP.out.below b_);replace BN:=ak_ (blk_below BN.out b_);clear b_ hg;have g0:=bc_ ⟨hx⟩ 0 rfl;have g1:=bc_ ⟨hx⟩ 1 rfl;have h0:=blk_frozen hx 0;have h1:=blk_frozen hx 1;have d4:=bc_ BN 4 rfl;have d5:=bc_ BN 5 rfl;have f4:=blk_frozen BN.out 4;have f5:=blk_frozen BN.out 5))
        clear g0 g1 h0 h1 d4 d5 f4 f5
        replace RP:=ak_ ((((RP.out.far NX 0 (.string pn)).far NX 1 (.string pd)).far NW 4 (.string pn)).far NW 5 (.string pd))
        replace BN:=ak_ (bp2_ (cs':=#[.string x1,.int .i64 kd,.string x2,.string x3,.string pn,.string pd,.string z1,.string z2,.int .i64 n3,.int .i64 n4,.int .i64 n5]) (blk_far (p:=⟨gx,1,none⟩) (blk_far (p:=⟨gx,0,none⟩) BN.out nsx (.string pn)) nsx (.string pd)) 4 (.string pn) 5 (.string pd))
        clear hx nxs nsx
        generalize ((((wx.setCell ⟨gx,0,none⟩ (.string pn)).setCell ⟨gx,1,none⟩ (.string pd)).setCell ⟨sn,4,none⟩ (.string pn)).setCell ⟨sn,5,none⟩ (.string pd))=wy at RP BN ⊢
        cases b5 <;> cases bp
        all_goals
         go_wp2
         go_meet
         case rel=>exact ENDc.out _ _ rfl RP.out BN.out
       ·go_wp2
        go_meet
        case rel=>exact⟨b5,z1,z2,rl_,⟨Or.inr ⟨hor,rfl,rfl,rfl⟩⟩,RP,BN⟩
     case rest =>
      clear BN RP HC EP epf
      obtain⟨zr,rn,rd,rfl,HRr,RP,BN⟩:=hcut
      have hi6:i6≤7:=by rcases HO.out with h|h <;> omega
      go_upto_if 118 with (fail)
      (try simp only[Act.put,List.setIfInBounds_toArray,List.set_cons_zero,List.set_cons_succ])
      go_cut [18] (fun v18 wc=>∃ i7:Nat,v18=.int .i64 (i7:Int)∧Aside0 (i7=if xr=true then i6+1 else i6)∧Aside0 (Rp w wc gb gr ga ws)∧Aside0 (wc.heap[sn]?=some (.cells #[.string x1,.int .i64 kd,.string x2,.string x3,.string rn,.string rd,.string z1,.string z2,.int .i64 n3,.int .i64 n4,.int .i64 n5] 25 (0,0))))
      case first =>
       as_aux_lemma =>
        cases xr
        ·go_wp2
         go_meet
         case rel=>exact⟨i6,rl_,⟨rl_⟩,RP,BN⟩
        ·have hwi:IntKind.i64.wrap ((i6:Int)+1)=(i6:Int)+1:=by rw[i64_w];exact w64 (by omega) (by omega)
         go_wp2
         go_meet
         case rel=>exact⟨i6+1,rl_,⟨rl_⟩,RP,BN⟩
      case rest =>
       clear BN RP
       obtain⟨i7,rfl,H7,RP,BN⟩:=hcut
       have hi7:i7≤8:=by have:=H7.out;split at this <;> omega
       obtain⟨yc,eyc⟩:∃ x,Aside0 (ws.getD i7 ⟨#[]⟩=x):=⟨_,⟨rfl⟩⟩
       obtain⟨pn,pd,bp,EP⟩:∃ pn pd b,Aside0 (parseS yc=(pn,pd,if b=true then 0 else 40)):=by obtain⟨pn,pd,b,e⟩:=parseS_two yc;exact⟨pn,pd,b,⟨e⟩⟩
       have epf:Aside0 (r4_Parse.f yc=some (pn,pd,if bp=true then 0 else 40)):=⟨by unfold r4_Parse.f;rw[if_pos (by rw[← eyc.out];exact Nat.le_trans (hsz.out i7) (by decide)),EP.out]⟩
       go_upto_region 29 with (fail)
       (try simp only[Act.put,List.setIfInBounds_toArray,List.set_cons_zero,List.set_cons_succ])
       go_cut [127] (fun vc wc=>∃ c:Bool,vc=.bool c∧Aside0 ((c=true∧xc=true∧i7<ws.length)∨(c=false∧(xc=false∨ws.length≤i7)))∧Aside0 (Rp w wc gb gr ga ws)∧Aside0 (wc.heap[sn]?=some (.cells #[.string x1,.int .i64 kd,.string x2,.string x3,.string rn,.string rd,.string z1,.string z2,.int .i64 n3,.int .i64 n4,.int .i64 n5] 25 (0,0))))
       case first =>
        as_aux_lemma =>
         cases xc
         ·go_wp2
          go_meet
          case rel=>exact⟨false,rl_,⟨Or.inr ⟨rfl,Or.inl rl_⟩⟩,RP,BN⟩
         ·rcases Nat.lt_or_ge i7 ws.length with hlt|hge
          ·have bq:decide ((i7:Int)<(ws.length:Int))=true:=decide_eq_true (by omega)
           go_wp2
           go_meet
           case rel=>exact⟨true,rl_,⟨Or.inl ⟨rfl,rl_,hlt⟩⟩,RP,BN⟩
          ·have bq:decide ((i7:Int)<(ws.length:Int))=false:=decide_eq_false (by omega)
           go_wp2
           go_meet
           case rel=>exact⟨false,rl_,⟨Or.inr ⟨rfl,Or.inr hge⟩⟩,RP,BN⟩
       case rest =>
        clear BN RP
        obtain⟨cc,rfl,HC,RP,BN⟩:=hcut
        go_upto_if 127 with (fail)
        (try simp only[Act.put,List.setIfInBounds_toArray,List.set_cons_zero,List.set_cons_succ])
        go_cut [17] (fun v17 wc=>∃ (zc:Bool) (cn cd:ByteArray),v17=.bool zc∧Aside0 (NumT xc i7 ws.length yc zr zc cn cd z1 z2)∧Aside0 (Rp w wc gb gr ga ws)∧Aside0 (wc.heap[sn]?=some (.cells #[.string x1,.int .i64 kd,.string x2,.string x3,.string rn,.string rd,.string cn,.string cd,.int .i64 n3,.int .i64 n4,.int .i64 n5] 25 (0,0))))
        case first =>
         as_aux_lemma =>
          rcases HC.out with ⟨rfl,hxr,hlt⟩|⟨rfl,hor⟩
          ·have qi:(i7:Int)<(ws.length:Int):=by omega
           have q0_:(0:Int)≤(i7:Int):=by omega
           have hcy:=(RP.out.row.at i7 hlt).trans (congrArg (fun z=>some (Value.string z)) eyc.out)
           have Hxc_:=ak_ hxr
           clear hxr
           have ENDc:Aside0 (∀ (z:Bool) (wv:World),z=(zr&&bp)→Rp w wv gb gr ga ws→wv.heap[sn]?=some (.cells #[.string x1,.int .i64 kd,.string x2,.string x3,.string rn,.string rd,.string pn,.string pd,.int .i64 n3,.int .i64 n4,.int .i64 n5] 25 (0,0))→∃ (zc:Bool) (cn cd:ByteArray),Value.bool z=.bool zc∧Aside0 (NumT xc i7 ws.length yc zr zc cn cd z1 z2)∧Aside0 (Rp w wv gb gr ga ws)∧Aside0 (wv.heap[sn]?=some (.cells #[.string x1,.int .i64 kd,.string x2,.string x3,.string rn,.string rd,.string cn,.string cd,.int .i64 n3,.int .i64 n4,.int .i64 n5] 25 (0,0)))):=⟨fun z wv hz h1 h2=>⟨z,pn,pd,rfl,⟨Or.inl ⟨Hxc_.out,hlt,bp,EP.out,hz⟩⟩,⟨h1⟩,⟨h2⟩⟩⟩
           go_upto_region 32 with (first|(refine gl_ 133 Tryz.func26 #[.string yc] ?_;refine mo_ (r4_Parse.calls yc pn pd _ _ epf.out) ?_;clear hcy;intro wp_ b_;replace RP:=ak_ (RP.out.below b_);replace BN:=ak_ (blk_below BN.out b_);clear b_)|((with_reducible refine gate_dst (N:=21) rfl ?_);refine be_ 21 #[.string ⟨#[]⟩,.string ⟨#[]⟩] 23 ?_;intro gx hg wx hx b_;have NX:=RP.out.new (World.block_lt_of_cell? _ _ (RP.out.row.at i7 hlt)) hg;have nxs:gx≠sn:=(by rw[hg];exact Nat.ne_of_gt (blk_lt BN.out));have nsx:=nxs.symm;replace RP:=ak_ (RP.out.below b_);replace BN:=ak_ (blk_below BN.out b_);clear b_ hg;have g0:=bc_ ⟨hx⟩ 0 rfl;have g1:=bc_ ⟨hx⟩ 1 rfl;have h0:=blk_frozen hx 0;have h1:=blk_frozen hx 1;have d6:=bc_ BN 6 rfl;have d7:=bc_ BN 7 rfl;have f6:=blk_frozen BN.out 6;have f7:=blk_frozen BN.out 7))
           clear g0 g1 h0 h1 d6 d7 f6 f7
           replace RP:=ak_ ((((RP.out.far NX 0 (.string pn)).far NX 1 (.string pd)).far NW 6 (.string pn)).far NW 7 (.string pd))
           replace BN:=ak_ (bp2_ (cs':=#[.string x1,.int .i64 kd,.string x2,.string x3,.string rn,.string rd,.string pn,.string pd,.int .i64 n3,.int .i64 n4,.int .i64 n5]) (blk_far (p:=⟨gx,1,none⟩) (blk_far (p:=⟨gx,0,none⟩) BN.out nsx (.string pn)) nsx (.string pd)) 6 (.string pn) 7 (.string pd))
           clear hx nxs nsx
           generalize ((((wx.setCell ⟨gx,0,none⟩ (.string pn)).setCell ⟨gx,1,none⟩ (.string pd)).setCell ⟨sn,6,none⟩ (.string pn)).setCell ⟨sn,7,none⟩ (.string pd))=wy at RP BN ⊢
           cases zr <;> cases bp
           all_goals
            go_wp2
            go_meet
            case rel=>exact ENDc.out _ _ rfl RP.out BN.out
          ·go_wp2
           go_meet
           case rel=>exact⟨zr,z1,z2,rl_,⟨Or.inr ⟨hor,rfl,rfl,rfl⟩⟩,RP,BN⟩
        case rest =>
         clear BN RP HC EP epf
         obtain⟨zc,cn,cd,rfl,HCn,RP,BN⟩:=hcut
         go_upto_if 143 with (fail)
         (try simp only[Act.put,List.setIfInBounds_toArray,List.set_cons_zero,List.set_cons_succ])
         go_cut [18] (fun v18 wc=>∃ i8:Nat,v18=.int .i64 (i8:Int)∧Aside0 (i8=if xc=true then i7+1 else i7)∧Aside0 (Rp w wc gb gr ga ws)∧Aside0 (wc.heap[sn]?=some (.cells #[.string x1,.int .i64 kd,.string x2,.string x3,.string rn,.string rd,.string cn,.string cd,.int .i64 n3,.int .i64 n4,.int .i64 n5] 25 (0,0))))
         case first =>
          as_aux_lemma =>
           cases xc
           ·go_wp2
            go_meet
            case rel=>exact⟨i7,rl_,⟨rl_⟩,RP,BN⟩
           ·have hwi:IntKind.i64.wrap ((i7:Int)+1)=(i7:Int)+1:=by rw[i64_w];exact w64 (by omega) (by omega)
            go_wp2
            go_meet
            case rel=>exact⟨i7+1,rl_,⟨rl_⟩,RP,BN⟩
         case rest =>
          clear BN RP
          obtain⟨i8,rfl,H8,RP,BN⟩:=hcut
          have PE:=(rpar_end k0 k4 hx0.out hxw KO.out KR.out KC.out e1.out e2.out ez1.out ez2.out ey3.out ey4.out ey5.out e3.out e4.out e5.out HO.out eyr.out HRr.out H7.out eyc.out HCn.out H8.out)
          have hsm:Aside0 (smA (actV x1 kd x2 x3 rn rd cn cd n3 n4 n5)=true):=⟨smA_of (by rw[← e1.out];exact Nat.le_trans (hsz.out 1) (by decide)) (by rw[← e2.out];exact Nat.le_trans (hsz.out 2) (by decide)) (by rcases HO.out with ⟨_,_,h⟩|⟨_,_,h⟩ <;> rw[h] <;> first|exact Nat.le_trans (hsz.out 6) (by decide)|exact Nat.zero_le _) (HRr.out.sm (by rw[← eyr.out];exact Nat.le_trans (hsz.out i6) (by decide)) (by rw[← ez1.out,← ez2.out];decide +kernel)) (HCn.out.sm (by rw[← eyc.out];exact Nat.le_trans (hsz.out i7) (by decide)) (by rw[← ez1.out,← ez2.out];decide +kernel))⟩
          clear HO HRr H7 HCn H8 KO KR KC e3 e4 e5 ey3 ey4 ey5 eyr eyc ez ez1 ez2 hxw
          obtain⟨okk,hok⟩:∃ b:Bool,Aside0 (((b3&&(b4&&(zc&&decide (i8=ws.length))))&&mayA (actV x1 kd x2 x3 rn rd cn cd n3 n4 n5))=b):=⟨_,⟨rfl⟩⟩
          go_upto_region 35 with (fail)
          (try simp only[Act.put,List.setIfInBounds_toArray,List.set_cons_zero,List.set_cons_succ])
          go_cut [166] (fun v166 wc=>∃ c:Bool,v166=.bool c∧Aside0 (c=!okk)∧Aside0 (Rp w wc gb gr ga ws)∧Aside0 (wc.heap[sn]?=some (.cells #[.string x1,.int .i64 kd,.string x2,.string x3,.string rn,.string rd,.string cn,.string cd,.int .i64 n3,.int .i64 n4,.int .i64 n5] 25 (0,0))))
          case first =>
           as_aux_lemma =>
            clear PE
            rcases Bool.eq_false_or_eq_true (b3&&(b4&&zc)) with hf|hf
            ·have hf3:b3=true:=(and3_ hf).1
             have hf4:b4=true:=(and3_ hf).2.1
             have hfz:zc=true:=(and3_ hf).2.2
             subst hf3 hf4 hfz
             clear hf
             by_cases hl:i8=ws.length
             ·have hq:((i8:Int) != (ws.length:Int))=false:=bne_eq_false_iff_eq.mpr (by omega)
              have hm:mayA (actV x1 kd x2 x3 rn rd cn cd n3 n4 n5)=okk:=by rw[← hok.out,decide_eq_true hl];simp
              have hfm:Aside0 (Pk.r15_May.f 1000012 x1 kd x2 x3 rn rd cn cd n3 n4 n5=some okk):=⟨by rw[r15may_f hsm.out 1000012 (nr_ _),hm]⟩
              clear hm hl
              have dz:=cs11_ BN
              go_wp2_with (first|(go_at_call 12;refine(Pk.r15_May.calls 1000012 x1 kd x2 x3 rn rd cn cd n3 n4 n5 okk _ hfm.out).mono ?_;clear dz;rintro e w19 ⟨rfl,b_⟩;replace RP:=ak_ (RP.out.below b_);replace BN:=ak_ (blk_below BN.out b_);clear b_))
              go_meet
              case rel=>exact⟨!okk,rl_,⟨rfl⟩,RP,BN⟩
             ·have hq:((i8:Int) != (ws.length:Int))=true:=bne_iff_ne.mpr (by omega)
              have hm:Aside0 (true=!okk):=⟨by rw[← hok.out,decide_eq_false hl];simp⟩
              clear hok hl
              go_wp2
              go_meet
              case rel=>exact⟨true,rl_,hm,RP,BN⟩
            ·have hm:Aside0 (true=!okk):=⟨by rw[← hok.out];revert hf;cases b3 <;> cases b4 <;> cases zc <;> simp⟩
             clear hok
             cases b3 <;> cases b4 <;> cases zc <;> first|(exfalso;exact absurd hf (by decide))|skip
             all_goals
              clear hf
              go_wp2
              go_meet
              case rel=>exact⟨true,rl_,hm,RP,BN⟩
          case rest =>
           clear BN RP
           obtain⟨c_,rfl,HC_,RP,BN⟩:=hcut
           rw[hok.out] at PE
           clear hok hsm
           have hr:=RP.out.hr
           have ha:=RP.out.ha
           have hB:=ak_ RP.out.hB
           clear RP
           cases okk
           ·obtain rfl:c_ = true:=HC_.out
            have PN:Aside0 (outW (ws.map (·.data.toList))=(zeroA,150)):=⟨outW_none (PE.trans (if_neg (by simp)))⟩
            clear PE HC_
            have nga:=hna.out
            have dz:=cs11_ ⟨ha⟩;have cz:=cs11_ ⟨hr⟩
            go_wp2
            refine bodyPost_ret (results_ct rfl _ _ gr 25 #[.string ⟨#[]⟩,.int .i64 0,.string ⟨#[]⟩,.string ⟨#[]⟩,.string ⟨#[]⟩,.string ⟨#[]⟩,.string ⟨#[]⟩,.string ⟨#[]⟩,.int .i64 0,.int .i64 0,.int .i64 0] (0,0) _ rfl (blk_set11 hr _ _ _ _ _ _ _ _ _ _ _) Tryz.underlying25 rfl (by kernel_rfl)) rfl ?_
            (try rw[PN.out])
            exact⟨rfl,below_set11 hB.out GR.out _ _ _ _ _ _ _ _ _ _ _⟩
           ·obtain rfl:c_ = false:=HC_.out
            have PS:Aside0 (outW (ws.map (·.data.toList))=(actV x1 kd x2 x3 rn rd cn cd n3 n4 n5,0)):=⟨outW_some (PE.trans (if_pos rfl))⟩
            clear PE HC_
            have nga:=NW.r
            have dz:=cs11_ BN;have cz:=cs11_ ⟨hr⟩
            go_wp2
            refine bodyPost_ret (results_ct rfl _ _ gr 25 #[.string x1,.int .i64 kd,.string x2,.string x3,.string rn,.string rd,.string cn,.string cd,.int .i64 n3,.int .i64 n4,.int .i64 n5] (0,0) _ rfl (blk_set11 hr _ _ _ _ _ _ _ _ _ _ _) Tryz.underlying25 rfl (by kernel_rfl)) rfl ?_
            (try rw[PS.out])
            exact⟨rfl,below_set11 hB.out GR.out _ _ _ _ _ _ _ _ _ _ _⟩
end Go.Proofs.YtoghmeffpgbcfaaGreatDoor