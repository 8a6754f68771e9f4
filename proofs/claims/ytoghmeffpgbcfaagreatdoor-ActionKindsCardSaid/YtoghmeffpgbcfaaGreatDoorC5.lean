/-
Parts of the proof, in build order: ActNum, Join15, Pj0, Pj1, Pj2, Pj, Pl0, Pl1, Pl2, Pl, Po0, Po1, Po2, Po, ActApi, ActPrint, ActPar, ActEnd, ActPar2, ActDone, Ref3Of, NumG0, NumR4, Pm0, Pm1, Pm, Ref15L.
-/
import Derived.Test.YtoghmeffpgbcfaaGreatDoorC4
import Derived.Test.YtoghmeffpgbcfaaGreatDoorC1
import Derived.Test.YtoghmeffpgbcfaaGreatDoorProg
import Derived.Below
import Derived.Deep.Draws
import Derived.Deep.AppendLies
import Derived.Maps.AppendAt
import Derived.OwnWalk
import Derived.Laws.BytesArg
import Derived.Laws.MakeOwn
import Derived.Laws.OwnMore
import Derived.Deep.OwnRows
import Derived.Tactics
import Derived.Lib.ConvBytes
import Derived.Laws.Slices
import Derived.WalkKit
import Derived.KernelRfl
import Derived.RowKit3
import Derived.Deep.LoopGhost
import Derived.Deep.QuietTactic
import Derived.BigQuiet
import Derived.WideLaws
import Derived.Deep.DeepCutAuto
import Derived.Deep.CutBlock
import Derived.Deep.RegionHeld3
import Derived.Laws.Rows
import Derived.Lib.AppendStr
import Derived.ArgAppend
import Derived.Laws.IdiomCopy
import Derived.OrdersHeld
import Derived.Laws.BitsLemmas
import Derived.RowKit
import Derived.Test.YtoghmeffpgbcfaaGreatDoorC0
import Derived.Test.YtoghmeffpgbcfaaGreatDoorC2
import Derived.Lib.SplitLaws
set_option linter.unusedVariables false
set_option linter.unusedSimpArgs false
open Go.RowKit Go.Proofs.YtoghmeffpgbcfaaGreatDoorW.PrintWords Go.Proofs.YtoghmeffpgbcfaaGreatDoorW.PrintLast Go.Proofs.YtoghmeffpgbcfaaGreatDoorW.PrintMore
section
namespace Go.Proofs.YtoghmeffpgbcfaaGreatDoor
theorem Rd.ok_eq {w:World} {g gb i:Nat} {ws:List ByteArray} {a b:Bool} (h:Rd w g gb ws i a) (e:a=b):Rd w g gb ws i b:=e▸h
theorem Rd.far {w:World} {g gb i k:Nat} {ws:List ByteArray} {ok:Bool} (h:Rd w g gb ws i ok) (h1:k≠g) (h2:∀ (j:Nat) x,ws[j]?=some x→k≠gb) (a:Nat) (v:Value):Rd (w.setCell ⟨k,a,none⟩ v) g gb ws i ok:=by
 obtain⟨⟨A,c,c0,hA⟩,c1,f0,f1,row,ne,sz,inb⟩:=h
 refine⟨⟨A,c,?_,hA⟩,?_,?_,?_,?_,ne,sz,?_⟩
 ·rw[far_cell _ h1];exact c0
 ·rw[far_cell _ h1];exact c1
 ·rw[World.frozen?_setCell];exact f0
 ·rw[World.frozen?_setCell];exact f1
 ·intro j x hj
  rw[far_cell _ (h2 j x hj)]
  exact row j x hj
 ·simpa using inb
set_option maxHeartbeats 4000000 in
set_option maxRecDepth 100000 in
theorem num_none {g:Nat} {w0 w:World} (hL:Laid w0) (hb0:Below w0.heap.size w0 w) :
  Calls Tryz.prog 21 #[.pointer (some ⟨g,0,none⟩),.bool false] w fun e w'=>e=.returned (.agg #[.string (rT 0).1,.string (rT 0).2])∧Below w.heap.size w w':=by
 have hsm:rat_Of.f 0=some ((rT 0).1,(rT 0).2):=if_pos (by decide)
 generalize (rT 0).1=n at hsm ⊢
 generalize (rT 0).2=d at hsm ⊢
 have hu23:=Tryz.underlying23
 go_enter Tryz.func21,Tryz.ntmps21
 go_wp2_with (first|((with_reducible refine gate_dst (N:=4) rfl ?_);refine be_ 4 #[.string ⟨#[]⟩,.string ⟨#[]⟩] 23 ?_;intro gr hgr w1 hr b1;have hge:w.heap.size≤gr:=Nat.le_of_eq hgr.symm;clear hgr)|(go_at_call 42;refine(rat_Of.calls 0 n d _ (hL.below (hb0.trans (b1.mono (below_size hb0)))) hsm).mono ?_;rintro e w2 ⟨rfl,b2⟩;have hr2:=blk_below hr b2;have hc0:=bc_ ⟨hr2⟩ 0 rfl;have hc1:=bc_ ⟨hr2⟩ 1 rfl;have hf0:=blk_frozen hr2 0;have hf1:=blk_frozen hr2 1))
 refine bodyPost_ret (results_cell_row rfl _ _ gr 23 #[.string n,.string d] (0,0) _ rfl (rp_ hr2) Tryz.underlying23 rfl (by kernel_rfl)) rfl ?_
 exact⟨rfl,((b1.trans (b2.mono b1.size)).setCell hge _).setCell hge _⟩
set_option maxHeartbeats 4000000 in
set_option maxRecDepth 100000 in
theorem num_calls {g gb i:Nat} {ws:List ByteArray} {ok:Bool} {w0 w:World} (hL:Laid w0) (hb0:Below w0.heap.size w0 w) (hB:w0.heap.size≤g) (h:Rd w g gb ws i ok) (hsz:(ws.getD i ⟨#[]⟩).size≤1100) :
  Calls Tryz.prog 21 #[.pointer (some ⟨g,0,none⟩),.bool true] w fun e w'=>e=.returned (.agg #[.string (parseS (ws.getD i ⟨#[]⟩)).1,.string (parseS (ws.getD i ⟨#[]⟩)).2.1])∧Rd w' g gb ws (i+1) ((ok&&decide (i<ws.length))&&decide ((parseS (ws.getD i ⟨#[]⟩)).2.2=0))∧Below w0.heap.size w0 w'∧(∀ b,b≠g→b<w.heap.size→w'.heap[b]?=w.heap[b]?):=by
 have hw:=fun w1 (hb:Below w0.heap.size w0 w1) (hr:Rd w1 g gb ws i ok)=>word_calls (B:=w0.heap.size) hB hr
 have hsm:decimal_Parse.f (ws.getD i ⟨#[]⟩)=some ((parseS (ws.getD i ⟨#[]⟩)).1,(parseS (ws.getD i ⟨#[]⟩)).2.1,(parseS (ws.getD i ⟨#[]⟩)).2.2):=if_pos hsz
 generalize ws.getD i ⟨#[]⟩=s at hw hsm ⊢
 generalize (parseS s).1=n at hsm ⊢
 generalize (parseS s).2.1=d at hsm ⊢
 generalize (parseS s).2.2=c at hsm ⊢
 generalize hok:(ok&&decide (i<ws.length))=ok1 at hw ⊢
 have hu23:=Tryz.underlying23
 clear hsz hok
 have hin:=h.inb
 rcases Decidable.em (c=0) with rfl|hc
 all_goals cases ok1
 all_goals
  go_enter Tryz.func21,Tryz.ntmps21
  go_wp2_with (first|((with_reducible refine gate_dst (N:=4) rfl ?_);refine be_ 4 #[.string ⟨#[]⟩,.string ⟨#[]⟩] 23 ?_;intro gr hgr w1 hr b1;have hge:w.heap.size≤gr:=Nat.le_of_eq hgr.symm;clear hgr;have hne:gr≠g:=Nat.ne_of_gt (Nat.lt_of_lt_of_le hin hge);have a1:=hb0.trans (b1.mono (below_size hb0)))|((with_reducible refine gate_dst (N:=5) rfl ?_);refine be_ 5 #[.string ⟨#[]⟩,.string ⟨#[]⟩] 23 ?_;intro gx hgx w4 hx b4;have hnx:gx≠gr:=(by rw[hgx];exact Nat.ne_of_gt (blk_lt hr3));have hng:gx≠g:=(by rw[hgx];exact Nat.ne_of_gt h3.inb);have hgex:w.heap.size≤gx:=(by rw[hgx];exact Nat.le_trans b1.size (Nat.le_trans b2.size b3.size));clear hgx;have a4:=a3.trans (b4.mono (below_size a3));have h4:=h3.below b4;have hr4:=blk_below hr3 b4;have c0:=bc_ ⟨hr4⟩ 0 rfl;have c1:=bc_ ⟨hr4⟩ 1 rfl;have f0:=blk_frozen hr4 0;have f1:=blk_frozen hr4 1;have d0:=bc_ ⟨hx⟩ 0 rfl;have d1:=bc_ ⟨hx⟩ 1 rfl;have k0:=blk_frozen hx 0;have k1:=blk_frozen hx 1;have e1:=h4.c1;have e2:=h4.f1)|(refine gl_ 12 Tryz.func18 #[.pointer (some ⟨g,0,none⟩)] ?_;refine mo_ (hw _ a1 (h.below b1)) ?_;rintro w2 ⟨h2,b2,q2⟩;have a2:=a1.trans b2;have hr2:=(q2 gr hne).trans hr)|(refine gl_ 13 Tryz.func43 #[.string s] ?_;refine mo_ (decimal_Parse.calls s n d _ _ (hL.below a2) hsm) ?_;intro w3 b3;have a3:=a2.trans (b3.mono (below_size a2));have h3:=h2.below b3;have hr3:=blk_below hr2 b3))
  refine bodyPost_ret (results_cell_row rfl _ _ gr 23 #[.string n,.string d] (0,0) _ rfl (blk_put (cs:=#[.string n,.string ⟨#[]⟩]) (blk_put (cs:=#[.string ⟨#[]⟩,.string ⟨#[]⟩]) (blk_far (blk_far (blk_far hr4 hnx.symm _) hnx.symm _) hne _) 0 _ rfl) 1 _ rfl) Tryz.underlying23 rfl (by kernel_rfl)) rfl ?_
  have hgb:∀ (j:Nat) x,ws[j]?=some x→gb<w.heap.size:=fun j x hx=>World.block_lt_of_cell? w _ (h.row j x hx)
  have g1:∀ (j:Nat) x,ws[j]?=some x→gr≠gb:=fun j x hx=>Nat.ne_of_gt (Nat.lt_of_lt_of_le (hgb j x hx) hge)
  have g2:∀ (j:Nat) x,ws[j]?=some x→gx≠gb:=fun j x hx=>Nat.ne_of_gt (Nat.lt_of_lt_of_le (hgb j x hx) hgex)
  have hge0:=Nat.le_trans (below_size hb0) hge
  have hgex0:=Nat.le_trans (below_size hb0) hgex
  refine⟨rfl,Rd.ok_eq (((((h4.far hng g2 _ _).far hng g2 _ _).set_ok _).far hne g1 _ _).far hne g1 _ _) ?_,((((a4.setCell hgex0 _).setCell hgex0 _).setCell hB _).setCell hge0 _).setCell hge0 _,fun k hk hk2=>?_⟩
  ·first|rfl|(simp;done)
  ·have l1:k≠gr:=Nat.ne_of_lt (Nat.lt_of_lt_of_le hk2 hge)
   have l2:k≠gx:=Nat.ne_of_lt (Nat.lt_of_lt_of_le hk2 hgex)
   have s1:=Nat.lt_of_lt_of_le hk2 b1.size
   have s2:=Nat.lt_of_lt_of_le s1 b2.size
   rw[heap_setCell_other _ _ _ _ l1,heap_setCell_other _ _ _ _ l1,heap_setCell_other _ _ _ _ hk,heap_setCell_other _ _ _ _ l2,heap_setCell_other _ _ _ _ l2,b4.block k (Nat.lt_of_lt_of_le s2 b3.size),b3.block k s2,q2 k hk,b1.block k hk2]
end Go.Proofs.YtoghmeffpgbcfaaGreatDoor
end

section
namespace Go.Proofs.YtoghmeffpgbcfaaGreatDoor
def strings_Join.f (l0:List ByteArray) (a1:ByteArray):Option ByteArray:=if (decide (l0≠[])&&(decide (l0.length≤1000)&&decide ((Lib.join (l0.map (·.data.toList)) a1.data.toList).length≤140737488355328)))=true then some ⟨(Lib.join (l0.map (·.data.toList)) a1.data.toList).toArray⟩ else none
theorem strings_Join.callsR {e base:Nat} {ok:Nat→Prop} (A0:Option Addr) (c0:Nat) (l0:List ByteArray) (a1:ByteArray) (r:ByteArray) (w:World) (hr0:Kd.R Kd.string e w base ok (.slice A0 l0.length c0) l0) (h:strings_Join.f l0 a1=some r) :
  Calls Tryz.prog 35 #[.slice A0 l0.length c0,.string a1] w fun e w'=>e=.returned (.string r)∧Below w.heap.size w w':=by
 unfold strings_Join.f at h
 split at h
 ·rename_i hp
  rw[Bool.and_eq_true,Bool.and_eq_true,decide_eq_true_eq,decide_eq_true_eq,decide_eq_true_eq] at hp
  obtain⟨hne,hl,hj⟩:=hp
  rw[← Option.some.inj h]
  have h0:0<l0.length:=List.length_pos_iff.2 hne
  obtain⟨-,hcap,hC⟩:=Kd.R_reads' hr0
  obtain⟨-,inner,hown,-⟩:=hr0
  obtain⟨ad,hA,hc⟩:=hC.2.2 h0
  have hcell:∀ (j:Nat) x,l0[j]?=some x→w.cell? (ad.add j)=some (.string x):=by
   intro j x hx
   obtain⟨cs,_,hk,hq⟩:=hc j x hx
   have e1:cs=[.string x]:=hk
   subst e1
   have h1:=hq 0 _ rfl
   have e2:j * (Kd.string).sz+0=j:=by
    show j * 1+0=j
    omega
   rw[e2] at h1
   exact h1
  rcases hown.2 with ⟨ho,hn⟩|⟨g,cap,cur,ho,_,hg,_,_,_,_⟩
  ·omega
  ·have hv:=ho
   rw[Value.slice.injEq] at hv
   obtain⟨hA',-,-⟩:=hv
   have hb:g<w.heap.size:=by
    rcases Nat.lt_or_ge g w.heap.size with h'|h'
    ·exact h'
    ·rw[Array.getElem?_eq_none h'] at hg;cases hg
   have e1:ad=⟨g,0,none⟩:=Option.some.inj (hA.symm.trans hA')
   subst e1
   subst hA
   refine Tryz.strings_Join g 0 c0 l0 a1 w ?_ hb (by omega) hcap hj
   intro j x hx
   have hq:=hcell j x hx
   have e2:(⟨g,0,none⟩:Addr).add j=⟨g,0+j,none⟩:=by
    unfold Addr.add
    split
    ·rename_i hz
     rw[hz]
    ·rfl
   rw[e2] at hq
   exact hq
 ·cases h
end Go.Proofs.YtoghmeffpgbcfaaGreatDoor
end

attribute [local go_sem] max2_int min2_int max_two min_two max_three min_three max_four min_four   -- for this text's walks alone
section
namespace Go.Proofs.YtoghmeffpgbcfaaGreatDoor.Pj
def errW:Option Int→Value
 | none=>.nilIface
 | some c=>.iface 0 (.int .i64 c)
theorem errW_none:errW none=.nilIface:=rfl
theorem errW_some (c:Int):errW (some c)=.iface 0 (.int .i64 c):=rfl
end Go.Proofs.YtoghmeffpgbcfaaGreatDoor.Pj
end

section
namespace Go.Proofs.YtoghmeffpgbcfaaGreatDoor.Pj
theorem eqA23 (d:Nat) (w:World) (x0 y0:ByteArray) (x1 y1:ByteArray) :
  (Op.equalIn (d+2) 23 (.agg #[.string x0,.string x1]) (.agg #[.string y0,.string y1])).run Tryz.prog w=.ok (x0.toList == y0.toList&&(x1.toList == y1.toList)) w:=by
 refine eqA_of Tryz.underlying23 (by kernel_rfl) ?_;refine eqf_cons (by rfl) (by go_simp;rfl) (by go_simp;rfl) (by go_simp) ?_;exact eqf_last (by rfl) (by go_simp;rfl) (by go_simp;rfl) (by go_simp)
end Go.Proofs.YtoghmeffpgbcfaaGreatDoor.Pj
end

section
namespace Go.Proofs.YtoghmeffpgbcfaaGreatDoor.Pj
attribute [local go_sem high] eqA23
def book_Name.f (a0:ByteArray):Option (Bool):=(strings_TrimPrefix.f a0 (⟨#[33]⟩:ByteArray)).bind fun t101=>(if a0.toList=([]:List UInt8) then (some false) else (if (a0.size:Int)≤20 then ((strings_Trim.f t101 (⟨#[97,98,99,100,101,102,103,104,105,106,107,108,109,110,111,112,113,114,115,116,117,118,119,120,121,122,48,49,50,51,52,53,54,55,56,57]⟩:ByteArray)).bind fun t102=>(some (t102.toList == ([]:List UInt8)))) else (some false)))
set_option maxHeartbeats 8000000 in
set_option maxRecDepth 100000 in
theorem book_Name.calls (a0:ByteArray) (r:Bool) (w:World) (h:book_Name.f a0=some r) :
  Calls Tryz.prog 27 #[.string a0] w fun e w'=>e=.returned (.bool r)∧Below w.heap.size w w':=by
 have HB:=Aside0.mk (Below.refl w.heap.size w);have H:=h;unfold book_Name.f at H;clear h;obtain⟨t101,A2,H⟩:=bi_ H;by_cases c3:a0.toList=([]:List UInt8)
 ·rw[if_pos c3] at H;have c3b0:(a0.toList == ([]:List UInt8))=true:=beq_iff_eq.mpr c3;(try have c3e:(a0.toList.isEmpty)=true:=(by have h_:=c3b0;simp at h_ ⊢;exact h_));have c3b1:(a0.toList != ([]:List UInt8))=false:=bne_eq_false_iff_eq.mpr c3;clear c3;obtain rfl:=Option.some.inj H;go_enter Tryz.func27,Tryz.ntmps27
  go_wp2_with (first|(refine gl_ 5 Tryz.func51 #[.string a0,.string (⟨#[33]⟩:ByteArray)] ?_;refine mo_ (strings_TrimPrefix.calls a0 (⟨#[33]⟩:ByteArray) t101 _ A2.out) ?_;intro w4 hb;replace HB:=bs_ HB hb;(try clear hb);(try clear hb2);(try clear hk);(try clear hi)))
  go_ret
  exact⟨er_,b_ HB.out⟩
 ·rw[if_neg c3] at H;have c3b0:(a0.toList == ([]:List UInt8))=false:=beq_eq_false_iff_ne.mpr c3;(try have c3e:(a0.toList.isEmpty)=false:=(by have h_:=c3b0;simp at h_ ⊢;exact h_));have c3b1:(a0.toList != ([]:List UInt8))=true:=bne_iff_ne.mpr c3;by_cases c5:(a0.size:Int)≤20
  ·rw[if_pos c5] at H;have c5b0:decide ((a0.size:Int)≤20)=true:=decide_eq_true c5;have c5b1:decide (a0.size≤20)=true:=decide_eq_true (by omega);clear c5;obtain⟨t102,A6,H⟩:=bi_ H;obtain rfl:=Option.some.inj H;go_enter Tryz.func27,Tryz.ntmps27
   go_wp2_with (first|(refine gl_ 5 Tryz.func51 #[.string a0,.string (⟨#[33]⟩:ByteArray)] ?_;refine mo_ (strings_TrimPrefix.calls a0 (⟨#[33]⟩:ByteArray) t101 _ A2.out) ?_;intro w7 hb;replace HB:=bs_ HB hb;(try clear hb);(try clear hb2);(try clear hk);(try clear hi))|(go_at_call 52;(with_reducible refine(strings_Trim.calls t101 (⟨#[97,98,99,100,101,102,103,104,105,106,107,108,109,110,111,112,113,114,115,116,117,118,119,120,121,122,48,49,50,51,52,53,54,55,56,57]⟩:ByteArray) t102 _ A6.out).mono ?_);rintro e w8 ⟨rfl,hb⟩;replace HB:=bs_ HB hb;(try clear hb);(try clear hb2);(try clear hk);(try clear hi)))
   go_ret
   exact⟨er_,b_ HB.out⟩
  ·rw[if_neg c5] at H;have c5b0:decide ((a0.size:Int)≤20)=false:=decide_eq_false c5;have c5b1:decide (a0.size≤20)=false:=decide_eq_false (by omega);clear c5;obtain rfl:=Option.some.inj H;go_enter Tryz.func27,Tryz.ntmps27
   go_wp2_with (first|(refine gl_ 5 Tryz.func51 #[.string a0,.string (⟨#[33]⟩:ByteArray)] ?_;refine mo_ (strings_TrimPrefix.calls a0 (⟨#[33]⟩:ByteArray) t101 _ A2.out) ?_;intro w9 hb;replace HB:=bs_ HB hb;(try clear hb);(try clear hb2);(try clear hk);(try clear hi)))
   go_ret
   exact⟨er_,b_ HB.out⟩
def action_asset.f (a0:ByteArray):Option (Bool):=(book_Name.f a0).bind fun t103=>(if t103=true then (if 0<(a0.size:Int) then (if (bt a0 0)≥97 then (if (bt a0 0)≤122 then (some (a0.toList != ([99,97,115,104]:List UInt8))) else (some false)) else (some false)) else (none)) else (some false))
set_option maxHeartbeats 8000000 in
set_option maxRecDepth 100000 in
theorem action_asset.calls (a0:ByteArray) (r:Bool) (w:World) (h:action_asset.f a0=some r) :
  Calls Tryz.prog 28 #[.string a0] w fun e w'=>e=.returned (.bool r)∧Below w.heap.size w w':=by
 have HB:=Aside0.mk (Below.refl w.heap.size w);have H:=h;unfold action_asset.f at H;clear h;obtain⟨t103,A2,H⟩:=bi_ H;by_cases c3:t103=true
 ·subst c3;rw[if_pos rfl] at H;by_cases c4:0<(a0.size:Int)
  ·rw[if_pos c4] at H;have c4b0:decide (0<(a0.size:Int))=true:=decide_eq_true c4;have c4b1:decide (0<a0.size)=true:=decide_eq_true (by omega);clear c4;by_cases c6:(bt a0 0)≥97
   ·rw[if_pos c6] at H;have c6b0:decide (97≤(bt a0 0))=true:=decide_eq_true c6;clear c6;by_cases c8:(bt a0 0)≤122
    ·rw[if_pos c8] at H;have c8b0:decide ((bt a0 0)≤122)=true:=decide_eq_true c8;clear c8;obtain rfl:=Option.some.inj H;go_enter Tryz.func28,Tryz.ntmps28
     go_wp2_with (first|(refine gl_ 4 Tryz.func27 #[.string a0] ?_;refine mo_ (book_Name.calls a0 true _ A2.out) ?_;intro w9 hb;replace HB:=bs_ HB hb;(try clear hb);(try clear hb2);(try clear hk);(try clear hi);have p5:0≤(0:Int):=(by omega);have q5:0<a0.size:=(by have:(0:Int)<(a0.size:Int):=of_decide_eq_true as_f;omega);have hx5:∀ h:0<a0.size,((a0[0]'h).toNat:Int)=bt a0 0:=bt_at a0 0;clear p5;have qi5:(0<(a0.size:Int))=True:=eq_true (of_decide_eq_true as_f);replace q5:=eq_true q5;have p7:0≤(0:Int):=(by omega);have q7:0<a0.size:=(by have:(0:Int)<(a0.size:Int):=of_decide_eq_true as_f;omega);have hx7:∀ h:0<a0.size,((a0[0]'h).toNat:Int)=bt a0 0:=bt_at a0 0;clear p7;have qi7:(0<(a0.size:Int))=True:=eq_true (of_decide_eq_true as_f);replace q7:=eq_true q7))
     go_ret
     exact⟨er_,b_ HB.out⟩
    ·rw[if_neg c8] at H;have c8b0:decide ((bt a0 0)≤122)=false:=decide_eq_false c8;clear c8;obtain rfl:=Option.some.inj H;go_enter Tryz.func28,Tryz.ntmps28
     go_wp2_with (first|(refine gl_ 4 Tryz.func27 #[.string a0] ?_;refine mo_ (book_Name.calls a0 true _ A2.out) ?_;intro w10 hb;replace HB:=bs_ HB hb;(try clear hb);(try clear hb2);(try clear hk);(try clear hi);have p5:0≤(0:Int):=(by omega);have q5:0<a0.size:=(by have:(0:Int)<(a0.size:Int):=of_decide_eq_true as_f;omega);have hx5:∀ h:0<a0.size,((a0[0]'h).toNat:Int)=bt a0 0:=bt_at a0 0;clear p5;have qi5:(0<(a0.size:Int))=True:=eq_true (of_decide_eq_true as_f);replace q5:=eq_true q5;have p7:0≤(0:Int):=(by omega);have q7:0<a0.size:=(by have:(0:Int)<(a0.size:Int):=of_decide_eq_true as_f;omega);have hx7:∀ h:0<a0.size,((a0[0]'h).toNat:Int)=bt a0 0:=bt_at a0 0;clear p7;have qi7:(0<(a0.size:Int))=True:=eq_true (of_decide_eq_true as_f);replace q7:=eq_true q7))
     go_ret
     exact⟨er_,b_ HB.out⟩
   ·rw[if_neg c6] at H;have c6b0:decide (97≤(bt a0 0))=false:=decide_eq_false c6;clear c6;obtain rfl:=Option.some.inj H;go_enter Tryz.func28,Tryz.ntmps28
    go_wp2_with (first|(refine gl_ 4 Tryz.func27 #[.string a0] ?_;refine mo_ (book_Name.calls a0 true _ A2.out) ?_;intro w11 hb;replace HB:=bs_ HB hb;(try clear hb);(try clear hb2);(try clear hk);(try clear hi);have p5:0≤(0:Int):=(by omega);have q5:0<a0.size:=(by have:(0:Int)<(a0.size:Int):=of_decide_eq_true as_f;omega);have hx5:∀ h:0<a0.size,((a0[0]'h).toNat:Int)=bt a0 0:=bt_at a0 0;clear p5;have qi5:(0<(a0.size:Int))=True:=eq_true (of_decide_eq_true as_f);replace q5:=eq_true q5))
    go_ret
    exact⟨er_,b_ HB.out⟩
  ·rw[if_neg c4] at H;exact absurd H (by simp)
 ·replace c3:=Bool.eq_false_iff.mpr c3;subst c3;rw[if_neg nf_] at H;obtain rfl:=Option.some.inj H;go_enter Tryz.func28,Tryz.ntmps28
  go_wp2_with (first|(refine gl_ 4 Tryz.func27 #[.string a0] ?_;refine mo_ (book_Name.calls a0 false _ A2.out) ?_;intro w12 hb;replace HB:=bs_ HB hb;(try clear hb);(try clear hb2);(try clear hk);(try clear hi)))
  go_ret
  exact⟨er_,b_ HB.out⟩
def action_number.f (a0_0:ByteArray) (a0_1:ByteArray) (a1:Bool) (a2:Int):Option (Bool):=if a1=true then ((rat_May.f a0_0 a0_1).bind fun t105=>(if t105=true then ((rat_Sign.f a0_0 a0_1).bind fun t106=>(if t106≥a2 then (if (a0_0.size:Int)≤20 then (some (decide ((a0_1.size:Int)≤20))) else (some false)) else (some false))) else (some false))) else ((rat_Of.f 0).bind fun bt107=>(some (a0_0.toList == bt107.1.toList&&(a0_1.toList == bt107.2.toList))))
set_option maxHeartbeats 8000000 in
set_option maxRecDepth 100000 in
theorem action_number.calls (a0_0:ByteArray) (a0_1:ByteArray) (a1:Bool) (a2:Int) (r:Bool) (w:World) (hL_:Laid w) (h:action_number.f a0_0 a0_1 a1 a2=some r) :
  Calls Tryz.prog 29 #[.agg #[.string a0_0,.string a0_1],.bool a1,.int .i64 a2] w fun e w'=>e=.returned (.bool r)∧Below w.heap.size w w':=by
 have hu23:=Tryz.underlying23;have HLD:=Aside0.mk hL_;clear hL_;have HB:=Aside0.mk (Below.refl w.heap.size w);have H:=h;unfold action_number.f at H;clear h;by_cases c4:a1=true
 ·subst c4;rw[if_pos rfl] at H;obtain⟨t105,A5,H⟩:=bi_ H;by_cases c6:t105=true
  ·subst c6;rw[if_pos rfl] at H;obtain⟨t106,A7,H⟩:=bi_ H;by_cases c8:t106≥a2
   ·rw[if_pos c8] at H;have c8b0:decide (a2≤t106)=true:=decide_eq_true c8;clear c8;by_cases c9:(a0_0.size:Int)≤20
    ·rw[if_pos c9] at H;have c9b0:decide ((a0_0.size:Int)≤20)=true:=decide_eq_true c9;have c9b1:decide (a0_0.size≤20)=true:=decide_eq_true (by omega);clear c9;obtain rfl:=Option.some.inj H;go_enter Tryz.func29,Tryz.ntmps29
     go_wp2_with (first|((with_reducible refine gate_dst (N:=3) rfl ?_);(try(refine gate_guard (by rfl) ?_;dsimp only));refine be_ 3 #[.string a0_0,.string a0_1] 23 ?_;intro gb104 hg w10 hbox hb;have BK104:=Aside0.mk (hbox);have GW104:=ge_ HB hg;have GE104:=ge_ HB hg;replace HB:=bs_ HB hb;clear hb hbox hg;have hcz11_0:=bc_ BK104 0 rfl;have hcz11_1:=bc_ BK104 1 rfl;have hfz11_0:=blk_frozen BK104.out 0;have hfz11_1:=blk_frozen BK104.out 1)|(refine gl_ 13 Tryz.func53 #[.agg #[.string a0_0,.string a0_1]] ?_;refine mo_ (rat_May.calls a0_0 a0_1 true _ (lb_ HLD HB) A5.out) ?_;intro w12 hb;replace BK104:=kb_ BK104 hb;replace HB:=bs_ HB hb;(try clear hb);(try clear hb2);(try clear hk);(try clear hi);have hcz13_0:=bc_ BK104 0 rfl;have hcz13_1:=bc_ BK104 1 rfl;have hfz13_0:=blk_frozen BK104.out 0;have hfz13_1:=blk_frozen BK104.out 1)|(go_at_call 54;(with_reducible refine(rat_Sign.calls a0_0 a0_1 t106 _ ?side1 A7.out).mono ?_);(case side1=>exact lb_ HLD HB);rintro e w14 ⟨rfl,hb⟩;replace BK104:=kb_ BK104 hb;replace HB:=bs_ HB hb;(try clear hb);(try clear hb2);(try clear hk);(try clear hi);have hcz15_0:=bc_ BK104 0 rfl;have hcz15_1:=bc_ BK104 1 rfl;have hfz15_0:=blk_frozen BK104.out 0;have hfz15_1:=blk_frozen BK104.out 1))
     go_ret
     exact⟨er_,b_ HB.out⟩
    ·rw[if_neg c9] at H;have c9b0:decide ((a0_0.size:Int)≤20)=false:=decide_eq_false c9;have c9b1:decide (a0_0.size≤20)=false:=decide_eq_false (by omega);clear c9;obtain rfl:=Option.some.inj H;go_enter Tryz.func29,Tryz.ntmps29
     go_wp2_with (first|((with_reducible refine gate_dst (N:=3) rfl ?_);(try(refine gate_guard (by rfl) ?_;dsimp only));refine be_ 3 #[.string a0_0,.string a0_1] 23 ?_;intro gb104 hg w16 hbox hb;have BK104:=Aside0.mk (hbox);have GW104:=ge_ HB hg;have GE104:=ge_ HB hg;replace HB:=bs_ HB hb;clear hb hbox hg;have hcz17_0:=bc_ BK104 0 rfl;have hcz17_1:=bc_ BK104 1 rfl;have hfz17_0:=blk_frozen BK104.out 0;have hfz17_1:=blk_frozen BK104.out 1)|(refine gl_ 13 Tryz.func53 #[.agg #[.string a0_0,.string a0_1]] ?_;refine mo_ (rat_May.calls a0_0 a0_1 true _ (lb_ HLD HB) A5.out) ?_;intro w18 hb;replace BK104:=kb_ BK104 hb;replace HB:=bs_ HB hb;(try clear hb);(try clear hb2);(try clear hk);(try clear hi);have hcz19_0:=bc_ BK104 0 rfl;have hcz19_1:=bc_ BK104 1 rfl;have hfz19_0:=blk_frozen BK104.out 0;have hfz19_1:=blk_frozen BK104.out 1)|(go_at_call 54;(with_reducible refine(rat_Sign.calls a0_0 a0_1 t106 _ ?side1 A7.out).mono ?_);(case side1=>exact lb_ HLD HB);rintro e w20 ⟨rfl,hb⟩;replace BK104:=kb_ BK104 hb;replace HB:=bs_ HB hb;(try clear hb);(try clear hb2);(try clear hk);(try clear hi);have hcz21_0:=bc_ BK104 0 rfl;have hcz21_1:=bc_ BK104 1 rfl;have hfz21_0:=blk_frozen BK104.out 0;have hfz21_1:=blk_frozen BK104.out 1))
     go_ret
     exact⟨er_,b_ HB.out⟩
   ·rw[if_neg c8] at H;have c8b0:decide (a2≤t106)=false:=decide_eq_false c8;clear c8;obtain rfl:=Option.some.inj H;go_enter Tryz.func29,Tryz.ntmps29
    go_wp2_with (first|((with_reducible refine gate_dst (N:=3) rfl ?_);(try(refine gate_guard (by rfl) ?_;dsimp only));refine be_ 3 #[.string a0_0,.string a0_1] 23 ?_;intro gb104 hg w22 hbox hb;have BK104:=Aside0.mk (hbox);have GW104:=ge_ HB hg;have GE104:=ge_ HB hg;replace HB:=bs_ HB hb;clear hb hbox hg;have hcz23_0:=bc_ BK104 0 rfl;have hcz23_1:=bc_ BK104 1 rfl;have hfz23_0:=blk_frozen BK104.out 0;have hfz23_1:=blk_frozen BK104.out 1)|(refine gl_ 13 Tryz.func53 #[.agg #[.string a0_0,.string a0_1]] ?_;refine mo_ (rat_May.calls a0_0 a0_1 true _ (lb_ HLD HB) A5.out) ?_;intro w24 hb;replace BK104:=kb_ BK104 hb;replace HB:=bs_ HB hb;(try clear hb);(try clear hb2);(try clear hk);(try clear hi);have hcz25_0:=bc_ BK104 0 rfl;have hcz25_1:=bc_ BK104 1 rfl;have hfz25_0:=blk_frozen BK104.out 0;have hfz25_1:=blk_frozen BK104.out 1)|(go_at_call 54;(with_reducible refine(rat_Sign.calls a0_0 a0_1 t106 _ ?side1 A7.out).mono ?_);(case side1=>exact lb_ HLD HB);rintro e w26 ⟨rfl,hb⟩;replace BK104:=kb_ BK104 hb;replace HB:=bs_ HB hb;(try clear hb);(try clear hb2);(try clear hk);(try clear hi)))
    go_ret
    exact⟨er_,b_ HB.out⟩
  ·replace c6:=Bool.eq_false_iff.mpr c6;subst c6;rw[if_neg nf_] at H;obtain rfl:=Option.some.inj H;go_enter Tryz.func29,Tryz.ntmps29
   go_wp2_with (first|((with_reducible refine gate_dst (N:=3) rfl ?_);(try(refine gate_guard (by rfl) ?_;dsimp only));refine be_ 3 #[.string a0_0,.string a0_1] 23 ?_;intro gb104 hg w27 hbox hb;have BK104:=Aside0.mk (hbox);have GW104:=ge_ HB hg;have GE104:=ge_ HB hg;replace HB:=bs_ HB hb;clear hb hbox hg;have hcz28_0:=bc_ BK104 0 rfl;have hcz28_1:=bc_ BK104 1 rfl;have hfz28_0:=blk_frozen BK104.out 0;have hfz28_1:=blk_frozen BK104.out 1)|(refine gl_ 13 Tryz.func53 #[.agg #[.string a0_0,.string a0_1]] ?_;refine mo_ (rat_May.calls a0_0 a0_1 false _ (lb_ HLD HB) A5.out) ?_;intro w29 hb;replace BK104:=kb_ BK104 hb;replace HB:=bs_ HB hb;(try clear hb);(try clear hb2);(try clear hk);(try clear hi)))
   go_ret
   exact⟨er_,b_ HB.out⟩
 ·replace c4:=Bool.eq_false_iff.mpr c4;subst c4;rw[if_neg nf_] at H;obtain⟨⟨t107,t108⟩,A30,H⟩:=bi_ H;(try dsimp only at H);obtain rfl:=Option.some.inj H;go_enter Tryz.func29,Tryz.ntmps29
  try go_wp2_with (first|((with_reducible refine gate_dst (N:=3) rfl ?_);(try(refine gate_guard (by rfl) ?_;dsimp only));refine be_ 3 #[.string a0_0,.string a0_1] 23 ?_;intro gb104 hg w31 hbox hb;have BK104:=Aside0.mk (hbox);have GW104:=ge_ HB hg;have GE104:=ge_ HB hg;replace HB:=bs_ HB hb;clear hb hbox hg))
  replace BK104:=Aside0.mk (blk_drew BK104.out);replace HB:=Aside0.mk (below_drew1 HB.out);refine sa_ 4 (fun w'=>w'.cell? ⟨gb104,0,none⟩=some (.string a0_0)∧w'.cell? ⟨gb104,1,none⟩=some (.string a0_1)) (fun hHeld=>?_);generalize w31.drew=w32 at BK104 HB hHeld ⊢;refine take_ (i:=0) (N:=some 9) (v:=?_) (a':=?_) #[true,false,false,false] rfl rfl (by kernel_rfl) (fun _ _ _ h=>h) (Or.inl ⟨by rfl,?_⟩) hHeld ?_ ?_;rotate_left
  ·rintro w' ⟨s0,s1⟩;go_simp;with_reducible rfl
  rotate_left
  ·exact ap_
  refine one_ (i:=1) (N:=some 10) #[true,true,false,false] rfl rfl (by kernel_rfl) (by decide) (fun K hK=>?_);refine gs_ Tryz.func42 #[.int .i64 0] ?_;refine mo_ (rat_Of.calls 0 t107 t108 _ (lb_ HLD HB) A30.out) ?_;intro w33 hb;replace BK104:=kb_ BK104 hb;replace HB:=bs_ HB hb;(try clear hb);refine hk_ hK (fun hHeld=>?_);clear hK K;refine nm_ ?_;refine pure_ (i:=2) (N:=some 11) (v:=?_) (a':=?_) #[true,true,true,false] rfl rfl (by kernel_rfl) (fun _ _ _ h=>h) (Or.inl ⟨by rfl,?_⟩) ?_ ?_;rotate_left
  ·intro w';go_simp;with_reducible rfl
  rotate_left
  ·exact ap_
  refine pure_ (i:=3) (N:=some 6) (v:=?_) (a':=?_) #[true,true,true,true] rfl rfl (by kernel_rfl) (fun _ _ _ h=>h) (Or.inl ⟨by rfl,?_⟩) ?_ ?_;rotate_left
  ·intro w';go_simp;with_reducible rfl
  rotate_left
  ·exact ap_
  refine done_ (by kernel_rfl) ?_
  try go_wp2
  go_ret
  exact⟨er_,b_ HB.out⟩
end Go.Proofs.YtoghmeffpgbcfaaGreatDoor.Pj
end

section
namespace Go.Proofs.YtoghmeffpgbcfaaGreatDoor.Pj
end Go.Proofs.YtoghmeffpgbcfaaGreatDoor.Pj
end

section
namespace Go.Proofs.YtoghmeffpgbcfaaGreatDoor.Pl
open Go.RowKit Go.Proofs.YtoghmeffpgbcfaaGreatDoor.Pj Go.Proofs.YtoghmeffpgbcfaaGreatDoorW.PrintWords Go.Proofs.YtoghmeffpgbcfaaGreatDoorW.PrintLast Go.Proofs.YtoghmeffpgbcfaaGreatDoorW.PrintMore
attribute [local go_sem] idx_shape
def errW:Option Int→Value
 | none=>.nilIface
 | some c=>.iface 0 (.int .i64 c)
theorem errW_none:errW none=.nilIface:=rfl
theorem errW_some (c:Int):errW (some c)=.iface 0 (.int .i64 c):=rfl
end Go.Proofs.YtoghmeffpgbcfaaGreatDoor.Pl
end

section
namespace Go.Proofs.YtoghmeffpgbcfaaGreatDoor.Pl
open Go.RowKit Go.Proofs.YtoghmeffpgbcfaaGreatDoor.Pj Go.Proofs.YtoghmeffpgbcfaaGreatDoorW.PrintWords Go.Proofs.YtoghmeffpgbcfaaGreatDoorW.PrintLast Go.Proofs.YtoghmeffpgbcfaaGreatDoorW.PrintMore
attribute [local go_sem] idx_shape
end Go.Proofs.YtoghmeffpgbcfaaGreatDoor.Pl
end

section
namespace Go.Proofs.YtoghmeffpgbcfaaGreatDoor.Pl
open Go.RowKit Go.Proofs.YtoghmeffpgbcfaaGreatDoor.Pj Go.Proofs.YtoghmeffpgbcfaaGreatDoorW.PrintWords Go.Proofs.YtoghmeffpgbcfaaGreatDoorW.PrintLast Go.Proofs.YtoghmeffpgbcfaaGreatDoorW.PrintMore
attribute [local go_sem] idx_shape
mutual
def action_May.j0:Nat→Bool→ByteArray→Int→ByteArray→ByteArray→ByteArray→ByteArray→ByteArray→ByteArray→Int→Int→Int→Option (Bool)
 | 0,_,_,_,_,_,_,_,_,_,_,_,_=>none
 | k+1,x49,x102000,x102001,x102002,x102003,x102004,x102005,x102006,x102007,x102008,x102009,x102010=>if x49=true then (some false) else ((action_shapes.f).bind fun bt104=>(if 0≤x102001 then (if x102001<5 then (if (ix5 x102001 bt104.2.1 bt104.2.2.2.2.2.1 bt104.2.2.2.2.2.2.2.2.2.1 bt104.2.2.2.2.2.2.2.2.2.2.2.2.2.1 bt104.2.2.2.2.2.2.2.2.2.2.2.2.2.2.2.2.2.1)=true then ((action_asset.f x102003).bind fun t125=>(if t125=true then (action_May.j1 k (x102003.toList != x102002.toList) x102000 x102001 x102002 x102003 x102004 x102005 x102006 x102007 x102008 x102009 x102010 (ix5 x102001 bt104.1 bt104.2.2.2.2.1 bt104.2.2.2.2.2.2.2.2.1 bt104.2.2.2.2.2.2.2.2.2.2.2.2.1 bt104.2.2.2.2.2.2.2.2.2.2.2.2.2.2.2.2.1) (ix5 x102001 bt104.2.1 bt104.2.2.2.2.2.1 bt104.2.2.2.2.2.2.2.2.2.1 bt104.2.2.2.2.2.2.2.2.2.2.2.2.2.1 bt104.2.2.2.2.2.2.2.2.2.2.2.2.2.2.2.2.2.1) (ix5 x102001 bt104.2.2.1 bt104.2.2.2.2.2.2.1 bt104.2.2.2.2.2.2.2.2.2.2.1 bt104.2.2.2.2.2.2.2.2.2.2.2.2.2.2.1 bt104.2.2.2.2.2.2.2.2.2.2.2.2.2.2.2.2.2.2.1) (ix5 x102001 bt104.2.2.2.1 bt104.2.2.2.2.2.2.2.1 bt104.2.2.2.2.2.2.2.2.2.2.2.1 bt104.2.2.2.2.2.2.2.2.2.2.2.2.2.2.2.1 bt104.2.2.2.2.2.2.2.2.2.2.2.2.2.2.2.2.2.2.2)) else (action_May.j1 k false x102000 x102001 x102002 x102003 x102004 x102005 x102006 x102007 x102008 x102009 x102010 (ix5 x102001 bt104.1 bt104.2.2.2.2.1 bt104.2.2.2.2.2.2.2.2.1 bt104.2.2.2.2.2.2.2.2.2.2.2.2.1 bt104.2.2.2.2.2.2.2.2.2.2.2.2.2.2.2.2.1) (ix5 x102001 bt104.2.1 bt104.2.2.2.2.2.1 bt104.2.2.2.2.2.2.2.2.2.1 bt104.2.2.2.2.2.2.2.2.2.2.2.2.2.1 bt104.2.2.2.2.2.2.2.2.2.2.2.2.2.2.2.2.2.1) (ix5 x102001 bt104.2.2.1 bt104.2.2.2.2.2.2.1 bt104.2.2.2.2.2.2.2.2.2.2.1 bt104.2.2.2.2.2.2.2.2.2.2.2.2.2.2.1 bt104.2.2.2.2.2.2.2.2.2.2.2.2.2.2.2.2.2.2.1) (ix5 x102001 bt104.2.2.2.1 bt104.2.2.2.2.2.2.2.1 bt104.2.2.2.2.2.2.2.2.2.2.2.1 bt104.2.2.2.2.2.2.2.2.2.2.2.2.2.2.2.1 bt104.2.2.2.2.2.2.2.2.2.2.2.2.2.2.2.2.2.2.2)))) else (action_May.j1 k (x102003.toList == ([]:List UInt8)) x102000 x102001 x102002 x102003 x102004 x102005 x102006 x102007 x102008 x102009 x102010 (ix5 x102001 bt104.1 bt104.2.2.2.2.1 bt104.2.2.2.2.2.2.2.2.1 bt104.2.2.2.2.2.2.2.2.2.2.2.2.1 bt104.2.2.2.2.2.2.2.2.2.2.2.2.2.2.2.2.1) (ix5 x102001 bt104.2.1 bt104.2.2.2.2.2.1 bt104.2.2.2.2.2.2.2.2.2.1 bt104.2.2.2.2.2.2.2.2.2.2.2.2.2.1 bt104.2.2.2.2.2.2.2.2.2.2.2.2.2.2.2.2.2.1) (ix5 x102001 bt104.2.2.1 bt104.2.2.2.2.2.2.1 bt104.2.2.2.2.2.2.2.2.2.2.1 bt104.2.2.2.2.2.2.2.2.2.2.2.2.2.2.1 bt104.2.2.2.2.2.2.2.2.2.2.2.2.2.2.2.2.2.2.1) (ix5 x102001 bt104.2.2.2.1 bt104.2.2.2.2.2.2.2.1 bt104.2.2.2.2.2.2.2.2.2.2.2.1 bt104.2.2.2.2.2.2.2.2.2.2.2.2.2.2.2.1 bt104.2.2.2.2.2.2.2.2.2.2.2.2.2.2.2.2.2.2.2))) else (none)) else (none)))
def action_May.j1:Nat→Bool→ByteArray→Int→ByteArray→ByteArray→ByteArray→ByteArray→ByteArray→ByteArray→Int→Int→Int→ByteArray→Bool→Bool→Bool→Option (Bool)
 | 0,_,_,_,_,_,_,_,_,_,_,_,_,_,_,_,_=>none
 | k+1,x4,x102000,x102001,x102002,x102003,x102004,x102005,x102006,x102007,x102008,x102009,x102010,x125000,x125001,x125002,x125003=>if x102001=4 then (if x4=true then ((action_number.f x102004 x102005 x125002 1).bind fun t126=>(if t126=true then ((action_number.f x102006 x102007 x125003 0).bind fun t127=>(some t127)) else (some false))) else (some false)) else (if x4=true then ((action_number.f x102004 x102005 x125002 1).bind fun t128=>(if t128=true then ((action_number.f x102006 x102007 x125003 1).bind fun t129=>(some t129)) else (some false))) else (some false))
end
def action_May.f (k:Nat) (a0_0:ByteArray) (a0_1:Int) (a0_2:ByteArray) (a0_3:ByteArray) (a0_4:ByteArray) (a0_5:ByteArray) (a0_6:ByteArray) (a0_7:ByteArray) (a0_8:Int) (a0_9:Int) (a0_10:Int):Option (Bool):=if a0_1<0 then (action_May.j0 k true a0_0 a0_1 a0_2 a0_3 a0_4 a0_5 a0_6 a0_7 a0_8 a0_9 a0_10) else (if a0_1≥5 then (action_May.j0 k true a0_0 a0_1 a0_2 a0_3 a0_4 a0_5 a0_6 a0_7 a0_8 a0_9 a0_10) else ((book_Name.f a0_0).bind fun t102=>(if t102=true then ((action_asset.f a0_2).bind fun t103=>(if t103=true then (if a0_8<0 then (action_May.j0 k true a0_0 a0_1 a0_2 a0_3 a0_4 a0_5 a0_6 a0_7 a0_8 a0_9 a0_10) else (if a0_9<a0_8 then (action_May.j0 k true a0_0 a0_1 a0_2 a0_3 a0_4 a0_5 a0_6 a0_7 a0_8 a0_9 a0_10) else (if a0_10<a0_9 then (action_May.j0 k true a0_0 a0_1 a0_2 a0_3 a0_4 a0_5 a0_6 a0_7 a0_8 a0_9 a0_10) else (action_May.j0 k (decide (a0_10>9999)) a0_0 a0_1 a0_2 a0_3 a0_4 a0_5 a0_6 a0_7 a0_8 a0_9 a0_10)))) else (action_May.j0 k true a0_0 a0_1 a0_2 a0_3 a0_4 a0_5 a0_6 a0_7 a0_8 a0_9 a0_10))) else (action_May.j0 k true a0_0 a0_1 a0_2 a0_3 a0_4 a0_5 a0_6 a0_7 a0_8 a0_9 a0_10))))
set_option maxHeartbeats 8000000 in
set_option maxRecDepth 100000 in
theorem action_May.calls (k:Nat) (a0_0:ByteArray) (a0_1:Int) (a0_2:ByteArray) (a0_3:ByteArray) (a0_4:ByteArray) (a0_5:ByteArray) (a0_6:ByteArray) (a0_7:ByteArray) (a0_8:Int) (a0_9:Int) (a0_10:Int) (r:Bool) (w:World) (hL_:Laid w) (h:action_May.f k a0_0 a0_1 a0_2 a0_3 a0_4 a0_5 a0_6 a0_7 a0_8 a0_9 a0_10=some r) :
  Calls Tryz.prog 11 #[.agg #[.string a0_0,.int .i64 a0_1,.string a0_2,.string a0_3,.string a0_4,.string a0_5,.string a0_6,.string a0_7,.int .i64 a0_8,.int .i64 a0_9,.int .i64 a0_10]] w fun e w'=>e=.returned (.bool r)∧Below w.heap.size w w':=by
 have hu25:=Tryz.underlying25;have hu46:=Tryz.underlying46;have hu23:=Tryz.underlying23;have HLD:=Aside0.mk hL_;clear hL_;have HB:=Aside0.mk (Below.refl w.heap.size w);have H:=h;unfold action_May.f at H;clear h;have HC2:=Aside0.mk H;clear H;go_enter Tryz.func11,Tryz.ntmps11
 go_upto_region 1 with (first|((with_reducible refine gate_dst (N:=1) rfl ?_);refine be_ 1 #[.string a0_0,.int .i64 a0_1,.string a0_2,.string a0_3,.string a0_4,.string a0_5,.string a0_6,.string a0_7,.int .i64 a0_8,.int .i64 a0_9,.int .i64 a0_10] 25 ?_;intro gb101 hg w3 hbox hb;have BK101:=Aside0.mk (hbox);have GW101:=ge_ HB hg;have GE101:=ge_ HB hg;replace HB:=bs_ HB hb;clear hb hbox hg))
 (try simp only[Act.put,List.setIfInBounds_toArray,List.set_cons_zero,List.set_cons_succ])
 go_cut [49] (fun v49 wc=>∃ (kq:Nat) (x49_1:Bool),v49=.bool x49_1∧Aside0 (action_May.j0 kq x49_1 a0_0 a0_1 a0_2 a0_3 a0_4 a0_5 a0_6 a0_7 a0_8 a0_9 a0_10=some r)∧Aside0 (kq≤k)∧Aside0 (wc.heap[gb101]?=some (.cells #[.string a0_0,.int .i64 a0_1,.string a0_2,.string a0_3,.string a0_4,.string a0_5,.string a0_6,.string a0_7,.int .i64 a0_8,.int .i64 a0_9,.int .i64 a0_10] 25 (0,0)))∧Aside0 (Below w.heap.size w wc))
 case first =>
  have H:=HC2.out;clear HC2;by_cases c4:a0_1<0
  ·rw[if_pos c4] at H;have c4b0:decide (a0_1<0)=true:=decide_eq_true c4;clear c4;(first|rw[c4b0]|(simp only[i64_w,i32_w];rw[c4b0])|skip);have H':=Aside0.mk H;clear H;have hcz5_0:=bc_ BK101 0 rfl;have hcz5_1:=bc_ BK101 1 rfl;have hcz5_2:=bc_ BK101 2 rfl;have hcz5_3:=bc_ BK101 3 rfl;have hcz5_4:=bc_ BK101 4 rfl;have hcz5_5:=bc_ BK101 5 rfl;have hcz5_6:=bc_ BK101 6 rfl;have hcz5_7:=bc_ BK101 7 rfl;have hcz5_8:=bc_ BK101 8 rfl;have hcz5_9:=bc_ BK101 9 rfl;have hcz5_10:=bc_ BK101 10 rfl;have hfz5_0:=blk_frozen BK101.out 0;have hfz5_1:=blk_frozen BK101.out 1;have hfz5_2:=blk_frozen BK101.out 2;have hfz5_3:=blk_frozen BK101.out 3;have hfz5_4:=blk_frozen BK101.out 4;have hfz5_5:=blk_frozen BK101.out 5;have hfz5_6:=blk_frozen BK101.out 6;have hfz5_7:=blk_frozen BK101.out 7;have hfz5_8:=blk_frozen BK101.out 8;have hfz5_9:=blk_frozen BK101.out 9;have hfz5_10:=blk_frozen BK101.out 10;go_wp2
   go_meet
   case rel=>exact⟨_,(true),rl_,H',⟨by first|omega|exact Nat.le_refl _⟩,⟨k_ BK101.out⟩,⟨b_ HB.out⟩⟩
  ·rw[if_neg c4] at H;have c4b0:decide (a0_1<0)=false:=decide_eq_false c4;clear c4;(first|rw[c4b0]|(simp only[i64_w,i32_w];rw[c4b0])|skip);by_cases c6:a0_1≥5
   ·rw[if_pos c6] at H;have c6b0:decide (5≤a0_1)=true:=decide_eq_true c6;clear c6;have H':=Aside0.mk H;clear H;have hcz7_0:=bc_ BK101 0 rfl;have hcz7_1:=bc_ BK101 1 rfl;have hcz7_2:=bc_ BK101 2 rfl;have hcz7_3:=bc_ BK101 3 rfl;have hcz7_4:=bc_ BK101 4 rfl;have hcz7_5:=bc_ BK101 5 rfl;have hcz7_6:=bc_ BK101 6 rfl;have hcz7_7:=bc_ BK101 7 rfl;have hcz7_8:=bc_ BK101 8 rfl;have hcz7_9:=bc_ BK101 9 rfl;have hcz7_10:=bc_ BK101 10 rfl;have hfz7_0:=blk_frozen BK101.out 0;have hfz7_1:=blk_frozen BK101.out 1;have hfz7_2:=blk_frozen BK101.out 2;have hfz7_3:=blk_frozen BK101.out 3;have hfz7_4:=blk_frozen BK101.out 4;have hfz7_5:=blk_frozen BK101.out 5;have hfz7_6:=blk_frozen BK101.out 6;have hfz7_7:=blk_frozen BK101.out 7;have hfz7_8:=blk_frozen BK101.out 8;have hfz7_9:=blk_frozen BK101.out 9;have hfz7_10:=blk_frozen BK101.out 10;go_wp2
    go_meet
    case rel=>exact⟨_,(true),rl_,H',⟨by first|omega|exact Nat.le_refl _⟩,⟨k_ BK101.out⟩,⟨b_ HB.out⟩⟩
   ·rw[if_neg c6] at H;have c6b0:decide (5≤a0_1)=false:=decide_eq_false c6;clear c6;obtain⟨t102,A8,H⟩:=bi_ H;by_cases c9:t102=true
    ·subst c9;rw[if_pos rfl] at H;obtain⟨t103,A10,H⟩:=bi_ H;by_cases c11:t103=true
     ·subst c11;rw[if_pos rfl] at H;by_cases c12:a0_8<0
      ·rw[if_pos c12] at H;have c12b0:decide (a0_8<0)=true:=decide_eq_true c12;clear c12;have H':=Aside0.mk H;clear H;have hcz13_0:=bc_ BK101 0 rfl;have hcz13_1:=bc_ BK101 1 rfl;have hcz13_2:=bc_ BK101 2 rfl;have hcz13_3:=bc_ BK101 3 rfl;have hcz13_4:=bc_ BK101 4 rfl;have hcz13_5:=bc_ BK101 5 rfl;have hcz13_6:=bc_ BK101 6 rfl;have hcz13_7:=bc_ BK101 7 rfl;have hcz13_8:=bc_ BK101 8 rfl;have hcz13_9:=bc_ BK101 9 rfl;have hcz13_10:=bc_ BK101 10 rfl;have hfz13_0:=blk_frozen BK101.out 0;have hfz13_1:=blk_frozen BK101.out 1;have hfz13_2:=blk_frozen BK101.out 2;have hfz13_3:=blk_frozen BK101.out 3;have hfz13_4:=blk_frozen BK101.out 4;have hfz13_5:=blk_frozen BK101.out 5;have hfz13_6:=blk_frozen BK101.out 6;have hfz13_7:=blk_frozen BK101.out 7;have hfz13_8:=blk_frozen BK101.out 8;have hfz13_9:=blk_frozen BK101.out 9;have hfz13_10:=blk_frozen BK101.out 10
       go_wp2_with (first|(go_at_call 27;(with_reducible refine(book_Name.calls a0_0 true _ A8.out).mono ?_);rintro e w14 ⟨rfl,hb⟩;replace BK101:=kb_ BK101 hb;replace HB:=bs_ HB hb;(try clear hb);(try clear hb2);(try clear hk);(try clear hi);have hcz15_0:=bc_ BK101 0 rfl;have hcz15_1:=bc_ BK101 1 rfl;have hcz15_2:=bc_ BK101 2 rfl;have hcz15_3:=bc_ BK101 3 rfl;have hcz15_4:=bc_ BK101 4 rfl;have hcz15_5:=bc_ BK101 5 rfl;have hcz15_6:=bc_ BK101 6 rfl;have hcz15_7:=bc_ BK101 7 rfl;have hcz15_8:=bc_ BK101 8 rfl;have hcz15_9:=bc_ BK101 9 rfl;have hcz15_10:=bc_ BK101 10 rfl;have hfz15_0:=blk_frozen BK101.out 0;have hfz15_1:=blk_frozen BK101.out 1;have hfz15_2:=blk_frozen BK101.out 2;have hfz15_3:=blk_frozen BK101.out 3;have hfz15_4:=blk_frozen BK101.out 4;have hfz15_5:=blk_frozen BK101.out 5;have hfz15_6:=blk_frozen BK101.out 6;have hfz15_7:=blk_frozen BK101.out 7;have hfz15_8:=blk_frozen BK101.out 8;have hfz15_9:=blk_frozen BK101.out 9;have hfz15_10:=blk_frozen BK101.out 10)|(go_at_call 28;(with_reducible refine(action_asset.calls a0_2 true _ A10.out).mono ?_);rintro e w16 ⟨rfl,hb⟩;replace BK101:=kb_ BK101 hb;replace HB:=bs_ HB hb;(try clear hb);(try clear hb2);(try clear hk);(try clear hi);have hcz17_0:=bc_ BK101 0 rfl;have hcz17_1:=bc_ BK101 1 rfl;have hcz17_2:=bc_ BK101 2 rfl;have hcz17_3:=bc_ BK101 3 rfl;have hcz17_4:=bc_ BK101 4 rfl;have hcz17_5:=bc_ BK101 5 rfl;have hcz17_6:=bc_ BK101 6 rfl;have hcz17_7:=bc_ BK101 7 rfl;have hcz17_8:=bc_ BK101 8 rfl;have hcz17_9:=bc_ BK101 9 rfl;have hcz17_10:=bc_ BK101 10 rfl;have hfz17_0:=blk_frozen BK101.out 0;have hfz17_1:=blk_frozen BK101.out 1;have hfz17_2:=blk_frozen BK101.out 2;have hfz17_3:=blk_frozen BK101.out 3;have hfz17_4:=blk_frozen BK101.out 4;have hfz17_5:=blk_frozen BK101.out 5;have hfz17_6:=blk_frozen BK101.out 6;have hfz17_7:=blk_frozen BK101.out 7;have hfz17_8:=blk_frozen BK101.out 8;have hfz17_9:=blk_frozen BK101.out 9;have hfz17_10:=blk_frozen BK101.out 10))
       go_meet
       case rel=>exact⟨_,(true),rl_,H',⟨by first|omega|exact Nat.le_refl _⟩,⟨k_ BK101.out⟩,⟨b_ HB.out⟩⟩
      ·rw[if_neg c12] at H;have c12b0:decide (a0_8<0)=false:=decide_eq_false c12;clear c12;by_cases c18:a0_9<a0_8
       ·rw[if_pos c18] at H;have c18b0:decide (a0_9<a0_8)=true:=decide_eq_true c18;clear c18;have H':=Aside0.mk H;clear H;have hcz19_0:=bc_ BK101 0 rfl;have hcz19_1:=bc_ BK101 1 rfl;have hcz19_2:=bc_ BK101 2 rfl;have hcz19_3:=bc_ BK101 3 rfl;have hcz19_4:=bc_ BK101 4 rfl;have hcz19_5:=bc_ BK101 5 rfl;have hcz19_6:=bc_ BK101 6 rfl;have hcz19_7:=bc_ BK101 7 rfl;have hcz19_8:=bc_ BK101 8 rfl;have hcz19_9:=bc_ BK101 9 rfl;have hcz19_10:=bc_ BK101 10 rfl;have hfz19_0:=blk_frozen BK101.out 0;have hfz19_1:=blk_frozen BK101.out 1;have hfz19_2:=blk_frozen BK101.out 2;have hfz19_3:=blk_frozen BK101.out 3;have hfz19_4:=blk_frozen BK101.out 4;have hfz19_5:=blk_frozen BK101.out 5;have hfz19_6:=blk_frozen BK101.out 6;have hfz19_7:=blk_frozen BK101.out 7;have hfz19_8:=blk_frozen BK101.out 8;have hfz19_9:=blk_frozen BK101.out 9;have hfz19_10:=blk_frozen BK101.out 10
        go_wp2_with (first|(go_at_call 27;(with_reducible refine(book_Name.calls a0_0 true _ A8.out).mono ?_);rintro e w20 ⟨rfl,hb⟩;replace BK101:=kb_ BK101 hb;replace HB:=bs_ HB hb;(try clear hb);(try clear hb2);(try clear hk);(try clear hi);have hcz21_0:=bc_ BK101 0 rfl;have hcz21_1:=bc_ BK101 1 rfl;have hcz21_2:=bc_ BK101 2 rfl;have hcz21_3:=bc_ BK101 3 rfl;have hcz21_4:=bc_ BK101 4 rfl;have hcz21_5:=bc_ BK101 5 rfl;have hcz21_6:=bc_ BK101 6 rfl;have hcz21_7:=bc_ BK101 7 rfl;have hcz21_8:=bc_ BK101 8 rfl;have hcz21_9:=bc_ BK101 9 rfl;have hcz21_10:=bc_ BK101 10 rfl;have hfz21_0:=blk_frozen BK101.out 0;have hfz21_1:=blk_frozen BK101.out 1;have hfz21_2:=blk_frozen BK101.out 2;have hfz21_3:=blk_frozen BK101.out 3;have hfz21_4:=blk_frozen BK101.out 4;have hfz21_5:=blk_frozen BK101.out 5;have hfz21_6:=blk_frozen BK101.out 6;have hfz21_7:=blk_frozen BK101.out 7;have hfz21_8:=blk_frozen BK101.out 8;have hfz21_9:=blk_frozen BK101.out 9;have hfz21_10:=blk_frozen BK101.out 10)|(go_at_call 28;(with_reducible refine(action_asset.calls a0_2 true _ A10.out).mono ?_);rintro e w22 ⟨rfl,hb⟩;replace BK101:=kb_ BK101 hb;replace HB:=bs_ HB hb;(try clear hb);(try clear hb2);(try clear hk);(try clear hi);have hcz23_0:=bc_ BK101 0 rfl;have hcz23_1:=bc_ BK101 1 rfl;have hcz23_2:=bc_ BK101 2 rfl;have hcz23_3:=bc_ BK101 3 rfl;have hcz23_4:=bc_ BK101 4 rfl;have hcz23_5:=bc_ BK101 5 rfl;have hcz23_6:=bc_ BK101 6 rfl;have hcz23_7:=bc_ BK101 7 rfl;have hcz23_8:=bc_ BK101 8 rfl;have hcz23_9:=bc_ BK101 9 rfl;have hcz23_10:=bc_ BK101 10 rfl;have hfz23_0:=blk_frozen BK101.out 0;have hfz23_1:=blk_frozen BK101.out 1;have hfz23_2:=blk_frozen BK101.out 2;have hfz23_3:=blk_frozen BK101.out 3;have hfz23_4:=blk_frozen BK101.out 4;have hfz23_5:=blk_frozen BK101.out 5;have hfz23_6:=blk_frozen BK101.out 6;have hfz23_7:=blk_frozen BK101.out 7;have hfz23_8:=blk_frozen BK101.out 8;have hfz23_9:=blk_frozen BK101.out 9;have hfz23_10:=blk_frozen BK101.out 10))
        go_meet
        case rel=>exact⟨_,(true),rl_,H',⟨by first|omega|exact Nat.le_refl _⟩,⟨k_ BK101.out⟩,⟨b_ HB.out⟩⟩
       ·rw[if_neg c18] at H;have c18b0:decide (a0_9<a0_8)=false:=decide_eq_false c18;clear c18;by_cases c24:a0_10<a0_9
        ·rw[if_pos c24] at H;have c24b0:decide (a0_10<a0_9)=true:=decide_eq_true c24;clear c24;have H':=Aside0.mk H;clear H;have hcz25_0:=bc_ BK101 0 rfl;have hcz25_1:=bc_ BK101 1 rfl;have hcz25_2:=bc_ BK101 2 rfl;have hcz25_3:=bc_ BK101 3 rfl;have hcz25_4:=bc_ BK101 4 rfl;have hcz25_5:=bc_ BK101 5 rfl;have hcz25_6:=bc_ BK101 6 rfl;have hcz25_7:=bc_ BK101 7 rfl;have hcz25_8:=bc_ BK101 8 rfl;have hcz25_9:=bc_ BK101 9 rfl;have hcz25_10:=bc_ BK101 10 rfl;have hfz25_0:=blk_frozen BK101.out 0;have hfz25_1:=blk_frozen BK101.out 1;have hfz25_2:=blk_frozen BK101.out 2;have hfz25_3:=blk_frozen BK101.out 3;have hfz25_4:=blk_frozen BK101.out 4;have hfz25_5:=blk_frozen BK101.out 5;have hfz25_6:=blk_frozen BK101.out 6;have hfz25_7:=blk_frozen BK101.out 7;have hfz25_8:=blk_frozen BK101.out 8;have hfz25_9:=blk_frozen BK101.out 9;have hfz25_10:=blk_frozen BK101.out 10
         go_wp2_with (first|(go_at_call 27;(with_reducible refine(book_Name.calls a0_0 true _ A8.out).mono ?_);rintro e w26 ⟨rfl,hb⟩;replace BK101:=kb_ BK101 hb;replace HB:=bs_ HB hb;(try clear hb);(try clear hb2);(try clear hk);(try clear hi);have hcz27_0:=bc_ BK101 0 rfl;have hcz27_1:=bc_ BK101 1 rfl;have hcz27_2:=bc_ BK101 2 rfl;have hcz27_3:=bc_ BK101 3 rfl;have hcz27_4:=bc_ BK101 4 rfl;have hcz27_5:=bc_ BK101 5 rfl;have hcz27_6:=bc_ BK101 6 rfl;have hcz27_7:=bc_ BK101 7 rfl;have hcz27_8:=bc_ BK101 8 rfl;have hcz27_9:=bc_ BK101 9 rfl;have hcz27_10:=bc_ BK101 10 rfl;have hfz27_0:=blk_frozen BK101.out 0;have hfz27_1:=blk_frozen BK101.out 1;have hfz27_2:=blk_frozen BK101.out 2;have hfz27_3:=blk_frozen BK101.out 3;have hfz27_4:=blk_frozen BK101.out 4;have hfz27_5:=blk_frozen BK101.out 5;have hfz27_6:=blk_frozen BK101.out 6;have hfz27_7:=blk_frozen BK101.out 7;have hfz27_8:=blk_frozen BK101.out 8;have hfz27_9:=blk_frozen BK101.out 9;have hfz27_10:=blk_frozen BK101.out 10)|(go_at_call 28;(with_reducible refine(action_asset.calls a0_2 true _ A10.out).mono ?_);rintro e w28 ⟨rfl,hb⟩;replace BK101:=kb_ BK101 hb;replace HB:=bs_ HB hb;(try clear hb);(try clear hb2);(try clear hk);(try clear hi);have hcz29_0:=bc_ BK101 0 rfl;have hcz29_1:=bc_ BK101 1 rfl;have hcz29_2:=bc_ BK101 2 rfl;have hcz29_3:=bc_ BK101 3 rfl;have hcz29_4:=bc_ BK101 4 rfl;have hcz29_5:=bc_ BK101 5 rfl;have hcz29_6:=bc_ BK101 6 rfl;have hcz29_7:=bc_ BK101 7 rfl;have hcz29_8:=bc_ BK101 8 rfl;have hcz29_9:=bc_ BK101 9 rfl;have hcz29_10:=bc_ BK101 10 rfl;have hfz29_0:=blk_frozen BK101.out 0;have hfz29_1:=blk_frozen BK101.out 1;have hfz29_2:=blk_frozen BK101.out 2;have hfz29_3:=blk_frozen BK101.out 3;have hfz29_4:=blk_frozen BK101.out 4;have hfz29_5:=blk_frozen BK101.out 5;have hfz29_6:=blk_frozen BK101.out 6;have hfz29_7:=blk_frozen BK101.out 7;have hfz29_8:=blk_frozen BK101.out 8;have hfz29_9:=blk_frozen BK101.out 9;have hfz29_10:=blk_frozen BK101.out 10))
         go_meet
         case rel=>exact⟨_,(true),rl_,H',⟨by first|omega|exact Nat.le_refl _⟩,⟨k_ BK101.out⟩,⟨b_ HB.out⟩⟩
        ·rw[if_neg c24] at H;have c24b0:decide (a0_10<a0_9)=false:=decide_eq_false c24;clear c24;have H':=Aside0.mk H;clear H;have hcz30_0:=bc_ BK101 0 rfl;have hcz30_1:=bc_ BK101 1 rfl;have hcz30_2:=bc_ BK101 2 rfl;have hcz30_3:=bc_ BK101 3 rfl;have hcz30_4:=bc_ BK101 4 rfl;have hcz30_5:=bc_ BK101 5 rfl;have hcz30_6:=bc_ BK101 6 rfl;have hcz30_7:=bc_ BK101 7 rfl;have hcz30_8:=bc_ BK101 8 rfl;have hcz30_9:=bc_ BK101 9 rfl;have hcz30_10:=bc_ BK101 10 rfl;have hfz30_0:=blk_frozen BK101.out 0;have hfz30_1:=blk_frozen BK101.out 1;have hfz30_2:=blk_frozen BK101.out 2;have hfz30_3:=blk_frozen BK101.out 3;have hfz30_4:=blk_frozen BK101.out 4;have hfz30_5:=blk_frozen BK101.out 5;have hfz30_6:=blk_frozen BK101.out 6;have hfz30_7:=blk_frozen BK101.out 7;have hfz30_8:=blk_frozen BK101.out 8;have hfz30_9:=blk_frozen BK101.out 9;have hfz30_10:=blk_frozen BK101.out 10
         go_wp2_with (first|(go_at_call 27;(with_reducible refine(book_Name.calls a0_0 true _ A8.out).mono ?_);rintro e w31 ⟨rfl,hb⟩;replace BK101:=kb_ BK101 hb;replace HB:=bs_ HB hb;(try clear hb);(try clear hb2);(try clear hk);(try clear hi);have hcz32_0:=bc_ BK101 0 rfl;have hcz32_1:=bc_ BK101 1 rfl;have hcz32_2:=bc_ BK101 2 rfl;have hcz32_3:=bc_ BK101 3 rfl;have hcz32_4:=bc_ BK101 4 rfl;have hcz32_5:=bc_ BK101 5 rfl;have hcz32_6:=bc_ BK101 6 rfl;have hcz32_7:=bc_ BK101 7 rfl;have hcz32_8:=bc_ BK101 8 rfl;have hcz32_9:=bc_ BK101 9 rfl;have hcz32_10:=bc_ BK101 10 rfl;have hfz32_0:=blk_frozen BK101.out 0;have hfz32_1:=blk_frozen BK101.out 1;have hfz32_2:=blk_frozen BK101.out 2;have hfz32_3:=blk_frozen BK101.out 3;have hfz32_4:=blk_frozen BK101.out 4;have hfz32_5:=blk_frozen BK101.out 5;have hfz32_6:=blk_frozen BK101.out 6;have hfz32_7:=blk_frozen BK101.out 7;have hfz32_8:=blk_frozen BK101.out 8;have hfz32_9:=blk_frozen BK101.out 9;have hfz32_10:=blk_frozen BK101.out 10)|(go_at_call 28;(with_reducible refine(action_asset.calls a0_2 true _ A10.out).mono ?_);rintro e w33 ⟨rfl,hb⟩;replace BK101:=kb_ BK101 hb;replace HB:=bs_ HB hb;(try clear hb);(try clear hb2);(try clear hk);(try clear hi);have hcz34_0:=bc_ BK101 0 rfl;have hcz34_1:=bc_ BK101 1 rfl;have hcz34_2:=bc_ BK101 2 rfl;have hcz34_3:=bc_ BK101 3 rfl;have hcz34_4:=bc_ BK101 4 rfl;have hcz34_5:=bc_ BK101 5 rfl;have hcz34_6:=bc_ BK101 6 rfl;have hcz34_7:=bc_ BK101 7 rfl;have hcz34_8:=bc_ BK101 8 rfl;have hcz34_9:=bc_ BK101 9 rfl;have hcz34_10:=bc_ BK101 10 rfl;have hfz34_0:=blk_frozen BK101.out 0;have hfz34_1:=blk_frozen BK101.out 1;have hfz34_2:=blk_frozen BK101.out 2;have hfz34_3:=blk_frozen BK101.out 3;have hfz34_4:=blk_frozen BK101.out 4;have hfz34_5:=blk_frozen BK101.out 5;have hfz34_6:=blk_frozen BK101.out 6;have hfz34_7:=blk_frozen BK101.out 7;have hfz34_8:=blk_frozen BK101.out 8;have hfz34_9:=blk_frozen BK101.out 9;have hfz34_10:=blk_frozen BK101.out 10))
         go_meet
         case rel=>exact⟨_,(decide (a0_10>9999)),rl_,H',⟨by first|omega|exact Nat.le_refl _⟩,⟨k_ BK101.out⟩,⟨b_ HB.out⟩⟩
     ·replace c11:=Bool.eq_false_iff.mpr c11;subst c11;rw[if_neg nf_] at H;have H':=Aside0.mk H;clear H;have hcz35_0:=bc_ BK101 0 rfl;have hcz35_1:=bc_ BK101 1 rfl;have hcz35_2:=bc_ BK101 2 rfl;have hcz35_3:=bc_ BK101 3 rfl;have hcz35_4:=bc_ BK101 4 rfl;have hcz35_5:=bc_ BK101 5 rfl;have hcz35_6:=bc_ BK101 6 rfl;have hcz35_7:=bc_ BK101 7 rfl;have hcz35_8:=bc_ BK101 8 rfl;have hcz35_9:=bc_ BK101 9 rfl;have hcz35_10:=bc_ BK101 10 rfl;have hfz35_0:=blk_frozen BK101.out 0;have hfz35_1:=blk_frozen BK101.out 1;have hfz35_2:=blk_frozen BK101.out 2;have hfz35_3:=blk_frozen BK101.out 3;have hfz35_4:=blk_frozen BK101.out 4;have hfz35_5:=blk_frozen BK101.out 5;have hfz35_6:=blk_frozen BK101.out 6;have hfz35_7:=blk_frozen BK101.out 7;have hfz35_8:=blk_frozen BK101.out 8;have hfz35_9:=blk_frozen BK101.out 9;have hfz35_10:=blk_frozen BK101.out 10
      go_wp2_with (first|(go_at_call 27;(with_reducible refine(book_Name.calls a0_0 true _ A8.out).mono ?_);rintro e w36 ⟨rfl,hb⟩;replace BK101:=kb_ BK101 hb;replace HB:=bs_ HB hb;(try clear hb);(try clear hb2);(try clear hk);(try clear hi);have hcz37_0:=bc_ BK101 0 rfl;have hcz37_1:=bc_ BK101 1 rfl;have hcz37_2:=bc_ BK101 2 rfl;have hcz37_3:=bc_ BK101 3 rfl;have hcz37_4:=bc_ BK101 4 rfl;have hcz37_5:=bc_ BK101 5 rfl;have hcz37_6:=bc_ BK101 6 rfl;have hcz37_7:=bc_ BK101 7 rfl;have hcz37_8:=bc_ BK101 8 rfl;have hcz37_9:=bc_ BK101 9 rfl;have hcz37_10:=bc_ BK101 10 rfl;have hfz37_0:=blk_frozen BK101.out 0;have hfz37_1:=blk_frozen BK101.out 1;have hfz37_2:=blk_frozen BK101.out 2;have hfz37_3:=blk_frozen BK101.out 3;have hfz37_4:=blk_frozen BK101.out 4;have hfz37_5:=blk_frozen BK101.out 5;have hfz37_6:=blk_frozen BK101.out 6;have hfz37_7:=blk_frozen BK101.out 7;have hfz37_8:=blk_frozen BK101.out 8;have hfz37_9:=blk_frozen BK101.out 9;have hfz37_10:=blk_frozen BK101.out 10)|(go_at_call 28;(with_reducible refine(action_asset.calls a0_2 false _ A10.out).mono ?_);rintro e w38 ⟨rfl,hb⟩;replace BK101:=kb_ BK101 hb;replace HB:=bs_ HB hb;(try clear hb);(try clear hb2);(try clear hk);(try clear hi)))
      go_meet
      case rel=>exact⟨_,(true),rl_,H',⟨by first|omega|exact Nat.le_refl _⟩,⟨k_ BK101.out⟩,⟨b_ HB.out⟩⟩
    ·replace c9:=Bool.eq_false_iff.mpr c9;subst c9;rw[if_neg nf_] at H;have H':=Aside0.mk H;clear H;have hcz39_0:=bc_ BK101 0 rfl;have hcz39_1:=bc_ BK101 1 rfl;have hcz39_2:=bc_ BK101 2 rfl;have hcz39_3:=bc_ BK101 3 rfl;have hcz39_4:=bc_ BK101 4 rfl;have hcz39_5:=bc_ BK101 5 rfl;have hcz39_6:=bc_ BK101 6 rfl;have hcz39_7:=bc_ BK101 7 rfl;have hcz39_8:=bc_ BK101 8 rfl;have hcz39_9:=bc_ BK101 9 rfl;have hcz39_10:=bc_ BK101 10 rfl;have hfz39_0:=blk_frozen BK101.out 0;have hfz39_1:=blk_frozen BK101.out 1;have hfz39_2:=blk_frozen BK101.out 2;have hfz39_3:=blk_frozen BK101.out 3;have hfz39_4:=blk_frozen BK101.out 4;have hfz39_5:=blk_frozen BK101.out 5;have hfz39_6:=blk_frozen BK101.out 6;have hfz39_7:=blk_frozen BK101.out 7;have hfz39_8:=blk_frozen BK101.out 8;have hfz39_9:=blk_frozen BK101.out 9;have hfz39_10:=blk_frozen BK101.out 10
     go_wp2_with (first|(go_at_call 27;(with_reducible refine(book_Name.calls a0_0 false _ A8.out).mono ?_);rintro e w40 ⟨rfl,hb⟩;replace BK101:=kb_ BK101 hb;replace HB:=bs_ HB hb;(try clear hb);(try clear hb2);(try clear hk);(try clear hi)))
     go_meet
     case rel=>exact⟨_,(true),rl_,H',⟨by first|omega|exact Nat.le_refl _⟩,⟨k_ BK101.out⟩,⟨b_ HB.out⟩⟩
 case rest =>
  clear HC2;(try clear c1);(try clear c2);(try clear p2);(try clear c4);(try clear c4b0);(try clear c6);(try clear c6b0);(try clear c9);(try clear c11);(try clear c12);(try clear c12b0);(try clear c18);(try clear c18b0);(try clear c24);(try clear c24b0);(try clear hcz13_0);(try clear hcz13_1);(try clear hcz13_10);(try clear hcz13_2);(try clear hcz13_3);(try clear hcz13_4);(try clear hcz13_5);(try clear hcz13_6);(try clear hcz13_7);(try clear hcz13_8);(try clear hcz13_9);(try clear hcz15_0);(try clear hcz15_1);(try clear hcz15_10);(try clear hcz15_2);(try clear hcz15_3);(try clear hcz15_4);(try clear hcz15_5);(try clear hcz15_6);(try clear hcz15_7);(try clear hcz15_8);(try clear hcz15_9);(try clear hcz17_0);(try clear hcz17_1);(try clear hcz17_10);(try clear hcz17_2);(try clear hcz17_3);(try clear hcz17_4);(try clear hcz17_5);(try clear hcz17_6);(try clear hcz17_7);(try clear hcz17_8);(try clear hcz17_9);(try clear hcz19_0);(try clear hcz19_1);(try clear hcz19_10);(try clear hcz19_2);(try clear hcz19_3);(try clear hcz19_4);(try clear hcz19_5);(try clear hcz19_6);(try clear hcz19_7);(try clear hcz19_8);(try clear hcz19_9);(try clear hcz21_0);(try clear hcz21_1);(try clear hcz21_10);(try clear hcz21_2);(try clear hcz21_3);(try clear hcz21_4);(try clear hcz21_5);(try clear hcz21_6);(try clear hcz21_7);(try clear hcz21_8);(try clear hcz21_9);(try clear hcz23_0);(try clear hcz23_1);(try clear hcz23_10);(try clear hcz23_2);(try clear hcz23_3);(try clear hcz23_4);(try clear hcz23_5);(try clear hcz23_6);(try clear hcz23_7);(try clear hcz23_8);(try clear hcz23_9);(try clear hcz25_0);(try clear hcz25_1);(try clear hcz25_10);(try clear hcz25_2);(try clear hcz25_3);(try clear hcz25_4);(try clear hcz25_5);(try clear hcz25_6);(try clear hcz25_7);(try clear hcz25_8);(try clear hcz25_9);(try clear hcz27_0);(try clear hcz27_1);(try clear hcz27_10);(try clear hcz27_2);(try clear hcz27_3);(try clear hcz27_4);(try clear hcz27_5);(try clear hcz27_6);(try clear hcz27_7);(try clear hcz27_8);(try clear hcz27_9);(try clear hcz29_0);(try clear hcz29_1);(try clear hcz29_10);(try clear hcz29_2);(try clear hcz29_3);(try clear hcz29_4);(try clear hcz29_5);(try clear hcz29_6);(try clear hcz29_7);(try clear hcz29_8);(try clear hcz29_9);(try clear hcz30_0);(try clear hcz30_1);(try clear hcz30_10);(try clear hcz30_2);(try clear hcz30_3);(try clear hcz30_4);(try clear hcz30_5);(try clear hcz30_6);(try clear hcz30_7);(try clear hcz30_8);(try clear hcz30_9);(try clear hcz32_0);(try clear hcz32_1);(try clear hcz32_10);(try clear hcz32_2);(try clear hcz32_3);(try clear hcz32_4);(try clear hcz32_5);(try clear hcz32_6);(try clear hcz32_7);(try clear hcz32_8);(try clear hcz32_9);(try clear hcz34_0);(try clear hcz34_1);(try clear hcz34_10);(try clear hcz34_2);(try clear hcz34_3);(try clear hcz34_4);(try clear hcz34_5);(try clear hcz34_6);(try clear hcz34_7);(try clear hcz34_8);(try clear hcz34_9);(try clear hcz35_0);(try clear hcz35_1);(try clear hcz35_10);(try clear hcz35_2);(try clear hcz35_3);(try clear hcz35_4);(try clear hcz35_5);(try clear hcz35_6);(try clear hcz35_7);(try clear hcz35_8);(try clear hcz35_9);(try clear hcz37_0);(try clear hcz37_1);(try clear hcz37_10);(try clear hcz37_2);(try clear hcz37_3);(try clear hcz37_4);(try clear hcz37_5);(try clear hcz37_6);(try clear hcz37_7);(try clear hcz37_8);(try clear hcz37_9);(try clear hcz39_0);(try clear hcz39_1);(try clear hcz39_10);(try clear hcz39_2);(try clear hcz39_3);(try clear hcz39_4);(try clear hcz39_5);(try clear hcz39_6);(try clear hcz39_7);(try clear hcz39_8);(try clear hcz39_9);(try clear hcz5_0);(try clear hcz5_1);(try clear hcz5_10);(try clear hcz5_2);(try clear hcz5_3);(try clear hcz5_4);(try clear hcz5_5);(try clear hcz5_6);(try clear hcz5_7);(try clear hcz5_8);(try clear hcz5_9);(try clear hcz7_0);(try clear hcz7_1);(try clear hcz7_10);(try clear hcz7_2);(try clear hcz7_3);(try clear hcz7_4);(try clear hcz7_5);(try clear hcz7_6);(try clear hcz7_7);(try clear hcz7_8);(try clear hcz7_9);(try clear hfz13_0);(try clear hfz13_1);(try clear hfz13_10);(try clear hfz13_2);(try clear hfz13_3);(try clear hfz13_4);(try clear hfz13_5);(try clear hfz13_6);(try clear hfz13_7);(try clear hfz13_8);(try clear hfz13_9);(try clear hfz15_0);(try clear hfz15_1);(try clear hfz15_10);(try clear hfz15_2);(try clear hfz15_3);(try clear hfz15_4);(try clear hfz15_5);(try clear hfz15_6);(try clear hfz15_7);(try clear hfz15_8);(try clear hfz15_9);(try clear hfz17_0);(try clear hfz17_1);(try clear hfz17_10);(try clear hfz17_2);(try clear hfz17_3);(try clear hfz17_4);(try clear hfz17_5);(try clear hfz17_6);(try clear hfz17_7);(try clear hfz17_8);(try clear hfz17_9);(try clear hfz19_0);(try clear hfz19_1);(try clear hfz19_10);(try clear hfz19_2);(try clear hfz19_3);(try clear hfz19_4);(try clear hfz19_5);(try clear hfz19_6);(try clear hfz19_7);(try clear hfz19_8);(try clear hfz19_9);(try clear hfz21_0);(try clear hfz21_1);(try clear hfz21_10);(try clear hfz21_2);(try clear hfz21_3);(try clear hfz21_4);(try clear hfz21_5);(try clear hfz21_6);(try clear hfz21_7);(try clear hfz21_8);(try clear hfz21_9);(try clear hfz23_0);(try clear hfz23_1);(try clear hfz23_10);(try clear hfz23_2);(try clear hfz23_3);(try clear hfz23_4);(try clear hfz23_5);(try clear hfz23_6);(try clear hfz23_7);(try clear hfz23_8);(try clear hfz23_9);(try clear hfz25_0);(try clear hfz25_1);(try clear hfz25_10);(try clear hfz25_2);(try clear hfz25_3);(try clear hfz25_4);(try clear hfz25_5);(try clear hfz25_6);(try clear hfz25_7);(try clear hfz25_8);(try clear hfz25_9);(try clear hfz27_0);(try clear hfz27_1);(try clear hfz27_10);(try clear hfz27_2);(try clear hfz27_3);(try clear hfz27_4);(try clear hfz27_5);(try clear hfz27_6);(try clear hfz27_7);(try clear hfz27_8);(try clear hfz27_9);(try clear hfz29_0);(try clear hfz29_1);(try clear hfz29_10);(try clear hfz29_2);(try clear hfz29_3);(try clear hfz29_4);(try clear hfz29_5);(try clear hfz29_6);(try clear hfz29_7);(try clear hfz29_8);(try clear hfz29_9);(try clear hfz30_0);(try clear hfz30_1);(try clear hfz30_10);(try clear hfz30_2);(try clear hfz30_3);(try clear hfz30_4);(try clear hfz30_5);(try clear hfz30_6);(try clear hfz30_7);(try clear hfz30_8);(try clear hfz30_9);(try clear hfz32_0);(try clear hfz32_1);(try clear hfz32_10);(try clear hfz32_2);(try clear hfz32_3);(try clear hfz32_4);(try clear hfz32_5);(try clear hfz32_6);(try clear hfz32_7);(try clear hfz32_8);(try clear hfz32_9);(try clear hfz34_0);(try clear hfz34_1);(try clear hfz34_10);(try clear hfz34_2);(try clear hfz34_3);(try clear hfz34_4);(try clear hfz34_5);(try clear hfz34_6);(try clear hfz34_7);(try clear hfz34_8);(try clear hfz34_9);(try clear hfz35_0);(try clear hfz35_1);(try clear hfz35_10);(try clear hfz35_2);(try clear hfz35_3);(try clear hfz35_4);(try clear hfz35_5);(try clear hfz35_6);(try clear hfz35_7);(try clear hfz35_8);(try clear hfz35_9);(try clear hfz37_0);(try clear hfz37_1);(try clear hfz37_10);(try clear hfz37_2);(try clear hfz37_3);(try clear hfz37_4);(try clear hfz37_5);(try clear hfz37_6);(try clear hfz37_7);(try clear hfz37_8);(try clear hfz37_9);(try clear hfz39_0);(try clear hfz39_1);(try clear hfz39_10);(try clear hfz39_2);(try clear hfz39_3);(try clear hfz39_4);(try clear hfz39_5);(try clear hfz39_6);(try clear hfz39_7);(try clear hfz39_8);(try clear hfz39_9);(try clear hfz5_0);(try clear hfz5_1);(try clear hfz5_10);(try clear hfz5_2);(try clear hfz5_3);(try clear hfz5_4);(try clear hfz5_5);(try clear hfz5_6);(try clear hfz5_7);(try clear hfz5_8);(try clear hfz5_9);(try clear hfz7_0);(try clear hfz7_1);(try clear hfz7_10);(try clear hfz7_2);(try clear hfz7_3);(try clear hfz7_4);(try clear hfz7_5);(try clear hfz7_6);(try clear hfz7_7);(try clear hfz7_8);(try clear hfz7_9);obtain⟨kq,x49_1,rfl,HA,HJ1,BK101,HB⟩:=hcut
  cases kq with
  | zero=>exact absurd HA.out (by simp[action_May.j0])
  | succ kj1 =>
   have H:=HA.out;clear HA;simp only[action_May.j0] at H;by_cases c41:x49_1=true
   ·subst c41;rw[if_pos rfl] at H;obtain rfl:=Option.some.inj H;go_wp2
    go_ret
    exact⟨er_,b_ HB.out⟩
   ·replace c41:=Bool.eq_false_iff.mpr c41;subst c41;rw[if_neg nf_] at H;obtain⟨⟨t104,t105,t106,t107,t108,t109,t110,t111,t112,t113,t114,t115,t116,t117,t118,t119,t120,t121,t122,t123⟩,A42,H⟩:=bi_ H;(try dsimp only at H);by_cases c43:0≤a0_1
    ·rw[if_pos c43] at H;have c43b0:=eq_true c43;have c43b1:decide (0≤a0_1)=true:=decide_eq_true c43;clear c43;by_cases c44:a0_1<5
     ·rw[if_pos c44] at H;have c44b0:=eq_true c44;have c44b1:decide (a0_1<5)=true:=decide_eq_true c44;clear c44;obtain⟨xa0_1_0,hxa0_1_0⟩:∃ y_:ByteArray,(ix5 a0_1 t104 t108 t112 t116 t120)=y_:=⟨_,rfl⟩;obtain⟨xa0_1_1,hxa0_1_1⟩:∃ y_:Bool,(ix5 a0_1 t105 t109 t113 t117 t121)=y_:=⟨_,rfl⟩;obtain⟨xa0_1_2,hxa0_1_2⟩:∃ y_:Bool,(ix5 a0_1 t106 t110 t114 t118 t122)=y_:=⟨_,rfl⟩;obtain⟨xa0_1_3,hxa0_1_3⟩:∃ y_:Bool,(ix5 a0_1 t107 t111 t115 t119 t123)=y_:=⟨_,rfl⟩;simp only[hxa0_1_0,hxa0_1_1,hxa0_1_2,hxa0_1_3] at H;have HC45:=Aside0.mk H;clear H
      try go_wp2
      replace BK101:=Aside0.mk (blk_drew BK101.out);replace HB:=Aside0.mk (below_drew1 HB.out);refine sa_ 6 (fun w'=>w'.cell? ⟨gb101,0,none⟩=some (.string a0_0)∧w'.cell? ⟨gb101,1,none⟩=some (.int .i64 a0_1)∧w'.cell? ⟨gb101,2,none⟩=some (.string a0_2)∧w'.cell? ⟨gb101,3,none⟩=some (.string a0_3)∧w'.cell? ⟨gb101,4,none⟩=some (.string a0_4)∧w'.cell? ⟨gb101,5,none⟩=some (.string a0_5)∧w'.cell? ⟨gb101,6,none⟩=some (.string a0_6)∧w'.cell? ⟨gb101,7,none⟩=some (.string a0_7)∧w'.cell? ⟨gb101,8,none⟩=some (.int .i64 a0_8)∧w'.cell? ⟨gb101,9,none⟩=some (.int .i64 a0_9)∧w'.cell? ⟨gb101,10,none⟩=some (.int .i64 a0_10)) (fun hHeld=>?_);generalize wc.drew=w46 at BK101 HB hHeld ⊢;refine pure_ (i:=1) (N:=some 51) (v:=?_) (a':=?_) #[false,true,false,false,false,false] rfl rfl (by kernel_rfl) (fun _ _ _ h=>h) (Or.inl ⟨by rfl,?_⟩) ?_ ?_;rotate_left
      ·intro w';go_simp;with_reducible rfl
      rotate_left
      ·exact ap_
      refine take_ (i:=2) (N:=some 52) (v:=?_) (a':=?_) #[false,true,true,false,false,false] rfl rfl (by kernel_rfl) (fun _ _ _ h=>h) (Or.inl ⟨by rfl,?_⟩) hHeld ?_ ?_;rotate_left
      ·rintro w' ⟨s0,s1,s2,s3,s4,s5,s6,s7,s8,s9,s10⟩;go_simp;with_reducible rfl
      rotate_left
      ·exact ap_
      refine join_ (σ:=Nat) 1 #[true,true,true,true,true,false] (fun s_=>[(50,.agg #[.string t104,.bool t105,.bool t106,.bool t107,.string t108,.bool t109,.bool t110,.bool t111,.string t112,.bool t113,.bool t114,.bool t115,.string t116,.bool t117,.bool t118,.bool t119,.string t120,.bool t121,.bool t122,.bool t123]),(3,.pointer (some ⟨s_,0,none⟩)),(53,.agg #[.string xa0_1_0,.bool xa0_1_1,.bool xa0_1_2,.bool xa0_1_3])]) (fun s_ w'=>(w'.cell? ⟨gb101,0,none⟩=some (.string a0_0)∧w'.cell? ⟨gb101,1,none⟩=some (.int .i64 a0_1)∧w'.cell? ⟨gb101,2,none⟩=some (.string a0_2)∧w'.cell? ⟨gb101,3,none⟩=some (.string a0_3)∧w'.cell? ⟨gb101,4,none⟩=some (.string a0_4)∧w'.cell? ⟨gb101,5,none⟩=some (.string a0_5)∧w'.cell? ⟨gb101,6,none⟩=some (.string a0_6)∧w'.cell? ⟨gb101,7,none⟩=some (.string a0_7)∧w'.cell? ⟨gb101,8,none⟩=some (.int .i64 a0_8)∧w'.cell? ⟨gb101,9,none⟩=some (.int .i64 a0_9)∧w'.cell? ⟨gb101,10,none⟩=some (.int .i64 a0_10))∧(w'.heap[gb101]?=some (.cells #[.string a0_0,.int .i64 a0_1,.string a0_2,.string a0_3,.string a0_4,.string a0_5,.string a0_6,.string a0_7,.int .i64 a0_8,.int .i64 a0_9,.int .i64 a0_10] 25 (0,0)))∧(w'.heap[s_]?=some (.cells #[.string (⟨#[]⟩:ByteArray),.bool false,.bool false,.bool false] 46 (0,0)))∧(w.heap.size≤s_)∧(w.heap.size≤s_)∧(gb101≠s_)∧(s_≠gb101)∧(Below w.heap.size w w')) ?_ ?_;rotate_left
      ·intro hCont;refine two_ (i:=0) (j:=4) (Ni:=some 50) (Nj:=some 3) #[true,true,true,false,false,false] #[false,true,true,false,true,false] rfl rfl rfl rfl (by kernel_rfl) (by decide) (by decide) (fun K hK=>?_) (fun K hK=>?_)
       ·skip;refine gs_ Tryz.func19 #[] ?_;refine mo_ (action_shapes.calls  t104 t105 t106 t107 t108 t109 t110 t111 t112 t113 t114 t115 t116 t117 t118 t119 t120 t121 t122 t123 _ A42.out) ?_;intro w47 hb;replace BK101:=kb_ BK101 hb;replace HB:=bs_ HB hb;(try clear hb);refine hk_ hK (fun hHeld=>?_);clear hK K;refine nm_ ?_;refine take_ (i:=3) (N:=some 53) (v:=?_) (a':=?_) #[true,true,true,true,false,false] rfl rfl (by kernel_rfl) (fun _ _ _ h=>h) (Or.inl ⟨by rfl,?_⟩) hHeld ?_ ?_;rotate_left
        ·rintro w' ⟨s0,s1,s2,s3,s4,s5,s6,s7,s8,s9,s10⟩;go_simp;with_reducible rfl
        rotate_left
        ·exact ap_
        refine one_ (i:=4) (N:=some 3) #[true,true,true,true,true,false] rfl rfl (by kernel_rfl) (by decide) (fun K hK=>?_);refine box_step ?hg (N:=3) ?hd (cs:=#[.string (⟨#[]⟩:ByteArray),.bool false,.bool false,.bool false]) (t:=46) ?hr ?_;(case hd=>rfl);(case hg=>rfl);(case hr=>first|(go_simp;done)|(go_simp;rfl));intro gb124 hg w48 hbox hb;have BK124:=Aside0.mk (hbox);have GW124:=ge_ HB hg;have GE124:=ge_ HB hg;have NB101_124:=nl_ BK101 hg;have NB124_101:=ng_ BK101 hg;replace BK101:=kb_ BK101 hb;replace HB:=bs_ HB hb;clear hb hbox hg;refine hk_ hK (fun hHeld=>?_);clear hK K;refine nm_ ?_;exact norm_ pa_ (hCont (gb124) _ ⟨hHeld,(k_ BK101.out),(k_ BK124.out),GW124.out,GE124.out,NB101_124.out,NB124_101.out,(b_ HB.out)⟩)
       ·skip;refine box_step ?hg (N:=3) ?hd (cs:=#[.string (⟨#[]⟩:ByteArray),.bool false,.bool false,.bool false]) (t:=46) ?hr ?_;(case hd=>rfl);(case hg=>rfl);(case hr=>first|(go_simp;done)|(go_simp;rfl));intro gb124 hg w47 hbox hb;have BK124:=Aside0.mk (hbox);have GW124:=ge_ HB hg;have GE124:=ge_ HB hg;have NB101_124:=nl_ BK101 hg;have NB124_101:=ng_ BK101 hg;replace BK101:=kb_ BK101 hb;replace HB:=bs_ HB hb;clear hb hbox hg;refine hk_ hK (fun hHeld=>?_);clear hK K;refine nm_ ?_;refine one_ (i:=0) (N:=some 50) #[true,true,true,false,true,false] rfl rfl (by kernel_rfl) (by decide) (fun K hK=>?_);refine gs_ Tryz.func19 #[] ?_;refine mo_ (action_shapes.calls  t104 t105 t106 t107 t108 t109 t110 t111 t112 t113 t114 t115 t116 t117 t118 t119 t120 t121 t122 t123 _ A42.out) ?_;intro w48 hb;replace BK101:=kb_ BK101 hb;replace BK124:=kb_ BK124 hb;replace HB:=bs_ HB hb;(try clear hb);refine hk_ hK (fun hHeld=>?_);clear hK K;refine nm_ ?_;refine take_ (i:=3) (N:=some 53) (v:=?_) (a':=?_) #[true,true,true,true,true,false] rfl rfl (by kernel_rfl) (fun _ _ _ h=>h) (Or.inl ⟨by rfl,?_⟩) hHeld ?_ ?_;rotate_left
        ·rintro w' ⟨s0,s1,s2,s3,s4,s5,s6,s7,s8,s9,s10⟩;go_simp;with_reducible rfl
        rotate_left
        ·exact ap_
        exact norm_ pa_ (hCont (gb124) _ ⟨hHeld,(k_ BK101.out),(k_ BK124.out),GW124.out,GE124.out,NB101_124.out,NB124_101.out,(b_ HB.out)⟩)
      rintro gb124 w49 ⟨hS_,h0_,h1_,h2_,h3_,h4_,h5_,h6_⟩;have n0_:Aside0 (w49.heap[gb101]?=some (.cells #[.string a0_0,.int .i64 a0_1,.string a0_2,.string a0_3,.string a0_4,.string a0_5,.string a0_6,.string a0_7,.int .i64 a0_8,.int .i64 a0_9,.int .i64 a0_10] 25 (0,0))):=⟨h0_⟩;have n1_:Aside0 (w49.heap[gb124]?=some (.cells #[.string (⟨#[]⟩:ByteArray),.bool false,.bool false,.bool false] 46 (0,0))):=⟨h1_⟩;have n2_:Aside0 (w.heap.size≤gb124):=⟨h2_⟩;have n3_:Aside0 (w.heap.size≤gb124):=⟨h3_⟩;have n4_:Aside0 (gb101≠gb124):=⟨h4_⟩;have n5_:Aside0 (gb124≠gb101):=⟨h5_⟩;have n6_:Aside0 (Below w.heap.size w w49):=⟨h6_⟩;clear BK101;clear HB;clear h0_ h1_ h2_ h3_ h4_ h5_ h6_;have BK101:=n0_;have BK124:=n1_;have GW124:=n2_;have GE124:=n3_;have NB101_124:=n4_;have NB124_101:=n5_;have HB:=n6_;clear n0_ n1_ n2_ n3_ n4_ n5_ n6_;have hHeld:w49.cell? ⟨gb101,0,none⟩=some (.string a0_0)∧w49.cell? ⟨gb101,1,none⟩=some (.int .i64 a0_1)∧w49.cell? ⟨gb101,2,none⟩=some (.string a0_2)∧w49.cell? ⟨gb101,3,none⟩=some (.string a0_3)∧w49.cell? ⟨gb101,4,none⟩=some (.string a0_4)∧w49.cell? ⟨gb101,5,none⟩=some (.string a0_5)∧w49.cell? ⟨gb101,6,none⟩=some (.string a0_6)∧w49.cell? ⟨gb101,7,none⟩=some (.string a0_7)∧w49.cell? ⟨gb101,8,none⟩=some (.int .i64 a0_8)∧w49.cell? ⟨gb101,9,none⟩=some (.int .i64 a0_9)∧w49.cell? ⟨gb101,10,none⟩=some (.int .i64 a0_10):=hS_;refine norm_ (a':=?_) ?_ ?_;rotate_left
      ·simp only[putAll,Act.put,List.setIfInBounds_toArray,List.set_cons_zero,List.set_cons_succ]
       rfl
      refine one_ (i:=5) (N:=none) #[true,true,true,true,true,true] rfl rfl (by kernel_rfl) (by decide) (fun K hK=>?_);have hs50:=bc_ BK124 0 rfl;have hfs50:=blk_frozen BK124.out 0;have hns50_0:=NB101_124.out;have hms50_0:=NB124_101.out;have hs51:=bc_ BK124 1 rfl;have hfs51:=blk_frozen BK124.out 1;have hns51_0:=NB101_124.out;have hms51_0:=NB124_101.out;have hs52:=bc_ BK124 2 rfl;have hfs52:=blk_frozen BK124.out 2;have hns52_0:=NB101_124.out;have hms52_0:=NB124_101.out;have hs53:=bc_ BK124 3 rfl;have hfs53:=blk_frozen BK124.out 3;have hns53_0:=NB101_124.out;have hms53_0:=NB124_101.out;refine skip_ (w1:=?_) (by rfl) rfl ?_ ?_;rotate_left
      ·go_simp
       rfl
      refine hK.out _ _ ⟨((cell_far (p:=⟨gb124,_,none⟩) NB101_124.out _).trans (((cell_far (p:=⟨gb124,_,none⟩) NB101_124.out _).trans (((cell_far (p:=⟨gb124,_,none⟩) NB101_124.out _).trans (((cell_far (p:=⟨gb124,_,none⟩) NB101_124.out _).trans (hHeld.1)))))))),((cell_far (p:=⟨gb124,_,none⟩) NB101_124.out _).trans (((cell_far (p:=⟨gb124,_,none⟩) NB101_124.out _).trans (((cell_far (p:=⟨gb124,_,none⟩) NB101_124.out _).trans (((cell_far (p:=⟨gb124,_,none⟩) NB101_124.out _).trans (hHeld.2.1)))))))),((cell_far (p:=⟨gb124,_,none⟩) NB101_124.out _).trans (((cell_far (p:=⟨gb124,_,none⟩) NB101_124.out _).trans (((cell_far (p:=⟨gb124,_,none⟩) NB101_124.out _).trans (((cell_far (p:=⟨gb124,_,none⟩) NB101_124.out _).trans (hHeld.2.2.1)))))))),((cell_far (p:=⟨gb124,_,none⟩) NB101_124.out _).trans (((cell_far (p:=⟨gb124,_,none⟩) NB101_124.out _).trans (((cell_far (p:=⟨gb124,_,none⟩) NB101_124.out _).trans (((cell_far (p:=⟨gb124,_,none⟩) NB101_124.out _).trans (hHeld.2.2.2.1)))))))),((cell_far (p:=⟨gb124,_,none⟩) NB101_124.out _).trans (((cell_far (p:=⟨gb124,_,none⟩) NB101_124.out _).trans (((cell_far (p:=⟨gb124,_,none⟩) NB101_124.out _).trans (((cell_far (p:=⟨gb124,_,none⟩) NB101_124.out _).trans (hHeld.2.2.2.2.1)))))))),((cell_far (p:=⟨gb124,_,none⟩) NB101_124.out _).trans (((cell_far (p:=⟨gb124,_,none⟩) NB101_124.out _).trans (((cell_far (p:=⟨gb124,_,none⟩) NB101_124.out _).trans (((cell_far (p:=⟨gb124,_,none⟩) NB101_124.out _).trans (hHeld.2.2.2.2.2.1)))))))),((cell_far (p:=⟨gb124,_,none⟩) NB101_124.out _).trans (((cell_far (p:=⟨gb124,_,none⟩) NB101_124.out _).trans (((cell_far (p:=⟨gb124,_,none⟩) NB101_124.out _).trans (((cell_far (p:=⟨gb124,_,none⟩) NB101_124.out _).trans (hHeld.2.2.2.2.2.2.1)))))))),((cell_far (p:=⟨gb124,_,none⟩) NB101_124.out _).trans (((cell_far (p:=⟨gb124,_,none⟩) NB101_124.out _).trans (((cell_far (p:=⟨gb124,_,none⟩) NB101_124.out _).trans (((cell_far (p:=⟨gb124,_,none⟩) NB101_124.out _).trans (hHeld.2.2.2.2.2.2.2.1)))))))),((cell_far (p:=⟨gb124,_,none⟩) NB101_124.out _).trans (((cell_far (p:=⟨gb124,_,none⟩) NB101_124.out _).trans (((cell_far (p:=⟨gb124,_,none⟩) NB101_124.out _).trans (((cell_far (p:=⟨gb124,_,none⟩) NB101_124.out _).trans (hHeld.2.2.2.2.2.2.2.2.1)))))))),((cell_far (p:=⟨gb124,_,none⟩) NB101_124.out _).trans (((cell_far (p:=⟨gb124,_,none⟩) NB101_124.out _).trans (((cell_far (p:=⟨gb124,_,none⟩) NB101_124.out _).trans (((cell_far (p:=⟨gb124,_,none⟩) NB101_124.out _).trans (hHeld.2.2.2.2.2.2.2.2.2.1)))))))),((cell_far (p:=⟨gb124,_,none⟩) NB101_124.out _).trans (((cell_far (p:=⟨gb124,_,none⟩) NB101_124.out _).trans (((cell_far (p:=⟨gb124,_,none⟩) NB101_124.out _).trans (((cell_far (p:=⟨gb124,_,none⟩) NB101_124.out _).trans (hHeld.2.2.2.2.2.2.2.2.2.2))))))))⟩ (fun hHeld=>?_);clear hK K;refine done_ (by kernel_rfl) ?_;have hnb54:=NB101_124.out;have hnc54:=NB124_101.out;have hcz55_0:=bc_ BK101 0 rfl;have hcz55_1:=bc_ BK101 1 rfl;have hcz55_2:=bc_ BK101 2 rfl;have hcz55_3:=bc_ BK101 3 rfl;have hcz55_4:=bc_ BK101 4 rfl;have hcz55_5:=bc_ BK101 5 rfl;have hcz55_6:=bc_ BK101 6 rfl;have hcz55_7:=bc_ BK101 7 rfl;have hcz55_8:=bc_ BK101 8 rfl;have hcz55_9:=bc_ BK101 9 rfl;have hcz55_10:=bc_ BK101 10 rfl;have hfz55_0:=blk_frozen BK101.out 0;have hfz55_1:=blk_frozen BK101.out 1;have hfz55_2:=blk_frozen BK101.out 2;have hfz55_3:=blk_frozen BK101.out 3;have hfz55_4:=blk_frozen BK101.out 4;have hfz55_5:=blk_frozen BK101.out 5;have hfz55_6:=blk_frozen BK101.out 6;have hfz55_7:=blk_frozen BK101.out 7;have hfz55_8:=blk_frozen BK101.out 8;have hfz55_9:=blk_frozen BK101.out 9;have hfz55_10:=blk_frozen BK101.out 10;have hcz56_0:=bc_ BK124 0 rfl;have hcz56_1:=bc_ BK124 1 rfl;have hcz56_2:=bc_ BK124 2 rfl;have hcz56_3:=bc_ BK124 3 rfl;have hfz56_0:=blk_frozen BK124.out 0;have hfz56_1:=blk_frozen BK124.out 1;have hfz56_2:=blk_frozen BK124.out 2;have hfz56_3:=blk_frozen BK124.out 3
      go_upto_if 58 with (fail)
      go_cut [4] (fun v4 wc=>∃ (kq:Nat) (x4_44:Bool),v4=.bool x4_44∧Aside0 (action_May.j1 kq x4_44 a0_0 a0_1 a0_2 a0_3 a0_4 a0_5 a0_6 a0_7 a0_8 a0_9 a0_10 xa0_1_0 xa0_1_1 xa0_1_2 xa0_1_3=some r)∧Aside0 (kq≤kj1)∧Aside0 (wc.heap[gb101]?=some (.cells #[.string a0_0,.int .i64 a0_1,.string a0_2,.string a0_3,.string a0_4,.string a0_5,.string a0_6,.string a0_7,.int .i64 a0_8,.int .i64 a0_9,.int .i64 a0_10] 25 (0,0)))∧Aside0 (wc.heap[gb124]?=some (.cells #[.string xa0_1_0,.bool xa0_1_1,.bool xa0_1_2,.bool xa0_1_3] 46 (0,0)))∧Aside0 (Below w.heap.size w wc))
      case first =>
       have H:=HC45.out;clear HC45;by_cases c57:xa0_1_1=true
       ·subst c57;rw[if_pos rfl] at H;obtain⟨t125,A58,H⟩:=bi_ H;by_cases c59:t125=true
        ·subst c59;rw[if_pos rfl] at H;have H':=Aside0.mk H;clear H;have hnb60:=NB101_124.out;have hnc60:=NB124_101.out;have hcz61_0:=bc_ BK101 0 rfl;have hcz61_1:=bc_ BK101 1 rfl;have hcz61_2:=bc_ BK101 2 rfl;have hcz61_3:=bc_ BK101 3 rfl;have hcz61_4:=bc_ BK101 4 rfl;have hcz61_5:=bc_ BK101 5 rfl;have hcz61_6:=bc_ BK101 6 rfl;have hcz61_7:=bc_ BK101 7 rfl;have hcz61_8:=bc_ BK101 8 rfl;have hcz61_9:=bc_ BK101 9 rfl;have hcz61_10:=bc_ BK101 10 rfl;have hfz61_0:=blk_frozen BK101.out 0;have hfz61_1:=blk_frozen BK101.out 1;have hfz61_2:=blk_frozen BK101.out 2;have hfz61_3:=blk_frozen BK101.out 3;have hfz61_4:=blk_frozen BK101.out 4;have hfz61_5:=blk_frozen BK101.out 5;have hfz61_6:=blk_frozen BK101.out 6;have hfz61_7:=blk_frozen BK101.out 7;have hfz61_8:=blk_frozen BK101.out 8;have hfz61_9:=blk_frozen BK101.out 9;have hfz61_10:=blk_frozen BK101.out 10
         go_wp2_with (first|(refine gl_ 61 Tryz.func28 #[.string a0_3] ?_;refine mo_ (action_asset.calls a0_3 true _ A58.out) ?_;intro w62 hb;replace BK101:=Aside0.mk (blk_below (g:=gb101) (o:=.cells #[.string a0_0,.int .i64 a0_1,.string a0_2,.string a0_3,.string a0_4,.string a0_5,.string a0_6,.string a0_7,.int .i64 a0_8,.int .i64 a0_9,.int .i64 a0_10] 25 (0,0)) (fr_ BK101.out) hb);replace BK124:=Aside0.mk (blk_below (g:=gb124) (o:=.cells #[.string xa0_1_0,.bool true,.bool xa0_1_2,.bool xa0_1_3] 46 (0,0)) (rp_ BK124.out) hb);replace HB:=bs_ HB hb;(try clear hb);(try clear hb2);(try clear hk);(try clear hi);have hcz63_0:=bc_ BK101 0 rfl;have hcz63_1:=bc_ BK101 1 rfl;have hcz63_2:=bc_ BK101 2 rfl;have hcz63_3:=bc_ BK101 3 rfl;have hcz63_4:=bc_ BK101 4 rfl;have hcz63_5:=bc_ BK101 5 rfl;have hcz63_6:=bc_ BK101 6 rfl;have hcz63_7:=bc_ BK101 7 rfl;have hcz63_8:=bc_ BK101 8 rfl;have hcz63_9:=bc_ BK101 9 rfl;have hcz63_10:=bc_ BK101 10 rfl;have hfz63_0:=blk_frozen BK101.out 0;have hfz63_1:=blk_frozen BK101.out 1;have hfz63_2:=blk_frozen BK101.out 2;have hfz63_3:=blk_frozen BK101.out 3;have hfz63_4:=blk_frozen BK101.out 4;have hfz63_5:=blk_frozen BK101.out 5;have hfz63_6:=blk_frozen BK101.out 6;have hfz63_7:=blk_frozen BK101.out 7;have hfz63_8:=blk_frozen BK101.out 8;have hfz63_9:=blk_frozen BK101.out 9;have hfz63_10:=blk_frozen BK101.out 10))
         go_meet
         case rel=>exact⟨_,((a0_3.toList != a0_2.toList)),rl_,H',⟨by have:=HJ1.out;first|omega|exact Nat.le_refl _⟩,⟨k_ BK101.out⟩,⟨k_ BK124.out⟩,⟨b_ HB.out⟩⟩
        ·replace c59:=Bool.eq_false_iff.mpr c59;subst c59;rw[if_neg nf_] at H;have H':=Aside0.mk H;clear H;have hnb64:=NB101_124.out;have hnc64:=NB124_101.out;have hcz65_0:=bc_ BK101 0 rfl;have hcz65_1:=bc_ BK101 1 rfl;have hcz65_2:=bc_ BK101 2 rfl;have hcz65_3:=bc_ BK101 3 rfl;have hcz65_4:=bc_ BK101 4 rfl;have hcz65_5:=bc_ BK101 5 rfl;have hcz65_6:=bc_ BK101 6 rfl;have hcz65_7:=bc_ BK101 7 rfl;have hcz65_8:=bc_ BK101 8 rfl;have hcz65_9:=bc_ BK101 9 rfl;have hcz65_10:=bc_ BK101 10 rfl;have hfz65_0:=blk_frozen BK101.out 0;have hfz65_1:=blk_frozen BK101.out 1;have hfz65_2:=blk_frozen BK101.out 2;have hfz65_3:=blk_frozen BK101.out 3;have hfz65_4:=blk_frozen BK101.out 4;have hfz65_5:=blk_frozen BK101.out 5;have hfz65_6:=blk_frozen BK101.out 6;have hfz65_7:=blk_frozen BK101.out 7;have hfz65_8:=blk_frozen BK101.out 8;have hfz65_9:=blk_frozen BK101.out 9;have hfz65_10:=blk_frozen BK101.out 10
         go_wp2_with (first|(refine gl_ 61 Tryz.func28 #[.string a0_3] ?_;refine mo_ (action_asset.calls a0_3 false _ A58.out) ?_;intro w66 hb;replace BK101:=Aside0.mk (blk_below (g:=gb101) (o:=.cells #[.string a0_0,.int .i64 a0_1,.string a0_2,.string a0_3,.string a0_4,.string a0_5,.string a0_6,.string a0_7,.int .i64 a0_8,.int .i64 a0_9,.int .i64 a0_10] 25 (0,0)) (fr_ BK101.out) hb);replace BK124:=Aside0.mk (blk_below (g:=gb124) (o:=.cells #[.string xa0_1_0,.bool true,.bool xa0_1_2,.bool xa0_1_3] 46 (0,0)) (rp_ BK124.out) hb);replace HB:=bs_ HB hb;(try clear hb);(try clear hb2);(try clear hk);(try clear hi)))
         go_meet
         case rel=>exact⟨_,(false),rl_,H',⟨by have:=HJ1.out;first|omega|exact Nat.le_refl _⟩,⟨k_ BK101.out⟩,⟨k_ BK124.out⟩,⟨b_ HB.out⟩⟩
       ·replace c57:=Bool.eq_false_iff.mpr c57;subst c57;rw[if_neg nf_] at H;have H':=Aside0.mk H;clear H;go_wp2
        go_meet
        case rel=>exact⟨_,((a0_3.toList == ([]:List UInt8))),rl_,H',⟨by have:=HJ1.out;first|omega|exact Nat.le_refl _⟩,⟨fr_ BK101.out⟩,⟨rp_ BK124.out⟩,⟨b_ HB.out⟩⟩
      case rest =>
       clear HC45;(try clear c1);(try clear c2);(try clear p2);(try clear c4);(try clear c5);(try clear c6);(try clear c19);(try clear c28);(try clear c41);(try clear c43);(try clear c43b0);(try clear c43b1);(try clear c44);(try clear c44b0);(try clear c44b1);(try clear c54);(try clear c57);(try clear c57b0);(try clear c59);(try clear c60);(try clear c64);(try clear hcz37_0);(try clear hcz37_1);(try clear hcz37_10);(try clear hcz37_2);(try clear hcz37_3);(try clear hcz37_4);(try clear hcz37_5);(try clear hcz37_6);(try clear hcz37_7);(try clear hcz37_8);(try clear hcz37_9);(try clear hcz39_0);(try clear hcz39_1);(try clear hcz39_10);(try clear hcz39_2);(try clear hcz39_3);(try clear hcz39_4);(try clear hcz39_5);(try clear hcz39_6);(try clear hcz39_7);(try clear hcz39_8);(try clear hcz39_9);(try clear hcz55_0);(try clear hcz55_1);(try clear hcz55_10);(try clear hcz55_2);(try clear hcz55_3);(try clear hcz55_4);(try clear hcz55_5);(try clear hcz55_6);(try clear hcz55_7);(try clear hcz55_8);(try clear hcz55_9);(try clear hcz56_0);(try clear hcz56_1);(try clear hcz56_2);(try clear hcz56_3);(try clear hcz5_0);(try clear hcz5_1);(try clear hcz5_10);(try clear hcz5_2);(try clear hcz5_3);(try clear hcz5_4);(try clear hcz5_5);(try clear hcz5_6);(try clear hcz5_7);(try clear hcz5_8);(try clear hcz5_9);(try clear hcz61_0);(try clear hcz61_1);(try clear hcz61_10);(try clear hcz61_2);(try clear hcz61_3);(try clear hcz61_4);(try clear hcz61_5);(try clear hcz61_6);(try clear hcz61_7);(try clear hcz61_8);(try clear hcz61_9);(try clear hcz63_0);(try clear hcz63_1);(try clear hcz63_10);(try clear hcz63_2);(try clear hcz63_3);(try clear hcz63_4);(try clear hcz63_5);(try clear hcz63_6);(try clear hcz63_7);(try clear hcz63_8);(try clear hcz63_9);(try clear hcz65_0);(try clear hcz65_1);(try clear hcz65_10);(try clear hcz65_2);(try clear hcz65_3);(try clear hcz65_4);(try clear hcz65_5);(try clear hcz65_6);(try clear hcz65_7);(try clear hcz65_8);(try clear hcz65_9);(try clear hcz7_0);(try clear hcz7_1);(try clear hcz7_10);(try clear hcz7_2);(try clear hcz7_3);(try clear hcz7_4);(try clear hcz7_5);(try clear hcz7_6);(try clear hcz7_7);(try clear hcz7_8);(try clear hcz7_9);(try clear hfz13_0);(try clear hfz13_1);(try clear hfz13_10);(try clear hfz13_2);(try clear hfz13_3);(try clear hfz13_4);(try clear hfz13_5);(try clear hfz13_6);(try clear hfz13_7);(try clear hfz13_8);(try clear hfz13_9);(try clear hfz15_0);(try clear hfz15_1);(try clear hfz15_10);(try clear hfz15_2);(try clear hfz15_3);(try clear hfz15_4);(try clear hfz15_5);(try clear hfz15_6);(try clear hfz15_7);(try clear hfz15_8);(try clear hfz15_9);(try clear hfz17_0);(try clear hfz17_1);(try clear hfz17_10);(try clear hfz17_2);(try clear hfz17_3);(try clear hfz17_4);(try clear hfz17_5);(try clear hfz17_6);(try clear hfz17_7);(try clear hfz17_8);(try clear hfz17_9);(try clear hfz19_0);(try clear hfz19_1);(try clear hfz19_10);(try clear hfz19_2);(try clear hfz19_3);(try clear hfz19_4);(try clear hfz19_5);(try clear hfz19_6);(try clear hfz19_7);(try clear hfz19_8);(try clear hfz19_9);(try clear hfz21_0);(try clear hfz21_1);(try clear hfz21_10);(try clear hfz21_2);(try clear hfz21_3);(try clear hfz21_4);(try clear hfz21_5);(try clear hfz21_6);(try clear hfz21_7);(try clear hfz21_8);(try clear hfz21_9);(try clear hfz23_0);(try clear hfz23_1);(try clear hfz23_10);(try clear hfz23_2);(try clear hfz23_3);(try clear hfz23_4);(try clear hfz23_5);(try clear hfz23_6);(try clear hfz23_7);(try clear hfz23_8);(try clear hfz23_9);(try clear hfz25_0);(try clear hfz25_1);(try clear hfz25_10);(try clear hfz25_2);(try clear hfz25_3);(try clear hfz25_4);(try clear hfz25_5);(try clear hfz25_6);(try clear hfz25_7);(try clear hfz25_8);(try clear hfz25_9);(try clear hfz27_0);(try clear hfz27_1);(try clear hfz27_10);(try clear hfz27_2);(try clear hfz27_3);(try clear hfz27_4);(try clear hfz27_5);(try clear hfz27_6);(try clear hfz27_7);(try clear hfz27_8);(try clear hfz27_9);(try clear hfz29_0);(try clear hfz29_1);(try clear hfz29_10);(try clear hfz29_2);(try clear hfz29_3);(try clear hfz29_4);(try clear hfz29_5);(try clear hfz29_6);(try clear hfz29_7);(try clear hfz29_8);(try clear hfz29_9);(try clear hfz30_0);(try clear hfz30_1);(try clear hfz30_10);(try clear hfz30_2);(try clear hfz30_3);(try clear hfz30_4);(try clear hfz30_5);(try clear hfz30_6);(try clear hfz30_7);(try clear hfz30_8);(try clear hfz30_9);(try clear hfz32_0);(try clear hfz32_1);(try clear hfz32_10);(try clear hfz32_2);(try clear hfz32_3);(try clear hfz32_4);(try clear hfz32_5);(try clear hfz32_6);(try clear hfz32_7);(try clear hfz32_8);(try clear hfz32_9);(try clear hfz34_0);(try clear hfz34_1);(try clear hfz34_10);(try clear hfz34_2);(try clear hfz34_3);(try clear hfz34_4);(try clear hfz34_5);(try clear hfz34_6);(try clear hfz34_7);(try clear hfz34_8);(try clear hfz34_9);(try clear hfz35_0);(try clear hfz35_1);(try clear hfz35_10);(try clear hfz35_2);(try clear hfz35_3);(try clear hfz35_4);(try clear hfz35_5);(try clear hfz35_6);(try clear hfz35_7);(try clear hfz35_8);(try clear hfz35_9);(try clear hfz37_0);(try clear hfz37_1);(try clear hfz37_10);(try clear hfz37_2);(try clear hfz37_3);(try clear hfz37_4);(try clear hfz37_5);(try clear hfz37_6);(try clear hfz37_7);(try clear hfz37_8);(try clear hfz37_9);(try clear hfz39_0);(try clear hfz39_1);(try clear hfz39_10);(try clear hfz39_2);(try clear hfz39_3);(try clear hfz39_4);(try clear hfz39_5);(try clear hfz39_6);(try clear hfz39_7);(try clear hfz39_8);(try clear hfz39_9);(try clear hfz55_0);(try clear hfz55_1);(try clear hfz55_10);(try clear hfz55_2);(try clear hfz55_3);(try clear hfz55_4);(try clear hfz55_5);(try clear hfz55_6);(try clear hfz55_7);(try clear hfz55_8);(try clear hfz55_9);(try clear hfz56_0);(try clear hfz56_1);(try clear hfz56_2);(try clear hfz56_3);(try clear hfz5_0);(try clear hfz5_1);(try clear hfz5_10);(try clear hfz5_2);(try clear hfz5_3);(try clear hfz5_4);(try clear hfz5_5);(try clear hfz5_6);(try clear hfz5_7);(try clear hfz5_8);(try clear hfz5_9);(try clear hfz61_0);(try clear hfz61_1);(try clear hfz61_10);(try clear hfz61_2);(try clear hfz61_3);(try clear hfz61_4);(try clear hfz61_5);(try clear hfz61_6);(try clear hfz61_7);(try clear hfz61_8);(try clear hfz61_9);(try clear hfz63_0);(try clear hfz63_1);(try clear hfz63_10);(try clear hfz63_2);(try clear hfz63_3);(try clear hfz63_4);(try clear hfz63_5);(try clear hfz63_6);(try clear hfz63_7);(try clear hfz63_8);(try clear hfz63_9);(try clear hfz65_0);(try clear hfz65_1);(try clear hfz65_10);(try clear hfz65_2);(try clear hfz65_3);(try clear hfz65_4);(try clear hfz65_5);(try clear hfz65_6);(try clear hfz65_7);(try clear hfz65_8);(try clear hfz65_9);(try clear hfz7_0);(try clear hfz7_1);(try clear hfz7_10);(try clear hfz7_2);(try clear hfz7_3);(try clear hfz7_4);(try clear hfz7_5);(try clear hfz7_6);(try clear hfz7_7);(try clear hfz7_8);(try clear hfz7_9);obtain⟨kq,x4_44,rfl,HA,HJ44,BK101,BK124,HB⟩:=hcut
       cases kq with
       | zero=>exact absurd HA.out (by simp[action_May.j1])
       | succ kj44 =>
        have H:=HA.out;clear HA;simp only[action_May.j1] at H;by_cases c67:a0_1=4
        ·rw[if_pos c67] at H;have c67b0:(a0_1 == 4)=true:=beq_iff_eq.mpr c67;have c67b1:(a0_1 != 4)=false:=bne_eq_false_iff_eq.mpr c67;clear c67;by_cases c68:x4_44=true
         ·subst c68;rw[if_pos rfl] at H;obtain⟨t126,A69,H⟩:=bi_ H;by_cases c70:t126=true
          ·subst c70;rw[if_pos rfl] at H;obtain⟨t127,A71,H⟩:=bi_ H;obtain rfl:=Option.some.inj H;have hnb72:=NB101_124.out;have hnc72:=NB124_101.out;have hcz73_0:=bc_ BK101 0 rfl;have hcz73_1:=bc_ BK101 1 rfl;have hcz73_2:=bc_ BK101 2 rfl;have hcz73_3:=bc_ BK101 3 rfl;have hcz73_4:=bc_ BK101 4 rfl;have hcz73_5:=bc_ BK101 5 rfl;have hcz73_6:=bc_ BK101 6 rfl;have hcz73_7:=bc_ BK101 7 rfl;have hcz73_8:=bc_ BK101 8 rfl;have hcz73_9:=bc_ BK101 9 rfl;have hcz73_10:=bc_ BK101 10 rfl;have hfz73_0:=blk_frozen BK101.out 0;have hfz73_1:=blk_frozen BK101.out 1;have hfz73_2:=blk_frozen BK101.out 2;have hfz73_3:=blk_frozen BK101.out 3;have hfz73_4:=blk_frozen BK101.out 4;have hfz73_5:=blk_frozen BK101.out 5;have hfz73_6:=blk_frozen BK101.out 6;have hfz73_7:=blk_frozen BK101.out 7;have hfz73_8:=blk_frozen BK101.out 8;have hfz73_9:=blk_frozen BK101.out 9;have hfz73_10:=blk_frozen BK101.out 10;have hcz74_0:=bc_ BK124 0 rfl;have hcz74_1:=bc_ BK124 1 rfl;have hcz74_2:=bc_ BK124 2 rfl;have hcz74_3:=bc_ BK124 3 rfl;have hfz74_0:=blk_frozen BK124.out 0;have hfz74_1:=blk_frozen BK124.out 1;have hfz74_2:=blk_frozen BK124.out 2;have hfz74_3:=blk_frozen BK124.out 3
           go_wp2_with (first|(go_at_call 29;(with_reducible refine(action_number.calls a0_4 a0_5 xa0_1_2 1 true _ ?side1 A69.out).mono ?_);(case side1=>exact lb_ HLD HB);rintro e w75 ⟨rfl,hb⟩;replace BK101:=kb_ BK101 hb;replace BK124:=kb_ BK124 hb;replace HB:=bs_ HB hb;(try clear hb);(try clear hb2);(try clear hk);(try clear hi);have hcz76_0:=bc_ BK101 0 rfl;have hcz76_1:=bc_ BK101 1 rfl;have hcz76_2:=bc_ BK101 2 rfl;have hcz76_3:=bc_ BK101 3 rfl;have hcz76_4:=bc_ BK101 4 rfl;have hcz76_5:=bc_ BK101 5 rfl;have hcz76_6:=bc_ BK101 6 rfl;have hcz76_7:=bc_ BK101 7 rfl;have hcz76_8:=bc_ BK101 8 rfl;have hcz76_9:=bc_ BK101 9 rfl;have hcz76_10:=bc_ BK101 10 rfl;have hfz76_0:=blk_frozen BK101.out 0;have hfz76_1:=blk_frozen BK101.out 1;have hfz76_2:=blk_frozen BK101.out 2;have hfz76_3:=blk_frozen BK101.out 3;have hfz76_4:=blk_frozen BK101.out 4;have hfz76_5:=blk_frozen BK101.out 5;have hfz76_6:=blk_frozen BK101.out 6;have hfz76_7:=blk_frozen BK101.out 7;have hfz76_8:=blk_frozen BK101.out 8;have hfz76_9:=blk_frozen BK101.out 9;have hfz76_10:=blk_frozen BK101.out 10;have hcz77_0:=bc_ BK124 0 rfl;have hcz77_1:=bc_ BK124 1 rfl;have hcz77_2:=bc_ BK124 2 rfl;have hcz77_3:=bc_ BK124 3 rfl;have hfz77_0:=blk_frozen BK124.out 0;have hfz77_1:=blk_frozen BK124.out 1;have hfz77_2:=blk_frozen BK124.out 2;have hfz77_3:=blk_frozen BK124.out 3)|(go_at_call 29;(with_reducible refine(action_number.calls a0_6 a0_7 xa0_1_3 0 t127 _ ?side1 A71.out).mono ?_);(case side1=>exact lb_ HLD HB);rintro e w78 ⟨rfl,hb⟩;replace BK101:=kb_ BK101 hb;replace BK124:=kb_ BK124 hb;replace HB:=bs_ HB hb;(try clear hb);(try clear hb2);(try clear hk);(try clear hi)))
           go_ret
           exact⟨er_,b_ HB.out⟩
          ·replace c70:=Bool.eq_false_iff.mpr c70;subst c70;rw[if_neg nf_] at H;obtain rfl:=Option.some.inj H;have hnb79:=NB101_124.out;have hnc79:=NB124_101.out;have hcz80_0:=bc_ BK101 0 rfl;have hcz80_1:=bc_ BK101 1 rfl;have hcz80_2:=bc_ BK101 2 rfl;have hcz80_3:=bc_ BK101 3 rfl;have hcz80_4:=bc_ BK101 4 rfl;have hcz80_5:=bc_ BK101 5 rfl;have hcz80_6:=bc_ BK101 6 rfl;have hcz80_7:=bc_ BK101 7 rfl;have hcz80_8:=bc_ BK101 8 rfl;have hcz80_9:=bc_ BK101 9 rfl;have hcz80_10:=bc_ BK101 10 rfl;have hfz80_0:=blk_frozen BK101.out 0;have hfz80_1:=blk_frozen BK101.out 1;have hfz80_2:=blk_frozen BK101.out 2;have hfz80_3:=blk_frozen BK101.out 3;have hfz80_4:=blk_frozen BK101.out 4;have hfz80_5:=blk_frozen BK101.out 5;have hfz80_6:=blk_frozen BK101.out 6;have hfz80_7:=blk_frozen BK101.out 7;have hfz80_8:=blk_frozen BK101.out 8;have hfz80_9:=blk_frozen BK101.out 9;have hfz80_10:=blk_frozen BK101.out 10;have hcz81_0:=bc_ BK124 0 rfl;have hcz81_1:=bc_ BK124 1 rfl;have hcz81_2:=bc_ BK124 2 rfl;have hcz81_3:=bc_ BK124 3 rfl;have hfz81_0:=blk_frozen BK124.out 0;have hfz81_1:=blk_frozen BK124.out 1;have hfz81_2:=blk_frozen BK124.out 2;have hfz81_3:=blk_frozen BK124.out 3
           go_wp2_with (first|(go_at_call 29;(with_reducible refine(action_number.calls a0_4 a0_5 xa0_1_2 1 false _ ?side1 A69.out).mono ?_);(case side1=>exact lb_ HLD HB);rintro e w82 ⟨rfl,hb⟩;replace BK101:=kb_ BK101 hb;replace BK124:=kb_ BK124 hb;replace HB:=bs_ HB hb;(try clear hb);(try clear hb2);(try clear hk);(try clear hi)))
           go_ret
           exact⟨er_,b_ HB.out⟩
         ·replace c68:=Bool.eq_false_iff.mpr c68;subst c68;rw[if_neg nf_] at H;obtain rfl:=Option.some.inj H;have hnb83:=NB101_124.out;have hnc83:=NB124_101.out;have hcz84_0:=bc_ BK101 0 rfl;have hcz84_1:=bc_ BK101 1 rfl;have hcz84_2:=bc_ BK101 2 rfl;have hcz84_3:=bc_ BK101 3 rfl;have hcz84_4:=bc_ BK101 4 rfl;have hcz84_5:=bc_ BK101 5 rfl;have hcz84_6:=bc_ BK101 6 rfl;have hcz84_7:=bc_ BK101 7 rfl;have hcz84_8:=bc_ BK101 8 rfl;have hcz84_9:=bc_ BK101 9 rfl;have hcz84_10:=bc_ BK101 10 rfl;have hfz84_0:=blk_frozen BK101.out 0;have hfz84_1:=blk_frozen BK101.out 1;have hfz84_2:=blk_frozen BK101.out 2;have hfz84_3:=blk_frozen BK101.out 3;have hfz84_4:=blk_frozen BK101.out 4;have hfz84_5:=blk_frozen BK101.out 5;have hfz84_6:=blk_frozen BK101.out 6;have hfz84_7:=blk_frozen BK101.out 7;have hfz84_8:=blk_frozen BK101.out 8;have hfz84_9:=blk_frozen BK101.out 9;have hfz84_10:=blk_frozen BK101.out 10;go_wp2
          go_ret
          exact⟨er_,b_ HB.out⟩
        ·rw[if_neg c67] at H;have c67b0:(a0_1 == 4)=false:=beq_eq_false_iff_ne.mpr c67;have c67b1:(a0_1 != 4)=true:=bne_iff_ne.mpr c67;by_cases c85:x4_44=true
         ·subst c85;rw[if_pos rfl] at H;obtain⟨t128,A86,H⟩:=bi_ H;by_cases c87:t128=true
          ·subst c87;rw[if_pos rfl] at H;obtain⟨t129,A88,H⟩:=bi_ H;obtain rfl:=Option.some.inj H;have hnb89:=NB101_124.out;have hnc89:=NB124_101.out;have hcz90_0:=bc_ BK101 0 rfl;have hcz90_1:=bc_ BK101 1 rfl;have hcz90_2:=bc_ BK101 2 rfl;have hcz90_3:=bc_ BK101 3 rfl;have hcz90_4:=bc_ BK101 4 rfl;have hcz90_5:=bc_ BK101 5 rfl;have hcz90_6:=bc_ BK101 6 rfl;have hcz90_7:=bc_ BK101 7 rfl;have hcz90_8:=bc_ BK101 8 rfl;have hcz90_9:=bc_ BK101 9 rfl;have hcz90_10:=bc_ BK101 10 rfl;have hfz90_0:=blk_frozen BK101.out 0;have hfz90_1:=blk_frozen BK101.out 1;have hfz90_2:=blk_frozen BK101.out 2;have hfz90_3:=blk_frozen BK101.out 3;have hfz90_4:=blk_frozen BK101.out 4;have hfz90_5:=blk_frozen BK101.out 5;have hfz90_6:=blk_frozen BK101.out 6;have hfz90_7:=blk_frozen BK101.out 7;have hfz90_8:=blk_frozen BK101.out 8;have hfz90_9:=blk_frozen BK101.out 9;have hfz90_10:=blk_frozen BK101.out 10;have hcz91_0:=bc_ BK124 0 rfl;have hcz91_1:=bc_ BK124 1 rfl;have hcz91_2:=bc_ BK124 2 rfl;have hcz91_3:=bc_ BK124 3 rfl;have hfz91_0:=blk_frozen BK124.out 0;have hfz91_1:=blk_frozen BK124.out 1;have hfz91_2:=blk_frozen BK124.out 2;have hfz91_3:=blk_frozen BK124.out 3
           go_wp2_with (first|(go_at_call 29;(with_reducible refine(action_number.calls a0_4 a0_5 xa0_1_2 1 true _ ?side1 A86.out).mono ?_);(case side1=>exact lb_ HLD HB);rintro e w92 ⟨rfl,hb⟩;replace BK101:=kb_ BK101 hb;replace BK124:=kb_ BK124 hb;replace HB:=bs_ HB hb;(try clear hb);(try clear hb2);(try clear hk);(try clear hi);have hcz93_0:=bc_ BK101 0 rfl;have hcz93_1:=bc_ BK101 1 rfl;have hcz93_2:=bc_ BK101 2 rfl;have hcz93_3:=bc_ BK101 3 rfl;have hcz93_4:=bc_ BK101 4 rfl;have hcz93_5:=bc_ BK101 5 rfl;have hcz93_6:=bc_ BK101 6 rfl;have hcz93_7:=bc_ BK101 7 rfl;have hcz93_8:=bc_ BK101 8 rfl;have hcz93_9:=bc_ BK101 9 rfl;have hcz93_10:=bc_ BK101 10 rfl;have hfz93_0:=blk_frozen BK101.out 0;have hfz93_1:=blk_frozen BK101.out 1;have hfz93_2:=blk_frozen BK101.out 2;have hfz93_3:=blk_frozen BK101.out 3;have hfz93_4:=blk_frozen BK101.out 4;have hfz93_5:=blk_frozen BK101.out 5;have hfz93_6:=blk_frozen BK101.out 6;have hfz93_7:=blk_frozen BK101.out 7;have hfz93_8:=blk_frozen BK101.out 8;have hfz93_9:=blk_frozen BK101.out 9;have hfz93_10:=blk_frozen BK101.out 10;have hcz94_0:=bc_ BK124 0 rfl;have hcz94_1:=bc_ BK124 1 rfl;have hcz94_2:=bc_ BK124 2 rfl;have hcz94_3:=bc_ BK124 3 rfl;have hfz94_0:=blk_frozen BK124.out 0;have hfz94_1:=blk_frozen BK124.out 1;have hfz94_2:=blk_frozen BK124.out 2;have hfz94_3:=blk_frozen BK124.out 3)|(go_at_call 29;(with_reducible refine(action_number.calls a0_6 a0_7 xa0_1_3 1 t129 _ ?side1 A88.out).mono ?_);(case side1=>exact lb_ HLD HB);rintro e w95 ⟨rfl,hb⟩;replace BK101:=kb_ BK101 hb;replace BK124:=kb_ BK124 hb;replace HB:=bs_ HB hb;(try clear hb);(try clear hb2);(try clear hk);(try clear hi)))
           go_ret
           exact⟨er_,b_ HB.out⟩
          ·replace c87:=Bool.eq_false_iff.mpr c87;subst c87;rw[if_neg nf_] at H;obtain rfl:=Option.some.inj H;have hnb96:=NB101_124.out;have hnc96:=NB124_101.out;have hcz97_0:=bc_ BK101 0 rfl;have hcz97_1:=bc_ BK101 1 rfl;have hcz97_2:=bc_ BK101 2 rfl;have hcz97_3:=bc_ BK101 3 rfl;have hcz97_4:=bc_ BK101 4 rfl;have hcz97_5:=bc_ BK101 5 rfl;have hcz97_6:=bc_ BK101 6 rfl;have hcz97_7:=bc_ BK101 7 rfl;have hcz97_8:=bc_ BK101 8 rfl;have hcz97_9:=bc_ BK101 9 rfl;have hcz97_10:=bc_ BK101 10 rfl;have hfz97_0:=blk_frozen BK101.out 0;have hfz97_1:=blk_frozen BK101.out 1;have hfz97_2:=blk_frozen BK101.out 2;have hfz97_3:=blk_frozen BK101.out 3;have hfz97_4:=blk_frozen BK101.out 4;have hfz97_5:=blk_frozen BK101.out 5;have hfz97_6:=blk_frozen BK101.out 6;have hfz97_7:=blk_frozen BK101.out 7;have hfz97_8:=blk_frozen BK101.out 8;have hfz97_9:=blk_frozen BK101.out 9;have hfz97_10:=blk_frozen BK101.out 10;have hcz98_0:=bc_ BK124 0 rfl;have hcz98_1:=bc_ BK124 1 rfl;have hcz98_2:=bc_ BK124 2 rfl;have hcz98_3:=bc_ BK124 3 rfl;have hfz98_0:=blk_frozen BK124.out 0;have hfz98_1:=blk_frozen BK124.out 1;have hfz98_2:=blk_frozen BK124.out 2;have hfz98_3:=blk_frozen BK124.out 3
           go_wp2_with (first|(go_at_call 29;(with_reducible refine(action_number.calls a0_4 a0_5 xa0_1_2 1 false _ ?side1 A86.out).mono ?_);(case side1=>exact lb_ HLD HB);rintro e w99 ⟨rfl,hb⟩;replace BK101:=kb_ BK101 hb;replace BK124:=kb_ BK124 hb;replace HB:=bs_ HB hb;(try clear hb);(try clear hb2);(try clear hk);(try clear hi)))
           go_ret
           exact⟨er_,b_ HB.out⟩
         ·replace c85:=Bool.eq_false_iff.mpr c85;subst c85;rw[if_neg nf_] at H;obtain rfl:=Option.some.inj H;have hnb100:=NB101_124.out;have hnc100:=NB124_101.out;have hcz101_0:=bc_ BK101 0 rfl;have hcz101_1:=bc_ BK101 1 rfl;have hcz101_2:=bc_ BK101 2 rfl;have hcz101_3:=bc_ BK101 3 rfl;have hcz101_4:=bc_ BK101 4 rfl;have hcz101_5:=bc_ BK101 5 rfl;have hcz101_6:=bc_ BK101 6 rfl;have hcz101_7:=bc_ BK101 7 rfl;have hcz101_8:=bc_ BK101 8 rfl;have hcz101_9:=bc_ BK101 9 rfl;have hcz101_10:=bc_ BK101 10 rfl;have hfz101_0:=blk_frozen BK101.out 0;have hfz101_1:=blk_frozen BK101.out 1;have hfz101_2:=blk_frozen BK101.out 2;have hfz101_3:=blk_frozen BK101.out 3;have hfz101_4:=blk_frozen BK101.out 4;have hfz101_5:=blk_frozen BK101.out 5;have hfz101_6:=blk_frozen BK101.out 6;have hfz101_7:=blk_frozen BK101.out 7;have hfz101_8:=blk_frozen BK101.out 8;have hfz101_9:=blk_frozen BK101.out 9;have hfz101_10:=blk_frozen BK101.out 10;go_wp2
          go_ret
          exact⟨er_,b_ HB.out⟩
     ·rw[if_neg c44] at H;exact absurd H (by simp)
    ·rw[if_neg c43] at H;exact absurd H (by simp)
end Go.Proofs.YtoghmeffpgbcfaaGreatDoor.Pl
end

section
namespace Go.Proofs.YtoghmeffpgbcfaaGreatDoor.Pl
open Go.RowKit Go.Proofs.YtoghmeffpgbcfaaGreatDoor.Pj Go.Proofs.YtoghmeffpgbcfaaGreatDoorW.PrintWords Go.Proofs.YtoghmeffpgbcfaaGreatDoorW.PrintLast Go.Proofs.YtoghmeffpgbcfaaGreatDoorW.PrintMore
end Go.Proofs.YtoghmeffpgbcfaaGreatDoor.Pl
end

section
namespace Go.Proofs.YtoghmeffpgbcfaaGreatDoor.Po
open Go.RowKit Go.Proofs.YtoghmeffpgbcfaaGreatDoor.Pl Go.Proofs.YtoghmeffpgbcfaaGreatDoorW.PrintWords Go.Proofs.YtoghmeffpgbcfaaGreatDoorW.PrintLast Go.Proofs.YtoghmeffpgbcfaaGreatDoorW.PrintMore
attribute [local go_sem] idx_shape
def errW:Option Int→Value
 | none=>.nilIface
 | some c=>.iface 0 (.int .i64 c)
theorem errW_none:errW none=.nilIface:=rfl
theorem errW_some (c:Int):errW (some c)=.iface 0 (.int .i64 c):=rfl
theorem info9:(Tryz.prog.info? 9).map (fun i=>(i.zero,i.size,i.bytes))=some (some (.string ⟨#[]⟩),1,16):=by kernel_rfl
end Go.Proofs.YtoghmeffpgbcfaaGreatDoor.Po
end

section
namespace Go.Proofs.YtoghmeffpgbcfaaGreatDoor.Po
open Go.RowKit Go.Proofs.YtoghmeffpgbcfaaGreatDoor.Pl Go.Proofs.YtoghmeffpgbcfaaGreatDoorW.PrintWords Go.Proofs.YtoghmeffpgbcfaaGreatDoorW.PrintLast Go.Proofs.YtoghmeffpgbcfaaGreatDoorW.PrintMore
attribute [local go_sem] idx_shape
end Go.Proofs.YtoghmeffpgbcfaaGreatDoor.Po
end

section
namespace Go.Proofs.YtoghmeffpgbcfaaGreatDoor.Po
open Go.RowKit Go.Proofs.YtoghmeffpgbcfaaGreatDoor.Pl Go.Proofs.YtoghmeffpgbcfaaGreatDoorW.PrintWords Go.Proofs.YtoghmeffpgbcfaaGreatDoorW.PrintLast Go.Proofs.YtoghmeffpgbcfaaGreatDoorW.PrintMore
attribute [local go_sem] idx_shape
mutual
def action_Print.j0:Nat→List ByteArray→ByteArray→Int→ByteArray→ByteArray→ByteArray→ByteArray→ByteArray→ByteArray→Int→Int→Int→ByteArray→Bool→Bool→Bool→Option (ByteArray)
 | 0,_,_,_,_,_,_,_,_,_,_,_,_,_,_,_,_=>none
 | k+1,x4,x102000,x102001,x102002,x102003,x102004,x102005,x102006,x102007,x102008,x102009,x102010,x124000,x124001,x124002,x124003=>if x124002=true then ((decimal_Print.f x102004 x102005).bind fun t133=>(if x4.length<8796093022208 then (action_Print.j1 k (x4 ++ [t133]) x102000 x102001 x102002 x102003 x102004 x102005 x102006 x102007 x102008 x102009 x102010 x124000 x124001 x124002 x124003) else (none))) else (action_Print.j1 k x4 x102000 x102001 x102002 x102003 x102004 x102005 x102006 x102007 x102008 x102009 x102010 x124000 x124001 x124002 x124003)
def action_Print.j1:Nat→List ByteArray→ByteArray→Int→ByteArray→ByteArray→ByteArray→ByteArray→ByteArray→ByteArray→Int→Int→Int→ByteArray→Bool→Bool→Bool→Option (ByteArray)
 | 0,_,_,_,_,_,_,_,_,_,_,_,_,_,_,_,_=>none
 | k+1,x4,x102000,x102001,x102002,x102003,x102004,x102005,x102006,x102007,x102008,x102009,x102010,x124000,x124001,x124002,x124003=>if x124003=true then ((decimal_Print.f x102006 x102007).bind fun t137=>(if x4.length<8796093022208 then ((strings_Join.f (x4 ++ [t137]) (⟨#[32]⟩:ByteArray)).bind fun t141=>(some t141)) else (none))) else ((strings_Join.f x4 (⟨#[32]⟩:ByteArray)).bind fun t142=>(some t142))
end
def action_Print.f (k:Nat) (a0_0:ByteArray) (a0_1:Int) (a0_2:ByteArray) (a0_3:ByteArray) (a0_4:ByteArray) (a0_5:ByteArray) (a0_6:ByteArray) (a0_7:ByteArray) (a0_8:Int) (a0_9:Int) (a0_10:Int):Option (ByteArray):=(action_May.f k a0_0 a0_1 a0_2 a0_3 a0_4 a0_5 a0_6 a0_7 a0_8 a0_9 a0_10).bind fun t102=>(if t102=true then ((action_shapes.f).bind fun bt103=>(if 0≤a0_1 then (if a0_1<5 then ((strconv_Itoa.f a0_8).bind fun t124=>((strconv_Itoa.f a0_9).bind fun t125=>((strconv_Itoa.f a0_10).bind fun t126=>((some (([ix5 a0_1 bt103.1 bt103.2.2.2.2.1 bt103.2.2.2.2.2.2.2.2.1 bt103.2.2.2.2.2.2.2.2.2.2.2.2.1 bt103.2.2.2.2.2.2.2.2.2.2.2.2.2.2.2.2.1,a0_0,a0_2,t124,t125,t126]:List ByteArray):List ByteArray)).bind fun y127=>(if (ix5 a0_1 bt103.2.1 bt103.2.2.2.2.2.1 bt103.2.2.2.2.2.2.2.2.2.1 bt103.2.2.2.2.2.2.2.2.2.2.2.2.2.1 bt103.2.2.2.2.2.2.2.2.2.2.2.2.2.2.2.2.2.1)=true then (if y127.length<8796093022208 then (action_Print.j0 k (y127 ++ [a0_3]) a0_0 a0_1 a0_2 a0_3 a0_4 a0_5 a0_6 a0_7 a0_8 a0_9 a0_10 (ix5 a0_1 bt103.1 bt103.2.2.2.2.1 bt103.2.2.2.2.2.2.2.2.1 bt103.2.2.2.2.2.2.2.2.2.2.2.2.1 bt103.2.2.2.2.2.2.2.2.2.2.2.2.2.2.2.2.1) (ix5 a0_1 bt103.2.1 bt103.2.2.2.2.2.1 bt103.2.2.2.2.2.2.2.2.2.1 bt103.2.2.2.2.2.2.2.2.2.2.2.2.2.1 bt103.2.2.2.2.2.2.2.2.2.2.2.2.2.2.2.2.2.1) (ix5 a0_1 bt103.2.2.1 bt103.2.2.2.2.2.2.1 bt103.2.2.2.2.2.2.2.2.2.2.1 bt103.2.2.2.2.2.2.2.2.2.2.2.2.2.2.1 bt103.2.2.2.2.2.2.2.2.2.2.2.2.2.2.2.2.2.2.1) (ix5 a0_1 bt103.2.2.2.1 bt103.2.2.2.2.2.2.2.1 bt103.2.2.2.2.2.2.2.2.2.2.2.1 bt103.2.2.2.2.2.2.2.2.2.2.2.2.2.2.2.1 bt103.2.2.2.2.2.2.2.2.2.2.2.2.2.2.2.2.2.2.2)) else (none)) else (action_Print.j0 k y127 a0_0 a0_1 a0_2 a0_3 a0_4 a0_5 a0_6 a0_7 a0_8 a0_9 a0_10 (ix5 a0_1 bt103.1 bt103.2.2.2.2.1 bt103.2.2.2.2.2.2.2.2.1 bt103.2.2.2.2.2.2.2.2.2.2.2.2.1 bt103.2.2.2.2.2.2.2.2.2.2.2.2.2.2.2.2.1) (ix5 a0_1 bt103.2.1 bt103.2.2.2.2.2.1 bt103.2.2.2.2.2.2.2.2.2.1 bt103.2.2.2.2.2.2.2.2.2.2.2.2.2.1 bt103.2.2.2.2.2.2.2.2.2.2.2.2.2.2.2.2.2.1) (ix5 a0_1 bt103.2.2.1 bt103.2.2.2.2.2.2.1 bt103.2.2.2.2.2.2.2.2.2.2.1 bt103.2.2.2.2.2.2.2.2.2.2.2.2.2.2.1 bt103.2.2.2.2.2.2.2.2.2.2.2.2.2.2.2.2.2.2.1) (ix5 a0_1 bt103.2.2.2.1 bt103.2.2.2.2.2.2.2.1 bt103.2.2.2.2.2.2.2.2.2.2.2.1 bt103.2.2.2.2.2.2.2.2.2.2.2.2.2.2.2.1 bt103.2.2.2.2.2.2.2.2.2.2.2.2.2.2.2.2.2.2.2))))))) else (none)) else (none))) else (some (⟨#[]⟩:ByteArray)))
def action_Print.T4:Bool×List (List Nat×List Nat):=(true,[([],[]),([0],[0]),([],[]),([2],[2]),([],[]),([4],[4]),([],[]),([6],[6]),([7],[7]),([],[]),([9],[9]),([10,8],[10]),([],[]),([12],[12]),([13,11],[13]),([1,3,5,8,11,14],[1,3,5,8,11,14]),([15,14,0,1,2,3,4,5,6,7,8,9,10,11,12,13,14,15],[15])])
def action_Print.B4:List Nat:=[0,1,0,4,0,16,0,64,192,0,512,1984,0,4096,16320,32767,65535]
theorem action_Print.tab4:rtab .any (opsOf Tryz.f13 4)=action_Print.T4:=by kernel_rfl
theorem action_Print.bits4:waitsOk action_Print.T4.2 action_Print.B4=true:=by kernel_rfl
set_option maxHeartbeats 8000000 in
set_option maxRecDepth 100000 in
theorem action_Print.calls (k:Nat) (a0_0:ByteArray) (a0_1:Int) (a0_2:ByteArray) (a0_3:ByteArray) (a0_4:ByteArray) (a0_5:ByteArray) (a0_6:ByteArray) (a0_7:ByteArray) (a0_8:Int) (a0_9:Int) (a0_10:Int) (r:ByteArray) (w:World) (hL_:Laid w) (h:action_Print.f k a0_0 a0_1 a0_2 a0_3 a0_4 a0_5 a0_6 a0_7 a0_8 a0_9 a0_10=some r) :
  Calls Tryz.prog 13 #[.agg #[.string a0_0,.int .i64 a0_1,.string a0_2,.string a0_3,.string a0_4,.string a0_5,.string a0_6,.string a0_7,.int .i64 a0_8,.int .i64 a0_9,.int .i64 a0_10]] w fun e w'=>e=.returned (.string r)∧Below w.heap.size w w':=by
 have hu25:=Tryz.underlying25;have hu46:=Tryz.underlying46;have hu23:=Tryz.underlying23;have HLD:=Aside0.mk hL_;clear hL_;have HB:=Aside0.mk (Below.refl w.heap.size w);have H:=h;unfold action_Print.f at H;clear h;obtain⟨t102,A2,H⟩:=bi_ H;by_cases c3:t102=true
 ·subst c3;rw[if_pos rfl] at H;obtain⟨⟨t103,t104,t105,t106,t107,t108,t109,t110,t111,t112,t113,t114,t115,t116,t117,t118,t119,t120,t121,t122⟩,A4,H⟩:=bi_ H;(try dsimp only at H);by_cases c5:0≤a0_1
  ·rw[if_pos c5] at H;have c5b0:=eq_true c5;have c5b1:decide (0≤a0_1)=true:=decide_eq_true c5;clear c5;by_cases c6:a0_1<5
   ·rw[if_pos c6] at H;have c6b0:=eq_true c6;have c6b1:decide (a0_1<5)=true:=decide_eq_true c6;clear c6;obtain⟨xa0_1_0,hxa0_1_0⟩:∃ y_:ByteArray,(ix5 a0_1 t103 t107 t111 t115 t119)=y_:=⟨_,rfl⟩;obtain⟨xa0_1_1,hxa0_1_1⟩:∃ y_:Bool,(ix5 a0_1 t104 t108 t112 t116 t120)=y_:=⟨_,rfl⟩;obtain⟨xa0_1_2,hxa0_1_2⟩:∃ y_:Bool,(ix5 a0_1 t105 t109 t113 t117 t121)=y_:=⟨_,rfl⟩;obtain⟨xa0_1_3,hxa0_1_3⟩:∃ y_:Bool,(ix5 a0_1 t106 t110 t114 t118 t122)=y_:=⟨_,rfl⟩;simp only[hxa0_1_0,hxa0_1_1,hxa0_1_2,hxa0_1_3] at H;obtain⟨t124,A7,H⟩:=bi_ H;obtain⟨t125,A8,H⟩:=bi_ H;obtain⟨t126,A9,H⟩:=bi_ H;obtain⟨y127,hy127⟩:∃ y_:List ByteArray,y_ = (([xa0_1_0,a0_0,a0_2,t124,t125,t126]:List ByteArray)):=⟨_,rfl⟩
    replace H:(if xa0_1_1=true then (if y127.length<8796093022208 then (action_Print.j0 k (y127 ++ [a0_3]) a0_0 a0_1 a0_2 a0_3 a0_4 a0_5 a0_6 a0_7 a0_8 a0_9 a0_10 xa0_1_0 xa0_1_1 xa0_1_2 xa0_1_3) else (none)) else (action_Print.j0 k y127 a0_0 a0_1 a0_2 a0_3 a0_4 a0_5 a0_6 a0_7 a0_8 a0_9 a0_10 xa0_1_0 xa0_1_1 xa0_1_2 xa0_1_3))=some r:=by first|(rw[hy127];with_reducible exact H)|(have H2_:=(Option.bind_some _ _).symm.trans H;rw[hy127];with_reducible exact H2_)|(have H2_:=(Option.bind_some _ _).symm.trans H;with_reducible exact H2_)|with_reducible exact H|(rw[hy127];exact H)|exact H
    have Ny127:=Aside0.mk hy127;clear hy127;have HC10:=Aside0.mk H;clear H;go_enter Tryz.func13,Tryz.ntmps13
    try go_wp2_with (first|((with_reducible refine gate_dst (N:=1) rfl ?_);refine be_ 1 #[.string a0_0,.int .i64 a0_1,.string a0_2,.string a0_3,.string a0_4,.string a0_5,.string a0_6,.string a0_7,.int .i64 a0_8,.int .i64 a0_9,.int .i64 a0_10] 25 ?_;intro gb101 hg w11 hbox hb;have BK101:=Aside0.mk (hbox);have GW101:=ge_ HB hg;have GE101:=ge_ HB hg;replace HB:=bs_ HB hb;clear hb hbox hg;have hcz12_0:=bc_ BK101 0 rfl;have hcz12_1:=bc_ BK101 1 rfl;have hcz12_2:=bc_ BK101 2 rfl;have hcz12_3:=bc_ BK101 3 rfl;have hcz12_4:=bc_ BK101 4 rfl;have hcz12_5:=bc_ BK101 5 rfl;have hcz12_6:=bc_ BK101 6 rfl;have hcz12_7:=bc_ BK101 7 rfl;have hcz12_8:=bc_ BK101 8 rfl;have hcz12_9:=bc_ BK101 9 rfl;have hcz12_10:=bc_ BK101 10 rfl;have hfz12_0:=blk_frozen BK101.out 0;have hfz12_1:=blk_frozen BK101.out 1;have hfz12_2:=blk_frozen BK101.out 2;have hfz12_3:=blk_frozen BK101.out 3;have hfz12_4:=blk_frozen BK101.out 4;have hfz12_5:=blk_frozen BK101.out 5;have hfz12_6:=blk_frozen BK101.out 6;have hfz12_7:=blk_frozen BK101.out 7;have hfz12_8:=blk_frozen BK101.out 8;have hfz12_9:=blk_frozen BK101.out 9;have hfz12_10:=blk_frozen BK101.out 10)|(refine gl_ 6 Tryz.func11 #[.agg #[.string a0_0,.int .i64 a0_1,.string a0_2,.string a0_3,.string a0_4,.string a0_5,.string a0_6,.string a0_7,.int .i64 a0_8,.int .i64 a0_9,.int .i64 a0_10]] ?_;refine mo_ (action_May.calls k a0_0 a0_1 a0_2 a0_3 a0_4 a0_5 a0_6 a0_7 a0_8 a0_9 a0_10 true _ (lb_ HLD HB) A2.out) ?_;intro w13 hb;replace BK101:=kb_ BK101 hb;replace HB:=bs_ HB hb;(try clear hb);(try clear hb2);(try clear hk);(try clear hi)))
    replace BK101:=Aside0.mk (blk_drew BK101.out);replace HB:=Aside0.mk (below_drew1 HB.out);refine sa_ 6 (fun w'=>w'.cell? ⟨gb101,0,none⟩=some (.string a0_0)∧w'.cell? ⟨gb101,1,none⟩=some (.int .i64 a0_1)∧w'.cell? ⟨gb101,2,none⟩=some (.string a0_2)∧w'.cell? ⟨gb101,3,none⟩=some (.string a0_3)∧w'.cell? ⟨gb101,4,none⟩=some (.string a0_4)∧w'.cell? ⟨gb101,5,none⟩=some (.string a0_5)∧w'.cell? ⟨gb101,6,none⟩=some (.string a0_6)∧w'.cell? ⟨gb101,7,none⟩=some (.string a0_7)∧w'.cell? ⟨gb101,8,none⟩=some (.int .i64 a0_8)∧w'.cell? ⟨gb101,9,none⟩=some (.int .i64 a0_9)∧w'.cell? ⟨gb101,10,none⟩=some (.int .i64 a0_10)) (fun hHeld=>?_);generalize w13.drew=w14 at BK101 HB hHeld ⊢;refine pure_ (i:=1) (N:=some 9) (v:=?_) (a':=?_) #[false,true,false,false,false,false] rfl rfl (by kernel_rfl) (fun _ _ _ h=>h) (Or.inl ⟨by rfl,?_⟩) ?_ ?_;rotate_left
    ·intro w';go_simp;with_reducible rfl
    rotate_left
    ·exact ap_
    refine take_ (i:=2) (N:=some 10) (v:=?_) (a':=?_) #[false,true,true,false,false,false] rfl rfl (by kernel_rfl) (fun _ _ _ h=>h) (Or.inl ⟨by rfl,?_⟩) hHeld ?_ ?_;rotate_left
    ·rintro w' ⟨s0,s1,s2,s3,s4,s5,s6,s7,s8,s9,s10⟩;go_simp;with_reducible rfl
    rotate_left
    ·exact ap_
    refine join_ (σ:=Nat) 1 #[true,true,true,true,true,false] (fun s_=>[(8,.agg #[.string t103,.bool t104,.bool t105,.bool t106,.string t107,.bool t108,.bool t109,.bool t110,.string t111,.bool t112,.bool t113,.bool t114,.string t115,.bool t116,.bool t117,.bool t118,.string t119,.bool t120,.bool t121,.bool t122]),(3,.pointer (some ⟨s_,0,none⟩)),(11,.agg #[.string xa0_1_0,.bool xa0_1_1,.bool xa0_1_2,.bool xa0_1_3])]) (fun s_ w'=>(w'.cell? ⟨gb101,0,none⟩=some (.string a0_0)∧w'.cell? ⟨gb101,1,none⟩=some (.int .i64 a0_1)∧w'.cell? ⟨gb101,2,none⟩=some (.string a0_2)∧w'.cell? ⟨gb101,3,none⟩=some (.string a0_3)∧w'.cell? ⟨gb101,4,none⟩=some (.string a0_4)∧w'.cell? ⟨gb101,5,none⟩=some (.string a0_5)∧w'.cell? ⟨gb101,6,none⟩=some (.string a0_6)∧w'.cell? ⟨gb101,7,none⟩=some (.string a0_7)∧w'.cell? ⟨gb101,8,none⟩=some (.int .i64 a0_8)∧w'.cell? ⟨gb101,9,none⟩=some (.int .i64 a0_9)∧w'.cell? ⟨gb101,10,none⟩=some (.int .i64 a0_10))∧(w'.heap[gb101]?=some (.cells #[.string a0_0,.int .i64 a0_1,.string a0_2,.string a0_3,.string a0_4,.string a0_5,.string a0_6,.string a0_7,.int .i64 a0_8,.int .i64 a0_9,.int .i64 a0_10] 25 (0,0)))∧(w'.heap[s_]?=some (.cells #[.string (⟨#[]⟩:ByteArray),.bool false,.bool false,.bool false] 46 (0,0)))∧(w.heap.size≤s_)∧(w.heap.size≤s_)∧(gb101≠s_)∧(s_≠gb101)∧(Below w.heap.size w w')) ?_ ?_;rotate_left
    ·intro hCont;refine two_ (i:=0) (j:=4) (Ni:=some 8) (Nj:=some 3) #[true,true,true,false,false,false] #[false,true,true,false,true,false] rfl rfl rfl rfl (by kernel_rfl) (by decide) (by decide) (fun K hK=>?_) (fun K hK=>?_)
     ·skip;refine gs_ Tryz.func19 #[] ?_;refine mo_ (action_shapes.calls  t103 t104 t105 t106 t107 t108 t109 t110 t111 t112 t113 t114 t115 t116 t117 t118 t119 t120 t121 t122 _ A4.out) ?_;intro w15 hb;replace BK101:=kb_ BK101 hb;replace HB:=bs_ HB hb;(try clear hb);refine hk_ hK (fun hHeld=>?_);clear hK K;refine nm_ ?_;refine take_ (i:=3) (N:=some 11) (v:=?_) (a':=?_) #[true,true,true,true,false,false] rfl rfl (by kernel_rfl) (fun _ _ _ h=>h) (Or.inl ⟨by rfl,?_⟩) hHeld ?_ ?_;rotate_left
      ·rintro w' ⟨s0,s1,s2,s3,s4,s5,s6,s7,s8,s9,s10⟩;go_simp;with_reducible rfl
      rotate_left
      ·exact ap_
      refine one_ (i:=4) (N:=some 3) #[true,true,true,true,true,false] rfl rfl (by kernel_rfl) (by decide) (fun K hK=>?_);refine box_step ?hg (N:=3) ?hd (cs:=#[.string (⟨#[]⟩:ByteArray),.bool false,.bool false,.bool false]) (t:=46) ?hr ?_;(case hd=>rfl);(case hg=>rfl);(case hr=>first|(go_simp;done)|(go_simp;rfl));intro gb123 hg w16 hbox hb;have BK123:=Aside0.mk (hbox);have GW123:=ge_ HB hg;have GE123:=ge_ HB hg;have NB101_123:=nl_ BK101 hg;have NB123_101:=ng_ BK101 hg;replace BK101:=kb_ BK101 hb;replace HB:=bs_ HB hb;clear hb hbox hg;refine hk_ hK (fun hHeld=>?_);clear hK K;refine nm_ ?_;exact norm_ pa_ (hCont (gb123) _ ⟨hHeld,(k_ BK101.out),(k_ BK123.out),GW123.out,GE123.out,NB101_123.out,NB123_101.out,(b_ HB.out)⟩)
     ·skip;refine box_step ?hg (N:=3) ?hd (cs:=#[.string (⟨#[]⟩:ByteArray),.bool false,.bool false,.bool false]) (t:=46) ?hr ?_;(case hd=>rfl);(case hg=>rfl);(case hr=>first|(go_simp;done)|(go_simp;rfl));intro gb123 hg w15 hbox hb;have BK123:=Aside0.mk (hbox);have GW123:=ge_ HB hg;have GE123:=ge_ HB hg;have NB101_123:=nl_ BK101 hg;have NB123_101:=ng_ BK101 hg;replace BK101:=kb_ BK101 hb;replace HB:=bs_ HB hb;clear hb hbox hg;refine hk_ hK (fun hHeld=>?_);clear hK K;refine nm_ ?_;refine one_ (i:=0) (N:=some 8) #[true,true,true,false,true,false] rfl rfl (by kernel_rfl) (by decide) (fun K hK=>?_);refine gs_ Tryz.func19 #[] ?_;refine mo_ (action_shapes.calls  t103 t104 t105 t106 t107 t108 t109 t110 t111 t112 t113 t114 t115 t116 t117 t118 t119 t120 t121 t122 _ A4.out) ?_;intro w16 hb;replace BK101:=kb_ BK101 hb;replace BK123:=kb_ BK123 hb;replace HB:=bs_ HB hb;(try clear hb);refine hk_ hK (fun hHeld=>?_);clear hK K;refine nm_ ?_;refine take_ (i:=3) (N:=some 11) (v:=?_) (a':=?_) #[true,true,true,true,true,false] rfl rfl (by kernel_rfl) (fun _ _ _ h=>h) (Or.inl ⟨by rfl,?_⟩) hHeld ?_ ?_;rotate_left
      ·rintro w' ⟨s0,s1,s2,s3,s4,s5,s6,s7,s8,s9,s10⟩;go_simp;with_reducible rfl
      rotate_left
      ·exact ap_
      exact norm_ pa_ (hCont (gb123) _ ⟨hHeld,(k_ BK101.out),(k_ BK123.out),GW123.out,GE123.out,NB101_123.out,NB123_101.out,(b_ HB.out)⟩)
    rintro gb123 w17 ⟨hS_,h0_,h1_,h2_,h3_,h4_,h5_,h6_⟩;have n0_:Aside0 (w17.heap[gb101]?=some (.cells #[.string a0_0,.int .i64 a0_1,.string a0_2,.string a0_3,.string a0_4,.string a0_5,.string a0_6,.string a0_7,.int .i64 a0_8,.int .i64 a0_9,.int .i64 a0_10] 25 (0,0))):=⟨h0_⟩;have n1_:Aside0 (w17.heap[gb123]?=some (.cells #[.string (⟨#[]⟩:ByteArray),.bool false,.bool false,.bool false] 46 (0,0))):=⟨h1_⟩;have n2_:Aside0 (w.heap.size≤gb123):=⟨h2_⟩;have n3_:Aside0 (w.heap.size≤gb123):=⟨h3_⟩;have n4_:Aside0 (gb101≠gb123):=⟨h4_⟩;have n5_:Aside0 (gb123≠gb101):=⟨h5_⟩;have n6_:Aside0 (Below w.heap.size w w17):=⟨h6_⟩;clear BK101;clear HB;clear h0_ h1_ h2_ h3_ h4_ h5_ h6_;have BK101:=n0_;have BK123:=n1_;have GW123:=n2_;have GE123:=n3_;have NB101_123:=n4_;have NB123_101:=n5_;have HB:=n6_;clear n0_ n1_ n2_ n3_ n4_ n5_ n6_;have hHeld:w17.cell? ⟨gb101,0,none⟩=some (.string a0_0)∧w17.cell? ⟨gb101,1,none⟩=some (.int .i64 a0_1)∧w17.cell? ⟨gb101,2,none⟩=some (.string a0_2)∧w17.cell? ⟨gb101,3,none⟩=some (.string a0_3)∧w17.cell? ⟨gb101,4,none⟩=some (.string a0_4)∧w17.cell? ⟨gb101,5,none⟩=some (.string a0_5)∧w17.cell? ⟨gb101,6,none⟩=some (.string a0_6)∧w17.cell? ⟨gb101,7,none⟩=some (.string a0_7)∧w17.cell? ⟨gb101,8,none⟩=some (.int .i64 a0_8)∧w17.cell? ⟨gb101,9,none⟩=some (.int .i64 a0_9)∧w17.cell? ⟨gb101,10,none⟩=some (.int .i64 a0_10):=hS_;refine norm_ (a':=?_) ?_ ?_;rotate_left
    ·simp only[putAll,Act.put,List.setIfInBounds_toArray,List.set_cons_zero,List.set_cons_succ]
     rfl
    refine one_ (i:=5) (N:=none) #[true,true,true,true,true,true] rfl rfl (by kernel_rfl) (by decide) (fun K hK=>?_);have hs18:=bc_ BK123 0 rfl;have hfs18:=blk_frozen BK123.out 0;have hns18_0:=NB101_123.out;have hms18_0:=NB123_101.out;have hs19:=bc_ BK123 1 rfl;have hfs19:=blk_frozen BK123.out 1;have hns19_0:=NB101_123.out;have hms19_0:=NB123_101.out;have hs20:=bc_ BK123 2 rfl;have hfs20:=blk_frozen BK123.out 2;have hns20_0:=NB101_123.out;have hms20_0:=NB123_101.out;have hs21:=bc_ BK123 3 rfl;have hfs21:=blk_frozen BK123.out 3;have hns21_0:=NB101_123.out;have hms21_0:=NB123_101.out;refine skip_ (w1:=?_) (by rfl) rfl ?_ ?_;rotate_left
    ·go_simp
     rfl
    refine hK.out _ _ ⟨((cell_far (p:=⟨gb123,_,none⟩) NB101_123.out _).trans (((cell_far (p:=⟨gb123,_,none⟩) NB101_123.out _).trans (((cell_far (p:=⟨gb123,_,none⟩) NB101_123.out _).trans (((cell_far (p:=⟨gb123,_,none⟩) NB101_123.out _).trans (hHeld.1)))))))),((cell_far (p:=⟨gb123,_,none⟩) NB101_123.out _).trans (((cell_far (p:=⟨gb123,_,none⟩) NB101_123.out _).trans (((cell_far (p:=⟨gb123,_,none⟩) NB101_123.out _).trans (((cell_far (p:=⟨gb123,_,none⟩) NB101_123.out _).trans (hHeld.2.1)))))))),((cell_far (p:=⟨gb123,_,none⟩) NB101_123.out _).trans (((cell_far (p:=⟨gb123,_,none⟩) NB101_123.out _).trans (((cell_far (p:=⟨gb123,_,none⟩) NB101_123.out _).trans (((cell_far (p:=⟨gb123,_,none⟩) NB101_123.out _).trans (hHeld.2.2.1)))))))),((cell_far (p:=⟨gb123,_,none⟩) NB101_123.out _).trans (((cell_far (p:=⟨gb123,_,none⟩) NB101_123.out _).trans (((cell_far (p:=⟨gb123,_,none⟩) NB101_123.out _).trans (((cell_far (p:=⟨gb123,_,none⟩) NB101_123.out _).trans (hHeld.2.2.2.1)))))))),((cell_far (p:=⟨gb123,_,none⟩) NB101_123.out _).trans (((cell_far (p:=⟨gb123,_,none⟩) NB101_123.out _).trans (((cell_far (p:=⟨gb123,_,none⟩) NB101_123.out _).trans (((cell_far (p:=⟨gb123,_,none⟩) NB101_123.out _).trans (hHeld.2.2.2.2.1)))))))),((cell_far (p:=⟨gb123,_,none⟩) NB101_123.out _).trans (((cell_far (p:=⟨gb123,_,none⟩) NB101_123.out _).trans (((cell_far (p:=⟨gb123,_,none⟩) NB101_123.out _).trans (((cell_far (p:=⟨gb123,_,none⟩) NB101_123.out _).trans (hHeld.2.2.2.2.2.1)))))))),((cell_far (p:=⟨gb123,_,none⟩) NB101_123.out _).trans (((cell_far (p:=⟨gb123,_,none⟩) NB101_123.out _).trans (((cell_far (p:=⟨gb123,_,none⟩) NB101_123.out _).trans (((cell_far (p:=⟨gb123,_,none⟩) NB101_123.out _).trans (hHeld.2.2.2.2.2.2.1)))))))),((cell_far (p:=⟨gb123,_,none⟩) NB101_123.out _).trans (((cell_far (p:=⟨gb123,_,none⟩) NB101_123.out _).trans (((cell_far (p:=⟨gb123,_,none⟩) NB101_123.out _).trans (((cell_far (p:=⟨gb123,_,none⟩) NB101_123.out _).trans (hHeld.2.2.2.2.2.2.2.1)))))))),((cell_far (p:=⟨gb123,_,none⟩) NB101_123.out _).trans (((cell_far (p:=⟨gb123,_,none⟩) NB101_123.out _).trans (((cell_far (p:=⟨gb123,_,none⟩) NB101_123.out _).trans (((cell_far (p:=⟨gb123,_,none⟩) NB101_123.out _).trans (hHeld.2.2.2.2.2.2.2.2.1)))))))),((cell_far (p:=⟨gb123,_,none⟩) NB101_123.out _).trans (((cell_far (p:=⟨gb123,_,none⟩) NB101_123.out _).trans (((cell_far (p:=⟨gb123,_,none⟩) NB101_123.out _).trans (((cell_far (p:=⟨gb123,_,none⟩) NB101_123.out _).trans (hHeld.2.2.2.2.2.2.2.2.2.1)))))))),((cell_far (p:=⟨gb123,_,none⟩) NB101_123.out _).trans (((cell_far (p:=⟨gb123,_,none⟩) NB101_123.out _).trans (((cell_far (p:=⟨gb123,_,none⟩) NB101_123.out _).trans (((cell_far (p:=⟨gb123,_,none⟩) NB101_123.out _).trans (hHeld.2.2.2.2.2.2.2.2.2.2))))))))⟩ (fun hHeld=>?_);clear hK K;refine done_ (by kernel_rfl) ?_
    try go_wp2
    have n0_:Aside0 (((((w17.setCell ⟨gb123,0,none⟩ (.string xa0_1_0)).setCell ⟨gb123,1,none⟩ (.bool xa0_1_1)).setCell ⟨gb123,2,none⟩ (.bool xa0_1_2)).setCell ⟨gb123,3,none⟩ (.bool xa0_1_3)).heap[gb101]?=some (.cells #[.string a0_0,.int .i64 a0_1,.string a0_2,.string a0_3,.string a0_4,.string a0_5,.string a0_6,.string a0_7,.int .i64 a0_8,.int .i64 a0_9,.int .i64 a0_10] 25 (0,0))):=⟨fr_ BK101.out⟩;have n1_:Aside0 (((((w17.setCell ⟨gb123,0,none⟩ (.string xa0_1_0)).setCell ⟨gb123,1,none⟩ (.bool xa0_1_1)).setCell ⟨gb123,2,none⟩ (.bool xa0_1_2)).setCell ⟨gb123,3,none⟩ (.bool xa0_1_3)).heap[gb123]?=some (.cells #[.string xa0_1_0,.bool xa0_1_1,.bool xa0_1_2,.bool xa0_1_3] 46 (0,0))):=⟨rp_ BK123.out⟩;have n2_:Aside0 (Below w.heap.size w ((((w17.setCell ⟨gb123,0,none⟩ (.string xa0_1_0)).setCell ⟨gb123,1,none⟩ (.bool xa0_1_1)).setCell ⟨gb123,2,none⟩ (.bool xa0_1_2)).setCell ⟨gb123,3,none⟩ (.bool xa0_1_3))):=⟨b_ HB.out⟩;(try clear BK101);(try clear BK123);(try clear HB);generalize ((((w17.setCell ⟨gb123,0,none⟩ (.string xa0_1_0)).setCell ⟨gb123,1,none⟩ (.bool xa0_1_1)).setCell ⟨gb123,2,none⟩ (.bool xa0_1_2)).setCell ⟨gb123,3,none⟩ (.bool xa0_1_3))=w22 at n0_ n1_ n2_ ⊢;have BK101:=n0_;have BK123:=n1_;have HB:=n2_;clear n0_ n1_ n2_;replace BK101:=Aside0.mk (blk_drew BK101.out);replace BK123:=Aside0.mk (blk_drew BK123.out);replace HB:=Aside0.mk (below_drew1 HB.out);refine sa_ 17 (fun w'=>w'.cell? ⟨gb123,0,none⟩=some (.string xa0_1_0)∧w'.cell? ⟨gb123,1,none⟩=some (.bool xa0_1_1)∧w'.cell? ⟨gb123,2,none⟩=some (.bool xa0_1_2)∧w'.cell? ⟨gb123,3,none⟩=some (.bool xa0_1_3)∧w'.cell? ⟨gb101,0,none⟩=some (.string a0_0)∧w'.cell? ⟨gb101,1,none⟩=some (.int .i64 a0_1)∧w'.cell? ⟨gb101,2,none⟩=some (.string a0_2)∧w'.cell? ⟨gb101,3,none⟩=some (.string a0_3)∧w'.cell? ⟨gb101,4,none⟩=some (.string a0_4)∧w'.cell? ⟨gb101,5,none⟩=some (.string a0_5)∧w'.cell? ⟨gb101,6,none⟩=some (.string a0_6)∧w'.cell? ⟨gb101,7,none⟩=some (.string a0_7)∧w'.cell? ⟨gb101,8,none⟩=some (.int .i64 a0_8)∧w'.cell? ⟨gb101,9,none⟩=some (.int .i64 a0_9)∧w'.cell? ⟨gb101,10,none⟩=some (.int .i64 a0_10)) (fun hHeld=>?_);refine with_tabW action_Print.tab4 action_Print.bits4 (fun HT_ HW_=>?_);generalize w22.drew=w23 at BK101 BK123 HB hHeld ⊢;refine pu_ 0 12 rfl rfl HT_ ?_;refine pu_ 2 14 rfl rfl HT_ ?_;refine pu_ 4 16 rfl rfl HT_ ?_;refine pu_ 6 18 rfl rfl HT_ ?_;refine pu_ 9 21 rfl rfl HT_ ?_;refine pu_ 12 24 rfl rfl HT_ ?_;refine take_ (i:=1) (N:=some 13) (v:=?_) (a':=?_) #[true,true,true,false,true,false,true,false,false,true,false,false,true,false,false,false,false] rfl rfl (take_ofW HT_.out HW_.out (by kernel_rfl)) (fun _ _ _ h=>h) (Or.inl ⟨by rfl,?_⟩) hHeld ?_ ?_;rotate_left
    ·rintro w' ⟨s0,s1,s2,s3,s4,s5,s6,s7,s8,s9,s10,s11,s12,s13,s14⟩;go_simp;with_reducible rfl
    rotate_left
    ·exact ap_
    refine take_ (i:=3) (N:=some 15) (v:=?_) (a':=?_) #[true,true,true,true,true,false,true,false,false,true,false,false,true,false,false,false,false] rfl rfl (take_ofW HT_.out HW_.out (by kernel_rfl)) (fun _ _ _ h=>h) (Or.inl ⟨by rfl,?_⟩) hHeld ?_ ?_;rotate_left
    ·rintro w' ⟨s0,s1,s2,s3,s4,s5,s6,s7,s8,s9,s10,s11,s12,s13,s14⟩;go_simp;with_reducible rfl
    rotate_left
    ·exact ap_
    refine take_ (i:=5) (N:=some 17) (v:=?_) (a':=?_) #[true,true,true,true,true,true,true,false,false,true,false,false,true,false,false,false,false] rfl rfl (take_ofW HT_.out HW_.out (by kernel_rfl)) (fun _ _ _ h=>h) (Or.inl ⟨by rfl,?_⟩) hHeld ?_ ?_;rotate_left
    ·rintro w' ⟨s0,s1,s2,s3,s4,s5,s6,s7,s8,s9,s10,s11,s12,s13,s14⟩;go_simp;with_reducible rfl
    rotate_left
    ·exact ap_
    refine take_ (i:=7) (N:=some 19) (v:=?_) (a':=?_) #[true,true,true,true,true,true,true,true,false,true,false,false,true,false,false,false,false] rfl rfl (take_ofW HT_.out HW_.out (by kernel_rfl)) (fun _ _ _ h=>h) (Or.inl ⟨by rfl,?_⟩) hHeld ?_ ?_;rotate_left
    ·rintro w' ⟨s0,s1,s2,s3,s4,s5,s6,s7,s8,s9,s10,s11,s12,s13,s14⟩;go_simp;with_reducible rfl
    rotate_left
    ·exact ap_
    refine take_ (i:=10) (N:=some 22) (v:=?_) (a':=?_) #[true,true,true,true,true,true,true,true,false,true,true,false,true,false,false,false,false] rfl rfl (take_ofW HT_.out HW_.out (by kernel_rfl)) (fun _ _ _ h=>h) (Or.inl ⟨by rfl,?_⟩) hHeld ?_ ?_;rotate_left
    ·rintro w' ⟨s0,s1,s2,s3,s4,s5,s6,s7,s8,s9,s10,s11,s12,s13,s14⟩;go_simp;with_reducible rfl
    rotate_left
    ·exact ap_
    refine take_ (i:=13) (N:=some 25) (v:=?_) (a':=?_) #[true,true,true,true,true,true,true,true,false,true,true,false,true,true,false,false,false] rfl rfl (take_ofW HT_.out HW_.out (by kernel_rfl)) (fun _ _ _ h=>h) (Or.inl ⟨by rfl,?_⟩) hHeld ?_ ?_;rotate_left
    ·rintro w' ⟨s0,s1,s2,s3,s4,s5,s6,s7,s8,s9,s10,s11,s12,s13,s14⟩;go_simp;with_reducible rfl
    rotate_left
    ·exact ap_
    refine on_ 8 (some 20) rfl rfl HT_ (fun K hK=>?_);refine gs_ Tryz.func33 #[.int .i64 a0_8] ?_;refine mo_ (strconv_Itoa.calls a0_8 t124 _ (lb_ HLD HB) A7.out) ?_;intro w24 hb;replace BK101:=kb_ BK101 hb;replace BK123:=kb_ BK123 hb;replace HB:=bs_ HB hb;(try clear hb);refine hk_ hK (fun hHeld=>?_);clear hK K;refine nm_ ?_;refine on_ 11 (some 23) rfl rfl HT_ (fun K hK=>?_);refine gs_ Tryz.func33 #[.int .i64 a0_9] ?_;refine mo_ (strconv_Itoa.calls a0_9 t125 _ (lb_ HLD HB) A8.out) ?_;intro w25 hb;replace BK101:=kb_ BK101 hb;replace BK123:=kb_ BK123 hb;replace HB:=bs_ HB hb;(try clear hb);refine hk_ hK (fun hHeld=>?_);clear hK K;refine nm_ ?_;refine on_ 14 (some 26) rfl rfl HT_ (fun K hK=>?_);refine gs_ Tryz.func33 #[.int .i64 a0_10] ?_;refine mo_ (strconv_Itoa.calls a0_10 t126 _ (lb_ HLD HB) A9.out) ?_;intro w26 hb;replace BK101:=kb_ BK101 hb;replace BK123:=kb_ BK123 hb;replace HB:=bs_ HB hb;(try clear hb);refine hk_ hK (fun hHeld=>?_);clear hK K;refine nm_ ?_;refine on_ 15 (some 27) rfl rfl HT_ (fun K hK=>?_);refine Kd.R_lit_step Kd.string _ 9 ?hg (N:=27) ?hd (xs:=([xa0_1_0,a0_0,a0_2,t124,t125,t126]:List ByteArray)) (inner:=[.string xa0_1_0,.string a0_0,.string a0_2,.string t124,.string t125,.string t126]) (ok:=fun _=>True) (okp:=fun _=>True) ?hr ?hp (fun _ hk=>hk) trivial (Below.refl _ _) (Nat.le_refl _) (by simp) ?_;(case hd=>rfl);(case hg=>rfl);(case hr=>first|(go_simp;done)|(go_simp;rfl));(case hp=>exact(Reps.one (show Kd.M Kd.string _ _ _ xa0_1_0 [.string xa0_1_0] from rfl) (Reps.one (show Kd.M Kd.string _ _ _ a0_0 [.string a0_0] from rfl) (Reps.one (show Kd.M Kd.string _ _ _ a0_2 [.string a0_2] from rfl) (Reps.one (show Kd.M Kd.string _ _ _ t124 [.string t124] from rfl) (Reps.one (show Kd.M Kd.string _ _ _ t125 [.string t125] from rfl) (Reps.one (show Kd.M Kd.string _ _ _ t126 [.string t126] from rfl) (Reps.none _ _))))))));intro v128 w27 ho28 hb hg_ hnew_;clear hg_ hnew_;(first|rw[← Ny127.out] at ho28|(simp only[Int.reduceToNat] at ho28;rw[← Ny127.out] at ho28));have HO129:=Aside0.mk (Kd.R_lower ho28 (below_size (b_ HB.out)));replace BK101:=kb_ BK101 hb;replace BK123:=kb_ BK123 hb;replace HB:=bs_ HB hb;clear hb ho28;refine hk_ hK (fun hHeld=>?_);clear hK K;refine nm_ ?_;refine pu_ 16 4 rfl rfl HT_ ?_;refine done_ (done_of HT_.out (by kernel_rfl)) ?_;have hnb29:=NB123_101.out;have hnc29:=NB101_123.out;have hcz30_0:=bc_ BK123 0 rfl;have hcz30_1:=bc_ BK123 1 rfl;have hcz30_2:=bc_ BK123 2 rfl;have hcz30_3:=bc_ BK123 3 rfl;have hfz30_0:=blk_frozen BK123.out 0;have hfz30_1:=blk_frozen BK123.out 1;have hfz30_2:=blk_frozen BK123.out 2;have hfz30_3:=blk_frozen BK123.out 3
    go_upto_if 29 with (fail)
    go_cut [4] (fun v4 wc=>∃ (kq:Nat) (x4_9:List ByteArray),Aside0 (action_Print.j0 kq x4_9 a0_0 a0_1 a0_2 a0_3 a0_4 a0_5 a0_6 a0_7 a0_8 a0_9 a0_10 xa0_1_0 xa0_1_1 xa0_1_2 xa0_1_3=some r)∧Aside0 (kq≤k)∧Aside0 (Kd.R Kd.string 9 wc w.heap.size (fun _=>True) v4 x4_9)∧Aside0 (wc.heap[gb101]?=some (.cells #[.string a0_0,.int .i64 a0_1,.string a0_2,.string a0_3,.string a0_4,.string a0_5,.string a0_6,.string a0_7,.int .i64 a0_8,.int .i64 a0_9,.int .i64 a0_10] 25 (0,0)))∧Aside0 (wc.heap[gb123]?=some (.cells #[.string xa0_1_0,.bool xa0_1_1,.bool xa0_1_2,.bool xa0_1_3] 46 (0,0)))∧Aside0 (Below w.heap.size w wc))
    case first =>
     have H:=HC10.out;clear HC10;by_cases c31:xa0_1_1=true
     ·subst c31;rw[if_pos rfl] at H;by_cases c32:y127.length<8796093022208
      ·rw[if_pos c32] at H;have LMc32:=Aside0.mk c32;clear c32;obtain⟨y130,hy130⟩:∃ y_:List ByteArray,y_ = (y127 ++ [a0_3]):=⟨_,rfl⟩
       replace H:(action_Print.j0 k y130 a0_0 a0_1 a0_2 a0_3 a0_4 a0_5 a0_6 a0_7 a0_8 a0_9 a0_10 xa0_1_0 true xa0_1_2 xa0_1_3)=some r:=by first|(rw[hy130];with_reducible exact H)|(have H2_:=(Option.bind_some _ _).symm.trans H;rw[hy130];with_reducible exact H2_)|(have H2_:=(Option.bind_some _ _).symm.trans H;with_reducible exact H2_)|with_reducible exact H|(rw[hy130];exact H)|exact H
       have Ny130:=Aside0.mk hy130;clear hy130;have H':=Aside0.mk H;clear H;have hnb33:=NB101_123.out;have hnc33:=NB123_101.out;have hcz34_0:=bc_ BK101 0 rfl;have hcz34_1:=bc_ BK101 1 rfl;have hcz34_2:=bc_ BK101 2 rfl;have hcz34_3:=bc_ BK101 3 rfl;have hcz34_4:=bc_ BK101 4 rfl;have hcz34_5:=bc_ BK101 5 rfl;have hcz34_6:=bc_ BK101 6 rfl;have hcz34_7:=bc_ BK101 7 rfl;have hcz34_8:=bc_ BK101 8 rfl;have hcz34_9:=bc_ BK101 9 rfl;have hcz34_10:=bc_ BK101 10 rfl;have hfz34_0:=blk_frozen BK101.out 0;have hfz34_1:=blk_frozen BK101.out 1;have hfz34_2:=blk_frozen BK101.out 2;have hfz34_3:=blk_frozen BK101.out 3;have hfz34_4:=blk_frozen BK101.out 4;have hfz34_5:=blk_frozen BK101.out 5;have hfz34_6:=blk_frozen BK101.out 6;have hfz34_7:=blk_frozen BK101.out 7;have hfz34_8:=blk_frozen BK101.out 8;have hfz34_9:=blk_frozen BK101.out 9;have hfz34_10:=blk_frozen BK101.out 10
       go_wp2_with (first|((with_reducible refine gate_builtin (b:=.append) (xs:=#[.tmp 30,.tmp 33]) rfl ?_);at_builtin;refine Kd.R_append Kd.string (w0:=w) w.heap.size rfl (.tmp 30) (.tmp 33) 40 9 (.string ⟨#[]⟩) 16 rfl Tryz.underlying40 info9 rfl (by decide) (by omega) v128 y127 a0_3 [.string a0_3] (fun _=>True) (fun _=>False) rfl rfl ?aP (fun _ hk=>hk.elim) ?aF ?aO ?aB ?aS ?aL ?_;(case aP=>exact rfl);(case aB=>exact(b_ HB.out));(case aF=>exact(fun _ _=>trivial));(case aO=>exact(w_ HO129.out));(case aS=>exact(below_size (b_ HB.out)));(case aL=>have:=LMc32.out;omega);intro v131 w35 ho hb hg hat;rw[← Ny130.out] at ho;have HO132:=Aside0.mk (ho);replace BK101:=Aside0.mk (blk_grown (g:=gb101) (o:=.cells #[.string a0_0,.int .i64 a0_1,.string a0_2,.string a0_3,.string a0_4,.string a0_5,.string a0_6,.string a0_7,.int .i64 a0_8,.int .i64 a0_9,.int .i64 a0_10] 25 (0,0)) (k_ BK101.out) hg (Kd.R_ne HO129.out BK101.out (by decide)));replace BK123:=Aside0.mk (blk_grown (g:=gb123) (o:=.cells #[.string xa0_1_0,.bool true,.bool xa0_1_2,.bool xa0_1_3] 46 (0,0)) (k_ BK123.out) hg (Kd.R_ne HO129.out BK123.out (by decide)));replace HB:=Aside0.mk (hb);clear HO129;clear ho hb hg hat))
       go_meet
       case rel=>exact⟨_,(y130),H',⟨by first|omega|exact Nat.le_refl _⟩,⟨by(with_reducible repeat(first|apply Kd.R_alloc|apply Kd.R_drewN|apply Kd.R_drew));exact HO132.out⟩,⟨k_ BK101.out⟩,⟨k_ BK123.out⟩,⟨b_ HB.out⟩⟩
      ·rw[if_neg c32] at H;exact absurd H (by simp)
     ·replace c31:=Bool.eq_false_iff.mpr c31;subst c31;rw[if_neg nf_] at H;have H':=Aside0.mk H;clear H;go_wp2
      go_meet
      case rel=>exact⟨_,(y127),H',⟨by first|omega|exact Nat.le_refl _⟩,⟨by(with_reducible repeat(first|apply Kd.R_alloc|apply Kd.R_drewN|apply Kd.R_drew));exact HO129.out⟩,⟨k_ BK101.out⟩,⟨k_ BK123.out⟩,⟨b_ HB.out⟩⟩
    case rest =>
     clear HC10;(try clear c1);(try clear c2);(try clear p2);(try clear c3);(try clear c5);(try clear c5b0);(try clear c5b1);(try clear c6);(try clear c6b0);(try clear c6b1);(try clear c11);(try clear c13);(try clear c19);(try clear c29);(try clear c31);(try clear c31b0);(try clear c32);(try clear c33);(try clear hcz12_0);(try clear hcz12_1);(try clear hcz12_10);(try clear hcz12_2);(try clear hcz12_3);(try clear hcz12_4);(try clear hcz12_5);(try clear hcz12_6);(try clear hcz12_7);(try clear hcz12_8);(try clear hcz12_9);(try clear hcz30_0);(try clear hcz30_1);(try clear hcz30_2);(try clear hcz30_3);(try clear hcz34_0);(try clear hcz34_1);(try clear hcz34_10);(try clear hcz34_2);(try clear hcz34_3);(try clear hcz34_4);(try clear hcz34_5);(try clear hcz34_6);(try clear hcz34_7);(try clear hcz34_8);(try clear hcz34_9);(try clear hfz12_0);(try clear hfz12_1);(try clear hfz12_10);(try clear hfz12_2);(try clear hfz12_3);(try clear hfz12_4);(try clear hfz12_5);(try clear hfz12_6);(try clear hfz12_7);(try clear hfz12_8);(try clear hfz12_9);(try clear hfz30_0);(try clear hfz30_1);(try clear hfz30_2);(try clear hfz30_3);(try clear hfz34_0);(try clear hfz34_1);(try clear hfz34_10);(try clear hfz34_2);(try clear hfz34_3);(try clear hfz34_4);(try clear hfz34_5);(try clear hfz34_6);(try clear hfz34_7);(try clear hfz34_8);(try clear hfz34_9);obtain⟨kq,x4_9,HA,HJ9,HO_4,BK101,BK123,HB⟩:=hcut
     cases kq with
     | zero=>exact absurd HA.out (by simp[action_Print.j0])
     | succ kj9 =>
      have H:=HA.out;clear HA;simp only[action_Print.j0] at H;have HC36:=Aside0.mk H;clear H;have hnb37:=NB123_101.out;have hnc37:=NB101_123.out;have hcz38_0:=bc_ BK123 0 rfl;have hcz38_1:=bc_ BK123 1 rfl;have hcz38_2:=bc_ BK123 2 rfl;have hcz38_3:=bc_ BK123 3 rfl;have hfz38_0:=blk_frozen BK123.out 0;have hfz38_1:=blk_frozen BK123.out 1;have hfz38_2:=blk_frozen BK123.out 2;have hfz38_3:=blk_frozen BK123.out 3
      go_upto_if 36 with (fail)
      go_cut [4] (fun v4 wc=>∃ (kq:Nat) (x4_35:List ByteArray),Aside0 (action_Print.j1 kq x4_35 a0_0 a0_1 a0_2 a0_3 a0_4 a0_5 a0_6 a0_7 a0_8 a0_9 a0_10 xa0_1_0 xa0_1_1 xa0_1_2 xa0_1_3=some r)∧Aside0 (kq≤kj9)∧Aside0 (Kd.R Kd.string 9 wc w.heap.size (fun _=>True) v4 x4_35)∧Aside0 (wc.heap[gb101]?=some (.cells #[.string a0_0,.int .i64 a0_1,.string a0_2,.string a0_3,.string a0_4,.string a0_5,.string a0_6,.string a0_7,.int .i64 a0_8,.int .i64 a0_9,.int .i64 a0_10] 25 (0,0)))∧Aside0 (wc.heap[gb123]?=some (.cells #[.string xa0_1_0,.bool xa0_1_1,.bool xa0_1_2,.bool xa0_1_3] 46 (0,0)))∧Aside0 (Below w.heap.size w wc))
      case first =>
       have H:=HC36.out;clear HC36;by_cases c39:xa0_1_2=true
       ·subst c39;rw[if_pos rfl] at H;obtain⟨t133,A40,H⟩:=bi_ H;by_cases c41:x4_9.length<8796093022208
        ·rw[if_pos c41] at H;have LMc41:=Aside0.mk c41;clear c41;obtain⟨y134,hy134⟩:∃ y_:List ByteArray,y_ = (x4_9 ++ [t133]):=⟨_,rfl⟩
         replace H:(action_Print.j1 kj9 y134 a0_0 a0_1 a0_2 a0_3 a0_4 a0_5 a0_6 a0_7 a0_8 a0_9 a0_10 xa0_1_0 xa0_1_1 true xa0_1_3)=some r:=by first|(rw[hy134];with_reducible exact H)|(have H2_:=(Option.bind_some _ _).symm.trans H;rw[hy134];with_reducible exact H2_)|(have H2_:=(Option.bind_some _ _).symm.trans H;with_reducible exact H2_)|with_reducible exact H|(rw[hy134];exact H)|exact H
         have Ny134:=Aside0.mk hy134;clear hy134;have H':=Aside0.mk H;clear H;have hnb42:=NB101_123.out;have hnc42:=NB123_101.out;have hcz43_0:=bc_ BK101 0 rfl;have hcz43_1:=bc_ BK101 1 rfl;have hcz43_2:=bc_ BK101 2 rfl;have hcz43_3:=bc_ BK101 3 rfl;have hcz43_4:=bc_ BK101 4 rfl;have hcz43_5:=bc_ BK101 5 rfl;have hcz43_6:=bc_ BK101 6 rfl;have hcz43_7:=bc_ BK101 7 rfl;have hcz43_8:=bc_ BK101 8 rfl;have hcz43_9:=bc_ BK101 9 rfl;have hcz43_10:=bc_ BK101 10 rfl;have hfz43_0:=blk_frozen BK101.out 0;have hfz43_1:=blk_frozen BK101.out 1;have hfz43_2:=blk_frozen BK101.out 2;have hfz43_3:=blk_frozen BK101.out 3;have hfz43_4:=blk_frozen BK101.out 4;have hfz43_5:=blk_frozen BK101.out 5;have hfz43_6:=blk_frozen BK101.out 6;have hfz43_7:=blk_frozen BK101.out 7;have hfz43_8:=blk_frozen BK101.out 8;have hfz43_9:=blk_frozen BK101.out 9;have hfz43_10:=blk_frozen BK101.out 10
         go_wp2_with (first|(refine gl_ 40 Tryz.func34 #[.agg #[.string a0_4,.string a0_5]] ?_;refine mo_ (decimal_Print.calls a0_4 a0_5 t133 _ (lb_ HLD HB) A40.out) ?_;intro w44 hb;replace HO_4:=Aside0.mk (Kd.R_below (w_ HO_4.out) hb);replace BK101:=kb_ BK101 hb;replace BK123:=kb_ BK123 hb;replace HB:=bs_ HB hb;(try clear hb);(try clear hb2);(try clear hk);(try clear hi))|((with_reducible refine gate_builtin (b:=.append) (xs:=#[.tmp 37,.tmp 41]) rfl ?_);at_builtin;refine Kd.R_append Kd.string (w0:=w) w.heap.size rfl (.tmp 37) (.tmp 41) 40 9 (.string ⟨#[]⟩) 16 rfl Tryz.underlying40 info9 rfl (by decide) (by omega) u4 x4_9 t133 [.string t133] (fun _=>True) (fun _=>False) rfl rfl ?aP (fun _ hk=>hk.elim) ?aF ?aO ?aB ?aS ?aL ?_;(case aP=>exact rfl);(case aB=>exact(b_ HB.out));(case aF=>exact(fun _ _=>trivial));(case aO=>exact(w_ HO_4.out));(case aS=>exact(below_size (b_ HB.out)));(case aL=>have:=LMc41.out;omega);intro v135 w45 ho hb hg hat;rw[← Ny134.out] at ho;have HO136:=Aside0.mk (ho);replace BK101:=Aside0.mk (blk_grown (g:=gb101) (o:=.cells #[.string a0_0,.int .i64 a0_1,.string a0_2,.string a0_3,.string a0_4,.string a0_5,.string a0_6,.string a0_7,.int .i64 a0_8,.int .i64 a0_9,.int .i64 a0_10] 25 (0,0)) (k_ BK101.out) hg (Kd.R_ne HO_4.out BK101.out (by decide)));replace BK123:=Aside0.mk (blk_grown (g:=gb123) (o:=.cells #[.string xa0_1_0,.bool xa0_1_1,.bool true,.bool xa0_1_3] 46 (0,0)) (k_ BK123.out) hg (Kd.R_ne HO_4.out BK123.out (by decide)));replace HB:=Aside0.mk (hb);clear HO_4;clear ho hb hg hat))
         go_meet
         case rel=>exact⟨_,(y134),H',⟨by have:=HJ9.out;first|omega|exact Nat.le_refl _⟩,⟨by(with_reducible repeat(first|apply Kd.R_alloc|apply Kd.R_drewN|apply Kd.R_drew));exact HO136.out⟩,⟨k_ BK101.out⟩,⟨k_ BK123.out⟩,⟨b_ HB.out⟩⟩
        ·rw[if_neg c41] at H;exact absurd H (by simp)
       ·replace c39:=Bool.eq_false_iff.mpr c39;subst c39;rw[if_neg nf_] at H;have H':=Aside0.mk H;clear H;go_wp2
        go_meet
        case rel=>exact⟨_,(x4_9),H',⟨by have:=HJ9.out;first|omega|exact Nat.le_refl _⟩,⟨by(with_reducible repeat(first|apply Kd.R_alloc|apply Kd.R_drewN|apply Kd.R_drew));exact HO_4.out⟩,⟨k_ BK101.out⟩,⟨k_ BK123.out⟩,⟨b_ HB.out⟩⟩
      case rest =>
       clear HC36;(try clear c1);(try clear c2);(try clear p2);(try clear c3);(try clear c4);(try clear c5);(try clear c5b0);(try clear c5b1);(try clear c6);(try clear c6b0);(try clear c6b1);(try clear c11);(try clear c13);(try clear c19);(try clear c29);(try clear c31);(try clear c31b0);(try clear c32);(try clear c33);(try clear c34);(try clear c37);(try clear c39);(try clear c39b0);(try clear c41);(try clear c42);(try clear hcz12_0);(try clear hcz12_1);(try clear hcz12_10);(try clear hcz12_2);(try clear hcz12_3);(try clear hcz12_4);(try clear hcz12_5);(try clear hcz12_6);(try clear hcz12_7);(try clear hcz12_8);(try clear hcz12_9);(try clear hcz30_0);(try clear hcz30_1);(try clear hcz30_2);(try clear hcz30_3);(try clear hcz34_0);(try clear hcz34_1);(try clear hcz34_10);(try clear hcz34_2);(try clear hcz34_3);(try clear hcz34_4);(try clear hcz34_5);(try clear hcz34_6);(try clear hcz34_7);(try clear hcz34_8);(try clear hcz34_9);(try clear hcz38_0);(try clear hcz38_1);(try clear hcz38_2);(try clear hcz38_3);(try clear hcz43_0);(try clear hcz43_1);(try clear hcz43_10);(try clear hcz43_2);(try clear hcz43_3);(try clear hcz43_4);(try clear hcz43_5);(try clear hcz43_6);(try clear hcz43_7);(try clear hcz43_8);(try clear hcz43_9);(try clear hfz12_0);(try clear hfz12_1);(try clear hfz12_10);(try clear hfz12_2);(try clear hfz12_3);(try clear hfz12_4);(try clear hfz12_5);(try clear hfz12_6);(try clear hfz12_7);(try clear hfz12_8);(try clear hfz12_9);(try clear hfz30_0);(try clear hfz30_1);(try clear hfz30_2);(try clear hfz30_3);(try clear hfz34_0);(try clear hfz34_1);(try clear hfz34_10);(try clear hfz34_2);(try clear hfz34_3);(try clear hfz34_4);(try clear hfz34_5);(try clear hfz34_6);(try clear hfz34_7);(try clear hfz34_8);(try clear hfz34_9);(try clear hfz38_0);(try clear hfz38_1);(try clear hfz38_2);(try clear hfz38_3);(try clear hfz43_0);(try clear hfz43_1);(try clear hfz43_10);(try clear hfz43_2);(try clear hfz43_3);(try clear hfz43_4);(try clear hfz43_5);(try clear hfz43_6);(try clear hfz43_7);(try clear hfz43_8);(try clear hfz43_9);(try clear p2);obtain⟨kq,x4_35,HA,HJ35,HO_4,BK101,BK123,HB⟩:=hcut
       cases kq with
       | zero=>exact absurd HA.out (by simp[action_Print.j1])
       | succ kj35 =>
        have H:=HA.out;clear HA;simp only[action_Print.j1] at H;by_cases c46:xa0_1_3=true
        ·subst c46;rw[if_pos rfl] at H;obtain⟨t137,A47,H⟩:=bi_ H;by_cases c48:x4_35.length<8796093022208
         ·rw[if_pos c48] at H;have LMc48:=Aside0.mk c48;clear c48;obtain⟨y138,hy138⟩:∃ y_:List ByteArray,y_ = (x4_35 ++ [t137]):=⟨_,rfl⟩
          replace H:((strings_Join.f y138 (⟨#[32]⟩:ByteArray)).bind fun t141=>(some t141))=some r:=by first|(rw[hy138];with_reducible exact H)|(have H2_:=(Option.bind_some _ _).symm.trans H;rw[hy138];with_reducible exact H2_)|(have H2_:=(Option.bind_some _ _).symm.trans H;with_reducible exact H2_)|with_reducible exact H|(rw[hy138];exact H)|exact H
          have Ny138:=Aside0.mk hy138;clear hy138;obtain⟨t141,A49,H⟩:=bi_ H;obtain rfl:=Option.some.inj H;have hnb50:=NB123_101.out;have hnc50:=NB101_123.out;have hcz51_0:=bc_ BK123 0 rfl;have hcz51_1:=bc_ BK123 1 rfl;have hcz51_2:=bc_ BK123 2 rfl;have hcz51_3:=bc_ BK123 3 rfl;have hfz51_0:=blk_frozen BK123.out 0;have hfz51_1:=blk_frozen BK123.out 1;have hfz51_2:=blk_frozen BK123.out 2;have hfz51_3:=blk_frozen BK123.out 3;have hcz52_0:=bc_ BK101 0 rfl;have hcz52_1:=bc_ BK101 1 rfl;have hcz52_2:=bc_ BK101 2 rfl;have hcz52_3:=bc_ BK101 3 rfl;have hcz52_4:=bc_ BK101 4 rfl;have hcz52_5:=bc_ BK101 5 rfl;have hcz52_6:=bc_ BK101 6 rfl;have hcz52_7:=bc_ BK101 7 rfl;have hcz52_8:=bc_ BK101 8 rfl;have hcz52_9:=bc_ BK101 9 rfl;have hcz52_10:=bc_ BK101 10 rfl;have hfz52_0:=blk_frozen BK101.out 0;have hfz52_1:=blk_frozen BK101.out 1;have hfz52_2:=blk_frozen BK101.out 2;have hfz52_3:=blk_frozen BK101.out 3;have hfz52_4:=blk_frozen BK101.out 4;have hfz52_5:=blk_frozen BK101.out 5;have hfz52_6:=blk_frozen BK101.out 6;have hfz52_7:=blk_frozen BK101.out 7;have hfz52_8:=blk_frozen BK101.out 8;have hfz52_9:=blk_frozen BK101.out 9;have hfz52_10:=blk_frozen BK101.out 10
          go_wp2_with (first|(refine gl_ 48 Tryz.func34 #[.agg #[.string a0_6,.string a0_7]] ?_;refine mo_ (decimal_Print.calls a0_6 a0_7 t137 _ (lb_ HLD HB) A47.out) ?_;intro w53 hb;replace HO_4:=Aside0.mk (Kd.R_below (w_ HO_4.out) hb);replace BK101:=kb_ BK101 hb;replace BK123:=kb_ BK123 hb;replace HB:=bs_ HB hb;(try clear hb);(try clear hb2);(try clear hk);(try clear hi))|((with_reducible refine gate_builtin (b:=.append) (xs:=#[.tmp 45,.tmp 49]) rfl ?_);at_builtin;refine Kd.R_append Kd.string (w0:=w) w.heap.size rfl (.tmp 45) (.tmp 49) 40 9 (.string ⟨#[]⟩) 16 rfl Tryz.underlying40 info9 rfl (by decide) (by omega) u4 x4_35 t137 [.string t137] (fun _=>True) (fun _=>False) rfl rfl ?aP (fun _ hk=>hk.elim) ?aF ?aO ?aB ?aS ?aL ?_;(case aP=>exact rfl);(case aB=>exact(b_ HB.out));(case aF=>exact(fun _ _=>trivial));(case aO=>exact(w_ HO_4.out));(case aS=>exact(below_size (b_ HB.out)));(case aL=>have:=LMc48.out;omega);intro v139 w54 ho hb hg hat;rw[← Ny138.out] at ho;have HO140:=Aside0.mk (ho);replace BK101:=Aside0.mk (blk_grown (g:=gb101) (o:=.cells #[.string a0_0,.int .i64 a0_1,.string a0_2,.string a0_3,.string a0_4,.string a0_5,.string a0_6,.string a0_7,.int .i64 a0_8,.int .i64 a0_9,.int .i64 a0_10] 25 (0,0)) (k_ BK101.out) hg (Kd.R_ne HO_4.out BK101.out (by decide)));replace BK123:=Aside0.mk (blk_grown (g:=gb123) (o:=.cells #[.string xa0_1_0,.bool xa0_1_1,.bool xa0_1_2,.bool true] 46 (0,0)) (k_ BK123.out) hg (Kd.R_ne HO_4.out BK123.out (by decide)));replace HB:=Aside0.mk (hb);clear HO_4;clear ho hb hg hat;obtain⟨Ao55,co55,eo55⟩:=Kd.R_slice HO140.out;subst eo55)|(refine gl_ 52 Tryz.func35 #[.slice Ao55 y138.length co55,.string (⟨#[32]⟩:ByteArray)] ?_;(with_reducible refine(strings_Join.callsR (e:=9) (base:=w.heap.size) (ok:=fun _=>True) _ _ y138 (⟨#[32]⟩:ByteArray) t141 _ ?side1 A49.out).mono ?_);(case side1=>(with_reducible repeat(first|apply Kd.R_alloc|apply Kd.R_drewN|apply Kd.R_drew));exact HO140.out);rintro e w56 ⟨rfl,hb⟩;refine⟨_,rfl,?_⟩;replace HO140:=Aside0.mk (Kd.R_below (w_ HO140.out) hb);replace BK101:=kb_ BK101 hb;replace BK123:=kb_ BK123 hb;replace HB:=bs_ HB hb;(try clear hb);(try clear hb2);(try clear hk);(try clear hi)))
          go_ret
          exact⟨er_,b_ HB.out⟩
         ·rw[if_neg c48] at H;exact absurd H (by simp)
        ·replace c46:=Bool.eq_false_iff.mpr c46;subst c46;rw[if_neg nf_] at H;obtain⟨t142,A57,H⟩:=bi_ H;obtain rfl:=Option.some.inj H;have hnb58:=NB123_101.out;have hnc58:=NB101_123.out;have hcz59_0:=bc_ BK123 0 rfl;have hcz59_1:=bc_ BK123 1 rfl;have hcz59_2:=bc_ BK123 2 rfl;have hcz59_3:=bc_ BK123 3 rfl;have hfz59_0:=blk_frozen BK123.out 0;have hfz59_1:=blk_frozen BK123.out 1;have hfz59_2:=blk_frozen BK123.out 2;have hfz59_3:=blk_frozen BK123.out 3;obtain⟨Ao60,co60,eo60⟩:=Kd.R_slice HO_4.out;subst eo60
         go_wp2_with (first|(refine gl_ 52 Tryz.func35 #[.slice Ao60 x4_35.length co60,.string (⟨#[32]⟩:ByteArray)] ?_;(with_reducible refine(strings_Join.callsR (e:=9) (base:=w.heap.size) (ok:=fun _=>True) _ _ x4_35 (⟨#[32]⟩:ByteArray) t142 _ ?side1 A57.out).mono ?_);(case side1=>(with_reducible repeat(first|apply Kd.R_alloc|apply Kd.R_drewN|apply Kd.R_drew));exact HO_4.out);rintro e w61 ⟨rfl,hb⟩;refine⟨_,rfl,?_⟩;replace HO_4:=Aside0.mk (Kd.R_below (w_ HO_4.out) hb);replace BK101:=kb_ BK101 hb;replace BK123:=kb_ BK123 hb;replace HB:=bs_ HB hb;(try clear hb);(try clear hb2);(try clear hk);(try clear hi)))
         go_ret
         exact⟨er_,b_ HB.out⟩
   ·rw[if_neg c6] at H;exact absurd H (by simp)
  ·rw[if_neg c5] at H;exact absurd H (by simp)
 ·replace c3:=Bool.eq_false_iff.mpr c3;subst c3;rw[if_neg nf_] at H;obtain rfl:=Option.some.inj H;go_enter Tryz.func13,Tryz.ntmps13
  go_wp2_with (first|((with_reducible refine gate_dst (N:=1) rfl ?_);refine be_ 1 #[.string a0_0,.int .i64 a0_1,.string a0_2,.string a0_3,.string a0_4,.string a0_5,.string a0_6,.string a0_7,.int .i64 a0_8,.int .i64 a0_9,.int .i64 a0_10] 25 ?_;intro gb101 hg w62 hbox hb;have BK101:=Aside0.mk (hbox);have GW101:=ge_ HB hg;have GE101:=ge_ HB hg;replace HB:=bs_ HB hb;clear hb hbox hg;have hcz63_0:=bc_ BK101 0 rfl;have hcz63_1:=bc_ BK101 1 rfl;have hcz63_2:=bc_ BK101 2 rfl;have hcz63_3:=bc_ BK101 3 rfl;have hcz63_4:=bc_ BK101 4 rfl;have hcz63_5:=bc_ BK101 5 rfl;have hcz63_6:=bc_ BK101 6 rfl;have hcz63_7:=bc_ BK101 7 rfl;have hcz63_8:=bc_ BK101 8 rfl;have hcz63_9:=bc_ BK101 9 rfl;have hcz63_10:=bc_ BK101 10 rfl;have hfz63_0:=blk_frozen BK101.out 0;have hfz63_1:=blk_frozen BK101.out 1;have hfz63_2:=blk_frozen BK101.out 2;have hfz63_3:=blk_frozen BK101.out 3;have hfz63_4:=blk_frozen BK101.out 4;have hfz63_5:=blk_frozen BK101.out 5;have hfz63_6:=blk_frozen BK101.out 6;have hfz63_7:=blk_frozen BK101.out 7;have hfz63_8:=blk_frozen BK101.out 8;have hfz63_9:=blk_frozen BK101.out 9;have hfz63_10:=blk_frozen BK101.out 10)|(refine gl_ 6 Tryz.func11 #[.agg #[.string a0_0,.int .i64 a0_1,.string a0_2,.string a0_3,.string a0_4,.string a0_5,.string a0_6,.string a0_7,.int .i64 a0_8,.int .i64 a0_9,.int .i64 a0_10]] ?_;refine mo_ (action_May.calls k a0_0 a0_1 a0_2 a0_3 a0_4 a0_5 a0_6 a0_7 a0_8 a0_9 a0_10 false _ (lb_ HLD HB) A2.out) ?_;intro w64 hb;replace BK101:=kb_ BK101 hb;replace HB:=bs_ HB hb;(try clear hb);(try clear hb2);(try clear hk);(try clear hi)))
  go_ret
  exact⟨er_,b_ HB.out⟩
end Go.Proofs.YtoghmeffpgbcfaaGreatDoor.Po
end

section
namespace Go.Proofs.YtoghmeffpgbcfaaGreatDoor.Po
open Go.RowKit Go.Proofs.YtoghmeffpgbcfaaGreatDoor.Pl Go.Proofs.YtoghmeffpgbcfaaGreatDoorW.PrintWords Go.Proofs.YtoghmeffpgbcfaaGreatDoorW.PrintLast Go.Proofs.YtoghmeffpgbcfaaGreatDoorW.PrintMore
end Go.Proofs.YtoghmeffpgbcfaaGreatDoor.Po
end

section
namespace Go.Proofs.YtoghmeffpgbcfaaGreatDoor
def alnum:List UInt8:=[97,98,99,100,101,102,103,104,105,106,107,108,109,110,111,112,113,114,115,116,117,118,119,120,121,122,48,49,50,51,52,53,54,55,56,57]
theorem alnum_has (c:UInt8):alnum.contains c=nameC c:=by
 have h:∀ n:Fin 256,alnum.contains (UInt8.ofNat n.val)=nameC (UInt8.ofNat n.val):=by decide +kernel
 have:=h ⟨c.toNat,c.toNat_lt⟩
 rwa [show UInt8.ofNat (⟨c.toNat,c.toNat_lt⟩:Fin 256).val=c from UInt8.ofNat_toNat] at this
theorem trim_name (l:List UInt8):Lib.trimS l alnum=[]↔l.all nameC=true:=by
 have e:(fun c=>alnum.contains c)=nameC:=funext alnum_has
 unfold Lib.trimS Lib.trimLeftS Lib.trimRightS
 rw[e,dropWhile_nil]
 constructor
 ·intro h
  by_cases hn:l.reverse.dropWhile nameC=[]
  ·rw[dropWhile_nil,List.all_reverse] at hn
   exact hn
  ·exfalso
   rw[List.all_reverse] at h
   have h1:=List.head_dropWhile_not nameC hn
   have h2:=List.all_eq_true.1 h _ (List.head_mem hn)
   rw[h2] at h1
   exact absurd h1 (by decide)
 ·intro h
  have:l.reverse.dropWhile nameC=[]:=by rw[dropWhile_nil,List.all_reverse];exact h
  rw[this]
  rfl
theorem bang_prefix (l:List UInt8):Lib.trimPrefix l [33]=bang l:=by
 unfold Lib.trimPrefix bang
 cases l with
 | nil=>rfl
 | cons c r =>
  by_cases h:c=33
  ·subst h
   rfl
  ·have hp:Lib.hasPrefix (c :: r) [33]=false:=by
    have hq:(c == 33)=false:=beq_eq_false_iff_ne.2 h
    have hq':((33:UInt8) == c)=false:=beq_eq_false_iff_ne.2 (fun z=>h z.symm)
    first|(unfold Lib.hasPrefix;simp[List.isPrefixOf,hq'];done)|(unfold Lib.hasPrefix;rw[List.isPrefixOf];rw[hq'];rfl)|(show (_&&_)=false;rw[hq];rfl)|(show (_&&_)=false;rw[hq'];rfl)
   rw[hp,if_neg (by decide)]
   split
   ·rename_i e
    rw[List.cons.injEq] at e
    exact absurd e.1 h
   ·rfl
theorem name_f {s:ByteArray} (h:s.size≤1000000):Pj.book_Name.f s=some (nameL s.data.toList):=by
 unfold Pj.book_Name.f strings_TrimPrefix.f
 have e33:(⟨#[33]⟩:ByteArray).data.toList=[33]:=rfl
 rw[Option.bind_some,ByteArray.toList_eq,e33,bang_prefix]
 unfold nameL
 by_cases h0:s.data.toList=[]
 ·rw[if_pos h0,decide_eq_false (fun z=>z h0)]
  rfl
 ·rw[if_neg h0,decide_eq_true h0,Bool.true_and]
  by_cases h1:(s.size:Int)≤20
  ·have hb:(⟨(bang s.data.toList).toArray⟩:ByteArray).size≤s.size:=by
    rw[size_len,size_len]
    show (bang s.data.toList).length≤_
    unfold bang
    split
    ·rename_i e
     rw[e]
     simp
    ·exact Nat.le_refl _
   have e:strings_Trim.f ⟨(bang s.data.toList).toArray⟩ (⟨#[97,98,99,100,101,102,103,104,105,106,107,108,109,110,111,112,113,114,115,116,117,118,119,120,121,122,48,49,50,51,52,53,54,55,56,57]⟩:ByteArray)=some ⟨(Lib.trimS (bang s.data.toList) alnum).toArray⟩:=by
    unfold strings_Trim.f
    rw[if_pos]
    ·rfl
    ·rw[decide_eq_true (show (⟨(bang s.data.toList).toArray⟩:ByteArray).size≤9223372036854775807 by omega)]
     rfl
   rw[if_pos h1,e,Option.bind_some,ByteArray.toList_eq,decide_eq_true (show s.data.toList.length≤20 by rw[← size_len];omega),Bool.true_and]
   show some (Lib.trimS (bang s.data.toList) alnum == []) = _
   congr 1
   by_cases ha:(bang s.data.toList).all nameC=true
   ·rw[(trim_name _).2 ha,ha]
    rfl
   ·rw[beq_eq_false_iff_ne.2 (fun z=>ha ((trim_name _).1 z))]
    exact((Bool.not_eq_true _).mp ha).symm
  ·rw[if_neg h1,decide_eq_false (show ¬ s.data.toList.length≤20 by rw[← size_len];omega)]
   rfl
theorem asset_f {s:ByteArray} (h:s.size≤1000000):Pj.action_asset.f s=some (assetL s.data.toList):=by
 unfold Pj.action_asset.f
 rw[name_f h,Option.bind_some]
 unfold assetL
 by_cases hn:nameL s.data.toList=true
 ·rw[if_pos hn,hn,Bool.true_and]
  have hne:s.data.toList≠[]:=by
   unfold nameL at hn
   rw[Bool.and_eq_true,decide_eq_true_eq] at hn
   exact hn.1
  have hs:=size_len s
  obtain⟨c,hc,hb⟩:=bt_get s 0 (by have:=List.length_pos_iff.2 hne;omega)
  have hb':bt s 0=(c.toNat:Int):=hb
  have hp:(0:Int)<(s.size:Int):=by have:=List.length_pos_iff.2 hne;omega
  rw[if_pos hp,hb']
  have hl:lowL s.data.toList=decide (97≤c.toNat∧c.toNat≤122):=by
   cases hl:s.data.toList with
   | nil=>exact absurd hl hne
   | cons x r =>
    rw[hl] at hc
    rw[show x=c from Option.some.inj hc]
    rfl
  rw[hl]
  by_cases h1:(c.toNat:Int)≥97
  ·rw[if_pos h1]
   by_cases h2:(c.toNat:Int)≤122
   ·rw[if_pos h2,decide_eq_true (show 97≤c.toNat∧c.toNat≤122 by omega),Bool.true_and,ByteArray.toList_eq]
    congr 1
    by_cases h3:s.data.toList=cashL
    ·rw[h3]
     rfl
    ·rw[decide_eq_true h3]
     exact bne_iff_ne.2 h3
   ·rw[if_neg h2,decide_eq_false (show ¬ (97≤c.toNat∧c.toNat≤122) by omega)]
    rfl
  ·rw[if_neg h1,decide_eq_false (show ¬ (97≤c.toNat∧c.toNat≤122) by omega)]
   rfl
 ·rw[if_neg hn,(Bool.not_eq_true _).mp hn]
  rfl
theorem bb_beq (x y:BB):(x.1.toList == y.1.toList&&(x.2.toList == y.2.toList))=decide (x=y):=by
 rw[Bool.eq_iff_iff,Bool.and_eq_true,beq_iff_eq,beq_iff_eq,toList_inj,toList_inj,decide_eq_true_eq,Prod.ext_iff]
theorem number_f {x:BB} (h:smR x=true) (named:Bool) (least:Int):Pj.action_number.f x.1 x.2 named least=some (numOk x named least):=by
 unfold Pj.action_number.f numOk
 cases named with
 | false =>
  rw[if_neg (by decide),if_neg (by decide),hOf (n:=0) (by decide) (by decide),Option.bind_some]
  have e0:((0:Int):Rat)=0:=rfl
  rw[e0,bb_beq]
 | true =>
  have em:rat_May.f x.1 x.2=some (mayR x):=by
   unfold rat_May.f
   rw[if_pos (show smR (x.1,x.2)=true from h)]
  rw[if_pos rfl,if_pos rfl,em,Option.bind_some]
  by_cases hm:mayR x=true
  ·have es:rat_Sign.f x.1 x.2=some (cmpQ (ratR x) 0):=by
    unfold rat_Sign.f rsignS
    rw[if_pos (show smR (x.1,x.2)=true from h),if_pos (show mayR (x.1,x.2)=true from hm)]
   rw[if_pos hm,es,Option.bind_some,hm,Bool.true_and]
   by_cases h1:cmpQ (ratR x) 0≥least
   ·rw[if_pos h1,decide_eq_true (show least≤cmpQ (ratR x) 0 from h1),Bool.true_and]
    by_cases h2:(x.1.size:Int)≤20
    ·rw[if_pos h2,decide_eq_true (show x.1.size≤20 by omega),Bool.true_and]
     congr 1
     rw[decide_eq_decide]
     omega
    ·rw[if_neg h2,decide_eq_false (show ¬ x.1.size≤20 by omega)]
     rfl
   ·rw[if_neg h1,decide_eq_false (show ¬ least≤cmpQ (ratR x) 0 from h1)]
    rfl
  ·rw[if_neg hm,(Bool.not_eq_true _).mp hm]
   rfl
def actV (a0:ByteArray) (a1:Int) (a2 a3 a4 a5 a6 a7:ByteArray) (a8 a9 a10:Int):ActV:=⟨a0,a1,a2,a3,(a4,a5),(a6,a7),a8,a9,a10⟩
def smA (a:ActV):Bool:=decide (a.name.size≤1000000)&&(decide (a.asset.size≤1000000)&&(decide (a.other.size≤1000000)&&(smR a.ratio&&smR a.cash)))
theorem ix_other {k:Int} (h0:0≤k) (h4:k<5):ix5 k false false false true true=kOther k:=by
 have:k=0∨k=1∨k=2∨k=3∨k=4:=by omega
 rcases this with rfl|rfl|rfl|rfl|rfl <;> rfl
theorem ix_ratio {k:Int} (h0:0≤k) (h4:k<5):ix5 k true true false true true=kRatio k:=by
 have:k=0∨k=1∨k=2∨k=3∨k=4:=by omega
 rcases this with rfl|rfl|rfl|rfl|rfl <;> rfl
theorem ix_cash {k:Int} (h0:0≤k) (h4:k<5):ix5 k false false true false true=kCash k:=by
 have:k=0∨k=1∨k=2∨k=3∨k=4:=by omega
 rcases this with rfl|rfl|rfl|rfl|rfl <;> rfl
theorem ix_word {k:Int} (h0:0≤k) (h4:k<5):(ix5 k wSplit wStock wCash wSpin wMerger).data.toList=wordK k:=by
 have:k=0∨k=1∨k=2∨k=3∨k=4:=by omega
 rcases this with rfl|rfl|rfl|rfl|rfl <;> rfl
theorem may_j1 {x:Bool} {a0 a2 a3 a4 a5 a6 a7:ByteArray} {a1 a8 a9 a10:Int} {w:ByteArray} {o:Bool} (hr:smR (a4,a5)=true) (hc:smR (a6,a7)=true) (k:Nat) :
  Pl.action_May.j1 (k+1) x a0 a1 a2 a3 a4 a5 a6 a7 a8 a9 a10 w o (kRatio a1) (kCash a1)=some (x&&(numOk (a4,a5) (kRatio a1) 1&&numOk (a6,a7) (kCash a1) (kLeast a1))):=by
 simp only[Pl.action_May.j1]
 have n1:=number_f (x:=(a4,a5)) hr (kRatio a1) 1
 have n2:=fun l=>number_f (x:=(a6,a7)) hc (kCash a1) l
 dsimp only at n1 n2
 rw[n1]
 unfold kLeast
 cases x with
 | false=>split <;> rfl
 | true =>
  rw[if_pos rfl,if_pos rfl,Option.bind_some,Bool.true_and]
  by_cases h4:a1=4
  ·rw[if_pos h4,if_pos h4,n2]
   cases numOk (a4,a5) (kRatio a1) 1 <;> rfl
  ·rw[if_neg h4,if_neg h4,n2]
   cases numOk (a4,a5) (kRatio a1) 1 <;> rfl
theorem amay_f {a0 a2 a3 a4 a5 a6 a7:ByteArray} {a1 a8 a9 a10:Int} (h:smA (actV a0 a1 a2 a3 a4 a5 a6 a7 a8 a9 a10)=true) (k:Nat) :
  Pl.action_May.f (k+2) a0 a1 a2 a3 a4 a5 a6 a7 a8 a9 a10=some (mayA (actV a0 a1 a2 a3 a4 a5 a6 a7 a8 a9 a10)):=by
 unfold smA actV at h
 dsimp only at h
 rw[Bool.and_eq_true,Bool.and_eq_true,Bool.and_eq_true,Bool.and_eq_true,decide_eq_true_eq,decide_eq_true_eq,decide_eq_true_eq] at h
 obtain⟨s0,s2,s3,hr,hc⟩:=h
 have hj:Pl.action_May.j0 (k+2) true a0 a1 a2 a3 a4 a5 a6 a7 a8 a9 a10=some false:=by
  show Pl.action_May.j0 (k+1+1) _ _ _ _ _ _ _ _ _ _ _ _ = _
  simp only[Pl.action_May.j0]
  rfl
 unfold Pl.action_May.f mayA actV
 dsimp only
 by_cases k0:a1<0
 ·rw[if_pos k0,hj,decide_eq_false (show ¬ 0≤a1 by omega)]
  rfl
 rw[if_neg k0,decide_eq_true (show 0≤a1 by omega),Bool.true_and]
 by_cases k5:a1≥5
 ·rw[if_pos k5,hj,decide_eq_false (show ¬ a1≤4 by omega)]
  rfl
 rw[if_neg k5,decide_eq_true (show a1≤4 by omega),Bool.true_and,name_f s0,Option.bind_some]
 by_cases hn:nameL a0.data.toList=true
 case neg =>
  rw[if_neg hn,hj,(Bool.not_eq_true _).mp hn]
  rfl
 rw[if_pos hn,hn,Bool.true_and,asset_f s2,Option.bind_some]
 by_cases ha:assetL a2.data.toList=true
 case neg =>
  rw[if_neg ha,hj,(Bool.not_eq_true _).mp ha]
  rfl
 rw[if_pos ha,ha,Bool.true_and]
 unfold daysOk
 dsimp only
 by_cases d0:a8<0
 ·rw[if_pos d0,hj,decide_eq_false (show ¬ 0≤a8 by omega)]
  rfl
 rw[if_neg d0,decide_eq_true (show 0≤a8 by omega),Bool.true_and]
 by_cases d1:a9<a8
 ·rw[if_pos d1,hj,decide_eq_false (show ¬ a8≤a9 by omega)]
  rfl
 rw[if_neg d1,decide_eq_true (show a8≤a9 by omega),Bool.true_and]
 by_cases d2:a10<a9
 ·rw[if_pos d2,hj,decide_eq_false (show ¬ a9≤a10 by omega)]
  rfl
 rw[if_neg d2,decide_eq_true (show a9≤a10 by omega),Bool.true_and]
 by_cases d3:a10>9999
 ·rw[decide_eq_true d3,hj,decide_eq_false (show ¬ a10≤9999 by omega)]
  rfl
 rw[decide_eq_false d3,decide_eq_true (show a10≤9999 by omega),Bool.true_and]
 show Pl.action_May.j0 (k+1+1) _ _ _ _ _ _ _ _ _ _ _ _ = _
 simp only[Pl.action_May.j0,action_shapes.f]
 rw[if_neg (by decide),Option.bind_some]
 dsimp only
 rw[if_pos (show 0≤a1 by omega),if_pos (show a1<5 by omega),ix_other (by omega) (by omega),ix_ratio (by omega) (by omega),ix_cash (by omega) (by omega)]
 unfold otherOk
 dsimp only
 by_cases ho:kOther a1=true
 ·rw[if_pos ho,if_pos ho,asset_f s3,Option.bind_some]
  by_cases hs:assetL a3.data.toList=true
  ·rw[if_pos hs,hs,Bool.true_and,may_j1 hr hc]
   congr 2
   by_cases e:a3=a2
   ·rw[e,decide_eq_false (by simp),bne_self_eq_false]
   ·rw[decide_eq_true e]
    exact bne_iff_ne.2 (fun z=>e (toList_inj.1 z))
  ·rw[if_neg hs,(Bool.not_eq_true _).mp hs,may_j1 hr hc]
   rfl
 ·rw[if_neg ho,if_neg ho,may_j1 hr hc]
  congr 2
  by_cases e:a3=noB
  ·rw[e,decide_eq_true rfl]
   rw[ByteArray.toList_eq]
   rfl
  ·rw[decide_eq_false e,beq_eq_false_iff_ne]
   intro z
   refine e (toList_inj.1 (z.trans ?_))
   rw[ByteArray.toList_eq]
   rfl
end Go.Proofs.YtoghmeffpgbcfaaGreatDoor
end

section
namespace Go.Proofs.YtoghmeffpgbcfaaGreatDoor
theorem join_len:∀ (ws:List (List UInt8)) (m:Nat),(∀ w∈ws,w.length≤m)→(Lib.join ws [32]).length≤ws.length * (m+1)
 | [],_,_=>by simp[Lib.join_nil]
 | [w],m,h=>by
  rw[Lib.join_one]
  have:=h w (by simp)
  simp
  omega
 | w :: v :: r,m,h=>by
  have e:Lib.join (w :: v :: r) [32]=w++32 :: Lib.join (v :: r) [32]:=by
   rw[Lib.join_cons,Lib.join_cons]
   unfold Lib.joinTail
   simp
  have ih:=join_len (v :: r) m (fun x hx=>h x (List.mem_cons_of_mem _ hx))
  have h1:=h w (by simp)
  rw[e,List.length_append,List.length_cons,List.length_cons (a:=w),Nat.succ_mul]
  omega
theorem join_f {l:List ByteArray} (hne:l≠[]) (hl:l.length≤12) (hb:∀ x∈l,x.size≤10000):strings_Join.f l ⟨#[32]⟩=some ⟨(Lib.join (l.map (·.data.toList)) [32]).toArray⟩:=by
 unfold strings_Join.f
 have e:(⟨#[32]⟩:ByteArray).data.toList=[32]:=rfl
 rw[e,if_pos]
 rw[Bool.and_eq_true,Bool.and_eq_true,decide_eq_true_eq,decide_eq_true_eq,decide_eq_true_eq]
 refine⟨hne,by omega,?_⟩
 have:=join_len (l.map (·.data.toList)) 10000 (by
  intro w hw
  obtain⟨x,hx,rfl⟩:=List.mem_map.1 hw
  rw[← size_len]
  exact hb x hx)
 rw[List.length_map] at this
 have h2:l.length * (10000+1)≤12 * (10000+1):=Nat.mul_le_mul_right _ hl
 omega
theorem itoa_dig {n:Int} (h:0≤n):itoaB n=natB n.toNat:=by
 apply bext
 rw[natB_list]
 show Lib.itoa n = _
 unfold Lib.itoa
 rw[if_neg (by omega)]
theorem itoa_f {n:Int} (h0:0≤n) (h1:n≤9999):strconv_Itoa.f n=some (natB n.toNat):=by
 unfold strconv_Itoa.f
 rw[if_pos ⟨by omega,by omega⟩,itoa_dig h0]
theorem numOk_print {x:BB} {least:Int} (h:numOk x true least=true):decimal_Print.f x.1 x.2=some (printS x)∧(printS x).size≤1000:=by
 unfold numOk at h
 rw[if_pos rfl,Bool.and_eq_true,Bool.and_eq_true,Bool.and_eq_true,decide_eq_true_eq,decide_eq_true_eq,decide_eq_true_eq] at h
 obtain⟨hm,_,l1,l2⟩:=h
 refine⟨?_,?_⟩
 ·unfold decimal_Print.f
  exact if_pos (show smD (x.1,x.2)=true from decide_eq_true (show x.1.size+x.2.size≤900 by omega))
 ·obtain⟨q,rfl⟩:=of_mayR hm
  have hs:szR q≤40:=by
   show (rT q).1.size+(rT q).2.size≤40
   omega
  have hl:=print_len q
  rw[size_len,print_rT_list]
  omega
theorem day_size {n:Int} (h1:n≤9999):(natB n.toNat).size≤10:=sz_le (k:=10) (by omega) (by decide)
theorem pj1 {x:List ByteArray} (hl:x≠[]∧x.length≤8) (hb:∀ z∈x,z.size≤10000) {a0 a2 a3 a4 a5 a6 a7 w:ByteArray} {a1 a8 a9 a10:Int} {o r:Bool} (hc:numOk (a6,a7) (kCash a1) (kLeast a1)=true) (k:Nat) :
  Po.action_Print.j1 (k+1) x a0 a1 a2 a3 a4 a5 a6 a7 a8 a9 a10 w o r (kCash a1)=some ⟨(Lib.join (x.map (·.data.toList)++(if kCash a1=true then [(printS (a6,a7)).data.toList] else [])) [32]).toArray⟩:=by
 simp only[Po.action_Print.j1]
 by_cases h:kCash a1=true
 ·rw[h] at hc
  obtain⟨p1,p2⟩:=numOk_print hc
  have p1':decimal_Print.f a6 a7=some (printS (a6,a7)):=p1
  rw[if_pos h,if_pos h,p1',Option.bind_some,if_pos (by omega),join_f (by simp) (by rw[List.length_append,List.length_singleton];omega),Option.bind_some]
  ·simp
  ·intro z hz
   rcases List.mem_append.1 hz with e|e
   ·exact hb z e
   ·rw[List.mem_singleton.1 e];omega
 ·rw[if_neg h,if_neg h,join_f hl.1 (by omega) hb,Option.bind_some,List.append_nil]
theorem pj0 {x:List ByteArray} (hl:x≠[]∧x.length≤7) (hb:∀ z∈x,z.size≤10000) {a0 a2 a3 a4 a5 a6 a7 w:ByteArray} {a1 a8 a9 a10:Int} {o:Bool} (hr:numOk (a4,a5) (kRatio a1) 1=true) (hc:numOk (a6,a7) (kCash a1) (kLeast a1)=true) (k:Nat) :
  Po.action_Print.j0 (k+2) x a0 a1 a2 a3 a4 a5 a6 a7 a8 a9 a10 w o (kRatio a1) (kCash a1)=some ⟨(Lib.join (x.map (·.data.toList)++((if kRatio a1=true then [(printS (a4,a5)).data.toList] else [])++(if kCash a1=true then [(printS (a6,a7)).data.toList] else []))) [32]).toArray⟩:=by
 show Po.action_Print.j0 (k+1+1) _ _ _ _ _ _ _ _ _ _ _ _ _ _ _ _ = _
 simp only[Po.action_Print.j0]
 by_cases h:kRatio a1=true
 ·have hr':=hr
  rw[h] at hr'
  obtain⟨p1,p2⟩:=numOk_print hr'
  have p1':decimal_Print.f a4 a5=some (printS (a4,a5)):=p1
  rw[if_pos h,if_pos h,p1',Option.bind_some,if_pos (by omega),pj1 ⟨by simp,by rw[List.length_append,List.length_singleton];omega⟩ _ hc]
  ·simp
  ·intro z hz
   rcases List.mem_append.1 hz with e|e
   ·exact hb z e
   ·rw[List.mem_singleton.1 e];omega
 ·rw[if_neg h,if_neg h,pj1 ⟨hl.1,by omega⟩ hb hc,List.nil_append]
theorem nameL_size {s:ByteArray} (h:nameL s.data.toList=true):s.size≤20:=by
 unfold nameL at h
 rw[Bool.and_eq_true,Bool.and_eq_true,decide_eq_true_eq,decide_eq_true_eq] at h
 rw[size_len]
 exact h.2.1
theorem aprint_f {a0 a2 a3 a4 a5 a6 a7:ByteArray} {a1 a8 a9 a10:Int} (h:smA (actV a0 a1 a2 a3 a4 a5 a6 a7 a8 a9 a10)=true) (k:Nat) :
  Po.action_Print.f (k+2) a0 a1 a2 a3 a4 a5 a6 a7 a8 a9 a10=some (printA (actV a0 a1 a2 a3 a4 a5 a6 a7 a8 a9 a10)):=by
 unfold Po.action_Print.f
 rw[amay_f h k,Option.bind_some]
 by_cases hm:mayA (actV a0 a1 a2 a3 a4 a5 a6 a7 a8 a9 a10)=true
 case neg =>
  rw[if_neg hm,print_not hm]
  rfl
 rw[if_pos hm]
 unfold printA
 rw[if_pos hm]
 obtain⟨⟨k0,k4⟩,h1,h2,h3,h4,h5,h6⟩:=mayA_and hm
 unfold daysOk at h3
 simp only[Bool.and_eq_true,decide_eq_true_eq] at h3
 obtain⟨d0,d1,d2,d3⟩:=h3
 dsimp only[actV] at k0 k4 h1 h2 h4 h5 h6 d0 d1 d2 d3
 unfold action_shapes.f
 rw[Option.bind_some]
 dsimp only
 have w0:=ix_word (k:=a1) (by omega) (by omega)
 rw[if_pos (show 0≤a1 by omega),if_pos (show a1<5 by omega),itoa_f (n:=a8) (by omega) (by omega),Option.bind_some,itoa_f (n:=a9) (by omega) (by omega),Option.bind_some,itoa_f (n:=a10) (by omega) (by omega),Option.bind_some,Option.bind_some,ix_other (by omega) (by omega),ix_ratio (by omega) (by omega),ix_cash (by omega) (by omega)]
 generalize ix5 a1 wSplit wStock wCash wSpin wMerger=wd at w0 ⊢
 have z0:wd.size≤10000:=by
  rw[size_len,w0]
  unfold wordK
  (repeat' split) <;> decide
 have z1:=nameL_size h1
 have z2:=nameL_size (Bool.and_eq_true_iff.1 h2).1
 have z8:=day_size (n:=a8) (by omega)
 have z9:=day_size (n:=a9) (by omega)
 have z10:=day_size (n:=a10) (by omega)
 have hb6:∀ z∈[wd,a0,a2,natB a8.toNat,natB a9.toNat,natB a10.toNat],z.size≤10000:=by
  intro z hz
  simp only[List.mem_cons,List.not_mem_nil,or_false] at hz
  rcases hz with rfl|rfl|rfl|rfl|rfl|rfl <;> omega
 have hw:wordsA (actV a0 a1 a2 a3 a4 a5 a6 a7 a8 a9 a10)=[wd,a0,a2,natB a8.toNat,natB a9.toNat,natB a10.toNat].map (·.data.toList)++((if kOther a1=true then [a3.data.toList] else [])++((if kRatio a1=true then [(printS (a4,a5)).data.toList] else [])++(if kCash a1=true then [(printS (a6,a7)).data.toList] else []))):=by
  unfold wordsA restA numsA actV
  dsimp only
  rw[List.map_cons,List.map_cons,List.map_cons,List.map_cons,List.map_cons,List.map_cons,List.map_nil,w0,natB_list,natB_list,natB_list]
  rfl
 rw[hw]
 unfold otherOk at h4
 dsimp only[actV] at h4
 by_cases ho:kOther a1=true
 ·rw[if_pos ho] at h4
  have z3:=nameL_size (Bool.and_eq_true_iff.1 (Bool.and_eq_true_iff.1 h4).1).1
  rw[if_pos ho,if_pos ho,if_pos (by simp),pj0 ⟨by simp,by simp⟩ _ h5 h6]
  ·simp
  ·intro z hz
   rcases List.mem_append.1 hz with e|e
   ·exact hb6 z e
   ·rw[List.mem_singleton.1 e];omega
 ·rw[if_neg ho,if_neg ho,pj0 ⟨by simp,by simp⟩ hb6 h5 h6,List.nil_append]
def action_May.f (a0_0:ByteArray) (a0_1:Int) (a0_2 a0_3 a0_4 a0_5 a0_6 a0_7:ByteArray) (a0_8 a0_9 a0_10:Int):Option Bool:=if smA (actV a0_0 a0_1 a0_2 a0_3 a0_4 a0_5 a0_6 a0_7 a0_8 a0_9 a0_10)=true then some (mayA (actV a0_0 a0_1 a0_2 a0_3 a0_4 a0_5 a0_6 a0_7 a0_8 a0_9 a0_10)) else none
theorem action_May.calls (a0_0:ByteArray) (a0_1:Int) (a0_2 a0_3 a0_4 a0_5 a0_6 a0_7:ByteArray) (a0_8 a0_9 a0_10:Int) (r:Bool) (w:World) (hL_:Laid w) (h:action_May.f a0_0 a0_1 a0_2 a0_3 a0_4 a0_5 a0_6 a0_7 a0_8 a0_9 a0_10=some r) :
  Calls Tryz.prog 11 #[.agg #[.string a0_0,.int .i64 a0_1,.string a0_2,.string a0_3,.string a0_4,.string a0_5,.string a0_6,.string a0_7,.int .i64 a0_8,.int .i64 a0_9,.int .i64 a0_10]] w fun e w'=>e=.returned (.bool r)∧Below w.heap.size w w':=by
 unfold action_May.f at h
 split at h
 ·rename_i hp
  rw[← amay_f hp 0] at h
  exact Pl.action_May.calls _ a0_0 a0_1 a0_2 a0_3 a0_4 a0_5 a0_6 a0_7 a0_8 a0_9 a0_10 r w hL_ h
 ·cases h
def action_Print.f (a0_0:ByteArray) (a0_1:Int) (a0_2 a0_3 a0_4 a0_5 a0_6 a0_7:ByteArray) (a0_8 a0_9 a0_10:Int):Option ByteArray:=if smA (actV a0_0 a0_1 a0_2 a0_3 a0_4 a0_5 a0_6 a0_7 a0_8 a0_9 a0_10)=true then some (printA (actV a0_0 a0_1 a0_2 a0_3 a0_4 a0_5 a0_6 a0_7 a0_8 a0_9 a0_10)) else none
theorem action_Print.calls (a0_0:ByteArray) (a0_1:Int) (a0_2 a0_3 a0_4 a0_5 a0_6 a0_7:ByteArray) (a0_8 a0_9 a0_10:Int) (r:ByteArray) (w:World) (hL_:Laid w) (h:action_Print.f a0_0 a0_1 a0_2 a0_3 a0_4 a0_5 a0_6 a0_7 a0_8 a0_9 a0_10=some r) :
  Calls Tryz.prog 13 #[.agg #[.string a0_0,.int .i64 a0_1,.string a0_2,.string a0_3,.string a0_4,.string a0_5,.string a0_6,.string a0_7,.int .i64 a0_8,.int .i64 a0_9,.int .i64 a0_10]] w fun e w'=>e=.returned (.string r)∧Below w.heap.size w w':=by
 unfold action_Print.f at h
 split at h
 ·rename_i hp
  rw[← aprint_f hp 0] at h
  exact Po.action_Print.calls _ a0_0 a0_1 a0_2 a0_3 a0_4 a0_5 a0_6 a0_7 a0_8 a0_9 a0_10 r w hL_ h
 ·cases h
end Go.Proofs.YtoghmeffpgbcfaaGreatDoor
end

section
namespace Go.Proofs.YtoghmeffpgbcfaaGreatDoor
def Ks (g:Nat) (w w':World):Prop:=∀ b,b≠g→b<w.heap.size→w'.heap[b]?=w.heap[b]?
theorem Ks.blk {g b:Nat} {w w':World} {o:Obj} (h:Ks g w w') (hn:b≠g) (hb:w.heap[b]?=some o):w'.heap[b]?=some o:=(h b hn (blk_lt hb)).trans hb
theorem Rd.drew {w:World} {g gb i:Nat} {ws:List ByteArray} {ok:Bool} (h:Rd w g gb ws i ok):Rd w.drew g gb ws i ok:=h.below (below_drew1 (Below.refl _ _))
theorem word_c {g gb i:Nat} {ws:List ByteArray} {ok:Bool} {w0 w:World} {x:ByteArray} (hb0:Below w0.heap.size w0 w) (hB:w0.heap.size≤g) (h:Rd w g gb ws i ok) (hx:ws.getD i ⟨#[]⟩=x) :
  Calls Tryz.prog 18 #[.pointer (some ⟨g,0,none⟩)] w fun e w'=>e=.returned (.string x)∧∃ ok',Aside0 (ok'=(ok&&decide (i<ws.length)))∧Rd w' g gb ws (i+1) ok'∧Below w0.heap.size w0 w'∧Ks g w w':=by
 subst hx
 refine(word_calls hB h).mono ?_
 rintro e w' ⟨rfl,h1,b1,k1⟩
 exact⟨rfl,_,⟨rfl⟩,h1,hb0.trans b1,fun b hb _=>k1 b hb⟩
theorem day_c {g gb i:Nat} {ws:List ByteArray} {ok:Bool} {w0 w:World} {x:ByteArray} {n:Int} {b:Bool} (hL:Laid w0) (hb0:Below w0.heap.size w0 w) (hB:w0.heap.size≤g) (h:Rd w g gb ws i ok) (hx:ws.getD i ⟨#[]⟩=x) (hs:x.size≤50000) (hn:smallS x=(n,b)) :
  Calls Tryz.prog 20 #[.pointer (some ⟨g,0,none⟩)] w fun e w'=>e=.returned (.int .i64 n)∧∃ ok',Aside0 (ok'=((ok&&decide (i<ws.length))&&b))∧Rd w' g gb ws (i+1) ok'∧Below w0.heap.size w0 w'∧Ks g w w':=by
 subst hx
 have e1:n=(smallS (ws.getD i ⟨#[]⟩)).1:=by rw[hn]
 have e2:b=(smallS (ws.getD i ⟨#[]⟩)).2:=by rw[hn]
 subst e1;subst e2
 refine(day_calls hL hb0 hB h hs).mono ?_
 rintro e w' ⟨rfl,h1,b1,k1⟩
 exact⟨rfl,_,⟨rfl⟩,h1,b1,k1⟩
theorem num_c {g gb i:Nat} {ws:List ByteArray} {ok nm:Bool} {w0 w:World} {x n d:ByteArray} {b:Bool} (hL:Laid w0) (hb0:Below w0.heap.size w0 w) (hB:w0.heap.size≤g) (h:Rd w g gb ws i ok) (hx:ws.getD i ⟨#[]⟩=x) (hs:x.size≤1100)
  (hn:(if nm=true then parseS x else ((rT 0).1,(rT 0).2,0))=(n,d,if b=true then 0 else 40)) :
  Calls Tryz.prog 21 #[.pointer (some ⟨g,0,none⟩),.bool nm] w fun e w'=>e=.returned (.agg #[.string n,.string d])∧∃ ok',Aside0 (ok'=(if nm=true then ((ok&&decide (i<ws.length))&&b) else ok))∧Rd w' g gb ws (if nm=true then i+1 else i) ok'∧Below w0.heap.size w0 w'∧Ks g w w':=by
 subst hx
 cases nm
 ·rw[if_neg (by decide)] at hn
  obtain⟨rfl,h2⟩:=Prod.mk.inj hn
  obtain⟨rfl,h3⟩:=Prod.mk.inj h2
  refine(num_none hL hb0).mono ?_
  rintro e w' ⟨rfl,b1⟩
  exact⟨rfl,ok,⟨rfl⟩,h.below b1,hb0.trans (b1.mono (below_size hb0)),fun k _ hk=>b1.block k hk⟩
 ·rw[if_pos rfl] at hn
  refine(num_calls hL hb0 hB h hs).mono ?_
  rw[hn]
  rintro e w' ⟨rfl,h1,b1,k1⟩
  refine⟨rfl,_,⟨rfl⟩,?_,b1,k1⟩
  cases b
  ·exact h1
  ·exact h1
theorem split_c {s:ByteArray} {ws:List ByteArray} {w0 w:World} (hL:Laid w0) (hb0:Below w0.heap.size w0 w) (hs:s.size≤1100) (hw:Lib.splitB ⟨#[32]⟩ 0 (Lib.countB s ⟨#[32]⟩) s=ws) (hl:Lib.countB s ⟨#[32]⟩+1=ws.length) :
  Calls Tryz.prog 17 #[.string s,.string ⟨#[32]⟩] w fun e w'=>∃ gb,e=.returned (.slice (some ⟨gb,0,none⟩) ws.length ws.length)∧w'.heap[gb]?=some (.cells (ws.map Value.string).toArray 9 (0,0))∧Below w.heap.size w w':=by
 obtain⟨m,hm⟩:=(hL.below hb0).mx
 refine(Tryz.strings_Split s ⟨#[32]⟩ m w (by omega) hm (by decide)).mono ?_
 rintro e w' ⟨rfl,rfl⟩
 rw[hw,hl]
 exact⟨_,rfl,heap_alloc_new w _,(Below.refl _ w).alloc (Nat.le_refl _) _⟩
theorem rd_init {g gb:Nat} {ws:List ByteArray} {w:World} {t u:TypeId} (h:w.heap[g]?=some (.cells #[.slice (some ⟨gb,0,none⟩) ws.length ws.length,.bool true] t (0,0))) (hrow:w.heap[gb]?=some (.cells (ws.map Value.string).toArray u (0,0))) (ne:g≠gb) (sz:ws.length≤1000000):Rd w g gb ws 0 true:=by
 refine⟨⟨some ⟨gb,0,none⟩,ws.length,bc_ ⟨h⟩ 0 rfl,fun _=>⟨rfl,rfl⟩⟩,bc_ ⟨h⟩ 1 rfl,blk_frozen h 0,blk_frozen h 1,fun j x hx=>?_,ne,sz,blk_lt h⟩
 refine bc_ ⟨hrow⟩ j ?_
 rw[List.getElem?_toArray,List.getElem?_map,hx]
 rfl
end Go.Proofs.YtoghmeffpgbcfaaGreatDoor
end

section
namespace Go.Proofs.YtoghmeffpgbcfaaGreatDoor
theorem ratW_of {x n d:ByteArray} {b:Bool} (h:parseS x=(n,d,if b=true then 0 else 40)):ratW x.data.toList=((n,d),b):=by
 unfold parseS at h
 unfold ratW
 split at h
 ·rename_i q e
  (try rw[e])
  obtain⟨rfl,h2⟩:=Prod.mk.inj h
  obtain⟨rfl,h3⟩:=Prod.mk.inj h2
  cases b
  ·exact absurd h3 (by decide)
  ·rfl
 ·rename_i e
  (try rw[e])
  obtain⟨rfl,h2⟩:=Prod.mk.inj h
  obtain⟨rfl,h3⟩:=Prod.mk.inj h2
  cases b
  ·rfl
  ·exact absurd h3 (by decide)
theorem wAt_map (ws:List ByteArray) (i:Nat):wAt (ws.map (·.data.toList)) i=(ws.getD i ⟨#[]⟩).data.toList:=by
 unfold wAt
 rw[List.getD_eq_getElem?_getD,List.getD_eq_getElem?_getD,List.getElem?_map]
 cases ws[i]? <;> rfl
theorem wB_map (ws:List ByteArray) (i:Nat):wB (ws.map (·.data.toList)) i=ws.getD i ⟨#[]⟩:=by
 unfold wB
 rw[wAt_map,toB]
theorem dayW_map (ws:List ByteArray) (i:Nat):dayW (wAt (ws.map (·.data.toList)) i)=smallS (ws.getD i ⟨#[]⟩):=by
 unfold dayW
 rw[wAt_map,toB]
def flagA (n:Nat) (xo xr xc b3 b4 b5 b6 b7:Bool):Bool :=
 decide (5<n)&&(b3&&(b4&&b5))&&(if xo=true then decide (6<n) else true)&&(if xr=true then decide ((if xo=true then 7 else 6)<n)&&b6 else true)&&(if xc=true then decide ((if xo=true then 7 else 6)+(if xr=true then 1 else 0)<n)&&b7 else true)
def endA (xo xr xc:Bool):Nat:=(if xo=true then 7 else 6)+(if xr=true then 1 else 0)+(if xc=true then 1 else 0)
theorem owed_end (j:Int):owed j=endA (kOther j) (kRatio j) (kCash j):=by
 unfold owed endA
 cases kOther j <;> cases kRatio j <;> cases kCash j <;> rfl
theorem flag_end {n:Nat} {xo xr xc b3 b4 b5 b6 b7:Bool}:(flagA n xo xr xc b3 b4 b5 b6 b7&&decide (n-endA xo xr xc=0))=(decide (n=endA xo xr xc)&&(b3&&(b4&&(b5&&((!xr || b6)&&(!xc || b7)))))):=by
 unfold flagA endA
 rw[Bool.eq_iff_iff]
 cases xo <;> cases xr <;> cases xc <;> simp only[Bool.and_eq_true,Bool.or_eq_true,decide_eq_true_eq,Bool.not_eq_true',if_true,if_false,Bool.false_eq_true,reduceIte,Bool.not_false,Bool.not_true,true_or,false_or,and_true,true_and,reduceCtorEq] <;> constructor <;> intro h <;> (repeat' apply And.intro) <;> first|omega|simp_all
theorem parse_end {ws:List ByteArray} {j:Int} {x1 x2 x3 rn rd cn cd:ByteArray} {n3 n4 n5:Int} {b3 b4 b5 b6 b7:Bool} (h0:0≤j) (h5:j≤4) (hx:(ws.getD 0 ⟨#[]⟩).data.toList=wordK j)
  (e1:ws.getD 1 ⟨#[]⟩=x1) (e2:ws.getD 2 ⟨#[]⟩=x2) (e3:smallS (ws.getD 3 ⟨#[]⟩)=(n3,b3)) (e4:smallS (ws.getD 4 ⟨#[]⟩)=(n4,b4)) (e5:smallS (ws.getD 5 ⟨#[]⟩)=(n5,b5))
  (eo:x3=if kOther j=true then ws.getD 6 ⟨#[]⟩ else ⟨#[]⟩)
  (e6:(if kRatio j=true then parseS (ws.getD (if kOther j=true then 7 else 6) ⟨#[]⟩) else ((rT 0).1,(rT 0).2,0))=(rn,rd,if b6=true then 0 else 40))
  (e7:(if kCash j=true then parseS (ws.getD ((if kOther j=true then 7 else 6)+(if kRatio j=true then 1 else 0)) ⟨#[]⟩) else ((rT 0).1,(rT 0).2,0))=(cn,cd,if b7=true then 0 else 40)) :
  parseWs (ws.map (·.data.toList))=if ((flagA ws.length (kOther j) (kRatio j) (kCash j) b3 b4 b5 b6 b7&&decide (ws.length-endA (kOther j) (kRatio j) (kCash j)=0))&&mayA (actV x1 j x2 x3 rn rd cn cd n3 n4 n5))=true then some (actV x1 j x2 x3 rn rd cn cd n3 n4 n5) else none:=by
 have hr:readA j (ws.map (·.data.toList))=actV x1 j x2 x3 rn rd cn cd n3 n4 n5:=by
  unfold readA actV
  rw[wB_map,wB_map,wB_map,dayW_map,dayW_map,dayW_map,e1,e2,e3,e4,e5,eo]
  congr 1
  ·by_cases hr:kRatio j=true
   ·rw[if_pos hr]
    rw[if_pos hr] at e6
    unfold ratAt
    rw[wAt_map,ratW_of e6]
   ·rw[if_neg hr]
    rw[if_neg hr] at e6
    obtain⟨h1,h2⟩:=Prod.mk.inj e6
    obtain⟨h2,h3⟩:=Prod.mk.inj h2
    rw[← h1,← h2]
  ·by_cases hc:kCash j=true
   ·rw[if_pos hc]
    rw[if_pos hc] at e7
    unfold cashAt ratAt
    rw[wAt_map,ratW_of e7]
   ·rw[if_neg hc]
    rw[if_neg hc] at e7
    obtain⟨h1,h2⟩:=Prod.mk.inj e7
    obtain⟨h2,h3⟩:=Prod.mk.inj h2
    rw[← h1,← h2]
 have ho:readOk j (ws.map (·.data.toList))=(flagA ws.length (kOther j) (kRatio j) (kCash j) b3 b4 b5 b6 b7&&decide (ws.length-endA (kOther j) (kRatio j) (kCash j)=0)):=by
  rw[flag_end,← owed_end]
  unfold readOk
  rw[dayW_map,dayW_map,dayW_map,e3,e4,e5,List.length_map]
  congr 5
  ·cases hr:kRatio j
   ·rfl
   ·rw[hr,if_pos rfl] at e6
    unfold ratAt
    rw[wAt_map,ratW_of e6]
  ·cases hc:kCash j
   ·rfl
   ·rw[hc,if_pos rfl] at e7
    unfold cashAt ratAt
    rw[wAt_map,ratW_of e7]
 unfold parseWs
 rw[wAt_map,hx,kindW_word h0 h5]
 dsimp only
 rw[ho,hr]
theorem flag_ok {n:Nat} {xo xr xc b3 b4 b5 b6 b7 ok1 ok2 ok3 ok4 ok5 ok6 ok7 ok8:Bool} {i6 i7 i8:Nat} (h1:ok1=(true&&decide (1<n))) (h2:ok2=(ok1&&decide (2<n))) (h3:ok3=((ok2&&decide (3<n))&&b3)) (h4:ok4=((ok3&&decide (4<n))&&b4)) (h5:ok5=((ok4&&decide (5<n))&&b5))
  (h6:ok6=if xo=true then ok5&&decide (6<n) else ok5) (g6:i6=if xo=true then 7 else 6) (h7:ok7=if xr=true then ((ok6&&decide (i6<n))&&b6) else ok6) (g7:i7=if xr=true then i6+1 else i6) (h8:ok8=if xc=true then ((ok7&&decide (i7<n))&&b7) else ok7) (g8:i8=if xc=true then i7+1 else i7) :
  ok8=flagA n xo xr xc b3 b4 b5 b6 b7∧i8=endA xo xr xc:=by
 have e5:ok5=(decide (5<n)&&(b3&&(b4&&b5))):=by
  subst h1 h2 h3 h4 h5
  rw[Bool.eq_iff_iff]
  simp only[Bool.and_eq_true,decide_eq_true_eq,true_and]
  constructor <;> intro h <;> (repeat' apply And.intro) <;> first|omega|simp_all
 clear h1 h2 h3 h4
 subst e5
 clear h5
 subst h6 g6 h7 g7 h8 g8
 unfold flagA endA
 cases xo <;> cases xr <;> cases xc <;> refine⟨?_,rfl⟩ <;> simp[Bool.and_assoc]
theorem splitK_L:∀ (n:Nat) (s:List UInt8),s.length≤n→Lib.splitK [32] 0 (Lib.count s [32]) s=splitL s:=by
 intro n
 induction n with
 | zero =>
  intro s h
  have:s=[]:=List.length_eq_zero_iff.1 (by omega)
  subst this
  decide
 | succ n ih =>
  intro s h
  cases hc:cutAt 32 s with
  | none =>
   have hi:Lib.index s [32]=-1:=by rw[Lib.index_one];exact indexByte_none hc
   have h0:=Lib.count_miss hi
   have hn:(32:UInt8)∉s:=by
    rw[Lib.count_one] at h0
    exact List.count_eq_zero.1 h0
   rw[h0,split_word hn]
   rfl
  | some p =>
   obtain⟨a,b⟩:=p
   obtain⟨h1,h2,h3⟩:=indexByte_some hc
   have hi:Lib.index s [32]=(a.length:Int):=by rw[Lib.index_one];exact h1
   have hd:s.drop (a.length+1)=b:=by
    rw[h2,← List.drop_drop,List.drop_left]
    rfl
   have ht:s.take a.length=a:=by
    rw[h2]
    exact List.take_left
   have hk:=Lib.count_hit (sub:=[32]) (by simp) hi
   rw[show [(32:UInt8)].length=1 from rfl,hd] at hk
   rw[hk,Nat.add_comm]
   unfold Lib.splitK
   rw[hi,if_neg (by rw[beq_iff_eq];omega),Int.toNat_natCast,Nat.add_zero,ht,show [(32:UInt8)].length=1 from rfl,hd,ih b (by rw[h2] at h;simp at h;omega),h2,split_first _ h3]
theorem words_of (s:ByteArray):(Lib.splitB ⟨#[32]⟩ 0 (Lib.countB s ⟨#[32]⟩) s).map (·.data.toList)=splitL s.data.toList:=by
 rw[Lib.splitB_data]
 exact splitK_L _ _ (Nat.le_refl _)
theorem split_len:∀ l:List UInt8,(splitL l).length≤l.length+1∧∀ w∈splitL l,w.length≤l.length
 | []=>by simp[splitL]
 | c :: r=>by
  obtain⟨h1,h2⟩:=split_len r
  unfold splitL
  split
  ·constructor
   ·simp only[List.length_cons];omega
   ·intro w hw
    rcases List.mem_cons.1 hw with rfl|e
    ·simp
    ·have:=h2 w e
     simp only[List.length_cons];omega
  ·split
   ·rename_i w ws e
    rw[e] at h1 h2
    constructor
    ·simp only[List.length_cons] at h1 ⊢;omega
    ·intro v hv
     rcases List.mem_cons.1 hv with rfl|e'
     ·have:=h2 w List.mem_cons_self
      simp only[List.length_cons];omega
     ·have:=h2 v (List.mem_cons_of_mem _ e')
      simp only[List.length_cons];omega
   ·constructor
    ·simp
    ·intro w hw
     rw[List.mem_singleton] at hw
     subst hw
     simp
def zeroA:ActV:=actV noB 0 noB noB noB noB noB noB 0 0 0
def outW (l:List (List UInt8)):ActV×Int:=match parseWs l with
 | some a=>(a,0)
 | none=>(zeroA,150)
def parseAct (s:ByteArray):ActV×Int:=outW (splitL s.data.toList)
theorem outW_some {l:List (List UInt8)} {a:ActV} (h:parseWs l=some a):outW l=(a,0):=by
 unfold outW
 rw[h]
theorem outW_none {l:List (List UInt8)} (h:parseWs l=none):outW l=(zeroA,150):=by
 unfold outW
 rw[h]
def cellsA (a:ActV):Value:=.agg #[.string a.name,.int .i64 a.kind,.string a.asset,.string a.other,.string a.ratio.1,.string a.ratio.2,.string a.cash.1,.string a.cash.2,.int .i64 a.ex,.int .i64 a.rec_,.int .i64 a.pay]
theorem set11_eq {o0 o1 o2 o3 o4 o5 o6 o7 o8 o9 o10 v0 v1 v2 v3 v4 v5 v6 v7 v8 v9 v10:Value}:(((((((((((#[o0,o1,o2,o3,o4,o5,o6,o7,o8,o9,o10]:Array Value).setIfInBounds 0 v0).setIfInBounds 1 v1).setIfInBounds 2 v2).setIfInBounds 3 v3).setIfInBounds 4 v4).setIfInBounds 5 v5).setIfInBounds 6 v6).setIfInBounds 7 v7).setIfInBounds 8 v8).setIfInBounds 9 v9).setIfInBounds 10 v10=(#[v0,v1,v2,v3,v4,v5,v6,v7,v8,v9,v10]:Array Value):=by
 simp only[List.setIfInBounds_toArray,List.set_cons_zero,List.set_cons_succ]
theorem blk_set11 {w:World} {g:Nat} {t:TypeId} {o0 o1 o2 o3 o4 o5 o6 o7 o8 o9 o10:Value} (h:w.heap[g]?=some (.cells #[o0,o1,o2,o3,o4,o5,o6,o7,o8,o9,o10] t (0,0))) (v0 v1 v2 v3 v4 v5 v6 v7 v8 v9 v10:Value):(((((((((((w.setCell ⟨g,0,none⟩ v0).setCell ⟨g,1,none⟩ v1).setCell ⟨g,2,none⟩ v2).setCell ⟨g,3,none⟩ v3).setCell ⟨g,4,none⟩ v4).setCell ⟨g,5,none⟩ v5).setCell ⟨g,6,none⟩ v6).setCell ⟨g,7,none⟩ v7).setCell ⟨g,8,none⟩ v8).setCell ⟨g,9,none⟩ v9).setCell ⟨g,10,none⟩ v10).heap[g]?=some (.cells #[v0,v1,v2,v3,v4,v5,v6,v7,v8,v9,v10] t (0,0)):=by
 have h0:=blk_set h 0 v0
 have h1:=blk_set h0 1 v1
 have h2:=blk_set h1 2 v2
 have h3:=blk_set h2 3 v3
 have h4:=blk_set h3 4 v4
 have h5:=blk_set h4 5 v5
 have h6:=blk_set h5 6 v6
 have h7:=blk_set h6 7 v7
 have h8:=blk_set h7 8 v8
 have h9:=blk_set h8 9 v9
 have h10:=blk_set h9 10 v10
 rw[set11_eq] at h10
 exact h10
theorem blk_far11 {w:World} {g b:Nat} {t:TypeId} {cs:Array Value} (h:w.heap[b]?=some (.cells cs t (0,0))) (hn:b≠g) (v0 v1 v2 v3 v4 v5 v6 v7 v8 v9 v10:Value):(((((((((((w.setCell ⟨g,0,none⟩ v0).setCell ⟨g,1,none⟩ v1).setCell ⟨g,2,none⟩ v2).setCell ⟨g,3,none⟩ v3).setCell ⟨g,4,none⟩ v4).setCell ⟨g,5,none⟩ v5).setCell ⟨g,6,none⟩ v6).setCell ⟨g,7,none⟩ v7).setCell ⟨g,8,none⟩ v8).setCell ⟨g,9,none⟩ v9).setCell ⟨g,10,none⟩ v10).heap[b]?=some (.cells cs t (0,0)):=by
 have h0:=blk_far h (p:=⟨g,0,none⟩) hn v0
 have h1:=blk_far h0 (p:=⟨g,1,none⟩) hn v1
 have h2:=blk_far h1 (p:=⟨g,2,none⟩) hn v2
 have h3:=blk_far h2 (p:=⟨g,3,none⟩) hn v3
 have h4:=blk_far h3 (p:=⟨g,4,none⟩) hn v4
 have h5:=blk_far h4 (p:=⟨g,5,none⟩) hn v5
 have h6:=blk_far h5 (p:=⟨g,6,none⟩) hn v6
 have h7:=blk_far h6 (p:=⟨g,7,none⟩) hn v7
 have h8:=blk_far h7 (p:=⟨g,8,none⟩) hn v8
 have h9:=blk_far h8 (p:=⟨g,9,none⟩) hn v9
 have h10:=blk_far h9 (p:=⟨g,10,none⟩) hn v10
 exact h10
theorem below_set11 {B g:Nat} {w0 w:World} (h:Below B w0 w) (hg:B≤g) (v0 v1 v2 v3 v4 v5 v6 v7 v8 v9 v10:Value):Below B w0 (((((((((((w.setCell ⟨g,0,none⟩ v0).setCell ⟨g,1,none⟩ v1).setCell ⟨g,2,none⟩ v2).setCell ⟨g,3,none⟩ v3).setCell ⟨g,4,none⟩ v4).setCell ⟨g,5,none⟩ v5).setCell ⟨g,6,none⟩ v6).setCell ⟨g,7,none⟩ v7).setCell ⟨g,8,none⟩ v8).setCell ⟨g,9,none⟩ v9).setCell ⟨g,10,none⟩ v10):=by
 have h0:Below B w0 (w.setCell ⟨g,0,none⟩ v0):=h.setCell hg v0
 have h1:Below B w0 ((w.setCell ⟨g,0,none⟩ v0).setCell ⟨g,1,none⟩ v1):=h0.setCell hg v1
 have h2:Below B w0 (((w.setCell ⟨g,0,none⟩ v0).setCell ⟨g,1,none⟩ v1).setCell ⟨g,2,none⟩ v2):=h1.setCell hg v2
 have h3:Below B w0 ((((w.setCell ⟨g,0,none⟩ v0).setCell ⟨g,1,none⟩ v1).setCell ⟨g,2,none⟩ v2).setCell ⟨g,3,none⟩ v3):=h2.setCell hg v3
 have h4:Below B w0 (((((w.setCell ⟨g,0,none⟩ v0).setCell ⟨g,1,none⟩ v1).setCell ⟨g,2,none⟩ v2).setCell ⟨g,3,none⟩ v3).setCell ⟨g,4,none⟩ v4):=h3.setCell hg v4
 have h5:Below B w0 ((((((w.setCell ⟨g,0,none⟩ v0).setCell ⟨g,1,none⟩ v1).setCell ⟨g,2,none⟩ v2).setCell ⟨g,3,none⟩ v3).setCell ⟨g,4,none⟩ v4).setCell ⟨g,5,none⟩ v5):=h4.setCell hg v5
 have h6:Below B w0 (((((((w.setCell ⟨g,0,none⟩ v0).setCell ⟨g,1,none⟩ v1).setCell ⟨g,2,none⟩ v2).setCell ⟨g,3,none⟩ v3).setCell ⟨g,4,none⟩ v4).setCell ⟨g,5,none⟩ v5).setCell ⟨g,6,none⟩ v6):=h5.setCell hg v6
 have h7:Below B w0 ((((((((w.setCell ⟨g,0,none⟩ v0).setCell ⟨g,1,none⟩ v1).setCell ⟨g,2,none⟩ v2).setCell ⟨g,3,none⟩ v3).setCell ⟨g,4,none⟩ v4).setCell ⟨g,5,none⟩ v5).setCell ⟨g,6,none⟩ v6).setCell ⟨g,7,none⟩ v7):=h6.setCell hg v7
 have h8:Below B w0 (((((((((w.setCell ⟨g,0,none⟩ v0).setCell ⟨g,1,none⟩ v1).setCell ⟨g,2,none⟩ v2).setCell ⟨g,3,none⟩ v3).setCell ⟨g,4,none⟩ v4).setCell ⟨g,5,none⟩ v5).setCell ⟨g,6,none⟩ v6).setCell ⟨g,7,none⟩ v7).setCell ⟨g,8,none⟩ v8):=h7.setCell hg v8
 have h9:Below B w0 ((((((((((w.setCell ⟨g,0,none⟩ v0).setCell ⟨g,1,none⟩ v1).setCell ⟨g,2,none⟩ v2).setCell ⟨g,3,none⟩ v3).setCell ⟨g,4,none⟩ v4).setCell ⟨g,5,none⟩ v5).setCell ⟨g,6,none⟩ v6).setCell ⟨g,7,none⟩ v7).setCell ⟨g,8,none⟩ v8).setCell ⟨g,9,none⟩ v9):=h8.setCell hg v9
 have h10:Below B w0 (((((((((((w.setCell ⟨g,0,none⟩ v0).setCell ⟨g,1,none⟩ v1).setCell ⟨g,2,none⟩ v2).setCell ⟨g,3,none⟩ v3).setCell ⟨g,4,none⟩ v4).setCell ⟨g,5,none⟩ v5).setCell ⟨g,6,none⟩ v6).setCell ⟨g,7,none⟩ v7).setCell ⟨g,8,none⟩ v8).setCell ⟨g,9,none⟩ v9).setCell ⟨g,10,none⟩ v10):=h9.setCell hg v10
 exact h10
end Go.Proofs.YtoghmeffpgbcfaaGreatDoor
end

section
namespace Go.Proofs.YtoghmeffpgbcfaaGreatDoor
attribute [local go_sem] idx_shape
theorem Rd.far11 {w:World} {g gb i k:Nat} {ws:List ByteArray} {ok:Bool} (h:Rd w g gb ws i ok) (h1:k≠g) (h2:∀ (j:Nat) x,ws[j]?=some x→k≠gb) (v0 v1 v2 v3 v4 v5 v6 v7 v8 v9 v10:Value):Rd (((((((((((w.setCell ⟨k,0,none⟩ v0).setCell ⟨k,1,none⟩ v1).setCell ⟨k,2,none⟩ v2).setCell ⟨k,3,none⟩ v3).setCell ⟨k,4,none⟩ v4).setCell ⟨k,5,none⟩ v5).setCell ⟨k,6,none⟩ v6).setCell ⟨k,7,none⟩ v7).setCell ⟨k,8,none⟩ v8).setCell ⟨k,9,none⟩ v9).setCell ⟨k,10,none⟩ v10) g gb ws i ok:=by
 have z0:=h.far h1 h2 0 v0
 have z1:=z0.far h1 h2 1 v1
 have z2:=z1.far h1 h2 2 v2
 have z3:=z2.far h1 h2 3 v3
 have z4:=z3.far h1 h2 4 v4
 have z5:=z4.far h1 h2 5 v5
 have z6:=z5.far h1 h2 6 v6
 have z7:=z6.far h1 h2 7 v7
 have z8:=z7.far h1 h2 8 v8
 have z9:=z8.far h1 h2 9 v9
 have z10:=z9.far h1 h2 10 v10
 exact z10
def St (w:World) (g gb:Nat) (ws:List ByteArray) (x0:ByteArray) (j:Int):Prop :=
 (Rd w g gb ws 1 true∧∀ i:Int,0≤i→i<j→x0.data.toList≠wordK i)∨(parseWs (ws.map (·.data.toList))=none∧∀ i:Int,j≤i→i≤4→x0.data.toList≠wordK i)
def aparse_T10:Bool×List (List Nat×List Nat):=(true,[([],[]),([],[]),([1],[1]),([0,2],[0,2]),([],[]),([],[]),([5],[5]),([4,6,3],[4,6]),([0,1,2,3],[]),([8,3,7,0,1,2,3],[3,8]),([0,1,2,3,4,5,6,7,8,9],[]),([10,7,9,0,1,2,3,4,5,6,7,8,9],[7,10])])
def aparse_B10:List Nat:=[0,0,2,7,0,0,32,127,15,511,1023,2047]
theorem aparse_tab10:rtab .any (opsOf Tryz.f9 10)=aparse_T10:=by kernel_rfl
theorem aparse_bits10:waitsOk aparse_T10.2 aparse_B10=true:=by kernel_rfl
theorem num_res (nm:Bool) (x:ByteArray):∃ n d b,Aside0 ((if nm=true then parseS x else ((rT 0).1,(rT 0).2,0))=(n,d,if b=true then 0 else 40)):=by
 cases nm
 ·exact⟨_,_,true,⟨rfl⟩⟩
 ·rw[if_pos rfl]
  unfold parseS
  split
  ·exact⟨_,_,true,⟨rfl⟩⟩
  ·exact⟨_,_,false,⟨rfl⟩⟩
theorem wordK_inj {i j:Int} (h0:0≤i) (h1:i≤4) (h2:0≤j) (h3:j≤4) (h:wordK i=wordK j):i=j:=by
 have e1:=kindW_word h0 h1
 rw[h,kindW_word h2 h3] at e1
 exact(Option.some.inj e1).symm
theorem ix_wordK {j:Int} {xw:ByteArray} (h0:0≤j) (h5:j<5) (h:ix5 j wSplit wStock wCash wSpin wMerger=xw):xw.data.toList=wordK j:=by
 subst h
 have:j=0∨j=1∨j=2∨j=3∨j=4:=by omega
 rcases this with rfl|rfl|rfl|rfl|rfl <;> rfl
theorem ix_same {j:Int} {xw x0:ByteArray} (h0:0≤j) (h5:j<5) (h:ix5 j wSplit wStock wCash wSpin wMerger=xw) (hx:xw.toList=x0.toList):0≤j∧j≤4∧x0.data.toList=wordK j:=by
 refine⟨h0,by omega,?_⟩
 rw[← toList_inj.1 hx]
 exact ix_wordK h0 h5 h
theorem ix_not {j:Int} {xw x0:ByteArray} (h0:0≤j) (h5:j<5) (h:ix5 j wSplit wStock wCash wSpin wMerger=xw) (hx:¬ xw.toList=x0.toList):x0.data.toList≠wordK j:=by
 intro e
 refine hx (toList_inj.2 (bext ?_))
 rw[e,ix_wordK h0 h5 h]
theorem St.fresh {w:World} {g gb:Nat} {ws:List ByteArray} {x0:ByteArray} {j:Int} (h:St w g gb ws x0 j) (hx:0≤j∧j≤4∧x0.data.toList=wordK j):Rd w g gb ws 1 true:=by
 rcases h with h|h
 ·exact h.1
 ·exact absurd hx.2.2 (h.2 j (Int.le_refl _) hx.2.1)
theorem St.next {w w':World} {g gb:Nat} {ws:List ByteArray} {x0:ByteArray} {j:Int} (h:St w g gb ws x0 j) (hx:x0.data.toList≠wordK j) (hk:Rd w g gb ws 1 true→Rd w' g gb ws 1 true):St w' g gb ws x0 (j+1):=by
 rcases h with ⟨h1,h2⟩|⟨h1,h2⟩
 ·refine Or.inl ⟨hk h1,fun i i0 i1=>?_⟩
  by_cases e:i=j
  ·rw[e];exact hx
  ·exact h2 i i0 (by omega)
 ·exact Or.inr ⟨h1,fun i i0 i1=>h2 i (by omega) i1⟩
theorem parse_nokind {ws:List ByteArray} {x0:ByteArray} (hx:ws.getD 0 ⟨#[]⟩=x0) (h:∀ i:Int,0≤i→i<5→x0.data.toList≠wordK i):parseWs (ws.map (·.data.toList))=none:=by
 unfold parseWs
 rw[wAt_map,hx]
 cases hk:kindW x0.data.toList with
 | none=>rfl
 | some k =>
  obtain⟨h0,h4,e⟩:=kindW_le hk
  exact absurd e (h k h0 (by omega))
theorem St.none {w:World} {g gb:Nat} {ws:List ByteArray} {x0:ByteArray} {j:Int} (hx:ws.getD 0 ⟨#[]⟩=x0) (hj:5≤j) (h:St w g gb ws x0 j):parseWs (ws.map (·.data.toList))=none:=by
 rcases h with h|h
 ·exact parse_nokind hx (fun i h0 h1=>h.2 i h0 (by omega))
 ·exact h.1
theorem numc_sz {nm:Bool} {x n d:ByteArray} {c:Int} (h:(if nm=true then parseS x else ((rT 0).1,(rT 0).2,0))=(n,d,c)) (hs:x.size≤1100):smR (n,d)=true:=by
 refine decide_eq_true ?_
 show n.size≤4000∧d.size≤4000
 cases nm
 ·rw[if_neg (by decide)] at h
  obtain⟨rfl,h2⟩:=Prod.mk.inj h
  obtain⟨rfl,h3⟩:=Prod.mk.inj h2
  decide +kernel
 ·rw[if_pos rfl] at h
  unfold parseS at h
  split at h
  ·rename_i q e
   have:=parseL_sz e
   rw[← size_len] at this
   have z1:=le_szR_num q
   have z2:=le_szR_den q
   obtain⟨rfl,h2⟩:=Prod.mk.inj h
   obtain⟨rfl,h3⟩:=Prod.mk.inj h2
   exact⟨Nat.le_trans z1 (by omega),Nat.le_trans z2 (by omega)⟩
  ·obtain⟨rfl,h2⟩:=Prod.mk.inj h
   obtain⟨rfl,h3⟩:=Prod.mk.inj h2
   decide +kernel
theorem smA_of {a0 a2 a3 a4 a5 a6 a7:ByteArray} {a1 a8 a9 a10:Int} (h0:a0.size≤1100) (h2:a2.size≤1100) (h3:a3.size≤1100) (hr:smR (a4,a5)=true) (hc:smR (a6,a7)=true):smA (actV a0 a1 a2 a3 a4 a5 a6 a7 a8 a9 a10)=true:=by
 unfold smA actV
 dsimp only
 rw[hr,hc,decide_eq_true (show a0.size≤1000000 by omega),decide_eq_true (show a2.size≤1000000 by omega),decide_eq_true (show a3.size≤1000000 by omega)]
 rfl
set_option maxHeartbeats 16000000 in
set_option maxRecDepth 100000 in
theorem parse_walk (s x0:ByteArray) (ws:List ByteArray) (w:World) (hL:Laid w) (hs:s.size≤1100) (hw:Lib.splitB ⟨#[32]⟩ 0 (Lib.countB s ⟨#[32]⟩) s=ws) (hl:Lib.countB s ⟨#[32]⟩+1=ws.length)
  (hx0:Aside0 (ws.getD 0 ⟨#[]⟩=x0)) (hbig:ws.length≤1000000) (hsz:Aside0 (∀ i:Nat,(ws.getD i ⟨#[]⟩).size≤1100)) :
  Calls Tryz.prog 9 #[.string s] w fun e w'=>e=.returned (.tuple #[cellsA (outW (ws.map (·.data.toList))).1,.int .i64 (outW (ws.map (·.data.toList))).2])∧Below w.heap.size w w':=by
 have hu25:=Tryz.underlying25
 have hu46:=Tryz.underlying46
 have hu23:=Tryz.underlying23
 have HW:=Aside0.mk hw
 have HN:=Aside0.mk hl
 have HG:=Aside0.mk hbig
 clear hw hl hbig
 go_enter Tryz.func9,Tryz.ntmps9
 go_wp2_with (first|((with_reducible refine gate_dst (N:=2) rfl ?_);refine be_ 2 #[.string ⟨#[]⟩,.int .i64 0,.string ⟨#[]⟩,.string ⟨#[]⟩,.string ⟨#[]⟩,.string ⟨#[]⟩,.string ⟨#[]⟩,.string ⟨#[]⟩,.int .i64 0,.int .i64 0,.int .i64 0] 25 ?_;intro gr hg w1 hr hB;have GR:=Aside0.mk (Nat.le_of_eq hg.symm);clear hg)|(refine gl_ 10 Tryz.func17 #[.string s,.string ⟨#[32]⟩] ?_;refine(split_c hL hB hs HW.out HN.out).mono ?_;rintro e w2 ⟨gb,rfl,hrow,b2⟩;refine⟨_,rfl,?_⟩;replace hB:=hB.trans (b2.mono (below_size hB));replace hr:=blk_below hr b2;clear b2)|((with_reducible refine gate_dst (N:=12) rfl ?_);(refine be_ 12 #[.slice (some ⟨gb,0,none⟩) ws.length ws.length,.bool true] 43 ?_;intro g hg w3 hrd b3;have hne:Aside0 (gr≠g):=⟨by rw[hg];exact Nat.ne_of_lt (blk_lt hr)⟩;have hgb:Aside0 (g≠gb):=⟨by rw[hg];exact Nat.ne_of_gt (blk_lt hrow)⟩;have GG:=Aside0.mk (by rw[hg];exact below_size hB:w.heap.size≤g);replace hB:=hB.trans (b3.mono (below_size hB));replace hr:=blk_below hr b3;replace hrow:=blk_below hrow b3;clear hg b3))|(refine gl_ 14 Tryz.func18 #[.pointer (some ⟨g,0,none⟩)] ?_;refine mo_ (word_c hB GG.out (rd_init hrd hrow hgb.out HG.out) hx0.out) ?_;rintro w4 ⟨ok0,HO0,hR,hB',hK⟩;replace hB:=hB';clear hB';replace hr:=hK.blk hne.out hr;clear hK hrd hrow)|(refine gl_ 15 Tryz.func19 #[] ?_;refine mo_ (action_shapes.calls wSplit false true false wStock false true false wCash false false true wSpin true true false wMerger true true true _ rfl) ?_;intro w5 b5;replace hB:=hB.trans (b5.mono (below_size hB));replace hr:=blk_below hr b5;replace hR:=hR.below b5;clear b5))
 obtain rfl:ok0=true:=by
  rw[HO0.out]
  have:=HN.out
  simp
  omega
 go_loopg [16] 5 (fun kq v16 w'=>∃ j:Int,v16=.int .i64 j∧Aside0 (j=5-(kq:Int))∧Aside0 (kq≤5)∧Aside0 (St w' g gb ws x0 j)∧Aside0 (w'.heap[gr]?=some (.cells #[.string ⟨#[]⟩,.int .i64 0,.string ⟨#[]⟩,.string ⟨#[]⟩,.string ⟨#[]⟩,.string ⟨#[]⟩,.string ⟨#[]⟩,.string ⟨#[]⟩,.int .i64 0,.int .i64 0,.int .i64 0] 25 (0,0)))∧Aside0 (Below w.heap.size w w'))
 case atStart=>exact⟨0,rfl,⟨rfl⟩,⟨Nat.le_refl _⟩,⟨Or.inl ⟨hR,fun i h0 h1=>absurd h1 (by omega)⟩⟩,⟨hr⟩,⟨hB⟩⟩
 case round =>
  clear hR hr hB HO0
  obtain⟨j,rfl,hj,hk,hS,hr,hB⟩:=hrel
  by_cases c8:j<5
  ·have b8:decide (j<5)=true:=decide_eq_true c8
   have c0:0≤j:=by have:=hj.out;have:=hk.out;omega
   go_upto_region 6 with (first|((with_reducible refine gate_dst (N:=7) rfl ?_);(refine be_ 7 #[.string ⟨#[]⟩,.bool false,.bool false,.bool false] 46 ?_;intro gs hg w6 hs7 b6;have c70:=bc_ ⟨hs7⟩ 0 rfl;have c71:=bc_ ⟨hs7⟩ 1 rfl;have c72:=bc_ ⟨hs7⟩ 2 rfl;have c73:=bc_ ⟨hs7⟩ 3 rfl;have f70:=blk_frozen hs7 0;have f71:=blk_frozen hs7 1;have f72:=blk_frozen hs7 2;have f73:=blk_frozen hs7 3;have HG7:=Aside0.mk hg;clear hg)))
   clear c70 c71 c72 c73 f70 f71 f72 f73
   generalize hxw:ix5 j wSplit wStock wCash wSpin wMerger=xw
   generalize hxo:ix5 j false false false true true=xo
   generalize hxr:ix5 j true true false true true=xr
   generalize hxc:ix5 j false false true false true=xc
   have HXW:=Aside0.mk hxw
   have HXO:=Aside0.mk hxo
   have HXR:=Aside0.mk hxr
   have HXC:=Aside0.mk hxc
   clear hxw hxo hxr hxc
   have hs8:((((w6.setCell ⟨gs,0,none⟩ (.string xw)).setCell ⟨gs,1,none⟩ (.bool xo)).setCell ⟨gs,2,none⟩ (.bool xr)).setCell ⟨gs,3,none⟩ (.bool xc)).heap[gs]?=some (.cells #[.string xw,.bool xo,.bool xr,.bool xc] 46 (0,0)):=blk_set (blk_set (blk_set (blk_set hs7 0 _) 1 _) 2 _) 3 _
   have hns:gs≠gr:=by rw[HG7.out];exact Nat.ne_of_gt (blk_lt hr.out)
   have hge:w.heap.size≤gs:=by rw[HG7.out];exact below_size hB.out
   have hr8:((((w6.setCell ⟨gs,0,none⟩ (.string xw)).setCell ⟨gs,1,none⟩ (.bool xo)).setCell ⟨gs,2,none⟩ (.bool xr)).setCell ⟨gs,3,none⟩ (.bool xc)).heap[gr]? = _:=blk_far (blk_far (blk_far (blk_far (blk_below hr.out b6) hns.symm _) hns.symm _) hns.symm _) hns.symm _
   have hB8:Below w.heap.size w ((((w6.setCell ⟨gs,0,none⟩ (.string xw)).setCell ⟨gs,1,none⟩ (.bool xo)).setCell ⟨gs,2,none⟩ (.bool xr)).setCell ⟨gs,3,none⟩ (.bool xc)):=((((hB.out.trans (b6.mono (below_size hB.out))).setCell hge _).setCell hge _).setCell hge _).setCell hge _
   have hS8:Rd wr g gb ws 1 true→Rd ((((w6.setCell ⟨gs,0,none⟩ (.string xw)).setCell ⟨gs,1,none⟩ (.bool xo)).setCell ⟨gs,2,none⟩ (.bool xr)).setCell ⟨gs,3,none⟩ (.bool xc)) g gb ws 1 true:=by
    intro h
    have h1:gs≠g:=by rw[HG7.out];exact Nat.ne_of_gt h.inb
    have h2:∀ (j:Nat) x,ws[j]?=some x→gs≠gb:=fun j x hx=>by rw[HG7.out];exact Nat.ne_of_gt (World.block_lt_of_cell? wr _ (h.row j x hx))
    exact((((h.below b6).far h1 h2 _ _).far h1 h2 _ _).far h1 h2 _ _).far h1 h2 _ _
   have hgs:Rd wr g gb ws 1 true→gs≠g:=fun h=>by rw[HG7.out];exact Nat.ne_of_gt h.inb
   generalize ((((w6.setCell ⟨gs,0,none⟩ (.string xw)).setCell ⟨gs,1,none⟩ (.bool xo)).setCell ⟨gs,2,none⟩ (.bool xr)).setCell ⟨gs,3,none⟩ (.bool xc))=w8 at hs8 hr8 hB8 hS8 ⊢
   clear hs7 b6 HG7
   have c70:=bc_ ⟨hs8⟩ 0 rfl
   have c71:=bc_ ⟨hs8⟩ 1 rfl
   have c72:=bc_ ⟨hs8⟩ 2 rfl
   have c73:=bc_ ⟨hs8⟩ 3 rfl
   by_cases hx:xw.toList=x0.toList
   ·have hxb0:(xw.toList == x0.toList)=true:=beq_iff_eq.mpr hx
    have hxb1:(xw.toList != x0.toList)=false:=bne_eq_false_iff_eq.mpr hx
    have hX:=Aside0.mk hx
    clear hx
    have hR:=hS8 (St.fresh hS.out (ix_same c0 c8 HXW.out hX.out))
    replace hgs:=hgs (St.fresh hS.out (ix_same c0 c8 HXW.out hX.out))
    clear hS8 hr hB c70 c71 c72 c73
    obtain⟨x1,e1⟩:∃ x,Aside0 (ws.getD 1 ⟨#[]⟩=x):=⟨_,⟨rfl⟩⟩
    obtain⟨x2,e2⟩:∃ x,Aside0 (ws.getD 2 ⟨#[]⟩=x):=⟨_,⟨rfl⟩⟩
    obtain⟨n3,b3,e3⟩:∃ n b,Aside0 (smallS (ws.getD 3 ⟨#[]⟩)=(n,b)):=⟨_,_,⟨rfl⟩⟩
    obtain⟨n4,b4,e4⟩:∃ n b,Aside0 (smallS (ws.getD 4 ⟨#[]⟩)=(n,b)):=⟨_,_,⟨rfl⟩⟩
    obtain⟨n5,b5,e5⟩:∃ n b,Aside0 (smallS (ws.getD 5 ⟨#[]⟩)=(n,b)):=⟨_,_,⟨rfl⟩⟩
    have c71:=bc_ ⟨hs8⟩ 0 rfl
    go_upto_region 7 with (fail)
    clear c71
    go_upto_region 8 with (first|(refine gl_ 26 Tryz.func18 #[.pointer (some ⟨g,0,none⟩)] ?_;refine mo_ (word_c hB8 GG.out hR e1.out) ?_;clear hR;rintro w26 ⟨ok1,HO1,hR,hB',hK⟩;replace hB8:=hB';replace hr8:=hK.blk hne.out hr8;replace hs8:=hK.blk hgs hs8;clear hK hB')|(refine gl_ 28 Tryz.func18 #[.pointer (some ⟨g,0,none⟩)] ?_;refine mo_ (word_c hB8 GG.out hR e2.out) ?_;clear hR;rintro w28 ⟨ok2,HO2,hR,hB',hK⟩;replace hB8:=hB';replace hr8:=hK.blk hne.out hr8;replace hs8:=hK.blk hgs hs8;clear hK hB')|(refine gl_ 30 Tryz.func20 #[.pointer (some ⟨g,0,none⟩)] ?_;refine mo_ (day_c hL hB8 GG.out hR rfl (Nat.le_trans (hsz.out 3) (by decide)) e3.out) ?_;clear hR;rintro w30 ⟨ok3,HO3,hR,hB',hK⟩;replace hB8:=hB';replace hr8:=hK.blk hne.out hr8;replace hs8:=hK.blk hgs hs8;clear hK hB')|(refine gl_ 32 Tryz.func20 #[.pointer (some ⟨g,0,none⟩)] ?_;refine mo_ (day_c hL hB8 GG.out hR rfl (Nat.le_trans (hsz.out 4) (by decide)) e4.out) ?_;clear hR;rintro w32 ⟨ok4,HO4,hR,hB',hK⟩;replace hB8:=hB';replace hr8:=hK.blk hne.out hr8;replace hs8:=hK.blk hgs hs8;clear hK hB')|(refine gl_ 34 Tryz.func20 #[.pointer (some ⟨g,0,none⟩)] ?_;refine mo_ (day_c hL hB8 GG.out hR rfl (Nat.le_trans (hsz.out 5) (by decide)) e5.out) ?_;clear hR;rintro w34 ⟨ok5,HO5,hR,hB',hK⟩;replace hB8:=hB';replace hr8:=hK.blk hne.out hr8;replace hs8:=hK.blk hgs hs8;clear hK hB')|((with_reducible refine gate_dst (N:=8) rfl ?_);go_loud (refine be_ 8 #[.string ⟨#[]⟩,.int .i64 0,.string ⟨#[]⟩,.string ⟨#[]⟩,.string ⟨#[]⟩,.string ⟨#[]⟩,.string ⟨#[]⟩,.string ⟨#[]⟩,.int .i64 0,.int .i64 0,.int .i64 0] 25 ?_;intro ga hg w9 ha b9;have hnr:ga≠gr:=(by rw[hg];exact Nat.ne_of_gt (blk_lt hr8));have hng:ga≠g:=(by rw[hg];exact Nat.ne_of_gt hR.inb);have hna:ga≠gs:=(by rw[hg];exact Nat.ne_of_gt (blk_lt hs8));have hgb2:∀ (j:Nat) x,ws[j]?=some x→ga≠gb:=(fun j x hx=>(by rw[hg];exact Nat.ne_of_gt (World.block_lt_of_cell? _ _ (hR.row j x hx))));have hga:w.heap.size≤ga:=(by rw[hg];exact below_size hB8);clear hg;replace hR:=hR.below b9;replace hr8:=blk_below hr8 b9;replace hs8:=blk_below hs8 b9;replace hB8:=hB8.trans (b9.mono (below_size hB8));clear b9;have d0:=bc_ ⟨ha⟩ 0 rfl;have k0:=blk_frozen ha 0;have d1:=bc_ ⟨ha⟩ 1 rfl;have k1:=blk_frozen ha 1;have d2:=bc_ ⟨ha⟩ 2 rfl;have k2:=blk_frozen ha 2;have d3:=bc_ ⟨ha⟩ 3 rfl;have k3:=blk_frozen ha 3;have d4:=bc_ ⟨ha⟩ 4 rfl;have k4:=blk_frozen ha 4;have d5:=bc_ ⟨ha⟩ 5 rfl;have k5:=blk_frozen ha 5;have d6:=bc_ ⟨ha⟩ 6 rfl;have k6:=blk_frozen ha 6;have d7:=bc_ ⟨ha⟩ 7 rfl;have k7:=blk_frozen ha 7;have d8:=bc_ ⟨ha⟩ 8 rfl;have k8:=blk_frozen ha 8;have d9:=bc_ ⟨ha⟩ 9 rfl;have k9:=blk_frozen ha 9;have d10:=bc_ ⟨ha⟩ 10 rfl;have k10:=blk_frozen ha 10)))
    clear d0 k0 d1 k1 d2 k2 d3 k3 d4 k4 d5 k5 d6 k6 d7 k7 d8 k8 d9 k9 d10 k10
    have ha10:=blk_set11 ha (.string x1) (.int .i64 j) (.string x2) (.string ⟨#[]⟩) (.string ⟨#[]⟩) (.string ⟨#[]⟩) (.string ⟨#[]⟩) (.string ⟨#[]⟩) (.int .i64 n3) (.int .i64 n4) (.int .i64 n5)
    have hR10:=hR.far11 hng hgb2 (.string x1) (.int .i64 j) (.string x2) (.string ⟨#[]⟩) (.string ⟨#[]⟩) (.string ⟨#[]⟩) (.string ⟨#[]⟩) (.string ⟨#[]⟩) (.int .i64 n3) (.int .i64 n4) (.int .i64 n5)
    have hr10:=blk_far11 hr8 hnr.symm (.string x1) (.int .i64 j) (.string x2) (.string ⟨#[]⟩) (.string ⟨#[]⟩) (.string ⟨#[]⟩) (.string ⟨#[]⟩) (.string ⟨#[]⟩) (.int .i64 n3) (.int .i64 n4) (.int .i64 n5)
    have hs10:=blk_far11 hs8 hna.symm (.string x1) (.int .i64 j) (.string x2) (.string ⟨#[]⟩) (.string ⟨#[]⟩) (.string ⟨#[]⟩) (.string ⟨#[]⟩) (.string ⟨#[]⟩) (.int .i64 n3) (.int .i64 n4) (.int .i64 n5)
    have hB10:=below_set11 hB8 hga (.string x1) (.int .i64 j) (.string x2) (.string ⟨#[]⟩) (.string ⟨#[]⟩) (.string ⟨#[]⟩) (.string ⟨#[]⟩) (.string ⟨#[]⟩) (.int .i64 n3) (.int .i64 n4) (.int .i64 n5)
    generalize (((((((((((w9.setCell ⟨ga,0,none⟩ (.string x1)).setCell ⟨ga,1,none⟩ (.int .i64 j)).setCell ⟨ga,2,none⟩ (.string x2)).setCell ⟨ga,3,none⟩ (.string ⟨#[]⟩)).setCell ⟨ga,4,none⟩ (.string ⟨#[]⟩)).setCell ⟨ga,5,none⟩ (.string ⟨#[]⟩)).setCell ⟨ga,6,none⟩ (.string ⟨#[]⟩)).setCell ⟨ga,7,none⟩ (.string ⟨#[]⟩)).setCell ⟨ga,8,none⟩ (.int .i64 n3)).setCell ⟨ga,9,none⟩ (.int .i64 n4)).setCell ⟨ga,10,none⟩ (.int .i64 n5))=w10 at ha10 hR10 hr10 hs10 hB10 ⊢
    clear ha hR hr8 hs8 hB8
    have c71:=bc_ ⟨hs10⟩ 1 rfl
    have d3:=bc_ ⟨ha10⟩ 3 rfl
    have k3:=blk_frozen ha10 3
    have KO:Aside0 (kOther j=xo):=⟨(ix_other c0 c8).symm.trans HXO.out⟩
    have KR:Aside0 (kRatio j=xr):=⟨(ix_ratio c0 c8).symm.trans HXR.out⟩
    have KC:Aside0 (kCash j=xc):=⟨(ix_cash c0 c8).symm.trans HXC.out⟩
    obtain⟨i6,E6⟩:∃ i:Nat,Aside0 (i=if xo=true then 7 else 6):=⟨_,⟨rfl⟩⟩
    obtain⟨x3,E3⟩:∃ x:ByteArray,Aside0 (x=if xo=true then ws.getD 6 ⟨#[]⟩ else ⟨#[]⟩):=⟨_,⟨rfl⟩⟩
    cases xo
    ·obtain⟨ok6,O6⟩:∃ b:Bool,Aside0 (b=if false=true then ok5&&decide (6<ws.length) else ok5):=⟨_,⟨rfl⟩⟩
     have hx3:x3=⟨#[]⟩:=E3.out
     have ho6:ok6=ok5:=O6.out
     have hi6:i6=6:=E6.out
     go_upto_region 10 with (fail)
     clear d3 k3 c71
     have ha11:w10.heap[ga]?=some (.cells #[.string x1,.int .i64 j,.string x2,.string x3,.string ⟨#[]⟩,.string ⟨#[]⟩,.string ⟨#[]⟩,.string ⟨#[]⟩,.int .i64 n3,.int .i64 n4,.int .i64 n5] 25 (0,0)):=by rw[hx3];exact ha10
     have hR11:Rd w10 g gb ws i6 ok6:=by rw[hi6,ho6];exact hR10
     have hr11:=hr10
     have hs11:=hs10
     have hB11:=hB10
     clear ha10 hR10 hr10 hs10 hB10 hx3 ho6 hi6
     generalize w10=w11 at ha11 hR11 hr11 hs11 hB11 ⊢
     obtain⟨rn,rd,b6,e6⟩:=num_res xr (ws.getD i6 ⟨#[]⟩)
     obtain⟨i7,E7⟩:∃ i:Nat,Aside0 (i=if xr=true then i6+1 else i6):=⟨_,⟨rfl⟩⟩
     obtain⟨cn,cd,b7,e7⟩:=num_res xc (ws.getD i7 ⟨#[]⟩)
     obtain⟨i8,E8⟩:∃ i:Nat,Aside0 (i=if xc=true then i7+1 else i7):=⟨_,⟨rfl⟩⟩
     replace ha11:=blk_drew ha11
     replace hR11:=hR11.drew
     replace hr11:=blk_drew hr11
     have hs11:=Aside0.mk (blk_drew hs11)
     replace hB11:=below_drew1 hB11
     refine sa_ 12 (fun w'=>w'.cell? ⟨gs,2,none⟩=some (.bool xr)∧w'.cell? ⟨gs,3,none⟩=some (.bool xc)) (fun hHeld=>?_)
     refine with_tabW aparse_tab10 aparse_bits10 (fun HT_ HW_=>?_)
     generalize w11.drew=w12 at ha11 hR11 hr11 hs11 hB11 hHeld ⊢
     refine pu_ 0 41 rfl rfl HT_ ?_;refine pu_ 1 42 rfl rfl HT_ ?_;refine pu_ 4 45 rfl rfl HT_ ?_;refine pu_ 5 46 rfl rfl HT_ ?_;refine t2_ 2 43 rfl rfl HT_ HW_ hHeld ?_;refine t2_ 6 47 rfl rfl HT_ HW_ hHeld ?_
     refine on_ 3 (some 44) rfl rfl HT_ (fun K hK=>?_);refine gs_ Tryz.func21 #[.pointer (some ⟨g,0,none⟩),.bool xr] ?_;refine mo_ (num_c hL hB11 GG.out hR11 rfl (hsz.out i6) e6.out) ?_;clear hR11 hHeld;rintro w13 ⟨ok7,O7,hR13,hB13,hQ⟩
     have ha13:=hQ.blk hng ha11;have hr13:=hQ.blk hne.out hr11;have hs13:=Aside0.mk (hQ.blk hgs hs11.out);rw[← E7.out] at hR13;clear hQ ha11 hr11 hs11 hB11
     refine hk_ hK (fun hHeld=>?_);clear hK K;refine nm_ ?_
     refine pu_ 8 49 rfl rfl HT_ ?_
     refine on_ 7 (some 48) rfl rfl HT_ (fun K hK=>?_);refine gs_ Tryz.func21 #[.pointer (some ⟨g,0,none⟩),.bool xc] ?_;refine mo_ (num_c hL hB13 GG.out hR13 rfl (hsz.out i7) e7.out) ?_;clear hR13 hHeld;rintro w14 ⟨ok8,O8,hR14,hB14,hQ⟩
     have ha14:=hQ.blk hng ha13;have hr14:=hQ.blk hne.out hr13;have hs14:=Aside0.mk (hQ.blk hgs hs13.out);rw[← E8.out] at hR14;clear hQ ha13 hr13 hs13 hB13
     refine hk_ hK (fun hHeld=>?_);clear hK K;refine nm_ ?_
     refine on_ 9 none rfl rfl HT_ (fun K hK=>?_)
     have d4:=bc_ ⟨ha14⟩ 4 rfl;have d5:=bc_ ⟨ha14⟩ 5 rfl;have k4:=blk_frozen ha14 4;have k5:=blk_frozen ha14 5
     refine skip_ (w1:=?_) (by rfl) rfl ?_ ?_;rotate_left
     ·go_simp
      rfl
     clear d4 d5 k4 k5
     have ha15:((w14.setCell ⟨ga,4,none⟩ (.string rn)).setCell ⟨ga,5,none⟩ (.string rd)).heap[ga]?=some (.cells #[.string x1,.int .i64 j,.string x2,.string x3,.string rn,.string rd,.string ⟨#[]⟩,.string ⟨#[]⟩,.int .i64 n3,.int .i64 n4,.int .i64 n5] 25 (0,0)):=blk_set (blk_set ha14 4 _) 5 _
     have hR15:=(hR14.far hng hgb2 4 (.string rn)).far hng hgb2 5 (.string rd)
     have hr15:=blk_far (p:=⟨ga,5,none⟩) (blk_far (p:=⟨ga,4,none⟩) hr14 hnr.symm (.string rn)) hnr.symm (.string rd)
     have hs15:=Aside0.mk (blk_far (p:=⟨ga,5,none⟩) (blk_far (p:=⟨ga,4,none⟩) hs14.out hna.symm (.string rn)) hna.symm (.string rd))
     have hB15:Below w.heap.size w ((w14.setCell ⟨ga,4,none⟩ (.string rn)).setCell ⟨ga,5,none⟩ (.string rd)):=(hB14.setCell hga (.string rn)).setCell hga (.string rd)
     clear ha14 hR14 hr14 hs14 hB14 hHeld
     generalize ((w14.setCell ⟨ga,4,none⟩ (.string rn)).setCell ⟨ga,5,none⟩ (.string rd))=w15 at ha15 hR15 hr15 hs15 hB15 ⊢
     refine hk_ hK (fun hHeld=>?_);clear hK K
     refine pu_ 10 50 rfl rfl HT_ ?_
     refine on_ 11 none rfl rfl HT_ (fun K hK=>?_)
     have d6:=bc_ ⟨ha15⟩ 6 rfl;have d7:=bc_ ⟨ha15⟩ 7 rfl;have k6:=blk_frozen ha15 6;have k7:=blk_frozen ha15 7
     refine skip_ (w1:=?_) (by rfl) rfl ?_ ?_;rotate_left
     ·go_simp
      rfl
     clear d6 d7 k6 k7
     have ha16:((w15.setCell ⟨ga,6,none⟩ (.string cn)).setCell ⟨ga,7,none⟩ (.string cd)).heap[ga]?=some (.cells #[.string x1,.int .i64 j,.string x2,.string x3,.string rn,.string rd,.string cn,.string cd,.int .i64 n3,.int .i64 n4,.int .i64 n5] 25 (0,0)):=blk_set (blk_set ha15 6 _) 7 _
     have hR16:=(hR15.far hng hgb2 6 (.string cn)).far hng hgb2 7 (.string cd)
     have hr16:=blk_far (p:=⟨ga,7,none⟩) (blk_far (p:=⟨ga,6,none⟩) hr15 hnr.symm (.string cn)) hnr.symm (.string cd)
     have hs16:=Aside0.mk (blk_far (p:=⟨ga,7,none⟩) (blk_far (p:=⟨ga,6,none⟩) hs15.out hna.symm (.string cn)) hna.symm (.string cd))
     have hB16:Below w.heap.size w ((w15.setCell ⟨ga,6,none⟩ (.string cn)).setCell ⟨ga,7,none⟩ (.string cd)):=(hB15.setCell hga (.string cn)).setCell hga (.string cd)
     clear ha15 hR15 hr15 hs15 hB15 hHeld
     generalize ((w15.setCell ⟨ga,6,none⟩ (.string cn)).setCell ⟨ga,7,none⟩ (.string cd))=w16 at ha16 hR16 hr16 hs16 hB16 ⊢
     refine hk_ hK (fun hHeld=>?_);clear hK K
     refine done_ (done_of HT_.out (by kernel_rfl)) ?_
     clear HT_ HW_ hHeld hs16
     have hwk:=(ix_same c0 c8 HXW.out hX.out).2.2
     obtain⟨hflag,hend⟩:=flag_ok HO1.out HO2.out HO3.out HO4.out HO5.out O6.out E6.out O7.out E7.out O8.out E8.out
     have PE:=parse_end (x3:=x3) (rn:=rn) (rd:=rd) (cn:=cn) (cd:=cd) c0 (by omega) ((congrArg (fun z:ByteArray=>z.data.toList) hx0.out).trans hwk) e1.out e2.out e3.out e4.out e5.out (by rw[KO.out];exact E3.out) (by rw[KO.out,KR.out,← E6.out];exact e6.out) (by rw[KO.out,KR.out,KC.out,← E6.out,show (i6+if xr=true then 1 else 0)=i7 by rw[E7.out];cases xr <;> rfl];exact e7.out)
     rw[KO.out,KR.out,KC.out,← hflag,← hend] at PE
     have hnot:∀ i:Int,j+1≤i→i≤4→x0.data.toList≠wordK i:=fun i h1 h2 e=>absurd (wordK_inj c0 (by omega) (by omega) h2 (hwk.symm.trans e)) (by omega)
     have PE:=Aside0.mk PE
     have hsmA:Aside0 (smA (actV x1 j x2 x3 rn rd cn cd n3 n4 n5)=true):=⟨smA_of (by rw[← e1.out];exact hsz.out 1) (by rw[← e2.out];exact hsz.out 2) (by rw[E3.out];first|exact hsz.out 6|exact Nat.zero_le _) (numc_sz e6.out (hsz.out i6)) (numc_sz e7.out (hsz.out i7))⟩
     clear hflag hend hwk E3 E6 E7 E8 O6 O7 O8 HO1 HO2 HO3 HO4 HO5 e1 e2 e3 e4 e5 KO KR KC
     obtain⟨⟨A,cc,hc0,hcA⟩,hc1,hf0,hf1,hrow,hneg,hszg,hing⟩:=hR16
     cases ok8
     ·have PN:parseWs (ws.map (·.data.toList))=none:=PE.out
      go_wp2
      go_roundg (gk-1)
      case measure=>have:=hj.out;omega
      case rel=>exact⟨j+1,rfl,⟨by have:=hj.out;omega⟩,⟨by have:=hk.out;omega⟩,⟨Or.inr ⟨PN,hnot⟩⟩,⟨hr16⟩,⟨hB16⟩⟩
     ·by_cases hm:ws.length-i8=0
      ·rw[hm] at hc0
       have hm0:((0:Nat):Int)=0:=rfl
       have d0:=bc_ ⟨ha16⟩ 0 rfl;have d1:=bc_ ⟨ha16⟩ 1 rfl;have d2:=bc_ ⟨ha16⟩ 2 rfl;have d3:=bc_ ⟨ha16⟩ 3 rfl;have d4:=bc_ ⟨ha16⟩ 4 rfl;have d5:=bc_ ⟨ha16⟩ 5 rfl;have d6:=bc_ ⟨ha16⟩ 6 rfl;have d7:=bc_ ⟨ha16⟩ 7 rfl;have d8:=bc_ ⟨ha16⟩ 8 rfl;have d9:=bc_ ⟨ha16⟩ 9 rfl;have d10:=bc_ ⟨ha16⟩ 10 rfl;have k0:=blk_frozen ha16 0;have k1:=blk_frozen ha16 1;have k2:=blk_frozen ha16 2;have k3:=blk_frozen ha16 3;have k4:=blk_frozen ha16 4;have k5:=blk_frozen ha16 5;have k6:=blk_frozen ha16 6;have k7:=blk_frozen ha16 7;have k8:=blk_frozen ha16 8;have k9:=blk_frozen ha16 9;have k10:=blk_frozen ha16 10
       generalize hmay:mayA (actV x1 j x2 x3 rn rd cn cd n3 n4 n5)=bm at PE
       have hfm:action_May.f x1 j x2 x3 rn rd cn cd n3 n4 n5=some bm:=by unfold action_May.f;rw[if_pos hsmA.out,hmay]
       clear hsmA hmay
       cases bm
       ·have PN:parseWs (ws.map (·.data.toList))=none:=PE.out.trans (if_neg (by simp))
        go_wp2_with (first|(go_at_call 11;refine(action_May.calls x1 j x2 x3 rn rd cn cd n3 n4 n5 false w16 (hL.below hB16) hfm).mono ?_;rintro e w17 ⟨rfl,b17⟩;have hr17:=blk_below hr16 b17;have hB17:=hB16.trans (b17.mono (below_size hB16))))
        go_roundg (gk-1)
        case measure=>have:=hj.out;omega
        case rel=>exact⟨j+1,rfl,⟨by have:=hj.out;omega⟩,⟨by have:=hk.out;omega⟩,⟨Or.inr ⟨PN,hnot⟩⟩,⟨hr17⟩,⟨hB17⟩⟩
       ·have PS:outW (ws.map (·.data.toList))=(actV x1 j x2 x3 rn rd cn cd n3 n4 n5,0):=outW_some (PE.out.trans (if_pos (by rw[hm];rfl)))
        have hge:w.heap.size≤gr:=GR.out
        have nga:ga≠gr:=hnr
        go_wp2_with (first|(go_at_call 11;refine(action_May.calls x1 j x2 x3 rn rd cn cd n3 n4 n5 true w16 (hL.below hB16) hfm).mono ?_;clear d0 d1 d2 d3 d4 d5 d6 d7 d8 d9 d10 k0 k1 k2 k3 k4 k5 k6 k7 k8 k9 k10;rintro e w17 ⟨rfl,b17⟩;have ha17:=blk_below ha16 b17;have hr17:=blk_below hr16 b17;have hB17:=hB16.trans (b17.mono (below_size hB16));have d0:=bc_ ⟨ha17⟩ 0 rfl;have d1:=bc_ ⟨ha17⟩ 1 rfl;have d2:=bc_ ⟨ha17⟩ 2 rfl;have d3:=bc_ ⟨ha17⟩ 3 rfl;have d4:=bc_ ⟨ha17⟩ 4 rfl;have d5:=bc_ ⟨ha17⟩ 5 rfl;have d6:=bc_ ⟨ha17⟩ 6 rfl;have d7:=bc_ ⟨ha17⟩ 7 rfl;have d8:=bc_ ⟨ha17⟩ 8 rfl;have d9:=bc_ ⟨ha17⟩ 9 rfl;have d10:=bc_ ⟨ha17⟩ 10 rfl;have c0:=bc_ ⟨hr17⟩ 0 rfl;have c1:=bc_ ⟨hr17⟩ 1 rfl;have c2:=bc_ ⟨hr17⟩ 2 rfl;have c3:=bc_ ⟨hr17⟩ 3 rfl;have c4:=bc_ ⟨hr17⟩ 4 rfl;have c5:=bc_ ⟨hr17⟩ 5 rfl;have c6:=bc_ ⟨hr17⟩ 6 rfl;have c7:=bc_ ⟨hr17⟩ 7 rfl;have c8:=bc_ ⟨hr17⟩ 8 rfl;have c9:=bc_ ⟨hr17⟩ 9 rfl;have c10:=bc_ ⟨hr17⟩ 10 rfl;have f0:=blk_frozen hr17 0;have f1:=blk_frozen hr17 1;have f2:=blk_frozen hr17 2;have f3:=blk_frozen hr17 3;have f4:=blk_frozen hr17 4;have f5:=blk_frozen hr17 5;have f6:=blk_frozen hr17 6;have f7:=blk_frozen hr17 7;have f8:=blk_frozen hr17 8;have f9:=blk_frozen hr17 9;have f10:=blk_frozen hr17 10))
        refine bodyPost_ret (results_ct rfl _ _ gr 25 #[.string x1,.int .i64 j,.string x2,.string x3,.string rn,.string rd,.string cn,.string cd,.int .i64 n3,.int .i64 n4,.int .i64 n5] (0,0) _ rfl (blk_set11 hr17 _ _ _ _ _ _ _ _ _ _ _) Tryz.underlying25 rfl (by kernel_rfl)) rfl ?_
        (try rw[PS])
        exact⟨rfl,below_set11 hB17 hge _ _ _ _ _ _ _ _ _ _ _⟩
      ·have PN:parseWs (ws.map (·.data.toList))=none:=PE.out.trans (if_neg (by simp[hm]))
       clear hcA
       generalize ws.length-i8=m at hc0 hm
       have em:((m:Int) == 0)=false:=beq_eq_false_iff_ne.2 (by omega)
       go_wp2
       go_roundg (gk-1)
       case measure=>have:=hj.out;omega
       case rel=>exact⟨j+1,rfl,⟨by have:=hj.out;omega⟩,⟨by have:=hk.out;omega⟩,⟨Or.inr ⟨PN,hnot⟩⟩,⟨hr16⟩,⟨hB16⟩⟩
    ·have hx3:ws.getD 6 ⟨#[]⟩=x3:=E3.out.symm
     have hi6:i6=7:=E6.out
     go_upto_region 10 with (first|(refine gl_ 39 Tryz.func18 #[.pointer (some ⟨g,0,none⟩)] ?_;refine mo_ (word_c hB10 GG.out hR10 hx3) ?_;clear hR10 d3 k3 c71;rintro w39 ⟨ok6,O6,hR39,hB39,hK⟩;have ha39:=hK.blk hng ha10;have hr39:=hK.blk hne.out hr10;have hs39:=hK.blk hgs hs10;clear hK hB10 ha10 hr10 hs10;have d3:=bc_ ⟨ha39⟩ 3 rfl;have k3:=blk_frozen ha39 3))
     clear d3 k3
     have ha11:(w39.setCell ⟨ga,3,none⟩ (.string x3)).heap[ga]?=some (.cells #[.string x1,.int .i64 j,.string x2,.string x3,.string ⟨#[]⟩,.string ⟨#[]⟩,.string ⟨#[]⟩,.string ⟨#[]⟩,.int .i64 n3,.int .i64 n4,.int .i64 n5] 25 (0,0)):=blk_set ha39 3 _
     have hR11:Rd (w39.setCell ⟨ga,3,none⟩ (.string x3)) g gb ws i6 ok6:=by rw[hi6];exact hR39.far hng hgb2 3 (.string x3)
     have hr11:=blk_far hr39 (p:=⟨ga,3,none⟩) hnr.symm (.string x3)
     have hs11:=blk_far hs39 (p:=⟨ga,3,none⟩) hna.symm (.string x3)
     have hB11:Below w.heap.size w (w39.setCell ⟨ga,3,none⟩ (.string x3)):=hB39.setCell hga (.string x3)
     clear hR39 hr39 hs39 hB39 ha39 hx3 hi6
     generalize (w39.setCell ⟨ga,3,none⟩ (.string x3))=w11 at ha11 hR11 hr11 hs11 hB11 ⊢
     obtain⟨rn,rd,b6,e6⟩:=num_res xr (ws.getD i6 ⟨#[]⟩)
     obtain⟨i7,E7⟩:∃ i:Nat,Aside0 (i=if xr=true then i6+1 else i6):=⟨_,⟨rfl⟩⟩
     obtain⟨cn,cd,b7,e7⟩:=num_res xc (ws.getD i7 ⟨#[]⟩)
     obtain⟨i8,E8⟩:∃ i:Nat,Aside0 (i=if xc=true then i7+1 else i7):=⟨_,⟨rfl⟩⟩
     replace ha11:=blk_drew ha11
     replace hR11:=hR11.drew
     replace hr11:=blk_drew hr11
     have hs11:=Aside0.mk (blk_drew hs11)
     replace hB11:=below_drew1 hB11
     refine sa_ 12 (fun w'=>w'.cell? ⟨gs,2,none⟩=some (.bool xr)∧w'.cell? ⟨gs,3,none⟩=some (.bool xc)) (fun hHeld=>?_)
     refine with_tabW aparse_tab10 aparse_bits10 (fun HT_ HW_=>?_)
     generalize w11.drew=w12 at ha11 hR11 hr11 hs11 hB11 hHeld ⊢
     refine pu_ 0 41 rfl rfl HT_ ?_;refine pu_ 1 42 rfl rfl HT_ ?_;refine pu_ 4 45 rfl rfl HT_ ?_;refine pu_ 5 46 rfl rfl HT_ ?_;refine t2_ 2 43 rfl rfl HT_ HW_ hHeld ?_;refine t2_ 6 47 rfl rfl HT_ HW_ hHeld ?_
     refine on_ 3 (some 44) rfl rfl HT_ (fun K hK=>?_);refine gs_ Tryz.func21 #[.pointer (some ⟨g,0,none⟩),.bool xr] ?_;refine mo_ (num_c hL hB11 GG.out hR11 rfl (hsz.out i6) e6.out) ?_;clear hR11 hHeld;rintro w13 ⟨ok7,O7,hR13,hB13,hQ⟩
     have ha13:=hQ.blk hng ha11;have hr13:=hQ.blk hne.out hr11;have hs13:=Aside0.mk (hQ.blk hgs hs11.out);rw[← E7.out] at hR13;clear hQ ha11 hr11 hs11 hB11
     refine hk_ hK (fun hHeld=>?_);clear hK K;refine nm_ ?_
     refine pu_ 8 49 rfl rfl HT_ ?_
     refine on_ 7 (some 48) rfl rfl HT_ (fun K hK=>?_);refine gs_ Tryz.func21 #[.pointer (some ⟨g,0,none⟩),.bool xc] ?_;refine mo_ (num_c hL hB13 GG.out hR13 rfl (hsz.out i7) e7.out) ?_;clear hR13 hHeld;rintro w14 ⟨ok8,O8,hR14,hB14,hQ⟩
     have ha14:=hQ.blk hng ha13;have hr14:=hQ.blk hne.out hr13;have hs14:=Aside0.mk (hQ.blk hgs hs13.out);rw[← E8.out] at hR14;clear hQ ha13 hr13 hs13 hB13
     refine hk_ hK (fun hHeld=>?_);clear hK K;refine nm_ ?_
     refine on_ 9 none rfl rfl HT_ (fun K hK=>?_)
     have d4:=bc_ ⟨ha14⟩ 4 rfl;have d5:=bc_ ⟨ha14⟩ 5 rfl;have k4:=blk_frozen ha14 4;have k5:=blk_frozen ha14 5
     refine skip_ (w1:=?_) (by rfl) rfl ?_ ?_;rotate_left
     ·go_simp
      rfl
     clear d4 d5 k4 k5
     have ha15:((w14.setCell ⟨ga,4,none⟩ (.string rn)).setCell ⟨ga,5,none⟩ (.string rd)).heap[ga]?=some (.cells #[.string x1,.int .i64 j,.string x2,.string x3,.string rn,.string rd,.string ⟨#[]⟩,.string ⟨#[]⟩,.int .i64 n3,.int .i64 n4,.int .i64 n5] 25 (0,0)):=blk_set (blk_set ha14 4 _) 5 _
     have hR15:=(hR14.far hng hgb2 4 (.string rn)).far hng hgb2 5 (.string rd)
     have hr15:=blk_far (p:=⟨ga,5,none⟩) (blk_far (p:=⟨ga,4,none⟩) hr14 hnr.symm (.string rn)) hnr.symm (.string rd)
     have hs15:=Aside0.mk (blk_far (p:=⟨ga,5,none⟩) (blk_far (p:=⟨ga,4,none⟩) hs14.out hna.symm (.string rn)) hna.symm (.string rd))
     have hB15:Below w.heap.size w ((w14.setCell ⟨ga,4,none⟩ (.string rn)).setCell ⟨ga,5,none⟩ (.string rd)):=(hB14.setCell hga (.string rn)).setCell hga (.string rd)
     clear ha14 hR14 hr14 hs14 hB14 hHeld
     generalize ((w14.setCell ⟨ga,4,none⟩ (.string rn)).setCell ⟨ga,5,none⟩ (.string rd))=w15 at ha15 hR15 hr15 hs15 hB15 ⊢
     refine hk_ hK (fun hHeld=>?_);clear hK K
     refine pu_ 10 50 rfl rfl HT_ ?_
     refine on_ 11 none rfl rfl HT_ (fun K hK=>?_)
     have d6:=bc_ ⟨ha15⟩ 6 rfl;have d7:=bc_ ⟨ha15⟩ 7 rfl;have k6:=blk_frozen ha15 6;have k7:=blk_frozen ha15 7
     refine skip_ (w1:=?_) (by rfl) rfl ?_ ?_;rotate_left
     ·go_simp
      rfl
     clear d6 d7 k6 k7
     have ha16:((w15.setCell ⟨ga,6,none⟩ (.string cn)).setCell ⟨ga,7,none⟩ (.string cd)).heap[ga]?=some (.cells #[.string x1,.int .i64 j,.string x2,.string x3,.string rn,.string rd,.string cn,.string cd,.int .i64 n3,.int .i64 n4,.int .i64 n5] 25 (0,0)):=blk_set (blk_set ha15 6 _) 7 _
     have hR16:=(hR15.far hng hgb2 6 (.string cn)).far hng hgb2 7 (.string cd)
     have hr16:=blk_far (p:=⟨ga,7,none⟩) (blk_far (p:=⟨ga,6,none⟩) hr15 hnr.symm (.string cn)) hnr.symm (.string cd)
     have hs16:=Aside0.mk (blk_far (p:=⟨ga,7,none⟩) (blk_far (p:=⟨ga,6,none⟩) hs15.out hna.symm (.string cn)) hna.symm (.string cd))
     have hB16:Below w.heap.size w ((w15.setCell ⟨ga,6,none⟩ (.string cn)).setCell ⟨ga,7,none⟩ (.string cd)):=(hB15.setCell hga (.string cn)).setCell hga (.string cd)
     clear ha15 hR15 hr15 hs15 hB15 hHeld
     generalize ((w15.setCell ⟨ga,6,none⟩ (.string cn)).setCell ⟨ga,7,none⟩ (.string cd))=w16 at ha16 hR16 hr16 hs16 hB16 ⊢
     refine hk_ hK (fun hHeld=>?_);clear hK K
     refine done_ (done_of HT_.out (by kernel_rfl)) ?_
     clear HT_ HW_ hHeld hs16
     have hwk:=(ix_same c0 c8 HXW.out hX.out).2.2
     obtain⟨hflag,hend⟩:=flag_ok HO1.out HO2.out HO3.out HO4.out HO5.out O6.out E6.out O7.out E7.out O8.out E8.out
     have PE:=parse_end (x3:=x3) (rn:=rn) (rd:=rd) (cn:=cn) (cd:=cd) c0 (by omega) ((congrArg (fun z:ByteArray=>z.data.toList) hx0.out).trans hwk) e1.out e2.out e3.out e4.out e5.out (by rw[KO.out];exact E3.out) (by rw[KO.out,KR.out,← E6.out];exact e6.out) (by rw[KO.out,KR.out,KC.out,← E6.out,show (i6+if xr=true then 1 else 0)=i7 by rw[E7.out];cases xr <;> rfl];exact e7.out)
     rw[KO.out,KR.out,KC.out,← hflag,← hend] at PE
     have hnot:∀ i:Int,j+1≤i→i≤4→x0.data.toList≠wordK i:=fun i h1 h2 e=>absurd (wordK_inj c0 (by omega) (by omega) h2 (hwk.symm.trans e)) (by omega)
     have PE:=Aside0.mk PE
     have hsmA:Aside0 (smA (actV x1 j x2 x3 rn rd cn cd n3 n4 n5)=true):=⟨smA_of (by rw[← e1.out];exact hsz.out 1) (by rw[← e2.out];exact hsz.out 2) (by rw[E3.out];first|exact hsz.out 6|exact Nat.zero_le _) (numc_sz e6.out (hsz.out i6)) (numc_sz e7.out (hsz.out i7))⟩
     clear hflag hend hwk E3 E6 E7 E8 O6 O7 O8 HO1 HO2 HO3 HO4 HO5 e1 e2 e3 e4 e5 KO KR KC
     obtain⟨⟨A,cc,hc0,hcA⟩,hc1,hf0,hf1,hrow,hneg,hszg,hing⟩:=hR16
     cases ok8
     ·have PN:parseWs (ws.map (·.data.toList))=none:=PE.out
      go_wp2
      go_roundg (gk-1)
      case measure=>have:=hj.out;omega
      case rel=>exact⟨j+1,rfl,⟨by have:=hj.out;omega⟩,⟨by have:=hk.out;omega⟩,⟨Or.inr ⟨PN,hnot⟩⟩,⟨hr16⟩,⟨hB16⟩⟩
     ·by_cases hm:ws.length-i8=0
      ·rw[hm] at hc0
       have hm0:((0:Nat):Int)=0:=rfl
       have d0:=bc_ ⟨ha16⟩ 0 rfl;have d1:=bc_ ⟨ha16⟩ 1 rfl;have d2:=bc_ ⟨ha16⟩ 2 rfl;have d3:=bc_ ⟨ha16⟩ 3 rfl;have d4:=bc_ ⟨ha16⟩ 4 rfl;have d5:=bc_ ⟨ha16⟩ 5 rfl;have d6:=bc_ ⟨ha16⟩ 6 rfl;have d7:=bc_ ⟨ha16⟩ 7 rfl;have d8:=bc_ ⟨ha16⟩ 8 rfl;have d9:=bc_ ⟨ha16⟩ 9 rfl;have d10:=bc_ ⟨ha16⟩ 10 rfl;have k0:=blk_frozen ha16 0;have k1:=blk_frozen ha16 1;have k2:=blk_frozen ha16 2;have k3:=blk_frozen ha16 3;have k4:=blk_frozen ha16 4;have k5:=blk_frozen ha16 5;have k6:=blk_frozen ha16 6;have k7:=blk_frozen ha16 7;have k8:=blk_frozen ha16 8;have k9:=blk_frozen ha16 9;have k10:=blk_frozen ha16 10
       generalize hmay:mayA (actV x1 j x2 x3 rn rd cn cd n3 n4 n5)=bm at PE
       have hfm:action_May.f x1 j x2 x3 rn rd cn cd n3 n4 n5=some bm:=by unfold action_May.f;rw[if_pos hsmA.out,hmay]
       clear hsmA hmay
       cases bm
       ·have PN:parseWs (ws.map (·.data.toList))=none:=PE.out.trans (if_neg (by simp))
        go_wp2_with (first|(go_at_call 11;refine(action_May.calls x1 j x2 x3 rn rd cn cd n3 n4 n5 false w16 (hL.below hB16) hfm).mono ?_;rintro e w17 ⟨rfl,b17⟩;have hr17:=blk_below hr16 b17;have hB17:=hB16.trans (b17.mono (below_size hB16))))
        go_roundg (gk-1)
        case measure=>have:=hj.out;omega
        case rel=>exact⟨j+1,rfl,⟨by have:=hj.out;omega⟩,⟨by have:=hk.out;omega⟩,⟨Or.inr ⟨PN,hnot⟩⟩,⟨hr17⟩,⟨hB17⟩⟩
       ·have PS:outW (ws.map (·.data.toList))=(actV x1 j x2 x3 rn rd cn cd n3 n4 n5,0):=outW_some (PE.out.trans (if_pos (by rw[hm];rfl)))
        have hge:w.heap.size≤gr:=GR.out
        have nga:ga≠gr:=hnr
        go_wp2_with (first|(go_at_call 11;refine(action_May.calls x1 j x2 x3 rn rd cn cd n3 n4 n5 true w16 (hL.below hB16) hfm).mono ?_;clear d0 d1 d2 d3 d4 d5 d6 d7 d8 d9 d10 k0 k1 k2 k3 k4 k5 k6 k7 k8 k9 k10;rintro e w17 ⟨rfl,b17⟩;have ha17:=blk_below ha16 b17;have hr17:=blk_below hr16 b17;have hB17:=hB16.trans (b17.mono (below_size hB16));have d0:=bc_ ⟨ha17⟩ 0 rfl;have d1:=bc_ ⟨ha17⟩ 1 rfl;have d2:=bc_ ⟨ha17⟩ 2 rfl;have d3:=bc_ ⟨ha17⟩ 3 rfl;have d4:=bc_ ⟨ha17⟩ 4 rfl;have d5:=bc_ ⟨ha17⟩ 5 rfl;have d6:=bc_ ⟨ha17⟩ 6 rfl;have d7:=bc_ ⟨ha17⟩ 7 rfl;have d8:=bc_ ⟨ha17⟩ 8 rfl;have d9:=bc_ ⟨ha17⟩ 9 rfl;have d10:=bc_ ⟨ha17⟩ 10 rfl;have c0:=bc_ ⟨hr17⟩ 0 rfl;have c1:=bc_ ⟨hr17⟩ 1 rfl;have c2:=bc_ ⟨hr17⟩ 2 rfl;have c3:=bc_ ⟨hr17⟩ 3 rfl;have c4:=bc_ ⟨hr17⟩ 4 rfl;have c5:=bc_ ⟨hr17⟩ 5 rfl;have c6:=bc_ ⟨hr17⟩ 6 rfl;have c7:=bc_ ⟨hr17⟩ 7 rfl;have c8:=bc_ ⟨hr17⟩ 8 rfl;have c9:=bc_ ⟨hr17⟩ 9 rfl;have c10:=bc_ ⟨hr17⟩ 10 rfl;have f0:=blk_frozen hr17 0;have f1:=blk_frozen hr17 1;have f2:=blk_frozen hr17 2;have f3:=blk_frozen hr17 3;have f4:=blk_frozen hr17 4;have f5:=blk_frozen hr17 5;have f6:=blk_frozen hr17 6;have f7:=blk_frozen hr17 7;have f8:=blk_frozen hr17 8;have f9:=blk_frozen hr17 9;have f10:=blk_frozen hr17 10))
        refine bodyPost_ret (results_ct rfl _ _ gr 25 #[.string x1,.int .i64 j,.string x2,.string x3,.string rn,.string rd,.string cn,.string cd,.int .i64 n3,.int .i64 n4,.int .i64 n5] (0,0) _ rfl (blk_set11 hr17 _ _ _ _ _ _ _ _ _ _ _) Tryz.underlying25 rfl (by kernel_rfl)) rfl ?_
        (try rw[PS])
        exact⟨rfl,below_set11 hB17 hge _ _ _ _ _ _ _ _ _ _ _⟩
      ·have PN:parseWs (ws.map (·.data.toList))=none:=PE.out.trans (if_neg (by simp[hm]))
       clear hcA
       generalize ws.length-i8=m at hc0 hm
       have em:((m:Int) == 0)=false:=beq_eq_false_iff_ne.2 (by omega)
       go_wp2
       go_roundg (gk-1)
       case measure=>have:=hj.out;omega
       case rel=>exact⟨j+1,rfl,⟨by have:=hj.out;omega⟩,⟨by have:=hk.out;omega⟩,⟨Or.inr ⟨PN,hnot⟩⟩,⟨hr16⟩,⟨hB16⟩⟩
   ·have hxb0:(xw.toList == x0.toList)=false:=beq_eq_false_iff_ne.mpr hx
    have hxb1:(xw.toList != x0.toList)=true:=bne_iff_ne.mpr hx
    have hX:=Aside0.mk hx
    clear hx
    go_wp2
    go_roundg (gk-1)
    case measure=>have:=hj.out;omega
    case rel=>exact⟨j+1,rfl,⟨by have:=hj.out;omega⟩,⟨by have:=hk.out;omega⟩,⟨hS.out.next (ix_not c0 c8 HXW.out hX.out) hS8⟩,⟨hr8⟩,⟨hB8⟩⟩
  ·have b8:decide (j<5)=false:=decide_eq_false c8
   have PS:outW (ws.map (·.data.toList))=(zeroA,150):=outW_none (St.none hx0.out (by have:=hj.out;omega) hS.out)
   have hr8:=hr.out
   have hB8:=hB.out
   have hge:w.heap.size≤gr:=GR.out
   have c0:=bc_ ⟨hr8⟩ 0 rfl;have c1:=bc_ ⟨hr8⟩ 1 rfl;have c2:=bc_ ⟨hr8⟩ 2 rfl;have c3:=bc_ ⟨hr8⟩ 3 rfl;have c4:=bc_ ⟨hr8⟩ 4 rfl;have c5:=bc_ ⟨hr8⟩ 5 rfl;have c6:=bc_ ⟨hr8⟩ 6 rfl;have c7:=bc_ ⟨hr8⟩ 7 rfl;have c8:=bc_ ⟨hr8⟩ 8 rfl;have c9:=bc_ ⟨hr8⟩ 9 rfl;have c10:=bc_ ⟨hr8⟩ 10 rfl;have f0:=blk_frozen hr8 0;have f1:=blk_frozen hr8 1;have f2:=blk_frozen hr8 2;have f3:=blk_frozen hr8 3;have f4:=blk_frozen hr8 4;have f5:=blk_frozen hr8 5;have f6:=blk_frozen hr8 6;have f7:=blk_frozen hr8 7;have f8:=blk_frozen hr8 8;have f9:=blk_frozen hr8 9;have f10:=blk_frozen hr8 10
   go_wp2
   refine bodyPost_ret (results_ct rfl _ _ gr 25 #[.string ⟨#[]⟩,.int .i64 0,.string ⟨#[]⟩,.string ⟨#[]⟩,.string ⟨#[]⟩,.string ⟨#[]⟩,.string ⟨#[]⟩,.string ⟨#[]⟩,.int .i64 0,.int .i64 0,.int .i64 0] (0,0) _ rfl (blk_set11 hr8 _ _ _ _ _ _ _ _ _ _ _) Tryz.underlying25 rfl (by kernel_rfl)) rfl ?_
   (try rw[PS])
   exact⟨rfl,below_set11 hB8 hge _ _ _ _ _ _ _ _ _ _ _⟩
end Go.Proofs.YtoghmeffpgbcfaaGreatDoor
end

section
namespace Go.Proofs.YtoghmeffpgbcfaaGreatDoor
abbrev FlatA:=ByteArray×Int×ByteArray×ByteArray×ByteArray×ByteArray×ByteArray×ByteArray×Int×Int×Int×Int
def flatA (p:ActV×Int):FlatA:=(p.1.name,p.1.kind,p.1.asset,p.1.other,p.1.ratio.1,p.1.ratio.2,p.1.cash.1,p.1.cash.2,p.1.ex,p.1.rec_,p.1.pay,p.2)
theorem word_size (s:ByteArray) (i:Nat):((Lib.splitB ⟨#[32]⟩ 0 (Lib.countB s ⟨#[32]⟩) s).getD i ⟨#[]⟩).size≤s.size:=by
 have h:=wAt_map (Lib.splitB ⟨#[32]⟩ 0 (Lib.countB s ⟨#[32]⟩) s) i
 rw[size_len,← h,words_of,size_len]
 unfold wAt
 rw[List.getD_eq_getElem?_getD]
 cases e:(splitL s.data.toList)[i]? with
 | none=>exact Nat.zero_le _
 | some w=>exact(split_len s.data.toList).2 w (List.mem_of_getElem? e)
theorem parse_calls (s:ByteArray) (w:World) (hL:Laid w) (hs:s.size≤1100) :
  Calls Tryz.prog 9 #[.string s] w fun e w'=>e=.returned (.tuple #[cellsA (parseAct s).1,.int .i64 (parseAct s).2])∧Below w.heap.size w w':=by
 have hl:=Lib.splitB_all ⟨#[32]⟩ (by decide) 0 (Lib.countB s ⟨#[32]⟩) s rfl
 have hn:=(split_len s.data.toList).1
 rw[← words_of,List.length_map,← size_len] at hn
 have h:=parse_walk s _ _ w hL hs rfl hl.symm ⟨rfl⟩ (by omega) ⟨fun i=>Nat.le_trans (word_size s i) hs⟩
 rw[words_of] at h
 exact h
def action_Parse.f (a0:ByteArray):Option FlatA:=if a0.size≤1100 then some (flatA (parseAct a0)) else none
theorem action_Parse.calls (a0:ByteArray) (r1:ByteArray) (r2:Int) (r3:ByteArray) (r4:ByteArray) (r5:ByteArray) (r6:ByteArray) (r7:ByteArray) (r8:ByteArray) (r9:Int) (r10:Int) (r11:Int) (r12:Int) (w:World) (hL_:Laid w) (h:action_Parse.f a0=some (r1,r2,r3,r4,r5,r6,r7,r8,r9,r10,r11,r12)) :
  Calls Tryz.prog 9 #[.string a0] w fun e w'=>e=.returned (.tuple #[.agg #[.string r1,.int .i64 r2,.string r3,.string r4,.string r5,.string r6,.string r7,.string r8,.int .i64 r9,.int .i64 r10,.int .i64 r11],.int .i64 r12])∧Below w.heap.size w w':=by
 unfold action_Parse.f at h
 split at h
 ·rename_i hs
  have h':=Option.some.inj h
  unfold flatA at h'
  simp only[Prod.mk.injEq] at h'
  obtain⟨rfl,rfl,rfl,rfl,rfl,rfl,rfl,rfl,rfl,rfl,rfl,rfl⟩:=h'
  exact parse_calls a0 w hL_ hs
 ·cases h
end Go.Proofs.YtoghmeffpgbcfaaGreatDoor
end

section
namespace Go.Proofs.YtoghmeffpgbcfaaGreatDoor
theorem r3of_f (n:Int) (h0:-9223372036854775808≤n) (h1:n≤9223372036854775807):Pz.r3_Of.f n=some (rT (n:Rat)):=by
 unfold Pz.r3_Of.f r2_Of.f
 rw[if_pos ⟨h0,h1⟩,Option.bind_some,← natB_one]
 rfl
def r3_Of.f (a0:Int):Option (ByteArray×ByteArray):=if -9223372036854775808≤a0∧a0≤9223372036854775807 then some (rT (a0:Rat)) else none
theorem r3_Of.calls (a0:Int) (r1:ByteArray) (r2:ByteArray) (w:World) (h:r3_Of.f a0=some (r1,r2)) :
  Calls Tryz.prog 15 #[.int .i64 a0] w fun e w'=>e=.returned (.agg #[.string r1,.string r2])∧Below w.heap.size w w':=by
 unfold r3_Of.f at h
 split at h
 ·rename_i hp
  rw[← r3of_f a0 hp.1 hp.2] at h
  exact Pz.r3_Of.calls a0 r1 r2 w h
 ·cases h
end Go.Proofs.YtoghmeffpgbcfaaGreatDoor
end

section
namespace Go.Proofs.YtoghmeffpgbcfaaGreatDoor
end Go.Proofs.YtoghmeffpgbcfaaGreatDoor
end

section
namespace Go.Proofs.YtoghmeffpgbcfaaGreatDoor
end Go.Proofs.YtoghmeffpgbcfaaGreatDoor
end

section
namespace Go.Proofs.YtoghmeffpgbcfaaGreatDoor.Pm
def errW:Option Int→Value
 | none=>.nilIface
 | some c=>.iface 0 (.int .i64 c)
theorem errW_none:errW none=.nilIface:=rfl
theorem errW_some (c:Int):errW (some c)=.iface 0 (.int .i64 c):=rfl
end Go.Proofs.YtoghmeffpgbcfaaGreatDoor.Pm
end

section
namespace Go.Proofs.YtoghmeffpgbcfaaGreatDoor.Pm
def r15_Light.f (a0_0:ByteArray) (a0_1:Int) (a0_2:ByteArray) (a0_3:ByteArray) (a0_4:ByteArray) (a0_5:ByteArray) (a0_6:ByteArray) (a0_7:ByteArray) (a0_8:Int) (a0_9:Int) (a0_10:Int):Option (Bool):=if (a0_4.size:Int)≤30 then (if (a0_5.size:Int)≤30 then (if (a0_6.size:Int)≤30 then (if (a0_7.size:Int)≤30 then (some (decide ((wrap64 ((wrap64 ((a0_0.size:Int)+(a0_2.size:Int)))+(a0_3.size:Int)))≤200))) else (some false)) else (some false)) else (some false)) else (some false)
set_option maxHeartbeats 8000000 in
set_option maxRecDepth 100000 in
theorem r15_Light.calls (a0_0:ByteArray) (a0_1:Int) (a0_2:ByteArray) (a0_3:ByteArray) (a0_4:ByteArray) (a0_5:ByteArray) (a0_6:ByteArray) (a0_7:ByteArray) (a0_8:Int) (a0_9:Int) (a0_10:Int) (r:Bool) (w:World) (h:r15_Light.f a0_0 a0_1 a0_2 a0_3 a0_4 a0_5 a0_6 a0_7 a0_8 a0_9 a0_10=some r) :
  Calls Tryz.prog 7 #[.agg #[.string a0_0,.int .i64 a0_1,.string a0_2,.string a0_3,.string a0_4,.string a0_5,.string a0_6,.string a0_7,.int .i64 a0_8,.int .i64 a0_9,.int .i64 a0_10]] w fun e w'=>e=.returned (.bool r)∧Below w.heap.size w w':=by
 have hu25:=Tryz.underlying25;have HB:=Aside0.mk (Below.refl w.heap.size w);have H:=h;unfold r15_Light.f at H;clear h;by_cases c2:(a0_4.size:Int)≤30
 ·rw[if_pos c2] at H;have c2b0:decide ((a0_4.size:Int)≤30)=true:=decide_eq_true c2;have c2b1:decide (a0_4.size≤30)=true:=decide_eq_true (by omega);clear c2;by_cases c3:(a0_5.size:Int)≤30
  ·rw[if_pos c3] at H;have c3b0:decide ((a0_5.size:Int)≤30)=true:=decide_eq_true c3;have c3b1:decide (a0_5.size≤30)=true:=decide_eq_true (by omega);clear c3;by_cases c4:(a0_6.size:Int)≤30
   ·rw[if_pos c4] at H;have c4b0:decide ((a0_6.size:Int)≤30)=true:=decide_eq_true c4;have c4b1:decide (a0_6.size≤30)=true:=decide_eq_true (by omega);clear c4;by_cases c5:(a0_7.size:Int)≤30
    ·rw[if_pos c5] at H;have c5b0:decide ((a0_7.size:Int)≤30)=true:=decide_eq_true c5;have c5b1:decide (a0_7.size≤30)=true:=decide_eq_true (by omega);clear c5;obtain rfl:=Option.some.inj H;go_enter Tryz.func7,Tryz.ntmps7
     go_wp2_with (first|((with_reducible refine gate_dst (N:=1) rfl ?_);(try(refine gate_guard (by rfl) ?_;dsimp only));refine be_ 1 #[.string a0_0,.int .i64 a0_1,.string a0_2,.string a0_3,.string a0_4,.string a0_5,.string a0_6,.string a0_7,.int .i64 a0_8,.int .i64 a0_9,.int .i64 a0_10] 25 ?_;intro gb101 hg w6 hbox hb;have BK101:=Aside0.mk (hbox);have GW101:=ge_ HB hg;have GE101:=ge_ HB hg;replace HB:=bs_ HB hb;clear hb hbox hg;have hcz7_0:=bc_ BK101 0 rfl;have hcz7_1:=bc_ BK101 1 rfl;have hcz7_2:=bc_ BK101 2 rfl;have hcz7_3:=bc_ BK101 3 rfl;have hcz7_4:=bc_ BK101 4 rfl;have hcz7_5:=bc_ BK101 5 rfl;have hcz7_6:=bc_ BK101 6 rfl;have hcz7_7:=bc_ BK101 7 rfl;have hcz7_8:=bc_ BK101 8 rfl;have hcz7_9:=bc_ BK101 9 rfl;have hcz7_10:=bc_ BK101 10 rfl;have hfz7_0:=blk_frozen BK101.out 0;have hfz7_1:=blk_frozen BK101.out 1;have hfz7_2:=blk_frozen BK101.out 2;have hfz7_3:=blk_frozen BK101.out 3;have hfz7_4:=blk_frozen BK101.out 4;have hfz7_5:=blk_frozen BK101.out 5;have hfz7_6:=blk_frozen BK101.out 6;have hfz7_7:=blk_frozen BK101.out 7;have hfz7_8:=blk_frozen BK101.out 8;have hfz7_9:=blk_frozen BK101.out 9;have hfz7_10:=blk_frozen BK101.out 10))
     go_ret
     exact⟨er_,b_ HB.out⟩
    ·rw[if_neg c5] at H;have c5b0:decide ((a0_7.size:Int)≤30)=false:=decide_eq_false c5;have c5b1:decide (a0_7.size≤30)=false:=decide_eq_false (by omega);clear c5;obtain rfl:=Option.some.inj H;go_enter Tryz.func7,Tryz.ntmps7
     go_wp2_with (first|((with_reducible refine gate_dst (N:=1) rfl ?_);(try(refine gate_guard (by rfl) ?_;dsimp only));refine be_ 1 #[.string a0_0,.int .i64 a0_1,.string a0_2,.string a0_3,.string a0_4,.string a0_5,.string a0_6,.string a0_7,.int .i64 a0_8,.int .i64 a0_9,.int .i64 a0_10] 25 ?_;intro gb101 hg w8 hbox hb;have BK101:=Aside0.mk (hbox);have GW101:=ge_ HB hg;have GE101:=ge_ HB hg;replace HB:=bs_ HB hb;clear hb hbox hg;have hcz9_0:=bc_ BK101 0 rfl;have hcz9_1:=bc_ BK101 1 rfl;have hcz9_2:=bc_ BK101 2 rfl;have hcz9_3:=bc_ BK101 3 rfl;have hcz9_4:=bc_ BK101 4 rfl;have hcz9_5:=bc_ BK101 5 rfl;have hcz9_6:=bc_ BK101 6 rfl;have hcz9_7:=bc_ BK101 7 rfl;have hcz9_8:=bc_ BK101 8 rfl;have hcz9_9:=bc_ BK101 9 rfl;have hcz9_10:=bc_ BK101 10 rfl;have hfz9_0:=blk_frozen BK101.out 0;have hfz9_1:=blk_frozen BK101.out 1;have hfz9_2:=blk_frozen BK101.out 2;have hfz9_3:=blk_frozen BK101.out 3;have hfz9_4:=blk_frozen BK101.out 4;have hfz9_5:=blk_frozen BK101.out 5;have hfz9_6:=blk_frozen BK101.out 6;have hfz9_7:=blk_frozen BK101.out 7;have hfz9_8:=blk_frozen BK101.out 8;have hfz9_9:=blk_frozen BK101.out 9;have hfz9_10:=blk_frozen BK101.out 10))
     go_ret
     exact⟨er_,b_ HB.out⟩
   ·rw[if_neg c4] at H;have c4b0:decide ((a0_6.size:Int)≤30)=false:=decide_eq_false c4;have c4b1:decide (a0_6.size≤30)=false:=decide_eq_false (by omega);clear c4;obtain rfl:=Option.some.inj H;go_enter Tryz.func7,Tryz.ntmps7
    go_wp2_with (first|((with_reducible refine gate_dst (N:=1) rfl ?_);(try(refine gate_guard (by rfl) ?_;dsimp only));refine be_ 1 #[.string a0_0,.int .i64 a0_1,.string a0_2,.string a0_3,.string a0_4,.string a0_5,.string a0_6,.string a0_7,.int .i64 a0_8,.int .i64 a0_9,.int .i64 a0_10] 25 ?_;intro gb101 hg w10 hbox hb;have BK101:=Aside0.mk (hbox);have GW101:=ge_ HB hg;have GE101:=ge_ HB hg;replace HB:=bs_ HB hb;clear hb hbox hg;have hcz11_0:=bc_ BK101 0 rfl;have hcz11_1:=bc_ BK101 1 rfl;have hcz11_2:=bc_ BK101 2 rfl;have hcz11_3:=bc_ BK101 3 rfl;have hcz11_4:=bc_ BK101 4 rfl;have hcz11_5:=bc_ BK101 5 rfl;have hcz11_6:=bc_ BK101 6 rfl;have hcz11_7:=bc_ BK101 7 rfl;have hcz11_8:=bc_ BK101 8 rfl;have hcz11_9:=bc_ BK101 9 rfl;have hcz11_10:=bc_ BK101 10 rfl;have hfz11_0:=blk_frozen BK101.out 0;have hfz11_1:=blk_frozen BK101.out 1;have hfz11_2:=blk_frozen BK101.out 2;have hfz11_3:=blk_frozen BK101.out 3;have hfz11_4:=blk_frozen BK101.out 4;have hfz11_5:=blk_frozen BK101.out 5;have hfz11_6:=blk_frozen BK101.out 6;have hfz11_7:=blk_frozen BK101.out 7;have hfz11_8:=blk_frozen BK101.out 8;have hfz11_9:=blk_frozen BK101.out 9;have hfz11_10:=blk_frozen BK101.out 10))
    go_ret
    exact⟨er_,b_ HB.out⟩
  ·rw[if_neg c3] at H;have c3b0:decide ((a0_5.size:Int)≤30)=false:=decide_eq_false c3;have c3b1:decide (a0_5.size≤30)=false:=decide_eq_false (by omega);clear c3;obtain rfl:=Option.some.inj H;go_enter Tryz.func7,Tryz.ntmps7
   go_wp2_with (first|((with_reducible refine gate_dst (N:=1) rfl ?_);(try(refine gate_guard (by rfl) ?_;dsimp only));refine be_ 1 #[.string a0_0,.int .i64 a0_1,.string a0_2,.string a0_3,.string a0_4,.string a0_5,.string a0_6,.string a0_7,.int .i64 a0_8,.int .i64 a0_9,.int .i64 a0_10] 25 ?_;intro gb101 hg w12 hbox hb;have BK101:=Aside0.mk (hbox);have GW101:=ge_ HB hg;have GE101:=ge_ HB hg;replace HB:=bs_ HB hb;clear hb hbox hg;have hcz13_0:=bc_ BK101 0 rfl;have hcz13_1:=bc_ BK101 1 rfl;have hcz13_2:=bc_ BK101 2 rfl;have hcz13_3:=bc_ BK101 3 rfl;have hcz13_4:=bc_ BK101 4 rfl;have hcz13_5:=bc_ BK101 5 rfl;have hcz13_6:=bc_ BK101 6 rfl;have hcz13_7:=bc_ BK101 7 rfl;have hcz13_8:=bc_ BK101 8 rfl;have hcz13_9:=bc_ BK101 9 rfl;have hcz13_10:=bc_ BK101 10 rfl;have hfz13_0:=blk_frozen BK101.out 0;have hfz13_1:=blk_frozen BK101.out 1;have hfz13_2:=blk_frozen BK101.out 2;have hfz13_3:=blk_frozen BK101.out 3;have hfz13_4:=blk_frozen BK101.out 4;have hfz13_5:=blk_frozen BK101.out 5;have hfz13_6:=blk_frozen BK101.out 6;have hfz13_7:=blk_frozen BK101.out 7;have hfz13_8:=blk_frozen BK101.out 8;have hfz13_9:=blk_frozen BK101.out 9;have hfz13_10:=blk_frozen BK101.out 10))
   go_ret
   exact⟨er_,b_ HB.out⟩
 ·rw[if_neg c2] at H;have c2b0:decide ((a0_4.size:Int)≤30)=false:=decide_eq_false c2;have c2b1:decide (a0_4.size≤30)=false:=decide_eq_false (by omega);clear c2;obtain rfl:=Option.some.inj H;go_enter Tryz.func7,Tryz.ntmps7
  go_wp2_with (first|((with_reducible refine gate_dst (N:=1) rfl ?_);(try(refine gate_guard (by rfl) ?_;dsimp only));refine be_ 1 #[.string a0_0,.int .i64 a0_1,.string a0_2,.string a0_3,.string a0_4,.string a0_5,.string a0_6,.string a0_7,.int .i64 a0_8,.int .i64 a0_9,.int .i64 a0_10] 25 ?_;intro gb101 hg w14 hbox hb;have BK101:=Aside0.mk (hbox);have GW101:=ge_ HB hg;have GE101:=ge_ HB hg;replace HB:=bs_ HB hb;clear hb hbox hg;have hcz15_0:=bc_ BK101 0 rfl;have hcz15_1:=bc_ BK101 1 rfl;have hcz15_2:=bc_ BK101 2 rfl;have hcz15_3:=bc_ BK101 3 rfl;have hcz15_4:=bc_ BK101 4 rfl;have hcz15_5:=bc_ BK101 5 rfl;have hcz15_6:=bc_ BK101 6 rfl;have hcz15_7:=bc_ BK101 7 rfl;have hcz15_8:=bc_ BK101 8 rfl;have hcz15_9:=bc_ BK101 9 rfl;have hcz15_10:=bc_ BK101 10 rfl;have hfz15_0:=blk_frozen BK101.out 0;have hfz15_1:=blk_frozen BK101.out 1;have hfz15_2:=blk_frozen BK101.out 2;have hfz15_3:=blk_frozen BK101.out 3;have hfz15_4:=blk_frozen BK101.out 4;have hfz15_5:=blk_frozen BK101.out 5;have hfz15_6:=blk_frozen BK101.out 6;have hfz15_7:=blk_frozen BK101.out 7;have hfz15_8:=blk_frozen BK101.out 8;have hfz15_9:=blk_frozen BK101.out 9;have hfz15_10:=blk_frozen BK101.out 10))
  go_ret
  exact⟨er_,b_ HB.out⟩
end Go.Proofs.YtoghmeffpgbcfaaGreatDoor.Pm
end

section
namespace Go.Proofs.YtoghmeffpgbcfaaGreatDoor.Pm
end Go.Proofs.YtoghmeffpgbcfaaGreatDoor.Pm
end

section
namespace Go.Proofs.YtoghmeffpgbcfaaGreatDoor
def r15_Light.f (a0_0:ByteArray) (a0_1:Int) (a0_2 a0_3 a0_4 a0_5 a0_6 a0_7:ByteArray) (a0_8 a0_9 a0_10:Int):Option Bool:=Pm.r15_Light.f a0_0 a0_1 a0_2 a0_3 a0_4 a0_5 a0_6 a0_7 a0_8 a0_9 a0_10
theorem r15_Light.calls (a0_0:ByteArray) (a0_1:Int) (a0_2 a0_3 a0_4 a0_5 a0_6 a0_7:ByteArray) (a0_8 a0_9 a0_10:Int) (r:Bool) (w:World) (h:r15_Light.f a0_0 a0_1 a0_2 a0_3 a0_4 a0_5 a0_6 a0_7 a0_8 a0_9 a0_10=some r) :
  Calls Tryz.prog 7 #[.agg #[.string a0_0,.int .i64 a0_1,.string a0_2,.string a0_3,.string a0_4,.string a0_5,.string a0_6,.string a0_7,.int .i64 a0_8,.int .i64 a0_9,.int .i64 a0_10]] w fun e w'=>e=.returned (.bool r)∧Below w.heap.size w w' :=
 Pm.r15_Light.calls a0_0 a0_1 a0_2 a0_3 a0_4 a0_5 a0_6 a0_7 a0_8 a0_9 a0_10 r w h
theorem light_f {a0_0:ByteArray} {a0_1:Int} {a0_2 a0_3 a0_4 a0_5 a0_6 a0_7:ByteArray} {a0_8 a0_9 a0_10:Int} (h0:a0_0.size≤140737488351232) (h2:a0_2.size≤140737488351232) (h3:a0_3.size≤140737488351232) :
  ∃ b,r15_Light.f a0_0 a0_1 a0_2 a0_3 a0_4 a0_5 a0_6 a0_7 a0_8 a0_9 a0_10=some b∧(b=true→a0_0.size+a0_2.size+a0_3.size≤200∧a0_4.size≤30∧a0_5.size≤30∧a0_6.size≤30∧a0_7.size≤30):=by
 unfold r15_Light.f Pm.r15_Light.f
 by_cases c4:(a0_4.size:Int)≤30
 ·rw[if_pos c4]
  by_cases c5:(a0_5.size:Int)≤30
  ·rw[if_pos c5]
   by_cases c6:(a0_6.size:Int)≤30
   ·rw[if_pos c6]
    by_cases c7:(a0_7.size:Int)≤30
    ·rw[if_pos c7]
     refine⟨_,rfl,fun h=>?_⟩
     have h:=of_decide_eq_true h
     have e1:wrap64 ((a0_0.size:Int)+(a0_2.size:Int))=(a0_0.size:Int)+(a0_2.size:Int):=by unfold wrap64;omega
     have e2:wrap64 ((a0_0.size:Int)+(a0_2.size:Int)+(a0_3.size:Int))=(a0_0.size:Int)+(a0_2.size:Int)+(a0_3.size:Int):=by unfold wrap64;omega
     rw[e1,e2] at h
     clear e1 e2
     omega
    ·rw[if_neg c7];exact⟨_,rfl,fun h=>by cases h⟩
   ·rw[if_neg c6];exact⟨_,rfl,fun h=>by cases h⟩
  ·rw[if_neg c5];exact⟨_,rfl,fun h=>by cases h⟩
 ·rw[if_neg c4];exact⟨_,rfl,fun h=>by cases h⟩
end Go.Proofs.YtoghmeffpgbcfaaGreatDoor
end
