/-
Parts of the proof, in build order: Po2, Po, ActApi, ActPrint, ActPar, ActEnd, ActPar2, ActDone, Ref3Of, NumG0, NumR4, Pm0, Pm1, Pm, Ref15L, NumAct, Pe0, Pe1, Pe2, Pe3, Pe4, Pe, Ref4Api, Ref4Done, Pk0, Pk1.
-/
import Derived.Test.YtoghmeffpgbcfaaGreatDoorY4
set_option linter.unusedVariables false
set_option linter.unusedSimpArgs false
set_option maxHeartbeats 64000000
set_option maxRecDepth 100000
namespace Go.Proofs.YtoghmeffpgbcfaaGreatDoor
open Go.RowKit Go.Proofs.YtoghmeffpgbcfaaGreatDoorW.PrintWords Go.Proofs.YtoghmeffpgbcfaaGreatDoorW.PrintLast Go.Proofs.YtoghmeffpgbcfaaGreatDoorW.PrintMore
attribute [local go_sem] max2_int min2_int max_two min_two max_three min_three max_four min_four
namespace Po
open Pl
attribute [local go_sem] idx_shape
mutual
def action_Print.j0:Nat→List ByteArray→ByteArray→Int→ByteArray→ByteArray→ByteArray→ByteArray→ByteArray→ByteArray→Int→Int→Int→ByteArray→Bool→Bool→Bool→Option (ByteArray)
 | 0,_,_,_,_,_,_,_,_,_,_,_,_,_,_,_,_=>none
 | k+1,x4,x102000,x102001,x102002,x102003,x102004,x102005,x102006,x102007,x102008,x102009,x102010,x124000,x124001,x124002,x124003=>if x124002=true then ((decimal_Print.f x102004 x102005).bind fun t133=>(if x4.length<8796093022208 then (action_Print.j1 k (x4 ++ [t133]) x102000 x102001 x102002 x102003 x102004 x102005 x102006 x102007 x102008 x102009 x102010 x124000 x124001 x124002 x124003) else (none))) else (action_Print.j1 k x4 x102000 x102001 x102002 x102003 x102004 x102005 x102006 x102007 x102008 x102009 x102010 x124000 x124001 x124002 x124003)
def action_Print.j1:Nat→List ByteArray→ByteArray→Int→ByteArray→ByteArray→ByteArray→ByteArray→ByteArray→ByteArray→Int→Int→Int→ByteArray→Bool→Bool→Bool→Option (ByteArray)
 | 0,_,_,_,_,_,_,_,_,_,_,_,_,_,_,_,_=>none
 | k+1,x4,x102000,x102001,x102002,x102003,x102004,x102005,x102006,x102007,x102008,x102009,x102010,x124000,x124001,x124002,x124003=>if x124003=true then ((decimal_Print.f x102006 x102007).bind fun t137=>(if x4.length<8796093022208 then ((strings_Join.f (x4 ++ [t137]) (⟨#[32]⟩:ByteArray)).bind fun t141=>(some t141)) else (none))) else ((strings_Join.f x4 (⟨#[32]⟩:ByteArray)).bind fun t142=>(some t142))
end
def action_Print.f (k:Nat) (a0_0:ByteArray) (a0_1:Int) (a0_2 a0_3 a0_4 a0_5 a0_6 a0_7:ByteArray) (a0_8 a0_9 a0_10:Int):Option (ByteArray):=(action_May.f k a0_0 a0_1 a0_2 a0_3 a0_4 a0_5 a0_6 a0_7 a0_8 a0_9 a0_10).bind fun t102=>(if t102=true then ((action_shapes.f).bind fun bt103=>(if 0≤a0_1 then (if a0_1<5 then ((strconv_Itoa.f a0_8).bind fun t124=>((strconv_Itoa.f a0_9).bind fun t125=>((strconv_Itoa.f a0_10).bind fun t126=>((some (([ix5 a0_1 bt103.1 bt103.2.2.2.2.1 bt103.2.2.2.2.2.2.2.2.1 bt103.2.2.2.2.2.2.2.2.2.2.2.2.1 bt103.2.2.2.2.2.2.2.2.2.2.2.2.2.2.2.2.1,a0_0,a0_2,t124,t125,t126]:List ByteArray):List ByteArray)).bind fun y127=>(if (ix5 a0_1 bt103.2.1 bt103.2.2.2.2.2.1 bt103.2.2.2.2.2.2.2.2.2.1 bt103.2.2.2.2.2.2.2.2.2.2.2.2.2.1 bt103.2.2.2.2.2.2.2.2.2.2.2.2.2.2.2.2.2.1)=true then (if y127.length<8796093022208 then (action_Print.j0 k (y127 ++ [a0_3]) a0_0 a0_1 a0_2 a0_3 a0_4 a0_5 a0_6 a0_7 a0_8 a0_9 a0_10 (ix5 a0_1 bt103.1 bt103.2.2.2.2.1 bt103.2.2.2.2.2.2.2.2.1 bt103.2.2.2.2.2.2.2.2.2.2.2.2.1 bt103.2.2.2.2.2.2.2.2.2.2.2.2.2.2.2.2.1) (ix5 a0_1 bt103.2.1 bt103.2.2.2.2.2.1 bt103.2.2.2.2.2.2.2.2.2.1 bt103.2.2.2.2.2.2.2.2.2.2.2.2.2.1 bt103.2.2.2.2.2.2.2.2.2.2.2.2.2.2.2.2.2.1) (ix5 a0_1 bt103.2.2.1 bt103.2.2.2.2.2.2.1 bt103.2.2.2.2.2.2.2.2.2.2.1 bt103.2.2.2.2.2.2.2.2.2.2.2.2.2.2.1 bt103.2.2.2.2.2.2.2.2.2.2.2.2.2.2.2.2.2.2.1) (ix5 a0_1 bt103.2.2.2.1 bt103.2.2.2.2.2.2.2.1 bt103.2.2.2.2.2.2.2.2.2.2.2.1 bt103.2.2.2.2.2.2.2.2.2.2.2.2.2.2.2.1 bt103.2.2.2.2.2.2.2.2.2.2.2.2.2.2.2.2.2.2.2)) else (none)) else (action_Print.j0 k y127 a0_0 a0_1 a0_2 a0_3 a0_4 a0_5 a0_6 a0_7 a0_8 a0_9 a0_10 (ix5 a0_1 bt103.1 bt103.2.2.2.2.1 bt103.2.2.2.2.2.2.2.2.1 bt103.2.2.2.2.2.2.2.2.2.2.2.2.1 bt103.2.2.2.2.2.2.2.2.2.2.2.2.2.2.2.2.1) (ix5 a0_1 bt103.2.1 bt103.2.2.2.2.2.1 bt103.2.2.2.2.2.2.2.2.2.1 bt103.2.2.2.2.2.2.2.2.2.2.2.2.2.1 bt103.2.2.2.2.2.2.2.2.2.2.2.2.2.2.2.2.2.1) (ix5 a0_1 bt103.2.2.1 bt103.2.2.2.2.2.2.1 bt103.2.2.2.2.2.2.2.2.2.2.1 bt103.2.2.2.2.2.2.2.2.2.2.2.2.2.2.1 bt103.2.2.2.2.2.2.2.2.2.2.2.2.2.2.2.2.2.2.1) (ix5 a0_1 bt103.2.2.2.1 bt103.2.2.2.2.2.2.2.1 bt103.2.2.2.2.2.2.2.2.2.2.2.1 bt103.2.2.2.2.2.2.2.2.2.2.2.2.2.2.2.1 bt103.2.2.2.2.2.2.2.2.2.2.2.2.2.2.2.2.2.2.2))))))) else (none)) else (none))) else (some (⟨#[]⟩:ByteArray)))
def action_Print.T4:Bool×List (List Nat×List Nat):=(true,[([],[]),([0],[0]),([],[]),([2],[2]),([],[]),([4],[4]),([],[]),([6],[6]),([7],[7]),([],[]),([9],[9]),([10,8],[10]),([],[]),([12],[12]),([13,11],[13]),([1,3,5,8,11,14],[1,3,5,8,11,14]),([15,14,0,1,2,3,4,5,6,7,8,9,10,11,12,13,14,15],[15])])
def action_Print.B4:List Nat:=[0,1,0,4,0,16,0,64,192,0,512,1984,0,4096,16320,32767,65535]
theorem action_Print.tab4:rtab .any (opsOf Tryz.f13 4)=action_Print.T4:=by kernel_rfl
theorem action_Print.bits4:waitsOk action_Print.T4.2 action_Print.B4=true:=by kernel_rfl
theorem action_Print.calls (k:Nat) (a0_0:ByteArray) (a0_1:Int) (a0_2 a0_3 a0_4 a0_5 a0_6 a0_7:ByteArray) (a0_8 a0_9 a0_10:Int) (r:ByteArray) (w:World) (hL_:Laid w) (h:action_Print.f k a0_0 a0_1 a0_2 a0_3 a0_4 a0_5 a0_6 a0_7 a0_8 a0_9 a0_10=some r) :
  Calls Tryz.prog 13 #[.agg #[.string a0_0,.int .i64 a0_1,.string a0_2,.string a0_3,.string a0_4,.string a0_5,.string a0_6,.string a0_7,.int .i64 a0_8,.int .i64 a0_9,.int .i64 a0_10]] w fun e w'=>e=.returned (.string r)∧Below w.heap.size w w':=by
 have hu25:=Tryz.underlying25;have hu46:=Tryz.underlying46;have hu23:=Tryz.underlying23;have HLD:=ak_ hL_;clear hL_;have HB:=ak_ (Below.refl w.heap.size w);have H:=h;unfold action_Print.f at H;clear h;replace H:=bi_ H;obtain⟨t102,A2,H⟩:=H;replace H:=bt_ H;rcases H with ⟨rfl,H⟩|⟨rfl,H⟩
 ·replace H:=bi_ H;obtain⟨⟨t103,t104,t105,t106,t107,t108,t109,t110,t111,t112,t113,t114,t115,t116,t117,t118,t119,t120,t121,t122⟩,A4,H⟩:=H;(try dsimp only at H);replace H:=bx_ H;obtain⟨c5,H⟩:=H;have c5b0:=eq_true c5;have c5b1:=dt_ c5;clear c5;replace H:=bx_ H;obtain⟨c6,H⟩:=H;have c6b0:=eq_true c6;have c6b1:=dt_ c6;clear c6;obtain⟨xa0_1_0,hxa0_1_0⟩:∃ y_:ByteArray,(ix5 a0_1 t103 t107 t111 t115 t119)=y_:=⟨_,rfl⟩;obtain⟨xa0_1_1,hxa0_1_1⟩:∃ y_:Bool,(ix5 a0_1 t104 t108 t112 t116 t120)=y_:=⟨_,rfl⟩;obtain⟨xa0_1_2,hxa0_1_2⟩:∃ y_:Bool,(ix5 a0_1 t105 t109 t113 t117 t121)=y_:=⟨_,rfl⟩;obtain⟨xa0_1_3,hxa0_1_3⟩:∃ y_:Bool,(ix5 a0_1 t106 t110 t114 t118 t122)=y_:=⟨_,rfl⟩;simp only[hxa0_1_0,hxa0_1_1,hxa0_1_2,hxa0_1_3] at H;replace H:=bi_ H;obtain⟨t124,A7,H⟩:=H;replace H:=bi_ H;obtain⟨t125,A8,H⟩:=H;replace H:=bi_ H;obtain⟨t126,A9,H⟩:=H;obtain⟨y127,hy127⟩:∃ y_:List ByteArray,y_ = (([xa0_1_0,a0_0,a0_2,t124,t125,t126]:List ByteArray)):=⟨_,rfl⟩
  replace H:(if xa0_1_1=true then (if y127.length<8796093022208 then (action_Print.j0 k (y127 ++ [a0_3]) a0_0 a0_1 a0_2 a0_3 a0_4 a0_5 a0_6 a0_7 a0_8 a0_9 a0_10 xa0_1_0 xa0_1_1 xa0_1_2 xa0_1_3) else (none)) else (action_Print.j0 k y127 a0_0 a0_1 a0_2 a0_3 a0_4 a0_5 a0_6 a0_7 a0_8 a0_9 a0_10 xa0_1_0 xa0_1_1 xa0_1_2 xa0_1_3))=some r:=hr_ hy127 H
  have Ny127:=ak_ hy127;clear hy127;have HC10:=ak_ H;clear H;go_in
  try go_wp2_with (first|(refine bf_ 1 #[.string a0_0,.int .i64 a0_1,.string a0_2,.string a0_3,.string a0_4,.string a0_5,.string a0_6,.string a0_7,.int .i64 a0_8,.int .i64 a0_9,.int .i64 a0_10] 25 HB ?_;clear HB;intro gb101 w11 BK101 GW101 HB;have hz12:=cs11_ BK101)|(refine gm_ 6 Tryz.func11 (action_May.calls _ _ _ _ _ _ _ _ _ _ _ _ _ _ (lb_ HLD HB) A2.out) ?_;intro w13 hb;replace BK101:=kb_ BK101 hb;replace HB:=bs_ HB hb;(try clear hb)))
  replace BK101:=ak_ (blk_drew BK101.out);replace HB:=ak_ (below_drew1 HB.out);refine sa_ 6 (fun w'=>w'.cell? ⟨gb101,0,none⟩=some (.string a0_0)∧w'.cell? ⟨gb101,1,none⟩=some (.int .i64 a0_1)∧w'.cell? ⟨gb101,2,none⟩=some (.string a0_2)∧w'.cell? ⟨gb101,3,none⟩=some (.string a0_3)∧w'.cell? ⟨gb101,4,none⟩=some (.string a0_4)∧w'.cell? ⟨gb101,5,none⟩=some (.string a0_5)∧w'.cell? ⟨gb101,6,none⟩=some (.string a0_6)∧w'.cell? ⟨gb101,7,none⟩=some (.string a0_7)∧w'.cell? ⟨gb101,8,none⟩=some (.int .i64 a0_8)∧w'.cell? ⟨gb101,9,none⟩=some (.int .i64 a0_9)∧w'.cell? ⟨gb101,10,none⟩=some (.int .i64 a0_10)) (fun hHeld=>?_);generalize w13.drew=w14 at BK101 HB hHeld ⊢;refine pure_ (i:=1) (N:=some 9) (v:=?_) (a':=?_) #[false,true,false,false,false,false] rfl rfl (by kernel_rfl) (fun _ _ _ h=>h) (Or.inl ⟨by rfl,?_⟩) ?_ ?_;rotate_left
  ·intro w';go_simp;with_reducible rfl
  rotate_left
  ·exact ap_
  refine take_ (i:=2) (N:=some 10) (v:=?_) (a':=?_) #[false,true,true,false,false,false] rfl rfl (by kernel_rfl) (fun _ _ _ h=>h) (Or.inl ⟨by rfl,?_⟩) hHeld ?_ ?_;rotate_left
  ·rintro w' ⟨s0,s1,s2,s3,s4,s5,s6,s7,s8,s9,s10⟩;go_simp;with_reducible rfl
  rotate_left
  ·exact ap_
  refine join_ (σ:=Nat) 1 #[true,true,true,true,true,false] (fun s_=>[(8,.agg #[.string t103,.bool t104,.bool t105,.bool t106,.string t107,.bool t108,.bool t109,.bool t110,.string t111,.bool t112,.bool t113,.bool t114,.string t115,.bool t116,.bool t117,.bool t118,.string t119,.bool t120,.bool t121,.bool t122]),(3,.pointer (some ⟨s_,0,none⟩)),(11,.agg #[.string xa0_1_0,.bool xa0_1_1,.bool xa0_1_2,.bool xa0_1_3])]) (fun s_ w'=>(w'.cell? ⟨gb101,0,none⟩=some (.string a0_0)∧w'.cell? ⟨gb101,1,none⟩=some (.int .i64 a0_1)∧w'.cell? ⟨gb101,2,none⟩=some (.string a0_2)∧w'.cell? ⟨gb101,3,none⟩=some (.string a0_3)∧w'.cell? ⟨gb101,4,none⟩=some (.string a0_4)∧w'.cell? ⟨gb101,5,none⟩=some (.string a0_5)∧w'.cell? ⟨gb101,6,none⟩=some (.string a0_6)∧w'.cell? ⟨gb101,7,none⟩=some (.string a0_7)∧w'.cell? ⟨gb101,8,none⟩=some (.int .i64 a0_8)∧w'.cell? ⟨gb101,9,none⟩=some (.int .i64 a0_9)∧w'.cell? ⟨gb101,10,none⟩=some (.int .i64 a0_10))∧(w'.heap[gb101]?=some (.cells #[.string a0_0,.int .i64 a0_1,.string a0_2,.string a0_3,.string a0_4,.string a0_5,.string a0_6,.string a0_7,.int .i64 a0_8,.int .i64 a0_9,.int .i64 a0_10] 25 (0,0)))∧(w'.heap[s_]?=some (.cells #[.string ⟨#[]⟩,.bool false,.bool false,.bool false] 46 (0,0)))∧(w.heap.size≤s_)∧(w.heap.size≤s_)∧(gb101≠s_)∧(s_≠gb101)∧(Below w.heap.size w w')) ?_ ?_;rotate_left
  ·intro hCont;refine two_ (i:=0) (j:=4) (Ni:=some 8) (Nj:=some 3) #[true,true,true,false,false,false] #[false,true,true,false,true,false] rfl rfl rfl rfl (by kernel_rfl) (by decide) (by decide) (fun K hK=>?_) (fun K hK=>?_)
   ·skip;refine gn_ Tryz.func19 (action_shapes.calls _ _ _ _ _ _ _ _ _ _ _ _ _ _ _ _ _ _ _ _ _ A4.out) ?_;intro w15 hb;replace BK101:=kb_ BK101 hb;replace HB:=bs_ HB hb;(try clear hb);refine hk_ hK (fun hHeld=>?_);clear hK K;refine nm_ ?_;refine take_ (i:=3) (N:=some 11) (v:=?_) (a':=?_) #[true,true,true,true,false,false] rfl rfl (by kernel_rfl) (fun _ _ _ h=>h) (Or.inl ⟨by rfl,?_⟩) hHeld ?_ ?_;rotate_left
    ·rintro w' ⟨s0,s1,s2,s3,s4,s5,s6,s7,s8,s9,s10⟩;go_simp;with_reducible rfl
    rotate_left
    ·exact ap_
    refine one_ (i:=4) (N:=some 3) #[true,true,true,true,true,false] rfl rfl (by kernel_rfl) (by decide) (fun K hK=>?_);refine box_step ?hg (N:=3) ?hd (cs:=#[.string ⟨#[]⟩,.bool false,.bool false,.bool false]) (t:=46) ?hr ?_;(case hd=>rfl);(case hg=>rfl);(case hr=>first|(go_simp;done)|(go_simp;rfl));intro gb123 hg w16 hbox hb;have BK123:=ak_ (hbox);have GW123:=ge_ HB hg;have GE123:=ge_ HB hg;have NB101_123:=nl_ BK101 hg;have NB123_101:=ng_ BK101 hg;replace BK101:=kb_ BK101 hb;replace HB:=bs_ HB hb;clear hb hbox hg;refine hk_ hK (fun hHeld=>?_);clear hK K;refine nm_ ?_;exact norm_ pa_ (hCont (gb123) _ ⟨hHeld,(k_ BK101.out),(k_ BK123.out),GW123.out,GE123.out,NB101_123.out,NB123_101.out,(b_ HB.out)⟩)
   ·skip;refine box_step ?hg (N:=3) ?hd (cs:=#[.string ⟨#[]⟩,.bool false,.bool false,.bool false]) (t:=46) ?hr ?_;(case hd=>rfl);(case hg=>rfl);(case hr=>first|(go_simp;done)|(go_simp;rfl));intro gb123 hg w15 hbox hb;have BK123:=ak_ (hbox);have GW123:=ge_ HB hg;have GE123:=ge_ HB hg;have NB101_123:=nl_ BK101 hg;have NB123_101:=ng_ BK101 hg;replace BK101:=kb_ BK101 hb;replace HB:=bs_ HB hb;clear hb hbox hg;refine hk_ hK (fun hHeld=>?_);clear hK K;refine nm_ ?_;refine one_ (i:=0) (N:=some 8) #[true,true,true,false,true,false] rfl rfl (by kernel_rfl) (by decide) (fun K hK=>?_);refine gn_ Tryz.func19 (action_shapes.calls _ _ _ _ _ _ _ _ _ _ _ _ _ _ _ _ _ _ _ _ _ A4.out) ?_;intro w16 hb;replace BK101:=kb_ BK101 hb;replace BK123:=kb_ BK123 hb;replace HB:=bs_ HB hb;(try clear hb);refine hk_ hK (fun hHeld=>?_);clear hK K;refine nm_ ?_;refine take_ (i:=3) (N:=some 11) (v:=?_) (a':=?_) #[true,true,true,true,true,false] rfl rfl (by kernel_rfl) (fun _ _ _ h=>h) (Or.inl ⟨by rfl,?_⟩) hHeld ?_ ?_;rotate_left
    ·rintro w' ⟨s0,s1,s2,s3,s4,s5,s6,s7,s8,s9,s10⟩;go_simp;with_reducible rfl
    rotate_left
    ·exact ap_
    exact norm_ pa_ (hCont (gb123) _ ⟨hHeld,(k_ BK101.out),(k_ BK123.out),GW123.out,GE123.out,NB101_123.out,NB123_101.out,(b_ HB.out)⟩)
  rintro gb123 w17 ⟨hS_,h0_,h1_,h2_,h3_,h4_,h5_,h6_⟩;have n0_:Aside0 (w17.heap[gb101]?=some (.cells #[.string a0_0,.int .i64 a0_1,.string a0_2,.string a0_3,.string a0_4,.string a0_5,.string a0_6,.string a0_7,.int .i64 a0_8,.int .i64 a0_9,.int .i64 a0_10] 25 (0,0))):=⟨h0_⟩;have n1_:Aside0 (w17.heap[gb123]?=some (.cells #[.string ⟨#[]⟩,.bool false,.bool false,.bool false] 46 (0,0))):=⟨h1_⟩;have n2_:Aside0 (w.heap.size≤gb123):=⟨h2_⟩;have n3_:Aside0 (w.heap.size≤gb123):=⟨h3_⟩;have n4_:Aside0 (gb101≠gb123):=⟨h4_⟩;have n5_:Aside0 (gb123≠gb101):=⟨h5_⟩;have n6_:Aside0 (Below w.heap.size w w17):=⟨h6_⟩;clear BK101;clear HB;clear h0_ h1_ h2_ h3_ h4_ h5_ h6_;have BK101:=n0_;have BK123:=n1_;have GW123:=n2_;have GE123:=n3_;have NB101_123:=n4_;have NB123_101:=n5_;have HB:=n6_;clear n0_ n1_ n2_ n3_ n4_ n5_ n6_;have hHeld:w17.cell? ⟨gb101,0,none⟩=some (.string a0_0)∧w17.cell? ⟨gb101,1,none⟩=some (.int .i64 a0_1)∧w17.cell? ⟨gb101,2,none⟩=some (.string a0_2)∧w17.cell? ⟨gb101,3,none⟩=some (.string a0_3)∧w17.cell? ⟨gb101,4,none⟩=some (.string a0_4)∧w17.cell? ⟨gb101,5,none⟩=some (.string a0_5)∧w17.cell? ⟨gb101,6,none⟩=some (.string a0_6)∧w17.cell? ⟨gb101,7,none⟩=some (.string a0_7)∧w17.cell? ⟨gb101,8,none⟩=some (.int .i64 a0_8)∧w17.cell? ⟨gb101,9,none⟩=some (.int .i64 a0_9)∧w17.cell? ⟨gb101,10,none⟩=some (.int .i64 a0_10):=hS_;refine norm_ (a':=?_) ?_ ?_;rotate_left
  ·simp only[putAll,Act.put,List.setIfInBounds_toArray,List.set_cons_zero,List.set_cons_succ]
   rfl
  refine one_ (i:=5) (N:=none) #[true,true,true,true,true,true] rfl rfl (by kernel_rfl) (by decide) (fun K hK=>?_);have hs18:=bc_ BK123 0 rfl;have hfs18:=blk_frozen BK123.out 0;have hns18_0:=NB101_123.out;have hms18_0:=NB123_101.out;have hs19:=bc_ BK123 1 rfl;have hfs19:=blk_frozen BK123.out 1;have hns19_0:=NB101_123.out;have hms19_0:=NB123_101.out;have hs20:=bc_ BK123 2 rfl;have hfs20:=blk_frozen BK123.out 2;have hns20_0:=NB101_123.out;have hms20_0:=NB123_101.out;have hs21:=bc_ BK123 3 rfl;have hfs21:=blk_frozen BK123.out 3;have hns21_0:=NB101_123.out;have hms21_0:=NB123_101.out;refine skip_ (w1:=?_) (by rfl) rfl ?_ ?_;rotate_left
  ·go_simp
   rfl
  refine hK.out _ _ ⟨((cell_far (p:=⟨gb123,_,none⟩) NB101_123.out _).trans (((cell_far (p:=⟨gb123,_,none⟩) NB101_123.out _).trans (((cell_far (p:=⟨gb123,_,none⟩) NB101_123.out _).trans (((cell_far (p:=⟨gb123,_,none⟩) NB101_123.out _).trans (hHeld.1)))))))),((cell_far (p:=⟨gb123,_,none⟩) NB101_123.out _).trans (((cell_far (p:=⟨gb123,_,none⟩) NB101_123.out _).trans (((cell_far (p:=⟨gb123,_,none⟩) NB101_123.out _).trans (((cell_far (p:=⟨gb123,_,none⟩) NB101_123.out _).trans (hHeld.2.1)))))))),((cell_far (p:=⟨gb123,_,none⟩) NB101_123.out _).trans (((cell_far (p:=⟨gb123,_,none⟩) NB101_123.out _).trans (((cell_far (p:=⟨gb123,_,none⟩) NB101_123.out _).trans (((cell_far (p:=⟨gb123,_,none⟩) NB101_123.out _).trans (hHeld.2.2.1)))))))),((cell_far (p:=⟨gb123,_,none⟩) NB101_123.out _).trans (((cell_far (p:=⟨gb123,_,none⟩) NB101_123.out _).trans (((cell_far (p:=⟨gb123,_,none⟩) NB101_123.out _).trans (((cell_far (p:=⟨gb123,_,none⟩) NB101_123.out _).trans (hHeld.2.2.2.1)))))))),((cell_far (p:=⟨gb123,_,none⟩) NB101_123.out _).trans (((cell_far (p:=⟨gb123,_,none⟩) NB101_123.out _).trans (((cell_far (p:=⟨gb123,_,none⟩) NB101_123.out _).trans (((cell_far (p:=⟨gb123,_,none⟩) NB101_123.out _).trans (hHeld.2.2.2.2.1)))))))),((cell_far (p:=⟨gb123,_,none⟩) NB101_123.out _).trans (((cell_far (p:=⟨gb123,_,none⟩) NB101_123.out _).trans (((cell_far (p:=⟨gb123,_,none⟩) NB101_123.out _).trans (((cell_far (p:=⟨gb123,_,none⟩) NB101_123.out _).trans (hHeld.2.2.2.2.2.1)))))))),((cell_far (p:=⟨gb123,_,none⟩) NB101_123.out _).trans (((cell_far (p:=⟨gb123,_,none⟩) NB101_123.out _).trans (((cell_far (p:=⟨gb123,_,none⟩) NB101_123.out _).trans (((cell_far (p:=⟨gb123,_,none⟩) NB101_123.out _).trans (hHeld.2.2.2.2.2.2.1)))))))),((cell_far (p:=⟨gb123,_,none⟩) NB101_123.out _).trans (((cell_far (p:=⟨gb123,_,none⟩) NB101_123.out _).trans (((cell_far (p:=⟨gb123,_,none⟩) NB101_123.out _).trans (((cell_far (p:=⟨gb123,_,none⟩) NB101_123.out _).trans (hHeld.2.2.2.2.2.2.2.1)))))))),((cell_far (p:=⟨gb123,_,none⟩) NB101_123.out _).trans (((cell_far (p:=⟨gb123,_,none⟩) NB101_123.out _).trans (((cell_far (p:=⟨gb123,_,none⟩) NB101_123.out _).trans (((cell_far (p:=⟨gb123,_,none⟩) NB101_123.out _).trans (hHeld.2.2.2.2.2.2.2.2.1)))))))),((cell_far (p:=⟨gb123,_,none⟩) NB101_123.out _).trans (((cell_far (p:=⟨gb123,_,none⟩) NB101_123.out _).trans (((cell_far (p:=⟨gb123,_,none⟩) NB101_123.out _).trans (((cell_far (p:=⟨gb123,_,none⟩) NB101_123.out _).trans (hHeld.2.2.2.2.2.2.2.2.2.1)))))))),((cell_far (p:=⟨gb123,_,none⟩) NB101_123.out _).trans (((cell_far (p:=⟨gb123,_,none⟩) NB101_123.out _).trans (((cell_far (p:=⟨gb123,_,none⟩) NB101_123.out _).trans (((cell_far (p:=⟨gb123,_,none⟩) NB101_123.out _).trans (hHeld.2.2.2.2.2.2.2.2.2.2))))))))⟩ (fun hHeld=>?_);clear hK K;refine done_ (by kernel_rfl) ?_
  try go_wp2
  have n0_:Aside0 (((((w17.setCell ⟨gb123,0,none⟩ (.string xa0_1_0)).setCell ⟨gb123,1,none⟩ (.bool xa0_1_1)).setCell ⟨gb123,2,none⟩ (.bool xa0_1_2)).setCell ⟨gb123,3,none⟩ (.bool xa0_1_3)).heap[gb101]?=some (.cells #[.string a0_0,.int .i64 a0_1,.string a0_2,.string a0_3,.string a0_4,.string a0_5,.string a0_6,.string a0_7,.int .i64 a0_8,.int .i64 a0_9,.int .i64 a0_10] 25 (0,0))):=⟨fr_ BK101.out⟩;have n1_:Aside0 (((((w17.setCell ⟨gb123,0,none⟩ (.string xa0_1_0)).setCell ⟨gb123,1,none⟩ (.bool xa0_1_1)).setCell ⟨gb123,2,none⟩ (.bool xa0_1_2)).setCell ⟨gb123,3,none⟩ (.bool xa0_1_3)).heap[gb123]?=some (.cells #[.string xa0_1_0,.bool xa0_1_1,.bool xa0_1_2,.bool xa0_1_3] 46 (0,0))):=⟨rp_ BK123.out⟩;have n2_:Aside0 (Below w.heap.size w ((((w17.setCell ⟨gb123,0,none⟩ (.string xa0_1_0)).setCell ⟨gb123,1,none⟩ (.bool xa0_1_1)).setCell ⟨gb123,2,none⟩ (.bool xa0_1_2)).setCell ⟨gb123,3,none⟩ (.bool xa0_1_3))):=⟨b_ HB.out⟩;(try clear BK101);(try clear BK123);(try clear HB);generalize ((((w17.setCell ⟨gb123,0,none⟩ (.string xa0_1_0)).setCell ⟨gb123,1,none⟩ (.bool xa0_1_1)).setCell ⟨gb123,2,none⟩ (.bool xa0_1_2)).setCell ⟨gb123,3,none⟩ (.bool xa0_1_3))=w22 at n0_ n1_ n2_ ⊢;have BK101:=n0_;have BK123:=n1_;have HB:=n2_;clear n0_ n1_ n2_;replace BK101:=ak_ (blk_drew BK101.out);replace BK123:=ak_ (blk_drew BK123.out);replace HB:=ak_ (below_drew1 HB.out);refine sa_ 17 (fun w'=>w'.cell? ⟨gb123,0,none⟩=some (.string xa0_1_0)∧w'.cell? ⟨gb123,1,none⟩=some (.bool xa0_1_1)∧w'.cell? ⟨gb123,2,none⟩=some (.bool xa0_1_2)∧w'.cell? ⟨gb123,3,none⟩=some (.bool xa0_1_3)∧w'.cell? ⟨gb101,0,none⟩=some (.string a0_0)∧w'.cell? ⟨gb101,1,none⟩=some (.int .i64 a0_1)∧w'.cell? ⟨gb101,2,none⟩=some (.string a0_2)∧w'.cell? ⟨gb101,3,none⟩=some (.string a0_3)∧w'.cell? ⟨gb101,4,none⟩=some (.string a0_4)∧w'.cell? ⟨gb101,5,none⟩=some (.string a0_5)∧w'.cell? ⟨gb101,6,none⟩=some (.string a0_6)∧w'.cell? ⟨gb101,7,none⟩=some (.string a0_7)∧w'.cell? ⟨gb101,8,none⟩=some (.int .i64 a0_8)∧w'.cell? ⟨gb101,9,none⟩=some (.int .i64 a0_9)∧w'.cell? ⟨gb101,10,none⟩=some (.int .i64 a0_10)) (fun hHeld=>?_);refine with_tabW action_Print.tab4 action_Print.bits4 (fun HT_ HW_=>?_);generalize w22.drew=w23 at BK101 BK123 HB hHeld ⊢;refine pu_ 0 12 rfl rfl HT_ ?_;refine pu_ 2 14 rfl rfl HT_ ?_;refine pu_ 4 16 rfl rfl HT_ ?_;refine pu_ 6 18 rfl rfl HT_ ?_;refine pu_ 9 21 rfl rfl HT_ ?_;refine pu_ 12 24 rfl rfl HT_ ?_;refine t_ 1 13 rfl rfl HT_ HW_ hHeld ?_;refine t_ 3 15 rfl rfl HT_ HW_ hHeld ?_;refine t_ 5 17 rfl rfl HT_ HW_ hHeld ?_;refine t_ 7 19 rfl rfl HT_ HW_ hHeld ?_;refine t_ 10 22 rfl rfl HT_ HW_ hHeld ?_;refine t_ 13 25 rfl rfl HT_ HW_ hHeld ?_;refine on_ 8 (some 20) rfl rfl HT_ (fun K hK=>?_);refine gn_ Tryz.func33 (strconv_Itoa.calls _ _ _ (lb_ HLD HB) A7.out) ?_;intro w24 hb;replace BK101:=kb_ BK101 hb;replace BK123:=kb_ BK123 hb;replace HB:=bs_ HB hb;(try clear hb);refine hk_ hK (fun hHeld=>?_);clear hK K;refine nm_ ?_;refine on_ 11 (some 23) rfl rfl HT_ (fun K hK=>?_);refine gn_ Tryz.func33 (strconv_Itoa.calls _ _ _ (lb_ HLD HB) A8.out) ?_;intro w25 hb;replace BK101:=kb_ BK101 hb;replace BK123:=kb_ BK123 hb;replace HB:=bs_ HB hb;(try clear hb);refine hk_ hK (fun hHeld=>?_);clear hK K;refine nm_ ?_;refine on_ 14 (some 26) rfl rfl HT_ (fun K hK=>?_);refine gn_ Tryz.func33 (strconv_Itoa.calls _ _ _ (lb_ HLD HB) A9.out) ?_;intro w26 hb;replace BK101:=kb_ BK101 hb;replace BK123:=kb_ BK123 hb;replace HB:=bs_ HB hb;(try clear hb);refine hk_ hK (fun hHeld=>?_);clear hK K;refine nm_ ?_;refine on_ 15 (some 27) rfl rfl HT_ (fun K hK=>?_);refine Kd.R_lit_step Kd.string _ 9 ?hg (N:=27) ?hd (xs:=([xa0_1_0,a0_0,a0_2,t124,t125,t126]:List ByteArray)) (inner:=[.string xa0_1_0,.string a0_0,.string a0_2,.string t124,.string t125,.string t126]) (ok:=fun _=>True) (okp:=fun _=>True) ?hr ?hp (fun _ hk=>hk) trivial (Below.refl _ _) (nr_ _) (by simp) ?_;(case hd=>rfl);(case hg=>rfl);(case hr=>first|(go_simp;done)|(go_simp;rfl));(case hp=>exact(Reps.one (show Kd.M Kd.string _ _ _ xa0_1_0 [.string xa0_1_0] from rfl) (Reps.one (show Kd.M Kd.string _ _ _ a0_0 [.string a0_0] from rfl) (Reps.one (show Kd.M Kd.string _ _ _ a0_2 [.string a0_2] from rfl) (Reps.one (show Kd.M Kd.string _ _ _ t124 [.string t124] from rfl) (Reps.one (show Kd.M Kd.string _ _ _ t125 [.string t125] from rfl) (Reps.one (show Kd.M Kd.string _ _ _ t126 [.string t126] from rfl) (Reps.none _ _))))))));intro v128 w27 ho28 hb hg_ hnew_;clear hg_ hnew_;(first|rw[← Ny127.out] at ho28|(simp only[Int.reduceToNat] at ho28;rw[← Ny127.out] at ho28));have HO129:=ak_ (Kd.R_lower ho28 (below_size (b_ HB.out)));replace BK101:=kb_ BK101 hb;replace BK123:=kb_ BK123 hb;replace HB:=bs_ HB hb;clear hb ho28;refine hk_ hK (fun hHeld=>?_);clear hK K;refine nm_ ?_;refine pu_ 16 4 rfl rfl HT_ ?_;refine done_ (done_of HT_.out (by kernel_rfl)) ?_;have hnb29:=NB123_101.out;have hnc29:=NB101_123.out;have hz30:=cs4_ BK123
  go_upto_if 29 with (fail)
  go_cut [4] (fun v4 wc=>∃ (kq:Nat) (x4_9:List ByteArray),Aside0 (action_Print.j0 kq x4_9 a0_0 a0_1 a0_2 a0_3 a0_4 a0_5 a0_6 a0_7 a0_8 a0_9 a0_10 xa0_1_0 xa0_1_1 xa0_1_2 xa0_1_3=some r)∧Aside0 (kq≤k)∧Aside0 (Kd.R Kd.string 9 wc w.heap.size (fun _=>True) v4 x4_9)∧Aside0 (wc.heap[gb101]?=some (.cells #[.string a0_0,.int .i64 a0_1,.string a0_2,.string a0_3,.string a0_4,.string a0_5,.string a0_6,.string a0_7,.int .i64 a0_8,.int .i64 a0_9,.int .i64 a0_10] 25 (0,0)))∧Aside0 (wc.heap[gb123]?=some (.cells #[.string xa0_1_0,.bool xa0_1_1,.bool xa0_1_2,.bool xa0_1_3] 46 (0,0)))∧Aside0 (Below w.heap.size w wc))
  case first =>
   have H:=HC10.out;clear HC10;replace H:=bt_ H;rcases H with ⟨rfl,H⟩|⟨rfl,H⟩
   ·replace H:=bx_ H;obtain⟨c32,H⟩:=H;have LMc32:=ak_ c32;clear c32;obtain⟨y130,hy130⟩:∃ y_:List ByteArray,y_ = (y127 ++ [a0_3]):=⟨_,rfl⟩
    replace H:(action_Print.j0 k y130 a0_0 a0_1 a0_2 a0_3 a0_4 a0_5 a0_6 a0_7 a0_8 a0_9 a0_10 xa0_1_0 true xa0_1_2 xa0_1_3)=some r:=hr_ hy130 H
    have Ny130:=ak_ hy130;clear hy130;have H':=ak_ H;clear H;have hnb33:=NB101_123.out;have hnc33:=NB123_101.out;have hz34:=cs11_ BK101
    go_wp2_with (((with_reducible refine gate_builtin (b:=.append) (xs:=#[.tmp 30,.tmp 33]) rfl ?_);at_builtin;refine Kd.R_append Kd.string (w0:=w) w.heap.size rfl (.tmp 30) (.tmp 33) 40 9 (.string ⟨#[]⟩) 16 rfl Tryz.underlying40 info9 rfl (by decide) (by omega) v128 y127 a0_3 [.string a0_3] (fun _=>True) (fun _=>False) rfl rfl ?aP (fun _ hk=>hk.elim) ?aF ?aO ?aB ?aS ?aL ?_;(case aP=>exact rfl);(case aB=>exact(b_ HB.out));(case aF=>exact(fun _ _=>trivial));(case aO=>exact(w_ HO129.out));(case aS=>exact(below_size (b_ HB.out)));(case aL=>have:=LMc32.out;omega);intro v131 w35 ho hb hg hat;rw[← Ny130.out] at ho;have HO132:=ak_ (ho);replace BK101:=ak_ (blk_grown (g:=gb101) (o:=.cells #[.string a0_0,.int .i64 a0_1,.string a0_2,.string a0_3,.string a0_4,.string a0_5,.string a0_6,.string a0_7,.int .i64 a0_8,.int .i64 a0_9,.int .i64 a0_10] 25 (0,0)) (k_ BK101.out) hg (Kd.R_ne HO129.out BK101.out (by decide)));replace BK123:=ak_ (blk_grown (g:=gb123) (o:=.cells #[.string xa0_1_0,.bool true,.bool xa0_1_2,.bool xa0_1_3] 46 (0,0)) (k_ BK123.out) hg (Kd.R_ne HO129.out BK123.out (by decide)));replace HB:=ak_ (hb);clear HO129;clear ho hb hg hat))
    go_meet
    case rel=>exact⟨_,(y130),H',⟨nk_⟩,⟨by(with_reducible repeat(first|apply Kd.R_alloc|apply Kd.R_drewN|apply Kd.R_drew));exact HO132.out⟩,⟨k_ BK101.out⟩,⟨k_ BK123.out⟩,⟨b_ HB.out⟩⟩
   ·have H':=ak_ H;clear H;go_wp2
    go_meet
    case rel=>exact⟨_,(y127),H',⟨nk_⟩,⟨by(with_reducible repeat(first|apply Kd.R_alloc|apply Kd.R_drewN|apply Kd.R_drew));exact HO129.out⟩,⟨k_ BK101.out⟩,⟨k_ BK123.out⟩,⟨b_ HB.out⟩⟩
  case rest =>
   clear HC10;(try clear c5b0);(try clear c5b1);(try clear c6b0);(try clear c6b1);(try clear hz12);(try clear hz30);obtain⟨kq,x4_9,HA,HJ9,HO_4,BK101,BK123,HB⟩:=hcut
   cases kq with
   | zero=>exact absurd HA.out (by simp[action_Print.j0])
   | succ kj9 =>
    have H:=HA.out;clear HA;simp only[action_Print.j0] at H;have HC36:=ak_ H;clear H;have hnb37:=NB123_101.out;have hnc37:=NB101_123.out;have hz38:=cs4_ BK123
    go_upto_if 36 with (fail)
    go_cut [4] (fun v4 wc=>∃ (kq:Nat) (x4_35:List ByteArray),Aside0 (action_Print.j1 kq x4_35 a0_0 a0_1 a0_2 a0_3 a0_4 a0_5 a0_6 a0_7 a0_8 a0_9 a0_10 xa0_1_0 xa0_1_1 xa0_1_2 xa0_1_3=some r)∧Aside0 (kq≤kj9)∧Aside0 (Kd.R Kd.string 9 wc w.heap.size (fun _=>True) v4 x4_35)∧Aside0 (wc.heap[gb101]?=some (.cells #[.string a0_0,.int .i64 a0_1,.string a0_2,.string a0_3,.string a0_4,.string a0_5,.string a0_6,.string a0_7,.int .i64 a0_8,.int .i64 a0_9,.int .i64 a0_10] 25 (0,0)))∧Aside0 (wc.heap[gb123]?=some (.cells #[.string xa0_1_0,.bool xa0_1_1,.bool xa0_1_2,.bool xa0_1_3] 46 (0,0)))∧Aside0 (Below w.heap.size w wc))
    case first =>
     have H:=HC36.out;clear HC36;replace H:=bt_ H;rcases H with ⟨rfl,H⟩|⟨rfl,H⟩
     ·replace H:=bi_ H;obtain⟨t133,A40,H⟩:=H;replace H:=bx_ H;obtain⟨c41,H⟩:=H;have LMc41:=ak_ c41;clear c41;obtain⟨y134,hy134⟩:∃ y_:List ByteArray,y_ = (x4_9 ++ [t133]):=⟨_,rfl⟩
      replace H:(action_Print.j1 kj9 y134 a0_0 a0_1 a0_2 a0_3 a0_4 a0_5 a0_6 a0_7 a0_8 a0_9 a0_10 xa0_1_0 xa0_1_1 true xa0_1_3)=some r:=hr_ hy134 H
      have Ny134:=ak_ hy134;clear hy134;have H':=ak_ H;clear H;have hnb42:=NB101_123.out;have hnc42:=NB123_101.out;have hz43:=cs11_ BK101
      go_wp2_with (first|(refine gm_ 40 Tryz.func34 (decimal_Print.calls _ _ _ _ (lb_ HLD HB) A40.out) ?_;intro w44 hb;replace HO_4:=ak_ (Kd.R_below (w_ HO_4.out) hb);replace BK101:=kb_ BK101 hb;replace BK123:=kb_ BK123 hb;replace HB:=bs_ HB hb;(try clear hb);(try clear hk))|((with_reducible refine gate_builtin (b:=.append) (xs:=#[.tmp 37,.tmp 41]) rfl ?_);at_builtin;refine Kd.R_append Kd.string (w0:=w) w.heap.size rfl (.tmp 37) (.tmp 41) 40 9 (.string ⟨#[]⟩) 16 rfl Tryz.underlying40 info9 rfl (by decide) (by omega) u4 x4_9 t133 [.string t133] (fun _=>True) (fun _=>False) rfl rfl ?aP (fun _ hk=>hk.elim) ?aF ?aO ?aB ?aS ?aL ?_;(case aP=>exact rfl);(case aB=>exact(b_ HB.out));(case aF=>exact(fun _ _=>trivial));(case aO=>exact(w_ HO_4.out));(case aS=>exact(below_size (b_ HB.out)));(case aL=>have:=LMc41.out;omega);intro v135 w45 ho hb hg hat;rw[← Ny134.out] at ho;have HO136:=ak_ (ho);replace BK101:=ak_ (blk_grown (g:=gb101) (o:=.cells #[.string a0_0,.int .i64 a0_1,.string a0_2,.string a0_3,.string a0_4,.string a0_5,.string a0_6,.string a0_7,.int .i64 a0_8,.int .i64 a0_9,.int .i64 a0_10] 25 (0,0)) (k_ BK101.out) hg (Kd.R_ne HO_4.out BK101.out (by decide)));replace BK123:=ak_ (blk_grown (g:=gb123) (o:=.cells #[.string xa0_1_0,.bool xa0_1_1,.bool true,.bool xa0_1_3] 46 (0,0)) (k_ BK123.out) hg (Kd.R_ne HO_4.out BK123.out (by decide)));replace HB:=ak_ (hb);clear HO_4;clear ho hb hg hat))
      go_meet
      case rel=>exact⟨_,(y134),H',⟨by have:=HJ9.out;first|omega|exact nr_ _⟩,⟨by(with_reducible repeat(first|apply Kd.R_alloc|apply Kd.R_drewN|apply Kd.R_drew));exact HO136.out⟩,⟨k_ BK101.out⟩,⟨k_ BK123.out⟩,⟨b_ HB.out⟩⟩
     ·have H':=ak_ H;clear H;go_wp2
      go_meet
      case rel=>exact⟨_,(x4_9),H',⟨by have:=HJ9.out;first|omega|exact nr_ _⟩,⟨by(with_reducible repeat(first|apply Kd.R_alloc|apply Kd.R_drewN|apply Kd.R_drew));exact HO_4.out⟩,⟨k_ BK101.out⟩,⟨k_ BK123.out⟩,⟨b_ HB.out⟩⟩
    case rest =>
     clear HC36;(try clear c5b0);(try clear c5b1);(try clear c6b0);(try clear c6b1);(try clear hz12);(try clear hz30);(try clear hz38);obtain⟨kq,x4_35,HA,HJ35,HO_4,BK101,BK123,HB⟩:=hcut
     cases kq with
     | zero=>exact absurd HA.out (by simp[action_Print.j1])
     | succ kj35 =>
      have H:=HA.out;clear HA;simp only[action_Print.j1] at H;replace H:=bt_ H;rcases H with ⟨rfl,H⟩|⟨rfl,H⟩
      ·replace H:=bi_ H;obtain⟨t137,A47,H⟩:=H;replace H:=bx_ H;obtain⟨c48,H⟩:=H;have LMc48:=ak_ c48;clear c48;obtain⟨y138,hy138⟩:∃ y_:List ByteArray,y_ = (x4_35 ++ [t137]):=⟨_,rfl⟩
       replace H:((strings_Join.f y138 (⟨#[32]⟩:ByteArray)).bind fun t141=>(some t141))=some r:=hr_ hy138 H
       have Ny138:=ak_ hy138;clear hy138;replace H:=bi_ H;obtain⟨t141,A49,H⟩:=H;obtain rfl:=oi_ H;have hnb50:=NB123_101.out;have hnc50:=NB101_123.out;have hz51123:=cs4_ BK123;have hz52101:=cs11_ BK101
       go_wp2_with (first|(refine gm_ 48 Tryz.func34 (decimal_Print.calls _ _ _ _ (lb_ HLD HB) A47.out) ?_;intro w53 hb;replace HO_4:=ak_ (Kd.R_below (w_ HO_4.out) hb);replace BK101:=kb_ BK101 hb;replace BK123:=kb_ BK123 hb;replace HB:=bs_ HB hb;(try clear hb);(try clear hk))|((with_reducible refine gate_builtin (b:=.append) (xs:=#[.tmp 45,.tmp 49]) rfl ?_);at_builtin;refine Kd.R_append Kd.string (w0:=w) w.heap.size rfl (.tmp 45) (.tmp 49) 40 9 (.string ⟨#[]⟩) 16 rfl Tryz.underlying40 info9 rfl (by decide) (by omega) u4 x4_35 t137 [.string t137] (fun _=>True) (fun _=>False) rfl rfl ?aP (fun _ hk=>hk.elim) ?aF ?aO ?aB ?aS ?aL ?_;(case aP=>exact rfl);(case aB=>exact(b_ HB.out));(case aF=>exact(fun _ _=>trivial));(case aO=>exact(w_ HO_4.out));(case aS=>exact(below_size (b_ HB.out)));(case aL=>have:=LMc48.out;omega);intro v139 w54 ho hb hg hat;rw[← Ny138.out] at ho;have HO140:=ak_ (ho);replace BK101:=ak_ (blk_grown (g:=gb101) (o:=.cells #[.string a0_0,.int .i64 a0_1,.string a0_2,.string a0_3,.string a0_4,.string a0_5,.string a0_6,.string a0_7,.int .i64 a0_8,.int .i64 a0_9,.int .i64 a0_10] 25 (0,0)) (k_ BK101.out) hg (Kd.R_ne HO_4.out BK101.out (by decide)));replace BK123:=ak_ (blk_grown (g:=gb123) (o:=.cells #[.string xa0_1_0,.bool xa0_1_1,.bool xa0_1_2,.bool true] 46 (0,0)) (k_ BK123.out) hg (Kd.R_ne HO_4.out BK123.out (by decide)));replace HB:=ak_ (hb);clear HO_4;clear ho hb hg hat;obtain⟨Ao55,co55,eo55⟩:=Kd.R_slice HO140.out;subst eo55)|(refine gl_ 52 Tryz.func35 #[.slice Ao55 y138.length co55,.string ⟨#[32]⟩] ?_;(with_reducible refine(strings_Join.callsR (e:=9) (base:=w.heap.size) (ok:=fun _=>True) _ _ y138 (⟨#[32]⟩:ByteArray) t141 _ ?side1 A49.out).mono ?_);(case side1=>(with_reducible repeat(first|apply Kd.R_alloc|apply Kd.R_drewN|apply Kd.R_drew));exact HO140.out);rintro e w56 ⟨rfl,hb⟩;refine⟨_,rfl,?_⟩;replace HO140:=ak_ (Kd.R_below (w_ HO140.out) hb);replace BK101:=kb_ BK101 hb;replace BK123:=kb_ BK123 hb;replace HB:=bs_ HB hb;(try clear hb);(try clear hk)))
       go_ret
       exact⟨er_,b_ HB.out⟩
      ·replace H:=bi_ H;obtain⟨t142,A57,H⟩:=H;obtain rfl:=oi_ H;have hnb58:=NB123_101.out;have hnc58:=NB101_123.out;have hz59:=cs4_ BK123;obtain⟨Ao60,co60,eo60⟩:=Kd.R_slice HO_4.out;subst eo60
       go_wp2_with ((refine gl_ 52 Tryz.func35 #[.slice Ao60 x4_35.length co60,.string ⟨#[32]⟩] ?_;(with_reducible refine(strings_Join.callsR (e:=9) (base:=w.heap.size) (ok:=fun _=>True) _ _ x4_35 (⟨#[32]⟩:ByteArray) t142 _ ?side1 A57.out).mono ?_);(case side1=>(with_reducible repeat(first|apply Kd.R_alloc|apply Kd.R_drewN|apply Kd.R_drew));exact HO_4.out);rintro e w61 ⟨rfl,hb⟩;refine⟨_,rfl,?_⟩;replace HO_4:=ak_ (Kd.R_below (w_ HO_4.out) hb);replace BK101:=kb_ BK101 hb;replace BK123:=kb_ BK123 hb;replace HB:=bs_ HB hb;(try clear hb);(try clear hk)))
       go_ret
       exact⟨er_,b_ HB.out⟩
 ·obtain rfl:=oi_ H;go_in
  go_wp2_with (first|(refine bf_ 1 #[.string a0_0,.int .i64 a0_1,.string a0_2,.string a0_3,.string a0_4,.string a0_5,.string a0_6,.string a0_7,.int .i64 a0_8,.int .i64 a0_9,.int .i64 a0_10] 25 HB ?_;clear HB;intro gb101 w62 BK101 GW101 HB;have hz63:=cs11_ BK101)|(refine gm_ 6 Tryz.func11 (action_May.calls _ _ _ _ _ _ _ _ _ _ _ _ _ _ (lb_ HLD HB) A2.out) ?_;intro w64 hb;replace BK101:=kb_ BK101 hb;replace HB:=bs_ HB hb;(try clear hb)))
  go_ret
  exact⟨er_,b_ HB.out⟩
end Po
namespace Po
open Pl
end Po
def alnum:List UInt8:=[97,98,99,100,101,102,103,104,105,106,107,108,109,110,111,112,113,114,115,116,117,118,119,120,121,122,48,49,50,51,52,53,54,55,56,57]
theorem alnum_has (c:UInt8):alnum.contains c=nameC c:=by
 have h:∀ n:Fin 256,alnum.contains (UInt8.ofNat n.val)=nameC (UInt8.ofNat n.val):=by decide +kernel
 have:=h ⟨c.toNat,c.toNat_lt⟩
 rwa [show UInt8.ofNat (⟨c.toNat,c.toNat_lt⟩:Fin 256).val=c from UInt8.ofNat_toNat] at this
theorem trim_name (l:List UInt8):Lib.trimS l alnum=[]↔l.all nameC=true:=by
 have e:(fun c=>alnum.contains c)=nameC:=funext alnum_has
 unfold Lib.trimS Lib.trimLeftS Lib.trimRightS
 rw[e,dropWhile_nil]
 constructor
 ·intro h
  by_cases hn:l.reverse.dropWhile nameC=[]
  ·rw[dropWhile_nil,List.all_reverse] at hn
   exact hn
  ·exfalso
   rw[List.all_reverse] at h
   have h1:=List.head_dropWhile_not nameC hn
   have h2:=List.all_eq_true.1 h _ (List.head_mem hn)
   rw[h2] at h1
   exact absurd h1 (by decide)
 ·intro h
  have:l.reverse.dropWhile nameC=[]:=by rw[dropWhile_nil,List.all_reverse];exact h
  rw[this]
  rfl
theorem bang_prefix (l:List UInt8):Lib.trimPrefix l [33]=bang l:=by
 unfold Lib.trimPrefix bang
 cases l with
 | nil=>rfl
 | cons c r =>
  by_cases h:c=33
  ·subst h
   rfl
  ·have hp:Lib.hasPrefix (c :: r) [33]=false:=by
    have hq:(c == 33)=false:=beq_eq_false_iff_ne.2 h
    have hq':((33:UInt8) == c)=false:=beq_eq_false_iff_ne.2 (fun z=>h z.symm)
    first|(unfold Lib.hasPrefix;simp[List.isPrefixOf,hq'];done)|(unfold Lib.hasPrefix;rw[List.isPrefixOf];rw[hq'];rfl)|(show (_&&_)=false;rw[hq];rfl)|(show (_&&_)=false;rw[hq'];rfl)
   rw[hp,if_neg (by decide)]
   split
   ·rename_i e
    rw[List.cons.injEq] at e
    exact absurd e.1 h
   ·rfl
theorem name_f {s:ByteArray} (h:s.size≤1000000):Pj.book_Name.f s=some (nameL s.data.toList):=by
 unfold Pj.book_Name.f strings_TrimPrefix.f
 have e33:(⟨#[33]⟩:ByteArray).data.toList=[33]:=rfl
 rw[ob_,ByteArray.toList_eq,e33,bang_prefix]
 unfold nameL
 by_cases h0:s.data.toList=[]
 ·rw[if_pos h0,decide_eq_false (fun z=>z h0)]
  rfl
 ·rw[if_neg h0,decide_eq_true h0,Bool.true_and]
  by_cases h1:(s.size:Int)≤20
  ·have hb:(⟨(bang s.data.toList).toArray⟩:ByteArray).size≤s.size:=by
    rw[size_len,size_len]
    show (bang s.data.toList).length≤_
    unfold bang
    split
    ·rename_i e
     rw[e]
     simp
    ·exact nr_ _
   have e:strings_Trim.f ⟨(bang s.data.toList).toArray⟩ (⟨#[97,98,99,100,101,102,103,104,105,106,107,108,109,110,111,112,113,114,115,116,117,118,119,120,121,122,48,49,50,51,52,53,54,55,56,57]⟩:ByteArray)=some ⟨(Lib.trimS (bang s.data.toList) alnum).toArray⟩:=by
    unfold strings_Trim.f
    rw[if_pos]
    ·rfl
    ·rw[decide_eq_true (show (⟨(bang s.data.toList).toArray⟩:ByteArray).size≤9223372036854775807 by omega)]
     rfl
   rw[if_pos h1,e,ob_,ByteArray.toList_eq,decide_eq_true (show s.data.toList.length≤20 by rw[← size_len];omega),Bool.true_and]
   show some (Lib.trimS (bang s.data.toList) alnum == []) = _
   congr 1
   by_cases ha:(bang s.data.toList).all nameC=true
   ·rw[(trim_name _).2 ha,ha]
    rfl
   ·rw[beq_eq_false_iff_ne.2 (fun z=>ha ((trim_name _).1 z))]
    exact((Bool.not_eq_true _).mp ha).symm
  ·rw[if_neg h1,decide_eq_false (show ¬ s.data.toList.length≤20 by rw[← size_len];omega)]
   rfl
theorem asset_f {s:ByteArray} (h:s.size≤1000000):Pj.action_asset.f s=some (assetL s.data.toList):=by
 unfold Pj.action_asset.f
 rw[name_f h,ob_]
 unfold assetL
 by_cases hn:nameL s.data.toList=true
 ·rw[if_pos hn,hn,Bool.true_and]
  have hne:s.data.toList≠[]:=by
   unfold nameL at hn
   rw[Bool.and_eq_true,decide_eq_true_eq] at hn
   exact hn.1
  have hs:=size_len s
  obtain⟨c,hc,hb⟩:=bt_get s 0 (by have:=List.length_pos_iff.2 hne;omega)
  have hb':bt s 0=(c.toNat:Int):=hb
  have hp:(0:Int)<(s.size:Int):=by have:=List.length_pos_iff.2 hne;omega
  rw[if_pos hp,hb']
  have hl:lowL s.data.toList=decide (97≤c.toNat∧c.toNat≤122):=by
   cases hl:s.data.toList with
   | nil=>exact absurd hl hne
   | cons x r =>
    rw[hl] at hc
    rw[show x=c from Option.some.inj hc]
    rfl
  rw[hl]
  by_cases h1:(c.toNat:Int)≥97
  ·rw[if_pos h1]
   by_cases h2:(c.toNat:Int)≤122
   ·rw[if_pos h2,decide_eq_true (show 97≤c.toNat∧c.toNat≤122 by omega),Bool.true_and,ByteArray.toList_eq]
    congr 1
    by_cases h3:s.data.toList=cashL
    ·rw[h3]
     rfl
    ·rw[decide_eq_true h3]
     exact bne_iff_ne.2 h3
   ·rw[if_neg h2,decide_eq_false (show ¬ (97≤c.toNat∧c.toNat≤122) by omega)]
    rfl
  ·rw[if_neg h1,decide_eq_false (show ¬ (97≤c.toNat∧c.toNat≤122) by omega)]
   rfl
 ·rw[if_neg hn,(Bool.not_eq_true _).mp hn]
  rfl
theorem bb_beq (x y:BB):(x.1.toList == y.1.toList&&(x.2.toList == y.2.toList))=decide (x=y):=by
 rw[Bool.eq_iff_iff,Bool.and_eq_true,beq_iff_eq,beq_iff_eq,toList_inj,toList_inj,decide_eq_true_eq,Prod.ext_iff]
theorem number_f {x:BB} (h:smR x=true) (named:Bool) (least:Int):Pj.action_number.f x.1 x.2 named least=some (numOk x named least):=by
 unfold Pj.action_number.f numOk
 cases named with
 | false =>
  rw[if_neg (by decide),if_neg (by decide),hOf (n:=0) (by decide) (by decide),ob_]
  have e0:((0:Int):Rat)=0:=rfl
  rw[e0,bb_beq]
 | true =>
  have em:rat_May.f x.1 x.2=some (mayR x):=by
   unfold rat_May.f
   rw[if_pos (show smR (x.1,x.2)=true from h)]
  rw[if_pos rfl,if_pos rfl,em,ob_]
  by_cases hm:mayR x=true
  ·have es:rat_Sign.f x.1 x.2=some (cmpQ (ratR x) 0):=by
    unfold rat_Sign.f rsignS
    rw[if_pos (show smR (x.1,x.2)=true from h),if_pos (show mayR (x.1,x.2)=true from hm)]
   rw[if_pos hm,es,ob_,hm,Bool.true_and]
   by_cases h1:cmpQ (ratR x) 0≥least
   ·rw[if_pos h1,decide_eq_true (show least≤cmpQ (ratR x) 0 from h1),Bool.true_and]
    by_cases h2:(x.1.size:Int)≤20
    ·rw[if_pos h2,decide_eq_true (show x.1.size≤20 by omega),Bool.true_and]
     congr 1
     rw[decide_eq_decide]
     omega
    ·rw[if_neg h2,decide_eq_false (show ¬ x.1.size≤20 by omega)]
     rfl
   ·rw[if_neg h1,decide_eq_false (show ¬ least≤cmpQ (ratR x) 0 from h1)]
    rfl
  ·rw[if_neg hm,(Bool.not_eq_true _).mp hm]
   rfl
def actV (a0:ByteArray) (a1:Int) (a2 a3 a4 a5 a6 a7:ByteArray) (a8 a9 a10:Int):ActV:=⟨a0,a1,a2,a3,(a4,a5),(a6,a7),a8,a9,a10⟩
def smA (a:ActV):Bool:=decide (a.name.size≤1000000)&&(decide (a.asset.size≤1000000)&&(decide (a.other.size≤1000000)&&(smR a.ratio&&smR a.cash)))
theorem ix_other {k:Int} (h0:0≤k) (h4:k<5):ix5 k false false false true true=kOther k:=by
 have:k=0∨k=1∨k=2∨k=3∨k=4:=by omega
 rcases this with rfl|rfl|rfl|rfl|rfl <;> rfl
theorem ix_ratio {k:Int} (h0:0≤k) (h4:k<5):ix5 k true true false true true=kRatio k:=by
 have:k=0∨k=1∨k=2∨k=3∨k=4:=by omega
 rcases this with rfl|rfl|rfl|rfl|rfl <;> rfl
theorem ix_cash {k:Int} (h0:0≤k) (h4:k<5):ix5 k false false true false true=kCash k:=by
 have:k=0∨k=1∨k=2∨k=3∨k=4:=by omega
 rcases this with rfl|rfl|rfl|rfl|rfl <;> rfl
theorem ix_word {k:Int} (h0:0≤k) (h4:k<5):(ix5 k wSplit wStock wCash wSpin wMerger).data.toList=wordK k:=by
 have:k=0∨k=1∨k=2∨k=3∨k=4:=by omega
 rcases this with rfl|rfl|rfl|rfl|rfl <;> rfl
theorem may_j1 {x:Bool} {a0 a2 a3 a4 a5 a6 a7:ByteArray} {a1 a8 a9 a10:Int} {w:ByteArray} {o:Bool} (hr:smR (a4,a5)=true) (hc:smR (a6,a7)=true) (k:Nat) :
  Pl.action_May.j1 (k+1) x a0 a1 a2 a3 a4 a5 a6 a7 a8 a9 a10 w o (kRatio a1) (kCash a1)=some (x&&(numOk (a4,a5) (kRatio a1) 1&&numOk (a6,a7) (kCash a1) (kLeast a1))):=by
 simp only[Pl.action_May.j1]
 have n1:=number_f (x:=(a4,a5)) hr (kRatio a1) 1
 have n2:=fun l=>number_f (x:=(a6,a7)) hc (kCash a1) l
 dsimp only at n1 n2
 rw[n1]
 unfold kLeast
 cases x with
 | false=>split <;> rfl
 | true =>
  rw[if_pos rfl,if_pos rfl,ob_,Bool.true_and]
  by_cases h4:a1=4
  ·rw[if_pos h4,if_pos h4,n2]
   cases numOk (a4,a5) (kRatio a1) 1 <;> rfl
  ·rw[if_neg h4,if_neg h4,n2]
   cases numOk (a4,a5) (kRatio a1) 1 <;> rfl
theorem amay_f {a0 a2 a3 a4 a5 a6 a7:ByteArray} {a1 a8 a9 a10:Int} (h:smA (actV a0 a1 a2 a3 a4 a5 a6 a7 a8 a9 a10)=true) (k:Nat) :
  Pl.action_May.f (k+2) a0 a1 a2 a3 a4 a5 a6 a7 a8 a9 a10=some (mayA (actV a0 a1 a2 a3 a4 a5 a6 a7 a8 a9 a10)):=by
 unfold smA actV at h
 dsimp only at h
 rw[Bool.and_eq_true,Bool.and_eq_true,Bool.and_eq_true,Bool.and_eq_true,decide_eq_true_eq,decide_eq_true_eq,decide_eq_true_eq] at h
 obtain⟨s0,s2,s3,hr,hc⟩:=h
 have hj:Pl.action_May.j0 (k+2) true a0 a1 a2 a3 a4 a5 a6 a7 a8 a9 a10=some false:=by
  show Pl.action_May.j0 (k+1+1) _ _ _ _ _ _ _ _ _ _ _ _ = _
  simp only[Pl.action_May.j0]
  rfl
 unfold Pl.action_May.f mayA actV
 dsimp only
 by_cases k0:a1<0
 ·rw[if_pos k0,hj,decide_eq_false (show ¬ 0≤a1 by omega)]
  rfl
 rw[if_neg k0,decide_eq_true (show 0≤a1 by omega),Bool.true_and]
 by_cases k5:a1≥5
 ·rw[if_pos k5,hj,decide_eq_false (show ¬ a1≤4 by omega)]
  rfl
 rw[if_neg k5,decide_eq_true (show a1≤4 by omega),Bool.true_and,name_f s0,ob_]
 by_cases hn:nameL a0.data.toList=true
 case neg =>
  rw[if_neg hn,hj,(Bool.not_eq_true _).mp hn]
  rfl
 rw[if_pos hn,hn,Bool.true_and,asset_f s2,ob_]
 by_cases ha:assetL a2.data.toList=true
 case neg =>
  rw[if_neg ha,hj,(Bool.not_eq_true _).mp ha]
  rfl
 rw[if_pos ha,ha,Bool.true_and]
 unfold daysOk
 dsimp only
 by_cases d0:a8<0
 ·rw[if_pos d0,hj,decide_eq_false (show ¬ 0≤a8 by omega)]
  rfl
 rw[if_neg d0,decide_eq_true (show 0≤a8 by omega),Bool.true_and]
 by_cases d1:a9<a8
 ·rw[if_pos d1,hj,decide_eq_false (show ¬ a8≤a9 by omega)]
  rfl
 rw[if_neg d1,decide_eq_true (show a8≤a9 by omega),Bool.true_and]
 by_cases d2:a10<a9
 ·rw[if_pos d2,hj,decide_eq_false (show ¬ a9≤a10 by omega)]
  rfl
 rw[if_neg d2,decide_eq_true (show a9≤a10 by omega),Bool.true_and]
 by_cases d3:a10>9999
 ·rw[decide_eq_true d3,hj,decide_eq_false (show ¬ a10≤9999 by omega)]
  rfl
 rw[decide_eq_false d3,decide_eq_true (show a10≤9999 by omega),Bool.true_and]
 show Pl.action_May.j0 (k+1+1) _ _ _ _ _ _ _ _ _ _ _ _ = _
 simp only[Pl.action_May.j0,action_shapes.f]
 rw[if_neg (by decide),ob_]
 dsimp only
 rw[if_pos (show 0≤a1 by omega),if_pos (show a1<5 by omega),ix_other (by omega) (by omega),ix_ratio (by omega) (by omega),ix_cash (by omega) (by omega)]
 unfold otherOk
 dsimp only
 by_cases ho:kOther a1=true
 ·rw[if_pos ho,if_pos ho,asset_f s3,ob_]
  by_cases hs:assetL a3.data.toList=true
  ·rw[if_pos hs,hs,Bool.true_and,may_j1 hr hc]
   congr 2
   by_cases e:a3=a2
   ·rw[e,decide_eq_false (by simp),bne_self_eq_false]
   ·rw[decide_eq_true e]
    exact bne_iff_ne.2 (fun z=>e (toList_inj.1 z))
  ·rw[if_neg hs,(Bool.not_eq_true _).mp hs,may_j1 hr hc]
   rfl
 ·rw[if_neg ho,if_neg ho,may_j1 hr hc]
  congr 2
  by_cases e:a3=noB
  ·rw[e,decide_eq_true rfl]
   rw[ByteArray.toList_eq]
   rfl
  ·rw[decide_eq_false e,beq_eq_false_iff_ne]
   intro z
   refine e (toList_inj.1 (z.trans ?_))
   rw[ByteArray.toList_eq]
   rfl
theorem join_len:∀ (ws:List (List UInt8)) (m:Nat),(∀ w∈ws,w.length≤m)→(Lib.join ws [32]).length≤ws.length * (m+1)
 | [],_,_=>by simp[Lib.join_nil]
 | [w],m,h=>by
  rw[Lib.join_one]
  have:=h w (by simp)
  simp
  omega
 | w :: v :: r,m,h=>by
  have e:Lib.join (w :: v :: r) [32]=w++32 :: Lib.join (v :: r) [32]:=by
   rw[Lib.join_cons,Lib.join_cons]
   unfold Lib.joinTail
   simp
  have ih:=join_len (v :: r) m (fun x hx=>h x (List.mem_cons_of_mem _ hx))
  have h1:=h w (by simp)
  rw[e,List.length_append,List.length_cons,List.length_cons (a:=w),Nat.succ_mul]
  omega
theorem join_f {l:List ByteArray} (hne:l≠[]) (hl:l.length≤12) (hb:∀ x∈l,x.size≤10000):strings_Join.f l ⟨#[32]⟩=some ⟨(Lib.join (l.map (·.data.toList)) [32]).toArray⟩:=by
 unfold strings_Join.f
 have e:(⟨#[32]⟩:ByteArray).data.toList=[32]:=rfl
 rw[e,if_pos]
 rw[Bool.and_eq_true,Bool.and_eq_true,decide_eq_true_eq,decide_eq_true_eq,decide_eq_true_eq]
 refine⟨hne,by omega,?_⟩
 have:=join_len (l.map (·.data.toList)) 10000 (by
  intro w hw
  obtain⟨x,hx,rfl⟩:=List.mem_map.1 hw
  rw[← size_len]
  exact hb x hx)
 rw[List.length_map] at this
 have h2:l.length * (10000+1)≤12 * (10000+1):=Nat.mul_le_mul_right _ hl
 omega
theorem itoa_dig {n:Int} (h:0≤n):itoaB n=natB n.toNat:=by
 apply bext
 rw[natB_list]
 show Lib.itoa n = _
 unfold Lib.itoa
 rw[if_neg (by omega)]
theorem itoa_f {n:Int} (h0:0≤n) (h1:n≤9999):strconv_Itoa.f n=some (natB n.toNat):=by
 unfold strconv_Itoa.f
 rw[if_pos ⟨by omega,by omega⟩,itoa_dig h0]
theorem numOk_print {x:BB} {least:Int} (h:numOk x true least=true):decimal_Print.f x.1 x.2=some (printS x)∧(printS x).size≤1000:=by
 unfold numOk at h
 rw[if_pos rfl,Bool.and_eq_true,Bool.and_eq_true,Bool.and_eq_true,decide_eq_true_eq,decide_eq_true_eq,decide_eq_true_eq] at h
 obtain⟨hm,_,l1,l2⟩:=h
 refine⟨?_,?_⟩
 ·unfold decimal_Print.f
  exact if_pos (show smD (x.1,x.2)=true from decide_eq_true (show x.1.size+x.2.size≤900 by omega))
 ·obtain⟨q,rfl⟩:=of_mayR hm
  have hs:szR q≤40:=by
   show (rT q).1.size+(rT q).2.size≤40
   omega
  have hl:=print_len q
  rw[size_len,print_rT_list]
  omega
theorem day_size {n:Int} (h1:n≤9999):(natB n.toNat).size≤10:=sz_le (k:=10) (by omega) (by decide)
theorem pj1 {x:List ByteArray} (hl:x≠[]∧x.length≤8) (hb:∀ z∈x,z.size≤10000) {a0 a2 a3 a4 a5 a6 a7 w:ByteArray} {a1 a8 a9 a10:Int} {o r:Bool} (hc:numOk (a6,a7) (kCash a1) (kLeast a1)=true) (k:Nat) :
  Po.action_Print.j1 (k+1) x a0 a1 a2 a3 a4 a5 a6 a7 a8 a9 a10 w o r (kCash a1)=some ⟨(Lib.join (x.map (·.data.toList)++(if kCash a1=true then [(printS (a6,a7)).data.toList] else [])) [32]).toArray⟩:=by
 simp only[Po.action_Print.j1]
 by_cases h:kCash a1=true
 ·rw[h] at hc
  obtain⟨p1,p2⟩:=numOk_print hc
  have p1':decimal_Print.f a6 a7=some (printS (a6,a7)):=p1
  rw[if_pos h,if_pos h,p1',ob_,if_pos (by omega),join_f (by simp) (by rw[List.length_append,List.length_singleton];omega),ob_]
  ·simp
  ·intro z hz
   rcases List.mem_append.1 hz with e|e
   ·exact hb z e
   ·rw[List.mem_singleton.1 e];omega
 ·rw[if_neg h,if_neg h,join_f hl.1 (by omega) hb,ob_,List.append_nil]
theorem pj0 {x:List ByteArray} (hl:x≠[]∧x.length≤7) (hb:∀ z∈x,z.size≤10000) {a0 a2 a3 a4 a5 a6 a7 w:ByteArray} {a1 a8 a9 a10:Int} {o:Bool} (hr:numOk (a4,a5) (kRatio a1) 1=true) (hc:numOk (a6,a7) (kCash a1) (kLeast a1)=true) (k:Nat) :
  Po.action_Print.j0 (k+2) x a0 a1 a2 a3 a4 a5 a6 a7 a8 a9 a10 w o (kRatio a1) (kCash a1)=some ⟨(Lib.join (x.map (·.data.toList)++((if kRatio a1=true then [(printS (a4,a5)).data.toList] else [])++(if kCash a1=true then [(printS (a6,a7)).data.toList] else []))) [32]).toArray⟩:=by
 show Po.action_Print.j0 (k+1+1) _ _ _ _ _ _ _ _ _ _ _ _ _ _ _ _ = _
 simp only[Po.action_Print.j0]
 by_cases h:kRatio a1=true
 ·have hr':=hr
  rw[h] at hr'
  obtain⟨p1,p2⟩:=numOk_print hr'
  have p1':decimal_Print.f a4 a5=some (printS (a4,a5)):=p1
  rw[if_pos h,if_pos h,p1',ob_,if_pos (by omega),pj1 ⟨by simp,by rw[List.length_append,List.length_singleton];omega⟩ _ hc]
  ·simp
  ·intro z hz
   rcases List.mem_append.1 hz with e|e
   ·exact hb z e
   ·rw[List.mem_singleton.1 e];omega
 ·rw[if_neg h,if_neg h,pj1 ⟨hl.1,by omega⟩ hb hc,List.nil_append]
theorem nameL_size {s:ByteArray} (h:nameL s.data.toList=true):s.size≤20:=by
 unfold nameL at h
 rw[Bool.and_eq_true,Bool.and_eq_true,decide_eq_true_eq,decide_eq_true_eq] at h
 rw[size_len]
 exact h.2.1
theorem aprint_f {a0 a2 a3 a4 a5 a6 a7:ByteArray} {a1 a8 a9 a10:Int} (h:smA (actV a0 a1 a2 a3 a4 a5 a6 a7 a8 a9 a10)=true) (k:Nat) :
  Po.action_Print.f (k+2) a0 a1 a2 a3 a4 a5 a6 a7 a8 a9 a10=some (printA (actV a0 a1 a2 a3 a4 a5 a6 a7 a8 a9 a10)):=by
 unfold Po.action_Print.f
 rw[amay_f h k,ob_]
 by_cases hm:mayA (actV a0 a1 a2 a3 a4 a5 a6 a7 a8 a9 a10)=true
 case neg =>
  rw[if_neg hm,print_not hm]
  rfl
 rw[if_pos hm]
 unfold printA
 rw[if_pos hm]
 obtain⟨⟨k0,k4⟩,h1,h2,h3,h4,h5,h6⟩:=mayA_and hm
 unfold daysOk at h3
 simp only[Bool.and_eq_true,decide_eq_true_eq] at h3
 obtain⟨d0,d1,d2,d3⟩:=h3
 dsimp only[actV] at k0 k4 h1 h2 h4 h5 h6 d0 d1 d2 d3
 unfold action_shapes.f
 rw[ob_]
 dsimp only
 have w0:=ix_word (k:=a1) (by omega) (by omega)
 rw[if_pos (show 0≤a1 by omega),if_pos (show a1<5 by omega),itoa_f (n:=a8) (by omega) (by omega),ob_,itoa_f (n:=a9) (by omega) (by omega),ob_,itoa_f (n:=a10) (by omega) (by omega),ob_,ob_,ix_other (by omega) (by omega),ix_ratio (by omega) (by omega),ix_cash (by omega) (by omega)]
 generalize ix5 a1 wSplit wStock wCash wSpin wMerger=wd at w0 ⊢
 have z0:wd.size≤10000:=by
  rw[size_len,w0]
  unfold wordK
  (repeat' split) <;> decide
 have z1:=nameL_size h1
 have z2:=nameL_size (Bool.and_eq_true_iff.1 h2).1
 have z8:=day_size (n:=a8) (by omega)
 have z9:=day_size (n:=a9) (by omega)
 have z10:=day_size (n:=a10) (by omega)
 have hb6:∀ z∈[wd,a0,a2,natB a8.toNat,natB a9.toNat,natB a10.toNat],z.size≤10000:=by
  intro z hz
  simp only[List.mem_cons,List.not_mem_nil,or_false] at hz
  rcases hz with rfl|rfl|rfl|rfl|rfl|rfl <;> omega
 have hw:wordsA (actV a0 a1 a2 a3 a4 a5 a6 a7 a8 a9 a10)=[wd,a0,a2,natB a8.toNat,natB a9.toNat,natB a10.toNat].map (·.data.toList)++((if kOther a1=true then [a3.data.toList] else [])++((if kRatio a1=true then [(printS (a4,a5)).data.toList] else [])++(if kCash a1=true then [(printS (a6,a7)).data.toList] else []))):=by
  unfold wordsA restA numsA actV
  dsimp only
  rw[List.map_cons,List.map_cons,List.map_cons,List.map_cons,List.map_cons,List.map_cons,List.map_nil,w0,natB_list,natB_list,natB_list]
  rfl
 rw[hw]
 unfold otherOk at h4
 dsimp only[actV] at h4
 by_cases ho:kOther a1=true
 ·rw[if_pos ho] at h4
  have z3:=nameL_size (Bool.and_eq_true_iff.1 (Bool.and_eq_true_iff.1 h4).1).1
  rw[if_pos ho,if_pos ho,if_pos (by simp),pj0 ⟨by simp,by simp⟩ _ h5 h6]
  ·simp
  ·intro z hz
   rcases List.mem_append.1 hz with e|e
   ·exact hb6 z e
   ·rw[List.mem_singleton.1 e];omega
 ·rw[if_neg ho,if_neg ho,pj0 ⟨by simp,by simp⟩ hb6 h5 h6,List.nil_append]
def action_May.f (a0_0:ByteArray) (a0_1:Int) (a0_2 a0_3 a0_4 a0_5 a0_6 a0_7:ByteArray) (a0_8 a0_9 a0_10:Int):Option Bool:=if smA (actV a0_0 a0_1 a0_2 a0_3 a0_4 a0_5 a0_6 a0_7 a0_8 a0_9 a0_10)=true then some (mayA (actV a0_0 a0_1 a0_2 a0_3 a0_4 a0_5 a0_6 a0_7 a0_8 a0_9 a0_10)) else none
theorem action_May.calls (a0_0:ByteArray) (a0_1:Int) (a0_2 a0_3 a0_4 a0_5 a0_6 a0_7:ByteArray) (a0_8 a0_9 a0_10:Int) (r:Bool) (w:World) (hL_:Laid w) (h:action_May.f a0_0 a0_1 a0_2 a0_3 a0_4 a0_5 a0_6 a0_7 a0_8 a0_9 a0_10=some r) :
  Calls Tryz.prog 11 #[.agg #[.string a0_0,.int .i64 a0_1,.string a0_2,.string a0_3,.string a0_4,.string a0_5,.string a0_6,.string a0_7,.int .i64 a0_8,.int .i64 a0_9,.int .i64 a0_10]] w fun e w'=>e=.returned (.bool r)∧Below w.heap.size w w':=by
 unfold action_May.f at h
 split at h
 ·rename_i hp
  rw[← amay_f hp 0] at h
  exact Pl.action_May.calls _ a0_0 a0_1 a0_2 a0_3 a0_4 a0_5 a0_6 a0_7 a0_8 a0_9 a0_10 r w hL_ h
 ·cases h
def action_Print.f (a0_0:ByteArray) (a0_1:Int) (a0_2 a0_3 a0_4 a0_5 a0_6 a0_7:ByteArray) (a0_8 a0_9 a0_10:Int):Option ByteArray:=if smA (actV a0_0 a0_1 a0_2 a0_3 a0_4 a0_5 a0_6 a0_7 a0_8 a0_9 a0_10)=true then some (printA (actV a0_0 a0_1 a0_2 a0_3 a0_4 a0_5 a0_6 a0_7 a0_8 a0_9 a0_10)) else none
theorem action_Print.calls (a0_0:ByteArray) (a0_1:Int) (a0_2 a0_3 a0_4 a0_5 a0_6 a0_7:ByteArray) (a0_8 a0_9 a0_10:Int) (r:ByteArray) (w:World) (hL_:Laid w) (h:action_Print.f a0_0 a0_1 a0_2 a0_3 a0_4 a0_5 a0_6 a0_7 a0_8 a0_9 a0_10=some r) :
  Calls Tryz.prog 13 #[.agg #[.string a0_0,.int .i64 a0_1,.string a0_2,.string a0_3,.string a0_4,.string a0_5,.string a0_6,.string a0_7,.int .i64 a0_8,.int .i64 a0_9,.int .i64 a0_10]] w fun e w'=>e=.returned (.string r)∧Below w.heap.size w w':=by
 unfold action_Print.f at h
 split at h
 ·rename_i hp
  rw[← aprint_f hp 0] at h
  exact Po.action_Print.calls _ a0_0 a0_1 a0_2 a0_3 a0_4 a0_5 a0_6 a0_7 a0_8 a0_9 a0_10 r w hL_ h
 ·cases h
def Ks (g:Nat) (w w':World):Prop:=∀ b,b≠g→b<w.heap.size→w'.heap[b]?=w.heap[b]?
theorem Ks.blk {g b:Nat} {w w':World} {o:Obj} (h:Ks g w w') (hn:b≠g) (hb:w.heap[b]?=some o):w'.heap[b]?=some o:=(h b hn (blk_lt hb)).trans hb
theorem Rd.drew {w:World} {g gb i:Nat} {ws:List ByteArray} {ok:Bool} (h:Rd w g gb ws i ok):Rd w.drew g gb ws i ok:=h.below (below_drew1 (Below.refl _ _))
theorem word_c {g gb i:Nat} {ws:List ByteArray} {ok:Bool} {w0 w:World} {x:ByteArray} (hb0:Below w0.heap.size w0 w) (hB:w0.heap.size≤g) (h:Rd w g gb ws i ok) (hx:ws.getD i ⟨#[]⟩=x) :
  Calls Tryz.prog 18 #[.pointer (some ⟨g,0,none⟩)] w fun e w'=>e=.returned (.string x)∧∃ ok',Aside0 (ok'=(ok&&decide (i<ws.length)))∧Rd w' g gb ws (i+1) ok'∧Below w0.heap.size w0 w'∧Ks g w w':=by
 subst hx
 refine(word_calls hB h).mono ?_
 rintro e w' ⟨rfl,h1,b1,k1⟩
 exact⟨rfl,_,⟨rfl⟩,h1,hb0.trans b1,fun b hb _=>k1 b hb⟩
theorem day_c {g gb i:Nat} {ws:List ByteArray} {ok:Bool} {w0 w:World} {x:ByteArray} {n:Int} {b:Bool} (hL:Laid w0) (hb0:Below w0.heap.size w0 w) (hB:w0.heap.size≤g) (h:Rd w g gb ws i ok) (hx:ws.getD i ⟨#[]⟩=x) (hs:x.size≤50000) (hn:smallS x=(n,b)) :
  Calls Tryz.prog 20 #[.pointer (some ⟨g,0,none⟩)] w fun e w'=>e=.returned (.int .i64 n)∧∃ ok',Aside0 (ok'=((ok&&decide (i<ws.length))&&b))∧Rd w' g gb ws (i+1) ok'∧Below w0.heap.size w0 w'∧Ks g w w':=by
 subst hx
 have e1:n=(smallS (ws.getD i ⟨#[]⟩)).1:=by rw[hn]
 have e2:b=(smallS (ws.getD i ⟨#[]⟩)).2:=by rw[hn]
 subst e1;subst e2
 refine(day_calls hL hb0 hB h hs).mono ?_
 rintro e w' ⟨rfl,h1,b1,k1⟩
 exact⟨rfl,_,⟨rfl⟩,h1,b1,k1⟩
theorem num_c {g gb i:Nat} {ws:List ByteArray} {ok nm:Bool} {w0 w:World} {x n d:ByteArray} {b:Bool} (hL:Laid w0) (hb0:Below w0.heap.size w0 w) (hB:w0.heap.size≤g) (h:Rd w g gb ws i ok) (hx:ws.getD i ⟨#[]⟩=x) (hs:x.size≤1100)
  (hn:(if nm=true then parseS x else ((rT 0).1,(rT 0).2,0))=(n,d,if b=true then 0 else 40)) :
  Calls Tryz.prog 21 #[.pointer (some ⟨g,0,none⟩),.bool nm] w fun e w'=>e=.returned (.agg #[.string n,.string d])∧∃ ok',Aside0 (ok'=(if nm=true then ((ok&&decide (i<ws.length))&&b) else ok))∧Rd w' g gb ws (if nm=true then i+1 else i) ok'∧Below w0.heap.size w0 w'∧Ks g w w':=by
 subst hx
 cases nm
 ·rw[if_neg (by decide)] at hn
  obtain⟨rfl,h2⟩:=Prod.mk.inj hn
  obtain⟨rfl,h3⟩:=Prod.mk.inj h2
  refine(num_none hL hb0).mono ?_
  rintro e w' ⟨rfl,b1⟩
  exact⟨rfl,ok,⟨rfl⟩,h.below b1,hb0.trans (b1.mono (below_size hb0)),fun k _ hk=>b1.block k hk⟩
 ·rw[if_pos rfl] at hn
  refine(num_calls hL hb0 hB h hs).mono ?_
  rw[hn]
  rintro e w' ⟨rfl,h1,b1,k1⟩
  refine⟨rfl,_,⟨rfl⟩,?_,b1,k1⟩
  cases b
  ·exact h1
  ·exact h1
theorem split_c {s:ByteArray} {ws:List ByteArray} {w0 w:World} (hL:Laid w0) (hb0:Below w0.heap.size w0 w) (hs:s.size≤1100) (hw:Lib.splitB ⟨#[32]⟩ 0 (Lib.countB s ⟨#[32]⟩) s=ws) (hl:Lib.countB s ⟨#[32]⟩+1=ws.length) :
  Calls Tryz.prog 17 #[.string s,.string ⟨#[32]⟩] w fun e w'=>∃ gb,e=.returned (.slice (some ⟨gb,0,none⟩) ws.length ws.length)∧w'.heap[gb]?=some (.cells (ws.map Value.string).toArray 9 (0,0))∧Below w.heap.size w w':=by
 obtain⟨m,hm⟩:=(hL.below hb0).mx
 refine(Tryz.strings_Split s ⟨#[32]⟩ m w (by omega) hm (by decide)).mono ?_
 rintro e w' ⟨rfl,rfl⟩
 rw[hw,hl]
 exact⟨_,rfl,heap_alloc_new w _,(Below.refl _ w).alloc (nr_ _) _⟩
theorem rd_init {g gb:Nat} {ws:List ByteArray} {w:World} {t u:TypeId} (h:w.heap[g]?=some (.cells #[.slice (some ⟨gb,0,none⟩) ws.length ws.length,.bool true] t (0,0))) (hrow:w.heap[gb]?=some (.cells (ws.map Value.string).toArray u (0,0))) (ne:g≠gb) (sz:ws.length≤1000000):Rd w g gb ws 0 true:=by
 refine⟨⟨some ⟨gb,0,none⟩,ws.length,bc_ ⟨h⟩ 0 rfl,fun _=>⟨rfl,rfl⟩⟩,bc_ ⟨h⟩ 1 rfl,blk_frozen h 0,blk_frozen h 1,fun j x hx=>?_,ne,sz,blk_lt h⟩
 refine bc_ ⟨hrow⟩ j ?_
 rw[List.getElem?_toArray,List.getElem?_map,hx]
 rfl
theorem ratW_of {x n d:ByteArray} {b:Bool} (h:parseS x=(n,d,if b=true then 0 else 40)):ratW x.data.toList=((n,d),b):=by
 unfold parseS at h
 unfold ratW
 split at h
 ·rename_i q e
  (try rw[e])
  obtain⟨rfl,h2⟩:=Prod.mk.inj h
  obtain⟨rfl,h3⟩:=Prod.mk.inj h2
  cases b
  ·exact absurd h3 (by decide)
  ·rfl
 ·rename_i e
  (try rw[e])
  obtain⟨rfl,h2⟩:=Prod.mk.inj h
  obtain⟨rfl,h3⟩:=Prod.mk.inj h2
  cases b
  ·rfl
  ·exact absurd h3 (by decide)
theorem wAt_map (ws:List ByteArray) (i:Nat):wAt (ws.map (·.data.toList)) i=(ws.getD i ⟨#[]⟩).data.toList:=by
 unfold wAt
 rw[List.getD_eq_getElem?_getD,List.getD_eq_getElem?_getD,List.getElem?_map]
 cases ws[i]? <;> rfl
theorem wB_map (ws:List ByteArray) (i:Nat):wB (ws.map (·.data.toList)) i=ws.getD i ⟨#[]⟩:=by
 unfold wB
 rw[wAt_map,toB]
theorem dayW_map (ws:List ByteArray) (i:Nat):dayW (wAt (ws.map (·.data.toList)) i)=smallS (ws.getD i ⟨#[]⟩):=by
 unfold dayW
 rw[wAt_map,toB]
def flagA (n:Nat) (xo xr xc b3 b4 b5 b6 b7:Bool):Bool :=
 decide (5<n)&&(b3&&(b4&&b5))&&(if xo=true then decide (6<n) else true)&&(if xr=true then decide ((if xo=true then 7 else 6)<n)&&b6 else true)&&(if xc=true then decide ((if xo=true then 7 else 6)+(if xr=true then 1 else 0)<n)&&b7 else true)
def endA (xo xr xc:Bool):Nat:=(if xo=true then 7 else 6)+(if xr=true then 1 else 0)+(if xc=true then 1 else 0)
theorem owed_end (j:Int):owed j=endA (kOther j) (kRatio j) (kCash j):=by
 unfold owed endA
 cases kOther j <;> cases kRatio j <;> cases kCash j <;> rfl
theorem flag_end {n:Nat} {xo xr xc b3 b4 b5 b6 b7:Bool}:(flagA n xo xr xc b3 b4 b5 b6 b7&&decide (n-endA xo xr xc=0))=(decide (n=endA xo xr xc)&&(b3&&(b4&&(b5&&((!xr || b6)&&(!xc || b7)))))):=by
 unfold flagA endA
 rw[Bool.eq_iff_iff]
 cases xo <;> cases xr <;> cases xc <;> simp only[Bool.and_eq_true,Bool.or_eq_true,decide_eq_true_eq,Bool.not_eq_true',if_true,if_false,Bool.false_eq_true,reduceIte,Bool.not_false,Bool.not_true,true_or,false_or,and_true,true_and,reduceCtorEq] <;> constructor <;> intro h <;> (repeat' apply And.intro) <;> first|omega|simp_all
theorem parse_end {ws:List ByteArray} {j:Int} {x1 x2 x3 rn rd cn cd:ByteArray} {n3 n4 n5:Int} {b3 b4 b5 b6 b7:Bool} (h0:0≤j) (h5:j≤4) (hx:(ws.getD 0 ⟨#[]⟩).data.toList=wordK j)
  (e1:ws.getD 1 ⟨#[]⟩=x1) (e2:ws.getD 2 ⟨#[]⟩=x2) (e3:smallS (ws.getD 3 ⟨#[]⟩)=(n3,b3)) (e4:smallS (ws.getD 4 ⟨#[]⟩)=(n4,b4)) (e5:smallS (ws.getD 5 ⟨#[]⟩)=(n5,b5))
  (eo:x3=if kOther j=true then ws.getD 6 ⟨#[]⟩ else ⟨#[]⟩)
  (e6:(if kRatio j=true then parseS (ws.getD (if kOther j=true then 7 else 6) ⟨#[]⟩) else ((rT 0).1,(rT 0).2,0))=(rn,rd,if b6=true then 0 else 40))
  (e7:(if kCash j=true then parseS (ws.getD ((if kOther j=true then 7 else 6)+(if kRatio j=true then 1 else 0)) ⟨#[]⟩) else ((rT 0).1,(rT 0).2,0))=(cn,cd,if b7=true then 0 else 40)) :
  parseWs (ws.map (·.data.toList))=if ((flagA ws.length (kOther j) (kRatio j) (kCash j) b3 b4 b5 b6 b7&&decide (ws.length-endA (kOther j) (kRatio j) (kCash j)=0))&&mayA (actV x1 j x2 x3 rn rd cn cd n3 n4 n5))=true then some (actV x1 j x2 x3 rn rd cn cd n3 n4 n5) else none:=by
 have hr:readA j (ws.map (·.data.toList))=actV x1 j x2 x3 rn rd cn cd n3 n4 n5:=by
  unfold readA actV
  rw[wB_map,wB_map,wB_map,dayW_map,dayW_map,dayW_map,e1,e2,e3,e4,e5,eo]
  congr 1
  ·by_cases hr:kRatio j=true
   ·rw[if_pos hr]
    rw[if_pos hr] at e6
    unfold ratAt
    rw[wAt_map,ratW_of e6]
   ·rw[if_neg hr]
    rw[if_neg hr] at e6
    obtain⟨h1,h2⟩:=Prod.mk.inj e6
    obtain⟨h2,h3⟩:=Prod.mk.inj h2
    rw[← h1,← h2]
  ·by_cases hc:kCash j=true
   ·rw[if_pos hc]
    rw[if_pos hc] at e7
    unfold cashAt ratAt
    rw[wAt_map,ratW_of e7]
   ·rw[if_neg hc]
    rw[if_neg hc] at e7
    obtain⟨h1,h2⟩:=Prod.mk.inj e7
    obtain⟨h2,h3⟩:=Prod.mk.inj h2
    rw[← h1,← h2]
 have ho:readOk j (ws.map (·.data.toList))=(flagA ws.length (kOther j) (kRatio j) (kCash j) b3 b4 b5 b6 b7&&decide (ws.length-endA (kOther j) (kRatio j) (kCash j)=0)):=by
  rw[flag_end,← owed_end]
  unfold readOk
  rw[dayW_map,dayW_map,dayW_map,e3,e4,e5,List.length_map]
  congr 5
  ·cases hr:kRatio j
   ·rfl
   ·rw[hr,if_pos rfl] at e6
    unfold ratAt
    rw[wAt_map,ratW_of e6]
  ·cases hc:kCash j
   ·rfl
   ·rw[hc,if_pos rfl] at e7
    unfold cashAt ratAt
    rw[wAt_map,ratW_of e7]
 unfold parseWs
 rw[wAt_map,hx,kindW_word h0 h5]
 dsimp only
 rw[ho,hr]
theorem flag_ok {n:Nat} {xo xr xc b3 b4 b5 b6 b7 ok1 ok2 ok3 ok4 ok5 ok6 ok7 ok8:Bool} {i6 i7 i8:Nat} (h1:ok1=(true&&decide (1<n))) (h2:ok2=(ok1&&decide (2<n))) (h3:ok3=((ok2&&decide (3<n))&&b3)) (h4:ok4=((ok3&&decide (4<n))&&b4)) (h5:ok5=((ok4&&decide (5<n))&&b5))
  (h6:ok6=if xo=true then ok5&&decide (6<n) else ok5) (g6:i6=if xo=true then 7 else 6) (h7:ok7=if xr=true then ((ok6&&decide (i6<n))&&b6) else ok6) (g7:i7=if xr=true then i6+1 else i6) (h8:ok8=if xc=true then ((ok7&&decide (i7<n))&&b7) else ok7) (g8:i8=if xc=true then i7+1 else i7) :
  ok8=flagA n xo xr xc b3 b4 b5 b6 b7∧i8=endA xo xr xc:=by
 have e5:ok5=(decide (5<n)&&(b3&&(b4&&b5))):=by
  subst h1 h2 h3 h4 h5
  rw[Bool.eq_iff_iff]
  simp only[Bool.and_eq_true,decide_eq_true_eq,true_and]
  constructor <;> intro h <;> (repeat' apply And.intro) <;> first|omega|simp_all
 clear h1 h2 h3 h4
 subst e5
 clear h5
 subst h6 g6 h7 g7 h8 g8
 unfold flagA endA
 cases xo <;> cases xr <;> cases xc <;> refine⟨?_,rfl⟩ <;> simp[Bool.and_assoc]
theorem splitK_L:∀ (n:Nat) (s:List UInt8),s.length≤n→Lib.splitK [32] 0 (Lib.count s [32]) s=splitL s:=by
 intro n
 induction n with
 | zero =>
  intro s h
  have:s=[]:=List.length_eq_zero_iff.1 (by omega)
  subst this
  decide
 | succ n ih =>
  intro s h
  cases hc:cutAt 32 s with
  | none =>
   have hi:Lib.index s [32]=-1:=by rw[Lib.index_one];exact indexByte_none hc
   have h0:=Lib.count_miss hi
   have hn:(32:UInt8)∉s:=by
    rw[Lib.count_one] at h0
    exact List.count_eq_zero.1 h0
   rw[h0,split_word hn]
   rfl
  | some p =>
   obtain⟨a,b⟩:=p
   obtain⟨h1,h2,h3⟩:=indexByte_some hc
   have hi:Lib.index s [32]=(a.length:Int):=by rw[Lib.index_one];exact h1
   have hd:s.drop (a.length+1)=b:=by
    rw[h2,← List.drop_drop,List.drop_left]
    rfl
   have ht:s.take a.length=a:=by
    rw[h2]
    exact List.take_left
   have hk:=Lib.count_hit (sub:=[32]) (by simp) hi
   rw[show [(32:UInt8)].length=1 from rfl,hd] at hk
   rw[hk,Nat.add_comm]
   unfold Lib.splitK
   rw[hi,if_neg (by rw[beq_iff_eq];omega),Int.toNat_natCast,Nat.add_zero,ht,show [(32:UInt8)].length=1 from rfl,hd,ih b (by rw[h2] at h;simp at h;omega),h2,split_first _ h3]
theorem words_of (s:ByteArray):(Lib.splitB ⟨#[32]⟩ 0 (Lib.countB s ⟨#[32]⟩) s).map (·.data.toList)=splitL s.data.toList:=by
 rw[Lib.splitB_data]
 exact splitK_L _ _ (nr_ _)
theorem split_len:∀ l:List UInt8,(splitL l).length≤l.length+1∧∀ w∈splitL l,w.length≤l.length
 | []=>by simp[splitL]
 | c :: r=>by
  obtain⟨h1,h2⟩:=split_len r
  unfold splitL
  split
  ·constructor
   ·simp only[List.length_cons];omega
   ·intro w hw
    rcases List.mem_cons.1 hw with rfl|e
    ·simp
    ·have:=h2 w e
     simp only[List.length_cons];omega
  ·split
   ·rename_i w ws e
    rw[e] at h1 h2
    constructor
    ·simp only[List.length_cons] at h1 ⊢;omega
    ·intro v hv
     rcases List.mem_cons.1 hv with rfl|e'
     ·have:=h2 w List.mem_cons_self
      simp only[List.length_cons];omega
     ·have:=h2 v (List.mem_cons_of_mem _ e')
      simp only[List.length_cons];omega
   ·constructor
    ·simp
    ·intro w hw
     rw[List.mem_singleton] at hw
     subst hw
     simp
def zeroA:ActV:=actV noB 0 noB noB noB noB noB noB 0 0 0
def outW (l:List (List UInt8)):ActV×Int:=match parseWs l with
 | some a=>(a,0)
 | none=>(zeroA,150)
def parseAct (s:ByteArray):ActV×Int:=outW (splitL s.data.toList)
theorem outW_some {l:List (List UInt8)} {a:ActV} (h:parseWs l=some a):outW l=(a,0):=by
 unfold outW
 rw[h]
theorem outW_none {l:List (List UInt8)} (h:parseWs l=none):outW l=(zeroA,150):=by
 unfold outW
 rw[h]
def cellsA (a:ActV):Value:=.agg #[.string a.name,.int .i64 a.kind,.string a.asset,.string a.other,.string a.ratio.1,.string a.ratio.2,.string a.cash.1,.string a.cash.2,.int .i64 a.ex,.int .i64 a.rec_,.int .i64 a.pay]
theorem set11_eq {o0 o1 o2 o3 o4 o5 o6 o7 o8 o9 o10 v0 v1 v2 v3 v4 v5 v6 v7 v8 v9 v10:Value}:(((((((((((#[o0,o1,o2,o3,o4,o5,o6,o7,o8,o9,o10]:Array Value).setIfInBounds 0 v0).setIfInBounds 1 v1).setIfInBounds 2 v2).setIfInBounds 3 v3).setIfInBounds 4 v4).setIfInBounds 5 v5).setIfInBounds 6 v6).setIfInBounds 7 v7).setIfInBounds 8 v8).setIfInBounds 9 v9).setIfInBounds 10 v10=(#[v0,v1,v2,v3,v4,v5,v6,v7,v8,v9,v10]:Array Value):=by
 simp only[List.setIfInBounds_toArray,List.set_cons_zero,List.set_cons_succ]
theorem blk_set11 {w:World} {g:Nat} {t:TypeId} {o0 o1 o2 o3 o4 o5 o6 o7 o8 o9 o10:Value} (h:w.heap[g]?=some (.cells #[o0,o1,o2,o3,o4,o5,o6,o7,o8,o9,o10] t (0,0))) (v0 v1 v2 v3 v4 v5 v6 v7 v8 v9 v10:Value):(((((((((((w.setCell ⟨g,0,none⟩ v0).setCell ⟨g,1,none⟩ v1).setCell ⟨g,2,none⟩ v2).setCell ⟨g,3,none⟩ v3).setCell ⟨g,4,none⟩ v4).setCell ⟨g,5,none⟩ v5).setCell ⟨g,6,none⟩ v6).setCell ⟨g,7,none⟩ v7).setCell ⟨g,8,none⟩ v8).setCell ⟨g,9,none⟩ v9).setCell ⟨g,10,none⟩ v10).heap[g]?=some (.cells #[v0,v1,v2,v3,v4,v5,v6,v7,v8,v9,v10] t (0,0)):=by
 have h0:=blk_set h 0 v0
 have h1:=blk_set h0 1 v1
 have h2:=blk_set h1 2 v2
 have h3:=blk_set h2 3 v3
 have h4:=blk_set h3 4 v4
 have h5:=blk_set h4 5 v5
 have h6:=blk_set h5 6 v6
 have h7:=blk_set h6 7 v7
 have h8:=blk_set h7 8 v8
 have h9:=blk_set h8 9 v9
 have h10:=blk_set h9 10 v10
 rw[set11_eq] at h10
 exact h10
theorem blk_far11 {w:World} {g b:Nat} {t:TypeId} {cs:Array Value} (h:w.heap[b]?=some (.cells cs t (0,0))) (hn:b≠g) (v0 v1 v2 v3 v4 v5 v6 v7 v8 v9 v10:Value):(((((((((((w.setCell ⟨g,0,none⟩ v0).setCell ⟨g,1,none⟩ v1).setCell ⟨g,2,none⟩ v2).setCell ⟨g,3,none⟩ v3).setCell ⟨g,4,none⟩ v4).setCell ⟨g,5,none⟩ v5).setCell ⟨g,6,none⟩ v6).setCell ⟨g,7,none⟩ v7).setCell ⟨g,8,none⟩ v8).setCell ⟨g,9,none⟩ v9).setCell ⟨g,10,none⟩ v10).heap[b]?=some (.cells cs t (0,0)):=by
 have h0:=blk_far h (p:=⟨g,0,none⟩) hn v0
 have h1:=blk_far h0 (p:=⟨g,1,none⟩) hn v1
 have h2:=blk_far h1 (p:=⟨g,2,none⟩) hn v2
 have h3:=blk_far h2 (p:=⟨g,3,none⟩) hn v3
 have h4:=blk_far h3 (p:=⟨g,4,none⟩) hn v4
 have h5:=blk_far h4 (p:=⟨g,5,none⟩) hn v5
 have h6:=blk_far h5 (p:=⟨g,6,none⟩) hn v6
 have h7:=blk_far h6 (p:=⟨g,7,none⟩) hn v7
 have h8:=blk_far h7 (p:=⟨g,8,none⟩) hn v8
 have h9:=blk_far h8 (p:=⟨g,9,none⟩) hn v9
 have h10:=blk_far h9 (p:=⟨g,10,none⟩) hn v10
 exact h10
theorem below_set11 {B g:Nat} {w0 w:World} (h:Below B w0 w) (hg:B≤g) (v0 v1 v2 v3 v4 v5 v6 v7 v8 v9 v10:Value):Below B w0 (((((((((((w.setCell ⟨g,0,none⟩ v0).setCell ⟨g,1,none⟩ v1).setCell ⟨g,2,none⟩ v2).setCell ⟨g,3,none⟩ v3).setCell ⟨g,4,none⟩ v4).setCell ⟨g,5,none⟩ v5).setCell ⟨g,6,none⟩ v6).setCell ⟨g,7,none⟩ v7).setCell ⟨g,8,none⟩ v8).setCell ⟨g,9,none⟩ v9).setCell ⟨g,10,none⟩ v10):=by
 have h0:Below B w0 (w.setCell ⟨g,0,none⟩ v0):=h.setCell hg v0
 have h1:Below B w0 ((w.setCell ⟨g,0,none⟩ v0).setCell ⟨g,1,none⟩ v1):=h0.setCell hg v1
 have h2:Below B w0 (((w.setCell ⟨g,0,none⟩ v0).setCell ⟨g,1,none⟩ v1).setCell ⟨g,2,none⟩ v2):=h1.setCell hg v2
 have h3:Below B w0 ((((w.setCell ⟨g,0,none⟩ v0).setCell ⟨g,1,none⟩ v1).setCell ⟨g,2,none⟩ v2).setCell ⟨g,3,none⟩ v3):=h2.setCell hg v3
 have h4:Below B w0 (((((w.setCell ⟨g,0,none⟩ v0).setCell ⟨g,1,none⟩ v1).setCell ⟨g,2,none⟩ v2).setCell ⟨g,3,none⟩ v3).setCell ⟨g,4,none⟩ v4):=h3.setCell hg v4
 have h5:Below B w0 ((((((w.setCell ⟨g,0,none⟩ v0).setCell ⟨g,1,none⟩ v1).setCell ⟨g,2,none⟩ v2).setCell ⟨g,3,none⟩ v3).setCell ⟨g,4,none⟩ v4).setCell ⟨g,5,none⟩ v5):=h4.setCell hg v5
 have h6:Below B w0 (((((((w.setCell ⟨g,0,none⟩ v0).setCell ⟨g,1,none⟩ v1).setCell ⟨g,2,none⟩ v2).setCell ⟨g,3,none⟩ v3).setCell ⟨g,4,none⟩ v4).setCell ⟨g,5,none⟩ v5).setCell ⟨g,6,none⟩ v6):=h5.setCell hg v6
 have h7:Below B w0 ((((((((w.setCell ⟨g,0,none⟩ v0).setCell ⟨g,1,none⟩ v1).setCell ⟨g,2,none⟩ v2).setCell ⟨g,3,none⟩ v3).setCell ⟨g,4,none⟩ v4).setCell ⟨g,5,none⟩ v5).setCell ⟨g,6,none⟩ v6).setCell ⟨g,7,none⟩ v7):=h6.setCell hg v7
 have h8:Below B w0 (((((((((w.setCell ⟨g,0,none⟩ v0).setCell ⟨g,1,none⟩ v1).setCell ⟨g,2,none⟩ v2).setCell ⟨g,3,none⟩ v3).setCell ⟨g,4,none⟩ v4).setCell ⟨g,5,none⟩ v5).setCell ⟨g,6,none⟩ v6).setCell ⟨g,7,none⟩ v7).setCell ⟨g,8,none⟩ v8):=h7.setCell hg v8
 have h9:Below B w0 ((((((((((w.setCell ⟨g,0,none⟩ v0).setCell ⟨g,1,none⟩ v1).setCell ⟨g,2,none⟩ v2).setCell ⟨g,3,none⟩ v3).setCell ⟨g,4,none⟩ v4).setCell ⟨g,5,none⟩ v5).setCell ⟨g,6,none⟩ v6).setCell ⟨g,7,none⟩ v7).setCell ⟨g,8,none⟩ v8).setCell ⟨g,9,none⟩ v9):=h8.setCell hg v9
 have h10:Below B w0 (((((((((((w.setCell ⟨g,0,none⟩ v0).setCell ⟨g,1,none⟩ v1).setCell ⟨g,2,none⟩ v2).setCell ⟨g,3,none⟩ v3).setCell ⟨g,4,none⟩ v4).setCell ⟨g,5,none⟩ v5).setCell ⟨g,6,none⟩ v6).setCell ⟨g,7,none⟩ v7).setCell ⟨g,8,none⟩ v8).setCell ⟨g,9,none⟩ v9).setCell ⟨g,10,none⟩ v10):=h9.setCell hg v10
 exact h10
section
attribute [local go_sem] idx_shape
theorem Rd.far11 {w:World} {g gb i k:Nat} {ws:List ByteArray} {ok:Bool} (h:Rd w g gb ws i ok) (h1:k≠g) (h2:∀ (j:Nat) x,ws[j]?=some x→k≠gb) (v0 v1 v2 v3 v4 v5 v6 v7 v8 v9 v10:Value):Rd (((((((((((w.setCell ⟨k,0,none⟩ v0).setCell ⟨k,1,none⟩ v1).setCell ⟨k,2,none⟩ v2).setCell ⟨k,3,none⟩ v3).setCell ⟨k,4,none⟩ v4).setCell ⟨k,5,none⟩ v5).setCell ⟨k,6,none⟩ v6).setCell ⟨k,7,none⟩ v7).setCell ⟨k,8,none⟩ v8).setCell ⟨k,9,none⟩ v9).setCell ⟨k,10,none⟩ v10) g gb ws i ok:=by
 have z0:=h.far h1 h2 0 v0
 have z1:=z0.far h1 h2 1 v1
 have z2:=z1.far h1 h2 2 v2
 have z3:=z2.far h1 h2 3 v3
 have z4:=z3.far h1 h2 4 v4
 have z5:=z4.far h1 h2 5 v5
 have z6:=z5.far h1 h2 6 v6
 have z7:=z6.far h1 h2 7 v7
 have z8:=z7.far h1 h2 8 v8
 have z9:=z8.far h1 h2 9 v9
 have z10:=z9.far h1 h2 10 v10
 exact z10
def St (w:World) (g gb:Nat) (ws:List ByteArray) (x0:ByteArray) (j:Int):Prop :=
 (Rd w g gb ws 1 true∧∀ i:Int,0≤i→i<j→x0.data.toList≠wordK i)∨(parseWs (ws.map (·.data.toList))=none∧∀ i:Int,j≤i→i≤4→x0.data.toList≠wordK i)
def aparse_T10:Bool×List (List Nat×List Nat):=(true,[([],[]),([],[]),([1],[1]),([0,2],[0,2]),([],[]),([],[]),([5],[5]),([4,6,3],[4,6]),([0,1,2,3],[]),([8,3,7,0,1,2,3],[3,8]),([0,1,2,3,4,5,6,7,8,9],[]),([10,7,9,0,1,2,3,4,5,6,7,8,9],[7,10])])
def aparse_B10:List Nat:=[0,0,2,7,0,0,32,127,15,511,1023,2047]
theorem aparse_tab10:rtab .any (opsOf Tryz.f9 10)=aparse_T10:=by kernel_rfl
theorem aparse_bits10:waitsOk aparse_T10.2 aparse_B10=true:=by kernel_rfl
theorem num_res (nm:Bool) (x:ByteArray):∃ n d b,Aside0 ((if nm=true then parseS x else ((rT 0).1,(rT 0).2,0))=(n,d,if b=true then 0 else 40)):=by
 cases nm
 ·exact⟨_,_,true,⟨rfl⟩⟩
 ·rw[if_pos rfl]
  unfold parseS
  split
  ·exact⟨_,_,true,⟨rfl⟩⟩
  ·exact⟨_,_,false,⟨rfl⟩⟩
theorem wordK_inj {i j:Int} (h0:0≤i) (h1:i≤4) (h2:0≤j) (h3:j≤4) (h:wordK i=wordK j):i=j:=by
 have e1:=kindW_word h0 h1
 rw[h,kindW_word h2 h3] at e1
 exact(Option.some.inj e1).symm
theorem ix_wordK {j:Int} {xw:ByteArray} (h0:0≤j) (h5:j<5) (h:ix5 j wSplit wStock wCash wSpin wMerger=xw):xw.data.toList=wordK j:=by
 subst h
 have:j=0∨j=1∨j=2∨j=3∨j=4:=by omega
 rcases this with rfl|rfl|rfl|rfl|rfl <;> rfl
theorem ix_same {j:Int} {xw x0:ByteArray} (h0:0≤j) (h5:j<5) (h:ix5 j wSplit wStock wCash wSpin wMerger=xw) (hx:xw.toList=x0.toList):0≤j∧j≤4∧x0.data.toList=wordK j:=by
 refine⟨h0,by omega,?_⟩
 rw[← toList_inj.1 hx]
 exact ix_wordK h0 h5 h
theorem ix_not {j:Int} {xw x0:ByteArray} (h0:0≤j) (h5:j<5) (h:ix5 j wSplit wStock wCash wSpin wMerger=xw) (hx:¬ xw.toList=x0.toList):x0.data.toList≠wordK j:=by
 intro e
 refine hx (toList_inj.2 (bext ?_))
 rw[e,ix_wordK h0 h5 h]
theorem St.fresh {w:World} {g gb:Nat} {ws:List ByteArray} {x0:ByteArray} {j:Int} (h:St w g gb ws x0 j) (hx:0≤j∧j≤4∧x0.data.toList=wordK j):Rd w g gb ws 1 true:=by
 rcases h with h|h
 ·exact h.1
 ·exact absurd hx.2.2 (h.2 j (Int.le_refl _) hx.2.1)
theorem St.next {w w':World} {g gb:Nat} {ws:List ByteArray} {x0:ByteArray} {j:Int} (h:St w g gb ws x0 j) (hx:x0.data.toList≠wordK j) (hk:Rd w g gb ws 1 true→Rd w' g gb ws 1 true):St w' g gb ws x0 (j+1):=by
 rcases h with ⟨h1,h2⟩|⟨h1,h2⟩
 ·refine Or.inl ⟨hk h1,fun i i0 i1=>?_⟩
  by_cases e:i=j
  ·rw[e];exact hx
  ·exact h2 i i0 (by omega)
 ·exact Or.inr ⟨h1,fun i i0 i1=>h2 i (by omega) i1⟩
theorem parse_nokind {ws:List ByteArray} {x0:ByteArray} (hx:ws.getD 0 ⟨#[]⟩=x0) (h:∀ i:Int,0≤i→i<5→x0.data.toList≠wordK i):parseWs (ws.map (·.data.toList))=none:=by
 unfold parseWs
 rw[wAt_map,hx]
 cases hk:kindW x0.data.toList with
 | none=>rfl
 | some k =>
  obtain⟨h0,h4,e⟩:=kindW_le hk
  exact absurd e (h k h0 (by omega))
theorem St.none {w:World} {g gb:Nat} {ws:List ByteArray} {x0:ByteArray} {j:Int} (hx:ws.getD 0 ⟨#[]⟩=x0) (hj:5≤j) (h:St w g gb ws x0 j):parseWs (ws.map (·.data.toList))=none:=by
 rcases h with h|h
 ·exact parse_nokind hx (fun i h0 h1=>h.2 i h0 (by omega))
 ·exact h.1
theorem numc_sz {nm:Bool} {x n d:ByteArray} {c:Int} (h:(if nm=true then parseS x else ((rT 0).1,(rT 0).2,0))=(n,d,c)) (hs:x.size≤1100):smR (n,d)=true:=by
 refine decide_eq_true ?_
 show n.size≤4000∧d.size≤4000
 cases nm
 ·rw[if_neg (by decide)] at h
  obtain⟨rfl,h2⟩:=Prod.mk.inj h
  obtain⟨rfl,h3⟩:=Prod.mk.inj h2
  decide +kernel
 ·rw[if_pos rfl] at h
  unfold parseS at h
  split at h
  ·rename_i q e
   have:=parseL_sz e
   rw[← size_len] at this
   have z1:=le_szR_num q
   have z2:=le_szR_den q
   obtain⟨rfl,h2⟩:=Prod.mk.inj h
   obtain⟨rfl,h3⟩:=Prod.mk.inj h2
   exact⟨Nat.le_trans z1 (by omega),Nat.le_trans z2 (by omega)⟩
  ·obtain⟨rfl,h2⟩:=Prod.mk.inj h
   obtain⟨rfl,h3⟩:=Prod.mk.inj h2
   decide +kernel
theorem smA_of {a0 a2 a3 a4 a5 a6 a7:ByteArray} {a1 a8 a9 a10:Int} (h0:a0.size≤1100) (h2:a2.size≤1100) (h3:a3.size≤1100) (hr:smR (a4,a5)=true) (hc:smR (a6,a7)=true):smA (actV a0 a1 a2 a3 a4 a5 a6 a7 a8 a9 a10)=true:=by
 unfold smA actV
 dsimp only
 rw[hr,hc,decide_eq_true (show a0.size≤1000000 by omega),decide_eq_true (show a2.size≤1000000 by omega),decide_eq_true (show a3.size≤1000000 by omega)]
 rfl
theorem parse_walk (s x0:ByteArray) (ws:List ByteArray) (w:World) (hL:Laid w) (hs:s.size≤1100) (hw:Lib.splitB ⟨#[32]⟩ 0 (Lib.countB s ⟨#[32]⟩) s=ws) (hl:Lib.countB s ⟨#[32]⟩+1=ws.length)
  (hx0:Aside0 (ws.getD 0 ⟨#[]⟩=x0)) (hbig:ws.length≤1000000) (hsz:Aside0 (∀ i:Nat,(ws.getD i ⟨#[]⟩).size≤1100)) :
  Calls Tryz.prog 9 #[.string s] w fun e w'=>e=.returned (.tuple #[cellsA (outW (ws.map (·.data.toList))).1,.int .i64 (outW (ws.map (·.data.toList))).2])∧Below w.heap.size w w':=by
 have hu25:=Tryz.underlying25
 have hu46:=Tryz.underlying46
 have hu23:=Tryz.underlying23
 have HW:=ak_ hw
 have HN:=ak_ hl
 have HG:=ak_ hbig
 clear hw hl hbig
 go_enter Tryz.func9,Tryz.ntmps9
 go_wp2_with (first|((with_reducible refine gate_dst (N:=2) rfl ?_);refine be_ 2 #[.string ⟨#[]⟩,.int .i64 0,.string ⟨#[]⟩,.string ⟨#[]⟩,.string ⟨#[]⟩,.string ⟨#[]⟩,.string ⟨#[]⟩,.string ⟨#[]⟩,.int .i64 0,.int .i64 0,.int .i64 0] 25 ?_;intro gr hg w1 hr hB;have GR:=ak_ (Nat.le_of_eq hg.symm);clear hg)|(refine gl_ 10 Tryz.func17 #[.string s,.string ⟨#[32]⟩] ?_;refine(split_c hL hB hs HW.out HN.out).mono ?_;rintro e w2 ⟨gb,rfl,hrow,b2⟩;refine⟨_,rfl,?_⟩;replace hB:=hB.trans (b2.mono (below_size hB));replace hr:=blk_below hr b2;clear b2)|((with_reducible refine gate_dst (N:=12) rfl ?_);(refine be_ 12 #[.slice (some ⟨gb,0,none⟩) ws.length ws.length,.bool true] 43 ?_;intro g hg w3 hrd b3;have hne:Aside0 (gr≠g):=⟨by rw[hg];exact Nat.ne_of_lt (blk_lt hr)⟩;have hgb:Aside0 (g≠gb):=⟨by rw[hg];exact Nat.ne_of_gt (blk_lt hrow)⟩;have GG:=ak_ (by rw[hg];exact below_size hB:w.heap.size≤g);replace hB:=hB.trans (b3.mono (below_size hB));replace hr:=blk_below hr b3;replace hrow:=blk_below hrow b3;clear hg b3))|(refine gl_ 14 Tryz.func18 #[.pointer (some ⟨g,0,none⟩)] ?_;refine mo_ (word_c hB GG.out (rd_init hrd hrow hgb.out HG.out) hx0.out) ?_;rintro w4 ⟨ok0,HO0,hR,hB',hK⟩;replace hB:=hB';clear hB';replace hr:=hK.blk hne.out hr;clear hK hrd hrow)|(refine gl_ 15 Tryz.func19 #[] ?_;refine mo_ (action_shapes.calls wSplit false true false wStock false true false wCash false false true wSpin true true false wMerger true true true _ rfl) ?_;intro w5 b5;replace hB:=hB.trans (b5.mono (below_size hB));replace hr:=blk_below hr b5;replace hR:=hR.below b5;clear b5))
 obtain rfl:ok0=true:=by
  rw[HO0.out]
  have:=HN.out
  simp
  omega
 go_loopg [16] 5 (fun kq v16 w'=>∃ j:Int,v16=.int .i64 j∧Aside0 (j=5-(kq:Int))∧Aside0 (kq≤5)∧Aside0 (St w' g gb ws x0 j)∧Aside0 (w'.heap[gr]?=some (.cells #[.string ⟨#[]⟩,.int .i64 0,.string ⟨#[]⟩,.string ⟨#[]⟩,.string ⟨#[]⟩,.string ⟨#[]⟩,.string ⟨#[]⟩,.string ⟨#[]⟩,.int .i64 0,.int .i64 0,.int .i64 0] 25 (0,0)))∧Aside0 (Below w.heap.size w w'))
 case atStart=>exact⟨0,rfl,⟨rfl⟩,⟨nr_ _⟩,⟨Or.inl ⟨hR,fun i h0 h1=>absurd h1 (by omega)⟩⟩,⟨hr⟩,⟨hB⟩⟩
 case round =>
  clear hR hr hB HO0
  obtain⟨j,rfl,hj,hk,hS,hr,hB⟩:=hrel
  by_cases c8:j<5
  ·have b8:decide (j<5)=true:=decide_eq_true c8
   have c0:0≤j:=by have:=hj.out;have:=hk.out;omega
   go_upto_region 6 with (first|((with_reducible refine gate_dst (N:=7) rfl ?_);(refine be_ 7 #[.string ⟨#[]⟩,.bool false,.bool false,.bool false] 46 ?_;intro gs hg w6 hs7 b6;have c70:=bc_ ⟨hs7⟩ 0 rfl;have c71:=bc_ ⟨hs7⟩ 1 rfl;have c72:=bc_ ⟨hs7⟩ 2 rfl;have c73:=bc_ ⟨hs7⟩ 3 rfl;have f70:=blk_frozen hs7 0;have f71:=blk_frozen hs7 1;have f72:=blk_frozen hs7 2;have f73:=blk_frozen hs7 3;have HG7:=ak_ hg;clear hg)))
   clear c70 c71 c72 c73 f70 f71 f72 f73
   generalize hxw:ix5 j wSplit wStock wCash wSpin wMerger=xw
   generalize hxo:ix5 j false false false true true=xo
   generalize hxr:ix5 j true true false true true=xr
   generalize hxc:ix5 j false false true false true=xc
   have HXW:=ak_ hxw
   have HXO:=ak_ hxo
   have HXR:=ak_ hxr
   have HXC:=ak_ hxc
   clear hxw hxo hxr hxc
   have hs8:((((w6.setCell ⟨gs,0,none⟩ (.string xw)).setCell ⟨gs,1,none⟩ (.bool xo)).setCell ⟨gs,2,none⟩ (.bool xr)).setCell ⟨gs,3,none⟩ (.bool xc)).heap[gs]?=some (.cells #[.string xw,.bool xo,.bool xr,.bool xc] 46 (0,0)):=blk_set (blk_set (blk_set (blk_set hs7 0 _) 1 _) 2 _) 3 _
   have hns:gs≠gr:=by rw[HG7.out];exact Nat.ne_of_gt (blk_lt hr.out)
   have hge:w.heap.size≤gs:=by rw[HG7.out];exact below_size hB.out
   have hr8:((((w6.setCell ⟨gs,0,none⟩ (.string xw)).setCell ⟨gs,1,none⟩ (.bool xo)).setCell ⟨gs,2,none⟩ (.bool xr)).setCell ⟨gs,3,none⟩ (.bool xc)).heap[gr]? = _:=blk_far (blk_far (blk_far (blk_far (blk_below hr.out b6) hns.symm _) hns.symm _) hns.symm _) hns.symm _
   have hB8:Below w.heap.size w ((((w6.setCell ⟨gs,0,none⟩ (.string xw)).setCell ⟨gs,1,none⟩ (.bool xo)).setCell ⟨gs,2,none⟩ (.bool xr)).setCell ⟨gs,3,none⟩ (.bool xc)):=((((hB.out.trans (b6.mono (below_size hB.out))).setCell hge _).setCell hge _).setCell hge _).setCell hge _
   have hS8:Rd wr g gb ws 1 true→Rd ((((w6.setCell ⟨gs,0,none⟩ (.string xw)).setCell ⟨gs,1,none⟩ (.bool xo)).setCell ⟨gs,2,none⟩ (.bool xr)).setCell ⟨gs,3,none⟩ (.bool xc)) g gb ws 1 true:=by
    intro h
    have h1:gs≠g:=by rw[HG7.out];exact Nat.ne_of_gt h.inb
    have h2:∀ (j:Nat) x,ws[j]?=some x→gs≠gb:=fun j x hx=>by rw[HG7.out];exact Nat.ne_of_gt (World.block_lt_of_cell? wr _ (h.row j x hx))
    exact((((h.below b6).far h1 h2 _ _).far h1 h2 _ _).far h1 h2 _ _).far h1 h2 _ _
   have hgs:Rd wr g gb ws 1 true→gs≠g:=fun h=>by rw[HG7.out];exact Nat.ne_of_gt h.inb
   generalize ((((w6.setCell ⟨gs,0,none⟩ (.string xw)).setCell ⟨gs,1,none⟩ (.bool xo)).setCell ⟨gs,2,none⟩ (.bool xr)).setCell ⟨gs,3,none⟩ (.bool xc))=w8 at hs8 hr8 hB8 hS8 ⊢
   clear hs7 b6 HG7
   have c70:=bc_ ⟨hs8⟩ 0 rfl
   have c71:=bc_ ⟨hs8⟩ 1 rfl
   have c72:=bc_ ⟨hs8⟩ 2 rfl
   have c73:=bc_ ⟨hs8⟩ 3 rfl
   by_cases hx:xw.toList=x0.toList
   ·have hxb0:(xw.toList == x0.toList)=true:=beq_iff_eq.mpr hx
    have hxb1:(xw.toList != x0.toList)=false:=bne_eq_false_iff_eq.mpr hx
    have hX:=ak_ hx
    clear hx
    have hR:=hS8 (St.fresh hS.out (ix_same c0 c8 HXW.out hX.out))
    replace hgs:=hgs (St.fresh hS.out (ix_same c0 c8 HXW.out hX.out))
    clear hS8 hr hB c70 c71 c72 c73
    obtain⟨x1,e1⟩:∃ x,Aside0 (ws.getD 1 ⟨#[]⟩=x):=⟨_,⟨rfl⟩⟩
    obtain⟨x2,e2⟩:∃ x,Aside0 (ws.getD 2 ⟨#[]⟩=x):=⟨_,⟨rfl⟩⟩
    obtain⟨n3,b3,e3⟩:∃ n b,Aside0 (smallS (ws.getD 3 ⟨#[]⟩)=(n,b)):=⟨_,_,⟨rfl⟩⟩
    obtain⟨n4,b4,e4⟩:∃ n b,Aside0 (smallS (ws.getD 4 ⟨#[]⟩)=(n,b)):=⟨_,_,⟨rfl⟩⟩
    obtain⟨n5,b5,e5⟩:∃ n b,Aside0 (smallS (ws.getD 5 ⟨#[]⟩)=(n,b)):=⟨_,_,⟨rfl⟩⟩
    have c71:=bc_ ⟨hs8⟩ 0 rfl
    go_upto_region 7 with (fail)
    clear c71
    go_upto_region 8 with (first|(refine gl_ 26 Tryz.func18 #[.pointer (some ⟨g,0,none⟩)] ?_;refine mo_ (word_c hB8 GG.out hR e1.out) ?_;clear hR;rintro w26 ⟨ok1,HO1,hR,hB',hK⟩;replace hB8:=hB';replace hr8:=hK.blk hne.out hr8;replace hs8:=hK.blk hgs hs8;clear hK hB')|(refine gl_ 28 Tryz.func18 #[.pointer (some ⟨g,0,none⟩)] ?_;refine mo_ (word_c hB8 GG.out hR e2.out) ?_;clear hR;rintro w28 ⟨ok2,HO2,hR,hB',hK⟩;replace hB8:=hB';replace hr8:=hK.blk hne.out hr8;replace hs8:=hK.blk hgs hs8;clear hK hB')|(refine gl_ 30 Tryz.func20 #[.pointer (some ⟨g,0,none⟩)] ?_;refine mo_ (day_c hL hB8 GG.out hR rfl (Nat.le_trans (hsz.out 3) (by decide)) e3.out) ?_;clear hR;rintro w30 ⟨ok3,HO3,hR,hB',hK⟩;replace hB8:=hB';replace hr8:=hK.blk hne.out hr8;replace hs8:=hK.blk hgs hs8;clear hK hB')|(refine gl_ 32 Tryz.func20 #[.pointer (some ⟨g,0,none⟩)] ?_;refine mo_ (day_c hL hB8 GG.out hR rfl (Nat.le_trans (hsz.out 4) (by decide)) e4.out) ?_;clear hR;rintro w32 ⟨ok4,HO4,hR,hB',hK⟩;replace hB8:=hB';replace hr8:=hK.blk hne.out hr8;replace hs8:=hK.blk hgs hs8;clear hK hB')|(refine gl_ 34 Tryz.func20 #[.pointer (some ⟨g,0,none⟩)] ?_;refine mo_ (day_c hL hB8 GG.out hR rfl (Nat.le_trans (hsz.out 5) (by decide)) e5.out) ?_;clear hR;rintro w34 ⟨ok5,HO5,hR,hB',hK⟩;replace hB8:=hB';replace hr8:=hK.blk hne.out hr8;replace hs8:=hK.blk hgs hs8;clear hK hB')|((with_reducible refine gate_dst (N:=8) rfl ?_);go_loud (refine be_ 8 #[.string ⟨#[]⟩,.int .i64 0,.string ⟨#[]⟩,.string ⟨#[]⟩,.string ⟨#[]⟩,.string ⟨#[]⟩,.string ⟨#[]⟩,.string ⟨#[]⟩,.int .i64 0,.int .i64 0,.int .i64 0] 25 ?_;intro ga hg w9 ha b9;have hnr:ga≠gr:=(by rw[hg];exact Nat.ne_of_gt (blk_lt hr8));have hng:ga≠g:=(by rw[hg];exact Nat.ne_of_gt hR.inb);have hna:ga≠gs:=(by rw[hg];exact Nat.ne_of_gt (blk_lt hs8));have hgb2:∀ (j:Nat) x,ws[j]?=some x→ga≠gb:=(fun j x hx=>(by rw[hg];exact Nat.ne_of_gt (World.block_lt_of_cell? _ _ (hR.row j x hx))));have hga:w.heap.size≤ga:=(by rw[hg];exact below_size hB8);clear hg;replace hR:=hR.below b9;replace hr8:=blk_below hr8 b9;replace hs8:=blk_below hs8 b9;replace hB8:=hB8.trans (b9.mono (below_size hB8));clear b9;have dz:=cs11_ ⟨ha⟩)))
    clear dz
    have ha10:=blk_set11 ha (.string x1) (.int .i64 j) (.string x2) (.string ⟨#[]⟩) (.string ⟨#[]⟩) (.string ⟨#[]⟩) (.string ⟨#[]⟩) (.string ⟨#[]⟩) (.int .i64 n3) (.int .i64 n4) (.int .i64 n5)
    have hR10:=hR.far11 hng hgb2 (.string x1) (.int .i64 j) (.string x2) (.string ⟨#[]⟩) (.string ⟨#[]⟩) (.string ⟨#[]⟩) (.string ⟨#[]⟩) (.string ⟨#[]⟩) (.int .i64 n3) (.int .i64 n4) (.int .i64 n5)
    have hr10:=blk_far11 hr8 hnr.symm (.string x1) (.int .i64 j) (.string x2) (.string ⟨#[]⟩) (.string ⟨#[]⟩) (.string ⟨#[]⟩) (.string ⟨#[]⟩) (.string ⟨#[]⟩) (.int .i64 n3) (.int .i64 n4) (.int .i64 n5)
    have hs10:=blk_far11 hs8 hna.symm (.string x1) (.int .i64 j) (.string x2) (.string ⟨#[]⟩) (.string ⟨#[]⟩) (.string ⟨#[]⟩) (.string ⟨#[]⟩) (.string ⟨#[]⟩) (.int .i64 n3) (.int .i64 n4) (.int .i64 n5)
    have hB10:=below_set11 hB8 hga (.string x1) (.int .i64 j) (.string x2) (.string ⟨#[]⟩) (.string ⟨#[]⟩) (.string ⟨#[]⟩) (.string ⟨#[]⟩) (.string ⟨#[]⟩) (.int .i64 n3) (.int .i64 n4) (.int .i64 n5)
    generalize (((((((((((w9.setCell ⟨ga,0,none⟩ (.string x1)).setCell ⟨ga,1,none⟩ (.int .i64 j)).setCell ⟨ga,2,none⟩ (.string x2)).setCell ⟨ga,3,none⟩ (.string ⟨#[]⟩)).setCell ⟨ga,4,none⟩ (.string ⟨#[]⟩)).setCell ⟨ga,5,none⟩ (.string ⟨#[]⟩)).setCell ⟨ga,6,none⟩ (.string ⟨#[]⟩)).setCell ⟨ga,7,none⟩ (.string ⟨#[]⟩)).setCell ⟨ga,8,none⟩ (.int .i64 n3)).setCell ⟨ga,9,none⟩ (.int .i64 n4)).setCell ⟨ga,10,none⟩ (.int .i64 n5))=w10 at ha10 hR10 hr10 hs10 hB10 ⊢
    clear ha hR hr8 hs8 hB8
    have c71:=bc_ ⟨hs10⟩ 1 rfl
    have d3:=bc_ ⟨ha10⟩ 3 rfl
    have k3:=blk_frozen ha10 3
    have KO:Aside0 (kOther j=xo):=⟨(ix_other c0 c8).symm.trans HXO.out⟩
    have KR:Aside0 (kRatio j=xr):=⟨(ix_ratio c0 c8).symm.trans HXR.out⟩
    have KC:Aside0 (kCash j=xc):=⟨(ix_cash c0 c8).symm.trans HXC.out⟩
    obtain⟨i6,E6⟩:∃ i:Nat,Aside0 (i=if xo=true then 7 else 6):=⟨_,⟨rfl⟩⟩
    obtain⟨x3,E3⟩:∃ x:ByteArray,Aside0 (x=if xo=true then ws.getD 6 ⟨#[]⟩ else ⟨#[]⟩):=⟨_,⟨rfl⟩⟩
    cases xo
    ·obtain⟨ok6,O6⟩:∃ b:Bool,Aside0 (b=if false=true then ok5&&decide (6<ws.length) else ok5):=⟨_,⟨rfl⟩⟩
     have hx3:x3=⟨#[]⟩:=E3.out
     have ho6:ok6=ok5:=O6.out
     have hi6:i6=6:=E6.out
     go_upto_region 10 with (fail)
     clear d3 k3 c71
     have ha11:w10.heap[ga]?=some (.cells #[.string x1,.int .i64 j,.string x2,.string x3,.string ⟨#[]⟩,.string ⟨#[]⟩,.string ⟨#[]⟩,.string ⟨#[]⟩,.int .i64 n3,.int .i64 n4,.int .i64 n5] 25 (0,0)):=by rw[hx3];exact ha10
     have hR11:Rd w10 g gb ws i6 ok6:=by rw[hi6,ho6];exact hR10
     have hr11:=hr10
     have hs11:=hs10
     have hB11:=hB10
     clear ha10 hR10 hr10 hs10 hB10 hx3 ho6 hi6
     generalize w10=w11 at ha11 hR11 hr11 hs11 hB11 ⊢
     obtain⟨rn,rd,b6,e6⟩:=num_res xr (ws.getD i6 ⟨#[]⟩)
     obtain⟨i7,E7⟩:∃ i:Nat,Aside0 (i=if xr=true then i6+1 else i6):=⟨_,⟨rfl⟩⟩
     obtain⟨cn,cd,b7,e7⟩:=num_res xc (ws.getD i7 ⟨#[]⟩)
     obtain⟨i8,E8⟩:∃ i:Nat,Aside0 (i=if xc=true then i7+1 else i7):=⟨_,⟨rfl⟩⟩
     replace ha11:=blk_drew ha11
     replace hR11:=hR11.drew
     replace hr11:=blk_drew hr11
     have hs11:=ak_ (blk_drew hs11)
     replace hB11:=below_drew1 hB11
     refine sa_ 12 (fun w'=>w'.cell? ⟨gs,2,none⟩=some (.bool xr)∧w'.cell? ⟨gs,3,none⟩=some (.bool xc)) (fun hHeld=>?_)
     refine with_tabW aparse_tab10 aparse_bits10 (fun HT_ HW_=>?_)
     generalize w11.drew=w12 at ha11 hR11 hr11 hs11 hB11 hHeld ⊢
     refine pu_ 0 41 rfl rfl HT_ ?_;refine pu_ 1 42 rfl rfl HT_ ?_;refine pu_ 4 45 rfl rfl HT_ ?_;refine pu_ 5 46 rfl rfl HT_ ?_;refine t_ 2 43 rfl rfl HT_ HW_ hHeld ?_;refine t_ 6 47 rfl rfl HT_ HW_ hHeld ?_
     refine on_ 3 (some 44) rfl rfl HT_ (fun K hK=>?_);refine gs_ Tryz.func21 #[.pointer (some ⟨g,0,none⟩),.bool xr] ?_;refine mo_ (num_c hL hB11 GG.out hR11 rfl (hsz.out i6) e6.out) ?_;clear hR11 hHeld;rintro w13 ⟨ok7,O7,hR13,hB13,hQ⟩
     have ha13:=hQ.blk hng ha11;have hr13:=hQ.blk hne.out hr11;have hs13:=ak_ (hQ.blk hgs hs11.out);rw[← E7.out] at hR13;clear hQ ha11 hr11 hs11 hB11
     refine hk_ hK (fun hHeld=>?_);clear hK K;refine nm_ ?_
     refine pu_ 8 49 rfl rfl HT_ ?_
     refine on_ 7 (some 48) rfl rfl HT_ (fun K hK=>?_);refine gs_ Tryz.func21 #[.pointer (some ⟨g,0,none⟩),.bool xc] ?_;refine mo_ (num_c hL hB13 GG.out hR13 rfl (hsz.out i7) e7.out) ?_;clear hR13 hHeld;rintro w14 ⟨ok8,O8,hR14,hB14,hQ⟩
     have ha14:=hQ.blk hng ha13;have hr14:=hQ.blk hne.out hr13;have hs14:=ak_ (hQ.blk hgs hs13.out);rw[← E8.out] at hR14;clear hQ ha13 hr13 hs13 hB13
     refine hk_ hK (fun hHeld=>?_);clear hK K;refine nm_ ?_
     refine on_ 9 none rfl rfl HT_ (fun K hK=>?_)
     have d4:=bc_ ⟨ha14⟩ 4 rfl;have d5:=bc_ ⟨ha14⟩ 5 rfl;have k4:=blk_frozen ha14 4;have k5:=blk_frozen ha14 5
     refine skip_ (w1:=?_) (by rfl) rfl ?_ ?_;rotate_left
     ·go_simp
      rfl
     clear d4 d5 k4 k5
     have ha15:((w14.setCell ⟨ga,4,none⟩ (.string rn)).setCell ⟨ga,5,none⟩ (.string rd)).heap[ga]?=some (.cells #[.string x1,.int .i64 j,.string x2,.string x3,.string rn,.string rd,.string ⟨#[]⟩,.string ⟨#[]⟩,.int .i64 n3,.int .i64 n4,.int .i64 n5] 25 (0,0)):=blk_set (blk_set ha14 4 _) 5 _
     have hR15:=(hR14.far hng hgb2 4 (.string rn)).far hng hgb2 5 (.string rd)
     have hr15:=blk_far (p:=⟨ga,5,none⟩) (blk_far (p:=⟨ga,4,none⟩) hr14 hnr.symm (.string rn)) hnr.symm (.string rd)
     have hs15:=ak_ (blk_far (p:=⟨ga,5,none⟩) (blk_far (p:=⟨ga,4,none⟩) hs14.out hna.symm (.string rn)) hna.symm (.string rd))
     have hB15:Below w.heap.size w ((w14.setCell ⟨ga,4,none⟩ (.string rn)).setCell ⟨ga,5,none⟩ (.string rd)):=(hB14.setCell hga (.string rn)).setCell hga (.string rd)
     clear ha14 hR14 hr14 hs14 hB14 hHeld
     generalize ((w14.setCell ⟨ga,4,none⟩ (.string rn)).setCell ⟨ga,5,none⟩ (.string rd))=w15 at ha15 hR15 hr15 hs15 hB15 ⊢
     refine hk_ hK (fun hHeld=>?_);clear hK K
     refine pu_ 10 50 rfl rfl HT_ ?_
     refine on_ 11 none rfl rfl HT_ (fun K hK=>?_)
     have d6:=bc_ ⟨ha15⟩ 6 rfl;have d7:=bc_ ⟨ha15⟩ 7 rfl;have k6:=blk_frozen ha15 6;have k7:=blk_frozen ha15 7
     refine skip_ (w1:=?_) (by rfl) rfl ?_ ?_;rotate_left
     ·go_simp
      rfl
     clear d6 d7 k6 k7
     have ha16:((w15.setCell ⟨ga,6,none⟩ (.string cn)).setCell ⟨ga,7,none⟩ (.string cd)).heap[ga]?=some (.cells #[.string x1,.int .i64 j,.string x2,.string x3,.string rn,.string rd,.string cn,.string cd,.int .i64 n3,.int .i64 n4,.int .i64 n5] 25 (0,0)):=blk_set (blk_set ha15 6 _) 7 _
     have hR16:=(hR15.far hng hgb2 6 (.string cn)).far hng hgb2 7 (.string cd)
     have hr16:=blk_far (p:=⟨ga,7,none⟩) (blk_far (p:=⟨ga,6,none⟩) hr15 hnr.symm (.string cn)) hnr.symm (.string cd)
     have hs16:=ak_ (blk_far (p:=⟨ga,7,none⟩) (blk_far (p:=⟨ga,6,none⟩) hs15.out hna.symm (.string cn)) hna.symm (.string cd))
     have hB16:Below w.heap.size w ((w15.setCell ⟨ga,6,none⟩ (.string cn)).setCell ⟨ga,7,none⟩ (.string cd)):=(hB15.setCell hga (.string cn)).setCell hga (.string cd)
     clear ha15 hR15 hr15 hs15 hB15 hHeld
     generalize ((w15.setCell ⟨ga,6,none⟩ (.string cn)).setCell ⟨ga,7,none⟩ (.string cd))=w16 at ha16 hR16 hr16 hs16 hB16 ⊢
     refine hk_ hK (fun hHeld=>?_);clear hK K
     refine done_ (done_of HT_.out (by kernel_rfl)) ?_
     clear HT_ HW_ hHeld hs16
     have hwk:=(ix_same c0 c8 HXW.out hX.out).2.2
     obtain⟨hflag,hend⟩:=flag_ok HO1.out HO2.out HO3.out HO4.out HO5.out O6.out E6.out O7.out E7.out O8.out E8.out
     have PE:=parse_end (x3:=x3) (rn:=rn) (rd:=rd) (cn:=cn) (cd:=cd) c0 (by omega) ((congrArg (fun z:ByteArray=>z.data.toList) hx0.out).trans hwk) e1.out e2.out e3.out e4.out e5.out (by rw[KO.out];exact E3.out) (by rw[KO.out,KR.out,← E6.out];exact e6.out) (by rw[KO.out,KR.out,KC.out,← E6.out,show (i6+if xr=true then 1 else 0)=i7 by rw[E7.out];cases xr <;> rfl];exact e7.out)
     rw[KO.out,KR.out,KC.out,← hflag,← hend] at PE
     have hnot:∀ i:Int,j+1≤i→i≤4→x0.data.toList≠wordK i:=fun i h1 h2 e=>absurd (wordK_inj c0 (by omega) (by omega) h2 (hwk.symm.trans e)) (by omega)
     have PE:=ak_ PE
     have hsmA:Aside0 (smA (actV x1 j x2 x3 rn rd cn cd n3 n4 n5)=true):=⟨smA_of (by rw[← e1.out];exact hsz.out 1) (by rw[← e2.out];exact hsz.out 2) (by rw[E3.out];first|exact hsz.out 6|exact Nat.zero_le _) (numc_sz e6.out (hsz.out i6)) (numc_sz e7.out (hsz.out i7))⟩
     clear hflag hend hwk E3 E6 E7 E8 O6 O7 O8 HO1 HO2 HO3 HO4 HO5 e1 e2 e3 e4 e5 KO KR KC
     obtain⟨⟨A,cc,hc0,hcA⟩,hc1,hf0,hf1,hrow,hneg,hszg,hing⟩:=hR16
     cases ok8
     ·have PN:parseWs (ws.map (·.data.toList))=none:=PE.out
      go_wp2
      go_roundg (gk-1)
      case measure=>have:=hj.out;omega
      case rel=>exact⟨j+1,rfl,⟨by have:=hj.out;omega⟩,⟨by have:=hk.out;omega⟩,⟨Or.inr ⟨PN,hnot⟩⟩,⟨hr16⟩,⟨hB16⟩⟩
     ·by_cases hm:ws.length-i8=0
      ·rw[hm] at hc0
       have hm0:((0:Nat):Int)=0:=rfl
       have dz:=cs11_ ⟨ha16⟩
       generalize hmay:mayA (actV x1 j x2 x3 rn rd cn cd n3 n4 n5)=bm at PE
       have hfm:action_May.f x1 j x2 x3 rn rd cn cd n3 n4 n5=some bm:=by unfold action_May.f;rw[if_pos hsmA.out,hmay]
       clear hsmA hmay
       cases bm
       ·have PN:parseWs (ws.map (·.data.toList))=none:=PE.out.trans (if_neg (by simp))
        go_wp2_with (first|(go_at_call 11;refine(action_May.calls x1 j x2 x3 rn rd cn cd n3 n4 n5 false w16 (hL.below hB16) hfm).mono ?_;rintro e w17 ⟨rfl,b17⟩;have hr17:=blk_below hr16 b17;have hB17:=hB16.trans (b17.mono (below_size hB16))))
        go_roundg (gk-1)
        case measure=>have:=hj.out;omega
        case rel=>exact⟨j+1,rfl,⟨by have:=hj.out;omega⟩,⟨by have:=hk.out;omega⟩,⟨Or.inr ⟨PN,hnot⟩⟩,⟨hr17⟩,⟨hB17⟩⟩
       ·have PS:outW (ws.map (·.data.toList))=(actV x1 j x2 x3 rn rd cn cd n3 n4 n5,0):=outW_some (PE.out.trans (if_pos (by rw[hm];rfl)))
        have hge:w.heap.size≤gr:=GR.out
        have nga:ga≠gr:=hnr
        go_wp2_with (first|(go_at_call 11;refine(action_May.calls x1 j x2 x3 rn rd cn cd n3 n4 n5 true w16 (hL.below hB16) hfm).mono ?_;clear dz;rintro e w17 ⟨rfl,b17⟩;have ha17:=blk_below ha16 b17;have hr17:=blk_below hr16 b17;have hB17:=hB16.trans (b17.mono (below_size hB16));have dz:=cs11_ ⟨ha17⟩;have cz:=cs11_ ⟨hr17⟩))
        refine bodyPost_ret (results_ct rfl _ _ gr 25 #[.string x1,.int .i64 j,.string x2,.string x3,.string rn,.string rd,.string cn,.string cd,.int .i64 n3,.int .i64 n4,.int .i64 n5] (0,0) _ rfl (blk_set11 hr17 _ _ _ _ _ _ _ _ _ _ _) Tryz.underlying25 rfl (by kernel_rfl)) rfl ?_
        (try rw[PS])
        exact⟨rfl,below_set11 hB17 hge _ _ _ _ _ _ _ _ _ _ _⟩
      ·have PN:parseWs (ws.map (·.data.toList))=none:=PE.out.trans (if_neg (by simp[hm]))
       clear hcA
       generalize ws.length-i8=m at hc0 hm
       have em:((m:Int) == 0)=false:=beq_eq_false_iff_ne.2 (by omega)
       go_wp2
       go_roundg (gk-1)
       case measure=>have:=hj.out;omega
       case rel=>exact⟨j+1,rfl,⟨by have:=hj.out;omega⟩,⟨by have:=hk.out;omega⟩,⟨Or.inr ⟨PN,hnot⟩⟩,⟨hr16⟩,⟨hB16⟩⟩
    ·have hx3:ws.getD 6 ⟨#[]⟩=x3:=E3.out.symm
     have hi6:i6=7:=E6.out
     go_upto_region 10 with (first|(refine gl_ 39 Tryz.func18 #[.pointer (some ⟨g,0,none⟩)] ?_;refine mo_ (word_c hB10 GG.out hR10 hx3) ?_;clear hR10 d3 k3 c71;rintro w39 ⟨ok6,O6,hR39,hB39,hK⟩;have ha39:=hK.blk hng ha10;have hr39:=hK.blk hne.out hr10;have hs39:=hK.blk hgs hs10;clear hK hB10 ha10 hr10 hs10;have d3:=bc_ ⟨ha39⟩ 3 rfl;have k3:=blk_frozen ha39 3))
     clear d3 k3
     have ha11:(w39.setCell ⟨ga,3,none⟩ (.string x3)).heap[ga]?=some (.cells #[.string x1,.int .i64 j,.string x2,.string x3,.string ⟨#[]⟩,.string ⟨#[]⟩,.string ⟨#[]⟩,.string ⟨#[]⟩,.int .i64 n3,.int .i64 n4,.int .i64 n5] 25 (0,0)):=blk_set ha39 3 _
     have hR11:Rd (w39.setCell ⟨ga,3,none⟩ (.string x3)) g gb ws i6 ok6:=by rw[hi6];exact hR39.far hng hgb2 3 (.string x3)
     have hr11:=blk_far hr39 (p:=⟨ga,3,none⟩) hnr.symm (.string x3)
     have hs11:=blk_far hs39 (p:=⟨ga,3,none⟩) hna.symm (.string x3)
     have hB11:Below w.heap.size w (w39.setCell ⟨ga,3,none⟩ (.string x3)):=hB39.setCell hga (.string x3)
     clear hR39 hr39 hs39 hB39 ha39 hx3 hi6
     generalize (w39.setCell ⟨ga,3,none⟩ (.string x3))=w11 at ha11 hR11 hr11 hs11 hB11 ⊢
     obtain⟨rn,rd,b6,e6⟩:=num_res xr (ws.getD i6 ⟨#[]⟩)
     obtain⟨i7,E7⟩:∃ i:Nat,Aside0 (i=if xr=true then i6+1 else i6):=⟨_,⟨rfl⟩⟩
     obtain⟨cn,cd,b7,e7⟩:=num_res xc (ws.getD i7 ⟨#[]⟩)
     obtain⟨i8,E8⟩:∃ i:Nat,Aside0 (i=if xc=true then i7+1 else i7):=⟨_,⟨rfl⟩⟩
     replace ha11:=blk_drew ha11
     replace hR11:=hR11.drew
     replace hr11:=blk_drew hr11
     have hs11:=ak_ (blk_drew hs11)
     replace hB11:=below_drew1 hB11
     refine sa_ 12 (fun w'=>w'.cell? ⟨gs,2,none⟩=some (.bool xr)∧w'.cell? ⟨gs,3,none⟩=some (.bool xc)) (fun hHeld=>?_)
     refine with_tabW aparse_tab10 aparse_bits10 (fun HT_ HW_=>?_)
     generalize w11.drew=w12 at ha11 hR11 hr11 hs11 hB11 hHeld ⊢
     refine pu_ 0 41 rfl rfl HT_ ?_;refine pu_ 1 42 rfl rfl HT_ ?_;refine pu_ 4 45 rfl rfl HT_ ?_;refine pu_ 5 46 rfl rfl HT_ ?_;refine t_ 2 43 rfl rfl HT_ HW_ hHeld ?_;refine t_ 6 47 rfl rfl HT_ HW_ hHeld ?_
     refine on_ 3 (some 44) rfl rfl HT_ (fun K hK=>?_);refine gs_ Tryz.func21 #[.pointer (some ⟨g,0,none⟩),.bool xr] ?_;refine mo_ (num_c hL hB11 GG.out hR11 rfl (hsz.out i6) e6.out) ?_;clear hR11 hHeld;rintro w13 ⟨ok7,O7,hR13,hB13,hQ⟩
     have ha13:=hQ.blk hng ha11;have hr13:=hQ.blk hne.out hr11;have hs13:=ak_ (hQ.blk hgs hs11.out);rw[← E7.out] at hR13;clear hQ ha11 hr11 hs11 hB11
     refine hk_ hK (fun hHeld=>?_);clear hK K;refine nm_ ?_
     refine pu_ 8 49 rfl rfl HT_ ?_
     refine on_ 7 (some 48) rfl rfl HT_ (fun K hK=>?_);refine gs_ Tryz.func21 #[.pointer (some ⟨g,0,none⟩),.bool xc] ?_;refine mo_ (num_c hL hB13 GG.out hR13 rfl (hsz.out i7) e7.out) ?_;clear hR13 hHeld;rintro w14 ⟨ok8,O8,hR14,hB14,hQ⟩
     have ha14:=hQ.blk hng ha13;have hr14:=hQ.blk hne.out hr13;have hs14:=ak_ (hQ.blk hgs hs13.out);rw[← E8.out] at hR14;clear hQ ha13 hr13 hs13 hB13
     refine hk_ hK (fun hHeld=>?_);clear hK K;refine nm_ ?_
     refine on_ 9 none rfl rfl HT_ (fun K hK=>?_)
     have d4:=bc_ ⟨ha14⟩ 4 rfl;have d5:=bc_ ⟨ha14⟩ 5 rfl;have k4:=blk_frozen ha14 4;have k5:=blk_frozen ha14 5
     refine skip_ (w1:=?_) (by rfl) rfl ?_ ?_;rotate_left
     ·go_simp
      rfl
     clear d4 d5 k4 k5
     have ha15:((w14.setCell ⟨ga,4,none⟩ (.string rn)).setCell ⟨ga,5,none⟩ (.string rd)).heap[ga]?=some (.cells #[.string x1,.int .i64 j,.string x2,.string x3,.string rn,.string rd,.string ⟨#[]⟩,.string ⟨#[]⟩,.int .i64 n3,.int .i64 n4,.int .i64 n5] 25 (0,0)):=blk_set (blk_set ha14 4 _) 5 _
     have hR15:=(hR14.far hng hgb2 4 (.string rn)).far hng hgb2 5 (.string rd)
     have hr15:=blk_far (p:=⟨ga,5,none⟩) (blk_far (p:=⟨ga,4,none⟩) hr14 hnr.symm (.string rn)) hnr.symm (.string rd)
     have hs15:=ak_ (blk_far (p:=⟨ga,5,none⟩) (blk_far (p:=⟨ga,4,none⟩) hs14.out hna.symm (.string rn)) hna.symm (.string rd))
     have hB15:Below w.heap.size w ((w14.setCell ⟨ga,4,none⟩ (.string rn)).setCell ⟨ga,5,none⟩ (.string rd)):=(hB14.setCell hga (.string rn)).setCell hga (.string rd)
     clear ha14 hR14 hr14 hs14 hB14 hHeld
     generalize ((w14.setCell ⟨ga,4,none⟩ (.string rn)).setCell ⟨ga,5,none⟩ (.string rd))=w15 at ha15 hR15 hr15 hs15 hB15 ⊢
     refine hk_ hK (fun hHeld=>?_);clear hK K
     refine pu_ 10 50 rfl rfl HT_ ?_
     refine on_ 11 none rfl rfl HT_ (fun K hK=>?_)
     have d6:=bc_ ⟨ha15⟩ 6 rfl;have d7:=bc_ ⟨ha15⟩ 7 rfl;have k6:=blk_frozen ha15 6;have k7:=blk_frozen ha15 7
     refine skip_ (w1:=?_) (by rfl) rfl ?_ ?_;rotate_left
     ·go_simp
      rfl
     clear d6 d7 k6 k7
     have ha16:((w15.setCell ⟨ga,6,none⟩ (.string cn)).setCell ⟨ga,7,none⟩ (.string cd)).heap[ga]?=some (.cells #[.string x1,.int .i64 j,.string x2,.string x3,.string rn,.string rd,.string cn,.string cd,.int .i64 n3,.int .i64 n4,.int .i64 n5] 25 (0,0)):=blk_set (blk_set ha15 6 _) 7 _
     have hR16:=(hR15.far hng hgb2 6 (.string cn)).far hng hgb2 7 (.string cd)
     have hr16:=blk_far (p:=⟨ga,7,none⟩) (blk_far (p:=⟨ga,6,none⟩) hr15 hnr.symm (.string cn)) hnr.symm (.string cd)
     have hs16:=ak_ (blk_far (p:=⟨ga,7,none⟩) (blk_far (p:=⟨ga,6,none⟩) hs15.out hna.symm (.string cn)) hna.symm (.string cd))
     have hB16:Below w.heap.size w ((w15.setCell ⟨ga,6,none⟩ (.string cn)).setCell ⟨ga,7,none⟩ (.string cd)):=(hB15.setCell hga (.string cn)).setCell hga (.string cd)
     clear ha15 hR15 hr15 hs15 hB15 hHeld
     generalize ((w15.setCell ⟨ga,6,none⟩ (.string cn)).setCell ⟨ga,7,none⟩ (.string cd))=w16 at ha16 hR16 hr16 hs16 hB16 ⊢
     refine hk_ hK (fun hHeld=>?_);clear hK K
     refine done_ (done_of HT_.out (by kernel_rfl)) ?_
     clear HT_ HW_ hHeld hs16
     have hwk:=(ix_same c0 c8 HXW.out hX.out).2.2
     obtain⟨hflag,hend⟩:=flag_ok HO1.out HO2.out HO3.out HO4.out HO5.out O6.out E6.out O7.out E7.out O8.out E8.out
     have PE:=parse_end (x3:=x3) (rn:=rn) (rd:=rd) (cn:=cn) (cd:=cd) c0 (by omega) ((congrArg (fun z:ByteArray=>z.data.toList) hx0.out).trans hwk) e1.out e2.out e3.out e4.out e5.out (by rw[KO.out];exact E3.out) (by rw[KO.out,KR.out,← E6.out];exact e6.out) (by rw[KO.out,KR.out,KC.out,← E6.out,show (i6+if xr=true then 1 else 0)=i7 by rw[E7.out];cases xr <;> rfl];exact e7.out)
     rw[KO.out,KR.out,KC.out,← hflag,← hend] at PE
     have hnot:∀ i:Int,j+1≤i→i≤4→x0.data.toList≠wordK i:=fun i h1 h2 e=>absurd (wordK_inj c0 (by omega) (by omega) h2 (hwk.symm.trans e)) (by omega)
     have PE:=ak_ PE
     have hsmA:Aside0 (smA (actV x1 j x2 x3 rn rd cn cd n3 n4 n5)=true):=⟨smA_of (by rw[← e1.out];exact hsz.out 1) (by rw[← e2.out];exact hsz.out 2) (by rw[E3.out];first|exact hsz.out 6|exact Nat.zero_le _) (numc_sz e6.out (hsz.out i6)) (numc_sz e7.out (hsz.out i7))⟩
     clear hflag hend hwk E3 E6 E7 E8 O6 O7 O8 HO1 HO2 HO3 HO4 HO5 e1 e2 e3 e4 e5 KO KR KC
     obtain⟨⟨A,cc,hc0,hcA⟩,hc1,hf0,hf1,hrow,hneg,hszg,hing⟩:=hR16
     cases ok8
     ·have PN:parseWs (ws.map (·.data.toList))=none:=PE.out
      go_wp2
      go_roundg (gk-1)
      case measure=>have:=hj.out;omega
      case rel=>exact⟨j+1,rfl,⟨by have:=hj.out;omega⟩,⟨by have:=hk.out;omega⟩,⟨Or.inr ⟨PN,hnot⟩⟩,⟨hr16⟩,⟨hB16⟩⟩
     ·by_cases hm:ws.length-i8=0
      ·rw[hm] at hc0
       have hm0:((0:Nat):Int)=0:=rfl
       have dz:=cs11_ ⟨ha16⟩
       generalize hmay:mayA (actV x1 j x2 x3 rn rd cn cd n3 n4 n5)=bm at PE
       have hfm:action_May.f x1 j x2 x3 rn rd cn cd n3 n4 n5=some bm:=by unfold action_May.f;rw[if_pos hsmA.out,hmay]
       clear hsmA hmay
       cases bm
       ·have PN:parseWs (ws.map (·.data.toList))=none:=PE.out.trans (if_neg (by simp))
        go_wp2_with (first|(go_at_call 11;refine(action_May.calls x1 j x2 x3 rn rd cn cd n3 n4 n5 false w16 (hL.below hB16) hfm).mono ?_;rintro e w17 ⟨rfl,b17⟩;have hr17:=blk_below hr16 b17;have hB17:=hB16.trans (b17.mono (below_size hB16))))
        go_roundg (gk-1)
        case measure=>have:=hj.out;omega
        case rel=>exact⟨j+1,rfl,⟨by have:=hj.out;omega⟩,⟨by have:=hk.out;omega⟩,⟨Or.inr ⟨PN,hnot⟩⟩,⟨hr17⟩,⟨hB17⟩⟩
       ·have PS:outW (ws.map (·.data.toList))=(actV x1 j x2 x3 rn rd cn cd n3 n4 n5,0):=outW_some (PE.out.trans (if_pos (by rw[hm];rfl)))
        have hge:w.heap.size≤gr:=GR.out
        have nga:ga≠gr:=hnr
        go_wp2_with (first|(go_at_call 11;refine(action_May.calls x1 j x2 x3 rn rd cn cd n3 n4 n5 true w16 (hL.below hB16) hfm).mono ?_;clear dz;rintro e w17 ⟨rfl,b17⟩;have ha17:=blk_below ha16 b17;have hr17:=blk_below hr16 b17;have hB17:=hB16.trans (b17.mono (below_size hB16));have dz:=cs11_ ⟨ha17⟩;have cz:=cs11_ ⟨hr17⟩))
        refine bodyPost_ret (results_ct rfl _ _ gr 25 #[.string x1,.int .i64 j,.string x2,.string x3,.string rn,.string rd,.string cn,.string cd,.int .i64 n3,.int .i64 n4,.int .i64 n5] (0,0) _ rfl (blk_set11 hr17 _ _ _ _ _ _ _ _ _ _ _) Tryz.underlying25 rfl (by kernel_rfl)) rfl ?_
        (try rw[PS])
        exact⟨rfl,below_set11 hB17 hge _ _ _ _ _ _ _ _ _ _ _⟩
      ·have PN:parseWs (ws.map (·.data.toList))=none:=PE.out.trans (if_neg (by simp[hm]))
       clear hcA
       generalize ws.length-i8=m at hc0 hm
       have em:((m:Int) == 0)=false:=beq_eq_false_iff_ne.2 (by omega)
       go_wp2
       go_roundg (gk-1)
       case measure=>have:=hj.out;omega
       case rel=>exact⟨j+1,rfl,⟨by have:=hj.out;omega⟩,⟨by have:=hk.out;omega⟩,⟨Or.inr ⟨PN,hnot⟩⟩,⟨hr16⟩,⟨hB16⟩⟩
   ·have hxb0:(xw.toList == x0.toList)=false:=beq_eq_false_iff_ne.mpr hx
    have hxb1:(xw.toList != x0.toList)=true:=bne_iff_ne.mpr hx
    have hX:=ak_ hx
    clear hx
    go_wp2
    go_roundg (gk-1)
    case measure=>have:=hj.out;omega
    case rel=>exact⟨j+1,rfl,⟨by have:=hj.out;omega⟩,⟨by have:=hk.out;omega⟩,⟨hS.out.next (ix_not c0 c8 HXW.out hX.out) hS8⟩,⟨hr8⟩,⟨hB8⟩⟩
  ·have b8:decide (j<5)=false:=decide_eq_false c8
   have PS:outW (ws.map (·.data.toList))=(zeroA,150):=outW_none (St.none hx0.out (by have:=hj.out;omega) hS.out)
   have hr8:=hr.out
   have hB8:=hB.out
   have hge:w.heap.size≤gr:=GR.out
   have cz:=cs11_ ⟨hr8⟩
   go_wp2
   refine bodyPost_ret (results_ct rfl _ _ gr 25 #[.string ⟨#[]⟩,.int .i64 0,.string ⟨#[]⟩,.string ⟨#[]⟩,.string ⟨#[]⟩,.string ⟨#[]⟩,.string ⟨#[]⟩,.string ⟨#[]⟩,.int .i64 0,.int .i64 0,.int .i64 0] (0,0) _ rfl (blk_set11 hr8 _ _ _ _ _ _ _ _ _ _ _) Tryz.underlying25 rfl (by kernel_rfl)) rfl ?_
   (try rw[PS])
   exact⟨rfl,below_set11 hB8 hge _ _ _ _ _ _ _ _ _ _ _⟩
end
abbrev FlatA:=ByteArray×Int×ByteArray×ByteArray×ByteArray×ByteArray×ByteArray×ByteArray×Int×Int×Int×Int
def flatA (p:ActV×Int):FlatA:=(p.1.name,p.1.kind,p.1.asset,p.1.other,p.1.ratio.1,p.1.ratio.2,p.1.cash.1,p.1.cash.2,p.1.ex,p.1.rec_,p.1.pay,p.2)
theorem word_size (s:ByteArray) (i:Nat):((Lib.splitB ⟨#[32]⟩ 0 (Lib.countB s ⟨#[32]⟩) s).getD i ⟨#[]⟩).size≤s.size:=by
 have h:=wAt_map (Lib.splitB ⟨#[32]⟩ 0 (Lib.countB s ⟨#[32]⟩) s) i
 rw[size_len,← h,words_of,size_len]
 unfold wAt
 rw[List.getD_eq_getElem?_getD]
 cases e:(splitL s.data.toList)[i]? with
 | none=>exact Nat.zero_le _
 | some w=>exact(split_len s.data.toList).2 w (List.mem_of_getElem? e)
theorem parse_calls (s:ByteArray) (w:World) (hL:Laid w) (hs:s.size≤1100) :
  Calls Tryz.prog 9 #[.string s] w fun e w'=>e=.returned (.tuple #[cellsA (parseAct s).1,.int .i64 (parseAct s).2])∧Below w.heap.size w w':=by
 have hl:=Lib.splitB_all ⟨#[32]⟩ (by decide) 0 (Lib.countB s ⟨#[32]⟩) s rfl
 have hn:=(split_len s.data.toList).1
 rw[← words_of,List.length_map,← size_len] at hn
 have h:=parse_walk s _ _ w hL hs rfl hl.symm ⟨rfl⟩ (by omega) ⟨fun i=>Nat.le_trans (word_size s i) hs⟩
 rw[words_of] at h
 exact h
def action_Parse.f (a0:ByteArray):Option FlatA:=if a0.size≤1100 then some (flatA (parseAct a0)) else none
theorem action_Parse.calls (a0 r1:ByteArray) (r2:Int) (r3 r4 r5 r6 r7 r8:ByteArray) (r9 r10 r11 r12:Int) (w:World) (hL_:Laid w) (h:action_Parse.f a0=some (r1,r2,r3,r4,r5,r6,r7,r8,r9,r10,r11,r12)) :
  Calls Tryz.prog 9 #[.string a0] w fun e w'=>e=.returned (.tuple #[.agg #[.string r1,.int .i64 r2,.string r3,.string r4,.string r5,.string r6,.string r7,.string r8,.int .i64 r9,.int .i64 r10,.int .i64 r11],.int .i64 r12])∧Below w.heap.size w w':=by
 unfold action_Parse.f at h
 split at h
 ·rename_i hs
  have h':=Option.some.inj h
  unfold flatA at h'
  simp only[Prod.mk.injEq] at h'
  obtain⟨rfl,rfl,rfl,rfl,rfl,rfl,rfl,rfl,rfl,rfl,rfl,rfl⟩:=h'
  exact parse_calls a0 w hL_ hs
 ·cases h
theorem r3of_f (n:Int) (h0:-9223372036854775808≤n) (h1:n≤9223372036854775807):Pz.r3_Of.f n=some (rT (n:Rat)):=by
 unfold Pz.r3_Of.f r2_Of.f
 rw[if_pos ⟨h0,h1⟩,ob_,← natB_one]
 rfl
def r3_Of.f (a0:Int):Option (ByteArray×ByteArray):=if -9223372036854775808≤a0∧a0≤9223372036854775807 then some (rT (a0:Rat)) else none
theorem r3_Of.calls (a0:Int) (r1 r2:ByteArray) (w:World) (h:r3_Of.f a0=some (r1,r2)) :
  Calls Tryz.prog 15 #[.int .i64 a0] w fun e w'=>e=.returned (.agg #[.string r1,.string r2])∧Below w.heap.size w w':=by
 unfold r3_Of.f at h
 split at h
 ·rename_i hp
  rw[← r3of_f a0 hp.1 hp.2] at h
  exact Pz.r3_Of.calls a0 r1 r2 w h
 ·cases h
theorem kMul {p q:Rat} (hp:szR p≤3999) (hq:szR q≤3999):r3_Mul.f (rT p).1 (rT p).2 (rT q).1 (rT q).2=some (rT (p * q)):=by
 unfold r3_Mul.f rmulS
 rw[if_pos (smR2_rT hp hq),if_pos (may2R_rT p q),ratR_rT,ratR_rT]
theorem kSign {p:Rat} (hp:szR p≤3999):r3_Sign.f (rT p).1 (rT p).2=some (cmpQ p 0):=by
 unfold r3_Sign.f rsignS
 rw[if_pos (smR_rT hp),if_pos (mayR_rT p),ratR_rT]
theorem qDivN {m n:Nat} (hm:sz m≤50000) (hn:sz n≤50000) (h:n≠0):r1_Div.f (natB m) (natB n)=some (natB (m / n),natB (m % n),true):=by
 unfold r1_Div.f divS
 rw[if_pos (sm2_natB hm hn),may2_natB,numB_natB,numB_natB,Bool.true_and,if_pos (decide_eq_true h)]
theorem kMake {x y:Int} (hx:szI x≤4000) (hy:szI y≤4000) (h:y≠0):r3_Make.f (intB x) (intB y)=some ((rT (Rat.divInt x y)).1,(rT (Rat.divInt x y)).2,true):=by
 unfold r3_Make.f rmakeS
 rw[if_pos (show smR (intB x,intB y)=true from decide_eq_true ⟨hx,hy⟩),may2W_int' x y,Bool.true_and,numW_int,numW_int,if_pos (decide_eq_true h)]
namespace Pm
def errW:Option Int→Value
 | none=>.nilIface
 | some c=>.iface 0 (.int .i64 c)
theorem errW_none:errW none=.nilIface:=rfl
theorem errW_some (c:Int):errW (some c)=.iface 0 (.int .i64 c):=rfl
def r15_Light.f (a0_0:ByteArray) (a0_1:Int) (a0_2 a0_3 a0_4 a0_5 a0_6 a0_7:ByteArray) (a0_8 a0_9 a0_10:Int):Option (Bool):=if (a0_4.size:Int)≤30 then (if (a0_5.size:Int)≤30 then (if (a0_6.size:Int)≤30 then (if (a0_7.size:Int)≤30 then (some (decide ((wrap64 ((wrap64 ((a0_0.size:Int)+(a0_2.size:Int)))+(a0_3.size:Int)))≤200))) else (some false)) else (some false)) else (some false)) else (some false)
theorem r15_Light.calls (a0_0:ByteArray) (a0_1:Int) (a0_2 a0_3 a0_4 a0_5 a0_6 a0_7:ByteArray) (a0_8 a0_9 a0_10:Int) (r:Bool) (w:World) (h:r15_Light.f a0_0 a0_1 a0_2 a0_3 a0_4 a0_5 a0_6 a0_7 a0_8 a0_9 a0_10=some r) :
  Calls Tryz.prog 7 #[.agg #[.string a0_0,.int .i64 a0_1,.string a0_2,.string a0_3,.string a0_4,.string a0_5,.string a0_6,.string a0_7,.int .i64 a0_8,.int .i64 a0_9,.int .i64 a0_10]] w fun e w'=>e=.returned (.bool r)∧Below w.heap.size w w':=by
 have hu25:=Tryz.underlying25;have HB:=ak_ (Below.refl w.heap.size w);have H:=h;unfold r15_Light.f at H;clear h;replace H:=bw_ H;rcases H with ⟨c2,H⟩|⟨c2,H⟩
 ·have c2b0:=dt_ c2;have c2b1:decide (a0_4.size≤30)=true:=decide_eq_true (by omega);clear c2;replace H:=bw_ H;rcases H with ⟨c3,H⟩|⟨c3,H⟩
  ·have c3b0:=dt_ c3;have c3b1:decide (a0_5.size≤30)=true:=decide_eq_true (by omega);clear c3;replace H:=bw_ H;rcases H with ⟨c4,H⟩|⟨c4,H⟩
   ·have c4b0:=dt_ c4;have c4b1:decide (a0_6.size≤30)=true:=decide_eq_true (by omega);clear c4;replace H:=bw_ H;rcases H with ⟨c5,H⟩|⟨c5,H⟩
    ·have c5b0:=dt_ c5;have c5b1:decide (a0_7.size≤30)=true:=decide_eq_true (by omega);clear c5;obtain rfl:=oi_ H;go_in
     go_wp2_with (((with_reducible refine gate_dst (N:=1) rfl ?_);(try(refine gate_guard (by rfl) ?_;dsimp only));refine bf_ 1 #[.string a0_0,.int .i64 a0_1,.string a0_2,.string a0_3,.string a0_4,.string a0_5,.string a0_6,.string a0_7,.int .i64 a0_8,.int .i64 a0_9,.int .i64 a0_10] 25 HB ?_;clear HB;intro gb101 w6 BK101 GW101 HB;have hz7:=cs11_ BK101))
     go_ret
     exact⟨er_,b_ HB.out⟩
    ·have c5b0:=df_ c5;have c5b1:decide (a0_7.size≤30)=false:=decide_eq_false (by omega);clear c5;obtain rfl:=oi_ H;go_in
     go_wp2_with (((with_reducible refine gate_dst (N:=1) rfl ?_);(try(refine gate_guard (by rfl) ?_;dsimp only));refine bf_ 1 #[.string a0_0,.int .i64 a0_1,.string a0_2,.string a0_3,.string a0_4,.string a0_5,.string a0_6,.string a0_7,.int .i64 a0_8,.int .i64 a0_9,.int .i64 a0_10] 25 HB ?_;clear HB;intro gb101 w8 BK101 GW101 HB;have hz9:=cs11_ BK101))
     go_ret
     exact⟨er_,b_ HB.out⟩
   ·have c4b0:=df_ c4;have c4b1:decide (a0_6.size≤30)=false:=decide_eq_false (by omega);clear c4;obtain rfl:=oi_ H;go_in
    go_wp2_with (((with_reducible refine gate_dst (N:=1) rfl ?_);(try(refine gate_guard (by rfl) ?_;dsimp only));refine bf_ 1 #[.string a0_0,.int .i64 a0_1,.string a0_2,.string a0_3,.string a0_4,.string a0_5,.string a0_6,.string a0_7,.int .i64 a0_8,.int .i64 a0_9,.int .i64 a0_10] 25 HB ?_;clear HB;intro gb101 w10 BK101 GW101 HB;have hz11:=cs11_ BK101))
    go_ret
    exact⟨er_,b_ HB.out⟩
  ·have c3b0:=df_ c3;have c3b1:decide (a0_5.size≤30)=false:=decide_eq_false (by omega);clear c3;obtain rfl:=oi_ H;go_in
   go_wp2_with (((with_reducible refine gate_dst (N:=1) rfl ?_);(try(refine gate_guard (by rfl) ?_;dsimp only));refine bf_ 1 #[.string a0_0,.int .i64 a0_1,.string a0_2,.string a0_3,.string a0_4,.string a0_5,.string a0_6,.string a0_7,.int .i64 a0_8,.int .i64 a0_9,.int .i64 a0_10] 25 HB ?_;clear HB;intro gb101 w12 BK101 GW101 HB;have hz13:=cs11_ BK101))
   go_ret
   exact⟨er_,b_ HB.out⟩
 ·have c2b0:=df_ c2;have c2b1:decide (a0_4.size≤30)=false:=decide_eq_false (by omega);clear c2;obtain rfl:=oi_ H;go_in
  go_wp2_with (((with_reducible refine gate_dst (N:=1) rfl ?_);(try(refine gate_guard (by rfl) ?_;dsimp only));refine bf_ 1 #[.string a0_0,.int .i64 a0_1,.string a0_2,.string a0_3,.string a0_4,.string a0_5,.string a0_6,.string a0_7,.int .i64 a0_8,.int .i64 a0_9,.int .i64 a0_10] 25 HB ?_;clear HB;intro gb101 w14 BK101 GW101 HB;have hz15:=cs11_ BK101))
  go_ret
  exact⟨er_,b_ HB.out⟩
end Pm
def r15_Light.f (a0_0:ByteArray) (a0_1:Int) (a0_2 a0_3 a0_4 a0_5 a0_6 a0_7:ByteArray) (a0_8 a0_9 a0_10:Int):Option Bool:=Pm.r15_Light.f a0_0 a0_1 a0_2 a0_3 a0_4 a0_5 a0_6 a0_7 a0_8 a0_9 a0_10
theorem r15_Light.calls (a0_0:ByteArray) (a0_1:Int) (a0_2 a0_3 a0_4 a0_5 a0_6 a0_7:ByteArray) (a0_8 a0_9 a0_10:Int) (r:Bool) (w:World) (h:r15_Light.f a0_0 a0_1 a0_2 a0_3 a0_4 a0_5 a0_6 a0_7 a0_8 a0_9 a0_10=some r) :
  Calls Tryz.prog 7 #[.agg #[.string a0_0,.int .i64 a0_1,.string a0_2,.string a0_3,.string a0_4,.string a0_5,.string a0_6,.string a0_7,.int .i64 a0_8,.int .i64 a0_9,.int .i64 a0_10]] w fun e w'=>e=.returned (.bool r)∧Below w.heap.size w w' :=
 Pm.r15_Light.calls a0_0 a0_1 a0_2 a0_3 a0_4 a0_5 a0_6 a0_7 a0_8 a0_9 a0_10 r w h
theorem light_f {a0_0:ByteArray} {a0_1:Int} {a0_2 a0_3 a0_4 a0_5 a0_6 a0_7:ByteArray} {a0_8 a0_9 a0_10:Int} (h0:a0_0.size≤140737488351232) (h2:a0_2.size≤140737488351232) (h3:a0_3.size≤140737488351232) :
  ∃ b,r15_Light.f a0_0 a0_1 a0_2 a0_3 a0_4 a0_5 a0_6 a0_7 a0_8 a0_9 a0_10=some b∧(b=true→a0_0.size+a0_2.size+a0_3.size≤200∧a0_4.size≤30∧a0_5.size≤30∧a0_6.size≤30∧a0_7.size≤30):=by
 unfold r15_Light.f Pm.r15_Light.f
 by_cases c4:(a0_4.size:Int)≤30
 ·rw[if_pos c4]
  by_cases c5:(a0_5.size:Int)≤30
  ·rw[if_pos c5]
   by_cases c6:(a0_6.size:Int)≤30
   ·rw[if_pos c6]
    by_cases c7:(a0_7.size:Int)≤30
    ·rw[if_pos c7]
     refine⟨_,rfl,fun h=>?_⟩
     have h:=od_ h
     have e1:wrap64 ((a0_0.size:Int)+(a0_2.size:Int))=(a0_0.size:Int)+(a0_2.size:Int):=by unfold wrap64;omega
     have e2:wrap64 ((a0_0.size:Int)+(a0_2.size:Int)+(a0_3.size:Int))=(a0_0.size:Int)+(a0_2.size:Int)+(a0_3.size:Int):=by unfold wrap64;omega
     rw[e1,e2] at h
     clear e1 e2
     omega
    ·rw[if_neg c7];exact⟨_,rfl,fun h=>by cases h⟩
   ·rw[if_neg c6];exact⟨_,rfl,fun h=>by cases h⟩
  ·rw[if_neg c5];exact⟨_,rfl,fun h=>by cases h⟩
 ·rw[if_neg c4];exact⟨_,rfl,fun h=>by cases h⟩
theorem aMay {a0 a2 a3 a4 a5 a6 a7:ByteArray} {a1 a8 a9 a10:Int} (h:smA (actV a0 a1 a2 a3 a4 a5 a6 a7 a8 a9 a10)=true):action_May.f a0 a1 a2 a3 a4 a5 a6 a7 a8 a9 a10=some (mayA (actV a0 a1 a2 a3 a4 a5 a6 a7 a8 a9 a10)):=if_pos h
theorem aPrint {a0 a2 a3 a4 a5 a6 a7:ByteArray} {a1 a8 a9 a10:Int} (h:smA (actV a0 a1 a2 a3 a4 a5 a6 a7 a8 a9 a10)=true):action_Print.f a0 a1 a2 a3 a4 a5 a6 a7 a8 a9 a10=some (printA (actV a0 a1 a2 a3 a4 a5 a6 a7 a8 a9 a10)):=if_pos h
theorem aParse {s:ByteArray} (h:s.size≤1100):action_Parse.f s=some (flatA (parseAct s)):=if_pos h
theorem smA_light {a0 a2 a3 a4 a5 a6 a7:ByteArray} {a1 a8 a9 a10:Int} (h:a0.size+a2.size+a3.size≤200∧a4.size≤30∧a5.size≤30∧a6.size≤30∧a7.size≤30):smA (actV a0 a1 a2 a3 a4 a5 a6 a7 a8 a9 a10)=true :=
 smA_of (by omega) (by omega) (by omega) (decide_eq_true (by dsimp only;omega)) (decide_eq_true (by dsimp only;omega))
namespace Pe
def errW:Option Int→Value
 | none=>.nilIface
 | some c=>.iface 0 (.int .i64 c)
theorem errW_none:errW none=.nilIface:=rfl
theorem errW_some (c:Int):errW (some c)=.iface 0 (.int .i64 c):=rfl
def r4_Zeros.l0:Nat→Int→ByteArray→Int→Option (ByteArray)
 | 0,_,_,_=>none
 | k+1,x0,x3,x4=>if x4<x0 then (if x3.size+1≤9223372036854775807 then (r4_Zeros.l0 k x0 (x3++(⟨#[48]⟩:ByteArray)) (wrap64 (x4+1))) else (none)) else (some x3)
def r4_Zeros.f (k:Nat) (a0:Int):Option (ByteArray):=r4_Zeros.l0 k a0 (⟨#[]⟩:ByteArray) 0
theorem r4_Zeros.calls (k:Nat) (a0:Int) (r:ByteArray) (w:World) (h:r4_Zeros.f k a0=some r) :
  Calls Tryz.prog 48 #[.int .i64 a0] w fun e w'=>e=.returned (.string r)∧Drawn0 w w':=by
 have H:=h;unfold r4_Zeros.f at H;clear h;have H':=ak_ H;clear H;go_in;go_wp2
 go_loopg [3,4] k (fun kq v3 v4 w'=>∃ (x3_1:ByteArray) (x4_1:Int),v3=.string x3_1∧v4=.int .i64 x4_1∧Aside0 (r4_Zeros.l0 kq a0 x3_1 x4_1=some r)∧Aside0 (kq≤k)∧Drawn0 w w')
 case atStart=>exact⟨((⟨#[]⟩:ByteArray)),(0),rl_,rl_,H',⟨nr_ _⟩,d0_⟩
 case round =>
  clear H';obtain⟨x3_1,x4_1,rfl,rfl,HA,HK1,⟨m1,rfl⟩⟩:=hrel
  cases gk with
  | zero=>exact absurd HA.out (by simp[r4_Zeros.l0])
  | succ k1 =>
   have H:=HA.out;clear HA;simp only[r4_Zeros.l0] at H;replace H:=bw_ H;rcases H with ⟨c2,H⟩|⟨c2,H⟩
   ·have c2b0:=dt_ c2;clear c2;replace H:=bx_ H;obtain⟨c3,H⟩:=H;have c3b0:=eq_true c3;have c3b1:=dt_ c3
    try have c3b2:(9223372036854775807<x3_1.size+1)=False:=eq_false (Nat.not_lt.2 c3)
    have H':=ak_ H;clear H;go_wp2
    go_roundg k1
    case measure=>have:=HK1.out;omega
    case rel=>exact⟨(x3_1++(⟨#[48]⟩:ByteArray)),(wrap64 (x4_1+1)),rl_,rl_,H',⟨by have:=HK1.out;omega⟩,d0_⟩
   ·have c2b0:=df_ c2;clear c2;obtain rfl:=oi_ H;go_wp2
    go_ret
    exact⟨rl_,d0_⟩
def r4_Places.l0:Nat→ByteArray→Int→Int→Option (Int×Bool)
 | 0,_,_,_=>none
 | k+1,x4,x5,x6=>if x4.toList=([49]:List UInt8) then (some (mx x5 x6,true)) else ((r1_Div.f x4 (⟨#[50]⟩:ByteArray)).bind fun bt103=>((r1_Div.f x4 (⟨#[53]⟩:ByteArray)).bind fun bt106=>(if bt103.2.1.toList=([48]:List UInt8) then (r4_Places.l0 k bt103.1 (wrap64 (x5+1)) x6) else (if bt106.2.1.toList=([48]:List UInt8) then (r4_Places.l0 k bt106.1 x5 (wrap64 (x6+1))) else (some (0,false))))))
def r4_Places.f (k:Nat) (a0_0 a0_1:ByteArray):Option (Int×Bool):=(r3_May.f a0_0 a0_1).bind fun t102=>(if t102=true then (r4_Places.l0 k a0_1 0 0) else (some (0,false)))
theorem r4_Places.calls (k:Nat) (a0_0 a0_1:ByteArray) (r1:Int) (r2:Bool) (w:World) (h:r4_Places.f k a0_0 a0_1=some (r1,r2)) :
  Calls Tryz.prog 68 #[.agg #[.string a0_0,.string a0_1]] w fun e w'=>e=.returned (.tuple #[.int .i64 r1,.bool r2])∧Below w.heap.size w w':=by
 have hu23:=Tryz.underlying23;have HB:=ak_ (Below.refl w.heap.size w);have H:=h;unfold r4_Places.f at H;clear h;replace H:=bi_ H;obtain⟨t102,A2,H⟩:=H;replace H:=bt_ H;rcases H with ⟨rfl,H⟩|⟨rfl,H⟩
 ·have H':=ak_ H;clear H;go_in
  go_wp2_with (first|(refine bf_ 1 #[.string a0_0,.string a0_1] 23 HB ?_;clear HB;intro gb101 w4 BK101 GW101 HB;have hz5:=cs2_ BK101)|(refine gm_ 14 Tryz.func55 (r3_May.calls _ _ _ _ A2.out) ?_;intro w6 hb;replace BK101:=kb_ BK101 hb;replace HB:=bs_ HB hb;(try clear hb);have hz7:=cs2_ BK101))
  go_loopg [4,5,6] k (fun kq v4 v5 v6 w'=>∃ (x4_1:ByteArray) (x5_1 x6_1:Int),v4=.string x4_1∧v5=.int .i64 x5_1∧v6=.int .i64 x6_1∧Aside0 (r4_Places.l0 kq x4_1 x5_1 x6_1=some (r1,r2))∧Aside0 (kq≤k)∧Aside0 (w'.heap[gb101]?=some (.cells #[.string a0_0,.string a0_1] 23 (0,0)))∧Aside0 (Below w.heap.size w w'))
  case atStart=>exact⟨(a0_1),(0),(0),rl_,rl_,rl_,H',⟨nr_ _⟩,⟨k_ BK101.out⟩,⟨b_ HB.out⟩⟩
  case round =>
   clear H';(try clear hz5);(try clear hz7);obtain⟨x4_1,x5_1,x6_1,rfl,rfl,rfl,HA,HK1,BK101,HB⟩:=hrel
   cases gk with
   | zero=>exact absurd HA.out (by simp[r4_Places.l0])
   | succ k1 =>
    have H:=HA.out;clear HA;simp only[r4_Places.l0] at H;replace H:=bw_ H;rcases H with ⟨c8,H⟩|⟨c8,H⟩
    ·have c8b0:(x4_1.toList == ([49]:List UInt8))=true:=beq_iff_eq.mpr c8;have c8b1:(x4_1.toList != ([49]:List UInt8))=false:=bne_eq_false_iff_eq.mpr c8;clear c8;obtain⟨ji9,hji9⟩:∃ j_:Int,(mx x5_1 x6_1)=j_:=⟨_,rfl⟩;(first|rw[hji9] at H|simp only[hji9] at H);have hji9_:(if x5_1<x6_1 then x6_1 else x5_1)=ji9:=hji9;replace H:=pi2_ H;obtain⟨rfl,rfl⟩:=H;go_wp2;go_ret2;exact⟨by first|rfl|(simp[errW_none,errW_some] <;> rfl)|(simp only[← hji9];first|rfl|(simp[errW_none,errW_some] <;> rfl))|(simp[*,errW_none,errW_some] <;> rfl),b_ HB.out⟩
    ·have c8b0:(x4_1.toList == ([49]:List UInt8))=false:=beq_eq_false_iff_ne.mpr c8;have c8b1:(x4_1.toList != ([49]:List UInt8))=true:=bne_iff_ne.mpr c8;replace H:=bi_ H;obtain⟨⟨t103,t104,t105⟩,A10,H⟩:=H;(try dsimp only at H);replace H:=bi_ H;obtain⟨⟨t106,t107,t108⟩,A11,H⟩:=H;(try dsimp only at H);replace H:=bw_ H;rcases H with ⟨c12,H⟩|⟨c12,H⟩
     ·have c12b0:(t104.toList == ([48]:List UInt8))=true:=beq_iff_eq.mpr c12;have c12b1:(t104.toList != ([48]:List UInt8))=false:=bne_eq_false_iff_eq.mpr c12;clear c12;have H':=ak_ H;clear H
      go_wp2_with (first|(refine gm_ 22 Tryz.func112 (r1_Div.calls _ _ _ _ _ _ A10.out) ?_;intro w13 hb;replace BK101:=kb_ BK101 hb;replace HB:=bs_ HB hb;(try clear hb))|(refine gm_ 28 Tryz.func112 (r1_Div.calls _ _ _ _ _ _ A11.out) ?_;intro w14 hb;replace BK101:=kb_ BK101 hb;replace HB:=bs_ HB hb;(try clear hb)))
      go_roundg k1
      case measure=>have:=HK1.out;omega
      case rel=>exact⟨(t103),(wrap64 (x5_1+1)),(x6_1),rl_,rl_,rl_,H',⟨by have:=HK1.out;omega⟩,⟨k_ BK101.out⟩,⟨b_ HB.out⟩⟩
     ·have c12b0:(t104.toList == ([48]:List UInt8))=false:=beq_eq_false_iff_ne.mpr c12;have c12b1:(t104.toList != ([48]:List UInt8))=true:=bne_iff_ne.mpr c12;replace H:=bw_ H;rcases H with ⟨c15,H⟩|⟨c15,H⟩
      ·have c15b0:(t107.toList == ([48]:List UInt8))=true:=beq_iff_eq.mpr c15;have c15b1:(t107.toList != ([48]:List UInt8))=false:=bne_eq_false_iff_eq.mpr c15;clear c15;have H':=ak_ H;clear H
       go_wp2_with (first|(refine gm_ 22 Tryz.func112 (r1_Div.calls _ _ _ _ _ _ A10.out) ?_;intro w16 hb;replace BK101:=kb_ BK101 hb;replace HB:=bs_ HB hb;(try clear hb))|(refine gm_ 28 Tryz.func112 (r1_Div.calls _ _ _ _ _ _ A11.out) ?_;intro w17 hb;replace BK101:=kb_ BK101 hb;replace HB:=bs_ HB hb;(try clear hb)))
       go_roundg k1
       case measure=>have:=HK1.out;omega
       case rel=>exact⟨(t106),(x5_1),(wrap64 (x6_1+1)),rl_,rl_,rl_,H',⟨by have:=HK1.out;omega⟩,⟨k_ BK101.out⟩,⟨b_ HB.out⟩⟩
      ·have c15b0:(t107.toList == ([48]:List UInt8))=false:=beq_eq_false_iff_ne.mpr c15;have c15b1:(t107.toList != ([48]:List UInt8))=true:=bne_iff_ne.mpr c15;replace H:=pi2_ H;obtain⟨rfl,rfl⟩:=H
       go_wp2_with (first|(refine gm_ 22 Tryz.func112 (r1_Div.calls _ _ _ _ _ _ A10.out) ?_;intro w18 hb;replace BK101:=kb_ BK101 hb;replace HB:=bs_ HB hb;(try clear hb))|(refine gm_ 28 Tryz.func112 (r1_Div.calls _ _ _ _ _ _ A11.out) ?_;intro w19 hb;replace BK101:=kb_ BK101 hb;replace HB:=bs_ HB hb;(try clear hb)))
       go_ret2;exact⟨er_,b_ HB.out⟩
 ·replace H:=pi2_ H;obtain⟨rfl,rfl⟩:=H;go_in
  go_wp2_with (first|(refine bf_ 1 #[.string a0_0,.string a0_1] 23 HB ?_;clear HB;intro gb101 w20 BK101 GW101 HB;have hz21:=cs2_ BK101)|(refine gm_ 14 Tryz.func55 (r3_May.calls _ _ _ _ A2.out) ?_;intro w22 hb;replace BK101:=kb_ BK101 hb;replace HB:=bs_ HB hb;(try clear hb)))
  go_ret2;exact⟨er_,b_ HB.out⟩
def r4_Print.f (k:Nat) (a0_0 a0_1:ByteArray):Option (ByteArray):=(r3_May.f a0_0 a0_1).bind fun t110=>(if t110=true then ((r4_Places.f k a0_0 a0_1).bind fun bt111=>(if bt111.2=true then (if bt111.1=0 then (some a0_0) else ((r4_Zeros.f k bt111.1).bind fun t113=>(if 1+t113.size≤9223372036854775807 then ((r3_Mul.f a0_0 a0_1 ((⟨#[49]⟩:ByteArray)++t113) (⟨#[49]⟩:ByteArray)).bind fun bt114=>((r2_Abs.f bt114.1).bind fun t117=>((r4_Zeros.f k (mx (wrap64 ((wrap64 (bt111.1+1))-(t117.size:Int))) 0)).bind fun t118=>(if t118.size+t117.size≤9223372036854775807 then ((r3_Sign.f a0_0 a0_1).bind fun t119=>(if t119<0 then (if 0≤(wrap64 (((t118++t117).size:Int)-bt111.1)) then (if (wrap64 (((t118++t117).size:Int)-bt111.1))≤((t118++t117).size:Int) then (if 1+((t118++t117).extract 0 ((wrap64 (((t118++t117).size:Int)-bt111.1)):Int).toNat).size≤9223372036854775807 then (if ((⟨#[45]⟩:ByteArray)++((t118++t117).extract 0 ((wrap64 (((t118++t117).size:Int)-bt111.1)):Int).toNat)).size+1≤9223372036854775807 then (if (((⟨#[45]⟩:ByteArray)++((t118++t117).extract 0 ((wrap64 (((t118++t117).size:Int)-bt111.1)):Int).toNat))++(⟨#[46]⟩:ByteArray)).size+((t118++t117).extract ((wrap64 (((t118++t117).size:Int)-bt111.1)):Int).toNat (t118++t117).size).size≤9223372036854775807 then (some ((((⟨#[45]⟩:ByteArray)++((t118++t117).extract 0 ((wrap64 (((t118++t117).size:Int)-bt111.1)):Int).toNat))++(⟨#[46]⟩:ByteArray))++((t118++t117).extract ((wrap64 (((t118++t117).size:Int)-bt111.1)):Int).toNat (t118++t117).size))) else (none)) else (none)) else (none)) else (none)) else (none)) else (if 0≤(wrap64 (((t118++t117).size:Int)-bt111.1)) then (if (wrap64 (((t118++t117).size:Int)-bt111.1))≤((t118++t117).size:Int) then (if 0+((t118++t117).extract 0 ((wrap64 (((t118++t117).size:Int)-bt111.1)):Int).toNat).size≤9223372036854775807 then (if ((⟨#[]⟩:ByteArray)++((t118++t117).extract 0 ((wrap64 (((t118++t117).size:Int)-bt111.1)):Int).toNat)).size+1≤9223372036854775807 then (if (((⟨#[]⟩:ByteArray)++((t118++t117).extract 0 ((wrap64 (((t118++t117).size:Int)-bt111.1)):Int).toNat))++(⟨#[46]⟩:ByteArray)).size+((t118++t117).extract ((wrap64 (((t118++t117).size:Int)-bt111.1)):Int).toNat (t118++t117).size).size≤9223372036854775807 then (some ((((⟨#[]⟩:ByteArray)++((t118++t117).extract 0 ((wrap64 (((t118++t117).size:Int)-bt111.1)):Int).toNat))++(⟨#[46]⟩:ByteArray))++((t118++t117).extract ((wrap64 (((t118++t117).size:Int)-bt111.1)):Int).toNat (t118++t117).size))) else (none)) else (none)) else (none)) else (none)) else (none)))) else (none))))) else (none)))) else (if a0_0.size+1≤9223372036854775807 then (if (a0_0++(⟨#[47]⟩:ByteArray)).size+a0_1.size≤9223372036854775807 then (some ((a0_0++(⟨#[47]⟩:ByteArray))++a0_1)) else (none)) else (none)))) else (some (⟨#[]⟩:ByteArray)))
def r4_Print.T8:Bool×List (List Nat×List Nat):=(true,[([],[]),([],[]),([1],[1]),([2],[2]),([3],[3]),([0,4,2],[0,4]),([],[]),([6,5,5,0,1,2,3,4,5,6],[5,6])])
def r4_Print.B8:List Nat:=[0,0,2,6,14,31,0,127]
theorem r4_Print.tab8:rtab .any (opsOf Tryz.f37 8)=r4_Print.T8:=by kernel_rfl
theorem r4_Print.bits8:waitsOk r4_Print.T8.2 r4_Print.B8=true:=by kernel_rfl
def r4_Print.T14:Bool×List (List Nat×List Nat):=(true,[([],[]),([],[]),([],[]),([2],[2]),([],[]),([3,4],[3,4]),([1,5],[1,5]),([0,6],[0,6]),([7],[7]),([],[]),([],[]),([10],[10]),([],[]),([11,12],[11,12]),([9,13],[9,13]),([8,14],[8,14]),([15,0,1,2,3,4,5,6,7,8,9,10,11,12,13,14,15],[15])])
def r4_Print.B14:List Nat:=[0,0,0,4,0,28,62,127,255,0,0,1024,0,7168,15872,32767,65535]
theorem r4_Print.tab14:rtab .any (opsOf Tryz.f37 14)=r4_Print.T14:=by kernel_rfl
theorem r4_Print.bits14:waitsOk r4_Print.T14.2 r4_Print.B14=true:=by kernel_rfl
theorem r4_Print.calls (k:Nat) (a0_0 a0_1 r:ByteArray) (w:World) (h:r4_Print.f k a0_0 a0_1=some r) :
  Calls Tryz.prog 37 #[.agg #[.string a0_0,.string a0_1]] w fun e w'=>e=.returned (.string r)∧Below w.heap.size w w':=by
 have hu23:=Tryz.underlying23;have HB:=ak_ (Below.refl w.heap.size w);have H:=h;unfold r4_Print.f at H;clear h;replace H:=bi_ H;obtain⟨t110,A2,H⟩:=H;replace H:=bt_ H;rcases H with ⟨rfl,H⟩|⟨rfl,H⟩
 ·replace H:=bi_ H;obtain⟨⟨t111,t112⟩,A4,H⟩:=H;(try dsimp only at H);replace H:=bt_ H;rcases H with ⟨rfl,H⟩|⟨rfl,H⟩
  ·replace H:=bw_ H;rcases H with ⟨c6,H⟩|⟨c6,H⟩
   ·have c6b0:(t111 == 0)=true:=beq_iff_eq.mpr c6;have c6b1:(t111 != 0)=false:=bne_eq_false_iff_eq.mpr c6;clear c6;obtain rfl:=oi_ H;go_in
    go_wp2_with (first|(refine bf_ 1 #[.string a0_0,.string a0_1] 23 HB ?_;clear HB;intro gb109 w7 BK109 GW109 HB;have hz8:=cs2_ BK109)|(refine gm_ 9 Tryz.func55 (r3_May.calls _ _ _ _ A2.out) ?_;intro w9 hb;replace BK109:=kb_ BK109 hb;replace HB:=bs_ HB hb;(try clear hb);have hz10:=cs2_ BK109)|(refine gm_ 13 Tryz.func68 (r4_Places.calls _ _ _ _ _ _ A4.out) ?_;intro w11 hb;replace BK109:=kb_ BK109 hb;replace HB:=bs_ HB hb;(try clear hb);have hz12:=cs2_ BK109))
    go_ret
    exact⟨er_,b_ HB.out⟩
   ·have c6b0:(t111 == 0)=false:=beq_eq_false_iff_ne.mpr c6;have c6b1:(t111 != 0)=true:=bne_iff_ne.mpr c6;replace H:=bi_ H;obtain⟨t113,A13,H⟩:=H;replace H:=bx_ H;obtain⟨c14,H⟩:=H;have c14b0:=eq_true c14;have c14b1:=dt_ c14
    try have c14b2:(9223372036854775807<1+t113.size)=False:=eq_false (Nat.not_lt.2 c14)
    replace H:=bi_ H;obtain⟨⟨t114,t115⟩,A15,H⟩:=H;(try dsimp only at H);replace H:=bi_ H;obtain⟨t117,A16,H⟩:=H;obtain⟨ji17,hji17⟩:∃ j_:Int,(mx (wrap64 ((wrap64 (t111+1))-(t117.size:Int))) 0)=j_:=⟨_,rfl⟩;(first|rw[hji17] at H|simp only[hji17] at H);(try rw[hji17] at A2);(try rw[hji17] at A4);(try rw[hji17] at A13);(try rw[hji17] at A15);(try rw[hji17] at A16);(try(have hji17l:0≤ji17:=by(rw[← hji17];unfold mx;(repeat' split) <;> omega)));(try(have hji17m:0≤ji17:=by omega));have hji17_:(if (wrap64 ((wrap64 (t111+1))-(t117.size:Int)))<0 then 0 else (wrap64 ((wrap64 (t111+1))-(t117.size:Int))))=ji17:=hji17;replace H:=bi_ H;obtain⟨t118,A18,H⟩:=H;replace H:=bx_ H;obtain⟨c19,H⟩:=H;have c19b0:=eq_true c19;have c19b1:=dt_ c19
    try have c19b2:(9223372036854775807<t118.size+t117.size)=False:=eq_false (Nat.not_lt.2 c19)
    replace H:=bi_ H;obtain⟨t119,A20,H⟩:=H;replace H:=bw_ H;rcases H with ⟨c21,H⟩|⟨c21,H⟩
    ·have c21b0:=dt_ c21;clear c21;obtain⟨ji22,hji22⟩:∃ j_:Int,(wrap64 (((t118++t117).size:Int)-t111))=j_:=⟨_,rfl⟩;(first|rw[hji22] at H|simp only[hji22] at H);(try rw[hji22] at A2);(try rw[hji22] at A4);(try rw[hji22] at A13);(try rw[hji22] at A15);(try rw[hji22] at A16);(try rw[hji22] at A18);(try rw[hji22] at A20);have hji22w:(IntKind.i64.wrap (((t118++t117).size:Int)-t111))=ji22:=(i64_w _).trans hji22;(try(have hji22v:=hji22;simp only[ByteArray.size_append,Int.natCast_add] at hji22v));(try(have hji22u:=hji22w;simp only[ByteArray.size_append,Int.natCast_add] at hji22u));replace H:=bx_ H;obtain⟨c23,H⟩:=H;have c23b0:=eq_true c23;replace c23:=dt_ c23;replace H:=bx_ H;obtain⟨c24,H⟩:=H;have c24b0:=eq_true c24;have c24b1:=dt_ c24;(try(have c24v:=c24;simp only[ByteArray.size_append,Int.natCast_add] at c24v;replace c24v:=eq_true c24v));replace H:=bx_ H;obtain⟨c25,H⟩:=H;have c25b0:=eq_true c25;have c25b1:=dt_ c25;(try have c25v0:(9223372036854775807<1+(ji22).toNat)=False:=sv_ ((ji22)≤((t118++t117).size:Int)) c25)
     try have c25b2:(9223372036854775807<1+((t118++t117).extract 0 ((ji22):Int).toNat).size)=False:=eq_false (Nat.not_lt.2 c25)
     replace H:=bx_ H;obtain⟨c26,H⟩:=H;have c26b0:=eq_true c26;have c26b1:=dt_ c26;(try have c26v0:(9223372036854775807<1+(ji22).toNat+1)=False:=sv_ ((ji22)≤((t118++t117).size:Int)) c26)
     try have c26b2:(9223372036854775807<((⟨#[45]⟩:ByteArray)++((t118++t117).extract 0 ((ji22):Int).toNat)).size+1)=False:=eq_false (Nat.not_lt.2 c26)
     have c27b0:=eq_true (od_ as_f:0≤(ji22));have c28b0:=eq_true (od_ as_f:(ji22)≤((t118++t117).size:Int));replace H:=bx_ H;obtain⟨c29,H⟩:=H;have c29b0:=eq_true c29;have c29b1:=dt_ c29;(try have c29v0:(9223372036854775807<1+(ji22).toNat+1+(t118.size+t117.size-(ji22).toNat))=False:=sv_ ((ji22)≤((t118++t117).size:Int)) c29)
     try have c29b2:(9223372036854775807<(((⟨#[45]⟩:ByteArray)++((t118++t117).extract 0 ((ji22):Int).toNat))++(⟨#[46]⟩:ByteArray)).size+((t118++t117).extract ((ji22):Int).toNat (t118++t117).size).size)=False:=eq_false (Nat.not_lt.2 c29)
     obtain rfl:=oi_ H;go_in
     try go_wp2_with (first|(refine bf_ 1 #[.string a0_0,.string a0_1] 23 HB ?_;clear HB;intro gb109 w30 BK109 GW109 HB;have hz31:=cs2_ BK109)|(refine gm_ 9 Tryz.func55 (r3_May.calls _ _ _ _ A2.out) ?_;intro w32 hb;replace BK109:=kb_ BK109 hb;replace HB:=bs_ HB hb;(try clear hb);have hz33:=cs2_ BK109)|(refine gm_ 13 Tryz.func68 (r4_Places.calls _ _ _ _ _ _ A4.out) ?_;intro w34 hb;replace BK109:=kb_ BK109 hb;replace HB:=bs_ HB hb;(try clear hb)))
     replace BK109:=ak_ (blk_drew BK109.out);replace HB:=ak_ (below_drew1 HB.out);refine sa_ 8 (fun w'=>w'.cell? ⟨gb109,0,none⟩=some (.string a0_0)∧w'.cell? ⟨gb109,1,none⟩=some (.string a0_1)) (fun hHeld=>?_);refine with_tabW r4_Print.tab8 r4_Print.bits8 (fun HT_ HW_=>?_);generalize w34.drew=w35 at BK109 HB hHeld ⊢;refine pu_ 1 29 rfl rfl HT_ ?_;refine t_ 0 28 rfl rfl HT_ HW_ hHeld ?_;refine join_ (σ:=Nat) 1 #[true,true,true,true,true,true,true,false] (fun s_=>[(30,.string t113),(33,.agg #[.string t114,.string t115]),(5,.pointer (some ⟨s_,0,none⟩)),(31,.string ((⟨#[49]⟩:ByteArray)++t113)),(32,.agg #[.string ((⟨#[49]⟩:ByteArray)++t113),.string ⟨#[49]⟩])]) (fun s_ w'=>(w'.cell? ⟨gb109,0,none⟩=some (.string a0_0)∧w'.cell? ⟨gb109,1,none⟩=some (.string a0_1))∧(w'.heap[gb109]?=some (.cells #[.string a0_0,.string a0_1] 23 (0,0)))∧(w'.heap[s_]?=some (.cells #[.string ⟨#[]⟩,.string ⟨#[]⟩] 23 (0,0)))∧(w.heap.size≤s_)∧(w.heap.size≤s_)∧(gb109≠s_)∧(s_≠gb109)∧(Below w.heap.size w w')) ?_ ?_;rotate_left
     ·intro hCont;refine two_ (i:=2) (j:=6) (Ni:=some 30) (Nj:=some 5) #[true,true,true,false,false,false,false,false] #[true,true,false,false,false,false,true,false] rfl rfl rfl rfl (two_of HT_.out (by kernel_rfl)) (by decide) (by decide) (fun K hK=>?_) (fun K hK=>?_)
      ·skip;refine gs_ Tryz.func48 #[.int .i64 t111] ?_
       with_reducible refine(r4_Zeros.calls _ _ _ _ A13.out).mono ?_
       rintro e w' ⟨rfl,⟨nd,rfl⟩⟩;refine⟨_,rfl,?_⟩;refine hK.out _ _ ⟨(blk_cell BK109.out 0).trans rfl,(blk_cell BK109.out 1).trans rfl⟩ (fun hHeld=>?_);clear hK K;refine nm_ ?_;refine pu_ 3 31 rfl rfl HT_ ?_;refine pu_ 4 32 rfl rfl HT_ ?_;refine two_ (i:=5) (j:=6) (Ni:=some 33) (Nj:=some 5) #[true,true,true,true,true,true,false,false] #[true,true,true,true,true,false,true,false] rfl rfl rfl rfl (two_of HT_.out (by kernel_rfl)) (by decide) (by decide) (fun K hK=>?_) (fun K hK=>?_)
       ·skip;refine gn_ Tryz.func69 (r3_Mul.calls _ _ _ _ _ _ _ A15.out) ?_;intro w36 hb;replace BK109:=kb_ BK109 hb;replace HB:=bs_ HB hb;(try clear hb);refine hk_ hK (fun hHeld=>?_);clear hK K;refine nm_ ?_;refine on_ 6 (some 5) rfl rfl HT_ (fun K hK=>?_);refine box_step ?hg (N:=5) ?hd (cs:=#[.string ⟨#[]⟩,.string ⟨#[]⟩]) (t:=23) ?hr ?_;(case hd=>rfl);(case hg=>rfl);(case hr=>first|(go_simp;done)|(go_simp;rfl));intro gb116 hg w37 hbox hb;have BK116:=ak_ (hbox);have GW116:=ge_ HB hg;have GE116:=ge_ HB hg;have NB109_116:=nl_ BK109 hg;have NB116_109:=ng_ BK109 hg;replace BK109:=kb_ BK109 hb;replace HB:=bs_ HB hb;clear hb hbox hg;refine hk_ hK (fun hHeld=>?_);clear hK K;refine nm_ ?_;exact norm_ pa_ (hCont (gb116) _ ⟨hHeld,(k_ BK109.out),(k_ BK116.out),GW116.out,GE116.out,NB109_116.out,NB116_109.out,(b_ HB.out)⟩)
       ·skip;refine box_step ?hg (N:=5) ?hd (cs:=#[.string ⟨#[]⟩,.string ⟨#[]⟩]) (t:=23) ?hr ?_;(case hd=>rfl);(case hg=>rfl);(case hr=>first|(go_simp;done)|(go_simp;rfl));intro gb116 hg w36 hbox hb;have BK116:=ak_ (hbox);have GW116:=ge_ HB hg;have GE116:=ge_ HB hg;have NB109_116:=nl_ BK109 hg;have NB116_109:=ng_ BK109 hg;replace BK109:=kb_ BK109 hb;replace HB:=bs_ HB hb;clear hb hbox hg;refine hk_ hK (fun hHeld=>?_);clear hK K;refine nm_ ?_;refine on_ 5 (some 33) rfl rfl HT_ (fun K hK=>?_);refine gn_ Tryz.func69 (r3_Mul.calls _ _ _ _ _ _ _ A15.out) ?_;intro w37 hb;replace BK109:=kb_ BK109 hb;replace BK116:=kb_ BK116 hb;replace HB:=bs_ HB hb;(try clear hb);refine hk_ hK (fun hHeld=>?_);clear hK K;refine nm_ ?_;exact norm_ pa_ (hCont (gb116) _ ⟨hHeld,(k_ BK109.out),(k_ BK116.out),GW116.out,GE116.out,NB109_116.out,NB116_109.out,(b_ HB.out)⟩)
      ·skip;refine box_step ?hg (N:=5) ?hd (cs:=#[.string ⟨#[]⟩,.string ⟨#[]⟩]) (t:=23) ?hr ?_;(case hd=>rfl);(case hg=>rfl);(case hr=>first|(go_simp;done)|(go_simp;rfl));intro gb116 hg w36 hbox hb;have BK116:=ak_ (hbox);have GW116:=ge_ HB hg;have GE116:=ge_ HB hg;have NB109_116:=nl_ BK109 hg;have NB116_109:=ng_ BK109 hg;replace BK109:=kb_ BK109 hb;replace HB:=bs_ HB hb;clear hb hbox hg;refine hk_ hK (fun hHeld=>?_);clear hK K;refine nm_ ?_;refine on_ 2 (some 30) rfl rfl HT_ (fun K hK=>?_);refine gs_ Tryz.func48 #[.int .i64 t111] ?_
       with_reducible refine(r4_Zeros.calls _ _ _ _ A13.out).mono ?_
       rintro e w' ⟨rfl,⟨nd,rfl⟩⟩;refine⟨_,rfl,?_⟩;refine hK.out _ _ ⟨(blk_cell BK109.out 0).trans rfl,(blk_cell BK109.out 1).trans rfl⟩ (fun hHeld=>?_);clear hK K;refine nm_ ?_;refine pu_ 3 31 rfl rfl HT_ ?_;refine pu_ 4 32 rfl rfl HT_ ?_;refine on_ 5 (some 33) rfl rfl HT_ (fun K hK=>?_);refine gn_ Tryz.func69 (r3_Mul.calls _ _ _ _ _ _ _ A15.out) ?_;intro w37 hb;replace BK109:=kb_ BK109 hb;replace BK116:=kb_ BK116 hb;replace HB:=bs_ HB hb;(try clear hb);refine hk_ hK (fun hHeld=>?_);clear hK K;refine nm_ ?_;exact norm_ pa_ (hCont (gb116) _ ⟨hHeld,(k_ BK109.out),(k_ BK116.out),GW116.out,GE116.out,NB109_116.out,NB116_109.out,(b_ HB.out)⟩)
     rintro gb116 w38 ⟨hS_,h0_,h1_,h2_,h3_,h4_,h5_,h6_⟩;have n0_:Aside0 (w38.heap[gb109]?=some (.cells #[.string a0_0,.string a0_1] 23 (0,0))):=⟨h0_⟩;have n1_:Aside0 (w38.heap[gb116]?=some (.cells #[.string ⟨#[]⟩,.string ⟨#[]⟩] 23 (0,0))):=⟨h1_⟩;have n2_:Aside0 (w.heap.size≤gb116):=⟨h2_⟩;have n3_:Aside0 (w.heap.size≤gb116):=⟨h3_⟩;have n4_:Aside0 (gb109≠gb116):=⟨h4_⟩;have n5_:Aside0 (gb116≠gb109):=⟨h5_⟩;have n6_:Aside0 (Below w.heap.size w w38):=⟨h6_⟩;clear BK109;clear HB;clear h0_ h1_ h2_ h3_ h4_ h5_ h6_;have BK109:=n0_;have BK116:=n1_;have GW116:=n2_;have GE116:=n3_;have NB109_116:=n4_;have NB116_109:=n5_;have HB:=n6_;clear n0_ n1_ n2_ n3_ n4_ n5_ n6_;have hHeld:w38.cell? ⟨gb109,0,none⟩=some (.string a0_0)∧w38.cell? ⟨gb109,1,none⟩=some (.string a0_1):=hS_;refine norm_ (a':=?_) ?_ ?_;rotate_left
     ·simp only[putAll,Act.put,List.setIfInBounds_toArray,List.set_cons_zero,List.set_cons_succ]
      rfl
     refine on_ 7 none rfl rfl HT_ (fun K hK=>?_);have hs39:=bc_ BK116 0 rfl;have hfs39:=blk_frozen BK116.out 0;have hns39_0:=NB109_116.out;have hms39_0:=NB116_109.out;have hs40:=bc_ BK116 1 rfl;have hfs40:=blk_frozen BK116.out 1;have hns40_0:=NB109_116.out;have hms40_0:=NB116_109.out;refine skip_ (w1:=?_) (by rfl) rfl ?_ ?_;rotate_left
     ·go_simp
      rfl
     refine hf_ hK hHeld (fun hHeld=>?_);clear hK K;refine done_ (done_of HT_.out (by kernel_rfl)) ?_;have hnb41:=NB116_109.out;have hnc41:=NB109_116.out;have hz42:=cs2_ BK116
     try go_wp2_with (first|(refine gm_ 36 Tryz.func70 (r2_Abs.calls _ _ _ A16.out) ?_;intro w43 hb;replace BK109:=ak_ (blk_below (g:=gb109) (o:=.cells #[.string a0_0,.string a0_1] 23 (0,0)) (fr_ BK109.out) hb);replace BK116:=ak_ (blk_below (g:=gb116) (o:=.cells #[.string t114,.string t115] 23 (0,0)) (rp_ BK116.out) hb);replace HB:=bs_ HB hb;(try clear hb))|((with_reducible refine gate_callee (f:=48) rfl ?_);refine goesL_ (some 43) rfl rfl Tryz.func48 (by kernel_rfl) rfl #[.int .i64 ji17] rfl (by(try simp only[List.map_toArray,List.map_cons,List.map_nil]);first|done|(simp only[hji17];rfl)|rfl|(simp only[List.length_drop,List.length_take];rfl)) ?_;refine mo_ (r4_Zeros.calls _ _ _ _ A18.out) ?_;rintro w' ⟨nd,rfl⟩;have hz44:=cs2_ BK109)|(refine gm_ 47 Tryz.func56 (r3_Sign.calls _ _ _ _ A20.out) ?_;intro w45 hb;replace BK109:=kb_ BK109 hb;replace BK116:=kb_ BK116 hb;replace HB:=bs_ HB hb;(try clear hb)))
     replace BK109:=ak_ (blk_drew BK109.out);replace BK116:=ak_ (blk_drew BK116.out);replace HB:=ak_ (below_drew1 HB.out);refine start_ (n:=17) (S:=fun w'=>True) (ds:=[]) #[false,false,false,false,false,false,false,false,false,false,false,false,false,false,false,false,false] (by kernel_rfl) rfl rfl trivial (fun hHeld=>?_);refine with_tabW r4_Print.tab14 r4_Print.bits14 (fun HT_ HW_=>?_);generalize w45.drew=w46 at BK109 BK116 HB hHeld ⊢;refine pu_ 0 49 rfl rfl HT_ ?_;refine pu_ 1 50 rfl rfl HT_ ?_;refine pu_ 2 51 rfl rfl HT_ ?_;refine pu_ 3 52 rfl rfl HT_ ?_;refine pu_ 4 53 rfl rfl HT_ ?_;refine pu_ 5 54 rfl rfl HT_ ?_;refine pu_ 6 55 rfl rfl HT_ ?_;refine pu_ 7 56 rfl rfl HT_ ?_;refine pu_ 8 57 rfl rfl HT_ ?_;refine pu_ 9 58 rfl rfl HT_ ?_;refine pu_ 10 59 rfl rfl HT_ ?_;refine pu_ 11 60 rfl rfl HT_ ?_;refine pu_ 12 61 rfl rfl HT_ ?_;refine pu_ 13 62 rfl rfl HT_ ?_;refine pu_ 14 63 rfl rfl HT_ ?_;refine pu_ 15 64 rfl rfl HT_ ?_;refine pu_ 16 2 rfl rfl HT_ ?_;refine done_ (done_of HT_.out (by kernel_rfl)) ?_
     try go_wp2
     go_ret
     exact⟨by first|rfl|(simp[errW_none,errW_some] <;> rfl)|(simp only[← hji17,← hji22];first|rfl|(simp[errW_none,errW_some] <;> rfl))|(simp[*,errW_none,errW_some] <;> rfl),b_ HB.out⟩
    ·have c21b0:=df_ c21;clear c21;obtain⟨ji47,hji47⟩:∃ j_:Int,(wrap64 (((t118++t117).size:Int)-t111))=j_:=⟨_,rfl⟩;(first|rw[hji47] at H|simp only[hji47] at H);(try rw[hji47] at A2);(try rw[hji47] at A4);(try rw[hji47] at A13);(try rw[hji47] at A15);(try rw[hji47] at A16);(try rw[hji47] at A18);(try rw[hji47] at A20);have hji47w:(IntKind.i64.wrap (((t118++t117).size:Int)-t111))=ji47:=(i64_w _).trans hji47;(try(have hji47v:=hji47;simp only[ByteArray.size_append,Int.natCast_add] at hji47v));(try(have hji47u:=hji47w;simp only[ByteArray.size_append,Int.natCast_add] at hji47u));replace H:=bx_ H;obtain⟨c48,H⟩:=H;have c48b0:=eq_true c48;replace c48:=dt_ c48;replace H:=bx_ H;obtain⟨c49,H⟩:=H;have c49b0:=eq_true c49;have c49b1:=dt_ c49;(try(have c49v:=c49;simp only[ByteArray.size_append,Int.natCast_add] at c49v;replace c49v:=eq_true c49v));replace H:=bx_ H;obtain⟨c50,H⟩:=H;have c50b0:=eq_true c50;have c50b1:=dt_ c50;(try have c50v0:(9223372036854775807<0+(ji47).toNat)=False:=sv_ ((ji47)≤((t118++t117).size:Int)) c50);(try have c50v1:(9223372036854775807<(ji47).toNat)=False:=sv_ ((ji47)≤((t118++t117).size:Int)) c50)
     try have c50b2:(9223372036854775807<0+((t118++t117).extract 0 ((ji47):Int).toNat).size)=False:=eq_false (Nat.not_lt.2 c50)
     replace H:=bx_ H;obtain⟨c51,H⟩:=H;have c51b0:=eq_true c51;have c51b1:=dt_ c51;(try have c51v0:(9223372036854775807<0+(ji47).toNat+1)=False:=sv_ ((ji47)≤((t118++t117).size:Int)) c51);(try have c51v1:(9223372036854775807<(ji47).toNat+1)=False:=sv_ ((ji47)≤((t118++t117).size:Int)) c51)
     try have c51b2:(9223372036854775807<((⟨#[]⟩:ByteArray)++((t118++t117).extract 0 ((ji47):Int).toNat)).size+1)=False:=eq_false (Nat.not_lt.2 c51)
     have c52b0:=eq_true (od_ as_f:0≤(ji47));have c53b0:=eq_true (od_ as_f:(ji47)≤((t118++t117).size:Int));replace H:=bx_ H;obtain⟨c54,H⟩:=H;have c54b0:=eq_true c54;have c54b1:=dt_ c54;(try have c54v0:(9223372036854775807<0+(ji47).toNat+1+(t118.size+t117.size-(ji47).toNat))=False:=sv_ ((ji47)≤((t118++t117).size:Int)) c54);(try have c54v1:(9223372036854775807<(ji47).toNat+1+(t118.size+t117.size-(ji47).toNat))=False:=sv_ ((ji47)≤((t118++t117).size:Int)) c54)
     try have c54b2:(9223372036854775807<(((⟨#[]⟩:ByteArray)++((t118++t117).extract 0 ((ji47):Int).toNat))++(⟨#[46]⟩:ByteArray)).size+((t118++t117).extract ((ji47):Int).toNat (t118++t117).size).size)=False:=eq_false (Nat.not_lt.2 c54)
     obtain rfl:=oi_ H;go_in
     try go_wp2_with (first|(refine bf_ 1 #[.string a0_0,.string a0_1] 23 HB ?_;clear HB;intro gb109 w55 BK109 GW109 HB;have hz56:=cs2_ BK109)|(refine gm_ 9 Tryz.func55 (r3_May.calls _ _ _ _ A2.out) ?_;intro w57 hb;replace BK109:=kb_ BK109 hb;replace HB:=bs_ HB hb;(try clear hb);have hz58:=cs2_ BK109)|(refine gm_ 13 Tryz.func68 (r4_Places.calls _ _ _ _ _ _ A4.out) ?_;intro w59 hb;replace BK109:=kb_ BK109 hb;replace HB:=bs_ HB hb;(try clear hb)))
     replace BK109:=ak_ (blk_drew BK109.out);replace HB:=ak_ (below_drew1 HB.out);refine sa_ 8 (fun w'=>w'.cell? ⟨gb109,0,none⟩=some (.string a0_0)∧w'.cell? ⟨gb109,1,none⟩=some (.string a0_1)) (fun hHeld=>?_);refine with_tabW r4_Print.tab8 r4_Print.bits8 (fun HT_ HW_=>?_);generalize w59.drew=w60 at BK109 HB hHeld ⊢;refine pu_ 1 29 rfl rfl HT_ ?_;refine t_ 0 28 rfl rfl HT_ HW_ hHeld ?_;refine join_ (σ:=Nat) 1 #[true,true,true,true,true,true,true,false] (fun s_=>[(30,.string t113),(33,.agg #[.string t114,.string t115]),(5,.pointer (some ⟨s_,0,none⟩)),(31,.string ((⟨#[49]⟩:ByteArray)++t113)),(32,.agg #[.string ((⟨#[49]⟩:ByteArray)++t113),.string ⟨#[49]⟩])]) (fun s_ w'=>(w'.cell? ⟨gb109,0,none⟩=some (.string a0_0)∧w'.cell? ⟨gb109,1,none⟩=some (.string a0_1))∧(w'.heap[gb109]?=some (.cells #[.string a0_0,.string a0_1] 23 (0,0)))∧(w'.heap[s_]?=some (.cells #[.string ⟨#[]⟩,.string ⟨#[]⟩] 23 (0,0)))∧(w.heap.size≤s_)∧(w.heap.size≤s_)∧(gb109≠s_)∧(s_≠gb109)∧(Below w.heap.size w w')) ?_ ?_;rotate_left
     ·intro hCont;refine two_ (i:=2) (j:=6) (Ni:=some 30) (Nj:=some 5) #[true,true,true,false,false,false,false,false] #[true,true,false,false,false,false,true,false] rfl rfl rfl rfl (two_of HT_.out (by kernel_rfl)) (by decide) (by decide) (fun K hK=>?_) (fun K hK=>?_)
      ·skip;refine gs_ Tryz.func48 #[.int .i64 t111] ?_
       with_reducible refine(r4_Zeros.calls _ _ _ _ A13.out).mono ?_
       rintro e w' ⟨rfl,⟨nd,rfl⟩⟩;refine⟨_,rfl,?_⟩;refine hK.out _ _ ⟨(blk_cell BK109.out 0).trans rfl,(blk_cell BK109.out 1).trans rfl⟩ (fun hHeld=>?_);clear hK K;refine nm_ ?_;refine pu_ 3 31 rfl rfl HT_ ?_;refine pu_ 4 32 rfl rfl HT_ ?_;refine two_ (i:=5) (j:=6) (Ni:=some 33) (Nj:=some 5) #[true,true,true,true,true,true,false,false] #[true,true,true,true,true,false,true,false] rfl rfl rfl rfl (two_of HT_.out (by kernel_rfl)) (by decide) (by decide) (fun K hK=>?_) (fun K hK=>?_)
       ·skip;refine gn_ Tryz.func69 (r3_Mul.calls _ _ _ _ _ _ _ A15.out) ?_;intro w61 hb;replace BK109:=kb_ BK109 hb;replace HB:=bs_ HB hb;(try clear hb);refine hk_ hK (fun hHeld=>?_);clear hK K;refine nm_ ?_;refine on_ 6 (some 5) rfl rfl HT_ (fun K hK=>?_);refine box_step ?hg (N:=5) ?hd (cs:=#[.string ⟨#[]⟩,.string ⟨#[]⟩]) (t:=23) ?hr ?_;(case hd=>rfl);(case hg=>rfl);(case hr=>first|(go_simp;done)|(go_simp;rfl));intro gb116 hg w62 hbox hb;have BK116:=ak_ (hbox);have GW116:=ge_ HB hg;have GE116:=ge_ HB hg;have NB109_116:=nl_ BK109 hg;have NB116_109:=ng_ BK109 hg;replace BK109:=kb_ BK109 hb;replace HB:=bs_ HB hb;clear hb hbox hg;refine hk_ hK (fun hHeld=>?_);clear hK K;refine nm_ ?_;exact norm_ pa_ (hCont (gb116) _ ⟨hHeld,(k_ BK109.out),(k_ BK116.out),GW116.out,GE116.out,NB109_116.out,NB116_109.out,(b_ HB.out)⟩)
       ·skip;refine box_step ?hg (N:=5) ?hd (cs:=#[.string ⟨#[]⟩,.string ⟨#[]⟩]) (t:=23) ?hr ?_;(case hd=>rfl);(case hg=>rfl);(case hr=>first|(go_simp;done)|(go_simp;rfl));intro gb116 hg w61 hbox hb;have BK116:=ak_ (hbox);have GW116:=ge_ HB hg;have GE116:=ge_ HB hg;have NB109_116:=nl_ BK109 hg;have NB116_109:=ng_ BK109 hg;replace BK109:=kb_ BK109 hb;replace HB:=bs_ HB hb;clear hb hbox hg;refine hk_ hK (fun hHeld=>?_);clear hK K;refine nm_ ?_;refine on_ 5 (some 33) rfl rfl HT_ (fun K hK=>?_);refine gn_ Tryz.func69 (r3_Mul.calls _ _ _ _ _ _ _ A15.out) ?_;intro w62 hb;replace BK109:=kb_ BK109 hb;replace BK116:=kb_ BK116 hb;replace HB:=bs_ HB hb;(try clear hb);refine hk_ hK (fun hHeld=>?_);clear hK K;refine nm_ ?_;exact norm_ pa_ (hCont (gb116) _ ⟨hHeld,(k_ BK109.out),(k_ BK116.out),GW116.out,GE116.out,NB109_116.out,NB116_109.out,(b_ HB.out)⟩)
      ·skip;refine box_step ?hg (N:=5) ?hd (cs:=#[.string ⟨#[]⟩,.string ⟨#[]⟩]) (t:=23) ?hr ?_;(case hd=>rfl);(case hg=>rfl);(case hr=>first|(go_simp;done)|(go_simp;rfl));intro gb116 hg w61 hbox hb;have BK116:=ak_ (hbox);have GW116:=ge_ HB hg;have GE116:=ge_ HB hg;have NB109_116:=nl_ BK109 hg;have NB116_109:=ng_ BK109 hg;replace BK109:=kb_ BK109 hb;replace HB:=bs_ HB hb;clear hb hbox hg;refine hk_ hK (fun hHeld=>?_);clear hK K;refine nm_ ?_;refine on_ 2 (some 30) rfl rfl HT_ (fun K hK=>?_);refine gs_ Tryz.func48 #[.int .i64 t111] ?_
       with_reducible refine(r4_Zeros.calls _ _ _ _ A13.out).mono ?_
       rintro e w' ⟨rfl,⟨nd,rfl⟩⟩;refine⟨_,rfl,?_⟩;refine hK.out _ _ ⟨(blk_cell BK109.out 0).trans rfl,(blk_cell BK109.out 1).trans rfl⟩ (fun hHeld=>?_);clear hK K;refine nm_ ?_;refine pu_ 3 31 rfl rfl HT_ ?_;refine pu_ 4 32 rfl rfl HT_ ?_;refine on_ 5 (some 33) rfl rfl HT_ (fun K hK=>?_);refine gn_ Tryz.func69 (r3_Mul.calls _ _ _ _ _ _ _ A15.out) ?_;intro w62 hb;replace BK109:=kb_ BK109 hb;replace BK116:=kb_ BK116 hb;replace HB:=bs_ HB hb;(try clear hb);refine hk_ hK (fun hHeld=>?_);clear hK K;refine nm_ ?_;exact norm_ pa_ (hCont (gb116) _ ⟨hHeld,(k_ BK109.out),(k_ BK116.out),GW116.out,GE116.out,NB109_116.out,NB116_109.out,(b_ HB.out)⟩)
     rintro gb116 w63 ⟨hS_,h0_,h1_,h2_,h3_,h4_,h5_,h6_⟩;have n0_:Aside0 (w63.heap[gb109]?=some (.cells #[.string a0_0,.string a0_1] 23 (0,0))):=⟨h0_⟩;have n1_:Aside0 (w63.heap[gb116]?=some (.cells #[.string ⟨#[]⟩,.string ⟨#[]⟩] 23 (0,0))):=⟨h1_⟩;have n2_:Aside0 (w.heap.size≤gb116):=⟨h2_⟩;have n3_:Aside0 (w.heap.size≤gb116):=⟨h3_⟩;have n4_:Aside0 (gb109≠gb116):=⟨h4_⟩;have n5_:Aside0 (gb116≠gb109):=⟨h5_⟩;have n6_:Aside0 (Below w.heap.size w w63):=⟨h6_⟩;clear BK109;clear HB;clear h0_ h1_ h2_ h3_ h4_ h5_ h6_;have BK109:=n0_;have BK116:=n1_;have GW116:=n2_;have GE116:=n3_;have NB109_116:=n4_;have NB116_109:=n5_;have HB:=n6_;clear n0_ n1_ n2_ n3_ n4_ n5_ n6_;have hHeld:w63.cell? ⟨gb109,0,none⟩=some (.string a0_0)∧w63.cell? ⟨gb109,1,none⟩=some (.string a0_1):=hS_;refine norm_ (a':=?_) ?_ ?_;rotate_left
     ·simp only[putAll,Act.put,List.setIfInBounds_toArray,List.set_cons_zero,List.set_cons_succ]
      rfl
     refine on_ 7 none rfl rfl HT_ (fun K hK=>?_);have hs64:=bc_ BK116 0 rfl;have hfs64:=blk_frozen BK116.out 0;have hns64_0:=NB109_116.out;have hms64_0:=NB116_109.out;have hs65:=bc_ BK116 1 rfl;have hfs65:=blk_frozen BK116.out 1;have hns65_0:=NB109_116.out;have hms65_0:=NB116_109.out;refine skip_ (w1:=?_) (by rfl) rfl ?_ ?_;rotate_left
     ·go_simp
      rfl
     refine hf_ hK hHeld (fun hHeld=>?_);clear hK K;refine done_ (done_of HT_.out (by kernel_rfl)) ?_;have hnb66:=NB116_109.out;have hnc66:=NB109_116.out;have hz67:=cs2_ BK116
     try go_wp2_with (first|(refine gm_ 36 Tryz.func70 (r2_Abs.calls _ _ _ A16.out) ?_;intro w68 hb;replace BK109:=ak_ (blk_below (g:=gb109) (o:=.cells #[.string a0_0,.string a0_1] 23 (0,0)) (fr_ BK109.out) hb);replace BK116:=ak_ (blk_below (g:=gb116) (o:=.cells #[.string t114,.string t115] 23 (0,0)) (rp_ BK116.out) hb);replace HB:=bs_ HB hb;(try clear hb))|((with_reducible refine gate_callee (f:=48) rfl ?_);refine goesL_ (some 43) rfl rfl Tryz.func48 (by kernel_rfl) rfl #[.int .i64 ji17] rfl (by(try simp only[List.map_toArray,List.map_cons,List.map_nil]);first|done|(simp only[hji17];rfl)|rfl|(simp only[List.length_drop,List.length_take];rfl)) ?_;refine mo_ (r4_Zeros.calls _ _ _ _ A18.out) ?_;rintro w' ⟨nd,rfl⟩;have hz69:=cs2_ BK109)|(refine gm_ 47 Tryz.func56 (r3_Sign.calls _ _ _ _ A20.out) ?_;intro w70 hb;replace BK109:=kb_ BK109 hb;replace BK116:=kb_ BK116 hb;replace HB:=bs_ HB hb;(try clear hb)))
     replace BK109:=ak_ (blk_drew BK109.out);replace BK116:=ak_ (blk_drew BK116.out);replace HB:=ak_ (below_drew1 HB.out);refine start_ (n:=17) (S:=fun w'=>True) (ds:=[]) #[false,false,false,false,false,false,false,false,false,false,false,false,false,false,false,false,false] (by kernel_rfl) rfl rfl trivial (fun hHeld=>?_);refine with_tabW r4_Print.tab14 r4_Print.bits14 (fun HT_ HW_=>?_);generalize w70.drew=w71 at BK109 BK116 HB hHeld ⊢;refine pu_ 0 49 rfl rfl HT_ ?_;refine pu_ 1 50 rfl rfl HT_ ?_;refine pu_ 2 51 rfl rfl HT_ ?_;refine pu_ 3 52 rfl rfl HT_ ?_;refine pu_ 4 53 rfl rfl HT_ ?_;refine pu_ 5 54 rfl rfl HT_ ?_;refine pu_ 6 55 rfl rfl HT_ ?_;refine pu_ 7 56 rfl rfl HT_ ?_;refine pu_ 8 57 rfl rfl HT_ ?_;refine pu_ 9 58 rfl rfl HT_ ?_;refine pu_ 10 59 rfl rfl HT_ ?_;refine pu_ 11 60 rfl rfl HT_ ?_;refine pu_ 12 61 rfl rfl HT_ ?_;refine pu_ 13 62 rfl rfl HT_ ?_;refine pu_ 14 63 rfl rfl HT_ ?_;refine pu_ 15 64 rfl rfl HT_ ?_;refine pu_ 16 2 rfl rfl HT_ ?_;refine done_ (done_of HT_.out (by kernel_rfl)) ?_
     try go_wp2
     go_ret
     exact⟨by first|rfl|(simp[errW_none,errW_some] <;> rfl)|(simp only[← hji17,← hji47];first|rfl|(simp[errW_none,errW_some] <;> rfl))|(simp[*,errW_none,errW_some] <;> rfl),b_ HB.out⟩
  ·replace H:=bx_ H;obtain⟨c72,H⟩:=H;have c72b0:=eq_true c72;have c72b1:=dt_ c72
   try have c72b2:(9223372036854775807<a0_0.size+1)=False:=eq_false (Nat.not_lt.2 c72)
   replace H:=bx_ H;obtain⟨c73,H⟩:=H;have c73b0:=eq_true c73;have c73b1:=dt_ c73;(try have c73v:(9223372036854775807<a0_0.size+1+a0_1.size)=False:=eq_false (by have h_:=c73;simp only[ByteArray.size_append,ByteArray.size_mk',List.size_toArray,List.length_cons,List.length_nil] at h_;omega))
   try have c73b2:(9223372036854775807<(a0_0++(⟨#[47]⟩:ByteArray)).size+a0_1.size)=False:=eq_false (Nat.not_lt.2 c73)
   obtain rfl:=oi_ H;go_in
   go_wp2_with (first|(refine bf_ 1 #[.string a0_0,.string a0_1] 23 HB ?_;clear HB;intro gb109 w74 BK109 GW109 HB;have hz75:=cs2_ BK109)|(refine gm_ 9 Tryz.func55 (r3_May.calls _ _ _ _ A2.out) ?_;intro w76 hb;replace BK109:=kb_ BK109 hb;replace HB:=bs_ HB hb;(try clear hb);have hz77:=cs2_ BK109)|(refine gm_ 13 Tryz.func68 (r4_Places.calls _ _ _ _ _ _ A4.out) ?_;intro w78 hb;replace BK109:=kb_ BK109 hb;replace HB:=bs_ HB hb;(try clear hb);have hz79:=cs2_ BK109))
   go_ret
   exact⟨er_,b_ HB.out⟩
 ·obtain rfl:=oi_ H;go_in
  go_wp2_with (first|(refine bf_ 1 #[.string a0_0,.string a0_1] 23 HB ?_;clear HB;intro gb109 w80 BK109 GW109 HB;have hz81:=cs2_ BK109)|(refine gm_ 9 Tryz.func55 (r3_May.calls _ _ _ _ A2.out) ?_;intro w82 hb;replace BK109:=kb_ BK109 hb;replace HB:=bs_ HB hb;(try clear hb)))
  go_ret
  exact⟨er_,b_ HB.out⟩
def r4_digits.l0:Nat→ByteArray→Int→Option (Bool)
 | 0,_,_=>none
 | k+1,x0,x3=>if x3<(x0.size:Int) then (if 0≤x3 then (if (bt x0 x3)<48 then (some false) else (if (bt x0 x3)>57 then (some false) else (r4_digits.l0 k x0 (wrap64 (x3+1))))) else (none)) else (some (decide ((x0.size:Int)>0)))
def r4_digits.f (k:Nat) (a0:ByteArray):Option (Bool):=r4_digits.l0 k a0 0
theorem r4_digits.calls (k:Nat) (a0:ByteArray) (r:Bool) (w:World) (h:r4_digits.f k a0=some r) :
  Calls Tryz.prog 47 #[.string a0] w fun e w'=>e=.returned (.bool r)∧Drawn0 w w':=by
 have H:=h;unfold r4_digits.f at H;clear h;have H':=ak_ H;clear H;go_in;go_wp2
 go_loopg [3] k (fun kq v3 w'=>∃ (x3_1:Int),v3=.int .i64 x3_1∧Aside0 (r4_digits.l0 kq a0 x3_1=some r)∧Aside0 (kq≤k)∧Drawn0 w w')
 case atStart=>exact⟨(0),rl_,H',⟨nr_ _⟩,d0_⟩
 case round =>
  clear H';obtain⟨x3_1,rfl,HA,HK1,⟨m1,rfl⟩⟩:=hrel
  cases gk with
  | zero=>exact absurd HA.out (by simp[r4_digits.l0])
  | succ k1 =>
   have H:=HA.out;clear HA;simp only[r4_digits.l0] at H;replace H:=bw_ H;rcases H with ⟨c2,H⟩|⟨c2,H⟩
   ·have c2b0:=dt_ c2;clear c2;replace H:=bx_ H;obtain⟨c3,H⟩:=H;replace c3:=dt_ c3;replace H:=bw_ H;rcases H with ⟨c5,H⟩|⟨c5,H⟩
    ·have c5b0:=dt_ c5;clear c5;obtain rfl:=oi_ H;have p4:0≤(x3_1:Int):=od_ as_f;have q4:x3_1<(a0.size:Int):=od_ as_f;have hx4:=bt_at a0 x3_1;replace p4:=eq_true p4;replace q4:=eq_true q4;go_wp2
     go_ret
     exact⟨rl_,d0_⟩
    ·have c5b0:=df_ c5;clear c5;replace H:=bw_ H;rcases H with ⟨c7,H⟩|⟨c7,H⟩
     ·have c7b0:decide (57<(bt a0 x3_1))=true:=decide_eq_true c7;clear c7;obtain rfl:=oi_ H;have p4:0≤(x3_1:Int):=od_ as_f;have q4:x3_1<(a0.size:Int):=od_ as_f;have hx4:=bt_at a0 x3_1;replace p4:=eq_true p4;replace q4:=eq_true q4;have p6:0≤(x3_1:Int):=od_ as_f;have q6:x3_1<(a0.size:Int):=od_ as_f;have hx6:=bt_at a0 x3_1;replace p6:=eq_true p6;replace q6:=eq_true q6;go_wp2
      go_ret
      exact⟨rl_,d0_⟩
     ·have c7b0:decide (57<(bt a0 x3_1))=false:=decide_eq_false c7;clear c7;have H':=ak_ H;clear H;have p4:0≤(x3_1:Int):=od_ as_f;have q4:x3_1<(a0.size:Int):=od_ as_f;have hx4:=bt_at a0 x3_1;replace p4:=eq_true p4;replace q4:=eq_true q4;have p6:0≤(x3_1:Int):=od_ as_f;have q6:x3_1<(a0.size:Int):=od_ as_f;have hx6:=bt_at a0 x3_1;replace p6:=eq_true p6;replace q6:=eq_true q6;go_wp2
      go_roundg k1
      case measure=>have:=HK1.out;omega
      case rel=>exact⟨(wrap64 (x3_1+1)),rl_,H',⟨by have:=HK1.out;omega⟩,d0_⟩
   ·have c2b0:=df_ c2;clear c2;obtain rfl:=oi_ H;go_wp2
    go_ret
    exact⟨rl_,d0_⟩
def r4_plain.l0:Nat→ByteArray→Int→Option (ByteArray)
 | 0,_,_=>none
 | k+1,x0,x3=>if (wrap64 (x3+1))<(x0.size:Int) then (if 0≤x3 then (if x3<(x0.size:Int) then (if (bt x0 x3)=48 then (r4_plain.l0 k x0 (wrap64 (x3+1))) else (if x3≤(x0.size:Int) then (some (x0.extract (x3:Int).toNat x0.size)) else (none))) else (none)) else (none)) else (if 0≤x3 then (if x3≤(x0.size:Int) then (some (x0.extract (x3:Int).toNat x0.size)) else (none)) else (none))
def r4_plain.f (k:Nat) (a0:ByteArray):Option (ByteArray):=r4_plain.l0 k a0 0
theorem r4_plain.calls (k:Nat) (a0 r:ByteArray) (w:World) (h:r4_plain.f k a0=some r) :
  Calls Tryz.prog 49 #[.string a0] w fun e w'=>e=.returned (.string r)∧Drawn0 w w':=by
 have H:=h;unfold r4_plain.f at H;clear h;have H':=ak_ H;clear H;go_in;go_wp2
 go_loopg [3] k (fun kq v3 w'=>∃ (x3_1:Int),v3=.int .i64 x3_1∧Aside0 (r4_plain.l0 kq a0 x3_1=some r)∧Aside0 (kq≤k)∧Drawn0 w w')
 case atStart=>exact⟨(0),rl_,H',⟨nr_ _⟩,d0_⟩
 case round =>
  clear H';obtain⟨x3_1,rfl,HA,HK1,⟨m1,rfl⟩⟩:=hrel
  cases gk with
  | zero=>exact absurd HA.out (by simp[r4_plain.l0])
  | succ k1 =>
   have H:=HA.out;clear HA;simp only[r4_plain.l0] at H;replace H:=bw_ H;rcases H with ⟨c2,H⟩|⟨c2,H⟩
   ·have c2b0:=dt_ c2
    have c2b0w:decide ((IntKind.i64.wrap (x3_1+1))<(a0.size:Int))=true:=by simp only[i64_w];exact c2b0
    clear c2;replace H:=bx_ H;obtain⟨c3,H⟩:=H;replace c3:=dt_ c3;replace H:=bx_ H;obtain⟨c4,H⟩:=H;replace c4:=dt_ c4;replace H:=bw_ H;rcases H with ⟨c6,H⟩|⟨c6,H⟩
    ·have c6b0:((bt a0 x3_1) == 48)=true:=beq_iff_eq.mpr c6;have c6b1:((bt a0 x3_1) != 48)=false:=bne_eq_false_iff_eq.mpr c6;clear c6;have H':=ak_ H;clear H;have p5:0≤(x3_1:Int):=od_ as_f;have q5:x3_1<(a0.size:Int):=od_ as_f;have hx5:=bt_at a0 x3_1;replace p5:=eq_true p5;replace q5:=eq_true q5;go_wp2
     go_roundg k1
     case measure=>have:=HK1.out;omega
     case rel=>exact⟨(wrap64 (x3_1+1)),rl_,H',⟨by have:=HK1.out;omega⟩,d0_⟩
    ·have c6b0:((bt a0 x3_1) == 48)=false:=beq_eq_false_iff_ne.mpr c6;have c6b1:((bt a0 x3_1) != 48)=true:=bne_iff_ne.mpr c6;have c7b0:=eq_true (od_ as_f:0≤x3_1);replace H:=bx_ H;obtain⟨c8,H⟩:=H;have c8b0:=eq_true c8;replace c8:=dt_ c8;obtain rfl:=oi_ H;have p5:0≤(x3_1:Int):=od_ as_f;have q5:x3_1<(a0.size:Int):=od_ as_f;have hx5:=bt_at a0 x3_1;replace p5:=eq_true p5;replace q5:=eq_true q5;go_wp2
     go_ret
     exact⟨rl_,d0_⟩
   ·have c2b0:=df_ c2
    have c2b0w:decide ((IntKind.i64.wrap (x3_1+1))<(a0.size:Int))=false:=by simp only[i64_w];exact c2b0
    clear c2;replace H:=bx_ H;obtain⟨c9,H⟩:=H;have c9b0:=eq_true c9;replace c9:=dt_ c9;replace H:=bx_ H;obtain⟨c10,H⟩:=H;have c10b0:=eq_true c10;replace c10:=dt_ c10;obtain rfl:=oi_ H;go_wp2
    go_ret
    exact⟨rl_,d0_⟩
def r4_find.l0:Nat→ByteArray→Int→Int→Option (Int)
 | 0,_,_,_=>none
 | k+1,x0,x1,x5=>if x5<(x0.size:Int) then (if 0≤x5 then (if (bt x0 x5)=x1 then (some x5) else (r4_find.l0 k x0 x1 (wrap64 (x5+1)))) else (none)) else (some (-1))
def r4_find.f (k:Nat) (a0:ByteArray) (a1:Int):Option (Int):=r4_find.l0 k a0 a1 0
theorem r4_find.calls (k:Nat) (a0:ByteArray) (a1 r:Int) (w:World) (h:r4_find.f k a0 a1=some r) :
  Calls Tryz.prog 46 #[.string a0,.int .u8 a1] w fun e w'=>e=.returned (.int .i64 r)∧Drawn0 w w':=by
 have H:=h;unfold r4_find.f at H;clear h;have H':=ak_ H;clear H;go_in;go_wp2
 go_loopg [5] k (fun kq v5 w'=>∃ (x5_1:Int),v5=.int .i64 x5_1∧Aside0 (r4_find.l0 kq a0 a1 x5_1=some r)∧Aside0 (kq≤k)∧Drawn0 w w')
 case atStart=>exact⟨(0),rl_,H',⟨nr_ _⟩,d0_⟩
 case round =>
  clear H';obtain⟨x5_1,rfl,HA,HK1,⟨m1,rfl⟩⟩:=hrel
  cases gk with
  | zero=>exact absurd HA.out (by simp[r4_find.l0])
  | succ k1 =>
   have H:=HA.out;clear HA;simp only[r4_find.l0] at H;replace H:=bw_ H;rcases H with ⟨c3,H⟩|⟨c3,H⟩
   ·have c3b0:=dt_ c3;clear c3;replace H:=bx_ H;obtain⟨c4,H⟩:=H;replace c4:=dt_ c4;replace H:=bw_ H;rcases H with ⟨c6,H⟩|⟨c6,H⟩
    ·have c6b0:((bt a0 x5_1) == a1)=true:=beq_iff_eq.mpr c6;have c6b1:((bt a0 x5_1) != a1)=false:=bne_eq_false_iff_eq.mpr c6;clear c6;obtain rfl:=oi_ H;have p5:0≤(x5_1:Int):=od_ as_f;have q5:x5_1<(a0.size:Int):=od_ as_f;have hx5:=bt_at a0 x5_1;replace p5:=eq_true p5;replace q5:=eq_true q5;go_wp2
     go_ret
     exact⟨rl_,d0_⟩
    ·have c6b0:((bt a0 x5_1) == a1)=false:=beq_eq_false_iff_ne.mpr c6;have c6b1:((bt a0 x5_1) != a1)=true:=bne_iff_ne.mpr c6;have H':=ak_ H;clear H;have p5:0≤(x5_1:Int):=od_ as_f;have q5:x5_1<(a0.size:Int):=od_ as_f;have hx5:=bt_at a0 x5_1;replace p5:=eq_true p5;replace q5:=eq_true q5;go_wp2
     go_roundg k1
     case measure=>have:=HK1.out;omega
     case rel=>exact⟨(wrap64 (x5_1+1)),rl_,H',⟨by have:=HK1.out;omega⟩,d0_⟩
   ·have c3b0:=df_ c3;clear c3;obtain rfl:=oi_ H;go_wp2
    go_ret
    exact⟨rl_,d0_⟩
mutual
def r4_Parse.j0:Nat→ByteArray→ByteArray→Bool→ByteArray→ByteArray→Option (ByteArray×ByteArray×Int)
 | 0,_,_,_,_,_=>none
 | k+1,x0,x5,x6,x122000,x122001=>if x6=true then (if 1≤(x0.size:Int) then (r4_Parse.j1 k (x0.extract 1 x0.size) x6 x122000 x122001) else (none)) else (r4_Parse.j1 k x5 x6 x122000 x122001)
def r4_Parse.j1:Nat→ByteArray→Bool→ByteArray→ByteArray→Option (ByteArray×ByteArray×Int)
 | 0,_,_,_,_=>none
 | k+1,x5,x6,x122000,x122001=>(r4_find.f k x5 47).bind fun t122=>((r4_find.f k x5 46).bind fun t123=>(if t122≥0 then (if 0≤t122 then (if t122≤(x5.size:Int) then (if 0≤(wrap64 (t122+1)) then (if (wrap64 (t122+1))≤(x5.size:Int) then (r4_Parse.j2 k x6 (x5.extract 0 (t122:Int).toNat) (x5.extract ((wrap64 (t122+1)):Int).toNat x5.size) x122000 x122001) else (none)) else (none)) else (none)) else (none)) else (if t123≥0 then (if 0≤t123 then (if t123≤(x5.size:Int) then ((r4_digits.f k (x5.extract 0 (t123:Int).toNat)).bind fun t124=>(if t124=true then (if 0≤(wrap64 (t123+1)) then (if (wrap64 (t123+1))≤(x5.size:Int) then ((r4_digits.f k (x5.extract ((wrap64 (t123+1)):Int).toNat x5.size)).bind fun t125=>(if t125=true then (if (x5.extract 0 (t123:Int).toNat).size+(x5.extract ((wrap64 (t123+1)):Int).toNat x5.size).size≤9223372036854775807 then ((r4_Zeros.f k (wrap64 ((wrap64 ((x5.size:Int)-t123))-1))).bind fun t126=>(if 1+t126.size≤9223372036854775807 then (r4_Parse.j2 k x6 ((x5.extract 0 (t123:Int).toNat)++(x5.extract ((wrap64 (t123+1)):Int).toNat x5.size)) ((⟨#[49]⟩:ByteArray)++t126) x122000 x122001) else (none))) else (none)) else (some (x122000,x122001,40)))) else (none)) else (none)) else (some (x122000,x122001,40)))) else (none)) else (none)) else (r4_Parse.j2 k x6 x5 (⟨#[49]⟩:ByteArray) x122000 x122001))))
def r4_Parse.j2:Nat→Bool→ByteArray→ByteArray→ByteArray→ByteArray→Option (ByteArray×ByteArray×Int)
 | 0,_,_,_,_,_=>none
 | k+1,x6,x7,x8,x122000,x122001=>(r4_digits.f k x7).bind fun t127=>(if t127=true then ((r4_digits.f k x8).bind fun t128=>(r4_Parse.j3 k x6 x7 x8 (!t128) x122000 x122001)) else (r4_Parse.j3 k x6 x7 x8 true x122000 x122001))
def r4_Parse.j3:Nat→Bool→ByteArray→ByteArray→Bool→ByteArray→ByteArray→Option (ByteArray×ByteArray×Int)
 | 0,_,_,_,_,_,_=>none
 | k+1,x6,x7,x8,x82,x122000,x122001=>if x82=true then (some (x122000,x122001,40)) else ((r4_plain.f k x7).bind fun t129=>(if x6=true then ((r2_Neg.f t129).bind fun t130=>(r4_Parse.j4 k t130 x8 x122000 x122001)) else (r4_Parse.j4 k t129 x8 x122000 x122001)))
def r4_Parse.j4:Nat→ByteArray→ByteArray→ByteArray→ByteArray→Option (ByteArray×ByteArray×Int)
 | 0,_,_,_,_=>none
 | k+1,x7,x8,x122000,x122001=>(r4_plain.f k x8).bind fun t131=>((r3_Make.f x7 t131).bind fun bt132=>(if bt132.2.2=true then (some (bt132.1,bt132.2.1,0)) else (some (x122000,x122001,40))))
end
def r4_Parse.f (k:Nat) (a0:ByteArray):Option (ByteArray×ByteArray×Int):=if (a0.size:Int)>1000 then (some ((⟨#[]⟩:ByteArray),(⟨#[]⟩:ByteArray),40)) else (if (a0.size:Int)>0 then (if 0<(a0.size:Int) then (r4_Parse.j0 k a0 a0 ((bt a0 0) == 45) (⟨#[]⟩:ByteArray) (⟨#[]⟩:ByteArray)) else (none)) else (r4_Parse.j0 k a0 a0 false (⟨#[]⟩:ByteArray) (⟨#[]⟩:ByteArray)))
theorem r4_Parse.calls (k:Nat) (a0 r1 r2:ByteArray) (r3:Int) (w:World) (h:r4_Parse.f k a0=some (r1,r2,r3)) :
  Calls Tryz.prog 26 #[.string a0] w fun e w'=>e=.returned (.tuple #[.agg #[.string r1,.string r2],.int .i64 r3])∧Below w.heap.size w w':=by
 have hu23:=Tryz.underlying23;have HB:=ak_ (Below.refl w.heap.size w);have H:=h;unfold r4_Parse.f at H;clear h;replace H:=bw_ H;rcases H with ⟨c2,H⟩|⟨c2,H⟩
 ·have c2b0:decide (1000<(a0.size:Int))=true:=decide_eq_true c2;have c2b1:decide (1000<a0.size)=true:=decide_eq_true (by omega);clear c2;replace H:=pi3_ H;obtain⟨rfl,rfl,rfl⟩:=H;go_in
  go_wp2_with (first|(refine bf_ 2 #[.string ⟨#[]⟩,.string ⟨#[]⟩] 23 HB ?_;clear HB;intro gb120 w3 BK120 GW120 HB)|(refine bg_ 4 #[.string ⟨#[]⟩,.string ⟨#[]⟩] 23 HB ?_;clear HB;intro gb121 w4 hg hb BK121 GW121 HB;have NB120_121:=nl_ BK120 hg;have NB121_120:=ng_ BK120 hg;replace BK120:=kb_ BK120 hb;clear hb hg;have hnb5:=NB121_120.out;have hnc5:=NB120_121.out;have hz6121:=cs2_ BK121;have hz7120:=cs2_ BK120))
  repeat(go_quiet (first|(refine bf_ 2 #[.string ⟨#[]⟩,.string ⟨#[]⟩] 23 HB ?_;clear HB;intro gb120 w3 BK120 GW120 HB)|(refine bg_ 4 #[.string ⟨#[]⟩,.string ⟨#[]⟩] 23 HB ?_;clear HB;intro gb121 w4 hg hb BK121 GW121 HB;have NB120_121:=nl_ BK120 hg;have NB121_120:=ng_ BK120 hg;replace BK120:=kb_ BK120 hb;clear hb hg;have hnb5:=NB121_120.out;have hnc5:=NB120_121.out;have hz6121:=cs2_ BK121;have hz7120:=cs2_ BK120));try go_wp2_with (first|(refine bf_ 2 #[.string ⟨#[]⟩,.string ⟨#[]⟩] 23 HB ?_;clear HB;intro gb120 w3 BK120 GW120 HB)|(refine bg_ 4 #[.string ⟨#[]⟩,.string ⟨#[]⟩] 23 HB ?_;clear HB;intro gb121 w4 hg hb BK121 GW121 HB;have NB120_121:=nl_ BK120 hg;have NB121_120:=ng_ BK120 hg;replace BK120:=kb_ BK120 hb;clear hb hg;have hnb5:=NB121_120.out;have hnc5:=NB120_121.out;have hz6121:=cs2_ BK121;have hz7120:=cs2_ BK120)))
  refine bodyPost_ret (results_ct rfl _ _ gb120 23 #[.string ⟨#[]⟩,.string ⟨#[]⟩] (0,0) _ rfl (by refine k_ ?_;refine blk_put (cs:=#[.string ⟨#[]⟩,.string ⟨#[]⟩]) ?_ 1 _ rfl;refine k_ ?_;refine blk_put (cs:=#[.string ⟨#[]⟩,.string ⟨#[]⟩]) ?_ 0 _ rfl;refine k_ ?_;refine blk_far ?_ NB120_121.out _;refine k_ ?_;refine blk_far ?_ NB120_121.out _;refine k_ ?_;exact BK120.out) Tryz.underlying23 rfl (by kernel_rfl)) rfl ?_;exact⟨er_,b_ HB.out⟩
 ·have c2b0:decide (1000<(a0.size:Int))=false:=decide_eq_false c2;have c2b1:decide (1000<a0.size)=false:=decide_eq_false (by omega);clear c2;have HC8:=ak_ H;clear H;go_in
  go_upto_region 5 with (first|(refine bf_ 2 #[.string ⟨#[]⟩,.string ⟨#[]⟩] 23 HB ?_;clear HB;intro gb120 w9 BK120 GW120 HB)|(refine bg_ 4 #[.string ⟨#[]⟩,.string ⟨#[]⟩] 23 HB ?_;clear HB;intro gb121 w10 hg hb BK121 GW121 HB;have NB120_121:=nl_ BK120 hg;have NB121_120:=ng_ BK120 hg;replace BK120:=kb_ BK120 hb;clear hb hg;have hnb11:=NB121_120.out;have hnc11:=NB120_121.out;have hz12:=cs2_ BK121))
  repeat(go_quiet (first|(refine bf_ 2 #[.string ⟨#[]⟩,.string ⟨#[]⟩] 23 HB ?_;clear HB;intro gb120 w9 BK120 GW120 HB)|(refine bg_ 4 #[.string ⟨#[]⟩,.string ⟨#[]⟩] 23 HB ?_;clear HB;intro gb121 w10 hg hb BK121 GW121 HB;have NB120_121:=nl_ BK120 hg;have NB121_120:=ng_ BK120 hg;replace BK120:=kb_ BK120 hb;clear hb hg;have hnb11:=NB121_120.out;have hnc11:=NB120_121.out;have hz12:=cs2_ BK121));go_upto_region 5 with (first|(refine bf_ 2 #[.string ⟨#[]⟩,.string ⟨#[]⟩] 23 HB ?_;clear HB;intro gb120 w9 BK120 GW120 HB)|(refine bg_ 4 #[.string ⟨#[]⟩,.string ⟨#[]⟩] 23 HB ?_;clear HB;intro gb121 w10 hg hb BK121 GW121 HB;have NB120_121:=nl_ BK120 hg;have NB121_120:=ng_ BK120 hg;replace BK120:=kb_ BK120 hb;clear hb hg;have hnb11:=NB121_120.out;have hnc11:=NB120_121.out;have hz12:=cs2_ BK121)))
  (try simp only[Act.put,List.setIfInBounds_toArray,List.set_cons_zero,List.set_cons_succ])
  go_cut [6] (fun v6 wc=>∃ (kq:Nat) (x6_7:Bool),v6=.bool x6_7∧Aside0 (r4_Parse.j0 kq a0 a0 x6_7 (⟨#[]⟩:ByteArray) (⟨#[]⟩:ByteArray)=some (r1,r2,r3))∧Aside0 (kq≤k)∧Aside0 (wc.heap[gb120]?=some (.cells #[.string ⟨#[]⟩,.string ⟨#[]⟩] 23 (0,0)))∧Aside0 (wc.heap[gb121]?=some (.cells #[.string ⟨#[]⟩,.string ⟨#[]⟩] 23 (0,0)))∧Aside0 (Below w.heap.size w wc))
  case first =>
   have H:=HC8.out;clear HC8;replace H:=bw_ H;rcases H with ⟨c13,H⟩|⟨c13,H⟩
   ·have c13b0:decide (0<(a0.size:Int))=true:=decide_eq_true c13;have c13b1:decide (0<a0.size)=true:=decide_eq_true (by omega);clear c13;(first|rw[c13b0]|(simp only[i64_w,i32_w];rw[c13b0])|skip);replace H:=bx_ H;obtain⟨c14,H⟩:=H;have c14b0:=dt_ c14;have c14b1:decide (0<a0.size)=true:=decide_eq_true (by omega);clear c14;have H':=ak_ H;clear H;have p15:0≤(0:Int):=(by omega);have q15:0<a0.size:=(by have:(0:Int)<(a0.size:Int):=od_ as_f;omega);have hx15:∀ h:0<a0.size,((a0[0]'h).toNat:Int)=bt a0 0:=bt_at a0 0;clear p15;have qi15:(0<(a0.size:Int))=True:=eq_true (od_ as_f);replace q15:=eq_true q15;go_wp2
    repeat(go_quiet (fail);try go_wp2)
    go_meet
    case rel=>exact⟨_,(((bt a0 0) == 45)),rl_,H',⟨nk_⟩,⟨fr_ BK120.out⟩,⟨rp_ BK121.out⟩,⟨b_ HB.out⟩⟩
   ·have c13b0:decide (0<(a0.size:Int))=false:=decide_eq_false c13;have c13b1:decide (0<a0.size)=false:=decide_eq_false (by omega);clear c13;(first|rw[c13b0]|(simp only[i64_w,i32_w];rw[c13b0])|skip);have H':=ak_ H;clear H;go_wp2
    repeat(go_quiet (fail);try go_wp2)
    go_meet
    case rel=>exact⟨_,(false),rl_,H',⟨nk_⟩,⟨fr_ BK120.out⟩,⟨rp_ BK121.out⟩,⟨b_ HB.out⟩⟩
  case rest =>
   clear HC8;(try clear c2b0);(try clear c2b1);(try clear hz12);obtain⟨kq,x6_7,rfl,HA,HJ7,BK120,BK121,HB⟩:=hcut
   cases kq with
   | zero=>exact absurd HA.out (by simp[r4_Parse.j0])
   | succ kj7 =>
    have H:=HA.out;clear HA;simp only[r4_Parse.j0] at H;have HC16:=ak_ H;clear H
    go_upto_if 27 with (fail)
    repeat(go_quiet (fail);go_upto_if 27 with (fail))
    go_cut [5] (fun v5 wc=>∃ (kq:Nat) (x5_15:ByteArray),v5=.string x5_15∧Aside0 (r4_Parse.j1 kq x5_15 x6_7 (⟨#[]⟩:ByteArray) (⟨#[]⟩:ByteArray)=some (r1,r2,r3))∧Aside0 (kq≤kj7)∧Aside0 (wc.heap[gb120]?=some (.cells #[.string ⟨#[]⟩,.string ⟨#[]⟩] 23 (0,0)))∧Aside0 (wc.heap[gb121]?=some (.cells #[.string ⟨#[]⟩,.string ⟨#[]⟩] 23 (0,0)))∧Aside0 (Below w.heap.size w wc))
    case first =>
     have H:=HC16.out;clear HC16;replace H:=bt_ H;rcases H with ⟨rfl,H⟩|⟨rfl,H⟩
     ·replace H:=bx_ H;obtain⟨c18,H⟩:=H;have c18b0:=eq_true c18;have c18b1:=dt_ c18;clear c18;have H':=ak_ H;clear H;go_wp2
      repeat(go_quiet (fail);try go_wp2)
      go_meet
      case rel=>exact⟨_,(a0.extract 1 a0.size),rl_,H',⟨by have:=HJ7.out;first|omega|exact nr_ _⟩,⟨k_ BK120.out⟩,⟨k_ BK121.out⟩,⟨b_ HB.out⟩⟩
     ·have H':=ak_ H;clear H;go_wp2
      repeat(go_quiet (fail);try go_wp2)
      go_meet
      case rel=>exact⟨_,(a0),rl_,H',⟨by have:=HJ7.out;first|omega|exact nr_ _⟩,⟨k_ BK120.out⟩,⟨k_ BK121.out⟩,⟨b_ HB.out⟩⟩
    case rest =>
     clear HC16;(try clear c2b0);(try clear c2b1);(try clear hz12);obtain⟨kq,x5_15,rfl,HA,HJ15,BK120,BK121,HB⟩:=hcut
     cases kq with
     | zero=>exact absurd HA.out (by simp[r4_Parse.j1])
     | succ kj15 =>
      have H:=HA.out;clear HA;simp only[r4_Parse.j1] at H;replace H:=bi_ H;obtain⟨t122,A19,H⟩:=H;replace H:=bi_ H;obtain⟨t123,A20,H⟩:=H;have HC21:=ak_ H;clear H
      go_upto_if 36 with (first|(go_at_call 46;(with_reducible refine(r4_find.calls _ _ _ _ _ A19.out).mono ?_);rintro e w' ⟨rfl,⟨nd,rfl⟩⟩;(try exact dd_))|(go_at_call 46;(with_reducible refine(r4_find.calls _ _ _ _ _ A20.out).mono ?_);rintro e w' ⟨rfl,⟨nd,rfl⟩⟩;(try exact dd_)))
      repeat(go_quiet (first|(go_at_call 46;(with_reducible refine(r4_find.calls _ _ _ _ _ A19.out).mono ?_);rintro e w' ⟨rfl,⟨nd,rfl⟩⟩;(try exact dd_))|(go_at_call 46;(with_reducible refine(r4_find.calls _ _ _ _ _ A20.out).mono ?_);rintro e w' ⟨rfl,⟨nd,rfl⟩⟩;(try exact dd_)));go_upto_if 36 with (first|(go_at_call 46;(with_reducible refine(r4_find.calls _ _ _ _ _ A19.out).mono ?_);rintro e w' ⟨rfl,⟨nd,rfl⟩⟩;(try exact dd_))|(go_at_call 46;(with_reducible refine(r4_find.calls _ _ _ _ _ A20.out).mono ?_);rintro e w' ⟨rfl,⟨nd,rfl⟩⟩;(try exact dd_))))
      (try simp only[Act.put,List.setIfInBounds_toArray,List.set_cons_zero,List.set_cons_succ])
      go_cut [7,8] (fun v7 v8 wc=>∃ (kq:Nat) (x7_20 x8_20 x121000_20 x121001_20:ByteArray),v7=.string x7_20∧v8=.string x8_20∧Aside0 (r4_Parse.j2 kq x6_7 x7_20 x8_20 (⟨#[]⟩:ByteArray) (⟨#[]⟩:ByteArray)=some (r1,r2,r3))∧Aside0 (kq≤kj15)∧Aside0 (wc.heap[gb120]?=some (.cells #[.string x121000_20,.string x121001_20] 23 (0,0)))∧Aside0 (wc.heap[gb121]?=some (.cells #[.string ⟨#[]⟩,.string ⟨#[]⟩] 23 (0,0)))∧Aside0 (Below w.heap.size w wc))
      case first =>
       have H:=HC21.out;clear HC21;replace H:=bw_ H;rcases H with ⟨c22,H⟩|⟨c22,H⟩
       ·have c22b0:decide (0≤t122)=true:=decide_eq_true c22;clear c22;(first|rw[c22b0]|(simp only[i64_w,i32_w];rw[c22b0])|skip);replace H:=bx_ H;obtain⟨c23,H⟩:=H;have c23b0:=eq_true c23;have c23b1:=dt_ c23;clear c23;replace H:=bx_ H;obtain⟨c24,H⟩:=H;have c24b0:=eq_true c24;have c24b1:=dt_ c24;clear c24;obtain⟨ji25,hji25⟩:∃ j_:Int,(wrap64 (t122+1))=j_:=⟨_,rfl⟩;(first|rw[hji25] at H|simp only[hji25] at H);have hji25w:(IntKind.i64.wrap (t122+1))=ji25:=(i64_w _).trans hji25;replace H:=bx_ H;obtain⟨c26,H⟩:=H;have c26b0:=eq_true c26;have c26b1:=dt_ c26;clear c26;replace H:=bx_ H;obtain⟨c27,H⟩:=H;have c27b0:=eq_true c27;have c27b1:=dt_ c27;clear c27;have H':=ak_ H;clear H;go_wp2
        repeat(go_quiet (fail);try go_wp2)
        go_meet
        case rel=>exact⟨_,(x5_15.extract 0 (t122:Int).toNat),(x5_15.extract ((ji25):Int).toNat x5_15.size),((⟨#[]⟩:ByteArray)),((⟨#[]⟩:ByteArray)),rl_,(by first|rfl|(simp;done)|(simp only[← hji25] <;> (first|rfl|simp))|(simp[*];done)),H',⟨by have:=HJ7.out;have:=HJ15.out;first|omega|exact nr_ _⟩,⟨k_ BK120.out⟩,⟨k_ BK121.out⟩,⟨b_ HB.out⟩⟩
       ·have c22b0:decide (0≤t122)=false:=decide_eq_false c22;clear c22;(first|rw[c22b0]|(simp only[i64_w,i32_w];rw[c22b0])|skip);replace H:=bw_ H;rcases H with ⟨c28,H⟩|⟨c28,H⟩
        ·have c28b0:decide (0≤t123)=true:=decide_eq_true c28;clear c28;replace H:=bx_ H;obtain⟨c29,H⟩:=H;have c29b0:=eq_true c29;have c29b1:=dt_ c29;clear c29;replace H:=bx_ H;obtain⟨c30,H⟩:=H;have c30b0:=eq_true c30;have c30b1:=dt_ c30;clear c30;replace H:=bi_ H;obtain⟨t124,A31,H⟩:=H;replace H:=bt_ H;rcases H with ⟨rfl,H⟩|⟨rfl,H⟩
         ·obtain⟨ji33,hji33⟩:∃ j_:Int,(wrap64 (t123+1))=j_:=⟨_,rfl⟩;(first|rw[hji33] at H|simp only[hji33] at H);(try rw[hji33] at A31);have hji33w:(IntKind.i64.wrap (t123+1))=ji33:=(i64_w _).trans hji33;replace H:=bx_ H;obtain⟨c34,H⟩:=H;have c34b0:=eq_true c34;have c34b1:=dt_ c34;clear c34;replace H:=bx_ H;obtain⟨c35,H⟩:=H;have c35b0:=eq_true c35;have c35b1:=dt_ c35;clear c35;replace H:=bi_ H;obtain⟨t125,A36,H⟩:=H;replace H:=bt_ H;rcases H with ⟨rfl,H⟩|⟨rfl,H⟩
          ·have c38b0:=eq_true (od_ as_f:0≤t123);have c39b0:=eq_true (od_ as_f:t123≤(x5_15.size:Int));have c40b0:=eq_true (od_ as_f:0≤(ji33));have c41b0:=eq_true (od_ as_f:(ji33)≤(x5_15.size:Int));replace H:=bx_ H;obtain⟨c42,H⟩:=H;have c42b0:=eq_true c42;have c42b1:=dt_ c42
           try have c42b2:(9223372036854775807<(x5_15.extract 0 (t123:Int).toNat).size+(x5_15.extract ((ji33):Int).toNat x5_15.size).size)=False:=eq_false (Nat.not_lt.2 c42)
           replace H:=bi_ H;obtain⟨t126,A43,H⟩:=H;replace H:=bx_ H;obtain⟨c44,H⟩:=H;have c44b0:=eq_true c44;have c44b1:=dt_ c44
           try have c44b2:(9223372036854775807<1+t126.size)=False:=eq_false (Nat.not_lt.2 c44)
           have H':=ak_ H;clear H
           go_wp2_with (first|(go_at_call 47;(with_reducible refine(r4_digits.calls _ _ _ _ A31.out).mono ?_);rintro e w' ⟨rfl,⟨nd,rfl⟩⟩;(try exact dd_))|(go_at_call 47;(with_reducible refine(r4_digits.calls _ _ _ _ A36.out).mono ?_);rintro e w' ⟨rfl,⟨nd,rfl⟩⟩;(try exact dd_))|(go_at_call 48;(with_reducible refine(r4_Zeros.calls kj15 (wrap64 ((wrap64 ((x5_15.size:Int)-t123))-1)) t126 _ A43.out).mono ?_);rintro e w' ⟨rfl,⟨nd,rfl⟩⟩;(try exact dd_)))
           repeat(go_quiet (first|(go_at_call 47;(with_reducible refine(r4_digits.calls _ _ _ _ A31.out).mono ?_);rintro e w' ⟨rfl,⟨nd,rfl⟩⟩;(try exact dd_))|(go_at_call 47;(with_reducible refine(r4_digits.calls _ _ _ _ A36.out).mono ?_);rintro e w' ⟨rfl,⟨nd,rfl⟩⟩;(try exact dd_))|(go_at_call 48;(with_reducible refine(r4_Zeros.calls kj15 (wrap64 ((wrap64 ((x5_15.size:Int)-t123))-1)) t126 _ A43.out).mono ?_);rintro e w' ⟨rfl,⟨nd,rfl⟩⟩;(try exact dd_)));try go_wp2_with (first|(go_at_call 47;(with_reducible refine(r4_digits.calls _ _ _ _ A31.out).mono ?_);rintro e w' ⟨rfl,⟨nd,rfl⟩⟩;(try exact dd_))|(go_at_call 47;(with_reducible refine(r4_digits.calls _ _ _ _ A36.out).mono ?_);rintro e w' ⟨rfl,⟨nd,rfl⟩⟩;(try exact dd_))|(go_at_call 48;(with_reducible refine(r4_Zeros.calls kj15 (wrap64 ((wrap64 ((x5_15.size:Int)-t123))-1)) t126 _ A43.out).mono ?_);rintro e w' ⟨rfl,⟨nd,rfl⟩⟩;(try exact dd_))))
           go_meet
           case rel=>exact⟨_,((x5_15.extract 0 (t123:Int).toNat)++(x5_15.extract ((ji33):Int).toNat x5_15.size)),((⟨#[49]⟩:ByteArray)++t126),((⟨#[]⟩:ByteArray)),((⟨#[]⟩:ByteArray)),(by first|rfl|(simp;done)|(simp only[← hji33] <;> (first|rfl|simp))|(simp[*];done)),rl_,H',⟨by have:=HJ7.out;have:=HJ15.out;first|omega|exact nr_ _⟩,⟨k_ BK120.out⟩,⟨k_ BK121.out⟩,⟨b_ HB.out⟩⟩
          ·replace H:=pi3_ H;obtain⟨rfl,rfl,rfl⟩:=H
           go_wp2_with (first|(go_at_call 47;(with_reducible refine(r4_digits.calls _ _ _ _ A31.out).mono ?_);rintro e w' ⟨rfl,⟨nd,rfl⟩⟩;(try exact dd_))|(go_at_call 47;(with_reducible refine(r4_digits.calls _ _ _ _ A36.out).mono ?_);rintro e w' ⟨rfl,⟨nd,rfl⟩⟩;(try exact dd_);have hnb45:=NB121_120.out;have hnc45:=NB120_121.out;have hz46121:=cs2_ BK121;have hz47120:=cs2_ BK120))
           repeat(go_quiet (first|(go_at_call 47;(with_reducible refine(r4_digits.calls _ _ _ _ A31.out).mono ?_);rintro e w' ⟨rfl,⟨nd,rfl⟩⟩;(try exact dd_))|(go_at_call 47;(with_reducible refine(r4_digits.calls _ _ _ _ A36.out).mono ?_);rintro e w' ⟨rfl,⟨nd,rfl⟩⟩;(try exact dd_);have hnb45:=NB121_120.out;have hnc45:=NB120_121.out;have hz46121:=cs2_ BK121;have hz47120:=cs2_ BK120));try go_wp2_with (first|(go_at_call 47;(with_reducible refine(r4_digits.calls _ _ _ _ A31.out).mono ?_);rintro e w' ⟨rfl,⟨nd,rfl⟩⟩;(try exact dd_))|(go_at_call 47;(with_reducible refine(r4_digits.calls _ _ _ _ A36.out).mono ?_);rintro e w' ⟨rfl,⟨nd,rfl⟩⟩;(try exact dd_);have hnb45:=NB121_120.out;have hnc45:=NB120_121.out;have hz46121:=cs2_ BK121;have hz47120:=cs2_ BK120)))
           refine bodyPost_ret (results_ct rfl _ _ gb120 23 #[.string ⟨#[]⟩,.string ⟨#[]⟩] (0,0) _ rfl (rp_ BK120.out) Tryz.underlying23 rfl (by kernel_rfl)) rfl ?_;exact⟨by first|rfl|(simp[errW_none,errW_some] <;> rfl)|(simp only[← hji33];first|rfl|(simp[errW_none,errW_some] <;> rfl))|(simp[*,errW_none,errW_some] <;> rfl),b_ HB.out⟩
         ·replace H:=pi3_ H;obtain⟨rfl,rfl,rfl⟩:=H
          go_wp2_with ((go_at_call 47;(with_reducible refine(r4_digits.calls _ _ _ _ A31.out).mono ?_);rintro e w' ⟨rfl,⟨nd,rfl⟩⟩;(try exact dd_);have hnb48:=NB121_120.out;have hnc48:=NB120_121.out;have hz49121:=cs2_ BK121;have hz50120:=cs2_ BK120))
          repeat(go_quiet (first|(go_at_call 47;(with_reducible refine(r4_digits.calls _ _ _ _ A31.out).mono ?_);rintro e w' ⟨rfl,⟨nd,rfl⟩⟩;(try exact dd_);have hnb48:=NB121_120.out;have hnc48:=NB120_121.out;have hz49121:=cs2_ BK121;have hz50120:=cs2_ BK120));try go_wp2_with ((go_at_call 47;(with_reducible refine(r4_digits.calls _ _ _ _ A31.out).mono ?_);rintro e w' ⟨rfl,⟨nd,rfl⟩⟩;(try exact dd_);have hnb48:=NB121_120.out;have hnc48:=NB120_121.out;have hz49121:=cs2_ BK121;have hz50120:=cs2_ BK120)))
          refine bodyPost_ret (results_ct rfl _ _ gb120 23 #[.string ⟨#[]⟩,.string ⟨#[]⟩] (0,0) _ rfl (rp_ BK120.out) Tryz.underlying23 rfl (by kernel_rfl)) rfl ?_;exact⟨er_,b_ HB.out⟩
        ·have c28b0:decide (0≤t123)=false:=decide_eq_false c28;clear c28;have H':=ak_ H;clear H;go_wp2
         repeat(go_quiet (fail);try go_wp2)
         go_meet
         case rel=>exact⟨_,(x5_15),((⟨#[49]⟩:ByteArray)),((⟨#[]⟩:ByteArray)),((⟨#[]⟩:ByteArray)),rl_,rl_,H',⟨by have:=HJ7.out;have:=HJ15.out;first|omega|exact nr_ _⟩,⟨k_ BK120.out⟩,⟨k_ BK121.out⟩,⟨b_ HB.out⟩⟩
      case rest =>
       clear HC21;(try clear c2b0);(try clear c2b1);(try clear hz12);obtain⟨kq,x7_20,x8_20,x121000_20,x121001_20,rfl,rfl,HA,HJ20,BK120,BK121,HB⟩:=hcut
       cases kq with
       | zero=>exact absurd HA.out (by simp[r4_Parse.j2])
       | succ kj20 =>
        have H:=HA.out;clear HA;simp only[r4_Parse.j2] at H;have HC51:=ak_ H;clear H
        go_upto_region 18 with (fail)
        repeat(go_quiet (fail);go_upto_region 18 with (fail))
        go_cut [82] (fun v82 wc=>∃ (kq:Nat) (x82_50:Bool),v82=.bool x82_50∧Aside0 (r4_Parse.j3 kq x6_7 x7_20 x8_20 x82_50 (⟨#[]⟩:ByteArray) (⟨#[]⟩:ByteArray)=some (r1,r2,r3))∧Aside0 (kq≤kj20)∧Aside0 (wc.heap[gb120]?=some (.cells #[.string x121000_20,.string x121001_20] 23 (0,0)))∧Aside0 (wc.heap[gb121]?=some (.cells #[.string ⟨#[]⟩,.string ⟨#[]⟩] 23 (0,0)))∧Aside0 (Below w.heap.size w wc))
        case first =>
         have H:=HC51.out;clear HC51;replace H:=bi_ H;obtain⟨t127,A52,H⟩:=H;replace H:=bt_ H;rcases H with ⟨rfl,H⟩|⟨rfl,H⟩
         ·replace H:=bi_ H;obtain⟨t128,A54,H⟩:=H;have H':=ak_ H;clear H
          go_wp2_with (first|(go_at_call 47;(with_reducible refine(r4_digits.calls _ _ _ _ A52.out).mono ?_);rintro e w' ⟨rfl,⟨nd,rfl⟩⟩;(try exact dd_))|(go_at_call 47;(with_reducible refine(r4_digits.calls _ _ _ _ A54.out).mono ?_);rintro e w' ⟨rfl,⟨nd,rfl⟩⟩;(try exact dd_)))
          repeat(go_quiet (first|(go_at_call 47;(with_reducible refine(r4_digits.calls _ _ _ _ A52.out).mono ?_);rintro e w' ⟨rfl,⟨nd,rfl⟩⟩;(try exact dd_))|(go_at_call 47;(with_reducible refine(r4_digits.calls _ _ _ _ A54.out).mono ?_);rintro e w' ⟨rfl,⟨nd,rfl⟩⟩;(try exact dd_)));try go_wp2_with (first|(go_at_call 47;(with_reducible refine(r4_digits.calls _ _ _ _ A52.out).mono ?_);rintro e w' ⟨rfl,⟨nd,rfl⟩⟩;(try exact dd_))|(go_at_call 47;(with_reducible refine(r4_digits.calls _ _ _ _ A54.out).mono ?_);rintro e w' ⟨rfl,⟨nd,rfl⟩⟩;(try exact dd_))))
          go_meet
          case rel=>exact⟨_,(!t128),rl_,H',⟨by have:=HJ7.out;have:=HJ15.out;have:=HJ20.out;first|omega|exact nr_ _⟩,⟨k_ BK120.out⟩,⟨k_ BK121.out⟩,⟨b_ HB.out⟩⟩
         ·have H':=ak_ H;clear H
          go_wp2_with ((go_at_call 47;(with_reducible refine(r4_digits.calls _ _ _ _ A52.out).mono ?_);rintro e w' ⟨rfl,⟨nd,rfl⟩⟩;(try exact dd_)))
          repeat(go_quiet (first|(go_at_call 47;(with_reducible refine(r4_digits.calls _ _ _ _ A52.out).mono ?_);rintro e w' ⟨rfl,⟨nd,rfl⟩⟩;(try exact dd_)));try go_wp2_with ((go_at_call 47;(with_reducible refine(r4_digits.calls _ _ _ _ A52.out).mono ?_);rintro e w' ⟨rfl,⟨nd,rfl⟩⟩;(try exact dd_))))
          go_meet
          case rel=>exact⟨_,(true),rl_,H',⟨by have:=HJ7.out;have:=HJ15.out;have:=HJ20.out;first|omega|exact nr_ _⟩,⟨k_ BK120.out⟩,⟨k_ BK121.out⟩,⟨b_ HB.out⟩⟩
        case rest =>
         clear HC51;(try clear c2b0);(try clear c2b1);(try clear hz12);obtain⟨kq,x82_50,rfl,HA,HJ50,BK120,BK121,HB⟩:=hcut
         cases kq with
         | zero=>exact absurd HA.out (by simp[r4_Parse.j3])
         | succ kj50 =>
          have H:=HA.out;clear HA;simp only[r4_Parse.j3] at H;replace H:=bt_ H;rcases H with ⟨rfl,H⟩|⟨rfl,H⟩
          ·replace H:=pi3_ H;obtain⟨rfl,rfl,rfl⟩:=H;have hnb56:=NB121_120.out;have hnc56:=NB120_121.out;have hz57121:=cs2_ BK121;have hz58120:=cs2_ BK120;go_wp2
           repeat(go_quiet (fail);try go_wp2)
           refine bodyPost_ret (results_ct rfl _ _ gb120 23 #[.string ⟨#[]⟩,.string ⟨#[]⟩] (0,0) _ rfl (rp_ BK120.out) Tryz.underlying23 rfl (by kernel_rfl)) rfl ?_;exact⟨er_,b_ HB.out⟩
          ·replace H:=bi_ H;obtain⟨t129,A59,H⟩:=H;have HC60:=ak_ H;clear H
           go_upto_if 86 with (first|(go_at_call 49;(with_reducible refine(r4_plain.calls _ _ _ _ A59.out).mono ?_);rintro e w' ⟨rfl,⟨nd,rfl⟩⟩;(try exact dd_)))
           repeat(go_quiet (first|(go_at_call 49;(with_reducible refine(r4_plain.calls _ _ _ _ A59.out).mono ?_);rintro e w' ⟨rfl,⟨nd,rfl⟩⟩;(try exact dd_)));go_upto_if 86 with (first|(go_at_call 49;(with_reducible refine(r4_plain.calls _ _ _ _ A59.out).mono ?_);rintro e w' ⟨rfl,⟨nd,rfl⟩⟩;(try exact dd_))))
           (try simp only[Act.put,List.setIfInBounds_toArray,List.set_cons_zero,List.set_cons_succ])
           go_cut [7] (fun v7 wc=>∃ (kq:Nat) (x7_59:ByteArray),v7=.string x7_59∧Aside0 (r4_Parse.j4 kq x7_59 x8_20 (⟨#[]⟩:ByteArray) (⟨#[]⟩:ByteArray)=some (r1,r2,r3))∧Aside0 (kq≤kj50)∧Aside0 (wc.heap[gb120]?=some (.cells #[.string x121000_20,.string x121001_20] 23 (0,0)))∧Aside0 (wc.heap[gb121]?=some (.cells #[.string ⟨#[]⟩,.string ⟨#[]⟩] 23 (0,0)))∧Aside0 (Below w.heap.size w wc))
           case first =>
            have H:=HC60.out;clear HC60;replace H:=bt_ H;rcases H with ⟨rfl,H⟩|⟨rfl,H⟩
            ·replace H:=bi_ H;obtain⟨t130,A62,H⟩:=H;have H':=ak_ H;clear H
             go_wp2_with ((go_at_call 50;(with_reducible refine(r2_Neg.calls _ _ _ A62.out).mono ?_);rintro e w63 ⟨rfl,hb⟩;replace BK120:=kb_ BK120 hb;replace BK121:=kb_ BK121 hb;replace HB:=bs_ HB hb;(try clear hb)))
             repeat(go_quiet (first|(go_at_call 50;(with_reducible refine(r2_Neg.calls _ _ _ A62.out).mono ?_);rintro e w63 ⟨rfl,hb⟩;replace BK120:=kb_ BK120 hb;replace BK121:=kb_ BK121 hb;replace HB:=bs_ HB hb;(try clear hb)));try go_wp2_with ((go_at_call 50;(with_reducible refine(r2_Neg.calls _ _ _ A62.out).mono ?_);rintro e w63 ⟨rfl,hb⟩;replace BK120:=kb_ BK120 hb;replace BK121:=kb_ BK121 hb;replace HB:=bs_ HB hb;(try clear hb))))
             go_meet
             case rel=>exact⟨_,(t130),rl_,H',⟨by have:=HJ7.out;have:=HJ15.out;have:=HJ20.out;have:=HJ50.out;first|omega|exact nr_ _⟩,⟨k_ BK120.out⟩,⟨k_ BK121.out⟩,⟨b_ HB.out⟩⟩
            ·have H':=ak_ H;clear H;go_wp2
             repeat(go_quiet (fail);try go_wp2)
             go_meet
             case rel=>exact⟨_,(t129),rl_,H',⟨by have:=HJ7.out;have:=HJ15.out;have:=HJ20.out;have:=HJ50.out;first|omega|exact nr_ _⟩,⟨k_ BK120.out⟩,⟨k_ BK121.out⟩,⟨b_ HB.out⟩⟩
           case rest =>
            clear HC60;(try clear c2b0);(try clear c2b1);(try clear hz12);obtain⟨kq,x7_59,rfl,HA,HJ59,BK120,BK121,HB⟩:=hcut
            cases kq with
            | zero=>exact absurd HA.out (by simp[r4_Parse.j4])
            | succ kj59 =>
             have H:=HA.out;clear HA;simp only[r4_Parse.j4] at H;replace H:=bi_ H;obtain⟨t131,A64,H⟩:=H;replace H:=bi_ H;obtain⟨⟨t132,t133,t134⟩,A65,H⟩:=H;(try dsimp only at H);replace H:=bt_ H;rcases H with ⟨rfl,H⟩|⟨rfl,H⟩
             ·replace H:=pi3_ H;obtain⟨rfl,rfl,rfl⟩:=H
              go_wp2_with (first|(go_at_call 49;(with_reducible refine(r4_plain.calls _ _ _ _ A64.out).mono ?_);rintro e w' ⟨rfl,⟨nd,rfl⟩⟩;(try exact dd_))|(go_at_call 39;(with_reducible refine(r3_Make.calls _ _ _ _ _ _ A65.out).mono ?_);rintro e w67 ⟨rfl,hb⟩;replace BK120:=kb_ BK120 hb;replace BK121:=kb_ BK121 hb;replace HB:=bs_ HB hb;(try clear hb))|(refine bg_ 11 #[.string ⟨#[]⟩,.string ⟨#[]⟩] 23 HB ?_;clear HB;intro gb135 w68 hg hb BK135 GW135 HB;have NB120_135:=nl_ BK120 hg;have NB135_120:=ng_ BK120 hg;have NB121_135:=nl_ BK121 hg;have NB135_121:=ng_ BK121 hg;replace BK120:=kb_ BK120 hb;replace BK121:=kb_ BK121 hb;clear hb hg;have hnb69:=NB135_120.out;have hnc69:=NB120_135.out;have hnb70:=NB135_121.out;have hnc70:=NB121_135.out;have hz71:=cs2_ BK135;have hnb72:=NB120_121.out;have hnc72:=NB121_120.out;have hz73:=cs2_ BK120))
              repeat(go_quiet (first|(go_at_call 49;(with_reducible refine(r4_plain.calls _ _ _ _ A64.out).mono ?_);rintro e w' ⟨rfl,⟨nd,rfl⟩⟩;(try exact dd_))|(go_at_call 39;(with_reducible refine(r3_Make.calls _ _ _ _ _ _ A65.out).mono ?_);rintro e w67 ⟨rfl,hb⟩;replace BK120:=kb_ BK120 hb;replace BK121:=kb_ BK121 hb;replace HB:=bs_ HB hb;(try clear hb))|(refine bg_ 11 #[.string ⟨#[]⟩,.string ⟨#[]⟩] 23 HB ?_;clear HB;intro gb135 w68 hg hb BK135 GW135 HB;have NB120_135:=nl_ BK120 hg;have NB135_120:=ng_ BK120 hg;have NB121_135:=nl_ BK121 hg;have NB135_121:=ng_ BK121 hg;replace BK120:=kb_ BK120 hb;replace BK121:=kb_ BK121 hb;clear hb hg;have hnb69:=NB135_120.out;have hnc69:=NB120_135.out;have hnb70:=NB135_121.out;have hnc70:=NB121_135.out;have hz71:=cs2_ BK135;have hnb72:=NB120_121.out;have hnc72:=NB121_120.out;have hz73:=cs2_ BK120));try go_wp2_with (first|(go_at_call 49;(with_reducible refine(r4_plain.calls _ _ _ _ A64.out).mono ?_);rintro e w' ⟨rfl,⟨nd,rfl⟩⟩;(try exact dd_))|(go_at_call 39;(with_reducible refine(r3_Make.calls _ _ _ _ _ _ A65.out).mono ?_);rintro e w67 ⟨rfl,hb⟩;replace BK120:=kb_ BK120 hb;replace BK121:=kb_ BK121 hb;replace HB:=bs_ HB hb;(try clear hb))|(refine bg_ 11 #[.string ⟨#[]⟩,.string ⟨#[]⟩] 23 HB ?_;clear HB;intro gb135 w68 hg hb BK135 GW135 HB;have NB120_135:=nl_ BK120 hg;have NB135_120:=ng_ BK120 hg;have NB121_135:=nl_ BK121 hg;have NB135_121:=ng_ BK121 hg;replace BK120:=kb_ BK120 hb;replace BK121:=kb_ BK121 hb;clear hb hg;have hnb69:=NB135_120.out;have hnc69:=NB120_135.out;have hnb70:=NB135_121.out;have hnc70:=NB121_135.out;have hz71:=cs2_ BK135;have hnb72:=NB120_121.out;have hnc72:=NB121_120.out;have hz73:=cs2_ BK120)))
              refine bodyPost_ret (results_ct rfl _ _ gb120 23 #[.string t132,.string t133] (0,0) _ rfl (by refine k_ ?_;refine blk_put (cs:=#[.string t132,.string x121001_20]) ?_ 1 _ rfl;refine k_ ?_;refine blk_put (cs:=#[.string x121000_20,.string x121001_20]) ?_ 0 _ rfl;refine k_ ?_;refine blk_far ?_ NB120_135.out _;refine k_ ?_;refine blk_far ?_ NB120_135.out _;refine k_ ?_;exact BK120.out) Tryz.underlying23 rfl (by kernel_rfl)) rfl ?_;exact⟨er_,b_ HB.out⟩
             ·replace H:=pi3_ H;obtain⟨rfl,rfl,rfl⟩:=H
              go_wp2_with (first|(go_at_call 49;(with_reducible refine(r4_plain.calls _ _ _ _ A64.out).mono ?_);rintro e w' ⟨rfl,⟨nd,rfl⟩⟩;(try exact dd_))|(go_at_call 39;(with_reducible refine(r3_Make.calls _ _ _ _ _ _ A65.out).mono ?_);rintro e w74 ⟨rfl,hb⟩;replace BK120:=kb_ BK120 hb;replace BK121:=kb_ BK121 hb;replace HB:=bs_ HB hb;(try clear hb))|(refine bg_ 11 #[.string ⟨#[]⟩,.string ⟨#[]⟩] 23 HB ?_;clear HB;intro gb135 w75 hg hb BK135 GW135 HB;have NB120_135:=nl_ BK120 hg;have NB135_120:=ng_ BK120 hg;have NB121_135:=nl_ BK121 hg;have NB135_121:=ng_ BK121 hg;replace BK120:=kb_ BK120 hb;replace BK121:=kb_ BK121 hb;clear hb hg;have hnb76:=NB135_120.out;have hnc76:=NB120_135.out;have hnb77:=NB135_121.out;have hnc77:=NB121_135.out;have hz78:=cs2_ BK135;have hnb79:=NB121_120.out;have hnc79:=NB120_121.out;have hz80121:=cs2_ BK121;have hz81120:=cs2_ BK120))
              repeat(go_quiet (first|(go_at_call 49;(with_reducible refine(r4_plain.calls _ _ _ _ A64.out).mono ?_);rintro e w' ⟨rfl,⟨nd,rfl⟩⟩;(try exact dd_))|(go_at_call 39;(with_reducible refine(r3_Make.calls _ _ _ _ _ _ A65.out).mono ?_);rintro e w74 ⟨rfl,hb⟩;replace BK120:=kb_ BK120 hb;replace BK121:=kb_ BK121 hb;replace HB:=bs_ HB hb;(try clear hb))|(refine bg_ 11 #[.string ⟨#[]⟩,.string ⟨#[]⟩] 23 HB ?_;clear HB;intro gb135 w75 hg hb BK135 GW135 HB;have NB120_135:=nl_ BK120 hg;have NB135_120:=ng_ BK120 hg;have NB121_135:=nl_ BK121 hg;have NB135_121:=ng_ BK121 hg;replace BK120:=kb_ BK120 hb;replace BK121:=kb_ BK121 hb;clear hb hg;have hnb76:=NB135_120.out;have hnc76:=NB120_135.out;have hnb77:=NB135_121.out;have hnc77:=NB121_135.out;have hz78:=cs2_ BK135;have hnb79:=NB121_120.out;have hnc79:=NB120_121.out;have hz80121:=cs2_ BK121;have hz81120:=cs2_ BK120));try go_wp2_with (first|(go_at_call 49;(with_reducible refine(r4_plain.calls _ _ _ _ A64.out).mono ?_);rintro e w' ⟨rfl,⟨nd,rfl⟩⟩;(try exact dd_))|(go_at_call 39;(with_reducible refine(r3_Make.calls _ _ _ _ _ _ A65.out).mono ?_);rintro e w74 ⟨rfl,hb⟩;replace BK120:=kb_ BK120 hb;replace BK121:=kb_ BK121 hb;replace HB:=bs_ HB hb;(try clear hb))|(refine bg_ 11 #[.string ⟨#[]⟩,.string ⟨#[]⟩] 23 HB ?_;clear HB;intro gb135 w75 hg hb BK135 GW135 HB;have NB120_135:=nl_ BK120 hg;have NB135_120:=ng_ BK120 hg;have NB121_135:=nl_ BK121 hg;have NB135_121:=ng_ BK121 hg;replace BK120:=kb_ BK120 hb;replace BK121:=kb_ BK121 hb;clear hb hg;have hnb76:=NB135_120.out;have hnc76:=NB120_135.out;have hnb77:=NB135_121.out;have hnc77:=NB121_135.out;have hz78:=cs2_ BK135;have hnb79:=NB121_120.out;have hnc79:=NB120_121.out;have hz80121:=cs2_ BK121;have hz81120:=cs2_ BK120)))
              refine bodyPost_ret (results_ct rfl _ _ gb120 23 #[.string ⟨#[]⟩,.string ⟨#[]⟩] (0,0) _ rfl (by refine k_ ?_;refine blk_put (cs:=#[.string ⟨#[]⟩,.string x121001_20]) ?_ 1 _ rfl;refine k_ ?_;refine blk_put (cs:=#[.string x121000_20,.string x121001_20]) ?_ 0 _ rfl;refine k_ ?_;refine blk_far ?_ NB120_135.out _;refine k_ ?_;refine blk_far ?_ NB120_135.out _;refine k_ ?_;exact BK120.out) Tryz.underlying23 rfl (by kernel_rfl)) rfl ?_;exact⟨er_,b_ HB.out⟩
end Pe
theorem zeros_loop (n:Nat) (hn:n≤1000000):∀ (d i:Nat),i+d=n→∀ k,d+1≤k→Pe.r4_Zeros.l0 k (n:Int) (zerosB (i:Int)) (i:Int)=some (zerosB (n:Int))
 | 0,i,hi,k,hk=>by
  obtain⟨k,rfl⟩:∃ m,k=m+1:=⟨k-1,by omega⟩
  simp only[Pe.r4_Zeros.l0]
  rw[if_neg (by omega),show i=n by omega]
 | d+1,i,hi,k,hk=>by
  obtain⟨k,rfl⟩:∃ m,k=m+1:=⟨k-1,by omega⟩
  simp only[Pe.r4_Zeros.l0]
  have e:zerosB (i:Int)++(⟨#[48]⟩:ByteArray)=zerosB ((i+1:Nat):Int):=by
   apply bext
   rw[Joins.data_append,zerosB_list,zerosB_list,Int.toNat_natCast,Int.toNat_natCast,List.replicate_succ']
  rw[if_pos (by omega),if_pos (by rw[zerosB_size];omega),e,w64 (by omega) (by omega),show ((i:Int)+1)=((i+1:Nat):Int) by omega]
  exact zeros_loop n hn d (i+1) (by omega) k (by omega)
theorem zeros_f {n:Nat} (hn:n≤1000000) (k:Nat) (hk:n+1≤k):Pe.r4_Zeros.f k (n:Int)=some (zerosB (n:Int)):=by
 unfold Pe.r4_Zeros.f
 exact zeros_loop n hn n 0 (by omega) k hk
theorem natB_two':(⟨#[50]⟩:ByteArray)=natB 2:=by kernel_rfl
theorem natB_five':(⟨#[53]⟩:ByteArray)=natB 5:=by kernel_rfl
theorem sz_two':sz 2≤50000:=by decide +kernel
theorem sz_five':sz 5≤50000:=by decide +kernel
theorem rplaces_loop:∀ (n:Nat),0<n→sz n≤50000→∀ (a b:Nat),a+tw n≤1000000000→b+fv n≤1000000000→∀ k,tw n+fv n+1≤k →
  Pe.r4_Places.l0 k (natB n) (a:Int) (b:Int)=some (if finD n=true then (((max (a+tw n) (b+fv n):Nat):Int),true) else (0,false))
 | n,hn,hz,a,b,ha,hb,k,hk=>by
  obtain⟨k,rfl⟩:∃ m,k=m+1:=⟨k-1,by omega⟩
  simp only[Pe.r4_Places.l0]
  by_cases h1:n=1
  ·subst h1
   obtain⟨e1,e2,e3⟩:=pl_stop (n:=1) (by decide) (by decide)
   rw[if_pos (natB_toList_one.2 rfl),e1,e2,finD_one,if_pos rfl,mx_nat]
   rfl
  ·rw[if_neg (fun z=>h1 (natB_toList_one.1 z)),natB_two',natB_five',qDivN hz sz_two' (by decide),ob_,qDivN hz sz_five' (by decide),ob_]
   dsimp only
   by_cases h2:n % 2=0
   ·obtain⟨e1,e2,e3⟩:=pl_even hn h2
    rw[e1] at ha hk
    rw[e2] at hb hk
    rw[if_pos (natB_toList_zero.2 h2),w64 (by omega) (by omega),show ((a:Int)+1)=((a+1:Nat):Int) by omega,rplaces_loop (n / 2) (by omega) (Nat.le_trans (sz_mono (Nat.div_le_self _ _)) hz) (a+1) b (by omega) hb k (by omega),e1,e2,e3,show a+1+tw (n / 2)=a+(tw (n / 2)+1) by omega]
   ·rw[if_neg (fun z=>h2 (natB_toList_zero.1 z))]
    by_cases h5:n % 5=0
    ·obtain⟨e1,e2,e3⟩:=pl_five hn h2 h5
     rw[e1] at ha hk
     rw[e2] at hb hk
     rw[if_pos (natB_toList_zero.2 h5),w64 (by omega) (by omega),show ((b:Int)+1)=((b+1:Nat):Int) by omega,rplaces_loop (n / 5) (by omega) (Nat.le_trans (sz_mono (Nat.div_le_self _ _)) hz) a (b+1) ha (by omega) k (by omega),e1,e2,e3,show b+1+fv (n / 5)=b+(fv (n / 5)+1) by omega]
    ·obtain⟨e1,e2,e3⟩:=pl_stop h2 h5
     rw[if_neg (fun z=>h5 (natB_toList_zero.1 z)),e3,if_neg (by rw[beq_iff_eq];exact h1)]
 termination_by n=>n
theorem tw_le {n:Nat} (hn:0<n):tw n≤4 * sz n:=tms_le (by decide) hn (lt_sz n)
theorem fv_le {n:Nat} (hn:0<n):fv n≤4 * sz n:=tms_le (by decide) (tms_pos (by decide) hn) (Nat.lt_of_le_of_lt (tms_left_le (by decide) hn) (lt_sz n))
theorem rPlaces_f {x:BB} (hx:x.1.size+x.2.size≤300) (k:Nat) (hk:2500≤k):Pe.r4_Places.f k x.1 x.2=some (placesS x):=by
 unfold Pe.r4_Places.f
 have em:r3_May.f x.1 x.2=some (mayR x):=by
  unfold r3_May.f
  rw[if_pos (show smR (x.1,x.2)=true from decide_eq_true ⟨by dsimp only;omega,by dsimp only;omega⟩)]
 rw[em,ob_]
 unfold placesS
 by_cases hm:mayR x=true
 ·obtain⟨q,rfl⟩:=of_mayR hm
  have hs:sz q.den≤300:=Nat.le_trans (le_szR_den q) hx
  have hd:0<q.den:=Nat.pos_of_ne_zero q.den_nz
  have t1:=tw_le hd
  have t2:=fv_le hd
  rw[if_pos hm,hm,Bool.true_and,ratR_rT]
  have h:=rplaces_loop q.den hd (by omega) 0 0 (by omega) (by omega) k (by omega)
  rw[Nat.zero_add,Nat.zero_add,← plD_tf] at h
  exact h
 ·rw[if_neg hm,if_neg (fun z=>hm (Bool.and_eq_true_iff.1 z).1)]
theorem rpad_bytes (n m:Nat) (hn:n≤100000) (hm:sz m≤100000) (k:Nat) (hk:100010≤k) :
  Pe.r4_Zeros.f k (mx (wrap64 ((wrap64 ((n:Int)+1))-((natB m).size:Int))) 0)=some (zerosB ((n+1-(Lib.decDigits m).length:Nat):Int))∧(zerosB ((n+1-(Lib.decDigits m).length:Nat):Int)++natB m).data.toList=padL n (Lib.decDigits m):=by
 have e:=sz_dig m
 have e1:((natB m).size:Int)=((Lib.decDigits m).length:Int):=by rw[natB_size]
 have e2:mx (wrap64 ((wrap64 ((n:Int)+1))-((natB m).size:Int))) 0=((n+1-(Lib.decDigits m).length:Nat):Int):=by
  rw[e1,w64 (x:=(n:Int)+1) (by omega) (by omega),w64 (by omega) (by omega)]
  unfold mx
  split <;> omega
 rw[e2]
 refine⟨zeros_f (by omega) k (by omega),?_⟩
 rw[Joins.data_append,zerosB_list,natB_list,Int.toNat_natCast]
 rfl
theorem rpad_size (n m:Nat):(padL n (Lib.decDigits m)).length≤n+1+(Lib.decDigits m).length:=by
 unfold padL
 rw[List.length_append,List.length_replicate]
 omega
theorem szR_nat (n:Nat):szR ((n:Int):Rat)≤sz n+1:=by rw[szR_int,szI_nat];exact nr_ _
theorem rPrint_f {x:BB} (hx:x.1.size+x.2.size≤300) (k:Nat) (hk:100010≤k):Pe.r4_Print.f k x.1 x.2=some (printS x):=by
 unfold Pe.r4_Print.f
 have em:r3_May.f x.1 x.2=some (mayR x):=by
  unfold r3_May.f
  rw[if_pos (show smR (x.1,x.2)=true from decide_eq_true ⟨by dsimp only;omega,by dsimp only;omega⟩)]
 rw[em,ob_]
 unfold printS
 by_cases hm:mayR x=true
 ·rw[if_pos hm,if_pos hm,rPlaces_f hx k (by omega),ob_]
  obtain⟨q,rfl⟩:=of_mayR hm
  have hs:szR q≤300:=hx
  have h1:=le_szR_num q
  have h2:=le_szR_den q
  have hd:0<q.den:=Nat.pos_of_ne_zero q.den_nz
  rw[ratR_rT,places_rT]
  unfold printL
  by_cases hf:finD q.den=true
  ·rw[if_pos hf,if_pos hf]
   dsimp only
   rw[if_pos rfl]
   by_cases h0:plD q.den=0
   ·rw[if_pos (by omega),if_pos h0]
    rfl
   ·rw[if_neg (by omega),if_neg h0]
    have hp:=plD_le hd (lt_sz q.den)
    have hm2:sz q.num.natAbs≤szI q.num:=le_szI _
    have s10:sz (10 ^ plD q.den)≤plD q.den+1:=sz_le (Nat.pow_lt_pow_right (by decide) (by omega)) (by omega)
    have su:sz (10 ^ plD q.den / q.den)≤plD q.den+1:=Nat.le_trans (sz_mono (Nat.div_le_self _ _)) s10
    have sp:=sz_mul q.num.natAbs (10 ^ plD q.den / q.den)
    have sr:=szR_nat (10 ^ plD q.den)
    have hdv:=(dvd_ten hd (plD q.den)).2 ⟨hf,nr_ _⟩
    rw[zeros_f (by omega) k (by omega),ob_,if_pos (by rw[zerosB_size];omega),tenBB]
    have hk1:=kMul (p:=q) (q:=(((10 ^ plD q.den:Nat):Int):Rat)) (by omega) (by omega)
    rw[mul_num hdv] at hk1
    have r10:rT (((10 ^ plD q.den:Nat):Int):Rat)=(natB (10 ^ plD q.den),⟨#[49]⟩):=by
     unfold rT
     rw[Rat.num_intCast,Rat.den_intCast,natB_one,intB_nat]
    have ry:rT ((q.num * ((10 ^ plD q.den / q.den:Nat):Int):Int):Rat)=(intB (q.num * ((10 ^ plD q.den / q.den:Nat):Int)),⟨#[49]⟩):=by
     unfold rT
     rw[Rat.num_intCast,Rat.den_intCast,natB_one]
    rw[r10,ry] at hk1
    rw[hk1,ob_]
    have hna:(q.num * ((10 ^ plD q.den / q.den:Nat):Int)).natAbs=q.num.natAbs * (10 ^ plD q.den / q.den):=by rw[Int.natAbs_mul,Int.natAbs_natCast]
    have sI:=szI_le (q.num * ((10 ^ plD q.den / q.den:Nat):Int))
    rw[hna] at sI
    show ((r2_Abs.f (intB (q.num * ((10 ^ plD q.den / q.den:Nat):Int)))).bind fun t117=>_) = _
    rw[qAbs (by omega),ob_,hna]
    obtain⟨p1,p2⟩:=rpad_bytes (plD q.den) (q.num.natAbs * (10 ^ plD q.den / q.den)) (by omega) (by omega) k hk
    rw[p1,ob_]
    have hsz:=rpad_size (plD q.den) (q.num.natAbs * (10 ^ plD q.den / q.den))
    have hle:=pad_len (plD q.den) (Lib.decDigits (q.num.natAbs * (10 ^ plD q.den / q.den)))
    have e4:=sz_dig (q.num.natAbs * (10 ^ plD q.den / q.den))
    rw[if_pos (by rw[← ByteArray.size_append,size_len,p2];omega),kSign (by omega),ob_]
    generalize hT:zerosB ((plD q.den+1-(Lib.decDigits (q.num.natAbs * (10 ^ plD q.den / q.den))).length:Nat):Int)++natB (q.num.natAbs * (10 ^ plD q.den / q.den))=T at *
    have eT:T.size=(padL (plD q.den) (Lib.decDigits (q.num.natAbs * (10 ^ plD q.den / q.den)))).length:=by rw[size_len,p2]
    unfold digsL
    rw[← p2]
    have hsg:cmpQ q 0<0↔q.num<0:=by
     rw[← signQ_cmp]
     unfold signQ
     by_cases hn:q.num<0
     ·rw[cmp_lt' hn]
      exact⟨fun _=>hn,fun _=>by decide⟩
     ·refine⟨fun z=>?_,fun z=>absurd z hn⟩
      exfalso
      revert z
      unfold Lib.compareInt
      (repeat' split) <;> omega
    by_cases hn:q.num<0
    ·rw[if_pos (hsg.2 hn),tail_f (s:=⟨#[45]⟩) (p:=1) (by omega) (by omega) rfl (by decide)]
     unfold sgL
     rw[if_pos hn]
    ·rw[if_neg (fun z=>hn (hsg.1 z)),tail_f (s:=⟨#[]⟩) (p:=0) (by omega) (by omega) rfl (by decide)]
     unfold sgL
     rw[if_neg hn]
  ·rw[if_neg hf,if_neg hf]
   dsimp only
   rw[if_neg (by decide)]
   have l1:(⟨#[47]⟩:ByteArray).size=1:=rfl
   rw[if_pos (show (rT q).1.size+1≤9223372036854775807 by omega),if_pos (show ((rT q).1++(⟨#[47]⟩:ByteArray)).size+(rT q).2.size≤9223372036854775807 by rw[ByteArray.size_append];omega)]
   congr 1
   apply bext
   rw[Joins.data_append,Joins.data_append]
   show ((intB q.num).data.toList ++ [47])++(natB q.den).data.toList=(intB q.num).data.toList++47 :: Lib.decDigits q.den
   rw[natB_list,List.append_assoc]
   rfl
 ·rw[if_neg hm,if_neg hm]
  rfl
theorem rdig_loop (s:ByteArray) (hs:s.size≤4611686018427387904):∀ (d i:Nat),i+d=s.size→∀ k,d+1≤k→Pe.r4_digits.l0 k s (i:Int)=some ((s.data.toList.drop i).all isDig&&decide ((s.size:Int)>0))
 | 0,i,hi,k,hk=>by
  obtain⟨k,rfl⟩:∃ m,k=m+1:=⟨k-1,by omega⟩
  simp only[Pe.r4_digits.l0]
  rw[if_neg (by omega),List.drop_of_length_le (by rw[← size_len];omega)]
  rfl
 | d+1,i,hi,k,hk=>by
  obtain⟨k,rfl⟩:∃ m,k=m+1:=⟨k-1,by omega⟩
  simp only[Pe.r4_digits.l0]
  have g1:(i:Int)<(s.size:Int):=by omega
  rw[if_pos g1,if_pos (by omega)]
  obtain⟨c,hc,hb⟩:=bt_get s i (by omega)
  have hil:i<s.data.toList.length:=by rw[← size_len];omega
  have hcc:s.data.toList[i]=c:=by
   rw[List.getElem?_eq_getElem hil] at hc
   exact Option.some.inj hc
  rw[hb,List.drop_eq_getElem_cons hil,hcc,List.all_cons,w64 (by omega) (by omega)]
  by_cases h1:(c.toNat:Int)<48
  ·rw[if_pos h1]
   have:isDig c=false:=by simp[isDig];omega
   rw[this];rfl
  ·rw[if_neg h1]
   by_cases h2:(c.toNat:Int)>57
   ·rw[if_pos h2]
    have:isDig c=false:=by simp[isDig];omega
    rw[this];rfl
   ·rw[if_neg h2]
    have:isDig c=true:=by simp[isDig];omega
    rw[this,Bool.true_and]
    have:=rdig_loop s hs d (i+1) (by omega) k (by omega)
    rw[show ((i:Int)+1)=((i+1:Nat):Int) by omega]
    exact this
theorem rdigits_f {s:ByteArray} (hs:s.size≤10000) (k:Nat) (hk:10010≤k):Pe.r4_digits.f k s=some (digL s.data.toList):=by
 unfold Pe.r4_digits.f
 have h:=rdig_loop s (by omega) s.size 0 (by omega) k (by omega)
 rw[List.drop_zero] at h
 refine h.trans ?_
 unfold digL
 rw[Bool.and_comm]
 congr 2
 rw[decide_eq_decide,size_len]
 constructor
 ·intro g e
  rw[e,List.length_nil] at g
  omega
 ·intro g
  have:=List.length_pos_iff.2 g
  omega
theorem rplain_loop (s:ByteArray) (hs:s.size≤4611686018427387904):∀ (d i:Nat),i+d=s.size→∀ k,d+1≤k→Pe.r4_plain.l0 k s (i:Int)=some ⟨(strip (s.data.toList.drop i)).toArray⟩
 | 0,i,hi,k,hk=>by
  obtain⟨k,rfl⟩:∃ m,k=m+1:=⟨k-1,by omega⟩
  simp only[Pe.r4_plain.l0]
  rw[w64 (by omega) (by omega),if_neg (by omega),if_pos (by omega),if_pos (by omega),Int.toNat_natCast]
  congr 1
  apply bmk
  rw[Lib.extract_to_end,List.drop_of_length_le (by rw[← size_len];omega)]
  rfl
 | d+1,i,hi,k,hk=>by
  obtain⟨k,rfl⟩:∃ m,k=m+1:=⟨k-1,by omega⟩
  simp only[Pe.r4_plain.l0]
  have hil:i<s.data.toList.length:=by rw[← size_len];omega
  have stop:∀ l:List UInt8,strip (s.data.toList.drop i)=s.data.toList.drop i→some (s.extract (i:Int).toNat s.size)=some (⟨(strip (s.data.toList.drop i)).toArray⟩:ByteArray):=by
   intro _ h
   congr 1
   apply bmk
   rw[Int.toNat_natCast,Lib.extract_to_end,h]
  rw[w64 (by omega) (by omega)]
  by_cases h0:d=0
  ·rw[if_neg (by omega),if_pos (by omega),if_pos (by omega)]
   refine stop [] ?_
   rw[List.drop_eq_getElem_cons hil,List.drop_of_length_le (by rw[← size_len];omega)]
   rfl
  ·rw[if_pos (by omega),if_pos (by omega),if_pos (by omega)]
   obtain⟨c,hc,hb⟩:=bt_get s i (by omega)
   have hcc:s.data.toList[i]=c:=by
    rw[List.getElem?_eq_getElem hil] at hc
    exact Option.some.inj hc
   have hil2:i+1<s.data.toList.length:=by rw[← size_len];omega
   have hdrop:s.data.toList.drop i=c :: s.data.toList[i+1] :: s.data.toList.drop (i+2):=by
    rw[List.drop_eq_getElem_cons hil,hcc,List.drop_eq_getElem_cons hil2]
   rw[hb]
   by_cases h1:(c.toNat:Int)=48
   ·have h2:c=48:=UInt8.toNat_inj.1 (by rw[show (48:UInt8).toNat=48 from rfl];omega)
    rw[if_pos h1,show ((i:Int)+1)=((i+1:Nat):Int) by omega,rplain_loop s hs d (i+1) (by omega) k (by omega),hdrop,strip,if_pos h2,List.drop_eq_getElem_cons hil2]
   ·rw[if_neg h1,if_pos (by omega)]
    refine stop [] ?_
    have h2:¬ c=48:=by rintro rfl;exact h1 rfl
    rw[hdrop,strip,if_neg h2]
theorem rplain_f {s:ByteArray} (hs:s.size≤10000) (k:Nat) (hk:10010≤k) (h:digL s.data.toList=true):Pe.r4_plain.f k s=some (natB (num s.data.toList)):=by
 obtain⟨h1,h2,h3⟩:=head_dig' h
 unfold Pe.r4_plain.f
 have:=rplain_loop s (by omega) s.size 0 (by omega) k (by omega)
 rw[List.drop_zero,strip_dig h2 h1] at this
 exact this
theorem find_loop (s:ByteArray) (c:UInt8) (hs:s.size≤4611686018427387904):∀ (d i:Nat),i+d=s.size→∀ k,d+1≤k→Pe.r4_find.l0 k s (c.toNat:Int) (i:Int)=some (match cutAt c (s.data.toList.drop i) with|some (a,_)=>((i+a.length:Nat):Int)|none=>-1)
 | 0,i,hi,k,hk=>by
  obtain⟨k,rfl⟩:∃ m,k=m+1:=⟨k-1,by omega⟩
  simp only[Pe.r4_find.l0]
  rw[if_neg (by omega),List.drop_of_length_le (by rw[← size_len];omega)]
  rfl
 | d+1,i,hi,k,hk=>by
  obtain⟨k,rfl⟩:∃ m,k=m+1:=⟨k-1,by omega⟩
  simp only[Pe.r4_find.l0]
  obtain⟨x,hx,hb⟩:=bt_get s i (by omega)
  have hil:i<s.data.toList.length:=by rw[← size_len];omega
  have hcc:s.data.toList[i]=x:=by
   rw[List.getElem?_eq_getElem hil] at hx
   exact Option.some.inj hx
  rw[if_pos (by omega),if_pos (by omega),hb,List.drop_eq_getElem_cons hil,hcc,cutAt]
  by_cases h1:(x.toNat:Int)=(c.toNat:Int)
  ·have h2:x=c:=UInt8.toNat_inj.1 (by omega)
   rw[if_pos h1,if_pos h2]
   rfl
  ·have h2:¬ x=c:=by rintro rfl;exact h1 rfl
   rw[if_neg h1,if_neg h2,w64 (by omega) (by omega),show ((i:Int)+1)=((i+1:Nat):Int) by omega,find_loop s c hs d (i+1) (by omega) k (by omega)]
   cases cutAt c (s.data.toList.drop (i+1)) with
   | none=>rfl
   | some p =>
    show some _ = some _
    congr 1
    show ((i+1+p.1.length:Nat):Int)=((i+(x :: p.1).length:Nat):Int)
    rw[List.length_cons]
    omega
theorem find_f {s:ByteArray} (c:UInt8) (hs:s.size≤10000) (k:Nat) (hk:10010≤k):Pe.r4_find.f k s (c.toNat:Int)=some (match cutAt c s.data.toList with|some (a,_)=>(a.length:Int)|none=>-1):=by
 unfold Pe.r4_find.f
 have h:=find_loop s c (by omega) s.size 0 (by omega) k (by omega)
 rw[List.drop_zero] at h
 simp only[Nat.zero_add] at h
 exact h
theorem kMake0 {x:Int} (hx:szI x≤4000):r3_Make.f (intB x) (natB 0)=some (noB,noB,false):=by
 unfold r3_Make.f rmakeS
 have e:numW (natB 0)=0:=by rw[← intB_nat,numW_int];rfl
 rw[if_pos (show smR (intB x,natB 0)=true from decide_eq_true ⟨hx,by dsimp only;rw[natB_zero];decide⟩),e,if_neg]
 ·rfl
 ·rw[Bool.and_eq_true,decide_eq_true_eq]
  exact fun z=>z.2 rfl
theorem rmake_res {m:Bool} {A B:List UInt8} (hA:digL A=true) (hB:digL B=true) (la:A.length≤3000) (lb:B.length≤3000) :
  ((r3_Make.f (intB (withS m (num A))) (natB (num B))).bind fun bt=>(if bt.2.2=true then (some (bt.1,bt.2.1,(0:Int))) else (some ((⟨#[]⟩:ByteArray),(⟨#[]⟩:ByteArray),40))))=some (ansQ (resL m A B)):=by
 have za:=num_sz (head_dig' hA).1
 have zb:=num_sz (head_dig' hB).1
 have wa:=withS_sz m (num A)
 unfold resL
 rw[hA,hB,Bool.true_and,if_pos rfl]
 by_cases h0:num B=0
 ·rw[if_pos h0,h0,kMake0 (by omega),ob_]
  rfl
 ·have hm:=kMake (x:=withS m (num A)) (y:=(num B:Int)) (by omega) (by rw[szI_nat];omega) (by omega)
  rw[intB_nat] at hm
  rw[if_neg h0,hm,ob_]
  rfl
theorem r4j4_f {X B:ByteArray} (lb:B.size≤3000) (hB:digL B.data.toList=true) (k:Nat) (hk:10011≤k) :
  Pe.r4_Parse.j4 k X B ⟨#[]⟩ ⟨#[]⟩=((r3_Make.f X (natB (num B.data.toList))).bind fun bt=>(if bt.2.2=true then (some (bt.1,bt.2.1,(0:Int))) else (some ((⟨#[]⟩:ByteArray),(⟨#[]⟩:ByteArray),40)))):=by
 obtain⟨k,rfl⟩:∃ m,k=m+1:=⟨k-1,by omega⟩
 simp only[Pe.r4_Parse.j4]
 rw[rplain_f (by omega) k (by omega) hB,ob_]
theorem r4j3_true (m:Bool) (A B:ByteArray) (k:Nat):Pe.r4_Parse.j3 (k+1) m A B true ⟨#[]⟩ ⟨#[]⟩=some (ansQ none):=by
 simp only[Pe.r4_Parse.j3]
 rfl
theorem r4j2_f {A B:ByteArray} (m:Bool) (la:A.size≤3000) (lb:B.size≤3000) (k:Nat) (hk:10020≤k) :
  Pe.r4_Parse.j2 k m A B ⟨#[]⟩ ⟨#[]⟩=some (ansQ (resL m A.data.toList B.data.toList)):=by
 obtain⟨k,rfl⟩:∃ m,k=m+1+1:=⟨k-2,by omega⟩
 show Pe.r4_Parse.j2 (k+1+1) m A B _ _ = _
 simp only[Pe.r4_Parse.j2]
 rw[rdigits_f (by omega) (k+1) (by omega),ob_]
 by_cases hA:digL A.data.toList=true
 ·rw[if_pos hA,rdigits_f (by omega) (k+1) (by omega),ob_]
  by_cases hB:digL B.data.toList=true
  ·have e:(!digL B.data.toList)=false:=by rw[hB];rfl
   rw[e]
   simp only[Pe.r4_Parse.j3]
   have mk:=rmake_res (m:=m) hA hB (by rw[← size_len];exact la) (by rw[← size_len];exact lb)
   have za:=num_sz (head_dig' hA).1
   rw[← size_len] at za
   rw[if_neg (by decide),rplain_f (by omega) k (by omega) hA,ob_]
   cases m with
   | true =>
    have hn:=qNeg (x:=(num A.data.toList:Int)) (by rw[szI_nat];omega)
    rw[intB_nat] at hn
    rw[if_pos rfl,hn,ob_,r4j4_f lb hB k (by omega)]
    exact mk
   | false =>
    rw[if_neg (by decide),r4j4_f lb hB k (by omega)]
    have e2:intB (withS false (num A.data.toList))=natB (num A.data.toList):=intB_nat _
    rw[e2] at mk
    exact mk
  ·have e:(!digL B.data.toList)=true:=by rw[(Bool.not_eq_true _).mp hB];rfl
   rw[e,r4j3_true]
   unfold resL
   rw[if_neg (fun z=>hB (Bool.and_eq_true_iff.1 z).2)]
 ·rw[if_neg hA,r4j3_true]
  unfold resL
  rw[if_neg (fun z=>hA (Bool.and_eq_true_iff.1 z).1)]
theorem cut_bytes {t:ByteArray} {c:UInt8} {a b:List UInt8} (h:cutAt c t.data.toList=some (a,b)) :
  (t.extract 0 ((a.length:Int)).toNat).data.toList=a∧(t.extract ((((a.length+1:Nat):Int))).toNat t.size).data.toList=b:=by
 obtain⟨h1,h2,h3⟩:=indexByte_some h
 rw[Int.toNat_natCast,Int.toNat_natCast]
 constructor
 ·rw[Lib.extract_data,h2,List.drop_zero,Nat.sub_zero,List.take_left]
 ·rw[Lib.extract_to_end,h2,← List.drop_drop,List.drop_left]
  rfl
theorem r4j1_f {s t:ByteArray} (m:Bool) (ht:t.data.toList=(cutL s.data.toList).1) (hm:m=(cutL s.data.toList).2) (hs:t.size≤1000) (k:Nat) (hk:10030≤k) :
  Pe.r4_Parse.j1 k t m ⟨#[]⟩ ⟨#[]⟩=some (ansQ (parseA s.data.toList)):=by
 obtain⟨k,rfl⟩:∃ m,k=m+1:=⟨k-1,by omega⟩
 simp only[Pe.r4_Parse.j1]
 have f1:=find_f (s:=t) 47 (by omega) k (by omega)
 have f2:=find_f (s:=t) 46 (by omega) k (by omega)
 have z1:(((47:UInt8).toNat:Nat):Int)=47:=rfl
 have z2:(((46:UInt8).toNat:Nat):Int)=46:=rfl
 rw[z1] at f1
 rw[z2] at f2
 rw[f1,ob_,f2,ob_,parseA_forms,← ht,← hm]
 cases h1:cutAt 47 t.data.toList with
 | some p =>
  obtain⟨a,b⟩:=p
  have l1:=cutAt_len h1
  rw[← size_len] at l1
  obtain⟨c1,c2⟩:=cut_bytes h1
  dsimp only
  rw[if_pos (by omega),if_pos (by omega),if_pos (by omega),w64 (by omega) (by omega),if_pos (by omega),if_pos (by omega),show ((a.length:Int)+1)=((a.length+1:Nat):Int) by omega,r4j2_f m (by rw[size_len,c1];omega) (by rw[size_len,c2];omega) k (by omega),c1,c2]
 | none =>
  dsimp only
  rw[if_neg (by decide)]
  cases h2:cutAt 46 t.data.toList with
  | none =>
   dsimp only
   rw[if_neg (by decide),r4j2_f m (by omega) (by decide) k (by omega)]
  | some p =>
   obtain⟨a,b⟩:=p
   have l1:=cutAt_len h2
   rw[← size_len] at l1
   obtain⟨c1,c2⟩:=cut_bytes h2
   dsimp only
   have s1:(t.extract 0 ((a.length:Int)).toNat).size=a.length:=by rw[size_len,c1]
   have s2:(t.extract ((((a.length+1:Nat):Int))).toNat t.size).size=b.length:=by rw[size_len,c2]
   rw[if_pos (by omega),if_pos (by omega),if_pos (by omega),rdigits_f (by omega) k (by omega),ob_,c1]
   by_cases hA:digL a=true
   ·rw[if_pos hA,w64 (x:=(a.length:Int)+1) (by omega) (by omega),if_pos (by omega),if_pos (by omega),show ((a.length:Int)+1)=((a.length+1:Nat):Int) by omega,rdigits_f (by omega) k (by omega),ob_,c2]
    by_cases hB:digL b=true
    ·have e5:wrap64 (wrap64 ((t.size:Int)-(a.length:Int))-1)=((b.length:Nat):Int):=by
      rw[w64 (x:=(t.size:Int)-(a.length:Int)) (by omega) (by omega),w64 (by omega) (by omega)]
      omega
     rw[if_pos hB,if_pos (by omega),e5,zeros_f (by omega) k (by omega),ob_,if_pos (by rw[zerosB_size];omega),r4j2_f m (by rw[ByteArray.size_append];omega) (by rw[ByteArray.size_append,zerosB_size];show 1+_≤_;omega) k (by omega),ten_list,Joins.data_append,c1,c2,hA,hB,Bool.true_and,if_pos rfl]
    ·rw[if_neg hB,if_neg (fun z=>hB (Bool.and_eq_true_iff.1 z).2)]
     rfl
   ·rw[if_neg hA,if_neg (fun z=>hA (Bool.and_eq_true_iff.1 z).1)]
    rfl
theorem rParse_f {s:ByteArray} (h:s.size≤1100) (k:Nat) (hk:10040≤k):Pe.r4_Parse.f k s=some (parseS s):=by
 obtain⟨k,rfl⟩:∃ j,k=j+1:=⟨k-1,by omega⟩
 unfold Pe.r4_Parse.f
 rw[parseS_ans]
 unfold parseL
 rw[← size_len]
 by_cases h1:1000<s.size
 ·rw[if_pos (show (s.size:Int)>1000 by omega),if_pos h1]
  rfl
 ·rw[if_neg (show ¬ (s.size:Int)>1000 by omega),if_neg h1]
  by_cases h0:s.size=0
  ·rw[if_neg (by omega)]
   simp only[Pe.r4_Parse.j0]
   have hn:s.data.toList=[]:=List.length_eq_zero_iff.1 (by rw[← size_len];exact h0)
   rw[if_neg (by decide),r4j1_f (s:=s) false (by rw[hn];rfl) (by rw[hn];rfl) (by omega) k (by omega)]
  ·rw[if_pos (by omega),if_pos (by omega)]
   obtain⟨c,hc,hb⟩:=bt_get s 0 (by omega)
   have hb':bt s 0=(c.toNat:Int):=hb
   rw[hb']
   simp only[Pe.r4_Parse.j0]
   obtain⟨r,hr⟩:∃ r,s.data.toList=c :: r:=by
    cases hl:s.data.toList with
    | nil=>rw[hl] at hc;cases hc
    | cons x r =>
     rw[hl] at hc
     exact⟨r,by rw[show x=c from Option.some.inj hc]⟩
   by_cases h45:c=45
   ·subst h45
    have ex:(s.extract 1 s.size).data.toList=r:=by rw[Lib.extract_to_end,hr];rfl
    have sx:(s.extract 1 s.size).size≤s.size:=by
     rw[size_len,ex,size_len,hr,List.length_cons]
     omega
    rw[if_pos (by decide),if_pos (by omega),show ((((45:UInt8).toNat:Nat):Int) == 45)=true from rfl,r4j1_f (s:=s) true (by rw[ex,hr];rfl) (by rw[hr];rfl) (by omega) k (by omega)]
   ·have e45:(((c.toNat:Nat):Int) == 45)=false:=by
     rw[beq_eq_false_iff_ne]
     intro e
     exact h45 (UInt8.toNat_inj.1 (by rw[show (45:UInt8).toNat=45 from rfl];omega))
    have cl:cutL (c :: r)=(c :: r,false):=by
     unfold cutL
     split
     ·rename_i e
      rw[List.cons.injEq] at e
      exact absurd e.1 h45
     ·rfl
    rw[e45,if_neg (by decide),r4j1_f (s:=s) false (by rw[hr,cl]) (by rw[hr,cl]) (by omega) k (by omega)]
def smE (x:BB):Bool:=decide (x.1.size+x.2.size≤300)
theorem smE_le {x:BB} (h:smE x=true):x.1.size+x.2.size≤300:=od_ h
def r4_Zeros.f (a0:Int):Option ByteArray:=if (decide (0≤a0)&&decide (a0≤1000000))=true then some (zerosB a0) else none
def r4_Places.f (a0_0 a0_1:ByteArray):Option (Int×Bool):=if smE (a0_0,a0_1)=true then some (placesS (a0_0,a0_1)) else none
def r4_Print.f (a0_0 a0_1:ByteArray):Option ByteArray:=if smE (a0_0,a0_1)=true then some (printS (a0_0,a0_1)) else none
theorem r4_Print.calls (a0_0 a0_1 r:ByteArray) (w:World) (h:r4_Print.f a0_0 a0_1=some r) :
  Calls Tryz.prog 37 #[.agg #[.string a0_0,.string a0_1]] w fun e w'=>e=.returned (.string r)∧Below w.heap.size w w':=by
 unfold r4_Print.f at h
 split at h
 ·rename_i hp
  rw[← rPrint_f (x:=(a0_0,a0_1)) (smE_le hp) 100010 (nr_ _)] at h
  exact Pe.r4_Print.calls 100010 a0_0 a0_1 r w h
 ·cases h
def r4_Parse.f (a0:ByteArray):Option (ByteArray×ByteArray×Int):=if a0.size≤1100 then some (parseS a0) else none
theorem r4_Parse.calls (a0 r1 r2:ByteArray) (r3:Int) (w:World) (h:r4_Parse.f a0=some (r1,r2,r3)) :
  Calls Tryz.prog 26 #[.string a0] w fun e w'=>e=.returned (.tuple #[.agg #[.string r1,.string r2],.int .i64 r3])∧Below w.heap.size w w':=by
 unfold r4_Parse.f at h
 split at h
 ·rename_i hp
  rw[← rParse_f hp 10040 (nr_ _)] at h
  exact Pe.r4_Parse.calls 10040 a0 r1 r2 r3 w h
 ·cases h
namespace Pk
def errW:Option Int→Value
 | none=>.nilIface
 | some c=>.iface 0 (.int .i64 c)
theorem errW_none:errW none=.nilIface:=rfl
theorem errW_some (c:Int):errW (some c)=.iface 0 (.int .i64 c):=rfl
theorem info9:(Tryz.prog.info? 9).map (fun i=>(i.zero,i.size,i.bytes))=some (some (.string ⟨#[]⟩),1,16):=by kernel_rfl
theorem eqA23 (d:Nat) (w:World) (x0 y0 x1 y1:ByteArray) :
  (Op.equalIn (d+2) 23 (.agg #[.string x0,.string x1]) (.agg #[.string y0,.string y1])).run Tryz.prog w=.ok (x0.toList == y0.toList&&(x1.toList == y1.toList)) w:=by
 refine eqA_of Tryz.underlying23 (by kernel_rfl) ?_;refine eqf_cons (by rfl) (by go_simp;rfl) (by go_simp;rfl) (by go_simp) ?_;exact eqf_last (by rfl) (by go_simp;rfl) (by go_simp;rfl) (by go_simp)
end Pk
end Go.Proofs.YtoghmeffpgbcfaaGreatDoor