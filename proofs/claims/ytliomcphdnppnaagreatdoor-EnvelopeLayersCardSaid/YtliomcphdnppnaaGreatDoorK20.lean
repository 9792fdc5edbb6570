/- squeezed. Walks: the deck's items of more le -/
import Derived.Test.YtliomcphdnppnaaGreatDoorK19
set_option linter.unusedVariables false
set_option linter.unusedSimpArgs false
set_option maxRecDepth 100000
set_option maxHeartbeats 12800000
namespace Go.Proofs.YtliomcphdnppnaaGreatDoor
open Go.RowKit
theorem BuildSaid.one {w w':World}{H:Snap}{ps:List Itm}{e:Ending}(h:BuildSaid w H ps e w'):∃ v c x,e=.returned (.tuple #[v,.int .i64 c])∧Gives w H x v w'∧((c=0∧∃ l,x=.mk 5 0 [] l∧zU x=true∧(zG l).length=(zG ps).length∧(ps.length=2→l=ps))∨(c≠0∧x=zn∧¬ (ps.length=2∧(∀ x∈ps,zU x=true)∧zU (.mk 5 0 [] ps)=true))):=by
 obtain⟨v,⟨l,h1,h2,h3,h4,h5⟩ | ⟨c,h1,h2,h3,h4⟩⟩:=h
 ·exact⟨v,0,_,h1,h2,.inl ⟨rfl,l,rfl,h3,h4,h5⟩⟩
 exact⟨v,c,_,h1,h3,.inr ⟨h2,rfl,h4⟩⟩
theorem gM:(zi zn).length≤39:=by
 have:=zC 0 0 [] [] (by omega) (by omega);show(zi (.mk 0 0 [] [])).length≤39
 simp[zG]at this
 omega
theorem oB {B:Nat}:∀ {l:List Itm},(∀ x∈l,(zi x).length≤B)→(zG l).length≤l.length*B
 | [],_=>by simp[zG]
 | x::l,h=>by
  have h1:=h x (by simp);have h2:=oB (l:=l) fun y hy=>h y (by simp[hy])
  rw[zG,List.length_append,List.length_cons,Nat.succ_mul]
  omega
theorem jz {wr:World}{Hr:Snap}(hH:Holds wr Hr) {r0 r:Option Nat}(h0:∀ q,r0=some q→Hr q=none) (h:At0 wr r0 r):∀ q,r=some q→Hr q=none:=fun q hq=>by
 rcases h with h | ⟨g,h1,h2⟩
 ·exact h0 q (by rw[← h,hq])
 rw[hq]at h1;injection h1 with h1;subst h1;exact hH.none_of_ge h2
theorem Dealt.snap {w w':World}{H H' H'':Snap}{g B:Nat}{A:Option Addr}(h:Dealt w H w' H' g) (hl:H'.le H'') (hh:Holds w' H'') (hf:∀ b o,H'' b=some o→H' b=some o∨A.map (·.block)=some b)
  (hA:∀ q,A.map (·.block)=some q→B≤q) (hB:w.heap.size≤B) (hg:g<w.heap.size):Dealt w H w' H'' g:=by
 refine⟨⟨h.grows.grown,h.grows.le.trans hl,hh,fun b o hb=>?_⟩,h.deck.deck.mono hl,hh,se hf h.deck.apart (fun e=>by have:=hA _ e;omega)⟩
 rcases hf b o hb with h1 | h1
 ·exact h.grows.fresh b o h1
 exact .inr (by have:=hA _ h1;omega)
theorem Xh (m:Nat) (hm:m≤8) (ih:jj m):jj (m+1):=by
 intro w H g hTab hD
 have cK:=Hh (gv (m+1));have uG:=hD.deck.lt;have Mu:=hD.alloc zT;have Ti:=hD.grows ((Grows.refl hD.holds).alloc zT);have tJ:=Blk.new w 26 #[.int .i64 0,.int .u64 0,.slice none 0 0,.slice none 0 0];have uw:H w.heap.size=none:=hD.holds.none_of_ge (Nat.le_refl _);have NX:=Hh (yr _ Mu 9 (by omega) (by omega));clear hD;have qM:((m+1:Nat):Int)=(m:Int)+1:=by omega
 rw[qM];have b0:(((m:Int)+1)==0)=false:=by rw[beq_eq_false_iff_ne];omega
 have p0:((m:Int)+1=0)=False:=eq_false (by omega);have L5:IntKind.i64.wrap ((m:Int)+1-1)=(m:Int):=by rw[show(m:Int)+1-1=(m:Int) by omega];exact IntWalk.i64_in _ (by omega)
 have qr:IntKind.i64.wrap (m:Int)=(m:Int):=IntWalk.i64_in _ (by omega);clear qM hm;go_enter Tryz.func45,Tryz.ntmps45
 go_wp2_with fail
 refine NX.out.mono ?_
 rintro e w1 ⟨r,rfl,hr,bd⟩
 have vJ:=Ti.trans bd;have uF:=tJ.dealt bd (by omega);clear NX Ti bd tJ Mu
 rcases(by omega:r=0∨r=1∨r=2∨r=3∨r=4∨r=5∨r=6∨r=7∨r=8) with rfl | rfl | rfl | rfl | rfl | rfl | rfl | rfl | rfl
 ·have NB:=Hh (uR w1 vJ.deck);go_wp2_with fail
  refine NB.out.mono ?_
  rintro e w2 ⟨m',rfl,q8,xt⟩
  have vo:=uF.dealt xt (by omega);have sv:=vJ.trans xt;have q9:=xt.hid uw uF.lt;have rI:=Hh q8;clear NB vJ xt uF uw q8;go_wp2_with (with_reducible refine zx ?_)
  refine stI vo fun wz hTy xI=>?_
  have qE:=sv.gb q9 (Nat.le_refl _) uG xI;go_wp2_with fail
  refine zO rfl rfl hTy rfl rfl zp rfl ?_
  exact⟨_,.mk 0 m' [] [],rfl,⟨none,0,none,0,_,rfl,qE,IsItem.plain _ 0 m' (by omega) rI.out⟩,yv _ _ _ (by simp),by have:=zC 0 m' [] [] (by omega) (by omega);have:=cK.out;simp[zG]at *;omega⟩
 ·have NB:=Hh (uR w1 vJ.deck);go_wp2_with fail
  refine NB.out.mono ?_
  rintro e w2 ⟨m',rfl,q8,xt⟩
  have vo:=uF.dealt xt (by omega);have sv:=vJ.trans xt;have q9:=xt.hid uw uF.lt;have rI:=Hh q8;clear NB vJ xt uF uw q8;go_wp2_with (with_reducible refine zx ?_)
  refine stI vo fun wz hTy xI=>?_
  have qE:=sv.gb q9 (Nat.le_refl _) uG xI;go_wp2_with fail
  refine zO rfl rfl hTy rfl rfl zp rfl ?_
  exact⟨_,.mk 1 m' [] [],rfl,⟨none,0,none,0,_,rfl,qE,IsItem.plain _ 1 m' (by omega) rI.out⟩,yv _ _ _ (by simp),by have:=zC 1 m' [] [] (by omega) (by omega);have:=cK.out;simp[zG]at *;omega⟩
 ·have NB:=Hh (jx w1 vJ.deck 30 (by omega) (by omega));go_wp2_with fail
  refine NB.out.mono ?_
  rintro e w2 ⟨A,c,l,rfl,hl,H2,zK,xt⟩
  have tm:=uF.dealt xt (by omega);have uH:=xt.hid uw uF.lt;have kW:=vJ.trans xt;have RB:=Hh (mQ (A:=A) (c:=c) (l:=l) rfl (by omega) w2 (Src.of_row zK.row xt.holds) xt.holds);have HL:=Hh hl;clear NB vJ xt uF uw hl zK;go_wp2_with fail
  refine RB.out.mono ?_
  rintro e w3 ⟨v3,rfl,ja,jb,jc,jd,H3,rfl,yN,qK⟩
  have vo:=tm.below yN.below;have q9:=yN.none uH tm.lt;have sv:=kW.grown yN;clear tm uH kW yN RB;go_wp2_with (with_reducible refine zx ?_)
  refine stI vo fun wz hTy xI=>?_
  have qE:=sv.gb q9 (Nat.le_refl _) uG xI;go_wp2_with fail
  refine zO rfl rfl hTy rfl rfl zp rfl ?_
  exact⟨_,.mk 2 0 l [],rfl,⟨ja,jb,jc,jd,H3,rfl,qE,qK⟩,yv _ _ _ (by have:=HL.out;omega),by have:=zC 2 0 l [] (by omega) (by omega);have:=cK.out;have:=HL.out;simp[zG]at *;omega⟩
 ·have NB:=Hh (ZJ w1 vJ.deck 8 (by omega) (by omega));go_wp2_with fail
  refine NB.out.mono ?_
  rintro e w2 ⟨s,rfl,hl,xt⟩
  have tm:=uF.dealt xt (by omega);have uH:=xt.hid uw uF.lt;have kW:=vJ.trans xt;have RB:=Hh (eH s (by omega) w2 xt.holds);have HL:=Hh hl;clear NB vJ xt uF uw hl;go_wp2_with fail
  refine RB.out.mono ?_
  rintro e w3 ⟨v3,rfl,ja,jb,jc,jd,H3,rfl,yN,qK⟩
  have vo:=tm.below yN.below;have q9:=yN.none uH tm.lt;have sv:=kW.grown yN;have QG:Hid (s.data.toList.length=s.size):=by rw[Hid];first | rfl | simp
  obtain⟨XT,QV⟩:∃ X,Itm.mk 3 0 s.data.toList []=X:=⟨_,rfl⟩
  rw[QV]at qK⊢;have Mm:=Hh QV;clear tm uH kW yN RB QV;go_wp2_with (with_reducible refine zx ?_)
  refine stI vo fun wz hTy xI=>?_
  have qE:=sv.gb q9 (Nat.le_refl _) uG xI;go_wp2_with fail
  refine zO rfl rfl hTy rfl rfl zp rfl ?_
  exact⟨_,XT,rfl,⟨ja,jb,jc,jd,H3,rfl,qE,qK⟩,by rw[← Mm.out];exact yv _ _ _ (by have:=HL.out;have:=QG.out;omega),by have:=zC 3 0 s.data.toList [] (by omega) (by omega);have:=cK.out;have:=HL.out;have:=QG.out;rw[← Mm.out];simp[zG]at *;omega⟩
 ·have NB:=Hh (yr w1 vJ.deck 4 (by omega) (by omega));go_wp2_with fail
  refine NB.out.mono ?_
  rintro e w2 ⟨n0,rfl,Q0,xt⟩
  have tm:=uF.dealt xt (by omega);have uH:=xt.hid uw uF.lt;have tW:=vJ.trans xt;have rj:=OwnI.nil w2 (w.heap.size+1) H;clear NB vJ xt uF uw;go_wp2_with fail
  go_loopw [6,7] (fun v6 v7 wr=>∃ (kk:Nat) (Hr:Snap) (VA:Option Addr) (vc vn:Nat) (L:List Itm),v7=.int .i64 (kk:Int)∧v6=.slice VA vn vc∧vn=L.length∧Dealt w H wr Hr g∧OwnI wr (w.heap.size+1) (.slice VA vn vc) Hr L∧(∀ z∈L,Modest z∧(zi z).length≤BI m)∧L.length+1*kk≤3∧  Blk wr w.heap.size 26 #[.int .i64 0,.int .u64 0,.slice none 0 0,.slice none 0 0]∧Hr w.heap.size=none∧(∀ q,(Value.slice VA vn vc).ownBlock=some q→Hr q=none)) (fun _ v7 _=>(intOf v7).toNat)
  case atStart=>exact⟨n0,H,_,_,_,[],rfl,rfl,rfl,tW,rj,by simp,by simp;omega,tm,uH,by intro q hq;simp[Value.ownBlock]at hq⟩
  case round =>
  clear tm uH tW rj Q0;obtain⟨kk,Hr,VA,vc,vn,L,rfl,rfl,rfl,qD,wE,N4,RL,rm,uL,j9⟩:=hrel;have qJ:=Hh (And.intro N4 RL);clear N4 RL
  by_cases zB:(0:Int)<(kk:Int)
  ·skip
   have IT:=Hh (ih wr Hr g (hTab.mono qD.le) qD.deck);go_wp2_with fail
   refine IT.out.mono ?_
   rintro e w4 ⟨v4,y,rfl,⟨ja,jb,jc,jd,H4,rfl,px,pz⟩,mq,im⟩
   have rl:=((wE.dealt px (by omega)).mono px.le).alloc (.cells (zQ y ja jb jc jd).toArray 26);have Zh:∀ q,(Value.slice VA L.length vc).ownBlock=some q→H4 q=none:=fun q hq=>px.hid (j9 q hq) (wE.lt q hq).2
   have iA:=(rm.dealt px (by omega)).alloc (.cells (zQ y ja jb jc jd).toArray 26);have Ya:=px.hid uL rm.lt;have pE:=(qD.trans px).alloc (.cells (zQ y ja jb jc jd).toArray 26);have HY:=Hh (And.intro mq im);clear IT px qD wE rm j9 uL mq im;go_wp2_with (at_builtin;refine zM ?_)
   refine wm rfl (.tmp 73) (.tmp 78) rfl (w.heap.size+1) (.slice VA L.length vc) H4 _ rfl rl _ 1 _ (zQ y ja jb jc jd) [y] rfl rfl (ItemsC.one pz) (Src.new _ _ _ _ rfl _ rfl) (by have:=qJ.out.2;simp;omega) (by have:=iA.lt;simp only[zr]at this⊢;omega) fun v' w7 vX wh hat7=>?_
   obtain⟨VA',vc',rfl,_⟩:=vX.form;have Wj:=iA.grown wh (fun e=>by have:=(rl.lt _ e).1;omega);have mz:=jz pE.holds Zh hat7;have ii:=pE.grownRow Zh (fun q hq=>by have:=(rl.lt q hq).1;omega) uG wh;obtain⟨L',WS⟩:∃ L',L++[y]=L':=⟨_,rfl⟩
   rw[WS]at vX mz⊢
   have g9:Hid ((∀ z∈L',Modest z∧(zi z).length≤BI m)∧L'.length=L.length+1):=by
    rw[Hid,← WS]
    refine⟨fun z hz=>?_,by simp⟩
    rw[List.mem_append]at hz
    rcases hz with hz | hz
    ·exact qJ.out.1 z hz
    rw[List.mem_singleton.1 hz];exact HY.out
   clear WS rl Zh iA pE wh hat7 pz;have cS:IntKind.i64.wrap ((kk:Int)-1)=(kk:Int)-1:=IntWalk.i64_in _ (by have:=qJ.out.2;omega);go_wp2_with fail
   go_roundw
   case rel=>exact⟨kk-1,_,VA',vc',_,L',by rw[show((kk-1:Nat):Int)=(kk:Int)-1 by omega],rfl,rfl,ii,vX,g9.out.1,by have:=g9.out.2;have:=qJ.out.2;omega,Wj,Ya,mz⟩
   case measure=>simp[intOf];omega
  skip
  obtain⟨H5,qL,U0,vC,L8,rU,rH,iX⟩:=wE.snap qD.holds (fun q hq=>j9 q (qg hq));have nk:∀ q,VA.map (·.block)=some q→w.heap.size+1≤q:=fun q hq=>(wE.lt q (qg hq)).1
  have Yx:H5 w.heap.size=none:=se vC uL (fun e=>by have:=nk _ e;omega);have py:Dealt w H wr H5 g:=qD.snap (B:=w.heap.size+1) qL U0 vC nk (by omega) uG;obtain⟨x7,o0⟩:∃ x,Itm.mk 4 0 [] L=x:=⟨_,rfl⟩
  have cB:ItemA H5 4 0 none 0 0 VA L.length vc x7:=by
   refine⟨by rw[← o0];rfl,by rw[← o0];rfl,by rw[← o0];rfl,by rw[← o0];rfl, ?_⟩
   rw[← o0]
   exact IsRowI.item ⟨rU,rH,iX⟩ 4 (by omega) 0 (by omega)
  have WH:=Hh (e8 (hTab.mono py.le) cB _ py.holds)
  have TW:=Hh (show Modest x7∧(zi x7).length≤9+6*BI m by
   rw[← o0]
   refine⟨by rw[Modest];exact⟨by simp,by have:=qJ.out.2;omega,ModestL.of fun z hz=>(qJ.out.1 z hz).1⟩, ?_⟩
   have h1:=zC 4 0 [] L (by omega) (by omega);have h2:=oB (fun z hz=>(qJ.out.1 z hz).2);have h3:L.length*BI m≤6*BI m:=Nat.mul_le_mul_right _ (by have:=qJ.out.2;omega)
   simp only[List.length_nil]at h1
   omega)
  clear wE vC iX cB o0 U0 qL uL j9 nk qD;go_wp2_with fail
  refine WH.out.mono ?_
  rintro e w8 ⟨v8,y8,rfl,⟨qa,qb,qc,qd,H8,rfl,yA,my⟩,hy8⟩
  have vo:=rm.below yA.below;have q9:=yA.none Yx rm.lt;have sv:=py.grown yA;have HY:=Hh hy8;clear WH rm yA py Yx hy8;go_wp2_with (with_reducible refine zx ?_)
  refine stI vo fun wz hTy xI=>?_
  have qE:=sv.gb q9 (Nat.le_refl _) uG xI;go_wp2_with fail
  refine zO rfl rfl hTy rfl rfl zp rfl ?_
  refine⟨_,y8,rfl,⟨qa,qb,qc,qd,H8,rfl,qE,my⟩, ?_⟩
  rcases HY.out with rfl | rfl
  ·exact⟨TW.out.1,by have:=TW.out.2;rw[BI];omega⟩
  exact⟨yB,Nat.le_trans gM (gv _)⟩
 ·have NB:=Hh (yr w1 vJ.deck 4 (by omega) (by omega));go_wp2_with fail
  refine NB.out.mono ?_
  rintro e w2 ⟨n0,rfl,Q0,xt⟩
  have tm:=uF.dealt xt (by omega);have uH:=xt.hid uw uF.lt;have tW:=vJ.trans xt;have rj:=OwnI.nil w2 (w.heap.size+1) H;clear NB vJ xt uF uw;go_wp2_with fail
  go_loopw [6,7] (fun v6 v7 wr=>∃ (kk:Nat) (Hr:Snap) (VA:Option Addr) (vc vn:Nat) (L:List Itm),v7=.int .i64 (kk:Int)∧v6=.slice VA vn vc∧vn=L.length∧Dealt w H wr Hr g∧OwnI wr (w.heap.size+1) (.slice VA vn vc) Hr L∧(∀ z∈L,Modest z∧(zi z).length≤BI m)∧L.length+2*kk≤6∧  Blk wr w.heap.size 26 #[.int .i64 0,.int .u64 0,.slice none 0 0,.slice none 0 0]∧Hr w.heap.size=none∧(∀ q,(Value.slice VA vn vc).ownBlock=some q→Hr q=none)) (fun _ v7 _=>(intOf v7).toNat)
  case atStart=>exact⟨n0,H,_,_,_,[],rfl,rfl,rfl,tW,rj,by simp,by simp;omega,tm,uH,by intro q hq;simp[Value.ownBlock]at hq⟩
  case round =>
  clear tm uH tW rj Q0;obtain⟨kk,Hr,VA,vc,vn,L,rfl,rfl,rfl,qD,wE,N4,RL,rm,uL,j9⟩:=hrel;have qJ:=Hh (And.intro N4 RL);clear N4 RL
  by_cases zB:(0:Int)<(kk:Int)
  ·skip
   have IT:=Hh (ih wr Hr g (hTab.mono qD.le) qD.deck);go_wp2_with fail
   refine IT.out.mono ?_
   rintro e w4 ⟨v4,y,rfl,⟨ja,jb,jc,jd,H4,rfl,px,pz⟩,mq,im⟩
   have rl:=((wE.dealt px (by omega)).mono px.le).alloc (.cells (zQ y ja jb jc jd).toArray 26);have Zh:∀ q,(Value.slice VA L.length vc).ownBlock=some q→H4 q=none:=fun q hq=>px.hid (j9 q hq) (wE.lt q hq).2
   have iA:=(rm.dealt px (by omega)).alloc (.cells (zQ y ja jb jc jd).toArray 26);have Ya:=px.hid uL rm.lt;have pE:=(qD.trans px).alloc (.cells (zQ y ja jb jc jd).toArray 26);have HY:=Hh (And.intro mq im);clear IT px qD wE rm j9 uL mq im;go_wp2_with (at_builtin;refine zM ?_)
   refine wm rfl (.tmp 73) (.tmp 78) rfl (w.heap.size+1) (.slice VA L.length vc) H4 _ rfl rl _ 1 _ (zQ y ja jb jc jd) [y] rfl rfl (ItemsC.one pz) (Src.new _ _ _ _ rfl _ rfl) (by have:=qJ.out.2;simp;omega) (by have:=iA.lt;simp only[zr]at this⊢;omega) fun v' w7 vX wh hat7=>?_
   obtain⟨VA',vc',rfl,_⟩:=vX.form;have Wj:=iA.grown wh (fun e=>by have:=(rl.lt _ e).1;omega);have mz:=jz pE.holds Zh hat7;have ii:=pE.grownRow Zh (fun q hq=>by have:=(rl.lt q hq).1;omega) uG wh;obtain⟨L',WS⟩:∃ L',L++[y]=L':=⟨_,rfl⟩
   rw[WS]at vX mz⊢
   have g9:Hid ((∀ z∈L',Modest z∧(zi z).length≤BI m)∧L'.length=L.length+1):=by
    rw[Hid,← WS]
    refine⟨fun z hz=>?_,by simp⟩
    rw[List.mem_append]at hz
    rcases hz with hz | hz
    ·exact qJ.out.1 z hz
    rw[List.mem_singleton.1 hz];exact HY.out
   clear WS rl Zh iA pE wh hat7 pz;have La:Hid ((∀ z∈L',Modest z∧(zi z).length≤BI m)∧L'.length+1+2*(kk-1)≤6):=⟨g9.out.1,by have:=g9.out.2;have:=qJ.out.2;omega⟩
   clear qJ g9;obtain⟨wr2,IW⟩:∃ x,w7=x:=⟨_,rfl⟩
   subst IW;obtain⟨qJ,qD,wE,rm,uL,j9⟩:=And.intro La (And.intro ii (And.intro vX (And.intro Wj (And.intro Ya mz))));clear La ii vX Wj Ya mz HY;have IT:=Hh (ih w7 H4 g (hTab.mono qD.le) qD.deck);go_wp2_with fail
   refine IT.out.mono ?_
   rintro e w14 ⟨v4,z',rfl,⟨ja,jb,jc,jd,Jx,rfl,px,pz⟩,mq,im⟩
   have rl:=((wE.dealt px (by omega)).mono px.le).alloc (.cells (zQ z' ja jb jc jd).toArray 26);have Zh:∀ q,(Value.slice VA' L'.length vc').ownBlock=some q→Jx q=none:=fun q hq=>px.hid (j9 q hq) (wE.lt q hq).2
   have iA:=(rm.dealt px (by omega)).alloc (.cells (zQ z' ja jb jc jd).toArray 26);have Ya:=px.hid uL rm.lt;have pE:=(qD.trans px).alloc (.cells (zQ z' ja jb jc jd).toArray 26);have HY:=Hh (And.intro mq im);clear IT px qD wE rm j9 uL mq im;go_wp2_with (at_builtin;refine zM ?_)
   refine wm rfl (.tmp 82) (.tmp 87) rfl (w.heap.size+1) (.slice VA' L'.length vc') Jx _ rfl rl _ 1 _ (zQ z' ja jb jc jd) [z'] rfl rfl (ItemsC.one pz) (Src.new _ _ _ _ rfl _ rfl) (by have:=qJ.out.2;simp;omega) (by have:=iA.lt;simp only[zr]at this⊢;omega) fun v' w17 vX wh hat7=>?_
   obtain⟨VA2,vc2,rfl,_⟩:=vX.form;have Wj:=iA.grown wh (fun e=>by have:=(rl.lt _ e).1;omega);have mz:=jz pE.holds Zh hat7;have ii:=pE.grownRow Zh (fun q hq=>by have:=(rl.lt q hq).1;omega) uG wh;obtain⟨L2,WS⟩:∃ L2,L'++[z']=L2:=⟨_,rfl⟩
   rw[WS]at vX mz⊢
   have g9:Hid ((∀ z∈L2,Modest z∧(zi z).length≤BI m)∧L2.length=L'.length+1):=by
    rw[Hid,← WS]
    refine⟨fun z hz=>?_,by simp⟩
    rw[List.mem_append]at hz
    rcases hz with hz | hz
    ·exact qJ.out.1 z hz
    rw[List.mem_singleton.1 hz];exact HY.out
   clear WS rl Zh iA pE wh hat7 pz;have cS:IntKind.i64.wrap ((kk:Int)-1)=(kk:Int)-1:=IntWalk.i64_in _ (by have:=qJ.out.2;omega);go_wp2_with fail
   go_roundw
   case rel=>exact⟨kk-1,_,VA2,vc2,_,L2,by rw[show((kk-1:Nat):Int)=(kk:Int)-1 by omega],rfl,rfl,ii,vX,g9.out.1,by have:=g9.out.2;have:=qJ.out.2;omega,Wj,Ya,mz⟩
   case measure=>simp[intOf];omega
  skip
  obtain⟨H5,qL,U0,vC,L8,rU,rH,iX⟩:=wE.snap qD.holds (fun q hq=>j9 q (qg hq));have nk:∀ q,VA.map (·.block)=some q→w.heap.size+1≤q:=fun q hq=>(wE.lt q (qg hq)).1
  have Yx:H5 w.heap.size=none:=se vC uL (fun e=>by have:=nk _ e;omega);have py:Dealt w H wr H5 g:=qD.snap (B:=w.heap.size+1) qL U0 vC nk (by omega) uG;have BD:=Hh (Y5 (hTab.mono py.le) (IsRowI.two rU rH iX) (by have:=qJ.out.2;omega) wr py.holds);clear wE vC iX U0 qL uL j9 nk qD;go_wp2_with fail
  refine BD.out.mono ?_
  intro e w8 km
  obtain⟨v8,c,y8,rfl,⟨qa,qb,qc,qd,H8,rfl,yA,my⟩,NF⟩:=km.one;have RS:=rm.below yA.below;have Qh:=yA.none Yx rm.lt;have cQ:=py.grown yA;have vo:=RS.alloc (zh y8 qa qb qc qd);have i8:=Blk.new w8 26 #[.int .i64 y8.kind,.int .u64 y8.n,.slice qa y8.bytes.length qb,.slice qc y8.items.length qd];have sv:=cQ.alloc (zh y8 qa qb qc qd);have q9:=Qh;clear BD rm yA py Yx RS cQ Qh
  rcases NF with ⟨rfl,l,Z8,hvx,iu,_⟩ | ⟨hc,hxz,cD⟩
  ·have KO:=Hh (show Modest y8∧(zi y8).length≤BI (m+1) by
    refine⟨yQ hvx, ?_⟩
    rw[Z8];have h1:=zC 5 0 [] l (by omega) (by omega);have h2:=oB (fun z hz=>(qJ.out.1 z hz).2);have h3:L.length*BI m≤6*BI m:=Nat.mul_le_mul_right _ (by have:=qJ.out.2;omega)
    simp only[List.length_nil]at h1
    rw[BI]
    omega)
   clear Z8 hvx iu;go_upto_region 30 with fail
   go_wp2_with (with_reducible refine zx ?_)
   refine stI vo fun wz hTy xI=>?_
   have qE:=sv.gb q9 (Nat.le_refl _) uG xI;go_wp2_with fail
   refine zO rfl rfl hTy rfl rfl zp rfl ?_
   exact⟨_,y8,rfl,⟨qa,qb,qc,qd,H8,rfl,qE,my⟩,KO.out.1,KO.out.2⟩
  have b1:(c != 0)=true:=by simp[hc]
  have p1:(c=0)=False:=eq_false hc;clear hc cD hxz;go_upto_region 29 with fail
  go_wp2_with (with_reducible refine zx ?_)
  refine stI vo fun wz hTy xI=>?_
  have qE:=sv.gb q9 (Nat.le_refl _) uG xI;go_wp2_with fail
  refine zO rfl rfl hTy rfl rfl zp rfl ?_
  exact⟨_,.mk 5 0 [] [],rfl,⟨none,0,none,0,H8,rfl,qE,IsItem.plain _ 5 0 (by omega) (by omega)⟩,yv _ _ _ (by simp),by have:=zC 5 0 [] [] (by omega) (by omega);have:=gv (m+1);simp[zG]at *;omega⟩
 ·have NB:=Hh (uR w1 vJ.deck);go_wp2_with fail
  refine NB.out.mono ?_
  rintro e w2 ⟨m',rfl,q8,xt⟩
  have tm:=uF.dealt xt (by omega);have tW:=vJ.trans xt;have uH:=xt.hid uw uF.lt;have rI:=Hh q8;clear NB vJ xt uF uw q8;have IT:=Hh (ih w2 H g hTab tW.deck);go_wp2_with fail
  refine IT.out.mono ?_
  rintro e w4 ⟨v4,y,rfl,⟨ja,jb,jc,jd,H4,rfl,px,pz⟩,mq,im⟩
  have iA:=(tm.dealt px (by omega)).alloc (.cells (zQ y ja jb jc jd).toArray 26);have Zh:=px.hid uH tm.lt;have pE:=(tW.trans px).alloc (.cells (zQ y ja jb jc jd).toArray 26);have hO:=OwnI.lit (w:=w4) (ItemsC.one pz) w4.heap.size (Nat.le_refl _) (by simp);have EM:w.heap.size<w4.heap.size:=by have:=tm.lt;have:=px.size;omega
  obtain⟨H5,qL,U0,vC,L8,rU,rH,iX⟩:=hO.snap pE.holds (fun q hq=>by cases hq;exact px.holds.none_of_ge (Nat.le_refl _));have ev:∀ q,q<w4.heap.size→H4 q=none→H5 q=none:=fun q hq h0=>se vC h0 (fun e=>by simp at e;omega)
  have py:Dealt w H (w4.alloc (.cells (zQ y ja jb jc jd).toArray 26)) H5 g:=pE.snap (B:=w4.heap.size) qL U0 vC (fun q hq=>by simp at hq;omega) (by omega) uG;have Yx:=ev _ EM Zh;obtain⟨x7,o0⟩:∃ x,Itm.mk 6 m' [] [y]=x:=⟨_,rfl⟩
  have cB:ItemA H5 6 m' none 0 0 (some ⟨w4.heap.size,0,none⟩) 1 1 x7:=by
   refine⟨by rw[← o0];rfl,by rw[← o0];rfl,by rw[← o0];rfl,by rw[← o0];rfl, ?_⟩
   rw[← o0]
   exact IsRowI.item ⟨rU,rH,iX⟩ 6 (by omega) m' rI.out
  have WH:=Hh (e8 (hTab.mono py.le) cB _ py.holds)
  have TW:=Hh (show Modest x7∧(zi x7).length≤9+BI m by
   rw[← o0]
   refine⟨by rw[Modest,ModestL,ModestL];exact⟨by simp,by simp,mq,trivial⟩, ?_⟩
   have:=zC 6 m' [] [y] (by omega) (by omega)
   simp[zG]at this
   omega)
  clear IT tm uH tW px pE hO vC iX ev cB pz mq im o0 U0 qL Zh;go_wp2_with fail
  refine WH.out.mono ?_
  rintro e w8 ⟨v8,y8,rfl,⟨qa,qb,qc,qd,H8,rfl,yA,my⟩,hy8⟩
  have vo:=iA.below yA.below;have q9:=yA.none Yx iA.lt;have sv:=py.grown yA;have HY:=Hh hy8;clear WH iA yA py Yx hy8;go_wp2_with (with_reducible refine zx ?_)
  refine stI vo fun wz hTy xI=>?_
  have qE:=sv.gb q9 (Nat.le_refl _) uG xI;go_wp2_with fail
  refine zO rfl rfl hTy rfl rfl zp rfl ?_
  refine⟨_,y8,rfl,⟨qa,qb,qc,qd,H8,rfl,qE,my⟩, ?_⟩
  rcases HY.out with rfl | rfl
  ·exact⟨TW.out.1,by have:=TW.out.2;rw[BI];omega⟩
  exact⟨yB,Nat.le_trans gM (gv _)⟩
 ·have hB:=Blk.new w1 22 #[.int .u64 20,.int .u64 21,.int .u64 22,.int .u64 23,.int .u64 0,.int .u64 19,.int .u64 32,.int .u64 255];have xt:=vJ.alloc (.cells #[.int .u64 20,.int .u64 21,.int .u64 22,.int .u64 23,.int .u64 0,.int .u64 19,.int .u64 32,.int .u64 255] 22);have tm:=uF.alloc (.cells #[.int .u64 20,.int .u64 21,.int .u64 22,.int .u64 23,.int .u64 0,.int .u64 19,.int .u64 32,.int .u64 255] 22);have NB:=Hh (yr _ xt.deck 8 (by omega) (by omega));go_wp2_with fail
  refine NB.out.mono ?_
  rintro e w3 ⟨j,rfl,hj,tW⟩
  have ux:=hB.dealt tW (by have:=vJ.size;omega);obtain⟨v,hc,hP⟩:=ux.pick gz (by kernel_rfl) j (by simp;omega);obtain⟨x,rfl,hx⟩:=qT hP;have vo:=tm.dealt tW (by omega);have q9:=tW.hid uw tm.lt;have sv:=xt.trans tW;have rI:=Hh hx;clear NB hB ux hP vJ xt tW hx uF tm uw;go_wp2_with (with_reducible refine zx ?_)
  refine stI vo fun wz hTy xI=>?_
  have qE:=sv.gb q9 (Nat.le_refl _) uG xI;go_wp2_with fail
  refine zO rfl rfl hTy rfl rfl zp rfl ?_
  exact⟨_,.mk 7 x [] [],rfl,⟨none,0,none,0,_,rfl,qE,IsItem.plain _ 7 x (by omega) rI.out⟩,yv _ _ _ (by simp),Nat.le_trans (lX x) cK.out⟩
 have NB:=Hh (dz w1 vJ.deck);go_wp2_with fail
 refine NB.out.mono ?_
 rintro e w2 ⟨⟨m',rfl,q8⟩,xt⟩
 have vo:=uF.dealt xt (by omega);have sv:=vJ.trans xt;have q9:=xt.hid uw uF.lt;have rI:=Hh q8;clear NB vJ xt uF uw q8;go_wp2_with (with_reducible refine zx ?_)
 refine stI vo fun wz hTy xI=>?_
 have qE:=sv.gb q9 (Nat.le_refl _) uG xI;go_wp2_with fail
 refine zO rfl rfl hTy rfl rfl zp rfl ?_
 exact⟨_,.mk 8 m' [] [],rfl,⟨none,0,none,0,_,rfl,qE,IsItem.plain _ 8 m' (by omega) rI.out⟩,yv _ _ _ (by simp),Nat.le_trans (jJ m') cK.out⟩
theorem XJ (v:Int):∃ x:UInt8,Value.int .u8 (IntKind.u8.wrap v)=zq x:=by
 refine⟨UInt8.ofNat (v%256).toNat, ?_⟩
 have h:(v%256).toNat<256:=by omega
 rw[IntKind.wrap_u8,zq,UInt8.toNat_ofNat_of_lt' (by simpa using h)];congr 1
 omega
theorem UI (v:Int):∃ x:UInt8,Value.int .u8 (v%256)=zq x:=by
 obtain⟨x,hx⟩:=XJ v
 exact⟨x,by rw[← hx,IntKind.wrap_u8]⟩
theorem ZI (q:Int) {n:Nat}(hn:n≤128) (w:World) :
  Calls Tryz.prog 9 #[.int .i64 q,.int .i64 (n:Int)] w fun e w'=>∃ A c l,e=.returned (.slice A n c)∧l.length=n∧Fresh w l (.slice A n c) w':=by
 have zJ:=Below.refl w.heap.size w;go_enter Tryz.func9,Tryz.ntmps9
 go_wp2_with fail
 go_loopw [5,8] (fun v3 v5 wr=>∃ (k:Nat) (VA:Option Addr) (vc vn:Nat) (l:List UInt8),k≤n∧v5=.int .i64 (k:Int)∧v3=.slice VA vn vc∧vn=k∧l.length=k∧OwnB wr w.heap.size (.slice VA vn vc) l∧Below w.heap.size w wr) (fun _ v5 _=>n-(intOf v5).toNat)
 case atStart=>exact⟨0,none,0,0,[],by omega,rfl,rfl,rfl,rfl,OwnB.nil _ _,zJ⟩
 case round =>
 clear zJ;obtain⟨k,VA,vc,vn,l,hk,rfl,rfl,iE,Ra,wE,yO⟩:=hrel;have HK:=Hh hk;have HV:=Hh (And.intro iE Ra);clear hk iE Ra
 by_cases zB:k<n
 ·have ew:(k:Int)<(n:Int):=by omega
  have Ds:decide ((k:Int)<(n:Int))=true:=decide_eq_true ew;have j8:decide (k<n)=true:=decide_eq_true zB;have uK:=Hh zB;go_wp2_with (at_builtin;refine zM ?_)
  unfold zD
  generalize IntKind.u64.wrap q/2 ^ (8*(k%8))+(k:Int)/8=v0
  obtain⟨x,hx⟩:∃ x:UInt8,Value.int .u8 (v0%256)=zq x:=UI _;have HC:Hid ((#[.int .u8 (v0%256)]:Array Value).toList=[x].map zq):=by simp[Hid,← hx]
  have wD:=wE.alloc (.cells #[.int .u8 (v0%256)] 5);have zK:=yO.alloc yO.size (.cells #[.int .u8 (v0%256)] 5)
  refine zo rfl (.tmp 11) (.tmp 24) rfl w.heap.size (.slice VA vn vc) l rfl wD _ 1 _ [x] rfl rfl (Src.new _ _ _ _ rfl _ HC.out) (by have:=HV.out;have:=HK.out;simp;omega) zK.size fun v' w7 vX wh hat7=>?_
  have wJ:=zK.grown wh zK.size (fun q hq=>(wD.lt q hq).1);obtain⟨VA',vc',rfl,eT⟩:=vX.form;clear eT wh hat7 hx wD zK wE yO;obtain⟨m,hm⟩:∃ m,l++[x]=m:=⟨_,rfl⟩
  have HM:Hid (m.length=k+1):=by have:=HV.out;rw[Hid,← hm,List.length_append];simp;omega
  rw[hm]at vX⊢;clear hm;go_wp2_with fail
  go_roundw
  case rel=>exact⟨k+1,VA',vc',_,m,by have:=uK.out;omega,by go_num,rfl,HM.out,HM.out,vX,wJ⟩
  case measure=>have:=uK.out;simp[intOf];omega
 have ew:¬ ((k:Int)<(n:Int)):=by omega
 have Ds:decide ((k:Int)<(n:Int))=false:=decide_eq_false ew;have j8:decide (k<n)=false:=decide_eq_false zB;obtain rfl:vn=n:=by have:=HV.out;have:=HK.out;omega
 have HL:Hid (l.length=vn):=by have:=HV.out;rw[Hid];omega
 clear zB;go_wp2_with fail
 go_ret
 exact⟨VA,vc,rfl,l,HL.out,wE,yO⟩
def rq (a:UInt8):UInt8:=if a &&& 128=0 then a <<< 1 else(a <<< 1) ^^^ 27
def sP (b:UInt8) (k:Nat):UInt8:=UInt8.ofNat (b.toNat*2 ^ k%256+b.toNat/2 ^ (8-k))
def oa:Nat→UInt8
 | 0=>1
 | n+1=>oa n ^^^ rq (oa n)
def Yl (b:UInt8):UInt8:=b ^^^ 99 ^^^ sP b 1 ^^^ sP b 2 ^^^ sP b 3 ^^^ sP b 4
def oJ (n:Nat):List UInt8:=(List.range n).map oa++List.replicate (256-n) 0
def bT (i:Nat):UInt8:=if i<255 then oa i else 0
def eY (i:Nat):UInt8:=if i<255 then oa ((255-i)%255) else 0
def uI (i:Nat):List UInt8:=i.rec (List.replicate 512 0) fun i l=>(l.set (bT i).toNat (Yl (eY i))).set (256+(Yl (eY i)).toNat) (bT i)
def vA (n:Nat) (f:Nat→UInt8) (a:List UInt8) (i:Nat):List UInt8:=(List.range n).map fun j=>if j<i then f j else a.getD j 0
theorem us (n:Nat) (f:Nat→UInt8) (a:List UInt8) (i:Nat):(vA n f a i).length=n:=by simp[vA]
theorem sk {n:Nat}(f:Nat→UInt8) {a:List UInt8}(h:a.length=n):vA n f a 0=a:=by
 apply List.ext_getElem (by simp[vA,h])
 intro j h1 h2
 simp[vA,List.getD_eq_getElem?_getD,List.getElem?_eq_getElem h2]
theorem pB (n:Nat) (f:Nat→UInt8) (a:List UInt8):vA n f a n=(List.range n).map f:=by
 apply List.ext_getElem (by simp[vA])
 intro j h1 h2
 have:j<n:=by simpa using h2
 simp[vA,this]
theorem sf {n i:Nat}(f:Nat→UInt8) (a:List UInt8) (h:i<n):(vA n f a i).set i (f i)=vA n f a (i+1):=by
 apply List.ext_getElem (by simp[vA])
 intro j h1 h2
 simp only[vA,List.getElem_set,List.getElem_map,List.getElem_range]
 by_cases e:i=j
 ·subst e;simp
 rw[if_neg e]
 by_cases e2:j<i
 ·rw[if_pos e2,if_pos (by omega)]
 rw[if_neg e2,if_neg (by omega)]
theorem Ux {n i j:Nat}(f:Nat→UInt8) (a:List UInt8) (h:i≤j) (hj:j<n):(vA n f a i).getD j 0=a.getD j 0:=by
 rw[List.getD_eq_getElem?_getD,List.getElem?_eq_getElem (by rw[us];exact hj),Option.getD_some]
 simp only[vA,List.getElem_map,List.getElem_range]
 rw[if_neg (by omega)]
def Yk (a:UInt8) (m:Nat):UInt8:=if m=1 then a else if m=2 then rq a else a ^^^ rq a
def at_ (a:List UInt8) (i:Nat):UInt8:=a.getD i 0
def ri (a k:List UInt8):List UInt8:=(List.range 16).map fun i=>at_ a i ^^^ at_ k i
def pd (S a:List UInt8) (i:Nat):UInt8:=at_ S (at_ a (i%4+4*((i/4+i%4)%4))).toNat
def vx (S a:List UInt8):List UInt8:=(List.range 16).map (pd S a)
def Yj (a:List UInt8) (i k:Nat):UInt8:=Yk (at_ a (4*(i/4)+(i%4+k)%4)) ([2,3,1,1].getD k 0)
def ph (a:List UInt8):List UInt8:=(List.range 16).map fun i=>0 ^^^ Yj a i 0 ^^^ Yj a i 1 ^^^ Yj a i 2 ^^^ Yj a i 3
def rcU:Nat→UInt8
 | 0=>1
 | n+1=>rq (rcU n)
def kS (S:List UInt8) (w:List UInt8) (m:Nat):UInt8 :=
 at_ w (m-16) ^^^ (if m%16<4 then at_ S (at_ w (16*(m/16)-4+(m%16+1)%4)).toNat ^^^ (if m%16=0 then rcU (m/16-1) else 0) else at_ w (m-4))
def ws (S key:List UInt8):Nat→List UInt8
 | 0=>key
 | n+1=>ws S key n++[kS S (ws S key n) (16+n)]
theorem uo (S key:List UInt8) (h:key.length=16) (n:Nat):(ws S key n).length=16+n:=by
 induction n with
 | zero=>simp[ws,h]
 | succ n ih=>simp[ws,ih];omega
theorem nW (S key:List UInt8) (h:key.length=16) {m n j:Nat}(hm:m≤n) (hj:j<16+m):at_ (ws S key n) j=at_ (ws S key m) j:=by
 induction n with
 | zero=>rw[show m=0 by omega]
 | succ n ih =>
 by_cases e:m=n+1
 ·rw[e]
 have hl:=uo S key h n;rw[← ih (by omega),ws,at_,at_,List.getD_eq_getElem?_getD,List.getElem?_append_left (by omega),← List.getD_eq_getElem?_getD]
def lJ (S key:List UInt8) (i:Nat):List UInt8:=(List.range 16).map fun k=>at_ (ws S key 160) (16*i+k)
def Vk (S key:List UInt8) (i:Nat) (a:List UInt8):List UInt8:=ri (if i<10 then ph (vx S a) else vx S a) (lJ S key i)
def kV (S key b:List UInt8):Nat→List UInt8
 | 0=>ri b (lJ S key 0)
 | n+1=>Vk S key (n+1) (kV S key b n)
def nf:List UInt8:=(uI 256).take 256
def mY (key b:List UInt8):List UInt8:=kV nf key b 10
theorem mU (a k:List UInt8):(ri a k).length=16:=by simp[ri]
theorem jt (S key b:List UInt8) (n:Nat):(kV S key b n).length=16:=by cases n <;> simp[kV,Vk,ri]
theorem qz (key b:List UInt8):(mY key b).length=16:=jt _ _ _ _
theorem Rn (f:Nat→UInt8) {n k:Nat}(h:k<n):at_ ((List.range n).map f) k=f k:=by
 simp[at_,List.getD_eq_getElem?_getD,h]
theorem fc {l:List UInt8}{k:Nat}(h:k<l.length):at_ l k=l[k]:=by
 simp[at_,List.getD_eq_getElem?_getD,h]
def mX:Nat→Nat→List UInt8
 | 0,_=>[]
 | k+1,n=>mX k (n/256)++[UInt8.ofNat (n%256)]
theorem ZE (k n:Nat):(mX k n).length=k:=by
 induction k generalizing n with
 | zero=>rfl
 | succ k ih=>simp[mX,ih]
theorem db (k n:Nat):mX (k+1) n=UInt8.ofNat (n/256 ^ k%256)::mX k n:=by
 induction k generalizing n with
 | zero=>simp[mX]
 | succ k ih =>
 rw[mX,ih,mX,List.cons_append,Nat.div_div_eq_div_mul,Nat.pow_succ,Nat.mul_comm 256]
theorem UF (j k n:Nat) (h:n/256 ^ j=0):mX (j+k) n=List.replicate k 0++mX j n:=by
 induction k with
 | zero=>rfl
 | succ k ih =>
 have e:n/256 ^ (j+k)=0:=by
  rw[Nat.pow_add,← Nat.div_div_eq_div_mul,h,Nat.zero_div]
 rw[show j+(k+1)=(j+k)+1 by omega,db,ih,e,List.replicate_succ];rfl
def ni (f:UInt8) (nonce:List UInt8) (n j:Nat):List UInt8:=f::(nonce++(List.replicate (15-nonce.length-j) 0++mX j n))
def rG (f:UInt8) (nonce:List UInt8) (n:Nat):List UInt8:=f::(nonce++mX (15-nonce.length) n)
theorem pQ (f:UInt8) {nonce:List UInt8}(h:nonce.length≤13) (n:Nat):(rG f nonce n).length=16:=by
 rw[rG,List.length_cons,List.length_append,ZE];omega
theorem UM (f:UInt8) {nonce:List UInt8}{j:Nat}(h:nonce.length+j≤15) (n:Nat):(ni f nonce n j).length=16:=by
 simp only[ni,List.length_cons,List.length_append,ZE,List.length_replicate];omega
theorem XX (f:UInt8) {nonce:List UInt8}{n j:Nat}(h:nonce.length+j=15):ni f nonce n j=rG f nonce n:=by
 rw[ni,rG,show 15-nonce.length-j=0 by omega,show 15-nonce.length=j by omega];rfl
theorem XW (f:UInt8) {nonce:List UInt8}{n j:Nat}(hj:nonce.length+j≤15) (h:n/256 ^ j=0):ni f nonce n j=rG f nonce n:=by
 rw[ni,rG,← UF j (15-nonce.length-j) n h,show j+(15-nonce.length-j)=15-nonce.length by omega]
theorem UN (f:UInt8) {nonce:List UInt8}{n j:Nat}(h:nonce.length+j<15):(ni f nonce n j).set (15-j) (UInt8.ofNat (n/256 ^ j%256))=ni f nonce n (j+1):=by
 obtain⟨z,hz⟩:∃ z,15-nonce.length-j=z+1:=⟨15-nonce.length-j-1,by omega⟩
 rw[ni,ni,db,hz,show 15-nonce.length-(j+1)=z by omega,show 15-j=(nonce.length+z)+1 by omega,List.set_cons_succ,List.set_append_right _ _ (by omega),List.replicate_succ',List.append_assoc,List.set_append_right _ _ (by simp),show nonce.length+z-nonce.length-(List.replicate z (0:UInt8)).length=0 by simp];rfl
def eR (key b x:List UInt8):Nat→List UInt8
 | 0=>x
 | j+1=>mY key (ri (eR key b x j) ((b.drop (16*j)).take 16))
def kU (key x b:List UInt8):List UInt8:=eR key b x ((b.length+15)/16)
theorem Xa (key b:List UInt8) {x:List UInt8}(h:x.length=16) (j:Nat):(eR key b x j).length=16:=by
 cases j with
 | zero=>exact h
 | succ j=>exact qz _ _
theorem rz (key b:List UInt8) {x:List UInt8}(h:x.length=16):(kU key x b).length=16:=Xa _ _ h _
def ft (aad:List UInt8):List UInt8:=UInt8.ofNat (aad.length/256%256)::UInt8.ofNat (aad.length%256)::aad
def qf (nonce aad:List UInt8) (t:Nat):UInt8:=UInt8.ofNat (8*(t/2-1)+14-nonce.length+if aad.length=0 then 0 else 64)
def firstS (nonce:List UInt8):UInt8:=UInt8.ofNat (14-nonce.length)
def bj (key nonce aad plain:List UInt8) (t:Nat):List UInt8 :=
 kU key (if aad.length=0 then kU key (List.replicate 16 0) (rG (qf nonce aad t) nonce plain.length) else kU key (kU key (List.replicate 16 0) (rG (qf nonce aad t) nonce plain.length)) (ft aad)) plain
theorem Uv (key nonce aad plain:List UInt8) (t:Nat):(bj key nonce aad plain t).length=16:=by
 rw[bj]
 refine rz _ _ ?_
 split
 ·exact rz _ _ rfl
 exact rz _ _ (rz _ _ rfl)
def nr (key nonce text:List UInt8) (k:Nat):UInt8:=at_ text k ^^^ at_ (mY key (rG (firstS nonce) nonce (k/16+1))) (k%16)
def bh (key nonce text:List UInt8):List UInt8:=(List.range text.length).map (nr key nonce text)
def ei (key nonce tag:List UInt8):List UInt8:=ri tag (mY key (rG (firstS nonce) nonce 0))
def ly (key nonce aad plain:List UInt8) (t:Nat):List UInt8:=bh key nonce plain++(ei key nonce (bj key nonce aad plain t)).take t
theorem nT (key nonce text:List UInt8):(bh key nonce text).length=text.length:=by simp[bh]
theorem gZ (a:UInt8):BitVec.ofInt 8 (a.toNat:Int)=a.toBitVec:=by
 rw[BitVec.ofInt_natCast]
 exact BitVec.eq_of_toNat_eq (by rw[BitVec.toNat_ofNat];exact Nat.mod_eq_of_lt a.toNat_lt)
theorem V5 (b:BitVec 8):IntKind.u8.wrap (b.toNat:Int)=(b.toNat:Int):=by
 have:=b.isLt;rw[IntKind.wrap_u8]
 omega
theorem xE (a b:UInt8):bits .xor .u8 (a.toNat:Int) (b.toNat:Int)=((a ^^^ b).toNat:Int):=by
 show IntKind.u8.wrap ((BitVec.ofInt 8 (a.toNat:Int) ^^^ BitVec.ofInt 8 (b.toNat:Int)).toNat:Int)=_
 rw[gZ,gZ,V5];rfl
theorem V8 {p:UInt8→Prop}(h:∀ n,n<256→p (UInt8.ofNat n)) (a:UInt8):p a:=by
 have:=h a.toNat a.toNat_lt;rwa [UInt8.ofNat_toNat]at this
theorem Rr:∀ n:Nat,n<256→(bits .and .u8 ((UInt8.ofNat n).toNat:Int) 128=0↔(UInt8.ofNat n) &&& 128=0)∧IntKind.u8.wrap (((UInt8.ofNat n).toNat:Int)*2)=(((UInt8.ofNat n) <<< 1).toNat:Int)∧bits .xor .u8 (((UInt8.ofNat n) <<< 1).toNat:Int) 27=((((UInt8.ofNat n) <<< 1) ^^^ 27).toNat:Int)∧((UInt8.ofNat n).toNat/128=1↔¬ (UInt8.ofNat n) &&& 128=0)∧rq (UInt8.ofNat n) ^^^ UInt8.ofNat n=UInt8.ofNat n ^^^ rq (UInt8.ofNat n):=by
 decide +kernel
theorem gK (a:UInt8):(bits .and .u8 (a.toNat:Int) 128=0↔a &&& 128=0)∧IntKind.u8.wrap ((a.toNat:Int)*2)=((a <<< 1).toNat:Int)∧bits .xor .u8 ((a <<< 1).toNat:Int) 27=(((a <<< 1) ^^^ 27).toNat:Int)∧(a.toNat/128=1↔¬ a &&& 128=0)∧rq a ^^^ a=a ^^^ rq a :=
 V8 (p:=fun a=>(bits .and .u8 (a.toNat:Int) 128=0↔a &&& 128=0)∧IntKind.u8.wrap ((a.toNat:Int)*2)=((a <<< 1).toNat:Int)∧bits .xor .u8 ((a <<< 1).toNat:Int) 27=(((a <<< 1) ^^^ 27).toNat:Int)∧(a.toNat/128=1↔¬ a &&& 128=0)∧rq a ^^^ a=a ^^^ rq a) Rr a
theorem Se:∀ n:Nat,n<256→∀ k:Nat,k<5→bits .or .u8 (IntKind.u8.wrap (((UInt8.ofNat n).toNat:Int)*2 ^ k)) (((UInt8.ofNat n).toNat:Int)/2 ^ (8-k))=((sP (UInt8.ofNat n) k).toNat:Int):=by
 decide +kernel
theorem Y9 (a:UInt8) {k:Nat}(h:k<5):bits .or .u8 (IntKind.u8.wrap ((a.toNat:Int)*2 ^ k)) ((a.toNat:Int)/2 ^ (8-k))=((sP a k).toNat:Int) :=
 V8 (p:=fun a=>∀ k,k<5→bits .or .u8 (IntKind.u8.wrap ((a.toNat:Int)*2 ^ k)) ((a.toNat:Int)/2 ^ (8-k))=((sP a k).toNat:Int)) Se a k h
theorem o8 (a:UInt8) (w:World) :
  Calls Tryz.prog 123 #[zq a] w fun e w'=>e=.returned (zq (rq a))∧w=w':=by
 obtain⟨h1,h2,h3,_⟩:=gK a
 by_cases h:a &&& 128=0
 ·have e0:bits .and .u8 (a.toNat:Int) 128=0:=h1.2 h;have E:Hid (zq (rq a)=.int .u8 (IntKind.u8.wrap ((a.toNat:Int)*2))):=by rw[Hid,rq,if_pos h,h2]
  clear h1 h2 h3 h;go_enter Tryz.func123,Tryz.ntmps123
  go_wp2_with fail
  go_ret
  exact⟨by rw[E.out];rfl,rfl⟩
 have e0:¬ bits .and .u8 (a.toNat:Int) 128=0:=fun e=>h (h1.1 e)
 have e1:(bits .and .u8 (a.toNat:Int) 128 != 0)=true:=by rw[bne_iff_ne];exact e0
 have e2:(bits .and .u8 (a.toNat:Int) 128=0)=False:=eq_false e0;have E:Hid (zq (rq a)=.int .u8 (bits .xor .u8 (IntKind.u8.wrap ((a.toNat:Int)*2)) 27)):=by rw[Hid,rq,if_neg h,h2,h3]
 clear h1 h2 h3 h e0;go_enter Tryz.func123,Tryz.ntmps123
 go_wp2_with fail
 go_ret
 exact⟨by rw[E.out];rfl,rfl⟩
theorem cZ (a:UInt8) (m:Nat) (hm:m=1∨m=2∨m=3) (w:World) :
  Calls Tryz.prog 191 #[zq a,.int .u8 (m:Int)] w fun e w'=>e=.returned (zq (Yk a m))∧w=w':=by
 obtain⟨_,_,_,_,hc⟩:=gK a;have D:=Hh (fun b w=>o8 b w);have z0:bits .and .u8 (1:Int) 1=1:=by kernel_rfl
 have z1:bits .and .u8 (2:Int) 1=0:=by kernel_rfl
 have z2:bits .and .u8 (3:Int) 1=1:=by kernel_rfl
 have x0:bits .xor .u8 0 (a.toNat:Int)=(a.toNat:Int):=by have:=xE 0 a;rwa [UInt8.zero_xor]at this
 have x1:bits .xor .u8 0 ((rq a).toNat:Int)=((rq a).toNat:Int):=by have:=xE 0 (rq a);rwa [UInt8.zero_xor]at this
 have x2:=xE a (rq a)
 rcases hm with rfl | rfl | rfl
 ·go_enter Tryz.func191,Tryz.ntmps191
  go_wp2_with fail
  refine wp_loop_rounds 2 ?_
  rw[rounds_succ];go_wp2_with fail
  refine(D.out _ _).mono ?_
  rintro e w1 ⟨rfl,rfl⟩
  go_wp2_with fail
  rw[rounds_succ];go_wp2_with fail
  go_ret
  exact⟨rfl,rfl⟩
 ·go_enter Tryz.func191,Tryz.ntmps191
  go_wp2_with fail
  refine wp_loop_rounds 3 ?_
  rw[rounds_succ];go_wp2_with fail
  refine(D.out _ _).mono ?_
  rintro e w1 ⟨rfl,rfl⟩
  go_wp2_with fail
  rw[rounds_succ];go_wp2_with fail
  refine(D.out _ _).mono ?_
  rintro e w1 ⟨rfl,rfl⟩
  go_wp2_with fail
  rw[rounds_succ];go_wp2_with fail
  go_ret
  exact⟨rfl,rfl⟩
 go_enter Tryz.func191,Tryz.ntmps191
 go_wp2_with fail
 refine wp_loop_rounds 3 ?_
 rw[rounds_succ];go_wp2_with fail
 refine(D.out _ _).mono ?_
 rintro e w1 ⟨rfl,rfl⟩
 go_wp2_with fail
 rw[rounds_succ];go_wp2_with fail
 refine(D.out _ _).mono ?_
 rintro e w1 ⟨rfl,rfl⟩
 go_wp2_with fail
 rw[rounds_succ];go_wp2_with fail
 go_ret
 exact⟨rfl,rfl⟩
theorem XE (b:UInt8) (k:Nat) (hk:k=1∨k=2∨k=3∨k=4) (w:World) :
  Calls Tryz.prog 124 #[zq b,.int .i64 (k:Int)] w fun e w'=>e=.returned (zq (sP b k))∧w=w':=by
 have R:=Y9 b (show k<5 by omega);have E:Hid (zq (sP b k)=.int .u8 (bits .or .u8 (IntKind.u8.wrap ((b.toNat:Int)*2 ^ k)) ((b.toNat:Int)/2 ^ (8-k)))):=by rw[Hid,R]
 clear R
 rcases hk with rfl | rfl | rfl | rfl
 ·have e1:bits .and .u64 1 7=1:=by kernel_rfl
  have e2:IntKind.u64.wrap (8-1)=7:=by kernel_rfl
  rw[show((1:Nat):Int)=1 from rfl];go_enter Tryz.func124,Tryz.ntmps124
  go_wp2_with fail
  go_ret
  exact⟨by rw[E.out];rfl,rfl⟩
 ·have e1:bits .and .u64 2 7=2:=by kernel_rfl
  have e2:IntKind.u64.wrap (8-2)=6:=by kernel_rfl
  rw[show((2:Nat):Int)=2 from rfl];go_enter Tryz.func124,Tryz.ntmps124
  go_wp2_with fail
  go_ret
  exact⟨by rw[E.out];rfl,rfl⟩
 ·have e1:bits .and .u64 3 7=3:=by kernel_rfl
  have e2:IntKind.u64.wrap (8-3)=5:=by kernel_rfl
  rw[show((3:Nat):Int)=3 from rfl];go_enter Tryz.func124,Tryz.ntmps124
  go_wp2_with fail
  go_ret
  exact⟨by rw[E.out];rfl,rfl⟩
 have e1:bits .and .u64 4 7=4:=by kernel_rfl
 have e2:IntKind.u64.wrap (8-4)=4:=by kernel_rfl
 rw[show((4:Nat):Int)=4 from rfl];go_enter Tryz.func124,Tryz.ntmps124
 go_wp2_with fail
 go_ret
 exact⟨by rw[E.out];rfl,rfl⟩
def zj (l:List UInt8):Array Value:=(l.map zq).toArray
theorem zf (l:List UInt8):(zj l).size=l.length:=by simp[zj]
theorem yT (l:List UInt8) (i:Nat) (h:i<l.length):(zj l)[i]? = some (zq (at_ l i)):=by
 simp[zj,at_,List.getD_eq_getElem?_getD,h]
theorem wM (l:List UInt8) (i:Nat) (u:UInt8):(zj l).setIfInBounds i (zq u)=zj (l.set i u):=by
 simp[zj,List.map_set]
theorem xM (l:List UInt8):(zj l).all (·.oneCell')=true:=by simp[zj,Value.oneCell']
theorem wi:(Tryz.prog.info? 5).map (·.size)=some 1:=by kernel_rfl
theorem uh {P:Program}{ops:Array Oper}{Q:Exit→Act→World→Prop}{rest:List Oper}{a:Act}{w:World}{dst:Option Tmp}{x:Operand}{T:TypeId}{pos:String}{af:Array Edge}{g:Option (Nat×Bool)}(ty:TypeId)
  (h:zD (wpList P ops Q (⟨dst,.load ty x,T,pos,af,g⟩::rest) a w)):wpList P ops Q (⟨dst,.load ty x,T,pos,af,g⟩::rest) a w:=h
def oc (l:List UInt8) (off n:Nat):List UInt8:=(l.drop off).take n
theorem kF {l:List UInt8}{off n:Nat}(h:off+n≤l.length):(oc l off n).length=n:=by
 rw[oc,List.length_take,List.length_drop];omega
theorem vS {l:List UInt8}{n:Nat}(h:l.length=n):oc l 0 n=l:=by rw[oc,List.drop_zero,← h,List.take_length]
theorem Sl {l:List UInt8}{off n k:Nat}(hk:k<n):at_ (oc l off n) k=at_ l (off+k):=by
 simp only[at_,oc,List.getD_eq_getElem?_getD,List.getElem?_take,if_pos hk,List.getElem?_drop]
theorem jX {w:World}{g:Nat}{t:TypeId}{l:List UInt8}(hB:Blk w g t (zj l)) (off n:Nat):w.rangeAt g off ((oc l off n).map zq):=by
 intro j v hj
 refine hB.cell _ ?_
 rw[List.getElem?_map,oc,List.getElem?_take]at hj
 split at hj
 ·rw[List.getElem?_drop]at hj
  simp only[zj,List.getElem?_toArray,List.getElem?_map]
  exact hj
 cases hj
theorem yq {w:World}{ops:Array Oper}{rest:List Oper}{o:Oper}{a:Act}{Q:Exit→Act→World→Prop}(hgd:o.guard=none) (ty:TypeId) (x:Operand) (ho:o.op=.load ty x)
  (g off n:Nat) (hx:a.eval x=.pointer (some ⟨g,off,none⟩)) {t:TypeId} {l:List UInt8} (hB:Blk w g t (zj l)) (hn:off+n≤l.length) (d:TypeDesc)
  (hu:Tryz.prog.underlying ty=some d) (hd:d.isRow=true) (hi:(Tryz.prog.info? ty).map (·.size)=some n)
  (h:wpList Tryz.prog ops Q rest (a.put o.dst (.agg (zj (oc l off n)))) w):wpList Tryz.prog ops Q (o::rest) a w :=
 wpList_load_mid hgd ty x ho g off hx ((oc l off n).map zq) d (jX hB off n) hu hd (by rw[List.length_map,kF hn];exact hi) h
theorem gg:∀ (vs l:List UInt8) (off:Nat),ob (zj l) off (vs.map zq)=zj (l.take off++vs++l.drop (off+vs.length))∨l.length<off+vs.length
 | [],l,off=>by
  left
  rw[List.map_nil,ob,List.append_nil,List.length_nil,Nat.add_zero,List.take_append_drop]
 | v::vs,l,off=>by
  by_cases h:l.length<off+(v::vs).length
  ·exact .inr h
  left
  rw[List.length_cons]at h;rw[List.map_cons,ob,wM]
  rcases gg vs (l.set off v) (off+1) with e | e
  ·rw[e];congr 1
   rw[List.drop_set_of_lt (by omega),List.length_cons,show off+1+vs.length=off+(vs.length+1) by omega,List.take_set,List.take_add_one,List.getElem?_eq_getElem (by omega),List.set_append_right _ _ (by rw[List.length_take];omega)];rw[List.length_take,Nat.min_eq_left (by omega),Nat.sub_self]
   simp
  rw[List.length_set]at e;omega
def spl (l:List UInt8) (off:Nat) (vs:List UInt8):List UInt8:=l.take off++vs++l.drop (off+vs.length)
theorem tw {w:World}{ops:Array Oper}{rest:List Oper}{o:Oper}{a:Act}{Q:Exit→Act→World→Prop}(hgd:o.guard=none) (ty:TypeId) (x y:Operand) (ho:o.op=.store ty x y)
  (hd:o.dst=none) (g off:Nat) (vs:List UInt8) (hx:a.eval x=.pointer (some ⟨g,off,none⟩)) (hy:a.eval y=.agg (zj vs))
  {t:TypeId} {l:List UInt8} (hB:Blk w g t (zj l)) (hi:(Tryz.prog.info? ty).map (·.size)=some vs.length) (hold:off+vs.length≤l.length)
  (h:∀ w',Blk w' g t (zj (spl l off vs))→w.grownBy w' (some g)→wpList Tryz.prog ops Q rest a w') :
  wpList Tryz.prog ops Q (o::rest) a w:=by
 refine wK hgd ty x y ho hd g off (zj vs) hx hy t _ hB (by rw[zf];exact hi) (by rw[zf,zf];exact hold) (xM _) fun w' h2 h3=>h w' ?_ h3
 rcases gg vs l off with e | e
 ·rw[show(zj vs).toList=vs.map zq by simp[zj],e]at h2
  exact h2
 omega
theorem ZS {l vs:List UInt8}(h:vs.length=l.length):spl l 0 vs=vs:=by
 rw[spl,List.take_zero,List.nil_append,Nat.zero_add,h,List.drop_length,List.append_nil]
end Go.Proofs.YtliomcphdnppnaaGreatDoor
