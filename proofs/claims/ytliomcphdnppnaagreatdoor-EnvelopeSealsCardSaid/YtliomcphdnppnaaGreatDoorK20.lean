/- squeezed. Walks: the deck's items of more le -/
import Derived.Test.YtliomcphdnppnaaGreatDoorK19
set_option linter.unusedVariables false
set_option linter.unusedSimpArgs false
set_option maxRecDepth 100000
set_option maxHeartbeats 12800000
namespace Go.Proofs.YtliomcphdnppnaaGreatDoor
open Go.RowKit
theorem zpn:∀ {l:List Itm}{x:Itm},l.length%2=0→x∈l→∃ q,q∈ze l∧(x=q.1∨x=q.2)
 | [],x,_,h=>by cases h
 | [_],_,h,_=>by simp at h
 | a::b::l,x,h,hx=>by
  rw [ze]
  simp only [List.mem_cons] at hx
  rcases hx with rfl | rfl | hx
  · exact ⟨_,List.mem_cons_self,.inl rfl⟩
  · exact ⟨_,List.mem_cons_self,.inr rfl⟩
  · obtain ⟨q,h1,h2⟩:=zpn (l:=l) (by simp at h;omega) hx
    exact ⟨q,List.mem_cons_of_mem _ h1,h2⟩
theorem zpm {l L:List Itm}(h:∀ q,q∈ze l↔q∈ze L) (he:l.length%2=0):∀ x∈l,x∈L:=fun x hx=>by
 obtain ⟨q,h1,h2⟩:=zpn he hx
 have:=xK ((h q).1 h1)
 rcases h2 with rfl | rfl
 · exact this.1
 · exact this.2
theorem BuildSaid.one {w w':World}{H:Snap}{ps:List Itm}{e:Ending}(h:BuildSaid w H ps e w'):∃ v c x,e=.returned (.tuple #[v,.int .i64 c])∧Gives w H x v w'∧((c=0∧∃ l,x=.mk 5 0 [] l∧zX x=true∧(zM l).length=(zM ps).length∧(ps.length=2→l=ps))∨(c≠0∧x=zm∧¬ (ps.length=2∧(∀ x∈ps,zX x=true)∧zX (.mk 5 0 [] ps)=true))):=by
 obtain⟨v,⟨l,h1,h2,h3,h4,h5⟩ | ⟨c,h1,h2,h3,h4⟩⟩:=h
 ·exact⟨v,0,_,h1,h2,.inl ⟨rfl,l,rfl,h3,h4,h5⟩⟩
 exact⟨v,c,_,h1,h3,.inr ⟨h2,rfl,h4⟩⟩
theorem iJ:(zh zm).length≤39:=by
 have:=yg 0 0 [] [] (by omega) (by omega);show(zh (.mk 0 0 [] [])).length≤39
 simp[zM]at this
 omega
theorem lA {wr:World}{Hr:Snap}(hH:Holds wr Hr) {r0 r:Option Nat}(h0:∀ q,r0=some q→Hr q=none) (h:At0 wr r0 r):∀ q,r=some q→Hr q=none:=fun q hq=>by
 rcases h with h | ⟨g,h1,h2⟩
 ·exact h0 q (by rw[← h,hq])
 rw[hq]at h1;injection h1 with h1;subst h1;exact hH.none_of_ge h2
theorem Dealt.snap {w w':World}{H H' H'':Snap}{g B:Nat}{A:Option Addr}(h:Dealt w H w' H' g) (hl:H'.le H'') (hh:Holds w' H'') (hf:∀ b o,H'' b=some o→H' b=some o∨A.map (·.block)=some b)
  (hA:∀ q,A.map (·.block)=some q→B≤q) (hB:w.heap.size≤B) (hg:g<w.heap.size):Dealt w H w' H'' g:=by
 refine⟨⟨h.grows.grown,h.grows.le.trans hl,hh,fun b o hb=>?_⟩,h.deck.deck.mono hl,hh,tA hf h.deck.apart (fun e=>by have:=hA _ e;omega)⟩
 rcases hf b o hb with h1 | h1
 ·exact h.grows.fresh b o h1
 exact .inr (by have:=hA _ h1;omega)
theorem ZP (m:Nat) (hm:m≤8) (ih:kY m):kY (m+1):=by
 intro w H g hTab hD
 have da:=Hh (lN (m+1));have wH:=hD.deck.lt;have P7:=hD.alloc zW;have Vm:=hD.grows ((Grows.refl hD.holds).alloc zW);have tv:=Blk.new w 26 #[.int .i64 0,.int .u64 0,.slice none 0 0,.slice none 0 0];have uY:H w.heap.size=none:=hD.holds.none_of_ge (Nat.le_refl _);have NX:=Hh (zA _ P7 9 (by omega) (by omega));clear hD;have pJ:((m+1:Nat):Int)=(m:Int)+1:=by omega
 rw[pJ];have b0:(((m:Int)+1)==0)=false:=by rw[beq_eq_false_iff_ne];omega
 have p0:((m:Int)+1=0)=False:=eq_false (by omega);have Dg:IntKind.i64.wrap ((m:Int)+1-1)=(m:Int):=by rw[show(m:Int)+1-1=(m:Int) by omega];exact IntWalk.i64_in _ (by omega)
 have qe:IntKind.i64.wrap (m:Int)=(m:Int):=IntWalk.i64_in _ (by omega);clear pJ hm;go_enter Tryz.func45,Tryz.ntmps45
 go_wp2_with fail
 refine NX.out.mono ?_
 rintro e w1 ⟨r,rfl,hr,dK⟩
 have vH:=Vm.trans dK;have uu:=tv.dealt dK (by omega);clear NX Vm dK tv P7
 rcases(by omega:r=0∨r=1∨r=2∨r=3∨r=4∨r=5∨r=6∨r=7∨r=8) with rfl | rfl | rfl | rfl | rfl | rfl | rfl | rfl | rfl
 ·have NB:=Hh (uT w1 vH.deck);go_wp2_with fail
  refine NB.out.mono ?_
  rintro e w2 ⟨m',rfl,qL,xy⟩
  have vg:=uu.dealt xy (by omega);have tF:=vH.trans xy;have qM:=xy.hid uY uu.lt;have od:=Hh qL;clear NB vH xy uu uY qL;go_wp2_with (with_reducible refine zx ?_)
  refine stI vg fun wz hTy wm=>?_
  have qR:=tF.grownRow (row:=some w.heap.size) (by rintro q ⟨⟩;exact qM) (by rintro q ⟨⟩;exact Nat.le_refl _) wH wm;go_wp2_with fail
  refine zR rfl rfl hTy rfl rfl zp rfl ?_
  exact⟨_,.mk 0 m' [] [],rfl,⟨none,0,none,0,_,rfl,qR,IsItem.plain _ 0 m' (by omega) od.out⟩,yx _ _ _ (by simp),yH (by have:=yg 0 m' [] [] (by omega) (by omega);have:=da.out;simp[zM]at *;omega)⟩
 ·have NB:=Hh (uT w1 vH.deck);go_wp2_with fail
  refine NB.out.mono ?_
  rintro e w2 ⟨m',rfl,qL,xy⟩
  have vg:=uu.dealt xy (by omega);have tF:=vH.trans xy;have qM:=xy.hid uY uu.lt;have od:=Hh qL;clear NB vH xy uu uY qL;go_wp2_with (with_reducible refine zx ?_)
  refine stI vg fun wz hTy wm=>?_
  have qR:=tF.grownRow (row:=some w.heap.size) (by rintro q ⟨⟩;exact qM) (by rintro q ⟨⟩;exact Nat.le_refl _) wH wm;go_wp2_with fail
  refine zR rfl rfl hTy rfl rfl zp rfl ?_
  exact⟨_,.mk 1 m' [] [],rfl,⟨none,0,none,0,_,rfl,qR,IsItem.plain _ 1 m' (by omega) od.out⟩,yx _ _ _ (by simp),yH (by have:=yg 1 m' [] [] (by omega) (by omega);have:=da.out;simp[zM]at *;omega)⟩
 ·have NB:=Hh (kz w1 vH.deck 30 (by omega) (by omega));go_wp2_with fail
  refine NB.out.mono ?_
  rintro e w2 ⟨A,c,l,rfl,hl,H2,zG,xy⟩
  have ug:=uu.dealt xy (by omega);have uB:=xy.hid uY uu.lt;have lU:=vH.trans xy;have RB:=Hh (t8 (A:=A) (c:=c) (l:=l) rfl (by omega) w2 (Src.of_row zG.row xy.holds) xy.holds);have HL:=Hh hl;clear NB vH xy uu uY hl zG;go_wp2_with fail
  refine RB.out.mono ?_
  rintro e w3 ⟨v3,rfl,ja,jb,jc,jd,H3,rfl,ye,rp⟩
  have vg:=ug.below ye.below;have qM:=ye.none uB ug.lt;have tF:=lU.grown ye;clear ug uB lU ye RB;go_wp2_with (with_reducible refine zx ?_)
  refine stI vg fun wz hTy wm=>?_
  have qR:=tF.grownRow (row:=some w.heap.size) (by rintro q ⟨⟩;exact qM) (by rintro q ⟨⟩;exact Nat.le_refl _) wH wm;go_wp2_with fail
  refine zR rfl rfl hTy rfl rfl zp rfl ?_
  exact⟨_,.mk 2 0 l [],rfl,⟨ja,jb,jc,jd,H3,rfl,qR,rp⟩,yx _ _ _ (by have:=HL.out;omega),yH (by have:=yg 2 0 l [] (by omega) (by omega);have:=da.out;have:=HL.out;simp[zM]at *;omega)⟩
 ·have NB:=Hh (ag w1 vH.deck 8 (by omega) (by omega));go_wp2_with fail
  refine NB.out.mono ?_
  rintro e w2 ⟨s,rfl,hl,xy⟩
  have ug:=uu.dealt xy (by omega);have uB:=xy.hid uY uu.lt;have lU:=vH.trans xy;have RB:=Hh (lC s (by omega) w2 xy.holds);have HL:=Hh hl;clear NB vH xy uu uY hl;go_wp2_with fail
  refine RB.out.mono ?_
  rintro e w3 ⟨v3,rfl,ja,jb,jc,jd,H3,rfl,ye,rp⟩
  have vg:=ug.below ye.below;have qM:=ye.none uB ug.lt;have tF:=lU.grown ye;have S9:Hid (s.data.toList.length=s.size):=by rw[Hid];first | rfl | simp
  obtain⟨XT,Sh⟩:∃ X,Itm.mk 3 0 s.data.toList []=X:=⟨_,rfl⟩
  rw[Sh]at rp⊢;have Ow:=Hh Sh;clear ug uB lU ye RB Sh;go_wp2_with (with_reducible refine zx ?_)
  refine stI vg fun wz hTy wm=>?_
  have qR:=tF.grownRow (row:=some w.heap.size) (by rintro q ⟨⟩;exact qM) (by rintro q ⟨⟩;exact Nat.le_refl _) wH wm;go_wp2_with fail
  refine zR rfl rfl hTy rfl rfl zp rfl ?_
  exact⟨_,XT,rfl,⟨ja,jb,jc,jd,H3,rfl,qR,rp⟩,by rw[← Ow.out];exact yx _ _ _ (by have:=HL.out;have:=S9.out;omega),by rw[← Ow.out];exact yH (by have:=yg 3 0 s.data.toList [] (by omega) (by omega);have:=da.out;have:=HL.out;have:=S9.out;simp[zM]at *;omega)⟩
 ·have NB:=Hh (zA w1 vH.deck 4 (by omega) (by omega));go_wp2_with fail
  refine NB.out.mono ?_
  rintro e w2 ⟨n0,rfl,Rl,xy⟩
  have ug:=uu.dealt xy (by omega);have uB:=xy.hid uY uu.lt;have uA:=vH.trans xy;have pG:=OwnI.nil w2 (w.heap.size+1) H;clear NB vH xy uu uY;go_wp2_with fail
  go_loopw [6,7] (fun v6 v7 wr=>∃ (kk:Nat) (Hr:Snap) (VA:Option Addr) (vc vn:Nat) (L:List Itm),v7=.int .i64 (kk:Int)∧v6=.slice VA vn vc∧vn=L.length∧Dealt w H wr Hr g∧OwnI wr (w.heap.size+1) (.slice VA vn vc) Hr L∧(∀ z∈L,Modest z∧Lim m z)∧L.length+1*kk≤3∧  Blk wr w.heap.size 26 #[.int .i64 0,.int .u64 0,.slice none 0 0,.slice none 0 0]∧Hr w.heap.size=none∧(∀ q,(Value.slice VA vn vc).ownBlock=some q→Hr q=none)) (fun _ v7 _=>(intOf v7).toNat)
  case atStart=>exact⟨n0,H,_,_,_,[],rfl,rfl,rfl,uA,pG,by simp,by simp;omega,ug,uB,by intro q hq;simp[Value.ownBlock]at hq⟩
  case round =>
  clear ug uB uA pG Rl;obtain⟨kk,Hr,VA,vc,vn,L,rfl,rfl,rfl,qQ,wG,PI,jZ,sJ,uj,nZ⟩:=hrel;have qG:=Hh (And.intro PI jZ);clear PI jZ
  by_cases zB:(0:Int)<(kk:Int)
  ·skip
   have IT:=Hh (ih wr Hr g (hTab.mono qQ.le) qQ.deck);go_wp2_with fail
   refine IT.out.mono ?_
   rintro e w4 ⟨v4,y,rfl,⟨ja,jb,jc,jd,H4,rfl,rn,qK⟩,nY,jj⟩
   have pH:=((wG.dealt rn (by omega)).mono rn.le).alloc (.cells (zZ y ja jb jc jd).toArray 26);have bQ:∀ q,(Value.slice VA L.length vc).ownBlock=some q→H4 q=none:=fun q hq=>rn.hid (nZ q hq) (wG.lt q hq).2
   have lz:=(sJ.dealt rn (by omega)).alloc (.cells (zZ y ja jb jc jd).toArray 26);have fV:=rn.hid uj sJ.lt;have sL:=(qQ.trans rn).alloc (.cells (zZ y ja jb jc jd).toArray 26);have HY:=Hh (And.intro nY jj);clear IT rn qQ wG sJ nZ uj nY jj;go_wp2_with (at_builtin;refine zO ?_)
   refine xU rfl (.tmp 73) (.tmp 78) rfl (w.heap.size+1) (.slice VA L.length vc) H4 _ rfl pH _ 1 _ (zZ y ja jb jc jd) [y] rfl rfl (ItemsC.one qK) (Src.new _ _ _ _ rfl _ rfl) (by have:=qG.out.2;simp;omega) (by have:=lz.lt;simp only[zu]at this⊢;omega) fun v' w7 wj xj hat7=>?_
   obtain⟨VA',vc',rfl,_⟩:=wj.form;have bN:=lz.grown xj (fun e=>by have:=(pH.lt _ e).1;omega);have lh:=lA sL.holds bQ hat7;have jT:=sL.grownRow bQ (fun q hq=>by have:=(pH.lt q hq).1;omega) wH xj;obtain⟨L',YS⟩:∃ L',L++[y]=L':=⟨_,rfl⟩
   rw[YS]at wj lh⊢
   have wJ:Hid ((∀ z∈L',Modest z∧Lim m z)∧L'.length=L.length+1):=by
    rw[Hid,← YS]
    refine⟨fun z hz=>?_,by simp⟩
    rw[List.mem_append]at hz
    rcases hz with hz | hz
    ·exact qG.out.1 z hz
    rw[List.mem_singleton.1 hz];exact HY.out
   clear YS pH bQ lz sL xj hat7 qK;have ir:IntKind.i64.wrap ((kk:Int)-1)=(kk:Int)-1:=IntWalk.i64_in _ (by have:=qG.out.2;omega);go_wp2_with fail
   go_roundw
   case rel=>exact⟨kk-1,_,VA',vc',_,L',by rw[show((kk-1:Nat):Int)=(kk:Int)-1 by omega],rfl,rfl,jT,wj,wJ.out.1,by have:=wJ.out.2;have:=qG.out.2;omega,bN,fV,lh⟩
   case measure=>simp[intOf];omega
  skip
  obtain⟨H5,tQ,WP,wL,Ln,tD,sv,jM⟩:=wG.snap qQ.holds (fun q hq=>nZ q (qy hq));have rE:∀ q,VA.map (·.block)=some q→w.heap.size+1≤q:=fun q hq=>(wG.lt q (qy hq)).1
  have du:H5 w.heap.size=none:=tA wL uj (fun e=>by have:=rE _ e;omega);have qZ:Dealt w H wr H5 g:=qQ.snap (B:=w.heap.size+1) tQ WP wL rE (by omega) wH;obtain⟨x7,pL⟩:∃ x,Itm.mk 4 0 [] L=x:=⟨_,rfl⟩
  have Ya:ItemA H5 4 0 none 0 0 VA L.length vc x7:=by
   refine⟨by rw[← pL];rfl,by rw[← pL];rfl,by rw[← pL];rfl,by rw[← pL];rfl, ?_⟩
   rw[← pL]
   exact IsRowI.item ⟨tD,sv,jM⟩ 4 (by omega) 0 (by omega)
  have WH:=Hh (fC (hTab.mono qZ.le) Ya _ qZ.holds)
  have SO:=Hh (show Modest x7∧Lim (m+1) x7 by
   rw[← pL]
   exact⟨by rw[Modest];exact⟨by simp,by have:=qG.out.2;omega,ModestL.of fun z hz=>(qG.out.1 z hz).1⟩,ky (by omega) (by omega) (fun z hz=>(qG.out.1 z hz).2) (by have:=qG.out.2;omega) rfl rfl fun _ h=>h⟩)
  clear wG wL jM Ya pL WP tQ uj nZ rE qQ;go_wp2_with fail
  refine WH.out.mono ?_
  rintro e w8 ⟨v8,y8,rfl,⟨qa,qb,qc,qd,H8,rfl,xp,nf⟩,hy8⟩
  have vg:=sJ.below xp.below;have qM:=xp.none du sJ.lt;have tF:=qZ.grown xp;have HY:=Hh hy8;clear WH sJ xp qZ du hy8;go_wp2_with (with_reducible refine zx ?_)
  refine stI vg fun wz hTy wm=>?_
  have qR:=tF.grownRow (row:=some w.heap.size) (by rintro q ⟨⟩;exact qM) (by rintro q ⟨⟩;exact Nat.le_refl _) wH wm;go_wp2_with fail
  refine zR rfl rfl hTy rfl rfl zp rfl ?_
  refine⟨_,y8,rfl,⟨qa,qb,qc,qd,H8,rfl,qR,nf⟩, ?_⟩
  rcases HY.out with rfl | rfl
  ·exact SO.out
  exact⟨yB,yH (Nat.le_trans iJ (lN _))⟩
 ·have NB:=Hh (zA w1 vH.deck 4 (by omega) (by omega));go_wp2_with fail
  refine NB.out.mono ?_
  rintro e w2 ⟨n0,rfl,Rl,xy⟩
  have ug:=uu.dealt xy (by omega);have uB:=xy.hid uY uu.lt;have uA:=vH.trans xy;have pG:=OwnI.nil w2 (w.heap.size+1) H;clear NB vH xy uu uY;go_wp2_with fail
  go_loopw [6,7] (fun v6 v7 wr=>∃ (kk:Nat) (Hr:Snap) (VA:Option Addr) (vc vn:Nat) (L:List Itm),v7=.int .i64 (kk:Int)∧v6=.slice VA vn vc∧vn=L.length∧Dealt w H wr Hr g∧OwnI wr (w.heap.size+1) (.slice VA vn vc) Hr L∧(∀ z∈L,Modest z∧Lim m z)∧L.length+2*kk≤6∧  Blk wr w.heap.size 26 #[.int .i64 0,.int .u64 0,.slice none 0 0,.slice none 0 0]∧Hr w.heap.size=none∧(∀ q,(Value.slice VA vn vc).ownBlock=some q→Hr q=none)) (fun _ v7 _=>(intOf v7).toNat)
  case atStart=>exact⟨n0,H,_,_,_,[],rfl,rfl,rfl,uA,pG,by simp,by simp;omega,ug,uB,by intro q hq;simp[Value.ownBlock]at hq⟩
  case round =>
  clear ug uB uA pG Rl;obtain⟨kk,Hr,VA,vc,vn,L,rfl,rfl,rfl,qQ,wG,PI,jZ,sJ,uj,nZ⟩:=hrel;have qG:=Hh (And.intro PI jZ);clear PI jZ
  by_cases zB:(0:Int)<(kk:Int)
  ·skip
   have IT:=Hh (ih wr Hr g (hTab.mono qQ.le) qQ.deck);go_wp2_with fail
   refine IT.out.mono ?_
   rintro e w4 ⟨v4,y,rfl,⟨ja,jb,jc,jd,H4,rfl,rn,qK⟩,nY,jj⟩
   have pH:=((wG.dealt rn (by omega)).mono rn.le).alloc (.cells (zZ y ja jb jc jd).toArray 26);have bQ:∀ q,(Value.slice VA L.length vc).ownBlock=some q→H4 q=none:=fun q hq=>rn.hid (nZ q hq) (wG.lt q hq).2
   have lz:=(sJ.dealt rn (by omega)).alloc (.cells (zZ y ja jb jc jd).toArray 26);have fV:=rn.hid uj sJ.lt;have sL:=(qQ.trans rn).alloc (.cells (zZ y ja jb jc jd).toArray 26);have HY:=Hh (And.intro nY jj);clear IT rn qQ wG sJ nZ uj nY jj;go_wp2_with (at_builtin;refine zO ?_)
   refine xU rfl (.tmp 73) (.tmp 78) rfl (w.heap.size+1) (.slice VA L.length vc) H4 _ rfl pH _ 1 _ (zZ y ja jb jc jd) [y] rfl rfl (ItemsC.one qK) (Src.new _ _ _ _ rfl _ rfl) (by have:=qG.out.2;simp;omega) (by have:=lz.lt;simp only[zu]at this⊢;omega) fun v' w7 wj xj hat7=>?_
   obtain⟨VA',vc',rfl,_⟩:=wj.form;have bN:=lz.grown xj (fun e=>by have:=(pH.lt _ e).1;omega);have lh:=lA sL.holds bQ hat7;have jT:=sL.grownRow bQ (fun q hq=>by have:=(pH.lt q hq).1;omega) wH xj;obtain⟨L',YS⟩:∃ L',L++[y]=L':=⟨_,rfl⟩
   rw[YS]at wj lh⊢
   have wJ:Hid ((∀ z∈L',Modest z∧Lim m z)∧L'.length=L.length+1):=by
    rw[Hid,← YS]
    refine⟨fun z hz=>?_,by simp⟩
    rw[List.mem_append]at hz
    rcases hz with hz | hz
    ·exact qG.out.1 z hz
    rw[List.mem_singleton.1 hz];exact HY.out
   clear YS pH bQ lz sL xj hat7 qK;have Na:Hid ((∀ z∈L',Modest z∧Lim m z)∧L'.length+1+2*(kk-1)≤6):=⟨wJ.out.1,by have:=wJ.out.2;have:=qG.out.2;omega⟩
   clear qG wJ;obtain⟨wr2,Js⟩:∃ x,w7=x:=⟨_,rfl⟩
   subst Js;obtain⟨qG,qQ,wG,sJ,uj,nZ⟩:=And.intro Na (And.intro jT (And.intro wj (And.intro bN (And.intro fV lh))));clear Na jT wj bN fV lh HY;have IT:=Hh (ih w7 H4 g (hTab.mono qQ.le) qQ.deck);go_wp2_with fail
   refine IT.out.mono ?_
   rintro e w14 ⟨v4,z',rfl,⟨ja,jb,jc,jd,Lo,rfl,rn,qK⟩,nY,jj⟩
   have pH:=((wG.dealt rn (by omega)).mono rn.le).alloc (.cells (zZ z' ja jb jc jd).toArray 26);have bQ:∀ q,(Value.slice VA' L'.length vc').ownBlock=some q→Lo q=none:=fun q hq=>rn.hid (nZ q hq) (wG.lt q hq).2
   have lz:=(sJ.dealt rn (by omega)).alloc (.cells (zZ z' ja jb jc jd).toArray 26);have fV:=rn.hid uj sJ.lt;have sL:=(qQ.trans rn).alloc (.cells (zZ z' ja jb jc jd).toArray 26);have HY:=Hh (And.intro nY jj);clear IT rn qQ wG sJ nZ uj nY jj;go_wp2_with (at_builtin;refine zO ?_)
   refine xU rfl (.tmp 82) (.tmp 87) rfl (w.heap.size+1) (.slice VA' L'.length vc') Lo _ rfl pH _ 1 _ (zZ z' ja jb jc jd) [z'] rfl rfl (ItemsC.one qK) (Src.new _ _ _ _ rfl _ rfl) (by have:=qG.out.2;simp;omega) (by have:=lz.lt;simp only[zu]at this⊢;omega) fun v' w17 wj xj hat7=>?_
   obtain⟨VA2,vc2,rfl,_⟩:=wj.form;have bN:=lz.grown xj (fun e=>by have:=(pH.lt _ e).1;omega);have lh:=lA sL.holds bQ hat7;have jT:=sL.grownRow bQ (fun q hq=>by have:=(pH.lt q hq).1;omega) wH xj;obtain⟨L2,YS⟩:∃ L2,L'++[z']=L2:=⟨_,rfl⟩
   rw[YS]at wj lh⊢
   have wJ:Hid ((∀ z∈L2,Modest z∧Lim m z)∧L2.length=L'.length+1):=by
    rw[Hid,← YS]
    refine⟨fun z hz=>?_,by simp⟩
    rw[List.mem_append]at hz
    rcases hz with hz | hz
    ·exact qG.out.1 z hz
    rw[List.mem_singleton.1 hz];exact HY.out
   clear YS pH bQ lz sL xj hat7 qK;have ir:IntKind.i64.wrap ((kk:Int)-1)=(kk:Int)-1:=IntWalk.i64_in _ (by have:=qG.out.2;omega);go_wp2_with fail
   go_roundw
   case rel=>exact⟨kk-1,_,VA2,vc2,_,L2,by rw[show((kk-1:Nat):Int)=(kk:Int)-1 by omega],rfl,rfl,jT,wj,wJ.out.1,by have:=wJ.out.2;have:=qG.out.2;omega,bN,fV,lh⟩
   case measure=>simp[intOf];omega
  skip
  obtain⟨H5,tQ,WP,wL,Ln,tD,sv,jM⟩:=wG.snap qQ.holds (fun q hq=>nZ q (qy hq));have rE:∀ q,VA.map (·.block)=some q→w.heap.size+1≤q:=fun q hq=>(wG.lt q (qy hq)).1
  have du:H5 w.heap.size=none:=tA wL uj (fun e=>by have:=rE _ e;omega);have qZ:Dealt w H wr H5 g:=qQ.snap (B:=w.heap.size+1) tQ WP wL rE (by omega) wH;have BD:=Hh (kO (hTab.mono qZ.le) (IsRowI.two tD sv jM) (by have:=qG.out.2;omega) wr qZ.holds);clear wG wL jM WP tQ uj nZ rE qQ;go_wp2_with fail
  refine BD.out.mono ?_
  intro e w8 mu
  obtain⟨v8,c,y8,rfl,⟨qa,qb,qc,qd,H8,rfl,xp,nf⟩,PV⟩:=mu.one;have bO:=sJ.below xp.below;have Pg:=xp.none du sJ.lt;have dm:=qZ.grown xp;have vg:=bO.alloc (zi y8 qa qb qc qd);have aJ:=Blk.new w8 26 #[.int .i64 y8.kind,.int .u64 y8.n,.slice qa y8.bytes.length qb,.slice qc y8.items.length qd];have tF:=dm.alloc (zi y8 qa qb qc qd);have qM:=Pg;clear BD sJ xp qZ du bO dm Pg
  rcases PV with ⟨rfl,l,dZ,hvx,mA,wZ,hpq⟩ | ⟨hc,hxz,dU⟩
  ·have M0:=Hh (show Modest y8∧Lim (m+1) y8 by
    refine⟨zE hvx, ?_⟩
    have TY:=ks hvx (by rw[dZ];rfl);rw[dZ]at TY⊢
    exact ky (by omega) (by omega) (fun z hz=>(qG.out.1 z hz).2) (by have:=qG.out.2;omega) mA hpq.2 (zpm hpq.1 TY))
   clear dZ hvx mA wZ hpq;go_upto_region 30 with fail
   go_wp2_with (with_reducible refine zx ?_)
   refine stI vg fun wz hTy wm=>?_
   have qR:=tF.grownRow (row:=some w.heap.size) (by rintro q ⟨⟩;exact qM) (by rintro q ⟨⟩;exact Nat.le_refl _) wH wm;go_wp2_with fail
   refine zR rfl rfl hTy rfl rfl zp rfl ?_
   exact⟨_,y8,rfl,⟨qa,qb,qc,qd,H8,rfl,qR,nf⟩,M0.out.1,M0.out.2⟩
  have b1:(c != 0)=true:=by simp[hc]
  have p1:(c=0)=False:=eq_false hc;clear hc dU hxz;go_upto_region 29 with fail
  go_wp2_with (with_reducible refine zx ?_)
  refine stI vg fun wz hTy wm=>?_
  have qR:=tF.grownRow (row:=some w.heap.size) (by rintro q ⟨⟩;exact qM) (by rintro q ⟨⟩;exact Nat.le_refl _) wH wm;go_wp2_with fail
  refine zR rfl rfl hTy rfl rfl zp rfl ?_
  exact⟨_,.mk 5 0 [] [],rfl,⟨none,0,none,0,H8,rfl,qR,IsItem.plain _ 5 0 (by omega) (by omega)⟩,yx _ _ _ (by simp),yH (by have:=yg 5 0 [] [] (by omega) (by omega);have:=lN (m+1);simp[zM]at *;omega)⟩
 ·have NB:=Hh (uT w1 vH.deck);go_wp2_with fail
  refine NB.out.mono ?_
  rintro e w2 ⟨m',rfl,qL,xy⟩
  have ug:=uu.dealt xy (by omega);have uA:=vH.trans xy;have uB:=xy.hid uY uu.lt;have od:=Hh qL;clear NB vH xy uu uY qL;have IT:=Hh (ih w2 H g hTab uA.deck);go_wp2_with fail
  refine IT.out.mono ?_
  rintro e w4 ⟨v4,y,rfl,⟨ja,jb,jc,jd,H4,rfl,rn,qK⟩,nY,jj⟩
  have lz:=(ug.dealt rn (by omega)).alloc (.cells (zZ y ja jb jc jd).toArray 26);have bQ:=rn.hid uB ug.lt;have sL:=(uA.trans rn).alloc (.cells (zZ y ja jb jc jd).toArray 26);have hO:=OwnI.lit (w:=w4) (ItemsC.one qK) w4.heap.size (Nat.le_refl _) (by simp);have GG:w.heap.size<w4.heap.size:=by have:=ug.lt;have:=rn.size;omega
  obtain⟨H5,tQ,WP,wL,Ln,tD,sv,jM⟩:=hO.snap sL.holds (fun q hq=>by cases hq;exact rn.holds.none_of_ge (Nat.le_refl _));have m8:∀ q,q<w4.heap.size→H4 q=none→H5 q=none:=fun q hq h0=>tA wL h0 (fun e=>by simp at e;omega)
  have qZ:Dealt w H (w4.alloc (.cells (zZ y ja jb jc jd).toArray 26)) H5 g:=sL.snap (B:=w4.heap.size) tQ WP wL (fun q hq=>by simp at hq;omega) (by omega) wH;have du:=m8 _ GG bQ;obtain⟨x7,pL⟩:∃ x,Itm.mk 6 m' [] [y]=x:=⟨_,rfl⟩
  have Ya:ItemA H5 6 m' none 0 0 (some ⟨w4.heap.size,0,none⟩) 1 1 x7:=by
   refine⟨by rw[← pL];rfl,by rw[← pL];rfl,by rw[← pL];rfl,by rw[← pL];rfl, ?_⟩
   rw[← pL]
   exact IsRowI.item ⟨tD,sv,jM⟩ 6 (by omega) m' od.out
  have WH:=Hh (fC (hTab.mono qZ.le) Ya _ qZ.holds)
  have SO:=Hh (show Modest x7∧Lim (m+1) x7 by
   rw[← pL]
   exact⟨by rw[Modest,ModestL,ModestL];exact⟨by simp,by simp,nY,trivial⟩,ky (L:=[y]) (by omega) (by omega) (fun z hz=>by rw[List.mem_singleton.1 hz];exact jj) (by simp) rfl rfl fun _ h=>h⟩)
  clear IT ug uB uA rn sL hO wL jM m8 Ya qK nY jj pL WP tQ bQ;go_wp2_with fail
  refine WH.out.mono ?_
  rintro e w8 ⟨v8,y8,rfl,⟨qa,qb,qc,qd,H8,rfl,xp,nf⟩,hy8⟩
  have vg:=lz.below xp.below;have qM:=xp.none du lz.lt;have tF:=qZ.grown xp;have HY:=Hh hy8;clear WH lz xp qZ du hy8;go_wp2_with (with_reducible refine zx ?_)
  refine stI vg fun wz hTy wm=>?_
  have qR:=tF.grownRow (row:=some w.heap.size) (by rintro q ⟨⟩;exact qM) (by rintro q ⟨⟩;exact Nat.le_refl _) wH wm;go_wp2_with fail
  refine zR rfl rfl hTy rfl rfl zp rfl ?_
  refine⟨_,y8,rfl,⟨qa,qb,qc,qd,H8,rfl,qR,nf⟩, ?_⟩
  rcases HY.out with rfl | rfl
  ·exact SO.out
  exact⟨yB,yH (Nat.le_trans iJ (lN _))⟩
 ·have hB:=Blk.new w1 22 #[.int .u64 20,.int .u64 21,.int .u64 22,.int .u64 23,.int .u64 0,.int .u64 19,.int .u64 32,.int .u64 255];have xy:=vH.alloc (.cells #[.int .u64 20,.int .u64 21,.int .u64 22,.int .u64 23,.int .u64 0,.int .u64 19,.int .u64 32,.int .u64 255] 22);have ug:=uu.alloc (.cells #[.int .u64 20,.int .u64 21,.int .u64 22,.int .u64 23,.int .u64 0,.int .u64 19,.int .u64 32,.int .u64 255] 22);have NB:=Hh (zA _ xy.deck 8 (by omega) (by omega));go_wp2_with fail
  refine NB.out.mono ?_
  rintro e w3 ⟨j,rfl,hj,uA⟩
  have ut:=hB.dealt uA (by have:=vH.size;omega);obtain⟨v,hc,hP⟩:=ut.pick ig (by kernel_rfl) j (by simp;omega);obtain⟨x,rfl,hx⟩:=qo hP;have vg:=ug.dealt uA (by omega);have qM:=uA.hid uY ug.lt;have tF:=xy.trans uA;have od:=Hh hx;clear NB hB ut hP vH xy uA hx uu ug uY;go_wp2_with (with_reducible refine zx ?_)
  refine stI vg fun wz hTy wm=>?_
  have qR:=tF.grownRow (row:=some w.heap.size) (by rintro q ⟨⟩;exact qM) (by rintro q ⟨⟩;exact Nat.le_refl _) wH wm;go_wp2_with fail
  refine zR rfl rfl hTy rfl rfl zp rfl ?_
  exact⟨_,.mk 7 x [] [],rfl,⟨none,0,none,0,_,rfl,qR,IsItem.plain _ 7 x (by omega) od.out⟩,yx _ _ _ (by simp),yH (Nat.le_trans (mV x) da.out)⟩
 have NB:=Hh (fB w1 vH.deck);go_wp2_with fail
 refine NB.out.mono ?_
 rintro e w2 ⟨⟨m',rfl,qL⟩,xy⟩
 have vg:=uu.dealt xy (by omega);have tF:=vH.trans xy;have qM:=xy.hid uY uu.lt;have od:=Hh qL;clear NB vH xy uu uY qL;go_wp2_with (with_reducible refine zx ?_)
 refine stI vg fun wz hTy wm=>?_
 have qR:=tF.grownRow (row:=some w.heap.size) (by rintro q ⟨⟩;exact qM) (by rintro q ⟨⟩;exact Nat.le_refl _) wH wm;go_wp2_with fail
 refine zR rfl rfl hTy rfl rfl zp rfl ?_
 exact⟨_,.mk 8 m' [] [],rfl,⟨none,0,none,0,_,rfl,qR,IsItem.plain _ 8 m' (by omega) od.out⟩,yx _ _ _ (by simp),yH (Nat.le_trans (kA m') da.out)⟩
def fT:Itm:=.mk 6 16 [] [.mk 4 0 [] [z8 [],zF,z8 [1,2]]]
theorem et:zh fT=[208,131,64,160,66,1,2]:=by
 simp[fT,zh,zM,yE,xi,Itm.kind,Itm.n,Itm.bytes,Itm.items]
 decide
theorem bf:zX fT=true:=by
 rw[yp]
 refine⟨Good.of rfl (GoodL.of fun x hx=>?_) (fun h=>by simp[fT,Itm.kind]at h),by simp[fT,cnt,yQ],by rw[et];simp⟩
 simp only[fT,Itm.items,List.mem_singleton]at hx
 subst hx
 refine Good.of rfl (GoodL.of fun x hx=>?_) (fun h=>by simp[Itm.kind]at h)
 simp only[Itm.items,List.mem_cons,List.not_mem_nil,or_false]at hx
 rcases hx with rfl | rfl | rfl
 ·exact rV 2 (.inl rfl) _ _ (fun h=>by omega)
 ·exact Good.of rfl (by simp only[Itm.items];rw[GoodL];trivial) (fun _=>rfl)
 exact rV 2 (.inl rfl) _ _ (fun h=>by omega)
theorem UF {w wr:World}{H Hr:Snap}(_h:Grows w H wr Hr) {l:List Itm}{cs:List Value}(hc:ItemsC Hr cs l) (hm:l.length≤4096) :
  OwnI (wr.alloc (.cells cs.toArray 26)) wr.heap.size (.slice (some ⟨wr.heap.size,0,none⟩) l.length l.length) Hr l:=OwnI.lit hc _ (Nat.le_refl _) hm
theorem f8 {w wr:World}{H Hr:Snap}(h:Grows w H wr Hr) {l:List Itm}{cs:List Value}(hc:ItemsC Hr cs l) (hm:l.length≤4096) :
  ∃ H',Grows w H (wr.alloc (.cells cs.toArray 26)) H'∧Hr.le H'∧IsRowI H' (some ⟨wr.heap.size,0,none⟩) l.length l:=by
 have hO:=UF h hc hm;have hG:=h.alloc (.cells cs.toArray 26);obtain⟨H',hl,hh,hf,hz,h1,h2,h3⟩:=hO.snap hG.holds (fun q hq=>by cases hq;exact h.holds.none_of_ge (Nat.le_refl _))
 refine⟨H',⟨hG.below,hG.le.trans hl,hh,fun b o hb=>?_⟩,hl,⟨h1,h2,h3⟩⟩
 rcases hf b o hb with h4 | h4
 ·exact hG.fresh b o h4
 simp at h4;exact .inr (by have:=h.size;omega)
theorem bh {H:Snap}(hTab:Tabs H) (w:World) (hH:Holds w H) (g:Nat) (hB:Blk w g 5 #[.int .u8 1,.int .u8 2]) :
  Calls Tryz.prog 24 #[.int .i64 16,.agg #[.int .i64 5,.int .u64 0,.slice none 0 0,.slice none 0 0,.int .i64 5,.int .u64 0,.slice none 0 0,.slice none 0 0,.slice (some ⟨g,0,none⟩) 2 2,.slice none 0 0]] w fun e w'=>∃ r,e=.returned (.tuple #[r,.int .i64 0])∧Fresh w [208,131,64,160,66,1,2] r w':=by
 have hE:=Blk.new w 36 #[.int .i64 5,.int .u64 0,.slice none 0 0,.slice none 0 0,.int .i64 5,.int .u64 0,.slice none 0 0,.slice none 0 0,.slice (some ⟨g,0,none⟩) 2 2,.slice none 0 0];have hG:=(Grows.refl hH).alloc (.cells #[.int .i64 5,.int .u64 0,.slice none 0 0,.slice none 0 0,.int .i64 5,.int .u64 0,.slice none 0 0,.slice none 0 0,.slice (some ⟨g,0,none⟩) 2 2,.slice none 0 0] 36)
 have Hv:Src w (some ⟨g,0,none⟩) (([1,2]:List UInt8).map zv):=fun _=>⟨g,0,rfl,fun j v hj=>by
  match j,hj with
  | 0,hj=>cases hj;exact hB.cell 0 rfl
  | 1,hj=>cases hj;exact hB.cell 1 rfl⟩
 have P:=Hh (rQ hTab (p:=zF) (u:=zF) (a:=⟨none,0,none,0⟩) (b:=⟨none,0,none,0⟩) (IsItem.plain _ 5 0 (by omega) (by omega)) (IsItem.plain _ 5 0 (by omega) (by omega)) _ hG.holds);go_enter Tryz.func24,Tryz.ntmps24
 go_wp2_with fail
 refine P.out.mono ?_
 rintro e w1 (⟨hv,_⟩ | ⟨hv,r,rfl,hf⟩)
 ·rw[pf]at hv;cases hv
 obtain⟨RA,rc,rfl,_⟩:=hf.own.form;have hE:=hE.below hf.2;have hG:=hG.below_ hf.2;have dz:=hf.own.src;have aS:=(Hv.alloc (.cells #[.int .i64 5,.int .u64 0,.slice none 0 0,.slice none 0 0,.int .i64 5,.int .u64 0,.slice none 0 0,.slice none 0 0,.slice (some ⟨g,0,none⟩) 2 2,.slice none 0 0] 36)).below hf.2;clear P hf hv Hv hB;have QV:(wg zF).length=0:=by simp[wg,Itm.items]
 have Yi:wg zF=[]:=by simp[wg,Itm.items]
 rw[Yi]at dz;rw[QV];have e9:=hE.cell 9 rfl;clear QV Yi;go_upto_region 4 with fail
 go_cut [8] (fun s8 wx=>∃ (N:Nat) (H5:Snap),s8=.slice (some ⟨N,0,none⟩) 3 3∧Grows w H wx H5∧IsRowI H5 (some ⟨N,0,none⟩) 3 [z8 [],zF,z8 [1,2]])
 case first =>
  have hE:=hE.drew;have hG:=hG.drew;have dz:Src w1.drew RA (([]:List UInt8).map zv):=dz;have aS:Src w1.drew (some ⟨g,0,none⟩) (([1,2]:List UInt8).map zv):=aS
  refine zw 9 (fun w'=>w'.cell? ⟨w.heap.size,4,none⟩=some (.int .i64 5)∧w'.cell? ⟨w.heap.size,5,none⟩=some (.int .u64 0)∧w'.cell? ⟨w.heap.size,6,none⟩=some (.slice none 0 0)∧w'.cell? ⟨w.heap.size,7,none⟩=some (.slice none 0 0)∧w'.cell? ⟨w.heap.size,8,none⟩=some (.slice (some ⟨g,0,none⟩) 2 2)) (by kernel_rfl) (⟨hE.cell 4 rfl,hE.cell 5 rfl,hE.cell 6 rfl,hE.cell 7 rfl,hE.cell 8 rfl⟩) (fun zy=>?_)
  refine Tk 0 rfl zy ?_
  refine Tk 2 rfl zy ?_
  refine Tk 3 rfl zy ?_
  refine Tk 4 rfl zy ?_
  refine Tk 5 rfl zy ?_
  refine Tk 6 rfl zy ?_
  refine To 1 rfl fun K hK=>?_
  go_simp
  refine(sR (A:=RA) (c:=rc) (l:=[]) rfl (by simp) w1.drew dz hG.holds).mono ?_
  rintro e w3 ⟨v3,rfl,ka,kb,kc,kd,H3,rfl,ye,rp⟩
  have hE:=hE.below ye.below;have aS:=aS.below ye.below;have hG:=hG.trans ye;obtain⟨x1,jn⟩:∃ x,Itm.mk 2 0 [] []=x:=⟨_,rfl⟩
  rw[jn]at rp⊢
  refine Ko hK ?_ fun zy=>?_
  ·exact⟨hE.cell 4 rfl,hE.cell 5 rfl,hE.cell 6 rfl,hE.cell 7 rfl,hE.cell 8 rfl⟩
  clear hK K
  refine To 7 rfl fun K hK=>?_
  go_simp
  refine(sR (A:=some ⟨g,0,none⟩) (c:=2) (l:=[1,2]) rfl (by simp) _ aS hG.holds).mono ?_
  rintro e w4 ⟨v4,rfl,la,lb,lc,ld,H4,rfl,yJ,qK⟩
  have hE:=hE.below yJ.below;have hG:=hG.trans yJ;obtain⟨x3,jV⟩:∃ x,Itm.mk 2 0 [1,2] []=x:=⟨_,rfl⟩
  rw[jV]at qK⊢
  refine Ko hK ?_ fun zy=>?_
  ·exact⟨hE.cell 4 rfl,hE.cell 5 rfl,hE.cell 6 rfl,hE.cell 7 rfl,hE.cell 8 rfl⟩
  clear hK K
  refine To 8 rfl fun K hK=>?_
  go_simp
  have hE:=hE.alloc (.cells #[.int .i64 x1.kind,.int .u64 x1.n,.slice ka x1.bytes.length kb,.slice kc x1.items.length kd,.int .i64 5,.int .u64 0,.slice none 0 0,.slice none 0 0,.int .i64 x3.kind,.int .u64 x3.n,.slice la x3.bytes.length lb,.slice lc x3.items.length ld] 26);have uE:ItemsC H4 (zZ x1 ka kb kc kd++(zZ zF none 0 none 0++zZ x3 la lb lc ld)) [x1,zF,x3]:=(ItemsC.one (rp.mono yJ.le)).app ((ItemsC.one (IsItem.plain _ 5 0 (by omega) (by omega))).app (ItemsC.one qK));obtain⟨H5,wn,tQ,Id⟩:=f8 hG uE (by simp)
  refine Ko hK ?_ fun zy=>?_
  ·exact⟨hE.cell 4 rfl,hE.cell 5 rfl,hE.cell 6 rfl,hE.cell 7 rfl,hE.cell 8 rfl⟩
  clear hK K
  refine To 9 rfl fun K hK=>?_
  go_simp
  refine Kz hK ?_
  clear hK K
  refine Wd ?_
  go_wp2_with fail
  go_meet
  exact⟨_,H5,rfl,wn,by rw[← jn,← jV]at Id;exact Id⟩
 case rest =>
 clear hE hG dz aS e9;obtain⟨N,H5,rfl,hG,hr⟩:=hcut;obtain⟨y,hy⟩:∃ y,Itm.mk 4 0 [] [z8 [],zF,z8 [1,2]]=y:=⟨_,rfl⟩
 have hi:IsItem H5 none 0 (some ⟨N,0,none⟩) 3 y:=by rw[← hy];exact hr.item 4 (by omega) 0 (by omega)
 have Iu:zZ y none 0 (some ⟨N,0,none⟩) 3=[.int .i64 4,.int .u64 0,.slice none 0 0,.slice (some ⟨N,0,none⟩) 3 3]:=by rw[← hy];rfl
 obtain⟨H6,xH,Fw,Ie⟩:=f8 hG (ItemsC.one hi) (by simp);rw[Iu]at xH;have ha:ItemA H6 6 16 none 0 0 (some ⟨wc.heap.size,0,none⟩) 1 1 fT:=⟨rfl,rfl,rfl,rfl,by rw[fT,hy];exact Ie.item 6 (by omega) 16 (by omega)⟩
 have EN:=Hh (pd (hTab.mono xH.le) ha _ xH.holds);have tO:=xH.below;clear hr hi Iu hG xH Fw Ie ha hy;go_wp2_with fail
 refine EN.out.mono ?_
 rintro e w9 (⟨hv,_⟩ | ⟨hv,r,rfl,hfr⟩)
 ·rw[bf]at hv;cases hv
 rw[et]at hfr;have R:Hid (Fresh w [208,131,64,160,66,1,2] r w9):=⟨hfr.own.more tO.size,tO.trans (hfr.2.mono tO.size)⟩
 clear hfr hv EN;go_wp2_with fail
 go_ret2
 exact⟨_,rfl,R.out⟩
end Go.Proofs.YtliomcphdnppnaaGreatDoor
