/- squeezed. Walks: the deck's headers. -/
import Derived.Test.YtliomcphdnppnaaGreatDoorK20
set_option linter.unusedVariables false
set_option linter.unusedSimpArgs false
set_option maxRecDepth 100000
set_option maxHeartbeats 25600000
namespace Go.Proofs.YtliomcphdnppnaaGreatDoor
open Go.RowKit
def AlgIn (p u:Itm) (alg:Int):Prop:=(zZ 1,zZ alg)∈zg p.items∨(zZ 1,zZ alg)∈zg u.items
theorem AlgIn.put {p u p' u':Itm}{alg:Int}{r:Itm×Itm}(h:AlgIn p u alg) (k:ZA p u p' u' r):AlgIn p' u' alg:=k _ (h.elim .inl fun h=>.inr (.inl h))
def bK (w:World) (H:Snap) (alg:Int) (g C B:Nat) (wx:World):Prop:=∃ (p u:Itm) (a b:Ad) (Hx:Snap),Blk wx C 28 (zF p a u b)∧Blk wx w.heap.size 28 (zF zn ⟨none,0,none,0⟩ zn ⟨none,0,none,0⟩)∧Dealt w H wx Hx g∧Hx C=none∧Hx w.heap.size=none∧
 IsItem Hx a.ba a.bc a.ia a.ic p∧IsItem Hx b.ba b.bc b.ia b.ic u∧Modest p∧Modest u∧(eO (zZ alg)→zI p u=true∧szL p≤B∧szL u≤B∧AlgIn p u alg)
def UA (w:World) (H:Snap) (g:Nat) (alg:Int) (e:Ending) (w':World):Prop:=∃ (p u:Itm) (a b:Ad) (H':Snap),e=.returned (.agg (zF p a u b))∧Dealt w H w' H' g∧IsItem H' a.ba a.bc a.ia a.ic p∧IsItem H' b.ba b.bc b.ia b.ic u∧Modest p∧Modest u∧
 (eO (zZ alg)→zI p u=true∧szL p≤2000∧AlgIn p u alg)
theorem sU {w w':World}{H H':Snap}{g:Nat}(_h:Dealt w H w' H' g) (t:TypeId) (cs:Array Value):Blk (w'.alloc (.cells cs t)) w'.heap.size t cs:=Blk.new _ _ _
theorem nH:Modest yy:=yv _ _ _ (by simp)
theorem kG:szL yy=0:=by simp[szL,Itm.items,zG]
theorem ww (p u:Itm) (a b:Ad):(zF p a u b).all (·.oneCell')=true:=by kernel_rfl
theorem UL:Modest (.mk 4 0 [] [zZ 98])∧(zi (.mk 4 0 [] [zZ 98])).length≤18:=by
 refine⟨?_, ?_⟩
 ·rw[Modest,ModestL,ModestL];exact⟨by simp,by simp,uX 98,trivial⟩
 have h1:=zC 4 0 [] [zZ 98] (by omega) (by omega);have h2:=tN 98
 simp only[zG,List.length_append,List.length_nil,List.append_nil]at h1
 omega
theorem lj {H:Snap}{g:Nat}(hTab:Tabs H) (w:World) (hD:DeckIn w g H) (alg:Int) (OD : -1000≤alg) (l9:alg≤1000) :
  Calls Tryz.prog 18 #[.pointer (some ⟨g,0,none⟩),.int .i64 alg] w (UA w H g alg):=by
 have uG:=hD.deck.lt;have hT:=Blk.new w 28 (zF zn ⟨none,0,none,0⟩ zn ⟨none,0,none,0⟩);have Ti:=hD.grows ((Grows.refl hD.holds).alloc xG);have vW:H w.heap.size=none:=hD.holds.none_of_ge (Nat.le_refl _);have RH:=hD.holds;have HA:=Hh (And.intro OD l9);clear hD OD l9;go_enter Tryz.func18,Tryz.ntmps18
 go_wp2_with fail
 refine(pN _).mono ?_
 rintro e w1 ⟨rfl,zJ⟩
 have hT:=(hT.below zJ).alloc (.cells (zF yy ⟨none,0,none,0⟩ yy ⟨none,0,none,0⟩) 28);have hd:=(Ti.grown (Grows.of_below Ti.holds zJ)).alloc (.cells (zF yy ⟨none,0,none,0⟩ yy ⟨none,0,none,0⟩) 28);have hC:=Blk.new w1 28 (zF yy ⟨none,0,none,0⟩ yy ⟨none,0,none,0⟩);have qr:w.heap.size<w1.heap.size:=by have:=zJ.size;simp only[zr]at this;omega
 have wT:H w1.heap.size=none:=RH.none_of_ge (by omega);clear zJ Ti RH;go_upto_if 15 with fail
 go_cut [15] (fun s15 wx=>bK w H alg g w1.heap.size 18 wx)
 case first =>
  by_cases ha:alg=0
  ·subst ha;go_wp2_with fail
   go_meet
   exact⟨yy,yy,_,_,H,hC,hT,hd,wT,vW,IsItem.plain _ 5 0 (by omega) (by omega),IsItem.plain _ 5 0 (by omega) (by omega),nH,nH,fun h=>by obtain⟨k,hk,e⟩:=h;rw[zZ,if_neg (by omega)]at e;injection e with _ e;simp at e;omega⟩
  have b1:(alg != 0)=true:=by simp[ha]
  have p1:(alg=0)=False:=eq_false ha;clear ha;go_upto_region 3 with fail
  have hC:=hC.drew;have hT:=hT.drew;have hd:=hd.drew
  refine zw 10 (fun _=>True) (by kernel_rfl) (trivial) (fun zy=>?_)
  refine TkT 1 rfl ?_
  refine TkT 4 rfl ?_
  refine Ways.two (i:=0) (j:=2) rfl rfl (by kernel_rfl) (fun K hK=>?_) (fun K hK=>?_)
  ·have k0:=hC.cell 0 rfl;have k1:=hC.cell 1 rfl;have k2:=hC.cell 2 rfl;have k3:=hC.cell 3 rfl;have k4:=hC.cell 4 rfl;have k5:=hC.cell 5 rfl;have k6:=hC.cell 6 rfl;have k7:=hC.cell 7 rfl;go_simp
   refine Ko hK ?_ fun zy=>?_
   ·exact trivial
   clear hK K
   refine To 2 rfl fun K hK=>?_
   go_simp
   refine(yr _ hd.deck 4 (by omega) (by omega)).mono ?_
   rintro e w3 ⟨q,rfl,hq,tW⟩
   have hC:=hC.dealt tW (by omega);have hT:=hT.dealt tW (by omega);have hd:=hd.trans tW
   refine Ko hK ?_ fun zy=>?_
   ·exact trivial
   clear hK K
   refine TkT 3 rfl ?_
   refine To 5 rfl fun K hK=>?_
   go_simp
   refine(ug alg (by have:=HA.out;omega) (by have:=HA.out;omega) _ hd.holds).mono ?_
   rintro e w4 ⟨v4,rfl,ja,jb,jc,jd,H4,rfl,xl,pz⟩
   have vW:=xl.none vW hT.lt;have wT:=xl.none wT hC.lt;have hC:=hC.below xl.below;have hT:=hT.below xl.below;have hd:=hd.grown xl
   refine Ko hK ?_ fun zy=>?_
   ·exact trivial
   clear hK K
   refine To 6 rfl fun K hK=>?_
   go_simp
   refine(vf (hTab.mono hd.le) (p:=yy) (u:=yy) (a:=⟨none,0,none,0⟩) (b:=⟨none,0,none,0⟩) (d:=⟨ja,jb,jc,jd⟩) (IsItem.plain _ 5 0 (by omega) (by omega)) (IsItem.plain _ 5 0 (by omega) (by omega)) pz _ 1 (by omega) (by omega) _ hd.holds).mono ?_
   rintro e w6 ⟨p',u',val,c,rfl,⟨a',b',H6,rfl,wl,sS,mu⟩,tB,sN,sO,va⟩
   have vW:=wl.none vW hT.lt;have wT:=wl.none wT hC.lt;have hC:=hC.below wl.below;have hT:=hT.below wl.below;have hd:=hd.grown wl
   refine Ko hK ?_ fun zy=>?_
   ·exact trivial
   clear hK K
   refine TkT 7 rfl ?_
   refine TkT 8 rfl ?_
   refine TkT 9 rfl ?_
   refine To 10 rfl fun K hK=>?_
   rw[if_pos (by rfl)]
   refine zm _ _ _ rfl _ _ rfl rfl _ _ hC zN rfl (ww _ _ _ _) fun w7 hC wh=>?_
   have hT:=hT.gr wh (by omega);have hd:=hd.grownRow (row:=some w1.heap.size) (by rintro q ⟨⟩;exact wT) (by rintro q ⟨⟩;omega) uG wh
   refine Kz hK ?_
   clear hK K
   refine Wd ?_
   go_wp2_with fail
   go_meet
   refine⟨p',u',a',b',H6,hC,hT,hd,wT,vW,sS,mu,sN,sO,fun h10=>?_⟩
   obtain⟨hv,vl,cG,Tr⟩:=tB (va (by first | trivial | rfl) (by first | trivial | rfl) (by first | trivial | rfl) h10);have he:=tN alg;have G8:=kG
   exact⟨hv,by omega,by omega,Tr _ (.inr (.inr rfl))⟩
  go_simp
  refine(yr _ hd.deck 4 (by omega) (by omega)).mono ?_
  rintro e w3 ⟨q,rfl,hq,tW⟩
  have hC:=hC.dealt tW (by omega);have hT:=hT.dealt tW (by omega);have hd:=hd.trans tW
  refine Ko hK ?_ fun zy=>?_
  ·exact trivial
  clear hK K
  refine TkT 3 rfl ?_
  refine Ways.two (i:=0) (j:=5) rfl rfl (by kernel_rfl) (fun K hK=>?_) (fun K hK=>?_)
  ·have k0:=hC.cell 0 rfl;have k1:=hC.cell 1 rfl;have k2:=hC.cell 2 rfl;have k3:=hC.cell 3 rfl;have k4:=hC.cell 4 rfl;have k5:=hC.cell 5 rfl;have k6:=hC.cell 6 rfl;have k7:=hC.cell 7 rfl;go_simp
   refine Ko hK ?_ fun zy=>?_
   ·exact trivial
   clear hK K
   refine To 5 rfl fun K hK=>?_
   go_simp
   refine(ug alg (by have:=HA.out;omega) (by have:=HA.out;omega) _ hd.holds).mono ?_
   rintro e w4 ⟨v4,rfl,ja,jb,jc,jd,H4,rfl,xl,pz⟩
   have vW:=xl.none vW hT.lt;have wT:=xl.none wT hC.lt;have hC:=hC.below xl.below;have hT:=hT.below xl.below;have hd:=hd.grown xl
   refine Ko hK ?_ fun zy=>?_
   ·exact trivial
   clear hK K
   refine To 6 rfl fun K hK=>?_
   go_simp
   refine(vf (hTab.mono hd.le) (p:=yy) (u:=yy) (a:=⟨none,0,none,0⟩) (b:=⟨none,0,none,0⟩) (d:=⟨ja,jb,jc,jd⟩) (IsItem.plain _ 5 0 (by omega) (by omega)) (IsItem.plain _ 5 0 (by omega) (by omega)) pz _ 1 (by omega) (by omega) _ hd.holds).mono ?_
   rintro e w6 ⟨p',u',val,c,rfl,⟨a',b',H6,rfl,wl,sS,mu⟩,tB,sN,sO,va⟩
   have vW:=wl.none vW hT.lt;have wT:=wl.none wT hC.lt;have hC:=hC.below wl.below;have hT:=hT.below wl.below;have hd:=hd.grown wl
   refine Ko hK ?_ fun zy=>?_
   ·exact trivial
   clear hK K
   refine TkT 7 rfl ?_
   refine TkT 8 rfl ?_
   refine TkT 9 rfl ?_
   refine To 10 rfl fun K hK=>?_
   rw[if_pos (by rfl)]
   refine zm _ _ _ rfl _ _ rfl rfl _ _ hC zN rfl (ww _ _ _ _) fun w7 hC wh=>?_
   have hT:=hT.gr wh (by omega);have hd:=hd.grownRow (row:=some w1.heap.size) (by rintro q ⟨⟩;exact wT) (by rintro q ⟨⟩;omega) uG wh
   refine Kz hK ?_
   clear hK K
   refine Wd ?_
   go_wp2_with fail
   go_meet
   refine⟨p',u',a',b',H6,hC,hT,hd,wT,vW,sS,mu,sN,sO,fun h10=>?_⟩
   obtain⟨hv,vl,cG,Tr⟩:=tB (va (by first | trivial | rfl) (by first | trivial | rfl) (by first | trivial | rfl) h10);have he:=tN alg;have G8:=kG
   exact⟨hv,by omega,by omega,Tr _ (.inr (.inr rfl))⟩
  go_simp
  refine(ug alg (by have:=HA.out;omega) (by have:=HA.out;omega) _ hd.holds).mono ?_
  rintro e w4 ⟨v4,rfl,ja,jb,jc,jd,H4,rfl,xl,pz⟩
  have vW:=xl.none vW hT.lt;have wT:=xl.none wT hC.lt;have hC:=hC.below xl.below;have hT:=hT.below xl.below;have hd:=hd.grown xl
  refine Ko hK ?_ fun zy=>?_
  ·exact trivial
  clear hK K
  refine To 0 rfl fun K hK=>?_
  have k0:=hC.cell 0 rfl;have k1:=hC.cell 1 rfl;have k2:=hC.cell 2 rfl;have k3:=hC.cell 3 rfl;have k4:=hC.cell 4 rfl;have k5:=hC.cell 5 rfl;have k6:=hC.cell 6 rfl;have k7:=hC.cell 7 rfl;go_simp
  refine Ko hK ?_ fun zy=>?_
  ·exact trivial
  clear hK K
  refine To 6 rfl fun K hK=>?_
  go_simp
  refine(vf (hTab.mono hd.le) (p:=yy) (u:=yy) (a:=⟨none,0,none,0⟩) (b:=⟨none,0,none,0⟩) (d:=⟨ja,jb,jc,jd⟩) (IsItem.plain _ 5 0 (by omega) (by omega)) (IsItem.plain _ 5 0 (by omega) (by omega)) pz _ 1 (by omega) (by omega) _ hd.holds).mono ?_
  rintro e w6 ⟨p',u',val,c,rfl,⟨a',b',H6,rfl,wl,sS,mu⟩,tB,sN,sO,va⟩
  have vW:=wl.none vW hT.lt;have wT:=wl.none wT hC.lt;have hC:=hC.below wl.below;have hT:=hT.below wl.below;have hd:=hd.grown wl
  refine Ko hK ?_ fun zy=>?_
  ·exact trivial
  clear hK K
  refine TkT 7 rfl ?_
  refine TkT 8 rfl ?_
  refine TkT 9 rfl ?_
  refine To 10 rfl fun K hK=>?_
  rw[if_pos (by rfl)]
  refine zm _ _ _ rfl _ _ rfl rfl _ _ hC zN rfl (ww _ _ _ _) fun w7 hC wh=>?_
  have hT:=hT.gr wh (by omega);have hd:=hd.grownRow (row:=some w1.heap.size) (by rintro q ⟨⟩;exact wT) (by rintro q ⟨⟩;omega) uG wh
  refine Kz hK ?_
  clear hK K
  refine Wd ?_
  go_wp2_with fail
  go_meet
  refine⟨p',u',a',b',H6,hC,hT,hd,wT,vW,sS,mu,sN,sO,fun h10=>?_⟩
  obtain⟨hv,vl,cG,Tr⟩:=tB (va (by first | trivial | rfl) (by first | trivial | rfl) (by first | trivial | rfl) h10);have he:=tN alg;have G8:=kG
  exact⟨hv,by omega,by omega,Tr _ (.inr (.inr rfl))⟩
 case rest =>
 clear hC hT hd wT vW;obtain⟨p,u,a,b,Hx,hC,hT,hd,wT,vW,hp,hu,iq,cU,hK⟩:=hcut;have N3:=Hh (yr wc hd.deck 3 (by omega) (by omega));have HK:=Hh hK;clear hK;go_wp2_with fail
 refine N3.out.mono ?_
 rintro e w2 ⟨n0,rfl,yV,xt⟩
 have rt:=hC.dealt xt (by omega);have tm:=hT.dealt xt (by omega);have Wo:=hd.trans xt;have Fo:bK w H alg g w1.heap.size (18+252*(2-n0)) w2:=⟨p,u,a,b,Hx,rt,tm,Wo,wT,vW,hp,hu,iq,cU,fun h=>by obtain⟨x1,x2,x3,x4⟩:=HK.out h;exact⟨x1,by omega,by omega,x4⟩⟩
 clear N3 xt hC hT hd rt tm Wo wT vW hp hu iq cU HK;go_wp2_with fail
 go_loopw [6] (fun v6 wx=>∃ kk:Nat,v6=.int .i64 (kk:Int)∧kk≤2∧bK w H alg g w1.heap.size (18+252*(2-kk)) wx) (fun v6 _=>(intOf v6).toNat)
 case atStart=>exact⟨n0,rfl,by omega,Fo⟩
 case round =>
 clear Fo yV;obtain⟨kk,rfl,cS,p,u,a,b,Hx,hC,hT,hd,wT,vW,hp,hu,iq,cU,hK⟩:=hrel;have HK:=Hh hK;have Mh:=Hh cS;clear hK cS
 by_cases zB:(0:Int)<(kk:Int)
 ·-- one more parameter
  have hB:=Blk.new wr 3 #[.int .i64 4,.int .i64 6,.int .i64 3,.int .i64 99,.int .i64 (-7)];have tW:=hd.alloc (.cells #[.int .i64 4,.int .i64 6,.int .i64 3,.int .i64 99,.int .i64 (-7)] 3);have gB:=hC.alloc (.cells #[.int .i64 4,.int .i64 6,.int .i64 3,.int .i64 99,.int .i64 (-7)] 3);have Zf:=hT.alloc (.cells #[.int .i64 4,.int .i64 6,.int .i64 3,.int .i64 99,.int .i64 (-7)] 3);have N5:=Hh (yr _ tW.deck 5 (by omega) (by omega));clear hC hT;go_wp2_with fail
  refine N5.out.mono ?_
  rintro e w4 ⟨j,rfl,hj,px⟩
  have ez:=hB.dealt px (by have:=hd.size;omega);obtain⟨v,hc,hP⟩:=ez.pick Vj (by kernel_rfl) j (by simp;omega);obtain⟨nn,rfl,rL⟩:=aR hP;have TY:=gB.dealt px (by omega);have iA:=Zf.dealt px (by omega);have pE:=tW.trans px;have ke:=Hh rL;have BY:=Hh (jx w4 pE.deck 5 (by omega) (by omega));clear N5 hB ez hP hd tW px rL gB Zf;go_wp2_with fail
  refine BY.out.mono ?_
  rintro e w5 ⟨A,c5,l5,rfl,qL,H5,xS,py⟩
  have TZ:=TY.dealt py (by omega);have JI:=iA.dealt py (by omega);have MN:=py.hid wT TY.lt;have MO:=py.hid vW iA.lt;have ii:=pE.trans py;have fC:=hp.mono py.le;have Z4:=hu.mono py.le;have RB:=Hh (mQ (A:=A) (c:=c5) (l:=l5) rfl (by omega) w5 (Src.of_row xS.row py.holds) py.holds);have ix:=Hh qL;clear BY pE py TY iA wT vW hp hu xS qL hc;go_wp2_with fail
  refine RB.out.mono ?_
  rintro e w6 ⟨v6,rfl,ja,jb,jc,jd,H6,rfl,wl,mw⟩
  obtain⟨Y,hY⟩:∃ Y,Itm.mk 2 0 l5 []=Y:=⟨_,rfl⟩
  rw[hY]at mw⊢
  have HY:=Hh (show Modest Y∧(zi Y).length≤243 by
   rw[← hY]
   refine⟨yv _ _ _ (by have:=ix.out;omega), ?_⟩
   have:=zC 2 0 l5 [] (by omega) (by omega);have:=ix.out
   simp[zG]at *
   omega)
  have hC:=(TZ.below wl.below).alloc (zh Y ja jb jc jd);have hT:=(JI.below wl.below).alloc (zh Y ja jb jc jd);have hV:=Blk.new w6 26 #[.int .i64 Y.kind,.int .u64 Y.n,.slice ja Y.bytes.length jb,.slice jc Y.items.length jd];have wT:=wl.none MN TZ.lt;have vW:=wl.none MO JI.lt;have cI:w1.heap.size<w6.heap.size:=by have:=TZ.lt;have:=wl.size;omega
  have hd:=(ii.grown wl).alloc (zh Y ja jb jc jd);have OT:H6 w6.heap.size=none:=wl.holds.none_of_ge (Nat.le_refl _);have hp:=fC.mono wl.le;have hu:=Z4.mono wl.le;clear RB ii TZ JI MN MO fC Z4 wl hY;go_upto_if 41 with fail
  go_cut [41] (fun s41 wx=>∃ (y:Itm) (c:Ad) (H7:Snap),H6.le H7∧Blk wx w1.heap.size 28 (zF p a u b)∧Blk wx w.heap.size 28 (zF zn ⟨none,0,none,0⟩ zn ⟨none,0,none,0⟩)∧Blk wx w6.heap.size 26 #[.int .i64 y.kind,.int .u64 y.n,.slice c.ba y.bytes.length c.bc,.slice c.ia y.items.length c.ic]∧
   Dealt w H wx H7 g∧H7 w1.heap.size=none∧H7 w.heap.size=none∧H7 w6.heap.size=none∧IsItem H7 c.ba c.bc c.ia c.ic y∧Modest y∧(zi y).length≤243)
  case first =>
   by_cases h99:nn=99
   ·subst h99;have IT:=Hh (Xh 0 (by omega) Xi _ _ _ (hTab.mono hd.le) hd.deck);go_wp2_with fail
    refine IT.out.mono ?_
    rintro e w7 ⟨v7,y,rfl,⟨ka,kb,kc,kd,H7,rfl,ii,eu⟩,mq,im⟩
    have Iy:=hC.dealt ii (by omega);have Wj:=hT.dealt ii (by omega);have JJ:=hV.dealt ii (by omega);have IP:=ii.hid wT hC.lt;have IQ:=ii.hid vW hT.lt;have MP:=ii.hid OT hV.lt;have cQ:=hd.trans ii;have TE:=ii.le;have R7:=Hh (And.intro mq im);clear IT ii hC hT hV wT vW OT hd mq im;go_wp2_with (with_reducible refine zx ?_)
    refine stI JJ fun w8 hV8 hg8=>?_
    have DF:=Iy.gr hg8 (by omega);have RS:=Wj.gr hg8 (by omega);have Dd:=cQ.grownRow (row:=some w6.heap.size) (by rintro q ⟨⟩;exact MP) (by rintro q ⟨⟩;omega) uG hg8;go_wp2_with fail
    go_meet
    exact⟨y,⟨ka,kb,kc,kd⟩,H7,TE,DF,RS,hV8,Dd,IP,IQ,MP,eu,R7.out.1,R7.out.2⟩
   have b1:(nn==99)=false:=by simp[h99]
   have p1:(nn=99)=False:=eq_false h99;clear h99;go_wp2_with fail
   go_meet
   exact⟨Y,⟨ja,jb,jc,jd⟩,H6,Snap.le.refl _,hC,hT,hV,hd,wT,vW,OT,mw,HY.out.1,HY.out.2⟩
  case rest =>
  clear hC hT hV hd wT vW OT mw;obtain⟨y,c,H7,TE,hC,hT,hV,hd,wT,vW,OT,hy,mq,im⟩:=hcut;have R7:=Hh im;have hp:=hp.mono TE;have hu:=hu.mono TE;clear im;go_upto_region 11 with fail
  go_cut [9,10] (fun s9 s10 wx=>∃ (N:Nat) (cc:Int) (p' u':Itm) (a' b':Ad) (H8:Snap),s9=.pointer (some ⟨N,0,none⟩)∧s10=.int .i64 cc∧Blk wx w1.heap.size 28 (zF p a u b)∧Blk wx w.heap.size 28 (zF zn ⟨none,0,none,0⟩ zn ⟨none,0,none,0⟩)∧Blk wx N 28 (zF p' a' u' b')∧
   Dealt w H wx H8 g∧H7.le H8∧H8 w1.heap.size=none∧H8 w.heap.size=none∧IsItem H8 a'.ba a'.bc a'.ia a'.ic p'∧IsItem H8 b'.ba b'.bc b'.ia b'.ic u'∧Modest p'∧Modest u'∧
   (cc=0→zI p' u'=true∧szL p'≤szL p+252∧szL u'≤szL u+252∧(AlgIn p u alg→AlgIn p' u' alg)))
  case first =>
   have hC:=hC.drew;have hT:=hT.drew;have hV:=hV.drew;have hd:=hd.drew;have yx:=Snap.le.refl H7
   refine zw 12 (fun w'=>w'.cell? ⟨w1.heap.size,0,none⟩=some (.int .i64 p.kind)∧w'.cell? ⟨w1.heap.size,1,none⟩=some (.int .u64 p.n)∧w'.cell? ⟨w1.heap.size,2,none⟩=some (.slice a.ba p.bytes.length a.bc)∧w'.cell? ⟨w1.heap.size,3,none⟩=some (.slice a.ia p.items.length a.ic)∧w'.cell? ⟨w1.heap.size,4,none⟩=some (.int .i64 u.kind)∧w'.cell? ⟨w1.heap.size,5,none⟩=some (.int .u64 u.n)∧w'.cell? ⟨w1.heap.size,6,none⟩=some (.slice b.ba u.bytes.length b.bc)∧w'.cell? ⟨w1.heap.size,7,none⟩=some (.slice b.ia u.items.length b.ic)∧w'.cell? ⟨w6.heap.size,0,none⟩=some (.int .i64 y.kind)∧w'.cell? ⟨w6.heap.size,1,none⟩=some (.int .u64 y.n)∧w'.cell? ⟨w6.heap.size,2,none⟩=some (.slice c.ba y.bytes.length c.bc)∧w'.cell? ⟨w6.heap.size,3,none⟩=some (.slice c.ia y.items.length c.ic)) (by kernel_rfl) (⟨hC.cell 0 rfl,hC.cell 1 rfl,hC.cell 2 rfl,hC.cell 3 rfl,hC.cell 4 rfl,hC.cell 5 rfl,hC.cell 6 rfl,hC.cell 7 rfl,hV.cell 0 rfl,hV.cell 1 rfl,hV.cell 2 rfl,hV.cell 3 rfl⟩) (fun zy=>?_)
   refine Tk 0 rfl zy ?_
   refine Tk 1 rfl zy ?_
   refine Tk 4 rfl zy ?_
   refine Tk 5 rfl zy ?_
   refine Ways.two (i:=2) (j:=10) rfl rfl (by kernel_rfl) (fun K hK=>?_) (fun K hK=>?_)
   ·go_simp
    refine(yr _ hd.deck 2 (by omega) (by omega)).mono ?_
    rintro e w8 ⟨q,rfl,hq,cQ⟩
    try have hN:=hN.dealt cQ (by have:=hd.size;omega)
    have hC:=hC.dealt cQ (by omega);have hT:=hT.dealt cQ (by omega);have hV:=hV.dealt cQ (by omega);have hd:=hd.trans cQ
    refine Ko hK ?_ fun zy=>?_
    ·exact⟨hC.cell 0 rfl,hC.cell 1 rfl,hC.cell 2 rfl,hC.cell 3 rfl,hC.cell 4 rfl,hC.cell 5 rfl,hC.cell 6 rfl,hC.cell 7 rfl,hV.cell 0 rfl,hV.cell 1 rfl,hV.cell 2 rfl,hV.cell 3 rfl⟩
    clear hK K
    refine Tk 3 rfl zy ?_
    refine Ways.two (i:=6) (j:=10) rfl rfl (by kernel_rfl) (fun K hK=>?_) (fun K hK=>?_)
    ·go_simp
     refine(vf (hTab.mono hd.le) (a:=a) (b:=b) (d:=c) hp hu hy _ nn (by have:=ke.out;omega) (by have:=ke.out;omega) _ hd.holds).mono ?_
     rintro e w9 ⟨p',u',val,cc,rfl,⟨a',b',H8,rfl,yA,sS,mu⟩,tB,sN,sO,va⟩
     try have sR:=yA.none sR hN.lt
     try have hN:=hN.below yA.below
     have vW:=yA.none vW hT.lt;have wT:=yA.none wT hC.lt;have hC:=hC.below yA.below;have hT:=hT.below yA.below;have hV:=hV.below yA.below;have yx:=yx.trans yA.le;have hd:=hd.grown yA
     refine Ko hK ?_ fun zy=>?_
     ·exact⟨hC.cell 0 rfl,hC.cell 1 rfl,hC.cell 2 rfl,hC.cell 3 rfl,hC.cell 4 rfl,hC.cell 5 rfl,hC.cell 6 rfl,hC.cell 7 rfl,hV.cell 0 rfl,hV.cell 1 rfl,hV.cell 2 rfl,hV.cell 3 rfl⟩
     clear hK K
     refine Tk 7 rfl zy ?_
     refine Tk 8 rfl zy ?_
     refine Tk 9 rfl zy ?_
     refine To 10 rfl fun K hK=>?_
     go_simp
     have hN:=sU hd 28 (zF zn ⟨none,0,none,0⟩ zn ⟨none,0,none,0⟩);have sR:=hd.holds.none_of_ge (Nat.le_refl _);have bq:=hV.lt
     try simp only[zL,zr]at hN sR bq
     have hC:=hC.alloc xG;have hT:=hT.alloc xG;have hV:=hV.alloc xG;have hd:=hd.alloc xG
     refine Ko hK ?_ fun zy=>?_
     ·exact⟨hC.cell 0 rfl,hC.cell 1 rfl,hC.cell 2 rfl,hC.cell 3 rfl,hC.cell 4 rfl,hC.cell 5 rfl,hC.cell 6 rfl,hC.cell 7 rfl,hV.cell 0 rfl,hV.cell 1 rfl,hV.cell 2 rfl,hV.cell 3 rfl⟩
     clear hK K
     refine To 11 rfl fun K hK=>?_
     rw[if_pos (by rfl)]
     refine zm _ _ _ rfl _ _ rfl rfl _ _ hN zN rfl (ww _ _ _ _) fun w10 hN wk=>?_
     have hC:=hC.gr wk (by omega);have hT:=hT.gr wk (by omega);have hV:=hV.gr wk (by omega);have hd:=hd.grownRow (by rintro q ⟨⟩;exact sR) (by rintro q ⟨⟩;omega) uG wk
     refine Ko hK ?_ fun zy=>?_
     ·exact⟨hC.cell 0 rfl,hC.cell 1 rfl,hC.cell 2 rfl,hC.cell 3 rfl,hC.cell 4 rfl,hC.cell 5 rfl,hC.cell 6 rfl,hC.cell 7 rfl,hV.cell 0 rfl,hV.cell 1 rfl,hV.cell 2 rfl,hV.cell 3 rfl⟩
     clear hK K
     refine To 12 rfl fun K hK=>?_
     go_simp
     refine Kz hK ?_
     clear hK K
     refine Wd ?_
     go_wp2_with fail
     go_meet
     exact⟨_,cc,p',u',a',b',H8,rfl,rfl,hC,hT,hN,hd,yx,wT,vW,sS,mu,sN,sO,fun h0=>by obtain⟨x1,x2,x3,x4⟩:=tB h0;have:=R7.out;exact⟨x1,by omega,by omega,fun h=>h.put x4⟩⟩
    go_simp
    have hN:=sU hd 28 (zF zn ⟨none,0,none,0⟩ zn ⟨none,0,none,0⟩);have sR:=hd.holds.none_of_ge (Nat.le_refl _);have bq:=hV.lt
    try simp only[zL,zr]at hN sR bq
    have hC:=hC.alloc xG;have hT:=hT.alloc xG;have hV:=hV.alloc xG;have hd:=hd.alloc xG
    refine Ko hK ?_ fun zy=>?_
    ·exact⟨hC.cell 0 rfl,hC.cell 1 rfl,hC.cell 2 rfl,hC.cell 3 rfl,hC.cell 4 rfl,hC.cell 5 rfl,hC.cell 6 rfl,hC.cell 7 rfl,hV.cell 0 rfl,hV.cell 1 rfl,hV.cell 2 rfl,hV.cell 3 rfl⟩
    clear hK K
    refine To 6 rfl fun K hK=>?_
    go_simp
    refine(vf (hTab.mono hd.le) (a:=a) (b:=b) (d:=c) hp hu hy _ nn (by have:=ke.out;omega) (by have:=ke.out;omega) _ hd.holds).mono ?_
    rintro e w9 ⟨p',u',val,cc,rfl,⟨a',b',H8,rfl,yA,sS,mu⟩,tB,sN,sO,va⟩
    try have sR:=yA.none sR hN.lt
    try have hN:=hN.below yA.below
    have vW:=yA.none vW hT.lt;have wT:=yA.none wT hC.lt;have hC:=hC.below yA.below;have hT:=hT.below yA.below;have hV:=hV.below yA.below;have yx:=yx.trans yA.le;have hd:=hd.grown yA
    refine Ko hK ?_ fun zy=>?_
    ·exact⟨hC.cell 0 rfl,hC.cell 1 rfl,hC.cell 2 rfl,hC.cell 3 rfl,hC.cell 4 rfl,hC.cell 5 rfl,hC.cell 6 rfl,hC.cell 7 rfl,hV.cell 0 rfl,hV.cell 1 rfl,hV.cell 2 rfl,hV.cell 3 rfl⟩
    clear hK K
    refine Tk 7 rfl zy ?_
    refine Tk 8 rfl zy ?_
    refine Tk 9 rfl zy ?_
    refine To 11 rfl fun K hK=>?_
    rw[if_pos (by rfl)]
    refine zm _ _ _ rfl _ _ rfl rfl _ _ hN zN rfl (ww _ _ _ _) fun w10 hN wk=>?_
    have hC:=hC.gr wk (by omega);have hT:=hT.gr wk (by omega);have hV:=hV.gr wk (by omega);have hd:=hd.grownRow (by rintro q ⟨⟩;exact sR) (by rintro q ⟨⟩;omega) uG wk
    refine Ko hK ?_ fun zy=>?_
    ·exact⟨hC.cell 0 rfl,hC.cell 1 rfl,hC.cell 2 rfl,hC.cell 3 rfl,hC.cell 4 rfl,hC.cell 5 rfl,hC.cell 6 rfl,hC.cell 7 rfl,hV.cell 0 rfl,hV.cell 1 rfl,hV.cell 2 rfl,hV.cell 3 rfl⟩
    clear hK K
    refine To 12 rfl fun K hK=>?_
    go_simp
    refine Kz hK ?_
    clear hK K
    refine Wd ?_
    go_wp2_with fail
    go_meet
    exact⟨_,cc,p',u',a',b',H8,rfl,rfl,hC,hT,hN,hd,yx,wT,vW,sS,mu,sN,sO,fun h0=>by obtain⟨x1,x2,x3,x4⟩:=tB h0;have:=R7.out;exact⟨x1,by omega,by omega,fun h=>h.put x4⟩⟩
   go_simp
   have hN:=sU hd 28 (zF zn ⟨none,0,none,0⟩ zn ⟨none,0,none,0⟩);have sR:=hd.holds.none_of_ge (Nat.le_refl _);have bq:=hV.lt
   try simp only[zL,zr]at hN sR bq
   have hC:=hC.alloc xG;have hT:=hT.alloc xG;have hV:=hV.alloc xG;have hd:=hd.alloc xG
   refine Ko hK ?_ fun zy=>?_
   ·exact⟨hC.cell 0 rfl,hC.cell 1 rfl,hC.cell 2 rfl,hC.cell 3 rfl,hC.cell 4 rfl,hC.cell 5 rfl,hC.cell 6 rfl,hC.cell 7 rfl,hV.cell 0 rfl,hV.cell 1 rfl,hV.cell 2 rfl,hV.cell 3 rfl⟩
   clear hK K
   refine To 2 rfl fun K hK=>?_
   go_simp
   refine(yr _ hd.deck 2 (by omega) (by omega)).mono ?_
   rintro e w8 ⟨q,rfl,hq,cQ⟩
   try have hN:=hN.dealt cQ (by have:=hd.size;omega)
   have hC:=hC.dealt cQ (by omega);have hT:=hT.dealt cQ (by omega);have hV:=hV.dealt cQ (by omega);have hd:=hd.trans cQ
   refine Ko hK ?_ fun zy=>?_
   ·exact⟨hC.cell 0 rfl,hC.cell 1 rfl,hC.cell 2 rfl,hC.cell 3 rfl,hC.cell 4 rfl,hC.cell 5 rfl,hC.cell 6 rfl,hC.cell 7 rfl,hV.cell 0 rfl,hV.cell 1 rfl,hV.cell 2 rfl,hV.cell 3 rfl⟩
   clear hK K
   refine Tk 3 rfl zy ?_
   refine To 6 rfl fun K hK=>?_
   go_simp
   refine(vf (hTab.mono hd.le) (a:=a) (b:=b) (d:=c) hp hu hy _ nn (by have:=ke.out;omega) (by have:=ke.out;omega) _ hd.holds).mono ?_
   rintro e w9 ⟨p',u',val,cc,rfl,⟨a',b',H8,rfl,yA,sS,mu⟩,tB,sN,sO,va⟩
   try have sR:=yA.none sR hN.lt
   try have hN:=hN.below yA.below
   have vW:=yA.none vW hT.lt;have wT:=yA.none wT hC.lt;have hC:=hC.below yA.below;have hT:=hT.below yA.below;have hV:=hV.below yA.below;have yx:=yx.trans yA.le;have hd:=hd.grown yA
   refine Ko hK ?_ fun zy=>?_
   ·exact⟨hC.cell 0 rfl,hC.cell 1 rfl,hC.cell 2 rfl,hC.cell 3 rfl,hC.cell 4 rfl,hC.cell 5 rfl,hC.cell 6 rfl,hC.cell 7 rfl,hV.cell 0 rfl,hV.cell 1 rfl,hV.cell 2 rfl,hV.cell 3 rfl⟩
   clear hK K
   refine Tk 7 rfl zy ?_
   refine Tk 8 rfl zy ?_
   refine Tk 9 rfl zy ?_
   refine To 11 rfl fun K hK=>?_
   rw[if_pos (by rfl)]
   refine zm _ _ _ rfl _ _ rfl rfl _ _ hN zN rfl (ww _ _ _ _) fun w10 hN wk=>?_
   have hC:=hC.gr wk (by omega);have hT:=hT.gr wk (by omega);have hV:=hV.gr wk (by omega);have hd:=hd.grownRow (by rintro q ⟨⟩;exact sR) (by rintro q ⟨⟩;omega) uG wk
   refine Ko hK ?_ fun zy=>?_
   ·exact⟨hC.cell 0 rfl,hC.cell 1 rfl,hC.cell 2 rfl,hC.cell 3 rfl,hC.cell 4 rfl,hC.cell 5 rfl,hC.cell 6 rfl,hC.cell 7 rfl,hV.cell 0 rfl,hV.cell 1 rfl,hV.cell 2 rfl,hV.cell 3 rfl⟩
   clear hK K
   refine To 12 rfl fun K hK=>?_
   go_simp
   refine Kz hK ?_
   clear hK K
   refine Wd ?_
   go_wp2_with fail
   go_meet
   exact⟨_,cc,p',u',a',b',H8,rfl,rfl,hC,hT,hN,hd,yx,wT,vW,sS,mu,sN,sO,fun h0=>by obtain⟨x1,x2,x3,x4⟩:=tB h0;have:=R7.out;exact⟨x1,by omega,by omega,fun h=>h.put x4⟩⟩
  case rest =>
  clear hC hT hV hd wT vW OT hy mq;obtain⟨N,cc,p',u',a',b',H8,rfl,rfl,hC,hT,hN,hd,kY,wT,vW,sS,mu,sN,sO,tB⟩:=hcut;have Jy:=Hh tB;have GH:IntKind.i64.wrap ((kk:Int)-1)=(kk:Int)-1:=IntWalk.i64_in _ (by have:=Mh.out;omega);clear tB
  by_cases hcc:cc=0
  ·subst hcc;go_upto_region 13 with fail
   have n0':=hN.cell 0 rfl;have n1':=hN.cell 1 rfl;have n2':=hN.cell 2 rfl;have n3':=hN.cell 3 rfl;have n4':=hN.cell 4 rfl;have n5':=hN.cell 5 rfl;have n6':=hN.cell 6 rfl;have n7':=hN.cell 7 rfl;go_wp2_with (with_reducible refine zx ?_)
   refine zv rfl _ _ _ rfl rfl _ _ rfl rfl _ _ hC zN rfl (ww _ _ _ _) fun w11 hC11 pq=>?_
   have ee:=hT.gr pq (by omega);have T8:=hd.grownRow (row:=some w1.heap.size) (by rintro q ⟨⟩;exact wT) (by rintro q ⟨⟩;omega) uG pq;clear hC hT hN hd n0' n1' n2' n3' n4' n5' n6' n7';go_wp2_with fail
   go_roundw
   case rel=>exact⟨kk-1,by rw[show((kk-1:Nat):Int)=(kk:Int)-1 by omega],by have:=Mh.out;omega,p',u',a',b',H8,hC11,ee,T8,wT,vW,sS,mu,sN,sO,fun h10=>by obtain⟨x1,x2,x3,x4⟩:=Jy.out (by first | trivial | rfl);obtain⟨z1,z2,z3,z4⟩:=HK.out h10;have:=Mh.out;exact⟨x1,by omega,by omega,x4 z4⟩⟩
   case measure=>simp[intOf];omega
  have b1:(cc==0)=false:=by simp[hcc]
  have p1:(cc=0)=False:=eq_false hcc;have Dy:=hp.mono kY;have EH:=hu.mono kY;clear hcc;go_wp2_with fail
  go_roundw
  case rel=>exact⟨kk-1,by rw[show((kk-1:Nat):Int)=(kk:Int)-1 by omega],by have:=Mh.out;omega,p,u,a,b,H8,hC,hT,hd,wT,vW,Dy,EH,iq,cU,fun h10=>by obtain⟨z1,z2,z3,z4⟩:=HK.out h10;have:=Mh.out;exact⟨z1,by omega,by omega,z4⟩⟩
  case measure=>simp[intOf];omega
 -- the last two
 have WJ:Hid (eO (zZ alg)→zI p u=true∧szL p≤522∧szL u≤522∧AlgIn p u alg):=fun h=>by obtain⟨x1,x2,x3,x4⟩:=HK.out h;exact⟨x1,by omega,by omega,x4⟩
 clear HK;go_upto_region 14 with fail
 go_cut [11,12] (fun s11 s12 wx=>∃ (N:Nat) (cc:Int) (p' u':Itm) (a' b':Ad) (H8:Snap),s11=.pointer (some ⟨N,0,none⟩)∧s12=.int .i64 cc∧Blk wx w1.heap.size 28 (zF p a u b)∧Blk wx w.heap.size 28 (zF zn ⟨none,0,none,0⟩ zn ⟨none,0,none,0⟩)∧Blk wx N 28 (zF p' a' u' b')∧
  Dealt w H wx H8 g∧Hx.le H8∧H8 w1.heap.size=none∧H8 w.heap.size=none∧H8 N=none∧w1.heap.size<N∧IsItem H8 a'.ba a'.bc a'.ia a'.ic p'∧IsItem H8 b'.ba b'.bc b'.ia b'.ic u'∧Modest p'∧Modest u'∧
  (cc=0→zI p' u'=true∧szL p'≤szL p+18∧szL u'≤szL u+18∧(AlgIn p u alg→AlgIn p' u' alg)))
 case first =>
  have hC:=hC.drew;have hT:=hT.drew;have hd:=hd.drew;have yx:=Snap.le.refl Hx
  refine zw 8 (fun w'=>w'.cell? ⟨w1.heap.size,0,none⟩=some (.int .i64 p.kind)∧w'.cell? ⟨w1.heap.size,1,none⟩=some (.int .u64 p.n)∧w'.cell? ⟨w1.heap.size,2,none⟩=some (.slice a.ba p.bytes.length a.bc)∧w'.cell? ⟨w1.heap.size,3,none⟩=some (.slice a.ia p.items.length a.ic)∧w'.cell? ⟨w1.heap.size,4,none⟩=some (.int .i64 u.kind)∧w'.cell? ⟨w1.heap.size,5,none⟩=some (.int .u64 u.n)∧w'.cell? ⟨w1.heap.size,6,none⟩=some (.slice b.ba u.bytes.length b.bc)∧w'.cell? ⟨w1.heap.size,7,none⟩=some (.slice b.ia u.items.length b.ic)) (by kernel_rfl) (⟨hC.cell 0 rfl,hC.cell 1 rfl,hC.cell 2 rfl,hC.cell 3 rfl,hC.cell 4 rfl,hC.cell 5 rfl,hC.cell 6 rfl,hC.cell 7 rfl⟩) (fun zy=>?_)
  refine Tk 0 rfl zy ?_
  refine Ways.two (i:=1) (j:=6) rfl rfl (by kernel_rfl) (fun K hK=>?_) (fun K hK=>?_)
  ·go_simp
   refine(ug 1 (by omega) (by omega) _ hd.holds).mono ?_
   rintro e w4 ⟨v4,rfl,ja,jb,jc,jd,H4,rfl,xl,pz⟩
   try have sR:=xl.none sR hN.lt
   try have hN:=hN.below xl.below
   have vW:=xl.none vW hT.lt;have wT:=xl.none wT hC.lt;have hC:=hC.below xl.below;have hT:=hT.below xl.below;have yx:=yx.trans xl.le;have hp:=hp.mono xl.le;have hu:=hu.mono xl.le;have hd:=hd.grown xl
   refine Ko hK ?_ fun zy=>?_
   ·exact⟨hC.cell 0 rfl,hC.cell 1 rfl,hC.cell 2 rfl,hC.cell 3 rfl,hC.cell 4 rfl,hC.cell 5 rfl,hC.cell 6 rfl,hC.cell 7 rfl⟩
   clear hK K
   refine Ways.two (i:=2) (j:=6) rfl rfl (by kernel_rfl) (fun K hK=>?_) (fun K hK=>?_)
   ·go_simp
    refine(vf (hTab.mono hd.le) (a:=a) (b:=b) (d:=⟨ja,jb,jc,jd⟩) hp hu pz true 98 (by omega) (by omega) _ hd.holds).mono ?_
    rintro e w9 ⟨p',u',val,cc,rfl,⟨a',b',H8,rfl,yA,sS,mu⟩,tB,sN,sO,va⟩
    try have sR:=yA.none sR hN.lt
    try have hN:=hN.below yA.below
    have vW:=yA.none vW hT.lt;have wT:=yA.none wT hC.lt;have hC:=hC.below yA.below;have hT:=hT.below yA.below;have yx:=yx.trans yA.le;have hd:=hd.grown yA
    refine Ko hK ?_ fun zy=>?_
    ·exact⟨hC.cell 0 rfl,hC.cell 1 rfl,hC.cell 2 rfl,hC.cell 3 rfl,hC.cell 4 rfl,hC.cell 5 rfl,hC.cell 6 rfl,hC.cell 7 rfl⟩
    clear hK K
    refine Tk 3 rfl zy ?_
    refine Tk 4 rfl zy ?_
    refine Tk 5 rfl zy ?_
    refine To 6 rfl fun K hK=>?_
    go_simp
    have hN:=sU hd 28 (zF zn ⟨none,0,none,0⟩ zn ⟨none,0,none,0⟩);have sR:=hd.holds.none_of_ge (Nat.le_refl _);have bq:=hC.lt
    try simp only[zL,zr]at hN sR bq
    have hC:=hC.alloc xG;have hT:=hT.alloc xG;have hd:=hd.alloc xG
    refine Ko hK ?_ fun zy=>?_
    ·exact⟨hC.cell 0 rfl,hC.cell 1 rfl,hC.cell 2 rfl,hC.cell 3 rfl,hC.cell 4 rfl,hC.cell 5 rfl,hC.cell 6 rfl,hC.cell 7 rfl⟩
    clear hK K
    refine To 7 rfl fun K hK=>?_
    rw[if_pos (by rfl)]
    refine zm _ _ _ rfl _ _ rfl rfl _ _ hN zN rfl (ww _ _ _ _) fun w10 hN wk=>?_
    have hC:=hC.gr wk (by omega);have hT:=hT.gr wk (by omega);have hd:=hd.grownRow (by rintro q ⟨⟩;exact sR) (by rintro q ⟨⟩;omega) uG wk
    refine Ko hK ?_ fun zy=>?_
    ·exact⟨hC.cell 0 rfl,hC.cell 1 rfl,hC.cell 2 rfl,hC.cell 3 rfl,hC.cell 4 rfl,hC.cell 5 rfl,hC.cell 6 rfl,hC.cell 7 rfl⟩
    clear hK K
    refine To 8 rfl fun K hK=>?_
    go_simp
    refine Kz hK ?_
    clear hK K
    refine Wd ?_
    go_wp2_with fail
    go_meet
    exact⟨_,cc,p',u',a',b',H8,rfl,rfl,hC,hT,hN,hd,yx,wT,vW,sR,bq,sS,mu,sN,sO,fun h0=>by obtain⟨x1,x2,x3,x4⟩:=tB h0;have:=tN 1;exact⟨x1,by omega,by omega,fun h=>h.put x4⟩⟩
   go_simp
   have hN:=sU hd 28 (zF zn ⟨none,0,none,0⟩ zn ⟨none,0,none,0⟩);have sR:=hd.holds.none_of_ge (Nat.le_refl _);have bq:=hC.lt
   try simp only[zL,zr]at hN sR bq
   have hC:=hC.alloc xG;have hT:=hT.alloc xG;have hd:=hd.alloc xG
   refine Ko hK ?_ fun zy=>?_
   ·exact⟨hC.cell 0 rfl,hC.cell 1 rfl,hC.cell 2 rfl,hC.cell 3 rfl,hC.cell 4 rfl,hC.cell 5 rfl,hC.cell 6 rfl,hC.cell 7 rfl⟩
   clear hK K
   refine To 2 rfl fun K hK=>?_
   go_simp
   refine(vf (hTab.mono hd.le) (a:=a) (b:=b) (d:=⟨ja,jb,jc,jd⟩) hp hu pz true 98 (by omega) (by omega) _ hd.holds).mono ?_
   rintro e w9 ⟨p',u',val,cc,rfl,⟨a',b',H8,rfl,yA,sS,mu⟩,tB,sN,sO,va⟩
   try have sR:=yA.none sR hN.lt
   try have hN:=hN.below yA.below
   have vW:=yA.none vW hT.lt;have wT:=yA.none wT hC.lt;have hC:=hC.below yA.below;have hT:=hT.below yA.below;have yx:=yx.trans yA.le;have hd:=hd.grown yA
   refine Ko hK ?_ fun zy=>?_
   ·exact⟨hC.cell 0 rfl,hC.cell 1 rfl,hC.cell 2 rfl,hC.cell 3 rfl,hC.cell 4 rfl,hC.cell 5 rfl,hC.cell 6 rfl,hC.cell 7 rfl⟩
   clear hK K
   refine Tk 3 rfl zy ?_
   refine Tk 4 rfl zy ?_
   refine Tk 5 rfl zy ?_
   refine To 7 rfl fun K hK=>?_
   rw[if_pos (by rfl)]
   refine zm _ _ _ rfl _ _ rfl rfl _ _ hN zN rfl (ww _ _ _ _) fun w10 hN wk=>?_
   have hC:=hC.gr wk (by omega);have hT:=hT.gr wk (by omega);have hd:=hd.grownRow (by rintro q ⟨⟩;exact sR) (by rintro q ⟨⟩;omega) uG wk
   refine Ko hK ?_ fun zy=>?_
   ·exact⟨hC.cell 0 rfl,hC.cell 1 rfl,hC.cell 2 rfl,hC.cell 3 rfl,hC.cell 4 rfl,hC.cell 5 rfl,hC.cell 6 rfl,hC.cell 7 rfl⟩
   clear hK K
   refine To 8 rfl fun K hK=>?_
   go_simp
   refine Kz hK ?_
   clear hK K
   refine Wd ?_
   go_wp2_with fail
   go_meet
   exact⟨_,cc,p',u',a',b',H8,rfl,rfl,hC,hT,hN,hd,yx,wT,vW,sR,bq,sS,mu,sN,sO,fun h0=>by obtain⟨x1,x2,x3,x4⟩:=tB h0;have:=tN 1;exact⟨x1,by omega,by omega,fun h=>h.put x4⟩⟩
  go_simp
  have hN:=sU hd 28 (zF zn ⟨none,0,none,0⟩ zn ⟨none,0,none,0⟩);have sR:=hd.holds.none_of_ge (Nat.le_refl _);have bq:=hC.lt
  try simp only[zL,zr]at hN sR bq
  have hC:=hC.alloc xG;have hT:=hT.alloc xG;have hd:=hd.alloc xG
  refine Ko hK ?_ fun zy=>?_
  ·exact⟨hC.cell 0 rfl,hC.cell 1 rfl,hC.cell 2 rfl,hC.cell 3 rfl,hC.cell 4 rfl,hC.cell 5 rfl,hC.cell 6 rfl,hC.cell 7 rfl⟩
  clear hK K
  refine To 1 rfl fun K hK=>?_
  go_simp
  refine(ug 1 (by omega) (by omega) _ hd.holds).mono ?_
  rintro e w4 ⟨v4,rfl,ja,jb,jc,jd,H4,rfl,xl,pz⟩
  try have sR:=xl.none sR hN.lt
  try have hN:=hN.below xl.below
  have vW:=xl.none vW hT.lt;have wT:=xl.none wT hC.lt;have hC:=hC.below xl.below;have hT:=hT.below xl.below;have yx:=yx.trans xl.le;have hp:=hp.mono xl.le;have hu:=hu.mono xl.le;have hd:=hd.grown xl
  refine Ko hK ?_ fun zy=>?_
  ·exact⟨hC.cell 0 rfl,hC.cell 1 rfl,hC.cell 2 rfl,hC.cell 3 rfl,hC.cell 4 rfl,hC.cell 5 rfl,hC.cell 6 rfl,hC.cell 7 rfl⟩
  clear hK K
  refine To 2 rfl fun K hK=>?_
  go_simp
  refine(vf (hTab.mono hd.le) (a:=a) (b:=b) (d:=⟨ja,jb,jc,jd⟩) hp hu pz true 98 (by omega) (by omega) _ hd.holds).mono ?_
  rintro e w9 ⟨p',u',val,cc,rfl,⟨a',b',H8,rfl,yA,sS,mu⟩,tB,sN,sO,va⟩
  try have sR:=yA.none sR hN.lt
  try have hN:=hN.below yA.below
  have vW:=yA.none vW hT.lt;have wT:=yA.none wT hC.lt;have hC:=hC.below yA.below;have hT:=hT.below yA.below;have yx:=yx.trans yA.le;have hd:=hd.grown yA
  refine Ko hK ?_ fun zy=>?_
  ·exact⟨hC.cell 0 rfl,hC.cell 1 rfl,hC.cell 2 rfl,hC.cell 3 rfl,hC.cell 4 rfl,hC.cell 5 rfl,hC.cell 6 rfl,hC.cell 7 rfl⟩
  clear hK K
  refine Tk 3 rfl zy ?_
  refine Tk 4 rfl zy ?_
  refine Tk 5 rfl zy ?_
  refine To 7 rfl fun K hK=>?_
  rw[if_pos (by rfl)]
  refine zm _ _ _ rfl _ _ rfl rfl _ _ hN zN rfl (ww _ _ _ _) fun w10 hN wk=>?_
  have hC:=hC.gr wk (by omega);have hT:=hT.gr wk (by omega);have hd:=hd.grownRow (by rintro q ⟨⟩;exact sR) (by rintro q ⟨⟩;omega) uG wk
  refine Ko hK ?_ fun zy=>?_
  ·exact⟨hC.cell 0 rfl,hC.cell 1 rfl,hC.cell 2 rfl,hC.cell 3 rfl,hC.cell 4 rfl,hC.cell 5 rfl,hC.cell 6 rfl,hC.cell 7 rfl⟩
  clear hK K
  refine To 8 rfl fun K hK=>?_
  go_simp
  refine Kz hK ?_
  clear hK K
  refine Wd ?_
  go_wp2_with fail
  go_meet
  exact⟨_,cc,p',u',a',b',H8,rfl,rfl,hC,hT,hN,hd,yx,wT,vW,sR,bq,sS,mu,sN,sO,fun h0=>by obtain⟨x1,x2,x3,x4⟩:=tB h0;have:=tN 1;exact⟨x1,by omega,by omega,fun h=>h.put x4⟩⟩
 case rest =>
 clear hC hT hd wT vW;obtain⟨N,cc,p',u',a',b',H8,rfl,rfl,hC,hT,hN,hd,kY,wT,vW,sR,bq,sS,mu,sN,sO,tB⟩:=hcut;have Jy:=Hh tB;have N6:=Hh (yr wc hd.deck 6 (by omega) (by omega));have hp:=hp.mono kY;have hu:=hu.mono kY;clear tB kY;go_wp2_with (go_at_call 28;refine zM ?_)
 refine N6.out.mono ?_
 rintro e w5 ⟨j,rfl,hj,pE⟩
 have hC:=hC.dealt pE (by omega);have hT:=hT.dealt pE (by omega);have hN:=hN.dealt pE (by omega);have hd:=hd.trans pE;clear N6 pE
 by_cases hgo:j=5∧cc=0
 ·obtain⟨rfl,rfl⟩:=hgo;have K9:=Hh (Jy.out rfl);clear Jy;go_upto_region 16 with fail
  have n0':=hN.cell 0 rfl;have n1':=hN.cell 1 rfl;have n2':=hN.cell 2 rfl;have n3':=hN.cell 3 rfl;have n4':=hN.cell 4 rfl;have n5':=hN.cell 5 rfl;have n6':=hN.cell 6 rfl;have n7':=hN.cell 7 rfl;go_wp2_with (with_reducible refine zx ?_)
  refine zv rfl _ _ _ rfl rfl _ _ rfl rfl _ _ hC zN rfl (ww _ _ _ _) fun w11 hC11 pq=>?_
  have ee:=hT.gr pq (by omega);have Lq:=hN.gr pq (by omega);have T8:=hd.grownRow (row:=some w1.heap.size) (by rintro q ⟨⟩;exact wT) (by rintro q ⟨⟩;omega) uG pq;clear hC hT hN hd n0' n1' n2' n3' n4' n5' n6' n7';go_upto_region 17 with fail
  go_cut [12] (fun s12 wx=>∃ (cc:Int) (p9 u9:Itm) (a9 b9:Ad) (H9:Snap),s12=.int .i64 cc∧Blk wx w1.heap.size 28 (zF p' a' u' b')∧Blk wx w.heap.size 28 (zF zn ⟨none,0,none,0⟩ zn ⟨none,0,none,0⟩)∧Blk wx N 28 (zF p9 a9 u9 b9)∧
   Dealt w H wx H9 g∧H8.le H9∧H9 w1.heap.size=none∧H9 w.heap.size=none∧IsItem H9 a9.ba a9.bc a9.ia a9.ic p9∧IsItem H9 b9.ba b9.bc b9.ia b9.ic u9∧Modest p9∧Modest u9∧
   (cc=0→zI p9 u9=true∧szL p9≤szL p'+27∧szL u9≤szL u'+27∧(AlgIn p' u' alg→AlgIn p9 u9 alg)))
  case first =>
   have hC:=hC11.drew;have hT:=ee.drew;have hN:=Lq.drew;have hd:=T8.drew;have yx:=Snap.le.refl H8
   refine zw 9 (fun w'=>w'.cell? ⟨w1.heap.size,0,none⟩=some (.int .i64 p'.kind)∧w'.cell? ⟨w1.heap.size,1,none⟩=some (.int .u64 p'.n)∧w'.cell? ⟨w1.heap.size,2,none⟩=some (.slice a'.ba p'.bytes.length a'.bc)∧w'.cell? ⟨w1.heap.size,3,none⟩=some (.slice a'.ia p'.items.length a'.ic)∧w'.cell? ⟨w1.heap.size,4,none⟩=some (.int .i64 u'.kind)∧w'.cell? ⟨w1.heap.size,5,none⟩=some (.int .u64 u'.n)∧w'.cell? ⟨w1.heap.size,6,none⟩=some (.slice b'.ba u'.bytes.length b'.bc)∧w'.cell? ⟨w1.heap.size,7,none⟩=some (.slice b'.ia u'.items.length b'.ic)) (by kernel_rfl) (⟨hC.cell 0 rfl,hC.cell 1 rfl,hC.cell 2 rfl,hC.cell 3 rfl,hC.cell 4 rfl,hC.cell 5 rfl,hC.cell 6 rfl,hC.cell 7 rfl⟩) (fun zy=>?_)
   refine Tk 0 rfl zy ?_
   refine To 1 rfl fun K hK=>?_
   go_simp
   refine(ug 98 (by omega) (by omega) _ hd.holds).mono ?_
   rintro e w4 ⟨v4,rfl,ja,jb,jc,jd,H4,rfl,xl,pz⟩
   have sR:=xl.none sR hN.lt;have hN:=hN.below xl.below;have vW:=xl.none vW hT.lt;have wT:=xl.none wT hC.lt;have hC:=hC.below xl.below;have hT:=hT.below xl.below;have yx:=yx.trans xl.le;have hd:=hd.grown xl
   refine Ko hK ?_ fun zy=>?_
   ·exact⟨hC.cell 0 rfl,hC.cell 1 rfl,hC.cell 2 rfl,hC.cell 3 rfl,hC.cell 4 rfl,hC.cell 5 rfl,hC.cell 6 rfl,hC.cell 7 rfl⟩
   clear hK K
   refine To 2 rfl fun K hK=>?_
   go_simp
   have hO:=OwnI.lit (w:=w4) (ItemsC.one pz) w4.heap.size (Nat.le_refl _) (by simp);have hC:=hC.alloc (.cells (zQ (zZ 98) ja jb jc jd).toArray 26);have hT:=hT.alloc (.cells (zQ (zZ 98) ja jb jc jd).toArray 26);have EJ:=hN.lt;have hN:=hN.alloc (.cells (zQ (zZ 98) ja jb jc jd).toArray 26);have hd:=hd.alloc (.cells (zQ (zZ 98) ja jb jc jd).toArray 26);obtain⟨H5,qL,U0,vC,L8,rU,rH,iX⟩:=hO.snap hd.holds (fun q hq=>by cases hq;exact xl.holds.none_of_ge (Nat.le_refl _));have ev:∀ q,q<w4.heap.size→H4 q=none→H5 q=none:=fun q hq h0=>se vC h0 (fun e=>by simp at e;omega)
   have hd:=hd.snap (B:=w4.heap.size) qL U0 vC (fun q hq=>by simp at hq;omega) (by omega) uG;have sR:=ev _ EJ sR;have vW:=ev _ (by omega) vW;have wT:=ev _ (by omega) wT;have yx:=yx.trans qL
   refine Ko hK ?_ fun zy=>?_
   ·exact⟨hC.cell 0 rfl,hC.cell 1 rfl,hC.cell 2 rfl,hC.cell 3 rfl,hC.cell 4 rfl,hC.cell 5 rfl,hC.cell 6 rfl,hC.cell 7 rfl⟩
   clear hK K
   refine To 3 rfl fun K hK=>?_
   go_simp
   refine(Ui (l:=[zZ 98]) ⟨rU,rH,iX⟩ (ModestL.of fun y hy=>by rw[List.mem_singleton.1 hy];exact uX 98) (by simp) _ hd.holds).mono ?_
   rintro e w7 ⟨v7,rfl,la,lb,lc,ld,H7,rfl,vV,eu⟩
   have sR:=vV.none sR hN.lt;have hN:=hN.below vV.below;have vW:=vV.none vW hT.lt;have wT:=vV.none wT hC.lt;have hC:=hC.below vV.below;have hT:=hT.below vV.below;have yx:=yx.trans vV.le;have hd:=hd.grown vV
   refine Ko hK ?_ fun zy=>?_
   ·exact⟨hC.cell 0 rfl,hC.cell 1 rfl,hC.cell 2 rfl,hC.cell 3 rfl,hC.cell 4 rfl,hC.cell 5 rfl,hC.cell 6 rfl,hC.cell 7 rfl⟩
   clear hK K
   refine To 4 rfl fun K hK=>?_
   go_simp
   refine(vf (hTab.mono hd.le) (a:=a') (b:=b') (d:=⟨la,lb,lc,ld⟩) (sS.mono yx) (mu.mono yx) eu true 2 (by omega) (by omega) _ hd.holds).mono ?_
   rintro e w9 ⟨p9,u9,val,cc,rfl,⟨a9,b9,H9,rfl,tI,Jk,Js⟩,tB,Py,Pz,va⟩
   have sR:=tI.none sR hN.lt;have hN:=hN.below tI.below;have vW:=tI.none vW hT.lt;have wT:=tI.none wT hC.lt;have hC:=hC.below tI.below;have hT:=hT.below tI.below;have yx:=yx.trans tI.le;have hd:=hd.grown tI
   refine Ko hK ?_ fun zy=>?_
   ·exact⟨hC.cell 0 rfl,hC.cell 1 rfl,hC.cell 2 rfl,hC.cell 3 rfl,hC.cell 4 rfl,hC.cell 5 rfl,hC.cell 6 rfl,hC.cell 7 rfl⟩
   clear hK K
   refine Tk 5 rfl zy ?_
   refine Tk 6 rfl zy ?_
   refine Tk 7 rfl zy ?_
   refine To 8 rfl fun K hK=>?_
   rw[if_pos (by rfl)]
   refine zm _ _ _ rfl _ _ rfl rfl _ _ hN zN rfl (ww _ _ _ _) fun w10 hN wk=>?_
   have hC:=hC.gr wk (by omega);have hT:=hT.gr wk (by omega);have hd:=hd.grownRow (row:=some N) (by rintro q ⟨⟩;exact sR) (by rintro q ⟨⟩;omega) uG wk
   refine Ko hK ?_ fun zy=>?_
   ·exact⟨hC.cell 0 rfl,hC.cell 1 rfl,hC.cell 2 rfl,hC.cell 3 rfl,hC.cell 4 rfl,hC.cell 5 rfl,hC.cell 6 rfl,hC.cell 7 rfl⟩
   clear hK K
   refine To 9 rfl fun K hK=>?_
   go_simp
   refine Kz hK ?_
   clear hK K
   refine Wd ?_
   go_wp2_with fail
   go_meet
   exact⟨cc,p9,u9,a9,b9,H9,rfl,hC,hT,hN,hd,yx,wT,vW,Jk,Js,Py,Pz,fun h0=>by obtain⟨x1,x2,x3,x4⟩:=tB h0;have:=UL.2;exact⟨x1,by omega,by omega,fun h=>h.put x4⟩⟩
  case rest =>
  clear hC11 ee Lq T8 wT vW sR;obtain⟨cc,p9,u9,a9,b9,H9,rfl,hC,hT,hN,hd,TF,wT,vW,Jk,Js,Py,Pz,G6⟩:=hcut;have EX:=Hh G6;have sS:=sS.mono TF;have mu:=mu.mono TF;clear G6
  by_cases hcc:cc=0
  ·subst hcc;have Nn:=Hh (EX.out rfl);clear EX;go_upto_region 19 with fail
   have n0':=hN.cell 0 rfl;have n1':=hN.cell 1 rfl;have n2':=hN.cell 2 rfl;have n3':=hN.cell 3 rfl;have n4':=hN.cell 4 rfl;have n5':=hN.cell 5 rfl;have n6':=hN.cell 6 rfl;have n7':=hN.cell 7 rfl;go_wp2_with (with_reducible refine zx ?_)
   refine zv rfl _ _ _ rfl rfl _ _ rfl rfl _ _ hC zN rfl (ww _ _ _ _) fun w12 hC hg12=>?_
   have hT:=hT.gr hg12 (by omega);have hd:=hd.grownRow (row:=some w1.heap.size) (by rintro q ⟨⟩;exact wT) (by rintro q ⟨⟩;omega) uG hg12;clear hN n0' n1' n2' n3' n4' n5' n6' n7';have k0':=hC.cell 0 rfl;have k1':=hC.cell 1 rfl;have k2':=hC.cell 2 rfl;have k3':=hC.cell 3 rfl;have k4':=hC.cell 4 rfl;have k5':=hC.cell 5 rfl;have k6':=hC.cell 6 rfl;have k7':=hC.cell 7 rfl;go_wp2_with (with_reducible refine zx ?_)
   refine zv rfl _ _ _ rfl rfl _ _ rfl rfl _ _ hT zN rfl (ww _ _ _ _) fun wz vo xI=>?_
   have sv:=hd.gb vW (Nat.le_refl _) uG xI;go_wp2_with fail
   refine zO rfl rfl vo rfl rfl zN rfl ?_
   exact⟨p9,u9,a9,b9,H9,rfl,sv,Jk,Js,Py,Pz,fun h10=>by obtain⟨z1,z2,z3,z4⟩:=WJ.out h10;obtain⟨x1,x2,x3,x4⟩:=K9.out;obtain⟨y1,y2,y3,y4⟩:=Nn.out;exact⟨y1,by omega,y4 (x4 z4)⟩⟩
  have b1:(cc==0)=false:=by simp[hcc]
  have p1:(cc=0)=False:=eq_false hcc;clear hcc;go_upto_region 20 with fail
  have k0':=hC.cell 0 rfl;have k1':=hC.cell 1 rfl;have k2':=hC.cell 2 rfl;have k3':=hC.cell 3 rfl;have k4':=hC.cell 4 rfl;have k5':=hC.cell 5 rfl;have k6':=hC.cell 6 rfl;have k7':=hC.cell 7 rfl;go_wp2_with (with_reducible refine zx ?_)
  refine zv rfl _ _ _ rfl rfl _ _ rfl rfl _ _ hT zN rfl (ww _ _ _ _) fun wz vo xI=>?_
  have sv:=hd.gb vW (Nat.le_refl _) uG xI;go_wp2_with fail
  refine zO rfl rfl vo rfl rfl zN rfl ?_
  exact⟨p',u',a',b',H9,rfl,sv,sS,mu,sN,sO,fun h10=>by obtain⟨z1,z2,z3,z4⟩:=WJ.out h10;obtain⟨x1,x2,x3,x4⟩:=K9.out;exact⟨x1,by omega,x4 z4⟩⟩
 have hb:((j:Int)==5)=false∨(((j:Int)==5)=true∧(cc==0)=false):=by
  by_cases h5:j=5
  ·right;exact⟨by simp[h5],by have:cc≠0:=fun h=>hgo ⟨h5,h⟩;simp[this]⟩
  left;rw[beq_eq_false_iff_ne];omega
 clear hgo
 rcases hb with hb | ⟨hb,zK⟩
 ·go_upto_region 20 with fail
  have k0':=hC.cell 0 rfl;have k1':=hC.cell 1 rfl;have k2':=hC.cell 2 rfl;have k3':=hC.cell 3 rfl;have k4':=hC.cell 4 rfl;have k5':=hC.cell 5 rfl;have k6':=hC.cell 6 rfl;have k7':=hC.cell 7 rfl;go_wp2_with (with_reducible refine zx ?_)
  refine zv rfl _ _ _ rfl rfl _ _ rfl rfl _ _ hT zN rfl (ww _ _ _ _) fun wz vo xI=>?_
  have sv:=hd.gb vW (Nat.le_refl _) uG xI;go_wp2_with fail
  refine zO rfl rfl vo rfl rfl zN rfl ?_
  exact⟨p,u,a,b,H8,rfl,sv,hp,hu,iq,cU,fun h10=>by obtain⟨z1,z2,z3,z4⟩:=WJ.out h10;exact⟨z1,by omega,z4⟩⟩
 go_upto_region 20 with fail
 have k0':=hC.cell 0 rfl;have k1':=hC.cell 1 rfl;have k2':=hC.cell 2 rfl;have k3':=hC.cell 3 rfl;have k4':=hC.cell 4 rfl;have k5':=hC.cell 5 rfl;have k6':=hC.cell 6 rfl;have k7':=hC.cell 7 rfl;go_wp2_with (with_reducible refine zx ?_)
 refine zv rfl _ _ _ rfl rfl _ _ rfl rfl _ _ hT zN rfl (ww _ _ _ _) fun wz vo xI=>?_
 have sv:=hd.gb vW (Nat.le_refl _) uG xI;go_wp2_with fail
 refine zO rfl rfl vo rfl rfl zN rfl ?_
 exact⟨p,u,a,b,H8,rfl,sv,hp,hu,iq,cU,fun h10=>by obtain⟨z1,z2,z3,z4⟩:=WJ.out h10;exact⟨z1,by omega,z4⟩⟩
end Go.Proofs.YtliomcphdnppnaaGreatDoor
