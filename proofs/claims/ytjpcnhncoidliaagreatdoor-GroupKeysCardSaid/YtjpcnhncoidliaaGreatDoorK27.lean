/- squeezed. Walks: the law GroupKeys. -/
import Derived.Test.YtjpcnhncoidliaaGreatDoorK26
set_option linter.unusedVariables false
set_option linter.unusedSimpArgs false
set_option maxRecDepth 100000
set_option maxHeartbeats 25600000
namespace Go.Proofs.YtjpcnhncoidliaaGreatDoor
open Go.RowKit
def bY:Lie Bd where
 k:=3
 pos:=by omega
 E:=fun H b c=>∃ a,c=(bdQ b a).toList∧BdA H b a
 len:=by rintro _ _ _ ⟨_,rfl,_⟩;rfl
 one:=by rintro _ _ _ ⟨_,rfl,_⟩;simp[Value.oneCell']
 mono:=by rintro H K x c hl ⟨a,e,h⟩;exact⟨a,e,h.mono hl⟩
theorem YM (x:Ep) (b:Bd) (s:List UInt8):(sL x b s).1.length≤4096:=by
 unfold sL
 split
 ·simp
 split
 ·split
  ·simp
  show(sS _ _ _ _).length≤4096
  omega
 simp
structure LS (W0:World) (H:Snap) (gd E:Nat) (bc ec:Array Value) (Hr:Snap) (w:World):Prop where
 grows:Grows W0 H w Hr
 deck:DeckIn w gd Hr
 box:Blk w W0.heap.size 25 bc
 var:Blk w E 33 ec
 far:W0.heap.size<gd
 ne:E≠gd
section
variable {W0 w w':World} {H Hr Hs:Snap} {gd E:Nat} {bc ec:Array Value}
theorem LS.step (h:LS W0 H gd E bc ec Hr w) (k:Dealt w Hr w' Hs gd):LS W0 H gd E bc ec Hs w' :=
 ⟨h.grows.trans_but k.grows (by have:=h.far;omega),k.deck,h.box.dealt k (by have:=h.far;omega),h.var.dealt k h.ne,h.far,h.ne⟩
theorem LS.grow (h:LS W0 H gd E bc ec Hr w) (k:Grows w Hr w' Hs):LS W0 H gd E bc ec Hs w':=h.step (h.deck.grows k)
theorem LS.below (h:LS W0 H gd E bc ec Hr w) (k:Below w.heap.size w w'):LS W0 H gd E bc ec Hr w':=h.grow (Grows.of_below h.deck.holds k)
theorem LS.alloc (h:LS W0 H gd E bc ec Hr w) (o:Obj):LS W0 H gd E bc ec Hr (w.alloc o):=h.below (zl w o)
theorem LS.drew (h:LS W0 H gd E bc ec Hr w):LS W0 H gd E bc ec Hr w.drew:=h.below (Below.refl _ _).drew
end
theorem oh {H:Snap}(w:World) (hH:Holds w H) {A B:Option Addr}{n m c d:Nat}{l:List UInt8}(hn:n=l.length) (hm:m=l.length) (hl:l.length≤1099511) (ha:IsBytes H A c l) (hb:IsBytes H B d l) :
  Calls Tryz.prog 12 #[.slice A n c,.slice B m d] w fun e w'=>e=.returned (.bool true)∧Below w.heap.size w w':=by
 have h:=nK w A B l l n m c d hn hm (by omega) (by omega) (Src.of_row ha.row hH) (Src.of_row hb.row hH);rw[decide_eq_true (rfl:l=l)]at h
 exact h
theorem YT {H:Snap}(hTab:Tabs H) {A:Option Addr}{c:Nat}{l:List Int}(hl:IsInts H A c l) {SA:Option Addr}{sn sc:Nat}{s:List UInt8}(iN:sn=s.length) (hs:IsBytes H SA sc s)
  {b:Bd} {ba:BAd} (hctx:IsBytes H ba.xa ba.xc b.ctx) (hkid:IsBytes H ba.ka ba.kc b.kid) (hpiv : -9223372036854775808≤b.piv∧b.piv≤9223372036854775807) (w:World) (hH:Holds w H) :
  Calls Tryz.prog 3 #[.slice A l.length c,.slice SA sn sc,.agg (bdQ b ba)] w fun e w'=>e=.returned (.bool true)∧Below w.heap.size w w':=by
 obtain⟨nl,x9⟩:∃ nl,l.length=nl:=⟨_,rfl⟩
 obtain⟨xl,ek⟩:∃ n,n=b.ctx.length:=⟨_,rfl⟩
 obtain⟨kl,sX⟩:∃ n,n=b.kid.length:=⟨_,rfl⟩
 have NW:=Hh (fun w=>OO hl w);rw[x9]at NW⊢;show Calls Tryz.prog 3 #[.slice A nl c,.slice SA sn sc,.agg (bdC ba.xa b.ctx.length ba.xc ba.ka b.kid.length ba.kc b.piv)] w _
 rw[← ek,← sX];have hB:=Blk.new w 25 (bdC ba.xa xl ba.xc ba.ka kl ba.kc b.piv);have um:=(Grows.refl hH).alloc (.cells (bdC ba.xa xl ba.xc ba.ka kl ba.kc b.piv) 25);have HT:=Hh hTab;have ZQ:=Hh (And.intro iN (And.intro ek sX));have HS:=Hh hs;have Hu:=Hh (And.intro hctx (And.intro hkid hpiv));obtain⟨w1,nY⟩:∃ w1,w.alloc (.cells (bdC ba.xa xl ba.xc ba.ka kl ba.kc b.piv) 25)=w1:=⟨_,rfl⟩
 rw[nY]at hB um;have qL:w1.heap.size=w.heap.size+1:=by rw[← nY,zW]
 have IL:=Hh qL;obtain⟨H2,yY,te,NO⟩:=dE (L:=fF) (l:=[s,b.kid,b.ctx]) um (cs:=[.slice SA s.length sc,.slice ba.ka b.kid.length ba.kc,.slice ba.xa b.ctx.length ba.xc]) ((RowC.one (L:=fF) (H:=H) (x:=s) (c:=[.slice SA s.length sc]) ⟨SA,sc,rfl,hs⟩).app ((RowC.one (L:=fF) (H:=H) (x:=b.kid) (c:=[.slice ba.ka b.kid.length ba.kc]) ⟨ba.ka,ba.kc,rfl,hkid⟩).app (RowC.one (L:=fF) (H:=H) (x:=b.ctx) (c:=[.slice ba.xa b.ctx.length ba.xc]) ⟨ba.xa,ba.xc,rfl,hctx⟩))) 23 (by simp);rw[← iN,← sX,← ek]at yY;have vE:=hB.alloc (.cells [.slice SA sn sc,.slice ba.ka kl ba.kc,.slice ba.xa xl ba.xc].toArray 23);obtain⟨w2,qK⟩:∃ w2,w1.alloc (.cells [.slice SA sn sc,.slice ba.ka kl ba.kc,.slice ba.xa xl ba.xc].toArray 23)=w2:=⟨_,rfl⟩
 rw[qK]at yY vE;have AL:=Hh (TM w2 yY.holds (n:=3) rfl NO);have b0:=hB.cell 0 rfl;have b1:=hB.cell 1 rfl;have Hj:w1.alloc (.cells #[.slice SA sn sc,.slice ba.ka kl ba.kc,.slice ba.xa xl ba.xc] 23)=w2:=qK;clear hTab iN hs hctx hkid hpiv hl hH x9 ek sX NO qK qL hB um;go_enter Tryz.func3,Tryz.ntmps3
 go_wp2_with fail
 refine AL.out.mono ?_
 rintro e w3 ⟨⟨bb,rfl,vy⟩,rfl⟩
 clear AL nY Hj b0 b1
 cases bb with
 | false =>
  have hb:=yY.below;clear vE yY vy te;go_wp2_with fail
  refine(j5 _).mono ?_
  rintro e w4 ⟨rfl,sW⟩
  have yX:=hb.trans (sW.mono hb.size);go_wp2_with fail
  go_ret
  exact⟨rfl,yX⟩
 | true =>
 have sP:s.length≤900:=vy rfl s (by simp);have sX:b.kid.length≤900:=vy rfl b.kid (by simp);have ek:b.ctx.length≤900:=vy rfl b.ctx (by simp);have Cr:=Hh sP;have PZ:Hid (BdA H b ba):=⟨Hu.out.1,Hu.out.2.1,Hu.out.2.2,by omega,by omega⟩
 have Ly:=yY.le;clear vy sP sX ek te
 simp only[Bool.not_true]
 go_wp2_with fail
 refine(NW.out _).mono ?_
 rintro e w4 ⟨rfl,Fo,sW⟩
 have uv:=yY.below_ sW;have fJ:=vE.below sW;have IV:DeckIn w4 w3.heap.size H2:=⟨Fo.mono Ly,uv.holds,yY.holds.none_of_ge (Nat.le_refl _)⟩
 have Iz:w.heap.size<w3.heap.size:=vE.lt;obtain⟨gd,ip⟩:∃ gd,w3.heap.size=gd:=⟨_,rfl⟩
 rw[ip]at IV Iz⊢;clear Fo sW yY vE NW ip Ly;go_wp2_with fail
 refine(WA (HT.out.mono uv.le) _ IV).mono ?_
 rintro e w5 ⟨x0,a0,H5,rfl,yU,G8⟩
 have xC:=uv.trans_but yU.grows (by omega);have tF:=fJ.dealt yU (by omega);have FF:=yU.deck;have CU:=Hh (je (qr (HT.out.mono xC.le)) G8 w5 yU.deck.holds);clear yU IV uv fJ G8;go_wp2_with fail
 refine CU.out.mono ?_
 rintro e w6 ⟨x,a,H6,n6,rfl,zK,Xy⟩
 have yf:=FF.grows zK
 have wT:LS w H gd w6.heap.size (bdC ba.xa xl ba.xc ba.ka kl ba.kc b.piv) (epQ x a) H6 (w6.alloc (.cells (epQ x a) 33)) :=
  ⟨(xC.trans zK).alloc _,yf.deck.alloc _,(tF.below zK.below).alloc _,Blk.new _ _ _,Iz,by have:=yf.deck.deck.lt;omega⟩
 have HX:=Hh Xy;obtain⟨E,IY⟩:∃ E,w6.heap.size=E:=⟨_,rfl⟩
 obtain⟨w7,QC⟩:∃ w7,w6.alloc (.cells (epQ x a) 33)=w7:=⟨_,rfl⟩
 rw[IY,QC]at wT;have HW:=Hh (And.intro IY QC);clear IY QC zK yf FF xC tF CU Xy Iz;go_upto_region 5 with fail
 try rw[HW.out.1]
 try rw[HW.out.2]
 clear HW;go_wp2_with fail
 refine(vY _ wT.deck 5 (by omega) (by omega)).mono ?_
 rintro e w8 ⟨r8,rfl,JM,vF⟩
 replace wT:=wT.step vF;replace HX:=Hh (HX.out.mono vF.le);clear vF;obtain⟨y,hy⟩:=d8 (r8:Int);obtain⟨H9,tZ,Xw,J2⟩:=jp (Grows.refl wT.deck.holds) [y] #[zg y] 1 rfl (by simp) rfl;replace wT:=wT.grow tZ;replace HX:=Hh (HX.out.mono Xw);obtain⟨w9,Va⟩:∃ w9,w8.alloc (.cells #[zg y] 5)=w9:=⟨_,rfl⟩
 rw[Va]at wT tZ;obtain⟨L,hL⟩:∃ L,w8.heap.size=L:=⟨_,rfl⟩
 rw[hL]at J2;obtain⟨PY,wZ,iB,PN⟩:=dE (L:=fF) (l:=[s,[y]]) (Grows.refl wT.deck.holds) (cs:=[.slice SA s.length sc,.slice (some ⟨L,0,none⟩) [y].length 1]) ((RowC.one (L:=fF) (H:=H9) (x:=s) (c:=[.slice SA s.length sc]) ⟨SA,sc,rfl,HS.out.mono wT.grows.le⟩).app (RowC.one (L:=fF) (H:=H9) (x:=[y]) (c:=[.slice (some ⟨L,0,none⟩) [y].length 1]) ⟨_,1,rfl,J2⟩)) 23 (by simp);rw[← ZQ.out.1]at wZ;replace wT:=wT.grow wZ;replace HX:=Hh (HX.out.mono iB);obtain⟨w10,PV⟩:∃ w10,w9.alloc (.cells [.slice SA sn sc,.slice (some ⟨L,0,none⟩) [y].length 1].toArray 23)=w10:=⟨_,rfl⟩
 have L5:w9.alloc (.cells #[.slice SA sn sc,.slice (some ⟨L,0,none⟩) 1 1] 23)=w10:=PV;rw[PV]at wT;obtain⟨M,hM⟩:∃ M,w9.heap.size=M:=⟨_,rfl⟩
 rw[hM]at PN;have LJ:=Hh PN
 have hq:∀ z∈[s,[y]],z.length≤1099511:=by
  intro z hz
  simp at hz
  rcases hz with rfl | rfl
  ·have:=Cr.out;omega
  simp
 obtain⟨qs,JL⟩:∃ qs,[s,[y]]=qs:=⟨_,rfl⟩
 rw[JL]at LJ hq;have HQ:Hid (qs.length=2∧∀ z∈qs,z.length≤1099511):=⟨by rw[← JL];rfl,hq⟩
 clear tZ Xw J2 wZ iB PN JL hq JM PV;go_upto_region 6 with fail
 clear hy Va hL L5 hM;go_loopw [48] (fun v48 wr=>∃ (j:Nat) (Hr:Snap),j≤2∧v48=.int .i64 (j:Int)∧LS w H gd E (bdC ba.xa xl ba.xc ba.ka kl ba.kc b.piv) (epQ x a) Hr wr∧PY.le Hr) (fun v48 _=>2-(intOf v48).toNat)
 case atStart=>exact⟨0,PY,by omega,rfl,wT,Snap.le.refl _⟩
 case round =>
 clear wT;obtain⟨j,Hr,hj,rfl,wT,mf⟩:=hrel;have HJ:=Hh hj;have qB:=Hh mf;clear hj mf
 by_cases yy:j<2
 ·have nD:(j:Int)<2:=by omega
  obtain⟨gb,go,me,rL⟩:=LJ.out.at_ (by rw[HQ.out.1];omega)
  cases me
  obtain⟨d,hd,hc⟩:=rL j (by rw[HQ.out.1];exact yy);obtain⟨QA,qc,hd,oN⟩:=hd;subst hd;have G2:(qs[j]'(by rw[HQ.out.1];exact yy)).length≤1099511:=HQ.out.2 _ (List.getElem_mem _)
  generalize qs[j]'(by rw[HQ.out.1];exact yy)=q at *
  obtain⟨qn,JK⟩:∃ n,n=q.length:=⟨_,rfl⟩
  have r0:=wT.deck.holds.cell (qB.out.cell (hc 0 _ rfl));rw[show 0+(j*fF.k+0)=j from by show 0+(j*1+0)=_;omega]at r0;rw[← JK]at r0;have Uq:=Hh (And.intro oN (And.intro JK G2));have QT:=Hh (HX.out.mono qB.out);have e0:=wT.var.cell 0 rfl;have e1:=wT.var.cell 1 rfl;have e2:=wT.var.cell 2 rfl;have e3:=wT.var.cell 3 rfl;have sv:=Hh yy;clear rL hc oN JK G2 yy;go_wp2_with fail
  refine(g8 QT.out Uq.out.2.1 Uq.out.2.2 _ wT.deck.holds (Src.of_row (Uq.out.1.mono qB.out).row wT.deck.holds)).mono ?_
  rintro e w11 ⟨A1,c1,A2,c2,A3,c3,Jf,rfl,uT,k1,k2,k3⟩
  replace wT:=wT.grow uT;have tH:=qB.out.trans uT.le;replace QT:=Hh (QT.out.mono uT.le);have Rx:=Hh (And.intro k1 (And.intro k2 k3));have rb:=Hh tH;clear uT k1 k2 k3 e0 e1 e2 e3 r0 tH;have e0:=wT.var.cell 0 rfl;have e1:=wT.var.cell 1 rfl;have e2:=wT.var.cell 2 rfl;have e3:=wT.var.cell 3 rfl;go_wp2_with fail
  refine(Ye QT.out Uq.out.2.1 Uq.out.2.2 _ wT.deck.holds (Src.of_row (Uq.out.1.mono rb.out).row wT.deck.holds)).mono ?_
  rintro e w12 ⟨B1,d1,B2,d2,B3,d3,QN,rfl,zR,k1,k2,k3⟩
  replace wT:=wT.grow zR;have tH:=rb.out.trans zR.le;replace QT:=Hh (QT.out.mono zR.le);have HA:=Hh (And.intro (Rx.out.1.mono zR.le) (And.intro (Rx.out.2.1.mono zR.le) (Rx.out.2.2.mono zR.le)));have HB:=Hh (And.intro k1 (And.intro k2 k3));clear rb Rx zR k1 k2 k3 e0 e1 e2 e3;have rb:=Hh tH;clear tH;go_wp2_with fail
  refine(oh _ wT.deck.holds (wh _ _ _).symm (wh _ _ _).symm (by rw[wh];omega) HA.out.1 HB.out.1).mono ?_
  rintro e w13 ⟨rfl,rr⟩
  replace wT:=wT.below rr;clear rr;go_wp2_with fail
  refine(oh _ wT.deck.holds (wh _ _ _).symm (wh _ _ _).symm (by rw[wh];omega) HA.out.2.1 HB.out.2.1).mono ?_
  rintro e w14 ⟨rfl,rs⟩
  replace wT:=wT.below rs;clear rs;go_wp2_with fail
  refine(oh _ wT.deck.holds (wh _ _ _).symm (wh _ _ _).symm (by rw[wh];omega) HA.out.2.2 HB.out.2.2).mono ?_
  rintro e w15 ⟨rfl,Lo⟩
  replace wT:=wT.below Lo;clear Lo HA HB;go_upto_region 12 with fail
  go_cut [88,89,90] (fun s88 s89 s90 wx=>s89=.int .i64 2∧s90=.int .i64 0∧∃ (M:Nat) (H2:Snap) (b2:Bd),s88=.slice (some ⟨M,0,none⟩) 2 2∧LS w H gd E (bdC ba.xa xl ba.xc ba.ka kl ba.kc b.piv) (epQ x a) H2 wx∧IsRow bY H2 (some ⟨M,0,none⟩) 2 [b,b2]∧QN.le H2)
  case first =>
   replace wT:=wT.drew;have S0:Hid (QN.le QN):=Snap.le.refl QN
   refine zn 9 (fun wx=>wx.cell? ⟨w.heap.size,0,none⟩=some (.slice ba.xa xl ba.xc)∧wx.cell? ⟨w.heap.size,1,none⟩=some (.slice ba.ka kl ba.kc)∧wx.cell? ⟨w.heap.size,2,none⟩=some (.int .i64 b.piv)) (by kernel_rfl) (⟨wT.box.cell 0 rfl,wT.box.cell 1 rfl,wT.box.cell 2 rfl⟩) (fun zy=>?_)
   refine TkS 0 rfl zy ?_
   refine TkS 1 rfl zy ?_
   refine TkS 3 rfl zy ?_
   refine TkS 8 rfl zy ?_
   refine To 2 rfl fun K hK=>?_
   go_simp
   refine(TN _ wT.deck 2 (by omega) (by omega)).mono ?_
   rintro e w16 ⟨KA,kc,kv,rfl,Fu,BQ,Lu,Oz⟩
   have wT:=wT.step Oz;have S0:=Hh (S0.out.trans Oz.le);have Ea:=Hh (And.intro Fu Lu);clear Fu Lu Oz;obtain⟨kn,ej⟩:∃ k,k=kv.length:=⟨_,rfl⟩
   have Ry:=Hh ej;rw[← ej];clear ej
   refine Ko hK ?_ fun zy=>?_
   ·exact⟨wT.box.cell 0 rfl,wT.box.cell 1 rfl,wT.box.cell 2 rfl⟩
   clear hK K
   refine To 4 rfl fun K hK=>?_
   go_simp
   refine(RC _ wT.deck).mono ?_
   rintro e w17 ⟨pv,rfl,kH,cN,Rd⟩
   have wT:=wT.step Rd;have S0:=Hh (S0.out.trans Rd.le);have Cm:Hid (BdA _ ⟨[],kv,pv⟩ ⟨none,0,KA,kc⟩):=⟨IsBytes.nil _,Ea.out.2.mono Rd.le,by show(-9223372036854775808:Int)≤pv∧pv≤9223372036854775807;omega,by show(0:Nat)≤1099511;omega,by show kv.length≤1099511;have:=Ea.out.1;omega⟩
   clear kH cN Rd
   refine Ko hK ?_ fun zy=>?_
   ·exact⟨wT.box.cell 0 rfl,wT.box.cell 1 rfl,wT.box.cell 2 rfl⟩
   clear hK K
   refine TkS 5 rfl zy ?_
   refine To 6 rfl fun K hK=>?_
   go_simp
   obtain⟨EF,sU,Gx,He⟩:=dE (L:=bY) (l:=[b,⟨[],kv,pv⟩]) (Grows.refl wT.deck.holds) (cs:=(bdQ b ba).toList++(bdQ ⟨[],kv,pv⟩ ⟨none,0,KA,kc⟩).toList) ((RowC.one (L:=bY) (x:=b) (c:=(bdQ b ba).toList) ⟨ba,rfl,PZ.out.mono wT.grows.le⟩).app (RowC.one (L:=bY) (x:=⟨[],kv,pv⟩) (c:=(bdQ ⟨[],kv,pv⟩ ⟨none,0,KA,kc⟩).toList) ⟨_,rfl,Cm.out⟩)) 25 (by simp);have wJ:=sU
   simp only[bdQ,bdC,List.cons_append,List.nil_append,← ZQ.out.2.1,← ZQ.out.2.2,← Ry.out,List.length_nil]at sU
   have wT:=wT.grow sU;clear wJ
   refine Ko hK ?_ fun zy=>?_
   ·exact⟨wT.box.cell 0 rfl,wT.box.cell 1 rfl,wT.box.cell 2 rfl⟩
   clear hK K
   refine TkS 7 rfl zy ?_
   refine Wd ?_
   clear zy;go_wp2_with fail
   go_meet
   exact⟨rfl,rfl,_,EF,_,rfl,wT,He,S0.out.trans Gx⟩
  case rest =>
  clear wT;obtain⟨rfl,rfl,M2,Jg,b2,rfl,wT,M6,Xl⟩:=hcut;have LK:=Hh M6;have GX:=Hh (QT.out.mono Xl);have GN:=Hh (Uq.out.1.mono (rb.out.trans Xl));have Kt:=Hh (rb.out.trans Xl);obtain⟨bs,iW⟩:∃ bs,[b,b2]=bs:=⟨_,rfl⟩
  rw[iW]at LK;have Hq:Hid (bs.length=2):=by rw[Hid,← iW];rfl
  clear M6 Xl QT rb iW;go_wp2_with fail
  obtain⟨W0,N6⟩:∃ W,W=wr:=⟨_,rfl⟩
  subst N6;go_loopw [90] (fun v90 wx=>∃ (i:Nat) (Hi:Snap),i≤2∧v90=.int .i64 (i:Int)∧LS w H gd E (bdC ba.xa xl ba.xc ba.ka kl ba.kc b.piv) (epQ x a) Hi wx∧Jg.le Hi) (fun v90 _=>2-(intOf v90).toNat)
  case atStart=>exact⟨0,Jg,by omega,rfl,wT,Snap.le.refl _⟩
  case round =>
  clear wT;obtain⟨i,Hi,hi,rfl,wT,qJ⟩:=hrel;have HI:=Hh hi;have oR:=Hh qJ;clear hi qJ
  by_cases hlt2:i<2
  ·have Qe:(i:Int)<2:=by omega
   obtain⟨gb2,go2,me,rL⟩:=LK.out.at_ (by rw[Hq.out];omega)
   cases me
   obtain⟨d,hd,hc⟩:=rL i (by rw[Hq.out];exact hlt2);obtain⟨za,hd,J8⟩:=hd;subst hd
   generalize bs[i]'(by rw[Hq.out];exact hlt2)=z at *
   have r0:=wT.deck.holds.cell (oR.out.cell (hc 0 _ rfl));have r1:=wT.deck.holds.cell (oR.out.cell (hc 1 _ rfl));have r2:=wT.deck.holds.cell (oR.out.cell (hc 2 _ rfl))
   simp only[bY,Nat.add_zero,Nat.zero_add,← Nat.add_assoc]at r0 r1 r2
   have HZ:=Hh (J8.mono oR.out);have Jz:=Hh (GX.out.mono oR.out);have Jw:=Hh (GN.out.mono oR.out);have LI:=Hh hlt2;have hN:=Blk.new wr 25 (bdQ z za);replace wT:=wT.alloc (.cells (bdQ z za) 25);obtain⟨N,SE⟩:∃ N,wr.heap.size=N:=⟨_,rfl⟩
   obtain⟨w21,Rp⟩:∃ w21,wr.alloc (.cells (bdQ z za) 25)=w21:=⟨_,rfl⟩
   rw[SE,Rp]at hN;rw[Rp]at wT;have Oh:=Hh (And.intro SE Rp);clear rL hc J8 hlt2 SE Rp;go_upto_region 15 with fail
   try rw[Oh.out.1]
   try rw[Oh.out.2]
   clear Oh r0 r1 r2;have e0:=wT.var.cell 0 rfl;have e1:=wT.var.cell 1 rfl;have e2:=wT.var.cell 2 rfl;have e3:=wT.var.cell 3 rfl;have n0:=hN.cell 0 rfl;have n1:=hN.cell 1 rfl;have n2:=hN.cell 2 rfl;go_wp2_with fail
   refine(Zs Jz.out HZ.out Uq.out.2.1 Uq.out.2.2 _ wT.deck.holds (Src.of_row Jw.out.row wT.deck.holds)).mono ?_
   rintro e w22 ⟨P1,q1,BS,rfl,Z7,Lv⟩
   replace wT:=wT.grow Z7;replace hN:=hN.below Z7.below;replace HZ:=Hh (HZ.out.mono Z7.le);replace Jz:=Hh (Jz.out.mono Z7.le);replace Jw:=Hh (Jw.out.mono Z7.le);have LH:=Hh (oR.out.trans Z7.le);have LG:=Hh Lv;clear Z7 Lv e0 e1 e2 e3 n0 n1 n2;have e0:=wT.var.cell 0 rfl;have e1:=wT.var.cell 1 rfl;have e2:=wT.var.cell 2 rfl;have e3:=wT.var.cell 3 rfl;have n0:=hN.cell 0 rfl;have n1:=hN.cell 1 rfl;have n2:=hN.cell 2 rfl;go_wp2_with fail
   refine(aL Jz.out HZ.out Uq.out.2.1 Uq.out.2.2 _ wT.deck.holds (Src.of_row Jw.out.row wT.deck.holds)).mono ?_
   rintro e w23 ⟨P2,q2,C4,rfl,RU,Lw⟩
   replace wT:=wT.grow RU;have GK:=Hh (LH.out.trans RU.le);have rY:=Hh (YM x z q);have qA:=Hh (LG.out.mono RU.le);have mW:=Hh Lw;clear RU Lw e0 e1 e2 e3 n0 n1 n2 hN LG LH
   generalize sL x z q=p at rY qA mW⊢
   obtain⟨p1,p2⟩:=p
   simp only at rY qA mW⊢
   obtain⟨pn,Kg⟩:∃ k,k=p1.length:=⟨_,rfl⟩
   have EQ:Hid (∀ wx,Holds wx C4→Calls Tryz.prog 12 #[.slice P1 pn q1,.slice P2 pn q2] wx fun e w'=>e=.returned (.bool true)∧Below wx.heap.size wx w'):=fun wx hx=>oh wx hx Kg Kg (by have:=rY.out;omega) qA.out mW.out
   rw[← Kg];clear Kg;go_wp2_with fail
   refine(EQ.out _ wT.deck.holds).mono ?_
   rintro e w24 ⟨rfl,fD⟩
   replace wT:=wT.below fD;clear fD EQ;go_wp2_with fail
   go_roundw
   case rel=>exact⟨i+1,_,by have:=LI.out;omega,by go_num,wT,GK.out⟩
   case measure=>have:=LI.out;simp[intOf];omega
  have Qe:¬ (i:Int)<2:=by omega
  clear hlt2;go_wp2_with fail
  go_roundw
  case rel=>exact⟨j+1,Hi,by have:=sv.out;omega,by go_num,wT,Kt.out.trans oR.out⟩
  case measure=>have:=sv.out;simp[intOf];omega
 have nD:¬ (j:Int)<2:=by omega
 have hb:=wT.grows.below;clear yy wT;go_wp2_with fail
 refine(j5 _).mono ?_
 rintro e w30 ⟨rfl,Gk⟩
 have yX:=hb.trans (Gk.mono hb.size);go_wp2_with fail
 go_ret
 exact⟨rfl,yX⟩
end Go.Proofs.YtjpcnhncoidliaaGreatDoor
