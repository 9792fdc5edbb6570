/- squeezed. The walk of EnvelopeBack. -/
import Derived.Test.YtliomcphdnppnaaGreatDoorK47
set_option linter.unusedVariables false
set_option linter.unusedSimpArgs false
set_option maxRecDepth 100000
set_option maxHeartbeats 51200000
namespace Go.Proofs.YtliomcphdnppnaaGreatDoor
open Go.RowKit
theorem jfy{P:Prop}(h:P:=by have k0:=wW.cell 0 rfl;have k1:=wW.cell 1 rfl;have k2:=wW.cell 2 rfl;have k3:=wW.cell 3 rfl;have k4:=wW.cell 4 rfl;have k5:=wW.cell 5 rfl;have k6:=wW.cell 6 rfl;have k7:=wW.cell 7 rfl;have k8:=wW.cell 8 rfl;have k9:=wW.cell 9 rfl;exact And.intro k0 (And.intro k1 (And.intro k2 (And.intro k3 (And.intro k4 (And.intro k5 (And.intro k6 (And.intro k7 (And.intro k8 k9))))))))):P:=h
def Lk (a b:Int):Value→Bool | .int .i64 x=>decide (x=a)||decide (x=b) | _=>false
theorem bF {a b:Int}{v:Value}(h:Lk a b v=true):∃ x:Int,v=.int .i64 x∧(x=a∨x=b):=by
 unfold Lk at h
 split at h
 ·rename_i x
  rw[Bool.or_eq_true,decide_eq_true_eq,decide_eq_true_eq]at h
  exact⟨x,rfl,h⟩
 cases h
theorem YE {p u:Itm}(hv:zL p u=true) (hf:Few p u 1000):cnt u≤200∧dep u≤5:=by
 have vv:=yY hv;have QR:=jT vv.2.1 vv.2.2.2;obtain⟨k,n,bs,l⟩:=u;have h2:=hf.2
 simp only[Itm.items]at h2 QR
 refine⟨by rw[cnt];omega, ?_⟩
 rw[dep]
 refine Zt fun x hx=>?_
 obtain⟨q,h3,h4⟩:=iJ QR hx;have h5:=hf.1 q (.inr h3)
 rcases h4 with rfl | rfl <;> omega
theorem XI {p u:Itm}{C:List UInt8}(hv:zL p u=true) (np:Nums p) (nu:Nums u) (sp:szL p≤1000) (su:szL u≤1000) (hf:Few p u 1000) (hC:C.length≤616):EnvOk 16 ⟨p,u,C,[]⟩:=by
 have hd:=YE hv hf
 exact⟨.inl ⟨rfl,rfl⟩,hv,np,nu,sp,su,hd.1,hd.2,hC,by simp⟩
theorem Uk {p u:Itm}{y T:List UInt8}(hv:zL p u=true) (np:Nums p) (nu:Nums u) (sp:szL p≤1000) (su:szL u≤1000) (hf:Few p u 1000) (hy:y.length≤600) (hT:T.length≤32):EnvOk 17 ⟨p,u,y,T⟩:=by
 have hd:=YE hv hf
 exact⟨.inr rfl,hv,np,nu,sp,su,hd.1,hd.2,by show y.length≤616;omega,hT⟩
theorem V6 {H:Snap}(hTab:Tabs H) {A:Option Addr}{c:Nat}{l:List Int}(hl:IsInts H A c l)
  {XA:Option Addr} {xn xc:Nat} {x:List UInt8} (hxn:xn=x.length) (hx:IsBytes H XA xc x) {YA:Option Addr} {yn yc:Nat} {y:List UInt8} (Fj:yn=y.length) (hy:IsBytes H YA yc y) (z:Int) (w:World) (hH:Holds w H) :
  Calls Tryz.prog 5 #[.slice A l.length c,.slice XA xn xc,.slice YA yn yc,.int .i64 z] w fun e w'=>e=.returned (.bool true)∧Below w.heap.size w w':=by
 obtain⟨H1,rS,dG,Im⟩:=iM (Grows.refl hH) 23 [.slice XA xn xc,.slice YA yn yc] [x,y] (by simp) (fun j hj=>by
  match j,hj with
  | 0,_=>exact⟨XA,xc,by rw[hxn];rfl,hx⟩
  | 1,_=>exact⟨YA,yc,by rw[Fj];rfl,hy⟩)
 have SH:=Hh (XN Im _ rS.holds);have jv:=Hh (And.intro hxn Fj);have MD:=Hh (fun(v m:Int) (h0:0<m) (h1:m≤100) (w:World)=>Oc v m h0 (by omega) w);clear Im hxn Fj;go_enter Tryz.func5,Tryz.ntmps5
 go_wp2_with fail
 refine SH.out.mono ?_
 rintro e w1' ⟨rfl,rfl⟩
 clear SH
 generalize w.alloc (.cells [Value.slice XA xn xc,.slice YA yn yc].toArray 23)=w1 at rS⊢
 cases hpb:([x,y].all fun l=>decide (l.length≤600)) with
 | false =>
  have HG:=rS;clear hpb rS;have AW:=Hh (gW (hTab.mono HG.le) _ HG.holds);have sP:=HG.below;clear HG;go_wp2_with fail
  refine AW.out.mono ?_
  rintro e wz ⟨rfl,yz⟩
  have nM:=sP.trans (yz.mono sP.size);exact jdy
 | true =>
 have U8:=Hh (show x.length≤600∧y.length≤600 by simpa using hpb);clear hpb;have NW:=Hh (GA (hl.mono dG) w1);go_wp2_with fail
 refine NW.out.mono ?_
 rintro e w2 ⟨rfl,Ca,zG⟩
 have yE:=rS.below_ zG;have jw:DeckIn w2 w1.heap.size H1:=⟨Ca,yE.holds,rS.holds.none_of_ge (Nat.le_refl _)⟩
 have sW:=rS.size;clear NW Ca zG rS;go_wp2_with fail
 refine(Tf (n:=16) z (by omega) w2).mono ?_
 rintro e w3 ⟨KA,kc,key,rfl,Sn,hf3⟩
 obtain⟨H3,ye,uI,zA0⟩:=Fresh.snapB jw.holds hf3;clear zA0;have hd:=jw.grows ye;have zBc:=Hh Sn;clear hf3 ye Sn;go_wp2_with fail
 refine(MD.out z 7 (by omega) (by omega) w3).mono ?_
 rintro e w3' ⟨rfl,rfl⟩
 obtain⟨q7,hq7⟩:∃ q,dB z 7=q:=⟨_,rfl⟩
 have mb:=eZ z 7 (by omega);rw[hq7]at mb⊢;clear hq7;obtain⟨m7,rfl⟩:=Int.eq_ofNat_of_zero_le mb.1;have hm7:m7<7:=by omega
 have e7:IntKind.i64.wrap (7+(m7:Int))=((7+m7:Nat):Int):=by rw[IntWalk.i64_in _ (by omega)];omega
 have HM7:=Hh hm7;obtain⟨z5,It⟩:∃ q,z.tdiv 5=q:=⟨_,rfl⟩
 obtain⟨nn,sV⟩:∃ q,7+m7=q:=⟨_,rfl⟩
 rw[sV]at e7;have GM:=Hh sV;clear mb hm7 sV;go_wp2_with fail
 refine(Tf (n:=nn) _ (by have:=HM7.out;have:=GM.out;omega) w3).mono ?_
 rintro e w4 ⟨NA,nc,nonce,rfl,cf,Me⟩
 obtain⟨H4,yF,pB,zAz⟩:=Fresh.snapB hd.holds Me;clear zAz;replace hd:=hd.grown yF;have Bn:Hid (nonce.length=nn∧7≤nn∧nn≤13):=⟨cf,by have:=GM.out;omega,by have:=HM7.out;have:=GM.out;omega⟩
 replace uI:=uI.mono yF.le;clear Me yF It e7 cf;have M5:=Blk.new w4 3 #[.int .i64 10,.int .i64 30];replace hd:=hd.alloc (.cells #[.int .i64 10,.int .i64 30] 3);go_wp2_with fail
 generalize w4.alloc (.cells #[.int .i64 10,.int .i64 30] 3)=w4b at hd M5⊢
 refine(MD.out z 2 (by omega) (by omega) w4b).mono ?_
 rintro e w4' ⟨rfl,rfl⟩
 obtain⟨q2,fr⟩:∃ q,dB z 2=q:=⟨_,rfl⟩
 have mb:=eZ z 2 (by omega);rw[fr]at mb⊢;have HQ2:=Hh fr;clear fr;obtain⟨m2,rfl⟩:=Int.eq_ofNat_of_zero_le mb.1;have ir:m2<2:=by omega
 obtain⟨g1,Id,MY⟩:=M5.pick (Lk 10 30) (by kernel_rfl) m2 (by simp;omega);obtain⟨a1,rfl,MF⟩:=bF MY;have I2:=Hh MF;have HM2:=Hh ir;clear mb MY MF M5;have HD1:=Hh (gX (hTab.mono (dG.trans hd.le)) w4b hd.deck a1 (by have:=I2.out;omega) (by have:=I2.out;omega));go_wp2_with fail
 refine HD1.out.mono ?_
 rintro e w5 ⟨p,u,a,b,H5,rfl,tU,hp,hu,gn,dH,hk⟩
 obtain⟨n1,un,Bu⟩:∃ k:Nat,a1=(k:Int)∧(k=10∨k=30):=by
  rcases I2.out with h | h
  ·exact⟨10,h,.inl rfl⟩
  exact⟨30,h,.inr rfl⟩
 rw[un]at hk;have QF:=Hh (hk (Xx (k:=n1) (by omega)));have zBh:=Hh Bu;replace hd:=hd.trans tU;replace uI:=uI.mono tU.le;replace pB:=pB.mono tU.le;clear HD1 tU hk gn dH Id I2 Bu ir un;have QO:=Blk.new w5 3 #[.int .i64 5,.int .i64 4];replace hd:=hd.alloc (.cells #[.int .i64 5,.int .i64 4] 3);go_wp2_with fail
 generalize w5.alloc (.cells #[.int .i64 5,.int .i64 4] 3)=w5b at hd QO⊢
 refine(MD.out z 2 (by omega) (by omega) w5b).mono ?_
 rintro e w5' ⟨rfl,rfl⟩
 rw[HQ2.out];have ir:=HM2.out;obtain⟨g2,sv,MZ⟩:=QO.pick (Lk 5 4) (by kernel_rfl) m2 (by simp;omega);obtain⟨a2,rfl,ii⟩:=bF MZ;have Z9:=Hh ii;clear MZ ii QO;have HD2:=Hh (gX (hTab.mono (dG.trans hd.le)) w5b hd.deck a2 (by have:=Z9.out;omega) (by have:=Z9.out;omega));go_wp2_with fail
 refine HD2.out.mono ?_
 rintro e w6 ⟨p',u',a',b',H6,rfl,vA,rI,kD,qG,qH,hk'⟩
 obtain⟨n2,tF,Bv⟩:∃ k:Nat,a2=(k:Int)∧(k=5∨k=4):=by
  rcases Z9.out with h | h
  ·exact⟨5,h,.inl rfl⟩
  exact⟨4,h,.inr rfl⟩
 rw[tF]at hk';have Su:=Hh (hk' (Xx (k:=n2) (by omega)));have zBg:=Hh Bv;replace hd:=hd.trans vA;have xq:=Dealt.toGrows yE hd sW;have yw:=dG.trans hd.le;have HT:=Hh (hTab.mono yw);have HX:=Hh (hx.mono yw);have HY:=Hh (hy.mono yw);have U7:=Hh (And.intro zBc.out (uI.mono vA.le));have aW:=Hh (And.intro Bn.out.1 (pB.mono vA.le));have DH:=Hh (And.intro (hp.mono vA.le) (hu.mono vA.le));have DI:=Hh (And.intro rI kD);clear HD2 vA hk' qG qH hd yE sW jw uI pB hp hu rI kD hx hy hl yw dG hTab sv Z9 Bv ir tF HQ2
 have LS:=Hh (show rq p u x y key nonce=0∧(∃ C,oW p u x y key nonce=⟨p,u,C,[]⟩∧C.length≤616)∧ql (oW p u x y key nonce) x key nonce=(0,y) from by
  have h1:=QF.out;have h2:=DH.out;have h3:=Bn.out
  rcases zBh.out with h | h
  ·exact bL (alg:=10) (t:=8) h1.1 (by omega) h2.1.nums h2.2.nums (.inl ⟨rfl,rfl⟩) (by have:=h1.2.2.2.1;rw[h]at this;exact this) U8.out.1 U8.out.2 U7.out.1 (by omega) (by omega)
  exact bL (alg:=30) (t:=16) h1.1 (by omega) h2.1.nums h2.2.nums (.inr ⟨rfl,rfl⟩) (by have:=h1.2.2.2.1;rw[h]at this;exact this) U8.out.1 U8.out.2 U7.out.1 (by omega) (by omega))
 have LM:=Hh (show qy p' u' x y key=0 from by
  have h1:=Su.out;have h2:=DI.out
  rcases zBg.out with h | h
  ·exact(dr (t:=32) (alg:=5) h1.1 (by omega) h2.1.nums h2.2.nums (.inl ⟨rfl,rfl⟩) (by have:=h1.2.2.2.1;rw[h]at this;exact this) U8.out.1 U8.out.2 U7.out.1).2.1
  exact(dr (t:=8) (alg:=4) h1.1 (by omega) h2.1.nums h2.2.nums (.inr ⟨rfl,rfl⟩) (by have:=h1.2.2.2.1;rw[h]at this;exact this) U8.out.1 U8.out.2 U7.out.1).2.1)
 have hA:=(Blk.new w6 28 (zA ze ⟨none,0,none,0⟩ ze ⟨none,0,none,0⟩)).alloc wG;have hB:=Blk.new (w6.alloc wG) 28 (zA ze ⟨none,0,none,0⟩ ze ⟨none,0,none,0⟩)
 simp only[zr]at hB
 have wJ:=(xq.alloc wG).alloc wG;have hnA:H6 w6.heap.size=none:=xq.holds.none_of_ge (Nat.le_refl _);have hnB:H6 (w6.heap.size+1)=none:=xq.holds.none_of_ge (by omega);have Wp:=xq.size;go_wp2_with (with_reducible refine zx ?_)
 refine zv rfl _ _ _ rfl rfl _ _ rfl rfl _ _ hA zD rfl (vr _ _ _ _) fun w7 IL ww=>?_
 have fQ:=hB.gr ww (by omega);replace wJ:=wJ.grownOwn hnA Wp ww;clear hA hB ww;go_wp2_with (with_reducible refine zx ?_)
 refine zv rfl _ _ _ rfl rfl _ _ rfl rfl _ _ fQ zD rfl (vr _ _ _ _) fun w8 bz hg8=>?_
 have MT:=IL.gr hg8 (by omega);have xJ:=wJ.grownOwn hnB (by omega) hg8;clear IL fQ hg8 wJ xq hnA hnB Wp;obtain⟨N12,GZ⟩:∃ N,w6.heap.size=N:=⟨_,rfl⟩
 rw[GZ]at MT bz;have zAZ:=Hh GZ;have SE:=Hh (cH HT.out DH.out.1 DH.out.2 (ec:=xc) jv.out.1 HX.out (by have:=U8.out;omega) (pc:=yc) jv.out.2 HY.out (kn:=16) (kc:=kc) U7.out.1.symm U7.out.2 (nn:=nn) (nc:=nc) aW.out.1.symm aW.out.2 w8 xJ.holds);have k0:=MT.cell 0 rfl;have k1:=MT.cell 1 rfl;have k2:=MT.cell 2 rfl;have k3:=MT.cell 3 rfl;have k4:=MT.cell 4 rfl;have k5:=MT.cell 5 rfl;have k6:=MT.cell 6 rfl;have k7:=MT.cell 7 rfl;clear GZ;go_upto_region 6 with fail
 try rw[zAZ.out]
 go_wp2_with fail
 refine SE.out.mono ?_
 rintro e w9 ⟨xa,H9,rfl,qp,FB⟩
 clear SE k0 k1 k2 k3 k4 k5 k6 k7;rw[LS.out.1];obtain⟨V,hV⟩:∃ V,oW p u x y key nonce=V:=⟨_,rfl⟩
 rw[hV]at FB⊢
 have HV:Hid (EnvOk 16 V∧ql V x key nonce=(0,y)):=by
  obtain⟨_,⟨C,hC,hCl⟩,hO⟩:=LS.out;rw[hV]at hC hO
  refine⟨?_,hO⟩
  rw[hC]
  exact XI QF.out.1 DH.out.1.nums DH.out.2.nums QF.out.2.1 QF.out.2.2.1 QF.out.2.2.2.2 hCl
 have LE:=Hh qp.le;have WT:=Hh FB;clear hV FB LS;have vO:=(xJ.trans qp).alloc (.cells (evQ V xa) 36);have oY:=(bz.below qp.below).alloc (.cells (evQ V xa) 36);have lD:=Blk.new w9 36 (evQ V xa);obtain⟨w10,Hu⟩:∃ w10,w9.alloc (.cells (evQ V xa) 36)=w10:=⟨_,rfl⟩
 obtain⟨N14,Ga⟩:∃ N,w9.heap.size=N:=⟨_,rfl⟩
 have GO:=Hh (And.intro Hu Ga);rw[Hu]at vO oY lD;rw[Ga]at lD;clear xJ qp MT bz Hu Ga;have OP:=Hh (cG (HT.out.mono LE.out) WT.out (ec:=xc) jv.out.1 (HX.out.mono LE.out) (by have:=U8.out;omega) (kn:=16) (kc:=kc) U7.out.1.symm (U7.out.2.mono LE.out) (nn:=nn) (nc:=nc) aW.out.1.symm (aW.out.2.mono LE.out) w10 vO.holds);rw[HV.out.2]at OP;have k0:=lD.cell 0 rfl;have k1:=lD.cell 1 rfl;have k2:=lD.cell 2 rfl;have k3:=lD.cell 3 rfl;have k4:=lD.cell 4 rfl;have k5:=lD.cell 5 rfl;have k6:=lD.cell 6 rfl;have k7:=lD.cell 7 rfl;have k8:=lD.cell 8 rfl;have k9:=lD.cell 9 rfl;go_upto_region 7 with fail
 try rw[GO.out.1]
 try rw[GO.out.2]
 go_wp2_with fail
 refine OP.out.mono ?_
 rintro e w11 ⟨r11,rfl,Hn,LR⟩
 obtain⟨B11,d11,rfl,hjd,_⟩:=OwnB.form Hn;have cZ:Fresh w10 y _ w11:=⟨Hn,LR⟩
 obtain⟨H11,mX,cd,zAy⟩:=Fresh.snapB vO.holds cZ;clear zAy OP hjd Hn cZ GO k0 k1 k2 k3 k4 k5 k6 k7 k8 k9;replace oY:=oY.below LR;replace lD:=lD.below LR;replace vO:=vO.trans mX;replace LE:=Hh (LE.out.trans mX.le);replace WT:=Hh (WT.out.mono mX.le);have GN:=Hh cd;clear mX LR cd;have ME:=Hh (jG (HT.out.mono LE.out) (DI.out.1.mono LE.out) (DI.out.2.mono LE.out) (ec:=xc) jv.out.1 (HX.out.mono LE.out) (by have:=U8.out;omega) (pc:=yc) jv.out.2 (HY.out.mono LE.out) (kn:=16) (kc:=kc) U7.out.1.symm (U7.out.2.mono LE.out) (by have:=U7.out.1;omega) w11 vO.holds);have k0:=oY.cell 0 rfl;have k1:=oY.cell 1 rfl;have k2:=oY.cell 2 rfl;have k3:=oY.cell 3 rfl;have k4:=oY.cell 4 rfl;have k5:=oY.cell 5 rfl;have k6:=oY.cell 6 rfl;have k7:=oY.cell 7 rfl;obtain⟨n11,Pi⟩:∃ n,y.length=n:=⟨_,rfl⟩
 rw[Pi];have L8:=Hh Pi;clear Pi;go_upto_region 8 with fail
 go_wp2_with fail
 refine ME.out.mono ?_
 rintro e w13 ⟨xm,H13,rfl,rR,hEm⟩
 clear ME k0 k1 k2 k3 k4 k5 k6 k7;rw[LM.out];obtain⟨M,hM⟩:∃ M,nA p' u' x y key=M:=⟨_,rfl⟩
 rw[hM]at hEm⊢
 have HM:Hid (EnvOk 17 M∧M.body=y∧mO M x key=0):=by
  obtain⟨h1,h2⟩:=Qt LM.out;have h3:=(NQ (V:=M) hM U8.out.2).2;rw[hM]at h1 h2
  refine⟨?_,by rw[h2],h1⟩
  rw[h2]at h3⊢
  exact Uk Su.out.1 DI.out.1.nums DI.out.2.nums Su.out.2.1 Su.out.2.2.1 Su.out.2.2.2.2 U8.out.2 h3
 replace LE:=Hh (LE.out.trans rR.le);replace WT:=Hh (WT.out.mono rR.le);replace GN:=Hh (GN.out.mono rR.le);have QE:=Hh hEm;clear hM hEm LM;have wQ:=(vO.trans rR).alloc (.cells (evQ M xm) 36);have uz:=(lD.below rR.below).alloc (.cells (evQ M xm) 36);have wW:=Blk.new w13 36 (evQ M xm);obtain⟨w14,Hv⟩:∃ w14,w13.alloc (.cells (evQ M xm) 36)=w14:=⟨_,rfl⟩
 obtain⟨N18,Gb⟩:∃ N,w13.heap.size=N:=⟨_,rfl⟩
 have GP:=Hh (And.intro Hv Gb);rw[Hv]at wQ uz wW;rw[Gb]at wW;clear vO rR oY lD Hv Gb;obtain⟨ys,Ec⟩:∃ st,(⟨y.toArray⟩:ByteArray)=st:=⟨_,rfl⟩
 have V1:(convert 23 9 (.slice B11 n11 d11)).run Tryz.prog w14=.ok (.string ys) w14:=by
  rw[← Ec]
  exact vX (Src.of_row GN.out.row wQ.holds) n11 d11 L8.out.symm
 have V2:(convert 23 9 (.slice YA yn yc)).run Tryz.prog w14=.ok (.string ys) w14:=by
  rw[← Ec]
  exact vX (Src.of_row (HY.out.mono LE.out).row wQ.holds) yn yc jv.out.2
 have V3:(convert 23 9 (.slice xm.ba n11 xm.bc)).run Tryz.prog w14=.ok (.string ys) w14:=by
  rw[← Ec]
  exact vX (Src.of_row (by have:=QE.out.body;rw[HM.out.2.1]at this;exact this.row) wQ.holds) n11 xm.bc L8.out.symm
 have CK:=Hh (dU (HT.out.mono LE.out) QE.out (ec:=xc) jv.out.1 (HX.out.mono LE.out) (by have:=U8.out;omega) (kn:=16) (kc:=kc) U7.out.1.symm (U7.out.2.mono LE.out) (by have:=U7.out.1;omega) w14 wQ.holds);rw[HM.out.2.2]at CK
 have m8:w14.cell? ⟨N18,8,none⟩=some (.slice xm.ba n11 xm.bc):=by
  have h8:w14.cell? ⟨N18,8,none⟩=some (.slice xm.ba M.body.length xm.bc):=wW.cell 8 rfl;rw[HM.out.2.1,L8.out]at h8
  exact h8
 have Ef:=Hh m8;obtain⟨k0,k1,k2,k3,k4,k5,k6,k7,k8,k9⟩:=jfy;obtain⟨tl,Mk⟩:∃ n,M.tag.length=n:=⟨_,rfl⟩
 obtain⟨mb,Ih⟩:∃ n,M.body.length=n:=⟨_,rfl⟩
 have E8:mb=n11:=by rw[← Ih,HM.out.2.1,L8.out]
 clear k8;have k8:=m8;clear m8;have HQM:Hid (evQ M xm=evC M.p xm.a M.u xm.b xm.ba n11 xm.bc xm.ta M.tag.length xm.tc):=by rw[Hid,evQ,Ih,E8]
 rw[HQM.out]at CK;have HYS:=Hh Ec;clear Ec Mk Ih E8;go_upto_region 9 with fail
 try rw[GP.out.1]
 try rw[GP.out.2]
 go_wp2_with fail
 refine CK.out.mono ?_
 rintro e w15 ⟨rfl,LT⟩
 clear CK V1 V2 V3 k0 k1 k2 k3 k4 k5 k6 k7 k8 k9;replace wQ:=wQ.below_ LT;replace uz:=uz.below LT;replace wW:=wW.below LT;clear LT GP Ef;have E1:=Hh (iy (HT.out.mono LE.out) WT.out HV.out.1 w15 wQ.holds);have k0:=uz.cell 0 rfl;have k1:=uz.cell 1 rfl;have k2:=uz.cell 2 rfl;have k3:=uz.cell 3 rfl;have k4:=uz.cell 4 rfl;have k5:=uz.cell 5 rfl;have k6:=uz.cell 6 rfl;have k7:=uz.cell 7 rfl;have k8:=uz.cell 8 rfl;have k9:=uz.cell 9 rfl;go_upto_region 11 with fail
 go_wp2_with fail
 refine E1.out.mono ?_
 rintro e w16 ⟨A16,c16,H16,rfl,aI,gB⟩
 clear E1 k0 k1 k2 k3 k4 k5 k6 k7 k8 k9;replace wQ:=wQ.trans aI;replace uz:=uz.below aI.below;replace wW:=wW.below aI.below;replace LE:=Hh (LE.out.trans aI.le);replace WT:=Hh (WT.out.mono aI.le);replace QE:=Hh (QE.out.mono aI.le);have GJ:=Hh gB;obtain⟨l16,Hb⟩:∃ n,(zZ (wk 16 V)).length=n:=⟨_,rfl⟩
 rw[Hb];have zBb:=Hh Hb;clear aI gB Hb;have E2:=Hh (iz (HT.out.mono LE.out) QE.out HM.out.1 w16 wQ.holds);obtain⟨k0,k1,k2,k3,k4,k5,k6,k7,k8,k9⟩:=jfy;go_upto_region 12 with fail
 go_wp2_with fail
 refine E2.out.mono ?_
 rintro e w17 ⟨A17,c17,H17,rfl,Yz,Cd⟩
 clear E2 k0 k1 k2 k3 k4 k5 k6 k7 k8 k9;replace wQ:=wQ.trans Yz;replace uz:=uz.below Yz.below;replace wW:=wW.below Yz.below;replace LE:=Hh (LE.out.trans Yz.le);replace WT:=Hh (WT.out.mono Yz.le);replace QE:=Hh (QE.out.mono Yz.le);replace GJ:=Hh (GJ.out.mono Yz.le);have GK:=Hh Cd;obtain⟨l17,Hc⟩:∃ n,(zZ (wk 17 M)).length=n:=⟨_,rfl⟩
 rw[Hc];have zBa:=Hh Hc;clear Yz Cd Hc;have D1:=Hh (iw (HT.out.mono LE.out) HV.out.1 (n:=l16) (c:=c16) zBb.out.symm GJ.out w17 wQ.holds);go_upto_region 13 with fail
 go_wp2_with fail
 refine D1.out.mono ?_
 rintro e w18 ⟨xb,H18,rfl,mY,hEx⟩
 clear D1;replace wQ:=wQ.trans mY;replace uz:=uz.below mY.below;replace wW:=wW.below mY.below;replace LE:=Hh (LE.out.trans mY.le);replace WT:=Hh (WT.out.mono mY.le);replace QE:=Hh (QE.out.mono mY.le);replace GK:=Hh (GK.out.mono mY.le);have HEx:=Hh hEx;have Si:=Blk.new w18 36 yT;have TG:H18 w18.heap.size=none:=mY.holds.none_of_ge (Nat.le_refl _);have Cy:N14<w18.heap.size:=uz.lt;have Cx:N18<w18.heap.size:=wW.lt;clear mY hEx;replace uz:=uz.alloc (.cells yT 36);replace wW:=wW.alloc (.cells yT 36);have Ht:=wQ.size;replace wQ:=wQ.alloc (.cells yT 36);go_wp2_with (with_reducible refine zx ?_)
 refine zv rfl _ _ _ rfl rfl _ _ rfl rfl _ _ Si tM rfl (pO _ _ _ _ _ _ _ _ _ _) fun w19 o3 hg19=>?_
 replace uz:=uz.gr hg19 (by omega);replace wW:=wW.gr hg19 (by omega);replace wQ:=wQ.grownOwn TG (by omega) hg19;obtain⟨N25,Gc⟩:∃ N,w18.heap.size=N:=⟨_,rfl⟩
 rw[Gc]at o3 Cy Cx;have zAY:=Hh Gc;clear hg19 Si TG Ht Gc;have D2:=Hh (ix (HT.out.mono LE.out) HM.out.1 (n:=l17) (c:=c17) zBa.out.symm GK.out w19 wQ.holds);go_upto_region 14 with fail
 try rw[zAY.out]
 go_wp2_with fail
 refine D2.out.mono ?_
 rintro e w20 ⟨xd,H20,rfl,cW,hEy⟩
 clear D2;replace wQ:=wQ.trans cW;replace uz:=uz.below cW.below;replace wW:=wW.below cW.below;replace o3:=o3.below cW.below;replace LE:=Hh (LE.out.trans cW.le);replace WT:=Hh (WT.out.mono cW.le);replace QE:=Hh (QE.out.mono cW.le);replace HEx:=Hh (HEx.out.mono cW.le);have HEy:=Hh hEy;have CQ:=Blk.new w20 36 yT;have Fd:H20 w20.heap.size=none:=cW.holds.none_of_ge (Nat.le_refl _);have vV:N14<w20.heap.size:=uz.lt;have dJ:N18<w20.heap.size:=wW.lt;have Ip:N25<w20.heap.size:=o3.lt;clear cW hEy;replace uz:=uz.alloc (.cells yT 36);replace wW:=wW.alloc (.cells yT 36);replace o3:=o3.alloc (.cells yT 36);have Ht:=wQ.size;replace wQ:=wQ.alloc (.cells yT 36);go_wp2_with (with_reducible refine zx ?_)
 refine zv rfl _ _ _ rfl rfl _ _ rfl rfl _ _ CQ tM rfl (pO _ _ _ _ _ _ _ _ _ _) fun w21 jr hg21=>?_
 replace uz:=uz.gr hg21 (by omega);replace wW:=wW.gr hg21 (by omega);replace o3:=o3.gr hg21 (by omega);replace wQ:=wQ.grownOwn Fd (by omega) hg21;obtain⟨N28,Gd⟩:∃ N,w20.heap.size=N:=⟨_,rfl⟩
 rw[Gd]at jr;have zAX:=Hh Gd;clear hg21 CQ Fd Ht Gd vV dJ Ip Cy Cx
 have MOD:=Hh (show(Modest V.p∧Modest V.u)∧Modest M.p∧Modest M.u from by
  have v1:=yY HV.out.1.head;have v2:=yY HM.out.1.head
  exact⟨⟨yU v1.1,yU v1.2.1⟩,yU v2.1,yU v2.2.1⟩)
 have S1:=Hh (fun(W:World) (h:Holds W H20)=>eB MOD.out.1.1 MOD.out.1.2 HEx.out WT.out W h);have S2:=Hh (fun(W:World) (h:Holds W H20)=>eB MOD.out.2.1 MOD.out.2.2 HEy.out QE.out W h);have AW:=Hh (fun(W:World) (h:Holds W H20)=>gW (HT.out.mono LE.out) W h);have f0:=o3.cell 0 rfl;have f1:=o3.cell 1 rfl;have f2:=o3.cell 2 rfl;have f3:=o3.cell 3 rfl;have f4:=o3.cell 4 rfl;have f5:=o3.cell 5 rfl;have f6:=o3.cell 6 rfl;have f7:=o3.cell 7 rfl;have f8:=o3.cell 8 rfl;have f9:=o3.cell 9 rfl;have k0:=uz.cell 0 rfl;have k1:=uz.cell 1 rfl;have k2:=uz.cell 2 rfl;have k3:=uz.cell 3 rfl;have k4:=uz.cell 4 rfl;have k5:=uz.cell 5 rfl;have k6:=uz.cell 6 rfl;have k7:=uz.cell 7 rfl;have k8:=uz.cell 8 rfl;have k9:=uz.cell 9 rfl;go_upto_region 15 with fail
 try rw[zAX.out]
 go_wp2_with fail
 refine(S1.out _ wQ.holds).mono ?_
 rintro e w22 ⟨rfl,qh⟩
 replace wQ:=wQ.below_ qh;replace wW:=wW.below qh;replace jr:=jr.below qh;clear f0 k0 f1 k1 f2 k2 f3 k3 f4 k4 f5 k5 f6 k6 f7 k7 f8 k8 f9 k9 qh o3 uz;have f0:=jr.cell 0 rfl;have f1:=jr.cell 1 rfl;have f2:=jr.cell 2 rfl;have f3:=jr.cell 3 rfl;have f4:=jr.cell 4 rfl;have f5:=jr.cell 5 rfl;have f6:=jr.cell 6 rfl;have f7:=jr.cell 7 rfl;have f8:=jr.cell 8 rfl;have f9:=jr.cell 9 rfl;obtain⟨k0,k1,k2,k3,k4,k5,k6,k7,k8,k9⟩:=jfy;go_wp2_with fail
 refine(S2.out _ wQ.holds).mono ?_
 rintro e w23 ⟨rfl,pX⟩
 replace wQ:=wQ.below_ pX;clear f0 k0 f1 k1 f2 k2 f3 k3 f4 k4 f5 k5 f6 k6 f7 k7 f8 k8 f9 k9 pX wW jr;go_wp2_with fail
 refine(AW.out _ wQ.holds).mono ?_
 rintro e w24 ⟨rfl,cY⟩
 replace wQ:=wQ.below_ cY;have nM:=wQ.below;clear wQ cY;exact jdy
end Go.Proofs.YtliomcphdnppnaaGreatDoor
