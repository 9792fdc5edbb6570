/- squeezed. Walks: the authentication value, b -/
import Derived.Test.YtkmlnjociijpgaaGreatDoorK37
set_option linter.unusedVariables false
set_option linter.unusedSimpArgs false
set_option maxRecDepth 100000
set_option maxHeartbeats 25600000
namespace Go.Proofs.YtkmlnjociijpgaaGreatDoor
open Go.RowKit
theorem jaL{P:Prop}(h:P:=by
 have i2:(600:Int)<(nt:Int):=by omega
 have d2:decide ((600:Int)<(nt:Int))=true:=decide_eq_true i2;have R:=qD.out 8 (HO.out.2.1 N0.out (.inr h2)) _ (Below.refl _ _);clear h1 h2;go_wp2_with fail
 go_ret2
 exact R.out):P:=h
theorem jaV{P:Prop}(h:P:=by
 go_wp2_with fail
 go_ret2
 exact R.out):P:=h
theorem jbf{P:Prop}(h:P:=by
 clear wv SR xE CS;obtain⟨n4,ik⟩:∃ q,C.length=q:=⟨_,rfl⟩
 rw[ik]at ST⊢;clear ik;go_wp2_with fail
 refine ST.out.mono ?_
 rintro e w5 ⟨r5,rfl,xX⟩
 have HF:=Hh (And.intro (OwnB.more xX.own Uz.out.size) (Uz.out.trans (xX.2.mono Uz.out.size)));clear ST xX;go_wp2_with fail
 go_ret2
 exact⟨_,by rw[HR.out];rfl,by rw[HR.out];exact HF.out.1,HF.out.2⟩):P:=h
theorem jcr{P:Prop}(h:P:=by
 rw[h]
 exact⟨_,rfl,OwnB.nil _ _,hb⟩):P:=h
theorem jdk{P:Prop}(h:P:=by rw[← YY,← hB,List.length_append,← h0.1,List.length_append];omega):P:=h
theorem jd2{P:Prop}(h:P:=by
 clear NO sw uE me Sn hcc ht hsk qT mz Sv hv;go_enter Tryz.func55,Tryz.ntmps55
 exact jau):P:=h
theorem jed{P:Prop}(h:P:=by have R:=qD.out 8 (HO.out.2.1 N0.out (.inl h1)) _ (Below.refl _ _);clear h1;exact jaV):P:=h
theorem jej{P:Prop}(h:P:=by subst h0;have R:=qD.out 31 (HO.out.1 rfl) _ (Below.refl _ _);exact jaV):P:=h
theorem jeM{P:Prop}(h:P:=by
 go_enter Tryz.func51,Tryz.ntmps51
 exact jau):P:=h
theorem jeO{P:Prop}(h:P:=by have R:=qD.out 1 (HO.out.2.2.1 N0.out HL.out hE) _ hb;clear hb hE;exact jaV):P:=h
theorem je6{P:Prop}(h:P:=by have N1:=NO 8 (by rw[wG,← sw,← uE,if_neg (by rw[hv];decide),if_pos (by omega)]) w (Below.refl _ _);exact jd2):P:=h
theorem je7{P:Prop}(h:P:=by
 have i1:(600:Int)<(nl:Int):=by omega
 have d1:decide ((600:Int)<(nl:Int))=true:=decide_eq_true i1;exact jed):P:=h
theorem jfL{P:Prop}(h:P:=by have qD:=Hh NO;have HN:=Hh (And.intro hp (And.intro ht (And.intro hl lV)));have HD:=Hh (And.intro h1 (And.intro h2 h3));have HH:=Hh hH;exact And.intro qD (And.intro HN (And.intro HD HH))):P:=h
theorem jgq{P:Prop}(h:P:=by have d2:decide ((600:Int)<(nt:Int))=false:=decide_eq_false i2;exact d2):P:=h
theorem jhf{P:Prop}(h:P:=by have n1:((m:Int)=0)=False:=eq_false (by omega);exact n1):P:=h
theorem jhk{P:Prop}(h:P:=by have f8:=Hh (kE (tD prk label th) (ivM prk label th) (vL th) plain oO.out);have HR:=Hh (HO.out.2.2.2.1 N0.out HL.out HE.out);have ai:=Hh (HG.out.trans aT.out).below;exact And.intro f8 (And.intro HR ai)):P:=h
def lO (aad:List UInt8):List UInt8:=if aad.length=0 then [] else mq (pW aad)
theorem gF (aad:List UInt8):(lO aad).length≤aad.length+32∧(lO aad).length%16=0:=by
 unfold lO
 split
 ·simp
 rw[pu];simp[pW];omega
theorem Wg (nonce aad plain:List UInt8) (t:Nat):nP nonce aad plain t=uQ (vK nonce aad t) nonce plain.length++lO aad++mq plain:=rfl
theorem Uf (x B:List UInt8) (i:Nat):xA x ((B.drop i).take 16)=(List.range 16).map fun k=>at_ x k ^^^ at_ B (i+k):=by
 apply List.map_congr_left
 intro k hk
 have h:=Vw (l:=B) (off:=i) (n:=16) (k:=k) (by simpa using hk);rw[oG]at h;rw[h]
theorem NY {KA:Option Addr}{kc:Nat}{key:List UInt8}(hk:key.length=16) {NA:Option Addr}{nn nc:Nat}{nonce:List UInt8}(uE:nn=nonce.length) (kQ:nonce.length≤13) {AA:Option Addr}{an ac:Nat}{aad:List UInt8}(me:an=aad.length) (hal:aad.length≤4096) {PA:Option Addr}{pn pc:Nat}{plain:List UInt8}(hpn:pn=plain.length) (pe:plain.length≤8192) (t:Nat) (ht:4≤t∧t≤16) (w:World)
  (hK:Src w KA (key.map zu)) (hN:Src w NA (nonce.map zu)) (hA:Src w AA (aad.map zu)) (hP:Src w PA (plain.map zu)) :
  Calls Tryz.prog 96 #[.slice KA 16 kc,.slice NA nn nc,.slice AA an ac,.slice PA pn pc,.int .i64 (t:Int)] w fun e w'=>∃ v,e=.returned v∧Fresh w (oH key nonce aad plain t) v w':=by
 have HN:=Hh (And.intro hk (And.intro uE (And.intro kQ (And.intro me (And.intro hal (And.intro hpn (And.intro pe ht)))))));have HS:=Hh (And.intro hK (And.intro hN (And.intro hA hP)));obtain⟨t2,Mt⟩:∃ q,t/2=q:=⟨_,rfl⟩
 have T2:(t:Int).tdiv 2=(t2:Int):=by rw[← Mt];exact(Int.ofNat_tdiv t 2).symm
 have T2':(t:Int)/2=(t2:Int):=by rw[← Mt];omega
 have V0:IntKind.i64.wrap (t2:Int)=(t2:Int):=zP (by omega);obtain⟨a1,Dm⟩:∃ q,t2-1=q:=⟨_,rfl⟩
 have V1:IntKind.i64.wrap ((t2:Int)-1)=(a1:Int):=by rw[show(t2:Int)-1=(a1:Int) by omega];exact zP (by omega)
 obtain⟨a2,jE⟩:∃ q,8*a1=q:=⟨_,rfl⟩
 have V2:IntKind.i64.wrap (8*(a1:Int))=(a2:Int):=by rw[show 8*(a1:Int)=(a2:Int) by omega];exact zP (by omega)
 obtain⟨a3,ha3⟩:∃ q,a2+14=q:=⟨_,rfl⟩
 have V3:IntKind.i64.wrap ((a2:Int)+14)=(a3:Int):=by rw[show(a2:Int)+14=(a3:Int) by omega];exact zP (by omega)
 obtain⟨a4,ha4⟩:∃ q,a3-nn=q:=⟨_,rfl⟩
 have V4:IntKind.i64.wrap ((a3:Int)-(nn:Int))=(a4:Int):=by rw[show(a3:Int)-(nn:Int)=(a4:Int) by omega];exact zP (by omega)
 obtain⟨a5,Ar⟩:∃ q,a4+64=q:=⟨_,rfl⟩
 have V5:IntKind.i64.wrap ((a4:Int)+64)=(a5:Int):=by rw[show(a4:Int)+64=(a5:Int) by omega];exact zP (by omega)
 have HF:Hid (a5<256∧(aad.length=0→UInt8.ofNat a4=vK nonce aad t)∧(aad.length≠0→UInt8.ofNat a5=vK nonce aad t)):=by
  refine⟨by omega,fun h=>?_,fun h=>?_⟩
  ·rw[vK,if_pos h];congr 1;omega
  rw[vK,if_neg h];congr 1;omega
 have Bd:=Hh Ar;clear hk uE kQ me hal hpn pe ht hK hN hA hP Mt Dm jE ha3 ha4 Ar;go_enter Tryz.func96,Tryz.ntmps96
 go_upto_if 26 with fail
 clear T2 T2' V0 V1 V2 V3 V4;go_cut [11,12] (fun s11 s12 wx=>∃ (fi:Nat) (BA:Option Addr) (bl bc:Nat),s11=.int .i64 (fi:Int)∧fi<256∧UInt8.ofNat fi=vK nonce aad t∧s12=.slice BA bl bc∧bl=(lO aad).length∧OwnB wx w.heap.size (.slice BA bl bc) (lO aad)∧Below w.heap.size w wx)
 case first =>
  by_cases h0:an=0
  ·have hz:aad.length=0:=by have:=HN.out;omega
   have e0:lO aad=[]:=by rw[lO,if_pos hz]
   have HE:=Hh (And.intro hz e0);subst h0;clear hz e0;go_wp2_with fail
   go_meet
   exact⟨a4,none,0,0,rfl,by have:=HF.out;have:=Bd.out;omega,HF.out.2.1 HE.out.1,rfl,by rw[HE.out.2];rfl,by rw[HE.out.2];exact OwnB.nil _ _,Below.refl _ _⟩
  have hz:aad.length≠0:=by have:=HN.out;omega
  have e0:lO aad=mq (pW aad):=by rw[lO,if_neg hz]
  have JI:(0:Int)<(an:Int):=by omega
  have HE:=Hh (And.intro hz e0);obtain⟨x0,eL⟩:∃ x,UInt8.ofNat (aad.length/256%256)=x:=⟨_,rfl⟩
  obtain⟨x1,rl⟩:∃ x,UInt8.ofNat (aad.length%256)=x:=⟨_,rfl⟩
  have n0:x0.toNat=an/256%256:=by rw[← eL,UInt8.toNat_ofNat_of_lt' (by have:=Nat.mod_lt (aad.length/256) (show 0<256 by omega);simpa using this),HN.out.2.2.2.1]
  have n1:x1.toNat=an%256:=by rw[← rl,UInt8.toNat_ofNat_of_lt' (by have:=Nat.mod_lt aad.length (show 0<256 by omega);simpa using this),HN.out.2.2.2.1]
  have E0:(an:Int)/256%256=(x0.toNat:Int):=by omega
  have E1:(an:Int)%256=(x1.toNat:Int):=by omega
  have HX:Hid (pW aad=[x0,x1]++aad):=by rw[Hid,pW,eL,rl];rfl
  have Oe:=OwnB.lit w w.heap.size [x0,x1] #[.int .u8 (x0.toNat:Int),.int .u8 (x1.toNat:Int)] 2 rfl rfl (Nat.le_refl _) (by simp);have yB:=zX w (.cells #[.int .u8 (x0.toNat:Int),.int .u8 (x1.toNat:Int)] 5);have Oj:=HS.out.2.2.1.alloc (.cells #[.int .u8 (x0.toNat:Int),.int .u8 (x1.toNat:Int)] 5);clear eL rl n0 n1 hz e0 h0;go_wp2_with (at_builtin;refine zh ?_)
  unfold zZ
  try rw[E0,E1]
  refine zv rfl (.tmp 36) (.tmp 37) rfl w.heap.size (.slice (some ⟨w.heap.size,0,none⟩) 2 2) [x0,x1] rfl Oe AA an ac aad rfl HN.out.2.2.2.1 Oj (by have:=HN.out;simp;omega) yB.size fun v' w1 zJ hg1 hat1=>?_
  rw[← HX.out]at zJ;have zY:=yB.grown hg1 yB.size (fun q hq=>by injection hq with hq;exact Nat.le_of_eq hq);obtain⟨VA,vc,rfl,wv,_,_⟩:=zJ.form;obtain⟨LA,Fa⟩:∃ L,pW aad=L:=⟨_,rfl⟩
  have P8:Hid (lO aad=mq LA∧LA.length≤1048576):=⟨by rw[HE.out.2,Fa],by rw[← Fa,pW];have:=HN.out;simp;omega⟩
  rw[Fa]at zJ⊢;have PD:=Hh (fw (n:=LA.length) (c:=vc) rfl P8.out.2 w1 zJ.src);obtain⟨ln,B7⟩:∃ n,LA.length=n:=⟨_,rfl⟩
  rw[B7]at PD⊢;clear wv Oe yB Oj hg1 hat1 Fa E0 E1 zJ B7;go_wp2_with fail
  refine PD.out.mono ?_
  rintro e w2 ⟨v2,rfl,sj⟩
  obtain⟨VB,vd,rfl,wv,_,_⟩:=sj.own.form;have ui:=sj.own.more zY.size;rw[← P8.out.1]at ui⊢;have zD:=jgN;clear PD wv sj zY;obtain⟨bl,vV⟩:∃ n,(lO aad).length=n:=⟨_,rfl⟩
  rw[vV]at ui⊢;have qR:=Hh vV;clear vV;go_wp2_with fail
  go_meet
  exact⟨a5,VB,bl,vd,rfl,HF.out.1,HF.out.2.2 HE.out.1,rfl,qR.out.symm,ui,zD⟩
 case rest =>
 obtain⟨fi,BA,bl,bc,rfl,Ay,Ax,rfl,vV,hO,hb⟩:=hcut;have CT0:=jU (A:=NA) (c:=nc) HN.out.2.1 (by have:=HN.out;omega) fi Ay pn (by have:=HN.out;omega) _ (HS.out.2.1.below hb);obtain⟨CL,Rw⟩:∃ CL,uQ (UInt8.ofNat fi) nonce pn=CL:=⟨_,rfl⟩
 rw[Rw]at CT0;have uw:CL.length=16:=by rw[← Rw];exact sA _ HN.out.2.2.1 _
 rw[Ax,HN.out.2.2.2.2.2.1]at Rw;have CT:=Hh CT0;have f8:=Hh (And.intro Rw uw);have qR:=Hh vV;clear CT0 Rw uw Ax Ay vV V5;go_wp2_with fail
 refine CT.out.mono ?_
 rintro e w5 ⟨v5,rfl,xX⟩
 clear CT;obtain⟨CA,cc,rfl,wv,_,_⟩:=xX.own.form;have zW:=xX.own.more hb.size;rw[f8.out.2]at zW⊢;have Lq:=(hO.below xX.2).src;have zE:=hb.trans (xX.2.mono hb.size);clear wv xX hb hO;go_wp2_with (at_builtin;refine zh ?_)
 refine zv rfl (.tmp 44) (.tmp 45) rfl w.heap.size (.slice CA 16 cc) CL rfl zW BA bl bc (lO aad) rfl qR.out Lq (by have h1:=f8.out.2;have h2:=(gF aad).1;have h3:=HN.out;omega) zE.size fun v' w6 wH vt hat6=>?_
 obtain⟨B1,qF⟩:∃ B1,CL++lO aad=B1:=⟨_,rfl⟩
 obtain⟨b1,zY⟩:∃ n,B1.length=n:=⟨_,rfl⟩
 rw[qF]at wH;obtain⟨VA,vc,rfl,wv,_,_⟩:=wH.form;rw[zY]at wH⊢;have wS:=zE.grown vt zE.size (fun q hq=>(zW.lt q hq).1);have Rq:=Hh (And.intro qF zY);have PD:=Hh (fw (n:=pn) (c:=pc) HN.out.2.2.2.2.2.1 (by have:=HN.out;omega) w6 (HS.out.2.2.2.below wS));clear qF zY wv zW Lq zE vt hat6;go_wp2_with fail
 refine PD.out.mono ?_
 rintro e w7 ⟨v7,rfl,mw⟩
 obtain⟨VB,vd,rfl,wv,_,_⟩:=mw.own.form;have xj:=wH.below mw.2;have Of:=mw.own.src;have uI:=wS.trans (mw.2.mono wS.size);obtain⟨PL,Og⟩:∃ PL,mq plain=PL:=⟨_,rfl⟩
 rw[Og]at Of⊢;obtain⟨pl,pe⟩:∃ n,PL.length=n:=⟨_,rfl⟩
 rw[pe];have WL:Hid (mq plain=PL∧PL.length=pl∧pl=16*((plain.length+15)/16)):=⟨Og,pe,by rw[← pe,← Og,pu]⟩
 clear PD wv mw wH wS Og pe;go_wp2_with (at_builtin;refine zh ?_)
 refine zv rfl (.tmp 46) (.tmp 48) rfl w.heap.size (.slice VA b1 vc) B1 rfl xj VB pl vd PL rfl WL.out.2.1.symm Of (by have h5:=congrArg List.length Rq.out.1;rw[List.length_append]at h5;have h1:=f8.out.2;have h2:=(gF aad).1;have h3:=HN.out;have h4:=WL.out;omega) uI.size fun v' w8 sk hg8 hat8=>?_
 obtain⟨B,hB⟩:∃ B,B1++PL=B:=⟨_,rfl⟩
 obtain⟨bn,YY⟩:∃ n,B.length=n:=⟨_,rfl⟩
 rw[hB]at sk;obtain⟨DA,dc,rfl,wv,_,_⟩:=sk.form;rw[YY]at sk⊢;have uk:=uI.grown hg8 uI.size (fun q hq=>(xj.lt q hq).1)
 have HB:Hid (nP nonce aad plain t=B∧B.length=bn∧bn%16=0∧bn≤100000):=by
  have h0:=Rq.out;have h1:=f8.out;have h2:=gF aad;have h3:=HN.out;have h4:=WL.out
  refine⟨by rw[Wg,h1.1,h0.1,h4.1,hB],YY, ?_, ?_⟩
  ·exact jdk
  exact jdk
 clear hB YY wv xj Of uI hg8 hat8;go_wp2_with (at_make;refine zh ?_)
 unfold zZ
 obtain⟨i0,og,n9,rx,oN⟩:=info_parts rX
 refine wpList_make_full _ rfl _ _ 22 rfl w8.heap.size 5 i0 _ 1 Tryz.underlying22 og n9 rx _ _ _ _ 16 rfl rfl (by omega) (by omega) (by rw[oN];omega) (by simp only[maxLen];omega) (Nat.le_refl _) fun w9 sm xt=>?_
 clear i0 og n9 rx oN
 have mh:Fresh w8 (List.replicate 16 0) (.slice (some ⟨w8.heap.size,0,none⟩) 16 16) w9:=by
  refine⟨?_,yW xt⟩
  rw[List.length_replicate,← jO]
  exact sm
 have hX:=mh.own.more uk.size;have hO:=sk.below mh.2;have hb:=uk.trans (mh.2.mono uk.size)
 have xp:∀ k,(Value.slice DA bn dc).ownBlock=some k→(Value.slice (some (⟨w8.heap.size,0,none⟩:Addr)) 16 16).ownBlock≠some k:=fun k hk lf=>by
  have h1:=(sk.lt k hk).2;have h2:w8.heap.size=k:=by injection lf
  omega
 obtain⟨Z,hZ⟩:∃ Z:List UInt8,List.replicate 16 0=Z:=⟨_,rfl⟩
 have HZ:=Hh hZ;rw[hZ]at hX;obtain⟨XA0,Gc⟩:∃ A:Option Addr,some ⟨w8.heap.size,0,none⟩=A:=⟨_,rfl⟩
 rw[Gc]at hX xp⊢;clear hZ Gc sm xt mh sk uk;go_wp2_with fail
 go_loopw [13,14] (fun v13 v14 wr=>∃ (j e:Nat) (XA:Option Addr) (xc:Nat) (X:List UInt8),v14=.int .i64 (e:Int)∧e=16*j∧e≤bn∧v13=.slice XA 16 xc∧Hid (uZ key B Z j=X∧X.length=16)∧OwnB wr w.heap.size (.slice XA 16 xc) X∧OwnB wr w.heap.size (.slice DA bn dc) B∧(∀ k,(Value.slice DA bn dc).ownBlock=some k→(Value.slice XA 16 xc).ownBlock≠some k)∧Below w.heap.size w wr) (fun _ v14 _=>(bn-intOf v14).toNat)
 case atStart=>exact⟨0,0,XA0,16,Z,rfl,rfl,Nat.zero_le _,rfl,⟨rfl,by rw[← HZ.out];simp⟩,hX,hO,xp,hb⟩
 case round =>
 clear hX hO xp hb;obtain⟨j,e,XA,xc,X,rfl,he,mN,rfl,HX,hX,hO,xp,hb⟩:=hrel;have HE:=Hh (And.intro he mN);clear he mN
 by_cases z9:(e:Int)<(bn:Int)
 ·have pf:=HE.out;have Gf:e+16≤bn:=by have:=HB.out;omega
  have G7:=Hh Gf;have kO:IntKind.i64.wrap ((e:Int)+16)=((e+16:Nat):Int):=by rw[show(e:Int)+16=((e+16:Nat):Int) by omega];exact zP (by have:=HB.out;omega)
  obtain⟨e16,LN⟩:∃ q,e+16=q:=⟨_,rfl⟩
  rw[LN]at kO;obtain⟨G,hG⟩:∃ G:Nat→UInt8,(fun k=>at_ X k ^^^ at_ B (e+k))=G:=⟨_,rfl⟩
  have HG:Hid ((∀ k,G k=at_ X k ^^^ at_ B (e+k))∧(List.range 16).map G=xA X ((B.drop e).take 16)):=⟨fun k=>by rw[← hG],by rw[Uf,← hG]⟩
  have wY:OwnB wr w.heap.size (.slice XA 16 xc) (wB 16 G X 0):=by rw[wW _ HX.out.2];exact hX
  have Kg:=Hh LN;clear hX hG pf Gf LN;go_wp2_with fail
  go_loopw [57] (fun v57 wx=>∃ k:Nat,v57=.int .i64 (k:Int)∧k≤16∧OwnB wx w.heap.size (.slice XA 16 xc) (wB 16 G X k)∧OwnB wx w.heap.size (.slice DA bn dc) B∧Below w.heap.size w wx) (fun v57 _=>(16-intOf v57).toNat)
  case atStart=>exact⟨0,rfl,by omega,wY,hO,hb⟩
  case round =>
  clear wY hO hb;obtain⟨k,rfl,hk,hX,hO,hb⟩:=hrel
  by_cases ae:(k:Int)<16
  ·obtain⟨gq,cur,rfl,WS,iY,oT,rq⟩:=hX.store_ (k:=k) (by rw[xJ];omega);obtain⟨b',off',Ea,BT⟩:=hX.src (by intro h0;have h1:=congrArg List.length h0;rw[List.length_map,xJ]at h1;simp at h1);injection Ea with Ea
   injection Ea with fR VS
   subst fR VS;have e0:=BT k (zu (at_ X k)) (by rw[List.getElem?_map,List.getElem?_eq_getElem (by rw[xJ];omega),Option.map_some,← gd (by rw[xJ];omega),pJ _ _ (by omega)]);rw[Nat.zero_add]at e0;obtain⟨ek,Dr⟩:∃ q,e+k=q:=⟨_,rfl⟩
   have CI:ek<bn:=by have:=G7.out;omega
   have W1:IntKind.i64.wrap ((e:Int)+(k:Int))=(ek:Int):=by rw[← Int.natCast_add,Dr];exact zP (by have:=HB.out;omega)
   have lek:(ek:Int)<(bn:Int):=by omega
   obtain⟨db,dof,rfl,Aw⟩:=hO.src (by intro h0;rw[List.map_eq_nil_iff]at h0;have h1:=HB.out.2.1;rw[h0]at h1;simp at h1;omega);have e1:=Aw ek (zu (at_ B ek)) (by have h1:=HB.out.2.1;rw[List.getElem?_map,List.getElem?_eq_getElem (by omega)];simp[at_,List.getD_eq_getElem?_getD,show ek<B.length by omega]);obtain⟨u,hu⟩:∃ u,at_ X k=u:=⟨_,rfl⟩
   obtain⟨v,hv⟩:∃ v,at_ B ek=v:=⟨_,rfl⟩
   rw[hu]at e0;rw[hv]at e1;have XX:=Hh (yx u v);have S1:=Hh (uy (n:=16) (i:=k) G X (by omega));rw[HG.out.1,Dr,hu,hv]at S1;clear hu hv Dr CI BT Aw;go_upto_region 14 with fail
   replace e0:=ua (Below.refl _ _).drew e0;replace e1:=ua (Below.refl _ _).drew e1
   refine zr 12 (fun wx=>wx.cell? ⟨gq,k,none⟩=some (zu u)∧wx.cell? ⟨db,dof+ek,none⟩=some (zu v)) (by kernel_rfl) (⟨e0,e1⟩) (fun zy=>?_)
   refine Tk 0 rfl zy ?_
   refine Tk 1 rfl zy ?_
   refine Tk 2 rfl zy ?_
   refine Tk 3 rfl zy ?_
   refine Tk 4 rfl zy ?_
   refine Tk 5 rfl zy ?_
   refine Tk 6 rfl zy ?_
   refine Tk 7 rfl zy ?_
   refine Tk 8 rfl zy ?_
   refine Tk 9 rfl zy ?_
   refine Tk 10 rfl zy ?_
   refine Tk 11 rfl zy ?_
   refine To 12 rfl fun K hK=>?_
   rw[if_pos (by rfl)]
   refine zO _ _ _ rfl gq k (zu (u ^^^ v)) rfl (by show Value.int .u8 (bits .xor .u8 (u.toNat:Int) (v.toNat:Int))=_;rw[XX.out]) _ _ iY.drew yH oT rfl fun w11 hB11 mH=>?_
   refine Kz hK ?_
   clear hK K
   refine Wd ?_
   have Up:=rq w11 _ hB11;rw[S1.out]at Up;have aO:=(hO.below (Below.refl _ _).drew).kept mH (.inr (fun e=>xp _ e rfl));have j5:=hb.drew.grown mH hb.drew.size (by rintro q ⟨⟩;exact WS);clear zy hX hO hb iY oT rq hB11 mH e0 e1 W1 lek XX S1;go_wp2_with fail
   go_roundw
   case rel=>exact⟨k+1,by go_num,by omega,Up,aO,j5⟩
   case measure=>simp[intOf];omega
  obtain rfl:k=16:=by omega
  rw[show((16:Nat):Int)=16 from rfl];rw[tN,HG.out.2]at hX;obtain⟨XL,Lx⟩:∃ L,xA X ((B.drop e).take 16)=L:=⟨_,rfl⟩
  have MM:XL.length=16:=by rw[← Lx];exact yX _ _
  rw[Lx]at hX;obtain⟨EL,Si⟩:∃ EL,pN key XL=EL:=⟨_,rfl⟩
  have P6:Hid (EL.length=16∧uZ key B Z (j+1)=EL):=⟨by rw[← Si];exact t7 _ _,by rw[uZ,HX.out.1,← HE.out.1,Lx,Si]⟩
  have EN:=Hh (jT HN.out.1 MM (A:=KA) (ac:=kc) (C:=XA) (bc:=xc) _ (HS.out.1.below hb) hX.src);rw[Si]at EN;clear Lx MM Si ae;go_wp2_with fail
  refine EN.out.mono ?_
  rintro e' w12 ⟨v12,rfl,Ut⟩
  clear EN;obtain⟨YA,yc,rfl,wv,_,_⟩:=Ut.own.form;have hY:=Ut.own.more hb.size;rw[P6.out.1]at hY⊢;have Uo:=hO.below Ut.2;have yt:=hb.trans (Ut.2.mono hb.size)
  have Fz:∀ k,(Value.slice DA bn dc).ownBlock=some k→(Value.slice YA 16 yc).ownBlock≠some k:=fun k hk lf=>by
   have h1:=(hO.lt k hk).2;have h2:=(Ut.own.lt k (by cases YA <;> simp_all [Value.ownBlock])).1
   omega
  clear wv hX hO hb Ut xp;go_wp2_with fail
  go_roundw
  case rel=>exact⟨j+1,e16,YA,yc,EL,by first | rfl | go_num,by have:=HE.out;have:=Kg.out;omega,by have:=G7.out;have:=Kg.out;omega,rfl,⟨P6.out.2,P6.out.1⟩,hY,Uo,Fz,yt⟩
  case measure=>have:=Kg.out;simp[intOf];omega
 have hj:j=bn/16:=by have:=HE.out;omega
 have HR:Hid (X=oH key nonce aad plain t):=by
  rw[Hid,← HX.out.1,hj,← Cf key nonce aad plain HN.out.2.2.1 t,HB.out.1,HB.out.2.1,HZ.out]
 clear hj xp hO;go_wp2_with fail
 go_ret
 exact⟨_,rfl,by rw[← HR.out];show OwnB wr w.heap.size _ X;exact hX,hb⟩
theorem Pz (key nonce tag:List UInt8):(uD key nonce tag).length=16:=yX _ _
theorem fv {KA:Option Addr}{kn kc:Nat}{key:List UInt8}(sw:kn=key.length) {NA:Option Addr}{nn nc:Nat}{nonce:List UInt8}(uE:nn=nonce.length)
  {AA:Option Addr} {an ac:Nat} {aad:List UInt8} (me:an=aad.length) {PA:Option Addr} {pn pc:Nat} {plain:List UInt8} (hpn:pn=plain.length)
  (t:Nat) (ht:t≤16) (w:World) (hsk:Src w KA (key.map zu)) (qT:Src w NA (nonce.map zu)) (mz:Src w AA (aad.map zu)) (hsp:Src w PA (plain.map zu)) :
  Calls Tryz.prog 51 #[.slice KA kn kc,.slice NA nn nc,.slice AA an ac,.slice PA pn pc,.int .i64 (t:Int)] w (ww w (tQ key nonce aad plain t)):=by
 have V:=Hh (jQ (KA:=KA) (kn:=kn) (kc:=kc) (NA:=NA) (nn:=nn) (nc:=nc) t (by omega) w);have HN:=Hh (And.intro sw (And.intro uE (And.intro me (And.intro hpn ht))));have HS:=jhj
 have NO:∀ r:Int×List UInt8,tQ key nonce aad plain t=r→r.2=[]→Hid (ww w (tQ key nonce aad plain t) (.returned (.tuple #[.slice none 0 0,.int .i64 r.1])) w):=by
  exact jcl
 cases hv:yg kn nn t with
 | false =>
  have N1:=NO (1,[]) (by rw[tQ,← sw,← uE,if_pos hv]) rfl;rw[hv]at V;clear NO sw uE me hpn ht hsk qT mz hsp hv;exact jeM
 | true =>
 have HV:Hid (kn=16∧7≤nn∧nn≤13∧4≤t):=by
  exact jbN
 rw[hv]at V
 by_cases hbig:(4096:Int)<(an:Int)∨(4096:Int)<(pn:Int)
 ·have N1:=jhB;clear NO sw uE me hpn ht hsk qT mz hsp hv
  by_cases h1:(4096:Int)<(an:Int)
  ·clear hbig;exact jeM
  have h2:(4096:Int)<(pn:Int):=by omega
  clear hbig;exact jeM
 have E:Hid (tQ key nonce aad plain t=(0,tj key nonce aad plain t)):=by rw[Hid,tQ,← sw,← uE,if_neg (by rw[hv];decide),if_neg (by omega)]
 have h1:¬ (4096:Int)<(an:Int):=by omega
 have h2:¬ (4096:Int)<(pn:Int):=by omega
 have HB:Hid (an≤4096∧pn≤4096):=by rw[Hid];omega
 clear NO hbig sw uE me hpn ht hsk qT mz hsp hv;obtain rfl:kn=16:=HV.out.1;have ew:key.length=16:=HN.out.1.symm;have HK:=Hh ew;clear ew;go_enter Tryz.func51,Tryz.ntmps51
 go_wp2_with fail
 refine V.out.mono ?_
 rintro e w1 ⟨rfl,rfl⟩
 clear V;have S1:=lr HK.out (kc:=kc) HN.out.2.1 (nc:=nc) (by have:=HV.out;have:=HN.out;omega) HN.out.2.2.2.1 (bc:=pc) (by have:=HB.out;have:=HN.out;omega) 1 (Nat.le_refl _) w HS.out.1 HS.out.2.1 HS.out.2.2.2;rw[jX]at S1;obtain⟨SL,Fc⟩:∃ L,qC key nonce plain=L:=⟨_,rfl⟩
 rw[Fc]at S1;have oI:=Hh (And.intro Fc (show SL.length=pn by rw[← Fc,vA,HN.out.2.2.2.1]));have S1h:=Hh S1;clear S1 Fc;go_wp2_with fail
 refine S1h.out.mono ?_
 rintro e w2 ⟨v2,rfl,sj⟩
 clear S1h;obtain⟨SA,sc,rfl,wv,_,_⟩:=sj.own.form;have hO:=sj.own;rw[oI.out.2]at hO⊢;have hb:=sj.2;have MC:=NY HK.out (kc:=kc) HN.out.2.1 (nc:=nc) (by have:=HV.out;have:=HN.out;omega) HN.out.2.2.1 (ac:=ac) (by have:=HB.out;have:=HN.out;omega) HN.out.2.2.2.1 (pc:=pc) (by have:=HB.out;have:=HN.out;omega) t (by have:=HV.out;have:=HN.out;omega) w2 (HS.out.1.below hb) (HS.out.2.1.below hb) (HS.out.2.2.1.below hb) (HS.out.2.2.2.below hb);obtain⟨TL,Fd⟩:∃ L,oH key nonce aad plain t=L:=⟨_,rfl⟩
 rw[Fd]at MC;have fC:=Hh (And.intro Fd (show TL.length=16 by rw[← Fd,lA]));have MCh:=Hh MC;clear MC Fd wv sj;go_wp2_with fail
 refine MCh.out.mono ?_
 rintro e w3 ⟨v3,rfl,tr⟩
 clear MCh;obtain⟨MA,mc,rfl,wv,_,_⟩:=tr.own.form;have hT:=tr.own.src;rw[fC.out.2]at⊢;replace hO:=hO.below tr.2;replace hb:=hb.trans (tr.2.mono hb.size);have S2:=lr HK.out (kc:=kc) HN.out.2.1 (nc:=nc) (by have:=HV.out;have:=HN.out;omega) (bn:=16) fC.out.2.symm (BA:=MA) (bc:=mc) (by have:=fC.out;omega) 0 (by omega) w3 (HS.out.1.below hb) (HS.out.2.1.below hb) hT;rw[bP _ _ fC.out.2]at S2;obtain⟨ML,Fb⟩:∃ L,uD key nonce TL=L:=⟨_,rfl⟩
 rw[Fb]at S2;have oO:=Hh (And.intro Fb (show ML.length=16 by rw[← Fb,Pz]));have S2h:=Hh S2;clear S2 Fb wv tr hT;go_wp2_with fail
 refine S2h.out.mono ?_
 rintro e w4 ⟨v4,rfl,rf⟩
 clear S2h;obtain⟨NA4,mc4,rfl,wv,_,jH⟩:=rf.own.form;rw[oO.out.2]at wv⊢;replace hO:=hO.below rf.2;replace hb:=hb.trans (rf.2.mono hb.size);have Eg:(0:Int)≤(t:Int):=by omega
 have htc:(t:Int)≤(mc4:Int):=by have:=HN.out;omega
 have FD:Hid ((ML.take t).length=t):=by rw[Hid,List.length_take,oO.out.2];have:=HN.out;omega
 have au:=sW t jH;clear wv rf jH;go_wp2_with (at_builtin;refine zh ?_)
 refine zv rfl (.tmp 30) (.tmp 41) rfl w.heap.size (.slice SA pn sc) SL rfl hO NA4 t mc4 (ML.take t) rfl FD.out.symm au (by have h1:=oI.out.2;have h2:=FD.out;have h3:=HB.out;have h4:=HN.out;omega) hb.size fun v' w5 zW zK hat5=>?_
 have zE:=hb.grown zK hb.size (fun q hq=>(hO.lt q hq).1);have HR:Hid (tj key nonce aad plain t=SL++ML.take t):=by rw[Hid,tj,oI.out.1,fC.out.1,oO.out.1]
 clear hO hb zK hat5 au;go_wp2_with fail
 go_ret2
 refine⟨v',by rw[E.out];rfl,by rw[E.out];show OwnB w5 w.heap.size v' (tj key nonce aad plain t);rw[HR.out];exact zW,zE⟩
theorem Ke {a b:List UInt8}(h:(a==b)=false):(⟨a.toArray⟩:ByteArray)≠⟨b.toArray⟩:=fun e=>by
 injection e with e
 have e2:=congrArg Array.toList e
 simp only[List.toList_toArray]at e2
 rw[e2]at h
 simp at h
theorem Nq {s1 s2:ByteArray}(xp:s1≠s2):(s1.toList==s2.toList)=false:=by
 cases h:(s1.toList==s2.toList) with
 | false=>rfl
 | true=>exact absurd (by have:=beq_iff_eq.1 h;rw[ByteArray.toList_eq,ByteArray.toList_eq]at this;exact ByteArray.ext (Array.toList_inj.1 this)) xp
theorem XN {KA:Option Addr}{kn kc:Nat}{key:List UInt8}(sw:kn=key.length) {NA:Option Addr}{nn nc:Nat}{nonce:List UInt8}(uE:nn=nonce.length)
  {AA:Option Addr} {an ac:Nat} {aad:List UInt8} (me:an=aad.length) {CA:Option Addr} {cn cc:Nat} {cipher:List UInt8} (Sn:cn=cipher.length) (hcc:cn≤cc)
  (t:Nat) (ht:t≤16) (w:World) (hsk:Src w KA (key.map zu)) (qT:Src w NA (nonce.map zu)) (mz:Src w AA (aad.map zu)) (Sv:Src w CA (cipher.map zu)) :
  Calls Tryz.prog 55 #[.slice KA kn kc,.slice NA nn nc,.slice AA an ac,.slice CA cn cc,.int .i64 (t:Int)] w (ww w (wG key nonce aad cipher t)):=by
 have V:=Hh (jQ (KA:=KA) (kn:=kn) (kc:=kc) (NA:=NA) (nn:=nn) (nc:=nc) t (by omega) w);have HN:=Hh (And.intro sw (And.intro uE (And.intro me (And.intro Sn (And.intro ht hcc)))));have HS:=Hh (And.intro hsk (And.intro qT (And.intro mz Sv)))
 have NO:∀ c:Int,wG key nonce aad cipher t=(c,[])→∀ w',Below w.heap.size w w'→Hid (ww w (wG key nonce aad cipher t) (.returned (.tuple #[.slice none 0 0,.int .i64 c])) w'):=by
  intro c h w' hb
  exact jcr
 have t4:IntKind.i64.wrap (4096+(t:Int))=4096+(t:Int):=IntWalk.i64_in _ (by omega)
 cases hv:yg kn nn t with
 | false =>
  have N1:=NO 1 (by rw[wG,← sw,← uE,if_pos hv]) w (Below.refl _ _);rw[hv]at V;exact jd2
 | true =>
 have HV:Hid (kn=16∧7≤nn∧nn≤13∧4≤t∧yg kn nn t=true):=by
  have YR:=hv
  simp only[yg,Bool.and_eq_true,decide_eq_true_eq]at YR
  exact⟨YR.1.1.1.1.1,YR.1.1.1.1.2,YR.1.1.1.2,YR.1.1.2,hv⟩
 rw[hv]at V
 by_cases h1:(4096:Int)<(an:Int)
 ·exact je6
 by_cases h2:4096+(t:Int)<(cn:Int)
 ·exact je6
 by_cases h3:(cn:Int)<(t:Int)
 ·have N1:=NO 2 (by rw[wG,← sw,← uE,if_neg (by rw[hv];decide),if_neg (by omega),if_pos (by omega)]) w (Below.refl _ _);exact jd2
 have E:Hid (wG key nonce aad cipher t=if qM key nonce aad cipher t=false then(11,[]) else(0,tO key nonce cipher t)):=by rw[Hid,wG,← sw,← uE,if_neg (by rw[hv];decide),if_neg (by omega),if_neg (by omega)]
 have HB:Hid (an≤4096∧cn≤4096+t∧t≤cn):=by rw[Hid];omega
 obtain⟨m,hm⟩:∃ m,cn-t=m:=⟨_,rfl⟩
 have W1:IntKind.i64.wrap ((cn:Int)-(t:Int))=(m:Int):=by rw[show(cn:Int)-(t:Int)=(m:Int) by omega];exact zP (by omega)
 have HM:=Hh hm;have m0:(m:Int)≤(cc:Int):=by omega
 have cN:=Hh NO;clear NO sw uE me Sn hcc ht hsk qT mz Sv hv hm;obtain rfl:kn=16:=HV.out.1;have ew:key.length=16:=HN.out.1.symm;have HK:=Hh ew;clear ew;go_enter Tryz.func55,Tryz.ntmps55
 go_wp2_with fail
 refine V.out.mono ?_
 rintro e w1 ⟨rfl,rfl⟩
 clear V;obtain⟨CT,IL⟩:∃ L,cipher.take m=L:=⟨_,rfl⟩
 have YE:Hid (cipher.take m=CT∧CT.length=m):=⟨IL,by rw[← IL,List.length_take];have:=HN.out;have:=HM.out;omega⟩
 have S1:=lr HK.out (kc:=kc) HN.out.2.1 (nc:=nc) (by have:=HV.out;have:=HN.out;omega) (bn:=m) YE.out.2.symm (BA:=CA) (bc:=cc) (by have:=YE.out.2;have:=HB.out;have:=HM.out;have:=HN.out;omega) 1 (Nat.le_refl _) w HS.out.1 HS.out.2.1 (by rw[← IL];exact sW m HS.out.2.2.2);rw[jX]at S1;obtain⟨PL,Og⟩:∃ L,qC key nonce CT=L:=⟨_,rfl⟩
 rw[Og]at S1;have WL:Hid (tO key nonce cipher t=PL∧PL.length=m):=⟨by rw[tO,← HN.out.2.2.2.1,HM.out,IL,Og],by rw[← Og,vA];exact YE.out.2⟩
 have S1h:=Hh S1;clear S1 Og IL;go_wp2_with fail
 refine S1h.out.mono ?_
 rintro e w2 ⟨v2,rfl,sj⟩
 clear S1h W1 m0;obtain⟨SA,sc,rfl,wv,_,_⟩:=sj.own.form;have hO:=sj.own;rw[WL.out.2]at hO⊢;have hb:=sj.2;obtain⟨Q,hQ⟩:∃ Q,tj key nonce aad PL t=Q:=⟨_,rfl⟩
 have HQ:Hid (tQ key nonce aad PL t=(0,Q)∧(Q==cipher)=qM key nonce aad cipher t):=by
  have h1:=HN.out;have h2:=HB.out;have h3:=WL.out;have h4:=HM.out
  refine⟨?_, ?_⟩
  ·rw[tQ,← h1.1,← h1.2.1,if_neg (by rw[HV.out.2.2.2.2];decide),if_neg (by omega),hQ]
  rw[← hQ,← h3.1]
  exact G6 (by omega) (by omega)
 have SE:=fv (KA:=KA) (kc:=kc) HN.out.1 (NA:=NA) (nc:=nc) HN.out.2.1 (AA:=AA) (ac:=ac) HN.out.2.2.1 (PA:=SA) (pn:=m) (pc:=sc) WL.out.2.symm t HN.out.2.2.2.2.1 w2 (HS.out.1.below hb) (HS.out.2.1.below hb) (HS.out.2.2.1.below hb) sj.own.src;rw[HQ.out.1]at SE;have SEh:=Hh SE;clear SE wv sj hQ;go_wp2_with fail
 refine SEh.out.mono ?_
 rintro e w3 ⟨v3,rfl,tR,yR⟩
 clear SEh;have L7:OwnB w3 w2.heap.size v3 Q:=tR;obtain⟨QA,qc,rfl,wv,_,Eb⟩:=L7.form;replace hO:=hO.below yR;replace hb:=hb.trans (yR.mono hb.size);have cU:=HS.out.2.2.2.below hb;obtain⟨qn,Fj⟩:∃ n,Q.length=n:=⟨_,rfl⟩
 obtain⟨s1,xZ⟩:∃ s,(⟨Q.toArray⟩:ByteArray)=s:=⟨_,rfl⟩
 have V1:(convert 22 9 (.slice QA qn qc)).run Tryz.prog w3=.ok (.string s1) w3:=by
  rw[← xZ]
  exact qu Eb qn qc Fj.symm
 rw[Fj]
 cases hr:qM key nonce aad cipher t with
 | true =>
  have BF:Q=cipher:=by have h:=HQ.out.2;rw[hr]at h;exact eq_of_beq h
  have V2:(convert 22 9 (.slice CA cn cc)).run Tryz.prog w3=.ok (.string s1) w3:=by
   rw[← xZ,BF]
   exact qu cU cn cc HN.out.2.2.2.1
  have N1:Hid (ww w (wG key nonce aad cipher t) (.returned (.tuple #[.slice SA m sc,.int .i64 0])) w3):=by
   rw[E.out,if_neg (by rw[hr];decide)]
   exact⟨_,rfl,by show OwnB w3 w.heap.size _ (tO key nonce cipher t);rw[WL.out.1];exact hO,hb⟩
  clear BF tR L7 wv hO hb yR Eb cU Fj xZ hr;exact jeU
 | false =>
 obtain⟨s2,oX⟩:∃ s,(⟨cipher.toArray⟩:ByteArray)=s:=⟨_,rfl⟩
 have V2:(convert 22 9 (.slice CA cn cc)).run Tryz.prog w3=.ok (.string s2) w3:=by
  rw[← oX]
  exact qu cU cn cc HN.out.2.2.2.1
 have xp:=Ke (a:=Q) (b:=cipher) (by rw[HQ.out.2,hr]);rw[xZ,oX]at xp;have f3:=Nq xp;have f1:(s1=s2)=False:=eq_false xp;have f2:(s1==s2)=false:=by rw[beq_toListBytes];exact f3
 have f4:(s1 != s2)=true:=by rw[bne,f2];rfl
 have f5:(s1.toList != s2.toList)=true:=by rw[bne,f3];rfl
 have N1:=cN.out 11 (by rw[E.out,if_pos hr]) w3 hb;clear xp tR L7 wv hO hb yR Eb cU Fj xZ oX hr;exact jeU
theorem Jp {H:Snap}(suite label:Int) {PA:Option Addr}{np pc:Nat}{prk:List UInt8}(hp:np=prk.length) (lV:prk.length≤1099511627) {TA:Option Addr}{nt tc:Nat}{th:List UInt8}(ht:nt=th.length) {LA:Option Addr}{nl lc:Nat}{plain:List UInt8}(hl:nl=plain.length) (w:World) (hH:Holds w H) (h1:IsBytes H PA pc prk) (h2:IsBytes H TA tc th) (h3:IsBytes H LA lc plain) :
  Calls Tryz.prog 14 #[.int .i64 suite,.slice PA np pc,.int .i64 label,.slice TA nt tc,.slice LA nl lc] w (ww w (vC suite prk label th plain)):=by
 have MS:=Hh (mV suite w);have oO:=Hh (rC suite)
 have NO:∀ c:Int,vC suite prk label th plain=(c,[])→∀ w',Below w.heap.size w w'→Hid (ww w (vC suite prk label th plain) (.returned (.tuple #[.slice none 0 0,.int .i64 c])) w'):=fun c h w' hb=>by
  exact jcr
 have O1:yI suite=0→vC suite prk label th plain=(31,[]):=fun h=>by rw[vC,if_pos h]
 have O2:yI suite≠0→600<nl∨600<nt→vC suite prk label th plain=(8,[]):=fun h g=>by rw[vC,if_neg h,if_pos (by rw[← hl,← ht];exact g)]
 have O3:yI suite≠0→¬ (600<nl∨600<nt)→tz label=1→vC suite prk label th plain=(1,[]):=fun h g k=>by rw[vC,if_neg h,if_neg (by rw[← hl,← ht];exact g),if_pos (by rw[k];decide)]
 have O4:yI suite≠0→¬ (600<nl∨600<nt)→tz label=0→vC suite prk label th plain=(0,yL (tj (tD prk label th) (ivM prk label th) (vL th) plain (yI suite))):=fun h g k=>by rw[vC,if_neg h,if_neg (by rw[← hl,← ht];exact g),if_neg (by rw[k];decide)]
 have O5:yI suite≠0→¬ (600<nl∨600<nt)→tQ (tD prk label th) (ivM prk label th) (vL th) plain (yI suite)=(0,tj (tD prk label th) (ivM prk label th) (vL th) plain (yI suite)):=fun h g=>a8 prk label h (by omega) (by omega)
 have HO:=Hh (And.intro O1 (And.intro O2 (And.intro O3 (And.intro O4 O5))));obtain⟨qD,HN,HD,HH⟩:=jfL;obtain⟨m,hm⟩:∃ m,yI suite=m:=⟨_,rfl⟩
 rw[hm]at MS oO HO;clear O1 O2 O3 O4 O5 NO hp ht hl lV h1 h2 h3 hH hm;go_enter Tryz.func14,Tryz.ntmps14
 go_wp2_with fail
 refine MS.out.mono ?_
 rintro e w1 ⟨rfl,tv⟩
 obtain rfl:w=w1:=tv.symm;clear MS
 by_cases h0:m=0
 ·exact jej
 have n0:((m:Int)==0)=false:=by rw[beq_eq_false_iff_ne];omega
 have n1:=jhf;have N0:=Hh h0;clear h0
 by_cases h1:600<nl
 ·exact je7
 have i1:¬ (600:Int)<(nl:Int):=by omega
 have d1:decide ((600:Int)<(nl:Int))=false:=decide_eq_false i1
 by_cases h2:600<nt
 ·exact jaL
 have i2:¬ (600:Int)<(nt:Int):=by omega
 have d2:=jgq;have HL:Hid (¬ (600<nl∨600<nt)):=by rw[Hid];omega
 clear h1 h2;have KV:=Hh (jY (c:=pc) HN.out.1 HN.out.2.2.2 (d:=tc) HN.out.2.1 (by have:=HN.out.2.1;have:=HL.out;omega) label w HH.out HD.out.1 HD.out.2.1);go_wp2_with fail
 refine KV.out.mono ?_
 intro e w2 hk
 clear KV
 rcases hk with ⟨hE,KA,kc,NA,nc,H1,rfl,rs,jF,ql⟩ | ⟨hE,rfl,hb⟩
 ·have HG:=Hh rs;have HK:=Hh (And.intro jF ql);have HE:=Hh hE;clear rs jF ql hE;have AD:=Hh (MO (tc:=tc) HN.out.2.1 (by have:=HN.out.2.1;have:=HL.out;omega) w2 (Src.of_row (HD.out.2.1.mono HG.out.le).row HG.out.holds));go_wp2_with fail
  refine AD.out.mono ?_
  rintro e w3 ⟨r3,rfl,tr⟩
  obtain⟨AA,ac,rfl,wv⟩:=tr.own.form;obtain⟨H2,xq,ie,fH⟩:=Fresh.snapB HG.out.holds tr;obtain⟨na,im⟩:∃ n,(vL th).length=n:=⟨_,rfl⟩
  rw[im];have Ey:=Hh im;have aT:=Hh xq;have qQ:=Hh ie;clear AD tr wv fH xq ie im
  have CS:=Hh (Pe (kn:=16) (kc:=kc) (qy prk label th).symm (by have:=HK.out.1.le;rw[qy]at this;exact this) (nn:=13) (nc:=nc) (lE prk label th).symm (an:=na) (ac:=ac) Ey.out.symm (by have:=qQ.out.le;have:=Ey.out;omega) (pn:=nl) (pc:=lc) HN.out.2.2.1 (by have:=HD.out.2.2.le;have:=HN.out.2.2.1;omega) m oO.out w3
   (Src.of_row (HK.out.1.mono aT.out.le).row aT.out.holds) (Src.of_row (HK.out.2.mono aT.out.le).row aT.out.holds) (Src.of_row qQ.out.row aT.out.holds) (Src.of_row ((HD.out.2.2.mono HG.out.le).mono aT.out.le).row aT.out.holds))
  rw[HO.out.2.2.2.2 N0.out HL.out]at CS;obtain⟨f8,HR,ai⟩:=jhk;obtain⟨C,hC⟩:∃ C,tj (tD prk label th) (ivM prk label th) (vL th) plain m=C:=⟨_,rfl⟩
  rw[hC]at CS f8 HR;clear hC;go_wp2_with fail
  refine CS.out.mono ?_
  rintro e w4 ⟨v4,he,SR,xE⟩
  replace he:e=.returned (.tuple #[v4,.int .i64 0]):=he;subst he;replace SR:OwnB w4 w3.heap.size v4 C:=SR;obtain⟨CA,cc,rfl,wv⟩:=SR.form;have Uz:=Hh (ai.out.trans (xE.mono ai.out.size));have ST:=Hh (vB (c:=cc) (n:=C.length) rfl (by have:=f8.out;have:=oO.out;have:=HL.out;have:=HN.out;omega) w4 SR.src);exact jbf
 exact jeO
theorem XQ {H:Snap}(suite label:Int) {PA:Option Addr}{np pc:Nat}{prk:List UInt8}(hp:np=prk.length) (lV:prk.length≤1099511627) {TA:Option Addr}{nt tc:Nat}{th:List UInt8}(ht:nt=th.length) {LA:Option Addr}{nl lc:Nat}{plain:List UInt8}(hl:nl=plain.length) (w:World) (hH:Holds w H) (h1:IsBytes H PA pc prk) (h2:IsBytes H TA tc th) (h3:IsBytes H LA lc plain) :
  Calls Tryz.prog 15 #[.int .i64 suite,.slice PA np pc,.int .i64 label,.slice TA nt tc,.slice LA nl lc] w (ww w (vC suite prk label th plain)):=by
 have MS:=Hh (dh suite w);have oO:=Hh (rC suite)
 have NO:∀ c:Int,vC suite prk label th plain=(c,[])→∀ w',Below w.heap.size w w'→Hid (ww w (vC suite prk label th plain) (.returned (.tuple #[.slice none 0 0,.int .i64 c])) w'):=fun c h w' hb=>by
  exact jcr
 have O1:yI suite=0→vC suite prk label th plain=(31,[]):=fun h=>by rw[vC,if_pos h]
 have O2:yI suite≠0→600<nl∨600<nt→vC suite prk label th plain=(8,[]):=fun h g=>by rw[vC,if_neg h,if_pos (by rw[← hl,← ht];exact g)]
 have O3:yI suite≠0→¬ (600<nl∨600<nt)→tz label=1→vC suite prk label th plain=(1,[]):=fun h g k=>by rw[vC,if_neg h,if_neg (by rw[← hl,← ht];exact g),if_pos (by rw[k];decide)]
 have O4:yI suite≠0→¬ (600<nl∨600<nt)→tz label=0→vC suite prk label th plain=(0,yL (tj (tD prk label th) (ivM prk label th) (vL th) plain (yI suite))):=fun h g k=>by rw[vC,if_neg h,if_neg (by rw[← hl,← ht];exact g),if_neg (by rw[k];decide)]
 have O5:yI suite≠0→¬ (600<nl∨600<nt)→tQ (tD prk label th) (ivM prk label th) (vL th) plain (yI suite)=(0,tj (tD prk label th) (ivM prk label th) (vL th) plain (yI suite)):=fun h g=>a8 prk label h (by omega) (by omega)
 have HO:=Hh (And.intro O1 (And.intro O2 (And.intro O3 (And.intro O4 O5))));obtain⟨qD,HN,HD,HH⟩:=jfL;obtain⟨m,hm⟩:∃ m,yI suite=m:=⟨_,rfl⟩
 rw[hm]at MS oO HO;clear O1 O2 O3 O4 O5 NO hp ht hl lV h1 h2 h3 hH hm;go_enter Tryz.func15,Tryz.ntmps15
 go_wp2_with fail
 refine MS.out.mono ?_
 rintro e w1 ⟨rfl,tv⟩
 obtain rfl:w=w1:=tv.symm;clear MS
 by_cases h0:m=0
 ·exact jej
 have n0:((m:Int)==0)=false:=by rw[beq_eq_false_iff_ne];omega
 have n1:=jhf;have N0:=Hh h0;clear h0
 by_cases h1:600<nl
 ·exact je7
 have i1:¬ (600:Int)<(nl:Int):=by omega
 have d1:decide ((600:Int)<(nl:Int))=false:=decide_eq_false i1
 by_cases h2:600<nt
 ·exact jaL
 have i2:¬ (600:Int)<(nt:Int):=by omega
 have d2:=jgq;have HL:Hid (¬ (600<nl∨600<nt)):=by rw[Hid];omega
 clear h1 h2;have KV:=Hh (jR (c:=pc) HN.out.1 HN.out.2.2.2 (d:=tc) HN.out.2.1 (by have:=HN.out.2.1;have:=HL.out;omega) label w HH.out HD.out.1 HD.out.2.1);go_wp2_with fail
 refine KV.out.mono ?_
 intro e w2 hk
 clear KV
 rcases hk with ⟨hE,KA,kc,NA,nc,H1,rfl,rs,jF,ql⟩ | ⟨hE,rfl,hb⟩
 ·have HG:=Hh rs;have HK:=Hh (And.intro jF ql);have HE:=Hh hE;clear rs jF ql hE;have hl:=SrcR.lit2 (A1:=none) (n1:=0) (c1:=0) (l1:=[]) (n2:=nt) (c2:=tc) w2 22 rfl HN.out.2.1 (Src.nil _ _) (Src.of_row (HD.out.2.1.mono HG.out.le).row HG.out.holds);have Lr:=HG.out.alloc (.cells #[.slice none 0 0,.slice TA nt tc] 22);obtain⟨P,hP⟩:∃ P,w2.heap.size=P:=⟨_,rfl⟩
  rw[hP]at hl;obtain⟨wl,cu⟩:∃ wl,w2.alloc (.cells #[.slice none 0 0,.slice TA nt tc] 22)=wl:=⟨_,rfl⟩
  rw[cu]at hl Lr;have HW:=Hh (And.intro hP cu)
  have AD:Hid (Calls Tryz.prog 42 #[.string kJ,.slice (some ⟨P,0,none⟩) 2 2] wl fun e w'=>∃ r,e=.returned r∧Fresh wl (pK lJ [[],th]) r w') :=
   nk kJ (by show(8:Nat)≤_;omega) (by decide +kernel) (n:=2) (c:=2) rfl (by simp) (fun x hx=>by
    simp only[List.mem_cons,List.not_mem_nil,or_false]at hx
    have h1:=HN.out.2.1;have h2:=HL.out
    rcases hx with rfl | rfl
    ·simp
    omega) wl Lr.holds hl
  rw[← dA]at AD;replace HG:=Hh Lr;clear hP cu hl Lr;go_wp2_with fail
  rw[HW.out.1,HW.out.2]
  refine AD.out.mono ?_
  rintro e w3 ⟨r3,rfl,tr⟩
  obtain⟨AA,ac,rfl,wv⟩:=tr.own.form;obtain⟨H2,xq,ie,fH⟩:=Fresh.snapB HG.out.holds tr;obtain⟨na,im⟩:∃ n,(vL th).length=n:=⟨_,rfl⟩
  rw[im];have Ey:=Hh im;have aT:=Hh xq;have qQ:=Hh ie;clear AD tr wv fH xq ie im HW
  have CS:=Hh (fv (kn:=16) (kc:=kc) (qy prk label th).symm (nn:=13) (nc:=nc) (lE prk label th).symm (an:=na) (ac:=ac) Ey.out.symm (pn:=nl) (pc:=lc) HN.out.2.2.1 m oO.out w3
   (Src.of_row (HK.out.1.mono aT.out.le).row aT.out.holds) (Src.of_row (HK.out.2.mono aT.out.le).row aT.out.holds) (Src.of_row qQ.out.row aT.out.holds) (Src.of_row ((HD.out.2.2.mono HG.out.le).mono aT.out.le).row aT.out.holds))
  rw[HO.out.2.2.2.2 N0.out HL.out]at CS;obtain⟨f8,HR,ai⟩:=jhk;obtain⟨C,hC⟩:∃ C,tj (tD prk label th) (ivM prk label th) (vL th) plain m=C:=⟨_,rfl⟩
  rw[hC]at CS f8 HR;clear hC;go_wp2_with fail
  refine CS.out.mono ?_
  rintro e w4 ⟨v4,he,SR,xE⟩
  replace he:e=.returned (.tuple #[v4,.int .i64 0]):=he;subst he;replace SR:OwnB w4 w3.heap.size v4 C:=SR;obtain⟨CA,cc,rfl,wv⟩:=SR.form;have Uz:=Hh (ai.out.trans (xE.mono ai.out.size));have ST:=Hh (iV (c:=cc) (n:=C.length) rfl (by have:=f8.out;have:=oO.out;have:=HL.out;have:=HN.out;omega) w4 SR.src);exact jbf
 exact jeO
end Go.Proofs.YtkmlnjociijpgaaGreatDoor
