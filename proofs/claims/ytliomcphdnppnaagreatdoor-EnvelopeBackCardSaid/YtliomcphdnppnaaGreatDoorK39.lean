/- squeezed. Walks: envelope.Mac. Walks: Check, -/
import Derived.Test.YtliomcphdnppnaaGreatDoorK35
import Derived.Test.YtliomcphdnppnaaGreatDoorK38
set_option linter.unusedVariables false
set_option linter.unusedSimpArgs false
set_option maxRecDepth 100000
set_option maxHeartbeats 25600000
namespace Go.Proofs.YtliomcphdnppnaaGreatDoor
open Go.RowKit
theorem jaP{P:Prop}(h:P:=by
 go_wp2_with (with_reducible refine zx ?_)
 refine zv rfl _ _ _ rfl rfl _ _ rfl rfl _ _ hR wZ rfl (uX) fun wz hRz yS=>?_
 have rt:=hG.grownOwn UA (by omega) yS;clear hR yS;go_wp2_with fail
 refine zp rfl rfl hRz rfl rfl wZ rfl ?_
 exact MacOut.bad E.out (by omega) rt rfl):P:=h
theorem jcV{P:Prop}(h:P:=by simp[at_,List.getD_eq_getElem?_getD,h]):P:=h
theorem jem{P:Prop}(h:P:=by
 go_enter Tryz.func191,Tryz.ntmps191
 go_wp2_with fail
 refine wp_loop_rounds 3 ?_
 rw[rounds_succ];go_wp2_with fail
 refine(D.out _ _).mono ?_
 rintro e w1 ⟨rfl,rfl⟩
 go_wp2_with fail
 exact je0):P:=h
theorem jeG{P:Prop}(h:P:=by
 go_enter Tryz.func124,Tryz.ntmps124
 exact jaT):P:=h
theorem je0{P:Prop}(h:P:=by
 rw[rounds_succ];go_wp2_with fail
 refine(D.out _ _).mono ?_
 rintro e w1 ⟨rfl,rfl⟩
 go_wp2_with fail
 rw[rounds_succ];exact jay):P:=h
theorem jgl{P:Prop}(h:P:=by have hG:=((Grows.refl hH).alloc (.cells (zA p a u b) 28)).alloc (.cells yT 36);have UA:H (w.heap.size+1)=none:=hH.none_of_ge (by omega);have HP:=Hh hp;have HU:=Hh hu;have HT:=Hh hTab;have HX:=Hh (And.intro T9 (And.intro hext wY));exact And.intro hG (And.intro UA (And.intro HP (And.intro HU (And.intro HT HX))))):P:=h
theorem wZ:(Tryz.prog.info? 36).map (·.size)=some 10:=by kernel_rfl
theorem uX:yT.all (·.oneCell')=true:=by kernel_rfl
theorem OO (p u:Itm) (a b:Ad) (ba:Option Addr) (bn bc:Nat) (ta:Option Addr) (tn tc:Nat):(evC p a u b ba bn bc ta tn tc).all (·.oneCell')=true:=by kernel_rfl
theorem L4 (g:Int):ju g=0∨ju g=8∨ju g=32:=by
 unfold ju
 split
 ·exact .inr (.inl rfl)
 split <;> simp
theorem jG {H:Snap}(hTab:Tabs H) {p u:Itm}{a b:Ad}(hp:IsItem H a.ba a.bc a.ia a.ic p) (hu:IsItem H b.ba b.bc b.ia b.ic u)
  {EA:Option Addr} {en ec:Nat} {ext:List UInt8} (T9:en=ext.length) (hext:IsBytes H EA ec ext) (wY:ext.length≤1048576) {PA:Option Addr} {pn pc:Nat} {pay:List UInt8} (mq:pn=pay.length) (hpay:IsBytes H PA pc pay)
  {KA:Option Addr} {kn kc:Nat} {key:List UInt8} (ov:kn=key.length) (uI:IsBytes H KA kc key) (qJ:key.length≤1048576) (w:World) (hH:Holds w H) :
  Calls Tryz.prog 19 #[.agg (zA p a u b),.slice EA en ec,.slice PA pn pc,.slice KA kn kc] w (MacOut w H p u ext pay key):=by
 have hB:=(Blk.new w 28 (zA p a u b)).alloc (.cells yT 36);have hR:=Blk.new (w.alloc (.cells (zA p a u b) 28)) 36 yT
 simp only[zr]at hR
 obtain⟨hG,UA,HP,HU,HT,HX⟩:=jgl;have HY:=Hh (And.intro mq hpay);have HK:=Hh (And.intro ov (And.intro uI qJ));have V:=Hh (uU hTab hp hu _ hG.holds);clear hp hu hTab hH T9 hext wY mq hpay ov uI qJ;obtain⟨c0,c1,c2,c3,c4,c5,c6,c7⟩:=je7;go_enter Tryz.func19,Tryz.ntmps19
 go_wp2_with fail
 refine V.out.mono ?_
 rintro e w2 ⟨rfl,zG⟩
 replace hB:=hB.below zG;replace hR:=hR.below zG;replace hG:=hG.below_ zG;clear V zG c0 c1 c2 c3 c4 c5 c6 c7
 cases hv:zL p u with
 | false =>
  have E:=Hh (show qy p u ext pay key=1 by rw[qy,if_pos hv]);clear hv hB;exact jaP
 | true =>
 have HV:=Hh hv;clear hv;have AL:=Hh (kJ HT.out HP.out HU.out _ hG.holds);obtain⟨c0,c1,c2,c3,c4,c5,c6,c7⟩:=je7;obtain⟨g,hg⟩:∃ g,sR p u=g:=⟨_,rfl⟩
 rw[hg]at AL;have HG:=Hh hg;clear hg;go_wp2_with fail
 refine AL.out.mono ?_
 rintro e w3 ⟨rfl,xj⟩
 replace hB:=hB.below xj;replace hR:=hR.below xj;replace hG:=hG.below_ xj;clear AL xj c0 c1 c2 c3 c4 c5 c6 c7;go_upto_block 0 with fail
 go_cut [10] (fun s10 wx=>s10=.int .i64 ((ju g:Nat):Int)∧wx=w3)
 case first =>
  clear hB hR hG
  by_cases h4:g=4
  ·subst h4;go_wp2_with fail
   go_meet
   exact jbb
  have k4:(g==4)=false:=by simpa using h4
  have t4:=eq_false h4
  by_cases h5:g=5
  ·subst h5;go_wp2_with fail
   go_meet
   exact jbb
  have k5:(g==5)=false:=by simpa using h5
  have t5:=eq_false h5;have e0:=Hh (show ju g=0 by rw[ju,if_neg h4,if_neg h5]);clear h4 h5;go_wp2_with fail
  go_meet
  exact⟨by rw[e0.out];rfl,rfl⟩
 case rest =>
 obtain⟨rfl,rfl⟩:=hcut;have pI:=L4 g;obtain⟨n,hn⟩:∃ n,ju g=n:=⟨_,rfl⟩
 rw[hn]at pI⊢;have HN:Hid (ju (sR p u)=n):=by rw[Hid,HG.out,hn]
 clear hn HG;have El:=Hh pI
 by_cases h0:n=0
 ·subst h0;have E:=Hh (show qy p u ext pay key=12 by rw[qy,if_neg (by rw[HV.out];simp),if_pos (.inl HN.out)]);clear hB pI;exact jaP
 have n0:((n:Int)==0)=false:=by rw[beq_eq_false_iff_ne];omega
 have n1:((n:Int)=0)=False:=eq_false (by omega);have N0:=Hh h0;clear h0 pI
 by_cases kC:kn=0
 ·subst kC;have E:=Hh (show qy p u ext pay key=12 by rw[qy,if_neg (by rw[HV.out];simp),if_pos (.inr HK.out.1.symm)]);clear hB;exact jaP
 have m0:((kn:Int)==0)=false:=by rw[beq_eq_false_iff_ne];omega
 have m1:((kn:Int)=0)=False:=eq_false (by omega);have HK0:=Hh kC;clear kC
 by_cases hbig:4096<pn
 ·have p0:(4096:Int)<(pn:Int):=by omega
  have E:=Hh (show qy p u ext pay key=8 by rw[qy,if_neg (by rw[HV.out];simp),if_neg (by rw[HN.out,← HK.out.1];have:=N0.out;have:=HK0.out;omega),if_pos (by rw[← HY.out.1];exact hbig)]);clear hB hbig;exact jaP
 have p0:¬ (4096:Int)<(pn:Int):=by omega
 have ME:=Hh (show qy p u ext pay key=xy nK p u ext [pay] from dt HV.out (by rw[HN.out];exact N0.out) (by rw[← HK.out.1];exact HK0.out) (by rw[← HY.out.1];exact hbig));have fh:Hid (pay.length≤4096):=by rw[Hid,← HY.out.1];omega
 clear hbig;obtain⟨c0,c1,c2,c3,c4,c5,c6,c7⟩:=je7
 obtain⟨H2,GY,mi,EJ⟩:=iM (Grows.refl hG.holds) 23 [.slice PA pn pc] [pay] (by simp) (fun j hj=>by
  have:j=0:=by simpa using hj
  subst this
  exact⟨PA,pc,by rw[HY.out.1];rfl,HY.out.2.mono hG.le⟩)
 have LN:=GY.none UA hR.lt;have yE:=hG.trans GY;replace hB:=hB.alloc (.cells [Value.slice PA pn pc].toArray 23);replace hR:=hR.alloc (.cells [Value.slice PA pn pc].toArray 23);have IN:=Hh (sB (HT.out.mono yE.le) (HP.out.mono yE.le) (HU.out.mono yE.le) ⟨#[77,65,67,48]⟩ (by show(4:Nat)≤_;omega) (HX.out.2.1.mono yE.le) HX.out.2.2 EJ (by simp) (fun l hl=>by simp at hl;subst hl;have:=fh.out;omega) _ yE.holds);rw[← HX.out.1]at IN;clear hG mi EJ GY;go_wp2_with fail
 refine IN.out.mono ?_
 rintro e w5 ⟨r5,l5,rfl,wR,rH⟩
 have Wi:([77,65,67,48]:List UInt8)=nK:=rfl
 try simp only[]at rH
 rw[Wi]at rH⊢;clear Wi IN;obtain⟨B5,d5,rfl,_⟩:=wR.own.form;replace hB:=hB.below wR.2;have M9:=hR.lt;replace hR:=hR.below wR.2;clear c0 c1 c2 c3 c4 c5 c6 c7;obtain⟨E5,QL⟩:∃ E,xy nK p u ext [pay]=E:=⟨_,rfl⟩
 rw[QL]at rH⊢;have Eg:Hid (qy p u ext pay key=E5):=by rw[Hid,ME.out,QL]
 have U6:Hid (xy nK p u ext [pay]=E5):=QL;clear ME QL
 by_cases hE0:E5=0
 case neg =>
  have e0:(E5 != 0)=true:=by rw[bne_iff_ne];exact hE0
  have e1:=eq_false hE0;have Ly:=yE.below_ wR.2;have hG:Grows w H w5 H:=⟨Ly.below,Snap.le.refl _,Ly.holds.mono yE.le,fun _ _ h=>.inl h⟩
  have DB:=Hh hE0;clear hB wR rH yE Ly hE0;go_wp2_with (with_reducible refine zx ?_)
  refine zv rfl _ _ _ rfl rfl _ _ rfl rfl _ _ hR wZ rfl (uX) fun wz hRz yS=>?_
  have rt:=hG.grownOwn UA (by omega) yS;clear hR yS;go_wp2_with fail
  refine zp rfl rfl hRz rfl rfl wZ rfl ?_
  exact MacOut.bad Eg.out DB.out rt rfl
 case pos =>
 subst hE0;rw[if_pos rfl]at rH;obtain⟨H5,wb,dF,ZH⟩:=Fresh.snapB yE.holds wR;have dK:=Hh (And.intro rH ZH);have PK:=wb.none LN M9;have hG:=yE.trans wb;have J7:=Hh dF;clear wR rH ZH yE wb dF LN M9;have vv:=yY HV.out;have QH:=Hh vv;clear vv;have HLB:Hid (l5.length≤1099511000):=by rw[Hid,dK.out.1];have:=nT U6.out;omega
 obtain⟨c0,c1,c2,c3,c4,c5,c6,c7⟩:=je7;go_wp2_with fail
 refine(ll (HT.out.mono hG.le) QH.out.1 QH.out.2.1 QH.out.2.2.1 QH.out.2.2.2 (HP.out.mono hG.le) (HU.out.mono hG.le) _ hG.holds).mono ?_
 rintro e w6 ⟨v6,rfl,xa,xb,H6,rfl,xq,hI6,hJ6⟩
 have PN:=xq.none PK hR.lt;replace hR:=hR.below xq.below;replace hG:=hG.trans xq;have Ln:=Hh (And.intro hI6 hJ6);replace J7:=Hh (J7.out.mono xq.le);clear hB hI6 hJ6 PK xq c0 c1 c2 c3 c4 c5 c6 c7;go_wp2_with fail
 refine(tt _ PA pay pn pc HY.out.1 (by have:=fh.out;omega) (Src.of_row (HY.out.2.mono hG.le).row hG.holds)).mono ?_
 rintro e w7 ⟨r7,rfl,TC⟩
 obtain⟨B7,d7,rfl,Ys⟩:=TC.own.form;clear Ys;obtain⟨H7,wJ,FV,pm⟩:=Fresh.snapB hG.holds TC;have LP:=wJ.none PN hR.lt;replace hR:=hR.below wJ.below;replace hG:=hG.trans wJ;replace Ln:=Hh (And.intro (Ln.out.1.mono wJ.le) (Ln.out.2.mono wJ.le));replace J7:=Hh (J7.out.mono wJ.le);have HK7:=Hh FV;clear TC FV pm PN wJ;obtain⟨n7,pm⟩:∃ n,pay.length=n:=⟨_,rfl⟩
 have HN7:=Hh pm;rw[pm];clear pm;go_wp2_with fail
 refine(NK HK.out.1 (by have:=HK.out.2.2;omega) (c:=kc) (b:=l5) rfl HLB.out (d:=d5) _ (Src.of_row (HK.out.2.1.mono hG.le).row hG.holds) (Src.of_row J7.out.row hG.holds)).mono ?_
 rintro e w8 ⟨r8,rfl,ZP⟩
 obtain⟨B8,d8,rfl,Ys⟩:=ZP.own.form;clear Ys;obtain⟨H8,xJ,Mh,Ii⟩:=Fresh.snapB hG.holds ZP;have zAK:=xJ.none LP hR.lt;replace hR:=hR.below xJ.below;replace hG:=hG.trans xJ;have hnd:(n:Int)≤(d8:Int):=by have:=iE key l5;have:=El.out;have:=Mh.le;omega
 have sV:(0:Int)≤(n:Int):=by omega
 have HK8:=Hh Mh;have Ig:=iE key l5;rw[Ig];have HI8:=Hh (And.intro (Ln.out.1.mono xJ.le) (And.intro (Ln.out.2.mono xJ.le) (HK7.out.mono xJ.le)));have Ef:=Hh Ig;clear ZP Mh Ii LP xJ Ig;go_wp2_with (with_reducible refine zx ?_)
 refine zv rfl _ _ _ rfl rfl _ _ rfl rfl _ _ hR wZ rfl (OO p u xa xb _ _ _ _ _ _) fun w9 Wa xR=>?_
 have rt:=hG.grownOwn zAK (by omega) xR;clear hG hR xR;go_wp2_with fail
 refine zp rfl rfl Wa rfl rfl wZ rfl ?_
 exact MacOut.good Eg.out rt HI8.out.1 HI8.out.2.1 HN7.out.symm HI8.out.2.2 HN.out dK.out.1 (by have:=Ef.out;have:=El.out;omega) HK8.out rfl
theorem dU {H:Snap}(hTab:Tabs H) {v:Ev}{a:EvAd}(hv:EvA H v a)
  {EA:Option Addr} {en ec:Nat} {ext:List UInt8} (T9:en=ext.length) (hext:IsBytes H EA ec ext) (wY:ext.length≤1048576)
  {KA:Option Addr} {kn kc:Nat} {key:List UInt8} (ov:kn=key.length) (uI:IsBytes H KA kc key) (qJ:key.length≤1048576) (w:World) (hH:Holds w H) :
  Calls Tryz.prog 23 #[.agg (evQ v a),.slice EA en ec,.slice KA kn kc] w fun e w'=>e=.returned (.int .i64 (mO v ext key))∧Below w.heap.size w w':=by
 obtain⟨hB,hG⟩:=jfO;have M:=Hh (jG hTab hv.p hv.u T9 hext wY (pc:=a.bc) rfl hv.body ov uI qJ _ hG.holds);have HV:=Hh hv;obtain⟨bn,mh⟩:∃ n,v.body.length=n:=⟨_,rfl⟩
 obtain⟨tn,pI⟩:∃ n,v.tag.length=n:=⟨_,rfl⟩
 have HN:=Hh (And.intro mh pI);have E1:Hid (∀ m,qy v.p v.u ext v.body key=m→m≠0→mO v ext key=m):=fun m h h0=>by rw[mO,if_neg (by omega)];exact h
 have E2:Hid (qy v.p v.u ext v.body key=0→mO v ext key=if v.tag=(nA v.p v.u ext v.body key).tag then 0 else 11):=fun h=>by rw[mO,if_pos h,nA,if_pos h]
 have EQ0:evQ v a=evC v.p a.a v.u a.b a.ba bn a.bc a.ta tn a.tc:=by rw[← mh,← pI]
 rw[EQ0]at M hB hG⊢;rw[mh]at M;clear EQ0;clear hTab hv T9 hext wY ov uI qJ hH mh pI;obtain⟨c0,c1,c2,c3,c4,c5,c6,c7⟩:=je7;have c8:=hB.cell 8 rfl;have c9:=hB.cell 9 rfl;go_enter Tryz.func23,Tryz.ntmps23
 go_wp2_with fail
 refine M.out.mono ?_
 rintro e w2 ⟨a2,H2,rfl,yE,ru⟩
 replace hB:=hB.below yE.below;have ye:=hG.trans yE;have WU:=Hh ru;obtain⟨m,hm⟩:∃ m,qy v.p v.u ext v.body key=m:=⟨_,rfl⟩
 rw[hm]at E2⊢;have E1':=Hh (E1.out m hm);obtain⟨V,hV⟩:∃ V,nA v.p v.u ext v.body key=V:=⟨_,rfl⟩
 rw[hV]at WU E2⊢;obtain⟨yn,Fj⟩:∃ n,V.body.length=n:=⟨_,rfl⟩
 obtain⟨zn,gM⟩:∃ n,V.tag.length=n:=⟨_,rfl⟩
 have hL:evQ V a2=evC V.p a2.a V.u a2.b a2.ba yn a2.bc a2.ta zn a2.tc:=by rw[← Fj,← gM]
 rw[hL];have HZ:=Hh gM;clear M hG yE ru hm hV hL Fj gM E1 c0 c1 c2 c3 c4 c5 c6 c7 c8 c9;have hD:=Blk.new w2 36 (evC V.p a2.a V.u a2.b a2.ba yn a2.bc a2.ta zn a2.tc);replace hB:=hB.alloc (.cells (evC V.p a2.a V.u a2.b a2.ba yn a2.bc a2.ta zn a2.tc) 36);have yF:=ye.alloc (.cells (evC V.p a2.a V.u a2.b a2.ba yn a2.bc a2.ta zn a2.tc) 36);have sP:=yF.below
 by_cases h0:m=0
 case neg =>
  have E:=Hh (E1'.out h0);have e0:(m != 0)=true:=by rw[bne_iff_ne];exact h0
  have e1:=eq_false h0;clear hB hD ye yF h0;exact jbD
 case pos =>
 subst h0;have E:=Hh (E2.out rfl);have s1:=Hh (Src.of_row (HV.out.tag.mono yF.le).row yF.holds);have s2:=Hh (Src.of_row WU.out.tag.row yF.holds);have b9:=hB.cell 9 rfl;have d9:=hD.cell 9 rfl;have EQ:=Hh (pK (w2.alloc (.cells (evC V.p a2.a V.u a2.b a2.ba yn a2.bc a2.ta zn a2.tc) 36)) a.ta a2.ta v.tag V.tag tn zn a.tc a2.tc HN.out.2.symm HZ.out.symm s1.out s2.out);clear hB hD ye yF E1' E2;go_wp2_with fail
 refine EQ.out.mono ?_
 rintro e w3 ⟨rfl,rfl⟩
 by_cases hq:v.tag=V.tag
 ·rw[if_pos hq]at E;have q1:(v.tag==V.tag)=true:=by rw[beq_iff_eq];exact hq
  rw[q1];clear hq q1 EQ b9 d9;exact jbD
 rw[if_neg hq]at E;have q1:(v.tag==V.tag)=false:=by rw[beq_eq_false_iff_ne];exact hq
 rw[q1];clear hq q1 EQ b9 d9;exact jbD
def Fv (b:List UInt8):Except Nat (List UInt8×Nat) :=
 match qY b with
 | .err e=>.error e
 | .ok x k _=>if x.kind≠2∨x.bytes.length<1∨64<x.bytes.length then .error 4 else .ok (x.bytes,k)
def d4 (m:Int) (su:List Int) (gx cn:List UInt8) (b:List UInt8):Except Nat First :=
 match Fy b with
 | .error e=>.error e
 | .ok ext=>.ok ⟨m,su,gx,cn,ext⟩
def d3 (m:Int) (su:List Int) (gx:List UInt8) (b:List UInt8):Except Nat First :=
 match Ri b with
 | .error e=>.error e
 | .ok (c,k4)=>d4 m su gx c (b.drop k4)
def d2 (m:Int) (su:List Int) (b:List UInt8):Except Nat First :=
 match Fv b with
 | .error e=>.error e
 | .ok (gx,k3)=>d3 m su gx (b.drop k3)
def d1 (m:Int) (b:List UInt8):Except Nat First :=
 match qY b with
 | .err e=>.error e
 | .ok y k2 _=>match L0 y with
  | .error e=>.error e
  | .ok l=>d2 m l (b.drop k2)
theorem Qm (v:Int):∃ x:UInt8,Value.int .u8 (IntKind.u8.wrap v)=zm x:=by
 refine⟨UInt8.ofNat (v%256).toNat, ?_⟩
 have h:(v%256).toNat<256:=by omega
 rw[IntKind.wrap_u8,zm,UInt8.toNat_ofNat_of_lt' (by simpa using h)];congr 1
 omega
theorem Mz (v:Int):∃ x:UInt8,Value.int .u8 (v%256)=zm x:=by
 obtain⟨x,hx⟩:=Qm v
 exact⟨x,by rw[← hx,IntKind.wrap_u8]⟩
theorem Tf (q:Int) {n:Nat}(hn:n≤128) (w:World) :
  Calls Tryz.prog 9 #[.int .i64 q,.int .i64 (n:Int)] w fun e w'=>∃ A c l,e=.returned (.slice A n c)∧l.length=n∧Fresh w l (.slice A n c) w':=by
 have zB:=Below.refl w.heap.size w;go_enter Tryz.func9,Tryz.ntmps9
 go_wp2_with fail
 go_loopw [5,8] (fun v3 v5 wr=>∃ (k:Nat) (VA:Option Addr) (vc vn:Nat) (l:List UInt8),k≤n∧v5=.int .i64 (k:Int)∧v3=.slice VA vn vc∧vn=k∧l.length=k∧OwnB wr w.heap.size (.slice VA vn vc) l∧Below w.heap.size w wr) (fun _ v5 _=>n-(intOf v5).toNat)
 case atStart=>exact⟨0,none,0,0,[],by omega,rfl,rfl,rfl,rfl,OwnB.nil _ _,zB⟩
 case round =>
 clear zB;obtain⟨k,VA,vc,vn,l,hk,rfl,rfl,cE,JV,ve,xY⟩:=hrel;have HK:=Hh hk;have HV:=Hh (And.intro cE JV);clear hk cE JV
 by_cases yu:k<n
 ·have ZG:(k:Int)<(n:Int):=by omega
  have FW:decide ((k:Int)<(n:Int))=true:=decide_eq_true ZG;have ov:decide (k<n)=true:=decide_eq_true yu;have sU:=Hh yu;go_wp2_with (at_builtin;refine zH ?_)
  unfold zC
  generalize IntKind.u64.wrap q/2 ^ (8*(k%8))+(k:Int)/8=v0
  obtain⟨x,hx⟩:∃ x:UInt8,Value.int .u8 (v0%256)=zm x:=Mz _;have HC:Hid ((#[.int .u8 (v0%256)]:Array Value).toList=[x].map zm):=by simp[Hid,← hx]
  have uQ:=ve.alloc (.cells #[.int .u8 (v0%256)] 5);have zG:=xY.alloc xY.size (.cells #[.int .u8 (v0%256)] 5)
  refine zg rfl (.tmp 11) (.tmp 24) rfl w.heap.size (.slice VA vn vc) l rfl uQ _ 1 _ [x] rfl rfl (Src.new _ _ _ _ rfl _ HC.out) (by have:=HV.out;have:=HK.out;simp;omega) zG.size fun v' w7 vT ww hat7=>?_
  have um:=zG.grown ww zG.size (fun q hq=>(uQ.lt q hq).1);obtain⟨VA',vc',rfl,Ys⟩:=vT.form;clear Ys ww hat7 hx uQ zG ve xY;obtain⟨m,hm⟩:∃ m,l++[x]=m:=⟨_,rfl⟩
  have HM:Hid (m.length=k+1):=by have:=HV.out;rw[Hid,← hm,List.length_append];simp;omega
  rw[hm]at vT⊢;clear hm;go_wp2_with fail
  go_roundw
  case rel=>exact⟨k+1,VA',vc',_,m,by have:=sU.out;omega,by go_num,rfl,HM.out,HM.out,vT,um⟩
  case measure=>have:=sU.out;simp[intOf];omega
 have ZG:¬ ((k:Int)<(n:Int)):=by omega
 have FW:decide ((k:Int)<(n:Int))=false:=decide_eq_false ZG;have ov:decide (k<n)=false:=decide_eq_false yu;obtain rfl:vn=n:=by have:=HV.out;have:=HK.out;omega
 have HL:Hid (l.length=vn):=by have:=HV.out;rw[Hid];omega
 clear yu;go_wp2_with fail
 go_ret
 exact⟨VA,vc,rfl,l,HL.out,ve,xY⟩
def pW (a:UInt8):UInt8:=if a &&& 128=0 then a <<< 1 else(a <<< 1) ^^^ 27
def qI (b:UInt8) (k:Nat):UInt8:=UInt8.ofNat (b.toNat*2 ^ k%256+b.toNat/2 ^ (8-k))
def lG:Nat→UInt8
 | 0=>1
 | n+1=>lG n ^^^ pW (lG n)
def Sr (b:UInt8):UInt8:=b ^^^ 99 ^^^ qI b 1 ^^^ qI b 2 ^^^ qI b 3 ^^^ qI b 4
def kX (n:Nat):List UInt8:=(List.range n).map lG++List.replicate (256-n) 0
def Vy (i:Nat):UInt8:=if i<255 then lG i else 0
def Yx (i:Nat):UInt8:=if i<255 then lG ((255-i)%255) else 0
def sS (i:Nat):List UInt8:=i.rec (List.replicate 512 0) fun i l=>(l.set (Vy i).toNat (Sr (Yx i))).set (256+(Sr (Yx i)).toNat) (Vy i)
def te (n:Nat) (f:Nat→UInt8) (a:List UInt8) (i:Nat):List UInt8:=(List.range n).map fun j=>if j<i then f j else a.getD j 0
theorem tN (n:Nat) (f:Nat→UInt8) (a:List UInt8) (i:Nat):(te n f a i).length=n:=by simp[te]
theorem qT {n:Nat}(f:Nat→UInt8) {a:List UInt8}(h:a.length=n):te n f a 0=a:=by
 apply List.ext_getElem (by simp[te,h])
 intro j h1 h2
 simp[te,List.getD_eq_getElem?_getD,List.getElem?_eq_getElem h2]
theorem lW (n:Nat) (f:Nat→UInt8) (a:List UInt8):te n f a n=(List.range n).map f:=by
 apply List.ext_getElem (by simp[te])
 intro j h1 h2
 have:j<n:=by simpa using h2
 simp[te,this]
theorem qS {n i:Nat}(f:Nat→UInt8) (a:List UInt8) (h:i<n):(te n f a i).set i (f i)=te n f a (i+1):=by
 apply List.ext_getElem (by simp[te])
 intro j h1 h2
 simp only[te,List.getElem_set,List.getElem_map,List.getElem_range]
 by_cases e:i=j
 ·subst e;simp
 rw[if_neg e]
 by_cases e2:j<i
 ·rw[if_pos e2,if_pos (by omega)]
 rw[if_neg e2,if_neg (by omega)]
theorem O9 {n i j:Nat}(f:Nat→UInt8) (a:List UInt8) (h:i≤j) (hj:j<n):(te n f a i).getD j 0=a.getD j 0:=by
 rw[List.getD_eq_getElem?_getD,List.getElem?_eq_getElem (by rw[tN];exact hj),Option.getD_some]
 simp only[te,List.getElem_map,List.getElem_range]
 rw[if_neg (by omega)]
def Sq (a:UInt8) (m:Nat):UInt8:=if m=1 then a else if m=2 then pW a else a ^^^ pW a
def at_ (a:List UInt8) (i:Nat):UInt8:=a.getD i 0
def rs (a k:List UInt8):List UInt8:=(List.range 16).map fun i=>at_ a i ^^^ at_ k i
def mR (S a:List UInt8) (i:Nat):UInt8:=at_ S (at_ a (i%4+4*((i/4+i%4)%4))).toNat
def ua (S a:List UInt8):List UInt8:=(List.range 16).map (mR S a)
def Sp (a:List UInt8) (i k:Nat):UInt8:=Sq (at_ a (4*(i/4)+(i%4+k)%4)) ([2,3,1,1].getD k 0)
def mU (a:List UInt8):List UInt8:=(List.range 16).map fun i=>0 ^^^ Sp a i 0 ^^^ Sp a i 1 ^^^ Sp a i 2 ^^^ Sp a i 3
def rcU:Nat→UInt8
 | 0=>1
 | n+1=>pW (rcU n)
def fE (S:List UInt8) (w:List UInt8) (m:Nat):UInt8 :=
 at_ w (m-16) ^^^ (if m%16<4 then at_ S (at_ w (16*(m/16)-4+(m%16+1)%4)).toNat ^^^ (if m%16=0 then rcU (m/16-1) else 0) else at_ w (m-4))
def vh (S key:List UInt8):Nat→List UInt8
 | 0=>key
 | n+1=>vh S key n++[fE S (vh S key n) (16+n)]
theorem tK (S key:List UInt8) (h:key.length=16) (n:Nat):(vh S key n).length=16+n:=by
 induction n with
 | zero=>simp[vh,h]
 | succ n ih=>simp[vh,ih];omega
theorem jg (S key:List UInt8) (h:key.length=16) {m n j:Nat}(hm:m≤n) (hj:j<16+m):at_ (vh S key n) j=at_ (vh S key m) j:=by
 induction n with
 | zero=>rw[show m=0 by omega]
 | succ n ih =>
 by_cases e:m=n+1
 ·rw[e]
 have hl:=tK S key h n;rw[← ih (by omega),vh,at_,at_,List.getD_eq_getElem?_getD,List.getElem?_append_left (by omega),← List.getD_eq_getElem?_getD]
def gE (S key:List UInt8) (i:Nat):List UInt8:=(List.range 16).map fun k=>at_ (vh S key 160) (16*i+k)
def Oz (S key:List UInt8) (i:Nat) (a:List UInt8):List UInt8:=rs (if i<10 then mU (ua S a) else ua S a) (gE S key i)
def fK (S key b:List UInt8):Nat→List UInt8
 | 0=>rs b (gE S key 0)
 | n+1=>Oz S key (n+1) (fK S key b n)
def jn:List UInt8:=(sS 256).take 256
def iU (key b:List UInt8):List UInt8:=fK jn key b 10
theorem ri (a k:List UInt8):(rs a k).length=16:=by simp[rs]
theorem eU (S key b:List UInt8) (n:Nat):(fK S key b n).length=16:=by cases n <;> simp[fK,Oz,rs]
theorem oP (key b:List UInt8):(iU key b).length=16:=eU _ _ _ _
theorem Jk (f:Nat→UInt8) {n k:Nat}(h:k<n):at_ ((List.range n).map f) k=f k:=by
 exact jcV
theorem aA {l:List UInt8}{k:Nat}(h:k<l.length):at_ l k=l[k]:=by
 exact jcV
def iT:Nat→Nat→List UInt8
 | 0,_=>[]
 | k+1,n=>iT k (n/256)++[UInt8.ofNat (n%256)]
theorem TW (k n:Nat):(iT k n).length=k:=by
 induction k generalizing n with
 | zero=>rfl
 | succ k ih=>simp[iT,ih]
theorem Y3 (k n:Nat):iT (k+1) n=UInt8.ofNat (n/256 ^ k%256)::iT k n:=by
 induction k generalizing n with
 | zero=>simp[iT]
 | succ k ih =>
 rw[iT,ih,iT,List.cons_append,Nat.div_div_eq_div_mul,Nat.pow_succ,Nat.mul_comm 256]
theorem Mu (j k n:Nat) (h:n/256 ^ j=0):iT (j+k) n=List.replicate k 0++iT j n:=by
 induction k with
 | zero=>rfl
 | succ k ih =>
 have e:n/256 ^ (j+k)=0:=by
  rw[Nat.pow_add,← Nat.div_div_eq_div_mul,h,Nat.zero_div]
 rw[show j+(k+1)=(j+k)+1 by omega,Y3,ih,e,List.replicate_succ];rfl
def jq (f:UInt8) (nonce:List UInt8) (n j:Nat):List UInt8:=f::(nonce++(List.replicate (15-nonce.length-j) 0++iT j n))
def oX (f:UInt8) (nonce:List UInt8) (n:Nat):List UInt8:=f::(nonce++iT (15-nonce.length) n)
theorem mC (f:UInt8) {nonce:List UInt8}(h:nonce.length≤13) (n:Nat):(oX f nonce n).length=16:=by
 rw[oX,List.length_cons,List.length_append,TW];omega
theorem ND (f:UInt8) {nonce:List UInt8}{j:Nat}(h:nonce.length+j≤15) (n:Nat):(jq f nonce n j).length=16:=by
 simp only[jq,List.length_cons,List.length_append,TW,List.length_replicate];omega
theorem Qy (f:UInt8) {nonce:List UInt8}{n j:Nat}(h:nonce.length+j=15):jq f nonce n j=oX f nonce n:=by
 rw[jq,oX,show 15-nonce.length-j=0 by omega,show 15-nonce.length=j by omega];rfl
theorem Qx (f:UInt8) {nonce:List UInt8}{n j:Nat}(hj:nonce.length+j≤15) (h:n/256 ^ j=0):jq f nonce n j=oX f nonce n:=by
 rw[jq,oX,← Mu j (15-nonce.length-j) n h,show j+(15-nonce.length-j)=15-nonce.length by omega]
theorem NE (f:UInt8) {nonce:List UInt8}{n j:Nat}(h:nonce.length+j<15):(jq f nonce n j).set (15-j) (UInt8.ofNat (n/256 ^ j%256))=jq f nonce n (j+1):=by
 obtain⟨z,hz⟩:∃ z,15-nonce.length-j=z+1:=⟨15-nonce.length-j-1,by omega⟩
 rw[jq,jq,Y3,hz,show 15-nonce.length-(j+1)=z by omega,show 15-j=(nonce.length+z)+1 by omega,List.set_cons_succ,List.set_append_right _ _ (by omega),List.replicate_succ',List.append_assoc,List.set_append_right _ _ (by simp),show nonce.length+z-nonce.length-(List.replicate z (0:UInt8)).length=0 by simp];rfl
def Yp (key b x:List UInt8):Nat→List UInt8
 | 0=>x
 | j+1=>iU key (rs (Yp key b x j) ((b.drop (16*j)).take 16))
def fI (key x b:List UInt8):List UInt8:=Yp key b x ((b.length+15)/16)
theorem R9 (key b:List UInt8) {x:List UInt8}(h:x.length=16) (j:Nat):(Yp key b x j).length=16:=by
 cases j with
 | zero=>exact h
 | succ j=>exact oP _ _
theorem pw (key b:List UInt8) {x:List UInt8}(h:x.length=16):(fI key x b).length=16:=R9 _ _ h _
def aQ (aad:List UInt8):List UInt8:=UInt8.ofNat (aad.length/256%256)::UInt8.ofNat (aad.length%256)::aad
def nt (nonce aad:List UInt8) (t:Nat):UInt8:=UInt8.ofNat (8*(t/2-1)+14-nonce.length+if aad.length=0 then 0 else 64)
def firstS (nonce:List UInt8):UInt8:=UInt8.ofNat (14-nonce.length)
def aR (key nonce aad plain:List UInt8) (t:Nat):List UInt8 :=
 fI key (if aad.length=0 then fI key (List.replicate 16 0) (oX (nt nonce aad t) nonce plain.length) else fI key (fI key (List.replicate 16 0) (oX (nt nonce aad t) nonce plain.length)) (aQ aad)) plain
theorem ep (key nonce aad plain:List UInt8) (t:Nat):(aR key nonce aad plain t).length=16:=by
 rw[aR]
 refine pw _ _ ?_
 split
 ·exact pw _ _ rfl
 exact pw _ _ (pw _ _ rfl)
def nB (key nonce text:List UInt8) (k:Nat):UInt8:=at_ text k ^^^ at_ (iU key (oX (firstS nonce) nonce (k/16+1))) (k%16)
def kZ (key nonce text:List UInt8):List UInt8:=(List.range text.length).map (nB key nonce text)
def pG (key nonce tag:List UInt8):List UInt8:=rs tag (iU key (oX (firstS nonce) nonce 0))
def oV (key nonce aad plain:List UInt8) (t:Nat):List UInt8:=kZ key nonce plain++(pG key nonce (aR key nonce aad plain t)).take t
def ga (key nonce cipher:List UInt8) (t:Nat):List UInt8:=kZ key nonce (cipher.take (cipher.length-t))
def kS (key nonce aad cipher:List UInt8) (t:Nat):Bool:=(pG key nonce (cipher.drop (cipher.length-t))).take t==(aR key nonce aad (ga key nonce cipher t) t).take t
theorem uA (key nonce text:List UInt8):(kZ key nonce text).length=text.length:=by simp[kZ]
theorem iO (key nonce aad plain:List UInt8) {t:Nat}(ht:t≤16):(oV key nonce aad plain t).length=plain.length+t:=by
 rw[oV,List.length_append,uA,List.length_take,pG,ri];omega
theorem aB (f:Nat→UInt8) {n k:Nat}(h:k<n):at_ ((List.range n).map f) k=f k:=by
 exact jcV
theorem bj {l:List UInt8}{k:Nat}(h:k<l.length):at_ l k=l[k]:=by
 exact jcV
theorem bh (a b:UInt8):a ^^^ b ^^^ b=a:=by rw[UInt8.xor_assoc,UInt8.xor_self,UInt8.xor_zero]
theorem Vj (key nonce text:List UInt8):kZ key nonce (kZ key nonce text)=text:=by
 apply List.ext_getElem (by rw[uA,uA])
 intro k h1 h2
 have h3:at_ (kZ key nonce text) k=nB key nonce text k:=aB _ h2;rw[← bj h1];rw[show at_ (kZ key nonce (kZ key nonce text)) k=nB key nonce (kZ key nonce text) k from aB _ (by rw[uA];exact h2),nB,h3,nB,bh,bj h2]
theorem NY (key nonce tag:List UInt8) (h:tag.length=16) {t:Nat}(ht:t≤16):(pG key nonce ((pG key nonce tag).take t)).take t=tag.take t:=by
 have l1:(pG key nonce tag).length=16:=ri _ _;apply List.ext_getElem (by simp[pG,ri,h])
 intro k h1 h2
 have hk:k<t∧k<16:=by simp[h]at h2;omega
 rw[List.getElem_take,List.getElem_take,← bj,pG,rs,aB _ hk.2,bj (by rw[List.length_take];omega),List.getElem_take,← bj (by omega),pG,rs,aB _ hk.2,bh,bj (by omega)]
theorem ak (key nonce aad plain:List UInt8) {t:Nat}(ht:t≤16):ga key nonce (oV key nonce aad plain t) t=plain:=by
 rw[ga,iO _ _ _ _ ht,Nat.add_sub_cancel,oV,List.take_left' (uA _ _ _),Vj]
theorem VZ (key nonce aad plain:List UInt8) {t:Nat}(ht:t≤16):kS key nonce aad (oV key nonce aad plain t) t=true:=by
 rw[kS,ak _ _ _ _ ht,iO _ _ _ _ ht,Nat.add_sub_cancel,oV,List.drop_left' (uA _ _ _),NY _ _ _ (ep _ _ _ _ _) ht]
 simp
theorem bK (a:UInt8):BitVec.ofInt 8 (a.toNat:Int)=a.toBitVec:=by
 rw[BitVec.ofInt_natCast]
 exact BitVec.eq_of_toNat_eq (by rw[BitVec.toNat_ofNat];exact Nat.mod_eq_of_lt a.toNat_lt)
theorem OE (b:BitVec 8):IntKind.u8.wrap (b.toNat:Int)=(b.toNat:Int):=by
 have:=b.isLt;rw[IntKind.wrap_u8]
 omega
theorem wE (a b:UInt8):bits .xor .u8 (a.toNat:Int) (b.toNat:Int)=((a ^^^ b).toNat:Int):=by
 show IntKind.u8.wrap ((BitVec.ofInt 8 (a.toNat:Int) ^^^ BitVec.ofInt 8 (b.toNat:Int)).toNat:Int)=_
 rw[bK,bK,OE];rfl
theorem OI {p:UInt8→Prop}(h:∀ n,n<256→p (UInt8.ofNat n)) (a:UInt8):p a:=by
 have:=h a.toNat a.toNat_lt;rwa [UInt8.ofNat_toNat]at this
theorem Jp:∀ n:Nat,n<256→(bits .and .u8 ((UInt8.ofNat n).toNat:Int) 128=0↔(UInt8.ofNat n) &&& 128=0)∧IntKind.u8.wrap (((UInt8.ofNat n).toNat:Int)*2)=(((UInt8.ofNat n) <<< 1).toNat:Int)∧bits .xor .u8 (((UInt8.ofNat n) <<< 1).toNat:Int) 27=((((UInt8.ofNat n) <<< 1) ^^^ 27).toNat:Int)∧((UInt8.ofNat n).toNat/128=1↔¬ (UInt8.ofNat n) &&& 128=0)∧pW (UInt8.ofNat n) ^^^ UInt8.ofNat n=UInt8.ofNat n ^^^ pW (UInt8.ofNat n):=by
 decide +kernel
theorem ar (a:UInt8):(bits .and .u8 (a.toNat:Int) 128=0↔a &&& 128=0)∧IntKind.u8.wrap ((a.toNat:Int)*2)=((a <<< 1).toNat:Int)∧bits .xor .u8 ((a <<< 1).toNat:Int) 27=(((a <<< 1) ^^^ 27).toNat:Int)∧(a.toNat/128=1↔¬ a &&& 128=0)∧pW a ^^^ a=a ^^^ pW a :=
 OI (p:=fun a=>(bits .and .u8 (a.toNat:Int) 128=0↔a &&& 128=0)∧IntKind.u8.wrap ((a.toNat:Int)*2)=((a <<< 1).toNat:Int)∧bits .xor .u8 ((a <<< 1).toNat:Int) 27=(((a <<< 1) ^^^ 27).toNat:Int)∧(a.toNat/128=1↔¬ a &&& 128=0)∧pW a ^^^ a=a ^^^ pW a) Jp a
theorem Ki:∀ n:Nat,n<256→∀ k:Nat,k<5→bits .or .u8 (IntKind.u8.wrap (((UInt8.ofNat n).toNat:Int)*2 ^ k)) (((UInt8.ofNat n).toNat:Int)/2 ^ (8-k))=((qI (UInt8.ofNat n) k).toNat:Int):=by
 decide +kernel
theorem Rw (a:UInt8) {k:Nat}(h:k<5):bits .or .u8 (IntKind.u8.wrap ((a.toNat:Int)*2 ^ k)) ((a.toNat:Int)/2 ^ (8-k))=((qI a k).toNat:Int) :=
 OI (p:=fun a=>∀ k,k<5→bits .or .u8 (IntKind.u8.wrap ((a.toNat:Int)*2 ^ k)) ((a.toNat:Int)/2 ^ (8-k))=((qI a k).toNat:Int)) Ki a k h
theorem kG (a:UInt8) (w:World) :
  Calls Tryz.prog 123 #[zm a] w fun e w'=>e=.returned (zm (pW a))∧w=w':=by
 obtain⟨h1,h2,h3,_⟩:=ar a
 by_cases h:a &&& 128=0
 ·have e0:bits .and .u8 (a.toNat:Int) 128=0:=h1.2 h;have E:Hid (zm (pW a)=.int .u8 (IntKind.u8.wrap ((a.toNat:Int)*2))):=by rw[Hid,pW,if_pos h,h2]
  clear h1 h2 h3 h;go_enter Tryz.func123,Tryz.ntmps123
  exact jaT
 have e0:¬ bits .and .u8 (a.toNat:Int) 128=0:=fun e=>h (h1.1 e)
 have e1:(bits .and .u8 (a.toNat:Int) 128 != 0)=true:=by rw[bne_iff_ne];exact e0
 have e2:(bits .and .u8 (a.toNat:Int) 128=0)=False:=eq_false e0;have E:Hid (zm (pW a)=.int .u8 (bits .xor .u8 (IntKind.u8.wrap ((a.toNat:Int)*2)) 27)):=by rw[Hid,pW,if_neg h,h2,h3]
 clear h1 h2 h3 h e0;go_enter Tryz.func123,Tryz.ntmps123
 exact jaT
theorem X9 (a:UInt8) (m:Nat) (hm:m=1∨m=2∨m=3) (w:World) :
  Calls Tryz.prog 191 #[zm a,.int .u8 (m:Int)] w fun e w'=>e=.returned (zm (Sq a m))∧w=w':=by
 obtain⟨_,_,_,_,hc⟩:=ar a;have D:=Hh (fun b w=>kG b w);have z0:bits .and .u8 (1:Int) 1=1:=by kernel_rfl
 have z1:bits .and .u8 (2:Int) 1=0:=by kernel_rfl
 have z2:bits .and .u8 (3:Int) 1=1:=by kernel_rfl
 have x0:bits .xor .u8 0 (a.toNat:Int)=(a.toNat:Int):=by have:=wE 0 a;rwa [UInt8.zero_xor]at this
 have x1:bits .xor .u8 0 ((pW a).toNat:Int)=((pW a).toNat:Int):=by have:=wE 0 (pW a);rwa [UInt8.zero_xor]at this
 have x2:=wE a (pW a)
 rcases hm with rfl | rfl | rfl
 ·go_enter Tryz.func191,Tryz.ntmps191
  go_wp2_with fail
  refine wp_loop_rounds 2 ?_
  exact je0
 ·exact jem
 exact jem
theorem Qi (b:UInt8) (k:Nat) (hk:k=1∨k=2∨k=3∨k=4) (w:World) :
  Calls Tryz.prog 124 #[zm b,.int .i64 (k:Int)] w fun e w'=>e=.returned (zm (qI b k))∧w=w':=by
 have R:=Rw b (show k<5 by omega);have E:Hid (zm (qI b k)=.int .u8 (bits .or .u8 (IntKind.u8.wrap ((b.toNat:Int)*2 ^ k)) ((b.toNat:Int)/2 ^ (8-k)))):=by rw[Hid,R]
 clear R
 rcases hk with rfl | rfl | rfl | rfl
 ·have e1:bits .and .u64 1 7=1:=by kernel_rfl
  have e2:IntKind.u64.wrap (8-1)=7:=by kernel_rfl
  rw[show((1:Nat):Int)=1 from rfl];exact jeG
 ·have e1:bits .and .u64 2 7=2:=by kernel_rfl
  have e2:IntKind.u64.wrap (8-2)=6:=by kernel_rfl
  rw[show((2:Nat):Int)=2 from rfl];exact jeG
 ·have e1:bits .and .u64 3 7=3:=by kernel_rfl
  have e2:IntKind.u64.wrap (8-3)=5:=by kernel_rfl
  rw[show((3:Nat):Int)=3 from rfl];exact jeG
 have e1:bits .and .u64 4 7=4:=by kernel_rfl
 have e2:IntKind.u64.wrap (8-4)=4:=by kernel_rfl
 rw[show((4:Nat):Int)=4 from rfl];exact jeG
def zf (l:List UInt8):Array Value:=(l.map zm).toArray
theorem zX (l:List UInt8):(zf l).size=l.length:=by simp[zf]
theorem xf (l:List UInt8) (i:Nat) (h:i<l.length):(zf l)[i]? = some (zm (at_ l i)):=by
 simp[zf,at_,List.getD_eq_getElem?_getD,h]
theorem ut (l:List UInt8) (i:Nat) (u:UInt8):(zf l).setIfInBounds i (zm u)=zf (l.set i u):=by
 simp[zf,List.map_set]
theorem xI (l:List UInt8):(zf l).all (·.oneCell')=true:=by simp[zf,Value.oneCell']
theorem wD:(Tryz.prog.info? 5).map (·.size)=some 1:=by kernel_rfl
theorem tE {P:Program}{ops:Array Oper}{Q:Exit→Act→World→Prop}{rest:List Oper}{a:Act}{w:World}{dst:Option Tmp}{x:Operand}{T:TypeId}{pos:String}{af:Array Edge}{g:Option (Nat×Bool)}(ty:TypeId)
  (h:zC (wpList P ops Q (⟨dst,.load ty x,T,pos,af,g⟩::rest) a w)):wpList P ops Q (⟨dst,.load ty x,T,pos,af,g⟩::rest) a w:=h
def lI (l:List UInt8) (off n:Nat):List UInt8:=(l.drop off).take n
theorem em {l:List UInt8}{off n:Nat}(h:off+n≤l.length):(lI l off n).length=n:=by
 rw[lI,List.length_take,List.length_drop];omega
theorem uu {l:List UInt8}{n:Nat}(h:l.length=n):lI l 0 n=l:=by rw[lI,List.drop_zero,← h,List.take_length]
theorem Kx {l:List UInt8}{off n k:Nat}(hk:k<n):at_ (lI l off n) k=at_ l (off+k):=by
 simp only[at_,lI,List.getD_eq_getElem?_getD,List.getElem?_take,if_pos hk,List.getElem?_drop]
theorem nd {w:World}{g:Nat}{t:TypeId}{l:List UInt8}(hB:Blk w g t (zf l)) (off n:Nat):w.rangeAt g off ((lI l off n).map zm):=by
 intro j v hj
 refine hB.cell _ ?_
 rw[List.getElem?_map,lI,List.getElem?_take]at hj
 split at hj
 ·rw[List.getElem?_drop]at hj
  simp only[zf,List.getElem?_toArray,List.getElem?_map]
  exact hj
 cases hj
theorem yM {w:World}{ops:Array Oper}{rest:List Oper}{o:Oper}{a:Act}{Q:Exit→Act→World→Prop}(hgd:o.guard=none) (ty:TypeId) (x:Operand) (ho:o.op=.load ty x)
  (g off n:Nat) (hx:a.eval x=.pointer (some ⟨g,off,none⟩)) {t:TypeId} {l:List UInt8} (hB:Blk w g t (zf l)) (hn:off+n≤l.length) (d:TypeDesc)
  (hu:Tryz.prog.underlying ty=some d) (hd:d.isRow=true) (hi:(Tryz.prog.info? ty).map (·.size)=some n)
  (h:wpList Tryz.prog ops Q rest (a.put o.dst (.agg (zf (lI l off n)))) w):wpList Tryz.prog ops Q (o::rest) a w :=
 wpList_load_mid hgd ty x ho g off hx ((lI l off n).map zm) d (nd hB off n) hu hd (by rw[List.length_map,em hn];exact hi) h
theorem bU:∀ (vs l:List UInt8) (off:Nat),lH (zf l) off (vs.map zm)=zf (l.take off++vs++l.drop (off+vs.length))∨l.length<off+vs.length
 | [],l,off=>by
  left
  rw[List.map_nil,lH,List.append_nil,List.length_nil,Nat.add_zero,List.take_append_drop]
 | v::vs,l,off=>by
  by_cases h:l.length<off+(v::vs).length
  ·exact .inr h
  left
  rw[List.length_cons]at h;rw[List.map_cons,lH,ut]
  rcases bU vs (l.set off v) (off+1) with e | e
  ·rw[e];congr 1
   rw[List.drop_set_of_lt (by omega),List.length_cons,show off+1+vs.length=off+(vs.length+1) by omega,List.take_set,List.take_add_one,List.getElem?_eq_getElem (by omega),List.set_append_right _ _ (by rw[List.length_take];omega)];rw[List.length_take,Nat.min_eq_left (by omega),Nat.sub_self]
   simp
  rw[List.length_set]at e;omega
def spl (l:List UInt8) (off:Nat) (vs:List UInt8):List UInt8:=l.take off++vs++l.drop (off+vs.length)
theorem rz {w:World}{ops:Array Oper}{rest:List Oper}{o:Oper}{a:Act}{Q:Exit→Act→World→Prop}(hgd:o.guard=none) (ty:TypeId) (x y:Operand) (ho:o.op=.store ty x y)
  (hd:o.dst=none) (g off:Nat) (vs:List UInt8) (hx:a.eval x=.pointer (some ⟨g,off,none⟩)) (hy:a.eval y=.agg (zf vs))
  {t:TypeId} {l:List UInt8} (hB:Blk w g t (zf l)) (hi:(Tryz.prog.info? ty).map (·.size)=some vs.length) (hold:off+vs.length≤l.length)
  (h:∀ w',Blk w' g t (zf (spl l off vs))→w.grownBy w' (some g)→wpList Tryz.prog ops Q rest a w') :
  wpList Tryz.prog ops Q (o::rest) a w:=by
 refine xT hgd ty x y ho hd g off (zf vs) hx hy t _ hB (by rw[zX];exact hi) (by rw[zX,zX];exact hold) (xI _) fun w' h2 h3=>h w' ?_ h3
 rcases bU vs l off with e | e
 ·rw[show(zf vs).toList=vs.map zm by simp[zf],e]at h2
  exact h2
 omega
theorem Tt {l vs:List UInt8}(h:vs.length=l.length):spl l 0 vs=vs:=by
 rw[spl,List.take_zero,List.nil_append,Nat.zero_add,h,List.drop_length,List.append_nil]
theorem Kt {l vs:List UInt8}{off:Nat}(h:off+vs.length≤l.length):(spl l off vs).length=l.length:=by
 simp only[spl,List.length_append,List.length_take,List.length_drop];omega
end Go.Proofs.YtliomcphdnppnaaGreatDoor
