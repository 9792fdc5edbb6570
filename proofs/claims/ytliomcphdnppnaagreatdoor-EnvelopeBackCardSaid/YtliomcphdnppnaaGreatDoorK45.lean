/- squeezed. Walks: the tag, not yet masked, by -/
import Derived.Test.YtliomcphdnppnaaGreatDoorK44
set_option linter.unusedVariables false
set_option linter.unusedSimpArgs false
set_option maxRecDepth 100000
set_option maxHeartbeats 25600000
namespace Go.Proofs.YtliomcphdnppnaaGreatDoor
open Go.RowKit
theorem ja1{P:Prop}(h:P:=by
 go_wp2_with fail
 refine V.out.mono ?_
 rintro e w1 ⟨rfl,rfl⟩
 go_wp2_with fail
 go_ret2
 exact N1.out):P:=h
theorem jcI{P:Prop}(h:P:=by
 simp only[vw,Bool.and_eq_true,decide_eq_true_eq]at hv
 exact⟨hv.1.1.1.1.1,hv.1.1.1.1.2,hv.1.1.1.2,hv.1.1.2⟩):P:=h
theorem jdw{P:Prop}(h:P:=by
 rintro r rfl h
 exact⟨_,rfl,by rw[h];exact OwnB.nil _ _,Below.refl _ _⟩):P:=h
theorem jej{P:Prop}(h:P:=by
 have E:Hid (vw kn nn t=false):=by rw[Hid,vw];simp;omega
 clear hr JG;go_enter Tryz.func54,Tryz.ntmps54
 exact jaT):P:=h
theorem jes{P:Prop}(h:P:=by
 go_enter Tryz.func54,Tryz.ntmps54
 exact jaT):P:=h
theorem jeP{P:Prop}(h:P:=by
 go_enter Tryz.func21,Tryz.ntmps21
 exact ja1):P:=h
theorem jfD{P:Prop}(h:P:=by have gj:=(hO.below (Below.refl _ _).drew).kept xR (by cases hv:Value.ownBlock (.slice A tn c) with | none=>exact .inl rfl | some q=>exact .inr (fun e=>by injection e with e;have:=(HM.out.2 q hv).2;omega));exact gj):P:=h
theorem jfT{P:Prop}(h:P:=by have Er:=DS.grown ws (by intro e;injection e with e;have:=HM.out.1;omega);have Lv:=DU.grown ws (by intro e;injection e with e;have:=HM.out.1;omega);have b6:=b5.grown ws b5.size (by rintro q ⟨⟩;have:=HM.out.1;omega);exact And.intro Er (And.intro Lv b6)):P:=h
theorem jfV{P:Prop}(h:P:=by have wg:=pU.alloc (.cells (zf (List.replicate 16 0)) 85);have DS:=Ep.alloc (.cells (zf (List.replicate 16 0)) 85);have DU:=IK.alloc (.cells (zf (List.replicate 16 0)) 85);have b5:=b4.alloc b4.size (.cells (zf (List.replicate 16 0)) 85);exact And.intro wg (And.intro DS (And.intro DU b5))):P:=h
theorem jgq{P:Prop}(h:P:=by have b9:=hb.drew.grown xR hb.size (by rintro q ⟨⟩;omega);exact b9):P:=h
theorem jgN{P:Prop}(h:P:=by have V:=Hh (al (KA:=KA) (kn:=kn) (kc:=kc) (NA:=NA) (nn:=nn) (nc:=nc) t (by omega) w);have HK:=Hh (And.intro ov ZR);have HN:=Hh sV;have HA:=Hh (And.intro han hac);exact And.intro V (And.intro HK (And.intro HN HA))):P:=h
theorem gz (key x b:List UInt8):fI key x b=qA (iU key) b x ((b.length+15)/16):=(Js key b x _).symm
theorem P0 {m:Nat}(h:m<256):zm (UInt8.ofNat m)=.int .u8 (m:Int):=by
 rw[zm,UInt8.toNat_ofNat',Nat.mod_eq_of_lt h]
theorem oH {cg:Nat}{L key:List UInt8}(hBS:lL (iU key) cg L) {NA:Option Addr}{nn nc:Nat}{nonce:List UInt8}(sV:nn=nonce.length) (mj:7≤nonce.length∧nonce.length≤13)
  {AA:Option Addr} {an ac:Nat} {aad:List UInt8} (han:an=aad.length) (hac:an≤ac) (hal:aad.length≤1048576) {PA:Option Addr} {pn pc:Nat} {plain:List UInt8} (mq:pn=plain.length) (lK:pn≤pc) (pq:plain.length≤1048576)
  (t:Nat) (ht:4≤t∧t≤16) (w:World) (dR:Src w NA (nonce.map zm)) (X7:Src w AA (aad.map zm)) (dS:Src w PA (plain.map zm)) (hC:Blk w cg 126 (zf L)) :
  Calls Tryz.prog 57 #[.pointer (some ⟨cg,0,none⟩),.slice NA nn nc,.slice AA an ac,.slice PA pn pc,.int .i64 (t:Int)] w fun e w'=>e=.returned (.agg (zf (aR key nonce aad plain t)))∧Below w.heap.size w w':=by
 have h0:=Blk.new w 85 (zf (List.replicate 16 0));have b0:=zo w (.cells (zf (List.replicate 16 0)) 85);obtain⟨w1,sW⟩:∃ w1,w.alloc (.cells (zf (List.replicate 16 0)) 85)=w1:=⟨_,rfl⟩
 have vV:w1.heap.size=w.heap.size+1:=by rw[← sW,zr]
 rw[sW]at h0 b0;have QI:=Hh (And.intro sW vV);have HN:=Hh (And.intro sV mj);have HA:=Hh (And.intro han (And.intro hac hal));have HP:=Hh (And.intro mq (And.intro lK pq));have HT:=Hh ht;have HS:=Hh (And.intro dR (And.intro X7 dS));have HC:=Hh hC;have CH:=Hh (Qs cg w1);obtain⟨X,hX⟩:∃ X,w1.heap.size+1=X:=⟨_,rfl⟩
 obtain⟨CB,GX⟩:∃ CB,w1.heap.size=CB:=⟨_,rfl⟩
 rw[hX,GX]at CH;have aX:Hid (w.heap.size<CB∧CB<X∧cg<w.heap.size):=by have:=hC.lt;rw[Hid];omega
 have zBd:=Hh GX;clear sV mj han hac hal mq lK pq ht dR X7 dS hC sW vV hX GX;go_enter Tryz.func57,Tryz.ntmps57
 go_upto_region 1 with fail
 rw[show w.alloc (.cells #[.int .u8 0,.int .u8 0,.int .u8 0,.int .u8 0,.int .u8 0,.int .u8 0,.int .u8 0,.int .u8 0,.int .u8 0,.int .u8 0,.int .u8 0,.int .u8 0,.int .u8 0,.int .u8 0,.int .u8 0,.int .u8 0] 85)=w1 from QI.out.1];go_wp2_with fail
 refine CH.out.mono ?_
 rintro e w2 ⟨rfl,Wu,hX,zG⟩
 have b2:=b0.trans (zG.mono (by have:=aX.out;omega));have h2:=h0.below (by rw[zBd.out];exact zG);clear h0 b0 zG CH;obtain⟨q,hq⟩:∃ q,t/2=q:=⟨_,rfl⟩
 obtain⟨q1,jy⟩:∃ x,q-1=x:=⟨_,rfl⟩
 obtain⟨q2,fr⟩:∃ x,8*q1=x:=⟨_,rfl⟩
 obtain⟨q3,hq3⟩:∃ x,q2+14=x:=⟨_,rfl⟩
 obtain⟨q4,Ij⟩:∃ x,q3-nn=x:=⟨_,rfl⟩
 have t1:(t:Int).tdiv 2=(q:Int):=by rw[← hq];exact(Int.ofNat_tdiv t 2).symm
 have t1':(t:Int)/2=(q:Int):=by rw[← hq];omega
 have W0:IntKind.i64.wrap (q:Int)=(q:Int):=vN (by have:=HT.out;omega);have W1:IntKind.i64.wrap ((q:Int)-1)=(q1:Int):=by rw[show(q:Int)-1=(q1:Int) by have:=HT.out;omega];exact vN (by have:=HT.out;omega)
 have W2:IntKind.i64.wrap (8*(q1:Int))=(q2:Int):=by rw[show 8*(q1:Int)=(q2:Int) by omega];exact vN (by have:=HT.out;omega)
 have W3:IntKind.i64.wrap ((q2:Int)+14)=(q3:Int):=by rw[show(q2:Int)+14=(q3:Int) by omega];exact vN (by have:=HT.out;omega)
 have W4:IntKind.i64.wrap ((q3:Int)-(nn:Int))=(q4:Int):=by rw[show(q3:Int)-(nn:Int)=(q4:Int) by have:=HT.out;have:=HN.out;omega];exact vN (by have:=HT.out;omega)
 have W5:IntKind.u8.wrap (q4:Int)=(q4:Int):=by rw[IntKind.wrap_u8];have:=HT.out;omega
 have W6:IntKind.u8.wrap ((q4:Int)+64)=((q4+64:Nat):Int):=by rw[IntKind.wrap_u8];have:=HT.out;omega
 have W7:(q4:Int)%256=(q4:Int):=by have:=HT.out;omega
 have W8:((q4:Int)+64)%256=((q4+64:Nat):Int):=by have:=HT.out;omega
 have HF:Hid (nt nonce aad t=UInt8.ofNat (q4+if an=0 then 0 else 64)):=by
  rw[Hid,nt,← HA.out.1];congr 1
  have:=HN.out;have:=HT.out
  omega
 have HQ:Hid (q4<150):=by have:=HT.out;rw[Hid];omega
 clear hq jy fr hq3 Ij;go_upto_if 27 with fail
 go_cut [12] (fun s12 wx=>s12=zm (nt nonce aad t)∧Blk wx CB 83 #[.pointer (some ⟨cg,0,none⟩)]∧Blk wx X 85 (zf (List.replicate 16 0))∧Blk wx w.heap.size 85 (zf (List.replicate 16 0))∧Below w.heap.size w wx)
 case first =>
  by_cases ha:0<an
  ·have Wb:(0:Int)<(an:Int):=by omega
   have E:Hid (zm (nt nonce aad t)=.int .u8 ((q4+64:Nat):Int)):=by rw[Hid,HF.out,if_neg (by omega),P0 (by have:=HQ.out;omega)]
   go_wp2_with fail
   go_meet
   exact⟨by rw[E.out,Int.natCast_add];rfl,Wu,hX,h2,b2⟩
  have Wb:¬ (0:Int)<(an:Int):=by omega
  have E:Hid (zm (nt nonce aad t)=.int .u8 (q4:Int)):=by rw[Hid,HF.out,if_pos (by omega),Nat.add_zero,P0 (by have:=HQ.out;omega)]
  go_wp2_with fail
  go_meet
  exact⟨by rw[E.out],Wu,hX,h2,b2⟩
 case rest =>
 clear Wu hX h2 b2 t1 t1' W0 W1 W2 W3 W4 W5 W6 W7 W8;obtain⟨rfl,Wu,hX,h2,b2⟩:=hcut;have CT:=Hh (iA (nt nonce aad t) (c:=nc) HN.out.1 HN.out.2.2 pn (by have:=HP.out;omega) wc (HS.out.1.below b2));obtain⟨f,hf⟩:∃ f,nt nonce aad t=f:=⟨_,rfl⟩
 have HFF:=Hh hf;rw[hf]at CT⊢;clear hf HF;go_wp2_with fail
 refine CT.out.mono ?_
 rintro e w3 ⟨rfl,xj⟩
 have nN:=mC f HN.out.2.2 pn;obtain⟨ct,ZN⟩:∃ l,oX f nonce pn=l:=⟨_,rfl⟩
 have Pu:=Hh ZN;rw[ZN]at nN⊢;have C5:=Wu.below xj;have nC:=hX.below xj;have h3:=h2.below xj;have b3:=b2.trans (xj.mono b2.size);obtain⟨M,hM⟩:∃ M,w3.heap.size=M:=⟨_,rfl⟩
 have hz:=Blk.new w3 85 (zf (List.replicate 16 0));rw[hM]at hz;have HM:Hid (X<M):=by have:=nC.lt;rw[Hid];omega
 have C6:=C5.alloc (.cells (zf (List.replicate 16 0)) 85);have T5:=nC.alloc (.cells (zf (List.replicate 16 0)) 85);have h4:=h3.alloc (.cells (zf (List.replicate 16 0)) 85);have b4:=b3.alloc b3.size (.cells (zf (List.replicate 16 0)) 85);have Pw:=Hh hM;clear CT xj Wu hX h2 b2 ZN C5 nC h3 b3 hM;go_wp2_with (with_reducible refine zx ?_)
 unfold zC
 rw[Pw.out]
 refine zv rfl _ _ _ rfl rfl M (zf ct) rfl rfl _ _ hz (by rw[zX,nN];kernel_rfl) (by rw[zX,nN];rfl) (xI _) fun w5 h5c xv=>?_
 have GV:=C6.grown xv (by intro e;injection e with e;have:=HM.out;have:=aX.out;omega);have JQ:=T5.grown xv (by intro e;injection e with e;have:=HM.out;omega);have h5:=h4.grown xv (by intro e;injection e with e;have:=HM.out;have:=aX.out;omega);have b5:=b4.grown xv b4.size (by rintro q ⟨⟩;have:=HM.out;have:=aX.out;omega)
 have T1:=Hh (eQ (oP key) (L:=L) hBS (A:=some ⟨M,0,none⟩) (n:=16) (c:=16) nN.symm (Nat.le_refl _) (by omega) (by intro _ a ha;injection ha with ha;subst ha;have:=HM.out;show M≠X;omega) (by have:=aX.out;omega) (by have:=aX.out;omega) w5
  (fun _=>⟨M,0,rfl,fun j v hj=>h5c.cell _ (by rw[Nat.zero_add];simpa [zf] using hj)⟩) (x:=List.replicate 16 0) rfl JQ GV (HC.out.below b5))
 clear hz C6 T5 h4 b4 xv;go_wp2_with fail
 refine T1.out.mono ?_
 rintro e w6 ⟨rfl,lh,ws⟩
 rw[← gz]at lh;have P9:=GV.grown ws (by intro e;injection e with e;have:=aX.out;omega);have h6:=h5.grown ws (by intro e;injection e with e;have:=aX.out;omega);have b6:=b5.grown ws b5.size (by rintro q ⟨⟩;have:=aX.out;omega);clear T1 JQ GV h5 b5 ws h5c;obtain⟨x1,lC⟩:∃ x,fI key (List.replicate 16 0) ct=x:=⟨_,rfl⟩
 have Hz:x1.length=16:=by rw[← lC];exact pw _ _ rfl
 have IG:=Hh lC;rw[lC]at lh;clear lC;go_upto_if 40 with fail
 go_cut [] (fun wx=>Blk wx X 85 (zf (if an=0 then x1 else fI key x1 (aQ aad)))∧Blk wx CB 83 #[.pointer (some ⟨cg,0,none⟩)]∧Blk wx w.heap.size 85 (zf (List.replicate 16 0))∧Below w.heap.size w wx)
 case first =>
  by_cases ha:0<an
  ·have Wb:(0:Int)<(an:Int):=by omega
   have hq:(an:Int)/256=((an/256:Nat):Int):=by omega
   obtain⟨q,fr⟩:∃ q,an/256=q:=⟨_,rfl⟩
   rw[fr]at hq;have U1:=Vv q;have U2:=Vv an;have HLA:Hid (UInt8.ofNat (q%256)::UInt8.ofNat (an%256)::aad=aQ aad):=by rw[Hid,aQ,← HA.out.1,fr]
   obtain⟨u1,hu1⟩:∃ u,UInt8.ofNat (q%256)=u:=⟨_,rfl⟩
   obtain⟨u2,Iq⟩:∃ u,UInt8.ofNat (an%256)=u:=⟨_,rfl⟩
   rw[hu1]at U1 HLA;rw[Iq]at U2 HLA;have m1:(q:Int)%256=(u1.toNat:Int):=by have h:=U1;rw[IntKind.wrap_u8]at h;injection h with _ h;exact h.symm
   have m2:(an:Int)%256=(u2.toNat:Int):=by have h:=U2;rw[IntKind.wrap_u8]at h;injection h with _ h;exact h.symm
   have hO:=OwnB.lit w6 w6.heap.size [u1,u2] #[zm u1,zm u2] 2 rfl rfl (Nat.le_refl _) (by simp);have ig:=lh.alloc (.cells #[zm u1,zm u2] 5);have C8:=P9.alloc (.cells #[zm u1,zm u2] 5);have h7:=h6.alloc (.cells #[zm u1,zm u2] 5);have b7:=b6.alloc b6.size (.cells #[zm u1,zm u2] 5);obtain⟨G,hG⟩:∃ G,w6.heap.size=G:=⟨_,rfl⟩
   have HG:Hid (X<G∧CB<G∧w.heap.size<G):=by have:=lh.lt;have:=P9.lt;have:=h6.lt;rw[Hid];omega
   have HGN:=Hh hG;rw[hG]at hO;clear lh P9 h6 b6 hu1 Iq U1 U2 fr hG;go_wp2_with (at_builtin;refine zH ?_)
   unfold zC
   try rw[HGN.out]
   refine zg rfl (.tmp 49) (.tmp 50) rfl G _ [u1,u2] rfl hO AA an ac aad rfl HA.out.1 (HS.out.2.1.below b7) (by have:=HA.out;simp;omega) (by rw[zr,HGN.out];omega) fun v' w8 aY hg8 hat8=>?_
   obtain⟨A8,c8,rfl,hc8,_⟩:=aY.form;rw[show [u1,u2]++aad=aQ aad from HLA.out]at aY hc8;have aZ:=ig.grown hg8 (by show some G≠some (X);intro e;injection e with e;have:=HG.out;omega);have GW:=C8.grown hg8 (by show some G≠some (CB);intro e;injection e with e;have:=HG.out;omega);have h8:=h7.grown hg8 (by show some G≠some (w.heap.size);intro e;injection e with e;have:=HG.out;omega);have b8:=b7.grown hg8 b7.size (by show ∀ q,some G=some q→w.heap.size≤q;rintro q ⟨⟩;have:=HG.out;omega)
   have T2:=Hh (eQ (oP key) (L:=L) hBS (A:=A8) (n:=(aQ aad).length) (c:=c8) rfl hc8 (by have:=HA.out;simp[aQ];omega) (by
     intro _ a ha e
     have h1:=(aY.lt a.block (by rw[ha];rfl)).1;have:=HG.out
     omega) (by have:=aX.out;omega) (by have:=aX.out;omega) w8 aY.src Hz aZ GW (HC.out.below b8))
   have dO:([u1,u2]++aad).length=(aQ aad).length:=congrArg List.length HLA.out;rw[dO];clear hO hg8 hat8 ig C8 h7 b7 dO;go_wp2_with fail
   refine T2.out.mono ?_
   rintro e w9 ⟨rfl,im,xR⟩
   rw[← gz]at im;have zAT:=GW.grown xR (by intro e;injection e with e;have:=aX.out;omega);have h9:=h8.grown xR (by intro e;injection e with e;have:=aX.out;omega);have b9:=b8.grown xR b8.size (by rintro q ⟨⟩;have:=aX.out;omega);clear T2 aZ GW h8 b8 xR aY;go_wp2_with fail
   go_meet
   exact⟨by rw[if_neg (by omega)];exact im,zAT,h9,b9⟩
  have Wb:¬ (0:Int)<(an:Int):=by omega
  go_wp2_with fail
  go_meet
  exact⟨by rw[if_pos (by omega)];exact lh,P9,h6,b6⟩
 case rest =>
 clear lh P9 h6 b6;obtain⟨hX,Wu,h0,b0⟩:=hcut;obtain⟨x2,X8⟩:∃ x,(if an=0 then x1 else fI key x1 (aQ aad))=x:=⟨_,rfl⟩
 have Cz:x2.length=16:=by rw[← X8];split;exact Hz;exact pw _ _ Hz
 have MS:Hid (aR key nonce aad plain t=fI key x2 plain):=by
  rw[Hid,aR,HFF.out,← HP.out.1,Pu.out,IG.out,← X8,← HA.out.1]
 rw[X8]at hX;have T3:=Hh (eQ (oP key) (L:=L) hBS (A:=PA) (n:=pn) (c:=pc) HP.out.1 HP.out.2.1 (by have:=HP.out;omega) (Src.apart HS.out.2.2 (by have:=aX.out;omega)) (by have:=aX.out;omega) (by have:=aX.out;omega) _ (HS.out.2.2.below b0) Cz hX Wu (HC.out.below b0));have zl:=pw key plain Cz;rw[← gz]at T3;obtain⟨z,hz⟩:∃ z,fI key x2 plain=z:=⟨_,rfl⟩
 rw[hz]at T3 zl MS;clear X8 hz;go_wp2_with fail
 refine T3.out.mono ?_
 rintro e w11 ⟨rfl,Gj,pY⟩
 have Es:=h0.grown pY (by intro e;injection e with e;have:=aX.out;omega);have b11:=b0.grown pY b0.size (by rintro q ⟨⟩;have:=aX.out;omega);clear T3 hX Wu h0 b0 pY Gj;go_wp2_with (with_reducible refine zx ?_)
 refine zv rfl _ _ _ rfl rfl w.heap.size (zf z) rfl rfl _ _ Es (by rw[zX,zl];kernel_rfl) (by rw[zX,zl];rfl) (xI _) fun w12 Lu hg12=>?_
 have b12:=b11.grown hg12 b11.size (by rintro q ⟨⟩;omega);clear Es b11 hg12;go_wp2_with fail
 exact zF rfl rfl Lu rfl rfl (by rw[zX,zl];kernel_rfl) rfl ⟨by rw[MS.out],b12⟩
theorem jA {fn:Func}{p u:Tmp}{ty:TypeId}(h:fn.results=#[.tmp u,.cell p ty]) (tmps:Array Value) (P:Program) (w:World) :
  (results fn tmps).run P w =
   ((asAddr (tmps.getD p undef)).run P w).andThen fun a w₁=>((loadVar ty a).run P w₁).andThen fun x w₂=>.ok (.tuple #[tmps.getD u undef,x]) w₂:=by
 exact jci
theorem Zi {fn:Func}{p u:Tmp}{ty:TypeId}{a:Act}{w:World}{R:Ending→World→Prop}{g:Nat}{t:TypeId}{cs:Array Value}{d:TypeDesc}(h:fn.results=#[.tmp u,.cell p ty]) (hp:a.tmps.getD p undef=.pointer (some ⟨g,0,none⟩)) (hg:Blk w g t cs)
  (hd:(match d with | .struct _ | .array _ _=>true | _=>false)=true) (hu:Tryz.prog.underlying ty=some d) (hi:(Tryz.prog.info? ty).map (·.size)=some cs.size)
  (hdf:a.defers=[]) (hR:R (.returned (.tuple #[a.tmps.getD u undef,.agg cs])) w):bodyPost Tryz.prog fn R .ret a w:=by
 refine bodyPost_ret (v:=.tuple #[a.tmps.getD u undef,.agg cs]) ?_ hdf hR
 rw[jA h,hp];exact jaZ
theorem er {n i:Nat}(f:Nat→UInt8) (a:List UInt8) (h:n≤i):te n f a i=(List.range n).map f:=by
 apply List.map_congr_left
 intro j hj
 rw[if_pos (by have:j<n:=(by simpa using hj);omega)]
theorem Kw (key nonce text:List UInt8) {j k:Nat}(h1:16*j≤k) (h2:k<16*j+16):nB key nonce text k=at_ text k ^^^ at_ (iU key (oX (firstS nonce) nonce (j+1))) (k-16*j):=by
 rw[nB,show k/16=j by omega,show k%16=k-16*j by omega]
theorem nX {cg:Nat}{L key:List UInt8}(hBS:lL (iU key) cg L) {NA:Option Addr}{nn nc:Nat}{nonce:List UInt8}(sV:nn=nonce.length) (mj:7≤nonce.length∧nonce.length≤13)
  {TA:Option Addr} {tn tc:Nat} {text:List UInt8} (pI:tn=text.length) (Mk:text.length≤1048576) {tag:List UInt8} (hg:tag.length=16)
  (w:World) (dR:Src w NA (nonce.map zm)) (uF:Src w TA (text.map zm)) (hC:Blk w cg 126 (zf L)) :
  Calls Tryz.prog 56 #[.pointer (some ⟨cg,0,none⟩),.slice NA nn nc,.slice TA tn tc,.agg (zf tag)] w fun e w' =>
   ∃ v,e=.returned (.tuple #[v,.agg (zf (pG key nonce tag))])∧OwnB w' w.heap.size v (kZ key nonce text)∧Below w.heap.size w w':=by
 have h0:=(Blk.new w 85 (zf tag)).alloc (.cells (zf (List.replicate 16 0)) 85);have h1:=Blk.new (w.alloc (.cells (zf tag) 85)) 85 (zf (List.replicate 16 0));have b0:=zo w (.cells (zf tag) 85);have b1:=jfR;rw[zr]at h1;obtain⟨w1,sW⟩:∃ w1,(w.alloc (.cells (zf tag) 85)).alloc (.cells (zf (List.replicate 16 0)) 85)=w1:=⟨_,rfl⟩
 have vV:w1.heap.size=w.heap.size+2:=by rw[← sW,zr,zr]
 rw[sW]at h0 h1 b1;have QI:=Hh (And.intro sW vV);have HN:=Hh (And.intro sV mj);have HT:=Hh (And.intro pI Mk);have HG:=Hh hg;have HS:=Hh (And.intro dR (And.intro uF hC));have CL:=Hh (tt w1 TA text tn tc pI (by omega) (uF.below b1));have HCG:=Hh hC.lt;clear sV mj pI Mk hg dR uF hC sW vV b0;go_enter Tryz.func56,Tryz.ntmps56
 go_upto_region 1 with fail
 rw[show(w.alloc (.cells (zf tag) 85)).alloc (.cells #[.int .u8 0,.int .u8 0,.int .u8 0,.int .u8 0,.int .u8 0,.int .u8 0,.int .u8 0,.int .u8 0,.int .u8 0,.int .u8 0,.int .u8 0,.int .u8 0,.int .u8 0,.int .u8 0,.int .u8 0,.int .u8 0] 85)=w1 from QI.out.1];go_wp2_with fail
 refine CL.out.mono ?_
 rintro e w2 ⟨v,rfl,hf⟩
 have hO:OwnB w2 (w.heap.size+2) v text:=QI.out.2 ▸ hf.1;have b2:=b1.trans (hf.2.mono (by have:=QI.out.2;omega));have h02:=h0.below hf.2;have Lu:=h1.below hf.2;obtain⟨A,c,rfl,hc,_⟩:=hO.form;rw[← HT.out.1]at hO⊢;clear h0 h1 b1 hf CL hc;have W1:IntKind.i64.wrap (14-(nn:Int))=((14-nn:Nat):Int):=by have:=HN.out;rw[show 14-(nn:Int)=((14-nn:Nat):Int) by omega];exact vN (by omega)
 obtain⟨f0,Wf⟩:∃ x,14-nn=x:=⟨_,rfl⟩
 rw[Wf]at W1;have W2:IntKind.u8.wrap (f0:Int)=(f0:Int):=by rw[IntKind.wrap_u8];omega
 have W3:(f0:Int)%256=(f0:Int):=by omega
 obtain⟨F,hF⟩:∃ f,firstS nonce=f:=⟨_,rfl⟩
 have HF:Hid (Value.int .u8 (f0:Int)=zm F∧firstS nonce=F):=by
  refine⟨?_,hF⟩
  rw[← hF,firstS,← HN.out.1,Wf,P0 (by omega)]
 rw[← qT (nB key nonce text) (show text.length=tn from HT.out.1.symm)]at hO;clear Wf hF;go_upto_region 3 with fail
 rw[HF.out.1];clear W1 W2 W3;go_wp2_with fail
 go_loopw [12] (fun v12 wr=>∃ j i:Nat,v12=.int .i64 (i:Int)∧Hid (i=16*j∧i≤tn+15)∧OwnB wr (w.heap.size+2) (.slice A tn c) (te tn (nB key nonce text) text i)∧Blk wr w.heap.size 85 (zf tag)∧Blk wr (w.heap.size+1) 85 (zf (List.replicate 16 0))∧Below w.heap.size w wr) (fun v12 _=>(tn+16-intOf v12).toNat)
 case atStart=>exact⟨0,0,rfl,⟨rfl,by omega⟩,hO,h02,Lu,b2⟩
 case round =>
 clear hO h02 Lu b2;obtain⟨j,i,rfl,HJ,hO,h0,h1,hb⟩:=hrel
 by_cases MJ:(i:Int)<(tn:Int)
 ·have T1:(i:Int).tdiv 16=(j:Int):=by rw[← show i/16=j by have:=HJ.out;omega];exact(Int.ofNat_tdiv i 16).symm
  have T1':(i:Int)/16=(j:Int):=by have:=HJ.out;omega
  have W0:IntKind.i64.wrap (j:Int)=(j:Int):=vN (by have:=HJ.out;have:=HT.out;omega);have W4:IntKind.i64.wrap ((j:Int)+1)=((j+1:Nat):Int):=by rw[show(j:Int)+1=((j+1:Nat):Int) by omega];exact IntWalk.i64_in _ (by have:=HJ.out;have:=HT.out;omega)
  obtain⟨j1,QS⟩:∃ x,j+1=x:=⟨_,rfl⟩
  rw[QS]at W4;have CT:=Hh (iA F (c:=nc) HN.out.1 HN.out.2.2 j1 (by have:=HJ.out;have:=HT.out;omega) wr (HS.out.1.below hb));have HJ1:=Hh QS;clear QS;go_wp2_with fail
  refine CT.out.mono ?_
  rintro e w3 ⟨rfl,xj⟩
  have nN:=mC F HN.out.2.2 j1;have BL:=Hh (hBS (oX F nonce j1) w3 nN (HS.out.2.2.below (hb.trans (xj.mono hb.size))));have l8:=hO.below xj;have Eo:=h0.below xj;have DT:=h1.below xj;have b3:=hb.trans (xj.mono hb.size);clear hO h0 h1 hb xj CT nN T1 T1' W0 W4;go_wp2_with fail
  refine BL.out.mono ?_
  rintro e w4 ⟨rfl,uR⟩
  have pU:=l8.below uR;have Ep:=Eo.below uR;have IK:=DT.below uR;have b4:=b3.trans (uR.mono b3.size);obtain⟨s,hs⟩:∃ s,iU key (oX F nonce j1)=s:=⟨_,rfl⟩
  have sl:s.length=16:=by rw[← hs];exact oP _ _
  have HSS:=Hh hs;rw[hs];obtain⟨M,hM⟩:∃ M,w4.heap.size=M:=⟨_,rfl⟩
  have hz:=Blk.new w4 85 (zf (List.replicate 16 0));rw[hM]at hz
  have HM:Hid (w.heap.size+1<M∧∀ g,Value.ownBlock (.slice A tn c)=some g→g<M):=by
   refine⟨by have:=IK.lt;omega,fun g hg=>?_⟩
   have:=(pU.lt g hg).2
   omega
  have Pw:=Hh hM;obtain⟨wg,DS,DU,b5⟩:=jfV;clear l8 Eo DT b3 uR BL pU Ep IK b4 hs hM;go_wp2_with (with_reducible refine zx ?_)
  unfold zC
  rw[Pw.out]
  refine zv rfl _ _ _ rfl rfl M (zf s) rfl rfl _ _ hz (by rw[zX,sl];kernel_rfl) (by rw[zX,sl];rfl) (xI _) fun w6 h6s ws=>?_
  have rU:=wg.kept ws (by
   cases hv:Value.ownBlock (.slice A tn c) with
   | none=>exact .inl rfl
   | some q=>exact .inr (fun e=>by injection e with e;have:=HM.out.2 q hv;omega))
  obtain⟨Er,Lv,b6⟩:=jfT;have JE:=Hh sl;clear hz wg DS DU b5 ws sl;obtain⟨i16,gB⟩:∃ x,i+16=x:=⟨_,rfl⟩
  have W5:IntKind.i64.wrap ((i:Int)+16)=(i16:Int):=by rw[← gB,Int.natCast_add];exact IntWalk.i64_in _ (by have:=HT.out;omega)
  obtain⟨lim,Ch⟩:∃ x,min tn i16=x:=⟨_,rfl⟩
  have cV:=Hh (And.intro gB Ch);clear gB Ch;go_wp2_with fail
  go_loopw [14] (fun v14 wx=>∃ k:Nat,v14=.int .i64 (k:Int)∧i≤k∧k≤lim∧OwnB wx (w.heap.size+2) (.slice A tn c) (te tn (nB key nonce text) text k)∧Blk wx M 85 (zf s)∧Blk wx w.heap.size 85 (zf tag)∧Blk wx (w.heap.size+1) 85 (zf (List.replicate 16 0))∧Below w.heap.size w wx) (fun v14 _=>(lim-intOf v14).toNat)
  case atStart=>exact⟨i,rfl,Nat.le_refl _,by have:=cV.out;omega,rU,h6s,Er,Lv,b6⟩
  case round =>
  clear rU h6s Er Lv b6;obtain⟨k,rfl,hik,hk,hO,hs,h0,h1,hb⟩:=hrel;go_upto_region 8 with fail
  go_cut [44] (fun s44 wy=>s44=.bool (decide (k<lim))∧OwnB wy (w.heap.size+2) (.slice A tn c) (te tn (nB key nonce text) text k)∧Blk wy M 85 (zf s)∧Blk wy w.heap.size 85 (zf tag)∧Blk wy (w.heap.size+1) 85 (zf (List.replicate 16 0))∧Below w.heap.size w wy)
  case first =>
   by_cases hm:(i16:Int)<(tn:Int)
   ·go_wp2_with fail
    go_meet
    exact⟨(by rw[show lim=i16 by have:=cV.out;omega];try (congr 1;rw[decide_eq_decide];omega)),hO,hs,h0,h1,hb⟩
   go_wp2_with fail
   go_meet
   exact⟨(by rw[show lim=tn by have:=cV.out;omega];try (congr 1;rw[decide_eq_decide];omega)),hO,hs,h0,h1,hb⟩
  case rest =>
  clear hO hs h0 h1 hb;obtain⟨rfl,hO,hs,h0,h1,hb⟩:=hcut
  by_cases qJ:k<lim
  ·rw[decide_eq_true qJ];have QU:k<tn:=by have:=cV.out;omega
   have JT:16*j≤k∧k<16*j+16:=by have:=cV.out;have:=HJ.out;omega
   obtain⟨d,hd⟩:∃ d,k-16*j=d:=⟨_,rfl⟩
   obtain⟨u,hu⟩:∃ u,at_ text k=u:=⟨_,rfl⟩
   obtain⟨v,hv⟩:∃ v,at_ s d=v:=⟨_,rfl⟩
   have HV:Hid (nB key nonce text k=u ^^^ v):=by
    rw[Hid,Kw key nonce text JT.1 JT.2,HF.out.2,HJ1.out,HSS.out,hd,hu,hv]
   have S1:=Hh (qS (n:=tn) (i:=k) (nB key nonce text) text QU);rw[HV.out]at S1;have TH:k<(te tn (nB key nonce text) text k).length:=by rw[tN];exact QU
   obtain⟨gq,cur,e,hbg,DW,ZR,Pp⟩:=hO.store_ (k:=k) TH
   cases e
   have Sw:=Hh Pp;have hgM:gq<M:=HM.out.2 gq rfl
   have cl:wc.cell? ⟨gq,k,none⟩=some (zm u):=by
    obtain⟨b,off,e,hc⟩:=hO.src (by intro h;rw[List.map_eq_nil_iff]at h;rw[h]at TH;simp at TH)
    cases e
    have h:=hc k (zm (te tn (nB key nonce text) text k)[k]) (by rw[List.getElem?_map,List.getElem?_eq_getElem TH];rfl);rw[← aA TH,fg _ _ QU,hu,Nat.zero_add]at h
    exact h
   have c0:=jm (Below.refl _ wc).drew cl;have c1:=hs.drew.cell d (xf _ _ (by have:=JE.out;omega));rw[hv]at c1;have W6:IntKind.i64.wrap ((k:Int)-(i:Int))=(d:Int):=by rw[show(k:Int)-(i:Int)=(d:Int) by have:=HJ.out;omega];exact IntWalk.i64_in _ (by omega)
   obtain⟨k1,lA⟩:∃ x,k+1=x:=⟨_,rfl⟩
   have W7:IntKind.i64.wrap ((k:Int)+1)=(k1:Int):=by rw[← lA,Int.natCast_add];exact IntWalk.i64_in _ (by have:=HT.out;omega)
   rw[lA]at S1;have QF:=Hh lA;clear lA;have ld:(d:Int)<16:=by omega
   have lk:(k:Int)<(tn:Int):=by omega
   have X:=Hh (wE u v);have hBd:=DW.drew;have HKT:=Hh QU;clear hd hu hv TH Pp cl hO JT HV QU DW;go_upto_region 10 with fail
   refine zw 11 (fun wx=>wx.cell? ⟨gq,k,none⟩=some (zm u)∧wx.cell? ⟨M,d,none⟩=some (zm v)) (by kernel_rfl) (⟨c0,c1⟩) (fun zy=>?_)
   refine Tk 0 rfl zy ?_
   refine Tk 1 rfl zy ?_
   refine Tk 2 rfl zy ?_
   refine Tk 3 rfl zy ?_
   refine Tk 4 rfl zy ?_
   refine Tk 5 rfl zy ?_
   refine Tk 6 rfl zy ?_
   refine Tk 7 rfl zy ?_
   refine Tk 8 rfl zy ?_
   refine Tk 9 rfl zy ?_
   refine Tk 10 rfl zy ?_
   refine To 11 rfl fun K hK=>?_
   rw[if_pos (by rfl)]
   refine xt _ _ _ rfl gq k (zm (u ^^^ v)) rfl (by show Value.int .u8 (bits .xor .u8 (u.toNat:Int) (v.toNat:Int))=_;rw[X.out]) _ _ hBd wD ZR rfl fun w9 fR xR=>?_
   refine Kz hK ?_
   clear hK K
   refine Wd ?_
   clear zy;have gj:=Sw.out w9 (u ^^^ v) fR;rw[S1.out]at gj;have hs9:=hs.drew.gr xR (by omega);have AK:=h0.drew.gr xR (by omega);have DV:=h1.drew.gr xR (by omega);have b9:=jgq;clear xR c0 c1 hs h0 h1 hb S1 X hBd fR W6 ld lk Sw;go_wp2_with fail
   go_roundw
   case rel=>exact⟨k1,rfl,by have:=QF.out;omega,by have:=QF.out;omega,gj,hs9,AK,DV,b9⟩
   case measure=>have:=QF.out;simp[intOf];omega
  rw[decide_eq_false qJ]
  have hE:te tn (nB key nonce text) text k=te tn (nB key nonce text) text i16:=by
   by_cases hm:i16<tn
   ·rw[show k=i16 by have:=cV.out;omega]
   rw[er _ _ (by have:=cV.out;omega),er _ _ (by omega)]
  rw[hE]at hO;clear hE hs;go_wp2_with fail
  go_roundw
  case rel=>exact⟨j+1,i16,rfl,⟨by have:=cV.out;have:=HJ.out;omega,by have:=cV.out;omega⟩,hO,h0,h1,hb⟩
  case measure=>have:=cV.out;simp[intOf];omega
 have hE:te tn (nB key nonce text) text i=kZ key nonce text:=by rw[er _ _ (by omega),HT.out.1];rfl
 rw[hE]at hO;have CT:=Hh (iA F (c:=nc) HN.out.1 HN.out.2.2 0 (by omega) wr (HS.out.1.below hb));clear hE;go_wp2_with fail
 refine CT.out.mono ?_
 rintro e w3 ⟨rfl,xj⟩
 have nN:=mC F HN.out.2.2 0;have BL:=Hh (hBS (oX F nonce 0) w3 nN (HS.out.2.2.below (hb.trans (xj.mono hb.size))));have l8:=hO.below xj;have Eo:=h0.below xj;have DT:=h1.below xj;have b3:=hb.trans (xj.mono hb.size);clear hO h0 h1 hb xj CT nN;go_wp2_with fail
 refine BL.out.mono ?_
 rintro e w4 ⟨rfl,uR⟩
 have pU:=l8.below uR;have Ep:=Eo.below uR;have IK:=DT.below uR;have b4:=b3.trans (uR.mono b3.size);obtain⟨s,hs⟩:∃ s,iU key (oX F nonce 0)=s:=⟨_,rfl⟩
 have sl:s.length=16:=by rw[← hs];exact oP _ _
 have JA:Hid (pG key nonce tag=(List.range 16).map fun i=>at_ tag i ^^^ at_ s i):=by rw[Hid,pG,HF.out.2,hs];rfl
 rw[hs];obtain⟨M,hM⟩:∃ M,w4.heap.size=M:=⟨_,rfl⟩
 have hz:=Blk.new w4 85 (zf (List.replicate 16 0));rw[hM]at hz
 have HM:Hid (w.heap.size+1<M∧∀ g,Value.ownBlock (.slice A tn c)=some g→g<M∧w.heap.size+2≤g):=by
  refine⟨by have:=IK.lt;omega,fun g hg=>?_⟩
  have:=pU.lt g hg
  omega
 have Pw:=Hh hM;obtain⟨wg,DS,DU,b5⟩:=jfV;clear l8 Eo DT b3 uR BL pU Ep IK b4 hs hM;go_wp2_with (with_reducible refine zx ?_)
 unfold zC
 rw[Pw.out]
 refine zv rfl _ _ _ rfl rfl M (zf s) rfl rfl _ _ hz (by rw[zX,sl];kernel_rfl) (by rw[zX,sl];rfl) (xI _) fun w6 h6s ws=>?_
 have rU:=wg.kept ws (by
  cases hv:Value.ownBlock (.slice A tn c) with
  | none=>exact .inl rfl
  | some q=>exact .inr (fun e=>by injection e with e;have:=(HM.out.2 q hv).1;omega))
 obtain⟨Er,Lv,b6⟩:=jfT;have JE:=Hh sl;rw[← qT (fun i=>at_ tag i ^^^ at_ s i) HG.out]at Er;clear hz wg DS DU b5 ws sl;go_wp2_with fail
 go_loopw [63] (fun v63 wx=>∃ k:Nat,v63=.int .i64 (k:Int)∧k≤16∧OwnB wx (w.heap.size+2) (.slice A tn c) (kZ key nonce text)∧Blk wx M 85 (zf s)∧Blk wx w.heap.size 85 (zf (te 16 (fun i=>at_ tag i ^^^ at_ s i) tag k))∧Blk wx (w.heap.size+1) 85 (zf (List.replicate 16 0))∧Below w.heap.size w wx) (fun v63 _=>(16-intOf v63).toNat)
 case atStart=>exact⟨0,rfl,by omega,rU,h6s,Er,Lv,b6⟩
 case round =>
 clear rU h6s Er Lv b6;obtain⟨k,rfl,hk,hO,hs,h0,h1,hb⟩:=hrel
 by_cases QU:(k:Int)<16
 ·obtain⟨u,hu⟩:∃ u,at_ tag k=u:=⟨_,rfl⟩
  obtain⟨v,hv⟩:∃ v,at_ s k=v:=⟨_,rfl⟩
  have c0:=h0.drew.cell k (xf _ _ (by rw[tN];omega));have c1:=hs.drew.cell k (xf _ _ (by have:=JE.out;omega));rw[fg _ _ (by omega),hu]at c0;rw[hv]at c1;have X:=Hh (wE u v);have S1:=Hh (qS (n:=16) (i:=k) (fun i=>at_ tag i ^^^ at_ s i) tag (by omega))
  simp only[hu,hv]at S1
  clear hu hv;go_upto_region 15 with fail
  refine zw 8 (fun wx=>wx.cell? ⟨w.heap.size,k,none⟩=some (zm u)∧wx.cell? ⟨M,k,none⟩=some (zm v)) (by kernel_rfl) (⟨c0,c1⟩) (fun zy=>?_)
  refine Tk 0 rfl zy ?_
  refine Tk 1 rfl zy ?_
  refine Tk 2 rfl zy ?_
  refine Tk 3 rfl zy ?_
  refine Tk 4 rfl zy ?_
  refine Tk 5 rfl zy ?_
  refine Tk 6 rfl zy ?_
  refine Tk 7 rfl zy ?_
  refine To 8 rfl fun K hK=>?_
  rw[if_pos (by rfl)]
  refine xt _ _ _ rfl w.heap.size k (zm (u ^^^ v)) rfl (by show Value.int .u8 (bits .xor .u8 (u.toNat:Int) (v.toNat:Int))=_;rw[X.out]) _ _ h0.drew wD (by rw[zX,tN];omega) rfl fun w9 AK xR=>?_
  refine Kz hK ?_
  clear hK K
  refine Wd ?_
  clear zy;rw[ut,S1.out]at AK;have gj:=jfD;have hs9:=hs.drew.grown xR (by intro e;injection e with e;have:=HM.out.1;omega);have DV:=h1.drew.gr xR (by omega);have b9:=jgq;clear xR c0 c1 hO hs h0 h1 hb S1 X;go_wp2_with fail
  go_roundw
  case rel=>exact⟨k+1,by go_num,by omega,gj,hs9,AK,DV,b9⟩
  case measure=>simp[intOf];omega
 obtain rfl:k=16:=by omega
 rw[show((16:Nat):Int)=16 from rfl];rw[lW,← JA.out]at h0;have ml:(pG key nonce tag).length=16:=ri _ _;obtain⟨z,hz⟩:∃ z,pG key nonce tag=z:=⟨_,rfl⟩
 have HZ:=Hh hz;rw[hz]at h0 ml;clear hz hs JA QU;go_upto_region 17 with fail
 refine zw 4 (fun _=>True) (by kernel_rfl) (trivial) (fun zy=>?_)
 refine TkS 0 rfl zy ?_
 refine TkS 2 rfl zy ?_
 refine To 1 rfl fun K hK=>?_
 rw[if_pos (by rfl)]
 refine wp_load_mid _ _ rfl w.heap.size 0 rfl ((lI z 0 16).map zm) _ (nd h0.drew 0 16) Tryz.underlying85 rfl (by rw[List.length_map,em (by omega)];kernel_rfl) ?_
 refine Ko hK ?_ fun zy=>?_
 ·trivial
 clear hK K
 refine To 3 rfl fun K hK=>?_
 rw[if_pos (by rfl)]
 refine zh _ _ _ rfl (w.heap.size+1) (zf z) rfl (by show Value.agg (zf (lI z 0 16))=_;rw[uu ml]) _ _ h1.drew (by rw[zX,ml];kernel_rfl) (by rw[zX,ml];rfl) (xI _) fun w9 DV xR=>?_
 refine Ko hK ?_ fun zy=>?_
 ·trivial
 clear hK K
 refine Wd ?_
 clear zy;have gj:=jfD;have b9:=jgq;clear xR hO h0 h1 hb;go_wp2_with fail
 exact Zi rfl rfl DV rfl rfl (by rw[zX,ml];kernel_rfl) rfl ⟨_,by rw[HZ.out];rfl,gj.more (by omega),b9⟩
def vw (kn nn t:Nat):Bool:=decide (kn=16)&&decide (7≤nn)&&decide (nn≤13)&&decide (4≤t)&&decide (t≤16)&&decide (t%2=0)
def qm (key nonce aad plain:List UInt8) (t:Nat):Int×List UInt8 :=
 if vw key.length nonce.length t=false then(1,[]) else if 4096<aad.length∨4096<plain.length then(8,[]) else(0,oV key nonce aad plain t)
theorem al {KA NA:Option Addr}{kn kc nn nc:Nat}(t:Nat) (ht:t≤1000000) (w:World) :
  Calls Tryz.prog 54 #[.slice KA kn kc,.slice NA nn nc,.int .i64 (t:Int)] w fun e w'=>e=.returned (.bool (vw kn nn t))∧w=w':=by
 obtain⟨r,hr⟩:∃ r,t%2=r:=⟨_,rfl⟩
 have t1:(t:Int).tmod 2=(r:Int):=by rw[← hr];exact(Int.ofNat_tmod t 2).symm
 have t1':(t:Int)%2=(r:Int):=by rw[← hr];omega
 have HR:=Hh hr
 by_cases h1:(kn:Int)=16
 ·have JG:kn=16:=by omega
  by_cases h2:(7:Int)≤(nn:Int)
  ·by_cases h3:(nn:Int)≤13
   ·by_cases h4:(4:Int)≤(t:Int)
    ·by_cases h5:(t:Int)≤16
     ·by_cases h6:(r:Int)=0
      ·have E:Hid (vw kn nn t=true):=by rw[Hid,vw,hr];simp;omega
       clear hr JG;exact jes
      have E:Hid (vw kn nn t=false):=by rw[Hid,vw,hr];simp;omega
      have e6:((r:Int)==0)=false:=by rw[beq_eq_false_iff_ne];exact h6
      clear hr JG;exact jes
     exact jej
    exact jej
   exact jej
  exact jej
 have E:Hid (vw kn nn t=false):=by rw[Hid,vw];simp;omega
 have e1:((kn:Int)==16)=false:=by rw[beq_eq_false_iff_ne];exact h1
 clear hr;exact jes
def lZ (w:World) (r:Int×List UInt8) (e:Ending) (w':World):Prop:=∃ v,e=.returned (.tuple #[v,.int .i64 r.1])∧OwnB w' w.heap.size v r.2∧Below w.heap.size w w'
theorem N7 {KA:Option Addr}{kn kc:Nat}{key:List UInt8}(ov:kn=key.length) (ZR:kn≤kc) {NA:Option Addr}{nn nc:Nat}{nonce:List UInt8}(sV:nn=nonce.length)
  {AA:Option Addr} {an ac:Nat} {aad:List UInt8} (han:an=aad.length) (hac:an≤ac) {PA:Option Addr} {pn pc:Nat} {plain:List UInt8} (mq:pn=plain.length) (lK:pn≤pc)
  (t:Nat) (ht:t≤16) (w:World) (hsk:Src w KA (key.map zm)) (dR:Src w NA (nonce.map zm)) (X7:Src w AA (aad.map zm)) (dS:Src w PA (plain.map zm)) :
  Calls Tryz.prog 21 #[.slice KA kn kc,.slice NA nn nc,.slice AA an ac,.slice PA pn pc,.int .i64 (t:Int)] w (lZ w (qm key nonce aad plain t)):=by
 obtain⟨V,HK,HN,HA⟩:=jgN;have HP:=Hh (And.intro mq lK);have HT:=Hh ht;have HS:=Hh (And.intro hsk (And.intro dR (And.intro X7 dS)))
 have NO:∀ r:Int×List UInt8,qm key nonce aad plain t=r→r.2=[]→Hid (lZ w (qm key nonce aad plain t) (.returned (.tuple #[.slice none 0 0,.int .i64 r.1])) w):=by
  exact jdw
 cases hv:vw kn nn t with
 | false =>
  have N1:=NO (1,[]) (by rw[qm,← ov,← sV,if_pos hv]) rfl;rw[hv]at V;clear NO ov ZR sV han hac mq lK ht hsk dR X7 dS hv;exact jeP
 | true =>
 have HV:Hid (kn=16∧7≤nn∧nn≤13∧4≤t):=by
  exact jcI
 rw[hv]at V
 by_cases hbig:(4096:Int)<(an:Int)∨(4096:Int)<(pn:Int)
 ·have N1:=NO (8,[]) (by rw[qm,← ov,← sV,if_neg (by rw[hv];decide),if_pos (by omega)]) rfl;clear NO ov ZR sV han hac mq lK ht hsk dR X7 dS hv
  by_cases h1:(4096:Int)<(an:Int)
  ·clear hbig;exact jeP
  have h2:(4096:Int)<(pn:Int):=by omega
  clear hbig;exact jeP
 have E:Hid (qm key nonce aad plain t=(0,oV key nonce aad plain t)):=by rw[Hid,qm,← ov,← sV,if_neg (by rw[hv];decide),if_neg (by omega)]
 have h1:¬ (4096:Int)<(an:Int):=by omega
 have h2:¬ (4096:Int)<(pn:Int):=by omega
 have HB:Hid (an≤4096∧pn≤4096):=by rw[Hid];omega
 clear NO hbig ov ZR sV han hac mq lK ht hsk dR X7 dS hv;obtain rfl:kn=16:=HV.out.1;have NW:=Hh (TP (c:=kc) HK.out.1.symm w HS.out.1);go_enter Tryz.func21,Tryz.ntmps21
 go_wp2_with fail
 refine V.out.mono ?_
 rintro e w1 ⟨rfl,rfl⟩
 go_wp2_with fail
 refine NW.out.mono ?_
 rintro e w2 ⟨N,rfl,hN,hC,b2⟩
 have BS:=aj HK.out.1.symm N;have AU:=Hh (oH BS (nc:=nc) HN.out (by have:=HV.out;have:=HN.out;omega) (AA:=AA) (ac:=ac) HA.out.1 HA.out.2 (by have:=HB.out;have:=HA.out;omega) (PA:=PA) (pc:=pc) HP.out.1 HP.out.2 (by have:=HB.out;have:=HP.out;omega) t (by have:=HV.out;have:=HT.out;omega) w2 (HS.out.2.1.below b2) (HS.out.2.2.1.below b2) (HS.out.2.2.2.below b2) hC);have tl:=ep key nonce aad plain t;obtain⟨tg,MP⟩:∃ x,aR key nonce aad plain t=x:=⟨_,rfl⟩
 have MS:=Hh MP;rw[MP]at AU tl;clear MP NW V;go_wp2_with fail
 refine AU.out.mono ?_
 rintro e w3 ⟨rfl,xj⟩
 have dL:=hC.below xj;have b3:=b2.trans (xj.mono b2.size);have ST:=Hh (nX BS (nc:=nc) HN.out (by have:=HV.out;have:=HN.out;omega) (TA:=PA) (tc:=pc) HP.out.1 (by have:=HB.out;have:=HP.out;omega) tl w3 (HS.out.2.1.below b3) (HS.out.2.2.2.below b3) dL);clear hC b2 xj AU tl;go_wp2_with fail
 refine ST.out.mono ?_
 rintro e w4 ⟨v,rfl,pU,uR⟩
 have b4:=b3.trans (uR.mono b3.size);replace pU:=pU.more b3.size;obtain⟨A,c,rfl,hc,_⟩:=pU.form;rw[uA]at pU hc⊢;rw[← HP.out.1]at pU hc⊢;have ml:(pG key nonce tg).length=16:=ri _ _;obtain⟨z,hz⟩:∃ z,pG key nonce tg=z:=⟨_,rfl⟩
 have HZ:=Hh hz;rw[hz]at ml⊢;obtain⟨M,hM⟩:∃ M,w4.heap.size=M:=⟨_,rfl⟩
 have kA:=Blk.new w4 85 (zf (List.replicate 16 0));rw[hM]at kA
 have HM:Hid (w.heap.size≤M∧∀ g,Value.ownBlock (.slice A pn c)=some g→g<M):=by
  refine⟨by have:=b4.size;omega,fun g hg=>?_⟩
  have:=(pU.lt g hg).2
  omega
 have Pw:=Hh hM;have wg:=pU.alloc (.cells (zf (List.replicate 16 0)) 85);have b5:=b4.alloc b4.size (.cells (zf (List.replicate 16 0)) 85);clear dL b3 uR ST pU b4 hz hM;go_wp2_with (with_reducible refine zx ?_)
 unfold zC
 rw[Pw.out]
 refine zv rfl _ _ _ rfl rfl M (zf z) rfl rfl _ _ kA (by rw[zX,ml];kernel_rfl) (by rw[zX,ml];rfl) (xI _) fun w6 h6 ws=>?_
 have rU:=wg.kept ws (by
  cases hv:Value.ownBlock (.slice A pn c) with
  | none=>exact .inl rfl
  | some q=>exact .inr (fun e=>by injection e with e;have:=HM.out.2 q hv;omega))
 have b6:=b5.grown ws b5.size (by rintro q ⟨⟩;exact HM.out.1)
 have EL:Src w6 (some ⟨M,0,none⟩) ((z.take t).map zm):=fun _=>⟨M,0,rfl,fun j v hj=>h6.cell _ (by
  rw[Nat.zero_add];rw[List.getElem?_map,List.getElem?_take]at hj
  split at hj
  ·simpa [zf] using hj
  cases hj)⟩
 have Li:(t:Int)≤16:=by have:=HT.out;omega
 have Pz:Hid ((z.take t).length=t):=by rw[Hid,List.length_take,ml];have:=HT.out;omega
 clear kA wg b5 ws h6;go_wp2_with (at_builtin;refine zH ?_)
 refine zg rfl (.tmp 45) (.tmp 47) rfl w.heap.size _ (kZ key nonce plain) rfl (by rw[OwnB,uA,← HP.out.1];rw[OwnB,uA,← HP.out.1]at rU;exact rU) (some ⟨M,0,none⟩) t 16 (z.take t) rfl Pz.out.symm EL (by rw[uA,Pz.out];have:=HB.out;have:=HP.out;have:=HT.out;omega) b6.size fun v' w8 aY hg8 hat8=>?_
 have b8:=zY b6 hg8 (fun q hq=>(rU.lt q hq).1);clear rU b6 EL hg8 hat8;go_wp2_with fail
 go_ret2
 exact⟨v',by rw[E.out];rfl,by rw[E.out,oV,MS.out,HZ.out];exact aY,b8⟩
def wa:List UInt8:=[69,110,99,114,121,112,116,48]
def qi (g:Int):Nat:=if g=10 then 8 else if g=30 then 16 else 0
theorem Tv (g:Int):qi g=0∨qi g=8∨qi g=16:=by
 unfold qi
 split
 ·exact .inr (.inl rfl)
 split <;> simp
def jp (p u:Itm) (ext plain key nonce:List UInt8):Int×List UInt8:=qm key nonce (zZ (xA wa p ext [])) plain (qi (sR p u))
def rq (p u:Itm) (ext plain key nonce:List UInt8):Int :=
 if zL p u=false then 1 else if qi (sR p u)=0 then 12 else if xy wa p u ext []≠0 then xy wa p u ext [] else(jp p u ext plain key nonce).1
def oW (p u:Itm) (ext plain key nonce:List UInt8):Ev:=if rq p u ext plain key nonce=0 then⟨p,u,(jp p u ext plain key nonce).2,[]⟩ else fF
def ESealOut (w:World) (H:Snap) (p u:Itm) (ext plain key nonce:List UInt8) (e:Ending) (w':World):Prop :=
 ∃ a H',e=.returned (.tuple #[.agg (evQ (oW p u ext plain key nonce) a),.int .i64 (rq p u ext plain key nonce)])∧Grows w H w' H'∧EvA H' (oW p u ext plain key nonce) a
theorem ESealOut.bad {w w':World}{H:Snap}{p u:Itm}{ext plain key nonce:List UInt8}{c:Int}{e:Ending}(hc:rq p u ext plain key nonce=c) (h0:c≠0) (hG:Grows w H w' H) (he:e=.returned (.tuple #[.agg yT,.int .i64 c])):ESealOut w H p u ext plain key nonce e w':=by
 have hv:oW p u ext plain key nonce=fF:=by rw[oW,if_neg (by omega)]
 exact jdN
theorem ESealOut.good {w w':World}{H H':Snap}{p u:Itm}{ext plain key nonce:List UInt8}{e:Ending}{xa xb:Ad}{BA:Option Addr}{bn bc:Nat}(hc:rq p u ext plain key nonce=0) (hG:Grows w H w' H') (hp:IsItem H' xa.ba xa.bc xa.ia xa.ic p) (hu:IsItem H' xb.ba xb.bc xb.ia xb.ic u)
  {l:List UInt8} (hl:(jp p u ext plain key nonce).2=l) (mh:bn=l.length) (hb:IsBytes H' BA bc l) (he:e=.returned (.tuple #[.agg (evC p xa u xb BA bn bc none 0 0),.int .i64 0])):ESealOut w H p u ext plain key nonce e w':=by
 have hv:oW p u ext plain key nonce=⟨p,u,l,[]⟩:=by rw[oW,if_pos hc,hl]
 refine⟨⟨xa,xb,BA,bc,none,0⟩,H', ?_,hG, ?_⟩
 ·rw[hv,hc,he,mh];rfl
 rw[hv]
 exact⟨hp,hu,hb,IsBytes.nil _⟩
theorem Xi {p u:Itm}{ext plain key nonce:List UInt8}(hv:zL p u=true) (ha:qi (sR p u)≠0) (hi:xy wa p u ext []≠0):rq p u ext plain key nonce=xy wa p u ext []:=by
 rw[rq,if_neg (by simp[hv]),if_neg ha,if_pos hi]
theorem eD {p u:Itm}{ext plain key nonce:List UInt8}(hv:zL p u=true) (ha:qi (sR p u)≠0) (hi:xy wa p u ext []=0):rq p u ext plain key nonce=(jp p u ext plain key nonce).1:=by
 rw[rq,if_neg (by simp[hv]),if_neg ha,if_neg (by omega)]
theorem IsRows.nil0 (H:Snap):IsRows H none 0 []:=⟨Nat.le_refl _,by omega,fun h=>by simp at h⟩
end Go.Proofs.YtliomcphdnppnaaGreatDoor
