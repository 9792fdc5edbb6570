/- squeezed. Walks: the tag, not yet masked, by -/
import Derived.Test.YtliomcphdnppnaaGreatDoorK30
import Derived.Test.YtliomcphdnppnaaGreatDoorK23
set_option linter.unusedVariables false
set_option linter.unusedSimpArgs false
set_option maxRecDepth 100000
set_option maxHeartbeats 25600000
namespace Go.Proofs.YtliomcphdnppnaaGreatDoor
open Go.RowKit
theorem my (key x b:List UInt8):nR key x b=sf (qz key) b x ((b.length+15)/16):=(U0 key b x _).symm
theorem Y5 {m:Nat}(h:m<256):zv (UInt8.ofNat m)=.int .u8 (m:Int):=by
 rw[zv,UInt8.toNat_ofNat',Nat.mod_eq_of_lt h]
theorem rP {cg:Nat}{L key:List UInt8}(hBS:pM (qz key) cg L) {NA:Option Addr}{nn nc:Nat}{nonce:List UInt8}(wd:nn=nonce.length) (Te:7≤nonce.length∧nonce.length≤13)
  {AA:Option Addr} {an ac:Nat} {aad:List UInt8} (han:an=aad.length) (hac:an≤ac) (hal:aad.length≤1048576) {PA:Option Addr} {pn pc:Nat} {plain:List UInt8} (hpn:pn=plain.length) (pK:pn≤pc) (ng:plain.length≤1048576)
  (t:Nat) (ht:4≤t∧t≤16) (w:World) (hsn:Src w NA (nonce.map zv)) (nh:Src w AA (aad.map zv)) (ni:Src w PA (plain.map zv)) (hC:Blk w cg 126 (zr L)) :
  Calls Tryz.prog 57 #[.pointer (some ⟨cg,0,none⟩),.slice NA nn nc,.slice AA an ac,.slice PA pn pc,.int .i64 (t:Int)] w fun e w'=>e=.returned (.agg (zr (qF key nonce aad plain t)))∧Below w.heap.size w w':=by
 have h0:=Blk.new w 85 (zr (List.replicate 16 0));have b0:=zq w (.cells (zr (List.replicate 16 0)) 85);obtain⟨w1,qe⟩:∃ w1,w.alloc (.cells (zr (List.replicate 16 0)) 85)=w1:=⟨_,rfl⟩
 have vT:w1.heap.size=w.heap.size+1:=by rw[← qe,zu]
 rw[qe]at h0 b0;have TQ:=Hh (And.intro qe vT);have HN:=Hh (And.intro wd Te);have HA:=Hh (And.intro han (And.intro hac hal));have HP:=Hh (And.intro hpn (And.intro pK ng));have HT:=Hh ht;have HS:=Hh (And.intro hsn (And.intro nh ni));have HC:=Hh hC;have CH:=Hh (ZD cg w1);obtain⟨X,hX⟩:∃ X,w1.heap.size+1=X:=⟨_,rfl⟩
 obtain⟨CB,RD⟩:∃ CB,w1.heap.size=CB:=⟨_,rfl⟩
 rw[hX,RD]at CH;have gw:Hid (w.heap.size<CB∧CB<X∧cg<w.heap.size):=by have:=hC.lt;rw[Hid];omega
 have J1:=Hh RD;clear wd Te han hac hal hpn pK ng ht hsn nh ni hC qe vT hX RD;go_enter Tryz.func57,Tryz.ntmps57
 go_upto_region 1 with fail
 rw[show w.alloc (.cells #[.int .u8 0,.int .u8 0,.int .u8 0,.int .u8 0,.int .u8 0,.int .u8 0,.int .u8 0,.int .u8 0,.int .u8 0,.int .u8 0,.int .u8 0,.int .u8 0,.int .u8 0,.int .u8 0,.int .u8 0,.int .u8 0] 85)=w1 from TQ.out.1];go_wp2_with fail
 refine CH.out.mono ?_
 rintro e w2 ⟨rfl,df,hX,zG⟩
 have b2:=b0.trans (zG.mono (by have:=gw.out;omega));have h2:=h0.below (by rw[J1.out];exact zG);clear h0 b0 zG CH;obtain⟨q,hq⟩:∃ q,t/2=q:=⟨_,rfl⟩
 obtain⟨q1,fh⟩:∃ x,q-1=x:=⟨_,rfl⟩
 obtain⟨q2,fj⟩:∃ x,8*q1=x:=⟨_,rfl⟩
 obtain⟨q3,G7⟩:∃ x,q2+14=x:=⟨_,rfl⟩
 obtain⟨q4,Pk⟩:∃ x,q3-nn=x:=⟨_,rfl⟩
 have t1:(t:Int).tdiv 2=(q:Int):=by rw[← hq];exact(Int.ofNat_tdiv t 2).symm
 have t1':(t:Int)/2=(q:Int):=by rw[← hq];omega
 have W0:IntKind.i64.wrap (q:Int)=(q:Int):=zP (by have:=HT.out;omega);have W1:IntKind.i64.wrap ((q:Int)-1)=(q1:Int):=by rw[show(q:Int)-1=(q1:Int) by have:=HT.out;omega];exact zP (by have:=HT.out;omega)
 have W2:IntKind.i64.wrap (8*(q1:Int))=(q2:Int):=by rw[show 8*(q1:Int)=(q2:Int) by omega];exact zP (by have:=HT.out;omega)
 have W3:IntKind.i64.wrap ((q2:Int)+14)=(q3:Int):=by rw[show(q2:Int)+14=(q3:Int) by omega];exact zP (by have:=HT.out;omega)
 have W4:IntKind.i64.wrap ((q3:Int)-(nn:Int))=(q4:Int):=by rw[show(q3:Int)-(nn:Int)=(q4:Int) by have:=HT.out;have:=HN.out;omega];exact zP (by have:=HT.out;omega)
 have W5:IntKind.u8.wrap (q4:Int)=(q4:Int):=by rw[IntKind.wrap_u8];have:=HT.out;omega
 have W6:IntKind.u8.wrap ((q4:Int)+64)=((q4+64:Nat):Int):=by rw[IntKind.wrap_u8];have:=HT.out;omega
 have W7:(q4:Int)%256=(q4:Int):=by have:=HT.out;omega
 have W8:((q4:Int)+64)%256=((q4+64:Nat):Int):=by have:=HT.out;omega
 have HF:Hid (vl nonce aad t=UInt8.ofNat (q4+if an=0 then 0 else 64)):=by
  rw[Hid,vl,← HA.out.1];congr 1
  have:=HN.out;have:=HT.out
  omega
 have HQ:Hid (q4<150):=by have:=HT.out;rw[Hid];omega
 clear hq fh fj G7 Pk;go_upto_if 27 with fail
 go_cut [12] (fun s12 wx=>s12=zv (vl nonce aad t)∧Blk wx CB 83 #[.pointer (some ⟨cg,0,none⟩)]∧Blk wx X 85 (zr (List.replicate 16 0))∧Blk wx w.heap.size 85 (zr (List.replicate 16 0))∧Below w.heap.size w wx)
 case first =>
  by_cases ha:0<an
  ·have dT:(0:Int)<(an:Int):=by omega
   have E:Hid (zv (vl nonce aad t)=.int .u8 ((q4+64:Nat):Int)):=by rw[Hid,HF.out,if_neg (by omega),Y5 (by have:=HQ.out;omega)]
   go_wp2_with fail
   go_meet
   exact⟨by rw[E.out,Int.natCast_add];rfl,df,hX,h2,b2⟩
  have dT:¬ (0:Int)<(an:Int):=by omega
  have E:Hid (zv (vl nonce aad t)=.int .u8 (q4:Int)):=by rw[Hid,HF.out,if_pos (by omega),Nat.add_zero,Y5 (by have:=HQ.out;omega)]
  go_wp2_with fail
  go_meet
  exact⟨by rw[E.out],df,hX,h2,b2⟩
 case rest =>
 clear df hX h2 b2 t1 t1' W0 W1 W2 W3 W4 W5 W6 W7 W8;obtain⟨rfl,df,hX,h2,b2⟩:=hcut;have CT:=Hh (n9 (vl nonce aad t) (c:=nc) HN.out.1 HN.out.2.2 pn (by have:=HP.out;omega) wc (HS.out.1.below b2));obtain⟨f,hf⟩:∃ f,vl nonce aad t=f:=⟨_,rfl⟩
 have Ed:=Hh hf;rw[hf]at CT⊢;clear hf HF;go_wp2_with fail
 refine CT.out.mono ?_
 rintro e w3 ⟨rfl,xn⟩
 have sD:=tU f HN.out.2.2 pn;obtain⟨ct,im⟩:∃ l,vC f nonce pn=l:=⟨_,rfl⟩
 have dO:=Hh im;rw[im]at sD⊢;have Nm:=df.below xn;have Kw:=hX.below xn;have h3:=h2.below xn;have b3:=b2.trans (xn.mono b2.size);obtain⟨M,hM⟩:∃ M,w3.heap.size=M:=⟨_,rfl⟩
 have hz:=Blk.new w3 85 (zr (List.replicate 16 0));rw[hM]at hz;have HM:Hid (X<M):=by have:=Kw.lt;rw[Hid];omega
 have Nn:=Nm.alloc (.cells (zr (List.replicate 16 0)) 85);have I1:=Kw.alloc (.cells (zr (List.replicate 16 0)) 85);have h4:=h3.alloc (.cells (zr (List.replicate 16 0)) 85);have b4:=b3.alloc b3.size (.cells (zr (List.replicate 16 0)) 85);have SF:=Hh hM;clear CT xn df hX h2 b2 im Nm Kw h3 b3 hM;go_wp2_with (with_reducible refine zx ?_)
 unfold yy
 rw[SF.out]
 refine zt rfl _ _ _ rfl rfl M (zr ct) rfl rfl _ _ hz (by rw[zo,sD];kernel_rfl) (by rw[zo,sD];rfl) (ym _) fun w5 h5c yF=>?_
 have R9:=Nn.grown yF (by intro e;injection e with e;have:=HM.out;have:=gw.out;omega);have PU:=I1.grown yF (by intro e;injection e with e;have:=HM.out;omega);have h5:=h4.grown yF (by intro e;injection e with e;have:=HM.out;have:=gw.out;omega);have b5:=b4.grown yF b4.size (by rintro q ⟨⟩;have:=HM.out;have:=gw.out;omega)
 have T1:=Hh (kj (uH key) (L:=L) hBS (A:=some ⟨M,0,none⟩) (n:=16) (c:=16) sD.symm (Nat.le_refl _) (by omega) (by intro _ a ha;injection ha with ha;subst ha;have:=HM.out;show M≠X;omega) (by have:=gw.out;omega) (by have:=gw.out;omega) w5
  (fun _=>⟨M,0,rfl,fun j v hj=>h5c.cell _ (by rw[Nat.zero_add];simpa [zr] using hj)⟩) (x:=List.replicate 16 0) rfl PU R9 (HC.out.below b5))
 clear hz Nn I1 h4 b4 yF;go_wp2_with fail
 refine T1.out.mono ?_
 rintro e w6 ⟨rfl,Yp,xO⟩
 rw[← my]at Yp;have Y7:=R9.grown xO (by intro e;injection e with e;have:=gw.out;omega);have h6:=h5.grown xO (by intro e;injection e with e;have:=gw.out;omega);have b6:=b5.grown xO b5.size (by rintro q ⟨⟩;have:=gw.out;omega);clear T1 PU R9 h5 b5 xO h5c;obtain⟨x1,jn⟩:∃ x,nR key (List.replicate 16 0) ct=x:=⟨_,rfl⟩
 have Rs:x1.length=16:=by rw[← jn];exact sV _ _ rfl
 have Eu:=Hh jn;rw[jn]at Yp;clear jn;go_upto_if 40 with fail
 go_cut [] (fun wx=>Blk wx X 85 (zr (if an=0 then x1 else nR key x1 (rF aad)))∧Blk wx CB 83 #[.pointer (some ⟨cg,0,none⟩)]∧Blk wx w.heap.size 85 (zr (List.replicate 16 0))∧Below w.heap.size w wx)
 case first =>
  by_cases ha:0<an
  ·have dT:(0:Int)<(an:Int):=by omega
   have hq:(an:Int)/256=((an/256:Nat):Int):=by omega
   obtain⟨q,fj⟩:∃ q,an/256=q:=⟨_,rfl⟩
   rw[fj]at hq;have U1:=dB q;have U2:=dB an;have WB:Hid (UInt8.ofNat (q%256)::UInt8.ofNat (an%256)::aad=rF aad):=by rw[Hid,rF,← HA.out.1,fj]
   obtain⟨u1,Ij⟩:∃ u,UInt8.ofNat (q%256)=u:=⟨_,rfl⟩
   obtain⟨u2,St⟩:∃ u,UInt8.ofNat (an%256)=u:=⟨_,rfl⟩
   rw[Ij]at U1 WB;rw[St]at U2 WB;have m1:(q:Int)%256=(u1.toNat:Int):=by have h:=U1;rw[IntKind.wrap_u8]at h;injection h with _ h;exact h.symm
   have m2:(an:Int)%256=(u2.toNat:Int):=by have h:=U2;rw[IntKind.wrap_u8]at h;injection h with _ h;exact h.symm
   have hO:=OwnB.lit w6 w6.heap.size [u1,u2] #[zv u1,zv u2] 2 rfl rfl (Nat.le_refl _) (by simp);have jS:=Yp.alloc (.cells #[zv u1,zv u2] 5);have No:=Y7.alloc (.cells #[zv u1,zv u2] 5);have h7:=h6.alloc (.cells #[zv u1,zv u2] 5);have b7:=b6.alloc b6.size (.cells #[zv u1,zv u2] 5);obtain⟨G,hG⟩:∃ G,w6.heap.size=G:=⟨_,rfl⟩
   have HG:Hid (X<G∧CB<G∧w.heap.size<G):=by have:=Yp.lt;have:=Y7.lt;have:=h6.lt;rw[Hid];omega
   have GU:=Hh hG;rw[hG]at hO;clear Yp Y7 h6 b6 Ij St U1 U2 fj hG;go_wp2_with (at_builtin;refine zO ?_)
   unfold yy
   try rw[GU.out]
   refine zn rfl (.tmp 49) (.tmp 50) rfl G _ [u1,u2] rfl hO AA an ac aad rfl HA.out.1 (HS.out.2.1.below b7) (by have:=HA.out;simp;omega) (by rw[zu,GU.out];omega) fun v' w8 na hg8 hat8=>?_
   obtain⟨A8,c8,rfl,IA,_⟩:=na.form;rw[show [u1,u2]++aad=rF aad from WB.out]at na IA;have Yq:=jS.grown hg8 (by show some G≠some (X);intro e;injection e with e;have:=HG.out;omega);have RC:=No.grown hg8 (by show some G≠some (CB);intro e;injection e with e;have:=HG.out;omega);have h8:=h7.grown hg8 (by show some G≠some (w.heap.size);intro e;injection e with e;have:=HG.out;omega);have b8:=b7.grown hg8 b7.size (by show ∀ q,some G=some q→w.heap.size≤q;rintro q ⟨⟩;have:=HG.out;omega)
   have T2:=Hh (kj (uH key) (L:=L) hBS (A:=A8) (n:=(rF aad).length) (c:=c8) rfl IA (by have:=HA.out;simp[rF];omega) (by
     intro _ a ha e
     have h1:=(na.lt a.block (by rw[ha];rfl)).1;have:=HG.out
     omega) (by have:=gw.out;omega) (by have:=gw.out;omega) w8 na.src Rs Yq RC (HC.out.below b8))
   have pB:([u1,u2]++aad).length=(rF aad).length:=congrArg List.length WB.out;rw[pB];clear hO hg8 hat8 jS No h7 b7 pB;go_wp2_with fail
   refine T2.out.mono ?_
   rintro e w9 ⟨rfl,YZ,xr⟩
   rw[← my]at YZ;have J9:=RC.grown xr (by intro e;injection e with e;have:=gw.out;omega);have h9:=h8.grown xr (by intro e;injection e with e;have:=gw.out;omega);have b9:=b8.grown xr b8.size (by rintro q ⟨⟩;have:=gw.out;omega);clear T2 Yq RC h8 b8 xr na;go_wp2_with fail
   go_meet
   exact⟨by rw[if_neg (by omega)];exact YZ,J9,h9,b9⟩
  have dT:¬ (0:Int)<(an:Int):=by omega
  go_wp2_with fail
  go_meet
  exact⟨by rw[if_pos (by omega)];exact Yp,Y7,h6,b6⟩
 case rest =>
 clear Yp Y7 h6 b6;obtain⟨hX,df,h0,b0⟩:=hcut;obtain⟨x2,iw⟩:∃ x,(if an=0 then x1 else nR key x1 (rF aad))=x:=⟨_,rfl⟩
 have OV:x2.length=16:=by rw[← iw];split;exact Rs;exact sV _ _ Rs
 have Q2:Hid (qF key nonce aad plain t=nR key x2 plain):=by
  rw[Hid,qF,Ed.out,← HP.out.1,dO.out,Eu.out,← iw,← HA.out.1]
 rw[iw]at hX;have T3:=Hh (kj (uH key) (L:=L) hBS (A:=PA) (n:=pn) (c:=pc) HP.out.1 HP.out.2.1 (by have:=HP.out;omega) (Src.apart HS.out.2.2 (by have:=gw.out;omega)) (by have:=gw.out;omega) (by have:=gw.out;omega) _ (HS.out.2.2.below b0) OV hX df (HC.out.below b0));have zl:=sV key plain OV;rw[← my]at T3;obtain⟨z,hz⟩:∃ z,nR key x2 plain=z:=⟨_,rfl⟩
 rw[hz]at T3 zl Q2;clear iw hz;go_wp2_with fail
 refine T3.out.mono ?_
 rintro e w11 ⟨rfl,Us,tZ⟩
 have Q8:=h0.grown tZ (by intro e;injection e with e;have:=gw.out;omega);have b11:=b0.grown tZ b0.size (by rintro q ⟨⟩;have:=gw.out;omega);clear T3 hX df h0 b0 tZ Us;go_wp2_with (with_reducible refine zx ?_)
 refine zt rfl _ _ _ rfl rfl w.heap.size (zr z) rfl rfl _ _ Q8 (by rw[zo,zl];kernel_rfl) (by rw[zo,zl];rfl) (ym _) fun w12 VW hg12=>?_
 have b12:=b11.grown hg12 b11.size (by rintro q ⟨⟩;omega);clear Q8 b11 hg12;go_wp2_with fail
 exact zR rfl rfl VW rfl rfl (by rw[zo,zl];kernel_rfl) rfl ⟨by rw[Q2.out],b12⟩
theorem nj {fn:Func}{p u:Tmp}{ty:TypeId}(h:fn.results=#[.tmp u,.cell p ty]) (tmps:Array Value) (P:Program) (w:World) :
  (results fn tmps).run P w =
   ((asAddr (tmps.getD p undef)).run P w).andThen fun a w₁=>((loadVar ty a).run P w₁).andThen fun x w₂=>.ok (.tuple #[tmps.getD u undef,x]) w₂:=by
 simp only[results,h]
 simp[Sem.run_bind,Result.andThen]
theorem gB {fn:Func}{p u:Tmp}{ty:TypeId}{a:Act}{w:World}{R:Ending→World→Prop}{g:Nat}{t:TypeId}{cs:Array Value}{d:TypeDesc}(h:fn.results=#[.tmp u,.cell p ty]) (hp:a.tmps.getD p undef=.pointer (some ⟨g,0,none⟩)) (hg:Blk w g t cs)
  (hd:(match d with | .struct _ | .array _ _=>true | _=>false)=true) (hu:Tryz.prog.underlying ty=some d) (hi:(Tryz.prog.info? ty).map (·.size)=some cs.size)
  (hdf:a.defers=[]) (hR:R (.returned (.tuple #[a.tmps.getD u undef,.agg cs])) w):bodyPost Tryz.prog fn R .ret a w:=by
 refine bodyPost_ret (v:=.tuple #[a.tmps.getD u undef,.agg cs]) ?_ hdf hR
 rw[nj h,hp];have L0:=run_loadVar_row (P:=Tryz.prog) w g t ty cs (0,0) d hg hu (by cases d <;> first | exact hd | rfl | cases hd) hi
 simp[asAddr,L0,Result.andThen]
theorem lH {n i:Nat}(f:Nat→UInt8) (a:List UInt8) (h:n≤i):wW n f a i=(List.range n).map f:=by
 apply List.map_congr_left
 intro j hj
 rw[if_pos (by have:j<n:=(by simpa using hj);omega)]
theorem Uf (key nonce text:List UInt8) {j k:Nat}(h1:16*j≤k) (h2:k<16*j+16):rH key nonce text k=at_ text k ^^^ at_ (qz key (vC (firstS nonce) nonce (j+1))) (k-16*j):=by
 rw[rH,show k/16=j by omega,show k%16=k-16*j by omega]
theorem qm {cg:Nat}{L key:List UInt8}(hBS:pM (qz key) cg L) {NA:Option Addr}{nn nc:Nat}{nonce:List UInt8}(wd:nn=nonce.length) (Te:7≤nonce.length∧nonce.length≤13)
  {TA:Option Addr} {tn tc:Nat} {text:List UInt8} (rL:tn=text.length) (htl:text.length≤1048576) {tag:List UInt8} (hg:tag.length=16)
  (w:World) (hsn:Src w NA (nonce.map zv)) (vR:Src w TA (text.map zv)) (hC:Blk w cg 126 (zr L)) :
  Calls Tryz.prog 56 #[.pointer (some ⟨cg,0,none⟩),.slice NA nn nc,.slice TA tn tc,.agg (zr tag)] w fun e w' =>
   ∃ v,e=.returned (.tuple #[v,.agg (zr (uv key nonce tag))])∧OwnB w' w.heap.size v (rj key nonce text)∧Below w.heap.size w w':=by
 have h0:=(Blk.new w 85 (zr tag)).alloc (.cells (zr (List.replicate 16 0)) 85);have h1:=Blk.new (w.alloc (.cells (zr tag) 85)) 85 (zr (List.replicate 16 0));have b0:=zq w (.cells (zr tag) 85);have b1:=b0.alloc b0.size (.cells (zr (List.replicate 16 0)) 85);rw[zu]at h1;obtain⟨w1,qe⟩:∃ w1,(w.alloc (.cells (zr tag) 85)).alloc (.cells (zr (List.replicate 16 0)) 85)=w1:=⟨_,rfl⟩
 have vT:w1.heap.size=w.heap.size+2:=by rw[← qe,zu,zu]
 rw[qe]at h0 h1 b1;have TQ:=Hh (And.intro qe vT);have HN:=Hh (And.intro wd Te);have HT:=Hh (And.intro rL htl);have HG:=Hh hg;have HS:=Hh (And.intro hsn (And.intro vR hC));have CL:=Hh (mR w1 TA text tn tc rL (by omega) (vR.below b1));have DC:=Hh hC.lt;clear wd Te rL htl hg hsn vR hC qe vT b0;go_enter Tryz.func56,Tryz.ntmps56
 go_upto_region 1 with fail
 rw[show(w.alloc (.cells (zr tag) 85)).alloc (.cells #[.int .u8 0,.int .u8 0,.int .u8 0,.int .u8 0,.int .u8 0,.int .u8 0,.int .u8 0,.int .u8 0,.int .u8 0,.int .u8 0,.int .u8 0,.int .u8 0,.int .u8 0,.int .u8 0,.int .u8 0,.int .u8 0] 85)=w1 from TQ.out.1];go_wp2_with fail
 refine CL.out.mono ?_
 rintro e w2 ⟨v,rfl,hf⟩
 have hO:OwnB w2 (w.heap.size+2) v text:=TQ.out.2 ▸ hf.1;have b2:=b1.trans (hf.2.mono (by have:=TQ.out.2;omega));have Kb:=h0.below hf.2;have VW:=h1.below hf.2;obtain⟨A,c,rfl,hc,_⟩:=hO.form;rw[← HT.out.1]at hO⊢;clear h0 h1 b1 hf CL hc;have W1:IntKind.i64.wrap (14-(nn:Int))=((14-nn:Nat):Int):=by have:=HN.out;rw[show 14-(nn:Int)=((14-nn:Nat):Int) by omega];exact zP (by omega)
 obtain⟨f0,L5⟩:∃ x,14-nn=x:=⟨_,rfl⟩
 rw[L5]at W1;have W2:IntKind.u8.wrap (f0:Int)=(f0:Int):=by rw[IntKind.wrap_u8];omega
 have W3:(f0:Int)%256=(f0:Int):=by omega
 obtain⟨F,hF⟩:∃ f,firstS nonce=f:=⟨_,rfl⟩
 have HF:Hid (Value.int .u8 (f0:Int)=zv F∧firstS nonce=F):=by
  refine⟨?_,hF⟩
  rw[← hF,firstS,← HN.out.1,L5,Y5 (by omega)]
 rw[← wl (rH key nonce text) (show text.length=tn from HT.out.1.symm)]at hO;clear L5 hF;go_upto_region 3 with fail
 rw[HF.out.1];clear W1 W2 W3;go_wp2_with fail
 go_loopw [12] (fun v12 wr=>∃ j i:Nat,v12=.int .i64 (i:Int)∧Hid (i=16*j∧i≤tn+15)∧OwnB wr (w.heap.size+2) (.slice A tn c) (wW tn (rH key nonce text) text i)∧Blk wr w.heap.size 85 (zr tag)∧Blk wr (w.heap.size+1) 85 (zr (List.replicate 16 0))∧Below w.heap.size w wr) (fun v12 _=>(tn+16-intOf v12).toNat)
 case atStart=>exact⟨0,0,rfl,⟨rfl,by omega⟩,hO,Kb,VW,b2⟩
 case round =>
 clear hO Kb VW b2;obtain⟨j,i,rfl,HJ,hO,h0,h1,hb⟩:=hrel
 by_cases hin:(i:Int)<(tn:Int)
 ·have T1:(i:Int).tdiv 16=(j:Int):=by rw[← show i/16=j by have:=HJ.out;omega];exact(Int.ofNat_tdiv i 16).symm
  have T1':(i:Int)/16=(j:Int):=by have:=HJ.out;omega
  have W0:IntKind.i64.wrap (j:Int)=(j:Int):=zP (by have:=HJ.out;have:=HT.out;omega);have W4:IntKind.i64.wrap ((j:Int)+1)=((j+1:Nat):Int):=by rw[show(j:Int)+1=((j+1:Nat):Int) by omega];exact IntWalk.i64_in _ (by have:=HJ.out;have:=HT.out;omega)
  obtain⟨j1,QM⟩:∃ x,j+1=x:=⟨_,rfl⟩
  rw[QM]at W4;have CT:=Hh (n9 F (c:=nc) HN.out.1 HN.out.2.2 j1 (by have:=HJ.out;have:=HT.out;omega) wr (HS.out.1.below hb));have Eg:=Hh QM;clear QM;go_wp2_with fail
  refine CT.out.mono ?_
  rintro e w3 ⟨rfl,xn⟩
  have sD:=tU F HN.out.2.2 j1;have BL:=Hh (hBS (vC F nonce j1) w3 sD (HS.out.2.2.below (hb.trans (xn.mono hb.size))));have oP:=hO.below xn;have Q5:=h0.below xn;have Oy:=h1.below xn;have b3:=hb.trans (xn.mono hb.size);clear hO h0 h1 hb xn CT sD T1 T1' W0 W4;go_wp2_with fail
  refine BL.out.mono ?_
  rintro e w4 ⟨rfl,sK⟩
  have pH:=oP.below sK;have Q6:=Q5.below sK;have SQ:=Oy.below sK;have b4:=b3.trans (sK.mono b3.size);obtain⟨s,hs⟩:∃ s,qz key (vC F nonce j1)=s:=⟨_,rfl⟩
  have sl:s.length=16:=by rw[← hs];exact uH _ _
  have Ep:=Hh hs;rw[hs];obtain⟨M,hM⟩:∃ M,w4.heap.size=M:=⟨_,rfl⟩
  have hz:=Blk.new w4 85 (zr (List.replicate 16 0));rw[hM]at hz
  have HM:Hid (w.heap.size+1<M∧∀ g,Value.ownBlock (.slice A tn c)=some g→g<M):=by
   refine⟨by have:=SQ.lt;omega,fun g hg=>?_⟩
   have:=(pH.lt g hg).2
   omega
  have SF:=Hh hM;have xS:=pH.alloc (.cells (zr (List.replicate 16 0)) 85);have Ox:=Q6.alloc (.cells (zr (List.replicate 16 0)) 85);have Oz:=SQ.alloc (.cells (zr (List.replicate 16 0)) 85);have b5:=b4.alloc b4.size (.cells (zr (List.replicate 16 0)) 85);clear oP Q5 Oy b3 sK BL pH Q6 SQ b4 hs hM;go_wp2_with (with_reducible refine zx ?_)
  unfold yy
  rw[SF.out]
  refine zt rfl _ _ _ rfl rfl M (zr s) rfl rfl _ _ hz (by rw[zo,sl];kernel_rfl) (by rw[zo,sl];rfl) (ym _) fun w6 h6s xO=>?_
  have rq:=xS.kept xO (by
   cases hv:Value.ownBlock (.slice A tn c) with
   | none=>exact .inl rfl
   | some q=>exact .inr (fun e=>by injection e with e;have:=HM.out.2 q hv;omega))
  have Q7:=Ox.grown xO (by intro e;injection e with e;have:=HM.out.1;omega);have VX:=Oz.grown xO (by intro e;injection e with e;have:=HM.out.1;omega);have b6:=b5.grown xO b5.size (by rintro q ⟨⟩;have:=HM.out.1;omega);have lw:=Hh sl;clear hz xS Ox Oz b5 xO sl;obtain⟨i16,nS⟩:∃ x,i+16=x:=⟨_,rfl⟩
  have W5:IntKind.i64.wrap ((i:Int)+16)=(i16:Int):=by rw[← nS,Int.natCast_add];exact IntWalk.i64_in _ (by have:=HT.out;omega)
  obtain⟨lim,OE⟩:∃ x,min tn i16=x:=⟨_,rfl⟩
  have jK:=Hh (And.intro nS OE);clear nS OE;go_wp2_with fail
  go_loopw [14] (fun v14 wx=>∃ k:Nat,v14=.int .i64 (k:Int)∧i≤k∧k≤lim∧OwnB wx (w.heap.size+2) (.slice A tn c) (wW tn (rH key nonce text) text k)∧Blk wx M 85 (zr s)∧Blk wx w.heap.size 85 (zr tag)∧Blk wx (w.heap.size+1) 85 (zr (List.replicate 16 0))∧Below w.heap.size w wx) (fun v14 _=>(lim-intOf v14).toNat)
  case atStart=>exact⟨i,rfl,Nat.le_refl _,by have:=jK.out;omega,rq,h6s,Q7,VX,b6⟩
  case round =>
  clear rq h6s Q7 VX b6;obtain⟨k,rfl,IL,hk,hO,hs,h0,h1,hb⟩:=hrel;go_upto_region 8 with fail
  go_cut [44] (fun s44 wy=>s44=.bool (decide (k<lim))∧OwnB wy (w.heap.size+2) (.slice A tn c) (wW tn (rH key nonce text) text k)∧Blk wy M 85 (zr s)∧Blk wy w.heap.size 85 (zr tag)∧Blk wy (w.heap.size+1) 85 (zr (List.replicate 16 0))∧Below w.heap.size w wy)
  case first =>
   by_cases hm:(i16:Int)<(tn:Int)
   ·go_wp2_with fail
    go_meet
    exact⟨(by rw[show lim=i16 by have:=jK.out;omega];try (congr 1;rw[decide_eq_decide];omega)),hO,hs,h0,h1,hb⟩
   go_wp2_with fail
   go_meet
   exact⟨(by rw[show lim=tn by have:=jK.out;omega];try (congr 1;rw[decide_eq_decide];omega)),hO,hs,h0,h1,hb⟩
  case rest =>
  clear hO hs h0 h1 hb;obtain⟨rfl,hO,hs,h0,h1,hb⟩:=hcut
  by_cases rO:k<lim
  ·rw[decide_eq_true rO];have dp:k<tn:=by have:=jK.out;omega
   have TZ:16*j≤k∧k<16*j+16:=by have:=jK.out;have:=HJ.out;omega
   obtain⟨d,hd⟩:∃ d,k-16*j=d:=⟨_,rfl⟩
   obtain⟨u,hu⟩:∃ u,at_ text k=u:=⟨_,rfl⟩
   obtain⟨v,hv⟩:∃ v,at_ s d=v:=⟨_,rfl⟩
   have HV:Hid (rH key nonce text k=u ^^^ v):=by
    rw[Hid,Uf key nonce text TZ.1 TZ.2,HF.out.2,Eg.out,Ep.out,hd,hu,hv]
   have S1:=Hh (vZ (n:=tn) (i:=k) (rH key nonce text) text dp);rw[HV.out]at S1;have QU:k<(wW tn (rH key nonce text) text k).length:=by rw[xe];exact dp
   obtain⟨gq,cur,e,QJ,WI,mN,jO⟩:=hO.store_ (k:=k) QU
   cases e
   have aG:=Hh jO;have DM:gq<M:=HM.out.2 gq rfl
   have cl:wc.cell? ⟨gq,k,none⟩=some (zv u):=by
    obtain⟨b,off,e,hc⟩:=hO.src (by intro h;rw[List.map_eq_nil_iff]at h;rw[h]at QU;simp at QU)
    cases e
    have h:=hc k (zv (wW tn (rH key nonce text) text k)[k]) (by rw[List.getElem?_map,List.getElem?_eq_getElem QU];rfl);rw[← lK QU,qx _ _ dp,hu,Nat.zero_add]at h
    exact h
   have c0:=uV (Below.refl _ wc).drew cl;have c1:=hs.drew.cell d (zK _ _ (by have:=lw.out;omega));rw[hv]at c1;have W6:IntKind.i64.wrap ((k:Int)-(i:Int))=(d:Int):=by rw[show(k:Int)-(i:Int)=(d:Int) by have:=HJ.out;omega];exact IntWalk.i64_in _ (by omega)
   obtain⟨k1,jh⟩:∃ x,k+1=x:=⟨_,rfl⟩
   have W7:IntKind.i64.wrap ((k:Int)+1)=(k1:Int):=by rw[← jh,Int.natCast_add];exact IntWalk.i64_in _ (by have:=HT.out;omega)
   rw[jh]at S1;have Pw:=Hh jh;clear jh;have ld:(d:Int)<16:=by omega
   have lk:(k:Int)<(tn:Int):=by omega
   have X:=Hh (yn u v);have Gv:=WI.drew;have DE:=Hh dp;clear hd hu hv QU jO cl hO TZ HV dp WI;go_upto_region 10 with fail
   refine zw 11 (fun wx=>wx.cell? ⟨gq,k,none⟩=some (zv u)∧wx.cell? ⟨M,d,none⟩=some (zv v)) (by kernel_rfl) (⟨c0,c1⟩) (fun zy=>?_)
   refine Tk 0 rfl zy ?_
   refine Tk 1 rfl zy ?_
   refine Tk 2 rfl zy ?_
   refine Tk 3 rfl zy ?_
   refine Tk 4 rfl zy ?_
   refine Tk 5 rfl zy ?_
   refine Tk 6 rfl zy ?_
   refine Tk 7 rfl zy ?_
   refine Tk 8 rfl zy ?_
   refine Tk 9 rfl zy ?_
   refine Tk 10 rfl zy ?_
   refine To 11 rfl fun K hK=>?_
   rw[if_pos (by rfl)]
   refine yW _ _ _ rfl gq k (zv (u ^^^ v)) rfl (by show Value.int .u8 (bits .xor .u8 (u.toNat:Int) (v.toNat:Int))=_;rw[X.out]) _ _ Gv yM mN rfl fun w9 ly xr=>?_
   refine Kz hK ?_
   clear hK K
   refine Wd ?_
   clear zy;have je:=aG.out w9 (u ^^^ v) ly;rw[S1.out]at je;have LZ:=hs.drew.gr xr (by omega);have M2:=h0.drew.gr xr (by omega);have P0:=h1.drew.gr xr (by omega);have b9:=hb.drew.grown xr hb.size (by rintro q ⟨⟩;omega);clear xr c0 c1 hs h0 h1 hb S1 X Gv ly W6 ld lk aG;go_wp2_with fail
   go_roundw
   case rel=>exact⟨k1,rfl,by have:=Pw.out;omega,by have:=Pw.out;omega,je,LZ,M2,P0,b9⟩
   case measure=>have:=Pw.out;simp[intOf];omega
  rw[decide_eq_false rO]
  have hE:wW tn (rH key nonce text) text k=wW tn (rH key nonce text) text i16:=by
   by_cases hm:i16<tn
   ·rw[show k=i16 by have:=jK.out;omega]
   rw[lH _ _ (by have:=jK.out;omega),lH _ _ (by omega)]
  rw[hE]at hO;clear hE hs;go_wp2_with fail
  go_roundw
  case rel=>exact⟨j+1,i16,rfl,⟨by have:=jK.out;have:=HJ.out;omega,by have:=jK.out;omega⟩,hO,h0,h1,hb⟩
  case measure=>have:=jK.out;simp[intOf];omega
 have hE:wW tn (rH key nonce text) text i=rj key nonce text:=by rw[lH _ _ (by omega),HT.out.1];rfl
 rw[hE]at hO;have CT:=Hh (n9 F (c:=nc) HN.out.1 HN.out.2.2 0 (by omega) wr (HS.out.1.below hb));clear hE;go_wp2_with fail
 refine CT.out.mono ?_
 rintro e w3 ⟨rfl,xn⟩
 have sD:=tU F HN.out.2.2 0;have BL:=Hh (hBS (vC F nonce 0) w3 sD (HS.out.2.2.below (hb.trans (xn.mono hb.size))));have oP:=hO.below xn;have Q5:=h0.below xn;have Oy:=h1.below xn;have b3:=hb.trans (xn.mono hb.size);clear hO h0 h1 hb xn CT sD;go_wp2_with fail
 refine BL.out.mono ?_
 rintro e w4 ⟨rfl,sK⟩
 have pH:=oP.below sK;have Q6:=Q5.below sK;have SQ:=Oy.below sK;have b4:=b3.trans (sK.mono b3.size);obtain⟨s,hs⟩:∃ s,qz key (vC F nonce 0)=s:=⟨_,rfl⟩
 have sl:s.length=16:=by rw[← hs];exact uH _ _
 have TN:Hid (uv key nonce tag=(List.range 16).map fun i=>at_ tag i ^^^ at_ s i):=by rw[Hid,uv,HF.out.2,hs];rfl
 rw[hs];obtain⟨M,hM⟩:∃ M,w4.heap.size=M:=⟨_,rfl⟩
 have hz:=Blk.new w4 85 (zr (List.replicate 16 0));rw[hM]at hz
 have HM:Hid (w.heap.size+1<M∧∀ g,Value.ownBlock (.slice A tn c)=some g→g<M∧w.heap.size+2≤g):=by
  refine⟨by have:=SQ.lt;omega,fun g hg=>?_⟩
  have:=pH.lt g hg
  omega
 have SF:=Hh hM;have xS:=pH.alloc (.cells (zr (List.replicate 16 0)) 85);have Ox:=Q6.alloc (.cells (zr (List.replicate 16 0)) 85);have Oz:=SQ.alloc (.cells (zr (List.replicate 16 0)) 85);have b5:=b4.alloc b4.size (.cells (zr (List.replicate 16 0)) 85);clear oP Q5 Oy b3 sK BL pH Q6 SQ b4 hs hM;go_wp2_with (with_reducible refine zx ?_)
 unfold yy
 rw[SF.out]
 refine zt rfl _ _ _ rfl rfl M (zr s) rfl rfl _ _ hz (by rw[zo,sl];kernel_rfl) (by rw[zo,sl];rfl) (ym _) fun w6 h6s xO=>?_
 have rq:=xS.kept xO (by
  cases hv:Value.ownBlock (.slice A tn c) with
  | none=>exact .inl rfl
  | some q=>exact .inr (fun e=>by injection e with e;have:=(HM.out.2 q hv).1;omega))
 have Q7:=Ox.grown xO (by intro e;injection e with e;have:=HM.out.1;omega);have VX:=Oz.grown xO (by intro e;injection e with e;have:=HM.out.1;omega);have b6:=b5.grown xO b5.size (by rintro q ⟨⟩;have:=HM.out.1;omega);have lw:=Hh sl;rw[← wl (fun i=>at_ tag i ^^^ at_ s i) HG.out]at Q7;clear hz xS Ox Oz b5 xO sl;go_wp2_with fail
 go_loopw [63] (fun v63 wx=>∃ k:Nat,v63=.int .i64 (k:Int)∧k≤16∧OwnB wx (w.heap.size+2) (.slice A tn c) (rj key nonce text)∧Blk wx M 85 (zr s)∧Blk wx w.heap.size 85 (zr (wW 16 (fun i=>at_ tag i ^^^ at_ s i) tag k))∧Blk wx (w.heap.size+1) 85 (zr (List.replicate 16 0))∧Below w.heap.size w wx) (fun v63 _=>(16-intOf v63).toNat)
 case atStart=>exact⟨0,rfl,by omega,rq,h6s,Q7,VX,b6⟩
 case round =>
 clear rq h6s Q7 VX b6;obtain⟨k,rfl,hk,hO,hs,h0,h1,hb⟩:=hrel
 by_cases dp:(k:Int)<16
 ·obtain⟨u,hu⟩:∃ u,at_ tag k=u:=⟨_,rfl⟩
  obtain⟨v,hv⟩:∃ v,at_ s k=v:=⟨_,rfl⟩
  have c0:=h0.drew.cell k (zK _ _ (by rw[xe];omega));have c1:=hs.drew.cell k (zK _ _ (by have:=lw.out;omega));rw[qx _ _ (by omega),hu]at c0;rw[hv]at c1;have X:=Hh (yn u v);have S1:=Hh (vZ (n:=16) (i:=k) (fun i=>at_ tag i ^^^ at_ s i) tag (by omega))
  simp only[hu,hv]at S1
  clear hu hv;go_upto_region 15 with fail
  refine zw 8 (fun wx=>wx.cell? ⟨w.heap.size,k,none⟩=some (zv u)∧wx.cell? ⟨M,k,none⟩=some (zv v)) (by kernel_rfl) (⟨c0,c1⟩) (fun zy=>?_)
  refine Tk 0 rfl zy ?_
  refine Tk 1 rfl zy ?_
  refine Tk 2 rfl zy ?_
  refine Tk 3 rfl zy ?_
  refine Tk 4 rfl zy ?_
  refine Tk 5 rfl zy ?_
  refine Tk 6 rfl zy ?_
  refine Tk 7 rfl zy ?_
  refine To 8 rfl fun K hK=>?_
  rw[if_pos (by rfl)]
  refine yW _ _ _ rfl w.heap.size k (zv (u ^^^ v)) rfl (by show Value.int .u8 (bits .xor .u8 (u.toNat:Int) (v.toNat:Int))=_;rw[X.out]) _ _ h0.drew yM (by rw[zo,xe];omega) rfl fun w9 M2 xr=>?_
  refine Kz hK ?_
  clear hK K
  refine Wd ?_
  clear zy;rw[xl,S1.out]at M2;have je:=(hO.below (Below.refl _ _).drew).kept xr (by cases hv:Value.ownBlock (.slice A tn c) with | none=>exact .inl rfl | some q=>exact .inr (fun e=>by injection e with e;have:=(HM.out.2 q hv).2;omega));have LZ:=hs.drew.grown xr (by intro e;injection e with e;have:=HM.out.1;omega);have P0:=h1.drew.gr xr (by omega);have b9:=hb.drew.grown xr hb.size (by rintro q ⟨⟩;omega);clear xr c0 c1 hO hs h0 h1 hb S1 X;go_wp2_with fail
  go_roundw
  case rel=>exact⟨k+1,by go_num,by omega,je,LZ,M2,P0,b9⟩
  case measure=>simp[intOf];omega
 obtain rfl:k=16:=by omega
 rw[show((16:Nat):Int)=16 from rfl];rw[uU,← TN.out]at h0;have ml:(uv key nonce tag).length=16:=yf _ _;obtain⟨z,hz⟩:∃ z,uv key nonce tag=z:=⟨_,rfl⟩
 have HZ:=Hh hz;rw[hz]at h0 ml;clear hz hs TN dp;go_upto_region 17 with fail
 refine zw 4 (fun _=>True) (by kernel_rfl) (trivial) (fun zy=>?_)
 refine TkS 0 rfl zy ?_
 refine TkS 2 rfl zy ?_
 refine To 1 rfl fun K hK=>?_
 rw[if_pos (by rfl)]
 refine wp_load_mid _ _ rfl w.heap.size 0 rfl ((qE z 0 16).map zv) _ (sT h0.drew 0 16) Tryz.underlying85 rfl (by rw[List.length_map,lF (by omega)];kernel_rfl) ?_
 refine Ko hK ?_ fun zy=>?_
 ·trivial
 clear hK K
 refine To 3 rfl fun K hK=>?_
 rw[if_pos (by rfl)]
 refine zk _ _ _ rfl (w.heap.size+1) (zr z) rfl (by show Value.agg (zr (qE z 0 16))=_;rw[xm ml]) _ _ h1.drew (by rw[zo,ml];kernel_rfl) (by rw[zo,ml];rfl) (ym _) fun w9 P0 xr=>?_
 refine Ko hK ?_ fun zy=>?_
 ·trivial
 clear hK K
 refine Wd ?_
 clear zy;have je:=(hO.below (Below.refl _ _).drew).kept xr (by cases hv:Value.ownBlock (.slice A tn c) with | none=>exact .inl rfl | some q=>exact .inr (fun e=>by injection e with e;have:=(HM.out.2 q hv).2;omega));have b9:=hb.drew.grown xr hb.size (by rintro q ⟨⟩;omega);clear xr hO h0 h1 hb;go_wp2_with fail
 exact gB rfl rfl P0 rfl rfl (by rw[zo,ml];kernel_rfl) rfl ⟨_,by rw[HZ.out];rfl,je.more (by omega),b9⟩
def yk (kn nn t:Nat):Bool:=decide (kn=16)&&decide (7≤nn)&&decide (nn≤13)&&decide (4≤t)&&decide (t≤16)&&decide (t%2=0)
def wO (key nonce aad plain:List UInt8) (t:Nat):Int×List UInt8 :=
 if yk key.length nonce.length t=false then(1,[]) else if 4096<aad.length∨4096<plain.length then(8,[]) else(0,rf key nonce aad plain t)
theorem iF {KA NA:Option Addr}{kn kc nn nc:Nat}(t:Nat) (ht:t≤1000000) (w:World) :
  Calls Tryz.prog 54 #[.slice KA kn kc,.slice NA nn nc,.int .i64 (t:Int)] w fun e w'=>e=.returned (.bool (yk kn nn t))∧w=w':=by
 obtain⟨r,hr⟩:∃ r,t%2=r:=⟨_,rfl⟩
 have t1:(t:Int).tmod 2=(r:Int):=by rw[← hr];exact(Int.ofNat_tmod t 2).symm
 have t1':(t:Int)%2=(r:Int):=by rw[← hr];omega
 have HR:=Hh hr
 by_cases h1:(kn:Int)=16
 ·have aH:kn=16:=by omega
  by_cases h2:(7:Int)≤(nn:Int)
  ·by_cases h3:(nn:Int)≤13
   ·by_cases h4:(4:Int)≤(t:Int)
    ·by_cases h5:(t:Int)≤16
     ·by_cases h6:(r:Int)=0
      ·have E:Hid (yk kn nn t=true):=by rw[Hid,yk,hr];simp;omega
       clear hr aH;go_enter Tryz.func54,Tryz.ntmps54
       go_wp2_with fail
       go_ret
       exact⟨by rw[E.out];rfl,rfl⟩
      have E:Hid (yk kn nn t=false):=by rw[Hid,yk,hr];simp;omega
      have e6:((r:Int)==0)=false:=by rw[beq_eq_false_iff_ne];exact h6
      clear hr aH;go_enter Tryz.func54,Tryz.ntmps54
      go_wp2_with fail
      go_ret
      exact⟨by rw[E.out];rfl,rfl⟩
     have E:Hid (yk kn nn t=false):=by rw[Hid,yk];simp;omega
     clear hr aH;go_enter Tryz.func54,Tryz.ntmps54
     go_wp2_with fail
     go_ret
     exact⟨by rw[E.out];rfl,rfl⟩
    have E:Hid (yk kn nn t=false):=by rw[Hid,yk];simp;omega
    clear hr aH;go_enter Tryz.func54,Tryz.ntmps54
    go_wp2_with fail
    go_ret
    exact⟨by rw[E.out];rfl,rfl⟩
   have E:Hid (yk kn nn t=false):=by rw[Hid,yk];simp;omega
   clear hr aH;go_enter Tryz.func54,Tryz.ntmps54
   go_wp2_with fail
   go_ret
   exact⟨by rw[E.out];rfl,rfl⟩
  have E:Hid (yk kn nn t=false):=by rw[Hid,yk];simp;omega
  clear hr aH;go_enter Tryz.func54,Tryz.ntmps54
  go_wp2_with fail
  go_ret
  exact⟨by rw[E.out];rfl,rfl⟩
 have E:Hid (yk kn nn t=false):=by rw[Hid,yk];simp;omega
 have e1:((kn:Int)==16)=false:=by rw[beq_eq_false_iff_ne];exact h1
 clear hr;go_enter Tryz.func54,Tryz.ntmps54
 go_wp2_with fail
 go_ret
 exact⟨by rw[E.out];rfl,rfl⟩
def wI (w:World) (r:Int×List UInt8) (e:Ending) (w':World):Prop:=∃ v,e=.returned (.tuple #[v,.int .i64 r.1])∧OwnB w' w.heap.size v r.2∧Below w.heap.size w w'
theorem Wh {KA:Option Addr}{kn kc:Nat}{key:List UInt8}(uN:kn=key.length) (mN:kn≤kc) {NA:Option Addr}{nn nc:Nat}{nonce:List UInt8}(wd:nn=nonce.length)
  {AA:Option Addr} {an ac:Nat} {aad:List UInt8} (han:an=aad.length) (hac:an≤ac) {PA:Option Addr} {pn pc:Nat} {plain:List UInt8} (hpn:pn=plain.length) (pK:pn≤pc)
  (t:Nat) (ht:t≤16) (w:World) (hsk:Src w KA (key.map zv)) (hsn:Src w NA (nonce.map zv)) (nh:Src w AA (aad.map zv)) (ni:Src w PA (plain.map zv)) :
  Calls Tryz.prog 21 #[.slice KA kn kc,.slice NA nn nc,.slice AA an ac,.slice PA pn pc,.int .i64 (t:Int)] w (wI w (wO key nonce aad plain t)):=by
 have V:=Hh (iF (KA:=KA) (kn:=kn) (kc:=kc) (NA:=NA) (nn:=nn) (nc:=nc) t (by omega) w);have HK:=Hh (And.intro uN mN);have HN:=Hh wd;have HA:=Hh (And.intro han hac);have HP:=Hh (And.intro hpn pK);have HT:=Hh ht;have HS:=Hh (And.intro hsk (And.intro hsn (And.intro nh ni)))
 have NO:∀ r:Int×List UInt8,wO key nonce aad plain t=r→r.2=[]→Hid (wI w (wO key nonce aad plain t) (.returned (.tuple #[.slice none 0 0,.int .i64 r.1])) w):=by
  rintro r rfl h
  exact⟨_,rfl,by rw[h];exact OwnB.nil _ _,Below.refl _ _⟩
 cases hv:yk kn nn t with
 | false =>
  have N1:=NO (1,[]) (by rw[wO,← uN,← wd,if_pos hv]) rfl;rw[hv]at V;clear NO uN mN wd han hac hpn pK ht hsk hsn nh ni hv;go_enter Tryz.func21,Tryz.ntmps21
  go_wp2_with fail
  refine V.out.mono ?_
  rintro e w1 ⟨rfl,rfl⟩
  go_wp2_with fail
  go_ret2
  exact N1.out
 | true =>
 have HV:Hid (kn=16∧7≤nn∧nn≤13∧4≤t):=by
  simp only[yk,Bool.and_eq_true,decide_eq_true_eq]at hv
  exact⟨hv.1.1.1.1.1,hv.1.1.1.1.2,hv.1.1.1.2,hv.1.1.2⟩
 rw[hv]at V
 by_cases hbig:(4096:Int)<(an:Int)∨(4096:Int)<(pn:Int)
 ·have N1:=NO (8,[]) (by rw[wO,← uN,← wd,if_neg (by rw[hv];decide),if_pos (by omega)]) rfl;clear NO uN mN wd han hac hpn pK ht hsk hsn nh ni hv
  by_cases h1:(4096:Int)<(an:Int)
  ·clear hbig;go_enter Tryz.func21,Tryz.ntmps21
   go_wp2_with fail
   refine V.out.mono ?_
   rintro e w1 ⟨rfl,rfl⟩
   go_wp2_with fail
   go_ret2
   exact N1.out
  have h2:(4096:Int)<(pn:Int):=by omega
  clear hbig;go_enter Tryz.func21,Tryz.ntmps21
  go_wp2_with fail
  refine V.out.mono ?_
  rintro e w1 ⟨rfl,rfl⟩
  go_wp2_with fail
  go_ret2
  exact N1.out
 have E:Hid (wO key nonce aad plain t=(0,rf key nonce aad plain t)):=by rw[Hid,wO,← uN,← wd,if_neg (by rw[hv];decide),if_neg (by omega)]
 have h1:¬ (4096:Int)<(an:Int):=by omega
 have h2:¬ (4096:Int)<(pn:Int):=by omega
 have HB:Hid (an≤4096∧pn≤4096):=by rw[Hid];omega
 clear NO hbig uN mN wd han hac hpn pK ht hsk hsn nh ni hv;obtain rfl:kn=16:=HV.out.1;have NW:=Hh (aV (c:=kc) HK.out.1.symm w HS.out.1);go_enter Tryz.func21,Tryz.ntmps21
 go_wp2_with fail
 refine V.out.mono ?_
 rintro e w1 ⟨rfl,rfl⟩
 go_wp2_with fail
 refine NW.out.mono ?_
 rintro e w2 ⟨N,rfl,hN,hC,b2⟩
 have BS:=iB HK.out.1.symm N;have AU:=Hh (rP BS (nc:=nc) HN.out (by have:=HV.out;have:=HN.out;omega) (AA:=AA) (ac:=ac) HA.out.1 HA.out.2 (by have:=HB.out;have:=HA.out;omega) (PA:=PA) (pc:=pc) HP.out.1 HP.out.2 (by have:=HB.out;have:=HP.out;omega) t (by have:=HV.out;have:=HT.out;omega) w2 (HS.out.2.1.below b2) (HS.out.2.2.1.below b2) (HS.out.2.2.2.below b2) hC);have tl:=oB key nonce aad plain t;obtain⟨tg,Ti⟩:∃ x,qF key nonce aad plain t=x:=⟨_,rfl⟩
 have Q2:=Hh Ti;rw[Ti]at AU tl;clear Ti NW V;go_wp2_with fail
 refine AU.out.mono ?_
 rintro e w3 ⟨rfl,xn⟩
 have jX:=hC.below xn;have b3:=b2.trans (xn.mono b2.size);have ST:=Hh (qm BS (nc:=nc) HN.out (by have:=HV.out;have:=HN.out;omega) (TA:=PA) (tc:=pc) HP.out.1 (by have:=HB.out;have:=HP.out;omega) tl w3 (HS.out.2.1.below b3) (HS.out.2.2.2.below b3) jX);clear hC b2 xn AU tl;go_wp2_with fail
 refine ST.out.mono ?_
 rintro e w4 ⟨v,rfl,pH,sK⟩
 have b4:=b3.trans (sK.mono b3.size);replace pH:=pH.more b3.size;obtain⟨A,c,rfl,hc,_⟩:=pH.form;rw[vN]at pH hc⊢;rw[← HP.out.1]at pH hc⊢;have ml:(uv key nonce tg).length=16:=yf _ _;obtain⟨z,hz⟩:∃ z,uv key nonce tg=z:=⟨_,rfl⟩
 have HZ:=Hh hz;rw[hz]at ml⊢;obtain⟨M,hM⟩:∃ M,w4.heap.size=M:=⟨_,rfl⟩
 have mP:=Blk.new w4 85 (zr (List.replicate 16 0));rw[hM]at mP
 have HM:Hid (w.heap.size≤M∧∀ g,Value.ownBlock (.slice A pn c)=some g→g<M):=by
  refine⟨by have:=b4.size;omega,fun g hg=>?_⟩
  have:=(pH.lt g hg).2
  omega
 have SF:=Hh hM;have xS:=pH.alloc (.cells (zr (List.replicate 16 0)) 85);have b5:=b4.alloc b4.size (.cells (zr (List.replicate 16 0)) 85);clear jX b3 sK ST pH b4 hz hM;go_wp2_with (with_reducible refine zx ?_)
 unfold yy
 rw[SF.out]
 refine zt rfl _ _ _ rfl rfl M (zr z) rfl rfl _ _ mP (by rw[zo,ml];kernel_rfl) (by rw[zo,ml];rfl) (ym _) fun w6 h6 xO=>?_
 have rq:=xS.kept xO (by
  cases hv:Value.ownBlock (.slice A pn c) with
  | none=>exact .inl rfl
  | some q=>exact .inr (fun e=>by injection e with e;have:=HM.out.2 q hv;omega))
 have b6:=b5.grown xO b5.size (by rintro q ⟨⟩;exact HM.out.1)
 have Tg:Src w6 (some ⟨M,0,none⟩) ((z.take t).map zv):=fun _=>⟨M,0,rfl,fun j v hj=>h6.cell _ (by
  rw[Nat.zero_add];rw[List.getElem?_map,List.getElem?_take]at hj
  split at hj
  ·simpa [zr] using hj
  cases hj)⟩
 have EJ:(t:Int)≤16:=by have:=HT.out;omega
 have fa:Hid ((z.take t).length=t):=by rw[Hid,List.length_take,ml];have:=HT.out;omega
 clear mP xS b5 xO h6;go_wp2_with (at_builtin;refine zO ?_)
 refine zn rfl (.tmp 45) (.tmp 47) rfl w.heap.size _ (rj key nonce plain) rfl (by rw[OwnB,vN,← HP.out.1];rw[OwnB,vN,← HP.out.1]at rq;exact rq) (some ⟨M,0,none⟩) t 16 (z.take t) rfl fa.out.symm Tg (by rw[vN,fa.out];have:=HB.out;have:=HP.out;have:=HT.out;omega) b6.size fun v' w8 na hg8 hat8=>?_
 have b8:=sP b6 hg8 (fun q hq=>(rq.lt q hq).1);clear rq b6 Tg hg8 hat8;go_wp2_with fail
 go_ret2
 exact⟨v',by rw[E.out];rfl,by rw[E.out,rf,Q2.out,HZ.out];exact na,b8⟩
def xW:List UInt8:=[69,110,99,114,121,112,116,48]
def vE (g:Int):Nat:=if g=10 then 8 else if g=30 then 16 else 0
theorem oD (g:Int):vE g=0∨vE g=8∨vE g=16:=by
 unfold vE
 split
 ·exact .inr (.inl rfl)
 split <;> simp
def qW (p u:Itm) (ext plain key nonce:List UInt8):Int×List UInt8:=wO key nonce (zh (we xW p ext [])) plain (vE (vt p u))
def uy (p u:Itm) (ext plain key nonce:List UInt8):Int :=
 if zV p u=false then 1 else if vE (vt p u)=0 then 12 else if yj xW p u ext []≠0 then yj xW p u ext [] else(qW p u ext plain key nonce).1
def qX (p u:Itm) (ext plain key nonce:List UInt8):Ev:=if uy p u ext plain key nonce=0 then⟨p,u,(qW p u ext plain key nonce).2,[]⟩ else ii
def ESealOut (w:World) (H:Snap) (p u:Itm) (ext plain key nonce:List UInt8) (e:Ending) (w':World):Prop :=
 ∃ a H',e=.returned (.tuple #[.agg (evQ (qX p u ext plain key nonce) a),.int .i64 (uy p u ext plain key nonce)])∧Grows w H w' H'∧EvA H' (qX p u ext plain key nonce) a
theorem ESealOut.bad {w w':World}{H:Snap}{p u:Itm}{ext plain key nonce:List UInt8}{c:Int}{e:Ending}(hc:uy p u ext plain key nonce=c) (h0:c≠0) (hG:Grows w H w' H) (he:e=.returned (.tuple #[.agg tC,.int .i64 c])):ESealOut w H p u ext plain key nonce e w':=by
 have hv:qX p u ext plain key nonce=ii:=by rw[qX,if_neg (by omega)]
 refine⟨gN,H, ?_,hG, ?_⟩
 ·rw[hv,hc,he];rfl
 rw[hv]
 exact fD H
theorem ESealOut.good {w w':World}{H H':Snap}{p u:Itm}{ext plain key nonce:List UInt8}{e:Ending}{xa xb:Ad}{BA:Option Addr}{bn bc:Nat}(hc:uy p u ext plain key nonce=0) (hG:Grows w H w' H') (hp:IsItem H' xa.ba xa.bc xa.ia xa.ic p) (hu:IsItem H' xb.ba xb.bc xb.ia xb.ic u)
  {l:List UInt8} (hl:(qW p u ext plain key nonce).2=l) (nW:bn=l.length) (hb:IsBytes H' BA bc l) (he:e=.returned (.tuple #[.agg (evC p xa u xb BA bn bc none 0 0),.int .i64 0])):ESealOut w H p u ext plain key nonce e w':=by
 have hv:qX p u ext plain key nonce=⟨p,u,l,[]⟩:=by rw[qX,if_pos hc,hl]
 refine⟨⟨xa,xb,BA,bc,none,0⟩,H', ?_,hG, ?_⟩
 ·rw[hv,hc,he,nW];rfl
 rw[hv]
 exact⟨hp,hu,hb,IsBytes.nil _⟩
theorem mj {p u:Itm}{ext plain key nonce:List UInt8}(hv:zV p u=true) (ha:vE (vt p u)≠0) (hi:yj xW p u ext []≠0):uy p u ext plain key nonce=yj xW p u ext []:=by
 rw[uy,if_neg (by simp[hv]),if_neg ha,if_pos hi]
theorem kR {p u:Itm}{ext plain key nonce:List UInt8}(hv:zV p u=true) (ha:vE (vt p u)≠0) (hi:yj xW p u ext []=0):uy p u ext plain key nonce=(qW p u ext plain key nonce).1:=by
 rw[uy,if_neg (by simp[hv]),if_neg ha,if_neg (by omega)]
theorem IsRows.nil0 (H:Snap):IsRows H none 0 []:=⟨Nat.le_refl _,by omega,fun h=>by simp at h⟩
end Go.Proofs.YtliomcphdnppnaaGreatDoor
