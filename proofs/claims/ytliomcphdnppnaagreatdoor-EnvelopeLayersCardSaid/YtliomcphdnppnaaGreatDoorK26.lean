/- squeezed. Walks: the tag, not yet masked, by -/
import Derived.Test.YtliomcphdnppnaaGreatDoorK25
import Derived.ChangeKeysEq
set_option linter.unusedVariables false
set_option linter.unusedSimpArgs false
set_option maxRecDepth 100000
set_option maxHeartbeats 25600000
namespace Go.Proofs.YtliomcphdnppnaaGreatDoor
open Go.RowKit
theorem mF (key x b:List UInt8):kU key x b=sF (mY key) b x ((b.length+15)/16):=(Ru key b x _).symm
theorem Vl {m:Nat}(h:m<256):zq (UInt8.ofNat m)=.int .u8 (m:Int):=by
 rw[zq,UInt8.toNat_ofNat',Nat.mod_eq_of_lt h]
theorem mC {cg:Nat}{L key:List UInt8}(hBS:oh (mY key) cg L) {NA:Option Addr}{nn nc:Nat}{nonce:List UInt8}(rL:nn=nonce.length) (cV:7≤nonce.length∧nonce.length≤13)
  {AA:Option Addr} {an ac:Nat} {aad:List UInt8} (han:an=aad.length) (hac:an≤ac) (hal:aad.length≤1048576) {PA:Option Addr} {pn pc:Nat} {plain:List UInt8} (hpn:pn=plain.length) (mr:pn≤pc) (ms:plain.length≤1048576)
  (t:Nat) (ht:4≤t∧t≤16) (w:World) (hsn:Src w NA (nonce.map zq)) (U6:Src w AA (aad.map zq)) (cH:Src w PA (plain.map zq)) (hC:Blk w cg 126 (zj L)) :
  Calls Tryz.prog 57 #[.pointer (some ⟨cg,0,none⟩),.slice NA nn nc,.slice AA an ac,.slice PA pn pc,.int .i64 (t:Int)] w fun e w'=>e=.returned (.agg (zj (bj key nonce aad plain t)))∧Below w.heap.size w w':=by
 have h0:=Blk.new w 85 (zj (List.replicate 16 0));have b0:=zu w (.cells (zj (List.replicate 16 0)) 85);obtain⟨w1,qr⟩:∃ w1,w.alloc (.cells (zj (List.replicate 16 0)) 85)=w1:=⟨_,rfl⟩
 have vl:w1.heap.size=w.heap.size+1:=by rw[← qr,zr]
 rw[qr]at h0 b0;have Wf:=Hh (And.intro qr vl);have HN:=Hh (And.intro rL cV);have HA:=Hh (And.intro han (And.intro hac hal));have HP:=Hh (And.intro hpn (And.intro mr ms));have HT:=Hh ht;have HS:=Hh (And.intro hsn (And.intro U6 cH));have HC:=Hh hC;have CH:=Hh (XR cg w1);obtain⟨X,hX⟩:∃ X,w1.heap.size+1=X:=⟨_,rfl⟩
 obtain⟨CB,Pc⟩:∃ CB,w1.heap.size=CB:=⟨_,rfl⟩
 rw[hX,Pc]at CH;have gA:Hid (w.heap.size<CB∧CB<X∧cg<w.heap.size):=by have:=hC.lt;rw[Hid];omega
 have Gr:=Hh Pc;clear rL cV han hac hal hpn mr ms ht hsn U6 cH hC qr vl hX Pc;go_enter Tryz.func57,Tryz.ntmps57
 go_upto_region 1 with fail
 rw[show w.alloc (.cells #[.int .u8 0,.int .u8 0,.int .u8 0,.int .u8 0,.int .u8 0,.int .u8 0,.int .u8 0,.int .u8 0,.int .u8 0,.int .u8 0,.int .u8 0,.int .u8 0,.int .u8 0,.int .u8 0,.int .u8 0,.int .u8 0] 85)=w1 from Wf.out.1];go_wp2_with fail
 refine CH.out.mono ?_
 rintro e w2 ⟨rfl,cN,hX,zK⟩
 have b2:=b0.trans (zK.mono (by have:=gA.out;omega));have h2:=h0.below (by rw[Gr.out];exact zK);clear h0 b0 zK CH;obtain⟨q,hq⟩:∃ q,t/2=q:=⟨_,rfl⟩
 obtain⟨q1,lP⟩:∃ x,q-1=x:=⟨_,rfl⟩
 obtain⟨q2,cF⟩:∃ x,8*q1=x:=⟨_,rfl⟩
 obtain⟨q3,E8⟩:∃ x,q2+14=x:=⟨_,rfl⟩
 obtain⟨q4,E9⟩:∃ x,q3-nn=x:=⟨_,rfl⟩
 have t1:(t:Int).tdiv 2=(q:Int):=by rw[← hq];exact(Int.ofNat_tdiv t 2).symm
 have t1':(t:Int)/2=(q:Int):=by rw[← hq];omega
 have W0:IntKind.i64.wrap (q:Int)=(q:Int):=wa (by have:=HT.out;omega);have W1:IntKind.i64.wrap ((q:Int)-1)=(q1:Int):=by rw[show(q:Int)-1=(q1:Int) by have:=HT.out;omega];exact wa (by have:=HT.out;omega)
 have W2:IntKind.i64.wrap (8*(q1:Int))=(q2:Int):=by rw[show 8*(q1:Int)=(q2:Int) by omega];exact wa (by have:=HT.out;omega)
 have W3:IntKind.i64.wrap ((q2:Int)+14)=(q3:Int):=by rw[show(q2:Int)+14=(q3:Int) by omega];exact wa (by have:=HT.out;omega)
 have W4:IntKind.i64.wrap ((q3:Int)-(nn:Int))=(q4:Int):=by rw[show(q3:Int)-(nn:Int)=(q4:Int) by have:=HT.out;have:=HN.out;omega];exact wa (by have:=HT.out;omega)
 have W5:IntKind.u8.wrap (q4:Int)=(q4:Int):=by rw[IntKind.wrap_u8];have:=HT.out;omega
 have W6:IntKind.u8.wrap ((q4:Int)+64)=((q4+64:Nat):Int):=by rw[IntKind.wrap_u8];have:=HT.out;omega
 have W7:(q4:Int)%256=(q4:Int):=by have:=HT.out;omega
 have W8:((q4:Int)+64)%256=((q4+64:Nat):Int):=by have:=HT.out;omega
 have HF:Hid (qf nonce aad t=UInt8.ofNat (q4+if an=0 then 0 else 64)):=by
  rw[Hid,qf,← HA.out.1];congr 1
  have:=HN.out;have:=HT.out
  omega
 have HQ:Hid (q4<150):=by have:=HT.out;rw[Hid];omega
 clear hq lP cF E8 E9;go_upto_if 27 with fail
 go_cut [12] (fun s12 wx=>s12=zq (qf nonce aad t)∧Blk wx CB 83 #[.pointer (some ⟨cg,0,none⟩)]∧Blk wx X 85 (zj (List.replicate 16 0))∧Blk wx w.heap.size 85 (zj (List.replicate 16 0))∧Below w.heap.size w wx)
 case first =>
  by_cases ha:0<an
  ·have cA:(0:Int)<(an:Int):=by omega
   have E:Hid (zq (qf nonce aad t)=.int .u8 ((q4+64:Nat):Int)):=by rw[Hid,HF.out,if_neg (by omega),Vl (by have:=HQ.out;omega)]
   go_wp2_with fail
   go_meet
   exact⟨by rw[E.out,Int.natCast_add];rfl,cN,hX,h2,b2⟩
  have cA:¬ (0:Int)<(an:Int):=by omega
  have E:Hid (zq (qf nonce aad t)=.int .u8 (q4:Int)):=by rw[Hid,HF.out,if_pos (by omega),Nat.add_zero,Vl (by have:=HQ.out;omega)]
  go_wp2_with fail
  go_meet
  exact⟨by rw[E.out],cN,hX,h2,b2⟩
 case rest =>
 clear cN hX h2 b2 t1 t1' W0 W1 W2 W3 W4 W5 W6 W7 W8;obtain⟨rfl,cN,hX,h2,b2⟩:=hcut;have CT:=Hh (mK (qf nonce aad t) (c:=nc) HN.out.1 HN.out.2.2 pn (by have:=HP.out;omega) wc (HS.out.1.below b2));obtain⟨f,hf⟩:∃ f,qf nonce aad t=f:=⟨_,rfl⟩
 have Jz:=Hh hf;rw[hf]at CT⊢;clear hf HF;go_wp2_with fail
 refine CT.out.mono ?_
 rintro e w3 ⟨rfl,xz⟩
 have lM:=pQ f HN.out.2.2 pn;obtain⟨ct,f8⟩:∃ l,rG f nonce pn=l:=⟨_,rfl⟩
 have WF:=Hh f8;rw[f8]at lM⊢;have Lm:=cN.below xz;have gC:=hX.below xz;have h3:=h2.below xz;have b3:=b2.trans (xz.mono b2.size);obtain⟨M,hM⟩:∃ M,w3.heap.size=M:=⟨_,rfl⟩
 have hz:=Blk.new w3 85 (zj (List.replicate 16 0));rw[hM]at hz;have HM:Hid (X<M):=by have:=gC.lt;rw[Hid];omega
 have Ln:=Lm.alloc (.cells (zj (List.replicate 16 0)) 85);have Fv:=gC.alloc (.cells (zj (List.replicate 16 0)) 85);have h4:=h3.alloc (.cells (zj (List.replicate 16 0)) 85);have b4:=b3.alloc b3.size (.cells (zj (List.replicate 16 0)) 85);have QH:=Hh hM;clear CT xz cN hX h2 b2 f8 Lm gC h3 b3 hM;go_wp2_with (with_reducible refine zx ?_)
 unfold zD
 rw[QH.out]
 refine zv rfl _ _ _ rfl rfl M (zj ct) rfl rfl _ _ hz (by rw[zf,lM];kernel_rfl) (by rw[zf,lM];rfl) (xM _) fun w5 h5c yP=>?_
 have Pa:=Ln.grown yP (by intro e;injection e with e;have:=HM.out;have:=gA.out;omega);have ND:=Fv.grown yP (by intro e;injection e with e;have:=HM.out;omega);have h5:=h4.grown yP (by intro e;injection e with e;have:=HM.out;have:=gA.out;omega);have b5:=b4.grown yP b4.size (by rintro q ⟨⟩;have:=HM.out;have:=gA.out;omega)
 have T1:=Hh (jp (qz key) (L:=L) hBS (A:=some ⟨M,0,none⟩) (n:=16) (c:=16) lM.symm (Nat.le_refl _) (by omega) (by intro _ a ha;injection ha with ha;subst ha;have:=HM.out;show M≠X;omega) (by have:=gA.out;omega) (by have:=gA.out;omega) w5
  (fun _=>⟨M,0,rfl,fun j v hj=>h5c.cell _ (by rw[Nat.zero_add];simpa [zj] using hj)⟩) (x:=List.replicate 16 0) rfl ND Pa (HC.out.below b5))
 clear hz Ln Fv h4 b4 yP;go_wp2_with fail
 refine T1.out.mono ?_
 rintro e w6 ⟨rfl,Wl,xX⟩
 rw[← mF]at Wl;have Vo:=Pa.grown xX (by intro e;injection e with e;have:=gA.out;omega);have h6:=h5.grown xX (by intro e;injection e with e;have:=gA.out;omega);have b6:=b5.grown xX b5.size (by rintro q ⟨⟩;have:=gA.out;omega);clear T1 ND Pa h5 b5 xX h5c;obtain⟨x1,gF⟩:∃ x,kU key (List.replicate 16 0) ct=x:=⟨_,rfl⟩
 have Q8:x1.length=16:=by rw[← gF];exact rz _ _ rfl
 have Cx:=Hh gF;rw[gF]at Wl;clear gF;go_upto_if 40 with fail
 go_cut [] (fun wx=>Blk wx X 85 (zj (if an=0 then x1 else kU key x1 (ft aad)))∧Blk wx CB 83 #[.pointer (some ⟨cg,0,none⟩)]∧Blk wx w.heap.size 85 (zj (List.replicate 16 0))∧Below w.heap.size w wx)
 case first =>
  by_cases ha:0<an
  ·have cA:(0:Int)<(an:Int):=by omega
   have hq:(an:Int)/256=((an/256:Nat):Int):=by omega
   obtain⟨q,cF⟩:∃ q,an/256=q:=⟨_,rfl⟩
   rw[cF]at hq;have U1:=bP q;have U2:=bP an;have KD:Hid (UInt8.ofNat (q%256)::UInt8.ofNat (an%256)::aad=ft aad):=by rw[Hid,ft,← HA.out.1,cF]
   obtain⟨u1,Ga⟩:∃ u,UInt8.ofNat (q%256)=u:=⟨_,rfl⟩
   obtain⟨u2,Qn⟩:∃ u,UInt8.ofNat (an%256)=u:=⟨_,rfl⟩
   rw[Ga]at U1 KD;rw[Qn]at U2 KD;have m1:(q:Int)%256=(u1.toNat:Int):=by have h:=U1;rw[IntKind.wrap_u8]at h;injection h with _ h;exact h.symm
   have m2:(an:Int)%256=(u2.toNat:Int):=by have h:=U2;rw[IntKind.wrap_u8]at h;injection h with _ h;exact h.symm
   have hO:=OwnB.lit w6 w6.heap.size [u1,u2] #[zq u1,zq u2] 2 rfl rfl (Nat.le_refl _) (by simp);have bz:=Wl.alloc (.cells #[zq u1,zq u2] 5);have Lo:=Vo.alloc (.cells #[zq u1,zq u2] 5);have h7:=h6.alloc (.cells #[zq u1,zq u2] 5);have b7:=b6.alloc b6.size (.cells #[zq u1,zq u2] 5);obtain⟨G,hG⟩:∃ G,w6.heap.size=G:=⟨_,rfl⟩
   have HG:Hid (X<G∧CB<G∧w.heap.size<G):=by have:=Wl.lt;have:=Vo.lt;have:=h6.lt;rw[Hid];omega
   have Eg:=Hh hG;rw[hG]at hO;clear Wl Vo h6 b6 Ga Qn U1 U2 cF hG;go_wp2_with (at_builtin;refine zM ?_)
   unfold zD
   try rw[Eg.out]
   refine zo rfl (.tmp 49) (.tmp 50) rfl G _ [u1,u2] rfl hO AA an ac aad rfl HA.out.1 (HS.out.2.1.below b7) (by have:=HA.out;simp;omega) (by rw[zr,Eg.out];omega) fun v' w8 Yt hg8 hat8=>?_
   obtain⟨A8,c8,rfl,G5,_⟩:=Yt.form;rw[show [u1,u2]++aad=ft aad from KD.out]at Yt G5;have Wm:=bz.grown hg8 (by show some G≠some (X);intro e;injection e with e;have:=HG.out;omega);have Pb:=Lo.grown hg8 (by show some G≠some (CB);intro e;injection e with e;have:=HG.out;omega);have h8:=h7.grown hg8 (by show some G≠some (w.heap.size);intro e;injection e with e;have:=HG.out;omega);have b8:=b7.grown hg8 b7.size (by show ∀ q,some G=some q→w.heap.size≤q;rintro q ⟨⟩;have:=HG.out;omega)
   have T2:=Hh (jp (qz key) (L:=L) hBS (A:=A8) (n:=(ft aad).length) (c:=c8) rfl G5 (by have:=HA.out;simp[ft];omega) (by
     intro _ a ha e
     have h1:=(Yt.lt a.block (by rw[ha];rfl)).1;have:=HG.out
     omega) (by have:=gA.out;omega) (by have:=gA.out;omega) w8 Yt.src Q8 Wm Pb (HC.out.below b8))
   have iC:([u1,u2]++aad).length=(ft aad).length:=congrArg List.length KD.out;rw[iC];clear hO hg8 hat8 bz Lo h7 b7 iC;go_wp2_with fail
   refine T2.out.mono ?_
   rintro e w9 ⟨rfl,Wn,yL⟩
   rw[← mF]at Wn;have Gz:=Pb.grown yL (by intro e;injection e with e;have:=gA.out;omega);have h9:=h8.grown yL (by intro e;injection e with e;have:=gA.out;omega);have b9:=b8.grown yL b8.size (by rintro q ⟨⟩;have:=gA.out;omega);clear T2 Wm Pb h8 b8 yL Yt;go_wp2_with fail
   go_meet
   exact⟨by rw[if_neg (by omega)];exact Wn,Gz,h9,b9⟩
  have cA:¬ (0:Int)<(an:Int):=by omega
  go_wp2_with fail
  go_meet
  exact⟨by rw[if_pos (by omega)];exact Wl,Vo,h6,b6⟩
 case rest =>
 clear Wl Vo h6 b6;obtain⟨hX,cN,h0,b0⟩:=hcut;obtain⟨x2,cJ⟩:∃ x,(if an=0 then x1 else kU key x1 (ft aad))=x:=⟨_,rfl⟩
 have MT:x2.length=16:=by rw[← cJ];split;exact Q8;exact rz _ _ Q8
 have KL:Hid (bj key nonce aad plain t=kU key x2 plain):=by
  rw[Hid,bj,Jz.out,← HP.out.1,WF.out,Cx.out,← cJ,← HA.out.1]
 rw[cJ]at hX;have T3:=Hh (jp (qz key) (L:=L) hBS (A:=PA) (n:=pn) (c:=pc) HP.out.1 HP.out.2.1 (by have:=HP.out;omega) (Src.apart HS.out.2.2 (by have:=gA.out;omega)) (by have:=gA.out;omega) (by have:=gA.out;omega) _ (HS.out.2.2.below b0) MT hX cN (HC.out.below b0));have zl:=rz key plain MT;rw[← mF]at T3;obtain⟨z,hz⟩:∃ z,kU key x2 plain=z:=⟨_,rfl⟩
 rw[hz]at T3 zl KL;clear cJ hz;go_wp2_with fail
 refine T3.out.mono ?_
 rintro e w11 ⟨rfl,Ho,pq⟩
 have Ny:=h0.grown pq (by intro e;injection e with e;have:=gA.out;omega);have b11:=b0.grown pq b0.size (by rintro q ⟨⟩;have:=gA.out;omega);clear T3 hX cN h0 b0 pq Ho;go_wp2_with (with_reducible refine zx ?_)
 refine zv rfl _ _ _ rfl rfl w.heap.size (zj z) rfl rfl _ _ Ny (by rw[zf,zl];kernel_rfl) (by rw[zf,zl];rfl) (xM _) fun w12 TX hg12=>?_
 have b12:=b11.grown hg12 b11.size (by rintro q ⟨⟩;omega);clear Ny b11 hg12;go_wp2_with fail
 exact zO rfl rfl TX rfl rfl (by rw[zf,zl];kernel_rfl) rfl ⟨by rw[KL.out],b12⟩
theorem n9 {fn:Func}{p u:Tmp}{ty:TypeId}(h:fn.results=#[.tmp u,.cell p ty]) (tmps:Array Value) (P:Program) (w:World) :
  (results fn tmps).run P w =
   ((asAddr (tmps.getD p undef)).run P w).andThen fun a w₁=>((loadVar ty a).run P w₁).andThen fun x w₂=>.ok (.tuple #[tmps.getD u undef,x]) w₂:=by
 simp only[results,h]
 simp[Sem.run_bind,Result.andThen]
theorem fN {fn:Func}{p u:Tmp}{ty:TypeId}{a:Act}{w:World}{R:Ending→World→Prop}{g:Nat}{t:TypeId}{cs:Array Value}{d:TypeDesc}(h:fn.results=#[.tmp u,.cell p ty]) (hp:a.tmps.getD p undef=.pointer (some ⟨g,0,none⟩)) (hg:Blk w g t cs)
  (hd:(match d with | .struct _ | .array _ _=>true | _=>false)=true) (hu:Tryz.prog.underlying ty=some d) (hi:(Tryz.prog.info? ty).map (·.size)=some cs.size)
  (hdf:a.defers=[]) (hR:R (.returned (.tuple #[a.tmps.getD u undef,.agg cs])) w):bodyPost Tryz.prog fn R .ret a w:=by
 refine bodyPost_ret (v:=.tuple #[a.tmps.getD u undef,.agg cs]) ?_ hdf hR
 rw[n9 h,hp];have NG:=run_loadVar_row (P:=Tryz.prog) w g t ty cs (0,0) d hg hu (by cases d <;> first | exact hd | rfl | cases hd) hi
 simp[asAddr,NG,Result.andThen]
theorem kH {n i:Nat}(f:Nat→UInt8) (a:List UInt8) (h:n≤i):vA n f a i=(List.range n).map f:=by
 apply List.map_congr_left
 intro j hj
 rw[if_pos (by have:j<n:=(by simpa using hj);omega)]
theorem Sk (key nonce text:List UInt8) {j k:Nat}(h1:16*j≤k) (h2:k<16*j+16):nr key nonce text k=at_ text k ^^^ at_ (mY key (rG (firstS nonce) nonce (j+1))) (k-16*j):=by
 rw[nr,show k/16=j by omega,show k%16=k-16*j by omega]
theorem aB {cg:Nat}{L key:List UInt8}(hBS:oh (mY key) cg L) {NA:Option Addr}{nn nc:Nat}{nonce:List UInt8}(rL:nn=nonce.length) (cV:7≤nonce.length∧nonce.length≤13)
  {TA:Option Addr} {tn tc:Nat} {text:List UInt8} (Z0:tn=text.length) (htl:text.length≤1048576) {tag:List UInt8} (hg:tag.length=16)
  (w:World) (hsn:Src w NA (nonce.map zq)) (vd:Src w TA (text.map zq)) (hC:Blk w cg 126 (zj L)) :
  Calls Tryz.prog 56 #[.pointer (some ⟨cg,0,none⟩),.slice NA nn nc,.slice TA tn tc,.agg (zj tag)] w fun e w' =>
   ∃ v,e=.returned (.tuple #[v,.agg (zj (ei key nonce tag))])∧OwnB w' w.heap.size v (bh key nonce text)∧Below w.heap.size w w':=by
 have h0:=(Blk.new w 85 (zj tag)).alloc (.cells (zj (List.replicate 16 0)) 85);have h1:=Blk.new (w.alloc (.cells (zj tag) 85)) 85 (zj (List.replicate 16 0));have b0:=zu w (.cells (zj tag) 85);have b1:=b0.alloc b0.size (.cells (zj (List.replicate 16 0)) 85);rw[zr]at h1;obtain⟨w1,qr⟩:∃ w1,(w.alloc (.cells (zj tag) 85)).alloc (.cells (zj (List.replicate 16 0)) 85)=w1:=⟨_,rfl⟩
 have vl:w1.heap.size=w.heap.size+2:=by rw[← qr,zr,zr]
 rw[qr]at h0 h1 b1;have Wf:=Hh (And.intro qr vl);have HN:=Hh (And.intro rL cV);have HT:=Hh (And.intro Z0 htl);have HG:=Hh hg;have HS:=Hh (And.intro hsn (And.intro vd hC));have CL:=Hh (pI w1 TA text tn tc Z0 (by omega) (vd.below b1));have Av:=Hh hC.lt;clear rL cV Z0 htl hg hsn vd hC qr vl b0;go_enter Tryz.func56,Tryz.ntmps56
 go_upto_region 1 with fail
 rw[show(w.alloc (.cells (zj tag) 85)).alloc (.cells #[.int .u8 0,.int .u8 0,.int .u8 0,.int .u8 0,.int .u8 0,.int .u8 0,.int .u8 0,.int .u8 0,.int .u8 0,.int .u8 0,.int .u8 0,.int .u8 0,.int .u8 0,.int .u8 0,.int .u8 0,.int .u8 0] 85)=w1 from Wf.out.1];go_wp2_with fail
 refine CL.out.mono ?_
 rintro e w2 ⟨v,rfl,hf⟩
 have hO:OwnB w2 (w.heap.size+2) v text:=Wf.out.2 ▸ hf.1;have b2:=b1.trans (hf.2.mono (by have:=Wf.out.2;omega));have Ix:=h0.below hf.2;have TX:=h1.below hf.2;obtain⟨A,c,rfl,hc,_⟩:=hO.form;rw[← HT.out.1]at hO⊢;clear h0 h1 b1 hf CL hc;have W1:IntKind.i64.wrap (14-(nn:Int))=((14-nn:Nat):Int):=by have:=HN.out;rw[show 14-(nn:Int)=((14-nn:Nat):Int) by omega];exact wa (by omega)
 obtain⟨f0,JQ⟩:∃ x,14-nn=x:=⟨_,rfl⟩
 rw[JQ]at W1;have W2:IntKind.u8.wrap (f0:Int)=(f0:Int):=by rw[IntKind.wrap_u8];omega
 have W3:(f0:Int)%256=(f0:Int):=by omega
 obtain⟨F,hF⟩:∃ f,firstS nonce=f:=⟨_,rfl⟩
 have HF:Hid (Value.int .u8 (f0:Int)=zq F∧firstS nonce=F):=by
  refine⟨?_,hF⟩
  rw[← hF,firstS,← HN.out.1,JQ,Vl (by omega)]
 rw[← sk (nr key nonce text) (show text.length=tn from HT.out.1.symm)]at hO;clear JQ hF;go_upto_region 3 with fail
 rw[HF.out.1];clear W1 W2 W3;go_wp2_with fail
 go_loopw [12] (fun v12 wr=>∃ j i:Nat,v12=.int .i64 (i:Int)∧Hid (i=16*j∧i≤tn+15)∧OwnB wr (w.heap.size+2) (.slice A tn c) (vA tn (nr key nonce text) text i)∧Blk wr w.heap.size 85 (zj tag)∧Blk wr (w.heap.size+1) 85 (zj (List.replicate 16 0))∧Below w.heap.size w wr) (fun v12 _=>(tn+16-intOf v12).toNat)
 case atStart=>exact⟨0,0,rfl,⟨rfl,by omega⟩,hO,Ix,TX,b2⟩
 case round =>
 clear hO Ix TX b2;obtain⟨j,i,rfl,HJ,hO,h0,h1,hb⟩:=hrel
 by_cases hin:(i:Int)<(tn:Int)
 ·have T1:(i:Int).tdiv 16=(j:Int):=by rw[← show i/16=j by have:=HJ.out;omega];exact(Int.ofNat_tdiv i 16).symm
  have T1':(i:Int)/16=(j:Int):=by have:=HJ.out;omega
  have W0:IntKind.i64.wrap (j:Int)=(j:Int):=wa (by have:=HJ.out;have:=HT.out;omega);have W4:IntKind.i64.wrap ((j:Int)+1)=((j+1:Nat):Int):=by rw[show(j:Int)+1=((j+1:Nat):Int) by omega];exact IntWalk.i64_in _ (by have:=HJ.out;have:=HT.out;omega)
  obtain⟨j1,Wp⟩:∃ x,j+1=x:=⟨_,rfl⟩
  rw[Wp]at W4;have CT:=Hh (mK F (c:=nc) HN.out.1 HN.out.2.2 j1 (by have:=HJ.out;have:=HT.out;omega) wr (HS.out.1.below hb));have Cc:=Hh Wp;clear Wp;go_wp2_with fail
  refine CT.out.mono ?_
  rintro e w3 ⟨rfl,xz⟩
  have lM:=pQ F HN.out.2.2 j1;have BL:=Hh (hBS (rG F nonce j1) w3 lM (HS.out.2.2.below (hb.trans (xz.mono hb.size))));have oX:=hO.below xz;have Nu:=h0.below xz;have Mo:=h1.below xz;have b3:=hb.trans (xz.mono hb.size);clear hO h0 h1 hb xz CT lM T1 T1' W0 W4;go_wp2_with fail
  refine BL.out.mono ?_
  rintro e w4 ⟨rfl,ui⟩
  have rl:=oX.below ui;have Nv:=Nu.below ui;have QL:=Mo.below ui;have b4:=b3.trans (ui.mono b3.size);obtain⟨s,hs⟩:∃ s,mY key (rG F nonce j1)=s:=⟨_,rfl⟩
  have sl:s.length=16:=by rw[← hs];exact qz _ _
  have Cs:=Hh hs;rw[hs];obtain⟨M,hM⟩:∃ M,w4.heap.size=M:=⟨_,rfl⟩
  have hz:=Blk.new w4 85 (zj (List.replicate 16 0));rw[hM]at hz
  have HM:Hid (w.heap.size+1<M∧∀ g,Value.ownBlock (.slice A tn c)=some g→g<M):=by
   refine⟨by have:=QL.lt;omega,fun g hg=>?_⟩
   have:=(rl.lt g hg).2
   omega
  have QH:=Hh hM;have xo:=rl.alloc (.cells (zj (List.replicate 16 0)) 85);have Mn:=Nv.alloc (.cells (zj (List.replicate 16 0)) 85);have Mp:=QL.alloc (.cells (zj (List.replicate 16 0)) 85);have b5:=b4.alloc b4.size (.cells (zj (List.replicate 16 0)) 85);clear oX Nu Mo b3 ui BL rl Nv QL b4 hs hM;go_wp2_with (with_reducible refine zx ?_)
  unfold zD
  rw[QH.out]
  refine zv rfl _ _ _ rfl rfl M (zj s) rfl rfl _ _ hz (by rw[zf,sl];kernel_rfl) (by rw[zf,sl];rfl) (xM _) fun w6 h6s xX=>?_
  have qo:=xo.kept xX (by
   cases hv:Value.ownBlock (.slice A tn c) with
   | none=>exact .inl rfl
   | some q=>exact .inr (fun e=>by injection e with e;have:=HM.out.2 q hv;omega))
  have Nw:=Mn.grown xX (by intro e;injection e with e;have:=HM.out.1;omega);have RE:=Mp.grown xX (by intro e;injection e with e;have:=HM.out.1;omega);have b6:=b5.grown xX b5.size (by rintro q ⟨⟩;have:=HM.out.1;omega);have R9:=Hh sl;clear hz xo Mn Mp b5 xX sl;obtain⟨i16,lH⟩:∃ x,i+16=x:=⟨_,rfl⟩
  have W5:IntKind.i64.wrap ((i:Int)+16)=(i16:Int):=by rw[← lH,Int.natCast_add];exact IntWalk.i64_in _ (by have:=HT.out;omega)
  obtain⟨lim,MF⟩:∃ x,min tn i16=x:=⟨_,rfl⟩
  have iU:=Hh (And.intro lH MF);clear lH MF;go_wp2_with fail
  go_loopw [14] (fun v14 wx=>∃ k:Nat,v14=.int .i64 (k:Int)∧i≤k∧k≤lim∧OwnB wx (w.heap.size+2) (.slice A tn c) (vA tn (nr key nonce text) text k)∧Blk wx M 85 (zj s)∧Blk wx w.heap.size 85 (zj tag)∧Blk wx (w.heap.size+1) 85 (zj (List.replicate 16 0))∧Below w.heap.size w wx) (fun v14 _=>(lim-intOf v14).toNat)
  case atStart=>exact⟨i,rfl,Nat.le_refl _,by have:=iU.out;omega,qo,h6s,Nw,RE,b6⟩
  case round =>
  clear qo h6s Nw RE b6;obtain⟨k,rfl,GE,hk,hO,hs,h0,h1,hb⟩:=hrel;go_upto_region 8 with fail
  go_cut [44] (fun s44 wy=>s44=.bool (decide (k<lim))∧OwnB wy (w.heap.size+2) (.slice A tn c) (vA tn (nr key nonce text) text k)∧Blk wy M 85 (zj s)∧Blk wy w.heap.size 85 (zj tag)∧Blk wy (w.heap.size+1) 85 (zj (List.replicate 16 0))∧Below w.heap.size w wy)
  case first =>
   by_cases hm:(i16:Int)<(tn:Int)
   ·go_wp2_with fail
    go_meet
    exact⟨(by rw[show lim=i16 by have:=iU.out;omega];try(congr 1;rw[decide_eq_decide];omega)),hO,hs,h0,h1,hb⟩
   go_wp2_with fail
   go_meet
   exact⟨(by rw[show lim=tn by have:=iU.out;omega];try(congr 1;rw[decide_eq_decide];omega)),hO,hs,h0,h1,hb⟩
  case rest =>
  clear hO hs h0 h1 hb;obtain⟨rfl,hO,hs,h0,h1,hb⟩:=hcut
  by_cases qq:k<lim
  ·rw[decide_eq_true qq];have Wr:k<tn:=by have:=iU.out;omega
   have RT:16*j≤k∧k<16*j+16:=by have:=iU.out;have:=HJ.out;omega
   obtain⟨d,hd⟩:∃ d,k-16*j=d:=⟨_,rfl⟩
   obtain⟨u,hu⟩:∃ u,at_ text k=u:=⟨_,rfl⟩
   obtain⟨v,hv⟩:∃ v,at_ s d=v:=⟨_,rfl⟩
   have HV:Hid (nr key nonce text k=u ^^^ v):=by
    rw[Hid,Sk key nonce text RT.1 RT.2,HF.out.2,Cc.out,Cs.out,hd,hu,hv]
   have S1:=Hh (sf (n:=tn) (i:=k) (nr key nonce text) text Wr);rw[HV.out]at S1;have OW:k<(vA tn (nr key nonce text) text k).length:=by rw[us];exact Wr
   obtain⟨gq,cur,e,G2,Mr,Wq,WA⟩:=hO.store_ (k:=k) OW
   cases e
   have bm:=Hh WA;have BK:gq<M:=HM.out.2 gq rfl
   have cl:wc.cell? ⟨gq,k,none⟩=some (zq u):=by
    obtain⟨b,off,e,hc⟩:=hO.src (by intro h;rw[List.map_eq_nil_iff]at h;rw[h]at OW;simp at OW)
    cases e
    have h:=hc k (zq (vA tn (nr key nonce text) text k)[k]) (by rw[List.getElem?_map,List.getElem?_eq_getElem OW];rfl);rw[← fc OW,l8 _ _ Wr,hu,Nat.zero_add]at h
    exact h
   have c0:=nd (Below.refl _ wc).drew cl;have c1:=hs.drew.cell d (yT _ _ (by have:=R9.out;omega));rw[hv]at c1;have W6:IntKind.i64.wrap ((k:Int)-(i:Int))=(d:Int):=by rw[show(k:Int)-(i:Int)=(d:Int) by have:=HJ.out;omega];exact IntWalk.i64_in _ (by omega)
   obtain⟨k1,nz⟩:∃ x,k+1=x:=⟨_,rfl⟩
   have W7:IntKind.i64.wrap ((k:Int)+1)=(k1:Int):=by rw[← nz,Int.natCast_add];exact IntWalk.i64_in _ (by have:=HT.out;omega)
   rw[nz]at S1;have Ts:=Hh nz;clear nz;have ld:(d:Int)<16:=by omega
   have lk:(k:Int)<(tn:Int):=by omega
   have X:=Hh (xE u v);have FK:=Mr.drew;have Ay:=Hh Wr;clear hd hu hv OW WA cl hO RT HV Wr Mr;go_upto_region 10 with fail
   refine zw 11 (fun wx=>wx.cell? ⟨gq,k,none⟩=some (zq u)∧wx.cell? ⟨M,d,none⟩=some (zq v)) (by kernel_rfl) (⟨c0,c1⟩) (fun zy=>?_)
   refine Tk 0 rfl zy ?_
   refine Tk 1 rfl zy ?_
   refine Tk 2 rfl zy ?_
   refine Tk 3 rfl zy ?_
   refine Tk 4 rfl zy ?_
   refine Tk 5 rfl zy ?_
   refine Tk 6 rfl zy ?_
   refine Tk 7 rfl zy ?_
   refine Tk 8 rfl zy ?_
   refine Tk 9 rfl zy ?_
   refine Tk 10 rfl zy ?_
   refine To 11 rfl fun K hK=>?_
   rw[if_pos (by rfl)]
   refine yY _ _ _ rfl gq k (zq (u ^^^ v)) rfl (by show Value.int .u8 (bits .xor .u8 (u.toNat:Int) (v.toNat:Int))=_;rw[X.out]) _ _ FK wi Wq rfl fun w9 kh yL=>?_
   refine Kz hK ?_
   clear hK K
   refine Wd ?_
   clear zy;have WU:=bm.out w9 (u ^^^ v) kh;rw[S1.out]at WU;have Jn:=hs.drew.gr yL (by omega);have KQ:=h0.drew.gr yL (by omega);have Mq:=h1.drew.gr yL (by omega);have b9:=hb.drew.grown yL hb.size (by rintro q ⟨⟩;omega);clear yL c0 c1 hs h0 h1 hb S1 X FK kh W6 ld lk bm;go_wp2_with fail
   go_roundw
   case rel=>exact⟨k1,rfl,by have:=Ts.out;omega,by have:=Ts.out;omega,WU,Jn,KQ,Mq,b9⟩
   case measure=>have:=Ts.out;simp[intOf];omega
  rw[decide_eq_false qq]
  have hE:vA tn (nr key nonce text) text k=vA tn (nr key nonce text) text i16:=by
   by_cases hm:i16<tn
   ·rw[show k=i16 by have:=iU.out;omega]
   rw[kH _ _ (by have:=iU.out;omega),kH _ _ (by omega)]
  rw[hE]at hO;clear hE hs;go_wp2_with fail
  go_roundw
  case rel=>exact⟨j+1,i16,rfl,⟨by have:=iU.out;have:=HJ.out;omega,by have:=iU.out;omega⟩,hO,h0,h1,hb⟩
  case measure=>have:=iU.out;simp[intOf];omega
 have hE:vA tn (nr key nonce text) text i=bh key nonce text:=by rw[kH _ _ (by omega),HT.out.1];rfl
 rw[hE]at hO;have CT:=Hh (mK F (c:=nc) HN.out.1 HN.out.2.2 0 (by omega) wr (HS.out.1.below hb));clear hE;go_wp2_with fail
 refine CT.out.mono ?_
 rintro e w3 ⟨rfl,xz⟩
 have lM:=pQ F HN.out.2.2 0;have BL:=Hh (hBS (rG F nonce 0) w3 lM (HS.out.2.2.below (hb.trans (xz.mono hb.size))));have oX:=hO.below xz;have Nu:=h0.below xz;have Mo:=h1.below xz;have b3:=hb.trans (xz.mono hb.size);clear hO h0 h1 hb xz CT lM;go_wp2_with fail
 refine BL.out.mono ?_
 rintro e w4 ⟨rfl,ui⟩
 have rl:=oX.below ui;have Nv:=Nu.below ui;have QL:=Mo.below ui;have b4:=b3.trans (ui.mono b3.size);obtain⟨s,hs⟩:∃ s,mY key (rG F nonce 0)=s:=⟨_,rfl⟩
 have sl:s.length=16:=by rw[← hs];exact qz _ _
 have R0:Hid (ei key nonce tag=(List.range 16).map fun i=>at_ tag i ^^^ at_ s i):=by rw[Hid,ei,HF.out.2,hs];rfl
 rw[hs];obtain⟨M,hM⟩:∃ M,w4.heap.size=M:=⟨_,rfl⟩
 have hz:=Blk.new w4 85 (zj (List.replicate 16 0));rw[hM]at hz
 have HM:Hid (w.heap.size+1<M∧∀ g,Value.ownBlock (.slice A tn c)=some g→g<M∧w.heap.size+2≤g):=by
  refine⟨by have:=QL.lt;omega,fun g hg=>?_⟩
  have:=rl.lt g hg
  omega
 have QH:=Hh hM;have xo:=rl.alloc (.cells (zj (List.replicate 16 0)) 85);have Mn:=Nv.alloc (.cells (zj (List.replicate 16 0)) 85);have Mp:=QL.alloc (.cells (zj (List.replicate 16 0)) 85);have b5:=b4.alloc b4.size (.cells (zj (List.replicate 16 0)) 85);clear oX Nu Mo b3 ui BL rl Nv QL b4 hs hM;go_wp2_with (with_reducible refine zx ?_)
 unfold zD
 rw[QH.out]
 refine zv rfl _ _ _ rfl rfl M (zj s) rfl rfl _ _ hz (by rw[zf,sl];kernel_rfl) (by rw[zf,sl];rfl) (xM _) fun w6 h6s xX=>?_
 have qo:=xo.kept xX (by
  cases hv:Value.ownBlock (.slice A tn c) with
  | none=>exact .inl rfl
  | some q=>exact .inr (fun e=>by injection e with e;have:=(HM.out.2 q hv).1;omega))
 have Nw:=Mn.grown xX (by intro e;injection e with e;have:=HM.out.1;omega);have RE:=Mp.grown xX (by intro e;injection e with e;have:=HM.out.1;omega);have b6:=b5.grown xX b5.size (by rintro q ⟨⟩;have:=HM.out.1;omega);have R9:=Hh sl;rw[← sk (fun i=>at_ tag i ^^^ at_ s i) HG.out]at Nw;clear hz xo Mn Mp b5 xX sl;go_wp2_with fail
 go_loopw [63] (fun v63 wx=>∃ k:Nat,v63=.int .i64 (k:Int)∧k≤16∧OwnB wx (w.heap.size+2) (.slice A tn c) (bh key nonce text)∧Blk wx M 85 (zj s)∧Blk wx w.heap.size 85 (zj (vA 16 (fun i=>at_ tag i ^^^ at_ s i) tag k))∧Blk wx (w.heap.size+1) 85 (zj (List.replicate 16 0))∧Below w.heap.size w wx) (fun v63 _=>(16-intOf v63).toNat)
 case atStart=>exact⟨0,rfl,by omega,qo,h6s,Nw,RE,b6⟩
 case round =>
 clear qo h6s Nw RE b6;obtain⟨k,rfl,hk,hO,hs,h0,h1,hb⟩:=hrel
 by_cases Wr:(k:Int)<16
 ·obtain⟨u,hu⟩:∃ u,at_ tag k=u:=⟨_,rfl⟩
  obtain⟨v,hv⟩:∃ v,at_ s k=v:=⟨_,rfl⟩
  have c0:=h0.drew.cell k (yT _ _ (by rw[us];omega));have c1:=hs.drew.cell k (yT _ _ (by have:=R9.out;omega));rw[l8 _ _ (by omega),hu]at c0;rw[hv]at c1;have X:=Hh (xE u v);have S1:=Hh (sf (n:=16) (i:=k) (fun i=>at_ tag i ^^^ at_ s i) tag (by omega))
  simp only[hu,hv]at S1
  clear hu hv;go_upto_region 15 with fail
  refine zw 8 (fun wx=>wx.cell? ⟨w.heap.size,k,none⟩=some (zq u)∧wx.cell? ⟨M,k,none⟩=some (zq v)) (by kernel_rfl) (⟨c0,c1⟩) (fun zy=>?_)
  refine Tk 0 rfl zy ?_
  refine Tk 1 rfl zy ?_
  refine Tk 2 rfl zy ?_
  refine Tk 3 rfl zy ?_
  refine Tk 4 rfl zy ?_
  refine Tk 5 rfl zy ?_
  refine Tk 6 rfl zy ?_
  refine Tk 7 rfl zy ?_
  refine To 8 rfl fun K hK=>?_
  rw[if_pos (by rfl)]
  refine yY _ _ _ rfl w.heap.size k (zq (u ^^^ v)) rfl (by show Value.int .u8 (bits .xor .u8 (u.toNat:Int) (v.toNat:Int))=_;rw[X.out]) _ _ h0.drew wi (by rw[zf,us];omega) rfl fun w9 KQ yL=>?_
  refine Kz hK ?_
  clear hK K
  refine Wd ?_
  clear zy;rw[wM,S1.out]at KQ;have WU:=(hO.below (Below.refl _ _).drew).kept yL (by cases hv:Value.ownBlock (.slice A tn c) with | none=>exact .inl rfl | some q=>exact .inr (fun e=>by injection e with e;have:=(HM.out.2 q hv).2;omega));have Jn:=hs.drew.grown yL (by intro e;injection e with e;have:=HM.out.1;omega);have Mq:=h1.drew.gr yL (by omega);have b9:=hb.drew.grown yL hb.size (by rintro q ⟨⟩;omega);clear yL c0 c1 hO hs h0 h1 hb S1 X;go_wp2_with fail
  go_roundw
  case rel=>exact⟨k+1,by go_num,by omega,WU,Jn,KQ,Mq,b9⟩
  case measure=>simp[intOf];omega
 obtain rfl:k=16:=by omega
 rw[show((16:Nat):Int)=16 from rfl];rw[pB,← R0.out]at h0;have ml:(ei key nonce tag).length=16:=mU _ _;obtain⟨z,hz⟩:∃ z,ei key nonce tag=z:=⟨_,rfl⟩
 have HZ:=Hh hz;rw[hz]at h0 ml;clear hz hs R0 Wr;go_upto_region 17 with fail
 refine zw 4 (fun _=>True) (by kernel_rfl) (trivial) (fun zy=>?_)
 refine TkS 0 rfl zy ?_
 refine TkS 2 rfl zy ?_
 refine To 1 rfl fun K hK=>?_
 rw[if_pos (by rfl)]
 refine wp_load_mid _ _ rfl w.heap.size 0 rfl ((oc z 0 16).map zq) _ (jX h0.drew 0 16) Tryz.underlying85 rfl (by rw[List.length_map,kF (by omega)];kernel_rfl) ?_
 refine Ko hK ?_ fun zy=>?_
 ·trivial
 clear hK K
 refine To 3 rfl fun K hK=>?_
 rw[if_pos (by rfl)]
 refine zm _ _ _ rfl (w.heap.size+1) (zj z) rfl (by show Value.agg (zj (oc z 0 16))=_;rw[vS ml]) _ _ h1.drew (by rw[zf,ml];kernel_rfl) (by rw[zf,ml];rfl) (xM _) fun w9 Mq yL=>?_
 refine Ko hK ?_ fun zy=>?_
 ·trivial
 clear hK K
 refine Wd ?_
 clear zy;have WU:=(hO.below (Below.refl _ _).drew).kept yL (by cases hv:Value.ownBlock (.slice A tn c) with | none=>exact .inl rfl | some q=>exact .inr (fun e=>by injection e with e;have:=(HM.out.2 q hv).2;omega));have b9:=hb.drew.grown yL hb.size (by rintro q ⟨⟩;omega);clear yL hO h0 h1 hb;go_wp2_with fail
 exact fN rfl rfl Mq rfl rfl (by rw[zf,ml];kernel_rfl) rfl ⟨_,by rw[HZ.out];rfl,WU.more (by omega),b9⟩
def vz (kn nn t:Nat):Bool:=decide (kn=16)&&decide (7≤nn)&&decide (nn≤13)&&decide (4≤t)&&decide (t≤16)&&decide (t%2=0)
def uU (key nonce aad plain:List UInt8) (t:Nat):Int×List UInt8 :=
 if vz key.length nonce.length t=false then(1,[]) else if 4096<aad.length∨4096<plain.length then(8,[]) else(0,ly key nonce aad plain t)
theorem XQ {KA NA:Option Addr}{kn kc nn nc:Nat}(t:Nat) (ht:t≤1000000) (w:World) :
  Calls Tryz.prog 54 #[.slice KA kn kc,.slice NA nn nc,.int .i64 (t:Int)] w fun e w'=>e=.returned (.bool (vz kn nn t))∧w=w':=by
 obtain⟨r,hr⟩:∃ r,t%2=r:=⟨_,rfl⟩
 have t1:(t:Int).tmod 2=(r:Int):=by rw[← hr];exact(Int.ofNat_tmod t 2).symm
 have t1':(t:Int)%2=(r:Int):=by rw[← hr];omega
 have HR:=Hh hr
 by_cases h1:(kn:Int)=16
 ·have Nx:kn=16:=by omega
  by_cases h2:(7:Int)≤(nn:Int)
  ·by_cases h3:(nn:Int)≤13
   ·by_cases h4:(4:Int)≤(t:Int)
    ·by_cases h5:(t:Int)≤16
     ·by_cases h6:(r:Int)=0
      ·have E:Hid (vz kn nn t=true):=by rw[Hid,vz,hr];simp;omega
       clear hr Nx;go_enter Tryz.func54,Tryz.ntmps54
       go_wp2_with fail
       go_ret
       exact⟨by rw[E.out];rfl,rfl⟩
      have E:Hid (vz kn nn t=false):=by rw[Hid,vz,hr];simp;omega
      have e6:((r:Int)==0)=false:=by rw[beq_eq_false_iff_ne];exact h6
      clear hr Nx;go_enter Tryz.func54,Tryz.ntmps54
      go_wp2_with fail
      go_ret
      exact⟨by rw[E.out];rfl,rfl⟩
     have E:Hid (vz kn nn t=false):=by rw[Hid,vz];simp;omega
     clear hr Nx;go_enter Tryz.func54,Tryz.ntmps54
     go_wp2_with fail
     go_ret
     exact⟨by rw[E.out];rfl,rfl⟩
    have E:Hid (vz kn nn t=false):=by rw[Hid,vz];simp;omega
    clear hr Nx;go_enter Tryz.func54,Tryz.ntmps54
    go_wp2_with fail
    go_ret
    exact⟨by rw[E.out];rfl,rfl⟩
   have E:Hid (vz kn nn t=false):=by rw[Hid,vz];simp;omega
   clear hr Nx;go_enter Tryz.func54,Tryz.ntmps54
   go_wp2_with fail
   go_ret
   exact⟨by rw[E.out];rfl,rfl⟩
  have E:Hid (vz kn nn t=false):=by rw[Hid,vz];simp;omega
  clear hr Nx;go_enter Tryz.func54,Tryz.ntmps54
  go_wp2_with fail
  go_ret
  exact⟨by rw[E.out];rfl,rfl⟩
 have E:Hid (vz kn nn t=false):=by rw[Hid,vz];simp;omega
 have e1:((kn:Int)==16)=false:=by rw[beq_eq_false_iff_ne];exact h1
 clear hr;go_enter Tryz.func54,Tryz.ntmps54
 go_wp2_with fail
 go_ret
 exact⟨by rw[E.out];rfl,rfl⟩
def ZB (w:World) (r:Int×List UInt8) (e:Ending) (w':World):Prop:=∃ v,e=.returned (.tuple #[v,.int .i64 r.1])∧OwnB w' w.heap.size v r.2∧Below w.heap.size w w'
theorem de {KA:Option Addr}{kn kc:Nat}{key:List UInt8}(j8:kn=key.length) (Wq:kn≤kc) {NA:Option Addr}{nn nc:Nat}{nonce:List UInt8}(rL:nn=nonce.length)
  {AA:Option Addr} {an ac:Nat} {aad:List UInt8} (han:an=aad.length) (hac:an≤ac) {PA:Option Addr} {pn pc:Nat} {plain:List UInt8} (hpn:pn=plain.length) (mr:pn≤pc)
  (t:Nat) (ht:t≤16) (w:World) (hsk:Src w KA (key.map zq)) (hsn:Src w NA (nonce.map zq)) (U6:Src w AA (aad.map zq)) (cH:Src w PA (plain.map zq)) :
  Calls Tryz.prog 21 #[.slice KA kn kc,.slice NA nn nc,.slice AA an ac,.slice PA pn pc,.int .i64 (t:Int)] w (ZB w (uU key nonce aad plain t)):=by
 have V:=Hh (XQ (KA:=KA) (kn:=kn) (kc:=kc) (NA:=NA) (nn:=nn) (nc:=nc) t (by omega) w);have HK:=Hh (And.intro j8 Wq);have HN:=Hh rL;have HA:=Hh (And.intro han hac);have HP:=Hh (And.intro hpn mr);have HT:=Hh ht;have HS:=Hh (And.intro hsk (And.intro hsn (And.intro U6 cH)))
 have NO:∀ r:Int×List UInt8,uU key nonce aad plain t=r→r.2=[]→Hid (ZB w (uU key nonce aad plain t) (.returned (.tuple #[.slice none 0 0,.int .i64 r.1])) w):=by
  rintro r rfl h
  exact⟨_,rfl,by rw[h];exact OwnB.nil _ _,Below.refl _ _⟩
 cases hv:vz kn nn t with
 | false =>
  have N1:=NO (1,[]) (by rw[uU,← j8,← rL,if_pos hv]) rfl;rw[hv]at V;clear NO j8 Wq rL han hac hpn mr ht hsk hsn U6 cH hv;go_enter Tryz.func21,Tryz.ntmps21
  go_wp2_with fail
  refine V.out.mono ?_
  rintro e w1 ⟨rfl,rfl⟩
  go_wp2_with fail
  go_ret2
  exact N1.out
 | true =>
 have HV:Hid (kn=16∧7≤nn∧nn≤13∧4≤t):=by
  simp only[vz,Bool.and_eq_true,decide_eq_true_eq]at hv
  exact⟨hv.1.1.1.1.1,hv.1.1.1.1.2,hv.1.1.1.2,hv.1.1.2⟩
 rw[hv]at V
 by_cases hbig:(4096:Int)<(an:Int)∨(4096:Int)<(pn:Int)
 ·have N1:=NO (8,[]) (by rw[uU,← j8,← rL,if_neg (by rw[hv];decide),if_pos (by omega)]) rfl;clear NO j8 Wq rL han hac hpn mr ht hsk hsn U6 cH hv
  by_cases h1:(4096:Int)<(an:Int)
  ·clear hbig;go_enter Tryz.func21,Tryz.ntmps21
   go_wp2_with fail
   refine V.out.mono ?_
   rintro e w1 ⟨rfl,rfl⟩
   go_wp2_with fail
   go_ret2
   exact N1.out
  have h2:(4096:Int)<(pn:Int):=by omega
  clear hbig;go_enter Tryz.func21,Tryz.ntmps21
  go_wp2_with fail
  refine V.out.mono ?_
  rintro e w1 ⟨rfl,rfl⟩
  go_wp2_with fail
  go_ret2
  exact N1.out
 have E:Hid (uU key nonce aad plain t=(0,ly key nonce aad plain t)):=by rw[Hid,uU,← j8,← rL,if_neg (by rw[hv];decide),if_neg (by omega)]
 have h1:¬ (4096:Int)<(an:Int):=by omega
 have h2:¬ (4096:Int)<(pn:Int):=by omega
 have HB:Hid (an≤4096∧pn≤4096):=by rw[Hid];omega
 clear NO hbig j8 Wq rL han hac hpn mr ht hsk hsn U6 cH hv;obtain rfl:kn=16:=HV.out.1;have NW:=Hh (Rk (c:=kc) HK.out.1.symm w HS.out.1);go_enter Tryz.func21,Tryz.ntmps21
 go_wp2_with fail
 refine V.out.mono ?_
 rintro e w1 ⟨rfl,rfl⟩
 go_wp2_with fail
 refine NW.out.mono ?_
 rintro e w2 ⟨N,rfl,hN,hC,b2⟩
 have BS:=XG HK.out.1.symm N;have AU:=Hh (mC BS (nc:=nc) HN.out (by have:=HV.out;have:=HN.out;omega) (AA:=AA) (ac:=ac) HA.out.1 HA.out.2 (by have:=HB.out;have:=HA.out;omega) (PA:=PA) (pc:=pc) HP.out.1 HP.out.2 (by have:=HB.out;have:=HP.out;omega) t (by have:=HV.out;have:=HT.out;omega) w2 (HS.out.2.1.below b2) (HS.out.2.2.1.below b2) (HS.out.2.2.2.below b2) hC);have tl:=Uv key nonce aad plain t;obtain⟨tg,Jp⟩:∃ x,bj key nonce aad plain t=x:=⟨_,rfl⟩
 have KL:=Hh Jp;rw[Jp]at AU tl;clear Jp NW V;go_wp2_with fail
 refine AU.out.mono ?_
 rintro e w3 ⟨rfl,xz⟩
 have gB:=hC.below xz;have b3:=b2.trans (xz.mono b2.size);have ST:=Hh (aB BS (nc:=nc) HN.out (by have:=HV.out;have:=HN.out;omega) (TA:=PA) (tc:=pc) HP.out.1 (by have:=HB.out;have:=HP.out;omega) tl w3 (HS.out.2.1.below b3) (HS.out.2.2.2.below b3) gB);clear hC b2 xz AU tl;go_wp2_with fail
 refine ST.out.mono ?_
 rintro e w4 ⟨v,rfl,rl,ui⟩
 have b4:=b3.trans (ui.mono b3.size);replace rl:=rl.more b3.size;obtain⟨A,c,rfl,hc,_⟩:=rl.form;rw[nT]at rl hc⊢;rw[← HP.out.1]at rl hc⊢;have ml:(ei key nonce tg).length=16:=mU _ _;obtain⟨z,hz⟩:∃ z,ei key nonce tg=z:=⟨_,rfl⟩
 have HZ:=Hh hz;rw[hz]at ml⊢;obtain⟨M,hM⟩:∃ M,w4.heap.size=M:=⟨_,rfl⟩
 have o1:=Blk.new w4 85 (zj (List.replicate 16 0));rw[hM]at o1
 have HM:Hid (w.heap.size≤M∧∀ g,Value.ownBlock (.slice A pn c)=some g→g<M):=by
  refine⟨by have:=b4.size;omega,fun g hg=>?_⟩
  have:=(rl.lt g hg).2
  omega
 have QH:=Hh hM;have xo:=rl.alloc (.cells (zj (List.replicate 16 0)) 85);have b5:=b4.alloc b4.size (.cells (zj (List.replicate 16 0)) 85);clear gB b3 ui ST rl b4 hz hM;go_wp2_with (with_reducible refine zx ?_)
 unfold zD
 rw[QH.out]
 refine zv rfl _ _ _ rfl rfl M (zj z) rfl rfl _ _ o1 (by rw[zf,ml];kernel_rfl) (by rw[zf,ml];rfl) (xM _) fun w6 h6 xX=>?_
 have qo:=xo.kept xX (by
  cases hv:Value.ownBlock (.slice A pn c) with
  | none=>exact .inl rfl
  | some q=>exact .inr (fun e=>by injection e with e;have:=HM.out.2 q hv;omega))
 have b6:=b5.grown xX b5.size (by rintro q ⟨⟩;exact HM.out.1)
 have Nc:Src w6 (some ⟨M,0,none⟩) ((z.take t).map zq):=fun _=>⟨M,0,rfl,fun j v hj=>h6.cell _ (by
  rw[Nat.zero_add];rw[List.getElem?_map,List.getElem?_take]at hj
  split at hj
  ·simpa [zj] using hj
  cases hj)⟩
 have C8:(t:Int)≤16:=by have:=HT.out;omega
 have QK:Hid ((z.take t).length=t):=by rw[Hid,List.length_take,ml];have:=HT.out;omega
 clear o1 xo b5 xX h6;go_wp2_with (at_builtin;refine zM ?_)
 refine zo rfl (.tmp 45) (.tmp 47) rfl w.heap.size _ (bh key nonce plain) rfl (by rw[OwnB,nT,← HP.out.1];rw[OwnB,nT,← HP.out.1]at qo;exact qo) (some ⟨M,0,none⟩) t 16 (z.take t) rfl QK.out.symm Nc (by rw[nT,QK.out];have:=HB.out;have:=HP.out;have:=HT.out;omega) b6.size fun v' w8 Yt hg8 hat8=>?_
 have b8:=zR b6 hg8 (fun q hq=>(qo.lt q hq).1);clear qo b6 Nc hg8 hat8;go_wp2_with fail
 go_ret2
 exact⟨v',by rw[E.out];rfl,by rw[E.out,ly,KL.out,HZ.out];exact Yt,b8⟩
theorem IsBytes.take' {H:Snap}{A:Option Addr}{c:Nat}{l:List UInt8}(h:IsBytes H A c l) (m:Nat):IsBytes H A c (l.take m):=by
 refine⟨by have:=h.le;rw[List.length_take];omega,h.max,fun wS=>?_⟩
 obtain⟨b,off,e,hc⟩:=h.row (by intro h0;rw[List.map_eq_nil_iff]at h0;subst h0;simp at wS)
 refine⟨b,off,e,fun j v hj=>hc j v ?_⟩
 rw[List.map_take,List.getElem?_take]at hj
 split at hj
 ·exact hj
 cases hj
theorem IsBytes.drop' {H:Snap}{A:Option Addr}{c:Nat}{l:List UInt8}(h:IsBytes H A c l) (k:Nat) (hk:k≤l.length):IsBytes H (if c=k then A else Option.map (fun x=>x.add k) A) (c-k) (l.drop k):=by
 have yx:=h.le;have me:=h.max
 refine⟨by rw[List.length_drop];omega,by omega,fun wS=>?_⟩
 have qq:k<l.length:=by
  rcases Nat.lt_or_ge k l.length with h1 | h1
  ·exact h1
  rw[List.drop_eq_nil_of_le h1]at wS;exact absurd rfl wS
 obtain⟨b,off,rfl,hc⟩:=h.row (by intro h0;rw[List.map_eq_nil_iff]at h0;subst h0;simp at qq);rw[if_neg (by omega)]
 refine⟨b,off+k,by rw[Option.map_some,qx],fun j v hj=>?_⟩
 rw[List.map_drop,List.getElem?_drop]at hj;have:=hc (k+j) v hj;rwa [← Nat.add_assoc]at this
theorem o7 {P:Program}(t e:TypeId) (n:Nat) (cs:Array Value) (k:IntKind) (j:Nat) (i:Int) (u:Value) (h:P.underlying t=some (.array n e)) (he:P.plainKey e=true) (i0:TypeInfo) (uv:P.info? e=some i0) (h1:i0.size=1) (hi:i=(j:Int)) (hj:j<n) (hv:cs[j]? = some u) (w:World) :
  (Instr.index t (.agg cs) (.int k i)).run P w=.ok u w:=by
 subst hi;have hn:(0:Int)≤(j:Int)∧(j:Int)<(n:Int):=by omega
 have hp:=run_part_plain (P:=P) (w:=w) he hv
 have e1:(Instr.index t (.agg cs) (.int k (j:Int))).run P w=(part e cs j).run P w:=by
  simp[Instr.index,run_underlying h,asIntOf,hn,hj,sizeOf,typeInfo,uv,h1,go_sem]
 rw[e1,hp]
theorem wG (w:World) (cs:Array Value) (j:Nat) (u:Value) (i:Int) (hi:i=(j:Int)) (hj:j<8) (hv:cs[j]? = some u) :
  (Instr.index 137 (.agg cs) (.int .i64 i)).run Tryz.prog w=.ok u w:=by
 obtain⟨i0,uv,o1,rp,rQ⟩:=info_parts (show(Tryz.prog.info? 135).map (fun i=>(i.zero,i.size,i.bytes))=some (some (.int .u32 0),1,4) by kernel_rfl)
 exact o7 _ _ 8 cs .i64 j i u Tryz.underlying137 (by kernel_rfl) i0 uv rp hi hj hv w
end Go.Proofs.YtliomcphdnppnaaGreatDoor
