/- squeezed. Walks: a text and the stream of th -/
import Derived.Test.YtkmlnjociijpgaaGreatDoorK09
set_option linter.unusedVariables false
set_option linter.unusedSimpArgs false
set_option maxRecDepth 100000
set_option maxHeartbeats 25600000
namespace Go.Proofs.YtkmlnjociijpgaaGreatDoor
open Go.RowKit
theorem jaz{P:Prop}(h:P:=by
 have:=HM.out;rw[Hid,List.length_append,zA,List.length_take,xR]
 omega):P:=h
theorem jby{P:Prop}(h:P:=by
 go_wp2_with fail
 go_ret
 exact⟨_,rfl,by have h:=hO.form;obtain⟨_,_,e,_⟩:=h;exact⟨hO,hb⟩⟩):P:=h
theorem jbz{P:Prop}(h:P:=by
 have zE:=zp zY zK (fun q hq=>(hO.lt q hq).1);rw[je]at zW;obtain⟨A5,c5,rfl,_⟩:=zW.form;rw[zA]at zW⊢;clear hO hb zJ zY zK hat5;go_wp2_with fail
 go_roundw
 case rel=>exact⟨z+1,_,A5,c5,rfl,rfl,hz,zW,zE⟩
 case measure=>have:=HM.out;have:=HB.out;have:=hz.out;simp only[sK];omega):P:=h
theorem jbX{P:Prop}(h:P:=by
 rw[mr.out]at zW⊢;clear hO hb zJ zY zK hat5;go_wp2_with fail
 go_roundw
 case rel=>exact⟨1,m+1,A5,c5,rfl,by go_num,by omega,rfl,zW,zE⟩
 case measure=>have:=lX.out;simp only[sK];omega):P:=h
theorem jbY{P:Prop}(h:P:=by
 rw[mr.out]at zW⊢;clear hO hb zJ zY zK hat5;go_wp2_with fail
 go_roundw
 case rel=>exact⟨2,m+2,A5,c5,rfl,by go_num,by omega,rfl,zW,zE⟩
 case measure=>have:=lX.out;simp only[sK];omega):P:=h
theorem jbZ{P:Prop}(h:P:=by
 rw[mr.out]at zW⊢;clear hO hb zJ zY zK hat5;go_wp2_with fail
 go_roundw
 case rel=>exact⟨3,m+3,A5,c5,rfl,by go_num,by omega,rfl,zW,zE⟩
 case measure=>have:=lX.out;simp only[sK];omega):P:=h
theorem jb0{P:Prop}(h:P:=by
 rw[mr.out]at zW⊢;clear hO hb zJ zY zK hat5;go_wp2_with fail
 go_roundw
 case rel=>exact⟨4,m+4,A5,c5,rfl,by go_num,by omega,rfl,zW,zE⟩
 case measure=>have:=lX.out;simp only[sK];omega):P:=h
theorem jb1{P:Prop}(h:P:=by
 rw[mr.out]at zW⊢;clear hO hb zJ zY zK hat5;go_wp2_with fail
 go_roundw
 case rel=>exact⟨5,m+5,A5,c5,rfl,by go_num,by omega,rfl,zW,zE⟩
 case measure=>have:=lX.out;simp only[sK];omega):P:=h
theorem jb2{P:Prop}(h:P:=by
 rw[mr.out]at zW⊢;clear hO hb zJ zY zK hat5;go_wp2_with fail
 go_roundw
 case rel=>exact⟨6,m+6,A5,c5,rfl,by go_num,by omega,rfl,zW,zE⟩
 case measure=>have:=lX.out;simp only[sK];omega):P:=h
theorem jb3{P:Prop}(h:P:=by
 rw[mr.out]at zW⊢;clear hO hb zJ zY zK hat5;go_wp2_with fail
 go_roundw
 case rel=>exact⟨7,m+7,A5,c5,rfl,by go_num,by omega,rfl,zW,zE⟩
 case measure=>have:=lX.out;simp only[sK];omega):P:=h
theorem jb4{P:Prop}(h:P:=by
 rw[mr.out]at zW⊢;clear hO hb zJ zY zK hat5;go_wp2_with fail
 go_roundw
 case rel=>exact⟨8,m+8,A5,c5,rfl,by go_num,by omega,rfl,zW,zE⟩
 case measure=>have:=lX.out;simp only[sK];omega):P:=h
theorem jcx{P:Prop}(h:P:=by
 have:=HM.out;have:=lX.out;have:=HN.out;have:=HZ.out;have:=HB.out
 rw[Hid,List.length_append,zA,List.length_take,xR]
 omega):P:=h
theorem jcO{P:Prop}(h:P:=by
 simp only[results,h]
 simp[Sem.run_bind,Result.andThen]):P:=h
theorem jd4{P:Prop}(h:P:=by
 have zE:=zp zY zK (fun q hq=>(hO.lt q hq).1);rw[List.append_assoc,show [yf N 56]=[(vr N).getD 0 0] from rfl,HT.out (by omega)]at zW;obtain⟨A5,c5,rfl,_⟩:=zW.form
 have mr:Hid ((yO l z++(vr N).take (0+1)).length=m+1):=by
  exact jaz
 exact jbX):P:=h
theorem jd5{P:Prop}(h:P:=by
 have zE:=zp zY zK (fun q hq=>(hO.lt q hq).1);rw[List.append_assoc,show [yf N 48]=[(vr N).getD 1 0] from rfl,HT.out (by omega)]at zW;obtain⟨A5,c5,rfl,_⟩:=zW.form
 have mr:Hid ((yO l z++(vr N).take (1+1)).length=m+2):=by
  exact jaz
 exact jbY):P:=h
theorem jd6{P:Prop}(h:P:=by
 have zE:=zp zY zK (fun q hq=>(hO.lt q hq).1);rw[List.append_assoc,show [yf N 40]=[(vr N).getD 2 0] from rfl,HT.out (by omega)]at zW;obtain⟨A5,c5,rfl,_⟩:=zW.form
 have mr:Hid ((yO l z++(vr N).take (2+1)).length=m+3):=by
  exact jaz
 exact jbZ):P:=h
theorem jd7{P:Prop}(h:P:=by
 have zE:=zp zY zK (fun q hq=>(hO.lt q hq).1);rw[List.append_assoc,show [yf N 32]=[(vr N).getD 3 0] from rfl,HT.out (by omega)]at zW;obtain⟨A5,c5,rfl,_⟩:=zW.form
 have mr:Hid ((yO l z++(vr N).take (3+1)).length=m+4):=by
  exact jaz
 exact jb0):P:=h
theorem jd8{P:Prop}(h:P:=by
 have zE:=zp zY zK (fun q hq=>(hO.lt q hq).1);rw[List.append_assoc,show [yf N 24]=[(vr N).getD 4 0] from rfl,HT.out (by omega)]at zW;obtain⟨A5,c5,rfl,_⟩:=zW.form
 have mr:Hid ((yO l z++(vr N).take (4+1)).length=m+5):=by
  exact jaz
 exact jb1):P:=h
theorem jd9{P:Prop}(h:P:=by
 have zE:=zp zY zK (fun q hq=>(hO.lt q hq).1);rw[List.append_assoc,show [yf N 16]=[(vr N).getD 5 0] from rfl,HT.out (by omega)]at zW;obtain⟨A5,c5,rfl,_⟩:=zW.form
 have mr:Hid ((yO l z++(vr N).take (5+1)).length=m+6):=by
  exact jaz
 exact jb2):P:=h
theorem jea{P:Prop}(h:P:=by
 have zE:=zp zY zK (fun q hq=>(hO.lt q hq).1);rw[List.append_assoc,show [yf N 8]=[(vr N).getD 6 0] from rfl,HT.out (by omega)]at zW;obtain⟨A5,c5,rfl,_⟩:=zW.form
 have mr:Hid ((yO l z++(vr N).take (6+1)).length=m+7):=by
  exact jaz
 exact jb3):P:=h
theorem jeb{P:Prop}(h:P:=by
 have zE:=zp zY zK (fun q hq=>(hO.lt q hq).1);rw[List.append_assoc,show [yf N 0]=[(vr N).getD 7 0] from rfl,HT.out (by omega)]at zW;obtain⟨A5,c5,rfl,_⟩:=zW.form
 have mr:Hid ((yO l z++(vr N).take (7+1)).length=m+8):=by
  exact jaz
 exact jb4):P:=h
theorem jeG{P:Prop}(h:P:=by
 have hp:yO l z++(vr N).take 8=uR l:=by
  rw[yO,kS.out,← qD.out];rfl
 rw[hp]at hO;exact jby):P:=h
theorem jf2{P:Prop}(h:P:=by have sv:=(hO.below (Below.refl _ _).drew).kept xt (by cases hv:Value.ownBlock (.slice A tn c) with | none=>exact .inl rfl | some q=>exact .inr (fun e=>by injection e with e;have:=(HM.out.2 q hv).2;omega));exact sv):P:=h
theorem jf3{P:Prop}(h:P:=by have zJ:=hO.alloc (.cells #[.int .u8 0] 5);have zY:=hb.alloc hb.size (.cells #[.int .u8 0] 5);exact And.intro zJ zY):P:=h
theorem jgm{P:Prop}(h:P:=by have zW:=uj.alloc (.cells (zn (List.replicate 16 0)) 122);have IG:=IE.alloc (.cells (zn (List.replicate 16 0)) 122);have II:=Lp.alloc (.cells (zn (List.replicate 16 0)) 122);have b5:=b4.alloc b4.size (.cells (zn (List.replicate 16 0)) 122);exact And.intro zW (And.intro IG (And.intro II b5))):P:=h
theorem jgn{P:Prop}(h:P:=by have JJ:=IG.grown vt (by intro e;injection e with e;have:=HM.out.1;omega);have Rv:=II.grown vt (by intro e;injection e with e;have:=HM.out.1;omega);have b6:=b5.grown vt b5.size (by rintro q ⟨⟩;have:=HM.out.1;omega);exact And.intro JJ (And.intro Rv b6)):P:=h
theorem jg6{P:Prop}(h:P:=by have zJ:=hO.alloc (.cells #[.int .u8 ((N:Int)/72057594037927936%256)] 5);have zY:=hb.alloc hb.size (.cells #[.int .u8 ((N:Int)/72057594037927936%256)] 5);exact And.intro zJ zY):P:=h
theorem jhg{P:Prop}(h:P:=by have zJ:=hO.alloc (.cells #[.int .u8 ((N:Int)/281474976710656%256)] 5);have zY:=hb.alloc hb.size (.cells #[.int .u8 ((N:Int)/281474976710656%256)] 5);exact And.intro zJ zY):P:=h
theorem jhi{P:Prop}(h:P:=by have zJ:=hO.alloc (.cells #[.int .u8 ((N:Int)/1099511627776%256)] 5);have zY:=hb.alloc hb.size (.cells #[.int .u8 ((N:Int)/1099511627776%256)] 5);exact And.intro zJ zY):P:=h
theorem jhm{P:Prop}(h:P:=by have b9:=hb.drew.grown xt hb.size (by rintro q ⟨⟩;omega);exact b9):P:=h
theorem jho{P:Prop}(h:P:=by have zJ:=hO.alloc (.cells #[.int .u8 ((N:Int)/4294967296%256)] 5);have zY:=hb.alloc hb.size (.cells #[.int .u8 ((N:Int)/4294967296%256)] 5);exact And.intro zJ zY):P:=h
theorem jhr{P:Prop}(h:P:=by have zJ:=hO.alloc (.cells #[.int .u8 ((N:Int)/16777216%256)] 5);have zY:=hb.alloc hb.size (.cells #[.int .u8 ((N:Int)/16777216%256)] 5);exact And.intro zJ zY):P:=h
theorem jhA{P:Prop}(h:P:=by have zJ:=hO.alloc (.cells #[.int .u8 ((N:Int)/65536%256)] 5);have zY:=hb.alloc hb.size (.cells #[.int .u8 ((N:Int)/65536%256)] 5);exact And.intro zJ zY):P:=h
theorem jhC{P:Prop}(h:P:=by have zJ:=hO.alloc (.cells #[.int .u8 ((N:Int)/256%256)] 5);have zY:=hb.alloc hb.size (.cells #[.int .u8 ((N:Int)/256%256)] 5);exact And.intro zJ zY):P:=h
theorem kf {fn:Func}{p u:Tmp}{ty:TypeId}(h:fn.results=#[.tmp u,.cell p ty]) (tmps:Array Value) (P:Program) (w:World) :
  (results fn tmps).run P w =
   ((asAddr (tmps.getD p undef)).run P w).andThen fun a w₁=>((loadVar ty a).run P w₁).andThen fun x w₂=>.ok (.tuple #[tmps.getD u undef,x]) w₂:=by
 exact jcO
theorem bN {fn:Func}{p u:Tmp}{ty:TypeId}{a:Act}{w:World}{R:Ending→World→Prop}{g:Nat}{t:TypeId}{cs:Array Value}{d:TypeDesc}(h:fn.results=#[.tmp u,.cell p ty]) (hp:a.tmps.getD p undef=.pointer (some ⟨g,0,none⟩)) (hg:Blk w g t cs)
  (hd:(match d with | .struct _ | .array _ _=>true | _=>false)=true) (hu:Tryz.prog.underlying ty=some d) (hi:(Tryz.prog.info? ty).map (·.size)=some cs.size)
  (hdf:a.defers=[]) (hR:R (.returned (.tuple #[a.tmps.getD u undef,.agg cs])) w):bodyPost Tryz.prog fn R .ret a w:=by
 refine bodyPost_ret (v:=.tuple #[a.tmps.getD u undef,.agg cs]) ?_ hdf hR
 rw[kf h,hp];exact ja8
theorem gX {n i:Nat}(f:Nat→UInt8) (a:List UInt8) (h:n≤i):wB n f a i=(List.range n).map f:=by
 apply List.map_congr_left
 intro j hj
 rw[if_pos (by have:j<n:=(by simpa using hj);omega)]
theorem Np (key nonce text:List UInt8) {j k:Nat}(h1:16*j≤k) (h2:k<16*j+16):pY key nonce text k=at_ text k ^^^ at_ (pN key (uQ (firstS nonce) nonce (j+1))) (k-16*j):=by
 rw[pY,show k/16=j by omega,show k%16=k-16*j by omega]
theorem oq {cg:Nat}{L key:List UInt8}(hBS:nA (pN key) cg L) {NA:Option Addr}{nn nc:Nat}{nonce:List UInt8}(uE:nn=nonce.length) (rj:7≤nonce.length∧nonce.length≤13)
  {TA:Option Addr} {tn tc:Nat} {text:List UInt8} (htn:tn=text.length) (Mv:text.length≤1048576) {tag:List UInt8} (hg:tag.length=16)
  (w:World) (qT:Src w NA (nonce.map zu)) (Jd:Src w TA (text.map zu)) (hC:Blk w cg 158 (zn L)) :
  Calls Tryz.prog 91 #[.pointer (some ⟨cg,0,none⟩),.slice NA nn nc,.slice TA tn tc,.agg (zn tag)] w fun e w' =>
   ∃ v,e=.returned (.tuple #[v,.agg (zn (uD key nonce tag))])∧OwnB w' w.heap.size v (qC key nonce text)∧Below w.heap.size w w':=by
 have h0:=(Blk.new w 122 (zn tag)).alloc (.cells (zn (List.replicate 16 0)) 122);have h1:=Blk.new (w.alloc (.cells (zn tag) 122)) 122 (zn (List.replicate 16 0));have b0:=zX w (.cells (zn tag) 122);have b1:=jgj;rw[za]at h1;obtain⟨w1,tv⟩:∃ w1,(w.alloc (.cells (zn tag) 122)).alloc (.cells (zn (List.replicate 16 0)) 122)=w1:=⟨_,rfl⟩
 have xZ:w1.heap.size=w.heap.size+2:=by rw[← tv,za,za]
 rw[tv]at h0 h1 b1;have OX:=Hh (And.intro tv xZ);have HN:=Hh (And.intro uE rj);have HT:=Hh (And.intro htn Mv);have HG:=Hh hg;have HS:=Hh (And.intro qT (And.intro Jd hC));have CL:=Hh (ry w1 TA text tn tc htn (by omega) (Jd.below b1));have HCG:=Hh hC.lt;clear uE rj htn Mv hg qT Jd hC tv xZ b0;go_enter Tryz.func91,Tryz.ntmps91
 go_upto_region 1 with fail
 rw[show(w.alloc (.cells (zn tag) 122)).alloc (.cells #[.int .u8 0,.int .u8 0,.int .u8 0,.int .u8 0,.int .u8 0,.int .u8 0,.int .u8 0,.int .u8 0,.int .u8 0,.int .u8 0,.int .u8 0,.int .u8 0,.int .u8 0,.int .u8 0,.int .u8 0,.int .u8 0] 122)=w1 from OX.out.1];go_wp2_with fail
 refine CL.out.mono ?_
 rintro e w2 ⟨v,rfl,hf⟩
 have hO:OwnB w2 (w.heap.size+2) v text:=OX.out.2 ▸ hf.1;have b2:=b1.trans (hf.2.mono (by have:=OX.out.2;omega));have h02:=h0.below hf.2;have FH:=h1.below hf.2;obtain⟨A,c,rfl,hc,_⟩:=hO.form;rw[← HT.out.1]at hO⊢;clear h0 h1 b1 hf CL hc;have W1:IntKind.i64.wrap (14-(nn:Int))=((14-nn:Nat):Int):=by have:=HN.out;rw[show 14-(nn:Int)=((14-nn:Nat):Int) by omega];exact zP (by omega)
 obtain⟨f0,VM⟩:∃ x,14-nn=x:=⟨_,rfl⟩
 rw[VM]at W1;have W2:IntKind.u8.wrap (f0:Int)=(f0:Int):=by rw[IntKind.wrap_u8];omega
 have W3:(f0:Int)%256=(f0:Int):=by omega
 obtain⟨F,hF⟩:∃ f,firstS nonce=f:=⟨_,rfl⟩
 have HF:Hid (Value.int .u8 (f0:Int)=zu F∧firstS nonce=F):=by
  refine⟨?_,hF⟩
  rw[← hF,firstS,← HN.out.1,VM,RF (by omega)]
 rw[← wW (pY key nonce text) (show text.length=tn from HT.out.1.symm)]at hO;clear VM hF;go_upto_region 3 with fail
 rw[HF.out.1];clear W1 W2 W3;go_wp2_with fail
 go_loopw [12] (fun v12 wr=>∃ j i:Nat,v12=.int .i64 (i:Int)∧Hid (i=16*j∧i≤tn+15)∧OwnB wr (w.heap.size+2) (.slice A tn c) (wB tn (pY key nonce text) text i)∧Blk wr w.heap.size 122 (zn tag)∧Blk wr (w.heap.size+1) 122 (zn (List.replicate 16 0))∧Below w.heap.size w wr) (fun v12 _=>(tn+16-intOf v12).toNat)
 case atStart=>exact⟨0,0,rfl,⟨rfl,by omega⟩,hO,h02,FH,b2⟩
 case round =>
 clear hO h02 FH b2;obtain⟨j,i,rfl,HJ,hO,h0,h1,hb⟩:=hrel
 by_cases iL:(i:Int)<(tn:Int)
 ·have T1:(i:Int).tdiv 16=(j:Int):=by rw[← show i/16=j by have:=HJ.out;omega];exact(Int.ofNat_tdiv i 16).symm
  have T1':(i:Int)/16=(j:Int):=by have:=HJ.out;omega
  have W0:IntKind.i64.wrap (j:Int)=(j:Int):=zP (by have:=HJ.out;have:=HT.out;omega);have W4:IntKind.i64.wrap ((j:Int)+1)=((j+1:Nat):Int):=by rw[show(j:Int)+1=((j+1:Nat):Int) by omega];exact IntWalk.i64_in _ (by have:=HJ.out;have:=HT.out;omega)
  obtain⟨j1,fG⟩:∃ x,j+1=x:=⟨_,rfl⟩
  rw[fG]at W4;have CT:=Hh (ju F (c:=nc) HN.out.1 HN.out.2.2 j1 (by have:=HJ.out;have:=HT.out;omega) wr (HS.out.1.below hb));have HJ1:=Hh fG;clear fG;go_wp2_with fail
  refine CT.out.mono ?_
  rintro e w3 ⟨rfl,yR⟩
  have uw:=sA F HN.out.2.2 j1;have BL:=Hh (hBS (uQ F nonce j1) w3 uw (HS.out.2.2.below (hb.trans (yR.mono hb.size))));have tR:=hO.below yR;have ID:=h0.below yR;have IH:=h1.below yR;have b3:=hb.trans (yR.mono hb.size);clear hO h0 h1 hb yR CT uw T1 T1' W0 W4;go_wp2_with fail
  refine BL.out.mono ?_
  rintro e w4 ⟨rfl,xE⟩
  have uj:=tR.below xE;have IE:=ID.below xE;have Lp:=IH.below xE;have b4:=b3.trans (xE.mono b3.size);obtain⟨s,hs⟩:∃ s,pN key (uQ F nonce j1)=s:=⟨_,rfl⟩
  have sl:s.length=16:=by rw[← hs];exact t7 _ _
  have Lk:=Hh hs;rw[hs];obtain⟨M,hM⟩:∃ M,w4.heap.size=M:=⟨_,rfl⟩
  have hz:=Blk.new w4 122 (zn (List.replicate 16 0));rw[hM]at hz
  have HM:Hid (w.heap.size+1<M∧∀ g,Value.ownBlock (.slice A tn c)=some g→g<M):=by
   refine⟨by have:=Lp.lt;omega,fun g hg=>?_⟩
   have:=(uj.lt g hg).2
   omega
  have Rt:=Hh hM;obtain⟨zW,IG,II,b5⟩:=jgm;clear tR ID IH b3 xE BL uj IE Lp b4 hs hM;go_wp2_with (with_reducible refine zx ?_)
  unfold zZ
  rw[Rt.out]
  refine zm rfl _ _ _ rfl rfl M (zn s) rfl rfl _ _ hz (by rw[zg,sl];kernel_rfl) (by rw[zg,sl];rfl) (ym _) fun w6 h6s vt=>?_
  have wH:=zW.kept vt (by
   cases hv:Value.ownBlock (.slice A tn c) with
   | none=>exact .inl rfl
   | some q=>exact .inr (fun e=>by injection e with e;have:=HM.out.2 q hv;omega))
  obtain⟨JJ,Rv,b6⟩:=jgn;have oI:=Hh sl;clear hz zW IG II b5 vt sl;obtain⟨i16,kO⟩:∃ x,i+16=x:=⟨_,rfl⟩
  have W5:IntKind.i64.wrap ((i:Int)+16)=(i16:Int):=by rw[← kO,Int.natCast_add];exact IntWalk.i64_in _ (by have:=HT.out;omega)
  obtain⟨lim,Re⟩:∃ x,min tn i16=x:=⟨_,rfl⟩
  have mi:=Hh (And.intro kO Re);clear kO Re;go_wp2_with fail
  go_loopw [14] (fun v14 wx=>∃ k:Nat,v14=.int .i64 (k:Int)∧i≤k∧k≤lim∧OwnB wx (w.heap.size+2) (.slice A tn c) (wB tn (pY key nonce text) text k)∧Blk wx M 122 (zn s)∧Blk wx w.heap.size 122 (zn tag)∧Blk wx (w.heap.size+1) 122 (zn (List.replicate 16 0))∧Below w.heap.size w wx) (fun v14 _=>(lim-intOf v14).toNat)
  case atStart=>exact⟨i,rfl,Nat.le_refl _,by have:=mi.out;omega,wH,h6s,JJ,Rv,b6⟩
  case round =>
  clear wH h6s JJ Rv b6;obtain⟨k,rfl,Fe,hk,hO,hs,h0,h1,hb⟩:=hrel;go_upto_region 8 with fail
  go_cut [44] (fun s44 wy=>s44=.bool (decide (k<lim))∧OwnB wy (w.heap.size+2) (.slice A tn c) (wB tn (pY key nonce text) text k)∧Blk wy M 122 (zn s)∧Blk wy w.heap.size 122 (zn tag)∧Blk wy (w.heap.size+1) 122 (zn (List.replicate 16 0))∧Below w.heap.size w wy)
  case first =>
   by_cases hm:(i16:Int)<(tn:Int)
   ·go_wp2_with fail
    go_meet
    exact⟨(by rw[show lim=i16 by have:=mi.out;omega];try (congr 1;rw[decide_eq_decide];omega)),hO,hs,h0,h1,hb⟩
   go_wp2_with fail
   go_meet
   exact⟨(by rw[show lim=tn by have:=mi.out;omega];try (congr 1;rw[decide_eq_decide];omega)),hO,hs,h0,h1,hb⟩
  case rest =>
  clear hO hs h0 h1 hb;obtain⟨rfl,hO,hs,h0,h1,hb⟩:=hcut
  by_cases uh:k<lim
  ·rw[decide_eq_true uh];have ae:k<tn:=by have:=mi.out;omega
   have jF:16*j≤k∧k<16*j+16:=by have:=mi.out;have:=HJ.out;omega
   obtain⟨d,hd⟩:∃ d,k-16*j=d:=⟨_,rfl⟩
   obtain⟨u,hu⟩:∃ u,at_ text k=u:=⟨_,rfl⟩
   obtain⟨v,hv⟩:∃ v,at_ s d=v:=⟨_,rfl⟩
   have HV:Hid (pY key nonce text k=u ^^^ v):=by
    rw[Hid,Np key nonce text jF.1 jF.2,HF.out.2,HJ1.out,Lk.out,hd,hu,hv]
   have S1:=Hh (uy (n:=tn) (i:=k) (pY key nonce text) text ae);rw[HV.out]at S1;have tu:k<(wB tn (pY key nonce text) text k).length:=by rw[xJ];exact ae
   obtain⟨gq,cur,e,WS,iY,oT,rq⟩:=hO.store_ (k:=k) tu
   cases e
   have kS:=Hh rq;have hgM:gq<M:=HM.out.2 gq rfl
   have cl:wc.cell? ⟨gq,k,none⟩=some (zu u):=by
    obtain⟨b,off,e,hc⟩:=hO.src (by intro h;rw[List.map_eq_nil_iff]at h;rw[h]at tu;simp at tu)
    cases e
    have h:=hc k (zu (wB tn (pY key nonce text) text k)[k]) (by rw[List.getElem?_map,List.getElem?_eq_getElem tu];rfl);rw[← gd tu,pJ _ _ ae,hu,Nat.zero_add]at h
    exact h
   have c0:=ua (Below.refl _ wc).drew cl;have c1:=hs.drew.cell d (zI _ _ (by have:=oI.out;omega));rw[hv]at c1;have W6:IntKind.i64.wrap ((k:Int)-(i:Int))=(d:Int):=by rw[show(k:Int)-(i:Int)=(d:Int) by have:=HJ.out;omega];exact IntWalk.i64_in _ (by omega)
   obtain⟨k1,fQ⟩:∃ x,k+1=x:=⟨_,rfl⟩
   have W7:IntKind.i64.wrap ((k:Int)+1)=(k1:Int):=by rw[← fQ,Int.natCast_add];exact IntWalk.i64_in _ (by have:=HT.out;omega)
   rw[fQ]at S1;have Cy:=Hh fQ;clear fQ;have ld:(d:Int)<16:=by omega
   have lk:(k:Int)<(tn:Int):=by omega
   have X:=Hh (yx u v);have Mi:=iY.drew;have HKT:=Hh ae;clear hd hu hv tu rq cl hO jF HV ae iY;go_upto_region 10 with fail
   refine zr 11 (fun wx=>wx.cell? ⟨gq,k,none⟩=some (zu u)∧wx.cell? ⟨M,d,none⟩=some (zu v)) (by kernel_rfl) (⟨c0,c1⟩) (fun zy=>?_)
   refine Tk 0 rfl zy ?_
   refine Tk 1 rfl zy ?_
   refine Tk 2 rfl zy ?_
   refine Tk 3 rfl zy ?_
   refine Tk 4 rfl zy ?_
   refine Tk 5 rfl zy ?_
   refine Tk 6 rfl zy ?_
   refine Tk 7 rfl zy ?_
   refine Tk 8 rfl zy ?_
   refine Tk 9 rfl zy ?_
   refine Tk 10 rfl zy ?_
   refine To 11 rfl fun K hK=>?_
   rw[if_pos (by rfl)]
   refine zO _ _ _ rfl gq k (zu (u ^^^ v)) rfl (by show Value.int .u8 (bits .xor .u8 (u.toNat:Int) (v.toNat:Int))=_;rw[X.out]) _ _ Mi yH oT rfl fun w9 iX xt=>?_
   refine Kz hK ?_
   clear hK K
   refine Wd ?_
   clear zy;have sv:=kS.out w9 (u ^^^ v) iX;rw[S1.out]at sv;have Ef:=hs.drew.gr xt (by omega);have FG:=h0.drew.gr xt (by omega);have IJ:=h1.drew.gr xt (by omega);have b9:=jhm;clear xt c0 c1 hs h0 h1 hb S1 X Mi iX W6 ld lk kS;go_wp2_with fail
   go_roundw
   case rel=>exact⟨k1,rfl,by have:=Cy.out;omega,by have:=Cy.out;omega,sv,Ef,FG,IJ,b9⟩
   case measure=>have:=Cy.out;simp[intOf];omega
  rw[decide_eq_false uh]
  have hE:wB tn (pY key nonce text) text k=wB tn (pY key nonce text) text i16:=by
   by_cases hm:i16<tn
   ·rw[show k=i16 by have:=mi.out;omega]
   rw[gX _ _ (by have:=mi.out;omega),gX _ _ (by omega)]
  rw[hE]at hO;clear hE hs;go_wp2_with fail
  go_roundw
  case rel=>exact⟨j+1,i16,rfl,⟨by have:=mi.out;have:=HJ.out;omega,by have:=mi.out;omega⟩,hO,h0,h1,hb⟩
  case measure=>have:=mi.out;simp[intOf];omega
 have hE:wB tn (pY key nonce text) text i=qC key nonce text:=by rw[gX _ _ (by omega),HT.out.1];rfl
 rw[hE]at hO;have CT:=Hh (ju F (c:=nc) HN.out.1 HN.out.2.2 0 (by omega) wr (HS.out.1.below hb));clear hE;go_wp2_with fail
 refine CT.out.mono ?_
 rintro e w3 ⟨rfl,yR⟩
 have uw:=sA F HN.out.2.2 0;have BL:=Hh (hBS (uQ F nonce 0) w3 uw (HS.out.2.2.below (hb.trans (yR.mono hb.size))));have tR:=hO.below yR;have ID:=h0.below yR;have IH:=h1.below yR;have b3:=hb.trans (yR.mono hb.size);clear hO h0 h1 hb yR CT uw;go_wp2_with fail
 refine BL.out.mono ?_
 rintro e w4 ⟨rfl,xE⟩
 have uj:=tR.below xE;have IE:=ID.below xE;have Lp:=IH.below xE;have b4:=b3.trans (xE.mono b3.size);obtain⟨s,hs⟩:∃ s,pN key (uQ F nonce 0)=s:=⟨_,rfl⟩
 have sl:s.length=16:=by rw[← hs];exact t7 _ _
 have HMK:Hid (uD key nonce tag=(List.range 16).map fun i=>at_ tag i ^^^ at_ s i):=by rw[Hid,uD,HF.out.2,hs];rfl
 rw[hs];obtain⟨M,hM⟩:∃ M,w4.heap.size=M:=⟨_,rfl⟩
 have hz:=Blk.new w4 122 (zn (List.replicate 16 0));rw[hM]at hz
 have HM:Hid (w.heap.size+1<M∧∀ g,Value.ownBlock (.slice A tn c)=some g→g<M∧w.heap.size+2≤g):=by
  refine⟨by have:=Lp.lt;omega,fun g hg=>?_⟩
  have:=uj.lt g hg
  omega
 have Rt:=Hh hM;obtain⟨zW,IG,II,b5⟩:=jgm;clear tR ID IH b3 xE BL uj IE Lp b4 hs hM;go_wp2_with (with_reducible refine zx ?_)
 unfold zZ
 rw[Rt.out]
 refine zm rfl _ _ _ rfl rfl M (zn s) rfl rfl _ _ hz (by rw[zg,sl];kernel_rfl) (by rw[zg,sl];rfl) (ym _) fun w6 h6s vt=>?_
 have wH:=zW.kept vt (by
  cases hv:Value.ownBlock (.slice A tn c) with
  | none=>exact .inl rfl
  | some q=>exact .inr (fun e=>by injection e with e;have:=(HM.out.2 q hv).1;omega))
 obtain⟨JJ,Rv,b6⟩:=jgn;have oI:=Hh sl;rw[← wW (fun i=>at_ tag i ^^^ at_ s i) HG.out]at JJ;clear hz zW IG II b5 vt sl;go_wp2_with fail
 go_loopw [63] (fun v63 wx=>∃ k:Nat,v63=.int .i64 (k:Int)∧k≤16∧OwnB wx (w.heap.size+2) (.slice A tn c) (qC key nonce text)∧Blk wx M 122 (zn s)∧Blk wx w.heap.size 122 (zn (wB 16 (fun i=>at_ tag i ^^^ at_ s i) tag k))∧Blk wx (w.heap.size+1) 122 (zn (List.replicate 16 0))∧Below w.heap.size w wx) (fun v63 _=>(16-intOf v63).toNat)
 case atStart=>exact⟨0,rfl,by omega,wH,h6s,JJ,Rv,b6⟩
 case round =>
 clear wH h6s JJ Rv b6;obtain⟨k,rfl,hk,hO,hs,h0,h1,hb⟩:=hrel
 by_cases ae:(k:Int)<16
 ·obtain⟨u,hu⟩:∃ u,at_ tag k=u:=⟨_,rfl⟩
  obtain⟨v,hv⟩:∃ v,at_ s k=v:=⟨_,rfl⟩
  have c0:=h0.drew.cell k (zI _ _ (by rw[xJ];omega));have c1:=hs.drew.cell k (zI _ _ (by have:=oI.out;omega));rw[pJ _ _ (by omega),hu]at c0;rw[hv]at c1;have X:=Hh (yx u v);have S1:=Hh (uy (n:=16) (i:=k) (fun i=>at_ tag i ^^^ at_ s i) tag (by omega))
  simp only[hu,hv]at S1
  clear hu hv;go_upto_region 15 with fail
  refine zr 8 (fun wx=>wx.cell? ⟨w.heap.size,k,none⟩=some (zu u)∧wx.cell? ⟨M,k,none⟩=some (zu v)) (by kernel_rfl) (⟨c0,c1⟩) (fun zy=>?_)
  refine Tk 0 rfl zy ?_
  refine Tk 1 rfl zy ?_
  refine Tk 2 rfl zy ?_
  refine Tk 3 rfl zy ?_
  refine Tk 4 rfl zy ?_
  refine Tk 5 rfl zy ?_
  refine Tk 6 rfl zy ?_
  refine Tk 7 rfl zy ?_
  refine To 8 rfl fun K hK=>?_
  rw[if_pos (by rfl)]
  refine zO _ _ _ rfl w.heap.size k (zu (u ^^^ v)) rfl (by show Value.int .u8 (bits .xor .u8 (u.toNat:Int) (v.toNat:Int))=_;rw[X.out]) _ _ h0.drew yH (by rw[zg,xJ];omega) rfl fun w9 FG xt=>?_
  refine Kz hK ?_
  clear hK K
  refine Wd ?_
  clear zy;rw[xS,S1.out]at FG;have sv:=jf2;have Ef:=hs.drew.grown xt (by intro e;injection e with e;have:=HM.out.1;omega);have IJ:=h1.drew.gr xt (by omega);have b9:=jhm;clear xt c0 c1 hO hs h0 h1 hb S1 X;go_wp2_with fail
  go_roundw
  case rel=>exact⟨k+1,by go_num,by omega,sv,Ef,FG,IJ,b9⟩
  case measure=>simp[intOf];omega
 obtain rfl:k=16:=by omega
 rw[show((16:Nat):Int)=16 from rfl];rw[tN,← HMK.out]at h0;have ml:(uD key nonce tag).length=16:=yX _ _;obtain⟨z,hz⟩:∃ z,uD key nonce tag=z:=⟨_,rfl⟩
 have HZ:=Hh hz;rw[hz]at h0 ml;clear hz hs HMK ae;go_upto_region 17 with fail
 refine zr 4 (fun _=>True) (by kernel_rfl) (trivial) (fun zy=>?_)
 refine TkS 0 rfl zy ?_
 refine TkS 2 rfl zy ?_
 refine To 1 rfl fun K hK=>?_
 rw[if_pos (by rfl)]
 refine wp_load_mid _ _ rfl w.heap.size 0 rfl ((oG z 0 16).map zu) _ (qv h0.drew 0 16) Tryz.underlying122 rfl (by rw[List.length_map,gU (by omega)];kernel_rfl) ?_
 refine Ko hK ?_ fun zy=>?_
 ·trivial
 clear hK K
 refine To 3 rfl fun K hK=>?_
 rw[if_pos (by rfl)]
 refine zT _ _ _ rfl (w.heap.size+1) (zn z) rfl (by show Value.agg (zn (oG z 0 16))=_;rw[xT ml]) _ _ h1.drew (by rw[zg,ml];kernel_rfl) (by rw[zg,ml];rfl) (ym _) fun w9 IJ xt=>?_
 refine Ko hK ?_ fun zy=>?_
 ·trivial
 clear hK K
 refine Wd ?_
 clear zy;have sv:=jf2;have b9:=jhm;clear xt hO h0 h1 hb;go_wp2_with fail
 exact bN rfl rfl IJ rfl rfl (by rw[zg,ml];kernel_rfl) rfl ⟨_,by rw[HZ.out];rfl,sv.more (by omega),b9⟩
structure Lie (α:Type) where
 k:Nat
 pos:0<k
 E:Snap→α→List Value→Prop
 len:∀ {H x c},E H x c→c.length=k
 one:∀ {H x c},E H x c→∀ u∈c,u.oneCell'=true
 mono:∀ {H K x c},H.le K→E H x c→E K x c
section
variable {α:Type} {L:Lie α}
def RowC (L:Lie α) (H:Snap):List Value→List α→Prop
 | cs,[]=>cs=[]
 | cs,x::l=>∃ c rest,cs=c++rest∧L.E H x c∧RowC L H rest l
theorem RowC.nil (L:Lie α) (H:Snap):RowC L H [] []:=by rw[RowC]
theorem RowC.len {H:Snap}:∀ {l:List α}{cs:List Value},RowC L H cs l→cs.length=l.length*L.k
 | [],cs,h=>by rw[RowC]at h;subst h;simp
 | x::l,cs,h=>by
  obtain⟨c,rest,rfl,hx,hr⟩:=h;rw[List.length_append,L.len hx,hr.len,List.length_cons,Nat.succ_mul,Nat.add_comm]
theorem RowC.mono {H K:Snap}(hl:H.le K):∀ {l:List α}{cs:List Value},RowC L H cs l→RowC L K cs l
 | [],cs,h=>h
 | x::l,cs,h=>by
  obtain⟨c,rest,e,hx,hr⟩:=h
  exact⟨c,rest,e,L.mono hl hx,hr.mono hl⟩
theorem RowC.one {H:Snap}{x:α}{c:List Value}(h:L.E H x c):RowC L H c [x]:=⟨c,[],by simp,h,RowC.nil L H⟩
theorem RowC.app {H:Snap}:∀ {l m:List α}{cs ds:List Value},RowC L H cs l→RowC L H ds m→RowC L H (cs++ds) (l++m)
 | [],m,cs,ds,h,hd=>by rw[RowC]at h;subst h;exact hd
 | x::l,m,cs,ds,h,hd=>by
  obtain⟨c,rest,rfl,hx,hr⟩:=h
  exact⟨c,rest++ds,by simp,hx,hr.app hd⟩
theorem RowC.oneCell {H:Snap}:∀ {l:List α}{cs:List Value},RowC L H cs l→∀ u∈cs,u.oneCell'=true
 | [],cs,h=>by rw[RowC]at h;subst h;simp
 | x::l,cs,h=>by
  obtain⟨c,rest,rfl,hx,hr⟩:=h
  intro u hu
  rw[List.mem_append]at hu
  rcases hu with hu | hu
  ·exact L.one hx u hu
  exact hr.oneCell u hu
theorem RowC.get {H:Snap}:∀ {l:List α}{cs:List Value},RowC L H cs l→∀ (j:Nat) (hj:j<l.length),∃ c,L.E H l[j] c∧∀ i v,c[i]? = some v→cs[j*L.k+i]? = some v
 | [],_,_,j,hj=>by simp at hj
 | x::l,cs,h,0,_=>by
  obtain⟨c,rest,rfl,hx,hr⟩:=h
  refine⟨c,hx,fun i v hi=>?_⟩
  rw[Nat.zero_mul,Nat.zero_add,List.getElem?_append_left (List.getElem?_eq_some_iff.1 hi).1]
  exact hi
 | x::l,cs,h,j+1,hj=>by
  obtain⟨c,rest,rfl,hx,hr⟩:=h;obtain⟨c',hc',hi'⟩:=hr.get j (by simpa using hj)
  refine⟨c',by simpa using hc',fun i v hi=>?_⟩
  have:=hi' i v hi;rw[List.getElem?_append_right (by rw[L.len hx,Nat.succ_mul];omega),L.len hx,show(j+1)*L.k+i-L.k=j*L.k+i by rw[Nat.succ_mul];omega]
  exact this
theorem RowC.snoc {H:Snap}:∀ {l:List α}{x:α}{cs:List Value},RowC L H cs (l++[x])→∃ cs0 c,cs=cs0++c∧RowC L H cs0 l∧L.E H x c
 | [],x,cs,h=>by
  obtain⟨c,rest,rfl,hx,hr⟩:=h;rw[RowC]at hr;subst hr
  exact⟨[],c,by simp,RowC.nil L H,hx⟩
 | y::l,x,cs,h=>by
  obtain⟨c,rest,rfl,hy,hr⟩:=h;obtain⟨cs0,c',rfl,h0,hx⟩:=RowC.snoc hr
  exact⟨c++cs0,c',by simp,⟨c,cs0,rfl,hy,h0⟩,hx⟩
structure IsRow (L:Lie α) (H:Snap) (A:Option Addr) (c:Nat) (l:List α):Prop where
 le:l.length≤c
 max:c≤9223372036854775807
 row:0<l.length→∃ b off cs,A=some ⟨b,off,none⟩∧RowC L H cs l∧Qz H b off cs
theorem IsRow.nil (L:Lie α) (H:Snap):IsRow L H none 0 []:=⟨by simp,by omega,by simp⟩
theorem IsRow.mono {H K:Snap}{A:Option Addr}{c:Nat}{l:List α}(h:IsRow L H A c l) (hl:H.le K):IsRow L K A c l:=⟨h.le,h.max,fun h0=>by
 obtain⟨b,off,cs,e,h1,h2⟩:=h.row h0
 exact⟨b,off,cs,e,h1.mono hl,fun j v hj=>hl.cell (h2 j v hj)⟩⟩
theorem IsRow.at_ {H:Snap}{A:Option Addr}{c:Nat}{l:List α}(h:IsRow L H A c l) (h0:0<l.length):∃ b off,A=some ⟨b,off,none⟩∧∀ j (hj:j<l.length),∃ d,L.E H l[j] d∧∀ i v,d[i]? = some v→H.cell? ⟨b,off+(j*L.k+i),none⟩=some v:=by
 obtain⟨b,off,cs,e,h1,h2⟩:=h.row h0
 refine⟨b,off,e,fun j hj=>?_⟩
 obtain⟨d,hd,hi⟩:=h1.get j hj
 exact⟨d,hd,fun i v hv=>h2 _ _ (hi i v hv)⟩
def OwnX (L:Lie α) (t:TypeId) (w:World) (base:Nat) (v:Value) (H:Snap) (l:List α):Prop:=∃ cs,RowC L H cs l∧w.ownsRow base t L.k v l.length cs
variable {t:TypeId} {w w':World} {base:Nat} {v:Value} {H:Snap} {l:List α}
theorem OwnX.nil (L:Lie α) (t:TypeId) (w:World) (base:Nat) (H:Snap):OwnX L t w base (.slice none 0 0) H []:=⟨[],RowC.nil L H,World.ownsRow_nil _ _ _ _⟩
theorem OwnX.lt (h:OwnX L t w base v H l):∀ k,v.ownBlock=some k→base≤k∧k<w.heap.size:=by obtain⟨_,_,h⟩:=h;exact World.ownsRow.lt h
theorem OwnX.kept {row:Option Nat}(h:OwnX L t w base v H l) (hg:w.grownBy w' row) (xp:v.ownBlock=none∨v.ownBlock≠row):OwnX L t w' base v H l:=by
 exact jdm
theorem OwnX.below (h:OwnX L t w base v H l) (hb:Below w.heap.size w w'):OwnX L t w' base v H l:=by
 exact jcG
theorem OwnX.alloc (h:OwnX L t w base v H l) (o:Obj):OwnX L t (w.alloc o) base v H l:=h.below (zX w o)
theorem OwnX.mono {K:Snap}(h:OwnX L t w base v H l) (hl:H.le K):OwnX L t w base v K l:=by obtain⟨cs,hc,h⟩:=h;exact⟨cs,hc.mono hl,h⟩
theorem OwnX.form (h:OwnX L t w base v H l):∃ A c,v=.slice A l.length c∧l.length≤c∧c≤9223372036854775807:=by
 exact jbW
theorem OwnX.snap {A:Option Addr}{m c:Nat}(h:OwnX L t w base (.slice A m c) H l) (hw:Holds w H) (hn:∀ g,A.map (·.block)=some g→H g=none) :
  ∃ H',H.le H'∧Holds w H'∧(∀ b o,H' b=some o→H b=some o∨A.map (·.block)=some b)∧m=l.length∧IsRow L H' A c l:=by
 obtain⟨cs,cU,h⟩:=h
 rcases h.2 with ⟨hv,hz⟩ | ⟨g,cap,cur,hv,_,hg,hc,hm,hcz,ht⟩
 ·cases hv
  exact⟨H,Snap.le.refl _,hw,fun _ _ h=>.inl h,hz.symm,⟨by omega,by omega,by omega⟩⟩
 cases hv
 have iJ:H g=none:=hn g rfl
 refine⟨H.with g (.cells cur t),Snap.le_with iJ,hw.with hg,fun b o hb=>?_,rfl,hc,by simpa [maxLen] using hm,fun _=>⟨g,0,cs,rfl,cU.mono (Snap.le_with iJ),fun j v hj=>?_⟩⟩
 ·exact jcm
 exact jbR
theorem OwnX.at_ {A:Option Addr}{m c:Nat}(h:OwnX L t w base (.slice A m c) H l) (j:Nat) (hj:j<l.length):∃ g,A=some ⟨g,0,none⟩∧∃ d,L.E H l[j] d∧∀ i v,d[i]? = some v→w.cell? ⟨g,j*L.k+i,none⟩=some v:=by
 obtain⟨cs,cU,h⟩:=h
 rcases h.2 with ⟨hv,hz⟩ | ⟨g,cap,cur,hv,_,hg,hc,hm,hcz,ht⟩
 ·omega
 cases hv
 obtain⟨d,hd,hi⟩:=cU.get j hj
 refine⟨g,rfl,d,hd,fun i v hv=>?_⟩
 have hx:=hi i v hv;rw[← ht,List.getElem?_take]at hx
 split at hx
 ·exact(cell_of_row w g _ cur t (0,0) hg).trans (by simpa using hx)
 cases hx
theorem OwnX.last {A:Option Addr}{m c:Nat}{x:α}(h:OwnX L t w base (.slice A m c) H (l++[x])):∃ g cur d,A=some ⟨g,0,none⟩∧base≤g∧Blk w g t cur∧l.length*L.k+L.k≤cur.size∧L.E H x d∧(∀ i v,d[i]? = some v→w.cell? ⟨g,l.length*L.k+i,none⟩=some v)∧
  ∀ (w':World) (i:Nat) (u:Value) (y:α),i<L.k→Blk w' g t (cur.setIfInBounds (l.length*L.k+i) u)→L.E H y (d.set i u)→OwnX L t w' base (.slice A m c) H (l++[y]):=by
 obtain⟨cs,cU,h⟩:=h;obtain⟨cs0,d,rfl,h0,hx⟩:=cU.snoc
 rcases h.2 with ⟨hv,hz⟩ | ⟨g,cap,cur,hv,hb,hg,hc,hm,hcz,ht⟩
 ·simp at hz
 cases hv
 have hl:=h0.len;have hd:=L.len hx
 refine⟨g,cur,d,rfl,hb,hg, ?_,hx,fun i v hv=>?_,fun w' i u y hi hB hy=>⟨cs0++d.set i u,h0.app (RowC.one hy), ?_,.inr ⟨g,c,_,by rw[List.length_append,List.length_append];rfl,hb,hB,by rw[List.length_append]at hc⊢;exact hc,hm,by rw[Array.size_setIfInBounds,hcz], ?_⟩⟩⟩
 ·rw[hcz];have:(l++[x]).length*L.k≤c*L.k:=Nat.mul_le_mul_right _ hc;rw[List.length_append,List.length_singleton,Nat.succ_mul]at this
  omega
 ·have hid:=(List.getElem?_eq_some_iff.1 hv).1;have oM:(cs0++d)[l.length*L.k+i]? = some v:=by rw[List.getElem?_append_right (by omega),hl,Nat.add_sub_cancel_left];exact hv
  rw[← ht,List.getElem?_take]at oM
  split at oM
  ·exact(cell_of_row w g _ cur t (0,0) hg).trans (by simpa using oM)
  cases oM
 ·have:=h.1
  simp only[List.length_append,List.length_set,List.length_singleton]at this⊢
  exact this
 rw[Array.toList_setIfInBounds];have e1:(l++[y]).length*L.k=(l++[x]).length*L.k:=by simp
 rw[e1,List.take_set,ht,← hl,List.set_append_right _ _ (by omega)];congr 2
 omega
theorem OwnX.append {ops:Array Oper}{rest:List Oper}{o:Oper}{a:Act}{Q:Exit→Act→World→Prop}(hgd:o.guard=none) (s x:Operand) (T:TypeId)
  (ho:o.op=.call { callee:=.builtin .append,args:=#[s,x],argTypes:=#[T,T] }) (hT:Tryz.prog.underlying T=some (.slice t)) {z:Value} {bytes:Nat} (Mx:z.cells.size=L.k) (hby:bytes≤128)
  (hinfo:(Tryz.prog.info? t).map (fun i=>(i.zero,i.size,i.bytes))=some (some z,L.k,bytes))
  (hs:a.eval s=v) (tW:OwnX L t w base v H l) (A:Option Addr) (m c:Nat) (cs:List Value) (news:List α) (hx:a.eval x=.slice A m c) (hm:m=news.length)
  (hn:RowC L H cs news) (hr:Src w A cs) (uu:l.length+news.length≤1099511627776) (qd:base≤w.heap.size)
  (h:∀ v' w',OwnX L t w' base v' H (l++news)→w.grownBy w' v.ownBlock→At0 w v.ownBlock v'.ownBlock→wpList Tryz.prog ops Q rest (a.put o.dst v') w') :
  wpList Tryz.prog ops Q (o::rest) a w:=by
 subst hm;obtain⟨xs,Sc,tW⟩:=tW;obtain⟨i0,og,n9,rx,oN⟩:=info_parts hinfo
 refine wpList_plain hgd fun K hK=>sM s x _ ho base t i0 _ L.k bytes hT og n9 rx oN Mx L.pos v l.length xs hs tW A news.length c cs hx hn.len hr hn.oneCell
  (by simp only[maxLen];omega) (by have:=Nat.mul_le_mul uu hby;omega) qd fun v' w' h2 h3 h4=>hK _ _ (h v' w' ?_ h3 ?_)
 ·exact⟨xs++cs,Sc.app hn,by simpa using h2⟩
 exact jbO
end
def cJ:Lie Int where
 k:=1
 pos:=by omega
 E:=fun _ x c=>c=[.int .i64 x]
 len:=by rintro _ _ _ rfl;rfl
 one:=by rintro _ _ _ rfl;simp[Value.oneCell']
 mono:=fun _ h=>h
def qB:Lie (List UInt8) where
 k:=1
 pos:=by omega
 E:=fun H x c=>∃ A cc,c=[.slice A x.length cc]∧IsBytes H A cc x
 len:=by rintro _ _ _ ⟨_,_,rfl,_⟩;rfl
 one:=by rintro _ _ _ ⟨_,_,rfl,_⟩;simp[Value.oneCell']
 mono:=by rintro H K x c hl ⟨A,cc,e,h⟩;exact⟨A,cc,e,h.mono hl⟩
def yf (n s:Nat):UInt8:=UInt8.ofNat (n/2 ^ s)
def vr (n:Nat):List UInt8:=[yf n 56,yf n 48,yf n 40,yf n 32,yf n 24,yf n 16,yf n 8,yf n 0]
def oF (n:Nat):Nat:=(119-n%64)%64
def Ro (n:Nat):Nat:=n*8%18446744073709551616
def uR (l:List UInt8):List UInt8:=l++[128]++List.replicate (oF l.length) 0++vr (Ro l.length)
theorem xR (n:Nat):(vr n).length=8:=rfl
theorem Zp (l:List UInt8):(uR l).length=l.length+9+oF l.length∧(uR l).length%64=0:=by
 have h:(uR l).length=l.length+9+oF l.length:=by
  simp only[uR,List.length_append,List.length_replicate,xR,List.length_singleton]
  omega
 refine⟨h, ?_⟩
 rw[h,oF]
 omega
theorem bh (n:Nat):oF n<64:=Nat.mod_lt _ (by decide)
theorem Vn {n z:Nat}(hz:z≤oF n) (h:¬ (n+1+z+8)%64=0):z<oF n:=by
 unfold oF at *
 omega
theorem dX {n z:Nat}(hz:z≤oF n) (h:(n+1+z+8)%64=0):z=oF n:=by
 unfold oF at *
 omega
def sK:Value→Nat
 | .slice _ m _=>m
 | _=>0
theorem y9 (N s:Nat) (d:Int) (hd:d=((2 ^ s:Nat):Int)):zu (yf N s)=.int .u8 ((N:Int)/d%256):=by
 subst hd;rw[zu,yf,UInt8.toNat_ofNat'];rfl
def yO (l:List UInt8) (z:Nat):List UInt8:=l++[128]++List.replicate z 0
theorem je (l:List UInt8) (z:Nat):yO l z++[0]=yO l (z+1):=by
 rw[yO,yO,List.replicate_succ',List.append_assoc]
theorem zA (l:List UInt8) (z:Nat):(yO l z).length=l.length+1+z:=by simp[yO];omega
theorem dt (N k:Nat) (h:k<8):(vr N).take k++[(vr N).getD k 0]=(vr N).take (k+1):=by
 obtain rfl | rfl | rfl | rfl | rfl | rfl | rfl | rfl:k=0∨k=1∨k=2∨k=3∨k=4∨k=5∨k=6∨k=7:=by omega
 all_goals rfl
theorem XT {A:Option Addr}{c:Nat}{l:List UInt8}{n:Nat}(hn:n=l.length) (wP:l.length≤1099511627) (w:World) (hS:Src w A (l.map zu)) :
  Calls Tryz.prog 210 #[.slice A n c,.int .i64 64,.int .i64 8] w fun e w'=>∃ r,e=.returned r∧Fresh w (uR l) r w':=by
 obtain⟨i0,og,n9,rx,oN⟩:=info_parts rX;have HN:=Hh (And.intro hn wP);obtain⟨n2,cm⟩:∃ n2,n+128=n2:=⟨_,rfl⟩
 have tv:IntKind.i64.wrap ((n:Int)+128)=(n2:Int):=by rw[← cm,Int.natCast_add];exact IntWalk.i64_in _ (by omega)
 have oP:=Hh cm;obtain⟨N,hN⟩:∃ N,Ro l.length=N:=⟨_,rfl⟩
 have qE:IntKind.u64.wrap ((n:Int))=(n:Int):=IntWalk.u64_in _ (by omega);have J3:IntKind.u64.wrap ((n:Int)*8)=(N:Int):=by rw[← hN,Ro,IntKind.wrap_u64,hn];omega
 have qD:=Hh hN;clear cm hn wP hN;go_enter Tryz.func210,Tryz.ntmps210
 go_wp2_with (at_make;refine zh ?_)
 refine wpList_make_own w rfl _ _ 22 rfl w.heap.size 5 i0 _ 1 Tryz.underlying22 og n9 rx .i64 .i64 (n2:Int) n2 rfl rfl rfl (by rw[oN];have:=HN.out;have:=oP.out;omega) (by have:=HN.out;have:=oP.out;simp only[maxLen];omega) (Nat.le_refl _) fun w1 zJ hg1=>?_
 have hO:OwnB w1 w.heap.size (.slice (some ⟨w.heap.size,0,none⟩) 0 n2) []:=zJ;have zY:=yW hg1;have nY:=hS.below zY;clear zJ hg1 og n9 rx oN hS tv;go_wp2_with (at_builtin;refine zh ?_)
 refine zv rfl (.tmp 15) (.tmp 16) rfl w.heap.size _ [] rfl hO A n c l rfl HN.out.1 nY (by have:=HN.out.2;simp;omega) zY.size fun v' w2 ui hg2 hat2=>?_
 rw[List.nil_append]at ui;have zD:=zp zY hg2 (fun q hq=>(hO.lt q hq).1);have tR:=ui.alloc (.cells #[.int .u8 128] 5);have yR:=zD.alloc zD.size (.cells #[.int .u8 128] 5);clear hO zY nY hg2 hat2;go_wp2_with (at_builtin;refine zh ?_)
 refine zv rfl (.tmp 17) (.tmp 18) rfl w.heap.size _ l rfl tR _ 1 _ [128] rfl rfl (Src.new _ _ _ _ rfl _ rfl) (by have:=HN.out.2;simp;omega) yR.size fun v3 w3 uj sp hat3=>?_
 have xE:=zp yR sp (fun q hq=>(ui.lt q hq).1);replace uj:OwnB w3 w.heap.size v3 (yO l 0):=by rw[yO];simpa using uj
 obtain⟨A3,c3,rfl,_⟩:=uj.form;rw[zA]at uj⊢;clear ui tR zD yR sp hat3;go_wp2_with fail
 go_loopw [7] (fun v7 wr=>∃ (z m:Nat) (VA:Option Addr) (vc:Nat),v7=.slice VA m vc∧Hid (m=l.length+1+z)∧Hid (z≤oF l.length)∧OwnB wr w.heap.size (.slice VA m vc) (yO l z)∧Below w.heap.size w wr) (fun v7 _=>l.length+65-sK v7)
 case atStart=>exact⟨0,_,A3,c3,rfl,rfl,Nat.zero_le _,uj,xE⟩
 case round =>
 clear uj xE;obtain⟨z,m,VA,vc,rfl,HM,HZ,hO,hb⟩:=hrel;have HB:=Hh (bh l.length);obtain⟨m8,EP⟩:∃ m8,m+8=m8:=⟨_,rfl⟩
 have av:IntKind.i64.wrap ((m:Int)+8)=(m8:Int):=by rw[← EP,Int.natCast_add];exact IntWalk.i64_in _ (by have:=HM.out;have:=HZ.out;have:=HB.out;have:=HN.out;omega)
 have HM8:=Hh EP;clear EP;obtain⟨r,hr⟩:∃ r,m8%64=r:=⟨_,rfl⟩
 have Yb:(m8:Int).tmod 64=(r:Int):=by rw[← hr];exact(Int.ofNat_tmod m8 64).symm
 have Fk:(m8:Int)%64=(r:Int):=by rw[← hr];omega
 have HR:=Hh hr;clear hr
 by_cases h0:r=0
 ·subst h0;have kS:Hid (z=oF l.length):=dX HZ.out (by have:=HR.out;have:=HM8.out;have:=HM.out;omega);go_wp2_with fail
  go_loopw [7,9] (fun v7 v9 wx=>∃ (k mm:Nat) (VB:Option Addr) (vb:Nat),v7=.slice VB mm vb∧v9=.int .i64 (56-8*(k:Int))∧k≤8∧Hid (mm=m+k)∧OwnB wx w.heap.size (.slice VB mm vb) (yO l z++(vr N).take k)∧Below w.heap.size w wx) (fun v7 _ _=>m+8-sK v7)
  case atStart=>exact⟨0,m,VA,vc,rfl,rfl,by omega,rfl,by simpa using hO,hb⟩
  case round =>
  clear hO hb;obtain⟨k,mm,VB,vb,rfl,rfl,hk,lX,hO,hb⟩:=hrel
  have qk:Hid ((yO l z++(vr N).take k).length≤1099511627700):=by
   exact jcx
  have HT:=Hh (fun h=>dt N k h)
  rcases(show k=0∨k=1∨k=2∨k=3∨k=4∨k=5∨k=6∨k=7∨k=8 by omega) with rfl | rfl | rfl | rfl | rfl | rfl | rfl | rfl | rfl
  ·go_wp2_with (at_builtin;refine zh ?_)
   unfold zZ
   obtain⟨zJ,zY⟩:=jg6
   refine zv rfl (.tmp 40) (.tmp 46) rfl w.heap.size _ _ rfl zJ _ 1 _ [yf N 56] rfl rfl (Src.new _ _ _ _ rfl _ (by simp only[List.map_cons,List.map_nil];rw[y9 N 56 72057594037927936 rfl])) (by have:=qk.out;simp only[List.length_singleton];omega) zY.size fun v' w5 zW zK hat5=>?_
   exact jd4
  ·go_wp2_with (at_builtin;refine zh ?_)
   unfold zZ
   obtain⟨zJ,zY⟩:=jhg
   refine zv rfl (.tmp 40) (.tmp 46) rfl w.heap.size _ _ rfl zJ _ 1 _ [yf N 48] rfl rfl (Src.new _ _ _ _ rfl _ (by simp only[List.map_cons,List.map_nil];rw[y9 N 48 281474976710656 rfl])) (by have:=qk.out;simp only[List.length_singleton];omega) zY.size fun v' w5 zW zK hat5=>?_
   exact jd5
  ·go_wp2_with (at_builtin;refine zh ?_)
   unfold zZ
   obtain⟨zJ,zY⟩:=jhi
   refine zv rfl (.tmp 40) (.tmp 46) rfl w.heap.size _ _ rfl zJ _ 1 _ [yf N 40] rfl rfl (Src.new _ _ _ _ rfl _ (by simp only[List.map_cons,List.map_nil];rw[y9 N 40 1099511627776 rfl])) (by have:=qk.out;simp only[List.length_singleton];omega) zY.size fun v' w5 zW zK hat5=>?_
   exact jd6
  ·go_wp2_with (at_builtin;refine zh ?_)
   unfold zZ
   obtain⟨zJ,zY⟩:=jho
   refine zv rfl (.tmp 40) (.tmp 46) rfl w.heap.size _ _ rfl zJ _ 1 _ [yf N 32] rfl rfl (Src.new _ _ _ _ rfl _ (by simp only[List.map_cons,List.map_nil];rw[y9 N 32 4294967296 rfl])) (by have:=qk.out;simp only[List.length_singleton];omega) zY.size fun v' w5 zW zK hat5=>?_
   exact jd7
  ·go_wp2_with (at_builtin;refine zh ?_)
   unfold zZ
   obtain⟨zJ,zY⟩:=jhr
   refine zv rfl (.tmp 40) (.tmp 46) rfl w.heap.size _ _ rfl zJ _ 1 _ [yf N 24] rfl rfl (Src.new _ _ _ _ rfl _ (by simp only[List.map_cons,List.map_nil];rw[y9 N 24 16777216 rfl])) (by have:=qk.out;simp only[List.length_singleton];omega) zY.size fun v' w5 zW zK hat5=>?_
   exact jd8
  ·go_wp2_with (at_builtin;refine zh ?_)
   unfold zZ
   obtain⟨zJ,zY⟩:=jhA
   refine zv rfl (.tmp 40) (.tmp 46) rfl w.heap.size _ _ rfl zJ _ 1 _ [yf N 16] rfl rfl (Src.new _ _ _ _ rfl _ (by simp only[List.map_cons,List.map_nil];rw[y9 N 16 65536 rfl])) (by have:=qk.out;simp only[List.length_singleton];omega) zY.size fun v' w5 zW zK hat5=>?_
   exact jd9
  ·go_wp2_with (at_builtin;refine zh ?_)
   unfold zZ
   obtain⟨zJ,zY⟩:=jhC
   refine zv rfl (.tmp 40) (.tmp 46) rfl w.heap.size _ _ rfl zJ _ 1 _ [yf N 8] rfl rfl (Src.new _ _ _ _ rfl _ (by simp only[List.map_cons,List.map_nil];rw[y9 N 8 256 rfl])) (by have:=qk.out;simp only[List.length_singleton];omega) zY.size fun v' w5 zW zK hat5=>?_
   exact jea
  ·go_wp2_with (at_builtin;refine zh ?_)
   unfold zZ
   have zJ:=hO.alloc (.cells #[.int .u8 ((N:Int)%256)] 5);have zY:=hb.alloc hb.size (.cells #[.int .u8 ((N:Int)%256)] 5)
   refine zv rfl (.tmp 40) (.tmp 46) rfl w.heap.size _ _ rfl zJ _ 1 _ [yf N 0] rfl rfl (Src.new _ _ _ _ rfl _ (by simp only[List.map_cons,List.map_nil];rw[y9 N 0 1 rfl];simp)) (by have:=qk.out;simp only[List.length_singleton];omega) zY.size fun v' w5 zW zK hat5=>?_
   exact jeb
  exact jeG
 have hz:Hid (z+1≤oF l.length):=Vn HZ.out (by have:=HR.out;have:=HM8.out;have:=HM.out;omega);obtain⟨zJ,zY⟩:=jf3;go_wp2_with (at_builtin;refine zh ?_)
 refine zv rfl (.tmp 27) (.tmp 28) rfl w.heap.size _ _ rfl zJ _ 1 _ [0] rfl rfl (Src.new _ _ _ _ rfl _ rfl) (by rw[zA];have:=HN.out.2;have:=HB.out;have:=hz.out;simp only[List.length_singleton];omega) zY.size fun v' w5 zW zK hat5=>?_
 exact jbz
theorem Na {A:Option Addr}{c:Nat}{l:List UInt8}{n:Nat}(hn:n=l.length) (wP:l.length≤1099511627) (w:World) (hS:Src w A (l.map zu)) :
  Calls Tryz.prog 214 #[.slice A n c,.int .i64 64] w fun e w'=>∃ r,e=.returned r∧Fresh w (uR l) r w':=by
 have HN:=Hh (And.intro hn wP);obtain⟨N,hN⟩:∃ N,Ro l.length=N:=⟨_,rfl⟩
 have qE:IntKind.u64.wrap ((n:Int))=(n:Int):=IntWalk.u64_in _ (by omega);have J3:IntKind.u64.wrap ((n:Int)*8)=(N:Int):=by rw[← hN,Ro,IntKind.wrap_u64,hn];omega
 have qD:=Hh hN;clear hn wP hN;go_enter Tryz.func214,Tryz.ntmps214
 go_wp2_with (at_builtin;refine zh ?_)
 refine zv rfl (.const (.slice none 0 0)) (.tmp 8) rfl w.heap.size (.slice none 0 0) [] rfl (OwnB.nil _ _) A n c l rfl HN.out.1 hS (by have:=HN.out.2;simp;omega) (Nat.le_refl _) fun v' w2 ui hg2 hat2=>?_
 rw[List.nil_append]at ui;have zD:=yW (by simpa [Value.ownBlock] using hg2);have tR:=ui.alloc (.cells #[.int .u8 128] 5);have yR:=zD.alloc zD.size (.cells #[.int .u8 128] 5);clear hS hg2 hat2;go_wp2_with (at_builtin;refine zh ?_)
 refine zv rfl (.tmp 9) (.tmp 10) rfl w.heap.size _ l rfl tR _ 1 _ [128] rfl rfl (Src.new _ _ _ _ rfl _ rfl) (by have:=HN.out.2;simp;omega) yR.size fun v3 w3 uj sp hat3=>?_
 have xE:=zp yR sp (fun q hq=>(ui.lt q hq).1);replace uj:OwnB w3 w.heap.size v3 (yO l 0):=by rw[yO];simpa using uj
 obtain⟨A3,c3,rfl,_⟩:=uj.form;rw[zA]at uj⊢;clear ui tR zD yR sp hat3;go_wp2_with fail
 go_loopw [5] (fun v7 wr=>∃ (z m:Nat) (VA:Option Addr) (vc:Nat),v7=.slice VA m vc∧Hid (m=l.length+1+z)∧Hid (z≤oF l.length)∧OwnB wr w.heap.size (.slice VA m vc) (yO l z)∧Below w.heap.size w wr) (fun v7 _=>l.length+65-sK v7)
 case atStart=>exact⟨0,_,A3,c3,rfl,rfl,Nat.zero_le _,uj,xE⟩
 case round =>
 clear uj xE;obtain⟨z,m,VA,vc,rfl,HM,HZ,hO,hb⟩:=hrel;have HB:=Hh (bh l.length);obtain⟨r,hr⟩:∃ r,m%64=r:=⟨_,rfl⟩
 have Yb:(m:Int).tmod 64=(r:Int):=by rw[← hr];exact(Int.ofNat_tmod m 64).symm
 have Fk:(m:Int)%64=(r:Int):=by rw[← hr];omega
 have HR:=Hh hr;clear hr
 by_cases h0:r=56
 ·subst h0;have kS:Hid (z=oF l.length):=dX HZ.out (by have:=HR.out;have:=HM.out;omega);rw[show((56:Nat):Int)=56 from rfl]at Yb Fk;go_wp2_with fail
  go_loopw [5] (fun v7 wx=>v7=.slice VA m vc∧OwnB wx w.heap.size (.slice VA m vc) (yO l z)∧Below w.heap.size w wx) (fun v7 _=>0)
  case atStart=>exact⟨rfl,hO,hb⟩
  case round =>
  clear hO hb;obtain⟨rfl,hO,hb⟩:=hrel;go_wp2_with fail
  go_loopw [5,7] (fun v7 v9 wx=>∃ (k mm:Nat) (VB:Option Addr) (vb:Nat),v7=.slice VB mm vb∧v9=.int .i64 (7-(k:Int))∧k≤8∧Hid (mm=m+k)∧OwnB wx w.heap.size (.slice VB mm vb) (yO l z++(vr N).take k)∧Below w.heap.size w wx) (fun v7 _ _=>m+8-sK v7)
  case atStart=>exact⟨0,m,VA,vc,rfl,rfl,by omega,rfl,by simpa using hO,hb⟩
  case round =>
  clear hO hb;obtain⟨k,mm,VB,vb,rfl,rfl,hk,lX,hO,hb⟩:=hrel
  have qk:Hid ((yO l z++(vr N).take k).length≤1099511627700):=by
   exact jcx
  have HT:=Hh (fun h=>dt N k h)
  rcases(show k=0∨k=1∨k=2∨k=3∨k=4∨k=5∨k=6∨k=7∨k=8 by omega) with rfl | rfl | rfl | rfl | rfl | rfl | rfl | rfl | rfl
  ·go_wp2_with (at_builtin;refine zh ?_)
   unfold zZ
   obtain⟨zJ,zY⟩:=jg6
   refine zv rfl (.tmp 42) (.tmp 49) rfl w.heap.size _ _ rfl zJ _ 1 _ [yf N 56] rfl rfl (Src.new _ _ _ _ rfl _ (by simp only[List.map_cons,List.map_nil];rw[y9 N 56 72057594037927936 rfl])) (by have:=qk.out;simp only[List.length_singleton];omega) zY.size fun v' w5 zW zK hat5=>?_
   exact jd4
  ·go_wp2_with (at_builtin;refine zh ?_)
   unfold zZ
   obtain⟨zJ,zY⟩:=jhg
   refine zv rfl (.tmp 42) (.tmp 49) rfl w.heap.size _ _ rfl zJ _ 1 _ [yf N 48] rfl rfl (Src.new _ _ _ _ rfl _ (by simp only[List.map_cons,List.map_nil];rw[y9 N 48 281474976710656 rfl])) (by have:=qk.out;simp only[List.length_singleton];omega) zY.size fun v' w5 zW zK hat5=>?_
   exact jd5
  ·go_wp2_with (at_builtin;refine zh ?_)
   unfold zZ
   obtain⟨zJ,zY⟩:=jhi
   refine zv rfl (.tmp 42) (.tmp 49) rfl w.heap.size _ _ rfl zJ _ 1 _ [yf N 40] rfl rfl (Src.new _ _ _ _ rfl _ (by simp only[List.map_cons,List.map_nil];rw[y9 N 40 1099511627776 rfl])) (by have:=qk.out;simp only[List.length_singleton];omega) zY.size fun v' w5 zW zK hat5=>?_
   exact jd6
  ·go_wp2_with (at_builtin;refine zh ?_)
   unfold zZ
   obtain⟨zJ,zY⟩:=jho
   refine zv rfl (.tmp 42) (.tmp 49) rfl w.heap.size _ _ rfl zJ _ 1 _ [yf N 32] rfl rfl (Src.new _ _ _ _ rfl _ (by simp only[List.map_cons,List.map_nil];rw[y9 N 32 4294967296 rfl])) (by have:=qk.out;simp only[List.length_singleton];omega) zY.size fun v' w5 zW zK hat5=>?_
   exact jd7
  ·go_wp2_with (at_builtin;refine zh ?_)
   unfold zZ
   obtain⟨zJ,zY⟩:=jhr
   refine zv rfl (.tmp 42) (.tmp 49) rfl w.heap.size _ _ rfl zJ _ 1 _ [yf N 24] rfl rfl (Src.new _ _ _ _ rfl _ (by simp only[List.map_cons,List.map_nil];rw[y9 N 24 16777216 rfl])) (by have:=qk.out;simp only[List.length_singleton];omega) zY.size fun v' w5 zW zK hat5=>?_
   exact jd8
  ·go_wp2_with (at_builtin;refine zh ?_)
   unfold zZ
   obtain⟨zJ,zY⟩:=jhA
   refine zv rfl (.tmp 42) (.tmp 49) rfl w.heap.size _ _ rfl zJ _ 1 _ [yf N 16] rfl rfl (Src.new _ _ _ _ rfl _ (by simp only[List.map_cons,List.map_nil];rw[y9 N 16 65536 rfl])) (by have:=qk.out;simp only[List.length_singleton];omega) zY.size fun v' w5 zW zK hat5=>?_
   exact jd9
  ·go_wp2_with (at_builtin;refine zh ?_)
   unfold zZ
   obtain⟨zJ,zY⟩:=jhC
   refine zv rfl (.tmp 42) (.tmp 49) rfl w.heap.size _ _ rfl zJ _ 1 _ [yf N 8] rfl rfl (Src.new _ _ _ _ rfl _ (by simp only[List.map_cons,List.map_nil];rw[y9 N 8 256 rfl])) (by have:=qk.out;simp only[List.length_singleton];omega) zY.size fun v' w5 zW zK hat5=>?_
   exact jea
  ·go_wp2_with (at_builtin;refine zh ?_)
   unfold zZ
   have zJ:=hO.alloc (.cells #[.int .u8 ((N:Int)%256)] 5);have zY:=hb.alloc hb.size (.cells #[.int .u8 ((N:Int)%256)] 5)
   refine zv rfl (.tmp 42) (.tmp 49) rfl w.heap.size _ _ rfl zJ _ 1 _ [yf N 0] rfl rfl (Src.new _ _ _ _ rfl _ (by simp only[List.map_cons,List.map_nil];rw[y9 N 0 1 rfl];simp)) (by have:=qk.out;simp only[List.length_singleton];omega) zY.size fun v' w5 zW zK hat5=>?_
   exact jeb
  exact jeG
 have hz:Hid (z+1≤oF l.length):=Vn HZ.out (by have:=HR.out;have:=HM.out;omega);obtain⟨zJ,zY⟩:=jf3;have h56:¬ ((r:Int)=56):=by omega
 go_wp2_with (at_builtin;refine zh ?_)
 refine zv rfl (.tmp 21) (.tmp 22) rfl w.heap.size _ _ rfl zJ _ 1 _ [0] rfl rfl (Src.new _ _ _ _ rfl _ rfl) (by rw[zA];have:=HN.out.2;have:=HB.out;have:=hz.out;simp only[List.length_singleton];omega) zY.size fun v' w5 zW zK hat5=>?_
 exact jbz
theorem OwnX.kl {α:Type}{L:Lie α}{t:TypeId}{w w':World}{base N:Nat}{v:Value}{H:Snap}{l:List α}(h:OwnX L t w base v H l) (hg:w.grownBy w' (some N)) (hl:∀ q,v.ownBlock=some q→q<N):OwnX L t w' base v H l:=h.kept hg (by cases hv:v.ownBlock with | none=>exact .inl rfl | some q=>exact .inr (fun e=>by injection e with e;exact Nat.lt_irrefl _ (e ▸ hl q hv)))
end Go.Proofs.YtkmlnjociijpgaaGreatDoor
