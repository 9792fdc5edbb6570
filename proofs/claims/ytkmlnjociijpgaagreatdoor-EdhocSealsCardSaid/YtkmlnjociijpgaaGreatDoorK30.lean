/- squeezed. Walks: writing the first message ( -/
import Derived.Test.YtkmlnjociijpgaaGreatDoorK29
set_option linter.unusedVariables false
set_option linter.unusedSimpArgs false
set_option maxRecDepth 100000
set_option maxHeartbeats 12800000
namespace Go.Proofs.YtkmlnjociijpgaaGreatDoor
open Go.RowKit
theorem jaW{P:Prop}(h:P:=by
 go_wp2_with fail
 refine FL.out.mono ?_
 rintro e w5 ⟨⟨v,rfl⟩,ts,xx⟩
 have wT:=wE.step xx ts wE.rd.bytes;have iZ:=uq.grown xx (by intro e;injection e with e;have:=On.out;omega);clear b0 b2 a1;have b2:=iZ.cell 2 rfl;go_wp2_with fail
 go_ret
 exact PartOut.err E.out rfl wT):P:=h
theorem ja4{P:Prop}(h:P:=by
 go_wp2_with fail
 refine GS.out.mono ?_
 rintro e w3 ⟨rfl,rfl⟩
 exact jeW):P:=h
theorem jbi{P:Prop}(h:P:=by exact jeW):P:=h
theorem jc7{P:Prop}(h:P:=by
 have wT:=wC.step xx cA Ld.out;go_wp2_with fail
 go_ret
 exact PartOut.ok HP.out rfl wT zD):P:=h
theorem jdp{P:Prop}(h:P:=by
 go_wp2_with fail
 go_ret2
 exact IntsOut.err (q:=4) E.out rfl hG.below):P:=h
theorem jdq{P:Prop}(h:P:=by
 go_wp2_with fail
 go_ret2
 exact IntsOut.err (q:=4) E.out rfl xK.below):P:=h
theorem jeE{P:Prop}(h:P:=by
 have E:Hid (vw f=.error 1):=by rw[Hid];exact uU (by have:=HQ.out.1;omega)
 clear GS;exact jbi):P:=h
theorem jeW{P:Prop}(h:P:=by
 go_wp2_with fail
 go_ret2
 exact BytesOut.err (q:=1) E.out rfl j6):P:=h
theorem jfP{P:Prop}(h:P:=by have a1:=hR.blk.cell 1 rfl;exact a1):P:=h
abbrev qI (m:Int) (sa:Option Addr) (sn sc:Nat) (ga:Option Addr) (gn gc:Nat) (ca:Option Addr) (cn cc:Nat) (ea:Option Addr) (en ec:Nat):Array Value:=#[.int .i64 m,.slice sa sn sc,.slice ga gn gc,.slice ca cn cc,.slice ea en ec]
structure FirstA (H:Snap) (f:First) (sa:Option Addr) (sc:Nat) (ga:Option Addr) (gc:Nat) (ca:Option Addr) (cc:Nat) (ea:Option Addr) (ec:Nat):Prop where
 suites:IsRow cJ H sa sc f.suites
 gx:IsBytes H ga gc f.gx
 conn:IsBytes H ca cc f.conn
 ext:IsRow lS H ea ec f.ext
theorem jM (f:First):bX f=true↔(0≤f.method∧f.method≤3∧xf f.suites=true∧xa f.ext=true∧1≤f.gx.length∧f.gx.length≤64∧f.conn.length≤7):=by
 simp[bX,and_assoc]
theorem uU {f:First}(h:¬ (0≤f.method∧f.method≤3∧xf f.suites=true∧xa f.ext=true∧1≤f.gx.length∧f.gx.length≤64∧f.conn.length≤7)):vw f=.error 1:=by
 rw[vw,if_neg (fun h'=>h ((jM f).1 h'))]
theorem Pf (c:List UInt8):(oZ c).length≤c.length+9:=by
 rw[oZ.eq_def]
 split
 ·split
  ·simp
  have:=lI [‹UInt8›];exact this
 exact lI _
theorem OwnX.srcR {w:World}{base:Nat}{A:Option Addr}{m c:Nat}{H:Snap}{ls:List (List UInt8)}(h:OwnX qB 22 w base (.slice A m c) H ls) (hw:Holds w H):SrcR w A ls:=fun h0=>by
 obtain⟨g,e,_⟩:=h.at_ 0 h0
 refine⟨g,0,e,fun j hj=>?_⟩
 obtain⟨g2,e2,d,hd,hc⟩:=h.at_ j hj;obtain⟨Aj,cj,mM,hb⟩:=hd;subst mM;have hg:g=g2:=by rw[e]at e2;injection e2 with e2;injection e2
 subst hg;have:=hc 0 _ rfl;rw[show j*qB.k+0=0+j from by show j*1+0=0+j;omega]at this
 exact⟨Aj,cj,this,Src.of_row hb.row hw⟩
theorem NL:(Tryz.prog.info? 22).map (fun i=>(i.zero,i.size,i.bytes))=some (some (.slice none 0 0),1,24):=by kernel_rfl
theorem eQ {H:Snap}(w:World) (hH:Holds w H) {f:First}{m:Int}{sa:Option Addr}{sn sc:Nat}{ga:Option Addr}{gn gc:Nat}{ca:Option Addr}{cn cc:Nat}{ea:Option Addr}{en ec:Nat}(hF:FirstA H f sa sc ga gc ca cc ea ec)
  (hm:m=f.method) (qT:sn=f.suites.length) (hgn:gn=f.gx.length) (Sn:cn=f.conn.length) (hen:en=f.ext.length) :
  Calls Tryz.prog 30 #[.agg (qI m sa sn sc ga gn gc ca cn cc ea en ec)] w (BytesOut w (vw f)):=by
 have hB:=Blk.new w 60 (qI m sa sn sc ga gn gc ca cn cc ea en ec);have hG:=(Grows.refl hH).alloc (.cells (qI m sa sn sc ga gn gc ca cn cc ea en ec) 60);have b0:=hB.cell 0 rfl;have b1:=hB.cell 1 rfl;have b2:=hB.cell 2 rfl;have b3:=hB.cell 3 rfl;have b4:=hB.cell 4 rfl;have EX0:=Yj (w.alloc (.cells (qI m sa sn sc ga gn gc ca cn cc ea en ec) 60)) hG.holds hF.ext;rw[← hen]at EX0;have EX:=Hh EX0;have HF:=Hh hF;have HQ:=Hh (And.intro hm (And.intro qT (And.intro hgn (And.intro Sn hen))));have YH:Blk (w.alloc (.cells (qI m sa sn sc ga gn gc ca cn cc ea en ec) 60)) w.heap.size 60 (qI m sa sn sc ga gn gc ca cn cc ea en ec):=hB;clear EX0 hm qT hgn Sn hen hF hH hB;go_enter Tryz.func30,Tryz.ntmps30
 go_wp2_with fail
 generalize w.alloc (.cells (qI m sa sn sc ga gn gc ca cn cc ea en ec) 60)=w1 at YH hG EX⊢
 clear b0 b1 b2 b3 b4
 refine EX.out.mono ?_
 intro e w2 hs
 have hx:∃ (r:Value) (q:Nat),e=.returned (.tuple #[r,.int .i64 (q:Int)])∧Below w1.heap.size w1 w2∧(xa f.ext=true→q=0∧Fresh w1 (vh f.ext) r w2)∧(xa f.ext=false→q=1):=by
  unfold BytesOut at hs
  rw[kI]at hs
  cases hg:xa f.ext with
  | true =>
   rw[hg]at hs;obtain⟨v,rfl,hf⟩:=hs
   exact⟨v,0,rfl,hf.2,(fun _=>⟨rfl,hf⟩),fun h=>by cases h⟩
  | false =>
  rw[hg]at hs;obtain⟨rfl,hb⟩:=hs
  exact⟨_,1,rfl,hb,(fun h=>by cases h),fun _=>rfl⟩
 obtain⟨r,q,rfl,zD,MU,Gg⟩:=hx;have MN:=Hh MU;have G9:=Hh Gg;have wm:=YH.below zD;have xq:=hG.below_ zD;have b0:=wm.cell 0 rfl;have b1:=wm.cell 1 rfl;have b2:=wm.cell 2 rfl;have b3:=wm.cell 3 rfl;have b4:=wm.cell 4 rfl;have GS:=Hh (bD (n:=sn) w2 xq.holds HQ.out.2.1 HF.out.suites);have j6:=xq.below;clear EX hs MU Gg
 by_cases c1:m<0
 ·have c1d:decide (m<0)=true:=decide_eq_true c1;exact jeE
 have c1d:decide (m<0)=false:=decide_eq_false c1
 by_cases c2:3<m
 ·have c2d:decide (3<m)=true:=decide_eq_true c2;exact jeE
 have c2d:decide (3<m)=false:=decide_eq_false c2;have HM:=Hh (And.intro c1 c2)
 cases hgs:xf f.suites with
 | false =>
  rw[hgs]at GS;have E:Hid (vw f=.error 1):=by rw[Hid];exact uU (by rw[hgs];simp)
  clear hgs;exact ja4
 | true =>
 rw[hgs]at GS;have Mc:=Hh hgs;clear hgs
 cases iK:xa f.ext with
 | false =>
  have hq:=G9.out iK;subst hq;have E:Hid (vw f=.error 1):=by rw[Hid];exact uU (by rw[iK];simp)
  exact ja4
 | true =>
 obtain⟨hq,Dt⟩:=MN.out iK;subst hq;have Mb:=Hh iK;clear iK
 by_cases c3:gn=0
 ·subst c3;have E:Hid (vw f=.error 1):=by rw[Hid];exact uU (by have:=HQ.out.2.2.1;omega)
  exact ja4
 have c3a:¬ ((gn:Int)<1):=by omega
 have c3d:decide ((gn:Int)<1)=false:=decide_eq_false c3a
 by_cases c4:64<gn
 ·have c4a:(64:Int)<(gn:Int):=by omega
  have c4d:decide ((64:Int)<(gn:Int))=true:=decide_eq_true c4a;have E:Hid (vw f=.error 1):=by rw[Hid];exact uU (by have:=HQ.out.2.2.1;omega)
  clear c4;exact ja4
 have c4a:¬ ((64:Int)<(gn:Int)):=by omega
 have c4d:decide ((64:Int)<(gn:Int))=false:=decide_eq_false c4a
 by_cases c5:7<cn
 ·have c5a:(7:Int)<(cn:Int):=by omega
  have c5d:decide ((7:Int)<(cn:Int))=true:=decide_eq_true c5a;have E:Hid (vw f=.error 1):=by rw[Hid];exact uU (by have:=HQ.out.2.2.2.1;omega)
  clear c5 c4;exact ja4
 have c5a:¬ ((7:Int)<(cn:Int)):=by omega
 have c5d:decide ((7:Int)<(cn:Int))=false:=decide_eq_false c5a;have HZ:=Hh (show gn≠0∧gn≤64∧cn≤7 from⟨c3,by omega,by omega⟩)
 have E0:Hid (vw f=pF (va m++un f.suites++yL f.gx++oZ f.conn++vh f.ext)):=by
  have h1:=HQ.out;have h2:=HM.out;have h3:=HZ.out;rw[Hid,vw,if_pos ((jM f).2 ⟨by omega,by omega,Mc.out,Mb.out,by omega,by omega,by omega⟩),Qo,h1.1]
 obtain⟨RA,rc,rfl,_⟩:=Dt.own.form;obtain⟨H2,IS,Sb,_⟩:=Fresh.snapB hG.holds Dt;have yA:=hG.trans IS
 have Lx:Hid ((vh f.ext).length≤4398400):=by
  have hg:=(tI f.ext).1 Mb.out;have:=gJ f.ext (fun x hx=>by have:=(tK x).1 (hg.2 x hx);omega);have:=hg.1;rw[Hid];omega
 have FC:=Hh ((qt f.suites).1 Mc.out);have WI:=Hh (fun(n:Int) (h1 : -9223372036854775808≤n) (h2:n≤9223372036854775807) (w:World)=>lB n h1 h2 w);have Lo:=Hh Sb;have Gs:=Hh (show -9223372036854775808≤m∧m≤9223372036854775807 by omega);clear c1 c2 c3 c4 c5 c3a c4a c5a Dt IS Sb hG YH zD MN G9 xq;go_wp2_with fail
 refine GS.out.mono ?_
 rintro e w3 ⟨rfl,rfl⟩
 go_wp2_with fail
 refine(WI.out m Gs.out.1 Gs.out.2 _).mono ?_
 rintro e w4 ⟨r4,rfl,rf⟩
 obtain⟨OA,oc,rfl,_⟩:=rf.own.form;have uj:=rf.own.more (base':=w.heap.size+1) (by have:=wm.lt;omega);have xK:=yA.below_ rf.2;have ss:=wm.below rf.2;have av:w.heap.size<w4.heap.size:=ss.lt;have LX:∀ q,(Value.slice OA (va m).length oc).ownBlock=some q→H2 q=none:=fun q hq=>yA.holds.none_of_ge (rf.own.lt q hq).1
 have LW:=Hh (show ∀ q,(Value.slice OA (va m).length oc).ownBlock=some q→w.heap.size+1≤q∧q<w4.heap.size from fun q hq=>uj.lt q hq);obtain⟨S0,Oj⟩:∃ S0,va m=S0:=⟨_,rfl⟩
 have GJ:=Hh (show S0.length≤9 by rw[← Oj];exact(nR m).2);rw[Oj]at uj LX LW E0⊢;clear b0 b1 b2 b3 b4 rf j6 wm yA GS Oj;have b0:=ss.cell 0 rfl;have b1:=ss.cell 1 rfl;have b2:=ss.cell 2 rfl;have b3:=ss.cell 3 rfl;obtain⟨sb,so,mz,lZ⟩:=bk HF.out.suites (by have:=FC.out.1;omega);have J8:=Hh (And.intro mz lZ);clear mz lZ;have zAf:(sn:Int)≤8:=by have:=HQ.out.2.1;have:=FC.out.2.1;omega
 have zAg:(sn:Int)≤(sc:Int):=by have:=HF.out.suites.le;have:=HQ.out.2.1;omega
 have oJ:=Hh (show sn=f.suites.length∧1≤sn∧sn≤8 from⟨HQ.out.2.1,by have:=HQ.out.2.1;have:=FC.out.1;omega,by omega⟩);go_wp2_with fail
 go_loopw [7,58] (fun v7 v58 wr=>∃ (i:Nat) (Hr:Snap) (VA:Option Addr) (vc vn:Nat),i≤sn∧v58=.int .i64 (i:Int)∧v7=.slice VA vn vc∧vn=i∧Grows w4 H2 wr Hr∧OwnX qB 22 wr w4.heap.size (.slice VA vn vc) Hr ((f.suites.take i).map va)∧(∀ q,(Value.slice VA vn vc).ownBlock=some q→Hr q=none)) (fun _ v58 _=>sn-(intOf v58).toNat)
 case atStart=>exact⟨0,H2,none,0,0,Nat.zero_le _,rfl,rfl,rfl,Grows.refl xK.holds,OwnX.nil _ _ _ _ _,by intro q hq;simp[Value.ownBlock]at hq⟩
 case round =>
 obtain⟨i,Hr,VA,vc,vn,hi,rfl,rfl,rfl,oK,xe,qm⟩:=hrel;have HI:=Hh hi;clear hi
 by_cases iL:vn<sn
 ·have fF:(vn:Int)<(sn:Int):=by omega
  obtain⟨mz,lZ⟩:=J8.out;subst mz;have q0:=(xK.trans oK).holds.cell (((xK.le.trans oK.le)).cell (lZ vn (by have:=oJ.out.1;omega)));have DM:=Hh (FC.out.2.2.1 vn (by have:=oJ.out.1;omega))
  have fB:=Hh (show(f.suites.take (vn+1)).map va=(f.suites.take vn).map va++[va (f.suites.getD vn 0)] by
   have h:=oJ.out.1;rw[List.take_succ_eq_append_getElem (by omega),List.map_append,List.map_singleton,nQ (by omega)])
  obtain⟨v,hv⟩:∃ v,f.suites.getD vn 0=v:=⟨_,rfl⟩
  rw[hv]at q0 DM fB;have aV:=Hh iL;have Gn:(vn:Int)+1≤9223372036854775807:=by omega
  have AX:((f.suites.take vn).map va).length=vn:=by rw[List.length_map,List.length_take];have:=oJ.out.1;omega
  have qk:=Hh AX;clear hv iL lZ AX;go_wp2_with fail
  refine(WI.out v (by have:=DM.out;omega) (by have:=DM.out;omega) _).mono ?_
  rintro e w5 ⟨r5,rfl,xX⟩
  obtain⟨IA,ic,rfl,_⟩:=xX.own.form;obtain⟨H5,xx,eI,_⟩:=Fresh.snapB oK.holds xX;have y8:=oK.trans xx;have wH:=(xe.below xX.2).mono xx.le;have uS:∀ q,(Value.slice VA vn vc).ownBlock=some q→H5 q=none:=fun q hq=>xx.none (qm q hq) (xe.lt q hq).2
  obtain⟨ib,M7⟩:∃ ib,va v=ib:=⟨_,rfl⟩
  rw[M7]at eI fB⊢;have vm:=y8.alloc (.cells #[.slice IA ib.length ic] 22);have xj:=wH.alloc (.cells #[.slice IA ib.length ic] 22);clear xX oK xe qm xx y8 wH q0 M7;obtain⟨ls,B8⟩:∃ ls,(f.suites.take vn).map va=ls:=⟨_,rfl⟩
  rw[B8]at xj fB qk;clear B8;go_wp2_with (at_builtin;refine zh ?_)
  refine OwnX.append rfl (.tmp 62) (.tmp 65) 24 rfl Tryz.underlying24 rfl (by omega) NL rfl xj _ 1 _ [.slice IA ib.length ic] [ib] rfl rfl (RowC.one ⟨IA,ic,rfl,eI⟩) (Src.new _ _ _ _ rfl _ rfl) (by have:=qk.out;simp only[List.length_singleton];omega) vm.size fun v' w8 sk hg8 hat8=>?_
  obtain⟨VA',vc',rfl,_⟩:=sk.form;have eJ:=wJ vm.holds uS hat8;have cP:=vm.grownRow uS (fun q hq=>(xj.lt q hq).1) hg8;have uu:(ls++[ib]).length=vn+1:=by rw[List.length_append,qk.out];rfl
  rw[uu]at sk eJ⊢;rw[← fB.out]at sk;clear xj vm hg8 hat8 uu uS;go_wp2_with fail
  go_roundw
  case rel=>exact⟨vn+1,H5,VA',vc',_,aV.out,by go_num,rfl,rfl,cP,sk,eJ⟩
  case measure=>have:=aV.out;simp[intOf];omega
 have fF:¬ ((vn:Int)<(sn:Int)):=by omega
 have hid:decide ((vn:Int)<(sn:Int))=false:=decide_eq_false fF;have hvs:sn=vn:=by have:=HI.out;omega
 have Al:f.suites.take vn=f.suites:=by rw[List.take_of_length_le];have:=oJ.out.1;omega
 rw[Al]at xe;have xx:=xK.trans oK;have zW:=uj.below oK.below;have Rl:∀ q,(Value.slice OA S0.length oc).ownBlock=some q→Hr q=none:=fun q hq=>oK.none (LX q hq) (LW.out q hq).2
 have ts:=ss.below oK.below;have Ak:=xe.srcR oK.holds;have aS:=Hh (show((f.suites.map va).flatten)=ob f.suites from fj _);have oO:Hid ((f.suites.map va).length=vn):=by rw[Hid,List.length_map];have:=oJ.out.1;omega
 have Rs:=Hh (Za f.suites);have LT:=Hh (And.intro (xK.le.trans oK.le) oK.le);subst hvs;clear iL Al;have GQ:=Hh (Lo.out.mono LT.out.2);have Bl:=Hh (HF.out.gx.mono LT.out.1);have Bg:=Hh (HF.out.conn.mono LT.out.1);clear b0 b1 b2 b3 xK oK uj ss av LX LW;have b2:=ts.cell 2 rfl;have b3:=ts.cell 3 rfl
 have HSB:Hid (S0.length+(un f.suites).length≤100):=by
  have h1:=GJ.out;have h2:=Rs.out;have h3:=oJ.out;have h4:=(yZ 4 f.suites.length).2;rw[Hid,un]
  split <;> (try simp only[List.length_append]) <;> omega
 have B9:(Value.slice OA S0.length oc).ownBlock=some w.heap.size→False:=fun e=>by have:=(zW.lt _ e).1;omega
 go_upto_if 70 with fail
 go_cut [6] (fun s6 wx=>∃ (VB:Option Addr) (wc' wn:Nat),s6=.slice VB wn wc'∧wn=(S0++un f.suites).length∧OwnB wx (w.heap.size+1) (.slice VB wn wc') (S0++un f.suites)∧Grows w H wx Hr∧Blk wx w.heap.size 60 (qI m sa sn sc ga gn gc ca cn cc ea en ec)∧(∀ q,(Value.slice VB wn wc').ownBlock=some q→Hr q=none))
 case first =>
  by_cases h1:sn=1
  ·subst h1
   obtain⟨n0,wg⟩:∃ n0,f.suites=[n0]:=by
    have:=oJ.out.1
    match hs:f.suites,this with
    | [n0],_=>exact⟨n0,rfl⟩
   have Uj:Hid (un f.suites=va n0):=by rw[Hid,wg,un,if_pos (by simp),ob,ob,List.append_nil]
   rw[wg]at xe;obtain⟨gg,rfl,d,hd,hc⟩:=xe.at_ 0 (by simp);obtain⟨IA,ic,mM,M7⟩:=hd;subst mM;have p0:wr.cell? ⟨gg,0,none⟩=some (.slice IA (va n0).length ic):=hc 0 _ rfl;have mI:=Hh (Src.of_row M7.row xx.holds);have cZ:=(nR n0).2;have Bm:=Hh cZ;clear cZ wg hc M7 xe;go_wp2_with (at_builtin;refine zh ?_)
   refine zv rfl (.tmp 71) (.tmp 74) rfl (w.heap.size+1) _ _ rfl zW _ _ _ (va n0) rfl rfl mI.out (by have:=GJ.out;have:=Bm.out;omega) ts.lt fun v' w6 wH vt hat6=>?_
   obtain⟨VB,wc',rfl,_⟩:=wH.form;have y8:=xx.grownRow Rl (fun q hq=>Nat.le_of_succ_le (zW.lt q hq).1) vt;have rT:=ts.grown vt (fun e=>B9 e);have uS:=wJ xx.holds Rl hat6;obtain⟨SS,Sk⟩:∃ SS,S0++va n0=SS:=⟨_,rfl⟩
   have Lk:Hid (S0++un f.suites=SS):=by rw[Hid,Uj.out];exact Sk
   rw[Sk]at wH uS⊢;clear Sk;go_wp2_with fail
   go_meet
   exact⟨VB,wc',_,rfl,by rw[Lk.out],by rw[Lk.out];exact wH,y8,rT,uS⟩
  have e1:((sn:Int)==1)=false:=by simp;omega
  have e1':((sn:Int)=1)=False:=eq_false (by omega);have Uj:Hid (un f.suites=zV 4 f.suites.length++ob f.suites):=by rw[Hid,un,if_neg (by have:=oJ.out.1;omega)]
  have AR0:=lz (c:=vc) oO.out.symm (by have:=oO.out;have:=oJ.out.2.2;omega) (by rw[aS.out];have:=Rs.out;have:=oJ.out;omega) wr Ak;rw[aS.out,List.length_map,← Uj.out]at AR0;have AR:=Hh AR0;clear AR0 h1;go_wp2_with fail
  refine AR.out.mono ?_
  rintro e w6 ⟨r6,rfl,vF⟩
  obtain⟨QA,qc,rfl,_,_,mI⟩:=vF.own.form;have wH:=zW.below vF.2;have y8:=xx.below_ vF.2;have rT:=ts.below vF.2;clear vF AR;go_wp2_with (at_builtin;refine zh ?_)
  refine zv rfl (.tmp 76) (.tmp 78) rfl (w.heap.size+1) _ _ rfl wH _ _ _ (un f.suites) rfl rfl mI (by have:=HSB.out;omega) rT.lt fun v' w7 xj xQ hat7=>?_
  obtain⟨VB,wc',rfl,_⟩:=xj.form;have vm:=y8.grownRow Rl (fun q hq=>Nat.le_of_succ_le (wH.lt q hq).1) xQ;have nW:=rT.grown xQ (fun e=>B9 e);have kY:=wJ y8.holds Rl hat7;obtain⟨SS,Sk⟩:∃ SS,S0++un f.suites=SS:=⟨_,rfl⟩
  rw[Sk]at xj kY⊢;have Lk:=Hh Sk;clear Sk;go_wp2_with fail
  go_meet
  exact⟨VB,wc',_,rfl,by rw[Lk.out],by rw[Lk.out];exact xj,vm,nW,kY⟩
 case rest =>
 obtain⟨VB,wc',wn,rfl,rfl,wH,y8,rT,uS⟩:=hcut;clear zW xx Rl ts xe qm Ak b2 b3;obtain⟨S1,nY⟩:∃ S1,S0++un f.suites=S1:=⟨_,rfl⟩
 have GK:=Hh (show S1.length≤100 by rw[← nY,List.length_append];exact HSB.out);rw[nY]at wH uS E0⊢;clear nY;have b2:=rT.cell 2 rfl;have b3:=rT.cell 3 rfl;have SG:=Hh (fun(w:World) (hW:Holds w Hr)=>vB (n:=gn) (c:=gc) (l:=f.gx) HQ.out.2.2.1 (by have:=HZ.out;have:=HQ.out.2.2.1;omega) w (Src.of_row Bl.out.row hW));have CN:=Hh (fun(w:World) (hW:Holds w Hr)=>Xd (n:=cn) (c:=cc) (l:=f.conn) HQ.out.2.2.2.1 (by have:=HZ.out;have:=HQ.out.2.2.2.1;omega) w (Src.of_row Bg.out.row hW));have yo:=lI f.gx;have uw:=Pf f.conn;have Rr:=Hh (show(yL f.gx).length≤100 by have:=HZ.out;have:=HQ.out.2.2.1;omega);have f8:=Hh (show(oZ f.conn).length≤100 by have:=HZ.out;have:=HQ.out.2.2.2.1;omega);clear yo uw;obtain⟨sg,ag⟩:∃ sg,yL f.gx=sg:=⟨_,rfl⟩
 obtain⟨sc',Sv⟩:∃ sc',oZ f.conn=sc':=⟨_,rfl⟩
 obtain⟨sx,BK⟩:∃ sx,vh f.ext=sx:=⟨_,rfl⟩
 rw[ag]at SG Rr E0;rw[Sv]at CN f8 E0;rw[BK]at Lx E0 GQ⊢;clear ag Sv BK;go_wp2_with fail
 refine(SG.out _ y8.holds).mono ?_
 rintro e w7 ⟨r7,rfl,mw⟩
 obtain⟨QA,qc,rfl,_,_,mI⟩:=mw.own.form;have xj:=wH.below mw.2;have vm:=y8.below_ mw.2;have nW:=rT.below mw.2;clear mw wH y8 rT SG;go_wp2_with (at_builtin;refine zh ?_)
 refine zv rfl (.tmp 80) (.tmp 83) rfl (w.heap.size+1) _ _ rfl xj _ _ _ sg rfl rfl mI (by have:=GK.out;have:=Rr.out;omega) nW.lt fun v' w8 sk hg8 hat8=>?_
 obtain⟨VC,wd',rfl,_⟩:=sk.form;have cP:=vm.grownRow uS (fun q hq=>Nat.le_of_succ_le (xj.lt q hq).1) hg8;have OZ:=nW.grown hg8 (fun e=>by have:=(xj.lt _ e).1;omega);have eJ:=wJ vm.holds uS hat8;obtain⟨S2,Rz⟩:∃ S2,S1++sg=S2:=⟨_,rfl⟩
 have GL:=Hh (show S2.length≤200 by rw[← Rz,List.length_append];have:=GK.out;have:=Rr.out;omega);rw[Rz]at sk eJ E0⊢;clear Rz xj vm nW hg8 hat8 uS mI b2 b3;have b3:=OZ.cell 3 rfl;go_wp2_with fail
 refine(CN.out _ cP.holds).mono ?_
 rintro e w9 ⟨r9,rfl,mh⟩
 obtain⟨QA2,qc2,rfl,_,_,mI⟩:=mh.own.form;have sv:=sk.below mh.2;have YI:=cP.below_ mh.2;have iX:=OZ.below mh.2;clear mh sk cP OZ CN b3;go_wp2_with (at_builtin;refine zh ?_)
 refine zv rfl (.tmp 85) (.tmp 88) rfl (w.heap.size+1) _ _ rfl sv _ _ _ sc' rfl rfl mI (by have:=GL.out;have:=f8.out;omega) iX.lt fun v' w10 wO yn hat10=>?_
 obtain⟨VD,we',rfl,_⟩:=wO.form;have q9:=YI.grownRow eJ (fun q hq=>Nat.le_of_succ_le (sv.lt q hq).1) yn;have aM:=iX.grown yn (fun e=>by have:=(sv.lt _ e).1;omega);have rZ:=wJ YI.holds eJ hat10;obtain⟨S3,JS⟩:∃ S3,S2++sc'=S3:=⟨_,rfl⟩
 have Bn:=Hh (show S3.length≤300 by rw[← JS,List.length_append];have:=GL.out;have:=f8.out;omega);rw[JS]at wO rZ E0⊢;clear JS sv YI yn hat10 eJ mI;go_wp2_with (at_builtin;refine zh ?_)
 refine zv rfl (.tmp 90) (.tmp 91) rfl (w.heap.size+1) _ _ rfl wO _ _ _ sx rfl rfl (Src.of_row GQ.out.row q9.holds) (by have:=Bn.out;have:=Lx.out;omega) aM.lt fun v' w11 aO mH hat11=>?_
 obtain⟨VE,wf',rfl,_⟩:=aO.form;have Um:=q9.grownRow rZ (fun q hq=>Nat.le_of_succ_le (wO.lt q hq).1) mH;obtain⟨S4,Ib⟩:∃ S4,S3++sx=S4:=⟨_,rfl⟩
 rw[Ib]at aO E0⊢;clear Ib;have LM:=Hh (TX (w:=w) (w1:=w11) rfl ⟨aO.more (Nat.le_succ _),Um.below⟩);rw[← E0.out]at LM;clear wO q9 mH hat11 rZ aO Um;go_wp2_with fail
 refine LM.out.mono ?_
 intro e w12 hs
 clear LM
 unfold BytesOut at hs
 cases hq:vw f with
 | error q =>
  rw[hq]at hs;obtain⟨rfl,hb⟩:=hs;go_wp2_with fail
  go_ret2
  exact BytesOut.err hq rfl hb
 | ok l =>
 rw[hq]at hs;obtain⟨v,rfl,hf⟩:=hs;go_wp2_with fail
 go_ret2
 exact BytesOut.ok hq rfl hf
def PartOut (w:World) (H:Snap) (g:Nat) (l:List UInt8) (r:Except Nat (List UInt8×Nat)) (e:Ending) (w':World):Prop :=
 match r with
 | .error q=>∃ (v:Option Addr) (n c:Nat) (H':Snap) (A':Option Addr) (c':Nat) (l':List UInt8),e=.returned (.slice v n c)∧Est w H w' H' g A' c' l' q
 | .ok (b,k)=>∃ (v:Option Addr) (c:Nat) (H':Snap) (A':Option Addr) (c':Nat),e=.returned (.slice v b.length c)∧Est w H w' H' g A' c' (l.drop k) 0∧IsBytes H' v c b
section
variable {w w':World} {H:Snap} {g:Nat} {A:Option Addr} {c:Nat} {l:List UInt8} {q:Nat}
theorem PartOut.err {r:Except Nat (List UInt8×Nat)}{e:Ending}{v:Option Addr}{n d:Nat}{H':Snap}{A':Option Addr}{c':Nat}{l':List UInt8}(hr:r=.error q) (he:e=.returned (.slice v n d)) (h:Est w H w' H' g A' c' l' q):PartOut w H g l r e w':=by
 subst hr;exact⟨v,n,d,H',A',c',l',he,h⟩
theorem PartOut.ok {r:Except Nat (List UInt8×Nat)}{e:Ending}{v:Option Addr}{d:Nat}{b:List UInt8}{k:Nat}{H':Snap}{A':Option Addr}{c':Nat}(hr:r=.ok (b,k)) (he:e=.returned (.slice v b.length d)) (h:Est w H w' H' g A' c' (l.drop k) 0) (hb:IsBytes H' v d b):PartOut w H g l r e w':=by
 subst hr;exact⟨v,d,H',A',c',he,h,hb⟩
theorem t6 (hR:Rdr w g H A c l q) (hq:q≠0):Calls Tryz.prog 71 #[.pointer (some ⟨g,0,none⟩)] w fun e w'=>e=.returned (.slice none 0 0)∧Est w H w' H g A c l q:=by
 have yo:=hR.gt;have IT:=Hh (qX hR hq);have z:((q:Int)==0)=false:=by simp;omega
 have z':=jgD;clear hq;go_enter Tryz.func71,Tryz.ntmps71
 go_wp2_with fail
 refine IT.out.mono ?_
 rintro e w2 ⟨rfl,wC⟩
 have wY:=jfq;have mu:H w2.heap.size=none:=wC.rd.holds.none_of_ge (Nat.le_refl _);have Sl:=wC.size;have wI:=wC.alloc zf;go_wp2_with (with_reducible refine zx ?_)
 refine stI wY fun w4 uq hg4=>?_
 have wE:=wI.gb mu Sl yo hg4;have a1:=wE.rd.blk.cell 1 rfl;have b0:=uq.cell 0 rfl;have b2:=uq.cell 2 rfl;go_wp2_with fail
 go_ret
 exact⟨rfl,wE⟩
theorem NC (hTab:Tabs H) (hR:Rdr w g H A c l 0):Calls Tryz.prog 71 #[.pointer (some ⟨g,0,none⟩)] w (PartOut w H g l (tw l)):=by
 have yo:=hR.gt;have IT:=Hh (bp hTab hR);go_enter Tryz.func71,Tryz.ntmps71
 go_wp2_with fail
 refine IT.out.mono ?_
 intro e w2 hs
 unfold EItem at hs
 cases hp:yz l with
 | err q =>
  rw[hp]at hs;obtain⟨rfl,H2,A2,c2,wC⟩:=hs;have E:Hid (tw l=.error q):=by rw[Hid,tw,hp]
  have z:((q:Int)==0)=false:=by have:=zN _ _ _ _ hp;simp;omega
  have z':((q:Int)=0)=False:=eq_false (by have:=zN _ _ _ _ hp;omega);have wY:=jfq;have mu:=jgV;have Sl:=wC.size;have wI:=wC.alloc zf;clear hp IT;go_wp2_with (with_reducible refine zx ?_)
  refine stI wY fun w4 uq hg4=>?_
  have wE:=wI.gb mu Sl yo hg4;have a1:=wE.rd.blk.cell 1 rfl;have b0:=uq.cell 0 rfl;have b2:=uq.cell 2 rfl;go_wp2_with fail
  go_ret
  exact PartOut.err E.out rfl wE
 | ok x k m =>
 rw[hp]at hs;obtain⟨ja,jb,jc,jd,H2,A2,c2,rfl,wC,fE⟩:=hs;have wY:=jfq;have mu:=jgV;have Sl:=wC.size;have On:=Hh wC.rd.gt;have wI:=wC.alloc zf;have HP:=Hh hp;obtain⟨bl,vV⟩:∃ bl,x.bytes.length=bl:=⟨_,rfl⟩
 have qR:=Hh vV;clear hp IT;go_wp2_with (with_reducible refine zx ?_)
 refine stI wY fun w4 uq hg4=>?_
 have wE:=wI.gb mu Sl yo hg4;rw[vV]at uq;obtain⟨kd,ru⟩:∃ kd,x.kind=kd:=⟨_,rfl⟩
 rw[ru]at uq;have V8:=Hh ru;have a1:=wE.rd.blk.cell 1 rfl;have b0:=uq.cell 0 rfl;have b2:=uq.cell 2 rfl;have FL:=Hh (pL wE.rd.blk 4);rw[if_pos rfl]at FL;clear wI wY hg4 vV ru
 by_cases c1:kd=2
 case neg =>
  have c1a:(kd != 2)=true:=by rw[bne_iff_ne];exact c1
  have c1b:(kd=2)=False:=eq_false c1;have E:Hid (tw l=.error 4):=by rw[Hid,tw,HP.out];simp only;rw[if_pos (by have h1:=V8.out;have h2:=qR.out;exact .inl (by rw[h1];exact c1))]
  exact jaW
 subst c1
 by_cases c2:bl=0
 ·subst c2;have E:Hid (tw l=.error 4):=by rw[Hid,tw,HP.out];simp only;rw[if_pos (by have h1:=V8.out;have h2:=qR.out;exact .inr (.inl (by omega)))]
  exact jaW
 have c2a:¬ ((bl:Int)<1):=by omega
 have c2b:decide ((bl:Int)<1)=false:=decide_eq_false c2a
 by_cases c3:64<bl
 ·have c3a:(64:Int)<(bl:Int):=by omega
  have c3b:decide ((64:Int)<(bl:Int))=true:=decide_eq_true c3a;have E:Hid (tw l=.error 4):=by rw[Hid,tw,HP.out];simp only;rw[if_pos (by have h1:=V8.out;have h2:=qR.out;exact .inr (.inr (by omega)))]
  exact jaW
 have c3a:¬ ((64:Int)<(bl:Int)):=by omega
 have c3b:decide ((64:Int)<(bl:Int))=false:=decide_eq_false c3a;have E:Hid (tw l=.ok (x.bytes,k)):=by rw[Hid,tw,HP.out];simp only;rw[if_neg (by have h1:=V8.out;have h2:=qR.out;omega)]
 clear c2 c3 c2a c3a;go_wp2_with fail
 go_ret
 exact PartOut.ok E.out (by rw[qR.out];rfl) wE fE.bytes
theorem tH (hR:Rdr w g H A c l q) (hq:q≠0):Calls Tryz.prog 69 #[.pointer (some ⟨g,0,none⟩)] w fun e w'=>e=.returned (.slice none 0 0)∧w'=w:=by
 have z:((q:Int) != 0)=true:=by rw[bne_iff_ne];omega
 have z':=jgD;have a1:=jfP;clear hq;go_enter Tryz.func69,Tryz.ntmps69
 exact jal
theorem Jq (hR:Rdr w g H A c l 0) (hl:l.length≤1099511627000):Calls Tryz.prog 69 #[.pointer (some ⟨g,0,none⟩)] w (PartOut w H g l (zC l)):=by
 have a0:=hR.blk.cell 0 rfl;have a1:=jfP;have PC:=Hh (ix (A:=A) (c:=c) (l:=l) rfl hl hR.bytes.le hR.bytes.max w (Src.of_row hR.bytes.row hR.holds));have xY:=Est.refl hR;have P4:=Hh hR.bytes;clear hR hl;go_enter Tryz.func69,Tryz.ntmps69
 go_wp2_with fail
 refine PC.out.mono ?_
 intro e w1 hs
 unfold ConnSaid at hs
 cases hp:zC l with
 | error q =>
  rw[hp]at hs;obtain⟨rfl,zY⟩:=hs;have sz:((q:Int) != 0)=true:=by rw[bne_iff_ne];have:=qH hp;omega
  have oD:((q:Int)=0)=False:=eq_false (by have:=qH hp;omega);have cV:=xY.below_ zY;have FL:=Hh (pL cV.rd.blk q);rw[if_pos rfl]at FL;have HP:=Hh hp;clear hp PC a0 a1 xY;go_wp2_with fail
  refine FL.out.mono ?_
  rintro e w5 ⟨⟨v,rfl⟩,ts,xx⟩
  have wT:=cV.step xx ts cV.rd.bytes;go_wp2_with fail
  go_ret
  exact PartOut.err HP.out rfl wT
 | ok r =>
 obtain⟨cn,k⟩:=r;rw[hp]at hs;obtain⟨r,rfl,hf⟩:=hs;obtain⟨RA,rc,rfl,_⟩:=hf.own.form;obtain⟨H2,xq,zD,_⟩:=Fresh.snapB xY.rd.holds hf;have wC:=xY.grown xq;have HP:=Hh (show zC l=.ok (cn,k) from hp);obtain⟨uh,fP,_⟩:=bF hp;have uw:=P4.out.le;have mv:=P4.out.max;obtain⟨b,off,rfl,_⟩:=P4.out.at_ (by omega);have bz:=Hh ((P4.out.mono xq.le).drop k uh);have s1:(k:Int)≤(l.length:Int):=by omega
 have s2:(l.length:Int)≤(c:Int):=by omega
 have s3:(k:Int)≤(c:Int):=by omega
 have s4:(0:Int)≤(k:Int):=by omega
 clear hp PC a0 a1 xY hf xq uh fP uw mv;have a0:=wC.rd.blk.cell 0 rfl
 by_cases hck:c=k
 ·subst hck
  have Ld:Hid (IsBytes H2 (some ⟨b,off,none⟩) 0 (l.drop c)):=by
   have h:=bz.out;rw[if_pos rfl,Nat.sub_self]at h
   exact h
  clear bz;go_wp2_with (with_reducible refine zx ?_)
  refine zw rfl _ _ _ rfl rfl g 0 (.slice (some ⟨b,off,none⟩) (l.length-c) 0) rfl rfl _ _ wC.rd.blk yY (by simp) rfl fun w5 ts xx=>?_
  have cA:Blk w5 g 94 (erC (some ⟨b,off,none⟩) (l.drop c).length 0 0):=by rw[List.length_drop];exact ts
  exact jc7
 have Gh:(c=k)=False:=eq_false hck
 have Ld:Hid (IsBytes H2 (some ⟨b,off+k,none⟩) (c-k) (l.drop k)):=by
  exact jdz
 clear bz hck;go_wp2_with (with_reducible refine zx ?_)
 refine zw rfl _ _ _ rfl rfl g 0 (.slice (some ⟨b,off+k,none⟩) (l.length-k) (c-k)) rfl rfl _ _ wC.rd.blk yY (by simp) rfl fun w5 ts xx=>?_
 have cA:Blk w5 g 94 (erC (some ⟨b,off+k,none⟩) (l.drop k).length (c-k) 0):=by rw[List.length_drop];exact ts
 exact jc7
def RestOut (w:World) (H:Snap) (g:Nat) (r:Except Nat (List Ext)) (e:Ending) (w':World):Prop :=
 match r with
 | .error q=>∃ (H':Snap) (A':Option Addr) (c':Nat) (l':List UInt8),e=.returned (.slice none 0 0)∧Est w H w' H' g A' c' l' q
 | .ok xs=>∃ (v:Option Addr) (c:Nat) (H':Snap) (A':Option Addr) (c':Nat) (l':List UInt8),e=.returned (.slice v xs.length c)∧Est w H w' H' g A' c' l' 0∧IsRow lS H' v c xs
theorem RestOut.err {r:Except Nat (List Ext)}{e:Ending}{H':Snap}{A':Option Addr}{c':Nat}{l':List UInt8}(hr:r=.error q) (he:e=.returned (.slice none 0 0)) (h:Est w H w' H' g A' c' l' q):RestOut w H g r e w':=by
 subst hr;exact⟨H',A',c',l',he,h⟩
theorem RestOut.ok {r:Except Nat (List Ext)}{e:Ending}{xs:List Ext}{v:Option Addr}{d:Nat}{H':Snap}{A':Option Addr}{c':Nat}{l':List UInt8}(hr:r=.ok xs) (he:e=.returned (.slice v xs.length d)) (h:Est w H w' H' g A' c' l' 0) (hi:IsRow lS H' v d xs):RestOut w H g r e w':=by
 subst hr;exact⟨v,d,H',A',c',l',he,h,hi⟩
theorem tT (hR:Rdr w g H A c l q) (hq:q≠0):Calls Tryz.prog 72 #[.pointer (some ⟨g,0,none⟩)] w fun e w'=>e=.returned (.slice none 0 0)∧w'=w:=by
 have z:((q:Int) != 0)=true:=by rw[bne_iff_ne];omega
 have z':=jgD;have a1:=jfP;clear hq;go_enter Tryz.func72,Tryz.ntmps72
 exact jal
theorem Fu (hTab:Tabs H) (hR:Rdr w g H A c l 0):Calls Tryz.prog 72 #[.pointer (some ⟨g,0,none⟩)] w (RestOut w H g (tx l)):=by
 have a0:=hR.blk.cell 0 rfl;have a1:=jfP;have DX:=Hh (Yi hTab w hR.holds hR.bytes);have xY:=Est.refl hR;clear hR;go_enter Tryz.func72,Tryz.ntmps72
 go_wp2_with fail
 refine DX.out.mono ?_
 intro e w1 hs
 unfold ExtsOut at hs
 cases hp:tx l with
 | error q =>
  rw[hp]at hs;obtain⟨rfl,zY⟩:=hs;have cV:=xY.below_ zY;have FL:=Hh (pL cV.rd.blk q);rw[if_pos rfl]at FL;have HP:=Hh hp;clear hp DX a0 a1 xY;go_wp2_with fail
  refine FL.out.mono ?_
  rintro e w5 ⟨⟨v,rfl⟩,ts,xx⟩
  have wT:=cV.step xx ts cV.rd.bytes;go_wp2_with fail
  go_ret
  exact RestOut.err HP.out rfl wT
 | ok xs =>
 rw[hp]at hs;obtain⟨VA,vc,H1,rfl,rs,Yb⟩:=hs;have cV:=xY.grown rs;have FL0:=pL cV.rd.blk 0;rw[if_pos rfl]at FL0;have FL:=Hh (show Calls Tryz.prog 82 #[.pointer (some ⟨g,0,none⟩),.int .i64 0] w1 _ from FL0);have HP:=Hh hp;clear hp DX a0 a1 xY FL0;go_wp2_with fail
 refine FL.out.mono ?_
 rintro e w5 ⟨⟨v,rfl⟩,ts,xx⟩
 have wT:=cV.step xx ts cV.rd.bytes;go_wp2_with fail
 go_ret
 exact RestOut.ok HP.out rfl wT Yb
end
def IntsOut (w:World) (H:Snap) (r:Except Nat (List Int)) (e:Ending) (w':World):Prop :=
 match r with
 | .error q=>e=.returned (.tuple #[.slice none 0 0,.int .i64 (q:Int)])∧Below w.heap.size w w'
 | .ok xs=>∃ VA vc H',e=.returned (.tuple #[.slice VA xs.length vc,.int .i64 0])∧Grows w H w' H'∧IsRow cJ H' VA vc xs
theorem IntsOut.err {w w':World}{H:Snap}{r:Except Nat (List Int)}{e:Ending}{q:Nat}(hr:r=.error q) (he:e=.returned (.tuple #[.slice none 0 0,.int .i64 (q:Int)])) (hb:Below w.heap.size w w'):IntsOut w H r e w':=by
 exact jdA
theorem IntsOut.ok {w w':World}{H H':Snap}{r:Except Nat (List Int)}{e:Ending}{xs:List Int}{VA:Option Addr}{vc:Nat}(hr:r=.ok xs) (he:e=.returned (.tuple #[.slice VA xs.length vc,.int .i64 0])) (hG:Grows w H w' H') (hi:IsRow cJ H' VA vc xs):IntsOut w H r e w':=by
 subst hr;exact⟨VA,vc,H',he,hG,hi⟩
theorem Ps:(Tryz.prog.info? 3).map (fun i=>(i.zero,i.size,i.bytes))=some (some (.int .i64 0),1,8):=by kernel_rfl
theorem kr {L:List Itm}(h:vj L=none):vI L=.error 4:=by rw[vI,h]
theorem em {L:List Itm}{l:List Int}(h:vj L=some l) (ht:twice l=true):vI L=.error 7:=by rw[vI,h];simp only;rw[if_pos ht]
theorem bQ {L:List Itm}{l:List Int}(h:vj L=some l) (ht:twice l=false) (hl:8<l.length):vI L=.error 8:=by rw[vI,h];simp only;rw[if_neg (by rw[ht];simp),if_pos hl]
theorem Xb {L:List Itm}{l:List Int}(h:vj L=some l) (ht:twice l=false) (hl:¬ 8<l.length):vI L=.ok l:=by rw[vI,h];simp only;rw[if_neg (by rw[ht];simp),if_neg hl]
theorem Pn {H:Snap}(w:World) (hH:Holds w H) {x:Itm}{ja:Option Addr}{jb:Nat}{jc:Option Addr}{jd:Nat}(hx:IsItem H ja jb jc jd x) (ce:x.items.length≤4096) :
  Calls Tryz.prog 83 #[rG x ja jb jc jd] w (IntsOut w H (xo x)):=by
 have hB:=Blk.new w 77 #[.int .i64 x.kind,.int .u64 x.n,.slice ja x.bytes.length jb,.slice jc x.items.length jd];have hG:=(Grows.refl hH).alloc (.cells #[.int .i64 x.kind,.int .u64 x.n,.slice ja x.bytes.length jb,.slice jc x.items.length jd] 77);have b0:=hB.cell 0 rfl;have b1:=hB.cell 1 rfl;have b2:=hB.cell 2 rfl;have b3:=hB.cell 3 rfl;have HX:=Hh hx;have oO:=Hh ce;clear hx ce;go_enter Tryz.func83,Tryz.ntmps83
 go_upto_if 18 with fail
 obtain⟨kd,ru⟩:∃ kd,x.kind=kd:=⟨_,rfl⟩
 obtain⟨il,cZ⟩:∃ il,x.items.length=il:=⟨_,rfl⟩
 have V8:=Hh (And.intro ru cZ);go_cut [4] (fun s4 wx=>∃ (LA:Option Addr) (lc ln:Nat) (L:List Itm) (Hx:Snap),s4=.slice LA ln lc∧ln=L.length∧L.length≤4096∧IsRowI Hx LA lc L∧Grows w H wx Hx∧xo x=vI L)
 case first =>
  by_cases h0:kd=0
  ·have k0:(x.kind==0)=true:=by rw[ru,beq_iff_eq];exact h0
   have k0':(x.kind=0)=True:=eq_true (by rw[ru];exact h0);have E:Hid (xo x=vI [x]):=by rw[Hid];exact UW x (by rw[ru];exact h0)
   obtain⟨H2,xq,oW,Fk⟩:=dP hG (ItemsC.one HX.out) (by simp);clear ru cZ h0;go_wp2_with fail
   go_meet
   exact⟨_,_,_,[x],H2,rfl,rfl,by simp,by have h:=Fk;simp only[za]at h;exact h,xq,E.out⟩
  have k0:(x.kind==0)=false:=by rw[ru,beq_eq_false_iff_ne];exact h0
  have k0':(x.kind=0)=False:=eq_false (by rw[ru];exact h0)
  by_cases h4:kd=4
  ·have k4:(x.kind != 4)=false:=by rw[ru,bne_eq_false_iff_eq];exact h4
   have k4':(x.kind=4)=True:=eq_true (by rw[ru];exact h4)
   by_cases h2:il<2
   ·have z2:(x.items.length:Int)<2:=by rw[cZ];omega
    have z2d:decide ((x.items.length:Int)<2)=true:=decide_eq_true z2;have E:Hid (xo x=.error 4):=by rw[Hid];exact g7 x (by rw[ru];exact h0) (.inr (by omega))
    clear ru cZ h0 h2 h4;exact jdp
   have z2:¬ ((x.items.length:Int)<2):=by rw[cZ];omega
   have z2d:decide ((x.items.length:Int)<2)=false:=decide_eq_false z2;have E:Hid (xo x=vI x.items):=by rw[Hid];exact UX x (by rw[ru];exact h4) (by omega)
   have HR:Hid (IsRowI H jc jd x.items):=⟨by have:=HX.out.bounds;omega,by have:=HX.out.bounds;omega,fun h=>HX.out.items h⟩
   clear ru cZ h0 h2 h4;go_wp2_with fail
   go_meet
   exact⟨_,_,_,x.items,H,rfl,rfl,oO.out,HR.out,hG,E.out⟩
  have k4:(x.kind != 4)=true:=by rw[ru,bne_iff_ne];exact h4
  have k4':(x.kind=4)=False:=eq_false (by rw[ru];exact h4);have E:Hid (xo x=.error 4):=by rw[Hid];exact g7 x (by rw[ru];exact h0) (.inl (by rw[ru];exact h4))
  clear ru cZ h0 h4;exact jdp
 case rest =>
 obtain⟨LA,lc,ln,L,Hx,rfl,rfl,hL,hr,IS,hE⟩:=hcut;have HL:=Hh hL;have HE:=Hh hE;have HR:=Hh hr;have zAp:(L.length:Int)≤(lc:Int):=by have:=hr.le;omega
 clear hG hB b0 b1 b2 b3 hL hE hr ru cZ;go_wp2_with fail
 go_loopw [5,31] (fun v5 v31 wr=>∃ (i:Nat) (VA:Option Addr) (vc vn:Nat) (a:List Int),i≤L.length∧v31=.int .i64 (i:Int)∧v5=.slice VA vn vc∧vn=a.length∧a.length=i∧vj (L.take i)=some a∧Grows w H wr Hx∧OwnX cJ 3 wr w.heap.size (.slice VA vn vc) Hx a∧(∀ q,(Value.slice VA vn vc).ownBlock=some q→Hx q=none)) (fun _ v31 _=>L.length-(intOf v31).toNat)
 case atStart=>exact⟨0,none,0,0,[],Nat.zero_le _,rfl,rfl,rfl,rfl,rfl,IS,OwnX.nil _ _ _ _ _,by intro q hq;simp[Value.ownBlock]at hq⟩
 case round =>
 clear IS;obtain⟨i,VA,vc,vn,a,hi,rfl,rfl,rfl,As,Rk,oK,xe,qm⟩:=hrel;have HI:=Hh hi;have Km:=Hh Rk;have Ci:=Hh As;clear hi Rk As
 by_cases cZ:i<L.length
 ·have fF:(i:Int)<(L.length:Int):=by omega
  obtain⟨b,off,rfl,mg⟩:=HR.out.elems (by omega);obtain⟨ya,yb,yc,yd,q0,q1,q2,q3,hye⟩:=mg.get i cZ;have p0:=oK.holds.cell q0;have p1:=oK.holds.cell q1;have p2:=oK.holds.cell q2;have p3:=oK.holds.cell q3;have R0:=Hh (fun h=>fT cZ Km.out h);have GH:=Hh (fun v h hv=>eV (v:=v) cZ Km.out h hv);obtain⟨y,hy⟩:∃ y,L[i]=y:=⟨_,rfl⟩
  rw[hy]at p0 p1 p2 p3 R0 GH hye;have Rs:=Hh cZ;have Gn:(i:Int)+1≤9223372036854775807:=by have:=HL.out;omega
  have xO:=Blk.new wr 77 #[.int .i64 0,.int .u64 0,.slice none 0 0,.slice none 0 0];have jk:Hx wr.heap.size=none:=oK.holds.none_of_ge (Nat.le_refl _);have rs:=oK.alloc zf;have zJ:=xe.alloc zf;have tu:=Hh (show ∀ q,(Value.slice VA a.length vc).ownBlock=some q→w.heap.size≤q∧q<wr.heap.size from fun q hq=>xe.lt q hq);have Ox:=Hh oK.size;clear mg q0 q1 q2 q3 hy cZ oK xe;go_wp2_with (with_reducible refine zx ?_)
  refine stI xO fun w3 yE sp=>?_
  have yA:=rs.grownOwn jk Ox.out sp;have tR:=zJ.kl sp (fun q hv=>by have:=(tu.out q hv).2;omega);have b0:=yE.cell 0 rfl;have b1:=yE.cell 1 rfl;have b2:=yE.cell 2 rfl;have b3:=yE.cell 3 rfl;have NM0:=ZV y.kind y.n ya y.bytes.length yb yc y.items.length yd w3;rw[← Qt]at NM0;have NM:=Hh NM0;clear xO rs zJ sp p0 p1 p2 p3 NM0;go_wp2_with fail
  refine NM.out.mono ?_
  rintro e w4 ⟨rfl,xE⟩
  have xK:=yA.below_ xE;have uj:=tR.below xE;clear NM yA tR yE b0 b1 b2 b3 xE
  cases hv:mp y 65535 with
  | none =>
   have E:Hid (xo x=.error 4):=by rw[Hid,HE.out];exact kr (R0.out (.inl hv))
   rw[Rp];exact jdq
  | some v =>
  rw[Rp];have HV:=Hh hv;clear hv
  by_cases hv0:v<0
  ·have v0d:decide (v<0)=true:=decide_eq_true hv0;have E:Hid (xo x=.error 4):=by rw[Hid,HE.out];exact kr (R0.out (.inr ⟨v,HV.out,hv0⟩))
   exact jdq
  have v0d:decide (v<0)=false:=decide_eq_false hv0;have oP:=Hh (GH.out v HV.out (by omega));have xx:=xK.alloc (.cells #[.int .i64 v] 3);have zW:=uj.alloc (.cells #[.int .i64 v] 3);clear hv0 xK uj;go_wp2_with (at_builtin;refine zh ?_)
  refine OwnX.append rfl (.tmp 46) (.tmp 48) 30 rfl Tryz.underlying30 rfl (by omega) Ps rfl zW _ 1 _ [.int .i64 v] [v] rfl rfl (RowC.one rfl) (Src.new _ _ _ _ rfl _ rfl) (by have:=Ci.out;have:=HL.out;have:=HI.out;simp;omega) xx.size fun v' w6 wH vt hat6=>?_
  obtain⟨VA',vc',rfl,_⟩:=wH.form;have uS:=wJ xx.holds qm hat6;have y8:=xx.grownRow qm (fun q hq=>(tu.out q hq).1) vt;have uu:Hid ((a++[v]).length=i+1):=by rw[Hid,List.length_append,Ci.out];rfl
  obtain⟨a',Sm⟩:∃ a',a++[v]=a':=⟨_,rfl⟩
  rw[Sm]at wH uS oP uu⊢;clear Sm xx zW vt hat6;go_wp2_with fail
  go_roundw
  case rel=>exact⟨i+1,VA',vc',_,a',Rs.out,by go_num,rfl,rfl,uu.out,oP.out,y8,wH,uS⟩
  case measure=>have:=Rs.out;simp[intOf];omega
 have fF:¬ ((i:Int)<(L.length:Int)):=by omega
 have hid:decide ((i:Int)<(L.length:Int))=false:=decide_eq_false fF
 have Me:Hid (vj L=some a):=by
  have h:=Km.out;rw[List.take_of_length_le (by omega)]at h
  exact h
 obtain⟨H5,ij,cX,xX,Jf,Sr⟩:=xe.snap oK.holds (fun q hq=>qm q (tA hq));have xv:∀ q,VA.map (·.block)=some q→w.heap.size≤q:=fun q hq=>(xe.lt q (tA hq)).1
 have xx:=oK.snap ij cX xX xv;obtain⟨an,me⟩:∃ an,a.length=an:=⟨_,rfl⟩
 have Hn:=Hh me;have zAx:(an:Int)≤4096:=by have:=HL.out;have:=HI.out;have:=Ci.out;omega
 have zAw:(an:Int)≤(vc:Int):=by have:=Sr.le;omega
 have HIR:=Hh Sr
 have J8:=Hh (show 0<an→∃ b off,VA=some ⟨b,off,none⟩∧∀ j,j<an→wr.cell? ⟨b,off+j,none⟩=some (.int .i64 (a.getD j 0)) from fun h0=>by
  obtain⟨b,off,e,hc⟩:=bk Sr (by omega)
  exact⟨b,off,e,fun j hj=>cX.cell (hc j (by omega))⟩)
 rw[me];clear cZ me oK xe qm xX Sr ij xv;go_wp2_with fail
 go_loopw [53] (fun v53 wx=>wx=wr∧∃ i':Nat,i'≤an∧v53=.int .i64 (i':Int)∧(∀ p j,j<p→p<i'→a.getD j 0≠a.getD p 0)) (fun v53 _=>an-(intOf v53).toNat)
 case atStart=>exact⟨rfl,0,Nat.zero_le _,rfl,fun p j _ hp=>absurd hp (by omega)⟩
 case round =>
 obtain⟨rfl,p,hp,rfl,xp⟩:=hrel;have V9:=Hh xp;have I4:=Hh hp;clear xp hp
 by_cases hpn:p<an
 ·have YO:(p:Int)<(an:Int):=by omega
  obtain⟨b,off,rfl,y7⟩:=J8.out (by omega);have HC:=Hh y7;have q0:=y7 p hpn;obtain⟨v,hv⟩:∃ v,a.getD p 0=v:=⟨_,rfl⟩
  rw[hv]at q0;have HV:=Hh hv;have FA:=Hh hpn;have zAj:(p:Int)+1≤9223372036854775807:=by omega
  have jp:(0:Int)≤(p:Int):=by omega
  have Wb:(p:Int)≤(vc:Int):=by omega
  clear y7 hv hpn;go_wp2_with fail
  go_loopw [62] (fun v62 wx=>wx=wr∧∃ j:Nat,j≤p∧v62=.int .i64 (j:Int)∧(∀ j',j'<j→a.getD j' 0≠v)) (fun v62 _=>p-(intOf v62).toNat)
  case atStart=>exact⟨rfl,0,Nat.zero_le _,rfl,fun j hj=>absurd hj (by omega)⟩
  case round =>
  obtain⟨rfl,j,hj,rfl,Rj⟩:=hrel;have RI:=Hh Rj;have HJ:=Hh hj;clear Rj hj
  by_cases hjp:j<p
  ·have Io:(j:Int)<(p:Int):=by omega
   have p0:=HC.out j (by have:=FA.out;omega);obtain⟨u,hu⟩:∃ u,a.getD j 0=u:=⟨_,rfl⟩
   rw[hu]at p0;have HU:=Hh hu;have Cx:=Hh hjp;have CP:(j:Int)+1≤9223372036854775807:=by omega
   clear hu hjp
   by_cases huv:u=v
   ·have d1:(u==v)=true:=by rw[beq_iff_eq];exact huv
    have d2:(u=v)=True:=eq_true huv
    have E:Hid (xo x=.error 7):=by
     rw[Hid,HE.out]
     exact em Me.out (dv Cx.out (by have:=Hn.out;have:=FA.out;omega) (by rw[HU.out,HV.out];exact huv))
    clear huv;go_wp2_with fail
    go_ret2
    exact IntsOut.err (q:=7) E.out rfl xx.below
   have d1:(u==v)=false:=by rw[beq_eq_false_iff_ne];exact huv
   have d2:(u=v)=False:=eq_false huv;have JG:=Hh huv;clear huv;go_wp2_with fail
   go_roundw
   case rel=>exact⟨by trivial,j+1,Cx.out,by go_num,fun j' hj'=>by
    rcases Nat.lt_succ_iff_lt_or_eq.1 hj' with h | h
    ·exact RI.out j' h
    subst h;rw[HU.out];exact JG.out⟩
   case measure=>have:=Cx.out;simp[intOf];omega
  have Io:¬ ((j:Int)<(p:Int)):=by omega
  have hjd:decide ((j:Int)<(p:Int))=false:=decide_eq_false Io;have Ip:j=p:=by have:=HJ.out;omega
  have Cv:=Hh Ip;clear hjp Ip;go_wp2_with fail
  go_roundw
  case rel=>exact⟨by trivial,p+1,FA.out,by go_num,fun p' j' h1 h2=>by
    rcases Nat.lt_succ_iff_lt_or_eq.1 h2 with h | h
    ·exact V9.out p' j' h1 h
    subst h;rw[HV.out];exact RI.out j' (by rw[Cv.out];exact h1)⟩
  case measure=>have:=FA.out;simp[intOf];omega
 have YO:¬ ((p:Int)<(an:Int)):=by omega
 have hpd:decide ((p:Int)<(an:Int))=false:=decide_eq_false YO
 have HTW:Hid (twice a=false):=by
  rw[Hid]
  exact aC fun p' j' ha hb=>V9.out p' j' ha (by have:=Hn.out;have:=I4.out;omega)
 clear hpn
 by_cases h8:8<an
 ·have z8:(8:Int)<(an:Int):=by omega
  have z8d:decide ((8:Int)<(an:Int))=true:=decide_eq_true z8;have E:Hid (xo x=.error 8):=by rw[Hid,HE.out];exact bQ Me.out HTW.out (by have:=Hn.out;omega)
  clear h8;go_wp2_with fail
  go_ret2
  exact IntsOut.err (q:=8) E.out rfl xx.below
 have z8:¬ ((8:Int)<(an:Int)):=by omega
 have z8d:decide ((8:Int)<(an:Int))=false:=decide_eq_false z8;have E:Hid (xo x=.ok a):=by rw[Hid,HE.out];exact Xb Me.out HTW.out (by have:=Hn.out;omega)
 clear h8;go_wp2_with fail
 go_ret2
 exact IntsOut.ok E.out (by rw[Hn.out];rfl) xx HIR.out
end Go.Proofs.YtkmlnjociijpgaaGreatDoor
