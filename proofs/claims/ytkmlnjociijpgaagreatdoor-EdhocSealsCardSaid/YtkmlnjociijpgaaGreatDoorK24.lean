/- squeezed. Walks: a stream put over bytes; th -/
import Derived.Test.YtkmlnjociijpgaaGreatDoorK23
set_option linter.unusedVariables false
set_option linter.unusedSimpArgs false
set_option maxRecDepth 100000
set_option maxHeartbeats 6400000
namespace Go.Proofs.YtkmlnjociijpgaaGreatDoor
open Go.RowKit
theorem jbo{P:Prop}(h:P:=by have:=f9.out;rw[Hid,List.length_append];simp;omega):P:=h
theorem jcy{P:Prop}(h:P:=by
 go_wp2_with fail
 go_roundw
 case rel=>exact⟨k+1,by go_num,HK.out,uj,xE⟩
 case measure=>have:=HK.out;simp[intOf];omega):P:=h
theorem jdI{P:Prop}(h:P:=by
 go_wp2_with (with_reducible refine zx ?_)
 refine stI hY fun w8 hY8 hg8=>?_
 have ve:=vT.gb iI (Nat.le_of_lt qp.out) yo hg8;have tZ:=wU.grown hg8 (by intro e;injection e with e;have:=qp.out;omega);clear vT wU hY hg8 hY8;go_wp2_with (with_reducible refine zx ?_)
 refine stI tZ fun wz hTy hgz=>?_
 have xr:=ve.gb uS (Nat.le_refl _) yo hgz;exact jai):P:=h
theorem jfj{P:Prop}(h:P:=by have hY:=Blk.new w5 77 #[.int .i64 0,.int .u64 0,.slice none 0 0,.slice none 0 0];have iI:H5 w5.heap.size=none:=xl.psr.holds.none_of_ge (Nat.le_refl _);have qp:=Hh (And.intro vU.lt sy.lt);have tu:=Hh (show ∀ q,(Value.slice VA L.length vc).ownBlock=some q→X+1≤q∧q<w5.heap.size from fun q hq=>wH.lt q hq);have vT:=xl.alloc zf;have wU:=vU.alloc zf;have jn:=sy.alloc zf;have xj:=wH.alloc zf;exact And.intro hY (And.intro iI (And.intro qp (And.intro tu (And.intro vT (And.intro wU (And.intro jn xj))))))):P:=h
theorem jfl{P:Prop}(h:P:=by have ve:=vT.gb iI (Nat.le_of_lt qp.out.1) yo hg8;have tZ:=wU.grown hg8 (by intro e;injection e with e;have:=qp.out.1;omega);have ma:=jn.grown hg8 (by intro e;injection e with e;have:=qp.out.2;omega);have sk:=xj.kl hg8 (fun q hv=>by have:=(tu.out q hv).2;omega);exact And.intro ve (And.intro tZ (And.intro ma sk))):P:=h
theorem jfn{P:Prop}(h:P:=by have hY:=Blk.new w5 77 #[.int .i64 0,.int .u64 0,.slice none 0 0,.slice none 0 0];have iI:H5 w5.heap.size=none:=xl.psr.holds.none_of_ge (Nat.le_refl _);exact And.intro hY iI):P:=h
theorem jfp{P:Prop}(h:P:=by have uB:=rt.grown yn (fun e=>by have:=(tu.out _ e).1;have:=yJ.out;omega);have oC:=sm.grown yn (fun e=>by have:=(tu.out _ e).1;omega);have rZ:=wJ tq.psr.holds qi hat10;have vM:=tq.grownRow qi (fun q hq=>by have:=(tu.out q hq).1;have:=yJ.out;omega) yo yn;exact And.intro uB (And.intro oC (And.intro rZ vM))):P:=h
theorem jfs{P:Prop}(h:P:=by have tq:=ve.alloc (.cells (yu x ja jb jc jd).toArray 77);have rt:=tZ.alloc (.cells (yu x ja jb jc jd).toArray 77);have sm:=ma.alloc (.cells (yu x ja jb jc jd).toArray 77);have sv:=sk.alloc (.cells (yu x ja jb jc jd).toArray 77);exact And.intro tq (And.intro rt (And.intro sm sv))):P:=h
theorem jft{P:Prop}(h:P:=by have vU:=rL.rdg yU (by omega);have uS:=yU.hid jk rL.lt;have sy:=pd.rdg yU (by have:=yJ.out;omega);have kM:=yU.hid mF pd.lt;have wH:=(xe.rdg yU (by have:=yJ.out;omega)).mono yU.grows.le;exact And.intro vU (And.intro uS (And.intro sy (And.intro kM wH)))):P:=h
theorem jfI{P:Prop}(h:P:=by have wY:=Blk.new w3 77 #[.int .i64 0,.int .u64 0,.slice none 0 0,.slice none 0 0];have wE:=wI.alloc zf;have wo:=yE.alloc zf;have yJ:=Hh yE.lt;have mu:H w3.heap.size=none:=wI.psr.holds.none_of_ge (Nat.le_refl _);exact And.intro wY (And.intro wE (And.intro wo (And.intro yJ mu)))):P:=h
theorem jgg{P:Prop}(h:P:=by have wT:=wE.gb mu (Nat.le_of_lt yJ.out) yo hg4;have xG:=wo.grown hg4 (by intro e;injection e with e;have:=yJ.out;omega);exact And.intro wT xG):P:=h
theorem jgz{P:Prop}(h:P:=by have b0:=hY8.cell 0 rfl;have b1:=hY8.cell 1 rfl;have b2:=hY8.cell 2 rfl;have b3:=hY8.cell 3 rfl;exact And.intro b0 (And.intro b1 (And.intro b2 b3))):P:=h
theorem Vm {s b:List UInt8}{i:Nat}(h1:i<(yF s b).length) (h2:i<s.length) (h3:i<b.length):(yF s b)[i]=b[i] ^^^ s[i]:=by
 rw[k9 s b i h3,dif_pos h2]
theorem dQ {s b:List UInt8}{i:Nat}(h1:i<(yF s b).length) (h2:¬ i<s.length) (h3:i<b.length):(yF s b)[i]=b[i]:=by
 rw[k9 s b i h3,dif_neg h2]
theorem Pw {s b:List UInt8}{k:Nat}(h:k=min b.length s.length):(yF s b).take k++b.drop k=yF s b:=by
 have hl:=rO s b;apply List.ext_getElem?
 intro j
 rw[List.getElem?_append,List.length_take,hl]
 by_cases hj:j<k
 ·rw[if_pos (by omega),List.getElem?_take,if_pos hj]
 rw[if_neg (by omega),List.getElem?_drop]
 by_cases hb:j<b.length
 ·rw[show k+(j-min k b.length)=j by omega,List.getElem?_eq_getElem hb,List.getElem?_eq_getElem (by omega),dQ (by omega) (by omega) hb]
 rw[List.getElem?_eq_none (by omega),List.getElem?_eq_none (by omega)]
theorem Jn {SA:Option Addr}{ns sc:Nat}{s:List UInt8}(hn:ns=s.length) {BA:Option Addr}{nb bc:Nat}{b:List UInt8}(hb:nb=b.length) (hl:s.length≤1099511627∧b.length≤1099511627) (w:World) (h1:Src w SA (s.map zu)) (h2:Src w BA (b.map zu)) :
  Calls Tryz.prog 11 #[.slice SA ns sc,.slice BA nb bc] w fun e w'=>∃ r,e=.returned r∧Fresh w (yF s b) r w':=by
 have HN:=Hh (And.intro hn (And.intro hb hl));have H1:=Hh h1;obtain⟨i0,og,n9,rx,oN⟩:=info_parts rX;have CD:nb≤1099511627:=by omega
 clear hn hb hl h1;go_enter Tryz.func11,Tryz.ntmps11
 go_wp2_with (at_make;refine zh ?_)
 refine wpList_make_full _ rfl _ _ 22 rfl w.heap.size 5 i0 _ 1 Tryz.underlying22 og n9 rx _ _ _ _ nb rfl rfl (by omega) (by omega) (by rw[oN];omega) (by simp only[maxLen];omega) (Nat.le_refl _) fun w2 hO hg2=>?_
 have zD:=yW hg2;have oX:=h2.below zD
 have ui:OwnB w2 w.heap.size (.slice (some ⟨w.heap.size,0,none⟩) nb nb) (List.replicate nb 0):=by
  have h:w2.ownsRow w.heap.size 5 1 (.slice (some ⟨w.heap.size,0,none⟩) nb nb) (List.replicate nb (0:UInt8)).length ((List.replicate nb (0:UInt8)).map zu):=by
   exact jdg
  exact h
 clear og n9 rx oN hO hg2 h2;go_wp2_with (with_reducible refine dr ?_)
 refine qV rfl (.tmp 10) (.tmp 11) rfl w.heap.size _ _ _ _ rfl ui BA nb bc b rfl HN.out.2.1 oX (by rw[List.length_replicate];have:=HN.out;omega) w zD fun w3 tR yR=>?_
 have e3:b++(List.replicate nb (0:UInt8)).drop b.length=(yF s b).take 0++b.drop 0:=by rw[List.drop_replicate,← HN.out.2.1,Nat.sub_self];simp
 rw[e3]at tR;obtain⟨lim,Re⟩:∃ x,min nb ns=x:=⟨_,rfl⟩
 have mi:=Hh Re;have HM:=Hh (rO s b);clear ui zD oX e3 Re;go_wp2_with fail
 go_loopw [6] (fun vi wr=>∃ k:Nat,vi=.int .i64 (k:Int)∧k≤lim∧OwnB wr w.heap.size (.slice (some ⟨w.heap.size,0,none⟩) nb nb) ((yF s b).take k++b.drop k)∧Below w.heap.size w wr) (fun vi _=>(lim-intOf vi).toNat)
 case atStart=>exact⟨0,rfl,by omega,tR,yR⟩
 case round =>
 clear tR yR;obtain⟨k,rfl,hk,hO,hb⟩:=hrel;go_upto_region 4 with fail
 go_cut [19] (fun sc wy=>sc=.bool (decide (k<lim))∧OwnB wy w.heap.size (.slice (some ⟨w.heap.size,0,none⟩) nb nb) ((yF s b).take k++b.drop k)∧Below w.heap.size w wy)
 case first =>
  by_cases hm:(ns:Int)<(nb:Int)
  ·go_wp2_with fail
   go_meet
   exact⟨(by rw[show lim=ns by have:=mi.out;omega];try (congr 1;rw[decide_eq_decide];omega)),hO,hb⟩
  go_wp2_with fail
  go_meet
  exact⟨(by rw[show lim=nb by have:=mi.out;omega];try (congr 1;rw[decide_eq_decide];omega)),hO,hb⟩
 case rest =>
 clear hO hb;obtain⟨rfl,hO,hb⟩:=hcut
 by_cases uh:k<lim
 ·rw[decide_eq_true uh];have jF:k<b.length:=by have:=mi.out;have:=HN.out;omega
  have VQ:k<s.length:=by have:=mi.out;have:=HN.out;omega
  have Jb:k<(yF s b).length:=by have:=HM.out;omega
  obtain⟨u,hu⟩:∃ u,b[k]=u:=⟨_,rfl⟩
  obtain⟨v,hv⟩:∃ v,s[k]=v:=⟨_,rfl⟩
  have HG:=Q4 (M:=yF s b) (Z:=b) HM.out jF;have HV:Hid ((yF s b)[k]=u ^^^ v):=by rw[Hid,Vm Jb VQ jF,hu,hv]
  have S1:=Hh (Q5 (M:=yF s b) (Z:=b) HM.out Jb);rw[HV.out]at S1;rw[hu]at HG;have tu:k<((yF s b).take k++b.drop k).length:=by rw[Zn HM.out];exact jF
  obtain⟨gq,cur,e,WS,iY,oT,rq⟩:=hO.store_ (k:=k) tu
  cases e
  have kS:=Hh rq
  have cl:wc.cell? ⟨w.heap.size,k,none⟩=some (zu u):=by
   obtain⟨b0,off,e,hc⟩:=hO.src (by intro h;rw[List.map_eq_nil_iff]at h;rw[h]at tu;simp at tu)
   cases e
   have h:=hc k (zu u) (by rw[List.getElem?_map,HG];rfl);rw[Nat.zero_add]at h
   exact h
  obtain⟨bb,oo,rfl,hc⟩:=(H1.out.below hb) (by intro h;rw[List.map_eq_nil_iff]at h;rw[h]at VQ;simp at VQ)
  have cs:wc.cell? ⟨bb,oo+k,none⟩=some (zu v):=hc k (zu v) (by rw[List.getElem?_map,List.getElem?_eq_getElem VQ,hv];rfl);have X:=Hh (yx u v);have HK:=Hh uh;have lb:(k:Int)<(nb:Int):=by have:=HN.out;omega
  have ls:(k:Int)<(ns:Int):=by have:=HN.out;omega
  have c0:=ua (Below.refl _ wc).drew cl;have c1:=ua (Below.refl _ wc).drew cs;have Mi:=iY.drew;clear hu hv HG HV tu rq hO hc jF VQ Jb uh cl cs iY;go_upto_region 6 with fail
  refine zr 10 (fun wx=>wx.cell? ⟨w.heap.size,k,none⟩=some (zu u)∧wx.cell? ⟨bb,oo+k,none⟩=some (zu v)) (by kernel_rfl) (⟨c0,c1⟩) (fun zy=>?_)
  refine Tk 0 rfl zy ?_
  refine Tk 1 rfl zy ?_
  refine Tk 2 rfl zy ?_
  refine Tk 3 rfl zy ?_
  refine Tk 4 rfl zy ?_
  refine Tk 5 rfl zy ?_
  refine Tk 6 rfl zy ?_
  refine Tk 7 rfl zy ?_
  refine Tk 8 rfl zy ?_
  refine Tk 9 rfl zy ?_
  refine To 10 rfl fun K hK=>?_
  rw[if_pos (by rfl)]
  refine zO _ _ _ rfl w.heap.size k (zu (u ^^^ v)) rfl (by show Value.int .u8 (bits .xor .u8 (u.toNat:Int) (v.toNat:Int))=_;rw[X.out]) _ _ Mi pv oT rfl fun w4 ss hg4=>?_
  refine Kz hK ?_
  clear hK K
  refine Wd ?_
  clear zy;have uj:=kS.out w4 (u ^^^ v) ss;rw[S1.out]at uj;have xE:=zp hb.drew hg4 (by rintro q ⟨⟩;exact WS);clear Mi hg4 hb ss c0 c1 kS;exact jcy
 rw[decide_eq_false uh];obtain rfl:k=lim:=by omega
 have HE:=Hh (Pw (s:=s) (b:=b) (k:=k) (by have:=mi.out;have:=HN.out;omega));have HR:Hid (OwnB wc w.heap.size (.slice (some ⟨w.heap.size,0,none⟩) nb nb) (yF s b)):=by rw[Hid,← HE.out];exact hO
 clear hO;go_wp2_with fail
 go_ret
 exact⟨_,rfl,HR.out,hb⟩
theorem XO {SA:Option Addr}{ns sc:Nat}{s:List UInt8}(hn:ns=s.length) {BA:Option Addr}{nb bc:Nat}{b:List UInt8}(hb:nb=b.length) (hl:s.length≤1099511627∧b.length≤1099511627) (w:World) (h1:Src w SA (s.map zu)) (h2:Src w BA (b.map zu)) :
  Calls Tryz.prog 12 #[.slice SA ns sc,.slice BA nb bc] w fun e w'=>∃ r,e=.returned r∧Fresh w (yF s b) r w':=by
 have HN:=Hh (And.intro hn (And.intro hb hl));have H1:=Hh h1;have H2:=Hh h2;obtain⟨i0,og,n9,rx,oN⟩:=info_parts rX;have CD:nb≤1099511627:=by omega
 clear hn hb hl h1 h2;go_enter Tryz.func12,Tryz.ntmps12
 go_wp2_with (at_make;refine zh ?_)
 refine wpList_make_full _ rfl _ _ 22 rfl w.heap.size 5 i0 _ 1 Tryz.underlying22 og n9 rx _ _ _ _ nb rfl rfl (by omega) (by omega) (by rw[oN];omega) (by simp only[maxLen];omega) (Nat.le_refl _) fun w2 hO hg2=>?_
 have zD:=yW hg2;obtain⟨Z,hZ⟩:∃ Z,List.replicate nb (0:UInt8)=Z:=⟨_,rfl⟩
 have Sh:Hid (Z.length=nb):=by rw[Hid,← hZ,List.length_replicate]
 have ui:OwnB w2 w.heap.size (.slice (some ⟨w.heap.size,0,none⟩) nb nb) Z:=by
  have h:w2.ownsRow w.heap.size 5 1 (.slice (some ⟨w.heap.size,0,none⟩) nb nb) (List.replicate nb (0:UInt8)).length ((List.replicate nb (0:UInt8)).map zu):=by
   exact jdg
  rw[← hZ]
  exact h
 have e3:Z=(yF s b).take 0++Z.drop 0:=by simp
 rw[e3]at ui;have HM:=Hh (rO s b);have HMZ:Hid ((yF s b).length=Z.length):=by rw[Hid,HM.out,Sh.out,HN.out.2.1]
 clear og n9 rx oN hO hg2 hZ e3;go_wp2_with fail
 go_loopw [12] (fun vi wr=>∃ k:Nat,vi=.int .i64 (k:Int)∧k≤nb∧OwnB wr w.heap.size (.slice (some ⟨w.heap.size,0,none⟩) nb nb) ((yF s b).take k++Z.drop k)∧Below w.heap.size w wr) (fun vi _=>(nb-intOf vi).toNat)
 case atStart=>exact⟨0,rfl,by omega,ui,zD⟩
 case round =>
 clear ui zD;obtain⟨k,rfl,hk,hO,hb⟩:=hrel
 by_cases uh:k<nb
 ·have lb:(k:Int)<(nb:Int):=by omega
  have jF:k<b.length:=by have:=HN.out;omega
  have Jb:k<(yF s b).length:=by have:=HM.out;omega
  obtain⟨u,hu⟩:∃ u,b[k]=u:=⟨_,rfl⟩
  have HP:Hid (∀ x,((yF s b).take k++Z.drop k).set k x=(yF s b).take k++x::Z.drop (k+1)):=fun x=>by
   rw[List.set_append_right _ _ (by rw[List.length_take];omega),List.length_take,show k-min k (yF s b).length=0 by omega,List.drop_eq_getElem_cons (by have:=Sh.out;omega),List.set_cons_zero]
  have HQ:Hid (∀ x y,((yF s b).take k++x::Z.drop (k+1)).set k y=(yF s b).take k++y::Z.drop (k+1)):=fun x y=>by
   rw[List.set_append_right _ _ (by rw[List.length_take];omega),List.length_take,show k-min k (yF s b).length=0 by omega,List.set_cons_zero]
  have HR:Hid ((yF s b).take (k+1)++Z.drop (k+1)=(yF s b).take k++(yF s b)[k]::Z.drop (k+1)):=by
   rw[Hid,List.take_succ_eq_append_getElem Jb,List.append_assoc,List.singleton_append]
  have tu:k<((yF s b).take k++Z.drop k).length:=by rw[Zn HMZ.out,Sh.out];exact uh
  obtain⟨gq,cur,e,WS,iY,oT,rq⟩:=hO.store_ (k:=k) tu
  cases e
  have kS:=Hh rq;obtain⟨bb,oo,rfl,hc⟩:=H2.out (by intro h;rw[List.map_eq_nil_iff]at h;rw[h]at jF;simp at jF);have c0:=hc k (zu u) (by rw[List.getElem?_map,List.getElem?_eq_getElem jF,hu];rfl);have C0:=Hh c0;have cb:=(hb.cell (World.block_lt_of_cell? w _ c0)).trans c0;have HK:=Hh uh;have Hw:=Hh (And.intro jF Jb);have HU:=Hh hu;clear hu tu rq hO hc uh c0;go_wp2_with (with_reducible refine zx ?_)
  refine zw rfl _ _ _ rfl rfl w.heap.size k (zu u) rfl rfl _ _ iY pv oT rfl fun w4 ss hg4=>?_
  have uj:=kS.out w4 u ss;rw[HP.out]at uj;have xE:=zp hb hg4 (by rintro q ⟨⟩;exact WS);clear iY hg4 hb ss cb kS oT
  by_cases VQ:k<s.length
  ·have ls:(k:Int)<(ns:Int):=by have:=HN.out;omega
   obtain⟨v,hv⟩:∃ v,s[k]=v:=⟨_,rfl⟩
   have HV:Hid ((yF s b)[k]'Hw.out.2=u ^^^ v):=by rw[Hid,Vm Hw.out.2 VQ Hw.out.1,HU.out,hv]
   have tu:k<((yF s b).take k++u::Z.drop (k+1)).length:=by rw[List.length_append,List.length_take,List.length_cons];have:=Hw.out;omega
   obtain⟨gq,cur,e,WS,iY,oT,rq⟩:=uj.store_ (k:=k) tu
   cases e
   have kS:=Hh rq;have cb:=(xE.cell (World.block_lt_of_cell? w _ C0.out)).trans C0.out;obtain⟨b2,o2,rfl,hc⟩:=(H1.out.below xE) (by intro h;rw[List.map_eq_nil_iff]at h;rw[h]at VQ;simp at VQ)
   have cs:=hc k (zu v) (by rw[List.getElem?_map,List.getElem?_eq_getElem VQ,hv];rfl);have X:=Hh (yx u v);have c0:=ua (Below.refl _ w4).drew cb;have c1:=ua (Below.refl _ w4).drew cs;have Mi:=iY.drew;clear hv VQ tu rq uj hc cb cs iY;go_upto_region 7 with fail
   refine zr 12 (fun wx=>wx.cell? ⟨bb,oo+k,none⟩=some (zu u)∧wx.cell? ⟨b2,o2+k,none⟩=some (zu v)) (by kernel_rfl) (⟨c0,c1⟩) (fun zy=>?_)
   refine Tk 0 rfl zy ?_
   refine Tk 1 rfl zy ?_
   refine Tk 2 rfl zy ?_
   refine Tk 3 rfl zy ?_
   refine Tk 4 rfl zy ?_
   refine Tk 5 rfl zy ?_
   refine Tk 6 rfl zy ?_
   refine Tk 7 rfl zy ?_
   refine Tk 8 rfl zy ?_
   refine Tk 9 rfl zy ?_
   refine Tk 10 rfl zy ?_
   refine Tk 11 rfl zy ?_
   refine To 12 rfl fun K hK=>?_
   rw[if_pos (by rfl)]
   refine zO _ _ _ rfl w.heap.size k (zu (u ^^^ v)) rfl (by show Value.int .u8 (bits .xor .u8 (u.toNat:Int) (v.toNat:Int))=_;rw[X.out]) _ _ Mi pv oT rfl fun w5 ts zK=>?_
   refine Kz hK ?_
   clear hK K
   refine Wd ?_
   clear zy;have zW:=kS.out w5 (u ^^^ v) ts;rw[HQ.out,← HV.out,← HR.out]at zW;have zE:=zp xE.drew zK (by rintro q ⟨⟩;exact WS);clear Mi zK xE ts c0 c1 kS;go_wp2_with fail
   go_roundw
   case rel=>exact⟨k+1,by go_num,HK.out,zW,zE⟩
   case measure=>have:=HK.out;simp[intOf];omega
  have ls:¬ (k:Int)<(ns:Int):=by have:=HN.out;omega
  have HV:Hid ((yF s b)[k]'Hw.out.2=u):=by rw[Hid,dQ Hw.out.2 VQ Hw.out.1,HU.out]
  rw[← HV.out,← HR.out]at uj;clear VQ;exact jcy
 have lb:¬ (k:Int)<(nb:Int):=by omega
 obtain rfl:k=nb:=by omega
 have HE:Hid ((yF s b).take k++Z.drop k=yF s b):=by
  rw[Hid,List.drop_of_length_le (by have:=Sh.out;omega),List.append_nil,List.take_of_length_le (by have:=HM.out;have:=HN.out;omega)]
 rw[HE.out]at hO;clear hk uh;go_wp2_with fail
 go_ret
 exact⟨_,rfl,hO,hb⟩
section
variable {w w':World} {base:Nat} {H:Snap} {l:List Itm}
end
theorem tA {A:Option Addr}{m c q:Nat}(h:A.map (·.block)=some q):(Value.slice A m c).ownBlock=some q:=by cases A <;> simp_all [Value.ownBlock]
theorem tM {H H':Snap}{A:Option Addr}(hf:∀ b o,H' b=some o→H b=some o∨A.map (·.block)=some b) {q:Nat}(h0:H q=none) (hA:A.map (·.block)=some q→False):H' q=none:=by
 cases h:H' q with
 | none=>rfl
 | some o =>
 rcases hf q o h with h1 | h1
 ·rw[h0]at h1;cases h1
 exact(hA h1).elim
theorem wJ {wr:World}{Hr:Snap}(hH:Holds wr Hr) {r0 r:Option Nat}(h0:∀ q,r0=some q→Hr q=none) (h:At0 wr r0 r):∀ q,r=some q→Hr q=none:=fun q hq=>by
 rcases h with h | ⟨g,h1,h2⟩
 ·exact h0 q (by rw[← h,hq])
 rw[hq]at h1;injection h1 with h1;subst h1;exact hH.none_of_ge h2
def PL.pre (L:List Itm) (k0:Nat):PL→PL
 | .err q=>.err q
 | .ok l k c=>.ok (L++l) (k0+k) c
theorem oh {p:List UInt8→Nat→PR}{m:Nat}{b:List UInt8}{cc q:Nat}(L:List Itm) (k0:Nat) (h:p b cc=.err q):(vq p (m+1) b cc).pre L k0=.err q:=by rw[vq,h];rfl
theorem nd {p:List UInt8→Nat→PR}{m:Nat}{b:List UInt8}{cc k c':Nat}{x:Itm}(L:List Itm) (k0:Nat) (h:p b cc=.ok x k c'):(vq p (m+1) b cc).pre L k0=(vq p m (b.drop k) c').pre (L++[x]) (k0+k):=by
 rw[vq,h]
 simp only
 cases vq p m (b.drop k) c' with
 | err q=>rfl
 | ok l k2 c2=>simp[PL.pre,Nat.add_assoc]
theorem lF (r:PL):r.pre [] 0=r:=by cases r <;> simp[PL.pre]
theorem Rdg.snap {T:TypeId}{w w':World}{H H' H'':Snap}{g B:Nat}{A0:Option Addr}{c:Nat}{l:List UInt8}{p cnt:Nat}{A:Option Addr}(h:Rdg T w H w' H' g A0 c l p cnt) (hl:H'.le H'') (hh:Holds w' H'') (hf:∀ b o,H'' b=some o→H' b=some o∨A.map (·.block)=some b)
  (hA:∀ q,A.map (·.block)=some q→B≤q) (hB:w.heap.size≤B) (hg:g<w.heap.size):Rdg T w H w' H'' g A0 c l p cnt:=by
 refine⟨⟨h.grows.grown,h.grows.le.trans hl,hh,fun b o hb=>?_⟩,h.psr.blk,h.psr.bytes.mono hl,hh, ?_,h.psr.le,h.psr.small,h.psr.cnt_le⟩
 ·rcases hf b o hb with h1 | h1
  ·exact h.grows.fresh b o h1
  exact .inr (by have:=hA _ h1;omega)
 cases hx:H'' g with
 | none=>rfl
 | some o =>
 rcases hf g o hx with h1 | h1
 ·rw[h.psr.apart]at h1;cases h1
 have:=hA _ h1;omega
section
variable {d:Nat} {w:World} {H:Snap} {g:Nat} {A:Option Addr} {c:Nat} {l:List UInt8} {p cnt lv:Nat}
theorem QB (ih:aF d) (hTab:Tabs H) (hlv:lv+(d+1)=8) (hP:Psr 167 w g H A c l p cnt) (hc:cnt<256) {f n k:Nat}(hh:zH (l.drop p)=.ok (f,n,k)) (hk:f/32=4):Calls Tryz.prog 134 #[.pointer (some ⟨g,0,none⟩),.int .i64 (lv:Int)] w (ItemOut 167 w H g A c l p (ze (d+1) (l.drop p) cnt)):=by
 obtain⟨yo,xY,xO,wg⟩:=jff;have c2:=jfH;have E0:=Hh (dY d (l.drop p) cnt (by omega) hh hk);have S:(f:Int)/32=4:=by omega
 have OH:¬ ((8:Int)≤(lv:Int)):=by omega
 have KL:=jgL;have Uu:(lv:Int)≤8:=by omega
 have x9:((cnt:Int)==256)=false:=by simp;omega
 obtain⟨xV,KC,HC⟩:=jfh;clear hc;go_enter Tryz.func134,Tryz.ntmps134
 go_wp2_with (with_reducible refine zx ?_)
 refine zw rfl _ _ _ rfl rfl g 2 (.int .i64 ((cnt:Int)+1)) rfl rfl _ _ xY.psr.blk zF (by simp) rfl fun w2 wm xq=>?_
 obtain⟨wC,tX,PH⟩:=jfi;clear xY xO wm xq c2 KC x9 xV;go_wp2_with fail
 refine PH.out.mono ?_
 intro e w3 hs
 rw[HeadSaid,hh]at hs;obtain⟨rfl,ug,yA⟩:=hs;have HS:=ws hh;have se:p+k≤l.length:=by have:=HS.le;rw[List.length_drop]at this;have:=hP.le;omega
 obtain⟨wI,yE,HF⟩:=jfm;clear wC tX ug yA PH HS hh;rw[List.drop_drop]at E0;obtain⟨wY,wE,wo,yJ,mu⟩:=jfI;clear wI yE;go_wp2_with (with_reducible refine zx ?_)
 refine stI wY fun w4 uq hg4=>?_
 obtain⟨wT,xG⟩:=jgg;clear wE wo wY hg4;obtain⟨X,qS⟩:∃ X,w3.heap.size=X:=⟨_,rfl⟩
 rw[qS]at uq mu yJ⊢;clear qS;have Me:=Hh HF.out.n_lt;obtain⟨P,Lu⟩:∃ P,p+k=P:=⟨_,rfl⟩
 rw[Lu]at wT E0;go_wp2_with fail
 go_loopw [7] (fun v7 wr=>∃ (m:Nat) (Hr:Snap) (VA:Option Addr) (vc vn:Nat) (L:List Itm) (k0 cc:Nat),v7=.int .u64 (m:Int)∧m≤n∧vn=L.length∧Rdg 167 w H wr Hr g A c l (P+k0) cc∧Blk wr w.heap.size 77 #[.int .i64 0,.int .u64 0,.slice none 0 0,.slice none 0 0]∧Hr w.heap.size=none∧
  Blk wr X 77 #[.int .i64 4,.int .u64 0,.slice none 0 0,.slice VA vn vc]∧Hr X=none∧OwnI wr (X+1) (.slice VA vn vc) Hr L∧(∀ q,(Value.slice VA vn vc).ownBlock=some q→Hr q=none)∧L.length≤cc∧
  vq (ze d) n (l.drop P) (cnt+1)=(vq (ze d) m (l.drop (P+k0)) cc).pre L k0) (fun v7 _=>(intOf v7).toNat)
 case atStart=>exact⟨n,H,none,0,0,[],0,cnt+1,rfl,Nat.le_refl _,rfl,wT,xG,wg,uq,mu,OwnI.nil _ _ H,by intro q hq;simp[Value.ownBlock]at hq,by simp,by rw[lF];rfl⟩
 case round =>
 clear wT xG uq;obtain⟨m,Hr,VA,vc,vn,L,k0,cc,rfl,It,rfl,tt,rL,jk,pd,mF,xe,qm,WN,sF⟩:=hrel;have us:=Hh sF;have f9:=Hh WN;have Rt:=Hh It;clear sF WN It
 by_cases iM:0<m
 ·obtain⟨m1,rfl⟩:∃ m1,m=m1+1:=⟨m-1,by omega⟩
  have WY:(0:Int)<((m1+1:Nat):Int):=by omega
  have IT:=ih wr Hr g A c l (P+k0) cc (lv+1) (hTab.mono tt.grows.le) (by omega) tt.psr;rw[show((lv+1:Nat):Int)=(lv:Int)+1 by omega]at IT;have ITH:=Hh IT;have Sl:=Hh pd.lt;clear IT;go_wp2_with fail
  refine ITH.out.mono ?_
  intro e w5 hs
  cases hp:ze d (l.drop (P+k0)) cc with
  | err q =>
   rw[hp,ItemOut]at hs;obtain⟨rfl,H5,p5,cnt5,yU⟩:=hs;have sz:((q:Int) != 0)=true:=by rw[bne_iff_ne];have:=zN _ _ _ _ hp;omega
   have oD:=jfy;have E:Hid (ze (d+1) (l.drop p) cnt=.err q):=by rw[Hid,E0.out,us.out,oh L k0 hp]
   have xl:=tt.trans yU;have vU:=rL.rdg yU (by omega);have uS:=yU.hid jk rL.lt;obtain⟨hY,iI⟩:=jfn;have qp:=Hh vU.lt;have vT:=xl.alloc zf;have wU:=vU.alloc zf;clear ITH hp tt yU rL pd xe qm us f9 xl vU;exact jdI
  | ok x k' c' =>
  rw[hp,ItemOut]at hs;obtain⟨ja,jb,jc,jd,H5,rfl,yU,eI⟩:=hs
  have fM:Hid (vq (ze d) n (l.drop P) (cnt+1)=(vq (ze d) m1 (l.drop (P+(k0+k'))) c').pre (L++[x]) (k0+k')):=by
   rw[Hid,us.out,nd L k0 hp,List.drop_drop,Nat.add_assoc]
  have fL:Hid ((L++[x]).length≤c'):=by
   have:=vu d _ _ _ _ _ hp;exact jbo
  have xl:=tt.trans yU;rw[Nat.add_assoc]at xl;have Dp:=xl.psr.cnt_le;obtain⟨vU,uS,sy,kM,wH⟩:=jft;have qi:∀ q,(Value.slice VA L.length vc).ownBlock=some q→H5 q=none:=fun q hq=>yU.hid (qm q hq) (xe.lt q hq).2
  obtain⟨hY,iI,qp,tu,vT,wU,jn,xj⟩:=jfj;have lW:=Hh (show L.length≤256 by have:=fL.out;simp at this;omega);clear ITH hp tt yU rL pd xe qm us f9 xl vU sy wH;go_wp2_with (with_reducible refine zx ?_)
  refine stI hY fun w8 hY8 hg8=>?_
  obtain⟨ve,tZ,ma,sk⟩:=jfl;obtain⟨b0,b1,b2,b3⟩:=jgz;have x3:=ma.cell 3 rfl;obtain⟨tq,rt,sm,sv⟩:=jfs;clear vT wU jn xj hY hg8 ve tZ ma sk;go_wp2_with (at_builtin;refine zh ?_)
  refine xb rfl (.tmp 159) (.tmp 161) rfl (X+1) (.slice VA L.length vc) H5 _ rfl sv _ 1 _ (yu x ja jb jc jd) [x] rfl rfl (ItemsC.one eI) (Src.new _ _ _ _ rfl _ rfl) (by have:=lW.out;simp;omega) sm.lt fun v' w10 wO yn hat10=>?_
  obtain⟨VA',vc',rfl,_⟩:=wO.form;obtain⟨uB,oC,rZ,vM⟩:=jfp;obtain⟨L',oQ⟩:∃ L',L++[x]=L':=⟨_,rfl⟩
  rw[oQ]at wO rZ fM fL⊢;have qk:Hid (L'.length=L.length+1):=by rw[Hid,← oQ];simp
  clear oQ tq rt sm sv yn hat10 x3;have Fv:=Hh (show ∀ q,(Value.slice VA' L'.length vc').ownBlock=some q→X+1≤q from fun q hq=>(wO.lt q hq).1);go_wp2_with (with_reducible refine zx ?_)
  refine zw rfl _ _ _ rfl rfl X 3 _ rfl rfl _ _ oC sT (by simp) rfl fun w11 Up mH=>?_
  have CF:=vM.gb kM (Nat.le_of_lt yJ.out) yo mH;have C5:=uB.grown mH (by intro e;injection e with e;have:=yJ.out;omega)
  have aO:=wO.kept mH (by
   cases hv:(Value.slice VA' L'.length vc').ownBlock with
   | none=>exact .inl rfl
   | some q=>exact .inr (fun e=>by injection e with e;have:=Fv.out q hv;omega))
  have KM:IntKind.u64.wrap (((m1+1:Nat):Int)-1)=(m1:Int):=by rw[show((m1+1:Nat):Int)-1=(m1:Int) by omega,IntKind.wrap_u64];have:=Me.out;have:=Rt.out;omega
  have KM2:IntKind.u64.wrap (m1:Int)=(m1:Int):=by rw[IntKind.wrap_u64];have:=Me.out;have:=Rt.out;omega
  clear vM uB oC wO mH;go_wp2_with fail
  go_roundw
  case rel=>exact⟨m1,H5,VA',vc',_,L',k0+k',c',by first | rfl | (simp;done) | go_num,by have:=Rt.out;omega,rfl,CF,C5,uS,Up,kM,aO,rZ,fL.out,fM.out⟩
  case measure=>simp[intOf];try omega
 have hm:m=0:=by omega
 subst hm
 have E1:Hid (ze (d+1) (l.drop p) cnt=.ok (.mk 4 0 [] L) (k+k0) cc):=by
  rw[Hid,E0.out,us.out,vq];simp[PL.pre]
 obtain⟨H5,ij,cX,xX,Jf,ez,iC,lR⟩:=xe.snap tt.psr.holds (fun q hq=>qm q (tA hq));have xv:∀ q,VA.map (·.block)=some q→X+1≤q:=fun q hq=>(xe.lt q (tA hq)).1
 have VR:H5 w.heap.size=none:=tM xX jk (fun e=>by have:=xv _ e;have:=yJ.out;omega);have xl:Rdg 167 w H wr H5 g A c l (P+k0) cc:=tt.snap (B:=X+1) ij cX xX xv (by have:=yJ.out;omega) yo;have b0:=pd.cell 0 rfl;have b1:=pd.cell 1 rfl;have b2:=pd.cell 2 rfl;have b3:=pd.cell 3 rfl;have fF:IsItem H5 none 0 VA vc (.mk 4 0 [] L):=IsRowI.item ⟨ez,iC,lR⟩ 4 (by omega) 0 (by omega);have I4:=Hh Lu;clear xe xX lR cX ij jk qm xv tt us Lu;go_wp2_with (with_reducible refine zx ?_)
 refine stI rL fun wz hTy hgz=>?_
 have xr:=xl.gb VR (Nat.le_refl _) yo hgz;go_wp2_with fail
 refine zo rfl rfl hTy rfl rfl zj rfl ?_
 exact ItemOut.ok E1.out rfl (by rw[← Nat.add_assoc,I4.out];exact xr) fF
end
end Go.Proofs.YtkmlnjociijpgaaGreatDoor
