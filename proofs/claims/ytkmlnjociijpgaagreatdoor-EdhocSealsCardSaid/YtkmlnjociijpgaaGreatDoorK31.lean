/- squeezed. Walks: reading the first message ( -/
import Derived.Test.YtkmlnjociijpgaaGreatDoorK30
set_option linter.unusedVariables false
set_option linter.unusedSimpArgs false
set_option maxRecDepth 100000
set_option maxHeartbeats 25600000
namespace Go.Proofs.YtkmlnjociijpgaaGreatDoor
open Go.RowKit
theorem jae{P:Prop}(h:P:=by
 refine Tk 0 rfl zy ?_
 refine Tk 1 rfl zy ?_
 refine Tk 2 rfl zy ?_
 refine Tk 3 rfl zy ?_
 refine Tk 4 rfl zy ?_
 refine To 5 rfl fun K hK=>?_
 refine zT _ _ _ rfl _ _ rfl rfl _ _ YL yp rfl (iG _ _ _ _ _ rfl rfl rfl rfl rfl) fun wz hTz hgz=>?_
 have kU:=YJ.grownOwn nTq Ol hgz;have kV:=YK.gr hgz (by omega);go_simp
 refine Ko hK ?_ fun zy=>?_
 ·exact kV.cell 1 rfl
 clear hK K
 refine To 6 rfl fun K hK=>?_
 go_simp
 refine Kz hK ?_
 clear hK K
 refine Wd ?_
 go_wp2_with fail
 refine zo rfl rfl hTz rfl rfl yp rfl ?_
 exact FirstOut.err E.out rfl kU.below):P:=h
theorem jdS{P:Prop}(h:P:=by
 clear hF' zL;have a1:=hR.blk.cell 1 rfl;have yq:((4:Int) != 0)=true:=by first | decide | (rw[bne_iff_ne];have:=HQ.out;omega)
 have yq':((4:Int)=0)=False:=eq_false (by have:=HQ.out;omega);have nTq:=nT;have YJ:=hG.drew;have YL:=hT.drew;have YK:=hR.blk.drew;clear hF hX;go_upto_region 18 with fail
 refine zr 6 (fun w'=>w'.cell? ⟨g,1,none⟩=some (.int .i64 (4:Int))) (by kernel_rfl) (a1) (fun zy=>?_)
 exact jae):P:=h
theorem jf1{P:Prop}(h:P:=by have b0:=hX.cell 0 rfl;have b1:=hX.cell 1 rfl;have b2:=hX.cell 2 rfl;have b3:=hX.cell 3 rfl;exact And.intro b0 (And.intro b1 (And.intro b2 b3))):P:=h
theorem jgH{P:Prop}(h:P:=by have nTq:=nT;have YJ:=hG.drew;have YL:=hT.drew;have YK:=hR.blk.drew;exact And.intro nTq (And.intro YJ (And.intro YL YK))):P:=h
theorem jhv{P:Prop}(h:P:=by have IT:=Hh (tT hR HQ.out);exact IT):P:=h
theorem yp:(Tryz.prog.info? 60).map (·.size)=some 5:=by kernel_rfl
theorem dp:(Tryz.prog.info? 30).map (·.size)=some 1:=by kernel_rfl
theorem uM:(Tryz.prog.info? 39).map (·.size)=some 1:=by kernel_rfl
theorem iG (a b c d e:Value) (ha:a.oneCell'=true) (hb:b.oneCell'=true) (hc:c.oneCell'=true) (hd:d.oneCell'=true) (he:e.oneCell'=true):(#[a,b,c,d,e]:Array Value).all (·.oneCell')=true:=by simp[ha,hb,hc,hd,he]
theorem Tf (x:Itm):x.items.length≤cnt x:=by
 have:=ZT x.items;rw[Qn];omega
abbrev Qy:Value:=.agg #[.int .i64 0,.slice none 0 0,.slice none 0 0,.slice none 0 0,.slice none 0 0]
abbrev sY:Obj:=.cells #[.int .i64 0,.slice none 0 0,.slice none 0 0,.slice none 0 0,.slice none 0 0] 60
theorem Rdr.grown {w w':World}{g k:Nat}{H:Snap}{A:Option Addr}{c:Nat}{l:List UInt8}{q:Nat}(h:Rdr w g H A c l q) (hg:w.grownBy w' (some k)) (hk:k≠g) (hn:H k=none):Rdr w' g H A c l q :=
 ⟨h.blk.grown hg (by intro e;injection e with e;exact hk e),h.bytes,h.holds.grown hg (by rintro q ⟨⟩;exact hn),h.apart⟩
theorem Rdr.alloc {w:World}{g:Nat}{H:Snap}{A:Option Addr}{c:Nat}{l:List UInt8}{q:Nat}(h:Rdr w g H A c l q) (o:Obj):Rdr (w.alloc o) g H A c l q:=((Est.refl h).alloc o).rd
def FirstOut (w:World) (H:Snap) (r:Except Nat First) (e:Ending) (w':World):Prop :=
 match r with
 | .error q=>e=.returned (.tuple #[Qy,.int .i64 (q:Int)])∧Below w.heap.size w w'
 | .ok f=>∃ sa sc ga gc ca cc ea ec H',e=.returned (.tuple #[.agg (qI f.method sa f.suites.length sc ga f.gx.length gc ca f.conn.length cc ea f.ext.length ec),.int .i64 0])∧Grows w H w' H'∧FirstA H' f sa sc ga gc ca cc ea ec
theorem FirstOut.err {w w':World}{H:Snap}{r:Except Nat First}{e:Ending}{q:Nat}(hr:r=.error q) (he:e=.returned (.tuple #[Qy,.int .i64 (q:Int)])) (hb:Below w.heap.size w w'):FirstOut w H r e w':=by
 exact jdA
theorem FirstOut.ok {w w':World}{H H':Snap}{r:Except Nat First}{e:Ending}{f:First}{sa:Option Addr}{sc:Nat}{ga:Option Addr}{gc:Nat}{ca:Option Addr}{cc:Nat}{ea:Option Addr}{ec:Nat}(hr:r=.ok f)
  (he:e=.returned (.tuple #[.agg (qI f.method sa f.suites.length sc ga f.gx.length gc ca f.conn.length cc ea f.ext.length ec),.int .i64 0])) (hG:Grows w H w' H') (hf:FirstA H' f sa sc ga gc ca cc ea ec):FirstOut w H r e w':=by
 subst hr;exact⟨sa,sc,ga,gc,ca,cc,ea,ec,H',he,hG,hf⟩
theorem eP {H:Snap}(hTab:Tabs H) (w:World) (hH:Holds w H) {A:Option Addr}{c:Nat}{l:List UInt8}(hl:IsBytes H A c l) :
  Calls Tryz.prog 36 #[.slice A l.length c] w (FirstOut w H (yS l)):=by
 by_cases hlong:600<l.length
 ·have z:(600:Int)<(l.length:Int):=by omega
  have zd:decide ((600:Int)<(l.length:Int))=true:=decide_eq_true z;have E:Hid (yS l=.error 8):=by rw[Hid];exact eO hlong
  have hT:=Blk.new w 60 #[.int .i64 0,.slice none 0 0,.slice none 0 0,.slice none 0 0,.slice none 0 0];have nT:H w.heap.size=none:=hH.none_of_ge (Nat.le_refl _);have hG:=(Grows.refl hH).alloc sY;clear hlong;go_enter Tryz.func36,Tryz.ntmps36
  go_wp2_with (with_reducible refine zx ?_)
  refine zm rfl _ _ _ rfl rfl _ _ rfl rfl _ _ hT yp rfl (iG _ _ _ _ _ rfl rfl rfl rfl rfl) fun wz hTz hgz=>?_
  have kU:=hG.grownOwn nT (Nat.le_refl _) hgz;go_wp2_with fail
  refine zo rfl rfl hTz rfl rfl yp rfl ?_
  exact FirstOut.err (q:=8) E.out rfl kU.below
 have z:¬ ((600:Int)<(l.length:Int)):=by omega
 have zd:decide ((600:Int)<(l.length:Int))=false:=decide_eq_false z;have Le:=Hh hlong;have nT:H w.heap.size=none:=hH.none_of_ge (Nat.le_refl _);have ng:H (w.heap.size+1)=none:=hH.none_of_ge (Nat.le_succ _);have nF:H (w.heap.size+2)=none:=hH.none_of_ge (by omega);have hG:=(((Grows.refl hH).alloc sY).alloc (.cells (erC A l.length c 0) 94)).alloc sY;have hT:=((Blk.new w 60 #[.int .i64 0,.slice none 0 0,.slice none 0 0,.slice none 0 0,.slice none 0 0]).alloc (.cells (erC A l.length c 0) 94)).alloc sY;have hB:=(Blk.new (w.alloc sY) 94 (erC A l.length c 0)).alloc sY;have hF:=Blk.new ((w.alloc sY).alloc (.cells (erC A l.length c 0) 94)) 60 #[.int .i64 0,.slice none 0 0,.slice none 0 0,.slice none 0 0,.slice none 0 0];rw[show(w.alloc sY).heap.size=w.heap.size+1 by simp]at hB;rw[show((w.alloc sY).alloc (.cells (erC A l.length c 0) 94)).heap.size=w.heap.size+2 by simp]at hF
 have Dj:Blk (((w.alloc sY).alloc (.cells (erC A l.length c 0) 94)).alloc sY) w.heap.size 60 #[.int .i64 0,.slice none 0 0,.slice none 0 0,.slice none 0 0,.slice none 0 0]:=hT;clear hlong z hT;go_enter Tryz.func36,Tryz.ntmps36
 go_upto_region 5 with fail
 generalize ((w.alloc sY).alloc (.cells (erC A l.length c 0) 94)).alloc sY=w1 at hG Dj hB hF⊢
 have hT:=Dj;clear Dj;have hR:Rdr w1 (w.heap.size+1) H A c l 0:=⟨hB,hl,hG.holds,ng⟩
 clear hB ng;obtain⟨T,Id⟩:∃ T,w.heap.size=T:=⟨_,rfl⟩
 obtain⟨g,Dv⟩:∃ g,T+1=g:=⟨_,rfl⟩
 obtain⟨F,AJ⟩:∃ F,g+1=F:=⟨_,rfl⟩
 have JQ:T+2=F:=by omega
 have Ol:w.heap.size≤T:=Nat.le_of_eq Id;have ii:w.heap.size≤g:=by omega
 have lY:w.heap.size≤F:=by omega
 have hTg:T<g:=by omega
 have hgF:g<F:=by omega
 rw[Id,Dv]at hR;rw[Id]at nT nF hT hF;rw[JQ]at nF hF;rw[Id,Dv,AJ];clear Id Dv AJ JQ;have IT:=Hh (bp hTab hR);go_wp2_with fail
 refine IT.out.mono ?_
 intro e w2 hs
 unfold EItem at hs
 clear IT
 cases hp:yz l with
 | err q1 =>
  rw[hp]at hs;obtain⟨rfl,H2,A2,c2,hd⟩:=hs;have E:Hid (yS l=.error q1):=by rw[Hid];exact bC Le.out hp
  have HQ:=Hh (zN _ _ _ _ hp);clear hp;replace hG:=hG.trans_but hd.grows ii;replace nT:=hd.hid nT hT.lt;replace nF:=hd.hid nF hF.lt;replace hT:=hT.est hd (by omega);replace hF:=hF.est hd (by omega);clear hR;have hR:=hd.rd;clear hd;have wY:=jfq;have nX:=hG.holds.none_of_ge (Nat.le_refl w2.heap.size);have DU:=hF.lt;have jD:w.heap.size≤w2.heap.size:=hG.size;replace hG:=hG.alloc zf;replace hR:=hR.alloc zf;replace hT:=hT.alloc zf;replace hF:=hF.alloc zf;go_wp2_with (with_reducible refine zx ?_)
  refine stI wY fun v1 hX zL=>?_
  replace hG:=hG.grownOwn nX jD zL;replace hR:=hR.grown zL (by omega) nX;replace hT:=hT.gr zL (by omega);replace hF:=hF.gr zL (by omega);obtain⟨X,qS⟩:∃ X,w2.heap.size=X:=⟨_,rfl⟩
  rw[qS]at hX nX DU jD⊢;clear qS zL wY;obtain⟨b0,b1,b2,b3⟩:=jf1;go_wp2_with (with_reducible refine zx ?_)
  refine zw rfl _ _ _ rfl rfl F 0 (.int .i64 0) rfl rfl _ _ hF zF (by simp) rfl fun v2 hF' zL=>?_
  replace hG:=hG.grownOwn nF lY zL;replace hR:=hR.grown zL (by omega) nF;replace hT:=hT.gr zL (by omega);replace hX:=hX.gr zL (by omega);replace hF:Blk v2 F 60 #[.int .i64 0,.slice none 0 0,.slice none 0 0,.slice none 0 0,.slice none 0 0]:=hF';clear hF' zL;clear b0 b1 b2 b3;have IT:=Hh (qX hR HQ.out);go_wp2_with fail
  refine IT.out.mono ?_
  rintro e v3 ⟨rfl,hd⟩
  clear IT;replace hG:=hG.trans_but hd.grows ii;replace nT:=hd.hid nT hT.lt;replace nF:=hd.hid nF hF.lt;replace hT:=hT.est hd (by omega);replace hF:=hF.est hd (by omega);replace nX:=hd.hid nX hX.lt;replace hX:=hX.est hd (by omega);have hR:=hd.rd;clear hd;go_wp2_with (with_reducible refine zx ?_)
  refine stI hX fun v4 fD zL=>?_
  replace hG:=hG.grownOwn nX jD zL;replace hR:=hR.grown zL (by omega) nX;replace hT:=hT.gr zL (by omega);replace hF:=hF.gr zL (by omega);replace hX:=fD;clear fD zL;have a1:=jfP;have zq:((q1:Int)==0)=false:=by first | decide | (have:=HQ.out;simp;omega)
  have zq':((q1:Int)=0)=False:=eq_false (by have:=HQ.out;omega);have IT:=Hh (t6 hR HQ.out);go_wp2_with fail
  refine IT.out.mono ?_
  rintro e v5 ⟨rfl,hd⟩
  clear IT;(try clear a1)
  replace hG:=hG.trans_but hd.grows ii;replace nT:=hd.hid nT hT.lt;replace nF:=hd.hid nF hF.lt;replace hT:=hT.est hd (by omega);replace hF:=hF.est hd (by omega);replace nX:=hd.hid nX hX.lt;replace hX:=hX.est hd (by omega);have hR:=hd.rd;clear hd;go_wp2_with (with_reducible refine zx ?_)
  refine zw rfl _ _ _ rfl rfl F 2 (.slice none 0 0) rfl rfl _ _ hF yY (by simp) rfl fun v6 hF' zL=>?_
  replace hG:=hG.grownOwn nF lY zL;replace hR:=hR.grown zL (by omega) nF;replace hT:=hT.gr zL (by omega);replace hX:=hX.gr zL (by omega);replace hF:Blk v6 F 60 #[.int .i64 0,.slice none 0 0,.slice none 0 0,.slice none 0 0,.slice none 0 0]:=hF';clear hF' zL;have IT:=Hh (tH hR HQ.out);go_wp2_with fail
  refine IT.out.mono ?_
  rintro e v7 ⟨rfl,rfl⟩
  clear IT;go_wp2_with (with_reducible refine zx ?_)
  refine zw rfl _ _ _ rfl rfl F 3 (.slice none 0 0) rfl rfl _ _ hF yY (by simp) rfl fun v8 hF' zL=>?_
  replace hG:=hG.grownOwn nF lY zL;replace hR:=hR.grown zL (by omega) nF;replace hT:=hT.gr zL (by omega);replace hX:=hX.gr zL (by omega);replace hF:Blk v8 F 60 #[.int .i64 0,.slice none 0 0,.slice none 0 0,.slice none 0 0,.slice none 0 0]:=hF';clear hF' zL;have IT:=jhv;go_wp2_with fail
  refine IT.out.mono ?_
  rintro e v9 ⟨rfl,rfl⟩
  clear IT;go_wp2_with (with_reducible refine zx ?_)
  refine zw rfl _ _ _ rfl rfl F 4 (.slice none 0 0) rfl rfl _ _ hF uM (by simp) rfl fun v10 hF' zL=>?_
  replace hG:=hG.grownOwn nF lY zL;replace hR:=hR.grown zL (by omega) nF;replace hT:=hT.gr zL (by omega);replace hX:=hX.gr zL (by omega);replace hF:Blk v10 F 60 #[.int .i64 0,.slice none 0 0,.slice none 0 0,.slice none 0 0,.slice none 0 0]:=hF';clear hF' zL;have a1:=jfP;have yq:((q1:Int) != 0)=true:=by first | decide | (rw[bne_iff_ne];have:=HQ.out;omega)
  have yq':((q1:Int)=0)=False:=eq_false (by have:=HQ.out;omega);obtain⟨nTq,YJ,YL,YK⟩:=jgH;clear hF hX;go_upto_region 18 with fail
  refine zr 6 (fun w'=>w'.cell? ⟨g,1,none⟩=some (.int .i64 (q1:Int))) (by kernel_rfl) (a1) (fun zy=>?_)
  exact jae
 | ok x k1 m1 =>
 rw[hp]at hs;obtain⟨ja,jb,jc,jd,H2,A2,c2,rfl,hd,hi⟩:=hs;replace hG:=hG.trans_but hd.grows ii;replace nT:=hd.hid nT hT.lt;replace nF:=hd.hid nF hF.lt;replace hT:=hT.est hd (by omega);replace hF:=hF.est hd (by omega);clear hR;have hR:=hd.rd;have HP:=Hh hp;have iy:=Hh hd.grows.le;have zA3:=Hh (vO hp).1;have HXN:=Hh hi.bounds.2.2.1;clear hd hp;have wY:=jfq;have nX:=hG.holds.none_of_ge (Nat.le_refl w2.heap.size);have DU:=hF.lt;have jD:w.heap.size≤w2.heap.size:=hG.size;replace hG:=hG.alloc zf;replace hR:=hR.alloc zf;replace hT:=hT.alloc zf;replace hF:=hF.alloc zf;go_wp2_with (with_reducible refine zx ?_)
 refine stI wY fun v11 hX zL=>?_
 replace hG:=hG.grownOwn nX jD zL;replace hR:=hR.grown zL (by omega) nX;replace hT:=hT.gr zL (by omega);replace hF:=hF.gr zL (by omega);obtain⟨X,qS⟩:∃ X,w2.heap.size=X:=⟨_,rfl⟩
 rw[qS]at hX nX DU jD⊢;clear qS zL wY;obtain⟨b0,b1,b2,b3⟩:=jf1;obtain⟨kd,ru⟩:∃ kd,x.kind=kd:=⟨_,rfl⟩
 obtain⟨xn,fJ⟩:∃ xn,x.n=xn:=⟨_,rfl⟩
 rw[ru]at b0;rw[fJ]at b1;have V8:=Hh (And.intro ru fJ);rw[fJ]at HXN;obtain⟨cv,hcv⟩:∃ cv,IntKind.i64.wrap (xn:Int)=cv:=⟨_,rfl⟩
 clear ru fJ
 by_cases h0:kd=0
 case neg =>
  have k0:(kd != 0)=true:=by rw[bne_iff_ne];exact h0
  have k0':(kd=0)=False:=eq_false h0;have E:Hid (yS l=.error 4):=by rw[Hid];exact mP Le.out HP.out (.inl (by rw[V8.out.1];exact h0))
  have HQ:Hid ((4:Nat)≠0):=by rw[Hid];omega
  clear h0;have FL0:=pL hR.blk 4;rw[if_pos rfl]at FL0;have FL:=Hh FL0;clear FL0;go_wp2_with fail
  refine FL.out.mono ?_
  rintro e v12 ⟨⟨vv,rfl⟩,YH,zL⟩
  clear FL;replace hG:=hG.grownOwn hR.apart ii zL;have Ry:Rdr v12 g _ _ _ _ _:=⟨YH,hR.bytes,hG.holds,hR.apart⟩
  replace hT:=hT.gr zL (by omega);replace hF:=hF.gr zL (by omega);replace hX:=hX.gr zL (by omega);replace hR:=Ry;clear Ry YH zL;clear b0 b1 b2 b3;obtain⟨b0,b1,b2,b3⟩:=jf1;have YS:=V8.out.2;rw[YS]at b1;clear YS;go_wp2_with (with_reducible refine zx ?_)
  refine zw rfl _ _ _ rfl rfl F 0 (.int .i64 cv) rfl rfl _ _ hF zF (by simp) rfl fun v13 hF' zL=>?_
  replace hG:=hG.grownOwn nF lY zL;replace hR:=hR.grown zL (by omega) nF;replace hT:=hT.gr zL (by omega);replace hX:=hX.gr zL (by omega);replace hF:Blk v13 F 60 #[.int .i64 cv,.slice none 0 0,.slice none 0 0,.slice none 0 0,.slice none 0 0]:=hF';clear hF' zL;clear b0 b1 b2 b3;have IT:=Hh (qX hR HQ.out);go_wp2_with fail
  refine IT.out.mono ?_
  rintro e v14 ⟨rfl,hd⟩
  clear IT;replace hG:=hG.trans_but hd.grows ii;replace nT:=hd.hid nT hT.lt;replace nF:=hd.hid nF hF.lt;replace hT:=hT.est hd (by omega);replace hF:=hF.est hd (by omega);replace nX:=hd.hid nX hX.lt;replace hX:=hX.est hd (by omega);have hR:=hd.rd;clear hd;go_wp2_with (with_reducible refine zx ?_)
  refine stI hX fun v15 fD zL=>?_
  replace hG:=hG.grownOwn nX jD zL;replace hR:=hR.grown zL (by omega) nX;replace hT:=hT.gr zL (by omega);replace hF:=hF.gr zL (by omega);replace hX:=fD;clear fD zL;have a1:=jfP;have zq:((4:Int)==0)=false:=by first | decide | (have:=HQ.out;simp;omega)
  have zq':((4:Int)=0)=False:=eq_false (by have:=HQ.out;omega);have IT:=Hh (t6 hR HQ.out);go_wp2_with fail
  refine IT.out.mono ?_
  rintro e v16 ⟨rfl,hd⟩
  clear IT;(try clear a1)
  replace hG:=hG.trans_but hd.grows ii;replace nT:=hd.hid nT hT.lt;replace nF:=hd.hid nF hF.lt;replace hT:=hT.est hd (by omega);replace hF:=hF.est hd (by omega);replace nX:=hd.hid nX hX.lt;replace hX:=hX.est hd (by omega);have hR:=hd.rd;clear hd;go_wp2_with (with_reducible refine zx ?_)
  refine zw rfl _ _ _ rfl rfl F 2 (.slice none 0 0) rfl rfl _ _ hF yY (by simp) rfl fun v17 hF' zL=>?_
  replace hG:=hG.grownOwn nF lY zL;replace hR:=hR.grown zL (by omega) nF;replace hT:=hT.gr zL (by omega);replace hX:=hX.gr zL (by omega);replace hF:Blk v17 F 60 #[.int .i64 cv,.slice none 0 0,.slice none 0 0,.slice none 0 0,.slice none 0 0]:=hF';clear hF' zL;have IT:=Hh (tH hR HQ.out);go_wp2_with fail
  refine IT.out.mono ?_
  rintro e v18 ⟨rfl,rfl⟩
  clear IT;go_wp2_with (with_reducible refine zx ?_)
  refine zw rfl _ _ _ rfl rfl F 3 (.slice none 0 0) rfl rfl _ _ hF yY (by simp) rfl fun v19 hF' zL=>?_
  replace hG:=hG.grownOwn nF lY zL;replace hR:=hR.grown zL (by omega) nF;replace hT:=hT.gr zL (by omega);replace hX:=hX.gr zL (by omega);replace hF:Blk v19 F 60 #[.int .i64 cv,.slice none 0 0,.slice none 0 0,.slice none 0 0,.slice none 0 0]:=hF';clear hF' zL;have IT:=jhv;go_wp2_with fail
  refine IT.out.mono ?_
  rintro e v20 ⟨rfl,rfl⟩
  clear IT;go_wp2_with (with_reducible refine zx ?_)
  refine zw rfl _ _ _ rfl rfl F 4 (.slice none 0 0) rfl rfl _ _ hF uM (by simp) rfl fun v21 hF' zL=>?_
  replace hG:=hG.grownOwn nF lY zL;replace hR:=hR.grown zL (by omega) nF;replace hT:=hT.gr zL (by omega);replace hX:=hX.gr zL (by omega);replace hF:Blk v21 F 60 #[.int .i64 cv,.slice none 0 0,.slice none 0 0,.slice none 0 0,.slice none 0 0]:=hF';exact jdS
 have k0:(kd != 0)=false:=by rw[bne_eq_false_iff_eq];exact h0
 have k0':(kd=0)=True:=eq_true h0
 by_cases h3:3<xn
 ·have z3:(3:Int)<(xn:Int):=by omega
  have z3d:decide ((3:Int)<(xn:Int))=true:=decide_eq_true z3;have E:Hid (yS l=.error 4):=by rw[Hid];exact mP Le.out HP.out (.inr (by rw[V8.out.2];exact h3))
  have HQ:Hid ((4:Nat)≠0):=by rw[Hid];omega
  clear h0 h3;have FL0:=pL hR.blk 4;rw[if_pos rfl]at FL0;have FL:=Hh FL0;clear FL0;go_wp2_with fail
  refine FL.out.mono ?_
  rintro e v22 ⟨⟨vv,rfl⟩,YH,zL⟩
  clear FL;replace hG:=hG.grownOwn hR.apart ii zL;have Ry:Rdr v22 g _ _ _ _ _:=⟨YH,hR.bytes,hG.holds,hR.apart⟩
  replace hT:=hT.gr zL (by omega);replace hF:=hF.gr zL (by omega);replace hX:=hX.gr zL (by omega);replace hR:=Ry;clear Ry YH zL;clear b0 b1 b2 b3;obtain⟨b0,b1,b2,b3⟩:=jf1;have YS:=V8.out.2;rw[YS]at b1;clear YS;go_wp2_with (with_reducible refine zx ?_)
  refine zw rfl _ _ _ rfl rfl F 0 (.int .i64 cv) rfl rfl _ _ hF zF (by simp) rfl fun v23 hF' zL=>?_
  replace hG:=hG.grownOwn nF lY zL;replace hR:=hR.grown zL (by omega) nF;replace hT:=hT.gr zL (by omega);replace hX:=hX.gr zL (by omega);replace hF:Blk v23 F 60 #[.int .i64 cv,.slice none 0 0,.slice none 0 0,.slice none 0 0,.slice none 0 0]:=hF';clear hF' zL;clear b0 b1 b2 b3;have IT:=Hh (qX hR HQ.out);go_wp2_with fail
  refine IT.out.mono ?_
  rintro e v24 ⟨rfl,hd⟩
  clear IT;replace hG:=hG.trans_but hd.grows ii;replace nT:=hd.hid nT hT.lt;replace nF:=hd.hid nF hF.lt;replace hT:=hT.est hd (by omega);replace hF:=hF.est hd (by omega);replace nX:=hd.hid nX hX.lt;replace hX:=hX.est hd (by omega);have hR:=hd.rd;clear hd;go_wp2_with (with_reducible refine zx ?_)
  refine stI hX fun v25 fD zL=>?_
  replace hG:=hG.grownOwn nX jD zL;replace hR:=hR.grown zL (by omega) nX;replace hT:=hT.gr zL (by omega);replace hF:=hF.gr zL (by omega);replace hX:=fD;clear fD zL;have a1:=jfP;have zq:((4:Int)==0)=false:=by first | decide | (have:=HQ.out;simp;omega)
  have zq':((4:Int)=0)=False:=eq_false (by have:=HQ.out;omega);have IT:=Hh (t6 hR HQ.out);go_wp2_with fail
  refine IT.out.mono ?_
  rintro e v26 ⟨rfl,hd⟩
  clear IT;(try clear a1)
  replace hG:=hG.trans_but hd.grows ii;replace nT:=hd.hid nT hT.lt;replace nF:=hd.hid nF hF.lt;replace hT:=hT.est hd (by omega);replace hF:=hF.est hd (by omega);replace nX:=hd.hid nX hX.lt;replace hX:=hX.est hd (by omega);have hR:=hd.rd;clear hd;go_wp2_with (with_reducible refine zx ?_)
  refine zw rfl _ _ _ rfl rfl F 2 (.slice none 0 0) rfl rfl _ _ hF yY (by simp) rfl fun v27 hF' zL=>?_
  replace hG:=hG.grownOwn nF lY zL;replace hR:=hR.grown zL (by omega) nF;replace hT:=hT.gr zL (by omega);replace hX:=hX.gr zL (by omega);replace hF:Blk v27 F 60 #[.int .i64 cv,.slice none 0 0,.slice none 0 0,.slice none 0 0,.slice none 0 0]:=hF';clear hF' zL;have IT:=Hh (tH hR HQ.out);go_wp2_with fail
  refine IT.out.mono ?_
  rintro e v28 ⟨rfl,rfl⟩
  clear IT;go_wp2_with (with_reducible refine zx ?_)
  refine zw rfl _ _ _ rfl rfl F 3 (.slice none 0 0) rfl rfl _ _ hF yY (by simp) rfl fun v29 hF' zL=>?_
  replace hG:=hG.grownOwn nF lY zL;replace hR:=hR.grown zL (by omega) nF;replace hT:=hT.gr zL (by omega);replace hX:=hX.gr zL (by omega);replace hF:Blk v29 F 60 #[.int .i64 cv,.slice none 0 0,.slice none 0 0,.slice none 0 0,.slice none 0 0]:=hF';clear hF' zL;have IT:=jhv;go_wp2_with fail
  refine IT.out.mono ?_
  rintro e v30 ⟨rfl,rfl⟩
  clear IT;go_wp2_with (with_reducible refine zx ?_)
  refine zw rfl _ _ _ rfl rfl F 4 (.slice none 0 0) rfl rfl _ _ hF uM (by simp) rfl fun v31 hF' zL=>?_
  replace hG:=hG.grownOwn nF lY zL;replace hR:=hR.grown zL (by omega) nF;replace hT:=hT.gr zL (by omega);replace hX:=hX.gr zL (by omega);replace hF:Blk v31 F 60 #[.int .i64 cv,.slice none 0 0,.slice none 0 0,.slice none 0 0,.slice none 0 0]:=hF';exact jdS
 have z3:¬ ((3:Int)<(xn:Int)):=by omega
 have z3d:decide ((3:Int)<(xn:Int))=false:=decide_eq_false z3;have hcx:cv=(xn:Int):=by rw[← hcv];exact IntWalk.i64_in _ (by omega)
 have E0:Hid (yS l=d1 (xn:Int) (l.drop k1)):=by
  rw[Hid,Yh Le.out HP.out (by rw[V8.out.1,V8.out.2];omega),V8.out.2]
 clear h0 h3;subst hcx;go_wp2_with (with_reducible refine zx ?_)
 refine zw rfl _ _ _ rfl rfl F 0 (.int .i64 (xn:Int)) rfl rfl _ _ hF zF (by simp) rfl fun v32 hF' zL=>?_
 replace hG:=hG.grownOwn nF lY zL;replace hR:=hR.grown zL (by omega) nF;replace hT:=hT.gr zL (by omega);replace hX:=hX.gr zL (by omega);replace hF:Blk v32 F 60 #[.int .i64 (xn:Int),.slice none 0 0,.slice none 0 0,.slice none 0 0,.slice none 0 0]:=hF';clear hF' zL;clear b0 b1 b2 b3;obtain⟨l1,Ss⟩:∃ l1,l.drop k1=l1:=⟨_,rfl⟩
 have I0:Hid (l1.length≤600):=by rw[Hid,← Ss,List.length_drop];have:=Le.out;omega
 rw[Ss]at hR E0;clear Ss k0 k0' z3 z3d;have IT:=Hh (bp (hTab.mono iy.out) hR);go_wp2_with fail
 refine IT.out.mono ?_
 intro e w3 hs
 unfold EItem at hs
 clear IT
 cases hp:yz l1 with
 | err q2 =>
  rw[hp]at hs;obtain⟨rfl,H3,A3,c3,hd⟩:=hs;have E:Hid (yS l=.error q2):=by rw[Hid,E0.out,d1,hp]
  have HQ:=Hh (zN _ _ _ _ hp);clear hp;replace hG:=hG.trans_but hd.grows ii;replace nT:=hd.hid nT hT.lt;replace nF:=hd.hid nF hF.lt;replace hT:=hT.est hd (by omega);replace hF:=hF.est hd (by omega);replace nX:=hd.hid nX hX.lt;replace hX:=hX.est hd (by omega);clear hR;have hR:=hd.rd;clear hd;go_wp2_with (with_reducible refine zx ?_)
  refine stI hX fun v33 fD zL=>?_
  replace hG:=hG.grownOwn nX jD zL;replace hR:=hR.grown zL (by omega) nX;replace hT:=hT.gr zL (by omega);replace hF:=hF.gr zL (by omega);replace hX:=fD;clear fD zL;have a1:=jfP;have zq:((q2:Int)==0)=false:=by have:=HQ.out;simp;omega
  have zq':((q2:Int)=0)=False:=eq_false (by have:=HQ.out;omega);have IT:=Hh (t6 hR HQ.out);go_wp2_with fail
  refine IT.out.mono ?_
  rintro e v34 ⟨rfl,hd⟩
  clear IT;(try clear a1)
  replace hG:=hG.trans_but hd.grows ii;replace nT:=hd.hid nT hT.lt;replace nF:=hd.hid nF hF.lt;replace hT:=hT.est hd (by omega);replace hF:=hF.est hd (by omega);replace nX:=hd.hid nX hX.lt;replace hX:=hX.est hd (by omega);have hR:=hd.rd;clear hd;go_wp2_with (with_reducible refine zx ?_)
  refine zw rfl _ _ _ rfl rfl F 2 (.slice none 0 0) rfl rfl _ _ hF yY (by simp) rfl fun v35 hF' zL=>?_
  replace hG:=hG.grownOwn nF lY zL;replace hR:=hR.grown zL (by omega) nF;replace hT:=hT.gr zL (by omega);replace hX:=hX.gr zL (by omega);replace hF:Blk v35 F 60 #[.int .i64 (xn:Int),.slice none 0 0,.slice none 0 0,.slice none 0 0,.slice none 0 0]:=hF';clear hF' zL;have IT:=Hh (tH hR HQ.out);go_wp2_with fail
  refine IT.out.mono ?_
  rintro e v36 ⟨rfl,rfl⟩
  clear IT;go_wp2_with (with_reducible refine zx ?_)
  refine zw rfl _ _ _ rfl rfl F 3 (.slice none 0 0) rfl rfl _ _ hF yY (by simp) rfl fun v37 hF' zL=>?_
  replace hG:=hG.grownOwn nF lY zL;replace hR:=hR.grown zL (by omega) nF;replace hT:=hT.gr zL (by omega);replace hX:=hX.gr zL (by omega);replace hF:Blk v37 F 60 #[.int .i64 (xn:Int),.slice none 0 0,.slice none 0 0,.slice none 0 0,.slice none 0 0]:=hF';clear hF' zL;have IT:=jhv;go_wp2_with fail
  refine IT.out.mono ?_
  rintro e v38 ⟨rfl,rfl⟩
  clear IT;go_wp2_with (with_reducible refine zx ?_)
  refine zw rfl _ _ _ rfl rfl F 4 (.slice none 0 0) rfl rfl _ _ hF uM (by simp) rfl fun v39 hF' zL=>?_
  replace hG:=hG.grownOwn nF lY zL;replace hR:=hR.grown zL (by omega) nF;replace hT:=hT.gr zL (by omega);replace hX:=hX.gr zL (by omega);replace hF:Blk v39 F 60 #[.int .i64 (xn:Int),.slice none 0 0,.slice none 0 0,.slice none 0 0,.slice none 0 0]:=hF';clear hF' zL;have a1:=jfP;have yq:((q2:Int) != 0)=true:=by first | decide | (rw[bne_iff_ne];have:=HQ.out;omega)
  have yq':((q2:Int)=0)=False:=eq_false (by have:=HQ.out;omega);obtain⟨nTq,YJ,YL,YK⟩:=jgH;clear hF hX;go_upto_region 18 with fail
  refine zr 6 (fun w'=>w'.cell? ⟨g,1,none⟩=some (.int .i64 (q2:Int))) (by kernel_rfl) (a1) (fun zy=>?_)
  exact jae
 | ok y k2 m2 =>
 rw[hp]at hs;obtain⟨ka,kb,kc,kd2,H3,A3,c3,rfl,hd,hi3⟩:=hs;replace hG:=hG.trans_but hd.grows ii;replace nT:=hd.hid nT hT.lt;replace nF:=hd.hid nF hF.lt;replace hT:=hT.est hd (by omega);replace hF:=hF.est hd (by omega);replace nX:=hd.hid nX hX.lt;replace hX:=hX.est hd (by omega);clear hR;have hR:=hd.rd;have HP2:=Hh hp;have Ny:=Hh (iy.out.trans hd.grows.le);have oO:=Hh (show y.items.length≤4096 by have h1:=(vO hp).2.2.2.2.2.2;have:=Tf y;omega);clear hd hp;go_wp2_with (with_reducible refine zx ?_)
 refine stI hX fun v40 fD zL=>?_
 replace hG:=hG.grownOwn nX jD zL;replace hR:=hR.grown zL (by omega) nX;replace hT:=hT.gr zL (by omega);replace hF:=hF.gr zL (by omega);replace hX:=fD;clear fD zL;obtain⟨b0,b1,b2,b3⟩:=jf1;have a1:=jfP;have SU:=Hh (fun(W:World) (hW:Holds W H3)=>Pn W hW hi3 oO.out);obtain⟨l2,oW⟩:∃ l2,l1.drop k2=l2:=⟨_,rfl⟩
 have uz:Hid (l2.length≤600):=by rw[Hid,← oW,List.length_drop];have:=I0.out;omega
 have E1:Hid (yS l=match xo y with | .error e=>.error e | .ok su=>d2 (xn:Int) su l2):=by rw[Hid,E0.out,d1,HP2.out,← oW];simp only;cases xo y <;> rfl
 rw[oW]at hR;clear oW E0;go_wp2_with fail
 refine(SU.out _ hG.holds).mono ?_
 intro e w4 hs
 unfold IntsOut at hs
 clear SU b0 b1 b2 b3 a1
 cases hsu:xo y with
 | error q3 =>
  rw[hsu]at hs;obtain⟨rfl,hb⟩:=hs;have E:Hid (yS l=.error q3):=by rw[Hid,E1.out,hsu]
  have HQ:=Hh (ZH hsu);clear hsu E1;have hd:=(Est.refl hR).below_ hb;replace hG:=hG.trans_but hd.grows ii;replace nT:=hd.hid nT hT.lt;replace nF:=hd.hid nF hF.lt;replace hT:=hT.est hd (by omega);replace hF:=hF.est hd (by omega);replace nX:=hd.hid nX hX.lt;replace hX:=hX.est hd (by omega);clear hR;have hR:=hd.rd;clear hd hb;have FL0:=pL hR.blk q3;rw[if_pos rfl]at FL0;have FL:=Hh FL0;clear FL0;go_wp2_with fail
  refine FL.out.mono ?_
  rintro e v41 ⟨⟨vv,rfl⟩,YH,zL⟩
  clear FL;replace hG:=hG.grownOwn hR.apart ii zL;have Ry:Rdr v41 g _ _ _ _ _:=⟨YH,hR.bytes,hG.holds,hR.apart⟩
  replace hT:=hT.gr zL (by omega);replace hF:=hF.gr zL (by omega);replace hX:=hX.gr zL (by omega);replace hR:=Ry;clear Ry YH zL;go_wp2_with (with_reducible refine zx ?_)
  refine zw rfl _ _ _ rfl rfl F 1 (.slice none 0 0) rfl rfl _ _ hF dp (by simp) rfl fun v42 hF' zL=>?_
  replace hG:=hG.grownOwn nF lY zL;replace hR:=hR.grown zL (by omega) nF;replace hT:=hT.gr zL (by omega);replace hX:=hX.gr zL (by omega);replace hF:Blk v42 F 60 #[.int .i64 (xn:Int),.slice none 0 0,.slice none 0 0,.slice none 0 0,.slice none 0 0]:=hF';clear hF' zL;have IT:=Hh (t6 hR HQ.out);go_wp2_with fail
  refine IT.out.mono ?_
  rintro e v43 ⟨rfl,hd⟩
  clear IT;(try clear a1)
  replace hG:=hG.trans_but hd.grows ii;replace nT:=hd.hid nT hT.lt;replace nF:=hd.hid nF hF.lt;replace hT:=hT.est hd (by omega);replace hF:=hF.est hd (by omega);replace nX:=hd.hid nX hX.lt;replace hX:=hX.est hd (by omega);have hR:=hd.rd;clear hd;go_wp2_with (with_reducible refine zx ?_)
  refine zw rfl _ _ _ rfl rfl F 2 (.slice none 0 0) rfl rfl _ _ hF yY (by simp) rfl fun v44 hF' zL=>?_
  replace hG:=hG.grownOwn nF lY zL;replace hR:=hR.grown zL (by omega) nF;replace hT:=hT.gr zL (by omega);replace hX:=hX.gr zL (by omega);replace hF:Blk v44 F 60 #[.int .i64 (xn:Int),.slice none 0 0,.slice none 0 0,.slice none 0 0,.slice none 0 0]:=hF';clear hF' zL;have IT:=Hh (tH hR HQ.out);go_wp2_with fail
  refine IT.out.mono ?_
  rintro e v45 ⟨rfl,rfl⟩
  clear IT;go_wp2_with (with_reducible refine zx ?_)
  refine zw rfl _ _ _ rfl rfl F 3 (.slice none 0 0) rfl rfl _ _ hF yY (by simp) rfl fun v46 hF' zL=>?_
  replace hG:=hG.grownOwn nF lY zL;replace hR:=hR.grown zL (by omega) nF;replace hT:=hT.gr zL (by omega);replace hX:=hX.gr zL (by omega);replace hF:Blk v46 F 60 #[.int .i64 (xn:Int),.slice none 0 0,.slice none 0 0,.slice none 0 0,.slice none 0 0]:=hF';clear hF' zL;have IT:=jhv;go_wp2_with fail
  refine IT.out.mono ?_
  rintro e v47 ⟨rfl,rfl⟩
  clear IT;go_wp2_with (with_reducible refine zx ?_)
  refine zw rfl _ _ _ rfl rfl F 4 (.slice none 0 0) rfl rfl _ _ hF uM (by simp) rfl fun v48 hF' zL=>?_
  replace hG:=hG.grownOwn nF lY zL;replace hR:=hR.grown zL (by omega) nF;replace hT:=hT.gr zL (by omega);replace hX:=hX.gr zL (by omega);replace hF:Blk v48 F 60 #[.int .i64 (xn:Int),.slice none 0 0,.slice none 0 0,.slice none 0 0,.slice none 0 0]:=hF';clear hF' zL;have a1:=jfP;have yq:((q3:Int) != 0)=true:=by first | decide | (rw[bne_iff_ne];have:=HQ.out;omega)
  have yq':((q3:Int)=0)=False:=eq_false (by have:=HQ.out;omega);obtain⟨nTq,YJ,YL,YK⟩:=jgH;clear hF hX;go_upto_region 18 with fail
  refine zr 6 (fun w'=>w'.cell? ⟨g,1,none⟩=some (.int .i64 (q3:Int))) (by kernel_rfl) (a1) (fun zy=>?_)
  exact jae
 | ok su =>
 rw[hsu]at hs;obtain⟨SA,sc,H4,rfl,aa,jq⟩:=hs;have E2:Hid (yS l=d2 (xn:Int) su l2):=by rw[Hid,E1.out,hsu]
 clear hsu E1;have hd:=(Est.refl hR).grown aa;replace hG:=hG.trans_but hd.grows ii;replace nT:=hd.hid nT hT.lt;replace nF:=hd.hid nF hF.lt;replace hT:=hT.est hd (by omega);replace hF:=hF.est hd (by omega);replace nX:=hd.hid nX hX.lt;replace hX:=hX.est hd (by omega);clear hR;have hR:=hd.rd;have Nz:=Hh (Ny.out.trans aa.le);clear hd aa;have FL0:=pL hR.blk 0;rw[if_pos rfl]at FL0;have FL:=Hh (show Calls Tryz.prog 82 #[.pointer (some ⟨g,0,none⟩),.int .i64 0] w4 _ from FL0);clear FL0;go_wp2_with fail
 refine FL.out.mono ?_
 rintro e v49 ⟨⟨vv,rfl⟩,YH,zL⟩
 clear FL;replace hG:=hG.grownOwn hR.apart ii zL;have Ry:Rdr v49 g _ _ _ _ _:=⟨YH,hR.bytes,hG.holds,hR.apart⟩
 replace hT:=hT.gr zL (by omega);replace hF:=hF.gr zL (by omega);replace hX:=hX.gr zL (by omega);replace hR:=Ry;clear Ry YH zL;go_wp2_with (with_reducible refine zx ?_)
 refine zw rfl _ _ _ rfl rfl F 1 (.slice SA su.length sc) rfl rfl _ _ hF dp (by simp) rfl fun v50 hF' zL=>?_
 replace hG:=hG.grownOwn nF lY zL;replace hR:=hR.grown zL (by omega) nF;replace hT:=hT.gr zL (by omega);replace hX:=hX.gr zL (by omega);replace hF:Blk v50 F 60 #[.int .i64 (xn:Int),.slice SA su.length sc,.slice none 0 0,.slice none 0 0,.slice none 0 0]:=hF';clear hF' zL;have IT:=Hh (NC (hTab.mono Nz.out) hR);go_wp2_with fail
 refine IT.out.mono ?_
 intro e w5 hs
 unfold PartOut at hs
 clear IT
 cases hb:tw l2 with
 | error q4 =>
  rw[hb]at hs;obtain⟨GA,gn,gc,H5,A5,c5,l5,rfl,hd⟩:=hs;have E:Hid (yS l=.error q4):=by rw[Hid,E2.out,d2,hb]
  have HQ:=Hh (Wj hb);clear hb;replace hG:=hG.trans_but hd.grows ii;replace nT:=hd.hid nT hT.lt;replace nF:=hd.hid nF hF.lt;replace hT:=hT.est hd (by omega);replace hF:=hF.est hd (by omega);replace nX:=hd.hid nX hX.lt;replace hX:=hX.est hd (by omega);clear hR;have hR:=hd.rd;clear hd;go_wp2_with (with_reducible refine zx ?_)
  refine zw rfl _ _ _ rfl rfl F 2 (.slice GA gn gc) rfl rfl _ _ hF yY (by simp) rfl fun v51 hF' zL=>?_
  replace hG:=hG.grownOwn nF lY zL;replace hR:=hR.grown zL (by omega) nF;replace hT:=hT.gr zL (by omega);replace hX:=hX.gr zL (by omega);replace hF:Blk v51 F 60 #[.int .i64 (xn:Int),.slice SA su.length sc,.slice GA gn gc,.slice none 0 0,.slice none 0 0]:=hF';clear hF' zL;have IT:=Hh (tH hR HQ.out);go_wp2_with fail
  refine IT.out.mono ?_
  rintro e v52 ⟨rfl,rfl⟩
  clear IT;go_wp2_with (with_reducible refine zx ?_)
  refine zw rfl _ _ _ rfl rfl F 3 (.slice none 0 0) rfl rfl _ _ hF yY (by simp) rfl fun v53 hF' zL=>?_
  replace hG:=hG.grownOwn nF lY zL;replace hR:=hR.grown zL (by omega) nF;replace hT:=hT.gr zL (by omega);replace hX:=hX.gr zL (by omega);replace hF:Blk v53 F 60 #[.int .i64 (xn:Int),.slice SA su.length sc,.slice GA gn gc,.slice none 0 0,.slice none 0 0]:=hF';clear hF' zL;have IT:=jhv;go_wp2_with fail
  refine IT.out.mono ?_
  rintro e v54 ⟨rfl,rfl⟩
  clear IT;go_wp2_with (with_reducible refine zx ?_)
  refine zw rfl _ _ _ rfl rfl F 4 (.slice none 0 0) rfl rfl _ _ hF uM (by simp) rfl fun v55 hF' zL=>?_
  replace hG:=hG.grownOwn nF lY zL;replace hR:=hR.grown zL (by omega) nF;replace hT:=hT.gr zL (by omega);replace hX:=hX.gr zL (by omega);replace hF:Blk v55 F 60 #[.int .i64 (xn:Int),.slice SA su.length sc,.slice GA gn gc,.slice none 0 0,.slice none 0 0]:=hF';clear hF' zL;have a1:=jfP;have yq:((q4:Int) != 0)=true:=by first | decide | (rw[bne_iff_ne];have:=HQ.out;omega)
  have yq':((q4:Int)=0)=False:=eq_false (by have:=HQ.out;omega);obtain⟨nTq,YJ,YL,YK⟩:=jgH;clear hF hX;go_upto_region 18 with fail
  refine zr 6 (fun w'=>w'.cell? ⟨g,1,none⟩=some (.int .i64 (q4:Int))) (by kernel_rfl) (a1) (fun zy=>?_)
  exact jae
 | ok r =>
 obtain⟨gx,k3⟩:=r;rw[hb]at hs;obtain⟨GA,gc,H5,A5,c5,rfl,hd,Sp⟩:=hs;obtain⟨l3,JX⟩:∃ l3,l2.drop k3=l3:=⟨_,rfl⟩
 have HL3:Hid (l3.length≤600):=by rw[Hid,← JX,List.length_drop];have:=uz.out;omega
 have E3:Hid (yS l=d3 (xn:Int) su gx l3):=by rw[Hid,E2.out,d2,hb,← JX]
 rw[JX]at hd;clear hb JX E2;replace hG:=hG.trans_but hd.grows ii;replace nT:=hd.hid nT hT.lt;replace nF:=hd.hid nF hF.lt;replace hT:=hT.est hd (by omega);replace hF:=hF.est hd (by omega);replace nX:=hd.hid nX hX.lt;replace hX:=hX.est hd (by omega);clear hR;have hR:=hd.rd;have Uh:=Hh (Nz.out.trans hd.grows.le);have GM:=Hh (jq.mono hd.grows.le);clear hd jq;go_wp2_with (with_reducible refine zx ?_)
 refine zw rfl _ _ _ rfl rfl F 2 (.slice GA gx.length gc) rfl rfl _ _ hF yY (by simp) rfl fun v56 hF' zL=>?_
 replace hG:=hG.grownOwn nF lY zL;replace hR:=hR.grown zL (by omega) nF;replace hT:=hT.gr zL (by omega);replace hX:=hX.gr zL (by omega);replace hF:Blk v56 F 60 #[.int .i64 (xn:Int),.slice SA su.length sc,.slice GA gx.length gc,.slice none 0 0,.slice none 0 0]:=hF';clear hF' zL;have IT:=Hh (Jq hR (by have:=HL3.out;omega));go_wp2_with fail
 refine IT.out.mono ?_
 intro e w6 hs
 unfold PartOut at hs
 clear IT
 cases hb:zC l3 with
 | error q5 =>
  rw[hb]at hs;obtain⟨CA,cn,cc,H6,A6,c6,l6,rfl,hd⟩:=hs;have E:Hid (yS l=.error q5):=by rw[Hid,E3.out,d3,hb]
  have HQ:=Hh (qH hb);clear hb;replace hG:=hG.trans_but hd.grows ii;replace nT:=hd.hid nT hT.lt;replace nF:=hd.hid nF hF.lt;replace hT:=hT.est hd (by omega);replace hF:=hF.est hd (by omega);replace nX:=hd.hid nX hX.lt;replace hX:=hX.est hd (by omega);clear hR;have hR:=hd.rd;clear hd;go_wp2_with (with_reducible refine zx ?_)
  refine zw rfl _ _ _ rfl rfl F 3 (.slice CA cn cc) rfl rfl _ _ hF yY (by simp) rfl fun v57 hF' zL=>?_
  replace hG:=hG.grownOwn nF lY zL;replace hR:=hR.grown zL (by omega) nF;replace hT:=hT.gr zL (by omega);replace hX:=hX.gr zL (by omega);replace hF:Blk v57 F 60 #[.int .i64 (xn:Int),.slice SA su.length sc,.slice GA gx.length gc,.slice CA cn cc,.slice none 0 0]:=hF';clear hF' zL;have IT:=jhv;go_wp2_with fail
  refine IT.out.mono ?_
  rintro e v58 ⟨rfl,rfl⟩
  clear IT;go_wp2_with (with_reducible refine zx ?_)
  refine zw rfl _ _ _ rfl rfl F 4 (.slice none 0 0) rfl rfl _ _ hF uM (by simp) rfl fun v59 hF' zL=>?_
  replace hG:=hG.grownOwn nF lY zL;replace hR:=hR.grown zL (by omega) nF;replace hT:=hT.gr zL (by omega);replace hX:=hX.gr zL (by omega);replace hF:Blk v59 F 60 #[.int .i64 (xn:Int),.slice SA su.length sc,.slice GA gx.length gc,.slice CA cn cc,.slice none 0 0]:=hF';clear hF' zL;have a1:=jfP;have yq:((q5:Int) != 0)=true:=by first | decide | (rw[bne_iff_ne];have:=HQ.out;omega)
  have yq':((q5:Int)=0)=False:=eq_false (by have:=HQ.out;omega);obtain⟨nTq,YJ,YL,YK⟩:=jgH;clear hF hX;go_upto_region 18 with fail
  refine zr 6 (fun w'=>w'.cell? ⟨g,1,none⟩=some (.int .i64 (q5:Int))) (by kernel_rfl) (a1) (fun zy=>?_)
  exact jae
 | ok r =>
 obtain⟨cn,k4⟩:=r;rw[hb]at hs;obtain⟨CA,cc,H6,A6,c6,rfl,hd,Sn⟩:=hs;obtain⟨l4,YN⟩:∃ l4,l3.drop k4=l4:=⟨_,rfl⟩
 have E4:Hid (yS l=d4 (xn:Int) su gx cn l4):=by rw[Hid,E3.out,d3,hb,← YN]
 rw[YN]at hd;clear hb YN E3;replace hG:=hG.trans_but hd.grows ii;replace nT:=hd.hid nT hT.lt;replace nF:=hd.hid nF hF.lt;replace hT:=hT.est hd (by omega);replace hF:=hF.est hd (by omega);replace nX:=hd.hid nX hX.lt;replace hX:=hX.est hd (by omega);clear hR;have hR:=hd.rd;have RH:=Hh (Uh.out.trans hd.grows.le);have GN:=Hh (GM.out.mono hd.grows.le);have GF:=Hh (Sp.mono hd.grows.le);clear hd Sp GM;go_wp2_with (with_reducible refine zx ?_)
 refine zw rfl _ _ _ rfl rfl F 3 (.slice CA cn.length cc) rfl rfl _ _ hF yY (by simp) rfl fun v60 hF' zL=>?_
 replace hG:=hG.grownOwn nF lY zL;replace hR:=hR.grown zL (by omega) nF;replace hT:=hT.gr zL (by omega);replace hX:=hX.gr zL (by omega);replace hF:Blk v60 F 60 #[.int .i64 (xn:Int),.slice SA su.length sc,.slice GA gx.length gc,.slice CA cn.length cc,.slice none 0 0]:=hF';clear hF' zL;have IT:=Hh (Fu (hTab.mono RH.out) hR);go_wp2_with fail
 refine IT.out.mono ?_
 intro e w7 hs
 unfold RestOut at hs
 clear IT
 cases hb:tx l4 with
 | error q6 =>
  rw[hb]at hs;obtain⟨H7,A7,c7,l7,rfl,hd⟩:=hs;have E:Hid (yS l=.error q6):=by rw[Hid,E4.out,d4,hb]
  have HQ:=Hh (Wr hb);clear hb;replace hG:=hG.trans_but hd.grows ii;replace nT:=hd.hid nT hT.lt;replace nF:=hd.hid nF hF.lt;replace hT:=hT.est hd (by omega);replace hF:=hF.est hd (by omega);replace nX:=hd.hid nX hX.lt;replace hX:=hX.est hd (by omega);clear hR;have hR:=hd.rd;clear hd;go_wp2_with (with_reducible refine zx ?_)
  refine zw rfl _ _ _ rfl rfl F 4 (.slice none 0 0) rfl rfl _ _ hF uM (by simp) rfl fun v61 hF' zL=>?_
  replace hG:=hG.grownOwn nF lY zL;replace hR:=hR.grown zL (by omega) nF;replace hT:=hT.gr zL (by omega);replace hX:=hX.gr zL (by omega);replace hF:Blk v61 F 60 #[.int .i64 (xn:Int),.slice SA su.length sc,.slice GA gx.length gc,.slice CA cn.length cc,.slice none 0 0]:=hF';clear hF' zL;have a1:=jfP;have yq:((q6:Int) != 0)=true:=by first | decide | (rw[bne_iff_ne];have:=HQ.out;omega)
  have yq':((q6:Int)=0)=False:=eq_false (by have:=HQ.out;omega);obtain⟨nTq,YJ,YL,YK⟩:=jgH;clear hF hX;go_upto_region 18 with fail
  refine zr 6 (fun w'=>w'.cell? ⟨g,1,none⟩=some (.int .i64 (q6:Int))) (by kernel_rfl) (a1) (fun zy=>?_)
  exact jae
 | ok ext =>
 rw[hb]at hs;obtain⟨EA,ec,H7,A7,c7,l7,rfl,hd,jo⟩:=hs;have E:Hid (yS l=.ok ⟨(xn:Int),su,gx,cn,ext⟩):=by rw[Hid,E4.out,d4,hb]
 clear hb E4;replace hG:=hG.trans_but hd.grows ii;replace nT:=hd.hid nT hT.lt;replace nF:=hd.hid nF hF.lt;replace hT:=hT.est hd (by omega);replace hF:=hF.est hd (by omega);replace nX:=hd.hid nX hX.lt;replace hX:=hX.est hd (by omega);clear hR;have hR:=hd.rd;have HFA:Hid (FirstA H7 ⟨(xn:Int),su,gx,cn,ext⟩ SA sc GA gc CA cc EA ec):=⟨GN.out.mono hd.grows.le,GF.out.mono hd.grows.le,Sn.mono hd.grows.le,jo⟩
 clear hd Sn jo GN GF;go_wp2_with (with_reducible refine zx ?_)
 refine zw rfl _ _ _ rfl rfl F 4 (.slice EA ext.length ec) rfl rfl _ _ hF uM (by simp) rfl fun v62 hF' zL=>?_
 replace hG:=hG.grownOwn nF lY zL;replace hR:=hR.grown zL (by omega) nF;replace hT:=hT.gr zL (by omega);replace hX:=hX.gr zL (by omega);replace hF:Blk v62 F 60 #[.int .i64 (xn:Int),.slice SA su.length sc,.slice GA gx.length gc,.slice CA cn.length cc,.slice EA ext.length ec]:=hF';clear hF' zL;have a1:=jfP;have f0:=hF.cell 0 rfl;have f1:=hF.cell 1 rfl;have f2:=hF.cell 2 rfl;have f3:=hF.cell 3 rfl;have f4:=hF.cell 4 rfl;go_wp2_with (with_reducible refine zx ?_)
 refine zm rfl _ _ _ rfl rfl _ _ rfl rfl _ _ hT yp rfl (iG _ _ _ _ _ rfl rfl rfl rfl rfl) fun wz hTz hgz=>?_
 have kU:=hG.grownOwn nT Ol hgz;go_wp2_with fail
 refine zo rfl rfl hTz rfl rfl yp rfl ?_
 exact FirstOut.ok E.out rfl kU HFA.out
end Go.Proofs.YtkmlnjociijpgaaGreatDoor
