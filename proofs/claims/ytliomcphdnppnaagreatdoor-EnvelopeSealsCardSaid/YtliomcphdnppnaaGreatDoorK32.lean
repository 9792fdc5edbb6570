/- squeezed. Walks: HMAC and the derivation of  -/
import Derived.Test.YtliomcphdnppnaaGreatDoorK25
import Derived.Test.YtliomcphdnppnaaGreatDoorK31
set_option linter.unusedVariables false
set_option linter.unusedSimpArgs false
set_option maxRecDepth 100000
set_option maxHeartbeats 25600000
namespace Go.Proofs.YtliomcphdnppnaaGreatDoor
open Go.RowKit
def Apart (v u:Value):Prop:=∀ q,v.ownBlock=some q→u.ownBlock=some q→False
theorem Apart.ne {v u:Value}(h:Apart v u):u.ownBlock=none∨u.ownBlock≠v.ownBlock:=by
 cases hu:u.ownBlock with
 | none=>exact .inl rfl
 | some q=>exact .inr (fun e=>h q e.symm hu)
theorem Apart.step {v u v':Value}{w:World}{base:Nat}{l:List UInt8}(h:Apart v u) (hO:OwnB w base u l) (hat:At0 w v.ownBlock v'.ownBlock):Apart v' u:=by
 intro q hq hu
 rcases hat with e | ⟨g,e,hg⟩
 ·exact h q (e ▸ hq) hu
 rw[hq]at e;injection e with e
 subst e;have:=(hO.lt q hu).2
 omega
theorem Apart.symm {v u:Value}(h:Apart v u):Apart u v:=fun q h1 h2=>h q h2 h1
def Xa (w:World) (H:Snap) (o:Option Itm) (e:Ending) (w':World):Prop:=∃ v,e=.returned (.tuple #[v,.bool o.isSome])∧Gives w H (o.getD zm) v w'
theorem bz {H:Snap}(hTab:Tabs H) {p u:Itm}{a b:Ad}(hp:IsItem H a.ba a.bc a.ia a.ic p) (hu:IsItem H b.ba b.bc b.ia b.ic u) (j:Nat) (hj:j<100) (w:World) (hH:Holds w H) :
  Calls Tryz.prog 71 #[.agg (zY p a u b),.int .i64 (j:Int)] w (Xa w H (r9 p u (j:Int))):=by
 have hB:=(Blk.new w 28 (zY p a u b)).alloc zW;have hT:=Blk.new (w.alloc (.cells (zY p a u b) 28)) 26 #[.int .i64 0,.int .u64 0,.slice none 0 0,.slice none 0 0]
 simp only[zu]at hT
 have hG:=((Grows.refl hH).alloc (.cells (zY p a u b) 28)).alloc zW;have uj:H (w.heap.size+1)=none:=hH.none_of_ge (by omega);have V:=Hh (tB hTab hp hu _ hG.holds);have HP:=Hh hp;have HU:=Hh hu;have HT:=Hh hTab;clear hp hu hTab hH;have c0:=hB.cell 0 rfl;have c1:=hB.cell 1 rfl;have c2:=hB.cell 2 rfl;have c3:=hB.cell 3 rfl;have c4:=hB.cell 4 rfl;have c5:=hB.cell 5 rfl;have c6:=hB.cell 6 rfl;have c7:=hB.cell 7 rfl;go_enter Tryz.func71,Tryz.ntmps71
 go_wp2_with fail
 refine V.out.mono ?_
 rintro e w2 ⟨rfl,zG⟩
 replace hB:=hB.below zG;replace hT:=hT.below zG;have xR:=hG.below_ zG;clear V hG zG c0 c1 c2 c3 c4 c5 c6 c7;have Pt:∀ (o:Option Itm),r9 p u (j:Int)=o→Hid (r9 p u (j:Int)=o):=fun _ h=>h
 cases hv:zV p u with
 | false =>
  have E:=Hh (show r9 p u (j:Int)=none by rw[r9,hv];rfl);clear hv hB Pt;go_wp2_with (with_reducible refine zx ?_)
  refine stI hT fun w9 nU xr=>?_
  have sO:=xR.grownOwn uj (by omega) xr;go_wp2_with fail
  refine zf rfl rfl nU rfl rfl zp rfl ?_
  exact⟨_,by rw[E.out];rfl,by rw[E.out];exact⟨none,0,none,0,H,rfl,sO,IsItem.plain H 0 0 (by omega) (by omega)⟩⟩
 | true =>
 have E:=Hh (show r9 p u (j:Int)=vO p u (j:Int) by rw[r9,if_pos hv]);have C:=Hh (pg HT.out HP.out HU.out (j:Int) (by omega) (by omega) _ xR.holds);clear hv Pt;have c0:=hB.cell 0 rfl;have c1:=hB.cell 1 rfl;have c2:=hB.cell 2 rfl;have c3:=hB.cell 3 rfl;have c4:=hB.cell 4 rfl;have c5:=hB.cell 5 rfl;have c6:=hB.cell 6 rfl;have c7:=hB.cell 7 rfl;obtain⟨o,ho⟩:∃ o,vO p u (j:Int)=o:=⟨_,rfl⟩
 rw[ho]at C ;have EO:=Hh (E.out.trans ho);clear hB ho E;go_wp2_with fail
 refine C.out.mono ?_
 rintro e w3 ⟨v3,rfl,xa,xb,xc,xd,H3,rfl,ye,PF⟩
 have yJ:=xR.trans ye;have RT:=ye.none uj hT.lt;replace hT:=hT.below ye.below;clear C ye c0 c1 c2 c3 c4 c5 c6 c7;obtain⟨q,hq⟩:∃ q,o.isSome=q:=⟨_,rfl⟩
 rw[hq];have HQ:=Hh hq;clear hq;go_wp2_with (with_reducible refine zx ?_)
 refine stI hT fun w9 nU xr=>?_
 have sO:=yJ.grownOwn RT (by omega) xr;go_wp2_with fail
 refine zf rfl rfl nU rfl rfl zp rfl ?_
 exact⟨_,by rw[EO.out,HQ.out];rfl,by rw[EO.out];exact⟨xa,xb,xc,xd,H3,rfl,sO,PF⟩⟩
theorem Zd {H:Snap}(hTab:Tabs H) {p u:Itm}{a b:Ad}(hp:IsItem H a.ba a.bc a.ia a.ic p) (hu:IsItem H b.ba b.bc b.ia b.ic u) (j:Nat) (hj:j<100) (w:World) (hH:Holds w H) :
  Calls Tryz.prog 114 #[.agg (zY p a u b),.int .i64 (j:Int)] w (Xa w H (r9 p u (j:Int))):=by
 have hB:=(Blk.new w 28 (zY p a u b)).alloc zW;have hT:=Blk.new (w.alloc (.cells (zY p a u b) 28)) 26 #[.int .i64 0,.int .u64 0,.slice none 0 0,.slice none 0 0]
 simp only[zu]at hT
 have hG:=((Grows.refl hH).alloc (.cells (zY p a u b) 28)).alloc zW;have uj:H (w.heap.size+1)=none:=hH.none_of_ge (by omega);have V:=Hh (vj hTab hp hu _ hG.holds);have HP:=Hh hp;have HU:=Hh hu;have HT:=Hh hTab;clear hp hu hTab hH;have c0:=hB.cell 0 rfl;have c1:=hB.cell 1 rfl;have c2:=hB.cell 2 rfl;have c3:=hB.cell 3 rfl;have c4:=hB.cell 4 rfl;have c5:=hB.cell 5 rfl;have c6:=hB.cell 6 rfl;have c7:=hB.cell 7 rfl;go_enter Tryz.func114,Tryz.ntmps114
 go_wp2_with fail
 refine V.out.mono ?_
 rintro e w2 ⟨rfl,zG⟩
 replace hB:=hB.below zG;replace hT:=hT.below zG;have xR:=hG.below_ zG;clear V hG zG c0 c1 c2 c3 c4 c5 c6 c7;have Pt:∀ (o:Option Itm),r9 p u (j:Int)=o→Hid (r9 p u (j:Int)=o):=fun _ h=>h
 cases hv:zV p u with
 | false =>
  have E:=Hh (show r9 p u (j:Int)=none by rw[r9,hv];rfl);clear hv hB Pt;go_wp2_with (with_reducible refine zx ?_)
  refine stI hT fun w9 nU xr=>?_
  have sO:=xR.grownOwn uj (by omega) xr;go_wp2_with fail
  refine zf rfl rfl nU rfl rfl zp rfl ?_
  exact⟨_,by rw[E.out];rfl,by rw[E.out];exact⟨none,0,none,0,H,rfl,sO,IsItem.plain H 0 0 (by omega) (by omega)⟩⟩
 | true =>
 have E:=Hh (show r9 p u (j:Int)=xQ p u (j:Int) by rw[r9,if_pos hv,Wq hv HP.out.nums HU.out.nums j hj]);have Yv:=iz (yZ hv).1 (yZ hv).2.1 (n:=(j:Int));have C:=Hh (lD (zE (yZ hv).1) (zE (yZ hv).2.1) HP.out HU.out (j:Int) (by omega) (by omega) _ xR.holds);clear hv Pt;have c0:=hB.cell 0 rfl;have c1:=hB.cell 1 rfl;have c2:=hB.cell 2 rfl;have c3:=hB.cell 3 rfl;have c4:=hB.cell 4 rfl;have c5:=hB.cell 5 rfl;have c6:=hB.cell 6 rfl;have c7:=hB.cell 7 rfl;obtain⟨o,ho⟩:∃ o,xQ p u (j:Int)=o:=⟨_,rfl⟩
 rw[ho]at C Yv;have EO:=Hh (E.out.trans ho);clear hB ho E;go_wp2_with fail
 refine C.out.mono ?_
 rintro e w3 ⟨v3,rfl,xa,xb,xc,xd,H3,rfl,ye,PF⟩
 have yJ:=xR.trans ye;have RT:=ye.none uj hT.lt;replace hT:=hT.below ye.below;clear C ye c0 c1 c2 c3 c4 c5 c6 c7;obtain⟨q,hq⟩:∃ q,o.isSome=q:=⟨_,rfl⟩
 rw[hq];have HQ:=Hh hq;clear hq;obtain⟨x,hx⟩:∃ x,o.getD zm=x:=⟨_,rfl⟩
 rw[hx]at Yv PF⊢;have HX:=Hh hx;clear hx;have hU:=Blk.new w3 26 #[.int .i64 x.kind,.int .u64 x.n,.slice xa x.bytes.length xb,.slice xc x.items.length xd];replace hT:=hT.alloc (zi x xa xb xc xd);have wn:=yJ.alloc (zi x xa xb xc xd);have CP:=Hh (pt x H3 _ _ _ _ _ _ _ _ _ Yv PF.arg wn.holds);have Hw:=hT.lt;clear Yv PF yJ;go_wp2_with fail
 refine CP.out.mono ?_
 rintro e w4 ⟨v4,rfl,ya,yb,yc,yd,H4,rfl,xH,MJ⟩
 have wF:=wn.trans xH;have fV:=xH.none RT Hw;replace hT:=hT.below xH.below;clear CP xH hU Hw wn;go_wp2_with (with_reducible refine zx ?_)
 refine stI hT fun w9 nU xr=>?_
 have sO:=wF.grownOwn fV (by omega) xr;go_wp2_with fail
 refine zf rfl rfl nU rfl rfl zp rfl ?_
 exact⟨_,by rw[EO.out,HQ.out];rfl,by rw[EO.out,HX.out];exact⟨ya,yb,yc,yd,H4,rfl,sO,MJ⟩⟩
theorem kG {H:Snap}(hTab:Tabs H) {p u:Itm}{a b:Ad}(hp:IsItem H a.ba a.bc a.ia a.ic p) (hu:IsItem H b.ba b.bc b.ia b.ic u) (w:World) (hH:Holds w H) :
  Calls Tryz.prog 31 #[.agg (zY p a u b)] w fun e w'=>e=.returned (.int .i64 (vt p u))∧Below w.heap.size w w':=by
 have hG:=(Grows.refl hH).alloc (.cells (zY p a u b) 28);have C:=Hh (bz hTab hp hu 1 (by omega) _ hG.holds);have A:Hid (∀ o,r9 p u ((1:Nat):Int)=o→vt p u=match o with | some x=>gZ x | none=>0):=by rintro o rfl;rfl
 obtain⟨o,ho⟩:∃ o,r9 p u ((1:Nat):Int)=o:=⟨_,rfl⟩
 rw[ho]at C;have AO:=Hh (A.out o ho);clear hp hu hTab hH ho A;go_enter Tryz.func31,Tryz.ntmps31
 go_wp2_with fail
 refine C.out.mono ?_
 rintro e w2 ⟨v2,rfl,xa,xb,xc,xd,H2,rfl,xR,aL⟩
 have ye:=hG.trans xR;clear C hG xR
 cases o with
 | none =>
  have E:Hid (vt p u=0):=AO.out
  simp only[Option.getD_none,Option.isSome_none]at aL⊢
  have yJ:=ye.alloc (zi zm xa xb xc xd);have tO:=yJ.below;clear AO ye aL;go_wp2_with fail
  go_ret
  exact⟨by rw[E.out];rfl,tO⟩
 | some x =>
 have E:Hid (vt p u=gZ x):=AO.out
 simp only[Option.getD_some,Option.isSome_some]at aL⊢
 have yJ:=ye.alloc (zi x xa xb xc xd);have tO:=yJ.below;have hU:=Blk.new w2 26 #[.int .i64 x.kind,.int .u64 x.n,.slice xa x.bytes.length xb,.slice xc x.items.length xd];obtain⟨q,hq⟩:∃ q,IntKind.i64.wrap ((x.n:Nat):Int)=q:=⟨_,rfl⟩
 obtain⟨r,hr⟩:∃ r,IntKind.i64.wrap (-1-q)=r:=⟨_,rfl⟩
 have EV:Hid (gZ x=if x.kind=1 then r else q):=by rw[Hid,gZ,hq,hr]
 have u0:=hU.cell 0 rfl;have u1:=hU.cell 1 rfl;clear AO ye aL hU
 by_cases h1:x.kind=1
 ·have k1:(x.kind==1)=true:=by simpa using h1
  rw[if_pos h1]at EV;have Kc:=eq_true h1;clear h1;go_wp2_with fail
  go_ret
  exact⟨by rw[E.out,EV.out];rfl,tO⟩
 have k1:(x.kind==1)=false:=by simpa using h1
 rw[if_neg h1]at EV;have Kc:=eq_false h1;clear h1 hr;go_wp2_with fail
 go_ret
 exact⟨by rw[E.out,EV.out];rfl,tO⟩
theorem Zc {H:Snap}(hTab:Tabs H) {p u:Itm}{a b:Ad}(hp:IsItem H a.ba a.bc a.ia a.ic p) (hu:IsItem H b.ba b.bc b.ia b.ic u) (w:World) (hH:Holds w H) :
  Calls Tryz.prog 79 #[.agg (zY p a u b)] w fun e w'=>e=.returned (.int .i64 (vt p u))∧Below w.heap.size w w':=by
 have hG:=(Grows.refl hH).alloc (.cells (zY p a u b) 28);have C:=Hh (Zd hTab hp hu 1 (by omega) _ hG.holds);have A:Hid (∀ o,r9 p u ((1:Nat):Int)=o→vt p u=match o with | some x=>gZ x | none=>0):=by rintro o rfl;rfl
 obtain⟨o,ho⟩:∃ o,r9 p u ((1:Nat):Int)=o:=⟨_,rfl⟩
 rw[ho]at C;have AO:=Hh (A.out o ho);clear hp hu hTab hH ho A;go_enter Tryz.func79,Tryz.ntmps79
 go_wp2_with fail
 refine C.out.mono ?_
 rintro e w2 ⟨v2,rfl,xa,xb,xc,xd,H2,rfl,xR,aL⟩
 have ye:=hG.trans xR;clear C hG xR
 cases o with
 | none =>
  have E:Hid (vt p u=0):=AO.out
  simp only[Option.getD_none,Option.isSome_none]at aL⊢
  have yJ:=ye.alloc (zi zm xa xb xc xd);have tO:=yJ.below;clear AO ye aL;go_wp2_with fail
  go_ret
  exact⟨by rw[E.out];rfl,tO⟩
 | some x =>
 have E:Hid (vt p u=gZ x):=AO.out
 simp only[Option.getD_some,Option.isSome_some]at aL⊢
 have yJ:=ye.alloc (zi x xa xb xc xd);have tO:=yJ.below;have hU:=Blk.new w2 26 #[.int .i64 x.kind,.int .u64 x.n,.slice xa x.bytes.length xb,.slice xc x.items.length xd];obtain⟨q,hq⟩:∃ q,IntKind.i64.wrap ((x.n:Nat):Int)=q:=⟨_,rfl⟩
 obtain⟨r,hr⟩:∃ r,IntKind.i64.wrap (-1-q)=r:=⟨_,rfl⟩
 have EV:Hid (gZ x=if x.kind=1 then r else q):=by rw[Hid,gZ,hq,hr]
 have u0:=hU.cell 0 rfl;have u1:=hU.cell 1 rfl;clear AO ye aL hU
 by_cases h1:x.kind=1
 ·have k1:(x.kind==1)=true:=by simpa using h1
  rw[if_pos h1]at EV;have Kc:=eq_true h1;clear h1;go_wp2_with fail
  go_ret
  exact⟨by rw[E.out,EV.out];rfl,tO⟩
 have k1:(x.kind==1)=false:=by simpa using h1
 rw[if_neg h1]at EV;have Kc:=eq_false h1;clear h1 hr;go_wp2_with fail
 go_ret
 exact⟨by rw[E.out,EV.out];rfl,tO⟩
theorem xF:(Tryz.prog.info? 36).map (·.size)=some 10:=by kernel_rfl
theorem vM:tC.all (·.oneCell')=true:=by kernel_rfl
theorem Xh (p u:Itm) (a b:Ad) (ba:Option Addr) (bn bc:Nat) (ta:Option Addr) (tn tc:Nat):(evC p a u b ba bn bc ta tn tc).all (·.oneCell')=true:=by kernel_rfl
theorem fL (g:Int) (w:World):Calls Tryz.prog 30 #[.int .i64 g] w fun e w'=>e=.returned (.int .i64 (vE g:Nat))∧w=w':=by
 by_cases h4:g=10
 ·subst h4;go_enter Tryz.func30,Tryz.ntmps30
  go_wp2_with fail
  go_ret
  exact⟨rfl,rfl⟩
 have k4:(g==10)=false:=by simpa using h4
 have t4:=eq_false h4
 by_cases h5:g=30
 ·subst h5;go_enter Tryz.func30,Tryz.ntmps30
  go_wp2_with fail
  go_ret
  exact⟨rfl,rfl⟩
 have k5:(g==30)=false:=by simpa using h5
 have t5:=eq_false h5;have e0:=Hh (show vE g=0 by rw[vE,if_neg h4,if_neg h5]);clear h4 h5;go_enter Tryz.func30,Tryz.ntmps30
 go_wp2_with fail
 go_ret
 exact⟨by rw[e0.out];rfl,rfl⟩
theorem iy {H:Snap}(hTab:Tabs H) {p u:Itm}{a b:Ad}(hp:IsItem H a.ba a.bc a.ia a.ic p) (hu:IsItem H b.ba b.bc b.ia b.ic u)
  {EA:Option Addr} {en ec:Nat} {ext:List UInt8} (dn:en=ext.length) (hext:IsBytes H EA ec ext) (xI:ext.length≤1048576) {PA:Option Addr} {pn pc:Nat} {plain:List UInt8} (hpn:pn=plain.length) (hplain:IsBytes H PA pc plain)
  {KA:Option Addr} {kn kc:Nat} {key:List UInt8} (uN:kn=key.length) (uM:IsBytes H KA kc key) {NA:Option Addr} {nn nc:Nat} {nonce:List UInt8} (wd:nn=nonce.length) (uI:IsBytes H NA nc nonce) (w:World) (hH:Holds w H) :
  Calls Tryz.prog 11 #[.agg (zY p a u b),.slice EA en ec,.slice PA pn pc,.slice KA kn kc,.slice NA nn nc] w (ESealOut w H p u ext plain key nonce):=by
 have hB:=(Blk.new w 28 (zY p a u b)).alloc (.cells tC 36);have hR:=Blk.new (w.alloc (.cells (zY p a u b) 28)) 36 tC
 simp only[zu]at hR
 have hG:=((Grows.refl hH).alloc (.cells (zY p a u b) 28)).alloc (.cells tC 36);have fb:H (w.heap.size+1)=none:=hH.none_of_ge (by omega);have HP:=Hh hp;have HU:=Hh hu;have HT:=Hh hTab;have HX:=Hh (And.intro dn (And.intro hext xI));have HY:=Hh (And.intro hpn hplain);have HK:=Hh (And.intro uN uM);have ow:=Hh (And.intro wd uI);have V:=Hh (tB hTab hp hu _ hG.holds);clear hp hu hTab hH dn hext xI hpn hplain uN uM wd uI;have c0:=hB.cell 0 rfl;have c1:=hB.cell 1 rfl;have c2:=hB.cell 2 rfl;have c3:=hB.cell 3 rfl;have c4:=hB.cell 4 rfl;have c5:=hB.cell 5 rfl;have c6:=hB.cell 6 rfl;have c7:=hB.cell 7 rfl;go_enter Tryz.func11,Tryz.ntmps11
 go_wp2_with fail
 refine V.out.mono ?_
 rintro e w2 ⟨rfl,zG⟩
 replace hB:=hB.below zG;replace hR:=hR.below zG;replace hG:=hG.below_ zG;clear V zG c0 c1 c2 c3 c4 c5 c6 c7
 cases hv:zV p u with
 | false =>
  have E:=Hh (show uy p u ext plain key nonce=1 by rw[uy,if_pos hv]);clear hv hB;go_wp2_with (with_reducible refine zx ?_)
  refine zt rfl _ _ _ rfl rfl _ _ rfl rfl _ _ hR xF rfl (vM) fun wz hRz wm=>?_
  have uX:=hG.grownOwn fb (by omega) wm;clear hR wm;go_wp2_with fail
  refine zf rfl rfl hRz rfl rfl xF rfl ?_
  exact ESealOut.bad E.out (by omega) uX rfl
 | true =>
 have HV:=Hh hv;clear hv;have AL:=Hh (kG HT.out HP.out HU.out _ hG.holds);have c0:=hB.cell 0 rfl;have c1:=hB.cell 1 rfl;have c2:=hB.cell 2 rfl;have c3:=hB.cell 3 rfl;have c4:=hB.cell 4 rfl;have c5:=hB.cell 5 rfl;have c6:=hB.cell 6 rfl;have c7:=hB.cell 7 rfl;obtain⟨g,hg⟩:∃ g,vt p u=g:=⟨_,rfl⟩
 rw[hg]at AL;have HG:=Hh hg;clear hg;go_wp2_with fail
 refine AL.out.mono ?_
 rintro e w3 ⟨rfl,xn⟩
 replace hB:=hB.below xn;replace hR:=hR.below xn;replace hG:=hG.below_ xn;clear AL xn c0 c1 c2 c3 c4 c5 c6 c7;have TB:=Hh (fL g w3);have rL:=oD g;obtain⟨n,hn⟩:∃ n,vE g=n:=⟨_,rfl⟩
 rw[hn]at rL TB;have HN:Hid (vE (vt p u)=n):=by rw[Hid,HG.out,hn]
 clear hn HG;have SK:=Hh rL;go_wp2_with fail
 refine TB.out.mono ?_
 rintro e w3' ⟨rfl,rfl⟩
 clear TB
 by_cases h0:n=0
 ·subst h0;have E:=Hh (show uy p u ext plain key nonce=12 by rw[uy,if_neg (by rw[HV.out];simp),if_pos HN.out]);clear hB rL;go_wp2_with (with_reducible refine zx ?_)
  refine zt rfl _ _ _ rfl rfl _ _ rfl rfl _ _ hR xF rfl (vM) fun wz hRz wm=>?_
  have uX:=hG.grownOwn fb (by omega) wm;clear hR wm;go_wp2_with fail
  refine zf rfl rfl hRz rfl rfl xF rfl ?_
  exact ESealOut.bad E.out (by omega) uX rfl
 have n0:((n:Int)==0)=false:=by rw[beq_eq_false_iff_ne];omega
 have n1:((n:Int)=0)=False:=eq_false (by omega);have N0:=Hh h0;clear h0 rL;have c0:=hB.cell 0 rfl;have c1:=hB.cell 1 rfl;have c2:=hB.cell 2 rfl;have c3:=hB.cell 3 rfl;have c4:=hB.cell 4 rfl;have c5:=hB.cell 5 rfl;have c6:=hB.cell 6 rfl;have c7:=hB.cell 7 rfl;have IN:=Hh (sQ (HT.out.mono hG.le) (HP.out.mono hG.le) (HU.out.mono hG.le) ⟨#[69,110,99,114,121,112,116,48]⟩ (by show(8:Nat)≤_;omega) (HX.out.2.1.mono hG.le) HX.out.2.2 (IsRows.nil0 _) (by simp) (fun l hl=>by cases hl) _ hG.holds);rw[← HX.out.1]at IN;go_wp2_with fail
 refine IN.out.mono ?_
 rintro e w5 ⟨r5,l5,rfl,wL,tQ⟩
 have Yh:([69,110,99,114,121,112,116,48]:List UInt8)=xW:=rfl
 try simp only[]at tQ
 rw[Yh]at tQ⊢;clear Yh IN;obtain⟨B5,d5,rfl,sL,_⟩:=wL.own.form;replace hB:=hB.below wL.2;have YW:=hR.lt;replace hR:=hR.below wL.2;clear c0 c1 c2 c3 c4 c5 c6 c7;obtain⟨E5,dR⟩:∃ E,yj xW p u ext []=E:=⟨_,rfl⟩
 rw[dR]at tQ⊢;have gv:Hid (yj xW p u ext []=E5):=dR;clear dR
 by_cases hE0:E5=0
 case neg =>
  have e0:(E5 != 0)=true:=by rw[bne_iff_ne];exact hE0
  have e1:=eq_false hE0;have Vc:=hG.below_ wL.2;have Ry:=Hh hE0;have Oj:Hid (uy p u ext plain key nonce=E5):=by rw[Hid,mj HV.out (by rw[HN.out];exact N0.out) (by rw[gv.out];exact hE0),gv.out]
  clear hB wL tQ hG hE0 sL;go_wp2_with (with_reducible refine zx ?_)
  refine zt rfl _ _ _ rfl rfl _ _ rfl rfl _ _ hR xF rfl (vM) fun wz hRz wm=>?_
  have uX:=Vc.grownOwn fb (by omega) wm;clear hR wm;go_wp2_with fail
  refine zf rfl rfl hRz rfl rfl xF rfl ?_
  exact ESealOut.bad Oj.out Ry.out uX rfl
 case pos =>
 subst hE0;rw[if_pos rfl]at tQ;obtain⟨H5,wn,m8,du⟩:=Fresh.snapB hG.holds wL;have Lu:=Hh (And.intro tQ sL);have Y9:=wn.none fb YW;replace hG:=hG.trans wn;have K8:=Hh m8;have SI:Hid (uy p u ext plain key nonce=(wO key nonce l5 plain n).1):=by rw[Hid,kR HV.out (by rw[HN.out];exact N0.out) gv.out,qW,HN.out,tQ]
 have Ot:Hid ((qW p u ext plain key nonce).2=(wO key nonce l5 plain n).2):=by rw[Hid,qW,HN.out,tQ]
 have SL:=Hh (Wh (kc:=kc) HK.out.1 (by have:=HK.out.2.le;have:=HK.out.1;omega) (nc:=nc) ow.out.1 (an:=l5.length) (ac:=d5) rfl (by have:=m8.le;omega) (pc:=pc) HY.out.1 (by have:=HY.out.2.le;have:=HY.out.1;omega) n (by have:=SK.out;omega) w5
  (Src.of_row (HK.out.2.mono hG.le).row hG.holds) (Src.of_row (ow.out.2.mono hG.le).row hG.holds) (Src.of_row m8.row hG.holds) (Src.of_row (HY.out.2.mono hG.le).row hG.holds))
 have Xy:=Y9;clear wL tQ du wn m8 YW sL Y9;have Oo:=Hh Xy;go_wp2_with fail
 refine SL.out.mono ?_
 rintro e w6 ⟨v6,rfl,WS,xT⟩
 have uk:Fresh w5 (wO key nonce l5 plain n).2 v6 w6:=⟨WS,xT⟩
 obtain⟨B6,d6,rfl,qZ,_⟩:=OwnB.form WS;replace hB:=hB.below xT;have YW:=hR.lt;replace hR:=hR.below xT;clear SL WS;obtain⟨E6,SV⟩:∃ E,(wO key nonce l5 plain n).1=E:=⟨_,rfl⟩
 obtain⟨s6,Tg⟩:∃ s,(wO key nonce l5 plain n).2=s:=⟨_,rfl⟩
 rw[SV]at SI⊢;rw[Tg]at Ot uk qZ⊢;clear SV Tg
 by_cases hE0:E6=0
 case neg =>
  have e0:(E6 != 0)=true:=by rw[bne_iff_ne];exact hE0
  have e1:=eq_false hE0;have SW:=hG.below_ xT;have Vc:Grows w H w6 H:=⟨SW.below,Snap.le.refl _,SW.holds.mono hG.le,fun _ _ h=>.inl h⟩
  have Ry:=Hh hE0;clear hB uk hG hE0 qZ xT SW;go_wp2_with (with_reducible refine zx ?_)
  refine zt rfl _ _ _ rfl rfl _ _ rfl rfl _ _ hR xF rfl (vM) fun wz hRz wm=>?_
  have uX:=Vc.grownOwn fb (by omega) wm;clear hR wm;go_wp2_with fail
  refine zf rfl rfl hRz rfl rfl xF rfl ?_
  exact ESealOut.bad SI.out Ry.out uX rfl
 case pos =>
 subst hE0;obtain⟨H6,xH,QN,mO⟩:=Fresh.snapB hG.holds uk;have YB:=xH.none Oo.out YW;replace hG:=hG.trans xH;have Od:=Hh QN;clear uk mO QN xH Oo xT qZ;have vv:=yZ HV.out;have WE:=Hh vv;clear vv;have c0:=hB.cell 0 rfl;have c1:=hB.cell 1 rfl;have c2:=hB.cell 2 rfl;have c3:=hB.cell 3 rfl;have c4:=hB.cell 4 rfl;have c5:=hB.cell 5 rfl;have c6:=hB.cell 6 rfl;have c7:=hB.cell 7 rfl;obtain⟨n6,mO⟩:∃ n,s6.length=n:=⟨_,rfl⟩
 have KM:=Hh mO;rw[mO];clear mO;go_wp2_with fail
 refine(jr (HT.out.mono hG.le) WE.out.1 WE.out.2.1 WE.out.2.2.1 WE.out.2.2.2 (HP.out.mono hG.le) (HU.out.mono hG.le) _ hG.holds).mono ?_
 rintro e w7 ⟨v7,rfl,xa,xb,H7,rfl,wF,PG,PH⟩
 have RQ:=wF.none YB hR.lt;replace hR:=hR.below wF.below;replace hG:=hG.trans wF;have S6:=Hh (And.intro PG (And.intro PH (Od.out.mono wF.le)));clear hB PG PH YB wF c0 c1 c2 c3 c4 c5 c6 c7;go_wp2_with (with_reducible refine zx ?_)
 refine zt rfl _ _ _ rfl rfl _ _ rfl rfl _ _ hR xF rfl (Xh p u xa xb _ _ _ _ _ _) fun w9 hR9 xr=>?_
 have uX:=hG.grownOwn RQ (by omega) xr;clear hG hR xr;go_wp2_with fail
 refine zf rfl rfl hR9 rfl rfl xF rfl ?_
 exact ESealOut.good SI.out uX S6.out.1 S6.out.2.1 Ot.out KM.out.symm S6.out.2.2 rfl
def wD (key nonce aad cipher:List UInt8) (t:Nat):Int×List UInt8 :=
 if yk key.length nonce.length t=false then(1,[]) else if 4096<aad.length∨4096+t<cipher.length then(8,[]) else if cipher.length<t then(2,[])
 else if rv key nonce aad cipher t=false then(11,[]) else(0,tW key nonce cipher t)
theorem Ud (news e:List UInt8) (h:news.length≤16):xG (spl (List.replicate 16 0) 0 news) e=xG news e:=by
 apply List.map_congr_left
 intro i hi
 have VX:i<16:=by simpa using hi
 have:at_ (spl (List.replicate 16 0) 0 news) i=at_ news i:=by
  simp only[at_,spl,List.take_zero,List.nil_append,List.getD_eq_getElem?_getD,Nat.zero_add]
  by_cases hn:i<news.length
  ·rw[List.getElem?_append_left hn]
  rw[List.getElem?_append_right (by omega),List.getElem?_drop,List.getElem?_replicate,if_pos (by omega),List.getElem?_eq_none (by omega)];rfl
 rw[this]
theorem Zq {w:World}{A:Option Addr}{l:List UInt8}(m:Nat) (h:Src w A (l.map zv)):Src w (A.map fun x=>x.add m) ((l.drop m).map zv):=fun xg=>by
 obtain⟨b,off,rfl,hc⟩:=h (by intro e;apply xg;rw[List.map_eq_nil_iff]at e;rw[e];simp)
 refine⟨b,off+m, ?_,fun j v hj=>?_⟩
 ·rw[Option.map_some,Addr.add_mid]
 rw[List.map_drop,List.getElem?_drop]at hj;have:=hc _ _ hj;rwa [← Nat.add_assoc]at this
theorem tp {w:World}{A:Option Addr}{l:List UInt8}(m:Nat) (h:Src w A (l.map zv)):Src w A ((l.take m).map zv):=fun xg=>by
 obtain⟨b,off,rfl,hc⟩:=h (by intro e;apply xg;rw[List.map_eq_nil_iff]at e;rw[e];simp)
 refine⟨b,off,rfl,fun j v hj=>?_⟩
 rw[List.map_take,List.getElem?_take]at hj
 split at hj
 ·exact hc _ _ hj
 cases hj
theorem Blk.srcB {w:World}{g:Nat}{t:TypeId}{l:List UInt8}(h:Blk w g t (zr l)):Src w (some ⟨g,0,none⟩) (l.map zv):=fun _=>⟨g,0,rfl,fun j v hj=>h.cell _ (by rw[Nat.zero_add];simpa [zr] using hj)⟩
theorem Blk.newAt {w:World}{g:Nat}{t:TypeId}{cs:Array Value}(_:Blk w g t cs) (t':TypeId) (cs':Array Value):Blk (w.alloc (.cells cs' t')) w.heap.size t' cs':=Blk.new w t' cs'
theorem gG {w:World}{o:Oper}{a:Act}{K:Act→World→Prop}{Q:Exit→Act→World→Prop}(d s:Operand)
  (ho:o.op=.call { callee:=.builtin .copy,args:=#[d,s],argTypes:=#[23,23] })
  (g off n c:Nat) (hd:a.eval d=.slice (some ⟨g,off,none⟩) n c) (A:Option Addr) (m c':Nat) (news:List UInt8) (hs:a.eval s=.slice A m c') (hm:m=news.length)
  (hr:Src w A (news.map zv)) (zC:news.length≤n) {t:TypeId} {l:List UInt8} (hB:Blk w g t (zr l)) (hfit:off+news.length≤l.length) (h0:news.length≠0)
  (h:∀ w',Blk w' g t (zr (spl l off news))→w.grownBy w' (some g)→K (a.put o.dst (goInt news.length)) w'):o.wp Tryz.prog a w K Q:=by
 subst hm;obtain⟨b,o2,rfl,hc⟩:=hr (by intro e;rw[List.map_eq_nil_iff]at e;rw[e]at h0;exact h0 rfl);have hl:(news.map zv).length=news.length:=by simp
 have YJ:=run_copy_row (P:=Tryz.prog) w 23 23 o.type 5 g off n c ⟨b,o2,none⟩ news.length c' (zr l) t (news.map zv) Tryz.underlying23 yM hB (by rw[hl];exact(Nat.min_eq_left zC).symm) (fun j v hj=>by rw[Addr.add_mid];exact hc j v hj) (by rw[zo,hl];exact hfit) (by simp[Value.oneCell'])
 unfold Oper.wp
 simp[execOp,ho,resolve,invoke,builtin,hd,hs,YJ,Result.andThen]
 refine h _ ?_ ⟨rfl,rfl,rfl,by simp[World.setRow],fun k hk xg=>setRow_other w g k _ (fun e=>xg (by rw[e]))⟩
 have e:(zr (spl l off news))=(List.take off (zr l).toList++(List.map zv news++List.drop (off+news.length) (zr l).toList)).toArray:=by
  simp only[zr,spl,List.toList_toArray,List.map_append,List.map_take,List.map_drop,List.append_assoc]
 simp only[List.length_map,zr,spl,List.toList_toArray,List.map_append,List.map_take,List.map_drop,List.append_assoc]at *
 exact setRow_heap w g _ _ t _ hB
theorem Wg {KA:Option Addr}{kn kc:Nat}{key:List UInt8}(uN:kn=key.length) (mN:kn≤kc) {NA:Option Addr}{nn nc:Nat}{nonce:List UInt8}(wd:nn=nonce.length)
  {AA:Option Addr} {an ac:Nat} {aad:List UInt8} (han:an=aad.length) (hac:an≤ac) {PA:Option Addr} {pn pc:Nat} {cipher:List UInt8} (hpn:pn=cipher.length) (pK:pn≤pc) (jk:pc≤9223372036854775807)
  (t:Nat) (ht:t≤16) (w:World) (hsk:Src w KA (key.map zv)) (hsn:Src w NA (nonce.map zv)) (nh:Src w AA (aad.map zv)) (ni:Src w PA (cipher.map zv)) :
  Calls Tryz.prog 39 #[.slice KA kn kc,.slice NA nn nc,.slice AA an ac,.slice PA pn pc,.int .i64 (t:Int)] w (wI w (wD key nonce aad cipher t)):=by
 have V:=Hh (iF (KA:=KA) (kn:=kn) (kc:=kc) (NA:=NA) (nn:=nn) (nc:=nc) t (by omega) w);have HK:=Hh (And.intro uN mN);have HN:=Hh wd;have HA:=Hh (And.intro han hac);have HP:=Hh (And.intro hpn (And.intro pK jk));have HT:=Hh ht;have HS:=Hh (And.intro hsk (And.intro hsn (And.intro nh ni)))
 have NO:∀ r:Int×List UInt8,wD key nonce aad cipher t=r→r.2=[]→Hid (wI w (wD key nonce aad cipher t) (.returned (.tuple #[.slice none 0 0,.int .i64 r.1])) w):=by
  rintro r rfl h
  exact⟨_,rfl,by rw[h];exact OwnB.nil _ _,Below.refl _ _⟩
 have WU:(0:Int)≤(t:Int)∧(t:Int)≤16:=by omega
 have hw:IntKind.i64.wrap (4096+(t:Int))=4096+(t:Int):=IntWalk.i64_in _ (by omega)
 cases hv:yk kn nn t with
 | false =>
  have N1:=NO (1,[]) (by rw[wD,← uN,← wd,if_pos hv]) rfl;rw[hv]at V;clear NO uN mN wd han hac hpn pK jk ht hsk hsn nh ni hv;go_enter Tryz.func39,Tryz.ntmps39
  go_wp2_with fail
  refine V.out.mono ?_
  rintro e w1 ⟨rfl,rfl⟩
  go_wp2_with fail
  go_ret2
  exact N1.out
 | true =>
 have HV:Hid (kn=16∧7≤nn∧nn≤13∧4≤t):=by
  simp only[yk,Bool.and_eq_true,decide_eq_true_eq]at hv
  exact⟨hv.1.1.1.1.1,hv.1.1.1.1.2,hv.1.1.1.2,hv.1.1.2⟩
 rw[hv]at V
 by_cases hbig:(4096:Int)<(an:Int)∨4096+(t:Int)<(pn:Int)
 ·have N1:=NO (8,[]) (by rw[wD,← uN,← wd,if_neg (by rw[hv];decide),if_pos (by omega)]) rfl;clear NO uN mN wd han hac hpn pK jk ht hsk hsn nh ni hv
  by_cases h1:(4096:Int)<(an:Int)
  ·clear hbig;go_enter Tryz.func39,Tryz.ntmps39
   go_wp2_with fail
   refine V.out.mono ?_
   rintro e w1 ⟨rfl,rfl⟩
   go_wp2_with fail
   go_ret2
   exact N1.out
  have h2:4096+(t:Int)<(pn:Int):=by omega
  clear hbig;go_enter Tryz.func39,Tryz.ntmps39
  go_wp2_with fail
  refine V.out.mono ?_
  rintro e w1 ⟨rfl,rfl⟩
  go_wp2_with fail
  go_ret2
  exact N1.out
 have h1:¬ (4096:Int)<(an:Int):=by omega
 have h2:¬ 4096+(t:Int)<(pn:Int):=by omega
 by_cases aT:(pn:Int)<(t:Int)
 ·have N1:=NO (2,[]) (by rw[wD,← uN,← wd,if_neg (by rw[hv];decide),if_neg (by omega),if_pos (by omega)]) rfl;clear NO hbig uN mN wd han hac hpn pK jk ht hsk hsn nh ni hv;go_enter Tryz.func39,Tryz.ntmps39
  go_wp2_with fail
  refine V.out.mono ?_
  rintro e w1 ⟨rfl,rfl⟩
  go_wp2_with fail
  go_ret2
  exact N1.out
 have N11:rv key nonce aad cipher t=false→Hid (wD key nonce aad cipher t=(11,[])):=fun h=>by
  rw[Hid,wD,← uN,← wd,if_neg (by rw[hv];decide),if_neg (by omega),if_neg (by omega),if_pos h]
 have N0:rv key nonce aad cipher t=true→Hid (wD key nonce aad cipher t=(0,tW key nonce cipher t)):=fun h=>by
  rw[Hid,wD,← uN,← wd,if_neg (by rw[hv];decide),if_neg (by omega),if_neg (by omega),if_neg (by rw[h];decide)]
 obtain⟨m,hm⟩:∃ m:Nat,m+t=pn:=⟨pn-t,by omega⟩
 have Di:IntKind.i64.wrap ((pn:Int)-(t:Int))=(m:Int):=by rw[IntWalk.i64_in _ (by omega)];omega
 have ft:(0:Int)≤(m:Int)∧(m:Int)≤(pn:Int)∧(pn:Int)≤(pc:Int):=by omega
 have HB:Hid (an≤4096∧pn≤4096+t∧m+t=pn):=by rw[Hid];omega
 have ow:=Hh (And.intro N11 N0);clear NO hbig uN mN wd han hac hpn pK jk ht hsk hsn nh ni hv N11 N0 hm;obtain rfl:kn=16:=HV.out.1;have NW:=Hh (aV (c:=kc) HK.out.1.symm w HS.out.1);go_enter Tryz.func39,Tryz.ntmps39
 go_wp2_with fail
 refine V.out.mono ?_
 rintro e w1 ⟨rfl,rfl⟩
 go_wp2_with fail
 refine NW.out.mono ?_
 rintro e w2 ⟨N,rfl,hN,hC,b2⟩
 have BS:=iB HK.out.1.symm N;have hz:=Blk.new w2 85 (zr (List.replicate 16 0));have jX:=hC.alloc (.cells (zr (List.replicate 16 0)) 85);have b3:=b2.alloc b2.size (.cells (zr (List.replicate 16 0)) 85)
 have DR:Hid (pn-m=(cipher.drop m).length∧(cipher.drop m).length=t∧pc≠m):=by
  have h1:=HP.out;have h2:=HB.out;have h3:=HV.out;rw[Hid,List.length_drop]
  omega
 obtain⟨M,hM⟩:∃ M,w2.heap.size=M:=⟨_,rfl⟩
 have HM:=Hh hM;have Hl:Hid (N<M∧w.heap.size≤M):=by have:=hC.lt;have:=b2.size;rw[Hid];omega
 rw[hM]at hz;clear hM hC b2 hN;go_upto_region 10 with fail
 try rw[HM.out]
 replace hz:=hz.drew
 refine zw 5 (fun _=>True) (by kernel_rfl) (trivial) (fun zy=>?_)
 refine TkS 0 rfl zy ?_
 refine TkS 1 rfl zy ?_
 refine TkS 2 rfl zy ?_
 refine TkS 3 rfl zy ?_
 refine To 4 rfl fun K hK=>?_
 rw[if_pos (by rfl)]
 refine gG (.tmp 46) (.tmp 49) rfl M 0 16 16 rfl _ _ _ (cipher.drop m) rfl DR.out.1 (by rw[if_neg DR.out.2.2];exact Zq m (HS.out.2.2.2.below b3.drew)) (by rw[DR.out.2.1];exact HT.out) hz (by rw[DR.out.2.1,List.length_replicate];have:=HT.out;omega) (by rw[DR.out.2.1];have:=HV.out;omega) fun w4 h4 og=>?_
 have rJ:=jX.drew.grown og (by intro e;injection e with e;have:=Hl.out;omega);have b4:=b3.drew.grown og b3.size (by rintro q ⟨⟩;have:=Hl.out;omega)
 refine Ko hK ?_ fun zy=>?_
 ·trivial
 clear hK K
 refine Wd ?_
 clear zy hz jX b3 og;rw[show spl (List.replicate 16 0) 0 (cipher.drop m)=spl (List.replicate 16 0) 0 (cipher.drop m) from rfl]at h4;obtain⟨G,hG⟩:∃ G,spl (List.replicate 16 (0:UInt8)) 0 (cipher.drop m)=G:=⟨_,rfl⟩
 rw[hG]at h4;have QF:G.length=16:=by rw[← hG,Uc (by rw[DR.out.2.1,List.length_replicate];have:=HT.out;omega),List.length_replicate]
 have HZ:Hid (uv key nonce G=uv key nonce (cipher.drop m)):=by rw[Hid,uv,uv,← hG,Ud _ _ (by rw[DR.out.2.1];exact HT.out)]
 have W9:=Hh QF;obtain⟨z,hz⟩:∃ z,uv key nonce G=z:=⟨_,rfl⟩
 have zl:z.length=16:=by rw[← hz];exact yf _ _
 have SP:=Hh zl;have Q3:=Hh hz;have TK:Hid (m=(cipher.take m).length):=by rw[Hid,List.length_take];have:=HP.out;have:=HB.out;omega
 obtain⟨bd,vG⟩:∃ b,rj key nonce (cipher.take m)=b:=⟨_,rfl⟩
 have Vy:=Hh vG;have fZ:Hid (bd.length=m):=by rw[Hid,← vG,vN];exact TK.out.symm
 clear hG QF hz zl vG V NW;have jk:(pc=m)=False:=eq_false DR.out.2.2;have VC:m≤pc:=by have:=HP.out;have:=HB.out;omega
 go_upto_region 11 with fail
 go_cut [15,16] (fun s15 s16 wx=>∃ A c X,s15=.slice A m c∧s16=.pointer (some ⟨X,0,none⟩)∧m≤c∧Blk wx X 85 (zr z)∧OwnB wx w.heap.size (.slice A m c) bd∧Below w.heap.size w wx∧Blk wx N 126 (zr (lS key)))
 case first =>
  replace rJ:=rJ.drew;replace h4:=h4.drew;replace b4:=b4.drew
  refine zw 13 (fun _=>True) (by kernel_rfl) (trivial) (fun zy=>?_)
  refine TkS 0 rfl zy ?_
  refine TkS 1 rfl zy ?_
  refine TkS 2 rfl zy ?_
  refine TkS 3 rfl zy ?_
  refine TkS 4 rfl zy ?_
  refine Ways.two (i:=5) (j:=10) rfl rfl (by kernel_rfl) (fun K hK=>?_) (fun K hK=>?_)
  ·rw[if_pos (by rfl)]
   refine wp_load_mid _ _ rfl M 0 rfl (G.map zv) _ (by have:=sT h4 0 16;rw[xm W9.out]at this;exact this) Tryz.underlying85 rfl (by rw[List.length_map,W9.out];kernel_rfl) ?_
   refine Ko hK ?_ fun zy=>?_
   ·trivial
   clear hK K
   refine Ways.two (i:=6) (j:=10) rfl rfl (by kernel_rfl) (fun K hK=>?_) (fun K hK=>?_)
   ·go_simp
    have ST:=qm BS (nc:=nc) HN.out (by have:=HV.out;have:=HN.out;omega) (TA:=PA) (tn:=m) (tc:=pc) (text:=cipher.take m) TK.out (by have:=HB.out;have:=TK.out;have:=HT.out;omega) (tag:=G) W9.out _ (HS.out.2.1.below b4) (tp m (HS.out.2.2.2.below b4)) rJ
    refine ST.mono ?_
    clear ST;rintro e w5 ⟨v,rfl,hO,yN⟩
    obtain⟨A,c,rfl,hc,wZ⟩:=hO.form;clear wZ;have Oe:=Hh hc;rw[Q3.out];rw[Vy.out]at hO hc⊢;rw[fZ.out]at hc⊢;rw[fZ.out]at hO;have bM:=fun q hq=>(hO.lt q hq).1
    try simp only[zj,zu]at bM
    replace bM:=Hh bM;replace hO:=hO.more b4.size
    try replace hX:=hX.below yN
    replace rJ:=rJ.below yN;replace b4:=b4.trans (yN.mono b4.size);clear h4
    refine Ko hK ?_ fun zy=>?_
    ·trivial
    clear hK K
    refine TkS 7 rfl zy ?_
    refine TkS 8 rfl zy ?_
    refine TkS 9 rfl zy ?_
    refine To 10 rfl fun K hK=>?_
    go_simp
    have hX:=rJ.newAt 85 (zr (List.replicate 16 0));have bP:=b4.size;have dS:=rJ.lt
    try simp only[zj,zu]at dS
    replace dS:=Hh dS
    try have jR:=Hh (hO.lt)
    try simp only[zj,zu]at hX
    try simp only[zj,zu]at bP
    replace bP:=Hh bP
    try replace hO:=hO.alloc (.cells (zr (List.replicate 16 0)) 85)
    replace b4:=b4.alloc b4.size (.cells (zr (List.replicate 16 0)) 85);replace rJ:=rJ.alloc (.cells (zr (List.replicate 16 0)) 85)
    try replace h4:=h4.alloc (.cells (zr (List.replicate 16 0)) 85)
    refine Ko hK ?_ fun zy=>?_
    ·trivial
    clear hK K
    refine TkS 11 rfl zy ?_
    refine To 12 rfl fun K hK=>?_
    rw[if_pos (by rfl)]
    refine zk _ _ _ rfl _ (zr z) rfl rfl _ _ hX (by rw[zo,SP.out];kernel_rfl) (by rw[zo,SP.out];rfl) (ym _) fun w7 jS xj=>?_
    have wj:=hO.kept xj (by cases hv:Value.ownBlock (.slice A m c) with | none=>exact .inl rfl | some q=>exact .inr (fun e=>by injection e with e;first | (have:=jR.out q hv;omega) | (have:=bM.out q hv;omega)));have Va:=rJ.grown xj (by intro e;injection e with e;have:=dS.out;omega);have b7:=b4.grown xj b4.size (by rintro q ⟨⟩;exact bP.out)
    refine Ko hK ?_ fun zy=>?_
    ·trivial
    clear hK K
    refine Wd ?_
    clear zy hO hX rJ b4 xj;clear VC hc;go_wp2_with fail
    go_meet
    exact⟨_,_,_,rfl,rfl,(by have:=Oe.out;rw[Vy.out,fZ.out]at this;exact this),jS,wj,b7,Va⟩
   go_simp
   have hX:=rJ.newAt 85 (zr (List.replicate 16 0));have bP:=b4.size;have dS:=rJ.lt
   try simp only[zj,zu]at dS
   replace dS:=Hh dS
   try have jR:=Hh (hO.lt)
   try simp only[zj,zu]at hX
   try simp only[zj,zu]at bP
   replace bP:=Hh bP
   try replace hO:=hO.alloc (.cells (zr (List.replicate 16 0)) 85)
   replace b4:=b4.alloc b4.size (.cells (zr (List.replicate 16 0)) 85);replace rJ:=rJ.alloc (.cells (zr (List.replicate 16 0)) 85)
   try replace h4:=h4.alloc (.cells (zr (List.replicate 16 0)) 85)
   refine Ko hK ?_ fun zy=>?_
   ·trivial
   clear hK K
   refine To 6 rfl fun K hK=>?_
   go_simp
   have ST:=qm BS (nc:=nc) HN.out (by have:=HV.out;have:=HN.out;omega) (TA:=PA) (tn:=m) (tc:=pc) (text:=cipher.take m) TK.out (by have:=HB.out;have:=TK.out;have:=HT.out;omega) (tag:=G) W9.out _ (HS.out.2.1.below b4) (tp m (HS.out.2.2.2.below b4)) rJ
   refine ST.mono ?_
   clear ST;rintro e w5 ⟨v,rfl,hO,yN⟩
   obtain⟨A,c,rfl,hc,wZ⟩:=hO.form;clear wZ;have Oe:=Hh hc;rw[Q3.out];rw[Vy.out]at hO hc⊢;rw[fZ.out]at hc⊢;rw[fZ.out]at hO;have bM:=fun q hq=>(hO.lt q hq).1
   try simp only[zj,zu]at bM
   replace bM:=Hh bM;replace hO:=hO.more b4.size
   try replace hX:=hX.below yN
   replace rJ:=rJ.below yN;replace b4:=b4.trans (yN.mono b4.size);clear h4
   refine Ko hK ?_ fun zy=>?_
   ·trivial
   clear hK K
   refine TkS 7 rfl zy ?_
   refine TkS 8 rfl zy ?_
   refine TkS 9 rfl zy ?_
   refine TkS 11 rfl zy ?_
   refine To 12 rfl fun K hK=>?_
   rw[if_pos (by rfl)]
   refine zk _ _ _ rfl _ (zr z) rfl rfl _ _ hX (by rw[zo,SP.out];kernel_rfl) (by rw[zo,SP.out];rfl) (ym _) fun w7 jS xj=>?_
   have wj:=hO.kept xj (by cases hv:Value.ownBlock (.slice A m c) with | none=>exact .inl rfl | some q=>exact .inr (fun e=>by injection e with e;first | (have:=jR.out q hv;omega) | (have:=bM.out q hv;omega)));have Va:=rJ.grown xj (by intro e;injection e with e;have:=dS.out;omega);have b7:=b4.grown xj b4.size (by rintro q ⟨⟩;exact bP.out)
   refine Ko hK ?_ fun zy=>?_
   ·trivial
   clear hK K
   refine Wd ?_
   clear zy hO hX rJ b4 xj;clear VC hc;go_wp2_with fail
   go_meet
   exact⟨_,_,_,rfl,rfl,(by have:=Oe.out;rw[Vy.out,fZ.out]at this;exact this),jS,wj,b7,Va⟩
  go_simp
  have hX:=rJ.newAt 85 (zr (List.replicate 16 0));have bP:=b4.size;have dS:=rJ.lt
  try simp only[zj,zu]at dS
  replace dS:=Hh dS
  try have jR:=Hh (hO.lt)
  try simp only[zj,zu]at hX
  try simp only[zj,zu]at bP
  replace bP:=Hh bP
  try replace hO:=hO.alloc (.cells (zr (List.replicate 16 0)) 85)
  replace b4:=b4.alloc b4.size (.cells (zr (List.replicate 16 0)) 85);replace rJ:=rJ.alloc (.cells (zr (List.replicate 16 0)) 85)
  try replace h4:=h4.alloc (.cells (zr (List.replicate 16 0)) 85)
  refine Ko hK ?_ fun zy=>?_
  ·trivial
  clear hK K
  refine To 5 rfl fun K hK=>?_
  rw[if_pos (by rfl)]
  refine wp_load_mid _ _ rfl M 0 rfl (G.map zv) _ (by have:=sT h4 0 16;rw[xm W9.out]at this;exact this) Tryz.underlying85 rfl (by rw[List.length_map,W9.out];kernel_rfl) ?_
  refine Ko hK ?_ fun zy=>?_
  ·trivial
  clear hK K
  refine To 6 rfl fun K hK=>?_
  go_simp
  have ST:=qm BS (nc:=nc) HN.out (by have:=HV.out;have:=HN.out;omega) (TA:=PA) (tn:=m) (tc:=pc) (text:=cipher.take m) TK.out (by have:=HB.out;have:=TK.out;have:=HT.out;omega) (tag:=G) W9.out _ (HS.out.2.1.below b4) (tp m (HS.out.2.2.2.below b4)) rJ
  refine ST.mono ?_
  clear ST;rintro e w5 ⟨v,rfl,hO,yN⟩
  obtain⟨A,c,rfl,hc,wZ⟩:=hO.form;clear wZ;have Oe:=Hh hc;rw[Q3.out];rw[Vy.out]at hO hc⊢;rw[fZ.out]at hc⊢;rw[fZ.out]at hO;have bM:=fun q hq=>(hO.lt q hq).1
  try simp only[zj,zu]at bM
  replace bM:=Hh bM;replace hO:=hO.more b4.size
  try replace hX:=hX.below yN
  replace rJ:=rJ.below yN;replace b4:=b4.trans (yN.mono b4.size);clear h4
  refine Ko hK ?_ fun zy=>?_
  ·trivial
  clear hK K
  refine TkS 7 rfl zy ?_
  refine TkS 8 rfl zy ?_
  refine TkS 9 rfl zy ?_
  refine TkS 11 rfl zy ?_
  refine To 12 rfl fun K hK=>?_
  rw[if_pos (by rfl)]
  refine zk _ _ _ rfl _ (zr z) rfl rfl _ _ hX (by rw[zo,SP.out];kernel_rfl) (by rw[zo,SP.out];rfl) (ym _) fun w7 jS xj=>?_
  have wj:=hO.kept xj (by cases hv:Value.ownBlock (.slice A m c) with | none=>exact .inl rfl | some q=>exact .inr (fun e=>by injection e with e;first | (have:=jR.out q hv;omega) | (have:=bM.out q hv;omega)));have Va:=rJ.grown xj (by intro e;injection e with e;have:=dS.out;omega);have b7:=b4.grown xj b4.size (by rintro q ⟨⟩;exact bP.out)
  refine Ko hK ?_ fun zy=>?_
  ·trivial
  clear hK K
  refine Wd ?_
  clear zy hO hX rJ b4 xj;clear VC hc;go_wp2_with fail
  go_meet
  exact⟨_,_,_,rfl,rfl,(by have:=Oe.out;rw[Vy.out,fZ.out]at this;exact this),jS,wj,b7,Va⟩
 case rest =>
 obtain⟨A,c,X,rfl,rfl,hc,hX,hO,hb,hC⟩:=hcut;have tl:=oB key nonce aad bd t;obtain⟨tg,Ti⟩:∃ x,qF key nonce aad bd t=x:=⟨_,rfl⟩
 rw[Ti]at tl;have Q2:=Hh Ti;have fa:=Hh tl;have AU:=Hh (rP BS (nc:=nc) HN.out (by have:=HV.out;have:=HN.out;omega) (AA:=AA) (ac:=ac) HA.out.1 HA.out.2 (by have:=HB.out;have:=HA.out;omega) (PA:=A) (pn:=m) (pc:=c) fZ.out.symm hc (by have:=HB.out;have:=fZ.out;have:=HT.out;omega) t (by have:=HV.out;have:=HT.out;omega) wc (HS.out.2.1.below hb) (HS.out.2.2.1.below hb) hO.src hC);rw[Ti]at AU;clear Ti tl;go_wp2_with fail
 refine AU.out.mono ?_
 rintro e w8 ⟨rfl,rm⟩
 replace hO:=OwnB.below hO rm;replace hX:=hX.below rm;replace hb:=hb.trans (rm.mono hb.size);clear AU rm hC jk VC;obtain⟨Y,hY⟩:∃ Y,w8.heap.size=Y:=⟨_,rfl⟩
 have Ex:=Hh hY;have QY:=Blk.new w8 85 (zr (List.replicate 16 0));rw[hY]at QY
 have Ka:Hid (X<Y∧(∀ q,Value.ownBlock (.slice A m c)=some q→q<Y)∧w.heap.size≤Y):=by
  refine⟨by have:=hX.lt;omega,fun q hq=>by have:=(OwnB.lt hO q hq).2;omega,by have:=hb.size;omega⟩
 have YZ:=hX.alloc (.cells (zr (List.replicate 16 0)) 85);have je:=OwnB.alloc hO (.cells (zr (List.replicate 16 0)) 85);have b9:=hb.alloc hb.size (.cells (zr (List.replicate 16 0)) 85);clear hX hO hb hY;go_wp2_with (with_reducible refine zx ?_)
 unfold yy
 rw[Ex.out]
 refine zt rfl _ _ _ rfl rfl Y (zr tg) rfl rfl _ _ QY (by rw[zo,fa.out];kernel_rfl) (by rw[zo,fa.out];rfl) (ym _) fun w10 Ut yY=>?_
 have Ur:=YZ.grown yY (by intro e;injection e with e;have:=Ka.out.1;omega);have gf:=OwnB.kept je yY (by cases hv:Value.ownBlock (.slice A m c) with | none=>exact .inl rfl | some q=>exact .inr (fun e=>by injection e with e;have:=Ka.out.2.1 q hv;omega));have b10:=b9.grown yY b9.size (by rintro q ⟨⟩;exact Ka.out.2.2);clear YZ je b9 QY yY;have Ez:Hid ((z.take t).length=t):=by rw[Hid,List.length_take,SP.out];have:=HT.out;omega
 have Lz:Hid ((tg.take t).length=t):=by rw[Hid,List.length_take,fa.out];have:=HT.out;omega
 obtain⟨r,hr⟩:∃ r,(z.take t==tg.take t)=r:=⟨_,rfl⟩
 have HR:Hid (rv key nonce aad cipher t=r):=by
  have hl:cipher.length-t=m:=by have:=HP.out;have:=HB.out;omega
  rw[Hid,rv,tW,hl,Vy.out,Q2.out,← HZ.out,Q3.out,hr]
 have Ea:Hid (tW key nonce cipher t=bd):=by
  have hl:cipher.length-t=m:=by have:=HP.out;have:=HB.out;omega
  rw[Hid,tW,hl,Vy.out]
 have Eo:=Hh hr;clear hr;go_upto_region 13 with fail
 replace Ur:=Ur.drew;replace Ut:=Ut.drew;replace b10:=b10.drew;replace gf:=OwnB.below gf (Below.refl _ _).drew
 refine zw 6 (fun _=>True) (by kernel_rfl) (trivial) (fun zy=>?_)
 refine TkS 0 rfl zy ?_
 refine TkS 1 rfl zy ?_
 refine TkS 2 rfl zy ?_
 refine TkS 3 rfl zy ?_
 refine To 4 rfl fun K hK=>?_
 go_simp
 refine(pa _ (some ⟨X,0,none⟩) (some ⟨Y,0,none⟩) (z.take t) (tg.take t) t t 16 16 Ez.out.symm Lz.out.symm (tp t Ur.srcB) (tp t Ut.srcB)).mono ?_
 rintro e w11 ⟨rfl,rfl⟩
 rw[Eo.out]
 refine Ko hK ?_ fun zy=>?_
 ·trivial
 clear hK K
 refine TkS 5 rfl zy ?_
 refine Wd ?_
 clear zy Ur Ut
 cases r with
 | false =>
  go_wp2_with fail
  go_ret2
  exact⟨_,by rw[(ow.out.1 HR.out).out];rfl,by rw[(ow.out.1 HR.out).out];exact OwnB.nil _ _,b10⟩
 | true =>
 go_wp2_with fail
 go_ret2
 exact⟨_,by rw[(ow.out.2 HR.out).out];rfl,by rw[(ow.out.2 HR.out).out,Ea.out];exact gf,b10⟩
end Go.Proofs.YtliomcphdnppnaaGreatDoor
