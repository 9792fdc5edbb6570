/- squeezed. Walks: the claims of an item, by t -/
import Derived.Test.YtgaoknihklmakabGreatDoorK27
set_option linter.unusedVariables false
set_option linter.unusedSimpArgs false
set_option maxRecDepth 100000
set_option maxHeartbeats 51200000
namespace Go.Proofs.YtgaoknihklmakabGreatDoor
open Go.RowKit
theorem jam{P:Prop}(h:P:=by
 go_wp2_with (with_reducible refine zx ?_)
 refine zv rfl _ _ _ rfl rfl _ _ rfl rfl _ _ zY.res zV rfl (sW _ _ _ _ _ _ _ _ _ _ _ rfl rfl rfl rfl rfl rfl rfl rfl rfl rfl rfl) fun wz hRz zS=>?_
 have yl:=zY.grows.grownOwn zY.hR (by omega) zS;clear zY zS;exact jeP):P:=h
theorem jaS{P:Prop}(h:P:=by exact⟨⟨zY.box.cell 0 rfl,zY.box.cell 1 rfl,zY.box.cell 2 rfl,zY.box.cell 3 rfl⟩,zY.var.cell 0 rfl,zY.var.cell 1 rfl,zY.var.cell 2 rfl,zY.var.cell 3 rfl,zY.var.cell 4 rfl,zY.var.cell 5 rfl,zY.var.cell 6 rfl,zY.var.cell 7 rfl,zY.var.cell 8 rfl,zY.var.cell 9 rfl,zY.var.cell 10 rfl⟩):P:=h
theorem jbK{P:Prop}(h:P:=by exact⟨zY.box.cell 0 rfl,zY.box.cell 1 rfl,zY.box.cell 2 rfl,zY.box.cell 3 rfl⟩):P:=h
theorem jb3{P:Prop}(h:P:=by exact⟨ms.cell 0 rfl,ms.cell 1 rfl,ms.cell 2 rfl,ms.cell 3 rfl⟩):P:=h
theorem jeA{P:Prop}(h:P:=by
 go_upto_region 10 with fail
 exact jam):P:=h
theorem ZP {H:Snap}(hTab:Tabs H) {x:Itm}(hvx:zR x=true) {ba:Option Addr}{bc:Nat}{ia:Option Addr}{ic:Nat}(hx:IsItem H ba bc ia ic x) (w:World) (hH:Holds w H) :
  Calls Tryz.prog 52 #[xx x ba bc ia ic] w (dI w H x):=by
 obtain⟨hX,hR,hV⟩:=jgk;rw[zh]at hR;rw[zh,zh]at hV;have zY:CS w H #[.int .i64 x.kind,.int .u64 x.n,.slice ba x.bytes.length bc,.slice ia x.items.length ic] xz _ H:=⟨(((Grows.refl hH).alloc (zU x ba bc ia ic)).alloc (.cells xz 63)).alloc (.cells xz 63),hX,hR,hV,hH.none_of_ge (by omega),hH.none_of_ge (by omega)⟩
 have HT:=Hh hTab;have HI:=Hh hx;have HV:=Hh hvx;clear hTab hx hvx hH hX hR hV;obtain⟨W3,Oz⟩:∃ W3,((w.alloc (zU x ba bc ia ic)).alloc (.cells xz 63)).alloc (.cells xz 63)=W3:=⟨_,rfl⟩
 rw[Oz]at zY;have jX:=Hh Oz;clear Oz;go_enter Tryz.func52,Tryz.ntmps52
 go_upto_region 4 with fail
 rw[show((w.alloc (.cells #[.int .i64 x.kind,.int .u64 x.n,.slice ba x.bytes.length bc,.slice ia x.items.length ic] 83)).alloc (.cells xz 63)).alloc (.cells xz 63)=W3 from jX.out];clear jX;go_wp2_with fail
 refine(j9 (HT.out.mono zY.grows.le) (HI.out.mono zY.grows.le) 1 (by omega) (by omega) _ zY.grows.holds zY.box).mono ?_
 rintro e w4 ⟨rfl,pd⟩
 replace zY:=zY.below pd;obtain⟨s1,wu⟩:∃ s,uY (sF x 1).bytes=s:=⟨_,rfl⟩
 rw[wu];have Ym:=Hh wu;clear pd wu;go_wp2_with fail
 refine(j9 (HT.out.mono zY.grows.le) (HI.out.mono zY.grows.le) 2 (by omega) (by omega) _ zY.grows.holds zY.box).mono ?_
 rintro e w5 ⟨rfl,qe⟩
 replace zY:=zY.below qe;obtain⟨s2,kL⟩:∃ s,uY (sF x 2).bytes=s:=⟨_,rfl⟩
 rw[kL];have Gs:=Hh kL;clear qe kL;go_wp2_with (with_reducible refine zx ?_)
 refine zu rfl _ _ _ rfl rfl (w.heap.size+2) 0 (.string s1) rfl rfl _ _ zY.var (by kernel_rfl) (by simp) rfl fun wt hBt hgt=>?_
 replace zY:=zY.set (cc':=(clC s1 ⟨#[]⟩ 0 0 0 0 0 none 0 0 none 0 0 none 0 0 none 0 0)) hBt hgt;clear hBt hgt;go_wp2_with (with_reducible refine zx ?_)
 refine zu rfl _ _ _ rfl rfl (w.heap.size+2) 1 (.string s2) rfl rfl _ _ zY.var (by kernel_rfl) (by simp) rfl fun wt' hBt hgt=>?_
 replace zY:=zY.set (cc':=(clC s1 s2 0 0 0 0 0 none 0 0 none 0 0 none 0 0 none 0 0)) hBt hgt;clear hBt hgt;go_wp2_with fail
 refine(mU (HT.out.mono zY.grows.le) (HI.out.mono zY.grows.le) 4 (by omega) (by omega) _ zY.grows.holds zY.box).mono ?_
 rintro e w6 ⟨rfl,sm⟩
 replace zY:=zY.below sm;obtain⟨tu,Ij⟩:∃ m,mO x 4=m:=⟨_,rfl⟩
 rw[Ij];have Gx:=Hh Ij;clear sm Ij;go_wp2_with fail
 refine(mU (HT.out.mono zY.grows.le) (HI.out.mono zY.grows.le) 5 (by omega) (by omega) _ zY.grows.holds zY.box).mono ?_
 rintro e w7 ⟨rfl,uq⟩
 replace zY:=zY.below uq;obtain⟨sf,Ii⟩:∃ m,mO x 5=m:=⟨_,rfl⟩
 rw[Ii];have Gu:=Hh Ii;clear uq Ii;go_wp2_with (with_reducible refine zx ?_)
 refine zu rfl _ _ _ rfl rfl (w.heap.size+2) 3 (.int .i64 tu) rfl rfl _ _ zY.var (by kernel_rfl) (by simp) rfl fun wt hBt hgt=>?_
 replace zY:=zY.set (cc':=(clC s1 s2 0 tu 0 0 0 none 0 0 none 0 0 none 0 0 none 0 0)) hBt hgt;clear hBt hgt;go_wp2_with (with_reducible refine zx ?_)
 refine zu rfl _ _ _ rfl rfl (w.heap.size+2) 2 (.int .i64 sf) rfl rfl _ _ zY.var (by kernel_rfl) (by simp) rfl fun wt' hBt hgt=>?_
 replace zY:=zY.set (cc':=(clC s1 s2 sf tu 0 0 0 none 0 0 none 0 0 none 0 0 none 0 0)) hBt hgt;clear hBt hgt;obtain⟨m8,f9⟩:∃ m,sF x 8=m:=⟨_,rfl⟩
 have Ll:=Hh f9;obtain⟨o8,Ic⟩:∃ o,vt x (zr 8)=o:=⟨_,rfl⟩
 have Gj:=Hh (And.intro Ic (show o8.getD zQ=m8 by rw[← f9,sF,Ic]));clear f9 Ic;go_upto_region 6 with fail
 go_cut [7] (fun s7 wx=>∃ (N:Nat) (za:Option Addr) (zb:Nat) (zc:Option Addr) (zd:Nat) (H9:Snap),s7=.pointer (some ⟨N,0,none⟩)∧CS w H #[.int .i64 x.kind,.int .u64 x.n,.slice ba x.bytes.length bc,.slice ia x.items.length ic] (clC s1 s2 sf tu 0 0 0 none 0 0 none 0 0 none 0 0 none 0 0) wx H9∧Blk wx N 83 #[.int .i64 m8.kind,.int .u64 m8.n,.slice za m8.bytes.length zb,.slice zc m8.items.length zd]∧IsItem H9 za zb zc zd m8)
 case first =>
  replace zY:=zY.drew
  refine zj 9 (fun wx=>wx.cell? ⟨w.heap.size,0,none⟩=some (.int .i64 x.kind)∧wx.cell? ⟨w.heap.size,1,none⟩=some (.int .u64 x.n)∧wx.cell? ⟨w.heap.size,2,none⟩=some (.slice ba x.bytes.length bc)∧wx.cell? ⟨w.heap.size,3,none⟩=some (.slice ia x.items.length ic)) (by kernel_rfl) (⟨zY.box.cell 0 rfl,zY.box.cell 1 rfl,zY.box.cell 2 rfl,zY.box.cell 3 rfl⟩) (fun zy=>?_)
  repeat' first
   | (
    revert k1
    intro hK
    go_simp
    refine(xK 8 (by omega) (by omega) _ zY.grows.holds).mono ?_
    rintro e w8 ⟨v1,rfl,xa1,xb1,xc1,xd1,H1,rfl,xg,vp⟩
    try replace hN:=hN.grow xg
    replace zY:=zY.grow xg
    refine Ko hK ?_ fun zy=>?_
    ·exact jbK
    clear hK K)
   | (
    revert k2
    intro hK
    go_simp
    refine(nH (HT.out.mono zY.grows.le) (HI.out.mono zY.grows.le).arg vp.arg _ zY.grows.holds).mono ?_
    rw[Gj.out.1];rintro e w9 ⟨v4,rfl,za,zb,zc,zd,H4,rfl,xj,eh⟩
    obtain⟨q8,NL⟩:∃ q,o8.isSome=q:=⟨_,rfl⟩
    rw[Gj.out.2]at eh⊢;rw[NL];clear NL
    try replace hN:=hN.grow xj
    replace zY:=zY.grow xj
    refine Ko hK ?_ fun zy=>?_
    ·exact jbK
    clear hK K)
   | (
    revert k6
    intro hK
    go_simp
    have hN:=zY.newI;replace zY:=zY.alloc (.cells xi 83)
    try simp only[ye,zh]at hN
    refine Ko hK ?_ fun zy=>?_
    ·exact jbK
    clear hK K)
   | (
    revert k7
    intro hK
    rw[if_pos (by rfl)]
    refine zD _ _ _ rfl _ _ rfl rfl _ _ hN.blk zt rfl (rU _ _ _ _ rfl rfl rfl rfl) fun w10 hD10 hg10=>?_
    have zY:=zY.put hN hg10
    refine Ko hK ?_ fun zy=>?_
    ·exact jbK
    clear hK K)
   | simp only[Act.put,zz1,zz2,zz3,zz4,zz5,zz6]
   | refine TkS 0 rfl zy ?_ (hs:=by decide +kernel)
   | refine TkS 3 rfl zy ?_ (hs:=by decide +kernel)
   | refine TkS 4 rfl zy ?_ (hs:=by decide +kernel)
   | refine TkS 5 rfl zy ?_ (hs:=by decide +kernel)
   | refine TkS 8 rfl zy ?_ (hs:=by decide +kernel)
   | refine Ways.two (i:=1) (j:=6) rfl rfl (by decide +kernel) (fun K k1=>?_) (fun K k6=>?_)
   | refine Ways.two (i:=2) (j:=6) rfl rfl (by decide +kernel) (fun K k2=>?_) (fun K k6=>?_)
   | refine To 6 rfl (fun K k6=>?_) (by decide +kernel)
   | refine To 7 rfl (fun K k7=>?_) (by decide +kernel)
   | refine To 2 rfl (fun K k2=>?_) (by decide +kernel)
   | refine To 1 rfl (fun K k1=>?_) (by decide +kernel)
   | (
    refine Wd ?_ (by decide +kernel)
    clear zy;go_wp2_with fail
    go_meet
    exact⟨_,za,zb,zc,zd,H4,rfl,zY,hD10,eh⟩)
 case rest =>
 clear zY;obtain⟨N7,za,zb,zc,zd,H9,rfl,zY,ms,jZ⟩:=hcut;obtain⟨o,ho⟩:∃ o,vt m8 (zr 1)=o:=⟨_,rfl⟩
 have HO:=Hh ho;have Om:Hid (vt (sF x 8) (zr 1)=o):=by rw[Hid,Ll.out,ho]
 obtain⟨v,hv⟩:∃ v,o.getD zQ=v:=⟨_,rfl⟩
 have Ls:=Hh hv;obtain⟨q,hq⟩:∃ q,o.isSome=q:=⟨_,rfl⟩
 have HQ:=Hh hq;clear ho hv hq;go_upto_region 7 with fail
 go_cut [9,10] (fun s9 s10 wx=>∃ (N:Nat) (ya:Option Addr) (yb:Nat) (yc:Option Addr) (yd:Nat) (Hy:Snap),s9=.pointer (some ⟨N,0,none⟩)∧s10=.bool q∧CS w H #[.int .i64 x.kind,.int .u64 x.n,.slice ba x.bytes.length bc,.slice ia x.items.length ic] (clC s1 s2 sf tu 0 0 0 none 0 0 none 0 0 none 0 0 none 0 0) wx Hy∧Blk wx N 83 #[.int .i64 v.kind,.int .u64 v.n,.slice ya v.bytes.length yb,.slice yc v.items.length yd]∧IsItem Hy ya yb yc yd v)
 case first =>
  replace zY:=zY.drew;replace ms:=ms.below (Below.refl _ _).drew
  refine zj 9 (fun wx=>wx.cell? ⟨N7,0,none⟩=some (.int .i64 m8.kind)∧wx.cell? ⟨N7,1,none⟩=some (.int .u64 m8.n)∧wx.cell? ⟨N7,2,none⟩=some (.slice za m8.bytes.length zb)∧wx.cell? ⟨N7,3,none⟩=some (.slice zc m8.items.length zd)) (by kernel_rfl) (⟨ms.cell 0 rfl,ms.cell 1 rfl,ms.cell 2 rfl,ms.cell 3 rfl⟩) (fun zy=>?_)
  repeat' first
   | (
    revert k1
    intro hK
    go_simp
    refine(xK 1 (by omega) (by omega) _ zY.grows.holds).mono ?_
    rintro e w8 ⟨v1,rfl,xa1,xb1,xc1,xd1,H1,rfl,xg,vp⟩
    try replace hN:=hN.grow xg
    replace zY:=zY.grow xg;replace ms:=ms.below xg.below;have jZ:=jZ.mono xg.le
    refine Ko hK ?_ fun zy=>?_
    ·exact jb3
    clear hK K)
   | (
    revert k2
    intro hK
    go_simp
    refine(nH (HT.out.mono zY.grows.le) jZ.arg vp.arg _ zY.grows.holds).mono ?_
    rw[HO.out];rintro e w9 ⟨v4,rfl,ya,yb,yc,yd,H4,rfl,xj,eh⟩
    rw[Ls.out]at eh⊢;rw[HQ.out]
    try replace hN:=hN.grow xj
    replace zY:=zY.grow xj;replace ms:=ms.below xj.below
    refine Ko hK ?_ fun zy=>?_
    ·exact jb3
    clear hK K)
   | (
    revert k6
    intro hK
    go_simp
    have hN:=zY.newI;have G7:=ms.lt;replace zY:=zY.alloc (.cells xi 83);replace ms:=ms.alloc (.cells xi 83)
    try simp only[ye,zh]at hN
    try simp only[ye,zh]at G7
    refine Ko hK ?_ fun zy=>?_
    ·exact jb3
    clear hK K)
   | (
    revert k7
    intro hK
    rw[if_pos (by rfl)]
    refine zD _ _ _ rfl _ _ rfl rfl _ _ hN.blk zt rfl (rU _ _ _ _ rfl rfl rfl rfl) fun w10 hD10 hg10=>?_
    have zY:=zY.put hN hg10;have ms:=ms.grown hg10 (fun e=>by injection e with e;omega)
    refine Ko hK ?_ fun zy=>?_
    ·exact jb3
    clear hK K)
   | simp only[Act.put,zz1,zz2,zz3,zz4,zz5,zz6]
   | refine TkS 0 rfl zy ?_ (hs:=by decide +kernel)
   | refine TkS 3 rfl zy ?_ (hs:=by decide +kernel)
   | refine TkS 4 rfl zy ?_ (hs:=by decide +kernel)
   | refine TkS 5 rfl zy ?_ (hs:=by decide +kernel)
   | refine TkS 8 rfl zy ?_ (hs:=by decide +kernel)
   | refine Ways.two (i:=1) (j:=6) rfl rfl (by decide +kernel) (fun K k1=>?_) (fun K k6=>?_)
   | refine Ways.two (i:=2) (j:=6) rfl rfl (by decide +kernel) (fun K k2=>?_) (fun K k6=>?_)
   | refine To 6 rfl (fun K k6=>?_) (by decide +kernel)
   | refine To 7 rfl (fun K k7=>?_) (by decide +kernel)
   | refine To 2 rfl (fun K k2=>?_) (by decide +kernel)
   | refine To 1 rfl (fun K k1=>?_) (by decide +kernel)
   | (
    refine Wd ?_ (by decide +kernel)
    clear zy;go_wp2_with fail
    go_meet
    exact⟨_,ya,yb,yc,yd,H4,rfl,rfl,zY,hD10,eh⟩)
 case rest =>
 clear zY ms jZ;obtain⟨N9,ya,yb,yc,yd,Hy,rfl,rfl,zY,M6,Ea⟩:=hcut;have n0:=M6.cell 0 rfl;have n1:=M6.cell 1 rfl;have n2:=M6.cell 2 rfl;have n3:=M6.cell 3 rfl;have FI:=Hh (bm (HT.out.mono zY.grows.le) Ea _ zY.grows.holds);clear M6 Ea HO Gj;go_wp2_with fail
 refine FI.out.mono ?_
 rintro e w12 (⟨rg,rfl,U3⟩ | ⟨ug,iw,rfl,U3⟩ | ⟨q8,a8,W9,ug,NL,rfl,cf,Ui⟩)
 ·have E:Hid (yE x=none):=by
   cases ho:o with
   | none=>exact og (by rw[Om.out,ho])
   | some v' =>
   have Rj:v'=v:=by rw[← Ls.out,ho];rfl
   refine kW (v:=v') (by rw[Om.out,ho]) ?_
   rw[Rj]
   unfold d9
   rw[rg];rfl
  replace zY:=(zY.below U3).alloc (.cells sI 61);clear FI rg U3 n0 n1 n2 n3
  cases q with
  | false =>
   exact jeA
  | true =>
  exact jeA
 ·have E:Hid (yE x=none):=by
   cases ho:o with
   | none=>exact og (by rw[Om.out,ho])
   | some v' =>
   have Rj:v'=v:=by rw[← Ls.out,ho];rfl
   refine kW (v:=v') (by rw[Om.out,ho]) ?_
   rw[Rj]
   cases hk:d9 v with
   | false=>rfl
   | true=>exact absurd ((gC v).1 hk).2 iw
  replace zY:=(zY.below U3).alloc (.cells sI 61);clear FI ug iw U3 n0 n1 n2 n3
  cases q with
  | false =>
   exact jeA
  | true =>
  exact jeA
 have Og:Hid (d9 v=true):=(gC v).2 ⟨ug,q8,NL⟩;have Mn:=Hh (ko ug NL);have hK:=Blk.new w12 61 (tY q8 a8);replace zY:=(zY.grow cf).alloc (.cells (tY q8 a8) 61);have wV:=Hh Ui;clear FI ug NL cf Ui n0 n1 n2 n3
 cases q with
 | false =>
  have E:Hid (yE x=none):=by
   cases ho:o with
   | none=>exact og (by rw[Om.out,ho])
   | some v'=>have h:=HQ.out;rw[ho]at h;cases h
  clear hK;exact jeA
 | true =>
 have Gk:Hid (vt (sF x 8) (zr 1)=some v):=by
  rw[Hid,Om.out]
  cases ho:o with
  | none=>have h:=HQ.out;rw[ho]at h;cases h
  | some v'=>have h:=Ls.out;rw[ho]at h;rw[← h];rfl
 have k0:=hK.cell 0 rfl;have k1:=hK.cell 1 rfl;have k2:=hK.cell 2 rfl;have k3:=hK.cell 3 rfl;have k4:=hK.cell 4 rfl;have k5:=hK.cell 5 rfl;have k6:=hK.cell 6 rfl;clear hK Om HQ Ls;go_upto_region 11 with fail
 go_wp2_with (with_reducible refine zx ?_)
 refine ts rfl _ _ _ rfl rfl (w.heap.size+2) 4 (tY q8 a8) rfl rfl _ _ zY.var dr (by simp) (oT _ _ _ _ _ _ _ rfl rfl rfl rfl rfl rfl rfl) fun wt hBt hgt=>?_
 obtain⟨c,hc⟩:∃ c:Cl,(⟨s1,s2,sf,tu,q8⟩:Cl)=c:=⟨_,rfl⟩
 replace zY:=zY.set (cc':=clQ ⟨s1,s2,sf,tu,q8⟩ a8) hBt hgt;rw[hc]at zY;have Lo:Hid (oZ x v=c):=by rw[Hid,oZ,Ym.out,Gs.out,Gu.out,Gx.out,Mn.out,hc]
 have pK:Hid (ClA W9 c a8):=by
  rw[← hc];have l1:=al (x:=x) 1;have l2:=al (x:=x) 2;have e1:=Ym.out;have e2:=Gs.out;have e3:=Gu.out;have e4:=Gx.out;subst e1 e2 e3 e4
  exact⟨by show(sF x 1).bytes.length≤_;omega,by show(sF x 2).bytes.length≤_;omega,by show _≤mO x 5∧mO x 5≤_;unfold mO;omega,by show _≤mO x 4∧mO x 4≤_;unfold mO;omega,wV.out⟩
 have It:=Hh zY.grows.le;clear hBt hgt hc wV Mn Ym Gs Gu Gx k0 k1 k2 k3 k4 k5 k6;have VC:Hid (∀ W,Holds W W9→Calls Tryz.prog 69 #[.agg (clQ c a8)] W fun e w'=>e=.returned (.bool (zE c))∧Below W.heap.size W w'):=fun W hW=>XZ (HT.out.mono It.out) pK.out W hW
 go_upto_region 12 with fail
 cases bf:zE c with
 | false =>
  have E:=Hh (kX Gk.out Og.out (.inl (by rw[Lo.out];exact bf)));rw[bf]at VC;clear bf;replace zY:=zY.drew
  refine zj 10 (fun wx=>wx.cell? ⟨w.heap.size+2,0,none⟩=some (.string c.issuer)∧wx.cell? ⟨w.heap.size+2,1,none⟩=some (.string c.subject)∧wx.cell? ⟨w.heap.size+2,2,none⟩=some (.int .i64 c.since)∧wx.cell? ⟨w.heap.size+2,3,none⟩=some (.int .i64 c.till)∧wx.cell? ⟨w.heap.size+2,4,none⟩=some (.int .i64 c.key.kty)∧wx.cell? ⟨w.heap.size+2,5,none⟩=some (.int .i64 c.key.crv)∧wx.cell? ⟨w.heap.size+2,6,none⟩=some (.int .i64 c.key.alg)∧wx.cell? ⟨w.heap.size+2,7,none⟩=some (.slice a8.ia c.key.kid.length a8.ic)∧wx.cell? ⟨w.heap.size+2,8,none⟩=some (.slice a8.xa c.key.x.length a8.xc)∧wx.cell? ⟨w.heap.size+2,9,none⟩=some (.slice a8.da c.key.d.length a8.dc)∧wx.cell? ⟨w.heap.size+2,10,none⟩=some (.slice a8.ka c.key.k.length a8.kc)) (by kernel_rfl) (⟨zY.var.cell 0 rfl,zY.var.cell 1 rfl,zY.var.cell 2 rfl,zY.var.cell 3 rfl,zY.var.cell 4 rfl,zY.var.cell 5 rfl,zY.var.cell 6 rfl,zY.var.cell 7 rfl,zY.var.cell 8 rfl,zY.var.cell 9 rfl,zY.var.cell 10 rfl⟩) (fun zy=>?_)
  refine TkS 0 rfl zy ?_
  refine To 1 rfl fun K hK=>?_
  go_simp
  refine(VC.out _ zY.grows.holds).mono ?_
  rintro e w13 ⟨rfl,gg⟩
  have zY:=zY.below gg
  refine Ko hK ?_ fun zy=>?_
  ·exact⟨zY.var.cell 0 rfl,zY.var.cell 1 rfl,zY.var.cell 2 rfl,zY.var.cell 3 rfl,zY.var.cell 4 rfl,zY.var.cell 5 rfl,zY.var.cell 6 rfl,zY.var.cell 7 rfl,zY.var.cell 8 rfl,zY.var.cell 9 rfl,zY.var.cell 10 rfl⟩
  clear hK K
  refine TkS 2 rfl zy ?_
  refine TkS 3 rfl zy ?_
  refine eT 4 rfl zy ?_
  refine eT 5 rfl zy ?_
  refine eT 6 rfl zy ?_
  refine eT 7 rfl zy ?_
  refine eT 8 rfl zy ?_
  refine TkS 9 rfl zy ?_
  refine Wd ?_
  clear zy;go_upto_region 13 with fail
  exact jam
 | true =>
 have WE:=Hh bf;rw[bf]at VC;clear bf;obtain⟨k,hk⟩:∃ k,Lib.compareBytes (zf x) (zf (xP c))=k:=⟨_,rfl⟩
 have Di:=Hh hk;obtain⟨y,hy⟩:∃ y,xP c=y:=⟨_,rfl⟩
 have HY:=Hh hy;have IT:Hid (∀ W,Holds W W9→Calls Tryz.prog 71 #[.agg (clQ c a8)] W fun e w'=>∃ v,e=.returned v∧Gives W W9 y v w'):=fun W hW=>by rw[← hy];exact V8 (HT.out.mono It.out) pK.out WE.out W hW
 have CM:Hid (∀ W Hw ja jb jc jd,W9.le Hw→Holds W Hw→IsItem Hw ja jb jc jd y→Calls Tryz.prog 70 #[xx x ba bc ia ic,xx y ja jb jc jd] W fun e w'=>e=.returned (.int .i64 k)∧Below W.heap.size W w'):=fun W Hw ja jb jc jd hl hW hi=>by
  have h:=aG ((HT.out.mono It.out).mono hl) ((HI.out.mono It.out).mono hl) hi HV.out (by rw[← hy];exact vj WE.out) W hW;rw[← hy,hk]at h;rw[← hy]
  exact h
 clear hk hy;replace zY:=zY.drew
 refine zj 10 (fun wx=>(wx.cell? ⟨w.heap.size,0,none⟩=some (.int .i64 x.kind)∧wx.cell? ⟨w.heap.size,1,none⟩=some (.int .u64 x.n)∧wx.cell? ⟨w.heap.size,2,none⟩=some (.slice ba x.bytes.length bc)∧wx.cell? ⟨w.heap.size,3,none⟩=some (.slice ia x.items.length ic))∧wx.cell? ⟨w.heap.size+2,0,none⟩=some (.string c.issuer)∧wx.cell? ⟨w.heap.size+2,1,none⟩=some (.string c.subject)∧wx.cell? ⟨w.heap.size+2,2,none⟩=some (.int .i64 c.since)∧wx.cell? ⟨w.heap.size+2,3,none⟩=some (.int .i64 c.till)∧wx.cell? ⟨w.heap.size+2,4,none⟩=some (.int .i64 c.key.kty)∧wx.cell? ⟨w.heap.size+2,5,none⟩=some (.int .i64 c.key.crv)∧wx.cell? ⟨w.heap.size+2,6,none⟩=some (.int .i64 c.key.alg)∧wx.cell? ⟨w.heap.size+2,7,none⟩=some (.slice a8.ia c.key.kid.length a8.ic)∧wx.cell? ⟨w.heap.size+2,8,none⟩=some (.slice a8.xa c.key.x.length a8.xc)∧wx.cell? ⟨w.heap.size+2,9,none⟩=some (.slice a8.da c.key.d.length a8.dc)∧wx.cell? ⟨w.heap.size+2,10,none⟩=some (.slice a8.ka c.key.k.length a8.kc)) (by kernel_rfl) (⟨⟨zY.box.cell 0 rfl,zY.box.cell 1 rfl,zY.box.cell 2 rfl,zY.box.cell 3 rfl⟩,zY.var.cell 0 rfl,zY.var.cell 1 rfl,zY.var.cell 2 rfl,zY.var.cell 3 rfl,zY.var.cell 4 rfl,zY.var.cell 5 rfl,zY.var.cell 6 rfl,zY.var.cell 7 rfl,zY.var.cell 8 rfl,zY.var.cell 9 rfl,zY.var.cell 10 rfl⟩) (fun zy=>?_)
 refine TkS 0 rfl zy ?_
 refine To 1 rfl fun K hK=>?_
 go_simp
 refine(VC.out _ zY.grows.holds).mono ?_
 rintro e w13 ⟨rfl,gg⟩
 have zY:=zY.below gg
 refine Ko hK ?_ fun zy=>?_
 ·exact jaS
 clear hK K
 refine TkS 2 rfl zy ?_
 refine TkS 3 rfl zy ?_
 refine cY 4 rfl zy ?_
 refine cY 5 rfl zy ?_
 refine To 6 rfl fun K hK=>?_
 go_simp
 refine(IT.out _ zY.grows.holds).mono ?_
 rintro e w14 ⟨v14,rfl,ja,jb,jc,jd,GN,rfl,eU,W4⟩
 have zY:=zY.grow eU
 refine Ko hK ?_ fun zy=>?_
 ·exact jaS
 clear hK K
 refine To 7 rfl fun K hK=>?_
 go_simp
 refine(CM.out _ _ _ _ _ _ eU.le zY.grows.holds W4).mono ?_
 rintro e w15 ⟨rfl,Fp⟩
 have zY:=zY.below Fp
 refine Ko hK ?_ fun zy=>?_
 ·exact jaS
 clear hK K
 refine cY 8 rfl zy ?_
 refine TkS 9 rfl zy ?_
 refine Wd ?_
 clear zy;have NX:=HI.out.nums;have NY:=W4.nums
 by_cases sL:k=0
 case neg =>
  have kb:(k != 0)=true:=by rw[bne_iff_ne];exact sL
  have kf:=eq_false sL;have E:=Hh (kX Gk.out Og.out (.inr (by rw[Lo.out];intro he;rw[← Di.out,he,uJ]at sL;exact sL rfl)));clear sL NX NY W4 eU;go_upto_region 13 with fail
  exact jam
 have E:Hid (yE x=some c):=by
  have he:x=xP c:=SJ HV.out (vj WE.out) NX (by rw[HY.out];exact NY) (by rw[Di.out];exact sL);have h:=Vg Gk.out Og.out (by rw[Lo.out];exact WE.out) (by rw[Lo.out];exact he.symm);rwa [Lo.out]at h
 have Mj:=Hh (pK.out.mono eU.le);subst sL;clear NX NY W4 eU;obtain⟨v0,v1,v2,v3,v4,v5,v6,v7,v8,v9,v10⟩:=jfY;go_upto_region 14 with fail
 go_wp2_with (with_reducible refine zx ?_)
 refine zv rfl _ _ _ rfl rfl _ _ rfl rfl _ _ zY.res zV rfl (sW _ _ _ _ _ _ _ _ _ _ _ rfl rfl rfl rfl rfl rfl rfl rfl rfl rfl rfl) fun wz hRz zS=>?_
 have yl:=zY.grows.grownOwn zY.hR (by omega) zS;clear zY zS;go_wp2_with fail
 refine zw rfl rfl hRz rfl rfl zV rfl ?_
 exact .inr ⟨c,a8,GN,E.out,rfl,yl,Mj.out⟩
theorem ZO {H:Snap}(hTab:Tabs H) (w:World) (hH:Holds w H) {A:Option Addr}{n c:Nat}{l:List UInt8}(hn:n=l.length) (hl:IsBytes H A c l) :
  Calls Tryz.prog 45 #[.slice A n c] w (iC w H l):=by
 have hR:=Blk.new w 63 xz;have Un:H w.heap.size=none:=hH.none_of_ge (Nat.le_refl _);have hG:=(Grows.refl hH).alloc (.cells xz 63);have DC:=Hh (ZI hTab _ hG.holds hn hl);have HT:=Hh hTab;clear hn hl hTab hH;go_enter Tryz.func45,Tryz.ntmps45
 go_wp2_with fail
 refine DC.out.mono ?_
 intro e w2 hs
 clear DC
 unfold vZ at hs
 cases hd:xh l with
 | error q =>
  exact jaL
 | ok x =>
 rw[hd]at hs;obtain⟨ja,jb,jc,jd,H2,rfl,zM,rV⟩:=hs;have RL:=Hh (mV hd);have HD:Hid (∀ z,yE x=z→um l=match z with | none=>.error 4 | some c=>.ok c):=by rintro z rfl;rw[um,hd];try rfl
 replace hR:=(hR.below zM.below).alloc (zU x ja jb jc jd);have YX:=zM.none Un (by simp);replace hG:=(hG.trans zM).alloc (zU x ja jb jc jd);have I0:=Hh hR.lt;have FR:=Hh (ZP (HT.out.mono hG.le) RL.out rV _ hG.holds);exact jav
theorem ZL {l:List UInt8}{c:Cl}(h:um l=.ok c):c.key.kty=1:=by
 unfold um at h
 cases hd:xh l with
 | error q=>rw[hd]at h;cases h
 | ok x =>
 rw[hd]at h
 simp only at h
 cases hc:yE x with
 | none=>rw[hc]at h;cases h
 | some c' =>
 rw[hc]at h;injection h with h
 subst h
 exact((vT _).1 (od hc).1).2.2.2.2.2.2.2.2.2.1
theorem V9 {w w':World}{H:Snap}{l:List UInt8}{e:Ending}(h:iC w H l e w'):∃ (c:Cl) (a:KAd) (q:Int),e=.returned (.tuple #[.agg (clQ c a),.int .i64 q])∧Below w.heap.size w w'∧qK l=(decide (q=0)&&decide (c.key.crv=6))∧(q=0→c.key.kty=1):=by
 rcases h with ⟨q,hq,rfl,hb⟩ | ⟨c,a,H',hq,rfl,hG,_⟩
 ·refine⟨mN,⟨none,0,none,0,none,0,none,0⟩,q,rfl,hb, ?_,fun h=>absurd h (by have:=np hq;omega)⟩
  exact jdU
 refine⟨c,a,0,rfl,hG.below, ?_,fun _=>ZL hq⟩
 unfold qK
 rw[hq];rfl
theorem eL {H:Snap}(hTab:Tabs H) {m:Mb}{a:MAd}(hm:MemA H m a) (w:World) (hH:Holds w H) :
  Calls Tryz.prog 30 #[.agg (y7 m a)] w fun e w'=>e=.returned (.bool (xX m))∧Below w.heap.size w w':=by
 obtain⟨ln,Pu⟩:∃ n,n=m.name.size:=⟨_,rfl⟩
 obtain⟨ls,ZC⟩:∃ n,n=m.sender.length:=⟨_,rfl⟩
 obtain⟨lc,eC⟩:∃ n,n=m.cred.length:=⟨_,rfl⟩
 obtain⟨lh,be⟩:∃ n,n=m.share.length:=⟨_,rfl⟩
 obtain⟨lw,eD⟩:∃ n,n=m.wrap.length:=⟨_,rfl⟩
 have PC:((m.name.size:Nat):Int)=(ln:Int):=by rw[Pu]
 have HT:=Hh hTab;have HH:=Hh hH;obtain⟨hB,hb⟩:=jgJ;have DC:=Hh (fun wx hx=>ZO hTab wx hx eC hm.cred);have VS:=Hh (fun w hH=>utf8_ValidString hTab w hH m.name (by have:=hm.name;omega));obtain⟨cp,mw⟩:∃ b,b=qK m.cred:=⟨_,rfl⟩
 obtain⟨vb,PJ⟩:∃ b,b=Lib.validD m.name.data.toList:=⟨_,rfl⟩
 have ES:Hid (xX m=(decide (1≤ln)&&decide (ln≤32)&&vb&&decide (1≤m.roles)&&decide (m.roles≤7)&&cp&&decide (lh=32))):=by rw[Hid,xX,← Pu,← mw,← PJ,← be]
 rw[← PJ]at VS;have R7:=Hh mw;show Calls Tryz.prog 30 #[.agg (yW m.name m.roles m.since a.sa m.sender.length a.sc a.ca m.cred.length a.cc a.ha m.share.length a.hc a.wa m.wrap.length a.wc)] w _
 rw[← ZC,← eC,← be,← eD];have n0:=hB.cell 0 rfl;have n2:=hB.cell 2 rfl;have n4:=hB.cell 4 rfl;clear Pu ZC eC be eD mw PJ hm hTab hH;go_enter Tryz.func30,Tryz.ntmps30
 by_cases h1:(ln:Int)<1
 ·have E:Hid (xX m=false):=by rw[Hid,ES.out,decide_eq_false (show ¬ 1≤ln by omega)];simp
  exact jej
 by_cases h2:(32:Int)<(ln:Int)
 ·have E:Hid (xX m=false):=by rw[Hid,ES.out,decide_eq_false (show ¬ ln≤32 by omega)];simp
  exact jej
 have W9:Hid (decide (1≤ln)=true∧decide (ln≤32)=true):=⟨decide_eq_true (by omega),decide_eq_true (by omega)⟩
 go_wp2_with fail
 refine(VS.out _ (HH.out.below hb (Nat.le_refl _))).mono ?_
 rintro e w4 ⟨rfl,pd⟩
 replace hB:=hB.below pd;replace hb:=hb.trans (pd.mono hb.size);clear pd n0 n2 n4 h1 h2;have n2:=hB.cell 2 rfl;have n4:=hB.cell 4 rfl
 cases vb with
 | false =>
  exact jfw
 | true =>
 simp only[Bool.not_true]
 by_cases h3:m.roles<1
 ·have E:Hid (xX m=false):=by rw[Hid,ES.out,decide_eq_false (show ¬ 1≤m.roles by omega)];simp
  exact jej
 by_cases h4:7<m.roles
 ·have E:Hid (xX m=false):=by rw[Hid,ES.out,decide_eq_false (show ¬ m.roles≤7 by omega)];simp
  exact jej
 by_cases h7:(lh:Int)=32
 case neg =>
  obtain⟨e1,e2,e3⟩:=xt h7;have E:Hid (xX m=false):=by rw[Hid,ES.out,decide_eq_false (show ¬ lh=32 by omega)];simp
  clear hB h7;exact jai
 obtain⟨e1,e2,e3⟩:=zK h7;have GO:Hid (decide (1≤m.roles)=true∧decide (m.roles≤7)=true∧decide (lh=32)=true):=⟨decide_eq_true (by omega),decide_eq_true (by omega),decide_eq_true (by omega)⟩
 clear h7;go_upto_region 3 with fail
 clear e1 e2 e3 n2 n4 h3 h4;have b3:=hB.cell 3 rfl;clear hB;go_wp2_with fail
 refine(DC.out _ (HH.out.below hb (Nat.le_refl _))).mono ?_
 intro e w5 h5
 obtain⟨c5,a5,q,rfl,qe,Ua,rX⟩:=V9 h5;rw[← R7.out]at Ua;have R8:=Hh Ua;have Dh:=Hh rX;clear h5 Ua DC R7 rX b3;have hQ:=Blk.new w5 63 (clQ c5 a5);replace hb:=hb.trans (qe.mono hb.size);replace hb:=hb.alloc hb.size (.cells (clQ c5 a5) 63);obtain⟨Q,qg⟩:∃ Q,w5.heap.size=Q:=⟨_,rfl⟩
 obtain⟨w3,eF⟩:∃ w3,w5.alloc (.cells (clQ c5 a5) 63)=w3:=⟨_,rfl⟩
 rw[qg,eF]at hQ;rw[eF]at hb;have HW:=Hh (And.intro qg eF);clear qg eF qe;go_upto_region 4 with fail
 try rw[HW.out.1]
 try rw[HW.out.2]
 clear HW;have v4:w3.cell? ⟨Q,4,none⟩=some (.int .i64 c5.key.kty):=hQ.cell 4 rfl;have v5:w3.cell? ⟨Q,5,none⟩=some (.int .i64 c5.key.crv):=hQ.cell 5 rfl;obtain⟨crv,U4⟩:∃ z,c5.key.crv=z:=⟨_,rfl⟩
 obtain⟨kty,LF⟩:∃ z,c5.key.kty=z:=⟨_,rfl⟩
 simp only[U4,LF]at v4 v5 R8 Dh
 clear U4 LF hQ
 by_cases h5:q=0
 case neg =>
  have E:Hid (xX m=false):=by rw[Hid,ES.out,R8.out,decide_eq_false h5];simp
  obtain⟨e1,e2,e3⟩:=xt h5;clear h5;exact jai
 obtain⟨e1,e2,e3⟩:=zK h5;obtain⟨f1,f2,f3⟩:=zK (Dh.out h5);have H5:=Hh h5;clear h5
 by_cases h6:crv=6
 case neg =>
  have E:Hid (xX m=false):=by rw[Hid,ES.out,R8.out,decide_eq_false h6];simp
  obtain⟨g1,g2,g3⟩:=xt h6;clear h6;exact jai
 obtain⟨g1,g2,g3⟩:=zK h6;have E:Hid (xX m=true):=by rw[Hid,ES.out,R8.out,W9.out.1,W9.out.2,GO.out.1,GO.out.2.1,GO.out.2.2,decide_eq_true H5.out,decide_eq_true h6];rfl
 clear h6;exact jai
theorem Qi {H:Snap}(hTab:Tabs H):SoundIs xX H:=fun K hl m a w hm hH=>eL (hTab.mono hl) hm w hH
def plC (l:List UInt8):Cl:=⟨⟨#[]⟩,⟨#[109]⟩,0,0,⟨1,6,0,[],l,[],[]⟩⟩
theorem yS {l:List UInt8}{n:Nat}(h:l.length=n+1):∃ x t,l=x::t∧t.length=n:=by
 cases l with
 | nil=>cases h
 | cons x t=>exact⟨x,t,rfl,by simpa using h⟩
theorem ae (l:List UInt8) (h:l.length=32):zE (plC l)=true∧xh (zf (xP (plC l)))=.ok (xP (plC l)):=by
 obtain⟨b0,l1,rfl,h1⟩:=yS h;obtain⟨b1,l2,rfl,h2⟩:=yS h1;obtain⟨b2,l3,rfl,h3⟩:=yS h2;obtain⟨b3,l4,rfl,h4⟩:=yS h3;obtain⟨b4,l5,rfl,h5⟩:=yS h4;obtain⟨b5,l6,rfl,h6⟩:=yS h5;obtain⟨b6,l7,rfl,h7⟩:=yS h6;obtain⟨b7,l8,rfl,h8⟩:=yS h7;obtain⟨b8,l9,rfl,h9⟩:=yS h8;obtain⟨b9,l10,rfl,Pf⟩:=yS h9;obtain⟨b10,l11,rfl,Lv⟩:=yS Pf;obtain⟨b11,l12,rfl,Yo⟩:=yS Lv;obtain⟨b12,l13,rfl,Hn⟩:=yS Yo;obtain⟨b13,l14,rfl,J2⟩:=yS Hn;obtain⟨b14,l15,rfl,J3⟩:=yS J2;obtain⟨b15,l16,rfl,Bt⟩:=yS J3;obtain⟨b16,l17,rfl,Bu⟩:=yS Bt;obtain⟨b17,l18,rfl,J4⟩:=yS Bu;obtain⟨b18,l19,rfl,Bv⟩:=yS J4;obtain⟨b19,l20,rfl,Bx⟩:=yS Bv;obtain⟨b20,l21,rfl,By⟩:=yS Bx;obtain⟨b21,l22,rfl,Bz⟩:=yS By
 obtain⟨b22,l23,rfl,Ho⟩:=yS Bz;obtain⟨b23,l24,rfl,tZ⟩:=yS Ho;obtain⟨b24,l25,rfl,Yp⟩:=yS tZ;obtain⟨b25,l26,rfl,Ou⟩:=yS Yp;obtain⟨b26,l27,rfl,jY⟩:=yS Ou;obtain⟨b27,l28,rfl,Ms⟩:=yS jY;obtain⟨b28,l29,rfl,C5⟩:=yS Ms;obtain⟨b29,l30,rfl,C8⟩:=yS C5;obtain⟨b30,l31,rfl,Z8⟩:=yS C8;obtain⟨b31,l32,rfl,UQ⟩:=yS Z8;have h0:l32=[]:=List.length_eq_zero_iff.1 UQ;subst h0
 exact⟨by kernel_rfl,by kernel_rfl⟩
theorem Sr {l:List UInt8}(h:l.length=32):qK (zf (xP (plC l)))=true:=by
 obtain⟨h1,h2⟩:=ae l h
 unfold qK um
 rw[h2]
 simp only
 rw[(j8 _ _).2 ⟨h1,rfl⟩];rfl
theorem cN {w:World}{o:Oper}{a:Act}{K:Act→World→Prop}{Q:Exit→Act→World→Prop}(s:Operand)
  (ho:o.op=.convert 22 9 s) (A:Option Addr) (n c:Nat) (l:List UInt8) (hs:a.eval s=.slice A n c) (hn:n=l.length) (hS:Src w A (l.map zT))
  (h:K (a.put o.dst (.string ⟨l.toArray⟩)) w):o.wp Tryz.prog a w K Q:=by
 have Yj:=xI hS n c hn
 unfold Oper.wp execOp
 simp only[ho,hs,Sem.run_bind,Sem.run_pure,Result.andThen_ok,Yj]
 exact h
theorem SG (z:Int) (h0:0≤z) (h1:z<256):∃ x:UInt8,Value.int .u8 (IntKind.u8.wrap z)=zT x∧(x.toNat:Int)=z:=by
 have e:((UInt8.ofNat z.toNat).toNat:Int)=z:=by rw[UInt8.toNat_ofNat_of_lt' (by show z.toNat<256;omega)];omega
 refine⟨UInt8.ofNat z.toNat, ?_,e⟩
 rw[zT,e];congr 1
 simp[IntKind.wrap,IntKind.bits,IntKind.signed]
 omega
theorem Vu:∀ x:Fin 128,Lib.validD [UInt8.ofNat x.val]=true:=by decide +kernel
theorem T6 (x:UInt8) {m:Mb}(hn:m.name=⟨[x].toArray⟩) (hx:x.toNat<128) (h1:1≤m.roles) (h2:m.roles≤7) (hc:qK m.cred=true) (hs:m.share.length=32):xX m=true:=by
 have hv:Lib.validD m.name.data.toList=true:=by
  rw[hn];have h:=Vu ⟨x.toNat,hx⟩;rw[UInt8.ofNat_toNat]at h
  exact h
 have hz:m.name.size=1:=by rw[hn];rfl
 unfold xX
 rw[hz,hv,hc,hs,decide_eq_true h1,decide_eq_true h2];rfl
theorem bz {H:Snap}(hTab:Tabs H) (n roles:Int) (w:World) (hH:Holds w H) :
  Calls Tryz.prog 13 #[.int .i64 n,.int .i64 roles] w (dK xX roles w H):=by
 have hT:=Blk.new w 27 gV;have rD:H w.heap.size=none:=hH.none_of_ge (Nat.le_refl _);have hG:=(Grows.refl hH).alloc (.cells gV 27);have HT:=Hh hTab;clear hTab hH;go_enter Tryz.func13,Tryz.ntmps13
 go_wp2_with fail
 refine(cQ n _).mono ?_
 rintro e w1 ⟨A1,c1,l1,rfl,Yu,ez⟩
 obtain⟨H1,xg,sZ,vJ⟩:=Fresh.snapB hG.holds ez;replace rD:=xg.none rD hT.lt;replace hT:=hT.below xg.below;replace hG:=hG.trans xg;obtain⟨cl,rE⟩:∃ cl:Cl,cl=⟨⟨#[]⟩,⟨#[109]⟩,0,0,⟨1,6,0,[],l1,[],[]⟩⟩:=⟨_,rfl⟩
 have HV:Hid (zE cl=true∧qK (zf (xP cl))=true):=by
  rw[show cl=plC l1 from rE]
  exact⟨(ae l1 Yu).1,Sr Yu⟩
 have UZ:ClA H1 cl ⟨none,0,A1,c1,none,0,none,0⟩:=by
  rw[rE]
  exact⟨by show(0:Nat)≤_;omega,by show(1:Nat)≤_;omega,by show(-9223372036854775808:Int)≤0∧(0:Int)≤9223372036854775807;omega,by show(-9223372036854775808:Int)≤0∧(0:Int)≤9223372036854775807;omega,⟨by simp,by simp,by simp,IsBytes.nil _,sZ,IsBytes.nil _,IsBytes.nil _⟩⟩
 have EN:Hid (Calls Tryz.prog 33 #[.agg (clC ⟨#[]⟩ ⟨#[109]⟩ 0 0 1 6 0 none 0 0 A1 32 c1 none 0 0 none 0 0)] w1 (WT w1 cl)):=by
  have h:=cF (HT.out.mono hG.le) UZ w1 hG.holds
  have e:clQ cl ⟨none,0,A1,c1,none,0,none,0⟩=clC ⟨#[]⟩ ⟨#[109]⟩ 0 0 1 6 0 none 0 0 A1 32 c1 none 0 0 none 0 0:=by
   rw[rE];show clC ⟨#[]⟩ ⟨#[109]⟩ 0 0 1 6 0 none 0 0 A1 l1.length c1 none 0 0 none 0 0=_
   rw[Yu]
  rw[e]at h
  exact h
 clear ez vJ sZ xg UZ rE Yu;go_wp2_with fail
 refine EN.out.mono ?_
 rintro e w2 ⟨r2,l2,cd,rfl,iq,lT,Co⟩
 have X6:Hid (l2.length≤1700):=by
  rw[Hid,lT]
  split
  ·rename_i hv
   exact(jm hv).2
  simp
 have B5:Hid (qK l2=true):=by rw[Hid,lT,if_pos HV.out.1];exact HV.out.2
 obtain⟨A2,c2,rfl,vJ⟩:=iq.own.form;obtain⟨H2,zM,sH,G0⟩:=Fresh.snapB hG.holds iq;replace rD:=zM.none rD hT.lt;replace hT:=hT.below zM.below;replace hG:=hG.trans zM;have Ro:=Hh sH;obtain⟨n2,rY⟩:∃ k,l2.length=k:=⟨_,rfl⟩
 have Ok:=Hh rY;rw[rY];clear iq lT Co vJ G0 sH zM EN rY;go_upto_region 2 with fail
 replace hT:=hT.below (Below.refl _ _).drew;replace hG:=hG.drew;have xO:=Snap.le.refl H2
 refine zj 16 (fun _=>True) (by kernel_rfl) (trivial) (fun zy=>?_)
 repeat' first
  | (
   revert k1
   intro hK
   go_simp
   refine(TS n 26 (by omega) (by omega) _).mono ?_
   rintro e w3 ⟨rfl,rfl⟩
   have Ln:=Hh (aZ n 26 (by omega))
   generalize dA n 26=r at Ln⊢
   have kw:IntKind.i64.wrap (97+r)=97+r:=IntWalk.i64_in _ (by have:=Ln.out;omega);obtain⟨x,hx,Rk⟩:=SG (97+r) (by have:=Ln.out;omega) (by have:=Ln.out;omega);have E8:=Hh Rk;clear Rk
   refine Ko hK ?_ fun zy=>?_
   ·trivial
   clear hK K)
  | (
   revert k4
   intro hK
   go_simp
   have hL:=hG.newBlk 5 #[zT x];have hT:=hT.alloc (.cells #[zT x] 5);have hG:=hG.alloc (.cells #[zT x] 5)
   refine Ko hK ?_ fun zy=>?_
   ·trivial
   clear hK K)
  | (
   revert k5
   intro hK
   refine cN _ rfl _ 1 1 [x] rfl rfl hL.srcM ?_
   refine Ko hK ?_ fun zy=>?_
   ·trivial
   clear hK K)
  | (
   revert k10
   intro hK
   go_simp
   refine(cQ _ _).mono ?_
   rintro e w10 ⟨A10,c10,l10,rfl,LG,lO⟩
   obtain⟨GM,sK,bJ,Jt⟩:=Fresh.snapB hG.holds lO;have rD:=sK.none rD hT.lt;have hT:=hT.below sK.below
   try have hL:=hL.below sK.below
   have hG:=hG.trans sK;have xO:=xO.trans sK.le;have bF:=Hh (And.intro bJ LG);clear Jt lO bJ sK LG
   refine Ko hK ?_ fun zy=>?_
   ·trivial
   clear hK K)
  | (
   revert k13
   intro hK
   go_simp
   refine(Wi (n:=16) _ (by omega) _).mono ?_
   rintro e w13 ⟨A13,c13,l13,rfl,LI,L9⟩
   obtain⟨Ar,kB,LC,Ju⟩:=Fresh.snapB hG.holds L9;have rD:=kB.none rD hT.lt;have hT:=hT.below kB.below
   try have hL:=hL.below kB.below
   have hG:=hG.trans kB;have xO:=xO.trans kB.le;have Tp:=Hh (And.intro LC (And.intro LI kB.le));clear Ju L9 LC kB LI
   refine Ko hK ?_ fun zy=>?_
   ·trivial
   clear hK K)
  | (
   revert k15
   intro hK
   refine zD _ _ _ rfl w.heap.size _ rfl rfl _ _ hT o9 rfl (Tm _ _ _ _ _ _ _ rfl rfl rfl rfl rfl rfl rfl) fun w15 gY hg15=>?_
   have hG:=hG.grownOwn rD (Nat.le_refl _) hg15;clear hg15 hT;go_simp
   refine Ko hK ?_ fun zy=>?_
   ·trivial
   clear hK K)
  | simp only[Act.put,zz1,zz2,zz3,zz4,zz5,zz6]
  | refine TkS 0 rfl zy ?_ (hs:=by decide +kernel)
  | refine TkS 6 rfl zy ?_ (hs:=by decide +kernel)
  | refine TkS 7 rfl zy ?_ (hs:=by decide +kernel)
  | refine TkS 8 rfl zy ?_ (hs:=by decide +kernel)
  | refine TkS 9 rfl zy ?_ (hs:=by decide +kernel)
  | refine TkS 11 rfl zy ?_ (hs:=by decide +kernel)
  | refine TkS 12 rfl zy ?_ (hs:=by decide +kernel)
  | refine TkS 2 rfl zy ?_ (hs:=by decide +kernel)
  | refine TkS 3 rfl zy ?_ (hs:=by decide +kernel)
  | refine TkS 14 rfl zy ?_ (hs:=by decide +kernel)
  | refine To 1 rfl (fun K k1=>?_) (by decide +kernel)
  | refine Ways.two (i:=4) (j:=10) rfl rfl (by decide +kernel) (fun K k4=>?_) (fun K k10=>?_)
  | refine Ways.two (i:=5) (j:=10) rfl rfl (by decide +kernel) (fun K k5=>?_) (fun K k10=>?_)
  | refine To 10 rfl (fun K k10=>?_) (by decide +kernel)
  | refine To 13 rfl (fun K k13=>?_) (by decide +kernel)
  | refine To 15 rfl (fun K k15=>?_) (by decide +kernel)
  | refine Ways.two (i:=5) (j:=13) rfl rfl (by decide +kernel) (fun K k5=>?_) (fun K k13=>?_)
  | refine To 5 rfl (fun K k5=>?_) (by decide +kernel)
  | refine Ways.two (i:=4) (j:=13) rfl rfl (by decide +kernel) (fun K k4=>?_) (fun K k13=>?_)
  | refine To 4 rfl (fun K k4=>?_) (by decide +kernel)
  | (
   refine Wd ?_ (by decide +kernel)
   clear zy;go_wp2_with fail
   refine vo rfl rfl gY rfl rfl o9 rfl ?_
   exact⟨⟨⟨[x].toArray⟩,[],roles,l2,l10,l13,0⟩,⟨none,0,A2,c2,A10,c10,A13,c13⟩,Ar,by rw[y7,Ok.out,bF.out.2,Tp.out.2.1];rfl,hG,⟨by show(1:Nat)≤_;omega,IsBytes.nil _,Ro.out.mono xO,bF.out.1.mono Tp.out.2.2,Tp.out.1,by show(0:Nat)≤_;omega,by show l2.length≤_;have:=X6.out;omega,by show l10.length≤_;have:=bF.out.2;omega,by show l13.length≤_;have:=Tp.out.2.1;omega⟩,⟨Tp.out.2.1,fun h1 h2=>by
    show xX _=true
    exact T6 x rfl (by have:=Ln.out;have:=E8.out;omega) h1 h2 B5.out bF.out.2⟩⟩)
theorem Se (n:Int) (w:World) :
  Calls Tryz.prog 25 #[.int .i64 n] w fun e w'=>∃ A c,e=.returned (.slice A 32 c)∧Fresh w (gU n) (.slice A 32 c) w':=by
 have xR:=Below.refl w.heap.size w;go_enter Tryz.func25,Tryz.ntmps25
 go_wp2_with fail
 go_loopw [3,5] (fun v3 v5 wr=>∃ (k:Nat) (VA:Option Addr) (vc vn:Nat) (l:List UInt8),k≤32∧v5=.int .i64 (k:Int)∧v3=.slice VA vn vc∧vn=k∧l.length=k∧Hid (l=(List.range k).map (bD n))∧OwnB wr w.heap.size (.slice VA vn vc) l∧Below w.heap.size w wr) (fun _ v5 _=>32-(intOf v5).toNat)
 case atStart=>exact⟨0,none,0,0,[],by omega,rfl,rfl,rfl,rfl,rfl,OwnB.nil _ _,xR⟩
 case round =>
 clear xR;obtain⟨k,VA,vc,vn,l,hk,rfl,rfl,iB,pO,Dl,vY,ws⟩:=hrel;have HK:=Hh hk;have HV:=Hh (And.intro iB pO);clear hk iB pO
 by_cases zB:k<32
 ·have iP:(k:Int)<32:=by omega
  have gw:decide ((k:Int)<32)=true:=decide_eq_true iP;have Uq:decide (k<32)=true:=decide_eq_true zB;have oa:=Hh zB;go_wp2_with (at_builtin;refine yq ?_)
  unfold z8
  obtain⟨x,hx⟩:∃ x:UInt8,Value.int .u8 (bits BinOp.xor IntKind.u8 (IntKind.u64.wrap n/2 ^ (8*(k%8))%256) (37*((k:Int)/8)))=zT x:=ji _
  have J1:Hid (x=bD n k):=by
   have h:=hx;rw[zT]at h;injection h with _ h
   rw[Hid,bD,Pa,h,Int.toNat_natCast,UInt8.ofNat_toNat]
  generalize bits BinOp.xor IntKind.u8 (IntKind.u64.wrap n/2 ^ (8*(k%8))%256) (37*((k:Int)/8))=v at hx⊢
  have HC:Hid ((#[.int .u8 v]:Array Value).toList=[x].map zT):=by simp[Hid,← hx]
  have mQ:=vY.alloc (.cells #[.int .u8 v] 5);have zC:=ws.alloc ws.size (.cells #[.int .u8 v] 5)
  refine zW rfl (.tmp 8) (.tmp 22) rfl w.heap.size (.slice VA vn vc) l rfl mQ _ 1 _ [x] rfl rfl (Src.new _ _ _ _ rfl _ HC.out) (by have:=HV.out;have:=HK.out;simp;omega) zC.size fun v' w7 vr yQ hat7=>?_
  have uq:=zC.grown yQ zC.size (fun q hq=>(mQ.lt q hq).1);obtain⟨VA',vc',rfl,gS⟩:=vr.form;clear gS yQ hat7 hx mQ zC vY ws;obtain⟨m,hm⟩:∃ m,l++[x]=m:=⟨_,rfl⟩
  have HM:Hid (m.length=k+1):=by have:=HV.out;rw[Hid,← hm,List.length_append];simp;omega
  have BO:Hid (m=(List.range (k+1)).map (bD n)):=by rw[Hid,← hm,List.range_succ,List.map_append,← Dl.out,J1.out];rfl
  rw[hm]at vr⊢;clear hm;go_wp2_with fail
  go_roundw
  case rel=>exact⟨k+1,VA',vc',_,m,by have:=oa.out;omega,by go_num,rfl,HM.out,HM.out,BO,vr,uq⟩
  case measure=>have:=oa.out;simp[intOf];omega
 have iP:¬ ((k:Int)<32):=by omega
 have gw:decide ((k:Int)<32)=false:=decide_eq_false iP;have Uq:decide (k<32)=false:=decide_eq_false zB;have Qu:k=32:=by have:=HK.out;omega
 have HL:Hid (l=gU n):=by rw[Hid,Dl.out,Qu];rfl
 obtain rfl:vn=32:=by have:=HV.out;omega
 clear zB Qu;go_wp2_with fail
 go_ret
 exact⟨VA,vc,rfl,by rw[← HL.out];exact⟨vY,ws⟩⟩
theorem ap {H:Snap}(hTab:Tabs H):SoundIsR xX H:=fun K hl m a w hm hH=>Zm (hTab.mono hl) hm w hH
theorem dp {H:Snap}(hTab:Tabs H):nF xX H:=fun K hk n roles wx hx=>bz (hTab.mono hk) n roles wx hx
theorem VF {H:Snap}(hTab:Tabs H):dJ H:=fun K hk gd w hD=>br (sP:=xX) ⟨ap (hTab.mono hk),dp (hTab.mono hk)⟩ cQ w hD
theorem bq {H:Snap}(hTab:Tabs H) {raw:Gp}{ra:EAd}(hraw:GpB H raw ra) {m:Mb}{ma:MAd}(hm:MemB H m ma) {A:Option Addr}{c:Nat}{l:List Int}(hl:IsInts H A c l)
  {PA SA:Option Addr} {pc sc:Nat} {px sx:List UInt8} (hpx:IsBytes H PA pc px) (hsx:IsBytes H SA sc sx) (name:ByteArray) (w:World) (hH:Holds w H) :
  Calls Tryz.prog 3 #[.agg (gpQ raw ra),.agg (y7 m ma),.slice A l.length c,.slice PA px.length pc,.slice SA sx.length sc,.string name] w (Zy w) :=
 iR (Qi hTab) (ap hTab) (dp hTab) Se (fun q n w hn=>Wi q (by omega) w) (VF hTab) hraw hm hl hpx hsx name w hH
end Go.Proofs.YtgaoknihklmakabGreatDoor
