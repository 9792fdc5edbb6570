/- squeezed. Walks: the claims of an item, by t -/
import Derived.Test.YtgcjjhibdbafmabGreatDoorK21
import Derived.OwnWalk
set_option linter.unusedVariables false
set_option linter.unusedSimpArgs false
set_option maxRecDepth 100000
set_option maxHeartbeats 51200000
namespace Go.Proofs.YtgcjjhibdbafmabGreatDoor
open Go.RowKit
theorem cW {H:Snap}(hTab:Tabs H) {x:Itm}(hvx:zL x=true) {ba:Option Addr}{bc:Nat}{ia:Option Addr}{ic:Nat}(hx:IsItem H ba bc ia ic x) (w:World) (hH:Holds w H) :
  Calls Tryz.prog 33 #[xj x ba bc ia ic] w (g8 w H x):=by
 have hX:=((Blk.new w 57 #[.int .i64 x.kind,.int .u64 x.n,.slice ba x.bytes.length bc,.slice ia x.items.length ic]).alloc (.cells yR 26)).alloc (.cells yR 26);have hR:=(Blk.new (w.alloc (zS x ba bc ia ic)) 26 yR).alloc (.cells yR 26);have hV:=Blk.new ((w.alloc (zS x ba bc ia ic)).alloc (.cells yR 26)) 26 yR;rw[zX]at hR;rw[zX,zX]at hV;have zV:CS w H #[.int .i64 x.kind,.int .u64 x.n,.slice ba x.bytes.length bc,.slice ia x.items.length ic] yR _ H:=⟨(((Grows.refl hH).alloc (zS x ba bc ia ic)).alloc (.cells yR 26)).alloc (.cells yR 26),hX,hR,hV,hH.none_of_ge (by omega),hH.none_of_ge (by omega)⟩
 have HT:=Hh hTab;have HI:=Hh hx;have HV:=Hh hvx;clear hTab hx hvx hH hX hR hV;obtain⟨W3,Sn⟩:∃ W3,((w.alloc (zS x ba bc ia ic)).alloc (.cells yR 26)).alloc (.cells yR 26)=W3:=⟨_,rfl⟩
 rw[Sn]at zV;have Ji:=Hh Sn;clear Sn;go_enter Tryz.func33,Tryz.ntmps33
 go_upto_region 4 with fail
 rw[show((w.alloc (.cells #[.int .i64 x.kind,.int .u64 x.n,.slice ba x.bytes.length bc,.slice ia x.items.length ic] 57)).alloc (.cells yR 26)).alloc (.cells yR 26)=W3 from Ji.out];clear Ji;go_wp2_with fail
 refine(lG (HT.out.mono zV.grows.le) (HI.out.mono zV.grows.le) 1 (by omega) (by omega) _ zV.grows.holds zV.box).mono ?_
 rintro e w4 ⟨rfl,rF⟩
 replace zV:=zV.below rF;obtain⟨s1,vC⟩:∃ s,ut (sF x 1).bytes=s:=⟨_,rfl⟩
 rw[vC];have MI:=Hh vC;clear rF vC;go_wp2_with fail
 refine(lG (HT.out.mono zV.grows.le) (HI.out.mono zV.grows.le) 2 (by omega) (by omega) _ zV.grows.holds zV.box).mono ?_
 rintro e w5 ⟨rfl,rG⟩
 replace zV:=zV.below rG;obtain⟨s2,ey⟩:∃ s,ut (sF x 2).bytes=s:=⟨_,rfl⟩
 rw[ey];have MJ:=Hh ey;clear rG ey;go_wp2_with (with_reducible refine zx ?_)
 refine zu rfl _ _ _ rfl rfl (w.heap.size+2) 0 (.string s1) rfl rfl _ _ zV.var (by kernel_rfl) (by simp) rfl fun wt hBt hgt=>?_
 replace zV:=zV.set (cc':=(clC s1 ⟨#[]⟩ 0 0 0 0 0 none 0 0 none 0 0 none 0 0 none 0 0)) hBt hgt;clear hBt hgt;go_wp2_with (with_reducible refine zx ?_)
 refine zu rfl _ _ _ rfl rfl (w.heap.size+2) 1 (.string s2) rfl rfl _ _ zV.var (by kernel_rfl) (by simp) rfl fun wt' hBt hgt=>?_
 replace zV:=zV.set (cc':=(clC s1 s2 0 0 0 0 0 none 0 0 none 0 0 none 0 0 none 0 0)) hBt hgt;clear hBt hgt;go_wp2_with fail
 refine(oK (HT.out.mono zV.grows.le) (HI.out.mono zV.grows.le) 4 (by omega) (by omega) _ zV.grows.holds zV.box).mono ?_
 rintro e w6 ⟨rfl,tf⟩
 replace zV:=zV.below tf;obtain⟨tu,NL⟩:∃ m,oG x 4=m:=⟨_,rfl⟩
 rw[NL];have MP:=Hh NL;clear tf NL;go_wp2_with fail
 refine(oK (HT.out.mono zV.grows.le) (HI.out.mono zV.grows.le) 5 (by omega) (by omega) _ zV.grows.holds zV.box).mono ?_
 rintro e w7 ⟨rfl,vJ⟩
 replace zV:=zV.below vJ;obtain⟨sf,NK⟩:∃ m,oG x 5=m:=⟨_,rfl⟩
 rw[NK];have ML:=Hh NK;clear vJ NK;go_wp2_with (with_reducible refine zx ?_)
 refine zu rfl _ _ _ rfl rfl (w.heap.size+2) 3 (.int .i64 tu) rfl rfl _ _ zV.var (by kernel_rfl) (by simp) rfl fun wt hBt hgt=>?_
 replace zV:=zV.set (cc':=(clC s1 s2 0 tu 0 0 0 none 0 0 none 0 0 none 0 0 none 0 0)) hBt hgt;clear hBt hgt;go_wp2_with (with_reducible refine zx ?_)
 refine zu rfl _ _ _ rfl rfl (w.heap.size+2) 2 (.int .i64 sf) rfl rfl _ _ zV.var (by kernel_rfl) (by simp) rfl fun wt' hBt hgt=>?_
 replace zV:=zV.set (cc':=(clC s1 s2 sf tu 0 0 0 none 0 0 none 0 0 none 0 0 none 0 0)) hBt hgt;clear hBt hgt;obtain⟨m8,ND⟩:∃ m,sF x 8=m:=⟨_,rfl⟩
 have Hf:=Hh ND;obtain⟨o8,NG⟩:∃ o,vz x (zt 8)=o:=⟨_,rfl⟩
 have ME:=Hh (And.intro NG (show o8.getD zG=m8 by rw[← ND,sF,NG]));clear ND NG;go_upto_region 6 with fail
 go_cut [7] (fun s7 wx=>∃ (N:Nat) (za:Option Addr) (zb:Nat) (zc:Option Addr) (zd:Nat) (H9:Snap),s7=.pointer (some ⟨N,0,none⟩)∧CS w H #[.int .i64 x.kind,.int .u64 x.n,.slice ba x.bytes.length bc,.slice ia x.items.length ic] (clC s1 s2 sf tu 0 0 0 none 0 0 none 0 0 none 0 0 none 0 0) wx H9∧Blk wx N 57 #[.int .i64 m8.kind,.int .u64 m8.n,.slice za m8.bytes.length zb,.slice zc m8.items.length zd]∧IsItem H9 za zb zc zd m8)
 case first =>
  replace zV:=zV.drew
  refine zr 9 (fun wx=>wx.cell? ⟨w.heap.size,0,none⟩=some (.int .i64 x.kind)∧wx.cell? ⟨w.heap.size,1,none⟩=some (.int .u64 x.n)∧wx.cell? ⟨w.heap.size,2,none⟩=some (.slice ba x.bytes.length bc)∧wx.cell? ⟨w.heap.size,3,none⟩=some (.slice ia x.items.length ic)) (by kernel_rfl) (⟨zV.box.cell 0 rfl,zV.box.cell 1 rfl,zV.box.cell 2 rfl,zV.box.cell 3 rfl⟩) (fun zy=>?_)
  repeat' first
   | (
    revert k1
    intro hK
    go_simp
    refine(xC 8 (by omega) (by omega) _ zV.grows.holds).mono ?_
    rintro e w8 ⟨v1,rfl,xa1,xb1,xc1,xd1,H1,rfl,xE,vy⟩
    try replace hN:=hN.grow xE
    replace zV:=zV.grow xE
    refine Ko hK ?_ fun zy=>?_
    ·exact⟨zV.box.cell 0 rfl,zV.box.cell 1 rfl,zV.box.cell 2 rfl,zV.box.cell 3 rfl⟩
    clear hK K)
   | (
    revert k2
    intro hK
    go_simp
    refine(ow (HT.out.mono zV.grows.le) (HI.out.mono zV.grows.le).arg vy.arg _ zV.grows.holds).mono ?_
    rw[ME.out.1];rintro e w9 ⟨v4,rfl,za,zb,zc,zd,H4,rfl,wh,Xg⟩
    obtain⟨q8,Qs⟩:∃ q,o8.isSome=q:=⟨_,rfl⟩
    rw[ME.out.2]at Xg⊢;rw[Qs];clear Qs
    try replace hN:=hN.grow wh
    replace zV:=zV.grow wh
    refine Ko hK ?_ fun zy=>?_
    ·exact⟨zV.box.cell 0 rfl,zV.box.cell 1 rfl,zV.box.cell 2 rfl,zV.box.cell 3 rfl⟩
    clear hK K)
   | (
    revert k6
    intro hK
    go_simp
    have hN:=zV.newI;replace zV:=zV.alloc (.cells xZ 57)
    try simp only[ym,zX]at hN
    refine Ko hK ?_ fun zy=>?_
    ·exact⟨zV.box.cell 0 rfl,zV.box.cell 1 rfl,zV.box.cell 2 rfl,zV.box.cell 3 rfl⟩
    clear hK K)
   | (
    revert k7
    intro hK
    rw[if_pos (by rfl)]
    refine yJ _ _ _ rfl _ _ rfl rfl _ _ hN.blk zv rfl (sX _ _ _ _ rfl rfl rfl rfl) fun w10 hD10 hg10=>?_
    have zV:=zV.put hN hg10
    refine Ko hK ?_ fun zy=>?_
    ·exact⟨zV.box.cell 0 rfl,zV.box.cell 1 rfl,zV.box.cell 2 rfl,zV.box.cell 3 rfl⟩
    clear hK K)
   | simp only[Act.put,zz1,zz2,zz3,zz4,zz5,zz6]
   | refine TkS 0 rfl zy ?_ (hs:=by decide +kernel)
   | refine TkS 3 rfl zy ?_ (hs:=by decide +kernel)
   | refine TkS 4 rfl zy ?_ (hs:=by decide +kernel)
   | refine TkS 5 rfl zy ?_ (hs:=by decide +kernel)
   | refine TkS 8 rfl zy ?_ (hs:=by decide +kernel)
   | refine Ways.two (i:=1) (j:=6) rfl rfl (by decide +kernel) (fun K k1=>?_) (fun K k6=>?_)
   | refine Ways.two (i:=2) (j:=6) rfl rfl (by decide +kernel) (fun K k2=>?_) (fun K k6=>?_)
   | refine To 6 rfl (fun K k6=>?_) (by decide +kernel)
   | refine To 7 rfl (fun K k7=>?_) (by decide +kernel)
   | refine To 2 rfl (fun K k2=>?_) (by decide +kernel)
   | refine To 1 rfl (fun K k1=>?_) (by decide +kernel)
   | (
    refine Wd ?_ (by decide +kernel)
    clear zy;go_wp2_with fail
    go_meet
    exact⟨_,za,zb,zc,zd,H4,rfl,zV,hD10,Xg⟩)
 case rest =>
 clear zV;obtain⟨N7,za,zb,zc,zd,H9,rfl,zV,oZ,ll⟩:=hcut;obtain⟨o,ho⟩:∃ o,vz m8 (zt 1)=o:=⟨_,rfl⟩
 have HO:=Hh ho;have Sh:Hid (vz (sF x 8) (zt 1)=o):=by rw[Hid,Hf.out,ho]
 obtain⟨v,hv⟩:∃ v,o.getD zG=v:=⟨_,rfl⟩
 have Pp:=Hh hv;obtain⟨q,hq⟩:∃ q,o.isSome=q:=⟨_,rfl⟩
 have HQ:=Hh hq;clear ho hv hq;go_upto_region 7 with fail
 go_cut [9,10] (fun s9 s10 wx=>∃ (N:Nat) (ya:Option Addr) (yb:Nat) (yc:Option Addr) (yd:Nat) (Hy:Snap),s9=.pointer (some ⟨N,0,none⟩)∧s10=.bool q∧CS w H #[.int .i64 x.kind,.int .u64 x.n,.slice ba x.bytes.length bc,.slice ia x.items.length ic] (clC s1 s2 sf tu 0 0 0 none 0 0 none 0 0 none 0 0 none 0 0) wx Hy∧Blk wx N 57 #[.int .i64 v.kind,.int .u64 v.n,.slice ya v.bytes.length yb,.slice yc v.items.length yd]∧IsItem Hy ya yb yc yd v)
 case first =>
  replace zV:=zV.drew;replace oZ:=oZ.below (Below.refl _ _).drew
  refine zr 9 (fun wx=>wx.cell? ⟨N7,0,none⟩=some (.int .i64 m8.kind)∧wx.cell? ⟨N7,1,none⟩=some (.int .u64 m8.n)∧wx.cell? ⟨N7,2,none⟩=some (.slice za m8.bytes.length zb)∧wx.cell? ⟨N7,3,none⟩=some (.slice zc m8.items.length zd)) (by kernel_rfl) (⟨oZ.cell 0 rfl,oZ.cell 1 rfl,oZ.cell 2 rfl,oZ.cell 3 rfl⟩) (fun zy=>?_)
  repeat' first
   | (
    revert k1
    intro hK
    go_simp
    refine(xC 1 (by omega) (by omega) _ zV.grows.holds).mono ?_
    rintro e w8 ⟨v1,rfl,xa1,xb1,xc1,xd1,H1,rfl,xE,vy⟩
    try replace hN:=hN.grow xE
    replace zV:=zV.grow xE;replace oZ:=oZ.below xE.below;have ll:=ll.mono xE.le
    refine Ko hK ?_ fun zy=>?_
    ·exact⟨oZ.cell 0 rfl,oZ.cell 1 rfl,oZ.cell 2 rfl,oZ.cell 3 rfl⟩
    clear hK K)
   | (
    revert k2
    intro hK
    go_simp
    refine(ow (HT.out.mono zV.grows.le) ll.arg vy.arg _ zV.grows.holds).mono ?_
    rw[HO.out];rintro e w9 ⟨v4,rfl,ya,yb,yc,yd,H4,rfl,wh,Xg⟩
    rw[Pp.out]at Xg⊢;rw[HQ.out]
    try replace hN:=hN.grow wh
    replace zV:=zV.grow wh;replace oZ:=oZ.below wh.below
    refine Ko hK ?_ fun zy=>?_
    ·exact⟨oZ.cell 0 rfl,oZ.cell 1 rfl,oZ.cell 2 rfl,oZ.cell 3 rfl⟩
    clear hK K)
   | (
    revert k6
    intro hK
    go_simp
    have hN:=zV.newI;have Lk:=oZ.lt;replace zV:=zV.alloc (.cells xZ 57);replace oZ:=oZ.alloc (.cells xZ 57)
    try simp only[ym,zX]at hN
    try simp only[ym,zX]at Lk
    refine Ko hK ?_ fun zy=>?_
    ·exact⟨oZ.cell 0 rfl,oZ.cell 1 rfl,oZ.cell 2 rfl,oZ.cell 3 rfl⟩
    clear hK K)
   | (
    revert k7
    intro hK
    rw[if_pos (by rfl)]
    refine yJ _ _ _ rfl _ _ rfl rfl _ _ hN.blk zv rfl (sX _ _ _ _ rfl rfl rfl rfl) fun w10 hD10 hg10=>?_
    have zV:=zV.put hN hg10;have oZ:=oZ.grown hg10 (fun e=>by injection e with e;omega)
    refine Ko hK ?_ fun zy=>?_
    ·exact⟨oZ.cell 0 rfl,oZ.cell 1 rfl,oZ.cell 2 rfl,oZ.cell 3 rfl⟩
    clear hK K)
   | simp only[Act.put,zz1,zz2,zz3,zz4,zz5,zz6]
   | refine TkS 0 rfl zy ?_ (hs:=by decide +kernel)
   | refine TkS 3 rfl zy ?_ (hs:=by decide +kernel)
   | refine TkS 4 rfl zy ?_ (hs:=by decide +kernel)
   | refine TkS 5 rfl zy ?_ (hs:=by decide +kernel)
   | refine TkS 8 rfl zy ?_ (hs:=by decide +kernel)
   | refine Ways.two (i:=1) (j:=6) rfl rfl (by decide +kernel) (fun K k1=>?_) (fun K k6=>?_)
   | refine Ways.two (i:=2) (j:=6) rfl rfl (by decide +kernel) (fun K k2=>?_) (fun K k6=>?_)
   | refine To 6 rfl (fun K k6=>?_) (by decide +kernel)
   | refine To 7 rfl (fun K k7=>?_) (by decide +kernel)
   | refine To 2 rfl (fun K k2=>?_) (by decide +kernel)
   | refine To 1 rfl (fun K k1=>?_) (by decide +kernel)
   | (
    refine Wd ?_ (by decide +kernel)
    clear zy;go_wp2_with fail
    go_meet
    exact⟨_,ya,yb,yc,yd,H4,rfl,rfl,zV,hD10,Xg⟩)
 case rest =>
 clear zV oZ ll;obtain⟨N9,ya,yb,yc,yd,Hy,rfl,rfl,zV,Q3,Jz⟩:=hcut;have n0:=Q3.cell 0 rfl;have n1:=Q3.cell 1 rfl;have n2:=Q3.cell 2 rfl;have n3:=Q3.cell 3 rfl;have FI:=Hh (fA (HT.out.mono zV.grows.le) Jz _ zV.grows.holds);clear Q3 Jz HO ME;go_wp2_with fail
 refine FI.out.mono ?_
 rintro e w12 (⟨ss,rfl,X7⟩ | ⟨vH,l9,rfl,X7⟩ | ⟨q8,a8,SU,vH,Qs,rfl,fg,XZ⟩)
 ·have E:Hid (xq x=none):=by
   cases ho:o with
   | none=>exact qL (by rw[Sh.out,ho])
   | some v' =>
   have Z6:v'=v:=by rw[← Pp.out,ho];rfl
   refine mY (v:=v') (by rw[Sh.out,ho]) ?_
   rw[Z6]
   unfold fq
   rw[ss];rfl
  replace zV:=(zV.below X7).alloc (.cells tM 24);clear FI ss X7 n0 n1 n2 n3
  cases q with
  | false =>
   go_upto_region 10 with fail
   go_wp2_with (with_reducible refine zx ?_)
   refine zp rfl _ _ _ rfl rfl _ _ rfl rfl _ _ zV.res zU rfl (uR _ _ _ _ _ _ _ _ _ _ _ rfl rfl rfl rfl rfl rfl rfl rfl rfl rfl rfl) fun wz hRz zT=>?_
   have zQ:=zV.grows.grownOwn zV.hR (by omega) zT;clear zV zT;go_wp2_with fail
   refine zw rfl rfl hRz rfl rfl zU rfl ?_
   exact .inl ⟨E.out,rfl,zQ.below⟩
  | true =>
  go_upto_region 10 with fail
  go_wp2_with (with_reducible refine zx ?_)
  refine zp rfl _ _ _ rfl rfl _ _ rfl rfl _ _ zV.res zU rfl (uR _ _ _ _ _ _ _ _ _ _ _ rfl rfl rfl rfl rfl rfl rfl rfl rfl rfl rfl) fun wz hRz zT=>?_
  have zQ:=zV.grows.grownOwn zV.hR (by omega) zT;clear zV zT;go_wp2_with fail
  refine zw rfl rfl hRz rfl rfl zU rfl ?_
  exact .inl ⟨E.out,rfl,zQ.below⟩
 ·have E:Hid (xq x=none):=by
   cases ho:o with
   | none=>exact qL (by rw[Sh.out,ho])
   | some v' =>
   have Z6:v'=v:=by rw[← Pp.out,ho];rfl
   refine mY (v:=v') (by rw[Sh.out,ho]) ?_
   rw[Z6]
   cases hk:fq v with
   | false=>rfl
   | true=>exact absurd ((jg v).1 hk).2 l9
  replace zV:=(zV.below X7).alloc (.cells tM 24);clear FI vH l9 X7 n0 n1 n2 n3
  cases q with
  | false =>
   go_upto_region 10 with fail
   go_wp2_with (with_reducible refine zx ?_)
   refine zp rfl _ _ _ rfl rfl _ _ rfl rfl _ _ zV.res zU rfl (uR _ _ _ _ _ _ _ _ _ _ _ rfl rfl rfl rfl rfl rfl rfl rfl rfl rfl rfl) fun wz hRz zT=>?_
   have zQ:=zV.grows.grownOwn zV.hR (by omega) zT;clear zV zT;go_wp2_with fail
   refine zw rfl rfl hRz rfl rfl zU rfl ?_
   exact .inl ⟨E.out,rfl,zQ.below⟩
  | true =>
  go_upto_region 10 with fail
  go_wp2_with (with_reducible refine zx ?_)
  refine zp rfl _ _ _ rfl rfl _ _ rfl rfl _ _ zV.res zU rfl (uR _ _ _ _ _ _ _ _ _ _ _ rfl rfl rfl rfl rfl rfl rfl rfl rfl rfl rfl) fun wz hRz zT=>?_
  have zQ:=zV.grows.grownOwn zV.hR (by omega) zT;clear zV zT;go_wp2_with fail
  refine zw rfl rfl hRz rfl rfl zU rfl ?_
  exact .inl ⟨E.out,rfl,zQ.below⟩
 have M7:Hid (fq v=true):=(jg v).2 ⟨vH,q8,Qs⟩;have Qb:=Hh (ml vH Qs);have hK:=Blk.new w12 24 (vV q8 a8);replace zV:=(zV.grow fg).alloc (.cells (vV q8 a8) 24);have wJ:=Hh XZ;clear FI vH Qs fg XZ n0 n1 n2 n3
 cases q with
 | false =>
  have E:Hid (xq x=none):=by
   cases ho:o with
   | none=>exact qL (by rw[Sh.out,ho])
   | some v'=>have h:=HQ.out;rw[ho]at h;cases h
  clear hK;go_upto_region 10 with fail
  go_wp2_with (with_reducible refine zx ?_)
  refine zp rfl _ _ _ rfl rfl _ _ rfl rfl _ _ zV.res zU rfl (uR _ _ _ _ _ _ _ _ _ _ _ rfl rfl rfl rfl rfl rfl rfl rfl rfl rfl rfl) fun wz hRz zT=>?_
  have zQ:=zV.grows.grownOwn zV.hR (by omega) zT;clear zV zT;go_wp2_with fail
  refine zw rfl rfl hRz rfl rfl zU rfl ?_
  exact .inl ⟨E.out,rfl,zQ.below⟩
 | true =>
 have MF:Hid (vz (sF x 8) (zt 1)=some v):=by
  rw[Hid,Sh.out]
  cases ho:o with
  | none=>have h:=HQ.out;rw[ho]at h;cases h
  | some v'=>have h:=Pp.out;rw[ho]at h;rw[← h];rfl
 have k0:=hK.cell 0 rfl;have k1:=hK.cell 1 rfl;have k2:=hK.cell 2 rfl;have k3:=hK.cell 3 rfl;have k4:=hK.cell 4 rfl;have k5:=hK.cell 5 rfl;have k6:=hK.cell 6 rfl;clear hK Sh HQ Pp;go_upto_region 11 with fail
 go_wp2_with (with_reducible refine zx ?_)
 refine vE rfl _ _ _ rfl rfl (w.heap.size+2) 4 (vV q8 a8) rfl rfl _ _ zV.var pH (by simp) (rE _ _ _ _ _ _ _ rfl rfl rfl rfl rfl rfl rfl) fun wt hBt hgt=>?_
 obtain⟨c,hc⟩:∃ c:Cl,(⟨s1,s2,sf,tu,q8⟩:Cl)=c:=⟨_,rfl⟩
 replace zV:=zV.set (cc':=clQ ⟨s1,s2,sf,tu,q8⟩ a8) hBt hgt;rw[hc]at zV;have Ug:Hid (qF x v=c):=by rw[Hid,qF,MI.out,MJ.out,ML.out,MP.out,Qb.out,hc]
 have qh:Hid (ClA SU c a8):=by
  rw[← hc];have l1:=eI (x:=x) 1;have l2:=eI (x:=x) 2;have e1:=MI.out;have e2:=MJ.out;have e3:=ML.out;have e4:=MP.out;subst e1 e2 e3 e4
  exact⟨by show(sF x 1).bytes.length≤_;omega,by show(sF x 2).bytes.length≤_;omega,by show _≤oG x 5∧oG x 5≤_;unfold oG;omega,by show _≤oG x 4∧oG x 4≤_;unfold oG;omega,wJ.out⟩
 have NV:=Hh zV.grows.le;clear hBt hgt hc wJ Qb MI MJ ML MP k0 k1 k2 k3 k4 k5 k6;have VC:Hid (∀ W,Holds W SU→Calls Tryz.prog 11 #[.agg (clQ c a8)] W fun e w'=>e=.returned (.bool (zB c))∧Below W.heap.size W w'):=fun W hW=>qO (HT.out.mono NV.out) qh.out W hW
 go_upto_region 12 with fail
 cases hvc:zB c with
 | false =>
  have E:=Hh (mZ MF.out M7.out (.inl (by rw[Ug.out];exact hvc)));rw[hvc]at VC;clear hvc;replace zV:=zV.drew
  refine zr 10 (fun wx=>wx.cell? ⟨w.heap.size+2,0,none⟩=some (.string c.issuer)∧wx.cell? ⟨w.heap.size+2,1,none⟩=some (.string c.subject)∧wx.cell? ⟨w.heap.size+2,2,none⟩=some (.int .i64 c.since)∧wx.cell? ⟨w.heap.size+2,3,none⟩=some (.int .i64 c.till)∧wx.cell? ⟨w.heap.size+2,4,none⟩=some (.int .i64 c.key.kty)∧wx.cell? ⟨w.heap.size+2,5,none⟩=some (.int .i64 c.key.crv)∧wx.cell? ⟨w.heap.size+2,6,none⟩=some (.int .i64 c.key.alg)∧wx.cell? ⟨w.heap.size+2,7,none⟩=some (.slice a8.ia c.key.kid.length a8.ic)∧wx.cell? ⟨w.heap.size+2,8,none⟩=some (.slice a8.xa c.key.x.length a8.xc)∧wx.cell? ⟨w.heap.size+2,9,none⟩=some (.slice a8.da c.key.d.length a8.dc)∧wx.cell? ⟨w.heap.size+2,10,none⟩=some (.slice a8.ka c.key.k.length a8.kc)) (by kernel_rfl) (⟨zV.var.cell 0 rfl,zV.var.cell 1 rfl,zV.var.cell 2 rfl,zV.var.cell 3 rfl,zV.var.cell 4 rfl,zV.var.cell 5 rfl,zV.var.cell 6 rfl,zV.var.cell 7 rfl,zV.var.cell 8 rfl,zV.var.cell 9 rfl,zV.var.cell 10 rfl⟩) (fun zy=>?_)
  refine TkS 0 rfl zy ?_
  refine To 1 rfl fun K hK=>?_
  go_simp
  refine(VC.out _ zV.grows.holds).mono ?_
  rintro e w13 ⟨rfl,kB⟩
  have zV:=zV.below kB
  refine Ko hK ?_ fun zy=>?_
  ·exact⟨zV.var.cell 0 rfl,zV.var.cell 1 rfl,zV.var.cell 2 rfl,zV.var.cell 3 rfl,zV.var.cell 4 rfl,zV.var.cell 5 rfl,zV.var.cell 6 rfl,zV.var.cell 7 rfl,zV.var.cell 8 rfl,zV.var.cell 9 rfl,zV.var.cell 10 rfl⟩
  clear hK K
  refine TkS 2 rfl zy ?_
  refine TkS 3 rfl zy ?_
  refine iB 4 rfl zy ?_
  refine iB 5 rfl zy ?_
  refine iB 6 rfl zy ?_
  refine iB 7 rfl zy ?_
  refine iB 8 rfl zy ?_
  refine TkS 9 rfl zy ?_
  refine Wd ?_
  clear zy;go_upto_region 13 with fail
  go_wp2_with (with_reducible refine zx ?_)
  refine zp rfl _ _ _ rfl rfl _ _ rfl rfl _ _ zV.res zU rfl (uR _ _ _ _ _ _ _ _ _ _ _ rfl rfl rfl rfl rfl rfl rfl rfl rfl rfl rfl) fun wz hRz zT=>?_
  have zQ:=zV.grows.grownOwn zV.hR (by omega) zT;clear zV zT;go_wp2_with fail
  refine zw rfl rfl hRz rfl rfl zU rfl ?_
  exact .inl ⟨E.out,rfl,zQ.below⟩
 | true =>
 have XO:=Hh hvc;rw[hvc]at VC;clear hvc;obtain⟨k,hk⟩:∃ k,Lib.compareBytes (zZ x) (zZ (xI c))=k:=⟨_,rfl⟩
 have JS:=Hh hk;obtain⟨y,hy⟩:∃ y,xI c=y:=⟨_,rfl⟩
 have HY:=Hh hy;have IT:Hid (∀ W,Holds W SU→Calls Tryz.prog 27 #[.agg (clQ c a8)] W fun e w'=>∃ v,e=.returned v∧Gives W SU y v w'):=fun W hW=>by rw[← hy];exact gI (HT.out.mono NV.out) qh.out XO.out W hW
 have CM:Hid (∀ W Hw ja jb jc jd,SU.le Hw→Holds W Hw→IsItem Hw ja jb jc jd y→Calls Tryz.prog 56 #[xj x ba bc ia ic,xj y ja jb jc jd] W fun e w'=>e=.returned (.int .i64 k)∧Below W.heap.size W w'):=fun W Hw ja jb jc jd hl hW hi=>by
  have h:=dY ((HT.out.mono NV.out).mono hl) ((HI.out.mono NV.out).mono hl) hi HV.out (by rw[← hy];exact xA XO.out) W hW;rw[← hy,hk]at h;rw[← hy]
  exact h
 clear hk hy;replace zV:=zV.drew
 refine zr 10 (fun wx=>(wx.cell? ⟨w.heap.size,0,none⟩=some (.int .i64 x.kind)∧wx.cell? ⟨w.heap.size,1,none⟩=some (.int .u64 x.n)∧wx.cell? ⟨w.heap.size,2,none⟩=some (.slice ba x.bytes.length bc)∧wx.cell? ⟨w.heap.size,3,none⟩=some (.slice ia x.items.length ic))∧wx.cell? ⟨w.heap.size+2,0,none⟩=some (.string c.issuer)∧wx.cell? ⟨w.heap.size+2,1,none⟩=some (.string c.subject)∧wx.cell? ⟨w.heap.size+2,2,none⟩=some (.int .i64 c.since)∧wx.cell? ⟨w.heap.size+2,3,none⟩=some (.int .i64 c.till)∧wx.cell? ⟨w.heap.size+2,4,none⟩=some (.int .i64 c.key.kty)∧wx.cell? ⟨w.heap.size+2,5,none⟩=some (.int .i64 c.key.crv)∧wx.cell? ⟨w.heap.size+2,6,none⟩=some (.int .i64 c.key.alg)∧wx.cell? ⟨w.heap.size+2,7,none⟩=some (.slice a8.ia c.key.kid.length a8.ic)∧wx.cell? ⟨w.heap.size+2,8,none⟩=some (.slice a8.xa c.key.x.length a8.xc)∧wx.cell? ⟨w.heap.size+2,9,none⟩=some (.slice a8.da c.key.d.length a8.dc)∧wx.cell? ⟨w.heap.size+2,10,none⟩=some (.slice a8.ka c.key.k.length a8.kc)) (by kernel_rfl) (⟨⟨zV.box.cell 0 rfl,zV.box.cell 1 rfl,zV.box.cell 2 rfl,zV.box.cell 3 rfl⟩,zV.var.cell 0 rfl,zV.var.cell 1 rfl,zV.var.cell 2 rfl,zV.var.cell 3 rfl,zV.var.cell 4 rfl,zV.var.cell 5 rfl,zV.var.cell 6 rfl,zV.var.cell 7 rfl,zV.var.cell 8 rfl,zV.var.cell 9 rfl,zV.var.cell 10 rfl⟩) (fun zy=>?_)
 refine TkS 0 rfl zy ?_
 refine To 1 rfl fun K hK=>?_
 go_simp
 refine(VC.out _ zV.grows.holds).mono ?_
 rintro e w13 ⟨rfl,kB⟩
 have zV:=zV.below kB
 refine Ko hK ?_ fun zy=>?_
 ·exact⟨⟨zV.box.cell 0 rfl,zV.box.cell 1 rfl,zV.box.cell 2 rfl,zV.box.cell 3 rfl⟩,zV.var.cell 0 rfl,zV.var.cell 1 rfl,zV.var.cell 2 rfl,zV.var.cell 3 rfl,zV.var.cell 4 rfl,zV.var.cell 5 rfl,zV.var.cell 6 rfl,zV.var.cell 7 rfl,zV.var.cell 8 rfl,zV.var.cell 9 rfl,zV.var.cell 10 rfl⟩
 clear hK K
 refine TkS 2 rfl zy ?_
 refine TkS 3 rfl zy ?_
 refine tZ 4 rfl zy ?_
 refine tZ 5 rfl zy ?_
 refine To 6 rfl fun K hK=>?_
 go_simp
 refine(IT.out _ zV.grows.holds).mono ?_
 rintro e w14 ⟨v14,rfl,ja,jb,jc,jd,Lv,rfl,iD,Yg⟩
 have zV:=zV.grow iD
 refine Ko hK ?_ fun zy=>?_
 ·exact⟨⟨zV.box.cell 0 rfl,zV.box.cell 1 rfl,zV.box.cell 2 rfl,zV.box.cell 3 rfl⟩,zV.var.cell 0 rfl,zV.var.cell 1 rfl,zV.var.cell 2 rfl,zV.var.cell 3 rfl,zV.var.cell 4 rfl,zV.var.cell 5 rfl,zV.var.cell 6 rfl,zV.var.cell 7 rfl,zV.var.cell 8 rfl,zV.var.cell 9 rfl,zV.var.cell 10 rfl⟩
 clear hK K
 refine To 7 rfl fun K hK=>?_
 go_simp
 refine(CM.out _ _ _ _ _ _ iD.le zV.grows.holds Yg).mono ?_
 rintro e w15 ⟨rfl,LR⟩
 have zV:=zV.below LR
 refine Ko hK ?_ fun zy=>?_
 ·exact⟨⟨zV.box.cell 0 rfl,zV.box.cell 1 rfl,zV.box.cell 2 rfl,zV.box.cell 3 rfl⟩,zV.var.cell 0 rfl,zV.var.cell 1 rfl,zV.var.cell 2 rfl,zV.var.cell 3 rfl,zV.var.cell 4 rfl,zV.var.cell 5 rfl,zV.var.cell 6 rfl,zV.var.cell 7 rfl,zV.var.cell 8 rfl,zV.var.cell 9 rfl,zV.var.cell 10 rfl⟩
 clear hK K
 refine tZ 8 rfl zy ?_
 refine TkS 9 rfl zy ?_
 refine Wd ?_
 clear zy;have NX:=HI.out.nums;have NY:=Yg.nums
 by_cases tB:k=0
 case neg =>
  have kb:(k != 0)=true:=by rw[bne_iff_ne];exact tB
  have kf:=eq_false tB;have E:=Hh (mZ MF.out M7.out (.inr (by rw[Ug.out];intro he;rw[← JS.out,he,uh]at tB;exact tB rfl)));clear tB NX NY Yg iD;go_upto_region 13 with fail
  go_wp2_with (with_reducible refine zx ?_)
  refine zp rfl _ _ _ rfl rfl _ _ rfl rfl _ _ zV.res zU rfl (uR _ _ _ _ _ _ _ _ _ _ _ rfl rfl rfl rfl rfl rfl rfl rfl rfl rfl rfl) fun wz hRz zT=>?_
  have zQ:=zV.grows.grownOwn zV.hR (by omega) zT;clear zV zT;go_wp2_with fail
  refine zw rfl rfl hRz rfl rfl zU rfl ?_
  exact .inl ⟨E.out,rfl,zQ.below⟩
 have E:Hid (xq x=some c):=by
  have he:x=xI c:=VO HV.out (xA XO.out) NX (by rw[HY.out];exact NY) (by rw[JS.out];exact tB);have h:=YR MF.out M7.out (by rw[Ug.out];exact XO.out) (by rw[Ug.out];exact he.symm);rwa [Ug.out]at h
 have Gz:=Hh (qh.out.mono iD.le);subst tB;clear NX NY Yg iD;have v0:=zV.var.cell 0 rfl;have v1:=zV.var.cell 1 rfl;have v2:=zV.var.cell 2 rfl;have v3:=zV.var.cell 3 rfl;have v4:=zV.var.cell 4 rfl;have v5:=zV.var.cell 5 rfl;have v6:=zV.var.cell 6 rfl;have v7:=zV.var.cell 7 rfl;have v8:=zV.var.cell 8 rfl;have v9:=zV.var.cell 9 rfl;have v10:=zV.var.cell 10 rfl;go_upto_region 14 with fail
 go_wp2_with (with_reducible refine zx ?_)
 refine zp rfl _ _ _ rfl rfl _ _ rfl rfl _ _ zV.res zU rfl (uR _ _ _ _ _ _ _ _ _ _ _ rfl rfl rfl rfl rfl rfl rfl rfl rfl rfl rfl) fun wz hRz zT=>?_
 have zQ:=zV.grows.grownOwn zV.hR (by omega) zT;clear zV zT;go_wp2_with fail
 refine zw rfl rfl hRz rfl rfl zU rfl ?_
 exact .inr ⟨c,a8,Lv,E.out,rfl,zQ,Gz.out⟩
theorem cV {H:Snap}(hTab:Tabs H) (w:World) (hH:Holds w H) {A:Option Addr}{n c:Nat}{l:List UInt8}(hn:n=l.length) (hl:IsBytes H A c l) :
  Calls Tryz.prog 17 #[.slice A n c] w (DecCOut w H l):=by
 have hR:=Blk.new w 26 yR;have Xh:H w.heap.size=none:=hH.none_of_ge (Nat.le_refl _);have hG:=(Grows.refl hH).alloc (.cells yR 26);have DC:=Hh (cO hTab _ hG.holds hn hl);have HT:=Hh hTab;clear hn hl hTab hH;go_enter Tryz.func17,Tryz.ntmps17
 go_wp2_with fail
 refine DC.out.mono ?_
 intro e w2 hs
 clear DC
 unfold vr at hs
 cases hd:xL l with
 | error q =>
  rw[hd]at hs;obtain⟨rfl,xJ⟩:=hs;have nc:((q:Int) != 0)=true:=by rw[bne_iff_ne];have:=sL hd;omega
  have Z5:((q:Int)=0)=False:=eq_false (by have:=sL hd;omega);have HD:Hid (tx l=.error q):=by rw[Hid,tx,hd]
  replace hR:=(hR.below xJ).alloc zg;replace hG:=(hG.below_ xJ).alloc zg;clear hd xJ;go_upto_region 3 with fail
  go_wp2_with (with_reducible refine zx ?_)
  refine zp rfl _ _ _ rfl rfl _ _ rfl rfl _ _ hR zU rfl (uR _ _ _ _ _ _ _ _ _ _ _ rfl rfl rfl rfl rfl rfl rfl rfl rfl rfl rfl) fun wz hRz zT=>?_
  have zQ:=hG.grownOwn Xh (Nat.le_refl _) zT;clear hG hR zT;go_wp2_with fail
  refine zw rfl rfl hRz rfl rfl zU rfl ?_
  exact .inl ⟨q,HD.out,rfl,zQ.below⟩
 | ok x =>
 rw[hd]at hs;obtain⟨ja,jb,jc,jd,H2,rfl,yq,sY⟩:=hs;have Ui:=Hh (oL hd);have HD:Hid (∀ z,xq x=z→tx l=match z with | none=>.error 4 | some c=>.ok c):=by rintro z rfl;rw[tx,hd];try rfl
 replace hR:=(hR.below yq.below).alloc (zS x ja jb jc jd);have bL:=yq.none Xh (by simp);replace hG:=(hG.trans yq).alloc (zS x ja jb jc jd);have Mm:=Hh hR.lt;have FR:=Hh (cW (HT.out.mono hG.le) Ui.out sY _ hG.holds);clear hd yq sY;go_wp2_with fail
 refine FR.out.mono ?_
 rintro e w5 (⟨uA,rfl,rG⟩ | ⟨c5,a5,H5,uA,rfl,xM,TS⟩)
 ·have E:=Hh (HD.out _ uA);replace hR:=(hR.below rG).alloc (.cells yR 26);replace hG:=(hG.below_ rG).alloc (.cells yR 26);clear uA rG FR HD;go_upto_region 6 with fail
  go_wp2_with (with_reducible refine zx ?_)
  refine zp rfl _ _ _ rfl rfl _ _ rfl rfl _ _ hR zU rfl (uR _ _ _ _ _ _ _ _ _ _ _ rfl rfl rfl rfl rfl rfl rfl rfl rfl rfl rfl) fun wz hRz zT=>?_
  have zQ:=hG.grownOwn bL (Nat.le_refl _) zT;clear hG hR zT;go_wp2_with fail
  refine zw rfl rfl hRz rfl rfl zU rfl ?_
  exact .inl ⟨4,E.out,rfl,zQ.below⟩
 have E:=Hh (HD.out _ uA);have Rx:=xM.none bL Mm.out;replace hR:=(hR.below xM.below).alloc (.cells (clQ c5 a5) 26);replace hG:=(hG.trans xM).alloc (.cells (clQ c5 a5) 26);have qh:=Hh TS;clear uA xM FR HD bL TS;go_upto_region 7 with fail
 go_wp2_with (with_reducible refine zx ?_)
 refine zp rfl _ _ _ rfl rfl _ _ rfl rfl _ _ hR zU rfl (uR _ _ _ _ _ _ _ _ _ _ _ rfl rfl rfl rfl rfl rfl rfl rfl rfl rfl rfl) fun wz hRz zT=>?_
 have zQ:=hG.grownOwn Rx (Nat.le_refl _) zT;clear hG hR zT;go_wp2_with fail
 refine zw rfl rfl hRz rfl rfl zU rfl ?_
 exact .inr ⟨c5,a5,H5,E.out,rfl,zQ,qh.out⟩
theorem lI {H:Snap}(hTab:Tabs H) {c:Cl}{a:KAd}(hc:ClA H c a) (w:World) (hH:Holds w H) :
  Calls Tryz.prog 10 #[.agg (clQ c a)] w (EncCOut w c):=by
 have hB:=Blk.new w 26 (clQ c a);have hG:=(Grows.refl hH).alloc (.cells (clQ c a) 26);have HT:=Hh hTab;have HC:=Hh hc;have VC:=Hh (qO hTab hc _ hG.holds);have b0:=hB.cell 0 rfl;have b1:=hB.cell 1 rfl;have b2:=hB.cell 2 rfl;have b3:=hB.cell 3 rfl;have b4:=hB.cell 4 rfl;have b5:=hB.cell 5 rfl;have b6:=hB.cell 6 rfl;have b7:=hB.cell 7 rfl;have b8:=hB.cell 8 rfl;have b9:=hB.cell 9 rfl;have b10:=hB.cell 10 rfl;clear hTab hc hH;go_enter Tryz.func10,Tryz.ntmps10
 go_wp2_with fail
 refine VC.out.mono ?_
 rintro e w2 ⟨rfl,xJ⟩
 replace hB:=hB.below xJ;replace hG:=hG.below_ xJ;clear VC xJ b0 b1 b2 b3 b4 b5 b6 b7 b8 b9 b10
 cases hv:zB c with
 | false =>
  clear hB;have HV:=Hh hv;clear hv;go_wp2_with fail
  go_ret2
  exact⟨_,[],1,rfl,⟨OwnB.nil _ _,hG.below⟩,by rw[if_neg (by rw[HV.out];simp)],by rw[if_neg (by rw[HV.out];simp)]⟩
 | true =>
 have HV:=Hh hv;clear hv;have b0:=hB.cell 0 rfl;have b1:=hB.cell 1 rfl;have b2:=hB.cell 2 rfl;have b3:=hB.cell 3 rfl;have b4:=hB.cell 4 rfl;have b5:=hB.cell 5 rfl;have b6:=hB.cell 6 rfl;have b7:=hB.cell 7 rfl;have b8:=hB.cell 8 rfl;have b9:=hB.cell 9 rfl;have b10:=hB.cell 10 rfl;clear hB;go_wp2_with fail
 refine(gI (HT.out.mono hG.le) (HC.out.mono hG.le) HV.out _ hG.holds).mono ?_
 rintro e w3 ⟨v3,rfl,xa,xb,xc,xd,H3,rfl,yQ,bh⟩
 replace hG:=hG.trans yQ;clear yQ b0 b1 b2 b3 b4 b5 b6 b7 b8 b9 b10;obtain⟨y,hy⟩:∃ y,y=xI c:=⟨_,rfl⟩
 rw[← hy]at bh⊢;have HY:=Hh hy;clear hy;have EN:=Hh (cP (HT.out.mono hG.le) bh.arg _ hG.holds);clear bh;go_wp2_with fail
 refine EN.out.mono ?_
 rintro e w4 (⟨l9,_,_⟩ | ⟨_,r,rfl,hf⟩)
 ·rw[HY.out,xA HV.out]at l9
  cases l9
 have hb:=hG.below;go_wp2_with fail
 go_ret2
 exact⟨r,zZ y,0,rfl,⟨hf.own.more hb.size,hb.trans (hf.2.mono hb.size)⟩,by rw[if_pos HV.out,HY.out],by rw[if_pos HV.out]⟩
theorem lP (n:Nat):(madeCells (Value.int .u8 0).cells (n*1)).toList=(List.replicate n (0:UInt8)).map zI:=by
 apply List.ext_getElem?
 intro j
 simp[madeCells,Value.cells,List.getElem?_replicate]
 by_cases h:j<n
 ·simp[h,zI,Nat.mod_one]
 simp[h]
theorem YN {w wr:World}{H Hr:Snap}(hG:Grows w H wr Hr) {base:Nat}{g c:Nat}{l:List UInt8}(hO:OwnB wr base (.slice (some ⟨g,0,none⟩) l.length c) l) (h0:Hr g=none) (hw:w.heap.size≤g) :
  ∃ H',Grows w H wr H'∧Hr.le H'∧IsBytes H' (some ⟨g,0,none⟩) c l:=by
 obtain⟨H',hl,hh,hf,_,hi⟩:=hO.snap hG.holds (fun q hq=>by cases hq;exact h0)
 refine⟨H',⟨hG.below,hG.le.trans hl,hh,fun b o hb=>?_⟩,hl,hi⟩
 rcases hf b o hb with h4 | h4
 ·exact hG.fresh b o h4
 simp at h4;exact .inr (by omega)
def cA:Cl:=⟨⟨#[]⟩,⟨#[97]⟩,0,0,⟨1,4,0,[],List.replicate 32 0,[],[]⟩⟩
def cE:Cl:=⟨⟨#[]⟩,⟨#[]⟩,0,5,yF⟩
theorem VN:zB cA=true:=by decide +kernel
theorem R8:zZ (xI cA)=[0xa2,2,0x61,97,8,0xa1,1,0xa3,1,1,0x20,4,0x21,0x58,0x20]++List.replicate 32 0:=by decide +kernel
theorem OR (H:Snap):ClA H cE ⟨none,0,none,0,none,0,none,0⟩ :=
 ⟨by show(0:Nat)≤_;omega,by show(0:Nat)≤_;omega,by show(-9223372036854775808:Int)≤0∧(0:Int)≤9223372036854775807;omega,by show(-9223372036854775808:Int)≤5∧(5:Int)≤9223372036854775807;omega,(bE H).key⟩
abbrev eC:Array Value:=#[.string ⟨#[]⟩,.string ⟨#[]⟩,.int .i64 0,.int .i64 5,.int .i64 0,.int .i64 0,.int .i64 0,.slice none 0 0,.slice none 0 0,.slice none 0 0,.slice none 0 0]
theorem dn (n:Int) (h1 : -9223372036854775808≤n) (h2:n≤9223372036854775807) (b:Bool) (hb:wI cE n=b) (W:World) :
  Calls Tryz.prog 13 #[.agg eC,.int .i64 n] W fun e w'=>e=.returned (.bool b)∧Below W.heap.size W w':=by
 have h:=nh (H:=fun _=>none) (OR _) n h1 h2 W (fun b o hb=>by cases hb);rw[hb]at h
 exact h
theorem lM {H:Snap}(hTab:Tabs H) (w:World) (hH:Holds w H) :
  Calls Tryz.prog 5 #[] w fun e w'=>e=.returned (.bool true)∧Below w.heap.size w w':=by
 have hG:=Grows.refl hH;have HT:=Hh hTab;have O1:=Hh (dn (-1) (by omega) (by omega) true (by decide));have O2:=Hh (dn 6 (by omega) (by omega) false (by decide));clear hTab hH;go_enter Tryz.func5,Tryz.ntmps5
 go_wp2_with (at_make;refine yf ?_)
 unfold yP
 obtain⟨i0,uq,fz,rv,ro⟩:=info_parts kQ
 refine wpList_make_full _ rfl _ _ 22 rfl w.heap.size 5 i0 _ 1 Tryz.underlying22 uq fz rv _ _ _ _ 32 rfl rfl (by omega) (by omega) (by rw[ro];omega) (by simp only[maxLen];omega) (Nat.le_refl _) fun wq hO hgq=>?_
 clear i0 uq fz rv ro
 have kz:OwnB wq w.heap.size (.slice (some ⟨w.heap.size,0,none⟩) (List.replicate 32 (0:UInt8)).length 32) (List.replicate 32 (0:UInt8)):=by
  unfold OwnB
  rw[← lP]
  exact hO
 have oc:=zC hgq;obtain⟨H5,xM,iY,O9⟩:=YN (hG.below_ oc) kz (hG.holds.none_of_ge (Nat.le_refl _)) (Nat.le_refl _);obtain⟨B,hB⟩:∃ B,w.heap.size=B:=⟨_,rfl⟩
 rw[hB]at O9⊢
 have EN:Hid (Calls Tryz.prog 10 #[.agg #[.string ⟨#[]⟩,.string ⟨#[97]⟩,.int .i64 0,.int .i64 0,.int .i64 1,.int .i64 4,.int .i64 0,.slice none 0 0,.slice (some ⟨B,0,none⟩) 32 32,.slice none 0 0,.slice none 0 0]] wq (EncCOut wq cA)) :=
  lI (HT.out.mono xM.le) (c:=cA) (a:=⟨none,0,some ⟨B,0,none⟩,32,none,0,none,0⟩) ⟨by show(0:Nat)≤_;omega,by show(1:Nat)≤_;omega,by show(-9223372036854775808:Int)≤0∧(0:Int)≤9223372036854775807;omega,by show(-9223372036854775808:Int)≤0∧(0:Int)≤9223372036854775807;omega,
   ⟨by simp[cA],by simp[cA],by simp[cA],IsBytes.nil _,O9,IsBytes.nil _,IsBytes.nil _⟩⟩ wq xM.holds
 have l8:=xM.below;rw[hB]at l8;have HB:=Hh hB;clear hO kz hgq oc hG xM iY O9 hB;go_wp2_with fail
 refine EN.out.mono ?_
 rintro e w2 ⟨r,l,cd,rfl,hf,hl,Kf⟩
 rw[if_pos VN]at hl Kf;rw[R8]at hl;subst Kf;have zN:l.length=47:=by rw[hl];rfl
 obtain⟨A,c,rfl,sS⟩:=hf.own.form;clear sS;have hs:=hf.own.src;have S9:=l8.trans (hf.2.mono (by rw[← HB.out];exact Nat.le_trans (by omega) l8.size));obtain⟨b,off,rfl,hc⟩:=hs (by rw[hl];simp);have c0:=hc 0 (.int .u8 162) (by rw[hl];rfl);have c3:=hc 3 (.int .u8 97) (by rw[hl];rfl);have c5:=hc 5 (.int .u8 161) (by rw[hl];rfl)
 simp only[Nat.add_zero]at c0
 rw[zN];clear hf hs hc hl zN EN l8;go_wp2_with fail
 refine(O1.out _).mono ?_
 rintro e w3 ⟨rfl,uy⟩
 have SD:=S9.trans (uy.mono (by rw[← HB.out];exact S9.size));clear uy S9 c0 c3 c5 O1;go_wp2_with fail
 refine(O2.out _).mono ?_
 rintro e w4 ⟨rfl,rF⟩
 have LT:=SD.trans (rF.mono (by rw[← HB.out];exact SD.size));clear rF SD O2;go_wp2_with fail
 go_ret
 exact⟨rfl,by rw[HB.out];exact LT⟩
theorem nB (v:Int) (n:Nat) (m:Int) (hm:m=(n:Int)) (h0:0<n) (hn:n≤1048576) (w:World) :
  Calls Tryz.prog 15 #[.int .i64 v,.int .i64 m] w fun e w'=>∃ j:Nat,e=.returned (.int .i64 (j:Int))∧j<n∧w=w':=by
 subst hm;have hb:=pa v (n:Int) (by omega)
 refine(jq v (n:Int) (by omega) (by omega) w).mono fun e w' h=>?_
 obtain⟨he,hw⟩:=h
 exact⟨(kr v n).toNat,by rw[he,Int.toNat_of_nonneg hb.1],by omega,by first | exact hw | exact hw.symm⟩
theorem gj {w:World}{o:Oper}{a:Act}{K:Act→World→Prop}{Q:Exit→Act→World→Prop}(l c:Operand) (ho:o.op=.makeSlice 22 l c) (n:Nat) (L:Int) (hl:a.eval l=.int .i64 L) (hc:a.eval c=.int .i64 L) (hL:L=(n:Int)) (hn:n≤65536)
  (h:∀ w',OwnB w' w.heap.size (.slice (some ⟨w.heap.size,0,none⟩) n n) (List.replicate n (0:UInt8))→w.grownBy w' none→K (a.put o.dst (.slice (some ⟨w.heap.size,0,none⟩) n n)) w'):o.wp Tryz.prog a w K Q:=by
 obtain⟨i0,uq,fz,rv,ro⟩:=info_parts kQ;obtain⟨w',fo,r1,r2⟩:=run_make_full (P:=Tryz.prog) w w.heap.size 22 5 i0 _ 1 Tryz.underlying22 uq fz rv .i64 .i64 n (by rw[ro];omega) (by simp only[maxLen];omega) (Nat.le_refl _);subst hL
 unfold Oper.wp
 simp[execOp,ho,hl,hc,fo,Result.andThen]
 refine h w' ?_ r2
 unfold OwnB
 rw[← lP,List.length_replicate]
 exact r1
theorem kZ {w:World}{ops:Array Oper}{rest:List Oper}{o:Oper}{a:Act}{Q:Exit→Act→World→Prop}(hgd:o.guard=none) (l c:Operand) (ho:o.op=.makeSlice 22 l c) (n:Nat) (L:Int) (hl:a.eval l=.int .i64 L) (hc:a.eval c=.int .i64 L) (hL:L=(n:Int)) (hn:n≤65536)
  (h:∀ w',OwnB w' w.heap.size (.slice (some ⟨w.heap.size,0,none⟩) n n) (List.replicate n (0:UInt8))→w.grownBy w' none→wpList Tryz.prog ops Q rest (a.put o.dst (.slice (some ⟨w.heap.size,0,none⟩) n n)) w'):wpList Tryz.prog ops Q (o::rest) a w :=
 wpList_plain hgd fun K hK=>gj l c ho n L hl hc hL hn fun w' h1 h2=>hK _ _ (h w' h1 h2)
structure SP (W0:World) (H:Snap) (c:Cl) (a:KAd) (w:World) (Hr:Snap):Prop where
 grows:Grows W0 H w Hr
 box:Blk w W0.heap.size 26 (clQ c a)
 res:Blk w (W0.heap.size+1) 26 yR
 hB:Hr W0.heap.size=none
 hR:Hr (W0.heap.size+1)=none
 cl:ClA Hr c a
section
variable {W0 w w':World} {H Hr Hs:Snap} {c c':Cl} {a a':KAd}
theorem SP.grow (h:SP W0 H c a w Hr) (k:Grows w Hr w' Hs):SP W0 H c a w' Hs :=
 ⟨h.grows.trans k,h.box.below k.below,h.res.below k.below,k.none h.hB h.box.lt,k.none h.hR h.res.lt,h.cl.mono k.le⟩
theorem SP.below (h:SP W0 H c a w Hr) (k:Below w.heap.size w w'):SP W0 H c a w' Hr:=h.grow (Grows.of_below h.grows.holds k)
theorem SP.alloc (h:SP W0 H c a w Hr) (o:Obj):SP W0 H c a (w.alloc o) Hr:=h.below (zi w o)
theorem SP.drew (h:SP W0 H c a w Hr):SP W0 H c a w.drew Hr:=h.below (Below.refl _ _).drew
theorem SP.set (h:SP W0 H c a w Hr) (hB:Blk w' W0.heap.size 26 (clQ c' a')) (hg:w.grownBy w' (some W0.heap.size)) (hc:ClA Hr c' a'):SP W0 H c' a' w' Hr :=
 ⟨h.grows.grownOwn h.hB (Nat.le_refl _) hg,hB,h.res.grown hg (fun e=>by injection e with e;omega),h.hB,h.hR,hc⟩
end
theorem Og {w:World}{g:Nat}{t:TypeId}{a b c:ByteArray}(h:Blk w g t #[.string a,.string b,.string c]) (j:Nat) (hj:j<3) (n:Nat) (ha:a.size≤n) (hb:b.size≤n) (hc:c.size≤n):∃ s:ByteArray,w.cell? ⟨g,j,none⟩=some (.string s)∧s.size≤n:=by
 rcases(by omega:j=0∨j=1∨j=2) with rfl | rfl | rfl
 ·exact⟨a,h.cell 0 rfl,ha⟩
 ·exact⟨b,h.cell 1 rfl,hb⟩
 exact⟨c,h.cell 2 rfl,hc⟩
def jw (n:Nat):ByteArray:=⟨(List.replicate n (0:UInt8)).toArray⟩
theorem jT (n:Nat):(jw n).size=n:=by show(List.replicate n (0:UInt8)).toArray.size=n;simp
def Xo (w:World) (H:Snap) (e:Ending) (w':World):Prop:=∃ c a H',e=.returned (.agg (clQ c a))∧Grows w H w' H'∧ClA H' c a
theorem fE {H:Snap}{c:Cl}{a:KAd}(hc:ClA H c a) (hx:c.key.x.length≤65536) (hs0 : -9223372036854775800≤c.since) (which by_:Int) (gp : -9223372036854775808≤by_∧by_≤9223372036854775807) (w:World) (hH:Holds w H) :
  Calls Tryz.prog 9 #[.agg (clQ c a),.int .i64 which,.int .i64 by_] w (Xo w H):=by
 have hP:SP w H c a ((w.alloc (.cells (clQ c a) 26)).alloc (.cells yR 26)) H :=
  ⟨((Grows.refl hH).alloc _).alloc _,(Blk.new w 26 (clQ c a)).alloc _,by have h:=Blk.new (w.alloc (.cells (clQ c a) 26)) 26 yR;rw[zX]at h;exact h,hH.none_of_ge (Nat.le_refl _),hH.none_of_ge (by omega),hc⟩
 have HX:=Hh (And.intro hc.key.x hx);have Jd:=Hh hs0;have TJ:=Hh gp;obtain⟨nx,Z4⟩:∃ n,c.key.x.length=n:=⟨_,rfl⟩
 have Hm:=Hh Z4;have c8:World.cell? ((w.alloc (.cells (clQ c a) 26)).alloc (.cells yR 26)) ⟨w.heap.size,8,none⟩=some (.slice a.xa nx a.xc):=by rw[← Z4];exact hP.box.cell 8 rfl
 clear hc hx gp hs0 hH Z4;go_enter Tryz.func9,Tryz.ntmps9
 obtain⟨W2,Uo⟩:∃ W2,(w.alloc (.cells (clQ c a) 26)).alloc (.cells yR 26)=W2:=⟨_,rfl⟩
 go_upto_region 1 with fail
 rw[Uo]at hP c8
 try rw[Uo]
 clear Uo;go_wp2_with (at_builtin;refine yf ?_)
 refine zR rfl (.const (.slice none 0 0)) (.tmp 9) rfl W2.heap.size (.slice none 0 0) [] rfl (OwnB.nil _ _) a.xa nx a.xc c.key.x rfl Hm.out.symm (Src.of_row (HX.out.1.mono hP.grows.le).row hP.grows.holds) (by have:=HX.out.2;simp only[List.length_nil];omega) (Nat.le_refl _) fun v' w3 kW Ur hat3=>?_
 rw[List.nil_append]at kW;have uy:=zC (by simpa [Value.ownBlock] using Ur);obtain⟨RA,rc,rfl,nH⟩:=kW.form;clear nH Ur hat3 c8;obtain⟨H3,yQ,oe,Zj⟩:=Fresh.snapB hP.grows.holds ⟨kW,uy⟩;replace hP:=hP.grow yQ;clear kW uy Zj yQ;go_wp2_with (with_reducible refine zx ?_)
 refine zu rfl _ _ _ rfl rfl w.heap.size 8 (.slice RA c.key.x.length rc) rfl rfl _ _ hP.box (by kernel_rfl) (by simp) rfl fun wt hBt hgt=>?_
 replace hP:=hP.set (c':=c) (a':={ a with xa:=RA,xc:=rc }) hBt hgt ⟨hP.cl.issuer,hP.cl.subject,hP.cl.since,hP.cl.till,⟨hP.cl.key.kty,hP.cl.key.crv,hP.cl.key.alg,hP.cl.key.kid,oe,hP.cl.key.d,hP.cl.key.k⟩⟩;clear hBt hgt;obtain⟨a1,Ql⟩:∃ a1:KAd,a1={ a with xa:=RA,xc:=rc }:=⟨_,rfl⟩
 rw[← Ql]at hP;clear Ql oe;go_wp2_with fail
 refine(nB which 7 _ rfl (by omega) (by omega) _).mono ?_
 rintro e w4 ⟨r,rfl,hr,rfl⟩
 go_upto_block 0 with fail
 go_cut [] (fun wx=>∃ c' a' Hx,SP w H c' a' wx Hx)
 case first =>
  rcases(by omega:r=0∨r=1∨r=2∨r=3∨r=4∨r=5∨r=6) with rfl | rfl | rfl | rfl | rfl | rfl | rfl
  ·clear hr;go_upto_region 5 with fail
   replace hP:=hP.drew
   refine zr 13 (fun _=>True) (by kernel_rfl) (trivial) (fun zy=>?_)
   repeat' first
    | (
     revert k1
     intro hK
     go_simp
     refine(nB by_ 2 _ rfl (by omega) (by omega) _).mono ?_
     rintro e w5 ⟨j,rfl,hj,rfl⟩
     have oq:IntKind.i64.wrap (64+(j:Int))=64+(j:Int):=IntWalk.i64_in _ (by omega)
     refine Ko hK ?_ fun zy=>?_
     ·exact trivial
     clear hK K)
    | (
     revert k3
     intro hK
     rw[if_pos (by rfl)]
     refine gj _ _ rfl (64+j) (64+(j:Int)) rfl rfl (by omega) (by omega) fun w6 sK tO=>?_
     replace hP:=hP.below (zC tO)
     refine Ko hK ?_ fun zy=>?_
     ·exact trivial
     clear hK K)
    | (
     revert k4
     intro hK
     refine dQ _ rfl _ (64+j) (64+j) (List.replicate (64+j) 0) rfl (by simp) (by have h:=sK.src;exact h) ?_
     have OQ:(jw (64+j)).size=64+j:=jT _;rw[show(⟨(List.replicate (64+j) (0:UInt8)).toArray⟩:ByteArray)=jw (64+j) from rfl];obtain⟨s6,Ux⟩:∃ s,jw (64+j)=s:=⟨_,rfl⟩
     rw[Ux]at OQ⊢
     refine Ko hK ?_ fun zy=>?_
     ·exact trivial
     clear hK K)
    | (
     revert k5
     intro hK
     go_simp
     have rx:=hP.grows.newBlk 9 #[.string ⟨#[]⟩,.string ⟨#[255]⟩,.string s6]
     try simp only[ym,zX]at rx
     have Gi:=hP.box.lt;replace hP:=hP.alloc (.cells #[.string ⟨#[]⟩,.string ⟨#[255]⟩,.string s6] 9)
     refine Ko hK ?_ fun zy=>?_
     ·exact trivial
     clear hK K)
    | (
     revert k8
     intro hK
     go_simp
     refine(nB _ 3 _ rfl (by omega) (by omega) _).mono ?_
     rintro e w7 ⟨k,rfl,hk,rfl⟩
     have N3:(k:Int)<3:=by omega
     refine Ko hK ?_ fun zy=>?_
     ·exact trivial
     clear hK K)
    | (
     revert k10
     intro hK
     obtain⟨sx,G5,JC⟩:=Og rx k hk 9223372036854775807 (by show(0:Nat)≤_;omega) (by show(1:Nat)≤_;omega) (by omega);go_simp
     refine Ko hK ?_ fun zy=>?_
     ·exact trivial
     clear hK K)
    | (
     revert k12
     intro hK
     rw[if_pos (by rfl)]
     refine xF _ _ _ rfl w.heap.size 1 (.string sx) rfl rfl _ _ hP.box (by kernel_rfl) (by simp) rfl fun wt hBt hgt=>?_
     replace hP:=hP.set (c':={ c with subject:=sx }) (a':=a1) hBt hgt ⟨hP.cl.issuer,JC,hP.cl.since,hP.cl.till,hP.cl.key⟩
     refine Ko hK ?_ fun zy=>?_
     ·exact trivial
     clear hK K)
    | simp only[Act.put,zz1,zz2,zz3,zz4,zz5,zz6]
    | refine TkS 0 rfl zy ?_ (hs:=by decide +kernel)
    | refine TkS 6 rfl zy ?_ (hs:=by decide +kernel)
    | refine TkS 7 rfl zy ?_ (hs:=by decide +kernel)
    | refine TkS 2 rfl zy ?_ (hs:=by decide +kernel)
    | refine TkS 9 rfl zy ?_ (hs:=by decide +kernel)
    | refine TkS 11 rfl zy ?_ (hs:=by decide +kernel)
    | refine To 1 rfl (fun K k1=>?_) (by decide +kernel)
    | refine Ways.two (i:=3) (j:=8) rfl rfl (by decide +kernel) (fun K k3=>?_) (fun K k8=>?_)
    | refine Ways.two (i:=4) (j:=8) rfl rfl (by decide +kernel) (fun K k4=>?_) (fun K k8=>?_)
    | refine Ways.two (i:=5) (j:=8) rfl rfl (by decide +kernel) (fun K k5=>?_) (fun K k8=>?_)
    | refine To 8 rfl (fun K k8=>?_) (by decide +kernel)
    | refine To 10 rfl (fun K k10=>?_) (by decide +kernel)
    | refine To 12 rfl (fun K k12=>?_) (by decide +kernel)
    | refine To 5 rfl (fun K k5=>?_) (by decide +kernel)
    | refine To 4 rfl (fun K k4=>?_) (by decide +kernel)
    | refine To 3 rfl (fun K k3=>?_) (by decide +kernel)
    | (
     refine Wd ?_ (by decide +kernel)
     go_wp2_with fail
     go_meet
     exact⟨_,_,_,hP⟩)
  ·clear hr;skip
   go_wp2_with (with_reducible refine zx ?_)
   refine zu rfl _ _ _ rfl rfl w.heap.size 3 (.int .i64 by_) rfl rfl _ _ hP.box (by kernel_rfl) (by simp) rfl fun wt hBt hgt=>?_
   replace hP:=hP.set (c':={ c with till:=by_ }) (a':=a1) hBt hgt ⟨hP.cl.issuer,hP.cl.subject,hP.cl.since,TJ.out,hP.cl.key⟩;clear hBt hgt;go_wp2_with fail
   go_meet
   exact⟨_,_,_,hP⟩
  ·clear hr;skip
   go_wp2_with (with_reducible refine zx ?_)
   refine zu rfl _ _ _ rfl rfl w.heap.size 2 (.int .i64 by_) rfl rfl _ _ hP.box (by kernel_rfl) (by simp) rfl fun wt hBt hgt=>?_
   replace hP:=hP.set (c':={ c with since:=by_ }) (a':=a1) hBt hgt ⟨hP.cl.issuer,hP.cl.subject,TJ.out,hP.cl.till,hP.cl.key⟩;clear hBt hgt;go_wp2_with fail
   go_meet
   exact⟨_,_,_,hP⟩
  ·clear hr;go_wp2_with fail
   refine(ZJ by_ _).mono ?_
   rintro e w5 ⟨A5,c5,l5,rfl,iY,ul⟩
   obtain⟨H5,xM,Uu,Xj⟩:=Fresh.snapB hP.grows.holds ul;replace hP:=hP.grow xM;clear ul xM iY;obtain⟨m5,QI⟩:∃ m:Nat,m=32:=⟨_,rfl⟩
   have He:Hid (m5=l5.length):=by rw[Hid,QI];exact Xj
   rw[show(32:Nat)=m5 from QI.symm];clear Xj QI;go_wp2_with (with_reducible refine zx ?_)
   refine zu rfl _ _ _ rfl rfl w.heap.size 9 (.slice A5 m5 c5) rfl rfl _ _ hP.box (by kernel_rfl) (by simp) rfl fun wt hBt hgt=>?_
   rw[He.out]at hBt;replace hP:=hP.set (c':={ c with key:={ c.key with d:=l5 } }) (a':={ a1 with da:=A5,dc:=c5 }) hBt hgt ⟨hP.cl.issuer,hP.cl.subject,hP.cl.since,hP.cl.till,⟨hP.cl.key.kty,hP.cl.key.crv,hP.cl.key.alg,hP.cl.key.kid,hP.cl.key.x,Uu,hP.cl.key.k⟩⟩;clear hBt hgt;go_wp2_with fail
   go_meet
   exact⟨_,_,_,hP⟩
  ·clear hr;obtain⟨H5,xM,iY,rG⟩:=YE (Grows.refl hP.grows.holds) [1] #[.int .u8 1] 1 rfl (by simp) rfl;obtain⟨B5,sb⟩:∃ B,w3.heap.size=B:=⟨_,rfl⟩
   replace hP:=hP.grow xM;clear xM iY;skip
   go_wp2_with (with_reducible refine zx ?_)
   refine vE rfl _ _ _ rfl rfl w.heap.size 4 _ rfl rfl _ _ hP.box pH (by simp) (rE _ _ _ _ _ _ _ rfl rfl rfl rfl rfl rfl rfl) fun wt hBt hgt=>?_
   replace hP:=hP.set (c':={ c with key:=⟨4,0,0,[],[],[],[1]⟩ }) (a':=⟨none,0,none,0,none,0,some ⟨_,0,none⟩,1⟩) hBt hgt ⟨hP.cl.issuer,hP.cl.subject,hP.cl.since,hP.cl.till,⟨by simp,by simp,by simp,IsBytes.nil _,IsBytes.nil _,IsBytes.nil _,rG⟩⟩;clear hBt hgt;go_wp2_with fail
   go_meet
   exact⟨_,_,_,hP⟩
  ·clear hr;go_wp2_with fail
   refine(nB by_ 2 _ rfl (by omega) (by omega) _).mono ?_
   rintro e w5 ⟨j,rfl,hj,rfl⟩
   have oq:IntKind.i64.wrap (64+(j:Int))=64+(j:Int):=IntWalk.i64_in _ (by omega);go_wp2_with (at_make;refine yf ?_)
   refine kZ rfl _ _ rfl (64+j) (64+(j:Int)) rfl rfl (by omega) (by omega) fun w6 sK tO=>?_
   replace hP:=hP.below (zC tO);have k6:=xe sK.src (64+j) (64+j) (by simp);rw[show(⟨(List.replicate (64+j) (0:UInt8)).toArray⟩:ByteArray)=jw (64+j) from rfl]at k6;have OQ:(jw (64+j)).size=64+j:=jT _;obtain⟨s6,Ux⟩:∃ s,jw (64+j)=s:=⟨_,rfl⟩
   rw[Ux]at OQ k6;have Ht:=Hh (show s6.size≤9223372036854775807 by omega);clear Ux OQ sK tO oq;go_wp2_with (with_reducible refine zx ?_)
   refine zu rfl _ _ _ rfl rfl w.heap.size 0 (.string s6) rfl rfl _ _ hP.box (by kernel_rfl) (by simp) rfl fun wt hBt hgt=>?_
   replace hP:=hP.set (c':={ c with issuer:=s6 }) (a':=a1) hBt hgt ⟨Ht.out,hP.cl.subject,hP.cl.since,hP.cl.till,hP.cl.key⟩;clear hBt hgt;go_wp2_with fail
   go_meet
   exact⟨_,_,_,hP⟩
  clear hr;go_upto_region 3 with fail
  replace hP:=hP.drew
  refine zr 7 (fun wx=>wx.cell? ⟨w.heap.size,2,none⟩=some (.int .i64 c.since)) (by kernel_rfl) (hP.box.cell 2 rfl) (fun zy=>?_)
  refine TkS 0 rfl zy ?_
  refine TkS 1 rfl zy ?_
  refine TkS 2 rfl zy ?_
  refine To 3 rfl fun K hK=>?_
  go_simp
  refine(nB by_ 3 _ rfl (by omega) (by omega) _).mono ?_
  rintro e w5 ⟨j,rfl,hj,rfl⟩
  have oq:IntKind.i64.wrap (c.since-(j:Int))=c.since-(j:Int):=IntWalk.i64_in _ (by have:=Jd.out;have:=hP.cl.since;omega)
  refine Ko hK ?_ fun zy=>?_
  ·exact hP.box.cell 2 rfl
  clear hK K
  refine TkS 4 rfl zy ?_
  refine TkS 5 rfl zy ?_
  refine To 6 rfl fun K hK=>?_
  rw[if_pos (by rfl)]
  refine xF _ _ _ rfl w.heap.size 3 (.int .i64 (c.since-(j:Int))) rfl rfl _ _ hP.box (by kernel_rfl) (by simp) rfl fun wt hBt hgt=>?_
  replace hP:=hP.set (c':={ c with till:=c.since-(j:Int) }) (a':=a1) hBt hgt ⟨hP.cl.issuer,hP.cl.subject,hP.cl.since,by have:=Jd.out;have:=hP.cl.since;dsimp only;omega,hP.cl.key⟩
  refine Ko hK ?_ fun zy=>?_
  ·exact hP.box.cell 2 rfl
  clear hK K
  refine Wd ?_
  go_wp2_with fail
  go_meet
  exact⟨_,_,_,hP⟩
 case rest =>
 clear hP;obtain⟨c2,a2,H2,hP⟩:=hcut;have k0:=hP.box.cell 0 rfl;have k1:=hP.box.cell 1 rfl;have k2:=hP.box.cell 2 rfl;have k3:=hP.box.cell 3 rfl;have k4:=hP.box.cell 4 rfl;have k5:=hP.box.cell 5 rfl;have k6:=hP.box.cell 6 rfl;have k7:=hP.box.cell 7 rfl;have k8:=hP.box.cell 8 rfl;have k9:=hP.box.cell 9 rfl;have k10:=hP.box.cell 10 rfl;go_wp2_with (with_reducible refine zx ?_)
 refine zp rfl _ _ _ rfl rfl _ _ rfl rfl _ _ hP.res zU rfl (uR _ _ _ _ _ _ _ _ _ _ _ rfl rfl rfl rfl rfl rfl rfl rfl rfl rfl rfl) fun wz hRz zT=>?_
 have zQ:=hP.grows.grownOwn hP.hR (by omega) zT;have uA:=hP.cl;clear hP zT k0 k1 k2 k3 k4 k5 k6 k7 k8 k9 k10;go_wp2_with fail
 refine vK rfl rfl hRz rfl rfl zU rfl ?_
 exact⟨c2,a2,H2,rfl,zQ,uA⟩
end Go.Proofs.YtgcjjhibdbafmabGreatDoor
