/- squeezed. Walks: the item of claims, by the  -/
import Derived.Test.YtgaoknihklmakabGreatDoorK26
set_option linter.unusedVariables false
set_option linter.unusedSimpArgs false
set_option maxRecDepth 100000
set_option maxHeartbeats 25600000
namespace Go.Proofs.YtgaoknihklmakabGreatDoor
open Go.RowKit
theorem ja7{P:Prop}(h:P:=by exact⟨hB.cell 0 rfl,hB.cell 1 rfl,hB.cell 2 rfl,hB.cell 3 rfl⟩):P:=h
theorem jbE{P:Prop}(h:P:=by exact⟨hP.box.cell 1 rfl,hN.cell 0 rfl,hN.cell 1 rfl,hN.cell 2 rfl,hN.cell 3 rfl⟩):P:=h
theorem je9{P:Prop}(h:P:=by have sH:=eq_true h0;have HS:=Hh hS;clear hS h0 gv;exact jbf):P:=h
theorem Vf {c:Cl}{x:Itm}(h:x∈mj c):x∈yR c:=by
 unfold mj at h
 unfold yR
 simp only[List.mem_append,List.mem_cons,List.not_mem_nil,or_false]at h⊢
 rcases h with ((h | h) | h) | h
 ·rcases h with h | h | h | h <;> simp[h]
 all_goals simp[h]
theorem Zg {c:Cl}(h:zE c=true):∀ x∈mj c,zR x=true:=fun x hx=>(gM h).2.2.1 x (Vf hx)
theorem V6 {c:Cl}(h:zE c=true):zR (vu c.key)=true∧zR (vW c.key)=true:=by
 have h1:zR (vu c.key)=true:=(gM h).2.2.1 _ (by unfold yR;simp)
 exact⟨h1,uI h1 (by simp[vu,Itm.items])⟩
section
variable {W0 w w':World} {H Hr:Snap} {cc:Array Value} {L:List Itm}
theorem IS.other (h:IS W0 H cc (.slice none 0 0) [] w Hr) {g:Nat}(hg:w.grownBy w' (some g)) (h0:Hr g=none) (h2:W0.heap.size+2≤g):IS W0 H cc (.slice none 0 0) [] w' Hr :=
 ⟨h.grows.grownOwn h0 (by omega) hg,h.hB,h.hT,h.box.grown hg (fun e=>by injection e with e;omega),h.res.grown hg (fun e=>by injection e with e;omega),OwnI.nil _ _ _,fun g hg=>by simp[Value.ownBlock]at hg⟩
theorem IS.lit (h:IS W0 H cc (.slice none 0 0) [] w Hr) {cs:List Value}(hl:ItemsC Hr cs L) (hm:L.length≤4096):IS W0 H cc (.slice (some ⟨w.heap.size,0,none⟩) L.length L.length) L (w.alloc (.cells cs.toArray 83)) Hr :=
 ⟨h.grows.alloc _,h.hB,h.hT,h.box.alloc _,h.res.alloc _,OwnI.lit hl _ h.base hm,fun g hg=>by simp[Value.ownBlock]at hg;subst hg;exact h.grows.hidden (Nat.le_refl _)⟩
end
theorem V8 {H:Snap}(hTab:Tabs H) {c:Cl}{a:KAd}(hc:ClA H c a) (ug:zE c=true) (w:World) (hH:Holds w H) :
  Calls Tryz.prog 71 #[.agg (clQ c a)] w (Zz w H c):=by
 have hP:=jgh;have HC:=Hh hc;have HT:=Hh hTab;have HV:=Hh ug;have UO:=Hh ((vT c).1 ug);have DZ:=Hh (V6 ug);have AU:Hid ((2:Int)≤9):=by rw[Hid];omega
 clear hc hH hTab ug;go_enter Tryz.func71,Tryz.ntmps71
 obtain⟨W1,ZB⟩:∃ W1,(w.alloc (.cells (clQ c a) 63)).alloc (.cells xi 83)=W1:=⟨_,rfl⟩
 go_upto_region 1 with fail
 rw[ZB]at hP;clear ZB;have c4:=hP.box.cell 4 rfl;have c5:=hP.box.cell 5 rfl;have c6:=hP.box.cell 6 rfl;have c7:=hP.box.cell 7 rfl;have c8:=hP.box.cell 8 rfl;have c9:=hP.box.cell 9 rfl;have c10:=hP.box.cell 10 rfl;go_wp2_with fail
 refine(fX (HT.out.mono hP.grows.le) (HC.out.key.mono hP.grows.le) _ hP.grows.holds).mono ?_
 rintro e w5 ⟨v5,rfl,te⟩
 have EK:Hid (tU c.key=0∧pu c.key=vW c.key):=⟨by rw[tU,if_pos UO.out.2.2.2.2.2.2.2.2.1],by rw[pu,if_pos UO.out.2.2.2.2.2.2.2.2.1]⟩
 rw[EK.out.2]at te;rw[EK.out.1];obtain⟨ya,yb,yc,yd,H5,rfl,xT,WI⟩:=te;replace hP:=hP.grow xT;clear xT c4 c5 c6 c7 c8 c9 c10;obtain⟨y,hy⟩:∃ y,y=vW c.key:=⟨_,rfl⟩
 have Hl:Hid (zR y=true∧zR (.mk 5 0 [] [zr 1,y])=true):=by rw[hy];exact⟨DZ.out.2,DZ.out.1⟩
 rw[← hy]at WI⊢;have HY:=Hh hy;clear hy;have hQ:=jhB;replace hP:=hP.alloc (zU y ya yb yc yd);obtain⟨Q,qg⟩:∃ Q,w5.heap.size=Q:=⟨_,rfl⟩
 obtain⟨w6,my⟩:∃ w6,w5.alloc (zU y ya yb yc yd)=w6:=⟨_,rfl⟩
 rw[qg,my]at hQ;rw[my]at hP;go_upto_region 2 with fail
 clear qg my;go_cut [5] (fun s5 wx=>∃ (N:Nat) (za:Option Addr) (zb:Nat) (zc:Option Addr) (zd:Nat) (H9:Snap),s5=.pointer (some ⟨N,0,none⟩)∧IS w H (clQ c a) (.slice none 0 0) [] wx H9∧Blk wx N 83 (ze (vu c.key) za zb zc zd).toArray∧IsItem H9 za zb zc zd (vu c.key))
 case first =>
  replace hP:=hP.drew;replace hQ:=hQ.below (Below.refl _ _).drew
  refine zj 10 (fun wx=>wx.cell? ⟨Q,0,none⟩=some (.int .i64 y.kind)∧wx.cell? ⟨Q,1,none⟩=some (.int .u64 y.n)∧wx.cell? ⟨Q,2,none⟩=some (.slice ya y.bytes.length yb)∧wx.cell? ⟨Q,3,none⟩=some (.slice yc y.items.length yd)) (by kernel_rfl) (⟨hQ.cell 0 rfl,hQ.cell 1 rfl,hQ.cell 2 rfl,hQ.cell 3 rfl⟩) (fun zy=>?_)
  repeat' first
   | (
    revert k0
    intro hK
    go_simp
    refine(xK 1 (by omega) (by omega) _ hP.grows.holds).mono ?_
    rintro e w7 ⟨v1,rfl,xa1,xb1,xc1,xd1,H1,rfl,xg,vp⟩
    try replace lS:=xg.none lS hD.lt
    try replace hD:=hD.below xg.below
    replace hP:=hP.grow xg;replace hQ:=hQ.below xg.below;have WI:=WI.mono xg.le;clear xg
    refine Ko hK ?_ fun zy=>?_
    ·exact ja3
    clear hK K)
   | (
    revert k2
    intro hK
    go_simp
    obtain⟨H4,xj,MQ,i7⟩:=jn (l:=[zr 1,y]) (Grows.refl hP.grows.holds) ((ItemsC.one vp).app (ItemsC.one WI)) (by simp)
    try simp only[ye,zh]at i7
    try replace lS:=xj.none lS hD.lt
    try replace hD:=hD.below xj.below
    replace hP:=hP.grow xj;replace hQ:=hQ.below xj.below;clear MQ xj
    refine Ko hK ?_ fun zy=>?_
    ·exact ja3
    clear hK K)
   | (
    revert k3
    intro hK
    go_simp
    have i7:IsRowI _ _ 2 [zr 1,y]:=i7
    refine(nj (HT.out.mono hP.grows.le) i7 (by simp) (Nat.zero_le _) (by simp) (qs:=[zr 1,y]) rfl (List.Perm.refl _) rfl (fun x hx=>by simp only[List.mem_cons,List.not_mem_nil,or_false]at hx;rcases hx with rfl | rfl;exact fp 1;exact Hl.out.1) Hl.out.2 _ hP.grows.holds).mono ?_
    rintro e w8 ⟨v8,rfl,za,zb,zc,zd,H8,rfl,lW,JG⟩
    try replace lS:=lW.none lS hD.lt
    try replace hD:=hD.below lW.below
    replace hP:=hP.grow lW;replace hQ:=hQ.below lW.below;clear lW i7
    refine Ko hK ?_ fun zy=>?_
    ·exact ja3
    clear hK K)
   | (
    revert k7
    intro hK
    go_simp
    have hD:=hP.grows.newBlk 83 xi;have lS:=hP.grows.hidden (Nat.le_refl _);have uM:=hP.base;have D5:=hQ.lt;replace hP:=hP.alloc (.cells xi 83);replace hQ:=hQ.alloc (.cells xi 83)
    try (have i7:=i7)
    try simp only[ye,zh]at hD
    try simp only[ye,zh]at lS
    try simp only[ye,zh]at uM
    try simp only[ye,zh]at D5
    refine Ko hK ?_ fun zy=>?_
    ·exact ja3
    clear hK K)
   | (
    revert k8
    intro hK
    rw[if_pos (by rfl)]
    refine zD _ _ _ rfl _ _ rfl rfl _ _ hD zt rfl (rU _ _ _ _ rfl rfl rfl rfl) fun w10 hD10 hg10=>?_
    have hP:=hP.other hg10 lS uM;have hQ:=hQ.grown hg10 (fun e=>by injection e with e;omega)
    refine Ko hK ?_ fun zy=>?_
    ·exact ja3
    clear hK K)
   | simp only[Act.put,zz1,zz2,zz3,zz4,zz5,zz6]
   | refine TkS 1 rfl zy ?_ (hs:=by decide +kernel)
   | refine TkS 4 rfl zy ?_ (hs:=by decide +kernel)
   | refine TkS 5 rfl zy ?_ (hs:=by decide +kernel)
   | refine TkS 6 rfl zy ?_ (hs:=by decide +kernel)
   | refine TkS 9 rfl zy ?_ (hs:=by decide +kernel)
   | refine Ways.two (i:=0) (j:=7) rfl rfl (by decide +kernel) (fun K k0=>?_) (fun K k7=>?_)
   | refine Ways.two (i:=2) (j:=7) rfl rfl (by decide +kernel) (fun K k2=>?_) (fun K k7=>?_)
   | refine Ways.two (i:=3) (j:=7) rfl rfl (by decide +kernel) (fun K k3=>?_) (fun K k7=>?_)
   | refine To 7 rfl (fun K k7=>?_) (by decide +kernel)
   | refine To 8 rfl (fun K k8=>?_) (by decide +kernel)
   | refine To 3 rfl (fun K k3=>?_) (by decide +kernel)
   | refine To 2 rfl (fun K k2=>?_) (by decide +kernel)
   | refine To 0 rfl (fun K k0=>?_) (by decide +kernel)
   | (
    refine Wd ?_ (by decide +kernel)
    clear zy;go_wp2_with fail
    go_meet
    exact⟨_,za,zb,zc,zd,H8,rfl,hP,by rw[vu,← HY.out];exact hD10,by rw[vu,← HY.out];exact JG⟩)
 case rest =>
 clear hP hQ WI;obtain⟨N,za,zb,zc,zd,H9,rfl,hP,hN,jZ⟩:=hcut;obtain⟨z,hz⟩:∃ z,vu c.key=z:=⟨_,rfl⟩
 rw[hz]at hN jZ;have HZ:=Hh hz;clear hz HY Hl;go_upto_region 3 with fail
 go_cut [7] (fun s7 wx=>ISt w H (clQ c a) s7 [zr 2,xq c.subject,zr 8,vu c.key] wx)
 case first =>
  have c1:=jhW;replace hP:=hP.drew;replace hN:=hN.below (Below.refl _ _).drew
  refine zj 8 (fun wx=>wx.cell? ⟨w.heap.size,1,none⟩=some (.string c.subject)∧wx.cell? ⟨N,0,none⟩=some (.int .i64 z.kind)∧wx.cell? ⟨N,1,none⟩=some (.int .u64 z.n)∧wx.cell? ⟨N,2,none⟩=some (.slice za z.bytes.length zb)∧wx.cell? ⟨N,3,none⟩=some (.slice zc z.items.length zd)) (by kernel_rfl) (⟨c1,hN.cell 0 rfl,hN.cell 1 rfl,hN.cell 2 rfl,hN.cell 3 rfl⟩) (fun zy=>?_)
  repeat' first
   | (
    revert k0
    intro hK
    go_simp
    refine(xK 2 (by omega) (by omega) _ hP.grows.holds).mono ?_
    rintro e w7 ⟨v1,rfl,xa1,xb1,xc1,xd1,H1,rfl,xg,vp⟩
    have hP:=jgO;have hN:=hN.below xg.below;have jZ:=jZ.mono xg.le;clear xg
    refine Ko hK ?_ fun zy=>?_
    ·exact jbE
    clear hK K)
   | (
    revert k3
    intro hK
    go_simp
    refine(dN c.subject (by have:=ov UO.out.2.1;omega) _ hP.grows.holds).mono ?_
    rintro e w8 ⟨v2,rfl,xa2,xb2,xc2,xd2,H2,rfl,zM,rV⟩
    have hP:=hP.grow zM;have hN:=hN.below zM.below;have jZ:=jZ.mono zM.le;have vp:=vp.mono zM.le;clear zM
    refine Ko hK ?_ fun zy=>?_
    ·exact jbE
    clear hK K)
   | (
    revert k4
    intro hK
    go_simp
    refine(xK 8 (by omega) (by omega) _ hP.grows.holds).mono ?_
    rintro e w9 ⟨v3,rfl,xa3,xb3,xc3,xd3,H3,rfl,yY,UT⟩
    have hP:=hP.grow yY;have hN:=hN.below yY.below;have jZ:=jZ.mono yY.le;have vp:=vp.mono yY.le;have rV:=rV.mono yY.le;clear yY
    refine Ko hK ?_ fun zy=>?_
    ·exact jbE
    clear hK K)
   | (
    revert k6
    intro hK
    go_simp
    have hP:=hP.lit (L:=[zr 2,.mk 3 0 c.subject.data.toList [],zr 8,z]) ((ItemsC.one vp).app ((ItemsC.one rV).app ((ItemsC.one UT).app (ItemsC.one jZ)))) (by simp);have hN:=hN.alloc (.cells (ze (zr 2) xa1 xb1 xc1 xd1++(ze (.mk 3 0 c.subject.data.toList []) xa2 xb2 xc2 xd2++(ze (zr 8) xa3 xb3 xc3 xd3++ze z za zb zc zd))).toArray 83)
    refine Ko hK ?_ fun zy=>?_
    ·exact jbE
    clear hK K)
   | simp only[Act.put,zz1,zz2,zz3,zz4,zz5,zz6]
   | refine TkS 1 rfl zy ?_ (hs:=by decide +kernel)
   | refine TkS 2 rfl zy ?_ (hs:=by decide +kernel)
   | refine TkS 5 rfl zy ?_ (hs:=by decide +kernel)
   | refine TkS 7 rfl zy ?_ (hs:=by decide +kernel)
   | refine To 0 rfl (fun K k0=>?_) (by decide +kernel)
   | refine To 3 rfl (fun K k3=>?_) (by decide +kernel)
   | refine To 4 rfl (fun K k4=>?_) (by decide +kernel)
   | refine To 6 rfl (fun K k6=>?_) (by decide +kernel)
   | (
    refine Wd ?_ (by decide +kernel)
    clear zy c1;go_wp2_with fail
    go_meet
    exact(by rw[HZ.out];exact⟨_,_,_,_,rfl,rfl,hP⟩))
 case rest =>
 clear hP hN jZ;have hS:=hcut;clear hcut;have tI:Hid (([zr 2,xq c.subject,zr 8,vu c.key]:List Itm).length≤1000):=by rw[Hid];simp
 have c0:World.cell? _ ⟨w.heap.size,0,none⟩=some (.string c.issuer):=hS.box.cell 0 rfl;go_upto_if 32 with fail
 go_cut [7] (fun s7 wx=>ISt w H (clQ c a) s7 ([zr 2,xq c.subject,zr 8,vu c.key]++xQ c.issuer) wx)
 case first =>
  by_cases hs:c.issuer=⟨#[]⟩
  case pos =>
   have s2:c.issuer.toList.isEmpty=true:=(t8 _).2 hs;have E:Hid ([zr 2,xq c.subject,zr 8,vu c.key]++xQ c.issuer=[zr 2,xq c.subject,zr 8,vu c.key]):=by rw[Hid,show xQ c.issuer=[] from if_pos hs,List.append_nil]
   have HS:=Hh hS;clear hS hs
   simp only[s2,Bool.not_true]
   exact jbf
  have s2:c.issuer.toList.isEmpty=false:=by cases h:c.issuer.toList.isEmpty with | false=>rfl | true=>exact absurd ((t8 _).1 h) hs
  have E:Hid ([zr 2,xq c.subject,zr 8,vu c.key]++xQ c.issuer=[zr 2,xq c.subject,zr 8,vu c.key]++[zr 1,xq c.issuer]):=by rw[Hid,show xQ c.issuer=[zr 1,xq c.issuer] from if_neg hs]
  simp only[s2,Bool.not_false]
  obtain⟨LL,se⟩:∃ LL,LL=[zr 2,xq c.subject,zr 8,vu c.key]:=⟨_,rfl⟩
  rw[← se]at hS tI;have sk:=Hh se;clear se;obtain⟨Hr,VA,m,vc,rfl,hm,hP⟩:=hS;have HL:=jf4;clear hm;clear hs;clear c0;go_upto_region 5 with fail
  have c0:=jhZ;replace hP:=hP.drew
  refine zX 6 (fun wx=>wx.cell? ⟨w.heap.size,0,none⟩=some (.string c.issuer)) (by kernel_rfl) (c0) (fun zy=>?_)
  repeat' first
   | (
    revert k1
    intro hK
    go_simp
    refine(xK (1) (by omega) (by omega) _ hP.grows.holds).mono ?_
    rintro e w3 ⟨v1,rfl,xa1,xb1,xc1,xd1,H1,rfl,xg,vp⟩
    have hP:=jgO
    refine Ko hK ?_ fun zy=>?_
    ·exact jcy
    clear hK K)
   | (
    revert k4
    intro hK
    go_simp
    refine(dN c.issuer (by have:=ov UO.out.1;omega) _ hP.grows.holds).mono ?_
    rintro e w4 ⟨v2,rfl,xa2,xb2,xc2,xd2,H2,rfl,zM,rV⟩
    obtain⟨hP,vp⟩:=jgc
    refine Ko hK ?_ fun zy=>?_
    ·exact jcy
    clear hK K)
   | (
    revert k5
    intro hK
    go_simp
    obtain⟨hZ,hP⟩:=jgR
    refine Ko hK ?_ fun zy=>?_
    ·exact jcy
    clear hK K)
   | (
    revert k6
    intro hK
    rw[if_pos (by rfl)]
    refine zL _ _ rfl _ _ _ _ rfl hP.own _ _ _ _ [_,_] rfl rfl ((ItemsC.one vp).app (ItemsC.one rV)) hZ (by have:=HL.out;simp;omega) hP.base fun v7 w7 hown7 yQ hat7=>?_
    have hP:=jgb;obtain⟨A7,c7,rfl,_⟩:=hown7.form;obtain⟨m7,ry⟩:∃ m7,(LL++[zr (1),(.mk 3 0 c.issuer.data.toList [])]).length=m7:=⟨_,rfl⟩
    rw[ry]at hP⊢;have iH:=Hh ry;clear hown7 yQ hat7 hZ ry
    refine Kz hK ?_
    clear hK K)
   | simp only[Act.put,zz1,zz2,zz3,zz4,zz5,zz6]
   | refine Zk 0 rfl zy ?_ (hs:=by decide +kernel)
   | refine Zk 2 rfl zy ?_ (hs:=by decide +kernel)
   | refine Zk 3 rfl zy ?_ (hs:=by decide +kernel)
   | refine ZkT 7 rfl (fun h=>absurd h (by decide)) ?_ (hs:=by decide +kernel)
   | refine Zo 1 rfl (fun K k1=>?_) (by decide +kernel)
   | refine Zo 4 rfl (fun K k4=>?_) (by decide +kernel)
   | refine Zo 5 rfl (fun K k5=>?_) (by decide +kernel)
   | refine Zo 6 rfl (fun K k6=>?_) (by decide +kernel)
   | (
    refine WaysZ.done (by decide +kernel) ?_
    clear zy;go_wp2_with fail
    go_meet
    exact(by rw[E.out,← sk.out];exact⟨_,_,_,_,rfl,iH.out.symm,hP⟩))
 case rest =>
 clear hS tI c0;have hS:=hcut;clear hcut;have tI:Hid (([zr 2,xq c.subject,zr 8,vu c.key]++xQ c.issuer).length≤1000):=by rw[Hid,xQ];split <;> simp
 have c3:=jh0;go_upto_if 42 with fail
 go_cut [7] (fun s7 wx=>ISt w H (clQ c a) s7 ([zr 2,xq c.subject,zr 8,vu c.key]++xQ c.issuer++yy 4 c.till) wx)
 case first =>
  have gv:0≤c.till:=by have:=UO.out;omega
  by_cases h0:c.till=0
  case pos =>
   have E:Hid ([zr 2,xq c.subject,zr 8,vu c.key]++xQ c.issuer++yy 4 c.till=[zr 2,xq c.subject,zr 8,vu c.key]++xQ c.issuer):=by rw[Hid,show yy 4 c.till=[] from if_neg (by omega),List.append_nil]
   have sZ:(c.till != 0)=false:=by simpa using h0
   exact je9
  have sZ:(c.till != 0)=true:=by rw[bne_iff_ne];exact h0
  have sH:=eq_false h0;have E:Hid ([zr 2,xq c.subject,zr 8,vu c.key]++xQ c.issuer++yy 4 c.till=[zr 2,xq c.subject,zr 8,vu c.key]++xQ c.issuer++[zr 4,zr c.till]):=by rw[Hid,show yy 4 c.till=[zr 4,zr c.till] from if_pos (by omega)]
  obtain⟨LL,se⟩:∃ LL,LL=[zr 2,xq c.subject,zr 8,vu c.key]++xQ c.issuer:=⟨_,rfl⟩
  rw[← se]at hS tI;have sk:=Hh se;clear se;obtain⟨Hr,VA,m,vc,rfl,hm,hP⟩:=hS;have HL:=jf4;clear hm;clear c3 h0 gv;go_upto_region 7 with fail
  clear sZ sH;have c3:=jh1;replace hP:=hP.drew
  refine zX 6 (fun wx=>wx.cell? ⟨w.heap.size,3,none⟩=some (.int .i64 c.till)) (by kernel_rfl) (c3) (fun zy=>?_)
  repeat' first
   | (
    revert k1
    intro hK
    go_simp
    refine(xK (4) (by omega) (by omega) _ hP.grows.holds).mono ?_
    rintro e w3 ⟨v1,rfl,xa1,xb1,xc1,xd1,H1,rfl,xg,vp⟩
    have hP:=jgO
    refine Ko hK ?_ fun zy=>?_
    ·exact jdn
    clear hK K)
   | (
    revert k4
    intro hK
    go_simp
    refine(xK c.till HC.out.till.1 HC.out.till.2 _ hP.grows.holds).mono ?_
    rintro e w4 ⟨v2,rfl,xa2,xb2,xc2,xd2,H2,rfl,zM,rV⟩
    obtain⟨hP,vp⟩:=jgc
    refine Ko hK ?_ fun zy=>?_
    ·exact jdn
    clear hK K)
   | (
    revert k5
    intro hK
    go_simp
    obtain⟨hZ,hP⟩:=jgW
    refine Ko hK ?_ fun zy=>?_
    ·exact jdn
    clear hK K)
   | (
    revert k6
    intro hK
    rw[if_pos (by rfl)]
    refine zL _ _ rfl _ _ _ _ rfl hP.own _ _ _ _ [_,_] rfl rfl ((ItemsC.one vp).app (ItemsC.one rV)) hZ (by have:=HL.out;simp;omega) hP.base fun v7 w7 hown7 yQ hat7=>?_
    have hP:=jgb;obtain⟨A7,c7,rfl,_⟩:=hown7.form;obtain⟨m7,ry⟩:∃ m7,(LL++[zr (4),(zr c.till)]).length=m7:=⟨_,rfl⟩
    rw[ry]at hP⊢;have iH:=Hh ry;clear hown7 yQ hat7 hZ ry
    refine Kz hK ?_
    clear hK K)
   | simp only[Act.put,zz1,zz2,zz3,zz4,zz5,zz6]
   | refine Zk 0 rfl zy ?_ (hs:=by decide +kernel)
   | refine Zk 2 rfl zy ?_ (hs:=by decide +kernel)
   | refine Zk 3 rfl zy ?_ (hs:=by decide +kernel)
   | refine ZkT 7 rfl (fun h=>absurd h (by decide)) ?_ (hs:=by decide +kernel)
   | refine Zo 1 rfl (fun K k1=>?_) (by decide +kernel)
   | refine Zo 4 rfl (fun K k4=>?_) (by decide +kernel)
   | refine Zo 5 rfl (fun K k5=>?_) (by decide +kernel)
   | refine Zo 6 rfl (fun K k6=>?_) (by decide +kernel)
   | (
    refine WaysZ.done (by decide +kernel) ?_
    clear zy;go_wp2_with fail
    go_meet
    exact(by rw[E.out,← sk.out];exact⟨_,_,_,_,rfl,iH.out.symm,hP⟩))
 case rest =>
 clear hS tI c3;have hS:=hcut;clear hcut;have tI:Hid (([zr 2,xq c.subject,zr 8,vu c.key]++xQ c.issuer++yy 4 c.till).length≤1000):=by rw[Hid,xQ,yy];split <;> split <;> simp
 have c2:=jhX;go_upto_if 52 with fail
 go_cut [7] (fun s7 wx=>ISt w H (clQ c a) s7 ([zr 2,xq c.subject,zr 8,vu c.key]++xQ c.issuer++yy 4 c.till++yy 5 c.since) wx)
 case first =>
  have gv:0≤c.since:=by have:=UO.out;omega
  by_cases h0:c.since=0
  case pos =>
   have E:Hid ([zr 2,xq c.subject,zr 8,vu c.key]++xQ c.issuer++yy 4 c.till++yy 5 c.since=[zr 2,xq c.subject,zr 8,vu c.key]++xQ c.issuer++yy 4 c.till):=by rw[Hid,show yy 5 c.since=[] from if_neg (by omega),List.append_nil]
   have sZ:(c.since != 0)=false:=by simpa using h0
   exact je9
  have sZ:(c.since != 0)=true:=by rw[bne_iff_ne];exact h0
  have sH:=eq_false h0;have E:Hid ([zr 2,xq c.subject,zr 8,vu c.key]++xQ c.issuer++yy 4 c.till++yy 5 c.since=[zr 2,xq c.subject,zr 8,vu c.key]++xQ c.issuer++yy 4 c.till++[zr 5,zr c.since]):=by rw[Hid,show yy 5 c.since=[zr 5,zr c.since] from if_pos (by omega)]
  obtain⟨LL,se⟩:∃ LL,LL=[zr 2,xq c.subject,zr 8,vu c.key]++xQ c.issuer++yy 4 c.till:=⟨_,rfl⟩
  rw[← se]at hS tI;have sk:=Hh se;clear se;obtain⟨Hr,VA,m,vc,rfl,hm,hP⟩:=hS;have HL:=jf4;clear hm;clear c2 h0 gv;go_upto_region 9 with fail
  clear sZ sH;have c2:=jhY;replace hP:=hP.drew
  refine zX 6 (fun wx=>wx.cell? ⟨w.heap.size,2,none⟩=some (.int .i64 c.since)) (by kernel_rfl) (c2) (fun zy=>?_)
  repeat' first
   | (
    revert k1
    intro hK
    go_simp
    refine(xK (5) (by omega) (by omega) _ hP.grows.holds).mono ?_
    rintro e w3 ⟨v1,rfl,xa1,xb1,xc1,xd1,H1,rfl,xg,vp⟩
    have hP:=jgO
    refine Ko hK ?_ fun zy=>?_
    ·exact jdo
    clear hK K)
   | (
    revert k4
    intro hK
    go_simp
    refine(xK c.since HC.out.since.1 HC.out.since.2 _ hP.grows.holds).mono ?_
    rintro e w4 ⟨v2,rfl,xa2,xb2,xc2,xd2,H2,rfl,zM,rV⟩
    obtain⟨hP,vp⟩:=jgc
    refine Ko hK ?_ fun zy=>?_
    ·exact jdo
    clear hK K)
   | (
    revert k5
    intro hK
    go_simp
    obtain⟨hZ,hP⟩:=jgU
    refine Ko hK ?_ fun zy=>?_
    ·exact jdo
    clear hK K)
   | (
    revert k6
    intro hK
    rw[if_pos (by rfl)]
    refine zL _ _ rfl _ _ _ _ rfl hP.own _ _ _ _ [_,_] rfl rfl ((ItemsC.one vp).app (ItemsC.one rV)) hZ (by have:=HL.out;simp;omega) hP.base fun v7 w7 hown7 yQ hat7=>?_
    have hP:=jgb;obtain⟨A7,c7,rfl,_⟩:=hown7.form;obtain⟨m7,ry⟩:∃ m7,(LL++[zr (5),(zr c.since)]).length=m7:=⟨_,rfl⟩
    rw[ry]at hP⊢;have iH:=Hh ry;clear hown7 yQ hat7 hZ ry
    refine Kz hK ?_
    clear hK K)
   | simp only[Act.put,zz1,zz2,zz3,zz4,zz5,zz6]
   | refine Zk 0 rfl zy ?_ (hs:=by decide +kernel)
   | refine Zk 2 rfl zy ?_ (hs:=by decide +kernel)
   | refine Zk 3 rfl zy ?_ (hs:=by decide +kernel)
   | refine ZkT 7 rfl (fun h=>absurd h (by decide)) ?_ (hs:=by decide +kernel)
   | refine Zo 1 rfl (fun K k1=>?_) (by decide +kernel)
   | refine Zo 4 rfl (fun K k4=>?_) (by decide +kernel)
   | refine Zo 5 rfl (fun K k5=>?_) (by decide +kernel)
   | refine Zo 6 rfl (fun K k6=>?_) (by decide +kernel)
   | (
    refine WaysZ.done (by decide +kernel) ?_
    clear zy;go_wp2_with fail
    go_meet
    exact(by rw[E.out,← sk.out];exact⟨_,_,_,_,rfl,iH.out.symm,hP⟩))
 case rest =>
 clear hS tI c2;have hS:=hcut;clear hcut;obtain⟨Bp,VA2,m2,vc2,rfl,ir,hP⟩:=hS;obtain⟨H9,vy,eE,Ri,fA⟩:=hP.freeze;have hT:=hP.res;have HB:=Hh (nj (ps:=mj c) (HT.out.mono vy.le) Ri (by rw[js];exact(qm c).1) (Nat.zero_le _) (by rw[js];have:=(qm c).2.2;omega) (qs:=yR c) (js c).symm (Y8 c) (lj c) (Zg HV.out) (vj HV.out) _ vy.holds);rw[← show m2=(mj c).length from ir]at HB;clear hP Ri eE ir;go_wp2_with fail
 refine HB.out.mono ?_
 rintro e w10 ⟨v10,rfl,xa,xb,xc,xd,H6,rfl,xW,UU⟩
 have xp:=vy.trans xW;have sM:=xW.none fA hT.lt;replace hT:=hT.below xW.below;clear xW vy fA HB;replace hT:=hT.alloc (zU (.mk 5 0 [] (yR c)) xa xb xc xd);replace xp:=xp.alloc (zU (.mk 5 0 [] (yR c)) xa xb xc xd);go_upto_region 11 with fail
 exact jbL
theorem dW {m k y:Itm}(h:vt m k=some y):y∈m.items∧zR m=true:=by
 unfold vt at h
 split at h
 ·rename_i hc
  rw[jC]at h
  cases hq:(rv m.items).find? (fun p=>decide (zf p.1=zf k)) with
  | none=>rw[hq]at h;cases h
  | some q =>
  rw[hq]at h;injection h with h
  rw[← h]
  exact⟨(jG (List.mem_of_find?_eq_some hq)).2,hc.2.1⟩
 cases h
theorem T1 {x:Itm}(n:Int):zR (sF x n)=true:=by
 unfold sF
 cases h:vt x (zr n) with
 | none=>exact fp 0
 | some y=>exact uI (dW h).2 (dW h).1
theorem al {x:Itm}(n:Int):(sF x n).bytes.length≤4096:=(yD (T1 n)).1
theorem NB.grow {W0 w w':World}{Hr Hs:Snap}{g:Nat}{c:Array Value}(n:NB W0 Hr w g c) (k:Grows w Hr w' Hs):NB W0 Hs w' g c:=⟨n.blk.below k.below,k.none n.none n.blk.lt,n.far⟩
theorem og {x:Itm}(h:vt (sF x 8) (zr 1)=none):yE x=none:=by rw[← nO,pr,h]
theorem kW {x v:Itm}(h:vt (sF x 8) (zr 1)=some v) (hk:d9 v=false):yE x=none:=by
 rw[← nO,pr,h]
 simp[hk]
theorem kX {x v:Itm}(h:vt (sF x 8) (zr 1)=some v) (hk:d9 v=true) (hn:zE (oZ x v)=false∨xP (oZ x v)≠x):yE x=none:=by
 rw[← nO,pr,h]
 simp only[hk,if_true]
 rw[if_neg]
 intro hc
 rw[Bool.and_eq_true,vI]at hc
 rcases hn with hn | hn
 ·rw[hc.1]at hn;cases hn
 exact hn hc.2
theorem Vg {x v:Itm}(h:vt (sF x 8) (zr 1)=some v) (hk:d9 v=true) (hc:zE (oZ x v)=true) (he:xP (oZ x v)=x):yE x=some (oZ x v):=by
 rw[← nO,pr,h]
 simp only[hk,if_true]
 rw[if_pos (by rw[Bool.and_eq_true,vI];exact⟨hc,he⟩)]
theorem SJ {x y:Itm}(hx:zR x=true) (hy:zR y=true) (nx:Nums x) (ny:Nums y) (h:Lib.compareBytes (zf x) (zf y)=0):x=y :=
 (g8 x y 0 0 [] [] (Fits.of hx nx) (Fits.of hy ny) (by rw[(uK _ _).1 h])).1
theorem j9 {H:Snap}(hTab:Tabs H) {x:Itm}{xa:Option Addr}{xb:Nat}{xc:Option Addr}{xd:Nat}(hx:IsItem H xa xb xc xd x) (n:Int) (pz : -9223372036854775808≤n) (rY:n≤9223372036854775807) (w:World) (hH:Holds w H)
  {B:Nat} (hB:Blk w B 83 #[.int .i64 x.kind,.int .u64 x.n,.slice xa x.bytes.length xb,.slice xc x.items.length xd]) :
  Calls Tryz.prog 64 #[.int .i64 n,.pointer (some ⟨B,0,none⟩)] w fun e w'=>e=.returned (.string (uY (sF x n).bytes))∧Below w.heap.size w w':=by
 have hG:=Grows.refl hH;have HX:=Hh hx;have HT:=Hh hTab;obtain⟨o,ho⟩:∃ o,vt x (zr n)=o:=⟨_,rfl⟩
 have HO:=Hh ho;have HF:Hid (sF x n=o.getD zQ):=by rw[Hid,sF,ho]
 have HN:=Hh (And.intro pz rY);clear ho hx hTab pz rY;have c0:=jf8;obtain⟨c1,c2,c3⟩:=jgd;go_enter Tryz.func64,Tryz.ntmps64
 go_upto_region 1 with fail
 replace hB:=hB.drew;replace hG:=hG.drew
 refine zj 10 (fun wx=>wx.cell? ⟨B,0,none⟩=some (.int .i64 x.kind)∧wx.cell? ⟨B,1,none⟩=some (.int .u64 x.n)∧wx.cell? ⟨B,2,none⟩=some (.slice xa x.bytes.length xb)∧wx.cell? ⟨B,3,none⟩=some (.slice xc x.items.length xd)) (by kernel_rfl) (⟨c0,c1,c2,c3⟩) (fun zy=>?_)
 repeat' first
  | (
   revert k2
   intro hK
   go_simp
   refine(xK n HN.out.1 HN.out.2 _ hG.holds).mono ?_
   rintro e w3 ⟨v1,rfl,xa1,xb1,xc1,xd1,H1,rfl,xg,vp⟩
   try replace lS:=xg.none lS hD.lt
   try replace hD:=hD.below xg.below
   replace hB:=hB.below xg.below;replace hG:=hG.trans xg
   refine Ko hK ?_ fun zy=>?_
   ·exact ja7
   clear hK K)
  | (
   revert k3
   intro hK
   go_simp
   refine(nH (HT.out.mono hG.le) (HX.out.mono hG.le).arg vp.arg _ hG.holds).mono ?_
   rw[HO.out];rintro e w4 ⟨v4,rfl,ja,jb,jc,jd,H4,rfl,xj,eh⟩
   obtain⟨q,hq⟩:∃ q,o.isSome=q:=⟨_,rfl⟩
   obtain⟨f,hf⟩:∃ f,o.getD zQ=f:=⟨_,rfl⟩
   rw[hf]at eh⊢;rw[hq];have GW:=Hh (HF.out.trans hf);clear hq hf
   try replace lS:=xj.none lS hD.lt
   try replace hD:=hD.below xj.below
   replace hB:=hB.below xj.below;replace hG:=hG.trans xj
   refine Ko hK ?_ fun zy=>?_
   ·exact ja7
   clear hK K)
  | (
   revert k7
   intro hK
   go_simp
   have hD:=hG.newBlk 83 xi;have lS:=hG.hidden (Nat.le_refl _);have WN:=hG.size;have N8:=hB.lt;replace hB:=hB.alloc (.cells xi 83);replace hG:=hG.alloc (.cells xi 83)
   try simp only[ye,zh]at hD
   try simp only[ye,zh]at lS
   try simp only[ye,zh]at WN
   try simp only[ye,zh]at N8
   refine Ko hK ?_ fun zy=>?_
   ·exact ja7
   clear hK K)
  | (
   revert k8
   intro hK
   rw[if_pos (by rfl)]
   refine zD _ _ _ rfl _ _ rfl rfl _ _ hD zt rfl (rU _ _ _ _ rfl rfl rfl rfl) fun w10 hD10 hg10=>?_
   have hG:=hG.grownOwn lS WN hg10;have hB:=hB.grown hg10 (fun e=>by injection e with e;omega)
   refine Ko hK ?_ fun zy=>?_
   ·exact ja7
   clear hK K)
  | simp only[Act.put,zz1,zz2,zz3,zz4,zz5,zz6]
  | refine TkS 0 rfl zy ?_ (hs:=by decide +kernel)
  | refine TkS 1 rfl zy ?_ (hs:=by decide +kernel)
  | refine TkS 4 rfl zy ?_ (hs:=by decide +kernel)
  | refine TkS 5 rfl zy ?_ (hs:=by decide +kernel)
  | refine TkS 6 rfl zy ?_ (hs:=by decide +kernel)
  | refine TkS 9 rfl zy ?_ (hs:=by decide +kernel)
  | refine Ways.two (i:=2) (j:=7) rfl rfl (by decide +kernel) (fun K k2=>?_) (fun K k7=>?_)
  | refine Ways.two (i:=3) (j:=7) rfl rfl (by decide +kernel) (fun K k3=>?_) (fun K k7=>?_)
  | refine To 7 rfl (fun K k7=>?_) (by decide +kernel)
  | refine To 8 rfl (fun K k8=>?_) (by decide +kernel)
  | refine To 3 rfl (fun K k3=>?_) (by decide +kernel)
  | refine To 2 rfl (fun K k2=>?_) (by decide +kernel)
  | (
   refine Wd ?_ (by decide +kernel)
   have cv:=xI (Src.of_row eh.bytes.row hG.holds) f.bytes.length jb rfl;have d2:=hD10.cell 2 rfl;have Ys:=hG.below;have E:Hid (uY (sF x n).bytes=⟨f.bytes.toArray⟩):=by rw[Hid,GW.out];rfl
   clear zy hB hG hD10 eh vp;go_wp2_with fail
   go_ret
   exact⟨by rw[E.out];rfl,Ys⟩)
theorem mU {H:Snap}(hTab:Tabs H) {x:Itm}{xa:Option Addr}{xb:Nat}{xc:Option Addr}{xd:Nat}(hx:IsItem H xa xb xc xd x) (n:Int) (pz : -9223372036854775808≤n) (rY:n≤9223372036854775807) (w:World) (hH:Holds w H)
  {B:Nat} (hB:Blk w B 83 #[.int .i64 x.kind,.int .u64 x.n,.slice xa x.bytes.length xb,.slice xc x.items.length xd]) :
  Calls Tryz.prog 67 #[.int .i64 n,.pointer (some ⟨B,0,none⟩)] w fun e w'=>e=.returned (.int .i64 (mO x n))∧Below w.heap.size w w':=by
 have hG:=Grows.refl hH;have HX:=Hh hx;have HT:=Hh hTab;obtain⟨o,ho⟩:∃ o,vt x (zr n)=o:=⟨_,rfl⟩
 have HO:=Hh ho;have HF:Hid (sF x n=o.getD zQ):=by rw[Hid,sF,ho]
 have HN:=Hh (And.intro pz rY);clear ho hx hTab pz rY;have c0:=jf8;obtain⟨c1,c2,c3⟩:=jgd;go_enter Tryz.func67,Tryz.ntmps67
 go_upto_region 1 with fail
 replace hB:=hB.drew;replace hG:=hG.drew
 refine zj 10 (fun wx=>wx.cell? ⟨B,0,none⟩=some (.int .i64 x.kind)∧wx.cell? ⟨B,1,none⟩=some (.int .u64 x.n)∧wx.cell? ⟨B,2,none⟩=some (.slice xa x.bytes.length xb)∧wx.cell? ⟨B,3,none⟩=some (.slice xc x.items.length xd)) (by kernel_rfl) (⟨c0,c1,c2,c3⟩) (fun zy=>?_)
 repeat' first
  | (
   revert k2
   intro hK
   go_simp
   refine(xK n HN.out.1 HN.out.2 _ hG.holds).mono ?_
   rintro e w3 ⟨v1,rfl,xa1,xb1,xc1,xd1,H1,rfl,xg,vp⟩
   try replace lS:=xg.none lS hD.lt
   try replace hD:=hD.below xg.below
   replace hB:=hB.below xg.below;replace hG:=hG.trans xg
   refine Ko hK ?_ fun zy=>?_
   ·exact ja7
   clear hK K)
  | (
   revert k3
   intro hK
   go_simp
   refine(nH (HT.out.mono hG.le) (HX.out.mono hG.le).arg vp.arg _ hG.holds).mono ?_
   rw[HO.out];rintro e w4 ⟨v4,rfl,ja,jb,jc,jd,H4,rfl,xj,eh⟩
   obtain⟨q,hq⟩:∃ q,o.isSome=q:=⟨_,rfl⟩
   obtain⟨f,hf⟩:∃ f,o.getD zQ=f:=⟨_,rfl⟩
   rw[hf]at eh⊢;rw[hq];have GW:=Hh (HF.out.trans hf);clear hq hf
   try replace lS:=xj.none lS hD.lt
   try replace hD:=hD.below xj.below
   replace hB:=hB.below xj.below;replace hG:=hG.trans xj
   refine Ko hK ?_ fun zy=>?_
   ·exact ja7
   clear hK K)
  | (
   revert k7
   intro hK
   go_simp
   have hD:=hG.newBlk 83 xi;have lS:=hG.hidden (Nat.le_refl _);have WN:=hG.size;have N8:=hB.lt;replace hB:=hB.alloc (.cells xi 83);replace hG:=hG.alloc (.cells xi 83)
   try simp only[ye,zh]at hD
   try simp only[ye,zh]at lS
   try simp only[ye,zh]at WN
   try simp only[ye,zh]at N8
   refine Ko hK ?_ fun zy=>?_
   ·exact ja7
   clear hK K)
  | (
   revert k8
   intro hK
   rw[if_pos (by rfl)]
   refine zD _ _ _ rfl _ _ rfl rfl _ _ hD zt rfl (rU _ _ _ _ rfl rfl rfl rfl) fun w10 hD10 hg10=>?_
   have hG:=hG.grownOwn lS WN hg10;have hB:=hB.grown hg10 (fun e=>by injection e with e;omega)
   refine Ko hK ?_ fun zy=>?_
   ·exact ja7
   clear hK K)
  | simp only[Act.put,zz1,zz2,zz3,zz4,zz5,zz6]
  | refine TkS 0 rfl zy ?_ (hs:=by decide +kernel)
  | refine TkS 1 rfl zy ?_ (hs:=by decide +kernel)
  | refine TkS 4 rfl zy ?_ (hs:=by decide +kernel)
  | refine TkS 5 rfl zy ?_ (hs:=by decide +kernel)
  | refine TkS 6 rfl zy ?_ (hs:=by decide +kernel)
  | refine TkS 9 rfl zy ?_ (hs:=by decide +kernel)
  | refine Ways.two (i:=2) (j:=7) rfl rfl (by decide +kernel) (fun K k2=>?_) (fun K k7=>?_)
  | refine Ways.two (i:=3) (j:=7) rfl rfl (by decide +kernel) (fun K k3=>?_) (fun K k7=>?_)
  | refine To 7 rfl (fun K k7=>?_) (by decide +kernel)
  | refine To 8 rfl (fun K k8=>?_) (by decide +kernel)
  | refine To 3 rfl (fun K k3=>?_) (by decide +kernel)
  | refine To 2 rfl (fun K k2=>?_) (by decide +kernel)
  | (
   refine Wd ?_ (by decide +kernel)
   have d1:=hD10.cell 1 rfl;have Ys:=hG.below;obtain⟨m,hm⟩:∃ m,mO x n=m:=⟨_,rfl⟩
   have MNX:min (f.n:Int) 1073741825=m:=by rw[← hm,mO,GW.out];omega
   have MB:0≤m∧m≤1073741825:=by rw[← hm,mO];omega
   have MW:IntKind.i64.wrap m=m:=IntWalk.i64_in _ (by omega);have E:=Hh hm;clear zy hB hG hD10 eh vp hm MB;go_wp2_with fail
   go_ret
   exact⟨by rw[E.out];rfl,Ys⟩)
end Go.Proofs.YtgaoknihklmakabGreatDoor
