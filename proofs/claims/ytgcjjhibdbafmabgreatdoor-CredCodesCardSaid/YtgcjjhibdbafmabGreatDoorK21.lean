/- squeezed. Walks: the item of claims, by the  -/
import Derived.Test.YtgcjjhibdbafmabGreatDoorK20
set_option linter.unusedVariables false
set_option linter.unusedSimpArgs false
set_option maxRecDepth 100000
set_option maxHeartbeats 25600000
namespace Go.Proofs.YtgcjjhibdbafmabGreatDoor
open Go.RowKit
theorem YQ {c:Cl}{x:Itm}(h:x∈oV c):x∈yE c:=by
 unfold oV at h
 unfold yE
 simp only[List.mem_append,List.mem_cons,List.not_mem_nil,or_false]at h⊢
 rcases h with ((h | h) | h) | h
 ·rcases h with h | h | h | h <;> simp[h]
 all_goals simp[h]
theorem dB {c:Cl}(h:zB c=true):∀ x∈oV c,zL x=true:=fun x hx=>(jp h).2.2.1 x (YQ hx)
theorem Xv {c:Cl}(h:zB c=true):zL (wD c.key)=true∧zL (vj c.key)=true:=by
 have h1:zL (wD c.key)=true:=(jp h).2.2.1 _ (by unfold yE;simp)
 exact⟨h1,ue h1 (by simp[wD,Itm.items])⟩
section
variable {W0 w w':World} {H Hr:Snap} {cc:Array Value} {L:List Itm}
theorem IS.other (h:IS W0 H cc (.slice none 0 0) [] w Hr) {g:Nat}(hg:w.grownBy w' (some g)) (h0:Hr g=none) (h2:W0.heap.size+2≤g):IS W0 H cc (.slice none 0 0) [] w' Hr :=
 ⟨h.grows.grownOwn h0 (by omega) hg,h.hB,h.hT,h.box.grown hg (fun e=>by injection e with e;omega),h.res.grown hg (fun e=>by injection e with e;omega),OwnI.nil _ _ _,fun g hg=>by simp[Value.ownBlock]at hg⟩
theorem IS.lit (h:IS W0 H cc (.slice none 0 0) [] w Hr) {cs:List Value}(hl:ItemsC Hr cs L) (hm:L.length≤4096):IS W0 H cc (.slice (some ⟨w.heap.size,0,none⟩) L.length L.length) L (w.alloc (.cells cs.toArray 57)) Hr :=
 ⟨h.grows.alloc _,h.hB,h.hT,h.box.alloc _,h.res.alloc _,OwnI.lit hl _ h.base hm,fun g hg=>by simp[Value.ownBlock]at hg;subst hg;exact h.grows.hidden (Nat.le_refl _)⟩
end
theorem gI {H:Snap}(hTab:Tabs H) {c:Cl}{a:KAd}(hc:ClA H c a) (vH:zB c=true) (w:World) (hH:Holds w H) :
  Calls Tryz.prog 27 #[.agg (clQ c a)] w (dR w H c):=by
 have hP:=IS.nil (((Grows.refl hH).alloc (.cells (clQ c a) 26)).alloc (.cells xZ 57)) (hH.none_of_ge (Nat.le_refl _)) (hH.none_of_ge (by omega)) ((Blk.new w 26 (clQ c a)).alloc (.cells xZ 57)) (by have h:=Blk.new (w.alloc (.cells (clQ c a) 26)) 57 xZ;rw[zX]at h;exact h);have HC:=Hh hc;have HT:=Hh hTab;have HV:=Hh vH;have XP:=Hh ((wW c).1 vH);have JQ:=Hh (Xv vH);have GR:Hid ((2:Int)≤9):=by rw[Hid];omega
 clear hc hH hTab vH;go_enter Tryz.func27,Tryz.ntmps27
 obtain⟨W1,bm⟩:∃ W1,(w.alloc (.cells (clQ c a) 26)).alloc (.cells xZ 57)=W1:=⟨_,rfl⟩
 go_upto_region 1 with fail
 rw[bm]at hP;clear bm;have c4:=hP.box.cell 4 rfl;have c5:=hP.box.cell 5 rfl;have c6:=hP.box.cell 6 rfl;have c7:=hP.box.cell 7 rfl;have c8:=hP.box.cell 8 rfl;have c9:=hP.box.cell 9 rfl;have c10:=hP.box.cell 10 rfl;go_wp2_with fail
 refine(jA (HT.out.mono hP.grows.le) (HC.out.key.mono hP.grows.le) _ hP.grows.holds).mono ?_
 rintro e w5 ⟨v5,rfl,tR⟩
 have EK:Hid (uE c.key=0∧rR c.key=vj c.key):=⟨by rw[uE,if_pos XP.out.2.2.2.2.2.2.2.2.1],by rw[rR,if_pos XP.out.2.2.2.2.2.2.2.2.1]⟩
 rw[EK.out.2]at tR;rw[EK.out.1];obtain⟨ya,yb,yc,yd,H5,rfl,xM,Ys⟩:=tR;replace hP:=hP.grow xM;clear xM c4 c5 c6 c7 c8 c9 c10;obtain⟨y,hy⟩:∃ y,y=vj c.key:=⟨_,rfl⟩
 have Ma:Hid (zL y=true∧zL (.mk 5 0 [] [zt 1,y])=true):=by rw[hy];exact⟨JQ.out.2,JQ.out.1⟩
 rw[← hy]at Ys⊢;have HY:=Hh hy;clear hy;have hQ:=Blk.new w5 57 #[.int .i64 y.kind,.int .u64 y.n,.slice ya y.bytes.length yb,.slice yc y.items.length yd];replace hP:=hP.alloc (zS y ya yb yc yd);obtain⟨Q,Q6⟩:∃ Q,w5.heap.size=Q:=⟨_,rfl⟩
 obtain⟨w6,Xc⟩:∃ w6,w5.alloc (zS y ya yb yc yd)=w6:=⟨_,rfl⟩
 rw[Q6,Xc]at hQ;rw[Xc]at hP;go_upto_region 2 with fail
 clear Q6 Xc;go_cut [5] (fun s5 wx=>∃ (N:Nat) (za:Option Addr) (zb:Nat) (zc:Option Addr) (zd:Nat) (H9:Snap),s5=.pointer (some ⟨N,0,none⟩)∧IS w H (clQ c a) (.slice none 0 0) [] wx H9∧Blk wx N 57 (zY (wD c.key) za zb zc zd).toArray∧IsItem H9 za zb zc zd (wD c.key))
 case first =>
  replace hP:=hP.drew;replace hQ:=hQ.below (Below.refl _ _).drew
  refine zr 10 (fun wx=>wx.cell? ⟨Q,0,none⟩=some (.int .i64 y.kind)∧wx.cell? ⟨Q,1,none⟩=some (.int .u64 y.n)∧wx.cell? ⟨Q,2,none⟩=some (.slice ya y.bytes.length yb)∧wx.cell? ⟨Q,3,none⟩=some (.slice yc y.items.length yd)) (by kernel_rfl) (⟨hQ.cell 0 rfl,hQ.cell 1 rfl,hQ.cell 2 rfl,hQ.cell 3 rfl⟩) (fun zy=>?_)
  repeat' first
   | (
    revert k0
    intro hK
    go_simp
    refine(xC 1 (by omega) (by omega) _ hP.grows.holds).mono ?_
    rintro e w7 ⟨v1,rfl,xa1,xb1,xc1,xd1,H1,rfl,xE,vy⟩
    try replace nQ:=xE.none nQ hD.lt
    try replace hD:=hD.below xE.below
    replace hP:=hP.grow xE;replace hQ:=hQ.below xE.below;have Ys:=Ys.mono xE.le;clear xE
    refine Ko hK ?_ fun zy=>?_
    ·exact⟨hQ.cell 0 rfl,hQ.cell 1 rfl,hQ.cell 2 rfl,hQ.cell 3 rfl⟩
    clear hK K)
   | (
    revert k2
    intro hK
    go_simp
    obtain⟨H4,wh,N5,ew⟩:=lw (l:=[zt 1,y]) (Grows.refl hP.grows.holds) ((ItemsC.one vy).app (ItemsC.one Ys)) (by simp)
    try simp only[ym,zX]at ew
    try replace nQ:=wh.none nQ hD.lt
    try replace hD:=hD.below wh.below
    replace hP:=hP.grow wh;replace hQ:=hQ.below wh.below;clear N5 wh
    refine Ko hK ?_ fun zy=>?_
    ·exact⟨hQ.cell 0 rfl,hQ.cell 1 rfl,hQ.cell 2 rfl,hQ.cell 3 rfl⟩
    clear hK K)
   | (
    revert k3
    intro hK
    go_simp
    have ew:IsRowI _ _ 2 [zt 1,y]:=ew
    refine(pS (HT.out.mono hP.grows.le) ew (by simp) (Nat.zero_le _) (by simp) (qs:=[zt 1,y]) rfl (List.Perm.refl _) rfl (fun x hx=>by simp only[List.mem_cons,List.not_mem_nil,or_false]at hx;rcases hx with rfl | rfl;exact jQ 1;exact Ma.out.1) Ma.out.2 _ hP.grows.holds).mono ?_
    rintro e w8 ⟨v8,rfl,za,zb,zc,zd,H8,rfl,iM,IW⟩
    try replace nQ:=iM.none nQ hD.lt
    try replace hD:=hD.below iM.below
    replace hP:=hP.grow iM;replace hQ:=hQ.below iM.below;clear iM ew
    refine Ko hK ?_ fun zy=>?_
    ·exact⟨hQ.cell 0 rfl,hQ.cell 1 rfl,hQ.cell 2 rfl,hQ.cell 3 rfl⟩
    clear hK K)
   | (
    revert k7
    intro hK
    go_simp
    have hD:=hP.grows.newBlk 57 xZ;have nQ:=hP.grows.hidden (Nat.le_refl _);have tW:=hP.base;have J5:=hQ.lt;replace hP:=hP.alloc (.cells xZ 57);replace hQ:=hQ.alloc (.cells xZ 57)
    try (have ew:=ew)
    try simp only[ym,zX]at hD
    try simp only[ym,zX]at nQ
    try simp only[ym,zX]at tW
    try simp only[ym,zX]at J5
    refine Ko hK ?_ fun zy=>?_
    ·exact⟨hQ.cell 0 rfl,hQ.cell 1 rfl,hQ.cell 2 rfl,hQ.cell 3 rfl⟩
    clear hK K)
   | (
    revert k8
    intro hK
    rw[if_pos (by rfl)]
    refine yJ _ _ _ rfl _ _ rfl rfl _ _ hD zv rfl (sX _ _ _ _ rfl rfl rfl rfl) fun w10 hD10 hg10=>?_
    have hP:=hP.other hg10 nQ tW;have hQ:=hQ.grown hg10 (fun e=>by injection e with e;omega)
    refine Ko hK ?_ fun zy=>?_
    ·exact⟨hQ.cell 0 rfl,hQ.cell 1 rfl,hQ.cell 2 rfl,hQ.cell 3 rfl⟩
    clear hK K)
   | simp only[Act.put,zz1,zz2,zz3,zz4,zz5,zz6]
   | refine TkS 1 rfl zy ?_ (hs:=by decide +kernel)
   | refine TkS 4 rfl zy ?_ (hs:=by decide +kernel)
   | refine TkS 5 rfl zy ?_ (hs:=by decide +kernel)
   | refine TkS 6 rfl zy ?_ (hs:=by decide +kernel)
   | refine TkS 9 rfl zy ?_ (hs:=by decide +kernel)
   | refine Ways.two (i:=0) (j:=7) rfl rfl (by decide +kernel) (fun K k0=>?_) (fun K k7=>?_)
   | refine Ways.two (i:=2) (j:=7) rfl rfl (by decide +kernel) (fun K k2=>?_) (fun K k7=>?_)
   | refine Ways.two (i:=3) (j:=7) rfl rfl (by decide +kernel) (fun K k3=>?_) (fun K k7=>?_)
   | refine To 7 rfl (fun K k7=>?_) (by decide +kernel)
   | refine To 8 rfl (fun K k8=>?_) (by decide +kernel)
   | refine To 3 rfl (fun K k3=>?_) (by decide +kernel)
   | refine To 2 rfl (fun K k2=>?_) (by decide +kernel)
   | refine To 0 rfl (fun K k0=>?_) (by decide +kernel)
   | (
    refine Wd ?_ (by decide +kernel)
    clear zy;go_wp2_with fail
    go_meet
    exact⟨_,za,zb,zc,zd,H8,rfl,hP,by rw[wD,← HY.out];exact hD10,by rw[wD,← HY.out];exact IW⟩)
 case rest =>
 clear hP hQ Ys;obtain⟨N,za,zb,zc,zd,H9,rfl,hP,hN,ll⟩:=hcut;obtain⟨z,hz⟩:∃ z,wD c.key=z:=⟨_,rfl⟩
 rw[hz]at hN ll;have HZ:=Hh hz;clear hz HY Ma;go_upto_region 3 with fail
 go_cut [7] (fun s7 wx=>ISt w H (clQ c a) s7 [zt 2,xf c.subject,zt 8,wD c.key] wx)
 case first =>
  have c1:World.cell? _ ⟨w.heap.size,1,none⟩=some (.string c.subject):=hP.box.cell 1 rfl;replace hP:=hP.drew;replace hN:=hN.below (Below.refl _ _).drew
  refine zr 8 (fun wx=>wx.cell? ⟨w.heap.size,1,none⟩=some (.string c.subject)∧wx.cell? ⟨N,0,none⟩=some (.int .i64 z.kind)∧wx.cell? ⟨N,1,none⟩=some (.int .u64 z.n)∧wx.cell? ⟨N,2,none⟩=some (.slice za z.bytes.length zb)∧wx.cell? ⟨N,3,none⟩=some (.slice zc z.items.length zd)) (by kernel_rfl) (⟨c1,hN.cell 0 rfl,hN.cell 1 rfl,hN.cell 2 rfl,hN.cell 3 rfl⟩) (fun zy=>?_)
  refine TkS 1 rfl zy ?_
  refine TkS 2 rfl zy ?_
  refine TkS 5 rfl zy ?_
  refine To 0 rfl fun K hK=>?_
  go_simp
  refine(xC 2 (by omega) (by omega) _ hP.grows.holds).mono ?_
  rintro e w7 ⟨v1,rfl,xa1,xb1,xc1,xd1,H1,rfl,xE,vy⟩
  have hP:=hP.grow xE;have hN:=hN.below xE.below;have ll:=ll.mono xE.le;clear xE
  refine Ko hK ?_ fun zy=>?_
  ·exact⟨hP.box.cell 1 rfl,hN.cell 0 rfl,hN.cell 1 rfl,hN.cell 2 rfl,hN.cell 3 rfl⟩
  clear hK K
  refine To 3 rfl fun K hK=>?_
  go_simp
  refine(gC c.subject (by have:=qT XP.out.2.1;omega) _ hP.grows.holds).mono ?_
  rintro e w8 ⟨v2,rfl,xa2,xb2,xc2,xd2,H2,rfl,yq,sY⟩
  have hP:=hP.grow yq;have hN:=hN.below yq.below;have ll:=ll.mono yq.le;have vy:=vy.mono yq.le;clear yq
  refine Ko hK ?_ fun zy=>?_
  ·exact⟨hP.box.cell 1 rfl,hN.cell 0 rfl,hN.cell 1 rfl,hN.cell 2 rfl,hN.cell 3 rfl⟩
  clear hK K
  refine To 4 rfl fun K hK=>?_
  go_simp
  refine(xC 8 (by omega) (by omega) _ hP.grows.holds).mono ?_
  rintro e w9 ⟨v3,rfl,xa3,xb3,xc3,xd3,H3,rfl,yQ,bh⟩
  have hP:=hP.grow yQ;have hN:=hN.below yQ.below;have ll:=ll.mono yQ.le;have vy:=vy.mono yQ.le;have sY:=sY.mono yQ.le;clear yQ
  refine Ko hK ?_ fun zy=>?_
  ·exact⟨hP.box.cell 1 rfl,hN.cell 0 rfl,hN.cell 1 rfl,hN.cell 2 rfl,hN.cell 3 rfl⟩
  clear hK K
  refine To 6 rfl fun K hK=>?_
  go_simp
  have hP:=hP.lit (L:=[zt 2,.mk 3 0 c.subject.data.toList [],zt 8,z]) ((ItemsC.one vy).app ((ItemsC.one sY).app ((ItemsC.one bh).app (ItemsC.one ll)))) (by simp);have hN:=hN.alloc (.cells (zY (zt 2) xa1 xb1 xc1 xd1++(zY (.mk 3 0 c.subject.data.toList []) xa2 xb2 xc2 xd2++(zY (zt 8) xa3 xb3 xc3 xd3++zY z za zb zc zd))).toArray 57)
  refine Ko hK ?_ fun zy=>?_
  ·exact⟨hP.box.cell 1 rfl,hN.cell 0 rfl,hN.cell 1 rfl,hN.cell 2 rfl,hN.cell 3 rfl⟩
  clear hK K
  refine TkS 7 rfl zy ?_
  refine Wd ?_
  clear zy c1;go_wp2_with fail
  go_meet
  exact(by rw[HZ.out];exact⟨_,_,_,_,rfl,rfl,hP⟩)
 case rest =>
 clear hP hN ll;have hS:=hcut;clear hcut;have tw:Hid (([zt 2,xf c.subject,zt 8,wD c.key]:List Itm).length≤1000):=by rw[Hid];simp
 have c0:World.cell? _ ⟨w.heap.size,0,none⟩=some (.string c.issuer):=hS.box.cell 0 rfl;go_upto_if 32 with fail
 go_cut [7] (fun s7 wx=>ISt w H (clQ c a) s7 ([zt 2,xf c.subject,zt 8,wD c.key]++xN c.issuer) wx)
 case first =>
  by_cases hs:c.issuer=⟨#[]⟩
  case pos =>
   have s2:c.issuer.toList.isEmpty=true:=(tl _).2 hs;have E:Hid ([zt 2,xf c.subject,zt 8,wD c.key]++xN c.issuer=[zt 2,xf c.subject,zt 8,wD c.key]):=by rw[Hid,show xN c.issuer=[] from if_pos hs,List.append_nil]
   have HS:=Hh hS;clear hS hs
   simp only[s2,Bool.not_true]
   go_wp2_with fail
   go_meet
   rw[E.out]
   exact HS.out
  have s2:c.issuer.toList.isEmpty=false:=by cases h:c.issuer.toList.isEmpty with | false=>rfl | true=>exact absurd ((tl _).1 h) hs
  have E:Hid ([zt 2,xf c.subject,zt 8,wD c.key]++xN c.issuer=[zt 2,xf c.subject,zt 8,wD c.key]++[zt 1,xf c.issuer]):=by rw[Hid,show xN c.issuer=[zt 1,xf c.issuer] from if_neg hs]
  simp only[s2,Bool.not_false]
  obtain⟨LL,tc⟩:∃ LL,LL=[zt 2,xf c.subject,zt 8,wD c.key]:=⟨_,rfl⟩
  rw[← tc]at hS tw;have mL:=Hh tc;clear tc;obtain⟨Hr,VA,m,vc,rfl,hm,hP⟩:=hS;have HL:=Hh (And.intro hm tw.out);clear hm;clear hs;clear c0;go_upto_region 5 with fail
  have c0:World.cell? _ ⟨w.heap.size,0,none⟩=some (.string c.issuer):=hP.box.cell 0 rfl;replace hP:=hP.drew
  refine zO 6 (fun wx=>wx.cell? ⟨w.heap.size,0,none⟩=some (.string c.issuer)) (by kernel_rfl) (c0) (fun zy=>?_)
  refine Zk 0 rfl zy ?_
  refine Zk 2 rfl zy ?_
  refine Zk 3 rfl zy ?_
  refine Zo 1 rfl fun K hK=>?_
  go_simp
  refine(xC (1) (by omega) (by omega) _ hP.grows.holds).mono ?_
  rintro e w3 ⟨v1,rfl,xa1,xb1,xc1,xd1,H1,rfl,xE,vy⟩
  have hP:=hP.grow xE
  refine Ko hK ?_ fun zy=>?_
  ·exact hP.box.cell 0 rfl
  clear hK K
  refine Zo 4 rfl fun K hK=>?_
  go_simp
  refine(gC c.issuer (by have:=qT XP.out.1;omega) _ hP.grows.holds).mono ?_
  rintro e w4 ⟨v2,rfl,xa2,xb2,xc2,xd2,H2,rfl,yq,sY⟩
  have hP:=hP.grow yq;have vy:=vy.mono yq.le
  refine Ko hK ?_ fun zy=>?_
  ·exact hP.box.cell 0 rfl
  clear hK K
  refine Zo 5 rfl fun K hK=>?_
  go_simp
  have hZ:=hP.litZ (zY (zt (1)) xa1 xb1 xc1 xd1++zY (xf c.issuer) xa2 xb2 xc2 xd2).toArray 57;have hP:=hP.alloc (.cells (zY (zt (1)) xa1 xb1 xc1 xd1++zY (xf c.issuer) xa2 xb2 xc2 xd2).toArray 57)
  refine Ko hK ?_ fun zy=>?_
  ·exact hP.box.cell 0 rfl
  clear hK K
  refine Zo 6 rfl fun K hK=>?_
  rw[if_pos (by rfl)]
  refine zA _ _ rfl _ _ _ _ rfl hP.own _ _ _ _ [_,_] rfl rfl ((ItemsC.one vy).app (ItemsC.one sY)) hZ (by have:=HL.out;simp;omega) hP.base fun v7 w7 hown7 hg7 hat7=>?_
  have hP:=hP.app hown7 hg7 hat7;obtain⟨A7,c7,rfl,_⟩:=hown7.form;obtain⟨m7,sa⟩:∃ m7,(LL++[zt (1),(.mk 3 0 c.issuer.data.toList [])]).length=m7:=⟨_,rfl⟩
  rw[sa]at hP⊢;have kT:=Hh sa;clear hown7 hg7 hat7 hZ sa
  refine Kz hK ?_
  clear hK K
  refine ZkT 7 rfl (fun h=>absurd h (by decide)) ?_
  refine WaysZ.done (by kernel_rfl) ?_
  clear zy;go_wp2_with fail
  go_meet
  exact(by rw[E.out,← mL.out];exact⟨_,_,_,_,rfl,kT.out.symm,hP⟩)
 case rest =>
 clear hS tw c0;have hS:=hcut;clear hcut;have tw:Hid (([zt 2,xf c.subject,zt 8,wD c.key]++xN c.issuer).length≤1000):=by rw[Hid,xN];split <;> simp
 have c3:World.cell? _ ⟨w.heap.size,3,none⟩=some (.int .i64 c.till):=hS.box.cell 3 rfl;go_upto_if 42 with fail
 go_cut [7] (fun s7 wx=>ISt w H (clQ c a) s7 ([zt 2,xf c.subject,zt 8,wD c.key]++xN c.issuer++yp 4 c.till) wx)
 case first =>
  have kK:0≤c.till:=by have:=XP.out;omega
  by_cases h0:c.till=0
  case pos =>
   have E:Hid ([zt 2,xf c.subject,zt 8,wD c.key]++xN c.issuer++yp 4 c.till=[zt 2,xf c.subject,zt 8,wD c.key]++xN c.issuer):=by rw[Hid,show yp 4 c.till=[] from if_neg (by omega),List.append_nil]
   have qn:(c.till != 0)=false:=by simpa using h0
   have mJ:=eq_true h0;have HS:=Hh hS;clear hS h0 kK;go_wp2_with fail
   go_meet
   rw[E.out]
   exact HS.out
  have qn:(c.till != 0)=true:=by rw[bne_iff_ne];exact h0
  have mJ:=eq_false h0;have E:Hid ([zt 2,xf c.subject,zt 8,wD c.key]++xN c.issuer++yp 4 c.till=[zt 2,xf c.subject,zt 8,wD c.key]++xN c.issuer++[zt 4,zt c.till]):=by rw[Hid,show yp 4 c.till=[zt 4,zt c.till] from if_pos (by omega)]
  obtain⟨LL,tc⟩:∃ LL,LL=[zt 2,xf c.subject,zt 8,wD c.key]++xN c.issuer:=⟨_,rfl⟩
  rw[← tc]at hS tw;have mL:=Hh tc;clear tc;obtain⟨Hr,VA,m,vc,rfl,hm,hP⟩:=hS;have HL:=Hh (And.intro hm tw.out);clear hm;clear c3 h0 kK;go_upto_region 7 with fail
  clear qn mJ;have c3:World.cell? _ ⟨w.heap.size,3,none⟩=some (.int .i64 c.till):=hP.box.cell 3 rfl;replace hP:=hP.drew
  refine zO 6 (fun wx=>wx.cell? ⟨w.heap.size,3,none⟩=some (.int .i64 c.till)) (by kernel_rfl) (c3) (fun zy=>?_)
  refine Zk 0 rfl zy ?_
  refine Zk 2 rfl zy ?_
  refine Zk 3 rfl zy ?_
  refine Zo 1 rfl fun K hK=>?_
  go_simp
  refine(xC (4) (by omega) (by omega) _ hP.grows.holds).mono ?_
  rintro e w3 ⟨v1,rfl,xa1,xb1,xc1,xd1,H1,rfl,xE,vy⟩
  have hP:=hP.grow xE
  refine Ko hK ?_ fun zy=>?_
  ·exact hP.box.cell 3 rfl
  clear hK K
  refine Zo 4 rfl fun K hK=>?_
  go_simp
  refine(xC c.till HC.out.till.1 HC.out.till.2 _ hP.grows.holds).mono ?_
  rintro e w4 ⟨v2,rfl,xa2,xb2,xc2,xd2,H2,rfl,yq,sY⟩
  have hP:=hP.grow yq;have vy:=vy.mono yq.le
  refine Ko hK ?_ fun zy=>?_
  ·exact hP.box.cell 3 rfl
  clear hK K
  refine Zo 5 rfl fun K hK=>?_
  go_simp
  have hZ:=hP.litZ (zY (zt (4)) xa1 xb1 xc1 xd1++zY (zt c.till) xa2 xb2 xc2 xd2).toArray 57;have hP:=hP.alloc (.cells (zY (zt (4)) xa1 xb1 xc1 xd1++zY (zt c.till) xa2 xb2 xc2 xd2).toArray 57)
  refine Ko hK ?_ fun zy=>?_
  ·exact hP.box.cell 3 rfl
  clear hK K
  refine Zo 6 rfl fun K hK=>?_
  rw[if_pos (by rfl)]
  refine zA _ _ rfl _ _ _ _ rfl hP.own _ _ _ _ [_,_] rfl rfl ((ItemsC.one vy).app (ItemsC.one sY)) hZ (by have:=HL.out;simp;omega) hP.base fun v7 w7 hown7 hg7 hat7=>?_
  have hP:=hP.app hown7 hg7 hat7;obtain⟨A7,c7,rfl,_⟩:=hown7.form;obtain⟨m7,sa⟩:∃ m7,(LL++[zt (4),(zt c.till)]).length=m7:=⟨_,rfl⟩
  rw[sa]at hP⊢;have kT:=Hh sa;clear hown7 hg7 hat7 hZ sa
  refine Kz hK ?_
  clear hK K
  refine ZkT 7 rfl (fun h=>absurd h (by decide)) ?_
  refine WaysZ.done (by kernel_rfl) ?_
  clear zy;go_wp2_with fail
  go_meet
  exact(by rw[E.out,← mL.out];exact⟨_,_,_,_,rfl,kT.out.symm,hP⟩)
 case rest =>
 clear hS tw c3;have hS:=hcut;clear hcut;have tw:Hid (([zt 2,xf c.subject,zt 8,wD c.key]++xN c.issuer++yp 4 c.till).length≤1000):=by rw[Hid,xN,yp];split <;> split <;> simp
 have c2:World.cell? _ ⟨w.heap.size,2,none⟩=some (.int .i64 c.since):=hS.box.cell 2 rfl;go_upto_if 52 with fail
 go_cut [7] (fun s7 wx=>ISt w H (clQ c a) s7 ([zt 2,xf c.subject,zt 8,wD c.key]++xN c.issuer++yp 4 c.till++yp 5 c.since) wx)
 case first =>
  have kK:0≤c.since:=by have:=XP.out;omega
  by_cases h0:c.since=0
  case pos =>
   have E:Hid ([zt 2,xf c.subject,zt 8,wD c.key]++xN c.issuer++yp 4 c.till++yp 5 c.since=[zt 2,xf c.subject,zt 8,wD c.key]++xN c.issuer++yp 4 c.till):=by rw[Hid,show yp 5 c.since=[] from if_neg (by omega),List.append_nil]
   have qn:(c.since != 0)=false:=by simpa using h0
   have mJ:=eq_true h0;have HS:=Hh hS;clear hS h0 kK;go_wp2_with fail
   go_meet
   rw[E.out]
   exact HS.out
  have qn:(c.since != 0)=true:=by rw[bne_iff_ne];exact h0
  have mJ:=eq_false h0;have E:Hid ([zt 2,xf c.subject,zt 8,wD c.key]++xN c.issuer++yp 4 c.till++yp 5 c.since=[zt 2,xf c.subject,zt 8,wD c.key]++xN c.issuer++yp 4 c.till++[zt 5,zt c.since]):=by rw[Hid,show yp 5 c.since=[zt 5,zt c.since] from if_pos (by omega)]
  obtain⟨LL,tc⟩:∃ LL,LL=[zt 2,xf c.subject,zt 8,wD c.key]++xN c.issuer++yp 4 c.till:=⟨_,rfl⟩
  rw[← tc]at hS tw;have mL:=Hh tc;clear tc;obtain⟨Hr,VA,m,vc,rfl,hm,hP⟩:=hS;have HL:=Hh (And.intro hm tw.out);clear hm;clear c2 h0 kK;go_upto_region 9 with fail
  clear qn mJ;have c2:World.cell? _ ⟨w.heap.size,2,none⟩=some (.int .i64 c.since):=hP.box.cell 2 rfl;replace hP:=hP.drew
  refine zO 6 (fun wx=>wx.cell? ⟨w.heap.size,2,none⟩=some (.int .i64 c.since)) (by kernel_rfl) (c2) (fun zy=>?_)
  refine Zk 0 rfl zy ?_
  refine Zk 2 rfl zy ?_
  refine Zk 3 rfl zy ?_
  refine Zo 1 rfl fun K hK=>?_
  go_simp
  refine(xC (5) (by omega) (by omega) _ hP.grows.holds).mono ?_
  rintro e w3 ⟨v1,rfl,xa1,xb1,xc1,xd1,H1,rfl,xE,vy⟩
  have hP:=hP.grow xE
  refine Ko hK ?_ fun zy=>?_
  ·exact hP.box.cell 2 rfl
  clear hK K
  refine Zo 4 rfl fun K hK=>?_
  go_simp
  refine(xC c.since HC.out.since.1 HC.out.since.2 _ hP.grows.holds).mono ?_
  rintro e w4 ⟨v2,rfl,xa2,xb2,xc2,xd2,H2,rfl,yq,sY⟩
  have hP:=hP.grow yq;have vy:=vy.mono yq.le
  refine Ko hK ?_ fun zy=>?_
  ·exact hP.box.cell 2 rfl
  clear hK K
  refine Zo 5 rfl fun K hK=>?_
  go_simp
  have hZ:=hP.litZ (zY (zt (5)) xa1 xb1 xc1 xd1++zY (zt c.since) xa2 xb2 xc2 xd2).toArray 57;have hP:=hP.alloc (.cells (zY (zt (5)) xa1 xb1 xc1 xd1++zY (zt c.since) xa2 xb2 xc2 xd2).toArray 57)
  refine Ko hK ?_ fun zy=>?_
  ·exact hP.box.cell 2 rfl
  clear hK K
  refine Zo 6 rfl fun K hK=>?_
  rw[if_pos (by rfl)]
  refine zA _ _ rfl _ _ _ _ rfl hP.own _ _ _ _ [_,_] rfl rfl ((ItemsC.one vy).app (ItemsC.one sY)) hZ (by have:=HL.out;simp;omega) hP.base fun v7 w7 hown7 hg7 hat7=>?_
  have hP:=hP.app hown7 hg7 hat7;obtain⟨A7,c7,rfl,_⟩:=hown7.form;obtain⟨m7,sa⟩:∃ m7,(LL++[zt (5),(zt c.since)]).length=m7:=⟨_,rfl⟩
  rw[sa]at hP⊢;have kT:=Hh sa;clear hown7 hg7 hat7 hZ sa
  refine Kz hK ?_
  clear hK K
  refine ZkT 7 rfl (fun h=>absurd h (by decide)) ?_
  refine WaysZ.done (by kernel_rfl) ?_
  clear zy;go_wp2_with fail
  go_meet
  exact(by rw[E.out,← mL.out];exact⟨_,_,_,_,rfl,kT.out.symm,hP⟩)
 case rest =>
 clear hS tw c2;have hS:=hcut;clear hcut;obtain⟨Hv,VA2,m2,vc2,rfl,el,hP⟩:=hS;obtain⟨H9,rJ,Sw,T1,QK⟩:=hP.freeze;have hT:=hP.res;have HB:=Hh (pS (ps:=oV c) (HT.out.mono rJ.le) T1 (by rw[m4];exact(rz c).1) (Nat.zero_le _) (by rw[m4];have:=(rz c).2.2;omega) (qs:=yE c) (m4 c).symm (aj c) (nf c) (dB HV.out) (xA HV.out) _ rJ.holds);rw[← show m2=(oV c).length from el]at HB;clear hP T1 Sw el;go_wp2_with fail
 refine HB.out.mono ?_
 rintro e w10 ⟨v10,rfl,xa,xb,xc,xd,H6,rfl,zP,XS⟩
 have wu:=rJ.trans zP;have tS:=zP.none QK hT.lt;replace hT:=hT.below zP.below;clear zP rJ QK HB;replace hT:=hT.alloc (zS (.mk 5 0 [] (yE c)) xa xb xc xd);replace wu:=wu.alloc (zS (.mk 5 0 [] (yE c)) xa xb xc xd);go_upto_region 11 with fail
 go_wp2_with (with_reducible refine zx ?_)
 refine stI hT fun w11 fh hg11=>?_
 have iC:=wu.grownOwn tS (by omega) hg11;clear hT wu hg11;go_wp2_with fail
 refine vK rfl rfl fh rfl rfl zv rfl ?_
 exact⟨_,rfl,xa,xb,xc,xd,H6,rfl,iC,XS⟩
theorem gM {m k y:Itm}(h:vz m k=some y):y∈m.items∧zL m=true:=by
 unfold vz at h
 split at h
 ·rename_i hc
  rw[lK]at h
  cases hq:(t8 m.items).find? (fun p=>decide (zZ p.1=zZ k)) with
  | none=>rw[hq]at h;cases h
  | some q =>
  rw[hq]at h;injection h with h
  rw[← h]
  exact⟨(lQ (List.mem_of_find?_eq_some hq)).2,hc.2.1⟩
 cases h
theorem W5 {x:Itm}(n:Int):zL (sF x n)=true:=by
 unfold sF
 cases h:vz x (zt n) with
 | none=>exact jQ 0
 | some y=>exact ue (gM h).2 (gM h).1
theorem eI {x:Itm}(n:Int):(sF x n).bytes.length≤4096:=(xu (W5 n)).1
theorem NB.grow {W0 w w':World}{Hr Hs:Snap}{g:Nat}{c:Array Value}(n:NB W0 Hr w g c) (k:Grows w Hr w' Hs):NB W0 Hs w' g c:=⟨n.blk.below k.below,k.none n.none n.blk.lt,n.far⟩
theorem qL {x:Itm}(h:vz (sF x 8) (zt 1)=none):xq x=none:=by rw[← pD,rP,h]
theorem mY {x v:Itm}(h:vz (sF x 8) (zt 1)=some v) (hk:fq v=false):xq x=none:=by
 rw[← pD,rP,h]
 simp[hk]
theorem mZ {x v:Itm}(h:vz (sF x 8) (zt 1)=some v) (hk:fq v=true) (hn:zB (qF x v)=false∨xI (qF x v)≠x):xq x=none:=by
 rw[← pD,rP,h]
 simp only[hk,if_true]
 rw[if_neg]
 intro hc
 rw[Bool.and_eq_true,vZ]at hc
 rcases hn with hn | hn
 ·rw[hc.1]at hn;cases hn
 exact hn hc.2
theorem YR {x v:Itm}(h:vz (sF x 8) (zt 1)=some v) (hk:fq v=true) (hc:zB (qF x v)=true) (he:xI (qF x v)=x):xq x=some (qF x v):=by
 rw[← pD,rP,h]
 simp only[hk,if_true]
 rw[if_pos (by rw[Bool.and_eq_true,vZ];exact⟨hc,he⟩)]
theorem VO {x y:Itm}(hx:zL x=true) (hy:zL y=true) (nx:Nums x) (ny:Nums y) (h:Lib.compareBytes (zZ x) (zZ y)=0):x=y :=
 (jY x y 0 0 [] [] (Fits.of hx nx) (Fits.of hy ny) (by rw[(tU _ _).1 h])).1
theorem lG {H:Snap}(hTab:Tabs H) {x:Itm}{xa:Option Addr}{xb:Nat}{xc:Option Addr}{xd:Nat}(hx:IsItem H xa xb xc xd x) (n:Int) (ru : -9223372036854775808≤n) (oo:n≤9223372036854775807) (w:World) (hH:Holds w H)
  {B:Nat} (hB:Blk w B 57 #[.int .i64 x.kind,.int .u64 x.n,.slice xa x.bytes.length xb,.slice xc x.items.length xd]) :
  Calls Tryz.prog 52 #[.int .i64 n,.pointer (some ⟨B,0,none⟩)] w fun e w'=>e=.returned (.string (ut (sF x n).bytes))∧Below w.heap.size w w':=by
 have hG:=Grows.refl hH;have HX:=Hh hx;have HT:=Hh hTab;obtain⟨o,ho⟩:∃ o,vz x (zt n)=o:=⟨_,rfl⟩
 have HO:=Hh ho;have HF:Hid (sF x n=o.getD zG):=by rw[Hid,sF,ho]
 have HN:=Hh (And.intro ru oo);clear ho hx hTab ru oo;have c0:=hB.cell 0 rfl;have c1:=hB.cell 1 rfl;have c2:=hB.cell 2 rfl;have c3:=hB.cell 3 rfl;go_enter Tryz.func52,Tryz.ntmps52
 go_upto_region 1 with fail
 replace hB:=hB.drew;replace hG:=hG.drew
 refine zr 10 (fun wx=>wx.cell? ⟨B,0,none⟩=some (.int .i64 x.kind)∧wx.cell? ⟨B,1,none⟩=some (.int .u64 x.n)∧wx.cell? ⟨B,2,none⟩=some (.slice xa x.bytes.length xb)∧wx.cell? ⟨B,3,none⟩=some (.slice xc x.items.length xd)) (by kernel_rfl) (⟨c0,c1,c2,c3⟩) (fun zy=>?_)
 repeat' first
  | (
   revert k2
   intro hK
   go_simp
   refine(xC n HN.out.1 HN.out.2 _ hG.holds).mono ?_
   rintro e w3 ⟨v1,rfl,xa1,xb1,xc1,xd1,H1,rfl,xE,vy⟩
   try replace nQ:=xE.none nQ hD.lt
   try replace hD:=hD.below xE.below
   replace hB:=hB.below xE.below;replace hG:=hG.trans xE
   refine Ko hK ?_ fun zy=>?_
   ·exact⟨hB.cell 0 rfl,hB.cell 1 rfl,hB.cell 2 rfl,hB.cell 3 rfl⟩
   clear hK K)
  | (
   revert k3
   intro hK
   go_simp
   refine(ow (HT.out.mono hG.le) (HX.out.mono hG.le).arg vy.arg _ hG.holds).mono ?_
   rw[HO.out];rintro e w4 ⟨v4,rfl,ja,jb,jc,jd,H4,rfl,wh,Xg⟩
   obtain⟨q,hq⟩:∃ q,o.isSome=q:=⟨_,rfl⟩
   obtain⟨f,hf⟩:∃ f,o.getD zG=f:=⟨_,rfl⟩
   rw[hf]at Xg⊢;rw[hq];have Lz:=Hh (HF.out.trans hf);clear hq hf
   try replace nQ:=wh.none nQ hD.lt
   try replace hD:=hD.below wh.below
   replace hB:=hB.below wh.below;replace hG:=hG.trans wh
   refine Ko hK ?_ fun zy=>?_
   ·exact⟨hB.cell 0 rfl,hB.cell 1 rfl,hB.cell 2 rfl,hB.cell 3 rfl⟩
   clear hK K)
  | (
   revert k7
   intro hK
   go_simp
   have hD:=hG.newBlk 57 xZ;have nQ:=hG.hidden (Nat.le_refl _);have Yz:=hG.size;have Qm:=hB.lt;replace hB:=hB.alloc (.cells xZ 57);replace hG:=hG.alloc (.cells xZ 57)
   try simp only[ym,zX]at hD
   try simp only[ym,zX]at nQ
   try simp only[ym,zX]at Yz
   try simp only[ym,zX]at Qm
   refine Ko hK ?_ fun zy=>?_
   ·exact⟨hB.cell 0 rfl,hB.cell 1 rfl,hB.cell 2 rfl,hB.cell 3 rfl⟩
   clear hK K)
  | (
   revert k8
   intro hK
   rw[if_pos (by rfl)]
   refine yJ _ _ _ rfl _ _ rfl rfl _ _ hD zv rfl (sX _ _ _ _ rfl rfl rfl rfl) fun w10 hD10 hg10=>?_
   have hG:=hG.grownOwn nQ Yz hg10;have hB:=hB.grown hg10 (fun e=>by injection e with e;omega)
   refine Ko hK ?_ fun zy=>?_
   ·exact⟨hB.cell 0 rfl,hB.cell 1 rfl,hB.cell 2 rfl,hB.cell 3 rfl⟩
   clear hK K)
  | simp only[Act.put,zz1,zz2,zz3,zz4,zz5,zz6]
  | refine TkS 0 rfl zy ?_ (hs:=by decide +kernel)
  | refine TkS 1 rfl zy ?_ (hs:=by decide +kernel)
  | refine TkS 4 rfl zy ?_ (hs:=by decide +kernel)
  | refine TkS 5 rfl zy ?_ (hs:=by decide +kernel)
  | refine TkS 6 rfl zy ?_ (hs:=by decide +kernel)
  | refine TkS 9 rfl zy ?_ (hs:=by decide +kernel)
  | refine Ways.two (i:=2) (j:=7) rfl rfl (by decide +kernel) (fun K k2=>?_) (fun K k7=>?_)
  | refine Ways.two (i:=3) (j:=7) rfl rfl (by decide +kernel) (fun K k3=>?_) (fun K k7=>?_)
  | refine To 7 rfl (fun K k7=>?_) (by decide +kernel)
  | refine To 8 rfl (fun K k8=>?_) (by decide +kernel)
  | refine To 3 rfl (fun K k3=>?_) (by decide +kernel)
  | refine To 2 rfl (fun K k2=>?_) (by decide +kernel)
  | (
   refine Wd ?_ (by decide +kernel)
   have cv:=xe (Src.of_row Xg.bytes.row hG.holds) f.bytes.length jb rfl;have d2:=hD10.cell 2 rfl;have l8:=hG.below;have E:Hid (ut (sF x n).bytes=⟨f.bytes.toArray⟩):=by rw[Hid,Lz.out];rfl
   clear zy hB hG hD10 Xg vy;go_wp2_with fail
   go_ret
   exact⟨by rw[E.out];rfl,l8⟩)
theorem oK {H:Snap}(hTab:Tabs H) {x:Itm}{xa:Option Addr}{xb:Nat}{xc:Option Addr}{xd:Nat}(hx:IsItem H xa xb xc xd x) (n:Int) (ru : -9223372036854775808≤n) (oo:n≤9223372036854775807) (w:World) (hH:Holds w H)
  {B:Nat} (hB:Blk w B 57 #[.int .i64 x.kind,.int .u64 x.n,.slice xa x.bytes.length xb,.slice xc x.items.length xd]) :
  Calls Tryz.prog 54 #[.int .i64 n,.pointer (some ⟨B,0,none⟩)] w fun e w'=>e=.returned (.int .i64 (oG x n))∧Below w.heap.size w w':=by
 have hG:=Grows.refl hH;have HX:=Hh hx;have HT:=Hh hTab;obtain⟨o,ho⟩:∃ o,vz x (zt n)=o:=⟨_,rfl⟩
 have HO:=Hh ho;have HF:Hid (sF x n=o.getD zG):=by rw[Hid,sF,ho]
 have HN:=Hh (And.intro ru oo);clear ho hx hTab ru oo;have c0:=hB.cell 0 rfl;have c1:=hB.cell 1 rfl;have c2:=hB.cell 2 rfl;have c3:=hB.cell 3 rfl;go_enter Tryz.func54,Tryz.ntmps54
 go_upto_region 1 with fail
 replace hB:=hB.drew;replace hG:=hG.drew
 refine zr 10 (fun wx=>wx.cell? ⟨B,0,none⟩=some (.int .i64 x.kind)∧wx.cell? ⟨B,1,none⟩=some (.int .u64 x.n)∧wx.cell? ⟨B,2,none⟩=some (.slice xa x.bytes.length xb)∧wx.cell? ⟨B,3,none⟩=some (.slice xc x.items.length xd)) (by kernel_rfl) (⟨c0,c1,c2,c3⟩) (fun zy=>?_)
 repeat' first
  | (
   revert k2
   intro hK
   go_simp
   refine(xC n HN.out.1 HN.out.2 _ hG.holds).mono ?_
   rintro e w3 ⟨v1,rfl,xa1,xb1,xc1,xd1,H1,rfl,xE,vy⟩
   try replace nQ:=xE.none nQ hD.lt
   try replace hD:=hD.below xE.below
   replace hB:=hB.below xE.below;replace hG:=hG.trans xE
   refine Ko hK ?_ fun zy=>?_
   ·exact⟨hB.cell 0 rfl,hB.cell 1 rfl,hB.cell 2 rfl,hB.cell 3 rfl⟩
   clear hK K)
  | (
   revert k3
   intro hK
   go_simp
   refine(ow (HT.out.mono hG.le) (HX.out.mono hG.le).arg vy.arg _ hG.holds).mono ?_
   rw[HO.out];rintro e w4 ⟨v4,rfl,ja,jb,jc,jd,H4,rfl,wh,Xg⟩
   obtain⟨q,hq⟩:∃ q,o.isSome=q:=⟨_,rfl⟩
   obtain⟨f,hf⟩:∃ f,o.getD zG=f:=⟨_,rfl⟩
   rw[hf]at Xg⊢;rw[hq];have Lz:=Hh (HF.out.trans hf);clear hq hf
   try replace nQ:=wh.none nQ hD.lt
   try replace hD:=hD.below wh.below
   replace hB:=hB.below wh.below;replace hG:=hG.trans wh
   refine Ko hK ?_ fun zy=>?_
   ·exact⟨hB.cell 0 rfl,hB.cell 1 rfl,hB.cell 2 rfl,hB.cell 3 rfl⟩
   clear hK K)
  | (
   revert k7
   intro hK
   go_simp
   have hD:=hG.newBlk 57 xZ;have nQ:=hG.hidden (Nat.le_refl _);have Yz:=hG.size;have Qm:=hB.lt;replace hB:=hB.alloc (.cells xZ 57);replace hG:=hG.alloc (.cells xZ 57)
   try simp only[ym,zX]at hD
   try simp only[ym,zX]at nQ
   try simp only[ym,zX]at Yz
   try simp only[ym,zX]at Qm
   refine Ko hK ?_ fun zy=>?_
   ·exact⟨hB.cell 0 rfl,hB.cell 1 rfl,hB.cell 2 rfl,hB.cell 3 rfl⟩
   clear hK K)
  | (
   revert k8
   intro hK
   rw[if_pos (by rfl)]
   refine yJ _ _ _ rfl _ _ rfl rfl _ _ hD zv rfl (sX _ _ _ _ rfl rfl rfl rfl) fun w10 hD10 hg10=>?_
   have hG:=hG.grownOwn nQ Yz hg10;have hB:=hB.grown hg10 (fun e=>by injection e with e;omega)
   refine Ko hK ?_ fun zy=>?_
   ·exact⟨hB.cell 0 rfl,hB.cell 1 rfl,hB.cell 2 rfl,hB.cell 3 rfl⟩
   clear hK K)
  | simp only[Act.put,zz1,zz2,zz3,zz4,zz5,zz6]
  | refine TkS 0 rfl zy ?_ (hs:=by decide +kernel)
  | refine TkS 1 rfl zy ?_ (hs:=by decide +kernel)
  | refine TkS 4 rfl zy ?_ (hs:=by decide +kernel)
  | refine TkS 5 rfl zy ?_ (hs:=by decide +kernel)
  | refine TkS 6 rfl zy ?_ (hs:=by decide +kernel)
  | refine TkS 9 rfl zy ?_ (hs:=by decide +kernel)
  | refine Ways.two (i:=2) (j:=7) rfl rfl (by decide +kernel) (fun K k2=>?_) (fun K k7=>?_)
  | refine Ways.two (i:=3) (j:=7) rfl rfl (by decide +kernel) (fun K k3=>?_) (fun K k7=>?_)
  | refine To 7 rfl (fun K k7=>?_) (by decide +kernel)
  | refine To 8 rfl (fun K k8=>?_) (by decide +kernel)
  | refine To 3 rfl (fun K k3=>?_) (by decide +kernel)
  | refine To 2 rfl (fun K k2=>?_) (by decide +kernel)
  | (
   refine Wd ?_ (by decide +kernel)
   have d1:=hD10.cell 1 rfl;have l8:=hG.below;obtain⟨m,hm⟩:∃ m,oG x n=m:=⟨_,rfl⟩
   have MNX:min (f.n:Int) 1073741825=m:=by rw[← hm,oG,Lz.out];omega
   have MB:0≤m∧m≤1073741825:=by rw[← hm,oG];omega
   have MW:IntKind.i64.wrap m=m:=IntWalk.i64_in _ (by omega);have E:=Hh hm;clear zy hB hG hD10 Xg vy hm MB;go_wp2_with fail
   go_ret
   exact⟨by rw[E.out];rfl,l8⟩)
end Go.Proofs.YtgcjjhibdbafmabGreatDoor
