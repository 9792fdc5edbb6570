/- squeezed. The walk of EnvelopeMacs. -/
import Derived.Test.YtgcjjhibdbafmaaGreatDoorK22
set_option linter.unusedVariables false
set_option linter.unusedSimpArgs false
set_option maxRecDepth 100000
set_option maxHeartbeats 25600000
namespace Go.Proofs.YtgcjjhibdbafmaaGreatDoor
open Go.RowKit
structure MidM (w:World) (H:Snap) (N15 N18 N20 N21:Nat) (hd ev:Array Value) (c20 c21:Array Value) (wx:World) (Hx:Snap):Prop where
 G:Grows w H wx Hx
 b15:Blk wx N15 28 hd
 b18:Blk wx N18 34 ev
 b20:Blk wx N20 34 c20
 b21:Blk wx N21 34 c21
 h20:Hx N20=none
 h21:Hx N21=none
 l20:w.heap.size≤N20
 l21:w.heap.size≤N21
 ne:N21≠N20
 q20:N15<N20∧N18<N20
 q21:N15<N21∧N18<N21
theorem MidM.grow {w:World}{H:Snap}{N15 N18 N20 N21:Nat}{hd ev c20 c21:Array Value}{wx wy:World}{Hx Hy:Snap}(h:MidM w H N15 N18 N20 N21 hd ev c20 c21 wx Hx) (k:Grows wx Hx wy Hy):MidM w H N15 N18 N20 N21 hd ev c20 c21 wy Hy :=
 ⟨h.G.trans k,h.b15.below k.below,h.b18.below k.below,h.b20.below k.below,h.b21.below k.below,k.none h.h20 h.b20.lt,k.none h.h21 h.b21.lt,h.l20,h.l21,h.ne,h.q20,h.q21⟩
theorem MidM.set20 {w:World}{H:Snap}{N15 N18 N20 N21:Nat}{hd ev c20 c21 c:Array Value}{wx wy:World}{Hx:Snap}(h:MidM w H N15 N18 N20 N21 hd ev c20 c21 wx Hx) (hB:Blk wy N20 34 c) (hg:wx.grownBy wy (some N20)):MidM w H N15 N18 N20 N21 hd ev c c21 wy Hx :=
 ⟨h.G.grownOwn h.h20 h.l20 hg,h.b15.grown hg (fun e=>by injection e with e;have:=h.q20;omega),h.b18.grown hg (fun e=>by injection e with e;have:=h.q20;omega),hB,h.b21.grown hg (fun e=>by injection e with e;exact h.ne e.symm),h.h20,h.h21,h.l20,h.l21,h.ne,h.q20,h.q21⟩
theorem MidM.set21 {w:World}{H:Snap}{N15 N18 N20 N21:Nat}{hd ev c20 c21 c:Array Value}{wx wy:World}{Hx:Snap}(h:MidM w H N15 N18 N20 N21 hd ev c20 c21 wx Hx) (hB:Blk wy N21 34 c) (hg:wx.grownBy wy (some N21)):MidM w H N15 N18 N20 N21 hd ev c20 c wy Hx :=
 ⟨h.G.grownOwn h.h21 h.l21 hg,h.b15.grown hg (fun e=>by injection e with e;have:=h.q21;omega),h.b18.grown hg (fun e=>by injection e with e;have:=h.q21;omega),h.b20.grown hg (fun e=>by injection e with e;exact h.ne e),hB,h.h20,h.h21,h.l20,h.l21,h.ne,h.q20,h.q21⟩
structure FourE (wr:World) (H:Snap) (R k:Nat) (v:Ev) (y:EvAd):Prop where
 c0:wr.cell? ⟨R,k*10,none⟩=some (.int .i64 v.p.kind)
 c1:wr.cell? ⟨R,k*10+1,none⟩=some (.int .u64 v.p.n)
 c2:wr.cell? ⟨R,k*10+2,none⟩=some (.slice y.a.ba v.p.bytes.length y.a.bc)
 c3:wr.cell? ⟨R,k*10+3,none⟩=some (.slice y.a.ia v.p.items.length y.a.ic)
 c4:wr.cell? ⟨R,k*10+4,none⟩=some (.int .i64 v.u.kind)
 c5:wr.cell? ⟨R,k*10+5,none⟩=some (.int .u64 v.u.n)
 c6:wr.cell? ⟨R,k*10+6,none⟩=some (.slice y.b.ba v.u.bytes.length y.b.bc)
 c7:wr.cell? ⟨R,k*10+7,none⟩=some (.slice y.b.ia v.u.items.length y.b.ic)
 c8:wr.cell? ⟨R,k*10+8,none⟩=some (.slice y.ba v.body.length y.bc)
 c9:wr.cell? ⟨R,k*10+9,none⟩=some (.slice y.ta v.tag.length y.tc)
 is:EvA H v y
theorem size_bytes1:(Tryz.prog.info? 23).map (·.size)=some 1:=by kernel_rfl
theorem law13_macs {H:Snap}(hTab:Tabs H) {p u:Itm}{a b:Ad}(hp:IsItem H a.ba a.bc a.ia a.ic p) (hu:IsItem H b.ba b.bc b.ia b.ic u) {A:Option Addr}{c:Nat}{l:List Int}(hl:IsInts H A c l)
  {EA:Option Addr} {en ec:Nat} {ext:List UInt8} (hen:en=ext.length) (hext:IsBytes H EA ec ext) {PA:Option Addr} {pn pc:Nat} {pay:List UInt8} (hpn:pn=pay.length) (hpay:IsBytes H PA pc pay) {KA:Option Addr} {kn kc:Nat} {key:List UInt8} (hkn:kn=key.length) (hkey:IsBytes H KA kc key) (at_ by_:Int) (w:World) (hH:Holds w H) :
  Calls Tryz.prog 3 #[.agg (hdrC p a u b),.slice A l.length c,.slice EA en ec,.slice PA pn pc,.slice KA kn kc,.int .i64 at_,.int .i64 by_] w fun e w'=>e=.returned (.bool true)∧Below w.heap.size w w':=by
 have hB:=Blk.new w 28 (hdrC p a u b);have hG:=(Grows.refl hH).alloc (.cells (hdrC p a u b) 28);have HX:=Hh (And.intro hen hext);have HY:=Hh (And.intro hpn hpay);have HK:=Hh (And.intro hkn hkey);obtain⟨ln,hln⟩:∃ n,l.length=n:=⟨_,rfl⟩
 have HLN:=Hh hln;rw[hln];obtain⟨w1,hw1⟩:∃ w1,w.alloc (.cells (hdrC p a u b) 28)=w1:=⟨_,rfl⟩
 have hs1:w1.heap.size=w.heap.size+1:=by rw[← hw1,size_alloc]
 rw[hw1]at hB hG
 obtain⟨H2,hG2,hl2,hr2⟩:=rows_snap hG 23 [.slice EA en ec,.slice PA pn pc,.slice KA kn kc] [ext,pay,key] (by simp) (fun j hj=>by
  match j,hj with
  | 0,_=>exact⟨EA,ec,by rw[HX.out.1];rfl,HX.out.2.mono hG.le⟩
  | 1,_=>exact⟨PA,pc,by rw[HY.out.1];rfl,HY.out.2.mono hG.le⟩
  | 2,_=>exact⟨KA,kc,by rw[HK.out.1];rfl,HK.out.2.mono hG.le⟩)
 rw[hs1]at hr2;have hB2:=hB.alloc (.cells [Value.slice EA en ec,.slice PA pn pc,.slice KA kn kc].toArray 23);obtain⟨w9,hw9⟩:∃ w9,w1.alloc (.cells [Value.slice EA en ec,.slice PA pn pc,.slice KA kn kc].toArray 23)=w9:=⟨_,rfl⟩
 rw[hw9]at hG2 hB2;have HW9:Hid ((w.alloc (.cells (hdrC p a u b) 28)).alloc (.cells #[Value.slice EA en ec,.slice PA pn pc,.slice KA kn kc] 23)=w9):=by rw[Hid,hw1];exact hw9
 have SH:=Hh (law13_short hr2 w9 hG2.holds);clear hr2 hl2 hB hG hen hext hpn hpay hkn hkey hln hw1 hw9 hs1;go_enter Tryz.func3,Tryz.ntmps3
 go_wp2_with fail
 rw[HW9.out]
 refine SH.out.mono ?_
 rintro e w2 ⟨rfl,rfl⟩
 clear SH HW9
 cases hpb:([ext,pay,key].all fun l=>decide (l.length≤600)) with
 | false =>
  have HG:=hG2;clear hpb hG2 hB2;have AW:=Hh (law13_awake (hTab.mono HG.le) _ HG.holds);have hbb:=HG.below;clear HG;go_wp2_with fail
  refine AW.out.mono ?_
  rintro e wz ⟨rfl,hbz⟩
  have hbq:=hbb.trans (hbz.mono hbb.size);go_wp2_with fail
  go_ret
  exact⟨rfl,hbq⟩
 | true =>
 have HPB:Hid (ext.length≤600∧pay.length≤600∧key.length≤600):=by
  simp only[List.all_cons,List.all_nil,Bool.and_eq_true,decide_eq_true_eq,and_true]at hpb
  exact⟨hpb.1,hpb.2.1,hpb.2.2⟩
 clear hpb;have k0:=hB2.cell 0 rfl;have k1:=hB2.cell 1 rfl;have k2:=hB2.cell 2 rfl;have k3:=hB2.cell 3 rfl;have k4:=hB2.cell 4 rfl;have k5:=hB2.cell 5 rfl;have k6:=hB2.cell 6 rfl;have k7:=hB2.cell 7 rfl;have HDS:=Hh (law13_headers (hTab.mono hG2.le) (hp.mono hG2.le) (hu.mono hG2.le) (hl.mono hG2.le) _ hG2.holds);rw[HLN.out]at HDS;clear hB2 hp hu hl;go_wp2_with fail
 refine HDS.out.mono ?_
 rintro e w3 ⟨p',u',a',b',H3,rfl,hG3,hp',hu'⟩
 have hD:=Blk.new w3 28 (hdrC p' a' u' b');have hG4:=(hG2.trans hG3).alloc (.cells (hdrC p' a' u' b') 28);obtain⟨w4,hw4⟩:∃ w4,w3.alloc (.cells (hdrC p' a' u' b') 28)=w4:=⟨_,rfl⟩
 obtain⟨N15,hN15⟩:∃ N,w3.heap.size=N:=⟨_,rfl⟩
 have HW4:=Hh (And.intro hw4 hN15);rw[hw4]at hD hG4;rw[hN15]at hD;have HP:=Hh hp';have HU:=Hh hu';have HT:=Hh (hTab.mono hG4.le);have M1:=Hh (envelope_Mac HT.out HP.out HU.out (ec:=ec) HX.out.1 (HX.out.2.mono hG4.le) (by have:=HPB.out;omega) (pc:=pc) HY.out.1 (HY.out.2.mono hG4.le) (kc:=kc) HK.out.1 (HK.out.2.mono hG4.le) (by have:=HPB.out;omega) _ hG4.holds);have j0:=hD.cell 0 rfl;have j1:=hD.cell 1 rfl;have j2:=hD.cell 2 rfl;have j3:=hD.cell 3 rfl;have j4:=hD.cell 4 rfl;have j5:=hD.cell 5 rfl;have j6:=hD.cell 6 rfl;have j7:=hD.cell 7 rfl;clear HDS hG2 hG3 k0 k1 k2 k3 k4 k5 k6 k7 hw4 hN15 hp' hu';go_upto_region 4 with fail
 try rw[HW4.out.1]
 try rw[HW4.out.2]
 go_wp2_with fail
 refine M1.out.mono ?_
 rintro e w5 ⟨x,H5,rfl,hG5,hx⟩
 obtain⟨V,hV⟩:∃ V,macV p' u' ext pay key=V:=⟨_,rfl⟩
 obtain⟨E,hE⟩:∃ E,macE p' u' ext pay key=E:=⟨_,rfl⟩
 have HV:=Hh hV;have HE:=Hh hE;rw[hV]at hx⊢;rw[hE];have hG6:=(hG4.trans hG5).alloc (.cells (evQ V x) 34);have hD6:=(hD.below hG5.below).alloc (.cells (evQ V x) 34);have hV16:=Blk.new w5 34 (evQ V x);obtain⟨w6,hw6⟩:∃ w6,w5.alloc (.cells (evQ V x) 34)=w6:=⟨_,rfl⟩
 obtain⟨N16,hN16⟩:∃ N,w5.heap.size=N:=⟨_,rfl⟩
 have HW6:=Hh (And.intro hw6 hN16);rw[hw6]at hG6 hD6 hV16;rw[hN16]at hV16;have HX5:=Hh hx;have HM2:=Hh (ref13_Mac (HT.out.mono hG5.le) (HP.out.mono hG5.le) (HU.out.mono hG5.le) (ec:=ec) HX.out.1 (HX.out.2.mono (hG4.le.trans hG5.le)) (by have:=HPB.out;omega) (pc:=pc) HY.out.1 (HY.out.2.mono (hG4.le.trans hG5.le)) (kc:=kc) HK.out.1 (HK.out.2.mono (hG4.le.trans hG5.le)) (by have:=HPB.out;omega) _ hG6.holds);have HLE:=Hh (And.intro hG4.le hG5.le);clear M1 hG4 hG5 hD hx hV hE hw6 hN16 HW4 j0 j1 j2 j3 j4 j5 j6 j7;have j0:=hD6.cell 0 rfl;have j1:=hD6.cell 1 rfl;have j2:=hD6.cell 2 rfl;have j3:=hD6.cell 3 rfl;have j4:=hD6.cell 4 rfl;have j5:=hD6.cell 5 rfl;have j6:=hD6.cell 6 rfl;have j7:=hD6.cell 7 rfl;go_upto_region 5 with fail
 try rw[HW6.out.1]
 try rw[HW6.out.2]
 go_wp2_with fail
 refine HM2.out.mono ?_
 rintro e w7 ⟨y,H7,rfl,hG7,hy⟩
 rw[HV.out]at hy⊢;rw[HE.out];have hG8:=(hG6.trans hG7).alloc (.cells (evQ V y) 34);have hD15:=(hD6.below hG7.below).alloc (.cells (evQ V y) 34);replace hV16:=(hV16.below hG7.below).alloc (.cells (evQ V y) 34);have hV18:=Blk.new w7 34 (evQ V y);obtain⟨w8,hw8⟩:∃ w8,w7.alloc (.cells (evQ V y) 34)=w8:=⟨_,rfl⟩
 obtain⟨N18,hN18⟩:∃ N,w7.heap.size=N:=⟨_,rfl⟩
 have HW8:=Hh (And.intro hw8 hN18);rw[hw8]at hG8 hD15 hV16 hV18;rw[hN18]at hV18;have HY7:=Hh hy;have hVm:=macV_modest p' u' ext pay key;rw[HV.out]at hVm;have SM:=Hh (ref13_Same hVm.1 hVm.2 (HX5.out.mono hG7.le) HY7.out _ hG8.holds);replace HLE:=Hh (And.intro HLE.out.1 (HLE.out.2.trans hG7.le));clear HM2 hG6 hG7 hD6 hy hw8 hN18 HW6 hVm j0 j1 j2 j3 j4 j5 j6 j7;have j0:=hV16.cell 0 rfl;have j1:=hV16.cell 1 rfl;have j2:=hV16.cell 2 rfl;have j3:=hV16.cell 3 rfl;have j4:=hV16.cell 4 rfl;have j5:=hV16.cell 5 rfl;have j6:=hV16.cell 6 rfl;have j7:=hV16.cell 7 rfl;have j8:=hV16.cell 8 rfl;have j9:=hV16.cell 9 rfl;have k0:=hV18.cell 0 rfl;have k1:=hV18.cell 1 rfl;have k2:=hV18.cell 2 rfl;have k3:=hV18.cell 3 rfl;have k4:=hV18.cell 4 rfl;have k5:=hV18.cell 5 rfl;have k6:=hV18.cell 6 rfl;have k7:=hV18.cell 7 rfl;have k8:=hV18.cell 8 rfl;have k9:=hV18.cell 9 rfl
 go_upto_region 6 with fail
 try rw[HW8.out.1]
 try rw[HW8.out.2]
 go_wp2_with fail
 refine SM.out.mono ?_
 rintro e w9 ⟨rfl,hb9⟩
 replace hD15:=hD15.below hb9;replace hV18:=hV18.below hb9;have hG:=hG8.below_ hb9;clear SM hG8 hb9 hV16 HW8 j0 j1 j2 j3 j4 j5 j6 j7 j8 j9 k0 k1 k2 k3 k4 k5 k6 k7 k8 k9;go_upto_region 8 with fail
 go_cut [20,21] (fun s20 s21 wx=>∃ N20 N21,s20=.pointer (some ⟨N20,0,none⟩)∧s21=.pointer (some ⟨N21,0,none⟩)∧MidM w H N15 N18 N20 N21 (hdrC p' a' u' b') (evQ V y) (evQ V y) (evQ V y) wx H7)
 case first =>
  replace hD15:=hD15.drew;replace hV18:=hV18.drew;replace hG:=hG.drew
  refine wp_region_ways 6 (fun w'=>w'.cell? ⟨N18,0,none⟩=some (.int .i64 V.p.kind)∧w'.cell? ⟨N18,1,none⟩=some (.int .u64 V.p.n)∧w'.cell? ⟨N18,2,none⟩=some (.slice y.a.ba V.p.bytes.length y.a.bc)∧w'.cell? ⟨N18,3,none⟩=some (.slice y.a.ia V.p.items.length y.a.ic)∧w'.cell? ⟨N18,4,none⟩=some (.int .i64 V.u.kind)∧w'.cell? ⟨N18,5,none⟩=some (.int .u64 V.u.n)∧w'.cell? ⟨N18,6,none⟩=some (.slice y.b.ba V.u.bytes.length y.b.bc)∧w'.cell? ⟨N18,7,none⟩=some (.slice y.b.ia V.u.items.length y.b.ic)∧w'.cell? ⟨N18,8,none⟩=some (.slice y.ba V.body.length y.bc)∧w'.cell? ⟨N18,9,none⟩=some (.slice y.ta V.tag.length y.tc)) (by kernel_rfl) (⟨hV18.cell 0 rfl,hV18.cell 1 rfl,hV18.cell 2 rfl,hV18.cell 3 rfl,hV18.cell 4 rfl,hV18.cell 5 rfl,hV18.cell 6 rfl,hV18.cell 7 rfl,hV18.cell 8 rfl,hV18.cell 9 rfl⟩) (fun hHeld=>?_)
  refine TkS 0 rfl hHeld ?_
  refine TkS 1 rfl hHeld ?_
  refine Ways.two (i:=2) (j:=3) rfl rfl (by kernel_rfl) (fun K hK=>?_) (fun K hK=>?_)
  ·go_simp
   have hD20:=hG.newBlk 34 zeroEvC;have hH20:=hG.hidden (Nat.le_refl _);have hl20:=hG.size;have hq20:=Hh (And.intro hD15.lt hV18.lt)
   try have hne:=Hh (Nat.ne_of_lt hD21.lt)
   try simp only[drew_heap,size_alloc]at hne
   replace hD15:=hD15.alloc (.cells zeroEvC 34);replace hV18:=hV18.alloc (.cells zeroEvC 34)
   try replace hD21:=hD21.alloc (.cells zeroEvC 34)
   replace hG:=hG.alloc (.cells zeroEvC 34)
   try simp only[drew_heap,size_alloc]at hD20
   try simp only[drew_heap,size_alloc]at hH20
   try simp only[drew_heap,size_alloc]at hl20
   try simp only[drew_heap,size_alloc]at hq20
   refine Ko hK ?_ fun hHeld=>?_
   ·exact⟨hV18.cell 0 rfl,hV18.cell 1 rfl,hV18.cell 2 rfl,hV18.cell 3 rfl,hV18.cell 4 rfl,hV18.cell 5 rfl,hV18.cell 6 rfl,hV18.cell 7 rfl,hV18.cell 8 rfl,hV18.cell 9 rfl⟩
   clear hK K
   refine To 3 rfl fun K hK=>?_
   go_simp
   have hD21:=hG.newBlk 34 zeroEvC;have hH21:=hG.hidden (Nat.le_refl _);have hl21:=hG.size;have hq21:=Hh (And.intro hD15.lt hV18.lt)
   try have hne:=Hh (Nat.ne_of_gt hD20.lt)
   try simp only[drew_heap,size_alloc]at hne
   replace hD15:=hD15.alloc (.cells zeroEvC 34);replace hV18:=hV18.alloc (.cells zeroEvC 34)
   try replace hD20:=hD20.alloc (.cells zeroEvC 34)
   replace hG:=hG.alloc (.cells zeroEvC 34)
   try simp only[drew_heap,size_alloc]at hD21
   try simp only[drew_heap,size_alloc]at hH21
   try simp only[drew_heap,size_alloc]at hl21
   try simp only[drew_heap,size_alloc]at hq21
   refine Ko hK ?_ fun hHeld=>?_
   ·exact⟨hV18.cell 0 rfl,hV18.cell 1 rfl,hV18.cell 2 rfl,hV18.cell 3 rfl,hV18.cell 4 rfl,hV18.cell 5 rfl,hV18.cell 6 rfl,hV18.cell 7 rfl,hV18.cell 8 rfl,hV18.cell 9 rfl⟩
   clear hK K
   refine To 4 rfl fun K hK=>?_
   rw[if_pos (by rfl)]
   refine wp_store_item _ _ _ rfl _ _ rfl rfl _ _ hD20 size_ev rfl (ev_one _ _ _ _ _ _ _ _ _ _) fun w20' hE20 hg20=>?_
   replace hD15:=hD15.grown hg20 (fun e=>by injection e with e;have:=hq20.out;omega);replace hV18:=hV18.grown hg20 (fun e=>by injection e with e;have:=hq20.out;omega)
   try replace hD21:=hD21.grown hg20 (fun e=>by injection e with e;have:=hne.out;omega)
   replace hG:=hG.grownOwn hH20 hl20 hg20;replace hD20:=hE20;clear hE20 hg20
   refine Ko hK ?_ fun hHeld=>?_
   ·exact⟨hV18.cell 0 rfl,hV18.cell 1 rfl,hV18.cell 2 rfl,hV18.cell 3 rfl,hV18.cell 4 rfl,hV18.cell 5 rfl,hV18.cell 6 rfl,hV18.cell 7 rfl,hV18.cell 8 rfl,hV18.cell 9 rfl⟩
   clear hK K
   refine To 5 rfl fun K hK=>?_
   rw[if_pos (by rfl)]
   refine wp_store_item _ _ _ rfl _ _ rfl rfl _ _ hD21 size_ev rfl (ev_one _ _ _ _ _ _ _ _ _ _) fun w21' hE21 hg21=>?_
   replace hD15:=hD15.grown hg21 (fun e=>by injection e with e;have:=hq21.out;omega);replace hV18:=hV18.grown hg21 (fun e=>by injection e with e;have:=hq21.out;omega)
   try replace hD20:=hD20.grown hg21 (fun e=>by injection e with e;have:=hne.out;omega)
   replace hG:=hG.grownOwn hH21 hl21 hg21;replace hD21:=hE21;clear hE21 hg21
   refine Ko hK ?_ fun hHeld=>?_
   ·exact⟨hV18.cell 0 rfl,hV18.cell 1 rfl,hV18.cell 2 rfl,hV18.cell 3 rfl,hV18.cell 4 rfl,hV18.cell 5 rfl,hV18.cell 6 rfl,hV18.cell 7 rfl,hV18.cell 8 rfl,hV18.cell 9 rfl⟩
   clear hK K
   refine Wd ?_
   go_wp2_with fail
   go_meet
   exact⟨_,_,rfl,rfl,hG,hD15,hV18,hD20,hD21,hH20,hH21,hl20,hl21,hne.out,hq20.out,hq21.out⟩
  ·go_simp
   have hD21:=hG.newBlk 34 zeroEvC;have hH21:=hG.hidden (Nat.le_refl _);have hl21:=hG.size;have hq21:=Hh (And.intro hD15.lt hV18.lt)
   try have hne:=Hh (Nat.ne_of_gt hD20.lt)
   try simp only[drew_heap,size_alloc]at hne
   replace hD15:=hD15.alloc (.cells zeroEvC 34);replace hV18:=hV18.alloc (.cells zeroEvC 34)
   try replace hD20:=hD20.alloc (.cells zeroEvC 34)
   replace hG:=hG.alloc (.cells zeroEvC 34)
   try simp only[drew_heap,size_alloc]at hD21
   try simp only[drew_heap,size_alloc]at hH21
   try simp only[drew_heap,size_alloc]at hl21
   try simp only[drew_heap,size_alloc]at hq21
   refine Ko hK ?_ fun hHeld=>?_
   ·exact⟨hV18.cell 0 rfl,hV18.cell 1 rfl,hV18.cell 2 rfl,hV18.cell 3 rfl,hV18.cell 4 rfl,hV18.cell 5 rfl,hV18.cell 6 rfl,hV18.cell 7 rfl,hV18.cell 8 rfl,hV18.cell 9 rfl⟩
   clear hK K
   refine To 2 rfl fun K hK=>?_
   go_simp
   have hD20:=hG.newBlk 34 zeroEvC;have hH20:=hG.hidden (Nat.le_refl _);have hl20:=hG.size;have hq20:=Hh (And.intro hD15.lt hV18.lt)
   try have hne:=Hh (Nat.ne_of_lt hD21.lt)
   try simp only[drew_heap,size_alloc]at hne
   replace hD15:=hD15.alloc (.cells zeroEvC 34);replace hV18:=hV18.alloc (.cells zeroEvC 34)
   try replace hD21:=hD21.alloc (.cells zeroEvC 34)
   replace hG:=hG.alloc (.cells zeroEvC 34)
   try simp only[drew_heap,size_alloc]at hD20
   try simp only[drew_heap,size_alloc]at hH20
   try simp only[drew_heap,size_alloc]at hl20
   try simp only[drew_heap,size_alloc]at hq20
   refine Ko hK ?_ fun hHeld=>?_
   ·exact⟨hV18.cell 0 rfl,hV18.cell 1 rfl,hV18.cell 2 rfl,hV18.cell 3 rfl,hV18.cell 4 rfl,hV18.cell 5 rfl,hV18.cell 6 rfl,hV18.cell 7 rfl,hV18.cell 8 rfl,hV18.cell 9 rfl⟩
   clear hK K
   refine To 4 rfl fun K hK=>?_
   rw[if_pos (by rfl)]
   refine wp_store_item _ _ _ rfl _ _ rfl rfl _ _ hD20 size_ev rfl (ev_one _ _ _ _ _ _ _ _ _ _) fun w20' hE20 hg20=>?_
   replace hD15:=hD15.grown hg20 (fun e=>by injection e with e;have:=hq20.out;omega);replace hV18:=hV18.grown hg20 (fun e=>by injection e with e;have:=hq20.out;omega)
   try replace hD21:=hD21.grown hg20 (fun e=>by injection e with e;have:=hne.out;omega)
   replace hG:=hG.grownOwn hH20 hl20 hg20;replace hD20:=hE20;clear hE20 hg20
   refine Ko hK ?_ fun hHeld=>?_
   ·exact⟨hV18.cell 0 rfl,hV18.cell 1 rfl,hV18.cell 2 rfl,hV18.cell 3 rfl,hV18.cell 4 rfl,hV18.cell 5 rfl,hV18.cell 6 rfl,hV18.cell 7 rfl,hV18.cell 8 rfl,hV18.cell 9 rfl⟩
   clear hK K
   refine To 5 rfl fun K hK=>?_
   rw[if_pos (by rfl)]
   refine wp_store_item _ _ _ rfl _ _ rfl rfl _ _ hD21 size_ev rfl (ev_one _ _ _ _ _ _ _ _ _ _) fun w21' hE21 hg21=>?_
   replace hD15:=hD15.grown hg21 (fun e=>by injection e with e;have:=hq21.out;omega);replace hV18:=hV18.grown hg21 (fun e=>by injection e with e;have:=hq21.out;omega)
   try replace hD20:=hD20.grown hg21 (fun e=>by injection e with e;have:=hne.out;omega)
   replace hG:=hG.grownOwn hH21 hl21 hg21;replace hD21:=hE21;clear hE21 hg21
   refine Ko hK ?_ fun hHeld=>?_
   ·exact⟨hV18.cell 0 rfl,hV18.cell 1 rfl,hV18.cell 2 rfl,hV18.cell 3 rfl,hV18.cell 4 rfl,hV18.cell 5 rfl,hV18.cell 6 rfl,hV18.cell 7 rfl,hV18.cell 8 rfl,hV18.cell 9 rfl⟩
   clear hK K
   refine Wd ?_
   go_wp2_with fail
   go_meet
   exact⟨_,_,rfl,rfl,hG,hD15,hV18,hD20,hD21,hH20,hH21,hl20,hl21,hne.out,hq20.out,hq21.out⟩
 case rest =>
 clear hD15 hV18 hG;obtain⟨N20,N21,rfl,rfl,hM⟩:=hcut;have S1:=Hh (mk_Spoilt (c:=y.tc) _ hM.G.holds rfl HY7.out.tag (by have:=(macV_len HV.out HPB.out.2.1).2;omega) at_ by_);have k9:=hM.b18.cell 9 rfl;go_wp2_with fail
 refine S1.out.mono ?_
 rintro e w10 ⟨TA,tc,tg,rfl,H10,hG10,htg⟩
 replace hM:=hM.grow hG10;have HTG:=Hh htg;clear S1 k9 htg;obtain⟨tn,htn⟩:∃ n,tg.length=n:=⟨_,rfl⟩
 have HTN:=Hh htn;rw[htn];go_wp2_with (with_reducible refine stop_store ?_)
 refine wpList_store_cell rfl _ _ _ rfl rfl N20 9 (.slice TA tn tc) rfl rfl _ _ hM.b20 size_bytes1 (by simp) rfl fun w11 hB11 hg11=>?_
 replace hM:=hM.set20 (c:=evC V.p y.a V.u y.b y.ba V.body.length y.bc TA tn tc) hB11 hg11;have S2:=Hh (mk_Spoilt (c:=y.bc) _ hM.G.holds rfl (HY7.out.body.mono hG10.le) (by have:=(macV_len HV.out HPB.out.2.1).1;omega) at_ by_);have HL10:=Hh hG10.le;have k8:=hM.b18.cell 8 rfl;clear hB11 hg11 hG10 htn;go_wp2_with fail
 refine S2.out.mono ?_
 rintro e w12 ⟨BA,bc,bd,rfl,H12,hG12,hbd⟩
 replace hM:=hM.grow hG12;have HBD:=Hh hbd;clear S2 k8 hbd;obtain⟨bn,hbn⟩:∃ n,bd.length=n:=⟨_,rfl⟩
 have HBN:=Hh hbn;rw[hbn];go_wp2_with (with_reducible refine stop_store ?_)
 refine wpList_store_cell rfl _ _ _ rfl rfl N21 8 (.slice BA bn bc) rfl rfl _ _ hM.b21 size_bytes1 (by simp) rfl fun w13 hB13 hg13=>?_
 replace hM:=hM.set21 (c:=evC V.p y.a V.u y.b BA bn bc y.ta V.tag.length y.tc) hB13 hg13;have HL12:=Hh hG12.le;clear hB13 hg13 hG12 hbn;have hR:=Blk.new w13 34 #[.int .i64 V.p.kind,.int .u64 V.p.n,.slice y.a.ba V.p.bytes.length y.a.bc,.slice y.a.ia V.p.items.length y.a.ic,.int .i64 V.u.kind,.int .u64 V.u.n,.slice y.b.ba V.u.bytes.length y.b.bc,.slice y.b.ia V.u.items.length y.b.ic,.slice y.ba V.body.length y.bc,.slice y.ta V.tag.length y.tc,.int .i64 V.p.kind,.int .u64 V.p.n,.slice y.a.ba V.p.bytes.length y.a.bc,.slice y.a.ia V.p.items.length y.a.ic,.int .i64 V.u.kind,.int .u64 V.u.n,.slice y.b.ba V.u.bytes.length y.b.bc,.slice y.b.ia V.u.items.length y.b.ic,.slice y.ba V.body.length y.bc,.slice TA tn tc,.int .i64 V.p.kind,.int .u64 V.p.n,.slice y.a.ba V.p.bytes.length y.a.bc,.slice y.a.ia V.p.items.length y.a.ic,.int .i64 V.u.kind,.int .u64 V.u.n,.slice y.b.ba V.u.bytes.length y.b.bc,.slice y.b.ia V.u.items.length y.b.ic,.slice BA bn bc,.slice y.ta V.tag.length y.tc,.int .i64 p'.kind,.int .u64 p'.n,.slice a'.ba p'.bytes.length a'.bc,.slice a'.ia p'.items.length a'.ic,.int .i64 u'.kind,.int .u64 u'.n,.slice b'.ba u'.bytes.length b'.bc,.slice b'.ia u'.items.length b'.ic,.slice PA pn pc,.slice EA en ec]
 have hG13:=hM.G.alloc (.cells #[.int .i64 V.p.kind,.int .u64 V.p.n,.slice y.a.ba V.p.bytes.length y.a.bc,.slice y.a.ia V.p.items.length y.a.ic,.int .i64 V.u.kind,.int .u64 V.u.n,.slice y.b.ba V.u.bytes.length y.b.bc,.slice y.b.ia V.u.items.length y.b.ic,.slice y.ba V.body.length y.bc,.slice y.ta V.tag.length y.tc,.int .i64 V.p.kind,.int .u64 V.p.n,.slice y.a.ba V.p.bytes.length y.a.bc,.slice y.a.ia V.p.items.length y.a.ic,.int .i64 V.u.kind,.int .u64 V.u.n,.slice y.b.ba V.u.bytes.length y.b.bc,.slice y.b.ia V.u.items.length y.b.ic,.slice y.ba V.body.length y.bc,.slice TA tn tc,.int .i64 V.p.kind,.int .u64 V.p.n,.slice y.a.ba V.p.bytes.length y.a.bc,.slice y.a.ia V.p.items.length y.a.ic,.int .i64 V.u.kind,.int .u64 V.u.n,.slice y.b.ba V.u.bytes.length y.b.bc,.slice y.b.ia V.u.items.length y.b.ic,.slice BA bn bc,.slice y.ta V.tag.length y.tc,.int .i64 p'.kind,.int .u64 p'.n,.slice a'.ba p'.bytes.length a'.bc,.slice a'.ia p'.items.length a'.ic,.int .i64 u'.kind,.int .u64 u'.n,.slice b'.ba u'.bytes.length b'.bc,.slice b'.ia u'.items.length b'.ic,.slice PA pn pc,.slice EA en ec] 34)
 have j0:=hM.b18.cell 0 rfl;have j1:=hM.b18.cell 1 rfl;have j2:=hM.b18.cell 2 rfl;have j3:=hM.b18.cell 3 rfl;have j4:=hM.b18.cell 4 rfl;have j5:=hM.b18.cell 5 rfl;have j6:=hM.b18.cell 6 rfl;have j7:=hM.b18.cell 7 rfl;have j8:=hM.b18.cell 8 rfl;have j9:=hM.b18.cell 9 rfl;have k0:=hM.b20.cell 0 rfl;have k1:=hM.b20.cell 1 rfl;have k2:=hM.b20.cell 2 rfl;have k3:=hM.b20.cell 3 rfl;have k4:=hM.b20.cell 4 rfl;have k5:=hM.b20.cell 5 rfl;have k6:=hM.b20.cell 6 rfl;have k7:=hM.b20.cell 7 rfl;have k8:=hM.b20.cell 8 rfl;have k9:=hM.b20.cell 9 rfl;have l0:=hM.b21.cell 0 rfl;have l1:=hM.b21.cell 1 rfl;have l2:=hM.b21.cell 2 rfl;have l3:=hM.b21.cell 3 rfl;have l4:=hM.b21.cell 4 rfl;have l5:=hM.b21.cell 5 rfl;have l6:=hM.b21.cell 6 rfl;have l7:=hM.b21.cell 7 rfl;have l8:=hM.b21.cell 8 rfl;have l9:=hM.b21.cell 9 rfl;have m0:=hM.b15.cell 0 rfl;have m1:=hM.b15.cell 1 rfl
 have m2:=hM.b15.cell 2 rfl;have m3:=hM.b15.cell 3 rfl;have m4:=hM.b15.cell 4 rfl;have m5:=hM.b15.cell 5 rfl;have m6:=hM.b15.cell 6 rfl;have m7:=hM.b15.cell 7 rfl;clear hM;obtain⟨w14,hw14⟩:∃ w14,w13.alloc (.cells #[.int .i64 V.p.kind,.int .u64 V.p.n,.slice y.a.ba V.p.bytes.length y.a.bc,.slice y.a.ia V.p.items.length y.a.ic,.int .i64 V.u.kind,.int .u64 V.u.n,.slice y.b.ba V.u.bytes.length y.b.bc,.slice y.b.ia V.u.items.length y.b.ic,.slice y.ba V.body.length y.bc,.slice y.ta V.tag.length y.tc,.int .i64 V.p.kind,.int .u64 V.p.n,.slice y.a.ba V.p.bytes.length y.a.bc,.slice y.a.ia V.p.items.length y.a.ic,.int .i64 V.u.kind,.int .u64 V.u.n,.slice y.b.ba V.u.bytes.length y.b.bc,.slice y.b.ia V.u.items.length y.b.ic,.slice y.ba V.body.length y.bc,.slice TA tn tc,.int .i64 V.p.kind,.int .u64 V.p.n,.slice y.a.ba V.p.bytes.length y.a.bc,.slice y.a.ia V.p.items.length y.a.ic,.int .i64 V.u.kind,.int .u64 V.u.n,.slice y.b.ba V.u.bytes.length y.b.bc,.slice y.b.ia V.u.items.length y.b.ic,.slice BA bn bc,.slice y.ta V.tag.length y.tc,.int .i64 p'.kind,.int .u64 p'.n,.slice a'.ba p'.bytes.length a'.bc,.slice a'.ia p'.items.length a'.ic,.int .i64 u'.kind,.int .u64 u'.n,.slice b'.ba u'.bytes.length b'.bc,.slice b'.ia u'.items.length b'.ic,.slice PA pn pc,.slice EA en ec] 34)=w14:=⟨_,rfl⟩
 obtain⟨R,hRn⟩:∃ N,w13.heap.size=N:=⟨_,rfl⟩
 have HW14:=Hh (And.intro hw14 hRn);rw[hw14]at hR hG13;rw[hRn]at hR;clear hw14 hRn;go_upto_region 12 with fail
 try rw[HW14.out.1]
 try rw[HW14.out.2]
 clear HW14 j0 j1 j2 j3 j4 j5 j6 j7 j8 j9 k0 k1 k2 k3 k4 k5 k6 k7 k8 k9 l0 l1 l2 l3 l4 l5 l6 l7 l8 l9 m0 m1 m2 m3 m4 m5 m6 m7
 have four:∀ k,k<4→∃ v q,FourE w14 H12 R k v q:=fun k hk=>by
  have hle:=HL10.out.trans HL12.out;have h1:=HY7.out.mono hle;have e1:=HTN.out;have e2:=HBN.out;subst e1 e2;have e3:=HX.out.1;have e4:=HY.out.1;subst e3 e4
  rcases(by omega:k=0∨k=1∨k=2∨k=3) with rfl | rfl | rfl | rfl
  ·exact⟨V,y,hR.cell 0 rfl,hR.cell 1 rfl,hR.cell 2 rfl,hR.cell 3 rfl,hR.cell 4 rfl,hR.cell 5 rfl,hR.cell 6 rfl,hR.cell 7 rfl,hR.cell 8 rfl,hR.cell 9 rfl,h1⟩
  ·exact⟨⟨V.p,V.u,V.body,tg⟩,⟨y.a,y.b,y.ba,y.bc,TA,tc⟩,hR.cell 10 rfl,hR.cell 11 rfl,hR.cell 12 rfl,hR.cell 13 rfl,hR.cell 14 rfl,hR.cell 15 rfl,hR.cell 16 rfl,hR.cell 17 rfl,hR.cell 18 rfl,hR.cell 19 rfl,h1.p,h1.u,h1.body,HTG.out.mono HL12.out⟩
  ·exact⟨⟨V.p,V.u,bd,V.tag⟩,⟨y.a,y.b,BA,bc,y.ta,y.tc⟩,hR.cell 20 rfl,hR.cell 21 rfl,hR.cell 22 rfl,hR.cell 23 rfl,hR.cell 24 rfl,hR.cell 25 rfl,hR.cell 26 rfl,hR.cell 27 rfl,hR.cell 28 rfl,hR.cell 29 rfl,h1.p,h1.u,HBD.out,h1.tag⟩
  ·exact⟨⟨p',u',pay,ext⟩,⟨a',b',PA,pc,EA,ec⟩,hR.cell 30 rfl,hR.cell 31 rfl,hR.cell 32 rfl,hR.cell 33 rfl,hR.cell 34 rfl,hR.cell 35 rfl,hR.cell 36 rfl,hR.cell 37 rfl,hR.cell 38 rfl,hR.cell 39 rfl,HP.out.mono (HLE.out.2.trans hle),HU.out.mono (HLE.out.2.trans hle),HY.out.2.mono hG13.le,HX.out.2.mono hG13.le⟩
 have FV:=Hh four;have HG13:=Hh hG13;clear four hR hG13;go_loopw [82] (fun v82 wr=>∃ k:Nat,k≤4∧v82=.int .i64 (k:Int)∧Below w14.heap.size w14 wr) (fun v82 _=>4-(intOf v82).toNat)
 case atStart=>exact⟨0,by omega,rfl,Below.refl _ _⟩
 case round =>
  obtain⟨k,hk,rfl,hbr⟩:=hrel;have HG:=HG13.out.trans (Grows.of_below HG13.out.holds hbr)
  by_cases hlt:k<4
  ·obtain⟨v,q,f⟩:=FV.out k hlt;have F:=Hh f.is;have q0:=cell_below f.c0 hbr;have q1:=cell_below f.c1 hbr;have q2:=cell_below f.c2 hbr;have q3:=cell_below f.c3 hbr;have q4:=cell_below f.c4 hbr;have q5:=cell_below f.c5 hbr;have q6:=cell_below f.c6 hbr;have q7:=cell_below f.c7 hbr;have q8:=cell_below f.c8 hbr;have q9:=cell_below f.c9 hbr;have hltI:(k:Int)<4:=by omega
   have hki:(k:Int)+1≤9223372036854775807:=by omega
   have hS:=Blk.new wr 34 (evQ v q);have HG1:=HG.alloc (.cells (evQ v q) 34);have hbx:=hbr.alloc hbr.size (.cells (evQ v q) 34);obtain⟨wx,hwx⟩:∃ wx,wr.alloc (.cells (evQ v q) 34)=wx:=⟨_,rfl⟩
   obtain⟨N23,hN23⟩:∃ N,wr.heap.size=N:=⟨_,rfl⟩
   have HWX:=Hh (And.intro hwx hN23);rw[hwx]at hS HG1 hbx;rw[hN23]at hS;clear f hwx hN23;go_upto_region 14 with fail
   try rw[HWX.out.1]
   try rw[HWX.out.2]
   clear HG HWX q0 q1 q2 q3 q4 q5 q6 q7 q8 q9;have HTX:=Hh (hTab.mono HG1.le);have C1:Hid (∀ W,Holds W H12→Calls Tryz.prog 11 #[.agg (evQ v q),.slice EA en ec,.slice KA kn kc] W fun e w'=>e=.returned (.int .i64 (checkE v ext key))∧Below W.heap.size W w'):=fun W hW=>envelope_Check HTX.out F.out HX.out.1 (HX.out.2.mono HG1.le) (by have:=HPB.out;omega) HK.out.1 (HK.out.2.mono HG1.le) (by have:=HPB.out;omega) W hW
   have C2:Hid (∀ W,Holds W H12→Calls Tryz.prog 12 #[.agg (evQ v q),.slice EA en ec,.slice KA kn kc] W fun e w'=>e=.returned (.int .i64 (checkE v ext key))∧Below W.heap.size W w'):=fun W hW=>ref13_Check HTX.out F.out HX.out.1 (HX.out.2.mono HG1.le) (by have:=HPB.out;omega) HK.out.1 (HK.out.2.mono HG1.le) (by have:=HPB.out;omega) W hW
   have C3:Hid (∀ W,Holds W H12→Calls Tryz.prog 11 #[.agg (evQ v q),.slice PA pn pc,.slice KA kn kc] W fun e w'=>e=.returned (.int .i64 (checkE v pay key))∧Below W.heap.size W w'):=fun W hW=>envelope_Check HTX.out F.out HY.out.1 (HY.out.2.mono HG1.le) (by have:=HPB.out;omega) HK.out.1 (HK.out.2.mono HG1.le) (by have:=HPB.out;omega) W hW
   have C4:Hid (∀ W,Holds W H12→Calls Tryz.prog 12 #[.agg (evQ v q),.slice PA pn pc,.slice KA kn kc] W fun e w'=>e=.returned (.int .i64 (checkE v pay key))∧Below W.heap.size W w'):=fun W hW=>ref13_Check HTX.out F.out HY.out.1 (HY.out.2.mono HG1.le) (by have:=HPB.out;omega) HK.out.1 (HK.out.2.mono HG1.le) (by have:=HPB.out;omega) W hW
   obtain⟨e1,he1⟩:∃ e,checkE v ext key=e:=⟨_,rfl⟩
   obtain⟨e2,he2⟩:∃ e,checkE v pay key=e:=⟨_,rfl⟩
   rw[he1]at C1 C2;rw[he2]at C3 C4;clear he1 he2;replace hS:=hS.drew;replace HG1:=HG1.drew;replace hbx:=hbx.drew
   refine wp_region_ways 20 (fun w'=>w'.cell? ⟨N23,0,none⟩=some (.int .i64 v.p.kind)∧w'.cell? ⟨N23,1,none⟩=some (.int .u64 v.p.n)∧w'.cell? ⟨N23,2,none⟩=some (.slice q.a.ba v.p.bytes.length q.a.bc)∧w'.cell? ⟨N23,3,none⟩=some (.slice q.a.ia v.p.items.length q.a.ic)∧w'.cell? ⟨N23,4,none⟩=some (.int .i64 v.u.kind)∧w'.cell? ⟨N23,5,none⟩=some (.int .u64 v.u.n)∧w'.cell? ⟨N23,6,none⟩=some (.slice q.b.ba v.u.bytes.length q.b.bc)∧w'.cell? ⟨N23,7,none⟩=some (.slice q.b.ia v.u.items.length q.b.ic)∧w'.cell? ⟨N23,8,none⟩=some (.slice q.ba v.body.length q.bc)∧w'.cell? ⟨N23,9,none⟩=some (.slice q.ta v.tag.length q.tc)) (by kernel_rfl) (⟨hS.cell 0 rfl,hS.cell 1 rfl,hS.cell 2 rfl,hS.cell 3 rfl,hS.cell 4 rfl,hS.cell 5 rfl,hS.cell 6 rfl,hS.cell 7 rfl,hS.cell 8 rfl,hS.cell 9 rfl⟩) (fun hHeld=>?_)
   refine TkS 0 rfl hHeld ?_
   refine TkS 1 rfl hHeld ?_
   refine TkS 2 rfl hHeld ?_
   refine TkS 4 rfl hHeld ?_
   refine TkS 5 rfl hHeld ?_
   refine TkS 6 rfl hHeld ?_
   refine To 3 rfl fun K hK=>?_
   go_simp
   refine(C1.out _ HG1.holds).mono ?_
   rintro e w3 ⟨rfl,hb3⟩
   replace hS:=hS.below hb3;replace hbx:=hbx.trans (hb3.mono hbx.size);replace HG1:=HG1.below_ hb3;clear hb3
   refine Ko hK ?_ fun hHeld=>?_
   ·exact⟨hS.cell 0 rfl,hS.cell 1 rfl,hS.cell 2 rfl,hS.cell 3 rfl,hS.cell 4 rfl,hS.cell 5 rfl,hS.cell 6 rfl,hS.cell 7 rfl,hS.cell 8 rfl,hS.cell 9 rfl⟩
   clear hK K
   refine To 7 rfl fun K hK=>?_
   go_simp
   refine(C2.out _ HG1.holds).mono ?_
   rintro e w7 ⟨rfl,hb7⟩
   replace hS:=hS.below hb7;replace hbx:=hbx.trans (hb7.mono hbx.size);replace HG1:=HG1.below_ hb7;clear hb7
   refine Ko hK ?_ fun hHeld=>?_
   ·exact⟨hS.cell 0 rfl,hS.cell 1 rfl,hS.cell 2 rfl,hS.cell 3 rfl,hS.cell 4 rfl,hS.cell 5 rfl,hS.cell 6 rfl,hS.cell 7 rfl,hS.cell 8 rfl,hS.cell 9 rfl⟩
   clear hK K
   refine TkS 8 rfl hHeld ?_
   refine TkS 9 rfl hHeld ?_
   refine TkSG 10 rfl hHeld ?_
   refine TkSG 11 rfl hHeld ?_
   refine TkSG 12 rfl hHeld ?_
   refine TkSG 14 rfl hHeld ?_
   refine TkSG 15 rfl hHeld ?_
   refine TkSG 16 rfl hHeld ?_
   refine To 13 rfl fun K hK=>?_
   go_simp
   refine(C3.out _ HG1.holds).mono ?_
   rintro e w13 ⟨rfl,hb13⟩
   replace hS:=hS.below hb13;replace hbx:=hbx.trans (hb13.mono hbx.size);replace HG1:=HG1.below_ hb13;clear hb13
   refine Ko hK ?_ fun hHeld=>?_
   ·exact⟨hS.cell 0 rfl,hS.cell 1 rfl,hS.cell 2 rfl,hS.cell 3 rfl,hS.cell 4 rfl,hS.cell 5 rfl,hS.cell 6 rfl,hS.cell 7 rfl,hS.cell 8 rfl,hS.cell 9 rfl⟩
   clear hK K
   refine To 17 rfl fun K hK=>?_
   go_simp
   refine(C4.out _ HG1.holds).mono ?_
   rintro e w17 ⟨rfl,hb17⟩
   replace hS:=hS.below hb17;replace hbx:=hbx.trans (hb17.mono hbx.size);replace HG1:=HG1.below_ hb17;clear hb17
   refine Ko hK ?_ fun hHeld=>?_
   ·exact⟨hS.cell 0 rfl,hS.cell 1 rfl,hS.cell 2 rfl,hS.cell 3 rfl,hS.cell 4 rfl,hS.cell 5 rfl,hS.cell 6 rfl,hS.cell 7 rfl,hS.cell 8 rfl,hS.cell 9 rfl⟩
   clear hK K
   refine TkSG 18 rfl hHeld ?_
   refine TkS 19 rfl hHeld ?_
   refine Wd ?_
   clear hHeld hS HG1 C1 C2 C3 C4;go_wp2_with fail
   go_roundw
   case rel=>exact⟨k+1,by omega,by go_num,hbx⟩
   case measure=>simp[intOf];omega
  ·have hltI:¬ (k:Int)<4:=by omega
   have AW:=Hh (law13_awake (hTab.mono HG.le) _ HG.holds);have hbb:=HG.below;clear HG;go_wp2_with fail
   refine AW.out.mono ?_
   rintro e wz ⟨rfl,hbz⟩
   have hbq:=hbb.trans (hbz.mono hbb.size);go_wp2_with fail
   go_ret
   exact⟨rfl,hbq⟩
end Go.Proofs.YtgcjjhibdbafmaaGreatDoor
