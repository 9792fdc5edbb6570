/- squeezed. The walk of CredCodes. -/
import Derived.Test.YtgcjjhibdbafmabGreatDoorK23
set_option linter.unusedVariables false
set_option linter.unusedSimpArgs false
set_option maxRecDepth 100000
set_option maxHeartbeats 51200000
namespace Go.Proofs.YtgcjjhibdbafmabGreatDoor
open Go.RowKit
theorem Dealt.toGr {w w1 w2:World}{H H1 H2:Snap}{g:Nat}(h:Grows w H w1 H1) (hd:Dealt w1 H1 w2 H2 g) (hg:w.heap.size≤g):Grows w H w2 H2 :=
 ⟨h.below.grown hd.grows.grown h.size (by rintro q ⟨⟩;exact hg),h.le.trans hd.le,hd.holds,fun b o hb=>by
  rcases hd.grows.fresh b o hb with h1 | h1
  ·exact h.fresh b o h1
  exact .inr (Nat.le_trans h.size h1)⟩
structure ThreeC (wr:World) (H:Snap) (R k:Nat) (c:Cl) (a:KAd):Prop where
 c0:wr.cell? ⟨R,k*11,none⟩=some (.string c.issuer)
 c1:wr.cell? ⟨R,k*11+1,none⟩=some (.string c.subject)
 c2:wr.cell? ⟨R,k*11+2,none⟩=some (.int .i64 c.since)
 c3:wr.cell? ⟨R,k*11+3,none⟩=some (.int .i64 c.till)
 c4:wr.cell? ⟨R,k*11+4,none⟩=some (.int .i64 c.key.kty)
 c5:wr.cell? ⟨R,k*11+5,none⟩=some (.int .i64 c.key.crv)
 c6:wr.cell? ⟨R,k*11+6,none⟩=some (.int .i64 c.key.alg)
 c7:wr.cell? ⟨R,k*11+7,none⟩=some (.slice a.ia c.key.kid.length a.ic)
 c8:wr.cell? ⟨R,k*11+8,none⟩=some (.slice a.xa c.key.x.length a.xc)
 c9:wr.cell? ⟨R,k*11+9,none⟩=some (.slice a.da c.key.d.length a.dc)
 c10:wr.cell? ⟨R,k*11+10,none⟩=some (.slice a.ka c.key.k.length a.kc)
 is:ClA H c a
def dcC (l:List UInt8):Cl:=match tx l with
 | .ok c=>c
 | .error _=>nL
def dcE (l:List UInt8):Int:=match tx l with
 | .ok _=>0
 | .error q=>(q:Int)
theorem DecCOut.is {w w':World}{H:Snap}{l:List UInt8}{e:Ending}(hH:Holds w H) (h:DecCOut w H l e w'):∃ a H',e=.returned (.tuple #[.agg (clQ (dcC l) a),.int .i64 (dcE l)])∧Grows w H w' H'∧ClA H' (dcC l) a:=by
 rcases h with ⟨q,h1,rfl,hb⟩ | ⟨c,a,H',h1,rfl,hG,hc⟩
 ·refine⟨⟨none,0,none,0,none,0,none,0⟩,H, ?_,Grows.of_below hH hb, ?_⟩
  ·rw[dcC,dcE,h1];rfl
  rw[dcC,h1];exact bE H
 refine⟨a,H', ?_,hG, ?_⟩
 ·rw[dcC,dcE,h1]
 rw[dcC,h1];exact hc
def Rg (c:Cl):Int:=if zB c=true then 0 else 1
def eP (c:Cl):List UInt8:=if zB c=true then zZ (xI c) else []
theorem EncCOut.is {w w':World}{c:Cl}{e:Ending}(h:EncCOut w c e w'):∃ r,e=.returned (.tuple #[r,.int .i64 (Rg c)])∧Fresh w (eP c) r w':=by
 obtain⟨r,l,cd,rfl,hf,hl,hc⟩:=h;subst hc hl
 exact⟨r,rfl,hf⟩
theorem Xx (c:Cl):(eP c).length≤4096:=by
 unfold eP
 split
 ·rename_i h
  exact(uz (xA h)).2.2
 simp
theorem ce {H:Snap}(hTab:Tabs H) {raw:Cl}{ra:KAd}(hraw:ClA H raw ra) {B:Option Addr}{bl bc:Nat}{b:List UInt8}(nT:bl=b.length) (hb:IsBytes H B bc b) {A:Option Addr}{c:Nat}{l:List Int}(hl:IsInts H A c l)
  (which by_ at_ now:Int) (gp : -9223372036854775808≤by_∧by_≤9223372036854775807) (hnow : -9223372036854775808≤now∧now≤9223372036854775807) (w:World) (hH:Holds w H) :
  Calls Tryz.prog 3 #[.agg (clQ raw ra),.slice B bl bc,.slice A l.length c,.int .i64 which,.int .i64 by_,.int .i64 at_,.int .i64 now] w fun e w'=>e=.returned (.bool true)∧Below w.heap.size w w':=by
 have hR:=Blk.new w 26 (clQ raw ra);have xE:=(Grows.refl hH).alloc (.cells (clQ raw ra) 26);have NW:=Hh (fun w=>RK hl w);have HT:=Hh hTab;have LG:=Hh hraw;have HB:=Hh (And.intro nT hb);have TJ:=Hh (And.intro gp hnow);obtain⟨w2,mN⟩:∃ w2,w.alloc (.cells (clQ raw ra) 26)=w2:=⟨_,rfl⟩
 have Mb:Hid (w2.heap.size=w.heap.size+1):=by rw[Hid,← mN,zX]
 have Nc:=Hh mN;rw[mN]at hR xE;obtain⟨nl,wi⟩:∃ nl,l.length=nl:=⟨_,rfl⟩
 rw[wi]at NW⊢;have HH:=Hh hH;clear hTab hraw gp hnow hl hH wi nT hb mN;go_enter Tryz.func3,Tryz.ntmps3
 go_upto_region 1 with fail
 rw[Nc.out];clear Nc;go_wp2_with fail
 refine(Ve B bl bc _).mono ?_
 rintro e w3 ⟨rfl,rfl⟩
 cases hs:decide (bl≤600) with
 | false =>
  clear hR;have XL:=xE;have AW:=Hh (lM (HT.out.mono XL.le) _ XL.holds);have l8:=XL.below;clear XL;go_wp2_with fail
  refine AW.out.mono ?_
  rintro e wz ⟨rfl,yX⟩
  have oc:=l8.trans (yX.mono l8.size);go_wp2_with fail
  go_ret
  exact⟨rfl,oc⟩
 | true =>
 have Ux:=of_decide_eq_true hs;have HS:Hid (bl≤600):=Ux;clear Ux;clear hs;go_wp2_with fail
 refine(NW.out _).mono ?_
 rintro e w4 ⟨rfl,O0,rF⟩
 have wh:=xE.below_ rF;have O5:H w2.heap.size=none:=HH.out.none_of_ge (by have:=Mb.out;omega);have Me:DeckIn w4 w2.heap.size H:=⟨O0,wh.holds,O5⟩
 have KJ:=hR.below rF;obtain⟨g,hg⟩:∃ g,w2.heap.size=g:=⟨_,rfl⟩
 have NZ:Hid (w.heap.size≤g∧w.heap.size≠g):=by have:=Mb.out;rw[Hid];omega
 rw[hg]at Me⊢;clear O0 rF hR xE NW O5 hg Mb;go_wp2_with fail
 refine(fD _ Me).mono ?_
 rintro e w5 ⟨c1,a1,H5,rfl,yi,Kd,L4⟩
 have xM:=Dealt.toGr wh yi NZ.out.1;have rx:=(KJ.dealt yi NZ.out.2).alloc (.cells (clQ c1 a1) 26);have tN:=Blk.new w5 26 (clQ c1 a1);have zP:=xM.alloc (.cells (clQ c1 a1) 26);have ku:=Hh Kd;have Uh:=Hh L4;obtain⟨w6,Xc⟩:∃ w6,w5.alloc (.cells (clQ c1 a1) 26)=w6:=⟨_,rfl⟩
 obtain⟨N15,Rp⟩:∃ N,w5.heap.size=N:=⟨_,rfl⟩
 rw[Xc]at rx tN zP;rw[Rp]at tN;have MR:=Hh (And.intro Xc Rp);clear Me KJ wh yi xM Kd L4 Xc Rp;go_upto_region 4 with fail
 try rw[MR.out.1]
 try rw[MR.out.2]
 clear MR;have k0:=tN.cell 0 rfl;have k1:=tN.cell 1 rfl;have k2:=tN.cell 2 rfl;have k3:=tN.cell 3 rfl;have k4:=tN.cell 4 rfl;have k5:=tN.cell 5 rfl;have k6:=tN.cell 6 rfl;have k7:=tN.cell 7 rfl;have k8:=tN.cell 8 rfl;have k9:=tN.cell 9 rfl;have k10:=tN.cell 10 rfl;go_wp2_with fail
 refine(mc (HT.out.mono zP.le) ku.out _ zP.holds).mono ?_
 intro e w7 he
 obtain⟨r7,rfl,iO⟩:=he.is;obtain⟨A7,c7,rfl,nH⟩:=iO.own.form;clear he nH k0 k1 k2 k3 k4 k5 k6 k7 k8 k9 k10;obtain⟨H7,wu,vJ,nY⟩:=Fresh.snapB zP.holds iO;replace zP:=zP.trans wu;replace rx:=rx.below wu.below;replace tN:=tN.below wu.below;obtain⟨s,hs⟩:∃ s,eP c1=s:=⟨_,rfl⟩
 have Xm:=Xx c1;rw[hs]at vJ Xm⊢;obtain⟨sn,cC⟩:∃ n,s.length=n:=⟨_,rfl⟩
 rw[cC];have MN:=Hh (And.intro cC Xm);have en:=Hh vJ;have M9:=Hh wu.le;obtain⟨E1',TN⟩:∃ E,Rg c1=E:=⟨_,rfl⟩
 rw[TN];clear iO wu nY hs Xm vJ cC TN;go_upto_region 5 with fail
 replace rx:=rx.drew;replace tN:=tN.drew;replace zP:=zP.drew;go_cut [48,49,50] (fun s48 s49 s50 wx=>∃ (R:Nat) (c2:Cl) (a2:KAd) (H8:Snap),s48=.slice (some ⟨R,0,none⟩) 3 3∧s49=.int .i64 3∧s50=.int .i64 0∧Grows w H wx H8∧H7.le H8∧ClA H8 c2 a2∧Blk wx N15 26 (clQ c1 a1)∧Blk wx R 26 #[.string raw.issuer,.string raw.subject,.int .i64 raw.since,.int .i64 raw.till,.int .i64 raw.key.kty,.int .i64 raw.key.crv,.int .i64 raw.key.alg,.slice ra.ia raw.key.kid.length ra.ic,.slice ra.xa raw.key.x.length ra.xc,.slice ra.da raw.key.d.length ra.dc,.slice ra.ka raw.key.k.length ra.kc,.string c1.issuer,.string c1.subject,.int .i64 c1.since,.int .i64 c1.till,.int .i64 c1.key.kty,.int .i64 c1.key.crv,.int .i64 c1.key.alg,.slice a1.ia c1.key.kid.length a1.ic,.slice a1.xa c1.key.x.length a1.xc,.slice a1.da c1.key.d.length a1.dc,.slice a1.ka c1.key.k.length a1.kc,.string c2.issuer,.string c2.subject,.int .i64 c2.since,.int .i64 c2.till,.int .i64 c2.key.kty,.int .i64 c2.key.crv,.int .i64 c2.key.alg,.slice a2.ia c2.key.kid.length a2.ic,.slice a2.xa c2.key.x.length a2.xc,.slice a2.da c2.key.d.length a2.dc,.slice a2.ka c2.key.k.length a2.kc])
 case first =>
  refine zr 9 (fun wx=>(wx.cell? ⟨w.heap.size,0,none⟩=some (.string raw.issuer)∧wx.cell? ⟨w.heap.size,1,none⟩=some (.string raw.subject)∧wx.cell? ⟨w.heap.size,2,none⟩=some (.int .i64 raw.since)∧wx.cell? ⟨w.heap.size,3,none⟩=some (.int .i64 raw.till)∧wx.cell? ⟨w.heap.size,4,none⟩=some (.int .i64 raw.key.kty)∧wx.cell? ⟨w.heap.size,5,none⟩=some (.int .i64 raw.key.crv)∧wx.cell? ⟨w.heap.size,6,none⟩=some (.int .i64 raw.key.alg)∧wx.cell? ⟨w.heap.size,7,none⟩=some (.slice ra.ia raw.key.kid.length ra.ic)∧wx.cell? ⟨w.heap.size,8,none⟩=some (.slice ra.xa raw.key.x.length ra.xc)∧wx.cell? ⟨w.heap.size,9,none⟩=some (.slice ra.da raw.key.d.length ra.dc)∧wx.cell? ⟨w.heap.size,10,none⟩=some (.slice ra.ka raw.key.k.length ra.kc))∧wx.cell? ⟨N15,0,none⟩=some (.string c1.issuer)∧wx.cell? ⟨N15,1,none⟩=some (.string c1.subject)∧wx.cell? ⟨N15,2,none⟩=some (.int .i64 c1.since)∧wx.cell? ⟨N15,3,none⟩=some (.int .i64 c1.till)∧wx.cell? ⟨N15,4,none⟩=some (.int .i64 c1.key.kty)∧wx.cell? ⟨N15,5,none⟩=some (.int .i64 c1.key.crv)∧wx.cell? ⟨N15,6,none⟩=some (.int .i64 c1.key.alg)∧wx.cell? ⟨N15,7,none⟩=some (.slice a1.ia c1.key.kid.length a1.ic)∧wx.cell? ⟨N15,8,none⟩=some (.slice a1.xa c1.key.x.length a1.xc)∧wx.cell? ⟨N15,9,none⟩=some (.slice a1.da c1.key.d.length a1.dc)∧wx.cell? ⟨N15,10,none⟩=some (.slice a1.ka c1.key.k.length a1.kc)) (by kernel_rfl) (⟨⟨rx.cell 0 rfl,rx.cell 1 rfl,rx.cell 2 rfl,rx.cell 3 rfl,rx.cell 4 rfl,rx.cell 5 rfl,rx.cell 6 rfl,rx.cell 7 rfl,rx.cell 8 rfl,rx.cell 9 rfl,rx.cell 10 rfl⟩,tN.cell 0 rfl,tN.cell 1 rfl,tN.cell 2 rfl,tN.cell 3 rfl,tN.cell 4 rfl,tN.cell 5 rfl,tN.cell 6 rfl,tN.cell 7 rfl,tN.cell 8 rfl,tN.cell 9 rfl,tN.cell 10 rfl⟩) (fun zy=>?_)
  refine TkS 0 rfl zy ?_
  refine TkS 1 rfl zy ?_
  refine TkS 2 rfl zy ?_
  refine TkS 3 rfl zy ?_
  refine TkS 4 rfl zy ?_
  refine TkS 8 rfl zy ?_
  refine To 5 rfl fun K hK=>?_
  go_simp
  refine(fE (ku.out.mono M9.out) (by have:=((wW c1).1 Uh.out).2.2.2.2.2.2.2.2.1;have:=o4 this;omega) (by have:=((wW c1).1 Uh.out).2.2.2.1;omega) which by_ TJ.out.1 _ zP.holds).mono ?_
  rintro e w8 ⟨c2,a2,H8,rfl,iM,Nz⟩
  replace rx:=rx.below iM.below;replace tN:=tN.below iM.below;replace zP:=zP.trans iM
  refine Ko hK ?_ fun zy=>?_
  ·exact⟨⟨rx.cell 0 rfl,rx.cell 1 rfl,rx.cell 2 rfl,rx.cell 3 rfl,rx.cell 4 rfl,rx.cell 5 rfl,rx.cell 6 rfl,rx.cell 7 rfl,rx.cell 8 rfl,rx.cell 9 rfl,rx.cell 10 rfl⟩,tN.cell 0 rfl,tN.cell 1 rfl,tN.cell 2 rfl,tN.cell 3 rfl,tN.cell 4 rfl,tN.cell 5 rfl,tN.cell 6 rfl,tN.cell 7 rfl,tN.cell 8 rfl,tN.cell 9 rfl,tN.cell 10 rfl⟩
  clear hK K
  refine To 6 rfl fun K hK=>?_
  go_simp
  have vk:=zP.newBlk 26 #[.string raw.issuer,.string raw.subject,.int .i64 raw.since,.int .i64 raw.till,.int .i64 raw.key.kty,.int .i64 raw.key.crv,.int .i64 raw.key.alg,.slice ra.ia raw.key.kid.length ra.ic,.slice ra.xa raw.key.x.length ra.xc,.slice ra.da raw.key.d.length ra.dc,.slice ra.ka raw.key.k.length ra.kc,.string c1.issuer,.string c1.subject,.int .i64 c1.since,.int .i64 c1.till,.int .i64 c1.key.kty,.int .i64 c1.key.crv,.int .i64 c1.key.alg,.slice a1.ia c1.key.kid.length a1.ic,.slice a1.xa c1.key.x.length a1.xc,.slice a1.da c1.key.d.length a1.dc,.slice a1.ka c1.key.k.length a1.kc,.string c2.issuer,.string c2.subject,.int .i64 c2.since,.int .i64 c2.till,.int .i64 c2.key.kty,.int .i64 c2.key.crv,.int .i64 c2.key.alg,.slice a2.ia c2.key.kid.length a2.ic,.slice a2.xa c2.key.x.length a2.xc,.slice a2.da c2.key.d.length a2.dc,.slice a2.ka c2.key.k.length a2.kc]
  try simp only[ym,zX]at vk
  replace rx:=rx.alloc (.cells #[.string raw.issuer,.string raw.subject,.int .i64 raw.since,.int .i64 raw.till,.int .i64 raw.key.kty,.int .i64 raw.key.crv,.int .i64 raw.key.alg,.slice ra.ia raw.key.kid.length ra.ic,.slice ra.xa raw.key.x.length ra.xc,.slice ra.da raw.key.d.length ra.dc,.slice ra.ka raw.key.k.length ra.kc,.string c1.issuer,.string c1.subject,.int .i64 c1.since,.int .i64 c1.till,.int .i64 c1.key.kty,.int .i64 c1.key.crv,.int .i64 c1.key.alg,.slice a1.ia c1.key.kid.length a1.ic,.slice a1.xa c1.key.x.length a1.xc,.slice a1.da c1.key.d.length a1.dc,.slice a1.ka c1.key.k.length a1.kc,.string c2.issuer,.string c2.subject,.int .i64 c2.since,.int .i64 c2.till,.int .i64 c2.key.kty,.int .i64 c2.key.crv,.int .i64 c2.key.alg,.slice a2.ia c2.key.kid.length a2.ic,.slice a2.xa c2.key.x.length a2.xc,.slice a2.da c2.key.d.length a2.dc,.slice a2.ka c2.key.k.length a2.kc] 26)
  replace tN:=tN.alloc (.cells #[.string raw.issuer,.string raw.subject,.int .i64 raw.since,.int .i64 raw.till,.int .i64 raw.key.kty,.int .i64 raw.key.crv,.int .i64 raw.key.alg,.slice ra.ia raw.key.kid.length ra.ic,.slice ra.xa raw.key.x.length ra.xc,.slice ra.da raw.key.d.length ra.dc,.slice ra.ka raw.key.k.length ra.kc,.string c1.issuer,.string c1.subject,.int .i64 c1.since,.int .i64 c1.till,.int .i64 c1.key.kty,.int .i64 c1.key.crv,.int .i64 c1.key.alg,.slice a1.ia c1.key.kid.length a1.ic,.slice a1.xa c1.key.x.length a1.xc,.slice a1.da c1.key.d.length a1.dc,.slice a1.ka c1.key.k.length a1.kc,.string c2.issuer,.string c2.subject,.int .i64 c2.since,.int .i64 c2.till,.int .i64 c2.key.kty,.int .i64 c2.key.crv,.int .i64 c2.key.alg,.slice a2.ia c2.key.kid.length a2.ic,.slice a2.xa c2.key.x.length a2.xc,.slice a2.da c2.key.d.length a2.dc,.slice a2.ka c2.key.k.length a2.kc] 26)
  replace zP:=zP.alloc (.cells #[.string raw.issuer,.string raw.subject,.int .i64 raw.since,.int .i64 raw.till,.int .i64 raw.key.kty,.int .i64 raw.key.crv,.int .i64 raw.key.alg,.slice ra.ia raw.key.kid.length ra.ic,.slice ra.xa raw.key.x.length ra.xc,.slice ra.da raw.key.d.length ra.dc,.slice ra.ka raw.key.k.length ra.kc,.string c1.issuer,.string c1.subject,.int .i64 c1.since,.int .i64 c1.till,.int .i64 c1.key.kty,.int .i64 c1.key.crv,.int .i64 c1.key.alg,.slice a1.ia c1.key.kid.length a1.ic,.slice a1.xa c1.key.x.length a1.xc,.slice a1.da c1.key.d.length a1.dc,.slice a1.ka c1.key.k.length a1.kc,.string c2.issuer,.string c2.subject,.int .i64 c2.since,.int .i64 c2.till,.int .i64 c2.key.kty,.int .i64 c2.key.crv,.int .i64 c2.key.alg,.slice a2.ia c2.key.kid.length a2.ic,.slice a2.xa c2.key.x.length a2.xc,.slice a2.da c2.key.d.length a2.dc,.slice a2.ka c2.key.k.length a2.kc] 26)
  refine Ko hK ?_ fun zy=>?_
  ·exact⟨⟨rx.cell 0 rfl,rx.cell 1 rfl,rx.cell 2 rfl,rx.cell 3 rfl,rx.cell 4 rfl,rx.cell 5 rfl,rx.cell 6 rfl,rx.cell 7 rfl,rx.cell 8 rfl,rx.cell 9 rfl,rx.cell 10 rfl⟩,tN.cell 0 rfl,tN.cell 1 rfl,tN.cell 2 rfl,tN.cell 3 rfl,tN.cell 4 rfl,tN.cell 5 rfl,tN.cell 6 rfl,tN.cell 7 rfl,tN.cell 8 rfl,tN.cell 9 rfl,tN.cell 10 rfl⟩
  clear hK K
  refine TkS 7 rfl zy ?_
  refine Wd ?_
  go_wp2_with fail
  go_meet
  exact⟨_,c2,a2,H8,rfl,rfl,rfl,zP,iM.le,Nz,tN,vk⟩
 case rest =>
 clear rx tN zP;obtain⟨R,c2,a2,H8,rfl,rfl,rfl,iM,SK,Nz,Js,vk⟩:=hcut;have MA:=Hh (And.intro SK (M9.out.trans SK));have Nb:=Hh (HT.out.mono iM.le)
 have three:∀ k,k<3→∃ v q,ThreeC _ H8 R k v q:=fun k hk=>by
  rcases(by omega:k=0∨k=1∨k=2) with rfl | rfl | rfl
  ·exact⟨raw,ra,vk.cell 0 rfl,vk.cell 1 rfl,vk.cell 2 rfl,vk.cell 3 rfl,vk.cell 4 rfl,vk.cell 5 rfl,vk.cell 6 rfl,vk.cell 7 rfl,vk.cell 8 rfl,vk.cell 9 rfl,vk.cell 10 rfl,LG.out.mono iM.le⟩
  ·exact⟨c1,a1,vk.cell 11 rfl,vk.cell 12 rfl,vk.cell 13 rfl,vk.cell 14 rfl,vk.cell 15 rfl,vk.cell 16 rfl,vk.cell 17 rfl,vk.cell 18 rfl,vk.cell 19 rfl,vk.cell 20 rfl,vk.cell 21 rfl,ku.out.mono MA.out.2⟩
  exact⟨c2,a2,vk.cell 22 rfl,vk.cell 23 rfl,vk.cell 24 rfl,vk.cell 25 rfl,vk.cell 26 rfl,vk.cell 27 rfl,vk.cell 28 rfl,vk.cell 29 rfl,vk.cell 30 rfl,vk.cell 31 rfl,vk.cell 32 rfl,Nz⟩
 have TV:=Hh three;have JR:=Hh iM;have QZ:=Hh Js;clear three vk SK Nz iM Js;go_upto_region 6 with fail
 go_loopw [50] (fun v50 wr=>∃ k:Nat,k≤3∧v50=.int .i64 (k:Int)∧Below wc.heap.size wc wr) (fun v50 _=>3-(intOf v50).toNat)
 case atStart=>exact⟨0,by omega,rfl,Below.refl _ _⟩
 case round =>
 obtain⟨k,hk,rfl,xP⟩:=hrel;have HG:=JR.out.trans (Grows.of_below JR.out.holds xP)
 by_cases ye:k<3
 case pos =>
  obtain⟨v,q,f⟩:=TV.out k ye;have F:=Hh f.is;have q0:=zM f.c0 xP;have q1:=zM f.c1 xP;have q2:=zM f.c2 xP;have q3:=zM f.c3 xP;have q4:=zM f.c4 xP;have q5:=zM f.c5 xP;have q6:=zM f.c6 xP;have q7:=zM f.c7 xP;have q8:=zM f.c8 xP;have q9:=zM f.c9 xP;have q10:=zM f.c10 xP;have mG:(k:Int)<3:=by omega
  have ej:(k:Int)+1≤9223372036854775807:=by omega
  have hS:=Blk.new wr 26 (clQ v q);have pr:=HG.alloc (.cells (clQ v q) 26);have wG:=xP.alloc xP.size (.cells (clQ v q) 26);obtain⟨wx,NR⟩:∃ wx,wr.alloc (.cells (clQ v q) 26)=wx:=⟨_,rfl⟩
  obtain⟨N19,Rq⟩:∃ N,wr.heap.size=N:=⟨_,rfl⟩
  have MS:=Hh (And.intro NR Rq);rw[NR]at hS pr wG;rw[Rq]at hS;clear f NR Rq;go_upto_region 8 with fail
  try rw[MS.out.1]
  try rw[MS.out.2]
  clear HG MS q0 q1 q2 q3 q4 q5 q6 q7 q8 q9 q10;have k0:=hS.cell 0 rfl;have k1:=hS.cell 1 rfl;have k2:=hS.cell 2 rfl;have k3:=hS.cell 3 rfl;have k4:=hS.cell 4 rfl;have k5:=hS.cell 5 rfl;have k6:=hS.cell 6 rfl;have k7:=hS.cell 7 rfl;have k8:=hS.cell 8 rfl;have k9:=hS.cell 9 rfl;have k10:=hS.cell 10 rfl;go_wp2_with fail
  refine(lI Nb.out F.out _ pr.holds).mono ?_
  intro e w10 he
  obtain⟨r10,rfl,pz⟩:=he.is;obtain⟨A10,c10,rfl,nH⟩:=pz.own.form;have tJ:=pz.own.src;replace hS:=hS.below pz.2;replace pr:=pr.below_ pz.2;replace wG:=wG.trans (pz.2.mono wG.size);clear he nH pz k0 k1 k2 k3 k4 k5 k6 k7 k8 k9 k10;obtain⟨s',Uw⟩:∃ s,eP v=s:=⟨_,rfl⟩
  obtain⟨E',Mg⟩:∃ E,Rg v=E:=⟨_,rfl⟩
  obtain⟨sn',SN⟩:∃ n,s'.length=n:=⟨_,rfl⟩
  have HQ:=Hh (And.intro Uw (And.intro Mg SN));rw[Uw]at tJ⊢;rw[Mg,SN];clear Uw Mg SN;have k0:=hS.cell 0 rfl;have k1:=hS.cell 1 rfl;have k2:=hS.cell 2 rfl;have k3:=hS.cell 3 rfl;have k4:=hS.cell 4 rfl;have k5:=hS.cell 5 rfl;have k6:=hS.cell 6 rfl;have k7:=hS.cell 7 rfl;have k8:=hS.cell 8 rfl;have k9:=hS.cell 9 rfl;have k10:=hS.cell 10 rfl;go_wp2_with fail
  refine(mc Nb.out F.out _ pr.holds).mono ?_
  intro e w11 he
  obtain⟨r11,rfl,eV⟩:=he.is;rw[HQ.out.1]at eV;rw[HQ.out.2.1];obtain⟨A11,c11,rfl,nH⟩:=eV.own.form;rw[HQ.out.2.2];have sQ:=eV.own.src;replace tJ:=tJ.below eV.2;replace hS:=hS.below eV.2;replace pr:=pr.below_ eV.2;replace wG:=wG.trans (eV.2.mono wG.size);clear he nH eV k0 k1 k2 k3 k4 k5 k6 k7 k8 k9 k10;obtain⟨vb,NQ⟩:∃ q,zB v=q:=⟨_,rfl⟩
  obtain⟨md,Sx⟩:∃ m,kr now 80=m:=⟨_,rfl⟩
  have mb:=pa now 80 (by omega);rw[Sx]at mb;obtain⟨Jq,Ss⟩:∃ q,wI v now=q:=⟨_,rfl⟩
  obtain⟨Jr,Us⟩:∃ q,wI v (md-1)=q:=⟨_,rfl⟩
  have GO:IntKind.i64.wrap (md-1)=md-1:=IntWalk.i64_in _ (by omega);have V1:Hid (∀ W,Holds W H8→Calls Tryz.prog 11 #[.agg (clQ v q)] W fun e w'=>e=.returned (.bool vb)∧Below W.heap.size W w'):=fun W hW=>by rw[← NQ];exact qO Nb.out F.out W hW
  have V2:Hid (∀ W,Holds W H8→Calls Tryz.prog 12 #[.agg (clQ v q)] W fun e w'=>e=.returned (.bool vb)∧Below W.heap.size W w'):=fun W hW=>by rw[← NQ];exact pX Nb.out F.out W hW
  have O1:Hid (∀ W,Holds W H8→Calls Tryz.prog 13 #[.agg (clQ v q),.int .i64 now] W fun e w'=>e=.returned (.bool Jq)∧Below W.heap.size W w'):=fun W hW=>by rw[← Ss];exact nh F.out now TJ.out.2.1 TJ.out.2.2 W hW
  have O2:Hid (∀ W,Holds W H8→Calls Tryz.prog 14 #[.agg (clQ v q),.int .i64 now] W fun e w'=>e=.returned (.bool Jq)∧Below W.heap.size W w'):=fun W hW=>by rw[← Ss];exact lT F.out now TJ.out.2.1 TJ.out.2.2 W hW
  have O3:Hid (∀ W,Holds W H8→Calls Tryz.prog 13 #[.agg (clQ v q),.int .i64 (md-1)] W fun e w'=>e=.returned (.bool Jr)∧Below W.heap.size W w'):=fun W hW=>by rw[← Us];exact nh F.out (md-1) (by omega) (by omega) W hW
  have O4:Hid (∀ W,Holds W H8→Calls Tryz.prog 14 #[.agg (clQ v q),.int .i64 (md-1)] W fun e w'=>e=.returned (.bool Jr)∧Below W.heap.size W w'):=fun W hW=>by rw[← Us];exact lT F.out (md-1) (by omega) (by omega) W hW
  have MDC:Hid (∀ W,Calls Tryz.prog 15 #[.int .i64 now,.int .i64 80] W fun e w'=>e=.returned (.int .i64 md)∧W=w'):=fun W=>by
   rw[← Sx]
   exact(jq now 80 (by omega) (by omega) W).mono fun e w' h=>⟨h.1,by first | exact h.2 | exact h.2.symm⟩
  clear NQ Sx Ss Us mb;go_upto_region 10 with fail
  replace hS:=hS.drew;replace pr:=pr.drew;replace wG:=wG.drew;replace tJ:Src _ A10 (s'.map zI):=tJ.below (Below.refl _ _).drew;replace sQ:Src _ A11 (s'.map zI):=sQ.below (Below.refl _ _).drew;obtain⟨st,pQ⟩:∃ st,(⟨s'.toArray⟩:ByteArray)=st:=⟨_,rfl⟩
  have KV:Hid (∀ W A d,Src W A (s'.map zI)→(convert 22 9 (.slice A sn' d)).run Tryz.prog W=.ok (.string st) W):=fun W A d h=>by rw[← pQ];exact xe h sn' d HQ.out.2.2.symm
  clear pQ
  refine zr 39 (fun wx=>(wx.cell? ⟨N19,0,none⟩=some (.string v.issuer)∧wx.cell? ⟨N19,1,none⟩=some (.string v.subject)∧wx.cell? ⟨N19,2,none⟩=some (.int .i64 v.since)∧wx.cell? ⟨N19,3,none⟩=some (.int .i64 v.till)∧wx.cell? ⟨N19,4,none⟩=some (.int .i64 v.key.kty)∧wx.cell? ⟨N19,5,none⟩=some (.int .i64 v.key.crv)∧wx.cell? ⟨N19,6,none⟩=some (.int .i64 v.key.alg)∧wx.cell? ⟨N19,7,none⟩=some (.slice q.ia v.key.kid.length q.ic)∧wx.cell? ⟨N19,8,none⟩=some (.slice q.xa v.key.x.length q.xc)∧wx.cell? ⟨N19,9,none⟩=some (.slice q.da v.key.d.length q.dc)∧wx.cell? ⟨N19,10,none⟩=some (.slice q.ka v.key.k.length q.kc))∧(convert 22 9 (.slice A10 sn' c10)).run Tryz.prog wx=.ok (.string st) wx∧(convert 22 9 (.slice A11 sn' c11)).run Tryz.prog wx=.ok (.string st) wx) (by kernel_rfl) (⟨⟨hS.cell 0 rfl,hS.cell 1 rfl,hS.cell 2 rfl,hS.cell 3 rfl,hS.cell 4 rfl,hS.cell 5 rfl,hS.cell 6 rfl,hS.cell 7 rfl,hS.cell 8 rfl,hS.cell 9 rfl,hS.cell 10 rfl⟩,KV.out _ _ _ tJ,KV.out _ _ _ sQ⟩) (fun zy=>?_)
  refine TkS 0 rfl zy ?_
  refine TkS 2 rfl zy ?_
  refine To 1 rfl fun K hK=>?_
  go_simp
  refine(V1.out _ pr.holds).mono ?_
  rintro e w1' ⟨rfl,wU⟩
  replace tJ:=tJ.below wU;replace sQ:=sQ.below wU;replace hS:=hS.below wU;replace wG:=wG.trans (wU.mono wG.size);replace pr:=pr.below_ wU;clear wU
  refine Ko hK ?_ fun zy=>?_
  ·exact⟨⟨hS.cell 0 rfl,hS.cell 1 rfl,hS.cell 2 rfl,hS.cell 3 rfl,hS.cell 4 rfl,hS.cell 5 rfl,hS.cell 6 rfl,hS.cell 7 rfl,hS.cell 8 rfl,hS.cell 9 rfl,hS.cell 10 rfl⟩,KV.out _ _ _ tJ,KV.out _ _ _ sQ⟩
  clear hK K
  refine To 3 rfl fun K hK=>?_
  go_simp
  refine(V2.out _ pr.holds).mono ?_
  rintro e w3' ⟨rfl,uy⟩
  replace tJ:=tJ.below uy;replace sQ:=sQ.below uy;replace hS:=hS.below uy;replace wG:=wG.trans (uy.mono wG.size);replace pr:=pr.below_ uy;clear uy
  refine Ko hK ?_ fun zy=>?_
  ·exact⟨⟨hS.cell 0 rfl,hS.cell 1 rfl,hS.cell 2 rfl,hS.cell 3 rfl,hS.cell 4 rfl,hS.cell 5 rfl,hS.cell 6 rfl,hS.cell 7 rfl,hS.cell 8 rfl,hS.cell 9 rfl,hS.cell 10 rfl⟩,KV.out _ _ _ tJ,KV.out _ _ _ sQ⟩
  clear hK K
  refine TkS 4 rfl zy ?_
  refine TkS 5 rfl zy ?_
  refine tZ 6 rfl zy ?_
  refine tZ 7 rfl zy ?_
  refine tZ 8 rfl zy ?_
  refine tZ 9 rfl zy ?_
  refine tZ 10 rfl zy ?_
  refine TkS 11 rfl zy ?_
  refine TkS 12 rfl zy ?_
  refine tZ 13 rfl zy ?_
  refine tZ 14 rfl zy ?_
  refine tZ 15 rfl zy ?_
  refine TkS 16 rfl zy ?_
  refine TkS 17 rfl zy ?_
  refine tZ 18 rfl zy ?_
  refine tZ 19 rfl zy ?_
  refine tZ 21 rfl zy ?_
  refine tZ 22 rfl zy ?_
  refine To 20 rfl fun K hK=>?_
  go_simp
  refine(O1.out _ pr.holds).mono ?_
  rintro e w20' ⟨rfl,Yi⟩
  replace tJ:=tJ.below Yi;replace sQ:=sQ.below Yi;replace hS:=hS.below Yi;replace wG:=wG.trans (Yi.mono wG.size);replace pr:=pr.below_ Yi;clear Yi
  refine Ko hK ?_ fun zy=>?_
  ·exact⟨⟨hS.cell 0 rfl,hS.cell 1 rfl,hS.cell 2 rfl,hS.cell 3 rfl,hS.cell 4 rfl,hS.cell 5 rfl,hS.cell 6 rfl,hS.cell 7 rfl,hS.cell 8 rfl,hS.cell 9 rfl,hS.cell 10 rfl⟩,KV.out _ _ _ tJ,KV.out _ _ _ sQ⟩
  clear hK K
  refine To 23 rfl fun K hK=>?_
  go_simp
  refine(O2.out _ pr.holds).mono ?_
  rintro e w23' ⟨rfl,Yj⟩
  replace tJ:=tJ.below Yj;replace sQ:=sQ.below Yj;replace hS:=hS.below Yj;replace wG:=wG.trans (Yj.mono wG.size);replace pr:=pr.below_ Yj;clear Yj
  refine Ko hK ?_ fun zy=>?_
  ·exact⟨⟨hS.cell 0 rfl,hS.cell 1 rfl,hS.cell 2 rfl,hS.cell 3 rfl,hS.cell 4 rfl,hS.cell 5 rfl,hS.cell 6 rfl,hS.cell 7 rfl,hS.cell 8 rfl,hS.cell 9 rfl,hS.cell 10 rfl⟩,KV.out _ _ _ tJ,KV.out _ _ _ sQ⟩
  clear hK K
  refine tZ 24 rfl zy ?_
  refine TkS 25 rfl zy ?_
  refine TkS 26 rfl zy ?_
  refine tZ 27 rfl zy ?_
  refine tZ 28 rfl zy ?_
  refine tZ 32 rfl zy ?_
  refine tZ 33 rfl zy ?_
  refine To 29 rfl fun K hK=>?_
  go_simp
  refine(MDC.out _).mono ?_
  rintro e w29' ⟨rfl,rfl⟩
  refine Ko hK ?_ fun zy=>?_
  ·exact⟨⟨hS.cell 0 rfl,hS.cell 1 rfl,hS.cell 2 rfl,hS.cell 3 rfl,hS.cell 4 rfl,hS.cell 5 rfl,hS.cell 6 rfl,hS.cell 7 rfl,hS.cell 8 rfl,hS.cell 9 rfl,hS.cell 10 rfl⟩,KV.out _ _ _ tJ,KV.out _ _ _ sQ⟩
  clear hK K
  refine tZ 30 rfl zy ?_
  refine To 31 rfl fun K hK=>?_
  go_simp
  refine(O3.out _ pr.holds).mono ?_
  rintro e w31' ⟨rfl,Yk⟩
  replace tJ:=tJ.below Yk;replace sQ:=sQ.below Yk;replace hS:=hS.below Yk;replace wG:=wG.trans (Yk.mono wG.size);replace pr:=pr.below_ Yk;clear Yk
  refine Ko hK ?_ fun zy=>?_
  ·exact⟨⟨hS.cell 0 rfl,hS.cell 1 rfl,hS.cell 2 rfl,hS.cell 3 rfl,hS.cell 4 rfl,hS.cell 5 rfl,hS.cell 6 rfl,hS.cell 7 rfl,hS.cell 8 rfl,hS.cell 9 rfl,hS.cell 10 rfl⟩,KV.out _ _ _ tJ,KV.out _ _ _ sQ⟩
  clear hK K
  refine To 34 rfl fun K hK=>?_
  go_simp
  refine(MDC.out _).mono ?_
  rintro e w34' ⟨rfl,rfl⟩
  refine Ko hK ?_ fun zy=>?_
  ·exact⟨⟨hS.cell 0 rfl,hS.cell 1 rfl,hS.cell 2 rfl,hS.cell 3 rfl,hS.cell 4 rfl,hS.cell 5 rfl,hS.cell 6 rfl,hS.cell 7 rfl,hS.cell 8 rfl,hS.cell 9 rfl,hS.cell 10 rfl⟩,KV.out _ _ _ tJ,KV.out _ _ _ sQ⟩
  clear hK K
  refine tZ 35 rfl zy ?_
  refine To 36 rfl fun K hK=>?_
  go_simp
  refine(O4.out _ pr.holds).mono ?_
  rintro e w36' ⟨rfl,Yl⟩
  replace tJ:=tJ.below Yl;replace sQ:=sQ.below Yl;replace hS:=hS.below Yl;replace wG:=wG.trans (Yl.mono wG.size);replace pr:=pr.below_ Yl;clear Yl
  refine Ko hK ?_ fun zy=>?_
  ·exact⟨⟨hS.cell 0 rfl,hS.cell 1 rfl,hS.cell 2 rfl,hS.cell 3 rfl,hS.cell 4 rfl,hS.cell 5 rfl,hS.cell 6 rfl,hS.cell 7 rfl,hS.cell 8 rfl,hS.cell 9 rfl,hS.cell 10 rfl⟩,KV.out _ _ _ tJ,KV.out _ _ _ sQ⟩
  clear hK K
  refine tZ 37 rfl zy ?_
  refine TkS 38 rfl zy ?_
  refine Wd ?_
  clear zy hS pr V1 V2 O1 O2 O3 O4 MDC KV tJ sQ;go_wp2_with fail
  go_roundw
  case rel=>exact⟨k+1,by omega,by go_num,wG⟩
  case measure=>simp[intOf];omega
 have mG:¬ (k:Int)<3:=by omega
 clear mG;have mG:¬ (k:Int)<3:=by omega
 have Jt:=QZ.out.below xP;have uX:=HG;clear xP TV;have SPL:=Hh (YH (c:=c7) wr uX.holds MN.out.1.symm (en.out.mono MA.out.1) (by have:=MN.out;omega) at_ by_);go_wp2_with fail
 refine SPL.out.mono ?_
 rintro e w20 ⟨XA,xc,xl,rfl,Gq,Wu,Pc⟩
 obtain⟨xn,NS⟩:∃ n,xl.length=n:=⟨_,rfl⟩
 rw[NS];have Jj:=Hh (And.intro NS Pc);have Rn:=(uX.trans Wu).alloc (.cells #[.slice B bl bc,.slice A7 sn c7,.slice XA xn xc] 22);have Rm:=(Jt.below Wu.below).alloc (.cells #[.slice B bl bc,.slice A7 sn c7,.slice XA xn xc] 22);have vk:=Blk.new w20 22 #[.slice B bl bc,.slice A7 sn c7,.slice XA xn xc];have Rc:=Hh (And.intro (uX.le.trans Wu.le) (MA.out.1.trans Wu.le));obtain⟨w21,SQ⟩:∃ w21,w20.alloc (.cells #[.slice B bl bc,.slice A7 sn c7,.slice XA xn xc] 22)=w21:=⟨_,rfl⟩
 obtain⟨R2,Ml⟩:∃ N,w20.heap.size=N:=⟨_,rfl⟩
 have Rd:=Hh (And.intro SQ Ml);rw[SQ]at Rn Rm vk;rw[Ml]at vk;clear Jt uX Wu Pc NS SPL SQ Ml HG;go_upto_region 14 with fail
 try rw[Rd.out.1]
 try rw[Rd.out.2]
 clear Rd
 have rows:∀ k,k<3→∃ YA yn yc yl,w21.cell? ⟨R2,k,none⟩=some (.slice YA yn yc)∧yn=yl.length∧IsBytes Gq YA yc yl:=fun k hk=>by
  rcases(by omega:k=0∨k=1∨k=2) with rfl | rfl | rfl
  ·exact⟨B,bl,bc,b,vk.cell 0 rfl,HB.out.1,HB.out.2.mono Rc.out.1⟩
  ·exact⟨A7,sn,c7,s,vk.cell 1 rfl,MN.out.1.symm,en.out.mono Rc.out.2⟩
  exact⟨XA,xn,xc,xl,vk.cell 2 rfl,Jj.out.1.symm,Jj.out.2⟩
 have RV:=Hh rows;have Ol:=Hh Rn;have LB:=Hh Rm;clear rows vk Rn Rm;go_loopw [112] (fun v112 wr=>∃ k:Nat,k≤3∧v112=.int .i64 (k:Int)∧Below w21.heap.size w21 wr) (fun v112 _=>3-(intOf v112).toNat)
 case atStart=>exact⟨0,by omega,rfl,Below.refl _ _⟩
 case round =>
 obtain⟨k,hk,rfl,xP⟩:=hrel;have HG:=Ol.out.trans (Grows.of_below Ol.out.holds xP)
 by_cases ye:k<3
 case pos =>
  obtain⟨YA,yn,yc,yl,f0,Zp,QY⟩:=RV.out k ye;have q0:=zM f0 xP;have mG:(k:Int)<3:=by omega
  have ej:(k:Int)+1≤9223372036854775807:=by omega
  have Nd:=Hh (And.intro Zp QY);obtain⟨cc,Ke⟩:∃ c,dcC yl=c:=⟨_,rfl⟩
  obtain⟨ee,Ki⟩:∃ e,dcE yl=e:=⟨_,rfl⟩
  have iS:=Hh (And.intro Ke Ki);clear f0 Zp QY Ke Ki;go_wp2_with fail
  refine(cV (HT.out.mono HG.le) _ HG.holds (c:=yc) Nd.out.1 Nd.out.2).mono ?_
  intro e w30 he
  obtain⟨b1,Fl,rfl,UK,SF⟩:=DecCOut.is HG.holds he;rw[iS.out.1]at SF⊢;rw[iS.out.2];have XL:=(HG.trans UK).alloc (.cells (clQ cc b1) 26);have V9:=(xP.trans (UK.below.mono xP.size))
  replace V9:=V9.alloc V9.size (.cells (clQ cc b1) 26);have hU:=Blk.new w30 26 (clQ cc b1);have LC:=Hh SF;obtain⟨w31,SR⟩:∃ w31,w30.alloc (.cells (clQ cc b1) 26)=w31:=⟨_,rfl⟩
  obtain⟨N26,Rr⟩:∃ N,w30.heap.size=N:=⟨_,rfl⟩
  have Re:=Hh (And.intro SR Rr);rw[SR]at XL V9 hU;rw[Rr]at hU;have Hd:=Hh UK.le;clear he UK SF SR Rr HG xP q0;go_upto_region 17 with fail
  try rw[Re.out.1]
  try rw[Re.out.2]
  clear Re;go_wp2_with fail
  refine(fL (HT.out.mono XL.le) _ XL.holds (c:=yc) Nd.out.1 (Nd.out.2.mono Hd.out)).mono ?_
  intro e w40 he
  obtain⟨b2,Fm,rfl,Wv,SG⟩:=DecCOut.is XL.holds he;rw[iS.out.1]at SG⊢;rw[iS.out.2];have M4:=(XL.trans Wv).alloc (.cells (clQ cc b2) 26);have Sp:=(V9.trans (Wv.below.mono V9.size))
  replace Sp:=Sp.alloc Sp.size (.cells (clQ cc b2) 26);replace hU:=(hU.below Wv.below).alloc (.cells (clQ cc b2) 26);have hV:=Blk.new w40 26 (clQ cc b2);have LF:=Hh SG;have LE:=Hh (LC.out.mono Wv.le);obtain⟨w41,ST⟩:∃ w41,w40.alloc (.cells (clQ cc b2) 26)=w41:=⟨_,rfl⟩
  obtain⟨N28,Rs⟩:∃ N,w40.heap.size=N:=⟨_,rfl⟩
  have Rf:=Hh (And.intro ST Rs);rw[ST]at M4 Sp hU hV;rw[Rs]at hV;clear he Wv SG ST Rs XL V9;go_upto_region 18 with fail
  try rw[Rf.out.1]
  try rw[Rf.out.2]
  clear Rf;have u0':=hU.cell 0 rfl;have v0':=hV.cell 0 rfl;have u1':=hU.cell 1 rfl;have v1':=hV.cell 1 rfl;have u2':=hU.cell 2 rfl;have v2':=hV.cell 2 rfl;have u3':=hU.cell 3 rfl;have v3':=hV.cell 3 rfl;have u4':=hU.cell 4 rfl;have v4':=hV.cell 4 rfl;have u5':=hU.cell 5 rfl;have v5':=hV.cell 5 rfl;have u6':=hU.cell 6 rfl;have v6':=hV.cell 6 rfl;have u7':=hU.cell 7 rfl;have v7':=hV.cell 7 rfl;have u8':=hU.cell 8 rfl;have v8':=hV.cell 8 rfl;have u9':=hU.cell 9 rfl;have v9':=hV.cell 9 rfl;have u10':=hU.cell 10 rfl;have v10':=hV.cell 10 rfl;have SM:=Hh (ap LE.out LF.out _ M4.holds);clear hU hV M4;go_wp2_with fail
  refine SM.out.mono ?_
  rintro e w42 ⟨rfl,PD⟩
  have Ij:=Sp.trans (PD.mono Sp.size);clear SM PD Sp u0' v0' u1' v1' u2' v2' u3' v3' u4' v4' u5' v5' u6' v6' u7' v7' u8' v8' u9' v9' u10' v10';go_wp2_with fail
  go_roundw
  case rel=>exact⟨k+1,by omega,by go_num,Ij⟩
  case measure=>simp[intOf];omega
 have mG:¬ (k:Int)<3:=by omega
 have Xf:=LB.out.below xP;have k0:=Xf.cell 0 rfl;have k1:=Xf.cell 1 rfl;have k2:=Xf.cell 2 rfl;have k3:=Xf.cell 3 rfl;have k4:=Xf.cell 4 rfl;have k5:=Xf.cell 5 rfl;have k6:=Xf.cell 6 rfl;have k7:=Xf.cell 7 rfl;have k8:=Xf.cell 8 rfl;have k9:=Xf.cell 9 rfl;have k10:=Xf.cell 10 rfl;have VV:=Hh (qO (HT.out.mono HG.le) (ku.out.mono (M9.out.trans Rc.out.2)) _ HG.holds);rw[Uh.out]at VV;have Qa:=HG;clear HG xP Xf;go_wp2_with fail
 refine VV.out.mono ?_
 rintro e wy ⟨rfl,PI⟩
 replace Qa:=Qa.below_ PI;have AW:=Hh (lM (HT.out.mono Qa.le) _ Qa.holds);have l8:=Qa.below;clear VV PI Qa k0 k1 k2 k3 k4 k5 k6 k7 k8 k9 k10;go_wp2_with fail
 refine AW.out.mono ?_
 rintro e wz ⟨rfl,yX⟩
 have oc:=l8.trans (yX.mono l8.size);go_wp2_with fail
 go_ret
 exact⟨rfl,oc⟩
end Go.Proofs.YtgcjjhibdbafmabGreatDoor
