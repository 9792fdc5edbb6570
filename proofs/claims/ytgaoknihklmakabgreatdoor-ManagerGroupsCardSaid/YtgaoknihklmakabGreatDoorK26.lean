/- squeezed. Walks: the claims of an item, by t -/
import Derived.Test.YtgaoknihklmakabGreatDoorK25
set_option linter.unusedVariables false
set_option linter.unusedSimpArgs false
set_option maxRecDepth 100000
set_option maxHeartbeats 51200000
namespace Go.Proofs.YtgaoknihklmakabGreatDoor
open Go.RowKit
theorem jav{P:Prop}(h:P:=by
 clear hd zM rV;go_wp2_with fail
 refine FR.out.mono ?_
 rintro e w5 (⟨rE,rfl,qe⟩ | ⟨c5,a5,H5,rE,rfl,xT,UZ⟩)
 ·have E:=Hh (HD.out _ rE);replace hR:=(hR.below qe).alloc (.cells xz 63);replace hG:=(hG.below_ qe).alloc (.cells xz 63);clear rE qe FR HD;go_upto_region 6 with fail
  go_wp2_with (with_reducible refine zx ?_)
  refine zv rfl _ _ _ rfl rfl _ _ rfl rfl _ _ hR zV rfl (sW _ _ _ _ _ _ _ _ _ _ _ rfl rfl rfl rfl rfl rfl rfl rfl rfl rfl rfl) fun wz hRz zS=>?_
  have yl:=hG.grownOwn YX (Nat.le_refl _) zS;clear hG hR zS;go_wp2_with fail
  refine zw rfl rfl hRz rfl rfl zV rfl ?_
  exact .inl ⟨4,E.out,rfl,yl.below⟩
 have E:=Hh (HD.out _ rE);have OC:=xT.none YX I0.out;replace hR:=(hR.below xT.below).alloc (.cells (clQ c5 a5) 63);replace hG:=(hG.trans xT).alloc (.cells (clQ c5 a5) 63);have pK:=Hh UZ;clear rE xT FR HD YX UZ;go_upto_region 7 with fail
 go_wp2_with (with_reducible refine zx ?_)
 refine zv rfl _ _ _ rfl rfl _ _ rfl rfl _ _ hR zV rfl (sW _ _ _ _ _ _ _ _ _ _ _ rfl rfl rfl rfl rfl rfl rfl rfl rfl rfl rfl) fun wz hRz zS=>?_
 have yl:=hG.grownOwn OC (Nat.le_refl _) zS;clear hG hR zS;go_wp2_with fail
 refine zw rfl rfl hRz rfl rfl zV rfl ?_
 exact .inr ⟨c5,a5,H5,E.out,rfl,yl,pK.out⟩):P:=h
theorem jaH{P:Prop}(h:P:=by exact jeP):P:=h
theorem jaI{P:Prop}(h:P:=by
 have zY:=zY.alloc (.cells xi 83)
 refine Ko hK ?_ fun zy=>?_
 ·exact SS.out _ zY
 clear hK K
 refine To 13 rfl fun K hK=>?_
 refine zD _ _ _ rfl _ _ rfl rfl _ _ hP.blk zt rfl (rU _ _ _ _ rfl rfl rfl rfl) fun w13 hB13 hg13=>?_
 have zY:=zY.put hP hg13;have hQ:=hQ.kept hg13 uy;have hP:=hP.put hB13;clear hB13 hg13;go_simp
 refine Ko hK ?_ fun zy=>?_
 ·exact SS.out _ zY
 clear hK K
 refine To 14 rfl fun K hK=>?_
 refine zD _ _ _ rfl _ _ rfl rfl _ _ hQ.blk zt rfl (rU _ _ _ _ rfl rfl rfl rfl) fun w14 hB14 hg14=>?_
 have zY:=zY.put hQ hg14;have hP:=hP.kept hg14 (Ne.symm uy);have hQ:=hQ.put hB14;clear hB14 hg14;go_simp
 refine Ko hK ?_ fun zy=>?_
 ·exact SS.out _ zY
 clear hK K
 refine Wd ?_
 clear zy;go_wp2_with fail
 go_meet
 exact⟨_,_,rfl,rfl,zY,hP.blk,hQ.blk⟩):P:=h
theorem jaL{P:Prop}(h:P:=by
 rw[hd]at hs;obtain⟨rfl,zC⟩:=hs;have lV:((q:Int) != 0)=true:=by rw[bne_iff_ne];have:=sQ hd;omega
 have el:((q:Int)=0)=False:=eq_false (by have:=sQ hd;omega);have HD:Hid (um l=.error q):=by rw[Hid,um,hd]
 replace hR:=(hR.below zC).alloc zg;replace hG:=(hG.below_ zC).alloc zg;clear hd zC;go_upto_region 3 with fail
 go_wp2_with (with_reducible refine zx ?_)
 refine zv rfl _ _ _ rfl rfl _ _ rfl rfl _ _ hR zV rfl (sW _ _ _ _ _ _ _ _ _ _ _ rfl rfl rfl rfl rfl rfl rfl rfl rfl rfl rfl) fun wz hRz zS=>?_
 have yl:=hG.grownOwn Un (Nat.le_refl _) zS;clear hG hR zS;go_wp2_with fail
 refine zw rfl rfl hRz rfl rfl zV rfl ?_
 exact .inl ⟨q,HD.out,rfl,yl.below⟩):P:=h
theorem jaQ{P:Prop}(h:P:=by
 go_wp2_with (with_reducible refine zx ?_)
 refine zu rfl _ _ _ rfl rfl (w.heap.size+2) 2 (.int .i64 bt) rfl rfl _ _ zY.var (by kernel_rfl) (by simp) rfl fun wt hBt hgt=>?_
 replace zY:=zY.set (cc':=clQ { c with since:=bt } a) hBt hgt;clear hBt hgt q1;go_wp2_with fail
 go_roundw
 case rel=>exact⟨j+2,{ c with since:=bt },a,_,by have:=wT.out;omega,by have:=lQ.out;omega,by go_num,zY,⟨pK.out.issuer,pK.out.subject,by have:=Rm.out;show(-9223372036854775808:Int)≤bt∧bt≤9223372036854775807;omega,pK.out.till,pK.out.key⟩,by rw[mP.out,bN.out]⟩
 case measure=>have:=wT.out;simp[intOf];omega):P:=h
theorem jaR{P:Prop}(h:P:=by
 go_wp2_with (with_reducible refine zx ?_)
 refine zu rfl _ _ _ rfl rfl (w.heap.size+2) 3 (.int .i64 bt) rfl rfl _ _ zY.var (by kernel_rfl) (by simp) rfl fun wt hBt hgt=>?_
 replace zY:=zY.set (cc':=clQ { c with till:=bt } a) hBt hgt;clear hBt hgt q1;go_wp2_with fail
 go_roundw
 case rel=>exact⟨j+2,{ c with till:=bt },a,_,by have:=wT.out;omega,by have:=lQ.out;omega,by go_num,zY,⟨pK.out.issuer,pK.out.subject,pK.out.since,by have:=Rm.out;show(-9223372036854775808:Int)≤bt∧bt≤9223372036854775807;omega,pK.out.key⟩,by rw[mP.out,bN.out]⟩
 case measure=>have:=wT.out;simp[intOf];omega):P:=h
theorem jbe{P:Prop}(h:P:=by
 go_wp2_with fail
 go_roundw
 case rel=>exact⟨j+2,c,a,_,by have:=wT.out;omega,by have:=lQ.out;omega,by go_num,zY,pK.out,by rw[mP.out,bN.out]⟩
 case measure=>have:=wT.out;simp[intOf];omega):P:=h
theorem jcf{P:Prop}(h:P:=by exact⟨SX.out _ _ zY,SV.out _ _ zY⟩):P:=h
theorem jdU{P:Prop}(h:P:=by
 unfold qK
 rw[hq];have:=np hq;rw[decide_eq_false (by omega)];rfl):P:=h
theorem jee{P:Prop}(h:P:=by
 go_wp2_with (with_reducible refine zx ?_)
 refine zv rfl _ _ _ rfl rfl _ _ rfl rfl _ _ zY.res zV rfl (sW _ _ _ _ _ _ _ _ _ _ _ rfl rfl rfl rfl rfl rfl rfl rfl rfl rfl rfl) fun wz hRz zS=>?_
 have yl:=zY.grows.grownOwn zY.hR (by omega) zS;exact jaH):P:=h
theorem jeP{P:Prop}(h:P:=by
 go_wp2_with fail
 refine zw rfl rfl hRz rfl rfl zV rfl ?_
 exact .inl ⟨E.out,rfl,yl.below⟩):P:=h
theorem jfw{P:Prop}(h:P:=by
 have E:Hid (xX m=false):=by rw[Hid,ES.out];simp
 exact jej):P:=h
theorem jfY{P:Prop}(h:P:=by have v0:=zY.var.cell 0 rfl;have v1:=zY.var.cell 1 rfl;have v2:=zY.var.cell 2 rfl;have v3:=zY.var.cell 3 rfl;have v4:=zY.var.cell 4 rfl;have v5:=zY.var.cell 5 rfl;have v6:=zY.var.cell 6 rfl;have v7:=zY.var.cell 7 rfl;have v8:=zY.var.cell 8 rfl;have v9:=zY.var.cell 9 rfl;have v10:=zY.var.cell 10 rfl;exact And.intro v0 (And.intro v1 (And.intro v2 (And.intro v3 (And.intro v4 (And.intro v5 (And.intro v6 (And.intro v7 (And.intro v8 (And.intro v9 v10)))))))))):P:=h
theorem jgk{P:Prop}(h:P:=by have hX:=((Blk.new w 83 #[.int .i64 x.kind,.int .u64 x.n,.slice ba x.bytes.length bc,.slice ia x.items.length ic]).alloc (.cells xz 63)).alloc (.cells xz 63);have hR:=(Blk.new (w.alloc (zU x ba bc ia ic)) 63 xz).alloc (.cells xz 63);have hV:=Blk.new ((w.alloc (zU x ba bc ia ic)).alloc (.cells xz 63)) 63 xz;exact And.intro hX (And.intro hR hV)):P:=h
theorem jgJ{P:Prop}(h:P:=by have hB:=Blk.new w 27 (yW m.name m.roles m.since a.sa ls a.sc a.ca lc a.cc a.ha lh a.hc a.wa lw a.wc);have hb:=zm w (.cells (yW m.name m.roles m.since a.sa ls a.sc a.ca lc a.cc a.ha lh a.hc a.wa lw a.wc) 27);exact And.intro hB hb):P:=h
abbrev xz:Array Value:=#[.string ⟨#[]⟩,.string ⟨#[]⟩,.int .i64 0,.int .i64 0,.int .i64 0,.int .i64 0,.int .i64 0,.slice none 0 0,.slice none 0 0,.slice none 0 0,.slice none 0 0]
theorem zV:(Tryz.prog.info? 63).map (·.size)=some 11:=by kernel_rfl
theorem dr:(Tryz.prog.info? 61).map (·.size)=some 7:=by kernel_rfl
theorem sW (a b c d e f g h i j k:Value) (ha:a.oneCell'=true) (hb:b.oneCell'=true) (hc:c.oneCell'=true) (hd:d.oneCell'=true) (he:e.oneCell'=true) (hf:f.oneCell'=true) (hg:g.oneCell'=true) (hh:h.oneCell'=true) (hi:i.oneCell'=true) (hj:j.oneCell'=true) (hk:k.oneCell'=true) :
  (#[a,b,c,d,e,f,g,h,i,j,k]:Array Value).all (·.oneCell')=true:=by simp[ha,hb,hc,hd,he,hf,hg,hh,hi,hj,hk]
theorem Nm (H:Snap):ClA H mN ⟨none,0,none,0,none,0,none,0⟩ :=
 ⟨by show(0:Nat)≤_;omega,by show(0:Nat)≤_;omega,by show(-9223372036854775808:Int)≤0∧(0:Int)≤9223372036854775807;omega,by show(-9223372036854775808:Int)≤0∧(0:Int)≤9223372036854775807;omega,⟨by simp[mN,yP],by simp[mN,yP],by simp[mN,yP],IsBytes.nil _,IsBytes.nil _,IsBytes.nil _,IsBytes.nil _⟩⟩
structure CS (W0:World) (H:Snap) (xc cc:Array Value) (w:World) (Hr:Snap):Prop where
 grows:Grows W0 H w Hr
 box:Blk w W0.heap.size 83 xc
 res:Blk w (W0.heap.size+1) 63 xz
 var:Blk w (W0.heap.size+2) 63 cc
 hR:Hr (W0.heap.size+1)=none
 hV:Hr (W0.heap.size+2)=none
structure NB (W0:World) (Hr:Snap) (w:World) (g:Nat) (cells:Array Value):Prop where
 blk:Blk w g 83 cells
 none:Hr g=none
 far:W0.heap.size+3≤g
section
variable {W0 w w':World} {H Hr Hs:Snap} {xc cc cc' c c':Array Value} {g g':Nat}
theorem CS.grow (h:CS W0 H xc cc w Hr) (k:Grows w Hr w' Hs):CS W0 H xc cc w' Hs :=
 ⟨h.grows.trans k,h.box.below k.below,h.res.below k.below,h.var.below k.below,k.none h.hR h.res.lt,k.none h.hV h.var.lt⟩
theorem CS.below (h:CS W0 H xc cc w Hr) (k:Below w.heap.size w w'):CS W0 H xc cc w' Hr:=h.grow (Grows.of_below h.grows.holds k)
theorem CS.alloc (h:CS W0 H xc cc w Hr) (o:Obj):CS W0 H xc cc (w.alloc o) Hr:=h.below (zm w o)
theorem CS.drew (h:CS W0 H xc cc w Hr):CS W0 H xc cc w.drew Hr:=h.below (Below.refl _ _).drew
theorem CS.set (h:CS W0 H xc cc w Hr) (hB:Blk w' (W0.heap.size+2) 63 cc') (hg:w.grownBy w' (some (W0.heap.size+2))):CS W0 H xc cc' w' Hr :=
 ⟨h.grows.grownOwn h.hV (by omega) hg,h.box.gr hg (by omega),h.res.gr hg (by omega),hB,h.hR,h.hV⟩
theorem CS.put (h:CS W0 H xc cc w Hr) (n:NB W0 Hr w g c) (hg:w.grownBy w' (some g)):CS W0 H xc cc w' Hr :=
 ⟨h.grows.grownOwn n.none (by have:=n.far;omega) hg,h.box.grown hg (by intro e;injection e with e;have:=n.far;omega),h.res.grown hg (by intro e;injection e with e;have:=n.far;omega),h.var.grown hg (by intro e;injection e with e;have:=n.far;omega),h.hR,h.hV⟩
theorem CS.newI (h:CS W0 H xc cc w Hr):NB W0 Hr (w.alloc (.cells xi 83)) w.heap.size xi :=
 ⟨Blk.new _ _ _,h.grows.holds.none_of_ge (Nat.le_refl _),by have:=h.var.lt;omega⟩
theorem NB.alloc (n:NB W0 Hr w g c) (o:Obj):NB W0 Hr (w.alloc o) g c:=⟨n.blk.alloc o,n.none,n.far⟩
theorem NB.ne_new (n:NB W0 Hr w g c):w.heap.size≠g:=by have:=n.blk.lt;omega
theorem NB.put (n:NB W0 Hr w g c) (hB:Blk w' g 83 c'):NB W0 Hr w' g c':=⟨hB,n.none,n.far⟩
theorem NB.kept (n:NB W0 Hr w g c) (hg:w.grownBy w' (some g')) (uy:g'≠g):NB W0 Hr w' g c:=⟨n.blk.grown hg (by intro e;injection e with e;exact uy e),n.none,n.far⟩
end
def dI (w:World) (H:Snap) (x:Itm) (e:Ending) (w':World):Prop :=
 (yE x=none∧e=.returned (.tuple #[.agg xz,.bool false])∧Below w.heap.size w w')∨
 (∃ c a H',yE x=some c∧e=.returned (.tuple #[.agg (clQ c a),.bool true])∧Grows w H w' H'∧ClA H' c a)
theorem XX {x:Itm}(h:¬ x.kind=5):yE x=none:=if_neg h
theorem eG {x:Itm}(h:ue mN x.items=none):yE x=none:=by
 unfold yE
 rw[h]
 split <;> rfl
theorem ZM {x:Itm}{c:Cl}(h5:x.kind=5) (h:ue mN x.items=some c):yE x=if zE c&&tC (xP c) x then some c else none:=by
 unfold yE
 rw[h,if_pos h5]
theorem VO {w w':World}{H:Snap}{x:Itm}{e:Ending}(hH:Holds w H) (h:cO w H x e w'):∃ a H' cd,e=.returned (.tuple #[.agg (tY (qQ x) a),.int .i64 cd])∧Grows w H w' H'∧KeyA H' (qQ x) a:=by
 have nilA:KeyA H yP ⟨none,0,none,0,none,0,none,0⟩:=⟨by simp[yP],by simp[yP],by simp[yP],IsBytes.nil _,IsBytes.nil _,IsBytes.nil _,IsBytes.nil _⟩
 rcases h with ⟨h1,rfl,hb⟩ | ⟨h1,h2,rfl,hb⟩ | ⟨q,a,H',h1,h2,rfl,hG,hk⟩
 ·rw[aT (fun h=>by rw[h1]at h;exact absurd h.1 (by decide))]
  exact⟨⟨none,0,none,0,none,0,none,0⟩,H,1,rfl,Grows.of_below hH hb,nilA⟩
 ·rw[aT (fun h=>h2 h.2)]
  exact⟨⟨none,0,none,0,none,0,none,0⟩,H,12,rfl,Grows.of_below hH hb,nilA⟩
 rw[ko h1 h2]
 exact⟨a,H',0,rfl,hG,hk⟩
theorem cG {H:Snap}(hTab:Tabs H) {x:Itm}(hvx:zR x=true) {ba:Option Addr}{bc:Nat}{ia:Option Addr}{ic:Nat}(hx:IsItem H ba bc ia ic x) (w:World) (hH:Holds w H) :
  Calls Tryz.prog 54 #[xx x ba bc ia ic] w (dI w H x):=by
 obtain⟨hX,hR,hV⟩:=jgk;rw[zh]at hR;rw[zh,zh]at hV;have zY:CS w H #[.int .i64 x.kind,.int .u64 x.n,.slice ba x.bytes.length bc,.slice ia x.items.length ic] xz _ H:=⟨(((Grows.refl hH).alloc (zU x ba bc ia ic)).alloc (.cells xz 63)).alloc (.cells xz 63),hX,hR,hV,hH.none_of_ge (by omega),hH.none_of_ge (by omega)⟩
 have HT:=Hh hTab;have HI:=Hh hx;have HV:=Hh hvx;have a0:=zY.box.cell 0 rfl;clear hTab hx hvx hH hX hR hV;go_enter Tryz.func54,Tryz.ntmps54
 by_cases h5:x.kind=5
 case neg =>
  have b5:(x.kind != 5)=true:=by simp[h5]
  have p5:(x.kind=5)=False:=eq_false h5;have H5:=Hh h5;obtain⟨v0,v1,v2,v3,v4,v5,v6,v7,v8,v9,v10⟩:=jfY;clear h5;go_wp2_with (with_reducible refine zx ?_)
  refine zv rfl _ _ _ rfl rfl _ _ rfl rfl _ _ zY.res zV rfl (sW _ _ _ _ _ _ _ _ _ _ _ rfl rfl rfl rfl rfl rfl rfl rfl rfl rfl rfl) fun wz hRz zS=>?_
  have yl:=zY.grows.grownOwn zY.hR (by omega) zS;go_wp2_with fail
  refine zw rfl rfl hRz rfl rfl zV rfl ?_
  exact .inl ⟨XX H5.out,rfl,yl.below⟩
 have b5:(x.kind != 5)=false:=by simp[h5]
 have p5:(x.kind=5)=True:=eq_true h5;have H5:=Hh h5;have Z0:=Hh (qE HV.out h5);clear h5;go_upto_region 4 with fail
 obtain⟨W3,Oz⟩:∃ W3,((w.alloc (zU x ba bc ia ic)).alloc (.cells xz 63)).alloc (.cells xz 63)=W3:=⟨_,rfl⟩
 simp only[zU,ze]at Oz
 try simp only[zU,ze]at zY
 rw[Oz]at zY⊢;clear Oz b5 p5 a0;have Kg:CS w H #[.int .i64 x.kind,.int .u64 x.n,.slice ba x.bytes.length bc,.slice ia x.items.length ic] (clQ mN ⟨none,0,none,0,none,0,none,0⟩) W3 H:=zY;clear zY;go_wp2_with fail
 go_loopw [5] (fun v5 wr=>∃ (j:Nat) (c:Cl) (a:KAd) (Hr:Snap),j≤x.items.length∧j%2=0∧v5=.int .i64 (j:Int)∧CS w H #[.int .i64 x.kind,.int .u64 x.n,.slice ba x.bytes.length bc,.slice ia x.items.length ic] (clQ c a) wr Hr∧ClA Hr c a∧ue mN x.items=ue c (x.items.drop j)) (fun v5 _=>x.items.length+1-(intOf v5).toNat)
 case atStart=>exact⟨0,mN,⟨none,0,none,0,none,0,none,0⟩,H,Nat.zero_le _,rfl,rfl,Kg,Nm H,by rw[List.drop_zero]⟩
 case round =>
 clear Kg;obtain⟨j,c,a,Hr,hj,XE,rfl,zY,UZ,Ps⟩:=hrel;have lQ:=Hh XE;have pK:=Hh UZ;have lP:=Hh Ps;clear XE UZ Ps;have a3:=zY.box.cell 3 rfl
 by_cases zB:j<x.items.length
 case neg =>
  have tF:j=x.items.length:=by omega
  subst tF;clear zB hj;have HF:Hid (ue mN x.items=some c):=by rw[Hid,lP.out,List.drop_length,dO]
  clear lP;have CL:=Hh (ZM H5.out HF.out);go_upto_region 22 with fail
  clear a3;replace zY:=zY.drew;have VC:Hid (∀ wx,Holds wx Hr→Calls Tryz.prog 47 #[.agg (clQ c a)] wx fun e w'=>e=.returned (.bool (zE c))∧Below wx.heap.size wx w'):=fun wx hx=>jI (HT.out.mono zY.grows.le) pK.out wx hx
  have SV:Hid (∀ Hx wx,CS w H #[.int .i64 x.kind,.int .u64 x.n,.slice ba x.bytes.length bc,.slice ia x.items.length ic] (clQ c a) wx Hx→wx.cell? ⟨w.heap.size+2,0,none⟩=some (.string c.issuer)∧wx.cell? ⟨w.heap.size+2,1,none⟩=some (.string c.subject)∧wx.cell? ⟨w.heap.size+2,2,none⟩=some (.int .i64 c.since)∧wx.cell? ⟨w.heap.size+2,3,none⟩=some (.int .i64 c.till)∧wx.cell? ⟨w.heap.size+2,4,none⟩=some (.int .i64 c.key.kty)∧wx.cell? ⟨w.heap.size+2,5,none⟩=some (.int .i64 c.key.crv)∧wx.cell? ⟨w.heap.size+2,6,none⟩=some (.int .i64 c.key.alg)∧wx.cell? ⟨w.heap.size+2,7,none⟩=some (.slice a.ia c.key.kid.length a.ic)∧wx.cell? ⟨w.heap.size+2,8,none⟩=some (.slice a.xa c.key.x.length a.xc)∧wx.cell? ⟨w.heap.size+2,9,none⟩=some (.slice a.da c.key.d.length a.dc)∧wx.cell? ⟨w.heap.size+2,10,none⟩=some (.slice a.ka c.key.k.length a.kc)):=fun _ _ h=>⟨h.var.cell 0 rfl,h.var.cell 1 rfl,h.var.cell 2 rfl,h.var.cell 3 rfl,h.var.cell 4 rfl,h.var.cell 5 rfl,h.var.cell 6 rfl,h.var.cell 7 rfl,h.var.cell 8 rfl,h.var.cell 9 rfl,h.var.cell 10 rfl⟩
  have SX:Hid (∀ Hx wx,CS w H #[.int .i64 x.kind,.int .u64 x.n,.slice ba x.bytes.length bc,.slice ia x.items.length ic] (clQ c a) wx Hx→wx.cell? ⟨w.heap.size,0,none⟩=some (.int .i64 x.kind)∧wx.cell? ⟨w.heap.size,1,none⟩=some (.int .u64 x.n)∧wx.cell? ⟨w.heap.size,2,none⟩=some (.slice ba x.bytes.length bc)∧wx.cell? ⟨w.heap.size,3,none⟩=some (.slice ia x.items.length ic)):=fun _ _ h=>⟨h.box.cell 0 rfl,h.box.cell 1 rfl,h.box.cell 2 rfl,h.box.cell 3 rfl⟩
  cases hv:zE c with
  | false =>
   have E:Hid (yE x=none):=by rw[Hid,CL.out,hv];rfl
   rw[hv]at VC;clear CL hv
   refine zj 10 (fun wx=>wx.cell? ⟨w.heap.size+2,0,none⟩=some (.string c.issuer)∧wx.cell? ⟨w.heap.size+2,1,none⟩=some (.string c.subject)∧wx.cell? ⟨w.heap.size+2,2,none⟩=some (.int .i64 c.since)∧wx.cell? ⟨w.heap.size+2,3,none⟩=some (.int .i64 c.till)∧wx.cell? ⟨w.heap.size+2,4,none⟩=some (.int .i64 c.key.kty)∧wx.cell? ⟨w.heap.size+2,5,none⟩=some (.int .i64 c.key.crv)∧wx.cell? ⟨w.heap.size+2,6,none⟩=some (.int .i64 c.key.alg)∧wx.cell? ⟨w.heap.size+2,7,none⟩=some (.slice a.ia c.key.kid.length a.ic)∧wx.cell? ⟨w.heap.size+2,8,none⟩=some (.slice a.xa c.key.x.length a.xc)∧wx.cell? ⟨w.heap.size+2,9,none⟩=some (.slice a.da c.key.d.length a.dc)∧wx.cell? ⟨w.heap.size+2,10,none⟩=some (.slice a.ka c.key.k.length a.kc)) (by kernel_rfl) (SV.out _ _ zY) (fun zy=>?_)
   refine TkS 0 rfl zy ?_
   refine To 1 rfl fun K hK=>?_
   go_simp
   refine(VC.out _ zY.grows.holds).mono ?_
   rintro e w2 ⟨rfl,zC⟩
   have zY:=zY.below zC
   refine Ko hK ?_ fun zy=>?_
   ·exact SV.out _ _ zY
   clear hK K
   refine TkS 2 rfl zy ?_
   refine TkS 3 rfl zy ?_
   refine eT 4 rfl zy ?_
   refine eT 5 rfl zy ?_
   refine eT 6 rfl zy ?_
   refine eT 7 rfl zy ?_
   refine eT 8 rfl zy ?_
   refine TkS 9 rfl zy ?_
   refine Wd ?_
   clear zy
   try simp only[Bool.not_false]
   exact jee
  | true =>
  rw[hv]at VC CL;have WE:=Hh hv;have IC:=Hh (fun wx hx=>ff (HT.out.mono zY.grows.le) pK.out hv wx hx);rw[Bool.true_and]at CL
  cases hs:tC (xP c) x with
  | false =>
   have E:Hid (yE x=none):=by rw[Hid,CL.out,hs];rfl
   have HS:=Hh hs;clear CL hv hs
   refine zj 10 (fun wx=>(wx.cell? ⟨w.heap.size,0,none⟩=some (.int .i64 x.kind)∧wx.cell? ⟨w.heap.size,1,none⟩=some (.int .u64 x.n)∧wx.cell? ⟨w.heap.size,2,none⟩=some (.slice ba x.bytes.length bc)∧wx.cell? ⟨w.heap.size,3,none⟩=some (.slice ia x.items.length ic))∧wx.cell? ⟨w.heap.size+2,0,none⟩=some (.string c.issuer)∧wx.cell? ⟨w.heap.size+2,1,none⟩=some (.string c.subject)∧wx.cell? ⟨w.heap.size+2,2,none⟩=some (.int .i64 c.since)∧wx.cell? ⟨w.heap.size+2,3,none⟩=some (.int .i64 c.till)∧wx.cell? ⟨w.heap.size+2,4,none⟩=some (.int .i64 c.key.kty)∧wx.cell? ⟨w.heap.size+2,5,none⟩=some (.int .i64 c.key.crv)∧wx.cell? ⟨w.heap.size+2,6,none⟩=some (.int .i64 c.key.alg)∧wx.cell? ⟨w.heap.size+2,7,none⟩=some (.slice a.ia c.key.kid.length a.ic)∧wx.cell? ⟨w.heap.size+2,8,none⟩=some (.slice a.xa c.key.x.length a.xc)∧wx.cell? ⟨w.heap.size+2,9,none⟩=some (.slice a.da c.key.d.length a.dc)∧wx.cell? ⟨w.heap.size+2,10,none⟩=some (.slice a.ka c.key.k.length a.kc)) (by kernel_rfl) (⟨SX.out _ _ zY,SV.out _ _ zY⟩) (fun zy=>?_)
   refine TkS 0 rfl zy ?_
   refine To 1 rfl fun K hK=>?_
   go_simp
   refine(VC.out _ zY.grows.holds).mono ?_
   rintro e w2 ⟨rfl,zC⟩
   have zY:=zY.below zC
   refine Ko hK ?_ fun zy=>?_
   ·exact jcf
   clear hK K
   refine TkS 2 rfl zy ?_
   refine TkS 3 rfl zy ?_
   refine cY 4 rfl zy ?_
   refine cY 6 rfl zy ?_
   refine To 5 rfl fun K hK=>?_
   go_simp
   refine(IC.out _ zY.grows.holds).mono ?_
   rintro e w3 ⟨v3,rfl,xa,xb,xc,xd,H3,rfl,yY,UT⟩
   have zY:=zY.grow yY;obtain⟨y,hy⟩:∃ y,y=xP c:=⟨_,rfl⟩
   rw[← hy]at UT⊢;have HY:=Hh hy;have Ob:=Hh yY;clear hy yY
   refine Ko hK ?_ fun zy=>?_
   ·exact jcf
   clear hK K
   refine To 7 rfl fun K hK=>?_
   go_simp
   refine(gI y x _ _ _ _ _ _ _ _ _ _ _ _ _ _ _ _ _ _ (wi (by rw[HY.out];exact vj WE.out)) (wi HV.out) UT.arg (HI.out.mono zY.grows.le).arg zY.grows.holds).mono ?_
   rintro e w4 ⟨rfl,pd⟩
   rw[HY.out,HS.out];have zY:=zY.below pd
   refine Ko hK ?_ fun zy=>?_
   ·exact jcf
   clear hK K
   refine cY 8 rfl zy ?_
   refine TkS 9 rfl zy ?_
   refine Wd ?_
   clear zy
   try simp only[Bool.not_false,Bool.not_true]
   exact jee
  | true =>
  have E:Hid (yE x=some c):=by rw[Hid,CL.out,hs];rfl
  have HS:=Hh hs;clear CL hv hs
  refine zj 10 (fun wx=>(wx.cell? ⟨w.heap.size,0,none⟩=some (.int .i64 x.kind)∧wx.cell? ⟨w.heap.size,1,none⟩=some (.int .u64 x.n)∧wx.cell? ⟨w.heap.size,2,none⟩=some (.slice ba x.bytes.length bc)∧wx.cell? ⟨w.heap.size,3,none⟩=some (.slice ia x.items.length ic))∧wx.cell? ⟨w.heap.size+2,0,none⟩=some (.string c.issuer)∧wx.cell? ⟨w.heap.size+2,1,none⟩=some (.string c.subject)∧wx.cell? ⟨w.heap.size+2,2,none⟩=some (.int .i64 c.since)∧wx.cell? ⟨w.heap.size+2,3,none⟩=some (.int .i64 c.till)∧wx.cell? ⟨w.heap.size+2,4,none⟩=some (.int .i64 c.key.kty)∧wx.cell? ⟨w.heap.size+2,5,none⟩=some (.int .i64 c.key.crv)∧wx.cell? ⟨w.heap.size+2,6,none⟩=some (.int .i64 c.key.alg)∧wx.cell? ⟨w.heap.size+2,7,none⟩=some (.slice a.ia c.key.kid.length a.ic)∧wx.cell? ⟨w.heap.size+2,8,none⟩=some (.slice a.xa c.key.x.length a.xc)∧wx.cell? ⟨w.heap.size+2,9,none⟩=some (.slice a.da c.key.d.length a.dc)∧wx.cell? ⟨w.heap.size+2,10,none⟩=some (.slice a.ka c.key.k.length a.kc)) (by kernel_rfl) (⟨SX.out _ _ zY,SV.out _ _ zY⟩) (fun zy=>?_)
  refine TkS 0 rfl zy ?_
  refine To 1 rfl fun K hK=>?_
  go_simp
  refine(VC.out _ zY.grows.holds).mono ?_
  rintro e w2 ⟨rfl,zC⟩
  have zY:=zY.below zC
  refine Ko hK ?_ fun zy=>?_
  ·exact jcf
  clear hK K
  refine TkS 2 rfl zy ?_
  refine TkS 3 rfl zy ?_
  refine cY 4 rfl zy ?_
  refine cY 6 rfl zy ?_
  refine To 5 rfl fun K hK=>?_
  go_simp
  refine(IC.out _ zY.grows.holds).mono ?_
  rintro e w3 ⟨v3,rfl,xa,xb,xc,xd,H3,rfl,yY,UT⟩
  have zY:=zY.grow yY;obtain⟨y,hy⟩:∃ y,y=xP c:=⟨_,rfl⟩
  rw[← hy]at UT⊢;have HY:=Hh hy;have Ob:=Hh yY;clear hy yY
  refine Ko hK ?_ fun zy=>?_
  ·exact jcf
  clear hK K
  refine To 7 rfl fun K hK=>?_
  go_simp
  refine(gI y x _ _ _ _ _ _ _ _ _ _ _ _ _ _ _ _ _ _ (wi (by rw[HY.out];exact vj WE.out)) (wi HV.out) UT.arg (HI.out.mono zY.grows.le).arg zY.grows.holds).mono ?_
  rintro e w4 ⟨rfl,pd⟩
  rw[HY.out,HS.out];have zY:=zY.below pd
  refine Ko hK ?_ fun zy=>?_
  ·exact jcf
  clear hK K
  refine cY 8 rfl zy ?_
  refine TkS 9 rfl zy ?_
  refine Wd ?_
  clear zy
  try simp only[Bool.not_false,Bool.not_true]
  obtain⟨v0,v1,v2,v3,v4,v5,v6,v7,v8,v9,v10⟩:=jfY;have B4:=Hh (pK.out.mono Ob.out.le);go_wp2_with (with_reducible refine zx ?_)
  refine zv rfl _ _ _ rfl rfl _ _ rfl rfl _ _ zY.res zV rfl (sW _ _ _ _ _ _ _ _ _ _ _ rfl rfl rfl rfl rfl rfl rfl rfl rfl rfl rfl) fun wz hRz zS=>?_
  have yl:=zY.grows.grownOwn zY.hR (by omega) zS;go_wp2_with fail
  refine zw rfl rfl hRz rfl rfl zV rfl ?_
  exact .inr ⟨c,a,_,E.out,rfl,yl,B4.out⟩
 have sY:j+1<x.items.length:=by have:=lQ.out;have:=Z0.out;omega
 have jR:x.items.length≤256:=(yD HV.out).2.1;have Yf:(j:Int)<x.items.length:=by omega
 have bB:(j:Int)+1<x.items.length:=by omega
 have Qt:(0:Int)≤(j:Int)+1:=by omega
 have rp:IntKind.i64.wrap ((j:Int)+2)=(j:Int)+2:=IntWalk.i64_in _ (by omega);have Mq:=jgu;obtain⟨ib,io,pf,un⟩:=HI.out.items (by omega);obtain⟨y1,y2,y3,y4,q0,q1,q2,q3,dE⟩:=un.get j zB;obtain⟨z1,z2,z3,z4,s0,s1,s2,s3,mR⟩:=un.get (j+1) sY;subst pf;have oQ:=Hh (XW c x.items j sY);obtain⟨UP,wT⟩:=jhf
 generalize x.items[j]'zB=y at *
 generalize x.items[j+1]'sY=z at *
 have bP:=Hh (And.intro dE mR);have Dw:=Hh (And.intro q0 (And.intro q1 (And.intro q2 (And.intro q3 (And.intro s0 (And.intro s1 (And.intro s2 s3)))))));clear un dE mR zB sY hj jR q0 q1 q2 q3 s0 s1 s2 s3;go_upto_region 7 with fail
 clear a3;go_cut [6,7] (fun s6 s7 wx=>∃ P Q:Nat,s6=.pointer (some ⟨P,0,none⟩)∧s7=.pointer (some ⟨Q,0,none⟩)∧CS w H #[.int .i64 x.kind,.int .u64 x.n,.slice ba x.bytes.length bc,.slice (some ⟨ib,io,none⟩) x.items.length ic] (clQ c a) wx Hr∧Blk wx P 83 #[.int .i64 y.kind,.int .u64 y.n,.slice y1 y.bytes.length y2,.slice y3 y.items.length y4]∧Blk wx Q 83 #[.int .i64 z.kind,.int .u64 z.n,.slice z1 z.bytes.length z2,.slice z3 z.items.length z4])
 case first =>
  replace zY:=zY.drew
  have SS:Hid (∀ wx,CS w H #[.int .i64 x.kind,.int .u64 x.n,.slice ba x.bytes.length bc,.slice (some ⟨ib,io,none⟩) x.items.length ic] (clQ c a) wx Hr→wx.cell? ⟨w.heap.size,3,none⟩=some (.slice (some ⟨ib,io,none⟩) x.items.length ic)∧wx.cell? ⟨ib,io+j*4,none⟩=some (.int .i64 y.kind)∧wx.cell? ⟨ib,io+j*4+1,none⟩=some (.int .u64 y.n)∧wx.cell? ⟨ib,io+j*4+2,none⟩=some (.slice y1 y.bytes.length y2)∧wx.cell? ⟨ib,io+j*4+3,none⟩=some (.slice y3 y.items.length y4)∧wx.cell? ⟨ib,io+(j+1)*4,none⟩=some (.int .i64 z.kind)∧wx.cell? ⟨ib,io+(j+1)*4+1,none⟩=some (.int .u64 z.n)∧wx.cell? ⟨ib,io+(j+1)*4+2,none⟩=some (.slice z1 z.bytes.length z2)∧wx.cell? ⟨ib,io+(j+1)*4+3,none⟩=some (.slice z3 z.items.length z4)):=fun wx hc=>by
   have hh:=hc.grows.holds.mono hc.grows.le;have Q:=Dw.out
   exact⟨hc.box.cell 3 rfl,hh.cell Q.1,hh.cell Q.2.1,hh.cell Q.2.2.1,hh.cell Q.2.2.2.1,hh.cell Q.2.2.2.2.1,hh.cell Q.2.2.2.2.2.1,hh.cell Q.2.2.2.2.2.2.1,hh.cell Q.2.2.2.2.2.2.2⟩
  refine zj 15 (fun wx=>wx.cell? ⟨w.heap.size,3,none⟩=some (.slice (some ⟨ib,io,none⟩) x.items.length ic)∧wx.cell? ⟨ib,io+j*4,none⟩=some (.int .i64 y.kind)∧wx.cell? ⟨ib,io+j*4+1,none⟩=some (.int .u64 y.n)∧wx.cell? ⟨ib,io+j*4+2,none⟩=some (.slice y1 y.bytes.length y2)∧wx.cell? ⟨ib,io+j*4+3,none⟩=some (.slice y3 y.items.length y4)∧wx.cell? ⟨ib,io+(j+1)*4,none⟩=some (.int .i64 z.kind)∧wx.cell? ⟨ib,io+(j+1)*4+1,none⟩=some (.int .u64 z.n)∧wx.cell? ⟨ib,io+(j+1)*4+2,none⟩=some (.slice z1 z.bytes.length z2)∧wx.cell? ⟨ib,io+(j+1)*4+3,none⟩=some (.slice z3 z.items.length z4)) (by kernel_rfl) (SS.out _ zY) (fun zy=>?_)
  refine TkS 0 rfl zy ?_
  refine TkS 1 rfl zy ?_
  refine TkS 2 rfl zy ?_
  refine TkS 3 rfl zy ?_
  refine TkS 4 rfl zy ?_
  refine TkS 5 rfl zy ?_
  refine TkS 6 rfl zy ?_
  refine TkS 7 rfl zy ?_
  refine TkS 8 rfl zy ?_
  refine TkS 9 rfl zy ?_
  refine TkS 10 rfl zy ?_
  refine Ways.two (i:=11) (j:=12) rfl rfl (by kernel_rfl) (fun K hK=>?_) (fun K hK=>?_)
  ·go_simp
   have hP:=zY.newI
   try rw[zh]at hP
   try have uy:_≠_:=hQ.ne_new
   try rw[zh]at uy
   try have hQ:=hQ.alloc (.cells xi 83)
   have zY:=zY.alloc (.cells xi 83)
   refine Ko hK ?_ fun zy=>?_
   ·exact SS.out _ zY
   clear hK K
   refine To 12 rfl fun K hK=>?_
   go_simp
   have hQ:=zY.newI
   try rw[zh]at hQ
   try have uy:_≠_:=hP.ne_new.symm
   try rw[zh]at uy
   try have hP:=hP.alloc (.cells xi 83)
   exact jaI
  go_simp
  have hQ:=zY.newI
  try rw[zh]at hQ
  try have uy:_≠_:=hP.ne_new.symm
  try rw[zh]at uy
  try have hP:=hP.alloc (.cells xi 83)
  have zY:=zY.alloc (.cells xi 83)
  refine Ko hK ?_ fun zy=>?_
  ·exact SS.out _ zY
  clear hK K
  refine To 11 rfl fun K hK=>?_
  go_simp
  have hP:=zY.newI
  try rw[zh]at hP
  try have uy:_≠_:=hQ.ne_new
  try rw[zh]at uy
  try have hQ:=hQ.alloc (.cells xi 83)
  exact jaI
 case rest =>
 clear zY Dw Yf bB Qt Mq;obtain⟨P,Q,rfl,rfl,zY,hP,hQ⟩:=hcut;have p0:=hP.cell 0 rfl
 by_cases sL:y.kind=0
 case neg =>
  have b0:(y.kind != 0)=true:=by simp[sL]
  have e0:(y.kind=0)=False:=eq_false sL;have E:Hid (yE x=none):=eG (by rw[lP.out,oQ.out,if_neg sL]);clear hP hQ sL;exact jee
 have b0:(y.kind != 0)=false:=by simp[sL]
 have e0:(y.kind=0)=True:=eq_true sL;have mP:Hid (ue mN x.items=ue (tq c y z) (x.items.drop (j+2))):=by rw[Hid,lP.out,oQ.out,if_pos sL]
 obtain⟨k,hk⟩:∃ k:Int,(y.n:Int)=k:=⟨_,rfl⟩
 have HK:=Hh hk;have p1:=hP.cell 1 rfl;rw[hk]at p1;have EG:=Hh (yD UP.out);have Es:=(bP.out.2.mono zY.grows.le)
 have Hm:=Hh Es;clear hk sL hP oQ lP Es;go_upto_region 10 with fail
 clear p0 b0 e0;go_upto_region 11 with fail
 clear p1
 by_cases h1:k=1
 ·subst h1
  have bN:Hid (tq c y z={ c with issuer:=uY z.bytes }):=by
   have XK:y.n=1:=by have:=HK.out;omega
   unfold tq
   rw[XK];rfl
  clear HK;have q2:=hQ.cell 2 rfl;have CV:=xI (Src.of_row Hm.out.bytes.row zY.grows.holds) z.bytes.length z2 rfl;clear hQ;go_wp2_with (with_reducible refine zx ?_)
  unfold z8
  clear CV q2
  refine zu rfl _ _ _ rfl rfl (w.heap.size+2) 0 (.string (uY z.bytes)) rfl rfl _ _ zY.var (by kernel_rfl) (by simp) rfl fun wt hBt hgt=>?_
  replace zY:=zY.set (cc':=clQ { c with issuer:=uY z.bytes } a) hBt hgt;clear hBt hgt;go_wp2_with fail
  go_roundw
  case rel=>exact⟨j+2,{ c with issuer:=uY z.bytes },a,_,by have:=wT.out;omega,by have:=lQ.out;omega,by go_num,zY,⟨(by show(uY z.bytes).size≤_;have:=EG.out.1;unfold uY;simp[ByteArray.size];omega),pK.out.subject,pK.out.since,pK.out.till,pK.out.key⟩,by rw[mP.out,bN.out]⟩
  case measure=>have:=wT.out;simp[intOf];omega
 have bh1:(k==1)=false:=by rw[beq_eq_false_iff_ne];exact h1
 have eh1:(k=1)=False:=eq_false h1
 by_cases h2:k=2
 ·subst h2
  have bN:Hid (tq c y z={ c with subject:=uY z.bytes }):=by
   have XK:y.n=2:=by have:=HK.out;omega
   unfold tq
   rw[XK];rfl
  clear HK;have q2:=hQ.cell 2 rfl;have CV:=xI (Src.of_row Hm.out.bytes.row zY.grows.holds) z.bytes.length z2 rfl;clear hQ;go_wp2_with (with_reducible refine zx ?_)
  unfold z8
  clear CV q2
  refine zu rfl _ _ _ rfl rfl (w.heap.size+2) 1 (.string (uY z.bytes)) rfl rfl _ _ zY.var (by kernel_rfl) (by simp) rfl fun wt hBt hgt=>?_
  replace zY:=zY.set (cc':=clQ { c with subject:=uY z.bytes } a) hBt hgt;clear hBt hgt;go_wp2_with fail
  go_roundw
  case rel=>exact⟨j+2,{ c with subject:=uY z.bytes },a,_,by have:=wT.out;omega,by have:=lQ.out;omega,by go_num,zY,⟨pK.out.issuer,(by show(uY z.bytes).size≤_;have:=EG.out.1;unfold uY;simp[ByteArray.size];omega),pK.out.since,pK.out.till,pK.out.key⟩,by rw[mP.out,bN.out]⟩
  case measure=>have:=wT.out;simp[intOf];omega
 have bh2:(k==2)=false:=by rw[beq_eq_false_iff_ne];exact h2
 have eh2:(k=2)=False:=eq_false h2
 by_cases h4:k=4
 ·subst h4;obtain⟨bt,RT⟩:∃ bt,qJ z.n=bt:=⟨_,rfl⟩
  have bN:Hid (tq c y z={ c with till:=bt }):=by
   have XK:y.n=4:=by have:=HK.out;omega
   unfold tq
   rw[XK,RT];rfl
  have Rm:Hid (0≤bt∧bt≤1099511627776):=by rw[← RT];unfold qJ;rw[Hid];omega
  clear HK;have MNX:min (z.n:Int) 1099511627776=bt:=by rw[← RT];unfold qJ;omega
  have WB:IntKind.i64.wrap bt=bt:=IntWalk.i64_in _ (by have:=Rm.out;omega);have q1:=jh2;clear hQ RT
  by_cases hbig:(1099511627776:Int)<(z.n:Int)
  ·have d1:decide ((1099511627776:Int)<(z.n:Int))=true:=decide_eq_true hbig;exact jaR
  have d1:decide ((1099511627776:Int)<(z.n:Int))=false:=decide_eq_false hbig;exact jaR
 have bh4:(k==4)=false:=by rw[beq_eq_false_iff_ne];exact h4
 have eh4:(k=4)=False:=eq_false h4
 by_cases h5:k=5
 ·subst h5;obtain⟨bt,RT⟩:∃ bt,qJ z.n=bt:=⟨_,rfl⟩
  have bN:Hid (tq c y z={ c with since:=bt }):=by
   have XK:y.n=5:=by have:=HK.out;omega
   unfold tq
   rw[XK,RT];rfl
  have Rm:Hid (0≤bt∧bt≤1099511627776):=by rw[← RT];unfold qJ;rw[Hid];omega
  clear HK;have MNX:min (z.n:Int) 1099511627776=bt:=by rw[← RT];unfold qJ;omega
  have WB:IntKind.i64.wrap bt=bt:=IntWalk.i64_in _ (by have:=Rm.out;omega);have q1:=jh2;clear hQ RT
  by_cases hbig:(1099511627776:Int)<(z.n:Int)
  ·have d1:decide ((1099511627776:Int)<(z.n:Int))=true:=decide_eq_true hbig;exact jaQ
  have d1:decide ((1099511627776:Int)<(z.n:Int))=false:=decide_eq_false hbig;exact jaQ
 have bh5:(k==5)=false:=by rw[beq_eq_false_iff_ne];exact h5
 have eh5:(k=5)=False:=eq_false h5
 by_cases h8:k=8
 ·subst h8;have XK:Hid (y.n=8):=by have:=HK.out;rw[Hid];omega
  clear HK;have q0:=hQ.cell 0 rfl;have q3:=hQ.cell 3 rfl
  by_cases XL:z.kind=5
  case neg =>
   have g5:(z.kind==5)=false:=by rw[beq_eq_false_iff_ne];exact XL
   have f5:(z.kind=5)=False:=eq_false XL
   have bN:Hid (tq c y z=c):=by
    unfold tq
    rw[XK.out];show(match z.items with | [_,b]=>if z.kind=5 then { c with key:=qQ b } else c | _=>c)=c
    split
    ·exact if_neg XL
    rfl
   clear XL;exact jbe
  have g5:(z.kind==5)=true:=by rw[beq_iff_eq];exact XL
  have f5:(z.kind=5)=True:=eq_true XL
  by_cases q9:z.items.length=2
  case neg =>
   have g2:((z.items.length:Int)==2)=false:=by rw[beq_eq_false_iff_ne];omega
   have f2:((z.items.length:Int)=2)=False:=eq_false (by omega)
   have bN:Hid (tq c y z=c):=by
    unfold tq
    rw[XK.out];show(match z.items with | [_,b]=>if z.kind=5 then { c with key:=qQ b } else c | _=>c)=c
    split
    ·rename_i hl
     rw[hl]at q9
     exact absurd rfl q9
    rfl
   clear XL q9;exact jbe
  have g2:((z.items.length:Int)==2)=true:=by rw[beq_iff_eq];omega
  have f2:((z.items.length:Int)=2)=True:=eq_true (by omega);have i2:(1:Int)<(z.items.length:Int):=by omega
  obtain⟨zb,zo,Yz,La⟩:=Hm.out.items (by omega);obtain⟨t1,t2,t3,t4,r0,r1,r2,r3,Ey⟩:=La.get 1 (by omega);subst Yz
  have bN:Hid (tq c y z={ c with key:=qQ (z.items[1]'(by omega)) }):=by
   unfold tq
   rw[XK.out];show(match z.items with | [_,b]=>if z.kind=5 then { c with key:=qQ b } else c | _=>c)=_
   split
   ·rename_i a1 b1 hl
    rw[if_pos XL]
    simp only[hl]
    rfl
   rename_i iw
   exfalso
   match NR:z.items with
   | []=>rw[NR]at q9;cases q9
   | [_]=>rw[NR]at q9;cases q9
   | [a1,b1]=>exact iw a1 b1 NR
   | _::_::_::_=>rw[NR]at q9;simp at q9
  generalize z.items[1]'(by omega)=u at *
  have r0:=zY.grows.holds.cell r0;have r1:=zY.grows.holds.cell r1;have r2:=zY.grows.holds.cell r2;have r3:=zY.grows.holds.cell r3
  simp only[Nat.one_mul]at r0 r1 r2 r3
  have B7:=Hh Ey;have FI:=Hh (fun wx hx=>fH (HT.out.mono zY.grows.le) B7.out wx hx);clear XL q9 La Ey hQ;go_wp2_with fail
  refine(FI.out _ zY.grows.holds).mono ?_
  intro e w8 h8
  obtain⟨a8,H8,cd,rfl,lW,Ui⟩:=VO zY.grows.holds h8;replace zY:=zY.grow lW;have Is:=Hh (pK.out.mono lW.le);have BJ:=Hh Ui;clear h8 lW Ui FI r0 r1 r2 r3 q0 q3
  generalize qQ u=q8 at *
  go_wp2_with (with_reducible refine zx ?_)
  refine ts rfl _ _ _ rfl rfl (w.heap.size+2) 4 (tY q8 a8) rfl rfl _ _ zY.var dr (by simp) (oT _ _ _ _ _ _ _ rfl rfl rfl rfl rfl rfl rfl) fun wt hBt hgt=>?_
  replace zY:=zY.set (cc':=clQ { c with key:=q8 } a8) hBt hgt;clear hBt hgt;go_wp2_with fail
  go_roundw
  case rel=>exact⟨j+2,{ c with key:=q8 },a8,_,by have:=wT.out;omega,by have:=lQ.out;omega,by go_num,zY,⟨Is.out.issuer,Is.out.subject,Is.out.since,Is.out.till,BJ.out⟩,by rw[mP.out,bN.out]⟩
  case measure=>have:=wT.out;simp[intOf];omega
 have bh8:(k==8)=false:=by rw[beq_eq_false_iff_ne];exact h8
 have eh8:(k=8)=False:=eq_false h8
 have bN:Hid (tq c y z=c):=by
  have n1:¬ y.n=1:=by have:=HK.out;omega
  have n2:¬ y.n=2:=by have:=HK.out;omega
  have n4:¬ y.n=4:=by have:=HK.out;omega
  have n5:¬ y.n=5:=by have:=HK.out;omega
  have n8:¬ y.n=8:=by have:=HK.out;omega
  rw[Hid,tq,if_neg n1,if_neg n2,if_neg n4,if_neg n5,if_neg n8]
 clear HK hQ h1 h2 h4 h5 h8;exact jbe
theorem mV {l:List UInt8}{y:Itm}(h:xh l=.ok y):zR y=true:=by
 unfold xh at h
 split at h
 ·cases h
 split at h
 ·cases h
 rename_i x k c hp
 split at h
 ·cases h
 injection h with h
 subst h;obtain⟨h1,h2,h3,h4,h5,h6,h7⟩:=Zf hp
 exact(wj _).2 ⟨h5,h7,by rw[h4,List.length_take];omega⟩
theorem sQ {l:List UInt8}{q:Nat}(h:xh l=.error q):q≠0:=by
 unfold xh at h
 split at h
 ·injection h with h;omega
 split at h
 ·rename_i e hp
  injection h with h
  subst h
  exact yZ _ _ _ _ hp
 exact jdt
def um (l:List UInt8):Except Nat Cl:=match xh l with
 | .error q=>.error q
 | .ok x=>match yE x with
  | none=>.error 4
  | some c=>.ok c
theorem np {l:List UInt8}{q:Nat}(h:um l=.error q):q≠0:=by
 unfold um at h
 split at h
 ·rename_i q' hq
  injection h with h
  subst h
  exact sQ hq
 exact jdt
def iC (w:World) (H:Snap) (l:List UInt8) (e:Ending) (w':World):Prop :=
 (∃ q:Nat,um l=.error q∧e=.returned (.tuple #[.agg xz,.int .i64 (q:Int)])∧Below w.heap.size w w')∨
 (∃ c a H',um l=.ok c∧e=.returned (.tuple #[.agg (clQ c a),.int .i64 0])∧Grows w H w' H'∧ClA H' c a)
theorem cE {H:Snap}(hTab:Tabs H) (w:World) (hH:Holds w H) {A:Option Addr}{n c:Nat}{l:List UInt8}(hn:n=l.length) (hl:IsBytes H A c l) :
  Calls Tryz.prog 46 #[.slice A n c] w (iC w H l):=by
 have hR:=Blk.new w 63 xz;have Un:H w.heap.size=none:=hH.none_of_ge (Nat.le_refl _);have hG:=(Grows.refl hH).alloc (.cells xz 63);have DC:=Hh (YD hTab _ hG.holds hn hl);have HT:=Hh hTab;clear hn hl hTab hH;go_enter Tryz.func46,Tryz.ntmps46
 go_wp2_with fail
 refine DC.out.mono ?_
 intro e w2 hs
 clear DC
 unfold vZ at hs
 cases hd:xh l with
 | error q =>
  exact jaL
 | ok x =>
 rw[hd]at hs;obtain⟨ja,jb,jc,jd,H2,rfl,zM,rV⟩:=hs;have RL:=Hh (mV hd);have HD:Hid (∀ z,yE x=z→um l=match z with | none=>.error 4 | some c=>.ok c):=by rintro z rfl;rw[um,hd]
 replace hR:=(hR.below zM.below).alloc (zU x ja jb jc jd);have YX:=zM.none Un (by simp);replace hG:=(hG.trans zM).alloc (zU x ja jb jc jd);have I0:=Hh hR.lt;have FR:=Hh (cG (HT.out.mono hG.le) RL.out rV _ hG.holds);exact jav
def WT (w:World) (c:Cl) (e:Ending) (w':World):Prop:=∃ r l cd,e=.returned (.tuple #[r,.int .i64 cd])∧Fresh w l r w'∧l=(if zE c=true then zf (xP c) else [])∧cd=if zE c=true then 0 else 1
theorem cF {H:Snap}(hTab:Tabs H) {c:Cl}{a:KAd}(hc:ClA H c a) (w:World) (hH:Holds w H) :
  Calls Tryz.prog 33 #[.agg (clQ c a)] w (WT w c):=by
 have hB:=Blk.new w 63 (clQ c a);have hG:=(Grows.refl hH).alloc (.cells (clQ c a) 63);have HT:=Hh hTab;have HC:=Hh hc;have VC:=Hh (jI hTab hc _ hG.holds);have b0:=hB.cell 0 rfl;have b1:=hB.cell 1 rfl;have b2:=hB.cell 2 rfl;have b3:=hB.cell 3 rfl;have b4:=hB.cell 4 rfl;have b5:=hB.cell 5 rfl;have b6:=hB.cell 6 rfl;have b7:=hB.cell 7 rfl;have b8:=hB.cell 8 rfl;have b9:=hB.cell 9 rfl;have b10:=hB.cell 10 rfl;clear hTab hc hH;go_enter Tryz.func33,Tryz.ntmps33
 go_wp2_with fail
 refine VC.out.mono ?_
 rintro e w2 ⟨rfl,zC⟩
 replace hB:=hB.below zC;replace hG:=hG.below_ zC;clear VC zC b0 b1 b2 b3 b4 b5 b6 b7 b8 b9 b10
 cases hv:zE c with
 | false =>
  clear hB;have HV:=Hh hv;clear hv;go_wp2_with fail
  go_ret2
  exact⟨_,[],1,rfl,⟨OwnB.nil _ _,hG.below⟩,by rw[if_neg (by rw[HV.out];simp)],by rw[if_neg (by rw[HV.out];simp)]⟩
 | true =>
 have HV:=Hh hv;clear hv;have b0:=hB.cell 0 rfl;have b1:=hB.cell 1 rfl;have b2:=hB.cell 2 rfl;have b3:=hB.cell 3 rfl;have b4:=hB.cell 4 rfl;have b5:=hB.cell 5 rfl;have b6:=hB.cell 6 rfl;have b7:=hB.cell 7 rfl;have b8:=hB.cell 8 rfl;have b9:=hB.cell 9 rfl;have b10:=hB.cell 10 rfl;clear hB;go_wp2_with fail
 refine(ff (HT.out.mono hG.le) (HC.out.mono hG.le) HV.out _ hG.holds).mono ?_
 rintro e w3 ⟨v3,rfl,xa,xb,xc,xd,H3,rfl,yY,UT⟩
 replace hG:=hG.trans yY;clear yY b0 b1 b2 b3 b4 b5 b6 b7 b8 b9 b10;obtain⟨y,hy⟩:∃ y,y=xP c:=⟨_,rfl⟩
 rw[← hy]at UT⊢;have HY:=Hh hy;clear hy;have EN:=Hh (YE (HT.out.mono hG.le) UT.arg _ hG.holds);clear UT;go_wp2_with fail
 refine EN.out.mono ?_
 rintro e w4 (⟨iw,_,_⟩ | ⟨_,r,rfl,hf⟩)
 ·rw[HY.out,vj HV.out]at iw
  cases iw
 have hb:=hG.below;go_wp2_with fail
 go_ret2
 exact⟨r,zf y,0,rfl,⟨hf.own.more hb.size,hb.trans (hf.2.mono hb.size)⟩,by rw[if_pos HV.out,HY.out],by rw[if_pos HV.out]⟩
def qK (l:List UInt8):Bool:=match um l with
 | .ok c=>decide (c.key.crv=6)
 | .error _=>false
theorem SN {w w':World}{H:Snap}{l:List UInt8}{e:Ending}(h:iC w H l e w'):∃ (c:Cl) (a:KAd) (q:Int),e=.returned (.tuple #[.agg (clQ c a),.int .i64 q])∧Below w.heap.size w w'∧qK l=(decide (q=0)&&decide (c.key.crv=6)):=by
 rcases h with ⟨q,hq,rfl,hb⟩ | ⟨c,a,H',hq,rfl,hG,_⟩
 ·refine⟨mN,⟨none,0,none,0,none,0,none,0⟩,q,rfl,hb, ?_⟩
  exact jdU
 refine⟨c,a,0,rfl,hG.below, ?_⟩
 unfold qK
 rw[hq];rfl
def xX (m:Mb):Bool:=decide (1≤m.name.size)&&decide (m.name.size≤32)&&Lib.validD m.name.data.toList&&decide (1≤m.roles)&&decide (m.roles≤7)&&qK m.cred&&decide (m.share.length=32)
theorem Zm {H:Snap}(hTab:Tabs H) {m:Mb}{a:MAd}(hm:MemA H m a) (w:World) (hH:Holds w H) :
  Calls Tryz.prog 32 #[.agg (y7 m a)] w fun e w'=>e=.returned (.bool (xX m))∧Below w.heap.size w w':=by
 obtain⟨ln,Pu⟩:∃ n,n=m.name.size:=⟨_,rfl⟩
 obtain⟨ls,ZC⟩:∃ n,n=m.sender.length:=⟨_,rfl⟩
 obtain⟨lc,eC⟩:∃ n,n=m.cred.length:=⟨_,rfl⟩
 obtain⟨lh,be⟩:∃ n,n=m.share.length:=⟨_,rfl⟩
 obtain⟨lw,eD⟩:∃ n,n=m.wrap.length:=⟨_,rfl⟩
 have PC:((m.name.size:Nat):Int)=(ln:Int):=by rw[Pu]
 have Lm:Hid (ln≤1099511627):=by rw[Pu];exact hm.name
 have HT:=Hh hTab;have HH:=Hh hH;obtain⟨hB,hb⟩:=jgJ;have DC:=Hh (cE hTab _ (hH.below hb (Nat.le_refl _)) eC hm.cred);have VS:=Hh (fun w hH=>utf8_ValidString hTab w hH m.name (by have:=hm.name;omega));obtain⟨cp,mw⟩:∃ b,b=qK m.cred:=⟨_,rfl⟩
 obtain⟨vb,PJ⟩:∃ b,b=Lib.validD m.name.data.toList:=⟨_,rfl⟩
 have ES:Hid (xX m=(decide (1≤ln)&&decide (ln≤32)&&vb&&decide (1≤m.roles)&&decide (m.roles≤7)&&cp&&decide (lh=32))):=by rw[Hid,xX,← Pu,← mw,← PJ,← be]
 rw[← PJ]at VS;have R7:=Hh mw;show Calls Tryz.prog 32 #[.agg (yW m.name m.roles m.since a.sa m.sender.length a.sc a.ca m.cred.length a.cc a.ha m.share.length a.hc a.wa m.wrap.length a.wc)] w _
 rw[← ZC,← eC,← be,← eD];have b3:=hB.cell 3 rfl;clear Pu ZC eC be eD mw PJ hm hTab hH;go_enter Tryz.func32,Tryz.ntmps32
 go_wp2_with fail
 refine DC.out.mono ?_
 intro e w2 h2
 obtain⟨c5,a5,q,rfl,zC,Ua⟩:=SN h2;rw[← R7.out]at Ua;have R8:=Hh Ua;clear h2 Ua DC R7;replace hB:=(hB.below zC).alloc (.cells (clQ c5 a5) 63);have hQ:=Blk.new w2 63 (clQ c5 a5);replace hb:=hb.trans (zC.mono hb.size);replace hb:=hb.alloc hb.size (.cells (clQ c5 a5) 63);obtain⟨Q,qg⟩:∃ Q,w2.heap.size=Q:=⟨_,rfl⟩
 obtain⟨w3,eF⟩:∃ w3,w2.alloc (.cells (clQ c5 a5) 63)=w3:=⟨_,rfl⟩
 rw[qg,eF]at hQ;rw[eF]at hB hb;have HW:=Hh (And.intro qg eF);clear qg eF zC b3;go_upto_region 2 with fail
 try rw[HW.out.1]
 try rw[HW.out.2]
 clear HW;have n0:=hB.cell 0 rfl;have n2:=hB.cell 2 rfl;have n4:=hB.cell 4 rfl;have v5:w3.cell? ⟨Q,5,none⟩=some (.int .i64 c5.key.crv):=hQ.cell 5 rfl;obtain⟨crv,U4⟩:∃ z,c5.key.crv=z:=⟨_,rfl⟩
 simp only[U4]at v5 R8
 clear U4 hQ
 by_cases h1:(1:Int)≤(ln:Int)
 case neg =>
  have E:Hid (xX m=false):=by rw[Hid,ES.out,decide_eq_false (show ¬ 1≤ln by omega)];simp
  have EI:decide ((1:Int)≤(ln:Int))=false:=decide_eq_false h1;exact jej
 have EI:decide ((1:Int)≤(ln:Int))=true:=decide_eq_true h1
 by_cases h2:(ln:Int)≤32
 case neg =>
  have E:Hid (xX m=false):=by rw[Hid,ES.out,decide_eq_false (show ¬ ln≤32 by omega)];simp
  have EJ:decide ((ln:Int)≤32)=false:=decide_eq_false h2;exact jej
 have EJ:decide ((ln:Int)≤32)=true:=decide_eq_true h2;have W9:Hid (decide (1≤ln)=true∧decide (ln≤32)=true):=⟨decide_eq_true (by omega),decide_eq_true (by omega)⟩
 go_wp2_with fail
 refine(VS.out _ (HH.out.below hb (Nat.le_refl _))).mono ?_
 rintro e w4 ⟨rfl,pd⟩
 replace hB:=hB.below pd;have Q1:=v5;replace v5:=zA v5 pd;replace hb:=hb.trans (pd.mono hb.size);clear pd Q1 n0 n2 n4 h1 EI h2 EJ;have n2:=hB.cell 2 rfl;have n4:=hB.cell 4 rfl
 cases vb with
 | false =>
  exact jfw
 | true =>
 by_cases h3:1≤m.roles
 case neg =>
  have E:Hid (xX m=false):=by rw[Hid,ES.out,decide_eq_false h3];simp
  have EM:decide (1≤m.roles)=false:=decide_eq_false h3;exact jej
 have EM:decide (1≤m.roles)=true:=decide_eq_true h3
 by_cases h4:m.roles≤7
 case neg =>
  have E:Hid (xX m=false):=by rw[Hid,ES.out,decide_eq_false h4];simp
  have ER:decide (m.roles≤7)=false:=decide_eq_false h4;exact jej
 have ER:decide (m.roles≤7)=true:=decide_eq_true h4
 by_cases h5:q=0
 case neg =>
  have E:Hid (xX m=false):=by rw[Hid,ES.out,R8.out,decide_eq_false h5];simp
  have CB:(q=0)=False:=eq_false h5;have CC:(q==0)=false:=by rw[beq_eq_false_iff_ne];exact h5
  exact jej
 have CB:(q=0)=True:=eq_true h5;have CC:(q==0)=true:=by rw[beq_iff_eq];exact h5
 by_cases h6:crv=6
 case neg =>
  have E:Hid (xX m=false):=by rw[Hid,ES.out,R8.out,decide_eq_false h6];simp
  have CF:(crv=6)=False:=eq_false h6;have CG:(crv==6)=false:=by rw[beq_eq_false_iff_ne];exact h6
  exact jej
 have CF:(crv=6)=True:=eq_true h6;have CG:(crv==6)=true:=by rw[beq_iff_eq];exact h6
 by_cases h7:(lh:Int)=32
 case neg =>
  have E:Hid (xX m=false):=by rw[Hid,ES.out,decide_eq_false (show ¬ lh=32 by omega)];simp
  have CI:((lh:Int)=32)=False:=eq_false h7;have CJ:((lh:Int)==32)=false:=by rw[beq_eq_false_iff_ne];exact h7
  exact jej
 have CI:((lh:Int)=32)=True:=eq_true h7;have CJ:((lh:Int)==32)=true:=by rw[beq_iff_eq];exact h7
 have E:Hid (xX m=true):=by rw[Hid,ES.out,R8.out,W9.out.1,W9.out.2,EM,ER,decide_eq_true h5,decide_eq_true h6,decide_eq_true (show lh=32 by omega)];rfl
 exact jej
theorem dT {H:Snap}(hTab:Tabs H) (s:ByteArray) (hs:s.size≤9223372036854775807) (w:World) (hH:Holds w H) :
  Calls Tryz.prog 89 #[.string s] w fun e w'=>e=.returned (.bool (wZ s))∧Below w.heap.size w w':=by
 obtain⟨n,hn⟩:∃ n,s.size=n:=⟨_,rfl⟩
 have PC:((s.size:Nat):Int)=(n:Int):=by rw[hn]
 by_cases h:n≤64
 ·have VS:=Hh (utf8_ValidString hTab w hH s (by omega));have E:Hid (wZ s=Lib.validD s.data.toList):=by rw[Hid,wZ,hn,decide_eq_true h,Bool.true_and]
  obtain⟨q,hq⟩:∃ q,Lib.validD s.data.toList=q:=⟨_,rfl⟩
  rw[hq]at E VS;have hi:(n:Int)≤64:=by omega
  clear hq hn hTab hH hs h;go_enter Tryz.func89,Tryz.ntmps89
  exact jcK
 have E:Hid (wZ s=false):=by rw[Hid,wZ,hn,decide_eq_false h,Bool.false_and]
 have hi:¬ (n:Int)≤64:=by omega
 clear hn hTab hH hs h;go_enter Tryz.func89,Tryz.ntmps89
 exact jdR
theorem XZ {H:Snap}(hTab:Tabs H) {c:Cl}{a:KAd}(hc:ClA H c a) (w:World) (hH:Holds w H) :
  Calls Tryz.prog 69 #[.agg (clQ c a)] w fun e w'=>e=.returned (.bool (zE c))∧Below w.heap.size w w':=by
 obtain⟨nx,Rg⟩:∃ n,n=c.key.x.length:=⟨_,rfl⟩
 obtain⟨nd,Px⟩:∃ n,n=c.key.d.length:=⟨_,rfl⟩
 have HN:=Hh (And.intro Rg Px);have HC:=Hh hc;have N1:=Hh (fun w hH=>dT hTab c.issuer hc.issuer w hH);have N2:=Hh (fun w hH=>dT hTab c.subject hc.subject w hH);have V:Hid (∀ W,Calls Tryz.prog 90 #[.agg (uO c.key.kty c.key.crv c.key.alg a.ia c.key.kid.length a.ic a.xa c.key.x.length a.xc a.da c.key.d.length a.dc a.ka c.key.k.length a.kc)] W fun e w'=>e=.returned (.bool (xY c.key))∧Below W.heap.size W w'):=fun W=>fY c.key.kty c.key.crv c.key.alg a.ia c.key.kid.length a.ic a.xa c.key.x.length a.xc a.da c.key.d.length a.dc a.ka c.key.k.length a.kc W hc.key.len.1 hc.key.len.2
 show Calls Tryz.prog 69 #[.agg (clC c.issuer c.subject c.since c.till c.key.kty c.key.crv c.key.alg a.ia c.key.kid.length a.ic a.xa c.key.x.length a.xc a.da c.key.d.length a.dc a.ka c.key.k.length a.kc)] w _
 rw[← Rg,← Px]at V⊢;obtain⟨ni,MS⟩:∃ n,c.key.kid.length=n:=⟨_,rfl⟩
 obtain⟨nk,MT⟩:∃ n,c.key.k.length=n:=⟨_,rfl⟩
 rw[MS,MT]at V⊢;obtain⟨hB,hb,HH,oP⟩:=jgi;have Hj:=Hh (vT c);have c0:=jf8;clear Rg Px MS MT hTab hc hH;go_enter Tryz.func69,Tryz.ntmps69
 go_wp2_with fail
 refine(N1.out _ (HH.out.below hb (Nat.le_refl _))).mono ?_
 rintro e w2 ⟨rfl,zC⟩
 replace hB:=hB.below zC;replace hb:=hb.trans (zC.mono hb.size);clear zC c0 N1
 cases h1:wZ c.issuer with
 | false =>
  exact jeK
 | true =>
 have H1:=Hh h1;clear h1;have c1:=jgG;go_wp2_with fail
 refine(N2.out _ (HH.out.below hb (Nat.le_refl _))).mono ?_
 rintro e w3 ⟨rfl,xy⟩
 replace hB:=hB.below xy;replace hb:=hb.trans (xy.mono hb.size);clear xy c1 N2
 cases h2:wZ c.subject with
 | false =>
  exact jeJ
 | true =>
 have H2:=Hh h2;clear h2;obtain⟨c1,c2,c3⟩:=jgd
 by_cases hs:c.subject=⟨#[]⟩
 ·exact jfh
 have s2:c.subject.toList.isEmpty=false:=by cases h:c.subject.toList.isEmpty with | false=>rfl | true=>exact absurd ((t8 _).1 h) hs
 have HS:=Hh hs;clear hs
 by_cases f0:c.since<0
 ·exact jfr
 by_cases f1:1073741824<c.since
 ·exact jfq
 by_cases u0:c.till<0
 ·exact jfp
 by_cases u1:1073741824<c.till
 ·exact jfo
 have HF:=Hh (And.intro f0 (And.intro f1 (And.intro u0 u1)))
 by_cases hfu:0<c.till∧c.till<c.since
 ·have E:Hid (zE c=false):=oP.out (fun h=>h.2.2.2.2.2.2.2.1 hfu);obtain⟨g0,g1⟩:=hfu;have t1:(c.till=0)=False:=eq_false (by omega);have t2:(c.till==0)=false:=by simpa using (show ¬ c.till=0 by omega)
  have t3:(c.till != 0)=true:=by rw[bne_iff_ne];omega
  exact jej
 have RD:=Hh hfu;have c4:=hB.cell 4 rfl;have c5:=hB.cell 5 rfl;have c6:=hB.cell 6 rfl;have c7:=hB.cell 7 rfl;have c8:=hB.cell 8 rfl;have c9:=hB.cell 9 rfl;have c10:=hB.cell 10 rfl;have fin:∀ (w':World),True:=fun _=>trivial
 have go2:Hid (zE c=(xY c.key&&decide (c.key.kty=1)&&decide (0<nx)&&decide (nd=0))):=by
  exact jbj
 by_cases g0:0<c.till
 ·have g1:¬ c.till<c.since:=fun h=>hfu ⟨g0,h⟩
  have t1:(c.till=0)=False:=eq_false (by omega);have t2:(c.till==0)=false:=by simpa using (show ¬ c.till=0 by omega)
  have t3:(c.till != 0)=true:=by rw[bne_iff_ne];omega
  clear hfu fin;exact jae
 have t0:c.till=0:=by omega
 have t1:(c.till=0)=True:=eq_true t0;have t2:(c.till==0)=true:=by simpa using t0
 have t3:(c.till != 0)=false:=by simpa using t0
 clear hfu fin t0;exact jae
theorem uA:∀ {a:List Itm}(b:List Itm),a.length%2=0→pk (a++b)=pk a++pk b
 | [],b,_=>by simp[pk]
 | [_],b,h=>by simp at h
 | x::y::a,b,h=>by
  rw[List.cons_append,List.cons_append,pk,pk,uA b (by simp only[List.length_cons]at h;omega),List.cons_append]
def mj (c:Cl):List Itm:=[zr 2,xq c.subject,zr 8,vu c.key]++xQ c.issuer++yy 4 c.till++yy 5 c.since
theorem df (s:ByteArray):(xQ s).length%2=0:=by unfold xQ;split <;> simp
theorem mE (k n:Int):(yy k n).length%2=0:=by unfold yy;split <;> simp
theorem js (c:Cl):(mj c).length=(yR c).length:=by
 unfold mj yR
 simp only[List.length_append,List.length_cons,List.length_nil]
 omega
theorem Y8 (c:Cl):(pk (yR c)).Perm (pk (mj c)):=by
 have e1:pk (yR c)=pk (xQ c.issuer)++(pk [zr 2,xq c.subject]++(pk (yy 4 c.till)++(pk (yy 5 c.since)++pk [zr 8,vu c.key]))):=by
  unfold yR
  simp only[List.append_assoc]
  rw[uA _ (df _),uA _ (by simp),uA _ (mE _ _),uA _ (mE _ _)]
 have e2:pk (mj c)=pk [zr 2,xq c.subject]++(pk [zr 8,vu c.key]++(pk (xQ c.issuer)++(pk (yy 4 c.till)++pk (yy 5 c.since)))):=by
  unfold mj
  rw[show [zr 2,xq c.subject,zr 8,vu c.key]=[zr 2,xq c.subject]++[zr 8,vu c.key] from rfl]
  simp only[List.append_assoc]
  rw[uA _ (by simp),uA _ (by simp),uA _ (df _),uA _ (mE _ _)]
 rw[e1,e2]
 generalize pk (xQ c.issuer)=a
 generalize pk [zr 2,xq c.subject]=b
 generalize pk (yy 4 c.till)=d
 generalize pk (yy 5 c.since)=e
 generalize pk [zr 8,vu c.key]=f
 have h1:(a++(b++(d++(e++f)))).Perm (b++(a++(d++(e++f)))):=by
  have h:=List.Perm.append_right (d++(e++f)) (List.perm_append_comm (l₁:=a) (l₂:=b))
  simpa only [List.append_assoc] using h
 refine h1.trans (List.Perm.append_left _ ?_)
 have h2:(a++(d++(e++f)))=(a++(d++e))++f:=by simp only[List.append_assoc]
 rw[h2]
 exact List.perm_append_comm
def sF (x:Itm) (n:Int):Itm:=(vt x (zr n)).getD zQ
def mO (x:Itm) (n:Int):Int:=((min (sF x n).n 1073741825:Nat):Int)
def d9 (x:Itm):Bool:=zR x&&xY (vU yP x.items)&&tC (vW (vU yP x.items)) x
theorem gC (x:Itm):d9 x=true↔zR x=true∧∃ q,sS x q:=by
 unfold d9
 rw[Bool.and_eq_true,Bool.and_eq_true]
 refine⟨fun h=>⟨h.1.1,_,h.1.2,(vI _ _).1 h.2⟩,fun⟨h1,q,h2⟩=>?_⟩
 have e:=oo h2;rw[e]
 exact⟨⟨h1,h2.1⟩,(vI _ _).2 h2.2⟩
def oZ (x v:Itm):Cl:=⟨uY (sF x 1).bytes,uY (sF x 2).bytes,mO x 5,mO x 4,qQ v⟩
def pr (x:Itm):Option Cl:=match vt (sF x 8) (zr 1) with
 | none=>none
 | some v=>if d9 v=true then(if(zE (oZ x v)&&tC (xP (oZ x v)) x)=true then some (oZ x v) else none) else none
theorem Y0:zf (zr 1)≠zf (zr 2)∧zf (zr 1)≠zf (zr 4)∧zf (zr 1)≠zf (zr 5)∧zf (zr 1)≠zf (zr 8)∧zf (zr 2)≠zf (zr 4)∧zf (zr 2)≠zf (zr 5)∧zf (zr 2)≠zf (zr 8)∧
  zf (zr 4)≠zf (zr 5)∧zf (zr 4)≠zf (zr 8)∧zf (zr 5)≠zf (zr 8):=by
 rw[xG,xG,xG,xG,xG];decide +kernel
theorem jO (n:Int):zR (zr n)=true:=(wj _).mpr ⟨tx n 0,by rw[(wl n).1];omega,by have:=(wl n).2;omega⟩
theorem ql {c:Cl}(h:zE c=true) (n:Int):vt (xP c) (zr n)=qL (zf (zr n)) (yR c):=by
 rw[vt,if_pos ⟨rfl,vj h,jO n⟩];rfl
theorem Jn {c:Cl}(h:zE c=true):sF (xP c) 1=(if c.issuer=⟨#[]⟩ then zQ else xq c.issuer)∧sF (xP c) 2=xq c.subject∧sF (xP c) 4=(if 0<c.till then zr c.till else zQ)∧
  sF (xP c) 5=(if 0<c.since then zr c.since else zQ)∧sF (xP c) 8=vu c.key:=by
 obtain⟨Yo,J2,J3,J4,tZ,Yp,Ms,J5,J6,J7⟩:=Y0
 unfold sF
 rw[ql h,ql h,ql h,ql h,ql h]
 unfold yR xQ yy
 repeat' split
 all_goals simp[qL,Yo,J2,J3,J4,tZ,Yp,Ms,J5,J6,J7,Yo.symm,J2.symm,J3.symm,J4.symm,tZ.symm,Yp.symm,Ms.symm,J5.symm,J6.symm,J7.symm]
theorem aa {n:Int}(h0:0≤n) (h:n≤1073741824):((min (if 0<n then zr n else zQ).n 1073741825:Nat):Int)=n:=by
 split
 ·rw[zr,if_neg (by omega)];show((min n.toNat 1073741825:Nat):Int)=n
  omega
 show((min 0 1073741825:Nat):Int)=n
 omega
theorem Zh {x:Itm}{c:Cl}(h:pr x=some c):zE c=true∧xP c=x:=by
 unfold pr at h
 split at h
 ·cases h
 split at h
 ·split at h
  ·rename_i hc
   injection h with h
   subst h;rw[Bool.and_eq_true]at hc
   exact⟨hc.1,(vI _ _).1 hc.2⟩
  cases h
 cases h
theorem nO (x:Itm):pr x=yE x:=by
 have hb:∀ c,zE c=true→pr (xP c)=some c:=by
  intro c hc
  obtain⟨f1,f2,f4,f5,f8⟩:=Jn hc;have hv:=(vT c).1 hc;have Jj:=hv.2.2.2.2.2.2.2.2.1;have NC:zR (vu c.key)=true:=(gM hc).2.2.1 _ (by unfold yR;simp)
  have e1:vt (sF (xP c) 8) (zr 1)=some (vW c.key):=by
   rw[f8,vt,if_pos ⟨rfl,NC,jO 1⟩];show qL (zf (zr 1)) [zr 1,vW c.key]=_
   rw[qL,if_pos rfl]
  have ek:qQ (vW c.key)=c.key:=ko (vB Jj) ⟨Jj,rfl⟩
  have er:oZ (xP c) (vW c.key)=c:=by
   unfold oZ mO
   rw[f1,f2,f4,f5,ek,aa hv.2.2.2.1 hv.2.2.2.2.1,aa hv.2.2.2.2.2.1 hv.2.2.2.2.2.2.1]
   have ei:uY (if c.issuer=⟨#[]⟩ then zQ else xq c.issuer).bytes=c.issuer:=by
    split
    ·rename_i h
     rw[h];rfl
    exact rN _
   rw[ei,show uY (xq c.subject).bytes=c.subject from rN _]
  unfold pr
  rw[e1]
  simp only
  rw[if_pos ((gC _).2 ⟨vB Jj,c.key,Jj,rfl⟩),er,if_pos (by rw[hc,(vI (xP c) (xP c)).2 rfl];rfl)]
 cases h:yE x with
 | some c =>
  obtain⟨h1,h2⟩:=od h;rw[← h2]
  exact hb c h1
 | none =>
 cases h':pr x with
 | none=>rfl
 | some c =>
 have:=(j8 x c).2 (Zh h');rw[h]at this
 cases this
end Go.Proofs.YtgaoknihklmakabGreatDoor
