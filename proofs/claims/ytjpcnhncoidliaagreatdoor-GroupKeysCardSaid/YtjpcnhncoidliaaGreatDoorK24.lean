/- squeezed. Walks: the claims of an item, by t -/
import Derived.Test.YtjpcnhncoidliaaGreatDoorK23
set_option linter.unusedVariables false
set_option linter.unusedSimpArgs false
set_option maxRecDepth 100000
set_option maxHeartbeats 51200000
namespace Go.Proofs.YtjpcnhncoidliaaGreatDoor
open Go.RowKit
abbrev uS:Array Value:=#[.string ⟨#[]⟩,.string ⟨#[]⟩,.int .i64 0,.int .i64 0,.int .i64 0,.int .i64 0,.int .i64 0,.slice none 0 0,.slice none 0 0,.slice none 0 0,.slice none 0 0]
theorem yC:(Tryz.prog.info? 90).map (·.size)=some 11:=by kernel_rfl
theorem Wo:(Tryz.prog.info? 88).map (·.size)=some 7:=by kernel_rfl
theorem jQ (a b c d e f g h i j k:Value) (ha:a.oneCell'=true) (hb:b.oneCell'=true) (hc:c.oneCell'=true) (hd:d.oneCell'=true) (he:e.oneCell'=true) (hf:f.oneCell'=true) (hg:g.oneCell'=true) (hh:h.oneCell'=true) (hi:i.oneCell'=true) (hj:j.oneCell'=true) (hk:k.oneCell'=true) :
  (#[a,b,c,d,e,f,g,h,i,j,k]:Array Value).all (·.oneCell')=true:=by simp[ha,hb,hc,hd,he,hf,hg,hh,hi,hj,hk]
theorem OQ (H:Snap):ClA H kA ⟨none,0,none,0,none,0,none,0⟩ :=
 ⟨by show(0:Nat)≤_;omega,by show(0:Nat)≤_;omega,by show(-9223372036854775808:Int)≤0∧(0:Int)≤9223372036854775807;omega,by show(-9223372036854775808:Int)≤0∧(0:Int)≤9223372036854775807;omega,⟨by simp[kA,vK],by simp[kA,vK],by simp[kA,vK],IsBytes.nil _,IsBytes.nil _,IsBytes.nil _,IsBytes.nil _⟩⟩
structure CS (W0:World) (H:Snap) (xc cc:Array Value) (w:World) (Hr:Snap):Prop where
 grows:Grows W0 H w Hr
 box:Blk w W0.heap.size 78 xc
 res:Blk w (W0.heap.size+1) 90 uS
 var:Blk w (W0.heap.size+2) 90 cc
 hR:Hr (W0.heap.size+1)=none
 hV:Hr (W0.heap.size+2)=none
structure NB (W0:World) (Hr:Snap) (w:World) (g:Nat) (cells:Array Value):Prop where
 blk:Blk w g 78 cells
 none:Hr g=none
 far:W0.heap.size+3≤g
section
variable {W0 w w':World} {H Hr Hs:Snap} {xc cc cc' c c':Array Value} {g g':Nat}
theorem CS.grow (h:CS W0 H xc cc w Hr) (k:Grows w Hr w' Hs):CS W0 H xc cc w' Hs :=
 ⟨h.grows.trans k,h.box.below k.below,h.res.below k.below,h.var.below k.below,k.none h.hR h.res.lt,k.none h.hV h.var.lt⟩
theorem CS.below (h:CS W0 H xc cc w Hr) (k:Below w.heap.size w w'):CS W0 H xc cc w' Hr:=h.grow (Grows.of_below h.grows.holds k)
theorem CS.alloc (h:CS W0 H xc cc w Hr) (o:Obj):CS W0 H xc cc (w.alloc o) Hr:=h.below (zl w o)
theorem CS.drew (h:CS W0 H xc cc w Hr):CS W0 H xc cc w.drew Hr:=h.below (Below.refl _ _).drew
theorem CS.set (h:CS W0 H xc cc w Hr) (hB:Blk w' (W0.heap.size+2) 90 cc') (hg:w.grownBy w' (some (W0.heap.size+2))):CS W0 H xc cc' w' Hr :=
 ⟨h.grows.grownOwn h.hV (by omega) hg,h.box.gr hg (by omega),h.res.gr hg (by omega),hB,h.hR,h.hV⟩
theorem CS.put (h:CS W0 H xc cc w Hr) (n:NB W0 Hr w g c) (hg:w.grownBy w' (some g)):CS W0 H xc cc w' Hr :=
 ⟨h.grows.grownOwn n.none (by have:=n.far;omega) hg,h.box.grown hg (by intro e;injection e with e;have:=n.far;omega),h.res.grown hg (by intro e;injection e with e;have:=n.far;omega),h.var.grown hg (by intro e;injection e with e;have:=n.far;omega),h.hR,h.hV⟩
theorem CS.newI (h:CS W0 H xc cc w Hr):NB W0 Hr (w.alloc (.cells tE 78)) w.heap.size tE :=
 ⟨Blk.new _ _ _,h.grows.holds.none_of_ge (Nat.le_refl _),by have:=h.var.lt;omega⟩
theorem NB.alloc (n:NB W0 Hr w g c) (o:Obj):NB W0 Hr (w.alloc o) g c:=⟨n.blk.alloc o,n.none,n.far⟩
theorem NB.ne_new (n:NB W0 Hr w g c):w.heap.size≠g:=by have:=n.blk.lt;omega
theorem NB.put (n:NB W0 Hr w g c) (hB:Blk w' g 78 c'):NB W0 Hr w' g c':=⟨hB,n.none,n.far⟩
theorem NB.kept (n:NB W0 Hr w g c) (hg:w.grownBy w' (some g')) (xq:g'≠g):NB W0 Hr w' g c:=⟨n.blk.grown hg (by intro e;injection e with e;exact xq e),n.none,n.far⟩
end
def Vc (w:World) (H:Snap) (x:Itm) (e:Ending) (w':World):Prop :=
 (tu x=none∧e=.returned (.tuple #[.agg uS,.bool false])∧Below w.heap.size w w')∨
 (∃ c a H',tu x=some c∧e=.returned (.tuple #[.agg (clQ c a),.bool true])∧Grows w H w' H'∧ClA H' c a)
theorem Y7 {x:Itm}(h:¬ x.kind=5):tu x=none:=if_neg h
theorem em {x:Itm}(h:pz kA x.items=none):tu x=none:=by
 unfold tu
 rw[h]
 split <;> rfl
theorem Zm {x:Itm}{c:Cl}(h5:x.kind=5) (h:pz kA x.items=some c):tu x=if xE c&&sR (pO c) x then some c else none:=by
 unfold tu
 rw[h,if_pos h5]
theorem Vx {w w':World}{H:Snap}{x:Itm}{e:Ending}(hH:Holds w H) (h:XT w H x e w'):∃ a H' cd,e=.returned (.tuple #[.agg (mu (oW x) a),.int .i64 cd])∧Grows w H w' H'∧KeyA H' (oW x) a:=by
 have nilA:KeyA H vK ⟨none,0,none,0,none,0,none,0⟩:=⟨by simp[vK],by simp[vK],by simp[vK],IsBytes.nil _,IsBytes.nil _,IsBytes.nil _,IsBytes.nil _⟩
 rcases h with ⟨h1,rfl,hb⟩ | ⟨h1,h2,rfl,hb⟩ | ⟨q,a,H',h1,h2,rfl,hG,hk⟩
 ·rw[ar (fun h=>by rw[h1]at h;exact absurd h.1 (by decide))]
  exact⟨⟨none,0,none,0,none,0,none,0⟩,H,1,rfl,Grows.of_below hH hb,nilA⟩
 ·rw[ar (fun h=>h2 h.2)]
  exact⟨⟨none,0,none,0,none,0,none,0⟩,H,12,rfl,Grows.of_below hH hb,nilA⟩
 rw[TK h1 h2]
 exact⟨a,H',0,rfl,hG,hk⟩
theorem cg {H:Snap}(hTab:Tabs H) {x:Itm}(hvx:yG x=true) {ba:Option Addr}{bc:Nat}{ia:Option Addr}{ic:Nat}(hx:IsItem H ba bc ia ic x) (w:World) (hH:Holds w H) :
  Calls Tryz.prog 76 #[ua x ba bc ia ic] w (Vc w H x):=by
 have hX:=((Blk.new w 78 #[.int .i64 x.kind,.int .u64 x.n,.slice ba x.bytes.length bc,.slice ia x.items.length ic]).alloc (.cells uS 90)).alloc (.cells uS 90);have hR:=(Blk.new (w.alloc (zH x ba bc ia ic)) 90 uS).alloc (.cells uS 90);have hV:=Blk.new ((w.alloc (zH x ba bc ia ic)).alloc (.cells uS 90)) 90 uS;rw[zW]at hR;rw[zW,zW]at hV;have yN:CS w H #[.int .i64 x.kind,.int .u64 x.n,.slice ba x.bytes.length bc,.slice ia x.items.length ic] uS _ H:=⟨(((Grows.refl hH).alloc (zH x ba bc ia ic)).alloc (.cells uS 90)).alloc (.cells uS 90),hX,hR,hV,hH.none_of_ge (by omega),hH.none_of_ge (by omega)⟩
 have HT:=Hh hTab;have HI:=Hh hx;have HV:=Hh hvx;have a0:=yN.box.cell 0 rfl;clear hTab hx hvx hH hX hR hV;go_enter Tryz.func76,Tryz.ntmps76
 by_cases h5:x.kind=5
 case neg =>
  have b5:(x.kind != 5)=true:=by simp[h5]
  have p5:(x.kind=5)=False:=eq_false h5;have H5:=Hh h5;have v0:=yN.var.cell 0 rfl;have v1:=yN.var.cell 1 rfl;have v2:=yN.var.cell 2 rfl;have v3:=yN.var.cell 3 rfl;have v4:=yN.var.cell 4 rfl;have v5:=yN.var.cell 5 rfl;have v6:=yN.var.cell 6 rfl;have v7:=yN.var.cell 7 rfl;have v8:=yN.var.cell 8 rfl;have v9:=yN.var.cell 9 rfl;have v10:=yN.var.cell 10 rfl;clear h5;go_wp2_with (with_reducible refine zx ?_)
  refine zu rfl _ _ _ rfl rfl _ _ rfl rfl _ _ yN.res yC rfl (jQ _ _ _ _ _ _ _ _ _ _ _ rfl rfl rfl rfl rfl rfl rfl rfl rfl rfl rfl) fun wz hRz z8=>?_
  have yx:=yN.grows.grownOwn yN.hR (by omega) z8;go_wp2_with fail
  refine zw rfl rfl hRz rfl rfl yC rfl ?_
  exact .inl ⟨Y7 H5.out,rfl,yx.below⟩
 have b5:(x.kind != 5)=false:=by simp[h5]
 have p5:(x.kind=5)=True:=eq_true h5;have H5:=Hh h5;have Xq:=Hh (jE HV.out h5);clear h5;go_upto_region 4 with fail
 obtain⟨W3,Io⟩:∃ W3,((w.alloc (zH x ba bc ia ic)).alloc (.cells uS 90)).alloc (.cells uS 90)=W3:=⟨_,rfl⟩
 simp only[zH,zT]at Io
 try simp only[zH,zT]at yN
 rw[Io]at yN⊢;clear Io b5 p5 a0;have LU:CS w H #[.int .i64 x.kind,.int .u64 x.n,.slice ba x.bytes.length bc,.slice ia x.items.length ic] (clQ kA ⟨none,0,none,0,none,0,none,0⟩) W3 H:=yN;clear yN;go_wp2_with fail
 go_loopw [5] (fun v5 wr=>∃ (j:Nat) (c:Cl) (a:KAd) (Hr:Snap),j≤x.items.length∧j%2=0∧v5=.int .i64 (j:Int)∧CS w H #[.int .i64 x.kind,.int .u64 x.n,.slice ba x.bytes.length bc,.slice ia x.items.length ic] (clQ c a) wr Hr∧ClA Hr c a∧pz kA x.items=pz c (x.items.drop j)) (fun v5 _=>x.items.length+1-(intOf v5).toNat)
 case atStart=>exact⟨0,kA,⟨none,0,none,0,none,0,none,0⟩,H,Nat.zero_le _,rfl,rfl,LU,OQ H,by rw[List.drop_zero]⟩
 case round =>
 clear LU;obtain⟨j,c,a,Hr,hj,Qf,rfl,yN,Qa,NE⟩:=hrel;have eZ:=Hh Qf;have mw:=Hh Qa;have ZP:=Hh NE;clear Qf Qa NE;have a3:=yN.box.cell 3 rfl
 by_cases yy:j<x.items.length
 case neg =>
  have sX:j=x.items.length:=by omega
  subst sX;clear yy hj;have HF:Hid (pz kA x.items=some c):=by rw[Hid,ZP.out,List.drop_length,Vj]
  clear ZP;have CL:=Hh (Zm H5.out HF.out);go_upto_region 22 with fail
  clear a3;replace yN:=yN.drew;have VC:Hid (∀ wx,Holds wx Hr→Calls Tryz.prog 67 #[.agg (clQ c a)] wx fun e w'=>e=.returned (.bool (xE c))∧Below wx.heap.size wx w'):=fun wx hx=>jB (HT.out.mono yN.grows.le) mw.out wx hx
  have SV:Hid (∀ Hx wx,CS w H #[.int .i64 x.kind,.int .u64 x.n,.slice ba x.bytes.length bc,.slice ia x.items.length ic] (clQ c a) wx Hx→wx.cell? ⟨w.heap.size+2,0,none⟩=some (.string c.issuer)∧wx.cell? ⟨w.heap.size+2,1,none⟩=some (.string c.subject)∧wx.cell? ⟨w.heap.size+2,2,none⟩=some (.int .i64 c.since)∧wx.cell? ⟨w.heap.size+2,3,none⟩=some (.int .i64 c.till)∧wx.cell? ⟨w.heap.size+2,4,none⟩=some (.int .i64 c.key.kty)∧wx.cell? ⟨w.heap.size+2,5,none⟩=some (.int .i64 c.key.crv)∧wx.cell? ⟨w.heap.size+2,6,none⟩=some (.int .i64 c.key.alg)∧wx.cell? ⟨w.heap.size+2,7,none⟩=some (.slice a.ia c.key.kid.length a.ic)∧wx.cell? ⟨w.heap.size+2,8,none⟩=some (.slice a.xa c.key.x.length a.xc)∧wx.cell? ⟨w.heap.size+2,9,none⟩=some (.slice a.da c.key.d.length a.dc)∧wx.cell? ⟨w.heap.size+2,10,none⟩=some (.slice a.ka c.key.k.length a.kc)):=fun _ _ h=>⟨h.var.cell 0 rfl,h.var.cell 1 rfl,h.var.cell 2 rfl,h.var.cell 3 rfl,h.var.cell 4 rfl,h.var.cell 5 rfl,h.var.cell 6 rfl,h.var.cell 7 rfl,h.var.cell 8 rfl,h.var.cell 9 rfl,h.var.cell 10 rfl⟩
  have SX:Hid (∀ Hx wx,CS w H #[.int .i64 x.kind,.int .u64 x.n,.slice ba x.bytes.length bc,.slice ia x.items.length ic] (clQ c a) wx Hx→wx.cell? ⟨w.heap.size,0,none⟩=some (.int .i64 x.kind)∧wx.cell? ⟨w.heap.size,1,none⟩=some (.int .u64 x.n)∧wx.cell? ⟨w.heap.size,2,none⟩=some (.slice ba x.bytes.length bc)∧wx.cell? ⟨w.heap.size,3,none⟩=some (.slice ia x.items.length ic)):=fun _ _ h=>⟨h.box.cell 0 rfl,h.box.cell 1 rfl,h.box.cell 2 rfl,h.box.cell 3 rfl⟩
  cases hv:xE c with
  | false =>
   have E:Hid (tu x=none):=by rw[Hid,CL.out,hv];rfl
   rw[hv]at VC;clear CL hv
   refine zn 10 (fun wx=>wx.cell? ⟨w.heap.size+2,0,none⟩=some (.string c.issuer)∧wx.cell? ⟨w.heap.size+2,1,none⟩=some (.string c.subject)∧wx.cell? ⟨w.heap.size+2,2,none⟩=some (.int .i64 c.since)∧wx.cell? ⟨w.heap.size+2,3,none⟩=some (.int .i64 c.till)∧wx.cell? ⟨w.heap.size+2,4,none⟩=some (.int .i64 c.key.kty)∧wx.cell? ⟨w.heap.size+2,5,none⟩=some (.int .i64 c.key.crv)∧wx.cell? ⟨w.heap.size+2,6,none⟩=some (.int .i64 c.key.alg)∧wx.cell? ⟨w.heap.size+2,7,none⟩=some (.slice a.ia c.key.kid.length a.ic)∧wx.cell? ⟨w.heap.size+2,8,none⟩=some (.slice a.xa c.key.x.length a.xc)∧wx.cell? ⟨w.heap.size+2,9,none⟩=some (.slice a.da c.key.d.length a.dc)∧wx.cell? ⟨w.heap.size+2,10,none⟩=some (.slice a.ka c.key.k.length a.kc)) (by kernel_rfl) (SV.out _ _ yN) (fun zy=>?_)
   refine TkS 0 rfl zy ?_
   refine To 1 rfl fun K hK=>?_
   go_simp
   refine(VC.out _ yN.grows.holds).mono ?_
   rintro e w2 ⟨rfl,yz⟩
   have yN:=yN.below yz
   refine Ko hK ?_ fun zy=>?_
   ·exact SV.out _ _ yN
   clear hK K
   refine TkS 2 rfl zy ?_
   refine TkS 3 rfl zy ?_
   refine UR 4 rfl zy ?_
   refine UR 5 rfl zy ?_
   refine UR 6 rfl zy ?_
   refine UR 7 rfl zy ?_
   refine UR 8 rfl zy ?_
   refine TkS 9 rfl zy ?_
   refine Wd ?_
   clear zy
   try simp only[Bool.not_false]
   go_wp2_with (with_reducible refine zx ?_)
   refine zu rfl _ _ _ rfl rfl _ _ rfl rfl _ _ yN.res yC rfl (jQ _ _ _ _ _ _ _ _ _ _ _ rfl rfl rfl rfl rfl rfl rfl rfl rfl rfl rfl) fun wz hRz z8=>?_
   have yx:=yN.grows.grownOwn yN.hR (by omega) z8;go_wp2_with fail
   refine zw rfl rfl hRz rfl rfl yC rfl ?_
   exact .inl ⟨E.out,rfl,yx.below⟩
  | true =>
  rw[hv]at VC CL;have Nc:=Hh hv;have IC:=Hh (fun wx hx=>gI (HT.out.mono yN.grows.le) mw.out hv wx hx);rw[Bool.true_and]at CL
  cases hs:sR (pO c) x with
  | false =>
   have E:Hid (tu x=none):=by rw[Hid,CL.out,hs];rfl
   have HS:=Hh hs;clear CL hv hs
   refine zn 10 (fun wx=>(wx.cell? ⟨w.heap.size,0,none⟩=some (.int .i64 x.kind)∧wx.cell? ⟨w.heap.size,1,none⟩=some (.int .u64 x.n)∧wx.cell? ⟨w.heap.size,2,none⟩=some (.slice ba x.bytes.length bc)∧wx.cell? ⟨w.heap.size,3,none⟩=some (.slice ia x.items.length ic))∧wx.cell? ⟨w.heap.size+2,0,none⟩=some (.string c.issuer)∧wx.cell? ⟨w.heap.size+2,1,none⟩=some (.string c.subject)∧wx.cell? ⟨w.heap.size+2,2,none⟩=some (.int .i64 c.since)∧wx.cell? ⟨w.heap.size+2,3,none⟩=some (.int .i64 c.till)∧wx.cell? ⟨w.heap.size+2,4,none⟩=some (.int .i64 c.key.kty)∧wx.cell? ⟨w.heap.size+2,5,none⟩=some (.int .i64 c.key.crv)∧wx.cell? ⟨w.heap.size+2,6,none⟩=some (.int .i64 c.key.alg)∧wx.cell? ⟨w.heap.size+2,7,none⟩=some (.slice a.ia c.key.kid.length a.ic)∧wx.cell? ⟨w.heap.size+2,8,none⟩=some (.slice a.xa c.key.x.length a.xc)∧wx.cell? ⟨w.heap.size+2,9,none⟩=some (.slice a.da c.key.d.length a.dc)∧wx.cell? ⟨w.heap.size+2,10,none⟩=some (.slice a.ka c.key.k.length a.kc)) (by kernel_rfl) (⟨SX.out _ _ yN,SV.out _ _ yN⟩) (fun zy=>?_)
   refine TkS 0 rfl zy ?_
   refine To 1 rfl fun K hK=>?_
   go_simp
   refine(VC.out _ yN.grows.holds).mono ?_
   rintro e w2 ⟨rfl,yz⟩
   have yN:=yN.below yz
   refine Ko hK ?_ fun zy=>?_
   ·exact⟨SX.out _ _ yN,SV.out _ _ yN⟩
   clear hK K
   refine TkS 2 rfl zy ?_
   refine TkS 3 rfl zy ?_
   refine X3 4 rfl zy ?_
   refine X3 6 rfl zy ?_
   refine To 5 rfl fun K hK=>?_
   go_simp
   refine(IC.out _ yN.grows.holds).mono ?_
   rintro e w3 ⟨v3,rfl,xa,xb,xc,xd,H3,rfl,xf,VT⟩
   have yN:=yN.grow xf;obtain⟨y,hy⟩:∃ y,y=pO c:=⟨_,rfl⟩
   rw[← hy]at VT⊢;have HY:=Hh hy;have EU:=Hh xf;clear hy xf
   refine Ko hK ?_ fun zy=>?_
   ·exact⟨SX.out _ _ yN,SV.out _ _ yN⟩
   clear hK K
   refine To 7 rfl fun K hK=>?_
   go_simp
   refine(gg y x _ _ _ _ _ _ _ _ _ _ _ _ _ _ _ _ _ _ (vM (by rw[HY.out];exact sb Nc.out)) (vM HV.out) VT.arg (HI.out.mono yN.grows.le).arg yN.grows.holds).mono ?_
   rintro e w4 ⟨rfl,sW⟩
   rw[HY.out,HS.out];have yN:=yN.below sW
   refine Ko hK ?_ fun zy=>?_
   ·exact⟨SX.out _ _ yN,SV.out _ _ yN⟩
   clear hK K
   refine X3 8 rfl zy ?_
   refine TkS 9 rfl zy ?_
   refine Wd ?_
   clear zy
   try simp only[Bool.not_false,Bool.not_true]
   go_wp2_with (with_reducible refine zx ?_)
   refine zu rfl _ _ _ rfl rfl _ _ rfl rfl _ _ yN.res yC rfl (jQ _ _ _ _ _ _ _ _ _ _ _ rfl rfl rfl rfl rfl rfl rfl rfl rfl rfl rfl) fun wz hRz z8=>?_
   have yx:=yN.grows.grownOwn yN.hR (by omega) z8;go_wp2_with fail
   refine zw rfl rfl hRz rfl rfl yC rfl ?_
   exact .inl ⟨E.out,rfl,yx.below⟩
  | true =>
  have E:Hid (tu x=some c):=by rw[Hid,CL.out,hs];rfl
  have HS:=Hh hs;clear CL hv hs
  refine zn 10 (fun wx=>(wx.cell? ⟨w.heap.size,0,none⟩=some (.int .i64 x.kind)∧wx.cell? ⟨w.heap.size,1,none⟩=some (.int .u64 x.n)∧wx.cell? ⟨w.heap.size,2,none⟩=some (.slice ba x.bytes.length bc)∧wx.cell? ⟨w.heap.size,3,none⟩=some (.slice ia x.items.length ic))∧wx.cell? ⟨w.heap.size+2,0,none⟩=some (.string c.issuer)∧wx.cell? ⟨w.heap.size+2,1,none⟩=some (.string c.subject)∧wx.cell? ⟨w.heap.size+2,2,none⟩=some (.int .i64 c.since)∧wx.cell? ⟨w.heap.size+2,3,none⟩=some (.int .i64 c.till)∧wx.cell? ⟨w.heap.size+2,4,none⟩=some (.int .i64 c.key.kty)∧wx.cell? ⟨w.heap.size+2,5,none⟩=some (.int .i64 c.key.crv)∧wx.cell? ⟨w.heap.size+2,6,none⟩=some (.int .i64 c.key.alg)∧wx.cell? ⟨w.heap.size+2,7,none⟩=some (.slice a.ia c.key.kid.length a.ic)∧wx.cell? ⟨w.heap.size+2,8,none⟩=some (.slice a.xa c.key.x.length a.xc)∧wx.cell? ⟨w.heap.size+2,9,none⟩=some (.slice a.da c.key.d.length a.dc)∧wx.cell? ⟨w.heap.size+2,10,none⟩=some (.slice a.ka c.key.k.length a.kc)) (by kernel_rfl) (⟨SX.out _ _ yN,SV.out _ _ yN⟩) (fun zy=>?_)
  refine TkS 0 rfl zy ?_
  refine To 1 rfl fun K hK=>?_
  go_simp
  refine(VC.out _ yN.grows.holds).mono ?_
  rintro e w2 ⟨rfl,yz⟩
  have yN:=yN.below yz
  refine Ko hK ?_ fun zy=>?_
  ·exact⟨SX.out _ _ yN,SV.out _ _ yN⟩
  clear hK K
  refine TkS 2 rfl zy ?_
  refine TkS 3 rfl zy ?_
  refine X3 4 rfl zy ?_
  refine X3 6 rfl zy ?_
  refine To 5 rfl fun K hK=>?_
  go_simp
  refine(IC.out _ yN.grows.holds).mono ?_
  rintro e w3 ⟨v3,rfl,xa,xb,xc,xd,H3,rfl,xf,VT⟩
  have yN:=yN.grow xf;obtain⟨y,hy⟩:∃ y,y=pO c:=⟨_,rfl⟩
  rw[← hy]at VT⊢;have HY:=Hh hy;have EU:=Hh xf;clear hy xf
  refine Ko hK ?_ fun zy=>?_
  ·exact⟨SX.out _ _ yN,SV.out _ _ yN⟩
  clear hK K
  refine To 7 rfl fun K hK=>?_
  go_simp
  refine(gg y x _ _ _ _ _ _ _ _ _ _ _ _ _ _ _ _ _ _ (vM (by rw[HY.out];exact sb Nc.out)) (vM HV.out) VT.arg (HI.out.mono yN.grows.le).arg yN.grows.holds).mono ?_
  rintro e w4 ⟨rfl,sW⟩
  rw[HY.out,HS.out];have yN:=yN.below sW
  refine Ko hK ?_ fun zy=>?_
  ·exact⟨SX.out _ _ yN,SV.out _ _ yN⟩
  clear hK K
  refine X3 8 rfl zy ?_
  refine TkS 9 rfl zy ?_
  refine Wd ?_
  clear zy
  try simp only[Bool.not_false,Bool.not_true]
  have v0:=yN.var.cell 0 rfl;have v1:=yN.var.cell 1 rfl;have v2:=yN.var.cell 2 rfl;have v3:=yN.var.cell 3 rfl;have v4:=yN.var.cell 4 rfl;have v5:=yN.var.cell 5 rfl;have v6:=yN.var.cell 6 rfl;have v7:=yN.var.cell 7 rfl;have v8:=yN.var.cell 8 rfl;have v9:=yN.var.cell 9 rfl;have v10:=yN.var.cell 10 rfl;have CC:=Hh (mw.out.mono EU.out.le);go_wp2_with (with_reducible refine zx ?_)
  refine zu rfl _ _ _ rfl rfl _ _ rfl rfl _ _ yN.res yC rfl (jQ _ _ _ _ _ _ _ _ _ _ _ rfl rfl rfl rfl rfl rfl rfl rfl rfl rfl rfl) fun wz hRz z8=>?_
  have yx:=yN.grows.grownOwn yN.hR (by omega) z8;go_wp2_with fail
  refine zw rfl rfl hRz rfl rfl yC rfl ?_
  exact .inr ⟨c,a,_,E.out,rfl,yx,CC.out⟩
 have mi:j+1<x.items.length:=by have:=eZ.out;have:=Xq.out;omega
 have bV:x.items.length≤256:=(uh HV.out).2.1;have PH:(j:Int)<x.items.length:=by omega
 have UK:(j:Int)+1<x.items.length:=by omega
 have Rf:(0:Int)≤(j:Int)+1:=by omega
 have lQ:IntKind.i64.wrap ((j:Int)+2)=(j:Int)+2:=IntWalk.i64_in _ (by omega);have QS:IntKind.i64.wrap ((j:Int)+1)=(j:Int)+1:=IntWalk.i64_in _ (by omega);obtain⟨ib,io,qI,vI⟩:=HI.out.items (by omega);obtain⟨y1,y2,y3,y4,q0,q1,q2,q3,ND⟩:=vI.get j yy;obtain⟨z1,z2,z3,z4,s0,s1,s2,s3,V5⟩:=vI.get (j+1) mi;subst qI;have fQ:=Hh (Y6 c x.items j mi);have Nf:=Hh (pw HV.out (List.getElem_mem mi));have tR:=Hh (And.intro yy (And.intro mi bV))
 generalize x.items[j]'yy=y at *
 generalize x.items[j+1]'mi=z at *
 have Si:=Hh (And.intro ND V5);have Eh:=Hh (And.intro q0 (And.intro q1 (And.intro q2 (And.intro q3 (And.intro s0 (And.intro s1 (And.intro s2 s3)))))));clear vI ND V5 yy mi hj bV q0 q1 q2 q3 s0 s1 s2 s3;go_upto_region 7 with fail
 clear a3;go_cut [6,7] (fun s6 s7 wx=>∃ P Q:Nat,s6=.pointer (some ⟨P,0,none⟩)∧s7=.pointer (some ⟨Q,0,none⟩)∧CS w H #[.int .i64 x.kind,.int .u64 x.n,.slice ba x.bytes.length bc,.slice (some ⟨ib,io,none⟩) x.items.length ic] (clQ c a) wx Hr∧Blk wx P 78 #[.int .i64 y.kind,.int .u64 y.n,.slice y1 y.bytes.length y2,.slice y3 y.items.length y4]∧Blk wx Q 78 #[.int .i64 z.kind,.int .u64 z.n,.slice z1 z.bytes.length z2,.slice z3 z.items.length z4])
 case first =>
  replace yN:=yN.drew
  have SS:Hid (∀ wx,CS w H #[.int .i64 x.kind,.int .u64 x.n,.slice ba x.bytes.length bc,.slice (some ⟨ib,io,none⟩) x.items.length ic] (clQ c a) wx Hr→wx.cell? ⟨w.heap.size,3,none⟩=some (.slice (some ⟨ib,io,none⟩) x.items.length ic)∧wx.cell? ⟨ib,io+j*4,none⟩=some (.int .i64 y.kind)∧wx.cell? ⟨ib,io+j*4+1,none⟩=some (.int .u64 y.n)∧wx.cell? ⟨ib,io+j*4+2,none⟩=some (.slice y1 y.bytes.length y2)∧wx.cell? ⟨ib,io+j*4+3,none⟩=some (.slice y3 y.items.length y4)∧wx.cell? ⟨ib,io+(j+1)*4,none⟩=some (.int .i64 z.kind)∧wx.cell? ⟨ib,io+(j+1)*4+1,none⟩=some (.int .u64 z.n)∧wx.cell? ⟨ib,io+(j+1)*4+2,none⟩=some (.slice z1 z.bytes.length z2)∧wx.cell? ⟨ib,io+(j+1)*4+3,none⟩=some (.slice z3 z.items.length z4)):=fun wx hc=>by
   have hh:=hc.grows.holds.mono hc.grows.le;have Q:=Eh.out
   exact⟨hc.box.cell 3 rfl,hh.cell Q.1,hh.cell Q.2.1,hh.cell Q.2.2.1,hh.cell Q.2.2.2.1,hh.cell Q.2.2.2.2.1,hh.cell Q.2.2.2.2.2.1,hh.cell Q.2.2.2.2.2.2.1,hh.cell Q.2.2.2.2.2.2.2⟩
  refine zn 15 (fun wx=>wx.cell? ⟨w.heap.size,3,none⟩=some (.slice (some ⟨ib,io,none⟩) x.items.length ic)∧wx.cell? ⟨ib,io+j*4,none⟩=some (.int .i64 y.kind)∧wx.cell? ⟨ib,io+j*4+1,none⟩=some (.int .u64 y.n)∧wx.cell? ⟨ib,io+j*4+2,none⟩=some (.slice y1 y.bytes.length y2)∧wx.cell? ⟨ib,io+j*4+3,none⟩=some (.slice y3 y.items.length y4)∧wx.cell? ⟨ib,io+(j+1)*4,none⟩=some (.int .i64 z.kind)∧wx.cell? ⟨ib,io+(j+1)*4+1,none⟩=some (.int .u64 z.n)∧wx.cell? ⟨ib,io+(j+1)*4+2,none⟩=some (.slice z1 z.bytes.length z2)∧wx.cell? ⟨ib,io+(j+1)*4+3,none⟩=some (.slice z3 z.items.length z4)) (by kernel_rfl) (SS.out _ yN) (fun zy=>?_)
  refine TkS 0 rfl zy ?_
  refine TkS 1 rfl zy ?_
  refine TkS 2 rfl zy ?_
  refine TkS 3 rfl zy ?_
  refine TkS 4 rfl zy ?_
  refine TkS 5 rfl zy ?_
  refine TkS 6 rfl zy ?_
  refine TkS 7 rfl zy ?_
  refine TkS 8 rfl zy ?_
  refine TkS 9 rfl zy ?_
  refine TkS 10 rfl zy ?_
  refine Ways.two (i:=11) (j:=12) rfl rfl (by kernel_rfl) (fun K hK=>?_) (fun K hK=>?_)
  ·go_simp
   have hP:=yN.newI
   try rw[zW]at hP
   try have xq:_≠_:=hQ.ne_new
   try rw[zW]at xq
   try have hQ:=hQ.alloc (.cells tE 78)
   have yN:=yN.alloc (.cells tE 78)
   refine Ko hK ?_ fun zy=>?_
   ·exact SS.out _ yN
   clear hK K
   refine To 12 rfl fun K hK=>?_
   go_simp
   have hQ:=yN.newI
   try rw[zW]at hQ
   try have xq:_≠_:=hP.ne_new.symm
   try rw[zW]at xq
   try have hP:=hP.alloc (.cells tE 78)
   have yN:=yN.alloc (.cells tE 78)
   refine Ko hK ?_ fun zy=>?_
   ·exact SS.out _ yN
   clear hK K
   refine To 13 rfl fun K hK=>?_
   refine zF _ _ _ rfl _ _ rfl rfl _ _ hP.blk zp rfl (vR _ _ _ _ rfl rfl rfl rfl) fun w13 hB13 hg13=>?_
   have yN:=yN.put hP hg13;have hQ:=hQ.kept hg13 xq;have hP:=hP.put hB13;clear hB13 hg13;go_simp
   refine Ko hK ?_ fun zy=>?_
   ·exact SS.out _ yN
   clear hK K
   refine To 14 rfl fun K hK=>?_
   refine zF _ _ _ rfl _ _ rfl rfl _ _ hQ.blk zp rfl (vR _ _ _ _ rfl rfl rfl rfl) fun w14 hB14 hg14=>?_
   have yN:=yN.put hQ hg14;have hP:=hP.kept hg14 (Ne.symm xq);have hQ:=hQ.put hB14;clear hB14 hg14;go_simp
   refine Ko hK ?_ fun zy=>?_
   ·exact SS.out _ yN
   clear hK K
   refine Wd ?_
   clear zy;go_wp2_with fail
   go_meet
   exact⟨_,_,rfl,rfl,yN,hP.blk,hQ.blk⟩
  go_simp
  have hQ:=yN.newI
  try rw[zW]at hQ
  try have xq:_≠_:=hP.ne_new.symm
  try rw[zW]at xq
  try have hP:=hP.alloc (.cells tE 78)
  have yN:=yN.alloc (.cells tE 78)
  refine Ko hK ?_ fun zy=>?_
  ·exact SS.out _ yN
  clear hK K
  refine To 11 rfl fun K hK=>?_
  go_simp
  have hP:=yN.newI
  try rw[zW]at hP
  try have xq:_≠_:=hQ.ne_new
  try rw[zW]at xq
  try have hQ:=hQ.alloc (.cells tE 78)
  have yN:=yN.alloc (.cells tE 78)
  refine Ko hK ?_ fun zy=>?_
  ·exact SS.out _ yN
  clear hK K
  refine To 13 rfl fun K hK=>?_
  refine zF _ _ _ rfl _ _ rfl rfl _ _ hP.blk zp rfl (vR _ _ _ _ rfl rfl rfl rfl) fun w13 hB13 hg13=>?_
  have yN:=yN.put hP hg13;have hQ:=hQ.kept hg13 xq;have hP:=hP.put hB13;clear hB13 hg13;go_simp
  refine Ko hK ?_ fun zy=>?_
  ·exact SS.out _ yN
  clear hK K
  refine To 14 rfl fun K hK=>?_
  refine zF _ _ _ rfl _ _ rfl rfl _ _ hQ.blk zp rfl (vR _ _ _ _ rfl rfl rfl rfl) fun w14 hB14 hg14=>?_
  have yN:=yN.put hQ hg14;have hP:=hP.kept hg14 (Ne.symm xq);have hQ:=hQ.put hB14;clear hB14 hg14;go_simp
  refine Ko hK ?_ fun zy=>?_
  ·exact SS.out _ yN
  clear hK K
  refine Wd ?_
  clear zy;go_wp2_with fail
  go_meet
  exact⟨_,_,rfl,rfl,yN,hP.blk,hQ.blk⟩
 case rest =>
 clear yN Eh PH UK Rf QS;obtain⟨P,Q,rfl,rfl,yN,hP,hQ⟩:=hcut;have p0:=hP.cell 0 rfl
 by_cases lU:y.kind=0
 case neg =>
  have b0:(y.kind != 0)=true:=by simp[lU]
  have e0:(y.kind=0)=False:=eq_false lU;have E:Hid (tu x=none):=em (by rw[ZP.out,fQ.out,if_neg lU]);clear hP hQ lU;go_wp2_with (with_reducible refine zx ?_)
  refine zu rfl _ _ _ rfl rfl _ _ rfl rfl _ _ yN.res yC rfl (jQ _ _ _ _ _ _ _ _ _ _ _ rfl rfl rfl rfl rfl rfl rfl rfl rfl rfl rfl) fun wz hRz z8=>?_
  have yx:=yN.grows.grownOwn yN.hR (by omega) z8;go_wp2_with fail
  refine zw rfl rfl hRz rfl rfl yC rfl ?_
  exact .inl ⟨E.out,rfl,yx.below⟩
 have b0:(y.kind != 0)=false:=by simp[lU]
 have e0:(y.kind=0)=True:=eq_true lU;have oK:Hid (pz kA x.items=pz (sf c y z) (x.items.drop (j+2))):=by rw[Hid,ZP.out,fQ.out,if_pos lU]
 obtain⟨k,hk⟩:∃ k:Int,(y.n:Int)=k:=⟨_,rfl⟩
 have HK:=Hh hk;have p1:=hP.cell 1 rfl;rw[hk]at p1;have Eu:=Hh (uh Nf.out);have Fi:=(Si.out.2.mono yN.grows.le)
 have IM:=Hh Fi;clear hk lU hP fQ ZP Fi;go_upto_region 10 with fail
 clear p0 b0 e0;go_upto_region 11 with fail
 clear p1
 by_cases h1:k=1
 ·subst h1
  have bn:Hid (sf c y z={ c with issuer:=q9 z.bytes }):=by
   have Xz:y.n=1:=by have:=HK.out;omega
   unfold sf
   rw[Xz];rfl
  clear HK;have q2:=hQ.cell 2 rfl;have CV:=rz (Src.of_row IM.out.bytes.row yN.grows.holds) z.bytes.length z2 rfl;clear hQ;go_wp2_with (with_reducible refine zx ?_)
  unfold zU
  clear CV q2
  refine zr rfl _ _ _ rfl rfl (w.heap.size+2) 0 (.string (q9 z.bytes)) rfl rfl _ _ yN.var (by kernel_rfl) (by simp) rfl fun wt hBt hgt=>?_
  replace yN:=yN.set (cc':=clQ { c with issuer:=q9 z.bytes } a) hBt hgt;clear hBt hgt;go_wp2_with fail
  go_roundw
  case rel=>exact⟨j+2,{ c with issuer:=q9 z.bytes },a,_,by have:=tR.out;omega,by have:=eZ.out;omega,by go_num,yN,⟨(by show(q9 z.bytes).size≤_;have:=Eu.out.1;unfold q9;simp[ByteArray.size];omega),mw.out.subject,mw.out.since,mw.out.till,mw.out.key⟩,by rw[oK.out,bn.out]⟩
  case measure=>have:=tR.out;simp[intOf];omega
 have bh1:(k==1)=false:=by rw[beq_eq_false_iff_ne];exact h1
 have eh1:(k=1)=False:=eq_false h1
 by_cases h2:k=2
 ·subst h2
  have bn:Hid (sf c y z={ c with subject:=q9 z.bytes }):=by
   have Xz:y.n=2:=by have:=HK.out;omega
   unfold sf
   rw[Xz];rfl
  clear HK;have q2:=hQ.cell 2 rfl;have CV:=rz (Src.of_row IM.out.bytes.row yN.grows.holds) z.bytes.length z2 rfl;clear hQ;go_wp2_with (with_reducible refine zx ?_)
  unfold zU
  clear CV q2
  refine zr rfl _ _ _ rfl rfl (w.heap.size+2) 1 (.string (q9 z.bytes)) rfl rfl _ _ yN.var (by kernel_rfl) (by simp) rfl fun wt hBt hgt=>?_
  replace yN:=yN.set (cc':=clQ { c with subject:=q9 z.bytes } a) hBt hgt;clear hBt hgt;go_wp2_with fail
  go_roundw
  case rel=>exact⟨j+2,{ c with subject:=q9 z.bytes },a,_,by have:=tR.out;omega,by have:=eZ.out;omega,by go_num,yN,⟨mw.out.issuer,(by show(q9 z.bytes).size≤_;have:=Eu.out.1;unfold q9;simp[ByteArray.size];omega),mw.out.since,mw.out.till,mw.out.key⟩,by rw[oK.out,bn.out]⟩
  case measure=>have:=tR.out;simp[intOf];omega
 have bh2:(k==2)=false:=by rw[beq_eq_false_iff_ne];exact h2
 have eh2:(k=2)=False:=eq_false h2
 by_cases h4:k=4
 ·subst h4;obtain⟨bt,SK⟩:∃ bt,jK z.n=bt:=⟨_,rfl⟩
  have bn:Hid (sf c y z={ c with till:=bt }):=by
   have Xz:y.n=4:=by have:=HK.out;omega
   unfold sf
   rw[Xz,SK];rfl
  have Pa:Hid (0≤bt∧bt≤1099511627776):=by rw[← SK];unfold jK;rw[Hid];omega
  clear HK;have MN:min (z.n:Int) 1099511627776=bt:=by rw[← SK];unfold jK;omega
  have WB:IntKind.i64.wrap bt=bt:=IntWalk.i64_in _ (by have:=Pa.out;omega);have q1:=hQ.cell 1 rfl;clear hQ SK
  by_cases hbig:(1099511627776:Int)<(z.n:Int)
  ·have d1:decide ((1099511627776:Int)<(z.n:Int))=true:=decide_eq_true hbig;go_wp2_with (with_reducible refine zx ?_)
   refine zr rfl _ _ _ rfl rfl (w.heap.size+2) 3 (.int .i64 bt) rfl rfl _ _ yN.var (by kernel_rfl) (by simp) rfl fun wt hBt hgt=>?_
   replace yN:=yN.set (cc':=clQ { c with till:=bt } a) hBt hgt;clear hBt hgt q1;go_wp2_with fail
   go_roundw
   case rel=>exact⟨j+2,{ c with till:=bt },a,_,by have:=tR.out;omega,by have:=eZ.out;omega,by go_num,yN,⟨mw.out.issuer,mw.out.subject,mw.out.since,by have:=Pa.out;show(-9223372036854775808:Int)≤bt∧bt≤9223372036854775807;omega,mw.out.key⟩,by rw[oK.out,bn.out]⟩
   case measure=>have:=tR.out;simp[intOf];omega
  have d1:decide ((1099511627776:Int)<(z.n:Int))=false:=decide_eq_false hbig;go_wp2_with (with_reducible refine zx ?_)
  refine zr rfl _ _ _ rfl rfl (w.heap.size+2) 3 (.int .i64 bt) rfl rfl _ _ yN.var (by kernel_rfl) (by simp) rfl fun wt hBt hgt=>?_
  replace yN:=yN.set (cc':=clQ { c with till:=bt } a) hBt hgt;clear hBt hgt q1;go_wp2_with fail
  go_roundw
  case rel=>exact⟨j+2,{ c with till:=bt },a,_,by have:=tR.out;omega,by have:=eZ.out;omega,by go_num,yN,⟨mw.out.issuer,mw.out.subject,mw.out.since,by have:=Pa.out;show(-9223372036854775808:Int)≤bt∧bt≤9223372036854775807;omega,mw.out.key⟩,by rw[oK.out,bn.out]⟩
  case measure=>have:=tR.out;simp[intOf];omega
 have bh4:(k==4)=false:=by rw[beq_eq_false_iff_ne];exact h4
 have eh4:(k=4)=False:=eq_false h4
 by_cases h5:k=5
 ·subst h5;obtain⟨bt,SK⟩:∃ bt,jK z.n=bt:=⟨_,rfl⟩
  have bn:Hid (sf c y z={ c with since:=bt }):=by
   have Xz:y.n=5:=by have:=HK.out;omega
   unfold sf
   rw[Xz,SK];rfl
  have Pa:Hid (0≤bt∧bt≤1099511627776):=by rw[← SK];unfold jK;rw[Hid];omega
  clear HK;have MN:min (z.n:Int) 1099511627776=bt:=by rw[← SK];unfold jK;omega
  have WB:IntKind.i64.wrap bt=bt:=IntWalk.i64_in _ (by have:=Pa.out;omega);have q1:=hQ.cell 1 rfl;clear hQ SK
  by_cases hbig:(1099511627776:Int)<(z.n:Int)
  ·have d1:decide ((1099511627776:Int)<(z.n:Int))=true:=decide_eq_true hbig;go_wp2_with (with_reducible refine zx ?_)
   refine zr rfl _ _ _ rfl rfl (w.heap.size+2) 2 (.int .i64 bt) rfl rfl _ _ yN.var (by kernel_rfl) (by simp) rfl fun wt hBt hgt=>?_
   replace yN:=yN.set (cc':=clQ { c with since:=bt } a) hBt hgt;clear hBt hgt q1;go_wp2_with fail
   go_roundw
   case rel=>exact⟨j+2,{ c with since:=bt },a,_,by have:=tR.out;omega,by have:=eZ.out;omega,by go_num,yN,⟨mw.out.issuer,mw.out.subject,by have:=Pa.out;show(-9223372036854775808:Int)≤bt∧bt≤9223372036854775807;omega,mw.out.till,mw.out.key⟩,by rw[oK.out,bn.out]⟩
   case measure=>have:=tR.out;simp[intOf];omega
  have d1:decide ((1099511627776:Int)<(z.n:Int))=false:=decide_eq_false hbig;go_wp2_with (with_reducible refine zx ?_)
  refine zr rfl _ _ _ rfl rfl (w.heap.size+2) 2 (.int .i64 bt) rfl rfl _ _ yN.var (by kernel_rfl) (by simp) rfl fun wt hBt hgt=>?_
  replace yN:=yN.set (cc':=clQ { c with since:=bt } a) hBt hgt;clear hBt hgt q1;go_wp2_with fail
  go_roundw
  case rel=>exact⟨j+2,{ c with since:=bt },a,_,by have:=tR.out;omega,by have:=eZ.out;omega,by go_num,yN,⟨mw.out.issuer,mw.out.subject,by have:=Pa.out;show(-9223372036854775808:Int)≤bt∧bt≤9223372036854775807;omega,mw.out.till,mw.out.key⟩,by rw[oK.out,bn.out]⟩
  case measure=>have:=tR.out;simp[intOf];omega
 have bh5:(k==5)=false:=by rw[beq_eq_false_iff_ne];exact h5
 have eh5:(k=5)=False:=eq_false h5
 by_cases h8:k=8
 ·subst h8;have Xz:Hid (y.n=8):=by have:=HK.out;rw[Hid];omega
  clear HK;have q0:=hQ.cell 0 rfl;have q3:=hQ.cell 3 rfl
  by_cases Vb:z.kind=5
  case neg =>
   have g5:(z.kind==5)=false:=by rw[beq_eq_false_iff_ne];exact Vb
   have f5:(z.kind=5)=False:=eq_false Vb
   have bn:Hid (sf c y z=c):=by
    unfold sf
    rw[Xz.out];show(match z.items with | [_,b]=>if z.kind=5 then { c with key:=oW b } else c | _=>c)=c
    split
    ·exact if_neg Vb
    rfl
   clear Vb;go_wp2_with fail
   go_roundw
   case rel=>exact⟨j+2,c,a,_,by have:=tR.out;omega,by have:=eZ.out;omega,by go_num,yN,mw.out,by rw[oK.out,bn.out]⟩
   case measure=>have:=tR.out;simp[intOf];omega
  have g5:(z.kind==5)=true:=by rw[beq_iff_eq];exact Vb
  have f5:(z.kind=5)=True:=eq_true Vb
  by_cases qE:z.items.length=2
  case neg =>
   have g2:((z.items.length:Int)==2)=false:=by rw[beq_eq_false_iff_ne];omega
   have f2:((z.items.length:Int)=2)=False:=eq_false (by omega)
   have bn:Hid (sf c y z=c):=by
    unfold sf
    rw[Xz.out];show(match z.items with | [_,b]=>if z.kind=5 then { c with key:=oW b } else c | _=>c)=c
    split
    ·rename_i hl
     rw[hl]at qE
     exact absurd rfl qE
    rfl
   clear Vb qE;go_wp2_with fail
   go_roundw
   case rel=>exact⟨j+2,c,a,_,by have:=tR.out;omega,by have:=eZ.out;omega,by go_num,yN,mw.out,by rw[oK.out,bn.out]⟩
   case measure=>have:=tR.out;simp[intOf];omega
  have g2:((z.items.length:Int)==2)=true:=by rw[beq_iff_eq];omega
  have f2:((z.items.length:Int)=2)=True:=eq_true (by omega);have i2:(1:Int)<(z.items.length:Int):=by omega
  obtain⟨zb,zo,Sw,MK⟩:=IM.out.items (by omega);obtain⟨t1,t2,t3,t4,r0,r1,r2,r3,Fp⟩:=MK.get 1 (by omega);subst Sw
  have bn:Hid (sf c y z={ c with key:=oW (z.items[1]'(by omega)) }):=by
   unfold sf
   rw[Xz.out];show(match z.items with | [_,b]=>if z.kind=5 then { c with key:=oW b } else c | _=>c)=_
   split
   ·rename_i a1 b1 hl
    rw[if_pos Vb]
    simp only[hl]
    rfl
   rename_i Zh
   exfalso
   match NV:z.items with
   | []=>rw[NV]at qE;cases qE
   | [_]=>rw[NV]at qE;cases qE
   | [a1,b1]=>exact Zh a1 b1 NV
   | _::_::_::_=>rw[NV]at qE;simp at qE
  generalize z.items[1]'(by omega)=u at *
  have r0:=yN.grows.holds.cell r0;have r1:=yN.grows.holds.cell r1;have r2:=yN.grows.holds.cell r2;have r3:=yN.grows.holds.cell r3
  simp only[Nat.one_mul]at r0 r1 r2 r3
  have CE:=Hh Fp;have FI:=Hh (fun wx hx=>fY (HT.out.mono yN.grows.le) CE.out wx hx);clear Vb qE MK Fp hQ;go_wp2_with fail
  refine(FI.out _ yN.grows.holds).mono ?_
  intro e w8 h8
  obtain⟨a8,H8,cd,rfl,ra,Ka⟩:=Vx yN.grows.holds h8;replace yN:=yN.grow ra;have Jj:=Hh (mw.out.mono ra.le);have CK:=Hh Ka;clear h8 ra Ka FI r0 r1 r2 r3 q0 q3
  generalize oW u=q8 at *
  go_wp2_with (with_reducible refine zx ?_)
  refine pH rfl _ _ _ rfl rfl (w.heap.size+2) 4 (mu q8 a8) rfl rfl _ _ yN.var Wo (by simp) (X9 _ _ _ _ _ _ _ rfl rfl rfl rfl rfl rfl rfl) fun wt hBt hgt=>?_
  replace yN:=yN.set (cc':=clQ { c with key:=q8 } a8) hBt hgt;clear hBt hgt;go_wp2_with fail
  go_roundw
  case rel=>exact⟨j+2,{ c with key:=q8 },a8,_,by have:=tR.out;omega,by have:=eZ.out;omega,by go_num,yN,⟨Jj.out.issuer,Jj.out.subject,Jj.out.since,Jj.out.till,CK.out⟩,by rw[oK.out,bn.out]⟩
  case measure=>have:=tR.out;simp[intOf];omega
 have bh8:(k==8)=false:=by rw[beq_eq_false_iff_ne];exact h8
 have eh8:(k=8)=False:=eq_false h8
 have bn:Hid (sf c y z=c):=by
  have n1:¬ y.n=1:=by have:=HK.out;omega
  have n2:¬ y.n=2:=by have:=HK.out;omega
  have n4:¬ y.n=4:=by have:=HK.out;omega
  have n5:¬ y.n=5:=by have:=HK.out;omega
  have n8:¬ y.n=8:=by have:=HK.out;omega
  rw[Hid,sf,if_neg n1,if_neg n2,if_neg n4,if_neg n5,if_neg n8]
 clear HK hQ h1 h2 h4 h5 h8;go_wp2_with fail
 go_roundw
 case rel=>exact⟨j+2,c,a,_,by have:=tR.out;omega,by have:=eZ.out;omega,by go_num,yN,mw.out,by rw[oK.out,bn.out]⟩
 case measure=>have:=tR.out;simp[intOf];omega
theorem eo {l:List UInt8}{y:Itm}(h:ui l=.ok y):yG y=true:=by
 unfold ui at h
 split at h
 ·cases h
 split at h
 ·cases h
 rename_i x k c hp
 split at h
 ·cases h
 injection h with h
 subst h;obtain⟨h1,h2,h3,h4,h5,h6,h7⟩:=aE hp
 exact(vO _).2 ⟨h5,h7,by rw[h4,List.length_take];omega⟩
theorem oa {l:List UInt8}{q:Nat}(h:ui l=.error q):q≠0:=by
 unfold ui at h
 split at h
 ·injection h with h;omega
 split at h
 ·rename_i e hp
  injection h with h
  subst h
  exact vA _ _ _ _ hp
 split at h
 ·injection h with h;omega
 cases h
def rF (l:List UInt8):Except Nat Cl:=match ui l with
 | .error q=>.error q
 | .ok x=>match tu x with
  | none=>.error 4
  | some c=>.ok c
theorem Zl {l:List UInt8}{q:Nat}(h:rF l=.error q):q≠0:=by
 unfold rF at h
 split at h
 ·rename_i q' hq
  injection h with h
  subst h
  exact oa hq
 split at h
 ·injection h with h;omega
 cases h
def XQ (w:World) (H:Snap) (l:List UInt8) (e:Ending) (w':World):Prop :=
 (∃ q:Nat,rF l=.error q∧e=.returned (.tuple #[.agg uS,.int .i64 (q:Int)])∧Below w.heap.size w w')∨
 (∃ c a H',rF l=.ok c∧e=.returned (.tuple #[.agg (clQ c a),.int .i64 0])∧Grows w H w' H'∧ClA H' c a)
theorem ce {H:Snap}(hTab:Tabs H) (w:World) (hH:Holds w H) {A:Option Addr}{n c:Nat}{l:List UInt8}(hn:n=l.length) (hl:IsBytes H A c l) :
  Calls Tryz.prog 64 #[.slice A n c] w (XQ w H l):=by
 have hR:=Blk.new w 90 uS;have Nm:H w.heap.size=none:=hH.none_of_ge (Nat.le_refl _);have hG:=(Grows.refl hH).alloc (.cells uS 90);have DC:=Hh (Yf hTab _ hG.holds hn hl);have HT:=Hh hTab;clear hn hl hTab hH;go_enter Tryz.func64,Tryz.ntmps64
 go_wp2_with fail
 refine DC.out.mono ?_
 intro e w2 hs
 clear DC
 unfold sG at hs
 cases hd:ui l with
 | error q =>
  rw[hd]at hs;obtain⟨rfl,yz⟩:=hs;have pG:((q:Int) != 0)=true:=by rw[bne_iff_ne];have:=oa hd;omega
  have dg:((q:Int)=0)=False:=eq_false (by have:=oa hd;omega);have HD:Hid (rF l=.error q):=by rw[Hid,rF,hd]
  replace hR:=(hR.below yz).alloc zO;replace hG:=(hG.below_ yz).alloc zO;clear hd yz;go_upto_region 3 with fail
  go_wp2_with (with_reducible refine zx ?_)
  refine zu rfl _ _ _ rfl rfl _ _ rfl rfl _ _ hR yC rfl (jQ _ _ _ _ _ _ _ _ _ _ _ rfl rfl rfl rfl rfl rfl rfl rfl rfl rfl rfl) fun wz hRz z8=>?_
  have yx:=hG.grownOwn Nm (Nat.le_refl _) z8;clear hG hR z8;go_wp2_with fail
  refine zw rfl rfl hRz rfl rfl yC rfl ?_
  exact .inl ⟨q,HD.out,rfl,yx.below⟩
 | ok x =>
 rw[hd]at hs;obtain⟨ja,jb,jc,jd,H2,rfl,yY,lR⟩:=hs;have Ml:=Hh (eo hd);have HD:Hid (∀ z,tu x=z→rF l=match z with | none=>.error 4 | some c=>.ok c):=by rintro z rfl;rw[rF,hd]
 replace hR:=(hR.below yY.below).alloc (zH x ja jb jc jd);have Ot:=yY.none Nm (by simp);replace hG:=(hG.trans yY).alloc (zH x ja jb jc jd);have De:=Hh hR.lt;have FR:=Hh (cg (HT.out.mono hG.le) Ml.out lR _ hG.holds);clear hd yY lR;go_wp2_with fail
 refine FR.out.mono ?_
 rintro e w5 (⟨nB,rfl,xz⟩ | ⟨c5,a5,H5,nB,rfl,xC,Qa⟩)
 ·have E:=Hh (HD.out _ nB);replace hR:=(hR.below xz).alloc (.cells uS 90);replace hG:=(hG.below_ xz).alloc (.cells uS 90);clear nB xz FR HD;go_upto_region 6 with fail
  go_wp2_with (with_reducible refine zx ?_)
  refine zu rfl _ _ _ rfl rfl _ _ rfl rfl _ _ hR yC rfl (jQ _ _ _ _ _ _ _ _ _ _ _ rfl rfl rfl rfl rfl rfl rfl rfl rfl rfl rfl) fun wz hRz z8=>?_
  have yx:=hG.grownOwn Ot (Nat.le_refl _) z8;clear hG hR z8;go_wp2_with fail
  refine zw rfl rfl hRz rfl rfl yC rfl ?_
  exact .inl ⟨4,E.out,rfl,yx.below⟩
 have E:=Hh (HD.out _ nB);have Gf:=xC.none Ot De.out;replace hR:=(hR.below xC.below).alloc (.cells (clQ c5 a5) 90);replace hG:=(hG.trans xC).alloc (.cells (clQ c5 a5) 90);have mw:=Hh Qa;clear nB xC FR HD Ot Qa;go_upto_region 7 with fail
 go_wp2_with (with_reducible refine zx ?_)
 refine zu rfl _ _ _ rfl rfl _ _ rfl rfl _ _ hR yC rfl (jQ _ _ _ _ _ _ _ _ _ _ _ rfl rfl rfl rfl rfl rfl rfl rfl rfl rfl rfl) fun wz hRz z8=>?_
 have yx:=hG.grownOwn Gf (Nat.le_refl _) z8;clear hG hR z8;go_wp2_with fail
 refine zw rfl rfl hRz rfl rfl yC rfl ?_
 exact .inr ⟨c5,a5,H5,E.out,rfl,yx,mw.out⟩
def XR (w:World) (c:Cl) (e:Ending) (w':World):Prop:=∃ r l cd,e=.returned (.tuple #[r,.int .i64 cd])∧Fresh w l r w'∧l=(if xE c=true then zX (pO c) else [])∧cd=if xE c=true then 0 else 1
theorem cf {H:Snap}(hTab:Tabs H) {c:Cl}{a:KAd}(hc:ClA H c a) (w:World) (hH:Holds w H) :
  Calls Tryz.prog 53 #[.agg (clQ c a)] w (XR w c):=by
 have hB:=Blk.new w 90 (clQ c a);have hG:=(Grows.refl hH).alloc (.cells (clQ c a) 90);have HT:=Hh hTab;have HC:=Hh hc;have VC:=Hh (jB hTab hc _ hG.holds);have b0:=hB.cell 0 rfl;have b1:=hB.cell 1 rfl;have b2:=hB.cell 2 rfl;have b3:=hB.cell 3 rfl;have b4:=hB.cell 4 rfl;have b5:=hB.cell 5 rfl;have b6:=hB.cell 6 rfl;have b7:=hB.cell 7 rfl;have b8:=hB.cell 8 rfl;have b9:=hB.cell 9 rfl;have b10:=hB.cell 10 rfl;clear hTab hc hH;go_enter Tryz.func53,Tryz.ntmps53
 go_wp2_with fail
 refine VC.out.mono ?_
 rintro e w2 ⟨rfl,yz⟩
 replace hB:=hB.below yz;replace hG:=hG.below_ yz;clear VC yz b0 b1 b2 b3 b4 b5 b6 b7 b8 b9 b10
 cases hv:xE c with
 | false =>
  clear hB;have HV:=Hh hv;clear hv;go_wp2_with fail
  go_ret2
  exact⟨_,[],1,rfl,⟨OwnB.nil _ _,hG.below⟩,by rw[if_neg (by rw[HV.out];simp)],by rw[if_neg (by rw[HV.out];simp)]⟩
 | true =>
 have HV:=Hh hv;clear hv;have b0:=hB.cell 0 rfl;have b1:=hB.cell 1 rfl;have b2:=hB.cell 2 rfl;have b3:=hB.cell 3 rfl;have b4:=hB.cell 4 rfl;have b5:=hB.cell 5 rfl;have b6:=hB.cell 6 rfl;have b7:=hB.cell 7 rfl;have b8:=hB.cell 8 rfl;have b9:=hB.cell 9 rfl;have b10:=hB.cell 10 rfl;clear hB;go_wp2_with fail
 refine(gI (HT.out.mono hG.le) (HC.out.mono hG.le) HV.out _ hG.holds).mono ?_
 rintro e w3 ⟨v3,rfl,xa,xb,xc,xd,H3,rfl,xf,VT⟩
 replace hG:=hG.trans xf;clear xf b0 b1 b2 b3 b4 b5 b6 b7 b8 b9 b10;obtain⟨y,hy⟩:∃ y,y=pO c:=⟨_,rfl⟩
 rw[← hy]at VT⊢;have HY:=Hh hy;clear hy;have EN:=Hh (Yg (HT.out.mono hG.le) VT.arg _ hG.holds);clear VT;go_wp2_with fail
 refine EN.out.mono ?_
 rintro e w4 (⟨Zh,_,_⟩ | ⟨_,r,rfl,hf⟩)
 ·rw[HY.out,sb HV.out]at Zh
  cases Zh
 have hb:=hG.below;go_wp2_with fail
 go_ret2
 exact⟨r,zX y,0,rfl,⟨hf.own.more hb.size,hb.trans (hf.2.mono hb.size)⟩,by rw[if_pos HV.out,HY.out],by rw[if_pos HV.out]⟩
def bS (l:List UInt8):Bool:=match rF l with
 | .ok c=>decide (c.key.crv=6)
 | .error _=>false
theorem TD {w w':World}{H:Snap}{l:List UInt8}{e:Ending}(h:XQ w H l e w'):∃ (c:Cl) (a:KAd) (q:Int),e=.returned (.tuple #[.agg (clQ c a),.int .i64 q])∧Below w.heap.size w w'∧bS l=(decide (q=0)&&decide (c.key.crv=6)):=by
 rcases h with ⟨q,hq,rfl,hb⟩ | ⟨c,a,H',hq,rfl,hG,_⟩
 ·refine⟨kA,⟨none,0,none,0,none,0,none,0⟩,q,rfl,hb, ?_⟩
  unfold bS
  rw[hq];have:=Zl hq;rw[decide_eq_false (by omega)];rfl
 refine⟨c,a,0,rfl,hG.below, ?_⟩
 unfold bS
 rw[hq];rfl
def rX (m:Mb):Bool:=decide (1≤m.name.size)&&decide (m.name.size≤32)&&Lib.validD m.name.data.toList&&decide (1≤m.roles)&&decide (m.roles≤7)&&bS m.cred&&decide (m.share.length=32)
theorem aJ {H:Snap}(hTab:Tabs H) {m:Mb}{a:MAd}(hm:MemA H m a) (w:World) (hH:Holds w H) :
  Calls Tryz.prog 48 #[.agg (xQ m a)] w fun e w'=>e=.returned (.bool (rX m))∧Below w.heap.size w w':=by
 obtain⟨ln,Kc⟩:∃ n,n=m.name.size:=⟨_,rfl⟩
 obtain⟨ls,Nw⟩:∃ n,n=m.sender.length:=⟨_,rfl⟩
 obtain⟨lc,Q1⟩:∃ n,n=m.cred.length:=⟨_,rfl⟩
 obtain⟨lh,Q2⟩:∃ n,n=m.share.length:=⟨_,rfl⟩
 obtain⟨lw,pk⟩:∃ n,n=m.wrap.length:=⟨_,rfl⟩
 have Q6:((m.name.size:Nat):Int)=(ln:Int):=by rw[Kc]
 have Ee:Hid (ln≤1099511627):=by rw[Kc];exact hm.name
 have HT:=Hh hTab;have HH:=Hh hH;have hB:=Blk.new w 57 (tO m.name m.roles m.since a.sa ls a.sc a.ca lc a.cc a.ha lh a.hc a.wa lw a.wc);have hb:=zl w (.cells (tO m.name m.roles m.since a.sa ls a.sc a.ca lc a.cc a.ha lh a.hc a.wa lw a.wc) 57);have DC:=Hh (ce hTab _ (hH.below hb (Nat.le_refl _)) Q1 hm.cred);have VS:=Hh (fun w hH=>utf8_ValidString hTab w hH m.name (by have:=hm.name;omega));obtain⟨cp,V0⟩:∃ b,b=bS m.cred:=⟨_,rfl⟩
 obtain⟨vb,JU⟩:∃ b,b=Lib.validD m.name.data.toList:=⟨_,rfl⟩
 have ES:Hid (rX m=(decide (1≤ln)&&decide (ln≤32)&&vb&&decide (1≤m.roles)&&decide (m.roles≤7)&&cp&&decide (lh=32))):=by rw[Hid,rX,← Kc,← V0,← JU,← Q2]
 rw[← JU]at VS;have EM:=Hh V0;show Calls Tryz.prog 48 #[.agg (tO m.name m.roles m.since a.sa m.sender.length a.sc a.ca m.cred.length a.cc a.ha m.share.length a.hc a.wa m.wrap.length a.wc)] w _
 rw[← Nw,← Q1,← Q2,← pk];have b3:=hB.cell 3 rfl;clear Kc Nw Q1 Q2 pk V0 JU hm hTab hH;go_enter Tryz.func48,Tryz.ntmps48
 go_wp2_with fail
 refine DC.out.mono ?_
 intro e w2 h2
 obtain⟨c5,a5,q,rfl,yz,Px⟩:=TD h2;rw[← EM.out]at Px;have Jm:=Hh Px;clear h2 Px DC EM;replace hB:=(hB.below yz).alloc (.cells (clQ c5 a5) 90);have hQ:=Blk.new w2 90 (clQ c5 a5);replace hb:=hb.trans (yz.mono hb.size);replace hb:=hb.alloc hb.size (.cells (clQ c5 a5) 90);obtain⟨Q,iG⟩:∃ Q,w2.heap.size=Q:=⟨_,rfl⟩
 obtain⟨w3,cO⟩:∃ w3,w2.alloc (.cells (clQ c5 a5) 90)=w3:=⟨_,rfl⟩
 rw[iG,cO]at hQ;rw[cO]at hB hb;have HW:=Hh (And.intro iG cO);clear iG cO yz b3;go_upto_region 2 with fail
 try rw[HW.out.1]
 try rw[HW.out.2]
 clear HW;have n0:=hB.cell 0 rfl;have n2:=hB.cell 2 rfl;have n4:=hB.cell 4 rfl;have v5:w3.cell? ⟨Q,5,none⟩=some (.int .i64 c5.key.crv):=hQ.cell 5 rfl;obtain⟨crv,Lp⟩:∃ z,c5.key.crv=z:=⟨_,rfl⟩
 simp only[Lp]at v5 Jm
 clear Lp hQ
 by_cases h1:(1:Int)≤(ln:Int)
 case neg =>
  have E:Hid (rX m=false):=by rw[Hid,ES.out,decide_eq_false (show ¬ 1≤ln by omega)];simp
  have Ew:decide ((1:Int)≤(ln:Int))=false:=decide_eq_false h1;clear hB;go_wp2_with fail
  go_ret
  exact⟨by rw[E.out];rfl,hb⟩
 have Ew:decide ((1:Int)≤(ln:Int))=true:=decide_eq_true h1
 by_cases h2:(ln:Int)≤32
 case neg =>
  have E:Hid (rX m=false):=by rw[Hid,ES.out,decide_eq_false (show ¬ ln≤32 by omega)];simp
  have Ex:decide ((ln:Int)≤32)=false:=decide_eq_false h2;clear hB;go_wp2_with fail
  go_ret
  exact⟨by rw[E.out];rfl,hb⟩
 have Ex:decide ((ln:Int)≤32)=true:=decide_eq_true h2;have QN:Hid (decide (1≤ln)=true∧decide (ln≤32)=true):=⟨decide_eq_true (by omega),decide_eq_true (by omega)⟩
 go_wp2_with fail
 refine(VS.out _ (HH.out.below hb (Nat.le_refl _))).mono ?_
 rintro e w4 ⟨rfl,sW⟩
 replace hB:=hB.below sW;have E9:=v5;replace v5:=yr v5 sW;replace hb:=hb.trans (sW.mono hb.size);clear sW E9 n0 n2 n4 h1 Ew h2 Ex;have n2:=hB.cell 2 rfl;have n4:=hB.cell 4 rfl
 cases vb with
 | false =>
  have E:Hid (rX m=false):=by rw[Hid,ES.out];simp
  clear hB;go_wp2_with fail
  go_ret
  exact⟨by rw[E.out];rfl,hb⟩
 | true =>
 by_cases h3:1≤m.roles
 case neg =>
  have E:Hid (rX m=false):=by rw[Hid,ES.out,decide_eq_false h3];simp
  have Ey:decide (1≤m.roles)=false:=decide_eq_false h3;clear hB;go_wp2_with fail
  go_ret
  exact⟨by rw[E.out];rfl,hb⟩
 have Ey:decide (1≤m.roles)=true:=decide_eq_true h3
 by_cases h4:m.roles≤7
 case neg =>
  have E:Hid (rX m=false):=by rw[Hid,ES.out,decide_eq_false h4];simp
  have Ez:decide (m.roles≤7)=false:=decide_eq_false h4;clear hB;go_wp2_with fail
  go_ret
  exact⟨by rw[E.out];rfl,hb⟩
 have Ez:decide (m.roles≤7)=true:=decide_eq_true h4
 by_cases h5:q=0
 case neg =>
  have E:Hid (rX m=false):=by rw[Hid,ES.out,Jm.out,decide_eq_false h5];simp
  have DM:(q=0)=False:=eq_false h5;have DN:(q==0)=false:=by rw[beq_eq_false_iff_ne];exact h5
  clear hB;go_wp2_with fail
  go_ret
  exact⟨by rw[E.out];rfl,hb⟩
 have DM:(q=0)=True:=eq_true h5;have DN:(q==0)=true:=by rw[beq_iff_eq];exact h5
 by_cases h6:crv=6
 case neg =>
  have E:Hid (rX m=false):=by rw[Hid,ES.out,Jm.out,decide_eq_false h6];simp
  have DP:(crv=6)=False:=eq_false h6;have DQ:(crv==6)=false:=by rw[beq_eq_false_iff_ne];exact h6
  clear hB;go_wp2_with fail
  go_ret
  exact⟨by rw[E.out];rfl,hb⟩
 have DP:(crv=6)=True:=eq_true h6;have DQ:(crv==6)=true:=by rw[beq_iff_eq];exact h6
 by_cases h7:(lh:Int)=32
 case neg =>
  have E:Hid (rX m=false):=by rw[Hid,ES.out,decide_eq_false (show ¬ lh=32 by omega)];simp
  have DR:((lh:Int)=32)=False:=eq_false h7;have DT:((lh:Int)==32)=false:=by rw[beq_eq_false_iff_ne];exact h7
  clear hB;go_wp2_with fail
  go_ret
  exact⟨by rw[E.out];rfl,hb⟩
 have DR:((lh:Int)=32)=True:=eq_true h7;have DT:((lh:Int)==32)=true:=by rw[beq_iff_eq];exact h7
 have E:Hid (rX m=true):=by rw[Hid,ES.out,Jm.out,QN.out.1,QN.out.2,Ey,Ez,decide_eq_true h5,decide_eq_true h6,decide_eq_true (show lh=32 by omega)];rfl
 clear hB;go_wp2_with fail
 go_ret
 exact⟨by rw[E.out];rfl,hb⟩
theorem qr {H:Snap}(hTab:Tabs H):qj H:=fun m a w hm hH=>(aJ hTab hm w hH).mono fun _ _ h=>⟨_,h.1,h.2⟩
structure XS (W0:World) (H:Snap) (tb tt tv:TypeId) (bc tc vc:Array Value) (P:Nat) (v:Value) (l:List Mb) (w:World):Prop where
 below:Below W0.heap.size W0 w
 box:Blk w W0.heap.size tb bc
 res:Blk w (W0.heap.size+1) tt tc
 var:Blk w P tv vc
 far:W0.heap.size+2≤P
 own:OwnX ru 57 w (P+1) v H l
section
variable {W0 w w':World} {H:Snap} {tb tt tv:TypeId} {bc tc vc vc':Array Value} {P:Nat} {v v':Value} {l l':List Mb}
theorem XS.belowX (h:XS W0 H tb tt tv bc tc vc P v l w) (k:Below w.heap.size w w'):XS W0 H tb tt tv bc tc vc P v l w' :=
 ⟨h.below.trans (k.mono h.below.size),h.box.below k,h.res.below k,h.var.below k,h.far,h.own.below k⟩
theorem XS.alloc (h:XS W0 H tb tt tv bc tc vc P v l w) (o:Obj):XS W0 H tb tt tv bc tc vc P v l (w.alloc o):=h.belowX (zl w o)
theorem XS.app (h:XS W0 H tb tt tv bc tc vc P v l w) (hO:OwnX ru 57 w' (P+1) v' H l') (hg:w.grownBy w' v.ownBlock):XS W0 H tb tt tv bc tc vc P v' l' w' :=
 ⟨h.below.grown hg h.below.size (fun q hq=>by have:=(h.own.lt q hq).1;have:=h.far;omega),h.box.grown hg (fun e=>by have:=(h.own.lt _ e).1;have:=h.far;omega),h.res.grown hg (fun e=>by have:=(h.own.lt _ e).1;have:=h.far;omega),h.var.grown hg (fun e=>by have:=(h.own.lt _ e).1;omega),h.far,hO⟩
theorem XS.set (h:XS W0 H tb tt tv bc tc vc P v l w) (hB:Blk w' P tv vc') (hg:w.grownBy w' (some P)):XS W0 H tb tt tv bc tc vc' P v l w' :=
 ⟨h.below.grown hg h.below.size (by rintro q ⟨⟩;have:=h.far;omega),h.box.grown hg (by intro e;injection e with e;have:=h.far;omega),h.res.grown hg (by intro e;injection e with e;have:=h.far;omega),hB,h.far,h.own.kept hg (by
  cases hv:v.ownBlock with
  | none=>exact .inl rfl
  | some g=>exact .inr (by intro e;injection e with e;have:=(h.own.lt g hv).1;omega))⟩
theorem XS.base (h:XS W0 H tb tt tv bc tc vc P v l w):P+1≤w.heap.size:=h.var.lt
end
def XEx (W0:World) (H:Snap) (tb tt tv:TypeId) (bc tc:Array Value) (vc:Value→Array Value) (P j:Nat) (w:World):Prop:=∃ (v:Value) (l:List Mb),l.length≤j∧XS W0 H tb tt tv bc tc (vc v) P v l w
theorem OwnX.freezeAt {α:Type}{L:Lie α}{t:TypeId}{W0 w:World}{H:Snap}{A:Option Addr}{m c P:Nat}{l:List α}(hH:Holds W0 H) (hb:Below W0.heap.size W0 w) (hP:W0.heap.size≤P) (h:OwnX L t w P (.slice A m c) H l):∃ H',Grows W0 H w H'∧IsRow L H' A c l∧m=l.length∧∀ g,W0.heap.size≤g→g<P→H' g=none:=by
 obtain⟨H',hl,hh,hf,hn,hi⟩:=h.snap (hH.below hb (Nat.le_refl _)) (fun g hg=>hH.none_of_ge (by have:=(h.lt g (by cases A <;> simp_all [Value.ownBlock])).1;omega))
 refine⟨H',⟨hb,hl,hh,fun b o Np=>?_⟩,hi,hn,fun g h1 h2=>?_⟩
 ·rcases hf b o Np with h1 | h1
  ·exact .inl h1
  exact .inr (by have:=(h.lt b (by cases A <;> simp_all [Value.ownBlock])).1;omega)
 cases hz:H' g with
 | none=>rfl
 | some o =>
 rcases hf g o hz with h3 | h3
 ·rw[hH.none_of_ge h1]at h3;cases h3
 have:=(h.lt g (by cases A <;> simp_all [Value.ownBlock])).1
 omega
theorem kf {a b:ByteArray}(h:¬ a=b):(a==b)=false∧(a.toList==b.toList)=false:=by
 have f3:(a.toList==b.toList)=false:=by
  cases h':(a.toList==b.toList) with
  | false=>rfl
  | true=>exact absurd (by have:=beq_iff_eq.1 h';rw[ByteArray.toList_eq,ByteArray.toList_eq]at this;exact ByteArray.ext (Array.toList_inj.1 this)) h
 exact⟨by rw[beq_toListBytes];exact f3,f3⟩
theorem ke {a b:ByteArray}(h:a=b):(a==b)=true∧(a.toList==b.toList)=true :=
 ⟨by rw[h,beq_toListBytes];exact beq_self_eq_true _,by rw[h];exact beq_self_eq_true _⟩
theorem jf {H:Snap}(hS:qj H) {g:Gp}{a:EAd}(hg:GpA H g a) (name:ByteArray) (w:World) (hH:Holds w H) :
  Calls Tryz.prog 26 #[.agg (gpQ g a),.string name] w (jI w H):=by
 have V:Hid (∀ wx,Holds wx H→Calls Tryz.prog 18 #[.agg (gpC a.ia g.id.length a.ic a.sa g.secret.length a.sc g.number a.ma g.members.length a.mc)] wx (qQ wx g)):=fun wx hx=>sZ hS hg wx hx
 have C:Hid (∀ wx,Holds wx H→Calls Tryz.prog 52 #[.agg (gpC a.ia g.id.length a.ic a.sa g.secret.length a.sc g.number a.ma g.members.length a.mc)] wx (nv wx H g a)):=fun wx hx=>mC hg wx hx
 have HG:=Hh hg;have HH:=Hh hH;obtain⟨il,rC⟩:∃ n,n=g.id.length:=⟨_,rfl⟩
 obtain⟨sl,sP⟩:∃ n,n=g.secret.length:=⟨_,rfl⟩
 obtain⟨ml,rS⟩:∃ n,n=g.members.length:=⟨_,rfl⟩
 have HN:=Hh (And.intro rC (And.intro sP rS));show Calls Tryz.prog 26 #[.agg (gpC a.ia g.id.length a.ic a.sa g.secret.length a.sc g.number a.ma g.members.length a.mc),.string name] w (jI w H)
 rw[← rC,← sP,← rS]at V C⊢;have hB:=(Blk.new w 38 (gpC a.ia il a.ic a.sa sl a.sc g.number a.ma ml a.mc)).alloc (.cells xN 38);have hT:=Blk.new (w.alloc (.cells (gpC a.ia il a.ic a.sa sl a.sc g.number a.ma ml a.mc) 38)) 38 xN;rw[zW]at hT;have hb:=((zl w (.cells (gpC a.ia il a.ic a.sa sl a.sc g.number a.ma ml a.mc) 38)).alloc (zl w (.cells (gpC a.ia il a.ic a.sa sl a.sc g.number a.ma ml a.mc) 38)).size (.cells xN 38))
 have BAD:Hid (∀ (wx:World) (n:Int),Below w.heap.size w wx→jI w H (.returned (.tuple #[.agg xN,.int .i64 n])) wx):=fun wx n h2=>⟨⟨[],[],0,[]⟩,⟨none,0,none,0,none,0⟩,H,n,rfl,Grows.of_below HH.out h2,dO H⟩
 have g0:=hB.cell 0 rfl;have g1:=hB.cell 1 rfl;have g2:=hB.cell 2 rfl;have g3:=hB.cell 3 rfl;clear rC sP rS hg hH hS;go_enter Tryz.func26,Tryz.ntmps26
 go_upto_region 1 with fail
 generalize (w.alloc (.cells (gpC a.ia il a.ic a.sa sl a.sc g.number a.ma ml a.mc) 38)).alloc (.cells xN 38)=w1 at hB hT hb g0 g1 g2 g3⊢
 go_wp2_with fail
 refine(V.out _ (HH.out.below hb (Nat.le_refl _))).mono ?_
 rintro e w2 ⟨b2,rfl,oX,yz⟩
 replace hB:=hB.below yz;replace hT:=hT.below yz;replace hb:=hb.trans (yz.mono hb.size);have HA:=Hh oX;clear yz oX V g0 g1 g2 g3
 cases b2 with
 | false =>
  clear hB;go_wp2_with (with_reducible refine zx ?_)
  refine zu rfl _ _ _ rfl rfl _ _ rfl rfl _ _ hT zZ rfl (vR _ _ _ _ rfl rfl rfl rfl) fun w9 wL hg9=>?_
  have uN:=hb.grown hg9 hb.size (by rintro q ⟨⟩;omega);clear hT hb hg9;go_wp2_with fail
  exact zw rfl rfl wL rfl rfl zZ rfl (BAD.out _ _ uN)
 | true =>
 simp only[Bool.not_true]
 have GD:=Hh (HA.out rfl);clear HA;have g0:=hB.cell 0 rfl;have g1:=hB.cell 1 rfl;have g2:=hB.cell 2 rfl;have g3:=hB.cell 3 rfl;go_wp2_with fail
 refine(C.out _ (HH.out.below hb (Nat.le_refl _))).mono ?_
 rintro e w3 ⟨v,rfl,qC,vg⟩
 obtain⟨VA,vc,rfl,ut⟩:=qC.form;replace hB:=hB.below vg;replace hT:=hT.below vg;replace hb:=hb.trans (vg.mono hb.size);rw[← HN.out.1,← HN.out.2.1,← HN.out.2.2];clear ut qC vg g0 g1 g2 g3 C;have hP:=Blk.new w3 38 (gpC a.ia il a.ic a.sa sl a.sc g.number VA ml vc);have mY:=hT.lt;replace hB:=hB.alloc (.cells (gpC a.ia il a.ic a.sa sl a.sc g.number VA ml vc) 38);replace hT:=hT.alloc (.cells (gpC a.ia il a.ic a.sa sl a.sc g.number VA ml vc) 38);replace hb:=hb.alloc hb.size (.cells (gpC a.ia il a.ic a.sa sl a.sc g.number VA ml vc) 38);obtain⟨P,oS⟩:∃ P,w3.heap.size=P:=⟨_,rfl⟩
 obtain⟨w4,fU⟩:∃ w4,w3.alloc (.cells (gpC a.ia il a.ic a.sa sl a.sc g.number VA ml vc) 38)=w4:=⟨_,rfl⟩
 rw[oS,fU]at hP;rw[fU]at hB hT hb;rw[oS]at mY;have HW:=Hh (And.intro oS fU);clear oS fU;go_upto_region 4 with fail
 try rw[HW.out.1]
 try rw[HW.out.2]
 clear HW;go_wp2_with (with_reducible refine zx ?_)
 refine zr rfl _ _ _ rfl rfl P 3 (.slice none 0 0) rfl rfl _ _ hP (by kernel_rfl) (by simp) rfl fun w5 cC yg=>?_
 have hX:XS w H 38 38 38 (gpC a.ia il a.ic a.sa sl a.sc g.number a.ma ml a.mc) xN #[.slice a.ia il a.ic,.slice a.sa sl a.sc,.int .i64 (g.number),.slice none 0 0] P (.slice none 0 0) [] w5:=⟨hb.grown yg hb.size (by rintro q ⟨⟩;omega),hB.gr yg (by omega),hT.gr yg (by omega),cC,by omega,OwnX.nil ru 57 _ (P+1) H⟩
 clear hP hB hT hb yg cC mY;have g3:=hX.box.cell 3 rfl;go_wp2_with fail
 clear g3;have bq:Hid ((ml:Int)≤16):=by have h:=GD.out.2.2.2.2.2.1;have h2:=HN.out.2.2;rw[Hid];omega
 go_loopw [19] (fun v19 wr=>∃ j:Nat,v19=.int .i64 (j:Int)∧Hid (j≤ml)∧XEx w H 38 38 38 (gpC a.ia il a.ic a.sa sl a.sc g.number a.ma ml a.mc) xN (fun v=>#[.slice a.ia il a.ic,.slice a.sa sl a.sc,.int .i64 g.number,v]) P j wr) (fun v19 _=>(ml:Int).toNat+1-(intOf v19).toNat)
 case atStart=>exact⟨0,rfl,Nat.zero_le _,_,[],Nat.zero_le _,hX⟩
 case round =>
 clear hX;obtain⟨j,rfl,HJ,v,l,NK,hX⟩:=hrel;have QQ:=Hh NK;clear NK
 by_cases yy:(j:Int)<(ml:Int)
 ·have u9:j<g.members.length:=by rw[← HN.out.2.2];omega
  obtain⟨gb,go,me,rL⟩:=HG.out.members.at_ (by omega);obtain⟨d,hd,hc⟩:=rL j u9;obtain⟨ma,hd,oN⟩:=hd;subst hd
  generalize g.members[j]=m at *
  have wM:=HH.out.below hX.below (Nat.le_refl _);have r0:=wM.cell (hc 0 _ rfl);have r1:=wM.cell (hc 1 _ rfl);have r2:=wM.cell (hc 2 _ rfl);have r3:=wM.cell (hc 3 _ rfl);have r4:=wM.cell (hc 4 _ rfl);have r5:=wM.cell (hc 5 _ rfl);have r6:=wM.cell (hc 6 _ rfl)
  simp only[ru,Nat.add_zero,Nat.zero_add,← Nat.add_assoc]at r0 r1 r2 r3 r4 r5 r6
  have fH:=Hh oN;have hQ:=Blk.new wr 57 (xQ m ma);replace hX:=hX.alloc (.cells (xQ m ma) 57);obtain⟨Q,iG⟩:∃ Q,wr.heap.size=Q:=⟨_,rfl⟩
  obtain⟨w6,pE⟩:∃ w6,wr.alloc (.cells (xQ m ma) 57)=w6:=⟨_,rfl⟩
  rw[iG,pE]at hQ;rw[pE]at hX;have lQ:=Hh (And.intro iG pE);have fE:(j:Int)+1≤9223372036854775807:=by have:=bq.out;omega
  have tR:=Hh (And.intro u9 yy);have VN:=Hh me;clear iG pE rL hc oN u9 wM;rw[me];go_upto_region 8 with fail
  try rw[lQ.out.1]
  try rw[lQ.out.2]
  clear r0 r1 r2 r3 r4 r5 r6 me lQ;have q0:=hQ.cell 0 rfl
  by_cases ZY:m.name=name
  ·have f1:(m.name=name)=True:=eq_true ZY;obtain⟨f2,f3⟩:=ke ZY;clear ZY hQ;go_wp2_with fail
   go_roundw
   case rel=>exact⟨j+1,by go_num,(by have:=tR.out.2;exact(show j+1≤ml by omega)),v,l,(by have:=QQ.out;omega),(by rw[← VN.out];exact hX)⟩
   case measure=>have:=tR.out.2;simp[intOf];omega
  have f1:(m.name=name)=False:=eq_false ZY;obtain⟨f2,f3⟩:=kf ZY;clear ZY;have q1:=hQ.cell 1 rfl;have q2:=hQ.cell 2 rfl;have q3:=hQ.cell 3 rfl;have q4:=hQ.cell 4 rfl;have q5:=hQ.cell 5 rfl;have q6:=hQ.cell 6 rfl;have p3:=hX.var.cell 3 rfl;obtain⟨LA,lc,rfl,ut⟩:=hX.own.form;obtain⟨ll,ir⟩:∃ n,l.length=n:=⟨_,rfl⟩
  have lP:=Hh ir;rw[ir]at hX p3 ut;clear hQ ut ir;go_wp2_with (at_builtin;refine zf ?_)
  unfold zU
  replace hX:=hX.alloc (.cells (xQ m ma) 57)
  refine OwnX.append rfl (.tmp 28) (.tmp 30) 31 rfl Tryz.underlying31 rfl (by omega) kp rfl hX.own _ 1 _ (xQ m ma).toList [m] rfl rfl (RowC.one ⟨ma,rfl,fH.out⟩) (Src.new _ _ _ _ rfl _ rfl) (by have h1:=QQ.out;have h2:=bq.out;have h3:=tR.out;simp only[List.length_singleton];omega) hX.base fun v8 w8 jV hg8 hat8=>?_
  replace hX:=hX.app jV hg8;obtain⟨A8,c8,rfl,ut⟩:=jV.form;obtain⟨m8,XM⟩:∃ k,(l++[m]).length=k:=⟨_,rfl⟩
  rw[XM]at hX⊢;clear jV hg8 hat8 ut XM q0 q1 q2 q3 q4 q5 q6 p3;go_wp2_with (with_reducible refine zx ?_)
  refine zr rfl _ _ _ rfl rfl P 3 (.slice A8 m8 c8) rfl rfl _ _ hX.var (by kernel_rfl) (by simp) rfl fun w9 hP9 hg9=>?_
  replace hX:=hX.set hP9 hg9;clear hP9 hg9;go_wp2_with fail
  go_roundw
  case rel=>exact⟨j+1,by go_num,(by have:=tR.out.2;exact(show j+1≤ml by omega)),_,l++[m],(by have:=QQ.out;rw[List.length_append,List.length_singleton];omega),(by rw[← VN.out];exact hX)⟩
  case measure=>have:=tR.out.2;simp[intOf];omega
 obtain⟨LA,lc,rfl,ut⟩:=hX.own.form;obtain⟨ll,ir⟩:∃ n,l.length=n:=⟨_,rfl⟩
 have lP:=Hh ir;rw[ir]at hX;clear ut ir;have p3:=hX.var.cell 3 rfl;have g3:=hX.box.cell 3 rfl
 by_cases tH:ll=ml
 ·have e1:((ll:Int)=(ml:Int))=True:=eq_true (by omega);have e2:((ll:Int)==(ml:Int))=true:=beq_iff_eq.2 (by omega);clear tH;go_wp2_with (with_reducible refine zx ?_)
  refine zu rfl _ _ _ rfl rfl _ _ rfl rfl _ _ hX.res zZ rfl (vR _ _ _ _ rfl rfl rfl rfl) fun w9 wL hg9=>?_
  have uN:=hX.below.grown hg9 hX.below.size (by rintro q ⟨⟩;omega);clear hX hg9;go_wp2_with fail
  exact zw rfl rfl wL rfl rfl zZ rfl (BAD.out _ _ uN)
 have e1:((ll:Int)=(ml:Int))=False:=eq_false (by omega);have e2:((ll:Int)==(ml:Int))=false:=beq_eq_false_iff_ne.2 (by omega);have g2:=hX.box.cell 2 rfl;clear tH
 by_cases hx:g.number=65535
 ·have e3:(g.number=65535)=True:=eq_true hx;have e4:(g.number==65535)=true:=beq_iff_eq.2 hx;clear hx;go_wp2_with (with_reducible refine zx ?_)
  refine zu rfl _ _ _ rfl rfl _ _ rfl rfl _ _ hX.res zZ rfl (vR _ _ _ _ rfl rfl rfl rfl) fun w9 wL hg9=>?_
  have uN:=hX.below.grown hg9 hX.below.size (by rintro q ⟨⟩;omega);clear hX hg9;go_wp2_with fail
  exact zw rfl rfl wL rfl rfl zZ rfl (BAD.out _ _ uN)
 have e3:(g.number=65535)=False:=eq_false hx;have e4:(g.number==65535)=false:=beq_eq_false_iff_ne.2 hx;clear hx;have p2:=hX.var.cell 2 rfl;have kw:IntKind.i64.wrap (g.number+1)=g.number+1:=IntWalk.i64_in _ (by have h1:=GD.out.2.2.2.1;have h2:=GD.out.2.2.2.2.1;omega);go_wp2_with (with_reducible refine zx ?_)
 refine zr rfl _ _ _ rfl rfl P 2 (.int .i64 (g.number+1)) rfl rfl _ _ hX.var (by kernel_rfl) (by simp) rfl fun w7 QY hg7=>?_
 replace hX:=hX.set QY hg7;clear QY hg7 p2 p3 g2 g3 e1 e2 e3 e4 kw;replace hX:XS w H 38 38 38 (gpC a.ia il a.ic a.sa sl a.sc g.number a.ma ml a.mc) xN #[.slice a.ia il a.ic,.slice a.sa sl a.sc,.int .i64 (g.number+1),.slice LA ll lc] P (.slice LA ll lc) l w7:=hX;have p0:=hX.var.cell 0 rfl;have p1:=hX.var.cell 1 rfl;have p2:=hX.var.cell 2 rfl;have p3:=hX.var.cell 3 rfl;obtain⟨H9,tZ,Ze,St,VG⟩:=hX.own.freezeAt HH.out hX.below (by have:=hX.far;omega);replace VG:=VG (w.heap.size+1) (by omega) (by have:=hX.far;omega);go_wp2_with (with_reducible refine zx ?_)
 refine zu rfl _ _ _ rfl rfl _ _ rfl rfl _ _ hX.res zZ rfl (vR _ _ _ _ rfl rfl rfl rfl) fun w9 wL hg9=>?_
 have iF:=tZ.grownOwn VG (by omega) hg9;clear hX tZ hg9 p0 p1 p2 p3;go_wp2_with fail
 refine zw rfl rfl wL rfl rfl zZ rfl ?_
 exact⟨⟨g.id,g.secret,g.number+1,l⟩,⟨a.ia,a.ic,a.sa,a.sc,LA,lc⟩,H9,0,by rw[HN.out.1,HN.out.2.1,← lP.out];rfl,iF,⟨HG.out.id.mono iF.le,HG.out.secret.mono iF.le,by have h1:=GD.out.2.2.2.1;have h2:=GD.out.2.2.2.2.1;show(-9223372036854775808:Int)≤g.number+1∧g.number+1≤9223372036854775807;omega,Ze,by have h1:=HG.out.small;have h2:=QQ.out;have h3:=HJ.out;have h4:=bq.out;exact⟨h1.1,h1.2.1,show l.length≤1099511 by omega⟩⟩⟩
end Go.Proofs.YtjpcnhncoidliaaGreatDoor
