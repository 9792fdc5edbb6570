/- squeezed. Walks: the claims of an item, by t -/
import Derived.Test.YtgcjjhibdbafmabGreatDoorK19
set_option linter.unusedVariables false
set_option linter.unusedSimpArgs false
set_option maxRecDepth 100000
set_option maxHeartbeats 51200000
namespace Go.Proofs.YtgcjjhibdbafmabGreatDoor
open Go.RowKit
abbrev yR:Array Value:=#[.string ⟨#[]⟩,.string ⟨#[]⟩,.int .i64 0,.int .i64 0,.int .i64 0,.int .i64 0,.int .i64 0,.slice none 0 0,.slice none 0 0,.slice none 0 0,.slice none 0 0]
theorem zU:(Tryz.prog.info? 26).map (·.size)=some 11:=by kernel_rfl
theorem pH:(Tryz.prog.info? 24).map (·.size)=some 7:=by kernel_rfl
theorem uR (a b c d e f g h i j k:Value) (ha:a.oneCell'=true) (hb:b.oneCell'=true) (hc:c.oneCell'=true) (hd:d.oneCell'=true) (he:e.oneCell'=true) (hf:f.oneCell'=true) (hg:g.oneCell'=true) (hh:h.oneCell'=true) (hi:i.oneCell'=true) (hj:j.oneCell'=true) (hk:k.oneCell'=true) :
  (#[a,b,c,d,e,f,g,h,i,j,k]:Array Value).all (·.oneCell')=true:=by simp[ha,hb,hc,hd,he,hf,hg,hh,hi,hj,hk]
theorem bE (H:Snap):ClA H nL ⟨none,0,none,0,none,0,none,0⟩ :=
 ⟨by show(0:Nat)≤_;omega,by show(0:Nat)≤_;omega,by show(-9223372036854775808:Int)≤0∧(0:Int)≤9223372036854775807;omega,by show(-9223372036854775808:Int)≤0∧(0:Int)≤9223372036854775807;omega,⟨by simp[nL,yF],by simp[nL,yF],by simp[nL,yF],IsBytes.nil _,IsBytes.nil _,IsBytes.nil _,IsBytes.nil _⟩⟩
structure CS (W0:World) (H:Snap) (xc cc:Array Value) (w:World) (Hr:Snap):Prop where
 grows:Grows W0 H w Hr
 box:Blk w W0.heap.size 57 xc
 res:Blk w (W0.heap.size+1) 26 yR
 var:Blk w (W0.heap.size+2) 26 cc
 hR:Hr (W0.heap.size+1)=none
 hV:Hr (W0.heap.size+2)=none
structure NB (W0:World) (Hr:Snap) (w:World) (g:Nat) (cells:Array Value):Prop where
 blk:Blk w g 57 cells
 none:Hr g=none
 far:W0.heap.size+3≤g
section
variable {W0 w w':World} {H Hr Hs:Snap} {xc cc cc' c c':Array Value} {g g':Nat}
theorem CS.grow (h:CS W0 H xc cc w Hr) (k:Grows w Hr w' Hs):CS W0 H xc cc w' Hs :=
 ⟨h.grows.trans k,h.box.below k.below,h.res.below k.below,h.var.below k.below,k.none h.hR h.res.lt,k.none h.hV h.var.lt⟩
theorem CS.below (h:CS W0 H xc cc w Hr) (k:Below w.heap.size w w'):CS W0 H xc cc w' Hr:=h.grow (Grows.of_below h.grows.holds k)
theorem CS.alloc (h:CS W0 H xc cc w Hr) (o:Obj):CS W0 H xc cc (w.alloc o) Hr:=h.below (zi w o)
theorem CS.drew (h:CS W0 H xc cc w Hr):CS W0 H xc cc w.drew Hr:=h.below (Below.refl _ _).drew
theorem CS.set (h:CS W0 H xc cc w Hr) (hB:Blk w' (W0.heap.size+2) 26 cc') (hg:w.grownBy w' (some (W0.heap.size+2))):CS W0 H xc cc' w' Hr :=
 ⟨h.grows.grownOwn h.hV (by omega) hg,h.box.gr hg (by omega),h.res.gr hg (by omega),hB,h.hR,h.hV⟩
theorem CS.put (h:CS W0 H xc cc w Hr) (n:NB W0 Hr w g c) (hg:w.grownBy w' (some g)):CS W0 H xc cc w' Hr :=
 ⟨h.grows.grownOwn n.none (by have:=n.far;omega) hg,h.box.grown hg (by intro e;injection e with e;have:=n.far;omega),h.res.grown hg (by intro e;injection e with e;have:=n.far;omega),h.var.grown hg (by intro e;injection e with e;have:=n.far;omega),h.hR,h.hV⟩
theorem CS.newI (h:CS W0 H xc cc w Hr):NB W0 Hr (w.alloc (.cells xZ 57)) w.heap.size xZ :=
 ⟨Blk.new _ _ _,h.grows.holds.none_of_ge (Nat.le_refl _),by have:=h.var.lt;omega⟩
theorem NB.alloc (n:NB W0 Hr w g c) (o:Obj):NB W0 Hr (w.alloc o) g c:=⟨n.blk.alloc o,n.none,n.far⟩
theorem NB.ne_new (n:NB W0 Hr w g c):w.heap.size≠g:=by have:=n.blk.lt;omega
theorem NB.put (n:NB W0 Hr w g c) (hB:Blk w' g 57 c'):NB W0 Hr w' g c':=⟨hB,n.none,n.far⟩
theorem NB.kept (n:NB W0 Hr w g c) (hg:w.grownBy w' (some g')) (xH:g'≠g):NB W0 Hr w' g c:=⟨n.blk.grown hg (by intro e;injection e with e;exact xH e),n.none,n.far⟩
end
def g8 (w:World) (H:Snap) (x:Itm) (e:Ending) (w':World):Prop :=
 (xq x=none∧e=.returned (.tuple #[.agg yR,.bool false])∧Below w.heap.size w w')∨
 (∃ c a H',xq x=some c∧e=.returned (.tuple #[.agg (clQ c a),.bool true])∧Grows w H w' H'∧ClA H' c a)
theorem a7 {x:Itm}(h:¬ x.kind=5):xq x=none:=if_neg h
theorem gv {x:Itm}(h:vA nL x.items=none):xq x=none:=by
 unfold xq
 rw[h]
 split <;> rfl
theorem cT {x:Itm}{c:Cl}(h5:x.kind=5) (h:vA nL x.items=some c):xq x=if zB c&&tq (xI c) x then some c else none:=by
 unfold xq
 rw[h,if_pos h5]
theorem Y9 {w w':World}{H:Snap}{x:Itm}{e:Ending}(hH:Holds w H) (h:fT w H x e w'):∃ a H' cd,e=.returned (.tuple #[.agg (vV (rl x) a),.int .i64 cd])∧Grows w H w' H'∧KeyA H' (rl x) a:=by
 have nilA:KeyA H yF ⟨none,0,none,0,none,0,none,0⟩:=⟨by simp[yF],by simp[yF],by simp[yF],IsBytes.nil _,IsBytes.nil _,IsBytes.nil _,IsBytes.nil _⟩
 rcases h with ⟨h1,rfl,hb⟩ | ⟨h1,h2,rfl,hb⟩ | ⟨q,a,H',h1,h2,rfl,hG,hk⟩
 ·rw[dr (fun h=>by rw[h1]at h;exact absurd h.1 (by decide))]
  exact⟨⟨none,0,none,0,none,0,none,0⟩,H,1,rfl,Grows.of_below hH hb,nilA⟩
 ·rw[dr (fun h=>h2 h.2)]
  exact⟨⟨none,0,none,0,none,0,none,0⟩,H,12,rfl,Grows.of_below hH hb,nilA⟩
 rw[ml h1 h2]
 exact⟨a,H',0,rfl,hG,hk⟩
theorem fM {H:Snap}(hTab:Tabs H) {x:Itm}(hvx:zL x=true) {ba:Option Addr}{bc:Nat}{ia:Option Addr}{ic:Nat}(hx:IsItem H ba bc ia ic x) (w:World) (hH:Holds w H) :
  Calls Tryz.prog 35 #[xj x ba bc ia ic] w (g8 w H x):=by
 have hX:=((Blk.new w 57 #[.int .i64 x.kind,.int .u64 x.n,.slice ba x.bytes.length bc,.slice ia x.items.length ic]).alloc (.cells yR 26)).alloc (.cells yR 26);have hR:=(Blk.new (w.alloc (zS x ba bc ia ic)) 26 yR).alloc (.cells yR 26);have hV:=Blk.new ((w.alloc (zS x ba bc ia ic)).alloc (.cells yR 26)) 26 yR;rw[zX]at hR;rw[zX,zX]at hV;have zV:CS w H #[.int .i64 x.kind,.int .u64 x.n,.slice ba x.bytes.length bc,.slice ia x.items.length ic] yR _ H:=⟨(((Grows.refl hH).alloc (zS x ba bc ia ic)).alloc (.cells yR 26)).alloc (.cells yR 26),hX,hR,hV,hH.none_of_ge (by omega),hH.none_of_ge (by omega)⟩
 have HT:=Hh hTab;have HI:=Hh hx;have HV:=Hh hvx;have a0:=zV.box.cell 0 rfl;clear hTab hx hvx hH hX hR hV;go_enter Tryz.func35,Tryz.ntmps35
 by_cases h5:x.kind=5
 case neg =>
  have b5:(x.kind != 5)=true:=by simp[h5]
  have p5:(x.kind=5)=False:=eq_false h5;have H5:=Hh h5;have v0:=zV.var.cell 0 rfl;have v1:=zV.var.cell 1 rfl;have v2:=zV.var.cell 2 rfl;have v3:=zV.var.cell 3 rfl;have v4:=zV.var.cell 4 rfl;have v5:=zV.var.cell 5 rfl;have v6:=zV.var.cell 6 rfl;have v7:=zV.var.cell 7 rfl;have v8:=zV.var.cell 8 rfl;have v9:=zV.var.cell 9 rfl;have v10:=zV.var.cell 10 rfl;clear h5;go_wp2_with (with_reducible refine zx ?_)
  refine zp rfl _ _ _ rfl rfl _ _ rfl rfl _ _ zV.res zU rfl (uR _ _ _ _ _ _ _ _ _ _ _ rfl rfl rfl rfl rfl rfl rfl rfl rfl rfl rfl) fun wz hRz zT=>?_
  have zQ:=zV.grows.grownOwn zV.hR (by omega) zT;go_wp2_with fail
  refine zw rfl rfl hRz rfl rfl zU rfl ?_
  exact .inl ⟨a7 H5.out,rfl,zQ.below⟩
 have b5:(x.kind != 5)=false:=by simp[h5]
 have p5:(x.kind=5)=True:=eq_true h5;have H5:=Hh h5;have cF:=Hh (rY HV.out h5);clear h5;go_upto_region 4 with fail
 obtain⟨W3,Sn⟩:∃ W3,((w.alloc (zS x ba bc ia ic)).alloc (.cells yR 26)).alloc (.cells yR 26)=W3:=⟨_,rfl⟩
 simp only[zS,zY]at Sn
 try simp only[zS,zY]at zV
 rw[Sn]at zV⊢;clear Sn b5 p5 a0;have P4:CS w H #[.int .i64 x.kind,.int .u64 x.n,.slice ba x.bytes.length bc,.slice ia x.items.length ic] (clQ nL ⟨none,0,none,0,none,0,none,0⟩) W3 H:=zV;clear zV;go_wp2_with fail
 go_loopw [5] (fun v5 wr=>∃ (j:Nat) (c:Cl) (a:KAd) (Hr:Snap),j≤x.items.length∧j%2=0∧v5=.int .i64 (j:Int)∧CS w H #[.int .i64 x.kind,.int .u64 x.n,.slice ba x.bytes.length bc,.slice ia x.items.length ic] (clQ c a) wr Hr∧ClA Hr c a∧vA nL x.items=vA c (x.items.drop j)) (fun v5 _=>x.items.length+1-(intOf v5).toNat)
 case atStart=>exact⟨0,nL,⟨none,0,none,0,none,0,none,0⟩,H,Nat.zero_le _,rfl,rfl,P4,bE H,by rw[List.drop_zero]⟩
 case round =>
 clear P4;obtain⟨j,c,a,Hr,hj,Zg,rfl,zV,TS,TU⟩:=hrel;have nN:=Hh Zg;have qh:=Hh TS;have nM:=Hh TU;clear Zg TS TU;have a3:=zV.box.cell 3 rfl
 by_cases ye:j<x.items.length
 case neg =>
  have sZ:j=x.items.length:=by omega
  subst sZ;clear ye hj;have HF:Hid (vA nL x.items=some c):=by rw[Hid,nM.out,List.drop_length,gD]
  clear nM;have CL:=Hh (cT H5.out HF.out);go_upto_region 22 with fail
  clear a3;replace zV:=zV.drew;have VC:Hid (∀ wx,Holds wx Hr→Calls Tryz.prog 12 #[.agg (clQ c a)] wx fun e w'=>e=.returned (.bool (zB c))∧Below wx.heap.size wx w'):=fun wx hx=>pX (HT.out.mono zV.grows.le) qh.out wx hx
  have SV:Hid (∀ Hx wx,CS w H #[.int .i64 x.kind,.int .u64 x.n,.slice ba x.bytes.length bc,.slice ia x.items.length ic] (clQ c a) wx Hx→wx.cell? ⟨w.heap.size+2,0,none⟩=some (.string c.issuer)∧wx.cell? ⟨w.heap.size+2,1,none⟩=some (.string c.subject)∧wx.cell? ⟨w.heap.size+2,2,none⟩=some (.int .i64 c.since)∧wx.cell? ⟨w.heap.size+2,3,none⟩=some (.int .i64 c.till)∧wx.cell? ⟨w.heap.size+2,4,none⟩=some (.int .i64 c.key.kty)∧wx.cell? ⟨w.heap.size+2,5,none⟩=some (.int .i64 c.key.crv)∧wx.cell? ⟨w.heap.size+2,6,none⟩=some (.int .i64 c.key.alg)∧wx.cell? ⟨w.heap.size+2,7,none⟩=some (.slice a.ia c.key.kid.length a.ic)∧wx.cell? ⟨w.heap.size+2,8,none⟩=some (.slice a.xa c.key.x.length a.xc)∧wx.cell? ⟨w.heap.size+2,9,none⟩=some (.slice a.da c.key.d.length a.dc)∧wx.cell? ⟨w.heap.size+2,10,none⟩=some (.slice a.ka c.key.k.length a.kc)):=fun _ _ h=>⟨h.var.cell 0 rfl,h.var.cell 1 rfl,h.var.cell 2 rfl,h.var.cell 3 rfl,h.var.cell 4 rfl,h.var.cell 5 rfl,h.var.cell 6 rfl,h.var.cell 7 rfl,h.var.cell 8 rfl,h.var.cell 9 rfl,h.var.cell 10 rfl⟩
  have SX:Hid (∀ Hx wx,CS w H #[.int .i64 x.kind,.int .u64 x.n,.slice ba x.bytes.length bc,.slice ia x.items.length ic] (clQ c a) wx Hx→wx.cell? ⟨w.heap.size,0,none⟩=some (.int .i64 x.kind)∧wx.cell? ⟨w.heap.size,1,none⟩=some (.int .u64 x.n)∧wx.cell? ⟨w.heap.size,2,none⟩=some (.slice ba x.bytes.length bc)∧wx.cell? ⟨w.heap.size,3,none⟩=some (.slice ia x.items.length ic)):=fun _ _ h=>⟨h.box.cell 0 rfl,h.box.cell 1 rfl,h.box.cell 2 rfl,h.box.cell 3 rfl⟩
  cases hv:zB c with
  | false =>
   have E:Hid (xq x=none):=by rw[Hid,CL.out,hv];rfl
   rw[hv]at VC;clear CL hv
   refine zr 10 (fun wx=>wx.cell? ⟨w.heap.size+2,0,none⟩=some (.string c.issuer)∧wx.cell? ⟨w.heap.size+2,1,none⟩=some (.string c.subject)∧wx.cell? ⟨w.heap.size+2,2,none⟩=some (.int .i64 c.since)∧wx.cell? ⟨w.heap.size+2,3,none⟩=some (.int .i64 c.till)∧wx.cell? ⟨w.heap.size+2,4,none⟩=some (.int .i64 c.key.kty)∧wx.cell? ⟨w.heap.size+2,5,none⟩=some (.int .i64 c.key.crv)∧wx.cell? ⟨w.heap.size+2,6,none⟩=some (.int .i64 c.key.alg)∧wx.cell? ⟨w.heap.size+2,7,none⟩=some (.slice a.ia c.key.kid.length a.ic)∧wx.cell? ⟨w.heap.size+2,8,none⟩=some (.slice a.xa c.key.x.length a.xc)∧wx.cell? ⟨w.heap.size+2,9,none⟩=some (.slice a.da c.key.d.length a.dc)∧wx.cell? ⟨w.heap.size+2,10,none⟩=some (.slice a.ka c.key.k.length a.kc)) (by kernel_rfl) (SV.out _ _ zV) (fun zy=>?_)
   refine TkS 0 rfl zy ?_
   refine To 1 rfl fun K hK=>?_
   go_simp
   refine(VC.out _ zV.grows.holds).mono ?_
   rintro e w2 ⟨rfl,xJ⟩
   have zV:=zV.below xJ
   refine Ko hK ?_ fun zy=>?_
   ·exact SV.out _ _ zV
   clear hK K
   refine TkS 2 rfl zy ?_
   refine TkS 3 rfl zy ?_
   refine iB 4 rfl zy ?_
   refine iB 5 rfl zy ?_
   refine iB 6 rfl zy ?_
   refine iB 7 rfl zy ?_
   refine iB 8 rfl zy ?_
   refine TkS 9 rfl zy ?_
   refine Wd ?_
   clear zy
   try simp only[Bool.not_false]
   go_wp2_with (with_reducible refine zx ?_)
   refine zp rfl _ _ _ rfl rfl _ _ rfl rfl _ _ zV.res zU rfl (uR _ _ _ _ _ _ _ _ _ _ _ rfl rfl rfl rfl rfl rfl rfl rfl rfl rfl rfl) fun wz hRz zT=>?_
   have zQ:=zV.grows.grownOwn zV.hR (by omega) zT;go_wp2_with fail
   refine zw rfl rfl hRz rfl rfl zU rfl ?_
   exact .inl ⟨E.out,rfl,zQ.below⟩
  | true =>
  rw[hv]at VC CL;have XO:=Hh hv;have IC:=Hh (fun wx hx=>jL (HT.out.mono zV.grows.le) qh.out hv wx hx);rw[Bool.true_and]at CL
  cases hs:tq (xI c) x with
  | false =>
   have E:Hid (xq x=none):=by rw[Hid,CL.out,hs];rfl
   have HS:=Hh hs;clear CL hv hs
   refine zr 10 (fun wx=>(wx.cell? ⟨w.heap.size,0,none⟩=some (.int .i64 x.kind)∧wx.cell? ⟨w.heap.size,1,none⟩=some (.int .u64 x.n)∧wx.cell? ⟨w.heap.size,2,none⟩=some (.slice ba x.bytes.length bc)∧wx.cell? ⟨w.heap.size,3,none⟩=some (.slice ia x.items.length ic))∧wx.cell? ⟨w.heap.size+2,0,none⟩=some (.string c.issuer)∧wx.cell? ⟨w.heap.size+2,1,none⟩=some (.string c.subject)∧wx.cell? ⟨w.heap.size+2,2,none⟩=some (.int .i64 c.since)∧wx.cell? ⟨w.heap.size+2,3,none⟩=some (.int .i64 c.till)∧wx.cell? ⟨w.heap.size+2,4,none⟩=some (.int .i64 c.key.kty)∧wx.cell? ⟨w.heap.size+2,5,none⟩=some (.int .i64 c.key.crv)∧wx.cell? ⟨w.heap.size+2,6,none⟩=some (.int .i64 c.key.alg)∧wx.cell? ⟨w.heap.size+2,7,none⟩=some (.slice a.ia c.key.kid.length a.ic)∧wx.cell? ⟨w.heap.size+2,8,none⟩=some (.slice a.xa c.key.x.length a.xc)∧wx.cell? ⟨w.heap.size+2,9,none⟩=some (.slice a.da c.key.d.length a.dc)∧wx.cell? ⟨w.heap.size+2,10,none⟩=some (.slice a.ka c.key.k.length a.kc)) (by kernel_rfl) (⟨SX.out _ _ zV,SV.out _ _ zV⟩) (fun zy=>?_)
   refine TkS 0 rfl zy ?_
   refine To 1 rfl fun K hK=>?_
   go_simp
   refine(VC.out _ zV.grows.holds).mono ?_
   rintro e w2 ⟨rfl,xJ⟩
   have zV:=zV.below xJ
   refine Ko hK ?_ fun zy=>?_
   ·exact⟨SX.out _ _ zV,SV.out _ _ zV⟩
   clear hK K
   refine TkS 2 rfl zy ?_
   refine TkS 3 rfl zy ?_
   refine tZ 4 rfl zy ?_
   refine tZ 6 rfl zy ?_
   refine To 5 rfl fun K hK=>?_
   go_simp
   refine(IC.out _ zV.grows.holds).mono ?_
   rintro e w3 ⟨v3,rfl,xa,xb,xc,xd,H3,rfl,yQ,bh⟩
   have zV:=zV.grow yQ;obtain⟨y,hy⟩:∃ y,y=xI c:=⟨_,rfl⟩
   rw[← hy]at bh⊢;have HY:=Hh hy;have Sb:=Hh yQ;clear hy yQ
   refine Ko hK ?_ fun zy=>?_
   ·exact⟨SX.out _ _ zV,SV.out _ _ zV⟩
   clear hK K
   refine To 7 rfl fun K hK=>?_
   go_simp
   refine(jj y x _ _ _ _ _ _ _ _ _ _ _ _ _ _ _ _ _ _ (wV (by rw[HY.out];exact xA XO.out)) (wV HV.out) bh.arg (HI.out.mono zV.grows.le).arg zV.grows.holds).mono ?_
   rintro e w4 ⟨rfl,rF⟩
   rw[HY.out,HS.out];have zV:=zV.below rF
   refine Ko hK ?_ fun zy=>?_
   ·exact⟨SX.out _ _ zV,SV.out _ _ zV⟩
   clear hK K
   refine tZ 8 rfl zy ?_
   refine TkS 9 rfl zy ?_
   refine Wd ?_
   clear zy
   try simp only[Bool.not_false,Bool.not_true]
   go_wp2_with (with_reducible refine zx ?_)
   refine zp rfl _ _ _ rfl rfl _ _ rfl rfl _ _ zV.res zU rfl (uR _ _ _ _ _ _ _ _ _ _ _ rfl rfl rfl rfl rfl rfl rfl rfl rfl rfl rfl) fun wz hRz zT=>?_
   have zQ:=zV.grows.grownOwn zV.hR (by omega) zT;go_wp2_with fail
   refine zw rfl rfl hRz rfl rfl zU rfl ?_
   exact .inl ⟨E.out,rfl,zQ.below⟩
  | true =>
  have E:Hid (xq x=some c):=by rw[Hid,CL.out,hs];rfl
  have HS:=Hh hs;clear CL hv hs
  refine zr 10 (fun wx=>(wx.cell? ⟨w.heap.size,0,none⟩=some (.int .i64 x.kind)∧wx.cell? ⟨w.heap.size,1,none⟩=some (.int .u64 x.n)∧wx.cell? ⟨w.heap.size,2,none⟩=some (.slice ba x.bytes.length bc)∧wx.cell? ⟨w.heap.size,3,none⟩=some (.slice ia x.items.length ic))∧wx.cell? ⟨w.heap.size+2,0,none⟩=some (.string c.issuer)∧wx.cell? ⟨w.heap.size+2,1,none⟩=some (.string c.subject)∧wx.cell? ⟨w.heap.size+2,2,none⟩=some (.int .i64 c.since)∧wx.cell? ⟨w.heap.size+2,3,none⟩=some (.int .i64 c.till)∧wx.cell? ⟨w.heap.size+2,4,none⟩=some (.int .i64 c.key.kty)∧wx.cell? ⟨w.heap.size+2,5,none⟩=some (.int .i64 c.key.crv)∧wx.cell? ⟨w.heap.size+2,6,none⟩=some (.int .i64 c.key.alg)∧wx.cell? ⟨w.heap.size+2,7,none⟩=some (.slice a.ia c.key.kid.length a.ic)∧wx.cell? ⟨w.heap.size+2,8,none⟩=some (.slice a.xa c.key.x.length a.xc)∧wx.cell? ⟨w.heap.size+2,9,none⟩=some (.slice a.da c.key.d.length a.dc)∧wx.cell? ⟨w.heap.size+2,10,none⟩=some (.slice a.ka c.key.k.length a.kc)) (by kernel_rfl) (⟨SX.out _ _ zV,SV.out _ _ zV⟩) (fun zy=>?_)
  refine TkS 0 rfl zy ?_
  refine To 1 rfl fun K hK=>?_
  go_simp
  refine(VC.out _ zV.grows.holds).mono ?_
  rintro e w2 ⟨rfl,xJ⟩
  have zV:=zV.below xJ
  refine Ko hK ?_ fun zy=>?_
  ·exact⟨SX.out _ _ zV,SV.out _ _ zV⟩
  clear hK K
  refine TkS 2 rfl zy ?_
  refine TkS 3 rfl zy ?_
  refine tZ 4 rfl zy ?_
  refine tZ 6 rfl zy ?_
  refine To 5 rfl fun K hK=>?_
  go_simp
  refine(IC.out _ zV.grows.holds).mono ?_
  rintro e w3 ⟨v3,rfl,xa,xb,xc,xd,H3,rfl,yQ,bh⟩
  have zV:=zV.grow yQ;obtain⟨y,hy⟩:∃ y,y=xI c:=⟨_,rfl⟩
  rw[← hy]at bh⊢;have HY:=Hh hy;have Sb:=Hh yQ;clear hy yQ
  refine Ko hK ?_ fun zy=>?_
  ·exact⟨SX.out _ _ zV,SV.out _ _ zV⟩
  clear hK K
  refine To 7 rfl fun K hK=>?_
  go_simp
  refine(jj y x _ _ _ _ _ _ _ _ _ _ _ _ _ _ _ _ _ _ (wV (by rw[HY.out];exact xA XO.out)) (wV HV.out) bh.arg (HI.out.mono zV.grows.le).arg zV.grows.holds).mono ?_
  rintro e w4 ⟨rfl,rF⟩
  rw[HY.out,HS.out];have zV:=zV.below rF
  refine Ko hK ?_ fun zy=>?_
  ·exact⟨SX.out _ _ zV,SV.out _ _ zV⟩
  clear hK K
  refine tZ 8 rfl zy ?_
  refine TkS 9 rfl zy ?_
  refine Wd ?_
  clear zy
  try simp only[Bool.not_false,Bool.not_true]
  have v0:=zV.var.cell 0 rfl;have v1:=zV.var.cell 1 rfl;have v2:=zV.var.cell 2 rfl;have v3:=zV.var.cell 3 rfl;have v4:=zV.var.cell 4 rfl;have v5:=zV.var.cell 5 rfl;have v6:=zV.var.cell 6 rfl;have v7:=zV.var.cell 7 rfl;have v8:=zV.var.cell 8 rfl;have v9:=zV.var.cell 9 rfl;have v10:=zV.var.cell 10 rfl;have Gy:=Hh (qh.out.mono Sb.out.le);go_wp2_with (with_reducible refine zx ?_)
  refine zp rfl _ _ _ rfl rfl _ _ rfl rfl _ _ zV.res zU rfl (uR _ _ _ _ _ _ _ _ _ _ _ rfl rfl rfl rfl rfl rfl rfl rfl rfl rfl rfl) fun wz hRz zT=>?_
  have zQ:=zV.grows.grownOwn zV.hR (by omega) zT;go_wp2_with fail
  refine zw rfl rfl hRz rfl rfl zU rfl ?_
  exact .inr ⟨c,a,_,E.out,rfl,zQ,Gy.out⟩
 have tb:j+1<x.items.length:=by have:=nN.out;have:=cF.out;omega
 have ld:x.items.length≤256:=(xu HV.out).2.1;have mG:(j:Int)<x.items.length:=by omega
 have eS:(j:Int)+1<x.items.length:=by omega
 have UQ:(0:Int)≤(j:Int)+1:=by omega
 have Nc:IntKind.i64.wrap ((j:Int)+2)=(j:Int)+2:=IntWalk.i64_in _ (by omega);have Qf:IntKind.i64.wrap ((j:Int)+1)=(j:Int)+1:=IntWalk.i64_in _ (by omega);obtain⟨ib,io,rH,vD⟩:=HI.out.items (by omega);obtain⟨y1,y2,y3,y4,q0,q1,q2,q3,fu⟩:=vD.get j ye;obtain⟨z1,z2,z3,z4,s0,s1,s2,s3,oI⟩:=vD.get (j+1) tb;subst rH;have ol:=Hh (a6 c x.items j tb);have XQ:=Hh (ue HV.out (List.getElem_mem tb));have sU:=Hh (And.intro ye (And.intro tb ld))
 generalize x.items[j]'ye=y at *
 generalize x.items[j+1]'tb=z at *
 have eZ:=Hh (And.intro fu oI);have Jc:=Hh (And.intro q0 (And.intro q1 (And.intro q2 (And.intro q3 (And.intro s0 (And.intro s1 (And.intro s2 s3)))))));clear vD fu oI ye tb hj ld q0 q1 q2 q3 s0 s1 s2 s3;go_upto_region 7 with fail
 clear a3;go_cut [6,7] (fun s6 s7 wx=>∃ P Q:Nat,s6=.pointer (some ⟨P,0,none⟩)∧s7=.pointer (some ⟨Q,0,none⟩)∧CS w H #[.int .i64 x.kind,.int .u64 x.n,.slice ba x.bytes.length bc,.slice (some ⟨ib,io,none⟩) x.items.length ic] (clQ c a) wx Hr∧Blk wx P 57 #[.int .i64 y.kind,.int .u64 y.n,.slice y1 y.bytes.length y2,.slice y3 y.items.length y4]∧Blk wx Q 57 #[.int .i64 z.kind,.int .u64 z.n,.slice z1 z.bytes.length z2,.slice z3 z.items.length z4])
 case first =>
  replace zV:=zV.drew
  have SS:Hid (∀ wx,CS w H #[.int .i64 x.kind,.int .u64 x.n,.slice ba x.bytes.length bc,.slice (some ⟨ib,io,none⟩) x.items.length ic] (clQ c a) wx Hr→wx.cell? ⟨w.heap.size,3,none⟩=some (.slice (some ⟨ib,io,none⟩) x.items.length ic)∧wx.cell? ⟨ib,io+j*4,none⟩=some (.int .i64 y.kind)∧wx.cell? ⟨ib,io+j*4+1,none⟩=some (.int .u64 y.n)∧wx.cell? ⟨ib,io+j*4+2,none⟩=some (.slice y1 y.bytes.length y2)∧wx.cell? ⟨ib,io+j*4+3,none⟩=some (.slice y3 y.items.length y4)∧wx.cell? ⟨ib,io+(j+1)*4,none⟩=some (.int .i64 z.kind)∧wx.cell? ⟨ib,io+(j+1)*4+1,none⟩=some (.int .u64 z.n)∧wx.cell? ⟨ib,io+(j+1)*4+2,none⟩=some (.slice z1 z.bytes.length z2)∧wx.cell? ⟨ib,io+(j+1)*4+3,none⟩=some (.slice z3 z.items.length z4)):=fun wx hc=>by
   have hh:=hc.grows.holds.mono hc.grows.le;have Q:=Jc.out
   exact⟨hc.box.cell 3 rfl,hh.cell Q.1,hh.cell Q.2.1,hh.cell Q.2.2.1,hh.cell Q.2.2.2.1,hh.cell Q.2.2.2.2.1,hh.cell Q.2.2.2.2.2.1,hh.cell Q.2.2.2.2.2.2.1,hh.cell Q.2.2.2.2.2.2.2⟩
  refine zr 15 (fun wx=>wx.cell? ⟨w.heap.size,3,none⟩=some (.slice (some ⟨ib,io,none⟩) x.items.length ic)∧wx.cell? ⟨ib,io+j*4,none⟩=some (.int .i64 y.kind)∧wx.cell? ⟨ib,io+j*4+1,none⟩=some (.int .u64 y.n)∧wx.cell? ⟨ib,io+j*4+2,none⟩=some (.slice y1 y.bytes.length y2)∧wx.cell? ⟨ib,io+j*4+3,none⟩=some (.slice y3 y.items.length y4)∧wx.cell? ⟨ib,io+(j+1)*4,none⟩=some (.int .i64 z.kind)∧wx.cell? ⟨ib,io+(j+1)*4+1,none⟩=some (.int .u64 z.n)∧wx.cell? ⟨ib,io+(j+1)*4+2,none⟩=some (.slice z1 z.bytes.length z2)∧wx.cell? ⟨ib,io+(j+1)*4+3,none⟩=some (.slice z3 z.items.length z4)) (by kernel_rfl) (SS.out _ zV) (fun zy=>?_)
  refine TkS 0 rfl zy ?_
  refine TkS 1 rfl zy ?_
  refine TkS 2 rfl zy ?_
  refine TkS 3 rfl zy ?_
  refine TkS 4 rfl zy ?_
  refine TkS 5 rfl zy ?_
  refine TkS 6 rfl zy ?_
  refine TkS 7 rfl zy ?_
  refine TkS 8 rfl zy ?_
  refine TkS 9 rfl zy ?_
  refine TkS 10 rfl zy ?_
  refine Ways.two (i:=11) (j:=12) rfl rfl (by kernel_rfl) (fun K hK=>?_) (fun K hK=>?_)
  ·go_simp
   have hP:=zV.newI
   try rw[zX]at hP
   try have xH:_≠_:=hQ.ne_new
   try rw[zX]at xH
   try have hQ:=hQ.alloc (.cells xZ 57)
   have zV:=zV.alloc (.cells xZ 57)
   refine Ko hK ?_ fun zy=>?_
   ·exact SS.out _ zV
   clear hK K
   refine To 12 rfl fun K hK=>?_
   go_simp
   have hQ:=zV.newI
   try rw[zX]at hQ
   try have xH:_≠_:=hP.ne_new.symm
   try rw[zX]at xH
   try have hP:=hP.alloc (.cells xZ 57)
   have zV:=zV.alloc (.cells xZ 57)
   refine Ko hK ?_ fun zy=>?_
   ·exact SS.out _ zV
   clear hK K
   refine To 13 rfl fun K hK=>?_
   refine yJ _ _ _ rfl _ _ rfl rfl _ _ hP.blk zv rfl (sX _ _ _ _ rfl rfl rfl rfl) fun w13 hB13 hg13=>?_
   have zV:=zV.put hP hg13;have hQ:=hQ.kept hg13 xH;have hP:=hP.put hB13;clear hB13 hg13;go_simp
   refine Ko hK ?_ fun zy=>?_
   ·exact SS.out _ zV
   clear hK K
   refine To 14 rfl fun K hK=>?_
   refine yJ _ _ _ rfl _ _ rfl rfl _ _ hQ.blk zv rfl (sX _ _ _ _ rfl rfl rfl rfl) fun w14 hB14 hg14=>?_
   have zV:=zV.put hQ hg14;have hP:=hP.kept hg14 (Ne.symm xH);have hQ:=hQ.put hB14;clear hB14 hg14;go_simp
   refine Ko hK ?_ fun zy=>?_
   ·exact SS.out _ zV
   clear hK K
   refine Wd ?_
   clear zy;go_wp2_with fail
   go_meet
   exact⟨_,_,rfl,rfl,zV,hP.blk,hQ.blk⟩
  go_simp
  have hQ:=zV.newI
  try rw[zX]at hQ
  try have xH:_≠_:=hP.ne_new.symm
  try rw[zX]at xH
  try have hP:=hP.alloc (.cells xZ 57)
  have zV:=zV.alloc (.cells xZ 57)
  refine Ko hK ?_ fun zy=>?_
  ·exact SS.out _ zV
  clear hK K
  refine To 11 rfl fun K hK=>?_
  go_simp
  have hP:=zV.newI
  try rw[zX]at hP
  try have xH:_≠_:=hQ.ne_new
  try rw[zX]at xH
  try have hQ:=hQ.alloc (.cells xZ 57)
  have zV:=zV.alloc (.cells xZ 57)
  refine Ko hK ?_ fun zy=>?_
  ·exact SS.out _ zV
  clear hK K
  refine To 13 rfl fun K hK=>?_
  refine yJ _ _ _ rfl _ _ rfl rfl _ _ hP.blk zv rfl (sX _ _ _ _ rfl rfl rfl rfl) fun w13 hB13 hg13=>?_
  have zV:=zV.put hP hg13;have hQ:=hQ.kept hg13 xH;have hP:=hP.put hB13;clear hB13 hg13;go_simp
  refine Ko hK ?_ fun zy=>?_
  ·exact SS.out _ zV
  clear hK K
  refine To 14 rfl fun K hK=>?_
  refine yJ _ _ _ rfl _ _ rfl rfl _ _ hQ.blk zv rfl (sX _ _ _ _ rfl rfl rfl rfl) fun w14 hB14 hg14=>?_
  have zV:=zV.put hQ hg14;have hP:=hP.kept hg14 (Ne.symm xH);have hQ:=hQ.put hB14;clear hB14 hg14;go_simp
  refine Ko hK ?_ fun zy=>?_
  ·exact SS.out _ zV
  clear hK K
  refine Wd ?_
  clear zy;go_wp2_with fail
  go_meet
  exact⟨_,_,rfl,rfl,zV,hP.blk,hQ.blk⟩
 case rest =>
 clear zV Jc mG eS UQ Qf;obtain⟨P,Q,rfl,rfl,zV,hP,hQ⟩:=hcut;have p0:=hP.cell 0 rfl
 by_cases tB:y.kind=0
 case neg =>
  have b0:(y.kind != 0)=true:=by simp[tB]
  have e0:(y.kind=0)=False:=eq_false tB;have E:Hid (xq x=none):=gv (by rw[nM.out,ol.out,if_neg tB]);clear hP hQ tB;go_wp2_with (with_reducible refine zx ?_)
  refine zp rfl _ _ _ rfl rfl _ _ rfl rfl _ _ zV.res zU rfl (uR _ _ _ _ _ _ _ _ _ _ _ rfl rfl rfl rfl rfl rfl rfl rfl rfl rfl rfl) fun wz hRz zT=>?_
  have zQ:=zV.grows.grownOwn zV.hR (by omega) zT;go_wp2_with fail
  refine zw rfl rfl hRz rfl rfl zU rfl ?_
  exact .inl ⟨E.out,rfl,zQ.below⟩
 have b0:(y.kind != 0)=false:=by simp[tB]
 have e0:(y.kind=0)=True:=eq_true tB;have mH:Hid (vA nL x.items=vA (uQ c y z) (x.items.drop (j+2))):=by rw[Hid,nM.out,ol.out,if_pos tB]
 obtain⟨k,hk⟩:∃ k:Int,(y.n:Int)=k:=⟨_,rfl⟩
 have HK:=Hh hk;have p1:=hP.cell 1 rfl;rw[hk]at p1;have Jm:=Hh (xu XQ.out);have KY:=(eZ.out.2.mono zV.grows.le)
 have Mc:=Hh KY;clear hk tB hP ol nM KY;go_upto_region 10 with fail
 clear p0 b0 e0;go_upto_region 11 with fail
 clear p1
 by_cases h1:k=1
 ·subst h1
  have iS:Hid (uQ c y z={ c with issuer:=ut z.bytes }):=by
   have Zp:y.n=1:=by have:=HK.out;omega
   unfold uQ
   rw[Zp];rfl
  clear HK;have q2:=hQ.cell 2 rfl;have CV:=xe (Src.of_row Mc.out.bytes.row zV.grows.holds) z.bytes.length z2 rfl;clear hQ;go_wp2_with (with_reducible refine zx ?_)
  unfold yP
  clear CV q2
  refine zu rfl _ _ _ rfl rfl (w.heap.size+2) 0 (.string (ut z.bytes)) rfl rfl _ _ zV.var (by kernel_rfl) (by simp) rfl fun wt hBt hgt=>?_
  replace zV:=zV.set (cc':=clQ { c with issuer:=ut z.bytes } a) hBt hgt;clear hBt hgt;go_wp2_with fail
  go_roundw
  case rel=>exact⟨j+2,{ c with issuer:=ut z.bytes },a,_,by have:=sU.out;omega,by have:=nN.out;omega,by go_num,zV,⟨(by show(ut z.bytes).size≤_;have:=Jm.out.1;unfold ut;simp[ByteArray.size];omega),qh.out.subject,qh.out.since,qh.out.till,qh.out.key⟩,by rw[mH.out,iS.out]⟩
  case measure=>have:=sU.out;simp[intOf];omega
 have bh1:(k==1)=false:=by rw[beq_eq_false_iff_ne];exact h1
 have eh1:(k=1)=False:=eq_false h1
 by_cases h2:k=2
 ·subst h2
  have iS:Hid (uQ c y z={ c with subject:=ut z.bytes }):=by
   have Zp:y.n=2:=by have:=HK.out;omega
   unfold uQ
   rw[Zp];rfl
  clear HK;have q2:=hQ.cell 2 rfl;have CV:=xe (Src.of_row Mc.out.bytes.row zV.grows.holds) z.bytes.length z2 rfl;clear hQ;go_wp2_with (with_reducible refine zx ?_)
  unfold yP
  clear CV q2
  refine zu rfl _ _ _ rfl rfl (w.heap.size+2) 1 (.string (ut z.bytes)) rfl rfl _ _ zV.var (by kernel_rfl) (by simp) rfl fun wt hBt hgt=>?_
  replace zV:=zV.set (cc':=clQ { c with subject:=ut z.bytes } a) hBt hgt;clear hBt hgt;go_wp2_with fail
  go_roundw
  case rel=>exact⟨j+2,{ c with subject:=ut z.bytes },a,_,by have:=sU.out;omega,by have:=nN.out;omega,by go_num,zV,⟨qh.out.issuer,(by show(ut z.bytes).size≤_;have:=Jm.out.1;unfold ut;simp[ByteArray.size];omega),qh.out.since,qh.out.till,qh.out.key⟩,by rw[mH.out,iS.out]⟩
  case measure=>have:=sU.out;simp[intOf];omega
 have bh2:(k==2)=false:=by rw[beq_eq_false_iff_ne];exact h2
 have eh2:(k=2)=False:=eq_false h2
 by_cases h4:k=4
 ·subst h4;obtain⟨bt,Up⟩:∃ bt,re z.n=bt:=⟨_,rfl⟩
  have iS:Hid (uQ c y z={ c with till:=bt }):=by
   have Zp:y.n=4:=by have:=HK.out;omega
   unfold uQ
   rw[Zp,Up];rfl
  have SW:Hid (0≤bt∧bt≤1099511627776):=by rw[← Up];unfold re;rw[Hid];omega
  clear HK;have MNX:min (z.n:Int) 1099511627776=bt:=by rw[← Up];unfold re;omega
  have WB:IntKind.i64.wrap bt=bt:=IntWalk.i64_in _ (by have:=SW.out;omega);have q1:=hQ.cell 1 rfl;clear hQ Up
  by_cases hbig:(1099511627776:Int)<(z.n:Int)
  ·have d1:decide ((1099511627776:Int)<(z.n:Int))=true:=decide_eq_true hbig;go_wp2_with (with_reducible refine zx ?_)
   refine zu rfl _ _ _ rfl rfl (w.heap.size+2) 3 (.int .i64 bt) rfl rfl _ _ zV.var (by kernel_rfl) (by simp) rfl fun wt hBt hgt=>?_
   replace zV:=zV.set (cc':=clQ { c with till:=bt } a) hBt hgt;clear hBt hgt q1;go_wp2_with fail
   go_roundw
   case rel=>exact⟨j+2,{ c with till:=bt },a,_,by have:=sU.out;omega,by have:=nN.out;omega,by go_num,zV,⟨qh.out.issuer,qh.out.subject,qh.out.since,by have:=SW.out;show(-9223372036854775808:Int)≤bt∧bt≤9223372036854775807;omega,qh.out.key⟩,by rw[mH.out,iS.out]⟩
   case measure=>have:=sU.out;simp[intOf];omega
  have d1:decide ((1099511627776:Int)<(z.n:Int))=false:=decide_eq_false hbig;go_wp2_with (with_reducible refine zx ?_)
  refine zu rfl _ _ _ rfl rfl (w.heap.size+2) 3 (.int .i64 bt) rfl rfl _ _ zV.var (by kernel_rfl) (by simp) rfl fun wt hBt hgt=>?_
  replace zV:=zV.set (cc':=clQ { c with till:=bt } a) hBt hgt;clear hBt hgt q1;go_wp2_with fail
  go_roundw
  case rel=>exact⟨j+2,{ c with till:=bt },a,_,by have:=sU.out;omega,by have:=nN.out;omega,by go_num,zV,⟨qh.out.issuer,qh.out.subject,qh.out.since,by have:=SW.out;show(-9223372036854775808:Int)≤bt∧bt≤9223372036854775807;omega,qh.out.key⟩,by rw[mH.out,iS.out]⟩
  case measure=>have:=sU.out;simp[intOf];omega
 have bh4:(k==4)=false:=by rw[beq_eq_false_iff_ne];exact h4
 have eh4:(k=4)=False:=eq_false h4
 by_cases h5:k=5
 ·subst h5;obtain⟨bt,Up⟩:∃ bt,re z.n=bt:=⟨_,rfl⟩
  have iS:Hid (uQ c y z={ c with since:=bt }):=by
   have Zp:y.n=5:=by have:=HK.out;omega
   unfold uQ
   rw[Zp,Up];rfl
  have SW:Hid (0≤bt∧bt≤1099511627776):=by rw[← Up];unfold re;rw[Hid];omega
  clear HK;have MNX:min (z.n:Int) 1099511627776=bt:=by rw[← Up];unfold re;omega
  have WB:IntKind.i64.wrap bt=bt:=IntWalk.i64_in _ (by have:=SW.out;omega);have q1:=hQ.cell 1 rfl;clear hQ Up
  by_cases hbig:(1099511627776:Int)<(z.n:Int)
  ·have d1:decide ((1099511627776:Int)<(z.n:Int))=true:=decide_eq_true hbig;go_wp2_with (with_reducible refine zx ?_)
   refine zu rfl _ _ _ rfl rfl (w.heap.size+2) 2 (.int .i64 bt) rfl rfl _ _ zV.var (by kernel_rfl) (by simp) rfl fun wt hBt hgt=>?_
   replace zV:=zV.set (cc':=clQ { c with since:=bt } a) hBt hgt;clear hBt hgt q1;go_wp2_with fail
   go_roundw
   case rel=>exact⟨j+2,{ c with since:=bt },a,_,by have:=sU.out;omega,by have:=nN.out;omega,by go_num,zV,⟨qh.out.issuer,qh.out.subject,by have:=SW.out;show(-9223372036854775808:Int)≤bt∧bt≤9223372036854775807;omega,qh.out.till,qh.out.key⟩,by rw[mH.out,iS.out]⟩
   case measure=>have:=sU.out;simp[intOf];omega
  have d1:decide ((1099511627776:Int)<(z.n:Int))=false:=decide_eq_false hbig;go_wp2_with (with_reducible refine zx ?_)
  refine zu rfl _ _ _ rfl rfl (w.heap.size+2) 2 (.int .i64 bt) rfl rfl _ _ zV.var (by kernel_rfl) (by simp) rfl fun wt hBt hgt=>?_
  replace zV:=zV.set (cc':=clQ { c with since:=bt } a) hBt hgt;clear hBt hgt q1;go_wp2_with fail
  go_roundw
  case rel=>exact⟨j+2,{ c with since:=bt },a,_,by have:=sU.out;omega,by have:=nN.out;omega,by go_num,zV,⟨qh.out.issuer,qh.out.subject,by have:=SW.out;show(-9223372036854775808:Int)≤bt∧bt≤9223372036854775807;omega,qh.out.till,qh.out.key⟩,by rw[mH.out,iS.out]⟩
  case measure=>have:=sU.out;simp[intOf];omega
 have bh5:(k==5)=false:=by rw[beq_eq_false_iff_ne];exact h5
 have eh5:(k=5)=False:=eq_false h5
 by_cases h8:k=8
 ·subst h8;have Zp:Hid (y.n=8):=by have:=HK.out;rw[Hid];omega
  clear HK;have q0:=hQ.cell 0 rfl;have q3:=hQ.cell 3 rfl
  by_cases Zq:z.kind=5
  case neg =>
   have g5:(z.kind==5)=false:=by rw[beq_eq_false_iff_ne];exact Zq
   have f5:(z.kind=5)=False:=eq_false Zq
   have iS:Hid (uQ c y z=c):=by
    unfold uQ
    rw[Zp.out];show(match z.items with | [_,b]=>if z.kind=5 then { c with key:=rl b } else c | _=>c)=c
    split
    ·exact if_neg Zq
    rfl
   clear Zq;go_wp2_with fail
   go_roundw
   case rel=>exact⟨j+2,c,a,_,by have:=sU.out;omega,by have:=nN.out;omega,by go_num,zV,qh.out,by rw[mH.out,iS.out]⟩
   case measure=>have:=sU.out;simp[intOf];omega
  have g5:(z.kind==5)=true:=by rw[beq_iff_eq];exact Zq
  have f5:(z.kind=5)=True:=eq_true Zq
  by_cases ro:z.items.length=2
  case neg =>
   have g2:((z.items.length:Int)==2)=false:=by rw[beq_eq_false_iff_ne];omega
   have f2:((z.items.length:Int)=2)=False:=eq_false (by omega)
   have iS:Hid (uQ c y z=c):=by
    unfold uQ
    rw[Zp.out];show(match z.items with | [_,b]=>if z.kind=5 then { c with key:=rl b } else c | _=>c)=c
    split
    ·rename_i hl
     rw[hl]at ro
     exact absurd rfl ro
    rfl
   clear Zq ro;go_wp2_with fail
   go_roundw
   case rel=>exact⟨j+2,c,a,_,by have:=sU.out;omega,by have:=nN.out;omega,by go_num,zV,qh.out,by rw[mH.out,iS.out]⟩
   case measure=>have:=sU.out;simp[intOf];omega
  have g2:((z.items.length:Int)==2)=true:=by rw[beq_iff_eq];omega
  have f2:((z.items.length:Int)=2)=True:=eq_true (by omega);have i2:(1:Int)<(z.items.length:Int):=by omega
  obtain⟨zb,zo,cD,Pe⟩:=Mc.out.items (by omega);obtain⟨t1,t2,t3,t4,r0,r1,r2,r3,Kj⟩:=Pe.get 1 (by omega);subst cD
  have iS:Hid (uQ c y z={ c with key:=rl (z.items[1]'(by omega)) }):=by
   unfold uQ
   rw[Zp.out];show(match z.items with | [_,b]=>if z.kind=5 then { c with key:=rl b } else c | _=>c)=_
   split
   ·rename_i a1 b1 hl
    rw[if_pos Zq]
    simp only[hl]
    rfl
   rename_i l9
   exfalso
   match Qx:z.items with
   | []=>rw[Qx]at ro;cases ro
   | [_]=>rw[Qx]at ro;cases ro
   | [a1,b1]=>exact l9 a1 b1 Qx
   | _::_::_::_=>rw[Qx]at ro;simp at ro
  generalize z.items[1]'(by omega)=u at *
  have r0:=zV.grows.holds.cell r0;have r1:=zV.grows.holds.cell r1;have r2:=zV.grows.holds.cell r2;have r3:=zV.grows.holds.cell r3
  simp only[Nat.one_mul]at r0 r1 r2 r3
  have HU:=Hh Kj;have FI:=Hh (fun wx hx=>ii (HT.out.mono zV.grows.le) HU.out wx hx);clear Zq ro Pe Kj hQ;go_wp2_with fail
  refine(FI.out _ zV.grows.holds).mono ?_
  intro e w8 h8
  obtain⟨a8,H8,cd,rfl,iM,XZ⟩:=Y9 zV.grows.holds h8;replace zV:=zV.grow iM;have QZ:=Hh (qh.out.mono iM.le);have Hc:=Hh XZ;clear h8 iM XZ FI r0 r1 r2 r3 q0 q3
  generalize rl u=q8 at *
  go_wp2_with (with_reducible refine zx ?_)
  refine vE rfl _ _ _ rfl rfl (w.heap.size+2) 4 (vV q8 a8) rfl rfl _ _ zV.var pH (by simp) (rE _ _ _ _ _ _ _ rfl rfl rfl rfl rfl rfl rfl) fun wt hBt hgt=>?_
  replace zV:=zV.set (cc':=clQ { c with key:=q8 } a8) hBt hgt;clear hBt hgt;go_wp2_with fail
  go_roundw
  case rel=>exact⟨j+2,{ c with key:=q8 },a8,_,by have:=sU.out;omega,by have:=nN.out;omega,by go_num,zV,⟨QZ.out.issuer,QZ.out.subject,QZ.out.since,QZ.out.till,Hc.out⟩,by rw[mH.out,iS.out]⟩
  case measure=>have:=sU.out;simp[intOf];omega
 have bh8:(k==8)=false:=by rw[beq_eq_false_iff_ne];exact h8
 have eh8:(k=8)=False:=eq_false h8
 have iS:Hid (uQ c y z=c):=by
  have n1:¬ y.n=1:=by have:=HK.out;omega
  have n2:¬ y.n=2:=by have:=HK.out;omega
  have n4:¬ y.n=4:=by have:=HK.out;omega
  have n5:¬ y.n=5:=by have:=HK.out;omega
  have n8:¬ y.n=8:=by have:=HK.out;omega
  rw[Hid,uQ,if_neg n1,if_neg n2,if_neg n4,if_neg n5,if_neg n8]
 clear HK hQ h1 h2 h4 h5 h8;go_wp2_with fail
 go_roundw
 case rel=>exact⟨j+2,c,a,_,by have:=sU.out;omega,by have:=nN.out;omega,by go_num,zV,qh.out,by rw[mH.out,iS.out]⟩
 case measure=>have:=sU.out;simp[intOf];omega
theorem oL {l:List UInt8}{y:Itm}(h:xL l=.ok y):zL y=true:=by
 unfold xL at h
 split at h
 ·cases h
 split at h
 ·cases h
 rename_i x k c hp
 split at h
 ·cases h
 injection h with h
 subst h;obtain⟨h1,h2,h3,h4,h5,h6,h7⟩:=dA hp
 exact(wX _).2 ⟨h5,h7,by rw[h4,List.length_take];omega⟩
theorem sL {l:List UInt8}{q:Nat}(h:xL l=.error q):q≠0:=by
 unfold xL at h
 split at h
 ·injection h with h;omega
 split at h
 ·rename_i e hp
  injection h with h
  subst h
  exact yY _ _ _ _ hp
 split at h
 ·injection h with h;omega
 cases h
def tx (l:List UInt8):Except Nat Cl:=match xL l with
 | .error q=>.error q
 | .ok x=>match xq x with
  | none=>.error 4
  | some c=>.ok c
def DecCOut (w:World) (H:Snap) (l:List UInt8) (e:Ending) (w':World):Prop :=
 (∃ q:Nat,tx l=.error q∧e=.returned (.tuple #[.agg yR,.int .i64 (q:Int)])∧Below w.heap.size w w')∨
 (∃ c a H',tx l=.ok c∧e=.returned (.tuple #[.agg (clQ c a),.int .i64 0])∧Grows w H w' H'∧ClA H' c a)
theorem fL {H:Snap}(hTab:Tabs H) (w:World) (hH:Holds w H) {A:Option Addr}{n c:Nat}{l:List UInt8}(hn:n=l.length) (hl:IsBytes H A c l) :
  Calls Tryz.prog 18 #[.slice A n c] w (DecCOut w H l):=by
 have hR:=Blk.new w 26 yR;have Xh:H w.heap.size=none:=hH.none_of_ge (Nat.le_refl _);have hG:=(Grows.refl hH).alloc (.cells yR 26);have DC:=Hh (aq hTab _ hG.holds hn hl);have HT:=Hh hTab;clear hn hl hTab hH;go_enter Tryz.func18,Tryz.ntmps18
 go_wp2_with fail
 refine DC.out.mono ?_
 intro e w2 hs
 clear DC
 unfold vr at hs
 cases hd:xL l with
 | error q =>
  rw[hd]at hs;obtain⟨rfl,xJ⟩:=hs;have nc:((q:Int) != 0)=true:=by rw[bne_iff_ne];have:=sL hd;omega
  have Z5:((q:Int)=0)=False:=eq_false (by have:=sL hd;omega);have HD:Hid (tx l=.error q):=by rw[Hid,tx,hd]
  replace hR:=(hR.below xJ).alloc zg;replace hG:=(hG.below_ xJ).alloc zg;clear hd xJ;go_upto_region 3 with fail
  go_wp2_with (with_reducible refine zx ?_)
  refine zp rfl _ _ _ rfl rfl _ _ rfl rfl _ _ hR zU rfl (uR _ _ _ _ _ _ _ _ _ _ _ rfl rfl rfl rfl rfl rfl rfl rfl rfl rfl rfl) fun wz hRz zT=>?_
  have zQ:=hG.grownOwn Xh (Nat.le_refl _) zT;clear hG hR zT;go_wp2_with fail
  refine zw rfl rfl hRz rfl rfl zU rfl ?_
  exact .inl ⟨q,HD.out,rfl,zQ.below⟩
 | ok x =>
 rw[hd]at hs;obtain⟨ja,jb,jc,jd,H2,rfl,yq,sY⟩:=hs;have Ui:=Hh (oL hd);have HD:Hid (∀ z,xq x=z→tx l=match z with | none=>.error 4 | some c=>.ok c):=by rintro z rfl;rw[tx,hd]
 replace hR:=(hR.below yq.below).alloc (zS x ja jb jc jd);have bL:=yq.none Xh (by simp);replace hG:=(hG.trans yq).alloc (zS x ja jb jc jd);have Mm:=Hh hR.lt;have FR:=Hh (fM (HT.out.mono hG.le) Ui.out sY _ hG.holds);clear hd yq sY;go_wp2_with fail
 refine FR.out.mono ?_
 rintro e w5 (⟨uA,rfl,rG⟩ | ⟨c5,a5,H5,uA,rfl,xM,TS⟩)
 ·have E:=Hh (HD.out _ uA);replace hR:=(hR.below rG).alloc (.cells yR 26);replace hG:=(hG.below_ rG).alloc (.cells yR 26);clear uA rG FR HD;go_upto_region 6 with fail
  go_wp2_with (with_reducible refine zx ?_)
  refine zp rfl _ _ _ rfl rfl _ _ rfl rfl _ _ hR zU rfl (uR _ _ _ _ _ _ _ _ _ _ _ rfl rfl rfl rfl rfl rfl rfl rfl rfl rfl rfl) fun wz hRz zT=>?_
  have zQ:=hG.grownOwn bL (Nat.le_refl _) zT;clear hG hR zT;go_wp2_with fail
  refine zw rfl rfl hRz rfl rfl zU rfl ?_
  exact .inl ⟨4,E.out,rfl,zQ.below⟩
 have E:=Hh (HD.out _ uA);have Rx:=xM.none bL Mm.out;replace hR:=(hR.below xM.below).alloc (.cells (clQ c5 a5) 26);replace hG:=(hG.trans xM).alloc (.cells (clQ c5 a5) 26);have qh:=Hh TS;clear uA xM FR HD bL TS;go_upto_region 7 with fail
 go_wp2_with (with_reducible refine zx ?_)
 refine zp rfl _ _ _ rfl rfl _ _ rfl rfl _ _ hR zU rfl (uR _ _ _ _ _ _ _ _ _ _ _ rfl rfl rfl rfl rfl rfl rfl rfl rfl rfl rfl) fun wz hRz zT=>?_
 have zQ:=hG.grownOwn Rx (Nat.le_refl _) zT;clear hG hR zT;go_wp2_with fail
 refine zw rfl rfl hRz rfl rfl zU rfl ?_
 exact .inr ⟨c5,a5,H5,E.out,rfl,zQ,qh.out⟩
def EncCOut (w:World) (c:Cl) (e:Ending) (w':World):Prop:=∃ r l cd,e=.returned (.tuple #[r,.int .i64 cd])∧Fresh w l r w'∧l=(if zB c=true then zZ (xI c) else [])∧cd=if zB c=true then 0 else 1
theorem mc {H:Snap}(hTab:Tabs H) {c:Cl}{a:KAd}(hc:ClA H c a) (w:World) (hH:Holds w H) :
  Calls Tryz.prog 8 #[.agg (clQ c a)] w (EncCOut w c):=by
 have hB:=Blk.new w 26 (clQ c a);have hG:=(Grows.refl hH).alloc (.cells (clQ c a) 26);have HT:=Hh hTab;have HC:=Hh hc;have VC:=Hh (pX hTab hc _ hG.holds);have b0:=hB.cell 0 rfl;have b1:=hB.cell 1 rfl;have b2:=hB.cell 2 rfl;have b3:=hB.cell 3 rfl;have b4:=hB.cell 4 rfl;have b5:=hB.cell 5 rfl;have b6:=hB.cell 6 rfl;have b7:=hB.cell 7 rfl;have b8:=hB.cell 8 rfl;have b9:=hB.cell 9 rfl;have b10:=hB.cell 10 rfl;clear hTab hc hH;go_enter Tryz.func8,Tryz.ntmps8
 go_wp2_with fail
 refine VC.out.mono ?_
 rintro e w2 ⟨rfl,xJ⟩
 replace hB:=hB.below xJ;replace hG:=hG.below_ xJ;clear VC xJ b0 b1 b2 b3 b4 b5 b6 b7 b8 b9 b10
 cases hv:zB c with
 | false =>
  clear hB;have HV:=Hh hv;clear hv;go_wp2_with fail
  go_ret2
  exact⟨_,[],1,rfl,⟨OwnB.nil _ _,hG.below⟩,by rw[if_neg (by rw[HV.out];simp)],by rw[if_neg (by rw[HV.out];simp)]⟩
 | true =>
 have HV:=Hh hv;clear hv;have b0:=hB.cell 0 rfl;have b1:=hB.cell 1 rfl;have b2:=hB.cell 2 rfl;have b3:=hB.cell 3 rfl;have b4:=hB.cell 4 rfl;have b5:=hB.cell 5 rfl;have b6:=hB.cell 6 rfl;have b7:=hB.cell 7 rfl;have b8:=hB.cell 8 rfl;have b9:=hB.cell 9 rfl;have b10:=hB.cell 10 rfl;clear hB;go_wp2_with fail
 refine(jL (HT.out.mono hG.le) (HC.out.mono hG.le) HV.out _ hG.holds).mono ?_
 rintro e w3 ⟨v3,rfl,xa,xb,xc,xd,H3,rfl,yQ,bh⟩
 replace hG:=hG.trans yQ;clear yQ b0 b1 b2 b3 b4 b5 b6 b7 b8 b9 b10;obtain⟨y,hy⟩:∃ y,y=xI c:=⟨_,rfl⟩
 rw[← hy]at bh⊢;have HY:=Hh hy;clear hy;have EN:=Hh (ar (HT.out.mono hG.le) bh.arg _ hG.holds);clear bh;go_wp2_with fail
 refine EN.out.mono ?_
 rintro e w4 (⟨l9,_,_⟩ | ⟨_,r,rfl,hf⟩)
 ·rw[HY.out,xA HV.out]at l9
  cases l9
 have hb:=hG.below;go_wp2_with fail
 go_ret2
 exact⟨r,zZ y,0,rfl,⟨hf.own.more hb.size,hb.trans (hf.2.mono hb.size)⟩,by rw[if_pos HV.out,HY.out],by rw[if_pos HV.out]⟩
theorem dQ {w:World}{o:Oper}{a:Act}{K:Act→World→Prop}{Q:Exit→Act→World→Prop}(s:Operand)
  (ho:o.op=.convert 22 9 s) (A:Option Addr) (n c:Nat) (l:List UInt8) (hs:a.eval s=.slice A n c) (hn:n=l.length) (hS:Src w A (l.map zI))
  (h:K (a.put o.dst (.string ⟨l.toArray⟩)) w):o.wp Tryz.prog a w K Q:=by
 have fo:=xe hS n c hn
 unfold Oper.wp execOp
 simp only[ho,hs,Sem.run_bind,Sem.run_pure,Result.andThen_ok,fo]
 exact h
theorem gJ {H:Snap}(hTab:Tabs H) (s:ByteArray) (hs:s.size≤9223372036854775807) (w:World) (hH:Holds w H) :
  Calls Tryz.prog 28 #[.string s] w fun e w'=>e=.returned (.bool (xK s))∧Below w.heap.size w w':=by
 obtain⟨n,hn⟩:∃ n,s.size=n:=⟨_,rfl⟩
 have J1:((s.size:Nat):Int)=(n:Int):=by rw[hn]
 by_cases h:n≤64
 ·have VS:=Hh (utf8_ValidString hTab w hH s (by omega));have E:Hid (xK s=Lib.validD s.data.toList):=by rw[Hid,xK,hn,decide_eq_true h,Bool.true_and]
  obtain⟨q,hq⟩:∃ q,Lib.validD s.data.toList=q:=⟨_,rfl⟩
  rw[hq]at E VS;have hi:(n:Int)≤64:=by omega
  clear hq hn hTab hH hs h;go_enter Tryz.func28,Tryz.ntmps28
  go_wp2_with fail
  refine VS.out.mono ?_
  rintro e w1 ⟨rfl,wU⟩
  go_wp2_with fail
  go_ret
  exact⟨by rw[E.out];rfl,wU⟩
 have E:Hid (xK s=false):=by rw[Hid,xK,hn,decide_eq_false h,Bool.false_and]
 have hi:¬ (n:Int)≤64:=by omega
 clear hn hTab hH hs h;go_enter Tryz.func28,Tryz.ntmps28
 go_wp2_with fail
 go_ret
 exact⟨by rw[E.out];rfl,Below.refl _ _⟩
theorem qO {H:Snap}(hTab:Tabs H) {c:Cl}{a:KAd}(hc:ClA H c a) (w:World) (hH:Holds w H) :
  Calls Tryz.prog 11 #[.agg (clQ c a)] w fun e w'=>e=.returned (.bool (zB c))∧Below w.heap.size w w':=by
 obtain⟨nx,Z4⟩:∃ n,n=c.key.x.length:=⟨_,rfl⟩
 obtain⟨nd,TY⟩:∃ n,n=c.key.d.length:=⟨_,rfl⟩
 have HN:=Hh (And.intro Z4 TY);have HC:=Hh hc;have N1:=Hh (fun w hH=>gJ hTab c.issuer hc.issuer w hH);have N2:=Hh (fun w hH=>gJ hTab c.subject hc.subject w hH);have V:Hid (∀ W,Calls Tryz.prog 29 #[.agg (un c.key.kty c.key.crv c.key.alg a.ia c.key.kid.length a.ic a.xa c.key.x.length a.xc a.da c.key.d.length a.dc a.ka c.key.k.length a.kc)] W fun e w'=>e=.returned (.bool (xp c.key))∧Below W.heap.size W w'):=fun W=>jB c.key.kty c.key.crv c.key.alg a.ia c.key.kid.length a.ic a.xa c.key.x.length a.xc a.da c.key.d.length a.dc a.ka c.key.k.length a.kc W hc.key.len.1 hc.key.len.2
 show Calls Tryz.prog 11 #[.agg (clC c.issuer c.subject c.since c.till c.key.kty c.key.crv c.key.alg a.ia c.key.kid.length a.ic a.xa c.key.x.length a.xc a.da c.key.d.length a.dc a.ka c.key.k.length a.kc)] w _
 rw[← Z4,← TY]at V⊢;obtain⟨ni,Sz⟩:∃ n,c.key.kid.length=n:=⟨_,rfl⟩
 obtain⟨nk,QL⟩:∃ n,c.key.k.length=n:=⟨_,rfl⟩
 rw[Sz,QL]at V⊢;have hB:=Blk.new w 26 (clC c.issuer c.subject c.since c.till c.key.kty c.key.crv c.key.alg a.ia ni a.ic a.xa nx a.xc a.da nd a.dc a.ka nk a.kc);have hb:=zi w (.cells (clC c.issuer c.subject c.since c.till c.key.kty c.key.crv c.key.alg a.ia ni a.ic a.xa nx a.xc a.da nd a.dc a.ka nk a.kc) 26);have HH:=Hh hH;have iU:=Hh (fun h=>gg (c:=c) h);have MY:=Hh (wW c);have c0:=hB.cell 0 rfl;clear Z4 TY Sz QL hTab hc hH;go_enter Tryz.func11,Tryz.ntmps11
 go_wp2_with fail
 refine(N1.out _ (HH.out.below hb (Nat.le_refl _))).mono ?_
 rintro e w2 ⟨rfl,xJ⟩
 replace hB:=hB.below xJ;replace hb:=hb.trans (xJ.mono hb.size);clear xJ c0 N1
 cases h1:xK c.issuer with
 | false =>
  have E:Hid (zB c=false):=iU.out (fun h=>by rw[h1]at h;exact absurd h.1 (by decide));clear hB h1;go_wp2_with fail
  go_ret
  exact⟨by rw[E.out];rfl,hb⟩
 | true =>
 have H1:=Hh h1;clear h1;have c1:=hB.cell 1 rfl;go_wp2_with fail
 refine(N2.out _ (HH.out.below hb (Nat.le_refl _))).mono ?_
 rintro e w3 ⟨rfl,uy⟩
 replace hB:=hB.below uy;replace hb:=hb.trans (uy.mono hb.size);clear uy c1 N2
 cases h2:xK c.subject with
 | false =>
  have E:Hid (zB c=false):=iU.out (fun h=>by rw[h2]at h;exact absurd h.2.1 (by decide));clear hB h2;go_wp2_with fail
  go_ret
  exact⟨by rw[E.out];rfl,hb⟩
 | true =>
 have H2:=Hh h2;clear h2;have c1:=hB.cell 1 rfl;have c2:=hB.cell 2 rfl;have c3:=hB.cell 3 rfl
 by_cases hs:c.subject=⟨#[]⟩
 ·have E:Hid (zB c=false):=iU.out (fun h=>h.2.2.1 hs);have s2:c.subject.toList.isEmpty=true:=(tl _).2 hs;clear hs;clear hB;go_wp2_with fail
  go_ret
  exact⟨by rw[E.out];rfl,hb⟩
 have s2:c.subject.toList.isEmpty=false:=by cases h:c.subject.toList.isEmpty with | false=>rfl | true=>exact absurd ((tl _).1 h) hs
 have HS:=Hh hs;clear hs
 by_cases f0:c.since<0
 ·have E:Hid (zB c=false):=iU.out (fun h=>by have:=h.2.2.2.1;omega);clear hB;go_wp2_with fail
  go_ret
  exact⟨by rw[E.out];rfl,hb⟩
 by_cases f1:1073741824<c.since
 ·have E:Hid (zB c=false):=iU.out (fun h=>by have:=h.2.2.2.2.1;omega);clear hB;go_wp2_with fail
  go_ret
  exact⟨by rw[E.out];rfl,hb⟩
 by_cases u0:c.till<0
 ·have E:Hid (zB c=false):=iU.out (fun h=>by have:=h.2.2.2.2.2.1;omega);clear hB;go_wp2_with fail
  go_ret
  exact⟨by rw[E.out];rfl,hb⟩
 by_cases u1:1073741824<c.till
 ·have E:Hid (zB c=false):=iU.out (fun h=>by have:=h.2.2.2.2.2.2.1;omega);clear hB;go_wp2_with fail
  go_ret
  exact⟨by rw[E.out];rfl,hb⟩
 have HF:=Hh (And.intro f0 (And.intro f1 (And.intro u0 u1)))
 by_cases hfu:0<c.till∧c.till<c.since
 ·have E:Hid (zB c=false):=iU.out (fun h=>h.2.2.2.2.2.2.2.1 hfu);obtain⟨g0,g1⟩:=hfu;have t1:(c.till=0)=False:=eq_false (by omega);have t2:(c.till==0)=false:=by simpa using (show ¬ c.till=0 by omega)
  have t3:(c.till != 0)=true:=by rw[bne_iff_ne];omega
  clear hB;go_wp2_with fail
  go_ret
  exact⟨by rw[E.out];rfl,hb⟩
 have M0:=Hh hfu;have c4:=hB.cell 4 rfl;have c5:=hB.cell 5 rfl;have c6:=hB.cell 6 rfl;have c7:=hB.cell 7 rfl;have c8:=hB.cell 8 rfl;have c9:=hB.cell 9 rfl;have c10:=hB.cell 10 rfl;have fin:∀ (w':World),True:=fun _=>trivial
 have go2:Hid (zB c=(xp c.key&&decide (c.key.kty=1)&&decide (0<nx)&&decide (nd=0))):=by
  rw[Hid,HN.out.1,HN.out.2,Bool.eq_iff_iff,MY.out]
  simp only[Bool.and_eq_true,decide_eq_true_eq,and_assoc]
  have e:=HF.out
  exact⟨fun h=>⟨h.2.2.2.2.2.2.2.2.1,h.2.2.2.2.2.2.2.2.2.1,h.2.2.2.2.2.2.2.2.2.2.1,h.2.2.2.2.2.2.2.2.2.2.2⟩,fun h=>⟨H1.out,H2.out,HS.out,by omega,by omega,by omega,by omega,M0.out,h.1,h.2.1,h.2.2.1,h.2.2.2⟩⟩
 by_cases g0:0<c.till
 ·have g1:¬ c.till<c.since:=fun h=>hfu ⟨g0,h⟩
  have t1:(c.till=0)=False:=eq_false (by omega);have t2:(c.till==0)=false:=by simpa using (show ¬ c.till=0 by omega)
  have t3:(c.till != 0)=true:=by rw[bne_iff_ne];omega
  clear hfu fin;go_wp2_with fail
  refine(V.out _).mono ?_
  rintro e w4 ⟨rfl,rF⟩
  replace hB:=hB.below rF;replace hb:=hb.trans (rF.mono hb.size);clear rF V c1 c2 c3 c4 c5 c6 c7 c8 c9 c10
  cases hv:xp c.key with
  | false =>
   rw[hv]at go2;clear hB hv;go_wp2_with fail
   go_ret
   exact⟨by rw[go2.out];simp,hb⟩
  | true =>
  rw[hv]at go2;clear hv;have c4:=hB.cell 4 rfl;have c8:=hB.cell 8 rfl;have c9:=hB.cell 9 rfl
  by_cases hk:c.key.kty=1
  ·have k1:(c.key.kty=1)=True:=eq_true hk;have k2:(c.key.kty==1)=true:=by simpa using hk
   by_cases hx:0<nx
   ·have x1:(0:Int)<(nx:Int):=by omega
    by_cases hd:nd=0
    ·subst hd;clear hB hk;go_wp2_with fail
     go_ret
     exact⟨by rw[go2.out];simp[k1,hx],hb⟩
    have d1:((nd:Int)=0)=False:=eq_false (by omega);have d2:(nd=0)=False:=eq_false hd;have d3:((nd:Int)==0)=false:=by simpa using hd
    clear hB hk;go_wp2_with fail
    go_ret
    exact⟨by rw[go2.out];simp[hd],hb⟩
   have x1:¬ (0:Int)<(nx:Int):=by omega
   clear hB hk;go_wp2_with fail
   go_ret
   exact⟨by rw[go2.out];simp[hx],hb⟩
  have k1:(c.key.kty=1)=False:=eq_false hk;have k2:(c.key.kty==1)=false:=by simpa using hk
  clear hB;go_wp2_with fail
  go_ret
  exact⟨by rw[go2.out];simp[hk],hb⟩
 have t0:c.till=0:=by omega
 have t1:(c.till=0)=True:=eq_true t0;have t2:(c.till==0)=true:=by simpa using t0
 have t3:(c.till != 0)=false:=by simpa using t0
 clear hfu fin t0;go_wp2_with fail
 refine(V.out _).mono ?_
 rintro e w4 ⟨rfl,rF⟩
 replace hB:=hB.below rF;replace hb:=hb.trans (rF.mono hb.size);clear rF V c1 c2 c3 c4 c5 c6 c7 c8 c9 c10
 cases hv:xp c.key with
 | false =>
  rw[hv]at go2;clear hB hv;go_wp2_with fail
  go_ret
  exact⟨by rw[go2.out];simp,hb⟩
 | true =>
 rw[hv]at go2;clear hv;have c4:=hB.cell 4 rfl;have c8:=hB.cell 8 rfl;have c9:=hB.cell 9 rfl
 by_cases hk:c.key.kty=1
 ·have k1:(c.key.kty=1)=True:=eq_true hk;have k2:(c.key.kty==1)=true:=by simpa using hk
  by_cases hx:0<nx
  ·have x1:(0:Int)<(nx:Int):=by omega
   by_cases hd:nd=0
   ·subst hd;clear hB hk;go_wp2_with fail
    go_ret
    exact⟨by rw[go2.out];simp[k1,hx],hb⟩
   have d1:((nd:Int)=0)=False:=eq_false (by omega);have d2:(nd=0)=False:=eq_false hd;have d3:((nd:Int)==0)=false:=by simpa using hd
   clear hB hk;go_wp2_with fail
   go_ret
   exact⟨by rw[go2.out];simp[hd],hb⟩
  have x1:¬ (0:Int)<(nx:Int):=by omega
  clear hB hk;go_wp2_with fail
  go_ret
  exact⟨by rw[go2.out];simp[hx],hb⟩
 have k1:(c.key.kty=1)=False:=eq_false hk;have k2:(c.key.kty==1)=false:=by simpa using hk
 clear hB;go_wp2_with fail
 go_ret
 exact⟨by rw[go2.out];simp[hk],hb⟩
def wI (c:Cl) (n:Int):Bool:=decide (n<0)||(decide (c.since≤n)&&(decide (c.till=0)||decide (n≤c.till)))
theorem nh {H:Snap}{c:Cl}{a:KAd}(hc:ClA H c a) (n:Int) (ru : -9223372036854775808≤n) (oo:n≤9223372036854775807) (w:World) (hH:Holds w H) :
  Calls Tryz.prog 13 #[.agg (clQ c a),.int .i64 n] w fun e w'=>e=.returned (.bool (wI c n))∧Below w.heap.size w w':=by
 have hB:=Blk.new w 26 (clQ c a);have hb:=zi w (.cells (clQ c a) 26);have hs:=hc.since;have ht:=hc.till;have c2:=hB.cell 2 rfl;have c3:=hB.cell 3 rfl;clear hc hH hB
 by_cases g0:n<0
 ·have E:Hid (wI c n=true):=by rw[Hid,wI];simp[g0]
  go_enter Tryz.func13,Tryz.ntmps13
  go_wp2_with fail
  go_ret
  exact⟨by rw[E.out];rfl,hb⟩
 by_cases g1:c.since≤n
 ·by_cases g2:c.till=0
  ·have E:Hid (wI c n=true):=by rw[Hid,wI];simp[g1,g2]
   have t1:(c.till=0)=True:=eq_true g2;have t2:(c.till==0)=true:=by simpa using g2
   clear g2;go_enter Tryz.func13,Tryz.ntmps13
   go_wp2_with fail
   go_ret
   exact⟨by rw[E.out];rfl,hb⟩
  have t1:(c.till=0)=False:=eq_false g2;have t2:(c.till==0)=false:=by simpa using g2
  by_cases g3:n≤c.till
  ·have E:Hid (wI c n=true):=by rw[Hid,wI];simp[g1,g3]
   clear g2;go_enter Tryz.func13,Tryz.ntmps13
   go_wp2_with fail
   go_ret
   exact⟨by rw[E.out];rfl,hb⟩
  have E:Hid (wI c n=false):=by rw[Hid,wI];simp[g0,g2,g3]
  clear g2;go_enter Tryz.func13,Tryz.ntmps13
  go_wp2_with fail
  go_ret
  exact⟨by rw[E.out];rfl,hb⟩
 have E:Hid (wI c n=false):=by rw[Hid,wI];simp[g0,g1]
 go_enter Tryz.func13,Tryz.ntmps13
 go_wp2_with fail
 go_ret
 exact⟨by rw[E.out];rfl,hb⟩
theorem lT {H:Snap}{c:Cl}{a:KAd}(hc:ClA H c a) (n:Int) (ru : -9223372036854775808≤n) (oo:n≤9223372036854775807) (w:World) (hH:Holds w H) :
  Calls Tryz.prog 14 #[.agg (clQ c a),.int .i64 n] w fun e w'=>e=.returned (.bool (wI c n))∧Below w.heap.size w w':=by
 have hB:=Blk.new w 26 (clQ c a);have hb:=zi w (.cells (clQ c a) 26);have hs:=hc.since;have ht:=hc.till;have c2:=hB.cell 2 rfl;have c3:=hB.cell 3 rfl;clear hc hH hB
 by_cases g0:n<0
 ·have E:Hid (wI c n=true):=by rw[Hid,wI];simp[g0]
  go_enter Tryz.func14,Tryz.ntmps14
  go_wp2_with fail
  go_ret
  exact⟨by rw[E.out];rfl,hb⟩
 by_cases g1:c.since≤n
 ·by_cases g2:c.till=0
  ·have E:Hid (wI c n=true):=by rw[Hid,wI];simp[g1,g2]
   have t1:(c.till=0)=True:=eq_true g2;have t2:(c.till==0)=true:=by simpa using g2
   clear g2;go_enter Tryz.func14,Tryz.ntmps14
   go_wp2_with fail
   go_ret
   exact⟨by rw[E.out];rfl,hb⟩
  have t1:(c.till=0)=False:=eq_false g2;have t2:(c.till==0)=false:=by simpa using g2
  by_cases g3:n≤c.till
  ·have E:Hid (wI c n=true):=by rw[Hid,wI];simp[g1,g3]
   clear g2;go_enter Tryz.func14,Tryz.ntmps14
   go_wp2_with fail
   go_ret
   exact⟨by rw[E.out];rfl,hb⟩
  have E:Hid (wI c n=false):=by rw[Hid,wI];simp[g0,g2,g3]
  clear g2;go_enter Tryz.func14,Tryz.ntmps14
  go_wp2_with fail
  go_ret
  exact⟨by rw[E.out];rfl,hb⟩
 have E:Hid (wI c n=false):=by rw[Hid,wI];simp[g0,g1]
 go_enter Tryz.func14,Tryz.ntmps14
 go_wp2_with fail
 go_ret
 exact⟨by rw[E.out];rfl,hb⟩
theorem uV:∀ {a:List Itm}(b:List Itm),a.length%2=0→pk (a++b)=pk a++pk b
 | [],b,_=>by simp[pk]
 | [_],b,h=>by simp at h
 | x::y::a,b,h=>by
  rw[List.cons_append,List.cons_append,pk,pk,uV b (by simp only[List.length_cons]at h;omega),List.cons_append]
def oV (c:Cl):List Itm:=[zt 2,xf c.subject,zt 8,wD c.key]++xN c.issuer++yp 4 c.till++yp 5 c.since
theorem gT (s:ByteArray):(xN s).length%2=0:=by unfold xN;split <;> simp
theorem nz (k n:Int):(yp k n).length%2=0:=by unfold yp;split <;> simp
theorem m4 (c:Cl):(oV c).length=(yE c).length:=by
 unfold oV yE
 simp only[List.length_append,List.length_cons,List.length_nil]
 omega
theorem aj (c:Cl):(pk (yE c)).Perm (pk (oV c)):=by
 have e1:pk (yE c)=pk (xN c.issuer)++(pk [zt 2,xf c.subject]++(pk (yp 4 c.till)++(pk (yp 5 c.since)++pk [zt 8,wD c.key]))):=by
  unfold yE
  simp only[List.append_assoc]
  rw[uV _ (gT _),uV _ (by simp),uV _ (nz _ _),uV _ (nz _ _)]
 have e2:pk (oV c)=pk [zt 2,xf c.subject]++(pk [zt 8,wD c.key]++(pk (xN c.issuer)++(pk (yp 4 c.till)++pk (yp 5 c.since)))):=by
  unfold oV
  rw[show [zt 2,xf c.subject,zt 8,wD c.key]=[zt 2,xf c.subject]++[zt 8,wD c.key] from rfl]
  simp only[List.append_assoc]
  rw[uV _ (by simp),uV _ (by simp),uV _ (gT _),uV _ (nz _ _)]
 rw[e1,e2]
 generalize pk (xN c.issuer)=a
 generalize pk [zt 2,xf c.subject]=b
 generalize pk (yp 4 c.till)=d
 generalize pk (yp 5 c.since)=e
 generalize pk [zt 8,wD c.key]=f
 have h1:(a++(b++(d++(e++f)))).Perm (b++(a++(d++(e++f)))):=by
  have h:=List.Perm.append_right (d++(e++f)) (List.perm_append_comm (l₁:=a) (l₂:=b))
  simpa only [List.append_assoc] using h
 refine h1.trans (List.Perm.append_left _ ?_)
 have h2:(a++(d++(e++f)))=(a++(d++e))++f:=by simp only[List.append_assoc]
 rw[h2]
 exact List.perm_append_comm
def sF (x:Itm) (n:Int):Itm:=(vz x (zt n)).getD zG
def oG (x:Itm) (n:Int):Int:=((min (sF x n).n 1073741825:Nat):Int)
def fq (x:Itm):Bool:=zL x&&xp (vg yF x.items)&&tq (vj (vg yF x.items)) x
theorem jg (x:Itm):fq x=true↔zL x=true∧∃ q,tV x q:=by
 unfold fq
 rw[Bool.and_eq_true,Bool.and_eq_true]
 refine⟨fun h=>⟨h.1.1,_,h.1.2,(vZ _ _).1 h.2⟩,fun⟨h1,q,h2⟩=>?_⟩
 have e:=qQ h2;rw[e]
 exact⟨⟨h1,h2.1⟩,(vZ _ _).2 h2.2⟩
def qF (x v:Itm):Cl:=⟨ut (sF x 1).bytes,ut (sF x 2).bytes,oG x 5,oG x 4,rl v⟩
def rP (x:Itm):Option Cl:=match vz (sF x 8) (zt 1) with
 | none=>none
 | some v=>if fq v=true then(if(zB (qF x v)&&tq (xI (qF x v)) x)=true then some (qF x v) else none) else none
theorem aZ:zZ (zt 1)≠zZ (zt 2)∧zZ (zt 1)≠zZ (zt 4)∧zZ (zt 1)≠zZ (zt 5)∧zZ (zt 1)≠zZ (zt 8)∧zZ (zt 2)≠zZ (zt 4)∧zZ (zt 2)≠zZ (zt 5)∧zZ (zt 2)≠zZ (zt 8)∧
  zZ (zt 4)≠zZ (zt 5)∧zZ (zt 4)≠zZ (zt 8)∧zZ (zt 5)≠zZ (zt 8):=by
 rw[wo,wo,wo,wo,wo];decide +kernel
theorem lZ (n:Int):zL (zt n)=true:=(wX _).mpr ⟨uT n 0,by rw[(wY n).1];omega,by have:=(wY n).2;omega⟩
theorem ry {c:Cl}(h:zB c=true) (n:Int):vz (xI c) (zt n)=rf (zZ (zt n)) (yE c):=by
 rw[vz,if_pos ⟨rfl,xA h,lZ n⟩];rfl
theorem OS {c:Cl}(h:zB c=true):sF (xI c) 1=(if c.issuer=⟨#[]⟩ then zG else xf c.issuer)∧sF (xI c) 2=xf c.subject∧sF (xI c) 4=(if 0<c.till then zt c.till else zG)∧
  sF (xI c) 5=(if 0<c.since then zt c.since else zG)∧sF (xI c) 8=wD c.key:=by
 obtain⟨ea,Jn,Jo,Jp,te,Uz,Nf,Ng,Nh,Ni⟩:=aZ
 unfold sF
 rw[ry h,ry h,ry h,ry h,ry h]
 unfold yE xN yp
 repeat' split
 all_goals simp[rf,ea,Jn,Jo,Jp,te,Uz,Nf,Ng,Nh,Ni,ea.symm,Jn.symm,Jo.symm,Jp.symm,te.symm,Uz.symm,Nf.symm,Ng.symm,Nh.symm,Ni.symm]
theorem dy {n:Int}(h0:0≤n) (h:n≤1073741824):((min (if 0<n then zt n else zG).n 1073741825:Nat):Int)=n:=by
 split
 ·rw[zt,if_neg (by omega)];show((min n.toNat 1073741825:Nat):Int)=n
  omega
 show((min 0 1073741825:Nat):Int)=n
 omega
theorem dC {x:Itm}{c:Cl}(h:rP x=some c):zB c=true∧xI c=x:=by
 unfold rP at h
 split at h
 ·cases h
 split at h
 ·split at h
  ·rename_i hc
   injection h with h
   subst h;rw[Bool.and_eq_true]at hc
   exact⟨hc.1,(vZ _ _).1 hc.2⟩
  cases h
 cases h
theorem pD (x:Itm):rP x=xq x:=by
 have hb:∀ c,zB c=true→rP (xI c)=some c:=by
  intro c hc
  obtain⟨f1,f2,f4,f5,f8⟩:=OS hc;have hv:=(wW c).1 hc;have OP:=hv.2.2.2.2.2.2.2.2.1;have Kg:zL (wD c.key)=true:=(jp hc).2.2.1 _ (by unfold yE;simp)
  have e1:vz (sF (xI c) 8) (zt 1)=some (vj c.key):=by
   rw[f8,vz,if_pos ⟨rfl,Kg,lZ 1⟩];show rf (zZ (zt 1)) [zt 1,vj c.key]=_
   rw[rf,if_pos rfl]
  have ek:rl (vj c.key)=c.key:=ml (vS OP) ⟨OP,rfl⟩
  have er:qF (xI c) (vj c.key)=c:=by
   unfold qF oG
   rw[f1,f2,f4,f5,ek,dy hv.2.2.2.1 hv.2.2.2.2.1,dy hv.2.2.2.2.2.1 hv.2.2.2.2.2.2.1]
   have ei:ut (if c.issuer=⟨#[]⟩ then zG else xf c.issuer).bytes=c.issuer:=by
    split
    ·rename_i h
     rw[h];rfl
    exact sO _
   rw[ei,show ut (xf c.subject).bytes=c.subject from sO _]
  unfold rP
  rw[e1]
  simp only
  rw[if_pos ((jg _).2 ⟨vS OP,c.key,OP,rfl⟩),er,if_pos (by rw[hc,(vZ (xI c) (xI c)).2 rfl];rfl)]
 cases h:xq x with
 | some c =>
  obtain⟨h1,h2⟩:=mS h;rw[← h2]
  exact hb c h1
 | none =>
 cases h':rP x with
 | none=>rfl
 | some c =>
 have:=(cS x c).2 (dC h');rw[h]at this
 cases this
end Go.Proofs.YtgcjjhibdbafmabGreatDoor
