/- squeezed. Walks: a group of the deck. Walks: -/
import Derived.Test.YtgaoknihklmakabGreatDoorK19
import Derived.Deep.DeepCutAuto
import Derived.Deep.CutBlock
set_option linter.unusedVariables false
set_option linter.unusedSimpArgs false
set_option maxRecDepth 100000
set_option maxHeartbeats 25600000
namespace Go.Proofs.YtgaoknihklmakabGreatDoor
open Go.RowKit
theorem jai{P:Prop}(h:P:=by
 go_wp2_with fail
 go_ret
 exact⟨by rw[E.out];rfl,hb⟩):P:=h
theorem jak{P:Prop}(h:P:=by
 go_wp2_with fail
 go_ret
 exact⟨by rw[E.out];rfl,by first | exact hb | exact hb.drew⟩):P:=h
theorem jaz{P:Prop}(h:P:=by
 go_wp2_with (with_reducible refine zx ?_)
 refine zv rfl _ _ _ rfl rfl _ _ rfl rfl _ _ hN.blk zp rfl (yG _ _ _ _ rfl rfl rfl rfl) fun w5 qc te=>?_
 replace uk:=uk.put hN te;replace hN:=hN.put (xc':=gpQ x4 a4) qc;clear qc te
 by_cases h0:n4=0
 ·have e1:(n4=0)=True:=eq_true h0;have e2:(n4==0)=true:=beq_iff_eq.2 h0;have t0:=hN.blk.cell 0 rfl;have t1:=hN.blk.cell 1 rfl;have t2:=hN.blk.cell 2 rfl;have t3:=hN.blk.cell 3 rfl;clear h0;go_wp2_with (with_reducible refine zx ?_)
  refine zv rfl _ _ _ rfl rfl _ _ rfl rfl _ _ uk.var zp rfl (yG _ _ _ _ rfl rfl rfl rfl) fun wz hBz zS=>?_
  replace uk:=uk.set (gc':=gpQ x4 a4) hBz zS;clear hBz zS hN t0 t1 t2 t3 e1 e2;go_wp2_with fail
  go_roundw
  case rel=>exact⟨k,by go_num,(by have:=Mm.out;exact(show k≤7 by omega)),x4,a4,_,uk,Hd.out⟩
  case measure=>simp[intOf]
 have e1:(n4=0)=False:=eq_false h0;have e2:(n4==0)=false:=beq_eq_false_iff_ne.2 h0;exact jev):P:=h
theorem jd7{P:Prop}(h:P:=by
 go_wp2_with fail
 refine(xe _ _ _ _).mono ?_
 rintro e w3 ⟨rfl,rfl⟩
 rw[sx];go_wp2_with fail
 refine(xe _ _ _ _).mono ?_
 rintro e w4 ⟨rfl,rfl⟩
 rw[sd];exact jai):P:=h
theorem jeh{P:Prop}(h:P:=by
 go_enter Tryz.func90,Tryz.ntmps90
 exact jai):P:=h
theorem jev{P:Prop}(h:P:=by
 clear h0 hN;go_wp2_with fail
 go_roundw
 case rel=>exact⟨k,by go_num,(by have:=Mm.out;exact(show k≤7 by omega)),x,a,_,uk,HX.out⟩
 case measure=>simp[intOf]):P:=h
theorem jey{P:Prop}(h:P:=by
 clear hi ww xB;go_enter Tryz.func90,Tryz.ntmps90
 go_wp2_with fail
 refine(xe _ _ _ _).mono ?_
 rintro e w3 ⟨rfl,rfl⟩
 rw[sx];exact jai):P:=h
theorem jeE{P:Prop}(h:P:=by clear hi ww xB;exact jak):P:=h
theorem jeL{P:Prop}(h:P:=by clear hi ww xB hk;exact jak):P:=h
theorem jeX{P:Prop}(h:P:=by
 go_enter Tryz.func56,Tryz.ntmps56
 exact jak):P:=h
theorem jeZ{P:Prop}(h:P:=by clear hi ww xB hd vO;exact jak):P:=h
theorem jff{P:Prop}(h:P:=by
 clear hi ww xB;go_enter Tryz.func90,Tryz.ntmps90
 exact jd7):P:=h
theorem jfg{P:Prop}(h:P:=by
 go_enter Tryz.func90,Tryz.ntmps90
 clear ZG WK;exact jd7):P:=h
theorem jfL{P:Prop}(h:P:=by have hB:=Blk.new w 61 (uO t v g Ai ni ci Ax nx cx Ad nd cd Ak nk ck);have hb:=zm w (.cells (uO t v g Ai ni ci Ax nx cx Ad nd cd Ak nk ck) 61);have c0:=hB.cell 0 rfl;have c1:=hB.cell 1 rfl;have c2:=hB.cell 2 rfl;have c3:=hB.cell 3 rfl;have c4:=hB.cell 4 rfl;have c5:=hB.cell 5 rfl;have c6:=hB.cell 6 rfl;exact And.intro hB (And.intro hb (And.intro c0 (And.intro c1 (And.intro c2 (And.intro c3 (And.intro c4 (And.intro c5 c6)))))))):P:=h
theorem jf1{P:Prop}(h:P:=by have K:IntKind.i64.wrap (((0:Nat):Int)+((0:Nat):Int))=((0:Nat):Int)+((0:Nat):Int):=IntWalk.i64_in _ (by omega);exact K):P:=h
theorem jgj{P:Prop}(h:P:=by have bk:((nk:Int)=0)=False:=eq_false (by omega);exact bk):P:=h
theorem jg8{P:Prop}(h:P:=by have bi:decide (16<(ni:Int))=false:=decide_eq_false qi;exact bi):P:=h
theorem jha{P:Prop}(h:P:=by have bg1:decide (g < -65536)=false:=decide_eq_false qg1;exact bg1):P:=h
theorem jhd{P:Prop}(h:P:=by have bg2:decide (65535<g)=false:=decide_eq_false qg2;exact bg2):P:=h
theorem jhm{P:Prop}(h:P:=by have bd2:((nd:Int)=32)=False:=eq_false (by omega);exact bd2):P:=h
theorem jhs{P:Prop}(h:P:=by have bd:((nd:Int)=0)=False:=eq_false (by omega);exact bd):P:=h
theorem jhx{P:Prop}(h:P:=by have K:IntKind.i64.wrap (((32:Nat):Int)+((32:Nat):Int))=((32:Nat):Int)+((32:Nat):Int):=IntWalk.i64_in _ (by omega);exact K):P:=h
theorem jhy{P:Prop}(h:P:=by have K:IntKind.i64.wrap (((32:Nat):Int)+((0:Nat):Int))=((32:Nat):Int)+((0:Nat):Int):=IntWalk.i64_in _ (by omega);exact K):P:=h
theorem jhz{P:Prop}(h:P:=by have K:IntKind.i64.wrap (((0:Nat):Int)+((32:Nat):Int))=((0:Nat):Int)+((32:Nat):Int):=IntWalk.i64_in _ (by omega);exact K):P:=h
theorem jhA{P:Prop}(h:P:=by have p0:=uk.var.cell 0 rfl;have p1:=uk.var.cell 1 rfl;have p2:=uk.var.cell 2 rfl;have p3:=uk.var.cell 3 rfl;exact And.intro p0 (And.intro p1 (And.intro p2 p3))):P:=h
theorem jhR{P:Prop}(h:P:=by have K:IntKind.i64.wrap ((nx:Int)+(nd:Int))=(nx:Int)+(nd:Int):=IntWalk.i64_in _ (by omega);exact K):P:=h
theorem jh3{P:Prop}(h:P:=by have as1:(IntKind.i64.wrap ((nx:Int)+(nd:Int))=0)=False:=eq_false (nU Z1.out.1 Z1.out.2 hs);exact as1):P:=h
def XN (w:World) (H:Snap) (gd:Nat) (e:Ending) (w':World):Prop:=∃ x a H',e=.returned (.agg (gpQ x a))∧Dealt w H w' H' gd∧GpA H' x a
structure GS (W0:World) (H:Snap) (gd:Nat) (gc:Array Value) (P:Nat) (Hr:Snap) (w:World):Prop where
 dealt:Dealt W0 H w Hr gd
 res:Blk w W0.heap.size 25 yf
 var:Blk w P 25 gc
 lt:gd<W0.heap.size
 far:W0.heap.size+1≤P
 hT:Hr W0.heap.size=none
 hP:Hr P=none
structure XB (W0:World) (P:Nat) (xc:Array Value) (X:Nat) (Hr:Snap) (w:World):Prop where
 blk:Blk w X 25 xc
 none:Hr X=none
 far:W0.heap.size+1≤X
 ne:X≠P
section
variable {W0 w w':World} {H Hr Hs:Snap} {gd P X:Nat} {gc gc' xc xc':Array Value}
theorem GS.step (h:GS W0 H gd gc P Hr w) (k:Dealt w Hr w' Hs gd):GS W0 H gd gc P Hs w' :=
 ⟨h.dealt.trans k,h.res.dealt k (by have:=h.lt;omega),h.var.dealt k (by have:=h.lt;have:=h.far;omega),h.lt,h.far,k.hid h.hT h.res.lt,k.hid h.hP h.var.lt⟩
theorem GS.grow (h:GS W0 H gd gc P Hr w) (k:Grows w Hr w' Hs):GS W0 H gd gc P Hs w':=h.step (h.dealt.deck.grows k)
theorem GS.alloc (h:GS W0 H gd gc P Hr w) (o:Obj):GS W0 H gd gc P Hr (w.alloc o):=h.grow ((Grows.refl h.dealt.holds).alloc o)
theorem GS.drew (h:GS W0 H gd gc P Hr w):GS W0 H gd gc P Hr w.drew:=h.grow ((Grows.refl h.dealt.holds).drew)
theorem GS.set (h:GS W0 H gd gc P Hr w) (hB:Blk w' P 25 gc') (hg:w.grownBy w' (some P)):GS W0 H gd gc' P Hr w' :=
 ⟨h.dealt.grownRow (by rintro k ⟨⟩;exact h.hP) (by rintro k ⟨⟩;have:=h.far;omega) h.lt hg,h.res.grown hg (by intro e;injection e with e;have:=h.far;omega),hB,h.lt,h.far,h.hT,h.hP⟩
theorem GS.put (h:GS W0 H gd gc P Hr w) (n:XB W0 P xc X Hr w) (hg:w.grownBy w' (some X)):GS W0 H gd gc P Hr w' :=
 ⟨h.dealt.grownRow (by rintro k ⟨⟩;exact n.none) (by rintro k ⟨⟩;have:=n.far;omega) h.lt hg,h.res.grown hg (by intro e;injection e with e;have:=n.far;omega),h.var.grown hg (by intro e;injection e with e;exact n.ne e),h.lt,h.far,h.hT,h.hP⟩
theorem GS.newX (h:GS W0 H gd gc P Hr w):XB W0 P yf w.heap.size Hr (w.alloc (.cells yf 25)) :=
 ⟨Blk.new _ _ _,h.dealt.holds.none_of_ge (Nat.le_refl _),by have:=h.res.lt;omega,by have:=h.var.lt;omega⟩
theorem XB.step (n:XB W0 P xc X Hr w) (k:Dealt w Hr w' Hs gd) (hl:gd<W0.heap.size):XB W0 P xc X Hs w':=⟨n.blk.dealt k (by have:=n.far;omega),k.hid n.none n.blk.lt,n.far,n.ne⟩
theorem XB.grow (n:XB W0 P xc X Hr w) (k:Grows w Hr w' Hs):XB W0 P xc X Hs w':=⟨n.blk.below k.below,k.none n.none n.blk.lt,n.far,n.ne⟩
theorem XB.alloc (n:XB W0 P xc X Hr w) (o:Obj):XB W0 P xc X Hr (w.alloc o):=⟨n.blk.alloc o,n.none,n.far,n.ne⟩
theorem XB.put (n:XB W0 P xc X Hr w) (hB:Blk w' X 25 xc'):XB W0 P xc' X Hr w':=⟨hB,n.none,n.far,n.ne⟩
end
def GSt (W0:World) (H:Snap) (gd P:Nat) (w:World):Prop:=∃ x a Hr,GS W0 H gd (gpQ x a) P Hr w∧GpA Hr x a
structure TwoS (sP:Mb→Bool) (H:Snap):Prop where
 sound:SoundIsR sP H
 plain:nF sP H
theorem TwoS.mono {sP:Mb→Bool}{H K:Snap}(h:TwoS sP H) (hl:H.le K):TwoS sP K:=⟨h.sound.mono hl,fun L hk=>h.plain L (hl.trans hk)⟩
theorem Q9 (z:Int):∃ x:UInt8,Value.int .u8 (IntKind.u8.wrap z)=zT x:=by
 rw[show IntKind.u8.wrap z=z%256 by first | rfl | simp[IntKind.wrap,IntKind.bits,IntKind.signed]];have h0:=Int.emod_nonneg z (by omega:(256:Int)≠0);have h1:=Int.emod_lt_of_pos z (by omega:(0:Int)<256)
 refine⟨UInt8.ofNat (z%256).toNat, ?_⟩
 rw[zT,UInt8.toNat_ofNat_of_lt' (by show(z%256).toNat<256;omega)];congr 1
 omega
theorem br {sP:Mb→Bool}{H:Snap}(hTab:TwoS sP H) (hSd:ft) {gd:Nat}(w:World) (hD:DeckIn w gd H) :
  Calls Tryz.prog 9 #[.pointer (some ⟨gd,0,none⟩)] w (XN w H gd):=by
 have yC:=Hh hD.deck.lt;have hT:=Blk.new w 25 yf;have hd:=(Dealt.refl hD).alloc (.cells yf 25);have HT:=Hh hTab;have SD0:=Hh hSd;have rD:H w.heap.size=none:=hD.holds.none_of_ge (Nat.le_refl _);obtain⟨W1,ZB⟩:∃ W1,w.alloc (.cells yf 25)=W1:=⟨_,rfl⟩
 have wu:w.heap.size+1≤W1.heap.size:=by rw[← ZB,zh];omega
 clear hTab hD hSd;go_enter Tryz.func9,Tryz.ntmps9
 go_upto_region 1 with fail
 rw[ZB]at hT hd
 try rw[ZB]
 clear ZB;have Ym:=Hh wu;clear wu;have BY:=Hh (ZX W1 hd.deck 3 (by omega) (by omega));go_wp2_with fail
 refine BY.out.mono ?_
 rintro e w2 ⟨YA,yc,yn,yv,rfl,XK,Mi,pv,pX,xS⟩
 have EB:=Hh (And.intro XK Mi);have NN:Hid (W1.heap.size≤(w2.alloc (.cells #[.int .u8 5] 5)).heap.size):=by have:=xS.size;rw[Hid,zh];omega
 have Tw:=pv.alloc (.cells #[.int .u8 5] 5);have Ei:=(hT.dealt xS (by have:=yC.out;omega)).alloc (.cells #[.int .u8 5] 5);have Kq:=xS.hid rD hT.lt;have OM:=(hd.trans xS).alloc (.cells #[.int .u8 5] 5);clear BY XK Mi pv xS hd hT rD;go_wp2_with (at_builtin;refine yq ?_)
 refine zW rfl (.tmp 12) (.tmp 13) rfl W1.heap.size (.slice YA yn yc) yv rfl Tw _ 1 _ [5] rfl rfl (Src.new _ _ _ _ rfl _ rfl) (by have:=EB.out;simp only[List.length_singleton];omega) (by have h1:=Tw;have:=NN.out;omega) fun v' w7 vr yQ hat7=>?_
 have ux:=OM.grownRow (row:=_) (fun q hq=>pX q hq) (fun q hq=>by have:=(Tw.lt q hq).1;have:=Ym.out;omega) yC.out yQ;have vz:=Ei.grown yQ (fun e=>by have:=(Tw.lt _ e).1;have:=Ym.out;omega);obtain⟨VA,vc,rfl,gS⟩:=vr.form;clear gS;obtain⟨cq,Ua⟩:∃ cq,yv++[5]=cq:=⟨_,rfl⟩
 have Mk:Hid (1≤cq.length∧cq.length≤4):=by have:=EB.out;rw[Hid,← Ua,List.length_append,List.length_singleton];omega
 rw[Ua]at vr⊢;have la:=sR OM.holds (fun q hq=>pX q hq) hat7;obtain⟨H7,Rd,F2,dF,DJ,Ex⟩:=vr.snap ux.holds (fun q hq=>la q (ti hq));have ul:Dealt w H w7 H7 gd:=ux.snap (B:=W1.heap.size) Rd F2 dF (fun q hq=>(vr.lt q (ti hq)).1) (by have:=Ym.out;omega) yC.out
 have Kn:H7 w.heap.size=none:=by
  cases hz:H7 w.heap.size with
  | none=>rfl
  | some o =>
  rcases dF _ o hz with h1 | h1
  ·rw[Kq]at h1;cases h1
  have:=(vr.lt _ (ti h1)).1;have:=Ym.out
  omega
 have Mj:=Hh Ex;obtain⟨ncq,OT⟩:∃ ncq,ncq=cq.length:=⟨_,rfl⟩
 have RH:=Hh OT;rw[← OT];clear OM Tw pX yQ hat7 ux vr la Rd F2 dF DJ Ex Ua Ei Kq OT;go_wp2_with fail
 refine(vG _ ul.deck 100 (by omega) (by omega)).mono ?_
 rintro e w9 ⟨r9,rfl,Ri,tf⟩
 have xr:=vz.dealt tf (by have:=yC.out;omega);have Kp:=tf.hid Kn vz.lt;replace Mj:=Hh (Mj.out.mono tf.le);have I5:=ul.trans tf;clear ul tf vz Kn Ri;go_wp2_with fail
 refine(SD0.out _ _).mono ?_
 rintro e wb ⟨A1,c1,l1,rfl,Yu,ez⟩
 obtain⟨H1,xg,sZ,vJ⟩:=Fresh.snapB I5.holds ez;have I1:=xr.below xg.below;have Kr:=xg.none Kp xr.lt;have ME:=I5.grown xg;have CR:=Hh (pi (sP:=sP) (ca:=vc) (cb:=c1) RH.out Yu.symm wb ME.holds (Src.of_row (Mj.out.mono xg.le).row ME.holds) (Src.of_row sZ.row ME.holds));clear ez vJ sZ xg I5 xr Kp Yu Mj;go_wp2_with fail
 refine CR.out.mono ?_
 rintro e wc2 ⟨x0,a0,Hc,nc,rfl,JD,WR,Uf⟩
 clear CR Uf;have I2:=I1.below JD.below;have Ks:=JD.none Kr I1.lt;have MF:=ME.grown JD;clear I1 Kr ME JD
 have uk:GS w H gd (gpQ x0 a0) wc2.heap.size Hc (wc2.alloc (.cells (gpQ x0 a0) 25)) :=
  ⟨MF.alloc _,I2.alloc _,Blk.new _ _ _,yC.out,I2.lt,Ks,MF.holds.none_of_ge (Nat.le_refl _)⟩
 obtain⟨P,uT⟩:∃ P,wc2.heap.size=P:=⟨_,rfl⟩
 obtain⟨wd,Im⟩:∃ wd,wc2.alloc (.cells (gpQ x0 a0) 25)=wd:=⟨_,rfl⟩
 rw[uT,Im]at uk;have HW:=Hh (And.intro uT Im);clear uT Im I2 Ks MF;go_upto_region 2 with fail
 try rw[HW.out.1]
 try rw[HW.out.2]
 clear HW;go_wp2_with fail
 refine(vG _ uk.dealt.deck 7 (by omega) (by omega)).mono ?_
 rintro e we ⟨k,rfl,hk,I6⟩
 replace uk:=uk.step I6;have JO:GSt w H gd P we:=⟨x0,a0,_,uk,WR.mono I6.le⟩
 clear uk WR I6;go_wp2_with fail
 go_loopw [5] (fun v5 wr=>∃ k:Nat,v5=.int .i64 (k:Int)∧Hid (k≤7)∧GSt w H gd P wr) (fun v5 _=>(intOf v5).toNat)
 case atStart=>exact⟨k,rfl,by rw[Hid];omega,JO⟩
 case round =>
 clear JO hk;obtain⟨k,rfl,HK,JO⟩:=hrel;obtain⟨x,a,Hr,uk,hx⟩:=JO;have HX:=Hh hx;clear hx
 by_cases sL:k=0
 ·subst sL;obtain⟨p0,p1,p2,p3⟩:=jhA;go_wp2_with (with_reducible refine zx ?_)
  refine zv rfl _ _ _ rfl rfl _ _ rfl rfl _ _ uk.res zp rfl (yG _ _ _ _ rfl rfl rfl rfl) fun wz kG zS=>?_
  have yl:=uk.dealt.gb uk.hT (Nat.le_refl _) yC.out zS;clear uk zS p0 p1 p2 p3;go_wp2_with fail
  refine vo rfl rfl kG rfl rfl zp rfl ?_
  exact⟨x,a,Hr,rfl,yl,HX.out⟩
 obtain⟨k,rfl⟩:∃ k',k=k'+1:=⟨k-1,by omega⟩
 have iP:(0:Int)<((k+1:Nat):Int):=by omega
 have e1:((k+1:Nat):Int)=(k:Int)+1:=by omega
 rw[e1]at iP⊢;have Mm:Hid (k≤6):=by have:=HK.out;rw[Hid];omega
 have kw:IntKind.i64.wrap (k:Int)=(k:Int):=IntWalk.i64_in _ (by have:=HK.out;omega);have kw1:IntKind.i64.wrap ((k:Int)+1-1)=(k:Int):=by rw[show(k:Int)+1-1=(k:Int) by omega];exact kw
 clear sL e1;go_wp2_with fail
 refine(vG _ uk.dealt.deck 8 (by omega) (by omega)).mono ?_
 rintro e w2 ⟨n,rfl,hn,vO⟩
 replace uk:=uk.step vO;replace HX:=Hh (HX.out.mono vO.le);have RJ:=Hh (HT.out.mono uk.dealt.le);clear vO iP;have BS:=Hh hn;clear hn;go_upto_region 6 with fail
 go_cut [7,8,9] (fun s7 s8 s9 wx=>∃ (X:Nat) (x2:Gp) (a2:EAd) (H2:Snap) (n2:Int),s7=.pointer (some ⟨X,0,none⟩)∧s9=.int .i64 n2∧GS w H gd (gpQ x a) P H2 wx∧GpA H2 x a∧XB w P (gpQ x2 a2) X H2 wx∧GpA H2 x2 a2)
 case first =>
  replace uk:=uk.drew;have SS:Hid (∀ Hx wx,GS w H gd (gpQ x a) P Hx wx→wx.cell? ⟨P,0,none⟩=some (.slice a.ia x.id.length a.ic)∧wx.cell? ⟨P,1,none⟩=some (.slice a.sa x.secret.length a.sc)∧wx.cell? ⟨P,2,none⟩=some (.int .i64 x.number)∧wx.cell? ⟨P,3,none⟩=some (.slice a.ma x.members.length a.mc)):=fun _ _ h=>⟨h.var.cell 0 rfl,h.var.cell 1 rfl,h.var.cell 2 rfl,h.var.cell 3 rfl⟩
  have sk:Hid (Hr.le Hr):=Snap.le.refl Hr
  refine zj 15 (fun wx=>wx.cell? ⟨P,0,none⟩=some (.slice a.ia x.id.length a.ic)∧wx.cell? ⟨P,1,none⟩=some (.slice a.sa x.secret.length a.sc)∧wx.cell? ⟨P,2,none⟩=some (.int .i64 x.number)∧wx.cell? ⟨P,3,none⟩=some (.slice a.ma x.members.length a.mc)) (by kernel_rfl) (SS.out _ _ uk) (fun zy=>?_)
  repeat' first
   | (
    revert k3
    intro hK
    go_simp
    refine(vG _ uk.dealt.deck 7 (by omega) (by omega)).mono ?_
    rintro e w3 ⟨r3,rfl,Py,ve⟩
    try have hN:=hN.step ve yC.out
    have uk:=uk.step ve;have HX:=Hh (HX.out.mono ve.le);have RJ:=Hh (RJ.out.mono ve.le);clear Py ve
    refine Ko hK ?_ fun zy=>?_
    ·exact SS.out _ _ uk
    clear hK K)
   | (
    revert k5
    intro hK
    go_simp
    refine(RJ.out.plain _ (Snap.le.refl _) _ _ _ uk.dealt.holds).mono ?_
    rintro e w5 ⟨m5,a5,H5,rfl,xT,P9,Uf⟩
    try have hN:=hN.grow xT
    have uk:=uk.grow xT;have HX:=Hh (HX.out.mono xT.le);have RJ:=Hh (RJ.out.mono xT.le);have Iw:=Hh P9;clear xT P9 Uf
    refine Ko hK ?_ fun zy=>?_
    ·exact SS.out _ _ uk
    clear hK K)
   | (
    revert k6
    intro hK
    go_simp
    refine(kZ RJ.out.sound HX.out Iw.out _ uk.dealt.holds).mono ?_
    rintro e w6 ⟨x6,a6,H6,A6,c6,l6,n6,rfl,xW,Jm,oM,Uf⟩
    try have hN:=hN.grow xW
    have uk:=uk.grow xW;have HX:=Hh (HX.out.mono xW.le);have Bm:=Hh Jm;clear xW Jm oM Uf
    refine Ko hK ?_ fun zy=>?_
    ·exact SS.out _ _ uk
    clear hK K)
   | (
    revert k11
    intro hK
    go_simp
    have hN:=uk.newX;have uk:=uk.alloc (.cells yf 25)
    refine Ko hK ?_ fun zy=>?_
    ·exact SS.out _ _ uk
    clear hK K)
   | (
    revert k12
    intro hK
    refine zD _ _ _ rfl _ _ rfl rfl _ _ hN.blk zp rfl (yG _ _ _ _ rfl rfl rfl rfl) fun w12 hB12 hg12=>?_
    have uk:=uk.put hN hg12;have hN:=hN.put (xc':=gpQ x6 a6) hB12;clear hB12 hg12;go_simp
    refine Ko hK ?_ fun zy=>?_
    ·exact SS.out _ _ uk
    clear hK K)
   | simp only[Act.put,zz1,zz2,zz3,zz4,zz5,zz6]
   | refine TkS 0 rfl zy ?_ (hs:=by decide +kernel)
   | refine TkS 1 rfl zy ?_ (hs:=by decide +kernel)
   | refine TkS 2 rfl zy ?_ (hs:=by decide +kernel)
   | refine TkS 4 rfl zy ?_ (hs:=by decide +kernel)
   | refine TkS 7 rfl zy ?_ (hs:=by decide +kernel)
   | refine TkS 8 rfl zy ?_ (hs:=by decide +kernel)
   | refine TkS 9 rfl zy ?_ (hs:=by decide +kernel)
   | refine TkS 10 rfl zy ?_ (hs:=by decide +kernel)
   | refine TkS 13 rfl zy ?_ (hs:=by decide +kernel)
   | refine TkS 14 rfl zy ?_ (hs:=by decide +kernel)
   | refine Ways.two (i:=3) (j:=11) rfl rfl (by decide +kernel) (fun K k3=>?_) (fun K k11=>?_)
   | refine Ways.two (i:=5) (j:=11) rfl rfl (by decide +kernel) (fun K k5=>?_) (fun K k11=>?_)
   | refine Ways.two (i:=6) (j:=11) rfl rfl (by decide +kernel) (fun K k6=>?_) (fun K k11=>?_)
   | refine To 11 rfl (fun K k11=>?_) (by decide +kernel)
   | refine To 12 rfl (fun K k12=>?_) (by decide +kernel)
   | refine To 6 rfl (fun K k6=>?_) (by decide +kernel)
   | refine To 5 rfl (fun K k5=>?_) (by decide +kernel)
   | refine To 3 rfl (fun K k3=>?_) (by decide +kernel)
   | (
    refine Wd ?_ (by decide +kernel)
    clear zy;go_wp2_with fail
    go_meet
    exact⟨_,x6,a6,_,n6,rfl,rfl,uk,HX.out,hN,Bm.out⟩)
 case rest =>
 clear uk HX RJ;obtain⟨X,x2,a2,H2,n2,rfl,rfl,uk,hx,hN,lg⟩:=hcut;go_wp2_with fail
 refine(vG _ uk.dealt.deck 6 (by omega) (by omega)).mono ?_
 rintro e w3 ⟨r,rfl,hr,ve⟩
 replace hN:=hN.step ve yC.out;replace uk:=uk.step ve;have HX:=Hh (hx.mono ve.le);have Pd:=Hh (lg.mono ve.le);have RJ:=Hh (HT.out.mono uk.dealt.le);have SD:=Hh RJ.out.sound;clear ve hx lg hr
 by_cases h4:r=4
 ·have f1:((r:Int)=4)=True:=eq_true (by omega);have f2:((r:Int)==4)=true:=beq_iff_eq.2 (by omega);obtain⟨p0,p1,p2,p3⟩:=jhA;have nw:IntKind.i64.wrap (97+(n:Int))=97+(n:Int):=IntWalk.i64_in _ (by have:=BS.out;omega);obtain⟨y,hy⟩:=Q9 (97+(n:Int));have CV:=xI (w:=w3.alloc (.cells #[zT y] 5)) (l:=[y]) (Src.new w3 #[zT y] 5 _ rfl _ rfl) 1 1 rfl;have EX:=Hh (fun wx hx=>nf SD.out HX.out ⟨[y].toArray⟩ wx hx);replace hN:=hN.alloc (.cells #[zT y] 5);replace uk:=uk.alloc (.cells #[zT y] 5);clear h4;go_wp2_with fail
  refine(EX.out _ uk.dealt.holds).mono ?_
  rintro e w4 ⟨x4,a4,H4,n4,rfl,xj,PK,Uf⟩
  replace hN:=hN.grow xj;replace uk:=uk.grow xj;replace HX:=Hh (HX.out.mono xj.le);have Hd:=Hh PK;clear EX CV hy nw p0 p1 p2 p3 xj PK Uf f1 f2;exact jaz
 have f1:((r:Int)=4)=False:=eq_false (by omega);have f2:((r:Int)==4)=false:=beq_eq_false_iff_ne.2 (by omega)
 by_cases h5:r=5
 ·have f3:((r:Int)=5)=True:=eq_true (by omega);have f4:((r:Int)==5)=true:=beq_iff_eq.2 (by omega);obtain⟨p0,p1,p2,p3⟩:=jhA;have EX:=Hh (fun wx hx=>kg SD.out HX.out wx hx);clear h4 h5;go_wp2_with fail
  refine(EX.out _ uk.dealt.holds).mono ?_
  rintro e w4 ⟨x4,a4,H4,n4,rfl,xj,PK,Uf⟩
  replace hN:=hN.grow xj;replace uk:=uk.grow xj;replace HX:=Hh (HX.out.mono xj.le);have Hd:=Hh PK;clear EX p0 p1 p2 p3 xj PK Uf f1 f2 f3 f4;exact jaz
 have f3:((r:Int)=5)=False:=eq_false (by omega);have f4:((r:Int)==5)=false:=beq_eq_false_iff_ne.2 (by omega);clear h4 h5
 by_cases h0:n2=0
 ·have e1:(n2=0)=True:=eq_true h0;have e2:(n2==0)=true:=beq_iff_eq.2 h0;have t0:=hN.blk.cell 0 rfl;have t1:=hN.blk.cell 1 rfl;have t2:=hN.blk.cell 2 rfl;have t3:=hN.blk.cell 3 rfl;clear h0;go_wp2_with (with_reducible refine zx ?_)
  refine zv rfl _ _ _ rfl rfl _ _ rfl rfl _ _ uk.var zp rfl (yG _ _ _ _ rfl rfl rfl rfl) fun wz hBz zS=>?_
  replace uk:=uk.set (gc':=gpQ x2 a2) hBz zS;clear hBz zS hN t0 t1 t2 t3 e1 e2;go_wp2_with fail
  go_roundw
  case rel=>exact⟨k,by go_num,(by have:=Mm.out;exact(show k≤7 by omega)),x2,a2,_,uk,Pd.out⟩
  case measure=>simp[intOf]
 have e1:(n2=0)=False:=eq_false h0;have e2:(n2==0)=false:=beq_eq_false_iff_ne.2 h0;exact jev
def yV (n:Nat):Bool:=decide (n=0)||decide (n=32)
def zi (t v g:Int) (ni nx nd nk:Nat):Bool :=
 decide (ni≤16)&&decide (-65536≤g)&&decide (g≤65535) &&
 (if t=1 then(decide (v=4)||decide (v=6))&&yV nx&&yV nd&&decide (0<nx+nd)&&decide (nk=0)
  else if t=4 then decide (v=0)&&decide (nx+nd=0)&&decide (1≤nk)&&decide (nk≤64) else false)
abbrev uO (t v g:Int) (Ai:Option Addr) (ni ci:Nat) (Ax:Option Addr) (nx cx:Nat) (Ad:Option Addr) (nd cd:Nat) (Ak:Option Addr) (nk ck:Nat):Array Value :=
 #[.int .i64 t,.int .i64 v,.int .i64 g,.slice Ai ni ci,.slice Ax nx cx,.slice Ad nd cd,.slice Ak nk ck]
theorem xe (A:Option Addr) (n c:Nat) (w:World) :
  Calls Tryz.prog 108 #[.slice A n c] w fun e w'=>e=.returned (.bool (yV n))∧w=w':=by
 by_cases h0:n=0
 ·subst h0;go_enter Tryz.func108,Tryz.ntmps108
  exact jbA
 have z0:((n:Int)==0)=false:=by rw[beq_eq_false_iff_ne];omega
 have y0:((n:Int)=0)=False:=eq_false (by omega)
 have E:Hid (decide ((n:Int)=32)=yV n):=by
  rw[Hid,yV,decide_eq_false h0,Bool.false_or,Bool.eq_iff_iff,decide_eq_true_eq,decide_eq_true_eq];omega
 have E':Hid (((n:Int)==32)=yV n):=by
  rw[← E.out];rfl
 go_enter Tryz.func108,Tryz.ntmps108
 go_wp2_with fail
 go_ret
 exact⟨by first | (rw[← E.out];rfl) | (rw[← E'.out];rfl),rfl⟩
theorem qF {a b:Nat}(ha:a≤9223372036854775807) (hb:b≤9223372036854775807) (h:¬ a+b=0):¬ wrap64 ((a:Int)+(b:Int))=0:=by
 unfold wrap64
 omega
theorem nU {a b:Nat}(ha:a≤9223372036854775807) (hb:b≤9223372036854775807) (h:¬ a+b=0):¬ IntKind.i64.wrap ((a:Int)+(b:Int))=0:=by
 rw[IntKind.wrap_i64]
 omega
section
variable (t v g:Int) (Ai:Option Addr) (ni ci:Nat) (Ax:Option Addr) (nx cx:Nat) (Ad:Option Addr) (nd cd:Nat) (Ak:Option Addr) (nk ck:Nat) (w:World)
theorem fi (h2:nx≤9223372036854775807) (h3:nd≤9223372036854775807) :
  Calls Tryz.prog 56 #[.agg (uO t v g Ai ni ci Ax nx cx Ad nd cd Ak nk ck)] w fun e w'=>e=.returned (.bool (zi t v g ni nx nd nk))∧Below w.heap.size w w':=by
 obtain⟨hB,hb,c0,c1,c2,c3,c4,c5,c6⟩:=jfL;have Z1:=Hh (And.intro h2 h3);clear h2 h3
 by_cases hi:ni≤16
 case neg =>
  have ri:¬ ((ni:Int)≤16):=by omega
  have si:decide ((ni:Int)≤16)=false:=decide_eq_false ri;have qi:16<(ni:Int):=by omega
  have bi:decide (16<(ni:Int))=true:=decide_eq_true qi;have E:Hid (zi _ _ _ _ _ _ _=false):=(show zi t v g ni nx nd nk=false by simp[zi,yV,hi])
  clear hi;exact jeX
 have qi:¬ (16<(ni:Int)):=by omega
 have bi:=jg8
 by_cases ww : -65536≤g
 case neg =>
  have qg1:g < -65536:=by omega
  have bg1:decide (g < -65536)=true:=decide_eq_true qg1;have E:Hid (zi _ _ _ _ _ _ _=false):=(show zi t v g ni nx nd nk=false by simp[zi,yV,hi,ww])
  clear hi ww;exact jeX
 have qg1:¬ (g < -65536):=by omega
 have bg1:=jha
 by_cases xB:g≤65535
 case neg =>
  have rg2:¬ (g≤65535):=by omega
  have sg2:decide (g≤65535)=false:=decide_eq_false rg2;have qg2:65535<g:=by omega
  have bg2:decide (65535<g)=true:=decide_eq_true qg2;have E:Hid (zi _ _ _ _ _ _ _=false):=(show zi t v g ni nx nd nk=false by simp[zi,yV,hi,ww,xB])
  clear hi ww xB;exact jeX
 have qg2:¬ (65535<g):=by omega
 have bg2:=jhd;go_enter Tryz.func56,Tryz.ntmps56
 go_upto_region 3 with fail
 go_cut [3,4] (fun s3 s4 wx=>s3=.int .i64 (nx:Int)∧s4=.int .i64 (nd:Int)∧Below w.heap.size w wx∧Blk wx w.heap.size 61 #[.int .i64 t,.int .i64 v,.int .i64 g,.slice Ai ni ci,.slice Ax nx cx,.slice Ad nd cd,.slice Ak nk ck])
 case first =>
  refine zj 7 (fun wx=>wx.cell? ⟨w.heap.size,4,none⟩=some (.slice Ax nx cx)∧wx.cell? ⟨w.heap.size,5,none⟩=some (.slice Ad nd cd)) (by kernel_rfl) (⟨c4,c5⟩) (fun zy=>?_)
  refine Tk 0 rfl zy ?_
  refine Tk 1 rfl zy ?_
  refine Tk 2 rfl zy ?_
  refine Tk 3 rfl zy ?_
  refine Tk 4 rfl zy ?_
  refine Tk 5 rfl zy ?_
  refine Tk 6 rfl zy ?_
  refine To 7 rfl fun K hK=>?_
  go_simp
  refine Kz hK ?_
  clear hK K
  refine Wd ?_
  go_wp2_with fail
  go_meet
  exact⟨rfl,rfl,hb.drew,hB.drew⟩
 case rest =>
 clear hb hB c0 c1 c2 c3 c4 c5 c6;obtain⟨rfl,rfl,hb,hB⟩:=hcut;have c0:=jf8;have c1:=jgG;have c6:=hB.cell 6 rfl
 by_cases ht:t=1
 case neg =>
  have qt:(t==1)=false:=by rw[beq_eq_false_iff_ne];omega
  have bt:(t=1)=False:=eq_false (by omega)
  by_cases dH:t=4
  case neg =>
   have qt4:(t==4)=false:=by rw[beq_eq_false_iff_ne];omega
   have bt4:(t=4)=False:=eq_false (by omega);have E:Hid (zi _ _ _ _ _ _ _=false):=(show zi t v g ni nx nd nk=false by simp[zi,yV,hi,ww,xB,ht,dH])
   clear hi ww xB ht dH;exact jak
  subst dH
  by_cases hw:v=0
  case neg =>
   have qw:(v==0)=false:=by rw[beq_eq_false_iff_ne];omega
   have bw:(v=0)=False:=eq_false (by omega);have E:Hid (zi _ _ _ _ _ _ _=false):=(show zi 4 v g ni nx nd nk=false by simp[zi,yV,hi,ww,xB,hw])
   clear hi ww xB hw;exact jak
  subst hw
  by_cases hs:nx+nd=0
  case neg =>
   have as0:(IntKind.i64.wrap ((nx:Int)+(nd:Int))==0)=false:=by rw[beq_eq_false_iff_ne];exact nU Z1.out.1 Z1.out.2 hs
   have as1:=jh3;have as2:(wrap64 ((nx:Int)+(nd:Int))==0)=false:=by rw[beq_eq_false_iff_ne];exact qF Z1.out.1 Z1.out.2 hs
   have as3:(wrap64 ((nx:Int)+(nd:Int))=0)=False:=eq_false (qF Z1.out.1 Z1.out.2 hs);have E:Hid (zi _ _ _ _ _ _ _=false):=(show zi 4 0 g ni nx nd nk=false by simp[zi,yV,hi,ww,xB,hs] <;> omega)
   clear hi ww xB hs;exact jak
  obtain⟨rfl,rfl⟩:nx=0∧nd=0:=by omega
  have K:=jf1
  by_cases rX:1≤nk
  case neg =>
   have qk1:¬ (0:Int)<(nk:Int):=by omega
   have bk1:decide ((0:Int)<(nk:Int))=false:=decide_eq_false qk1;have ck1:¬ (1:Int)≤(nk:Int):=by omega
   have dk1:decide ((1:Int)≤(nk:Int))=false:=decide_eq_false ck1;have E:Hid (zi _ _ _ _ _ _ _=false):=(show zi 4 0 g ni 0 0 nk=false by simp[zi,yV,hi,ww,xB,rX])
   clear hi ww xB rX;exact jak
  have qk1:(0:Int)<(nk:Int):=by omega
  have bk1:decide ((0:Int)<(nk:Int))=true:=decide_eq_true qk1;have ck1:(1:Int)≤(nk:Int):=by omega
  have dk1:decide ((1:Int)≤(nk:Int))=true:=decide_eq_true ck1
  by_cases qf:nk≤64
  case neg =>
   have rk2:¬ ((nk:Int)≤64):=by omega
   have sk2:decide ((nk:Int)≤64)=false:=decide_eq_false rk2;have qk2:64<(nk:Int):=by omega
   have bk2:decide (64<(nk:Int))=true:=decide_eq_true qk2;have E:Hid (zi _ _ _ _ _ _ _=false):=(show zi 4 0 g ni 0 0 nk=false by simp[zi,yV,hi,ww,xB,rX,qf])
   clear hi ww xB rX qf;exact jak
  have qk2:¬ (64<(nk:Int)):=by omega
  have bk2:decide (64<(nk:Int))=false:=decide_eq_false qk2;have E:Hid (zi _ _ _ _ _ _ _=true):=(show zi 4 0 g ni 0 0 nk=true by simp[zi,yV,hi,ww,xB,rX,qf])
  clear hi ww xB rX qf;exact jak
 subst ht
 by_cases hv:v=4
 case neg =>
  have qv:(v==4)=false:=by rw[beq_eq_false_iff_ne];omega
  have bv:(v=4)=False:=eq_false (by omega)
  by_cases WP:v=6
  case neg =>
   have qv2:(v==6)=false:=by rw[beq_eq_false_iff_ne];omega
   have bv2:(v=6)=False:=eq_false (by omega);have E:Hid (zi _ _ _ _ _ _ _=false):=(show zi 1 v g ni nx nd nk=false by simp[zi,yV,hi,ww,xB,hv,WP])
   clear hi ww xB hv WP;exact jak
  subst WP
  by_cases hx:nx=0
  case neg =>
   have qx:((nx:Int)==0)=false:=by rw[beq_eq_false_iff_ne];omega
   have bx:((nx:Int)=0)=False:=eq_false (by omega)
   by_cases lg:nx=32
   case neg =>
    have qx2:((nx:Int)==32)=false:=by rw[beq_eq_false_iff_ne];omega
    have bx2:((nx:Int)=32)=False:=eq_false (by omega);have E:Hid (zi _ _ _ _ _ _ _=false):=(show zi 1 6 g ni nx nd nk=false by simp[zi,yV,hi,ww,xB,hx,lg])
    clear hi ww xB hx lg;exact jak
   subst lg
   by_cases hd:nd=0
   case neg =>
    have qd:((nd:Int)==0)=false:=by rw[beq_eq_false_iff_ne];omega
    have bd:=jhs
    by_cases vO:nd=32
    case neg =>
     have qd2:((nd:Int)==32)=false:=by rw[beq_eq_false_iff_ne];omega
     have bd2:=jhm;have E:Hid (zi _ _ _ _ _ _ _=false):=(show zi 1 6 g ni 32 nd nk=false by simp[zi,yV,hi,ww,xB,hd,vO])
     exact jeZ
    subst vO;have K:=jhx
    by_cases hk:nk=0
    case neg =>
     have qk:((nk:Int)==0)=false:=by rw[beq_eq_false_iff_ne];omega
     have bk:=jgj;have E:Hid (zi _ _ _ _ _ _ _=false):=(show zi 1 6 g ni 32 32 nk=false by simp[zi,yV,hi,ww,xB,hk])
     exact jeL
    subst hk;have E:Hid (zi _ _ _ _ _ _ _=true):=(show zi 1 6 g ni 32 32 0=true by simp[zi,yV,hi,ww,xB])
    exact jeE
   subst hd;have K:=jhy
   by_cases hk:nk=0
   case neg =>
    have qk:((nk:Int)==0)=false:=by rw[beq_eq_false_iff_ne];omega
    have bk:=jgj;have E:Hid (zi _ _ _ _ _ _ _=false):=(show zi 1 6 g ni 32 0 nk=false by simp[zi,yV,hi,ww,xB,hk])
    exact jeL
   subst hk;have E:Hid (zi _ _ _ _ _ _ _=true):=(show zi 1 6 g ni 32 0 0=true by simp[zi,yV,hi,ww,xB])
   exact jeE
  subst hx
  by_cases hd:nd=0
  case neg =>
   have qd:((nd:Int)==0)=false:=by rw[beq_eq_false_iff_ne];omega
   have bd:=jhs
   by_cases vO:nd=32
   case neg =>
    have qd2:((nd:Int)==32)=false:=by rw[beq_eq_false_iff_ne];omega
    have bd2:=jhm;have E:Hid (zi _ _ _ _ _ _ _=false):=(show zi 1 6 g ni 0 nd nk=false by simp[zi,yV,hi,ww,xB,hd,vO])
    exact jeZ
   subst vO;have K:=jhz
   by_cases hk:nk=0
   case neg =>
    have qk:((nk:Int)==0)=false:=by rw[beq_eq_false_iff_ne];omega
    have bk:=jgj;have E:Hid (zi _ _ _ _ _ _ _=false):=(show zi 1 6 g ni 0 32 nk=false by simp[zi,yV,hi,ww,xB,hk])
    exact jeL
   subst hk;have E:Hid (zi _ _ _ _ _ _ _=true):=(show zi 1 6 g ni 0 32 0=true by simp[zi,yV,hi,ww,xB])
   exact jeE
  subst hd;have K:=jf1;have E:Hid (zi _ _ _ _ _ _ _=false):=(show zi 1 6 g ni 0 0 nk=false by simp[zi,yV,hi,ww,xB])
  exact jeE
 subst hv
 by_cases hx:nx=0
 case neg =>
  have qx:((nx:Int)==0)=false:=by rw[beq_eq_false_iff_ne];omega
  have bx:((nx:Int)=0)=False:=eq_false (by omega)
  by_cases lg:nx=32
  case neg =>
   have qx2:((nx:Int)==32)=false:=by rw[beq_eq_false_iff_ne];omega
   have bx2:((nx:Int)=32)=False:=eq_false (by omega);have E:Hid (zi _ _ _ _ _ _ _=false):=(show zi 1 4 g ni nx nd nk=false by simp[zi,yV,hi,ww,xB,hx,lg])
   clear hi ww xB hx lg;exact jak
  subst lg
  by_cases hd:nd=0
  case neg =>
   have qd:((nd:Int)==0)=false:=by rw[beq_eq_false_iff_ne];omega
   have bd:=jhs
   by_cases vO:nd=32
   case neg =>
    have qd2:((nd:Int)==32)=false:=by rw[beq_eq_false_iff_ne];omega
    have bd2:=jhm;have E:Hid (zi _ _ _ _ _ _ _=false):=(show zi 1 4 g ni 32 nd nk=false by simp[zi,yV,hi,ww,xB,hd,vO])
    exact jeZ
   subst vO;have K:=jhx
   by_cases hk:nk=0
   case neg =>
    have qk:((nk:Int)==0)=false:=by rw[beq_eq_false_iff_ne];omega
    have bk:=jgj;have E:Hid (zi _ _ _ _ _ _ _=false):=(show zi 1 4 g ni 32 32 nk=false by simp[zi,yV,hi,ww,xB,hk])
    exact jeL
   subst hk;have E:Hid (zi _ _ _ _ _ _ _=true):=(show zi 1 4 g ni 32 32 0=true by simp[zi,yV,hi,ww,xB])
   exact jeE
  subst hd;have K:=jhy
  by_cases hk:nk=0
  case neg =>
   have qk:((nk:Int)==0)=false:=by rw[beq_eq_false_iff_ne];omega
   have bk:=jgj;have E:Hid (zi _ _ _ _ _ _ _=false):=(show zi 1 4 g ni 32 0 nk=false by simp[zi,yV,hi,ww,xB,hk])
   exact jeL
  subst hk;have E:Hid (zi _ _ _ _ _ _ _=true):=(show zi 1 4 g ni 32 0 0=true by simp[zi,yV,hi,ww,xB])
  exact jeE
 subst hx
 by_cases hd:nd=0
 case neg =>
  have qd:((nd:Int)==0)=false:=by rw[beq_eq_false_iff_ne];omega
  have bd:=jhs
  by_cases vO:nd=32
  case neg =>
   have qd2:((nd:Int)==32)=false:=by rw[beq_eq_false_iff_ne];omega
   have bd2:=jhm;have E:Hid (zi _ _ _ _ _ _ _=false):=(show zi 1 4 g ni 0 nd nk=false by simp[zi,yV,hi,ww,xB,hd,vO])
   exact jeZ
  subst vO;have K:=jhz
  by_cases hk:nk=0
  case neg =>
   have qk:((nk:Int)==0)=false:=by rw[beq_eq_false_iff_ne];omega
   have bk:=jgj;have E:Hid (zi _ _ _ _ _ _ _=false):=(show zi 1 4 g ni 0 32 nk=false by simp[zi,yV,hi,ww,xB,hk])
   exact jeL
  subst hk;have E:Hid (zi _ _ _ _ _ _ _=true):=(show zi 1 4 g ni 0 32 0=true by simp[zi,yV,hi,ww,xB])
  exact jeE
 subst hd;have K:=jf1;have E:Hid (zi _ _ _ _ _ _ _=false):=(show zi 1 4 g ni 0 0 nk=false by simp[zi,yV,hi,ww,xB])
 exact jeE
end
theorem nS {n:Nat}(h:yV n=true):n≤32:=by
 simp[yV]at h
 omega
section
variable (t v g:Int) (Ai:Option Addr) (ni ci:Nat) (Ax:Option Addr) (nx cx:Nat) (Ad:Option Addr) (nd cd:Nat) (Ak:Option Addr) (nk ck:Nat) (w:World)
theorem Nj (ht:t=1) (hr:ni≤16∧-65536≤g∧g≤65535):Calls Tryz.prog 90 #[.agg (uO t v g Ai ni ci Ax nx cx Ad nd cd Ak nk ck)] w fun e w'=>e=.returned (.bool (zi t v g ni nx nd nk))∧Below w.heap.size w w':=by
 obtain⟨hB,hb,c0,c1,c2,c3,c4,c5,c6⟩:=jfL;subst ht;have hi:=hr.1;have ww:=hr.2.1;have xB:=hr.2.2;have qi:¬ (16<(ni:Int)):=by omega
 have bi:=jg8;have qg1:¬ (g < -65536):=by omega
 have bg1:=jha;have qg2:¬ (65535<g):=by omega
 have bg2:=jhd;have Ri:=Hh hr;clear hr;have qv2:((4:Int)==6)=false:=rfl
 by_cases hv:v=4∨v=6
 case neg =>
  have Q1:¬ v=4:=fun h=>hv (.inl h)
  have Mg:¬ v=6:=fun h=>hv (.inr h)
  have qv:(v==4)=false:=by rw[beq_eq_false_iff_ne];omega
  have bv:(v=4)=False:=eq_false Q1;have qw:(v==6)=false:=by rw[beq_eq_false_iff_ne];omega
  have bw:(v=6)=False:=eq_false Mg;have E:Hid (zi _ _ _ _ _ _ _=false):=(show zi 1 v g ni nx nd nk=false by simp[zi,hi,ww,xB,Q1,Mg])
  clear hi ww xB Q1 Mg;go_enter Tryz.func90,Tryz.ntmps90
  clear hv;exact jai
 have HV:Hid ((decide (v=4)||decide (v=6))=true):=by rw[Hid,Bool.or_eq_true,decide_eq_true_eq,decide_eq_true_eq];exact hv
 by_cases Q1:v=4
 case pos =>
  subst Q1;clear hv HV
  cases sx:yV nx with
  | false =>
   have E:Hid (zi _ _ _ _ _ _ _=false):=(show zi 1 4 g ni nx nd nk=false by simp[zi,hi,ww,xB,sx])
   exact jey
  | true =>
  cases sd:yV nd with
  | false =>
   have E:Hid (zi _ _ _ _ _ _ _=false):=(show zi 1 4 g ni nx nd nk=false by simp[zi,hi,ww,xB,sx,sd])
   exact jff
  | true =>
  have ZG:=nS sx;have WK:=nS sd;have K:=jhR
  by_cases hs:0<nx+nd
  case neg =>
   obtain⟨rfl,rfl⟩:nx=0∧nd=0:=by omega
   have E:Hid (zi _ _ _ _ _ _ _=false):=(show zi 1 4 g ni 0 0 nk=false by simp[zi,hi,ww,xB])
   exact jff
  have Ih:(0:Int)<(nx:Int)+(nd:Int):=by omega
  have DA:decide ((0:Int)<(nx:Int)+(nd:Int))=true:=decide_eq_true Ih;have DB:decide (0<nx+nd)=true:=decide_eq_true hs
  by_cases hk:nk=0
  case neg =>
   have qk:((nk:Int)==0)=false:=by rw[beq_eq_false_iff_ne];omega
   have bk:=jgj;have E:Hid (zi _ _ _ _ _ _ _=false):=(show zi 1 4 g ni nx nd nk=false by simp[zi,hi,ww,xB,hk])
   clear hi ww xB hk;exact jfg
  subst hk;have E:Hid (zi _ _ _ _ _ _ _=true):=(show zi 1 4 g ni nx nd 0=true by simp[zi,hi,ww,xB,sx,sd];exact hs)
  clear hi ww xB;exact jfg
 have Mg:v=6:=by omega
 subst Mg;clear hv HV Q1;have q64:((6:Int)==4)=false:=rfl
 cases sx:yV nx with
 | false =>
  have E:Hid (zi _ _ _ _ _ _ _=false):=(show zi 1 6 g ni nx nd nk=false by simp[zi,hi,ww,xB,sx])
  exact jey
 | true =>
 cases sd:yV nd with
 | false =>
  have E:Hid (zi _ _ _ _ _ _ _=false):=(show zi 1 6 g ni nx nd nk=false by simp[zi,hi,ww,xB,sx,sd])
  exact jff
 | true =>
 have ZG:=nS sx;have WK:=nS sd;have K:=jhR
 by_cases hs:0<nx+nd
 case neg =>
  obtain⟨rfl,rfl⟩:nx=0∧nd=0:=by omega
  have E:Hid (zi _ _ _ _ _ _ _=false):=(show zi 1 6 g ni 0 0 nk=false by simp[zi,hi,ww,xB])
  exact jff
 have Ih:(0:Int)<(nx:Int)+(nd:Int):=by omega
 have DA:decide ((0:Int)<(nx:Int)+(nd:Int))=true:=decide_eq_true Ih;have DB:decide (0<nx+nd)=true:=decide_eq_true hs
 by_cases hk:nk=0
 case neg =>
  have qk:((nk:Int)==0)=false:=by rw[beq_eq_false_iff_ne];omega
  have bk:=jgj;have E:Hid (zi _ _ _ _ _ _ _=false):=(show zi 1 6 g ni nx nd nk=false by simp[zi,hi,ww,xB,hk])
  clear hi ww xB hk;exact jfg
 subst hk;have E:Hid (zi _ _ _ _ _ _ _=true):=(show zi 1 6 g ni nx nd 0=true by simp[zi,hi,ww,xB,sx,sd];exact hs)
 clear hi ww xB;exact jfg
theorem Nk (ht:t=4) (h2:nx≤9223372036854775807) (h3:nd≤9223372036854775807) (hr:ni≤16∧-65536≤g∧g≤65535):Calls Tryz.prog 90 #[.agg (uO t v g Ai ni ci Ax nx cx Ad nd cd Ak nk ck)] w fun e w'=>e=.returned (.bool (zi t v g ni nx nd nk))∧Below w.heap.size w w':=by
 obtain⟨hB,hb,c0,c1,c2,c3,c4,c5,c6⟩:=jfL;subst ht;have Z1:=Hh (And.intro h2 h3);clear h2 h3;have hi:=hr.1;have ww:=hr.2.1;have xB:=hr.2.2;have qi:¬ (16<(ni:Int)):=by omega
 have bi:=jg8;have qg1:¬ (g < -65536):=by omega
 have bg1:=jha;have qg2:¬ (65535<g):=by omega
 have bg2:=jhd;have Ri:=Hh hr;clear hr;have q41:((4:Int)==1)=false:=rfl
 by_cases hv:v=0
 case neg =>
  have qv:(v==0)=false:=by rw[beq_eq_false_iff_ne];omega
  have bv:(v=0)=False:=eq_false hv;have E:Hid (zi _ _ _ _ _ _ _=false):=(show zi 4 v g ni nx nd nk=false by simp[zi,hi,ww,xB,hv])
  clear hi ww xB hv;exact jeh
 subst hv
 by_cases hs:nx+nd=0
 case neg =>
  have as0:(IntKind.i64.wrap ((nx:Int)+(nd:Int))==0)=false:=by rw[beq_eq_false_iff_ne];exact nU Z1.out.1 Z1.out.2 hs
  have as1:=jh3;have as2:(wrap64 ((nx:Int)+(nd:Int))==0)=false:=by rw[beq_eq_false_iff_ne];exact qF Z1.out.1 Z1.out.2 hs
  have as3:(wrap64 ((nx:Int)+(nd:Int))=0)=False:=eq_false (qF Z1.out.1 Z1.out.2 hs);have E:Hid (zi _ _ _ _ _ _ _=false):=(show zi 4 0 g ni nx nd nk=false by simp[zi,hi,ww,xB,hs] <;> omega)
  clear hi ww xB hs;exact jeh
 obtain⟨rfl,rfl⟩:nx=0∧nd=0:=by omega
 have K:=jf1
 by_cases rX:1≤nk
 case neg =>
  have qk1:¬ (0:Int)<(nk:Int):=by omega
  have bk1:decide ((0:Int)<(nk:Int))=false:=decide_eq_false qk1;have ck1:¬ (1:Int)≤(nk:Int):=by omega
  have dk1:decide ((1:Int)≤(nk:Int))=false:=decide_eq_false ck1;have E:Hid (zi _ _ _ _ _ _ _=false):=(show zi 4 0 g ni 0 0 nk=false by simp[zi,hi,ww,xB,rX])
  clear hi ww xB rX;exact jeh
 have qk1:(0:Int)<(nk:Int):=by omega
 have bk1:decide ((0:Int)<(nk:Int))=true:=decide_eq_true qk1;have ck1:(1:Int)≤(nk:Int):=by omega
 have dk1:decide ((1:Int)≤(nk:Int))=true:=decide_eq_true ck1
 by_cases qf:nk≤64
 case neg =>
  have rk2:¬ ((nk:Int)≤64):=by omega
  have sk2:decide ((nk:Int)≤64)=false:=decide_eq_false rk2;have E:Hid (zi _ _ _ _ _ _ _=false):=(show zi 4 0 g ni 0 0 nk=false by simp[zi,hi,ww,xB,rX,qf])
  clear hi ww xB rX qf;exact jeh
 have rk2:(nk:Int)≤64:=by omega
 have sk2:decide ((nk:Int)≤64)=true:=decide_eq_true rk2;have E:Hid (zi _ _ _ _ _ _ _=true):=(show zi 4 0 g ni 0 0 nk=true by simp[zi,hi,ww,xB,rX,qf])
 clear hi ww xB rX qf;exact jeh
theorem TH (ht:ni≤16∧-65536≤g∧g≤65535→¬ t=1∧¬ t=4):Calls Tryz.prog 90 #[.agg (uO t v g Ai ni ci Ax nx cx Ad nd cd Ak nk ck)] w fun e w'=>e=.returned (.bool (zi t v g ni nx nd nk))∧Below w.heap.size w w':=by
 obtain⟨hB,hb,c0,c1,c2,c3,c4,c5,c6⟩:=jfL
 by_cases hi:ni≤16
 case neg =>
  have ri:¬ ((ni:Int)≤16):=by omega
  have si:decide ((ni:Int)≤16)=false:=decide_eq_false ri;have qi:16<(ni:Int):=by omega
  have bi:decide (16<(ni:Int))=true:=decide_eq_true qi;clear ht;have E:Hid (zi _ _ _ _ _ _ _=false):=(show zi t v g ni nx nd nk=false by simp[zi,hi])
  clear hi;exact jeh
 have qi:¬ (16<(ni:Int)):=by omega
 have bi:=jg8
 by_cases ww : -65536≤g
 case neg =>
  have qg1:g < -65536:=by omega
  have bg1:decide (g < -65536)=true:=decide_eq_true qg1;clear ht;have E:Hid (zi _ _ _ _ _ _ _=false):=(show zi t v g ni nx nd nk=false by simp[zi,hi,ww])
  clear hi ww;exact jeh
 have qg1:¬ (g < -65536):=by omega
 have bg1:=jha
 by_cases xB:g≤65535
 case neg =>
  have qg2:65535<g:=by omega
  have bg2:decide (65535<g)=true:=decide_eq_true qg2;clear ht;have E:Hid (zi _ _ _ _ _ _ _=false):=(show zi t v g ni nx nd nk=false by simp[zi,hi,ww,xB])
  clear hi ww xB;exact jeh
 have qg2:¬ (65535<g):=by omega
 have bg2:=jhd;obtain⟨iA,dH⟩:=ht ⟨hi,ww,xB⟩;clear ht;have q1:(t==1)=false:=by rw[beq_eq_false_iff_ne];omega
 have b1:(t=1)=False:=eq_false iA;have q4:(t==4)=false:=by rw[beq_eq_false_iff_ne];omega
 have b4:(t=4)=False:=eq_false dH;have E:Hid (zi _ _ _ _ _ _ _=false):=(show zi t v g ni nx nd nk=false by simp[zi,hi,ww,xB,iA,dH])
 clear hi ww xB iA dH;exact jeh
theorem fY (h2:nx≤9223372036854775807) (h3:nd≤9223372036854775807) :
  Calls Tryz.prog 90 #[.agg (uO t v g Ai ni ci Ax nx cx Ad nd cd Ak nk ck)] w fun e w'=>e=.returned (.bool (zi t v g ni nx nd nk))∧Below w.heap.size w w':=by
 by_cases hr:ni≤16∧-65536≤g∧g≤65535
 ·by_cases h1:t=1
  ·exact Nj t v g Ai ni ci Ax nx cx Ad nd cd Ak nk ck w h1 hr
  by_cases h4:t=4
  ·exact Nk t v g Ai ni ci Ax nx cx Ad nd cd Ak nk ck w h4 h2 h3 hr
  exact TH t v g Ai ni ci Ax nx cx Ad nd cd Ak nk ck w (fun _=>⟨h1,h4⟩)
 exact TH t v g Ai ni ci Ax nx cx Ad nd cd Ak nk ck w (fun h=>absurd h hr)
end
end Go.Proofs.YtgaoknihklmakabGreatDoor
