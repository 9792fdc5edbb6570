/- squeezed. Walks: a group without a member, b -/
import Derived.Test.YtgaoknihklmakabGreatDoorK15
set_option linter.unusedVariables false
set_option linter.unusedSimpArgs false
set_option maxRecDepth 100000
set_option maxHeartbeats 12800000
namespace Go.Proofs.YtgaoknihklmakabGreatDoor
open Go.RowKit
theorem jad{P:Prop}(h:P:=by
 go_upto_region 1 with fail
 generalize (w.alloc (.cells (gpC a.ia il a.ic a.sa sl a.sc g.number a.ma ml a.mc) 25)).alloc (.cells yf 25)=w1 at hS g0 g1 g2 g3⊢
 go_wp2_with fail
 refine(V.out _ hS.grows.holds).mono ?_
 rintro e w2 ⟨b2,rfl,kH,zC⟩
 replace hS:=hS.grow (Grows.of_below hS.grows.holds zC);have HA:=Hh kH;clear zC kH V g0 g1 g2 g3
 cases b2 with
 | false =>
  have NO:Hid (RekP sP g 1 vR):=.arg fun h=>by have h2:=HA.out.2 h;cases h2
  exact jeb
 | true =>
 simp only[Bool.not_true]
 have GD:=Hh (HA.out.1 rfl);clear HA;have g2:=hS.box.cell 2 rfl
 by_cases hx:g.number=65535
 ·obtain⟨e1,e2,e3⟩:=zK hx;have NO:Hid (RekP sP g 8 vR):=.limit GD.out hx;clear hx;exact jeb
 obtain⟨e1,e2,e3⟩:=xt hx;have HX:=Hh hx;clear hx;go_upto_region 5 with fail
 clear e1 e2 e3 g2;have g0:=hS.box.cell 0 rfl;have g1:=hS.box.cell 1 rfl;have g2:=hS.box.cell 2 rfl;have g3:=hS.box.cell 3 rfl;go_wp2_with fail
 refine(C.out _ hS.grows.holds).mono ?_
 rintro e w4 ⟨A,c,B,d,v,Hr,rfl,xj,eh,Pj,bQ,UX⟩
 have UL:=Hh (And.intro eh Pj);obtain⟨VA,vc,rfl,bf,vJ⟩:=bQ.form;rw[← HN.out.1,← HN.out.2.1,← HN.out.2.2];rw[← HN.out.2.2]at bQ UX
 have hE:ES w H (gpC a.ia il a.ic a.sa sl a.sc g.number a.ma ml a.mc) (gpC A il c B sl d g.number VA ml vc) w4.heap.size (.slice VA ml vc) g.members (w4.alloc (.cells (gpC A il c B sl d g.number VA ml vc) 25)) Hr:=by
  exact jer
 obtain⟨P,uT⟩:∃ P,w4.heap.size=P:=⟨_,rfl⟩
 obtain⟨w5,Yy⟩:∃ w5,w4.alloc (.cells (gpC A il c B sl d g.number VA ml vc) 25)=w5:=⟨_,rfl⟩
 rw[uT,Yy]at hE;have HW:=Hh (And.intro uT Yy);have kw:IntKind.i64.wrap (g.number+1)=g.number+1:=IntWalk.i64_in _ (by have h1:=GD.out.num0;have h2:=GD.out.num1;omega);clear uT Yy eh Pj bQ UX xj g0 g1 g2 g3 C hS vJ bf;go_upto_region 6 with fail
 try rw[HW.out.1]
 try rw[HW.out.2]
 clear HW;have p2:=hE.var.cell 2 rfl;go_wp2_with (with_reducible refine zx ?_)
 refine zu rfl _ _ _ rfl rfl P 2 (.int .i64 (g.number+1)) rfl rfl _ _ hE.var (by kernel_rfl) (by simp) rfl fun w6 Yr tg=>?_
 replace hE:=hE.set (pc':=gpC A il c B sl d (g.number+1) VA ml vc) Yr tg;clear p2 Yr tg kw;obtain⟨H9,vy,qb,eE,ZA,fA⟩:=hE.freeze;have p0:=hE.var.cell 0 rfl;have p1:=hE.var.cell 1 rfl;have p2:=hE.var.cell 2 rfl;have p3:=hE.var.cell 3 rfl;have hT:=hE.base.res;have bT:=Hh (And.intro ZA qb);clear hE eE ZA qb;go_wp2_with (with_reducible refine zx ?_)
 refine zv rfl _ _ _ rfl rfl _ _ rfl rfl _ _ hT zp rfl (yG _ _ _ _ rfl rfl rfl rfl) fun wz kG zS=>?_
 have ey:=vy.grownOwn fA (by omega) zS;clear hT vy zS p0 p1 p2 p3;go_wp2_with fail
 refine zw rfl rfl kG rfl rfl zp rfl ?_
 exact⟨OY g,⟨A,c,B,d,VA,vc⟩,H9,0,by rw[HN.out.1,HN.out.2.1,HN.out.2.2];rfl,ey,⟨UL.out.1.mono bT.out.2,UL.out.2.mono bT.out.2,by have h1:=GD.out.num0;have h2:=GD.out.num1;show(-9223372036854775808:Int)≤g.number+1∧g.number+1≤9223372036854775807;omega,bT.out.1,HG.out.small⟩,.ok GD.out HX.out⟩):P:=h
theorem jao{P:Prop}(h:P:=by exact jeb):P:=h
theorem jaT{P:Prop}(h:P:=by
 go_wp2_with (with_reducible refine zx ?_)
 refine zv rfl _ _ _ rfl rfl _ _ rfl rfl _ _ hT zp rfl (yG _ _ _ _ rfl rfl rfl rfl) fun w9 xr yO=>?_
 have uP:=hb.grown yO hb.size (by rintro q ⟨⟩;omega);clear hT hb yO;go_wp2_with fail
 exact zw rfl rfl xr rfl rfl zp rfl (BAD.out _ uP NO.out)):P:=h
theorem jdm{P:Prop}(h:P:=by
 have:=(h.own.lt (W0.heap.size+1) (by cases A <;> simp_all [Value.ownBlock])).1
 omega):P:=h
theorem jeb{P:Prop}(h:P:=by
 go_wp2_with (with_reducible refine zx ?_)
 refine zv rfl _ _ _ rfl rfl _ _ rfl rfl _ _ hS.res zp rfl (yG _ _ _ _ rfl rfl rfl rfl) fun w9 xr yO=>?_
 have uP:=hS.grows.below.grown yO hS.grows.below.size (by rintro q ⟨⟩;omega);clear hS yO;exact jfs):P:=h
theorem jer{P:Prop}(h:P:=by
 have h1:=hS.grow xj
 exact⟨h1.alloc _,Blk.new _ _ _,h1.res.lt,xj.holds.none_of_ge (Nat.le_refl _),(bQ.more hS.res.lt).alloc _,fun e=>by have:=(bQ.lt _ e).2;omega,UX⟩):P:=h
theorem jeT{P:Prop}(h:P:=by exact .inr (by have:=(h.own.lt b (by cases A <;> simp_all [Value.ownBlock])).1;omega)):P:=h
theorem jfs{P:Prop}(h:P:=by
 go_wp2_with fail
 exact zw rfl rfl xr rfl rfl zp rfl (BAD.out _ _ uP NO.out)):P:=h
theorem jfV{P:Prop}(h:P:=by have kw:IntKind.i64.wrap (g.number+1)=g.number+1:=IntWalk.i64_in _ (by have h1:=GD.out.num0;have h2:=GD.out.num1;omega);exact kw):P:=h
theorem jgz{P:Prop}(h:P:=by have g0:=hS.box.cell 0 rfl;have g1:=hS.box.cell 1 rfl;have g2:=hS.box.cell 2 rfl;have g3:=hS.box.cell 3 rfl;exact And.intro g0 (And.intro g1 (And.intro g2 g3))):P:=h
theorem jht{P:Prop}(h:P:=by have rY:H2 w.heap.size=none:=zM.none (HH.out.none_of_ge (by omega)) (by rw[zh];omega);have zC:=hb.trans (zM.below.mono hb.size);have hG:=(Grows.of_below HH.out hb).trans zM;exact And.intro rY (And.intro zC hG)):P:=h
structure ES (W0:World) (H:Snap) (bc pc:Array Value) (P:Nat) (v:Value) (l:List Mb) (w:World) (Hr:Snap):Prop where
 base:GcS W0 H bc w Hr
 var:Blk w P 25 pc
 far:W0.heap.size+2≤P
 hP:Hr P=none
 own:OwnX vQ 27 w (W0.heap.size+2) v Hr l
 ne:v.ownBlock≠some P
 apart:∀ g,v.ownBlock=some g→Hr g=none
section
variable {W0 w w':World} {H Hr Hs:Snap} {bc pc pc':Array Value} {P Q:Nat} {v v':Value} {l l':List Mb}
theorem ES.grow (h:ES W0 H bc pc P v l w Hr) (k:Grows w Hr w' Hs):ES W0 H bc pc P v l w' Hs :=
 ⟨h.base.grow k,h.var.below k.below,h.far,k.none h.hP h.var.lt,(h.own.below k.below).mono k.le,h.ne,fun g hg=>k.none (h.apart g hg) (h.own.lt g hg).2⟩
theorem ES.drew (h:ES W0 H bc pc P v l w Hr):ES W0 H bc pc P v l w.drew Hr:=h.grow ((Grows.refl h.base.grows.holds).drew)
theorem ES.app (h:ES W0 H bc pc P v l w Hr) (hO:OwnX vQ 27 w' (W0.heap.size+2) v' Hr l') (hg:w.grownBy w' v.ownBlock) (ha:At0 w v.ownBlock v'.ownBlock):ES W0 H bc pc P v' l' w' Hr :=
 ⟨⟨h.base.grows.grownRow h.apart (fun g hg=>by have:=(h.own.lt g hg).1;omega) hg,h.base.box.grown hg (fun e=>by have:=(h.own.lt _ e).1;omega),h.base.res.grown hg (fun e=>by have:=(h.own.lt _ e).1;omega),h.base.hT⟩,h.var.grown hg h.ne,h.far,h.hP,hO,by
  rcases ha with e | ⟨g',e,hs⟩
  ·rw[e];exact h.ne
  ·rw[e]
   intro e2
   injection e2 with e2
   have:=h.var.lt
   omega,fun g hv=>by
  rcases ha with e | ⟨g',e,hs⟩
  ·exact jb0
  rw[hv]at e;injection e with e
  subst e
  exact h.base.grows.hidden hs⟩
theorem ES.set (h:ES W0 H bc pc P v l w Hr) (hB:Blk w' P 25 pc') (hg:w.grownBy w' (some P)):ES W0 H bc pc' P v l w' Hr :=
 ⟨h.base.set h.far h.hP hg,hB,h.far,h.hP,h.own.kept hg (.inr h.ne),h.ne,h.apart⟩
theorem ES.up (h:ES W0 H bc pc P v l w Hr):W0.heap.size+2≤w.heap.size:=h.base.res.lt
theorem ES.freeze {A:Option Addr}{m c:Nat}(h:ES W0 H bc pc P (.slice A m c) l w Hr):∃ H',Grows W0 H w H'∧Hr.le H'∧m=l.length∧IsRow vQ H' A c l∧H' (W0.heap.size+1)=none:=by
 obtain⟨H',hl,hh,hf,hn,hi⟩:=h.own.snap h.base.grows.holds (fun g hg=>h.apart g (by cases A <;> simp_all [Value.ownBlock]))
 refine⟨H',⟨h.base.grows.below,h.base.grows.le.trans hl,hh,fun b o hb=>?_⟩,hl,hn,hi, ?_⟩
 ·rcases hf b o hb with h1 | h1
  ·exact h.base.grows.fresh b o h1
  exact jeT
 cases hz:H' (W0.heap.size+1) with
 | none=>rfl
 | some o =>
 rcases hf _ o hz with h1 | h1
 ·rw[h.base.hT]at h1;cases h1
 exact jdm
end
theorem iS {sP:Mb→Bool}{H:Snap}(hS:SoundIs sP H) {g:Gp}{a:EAd}(hg:GpA H g a) (name:ByteArray) (w:World) (hH:Holds w H) :
  Calls Tryz.prog 18 #[.agg (gpQ g a),.string name] w (qG sP w H g name):=by
 have V:Hid (∀ wx,Holds wx H→Calls Tryz.prog 11 #[.agg (gpC a.ia g.id.length a.ic a.sa g.secret.length a.sc g.number a.ma g.members.length a.mc)] wx (wk sP wx g)):=fun wx hx=>tQ hS hg wx hx
 have C:Hid (∀ wx,Holds wx H→Calls Tryz.prog 35 #[.agg (gpC a.ia g.id.length a.ic a.sa g.secret.length a.sc g.number a.ma g.members.length a.mc)] wx (gP wx H g)):=fun wx hx=>qj hg wx hx
 have HG:=Hh hg;have HH:=Hh hH;obtain⟨il,tL⟩:∃ n,n=g.id.length:=⟨_,rfl⟩
 obtain⟨sl,sJ⟩:∃ n,n=g.secret.length:=⟨_,rfl⟩
 obtain⟨ml,tP⟩:∃ n,n=g.members.length:=⟨_,rfl⟩
 have HN:=jf2;have NM:=Hh (fun wx hx=>eK (n:=ml) hg.members tP hg.small.2.2 name wx hx);show Calls Tryz.prog 18 #[.agg (gpC a.ia g.id.length a.ic a.sa g.secret.length a.sc g.number a.ma g.members.length a.mc),.string name] w (qG sP w H g name)
 rw[← tL,← sJ,← tP]at V C⊢;obtain⟨hB,hT⟩:=jfK;rw[zh]at hT;have hS:GcS w H (gpC a.ia il a.ic a.sa sl a.sc g.number a.ma ml a.mc) _ H:=⟨((Grows.refl hH).alloc (.cells (gpC a.ia il a.ic a.sa sl a.sc g.number a.ma ml a.mc) 25)).alloc (.cells yf 25),hB,hT,hH.none_of_ge (by omega)⟩
 have BAD:Hid (∀ (wx:World) (n:Int),Below w.heap.size w wx→ExcP sP g name n vR→qG sP w H g name (.returned (.tuple #[.agg yf,.int .i64 n])) wx):=fun wx n h2 h3=>⟨vR,⟨none,0,none,0,none,0⟩,H,n,rfl,Grows.of_below HH.out h2,oB H,h3⟩
 obtain⟨g0,g1,g2,g3⟩:=jgz;clear tL sJ tP hg hH hB hT;go_enter Tryz.func18,Tryz.ntmps18
 go_upto_region 1 with fail
 generalize (w.alloc (.cells (gpC a.ia il a.ic a.sa sl a.sc g.number a.ma ml a.mc) 25)).alloc (.cells yf 25)=w1 at hS g0 g1 g2 g3⊢
 go_wp2_with fail
 refine(V.out _ hS.grows.holds).mono ?_
 rintro e w2 ⟨b2,rfl,kH,zC⟩
 replace hS:=hS.grow (Grows.of_below hS.grows.holds zC);have HA:=Hh kH;clear zC kH V g0 g1 g2 g3
 cases b2 with
 | false =>
  have NO:Hid (ExcP sP g name 1 vR):=.arg fun h=>by have h2:=HA.out.2 h;cases h2
  exact jao
 | true =>
 simp only[Bool.not_true]
 have GD:=Hh (HA.out.1 rfl);clear HA;have g3:=hS.box.cell 3 rfl;go_wp2_with fail
 refine(NM.out _ hS.grows.holds).mono ?_
 rintro e w3 ⟨r,rfl,xy,hr⟩
 replace hS:=hS.grow (Grows.of_below hS.grows.holds xy);clear xy g3 NM
 rcases hr with ⟨rfl,iw⟩ | ⟨i,rfl,hi,iu⟩
 ·have NO:Hid (ExcP sP g name 38 vR):=.gone GD.out iw;clear iw;exact jao
 have HI:Hid (∃ h:i<g.members.length,g.members[i].name=name):=⟨hi,iu⟩
 have HE:Hid (∃ m∈g.members,m.name=name):=⟨_,List.getElem_mem hi,iu⟩
 have uZ:¬ (i:Int)<0:=by omega
 have g2:=hS.box.cell 2 rfl;clear hi iu
 by_cases hx:g.number=65535
 ·obtain⟨e1,e2,e3⟩:=zK hx;have NO:Hid (ExcP sP g name 8 vR):=.limit GD.out HE.out hx;clear hx;exact jao
 obtain⟨e1,e2,e3⟩:=xt hx;have HX:=Hh hx;clear hx;go_upto_region 8 with fail
 clear e1 e2 e3 g2 uZ;obtain⟨g0,g1,g2,g3⟩:=jgz;go_wp2_with fail
 refine(C.out _ hS.grows.holds).mono ?_
 rintro e w4 ⟨A,c,B,d,v,Hr,rfl,xj,eh,Pj,bQ,UX⟩
 have UL:=Hh (And.intro eh Pj);obtain⟨VA,vc,rfl,bf,vJ⟩:=bQ.form;rw[← HN.out.1,← HN.out.2.1,← HN.out.2.2];rw[← HN.out.2.2]at bf bQ UX
 have hE:ES w H (gpC a.ia il a.ic a.sa sl a.sc g.number a.ma ml a.mc) (gpC A il c B sl d g.number VA ml vc) w4.heap.size (.slice VA ml vc) g.members (w4.alloc (.cells (gpC A il c B sl d g.number VA ml vc) 25)) Hr:=by
  exact jer
 obtain⟨P,uT⟩:∃ P,w4.heap.size=P:=⟨_,rfl⟩
 obtain⟨w5,Yy⟩:∃ w5,w4.alloc (.cells (gpC A il c B sl d g.number VA ml vc) 25)=w5:=⟨_,rfl⟩
 rw[uT,Yy]at hE;have HW:=Hh (And.intro uT Yy);have kw:=jfV;clear uT Yy eh Pj bQ UX xj g0 g1 g2 g3 C hS vJ;go_upto_region 9 with fail
 try rw[HW.out.1]
 try rw[HW.out.2]
 clear HW;have p2:=hE.var.cell 2 rfl;go_wp2_with (with_reducible refine zx ?_)
 refine zu rfl _ _ _ rfl rfl P 2 (.int .i64 (g.number+1)) rfl rfl _ _ hE.var (by kernel_rfl) (by simp) rfl fun w6 Yr tg=>?_
 replace hE:=hE.set (pc':=gpC A il c B sl d (g.number+1) VA ml vc) Yr tg;clear p2 Yr tg kw;obtain⟨num,rj⟩:∃ num,g.number+1=num:=⟨_,rfl⟩
 rw[rj]at hE⊢;have eR:Hid (num=g.number+1∧-9223372036854775808≤num∧num≤9223372036854775807):=by have h1:=GD.out.num0;have h2:=GD.out.num1;rw[Hid];omega
 clear rj;go_upto_region 10 with fail
 have MK:i<ml:=by obtain⟨h,_⟩:=HI.out;have:=HN.out.2.2;omega
 have k1:(i:Int)≤(vc:Int):=by omega
 have k2:(i:Int)+1≤(ml:Int):=by omega
 have k3:IntKind.i64.wrap ((i:Int)+1)=(i:Int)+1:=IntWalk.i64_in _ (by have:=HG.out.small.2.2;have:=HN.out.2.2;omega);have k4:(ml:Int)≤(vc:Int):=by omega
 have k5:(0:Int)≤(i:Int):=by omega
 have k6:(0:Int)≤(i:Int)+1:=by omega
 have BH:=Hh MK;have WE:=Hh bf;obtain⟨gb,rfl,JK,ds,Pq,Jd⟩:=hE.own.parts (i:=i) (by have:=HN.out.2.2;omega);clear MK bf JK Pq Jd ds;replace hE:=hE.drew;obtain⟨gb2,F0,JK,ds,Pq,Jd⟩:=hE.own.parts (i:=i) (by have:=HN.out.2.2;have:=BH.out;omega)
 cases F0
 have Da:=Hh Pq
 have Iz:Hid (Src w6.drew (if vc=i+1 then some ⟨gb,0,none⟩ else some ⟨gb,(i+1)*7,none⟩) ds):=by
  by_cases e:vc=i+1
  ·have h0:ds=[]:=List.length_eq_zero_iff.1 (by rw[Pq.len,List.length_drop,show g.members.length-(i+1)=0 by have:=HN.out.2.2;have:=WE.out;omega,Nat.zero_mul]);rw[if_pos e,h0]
   exact Src.nil _ _
  rw[if_neg e]
  exact Jd
 have Dr:=Hh JK;clear Pq Jd JK
 refine zX 11 (fun wx=>wx.cell? ⟨P,3,none⟩=some (.slice (some ⟨gb,0,none⟩) ml vc)) (by kernel_rfl) (hE.var.cell 3 rfl) (fun zy=>?_)
 refine Zk 0 rfl zy ?_
 refine Zk 1 rfl zy ?_
 refine Zk 2 rfl zy ?_
 refine Zk 3 rfl zy ?_
 refine Zk 4 rfl zy ?_
 refine Zk 5 rfl zy ?_
 refine Zk 6 rfl zy ?_
 refine Zk 7 rfl zy ?_
 refine Zk 8 rfl zy ?_
 refine Zo 9 rfl fun K hK=>?_
 refine OwnX.append_wpM (v:=.slice (some ⟨gb,0,none⟩) i vc) (l:=g.members.take i) (.tmp 32) (.tmp 37) 23 rfl Tryz.underlying23 rfl (by omega) rH rfl Dr.out (if vc=i+1 then some ⟨gb,0,none⟩ else some ⟨gb,(i+1)*7,none⟩) (ml-(i+1)) _ ds (g.members.drop (i+1)) rfl (by rw[List.length_drop,HN.out.2.2]) Da.out Iz.out (by have h1:=HN.out.2.2;have:=HG.out.small.2.2;rw[List.length_take,List.length_drop];omega) hE.up fun v8 w8 qT hg8 hat8=>?_
 have hE:=hE.app qT hg8 hat8;obtain⟨A8,c8,rfl,vJ⟩:=qT.form;obtain⟨l8,f7⟩:∃ l8,g.members.take i++g.members.drop (i+1)=l8:=⟨_,rfl⟩
 rw[f7]at hE;rw[f7];obtain⟨m8,f9⟩:∃ k,l8.length=k:=⟨_,rfl⟩
 have UM:=Hh (And.intro f7 f9);rw[f9]at hE;rw[f9];clear qT hg8 hat8 vJ f9 f7;go_simp
 refine Ko hK ?_ fun zy=>?_
 ·exact hE.var.cell 3 rfl
 clear hK K
 refine Zk 10 rfl zy ?_
 refine Zo 11 rfl fun K hK=>?_
 refine yw _ _ _ rfl P 3 (.slice A8 m8 c8) rfl rfl _ _ hE.var (by kernel_rfl) (by simp) rfl fun w11 hP11 hg11=>?_
 have hF:=hE.set (pc':=gpC A il c B sl d num A8 m8 c8) hP11 hg11;clear hP11 hg11;go_simp
 refine Kz hK ?_
 clear hK K
 refine WaysZ.done (by kernel_rfl) ?_
 clear zy Iz Dr Da
 generalize (if vc=i+1 then(some (⟨gb,0,none⟩:Addr)) else some ⟨gb,(i+1)*7,none⟩)=AD
 clear hE k1 k2 k3 k4 k5 k6;obtain⟨H9,vy,qb,eE,ZA,fA⟩:=hF.freeze;have p0:=hF.var.cell 0 rfl;have p1:=hF.var.cell 1 rfl;have p2:=hF.var.cell 2 rfl;have p3:=hF.var.cell 3 rfl;have hT:=hF.base.res;have bT:=Hh (And.intro eE (And.intro ZA qb));clear hF eE ZA qb;go_wp2_with (with_reducible refine zx ?_)
 refine zv rfl _ _ _ rfl rfl _ _ rfl rfl _ _ hT zp rfl (yG _ _ _ _ rfl rfl rfl rfl) fun wz kG zS=>?_
 have ey:=vy.grownOwn fA (by omega) zS;clear hT vy zS p0 p1 p2 p3;go_wp2_with fail
 refine zw rfl rfl kG rfl rfl zp rfl ?_
 have f7:l8=g.members.filter fun m=>decide (m.name≠name):=by obtain⟨h1,h2⟩:=HI.out;rw[← UM.out.1];exact Xa GD.out.unl h1 h2
 exact⟨ce g name,⟨A,c,B,d,A8,c8⟩,H9,0,by rw[show ce g name=⟨g.id,g.secret,num,l8⟩ by rw[ce,f7,eR.out.1]];show Ending.returned _=Ending.returned (.tuple #[.agg (gpC A g.id.length c B g.secret.length d num A8 l8.length c8),_]);rw[UM.out.2,← HN.out.1,← HN.out.2.1];rfl,ey,⟨UL.out.1.mono bT.out.2.2,UL.out.2.mono bT.out.2.2,by show _≤g.number+1∧g.number+1≤_;have:=eR.out;omega,by rw[show(ce g name).members=l8 from f7.symm];exact bT.out.2.1,HG.out.small.1,HG.out.small.2.1,by rw[show(ce g name).members=l8 from f7.symm,← UM.out.1,List.length_append,List.length_take,List.length_drop];have:=HG.out.small.2.2;omega⟩,.ok GD.out HE.out HX.out⟩
theorem fg {A:Option Addr}{c:Nat}{l:List UInt8}{n:Nat}(hn:n=l.length) (hl:l.length≤1099511627) (w:World) (hS:Src w A (l.map zT)) :
  Calls Tryz.prog 43 #[.slice A n c] w fun e w'=>∃ r,e=.returned r∧Fresh w l r w':=by
 have HN:=jhH;clear hn hl;go_enter Tryz.func43,Tryz.ntmps43
 exact jbc
theorem pi {sP:Mb→Bool}{H:Snap}{A B:Option Addr}{ca cb:Nat}{x y:List UInt8}{n m:Nat}(hn:n=x.length) (hm:m=y.length) (w:World) (hH:Holds w H) (hA:Src w A (x.map zT)) (hB:Src w B (y.map zT)) :
  Calls Tryz.prog 23 #[.slice A n ca,.slice B m cb] w (Ta sP w H x y):=by
 have HN:=Hh (And.intro hn hm);have HH:=Hh hH;have HA:=Hh hA;have HB:=Hh hB;have hT:=Blk.new w 25 yf;have hb:=zm w (.cells yf 25);have vM:Hid (w.heap.size≤w.heap.size):=Nat.le_refl _;clear hn hm hH hA hB;have BAD:Hid (∀ (wx:World),Below w.heap.size w wx→¬ (1≤x.length∧x.length≤8∧y.length=32)→Ta sP w H x y (.returned (.tuple #[.agg yf,.int .i64 1])) wx):=fun wx h2 h3=>⟨vR,⟨none,0,none,0,none,0⟩,H,1,rfl,Grows.of_below HH.out h2,oB H,.arg fun h=>h3 ((mB _ _ _).1 h)⟩
 go_enter Tryz.func23,Tryz.ntmps23
 by_cases c0:(n:Int)<1
 ·have NO:Hid (¬ (1≤x.length∧x.length≤8∧y.length=32)):=fun h=>by have:=h.1;have:=HN.out.1;omega
  exact jaT
 by_cases c1:(8:Int)<(n:Int)
 ·have NO:Hid (¬ (1≤x.length∧x.length≤8∧y.length=32)):=fun h=>by have:=h.2.1;have:=HN.out.1;omega
  exact jaT
 by_cases c2:m=32
 ·have e1:((m:Int)=32)=True:=eq_true (by omega);have e2:((m:Int)==32)=true:=beq_iff_eq.2 (by omega);have e3:((m:Int) != 32)=false:=by rw[bne,e2];rfl
  have HL:=Hh (And.intro c1 c2);have B3:=Hh c0;clear c2;go_wp2_with fail
  have wu:=HA.out.below hb
  refine(fg (c:=ca) HN.out.1 (by have:=HN.out.1;have:=HL.out.1;omega) _ wu).mono ?_
  rintro e w2 ⟨r2,rfl,iq⟩
  obtain⟨A2,d2,rfl,_⟩:=iq.own.form;rw[← HN.out.1];obtain⟨H2,zM,sH,_⟩:=Fresh.snapB (HH.out.below hb (Nat.le_refl _)) iq;have Ro:=Hh sH;replace hT:=hT.below zM.below;obtain⟨rY,zC,hG⟩:=jht;clear sH iq wu hb zM;go_wp2_with fail
  refine(fg (c:=cb) HN.out.2 (by have:=HN.out.2;have:=HL.out.2;omega) _ (HB.out.below zC)).mono ?_
  rintro e w3 ⟨r3,rfl,XC⟩
  obtain⟨A3,d3,rfl,_⟩:=XC.own.form;rw[← HN.out.2];obtain⟨H3,yY,Rb,_⟩:=Fresh.snapB hG.holds XC;have UK:=Hh Rb;replace Ro:=Hh (Ro.out.mono yY.le);have Yw:H3 w.heap.size=none:=yY.none rY hT.lt;replace hT:=hT.below yY.below;replace hG:=hG.trans yY;clear Rb XC yY rY zC;go_wp2_with (with_reducible refine zx ?_)
  refine zv rfl _ _ _ rfl rfl _ _ rfl rfl _ _ hT zp rfl (yG _ _ _ _ rfl rfl rfl rfl) fun w9 xr yO=>?_
  have vy:=hG.grownOwn Yw vM.out yO;clear hT hG yO Yw;go_wp2_with fail
  refine zw rfl rfl xr rfl rfl zp rfl ?_
  have hx:=HN.out.1;have hy:=HN.out.2;subst hx;subst hy
  exact⟨pY x y,⟨A2,d2,A3,d3,none,0⟩,H3,0,rfl,vy,⟨Ro.out,UK.out,by show(-9223372036854775808:Int)≤0∧(0:Int)≤9223372036854775807;omega,YR H3,by have:=HL.out.1;have:=HL.out.2;simp only[pY,List.length_nil];omega⟩,.ok ((mB _ _ _).2 ⟨by have:=B3.out;omega,by have:=HL.out.1;omega,HL.out.2⟩)⟩
 have e1:((m:Int)=32)=False:=eq_false (by omega);have e2:((m:Int)==32)=false:=beq_eq_false_iff_ne.2 (by omega);have e3:((m:Int) != 32)=true:=by rw[bne,e2];rfl
 have NO:Hid (¬ (1≤x.length∧x.length≤8∧y.length=32)):=fun h=>by have:=h.2.2;have:=HN.out.2;omega
 exact jaT
theorem IsRow.srcM {α:Type}{L:Lie α}{H:Snap}{A:Option Addr}{c:Nat}{l:List α}(h:IsRow L H A c l):∃ cs,RowC L H cs l∧∀ wx,Holds wx H→Src wx A cs:=by
 cases hl:l with
 | nil=>exact⟨[],RowC.nil L H,fun wx _=>Src.nil _ _⟩
 | cons x t =>
 obtain⟨b,off,cs,e,h1,h2⟩:=h.row (by rw[hl];simp);rw[hl]at h1
 exact⟨cs,h1,fun wx hx _=>⟨b,off,e,fun j v hj=>hx.cell (h2 j v hj)⟩⟩
def CopyG (w:World) (H:Snap) (g:Gp) (a:EAd) (e:Ending) (w':World):Prop:=∃ v,e=.returned (.agg #[.slice a.ia g.id.length a.ic,.slice a.sa g.secret.length a.sc,.int .i64 g.number,v])∧OwnX vQ 27 w' w.heap.size v H g.members∧Below w.heap.size w w'
theorem o4 {H:Snap}{g:Gp}{a:EAd}(hg:GpA H g a) (w:World) (hH:Holds w H) :
  Calls Tryz.prog 39 #[.agg (gpQ g a)] w (CopyG w H g a):=by
 obtain⟨il,tL⟩:∃ n,n=g.id.length:=⟨_,rfl⟩
 obtain⟨sl,sJ⟩:∃ n,n=g.secret.length:=⟨_,rfl⟩
 obtain⟨ml,tP⟩:∃ n,n=g.members.length:=⟨_,rfl⟩
 have HN:=jf2;obtain⟨cs,oV,cz⟩:=hg.members.srcM;have eo:=Hh hg.small.2.2;have HR:=Hh oV;have Iz:=Hh cz;have HH:=Hh hH;show Calls Tryz.prog 39 #[.agg (gpC a.ia g.id.length a.ic a.sa g.secret.length a.sc g.number a.ma g.members.length a.mc)] w (CopyG w H g a)
 rw[← tL,← sJ,← tP];have WG:=(Blk.new w 25 (gpC a.ia il a.ic a.sa sl a.sc g.number a.ma ml a.mc)).alloc (.cells yf 25);have hT:=Blk.new (w.alloc (.cells (gpC a.ia il a.ic a.sa sl a.sc g.number a.ma ml a.mc) 25)) 25 yf;rw[zh]at hT;have hb:=((zm w (.cells (gpC a.ia il a.ic a.sa sl a.sc g.number a.ma ml a.mc) 25)).alloc (zm w (.cells (gpC a.ia il a.ic a.sa sl a.sc g.number a.ma ml a.mc) 25)).size (.cells yf 25))
 clear tL sJ tP hg oV cz hH;go_enter Tryz.func39,Tryz.ntmps39
 go_upto_region 1 with fail
 go_cut [2] (fun s2 wx=>s2=.pointer (some ⟨w.heap.size+1,0,none⟩)∧∃ v,Blk wx (w.heap.size+1) 25 #[.slice a.ia il a.ic,.slice a.sa sl a.sc,.int .i64 g.number,v]∧OwnX vQ 27 wx w.heap.size v H g.members∧Below w.heap.size w wx)
 case first =>
  replace hb:=hb.drew;replace WG:=WG.below (Below.refl _ _).drew;replace hT:=hT.below (Below.refl _ _).drew
  refine zj 10 (fun wx=>wx.cell? ⟨w.heap.size,0,none⟩=some (.slice a.ia il a.ic)∧wx.cell? ⟨w.heap.size,1,none⟩=some (.slice a.sa sl a.sc)∧wx.cell? ⟨w.heap.size,2,none⟩=some (.int .i64 g.number)∧wx.cell? ⟨w.heap.size,3,none⟩=some (.slice a.ma ml a.mc)) (by kernel_rfl) (⟨WG.cell 0 rfl,WG.cell 1 rfl,WG.cell 2 rfl,WG.cell 3 rfl⟩) (fun zy=>?_)
  refine Tk 0 rfl zy ?_
  refine Tk 1 rfl zy ?_
  refine Tk 2 rfl zy ?_
  refine Tk 3 rfl zy ?_
  refine Tk 4 rfl zy ?_
  refine Tk 5 rfl zy ?_
  refine Tk 6 rfl zy ?_
  refine Tk 7 rfl zy ?_
  refine To 8 rfl fun K hK=>?_
  refine OwnX.append_wpM (v:=.slice none 0 0) (.const (.slice none 0 0)) (.tmp 10) 23 rfl Tryz.underlying23 rfl (by omega) rH rfl (OwnX.nil vQ 27 _ w.heap.size H) a.ma ml a.mc cs g.members rfl HN.out.2.2 HR.out (Iz.out _ (HH.out.below hb (Nat.le_refl _))) (by have:=eo.out;simp only[List.length_nil];omega) hb.size fun v5 w9 nY yO hat9=>?_
  rw[List.nil_append]at nY;have uP:=yr (by simpa [Value.ownBlock] using yO);replace WG:=WG.below uP;replace hb:=hb.trans (uP.mono hb.size)
  have Kh:v5.ownBlock=none∨v5.ownBlock≠some (w.heap.size+1):=by
   rcases hat9 with h | ⟨q,h,hq⟩
   ·exact .inl h
   exact .inr (by rw[h];intro e;injection e with e;have h3:=Nat.lt_of_lt_of_le hT.lt hq;omega)
  replace hT:=hT.below uP;obtain⟨VA,vc,rfl,vJ⟩:=nY.form;clear uP yO hat9 vJ;go_simp
  refine Ko hK ?_ fun zy=>?_
  ·exact⟨WG.cell 0 rfl,WG.cell 1 rfl,WG.cell 2 rfl,WG.cell 3 rfl⟩
  clear hK K
  refine Tk 9 rfl zy ?_
  refine To 10 rfl fun K hK=>?_
  refine zD _ _ _ rfl (w.heap.size+1) #[.slice a.ia il a.ic,.slice a.sa sl a.sc,.int .i64 g.number,.slice VA g.members.length vc] rfl rfl _ _ hT zp rfl (yG _ _ _ _ rfl rfl rfl rfl) fun w10 uD hg10=>?_
  have bR:=nY.kept hg10 Kh;have pe:=hb.grown hg10 hb.size (by rintro q ⟨⟩;omega);clear nY hg10 Kh hT;go_simp
  refine Kz hK ?_
  clear hK K
  refine Wd ?_
  try clear zy
  go_wp2_with fail
  go_meet
  exact⟨rfl,_,uD,bR,pe⟩
 case rest =>
 clear WG hT hb;obtain⟨rfl,v,hT,hO,hb⟩:=hcut;have c0:=hT.cell 0 rfl;go_wp2_with fail
 refine vo rfl rfl hT rfl rfl zp rfl ?_
 exact⟨v,by rw[HN.out.1,HN.out.2.1],hO,hb⟩
def qH (sP:Mb→Bool) (w:World) (H:Snap) (g:Gp) (e:Ending) (w':World):Prop:=∃ x a H' n,e=.returned (.tuple #[.agg (gpQ x a),.int .i64 n])∧Grows w H w' H'∧GpA H' x a∧RekP sP g n x
theorem CopyG.cloned {w w':World}{H:Snap}{g:Gp}{a:EAd}(hg:GpA H g a) (hH:Holds w H) {e:Ending}(h:CopyG w H g a e w'):gP w H g e w':=by
 obtain⟨v,rfl,hO,hb⟩:=h
 exact⟨a.ia,a.ic,a.sa,a.sc,v,H,rfl,Grows.of_below hH hb,hg.id,hg.secret,hO,fun q hq=>hH.none_of_ge (hO.lt q hq).1⟩
theorem eJ {sP:Mb→Bool}{H:Snap}(hS:SoundIs sP H) {g:Gp}{a:EAd}(hg:GpA H g a) (w:World) (hH:Holds w H) :
  Calls Tryz.prog 20 #[.agg (gpQ g a)] w (qH sP w H g):=by
 have V:Hid (∀ wx,Holds wx H→Calls Tryz.prog 11 #[.agg (gpC a.ia g.id.length a.ic a.sa g.secret.length a.sc g.number a.ma g.members.length a.mc)] wx (wk sP wx g)):=fun wx hx=>tQ hS hg wx hx
 have C:Hid (∀ wx,Holds wx H→Calls Tryz.prog 35 #[.agg (gpC a.ia g.id.length a.ic a.sa g.secret.length a.sc g.number a.ma g.members.length a.mc)] wx (gP wx H g)):=fun wx hx=>qj hg wx hx
 have HG:=Hh hg;have HH:=Hh hH;obtain⟨il,tL⟩:∃ n,n=g.id.length:=⟨_,rfl⟩
 obtain⟨sl,sJ⟩:∃ n,n=g.secret.length:=⟨_,rfl⟩
 obtain⟨ml,tP⟩:∃ n,n=g.members.length:=⟨_,rfl⟩
 have HN:=jf2;show Calls Tryz.prog 20 #[.agg (gpC a.ia g.id.length a.ic a.sa g.secret.length a.sc g.number a.ma g.members.length a.mc)] w (qH sP w H g)
 rw[← tL,← sJ,← tP]at V C⊢;obtain⟨hB,hT⟩:=jfK;rw[zh]at hT;have hS:GcS w H (gpC a.ia il a.ic a.sa sl a.sc g.number a.ma ml a.mc) _ H:=⟨((Grows.refl hH).alloc (.cells (gpC a.ia il a.ic a.sa sl a.sc g.number a.ma ml a.mc) 25)).alloc (.cells yf 25),hB,hT,hH.none_of_ge (by omega)⟩
 have BAD:Hid (∀ (wx:World) (n:Int),Below w.heap.size w wx→RekP sP g n vR→qH sP w H g (.returned (.tuple #[.agg yf,.int .i64 n])) wx):=fun wx n h2 h3=>⟨vR,⟨none,0,none,0,none,0⟩,H,n,rfl,Grows.of_below HH.out h2,oB H,h3⟩
 obtain⟨g0,g1,g2,g3⟩:=jgz;clear tL sJ tP hg hH hB hT;go_enter Tryz.func20,Tryz.ntmps20
 exact jad
theorem kg {sP:Mb→Bool}{H:Snap}(hS:SoundIsR sP H) {g:Gp}{a:EAd}(hg:GpA H g a) (w:World) (hH:Holds w H) :
  Calls Tryz.prog 21 #[.agg (gpQ g a)] w (qH sP w H g):=by
 have V:Hid (∀ wx,Holds wx H→Calls Tryz.prog 12 #[.agg (gpC a.ia g.id.length a.ic a.sa g.secret.length a.sc g.number a.ma g.members.length a.mc)] wx (wk sP wx g)):=fun wx hx=>rL hS hg wx hx
 have C:Hid (∀ wx,Holds wx H→Calls Tryz.prog 39 #[.agg (gpC a.ia g.id.length a.ic a.sa g.secret.length a.sc g.number a.ma g.members.length a.mc)] wx (gP wx H g)):=fun wx hx=>(o4 hg wx hx).mono fun _ _ h=>h.cloned hg hx
 have HG:=Hh hg;have HH:=Hh hH;obtain⟨il,tL⟩:∃ n,n=g.id.length:=⟨_,rfl⟩
 obtain⟨sl,sJ⟩:∃ n,n=g.secret.length:=⟨_,rfl⟩
 obtain⟨ml,tP⟩:∃ n,n=g.members.length:=⟨_,rfl⟩
 have HN:=jf2;show Calls Tryz.prog 21 #[.agg (gpC a.ia g.id.length a.ic a.sa g.secret.length a.sc g.number a.ma g.members.length a.mc)] w (qH sP w H g)
 rw[← tL,← sJ,← tP]at V C⊢;obtain⟨hB,hT⟩:=jfK;rw[zh]at hT;have hS:GcS w H (gpC a.ia il a.ic a.sa sl a.sc g.number a.ma ml a.mc) _ H:=⟨((Grows.refl hH).alloc (.cells (gpC a.ia il a.ic a.sa sl a.sc g.number a.ma ml a.mc) 25)).alloc (.cells yf 25),hB,hT,hH.none_of_ge (by omega)⟩
 have BAD:Hid (∀ (wx:World) (n:Int),Below w.heap.size w wx→RekP sP g n vR→qH sP w H g (.returned (.tuple #[.agg yf,.int .i64 n])) wx):=fun wx n h2 h3=>⟨vR,⟨none,0,none,0,none,0⟩,H,n,rfl,Grows.of_below HH.out h2,oB H,h3⟩
 obtain⟨g0,g1,g2,g3⟩:=jgz;clear tL sJ tP hg hH hB hT;go_enter Tryz.func21,Tryz.ntmps21
 exact jad
end Go.Proofs.YtgaoknihklmakabGreatDoor
