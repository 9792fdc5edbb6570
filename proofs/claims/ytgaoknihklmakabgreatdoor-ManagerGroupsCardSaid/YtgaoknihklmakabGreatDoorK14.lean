/- squeezed. Members and epochs of groups in me -/
import Derived.Test.YtgaoknihklmakabGreatDoorK13
import Derived.Shelf.Unicode.ValidAny
set_option linter.unusedVariables false
set_option linter.unusedSimpArgs false
set_option maxRecDepth 100000
set_option maxHeartbeats 12800000
namespace Go.Proofs.YtgaoknihklmakabGreatDoor
open Go.RowKit
theorem jab{P:Prop}(h:P:=by
 go_wp2_with fail
 refine(AP.out _ (HH.out.below hb (Nat.le_refl _))).mono ?_
 rintro e w2 ⟨b2,rfl,kH,zC⟩
 replace hB:=hB.below zC;replace hb:=hb.trans (zC.mono hb.size);have HA:=Hh kH;clear zC kH AP g0 g1 g2 g3
 cases b2 with
 | false =>
  have NO:Hid (¬ ValidG sP g):=fun h=>by have h2:=HA.out.2 h.unl;cases h2
  clear hB;exact jeo
 | true =>
 have GOOD:Hid ((∀ i (h:i<g.members.length),sP g.members[i]=true∧g.members[i].wrap.length=16∧0≤g.members[i].since∧g.members[i].since≤g.number)→ValidG sP g):=by
  have h1:=HN.out.1;have h2:=HN.out.2.1;have h3:=HN.out.2.2;have h4:=c2'.out
  exact fun h=>⟨by omega,by omega,by omega,by omega,by omega,by omega,HA.out.1 rfl,fun m hm=>by
   obtain⟨i,hi,rfl⟩:=List.getElem_of_mem hm
   exact h i hi⟩
 have rj:=Hh (And.intro c3 c4);have c5':=Hh c5;have H0:Hid (∀ i (h:i<g.members.length),i<0→sP g.members[i]=true∧g.members[i].wrap.length=16∧0≤g.members[i].since∧g.members[i].since≤g.number):=fun i h h0=>absurd h0 (by omega)
 clear c0 c1 c3 c4 c5 e1 e2 e3 HA c2';have g3:=hB.cell 3 rfl;go_wp2_with fail
 clear g3;go_loopw [46] (fun v46 wr=>∃ j:Nat,v46=.int .i64 (j:Int)∧Hid (j≤ml)∧Hid (∀ i (h:i<g.members.length),i<j→sP g.members[i]=true∧g.members[i].wrap.length=16∧0≤g.members[i].since∧g.members[i].since≤g.number)∧Blk wr w.heap.size 25 (gpC a.ia il a.ic a.sa sl a.sc g.number a.ma ml a.mc)∧Below w.heap.size w wr) (fun v46 _=>(ml:Int).toNat+1-(intOf v46).toNat)
 case atStart=>exact⟨0,rfl,Nat.zero_le _,H0,hB,hb⟩
 case round =>
 clear hB hb H0;obtain⟨j,rfl,HJ,HF,hB,hb⟩:=hrel
 by_cases zB:(j:Int)<(ml:Int)
 ·have uU:j<g.members.length:=by rw[← HN.out.2.2];omega
  obtain⟨gb,go,sG,uF⟩:=HG.out.members.at_ (by omega);obtain⟨d,hd,hc⟩:=uF j uU;obtain⟨ma,hd,th⟩:=hd;subst hd;obtain⟨m,hm⟩:∃ m,g.members[j]=m:=⟨_,rfl⟩
  rw[hm]at hc th;have HM:Hid (∀ h:j<g.members.length,g.members[j]=m):=fun _=>hm
  have yB:=HH.out.below hb (Nat.le_refl _);have r0:=yB.cell (hc 0 _ rfl);have r1:=yB.cell (hc 1 _ rfl);have r2:=yB.cell (hc 2 _ rfl);have r3:=yB.cell (hc 3 _ rfl);have r4:=yB.cell (hc 4 _ rfl);have r5:=yB.cell (hc 5 _ rfl);have r6:=yB.cell (hc 6 _ rfl)
  simp only[vQ,Nat.add_zero,Nat.zero_add,← Nat.add_assoc]at r0 r1 r2 r3 r4 r5 r6
  have qS:=Hh th;have hP:=Blk.new wr 27 (y7 m ma);have yT:=hB.alloc (.cells (y7 m ma) 27);have zC:=hb.alloc hb.size (.cells (y7 m ma) 27);obtain⟨P,uT⟩:∃ P,wr.heap.size=P:=⟨_,rfl⟩
  obtain⟨w2,sN⟩:∃ w2,wr.alloc (.cells (y7 m ma) 27)=w2:=⟨_,rfl⟩
  rw[uT,sN]at hP;rw[sN]at yT zC;have rp:=Hh (And.intro uT sN);have oH:(j:Int)+1≤9223372036854775807:=by have:=c5'.out;omega
  have wT:=Hh (And.intro uU zB);have gk:=Hh sG;clear uT sN uF hc th hB hb uU yB hm;rw[sG];go_upto_region 6 with fail
  try rw[rp.out.1]
  try rw[rp.out.2]
  clear r0 r1 r2 r3 r4 r5 r6 sG;have p0:=hP.cell 0 rfl;have p1:=hP.cell 1 rfl;have p2:=hP.cell 2 rfl;have p3:=hP.cell 3 rfl;have p4:=hP.cell 4 rfl;have p5:=hP.cell 5 rfl;have p6:=hP.cell 6 rfl;have SD:=Hh (HS.out m ma w2 qS.out (HH.out.below zC (Nat.le_refl _)));go_wp2_with fail
  refine SD.out.mono ?_
  rintro e w3 ⟨rfl,xy⟩
  replace hB:=yT.below xy;replace hP:=hP.below xy;replace hb:=zC.trans (xy.mono zC.size);clear p0 p1 p2 p3 p4 p5 p6 SD yT zC xy
  have ALL:Hid (ValidG sP g→sP m=true∧m.wrap.length=16∧0≤m.since∧m.since≤g.number):=fun h=>by
   have h2:=h.all _ (List.getElem_mem wT.out.1);rw[HM.out]at h2
   exact h2
  obtain⟨b3,xy⟩:∃ b,sP m=b:=⟨_,rfl⟩
  have UJ:=Hh xy;rw[xy];clear xy
  cases b3 with
  | false =>
   have NO:Hid (¬ ValidG sP g):=fun h=>by have h2:=(ALL.out h).1;rw[UJ.out]at h2;cases h2
   clear hB hP;exact jeo
  | true =>
  have p5:=hP.cell 5 rfl;have p6:=hP.cell 6 rfl;have g2:=hB.cell 2 rfl
  simp only[Bool.not_true]
  by_cases d0:(m.wrap.length:Int)=16
  case neg =>
   obtain⟨e1,e2,e3⟩:=xt d0;have NO:Hid (¬ ValidG sP g):=fun h=>by have h2:=(ALL.out h).2.1;omega
   clear hB hP d0;exact jeo
  obtain⟨e1,e2,e3⟩:=zK d0;have D0:=Hh d0;clear d0
  by_cases d1:m.since<0
  ·have NO:Hid (¬ ValidG sP g):=fun h=>by have h2:=(ALL.out h).2.2.1;omega
   clear hB hP;exact jeo
  by_cases d2:g.number<m.since
  ·have NO:Hid (¬ ValidG sP g):=fun h=>by have h2:=(ALL.out h).2.2.2;omega
   clear hB hP;exact jeo
  have Z4:Hid (∀ i (h:i<g.members.length),i<j+1→sP g.members[i]=true∧g.members[i].wrap.length=16∧0≤g.members[i].since∧g.members[i].since≤g.number):=fun i h h1=>by
   by_cases e:i=j
   ·subst e;rw[HM.out h];have:=D0.out
    exact⟨UJ.out,by omega,by omega,by omega⟩
   exact HF.out i h (by omega)
  clear hP;go_wp2_with fail
  go_roundw
  case rel=>exact⟨j+1,by go_num,(by have:=wT.out.2;exact(show j+1≤ml by omega)),Z4,(by rw[← gk.out];exact hB),hb⟩
  case measure=>have:=wT.out.2;simp[intOf];omega
 have OK:Hid (ValidG sP g):=GOOD.out fun i h=>HF.out i h (by have:=HN.out.2.2;have:=HJ.out;omega)
 go_wp2_with fail
 go_ret
 exact⟨true,rfl,⟨fun _=>OK.out,fun _=>rfl⟩,hb⟩):P:=h
theorem jaB{P:Prop}(h:P:=by exact jeo):P:=h
theorem jbc{P:Prop}(h:P:=by
 go_wp2_with (at_builtin;refine yq ?_)
 refine zW rfl (.const (.slice none 0 0)) (.tmp 3) rfl w.heap.size (.slice none 0 0) [] rfl (OwnB.nil _ _) A n c l rfl HN.out.1 hS (by have:=HN.out.2;simp;omega) (Nat.le_refl _) fun v1 w1 mQ ww hat1=>?_
 rw[List.nil_append]at mQ;have xR:=yr (by simpa [Value.ownBlock] using ww);clear ww hat1 hS;go_wp2_with fail
 go_ret
 exact⟨_,rfl,mQ,xR⟩):P:=h
theorem jbJ{P:Prop}(h:P:=by exact⟨tJ.key.cell 1 rfl,tJ.key.cell 3 rfl,tJ.key.cell 4 rfl,tJ.key.cell 5 rfl⟩):P:=h
theorem jb5{P:Prop}(h:P:=by
 go_big_quiet (fail)
 have kI:=below_drewNv HB.out nq
 generalize wr.drewN nq=wy at kI⊢
 go_wp2_with fail
 go_ret
 exact⟨false,rfl,⟨fun h=>(by cases h),fun h=>absurd h NO.out⟩,kI⟩):P:=h
theorem jcv{P:Prop}(h:P:=by
 clear hP e1 e2 e3;go_wp2_with fail
 go_roundw
 case rel=>exact⟨j+1,by go_num,by rw[Hid];omega,Z4,hb⟩
 case measure=>simp[intOf];omega):P:=h
theorem jc4{P:Prop}(h:P:=by
 go_wp2_with fail
 go_ret
 exact⟨false,rfl,⟨fun h=>(by cases h),fun h=>absurd h oP.out⟩,xy⟩):P:=h
theorem jdy{P:Prop}(h:P:=by
 have h2:=h.one _ (List.getElem_mem wT.out);rw[HM.out,HS.out]at h2
 exact wu h2):P:=h
theorem jdA{P:Prop}(h:P:=by
 go_wp2_with fail
 go_ret
 exact⟨true,rfl,⟨fun _=>HE.out,fun _=>rfl⟩,hb⟩):P:=h
theorem jdG{P:Prop}(h:P:=by
 go_wp2_with fail
 go_ret
 exact⟨⟨false,rfl,fun h=>by cases h⟩,xy⟩):P:=h
theorem jdL{P:Prop}(h:P:=by cases h <;> cases i <;> first | exact⟨rfl,rfl⟩ | contradiction):P:=h
theorem jeo{P:Prop}(h:P:=by
 go_wp2_with fail
 go_ret
 exact BAD.out _ hb NO.out):P:=h
theorem jez{P:Prop}(h:P:=by
 obtain⟨e1,e2,e3⟩:=xt c2;have NO:Hid (¬ ValidG sP g):=fun h=>by have:=h.sec;have:=HN.out.2.1;omega
 clear hB c2;exact jaB):P:=h
theorem jeM{P:Prop}(h:P:=by clear hB;exact jaB):P:=h
theorem jfl{P:Prop}(h:P:=by
 have NO:Hid (¬ ValidG sP g):=fun h=>by have:=h.few;have:=HN.out.2.2;omega
 exact jeM):P:=h
theorem jfm{P:Prop}(h:P:=by
 have NO:Hid (¬ ValidG sP g):=fun h=>by have:=h.id1;have:=HN.out.1;omega
 exact jeM):P:=h
theorem jfn{P:Prop}(h:P:=by
 have NO:Hid (¬ ValidG sP g):=fun h=>by have:=h.id8;have:=HN.out.1;omega
 exact jeM):P:=h
theorem jfu{P:Prop}(h:P:=by
 have NO:Hid (¬ ValidG sP g):=fun h=>by have:=h.num0;omega
 exact jeM):P:=h
theorem jfv{P:Prop}(h:P:=by
 have NO:Hid (¬ ValidG sP g):=fun h=>by have:=h.num1;omega
 exact jeM):P:=h
theorem jfy{P:Prop}(h:P:=by have r0:=yB.cell (hc 0 _ rfl);have r1:=yB.cell (hc 1 _ rfl);have r2:=yB.cell (hc 2 _ rfl);have r3:=yB.cell (hc 3 _ rfl);have r4:=yB.cell (hc 4 _ rfl);have r5:=yB.cell (hc 5 _ rfl);have r6:=yB.cell (hc 6 _ rfl);exact And.intro r0 (And.intro r1 (And.intro r2 (And.intro r3 (And.intro r4 (And.intro r5 r6)))))):P:=h
theorem jf2{P:Prop}(h:P:=by have HN:=Hh (And.intro tL (And.intro sJ tP));exact HN):P:=h
theorem jgB{P:Prop}(h:P:=by have hB:=Blk.new w 25 (gpC a.ia il a.ic a.sa sl a.sc g.number a.ma ml a.mc);have hb:=zm w (.cells (gpC a.ia il a.ic a.sa sl a.sc g.number a.ma ml a.mc) 25);have BD:Hid (-9223372036854775808≤g.number∧g.number≤9223372036854775807):=hg.number;exact And.intro hB (And.intro hb BD)):P:=h
theorem jgD{P:Prop}(h:P:=by have yB:=HH.out.below hb (Nat.le_refl _);exact yB):P:=h
theorem jg0{P:Prop}(h:P:=by have xR:Below w.heap.size w w:=Below.refl _ _;exact xR):P:=h
theorem jg2{P:Prop}(h:P:=by have g0:=hB.cell 0 rfl;have g1:=hB.cell 1 rfl;have g2:=hB.cell 2 rfl;have g3:=hB.cell 3 rfl;exact And.intro g0 (And.intro g1 (And.intro g2 g3))):P:=h
theorem jhr{P:Prop}(h:P:=by have zC:=hb.alloc hb.size (.cells (y7 m ma) 27);exact zC):P:=h
theorem jhF{P:Prop}(h:P:=by have wT:=Hh (And.intro uU zB);have gk:=Hh sG;exact And.intro wT gk):P:=h
theorem jhH{P:Prop}(h:P:=by have HN:=Hh (And.intro hn hl);exact HN):P:=h
theorem jh2{P:Prop}(h:P:=by have q1:=hQ.cell 1 rfl;exact q1):P:=h
structure Mb where
 name:ByteArray
 sender:List UInt8
 roles:Int
 cred:List UInt8
 share:List UInt8
 wrap:List UInt8
 since:Int
structure MAd where
 sa:Option Addr
 sc:Nat
 ca:Option Addr
 cc:Nat
 ha:Option Addr
 hc:Nat
 wa:Option Addr
 wc:Nat
abbrev yW (name:ByteArray) (roles since:Int) (sa:Option Addr) (sn sc:Nat) (ca:Option Addr) (cn cc:Nat) (ha:Option Addr) (hn hc:Nat) (wa:Option Addr) (wn wc:Nat):Array Value :=
 #[.string name,.slice sa sn sc,.int .i64 roles,.slice ca cn cc,.slice ha hn hc,.slice wa wn wc,.int .i64 since]
abbrev y7 (m:Mb) (a:MAd):Array Value:=yW m.name m.roles m.since a.sa m.sender.length a.sc a.ca m.cred.length a.cc a.ha m.share.length a.hc a.wa m.wrap.length a.wc
structure MemA (H:Snap) (m:Mb) (a:MAd):Prop where
 name:m.name.size≤1099511627
 sender:IsBytes H a.sa a.sc m.sender
 cred:IsBytes H a.ca a.cc m.cred
 share:IsBytes H a.ha a.hc m.share
 wrap:IsBytes H a.wa a.wc m.wrap
 small:m.sender.length≤1099511∧m.cred.length≤1099511∧m.share.length≤1099511∧m.wrap.length≤1099511
theorem MemA.mono {H K:Snap}{m:Mb}{a:MAd}(h:MemA H m a) (hl:H.le K):MemA K m a:=⟨h.name,h.sender.mono hl,h.cred.mono hl,h.share.mono hl,h.wrap.mono hl,h.small⟩
def vQ:Lie Mb where
 k:=7
 pos:=by omega
 E:=fun H m c=>∃ a,c=(y7 m a).toList∧MemA H m a
 len:=by rintro _ _ _ ⟨_,rfl,_⟩;rfl
 one:=by rintro _ _ _ ⟨_,rfl,_⟩;simp[Value.oneCell']
 mono:=by rintro H K x c hl ⟨a,e,h⟩;exact⟨a,e,h.mono hl⟩
abbrev gV:Array Value:=#[.string ⟨#[]⟩,.slice none 0 0,.int .i64 0,.slice none 0 0,.slice none 0 0,.slice none 0 0,.int .i64 0]
theorem o9:(Tryz.prog.info? 27).map (·.size)=some 7:=by kernel_rfl
theorem Tm (a b c d e f g:Value) (ha:a.oneCell'=true) (hb:b.oneCell'=true) (hc:c.oneCell'=true) (hd:d.oneCell'=true) (he:e.oneCell'=true) (hf:f.oneCell'=true) (hg:g.oneCell'=true) :
  (#[a,b,c,d,e,f,g]:Array Value).all (·.oneCell')=true:=by simp[ha,hb,hc,hd,he,hf,hg]
theorem qD:(Tryz.prog.info? 22).map (·.size)=some 1:=by kernel_rfl
theorem vD {A:Option Addr}{c:Nat}{l:List UInt8}{n:Nat}(hn:n=l.length) (hl:l.length≤1099511627) (w:World) (hS:Src w A (l.map zT)) :
  Calls Tryz.prog 38 #[.slice A n c] w fun e w'=>∃ r,e=.returned r∧Fresh w l r w':=by
 have HN:=jhH;clear hn hl;go_enter Tryz.func38,Tryz.ntmps38
 exact jbc
structure MN (W0:World) (H:Snap) (R K:Nat) (kc:Array Value) (w:World) (Hr:Snap):Prop where
 grows:Grows W0 H w Hr
 res:Blk w R 27 gV
 key:Blk w K 27 kc
 hR:Hr R=none
 hK:Hr K=none
 neRK:R≠K
 wR:W0.heap.size≤R
 wK:W0.heap.size≤K
section
variable {W0 w w':World} {H Hr Hs:Snap} {R K:Nat} {kc kc':Array Value}
theorem MN.grow (h:MN W0 H R K kc w Hr) (k:Grows w Hr w' Hs):MN W0 H R K kc w' Hs :=
 ⟨h.grows.trans k,h.res.below k.below,h.key.below k.below,k.none h.hR h.res.lt,k.none h.hK h.key.lt,h.neRK,h.wR,h.wK⟩
theorem MN.below (h:MN W0 H R K kc w Hr) (k:Below w.heap.size w w'):MN W0 H R K kc w' Hr:=h.grow (Grows.of_below h.grows.holds k)
theorem MN.drew (h:MN W0 H R K kc w Hr):MN W0 H R K kc w.drew Hr:=h.below (Below.refl _ _).drew
theorem MN.set (h:MN W0 H R K kc w Hr) (hB:Blk w' K 27 kc') (hg:w.grownBy w' (some K)):MN W0 H R K kc' w' Hr :=
 ⟨h.grows.grownOwn h.hK h.wK hg,h.res.grown hg (fun e=>by injection e with e;exact h.neRK e.symm),hB,h.hR,h.hK,h.neRK,h.wR,h.wK⟩
end
def YN (w:World) (H:Snap) (m:Mb) (e:Ending) (w':World):Prop:=∃ a H',e=.returned (.agg (y7 m a))∧Grows w H w' H'∧MemA H' m a
theorem na {H:Snap}{m:Mb}{a:MAd}(hm:MemA H m a) (w:World) (hH:Holds w H) :
  Calls Tryz.prog 36 #[.agg (y7 m a)] w (YN w H m):=by
 obtain⟨ns,PC⟩:∃ n,n=m.sender.length:=⟨_,rfl⟩
 obtain⟨nc,Pw⟩:∃ n,n=m.cred.length:=⟨_,rfl⟩
 obtain⟨nh,IZ⟩:∃ n,n=m.share.length:=⟨_,rfl⟩
 obtain⟨nw,Ia⟩:∃ n,n=m.wrap.length:=⟨_,rfl⟩
 have HN:=Hh (And.intro PC (And.intro Pw (And.intro IZ Ia)));have eo:=Hh hm.small;have Lm:=Hh hm.name;have R5:=Hh hm.sender;have R3:=Hh hm.cred;have R4:=Hh hm.share;have R6:=Hh hm.wrap;show Calls Tryz.prog 36 #[.agg (yW m.name m.roles m.since a.sa m.sender.length a.sc a.ca m.cred.length a.cc a.ha m.share.length a.hc a.wa m.wrap.length a.wc)] w (YN w H m)
 rw[← PC,← Pw,← IZ,← Ia];have y8:=(Blk.new w 27 (yW m.name m.roles m.since a.sa ns a.sc a.ca nc a.cc a.ha nh a.hc a.wa nw a.wc)).alloc (.cells gV 27);have hT:=Blk.new (w.alloc (.cells (yW m.name m.roles m.since a.sa ns a.sc a.ca nc a.cc a.ha nh a.hc a.wa nw a.wc) 27)) 27 gV;rw[zh]at hT;have tJ:MN w H (w.heap.size+1) w.heap.size (yW m.name m.roles m.since a.sa ns a.sc a.ca nc a.cc a.ha nh a.hc a.wa nw a.wc) _ H:=⟨((Grows.refl hH).alloc (.cells (yW m.name m.roles m.since a.sa ns a.sc a.ca nc a.cc a.ha nh a.hc a.wa nw a.wc) 27)).alloc (.cells gV 27),hT,y8,hH.none_of_ge (by omega),hH.none_of_ge (by omega),by omega,by omega,by omega⟩
 clear PC Pw IZ Ia hm hH y8 hT;go_enter Tryz.func36,Tryz.ntmps36
 go_upto_region 1 with fail
 replace tJ:=tJ.drew;go_cut [1] (fun s1 wx=>s1=.pointer (some ⟨w.heap.size,0,none⟩)∧∃ sa sc ca cc ha hc wa wc Hr,MN w H (w.heap.size+1) w.heap.size (yW m.name m.roles m.since sa ns sc ca nc cc ha nh hc wa nw wc) wx Hr∧IsBytes Hr sa sc m.sender∧IsBytes Hr ca cc m.cred∧IsBytes Hr ha hc m.share∧IsBytes Hr wa wc m.wrap)
 case first =>
  refine zX 13 (fun wx=>wx.cell? ⟨w.heap.size,1,none⟩=some (.slice a.sa ns a.sc)∧wx.cell? ⟨w.heap.size,3,none⟩=some (.slice a.ca nc a.cc)∧wx.cell? ⟨w.heap.size,4,none⟩=some (.slice a.ha nh a.hc)∧wx.cell? ⟨w.heap.size,5,none⟩=some (.slice a.wa nw a.wc)) (by kernel_rfl) (⟨tJ.key.cell 1 rfl,tJ.key.cell 3 rfl,tJ.key.cell 4 rfl,tJ.key.cell 5 rfl⟩) (fun zy=>?_)
  refine Zk 0 rfl zy ?_
  refine Zk 1 rfl zy ?_
  refine Zk 3 rfl zy ?_
  refine Zk 4 rfl zy ?_
  refine Zk 6 rfl zy ?_
  refine Zk 7 rfl zy ?_
  refine Zk 9 rfl zy ?_
  refine Zk 10 rfl zy ?_
  refine Zo 2 rfl fun K hK=>?_
  go_simp
  refine(vD (c:=a.sc) HN.out.1 (by have:=eo.out;omega) _ (Src.of_row R5.out.row tJ.grows.holds)).mono ?_
  rintro e w2 ⟨r2,rfl,iq⟩
  obtain⟨A2,c2,rfl,Ue⟩:=iq.own.form;clear Ue;obtain⟨H2,zM,zC,Ue⟩:=Fresh.snapB tJ.grows.holds iq;clear Ue;rw[← HN.out.1];have kF:=Hh zC;replace tJ:=tJ.grow zM;replace R5:=Hh (R5.out.mono zM.le);replace R3:=Hh (R3.out.mono zM.le);replace R4:=Hh (R4.out.mono zM.le);replace R6:=Hh (R6.out.mono zM.le)
  try replace On:=Hh (On.out.mono zM.le)
  try replace Oo:=Hh (Oo.out.mono zM.le)
  try replace YU:=Hh (YU.out.mono zM.le)
  clear zM zC iq
  refine Ko hK ?_ fun zy=>?_
  ·exact jbJ
  clear hK K
  refine Zk 12 rfl zy ?_
  refine Zo 5 rfl fun K hK=>?_
  go_simp
  refine(vD (c:=a.cc) HN.out.2.1 (by have:=eo.out;omega) _ (Src.of_row R3.out.row tJ.grows.holds)).mono ?_
  rintro e w5 ⟨r5,rfl,ua⟩
  obtain⟨A5,c5,rfl,ML⟩:=ua.own.form;clear ML;obtain⟨H5,xT,qe,ML⟩:=Fresh.snapB tJ.grows.holds ua;clear ML;rw[← HN.out.2.1];have On:=Hh qe;replace tJ:=tJ.grow xT;replace R5:=Hh (R5.out.mono xT.le);replace R3:=Hh (R3.out.mono xT.le);replace R4:=Hh (R4.out.mono xT.le);replace R6:=Hh (R6.out.mono xT.le)
  try replace kF:=Hh (kF.out.mono xT.le)
  try replace Oo:=Hh (Oo.out.mono xT.le)
  try replace YU:=Hh (YU.out.mono xT.le)
  clear xT qe ua
  refine Ko hK ?_ fun zy=>?_
  ·exact jbJ
  clear hK K
  refine Zo 8 rfl fun K hK=>?_
  go_simp
  refine(vD (c:=a.hc) HN.out.2.2.1 (by have:=eo.out;omega) _ (Src.of_row R4.out.row tJ.grows.holds)).mono ?_
  rintro e w8 ⟨r8,rfl,Ub⟩
  obtain⟨A8,c8,rfl,IP⟩:=Ub.own.form;clear IP;obtain⟨H8,lW,nC,IP⟩:=Fresh.snapB tJ.grows.holds Ub;clear IP;rw[← HN.out.2.2.1];have Oo:=Hh nC;replace tJ:=tJ.grow lW;replace R5:=Hh (R5.out.mono lW.le);replace R3:=Hh (R3.out.mono lW.le);replace R4:=Hh (R4.out.mono lW.le);replace R6:=Hh (R6.out.mono lW.le)
  try replace kF:=Hh (kF.out.mono lW.le)
  try replace On:=Hh (On.out.mono lW.le)
  try replace YU:=Hh (YU.out.mono lW.le)
  clear lW nC Ub
  refine Ko hK ?_ fun zy=>?_
  ·exact jbJ
  clear hK K
  refine Zo 11 rfl fun K hK=>?_
  go_simp
  refine(vD (c:=a.wc) HN.out.2.2.2 (by have:=eo.out;omega) _ (Src.of_row R6.out.row tJ.grows.holds)).mono ?_
  rintro e w11 ⟨r11,rfl,ON⟩
  obtain⟨A11,c11,rfl,OQ⟩:=ON.own.form;clear OQ;obtain⟨DS,pV,kD,OQ⟩:=Fresh.snapB tJ.grows.holds ON;clear OQ;rw[← HN.out.2.2.2];have YU:=Hh kD;replace tJ:=tJ.grow pV;replace R5:=Hh (R5.out.mono pV.le);replace R3:=Hh (R3.out.mono pV.le);replace R4:=Hh (R4.out.mono pV.le);replace R6:=Hh (R6.out.mono pV.le)
  try replace kF:=Hh (kF.out.mono pV.le)
  try replace On:=Hh (On.out.mono pV.le)
  try replace Oo:=Hh (Oo.out.mono pV.le)
  clear pV kD ON
  refine Ko hK ?_ fun zy=>?_
  ·exact jbJ
  clear hK K
  refine Zo 13 rfl fun K hK=>?_
  rw[if_pos (by rfl)]
  refine yw _ _ _ rfl w.heap.size 1 (.slice A2 ns c2) rfl rfl _ _ tJ.key qD (by simp) rfl fun w13 hK13 hg13=>?_
  replace tJ:=tJ.set hK13 hg13;clear hK13 hg13
  refine Kz hK ?_
  clear hK K
  refine ZkT 14 rfl (fun h=>absurd h (by decide)) ?_
  refine Zo 15 rfl fun K hK=>?_
  rw[if_pos (by rfl)]
  refine yw _ _ _ rfl w.heap.size 3 (.slice A5 nc c5) rfl rfl _ _ tJ.key qD (by simp) rfl fun w15 hK15 hg15=>?_
  replace tJ:=tJ.set hK15 hg15;clear hK15 hg15
  refine Kz hK ?_
  clear hK K
  refine ZkT 16 rfl (fun h=>absurd h (by decide)) ?_
  refine Zo 17 rfl fun K hK=>?_
  rw[if_pos (by rfl)]
  refine yw _ _ _ rfl w.heap.size 4 (.slice A8 nh c8) rfl rfl _ _ tJ.key qD (by simp) rfl fun w17 hK17 hg17=>?_
  replace tJ:=tJ.set hK17 hg17;clear hK17 hg17
  refine Kz hK ?_
  clear hK K
  refine ZkT 18 rfl (fun h=>absurd h (by decide)) ?_
  refine Zo 19 rfl fun K hK=>?_
  rw[if_pos (by rfl)]
  refine yw _ _ _ rfl w.heap.size 5 (.slice A11 nw c11) rfl rfl _ _ tJ.key qD (by simp) rfl fun w19 hK19 hg19=>?_
  replace tJ:=tJ.set hK19 hg19;clear hK19 hg19
  refine Kz hK ?_
  clear hK K
  refine WaysZ.done (by kernel_rfl) ?_
  try clear zy
  go_wp2_with fail
  go_meet
  exact⟨rfl,A2,c2,A5,c5,A8,c8,A11,c11,_,tJ,kF.out,On.out,Oo.out,YU.out⟩
 case rest =>
 clear tJ;obtain⟨rfl,sa,sc,ca,cc,ha,hc,wa,wc,Hr,tJ,Uo,oK,Ew,iM⟩:=hcut;have HM:=Hh (And.intro tJ (And.intro Uo (And.intro oK (And.intro Ew iM))));have c0:=tJ.key.cell 0 rfl;have c1:=tJ.key.cell 1 rfl;have c2:=tJ.key.cell 2 rfl;have c3:=tJ.key.cell 3 rfl;have c4:=tJ.key.cell 4 rfl;have c5:=tJ.key.cell 5 rfl;have c6:=tJ.key.cell 6 rfl;have pb:=tJ.res;clear tJ Uo oK Ew iM;go_wp2_with (with_reducible refine zx ?_)
 refine zv rfl _ _ _ rfl rfl _ _ rfl rfl _ _ pb o9 rfl (Tm _ _ _ _ _ _ _ rfl rfl rfl rfl rfl rfl rfl) fun wz hRz zS=>?_
 have yl:=HM.out.1.grows.grownOwn HM.out.1.hR HM.out.1.wR zS;clear pb zS c0 c1 c2 c3 c4 c5 c6;go_wp2_with fail
 refine vo rfl rfl hRz rfl rfl o9 rfl ?_
 exact⟨⟨sa,sc,ca,cc,ha,hc,wa,wc⟩,Hr,by rw[HN.out.1,HN.out.2.1,HN.out.2.2.1,HN.out.2.2.2],yl,⟨Lm.out,HM.out.2.1,HM.out.2.2.1,HM.out.2.2.2.1,HM.out.2.2.2.2,eo.out⟩⟩
structure EAd where
 ia:Option Addr
 ic:Nat
 sa:Option Addr
 sc:Nat
 ma:Option Addr
 mc:Nat
def Nx:Mb:=⟨⟨#[]⟩,[],0,[],[],[],0⟩
structure Gp where
 id:List UInt8
 secret:List UInt8
 number:Int
 members:List Mb
abbrev gpC (ia:Option Addr) (il ic:Nat) (sa:Option Addr) (sl sc:Nat) (num:Int) (ma:Option Addr) (ml mc:Nat):Array Value:=#[.slice ia il ic,.slice sa sl sc,.int .i64 num,.slice ma ml mc]
abbrev gpQ (g:Gp) (a:EAd):Array Value:=gpC a.ia g.id.length a.ic a.sa g.secret.length a.sc g.number a.ma g.members.length a.mc
structure GpA (H:Snap) (g:Gp) (a:EAd):Prop where
 id:IsBytes H a.ia a.ic g.id
 secret:IsBytes H a.sa a.sc g.secret
 number : -9223372036854775808≤g.number∧g.number≤9223372036854775807
 members:IsRow vQ H a.ma a.mc g.members
 small:g.id.length≤1099511∧g.secret.length≤1099511∧g.members.length≤1099511
theorem GpA.mono {H K:Snap}{g:Gp}{a:EAd}(h:GpA H g a) (hl:H.le K):GpA K g a:=⟨h.id.mono hl,h.secret.mono hl,h.number,h.members.mono hl,h.small⟩
abbrev yf:Array Value:=#[.slice none 0 0,.slice none 0 0,.int .i64 0,.slice none 0 0]
theorem zp:(Tryz.prog.info? 25).map (·.size)=some 4:=by kernel_rfl
theorem YR (H:Snap):IsRow vQ H none 0 []:=⟨by simp,by omega,by simp⟩
theorem oB (H:Snap):GpA H ⟨[],[],0,[]⟩ ⟨none,0,none,0,none,0⟩:=⟨IsBytes.nil _,IsBytes.nil _,by show(-9223372036854775808:Int)≤0∧(0:Int)≤9223372036854775807;omega,YR H,by simp⟩
structure UnlP (l:List Mb):Prop where
 one:∀ m∈l,m.sender.length=1
 pair:l.Pairwise fun a b=>a.name≠b.name∧a.sender≠b.sender
theorem UnlP.nil:UnlP []:=⟨by simp,List.Pairwise.nil⟩
theorem UnlP.snoc {l:List Mb}{m:Mb}(h:UnlP l) (h1:m.sender.length=1) (h2:∀ o∈l,o.name≠m.name∧o.sender≠m.sender):UnlP (l++[m]) :=
 ⟨fun x hx=>by rcases List.mem_append.1 hx with hx | hx;exact h.one x hx;rw[List.mem_singleton.1 hx];exact h1,
  List.pairwise_append.2 ⟨h.pair,List.pairwise_singleton _ _,fun a ha b hb=>by rw[List.mem_singleton.1 hb];exact h2 a ha⟩⟩
theorem UnlP.at_ {l:List Mb}(h:UnlP l) {i k:Nat}(hk:k<i) (hi:i<l.length):l[k].name≠l[i].name∧l[k].sender≠l[i].sender:=List.pairwise_iff_getElem.1 h.pair k i (by omega) hi hk
theorem UnlP.take_succ {l:List Mb}{i:Nat}(hi:i<l.length) (h:UnlP (l.take i)) (h1:l[i].sender.length=1) (h2:∀ k (hk:k<i),l[k].name≠l[i].name∧l[k].sender≠l[i].sender):UnlP (l.take (i+1)):=by
 rw[List.take_succ_eq_append_getElem hi]
 refine h.snoc h1 fun o ho=>?_
 obtain⟨k,hk,rfl⟩:=List.mem_take_iff_getElem.1 ho
 exact h2 k (by omega)
structure ValidG (sP:Mb→Bool) (g:Gp):Prop where
 id1:1≤g.id.length
 id8:g.id.length≤8
 sec:g.secret.length=32
 num0:0≤g.number
 num1:g.number≤65535
 few:g.members.length≤16
 unl:UnlP g.members
 all:∀ m∈g.members,sP m=true∧m.wrap.length=16∧0≤m.since∧m.since≤g.number
def vR:Gp:=⟨[],[],0,[]⟩
def wk (sP:Mb→Bool) (w:World) (g:Gp) (e:Ending) (w':World):Prop:=∃ b,e=.returned (.bool b)∧(b=true↔ValidG sP g)∧Below w.heap.size w w'
def pY (id secret:List UInt8):Gp:=⟨id,secret,0,[]⟩
theorem mB (sP:Mb→Bool) (id secret:List UInt8):ValidG sP (pY id secret)↔1≤id.length∧id.length≤8∧secret.length=32 :=
 ⟨fun h=>⟨h.id1,h.id8,h.sec⟩,fun h=>⟨h.1,h.2.1,h.2.2,by show(0:Int)≤0;omega,by show(0:Int)≤65535;omega,by show(0:Nat)≤16;omega,UnlP.nil,by intro m hm;cases hm⟩⟩
inductive CreateP (sP:Mb→Bool) (id secret:List UInt8):Int→Gp→Prop
 | arg:¬ ValidG sP (pY id secret)→CreateP sP id secret 1 vR
 | ok:ValidG sP (pY id secret)→CreateP sP id secret 0 (pY id secret)
def Ta (sP:Mb→Bool) (w:World) (H:Snap) (id secret:List UInt8) (e:Ending) (w':World):Prop:=∃ g a H' n,e=.returned (.tuple #[.agg (gpQ g a),.int .i64 n])∧Grows w H w' H'∧GpA H' g a∧CreateP sP id secret n g
structure FreeP (l:List Mb) (n:UInt8):Prop where
 free:∀ m∈l,m.sender≠[n]
 least:∀ k:UInt8,k.toNat<n.toNat→∃ m∈l,m.sender=[k]
theorem FreeP.unique {l:List Mb}{n k:UInt8}(h:FreeP l n) (i:FreeP l k):n=k:=by
 rcases Nat.lt_trichotomy n.toNat k.toNat with h1 | h1 | h1
 ·obtain⟨m,hm,e⟩:=i.least n h1
  exact absurd e (h.free m hm)
 ·exact UInt8.toNat_inj.1 h1
 obtain⟨m,hm,e⟩:=h.least k h1
 exact absurd e (i.free m hm)
def pT (l:List Mb) (m:Mb):Prop:=∃ o∈l,o.name=m.name∨o.cred=m.cred∨o.wrap=m.wrap
def bE (sP:Mb→Bool) (g:Gp) (m:Mb):Prop:=ValidG sP g∧sP m=true∧m.wrap.length=16
def cZ (g:Gp) (m:Mb) (n:UInt8):Gp:=⟨g.id,g.secret,g.number+1,g.members++[{ m with sender:=[n],since:=g.number+1 }]⟩
inductive AdmP (sP:Mb→Bool) (g:Gp) (m:Mb):Int→Gp→List UInt8→Prop
 | arg:¬ bE sP g m→AdmP sP g m 1 vR []
 | twice:bE sP g m→pT g.members m→AdmP sP g m 7 vR []
 | full:bE sP g m→¬ pT g.members m→16≤g.members.length→AdmP sP g m 16 vR []
 | limit:bE sP g m→¬ pT g.members m→g.members.length<16→g.number=65535→AdmP sP g m 8 vR []
 | ok (n:UInt8):bE sP g m→¬ pT g.members m→g.members.length<16→g.number≠65535→FreeP g.members n→AdmP sP g m 0 (cZ g m n) [n]
theorem AdmP.unique {sP:Mb→Bool}{g:Gp}{m:Mb}{q r:Int}{x y:Gp}{s t:List UInt8}(h:AdmP sP g m q x s) (i:AdmP sP g m r y t):q=r∧x=y∧s=t:=by
 cases h <;> cases i <;> first
  | exact⟨rfl,rfl,rfl⟩
  | contradiction
  | omega
  | (rename_i a1 a2 a3 a4 n1 f1 n2 b1 b2 b3 b4 f2;rw[f1.unique f2];exact⟨rfl,rfl,rfl⟩)
def rO (sP:Mb→Bool) (w:World) (H:Snap) (g:Gp) (m:Mb) (e:Ending) (w':World):Prop:=∃ x a H' A c l n,e=.returned (.tuple #[.agg (gpQ x a),.slice A l.length c,.int .i64 n])∧Grows w H w' H'∧GpA H' x a∧IsBytes H' A c l∧AdmP sP g m n x l
def ce (g:Gp) (name:ByteArray):Gp:=⟨g.id,g.secret,g.number+1,g.members.filter fun m=>decide (m.name≠name)⟩
inductive ExcP (sP:Mb→Bool) (g:Gp) (name:ByteArray):Int→Gp→Prop
 | arg:¬ ValidG sP g→ExcP sP g name 1 vR
 | gone:ValidG sP g→(∀ m∈g.members,m.name≠name)→ExcP sP g name 38 vR
 | limit:ValidG sP g→(∃ m∈g.members,m.name=name)→g.number=65535→ExcP sP g name 8 vR
 | ok:ValidG sP g→(∃ m∈g.members,m.name=name)→g.number≠65535→ExcP sP g name 0 (ce g name)
theorem ExcP.unique {sP:Mb→Bool}{g:Gp}{name:ByteArray}{q r:Int}{x y:Gp}(h:ExcP sP g name q x) (i:ExcP sP g name r y):q=r∧x=y:=by
 cases h <;> cases i <;> first
  | exact⟨rfl,rfl⟩
  | contradiction
  | (rename_i a1 a2 a3 a4;obtain⟨m,hm,e⟩:=a4;exact absurd e (a2 m hm))
  | (rename_i a1 a2 a3 a4 a5;obtain⟨m,hm,e⟩:=a4;exact absurd e (a2 m hm))
  | (rename_i a1 a2 a3 a4 a5;obtain⟨m,hm,e⟩:=a2;exact absurd e (a5 m hm))
def qG (sP:Mb→Bool) (w:World) (H:Snap) (g:Gp) (name:ByteArray) (e:Ending) (w':World):Prop:=∃ x a H' n,e=.returned (.tuple #[.agg (gpQ x a),.int .i64 n])∧Grows w H w' H'∧GpA H' x a∧ExcP sP g name n x
theorem fS {l:List Mb}{name:ByteArray}(h:∀ m∈l,m.name≠name):l.filter (fun m=>decide (m.name≠name))=l:=List.filter_eq_self.2 fun m hm=>decide_eq_true (h m hm)
theorem Xa {l:List Mb}{name:ByteArray}(v:UnlP l) {i:Nat}(hi:i<l.length) (hn:l[i].name=name):l.take i++l.drop (i+1)=l.filter fun m=>decide (m.name≠name):=by
 have e:l=l.take i++(l[i]::l.drop (i+1)):=by rw[← List.drop_eq_getElem_cons hi,List.take_append_drop]
 have h1:∀ m∈l.take i,m.name≠name:=fun m hm=>by
  obtain⟨k,hk,rfl⟩:=List.mem_take_iff_getElem.1 hm;rw[← hn]
  exact(v.at_ (by omega:k<i) hi).1
 have h2:∀ m∈l.drop (i+1),m.name≠name:=fun m hm=>by
  obtain⟨k,hk,rfl⟩:=List.mem_drop_iff_getElem.1 hm;rw[← hn]
  exact fun h=>(v.at_ (k:=i) (i:=i+1+k) (by omega) (by omega)).1 h.symm
 conv=>rhs;rw[e]
 rw[List.filter_append,fS h1,List.filter_cons,if_neg (by simp[hn]),fS h2]
def OY (g:Gp):Gp:=⟨g.id,g.secret,g.number+1,g.members⟩
inductive RekP (sP:Mb→Bool) (g:Gp):Int→Gp→Prop
 | arg:¬ ValidG sP g→RekP sP g 1 vR
 | limit:ValidG sP g→g.number=65535→RekP sP g 8 vR
 | ok:ValidG sP g→g.number≠65535→RekP sP g 0 (OY g)
theorem RekP.unique {sP:Mb→Bool}{g:Gp}{q r:Int}{x y:Gp}(h:RekP sP g q x) (i:RekP sP g r y):q=r∧x=y:=by
 exact jdL
theorem YP:∀ (b:Nat) (l:List Nat),(∀ k,k<b→k∈l)→b≤l.length
 | 0,_,_=>Nat.zero_le _
 | b+1,l,h=>by
  have hb:=h b (by omega);have h1:=YP b (l.erase b) (fun k hk=>(List.mem_erase_of_ne (by omega)).2 (h k (by omega)));rw[List.length_erase_of_mem hb]at h1;have:=List.length_pos_of_mem hb
  omega
def GK (s:List UInt8):Nat:=match s with
 | [x]=>x.toNat
 | _=>0
theorem Wb {l:List Mb}{b:Nat}(h:∀ k:Nat,k<b→∃ m∈l,m.sender=[UInt8.ofNat k]) (hb:b≤256):b≤l.length:=by
 have:=YP b (l.map fun m=>GK m.sender) fun k hk=>by
  obtain⟨m,hm,e⟩:=h k hk
  refine List.mem_map.2 ⟨m,hm, ?_⟩
  rw[e]
  exact UInt8.toNat_ofNat_of_lt' (by show k<256;omega)
 simpa using this
def TB (w:World) (l:List Mb) (e:Ending) (w':World):Prop:=∃ b,e=.returned (.bool b)∧(b=true↔UnlP l)∧Below w.heap.size w w'
theorem tR {a b:ByteArray}(h:¬ a=b):(a=b)=False∧(a==b)=false∧(a.toList==b.toList)=false:=by
 have f3:(a.toList==b.toList)=false:=by
  cases h':(a.toList==b.toList) with
  | false=>rfl
  | true=>exact absurd (by have:=beq_iff_eq.1 h';rw[ByteArray.toList_eq,ByteArray.toList_eq]at this;exact ByteArray.ext (Array.toList_inj.1 this)) h
 exact⟨eq_false h,by rw[beq_toListBytes];exact f3,f3⟩
theorem uV {a b:ByteArray}(h:a=b):(a=b)=True∧(a==b)=true∧(a.toList==b.toList)=true :=
 ⟨eq_true h,by rw[h,beq_toListBytes];exact beq_self_eq_true _,by rw[h];exact beq_self_eq_true _⟩
theorem fE {H:Snap}{A:Option Addr}{c:Nat}{l:List Mb}(hI:IsRow vQ H A c l) {n:Nat}(hn:n=l.length) (hl:l.length≤1099511) (w:World) (hH:Holds w H) :
  Calls Tryz.prog 29 #[.slice A n c] w (TB w l):=by
 have HN:=jhH;have HI:=Hh hI;have HH:=Hh hH;have Pw:(n:Int)≤(c:Int):=by have:=hI.le;omega
 have HC:Hid (n≤c):=by have:=hI.le;rw[Hid];omega
 have xR:=jg0;have H0:Hid (UnlP (l.take 0)):=by rw[Hid,List.take_zero];exact UnlP.nil
 clear hn hl hI hH;go_enter Tryz.func29,Tryz.ntmps29
 go_wp2_with fail
 go_loopw [9] (fun v9 wr=>∃ j:Nat,v9=.int .i64 (j:Int)∧Hid (j≤n)∧Hid (UnlP (l.take j))∧Below w.heap.size w wr) (fun v9 _=>(n:Int).toNat+1-(intOf v9).toNat)
 case atStart=>exact⟨0,rfl,Nat.zero_le _,H0,xR⟩
 case round =>
 clear H0 xR;obtain⟨j,rfl,HJ,HF,hb⟩:=hrel
 by_cases zB:(j:Int)<(n:Int)
 ·have uU:j<l.length:=by rw[← HN.out.1];omega
  obtain⟨gb,go,sG,uF⟩:=HI.out.at_ (by omega);have GQ:=Hh uF;obtain⟨d,hd,hc⟩:=uF j uU;obtain⟨ma,hd,th⟩:=hd;subst hd;obtain⟨m,hm⟩:∃ m,l[j]=m:=⟨_,rfl⟩
  rw[hm]at hc th;have HM:Hid (∀ h:j<l.length,l[j]=m):=fun _=>hm
  obtain⟨sn,oN⟩:∃ k,m.sender.length=k:=⟨_,rfl⟩
  have HS:=Hh oN;have yB:=jgD;obtain⟨r0,r1,r2,r3,r4,r5,r6⟩:=jfy
  simp only[vQ,Nat.add_zero,Nat.zero_add,← Nat.add_assoc]at r0 r1 r2 r3 r4 r5 r6
  rw[oN]at r1;have qS:=Hh th;have hP:=Blk.new wr 27 (y7 m ma);have zC:=jhr;have Pk:=hb.size;rw[show y7 m ma=yW m.name m.roles m.since ma.sa sn ma.sc ma.ca m.cred.length ma.cc ma.ha m.share.length ma.hc ma.wa m.wrap.length ma.wc by rw[← oN]]at hP zC;obtain⟨P,uT⟩:∃ P,wr.heap.size=P:=⟨_,rfl⟩
  obtain⟨w2,sN⟩:∃ w2,wr.alloc (.cells (yW m.name m.roles m.since ma.sa sn ma.sc ma.ca m.cred.length ma.cc ma.ha m.share.length ma.hc ma.wa m.wrap.length ma.wc) 27)=w2:=⟨_,rfl⟩
  rw[uT,sN]at hP;rw[uT]at Pk;rw[sN]at zC;have rp:=Hh (And.intro uT sN);have oH:(j:Int)+1≤9223372036854775807:=by have:=HN.out.2;omega
  have wT:=Hh uU;have BT:=Hh Pk;clear uT sN uF hc th hb uU yB hm oN Pk;have RH:=Hh Pw;rw[sG];go_upto_region 4 with fail
  try rw[rp.out.1]
  try rw[rp.out.2]
  clear r0 r1 r2 r3 r4 r5 r6 sG;have p1:=hP.cell 1 rfl
  by_cases wu:sn=1
  ·have e1:((sn:Int)=1)=True:=eq_true (by omega);have e2:((sn:Int)==1)=true:=by simpa using (by omega:(sn:Int)=1)
   have e3:((sn:Int) != 1)=false:=by simpa using (by omega:(sn:Int)=1)
   have Ym:=Hh wu;clear wu;go_upto_region 6 with fail
   clear p1;have F4:(j:Int)≤(c:Int):=by omega
   have AC:(0:Int)≤(j:Int):=by omega
   have H1:Hid (∀ k (hk:k<l.length),k<0→l[k].name≠m.name∧l[k].sender≠m.sender):=fun k hk h0=>absurd h0 (by omega)
   go_wp2_with fail
   go_loopw [22] (fun v22 wx=>∃ k:Nat,v22=.int .i64 (k:Int)∧Hid (k≤j)∧Hid (∀ i (hi:i<l.length),i<k→l[i].name≠m.name∧l[i].sender≠m.sender)∧Blk wx P 27 (yW m.name m.roles m.since ma.sa sn ma.sc ma.ca m.cred.length ma.cc ma.ha m.share.length ma.hc ma.wa m.wrap.length ma.wc)∧Below w.heap.size w wx) (fun v22 _=>(j:Int).toNat+1-(intOf v22).toNat)
   case atStart=>exact⟨0,rfl,Nat.zero_le _,H1,hP,zC⟩
   case round =>
   clear hP zC H1;obtain⟨k,rfl,HK,Lj,hP,hb⟩:=hrel
   by_cases hkt:(k:Int)<(j:Int)
   ·have tF:k<l.length:=by have:=wT.out;omega
    obtain⟨d,hd,hc⟩:=GQ.out k tF;obtain⟨mb,hd,th⟩:=hd;subst hd;obtain⟨m2,ir⟩:∃ m2,l[k]=m2:=⟨_,rfl⟩
    rw[ir]at hc th;have Oi:Hid (∀ h:k<l.length,l[k]=m2):=fun _=>ir
    have em:=Hh tF;have yB:=jgD;have q0:=yB.cell (hc 0 _ rfl);have q1:=yB.cell (hc 1 _ rfl);have q2:=yB.cell (hc 2 _ rfl);have q3:=yB.cell (hc 3 _ rfl);have q4:=yB.cell (hc 4 _ rfl);have q5:=yB.cell (hc 5 _ rfl);have q6:=yB.cell (hc 6 _ rfl)
    simp only[vQ,Nat.add_zero,Nat.zero_add,← Nat.add_assoc]at q0 q1 q2 q3 q4 q5 q6
    have hQ:=Blk.new wr 27 (y7 m2 mb);have Z9:=hP.alloc (.cells (y7 m2 mb) 27);have xy:=hb.alloc hb.size (.cells (y7 m2 mb) 27);obtain⟨Q,qg⟩:∃ Q,wr.heap.size=Q:=⟨_,rfl⟩
    obtain⟨w3,eF⟩:∃ w3,wr.alloc (.cells (y7 m2 mb) 27)=w3:=⟨_,rfl⟩
    rw[qg,eF]at hQ;rw[eF]at Z9 xy;have jX:=Hh (And.intro qg eF);have DO:(k:Int)+1≤9223372036854775807:=by omega
    have BF:=Hh th;have sL:(0:Int)≤(k:Int):=by omega
    clear qg eF hb hP yB hc th ir tF e1 e2 e3;go_upto_region 9 with fail
    try rw[jX.out.1]
    try rw[jX.out.2]
    clear q0 q1 q2 q3 q4 q5 q6 jX;have II:=HH.out.below xy (Nat.le_refl _);have q0:=hQ.cell 0 rfl;have p0:=Z9.cell 0 rfl
    by_cases hq:m2.name=m.name
    ·obtain⟨f1,f2,f3⟩:=uV hq
     have oP:Hid (¬ UnlP l):=fun h=>by
      have h2:=(h.at_ (i:=j) (k:=k) (by omega) wT.out).1;rw[HM.out,Oi.out]at h2
      exact h2 hq
     clear hq;exact jc4
    obtain⟨f1,f2,f3⟩:=tR hq;have HQ:=Hh hq;clear hq;have q1:=jh2;have p1:=Z9.cell 1 rfl;have k1:=xI (Src.of_row BF.out.sender.row II) m2.sender.length mb.sc rfl;have k2:=xI (Src.of_row qS.out.sender.row II) sn ma.sc HS.out.symm
    by_cases hsd:m2.sender=m.sender
    ·have b1:(m2.sender=m.sender)=True:=eq_true hsd;have b2:((m2.sender:List UInt8)==m.sender)=true:=by simpa using hsd
     have oP:Hid (¬ UnlP l):=fun h=>by
      have h2:=(h.at_ (i:=j) (k:=k) (by omega) wT.out).2;rw[HM.out,Oi.out]at h2
      exact h2 hsd
     clear hsd;exact jc4
    have b1:(m2.sender=m.sender)=False:=eq_false hsd;have b2:((m2.sender:List UInt8)==m.sender)=false:=by simpa using hsd
    have Bd:=Hh hsd;clear hsd hQ II;go_wp2_with fail
    go_roundw
    case rel=>exact⟨k+1,by go_num,by rw[Hid];omega,fun i hi h1=>by
     by_cases e:i=k
     ·subst e;rw[Oi.out hi];exact⟨HQ.out,Bd.out⟩
     exact Lj.out i hi (by omega),Z9,xy⟩
    case measure=>simp[intOf];omega
   have Z4:Hid (UnlP (l.take (j+1))):=HF.out.take_succ wT.out (by rw[HM.out];exact HS.out.trans Ym.out) (fun k hk=>by rw[HM.out];exact Lj.out k (by have:=wT.out;omega) (by have:=HK.out;omega));exact jcv
  have e1:((sn:Int)=1)=False:=eq_false (by omega);have e2:((sn:Int)==1)=false:=by simpa using (by omega:¬ (sn:Int)=1)
  have e3:((sn:Int) != 1)=true:=by simpa using (by omega:¬ (sn:Int)=1)
  have oP:Hid (¬ UnlP l):=fun h=>by
   exact jdy
  clear hP;go_wp2_with fail
  go_ret
  exact⟨false,rfl,⟨fun h=>(by cases h),fun h=>absurd h oP.out⟩,zC⟩
 have JT:j=n:=by have:=HJ.out;omega
 have HE:Hid (UnlP l):=by have h:=HF.out;rw[JT,HN.out.1,List.take_length]at h;exact h
 exact jdA
def SoundIs (sP:Mb→Bool) (H:Snap):Prop:=∀ (K:Snap),H.le K→∀ (m:Mb) (a:MAd) (w:World),MemA K m a→Holds w K→Calls Tryz.prog 30 #[.agg (y7 m a)] w fun e w'=>e=.returned (.bool (sP m))∧Below w.heap.size w w'
theorem SoundIs.mono {sP:Mb→Bool}{H K:Snap}(h:SoundIs sP H) (hl:H.le K):SoundIs sP K:=fun L hk=>h L (hl.trans hk)
theorem zK {a b:Int}(h:a=b):(a=b)=True∧(a==b)=true∧(a != b)=false:=by subst h;simp
theorem xt {a b:Int}(h:¬ a=b):(a=b)=False∧(a==b)=false∧(a != b)=true:=⟨eq_false h,beq_eq_false_iff_ne.2 h,by rw[bne,beq_eq_false_iff_ne.2 h];rfl⟩
theorem tQ {sP:Mb→Bool}{H:Snap}(hS:SoundIs sP H) {g:Gp}{a:EAd}(hg:GpA H g a) (w:World) (hH:Holds w H) :
  Calls Tryz.prog 11 #[.agg (gpQ g a)] w (wk sP w g):=by
 obtain⟨il,tL⟩:∃ n,n=g.id.length:=⟨_,rfl⟩
 obtain⟨sl,sJ⟩:∃ n,n=g.secret.length:=⟨_,rfl⟩
 obtain⟨ml,tP⟩:∃ n,n=g.members.length:=⟨_,rfl⟩
 have HN:=jf2;have HG:=Hh hg;have HH:=Hh hH;have HS:=Hh (hS H (Snap.le.refl H));show Calls Tryz.prog 11 #[.agg (gpC a.ia g.id.length a.ic a.sa g.secret.length a.sc g.number a.ma g.members.length a.mc)] w (wk sP w g)
 rw[← tL,← sJ,← tP];obtain⟨hB,hb,BD⟩:=jgB;have BAD:Hid (∀ wx,Below w.heap.size w wx→¬ ValidG sP g→wk sP w g (.returned (.bool false)) wx):=fun wx h hn=>⟨false,rfl,⟨fun h=>(by cases h),fun h=>absurd h hn⟩,h⟩
 obtain⟨g0,g1,g2,g3⟩:=jg2;clear tL sJ tP hg hH hS;go_enter Tryz.func11,Tryz.ntmps11
 by_cases c0:(il:Int)<1
 ·exact jfm
 by_cases c1:(8:Int)<(il:Int)
 ·exact jfn
 by_cases c2:(sl:Int)=32
 case neg =>
  exact jez
 obtain⟨e1,e2,e3⟩:=zK c2;have c2':=Hh c2;clear c2
 by_cases c3:g.number<0
 ·exact jfu
 by_cases c4:(65535:Int)<g.number
 ·exact jfv
 by_cases c5:(16:Int)<(ml:Int)
 ·exact jfl
 have AP:=Hh (fun wx hx=>fE (n:=ml) HG.out.members HN.out.2.2 HG.out.small.2.2 wx hx);exact jab
theorem gG {l:List UInt8}(h:l.length=1):l=[l[0]'(by omega)]:=by
 match l,h with
 | [a],_=>rfl
theorem cH {H:Snap}{A:Option Addr}{c:Nat}{l:List Mb}(hI:IsRow vQ H A c l) {n:Nat}(hn:n=l.length) (hl:l.length≤1099511) (w:World) (hH:Holds w H) :
  Calls Tryz.prog 31 #[.slice A n c] w (TB w l):=by
 have HN:=jhH;have HI:=Hh hI;have HH:=Hh hH;have HC:Hid (n≤c):=by have:=hI.le;rw[Hid];omega
 have xR:=jg0;have H0:Hid ((∀ i (h:i<l.length),i<0→l[i].sender.length=1)∧UnlP (l.take 0)):=⟨fun i h h0=>absurd h0 (by omega),by rw[List.take_zero];exact UnlP.nil⟩
 clear hn hl hI hH;go_enter Tryz.func31,Tryz.ntmps31
 go_wp2_with fail
 go_loopw [8] (fun v8 wr=>∃ j:Nat,v8=.int .i64 (j:Int)∧Hid (j≤n)∧Hid ((∀ i (h:i<l.length),i<j→l[i].sender.length=1)∧UnlP (l.take j))∧Below w.heap.size w wr) (fun v8 _=>(n:Int).toNat+1-(intOf v8).toNat)
 case atStart=>exact⟨0,rfl,Nat.zero_le _,H0,xR⟩
 case round =>
 clear H0 xR;obtain⟨j,rfl,HJ,HF,hb⟩:=hrel
 by_cases zB:(j:Int)<(n:Int)
 ·have uU:j<l.length:=by rw[← HN.out.1];omega
  obtain⟨gb,go,sG,uF⟩:=HI.out.at_ (by omega);have GQ:=Hh uF;obtain⟨d,hd,hc⟩:=uF j uU;obtain⟨ma,hd,th⟩:=hd;subst hd;obtain⟨m,hm⟩:∃ m,l[j]=m:=⟨_,rfl⟩
  rw[hm]at hc th;have HM:Hid (∀ h:j<l.length,l[j]=m):=fun _=>hm
  obtain⟨sn,oN⟩:∃ k,m.sender.length=k:=⟨_,rfl⟩
  have HS:=Hh oN;have yB:=jgD;obtain⟨r0,r1,r2,r3,r4,r5,r6⟩:=jfy
  simp only[vQ,Nat.add_zero,Nat.zero_add,← Nat.add_assoc]at r0 r1 r2 r3 r4 r5 r6
  rw[oN]at r1;have qS:=Hh th;have hP:=Blk.new wr 27 (y7 m ma);have zC:=jhr;have Pk:=hb.size;rw[show y7 m ma=yW m.name m.roles m.since ma.sa sn ma.sc ma.ca m.cred.length ma.cc ma.ha m.share.length ma.hc ma.wa m.wrap.length ma.wc by rw[← oN]]at hP zC;obtain⟨P,uT⟩:∃ P,wr.heap.size=P:=⟨_,rfl⟩
  obtain⟨w2,sN⟩:∃ w2,wr.alloc (.cells (yW m.name m.roles m.since ma.sa sn ma.sc ma.ca m.cred.length ma.cc ma.ha m.share.length ma.hc ma.wa m.wrap.length ma.wc) 27)=w2:=⟨_,rfl⟩
  rw[uT,sN]at hP;rw[uT]at Pk;rw[sN]at zC;have rp:=Hh (And.intro uT sN);have oH:(j:Int)+1≤9223372036854775807:=by have:=HN.out.2;omega
  have wT:=Hh uU;have BT:=Hh Pk;clear uT sN uF hc th hb uU yB hm oN Pk;rw[sG];go_upto_region 4 with fail
  try rw[rp.out.1]
  try rw[rp.out.2]
  clear r0 r1 r2 r3 r4 r5 r6 sG;have p1:=hP.cell 1 rfl
  by_cases wu:sn=1
  ·have e1:((sn:Int)=1)=True:=eq_true (by omega);have e2:((sn:Int)==1)=true:=by simpa using (by omega:(sn:Int)=1)
   have e3:((sn:Int) != 1)=false:=by simpa using (by omega:(sn:Int)=1)
   have Ym:=Hh wu;clear wu;go_upto_region 6 with fail
   clear p1;have H1:Hid (∀ k (hk:k<l.length),k<0→l[k].name≠m.name∧l[k].sender≠m.sender):=fun k hk h0=>absurd h0 (by omega)
   go_wp2_with fail
   go_loopw [5] (fun v5 wx=>∃ k:Nat,v5=.int .i64 (k:Int)∧Hid (k≤j)∧Hid (∀ i (hi:i<l.length),i<k→l[i].name≠m.name∧l[i].sender≠m.sender)∧Blk wx P 27 (yW m.name m.roles m.since ma.sa sn ma.sc ma.ca m.cred.length ma.cc ma.ha m.share.length ma.hc ma.wa m.wrap.length ma.wc)∧Below w.heap.size w wx) (fun v5 _=>(j:Int).toNat+1-(intOf v5).toNat)
   case atStart=>exact⟨0,rfl,Nat.zero_le _,H1,hP,zC⟩
   case round =>
   clear hP zC H1;obtain⟨k,rfl,HK,Lj,hP,hb⟩:=hrel
   by_cases hkt:(k:Int)<(j:Int)
   ·have tF:k<l.length:=by have:=wT.out;omega
    obtain⟨d,hd,hc⟩:=GQ.out k tF;obtain⟨mb,hd,th⟩:=hd;subst hd;have rX:l[k].sender.length=1:=HF.out.1 k tF (by omega);obtain⟨m2,ir⟩:∃ m2,l[k]=m2:=⟨_,rfl⟩
    rw[ir]at hc th rX;have Oi:Hid (∀ h:k<l.length,l[k]=m2):=fun _=>ir
    have em:=Hh tF;have RF:=Hh hkt;have yB:=jgD;have q0:=yB.cell (hc 0 _ rfl);have q1:=yB.cell (hc 1 _ rfl)
    simp only[vQ,Nat.add_zero,Nat.zero_add,← Nat.add_assoc]at q0 q1
    have kL:m.sender.length=1:=HS.out.trans Ym.out;obtain⟨xb,xo,ZF,hx⟩:=th.sender.at_ (by omega);obtain⟨yb,yo,FZ,hy⟩:=qS.out.sender.at_ (by omega);have x0:=yB.cell (hx 0 (by omega));have y0:=yB.cell (hy 0 (by omega));have Iy:=Hh (And.intro (gG rX) (gG kL))
    generalize m2.sender[0]=xv at *
    generalize m.sender[0]=yv at *
    rw[ZF]at q1;have p0:=hP.cell 0 rfl;have p1:=hP.cell 1 rfl;rw[FZ]at p1
    simp only[Nat.add_zero]at x0 y0
    obtain⟨tn,FP⟩:∃ k,m2.sender.length=k:=⟨_,rfl⟩
    rw[FP]at q1 rX;have g1:(0:Int)<(tn:Int):=by omega
    have g2:(0:Int)<(sn:Int):=by have:=Ym.out;omega
    have g3:(k:Int)<(n:Int):=by omega
    have g4:(0:Int)≤(k:Int):=by omega
    have HB:=Hh hb;have BV:=Hh hP;obtain⟨s2,OU⟩:∃ s,m2.name=s:=⟨_,rfl⟩
    rw[OU]at q0;have Lm:=Hh OU;obtain⟨s1,wu⟩:∃ s,m.name=s:=⟨_,rfl⟩
    rw[wu]at p0;have en:=Hh wu
    have BAD1:Hid (s2=s1→¬ UnlP l):=fun hq h=>by
     have h2:=(h.at_ (i:=j) (k:=k) (by have:=RF.out;omega) wT.out).1;rw[HM.out,Oi.out,Lm.out,en.out]at h2
     exact h2 hq
    have BAD2:Hid (xv.toNat=yv.toNat→¬ UnlP l):=fun hq h=>by
     have h2:=(h.at_ (i:=j) (k:=k) (by have:=RF.out;omega) wT.out).2;rw[HM.out,Oi.out,Iy.out.1,Iy.out.2,UInt8.toNat_inj.1 hq]at h2
     exact h2 rfl
    have k63:IntKind.i64.wrap ((k:Int)+1)=(k:Int)+1:=IntWalk.i64_in _ (by omega);clear hc th hx hy yB kL rX FP ZF FZ wu OU ir tF hb hP e1 e2 e3;go_upto_region 9 with fail
    by_cases hq:s2=s1
    ·have f1:(s2=s1)=True:=eq_true hq;have f2:(s2==s1)=true:=by rw[hq,beq_toListBytes];exact beq_self_eq_true _
     have f3:(s2.toList==s1.toList)=true:=by rw[hq];exact beq_self_eq_true _
     have NO:=Hh (BAD1.out hq);clear hq;exact jb5
    have f1:(s2=s1)=False:=eq_false hq
    have f3:(s2.toList==s1.toList)=false:=by
     cases h:(s2.toList==s1.toList) with
     | false=>rfl
     | true=>exact absurd (by have:=beq_iff_eq.1 h;rw[ByteArray.toList_eq,ByteArray.toList_eq]at this;exact ByteArray.ext (Array.toList_inj.1 this)) hq
    have f2:(s2==s1)=false:=by rw[beq_toListBytes];exact f3
    have BZ:=Hh hq;clear hq
    by_cases hv:xv.toNat=yv.toNat
    ·have v1:((xv.toNat:Int)=(yv.toNat:Int))=True:=eq_true (by omega);have v2:((xv.toNat:Int)==(yv.toNat:Int))=true:=beq_iff_eq.2 (by omega);have NO:=Hh (BAD2.out hv);clear hv;exact jb5
    have v1:((xv.toNat:Int)=(yv.toNat:Int))=False:=eq_false (by omega);have v2:((xv.toNat:Int)==(yv.toNat:Int))=false:=beq_eq_false_iff_ne.2 (by omega)
    have Z4:Hid (∀ i (hi:i<l.length),i<k+1→l[i].name≠m.name∧l[i].sender≠m.sender):=fun i hi h1=>by
     by_cases e:i=k
     ·subst e;rw[Oi.out hi,Lm.out,en.out,Iy.out.1,Iy.out.2]
      exact⟨BZ.out,fun h=>hv (by injection h with h;rw[h])⟩
     exact Lj.out i hi (by omega)
    clear hv;go_big_quiet (fail)
    have kI:=below_drewNv HB.out nq;have Eg:=BV.out.below (below_drewNv (Below.refl _ _) nq)
    generalize wr.drewN nq=wy at kI Eg⊢
    go_wp2_with fail
    go_roundw
    case rel=>exact⟨k+1,by go_num,by have:=RF.out;rw[Hid];omega,Z4,Eg,kI⟩
    case measure=>have:=RF.out;simp[intOf];omega
   have Z4:Hid ((∀ i (h:i<l.length),i<j+1→l[i].sender.length=1)∧UnlP (l.take (j+1))):=⟨fun i h hi=>by
    by_cases e:i=j
    ·subst e;rw[HM.out h];exact HS.out.trans Ym.out
    exact HF.out.1 i h (by omega),HF.out.2.take_succ wT.out (by rw[HM.out];exact HS.out.trans Ym.out) (fun k hk=>by rw[HM.out];exact Lj.out k (by have:=wT.out;omega) (by have:=HK.out;omega))⟩
   exact jcv
  have e1:((sn:Int)=1)=False:=eq_false (by omega);have e2:((sn:Int)==1)=false:=by simpa using (by omega:¬ (sn:Int)=1)
  have e3:((sn:Int) != 1)=true:=by simpa using (by omega:¬ (sn:Int)=1)
  have NO:Hid (¬ UnlP l):=fun h=>by
   exact jdy
  clear hP;go_wp2_with fail
  go_ret
  exact⟨false,rfl,⟨fun h=>(by cases h),fun h=>absurd h NO.out⟩,zC⟩
 have JT:j=n:=by have:=HJ.out;omega
 have HE:Hid (UnlP l):=by have h:=HF.out.2;rw[JT,HN.out.1,List.take_length]at h;exact h
 exact jdA
def SoundIsR (sP:Mb→Bool) (H:Snap):Prop:=∀ (K:Snap),H.le K→∀ (m:Mb) (a:MAd) (w:World),MemA K m a→Holds w K→Calls Tryz.prog 32 #[.agg (y7 m a)] w fun e w'=>e=.returned (.bool (sP m))∧Below w.heap.size w w'
theorem SoundIsR.mono {sP:Mb→Bool}{H K:Snap}(h:SoundIsR sP H) (hl:H.le K):SoundIsR sP K:=fun L hk=>h L (hl.trans hk)
theorem rL {sP:Mb→Bool}{H:Snap}(hS:SoundIsR sP H) {g:Gp}{a:EAd}(hg:GpA H g a) (w:World) (hH:Holds w H) :
  Calls Tryz.prog 12 #[.agg (gpQ g a)] w (wk sP w g):=by
 obtain⟨il,tL⟩:∃ n,n=g.id.length:=⟨_,rfl⟩
 obtain⟨sl,sJ⟩:∃ n,n=g.secret.length:=⟨_,rfl⟩
 obtain⟨ml,tP⟩:∃ n,n=g.members.length:=⟨_,rfl⟩
 have HN:=jf2;have HG:=Hh hg;have HH:=Hh hH;have HS:=Hh (hS H (Snap.le.refl H));show Calls Tryz.prog 12 #[.agg (gpC a.ia g.id.length a.ic a.sa g.secret.length a.sc g.number a.ma g.members.length a.mc)] w (wk sP w g)
 rw[← tL,← sJ,← tP];obtain⟨hB,hb,BD⟩:=jgB;have BAD:Hid (∀ wx,Below w.heap.size w wx→¬ ValidG sP g→wk sP w g (.returned (.bool false)) wx):=fun wx h hn=>⟨false,rfl,⟨fun h=>(by cases h),fun h=>absurd h hn⟩,h⟩
 obtain⟨g0,g1,g2,g3⟩:=jg2;clear tL sJ tP hg hH hS;go_enter Tryz.func12,Tryz.ntmps12
 by_cases c0:(il:Int)<1
 ·exact jfm
 by_cases c1:(8:Int)<(il:Int)
 ·exact jfn
 by_cases c2:(sl:Int)=32
 case neg =>
  exact jez
 obtain⟨e1,e2,e3⟩:=zK c2;have c2':=Hh c2;clear c2
 by_cases c3:g.number<0
 ·exact jfu
 by_cases c4:(65535:Int)<g.number
 ·exact jfv
 by_cases c5:(16:Int)<(ml:Int)
 ·exact jfl
 have AP:=Hh (fun wx hx=>cH (n:=ml) HG.out.members HN.out.2.2 HG.out.small.2.2 wx hx);exact jab
theorem eqS {H:Snap}(w:World) (hH:Holds w H) {A B:Option Addr}{n m c d:Nat}{l:List UInt8}(hn:n=l.length) (hm:m=l.length) (hl:l.length≤1099511627) (ha:IsBytes H A c l) (hb:IsBytes H B d l) :
  Calls Tryz.prog 16 #[.slice A n c,.slice B m d] w fun e w'=>e=.returned (.bool true)∧Below w.heap.size w w':=by
 have h:=ju w A B l l n m c d hn hm (by omega) (by omega) (Src.of_row ha.row hH) (Src.of_row hb.row hH);rw[decide_eq_true (rfl:l=l)]at h
 exact h
theorem li {H:Snap}{A B:Option Addr}{c d:Nat}{l:List Mb}(hA:IsRow vQ H A c l) (hB:IsRow vQ H B d l) {n:Nat}(hn:n=l.length) (hl:l.length≤1099511) (w:World) (hH:Holds w H) :
  Calls Tryz.prog 41 #[.slice A n c,.slice B n d] w fun e w'=>e=.returned (.bool true)∧Below w.heap.size w w':=by
 have HN:=jhH;have HA:=Hh hA;have HB:=Hh hB;have HH:=Hh hH;have xR:=jg0;obtain⟨e1,e2,e3⟩:=zK (rfl:(n:Int)=(n:Int));clear hn hl hA hB hH;go_enter Tryz.func41,Tryz.ntmps41
 go_wp2_with fail
 clear e1 e2 e3;go_loopw [15] (fun v15 wr=>∃ j:Nat,v15=.int .i64 (j:Int)∧Hid (j≤n)∧Below w.heap.size w wr) (fun v15 _=>(n:Int).toNat+1-(intOf v15).toNat)
 case atStart=>exact⟨0,rfl,Nat.zero_le _,xR⟩
 case round =>
 clear xR;obtain⟨j,rfl,HJ,hb⟩:=hrel
 by_cases zB:(j:Int)<(n:Int)
 ·have uU:j<l.length:=by rw[← HN.out.1];omega
  obtain⟨gb,go,sG,uF⟩:=HA.out.at_ (by omega);obtain⟨x,hx,hc⟩:=uF j uU;obtain⟨ma,hx,th⟩:=hx;subst hx;obtain⟨gb2,go2,OO,Kv⟩:=HB.out.at_ (by omega);obtain⟨x,hx,dD⟩:=Kv j uU;obtain⟨mb,hx,eB⟩:=hx;subst hx
  generalize l[j]=m at *
  have qS:=Hh th;have Iu:=Hh eB;obtain⟨sn,oN⟩:∃ k,m.sender.length=k:=⟨_,rfl⟩
  obtain⟨cn,NC⟩:∃ k,m.cred.length=k:=⟨_,rfl⟩
  obtain⟨rY,dG⟩:∃ k,m.share.length=k:=⟨_,rfl⟩
  obtain⟨wn,In⟩:∃ k,m.wrap.length=k:=⟨_,rfl⟩
  have eo:=Hh (And.intro oN (And.intro NC (And.intro dG In)));have yB:=jgD;obtain⟨r0,r1,r2,r3,r4,r5,r6⟩:=jfy
  simp only[vQ,Nat.add_zero,Nat.zero_add,← Nat.add_assoc]at r0 r1 r2 r3 r4 r5 r6
  rw[oN]at r1;rw[NC]at r3;rw[dG]at r4;rw[In]at r5;have hP:=Blk.new wr 27 (yW m.name m.roles m.since ma.sa sn ma.sc ma.ca cn ma.cc ma.ha rY ma.hc ma.wa wn ma.wc);have zC:=hb.alloc hb.size (.cells (yW m.name m.roles m.since ma.sa sn ma.sc ma.ca cn ma.cc ma.ha rY ma.hc ma.wa wn ma.wc) 27);obtain⟨P,uT⟩:∃ P,wr.heap.size=P:=⟨_,rfl⟩
  obtain⟨w2,sN⟩:∃ w2,wr.alloc (.cells (yW m.name m.roles m.since ma.sa sn ma.sc ma.ca cn ma.cc ma.ha rY ma.hc ma.wa wn ma.wc) 27)=w2:=⟨_,rfl⟩
  rw[uT,sN]at hP;rw[sN]at zC;have rp:=Hh (And.intro uT sN);have oH:(j:Int)+1≤9223372036854775807:=by have:=HN.out.2;omega
  have oa:=Hh zB;have gk:=Hh (And.intro sG OO);have jW:=Hh dD;clear uT sN uF Kv hc dD th eB uU yB hb oN NC dG In;rw[sG,OO];go_upto_region 6 with fail
  try rw[rp.out.1]
  try rw[rp.out.2]
  clear r0 r1 r2 r3 r4 r5 r6 sG OO rp;have yB:=HH.out.below zC (Nat.le_refl _);have r0:=yB.cell (jW.out 0 _ rfl);have r1:=yB.cell (jW.out 1 _ rfl);have r2:=yB.cell (jW.out 2 _ rfl);have r3:=yB.cell (jW.out 3 _ rfl);have r4:=yB.cell (jW.out 4 _ rfl);have r5:=yB.cell (jW.out 5 _ rfl);have r6:=yB.cell (jW.out 6 _ rfl)
  simp only[vQ,Nat.add_zero,Nat.zero_add,← Nat.add_assoc]at r0 r1 r2 r3 r4 r5 r6
  rw[eo.out.1]at r1;rw[eo.out.2.1]at r3;rw[eo.out.2.2.1]at r4;rw[eo.out.2.2.2]at r5;have hQ:=Blk.new w2 27 (yW m.name m.roles m.since mb.sa sn mb.sc mb.ca cn mb.cc mb.ha rY mb.hc mb.wa wn mb.wc);replace hP:=hP.alloc (.cells (yW m.name m.roles m.since mb.sa sn mb.sc mb.ca cn mb.cc mb.ha rY mb.hc mb.wa wn mb.wc) 27);have xy:=zC.alloc zC.size (.cells (yW m.name m.roles m.since mb.sa sn mb.sc mb.ca cn mb.cc mb.ha rY mb.hc mb.wa wn mb.wc) 27);obtain⟨Q,qg⟩:∃ Q,w2.heap.size=Q:=⟨_,rfl⟩
  obtain⟨w3,eF⟩:∃ w3,w2.alloc (.cells (yW m.name m.roles m.since mb.sa sn mb.sc mb.ca cn mb.cc mb.ha rY mb.hc mb.wa wn mb.wc) 27)=w3:=⟨_,rfl⟩
  rw[qg,eF]at hQ;rw[eF]at hP xy;have jX:=Hh (And.intro qg eF);clear qg eF yB zC;go_upto_region 7 with fail
  try rw[jX.out.1]
  try rw[jX.out.2]
  clear r0 r1 r2 r3 r4 r5 r6 jX;have E1:=Hh (fun wx hx=>eqS (H:=H) wx hx (n:=sn) (m:=sn) eo.out.1.symm eo.out.1.symm (by have:=qS.out.small;omega) qS.out.sender Iu.out.sender);have E2:=Hh (fun wx hx=>eqS (H:=H) wx hx (n:=cn) (m:=cn) eo.out.2.1.symm eo.out.2.1.symm (by have:=qS.out.small;omega) qS.out.cred Iu.out.cred);have E3:=Hh (fun wx hx=>eqS (H:=H) wx hx (n:=rY) (m:=rY) eo.out.2.2.1.symm eo.out.2.2.1.symm (by have:=qS.out.small;omega) qS.out.share Iu.out.share);have E4:=Hh (fun wx hx=>eqS (H:=H) wx hx (n:=wn) (m:=wn) eo.out.2.2.2.symm eo.out.2.2.2.symm (by have:=qS.out.small;omega) qS.out.wrap Iu.out.wrap);obtain⟨nm,iu⟩:∃ s,m.name=s:=⟨_,rfl⟩
  obtain⟨ro,FK⟩:∃ s,m.roles=s:=⟨_,rfl⟩
  obtain⟨si,PI⟩:∃ s,m.since=s:=⟨_,rfl⟩
  rw[iu,FK,PI]at hP hQ;clear iu FK PI;obtain⟨f1,f2,f3⟩:=uV (rfl:nm=nm);obtain⟨g1,g2,g3⟩:=zK (rfl:ro=ro);obtain⟨h1,h2,h3⟩:=zK (rfl:si=si);have p0:=hP.cell 0 rfl;have q0:=hQ.cell 0 rfl;have p1:=hP.cell 1 rfl;have q1:=jh2;go_wp2_with fail
  refine(E1.out _ (HH.out.below xy (Nat.le_refl _))).mono ?_
  rintro e w4 ⟨rfl,P6⟩
  replace hP:=hP.below P6;replace hQ:=hQ.below P6;replace xy:=xy.trans (P6.mono xy.size);clear P6 E1 p0 q0 p1 q1;have p2:=hP.cell 2 rfl;have q2:=hQ.cell 2 rfl;have p3:=hP.cell 3 rfl;have q3:=hQ.cell 3 rfl;go_wp2_with fail
  refine(E2.out _ (HH.out.below xy (Nat.le_refl _))).mono ?_
  rintro e w5 ⟨rfl,JQ⟩
  replace hP:=hP.below JQ;replace hQ:=hQ.below JQ;replace xy:=xy.trans (JQ.mono xy.size);clear JQ E2 p2 q2 p3 q3;have p4:=hP.cell 4 rfl;have q4:=hQ.cell 4 rfl;go_wp2_with fail
  refine(E3.out _ (HH.out.below xy (Nat.le_refl _))).mono ?_
  rintro e w6 ⟨rfl,Pp⟩
  replace hP:=hP.below Pp;replace hQ:=hQ.below Pp;replace xy:=xy.trans (Pp.mono xy.size);clear Pp E3 p4 q4;have p5:=hP.cell 5 rfl;have q5:=hQ.cell 5 rfl;go_wp2_with fail
  refine(E4.out _ (HH.out.below xy (Nat.le_refl _))).mono ?_
  rintro e w7 ⟨rfl,JR⟩
  replace hP:=hP.below JR;replace hQ:=hQ.below JR;replace xy:=xy.trans (JR.mono xy.size);clear JR E4 p5 q5;have p6:=hP.cell 6 rfl;have q6:=hQ.cell 6 rfl;clear hP hQ;go_wp2_with fail
  go_roundw
  case rel=>exact⟨j+1,by go_num,(by have:=oa.out;exact(show j+1≤n by omega)),xy⟩
  case measure=>have:=oa.out;simp[intOf];omega
 go_wp2_with fail
 go_ret
 exact⟨rfl,hb⟩
theorem rZ {H:Snap}{g:Gp}{a b:EAd}(ha:GpA H g a) (hb:GpA H g b) (w:World) (hH:Holds w H) :
  Calls Tryz.prog 17 #[.agg (gpQ g a),.agg (gpQ g b)] w fun e w'=>e=.returned (.bool true)∧Below w.heap.size w w':=by
 obtain⟨il,tL⟩:∃ n,n=g.id.length:=⟨_,rfl⟩
 obtain⟨sl,sJ⟩:∃ n,n=g.secret.length:=⟨_,rfl⟩
 obtain⟨ml,tP⟩:∃ n,n=g.members.length:=⟨_,rfl⟩
 have HH:=Hh hH;have E1:=Hh (fun wx hx=>eqS (H:=H) wx hx (n:=il) (m:=il) tL tL (by have:=ha.small;omega) ha.id hb.id);have E2:=Hh (fun wx hx=>eqS (H:=H) wx hx (n:=sl) (m:=sl) sJ sJ (by have:=ha.small;omega) ha.secret hb.secret);have SM:=Hh (fun wx hx=>li (H:=H) ha.members hb.members (n:=ml) tP ha.small.2.2 wx hx);show Calls Tryz.prog 17 #[.agg (gpC a.ia g.id.length a.ic a.sa g.secret.length a.sc g.number a.ma g.members.length a.mc),.agg (gpC b.ia g.id.length b.ic b.sa g.secret.length b.sc g.number b.ma g.members.length b.mc)] w _
 rw[← tL,← sJ,← tP];have hA:=(Blk.new w 25 (gpC a.ia il a.ic a.sa sl a.sc g.number a.ma ml a.mc)).alloc (.cells (gpC b.ia il b.ic b.sa sl b.sc g.number b.ma ml b.mc) 25);have hB:=Blk.new (w.alloc (.cells (gpC a.ia il a.ic a.sa sl a.sc g.number a.ma ml a.mc) 25)) 25 (gpC b.ia il b.ic b.sa sl b.sc g.number b.ma ml b.mc);rw[zh]at hB;have hz:=((zm w (.cells (gpC a.ia il a.ic a.sa sl a.sc g.number a.ma ml a.mc) 25)).alloc (zm w (.cells (gpC a.ia il a.ic a.sa sl a.sc g.number a.ma ml a.mc) 25)).size (.cells (gpC b.ia il b.ic b.sa sl b.sc g.number b.ma ml b.mc) 25))
 obtain⟨num,rj⟩:∃ z,g.number=z:=⟨_,rfl⟩
 rw[rj]at hA hB hz⊢;obtain⟨g1,g2,g3⟩:=zK (rfl:num=num);clear tL sJ tP ha hb hH rj;go_enter Tryz.func17,Tryz.ntmps17
 go_upto_region 1 with fail
 generalize (w.alloc (.cells (gpC a.ia il a.ic a.sa sl a.sc num a.ma ml a.mc) 25)).alloc (.cells (gpC b.ia il b.ic b.sa sl b.sc num b.ma ml b.mc) 25)=w1 at hA hB hz⊢
 have a0:=hA.cell 0 rfl;have b0:=hB.cell 0 rfl;go_wp2_with fail
 refine(E1.out _ (HH.out.below hz (Nat.le_refl _))).mono ?_
 rintro e w2 ⟨rfl,h2⟩
 replace hA:=hA.below h2;replace hB:=hB.below h2;replace hz:=hz.trans (h2.mono hz.size);clear h2 a0 b0 E1;have a1:=hA.cell 1 rfl;have b1:=hB.cell 1 rfl;go_wp2_with fail
 refine(E2.out _ (HH.out.below hz (Nat.le_refl _))).mono ?_
 rintro e w3 ⟨rfl,h3⟩
 replace hA:=hA.below h3;replace hB:=hB.below h3;replace hz:=hz.trans (h3.mono hz.size);clear h3 a1 b1 E2;have a2:=hA.cell 2 rfl;have b2:=hB.cell 2 rfl;have a3:=hA.cell 3 rfl;have b3:=hB.cell 3 rfl;clear hA hB;go_wp2_with fail
 refine(SM.out _ (HH.out.below hz (Nat.le_refl _))).mono ?_
 rintro e w4 ⟨rfl,h4⟩
 replace hz:=hz.trans (h4.mono hz.size);clear h4 SM a2 b2 a3 b3;go_wp2_with fail
 go_ret
 exact⟨rfl,hz⟩
theorem Grows.snapM {w w':World}{H H' H'':Snap}{g:Nat}(h:Grows w H w' H') (hl:H'.le H'') (hh:Holds w' H'') (hf:∀ b o,H'' b=some o→H' b=some o∨b=g) (hg:w.heap.size≤g):Grows w H w' H'' :=
 ⟨h.below,h.le.trans hl,hh,fun b o hb=>by
  rcases hf b o hb with h1 | h1
  ·exact h.fresh b o h1
  exact .inr (by omega)⟩
theorem qr {α:Type}{L:Lie α}{w wr:World}{H Hr:Snap}{cs:List Value}{l:List α}(hG:Grows w H wr Hr) (hc:RowC L Hr cs l) (t:TypeId) (hm:l.length≤4096) :
  ∃ H',Grows w H (wr.alloc (.cells cs.toArray t)) H'∧Hr.le H'∧IsRow L H' (some ⟨wr.heap.size,0,none⟩) l.length l:=by
 have hO:OwnX L t (wr.alloc (.cells cs.toArray t)) wr.heap.size (.slice (some ⟨wr.heap.size,0,none⟩) l.length l.length) Hr l :=
  ⟨cs,hc,hc.len,.inr ⟨wr.heap.size,l.length,cs.toArray,rfl,Nat.le_refl _,heap_alloc_new wr _,Nat.le_refl _,by simp only[maxLen];omega,by simp[hc.len],by rw[← hc.len];simp⟩⟩
 have EY:=hG.alloc (.cells cs.toArray t);obtain⟨H',hl,hh,hf,_,hr⟩:=hO.snap EY.holds (fun q hq=>by cases hq;exact hG.holds.none_of_ge (Nat.le_refl _))
 exact⟨H',EY.snapM (g:=wr.heap.size) hl hh (fun b o hb=>by
  rcases hf b o hb with h1 | h1
  ·exact .inl h1
  exact .inr (by injection h1 with h1;exact h1.symm)) hG.below.size,hl,hr⟩
theorem Xz (A:Option Addr) (n c:Nat) (w:World) :
  Calls Tryz.prog 26 #[.slice A n c] w fun e w'=>(∃ b:Bool,e=.returned (.bool b)∧(b=true→n≤900))∧w'=w:=by
 have E:Hid (decide ((n:Int)≤900)=decide (n≤900)):=by rw[Hid,Bool.eq_iff_iff,decide_eq_true_eq,decide_eq_true_eq];omega
 go_enter Tryz.func26,Tryz.ntmps26
 go_wp2_with fail
 go_ret
 exact⟨⟨decide ((n:Int)≤900),rfl,by intro h;rw[E.out]at h;simpa using h⟩,rfl⟩
def Q5 (l:List (List UInt8)) (e:Ending):Prop:=∃ b,e=.returned (.bool b)∧(b=true→∀ x∈l,x.length≤900)
theorem gD {H:Snap}(w:World) (hH:Holds w H) {A:Option Addr}{n c:Nat}{l:List (List UInt8)}(hn:n=l.length) (hr:IsRow kE H A c l) :
  Calls Tryz.prog 6 #[.slice A n c] w fun e w'=>Q5 l e∧w'=w:=by
 have HR:=Hh hr;have HH:=Hh hH;have HN:=Hh hn;have SM:=Hh (fun(A:Option Addr) (n c:Nat) (w:World)=>Xz A n c w);clear hr hH hn;go_enter Tryz.func6,Tryz.ntmps6
 go_wp2_with fail
 go_loopw [7] (fun v7 wr=>∃ k:Nat,k≤n∧v7=.int .i64 (k:Int)∧Hid (∀ i (h:i<l.length),i<k→l[i].length≤900)∧wr=w) (fun v7 _=>n-(intOf v7).toNat)
 case atStart=>exact⟨0,Nat.zero_le _,rfl,(fun i h h0=>absurd h0 (by omega)),rfl⟩
 case round =>
 obtain⟨k,hk,rfl,HF,rfl⟩:=hrel;have HKK:=Hh hk;clear hk
 by_cases tF:k<n
 ·have iP:(k:Int)<(n:Int):=by omega
  obtain⟨b,off,rfl,uF⟩:=HR.out.at_ (by have:=HN.out;omega);obtain⟨d,hd,hc⟩:=uF k (by have:=HN.out;omega);obtain⟨YA,yc,rfl,Fa⟩:=hd;obtain⟨x,hx⟩:∃ x,l[k]'(by have:=HN.out;omega)=x:=⟨_,rfl⟩
  rw[hx]at hc Fa;have BK:Hid (∀ h:k<l.length,l[k]=x):=fun _=>hx
  have q0:=HH.out.cell (hc 0 _ rfl);rw[show off+(k*kE.k+0)=off+k from by show off+(k*1+0)=_;omega]at q0;have HK:=Hh tF;have Pw:(n:Int)≤(c:Int):=by have:=HR.out.le;have:=HN.out;omega
  have Ae:(k:Int)+1≤9223372036854775807:=by have h1:=HR.out.le;have h2:=HR.out.max;have:=HN.out;omega
  clear tF uF hc hx Fa;go_wp2_with fail
  refine(SM.out _ _ _ _).mono ?_
  rintro e w4 ⟨⟨b',rfl,mT⟩,rfl⟩
  have eo:=Hh mT;clear mT
  cases b' with
  | false =>
   go_wp2_with fail
   go_ret
   exact⟨⟨false,rfl,fun h=>by cases h⟩,rfl⟩
  | true =>
  go_wp2_with fail
  go_roundw
  case rel=>exact⟨k+1,HK.out,by go_num,(fun i h h1=>by
   by_cases hik:i=k
   ·subst hik;rw[BK.out h]
    exact eo.out (by trivial)
   exact HF.out i h (by omega)),by trivial⟩
  case measure=>have:=HK.out;simp[intOf];omega
 have Up:¬ ((k:Int)<(n:Int)):=by omega
 have Af:decide ((k:Int)<(n:Int))=false:=decide_eq_false Up;clear tF;go_wp2_with fail
 go_ret
 exact⟨⟨_,rfl,fun _ y hy=>by
  obtain⟨i,hi,rfl⟩:=List.getElem_of_mem hy
  exact HF.out i hi (by have:=HN.out;omega)⟩,rfl⟩
structure MemB (H:Snap) (m:Mb) (a:MAd):Prop where
 sender:IsBytes H a.sa a.sc m.sender
 cred:IsBytes H a.ca a.cc m.cred
 share:IsBytes H a.ha a.hc m.share
 wrap:IsBytes H a.wa a.wc m.wrap
theorem MemB.mono {H K:Snap}{m:Mb}{a:MAd}(h:MemB H m a) (hl:H.le K):MemB K m a:=⟨h.sender.mono hl,h.cred.mono hl,h.share.mono hl,h.wrap.mono hl⟩
def qu:Lie Mb where
 k:=7
 pos:=by omega
 E:=fun H m c=>∃ a,c=(y7 m a).toList∧MemB H m a
 len:=by rintro _ _ _ ⟨_,rfl,_⟩;rfl
 one:=by rintro _ _ _ ⟨_,rfl,_⟩;simp[Value.oneCell']
 mono:=by rintro H K x c hl ⟨a,e,h⟩;exact⟨a,e,h.mono hl⟩
structure SmallMb (m:Mb):Prop where
 sender:m.sender.length≤900
 cred:m.cred.length≤900
 share:m.share.length≤900
 wrap:m.wrap.length≤900
 name:m.name.size≤300
theorem MemB.small {H:Snap}{m:Mb}{a:MAd}(h:MemB H m a) (s:SmallMb m):MemA H m a :=
 ⟨by have:=s.name;omega,h.sender,h.cred,h.share,h.wrap,by have:=s.sender;omega,by have:=s.cred;omega,by have:=s.share;omega,by have:=s.wrap;omega⟩
theorem fj {H:Snap}:∀ {l:List Mb}{cs:List Value},RowC qu H cs l→(∀ m∈l,SmallMb m)→RowC vQ H cs l
 | [],cs,h,_=>by
  have:=h.len;rw[List.length_nil,Nat.zero_mul]at this;rw[List.length_eq_zero_iff.1 this]
  exact RowC.nil _ _
 | x::l,cs,h,hs=>by
  obtain⟨c,ds,rfl,⟨a,hc,hx⟩,hr⟩:=h
  exact⟨c,ds,rfl,⟨a,hc,hx.small (hs x (List.mem_cons_self ..))⟩,fj hr fun m hm=>hs m (List.mem_cons_of_mem _ hm)⟩
theorem Vn {H:Snap}{A:Option Addr}{c:Nat}{l:List Mb}(h:IsRow qu H A c l) (hs:∀ m∈l,SmallMb m):IsRow vQ H A c l :=
 ⟨h.le,h.max,fun h0=>by obtain⟨b,off,cs,e,h1,h2⟩:=h.row h0;exact⟨b,off,cs,e,fj h1 hs,h2⟩⟩
structure GpB (H:Snap) (g:Gp) (a:EAd):Prop where
 id:IsBytes H a.ia a.ic g.id
 secret:IsBytes H a.sa a.sc g.secret
 number : -9223372036854775808≤g.number∧g.number≤9223372036854775807
 members:IsRow qu H a.ma a.mc g.members
structure SmallGp (g:Gp):Prop where
 id:g.id.length≤900
 secret:g.secret.length≤900
 few:g.members.length≤20
 members:∀ m∈g.members,SmallMb m
theorem GpB.small {H:Snap}{g:Gp}{a:EAd}(h:GpB H g a) (s:SmallGp g):GpA H g a :=
 ⟨h.id,h.secret,h.number,Vn h.members s.members,by have:=s.id;omega,by have:=s.secret;omega,by have:=s.few;omega⟩
def XO (l:List Mb) (e:Ending):Prop:=∃ b,e=.returned (.bool b)∧(b=true→l.length≤20∧∀ m∈l,SmallMb m)
def a7 (g:Gp) (e:Ending):Prop:=∃ b,e=.returned (.bool b)∧(b=true→SmallGp g)
theorem mX {H:Snap}{A:Option Addr}{c:Nat}{l:List Mb}(hr:IsRow qu H A c l) {n:Nat}(hn:n=l.length) (w:World) (hH:Holds w H) :
  Calls Tryz.prog 5 #[.slice A n c] w fun e w'=>XO l e∧Below w.heap.size w w':=by
 have HR:=Hh hr;have HH:=Hh hH;have HN:=Hh hn;have xR:=jg0;clear hr hH hn;go_enter Tryz.func5,Tryz.ntmps5
 go_wp2_with fail
 go_loopw [7] (fun v7 wr=>∃ k:Nat,v7=.int .i64 (k:Int)∧Hid (k≤n)∧Hid (∀ i (h:i<l.length),i<k→SmallMb l[i])∧Below w.heap.size w wr) (fun v7 _=>(n:Int).toNat+1-(intOf v7).toNat)
 case atStart=>exact⟨0,rfl,Nat.zero_le _,(fun i h h0=>absurd h0 (by omega)),xR⟩
 case round =>
 clear xR;obtain⟨j,rfl,HJ,HF,hb⟩:=hrel
 by_cases zB:(j:Int)<(n:Int)
 ·have uU:j<l.length:=by rw[← HN.out];omega
  obtain⟨gb,go,sG,uF⟩:=HR.out.at_ (by omega);obtain⟨d,hd,hc⟩:=uF j uU;obtain⟨ma,hd,th⟩:=hd;subst hd;obtain⟨m,hm⟩:∃ m,l[j]=m:=⟨_,rfl⟩
  rw[hm]at hc th;have HM:Hid (∀ h:j<l.length,l[j]=m):=fun _=>hm
  have yB:=jgD;obtain⟨r0,r1,r2,r3,r4,r5,r6⟩:=jfy
  simp only[qu,Nat.add_zero,Nat.zero_add,← Nat.add_assoc]at r0 r1 r2 r3 r4 r5 r6
  have qS:=Hh th;have hQ:=Blk.new wr 27 (y7 m ma);have zC:=jhr;obtain⟨Q,qg⟩:∃ Q,wr.heap.size=Q:=⟨_,rfl⟩
  obtain⟨w2,sN⟩:∃ w2,wr.alloc (.cells (y7 m ma) 27)=w2:=⟨_,rfl⟩
  rw[qg,sN]at hQ;rw[sN]at zC;have rp:=Hh (And.intro qg sN);have oH:IntKind.i64.wrap ((j:Int)+1)=(j:Int)+1:=IntWalk.i64_in _ (by have h1:=HR.out.le;have h2:=HR.out.max;have:=HN.out;omega);obtain⟨wT,gk⟩:=jhF;clear qg sN uF hc th uU yB hm hb;rw[sG];go_upto_region 4 with fail
  try rw[rp.out.1]
  try rw[rp.out.2]
  clear r0 r1 r2 r3 r4 r5 r6 sG rp
  obtain⟨H2,zM,lT,Uu⟩:=qr (L:=kE) (l:=[m.sender,m.cred,m.share,m.wrap]) (Grows.of_below HH.out zC) (cs:=[.slice ma.sa m.sender.length ma.sc,.slice ma.ca m.cred.length ma.cc,.slice ma.ha m.share.length ma.hc,.slice ma.wa m.wrap.length ma.wc])
   ((RowC.one (L:=kE) (c:=[.slice ma.sa m.sender.length ma.sc]) ⟨_,_,rfl,qS.out.sender⟩).app ((RowC.one (L:=kE) (c:=[.slice ma.ca m.cred.length ma.cc]) ⟨_,_,rfl,qS.out.cred⟩).app ((RowC.one (L:=kE) (c:=[.slice ma.ha m.share.length ma.hc]) ⟨_,_,rfl,qS.out.share⟩).app (RowC.one (L:=kE) (c:=[.slice ma.wa m.wrap.length ma.wc]) ⟨_,_,rfl,qS.out.wrap⟩)))) 22 (by simp)
  have q1:=jh2;have q3:=hQ.cell 3 rfl;have q4:=hQ.cell 4 rfl;have q5:=hQ.cell 5 rfl;have AL:=Hh (gD _ zM.holds (n:=4) rfl Uu);have xy:=zC.alloc zC.size (.cells #[.slice ma.sa m.sender.length ma.sc,.slice ma.ca m.cred.length ma.cc,.slice ma.ha m.share.length ma.hc,.slice ma.wa m.wrap.length ma.wc] 22);replace hQ:=hQ.alloc (.cells #[.slice ma.sa m.sender.length ma.sc,.slice ma.ca m.cred.length ma.cc,.slice ma.ha m.share.length ma.hc,.slice ma.wa m.wrap.length ma.wc] 22);clear Uu lT zM;go_wp2_with fail
  refine AL.out.mono ?_
  rintro e w4 ⟨⟨bb,rfl,tX⟩,rfl⟩
  have mz:=Hh tX;clear tX AL q1 q3 q4 q5 zC
  cases bb with
  | false =>
   clear hQ;exact jdG
  | true =>
  simp only[Bool.not_true]
  have q0:=hQ.cell 0 rfl;clear hQ
  by_cases iu:(300:Int)<(m.name.size:Int)
  ·exact jdG
  have Z4:Hid (∀ i (h:i<l.length),i<j+1→SmallMb l[i]):=fun i h h1=>by
   by_cases e:i=j
   ·subst e;rw[HM.out h];have A:=mz.out rfl
    exact⟨A _ (by simp),A _ (by simp),A _ (by simp),A _ (by simp),by omega⟩
   exact HF.out i h (by omega)
  go_wp2_with fail
  go_roundw
  case rel=>exact⟨j+1,by go_num,(by have:=wT.out.2;exact(show j+1≤n by omega)),Z4,xy⟩
  case measure=>have:=wT.out.2;simp[intOf];omega
 have HE:Hid (∀ m∈l,SmallMb m):=fun m hm=>by
  obtain⟨i,hi,rfl⟩:=List.getElem_of_mem hm
  exact HF.out i hi (by have:=HN.out;have:=HJ.out;omega)
 have hd:Hid (decide ((n:Int)≤20)=decide (n≤20)):=by rw[Hid,decide_eq_decide];omega
 go_wp2_with fail
 go_ret
 exact⟨⟨_,rfl,fun h=>⟨by have h2:=HN.out;simp at h;omega,HE.out⟩⟩,hb⟩
theorem ZT {H:Snap}{g:Gp}{a:EAd}(hg:GpB H g a) (w:World) (hH:Holds w H) :
  Calls Tryz.prog 4 #[.agg (gpQ g a)] w fun e w'=>a7 g e∧Below w.heap.size w w':=by
 have HG:=Hh hg;have HH:=Hh hH;have hB:=Blk.new w 25 (gpQ g a);have hb:=zm w (.cells (gpQ g a) 25);have g0:=hB.cell 0 rfl;have g1:=hB.cell 1 rfl;obtain⟨w1,oS⟩:∃ w1,w.alloc (.cells (gpQ g a) 25)=w1:=⟨_,rfl⟩
 rw[oS]at hB hb g0 g1;clear hg hH;go_enter Tryz.func4,Tryz.ntmps4
 go_upto_region 1 with fail
 try rw[oS]
 clear oS
 obtain⟨H2,zM,lT,Uu⟩:=qr (L:=kE) (l:=[g.id,g.secret]) (Grows.of_below HH.out hb) (cs:=[.slice a.ia g.id.length a.ic,.slice a.sa g.secret.length a.sc])
  ((RowC.one (L:=kE) (c:=[.slice a.ia g.id.length a.ic]) ⟨_,_,rfl,HG.out.id⟩).app (RowC.one (L:=kE) (c:=[.slice a.sa g.secret.length a.sc]) ⟨_,_,rfl,HG.out.secret⟩)) 22 (by simp)
 have AL:=Hh (gD _ zM.holds (n:=2) rfl Uu);have zC:=hb.alloc hb.size (.cells #[.slice a.ia g.id.length a.ic,.slice a.sa g.secret.length a.sc] 22);replace hB:=hB.alloc (.cells #[.slice a.ia g.id.length a.ic,.slice a.sa g.secret.length a.sc] 22);clear Uu lT zM;go_wp2_with fail
 refine AL.out.mono ?_
 rintro e w4 ⟨⟨bb,rfl,tX⟩,rfl⟩
 have mz:=Hh tX;clear tX AL g0 g1 hb
 cases bb with
 | false =>
  clear hB;go_wp2_with fail
  go_ret
  exact⟨⟨false,rfl,fun h=>by cases h⟩,zC⟩
 | true =>
 have g3:=hB.cell 3 rfl;have MB:=Hh (mX HG.out.members rfl _ (HH.out.below zC (Nat.le_refl _)));clear hB;go_wp2_with fail
 refine MB.out.mono ?_
 rintro e w5 ⟨⟨bb,rfl,Re⟩,qe⟩
 have Oj:=Hh Re;have yg:=zC.trans (qe.mono zC.size);clear Re qe MB g3 zC;go_wp2_with fail
 go_ret
 exact⟨⟨bb,rfl,fun h=>by
  have A:=mz.out (by trivial);have B:=Oj.out h
  exact⟨A _ (by simp),A _ (by simp),B.1,B.2⟩⟩,yg⟩
end Go.Proofs.YtgaoknihklmakabGreatDoor
