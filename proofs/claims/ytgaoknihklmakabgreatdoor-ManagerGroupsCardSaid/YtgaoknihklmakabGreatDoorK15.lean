/- squeezed. Walks: a copy of a group, by the p -/
import Derived.Test.YtgaoknihklmakabGreatDoorK14
set_option linter.unusedVariables false
set_option linter.unusedSimpArgs false
set_option maxRecDepth 100000
set_option maxHeartbeats 12800000
namespace Go.Proofs.YtgaoknihklmakabGreatDoor
open Go.RowKit
theorem ja6{P:Prop}(h:P:=by
 subst hm;obtain⟨xs,bg,xA⟩:=xA;obtain⟨i0,uZ,bh,qV,q9⟩:=info_parts hinfo
 refine uu s x _ ho base t i0 _ L.k bytes hT uZ bh qV q9 hzs L.pos v l.length xs hs xA A news.length c cs hx hn.len hr hn.oneCell
  (by simp only[maxLen];omega) (by have:=Nat.mul_le_mul xF kI;omega) uM fun v' w' h2 h3 h4=>h v' w' ?_ h3 ?_
 ·exact⟨xs++cs,bg.app hn,by simpa using h2⟩
 exact je1):P:=h
theorem jbB{P:Prop}(h:P:=by exact⟨gq.var.cell 3 rfl,hQ.cell 0 rfl,hQ.cell 1 rfl,hQ.cell 2 rfl,hQ.cell 3 rfl,hQ.cell 4 rfl,hQ.cell 5 rfl,hQ.cell 6 rfl⟩):P:=h
theorem jb0{P:Prop}(h:P:=by exact h.apart g (by rw[← e,hv])):P:=h
theorem jb7{P:Prop}(h:P:=by exact⟨hS.box.cell 0 rfl,hS.box.cell 1 rfl,hS.box.cell 2 rfl⟩):P:=h
theorem jfK{P:Prop}(h:P:=by have hB:=(Blk.new w 25 (gpC a.ia il a.ic a.sa sl a.sc g.number a.ma ml a.mc)).alloc (.cells yf 25);have hT:=Blk.new (w.alloc (.cells (gpC a.ia il a.ic a.sa sl a.sc g.number a.ma ml a.mc) 25)) 25 yf;exact And.intro hB hT):P:=h
theorem rH:(Tryz.prog.info? 27).map (fun i=>(i.zero,i.size,i.bytes))=some (some (.agg gV),7,128):=by kernel_rfl
theorem OwnX.append_wpM {α:Type}{L:Lie α}{t:TypeId}{w:World}{base:Nat}{v:Value}{H:Snap}{l:List α}{o:Oper}{a:Act}{K:Act→World→Prop}{Q:Exit→Act→World→Prop}(s x:Operand) (T:TypeId)
  (ho:o.op=.call { callee:=.builtin .append,args:=#[s,x],argTypes:=#[T,T] }) (hT:Tryz.prog.underlying T=some (.slice t)) {z:Value} {bytes:Nat} (hzs:z.cells.size=L.k) (kI:bytes≤128)
  (hinfo:(Tryz.prog.info? t).map (fun i=>(i.zero,i.size,i.bytes))=some (some z,L.k,bytes))
  (hs:a.eval s=v) (xA:OwnX L t w base v H l) (A:Option Addr) (m c:Nat) (cs:List Value) (news:List α) (hx:a.eval x=.slice A m c) (hm:m=news.length)
  (hn:RowC L H cs news) (hr:Src w A cs) (xF:l.length+news.length≤1099511627776) (uM:base≤w.heap.size)
  (h:∀ v' w',OwnX L t w' base v' H (l++news)→w.grownBy w' v.ownBlock→At0 w v.ownBlock v'.ownBlock→K (a.put o.dst v') w') :
  Oper.wp Tryz.prog o a w K Q:=by
 exact ja6
theorem yG (a b c d:Value) (ha:a.oneCell'=true) (hb:b.oneCell'=true) (hc:c.oneCell'=true) (hd:d.oneCell'=true):(#[a,b,c,d]:Array Value).all (·.oneCell')=true:=by simp[ha,hb,hc,hd]
theorem Blk.srcM {w:World}{g:Nat}{t:TypeId}{cs:Array Value}(h:Blk w g t cs):Src w (some ⟨g,0,none⟩) cs.toList:=fun _=>⟨g,0,rfl,fun j v hj=>by rw[Nat.zero_add];exact h.cell j (by simpa using hj)⟩
structure GcS (W0:World) (H:Snap) (bc:Array Value) (w:World) (Hr:Snap):Prop where
 grows:Grows W0 H w Hr
 box:Blk w W0.heap.size 25 bc
 res:Blk w (W0.heap.size+1) 25 yf
 hT:Hr (W0.heap.size+1)=none
section
variable {W0 w w':World} {H Hr Hs:Snap} {bc pc pc':Array Value} {P Q:Nat} {v v':Value} {l l':List Mb}
theorem GcS.grow (h:GcS W0 H bc w Hr) (k:Grows w Hr w' Hs):GcS W0 H bc w' Hs:=⟨h.grows.trans k,h.box.below k.below,h.res.below k.below,k.none h.hT h.res.lt⟩
theorem GcS.alloc (h:GcS W0 H bc w Hr) (o:Obj):GcS W0 H bc (w.alloc o) Hr:=h.grow ((Grows.refl h.grows.holds).alloc o)
theorem GcS.drew (h:GcS W0 H bc w Hr):GcS W0 H bc w.drew Hr:=h.grow ((Grows.refl h.grows.holds).drew)
theorem GcS.set (h:GcS W0 H bc w Hr) (hQ:W0.heap.size+2≤Q) (hn:Hr Q=none) (hg:w.grownBy w' (some Q)):GcS W0 H bc w' Hr :=
 ⟨h.grows.grownOwn hn (by omega) hg,h.box.gr hg (by omega),h.res.gr hg (by omega),h.hT⟩
structure KS (W0:World) (H:Snap) (bc pc:Array Value) (P:Nat) (v:Value) (l:List Mb) (w:World) (Hr:Snap):Prop where
 base:GcS W0 H bc w Hr
 var:Blk w P 25 pc
 far:W0.heap.size+2≤P
 hP:Hr P=none
 own:OwnX vQ 27 w (P+1) v Hr l
 apart:∀ g,v.ownBlock=some g→Hr g=none
theorem KS.grow (h:KS W0 H bc pc P v l w Hr) (k:Grows w Hr w' Hs):KS W0 H bc pc P v l w' Hs :=
 ⟨h.base.grow k,h.var.below k.below,h.far,k.none h.hP h.var.lt,(h.own.below k.below).mono k.le,fun g hg=>k.none (h.apart g hg) (h.own.lt g hg).2⟩
theorem KS.alloc (h:KS W0 H bc pc P v l w Hr) (o:Obj):KS W0 H bc pc P v l (w.alloc o) Hr:=h.grow ((Grows.refl h.base.grows.holds).alloc o)
theorem KS.drew (h:KS W0 H bc pc P v l w Hr):KS W0 H bc pc P v l w.drew Hr:=h.grow ((Grows.refl h.base.grows.holds).drew)
theorem KS.app (h:KS W0 H bc pc P v l w Hr) (hO:OwnX vQ 27 w' (P+1) v' Hr l') (hg:w.grownBy w' v.ownBlock) (ha:At0 w v.ownBlock v'.ownBlock):KS W0 H bc pc P v' l' w' Hr :=
 ⟨⟨h.base.grows.grownRow h.apart (fun g hg=>by have:=(h.own.lt g hg).1;have:=h.far;omega) hg,h.base.box.grown hg (fun e=>by have:=(h.own.lt _ e).1;have:=h.far;omega),h.base.res.grown hg (fun e=>by have:=(h.own.lt _ e).1;have:=h.far;omega),h.base.hT⟩,h.var.grown hg (fun e=>by have:=(h.own.lt _ e).1;omega),h.far,h.hP,hO,fun g hv=>by
  rcases ha with e | ⟨g',e,hs⟩
  ·exact jb0
  rw[hv]at e;injection e with e
  subst e
  exact h.base.grows.hidden hs⟩
theorem KS.set (h:KS W0 H bc pc P v l w Hr) (hB:Blk w' P 25 pc') (hg:w.grownBy w' (some P)):KS W0 H bc pc' P v l w' Hr :=
 ⟨h.base.set h.far h.hP hg,hB,h.far,h.hP,h.own.kept hg (by
  cases hv:v.ownBlock with
  | none=>exact .inl rfl
  | some g=>exact .inr (by intro e;injection e with e;have:=(h.own.lt g hv).1;omega)),h.apart⟩
theorem KS.up (h:KS W0 H bc pc P v l w Hr):P+1≤w.heap.size:=h.var.lt
end
def KEx (W0:World) (H:Snap) (bc:Array Value) (pc:Value→Array Value) (P:Nat) (l:List Mb) (H1:Snap) (w:World):Prop:=∃ v Hr,KS W0 H bc (pc v) P v l w Hr∧H1.le Hr
def gP (w:World) (H:Snap) (g:Gp) (e:Ending) (w':World):Prop:=∃ A c B d v Hr,e=.returned (.agg #[.slice A g.id.length c,.slice B g.secret.length d,.int .i64 g.number,v])∧Grows w H w' Hr∧IsBytes Hr A c g.id∧IsBytes Hr B d g.secret∧OwnX vQ 27 w' w.heap.size v Hr g.members∧(∀ q,v.ownBlock=some q→Hr q=none)
theorem qj {H:Snap}{g:Gp}{a:EAd}(hg:GpA H g a) (w:World) (hH:Holds w H) :
  Calls Tryz.prog 35 #[.agg (gpQ g a)] w (gP w H g):=by
 obtain⟨il,tL⟩:∃ n,n=g.id.length:=⟨_,rfl⟩
 obtain⟨sl,sJ⟩:∃ n,n=g.secret.length:=⟨_,rfl⟩
 obtain⟨ml,tP⟩:∃ n,n=g.members.length:=⟨_,rfl⟩
 have HN:=jf2;have HG:=Hh hg;have HH:=Hh hH;show Calls Tryz.prog 35 #[.agg (gpC a.ia g.id.length a.ic a.sa g.secret.length a.sc g.number a.ma g.members.length a.mc)] w (gP w H g)
 rw[← tL,← sJ,← tP];obtain⟨hB,hT⟩:=jfK;rw[zh]at hT;have hS:GcS w H (gpC a.ia il a.ic a.sa sl a.sc g.number a.ma ml a.mc) _ H:=⟨((Grows.refl hH).alloc (.cells (gpC a.ia il a.ic a.sa sl a.sc g.number a.ma ml a.mc) 25)).alloc (.cells yf 25),hB,hT,hH.none_of_ge (by omega)⟩
 clear tL sJ tP hg hH hB hT;go_enter Tryz.func35,Tryz.ntmps35
 go_upto_region 1 with fail
 go_cut [3] (fun s3 wx=>∃ (P:Nat) (A:Option Addr) (c:Nat) (B:Option Addr) (d:Nat) (H1:Snap),s3=.pointer (some ⟨P,0,none⟩)∧GcS w H (gpC a.ia il a.ic a.sa sl a.sc g.number a.ma ml a.mc) wx H1∧Blk wx P 25 #[.slice A il c,.slice B sl d,.int .i64 g.number,.slice none 0 0]∧IsBytes H1 A c g.id∧IsBytes H1 B d g.secret∧H1 P=none∧w.heap.size+2≤P)
 case first =>
  replace hS:=hS.drew;have xO:=hS.grows.le
  refine zj 11 (fun wx=>wx.cell? ⟨w.heap.size,0,none⟩=some (.slice a.ia il a.ic)∧wx.cell? ⟨w.heap.size,1,none⟩=some (.slice a.sa sl a.sc)∧wx.cell? ⟨w.heap.size,2,none⟩=some (.int .i64 g.number)) (by kernel_rfl) (⟨hS.box.cell 0 rfl,hS.box.cell 1 rfl,hS.box.cell 2 rfl⟩) (fun zy=>?_)
  repeat' first
   | (
    revert k2
    intro hK
    go_simp
    refine(vD (c:=a.ic) HN.out.1 (by have:=HG.out.small.1;omega) _ (Src.of_row (HG.out.id.mono hS.grows.le).row hS.grows.holds)).mono ?_
    rintro e w2 ⟨r2,rfl,iq⟩
    obtain⟨A2,c2,rfl,Ue⟩:=iq.own.form;obtain⟨H2,zM,sH,qf⟩:=Fresh.snapB hS.grows.holds iq;clear Ue qf iq;have hS:=hS.grow zM
    try have bS:=zM.none bS hP.lt
    try have hP:=hP.below zM.below
    have lT:=zM.le;rw[← HN.out.1]
    try have eA:=eA.mono lT
    clear zM
    refine Ko hK ?_ fun zy=>?_
    ·exact jb7
    clear hK K)
   | (
    revert k5
    intro hK
    go_simp
    refine(vD (c:=a.sc) HN.out.2.1 (by have:=HG.out.small.2.1;omega) _ (Src.of_row (HG.out.secret.mono hS.grows.le).row hS.grows.holds)).mono ?_
    rintro e w5 ⟨r5,rfl,ua⟩
    obtain⟨A5,c5,rfl,ML⟩:=ua.own.form;obtain⟨H5,xT,eA,Uh⟩:=Fresh.snapB hS.grows.holds ua;clear ML Uh ua;have hS:=hS.grow xT
    try have bS:=xT.none bS hP.lt
    try have hP:=hP.below xT.below
    have bZ:=xT.le;rw[← HN.out.2.1]
    try have sH:=sH.mono bZ
    clear xT
    refine Ko hK ?_ fun zy=>?_
    ·exact jb7
    clear hK K)
   | (
    revert k9
    intro hK
    go_simp
    have hP:=hS.grows.newBlk 25 yf;have bS:=hS.grows.holds.none_of_ge (Nat.le_refl _);have N0:w.heap.size+2≤_:=hS.res.lt;have hS:=hS.alloc (.cells yf 25)
    try simp only[ye,zh]at hP bS N0
    refine Ko hK ?_ fun zy=>?_
    ·exact jb7
    clear hK K)
   | (
    revert k10
    intro hK
    refine zD _ _ _ rfl _ _ rfl rfl _ _ hP zp rfl (yG _ _ _ _ rfl rfl rfl rfl) fun w10 hP10 hg10=>?_
    have hS:=hS.set N0 bS hg10;clear hg10;go_simp
    refine Ko hK ?_ fun zy=>?_
    ·exact jb7
    clear hK K)
   | simp only[Act.put,zz1,zz2,zz3,zz4,zz5,zz6]
   | refine TkS 0 rfl zy ?_ (hs:=by decide +kernel)
   | refine TkS 1 rfl zy ?_ (hs:=by decide +kernel)
   | refine TkS 3 rfl zy ?_ (hs:=by decide +kernel)
   | refine TkS 4 rfl zy ?_ (hs:=by decide +kernel)
   | refine TkS 6 rfl zy ?_ (hs:=by decide +kernel)
   | refine TkS 7 rfl zy ?_ (hs:=by decide +kernel)
   | refine TkS 8 rfl zy ?_ (hs:=by decide +kernel)
   | refine Ways.two (i:=2) (j:=9) rfl rfl (by decide +kernel) (fun K k2=>?_) (fun K k9=>?_)
   | refine Ways.two (i:=5) (j:=9) rfl rfl (by decide +kernel) (fun K k5=>?_) (fun K k9=>?_)
   | refine To 9 rfl (fun K k9=>?_) (by decide +kernel)
   | refine To 10 rfl (fun K k10=>?_) (by decide +kernel)
   | refine To 5 rfl (fun K k5=>?_) (by decide +kernel)
   | refine To 2 rfl (fun K k2=>?_) (by decide +kernel)
   | (
    refine Wd ?_ (by decide +kernel)
    clear zy;go_wp2_with fail
    go_meet
    exact⟨_,_,_,_,_,_,rfl,hS,hP10,sH,eA,bS,N0⟩)
 case rest =>
 clear hS;obtain⟨P,A,c,B,d,H1,rfl,hS,hP,sZ,sH,bS,N0⟩:=hcut;have HI:=Hh (And.intro sZ sH)
 have hX:KEx w H (gpC a.ia il a.ic a.sa sl a.sc g.number a.ma ml a.mc) (fun v=>#[.slice A il c,.slice B sl d,.int .i64 g.number,v]) P (g.members.take 0) H1 wc :=
  ⟨_,H1,⟨hS,hP,N0,bS,OwnX.nil _ _ _ _ _,fun g hg=>by cases hg⟩,Snap.le.refl H1⟩
 have g3:=hS.box.cell 3 rfl;clear sZ sH bS N0 hP hS;go_upto_region 2 with fail
 go_wp2_with fail
 clear g3;have Z6:Hid ((ml:Int)≤1099511):=by have h:=HG.out.small.2.2;have h2:=HN.out.2.2;rw[Hid];omega
 go_loopw [18] (fun v18 wr=>∃ j:Nat,v18=.int .i64 (j:Int)∧Hid (j≤ml)∧KEx w H (gpC a.ia il a.ic a.sa sl a.sc g.number a.ma ml a.mc) (fun v=>#[.slice A il c,.slice B sl d,.int .i64 g.number,v]) P (g.members.take j) H1 wr) (fun v18 _=>(ml:Int).toNat+1-(intOf v18).toNat)
 case atStart=>exact⟨0,rfl,Nat.zero_le _,hX⟩
 case round =>
 clear hX;obtain⟨j,rfl,HJ,v,Hr,hX,xO⟩:=hrel;have sk:=Hh xO;clear xO
 by_cases zB:(j:Int)<(ml:Int)
 ·have uU:j<g.members.length:=by rw[← HN.out.2.2];omega
  obtain⟨gb,go,sG,uF⟩:=HG.out.members.at_ (by omega);obtain⟨x,hd,hc⟩:=uF j uU;obtain⟨xa,hd,th⟩:=hd;subst hd;obtain⟨m,hm⟩:∃ m,g.members[j]=m:=⟨_,rfl⟩
  rw[hm]at hc th;have Ul:Hid (g.members.take j++[m]=g.members.take (j+1)):=by rw[Hid,← hm];exact(List.take_succ_eq_append_getElem uU).symm
  obtain⟨tk,NP⟩:∃ tk,g.members.take j=tk:=⟨_,rfl⟩
  rw[NP]at hX Ul;have Bf:Hid (tk.length=j):=by rw[Hid,← NP,List.length_take];omega
  clear NP;have yB:=HH.out.below hX.base.grows.below (Nat.le_refl _);obtain⟨r0,r1,r2,r3,r4,r5,r6⟩:=jfy
  simp only[vQ,Nat.add_zero,Nat.zero_add,← Nat.add_assoc]at r0 r1 r2 r3 r4 r5 r6
  have qS:=Hh (th.mono hX.base.grows.le);have hQ:=Blk.new wr 27 (y7 m xa);have gq:=hX.alloc (.cells (y7 m xa) 27);obtain⟨Q,qg⟩:∃ Q,wr.heap.size=Q:=⟨_,rfl⟩
  obtain⟨w6,my⟩:∃ w6,wr.alloc (.cells (y7 m xa) 27)=w6:=⟨_,rfl⟩
  rw[qg,my]at hQ;rw[my]at gq;have rp:=Hh (And.intro qg my);have Dv:Hid (∀ g,v.ownBlock=some g→g<Q):=fun g hg=>by rw[← qg];exact(hX.own.lt g hg).2
  have oH:(j:Int)+1≤9223372036854775807:=by have:=Z6.out;omega
  obtain⟨wT,gk⟩:=jhF;clear qg my uF hc th uU yB hX hm;rw[sG];go_upto_region 5 with fail
  try rw[rp.out.1]
  try rw[rp.out.2]
  clear r0 r1 r2 r3 r4 r5 r6 sG rp;obtain⟨VA,vc,rfl,vJ⟩:=gq.own.form;obtain⟨nv,NJ⟩:∃ nv,tk.length=nv:=⟨_,rfl⟩
  have Dp:=Hh NJ;rw[NJ]at gq vJ Dv;clear vJ NJ;replace gq:=gq.drew;replace hQ:=hQ.below (Below.refl _ _).drew
  refine zX 7 (fun wx=>wx.cell? ⟨P,3,none⟩=some (.slice VA nv vc)∧wx.cell? ⟨Q,0,none⟩=some (.string m.name)∧wx.cell? ⟨Q,1,none⟩=some (.slice xa.sa m.sender.length xa.sc)∧wx.cell? ⟨Q,2,none⟩=some (.int .i64 m.roles)∧wx.cell? ⟨Q,3,none⟩=some (.slice xa.ca m.cred.length xa.cc)∧wx.cell? ⟨Q,4,none⟩=some (.slice xa.ha m.share.length xa.hc)∧wx.cell? ⟨Q,5,none⟩=some (.slice xa.wa m.wrap.length xa.wc)∧wx.cell? ⟨Q,6,none⟩=some (.int .i64 m.since)) (by kernel_rfl) (⟨gq.var.cell 3 rfl,hQ.cell 0 rfl,hQ.cell 1 rfl,hQ.cell 2 rfl,hQ.cell 3 rfl,hQ.cell 4 rfl,hQ.cell 5 rfl,hQ.cell 6 rfl⟩) (fun zy=>?_)
  repeat' first
   | (
    revert k3
    intro hK
    go_simp
    refine(na qS.out _ gq.base.grows.holds).mono ?_
    rintro e w3 ⟨a3,H3,rfl,yY,JY⟩
    have Gg:=Hh JY;have gq:=gq.grow yY;have hQ:=hQ.below yY.below;have Yv:=Hh yY.le;clear yY JY
    refine Ko hK ?_ fun zy=>?_
    ·exact jbB
    clear hK K)
   | (
    revert k4
    intro hK
    go_simp
    have hL:=gq.base.grows.newBlk 27 (y7 m a3);have hQ:=hQ.alloc (.cells (y7 m a3) 27);have gq:=gq.alloc (.cells (y7 m a3) 27)
    refine Ko hK ?_ fun zy=>?_
    ·exact jbB
    clear hK K)
   | (
    revert k5
    intro hK
    refine OwnX.append_wpM (v:=.slice VA nv vc) (.tmp 23) (.tmp 26) 23 rfl Tryz.underlying23 rfl (by omega) rH rfl gq.own _ 1 _ (y7 m a3).toList [m] rfl rfl (RowC.one ⟨a3,rfl,Gg.out⟩) hL.srcM (by have h1:=Bf.out;have:=Z6.out;simp only[List.length_singleton];omega) gq.up fun v8 w8 qT hg8 hat8=>?_
    have hQ:=hQ.grown hg8 (fun e=>by have:=Dv.out _ e;omega);have gq:=gq.app qT hg8 hat8;obtain⟨A8,c8,rfl,vJ⟩:=qT.form;obtain⟨m8,f9⟩:∃ k,(tk++[m]).length=k:=⟨_,rfl⟩
    rw[f9]at gq⊢;clear qT hg8 hat8 vJ f9;go_simp
    refine Ko hK ?_ fun zy=>?_
    ·exact jbB
    clear hK K)
   | (
    revert k7
    intro hK
    refine yw _ _ _ rfl P 3 (.slice A8 m8 c8) rfl rfl _ _ gq.var (by kernel_rfl) (by simp) rfl fun w9 hP9 yO=>?_
    have En:=gq.set hP9 yO;clear hP9 yO;go_simp
    refine Kz hK ?_
    clear hK K)
   | simp only[Act.put,zz1,zz2,zz3,zz4,zz5,zz6]
   | refine Zk 0 rfl zy ?_ (hs:=by decide +kernel)
   | refine Zk 1 rfl zy ?_ (hs:=by decide +kernel)
   | refine Zk 2 rfl zy ?_ (hs:=by decide +kernel)
   | refine Zk 6 rfl zy ?_ (hs:=by decide +kernel)
   | refine Zo 3 rfl (fun K k3=>?_) (by decide +kernel)
   | refine Zo 4 rfl (fun K k4=>?_) (by decide +kernel)
   | refine Zo 5 rfl (fun K k5=>?_) (by decide +kernel)
   | refine Zo 7 rfl (fun K k7=>?_) (by decide +kernel)
   | (
    refine WaysZ.done (by decide +kernel) ?_
    clear zy hQ;have Cm:KEx w H (gpC a.ia il a.ic a.sa sl a.sc g.number a.ma ml a.mc) (fun v=>#[.slice A il c,.slice B sl d,.int .i64 g.number,v]) P (g.members.take (j+1)) H1 w9:=by rw[← Ul.out];exact⟨_,_,En,sk.out.trans Yv.out⟩
    clear En gq;go_wp2_with fail
    go_roundw
    case rel=>exact⟨j+1,by go_num,(by have:=wT.out.2;exact(show j+1≤ml by omega)),(by rw[← gk.out];exact Cm)⟩
    case measure=>have:=wT.out.2;simp[intOf];omega)
 have NG:j=g.members.length:=by have:=HN.out.2.2;have:=HJ.out;omega
 rw[NG,List.take_length]at hX;have HX:=Hh hX;have p0:=hX.var.cell 0 rfl;have p1:=hX.var.cell 1 rfl;have p2:=hX.var.cell 2 rfl;have p3:=hX.var.cell 3 rfl;obtain⟨VA,vc,rfl,vJ⟩:=hX.own.form;clear vJ NG;obtain⟨nv,NJ⟩:∃ nv,g.members.length=nv:=⟨_,rfl⟩
 have Dp:=Hh NJ;rw[NJ]at p3;go_wp2_with (with_reducible refine zx ?_)
 refine zv rfl _ _ _ rfl rfl _ _ rfl rfl _ _ hX.base.res zp rfl (yG _ _ _ _ rfl rfl rfl rfl) fun w9 xr yO=>?_
 have ey:=hX.base.grows.grownOwn hX.base.hT (by omega) yO
 have bW:=hX.own.kept yO (by
  rcases HX.out.own.lt with eZ
  by_cases e:(Value.slice VA g.members.length vc).ownBlock=some (w.heap.size+1)
  ·exact absurd (eZ _ e).1 (by have:=HX.out.far;omega)
  exact .inr e)
 have Ch:=bW.more (base':=w.heap.size) (by have:=HX.out.far;omega);clear hX yO bW p0 p1 p2 p3;go_wp2_with fail
 refine vo rfl rfl xr rfl rfl zp rfl ?_
 exact⟨A,c,B,d,_,Hr,by rw[HN.out.1,HN.out.2.1,← Dp.out],ey,HI.out.1.mono sk.out,HI.out.2.mono sk.out,Ch,HX.out.apart⟩
structure SetIs (vs:List Nat) (l:List UInt8):Prop where
 len:vs.length=4
 lt:∀ i,iX vs i<18446744073709551616
 bits:∀ b:UInt8,(iX vs (b.toNat/64)).testBit (b.toNat%64)=true↔b∈l
theorem SetIs.nil:SetIs [0,0,0,0] []:=by
 have h0:∀ i,iX [0,0,0,0] i=0:=fun i=>by
  unfold iX
  rcases i with _ | _ | _ | _ | i <;> rfl
 exact⟨rfl,fun i=>by rw[h0];omega,fun b=>by rw[h0];simp⟩
def bG (vs:List Nat) (b:UInt8):List Nat:=vs.set (b.toNat/64) (iX vs (b.toNat/64) ||| 2 ^ (b.toNat%64))
theorem aO (l:List Nat) (i j n:Nat) (hi:i<l.length):iX (l.set i n) j=if i=j then n else iX l j:=by
 unfold iX
 rw[List.getD_eq_getElem?_getD,List.getD_eq_getElem?_getD,List.getElem?_set]
 split
 ·first | rfl | (rw[if_pos hi];rfl)
 rfl
theorem SetIs.add {vs:List Nat}{l:List UInt8}(h:SetIs vs l) (b:UInt8):SetIs (bG vs b) (l++[b]):=by
 have hb:=b.toNat_lt;have hi:b.toNat/64<vs.length:=by rw[h.len];omega
 refine⟨by rw[bG,List.length_set,h.len],fun i=>?_,fun c=>?_⟩
 ·rw[bG,aO _ _ _ _ hi]
  split
  ·exact Nat.or_lt_two_pow (n:=64) (h.lt _) (Nat.pow_lt_pow_right (by omega) (Nat.mod_lt _ (by omega)))
  exact h.lt i
 rw[bG,aO _ _ _ _ hi,List.mem_append,List.mem_singleton]
 split
 ·rename_i e
  rw[Nat.testBit_or,Nat.testBit_two_pow,e,Bool.or_eq_true,h.bits c,decide_eq_true_eq];constructor
  ·rintro(h1 | h1)
   ·exact .inl h1
   exact .inr (UInt8.toNat_inj.1 (by omega))
  rintro(h1 | rfl)
  ·exact .inl h1
  exact .inr rfl
 rename_i e
 rw[h.bits c]
 exact⟨.inl,fun h1=>h1.resolve_right (by rintro rfl;exact e rfl)⟩
structure FreeB (l:List UInt8) (n:UInt8):Prop where
 free:n∉l
 least:∀ k:UInt8,k.toNat<n.toNat→k∈l
theorem QF {l:List UInt8}{b:Nat}(h:∀ k:UInt8,k.toNat<b→k∈l) (hb:b≤256):b≤l.length:=by
 have:=YP b (l.map UInt8.toNat) fun k hk=>by
  refine List.mem_map.2 ⟨UInt8.ofNat k,h _ ?_, ?_⟩
  ·rw[UInt8.toNat_ofNat_of_lt' (by show k<256;omega)];exact hk
  exact UInt8.toNat_ofNat_of_lt' (by show k<256;omega)
 simpa using this
theorem eH {w w':World}{r:Option Nat}(h:w.drew.grownBy w' r):w.grownBy w' r:=⟨h.os,h.tape,h.output,h.size,h.block⟩
theorem Vq:(Tryz.prog.info? 64).map (·.size)=some 1:=by kernel_rfl
theorem Qd {vs:List Nat}{l:List UInt8}(hV:SetIs vs l) (b:UInt8) (U:Nat) (w:World) (hB:Blk w U 66 (oJ vs)) :
  Calls Tryz.prog 34 #[.pointer (some ⟨U,0,none⟩),.int .u8 (b.toNat:Int)] w fun e w'=>e=.returned (.tuple #[])∧Blk w' U 66 (oJ (bG vs b))∧w.grownBy w' (some U):=by
 have hb:=b.toNat_lt;obtain⟨n,hn⟩:∃ n,b.toNat=n:=⟨_,rfl⟩
 rw[hn]at hb⊢;obtain⟨q,hq⟩:∃ q,n/64=q:=⟨_,rfl⟩
 obtain⟨r,hr⟩:∃ r,n%64=r:=⟨_,rfl⟩
 have NK:q<4:=by omega
 have UE:r<64:=by omega
 have t1:(n:Int).tdiv 64=(q:Int):=by rw[Int.tdiv_eq_ediv_of_nonneg (by omega)];omega
 have t2:(n:Int).tmod 64=(r:Int):=by rw[Int.tmod_eq_emod_of_nonneg (by omega)];omega
 have t3:IntKind.u8.wrap (q:Int)=(q:Int):=by simp[IntKind.wrap,IntKind.bits,IntKind.signed];omega
 have t4:IntKind.u8.wrap (r:Int)=(r:Int):=by simp[IntKind.wrap,IntKind.bits,IntKind.signed];omega
 have zB:=hV.lt q;have hp:2 ^ r<18446744073709551616:=Nat.pow_lt_pow_right (a:=2) (m:=r) (n:=64) (by omega) UE;obtain⟨x,hx⟩:∃ x,iX vs q=x:=⟨_,rfl⟩
 obtain⟨p,MY⟩:∃ p,2 ^ r=p:=⟨_,rfl⟩
 have hc:=hB.cell q (ak vs q (by rw[hV.len];exact NK));rw[hx]at hc zB;rw[MY]at hp
 have t5:IntKind.u64.wrap (2 ^ r:Int)=(p:Int):=by
  rw[← MY,show((2:Int) ^ r)=(((2:Nat) ^ r:Nat):Int) by rw[Int.natCast_pow];rfl]
  exact Vz _ (by rw[MY];exact hp)
 have t6:bits .or .u64 (x:Int) (p:Int)=((x ||| p:Nat):Int):=bits_or_u64_nat x p zB hp
 have hz:Hid ((oJ vs).setIfInBounds q (.int .u64 ((x ||| p:Nat):Int))=oJ (bG vs b)):=by
  rw[Hid,T0,bG,hn,hq,hr,hx,MY]
 obtain⟨y,hy⟩:∃ y,x ||| p=y:=⟨_,rfl⟩
 rw[hy]at t6 hz;have HB:=Hh hB;have BX:(q:Int)<4:=by omega
 have HR:=Hh UE;have Ma:(r:Int)≤64:=by omega
 have HL:Hid (q<(oJ vs).size):=by rw[Hid,Vm,hV.len];exact NK
 clear hV hb hn hq hr NK UE zB hp MY hx hy hB;go_enter Tryz.func34,Tryz.ntmps34
 refine zX 12 (fun wx=>wx.cell? ⟨U,q,none⟩=some (.int .u64 (x:Int))) (by kernel_rfl) (hc) (fun zy=>?_)
 refine Zk 0 rfl zy ?_
 refine Zk 1 rfl zy ?_
 refine Zk 2 rfl zy ?_
 refine Zk 3 rfl zy ?_
 refine Zk 4 rfl zy ?_
 refine Zk 5 rfl zy ?_
 refine Zk 6 rfl zy ?_
 refine Zk 7 rfl zy ?_
 refine Zk 8 rfl zy ?_
 refine Zk 9 rfl zy ?_
 refine Zk 10 rfl zy ?_
 refine Zk 11 rfl zy ?_
 refine Zo 12 rfl fun K hK=>?_
 refine yw _ _ _ rfl U q (.int .u64 (y:Int)) rfl rfl _ _ HB.out Vq HL.out rfl fun w9 iI yO=>?_
 rw[hz.out]at iI;go_simp
 refine Kz hK ?_
 clear hK K
 refine WaysZ.done (by kernel_rfl) ?_
 clear zy;go_wp2_with fail
 go_end0
 exact⟨rfl,iI,eH yO⟩
theorem T3 {vs:List Nat}{l:List UInt8}(hV:SetIs vs l) (hl:l.length≤200) (U:Nat) (w:World) (hB:Blk w U 66 (oJ vs)) :
  Calls Tryz.prog 37 #[.pointer (some ⟨U,0,none⟩)] w fun e w'=>∃ n:UInt8,e=.returned (zT n)∧FreeB l n∧w=w':=by
 have HV:=Hh hV;have HL:=Hh hl;have HB:=Hh hB;have H0:Hid (∀ k:UInt8,k.toNat<0→k∈l):=fun k h=>absurd h (by omega)
 clear hV hl hB;go_enter Tryz.func37,Tryz.ntmps37
 go_wp2_with fail
 go_loopw [3] (fun v3 wr=>∃ n:Nat,v3=.int .u8 (n:Int)∧Hid (∀ k:UInt8,k.toNat<n→k∈l)∧Hid (n≤200)∧wr=w) (fun v3 _=>300-(intOf v3).toNat)
 case atStart=>exact⟨0,rfl,H0,Nat.zero_le _,rfl⟩
 case round =>
 clear H0;obtain⟨n,rfl,HF,HN,rfl⟩:=hrel;have hn:=HN.out;obtain⟨q,hq⟩:∃ q,n/64=q:=⟨_,rfl⟩
 obtain⟨r,hr⟩:∃ r,n%64=r:=⟨_,rfl⟩
 have NK:q<4:=by omega
 have UE:r<64:=by omega
 have t1:(n:Int).tdiv 64=(q:Int):=by rw[Int.tdiv_eq_ediv_of_nonneg (by omega)];omega
 have t2:(n:Int).tmod 64=(r:Int):=by rw[Int.tmod_eq_emod_of_nonneg (by omega)];omega
 have t3:IntKind.u8.wrap (q:Int)=(q:Int):=by simp[IntKind.wrap,IntKind.bits,IntKind.signed];omega
 have t4:IntKind.u8.wrap (r:Int)=(r:Int):=by simp[IntKind.wrap,IntKind.bits,IntKind.signed];omega
 have zB:=HV.out.lt q;obtain⟨x,hx⟩:∃ x,iX vs q=x:=⟨_,rfl⟩
 have hc:=HB.out.cell q (ak vs q (by rw[HV.out.len];exact NK));have az:=HV.out.bits (UInt8.ofNat n);rw[UInt8.toNat_ofNat_of_lt' (by show n<256;omega),hq,hr,hx]at az;rw[hx]at hc zB;obtain⟨y,hy⟩:∃ y,x/2 ^ r=y:=⟨_,rfl⟩
 have LY:y<18446744073709551616:=by have:=Nat.div_le_self x (2 ^ r);omega
 have t5:(x:Int)/2 ^ r=(y:Int):=by
  rw[← hy,show((2:Int) ^ r)=(((2:Nat) ^ r:Nat):Int) by rw[Int.natCast_pow];rfl];rfl
 have t6:bits .and .u64 (y:Int) 1=((y%2:Nat):Int):=by
  have h:=bits_and_u64_nat y 1 LY (by omega);rw[Nat.and_one_is_mod]at h
  exact h
 have BX:(q:Int)<4:=by omega
 have Ma:(r:Int)≤64:=by omega
 have tb:x.testBit r=decide (y%2=1):=by rw[Nat.testBit_eq_decide_div_mod_eq,hy]
 rw[tb,decide_eq_true_eq]at az;obtain⟨m,hm⟩:∃ m,y%2=m:=⟨_,rfl⟩
 rw[hm]at t6 az;have Rm:=Hh az;clear hn hq hr NK UE zB hx hy LY tb az hm
 by_cases h1:m=1
 ·subst h1
  have Z4:Hid (∀ k:UInt8,k.toNat<n+1→k∈l):=fun k hk=>by
   by_cases e:k.toNat=n
   ·rw[show k=UInt8.ofNat n by rw[← e];exact UInt8.ofNat_toNat.symm]
    exact Rm.out.1 rfl
   exact HF.out k (by omega)
  have rY:n+1≤200:=Nat.le_trans (QF Z4.out (by have:=HN.out;omega)) HL.out;have t7:IntKind.u8.wrap ((n:Int)+1)=(n:Int)+1:=by simp[IntKind.wrap,IntKind.bits,IntKind.signed];omega
  have Ok:=Hh rY;clear rY;go_wp2_with fail
  go_roundw
  case rel=>exact⟨n+1,by go_num,Z4,Ok,by trivial⟩
  case measure=>have:=Ok.out;simp[intOf];omega
 have e1:((m:Int)=1)=False:=eq_false (by omega);have e2:((m:Int)==1)=false:=beq_eq_false_iff_ne.2 (by omega);have HM:=Hh h1;clear h1;go_wp2_with fail
 go_ret
 refine⟨UInt8.ofNat n,by rw[zT,UInt8.toNat_ofNat_of_lt' (by show n<256;have:=HN.out;omega)];rfl,⟨fun h=>HM.out (Rm.out.2 h),fun k hk=>HF.out k ?_⟩,rfl⟩
 rw[UInt8.toNat_ofNat_of_lt' (by show n<256;have:=HN.out;omega)]at hk
 exact hk
def S6 (w:World) (l:List Mb) (name:ByteArray) (e:Ending) (w':World):Prop:=∃ r:Int,e=.returned (.int .i64 r)∧Below w.heap.size w w'∧((r = -1∧∀ m∈l,m.name≠name)∨(∃ i:Nat,r=(i:Int)∧∃ h:i<l.length,l[i].name=name))
theorem eK {H:Snap}{A:Option Addr}{c:Nat}{l:List Mb}(hI:IsRow vQ H A c l) {n:Nat}(hn:n=l.length) (hl:l.length≤1099511) (name:ByteArray) (w:World) (hH:Holds w H) :
  Calls Tryz.prog 42 #[.slice A n c,.string name] w (S6 w l name):=by
 have HN:=jhH;have HI:=Hh hI;have HH:=Hh hH;have xR:=jg0;have H0:Hid (∀ i (h:i<l.length),i<0→l[i].name≠name):=fun i h h0=>absurd h0 (by omega)
 clear hn hl hI hH;go_enter Tryz.func42,Tryz.ntmps42
 go_wp2_with fail
 go_loopw [9] (fun v9 wr=>∃ j:Nat,v9=.int .i64 (j:Int)∧Hid (j≤n)∧Hid (∀ i (h:i<l.length),i<j→l[i].name≠name)∧Below w.heap.size w wr) (fun v9 _=>(n:Int).toNat+1-(intOf v9).toNat)
 case atStart=>exact⟨0,rfl,Nat.zero_le _,H0,xR⟩
 case round =>
 clear H0 xR;obtain⟨j,rfl,HJ,HF,hb⟩:=hrel
 by_cases zB:(j:Int)<(n:Int)
 ·have uU:j<l.length:=by rw[← HN.out.1];omega
  obtain⟨gb,go,sG,uF⟩:=HI.out.at_ (by omega);obtain⟨d,hd,hc⟩:=uF j uU;obtain⟨ma,hd,th⟩:=hd;subst hd;obtain⟨m,hm⟩:∃ m,l[j]=m:=⟨_,rfl⟩
  rw[hm]at hc th;have HM:Hid (∀ h:j<l.length,l[j]=m):=fun _=>hm
  have yB:=jgD;obtain⟨r0,r1,r2,r3,r4,r5,r6⟩:=jfy
  simp only[vQ,Nat.add_zero,Nat.zero_add,← Nat.add_assoc]at r0 r1 r2 r3 r4 r5 r6
  have hP:=Blk.new wr 27 (y7 m ma);have zC:=jhr;obtain⟨P,uT⟩:∃ P,wr.heap.size=P:=⟨_,rfl⟩
  obtain⟨w2,sN⟩:∃ w2,wr.alloc (.cells (y7 m ma) 27)=w2:=⟨_,rfl⟩
  rw[uT,sN]at hP;rw[sN]at zC;have rp:=Hh (And.intro uT sN);have oH:(j:Int)+1≤9223372036854775807:=by have:=HN.out.2;omega
  have wT:=Hh uU;have oa:=Hh zB;clear uT sN uF hc th hb uU yB hm;rw[sG];go_upto_region 4 with fail
  try rw[rp.out.1]
  try rw[rp.out.2]
  clear r0 r1 r2 r3 r4 r5 r6 sG rp;have p0:=hP.cell 0 rfl;clear hP
  by_cases hq:m.name=name
  ·obtain⟨f1,f2,f3⟩:=uV hq;have HQ:=Hh hq;clear hq;go_wp2_with fail
   go_ret
   exact⟨_,rfl,zC,.inr ⟨j,rfl,wT.out,by rw[HM.out];exact HQ.out⟩⟩
  obtain⟨f1,f2,f3⟩:=tR hq
  have Z4:Hid (∀ i (h:i<l.length),i<j+1→l[i].name≠name):=fun i h h1=>by
   by_cases e:i=j
   ·subst e;rw[HM.out h];exact hq
   exact HF.out i h (by omega)
  clear hq;go_wp2_with fail
  go_roundw
  case rel=>exact⟨j+1,by go_num,by have:=oa.out;rw[Hid];omega,Z4,zC⟩
  case measure=>have:=oa.out;simp[intOf];omega
 have HE:Hid (∀ m∈l,m.name≠name):=fun m hm=>by
  obtain⟨i,hi,rfl⟩:=List.getElem_of_mem hm
  exact HF.out i hi (by have:=HN.out.1;have:=HJ.out;omega)
 go_wp2_with fail
 go_ret
 exact⟨_,rfl,hb,.inl ⟨rfl,HE.out⟩⟩
theorem RowC.split {α:Type}{L:Lie α}{H:Snap}:∀ {l m:List α}{cs:List Value},RowC L H cs (l++m)→∃ a b,cs=a++b∧RowC L H a l∧RowC L H b m
 | [],m,cs,h=>⟨[],cs,rfl,RowC.nil L H,h⟩
 | x::l,m,cs,h=>by
  obtain⟨c,ds,rfl,hx,hr⟩:=h;obtain⟨a,b,rfl,ha,hb⟩:=RowC.split hr
  exact⟨c++a,b,by simp,⟨c,a,rfl,hx,ha⟩,hb⟩
theorem OwnX.parts {α:Type}{L:Lie α}{t:TypeId}{w:World}{base:Nat}{A:Option Addr}{n c:Nat}{H:Snap}{l:List α}(h:OwnX L t w base (.slice A n c) H l) {i:Nat}(hi:i<l.length) :
  ∃ g,A=some ⟨g,0,none⟩∧OwnX L t w base (.slice A i c) H (l.take i)∧∃ cs,RowC L H cs (l.drop (i+1))∧Src w (some ⟨g,(i+1)*L.k,none⟩) cs:=by
 obtain⟨cs,oV,h⟩:=h
 rcases h.2 with ⟨hv,hz⟩ | ⟨g,cap,cur,hv,hb,hg,hc,hm,hcz,ht⟩
 ·omega
 cases hv
 have h1:=oV;rw[← List.take_append_drop i l]at h1;obtain⟨a,b,rfl,ha,xR⟩:=h1.split;have h2:=oV;rw[← List.take_append_drop (i+1) l]at h2;obtain⟨a2,b2,e2,kH,zC⟩:=h2.split;have Pt:=ha.len;have OR:=kH.len;rw[List.length_take]at Pt OR;rw[show min i l.length=i by omega]at Pt;rw[show min (i+1) l.length=i+1 by omega]at OR
 refine⟨g,rfl,⟨a,ha,by rw[Pt,List.length_take];congr 1;omega,.inr ⟨g,c,cur,by rw[List.length_take,show min i l.length=i by omega],hb,hg,by rw[List.length_take];omega,hm,hcz, ?_⟩⟩,b2,zC,fun _=>⟨g,(i+1)*L.k,rfl,fun j v hj=>?_⟩⟩
 ·have e3:i*L.k≤l.length*L.k:=Nat.mul_le_mul_right _ (by omega);have e4:(cur.toList.take (l.length*L.k)).take (i*L.k)=(a++b).take (i*L.k):=by rw[ht]
  rw[List.take_take,Nat.min_eq_left e3]at e4;rw[List.length_take,show min i l.length=i by omega,e4,← Pt,List.take_left'];rfl
 have hx:(a++b)[(i+1)*L.k+j]? = some v:=by
  rw[e2,List.getElem?_append_right (by omega),OR,Nat.add_sub_cancel_left]
  exact hj
 rw[← ht,List.getElem?_take]at hx
 split at hx
 ·exact(cell_of_row w g _ cur t (0,0) hg).trans (by simpa using hx)
 cases hx
end Go.Proofs.YtgaoknihklmakabGreatDoor
