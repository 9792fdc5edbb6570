/- squeezed. The walk of SessionTicks. -/
import Derived.Test.YtnfoilblmhbobaaGreatDoorK25
import Derived.Great.BuildSlice
set_option linter.unusedVariables false
set_option linter.unusedSimpArgs false
set_option maxRecDepth 100000
set_option maxHeartbeats 25600000
namespace Go.Proofs.YtnfoilblmhbobaaGreatDoor
open Go.RowKit
theorem lb {P:Program}{ops:Array Oper}{Q:Exit→Act→World→Prop}{rest:List Oper}{a:Act}{w:World}{dst:Option Tmp}{ty:TypeId}{k:Nat}{ps:Array (Nat×Operand)}{T:TypeId}{pos:String}{af:Array Edge}{g:Option (Nat×Bool)}
  (h:zj (wpList P ops Q (⟨dst,.buildSlice ty k ps,T,pos,af,g⟩::rest) a w)):wpList P ops Q (⟨dst,.buildSlice ty k ps,T,pos,af,g⟩::rest) a w:=h
theorem dN:(Tryz.prog.info? 34).map (fun i=>(i.zero,i.size))=some (some (.agg yz),32):=by kernel_rfl
theorem qt {ops:Array Oper}{rest:List Oper}{o:Oper}{a:Act}{w:World}{Q:Exit→Act→World→Prop}(hg:o.guard=none) (parts:Array (Nat×Operand)) (ho:o.op=.buildSlice 41 2 parts)
  (A B:Array Value) (hA:A.size=32) (hB:B.size=32) (hp:(parts.map fun(i,x)=>(i,a.eval x)).toList=[(0,.agg A),(1,.agg B)])
  (h:wpList Tryz.prog ops Q rest (a.put o.dst (.slice (some ⟨w.heap.size,0,none⟩) 2 2)) (w.alloc (.cells (A.toList++(B.toList++[])).toArray 34))):wpList Tryz.prog ops Q (o::rest) a w:=by
 have hi:=dN
 cases hie:Tryz.prog.info? 34 with
 | none=>rw[hie]at hi;simp at hi
 | some ie =>
 rw[hie]at hi
 simp only[Option.map_some,Option.some.injEq,Prod.mk.injEq]at hi
 refine wpList_buildSlice hg 41 34 2 parts ho _ ie (.agg yz) Tryz.underlying41 hie hi.1 (by rw[hi.2];omega) (by rw[hi.2];omega) ?_ h
 rw[hp,hi.2]
 exact Great.fill_whole (s:=32) (by omega) [.agg A,.agg B] _ (by intro v hv;simp only[List.mem_cons,List.not_mem_nil,or_false]at hv;rcases hv with rfl | rfl <;> first | exact hA | exact hB) (by simp)
theorem qs {ops:Array Oper}{rest:List Oper}{op:Oper}{a:Act}{w:World}{Q:Exit→Act→World→Prop}(rl:op.guard=none) (x:Operand) (ho:op.op=.load 34 x)
  (b o:Nat) (hx:a.eval x=.pointer (some ⟨b,o,none⟩)) (C:Array Value) (hC:C.size=32) (hc:w.rangeAt b o C.toList)
  (h:wpList Tryz.prog ops Q rest (a.put op.dst (.agg C)) w):wpList Tryz.prog ops Q (op::rest) a w :=
 wpList_load_mid rl _ x ho b o hx C.toList _ hc Tryz.underlying34 rfl (by rw[Array.length_toList,hC];exact za) (by rw[Array.toArray_toList];exact h)
theorem Dealt.toGrS {w w1 w2:World}{H H1 H2:Snap}{g:Nat}(h:Grows w H w1 H1) (hd:Dealt w1 H1 w2 H2 g) (hg:w.heap.size≤g):Grows w H w2 H2 :=
 ⟨h.below.grown hd.grows.grown h.size (by rintro q ⟨⟩;exact hg),h.le.trans hd.le,hd.holds,fun b o hb=>by
  rcases hd.grows.fresh b o hb with h1 | h1
  ·exact h.fresh b o h1
  exact .inr (Nat.le_trans h.size h1)⟩
theorem DeckIn.keptS {w w':World}{gd:Nat}{Hr:Snap}(h:DeckIn w gd Hr) {Q:Nat}(hn:Hr Q=none) (ww:gd≠Q) (hg:w.grownBy w' (some Q)):DeckIn w' gd Hr:=by
 obtain⟨A,c,l,k,hB,hl,hk⟩:=h.deck
 exact⟨⟨A,c,l,k,hB.grown hg (by intro e;injection e with e;exact ww e.symm),hl,hk⟩,h.holds.grown hg (by rintro q ⟨⟩;exact hn),h.apart⟩
structure LK (W0:World) (H:Snap) (gd:Nat) (w:World) (Hr:Snap):Prop where
 grows:Grows W0 H w Hr
 deck:DeckIn w gd Hr
 wD:W0.heap.size≤gd
structure BK (W0:World) (gd Q:Nat) (t:TypeId) (cs:Array Value) (w:World) (Hr:Snap):Prop where
 blk:Blk w Q t cs
 free:Hr Q=none
 neD:Q≠gd
 wQ:W0.heap.size≤Q
section
variable {W0 w w':World} {H Hr Hs:Snap} {gd Q R:Nat} {t u:TypeId} {cs cs' ds:Array Value}
theorem LK.step (h:LK W0 H gd w Hr) (k:Dealt w Hr w' Hs gd):LK W0 H gd w' Hs:=⟨Dealt.toGrS h.grows k h.wD,k.deck,h.wD⟩
theorem LK.grow (h:LK W0 H gd w Hr) (k:Grows w Hr w' Hs):LK W0 H gd w' Hs:=h.step (h.deck.grows k)
theorem LK.below (h:LK W0 H gd w Hr) (k:Below w.heap.size w w'):LK W0 H gd w' Hr:=h.grow (Grows.of_below h.deck.holds k)
theorem LK.put (h:LK W0 H gd w Hr) (x:BK W0 gd Q t cs w Hr) (hg:w.grownBy w' (some Q)):LK W0 H gd w' Hr :=
 ⟨h.grows.grownOwn x.free x.wQ hg,h.deck.keptS x.free (fun e=>x.neD e.symm) hg,h.wD⟩
theorem LK.new (h:LK W0 H gd w Hr) (hQ:w.heap.size=Q) (hB:Blk w' Q t cs):BK W0 gd Q t cs w' Hr :=
 ⟨hB,h.deck.holds.none_of_ge (by omega),by have:=h.deck.deck.lt;omega,by have:=h.grows.size;omega⟩
theorem LK.made (h:LK W0 H gd w Hr) {o:Obj}(hQ:w.heap.size=Q) (hg:(w.alloc o).grownBy w' (some Q)):Grows w Hr w' Hr :=
 ((Grows.refl h.deck.holds).alloc o).grownOwn (h.deck.holds.none_of_ge (by omega)) (by omega) hg
theorem BK.step (x:BK W0 gd Q t cs w Hr) (k:Dealt w Hr w' Hs gd):BK W0 gd Q t cs w' Hs:=⟨x.blk.grown k.grows.grown (by intro e;injection e with e;exact x.neD e.symm),k.hid x.free x.blk.lt,x.neD,x.wQ⟩
theorem BK.grow (x:BK W0 gd Q t cs w Hr) (k:Grows w Hr w' Hs):BK W0 gd Q t cs w' Hs:=⟨x.blk.below k.below,k.none x.free x.blk.lt,x.neD,x.wQ⟩
theorem BK.below (x:BK W0 gd Q t cs w Hr) (k:Below w.heap.size w w'):BK W0 gd Q t cs w' Hr:=⟨x.blk.below k,x.free,x.neD,x.wQ⟩
theorem BK.set (x:BK W0 gd Q t cs w Hr) (hB:Blk w' Q t cs'):BK W0 gd Q t cs' w' Hr:=⟨hB,x.free,x.neD,x.wQ⟩
theorem BK.other (x:BK W0 gd Q t cs w Hr) (ww:Q≠R) (hg:w.grownBy w' (some R)):BK W0 gd Q t cs w' Hr:=⟨x.blk.grown hg (by intro e;injection e with e;exact ww e.symm),x.free,x.neD,x.wQ⟩
end
theorem IsRn.upd4 {H:Snap}{v:Rn}{a:RnA}(h:IsRn H v a) (r p c d:Int):IsRn H { v with role:=r,phase:=p,count:=c,due:=d } a:=⟨h.p,h.mine,h.other,h.priv,h.gx,h.gy,h.h1,h.th,h.prk,h.peer,h.out,h.heard,h.sent,h.refused⟩
theorem Rn.Small.upd4 {v:Rn}(h:v.Small) (r p c d:Int):Rn.Small { v with role:=r,phase:=p,count:=c,due:=d }:=⟨h.p,h.mine,h.other,h.priv,h.gx,h.gy,h.h1,h.th,h.prk,h.peer,h.out,h.heard,h.sent,h.refused⟩
theorem ZE {W0 w:World}{gd R:Nat}{Hr:Snap}{A B:Array Value}(hA:A.size=32) (h:BK W0 gd R 34 (A.toList++(B.toList++[])).toArray w Hr):w.rangeAt R 0 A.toList∧w.rangeAt R 32 B.toList:=by
 refine⟨fun j v hj=>h.blk.cell (0+j) ?_,fun j v hj=>h.blk.cell (32+j) ?_⟩
 ·have hl:=(List.getElem?_eq_some_iff.1 hj).1;rw[Nat.zero_add,List.getElem?_toArray,List.getElem?_append_left hl]
  exact hj
 have e:A.toList.length=32:=by rw[Array.length_toList,hA]
 rw[List.getElem?_toArray,List.getElem?_append_right (by omega),e,Nat.add_sub_cancel_left,List.append_nil]
 exact hj
theorem TickOut.get {w w':World}{H:Snap}{v r:Rn}{n:Int}{l:List UInt8}{e:Ending}(h:TickOut w H v n e w') (ht:vy v n=(r,l)):∃ a' A c H',e=.returned (.tuple #[.agg (rnC r a'),.slice A l.length c])∧Grows w H w' H'∧IsRn H' r a'∧IsBytes H' A c l:=by
 rw[TickOut,ht]at h
 exact h
theorem ResOut.get {w w':World}{H:Snap}{v:Rn}{x:Inp}{k:Int}{e:Ending}(h:ResOut w H v e w') (ht:xD v=(x,k)):∃ a' H',e=.returned (.tuple #[.agg (tK x a'),.int .i64 k])∧Grows w H w' H'∧IsInp H' x a':=by
 rw[ResOut,ht]at h
 exact h
theorem iR (x:Inp) (a:InpA):(tK x a).all (·.oneCell')=true:=by simp[tK,Value.oneCell']
theorem dh {H:Snap}{v:Rn}{a:RnA}(h:IsRn H v a):RowC wO H [.slice a.mine.a v.mine.length a.mine.c,.slice a.other.a v.other.length a.other.c,.slice a.priv.a v.priv.length a.priv.c,.slice a.gx.a v.gx.length a.gx.c,.slice a.gy.a v.gy.length a.gy.c,.slice a.h1.a v.h1.length a.h1.c,.slice a.th.a v.th.length a.th.c,.slice a.prk.a v.prk.length a.prk.c,.slice a.peer.a v.peer.length a.peer.c,.slice a.out.a v.out.length a.out.c] [v.mine,v.other,v.priv,v.gx,v.gy,v.h1,v.th,v.prk,v.peer,v.out]:=by
 exact⟨_,_,rfl,⟨_,_,rfl,h.mine⟩,⟨_,_,rfl,⟨_,_,rfl,h.other⟩,⟨_,_,rfl,⟨_,_,rfl,h.priv⟩,⟨_,_,rfl,⟨_,_,rfl,h.gx⟩,⟨_,_,rfl,⟨_,_,rfl,h.gy⟩,⟨_,_,rfl,⟨_,_,rfl,h.h1⟩,⟨_,_,rfl,⟨_,_,rfl,h.th⟩,⟨_,_,rfl,⟨_,_,rfl,h.prk⟩,⟨_,_,rfl,⟨_,_,rfl,h.peer⟩,⟨_,_,rfl,⟨_,_,rfl,h.out⟩,RowC.nil _ _⟩⟩⟩⟩⟩⟩⟩⟩⟩⟩
theorem di {H:Snap}{v:Rn}{a:RnA}(h:IsRn H v a):RowC wO H [.slice a.heard.a v.heard.length a.heard.c,.slice a.sent.a v.sent.length a.sent.c] [v.heard,v.sent]:=by
 exact⟨_,_,rfl,⟨_,_,rfl,h.heard⟩,⟨_,_,rfl,⟨_,_,rfl,h.sent⟩,RowC.nil _ _⟩⟩
theorem lF {H:Snap}(hTab:Tabs H) {v:Rn}{a:RnA}(ha:IsRn H v a) (d8:(v.p.chain.length+5)*24≤140737488355328) {A:Option Addr}{c:Nat}{l:List Int}(hl:IsInts H A c l) (n:Int) (w:World) (hH:Holds w H) :
  Calls Tryz.prog 3 #[.agg (rnC v a),.slice A l.length c,.int .i64 n] w fun e w'=>e=.returned (.bool true)∧Below w.heap.size w w':=by
 have wS:=Blk.new w 34 (rnC v a);have yY:=zb w (.cells (rnC v a) 34);have HH:=Hh (fun wx (h:Below w.heap.size w wx)=>(hH.below h (Nat.le_refl _):Holds wx H));have HA:=Hh ha;have Rh:=Hh d8;have HL:=Hh hl;have HT:=Hh hTab;have mh:=hH.none_of_ge (Nat.le_refl w.heap.size);obtain⟨ln,Vi⟩:∃ k,l.length=k:=⟨_,rfl⟩
 have ev:=Hh Vi;rw[Vi];clear ha d8 hl hTab hH Vi;go_enter Tryz.func3,Tryz.ntmps3
 obtain⟨W1,Zz⟩:∃ W1,w.alloc (.cells (rnC v a) 34)=W1:=⟨_,rfl⟩
 go_upto_region 1 with fail
 rw[Zz]at wS yY
 try rw[Zz]
 clear Zz;go_cut [64] (fun s64 wx=>∃ b:Bool,s64=.bool b∧Hid (b=false→v.Small)∧Blk wx w.heap.size 34 (rnC v a)∧Below w.heap.size w wx)
 case first =>
  have x4:W1.cell? ⟨w.heap.size,4,none⟩=some (.slice a.p.cred.a v.p.cred.length a.p.cred.c):=wS.cell 4 rfl;have x5:W1.cell? ⟨w.heap.size,5,none⟩=some (.int .i64 v.p.ref):=wS.cell 5 rfl;have x6:W1.cell? ⟨w.heap.size,6,none⟩=some (.slice a.p.chain.a v.p.chain.length a.p.chain.c):=wS.cell 6 rfl;have x7:W1.cell? ⟨w.heap.size,7,none⟩=some (.int .i64 v.p.kty):=wS.cell 7 rfl;have x8:W1.cell? ⟨w.heap.size,8,none⟩=some (.int .i64 v.p.crv):=wS.cell 8 rfl;have x9:W1.cell? ⟨w.heap.size,9,none⟩=some (.int .i64 v.p.alg):=wS.cell 9 rfl;have x10:W1.cell? ⟨w.heap.size,10,none⟩=some (.slice a.p.kid.a v.p.kid.length a.p.kid.c):=wS.cell 10 rfl;have x11:W1.cell? ⟨w.heap.size,11,none⟩=some (.slice a.p.kx.a v.p.kx.length a.p.kx.c):=wS.cell 11 rfl;have x12:W1.cell? ⟨w.heap.size,12,none⟩=some (.slice a.p.kd.a v.p.kd.length a.p.kd.c):=wS.cell 12 rfl
  have x13:W1.cell? ⟨w.heap.size,13,none⟩=some (.slice a.p.kk.a v.p.kk.length a.p.kk.c):=wS.cell 13 rfl;have x14:W1.cell? ⟨w.heap.size,14,none⟩=some (.slice a.p.suites.a v.p.suites.length a.p.suites.c):=wS.cell 14 rfl;have x15:W1.cell? ⟨w.heap.size,15,none⟩=some (.slice a.p.known.a v.p.known.length a.p.known.c):=wS.cell 15 rfl;have x16:W1.cell? ⟨w.heap.size,16,none⟩=some (.slice a.p.anchors.a v.p.anchors.length a.p.anchors.c):=wS.cell 16 rfl;have LI:=Hh (lE HA.out.p Rh.out W1 (HH.out _ yY));go_wp2_with fail
  refine LI.out.mono ?_
  rintro e w2 ⟨⟨b2,rfl,h2⟩,tg⟩
  have uJ:=wS.below tg;have zO:=yY.trans (tg.mono yY.size);clear LI wS yY tg x4 x5 x6 x7 x8 x9 x10 x11 x12 x13 x14 x15 x16
  cases b2 with
  | false =>
   clear h2;go_wp2_with fail
   go_meet
   exact⟨true,rfl,(fun h=>by cases h),uJ,zO⟩
  | true =>
  have WG:=Hh (h2 rfl);clear h2;have x17:w2.cell? ⟨w.heap.size,17,none⟩=some (.slice a.mine.a v.mine.length a.mine.c):=uJ.cell 17 rfl;have x18:w2.cell? ⟨w.heap.size,18,none⟩=some (.slice a.other.a v.other.length a.other.c):=uJ.cell 18 rfl;have x19:w2.cell? ⟨w.heap.size,19,none⟩=some (.slice a.priv.a v.priv.length a.priv.c):=uJ.cell 19 rfl;have x20:w2.cell? ⟨w.heap.size,20,none⟩=some (.slice a.gx.a v.gx.length a.gx.c):=uJ.cell 20 rfl;have x21:w2.cell? ⟨w.heap.size,21,none⟩=some (.slice a.gy.a v.gy.length a.gy.c):=uJ.cell 21 rfl;have x22:w2.cell? ⟨w.heap.size,22,none⟩=some (.slice a.h1.a v.h1.length a.h1.c):=uJ.cell 22 rfl;have x23:w2.cell? ⟨w.heap.size,23,none⟩=some (.slice a.th.a v.th.length a.th.c):=uJ.cell 23 rfl;have x24:w2.cell? ⟨w.heap.size,24,none⟩=some (.slice a.prk.a v.prk.length a.prk.c):=uJ.cell 24 rfl;have x25:w2.cell? ⟨w.heap.size,25,none⟩=some (.slice a.peer.a v.peer.length a.peer.c):=uJ.cell 25 rfl
  have x26:w2.cell? ⟨w.heap.size,26,none⟩=some (.slice a.out.a v.out.length a.out.c):=uJ.cell 26 rfl;have us:=Grows.refl (HH.out _ zO);obtain⟨K2,yw,rh,kh⟩:=sB us (dh HA.out) 22 (by simp);obtain⟨P2,Zx⟩:∃ P,w2.heap.size=P:=⟨_,rfl⟩
  obtain⟨z2,qn⟩:∃ z,w2.alloc (.cells #[.slice a.mine.a v.mine.length a.mine.c,.slice a.other.a v.other.length a.other.c,.slice a.priv.a v.priv.length a.priv.c,.slice a.gx.a v.gx.length a.gx.c,.slice a.gy.a v.gy.length a.gy.c,.slice a.h1.a v.h1.length a.h1.c,.slice a.th.a v.th.length a.th.c,.slice a.prk.a v.prk.length a.prk.c,.slice a.peer.a v.peer.length a.peer.c,.slice a.out.a v.out.length a.out.c] 22)=z:=⟨_,rfl⟩
  rw[Zx]at kh;rw[qn]at yw;have AL2:=Hh (tu z2 yw.holds (n:=10) rfl kh);have t8:=uJ.below yw.below;have yV:=zO.trans (yw.below.mono zO.size);have V4:=Hh (And.intro Zx qn);have V5:=Hh t8;clear us yw rh kh Zx qn uJ zO t8;go_wp2_with fail
  rw[V4.out.2];rw[V4.out.1]
  refine AL2.out.mono ?_
  rintro e w3 ⟨⟨b3,rfl,h3⟩,rfl⟩
  clear AL2 V4 x17 x18 x19 x20 x21 x22 x23 x24 x25 x26
  cases b3 with
  | false =>
   clear h3;go_wp2_with fail
   go_meet
   exact⟨true,rfl,(fun h=>by cases h),V5.out,yV⟩
  | true =>
  have H3:=Hh (h3 rfl).2;clear h3;have t8:=V5.out;have x27:w3.cell? ⟨w.heap.size,27,none⟩=some (.slice a.heard.a v.heard.length a.heard.c):=t8.cell 27 rfl;have x28:w3.cell? ⟨w.heap.size,28,none⟩=some (.slice a.sent.a v.sent.length a.sent.c):=t8.cell 28 rfl;have rO:=Grows.refl (HH.out _ yV);obtain⟨K3,yt,aK,Vq⟩:=sB rO (di HA.out) 22 (by simp);obtain⟨P3,kU⟩:∃ P,w3.heap.size=P:=⟨_,rfl⟩
  obtain⟨z3,fd⟩:∃ z,w3.alloc (.cells #[.slice a.heard.a v.heard.length a.heard.c,.slice a.sent.a v.sent.length a.sent.c] 22)=z:=⟨_,rfl⟩
  rw[kU]at Vq;rw[fd]at yt;have AL3:=Hh (tu z3 yt.holds (n:=2) rfl Vq);have ct:=t8.below yt.below;have xW:=yV.trans (yt.below.mono yV.size);have bw:=Hh (And.intro kU fd);have YP:=Hh ct;clear rO yt aK Vq kU fd t8 yV ct V5;go_wp2_with fail
  rw[bw.out.2];rw[bw.out.1]
  refine AL3.out.mono ?_
  rintro e w4 ⟨⟨b4,rfl,h4⟩,rfl⟩
  clear AL3 bw x27 x28
  cases b4 with
  | false =>
   clear h4;go_wp2_with fail
   go_meet
   exact⟨true,rfl,(fun h=>by cases h),YP.out,xW⟩
  | true =>
  have H4:=Hh (h4 rfl).2;clear h4;have x31:w4.cell? ⟨w.heap.size,31,none⟩=some (.slice a.refused.a v.refused.length a.refused.c):=YP.out.cell 31 rfl
  by_cases hrf:(300:Int)<(v.refused.length:Int)
  ·have d1:decide ((300:Int)<(v.refused.length:Int))=true:=decide_eq_true hrf;clear hrf;go_wp2_with fail
   go_meet
   exact⟨true,rfl,(fun h=>by cases h),YP.out,xW⟩
  have d1:decide ((300:Int)<(v.refused.length:Int))=false:=decide_eq_false hrf
  have gz:Hid v.Small:=by
   have g:=H3.out;have g4:=H4.out
   exact⟨WG.out,(by have:=g v.mine (by simp);omega),(by have:=g v.other (by simp);omega),(by have:=g v.priv (by simp);omega),(by have:=g v.gx (by simp);omega),(by have:=g v.gy (by simp);omega),(by have:=g v.h1 (by simp);omega),(by have:=g v.th (by simp);omega),(by have:=g v.prk (by simp);omega),(by have:=g v.peer (by simp);omega),(by have:=g v.out (by simp);omega),(by have:=g4 v.heard (by simp);omega),(by have:=g4 v.sent (by simp);omega),by omega⟩
  clear hrf;go_wp2_with fail
  go_meet
  exact⟨false,rfl,(fun _=>gz.out),YP.out,xW⟩
 case rest =>
 clear wS yY;obtain⟨b,rfl,gz,hX,hb⟩:=hcut
 cases b with
 | true =>
  clear hX gz;go_wp2_with fail
  refine(rG HT.out _ (HH.out _ hb)).mono ?_
  rintro e w2 ⟨rfl,tg⟩
  have zO:=hb.trans (tg.mono hb.size);clear hb tg;go_wp2_with fail
  go_ret
  exact⟨rfl,zO⟩
 | false =>
 replace gz:=Hh (gz.out rfl);go_wp2_with fail
 rw[← ev.out]
 refine(ZA HL.out wc).mono ?_
 rintro e w1 ⟨rfl,YU,ri⟩
 obtain⟨gd,rl⟩:∃ g,wc.heap.size=g:=⟨_,rfl⟩
 rw[ev.out,rl];rw[rl]at YU;have zd:=hb.trans (ri.mono hb.size);have hL:LK w H gd w1 H:=⟨Grows.of_below (HH.out _ (Below.refl _ _)) zd,⟨YU,HH.out _ zd,(HH.out _ hb).none_of_ge (by omega)⟩,by have:=hb.size;omega⟩
 have qb:BK w gd w.heap.size 34 (rnC v a) w1 H:=⟨hX.below ri,mh,by have:=hX.lt;omega,Nat.le_refl _⟩
 clear hX hb YU ri zd rl mh;go_wp2_with (with_reducible refine zJ ?_)
 refine wpList_load_row rfl _ _ rfl w.heap.size rfl _ (rnC v a) (0,0) _ qb.blk Tryz.underlying34 rfl za ?_
 have Xi:=Hh qb.blk.lt;go_wp2_with (with_reducible refine zx ?_)
 unfold zj
 obtain⟨Q8,Ya⟩:∃ Q,w1.heap.size=Q:=⟨_,rfl⟩
 rw[Ya]
 refine zr rfl _ _ _ rfl rfl Q8 (rnC v a) rfl rfl 34 yz (by have h:=Blk.new w1 34 yz;rw[Ya]at h;exact h) za rfl (xQ v a) fun u8 hB8 hg8=>?_
 have WU:=hL.made Ya hg8;have re:=hL.new Ya hB8;replace hL:=hL.grow WU;replace qb:=qb.grow WU;have ca:Hid (w.heap.size≠Q8):=by have:=qb.blk.lt;have:=WU.below.size;rw[Hid];intro e;have h:=Ya;have h2:=Xi.out;omega
 clear Ya hB8 hg8 WU;go_wp2_with fail
 refine(uk _ hL.deck 2 (by omega) (by omega)).mono ?_
 rintro e y0 ⟨m1,rfl,n6,hd⟩
 replace hL:=hL.step hd;replace qb:=qb.step hd;replace re:=re.step hd;clear hd;have qm1:IntKind.i64.wrap (1+(m1:Int))=1+(m1:Int):=IntWalk.i64_in _ (by omega);go_wp2_with fail
 refine(uk _ hL.deck 5 (by omega) (by omega)).mono ?_
 rintro e y1 ⟨m2,rfl,j4,hd⟩
 replace hL:=hL.step hd;replace qb:=qb.step hd;replace re:=re.step hd;clear hd;have qm2:IntKind.i64.wrap (1+(m2:Int))=1+(m2:Int):=IntWalk.i64_in _ (by omega);go_wp2_with fail
 refine(uk _ hL.deck 8 (by omega) (by omega)).mono ?_
 rintro e y2 ⟨m3,rfl,kY,hd⟩
 replace hL:=hL.step hd;replace qb:=qb.step hd;replace re:=re.step hd;clear hd;go_wp2_with fail
 refine(uk _ hL.deck 40 (by omega) (by omega)).mono ?_
 rintro e y3 ⟨m4,rfl,Yj,hd⟩
 replace hL:=hL.step hd;replace qb:=qb.step hd;replace re:=re.step hd;clear hd;have HM:=Hh (And.intro n6 (And.intro j4 (And.intro kY Yj)));clear n6 j4 kY Yj;go_wp2_with (with_reducible refine zx ?_)
 refine zv rfl _ _ _ rfl rfl Q8 0 (.int .i64 (1+(m1:Int))) rfl rfl _ _ re.blk (by kernel_rfl) (by simp) rfl fun wt hBt hgt=>?_
 replace hL:=hL.put re hgt;replace qb:=qb.other ca.out hgt;replace re:=re.set (cs':=rnC { v with role:=1+(m1:Int) } a) hBt;clear hBt hgt;go_wp2_with (with_reducible refine zx ?_)
 refine zv rfl _ _ _ rfl rfl Q8 1 (.int .i64 (1+(m2:Int))) rfl rfl _ _ re.blk (by kernel_rfl) (by simp) rfl fun wt hBt hgt=>?_
 replace hL:=hL.put re hgt;replace qb:=qb.other ca.out hgt;replace re:=re.set (cs':=rnC { v with role:=1+(m1:Int),phase:=1+(m2:Int) } a) hBt;clear hBt hgt;go_wp2_with (with_reducible refine zx ?_)
 refine zv rfl _ _ _ rfl rfl Q8 30 (.int .i64 ((m3:Int))) rfl rfl _ _ re.blk (by kernel_rfl) (by simp) rfl fun wt hBt hgt=>?_
 replace hL:=hL.put re hgt;replace qb:=qb.other ca.out hgt;replace re:=re.set (cs':=rnC { v with role:=1+(m1:Int),phase:=1+(m2:Int),count:=(m3:Int) } a) hBt;clear hBt hgt;go_wp2_with (with_reducible refine zx ?_)
 refine zv rfl _ _ _ rfl rfl Q8 29 (.int .i64 ((m4:Int))) rfl rfl _ _ re.blk (by kernel_rfl) (by simp) rfl fun wt hBt hgt=>?_
 replace hL:=hL.put re hgt;replace qb:=qb.other ca.out hgt;replace re:=re.set (cs':=rnC { v with role:=1+(m1:Int),phase:=1+(m2:Int),count:=(m3:Int),due:=(m4:Int) } a) hBt;clear hBt hgt;have fS:=Hh (HA.out.upd4 (1+(m1:Int)) (1+(m2:Int)) (m3:Int) (m4:Int));have TX:=Hh (gz.out.upd4 (1+(m1:Int)) (1+(m2:Int)) (m3:Int) (m4:Int));obtain⟨x,hx⟩:∃ x:Rn,{ v with role:=1+(m1:Int),phase:=1+(m2:Int),count:=(m3:Int),due:=(m4:Int) }=x:=⟨_,rfl⟩
 rw[hx]at re fS TX;clear hx qm1 qm2 HM;go_wp2_with (with_reducible refine zJ ?_)
 refine wpList_load_row rfl _ _ rfl w.heap.size rfl _ (rnC v a) (0,0) _ qb.blk Tryz.underlying34 rfl za ?_
 go_wp2_with (with_reducible refine zJ ?_)
 refine wpList_load_row rfl _ _ rfl Q8 rfl _ (rnC x a) (0,0) _ re.blk Tryz.underlying34 rfl za ?_
 go_wp2_with (with_reducible refine lb ?_)
 unfold zj
 obtain⟨R,hR⟩:∃ R,wt.heap.size=R:=⟨_,rfl⟩
 refine qt rfl _ rfl (rnC v a) (rnC x a) (qk v a) (qk x a) (by rw[Array.toList_map];rfl) ?_
 rw[hR];have ZT:=Blk.new wt 34 ((rnC v a).toList++((rnC x a).toList++[])).toArray;rw[hR]at ZT;have wG:=hL.new hR ZT;have Tw:=(Grows.refl hL.deck.holds).alloc (.cells ((rnC v a).toList++((rnC x a).toList++[])).toArray 34);replace hL:=hL.grow Tw;obtain⟨wa,aS⟩:∃ wa,wt.alloc (.cells ((rnC v a).toList++((rnC x a).toList++[])).toArray 34)=wa:=⟨_,rfl⟩
 rw[aS]at wG hL⊢;clear ZT Tw aS hR qb re ca Xi;go_wp2_with fail
 go_loopw [87] (fun v87 wr=>∃ (j:Nat) (Hr:Snap),v87=.int .i64 (j:Int)∧Hid (j≤2)∧LK w H gd wr Hr∧BK w gd R 34 ((rnC v a).toList++((rnC x a).toList++[])).toArray wr Hr) (fun v87 _=>3-(intOf v87).toNat)
 case atStart=>exact⟨0,H,rfl,by rw[Hid];omega,hL,wG⟩
 case round =>
 clear hL wG;obtain⟨j,Hr,rfl,HJ,hL,wG⟩:=hrel
 by_cases z6:(j:Int)<2
 ·have TN:Hid (j+1≤2):=by rw[Hid];omega
  have XG:(j:Int)+1≤9223372036854775807:=by omega
  go_upto_block 1 with fail
  go_cut [] (fun wx=>∃ Hx,LK w H gd wx Hx∧BK w gd R 34 ((rnC v a).toList++((rnC x a).toList++[])).toArray wx Hx)
  case first =>
   have qw:∃ (y:Rn),wr.rangeAt R (j*32) (rnC y a).toList∧Hid (IsRn H y a)∧Hid y.Small:=by
    have h2:=ZE (qk v a) wG
    rcases(by omega:j=0∨j=1) with rfl | rfl
    ·exact⟨v,h2.1,HA.out,gz.out⟩
    exact⟨x,h2.2,fS.out,TX.out⟩
   obtain⟨y,Tv,HY,YQ⟩:=qw;go_wp2_with (with_reducible refine zJ ?_)
   refine qs rfl _ rfl R (j*32) rfl (rnC y a) (qk y a) Tv ?_
   clear Tv;go_wp2_with (with_reducible refine zx ?_)
   unfold zj
   obtain⟨QK,Xw⟩:∃ Q,wr.heap.size=Q:=⟨_,rfl⟩
   rw[Xw]
   refine zr rfl _ _ _ rfl rfl QK (rnC y a) rfl rfl 34 yz (by have h:=Blk.new wr 34 yz;rw[Xw]at h;exact h) za rfl (xQ y a) fun uK hBK hgK=>?_
   have VJ:=hL.made Xw hgK;have uI:=hL.new Xw hBK;replace hL:=hL.grow VJ;replace wG:=wG.grow VJ;clear Xw hBK hgK VJ;obtain⟨cn,fE⟩:∃ q,y.count=q:=⟨_,rfl⟩
   obtain⟨du,fF⟩:∃ q,y.due=q:=⟨_,rfl⟩
   have k30:uK.cell? ⟨QK,30,none⟩=some (.int .i64 cn):=by rw[← fE];exact uI.blk.cell 30 rfl
   have k29:uK.cell? ⟨QK,29,none⟩=some (.int .i64 du):=by rw[← fF];exact uI.blk.cell 29 rfl
   have Rg:=Hh (And.intro fE fF);clear fE fF
   by_cases h1:cn<0
   ·have d1:decide (cn<0)=true:=decide_eq_true h1;go_wp2_with fail
    go_meet
    exact⟨_,hL,wG⟩
   have d1:decide (cn<0)=false:=decide_eq_false h1
   by_cases h2:20<cn
   ·have d2:decide (20<cn)=true:=decide_eq_true h2;go_wp2_with fail
    go_meet
    exact⟨_,hL,wG⟩
   have d2:decide (20<cn)=false:=decide_eq_false h2
   by_cases h3:1099511627776<du
   ·have d3:decide (1099511627776<du)=true:=decide_eq_true h3;go_wp2_with fail
    go_meet
    exact⟨_,hL,wG⟩
   have d3:decide (1099511627776<du)=false:=decide_eq_false h3
   by_cases h4:du < -1099511627776
   ·have d4:decide (du < -1099511627776)=true:=decide_eq_true h4;go_wp2_with fail
    go_meet
    exact⟨_,hL,wG⟩
   have d4:decide (du < -1099511627776)=false:=decide_eq_false h4;have HC:Hid (0≤y.count∧y.count≤20):=by rw[Hid,Rg.out.1];omega
   clear h1 h2 h3 h4;go_wp2_with fail
   refine(uk _ hL.deck 60 (by omega) (by omega)).mono ?_
   rintro e w5 ⟨m5,rfl,YC,hd⟩
   replace hL:=hL.step hd;replace wG:=wG.step hd;replace uI:=uI.step hd;clear hd d1 d2 d3 d4 k29 k30;have VF:=Blk.new w5 3 #[.int .i64 n,.int .i64 (m5:Int)];obtain⟨RI,WV⟩:∃ R,w5.heap.size=R:=⟨_,rfl⟩
   rw[WV]at VF;have rA:=hL.new WV VF;have WS:=(Grows.refl hL.deck.holds).alloc (.cells #[.int .i64 n,.int .i64 (m5:Int)] 3);replace hL:=hL.grow WS;replace wG:=wG.grow WS;replace uI:=uI.grow WS;obtain⟨w6,kj⟩:∃ w6,w5.alloc (.cells #[.int .i64 n,.int .i64 (m5:Int)] 3)=w6:=⟨_,rfl⟩
   rw[kj]at rA hL wG uI;have Xh:=Hh (And.intro WV kj);clear VF WS WV kj YC;go_wp2_with fail
   try rw[Xh.out.2]
   try rw[Xh.out.1]
   clear Xh;go_loopw [114] (fun v114 wr=>∃ (i:Nat) (Hs:Snap),v114=.int .i64 (i:Int)∧Hid (i≤2)∧LK w H gd wr Hs∧BK w gd R 34 ((rnC v a).toList++((rnC x a).toList++[])).toArray wr Hs∧BK w gd QK 34 (rnC y a) wr Hs∧BK w gd RI 3 #[.int .i64 n,.int .i64 (m5:Int)] wr Hs) (fun v114 _=>3-(intOf v114).toNat)
   case atStart=>exact⟨0,_,rfl,by rw[Hid];omega,hL,wG,uI,rA⟩
   case round =>
   clear hL wG uI rA;obtain⟨i,Hs,rfl,HI,hL,wG,uI,rA⟩:=hrel
   by_cases Vh:(i:Int)<2
   ·have TL:Hid (i+1≤2):=by rw[Hid];omega
    have XF:(i:Int)+1≤9223372036854775807:=by omega
    go_upto_block 3 with fail
    go_cut [] (fun wx=>∃ Hx,LK w H gd wx Hx∧BK w gd R 34 ((rnC v a).toList++((rnC x a).toList++[])).toArray wx Hx∧BK w gd QK 34 (rnC y a) wx Hx∧BK w gd RI 3 #[.int .i64 n,.int .i64 (m5:Int)] wx Hx)
    case first =>
     have qw:∃ nn:Int,wr.cell? ⟨RI,i,none⟩=some (.int .i64 nn):=by
      rcases(by omega:i=0∨i=1) with rfl | rfl
      ·exact⟨n,rA.blk.cell 0 rfl⟩
      exact⟨(m5:Int),rA.blk.cell 1 rfl⟩
     obtain⟨nn,q0⟩:=qw
     by_cases h1:1099511627776<nn
     ·have d1:decide (1099511627776<nn)=true:=decide_eq_true h1;clear h1;go_wp2_with fail
      go_meet
      exact⟨_,hL,wG,uI,rA⟩
     have d1:decide (1099511627776<nn)=false:=decide_eq_false h1
     by_cases h2:nn < -1099511627776
     ·have d2:decide (nn < -1099511627776)=true:=decide_eq_true h2;clear h1 h2;go_wp2_with fail
      go_meet
      exact⟨_,hL,wG,uI,rA⟩
     have d2:decide (nn < -1099511627776)=false:=decide_eq_false h2;have ce:Hid (-1099511627776≤nn∧nn≤1099511627776):=by rw[Hid];omega
     clear h1 h2;go_upto_region 14 with fail
     go_wp2_with (with_reducible refine zJ ?_)
     refine wpList_load_row rfl _ _ rfl QK rfl _ (rnC y a) (0,0) _ uI.blk Tryz.underlying34 rfl za ?_
     obtain⟨ty,tl,aR⟩:∃ r l,vy y nn=(r,l):=⟨_,_,rfl⟩
     have WH:=Hh (show ty.Small∧tl.length≤1099511 from by have h:=ld YQ.out nn;rw[aR]at h;exact h);have Xf:=Hh aR;clear aR;go_wp2_with fail
     refine(nG (HY.out.mono hL.grows.le) YQ.out nn ce.out HC.out _ hL.deck.holds).mono ?_
     rintro e w7 ht7
     obtain⟨a7,A7,c7,H7,rfl,xp,i7,b7⟩:=ht7.get Xf.out;replace hL:=hL.grow xp;replace wG:=wG.grow xp;replace uI:=uI.grow xp;replace rA:=rA.grow xp;clear xp q0 d1 d2;go_wp2_with (with_reducible refine zx ?_)
     unfold zj
     obtain⟨QA,fC⟩:∃ Q,w7.heap.size=Q:=⟨_,rfl⟩
     rw[fC]
     refine zr rfl _ _ _ rfl rfl QA (rnC ty a7) rfl rfl 34 yz (by have h:=Blk.new w7 34 yz;rw[fC]at h;exact h) za rfl (xQ ty a7) fun uA hBA hgA=>?_
     have cq:=hL.made fC hgA;have mv:=hL.new fC hBA;replace hL:=hL.grow cq;replace wG:=wG.grow cq;replace uI:=uI.grow cq;replace rA:=rA.grow cq;clear fC hBA hgA cq;go_wp2_with (with_reducible refine zJ ?_)
     refine wpList_load_row rfl _ _ rfl QK rfl _ (rnC y a) (0,0) _ uI.blk Tryz.underlying34 rfl za ?_
     go_wp2_with fail
     refine(jY (HY.out.mono hL.grows.le) YQ.out nn ce.out HC.out _ hL.deck.holds).mono ?_
     rintro e w8 Yn
     obtain⟨a8,A8,c8,H8,rfl,ur,i8,b8⟩:=Yn.get Xf.out;replace hL:=hL.grow ur;replace wG:=wG.grow ur;replace uI:=uI.grow ur;replace rA:=rA.grow ur;replace mv:=mv.grow ur;replace i7:=i7.mono ur.le;replace b7:=b7.mono ur.le;clear ur;go_wp2_with (with_reducible refine zx ?_)
     unfold zj
     obtain⟨QB,fD⟩:∃ Q,w8.heap.size=Q:=⟨_,rfl⟩
     rw[fD]
     refine zr rfl _ _ _ rfl rfl QB (rnC ty a8) rfl rfl 34 yz (by have h:=Blk.new w8 34 yz;rw[fD]at h;exact h) za rfl (xQ ty a8) fun uB hBB hgB=>?_
     have fB:=hL.made fD hgB;have cr:=hL.new fD hBB;replace hL:=hL.grow fB;replace wG:=wG.grow fB;replace uI:=uI.grow fB;replace rA:=rA.grow fB;replace mv:=mv.grow fB;clear fD hBB hgB fB;go_wp2_with (with_reducible refine zJ ?_)
     refine wpList_load_row rfl _ _ rfl QA rfl _ (rnC ty a7) (0,0) _ mv.blk Tryz.underlying34 rfl za ?_
     go_wp2_with (with_reducible refine zJ ?_)
     refine wpList_load_row rfl _ _ rfl QB rfl _ (rnC ty a8) (0,0) _ cr.blk Tryz.underlying34 rfl za ?_
     go_wp2_with fail
     refine(jX i7 i8 WH.out.1 _ hL.deck.holds).mono ?_
     rintro e w9 ⟨rfl,cH⟩
     replace hL:=hL.below cH;replace wG:=wG.below cH;replace uI:=uI.below cH;replace rA:=rA.below cH;clear cH mv cr;go_wp2_with fail
     refine(xr _ hL.deck.holds rfl rfl (by have:=WH.out.2;omega) b7 b8).mono ?_
     rintro e w10 ⟨rfl,ec⟩
     replace hL:=hL.below ec;replace wG:=wG.below ec;replace uI:=uI.below ec;replace rA:=rA.below ec;clear ec;go_wp2_with fail
     go_meet
     exact⟨_,hL,wG,uI,rA⟩
    case rest =>
    clear hL wG uI rA;obtain⟨Hx,hL,wG,uI,rA⟩:=hcut;go_wp2_with fail
    go_roundw
    case rel=>exact⟨i+1,Hx,by go_num,TL.out,hL,wG,uI,rA⟩
    case measure=>have:=TL.out;simp[intOf];omega
   have hid:decide ((i:Int)<2)=false:=decide_eq_false Vh;clear rA Vh;obtain⟨xi,xk,aR⟩:∃ r l,xD y=(r,l):=⟨_,_,rfl⟩
   have WH:=Hh (show xi.Small from by have h:=pD YQ.out;rw[aR]at h;exact h);have Xf:=Hh aR;clear aR;go_upto_region 19 with fail
   go_wp2_with (with_reducible refine zJ ?_)
   refine wpList_load_row rfl _ _ rfl QK rfl _ (rnC y a) (0,0) _ uI.blk Tryz.underlying34 rfl za ?_
   go_wp2_with fail
   refine(pW (HY.out.mono hL.grows.le) YQ.out _ hL.deck.holds).mono ?_
   rintro e w7 ht7
   obtain⟨a7,H7,rfl,xp,i7⟩:=ht7.get Xf.out;replace hL:=hL.grow xp;replace wG:=wG.grow xp;replace uI:=uI.grow xp;clear xp;go_wp2_with (with_reducible refine zx ?_)
   unfold zj
   obtain⟨QA,fC⟩:∃ Q,w7.heap.size=Q:=⟨_,rfl⟩
   rw[fC]
   refine zr rfl _ _ _ rfl rfl QA (tK xi a7) rfl rfl 47 ve (by have h:=Blk.new w7 47 ve;rw[fC]at h;exact h) yL rfl (iR xi a7) fun uA hBA hgA=>?_
   have cq:=hL.made fC hgA;have mv:=hL.new fC hBA;replace hL:=hL.grow cq;replace wG:=wG.grow cq;replace uI:=uI.grow cq;clear fC hBA hgA cq;go_wp2_with (with_reducible refine zJ ?_)
   refine wpList_load_row rfl _ _ rfl QK rfl _ (rnC y a) (0,0) _ uI.blk Tryz.underlying34 rfl za ?_
   go_wp2_with fail
   refine(nE (HY.out.mono hL.grows.le) YQ.out _ hL.deck.holds).mono ?_
   rintro e w8 Yn
   obtain⟨a8,H8,rfl,ur,i8⟩:=Yn.get Xf.out;replace hL:=hL.grow ur;replace wG:=wG.grow ur;replace mv:=mv.grow ur;replace i7:=i7.mono ur.le;clear ur uI;go_wp2_with (with_reducible refine zx ?_)
   unfold zj
   obtain⟨QB,fD⟩:∃ Q,w8.heap.size=Q:=⟨_,rfl⟩
   rw[fD]
   refine zr rfl _ _ _ rfl rfl QB (tK xi a8) rfl rfl 47 ve (by have h:=Blk.new w8 47 ve;rw[fD]at h;exact h) yL rfl (iR xi a8) fun uB hBB hgB=>?_
   have fB:=hL.made fD hgB;have cr:=hL.new fD hBB;replace hL:=hL.grow fB;replace wG:=wG.grow fB;replace mv:=mv.grow fB;clear fD hBB hgB fB;have p0:uB.cell? ⟨QA,0,none⟩=some (.slice a7.secret.a xi.secret.length a7.secret.c):=mv.blk.cell 0 rfl;have p1:uB.cell? ⟨QA,1,none⟩=some (.slice a7.salt.a xi.salt.length a7.salt.c):=mv.blk.cell 1 rfl;have p2:uB.cell? ⟨QA,2,none⟩=some (.bool xi.has):=mv.blk.cell 2 rfl;have p3:uB.cell? ⟨QA,3,none⟩=some (.slice a7.ctx.a xi.ctx.length a7.ctx.c):=mv.blk.cell 3 rfl;have p4:uB.cell? ⟨QA,4,none⟩=some (.slice a7.sender.a xi.sender.length a7.sender.c):=mv.blk.cell 4 rfl;have p5:uB.cell? ⟨QA,5,none⟩=some (.slice a7.recip.a xi.recip.length a7.recip.c):=mv.blk.cell 5 rfl;have q0:uB.cell? ⟨QB,0,none⟩=some (.slice a8.secret.a xi.secret.length a8.secret.c):=cr.blk.cell 0 rfl;have q1:uB.cell? ⟨QB,1,none⟩=some (.slice a8.salt.a xi.salt.length a8.salt.c):=cr.blk.cell 1 rfl
   have q2:uB.cell? ⟨QB,2,none⟩=some (.bool xi.has):=cr.blk.cell 2 rfl;have q3:uB.cell? ⟨QB,3,none⟩=some (.slice a8.ctx.a xi.ctx.length a8.ctx.c):=cr.blk.cell 3 rfl;have q4:uB.cell? ⟨QB,4,none⟩=some (.slice a8.sender.a xi.sender.length a8.sender.c):=cr.blk.cell 4 rfl;have q5:uB.cell? ⟨QB,5,none⟩=some (.slice a8.recip.a xi.recip.length a8.recip.c):=cr.blk.cell 5 rfl;obtain⟨f1,f2,f3⟩:=yO xk;go_wp2_with fail
   refine(qp i7 i8 WH.out _ hL.deck.holds).mono ?_
   rintro e w9 ⟨rfl,cH⟩
   replace hL:=hL.below cH;replace wG:=wG.below cH;clear cH mv cr p0 q0 p1 q1 p2 q2 p3 q3 p4 q4 p5 q5;go_wp2_with fail
   go_meet
   exact⟨_,hL,wG⟩
  case rest =>
  clear hL wG;obtain⟨Hx,hL,wG⟩:=hcut;go_wp2_with fail
  go_roundw
  case rel=>exact⟨j+1,Hx,by go_num,TN.out,hL,wG⟩
  case measure=>have:=TN.out;simp[intOf];omega
 have hid:decide ((j:Int)<2)=false:=decide_eq_false z6;go_wp2_with fail
 refine(rG (HT.out.mono hL.grows.le) _ hL.deck.holds).mono ?_
 rintro e w2 ⟨rfl,tg⟩
 have zO:=hL.grows.below.trans (tg.mono hL.grows.below.size);clear hL wG tg;go_wp2_with fail
 go_ret
 exact⟨rfl,zO⟩
end Go.Proofs.YtnfoilblmhbobaaGreatDoor
