/- squeezed. Rows of items that a call owns bes -/
import Derived.Test.YtgaoknihklmakabGreatDoorK20
set_option linter.unusedVariables false
set_option linter.unusedSimpArgs false
set_option maxRecDepth 100000
set_option maxHeartbeats 25600000
namespace Go.Proofs.YtgaoknihklmakabGreatDoor
open Go.RowKit
theorem jcy{P:Prop}(h:P:=by exact hP.box.cell 0 rfl):P:=h
theorem jcY{P:Prop}(h:P:=by exact hP.key.cell 0 rfl):P:=h
theorem jda{P:Prop}(h:P:=by exact⟨hP.box.cell 0 rfl,hP.row.key.cell 2 rfl⟩):P:=h
theorem jdb{P:Prop}(h:P:=by exact⟨hP.box.cell 0 rfl,hP.row.key.cell 1 rfl⟩):P:=h
theorem jf4{P:Prop}(h:P:=by have HL:=Hh (And.intro hm tI.out);exact HL):P:=h
theorem jgb{P:Prop}(h:P:=by have hP:=hP.app hown7 yQ hat7;exact hP):P:=h
theorem jgc{P:Prop}(h:P:=by have hP:=hP.grow zM;have vp:=vp.mono zM.le;exact And.intro hP vp):P:=h
theorem jgl{P:Prop}(h:P:=by have hP:=RS.nil ((Grows.refl hH).alloc (.cells (uO t v g Ai kid.length ci Ax x.length cx Ad d.length cd Ak k.length ck) 61)) (hH.none_of_ge (Nat.le_refl _)) (Blk.new w 61 (uO t v g Ai kid.length ci Ax x.length cx Ad d.length cd Ak k.length ck));exact hP):P:=h
theorem jgL{P:Prop}(h:P:=by have hP:=jU _ _ X2 (L++[X1,X2]) (ItemsC.one rV) (by rw[List.append_assoc];rfl) hB12 hg12;exact hP):P:=h
theorem jgO{P:Prop}(h:P:=by have hP:=hP.grow xg;exact hP):P:=h
theorem jhE{P:Prop}(h:P:=by have hP:=jT _ _ X1 (L++[X1,zQ]) (ItemsC.one vp) rfl iI yO;exact hP):P:=h
theorem jh4{P:Prop}(h:P:=by have oS:IntKind.i64.wrap ((m:Int)+1)=(m:Int)+1:=IntWalk.i64_in _ (by have:=tI.out;omega);exact oS):P:=h
theorem OwnI.lit2 {w:World}{H:Snap}{l:List Itm}{cs:List Value}(h:ItemsC H cs l) (base:Nat) (hb:base≤w.heap.size) (hm:l.length≤4096) :
  OwnI (w.alloc (.cells cs.toArray 83)) base (.slice (some ⟨w.heap.size,0,none⟩) l.length l.length) H l:=by
 exact jb6
theorem Ss (cs:Array Value) (a b c d:List Value) (h:cs.toList.take (a.length+b.length+c.length)=a++b++c) (hd:d.length=b.length) :
  (oI cs a.length d).toList.take (a.length+d.length+c.length)=a++d++c:=by
 have hz:a.length+b.length+c.length≤cs.size:=by
  have h1:=congrArg List.length h
  simp only[List.length_take,List.length_append,Array.length_toList]at h1
  omega
 apply List.ext_getElem?
 intro j
 have hj:(cs.toList.take (a.length+b.length+c.length))[j]? = (a++b++c)[j]? :=by rw[h]
 simp only[List.getElem?_take,List.getElem?_append,Array.getElem?_toList,lB,List.length_append]at hj⊢
 by_cases h1:j<a.length
 ·rw[if_pos (by omega),if_neg (by omega),if_pos (by omega),if_pos h1];rw[if_pos (by omega),if_pos (by omega),if_pos h1]at hj
  exact hj
 by_cases h2:j<a.length+d.length
 ·rw[if_pos (by omega),if_pos (by omega),if_pos h2,if_neg h1]
 by_cases h3:j<a.length+d.length+c.length
 ·rw[if_pos h3,if_neg (by omega),if_neg h2];rw[if_pos (by omega),if_neg (by omega)]at hj;rw[hj,hd]
 rw[if_neg h3,if_neg h2];symm
 rw[List.getElem?_eq_none_iff]
 omega
theorem OwnI.put {w:World}{base:Nat}{A:Option Addr}{m c:Nat}{H:Snap}{l1 l2:List Itm}{z:Itm}(h:OwnI w base (.slice A m c) H (l1++z::l2)) :
  ∃ g cur,A=some ⟨g,0,none⟩∧base≤g∧Blk w g 83 cur∧l1.length*4+4≤cur.size∧
   ∀ (w':World) (cells:List Value) (y:Itm),ItemsC H cells [y]→Blk w' g 83 (oI cur (l1.length*4) cells)→OwnI w' base (.slice A m c) H (l1++y::l2):=by
 obtain⟨cs,oV,h⟩:=h
 rcases h.2 with ⟨hv,hz⟩ | ⟨g,cap,cur,hv,hb,hg,hc,hm,hcz,ht⟩
 ·simp at hz
 cases hv
 have hs:=oV.split l1.length;rw[List.take_left,List.drop_left]at hs
 obtain⟨ba,bc,ia,ic,rest,he,hi,hr⟩:∃ ba bc ia ic rest,cs.drop (l1.length*4)=ze z ba bc ia ic++rest∧IsItem H ba bc ia ic z∧ItemsC H rest l2:=by
  have h2:=hs.2;rw[ItemsC]at h2;obtain⟨ba,bc,ia,ic,rest,h2⟩:=h2
  exact⟨ba,bc,ia,ic,rest,h2.1,h2.2⟩
 have xF:=hs.1.len;have PG:=hr.len;have rE:=oV.len;have e:cs=cs.take (l1.length*4)++ze z ba bc ia ic++rest:=by rw[List.append_assoc,← he,List.take_append_drop]
 have fB:l1.length*4+4≤cur.size:=by
  have hx:(l1++z::l2).length*4≤c*4:=Nat.mul_le_mul_right _ hc
  simp only[List.length_append,List.length_cons]at hx
  omega
 refine⟨g,cur,rfl,hb,hg,fB,fun w' cells y hy hB=>⟨cs.take (l1.length*4)++cells++rest,by
   have h3:=(hs.1.app hy).app hr
   simpa using h3, ?_,.inr ⟨g,c,_,by simp,hb,hB,by simpa using hc,hm,by rw[jt,hcz], ?_⟩⟩⟩
 ·have:=hy.len
  simp only[List.length_append,List.length_cons,List.length_nil]at this xF PG rE⊢
  omega
 have yF:=hy.len
 have hk:=Ss cur (cs.take (l1.length*4)) (ze z ba bc ia ic) rest cells (by
  rw[← e]
  have e4:(cs.take (l1.length*4)).length+(ze z ba bc ia ic).length+rest.length=(l1++z::l2).length*4:=by
   rw[xF,PG]
   simp[ze]
   omega
  rw[e4]
  exact ht) (by rw[yF];simp[ze])
 rw[xF]at hk
 have e5:(l1++y::l2).length*4=l1.length*4+cells.length+rest.length:=by
  rw[yF,PG]
  simp
  omega
 rw[e5]
 exact hk
structure RS (W0:World) (H:Snap) (kc:Array Value) (v:Value) (L:List Itm) (w:World) (Hr:Snap):Prop where
 grows:Grows W0 H w Hr
 hK:Hr W0.heap.size=none
 key:Blk w W0.heap.size 61 kc
 own:OwnI w (W0.heap.size+1) v Hr L
 apart:∀ g,v.ownBlock=some g→Hr g=none
section
variable {W0 w w':World} {H Hr Hs:Snap} {kc:Array Value} {v v':Value} {L news:List Itm}
theorem RS.grow (h:RS W0 H kc v L w Hr) (k:Grows w Hr w' Hs):RS W0 H kc v L w' Hs :=
 ⟨h.grows.trans k,k.none h.hK h.key.lt,h.key.below k.below,(h.own.below k.below).mono k.le,fun g hg=>k.none (h.apart g hg) (h.own.lt g hg).2⟩
theorem RS.below (h:RS W0 H kc v L w Hr) (k:Below w.heap.size w w'):RS W0 H kc v L w' Hr:=h.grow (Grows.of_below h.grows.holds k)
theorem RS.alloc (h:RS W0 H kc v L w Hr) (o:Obj):RS W0 H kc v L (w.alloc o) Hr:=h.below (zm w o)
theorem RS.drew (h:RS W0 H kc v L w Hr):RS W0 H kc v L w.drew Hr:=h.below (Below.refl _ _).drew
theorem RS.base (h:RS W0 H kc v L w Hr):W0.heap.size+1≤w.heap.size:=by have:=h.key.lt;omega
theorem RS.litZ (h:RS W0 H kc v L w Hr) (cs:Array Value) (e:TypeId):Src (w.alloc (.cells cs e)) (some ⟨w.heap.size,0,none⟩) cs.toList:=Src.lit w cs e
theorem RS.app (h:RS W0 H kc v L w Hr) (hO:OwnI w' (W0.heap.size+1) v' Hr (L++news)) (hg:w.grownBy w' v.ownBlock) (ha:At0 w v.ownBlock v'.ownBlock):RS W0 H kc v' (L++news) w' Hr :=
 ⟨h.grows.grownRow h.apart (fun g hg=>by have:=(h.own.lt g hg).1;omega) hg,h.hK,h.key.grown hg (fun e=>by have:=(h.own.lt _ e).1;omega),hO,fun g hv=>by
  rcases ha with e | ⟨g',e,hs⟩
  ·exact jb0
  rw[hv]at e;injection e with e
  subst e
  exact h.grows.hidden hs⟩
theorem RS.lit {cs:List Value}{l:List Itm}(hG:Grows W0 H w Hr) (hK:Hr W0.heap.size=none) (hk:Blk w W0.heap.size 61 kc) (hc:ItemsC Hr cs l) (hm:l.length≤4096) :
  RS W0 H kc (.slice (some ⟨w.heap.size,0,none⟩) l.length l.length) l (w.alloc (.cells cs.toArray 83)) Hr :=
 ⟨hG.alloc _,hK,hk.alloc _,OwnI.lit2 hc _ (by have:=hk.lt;omega) hm,fun g hg=>by
  simp[Value.ownBlock]at hg
  subst hg
  exact hG.hidden (Nat.le_refl _)⟩
end
structure PM (W0:World) (H:Snap) (B:Nat) (kc:Array Value) (bv v:Value) (L:List Itm) (w:World) (Hr:Snap):Prop where
 row:RS W0 H kc v L w Hr
 lt:W0.heap.size<B
 hB:Hr B=none
 box:Blk w B 81 #[bv]
 far:v.ownBlock≠some B
section
variable {W0 w w':World} {H Hr Hs:Snap} {B:Nat} {kc:Array Value} {bv v v':Value} {L L1 L2 news:List Itm} {z:Itm}
theorem PM.grow (h:PM W0 H B kc bv v L w Hr) (k:Grows w Hr w' Hs):PM W0 H B kc bv v L w' Hs :=
 ⟨h.row.grow k,h.lt,k.none h.hB h.box.lt,h.box.below k.below,h.far⟩
theorem PM.below (h:PM W0 H B kc bv v L w Hr) (k:Below w.heap.size w w'):PM W0 H B kc bv v L w' Hr:=h.grow (Grows.of_below h.row.grows.holds k)
theorem PM.alloc (h:PM W0 H B kc bv v L w Hr) (o:Obj):PM W0 H B kc bv v L (w.alloc o) Hr:=h.below (zm w o)
theorem PM.drew (h:PM W0 H B kc bv v L w Hr):PM W0 H B kc bv v L w.drew Hr:=h.below (Below.refl _ _).drew
theorem PM.app (h:PM W0 H B kc bv v L w Hr) (hO:OwnI w' (W0.heap.size+1) v' Hr (L++news)) (hg:w.grownBy w' v.ownBlock) (ha:At0 w v.ownBlock v'.ownBlock):PM W0 H B kc bv v' (L++news) w' Hr :=
 ⟨h.row.app hO hg ha,h.lt,h.hB,h.box.grown hg h.far,by
  rcases ha with e | ⟨g',e,hs⟩
  ·rw[e];exact h.far
  rw[e]
  intro e2
  injection e2 with e2
  have:=h.box.lt
  omega⟩
theorem PM.put {A:Option Addr}{m c i:Nat}{Lf:List Itm}(h:PM W0 H B kc bv (.slice A m c) Lf w Hr) (e:Lf=L1++z::L2) (hi:i=L1.length) :
  ∃ g cur,A=some ⟨g,0,none⟩∧Blk w g 83 cur∧i*4+4≤cur.size∧
   ∀ (w':World) (cells:List Value) (y:Itm) (Lg:List Itm),ItemsC Hr cells [y]→Lg=L1++y::L2→Blk w' g 83 (oI cur (i*4) cells)→w.grownBy w' (some g)→PM W0 H B kc bv (.slice A m c) Lg w' Hr:=by
 subst e;subst hi;obtain⟨g,cur,rfl,hb,hB,hs,GI⟩:=h.row.own.put;have bX:=h.row.apart g (by simp[Value.ownBlock]);have Ct:g≠B:=fun e=>h.far (by simp[Value.ownBlock,e])
 exact⟨g,cur,rfl,hB,hs,fun w' cells y Lg hy e hB' hgr=>by
  subst e
  exact⟨⟨h.row.grows.grownOwn bX (by omega) hgr,h.row.hK,h.row.key.grown hgr (fun e=>by injection e with e;omega),GI w' cells y hy hB',h.row.apart⟩,h.lt,h.hB,h.box.grown hgr (fun e=>by injection e with e;exact Ct e),h.far⟩⟩
theorem PM.setBox (h:PM W0 H B kc bv v L w Hr) (hB:Blk w' B 81 #[v']) (hg:w.grownBy w' (some B)):PM W0 H B kc v' v L w' Hr :=
 ⟨⟨h.row.grows.grownOwn h.hB (by have:=h.lt;omega) hg,h.row.hK,h.row.key.grown hg (fun e=>by injection e with e;have:=h.lt;omega),h.row.own.kept hg (.inr h.far),h.row.apart⟩,h.lt,h.hB,hB,h.far⟩
theorem PM.litZ (h:PM W0 H B kc bv v L w Hr) (cs:Array Value) (e:TypeId):Src (w.alloc (.cells cs e)) (some ⟨w.heap.size,0,none⟩) cs.toList:=Src.lit w cs e
theorem PM.start (h:RS W0 H kc v L w Hr):PM W0 H w.heap.size kc bv v L (w.alloc (.cells #[bv] 81)) Hr :=
 ⟨h.alloc _,h.key.lt,h.grows.hidden (Nat.le_refl _),Blk.new _ _ _,fun e=>by have:=(h.own.lt _ e).2;omega⟩
theorem RS.litR (h:RS W0 H kc v L w Hr) {cs:List Value}{l:List Itm}(hc:ItemsC Hr cs l) (hm:l.length≤4096) :
  RS W0 H kc (.slice (some ⟨w.heap.size,0,none⟩) l.length l.length) l (w.alloc (.cells cs.toArray 83)) Hr:=RS.lit h.grows h.hK h.key hc hm
theorem PM.lit (h:PM W0 H B kc bv v L w Hr) {cs:List Value}{l:List Itm}(hc:ItemsC Hr cs l) (hm:l.length≤4096) :
  PM W0 H B kc bv (.slice (some ⟨w.heap.size,0,none⟩) l.length l.length) l (w.alloc (.cells cs.toArray 83)) Hr :=
 ⟨h.row.litR hc hm,h.lt,h.hB,h.box.alloc _,fun e=>by
  simp[Value.ownBlock]at e
  have:=h.box.lt
  omega⟩
theorem RS.nil (hG:Grows W0 H w Hr) (hK:Hr W0.heap.size=none) (hk:Blk w W0.heap.size 61 kc):RS W0 H kc (.slice none 0 0) [] w Hr :=
 ⟨hG,hK,hk,OwnI.nil _ _ _,fun g hg=>by simp[Value.ownBlock]at hg⟩
def PSt (W0:World) (H:Snap) (B:Nat) (kc:Array Value) (L:List Itm) (w:World):Prop:=∃ Hr A m c,m=L.length∧PM W0 H B kc (.slice A m c) (.slice A m c) L w Hr
def gL (W0:World) (H:Snap) (L:List Itm) (v:Value) (w:World):Prop:=∃ A c H',v=.slice A L.length c∧Grows W0 H w H'∧L.length≤c∧c≤9223372036854775807∧(0<L.length→∃ b off,A=some ⟨b,off,none⟩∧IsElems H' b off L)
theorem RS.out {A:Option Addr}{m c:Nat}(h:RS W0 H kc (.slice A m c) L w Hr):gL W0 H L (.slice A m c) w:=by
 obtain⟨H',hl,hh,hf,rfl,qZ,qa,un⟩:=h.own.snap h.grows.holds (fun g hg=>h.apart g (by cases A <;> simp_all [Value.ownBlock]))
 refine⟨A,c,H',rfl,⟨h.grows.below,h.grows.le.trans hl,hh,fun b o hb=>?_⟩,qZ,qa,un⟩
 exact jaV
theorem PSt.out (h:PSt W0 H B kc L w):∃ A m c,w.cell? ⟨B,0,none⟩=some (.slice A m c)∧gL W0 H L (.slice A m c) w:=by
 obtain⟨Hr,A,m,c,_,hP⟩:=h
 exact⟨A,m,c,hP.box.cell 0 rfl,hP.row.out⟩
theorem PSt.key (h:PSt W0 H B kc L w):Blk w W0.heap.size 61 kc:=by
 obtain⟨Hr,A,m,c,_,hP⟩:=h
 exact hP.row.key
end
theorem sw {w:World}{o:Oper}{a:Act}{K:Act→World→Prop}{Q:Exit→Act→World→Prop}(ty:TypeId) (x y:Operand) (ho:o.op=.store ty x y)
  (g off:Nat) (cells:Array Value) (hx:a.eval x=.pointer (some ⟨g,off,none⟩)) (hy:a.eval y=.agg cells)
  (t:TypeId) (old:Array Value) (hB:Blk w g t old) (hi:(Tryz.prog.info? ty).map (·.size)=some cells.size) (hold:off+cells.size≤old.size) (h1:cells.all (·.oneCell')=true)
  (h:∀ w',Blk w' g t (oI old off cells.toList)→w.grownBy w' (some g)→K (a.put o.dst undef) w') :
  o.wp Tryz.prog a w K Q:=by
 refine wp_store_mid ty x y ho g off cells hx hy (fun j hj=>⟨?_,hB.frozen _⟩) hi h1 ?_
 ·exact jcM
 exact h _ (hB.setCells _ _) (uh g _ _ (yt w _))
abbrev mq:Array Value:=#[.int .i64 0,.int .u64 0,.slice none 0 0,.slice none 0 0,.int .i64 0,.int .u64 0,.slice none 0 0,.slice none 0 0]
theorem o5 (H:Snap):ItemsC H mq.toList [zQ,zQ]:=by
 have h:=IsItem.plain H 0 0 (by omega) (by omega)
 exact(ItemsC.one h).app (ItemsC.one h)
section
variable {W0:World} {H:Snap} {B:Nat} {kc:Array Value} {L:List Itm}
def NS (W0:World) (H:Snap) (B:Nat) (kc:Array Value) (L:List Itm) (e:Ending) (w':World):Prop:=e=.returned (.tuple #[])∧PSt W0 H B kc L w'
def mm (b:List UInt8):Itm:=.mk 2 0 b []
def xZ (n:Int) (b:List UInt8):List Itm:=if 0<b.length then [zr n,mm b] else []
theorem nM (label:Int) (h1 : -9223372036854775808≤label) (h2:label≤9223372036854775807) {A:Option Addr}{c:Nat}{b:List UInt8}(hb:IsBytes H A c b) (jf:b.length≤1048576) (hL:L.length≤1000) (w:World) (hS:PSt W0 H B kc L w) :
  Calls Tryz.prog 127 #[.int .i64 label,.slice A b.length c,.pointer (some ⟨B,0,none⟩)] w (NS W0 H B kc (L++xZ label b)):=by
 by_cases h0:0<b.length
 ·obtain⟨Hr,VA,m,vc,hm,hP⟩:=hS;have HL:=Hh (And.intro hm hL);have E:Hid (xZ label b=[zr label,mm b]):=if_pos h0;have uZ:(0:Int)<(b.length:Int):=by omega
  have sZ:decide ((0:Int)<(b.length:Int))=true:=decide_eq_true uZ;have sH:decide (0<b.length)=true:=decide_eq_true h0;have HB:=Hh (And.intro hb (And.intro jf (And.intro h1 h2)));have JZ:(m:Int)<(m:Int)+2:=by omega
  have F9:(m:Int)+1<(m:Int)+2:=by omega
  have gz:(0:Int)≤(m:Int)+1:=by omega
  have FA:m<m+2:=by omega
  have oS:IntKind.i64.wrap ((m:Int)+1)=(m:Int)+1:=IntWalk.i64_in _ (by omega);obtain⟨X1,Pm⟩:∃ X,zr label=X:=⟨_,rfl⟩
  obtain⟨X2,Pn⟩:∃ X,mm b=X:=⟨_,rfl⟩
  have HX:=Hh (And.intro Pm Pn);clear hm hL hb jf h1 h2 Pm Pn;have c0:=hP.box.cell 0 rfl;go_enter Tryz.func127,Tryz.ntmps127
  go_upto_region 1 with fail
  replace hP:=hP.drew
  refine zX 7 (fun wx=>wx.cell? ⟨B,0,none⟩=some (.slice VA m vc)) (by kernel_rfl) (c0) (fun zy=>?_)
  repeat' first
   | (
    revert k2
    intro hK
    go_simp
    refine(xK label HB.out.2.2.1 HB.out.2.2.2 _ hP.row.grows.holds).mono ?_
    rintro e w2 ⟨v1,rfl,xa1,xb1,xc1,xd1,H1,rfl,xg,vp⟩
    rw[HX.out.1]at vp⊢;have hP:=jgO
    try (have hZ:=hZ.below xg.below)
    refine Ko hK ?_ fun zy=>?_
    ·exact jcy
    clear hK K)
   | (
    revert k4
    intro hK
    go_simp
    refine(XT rfl (by have:=HB.out.2.1;omega) _ (Src.of_row (HB.out.1.row.mono hP.row.grows.le) hP.row.grows.holds) hP.row.grows.holds).mono ?_
    rintro e w4 ⟨v2,rfl,xa2,xb2,xc2,xd2,H2,rfl,zM,rV⟩
    rw[show Itm.mk 2 0 b []=X2 from HX.out.2]at rV⊢;have hP:=hP.grow zM
    try (have hZ:=hZ.below zM.below)
    have vp:=vp.mono zM.le
    refine Ko hK ?_ fun zy=>?_
    ·exact jcy
    clear hK K)
   | (
    revert k6
    intro hK
    go_simp
    have hZ:=hP.litZ mq 83;have hP:=hP.alloc (.cells mq 83)
    refine Ko hK ?_ fun zy=>?_
    ·exact jcy
    clear hK K)
   | (
    revert k7
    intro hK
    rw[if_pos (by rfl)]
    refine zL _ _ rfl _ _ _ _ rfl hP.row.own _ _ _ mq.toList [zQ,zQ] rfl rfl (o5 _) hZ (by have:=HL.out;simp;omega) hP.row.base fun v7 w7 hown7 yQ hat7=>?_
    have hP:=jgb;obtain⟨A7,c7,rfl,_⟩:=hown7.form;rw[show(L++[zQ,zQ]).length=m+2 by have:=HL.out;simp;omega]at hP⊢;obtain⟨g7,_,Rs,_⟩:=hP.put (L1:=L) (z:=zQ) (L2:=[zQ]) (i:=m) rfl HL.out.1
    cases Rs
    clear hown7 yQ hat7
    refine Kz hK ?_
    clear hK K)
   | (
    revert k9
    intro hK
    rw[if_pos (by rfl)];obtain⟨g1,cur1,Rq,y8,wu,jT⟩:=hP.put (L1:=L) (z:=zQ) (L2:=[zQ]) (i:=m) rfl (by have:=HL.out;first | omega | (simp;omega))
    cases Rq
    refine sw _ _ _ rfl g7 ((m)*4) _ rfl rfl _ _ y8 zt wu (rU _ _ _ _ rfl rfl rfl rfl) fun w9 iI yO=>?_
    have hP:=jhE;clear jT y8 wu iI yO
    refine Kz hK ?_
    clear hK K)
   | (
    revert k12
    intro hK
    rw[if_pos (by rfl)];obtain⟨g2,cur2,Rr,yT,kL,jU⟩:=hP.put (L1:=L++[X1]) (z:=zQ) (L2:=[]) (i:=m+1) (by rw[List.append_assoc];rfl) (by have:=HL.out;first | omega | (simp;omega))
    cases Rr
    refine sw _ _ _ rfl g7 ((m+1)*4) _ rfl rfl _ _ yT zt kL (rU _ _ _ _ rfl rfl rfl rfl) fun w12 hB12 hg12=>?_
    have hP:=jgL;clear jU yT kL hB12 hg12
    refine Kz hK ?_
    clear hK K)
   | (
    revert k13
    intro hK
    rw[if_pos (by rfl)]
    refine yw _ _ _ rfl B 0 (.slice (some ⟨g7,0,none⟩) (m+2) c7) rfl rfl _ _ hP.box xJ (by simp) rfl fun w13 hB13 hg13=>?_
    have hP:=hP.setBox (by simpa using hB13) hg13;clear hB13 hg13
    refine Kz hK ?_
    clear hK K)
   | simp only[Act.put,zz1,zz2,zz3,zz4,zz5,zz6]
   | refine Zk 0 rfl zy ?_ (hs:=by decide +kernel)
   | refine Zk 1 rfl zy ?_ (hs:=by decide +kernel)
   | refine Zk 3 rfl zy ?_ (hs:=by decide +kernel)
   | refine Zk 5 rfl zy ?_ (hs:=by decide +kernel)
   | refine ZkT 10 rfl (fun _=>zy) ?_ (hs:=by decide +kernel)
   | refine ZkT 8 rfl (fun h=>absurd h (by decide)) ?_ (hs:=by decide +kernel)
   | refine ZkT 11 rfl (fun h=>absurd h (by decide)) ?_ (hs:=by decide +kernel)
   | refine WaysZ.two (i:=2) (j:=6) rfl rfl (by decide +kernel) (fun K k2=>?_) (fun K k6=>?_)
   | refine WaysZ.two (i:=4) (j:=6) rfl rfl (by decide +kernel) (fun K k4=>?_) (fun K k6=>?_)
   | refine Zo 6 rfl (fun K k6=>?_) (by decide +kernel)
   | refine Zo 7 rfl (fun K k7=>?_) (by decide +kernel)
   | refine WaysZ.two (i:=9) (j:=13) rfl rfl (by decide +kernel) (fun K k9=>?_) (fun K k13=>?_)
   | refine WaysZ.two (i:=12) (j:=13) rfl rfl (by decide +kernel) (fun K k12=>?_) (fun K k13=>?_)
   | refine Zo 13 rfl (fun K k13=>?_) (by decide +kernel)
   | refine Zo 12 rfl (fun K k12=>?_) (by decide +kernel)
   | refine Zo 9 rfl (fun K k9=>?_) (by decide +kernel)
   | refine Zo 4 rfl (fun K k4=>?_) (by decide +kernel)
   | refine Zo 2 rfl (fun K k2=>?_) (by decide +kernel)
   | (
    refine WaysZ.done (by decide +kernel) ?_
    clear zy;go_wp2_with fail
    go_end0
    exact⟨rfl,by rw[E.out,HX.out.1,HX.out.2];exact⟨_,_,_,_,by have:=HL.out;simp;omega,hP⟩⟩)
 have E:Hid (xZ label b=[]):=if_neg h0;have uZ:¬ (0:Int)<(b.length:Int):=by omega
 have sZ:decide ((0:Int)<(b.length:Int))=false:=decide_eq_false uZ;have sH:decide (0<b.length)=false:=decide_eq_false h0;have HS:=Hh hS;clear hS hb;go_enter Tryz.func127,Tryz.ntmps127
 go_wp2_with fail
 go_end0
 exact⟨rfl,by rw[E.out,List.append_nil];exact HS.out⟩
end
def yA (kty alg:Int) (kid:List UInt8):List Itm:=[zr 1,zr kty]++xZ 2 kid++(if alg=0 then [] else [zr 3,zr alg])
def pq (kty crv alg:Int) (kid x d k:List UInt8):List Itm :=
 yA kty alg kid++(if kty=4 then xZ (-1) k else [zr (-1),zr crv]++xZ (-2) x++xZ (-4) d)
theorem o7 (n:Int) (b:List UInt8):(xZ n b).length≤2:=by
 unfold xZ;split <;> simp
theorem ow (kty alg:Int) (kid:List UInt8):(yA kty alg kid).length≤6:=by
 have:=o7 2 kid
 unfold yA
 split <;> simp <;> omega
def aA (w:World) (H:Snap) (L:List Itm) (e:Ending) (w':World):Prop:=∃ v,e=.returned v∧gL w H L v w'
theorem VT {H:Snap}(t v g:Int) (ht : -9223372036854775808≤t∧t≤9223372036854775807) (hv : -9223372036854775808≤v∧v≤9223372036854775807) (hg : -9223372036854775808≤g∧g≤9223372036854775807)
  {Ai:Option Addr} {ci:Nat} {kid:List UInt8} (hi:IsBytes H Ai ci kid) {Ax:Option Addr} {cx:Nat} {x:List UInt8} (hx:IsBytes H Ax cx x)
  {Ad:Option Addr} {cd:Nat} {d:List UInt8} (hd:IsBytes H Ad cd d) {Ak:Option Addr} {ck:Nat} {k:List UInt8} (hk:IsBytes H Ak ck k)
  (hl:kid.length≤64∧x.length≤64∧d.length≤64∧k.length≤64) (w:World) (hH:Holds w H) :
  Calls Tryz.prog 107 #[.agg (uO t v g Ai kid.length ci Ax x.length cx Ad d.length cd Ak k.length ck)] w (aA w H (pq t v g kid x d k)):=by
 have hP:=jgl;have KC:Hid (uO t v g Ai kid.length ci Ax x.length cx Ad d.length cd Ak k.length ck=#[.int .i64 t,.int .i64 v,.int .i64 g,.slice Ai kid.length ci,.slice Ax x.length cx,.slice Ad d.length cd,.slice Ak k.length ck]):=rfl;have D:=Hh (And.intro ht (And.intro hv hg));have B1:=Hh (And.intro hi (And.intro hx (And.intro hd hk)));have BL:=Hh hl;clear hi hx hd hk hl ht hv hg hH;go_enter Tryz.func107,Tryz.ntmps107
 go_upto_region 1 with fail
 go_cut [3] (fun s3 wx=>∃ B,s3=.pointer (some ⟨B,0,none⟩)∧PSt w H B (uO t v g Ai kid.length ci Ax x.length cx Ad d.length cd Ak k.length ck) [zr 1,zr t] wx)
 case first =>
  obtain⟨W1,ZB⟩:∃ W1,w.alloc (.cells (uO t v g Ai kid.length ci Ax x.length cx Ad d.length cd Ak k.length ck) 61)=W1:=⟨_,rfl⟩
  rw[ZB]at hP⊢;clear ZB;replace hP:=hP.drew;have c0:=hP.key.cell 0 rfl
  refine zX 6 (fun wx=>wx.cell? ⟨w.heap.size,0,none⟩=some (.int .i64 t)) (by kernel_rfl) (c0) (fun zy=>?_)
  repeat' first
   | (
    revert k0
    intro hK
    go_simp
    refine(xK 1 (by omega) (by omega) _ hP.grows.holds).mono ?_
    rintro e w3 ⟨v1,rfl,xa1,xb1,xc1,xd1,H1,rfl,xg,vp⟩
    have hP:=jgO
    try (have hM:=hM.grow xg)
    refine Ko hK ?_ fun zy=>?_
    ·exact jcY
    clear hK K)
   | (
    revert k3
    intro hK
    go_simp
    refine(xK t D.out.1.1 D.out.1.2 _ hP.grows.holds).mono ?_
    rintro e w4 ⟨v2,rfl,xa2,xb2,xc2,xd2,H2,rfl,zM,rV⟩
    obtain⟨hP,vp⟩:=jgc
    try (have hM:=hM.grow zM)
    refine Ko hK ?_ fun zy=>?_
    ·exact jcY
    clear hK K)
   | (
    revert k4
    intro hK
    go_simp
    try (have hM:=hM.lit ((ItemsC.one vp).app (ItemsC.one rV)) (by simp))
    have hP:=hP.litR ((ItemsC.one vp).app (ItemsC.one rV)) (by simp)
    try (simp only[zh,ye]at hM)
    try (simp only[zh,ye]at hP)
    refine Ko hK ?_ fun zy=>?_
    ·exact jcY
    clear hK K)
   | (
    revert k5
    intro hK
    go_simp
    have hM:=PM.start (bv:=.slice none 0 0) hP;have hP:=hP.alloc (.cells #[.slice none 0 0] 81)
    try (simp only[zh,ye]at hM)
    refine Ko hK ?_ fun zy=>?_
    ·exact jcY
    clear hK K)
   | (
    revert k6
    intro hK
    rw[if_pos (by rfl)]
    refine yw _ _ _ rfl _ 0 _ rfl rfl _ _ hM.box xJ (by simp) rfl fun w13 hB13 hg13=>?_
    have hM:=hM.setBox (by simpa using hB13) hg13
    refine Kz hK ?_
    clear hK K)
   | simp only[Act.put,zz1,zz2,zz3,zz4,zz5,zz6]
   | refine Zk 1 rfl zy ?_ (hs:=by decide +kernel)
   | refine Zk 2 rfl zy ?_ (hs:=by decide +kernel)
   | refine WaysZ.two (i:=0) (j:=5) rfl rfl (by decide +kernel) (fun K k0=>?_) (fun K k5=>?_)
   | refine WaysZ.two (i:=3) (j:=5) rfl rfl (by decide +kernel) (fun K k3=>?_) (fun K k5=>?_)
   | refine WaysZ.two (i:=4) (j:=5) rfl rfl (by decide +kernel) (fun K k4=>?_) (fun K k5=>?_)
   | refine Zo 5 rfl (fun K k5=>?_) (by decide +kernel)
   | refine Zo 6 rfl (fun K k6=>?_) (by decide +kernel)
   | refine Zo 4 rfl (fun K k4=>?_) (by decide +kernel)
   | refine Zo 3 rfl (fun K k3=>?_) (by decide +kernel)
   | refine Zo 0 rfl (fun K k0=>?_) (by decide +kernel)
   | (
    refine WaysZ.done (by decide +kernel) ?_
    clear zy;go_wp2_with fail
    go_meet
    exact⟨_,rfl,_,_,_,_,rfl,hM⟩)
 case rest =>
 clear hP;obtain⟨B,rfl,hS⟩:=hcut;have c3:=hS.key.cell 3 rfl;have HS:=Hh hS;clear hS;go_wp2_with fail
 refine(nM 2 (by omega) (by omega) B1.out.1 (by have:=BL.out;omega) (by simp) _ HS.out).mono ?_
 rintro e w2 ⟨rfl,hS⟩
 clear HS c3;have c2:=hS.key.cell 2 rfl;go_upto_if 17 with fail
 go_cut [17] (fun s17 wx=>PSt w H B (uO t v g Ai kid.length ci Ax x.length cx Ad d.length cd Ak k.length ck) (yA t g kid) wx)
 case first =>
  by_cases bX:g=0
  ·subst bX;have HS:=Hh hS;clear hS;go_wp2_with fail
   go_meet
   rw[yA,if_pos rfl,List.append_nil]
   exact HS.out
  have b1:(g != 0)=true:=by simp[bX]
  have p1:(g=0)=False:=eq_false bX;have EP:Hid (yA t g kid=[zr 1,zr t]++xZ 2 kid++[zr 3,zr g]):=by rw[Hid,yA,if_neg bX]
  have tI:Hid (([zr 1,zr t]++xZ 2 kid).length≤1000):=by have:=o7 2 kid;rw[Hid];simp;omega
  clear bX
  generalize [zr 1,zr t]++xZ 2 kid=L at hS EP tI
  obtain⟨Hr,VA,m,vc,hm,hP⟩:=hS;have HL:=jf4;have JZ:(m:Int)<(m:Int)+2:=by omega
  have F9:(m:Int)+1<(m:Int)+2:=by omega
  have gz:(0:Int)≤(m:Int)+1:=by omega
  have FA:m<m+2:=by omega
  have oS:=jh4;obtain⟨X1,Pm⟩:∃ X,zr 3=X:=⟨_,rfl⟩
  obtain⟨X2,Pn⟩:∃ X,zr g=X:=⟨_,rfl⟩
  have HX:=Hh (And.intro Pm Pn);clear hm Pm Pn tI;have c0:=hP.box.cell 0 rfl;go_upto_region 5 with fail
  replace hP:=hP.drew
  refine zX 7 (fun wx=>wx.cell? ⟨B,0,none⟩=some (.slice VA m vc)∧wx.cell? ⟨w.heap.size,2,none⟩=some (.int .i64 g)) (by kernel_rfl) (⟨c0,hP.row.key.cell 2 rfl⟩) (fun zy=>?_)
  repeat' first
   | (
    revert k1
    intro hK
    go_simp
    refine(xK (3) (by omega) (by omega) _ hP.row.grows.holds).mono ?_
    rintro e w1 ⟨v1,rfl,xa1,xb1,xc1,xd1,H1,rfl,xg,vp⟩
    rw[HX.out.1]at vp⊢;have hP:=jgO
    try (have hZ:=hZ.below xg.below)
    refine Ko hK ?_ fun zy=>?_
    ·exact jda
    clear hK K)
   | (
    revert k4
    intro hK
    go_simp
    refine(xK g D.out.2.2.1 D.out.2.2.2 _ hP.row.grows.holds).mono ?_
    rintro e w4 ⟨v2,rfl,xa2,xb2,xc2,xd2,H2,rfl,zM,rV⟩
    rw[HX.out.2]at rV⊢;have hP:=hP.grow zM
    try (have hZ:=hZ.below zM.below)
    have vp:=vp.mono zM.le
    refine Ko hK ?_ fun zy=>?_
    ·exact jda
    clear hK K)
   | (
    revert k6
    intro hK
    go_simp
    have hZ:=hP.litZ mq 83;have hP:=hP.alloc (.cells mq 83)
    refine Ko hK ?_ fun zy=>?_
    ·exact jda
    clear hK K)
   | (
    revert k7
    intro hK
    rw[if_pos (by rfl)]
    refine zL _ _ rfl _ _ _ _ rfl hP.row.own _ _ _ mq.toList [zQ,zQ] rfl rfl (o5 _) hZ (by have:=HL.out;simp;omega) hP.row.base fun v7 w7 hown7 yQ hat7=>?_
    have hP:=jgb;obtain⟨A7,c7,rfl,_⟩:=hown7.form;rw[show(L++[zQ,zQ]).length=m+2 by have:=HL.out;simp;omega]at hP⊢;obtain⟨g7,_,Rs,_⟩:=hP.put (L1:=L) (z:=zQ) (L2:=[zQ]) (i:=m) rfl HL.out.1
    cases Rs
    clear hown7 yQ hat7
    refine Kz hK ?_
    clear hK K)
   | (
    revert k9
    intro hK
    rw[if_pos (by rfl)];obtain⟨g1,cur1,Rq,y8,wu,jT⟩:=hP.put (L1:=L) (z:=zQ) (L2:=[zQ]) (i:=m) rfl (by have:=HL.out;first | omega | (simp;omega))
    cases Rq
    refine sw _ _ _ rfl g7 ((m)*4) _ rfl rfl _ _ y8 zt wu (rU _ _ _ _ rfl rfl rfl rfl) fun w9 iI yO=>?_
    have hP:=jhE;clear jT y8 wu iI yO
    refine Kz hK ?_
    clear hK K)
   | (
    revert k12
    intro hK
    rw[if_pos (by rfl)];obtain⟨g2,cur2,Rr,yT,kL,jU⟩:=hP.put (L1:=L++[X1]) (z:=zQ) (L2:=[]) (i:=m+1) (by rw[List.append_assoc];rfl) (by have:=HL.out;first | omega | (simp;omega))
    cases Rr
    refine sw _ _ _ rfl g7 ((m+1)*4) _ rfl rfl _ _ yT zt kL (rU _ _ _ _ rfl rfl rfl rfl) fun w12 hB12 hg12=>?_
    have hP:=jgL;clear jU yT kL hB12 hg12
    refine Kz hK ?_
    clear hK K)
   | (
    revert k13
    intro hK
    rw[if_pos (by rfl)]
    refine yw _ _ _ rfl B 0 (.slice (some ⟨g7,0,none⟩) (m+2) c7) rfl rfl _ _ hP.box xJ (by simp) rfl fun w13 hB13 hg13=>?_
    have hP:=hP.setBox (by simpa using hB13) hg13;clear hB13 hg13
    refine Kz hK ?_
    clear hK K)
   | simp only[Act.put,zz1,zz2,zz3,zz4,zz5,zz6]
   | refine Zk 0 rfl zy ?_ (hs:=by decide +kernel)
   | refine Zk 2 rfl zy ?_ (hs:=by decide +kernel)
   | refine Zk 3 rfl zy ?_ (hs:=by decide +kernel)
   | refine Zk 5 rfl zy ?_ (hs:=by decide +kernel)
   | refine ZkT 10 rfl (fun _=>zy) ?_ (hs:=by decide +kernel)
   | refine ZkT 8 rfl (fun h=>absurd h (by decide)) ?_ (hs:=by decide +kernel)
   | refine ZkT 11 rfl (fun h=>absurd h (by decide)) ?_ (hs:=by decide +kernel)
   | refine WaysZ.two (i:=1) (j:=6) rfl rfl (by decide +kernel) (fun K k1=>?_) (fun K k6=>?_)
   | refine WaysZ.two (i:=4) (j:=6) rfl rfl (by decide +kernel) (fun K k4=>?_) (fun K k6=>?_)
   | refine Zo 6 rfl (fun K k6=>?_) (by decide +kernel)
   | refine Zo 7 rfl (fun K k7=>?_) (by decide +kernel)
   | refine WaysZ.two (i:=9) (j:=13) rfl rfl (by decide +kernel) (fun K k9=>?_) (fun K k13=>?_)
   | refine WaysZ.two (i:=12) (j:=13) rfl rfl (by decide +kernel) (fun K k12=>?_) (fun K k13=>?_)
   | refine Zo 13 rfl (fun K k13=>?_) (by decide +kernel)
   | refine Zo 12 rfl (fun K k12=>?_) (by decide +kernel)
   | refine Zo 9 rfl (fun K k9=>?_) (by decide +kernel)
   | refine Zo 4 rfl (fun K k4=>?_) (by decide +kernel)
   | refine Zo 1 rfl (fun K k1=>?_) (by decide +kernel)
   | (
    refine WaysZ.done (by decide +kernel) ?_
    clear zy;go_wp2_with fail
    go_meet
    exact(by rw[EP.out,HX.out.1,HX.out.2];exact⟨_,_,_,_,by have:=HL.out;simp;omega,hP⟩))
 case rest =>
 clear hS c2;have hS:=hcut;clear hcut;have c0:=hS.key.cell 0 rfl
 by_cases dH:t=4
 ·subst dH;have c6:=hS.key.cell 6 rfl;have HS:=Hh hS;clear hS;go_wp2_with fail
  refine(nM (-1) (by omega) (by omega) B1.out.2.2.2 (by have:=BL.out;omega) (by have:=ow 4 g kid;omega) _ HS.out).mono ?_
  rintro e w5 ⟨rfl,hS⟩
  clear HS c6 c0;obtain⟨A9,m9,c9,cB,hO⟩:=hS.out;clear hS;go_wp2_with fail
  go_ret
  exact⟨_,rfl,by rw[pq,if_pos rfl];exact hO⟩
 have b4:(t==4)=false:=by rw[beq_eq_false_iff_ne];exact dH
 have p4:(t=4)=False:=eq_false dH;have EL:Hid (pq t v g kid x d k=yA t g kid++([zr (-1),zr v]++xZ (-2) x++xZ (-4) d)):=by rw[Hid,pq,if_neg dH]
 have tI:Hid ((yA t g kid).length≤6):=ow t g kid;clear dH
 generalize yA t g kid=L at hS EL tI
 go_upto_region 9 with fail
 go_cut [37] (fun s37 wx=>PSt w H B (uO t v g Ai kid.length ci Ax x.length cx Ad d.length cd Ak k.length ck) (L++[zr (-1),zr v]) wx)
 case first =>
  have c1:=hS.key.cell 1 rfl;obtain⟨Hr,VA,m,vc,hm,hP⟩:=hS;have HL:=Hh (And.intro hm (show L.length≤1000 by have:=tI.out;omega));have JZ:(m:Int)<(m:Int)+2:=by omega
  have F9:(m:Int)+1<(m:Int)+2:=by omega
  have gz:(0:Int)≤(m:Int)+1:=by omega
  have FA:m<m+2:=by omega
  have oS:=jh4;obtain⟨X1,Pm⟩:∃ X,zr (-1)=X:=⟨_,rfl⟩
  obtain⟨X2,Pn⟩:∃ X,zr v=X:=⟨_,rfl⟩
  have HX:=Hh (And.intro Pm Pn);clear hm Pm Pn;have c0:=hP.box.cell 0 rfl;replace hP:=hP.drew
  refine zX 7 (fun wx=>wx.cell? ⟨B,0,none⟩=some (.slice VA m vc)∧wx.cell? ⟨w.heap.size,1,none⟩=some (.int .i64 v)) (by kernel_rfl) (⟨c0,hP.row.key.cell 1 rfl⟩) (fun zy=>?_)
  repeat' first
   | (
    revert k1
    intro hK
    go_simp
    refine(xK (-1) (by omega) (by omega) _ hP.row.grows.holds).mono ?_
    rintro e w1 ⟨v1,rfl,xa1,xb1,xc1,xd1,H1,rfl,xg,vp⟩
    rw[HX.out.1]at vp⊢;have hP:=jgO
    try (have hZ:=hZ.below xg.below)
    refine Ko hK ?_ fun zy=>?_
    ·exact jdb
    clear hK K)
   | (
    revert k4
    intro hK
    go_simp
    refine(xK v D.out.2.1.1 D.out.2.1.2 _ hP.row.grows.holds).mono ?_
    rintro e w4 ⟨v2,rfl,xa2,xb2,xc2,xd2,H2,rfl,zM,rV⟩
    rw[HX.out.2]at rV⊢;have hP:=hP.grow zM
    try (have hZ:=hZ.below zM.below)
    have vp:=vp.mono zM.le
    refine Ko hK ?_ fun zy=>?_
    ·exact jdb
    clear hK K)
   | (
    revert k6
    intro hK
    go_simp
    have hZ:=hP.litZ mq 83;have hP:=hP.alloc (.cells mq 83)
    refine Ko hK ?_ fun zy=>?_
    ·exact jdb
    clear hK K)
   | (
    revert k7
    intro hK
    rw[if_pos (by rfl)]
    refine zL _ _ rfl _ _ _ _ rfl hP.row.own _ _ _ mq.toList [zQ,zQ] rfl rfl (o5 _) hZ (by have:=HL.out;simp;omega) hP.row.base fun v7 w7 hown7 yQ hat7=>?_
    have hP:=jgb;obtain⟨A7,c7,rfl,_⟩:=hown7.form;rw[show(L++[zQ,zQ]).length=m+2 by have:=HL.out;simp;omega]at hP⊢;obtain⟨g7,_,Rs,_⟩:=hP.put (L1:=L) (z:=zQ) (L2:=[zQ]) (i:=m) rfl HL.out.1
    cases Rs
    clear hown7 yQ hat7
    refine Kz hK ?_
    clear hK K)
   | (
    revert k9
    intro hK
    rw[if_pos (by rfl)];obtain⟨g1,cur1,Rq,y8,wu,jT⟩:=hP.put (L1:=L) (z:=zQ) (L2:=[zQ]) (i:=m) rfl (by have:=HL.out;first | omega | (simp;omega))
    cases Rq
    refine sw _ _ _ rfl g7 ((m)*4) _ rfl rfl _ _ y8 zt wu (rU _ _ _ _ rfl rfl rfl rfl) fun w9 iI yO=>?_
    have hP:=jhE;clear jT y8 wu iI yO
    refine Kz hK ?_
    clear hK K)
   | (
    revert k12
    intro hK
    rw[if_pos (by rfl)];obtain⟨g2,cur2,Rr,yT,kL,jU⟩:=hP.put (L1:=L++[X1]) (z:=zQ) (L2:=[]) (i:=m+1) (by rw[List.append_assoc];rfl) (by have:=HL.out;first | omega | (simp;omega))
    cases Rr
    refine sw _ _ _ rfl g7 ((m+1)*4) _ rfl rfl _ _ yT zt kL (rU _ _ _ _ rfl rfl rfl rfl) fun w12 hB12 hg12=>?_
    have hP:=jgL;clear jU yT kL hB12 hg12
    refine Kz hK ?_
    clear hK K)
   | (
    revert k13
    intro hK
    rw[if_pos (by rfl)]
    refine yw _ _ _ rfl B 0 (.slice (some ⟨g7,0,none⟩) (m+2) c7) rfl rfl _ _ hP.box xJ (by simp) rfl fun w13 hB13 hg13=>?_
    have hP:=hP.setBox (by simpa using hB13) hg13;clear hB13 hg13
    refine Kz hK ?_
    clear hK K)
   | simp only[Act.put,zz1,zz2,zz3,zz4,zz5,zz6]
   | refine Zk 0 rfl zy ?_ (hs:=by decide +kernel)
   | refine Zk 2 rfl zy ?_ (hs:=by decide +kernel)
   | refine Zk 3 rfl zy ?_ (hs:=by decide +kernel)
   | refine Zk 5 rfl zy ?_ (hs:=by decide +kernel)
   | refine ZkT 10 rfl (fun _=>zy) ?_ (hs:=by decide +kernel)
   | refine ZkT 8 rfl (fun h=>absurd h (by decide)) ?_ (hs:=by decide +kernel)
   | refine ZkT 11 rfl (fun h=>absurd h (by decide)) ?_ (hs:=by decide +kernel)
   | refine WaysZ.two (i:=1) (j:=6) rfl rfl (by decide +kernel) (fun K k1=>?_) (fun K k6=>?_)
   | refine WaysZ.two (i:=4) (j:=6) rfl rfl (by decide +kernel) (fun K k4=>?_) (fun K k6=>?_)
   | refine Zo 6 rfl (fun K k6=>?_) (by decide +kernel)
   | refine Zo 7 rfl (fun K k7=>?_) (by decide +kernel)
   | refine WaysZ.two (i:=9) (j:=13) rfl rfl (by decide +kernel) (fun K k9=>?_) (fun K k13=>?_)
   | refine WaysZ.two (i:=12) (j:=13) rfl rfl (by decide +kernel) (fun K k12=>?_) (fun K k13=>?_)
   | refine Zo 13 rfl (fun K k13=>?_) (by decide +kernel)
   | refine Zo 12 rfl (fun K k12=>?_) (by decide +kernel)
   | refine Zo 9 rfl (fun K k9=>?_) (by decide +kernel)
   | refine Zo 4 rfl (fun K k4=>?_) (by decide +kernel)
   | refine Zo 1 rfl (fun K k1=>?_) (by decide +kernel)
   | (
    refine WaysZ.done (by decide +kernel) ?_
    clear zy;go_wp2_with fail
    go_meet
    exact(by rw[HX.out.1,HX.out.2];exact⟨_,_,_,_,by have:=HL.out;simp;omega,hP⟩))
 case rest =>
 clear hS c0;have hS:=hcut;clear hcut;have c4:=hS.key.cell 4 rfl;have HS:=Hh hS;clear hS;go_wp2_with fail
 refine(nM (-2) (by omega) (by omega) B1.out.2.1 (by have:=BL.out;omega) (by have:=tI.out;simp;omega) _ HS.out).mono ?_
 rintro e w5 ⟨rfl,hS⟩
 clear HS c4;have c5:=hS.key.cell 5 rfl;have HS:=Hh hS;clear hS;go_wp2_with fail
 refine(nM (-4) (by omega) (by omega) B1.out.2.2.1 (by have:=BL.out;omega) (by have:=tI.out;have:=o7 (-2) x;simp;omega) _ HS.out).mono ?_
 rintro e w6 ⟨rfl,hS⟩
 clear HS c5;obtain⟨A9,m9,c9,cB,hO⟩:=hS.out;clear hS;go_wp2_with fail
 go_ret
 exact⟨_,rfl,by rw[EL.out];show gL w H _ (Value.slice A9 m9 c9) w6;rw[← List.append_assoc,← List.append_assoc];exact hO⟩
end Go.Proofs.YtgaoknihklmakabGreatDoor
