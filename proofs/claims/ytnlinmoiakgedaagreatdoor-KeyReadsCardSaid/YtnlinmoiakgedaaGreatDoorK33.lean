/- squeezed. Rows of items that a call owns bes -/
import Derived.Test.YtnlinmoiakgedaaGreatDoorK32
import Derived.Test.YtnlinmoiakgedaaGreatDoorK17
set_option linter.unusedVariables false
set_option linter.unusedSimpArgs false
set_option maxRecDepth 100000
set_option maxHeartbeats 12800000
namespace Go.Proofs.YtnlinmoiakgedaaGreatDoor
open Go.RowKit
theorem OwnI.lit2 {w:World}{H:Snap}{l:List Itm}{cs:List Value}(h:ItemsC H cs l) (base:Nat) (hb:base≤w.heap.size) (hm:l.length≤4096) :
  OwnI (w.alloc (.cells cs.toArray 26)) base (.slice (some ⟨w.heap.size,0,none⟩) l.length l.length) H l:=by
 refine⟨cs,h,h.len,.inr ⟨w.heap.size,l.length,cs.toArray,rfl,hb,heap_alloc_new w _,Nat.le_refl _,by simp only[maxLen];omega, ?_, ?_⟩⟩
 ·simpa using h.len
 ·rw[← h.len];simp
theorem Y9 (cs:Array Value) (a b c d:List Value) (h:cs.toList.take (a.length+b.length+c.length)=a++b++c) (hd:d.length=b.length) :
  (rU cs a.length d).toList.take (a.length+d.length+c.length)=a++d++c:=by
 have hz:a.length+b.length+c.length≤cs.size:=by
  have h1:=congrArg List.length h
  simp only[List.length_take,List.length_append,Array.length_toList]at h1
  omega
 apply List.ext_getElem?
 intro j
 have hj:(cs.toList.take (a.length+b.length+c.length))[j]? = (a++b++c)[j]? :=by rw[h]
 simp only[List.getElem?_take,List.getElem?_append,Array.getElem?_toList,nh,List.length_append]at hj⊢
 by_cases h1:j<a.length
 ·rw[if_pos (by omega),if_neg (by omega),if_pos (by omega),if_pos h1];rw[if_pos (by omega),if_pos (by omega),if_pos h1]at hj
  exact hj
 ·by_cases h2:j<a.length+d.length
  ·rw[if_pos (by omega),if_pos (by omega),if_pos h2,if_neg h1]
  ·by_cases h3:j<a.length+d.length+c.length
   ·rw[if_pos h3,if_neg (by omega),if_neg h2];rw[if_pos (by omega),if_neg (by omega)]at hj;rw[hj,hd]
   ·rw[if_neg h3,if_neg h2];symm
    rw[List.getElem?_eq_none_iff]
    omega
theorem OwnI.put {w:World}{base:Nat}{A:Option Addr}{m c:Nat}{H:Snap}{l1 l2:List Itm}{z:Itm}(h:OwnI w base (.slice A m c) H (l1++z::l2)) :
  ∃ g cur,A=some ⟨g,0,none⟩∧base≤g∧Blk w g 26 cur∧l1.length*4+4≤cur.size∧
   ∀ (w':World) (cells:List Value) (y:Itm),ItemsC H cells [y]→Blk w' g 26 (rU cur (l1.length*4) cells)→OwnI w' base (.slice A m c) H (l1++y::l2):=by
 obtain⟨cs,q9,h⟩:=h
 rcases h.2 with ⟨hv,hz⟩ | ⟨g,cap,cur,hv,hb,hg,hc,hm,hcz,ht⟩
 ·simp at hz
 ·cases hv
  have hs:=q9.split l1.length;rw[List.take_left,List.drop_left]at hs
  obtain⟨ba,bc,ia,ic,rest,he,hi,hr⟩:∃ ba bc ia ic rest,cs.drop (l1.length*4)=zg z ba bc ia ic++rest∧IsItem H ba bc ia ic z∧ItemsC H rest l2:=by
   have h2:=hs.2;rw[ItemsC]at h2;obtain⟨ba,bc,ia,ic,rest,h2⟩:=h2
   exact⟨ba,bc,ia,ic,rest,h2.1,h2.2⟩
  have zK:=hs.1.len;have Q8:=hr.len;have q8:=q9.len;have e:cs=cs.take (l1.length*4)++zg z ba bc ia ic++rest:=by rw[List.append_assoc,← he,List.take_append_drop]
  have gh:l1.length*4+4≤cur.size:=by
   have hx:(l1++z::l2).length*4≤c*4:=Nat.mul_le_mul_right _ hc
   simp only[List.length_append,List.length_cons]at hx
   omega
  refine⟨g,cur,rfl,hb,hg,gh,fun w' cells y hy hB=>⟨cs.take (l1.length*4)++cells++rest,by
    have h3:=(hs.1.app hy).app hr
    simpa using h3, ?_,.inr ⟨g,c,_,by simp,hb,hB,by simpa using hc,hm,by rw[mm,hcz], ?_⟩⟩⟩
  ·have:=hy.len
   simp only[List.length_append,List.length_cons,List.length_nil]at this zK Q8 q8⊢
   omega
  ·have xq:=hy.len
   have hk:=Y9 cur (cs.take (l1.length*4)) (zg z ba bc ia ic) rest cells (by
    rw[← e]
    have e4:(cs.take (l1.length*4)).length+(zg z ba bc ia ic).length+rest.length=(l1++z::l2).length*4:=by
     rw[zK,Q8]
     simp[zg]
     omega
    rw[e4]
    exact ht) (by rw[xq];simp[zg])
   rw[zK]at hk
   have e5:(l1++y::l2).length*4=l1.length*4+cells.length+rest.length:=by
    rw[xq,Q8]
    simp
    omega
   rw[e5]
   exact hk
structure RS (W0:World) (H:Snap) (kc:Array Value) (v:Value) (L:List Itm) (w:World) (Hr:Snap):Prop where
 grows:Grows W0 H w Hr
 hK:Hr W0.heap.size=none
 key:Blk w W0.heap.size 33 kc
 own:OwnI w (W0.heap.size+1) v Hr L
 apart:∀ g,v.ownBlock=some g→Hr g=none
section
variable {W0 w w':World} {H Hr Hs:Snap} {kc:Array Value} {v v':Value} {L news:List Itm}
theorem RS.grow (h:RS W0 H kc v L w Hr) (k:Grows w Hr w' Hs):RS W0 H kc v L w' Hs :=
 ⟨h.grows.trans k,k.none h.hK h.key.lt,h.key.below k.below,(h.own.below k.below).mono k.le,fun g hg=>k.none (h.apart g hg) (h.own.lt g hg).2⟩
theorem RS.below (h:RS W0 H kc v L w Hr) (k:Below w.heap.size w w'):RS W0 H kc v L w' Hr:=h.grow (Grows.of_below h.grows.holds k)
theorem RS.alloc (h:RS W0 H kc v L w Hr) (o:Obj):RS W0 H kc v L (w.alloc o) Hr:=h.below (zi w o)
theorem RS.drew (h:RS W0 H kc v L w Hr):RS W0 H kc v L w.drew Hr:=h.below (Below.refl _ _).drew
theorem RS.base (h:RS W0 H kc v L w Hr):W0.heap.size+1≤w.heap.size:=by have:=h.key.lt;omega
theorem RS.litZ (h:RS W0 H kc v L w Hr) (cs:Array Value) (e:TypeId):Src (w.alloc (.cells cs e)) (some ⟨w.heap.size,0,none⟩) cs.toList:=Src.lit w cs e
theorem RS.app (h:RS W0 H kc v L w Hr) (hO:OwnI w' (W0.heap.size+1) v' Hr (L++news)) (hg:w.grownBy w' v.ownBlock) (ha:At0 w v.ownBlock v'.ownBlock):RS W0 H kc v' (L++news) w' Hr :=
 ⟨h.grows.grownRow h.apart (fun g hg=>by have:=(h.own.lt g hg).1;omega) hg,h.hK,h.key.grown hg (fun e=>by have:=(h.own.lt _ e).1;omega),hO,fun g hv=>by
  rcases ha with e | ⟨g',e,hs⟩
  ·exact h.apart g (by rw[← e,hv])
  ·rw[hv]at e;injection e with e
   subst e
   exact h.grows.hidden hs⟩
theorem RS.lit {cs:List Value}{l:List Itm}(hG:Grows W0 H w Hr) (hK:Hr W0.heap.size=none) (hk:Blk w W0.heap.size 33 kc) (hc:ItemsC Hr cs l) (hm:l.length≤4096) :
  RS W0 H kc (.slice (some ⟨w.heap.size,0,none⟩) l.length l.length) l (w.alloc (.cells cs.toArray 26)) Hr :=
 ⟨hG.alloc _,hK,hk.alloc _,OwnI.lit2 hc _ (by have:=hk.lt;omega) hm,fun g hg=>by
  simp[Value.ownBlock]at hg
  subst hg
  exact hG.hidden (Nat.le_refl _)⟩
end
structure PM (W0:World) (H:Snap) (B:Nat) (kc:Array Value) (bv v:Value) (L:List Itm) (w:World) (Hr:Snap):Prop where
 row:RS W0 H kc v L w Hr
 lt:W0.heap.size<B
 hB:Hr B=none
 box:Blk w B 24 #[bv]
 far:v.ownBlock≠some B
section
variable {W0 w w':World} {H Hr Hs:Snap} {B:Nat} {kc:Array Value} {bv v v':Value} {L L1 L2 news:List Itm} {z:Itm}
theorem PM.grow (h:PM W0 H B kc bv v L w Hr) (k:Grows w Hr w' Hs):PM W0 H B kc bv v L w' Hs :=
 ⟨h.row.grow k,h.lt,k.none h.hB h.box.lt,h.box.below k.below,h.far⟩
theorem PM.below (h:PM W0 H B kc bv v L w Hr) (k:Below w.heap.size w w'):PM W0 H B kc bv v L w' Hr:=h.grow (Grows.of_below h.row.grows.holds k)
theorem PM.alloc (h:PM W0 H B kc bv v L w Hr) (o:Obj):PM W0 H B kc bv v L (w.alloc o) Hr:=h.below (zi w o)
theorem PM.drew (h:PM W0 H B kc bv v L w Hr):PM W0 H B kc bv v L w.drew Hr:=h.below (Below.refl _ _).drew
theorem PM.app (h:PM W0 H B kc bv v L w Hr) (hO:OwnI w' (W0.heap.size+1) v' Hr (L++news)) (hg:w.grownBy w' v.ownBlock) (ha:At0 w v.ownBlock v'.ownBlock):PM W0 H B kc bv v' (L++news) w' Hr :=
 ⟨h.row.app hO hg ha,h.lt,h.hB,h.box.grown hg h.far,by
  rcases ha with e | ⟨g',e,hs⟩
  ·rw[e];exact h.far
  ·rw[e]
   intro e2
   injection e2 with e2
   have:=h.box.lt
   omega⟩
theorem PM.put {A:Option Addr}{m c i:Nat}{Lf:List Itm}(h:PM W0 H B kc bv (.slice A m c) Lf w Hr) (e:Lf=L1++z::L2) (hi:i=L1.length) :
  ∃ g cur,A=some ⟨g,0,none⟩∧Blk w g 26 cur∧i*4+4≤cur.size∧
   ∀ (w':World) (cells:List Value) (y:Itm) (Lg:List Itm),ItemsC Hr cells [y]→Lg=L1++y::L2→Blk w' g 26 (rU cur (i*4) cells)→w.grownBy w' (some g)→PM W0 H B kc bv (.slice A m c) Lg w' Hr:=by
 subst e;subst hi;obtain⟨g,cur,rfl,hb,hB,hs,ZL⟩:=h.row.own.put;have gc:=h.row.apart g (by simp[Value.ownBlock]);have Lh:g≠B:=fun e=>h.far (by simp[Value.ownBlock,e])
 exact⟨g,cur,rfl,hB,hs,fun w' cells y Lg hy e Wy hgr=>by
  subst e
  exact⟨⟨h.row.grows.grownOwn gc (by omega) hgr,h.row.hK,h.row.key.grown hgr (fun e=>by injection e with e;omega),ZL w' cells y hy Wy,h.row.apart⟩,h.lt,h.hB,h.box.grown hgr (fun e=>by injection e with e;exact Lh e),h.far⟩⟩
theorem PM.setBox (h:PM W0 H B kc bv v L w Hr) (hB:Blk w' B 24 #[v']) (hg:w.grownBy w' (some B)):PM W0 H B kc v' v L w' Hr :=
 ⟨⟨h.row.grows.grownOwn h.hB (by have:=h.lt;omega) hg,h.row.hK,h.row.key.grown hg (fun e=>by injection e with e;have:=h.lt;omega),h.row.own.kept hg (.inr h.far),h.row.apart⟩,h.lt,h.hB,hB,h.far⟩
theorem PM.litZ (h:PM W0 H B kc bv v L w Hr) (cs:Array Value) (e:TypeId):Src (w.alloc (.cells cs e)) (some ⟨w.heap.size,0,none⟩) cs.toList:=Src.lit w cs e
theorem PM.start (h:RS W0 H kc v L w Hr):PM W0 H w.heap.size kc bv v L (w.alloc (.cells #[bv] 24)) Hr :=
 ⟨h.alloc _,h.key.lt,h.grows.hidden (Nat.le_refl _),Blk.new _ _ _,fun e=>by have:=(h.own.lt _ e).2;omega⟩
theorem RS.litR (h:RS W0 H kc v L w Hr) {cs:List Value}{l:List Itm}(hc:ItemsC Hr cs l) (hm:l.length≤4096) :
  RS W0 H kc (.slice (some ⟨w.heap.size,0,none⟩) l.length l.length) l (w.alloc (.cells cs.toArray 26)) Hr:=RS.lit h.grows h.hK h.key hc hm
theorem PM.lit (h:PM W0 H B kc bv v L w Hr) {cs:List Value}{l:List Itm}(hc:ItemsC Hr cs l) (hm:l.length≤4096) :
  PM W0 H B kc bv (.slice (some ⟨w.heap.size,0,none⟩) l.length l.length) l (w.alloc (.cells cs.toArray 26)) Hr :=
 ⟨h.row.litR hc hm,h.lt,h.hB,h.box.alloc _,fun e=>by
  simp[Value.ownBlock]at e
  have:=h.box.lt
  omega⟩
theorem RS.nil (hG:Grows W0 H w Hr) (hK:Hr W0.heap.size=none) (hk:Blk w W0.heap.size 33 kc):RS W0 H kc (.slice none 0 0) [] w Hr :=
 ⟨hG,hK,hk,OwnI.nil _ _ _,fun g hg=>by simp[Value.ownBlock]at hg⟩
def PSt (W0:World) (H:Snap) (B:Nat) (kc:Array Value) (L:List Itm) (w:World):Prop:=∃ Hr A m c,m=L.length∧PM W0 H B kc (.slice A m c) (.slice A m c) L w Hr
def kj (W0:World) (H:Snap) (L:List Itm) (v:Value) (w:World):Prop:=∃ A c H',v=.slice A L.length c∧Grows W0 H w H'∧L.length≤c∧c≤9223372036854775807∧(0<L.length→∃ b off,A=some ⟨b,off,none⟩∧IsElems H' b off L)
theorem RS.out {A:Option Addr}{m c:Nat}(h:RS W0 H kc (.slice A m c) L w Hr):kj W0 H L (.slice A m c) w:=by
 obtain⟨H',hl,hh,hf,rfl,sz,t8,wI⟩:=h.own.snap h.grows.holds (fun g hg=>h.apart g (by cases A <;> simp_all [Value.ownBlock]))
 refine⟨A,c,H',rfl,⟨h.grows.below,h.grows.le.trans hl,hh,fun b o hb=>?_⟩,sz,t8,wI⟩
 rcases hf b o hb with h1 | h1
 ·exact h.grows.fresh b o h1
 ·exact .inr (by have:=(h.own.lt b (by cases A <;> simp_all [Value.ownBlock])).1;omega)
theorem PSt.out (h:PSt W0 H B kc L w):∃ A m c,w.cell? ⟨B,0,none⟩=some (.slice A m c)∧kj W0 H L (.slice A m c) w:=by
 obtain⟨Hr,A,m,c,_,hP⟩:=h
 exact⟨A,m,c,hP.box.cell 0 rfl,hP.row.out⟩
theorem PSt.key (h:PSt W0 H B kc L w):Blk w W0.heap.size 33 kc:=by
 obtain⟨Hr,A,m,c,_,hP⟩:=h
 exact hP.row.key
end
theorem za {w:World}{o:Oper}{a:Act}{K:Act→World→Prop}{Q:Exit→Act→World→Prop}(ty:TypeId) (x y:Operand) (ho:o.op=.store ty x y)
  (g off:Nat) (cells:Array Value) (hx:a.eval x=.pointer (some ⟨g,off,none⟩)) (hy:a.eval y=.agg cells)
  (t:TypeId) (old:Array Value) (hB:Blk w g t old) (hi:(Tryz.prog.info? ty).map (·.size)=some cells.size) (hold:off+cells.size≤old.size) (h1:cells.all (·.oneCell')=true)
  (h:∀ w',Blk w' g t (rU old off cells.toList)→w.grownBy w' (some g)→K (a.put o.dst undef) w') :
  o.wp Tryz.prog a w K Q:=by
 refine wp_store_mid ty x y ho g off cells hx hy (fun j hj=>⟨?_,hB.frozen _⟩) hi h1 ?_
 ·obtain⟨v,hv⟩:∃ v,old[off+j]? = some v:=⟨_,Array.getElem?_eq_getElem (by omega)⟩
  rw[hB.cell _ hv];rfl
 ·exact h _ (hB.setCells _ _) (vI g _ _ (yU w _))
abbrev vM:Array Value:=#[.int .i64 0,.int .u64 0,.slice none 0 0,.slice none 0 0,.int .i64 0,.int .u64 0,.slice none 0 0,.slice none 0 0]
theorem vW (H:Snap):ItemsC H vM.toList [zt,zt]:=by
 have h:=IsItem.plain H 0 0 (by omega) (by omega)
 exact(ItemsC.one h).app (ItemsC.one h)
section
variable {W0:World} {H:Snap} {B:Nat} {kc:Array Value} {L:List Itm}
def Tb (W0:World) (H:Snap) (B:Nat) (kc:Array Value) (L:List Itm) (e:Ending) (w':World):Prop:=e=.returned (.tuple #[])∧PSt W0 H B kc L w'
def oq (b:List UInt8):Itm:=.mk 2 0 b []
def xO (n:Int) (b:List UInt8):List Itm:=if 0<b.length then [zX n,oq b] else []
theorem pM (label:Int) (h1 : -9223372036854775808≤label) (h2:label≤9223372036854775807) {A:Option Addr}{c:Nat}{b:List UInt8}(hb:IsBytes H A c b) (sN:b.length≤1048576) (hL:L.length≤1000) (w:World) (hS:PSt W0 H B kc L w) :
  Calls Tryz.prog 72 #[.int .i64 label,.slice A b.length c,.pointer (some ⟨B,0,none⟩)] w (Tb W0 H B kc (L++xO label b)):=by
 by_cases h0:0<b.length
 ·obtain⟨Hr,VA,m,vc,hm,hP⟩:=hS;have HL:=Hh (And.intro hm hL);have E:Hid (xO label b=[zX label,oq b]):=if_pos h0;have xt:(0:Int)<(b.length:Int):=by omega
  have qC:decide ((0:Int)<(b.length:Int))=true:=decide_eq_true xt;have o7:decide (0<b.length)=true:=decide_eq_true h0;have HB:=Hh (And.intro hb (And.intro sN (And.intro h1 h2)));have Qe:(m:Int)<(m:Int)+2:=by omega
  have Nq:(m:Int)+1<(m:Int)+2:=by omega
  have lQ:(0:Int)≤(m:Int)+1:=by omega
  have Nr:m<m+2:=by omega
  have o3:IntKind.i64.wrap ((m:Int)+1)=(m:Int)+1:=IntWalk.i64_in _ (by omega);obtain⟨X1,VZ⟩:∃ X,zX label=X:=⟨_,rfl⟩
  obtain⟨X2,Va⟩:∃ X,oq b=X:=⟨_,rfl⟩
  have HX:=Hh (And.intro VZ Va);clear hm hL hb sN h1 h2 VZ Va;have c0:=hP.box.cell 0 rfl;go_enter Tryz.func72,Tryz.ntmps72
  go_upto_region 1 with fail
  replace hP:=hP.drew
  refine yt 7 (fun wx=>wx.cell? ⟨B,0,none⟩=some (.slice VA m vc)) (by kernel_rfl) (c0) (fun zy=>?_)
  refine Zk 0 rfl zy ?_
  refine Zk 1 rfl zy ?_
  refine Zk 3 rfl zy ?_
  refine Zk 5 rfl zy ?_
  refine ZkT 10 rfl (fun _=>zy) ?_
  refine WaysZ.two (i:=2) (j:=6) rfl rfl (by kernel_rfl) (fun K hK=>?_) (fun K hK=>?_)
  ·go_simp
   refine(wU label HB.out.2.2.1 HB.out.2.2.2 _ hP.row.grows.holds).mono ?_
   rintro e w2 ⟨v1,rfl,xa1,xb1,xc1,xd1,H1,rfl,ws,vt⟩
   rw[HX.out.1]at vt⊢;have hP:=hP.grow ws
   try (have hZ:=hZ.below ws.below)
   refine hK.out _ _ (fun _=>?_) (fun zy=>?_)
   ·exact hP.box.cell 0 rfl
   clear hK K;have zy:=zy (by decide)
   try simp only[Act.put,zz1,zz2,zz3,zz4,zz5,zz6]
   refine WaysZ.two (i:=4) (j:=6) rfl rfl (by kernel_rfl) (fun K hK=>?_) (fun K hK=>?_)
   ·go_simp
    refine(oC rfl (by have:=HB.out.2.1;omega) _ (Src.of_row (HB.out.1.row.mono hP.row.grows.le) hP.row.grows.holds) hP.row.grows.holds).mono ?_
    rintro e w4 ⟨v2,rfl,xa2,xb2,xc2,xd2,H2,rfl,yp,un⟩
    rw[show Itm.mk 2 0 b []=X2 from HX.out.2]at un⊢;have hP:=hP.grow yp
    try (have hZ:=hZ.below yp.below)
    have vt:=vt.mono yp.le
    refine hK.out _ _ (fun _=>?_) (fun zy=>?_)
    ·exact hP.box.cell 0 rfl
    clear hK K;have zy:=zy (by decide)
    try simp only[Act.put,zz1,zz2,zz3,zz4,zz5,zz6]
    refine Zo 6 rfl fun K hK=>?_
    go_simp
    have hZ:=hP.litZ vM 26;have hP:=hP.alloc (.cells vM 26)
    refine hK.out _ _ (fun _=>?_) (fun zy=>?_)
    ·exact hP.box.cell 0 rfl
    clear hK K;have zy:=zy (by decide)
    try simp only[Act.put,zz1,zz2,zz3,zz4,zz5,zz6]
    refine Zo 7 rfl fun K hK=>?_
    rw[if_pos (by rfl)]
    refine ym _ _ rfl _ _ _ _ rfl hP.row.own _ _ _ vM.toList [zt,zt] rfl rfl (vW _) hZ (by have:=HL.out;simp;omega) hP.row.base fun v7 w7 hown7 hg7 hat7=>?_
    have hP:=hP.app hown7 hg7 hat7;obtain⟨A7,c7,rfl,_⟩:=hown7.form;rw[show(L++[zt,zt]).length=m+2 by have:=HL.out;simp;omega]at hP⊢;obtain⟨g7,_,jf,_⟩:=hP.put (L1:=L) (z:=zt) (L2:=[zt]) (i:=m) rfl HL.out.1
    cases jf
    clear hown7 hg7 hat7
    refine hK.out _ _ (fun h=>absurd h (by decide)) (fun _=>?_)
    clear hK K
    try simp only[Act.put,zz1,zz2,zz3,zz4,zz5,zz6]
    refine ZkT 8 rfl (fun h=>absurd h (by decide)) ?_
    refine WaysZ.two (i:=9) (j:=13) rfl rfl (by kernel_rfl) (fun K hK=>?_) (fun K hK=>?_)
    ·rw[if_pos (by rfl)];obtain⟨g1,cur1,rF,yM,xE,xx⟩:=hP.put (L1:=L) (z:=zt) (L2:=[zt]) (i:=m) rfl (by have:=HL.out;first | omega | (simp;omega))
     cases rF
     refine za _ _ _ rfl g7 ((m)*4) _ rfl rfl _ _ yM zw xE (wu _ _ _ _ rfl rfl rfl rfl) fun w9 tk hg9=>?_
     have hP:=xx _ _ X1 (L++[X1,zt]) (ItemsC.one vt) rfl tk hg9;clear xx yM xE tk hg9
     refine hK.out _ _ (fun h=>absurd h (by decide)) (fun _=>?_)
     clear hK K
     try simp only[Act.put,zz1,zz2,zz3,zz4,zz5,zz6]
     refine ZkT 11 rfl (fun h=>absurd h (by decide)) ?_
     refine WaysZ.two (i:=12) (j:=13) rfl rfl (by kernel_rfl) (fun K hK=>?_) (fun K hK=>?_)
     ·rw[if_pos (by rfl)];obtain⟨g2,cur2,tc,yu,vO,yx⟩:=hP.put (L1:=L++[X1]) (z:=zt) (L2:=[]) (i:=m+1) (by rw[List.append_assoc];rfl) (by have:=HL.out;first | omega | (simp;omega))
      cases tc
      refine za _ _ _ rfl g7 ((m+1)*4) _ rfl rfl _ _ yu zw vO (wu _ _ _ _ rfl rfl rfl rfl) fun w12 hB12 hg12=>?_
      have hP:=yx _ _ X2 (L++[X1,X2]) (ItemsC.one un) (by rw[List.append_assoc];rfl) hB12 hg12;clear yx yu vO hB12 hg12
      refine hK.out _ _ (fun h=>absurd h (by decide)) (fun _=>?_)
      clear hK K
      try simp only[Act.put,zz1,zz2,zz3,zz4,zz5,zz6]
      refine Zo 13 rfl fun K hK=>?_
      rw[if_pos (by rfl)]
      refine ze _ _ _ rfl B 0 (.slice (some ⟨g7,0,none⟩) (m+2) c7) rfl rfl _ _ hP.box zR (by simp) rfl fun w13 hB13 hg13=>?_
      have hP:=hP.setBox (by simpa using hB13) hg13;clear hB13 hg13
      refine hK.out _ _ (fun h=>absurd h (by decide)) (fun _=>?_)
      clear hK K
      try simp only[Act.put,zz1,zz2,zz3,zz4,zz5,zz6]
      refine WaysZ.done (by kernel_rfl) ?_
      clear zy;go_wp2_with fail
      go_end0
      exact⟨rfl,by rw[E.out,HX.out.1,HX.out.2];exact⟨_,_,_,_,by have:=HL.out;simp;omega,hP⟩⟩
     ·rw[if_pos (by rfl)]
      refine ze _ _ _ rfl B 0 (.slice (some ⟨g7,0,none⟩) (m+2) c7) rfl rfl _ _ hP.box zR (by simp) rfl fun w13 hB13 hg13=>?_
      have hP:=hP.setBox (by simpa using hB13) hg13;clear hB13 hg13
      refine hK.out _ _ (fun h=>absurd h (by decide)) (fun _=>?_)
      clear hK K
      try simp only[Act.put,zz1,zz2,zz3,zz4,zz5,zz6]
      refine Zo 12 rfl fun K hK=>?_
      rw[if_pos (by rfl)];obtain⟨g2,cur2,tc,yu,vO,yx⟩:=hP.put (L1:=L++[X1]) (z:=zt) (L2:=[]) (i:=m+1) (by rw[List.append_assoc];rfl) (by have:=HL.out;first | omega | (simp;omega))
      cases tc
      refine za _ _ _ rfl g7 ((m+1)*4) _ rfl rfl _ _ yu zw vO (wu _ _ _ _ rfl rfl rfl rfl) fun w12 hB12 hg12=>?_
      have hP:=yx _ _ X2 (L++[X1,X2]) (ItemsC.one un) (by rw[List.append_assoc];rfl) hB12 hg12;clear yx yu vO hB12 hg12
      refine hK.out _ _ (fun h=>absurd h (by decide)) (fun _=>?_)
      clear hK K
      try simp only[Act.put,zz1,zz2,zz3,zz4,zz5,zz6]
      refine WaysZ.done (by kernel_rfl) ?_
      clear zy;go_wp2_with fail
      go_end0
      exact⟨rfl,by rw[E.out,HX.out.1,HX.out.2];exact⟨_,_,_,_,by have:=HL.out;simp;omega,hP⟩⟩
    ·rw[if_pos (by rfl)]
     refine ze _ _ _ rfl B 0 (.slice (some ⟨g7,0,none⟩) (m+2) c7) rfl rfl _ _ hP.box zR (by simp) rfl fun w13 hB13 hg13=>?_
     have hP:=hP.setBox (by simpa using hB13) hg13;clear hB13 hg13
     refine hK.out _ _ (fun h=>absurd h (by decide)) (fun _=>?_)
     clear hK K
     try simp only[Act.put,zz1,zz2,zz3,zz4,zz5,zz6]
     refine Zo 9 rfl fun K hK=>?_
     rw[if_pos (by rfl)];obtain⟨g1,cur1,rF,yM,xE,xx⟩:=hP.put (L1:=L) (z:=zt) (L2:=[zt]) (i:=m) rfl (by have:=HL.out;first | omega | (simp;omega))
     cases rF
     refine za _ _ _ rfl g7 ((m)*4) _ rfl rfl _ _ yM zw xE (wu _ _ _ _ rfl rfl rfl rfl) fun w9 tk hg9=>?_
     have hP:=xx _ _ X1 (L++[X1,zt]) (ItemsC.one vt) rfl tk hg9;clear xx yM xE tk hg9
     refine hK.out _ _ (fun h=>absurd h (by decide)) (fun _=>?_)
     clear hK K
     try simp only[Act.put,zz1,zz2,zz3,zz4,zz5,zz6]
     refine ZkT 11 rfl (fun h=>absurd h (by decide)) ?_
     refine Zo 12 rfl fun K hK=>?_
     rw[if_pos (by rfl)];obtain⟨g2,cur2,tc,yu,vO,yx⟩:=hP.put (L1:=L++[X1]) (z:=zt) (L2:=[]) (i:=m+1) (by rw[List.append_assoc];rfl) (by have:=HL.out;first | omega | (simp;omega))
     cases tc
     refine za _ _ _ rfl g7 ((m+1)*4) _ rfl rfl _ _ yu zw vO (wu _ _ _ _ rfl rfl rfl rfl) fun w12 hB12 hg12=>?_
     have hP:=yx _ _ X2 (L++[X1,X2]) (ItemsC.one un) (by rw[List.append_assoc];rfl) hB12 hg12;clear yx yu vO hB12 hg12
     refine hK.out _ _ (fun h=>absurd h (by decide)) (fun _=>?_)
     clear hK K
     try simp only[Act.put,zz1,zz2,zz3,zz4,zz5,zz6]
     refine WaysZ.done (by kernel_rfl) ?_
     clear zy;go_wp2_with fail
     go_end0
     exact⟨rfl,by rw[E.out,HX.out.1,HX.out.2];exact⟨_,_,_,_,by have:=HL.out;simp;omega,hP⟩⟩
   ·go_simp
    have hZ:=hP.litZ vM 26;have hP:=hP.alloc (.cells vM 26)
    refine hK.out _ _ (fun _=>?_) (fun zy=>?_)
    ·exact hP.box.cell 0 rfl
    clear hK K;have zy:=zy (by decide)
    try simp only[Act.put,zz1,zz2,zz3,zz4,zz5,zz6]
    refine Zo 4 rfl fun K hK=>?_
    go_simp
    refine(oC rfl (by have:=HB.out.2.1;omega) _ (Src.of_row (HB.out.1.row.mono hP.row.grows.le) hP.row.grows.holds) hP.row.grows.holds).mono ?_
    rintro e w4 ⟨v2,rfl,xa2,xb2,xc2,xd2,H2,rfl,yp,un⟩
    rw[show Itm.mk 2 0 b []=X2 from HX.out.2]at un⊢;have hP:=hP.grow yp
    try (have hZ:=hZ.below yp.below)
    have vt:=vt.mono yp.le
    refine hK.out _ _ (fun _=>?_) (fun zy=>?_)
    ·exact hP.box.cell 0 rfl
    clear hK K;have zy:=zy (by decide)
    try simp only[Act.put,zz1,zz2,zz3,zz4,zz5,zz6]
    refine Zo 7 rfl fun K hK=>?_
    rw[if_pos (by rfl)]
    refine ym _ _ rfl _ _ _ _ rfl hP.row.own _ _ _ vM.toList [zt,zt] rfl rfl (vW _) hZ (by have:=HL.out;simp;omega) hP.row.base fun v7 w7 hown7 hg7 hat7=>?_
    have hP:=hP.app hown7 hg7 hat7;obtain⟨A7,c7,rfl,_⟩:=hown7.form;rw[show(L++[zt,zt]).length=m+2 by have:=HL.out;simp;omega]at hP⊢;obtain⟨g7,_,jf,_⟩:=hP.put (L1:=L) (z:=zt) (L2:=[zt]) (i:=m) rfl HL.out.1
    cases jf
    clear hown7 hg7 hat7
    refine hK.out _ _ (fun h=>absurd h (by decide)) (fun _=>?_)
    clear hK K
    try simp only[Act.put,zz1,zz2,zz3,zz4,zz5,zz6]
    refine ZkT 8 rfl (fun h=>absurd h (by decide)) ?_
    refine WaysZ.two (i:=9) (j:=13) rfl rfl (by kernel_rfl) (fun K hK=>?_) (fun K hK=>?_)
    ·rw[if_pos (by rfl)];obtain⟨g1,cur1,rF,yM,xE,xx⟩:=hP.put (L1:=L) (z:=zt) (L2:=[zt]) (i:=m) rfl (by have:=HL.out;first | omega | (simp;omega))
     cases rF
     refine za _ _ _ rfl g7 ((m)*4) _ rfl rfl _ _ yM zw xE (wu _ _ _ _ rfl rfl rfl rfl) fun w9 tk hg9=>?_
     have hP:=xx _ _ X1 (L++[X1,zt]) (ItemsC.one vt) rfl tk hg9;clear xx yM xE tk hg9
     refine hK.out _ _ (fun h=>absurd h (by decide)) (fun _=>?_)
     clear hK K
     try simp only[Act.put,zz1,zz2,zz3,zz4,zz5,zz6]
     refine ZkT 11 rfl (fun h=>absurd h (by decide)) ?_
     refine WaysZ.two (i:=12) (j:=13) rfl rfl (by kernel_rfl) (fun K hK=>?_) (fun K hK=>?_)
     ·rw[if_pos (by rfl)];obtain⟨g2,cur2,tc,yu,vO,yx⟩:=hP.put (L1:=L++[X1]) (z:=zt) (L2:=[]) (i:=m+1) (by rw[List.append_assoc];rfl) (by have:=HL.out;first | omega | (simp;omega))
      cases tc
      refine za _ _ _ rfl g7 ((m+1)*4) _ rfl rfl _ _ yu zw vO (wu _ _ _ _ rfl rfl rfl rfl) fun w12 hB12 hg12=>?_
      have hP:=yx _ _ X2 (L++[X1,X2]) (ItemsC.one un) (by rw[List.append_assoc];rfl) hB12 hg12;clear yx yu vO hB12 hg12
      refine hK.out _ _ (fun h=>absurd h (by decide)) (fun _=>?_)
      clear hK K
      try simp only[Act.put,zz1,zz2,zz3,zz4,zz5,zz6]
      refine Zo 13 rfl fun K hK=>?_
      rw[if_pos (by rfl)]
      refine ze _ _ _ rfl B 0 (.slice (some ⟨g7,0,none⟩) (m+2) c7) rfl rfl _ _ hP.box zR (by simp) rfl fun w13 hB13 hg13=>?_
      have hP:=hP.setBox (by simpa using hB13) hg13;clear hB13 hg13
      refine hK.out _ _ (fun h=>absurd h (by decide)) (fun _=>?_)
      clear hK K
      try simp only[Act.put,zz1,zz2,zz3,zz4,zz5,zz6]
      refine WaysZ.done (by kernel_rfl) ?_
      clear zy;go_wp2_with fail
      go_end0
      exact⟨rfl,by rw[E.out,HX.out.1,HX.out.2];exact⟨_,_,_,_,by have:=HL.out;simp;omega,hP⟩⟩
     ·rw[if_pos (by rfl)]
      refine ze _ _ _ rfl B 0 (.slice (some ⟨g7,0,none⟩) (m+2) c7) rfl rfl _ _ hP.box zR (by simp) rfl fun w13 hB13 hg13=>?_
      have hP:=hP.setBox (by simpa using hB13) hg13;clear hB13 hg13
      refine hK.out _ _ (fun h=>absurd h (by decide)) (fun _=>?_)
      clear hK K
      try simp only[Act.put,zz1,zz2,zz3,zz4,zz5,zz6]
      refine Zo 12 rfl fun K hK=>?_
      rw[if_pos (by rfl)];obtain⟨g2,cur2,tc,yu,vO,yx⟩:=hP.put (L1:=L++[X1]) (z:=zt) (L2:=[]) (i:=m+1) (by rw[List.append_assoc];rfl) (by have:=HL.out;first | omega | (simp;omega))
      cases tc
      refine za _ _ _ rfl g7 ((m+1)*4) _ rfl rfl _ _ yu zw vO (wu _ _ _ _ rfl rfl rfl rfl) fun w12 hB12 hg12=>?_
      have hP:=yx _ _ X2 (L++[X1,X2]) (ItemsC.one un) (by rw[List.append_assoc];rfl) hB12 hg12;clear yx yu vO hB12 hg12
      refine hK.out _ _ (fun h=>absurd h (by decide)) (fun _=>?_)
      clear hK K
      try simp only[Act.put,zz1,zz2,zz3,zz4,zz5,zz6]
      refine WaysZ.done (by kernel_rfl) ?_
      clear zy;go_wp2_with fail
      go_end0
      exact⟨rfl,by rw[E.out,HX.out.1,HX.out.2];exact⟨_,_,_,_,by have:=HL.out;simp;omega,hP⟩⟩
    ·rw[if_pos (by rfl)]
     refine ze _ _ _ rfl B 0 (.slice (some ⟨g7,0,none⟩) (m+2) c7) rfl rfl _ _ hP.box zR (by simp) rfl fun w13 hB13 hg13=>?_
     have hP:=hP.setBox (by simpa using hB13) hg13;clear hB13 hg13
     refine hK.out _ _ (fun h=>absurd h (by decide)) (fun _=>?_)
     clear hK K
     try simp only[Act.put,zz1,zz2,zz3,zz4,zz5,zz6]
     refine Zo 9 rfl fun K hK=>?_
     rw[if_pos (by rfl)];obtain⟨g1,cur1,rF,yM,xE,xx⟩:=hP.put (L1:=L) (z:=zt) (L2:=[zt]) (i:=m) rfl (by have:=HL.out;first | omega | (simp;omega))
     cases rF
     refine za _ _ _ rfl g7 ((m)*4) _ rfl rfl _ _ yM zw xE (wu _ _ _ _ rfl rfl rfl rfl) fun w9 tk hg9=>?_
     have hP:=xx _ _ X1 (L++[X1,zt]) (ItemsC.one vt) rfl tk hg9;clear xx yM xE tk hg9
     refine hK.out _ _ (fun h=>absurd h (by decide)) (fun _=>?_)
     clear hK K
     try simp only[Act.put,zz1,zz2,zz3,zz4,zz5,zz6]
     refine ZkT 11 rfl (fun h=>absurd h (by decide)) ?_
     refine Zo 12 rfl fun K hK=>?_
     rw[if_pos (by rfl)];obtain⟨g2,cur2,tc,yu,vO,yx⟩:=hP.put (L1:=L++[X1]) (z:=zt) (L2:=[]) (i:=m+1) (by rw[List.append_assoc];rfl) (by have:=HL.out;first | omega | (simp;omega))
     cases tc
     refine za _ _ _ rfl g7 ((m+1)*4) _ rfl rfl _ _ yu zw vO (wu _ _ _ _ rfl rfl rfl rfl) fun w12 hB12 hg12=>?_
     have hP:=yx _ _ X2 (L++[X1,X2]) (ItemsC.one un) (by rw[List.append_assoc];rfl) hB12 hg12;clear yx yu vO hB12 hg12
     refine hK.out _ _ (fun h=>absurd h (by decide)) (fun _=>?_)
     clear hK K
     try simp only[Act.put,zz1,zz2,zz3,zz4,zz5,zz6]
     refine WaysZ.done (by kernel_rfl) ?_
     clear zy;go_wp2_with fail
     go_end0
     exact⟨rfl,by rw[E.out,HX.out.1,HX.out.2];exact⟨_,_,_,_,by have:=HL.out;simp;omega,hP⟩⟩
  ·go_simp
   have hZ:=hP.litZ vM 26;have hP:=hP.alloc (.cells vM 26)
   refine hK.out _ _ (fun _=>?_) (fun zy=>?_)
   ·exact hP.box.cell 0 rfl
   clear hK K;have zy:=zy (by decide)
   try simp only[Act.put,zz1,zz2,zz3,zz4,zz5,zz6]
   refine Zo 2 rfl fun K hK=>?_
   go_simp
   refine(wU label HB.out.2.2.1 HB.out.2.2.2 _ hP.row.grows.holds).mono ?_
   rintro e w2 ⟨v1,rfl,xa1,xb1,xc1,xd1,H1,rfl,ws,vt⟩
   rw[HX.out.1]at vt⊢;have hP:=hP.grow ws
   try (have hZ:=hZ.below ws.below)
   refine hK.out _ _ (fun _=>?_) (fun zy=>?_)
   ·exact hP.box.cell 0 rfl
   clear hK K;have zy:=zy (by decide)
   try simp only[Act.put,zz1,zz2,zz3,zz4,zz5,zz6]
   refine Zo 4 rfl fun K hK=>?_
   go_simp
   refine(oC rfl (by have:=HB.out.2.1;omega) _ (Src.of_row (HB.out.1.row.mono hP.row.grows.le) hP.row.grows.holds) hP.row.grows.holds).mono ?_
   rintro e w4 ⟨v2,rfl,xa2,xb2,xc2,xd2,H2,rfl,yp,un⟩
   rw[show Itm.mk 2 0 b []=X2 from HX.out.2]at un⊢;have hP:=hP.grow yp
   try (have hZ:=hZ.below yp.below)
   have vt:=vt.mono yp.le
   refine hK.out _ _ (fun _=>?_) (fun zy=>?_)
   ·exact hP.box.cell 0 rfl
   clear hK K;have zy:=zy (by decide)
   try simp only[Act.put,zz1,zz2,zz3,zz4,zz5,zz6]
   refine Zo 7 rfl fun K hK=>?_
   rw[if_pos (by rfl)]
   refine ym _ _ rfl _ _ _ _ rfl hP.row.own _ _ _ vM.toList [zt,zt] rfl rfl (vW _) hZ (by have:=HL.out;simp;omega) hP.row.base fun v7 w7 hown7 hg7 hat7=>?_
   have hP:=hP.app hown7 hg7 hat7;obtain⟨A7,c7,rfl,_⟩:=hown7.form;rw[show(L++[zt,zt]).length=m+2 by have:=HL.out;simp;omega]at hP⊢;obtain⟨g7,_,jf,_⟩:=hP.put (L1:=L) (z:=zt) (L2:=[zt]) (i:=m) rfl HL.out.1
   cases jf
   clear hown7 hg7 hat7
   refine hK.out _ _ (fun h=>absurd h (by decide)) (fun _=>?_)
   clear hK K
   try simp only[Act.put,zz1,zz2,zz3,zz4,zz5,zz6]
   refine ZkT 8 rfl (fun h=>absurd h (by decide)) ?_
   refine WaysZ.two (i:=9) (j:=13) rfl rfl (by kernel_rfl) (fun K hK=>?_) (fun K hK=>?_)
   ·rw[if_pos (by rfl)];obtain⟨g1,cur1,rF,yM,xE,xx⟩:=hP.put (L1:=L) (z:=zt) (L2:=[zt]) (i:=m) rfl (by have:=HL.out;first | omega | (simp;omega))
    cases rF
    refine za _ _ _ rfl g7 ((m)*4) _ rfl rfl _ _ yM zw xE (wu _ _ _ _ rfl rfl rfl rfl) fun w9 tk hg9=>?_
    have hP:=xx _ _ X1 (L++[X1,zt]) (ItemsC.one vt) rfl tk hg9;clear xx yM xE tk hg9
    refine hK.out _ _ (fun h=>absurd h (by decide)) (fun _=>?_)
    clear hK K
    try simp only[Act.put,zz1,zz2,zz3,zz4,zz5,zz6]
    refine ZkT 11 rfl (fun h=>absurd h (by decide)) ?_
    refine WaysZ.two (i:=12) (j:=13) rfl rfl (by kernel_rfl) (fun K hK=>?_) (fun K hK=>?_)
    ·rw[if_pos (by rfl)];obtain⟨g2,cur2,tc,yu,vO,yx⟩:=hP.put (L1:=L++[X1]) (z:=zt) (L2:=[]) (i:=m+1) (by rw[List.append_assoc];rfl) (by have:=HL.out;first | omega | (simp;omega))
     cases tc
     refine za _ _ _ rfl g7 ((m+1)*4) _ rfl rfl _ _ yu zw vO (wu _ _ _ _ rfl rfl rfl rfl) fun w12 hB12 hg12=>?_
     have hP:=yx _ _ X2 (L++[X1,X2]) (ItemsC.one un) (by rw[List.append_assoc];rfl) hB12 hg12;clear yx yu vO hB12 hg12
     refine hK.out _ _ (fun h=>absurd h (by decide)) (fun _=>?_)
     clear hK K
     try simp only[Act.put,zz1,zz2,zz3,zz4,zz5,zz6]
     refine Zo 13 rfl fun K hK=>?_
     rw[if_pos (by rfl)]
     refine ze _ _ _ rfl B 0 (.slice (some ⟨g7,0,none⟩) (m+2) c7) rfl rfl _ _ hP.box zR (by simp) rfl fun w13 hB13 hg13=>?_
     have hP:=hP.setBox (by simpa using hB13) hg13;clear hB13 hg13
     refine hK.out _ _ (fun h=>absurd h (by decide)) (fun _=>?_)
     clear hK K
     try simp only[Act.put,zz1,zz2,zz3,zz4,zz5,zz6]
     refine WaysZ.done (by kernel_rfl) ?_
     clear zy;go_wp2_with fail
     go_end0
     exact⟨rfl,by rw[E.out,HX.out.1,HX.out.2];exact⟨_,_,_,_,by have:=HL.out;simp;omega,hP⟩⟩
    ·rw[if_pos (by rfl)]
     refine ze _ _ _ rfl B 0 (.slice (some ⟨g7,0,none⟩) (m+2) c7) rfl rfl _ _ hP.box zR (by simp) rfl fun w13 hB13 hg13=>?_
     have hP:=hP.setBox (by simpa using hB13) hg13;clear hB13 hg13
     refine hK.out _ _ (fun h=>absurd h (by decide)) (fun _=>?_)
     clear hK K
     try simp only[Act.put,zz1,zz2,zz3,zz4,zz5,zz6]
     refine Zo 12 rfl fun K hK=>?_
     rw[if_pos (by rfl)];obtain⟨g2,cur2,tc,yu,vO,yx⟩:=hP.put (L1:=L++[X1]) (z:=zt) (L2:=[]) (i:=m+1) (by rw[List.append_assoc];rfl) (by have:=HL.out;first | omega | (simp;omega))
     cases tc
     refine za _ _ _ rfl g7 ((m+1)*4) _ rfl rfl _ _ yu zw vO (wu _ _ _ _ rfl rfl rfl rfl) fun w12 hB12 hg12=>?_
     have hP:=yx _ _ X2 (L++[X1,X2]) (ItemsC.one un) (by rw[List.append_assoc];rfl) hB12 hg12;clear yx yu vO hB12 hg12
     refine hK.out _ _ (fun h=>absurd h (by decide)) (fun _=>?_)
     clear hK K
     try simp only[Act.put,zz1,zz2,zz3,zz4,zz5,zz6]
     refine WaysZ.done (by kernel_rfl) ?_
     clear zy;go_wp2_with fail
     go_end0
     exact⟨rfl,by rw[E.out,HX.out.1,HX.out.2];exact⟨_,_,_,_,by have:=HL.out;simp;omega,hP⟩⟩
   ·rw[if_pos (by rfl)]
    refine ze _ _ _ rfl B 0 (.slice (some ⟨g7,0,none⟩) (m+2) c7) rfl rfl _ _ hP.box zR (by simp) rfl fun w13 hB13 hg13=>?_
    have hP:=hP.setBox (by simpa using hB13) hg13;clear hB13 hg13
    refine hK.out _ _ (fun h=>absurd h (by decide)) (fun _=>?_)
    clear hK K
    try simp only[Act.put,zz1,zz2,zz3,zz4,zz5,zz6]
    refine Zo 9 rfl fun K hK=>?_
    rw[if_pos (by rfl)];obtain⟨g1,cur1,rF,yM,xE,xx⟩:=hP.put (L1:=L) (z:=zt) (L2:=[zt]) (i:=m) rfl (by have:=HL.out;first | omega | (simp;omega))
    cases rF
    refine za _ _ _ rfl g7 ((m)*4) _ rfl rfl _ _ yM zw xE (wu _ _ _ _ rfl rfl rfl rfl) fun w9 tk hg9=>?_
    have hP:=xx _ _ X1 (L++[X1,zt]) (ItemsC.one vt) rfl tk hg9;clear xx yM xE tk hg9
    refine hK.out _ _ (fun h=>absurd h (by decide)) (fun _=>?_)
    clear hK K
    try simp only[Act.put,zz1,zz2,zz3,zz4,zz5,zz6]
    refine ZkT 11 rfl (fun h=>absurd h (by decide)) ?_
    refine Zo 12 rfl fun K hK=>?_
    rw[if_pos (by rfl)];obtain⟨g2,cur2,tc,yu,vO,yx⟩:=hP.put (L1:=L++[X1]) (z:=zt) (L2:=[]) (i:=m+1) (by rw[List.append_assoc];rfl) (by have:=HL.out;first | omega | (simp;omega))
    cases tc
    refine za _ _ _ rfl g7 ((m+1)*4) _ rfl rfl _ _ yu zw vO (wu _ _ _ _ rfl rfl rfl rfl) fun w12 hB12 hg12=>?_
    have hP:=yx _ _ X2 (L++[X1,X2]) (ItemsC.one un) (by rw[List.append_assoc];rfl) hB12 hg12;clear yx yu vO hB12 hg12
    refine hK.out _ _ (fun h=>absurd h (by decide)) (fun _=>?_)
    clear hK K
    try simp only[Act.put,zz1,zz2,zz3,zz4,zz5,zz6]
    refine WaysZ.done (by kernel_rfl) ?_
    clear zy;go_wp2_with fail
    go_end0
    exact⟨rfl,by rw[E.out,HX.out.1,HX.out.2];exact⟨_,_,_,_,by have:=HL.out;simp;omega,hP⟩⟩
 ·have E:Hid (xO label b=[]):=if_neg h0;have xt:¬ (0:Int)<(b.length:Int):=by omega
  have qC:decide ((0:Int)<(b.length:Int))=false:=decide_eq_false xt;have o7:decide (0<b.length)=false:=decide_eq_false h0;have HS:=Hh hS;clear hS hb;go_enter Tryz.func72,Tryz.ntmps72
  go_wp2_with fail
  go_end0
  exact⟨rfl,by rw[E.out,List.append_nil];exact HS.out⟩
end
end Go.Proofs.YtnlinmoiakgedaaGreatDoor
