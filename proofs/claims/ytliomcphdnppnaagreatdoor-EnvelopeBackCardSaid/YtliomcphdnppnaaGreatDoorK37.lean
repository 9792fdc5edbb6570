/- squeezed. sort.Slice of pairs whose keys asc -/
import Derived.Test.YtliomcphdnppnaaGreatDoorK36
import Derived.Sort.LotA
import Derived.Shelf.GgSortFunc.RowK
set_option linter.unusedVariables false
set_option linter.unusedSimpArgs false
set_option maxRecDepth 100000
set_option maxHeartbeats 3200000
namespace Go.Proofs.YtliomcphdnppnaaGreatDoor
open Go.RowKit
theorem jcj{P:Prop}(h:P:=by
 rcases hf b o hb with h1 | h1
 ·exact h.grows.fresh b o h1
 exact .inr (by have:=(h.own.lt b (by cases A <;> simp_all [Value.ownBlock])).1;omega)):P:=h
structure PE (H:Snap) where
 A:Option Addr
 cc:Nat
 key:List UInt8
 rest:List Value
 len:rest.length=8
 one:∀ u∈rest,u.oneCell'=true
 is:IsBytes H A cc key
instance (H:Snap):Inhabited (PE H):=⟨⟨none,0,[],List.replicate 8 (.bool false),by simp,by simp[Value.oneCell'],IsBytes.nil H⟩⟩
def xC {H:Snap}(x:PE H):List Value:=.slice x.A x.key.length x.cc::x.rest
def Z4 {H:Snap}(a b:PE H):Bool:=decide (Lib.compareBytes a.key b.key<0)
theorem V8 {H:Snap}(blk off c Bs size:Nat) (W:World) (hW:Holds W H) (G:Nat→PE H) (hs:W.cell? ⟨Bs,0,none⟩=some (.slice (some ⟨blk,off,none⟩) size c))
  (hc:∀ t,t<size→W.cell? ⟨blk,off+t*9,none⟩=some (.slice (G t).A (G t).key.length (G t).cc)) (i j:Nat) (hi:i<size) (hj:j<size) :
  Calls Tryz.prog 109 #[.int .i64 i,.int .i64 j,.pointer (some ⟨Bs,0,none⟩)] W fun e w'=>e=.returned (.bool (Z4 (G i) (G j)))∧∃ q,w'=W.drewN q:=by
 have ci:=hc i hi;have cj:=hc j hj;have si:=Src.of_row (G i).is.row hW;have sj:=Src.of_row (G j).is.row hW;have hiI:(i:Int)<size:=by omega
 have hjI:(j:Int)<size:=by omega
 have E:Hid (Z4 (G i) (G j)=decide (Lib.compareBytes (G i).key (G j).key<0)):=rfl;obtain⟨x,hx⟩:∃ x,G i=x:=⟨_,rfl⟩
 obtain⟨y,hy⟩:∃ y,G j=y:=⟨_,rfl⟩
 rw[hx]at ci si E⊢;rw[hy]at cj sj E⊢;rw[E.out];have CMP:True:=trivial;have SX:=si;have SY:=sj;clear hc hx hy si sj E hW CMP;have HB:=Hh (And.intro hi hj);go_enter Tryz.func109,Tryz.ntmps109
 go_upto_region 1 with fail
 refine tB 12 (fun wx=>wx.cell? ⟨Bs,0,none⟩=some (.slice (some ⟨blk,off,none⟩) size c)∧wx.cell? ⟨blk,off+i*9,none⟩=some (.slice x.A x.key.length x.cc)∧wx.cell? ⟨blk,off+j*9,none⟩=some (.slice y.A y.key.length y.cc)) (by kernel_rfl) (⟨hs,ci,cj⟩) (fun zy=>?_)
 refine Zk 0 rfl zy ?_
 refine Zk 1 rfl zy ?_
 refine Zk 2 rfl zy ?_
 refine Zk 3 rfl zy ?_
 refine Zk 4 rfl zy ?_
 refine Zk 5 rfl zy ?_
 refine Zk 6 rfl zy ?_
 refine Zk 7 rfl zy ?_
 refine Zk 8 rfl zy ?_
 refine Zk 9 rfl zy ?_
 refine Zo 10 rfl fun K hK=>?_
 go_simp
 refine(show Calls Tryz.prog 110 #[.slice x.A x.key.length x.cc,.slice y.A y.key.length y.cc] W.drew fun e w'=>e=.returned (.int .i64 (Lib.compareBytes x.key y.key))∧W.drew=w' from p8 W.drew x.A y.A x.key y.key x.key.length y.key.length x.cc y.cc rfl rfl SX SY).mono ?_
 rintro e w3 ⟨rfl,rfl⟩
 refine Ko hK ?_ fun zy=>?_
 ·exact⟨hs,ci,cj⟩
 clear hK K
 refine Zk 11 rfl zy ?_
 refine Zo 12 rfl fun K hK=>?_
 go_simp
 refine Kz hK ?_
 clear hK K
 refine WaysZ.done (by kernel_rfl) ?_
 clear zy;go_wp2_with fail
 go_ret
 exact⟨rfl,1,rfl⟩
end Go.Proofs.YtliomcphdnppnaaGreatDoor
namespace Go.Proofs.YtliomcphdnppnaaGreatDoor
open Go.RowKit Go.Shelf Go.Lib
noncomputable def pairTI:TypeInfo:=(Tryz.prog.info? 147).get (by kernel_rfl)
noncomputable def pairEI:TypeInfo:=(Tryz.prog.info? 149).get (by kernel_rfl)
theorem GE (n:Nat) (h2:2≤n):Lib.swapperK n pairEI 25=9:=by
 have a:pairEI.hasPointers=true:=by kernel_rfl
 have b:(pairEI.bytes==8)=false:=by kernel_rfl
 have c:(n==0)=false:=by simp;omega
 have d:(n==1)=false:=by simp;omega
 simp[Lib.swapperK,a,b,c,d]
theorem R0 {H:Snap}(x:PE H):(xC x).length=9:=by simp[xC,x.len]
end Go.Proofs.YtliomcphdnppnaaGreatDoor
namespace Go.Proofs.YtliomcphdnppnaaGreatDoor
open Go.RowKit
abbrev Pr:=List UInt8×Itm×Itm
def lF:Lie Pr where
 k:=9
 pos:=by omega
 E:=fun H x c=>∃ A cc ba bc ia ic ba' bc' ia' ic',c=.slice A x.1.length cc::(zV x.2.1 ba bc ia ic++zV x.2.2 ba' bc' ia' ic')∧IsBytes H A cc x.1∧IsItem H ba bc ia ic x.2.1∧IsItem H ba' bc' ia' ic' x.2.2
 len:=by rintro _ _ _ ⟨_,_,_,_,_,_,_,_,_,_,rfl,_⟩;rfl
 one:=by rintro _ _ _ ⟨_,_,_,_,_,_,_,_,_,_,rfl,_⟩;simp[zV,Value.oneCell']
 mono:=by rintro H K x c hl ⟨A,cc,ba,bc,ia,ic,ba',bc',ia',ic',e,h1,h2,h3⟩;exact⟨A,cc,ba,bc,ia,ic,ba',bc',ia',ic',e,h1.mono hl,h2.mono hl,h3.mono hl⟩
def pk:List Itm→List Pr
 | a::b::l=>(zZ a,a,b)::pk l
 | _=>[]
theorem ew:∀ l:List Itm,(pk l).length=l.length/2
 | []=>rfl
 | [_]=>by simp[pk]
 | a::b::l=>by simp only[pk,List.length_cons,ew l];omega
theorem iR:∀ (l:List Itm) (i:Nat) (h:2*i+1<l.length),(pk l)[i]? = some (zZ (l[2*i]'(by omega)),l[2*i]'(by omega),l[2*i+1])
 | [],i,h=>by simp at h
 | [_],i,h=>by simp at h
 | a::b::l,0,h=>by simp[pk]
 | a::b::l,i+1,h=>by
  have h':2*i+1<l.length:=by simp only[List.length_cons]at h;omega
  have e1:∀ h2,(a::b::l)[2*(i+1)]'h2=l[2*i]:=fun h2=>by
   have:2*(i+1)=2*i+1+1:=by omega
   simp only[this,List.getElem_cons_succ]
  have e2:∀ h2,(a::b::l)[2*(i+1)+1]'h2=l[2*i+1]:=fun h2=>by
   have:2*(i+1)+1=(2*i+1)+1+1:=by omega
   simp only[this,List.getElem_cons_succ]
  rw[e1,e2,pk,List.getElem?_cons_succ]
  exact iR l i h'
theorem Ka (l:List Itm) (i:Nat) (h:2*i+1<l.length):pk (l.take (2*i+2))=pk (l.take (2*i))++[(zZ (l[2*i]'(by omega)),l[2*i]'(by omega),l[2*i+1])]:=by
 apply List.ext_getElem?
 intro j
 have h1:(pk (l.take (2*i))).length=i:=by rw[ew,List.length_take];omega
 have h2:(pk (l.take (2*i+2))).length=i+1:=by rw[ew,List.length_take];omega
 rcases Nat.lt_trichotomy j i with hj | hj | hj
 ·rw[List.getElem?_append_left (by omega),iR _ j (by rw[List.length_take];omega),iR _ j (by rw[List.length_take];omega)]
  simp only[List.getElem_take]
 ·subst hj;rw[List.getElem?_append_right (by omega),h1,Nat.sub_self,iR _ j (by rw[List.length_take];omega)]
  simp only[List.getElem_take]
  rfl
 rw[List.getElem?_eq_none (by omega),List.getElem?_eq_none (by simp;omega)]
structure XM {α:Type} (L:Lie α) (t bt:TypeId) (kt:TypeId) (W0:World) (H:Snap) (B:Nat) (kc:Array Value) (bv v:Value) (l:List α) (w:World) (Hr:Snap):Prop where
 grows:Grows W0 H w Hr
 hK:Hr W0.heap.size=none
 key:Blk w W0.heap.size kt kc
 own:OwnX L t w (W0.heap.size+1) v Hr l
 apart:∀ g,v.ownBlock=some g→Hr g=none
 lt:W0.heap.size<B
 hB:Hr B=none
 box:Blk w B bt #[bv]
 far:v.ownBlock≠some B
section
variable {α:Type} {L:Lie α} {t bt kt:TypeId} {W0 w w':World} {H Hr Hs:Snap} {B:Nat} {kc:Array Value} {bv v v':Value} {l news:List α}
theorem XM.start (hG:Grows W0 H w Hr) (hK:Hr W0.heap.size=none) (hk:Blk w W0.heap.size kt kc) (hO:OwnX L t w (W0.heap.size+1) v Hr l) (ha:∀ g,v.ownBlock=some g→Hr g=none) :
  XM L t bt kt W0 H w.heap.size kc bv v l (w.alloc (.cells #[bv] bt)) Hr :=
 ⟨hG.alloc _,hK,hk.alloc _,hO.alloc _,ha,hk.lt,hG.hidden (Nat.le_refl _),Blk.new _ _ _,fun e=>by have:=(hO.lt _ e).2;omega⟩
theorem XM.grow (h:XM L t bt kt W0 H B kc bv v l w Hr) (k:Grows w Hr w' Hs):XM L t bt kt W0 H B kc bv v l w' Hs :=
 ⟨h.grows.trans k,k.none h.hK h.key.lt,h.key.below k.below,(h.own.below k.below).mono k.le,fun g hg=>k.none (h.apart g hg) (h.own.lt g hg).2,h.lt,k.none h.hB h.box.lt,h.box.below k.below,h.far⟩
theorem XM.below (h:XM L t bt kt W0 H B kc bv v l w Hr) (k:Below w.heap.size w w'):XM L t bt kt W0 H B kc bv v l w' Hr:=h.grow (Grows.of_below h.grows.holds k)
theorem XM.alloc (h:XM L t bt kt W0 H B kc bv v l w Hr) (o:Obj):XM L t bt kt W0 H B kc bv v l (w.alloc o) Hr:=h.below (zo w o)
theorem XM.drew (h:XM L t bt kt W0 H B kc bv v l w Hr):XM L t bt kt W0 H B kc bv v l w.drew Hr:=h.below (Below.refl _ _).drew
theorem XM.base (h:XM L t bt kt W0 H B kc bv v l w Hr):W0.heap.size+1≤w.heap.size:=by have:=h.key.lt;omega
theorem XM.litZ (h:XM L t bt kt W0 H B kc bv v l w Hr) (cs:Array Value) (e:TypeId):Src (w.alloc (.cells cs e)) (some ⟨w.heap.size,0,none⟩) cs.toList:=Src.lit w cs e
theorem XM.app (h:XM L t bt kt W0 H B kc bv v l w Hr) (hO:OwnX L t w' (W0.heap.size+1) v' Hr (l++news)) (hg:w.grownBy w' v.ownBlock) (ha:At0 w v.ownBlock v'.ownBlock):XM L t bt kt W0 H B kc bv v' (l++news) w' Hr :=
 ⟨h.grows.grownRow h.apart (fun g hg=>by have:=(h.own.lt g hg).1;omega) hg,h.hK,h.key.grown hg (fun e=>by have:=(h.own.lt _ e).1;omega),hO,fun g hv=>by
  rcases ha with e | ⟨g',e,hs⟩
  ·exact h.apart g (by rw[← e,hv])
  ·rw[hv]at e;injection e with e
   subst e
   exact h.grows.hidden hs,h.lt,h.hB,h.box.grown hg h.far,by
  rcases ha with e | ⟨g',e,hs⟩
  ·rw[e];exact h.far
  rw[e]
  intro e2
  injection e2 with e2
  have:=h.box.lt
  omega⟩
theorem XM.setBox (h:XM L t bt kt W0 H B kc bv v l w Hr) (hB:Blk w' B bt #[v']) (hg:w.grownBy w' (some B)):XM L t bt kt W0 H B kc v' v l w' Hr :=
 ⟨h.grows.grownOwn h.hB (by have:=h.lt;omega) hg,h.hK,h.key.grown hg (fun e=>by injection e with e;have:=h.lt;omega),h.own.kept hg (.inr h.far),h.apart,h.lt,h.hB,hB,h.far⟩
theorem XM.snap {A:Option Addr}{m c:Nat}(h:XM L t bt kt W0 H B kc bv (.slice A m c) l w Hr) :
  ∃ H',Grows W0 H w H'∧Hr.le H'∧m=l.length∧IsRow L H' A c l∧H' W0.heap.size=none∧H' B=none:=by
 obtain⟨H',hl,hh,hf,rfl,hr⟩:=h.own.snap h.grows.holds (fun g hg=>h.apart g (by cases A <;> simp_all [Value.ownBlock]))
 have Wm:∀ b,Hr b=none→(∀ g,(Value.slice A l.length c).ownBlock=some g→g≠b)→H' b=none:=fun b hb vl=>by
  cases hx:H' b with
  | none=>rfl
  | some o =>
  rcases hf b o hx with h1 | h1
  ·rw[hb]at h1;cases h1
  exact absurd rfl (vl b (by cases A <;> simp_all [Value.ownBlock]))
 refine⟨H',⟨h.grows.below,h.grows.le.trans hl,hh,fun b o hb=>?_⟩,hl,rfl,hr,Wm _ h.hK (fun g hg e=>by have:=(h.own.lt g hg).1;omega),Wm _ h.hB (fun g hg e=>h.far (by rw[hg,e]))⟩
 exact jcj
end
theorem OwnX.append_wp2 {α:Type}{L:Lie α}{t:TypeId}{w:World}{base:Nat}{v:Value}{H:Snap}{l:List α}{o:Oper}{a:Act}{K:Act→World→Prop}{Q:Exit→Act→World→Prop}(s x:Operand) (T:TypeId)
  (ho:o.op=.call { callee:=.builtin .append,args:=#[s,x],argTypes:=#[T,T] }) (hT:Tryz.prog.underlying T=some (.slice t)) {z:Value} {bytes:Nat} (Mn:z.cells.size=L.k) (Wv:bytes≤256)
  (hinfo:(Tryz.prog.info? t).map (fun i=>(i.zero,i.size,i.bytes))=some (some z,L.k,bytes))
  (hs:a.eval s=v) (xH:OwnX L t w base v H l) (A:Option Addr) (m c:Nat) (cs:List Value) (news:List α) (hx:a.eval x=.slice A m c) (hm:m=news.length)
  (hn:RowC L H cs news) (hr:Src w A cs) (wn:l.length+news.length≤1048576) (hbase:base≤w.heap.size)
  (h:∀ v' w',OwnX L t w' base v' H (l++news)→w.grownBy w' v.ownBlock→At0 w v.ownBlock v'.ownBlock→K (a.put o.dst v') w') :
  Oper.wp Tryz.prog o a w K Q:=by
 subst hm;obtain⟨xs,QD,xH⟩:=xH;obtain⟨i0,tV,kA,rE,oz⟩:=info_parts hinfo
 refine vD s x _ ho base t i0 _ L.k bytes hT tV kA rE oz Mn L.pos v l.length xs hs xH A news.length c cs hx hn.len hr hn.oneCell
  (by simp only[maxLen];omega) (by have:=Nat.mul_le_mul wn Wv;omega) hbase fun v' w' h2 h3 h4=>h v' w' ?_ h3 ?_
 ·exact jcy
 exact jbj
abbrev Yv:Array Value:=#[.int .i64 0,.int .u64 0,.slice none 0 0,.slice none 0 0]
structure BM (W0:World) (H:Snap) (B M:Nat) (bc:Array Value) (iv v:Value) (l:List Itm) (w:World) (Hr:Snap):Prop where
 grows:Grows W0 H w Hr
 hK:Hr W0.heap.size=none
 hB:Hr B=none
 hM:Hr M=none
 ltB:W0.heap.size<B
 ltM:W0.heap.size<M
 ne:B≠M
 key:Blk w W0.heap.size 26 Yv
 boxB:Blk w B 147 bc
 boxM:Blk w M 26 #[.int .i64 5,.int .u64 0,.slice none 0 0,iv]
 own:OwnI w (W0.heap.size+1) v Hr l
 apart:∀ g,v.ownBlock=some g→Hr g=none∧g≠B∧g≠M
section
variable {W0 w w':World} {H Hr Hs:Snap} {B M:Nat} {bc:Array Value} {iv v v':Value} {l news:List Itm}
theorem BM.grow (h:BM W0 H B M bc iv v l w Hr) (k:Grows w Hr w' Hs):BM W0 H B M bc iv v l w' Hs :=
 ⟨h.grows.trans k,k.none h.hK h.key.lt,k.none h.hB h.boxB.lt,k.none h.hM h.boxM.lt,h.ltB,h.ltM,h.ne,h.key.below k.below,h.boxB.below k.below,h.boxM.below k.below,(h.own.below k.below).mono k.le,
  fun g hg=>⟨k.none (h.apart g hg).1 (h.own.lt g hg).2,(h.apart g hg).2⟩⟩
theorem BM.below (h:BM W0 H B M bc iv v l w Hr) (k:Below w.heap.size w w'):BM W0 H B M bc iv v l w' Hr:=h.grow (Grows.of_below h.grows.holds k)
theorem BM.alloc (h:BM W0 H B M bc iv v l w Hr) (o:Obj):BM W0 H B M bc iv v l (w.alloc o) Hr:=h.below (zo w o)
theorem BM.drew (h:BM W0 H B M bc iv v l w Hr):BM W0 H B M bc iv v l w.drew Hr:=h.below (Below.refl _ _).drew
theorem BM.litZ (h:BM W0 H B M bc iv v l w Hr) (cs:Array Value) (e:TypeId):Src (w.alloc (.cells cs e)) (some ⟨w.heap.size,0,none⟩) cs.toList:=Src.lit w cs e
theorem BM.base (h:BM W0 H B M bc iv v l w Hr):W0.heap.size+1≤w.heap.size:=by have:=h.key.lt;omega
theorem BM.app (h:BM W0 H B M bc iv v l w Hr) (hO:OwnI w' (W0.heap.size+1) v' Hr (l++news)) (hg:w.grownBy w' v.ownBlock) (ha:At0 w v.ownBlock v'.ownBlock):BM W0 H B M bc iv v' (l++news) w' Hr :=
 ⟨h.grows.grownRow (fun g hg=>(h.apart g hg).1) (fun g hg=>by have:=(h.own.lt g hg).1;omega) hg,h.hK,h.hB,h.hM,h.ltB,h.ltM,h.ne,h.key.grown hg (fun e=>by have:=(h.own.lt _ e).1;omega),
  h.boxB.grown hg (fun e=>(h.apart _ e).2.1 rfl),h.boxM.grown hg (fun e=>(h.apart _ e).2.2 rfl),hO,fun g hv=>by
  rcases ha with e | ⟨g',e,hs⟩
  ·exact h.apart g (by rw[← e,hv])
  rw[hv]at e;injection e with e
  subst e;have h1:=h.boxB.lt;have h2:=h.boxM.lt
  exact⟨h.grows.hidden hs,by omega,by omega⟩⟩
theorem BM.setM (h:BM W0 H B M bc iv v l w Hr) {iv':Value}(hB:Blk w' M 26 #[.int .i64 5,.int .u64 0,.slice none 0 0,iv']) (hg:w.grownBy w' (some M)):BM W0 H B M bc iv' v l w' Hr :=
 ⟨h.grows.grownOwn h.hM (by have:=h.ltM;omega) hg,h.hK,h.hB,h.hM,h.ltB,h.ltM,h.ne,h.key.grown hg (fun e=>by injection e with e;have:=h.ltM;omega),h.boxB.grown hg (fun e=>by injection e with e;exact h.ne e.symm),hB,
  h.own.kept hg (by
   cases hv:v.ownBlock with
   | none=>exact .inl rfl
   | some g=>exact .inr (fun e=>by injection e with e;exact(h.apart g hv).2.2 e)),h.apart⟩
theorem BM.item {A:Option Addr}{m c:Nat}(h:BM W0 H B M bc (.slice A m c) (.slice A m c) l w Hr) :
  ∃ H',Grows W0 H w H'∧m=l.length∧IsItem H' none 0 A c (.mk 5 0 [] l)∧H' W0.heap.size=none:=by
 obtain⟨H',hl,hh,hf,rfl,t8,tA,wY⟩:=h.own.snap h.grows.holds (fun g hg=>(h.apart g (by cases A <;> simp_all [Value.ownBlock])).1)
 refine⟨H',⟨h.grows.below,h.grows.le.trans hl,hh,fun b o hb=>?_⟩,rfl, ?_, ?_⟩
 ·exact jcj
 ·exact jdp
 cases hx:H' W0.heap.size with
 | none=>rfl
 | some o =>
 rcases hf _ o hx with h1 | h1
 ·rw[h.hK]at h1;cases h1
 have:=(h.own.lt W0.heap.size (by cases A <;> simp_all [Value.ownBlock])).1;omega
end
abbrev OG:Value:=.agg #[.slice none 0 0,.int .i64 0,.int .u64 0,.slice none 0 0,.slice none 0 0,.int .i64 0,.int .u64 0,.slice none 0 0,.slice none 0 0]
theorem dp:(Tryz.prog.info? 149).map (fun i=>(i.zero,i.size,i.bytes))=some (some OG,9,152):=by kernel_rfl
theorem gZ:(Tryz.prog.info? 147).map (·.size)=some 1:=by kernel_rfl
theorem m0b {w w':World}{p:Addr}{v:Value}(hb:Below w.heap.size w w') (h:w.cell? p=some v):w'.cell? p=some v:=yX h hb
def Mo (w:World) (H:Snap) (ps:List Itm) (e:Ending) (w':World):Prop:=∃ v,e=.returned (.tuple #[v,.int .i64 0])∧Gives w H (.mk 5 0 [] ps) v w'
inductive Pairs {α β:Type} (R:α→β→Prop):List α→List β→Prop
 | nil:Pairs R [] []
 | cons {a b l m}:R a b→Pairs R l m→Pairs R (a::l) (b::m)
theorem Pairs.perm {α β:Type}{R:α→β→Prop}{l l':List α}(hp:l'.Perm l):∀ {m:List β},Pairs R l m→∃ m',Pairs R l' m'∧m'.Perm m:=by
 induction hp with
 | nil=>intro m h;cases h;exact⟨[],.nil,.refl _⟩
 | cons x _ ih =>
  intro m h
  cases h with
  | cons hx hr =>
  obtain⟨m',h1,h2⟩:=ih hr
  exact⟨_::m',.cons hx h1,h2.cons _⟩
 | swap x y l =>
  intro m h
  cases h with
  | cons hx hr =>
  cases hr with
  | cons hy EJ=>exact⟨_,.cons hy (.cons hx EJ),.swap _ _ _⟩
 | trans _ _ ih1 ih2 =>
 intro m h
 obtain⟨m2,h1,h2⟩:=ih2 h;obtain⟨m3,h3,h4⟩:=ih1 h1
 exact⟨m3,h3,h4.trans h2⟩
theorem Jm {α:Type}(k:α→List UInt8):Go.Sort.SWO (fun a b=>decide (Lib.compareBytes (k a) (k b)<0)) where
 irrefl:=fun x=>by rw[sD];rfl
 trans:=fun x y z h1 h2=>by rw[decide_eq_true_eq]at *;exact rZ _ _ _ h1 h2
 ntrans:=fun x y z h1 h2=>by
  rw[decide_eq_false_iff_not]at *
  intro h3
  by_cases e:Lib.compareBytes (k x) (k y)=0
  ·have:=(mB _ _).1 e;rw[this]at h3
   exact h2 h3
  have h4:=fY _ _ e h1
  exact h2 (rZ _ _ _ h4 h3)
def Asc {α:Type}(k:α→List UInt8) (l:List α):Prop:=l.Pairwise fun a b=>Lib.compareBytes (k a) (k b)<0
theorem dY {α:Type}(k:α→List UInt8):∀ {l m:List α},Asc k l→Asc k m→l.Perm m→l=m
 | [],m,_,_,h=>by rw[List.nil_perm.1 h]
 | x::l,[],_,_,h=>by have:=h.length_eq;simp at this
 | x::l,y::m,hl,hm,h=>by
  have Dz:=List.pairwise_cons.1 hl;have mw:=List.pairwise_cons.1 hm
  have Fh:x=y:=by
   have hx:x∈y::m:=h.subset (by simp);have hy:y∈x::l:=h.symm.subset (by simp)
   simp only[List.mem_cons]at hx hy
   rcases hx with hx | hx
   ·exact hx
   rcases hy with hy | hy
   ·exact hy.symm
   have h1:=mw.1 x hx;have h2:=Dz.1 y hy;have h3:=rZ _ _ _ h1 h2;rw[sD]at h3
   omega
  subst Fh;rw[dY k Dz.2 mw.2 (h.cons_inv)]
theorem Fs:∀ {l:List Itm},xB l=true→Asc (·.1) (pk l):=by
 have main:∀ (n:Nat) (l:List Itm),l.length≤n→xB l=true→Asc (·.1) (pk l)∧∀ a b r,l=a::b::r→∀ p∈pk r,Lib.compareBytes (zZ a) p.1<0:=by
  intro n
  induction n with
  | zero =>
   intro l hl _
   obtain rfl:=List.eq_nil_of_length_eq_zero (by omega:l.length=0)
   exact⟨by simp only[pk];exact List.Pairwise.nil,fun _ _ _ h=>by cases h⟩
  | succ n ih =>
  intro l hl ha
  match l,hl,ha with
  | [],_,_=>exact⟨by simp only[pk];exact List.Pairwise.nil,fun _ _ _ h=>by cases h⟩
  | [_],_,_=>exact⟨by simp only[pk];exact List.Pairwise.nil,fun _ _ _ h=>by cases h⟩
  | [a,b],_,_=>exact⟨by simp only[pk];exact List.pairwise_singleton _ _,fun a' b' r h p hp=>by cases h;simp[pk]at hp⟩
  | a::b::c::r,hl,ha =>
  rw[xB,Bool.and_eq_true,decide_eq_true_eq]at ha;have h1:=ih (c::r) (by simp only[List.length_cons]at hl⊢;omega) ha.2
  have uH:∀ p∈pk (c::r),Lib.compareBytes (zZ a) p.1<0:=by
   intro p hp
   match r,h1,hp with
   | [],_,hp=>simp[pk]at hp
   | d::r,h1,hp =>
   rw[pk,List.mem_cons]at hp
   rcases hp with rfl | hp
   ·exact ha.1
   exact rZ _ _ _ ha.1 (h1.2 c d r rfl p hp)
  refine⟨?_,fun a' b' r' h p hp=>by cases h;exact uH p hp⟩
  rw[pk]
  exact List.pairwise_cons.2 ⟨uH,h1.1⟩
 exact fun {l} h=>(main _ l (Nat.le_refl _) h).1
def RP (H:Snap) (x:PE H) (p:Pr):Prop:=x.key=p.1∧lF.E H p (xC x)
theorem di {H:Snap}(x:PE H):(xC x).length=9:=by simp[xC,x.len]
theorem YX {H:Snap}:∀ {l:List Pr}{cs:List Value},RowC lF H cs l→∃ ds:List (PE H),Pairs (RP H) ds l∧cs=ds.flatMap xC
 | [],cs,h=>⟨[],.nil,by rw[RowC]at h;exact h⟩
 | x::l,cs,h=>by
  obtain⟨c,rest,rfl,⟨A,cc,ba,bc,ia,ic,ba',bc',ia',ic',rfl,hk,hy,hz⟩,hr⟩:=h;obtain⟨ds,h1,h2⟩:=YX hr
  refine⟨⟨A,cc,x.1,zV x.2.1 ba bc ia ic++zV x.2.2 ba' bc' ia' ic',rfl,by simp[zV,Value.oneCell'],hk⟩::ds,.cons ⟨rfl,⟨A,cc,ba,bc,ia,ic,ba',bc',ia',ic',rfl,hk,hy,hz⟩⟩ h1, ?_⟩
  rw[List.flatMap_cons,← h2];rfl
theorem bO {H:Snap}:∀ {ds:List (PE H)}{l:List Pr},Pairs (RP H) ds l→RowC lF H (ds.flatMap xC) l
 | [],_,h=>by cases h;rw[RowC];rfl
 | x::ds,_,h=>by
  cases h with
  | cons hx hr=>exact⟨xC x,ds.flatMap xC,by rw[List.flatMap_cons],hx.2,bO hr⟩
theorem iI {α β:Type}{R:α→β→Prop}:∀ {l:List α}{m:List β},Pairs R l m→l.length=m.length
 | _,_,.nil=>rfl
 | _,_,.cons _ h=>by simp[iI h]
theorem Rh {H:Snap}:∀ {ds:List (PE H)}{l:List Pr},Pairs (RP H) ds l→Asc (·.key) ds→Asc (·.1) l:=by
 have mem:∀ {ds:List (PE H)} {l:List Pr},Pairs (RP H) ds l→∀ p∈l,∃ x∈ds,x.key=p.1:=by
  intro ds l h
  induction h with
  | nil=>intro p hp;cases hp
  | cons hx _ ih =>
  intro p hp
  rw[List.mem_cons]at hp
  rcases hp with rfl | hp
  ·exact⟨_,by simp,hx.1⟩
  obtain⟨x,h1,h2⟩:=ih p hp
  exact⟨x,by simp[h1],h2⟩
 intro ds l h
 induction h with
 | nil=>intro _;exact List.Pairwise.nil
 | cons hx hr ih =>
 intro ha
 have Wb:=List.pairwise_cons.1 ha
 refine List.pairwise_cons.2 ⟨fun p hp=>?_,ih Wb.2⟩
 obtain⟨y,h1,h2⟩:=mem hr p hp;have h3:=Wb.1 y h1
 simp only at h3⊢
 rw[← hx.1,← h2]
 exact h3
theorem VI {H:Snap}{ds:List (PE H)}{l:List Pr}(h:Pairs (RP H) ds l):l.Pairwise (fun a b=>a.1≠b.1)→ds.Pairwise (fun a b=>a.key≠b.key):=by
 have mem:∀ {ds:List (PE H)} {l:List Pr},Pairs (RP H) ds l→∀ x∈ds,∃ p∈l,x.key=p.1:=by
  intro ds l h
  induction h with
  | nil=>intro p hp;cases hp
  | cons hx _ ih =>
  intro p hp
  rw[List.mem_cons]at hp
  rcases hp with rfl | hp
  ·exact⟨_,by simp,hx.1⟩
  obtain⟨x,h1,h2⟩:=ih p hp
  exact⟨x,by simp[h1],h2⟩
 induction h with
 | nil=>intro _;exact List.Pairwise.nil
 | cons hx hr ih =>
 intro ha
 have Wb:=List.pairwise_cons.1 ha
 refine List.pairwise_cons.2 ⟨fun y hy=>?_,ih Wb.2⟩
 obtain⟨p,h1,h2⟩:=mem hr y hy;rw[hx.1,h2]
 exact Wb.1 p h1
theorem ay {H:Snap}:∀ (ds:List (PE H)) (t:Nat),t<ds.length*9→(ds.flatMap xC)[t]? = some ((xC ds[t/9]!)[t%9]!)
 | [],t,h=>by simp at h
 | x::ds,t,h=>by
  rw[List.flatMap_cons];have hx:=di x
  by_cases h9:t<9
  ·rw[List.getElem?_append_left (by omega),Nat.div_eq_of_lt h9,Nat.mod_eq_of_lt h9]
   simp only[List.getElem!_cons_zero]
   rw[List.getElem!_eq_getElem?_getD,List.getElem?_eq_getElem (by omega)];rfl
  rw[List.getElem?_append_right (by omega),hx,ay ds (t-9) (by simp only[List.length_cons]at h;omega)];have e1:t/9=(t-9)/9+1:=by omega
  have e2:t%9=(t-9)%9:=by omega
  rw[e1,e2];rfl
theorem eV {H:Snap}:∀ ds:List (PE H),(ds.flatMap xC).length=ds.length*9
 | []=>rfl
 | x::ds=>by rw[List.flatMap_cons,List.length_append,di,eV ds,List.length_cons];omega
theorem dl {H:Snap}(d:Array (PE H)):(Go.Sort.flatK xC 9 d).toList=d.toList.flatMap xC:=by
 apply List.ext_getElem?
 intro t
 by_cases ht:t<d.size*9
 ·rw[ay d.toList t (by simpa using ht)];have hs:t<(Go.Sort.flatK xC 9 d).size:=by rw[Go.Sort.size_flatK];exact ht
  have h1:=Go.Sort.get_flatK xC 9 d t ht;rw[getElem!_pos _ t hs]at h1;rw[Array.getElem?_toList,Array.getElem?_eq_getElem hs,h1];congr 2
  rw[getElem!_def]
  simp
  try rfl
 rw[List.getElem?_eq_none (by rw[Array.length_toList,Go.Sort.size_flatK];omega),List.getElem?_eq_none (by rw[eV];simp;omega)]
theorem Og {H:Snap}{t:TypeId}{w:World}{base m c:Nat}{A:Option Addr}{l:List Pr}(h:OwnX lF t w base (.slice A m c) H l) (h0:0<l.length) :
  ∃ (g:Nat) (d:Array (PE H)),A=some ⟨g,0,none⟩∧base≤g∧g<w.heap.size∧d.size=l.length∧Pairs (RP H) d.toList l∧Go.Sort.HoldsK xC 9 w g 0 d:=by
 obtain⟨cs,oq,h⟩:=h
 rcases h.2 with ⟨hv,hz⟩ | ⟨g,cap,cur,hv,hb,hg,hc,hm,hcz,ht⟩
 ·omega
 cases hv
 obtain⟨ds,h1,h3⟩:=YX oq;have hl:=iI h1
 refine⟨g,ds.toArray,rfl,hb,(Array.getElem?_eq_some_iff.1 hg).1,by simpa using hl,by simpa using h1,fun j hj=>?_⟩
 have hj':j<(Go.Sort.flatK xC 9 ds.toArray).toList.length:=by simpa using hj
 have e:(Go.Sort.flatK xC 9 ds.toArray).toList[j]? = cs[j]? :=by rw[dl,h3]
 rw[List.getElem?_eq_getElem hj',← ht,List.getElem?_take]at e
 split at e
 ·refine⟨?_,by simp[World.frozen?,hg]⟩
  rw[Nat.zero_add,cell_of_row w g j cur t (0,0) hg];rw[getElem!_pos _ j hj]
  simpa using e.symm
 cases e
theorem Nd {H:Snap}{t:TypeId}{w:World}{base m c g:Nat}{l q:List Pr}(h:OwnX lF t w base (.slice (some ⟨g,0,none⟩) m c) H l) {d':Array (PE H)}(hd:d'.size=l.length) (hq:Pairs (RP H) d'.toList q) (k:Nat) (os:Array Obj) :
  OwnX lF t (Go.Sort.grow (Go.Sort.putRowK xC 9 (Sort.ahead w k) g 0 d') os) base (.slice (some ⟨g,0,none⟩) m c) H q∧w.grownBy (Go.Sort.grow (Go.Sort.putRowK xC 9 (Sort.ahead w k) g 0 d') os) (some g):=by
 obtain⟨cs,oq,h⟩:=h;have Ik:q.length=l.length:=by have:=iI hq;simp at this;omega
 rcases h.2 with ⟨hv,hz⟩ | ⟨g',cap,cur,hv,hb,hg,hc,hm,hcz,ht⟩
 ·cases hv
 cases hv
 have wl:g<w.heap.size:=(Array.getElem?_eq_some_iff.1 hg).1;have hF:(Go.Sort.flatK xC 9 d').size=l.length*9:=by rw[Go.Sort.size_flatK,hd]
 have ZE:(Go.Sort.grow (Go.Sort.putRowK xC 9 (Sort.ahead w k) g 0 d') os).heap[g]? = some (.cells (Go.Sort.putCells id 0 (Go.Sort.flatK xC 9 d') cur) t (0,0)):=by
  show(w.heap.modify g (Go.Sort.onCells (Go.Sort.putCells id 0 (Go.Sort.flatK xC 9 d')))++os)[g]? = _
  rw[Array.getElem?_append_left (by simpa using wl),Array.getElem?_modify,if_pos rfl,hg];rfl
 refine⟨⟨d'.toList.flatMap xC,bO hq,by rw[eV,Ik];simp[hd];rfl,.inr ⟨g,c,_,by rw[Ik],hb,ZE,by rw[Ik];exact hc,hm,by simp[Go.Sort.putCells,hcz], ?_⟩⟩,⟨rfl,rfl,rfl,by show w.heap.size≤(w.heap.modify g _++os).size;simp,fun i hi vl=>?_⟩⟩
 ·apply List.ext_getElem?
  intro j
  have zB4:l.length*9≤cur.size:=by rw[hcz];exact Nat.mul_le_mul_right _ hc
  rw[← dl,List.getElem?_take];show(if j<q.length*9 then _ else _)=_
  rw[Ik]
  split
  ·rename_i hj
   have hjc:j<cur.size:=by omega
   rw[Array.getElem?_toList,Array.getElem?_toList]
   unfold Go.Sort.putCells
   rw[Array.getElem?_mapIdx,Array.getElem?_eq_getElem hjc,Array.getElem?_eq_getElem (by omega:j<(Go.Sort.flatK xC 9 d').size)]
   simp only[Option.map_some]
   rw[if_pos (by omega),Nat.sub_zero,getElem!_pos _ j (by omega)];rfl
  rename_i hj
  rw[List.getElem?_eq_none (by rw[Array.length_toList];omega)]
 show(w.heap.modify g _++os)[i]? = _
 rw[Array.getElem?_append_left (by simpa using hi),Array.getElem?_modify,if_neg (fun e=>vl (by rw[e]))]
end Go.Proofs.YtliomcphdnppnaaGreatDoor
