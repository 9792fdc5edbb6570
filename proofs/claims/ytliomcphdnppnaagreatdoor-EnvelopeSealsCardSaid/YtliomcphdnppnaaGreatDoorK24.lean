/- squeezed. sort.Slice of pairs whose keys asc -/
import Derived.Test.YtliomcphdnppnaaGreatDoorK23
import Derived.Sort.LotA
set_option linter.unusedVariables false
set_option linter.unusedSimpArgs false
set_option maxRecDepth 100000
set_option maxHeartbeats 3200000
namespace Go.Proofs.YtliomcphdnppnaaGreatDoor
open Go.RowKit
structure PE (H:Snap) where
 A:Option Addr
 cc:Nat
 key:List UInt8
 rest:List Value
 len:rest.length=8
 one:∀ u∈rest,u.oneCell'=true
 is:IsBytes H A cc key
instance (H:Snap):Inhabited (PE H):=⟨⟨none,0,[],List.replicate 8 (.bool false),by simp,by simp[Value.oneCell'],IsBytes.nil H⟩⟩
def xv {H:Snap}(x:PE H):List Value:=.slice x.A x.key.length x.cc::x.rest
def fY {H:Snap}(a b:PE H):Bool:=decide (Lib.compareBytes a.key b.key<0)
theorem cI {H:Snap}(blk off c Bs size:Nat) (W:World) (hW:Holds W H) (G:Nat→PE H) (hs:W.cell? ⟨Bs,0,none⟩=some (.slice (some ⟨blk,off,none⟩) size c))
  (hc:∀ t,t<size→W.cell? ⟨blk,off+t*9,none⟩=some (.slice (G t).A (G t).key.length (G t).cc)) (i j:Nat) (hi:i<size) (hj:j<size) :
  Calls Tryz.prog 109 #[.int .i64 i,.int .i64 j,.pointer (some ⟨Bs,0,none⟩)] W fun e w'=>e=.returned (.bool (fY (G i) (G j)))∧∃ q,w'=W.drewN q:=by
 have ci:=hc i hi;have cj:=hc j hj;have si:=Src.of_row (G i).is.row hW;have sj:=Src.of_row (G j).is.row hW;have DP:(i:Int)<size:=by omega
 have DS:(j:Int)<size:=by omega
 have E:Hid (fY (G i) (G j)=decide (Lib.compareBytes (G i).key (G j).key<0)):=rfl;obtain⟨x,hx⟩:∃ x,G i=x:=⟨_,rfl⟩
 obtain⟨y,hy⟩:∃ y,G j=y:=⟨_,rfl⟩
 rw[hx]at ci si E⊢;rw[hy]at cj sj E⊢;rw[E.out];have CMP:True:=trivial;have SX:=si;have SY:=sj;clear hc hx hy si sj E hW CMP;have HB:=Hh (And.intro hi hj);go_enter Tryz.func109,Tryz.ntmps109
 go_upto_region 1 with fail
 refine tN 12 (fun wx=>wx.cell? ⟨Bs,0,none⟩=some (.slice (some ⟨blk,off,none⟩) size c)∧wx.cell? ⟨blk,off+i*9,none⟩=some (.slice x.A x.key.length x.cc)∧wx.cell? ⟨blk,off+j*9,none⟩=some (.slice y.A y.key.length y.cc)) (by kernel_rfl) (⟨hs,ci,cj⟩) (fun zy=>?_)
 refine Zk 0 rfl zy ?_
 refine Zk 1 rfl zy ?_
 refine Zk 2 rfl zy ?_
 refine Zk 3 rfl zy ?_
 refine Zk 4 rfl zy ?_
 refine Zk 5 rfl zy ?_
 refine Zk 6 rfl zy ?_
 refine Zk 7 rfl zy ?_
 refine Zk 8 rfl zy ?_
 refine Zk 9 rfl zy ?_
 refine Zo 10 rfl fun K hK=>?_
 go_simp
 refine(show Calls Tryz.prog 110 #[.slice x.A x.key.length x.cc,.slice y.A y.key.length y.cc] W.drew fun e w'=>e=.returned (.int .i64 (Lib.compareBytes x.key y.key))∧W.drew=w' from oh W.drew x.A y.A x.key y.key x.key.length y.key.length x.cc y.cc rfl rfl SX SY).mono ?_
 rintro e w3 ⟨rfl,rfl⟩
 refine Ko hK ?_ fun zy=>?_
 ·exact⟨hs,ci,cj⟩
 clear hK K
 refine Zk 11 rfl zy ?_
 refine Zo 12 rfl fun K hK=>?_
 go_simp
 refine Kz hK ?_
 clear hK K
 refine WaysZ.done (by kernel_rfl) ?_
 clear zy;go_wp2_with fail
 go_ret
 exact⟨rfl,1,rfl⟩
end Go.Proofs.YtliomcphdnppnaaGreatDoor
namespace Go.Proofs.YtliomcphdnppnaaGreatDoor
open Go.RowKit Go.Shelf Go.Lib
noncomputable def pairTI:TypeInfo:=(Tryz.prog.info? 147).get (by kernel_rfl)
noncomputable def pairEI:TypeInfo:=(Tryz.prog.info? 149).get (by kernel_rfl)
theorem Qr (n:Nat) (h2:2≤n):Lib.swapperK n pairEI 25=9:=by
 have a:pairEI.hasPointers=true:=by kernel_rfl
 have b:(pairEI.bytes==8)=false:=by kernel_rfl
 have c:(n==0)=false:=by simp;omega
 have d:(n==1)=false:=by simp;omega
 simp[Lib.swapperK,a,b,c,d]
theorem ZH {H:Snap}(x:PE H):(xv x).length=9:=by simp[xv,x.len]
end Go.Proofs.YtliomcphdnppnaaGreatDoor
namespace Go.Proofs.YtliomcphdnppnaaGreatDoor
open Go.RowKit
abbrev Pr:=List UInt8×Itm×Itm
def pE:Lie Pr where
 k:=9
 pos:=by omega
 E:=fun H x c=>∃ A cc ba bc ia ic ba' bc' ia' ic',c=.slice A x.1.length cc::(zZ x.2.1 ba bc ia ic++zZ x.2.2 ba' bc' ia' ic')∧IsBytes H A cc x.1∧IsItem H ba bc ia ic x.2.1∧IsItem H ba' bc' ia' ic' x.2.2
 len:=by rintro _ _ _ ⟨_,_,_,_,_,_,_,_,_,_,rfl,_⟩;rfl
 one:=by rintro _ _ _ ⟨_,_,_,_,_,_,_,_,_,_,rfl,_⟩;simp[zZ,Value.oneCell']
 mono:=by rintro H K x c hl ⟨A,cc,ba,bc,ia,ic,ba',bc',ia',ic',e,h1,h2,h3⟩;exact⟨A,cc,ba,bc,ia,ic,ba',bc',ia',ic',e,h1.mono hl,h2.mono hl,h3.mono hl⟩
def pk:List Itm→List Pr
 | a::b::l=>(zh a,a,b)::pk l
 | _=>[]
theorem lM:∀ l:List Itm,(pk l).length=l.length/2
 | []=>rfl
 | [_]=>by simp[pk]
 | a::b::l=>by simp only[pk,List.length_cons,lM l];omega
theorem nP:∀ (l:List Itm) (i:Nat) (h:2*i+1<l.length),(pk l)[i]? = some (zh (l[2*i]'(by omega)),l[2*i]'(by omega),l[2*i+1])
 | [],i,h=>by simp at h
 | [_],i,h=>by simp at h
 | a::b::l,0,h=>by simp[pk]
 | a::b::l,i+1,h=>by
  have h':2*i+1<l.length:=by simp only[List.length_cons]at h;omega
  have e1:∀ h2,(a::b::l)[2*(i+1)]'h2=l[2*i]:=fun h2=>by
   have:2*(i+1)=2*i+1+1:=by omega
   simp only[this,List.getElem_cons_succ]
  have e2:∀ h2,(a::b::l)[2*(i+1)+1]'h2=l[2*i+1]:=fun h2=>by
   have:2*(i+1)+1=(2*i+1)+1+1:=by omega
   simp only[this,List.getElem_cons_succ]
  rw[e1,e2,pk,List.getElem?_cons_succ]
  exact nP l i h'
theorem UM (l:List Itm) (i:Nat) (h:2*i+1<l.length):pk (l.take (2*i+2))=pk (l.take (2*i))++[(zh (l[2*i]'(by omega)),l[2*i]'(by omega),l[2*i+1])]:=by
 apply List.ext_getElem?
 intro j
 have h1:(pk (l.take (2*i))).length=i:=by rw[lM,List.length_take];omega
 have h2:(pk (l.take (2*i+2))).length=i+1:=by rw[lM,List.length_take];omega
 rcases Nat.lt_trichotomy j i with hj | hj | hj
 ·rw[List.getElem?_append_left (by omega),nP _ j (by rw[List.length_take];omega),nP _ j (by rw[List.length_take];omega)]
  simp only[List.getElem_take]
 ·subst hj;rw[List.getElem?_append_right (by omega),h1,Nat.sub_self,nP _ j (by rw[List.length_take];omega)]
  simp only[List.getElem_take]
  rfl
 rw[List.getElem?_eq_none (by omega),List.getElem?_eq_none (by simp;omega)]
structure XM {α:Type} (L:Lie α) (t bt:TypeId) (kt:TypeId) (W0:World) (H:Snap) (B:Nat) (kc:Array Value) (bv v:Value) (l:List α) (w:World) (Hr:Snap):Prop where
 grows:Grows W0 H w Hr
 hK:Hr W0.heap.size=none
 key:Blk w W0.heap.size kt kc
 own:OwnX L t w (W0.heap.size+1) v Hr l
 apart:∀ g,v.ownBlock=some g→Hr g=none
 lt:W0.heap.size<B
 hB:Hr B=none
 box:Blk w B bt #[bv]
 far:v.ownBlock≠some B
section
variable {α:Type} {L:Lie α} {t bt kt:TypeId} {W0 w w':World} {H Hr Hs:Snap} {B:Nat} {kc:Array Value} {bv v v':Value} {l news:List α}
theorem XM.start (hG:Grows W0 H w Hr) (hK:Hr W0.heap.size=none) (hk:Blk w W0.heap.size kt kc) (hO:OwnX L t w (W0.heap.size+1) v Hr l) (ha:∀ g,v.ownBlock=some g→Hr g=none) :
  XM L t bt kt W0 H w.heap.size kc bv v l (w.alloc (.cells #[bv] bt)) Hr :=
 ⟨hG.alloc _,hK,hk.alloc _,hO.alloc _,ha,hk.lt,hG.hidden (Nat.le_refl _),Blk.new _ _ _,fun e=>by have:=(hO.lt _ e).2;omega⟩
theorem XM.grow (h:XM L t bt kt W0 H B kc bv v l w Hr) (k:Grows w Hr w' Hs):XM L t bt kt W0 H B kc bv v l w' Hs :=
 ⟨h.grows.trans k,k.none h.hK h.key.lt,h.key.below k.below,(h.own.below k.below).mono k.le,fun g hg=>k.none (h.apart g hg) (h.own.lt g hg).2,h.lt,k.none h.hB h.box.lt,h.box.below k.below,h.far⟩
theorem XM.below (h:XM L t bt kt W0 H B kc bv v l w Hr) (k:Below w.heap.size w w'):XM L t bt kt W0 H B kc bv v l w' Hr:=h.grow (Grows.of_below h.grows.holds k)
theorem XM.alloc (h:XM L t bt kt W0 H B kc bv v l w Hr) (o:Obj):XM L t bt kt W0 H B kc bv v l (w.alloc o) Hr:=h.below (zq w o)
theorem XM.drew (h:XM L t bt kt W0 H B kc bv v l w Hr):XM L t bt kt W0 H B kc bv v l w.drew Hr:=h.below (Below.refl _ _).drew
theorem XM.base (h:XM L t bt kt W0 H B kc bv v l w Hr):W0.heap.size+1≤w.heap.size:=by have:=h.key.lt;omega
theorem XM.litZ (h:XM L t bt kt W0 H B kc bv v l w Hr) (cs:Array Value) (e:TypeId):Src (w.alloc (.cells cs e)) (some ⟨w.heap.size,0,none⟩) cs.toList:=Src.lit w cs e
theorem XM.app (h:XM L t bt kt W0 H B kc bv v l w Hr) (hO:OwnX L t w' (W0.heap.size+1) v' Hr (l++news)) (hg:w.grownBy w' v.ownBlock) (ha:At0 w v.ownBlock v'.ownBlock):XM L t bt kt W0 H B kc bv v' (l++news) w' Hr :=
 ⟨h.grows.grownRow h.apart (fun g hg=>by have:=(h.own.lt g hg).1;omega) hg,h.hK,h.key.grown hg (fun e=>by have:=(h.own.lt _ e).1;omega),hO,fun g hv=>by
  rcases ha with e | ⟨g',e,hs⟩
  ·exact h.apart g (by rw[← e,hv])
  ·rw[hv]at e;injection e with e
   subst e
   exact h.grows.hidden hs,h.lt,h.hB,h.box.grown hg h.far,by
  rcases ha with e | ⟨g',e,hs⟩
  ·rw[e];exact h.far
  rw[e]
  intro e2
  injection e2 with e2
  have:=h.box.lt
  omega⟩
theorem XM.setBox (h:XM L t bt kt W0 H B kc bv v l w Hr) (hB:Blk w' B bt #[v']) (hg:w.grownBy w' (some B)):XM L t bt kt W0 H B kc v' v l w' Hr :=
 ⟨h.grows.grownOwn h.hB (by have:=h.lt;omega) hg,h.hK,h.key.grown hg (fun e=>by injection e with e;have:=h.lt;omega),h.own.kept hg (.inr h.far),h.apart,h.lt,h.hB,hB,h.far⟩
theorem XM.snap {A:Option Addr}{m c:Nat}(h:XM L t bt kt W0 H B kc bv (.slice A m c) l w Hr) :
  ∃ H',Grows W0 H w H'∧Hr.le H'∧m=l.length∧IsRow L H' A c l∧H' W0.heap.size=none∧H' B=none:=by
 obtain⟨H',hl,hh,hf,rfl,hr⟩:=h.own.snap h.grows.holds (fun g hg=>h.apart g (by cases A <;> simp_all [Value.ownBlock]))
 have dU:∀ b,Hr b=none→(∀ g,(Value.slice A l.length c).ownBlock=some g→g≠b)→H' b=none:=fun b hb xg=>by
  cases hx:H' b with
  | none=>rfl
  | some o =>
  rcases hf b o hx with h1 | h1
  ·rw[hb]at h1;cases h1
  exact absurd rfl (xg b (by cases A <;> simp_all [Value.ownBlock]))
 refine⟨H',⟨h.grows.below,h.grows.le.trans hl,hh,fun b o hb=>?_⟩,hl,rfl,hr,dU _ h.hK (fun g hg e=>by have:=(h.own.lt g hg).1;omega),dU _ h.hB (fun g hg e=>h.far (by rw[hg,e]))⟩
 rcases hf b o hb with h1 | h1
 ·exact h.grows.fresh b o h1
 exact .inr (by have:=(h.own.lt b (by cases A <;> simp_all [Value.ownBlock])).1;omega)
end
theorem OwnX.append_wp2 {α:Type}{L:Lie α}{t:TypeId}{w:World}{base:Nat}{v:Value}{H:Snap}{l:List α}{o:Oper}{a:Act}{K:Act→World→Prop}{Q:Exit→Act→World→Prop}(s x:Operand) (T:TypeId)
  (ho:o.op=.call { callee:=.builtin .append,args:=#[s,x],argTypes:=#[T,T] }) (hT:Tryz.prog.underlying T=some (.slice t)) {z:Value} {bytes:Nat} (hzs:z.cells.size=L.k) (dl:bytes≤256)
  (hinfo:(Tryz.prog.info? t).map (fun i=>(i.zero,i.size,i.bytes))=some (some z,L.k,bytes))
  (hs:a.eval s=v) (xt:OwnX L t w base v H l) (A:Option Addr) (m c:Nat) (cs:List Value) (news:List α) (hx:a.eval x=.slice A m c) (hm:m=news.length)
  (hn:RowC L H cs news) (hr:Src w A cs) (xo:l.length+news.length≤1048576) (hbase:base≤w.heap.size)
  (h:∀ v' w',OwnX L t w' base v' H (l++news)→w.grownBy w' v.ownBlock→At0 w v.ownBlock v'.ownBlock→K (a.put o.dst v') w') :
  Oper.wp Tryz.prog o a w K Q:=by
 subst hm;obtain⟨xs,Sx,xt⟩:=xt;obtain⟨i0,uF,mP,rM,qg⟩:=info_parts hinfo
 refine wP s x _ ho base t i0 _ L.k bytes hT uF mP rM qg hzs L.pos v l.length xs hs xt A news.length c cs hx hn.len hr hn.oneCell
  (by simp only[maxLen];omega) (by have:=Nat.mul_le_mul xo dl;omega) hbase fun v' w' h2 h3 h4=>h v' w' ?_ h3 ?_
 ·exact⟨xs++cs,Sx.app hn,by simpa using h2⟩
 rcases h4 with h4 | h4
 ·exact .inl h4
 exact .inr ⟨_,h4,Nat.le_refl _⟩
abbrev fR:Array Value:=#[.int .i64 0,.int .u64 0,.slice none 0 0,.slice none 0 0]
structure BM (W0:World) (H:Snap) (B M:Nat) (bc:Array Value) (iv v:Value) (l:List Itm) (w:World) (Hr:Snap):Prop where
 grows:Grows W0 H w Hr
 hK:Hr W0.heap.size=none
 hB:Hr B=none
 hM:Hr M=none
 ltB:W0.heap.size<B
 ltM:W0.heap.size<M
 ne:B≠M
 key:Blk w W0.heap.size 26 fR
 boxB:Blk w B 147 bc
 boxM:Blk w M 26 #[.int .i64 5,.int .u64 0,.slice none 0 0,iv]
 own:OwnI w (W0.heap.size+1) v Hr l
 apart:∀ g,v.ownBlock=some g→Hr g=none∧g≠B∧g≠M
section
variable {W0 w w':World} {H Hr Hs:Snap} {B M:Nat} {bc:Array Value} {iv v v':Value} {l news:List Itm}
theorem BM.grow (h:BM W0 H B M bc iv v l w Hr) (k:Grows w Hr w' Hs):BM W0 H B M bc iv v l w' Hs :=
 ⟨h.grows.trans k,k.none h.hK h.key.lt,k.none h.hB h.boxB.lt,k.none h.hM h.boxM.lt,h.ltB,h.ltM,h.ne,h.key.below k.below,h.boxB.below k.below,h.boxM.below k.below,(h.own.below k.below).mono k.le,
  fun g hg=>⟨k.none (h.apart g hg).1 (h.own.lt g hg).2,(h.apart g hg).2⟩⟩
theorem BM.below (h:BM W0 H B M bc iv v l w Hr) (k:Below w.heap.size w w'):BM W0 H B M bc iv v l w' Hr:=h.grow (Grows.of_below h.grows.holds k)
theorem BM.alloc (h:BM W0 H B M bc iv v l w Hr) (o:Obj):BM W0 H B M bc iv v l (w.alloc o) Hr:=h.below (zq w o)
theorem BM.drew (h:BM W0 H B M bc iv v l w Hr):BM W0 H B M bc iv v l w.drew Hr:=h.below (Below.refl _ _).drew
theorem BM.litZ (h:BM W0 H B M bc iv v l w Hr) (cs:Array Value) (e:TypeId):Src (w.alloc (.cells cs e)) (some ⟨w.heap.size,0,none⟩) cs.toList:=Src.lit w cs e
theorem BM.base (h:BM W0 H B M bc iv v l w Hr):W0.heap.size+1≤w.heap.size:=by have:=h.key.lt;omega
theorem BM.app (h:BM W0 H B M bc iv v l w Hr) (hO:OwnI w' (W0.heap.size+1) v' Hr (l++news)) (hg:w.grownBy w' v.ownBlock) (ha:At0 w v.ownBlock v'.ownBlock):BM W0 H B M bc iv v' (l++news) w' Hr :=
 ⟨h.grows.grownRow (fun g hg=>(h.apart g hg).1) (fun g hg=>by have:=(h.own.lt g hg).1;omega) hg,h.hK,h.hB,h.hM,h.ltB,h.ltM,h.ne,h.key.grown hg (fun e=>by have:=(h.own.lt _ e).1;omega),
  h.boxB.grown hg (fun e=>(h.apart _ e).2.1 rfl),h.boxM.grown hg (fun e=>(h.apart _ e).2.2 rfl),hO,fun g hv=>by
  rcases ha with e | ⟨g',e,hs⟩
  ·exact h.apart g (by rw[← e,hv])
  rw[hv]at e;injection e with e
  subst e;have h1:=h.boxB.lt;have h2:=h.boxM.lt
  exact⟨h.grows.hidden hs,by omega,by omega⟩⟩
theorem BM.setM (h:BM W0 H B M bc iv v l w Hr) {iv':Value}(hB:Blk w' M 26 #[.int .i64 5,.int .u64 0,.slice none 0 0,iv']) (hg:w.grownBy w' (some M)):BM W0 H B M bc iv' v l w' Hr :=
 ⟨h.grows.grownOwn h.hM (by have:=h.ltM;omega) hg,h.hK,h.hB,h.hM,h.ltB,h.ltM,h.ne,h.key.grown hg (fun e=>by injection e with e;have:=h.ltM;omega),h.boxB.grown hg (fun e=>by injection e with e;exact h.ne e.symm),hB,
  h.own.kept hg (by
   cases hv:v.ownBlock with
   | none=>exact .inl rfl
   | some g=>exact .inr (fun e=>by injection e with e;exact(h.apart g hv).2.2 e)),h.apart⟩
theorem BM.item {A:Option Addr}{m c:Nat}(h:BM W0 H B M bc (.slice A m c) (.slice A m c) l w Hr) :
  ∃ H',Grows W0 H w H'∧m=l.length∧IsItem H' none 0 A c (.mk 5 0 [] l)∧H' W0.heap.size=none:=by
 obtain⟨H',hl,hh,hf,rfl,tD,sv,xI⟩:=h.own.snap h.grows.holds (fun g hg=>(h.apart g (by cases A <;> simp_all [Value.ownBlock])).1)
 refine⟨H',⟨h.grows.below,h.grows.le.trans hl,hh,fun b o hb=>?_⟩,rfl, ?_, ?_⟩
 ·rcases hf b o hb with h1 | h1
  ·exact h.grows.fresh b o h1
  exact .inr (by have:=(h.own.lt b (by cases A <;> simp_all [Value.ownBlock])).1;omega)
 ·rw[IsItem]
  exact⟨⟨by omega,by omega,by omega,tD,sv⟩,IsBytes.nil _,xI⟩
 cases hx:H' W0.heap.size with
 | none=>rfl
 | some o =>
 rcases hf _ o hx with h1 | h1
 ·rw[h.hK]at h1;cases h1
 have:=(h.own.lt W0.heap.size (by cases A <;> simp_all [Value.ownBlock])).1;omega
end
abbrev XW:Value:=.agg #[.slice none 0 0,.int .i64 0,.int .u64 0,.slice none 0 0,.slice none 0 0,.int .i64 0,.int .u64 0,.slice none 0 0,.slice none 0 0]
theorem kI:(Tryz.prog.info? 149).map (fun i=>(i.zero,i.size,i.bytes))=some (some XW,9,152):=by kernel_rfl
theorem mm:(Tryz.prog.info? 147).map (·.size)=some 1:=by kernel_rfl
theorem m0b {w w':World}{p:Addr}{v:Value}(hb:Below w.heap.size w w') (h:w.cell? p=some v):w'.cell? p=some v:=zU h hb
def WV (w:World) (H:Snap) (ps:List Itm) (e:Ending) (w':World):Prop:=∃ v,e=.returned (.tuple #[v,.int .i64 0])∧Gives w H (.mk 5 0 [] ps) v w'
def beN (l:List UInt8):Nat:=l.foldl (fun x c=>x*256+c.toNat) 0
def bF:List UInt8→Except Nat (Nat×Nat×Nat)
 | []=>.error 2
 | f::t =>
 if 27<f.toNat%32 then .error 3
 else if f.toNat%32<24 then .ok (f.toNat,f.toNat%32,1)
 else if t.length<2 ^ (f.toNat%32-24) then .error 2
 else if f.toNat/32<7∧(yE 0 (beN (t.take (2 ^ (f.toNat%32-24))))).length≠1+2 ^ (f.toNat%32-24) then .error 4
 else .ok (f.toNat,beN (t.take (2 ^ (f.toNat%32-24))),1+2 ^ (f.toNat%32-24))
def Qy (v:Nat):Nat :=
 if v/1024%32=31 then v/32768*9223372036854775808+9218868437227405312+v%1024*4398046511104
 else if v/1024%32=0 then(if v%1024=0 then v/32768*9223372036854775808 else v/32768*9223372036854775808+(999+(v%1024).log2)*4503599627370496+(v%1024*2 ^ (52-(v%1024).log2)-4503599627370496))
 else v/32768*9223372036854775808+(v/1024%32+1008)*4503599627370496+v%1024*4398046511104
def Qz (v:Nat):Nat :=
 if v/8388608%256=255 then v/2147483648*9223372036854775808+9218868437227405312+v%8388608*536870912
 else if v/8388608%256=0 then(if v%8388608=0 then v/2147483648*9223372036854775808 else v/2147483648*9223372036854775808+(874+(v%8388608).log2)*4503599627370496+(v%8388608*2 ^ (52-(v%8388608).log2)-4503599627370496))
 else v/2147483648*9223372036854775808+(v/8388608%256+896)*4503599627370496+v%8388608*536870912
def bJ (low n:Nat):Nat:=if low=25 then Qy n else if low=26 then Qz n else n
def gV (low n:Nat):Except Nat Itm :=
 if low<24 then .ok (.mk 7 n [] [])
 else if low=24 then(if n<32 then .error 4 else .ok (.mk 7 n [] []))
 else if(isNaN (bJ low n)&&bJ low n != vB)||(yI (bJ low n)).length != 1+2 ^ (low-24) then .error 4
 else .ok (.mk 8 (bJ low n) [] [])
inductive PL where
 | err (e:Nat)
 | ok (l:List Itm) (k c:Nat)
inductive PR where
 | err (e:Nat)
 | ok (x:Itm) (k c:Nat)
def Ng (p:List UInt8→Nat→PR):Nat→List UInt8→Nat→PL
 | 0,_,c=>.ok [] 0 c
 | n+1,b,c=>match p b c with
  | .err e=>.err e
  | .ok x k c'=>match Ng p n (b.drop k) c' with
   | .err e=>.err e
   | .ok l k' c''=>.ok (x::l) (k+k') c''
def Jt (last:Option (List UInt8)) (key:List UInt8):Option Nat :=
 match last with
 | none=>none
 | some l=>if Lib.compareBytes key l=0 then some 7 else if Lib.compareBytes key l<0 then some 6 else none
def Oa (p:List UInt8→Nat→PR):Nat→List UInt8→Nat→Option (List UInt8)→PL
 | 0,_,c,_=>.ok [] 0 c
 | n+1,b,c,last=>match p b c with
  | .err e=>.err e
  | .ok x k c'=>match Jt last (b.take k) with
   | some e=>.err e
   | none=>match p (b.drop k) c' with
    | .err e=>.err e
    | .ok y k' c''=>match Oa p n (b.drop (k+k')) c'' (some (b.take k)) with
     | .err e=>.err e
     | .ok l k'' c3=>.ok (x::y::l) (k+k'+k'') c3
def bH:Nat→List UInt8→Nat→PR
 | d,b,c =>
 if 256≤c then .err 8
 else match bF b with
  | .error e=>.err e
  | .ok (f,n,k) =>
  if f/32≤1 then .ok (.mk (f/32:Nat) n [] []) k (c+1)
  else if f/32≤3 then
   (if b.length<k+n then .err 2
   else if f/32=3∧Lib.validD ((b.drop k).take n)=false then .err 5
   else .ok (.mk (f/32:Nat) 0 ((b.drop k).take n) []) (k+n) (c+1))
  else if f/32=7 then
   (match gV (f%32) n with
   | .error e=>.err e
   | .ok x=>.ok x k (c+1))
  else match d with
   | 0=>.err 8
   | d+1 =>
   if f/32=6 then(match bH d (b.drop k) (c+1) with
    | .err e=>.err e
    | .ok x k' c'=>.ok (.mk 6 n [] [x]) (k+k') c')
   else if f/32=5 then(match Oa (bH d) n (b.drop k) (c+1) none with
    | .err e=>.err e
    | .ok l k' c'=>.ok (.mk 5 0 [] l) (k+k') c')
   else(match Ng (bH d) n (b.drop k) (c+1) with
    | .err e=>.err e
    | .ok l k' c'=>.ok (.mk 4 0 [] l) (k+k') c')
theorem gI:∀ a b:List UInt8,¬ Lib.compareBytes a b=0→¬ Lib.compareBytes a b<0→Lib.compareBytes b a<0
 | [],[],h,_=>absurd rfl h
 | [],_::_,_,h=>absurd (by show(-1:Int)<0;decide) h
 | _::_,[],_,_=>by show(-1:Int)<0;decide
 | x::a,y::b,h,k=>by
  rw[Lib.compareBytes]at h k⊢
  split at h
  ·rename_i h1
   rw[if_pos h1]at k
   exact absurd (by decide) k
  rename_i h1
  rw[if_neg h1]at k
  split at h
  ·rename_i h2
   rw[if_pos h2];decide
  rename_i h2
  rw[if_neg h2]at k;rw[if_neg h2,if_neg h1]
  exact gI a b h k
inductive Pairs {α β:Type} (R:α→β→Prop):List α→List β→Prop
 | nil:Pairs R [] []
 | cons {a b l m}:R a b→Pairs R l m→Pairs R (a::l) (b::m)
theorem Pairs.perm {α β:Type}{R:α→β→Prop}{l l':List α}(hp:l'.Perm l):∀ {m:List β},Pairs R l m→∃ m',Pairs R l' m'∧m'.Perm m:=by
 induction hp with
 | nil=>intro m h;cases h;exact⟨[],.nil,.refl _⟩
 | cons x _ ih =>
  intro m h
  cases h with
  | cons hx hr =>
  obtain⟨m',h1,h2⟩:=ih hr
  exact⟨_::m',.cons hx h1,h2.cons _⟩
 | swap x y l =>
  intro m h
  cases h with
  | cons hx hr =>
  cases hr with
  | cons hy Pm=>exact⟨_,.cons hy (.cons hx Pm),.swap _ _ _⟩
 | trans _ _ ih1 ih2 =>
 intro m h
 obtain⟨m2,h1,h2⟩:=ih2 h;obtain⟨m3,h3,h4⟩:=ih1 h1
 exact⟨m3,h3,h4.trans h2⟩
theorem Tv {α:Type}(k:α→List UInt8):Go.Sort.SWO (fun a b=>decide (Lib.compareBytes (k a) (k b)<0)) where
 irrefl:=fun x=>by rw[sX];rfl
 trans:=fun x y z h1 h2=>by rw[decide_eq_true_eq]at *;exact sx _ _ _ h1 h2
 ntrans:=fun x y z h1 h2=>by
  rw[decide_eq_false_iff_not]at *
  intro h3
  by_cases e:Lib.compareBytes (k x) (k y)=0
  ·have:=(nz _ _).1 e;rw[this]at h3
   exact h2 h3
  have h4:=gI _ _ e h1
  exact h2 (sx _ _ _ h4 h3)
def Asc {α:Type}(k:α→List UInt8) (l:List α):Prop:=l.Pairwise fun a b=>Lib.compareBytes (k a) (k b)<0
theorem jt {α:Type}(k:α→List UInt8):∀ {l m:List α},Asc k l→Asc k m→l.Perm m→l=m
 | [],m,_,_,h=>by rw[List.nil_perm.1 h]
 | x::l,[],_,_,h=>by have:=h.length_eq;simp at this
 | x::l,y::m,hl,hm,h=>by
  have Pc:=List.pairwise_cons.1 hl;have qL:=List.pairwise_cons.1 hm
  have QX:x=y:=by
   have hx:x∈y::m:=h.subset (by simp);have hy:y∈x::l:=h.symm.subset (by simp)
   simp only[List.mem_cons]at hx hy
   rcases hx with hx | hx
   ·exact hx
   rcases hy with hy | hy
   ·exact hy.symm
   have h1:=qL.1 x hx;have h2:=Pc.1 y hy;have h3:=sx _ _ _ h1 h2;rw[sX]at h3
   omega
  subst QX;rw[jt k Pc.2 qL.2 (h.cons_inv)]
theorem Qd:∀ {l:List Itm},xY l=true→Asc (·.1) (pk l):=by
 have main:∀ (n:Nat) (l:List Itm),l.length≤n→xY l=true→Asc (·.1) (pk l)∧∀ a b r,l=a::b::r→∀ p∈pk r,Lib.compareBytes (zh a) p.1<0:=by
  intro n
  induction n with
  | zero =>
   intro l hl _
   obtain rfl:=List.eq_nil_of_length_eq_zero (by omega:l.length=0)
   exact⟨by simp only[pk];exact List.Pairwise.nil,fun _ _ _ h=>by cases h⟩
  | succ n ih =>
  intro l hl ha
  match l,hl,ha with
  | [],_,_=>exact⟨by simp only[pk];exact List.Pairwise.nil,fun _ _ _ h=>by cases h⟩
  | [_],_,_=>exact⟨by simp only[pk];exact List.Pairwise.nil,fun _ _ _ h=>by cases h⟩
  | [a,b],_,_=>exact⟨by simp only[pk];exact List.pairwise_singleton _ _,fun a' b' r h p hp=>by cases h;simp[pk]at hp⟩
  | a::b::c::r,hl,ha =>
  rw[xY,Bool.and_eq_true,decide_eq_true_eq]at ha;have h1:=ih (c::r) (by simp only[List.length_cons]at hl⊢;omega) ha.2
  have vD:∀ p∈pk (c::r),Lib.compareBytes (zh a) p.1<0:=by
   intro p hp
   match r,h1,hp with
   | [],_,hp=>simp[pk]at hp
   | d::r,h1,hp =>
   rw[pk,List.mem_cons]at hp
   rcases hp with rfl | hp
   ·exact ha.1
   exact sx _ _ _ ha.1 (h1.2 c d r rfl p hp)
  refine⟨?_,fun a' b' r' h p hp=>by cases h;exact vD p hp⟩
  rw[pk]
  exact List.pairwise_cons.2 ⟨vD,h1.1⟩
 exact fun {l} h=>(main _ l (Nat.le_refl _) h).1
end Go.Proofs.YtliomcphdnppnaaGreatDoor
