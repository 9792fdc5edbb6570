/- squeezed. Rows of a call's own in a box; pai -/
import Derived.Test.YtgcjjhibdbafmabGreatDoorK16
import Derived.Sort.LotA
import Derived.Shelf.GgSortFunc.RowK
import Derived.Shelf.SlSortFuncK.WholeK
import Derived.Shelf.GgSortFunc.Tiny
import GoSem.Core.Float
import Derived.Laws.FloatArith
import Derived.Deep.Cut
import Derived.Lib.ValidLaws
set_option linter.unusedVariables false
set_option linter.unusedSimpArgs false
set_option maxRecDepth 100000
set_option maxHeartbeats 25600000
namespace Go.Proofs.YtgcjjhibdbafmabGreatDoor
open Go.RowKit
abbrev Pr:=List UInt8×Itm×Itm
def oh:Lie Pr where
 k:=9
 pos:=by omega
 E:=fun H x c=>∃ A cc ba bc ia ic ba' bc' ia' ic',c=.slice A x.1.length cc::(zY x.2.1 ba bc ia ic++zY x.2.2 ba' bc' ia' ic')∧IsBytes H A cc x.1∧IsItem H ba bc ia ic x.2.1∧IsItem H ba' bc' ia' ic' x.2.2
 len:=by rintro _ _ _ ⟨_,_,_,_,_,_,_,_,_,_,rfl,_⟩;rfl
 one:=by rintro _ _ _ ⟨_,_,_,_,_,_,_,_,_,_,rfl,_⟩;simp[zY,Value.oneCell']
 mono:=by rintro H K x c hl ⟨A,cc,ba,bc,ia,ic,ba',bc',ia',ic',e,h1,h2,h3⟩;exact⟨A,cc,ba,bc,ia,ic,ba',bc',ia',ic',e,h1.mono hl,h2.mono hl,h3.mono hl⟩
def pk:List Itm→List Pr
 | a::b::l=>(zZ a,a,b)::pk l
 | _=>[]
theorem jr:∀ l:List Itm,(pk l).length=l.length/2
 | []=>rfl
 | [_]=>by simp[pk]
 | a::b::l=>by simp only[pk,List.length_cons,jr l];omega
theorem mE:∀ (l:List Itm) (i:Nat) (h:2*i+1<l.length),(pk l)[i]? = some (zZ (l[2*i]'(by omega)),l[2*i]'(by omega),l[2*i+1])
 | [],i,h=>by simp at h
 | [_],i,h=>by simp at h
 | a::b::l,0,h=>by simp[pk]
 | a::b::l,i+1,h=>by
  have h':2*i+1<l.length:=by simp only[List.length_cons]at h;omega
  have e1:∀ h2,(a::b::l)[2*(i+1)]'h2=l[2*i]:=fun h2=>by
   have:2*(i+1)=2*i+1+1:=by omega
   simp only[this,List.getElem_cons_succ]
  have e2:∀ h2,(a::b::l)[2*(i+1)+1]'h2=l[2*i+1]:=fun h2=>by
   have:2*(i+1)+1=(2*i+1)+1+1:=by omega
   simp only[this,List.getElem_cons_succ]
  rw[e1,e2,pk,List.getElem?_cons_succ]
  exact mE l i h'
theorem U2 (l:List Itm) (i:Nat) (h:2*i+1<l.length):pk (l.take (2*i+2))=pk (l.take (2*i))++[(zZ (l[2*i]'(by omega)),l[2*i]'(by omega),l[2*i+1])]:=by
 apply List.ext_getElem?
 intro j
 have h1:(pk (l.take (2*i))).length=i:=by rw[jr,List.length_take];omega
 have h2:(pk (l.take (2*i+2))).length=i+1:=by rw[jr,List.length_take];omega
 rcases Nat.lt_trichotomy j i with hj | hj | hj
 ·rw[List.getElem?_append_left (by omega),mE _ j (by rw[List.length_take];omega),mE _ j (by rw[List.length_take];omega)]
  simp only[List.getElem_take]
 ·subst hj;rw[List.getElem?_append_right (by omega),h1,Nat.sub_self,mE _ j (by rw[List.length_take];omega)]
  simp only[List.getElem_take]
  rfl
 rw[List.getElem?_eq_none (by omega),List.getElem?_eq_none (by simp;omega)]
structure XM {α:Type} (L:Lie α) (t bt:TypeId) (kt:TypeId) (W0:World) (H:Snap) (B:Nat) (kc:Array Value) (bv v:Value) (l:List α) (w:World) (Hr:Snap):Prop where
 grows:Grows W0 H w Hr
 hK:Hr W0.heap.size=none
 key:Blk w W0.heap.size kt kc
 own:OwnX L t w (W0.heap.size+1) v Hr l
 apart:∀ g,v.ownBlock=some g→Hr g=none
 lt:W0.heap.size<B
 hB:Hr B=none
 box:Blk w B bt #[bv]
 far:v.ownBlock≠some B
section
variable {α:Type} {L:Lie α} {t bt kt:TypeId} {W0 w w':World} {H Hr Hs:Snap} {B:Nat} {kc:Array Value} {bv v v':Value} {l news:List α}
theorem XM.start (hG:Grows W0 H w Hr) (hK:Hr W0.heap.size=none) (hk:Blk w W0.heap.size kt kc) (hO:OwnX L t w (W0.heap.size+1) v Hr l) (ha:∀ g,v.ownBlock=some g→Hr g=none) :
  XM L t bt kt W0 H w.heap.size kc bv v l (w.alloc (.cells #[bv] bt)) Hr :=
 ⟨hG.alloc _,hK,hk.alloc _,hO.alloc _,ha,hk.lt,hG.hidden (Nat.le_refl _),Blk.new _ _ _,fun e=>by have:=(hO.lt _ e).2;omega⟩
theorem XM.grow (h:XM L t bt kt W0 H B kc bv v l w Hr) (k:Grows w Hr w' Hs):XM L t bt kt W0 H B kc bv v l w' Hs :=
 ⟨h.grows.trans k,k.none h.hK h.key.lt,h.key.below k.below,(h.own.below k.below).mono k.le,fun g hg=>k.none (h.apart g hg) (h.own.lt g hg).2,h.lt,k.none h.hB h.box.lt,h.box.below k.below,h.far⟩
theorem XM.below (h:XM L t bt kt W0 H B kc bv v l w Hr) (k:Below w.heap.size w w'):XM L t bt kt W0 H B kc bv v l w' Hr:=h.grow (Grows.of_below h.grows.holds k)
theorem XM.alloc (h:XM L t bt kt W0 H B kc bv v l w Hr) (o:Obj):XM L t bt kt W0 H B kc bv v l (w.alloc o) Hr:=h.below (zi w o)
theorem XM.drew (h:XM L t bt kt W0 H B kc bv v l w Hr):XM L t bt kt W0 H B kc bv v l w.drew Hr:=h.below (Below.refl _ _).drew
theorem XM.base (h:XM L t bt kt W0 H B kc bv v l w Hr):W0.heap.size+1≤w.heap.size:=by have:=h.key.lt;omega
theorem XM.litZ (h:XM L t bt kt W0 H B kc bv v l w Hr) (cs:Array Value) (e:TypeId):Src (w.alloc (.cells cs e)) (some ⟨w.heap.size,0,none⟩) cs.toList:=Src.lit w cs e
theorem XM.app (h:XM L t bt kt W0 H B kc bv v l w Hr) (hO:OwnX L t w' (W0.heap.size+1) v' Hr (l++news)) (hg:w.grownBy w' v.ownBlock) (ha:At0 w v.ownBlock v'.ownBlock):XM L t bt kt W0 H B kc bv v' (l++news) w' Hr :=
 ⟨h.grows.grownRow h.apart (fun g hg=>by have:=(h.own.lt g hg).1;omega) hg,h.hK,h.key.grown hg (fun e=>by have:=(h.own.lt _ e).1;omega),hO,fun g hv=>by
  rcases ha with e | ⟨g',e,hs⟩
  ·exact h.apart g (by rw[← e,hv])
  ·rw[hv]at e;injection e with e
   subst e
   exact h.grows.hidden hs,h.lt,h.hB,h.box.grown hg h.far,by
  rcases ha with e | ⟨g',e,hs⟩
  ·rw[e];exact h.far
  rw[e]
  intro e2
  injection e2 with e2
  have:=h.box.lt
  omega⟩
theorem XM.setBox (h:XM L t bt kt W0 H B kc bv v l w Hr) (hB:Blk w' B bt #[v']) (hg:w.grownBy w' (some B)):XM L t bt kt W0 H B kc v' v l w' Hr :=
 ⟨h.grows.grownOwn h.hB (by have:=h.lt;omega) hg,h.hK,h.key.grown hg (fun e=>by injection e with e;have:=h.lt;omega),h.own.kept hg (.inr h.far),h.apart,h.lt,h.hB,hB,h.far⟩
theorem XM.snap {A:Option Addr}{m c:Nat}(h:XM L t bt kt W0 H B kc bv (.slice A m c) l w Hr) :
  ∃ H',Grows W0 H w H'∧Hr.le H'∧m=l.length∧IsRow L H' A c l∧H' W0.heap.size=none∧H' B=none:=by
 obtain⟨H',hl,hh,hf,rfl,hr⟩:=h.own.snap h.grows.holds (fun g hg=>h.apart g (by cases A <;> simp_all [Value.ownBlock]))
 have l9:∀ b,Hr b=none→(∀ g,(Value.slice A l.length c).ownBlock=some g→g≠b)→H' b=none:=fun b hb xH=>by
  cases hx:H' b with
  | none=>rfl
  | some o =>
  rcases hf b o hx with h1 | h1
  ·rw[hb]at h1;cases h1
  exact absurd rfl (xH b (by cases A <;> simp_all [Value.ownBlock]))
 refine⟨H',⟨h.grows.below,h.grows.le.trans hl,hh,fun b o hb=>?_⟩,hl,rfl,hr,l9 _ h.hK (fun g hg e=>by have:=(h.own.lt g hg).1;omega),l9 _ h.hB (fun g hg e=>h.far (by rw[hg,e]))⟩
 rcases hf b o hb with h1 | h1
 ·exact h.grows.fresh b o h1
 exact .inr (by have:=(h.own.lt b (by cases A <;> simp_all [Value.ownBlock])).1;omega)
end
theorem OwnX.append_wp2 {α:Type}{L:Lie α}{t:TypeId}{w:World}{base:Nat}{v:Value}{H:Snap}{l:List α}{o:Oper}{a:Act}{K:Act→World→Prop}{Q:Exit→Act→World→Prop}(s x:Operand) (T:TypeId)
  (ho:o.op=.call { callee:=.builtin .append,args:=#[s,x],argTypes:=#[T,T] }) (hT:Tryz.prog.underlying T=some (.slice t)) {z:Value} {bytes:Nat} (hzs:z.cells.size=L.k) (gp:bytes≤256)
  (hinfo:(Tryz.prog.info? t).map (fun i=>(i.zero,i.size,i.bytes))=some (some z,L.k,bytes))
  (hs:a.eval s=v) (wE:OwnX L t w base v H l) (A:Option Addr) (m c:Nat) (cs:List Value) (news:List α) (hx:a.eval x=.slice A m c) (hm:m=news.length)
  (hn:RowC L H cs news) (hr:Src w A cs) (zN:l.length+news.length≤1048576) (tW:base≤w.heap.size)
  (h:∀ v' w',OwnX L t w' base v' H (l++news)→w.grownBy w' v.ownBlock→At0 w v.ownBlock v'.ownBlock→K (a.put o.dst v') w') :
  Oper.wp Tryz.prog o a w K Q:=by
 subst hm;obtain⟨xs,QX,wE⟩:=wE;obtain⟨i0,uq,fz,rv,ro⟩:=info_parts hinfo
 refine uC s x _ ho base t i0 _ L.k bytes hT uq fz rv ro hzs L.pos v l.length xs hs wE A news.length c cs hx hn.len hr hn.oneCell
  (by simp only[maxLen];omega) (by have:=Nat.mul_le_mul zN gp;omega) tW fun v' w' h2 h3 h4=>h v' w' ?_ h3 ?_
 ·exact⟨xs++cs,QX.app hn,by simpa using h2⟩
 rcases h4 with h4 | h4
 ·exact .inl h4
 exact .inr ⟨_,h4,Nat.le_refl _⟩
abbrev xZ:Array Value:=#[.int .i64 0,.int .u64 0,.slice none 0 0,.slice none 0 0]
structure BM (W0:World) (H:Snap) (B M:Nat) (bc:Array Value) (iv v:Value) (l:List Itm) (w:World) (Hr:Snap):Prop where
 grows:Grows W0 H w Hr
 hK:Hr W0.heap.size=none
 hB:Hr B=none
 hM:Hr M=none
 ltB:W0.heap.size<B
 ltM:W0.heap.size<M
 ne:B≠M
 key:Blk w W0.heap.size 57 xZ
 boxB:Blk w B 94 bc
 boxM:Blk w M 57 #[.int .i64 5,.int .u64 0,.slice none 0 0,iv]
 own:OwnI w (W0.heap.size+1) v Hr l
 apart:∀ g,v.ownBlock=some g→Hr g=none∧g≠B∧g≠M
section
variable {W0 w w':World} {H Hr Hs:Snap} {B M:Nat} {bc:Array Value} {iv v v':Value} {l news:List Itm}
theorem BM.grow (h:BM W0 H B M bc iv v l w Hr) (k:Grows w Hr w' Hs):BM W0 H B M bc iv v l w' Hs :=
 ⟨h.grows.trans k,k.none h.hK h.key.lt,k.none h.hB h.boxB.lt,k.none h.hM h.boxM.lt,h.ltB,h.ltM,h.ne,h.key.below k.below,h.boxB.below k.below,h.boxM.below k.below,(h.own.below k.below).mono k.le,
  fun g hg=>⟨k.none (h.apart g hg).1 (h.own.lt g hg).2,(h.apart g hg).2⟩⟩
theorem BM.below (h:BM W0 H B M bc iv v l w Hr) (k:Below w.heap.size w w'):BM W0 H B M bc iv v l w' Hr:=h.grow (Grows.of_below h.grows.holds k)
theorem BM.alloc (h:BM W0 H B M bc iv v l w Hr) (o:Obj):BM W0 H B M bc iv v l (w.alloc o) Hr:=h.below (zi w o)
theorem BM.drew (h:BM W0 H B M bc iv v l w Hr):BM W0 H B M bc iv v l w.drew Hr:=h.below (Below.refl _ _).drew
theorem BM.litZ (h:BM W0 H B M bc iv v l w Hr) (cs:Array Value) (e:TypeId):Src (w.alloc (.cells cs e)) (some ⟨w.heap.size,0,none⟩) cs.toList:=Src.lit w cs e
theorem BM.base (h:BM W0 H B M bc iv v l w Hr):W0.heap.size+1≤w.heap.size:=by have:=h.key.lt;omega
theorem BM.app (h:BM W0 H B M bc iv v l w Hr) (hO:OwnI w' (W0.heap.size+1) v' Hr (l++news)) (hg:w.grownBy w' v.ownBlock) (ha:At0 w v.ownBlock v'.ownBlock):BM W0 H B M bc iv v' (l++news) w' Hr :=
 ⟨h.grows.grownRow (fun g hg=>(h.apart g hg).1) (fun g hg=>by have:=(h.own.lt g hg).1;omega) hg,h.hK,h.hB,h.hM,h.ltB,h.ltM,h.ne,h.key.grown hg (fun e=>by have:=(h.own.lt _ e).1;omega),
  h.boxB.grown hg (fun e=>(h.apart _ e).2.1 rfl),h.boxM.grown hg (fun e=>(h.apart _ e).2.2 rfl),hO,fun g hv=>by
  rcases ha with e | ⟨g',e,hs⟩
  ·exact h.apart g (by rw[← e,hv])
  rw[hv]at e;injection e with e
  subst e;have h1:=h.boxB.lt;have h2:=h.boxM.lt
  exact⟨h.grows.hidden hs,by omega,by omega⟩⟩
theorem BM.setM (h:BM W0 H B M bc iv v l w Hr) {iv':Value}(hB:Blk w' M 57 #[.int .i64 5,.int .u64 0,.slice none 0 0,iv']) (hg:w.grownBy w' (some M)):BM W0 H B M bc iv' v l w' Hr :=
 ⟨h.grows.grownOwn h.hM (by have:=h.ltM;omega) hg,h.hK,h.hB,h.hM,h.ltB,h.ltM,h.ne,h.key.grown hg (fun e=>by injection e with e;have:=h.ltM;omega),h.boxB.grown hg (fun e=>by injection e with e;exact h.ne e.symm),hB,
  h.own.kept hg (by
   cases hv:v.ownBlock with
   | none=>exact .inl rfl
   | some g=>exact .inr (fun e=>by injection e with e;exact(h.apart g hv).2.2 e)),h.apart⟩
theorem BM.item {A:Option Addr}{m c:Nat}(h:BM W0 H B M bc (.slice A m c) (.slice A m c) l w Hr) :
  ∃ H',Grows W0 H w H'∧m=l.length∧IsItem H' none 0 A c (.mk 5 0 [] l)∧H' W0.heap.size=none:=by
 obtain⟨H',hl,hh,hf,rfl,rq,rs,vD⟩:=h.own.snap h.grows.holds (fun g hg=>(h.apart g (by cases A <;> simp_all [Value.ownBlock])).1)
 refine⟨H',⟨h.grows.below,h.grows.le.trans hl,hh,fun b o hb=>?_⟩,rfl, ?_, ?_⟩
 ·rcases hf b o hb with h1 | h1
  ·exact h.grows.fresh b o h1
  exact .inr (by have:=(h.own.lt b (by cases A <;> simp_all [Value.ownBlock])).1;omega)
 ·rw[IsItem]
  exact⟨⟨by omega,by omega,by omega,rq,rs⟩,IsBytes.nil _,vD⟩
 cases hx:H' W0.heap.size with
 | none=>rfl
 | some o =>
 rcases hf _ o hx with h1 | h1
 ·rw[h.hK]at h1;cases h1
 have:=(h.own.lt W0.heap.size (by cases A <;> simp_all [Value.ownBlock])).1;omega
end
abbrev WE:Value:=.agg #[.slice none 0 0,.int .i64 0,.int .u64 0,.slice none 0 0,.slice none 0 0,.int .i64 0,.int .u64 0,.slice none 0 0,.slice none 0 0]
theorem j9:(Tryz.prog.info? 96).map (fun i=>(i.zero,i.size,i.bytes))=some (some WE,9,152):=by kernel_rfl
theorem lW:(Tryz.prog.info? 94).map (·.size)=some 1:=by kernel_rfl
theorem m0b {w w':World}{p:Addr}{v:Value}(hb:Below w.heap.size w w') (h:w.cell? p=some v):w'.cell? p=some v:=zM h hb
def VI (w:World) (H:Snap) (ps:List Itm) (e:Ending) (w':World):Prop:=∃ v,e=.returned (.tuple #[v,.int .i64 0])∧Gives w H (.mk 5 0 [] ps) v w'
inductive Pairs {α β:Type} (R:α→β→Prop):List α→List β→Prop
 | nil:Pairs R [] []
 | cons {a b l m}:R a b→Pairs R l m→Pairs R (a::l) (b::m)
theorem Pairs.perm {α β:Type}{R:α→β→Prop}{l l':List α}(hp:l'.Perm l):∀ {m:List β},Pairs R l m→∃ m',Pairs R l' m'∧m'.Perm m:=by
 induction hp with
 | nil=>intro m h;cases h;exact⟨[],.nil,.refl _⟩
 | cons x _ ih =>
  intro m h
  cases h with
  | cons hx hr =>
  obtain⟨m',h1,h2⟩:=ih hr
  exact⟨_::m',.cons hx h1,h2.cons _⟩
 | swap x y l =>
  intro m h
  cases h with
  | cons hx hr =>
  cases hr with
  | cons hy hr2=>exact⟨_,.cons hy (.cons hx hr2),.swap _ _ _⟩
 | trans _ _ ih1 ih2 =>
 intro m h
 obtain⟨m2,h1,h2⟩:=ih2 h;obtain⟨m3,h3,h4⟩:=ih1 h1
 exact⟨m3,h3,h4.trans h2⟩
theorem Tf {α:Type}(k:α→List UInt8):Go.Sort.SWO (fun a b=>decide (Lib.compareBytes (k a) (k b)<0)) where
 irrefl:=fun x=>by rw[uh];rfl
 trans:=fun x y z h1 h2=>by rw[decide_eq_true_eq]at *;exact sH _ _ _ h1 h2
 ntrans:=fun x y z h1 h2=>by
  rw[decide_eq_false_iff_not]at *
  intro h3
  by_cases e:Lib.compareBytes (k x) (k y)=0
  ·have:=(tU _ _).1 e;rw[this]at h3
   exact h2 h3
  have h4:=nA _ _ e h1
  exact h2 (sH _ _ _ h4 h3)
def Asc {α:Type}(k:α→List UInt8) (l:List α):Prop:=l.Pairwise fun a b=>Lib.compareBytes (k a) (k b)<0
theorem iq {α:Type}(k:α→List UInt8):∀ {l m:List α},Asc k l→Asc k m→l.Perm m→l=m
 | [],m,_,_,h=>by rw[List.nil_perm.1 h]
 | x::l,[],_,_,h=>by have:=h.length_eq;simp at this
 | x::l,y::m,hl,hm,h=>by
  have QG:=List.pairwise_cons.1 hl;have QH:=List.pairwise_cons.1 hm
  have Qw:x=y:=by
   have hx:x∈y::m:=h.subset (by simp);have hy:y∈x::l:=h.symm.subset (by simp)
   simp only[List.mem_cons]at hx hy
   rcases hx with hx | hx
   ·exact hx
   rcases hy with hy | hy
   ·exact hy.symm
   have h1:=QH.1 x hx;have h2:=QG.1 y hy;have h3:=sH _ _ _ h1 h2;rw[uh]at h3
   omega
  subst Qw;rw[iq k QG.2 QH.2 (h.cons_inv)]
theorem R5:∀ {l:List Itm},wn l=true→Asc (·.1) (pk l):=by
 have main:∀ (n:Nat) (l:List Itm),l.length≤n→wn l=true→Asc (·.1) (pk l)∧∀ a b r,l=a::b::r→∀ p∈pk r,Lib.compareBytes (zZ a) p.1<0:=by
  intro n
  induction n with
  | zero =>
   intro l hl _
   obtain rfl:=List.eq_nil_of_length_eq_zero (by omega:l.length=0)
   exact⟨by simp only[pk];exact List.Pairwise.nil,fun _ _ _ h=>by cases h⟩
  | succ n ih =>
  intro l hl ha
  match l,hl,ha with
  | [],_,_=>exact⟨by simp only[pk];exact List.Pairwise.nil,fun _ _ _ h=>by cases h⟩
  | [_],_,_=>exact⟨by simp only[pk];exact List.Pairwise.nil,fun _ _ _ h=>by cases h⟩
  | [a,b],_,_=>exact⟨by simp only[pk];exact List.pairwise_singleton _ _,fun a' b' r h p hp=>by cases h;simp[pk]at hp⟩
  | a::b::c::r,hl,ha =>
  rw[wn,Bool.and_eq_true,decide_eq_true_eq]at ha;have h1:=ih (c::r) (by simp only[List.length_cons]at hl⊢;omega) ha.2
  have uJ:∀ p∈pk (c::r),Lib.compareBytes (zZ a) p.1<0:=by
   intro p hp
   match r,h1,hp with
   | [],_,hp=>simp[pk]at hp
   | d::r,h1,hp =>
   rw[pk,List.mem_cons]at hp
   rcases hp with rfl | hp
   ·exact ha.1
   exact sH _ _ _ ha.1 (h1.2 c d r rfl p hp)
  refine⟨?_,fun a' b' r' h p hp=>by cases h;exact uJ p hp⟩
  rw[pk]
  exact List.pairwise_cons.2 ⟨uJ,h1.1⟩
 exact fun {l} h=>(main _ l (Nat.le_refl _) h).1
def RP (H:Snap) (x:PE H) (p:Pr):Prop:=x.key=p.1∧oh.E H p (xS x)
theorem j4 {H:Snap}(x:PE H):(xS x).length=9:=by simp[xS,x.len]
theorem e7 {H:Snap}:∀ {l:List Pr}{cs:List Value},RowC oh H cs l→∃ ds:List (PE H),Pairs (RP H) ds l∧cs=ds.flatMap xS
 | [],cs,h=>⟨[],.nil,by rw[RowC]at h;exact h⟩
 | x::l,cs,h=>by
  obtain⟨c,rest,rfl,⟨A,cc,ba,bc,ia,ic,ba',bc',ia',ic',rfl,hk,hy,hz⟩,hr⟩:=h;obtain⟨ds,h1,h2⟩:=e7 hr
  refine⟨⟨A,cc,x.1,zY x.2.1 ba bc ia ic++zY x.2.2 ba' bc' ia' ic',rfl,by simp[zY,Value.oneCell'],hk⟩::ds,.cons ⟨rfl,⟨A,cc,ba,bc,ia,ic,ba',bc',ia',ic',rfl,hk,hy,hz⟩⟩ h1, ?_⟩
  rw[List.flatMap_cons,← h2];rfl
theorem gZ {H:Snap}:∀ {ds:List (PE H)}{l:List Pr},Pairs (RP H) ds l→RowC oh H (ds.flatMap xS) l
 | [],_,h=>by cases h;rw[RowC];rfl
 | x::ds,_,h=>by
  cases h with
  | cons hx hr=>exact⟨xS x,ds.flatMap xS,by rw[List.flatMap_cons],hx.2,gZ hr⟩
theorem lz {α β:Type}{R:α→β→Prop}:∀ {l:List α}{m:List β},Pairs R l m→l.length=m.length
 | _,_,.nil=>rfl
 | _,_,.cons _ h=>by simp[lz h]
theorem YO {H:Snap}:∀ {ds:List (PE H)}{l:List Pr},Pairs (RP H) ds l→Asc (·.key) ds→Asc (·.1) l:=by
 have mem:∀ {ds:List (PE H)} {l:List Pr},Pairs (RP H) ds l→∀ p∈l,∃ x∈ds,x.key=p.1:=by
  intro ds l h
  induction h with
  | nil=>intro p hp;cases hp
  | cons hx _ ih =>
  intro p hp
  rw[List.mem_cons]at hp
  rcases hp with rfl | hp
  ·exact⟨_,by simp,hx.1⟩
  obtain⟨x,h1,h2⟩:=ih p hp
  exact⟨x,by simp[h1],h2⟩
 intro ds l h
 induction h with
 | nil=>intro _;exact List.Pairwise.nil
 | cons hx hr ih =>
 intro ha
 have XV:=List.pairwise_cons.1 ha
 refine List.pairwise_cons.2 ⟨fun p hp=>?_,ih XV.2⟩
 obtain⟨y,h1,h2⟩:=mem hr p hp;have h3:=XV.1 y h1
 simp only at h3⊢
 rw[← hx.1,← h2]
 exact h3
theorem ac {H:Snap}{ds:List (PE H)}{l:List Pr}(h:Pairs (RP H) ds l):l.Pairwise (fun a b=>a.1≠b.1)→ds.Pairwise (fun a b=>a.key≠b.key):=by
 have mem:∀ {ds:List (PE H)} {l:List Pr},Pairs (RP H) ds l→∀ x∈ds,∃ p∈l,x.key=p.1:=by
  intro ds l h
  induction h with
  | nil=>intro p hp;cases hp
  | cons hx _ ih =>
  intro p hp
  rw[List.mem_cons]at hp
  rcases hp with rfl | hp
  ·exact⟨_,by simp,hx.1⟩
  obtain⟨x,h1,h2⟩:=ih p hp
  exact⟨x,by simp[h1],h2⟩
 induction h with
 | nil=>intro _;exact List.Pairwise.nil
 | cons hx hr ih =>
 intro ha
 have XV:=List.pairwise_cons.1 ha
 refine List.pairwise_cons.2 ⟨fun y hy=>?_,ih XV.2⟩
 obtain⟨p,h1,h2⟩:=mem hr y hy;rw[hx.1,h2]
 exact XV.1 p h1
theorem gN {H:Snap}:∀ (ds:List (PE H)) (t:Nat),t<ds.length*9→(ds.flatMap xS)[t]? = some ((xS ds[t/9]!)[t%9]!)
 | [],t,h=>by simp at h
 | x::ds,t,h=>by
  rw[List.flatMap_cons];have hx:=j4 x
  by_cases h9:t<9
  ·rw[List.getElem?_append_left (by omega),Nat.div_eq_of_lt h9,Nat.mod_eq_of_lt h9]
   simp only[List.getElem!_cons_zero]
   rw[List.getElem!_eq_getElem?_getD,List.getElem?_eq_getElem (by omega)];rfl
  rw[List.getElem?_append_right (by omega),hx,gN ds (t-9) (by simp only[List.length_cons]at h;omega)];have e1:t/9=(t-9)/9+1:=by omega
  have e2:t%9=(t-9)%9:=by omega
  rw[e1,e2];rfl
theorem jZ {H:Snap}:∀ ds:List (PE H),(ds.flatMap xS).length=ds.length*9
 | []=>rfl
 | x::ds=>by rw[List.flatMap_cons,List.length_append,j4,jZ ds,List.length_cons];omega
theorem j5 {H:Snap}(d:Array (PE H)):(Go.Sort.flatK xS 9 d).toList=d.toList.flatMap xS:=by
 apply List.ext_getElem?
 intro t
 by_cases ht:t<d.size*9
 ·rw[gN d.toList t (by simpa using ht)];have hs:t<(Go.Sort.flatK xS 9 d).size:=by rw[Go.Sort.size_flatK];exact ht
  have h1:=Go.Sort.get_flatK xS 9 d t ht;rw[getElem!_pos _ t hs]at h1;rw[Array.getElem?_toList,Array.getElem?_eq_getElem hs,h1];congr 2
  rw[getElem!_def]
  simp
  try rfl
 rw[List.getElem?_eq_none (by rw[Array.length_toList,Go.Sort.size_flatK];omega),List.getElem?_eq_none (by rw[jZ];simp;omega)]
theorem Wa {H:Snap}{t:TypeId}{w:World}{base m c:Nat}{A:Option Addr}{l:List Pr}(h:OwnX oh t w base (.slice A m c) H l) (h0:0<l.length) :
  ∃ (g:Nat) (d:Array (PE H)),A=some ⟨g,0,none⟩∧base≤g∧g<w.heap.size∧d.size=l.length∧Pairs (RP H) d.toList l∧Go.Sort.HoldsK xS 9 w g 0 d:=by
 obtain⟨cs,px,h⟩:=h
 rcases h.2 with ⟨hv,hz⟩ | ⟨g,cap,cur,hv,hb,hg,hc,hm,hcz,ht⟩
 ·omega
 cases hv
 obtain⟨ds,h1,h3⟩:=e7 px;have hl:=lz h1
 refine⟨g,ds.toArray,rfl,hb,(Array.getElem?_eq_some_iff.1 hg).1,by simpa using hl,by simpa using h1,fun j hj=>?_⟩
 have Ir:j<(Go.Sort.flatK xS 9 ds.toArray).toList.length:=by simpa using hj
 have e:(Go.Sort.flatK xS 9 ds.toArray).toList[j]? = cs[j]? :=by rw[j5,h3]
 rw[List.getElem?_eq_getElem Ir,← ht,List.getElem?_take]at e
 split at e
 ·refine⟨?_,by simp[World.frozen?,hg]⟩
  rw[Nat.zero_add,cell_of_row w g j cur t (0,0) hg];rw[getElem!_pos _ j hj]
  simpa using e.symm
 cases e
theorem Vl {H:Snap}{t:TypeId}{w:World}{base m c g:Nat}{l q:List Pr}(h:OwnX oh t w base (.slice (some ⟨g,0,none⟩) m c) H l) {d':Array (PE H)}(hd:d'.size=l.length) (hq:Pairs (RP H) d'.toList q) (k:Nat) (os:Array Obj) :
  OwnX oh t (Go.Sort.grow (Go.Sort.putRowK xS 9 (Sort.ahead w k) g 0 d') os) base (.slice (some ⟨g,0,none⟩) m c) H q∧w.grownBy (Go.Sort.grow (Go.Sort.putRowK xS 9 (Sort.ahead w k) g 0 d') os) (some g):=by
 obtain⟨cs,px,h⟩:=h;have T0:q.length=l.length:=by have:=lz hq;simp at this;omega
 rcases h.2 with ⟨hv,hz⟩ | ⟨g',cap,cur,hv,hb,hg,hc,hm,hcz,ht⟩
 ·cases hv
 cases hv
 have yv:g<w.heap.size:=(Array.getElem?_eq_some_iff.1 hg).1;have hF:(Go.Sort.flatK xS 9 d').size=l.length*9:=by rw[Go.Sort.size_flatK,hd]
 have kK:(Go.Sort.grow (Go.Sort.putRowK xS 9 (Sort.ahead w k) g 0 d') os).heap[g]? = some (.cells (Go.Sort.putCells id 0 (Go.Sort.flatK xS 9 d') cur) t (0,0)):=by
  show(w.heap.modify g (Go.Sort.onCells (Go.Sort.putCells id 0 (Go.Sort.flatK xS 9 d')))++os)[g]? = _
  rw[Array.getElem?_append_left (by simpa using yv),Array.getElem?_modify,if_pos rfl,hg];rfl
 refine⟨⟨d'.toList.flatMap xS,gZ hq,by rw[jZ,T0];simp[hd];rfl,.inr ⟨g,c,_,by rw[T0],hb,kK,by rw[T0];exact hc,hm,by simp[Go.Sort.putCells,hcz], ?_⟩⟩,⟨rfl,rfl,rfl,by show w.heap.size≤(w.heap.modify g _++os).size;simp,fun i hi xH=>?_⟩⟩
 ·apply List.ext_getElem?
  intro j
  have GV:l.length*9≤cur.size:=by rw[hcz];exact Nat.mul_le_mul_right _ hc
  rw[← j5,List.getElem?_take];show(if j<q.length*9 then _ else _)=_
  rw[T0]
  split
  ·rename_i hj
   have It:j<cur.size:=by omega
   rw[Array.getElem?_toList,Array.getElem?_toList]
   unfold Go.Sort.putCells
   rw[Array.getElem?_mapIdx,Array.getElem?_eq_getElem It,Array.getElem?_eq_getElem (by omega:j<(Go.Sort.flatK xS 9 d').size)]
   simp only[Option.map_some]
   rw[if_pos (by omega),Nat.sub_zero,getElem!_pos _ j (by omega)];rfl
  rename_i hj
  rw[List.getElem?_eq_none (by rw[Array.length_toList];omega)]
 show(w.heap.modify g _++os)[i]? = _
 rw[Array.getElem?_append_left (by simpa using hi),Array.getElem?_modify,if_neg (fun e=>xH (by rw[e]))]
theorem YZ {α:Type}[Inhabited α] (k:α→List UInt8) (d d':Array α) (hn:d.toList.Pairwise fun a b=>k a≠k b) (lp:Go.Sort.PermIn 0 d.size d d') (hs:Go.Sort.SortedIn (fun a b=>decide (Lib.compareBytes (k a) (k b)<0)) 0 d.size d') :
  d'.toList.Perm d.toList∧Asc k d'.toList:=by
 obtain⟨mK,_,hp⟩:=lp
 have iQ:d'.toList.Perm d.toList:=by
  have e1:(d'.extract 0 d.size)=d':=by rw[← mK];simp
  have e2:(d.extract 0 d.size)=d:=by simp
  rw[e1,e2]at hp
  exact hp
 refine⟨iQ, ?_⟩
 have Z0:d'.toList.Pairwise fun a b=>k a≠k b:=(iQ.pairwise_iff (fun h=>Ne.symm h)).2 hn
 unfold Asc
 rw[List.pairwise_iff_getElem]at Z0⊢
 intro i j hi hj hij
 have h1:=Z0 i j hi hj hij;have h2:=hs i j (Nat.zero_le _) hij (by simp at hj;omega)
 simp only[decide_eq_false_iff_not]at h2
 rw[getElem!_pos d' j (by simpa using hj),getElem!_pos d' i (by simpa using hi)]at h2;have h3:¬ Lib.compareBytes (k d'[j]) (k d'[i])=0:=fun e=>h1 (by simpa using ((tU _ _).1 e).symm)
 have h4:=nA _ _ h3 h2
 simpa using h4
theorem az {H:Snap}{d d':Array (PE H)}{l q:List Pr}(hp:Pairs (RP H) d.toList l) (hq:q.Perm l) (ha:Asc (·.1) q) (lp:Go.Sort.PermIn 0 d.size d d') (hs:Go.Sort.SortedIn eW 0 d.size d') :
  d'.size=d.size∧Pairs (RP H) d'.toList q:=by
 have hn:l.Pairwise fun a b=>a.1≠b.1:=by
  refine(hq.pairwise_iff (fun h=>Ne.symm h)).1 (ha.imp fun h e=>?_)
  simp only at h
  rw[e,uh]at h
  omega
 have e:(fun a b:PE H=>decide (Lib.compareBytes a.key b.key<0))=eW:=rfl;obtain⟨h1,h2⟩:=YZ (fun x:PE H=>x.key) d d' (ac hp hn) lp (by rw[e];exact hs);obtain⟨q',h3,h4⟩:=Pairs.perm h1 hp;have h5:=iq (·.1) (YO h3 h2) ha (h4.trans hq.symm);subst h5
 exact⟨by have:=h1.length_eq;simpa using this,h3⟩
theorem RU {H:Snap}:Go.Sort.SWO (eW (H:=H)):=Tf (fun x:PE H=>x.key)
end Go.Proofs.YtgcjjhibdbafmabGreatDoor
namespace Go.Proofs.YtgcjjhibdbafmabGreatDoor
open Go.RowKit Go.Shelf Go.Lib
theorem ax {H:Snap}(d:Array (PE H)) (h2:2≤d.size) (ea:d.size<4611686018427387904) (blk off c Bs:Nat) (w:World)
  (hW:Holds w H) (hHb:H blk=none) (hH:Go.Sort.HoldsK xS 9 w blk off d) (hblk:blk<w.heap.size) (hs:w.cell? ⟨Bs,0,none⟩=some (.slice (some ⟨blk,off,none⟩) d.size c)) (Uk:Bs≠blk) (hBl:Bs<w.heap.size) :
  Calls Tryz.prog 71 #[.iface 94 (.slice (some ⟨blk,off,none⟩) d.size c),.func (.func 72) #[] #[.pointer (some ⟨Bs,0,none⟩)]] w fun e w'=>e=.returned (.tuple #[])∧∃ (d':Array (PE H)) (n:Nat) (os:Array Obj),Go.Sort.PermIn 0 d.size d d'∧Go.Sort.SortedIn eW 0 d.size d'∧w'=Go.Sort.grow (Go.Sort.putRowK xS 9 (Sort.ahead w n) blk off d') os:=by
 have OY:LessReadsK (α:=PE H) Tryz.prog 72 #[.pointer (some ⟨Bs,0,none⟩)] xS 9 eW blk off d.size w:=by
  intro m os dk mK i j hi hj
  have IR:Go.Sort.HoldsK xS 9 (Sort.ahead w m) blk off d:=Go.Sort.holdsK_ahead xS 9 w m blk off d hH;have IU:=Go.Sort.holdsK_putRowK xS 9 (Sort.ahead w m) blk off d dk IR mK;have SO:(Go.Sort.putRowK xS 9 (Sort.ahead w m) blk off dk).heap.size=w.heap.size:=Go.Sort.size_putRow id (Sort.ahead w m) blk off _;have OW:blk<(Go.Sort.putRowK xS 9 (Sort.ahead w m) blk off dk).heap.size:=by rw[SO];exact hblk
  have IQ:=Go.Sort.holdsK_grow xS 9 (Go.Sort.putRowK xS 9 (Sort.ahead w m) blk off dk) os blk off dk OW IU
  have If:Holds (Go.Sort.grow (Go.Sort.putRowK xS 9 (Sort.ahead w m) blk off dk) os) H:=fun b o hb=>by
   have nT:=hW.lt hb;have xH:b≠blk:=fun e=>by rw[e,hHb]at hb;cases hb
   rw[Go.Sort.heap_grow_old _ _ (by rw[SO];exact nT)]
   have hq:(w.heap.modify blk (Go.Sort.onCells (Go.Sort.putCells id off (Go.Sort.flatK xS 9 dk))))[b]? = some o:=by
    rw[Array.getElem?_modify,if_neg (Ne.symm xH)]
    exact hW b o hb
   exact hq
  refine(aU blk off c Bs d.size _ If (fun t=>dk[t]!) ?_ (fun t ht=>?_) i j hi hj)
  ·rw[Go.Sort.cell?_grow _ _ _ (by rw[SO];exact hBl),Go.Sort.cell?_putRowK_other xS 9 _ _ _ _ _ Uk]
   exact hs
  exact(IQ.cell (i:=t) (c:=0) (by omega) (by omega)).1
 have hS:=Any.sort_Slice_cells_sorted (α:=PE H) jl 94 96 pairTI pairEI (by kernel_rfl) (by kernel_rfl) (by kernel_rfl) (by kernel_rfl) 25 (fun _=>by kernel_rfl) xS 9 Xy (by kernel_rfl) (fun _=>by kernel_rfl)
  (fun x v hv=>by
   rw[xS,List.mem_cons]at hv
   rcases hv with rfl | hv
   ·rfl
   exact x.one v hv) eW RU 72 _
  (enters_of Tryz.func72 (by kernel_rfl) rfl) blk off c d h2 ea 119 (by rw[RQ _ h2];kernel_rfl) false
  (fun args W=>run_callFunc_extern Tryz.func119 (by kernel_rfl) (by kernel_rfl) (by kernel_rfl) (e:=Extern.ReflectliteSwapper.swap false) (by kernel_rfl) args W) w OY hH hblk
 change Calls Tryz.prog 71 _ _ _ at hS
 exact hS.mono fun e w' ⟨he,d',n,os,h1,h2,hw⟩=>⟨he,d',n,os,h1,h2,hw⟩
theorem dM {H:Snap}{w:World}{base m c:Nat}{A:Option Addr}{l q:List Pr}(hO:OwnX oh 96 w base (.slice A m c) H l) (hm:m=l.length) (h2:2≤l.length) (ea:l.length<4611686018427387904)
  (hq:q.Perm l) (ha:Asc (·.1) q) (hW:Holds w H) (hap:∀ g,(Value.slice A m c).ownBlock=some g→H g=none) (Bs:Nat) (hs:w.cell? ⟨Bs,0,none⟩=some (.slice A m c)) (Uk:(Value.slice A m c).ownBlock≠some Bs) (hBl:Bs<w.heap.size) :
  Calls Tryz.prog 71 #[.iface 94 (.slice A m c),.func (.func 72) #[] #[.pointer (some ⟨Bs,0,none⟩)]] w fun e w'=>e=.returned (.tuple #[])∧OwnX oh 96 w' base (.slice A m c) H q∧w.grownBy w' (Value.slice A m c).ownBlock:=by
 obtain⟨g,d,rfl,G7,yv,Kh,hp,IP⟩:=Wa hO (by omega);have Sx:m=d.size:=by rw[hm,Kh]
 have SC:=ax d (by omega) (by omega) g 0 c Bs w hW (hap g rfl) IP yv (by rw[← Sx];exact hs) (fun e=>Uk (by rw[e];rfl)) hBl;rw[← Sx]at SC
 refine SC.mono fun e w' ⟨he,d',n,os,h1,h2,hw⟩=>⟨he, ?_⟩
 rw[Sx]at h1 h2;obtain⟨mK,J4⟩:=az hp hq ha h1 h2;rw[hw]
 exact Vl (w:=w) hO (d':=d') (by rw[mK,Kh]) J4 n os
theorem XM.perm {α:Type}{L:Lie α}{t bt kt:TypeId}{W0 w w':World}{H Hr:Snap}{B:Nat}{kc:Array Value}{bv v:Value}{l l':List α}(h:XM L t bt kt W0 H B kc bv v l w Hr) (hO:OwnX L t w' (W0.heap.size+1) v Hr l') (hg:w.grownBy w' v.ownBlock):XM L t bt kt W0 H B kc bv v l' w' Hr :=
 ⟨h.grows.grownRow h.apart (fun g hg=>by have:=(h.own.lt g hg).1;omega) hg,h.hK,h.key.grown hg (fun e=>by have:=(h.own.lt _ e).1;omega),hO,h.apart,h.lt,h.hB,h.box.grown hg h.far,h.far⟩
theorem ZQ (n:Nat) (h:n≤1):Lib.swapperK n pairEI 25=n+1:=by
 rcases Nat.eq_zero_or_pos n with h0 | h0
 ·subst h0;simp[Lib.swapperK]
 obtain rfl:n=1:=by omega
 simp[Lib.swapperK]
theorem ay {H:Snap}(n:Nat) (hn:n≤1) (p:Option Addr) (c Bs:Nat) {w:World}(hW:Holds w H) :
  Calls Tryz.prog 71 #[.iface 94 (.slice p n c),.func (.func 72) #[] #[.pointer (some ⟨Bs,0,none⟩)]] w fun e w'=>e=.returned (.tuple #[])∧Below w.heap.size w w':=by
 have fin:∀ (w':World) os,w'=Go.Sort.grow w os→Below w.heap.size w w':=fun w' os hw=>by
  rw[hw]
  exact⟨rfl,rfl,rfl,by show w.heap.size≤(w.heap++os).size;rw[Array.size_append];omega,fun _ hj=>Go.Sort.heap_grow_old w os hj⟩
 rcases Nat.eq_zero_or_pos n with h0 | h0
 ·subst h0;have hS:=Any.sort_Slice_tiny jl 94 96 pairTI pairEI (by kernel_rfl) (by kernel_rfl) (by kernel_rfl) (by kernel_rfl) 25 (fun _=>by kernel_rfl) p 0 c (by omega) 111 (by rw[ZQ 0 (by omega)];kernel_rfl) (.func 72) #[] #[.pointer (some ⟨Bs,0,none⟩)] w;change Calls Tryz.prog 71 _ _ _ at hS
  exact hS.mono fun e w' ⟨he,os,hw⟩=>⟨he,fin w' os hw⟩
 obtain rfl:n=1:=by omega
 have hS:=Any.sort_Slice_tiny jl 94 96 pairTI pairEI (by kernel_rfl) (by kernel_rfl) (by kernel_rfl) (by kernel_rfl) 25 (fun _=>by kernel_rfl) p 1 c (by omega) 112 (by rw[ZQ 1 (by omega)];kernel_rfl) (.func 72) #[] #[.pointer (some ⟨Bs,0,none⟩)] w;change Calls Tryz.prog 71 _ _ _ at hS
 exact hS.mono fun e w' ⟨he,os,hw⟩=>⟨he,fin w' os hw⟩
theorem ae {α:Type}{q l:List α}(h:q.Perm l) (hl:l.length≤1):q=l:=by
 match l,hl,h with
 | [],_,h=>exact h.eq_nil
 | [x],_,h=>exact List.perm_singleton.1 h
theorem dL {H:Snap}{w:World}{base m c:Nat}{A:Option Addr}{l q:List Pr}(hO:OwnX oh 96 w base (.slice A m c) H l) (hm:m=l.length) (ea:l.length<4611686018427387904)
  (hq:q.Perm l) (ha:Asc (·.1) q) (hW:Holds w H) (hap:∀ g,(Value.slice A m c).ownBlock=some g→H g=none) (Bs:Nat) (hs:w.cell? ⟨Bs,0,none⟩=some (.slice A m c)) (Uk:(Value.slice A m c).ownBlock≠some Bs) (hBl:Bs<w.heap.size) :
  Calls Tryz.prog 71 #[.iface 94 (.slice A m c),.func (.func 72) #[] #[.pointer (some ⟨Bs,0,none⟩)]] w fun e w'=>e=.returned (.tuple #[])∧OwnX oh 96 w' base (.slice A m c) H q∧w.grownBy w' (Value.slice A m c).ownBlock:=by
 by_cases h2:2≤l.length
 ·exact dM hO hm h2 ea hq ha hW hap Bs hs Uk hBl
 obtain rfl:=ae hq (by omega)
 exact(ay m (by omega) A c Bs hW).mono fun e w' ⟨he,hb⟩=>⟨he,hO.below hb,wO hb _⟩
end Go.Proofs.YtgcjjhibdbafmabGreatDoor
namespace Go.Proofs.YtgcjjhibdbafmabGreatDoor
open Go.RowKit
theorem pS {H:Snap}(hTab:Tabs H) {A:Option Addr}{c:Nat}{ps:List Itm}(hr:IsRowI H A c ps) (tY:ps.length%2=0) (h4:0≤ps.length) (te:ps.length≤1000) {qs:List Itm}(T0:qs.length=ps.length) (hperm:(pk qs).Perm (pk ps)) (pi:wn qs=true)
  (vH:∀ x∈ps,zL x=true) (hwh:zL (.mk 5 0 [] qs)=true) (w:World) (hH:Holds w H) :
  Calls Tryz.prog 46 #[.slice A ps.length c] w (VI w H qs):=by
 have hT:=Blk.new w 57 xZ;have hb:=zi w zg;have zF:H w.heap.size=none:=hH.none_of_ge (Nat.le_refl _);have b1:((ps.length:Int)%2==1)=false:=by rw[beq_eq_false_iff_ne];omega
 have p1:((ps.length:Int)%2=1)=False:=eq_false (by omega);have HR:=Hh hr;have HC:=Hh (And.intro tY (And.intro h4 te));have HA:=Hh (And.intro pi (And.intro vH hwh));have HQ:=Hh (And.intro T0 hperm);clear tY h4 te pi vH hwh hr T0 hperm;go_enter Tryz.func46,Tryz.ntmps46
 go_wp2_with fail
 go_loopw [18] (fun v18 wr=>∃ j:Nat,j≤ps.length∧v18=.int .i64 j∧Below w.heap.size w wr∧Blk wr w.heap.size 57 xZ) (fun v18 _=>ps.length-(intOf v18).toNat)
 case atStart=>exact⟨0,Nat.zero_le _,rfl,hb,hT⟩
 case round =>
 clear hb hT b1 p1;obtain⟨j,hj,rfl,xP,uY⟩:=hrel
 by_cases ye:j<ps.length
 ·have wF:=hH.below xP (Nat.le_refl _);obtain⟨ib,io,rH,vD⟩:=HR.out.elems (by omega);obtain⟨y1,y2,y3,y4,q0,q1,q2,q3,tA⟩:=vD.get j ye;subst rH;have p0:=wF.cell q0;have p1':=wF.cell q1;have p2:=wF.cell q2;have p3:=wF.cell q3;have Nq:=wF.alloc (zS ps[j] y1 y2 y3 y4);have V:=Hh (uf hTab tA.arg _ Nq);rw[HA.out.2.1 _ (List.getElem_mem ye)]at V;have xJ:=xP.alloc xP.size (zS ps[j] y1 y2 y3 y4);have uv:=uY.alloc (zS ps[j] y1 y2 y3 y4)
  generalize ps[j]'ye=x at *
  clear q0 q1 q2 q3 vD tA xP uY wF Nq;go_wp2_with fail
  refine V.out.mono ?_
  rintro e w3 ⟨rfl,uy⟩
  have xO:=uv.below uy;have yX:=xJ.trans (uy.mono xJ.size);have XD:(j:Int)+1≤9223372036854775807:=by have:=HC.out.2.2;omega
  clear uv xJ uy;go_wp2_with fail
  go_roundw
  case rel=>exact⟨j+1,by omega,by go_num,yX,xO⟩
  case measure=>simp[intOf];omega
 have sZ:j=ps.length:=by omega
 subst sZ;clear ye hj;obtain⟨n,hn⟩:∃ n,ps.length=2*n:=⟨ps.length/2,by have:=HC.out.1;omega⟩
 have hq:((ps.length:Int)/2)=(n:Int):=by omega
 have J6:(ps.length:Int).tdiv 2=(n:Int):=by rw[Int.tdiv_eq_ediv_of_nonneg (by omega)];omega
 have HN:=Hh hn;have bV:n≤500:=by have:=HC.out.2.2;omega
 have hG:=Grows.of_below hH xP;obtain⟨i0,uq,fz,rv,ro⟩:=info_parts j9;clear hn xP;go_wp2_with (at_make;refine yf ?_)
 refine wpList_make_own wr rfl _ _ 94 rfl (w.heap.size+1) 96 i0 _ 9 Tryz.underlying94 uq fz rv .i64 .i64 (n:Int) n rfl rfl rfl (by rw[ro];omega) (by simp only[maxLen];omega) (by have:=uY.lt;omega) fun w4 jv tL=>?_
 have wh:=hG.below_ (zC tL);have hX:=XM.start (bt:=94) (bv:=.slice none 0 0) wh zF (uY.grown tL (by simp)) (show OwnX oh 96 w4 (w.heap.size+1) (.slice (some ⟨wr.heap.size,0,none⟩) 0 n) H [] from⟨[],RowC.nil _ _,jv⟩) (fun g hg=>by simp[Value.ownBlock]at hg;subst hg;exact hG.hidden (Nat.le_refl _));obtain⟨B,hB⟩:∃ B,w4.heap.size=B:=⟨_,rfl⟩
 obtain⟨g0,eu⟩:∃ g0,wr.heap.size=g0:=⟨_,rfl⟩
 rw[hB]at hX;rw[eu]at hX⊢;clear jv tL wh hG uY uq fz rv ro eu;go_wp2_with (with_reducible refine zx ?_)
 unfold yP
 try rw[hB]
 refine zu rfl _ _ _ rfl rfl B 0 (.slice (some ⟨g0,0,none⟩) 0 n) rfl rfl _ _ hX.box lW (by simp) rfl fun w5 sb tR=>?_
 replace hX:=hX.setBox (by simpa using sb) tR;clear sb tR hB hq J6;go_wp2_with fail
 go_loopw [7] (fun v7 wx=>∃ (j:Nat) (Hx:Snap) (VA:Option Addr) (m vc:Nat),j≤ps.length∧j%2=0∧v7=.int .i64 (j:Int)∧m=j/2∧(∃ g':Nat,VA=some ⟨g',0,none⟩)∧XM oh 96 94 57 w H B xZ (.slice VA m vc) (.slice VA m vc) (pk (ps.take j)) wx Hx) (fun v7 _=>ps.length-(intOf v7).toNat)
 case atStart=>exact⟨0,H,some ⟨g0,0,none⟩,0,n,Nat.zero_le _,rfl,rfl,rfl,⟨g0,rfl⟩,by simpa [pk] using hX⟩
 case round =>
 clear hX;obtain⟨j,Hx,VA,m,vc,hj,Zg,rfl,hm,KK,hX⟩:=hrel;have Hp:=Hh KK;clear KK;have HJ:=Hh (And.intro Zg hm);clear Zg hm
 by_cases ye:j<ps.length
 ·have tb:j+1<ps.length:=by have:=HJ.out.1;have:=HC.out.1;omega
  have mG:(j:Int)<ps.length:=by omega
  have eS:(j:Int)+1<ps.length:=by omega
  have XD:(j:Int)+2≤9223372036854775807:=by have:=HC.out.2.2;omega
  have Qf:IntKind.i64.wrap ((j:Int)+1)=(j:Int)+1:=IntWalk.i64_in _ (by omega);have UQ:(0:Int)≤(j:Int)+1:=by omega
  obtain⟨ib,io,rH,vD⟩:=HR.out.elems (by omega);obtain⟨y1,y2,y3,y4,q0,q1,q2,q3,fu⟩:=vD.get j ye;obtain⟨z1,z2,z3,z4,s0,s1,s2,s3,oI⟩:=vD.get (j+1) tb;subst rH;have HV:=Hh (uz (HA.out.2.1 _ (List.getElem_mem ye)))
  have JZ:Hid (pk (ps.take (j+2))=pk (ps.take j)++[(zZ ps[j],ps[j],ps[j+1])]):=by
   obtain⟨i,rfl⟩:∃ i,j=2*i:=⟨j/2,by have:=HJ.out.1;omega⟩
   exact U2 ps i tb
  have Uf:Hid ((pk (ps.take j)).length=m):=by rw[Hid,jr,List.length_take];have:=HJ.out;omega
  have tC:=hX.grows.le;have q0:=tC.cell q0;have q1:=tC.cell q1;have q2:=tC.cell q2;have q3:=tC.cell q3;have s0:=tC.cell s0;have s1:=tC.cell s1;have s2:=tC.cell s2;have s3:=tC.cell s3;have fu:=fu.mono tC;have oI:=oI.mono tC
  generalize ps[j]'ye=y at *
  generalize ps[j+1]'tb=z at *
  generalize pk (ps.take j)=L at hX JZ Uf
  clear vD tC hj;go_upto_region 13 with fail
  replace hX:=hX.drew;have NT:=Hh (And.intro fu oI);clear fu oI
  refine zO 17 (fun wx=>wx.cell? ⟨B,0,none⟩=some (.slice VA m vc)∧wx.cell? ⟨ib,io+j*4,none⟩=some (.int .i64 y.kind)∧wx.cell? ⟨ib,io+j*4+1,none⟩=some (.int .u64 y.n)∧wx.cell? ⟨ib,io+j*4+2,none⟩=some (.slice y1 y.bytes.length y2)∧wx.cell? ⟨ib,io+j*4+3,none⟩=some (.slice y3 y.items.length y4)∧wx.cell? ⟨ib,io+(j+1)*4,none⟩=some (.int .i64 z.kind)∧wx.cell? ⟨ib,io+(j+1)*4+1,none⟩=some (.int .u64 z.n)∧wx.cell? ⟨ib,io+(j+1)*4+2,none⟩=some (.slice z1 z.bytes.length z2)∧wx.cell? ⟨ib,io+(j+1)*4+3,none⟩=some (.slice z3 z.items.length z4)) (by kernel_rfl) (⟨hX.box.cell 0 rfl,hX.grows.holds.cell q0,hX.grows.holds.cell q1,hX.grows.holds.cell q2,hX.grows.holds.cell q3,hX.grows.holds.cell s0,hX.grows.holds.cell s1,hX.grows.holds.cell s2,hX.grows.holds.cell s3⟩) (fun zy=>?_)
  refine Zk 0 rfl zy ?_
  refine Zk 1 rfl zy ?_
  refine Zk 2 rfl zy ?_
  refine Zk 3 rfl zy ?_
  refine Zk 4 rfl zy ?_
  refine Zk 6 rfl zy ?_
  refine Zk 7 rfl zy ?_
  refine Zk 8 rfl zy ?_
  refine Zk 9 rfl zy ?_
  refine Zk 10 rfl zy ?_
  refine Zk 11 rfl zy ?_
  refine Zk 12 rfl zy ?_
  refine Zk 13 rfl zy ?_
  refine Zk 14 rfl zy ?_
  refine Zo 5 rfl fun K hK=>?_
  go_simp
  refine(sk y Hx _ _ _ _ _ _ _ _ _ _ (.slice none 0 0) [] HV.out.1 NT.out.1.arg hX.grows.holds (OwnB.nil _ _) (Nat.le_refl _) (by simp[Value.ownBlock]) (by have:=HV.out.2.2;simp;omega)).mono ?_
  rintro e w5 ⟨r5,rfl,rn,tR,_⟩
  obtain⟨A5,c5,rfl,_⟩:=OwnB.form rn;obtain⟨H5,xM,Uu,_⟩:=Fresh.snapB hX.grows.holds ⟨rn,zC tR⟩;have hX:=hX.grow xM;have q0:=xM.le.cell q0;have q1:=xM.le.cell q1;have q2:=xM.le.cell q2;have q3:=xM.le.cell q3;have s0:=xM.le.cell s0;have s1:=xM.le.cell s1;have s2:=xM.le.cell s2;have s3:=xM.le.cell s3
  refine Ko hK ?_ fun zy=>?_
  ·exact⟨hX.box.cell 0 rfl,hX.grows.holds.cell q0,hX.grows.holds.cell q1,hX.grows.holds.cell q2,hX.grows.holds.cell q3,hX.grows.holds.cell s0,hX.grows.holds.cell s1,hX.grows.holds.cell s2,hX.grows.holds.cell s3⟩
  clear hK K
  refine Zk 15 rfl zy ?_
  refine Zo 16 rfl fun K hK=>?_
  go_simp
  have vk:RowC oh H5 (.slice A5 (zZ y).length c5::(zY y y1 y2 y3 y4++zY z z1 z2 z3 z4)) [(zZ y,y,z)]:=RowC.one ⟨A5,c5,y1,y2,y3,y4,z1,z2,z3,z4,rfl,Uu,NT.out.1.mono xM.le,NT.out.2.mono xM.le⟩;have hZ:=hX.litZ (.slice A5 (zZ y).length c5::(zY y y1 y2 y3 y4++zY z z1 z2 z3 z4)).toArray 96;have hX:=hX.alloc (.cells (.slice A5 (zZ y).length c5::(zY y y1 y2 y3 y4++zY z z1 z2 z3 z4)).toArray 96)
  refine Ko hK ?_ fun zy=>?_
  ·exact⟨hX.box.cell 0 rfl,hX.grows.holds.cell q0,hX.grows.holds.cell q1,hX.grows.holds.cell q2,hX.grows.holds.cell q3,hX.grows.holds.cell s0,hX.grows.holds.cell s1,hX.grows.holds.cell s2,hX.grows.holds.cell s3⟩
  clear hK K
  refine Zo 17 rfl fun K hK=>?_
  rw[if_pos (by rfl)]
  refine OwnX.append_wp2 (L:=oh) _ _ 94 rfl Tryz.underlying94 rfl (by omega) j9 rfl hX.own _ _ _ _ [(zZ y,y,z)] rfl rfl vk hZ (by have:=Uf.out;have:=HJ.out.2;have:=HC.out.2.2;simp;omega) hX.base fun v7 w7 vo hg7 ha7=>?_
  have hX:=hX.app vo hg7 ha7;obtain⟨A7,c7,rfl,_⟩:=vo.form;have Gt:Hid (∃ g':Nat,A7=some ⟨g',0,none⟩):=by obtain⟨g',d',h1,_⟩:=Wa vo (by simp);exact⟨g',h1⟩
  rw[show(L++[(zZ y,y,z)]).length=m+1 by have:=Uf.out;simp;omega]at hX⊢;clear vo hg7 ha7 hZ vk
  refine Kz hK ?_
  clear hK K
  refine Zo 18 rfl fun K hK=>?_
  rw[if_pos (by rfl)]
  refine xF _ _ _ rfl B 0 (.slice A7 (m+1) c7) rfl rfl _ _ hX.box lW (by simp) rfl fun w8 hB8 hg8=>?_
  have hX:=hX.setBox (by simpa using hB8) hg8;clear hB8 hg8
  refine Kz hK ?_
  clear hK K
  refine WaysZ.done (by kernel_rfl) ?_
  clear zy q0 q1 q2 q3 s0 s1 s2 s3 xM Uu;go_wp2_with fail
  go_roundw
  case rel=>exact⟨j+2,H5,A7,m+1,c7,by omega,by have:=HJ.out.1;omega,by go_num,by have:=HJ.out;omega,Gt.out,by rw[JZ.out];exact hX⟩
  case measure=>simp[intOf];omega
 have sZ:j=ps.length:=by omega
 subst sZ;clear ye hj;rw[List.take_length]at hX;have na:(pk ps).length=n:=by rw[jr,HN.out];omega
 obtain rfl:m=n:=by have:=HJ.out.2;have:=HN.out;omega
 have Ku:(pk qs).length=m:=by rw[HQ.out.2.length_eq,na]
 have T8:Asc (·.1) (pk qs):=R5 HA.out.1;have SRT:=dL (q:=pk qs) hX.own na.symm (by omega) HQ.out.2 T8 hX.grows.holds hX.apart B (hX.box.cell 0 rfl) hX.far hX.box.lt;have SRTH:=Hh SRT;obtain⟨g,In⟩:=Hp.out;subst In;have c0:=hX.box.cell 0 rfl;have Uf:=Hh Ku;clear SRT T8 Ku na;go_wp2_with fail
 refine SRTH.out.mono ?_
 rintro e w9 ⟨rfl,nS,nU⟩
 replace hX:=hX.perm nS nU;obtain⟨H9,rJ,Li,Lo,Oa,KD,bg⟩:=hX.snap;clear Lo;have SE:=hX.box;have rp:=hX.key;have PS:=hX.lt;clear hX nS nU SRTH c0 Li;have P0:=SE.lt;have hM:=(Blk.new w9 57 xZ)
 have Ns:H9 w9.heap.size=none:=rJ.holds.none_of_ge (Nat.le_refl _);obtain⟨M,Nr⟩:∃ M,w9.heap.size=M:=⟨_,rfl⟩
 have HM:=Hh (And.intro rJ.size (And.intro P0 Nr));rw[Nr]at hM Ns;go_wp2_with (with_reducible refine zx ?_)
 unfold yP
 try rw[Nr]
 refine zp rfl _ _ _ rfl rfl M _ rfl rfl _ _ hM zv rfl (sX _ _ _ _ rfl rfl rfl rfl) fun w11 hM11 hg11=>?_
 have hS:BM w H B M #[.slice (some ⟨g,0,none⟩) m vc] (.slice none 0 0) (.slice none 0 0) [] w11 H9 :=
  ⟨(rJ.alloc zg).grownOwn Ns (by have:=HM.out;omega) hg11,KD,bg,Ns,PS,by have:=rp.lt;have:=HM.out;omega,by have:=HM.out;omega,(rp.alloc zg).grown hg11 (fun e=>by injection e with e;have:=rp.lt;have:=HM.out;omega),
   (SE.alloc zg).grown hg11 (fun e=>by injection e with e;have:=HM.out;omega),hM11,OwnI.nil _ _ _,fun g hg=>by simp[Value.ownBlock]at hg⟩
 have c0:=hS.boxB.cell 0 rfl;clear hM Ns Nr hg11 hM11 SE rp PS P0 rJ KD bg;go_wp2_with fail
 go_loopw [62] (fun v62 wx=>∃ (i:Nat) (Hx:Snap) (VA:Option Addr) (vm v9:Nat),i≤m∧v62=.int .i64 (i:Int)∧vm=2*i∧H9.le Hx∧BM w H B M #[.slice (some ⟨g,0,none⟩) m vc] (.slice VA vm v9) (.slice VA vm v9) (qs.take (2*i)) wx Hx) (fun v62 _=>m-(intOf v62).toNat)
 case atStart=>exact⟨0,H9,none,0,0,Nat.zero_le _,rfl,rfl,Snap.le.refl _,by simpa using hS⟩
 case round =>
 clear hS c0;obtain⟨i,Hx,VA,vm,v9,Kl,rfl,L5,tC,hS⟩:=hrel;have HI:=Hh (And.intro Kl L5);clear Kl L5
 by_cases ye:i<m
 ·have qn:2*i+1<qs.length:=by have:=HN.out;have:=HQ.out.1;omega
  have mG:(i:Int)<m:=by omega
  have Lb:(i:Int)+1≤9223372036854775807:=by have:=HC.out.2.2;have:=HN.out;omega
  have My:=mE qs i qn;have bp:i<(pk qs).length:=by have:=Uf.out;omega
  rw[List.getElem?_eq_getElem bp]at My;have PP:=Option.some.inj My
  have cI:Hid (qs.take (2*(i+1))=qs.take (2*i)++[qs[2*i]'(by omega),qs[2*i+1]]):=by
   rw[Hid,show 2*(i+1)=2*i+1+1 by omega,List.take_succ_eq_append_getElem qn,List.take_succ_eq_append_getElem (by omega),List.append_assoc];rfl
  have ff:Hid (∀ k,k+1=i→∀ hk:k<(pk qs).length,Lib.compareBytes ((pk qs)[k].1) (zZ (qs[2*i]'(Nat.lt_of_succ_lt qn)))<0):=fun k hk sZ=>by
   subst hk;have e1:=mE qs k (by omega);rw[List.getElem?_eq_getElem sZ]at e1;rw[Option.some.inj e1]
   exact WG (m:=2*k) HA.out.1 (by omega) (by omega)
  obtain⟨gb,go,Ip,Wo⟩:=Oa.at_ (by omega)
  cases Ip
  obtain⟨dc,⟨KA,kc,y1,y2,y3,y4,z1,z2,z3,z4,Ik,Xi,fu,oI⟩,xw⟩:=Wo i bp;subst Ik;rw[PP]at Xi fu oI xw;have LH:=Hh Wo;have r0:=tC.cell (xw 0 _ rfl);have r1:=tC.cell (xw 1 _ rfl);have r2:=tC.cell (xw 2 _ rfl);have r3:=tC.cell (xw 3 _ rfl);have r4:=tC.cell (xw 4 _ rfl);have r5:=tC.cell (xw 5 _ rfl);have r6:=tC.cell (xw 6 _ rfl);have r7:=tC.cell (xw 7 _ rfl);have r8:=tC.cell (xw 8 _ rfl);have Xi:=Xi.mono tC;have fu:=fu.mono tC;have oI:=oI.mono tC
  generalize qs[2*i]'(by omega)=y at *
  generalize qs[2*i+1]'qn=z at *
  generalize tc:qs.take (2*i)=LL at hS cI
  have bZ:Hid (LL.length=vm):=by rw[Hid,← tc,List.length_take];have:=HI.out;omega
  have Pk:=Hh (And.intro Xi (And.intro fu oI));clear My PP xw Wo Xi fu oI tc;have r0:=hS.grows.holds.cell r0;have r1:=hS.grows.holds.cell r1;have r2:=hS.grows.holds.cell r2;have r3:=hS.grows.holds.cell r3;have r4:=hS.grows.holds.cell r4;have r5:=hS.grows.holds.cell r5;have r6:=hS.grows.holds.cell r6;have r7:=hS.grows.holds.cell r7;have r8:=hS.grows.holds.cell r8
  simp only[oh,Nat.add_zero,Nat.zero_add,← Nat.add_assoc]at r0 r1 r2 r3 r4 r5 r6 r7 r8
  go_upto_region 19 with fail
  have hD:=Blk.new wr 96 #[.slice KA (zZ y).length kc,.int .i64 y.kind,.int .u64 y.n,.slice y1 y.bytes.length y2,.slice y3 y.items.length y4,.int .i64 z.kind,.int .u64 z.n,.slice z1 z.bytes.length z2,.slice z3 z.items.length z4];replace hS:=hS.alloc (.cells #[.slice KA (zZ y).length kc,.int .i64 y.kind,.int .u64 y.n,.slice y1 y.bytes.length y2,.slice y3 y.items.length y4,.int .i64 z.kind,.int .u64 z.n,.slice z1 z.bytes.length z2,.slice z3 z.items.length z4] 96);obtain⟨P,XU⟩:∃ P,wr.heap.size=P:=⟨_,rfl⟩
  obtain⟨w2,mN⟩:∃ w2,wr.alloc (.cells #[.slice KA (zZ y).length kc,.int .i64 y.kind,.int .u64 y.n,.slice y1 y.bytes.length y2,.slice y3 y.items.length y4,.int .i64 z.kind,.int .u64 z.n,.slice z1 z.bytes.length z2,.slice z3 z.items.length z4] 96)=w2:=⟨_,rfl⟩
  rw[mN]at hS hD⊢;rw[XU]at hD⊢;clear mN XU r0 r1 r2 r3 r4 r5 r6 r7 r8;go_cut [79] (fun s79 wx=>s79=.bool false∧BM w H B M #[.slice (some ⟨g,0,none⟩) m vc] (.slice VA vm v9) (.slice VA vm v9) LL wx Hx∧Blk wx P 96 #[.slice KA (zZ y).length kc,.int .i64 y.kind,.int .u64 y.n,.slice y1 y.bytes.length y2,.slice y3 y.items.length y4,.int .i64 z.kind,.int .u64 z.n,.slice z1 z.bytes.length z2,.slice z3 z.items.length z4])
  case first =>
   by_cases h0:i=0
   ·subst h0
    refine zr 12 (fun _=>True) (by kernel_rfl) (trivial) (fun zy=>?_)
    refine Tk 0 rfl zy ?_
    refine Tk 1 rfl zy ?_
    refine Tk 2 rfl zy ?_
    refine TkU 3 rfl zy ?_
    refine TkU 4 rfl zy ?_
    refine TkU 5 rfl zy ?_
    refine TkU 6 rfl zy ?_
    refine TkU 7 rfl zy ?_
    refine TkU 8 rfl zy ?_
    refine TkU 9 rfl zy ?_
    refine TkU 10 rfl zy ?_
    refine TkU 11 rfl zy ?_
    refine To 12 rfl fun K hK=>?_
    go_simp
    refine Kz hK ?_
    clear hK K
    refine Wd ?_
    go_wp2_with fail
    go_meet
    exact⟨rfl,hS.drew,hD.drew⟩
   obtain⟨k,rfl⟩:∃ k,i=k+1:=⟨i-1,by omega⟩
   obtain⟨dk,⟨KB,kd,u1,u2,u3,u4,u5,u6,u7,u8,O0,O7,_,_⟩,xw⟩:=LH.out k (by have:=Uf.out;omega);subst O0
   have xH:Hid (((pk qs)[k]'(by have:=Uf.out;omega)).1≠zZ y):=fun e=>by
    have h1:=ff.out k rfl (by have:=Uf.out;omega);rw[e,uh]at h1
    omega
   have rk:=xw 0 _ rfl
   generalize ((pk qs)[k]'(by have:=Uf.out;omega)).1=kb at *
   have rk:=hS.grows.holds.cell (tC.cell rk)
   simp only[oh,Nat.add_zero,Nat.zero_add]at rk
   have IK:Hid ((kb==zZ y)=false):=by rw[Hid,beq_eq_false_iff_ne];exact xH.out
   have e2:((k+1:Nat):Int)=(k:Int)+1:=by omega
   try rw[e2]
   have oq:IntKind.i64.wrap ((k:Int)+1-1)=(k:Int):=by rw[show(k:Int)+1-1=(k:Int) by omega];exact IntWalk.i64_in _ (by omega)
   have GN:IntKind.i64.wrap (k:Int)=(k:Int):=IntWalk.i64_in _ (by omega);have N3:(k:Int)<m:=by omega
   have tB:(0:Int)≤(k:Int):=by omega
   have GF:(0:Int)<(k:Int)+1:=by omega
   have O8:k<m:=by omega
   have IX:=Hh (O7.mono tC);have c0:=hS.boxB.cell 0 rfl;have d0:=hD.cell 0 rfl;replace hS:=hS.drew;replace hD:=hD.drew;clear xw O7 xH e2 mG Lb h0
   refine zr 12 (fun wx=>wx.cell? ⟨B,0,none⟩=some (.slice (some ⟨g,0,none⟩) m vc)∧wx.cell? ⟨g,k*9,none⟩=some (.slice KB kb.length kd)∧wx.cell? ⟨P,0,none⟩=some (.slice KA (zZ y).length kc)) (by kernel_rfl) (⟨c0,rk,d0⟩) (fun zy=>?_)
   refine Tk 0 rfl zy ?_
   refine Tk 1 rfl zy ?_
   refine Tk 2 rfl zy ?_
   refine TkG 3 rfl zy ?_
   refine TkG 4 rfl zy ?_
   refine TkG 5 rfl zy ?_
   refine TkG 6 rfl zy ?_
   refine TkG 7 rfl zy ?_
   refine TkG 8 rfl zy ?_
   refine TkG 9 rfl zy ?_
   refine TkG 10 rfl zy ?_
   refine To 11 rfl fun K hK=>?_
   go_simp
   refine(lD _ KB KA kb (zZ y) _ _ kd kc rfl rfl (Src.of_row IX.out.row hS.grows.holds) (Src.of_row Pk.out.1.row hS.grows.holds)).mono ?_
   rintro e w5 ⟨rfl,rfl⟩
   rw[IK.out]
   refine Ko hK ?_ fun zy=>?_
   ·exact⟨c0,rk,d0⟩
   clear hK K
   refine To 12 rfl fun K hK=>?_
   go_simp
   refine Kz hK ?_
   clear hK K
   refine Wd ?_
   clear zy c0 rk d0;go_wp2_with fail
   go_meet
   exact⟨rfl,hS,hD⟩
  case rest =>
  clear hS hD;obtain⟨rfl,hS,hD⟩:=hcut;have m3:=hS.boxM.cell 3 rfl;have d1:=hD.cell 1 rfl;have d2:=hD.cell 2 rfl;have d3:=hD.cell 3 rfl;have d4:=hD.cell 4 rfl;have d5:=hD.cell 5 rfl;have d6:=hD.cell 6 rfl;have d7:=hD.cell 7 rfl;have d8:=hD.cell 8 rfl;have HS:=Hh hS;clear hS hD;go_wp2_with (at_builtin;refine yf ?_)
  unfold yP
  have hZ:=HS.out.litZ (zY y y1 y2 y3 y4++zY z z1 z2 z3 z4).toArray 57;have hS:=HS.out.alloc (.cells (zY y y1 y2 y3 y4++zY z z1 z2 z3 z4).toArray 57)
  refine xy rfl _ _ rfl _ _ _ _ rfl hS.own _ _ _ _ [y,z] rfl rfl ((ItemsC.one Pk.out.2.1).app (ItemsC.one Pk.out.2.2)) hZ (by have:=bZ.out;have:=HI.out;have:=HC.out.2.2;have:=HN.out;simp;omega) hS.base fun v7 w7 vo hg7 ha7=>?_
  replace hS:=hS.app vo hg7 ha7;obtain⟨A7,c7,rfl,_⟩:=vo.form;rw[show(LL++[y,z]).length=vm+2 by have:=bZ.out;simp;omega]at hS⊢;clear vo hg7 ha7 hZ HS m3 d1 d2 d3 d4 d5 d6 d7 d8;go_wp2_with (with_reducible refine zx ?_)
  refine zu rfl _ _ _ rfl rfl M 3 (.slice A7 (vm+2) c7) rfl rfl _ _ hS.boxM xB (by simp) rfl fun w8 hB8 hg8=>?_
  replace hS:=hS.setM (by simpa using hB8) hg8;clear hB8 hg8;go_wp2_with fail
  go_roundw
  case rel=>exact⟨i+1,Hx,A7,vm+2,c7,by omega,by go_num,by have:=HI.out;omega,tC,by rw[cI.out];exact hS⟩
  case measure=>simp[intOf];omega
 have sZ:i=m:=by have:=HI.out.1;omega
 subst sZ;clear ye;rw[show 2*i=qs.length from by have:=HN.out;have:=HQ.out.1;omega,List.take_length]at hS;obtain⟨SU,fg,Lm,XY,bV⟩:=hS.item;have m0:=hS.boxM.cell 0 rfl;have m1:=hS.boxM.cell 1 rfl;have m2:=hS.boxM.cell 2 rfl;have m3:=hS.boxM.cell 3 rfl;have rp:=hS.key;subst Lm;have Pk:=Hh XY;have HV:=Hh (uf (hTab.mono fg.le) (x:=.mk 5 0 [] qs) XY.arg _ fg.holds);rw[HA.out.2.2]at HV;have Hk:=Hh (wV HA.out.2.2);clear hS XY;go_wp2_with fail
 refine HV.out.mono ?_
 rintro e w13 ⟨rfl,kB⟩
 have Wt:=fg.below_ kB;have m0:=(m0b kB m0)
 have m1:=(m0b kB m1)
 have m2:=(m0b kB m2)
 have m3:=(m0b kB m3)
 replace rp:=rp.below kB;have CP:=Hh (lE (.mk 5 0 [] qs) SU _ _ _ _ _ _ _ _ w13 Hk.out Pk.out.arg Wt.holds);clear HV kB fg;go_wp2_with fail
 refine CP.out.mono ?_
 rintro e w14 ⟨v14,rfl,xa,xb,xc,xd,Lv,rfl,iD,Yg⟩
 have P5:=Wt.trans iD;have Lq:=iD.none bV rp.lt;replace rp:=rp.below iD.below;clear CP Wt iD;go_wp2_with (with_reducible refine zx ?_)
 refine stI rp fun w16 bM hg16=>?_
 have LJ:=P5.grownOwn Lq (Nat.le_refl _) hg16;clear P5 hg16 rp;go_wp2_with fail
 refine zw rfl rfl bM rfl rfl zv rfl ?_
 exact⟨_,rfl,xa,xb,xc,xd,Lv,rfl,LJ,Yg⟩
structure KAd where
 ia:Option Addr
 ic:Nat
 xa:Option Addr
 xc:Nat
 da:Option Addr
 dc:Nat
 ka:Option Addr
 kc:Nat
abbrev vV (q:Ky) (a:KAd):Array Value:=un q.kty q.crv q.alg a.ia q.kid.length a.ic a.xa q.x.length a.xc a.da q.d.length a.dc a.ka q.k.length a.kc
structure KeyA (H:Snap) (q:Ky) (a:KAd):Prop where
 kty : -9223372036854775808≤q.kty∧q.kty≤9223372036854775807
 crv : -9223372036854775808≤q.crv∧q.crv≤9223372036854775807
 alg : -9223372036854775808≤q.alg∧q.alg≤9223372036854775807
 kid:IsBytes H a.ia a.ic q.kid
 x:IsBytes H a.xa a.xc q.x
 d:IsBytes H a.da a.dc q.d
 k:IsBytes H a.ka a.kc q.k
theorem KeyA.mono {H K:Snap}{q:Ky}{a:KAd}(h:KeyA H q a) (hl:H.le K):KeyA K q a:=⟨h.kty,h.crv,h.alg,h.kid.mono hl,h.x.mono hl,h.d.mono hl,h.k.mono hl⟩
theorem KeyA.len {H:Snap}{q:Ky}{a:KAd}(h:KeyA H q a):q.x.length≤9223372036854775807∧q.d.length≤9223372036854775807:=⟨Nat.le_trans h.x.le h.x.max,Nat.le_trans h.d.le h.d.max⟩
theorem gh (q:Ky):zm q.kty q.crv q.alg q.kid.length q.x.length q.d.length q.k.length=xp q:=rfl
theorem gY (q:Ky):rO q.kty q.crv q.alg q.kid q.x q.d q.k=yH q:=rfl
def uE (q:Ky):Int:=if xp q=true then 0 else 1
def rR (q:Ky):Itm:=if xp q=true then vj q else zG
def T6 (w:World) (H:Snap) (q:Ky) (e:Ending) (w':World):Prop:=∃ v,e=.returned (.tuple #[v,.int .i64 (uE q)])∧Gives w H (rR q) v w'
theorem o4 {q:Ky}(h:xp q=true):q.kid.length≤64∧q.x.length≤64∧q.d.length≤64∧q.k.length≤64:=by
 have:=(tF q).1 h
 omega
theorem eJ {q:Ky}(h:xp q=true) (h4:q.kty=4):0<q.k.length:=by
 have:=(tF q).1 h
 omega
theorem T5 {q:Ky}(h:xp q=true):4≤(yH q).length:=by
 have h1:=(tF q).1 h
 by_cases h4:q.kty=4
 ·have hk:0<q.k.length:=eJ h h4
  simp only[yH,if_pos h4]
  rw[show rS (-1) q.k=[zt (-1),pm q.k] from if_pos hk]
  simp only[List.length_append,List.length_cons,List.length_nil]
  omega
 simp only[yH,if_neg h4]
 simp only[List.length_append,List.length_cons,List.length_nil]
 omega
theorem IsRowI.of {H:Snap}{A:Option Addr}{c:Nat}{l:List Itm}(h:l.length≤c∧c≤9223372036854775807∧(0<l.length→∃ b off,A=some ⟨b,off,none⟩∧IsElems H b off l)):IsRowI H A c l:=⟨h.1,h.2.1,h.2.2⟩
theorem jA {H:Snap}(hTab:Tabs H) {q:Ky}{a:KAd}(hq:KeyA H q a) (w:World) (hH:Holds w H) :
  Calls Tryz.prog 45 #[.agg (vV q a)] w (T6 w H q):=by
 have ws:=(Blk.new w 24 (vV q a)).alloc (.cells xZ 57);have hT:=Blk.new (w.alloc (.cells (vV q a) 24)) 57 xZ;rw[zX]at hT;have pO:H (w.heap.size+1)=none:=hH.none_of_ge (by omega);have xE:=((Grows.refl hH).alloc (.cells (vV q a) 24)).alloc (.cells xZ 57);have V:=Hh (fun W=>jB q.kty q.crv q.alg a.ia q.kid.length a.ic a.xa q.x.length a.xc a.da q.d.length a.dc a.ka q.k.length a.kc W hq.len.1 hq.len.2);have HQ:=Hh hq;have c0:=ws.cell 0 rfl;have c1:=ws.cell 1 rfl;have c2:=ws.cell 2 rfl;have c3:=ws.cell 3 rfl;have c4:=ws.cell 4 rfl;have c5:=ws.cell 5 rfl;have c6:=ws.cell 6 rfl;clear hq hH;go_enter Tryz.func45,Tryz.ntmps45
 go_wp2_with fail
 refine(V.out _).mono ?_
 rintro e w3 ⟨rfl,uy⟩
 rw[gh];replace hT:=hT.below uy;replace ws:=ws.below uy;have yQ:=xE.below_ uy;clear xE uy V c0 c1 c2 c3 c4 c5 c6;have c0:=ws.cell 0 rfl;have c1:=ws.cell 1 rfl;have c2:=ws.cell 2 rfl;have c3:=ws.cell 3 rfl;have c4:=ws.cell 4 rfl;have c5:=ws.cell 5 rfl;have c6:=ws.cell 6 rfl;clear ws
 cases hv:xp q with
 | false =>
  have E:Hid (uE q=1∧rR q=zG):=⟨by rw[uE,if_neg (by rw[hv];simp)],by rw[rR,if_neg (by rw[hv];simp)]⟩
  clear hv;go_wp2_with (with_reducible refine zx ?_)
  refine stI hT fun w9 uM nU=>?_
  have rJ:=yQ.grownOwn pO (by omega) nU;go_wp2_with fail
  refine zw rfl rfl uM rfl rfl zv rfl ?_
  exact⟨_,by rw[E.out.1];rfl,by rw[E.out.2];exact⟨none,0,none,0,H,rfl,rJ,IsItem.plain H 0 0 (by omega) (by omega)⟩⟩
 | true =>
 have E:Hid (uE q=0∧rR q=.mk 5 0 [] (yH q)):=⟨by rw[uE,if_pos hv],by rw[rR,if_pos hv];rfl⟩
 have HV:=Hh hv;clear hv;go_wp2_with fail
 refine(YC q.kty q.crv q.alg HQ.out.kty HQ.out.crv HQ.out.alg HQ.out.kid HQ.out.x HQ.out.d HQ.out.k (o4 HV.out) _ yQ.holds).mono ?_
 rintro e w4 ⟨v4,rfl,A4,c9,H4,rfl,wh,ew⟩
 rw[gY]at ew⊢;have xM:=yQ.trans wh;have S0:=wh.none pO hT.lt;replace hT:=hT.below wh.below;have MH:=Hh (IsRowI.of ew);have HB:=Hh (pS (hTab.mono xM.le) MH.out (rX q) (Nat.zero_le _) (by have:=(qV q).2;omega) (qs:=yH q) rfl (List.Perm.refl _) (qN q) (oS HV.out) (vS HV.out) w4 xM.holds);clear wh ew yQ c0 c1 c2 c3 c4 c5 c6;go_wp2_with fail
 refine HB.out.mono ?_
 rintro e w6 ⟨v6,rfl,xa,xb,xc,xd,H6,rfl,zP,XS⟩
 have wu:=xM.trans zP;have X3:=zP.none S0 hT.lt;replace hT:=hT.below zP.below;clear zP xM HB;go_wp2_with (with_reducible refine zx ?_)
 refine stI hT fun w9 uM nU=>?_
 have rJ:=wu.grownOwn X3 (by omega) nU;go_wp2_with fail
 refine zw rfl rfl uM rfl rfl zv rfl ?_
 exact⟨_,by rw[E.out.1];rfl,by rw[E.out.2];exact⟨xa,xb,xc,xd,H6,rfl,rJ,XS⟩⟩
theorem ma {H:Snap}(hTab:Tabs H) {q:Ky}{a:KAd}(hq:KeyA H q a) (w:World) (hH:Holds w H) :
  Calls Tryz.prog 41 #[.agg (vV q a)] w (T6 w H q):=by
 have ws:=(Blk.new w 24 (vV q a)).alloc (.cells xZ 57);have hT:=Blk.new (w.alloc (.cells (vV q a) 24)) 57 xZ;rw[zX]at hT;have pO:H (w.heap.size+1)=none:=hH.none_of_ge (by omega);have xE:=((Grows.refl hH).alloc (.cells (vV q a) 24)).alloc (.cells xZ 57);have V:=Hh (fun W=>jN q.kty q.crv q.alg a.ia q.kid.length a.ic a.xa q.x.length a.xc a.da q.d.length a.dc a.ka q.k.length a.kc W hq.len.1 hq.len.2);have HQ:=Hh hq;have c0:=ws.cell 0 rfl;have c1:=ws.cell 1 rfl;have c2:=ws.cell 2 rfl;have c3:=ws.cell 3 rfl;have c4:=ws.cell 4 rfl;have c5:=ws.cell 5 rfl;have c6:=ws.cell 6 rfl;clear hq hH;go_enter Tryz.func41,Tryz.ntmps41
 go_wp2_with fail
 refine(V.out _).mono ?_
 rintro e w3 ⟨rfl,uy⟩
 rw[gh];replace hT:=hT.below uy;replace ws:=ws.below uy;have yQ:=xE.below_ uy;clear xE uy V c0 c1 c2 c3 c4 c5 c6;have c0:=ws.cell 0 rfl;have c1:=ws.cell 1 rfl;have c2:=ws.cell 2 rfl;have c3:=ws.cell 3 rfl;have c4:=ws.cell 4 rfl;have c5:=ws.cell 5 rfl;have c6:=ws.cell 6 rfl;clear ws
 cases hv:xp q with
 | false =>
  have E:Hid (uE q=1∧rR q=zG):=⟨by rw[uE,if_neg (by rw[hv];simp)],by rw[rR,if_neg (by rw[hv];simp)]⟩
  clear hv;go_wp2_with (with_reducible refine zx ?_)
  refine stI hT fun w9 uM nU=>?_
  have rJ:=yQ.grownOwn pO (by omega) nU;go_wp2_with fail
  refine zw rfl rfl uM rfl rfl zv rfl ?_
  exact⟨_,by rw[E.out.1];rfl,by rw[E.out.2];exact⟨none,0,none,0,H,rfl,rJ,IsItem.plain H 0 0 (by omega) (by omega)⟩⟩
 | true =>
 have E:Hid (uE q=0∧rR q=.mk 5 0 [] (yH q)):=⟨by rw[uE,if_pos hv],by rw[rR,if_pos hv];rfl⟩
 have HV:=Hh hv;clear hv;go_wp2_with fail
 refine(dF q.kty q.crv q.alg HQ.out.kty HQ.out.crv HQ.out.alg HQ.out.kid HQ.out.x HQ.out.d HQ.out.k (o4 HV.out) (eJ HV.out) _ yQ.holds).mono ?_
 rintro e w4 ⟨v4,rfl,A4,c9,H4,rfl,wh,ew⟩
 rw[gY]at ew⊢;have xM:=yQ.trans wh;have S0:=wh.none pO hT.lt;replace hT:=hT.below wh.below;have MH:=Hh (IsRowI.of ew);have HB:=Hh (jM (hTab.mono xM.le) MH.out (by have:=(qV q).2;omega) w4 xM.holds);clear wh ew yQ c0 c1 c2 c3 c4 c5 c6;go_wp2_with fail
 refine HB.out.mono ?_
 rintro e w6 ⟨v6,h6⟩
 have IA:∃ xa xb xc xd H6,e=.returned (.tuple #[xj (.mk 5 0 [] (yH q)) xa xb xc xd,.int .i64 0])∧Grows w4 H4 w6 H6∧IsItem H6 xa xb xc xd (.mk 5 0 [] (yH q)):=by
  rcases h6 with ⟨l,rfl,⟨xa,xb,xc,xd,H6,rfl,zP,XS⟩,_,_,hl⟩ | ⟨_,_,_,_,l9⟩
  ·obtain rfl:=hl (WI HV.out).2.1
   exact⟨xa,xb,xc,xd,H6,rfl,zP,XS⟩
  exact absurd (WI HV.out) l9
 clear h6;obtain⟨xa,xb,xc,xd,H6,rfl,zP,XS⟩:=IA;have wu:=xM.trans zP;have X3:=zP.none S0 hT.lt;replace hT:=hT.below zP.below;clear zP xM HB;go_wp2_with (with_reducible refine zx ?_)
 refine stI hT fun w9 uM nU=>?_
 have rJ:=wu.grownOwn X3 (by omega) nU;go_wp2_with fail
 refine zw rfl rfl uM rfl rfl zv rfl ?_
 exact⟨_,by rw[E.out.1];rfl,by rw[E.out.2];exact⟨xa,xb,xc,xd,H6,rfl,rJ,XS⟩⟩
theorem am {H:Snap}{q:Ky}{a b:KAd}(ha:KeyA H q a) (hb:KeyA H q b) (w:World) (hH:Holds w H) :
  Calls Tryz.prog 36 #[.agg (vV q a),.agg (vV q b)] w fun e w'=>e=.returned (.bool true)∧Below w.heap.size w w':=by
 have hX:=(Blk.new w 24 (vV q a)).alloc (.cells (vV q b) 24);have hY:=Blk.new (w.alloc (.cells (vV q a) 24)) 24 (vV q b);rw[zX]at hY;have l8:=(zi w (.cells (vV q a) 24)).alloc (zi w (.cells (vV q a) 24)).size (.cells (vV q b) 24);have hh:=(hH.alloc (.cells (vV q a) 24)).alloc (.cells (vV q b) 24);have x0:=hX.cell 0 rfl;have x1:=hX.cell 1 rfl;have x2:=hX.cell 2 rfl;have x3:=hX.cell 3 rfl;have x4:=hX.cell 4 rfl;have x5:=hX.cell 5 rfl;have x6:=hX.cell 6 rfl;have y0:=hY.cell 0 rfl;have y1:=hY.cell 1 rfl;have y2:=hY.cell 2 rfl;have y3:=hY.cell 3 rfl;have y4:=hY.cell 4 rfl;have y5:=hY.cell 5 rfl;have y6:=hY.cell 6 rfl;have k1:=xe (Src.of_row ha.kid.row hh) _ a.ic rfl;have k2:=xe (Src.of_row hb.kid.row hh) _ b.ic rfl;have k3:=xe (Src.of_row ha.x.row hh) _ a.xc rfl;have k4:=xe (Src.of_row hb.x.row hh) _ b.xc rfl
 have k5:=xe (Src.of_row ha.d.row hh) _ a.dc rfl;have k6:=xe (Src.of_row hb.d.row hh) _ b.dc rfl;have k7:=xe (Src.of_row ha.k.row hh) _ a.kc rfl;have k8:=xe (Src.of_row hb.k.row hh) _ b.kc rfl;clear hX hY ha hb hh hH;go_enter Tryz.func36,Tryz.ntmps36
 go_wp2_with fail
 go_ret
 exact⟨rfl,l8⟩
end Go.Proofs.YtgcjjhibdbafmabGreatDoor
namespace Go.Proofs.YtgcjjhibdbafmabGreatDoor
abbrev f64:=FloatKind.f64.format
end Go.Proofs.YtgcjjhibdbafmabGreatDoor
namespace Go.Proofs.YtgcjjhibdbafmabGreatDoor
open Go.RowKit
structure S8 where
 a:Int
 b:Int
 c:Int
 d:Int
 e:Int
 f:Int
 g:Int
 h:Int
theorem ZJ (n:Int) (w:World) :
  Calls Tryz.prog 22 #[.int .i64 n] w fun e w'=>∃ A c l,e=.returned (.slice A 32 c)∧l.length=32∧Fresh w l (.slice A 32 c) w':=by
 have wU:=Below.refl w.heap.size w;go_enter Tryz.func22,Tryz.ntmps22
 go_wp2_with fail
 go_loopw [3,5] (fun v3 v5 wr=>∃ (k:Nat) (VA:Option Addr) (vc vn:Nat) (l:List UInt8),k≤32∧v5=.int .i64 (k:Int)∧v3=.slice VA vn vc∧vn=k∧l.length=k∧OwnB wr w.heap.size (.slice VA vn vc) l∧Below w.heap.size w wr) (fun _ v5 _=>32-(intOf v5).toNat)
 case atStart=>exact⟨0,none,0,0,[],by omega,rfl,rfl,rfl,rfl,OwnB.nil _ _,wU⟩
 case round =>
 clear wU;obtain⟨k,VA,vc,vn,l,hk,rfl,rfl,em,qC,vW,xP⟩:=hrel;have HK:=Hh hk;have HV:=Hh (And.intro em qC);clear hk em qC
 by_cases ye:k<32
 ·have ej:(k:Int)<32:=by omega
  have pP:decide ((k:Int)<32)=true:=decide_eq_true ej;have Xa:decide (k<32)=true:=decide_eq_true ye;have lj:=Hh ye;go_wp2_with (at_builtin;refine yf ?_)
  unfold yP
  obtain⟨x,hx⟩:∃ x:UInt8,Value.int .u8 (bits BinOp.xor IntKind.u8 (IntKind.u64.wrap n/2 ^ (8*(k%8))%256) (37*((k:Int)/8)))=zI x:=gB _
  generalize bits BinOp.xor IntKind.u8 (IntKind.u64.wrap n/2 ^ (8*(k%8))%256) (37*((k:Int)/8))=v at hx⊢
  have HC:Hid ((#[.int .u8 v]:Array Value).toList=[x].map zI):=by simp[Hid,← hx]
  have nR:=vW.alloc (.cells #[.int .u8 v] 5);have xJ:=xP.alloc xP.size (.cells #[.int .u8 v] 5)
  refine zR rfl (.tmp 8) (.tmp 22) rfl w.heap.size (.slice VA vn vc) l rfl nR _ 1 _ [x] rfl rfl (Src.new _ _ _ _ rfl _ HC.out) (by have:=HV.out;have:=HK.out;simp;omega) xJ.size fun v' w7 vo hg7 hat7=>?_
  have vJ:=xJ.grown hg7 xJ.size (fun q hq=>(nR.lt q hq).1);obtain⟨VA',vc',rfl,nH⟩:=vo.form;clear nH hg7 hat7 hx nR xJ vW xP;obtain⟨m,hm⟩:∃ m,l++[x]=m:=⟨_,rfl⟩
  have HM:Hid (m.length=k+1):=by have:=HV.out;rw[Hid,← hm,List.length_append];simp;omega
  rw[hm]at vo⊢;clear hm;go_wp2_with fail
  go_roundw
  case rel=>exact⟨k+1,VA',vc',_,m,by have:=lj.out;omega,by go_num,rfl,HM.out,HM.out,vo,vJ⟩
  case measure=>have:=lj.out;simp[intOf];omega
 have ej:¬ ((k:Int)<32):=by omega
 have pP:decide ((k:Int)<32)=false:=decide_eq_false ej;have Xa:decide (k<32)=false:=decide_eq_false ye;have Lc:k=32:=by have:=HK.out;omega
 have HL:Hid (l.length=32):=by have:=HV.out;rw[Hid];omega
 obtain rfl:vn=32:=by have:=HV.out;omega
 clear ye Lc;go_wp2_with fail
 go_ret
 exact⟨VA,vc,rfl,l,HL.out,vW,xP⟩
abbrev tM:Array Value:=#[.int .i64 0,.int .i64 0,.int .i64 0,.slice none 0 0,.slice none 0 0,.slice none 0 0,.slice none 0 0]
theorem yh:(Tryz.prog.info? 24).map (·.size)=some 7:=by kernel_rfl
theorem rE (a b c d e f g:Value) (ha:a.oneCell'=true) (hb:b.oneCell'=true) (hc:c.oneCell'=true) (hd:d.oneCell'=true) (he:e.oneCell'=true) (hf:f.oneCell'=true) (hg:g.oneCell'=true) :
  (#[a,b,c,d,e,f,g]:Array Value).all (·.oneCell')=true:=by simp[ha,hb,hc,hd,he,hf,hg]
structure KM (W0:World) (H:Snap) (g R K:Nat) (kc:Array Value) (w:World) (Hr:Snap):Prop where
 dealt:Dealt W0 H w Hr g
 res:Blk w R 24 tM
 key:Blk w K 24 kc
 hR:Hr R=none
 hK:Hr K=none
 neRK:R≠K
 gW:g<W0.heap.size
 wR:W0.heap.size≤R
 wK:W0.heap.size≤K
section
variable {W0 w w':World} {H Hr Hs:Snap} {g R K:Nat} {kc kc':Array Value}
end
def xK (s:ByteArray):Bool:=decide (s.size≤64)&&Lib.validD s.data.toList
theorem lU {H:Snap}(hTab:Tabs H) (s:ByteArray) (hs:s.size≤9223372036854775807) (w:World) (hH:Holds w H) :
  Calls Tryz.prog 30 #[.string s] w fun e w'=>e=.returned (.bool (xK s))∧Below w.heap.size w w':=by
 obtain⟨n,hn⟩:∃ n,s.size=n:=⟨_,rfl⟩
 have J1:((s.size:Nat):Int)=(n:Int):=by rw[hn]
 by_cases h:n≤64
 ·have VS:=Hh (utf8_ValidString hTab w hH s (by omega));have E:Hid (xK s=Lib.validD s.data.toList):=by rw[Hid,xK,hn,decide_eq_true h,Bool.true_and]
  obtain⟨q,hq⟩:∃ q,Lib.validD s.data.toList=q:=⟨_,rfl⟩
  rw[hq]at E VS;have hi:(n:Int)≤64:=by omega
  clear hq hn hTab hH hs h;go_enter Tryz.func30,Tryz.ntmps30
  go_wp2_with fail
  refine VS.out.mono ?_
  rintro e w1 ⟨rfl,wU⟩
  go_wp2_with fail
  go_ret
  exact⟨by rw[E.out];rfl,wU⟩
 have E:Hid (xK s=false):=by rw[Hid,xK,hn,decide_eq_false h,Bool.false_and]
 have hi:¬ (n:Int)≤64:=by omega
 clear hn hTab hH hs h;go_enter Tryz.func30,Tryz.ntmps30
 go_wp2_with fail
 go_ret
 exact⟨by rw[E.out];rfl,Below.refl _ _⟩
structure Cl where
 issuer:ByteArray
 subject:ByteArray
 since:Int
 till:Int
 key:Ky
abbrev clC (i s:ByteArray) (f u t v g:Int) (Ai:Option Addr) (ni ci:Nat) (Ax:Option Addr) (nx cx:Nat) (Ad:Option Addr) (nd cd:Nat) (Ak:Option Addr) (nk ck:Nat):Array Value :=
 #[.string i,.string s,.int .i64 f,.int .i64 u,.int .i64 t,.int .i64 v,.int .i64 g,.slice Ai ni ci,.slice Ax nx cx,.slice Ad nd cd,.slice Ak nk ck]
abbrev clQ (c:Cl) (a:KAd):Array Value:=clC c.issuer c.subject c.since c.till c.key.kty c.key.crv c.key.alg a.ia c.key.kid.length a.ic a.xa c.key.x.length a.xc a.da c.key.d.length a.dc a.ka c.key.k.length a.kc
structure ClA (H:Snap) (c:Cl) (a:KAd):Prop where
 issuer:c.issuer.size≤9223372036854775807
 subject:c.subject.size≤9223372036854775807
 since : -9223372036854775808≤c.since∧c.since≤9223372036854775807
 till : -9223372036854775808≤c.till∧c.till≤9223372036854775807
 key:KeyA H c.key a
theorem ClA.mono {H K:Snap}{c:Cl}{a:KAd}(h:ClA H c a) (hl:H.le K):ClA K c a:=⟨h.issuer,h.subject,h.since,h.till,h.key.mono hl⟩
def zB (c:Cl):Bool:=xK c.issuer&&xK c.subject&&decide (c.subject≠⟨#[]⟩)&&decide (0≤c.since)&&decide (c.since≤1073741824)&&decide (0≤c.till)&&decide (c.till≤1073741824)&&decide (¬ (0<c.till∧c.till<c.since))&&xp c.key&&decide (c.key.kty=1)&&decide (0<c.key.x.length)&&decide (c.key.d.length=0)
theorem wW (c:Cl):zB c=true↔xK c.issuer=true∧xK c.subject=true∧c.subject≠⟨#[]⟩∧0≤c.since∧c.since≤1073741824∧0≤c.till∧c.till≤1073741824∧¬ (0<c.till∧c.till<c.since)∧xp c.key=true∧c.key.kty=1∧0<c.key.x.length∧c.key.d.length=0:=by
 simp only[zB,Bool.and_eq_true,decide_eq_true_eq,and_assoc]
theorem gg {c:Cl}(h:¬ (xK c.issuer=true∧xK c.subject=true∧c.subject≠⟨#[]⟩∧0≤c.since∧c.since≤1073741824∧0≤c.till∧c.till≤1073741824∧¬ (0<c.till∧c.till<c.since)∧xp c.key=true∧c.key.kty=1∧0<c.key.x.length∧c.key.d.length=0)):zB c=false:=by
 cases hv:zB c with
 | false=>rfl
 | true=>exact absurd ((wW c).1 hv) h
theorem tl (s:ByteArray):s.toList.isEmpty=true↔s=⟨#[]⟩:=by
 rw[List.isEmpty_iff,ByteArray.toList_eq]
 cases s with
 | mk d=>simp
theorem pX {H:Snap}(hTab:Tabs H) {c:Cl}{a:KAd}(hc:ClA H c a) (w:World) (hH:Holds w H) :
  Calls Tryz.prog 12 #[.agg (clQ c a)] w fun e w'=>e=.returned (.bool (zB c))∧Below w.heap.size w w':=by
 obtain⟨nx,Z4⟩:∃ n,n=c.key.x.length:=⟨_,rfl⟩
 obtain⟨nd,TY⟩:∃ n,n=c.key.d.length:=⟨_,rfl⟩
 have HN:=Hh (And.intro Z4 TY);have HC:=Hh hc;have N1:=Hh (fun w hH=>lU hTab c.issuer hc.issuer w hH);have N2:=Hh (fun w hH=>lU hTab c.subject hc.subject w hH);have V:Hid (∀ W,Calls Tryz.prog 31 #[.agg (un c.key.kty c.key.crv c.key.alg a.ia c.key.kid.length a.ic a.xa c.key.x.length a.xc a.da c.key.d.length a.dc a.ka c.key.k.length a.kc)] W fun e w'=>e=.returned (.bool (xp c.key))∧Below W.heap.size W w'):=fun W=>jN c.key.kty c.key.crv c.key.alg a.ia c.key.kid.length a.ic a.xa c.key.x.length a.xc a.da c.key.d.length a.dc a.ka c.key.k.length a.kc W hc.key.len.1 hc.key.len.2
 show Calls Tryz.prog 12 #[.agg (clC c.issuer c.subject c.since c.till c.key.kty c.key.crv c.key.alg a.ia c.key.kid.length a.ic a.xa c.key.x.length a.xc a.da c.key.d.length a.dc a.ka c.key.k.length a.kc)] w _
 rw[← Z4,← TY]at V⊢;obtain⟨ni,Sz⟩:∃ n,c.key.kid.length=n:=⟨_,rfl⟩
 obtain⟨nk,QL⟩:∃ n,c.key.k.length=n:=⟨_,rfl⟩
 rw[Sz,QL]at V⊢;have hB:=Blk.new w 26 (clC c.issuer c.subject c.since c.till c.key.kty c.key.crv c.key.alg a.ia ni a.ic a.xa nx a.xc a.da nd a.dc a.ka nk a.kc);have hb:=zi w (.cells (clC c.issuer c.subject c.since c.till c.key.kty c.key.crv c.key.alg a.ia ni a.ic a.xa nx a.xc a.da nd a.dc a.ka nk a.kc) 26);have HH:=Hh hH;have iU:=Hh (fun h=>gg (c:=c) h);have MY:=Hh (wW c);have c0:=hB.cell 0 rfl;clear Z4 TY Sz QL hTab hc hH;go_enter Tryz.func12,Tryz.ntmps12
 go_wp2_with fail
 refine(N1.out _ (HH.out.below hb (Nat.le_refl _))).mono ?_
 rintro e w2 ⟨rfl,xJ⟩
 replace hB:=hB.below xJ;replace hb:=hb.trans (xJ.mono hb.size);clear xJ c0 N1
 cases h1:xK c.issuer with
 | false =>
  have E:Hid (zB c=false):=iU.out (fun h=>by rw[h1]at h;exact absurd h.1 (by decide));clear hB h1;go_wp2_with fail
  go_ret
  exact⟨by rw[E.out];rfl,hb⟩
 | true =>
 have H1:=Hh h1;clear h1;have c1:=hB.cell 1 rfl;go_wp2_with fail
 refine(N2.out _ (HH.out.below hb (Nat.le_refl _))).mono ?_
 rintro e w3 ⟨rfl,uy⟩
 replace hB:=hB.below uy;replace hb:=hb.trans (uy.mono hb.size);clear uy c1 N2
 cases h2:xK c.subject with
 | false =>
  have E:Hid (zB c=false):=iU.out (fun h=>by rw[h2]at h;exact absurd h.2.1 (by decide));clear hB h2;go_wp2_with fail
  go_ret
  exact⟨by rw[E.out];rfl,hb⟩
 | true =>
 have H2:=Hh h2;clear h2;have c1:=hB.cell 1 rfl;have c2:=hB.cell 2 rfl;have c3:=hB.cell 3 rfl
 by_cases hs:c.subject=⟨#[]⟩
 ·have E:Hid (zB c=false):=iU.out (fun h=>h.2.2.1 hs);have s2:c.subject.toList.isEmpty=true:=(tl _).2 hs;clear hs;clear hB;go_wp2_with fail
  go_ret
  exact⟨by rw[E.out];rfl,hb⟩
 have s2:c.subject.toList.isEmpty=false:=by cases h:c.subject.toList.isEmpty with | false=>rfl | true=>exact absurd ((tl _).1 h) hs
 have HS:=Hh hs;clear hs
 by_cases f0:c.since<0
 ·have E:Hid (zB c=false):=iU.out (fun h=>by have:=h.2.2.2.1;omega);clear hB;go_wp2_with fail
  go_ret
  exact⟨by rw[E.out];rfl,hb⟩
 by_cases f1:1073741824<c.since
 ·have E:Hid (zB c=false):=iU.out (fun h=>by have:=h.2.2.2.2.1;omega);clear hB;go_wp2_with fail
  go_ret
  exact⟨by rw[E.out];rfl,hb⟩
 by_cases u0:c.till<0
 ·have E:Hid (zB c=false):=iU.out (fun h=>by have:=h.2.2.2.2.2.1;omega);clear hB;go_wp2_with fail
  go_ret
  exact⟨by rw[E.out];rfl,hb⟩
 by_cases u1:1073741824<c.till
 ·have E:Hid (zB c=false):=iU.out (fun h=>by have:=h.2.2.2.2.2.2.1;omega);clear hB;go_wp2_with fail
  go_ret
  exact⟨by rw[E.out];rfl,hb⟩
 have HF:=Hh (And.intro f0 (And.intro f1 (And.intro u0 u1)))
 by_cases hfu:0<c.till∧c.till<c.since
 ·have E:Hid (zB c=false):=iU.out (fun h=>h.2.2.2.2.2.2.2.1 hfu);obtain⟨g0,g1⟩:=hfu;clear hB;go_wp2_with fail
  go_ret
  exact⟨by rw[E.out];rfl,hb⟩
 have M0:=Hh hfu;have c4:=hB.cell 4 rfl;have c5:=hB.cell 5 rfl;have c6:=hB.cell 6 rfl;have c7:=hB.cell 7 rfl;have c8:=hB.cell 8 rfl;have c9:=hB.cell 9 rfl;have c10:=hB.cell 10 rfl;have fin:∀ (w':World),True:=fun _=>trivial
 have go2:Hid (zB c=(xp c.key&&decide (c.key.kty=1)&&decide (0<nx)&&decide (nd=0))):=by
  rw[Hid,HN.out.1,HN.out.2,Bool.eq_iff_iff,MY.out]
  simp only[Bool.and_eq_true,decide_eq_true_eq,and_assoc]
  have e:=HF.out
  exact⟨fun h=>⟨h.2.2.2.2.2.2.2.2.1,h.2.2.2.2.2.2.2.2.2.1,h.2.2.2.2.2.2.2.2.2.2.1,h.2.2.2.2.2.2.2.2.2.2.2⟩,fun h=>⟨H1.out,H2.out,HS.out,by omega,by omega,by omega,by omega,M0.out,h.1,h.2.1,h.2.2.1,h.2.2.2⟩⟩
 by_cases g0:0<c.till
 ·have g1:¬ c.till<c.since:=fun h=>hfu ⟨g0,h⟩
  clear hfu fin;go_wp2_with fail
  refine(V.out _).mono ?_
  rintro e w4 ⟨rfl,rF⟩
  replace hB:=hB.below rF;replace hb:=hb.trans (rF.mono hb.size);clear rF V c1 c2 c3 c4 c5 c6 c7 c8 c9 c10
  cases hv:xp c.key with
  | false =>
   rw[hv]at go2;clear hB hv;go_wp2_with fail
   go_ret
   exact⟨by rw[go2.out];simp,hb⟩
  | true =>
  rw[hv]at go2;clear hv;have c4:=hB.cell 4 rfl;have c8:=hB.cell 8 rfl;have c9:=hB.cell 9 rfl
  by_cases hk:c.key.kty=1
  ·have k1:(c.key.kty=1)=True:=eq_true hk;have k2:(c.key.kty==1)=true:=by simpa using hk
   by_cases hx:0<nx
   ·have x1:(0:Int)<(nx:Int):=by omega
    by_cases hd:nd=0
    ·subst hd;clear hB hk;go_wp2_with fail
     go_ret
     exact⟨by rw[go2.out];simp[k1,hx],hb⟩
    have d1:((nd:Int)=0)=False:=eq_false (by omega);have d2:(nd=0)=False:=eq_false hd;have d3:((nd:Int)==0)=false:=by simpa using hd
    clear hB hk;go_wp2_with fail
    go_ret
    exact⟨by rw[go2.out];simp[hd],hb⟩
   have x1:¬ (0:Int)<(nx:Int):=by omega
   clear hB hk;go_wp2_with fail
   go_ret
   exact⟨by rw[go2.out];simp[hx],hb⟩
  have k1:(c.key.kty=1)=False:=eq_false hk;have k2:(c.key.kty==1)=false:=by simpa using hk
  clear hB;go_wp2_with fail
  go_ret
  exact⟨by rw[go2.out];simp[hk],hb⟩
 clear hfu fin;go_wp2_with fail
 refine(V.out _).mono ?_
 rintro e w4 ⟨rfl,rF⟩
 replace hB:=hB.below rF;replace hb:=hb.trans (rF.mono hb.size);clear rF V c1 c2 c3 c4 c5 c6 c7 c8 c9 c10
 cases hv:xp c.key with
 | false =>
  rw[hv]at go2;clear hB hv;go_wp2_with fail
  go_ret
  exact⟨by rw[go2.out];simp,hb⟩
 | true =>
 rw[hv]at go2;clear hv;have c4:=hB.cell 4 rfl;have c8:=hB.cell 8 rfl;have c9:=hB.cell 9 rfl
 by_cases hk:c.key.kty=1
 ·have k1:(c.key.kty=1)=True:=eq_true hk;have k2:(c.key.kty==1)=true:=by simpa using hk
  by_cases hx:0<nx
  ·have x1:(0:Int)<(nx:Int):=by omega
   by_cases hd:nd=0
   ·subst hd;clear hB hk;go_wp2_with fail
    go_ret
    exact⟨by rw[go2.out];simp[k1,hx],hb⟩
   have d1:((nd:Int)=0)=False:=eq_false (by omega);have d2:(nd=0)=False:=eq_false hd;have d3:((nd:Int)==0)=false:=by simpa using hd
   clear hB hk;go_wp2_with fail
   go_ret
   exact⟨by rw[go2.out];simp[hd],hb⟩
  have x1:¬ (0:Int)<(nx:Int):=by omega
  clear hB hk;go_wp2_with fail
  go_ret
  exact⟨by rw[go2.out];simp[hx],hb⟩
 have k1:(c.key.kty=1)=False:=eq_false hk;have k2:(c.key.kty==1)=false:=by simpa using hk
 clear hB;go_wp2_with fail
 go_ret
 exact⟨by rw[go2.out];simp[hk],hb⟩
theorem ap {H:Snap}{c:Cl}{a b:KAd}(ha:ClA H c a) (hb:ClA H c b) (w:World) (hH:Holds w H) :
  Calls Tryz.prog 19 #[.agg (clQ c a),.agg (clQ c b)] w fun e w'=>e=.returned (.bool true)∧Below w.heap.size w w':=by
 have hX:=(Blk.new w 26 (clQ c a)).alloc (.cells (clQ c b) 26);have hY:=Blk.new (w.alloc (.cells (clQ c a) 26)) 26 (clQ c b);rw[zX]at hY;have l8:=(zi w (.cells (clQ c a) 26)).alloc (zi w (.cells (clQ c a) 26)).size (.cells (clQ c b) 26);have hh:=(hH.alloc (.cells (clQ c a) 26)).alloc (.cells (clQ c b) 26);have SM:=Hh (am ha.key hb.key _ hh);have x0:=hX.cell 0 rfl;have x1:=hX.cell 1 rfl;have x2:=hX.cell 2 rfl;have x3:=hX.cell 3 rfl;have x4:=hX.cell 4 rfl;have x5:=hX.cell 5 rfl;have x6:=hX.cell 6 rfl;have x7:=hX.cell 7 rfl;have x8:=hX.cell 8 rfl;have x9:=hX.cell 9 rfl;have x10:=hX.cell 10 rfl;have y0:=hY.cell 0 rfl;have y1:=hY.cell 1 rfl;have y2:=hY.cell 2 rfl;have y3:=hY.cell 3 rfl;have y4:=hY.cell 4 rfl;have y5:=hY.cell 5 rfl;have y6:=hY.cell 6 rfl;have y7:=hY.cell 7 rfl;have y8:=hY.cell 8 rfl;have y9:=hY.cell 9 rfl
 have y10:=hY.cell 10 rfl;clear hX hY ha hb hh hH;go_enter Tryz.func19,Tryz.ntmps19
 go_wp2_with fail
 refine SM.out.mono ?_
 rintro e w2 ⟨rfl,xJ⟩
 go_wp2_with fail
 go_ret
 exact⟨rfl,l8.trans (xJ.mono l8.size)⟩
section
variable {P:Program} {ops:Array Oper} {Q:Exit→Act→World→Prop} {md:Region.Mode}
def fY (md:Region.Mode) (ops:Array Oper):Bool :=
 (List.range ops.size).all fun j=>match ops[j]? with
  | some o=>o.after.all fun e => !(Region.binds md e)||decide (e.on<j)
  | none=>true
theorem cg (h:fY md ops=true) {j:Nat}{o:Oper}(ho:ops[j]? = some o):∀ e∈o.after,Region.binds md e=true→e.on<j:=by
 intro e he hb
 have gu:j<ops.size:=(Array.getElem?_eq_some_iff.1 ho).1;have h1:=List.all_eq_true.1 h j (List.mem_range.2 gu);rw[ho]at h1;have h2:=Array.all_eq_true'.1 h1 e he;rw[hb]at h2
 simpa using h2
theorem ip (hl:fY md ops=true) {L:Array Bool}(hr:Region.ready md ops L=[]):∀ j,j<ops.size→L.getD j true=true:=by
 intro j
 induction j using Nat.strongRecOn with
 | _ j ih =>
 intro hj
 cases h:L.getD j true with
 | true=>rfl
 | false =>
 have hm:j∈Region.ready md ops L:=by
  refine mem_ready.2 ⟨h,ops[j],Array.getElem?_eq_getElem hj,fun e he hb=>?_⟩
  have ye:=cg hl (Array.getElem?_eq_getElem hj) e he hb;have h1:=ih e.on ye (by omega)
  rcases Nat.lt_or_ge e.on L.size with h' | h'
  ·simp[h']at h1⊢;exact h1
  have h2:j≥L.size∨j<L.size:=by omega
  rcases h2 with h2 | h2
  ·rw[show L.getD j true=true by simp[Array.getElem?_eq_none h2]]at h
   cases h
  omega
 rw[hr]at hm
 cases hm
theorem jD {L:Array Bool}(hz:L.size=ops.size) (h:∀ j,j<ops.size→L.getD j true=true):∀ j,j<ops.size→L.getD j false=true:=fun j hj=>by
 have h1:=h j hj;have h':j<L.size:=by omega
 simp[h']at h1⊢
 exact h1
def sB (L:Array Bool):Nat:=(L.toList.filter (fun b => !b)).length
theorem oQ:∀ (l:List Bool) (i:Nat),l.getD i true=false→((l.set i true).filter (fun b => !b)).length+1=(l.filter (fun b => !b)).length
 | [],i,h=>by simp at h
 | b::l,0,h=>by
  have hb:b=false:=by simpa using h
  subst hb
  simp
 | b::l,i+1,h=>by
  have ih:=oQ l i (by simpa using h)
  cases b <;> simp at ih⊢ <;> omega
theorem oR {L:Array Bool}{i:Nat}(h:L.getD i true=false):sB (L.setIfInBounds i true)+1=sB L:=by
 unfold sB
 have h1:L.toList.getD i true=false:=by
  rcases Nat.lt_or_ge i L.size with h' | h'
  ·simpa [h'] using h
  simp[Array.getElem?_eq_none h']at h
 have:=oQ L.toList i h1;rwa [Array.toList_setIfInBounds]
theorem jK {L:Array Bool}(h:sB L=0):Region.ready md ops L=[]:=by
 rw[List.eq_nil_iff_forall_not_mem]
 intro j hj
 have h1:=(mem_ready.1 hj).1;have:=oR h1
 omega
theorem gi (Inv:Array Bool→Act→World→Prop) (hl:fY md ops=true)
  (hs:∀ (L:Array Bool) (a:Act) (w:World) (i:Nat) (o:Oper),ops[i]? = some o→Closed md ops L→L.getD i true=false→(∀ e∈o.after,Region.binds md e=true→L.getD e.on false=true)→Inv L a w→
   ∀ K:Act→World→Prop,Shut (∀ a' w',Inv (L.setIfInBounds i true) a' w'→K a' w')→if Region.wanted o (yielded ops a.tmps)=true then Oper.wp P o a w K Q else K (a.put o.dst undef) w)
  (hd:∀ (L:Array Bool) (a:Act) (w:World),(∀ j,j<ops.size→L.getD j false=true)→Inv L a w→Q .normal a w) :
  ∀ (n:Nat) (L:Array Bool) (a:Act) (w:World),Closed md ops L→L.size=ops.size→sB L≤n→Inv L a w→wpAny P md ops Q n L a w
 | 0,L,a,w,hz,mK,hn,hI=>⟨jK (by omega),hd L a w (jD mK (ip hl (jK (by omega)))) hI⟩
 | n+1,L,a,w,hz,mK,hn,hI=>by
  refine⟨fun hr=>hd L a w (jD mK (ip hl hr)) hI,fun i hi=>?_⟩
  obtain⟨qp,o,ho,bT⟩:=mem_ready.1 hi
  refine wpOp_step ho fun K hK=>hs L a w i o ho hz qp bT hI K fun a' w' hI'=>hK a' w' (gi Inv hl hs hd n _ a' w' (hz.step hi) (by simpa using mK) (by have:=oR qp;omega) hI')
theorem ez {n:Nat}:Closed md ops (Array.replicate n false):=fun j o ho hj=>by
 rcases Nat.lt_or_ge j n with h | h
 ·simp[h]at hj
 simp[Nat.not_lt.2 h]at hj
theorem ik (n:Nat):sB (Array.replicate n false)=n:=by
 unfold sB
 rw[Array.toList_replicate];induction n with
 | zero=>rfl
 | succ n ih=>rw[List.replicate_succ];simp at ih⊢
theorem oT {id:Nat}{a:Act}{w:World}(hm:P.follows .mixedOrders=true) (Inv:Array Bool→Act→World→Prop) (hl:fY .any ops=true)
  (h0:Inv (Array.replicate ops.size false) a w.drew)
  (hs:∀ (L:Array Bool) (a:Act) (w:World) (i:Nat) (o:Oper),ops[i]? = some o→Closed .any ops L→L.getD i true=false→(∀ e∈o.after,Region.binds .any e=true→L.getD e.on false=true)→Inv L a w→
   ∀ K:Act→World→Prop,Shut (∀ a' w',Inv (L.setIfInBounds i true) a' w'→K a' w')→if Region.wanted o (yielded ops a.tmps)=true then Oper.wp P o a w K Q else K (a.put o.dst undef) w)
  (hd:∀ (L:Array Bool) (a:Act) (w:World),(∀ j,j<ops.size→L.getD j false=true)→Inv L a w→Q .normal a w):(Code.region id ops true).wp P Q a w :=
 wp_region_any hm (gi Inv hl hs hd _ _ _ _ ez (by simp) (by rw[ik];exact Nat.le_refl _) h0)
theorem dq {L:Array Bool}{i:Nat}{R R':Nat→Prop}(h:∀ j,L.getD j false=true→R j) (hk:∀ j,j≠i→L.getD j false=true→R j→R' j) (hi:R' i) :
  ∀ j,(L.setIfInBounds i true).getD j false=true→R' j:=fun j hj=>by
 by_cases e:j=i
 ·subst e;exact hi
 rw[getD_set_ne false (Ne.symm e)]at hj
 exact hk j e hj (h j hj)
def upd (S:Nat→Value) (i:Nat) (v:Value):Nat→Value:=fun j=>if j=i then v else S j
theorem xQ {S:Nat→Value}{i j:Nat}{v:Value}(h:j≠i):upd S i v j=S j:=if_neg h
theorem xD {S:Nat→Value}{i:Nat}{v:Value}:upd S i v i=v:=if_pos rfl
theorem fV {L:Array Bool}{i:Nat}{o:Oper}(ho:ops[i]? = some o) (hd:∀ e∈o.after,Region.binds md e=true→L.getD e.on false=true) (d:Nat) (hb:(o.after.any fun e=>Region.binds md e&&e.on==d)=true):L.getD d false=true:=by
 obtain⟨e,he,h⟩:=Array.any_eq_true'.1 hb;rw[Bool.and_eq_true]at h;have h1:=hd e he h.1;rwa [beq_iff_eq.1 h.2]at h1
theorem xW {L:Array Bool}(hc:Closed md ops L) {i j:Nat}(qp:L.getD i true=false) (hj:L.getD j false=true) (rt:(match ops[j]? with | some o=>o.after.any fun e=>Region.binds md e&&e.on==i | none=>false)=true):False:=by
 cases ho:ops[j]? with
 | none=>rw[ho]at rt;cases rt
 | some o =>
 rw[ho]at rt;have h1:=fV ho (hc j o ho hj) i rt
 rcases Nat.lt_or_ge i L.size with h' | h'
 ·simp[h']at h1 qp;rw[qp]at h1;cases h1
 simp[Array.getElem?_eq_none h']at qp
end
def Ws (s:List UInt8):Prop:=∀ l,Lib.validD (s++l)=Lib.validD l
def Neu (s:ByteArray):Prop:=Ws s.data.toList
theorem Neu.nil:Neu ⟨#[]⟩:=fun l=>rfl
theorem Neu.app {s t:ByteArray}(hs:Neu s) (ht:Neu t):Neu (s++t):=fun l=>by
 rw[show(s++t).data.toList=s.data.toList++t.data.toList by simp,List.append_assoc,hs,ht]
theorem Neu.valid {s:ByteArray}(h:Neu s):Lib.validD s.data.toList=true:=by
 have:=h [];rw[List.append_nil]at this;rw[this];rfl
theorem lx:∀ (l:List UInt8),(∀ b∈l,b.toNat<128)→Ws l
 | [],_=>fun _=>rfl
 | b::t,h=>fun l=>by
  rw[List.cons_append,Lib.validD_cons b _ (h b (by simp))]
  exact lx t (fun c hc=>h c (by simp[hc])) l
theorem Neu.ascii {s:ByteArray}(h:∀ b∈s.data.toList,b.toNat<128):Neu s:=lx _ h
theorem RL:Ws [195,169]:=fun l=>by
 show Lib.validD (195::169::l)=_
 rw[Lib.validD_lead _ (by simp) (by simp)]
 have e:Lib.checkN (195::169::l).length ((195::169::l).getD 1 0).toNat ((195::169::l).getD 2 0).toNat ((195::169::l).getD 3 0).toNat (Lib.firstT ((195::169::l).getD 0 0).toNat%8) (Lib.accLo (Lib.firstT ((195::169::l).getD 0 0).toNat/16)) (Lib.accHi (Lib.firstT ((195::169::l).getD 0 0).toNat/16))=some 2:=by
  simp[Lib.checkN,Lib.firstT,Lib.accLo,Lib.accHi]
 rw[e];rfl
theorem Vh:Ws [226,130,172]:=fun l=>by
 show Lib.validD (226::130::172::l)=_
 rw[Lib.validD_lead _ (by simp) (by simp)]
 have e:Lib.checkN (226::130::172::l).length ((226::130::172::l).getD 1 0).toNat ((226::130::172::l).getD 2 0).toNat ((226::130::172::l).getD 3 0).toNat (Lib.firstT ((226::130::172::l).getD 0 0).toNat%8) (Lib.accLo (Lib.firstT ((226::130::172::l).getD 0 0).toNat/16)) (Lib.accHi (Lib.firstT ((226::130::172::l).getD 0 0).toNat/16))=some 3:=by
  simp[Lib.checkN,Lib.firstT,Lib.accLo,Lib.accHi]
 rw[e];rfl
def bF (s:List UInt8):Bool:=s.all (fun b=>decide (b.toNat<128))||decide (s=[195,169])||decide (s=[226,130,172])
theorem ag {s:List UInt8}(h:bF s=true):Ws s:=by
 unfold bF at h
 rw[Bool.or_eq_true,Bool.or_eq_true,decide_eq_true_eq,decide_eq_true_eq,List.all_eq_true]at h
 rcases h with (h | rfl) | rfl
 ·exact lx s fun b hb=>of_decide_eq_true (h b hb)
 ·exact RL
 exact Vh
def fW:Value→Bool | .string s=>decide (s.size≤3)&&bF s.data.toList | _=>false
theorem f9 {v:Value}(h:fW v=true):∃ s:ByteArray,v=.string s∧s.size≤3∧Neu s:=by
 unfold fW at h
 split at h
 ·rename_i x
  rw[Bool.and_eq_true,decide_eq_true_eq]at h
  exact⟨x,rfl,h.1,ag h.2⟩
 cases h
theorem Vf {H:Snap}{g:Nat}(w:World) (hD:DeckIn w g H) (n:Int) (hn:0≤n) (oo:n≤1048576) :
  Calls Tryz.prog 21 #[.pointer (some ⟨g,0,none⟩),.int .i64 n] w fun e w' =>
   ∃ s:ByteArray,e=.returned (.string s)∧(s.size:Int)≤3*n∧Neu s∧Dealt w H w' H g:=by
 have NX:=Hh (vG w hD (n+1) (by omega) (by omega));have K0:IntKind.i64.wrap (n+1)=n+1:=IntWalk.i64_in _ (by omega);have yv:=hD.deck.lt;have HN:=Hh (And.intro hn oo);have HD:=Hh hD;clear hn oo hD;go_enter Tryz.func21,Tryz.ntmps21
 go_wp2_with fail
 refine NX.out.mono ?_
 rintro e w1 ⟨r,rfl,hr,Ms⟩
 go_wp2_with fail
 go_loopw [5,6] (fun v5 v6 wr=>∃ (k:Nat) (s:ByteArray),v6=.int .i64 (k:Int)∧v5=.string s∧(s.size:Int)+3*k≤3*n∧Neu s∧Dealt w H wr H g) (fun _ v6 _=>(intOf v6).toNat)
 case atStart=>exact⟨r,⟨#[]⟩,rfl,rfl,by rw[show(⟨#[]⟩:ByteArray).size=0 from rfl];omega,Neu.nil,Ms⟩
 case round =>
 obtain⟨k,s,rfl,rfl,qC,xH,uk⟩:=hrel;have JX:=Hh xH;clear xH;have Ue:=Hh qC;clear qC
 by_cases ye:(0:Int)<(k:Int)
 ·have hB:=Blk.new wr 9 #[.string ⟨#[97]⟩,.string ⟨#[98]⟩,.string ⟨#[47]⟩,.string ⟨#[34]⟩,.string ⟨#[92]⟩,.string ⟨#[10]⟩,.string ⟨#[127]⟩,.string ⟨#[37]⟩,.string ⟨#[195,169]⟩,.string ⟨#[226,130,172]⟩];have wl:=uk.alloc (.cells #[.string ⟨#[97]⟩,.string ⟨#[98]⟩,.string ⟨#[47]⟩,.string ⟨#[34]⟩,.string ⟨#[92]⟩,.string ⟨#[10]⟩,.string ⟨#[127]⟩,.string ⟨#[37]⟩,.string ⟨#[195,169]⟩,.string ⟨#[226,130,172]⟩] 9);have NX:=Hh (vG _ wl.deck 10 (by omega) (by omega));go_wp2_with fail
  refine NX.out.mono ?_
  rintro e w3 ⟨q,rfl,hq,xV⟩
  have wL:=hB.dealt xV (by have:=uk.size;omega);obtain⟨v,hc,hP⟩:=wL.pick fW (by kernel_rfl) q (by simp;omega);obtain⟨t,rfl,ht,L3⟩:=f9 hP;have Hn:=Hh L3;clear L3;have hd:=wl.trans xV;have nc:(q:Int)<10:=hq;have HK:=Hh ht;have py:IntKind.i64.wrap ((k:Int)-1)=(k:Int)-1:=IntWalk.i64_in _ (by have:=Ue.out;have:=HN.out;omega);have pQ:s.size+t.size≤9223372036854775807:=by have:=Ue.out;have:=HN.out;omega
  clear NX hB wL hP wl xV ht;go_wp2_with fail
  go_roundw
  case rel=>exact⟨k-1,_,by rw[show((k-1:Nat):Int)=(k:Int)-1 by omega],rfl,by have:=Ue.out;have:=HK.out;simp[ByteArray.size_append];omega,JX.out.app Hn.out,hd⟩
  case measure=>simp[intOf];omega
 go_wp2_with fail
 go_ret
 exact⟨s,rfl,by have:=Ue.out;omega,JX.out,uk⟩
end Go.Proofs.YtgcjjhibdbafmabGreatDoor
