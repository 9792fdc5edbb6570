/- squeezed. Rows of a call's own in a box; pai -/
import Derived.Test.YtgaoknihklmakabGreatDoorK22
import Derived.Sort.LotA
import Derived.Shelf.GgSortFunc.RowK
import Derived.Shelf.SlSortFuncK.WholeK
import Derived.Shelf.GgSortFunc.Tiny
import Derived.Maps.Own
import Derived.MapKept
set_option linter.unusedVariables false
set_option linter.unusedSimpArgs false
set_option maxRecDepth 100000
set_option maxHeartbeats 25600000
namespace Go.Proofs.YtgaoknihklmakabGreatDoor
open Go.RowKit
theorem jbb{P:Prop}(h:P:=by
 have E:Hid (tU q=1∧pu q=zQ):=⟨by rw[tU,if_neg (by rw[hv];simp)],by rw[pu,if_neg (by rw[hv];simp)]⟩
 clear hv;go_wp2_with (with_reducible refine zx ?_)
 refine stI hT fun w9 xr yO=>?_
 have vy:=yY.grownOwn rD (by omega) yO;go_wp2_with fail
 refine zw rfl rfl xr rfl rfl zt rfl ?_
 exact⟨_,by rw[E.out.1];rfl,by rw[E.out.2];exact⟨none,0,none,0,H,rfl,vy,IsItem.plain H 0 0 (by omega) (by omega)⟩⟩):P:=h
theorem jbi{P:Prop}(h:P:=by
 have xp:=xT.trans xW;have Tz:=xW.none OE hT.lt;replace hT:=hT.below xW.below;clear xW xT HB;go_wp2_with (with_reducible refine zx ?_)
 refine stI hT fun w9 xr yO=>?_
 have vy:=xp.grownOwn Tz (by omega) yO;go_wp2_with fail
 refine zw rfl rfl xr rfl rfl zt rfl ?_
 exact⟨_,by rw[E.out.1];rfl,by rw[E.out.2];exact⟨xa,xb,xc,xd,H6,rfl,vy,UU⟩⟩):P:=h
theorem jbD{P:Prop}(h:P:=by
 go_enter Tryz.func86,Tryz.ntmps86
 go_wp2_with fail
 go_ret2
 rw[E.out]
 exact⟨rfl,hb⟩):P:=h
theorem jbP{P:Prop}(h:P:=by exact⟨hX.box.cell 0 rfl,hX.grows.holds.cell q0,hX.grows.holds.cell q1,hX.grows.holds.cell q2,hX.grows.holds.cell q3,hX.grows.holds.cell s0,hX.grows.holds.cell s1,hX.grows.holds.cell s2,hX.grows.holds.cell s3⟩):P:=h
theorem jcZ{P:Prop}(h:P:=by
 change Calls Tryz.prog 110 _ _ _ at hS
 exact hS.mono fun e w' ⟨he,os,hw⟩=>⟨he,fin w' os hw⟩):P:=h
theorem jdi{P:Prop}(h:P:=by
 rename_i hb
 have:b=[]:=by cases b with
  | nil=>rfl
  | cons _ _=>simp at hb
 rw[h0 this];rfl):P:=h
theorem jeG{P:Prop}(h:P:=by
 go_enter Tryz.func95,Tryz.ntmps95
 exact jai):P:=h
theorem jgf{P:Prop}(h:P:=by have c0:=y8.cell 0 rfl;have c1:=y8.cell 1 rfl;have c2:=y8.cell 2 rfl;have c3:=y8.cell 3 rfl;have c4:=y8.cell 4 rfl;have c5:=y8.cell 5 rfl;have c6:=y8.cell 6 rfl;exact And.intro c0 (And.intro c1 (And.intro c2 (And.intro c3 (And.intro c4 (And.intro c5 c6)))))):P:=h
theorem jgu{P:Prop}(h:P:=by have Mq:IntKind.i64.wrap ((j:Int)+1)=(j:Int)+1:=IntWalk.i64_in _ (by omega);exact Mq):P:=h
theorem jgI{P:Prop}(h:P:=by have hB:=Blk.new w 83 #[.int .i64 xk,.int .u64 (xn:Int),.slice ba xb.length bc,.slice ia xl.length ic];have hb:=zm w (.cells #[.int .i64 xk,.int .u64 (xn:Int),.slice ba xb.length bc,.slice ia xl.length ic] 83);exact And.intro hB hb):P:=h
theorem jgM{P:Prop}(h:P:=by have d1:decide ((1048576:Int)<(xn:Int))=false:=decide_eq_false i1;have W1:IntKind.i64.wrap (xn:Int)=(xn:Int):=IntWalk.i64_in _ (by omega);have W2:IntKind.i64.wrap (-1-(xn:Int)) = -1-(xn:Int):=IntWalk.i64_in _ (by omega);exact And.intro d1 (And.intro W1 W2)):P:=h
theorem jhM{P:Prop}(h:P:=by have rD:H (w.heap.size+1)=none:=hH.none_of_ge (by omega);have xg:=((Grows.refl hH).alloc (.cells (tY q a) 61)).alloc (.cells xi 83);exact And.intro rD xg):P:=h
abbrev Pr:=List UInt8×Itm×Itm
def n7:Lie Pr where
 k:=9
 pos:=by omega
 E:=fun H x c=>∃ A cc ba bc ia ic ba' bc' ia' ic',c=.slice A x.1.length cc::(ze x.2.1 ba bc ia ic++ze x.2.2 ba' bc' ia' ic')∧IsBytes H A cc x.1∧IsItem H ba bc ia ic x.2.1∧IsItem H ba' bc' ia' ic' x.2.2
 len:=by rintro _ _ _ ⟨_,_,_,_,_,_,_,_,_,_,rfl,_⟩;rfl
 one:=by rintro _ _ _ ⟨_,_,_,_,_,_,_,_,_,_,rfl,_⟩;simp[ze,Value.oneCell']
 mono:=by rintro H K x c hl ⟨A,cc,ba,bc,ia,ic,ba',bc',ia',ic',e,h1,h2,h3⟩;exact⟨A,cc,ba,bc,ia,ic,ba',bc',ia',ic',e,h1.mono hl,h2.mono hl,h3.mono hl⟩
def pk:List Itm→List Pr
 | a::b::l=>(zf a,a,b)::pk l
 | _=>[]
theorem gN:∀ l:List Itm,(pk l).length=l.length/2
 | []=>rfl
 | [_]=>by simp[pk]
 | a::b::l=>by simp only[pk,List.length_cons,gN l];omega
theorem kA:∀ (l:List Itm) (i:Nat) (h:2*i+1<l.length),(pk l)[i]? = some (zf (l[2*i]'(by omega)),l[2*i]'(by omega),l[2*i+1])
 | [],i,h=>by simp at h
 | [_],i,h=>by simp at h
 | a::b::l,0,h=>by simp[pk]
 | a::b::l,i+1,h=>by
  have h':2*i+1<l.length:=by simp only[List.length_cons]at h;omega
  have e1:∀ h2,(a::b::l)[2*(i+1)]'h2=l[2*i]:=fun h2=>by
   have:2*(i+1)=2*i+1+1:=by omega
   simp only[this,List.getElem_cons_succ]
  have e2:∀ h2,(a::b::l)[2*(i+1)+1]'h2=l[2*i+1]:=fun h2=>by
   have:2*(i+1)+1=(2*i+1)+1+1:=by omega
   simp only[this,List.getElem_cons_succ]
  rw[e1,e2,pk,List.getElem?_cons_succ]
  exact kA l i h'
theorem QW (l:List Itm) (i:Nat) (h:2*i+1<l.length):pk (l.take (2*i+2))=pk (l.take (2*i))++[(zf (l[2*i]'(by omega)),l[2*i]'(by omega),l[2*i+1])]:=by
 apply List.ext_getElem?
 intro j
 have h1:(pk (l.take (2*i))).length=i:=by rw[gN,List.length_take];omega
 have h2:(pk (l.take (2*i+2))).length=i+1:=by rw[gN,List.length_take];omega
 rcases Nat.lt_trichotomy j i with hj | hj | hj
 ·rw[List.getElem?_append_left (by omega),kA _ j (by rw[List.length_take];omega),kA _ j (by rw[List.length_take];omega)]
  simp only[List.getElem_take]
 ·subst hj;rw[List.getElem?_append_right (by omega),h1,Nat.sub_self,kA _ j (by rw[List.length_take];omega)]
  simp only[List.getElem_take]
  rfl
 rw[List.getElem?_eq_none (by omega),List.getElem?_eq_none (by simp;omega)]
structure XM {α:Type} (L:Lie α) (t bt:TypeId) (kt:TypeId) (W0:World) (H:Snap) (B:Nat) (kc:Array Value) (bv v:Value) (l:List α) (w:World) (Hr:Snap):Prop where
 grows:Grows W0 H w Hr
 hK:Hr W0.heap.size=none
 key:Blk w W0.heap.size kt kc
 own:OwnX L t w (W0.heap.size+1) v Hr l
 apart:∀ g,v.ownBlock=some g→Hr g=none
 lt:W0.heap.size<B
 hB:Hr B=none
 box:Blk w B bt #[bv]
 far:v.ownBlock≠some B
section
variable {α:Type} {L:Lie α} {t bt kt:TypeId} {W0 w w':World} {H Hr Hs:Snap} {B:Nat} {kc:Array Value} {bv v v':Value} {l news:List α}
theorem XM.start (hG:Grows W0 H w Hr) (hK:Hr W0.heap.size=none) (hk:Blk w W0.heap.size kt kc) (hO:OwnX L t w (W0.heap.size+1) v Hr l) (ha:∀ g,v.ownBlock=some g→Hr g=none) :
  XM L t bt kt W0 H w.heap.size kc bv v l (w.alloc (.cells #[bv] bt)) Hr :=
 ⟨hG.alloc _,hK,hk.alloc _,hO.alloc _,ha,hk.lt,hG.hidden (Nat.le_refl _),Blk.new _ _ _,fun e=>by have:=(hO.lt _ e).2;omega⟩
theorem XM.grow (h:XM L t bt kt W0 H B kc bv v l w Hr) (k:Grows w Hr w' Hs):XM L t bt kt W0 H B kc bv v l w' Hs :=
 ⟨h.grows.trans k,k.none h.hK h.key.lt,h.key.below k.below,(h.own.below k.below).mono k.le,fun g hg=>k.none (h.apart g hg) (h.own.lt g hg).2,h.lt,k.none h.hB h.box.lt,h.box.below k.below,h.far⟩
theorem XM.below (h:XM L t bt kt W0 H B kc bv v l w Hr) (k:Below w.heap.size w w'):XM L t bt kt W0 H B kc bv v l w' Hr:=h.grow (Grows.of_below h.grows.holds k)
theorem XM.alloc (h:XM L t bt kt W0 H B kc bv v l w Hr) (o:Obj):XM L t bt kt W0 H B kc bv v l (w.alloc o) Hr:=h.below (zm w o)
theorem XM.drew (h:XM L t bt kt W0 H B kc bv v l w Hr):XM L t bt kt W0 H B kc bv v l w.drew Hr:=h.below (Below.refl _ _).drew
theorem XM.base (h:XM L t bt kt W0 H B kc bv v l w Hr):W0.heap.size+1≤w.heap.size:=by have:=h.key.lt;omega
theorem XM.litZ (h:XM L t bt kt W0 H B kc bv v l w Hr) (cs:Array Value) (e:TypeId):Src (w.alloc (.cells cs e)) (some ⟨w.heap.size,0,none⟩) cs.toList:=Src.lit w cs e
theorem XM.app (h:XM L t bt kt W0 H B kc bv v l w Hr) (hO:OwnX L t w' (W0.heap.size+1) v' Hr (l++news)) (hg:w.grownBy w' v.ownBlock) (ha:At0 w v.ownBlock v'.ownBlock):XM L t bt kt W0 H B kc bv v' (l++news) w' Hr :=
 ⟨h.grows.grownRow h.apart (fun g hg=>by have:=(h.own.lt g hg).1;omega) hg,h.hK,h.key.grown hg (fun e=>by have:=(h.own.lt _ e).1;omega),hO,fun g hv=>by
  rcases ha with e | ⟨g',e,hs⟩
  ·exact jb0
  ·rw[hv]at e;injection e with e
   subst e
   exact h.grows.hidden hs,h.lt,h.hB,h.box.grown hg h.far,by
  rcases ha with e | ⟨g',e,hs⟩
  ·rw[e];exact h.far
  rw[e]
  intro e2
  injection e2 with e2
  have:=h.box.lt
  omega⟩
theorem XM.setBox (h:XM L t bt kt W0 H B kc bv v l w Hr) (hB:Blk w' B bt #[v']) (hg:w.grownBy w' (some B)):XM L t bt kt W0 H B kc v' v l w' Hr :=
 ⟨h.grows.grownOwn h.hB (by have:=h.lt;omega) hg,h.hK,h.key.grown hg (fun e=>by injection e with e;have:=h.lt;omega),h.own.kept hg (.inr h.far),h.apart,h.lt,h.hB,hB,h.far⟩
theorem XM.snap {A:Option Addr}{m c:Nat}(h:XM L t bt kt W0 H B kc bv (.slice A m c) l w Hr) :
  ∃ H',Grows W0 H w H'∧Hr.le H'∧m=l.length∧IsRow L H' A c l∧H' W0.heap.size=none∧H' B=none:=by
 obtain⟨H',hl,hh,hf,rfl,hr⟩:=h.own.snap h.grows.holds (fun g hg=>h.apart g (by cases A <;> simp_all [Value.ownBlock]))
 have iw:∀ b,Hr b=none→(∀ g,(Value.slice A l.length c).ownBlock=some g→g≠b)→H' b=none:=fun b hb uy=>by
  cases hx:H' b with
  | none=>rfl
  | some o =>
  rcases hf b o hx with h1 | h1
  ·rw[hb]at h1;cases h1
  exact absurd rfl (uy b (by cases A <;> simp_all [Value.ownBlock]))
 refine⟨H',⟨h.grows.below,h.grows.le.trans hl,hh,fun b o hb=>?_⟩,hl,rfl,hr,iw _ h.hK (fun g hg e=>by have:=(h.own.lt g hg).1;omega),iw _ h.hB (fun g hg e=>h.far (by rw[hg,e]))⟩
 exact jaV
end
theorem OwnX.append_wp2 {α:Type}{L:Lie α}{t:TypeId}{w:World}{base:Nat}{v:Value}{H:Snap}{l:List α}{o:Oper}{a:Act}{K:Act→World→Prop}{Q:Exit→Act→World→Prop}(s x:Operand) (T:TypeId)
  (ho:o.op=.call { callee:=.builtin .append,args:=#[s,x],argTypes:=#[T,T] }) (hT:Tryz.prog.underlying T=some (.slice t)) {z:Value} {bytes:Nat} (hzs:z.cells.size=L.k) (kI:bytes≤256)
  (hinfo:(Tryz.prog.info? t).map (fun i=>(i.zero,i.size,i.bytes))=some (some z,L.k,bytes))
  (hs:a.eval s=v) (xA:OwnX L t w base v H l) (A:Option Addr) (m c:Nat) (cs:List Value) (news:List α) (hx:a.eval x=.slice A m c) (hm:m=news.length)
  (hn:RowC L H cs news) (hr:Src w A cs) (xF:l.length+news.length≤1048576) (uM:base≤w.heap.size)
  (h:∀ v' w',OwnX L t w' base v' H (l++news)→w.grownBy w' v.ownBlock→At0 w v.ownBlock v'.ownBlock→K (a.put o.dst v') w') :
  Oper.wp Tryz.prog o a w K Q:=by
 exact ja6
abbrev xi:Array Value:=#[.int .i64 0,.int .u64 0,.slice none 0 0,.slice none 0 0]
structure BM (W0:World) (H:Snap) (B M:Nat) (bc:Array Value) (iv v:Value) (l:List Itm) (w:World) (Hr:Snap):Prop where
 grows:Grows W0 H w Hr
 hK:Hr W0.heap.size=none
 hB:Hr B=none
 hM:Hr M=none
 ltB:W0.heap.size<B
 ltM:W0.heap.size<M
 ne:B≠M
 key:Blk w W0.heap.size 83 xi
 boxB:Blk w B 146 bc
 boxM:Blk w M 83 #[.int .i64 5,.int .u64 0,.slice none 0 0,iv]
 own:OwnI w (W0.heap.size+1) v Hr l
 apart:∀ g,v.ownBlock=some g→Hr g=none∧g≠B∧g≠M
section
variable {W0 w w':World} {H Hr Hs:Snap} {B M:Nat} {bc:Array Value} {iv v v':Value} {l news:List Itm}
theorem BM.grow (h:BM W0 H B M bc iv v l w Hr) (k:Grows w Hr w' Hs):BM W0 H B M bc iv v l w' Hs :=
 ⟨h.grows.trans k,k.none h.hK h.key.lt,k.none h.hB h.boxB.lt,k.none h.hM h.boxM.lt,h.ltB,h.ltM,h.ne,h.key.below k.below,h.boxB.below k.below,h.boxM.below k.below,(h.own.below k.below).mono k.le,
  fun g hg=>⟨k.none (h.apart g hg).1 (h.own.lt g hg).2,(h.apart g hg).2⟩⟩
theorem BM.below (h:BM W0 H B M bc iv v l w Hr) (k:Below w.heap.size w w'):BM W0 H B M bc iv v l w' Hr:=h.grow (Grows.of_below h.grows.holds k)
theorem BM.alloc (h:BM W0 H B M bc iv v l w Hr) (o:Obj):BM W0 H B M bc iv v l (w.alloc o) Hr:=h.below (zm w o)
theorem BM.drew (h:BM W0 H B M bc iv v l w Hr):BM W0 H B M bc iv v l w.drew Hr:=h.below (Below.refl _ _).drew
theorem BM.litZ (h:BM W0 H B M bc iv v l w Hr) (cs:Array Value) (e:TypeId):Src (w.alloc (.cells cs e)) (some ⟨w.heap.size,0,none⟩) cs.toList:=Src.lit w cs e
theorem BM.base (h:BM W0 H B M bc iv v l w Hr):W0.heap.size+1≤w.heap.size:=by have:=h.key.lt;omega
theorem BM.app (h:BM W0 H B M bc iv v l w Hr) (hO:OwnI w' (W0.heap.size+1) v' Hr (l++news)) (hg:w.grownBy w' v.ownBlock) (ha:At0 w v.ownBlock v'.ownBlock):BM W0 H B M bc iv v' (l++news) w' Hr :=
 ⟨h.grows.grownRow (fun g hg=>(h.apart g hg).1) (fun g hg=>by have:=(h.own.lt g hg).1;omega) hg,h.hK,h.hB,h.hM,h.ltB,h.ltM,h.ne,h.key.grown hg (fun e=>by have:=(h.own.lt _ e).1;omega),
  h.boxB.grown hg (fun e=>(h.apart _ e).2.1 rfl),h.boxM.grown hg (fun e=>(h.apart _ e).2.2 rfl),hO,fun g hv=>by
  rcases ha with e | ⟨g',e,hs⟩
  ·exact jb0
  rw[hv]at e;injection e with e
  subst e;have h1:=h.boxB.lt;have h2:=h.boxM.lt
  exact⟨h.grows.hidden hs,by omega,by omega⟩⟩
theorem BM.setM (h:BM W0 H B M bc iv v l w Hr) {iv':Value}(hB:Blk w' M 83 #[.int .i64 5,.int .u64 0,.slice none 0 0,iv']) (hg:w.grownBy w' (some M)):BM W0 H B M bc iv' v l w' Hr :=
 ⟨h.grows.grownOwn h.hM (by have:=h.ltM;omega) hg,h.hK,h.hB,h.hM,h.ltB,h.ltM,h.ne,h.key.grown hg (fun e=>by injection e with e;have:=h.ltM;omega),h.boxB.grown hg (fun e=>by injection e with e;exact h.ne e.symm),hB,
  h.own.kept hg (by
   cases hv:v.ownBlock with
   | none=>exact .inl rfl
   | some g=>exact .inr (fun e=>by injection e with e;exact(h.apart g hv).2.2 e)),h.apart⟩
theorem BM.item {A:Option Addr}{m c:Nat}(h:BM W0 H B M bc (.slice A m c) (.slice A m c) l w Hr) :
  ∃ H',Grows W0 H w H'∧m=l.length∧IsItem H' none 0 A c (.mk 5 0 [] l)∧H' W0.heap.size=none:=by
 obtain⟨H',hl,hh,hf,rfl,qZ,qa,un⟩:=h.own.snap h.grows.holds (fun g hg=>(h.apart g (by cases A <;> simp_all [Value.ownBlock])).1)
 refine⟨H',⟨h.grows.below,h.grows.le.trans hl,hh,fun b o hb=>?_⟩,rfl, ?_, ?_⟩
 ·exact jaV
 ·rw[IsItem]
  exact⟨⟨by omega,by omega,by omega,qZ,qa⟩,IsBytes.nil _,un⟩
 cases hx:H' W0.heap.size with
 | none=>rfl
 | some o =>
 rcases hf _ o hx with h1 | h1
 ·rw[h.hK]at h1;cases h1
 have:=(h.own.lt W0.heap.size (by cases A <;> simp_all [Value.ownBlock])).1;omega
end
abbrev TA:Value:=.agg #[.slice none 0 0,.int .i64 0,.int .u64 0,.slice none 0 0,.slice none 0 0,.int .i64 0,.int .u64 0,.slice none 0 0,.slice none 0 0]
theorem fW:(Tryz.prog.info? 148).map (fun i=>(i.zero,i.size,i.bytes))=some (some TA,9,152):=by kernel_rfl
theorem jL:(Tryz.prog.info? 146).map (·.size)=some 1:=by kernel_rfl
theorem m0b {w w':World}{p:Addr}{v:Value}(hb:Below w.heap.size w w') (h:w.cell? p=some v):w'.cell? p=some v:=zA h hb
def S4 (w:World) (H:Snap) (ps:List Itm) (e:Ending) (w':World):Prop:=∃ v,e=.returned (.tuple #[v,.int .i64 0])∧Gives w H (.mk 5 0 [] ps) v w'
inductive Pairs {α β:Type} (R:α→β→Prop):List α→List β→Prop
 | nil:Pairs R [] []
 | cons {a b l m}:R a b→Pairs R l m→Pairs R (a::l) (b::m)
theorem Pairs.perm {α β:Type}{R:α→β→Prop}{l l':List α}(hp:l'.Perm l):∀ {m:List β},Pairs R l m→∃ m',Pairs R l' m'∧m'.Perm m:=by
 induction hp with
 | nil=>intro m h;cases h;exact⟨[],.nil,.refl _⟩
 | cons x _ ih =>
  intro m h
  cases h with
  | cons hx hr =>
  obtain⟨m',h1,h2⟩:=ih hr
  exact⟨_::m',.cons hx h1,h2.cons _⟩
 | swap x y l =>
  intro m h
  cases h with
  | cons hx hr =>
  cases hr with
  | cons hy Uu=>exact⟨_,.cons hy (.cons hx Uu),.swap _ _ _⟩
 | trans _ _ ih1 ih2 =>
 intro m h
 obtain⟨m2,h1,h2⟩:=ih2 h;obtain⟨m3,h3,h4⟩:=ih1 h1
 exact⟨m3,h3,h4.trans h2⟩
theorem QA {α:Type}(k:α→List UInt8):Go.Sort.SWO (fun a b=>decide (Lib.compareBytes (k a) (k b)<0)) where
 irrefl:=fun x=>by rw[uJ];rfl
 trans:=fun x y z h1 h2=>by rw[decide_eq_true_eq]at *;exact rG _ _ _ h1 h2
 ntrans:=fun x y z h1 h2=>by
  rw[decide_eq_false_iff_not]at *
  intro h3
  by_cases e:Lib.compareBytes (k x) (k y)=0
  ·have:=(uK _ _).1 e;rw[this]at h3
   exact h2 h3
  have h4:=lF _ _ e h1
  exact h2 (rG _ _ _ h4 h3)
def Asc {α:Type}(k:α→List UInt8) (l:List α):Prop:=l.Pairwise fun a b=>Lib.compareBytes (k a) (k b)<0
theorem fK {α:Type}(k:α→List UInt8):∀ {l m:List α},Asc k l→Asc k m→l.Perm m→l=m
 | [],m,_,_,h=>by rw[List.nil_perm.1 h]
 | x::l,[],_,_,h=>by have:=h.length_eq;simp at this
 | x::l,y::m,hl,hm,h=>by
  have MP:=List.pairwise_cons.1 hl;have ZD:=List.pairwise_cons.1 hm
  have NQ:x=y:=by
   have hx:x∈y::m:=h.subset (by simp);have hy:y∈x::l:=h.symm.subset (by simp)
   simp only[List.mem_cons]at hx hy
   rcases hx with hx | hx
   ·exact hx
   rcases hy with hy | hy
   ·exact hy.symm
   have h1:=ZD.1 x hx;have h2:=MP.1 y hy;have h3:=rG _ _ _ h1 h2;rw[uJ]at h3
   omega
  subst NQ;rw[fK k MP.2 ZD.2 (h.cons_inv)]
theorem NU:∀ {l:List Itm},xE l=true→Asc (·.1) (pk l):=by
 have main:∀ (n:Nat) (l:List Itm),l.length≤n→xE l=true→Asc (·.1) (pk l)∧∀ a b r,l=a::b::r→∀ p∈pk r,Lib.compareBytes (zf a) p.1<0:=by
  intro n
  induction n with
  | zero =>
   intro l hl _
   obtain rfl:=List.eq_nil_of_length_eq_zero (by omega:l.length=0)
   exact⟨by simp only[pk];exact List.Pairwise.nil,fun _ _ _ h=>by cases h⟩
  | succ n ih =>
  intro l hl ha
  match l,hl,ha with
  | [],_,_=>exact⟨by simp only[pk];exact List.Pairwise.nil,fun _ _ _ h=>by cases h⟩
  | [_],_,_=>exact⟨by simp only[pk];exact List.Pairwise.nil,fun _ _ _ h=>by cases h⟩
  | [a,b],_,_=>exact⟨by simp only[pk];exact List.pairwise_singleton _ _,fun a' b' r h p hp=>by cases h;simp[pk]at hp⟩
  | a::b::c::r,hl,ha =>
  rw[xE,Bool.and_eq_true,decide_eq_true_eq]at ha;have h1:=ih (c::r) (by simp only[List.length_cons]at hl⊢;omega) ha.2
  have tX:∀ p∈pk (c::r),Lib.compareBytes (zf a) p.1<0:=by
   intro p hp
   match r,h1,hp with
   | [],_,hp=>simp[pk]at hp
   | d::r,h1,hp =>
   rw[pk,List.mem_cons]at hp
   rcases hp with rfl | hp
   ·exact ha.1
   exact rG _ _ _ ha.1 (h1.2 c d r rfl p hp)
  refine⟨?_,fun a' b' r' h p hp=>by cases h;exact tX p hp⟩
  rw[pk]
  exact List.pairwise_cons.2 ⟨tX,h1.1⟩
 exact fun {l} h=>(main _ l (Nat.le_refl _) h).1
def RP (H:Snap) (x:PE H) (p:Pr):Prop:=x.key=p.1∧n7.E H p (xU x)
theorem fR {H:Snap}(x:PE H):(xU x).length=9:=by simp[xU,x.len]
theorem ad {H:Snap}:∀ {l:List Pr}{cs:List Value},RowC n7 H cs l→∃ ds:List (PE H),Pairs (RP H) ds l∧cs=ds.flatMap xU
 | [],cs,h=>⟨[],.nil,by rw[RowC]at h;exact h⟩
 | x::l,cs,h=>by
  obtain⟨c,rest,rfl,⟨A,cc,ba,bc,ia,ic,ba',bc',ia',ic',rfl,hk,hy,hz⟩,hr⟩:=h;obtain⟨ds,h1,h2⟩:=ad hr
  refine⟨⟨A,cc,x.1,ze x.2.1 ba bc ia ic++ze x.2.2 ba' bc' ia' ic',rfl,by simp[ze,Value.oneCell'],hk⟩::ds,.cons ⟨rfl,⟨A,cc,ba,bc,ia,ic,ba',bc',ia',ic',rfl,hk,hy,hz⟩⟩ h1, ?_⟩
  rw[List.flatMap_cons,← h2];rfl
theorem dj {H:Snap}:∀ {ds:List (PE H)}{l:List Pr},Pairs (RP H) ds l→RowC n7 H (ds.flatMap xU) l
 | [],_,h=>by cases h;rw[RowC];rfl
 | x::ds,_,h=>by
  cases h with
  | cons hx hr=>exact⟨xU x,ds.flatMap xU,by rw[List.flatMap_cons],hx.2,dj hr⟩
theorem jq {α β:Type}{R:α→β→Prop}:∀ {l:List α}{m:List β},Pairs R l m→l.length=m.length
 | _,_,.nil=>rfl
 | _,_,.cons _ h=>by simp[jq h]
theorem Vd {H:Snap}:∀ {ds:List (PE H)}{l:List Pr},Pairs (RP H) ds l→Asc (·.key) ds→Asc (·.1) l:=by
 have mem:∀ {ds:List (PE H)} {l:List Pr},Pairs (RP H) ds l→∀ p∈l,∃ x∈ds,x.key=p.1:=by
  intro ds l h
  induction h with
  | nil=>intro p hp;cases hp
  | cons hx _ ih =>
  intro p hp
  rw[List.mem_cons]at hp
  rcases hp with rfl | hp
  ·exact⟨_,by simp,hx.1⟩
  obtain⟨x,h1,h2⟩:=ih p hp
  exact⟨x,by simp[h1],h2⟩
 intro ds l h
 induction h with
 | nil=>intro _;exact List.Pairwise.nil
 | cons hx hr ih =>
 intro ha
 have UW:=List.pairwise_cons.1 ha
 refine List.pairwise_cons.2 ⟨fun p hp=>?_,ih UW.2⟩
 obtain⟨y,h1,h2⟩:=mem hr p hp;have h3:=UW.1 y h1
 simp only at h3⊢
 rw[← hx.1,← h2]
 exact h3
theorem Y3 {H:Snap}{ds:List (PE H)}{l:List Pr}(h:Pairs (RP H) ds l):l.Pairwise (fun a b=>a.1≠b.1)→ds.Pairwise (fun a b=>a.key≠b.key):=by
 have mem:∀ {ds:List (PE H)} {l:List Pr},Pairs (RP H) ds l→∀ x∈ds,∃ p∈l,x.key=p.1:=by
  intro ds l h
  induction h with
  | nil=>intro p hp;cases hp
  | cons hx _ ih =>
  intro p hp
  rw[List.mem_cons]at hp
  rcases hp with rfl | hp
  ·exact⟨_,by simp,hx.1⟩
  obtain⟨x,h1,h2⟩:=ih p hp
  exact⟨x,by simp[h1],h2⟩
 induction h with
 | nil=>intro _;exact List.Pairwise.nil
 | cons hx hr ih =>
 intro ha
 have UW:=List.pairwise_cons.1 ha
 refine List.pairwise_cons.2 ⟨fun y hy=>?_,ih UW.2⟩
 obtain⟨p,h1,h2⟩:=mem hr y hy;rw[hx.1,h2]
 exact UW.1 p h1
theorem dX {H:Snap}:∀ (ds:List (PE H)) (t:Nat),t<ds.length*9→(ds.flatMap xU)[t]? = some ((xU ds[t/9]!)[t%9]!)
 | [],t,h=>by simp at h
 | x::ds,t,h=>by
  rw[List.flatMap_cons];have hx:=fR x
  by_cases h9:t<9
  ·rw[List.getElem?_append_left (by omega),Nat.div_eq_of_lt h9,Nat.mod_eq_of_lt h9]
   simp only[List.getElem!_cons_zero]
   rw[List.getElem!_eq_getElem?_getD,List.getElem?_eq_getElem (by omega)];rfl
  rw[List.getElem?_append_right (by omega),hx,dX ds (t-9) (by simp only[List.length_cons]at h;omega)];have e1:t/9=(t-9)/9+1:=by omega
  have e2:t%9=(t-9)%9:=by omega
  rw[e1,e2];rfl
theorem g9 {H:Snap}:∀ ds:List (PE H),(ds.flatMap xU).length=ds.length*9
 | []=>rfl
 | x::ds=>by rw[List.flatMap_cons,List.length_append,fR,g9 ds,List.length_cons];omega
theorem fT {H:Snap}(d:Array (PE H)):(Go.Sort.flatK xU 9 d).toList=d.toList.flatMap xU:=by
 apply List.ext_getElem?
 intro t
 by_cases ht:t<d.size*9
 ·rw[dX d.toList t (by simpa using ht)];have hs:t<(Go.Sort.flatK xU 9 d).size:=by rw[Go.Sort.size_flatK];exact ht
  have h1:=Go.Sort.get_flatK xU 9 d t ht;rw[getElem!_pos _ t hs]at h1;rw[Array.getElem?_toList,Array.getElem?_eq_getElem hs,h1];congr 2
  rw[getElem!_def]
  simp
  try rfl
 rw[List.getElem?_eq_none (by rw[Array.length_toList,Go.Sort.size_flatK];omega),List.getElem?_eq_none (by rw[g9];simp;omega)]
theorem TX {H:Snap}{t:TypeId}{w:World}{base m c:Nat}{A:Option Addr}{l:List Pr}(h:OwnX n7 t w base (.slice A m c) H l) (h0:0<l.length) :
  ∃ (g:Nat) (d:Array (PE H)),A=some ⟨g,0,none⟩∧base≤g∧g<w.heap.size∧d.size=l.length∧Pairs (RP H) d.toList l∧Go.Sort.HoldsK xU 9 w g 0 d:=by
 obtain⟨cs,oV,h⟩:=h
 rcases h.2 with ⟨hv,hz⟩ | ⟨g,cap,cur,hv,hb,hg,hc,hm,hcz,ht⟩
 ·omega
 cases hv
 obtain⟨ds,h1,h3⟩:=ad oV;have hl:=jq h1
 refine⟨g,ds.toArray,rfl,hb,(Array.getElem?_eq_some_iff.1 hg).1,by simpa using hl,by simpa using h1,fun j hj=>?_⟩
 have Cw:j<(Go.Sort.flatK xU 9 ds.toArray).toList.length:=by simpa using hj
 have e:(Go.Sort.flatK xU 9 ds.toArray).toList[j]? = cs[j]? :=by rw[fT,h3]
 rw[List.getElem?_eq_getElem Cw,← ht,List.getElem?_take]at e
 split at e
 ·refine⟨?_,by simp[World.frozen?,hg]⟩
  rw[Nat.zero_add,cell_of_row w g j cur t (0,0) hg];rw[getElem!_pos _ j hj]
  simpa using e.symm
 cases e
theorem Si {H:Snap}{t:TypeId}{w:World}{base m c g:Nat}{l q:List Pr}(h:OwnX n7 t w base (.slice (some ⟨g,0,none⟩) m c) H l) {d':Array (PE H)}(hd:d'.size=l.length) (hq:Pairs (RP H) d'.toList q) (k:Nat) (os:Array Obj) :
  OwnX n7 t (Go.Sort.grow (Go.Sort.putRowK xU 9 (Sort.ahead w k) g 0 d') os) base (.slice (some ⟨g,0,none⟩) m c) H q∧w.grownBy (Go.Sort.grow (Go.Sort.putRowK xU 9 (Sort.ahead w k) g 0 d') os) (some g):=by
 obtain⟨cs,oV,h⟩:=h;have PF:q.length=l.length:=by have:=jq hq;simp at this;omega
 rcases h.2 with ⟨hv,hz⟩ | ⟨g',cap,cur,hv,hb,hg,hc,hm,hcz,ht⟩
 ·cases hv
 cases hv
 have yC:g<w.heap.size:=(Array.getElem?_eq_some_iff.1 hg).1;have hF:(Go.Sort.flatK xU 9 d').size=l.length*9:=by rw[Go.Sort.size_flatK,hd]
 have gv:(Go.Sort.grow (Go.Sort.putRowK xU 9 (Sort.ahead w k) g 0 d') os).heap[g]? = some (.cells (Go.Sort.putCells id 0 (Go.Sort.flatK xU 9 d') cur) t (0,0)):=by
  show(w.heap.modify g (Go.Sort.onCells (Go.Sort.putCells id 0 (Go.Sort.flatK xU 9 d')))++os)[g]? = _
  rw[Array.getElem?_append_left (by simpa using yC),Array.getElem?_modify,if_pos rfl,hg];rfl
 refine⟨⟨d'.toList.flatMap xU,dj hq,by rw[g9,PF];simp[hd];rfl,.inr ⟨g,c,_,by rw[PF],hb,gv,by rw[PF];exact hc,hm,by simp[Go.Sort.putCells,hcz], ?_⟩⟩,⟨rfl,rfl,rfl,by show w.heap.size≤(w.heap.modify g _++os).size;simp,fun i hi uy=>?_⟩⟩
 ·apply List.ext_getElem?
  intro j
  have AZ:l.length*9≤cur.size:=by rw[hcz];exact Nat.mul_le_mul_right _ hc
  rw[← fT,List.getElem?_take];show(if j<q.length*9 then _ else _)=_
  rw[PF]
  split
  ·rename_i hj
   have F4:j<cur.size:=by omega
   rw[Array.getElem?_toList,Array.getElem?_toList]
   unfold Go.Sort.putCells
   rw[Array.getElem?_mapIdx,Array.getElem?_eq_getElem F4,Array.getElem?_eq_getElem (by omega:j<(Go.Sort.flatK xU 9 d').size)]
   simp only[Option.map_some]
   rw[if_pos (by omega),Nat.sub_zero,getElem!_pos _ j (by omega)];rfl
  rename_i hj
  rw[List.getElem?_eq_none (by rw[Array.length_toList];omega)]
 show(w.heap.modify g _++os)[i]? = _
 rw[Array.getElem?_append_left (by simpa using hi),Array.getElem?_modify,if_neg (fun e=>uy (by rw[e]))]
theorem Vr {α:Type}[Inhabited α] (k:α→List UInt8) (d d':Array α) (hn:d.toList.Pairwise fun a b=>k a≠k b) (ZE:Go.Sort.PermIn 0 d.size d d') (hs:Go.Sort.SortedIn (fun a b=>decide (Lib.compareBytes (k a) (k b)<0)) 0 d.size d') :
  d'.toList.Perm d.toList∧Asc k d'.toList:=by
 obtain⟨fB,_,hp⟩:=ZE
 have ej:d'.toList.Perm d.toList:=by
  have e1:(d'.extract 0 d.size)=d':=by rw[← fB];simp
  have e2:(d.extract 0 d.size)=d:=by simp
  rw[e1,e2]at hp
  exact hp
 refine⟨ej, ?_⟩
 have WO:d'.toList.Pairwise fun a b=>k a≠k b:=(ej.pairwise_iff (fun h=>Ne.symm h)).2 hn
 unfold Asc
 rw[List.pairwise_iff_getElem]at WO⊢
 intro i j hi hj hij
 have h1:=WO i j hi hj hij;have h2:=hs i j (Nat.zero_le _) hij (by simp at hj;omega)
 simp only[decide_eq_false_iff_not]at h2
 rw[getElem!_pos d' j (by simpa using hj),getElem!_pos d' i (by simpa using hi)]at h2;have h3:¬ Lib.compareBytes (k d'[j]) (k d'[i])=0:=fun e=>h1 (by simpa using ((uK _ _).1 e).symm)
 have h4:=lF _ _ h3 h2
 simpa using h4
theorem YK {H:Snap}{d d':Array (PE H)}{l q:List Pr}(hp:Pairs (RP H) d.toList l) (hq:q.Perm l) (ha:Asc (·.1) q) (ZE:Go.Sort.PermIn 0 d.size d d') (hs:Go.Sort.SortedIn bM 0 d.size d') :
  d'.size=d.size∧Pairs (RP H) d'.toList q:=by
 have hn:l.Pairwise fun a b=>a.1≠b.1:=by
  refine(hq.pairwise_iff (fun h=>Ne.symm h)).1 (ha.imp fun h e=>?_)
  simp only at h
  rw[e,uJ]at h
  omega
 have e:(fun a b:PE H=>decide (Lib.compareBytes a.key b.key<0))=bM:=rfl;obtain⟨h1,h2⟩:=Vr (fun x:PE H=>x.key) d d' (Y3 hp hn) ZE (by rw[e];exact hs);obtain⟨q',h3,h4⟩:=Pairs.perm h1 hp;have h5:=fK (·.1) (Vd h3 h2) ha (h4.trans hq.symm);subst h5
 exact⟨by have:=h1.length_eq;simpa using this,h3⟩
theorem Nt {H:Snap}:Go.Sort.SWO (bM (H:=H)):=QA (fun x:PE H=>x.key)
end Go.Proofs.YtgaoknihklmakabGreatDoor
namespace Go.Proofs.YtgaoknihklmakabGreatDoor
open Go.RowKit Go.Shelf Go.Lib
theorem YI {H:Snap}(d:Array (PE H)) (h2:2≤d.size) (Yo:d.size<4611686018427387904) (blk off c Bs:Nat) (w:World)
  (hW:Holds w H) (hHb:H blk=none) (hH:Go.Sort.HoldsK xU 9 w blk off d) (hblk:blk<w.heap.size) (hs:w.cell? ⟨Bs,0,none⟩=some (.slice (some ⟨blk,off,none⟩) d.size c)) (RN:Bs≠blk) (hBl:Bs<w.heap.size) :
  Calls Tryz.prog 110 #[.iface 146 (.slice (some ⟨blk,off,none⟩) d.size c),.func (.func 111) #[] #[.pointer (some ⟨Bs,0,none⟩)]] w fun e w'=>e=.returned (.tuple #[])∧∃ (d':Array (PE H)) (n:Nat) (os:Array Obj),Go.Sort.PermIn 0 d.size d d'∧Go.Sort.SortedIn bM 0 d.size d'∧w'=Go.Sort.grow (Go.Sort.putRowK xU 9 (Sort.ahead w n) blk off d') os:=by
 have Jv:LessReadsK (α:=PE H) Tryz.prog 111 #[.pointer (some ⟨Bs,0,none⟩)] xU 9 bM blk off d.size w:=by
  intro m os dk fB i j hi hj
  have CZ:Go.Sort.HoldsK xU 9 (Sort.ahead w m) blk off d:=Go.Sort.holdsK_ahead xU 9 w m blk off d hH;have Ca:=Go.Sort.holdsK_putRowK xU 9 (Sort.ahead w m) blk off d dk CZ fB;have OW:(Go.Sort.putRowK xU 9 (Sort.ahead w m) blk off dk).heap.size=w.heap.size:=Go.Sort.size_putRow id (Sort.ahead w m) blk off _;have Jr:blk<(Go.Sort.putRowK xU 9 (Sort.ahead w m) blk off dk).heap.size:=by rw[OW];exact hblk
  have CY:=Go.Sort.holdsK_grow xU 9 (Go.Sort.putRowK xU 9 (Sort.ahead w m) blk off dk) os blk off dk Jr Ca
  have Ck:Holds (Go.Sort.grow (Go.Sort.putRowK xU 9 (Sort.ahead w m) blk off dk) os) H:=fun b o hb=>by
   have jf:=hW.lt hb;have uy:b≠blk:=fun e=>by rw[e,hHb]at hb;cases hb
   rw[Go.Sort.heap_grow_old _ _ (by rw[OW];exact jf)]
   have hq:(w.heap.modify blk (Go.Sort.onCells (Go.Sort.putCells id off (Go.Sort.flatK xU 9 dk))))[b]? = some o:=by
    rw[Array.getElem?_modify,if_neg (Ne.symm uy)]
    exact hW b o hb
   exact hq
  refine(Xu blk off c Bs d.size _ Ck (fun t=>dk[t]!) ?_ (fun t ht=>?_) i j hi hj)
  ·rw[Go.Sort.cell?_grow _ _ _ (by rw[OW];exact hBl),Go.Sort.cell?_putRowK_other xU 9 _ _ _ _ _ RN]
   exact hs
  exact(CY.cell (i:=t) (c:=0) (by omega) (by omega)).1
 have hS:=Any.sort_Slice_cells_sorted (α:=PE H) gJ 146 148 pairTI pairEI (by kernel_rfl) (by kernel_rfl) (by kernel_rfl) (by kernel_rfl) 25 (fun _=>by kernel_rfl) xU 9 VB (by kernel_rfl) (fun _=>by kernel_rfl)
  (fun x v hv=>by
   rw[xU,List.mem_cons]at hv
   rcases hv with rfl | hv
   ·rfl
   exact x.one v hv) bM Nt 111 _
  (enters_of Tryz.func111 (by kernel_rfl) rfl) blk off c d h2 Yo 147 (by rw[Nq _ h2];kernel_rfl) false
  (fun args W=>run_callFunc_extern Tryz.func147 (by kernel_rfl) (by kernel_rfl) (by kernel_rfl) (e:=Extern.ReflectliteSwapper.swap false) (by kernel_rfl) args W) w Jv hH hblk
 change Calls Tryz.prog 110 _ _ _ at hS
 exact hS.mono fun e w' ⟨he,d',n,os,h1,h2,hw⟩=>⟨he,d',n,os,h1,h2,hw⟩
theorem Zu {H:Snap}{w:World}{base m c:Nat}{A:Option Addr}{l q:List Pr}(hO:OwnX n7 148 w base (.slice A m c) H l) (hm:m=l.length) (h2:2≤l.length) (Yo:l.length<4611686018427387904)
  (hq:q.Perm l) (ha:Asc (·.1) q) (hW:Holds w H) (hap:∀ g,(Value.slice A m c).ownBlock=some g→H g=none) (Bs:Nat) (hs:w.cell? ⟨Bs,0,none⟩=some (.slice A m c)) (RN:(Value.slice A m c).ownBlock≠some Bs) (hBl:Bs<w.heap.size) :
  Calls Tryz.prog 110 #[.iface 146 (.slice A m c),.func (.func 111) #[] #[.pointer (some ⟨Bs,0,none⟩)]] w fun e w'=>e=.returned (.tuple #[])∧OwnX n7 148 w' base (.slice A m c) H q∧w.grownBy w' (Value.slice A m c).ownBlock:=by
 obtain⟨g,d,rfl,F0,yC,Pq,hp,CX⟩:=TX hO (by omega);have IW:m=d.size:=by rw[hm,Pq]
 have SC:=YI d (by omega) (by omega) g 0 c Bs w hW (hap g rfl) CX yC (by rw[← IW];exact hs) (fun e=>RN (by rw[e];rfl)) hBl;rw[← IW]at SC
 refine SC.mono fun e w' ⟨he,d',n,os,h1,h2,hw⟩=>⟨he, ?_⟩
 rw[IW]at h1 h2;obtain⟨fB,D4⟩:=YK hp hq ha h1 h2;rw[hw]
 exact Si (w:=w) hO (d':=d') (by rw[fB,Pq]) D4 n os
theorem XM.perm {α:Type}{L:Lie α}{t bt kt:TypeId}{W0 w w':World}{H Hr:Snap}{B:Nat}{kc:Array Value}{bv v:Value}{l l':List α}(h:XM L t bt kt W0 H B kc bv v l w Hr) (hO:OwnX L t w' (W0.heap.size+1) v Hr l') (hg:w.grownBy w' v.ownBlock):XM L t bt kt W0 H B kc bv v l' w' Hr :=
 ⟨h.grows.grownRow h.apart (fun g hg=>by have:=(h.own.lt g hg).1;omega) hg,h.hK,h.key.grown hg (fun e=>by have:=(h.own.lt _ e).1;omega),hO,h.apart,h.lt,h.hB,h.box.grown hg h.far,h.far⟩
theorem Wp (n:Nat) (h:n≤1):Lib.swapperK n pairEI 25=n+1:=by
 rcases Nat.eq_zero_or_pos n with h0 | h0
 ·subst h0;simp[Lib.swapperK]
 obtain rfl:n=1:=by omega
 simp[Lib.swapperK]
theorem YJ {H:Snap}(n:Nat) (hn:n≤1) (p:Option Addr) (c Bs:Nat) {w:World}(hW:Holds w H) :
  Calls Tryz.prog 110 #[.iface 146 (.slice p n c),.func (.func 111) #[] #[.pointer (some ⟨Bs,0,none⟩)]] w fun e w'=>e=.returned (.tuple #[])∧Below w.heap.size w w':=by
 have fin:∀ (w':World) os,w'=Go.Sort.grow w os→Below w.heap.size w w':=fun w' os hw=>by
  rw[hw]
  exact⟨rfl,rfl,rfl,by show w.heap.size≤(w.heap++os).size;rw[Array.size_append];omega,fun _ hj=>Go.Sort.heap_grow_old w os hj⟩
 rcases Nat.eq_zero_or_pos n with h0 | h0
 ·subst h0;have hS:=Any.sort_Slice_tiny gJ 146 148 pairTI pairEI (by kernel_rfl) (by kernel_rfl) (by kernel_rfl) (by kernel_rfl) 25 (fun _=>by kernel_rfl) p 0 c (by omega) 139 (by rw[Wp 0 (by omega)];kernel_rfl) (.func 111) #[] #[.pointer (some ⟨Bs,0,none⟩)] w;exact jcZ
 obtain rfl:n=1:=by omega
 have hS:=Any.sort_Slice_tiny gJ 146 148 pairTI pairEI (by kernel_rfl) (by kernel_rfl) (by kernel_rfl) (by kernel_rfl) 25 (fun _=>by kernel_rfl) p 1 c (by omega) 140 (by rw[Wp 1 (by omega)];kernel_rfl) (.func 111) #[] #[.pointer (some ⟨Bs,0,none⟩)] w;exact jcZ
theorem Y5 {α:Type}{q l:List α}(h:q.Perm l) (hl:l.length≤1):q=l:=by
 match l,hl,h with
 | [],_,h=>exact h.eq_nil
 | [x],_,h=>exact List.perm_singleton.1 h
theorem Zt {H:Snap}{w:World}{base m c:Nat}{A:Option Addr}{l q:List Pr}(hO:OwnX n7 148 w base (.slice A m c) H l) (hm:m=l.length) (Yo:l.length<4611686018427387904)
  (hq:q.Perm l) (ha:Asc (·.1) q) (hW:Holds w H) (hap:∀ g,(Value.slice A m c).ownBlock=some g→H g=none) (Bs:Nat) (hs:w.cell? ⟨Bs,0,none⟩=some (.slice A m c)) (RN:(Value.slice A m c).ownBlock≠some Bs) (hBl:Bs<w.heap.size) :
  Calls Tryz.prog 110 #[.iface 146 (.slice A m c),.func (.func 111) #[] #[.pointer (some ⟨Bs,0,none⟩)]] w fun e w'=>e=.returned (.tuple #[])∧OwnX n7 148 w' base (.slice A m c) H q∧w.grownBy w' (Value.slice A m c).ownBlock:=by
 by_cases h2:2≤l.length
 ·exact Zu hO hm h2 Yo hq ha hW hap Bs hs RN hBl
 obtain rfl:=Y5 hq (by omega)
 exact(YJ m (by omega) A c Bs hW).mono fun e w' ⟨he,hb⟩=>⟨he,hO.below hb,wW hb _⟩
end Go.Proofs.YtgaoknihklmakabGreatDoor
namespace Go.Proofs.YtgaoknihklmakabGreatDoor
open Go.RowKit
theorem nj {H:Snap}(hTab:Tabs H) {A:Option Addr}{c:Nat}{ps:List Itm}(hr:IsRowI H A c ps) (sV:ps.length%2=0) (h4:0≤ps.length) (tZ:ps.length≤1000) {qs:List Itm}(PF:qs.length=ps.length) (hperm:(pk qs).Perm (pk ps)) (oG:xE qs=true)
  (ug:∀ x∈ps,zR x=true) (hwh:zR (.mk 5 0 [] qs)=true) (w:World) (hH:Holds w H) :
  Calls Tryz.prog 92 #[.slice A ps.length c] w (S4 w H qs):=by
 have hT:=Blk.new w 83 xi;have hb:=zm w zg;have yj:H w.heap.size=none:=hH.none_of_ge (Nat.le_refl _);have b1:((ps.length:Int)%2==1)=false:=by rw[beq_eq_false_iff_ne];omega
 have p1:((ps.length:Int)%2=1)=False:=eq_false (by omega);have HR:=Hh hr;have HC:=Hh (And.intro sV (And.intro h4 tZ));have HA:=Hh (And.intro oG (And.intro ug hwh));have HQ:=Hh (And.intro PF hperm);clear sV h4 tZ oG ug hwh hr PF hperm;go_enter Tryz.func92,Tryz.ntmps92
 go_wp2_with fail
 go_loopw [18] (fun v18 wr=>∃ j:Nat,j≤ps.length∧v18=.int .i64 j∧Below w.heap.size w wr∧Blk wr w.heap.size 83 xi) (fun v18 _=>ps.length-(intOf v18).toNat)
 case atStart=>exact⟨0,Nat.zero_le _,rfl,hb,hT⟩
 case round =>
 clear hb hT b1 p1;obtain⟨j,hj,rfl,ws,uE⟩:=hrel
 by_cases zB:j<ps.length
 ·have vv:=hH.below ws (Nat.le_refl _);obtain⟨ib,io,pf,un⟩:=HR.out.elems (by omega);obtain⟨y1,y2,y3,y4,q0,q1,q2,q3,rx⟩:=un.get j zB;subst pf;have p0:=vv.cell q0;have p1':=vv.cell q1;have p2:=vv.cell q2;have p3:=vv.cell q3;have JF:=vv.alloc (zU ps[j] y1 y2 y3 y4);have V:=Hh (tG hTab rx.arg _ JF);rw[HA.out.2.1 _ (List.getElem_mem zB)]at V;have zC:=ws.alloc ws.size (zU ps[j] y1 y2 y3 y4);have tK:=uE.alloc (zU ps[j] y1 y2 y3 y4)
  generalize ps[j]'zB=x at *
  clear q0 q1 q2 q3 un rx ws uE vv JF;go_wp2_with fail
  refine V.out.mono ?_
  rintro e w3 ⟨rfl,xy⟩
  have vq:=tK.below xy;have yg:=zC.trans (xy.mono zC.size);have oH:(j:Int)+1≤9223372036854775807:=by have:=HC.out.2.2;omega
  clear tK zC xy;go_wp2_with fail
  go_roundw
  case rel=>exact⟨j+1,by omega,by go_num,yg,vq⟩
  case measure=>simp[intOf];omega
 have tF:j=ps.length:=by omega
 subst tF;clear zB hj;obtain⟨n,hn⟩:∃ n,ps.length=2*n:=⟨ps.length/2,by have:=HC.out.1;omega⟩
 have hq:((ps.length:Int)/2)=(n:Int):=by omega
 have D7:(ps.length:Int).tdiv 2=(n:Int):=by rw[Int.tdiv_eq_ediv_of_nonneg (by omega)];omega
 have HN:=Hh hn;have Yh:n≤500:=by have:=HC.out.2.2;omega
 have hG:=Grows.of_below hH ws;obtain⟨i0,uZ,bh,qV,q9⟩:=info_parts fW;clear hn ws;go_wp2_with (at_make;refine yq ?_)
 refine wpList_make_own wr rfl _ _ 146 rfl (w.heap.size+1) 148 i0 _ 9 Tryz.underlying146 uZ bh qV .i64 .i64 (n:Int) n rfl rfl rfl (by rw[q9];omega) (by simp only[maxLen];omega) (by have:=uE.lt;omega) fun w4 gT rW=>?_
 have xj:=hG.below_ (yr rW);have hX:=XM.start (bt:=146) (bv:=.slice none 0 0) xj yj (uE.grown rW (by simp)) (show OwnX n7 148 w4 (w.heap.size+1) (.slice (some ⟨wr.heap.size,0,none⟩) 0 n) H [] from⟨[],RowC.nil _ _,gT⟩) (fun g hg=>by simp[Value.ownBlock]at hg;subst hg;exact hG.hidden (Nat.le_refl _));obtain⟨B,hB⟩:∃ B,w4.heap.size=B:=⟨_,rfl⟩
 obtain⟨g0,bX⟩:∃ g0,wr.heap.size=g0:=⟨_,rfl⟩
 rw[hB]at hX;rw[bX]at hX⊢;clear gT rW xj hG uE uZ bh qV q9 bX;go_wp2_with (with_reducible refine zx ?_)
 unfold z8
 try rw[hB]
 refine zu rfl _ _ _ rfl rfl B 0 (.slice (some ⟨g0,0,none⟩) 0 n) rfl rfl _ _ hX.box jL (by simp) rfl fun w5 qc te=>?_
 replace hX:=hX.setBox (by simpa using qc) te;clear qc te hB hq D7;go_wp2_with fail
 go_loopw [7] (fun v7 wx=>∃ (j:Nat) (Hx:Snap) (VA:Option Addr) (m vc:Nat),j≤ps.length∧j%2=0∧v7=.int .i64 (j:Int)∧m=j/2∧(∃ g':Nat,VA=some ⟨g',0,none⟩)∧XM n7 148 146 83 w H B xi (.slice VA m vc) (.slice VA m vc) (pk (ps.take j)) wx Hx) (fun v7 _=>ps.length-(intOf v7).toNat)
 case atStart=>exact⟨0,H,some ⟨g0,0,none⟩,0,n,Nat.zero_le _,rfl,rfl,rfl,⟨g0,rfl⟩,by simpa [pk] using hX⟩
 case round =>
 clear hX;obtain⟨j,Hx,VA,m,vc,hj,XE,rfl,hm,Ek,hX⟩:=hrel;have Bj:=Hh Ek;clear Ek;have HJ:=Hh (And.intro XE hm);clear XE hm
 by_cases zB:j<ps.length
 ·have sY:j+1<ps.length:=by have:=HJ.out.1;have:=HC.out.1;omega
  have Yf:(j:Int)<ps.length:=by omega
  have bB:(j:Int)+1<ps.length:=by omega
  have oH:(j:Int)+2≤9223372036854775807:=by have:=HC.out.2.2;omega
  have Mq:=jgu;have Qt:(0:Int)≤(j:Int)+1:=by omega
  obtain⟨ib,io,pf,un⟩:=HR.out.elems (by omega);obtain⟨y1,y2,y3,y4,q0,q1,q2,q3,dE⟩:=un.get j zB;obtain⟨z1,z2,z3,z4,s0,s1,s2,s3,mR⟩:=un.get (j+1) sY;subst pf;have HV:=Hh (sv (HA.out.2.1 _ (List.getElem_mem zB)))
  have Ds:Hid (pk (ps.take (j+2))=pk (ps.take j)++[(zf ps[j],ps[j],ps[j+1])]):=by
   obtain⟨i,rfl⟩:∃ i,j=2*i:=⟨j/2,by have:=HJ.out.1;omega⟩
   exact QW ps i sY
  have RI:Hid ((pk (ps.take j)).length=m):=by rw[Hid,gN,List.length_take];have:=HJ.out;omega
  have xO:=hX.grows.le;have q0:=xO.cell q0;have q1:=xO.cell q1;have q2:=xO.cell q2;have q3:=xO.cell q3;have s0:=xO.cell s0;have s1:=xO.cell s1;have s2:=xO.cell s2;have s3:=xO.cell s3;have dE:=dE.mono xO;have mR:=mR.mono xO
  generalize ps[j]'zB=y at *
  generalize ps[j+1]'sY=z at *
  generalize pk (ps.take j)=L at hX Ds RI
  clear un xO hj;go_upto_region 13 with fail
  replace hX:=hX.drew;have Iq:=Hh (And.intro dE mR);clear dE mR
  refine zX 17 (fun wx=>wx.cell? ⟨B,0,none⟩=some (.slice VA m vc)∧wx.cell? ⟨ib,io+j*4,none⟩=some (.int .i64 y.kind)∧wx.cell? ⟨ib,io+j*4+1,none⟩=some (.int .u64 y.n)∧wx.cell? ⟨ib,io+j*4+2,none⟩=some (.slice y1 y.bytes.length y2)∧wx.cell? ⟨ib,io+j*4+3,none⟩=some (.slice y3 y.items.length y4)∧wx.cell? ⟨ib,io+(j+1)*4,none⟩=some (.int .i64 z.kind)∧wx.cell? ⟨ib,io+(j+1)*4+1,none⟩=some (.int .u64 z.n)∧wx.cell? ⟨ib,io+(j+1)*4+2,none⟩=some (.slice z1 z.bytes.length z2)∧wx.cell? ⟨ib,io+(j+1)*4+3,none⟩=some (.slice z3 z.items.length z4)) (by kernel_rfl) (⟨hX.box.cell 0 rfl,hX.grows.holds.cell q0,hX.grows.holds.cell q1,hX.grows.holds.cell q2,hX.grows.holds.cell q3,hX.grows.holds.cell s0,hX.grows.holds.cell s1,hX.grows.holds.cell s2,hX.grows.holds.cell s3⟩) (fun zy=>?_)
  refine Zk 0 rfl zy ?_
  refine Zk 1 rfl zy ?_
  refine Zk 2 rfl zy ?_
  refine Zk 3 rfl zy ?_
  refine Zk 4 rfl zy ?_
  refine Zk 6 rfl zy ?_
  refine Zk 7 rfl zy ?_
  refine Zk 8 rfl zy ?_
  refine Zk 9 rfl zy ?_
  refine Zk 10 rfl zy ?_
  refine Zk 11 rfl zy ?_
  refine Zk 12 rfl zy ?_
  refine Zk 13 rfl zy ?_
  refine Zk 14 rfl zy ?_
  refine Zo 5 rfl fun K hK=>?_
  go_simp
  refine(qp y Hx _ _ _ _ _ _ _ _ _ _ (.slice none 0 0) [] HV.out.1 Iq.out.1.arg hX.grows.holds (OwnB.nil _ _) (Nat.le_refl _) (by simp[Value.ownBlock]) (by have:=HV.out.2.2;simp;omega)).mono ?_
  rintro e w5 ⟨r5,rfl,X9,te,_⟩
  obtain⟨A5,c5,rfl,_⟩:=OwnB.form X9;obtain⟨H5,xT,Uh,_⟩:=Fresh.snapB hX.grows.holds ⟨X9,yr te⟩;have hX:=hX.grow xT;have q0:=xT.le.cell q0;have q1:=xT.le.cell q1;have q2:=xT.le.cell q2;have q3:=xT.le.cell q3;have s0:=xT.le.cell s0;have s1:=xT.le.cell s1;have s2:=xT.le.cell s2;have s3:=xT.le.cell s3
  refine Ko hK ?_ fun zy=>?_
  ·exact jbP
  clear hK K
  refine Zk 15 rfl zy ?_
  refine Zo 16 rfl fun K hK=>?_
  go_simp
  have Kk:RowC n7 H5 (.slice A5 (zf y).length c5::(ze y y1 y2 y3 y4++ze z z1 z2 z3 z4)) [(zf y,y,z)]:=RowC.one ⟨A5,c5,y1,y2,y3,y4,z1,z2,z3,z4,rfl,Uh,Iq.out.1.mono xT.le,Iq.out.2.mono xT.le⟩;have hZ:=hX.litZ (.slice A5 (zf y).length c5::(ze y y1 y2 y3 y4++ze z z1 z2 z3 z4)).toArray 148;have hX:=hX.alloc (.cells (.slice A5 (zf y).length c5::(ze y y1 y2 y3 y4++ze z z1 z2 z3 z4)).toArray 148)
  refine Ko hK ?_ fun zy=>?_
  ·exact jbP
  clear hK K
  refine Zo 17 rfl fun K hK=>?_
  rw[if_pos (by rfl)]
  refine OwnX.append_wp2 (L:=n7) _ _ 146 rfl Tryz.underlying146 rfl (by omega) fW rfl hX.own _ _ _ _ [(zf y,y,z)] rfl rfl Kk hZ (by have:=RI.out;have:=HJ.out.2;have:=HC.out.2.2;simp;omega) hX.base fun v7 w7 vr yQ ha7=>?_
  have hX:=hX.app vr yQ ha7;obtain⟨A7,c7,rfl,_⟩:=vr.form;have Av:Hid (∃ g':Nat,A7=some ⟨g',0,none⟩):=by obtain⟨g',d',h1,_⟩:=TX vr (by simp);exact⟨g',h1⟩
  rw[show(L++[(zf y,y,z)]).length=m+1 by have:=RI.out;simp;omega]at hX⊢;clear vr yQ ha7 hZ Kk
  refine Kz hK ?_
  clear hK K
  refine Zo 18 rfl fun K hK=>?_
  rw[if_pos (by rfl)]
  refine yw _ _ _ rfl B 0 (.slice A7 (m+1) c7) rfl rfl _ _ hX.box jL (by simp) rfl fun w8 hB8 hg8=>?_
  have hX:=hX.setBox (by simpa using hB8) hg8;clear hB8 hg8
  refine Kz hK ?_
  clear hK K
  refine WaysZ.done (by kernel_rfl) ?_
  clear zy q0 q1 q2 q3 s0 s1 s2 s3 xT Uh;go_wp2_with fail
  go_roundw
  case rel=>exact⟨j+2,H5,A7,m+1,c7,by omega,by have:=HJ.out.1;omega,by go_num,by have:=HJ.out;omega,Av.out,by rw[Ds.out];exact hX⟩
  case measure=>simp[intOf];omega
 have tF:j=ps.length:=by omega
 subst tF;clear zB hj;rw[List.take_length]at hX;have i6:(pk ps).length=n:=by rw[gN,HN.out];omega
 obtain rfl:m=n:=by have:=HJ.out.2;have:=HN.out;omega
 have FF:(pk qs).length=m:=by rw[HQ.out.2.length_eq,i6]
 have PQ:Asc (·.1) (pk qs):=NU HA.out.1;have SRT:=Zt (q:=pk qs) hX.own i6.symm (by omega) HQ.out.2 PQ hX.grows.holds hX.apart B (hX.box.cell 0 rfl) hX.far hX.box.lt;have SRTH:=Hh SRT;obtain⟨g,Cs⟩:=Bj.out;subst Cs;have c0:=hX.box.cell 0 rfl;have RI:=Hh FF;clear SRT PQ FF i6;go_wp2_with fail
 refine SRTH.out.mono ?_
 rintro e w9 ⟨rfl,nY,yO⟩
 replace hX:=hX.perm nY yO;obtain⟨H9,vy,qb,GE,Jx,Ec,iI⟩:=hX.snap;clear GE;have OI:=hX.box;have qW:=hX.key;have LK:=hX.lt;clear hX nY yO SRTH c0 qb;have Kf:=OI.lt;have hM:=(Blk.new w9 83 xi)
 have JI:H9 w9.heap.size=none:=vy.holds.none_of_ge (Nat.le_refl _);obtain⟨M,JH⟩:∃ M,w9.heap.size=M:=⟨_,rfl⟩
 have HM:=Hh (And.intro vy.size (And.intro Kf JH));rw[JH]at hM JI;go_wp2_with (with_reducible refine zx ?_)
 unfold z8
 try rw[JH]
 refine zv rfl _ _ _ rfl rfl M _ rfl rfl _ _ hM zt rfl (rU _ _ _ _ rfl rfl rfl rfl) fun w11 hM11 hg11=>?_
 have hS:BM w H B M #[.slice (some ⟨g,0,none⟩) m vc] (.slice none 0 0) (.slice none 0 0) [] w11 H9 :=
  ⟨(vy.alloc zg).grownOwn JI (by have:=HM.out;omega) hg11,Ec,iI,JI,LK,by have:=qW.lt;have:=HM.out;omega,by have:=HM.out;omega,(qW.alloc zg).grown hg11 (fun e=>by injection e with e;have:=qW.lt;have:=HM.out;omega),
   (OI.alloc zg).grown hg11 (fun e=>by injection e with e;have:=HM.out;omega),hM11,OwnI.nil _ _ _,fun g hg=>by simp[Value.ownBlock]at hg⟩
 have c0:=hS.boxB.cell 0 rfl;clear hM JI JH hg11 hM11 OI qW LK Kf vy Ec iI;go_wp2_with fail
 go_loopw [62] (fun v62 wx=>∃ (i:Nat) (Hx:Snap) (VA:Option Addr) (vm v9:Nat),i≤m∧v62=.int .i64 (i:Int)∧vm=2*i∧H9.le Hx∧BM w H B M #[.slice (some ⟨g,0,none⟩) m vc] (.slice VA vm v9) (.slice VA vm v9) (qs.take (2*i)) wx Hx) (fun v62 _=>m-(intOf v62).toNat)
 case atStart=>exact⟨0,H9,none,0,0,Nat.zero_le _,rfl,rfl,Snap.le.refl _,by simpa using hS⟩
 case round =>
 clear hS c0;obtain⟨i,Hx,VA,vm,v9,MK,rfl,FV,xO,hS⟩:=hrel;have HI:=Hh (And.intro MK FV);clear MK FV
 by_cases zB:i<m
 ·have sZ:2*i+1<qs.length:=by have:=HN.out;have:=HQ.out.1;omega
  have Yf:(i:Int)<m:=by omega
  have Fz:(i:Int)+1≤9223372036854775807:=by have:=HC.out.2.2;have:=HN.out;omega
  have ID:=kA qs i sZ;have tL:i<(pk qs).length:=by have:=RI.out;omega
  rw[List.getElem?_eq_getElem tL]at ID;have LB:=Option.some.inj ID
  have Ul:Hid (qs.take (2*(i+1))=qs.take (2*i)++[qs[2*i]'(by omega),qs[2*i+1]]):=by
   rw[Hid,show 2*(i+1)=2*i+1+1 by omega,List.take_succ_eq_append_getElem sZ,List.take_succ_eq_append_getElem (by omega),List.append_assoc];rfl
  have cX:Hid (∀ k,k+1=i→∀ hk:k<(pk qs).length,Lib.compareBytes ((pk qs)[k].1) (zf (qs[2*i]'(Nat.lt_of_succ_lt sZ)))<0):=fun k hk tF=>by
   subst hk;have e1:=kA qs k (by omega);rw[List.getElem?_eq_getElem tF]at e1;rw[Option.some.inj e1]
   exact TD (m:=2*k) HA.out.1 (by omega) (by omega)
  obtain⟨gb,go,sG,Tj⟩:=Jx.at_ (by omega)
  cases sG
  obtain⟨dc,⟨KA,kc,y1,y2,y3,y4,z1,z2,z3,z4,MF,eB,dE,mR⟩,yF⟩:=Tj i tL;subst MF;rw[LB]at eB dE mR yF;have Fg:=Hh Tj;have r0:=xO.cell (yF 0 _ rfl);have r1:=xO.cell (yF 1 _ rfl);have r2:=xO.cell (yF 2 _ rfl);have r3:=xO.cell (yF 3 _ rfl);have r4:=xO.cell (yF 4 _ rfl);have r5:=xO.cell (yF 5 _ rfl);have r6:=xO.cell (yF 6 _ rfl);have r7:=xO.cell (yF 7 _ rfl);have r8:=xO.cell (yF 8 _ rfl);have eB:=eB.mono xO;have dE:=dE.mono xO;have mR:=mR.mono xO
  generalize qs[2*i]'(by omega)=y at *
  generalize qs[2*i+1]'sZ=z at *
  generalize se:qs.take (2*i)=LL at hS Ul
  have X7:Hid (LL.length=vm):=by rw[Hid,← se,List.length_take];have:=HI.out;omega
  have Lk:=Hh (And.intro eB (And.intro dE mR));clear ID LB yF Tj eB dE mR se;have r0:=hS.grows.holds.cell r0;have r1:=hS.grows.holds.cell r1;have r2:=hS.grows.holds.cell r2;have r3:=hS.grows.holds.cell r3;have r4:=hS.grows.holds.cell r4;have r5:=hS.grows.holds.cell r5;have r6:=hS.grows.holds.cell r6;have r7:=hS.grows.holds.cell r7;have r8:=hS.grows.holds.cell r8
  simp only[n7,Nat.add_zero,Nat.zero_add,← Nat.add_assoc]at r0 r1 r2 r3 r4 r5 r6 r7 r8
  go_upto_region 19 with fail
  have hD:=Blk.new wr 148 #[.slice KA (zf y).length kc,.int .i64 y.kind,.int .u64 y.n,.slice y1 y.bytes.length y2,.slice y3 y.items.length y4,.int .i64 z.kind,.int .u64 z.n,.slice z1 z.bytes.length z2,.slice z3 z.items.length z4];replace hS:=hS.alloc (.cells #[.slice KA (zf y).length kc,.int .i64 y.kind,.int .u64 y.n,.slice y1 y.bytes.length y2,.slice y3 y.items.length y4,.int .i64 z.kind,.int .u64 z.n,.slice z1 z.bytes.length z2,.slice z3 z.items.length z4] 148);obtain⟨P,uT⟩:∃ P,wr.heap.size=P:=⟨_,rfl⟩
  obtain⟨w2,sN⟩:∃ w2,wr.alloc (.cells #[.slice KA (zf y).length kc,.int .i64 y.kind,.int .u64 y.n,.slice y1 y.bytes.length y2,.slice y3 y.items.length y4,.int .i64 z.kind,.int .u64 z.n,.slice z1 z.bytes.length z2,.slice z3 z.items.length z4] 148)=w2:=⟨_,rfl⟩
  rw[sN]at hS hD⊢;rw[uT]at hD⊢;clear sN uT r0 r1 r2 r3 r4 r5 r6 r7 r8;go_cut [79] (fun s79 wx=>s79=.bool false∧BM w H B M #[.slice (some ⟨g,0,none⟩) m vc] (.slice VA vm v9) (.slice VA vm v9) LL wx Hx∧Blk wx P 148 #[.slice KA (zf y).length kc,.int .i64 y.kind,.int .u64 y.n,.slice y1 y.bytes.length y2,.slice y3 y.items.length y4,.int .i64 z.kind,.int .u64 z.n,.slice z1 z.bytes.length z2,.slice z3 z.items.length z4])
  case first =>
   by_cases h0:i=0
   ·subst h0
    refine zj 12 (fun _=>True) (by kernel_rfl) (trivial) (fun zy=>?_)
    refine Tk 0 rfl zy ?_
    refine Tk 1 rfl zy ?_
    refine Tk 2 rfl zy ?_
    refine TkU 3 rfl zy ?_
    refine TkU 4 rfl zy ?_
    refine TkU 5 rfl zy ?_
    refine TkU 6 rfl zy ?_
    refine TkU 7 rfl zy ?_
    refine TkU 8 rfl zy ?_
    refine TkU 9 rfl zy ?_
    refine TkU 10 rfl zy ?_
    refine TkU 11 rfl zy ?_
    refine To 12 rfl fun K hK=>?_
    go_simp
    refine Kz hK ?_
    clear hK K
    refine Wd ?_
    go_wp2_with fail
    go_meet
    exact⟨rfl,hS.drew,hD.drew⟩
   obtain⟨k,rfl⟩:∃ k,i=k+1:=⟨i-1,by omega⟩
   obtain⟨dk,⟨KB,kd,u1,u2,u3,u4,u5,u6,u7,u8,JS,JU,_,_⟩,yF⟩:=Fg.out k (by have:=RI.out;omega);subst JS
   have uy:Hid (((pk qs)[k]'(by have:=RI.out;omega)).1≠zf y):=fun e=>by
    have h1:=cX.out k rfl (by have:=RI.out;omega);rw[e,uJ]at h1
    omega
   have rk:=yF 0 _ rfl
   generalize ((pk qs)[k]'(by have:=RI.out;omega)).1=kb at *
   have rk:=hS.grows.holds.cell (xO.cell rk)
   simp only[n7,Nat.add_zero,Nat.zero_add]at rk
   have CT:Hid ((kb==zf y)=false):=by rw[Hid,beq_eq_false_iff_ne];exact uy.out
   have e2:((k+1:Nat):Int)=(k:Int)+1:=by omega
   try rw[e2]
   have oS:IntKind.i64.wrap ((k:Int)+1-1)=(k:Int):=by rw[show(k:Int)+1-1=(k:Int) by omega];exact IntWalk.i64_in _ (by omega)
   have eF:IntKind.i64.wrap (k:Int)=(k:Int):=IntWalk.i64_in _ (by omega);have F6:(k:Int)<m:=by omega
   have sL:(0:Int)≤(k:Int):=by omega
   have AI:(0:Int)<(k:Int)+1:=by omega
   have JV:k<m:=by omega
   have Cc:=Hh (JU.mono xO);have c0:=hS.boxB.cell 0 rfl;have d0:=hD.cell 0 rfl;replace hS:=hS.drew;replace hD:=hD.drew;clear yF JU uy e2 Yf Fz h0
   refine zj 12 (fun wx=>wx.cell? ⟨B,0,none⟩=some (.slice (some ⟨g,0,none⟩) m vc)∧wx.cell? ⟨g,k*9,none⟩=some (.slice KB kb.length kd)∧wx.cell? ⟨P,0,none⟩=some (.slice KA (zf y).length kc)) (by kernel_rfl) (⟨c0,rk,d0⟩) (fun zy=>?_)
   refine Tk 0 rfl zy ?_
   refine Tk 1 rfl zy ?_
   refine Tk 2 rfl zy ?_
   refine TkG 3 rfl zy ?_
   refine TkG 4 rfl zy ?_
   refine TkG 5 rfl zy ?_
   refine TkG 6 rfl zy ?_
   refine TkG 7 rfl zy ?_
   refine TkG 8 rfl zy ?_
   refine TkG 9 rfl zy ?_
   refine TkG 10 rfl zy ?_
   refine To 11 rfl fun K hK=>?_
   go_simp
   refine(j5 _ KB KA kb (zf y) _ _ kd kc rfl rfl (Src.of_row Cc.out.row hS.grows.holds) (Src.of_row Lk.out.1.row hS.grows.holds)).mono ?_
   rintro e w5 ⟨rfl,rfl⟩
   rw[CT.out]
   refine Ko hK ?_ fun zy=>?_
   ·exact⟨c0,rk,d0⟩
   clear hK K
   refine To 12 rfl fun K hK=>?_
   go_simp
   refine Kz hK ?_
   clear hK K
   refine Wd ?_
   clear zy c0 rk d0;go_wp2_with fail
   go_meet
   exact⟨rfl,hS,hD⟩
  case rest =>
  clear hS hD;obtain⟨rfl,hS,hD⟩:=hcut;have m3:=hS.boxM.cell 3 rfl;have d1:=hD.cell 1 rfl;have d2:=hD.cell 2 rfl;have d3:=hD.cell 3 rfl;have d4:=hD.cell 4 rfl;have d5:=hD.cell 5 rfl;have d6:=hD.cell 6 rfl;have d7:=hD.cell 7 rfl;have d8:=hD.cell 8 rfl;have HS:=Hh hS;clear hS hD;go_wp2_with (at_builtin;refine yq ?_)
  unfold z8
  have hZ:=HS.out.litZ (ze y y1 y2 y3 y4++ze z z1 z2 z3 z4).toArray 83;have hS:=HS.out.alloc (.cells (ze y y1 y2 y3 y4++ze z z1 z2 z3 z4).toArray 83)
  refine yJ rfl _ _ rfl _ _ _ _ rfl hS.own _ _ _ _ [y,z] rfl rfl ((ItemsC.one Lk.out.2.1).app (ItemsC.one Lk.out.2.2)) hZ (by have:=X7.out;have:=HI.out;have:=HC.out.2.2;have:=HN.out;simp;omega) hS.base fun v7 w7 vr yQ ha7=>?_
  replace hS:=hS.app vr yQ ha7;obtain⟨A7,c7,rfl,_⟩:=vr.form;rw[show(LL++[y,z]).length=vm+2 by have:=X7.out;simp;omega]at hS⊢;clear vr yQ ha7 hZ HS m3 d1 d2 d3 d4 d5 d6 d7 d8;go_wp2_with (with_reducible refine zx ?_)
  refine zu rfl _ _ _ rfl rfl M 3 (.slice A7 (vm+2) c7) rfl rfl _ _ hS.boxM xJ (by simp) rfl fun w8 hB8 hg8=>?_
  replace hS:=hS.setM (by simpa using hB8) hg8;clear hB8 hg8;go_wp2_with fail
  go_roundw
  case rel=>exact⟨i+1,Hx,A7,vm+2,c7,by omega,by go_num,by have:=HI.out;omega,xO,by rw[Ul.out];exact hS⟩
  case measure=>simp[intOf];omega
 have tF:i=m:=by have:=HI.out.1;omega
 subst tF;clear zB;rw[show 2*i=qs.length from by have:=HN.out;have:=HQ.out.1;omega,List.take_length]at hS;obtain⟨W9,cf,GA,Ud,Yh⟩:=hS.item;have m0:=hS.boxM.cell 0 rfl;have m1:=hS.boxM.cell 1 rfl;have m2:=hS.boxM.cell 2 rfl;have m3:=hS.boxM.cell 3 rfl;have qW:=hS.key;subst GA;have Lk:=Hh Ud;have HV:=Hh (tG (hTab.mono cf.le) (x:=.mk 5 0 [] qs) Ud.arg _ cf.holds);rw[HA.out.2.2]at HV;have BR:=Hh (wi HA.out.2.2);clear hS Ud;go_wp2_with fail
 refine HV.out.mono ?_
 rintro e w13 ⟨rfl,gg⟩
 have kB:=cf.below_ gg;have m0:=(m0b gg m0)
 have m1:=(m0b gg m1)
 have m2:=(m0b gg m2)
 have m3:=(m0b gg m3)
 replace qW:=qW.below gg;have CP:=Hh (j6 (.mk 5 0 [] qs) W9 _ _ _ _ _ _ _ _ w13 BR.out Lk.out.arg kB.holds);clear HV gg cf;go_wp2_with fail
 refine CP.out.mono ?_
 rintro e w14 ⟨v14,rfl,xa,xb,xc,xd,GN,rfl,eU,W4⟩
 have Ki:=kB.trans eU;have GG:=eU.none Yh qW.lt;replace qW:=qW.below eU.below;clear CP kB eU;go_wp2_with (with_reducible refine zx ?_)
 refine stI qW fun w16 YY hg16=>?_
 have Fj:=Ki.grownOwn GG (Nat.le_refl _) hg16;clear Ki hg16 qW;go_wp2_with fail
 refine zw rfl rfl YY rfl rfl zt rfl ?_
 exact⟨_,rfl,xa,xb,xc,xd,GN,rfl,Fj,W4⟩
structure KAd where
 ia:Option Addr
 ic:Nat
 xa:Option Addr
 xc:Nat
 da:Option Addr
 dc:Nat
 ka:Option Addr
 kc:Nat
abbrev tY (q:Ky) (a:KAd):Array Value:=uO q.kty q.crv q.alg a.ia q.kid.length a.ic a.xa q.x.length a.xc a.da q.d.length a.dc a.ka q.k.length a.kc
structure KeyA (H:Snap) (q:Ky) (a:KAd):Prop where
 kty : -9223372036854775808≤q.kty∧q.kty≤9223372036854775807
 crv : -9223372036854775808≤q.crv∧q.crv≤9223372036854775807
 alg : -9223372036854775808≤q.alg∧q.alg≤9223372036854775807
 kid:IsBytes H a.ia a.ic q.kid
 x:IsBytes H a.xa a.xc q.x
 d:IsBytes H a.da a.dc q.d
 k:IsBytes H a.ka a.kc q.k
theorem KeyA.mono {H K:Snap}{q:Ky}{a:KAd}(h:KeyA H q a) (hl:H.le K):KeyA K q a:=⟨h.kty,h.crv,h.alg,h.kid.mono hl,h.x.mono hl,h.d.mono hl,h.k.mono hl⟩
theorem KeyA.len {H:Snap}{q:Ky}{a:KAd}(h:KeyA H q a):q.x.length≤9223372036854775807∧q.d.length≤9223372036854775807:=⟨Nat.le_trans h.x.le h.x.max,Nat.le_trans h.d.le h.d.max⟩
theorem dv (q:Ky):zi q.kty q.crv q.alg q.kid.length q.x.length q.d.length q.k.length=xY q:=rfl
theorem di (q:Ky):pq q.kty q.crv q.alg q.kid q.x q.d q.k=yI q:=rfl
def tU (q:Ky):Int:=if xY q=true then 0 else 1
def pu (q:Ky):Itm:=if xY q=true then vW q else zQ
def PO (w:World) (H:Snap) (q:Ky) (e:Ending) (w':World):Prop:=∃ v,e=.returned (.tuple #[v,.int .i64 (tU q)])∧Gives w H (pu q) v w'
theorem fo {q:Ky}(h:xY q=true):q.kid.length≤64∧q.x.length≤64∧q.d.length≤64∧q.k.length≤64:=by
 have:=(qo q).1 h
 omega
theorem T9 {q:Ky}(h:xY q=true) (h4:q.kty=4):0<q.k.length:=by
 have:=(qo q).1 h
 omega
theorem IsRowI.of {H:Snap}{A:Option Addr}{c:Nat}{l:List Itm}(h:l.length≤c∧c≤9223372036854775807∧(0<l.length→∃ b off,A=some ⟨b,off,none⟩∧IsElems H b off l)):IsRowI H A c l:=⟨h.1,h.2.1,h.2.2⟩
theorem fX {H:Snap}(hTab:Tabs H) {q:Ky}{a:KAd}(hq:KeyA H q a) (w:World) (hH:Holds w H) :
  Calls Tryz.prog 88 #[.agg (tY q a)] w (PO w H q):=by
 have y8:=(Blk.new w 61 (tY q a)).alloc (.cells xi 83);have hT:=Blk.new (w.alloc (.cells (tY q a) 61)) 83 xi;rw[zh]at hT;obtain⟨rD,xg⟩:=jhM;have V:=Hh (fun W=>fY q.kty q.crv q.alg a.ia q.kid.length a.ic a.xa q.x.length a.xc a.da q.d.length a.dc a.ka q.k.length a.kc W hq.len.1 hq.len.2);have HQ:=Hh hq;obtain⟨c0,c1,c2,c3,c4,c5,c6⟩:=jgf;clear hq hH;go_enter Tryz.func88,Tryz.ntmps88
 go_wp2_with fail
 refine(V.out _).mono ?_
 rintro e w3 ⟨rfl,xy⟩
 rw[dv];replace hT:=hT.below xy;replace y8:=y8.below xy;have yY:=xg.below_ xy;clear xg xy V c0 c1 c2 c3 c4 c5 c6;obtain⟨c0,c1,c2,c3,c4,c5,c6⟩:=jgf;clear y8
 cases hv:xY q with
 | false =>
  exact jbb
 | true =>
 have E:Hid (tU q=0∧pu q=.mk 5 0 [] (yI q)):=⟨by rw[tU,if_pos hv],by rw[pu,if_pos hv];rfl⟩
 have HV:=Hh hv;clear hv;go_wp2_with fail
 refine(VT q.kty q.crv q.alg HQ.out.kty HQ.out.crv HQ.out.alg HQ.out.kid HQ.out.x HQ.out.d HQ.out.k (fo HV.out) _ yY.holds).mono ?_
 rintro e w4 ⟨v4,rfl,A4,c9,H4,rfl,xj,i7⟩
 rw[di]at i7⊢;have xT:=yY.trans xj;have OE:=xj.none rD hT.lt;replace hT:=hT.below xj.below;have Gr:=Hh (IsRowI.of i7);have HB:=Hh (nj (hTab.mono xT.le) Gr.out (qC q) (Nat.zero_le _) (by have:=(oz q).2;omega) (qs:=yI q) rfl (List.Perm.refl _) (ol q) (mh HV.out) (vB HV.out) w4 xT.holds);clear xj i7 yY c0 c1 c2 c3 c4 c5 c6;go_wp2_with fail
 refine HB.out.mono ?_
 rintro e w6 ⟨v6,rfl,xa,xb,xc,xd,H6,rfl,xW,UU⟩
 exact jbi
theorem kY {H:Snap}(hTab:Tabs H) {q:Ky}{a:KAd}(hq:KeyA H q a) (w:World) (hH:Holds w H) :
  Calls Tryz.prog 61 #[.agg (tY q a)] w (PO w H q):=by
 have y8:=(Blk.new w 61 (tY q a)).alloc (.cells xi 83);have hT:=Blk.new (w.alloc (.cells (tY q a) 61)) 83 xi;rw[zh]at hT;obtain⟨rD,xg⟩:=jhM;have V:=Hh (fun W=>fi q.kty q.crv q.alg a.ia q.kid.length a.ic a.xa q.x.length a.xc a.da q.d.length a.dc a.ka q.k.length a.kc W hq.len.1 hq.len.2);have HQ:=Hh hq;obtain⟨c0,c1,c2,c3,c4,c5,c6⟩:=jgf;clear hq hH;go_enter Tryz.func61,Tryz.ntmps61
 go_wp2_with fail
 refine(V.out _).mono ?_
 rintro e w3 ⟨rfl,xy⟩
 rw[dv];replace hT:=hT.below xy;replace y8:=y8.below xy;have yY:=xg.below_ xy;clear xg xy V c0 c1 c2 c3 c4 c5 c6;obtain⟨c0,c1,c2,c3,c4,c5,c6⟩:=jgf;clear y8
 cases hv:xY q with
 | false =>
  exact jbb
 | true =>
 have E:Hid (tU q=0∧pu q=.mk 5 0 [] (yI q)):=⟨by rw[tU,if_pos hv],by rw[pu,if_pos hv];rfl⟩
 have HV:=Hh hv;clear hv;go_wp2_with fail
 refine(Zl q.kty q.crv q.alg HQ.out.kty HQ.out.crv HQ.out.alg HQ.out.kid HQ.out.x HQ.out.d HQ.out.k (fo HV.out) (T9 HV.out) _ yY.holds).mono ?_
 rintro e w4 ⟨v4,rfl,A4,c9,H4,rfl,xj,i7⟩
 rw[di]at i7⊢;have xT:=yY.trans xj;have OE:=xj.none rD hT.lt;replace hT:=hT.below xj.below;have Gr:=Hh (IsRowI.of i7);have HB:=Hh (fh (hTab.mono xT.le) Gr.out (by have:=(oz q).2;omega) w4 xT.holds);clear xj i7 yY c0 c1 c2 c3 c4 c5 c6;go_wp2_with fail
 refine HB.out.mono ?_
 rintro e w6 ⟨v6,h6⟩
 have CE:∃ xa xb xc xd H6,e=.returned (.tuple #[xx (.mk 5 0 [] (yI q)) xa xb xc xd,.int .i64 0])∧Grows w4 H4 w6 H6∧IsItem H6 xa xb xc xd (.mk 5 0 [] (yI q)):=by
  rcases h6 with ⟨l,rfl,⟨xa,xb,xc,xd,H6,rfl,xW,UU⟩,_,_,hl⟩ | ⟨_,_,_,_,iw⟩
  ·obtain rfl:=hl (TF HV.out).2.1
   exact⟨xa,xb,xc,xd,H6,rfl,xW,UU⟩
  exact absurd (TF HV.out) iw
 clear h6;obtain⟨xa,xb,xc,xd,H6,rfl,xW,UU⟩:=CE;exact jbi
theorem uH {P:Program}{ops:Array Oper}{Q:Exit→Act→World→Prop}{rest:List Oper}{a:Act}{w:World}{dst:Option Tmp}{ty:TypeId}{x y z:Operand}{T:TypeId}{pos:String}{af:Array Edge}{g:Option (Nat×Bool)}
  (h:z8 (wpList P ops Q (⟨dst,.insert ty x y z,T,pos,af,g⟩::rest) a w)):wpList P ops Q (⟨dst,.insert ty x y z,T,pos,af,g⟩::rest) a w:=h
def qR (es:List (Int×Value)) (k:Int):Option Value:=(es.find? fun e=>k==e.1).map (·.2)
def iW:List (Int×Value)→Nat→List MapEntry
 | [],_=>[]
 | e::r,n=>⟨.int .i64 e.1,e.2,n⟩::iW r (n+1)
def MapIs (w:World) (b:Nat) (es:List (Int×Value)):Prop:=w.heap[b]? = some (.map (iW es 0).toArray es.length)
theorem dV:∀ (l:List (Int×Value)) (e:Int×Value) (n:Nat),iW (l++[e]) n=iW l n++[⟨.int .i64 e.1,e.2,n+l.length⟩]
 | [],e,n=>by simp[iW]
 | x::l,e,n=>by simp only[List.cons_append,iW,dV l e (n+1),List.length_cons];rw[show n+1+l.length=n+(l.length+1) by omega]
theorem nr (k:Int):∀ (l:List (Int×Value)) (n i:Nat),Instr.findNow (.int .i64) (.int .i64 k) (iW l n) i=some ((l.findIdx? fun e=>k==e.1).bind fun j=>(l[j]?).map fun e=>(i+j,e.2))
 | [],n,i=>by simp[iW,Instr.findNow]
 | e::l,n,i=>by
  rw[iW,Instr.findNow]
  simp only[Instr.sameNow,if_true]
  rw[List.findIdx?_cons]
  cases h:(k==e.1) with
  | true=>simp
  | false =>
  simp only[nr k l (n+1) (i+1),Bool.false_eq_true,if_false]
  cases List.findIdx? (fun e=>k==e.1) l with
  | none=>simp
  | some j =>
  simp only[Option.bind_some,Option.map_some,List.getElem?_cons_succ]
  congr 2
  funext e
  congr 1
  omega
theorem MapIs.lt {w:World}{b:Nat}{es:List (Int×Value)}(h:MapIs w b es):b<w.heap.size:=(Array.getElem?_eq_some_iff.1 h).1
theorem MapIs.below {w w':World}{b:Nat}{es:List (Int×Value)}(h:MapIs w b es) (hb:Below w.heap.size w w'):MapIs w' b es:=(hb.block b h.lt).trans h
theorem MapIs.alloc {w:World}{b:Nat}{es:List (Int×Value)}(h:MapIs w b es) (o:Obj):MapIs (w.alloc o) b es:=h.below (zm w o)
theorem MapIs.grown {w w':World}{b:Nat}{es:List (Int×Value)}{row:Option Nat}(h:MapIs w b es) (hb:w.grownBy w' row) (hg:row≠some b):MapIs w' b es:=(hb.block b h.lt (Ne.symm hg)).trans h
theorem MapIs.new (w:World):MapIs (w.alloc (.map #[] 0)) w.heap.size []:=heap_alloc_new w _
theorem VW (es:List (Int×Value)) (k:Int):((es.findIdx? fun e=>k==e.1).bind fun j=>es[j]?)=es.find? fun e=>k==e.1:=by
 induction es with
 | nil=>rfl
 | cons e l ih =>
 rw[List.findIdx?_cons,List.find?_cons]
 cases h:(k==e.1) with
 | true=>simp
 | false =>
 simp only[Bool.false_eq_true,if_false]
 rw[← ih]
 cases List.findIdx? (fun e=>k==e.1) l with
 | none=>rfl
 | some j=>simp
section
variable {P:Program} {w:World} {t kt et:TypeId} {b:Nat} {es:List (Int×Value)}
theorem YF (hu:P.underlying t=some (.map kt et)) (hk:P.underlying kt=some (.int .i64)) (hb:MapIs w b es) (k:Int) (v:Value) (uy:qR es k=none) :
  ∃ w',(Instr.mapUpdate t (.map (some b)) (.int .i64 k) v).run P w=.ok () w'∧MapIs w' b (es++[(k,v)])∧w.grownBy w' (some b):=by
 have h0:(es.findIdx? fun e=>k==e.1)=none:=by
  unfold qR at uy
  rw[Option.map_eq_none_iff]at uy;rw[List.findIdx?_eq_none_iff]
  intro x hx
  have:=List.find?_eq_none.1 uy x hx
  simpa using this
 have hf:Instr.findNow (.int .i64) (.int .i64 k) (iW es 0) 0=some none:=by rw[nr,h0];rfl
 refine⟨{ w with heap:=w.heap.setIfInBounds b (.map (iW es 0++[(⟨.int .i64 k,v,es.length⟩:MapEntry)]).toArray (es.length+1)) }, ?_, ?_,⟨rfl,rfl,rfl,by simp,fun i _ hi=>?_⟩⟩
 ·unfold Instr.mapUpdate
  have h1:=MapKept.run_checkKey (P:=P) (w:=w) hk (k:=.int .i64 k) (by simp[MapKept.IsKey]) false 9999;have h2:=MapKept.run_findKey (P:=P) (w:=w) hk hf;have h3:=MapKept.run_setObj_map (P:=P) (w:=w) (.map (iW es 0++[(⟨.int .i64 k,v,es.length⟩:MapEntry)]).toArray (es.length+1)) hb
  simp[Sem.run_bind,Result.andThen,run_underlying hu,MapKept.run_getObj_map hb,h1,h2,h3]
 ·have zB:=hb.lt
  unfold MapIs
  simp[zB,dV]
 simp[Array.getElem?_setIfInBounds]
 intro e
 exact absurd e.symm (by intro e;exact hi (by rw[e]))
theorem xC (hu:P.underlying t=some (.map kt et)) (hk:P.underlying kt=some (.int .i64)) (hb:MapIs w b es) {z:Value}(hz:(zeroValue et).run P w=.ok z w) (k:Int) :
  (Instr.lookup t (.map (some b)) (.int .i64 k) false).run P w=.ok ((qR es k).getD z) w:=by
 have hf:=nr k es 0 0
 unfold Instr.lookup
 have h1:=fun e=>MapKept.run_checkKey (P:=P) (w:=w) hk (k:=.int .i64 k) (by simp[MapKept.IsKey]) e 9999
 have hi:=VW es k;have hL:qR es k=(((es.findIdx? fun e=>k==e.1).bind fun j=>es[j]?)).map (·.2):=by rw[hi];rfl
 cases hx:(es.findIdx? fun e=>k==e.1) with
 | none =>
  rw[hx]at hf hL;have h2:=MapKept.run_findKey (P:=P) (w:=w) hk hf
  simp[Sem.run_bind,Result.andThen,run_underlying hu,MapKept.run_getObj_map hb,h1,h2,hz,hL]
 | some j =>
 rw[hx]at hf hL
 obtain⟨e,he⟩:∃ e,es[j]? = some e:=by
  have:=(List.findIdx?_eq_some_iff_getElem.1 hx).1
  exact⟨_,List.getElem?_eq_getElem this⟩
 simp only[Option.bind_some,he,Option.map_some]at hf hL
 have h2:=MapKept.run_findKey (P:=P) (w:=w) hk hf
 simp[Sem.run_bind,Result.andThen,run_underlying hu,MapKept.run_getObj_map hb,h1,h2,hL]
theorem ut {ops:Array Oper}{rest:List Oper}{o:Oper}{a:Act}{Q:Exit→Act→World→Prop}(bY:o.guard=none) (m x v:Operand) (ho:o.op=.insert t m x v)
  (hu:P.underlying t=some (.map kt et)) (hk:P.underlying kt=some (.int .i64)) (hb:MapIs w b es) (k:Int) (u:Value) (hm:a.eval m=.map (some b)) (hx:a.eval x=.int .i64 k) (hv:a.eval v=u) (uy:qR es k=none)
  (h:∀ w',MapIs w' b (es++[(k,u)])→w.grownBy w' (some b)→wpList P ops Q rest (a.put o.dst undef) w') :
  wpList P ops Q (o::rest) a w:=by
 refine wpList_plain bY fun K' hK'=>?_
 obtain⟨w',Yj,r1,r2⟩:=YF hu hk hb k u uy
 unfold Oper.wp
 simp[execOp,ho,hm,hx,hv,Yj,Result.andThen]
 exact hK' _ _ (h w' r1 r2)
end
def nmP:Itm→Option Int
 | .mk k n _ _=>if 1048576<n then none else if k=0 then some (n:Int) else if k=1 then some (-1-(n:Int)) else none
def nmR:Itm→Int
 | .mk k n _ _=>if k=1 then -1-((min n 1048576:Nat):Int) else((min n 1048576:Nat):Int)
def YO (w:World) (r:Option Int) (e:Ending) (w':World):Prop :=
 (match r with | some v=>e=.returned (.tuple #[.int .i64 v,.bool true]) | none=>e=.returned (.tuple #[.int .i64 0,.bool false]))∧Below w.heap.size w w'
theorem fZ {H:Snap}{k n:Int}{ba:Option Addr}{bl bc:Nat}{ia:Option Addr}{il ic:Nat}{x:Itm}(hx:ItemA H k n ba bl bc ia il ic x) (w:World) :
  Calls Tryz.prog 86 #[.agg #[.int .i64 k,.int .u64 n,.slice ba bl bc,.slice ia il ic]] w (YO w (nmP x)):=by
 obtain⟨rfl,rfl,rfl,rfl,_⟩:=hx;obtain⟨xk,xn,xb,xl⟩:=x
 simp only[Itm.kind,Itm.n,Itm.bytes,Itm.items]
 obtain⟨hB,hb⟩:=jgI;have c0:=jf8;have c1:=jgG;clear hB
 by_cases h1:1048576<xn
 ·have E:Hid (nmP (.mk xk xn xb xl)=none):=by rw[Hid,nmP,if_pos h1]
  have i1:(1048576:Int)<(xn:Int):=by omega
  have MNX:min (xn:Int) 1048576=1048576:=by omega
  have d1:decide ((1048576:Int)<(xn:Int))=true:=decide_eq_true i1;clear h1;exact jbD
 have i1:¬ (1048576:Int)<(xn:Int):=by omega
 have MNX:min (xn:Int) 1048576=(xn:Int):=by omega
 obtain⟨d1,W1,W2⟩:=jgM
 by_cases h0:xk=0
 ·subst h0;have E:Hid (nmP (.mk 0 xn xb xl)=some (xn:Int)):=by rw[Hid,nmP,if_neg h1,if_pos rfl]
  clear h1;exact jbD
 have b0:(xk==0)=false:=by rw[beq_eq_false_iff_ne];exact h0
 have p0:(xk=0)=False:=eq_false h0
 by_cases h2:xk=1
 ·subst h2;have E:Hid (nmP (.mk 1 xn xb xl)=some (-1-(xn:Int))):=by rw[Hid,nmP,if_neg h1,if_neg h0,if_pos rfl]
  clear h1 h0 b0 p0;exact jbD
 have b1:(xk==1)=false:=by rw[beq_eq_false_iff_ne];exact h2
 have p1:(xk=1)=False:=eq_false h2;have E:Hid (nmP (.mk xk xn xb xl)=none):=by rw[Hid,nmP,if_neg h1,if_neg h0,if_neg h2]
 clear h1 h0 h2;exact jbD
theorem rK {H:Snap}{k n:Int}{ba:Option Addr}{bl bc:Nat}{ia:Option Addr}{il ic:Nat}{x:Itm}(hx:ItemA H k n ba bl bc ia il ic x) (w:World) :
  Calls Tryz.prog 95 #[.agg #[.int .i64 k,.int .u64 n,.slice ba bl bc,.slice ia il ic]] w fun e w'=>e=.returned (.int .i64 (nmR x))∧Below w.heap.size w w':=by
 obtain⟨rfl,rfl,rfl,rfl,_⟩:=hx;obtain⟨xk,xn,xb,xl⟩:=x
 simp only[Itm.kind,Itm.n,Itm.bytes,Itm.items]
 obtain⟨hB,hb⟩:=jgI;have c0:=jf8;have c1:=jgG;clear hB
 by_cases h1:1048576<xn
 ·have i1:(1048576:Int)<(xn:Int):=by omega
  have MNX:min (xn:Int) 1048576=1048576:=by omega
  have d1:decide ((1048576:Int)<(xn:Int))=true:=decide_eq_true i1
  by_cases h2:xk=1
  ·subst h2;have E:Hid (nmR (.mk 1 xn xb xl) = -1048577):=by rw[Hid,nmR,if_pos rfl,show min xn 1048576=1048576 by omega];rfl
   clear h1;exact jeG
  have b1:(xk==1)=false:=by rw[beq_eq_false_iff_ne];exact h2
  have p1:(xk=1)=False:=eq_false h2;have E:Hid (nmR (.mk xk xn xb xl)=1048576):=by rw[Hid,nmR,if_neg h2,show min xn 1048576=1048576 by omega];rfl
  clear h1 h2;exact jeG
 have i1:¬ (1048576:Int)<(xn:Int):=by omega
 have MNX:min (xn:Int) 1048576=(xn:Int):=by omega
 obtain⟨d1,W1,W2⟩:=jgM
 by_cases h2:xk=1
 ·subst h2;have E:Hid (nmR (.mk 1 xn xb xl) = -1-(xn:Int)):=by rw[Hid,nmR,if_pos rfl,show min xn 1048576=xn by omega]
  clear h1;exact jeG
 have b1:(xk==1)=false:=by rw[beq_eq_false_iff_ne];exact h2
 have p1:(xk=1)=False:=eq_false h2;have E:Hid (nmR (.mk xk xn xb xl)=(xn:Int)):=by rw[Hid,nmR,if_neg h2,show min xn 1048576=xn by omega]
 clear h1 h2;exact jeG
def cT (q:Ky) (k n:Int):Option Ky :=
 if k=1 then some { q with kty:=n } else if k=3 then some { q with alg:=n } else if k = -1 then some { q with crv:=n } else none
def gO (q:Ky) (k:Int) (b:List UInt8):Option Ky :=
 if k=2 then some { q with kid:=b } else if k = -1 then some { q with k:=b } else if k = -2 then some { q with x:=b } else if k = -4 then some { q with d:=b } else none
def rT (q:Ky) (a v:Itm):Option Ky :=
 match nmP a with
 | none=>none
 | some k=>match nmP v with
  | some n=>cT q k n
  | none=>if v.kind=2 then gO q k v.bytes else none
def wY:Ky→List Itm→Option Ky
 | q,a::v::l=>match rT q a v with
  | none=>none
  | some q'=>wY q' l
 | q,_=>some q
def vV (q:Ky) (a v:Itm):Ky :=
 if nmR a=1 then { q with kty:=nmR v } else if nmR a=2 then { q with kid:=v.bytes } else if nmR a=3 then { q with alg:=nmR v }
 else if nmR a = -1 then { q with crv:=nmR v,k:=v.bytes } else if nmR a = -2 then { q with x:=v.bytes } else if nmR a = -4 then { q with d:=v.bytes } else q
def vU:Ky→List Itm→Ky
 | q,a::v::l=>vU (vV q a v) l
 | q,_=>q
theorem lr (q:Ky):wY q []=some q:=by simp[wY]
theorem lx (q:Ky):vU q []=q:=by simp[vU]
def yP:Ky:=⟨0,0,0,[],[],[],[]⟩
theorem gE {n:Int}(h1 : -1048577≤n) (h2:n≤1048576):nmP (zr n)=some n:=by
 unfold zr
 split
 ·rw[nmP,if_neg (by omega),if_neg (by omega),if_pos rfl];congr 1
  omega
 rw[nmP,if_neg (by omega),if_pos rfl];congr 1
 omega
theorem gF {n:Int}(h1 : -1048577≤n) (h2:n≤1048576):nmR (zr n)=n:=by
 unfold zr
 split
 ·rw[nmR,if_pos rfl]
  omega
 rw[nmR,if_neg (by omega)]
 omega
theorem Xn (n:Int):(zr n).bytes=[]:=by unfold zr;split <;> rfl
theorem Sg (b:List UInt8):nmP (n9 b)=none:=by
 rw[n9,nmP,if_neg (by omega),if_neg (by omega),if_neg (by omega)]
theorem lu (q q':Ky) (k n:Int) (l:List Itm) (rX : -1048577≤k) (qf:k≤1048576) (pz : -1048577≤n) (rY:n≤1048576) (h:cT q k n=some q'):wY q (zr k::zr n::l)=wY q' l:=by
 rw[wY,rT,gE rX qf]
 simp only[gE pz rY,h]
theorem Xq (q q':Ky) (k:Int) (b:List UInt8) (l:List Itm) (rX : -1048577≤k) (qf:k≤1048576) (h:gO q k b=some q'):wY q (zr k::n9 b::l)=wY q' l:=by
 rw[wY,rT,gE rX qf];have e:(n9 b).kind=2:=rfl;have e2:(n9 b).bytes=b:=rfl
 simp only[Sg,e,if_true,e2,h]
theorem om (q q':Ky) (k:Int) (b:List UInt8) (l:List Itm) (rX : -1048577≤k) (qf:k≤1048576) (h:gO q k b=some q') (h0:b=[]→q'=q):wY q (pZ k b++l)=wY q' l:=by
 unfold pZ
 split
 ·exact Xq q q' k b l rX qf h
 exact jdi
theorem ly (q:Ky) (k n:Int) (l:List Itm):vU q (zr k::zr n::l)=vU (vV q (zr k) (zr n)) l:=rfl
theorem oq (q q':Ky) (k:Int) (b:List UInt8) (l:List Itm) (h:vV q (zr k) (n9 b)=q') (h0:b=[]→q'=q):vU q (pZ k b++l)=vU q' l:=by
 unfold pZ
 split
 ·show vU (vV q (zr k) (n9 b)) l=_
  rw[h]
 exact jdi
theorem dx {b:List UInt8}(h:b.length=0):b=[]:=List.eq_nil_of_length_eq_zero h
theorem bn {q:Ky}(h:xY q=true):wY yP (yI q)=some q:=by
 have hv:=(qo q).1 h;obtain⟨kty,crv,alg,kid,x,d,k⟩:=q
 simp only at hv
 have ha:wY yP (yI ⟨kty,crv,alg,kid,x,d,k⟩)=wY ⟨kty,0,alg,kid,[],[],[]⟩ (if kty=4 then pZ (-1) k else [zr (-1),zr crv]++pZ (-2) x++pZ (-4) d):=by
  unfold yI
  simp only[List.append_assoc,List.cons_append,List.nil_append]
  rw[lu yP ⟨kty,0,0,[],[],[],[]⟩ 1 kty _ (by omega) (by omega) (by omega) (by omega) rfl];rw[om ⟨kty,0,0,[],[],[],[]⟩ ⟨kty,0,0,kid,[],[],[]⟩ 2 kid _ (by omega) (by omega) rfl (fun e=>by rw[e])]
  split
  ·rename_i h0
   rw[h0];rfl
  rw[List.cons_append,List.cons_append,List.nil_append];rw[lu ⟨kty,0,0,kid,[],[],[]⟩ ⟨kty,0,alg,kid,[],[],[]⟩ 3 alg _ (by omega) (by omega) (by omega) (by omega) rfl]
 rw[ha]
 rcases hv.2.2.2 with ⟨h1,hc,hx,hd,h0,hk⟩ | ⟨h4,hc,hxd,rX,qf⟩
 ·rw[if_neg (by omega)];obtain rfl:=dx hk
  simp only[List.append_assoc,List.cons_append,List.nil_append]
  rw[lu _ ⟨kty,crv,alg,kid,[],[],[]⟩ (-1) crv _ (by omega) (by omega) (by omega) (by omega) rfl];rw[om _ ⟨kty,crv,alg,kid,x,[],[]⟩ (-2) x _ (by omega) (by omega) rfl (fun e=>by rw[e])];have:=om ⟨kty,crv,alg,kid,x,[],[]⟩ ⟨kty,crv,alg,kid,x,d,[]⟩ (-4) d [] (by omega) (by omega) rfl (fun e=>by rw[e]);rw[List.append_nil]at this;rw[this,lr]
 rw[if_pos h4];obtain rfl:=dx (show x.length=0 by omega);obtain rfl:=dx (show d.length=0 by omega);have:=om ⟨kty,0,alg,kid,[],[],[]⟩ ⟨kty,0,alg,kid,[],[],k⟩ (-1) k [] (by omega) (by omega) rfl (fun e=>by rw[e]);rw[List.append_nil]at this;rw[this,lr,hc]
theorem lz (q:Ky) (k n:Int) (rX : -1048577≤k) (qf:k≤1048576) (pz : -1048577≤n) (rY:n≤1048576):vV q (zr k) (zr n) =
  if k=1 then { q with kty:=n } else if k=2 then { q with kid:=[] } else if k=3 then { q with alg:=n }
  else if k = -1 then { q with crv:=n,k:=[] } else if k = -2 then { q with x:=[] } else if k = -4 then { q with d:=[] } else q:=by
 unfold vV
 rw[gF rX qf,gF pz rY,Xn]
theorem ot (q:Ky) (k:Int) (b:List UInt8) (rX : -1048577≤k) (qf:k≤1048576):vV q (zr k) (n9 b) =
  if k=1 then { q with kty:=0 } else if k=2 then { q with kid:=b } else if k=3 then { q with alg:=0 }
  else if k = -1 then { q with crv:=0,k:=b } else if k = -2 then { q with x:=b } else if k = -4 then { q with d:=b } else q:=by
 unfold vV
 rw[gF rX qf,show nmR (n9 b)=0 by rw[n9,nmR,if_neg (by omega)];simp];rfl
theorem bp {q:Ky}(h:xY q=true):vU yP (yI q)=q:=by
 have hv:=(qo q).1 h;obtain⟨kty,crv,alg,kid,x,d,k⟩:=q
 simp only at hv
 have ha:vU yP (yI ⟨kty,crv,alg,kid,x,d,k⟩)=vU ⟨kty,0,alg,kid,[],[],[]⟩ (if kty=4 then pZ (-1) k else [zr (-1),zr crv]++pZ (-2) x++pZ (-4) d):=by
  unfold yI
  simp only[List.append_assoc,List.cons_append,List.nil_append]
  rw[ly,lz _ _ _ (by omega) (by omega) (by omega) (by omega),if_pos rfl];rw[oq _ ⟨kty,0,0,kid,[],[],[]⟩ 2 kid _ (by rw[ot _ _ _ (by omega) (by omega),if_neg (by omega),if_pos rfl];rfl) (fun e=>by rw[e];rfl)]
  split
  ·rename_i h0
   rw[h0];rfl
  rw[List.cons_append,List.cons_append,List.nil_append];rw[ly,lz _ _ _ (by omega) (by omega) (by omega) (by omega),if_neg (by omega),if_neg (by omega),if_pos rfl]
 rw[ha]
 rcases hv.2.2.2 with ⟨h1,hc,hx,hd,h0,hk⟩ | ⟨h4,hc,hxd,rX,qf⟩
 ·rw[if_neg (by omega)];obtain rfl:=dx hk
  simp only[List.append_assoc,List.cons_append,List.nil_append]
  rw[ly,lz _ _ _ (by omega) (by omega) (by omega) (by omega),if_neg (by omega),if_neg (by omega),if_neg (by omega),if_pos rfl];rw[oq _ ⟨kty,crv,alg,kid,x,[],[]⟩ (-2) x _ (by rw[ot _ _ _ (by omega) (by omega),if_neg (by omega),if_neg (by omega),if_neg (by omega),if_neg (by omega),if_pos rfl]) (fun e=>by rw[e])];have:=oq ⟨kty,crv,alg,kid,x,[],[]⟩ ⟨kty,crv,alg,kid,x,d,[]⟩ (-4) d [] (by rw[ot _ _ _ (by omega) (by omega),if_neg (by omega),if_neg (by omega),if_neg (by omega),if_neg (by omega),if_neg (by omega),if_pos rfl]) (fun e=>by rw[e]);rw[List.append_nil]at this;rw[this,lx]
 rw[if_pos h4];obtain rfl:=dx (show x.length=0 by omega);obtain rfl:=dx (show d.length=0 by omega);have:=oq ⟨kty,0,alg,kid,[],[],[]⟩ ⟨kty,0,alg,kid,[],[],k⟩ (-1) k [] (by rw[ot _ _ _ (by omega) (by omega),if_neg (by omega),if_neg (by omega),if_neg (by omega),if_pos rfl]) (fun e=>by rw[e]);rw[List.append_nil]at this;rw[this,lx,hc]
def sS (x:Itm) (q:Ky):Prop:=xY q=true∧vW q=x
theorem lq {x:Itm}{q:Ky}(h:sS x q):wY yP x.items=some q:=by rw[← h.2];exact bn h.1
theorem oo {x:Itm}{q:Ky}(h:sS x q):vU yP x.items=q:=by rw[← h.2];exact bp h.1
theorem Ways.three {P:Program}{ops:Array Oper}{Q:Exit→Act→World→Prop}{md:Region.Mode}{S:World→Prop}{z:Nat}{i j l:Nat}{o o' o2:Oper}{n:Nat}{L:Array Bool}{a:Act}{w:World}(hi:ops[i]? = some o) (hj:ops[j]? = some o') (hl:ops[l]? = some o2) (hr:Region.ready md ops L=[i,j,l])
  (h:∀ K:Act→World→Prop,Shut (∀ a w,(i≠z→S w)→((i≠z→S w)→Ways P md ops Q S z n (L.setIfInBounds i true) a w)→K a w)→
   if Region.wanted o (yielded ops a.tmps)=true then Oper.wp P o a w K Q else K (a.put o.dst undef) w)
  (h':∀ K:Act→World→Prop,Shut (∀ a w,(j≠z→S w)→((j≠z→S w)→Ways P md ops Q S z n (L.setIfInBounds j true) a w)→K a w)→
   if Region.wanted o' (yielded ops a.tmps)=true then Oper.wp P o' a w K Q else K (a.put o'.dst undef) w)
  (h2:∀ K:Act→World→Prop,Shut (∀ a w,(l≠z→S w)→((l≠z→S w)→Ways P md ops Q S z n (L.setIfInBounds l true) a w)→K a w)→
   if Region.wanted o2 (yielded ops a.tmps)=true then Oper.wp P o2 a w K Q else K (a.put o2.dst undef) w):Ways P md ops Q S z (n+1) L a w:=by
 refine⟨fun h0=>(by rw[hr]at h0;cases h0),fun k hk=>?_⟩
 rw[hr]at hk
 rcases(by simpa using hk:k=i∨k=j∨k=l) with hk | hk | hk
 ·subst hk
  exact jby
 ·exact jeW
 subst hk
 exact wpOp_step hl fun K hK=>h2 K fun a w hS hW=>hK a w ⟨hS,hW hS⟩
theorem SI (v:Int):∃ x:UInt8,Value.int .u8 (v%256)=zT x:=by
 obtain⟨x,hx⟩:=ji v
 exact⟨x,by rw[← hx,IntKind.wrap_u8]⟩
theorem Wi (q:Int) {n:Nat}(hn:n≤128) (w:World) :
  Calls Tryz.prog 24 #[.int .i64 q,.int .i64 (n:Int)] w fun e w'=>∃ A c l,e=.returned (.slice A n c)∧l.length=n∧Fresh w l (.slice A n c) w':=by
 have xR:=Below.refl w.heap.size w;go_enter Tryz.func24,Tryz.ntmps24
 go_wp2_with fail
 go_loopw [5,8] (fun v3 v5 wr=>∃ (k:Nat) (VA:Option Addr) (vc vn:Nat) (l:List UInt8),k≤n∧v5=.int .i64 (k:Int)∧v3=.slice VA vn vc∧vn=k∧l.length=k∧OwnB wr w.heap.size (.slice VA vn vc) l∧Below w.heap.size w wr) (fun _ v5 _=>n-(intOf v5).toNat)
 case atStart=>exact⟨0,none,0,0,[],by omega,rfl,rfl,rfl,rfl,OwnB.nil _ _,xR⟩
 case round =>
 clear xR;obtain⟨k,VA,vc,vn,l,hk,rfl,rfl,iB,pO,vY,ws⟩:=hrel;have HK:=Hh hk;have HV:=Hh (And.intro iB pO);clear hk iB pO
 by_cases zB:k<n
 ·have iP:(k:Int)<(n:Int):=by omega
  have gw:decide ((k:Int)<(n:Int))=true:=decide_eq_true iP;have Uq:decide (k<n)=true:=decide_eq_true zB;have oa:=Hh zB;go_wp2_with (at_builtin;refine yq ?_)
  unfold z8
  generalize IntKind.u64.wrap q/2 ^ (8*(k%8))+(k:Int)/8=v0
  obtain⟨x,hx⟩:∃ x:UInt8,Value.int .u8 (v0%256)=zT x:=SI _;have HC:Hid ((#[.int .u8 (v0%256)]:Array Value).toList=[x].map zT):=by simp[Hid,← hx]
  have mQ:=vY.alloc (.cells #[.int .u8 (v0%256)] 5);have zC:=ws.alloc ws.size (.cells #[.int .u8 (v0%256)] 5)
  refine zW rfl (.tmp 11) (.tmp 24) rfl w.heap.size (.slice VA vn vc) l rfl mQ _ 1 _ [x] rfl rfl (Src.new _ _ _ _ rfl _ HC.out) (by have:=HV.out;have:=HK.out;simp;omega) zC.size fun v' w7 vr yQ hat7=>?_
  exact ja5
 have iP:¬ ((k:Int)<(n:Int)):=by omega
 have gw:decide ((k:Int)<(n:Int))=false:=decide_eq_false iP;have Uq:decide (k<n)=false:=decide_eq_false zB;obtain rfl:vn=n:=by have:=HV.out;have:=HK.out;omega
 have HL:Hid (l.length=vn):=by have:=HV.out;rw[Hid];omega
 clear zB;exact jd1
abbrev sI:Array Value:=#[.int .i64 0,.int .i64 0,.int .i64 0,.slice none 0 0,.slice none 0 0,.slice none 0 0,.slice none 0 0]
theorem yk:(Tryz.prog.info? 61).map (·.size)=some 7:=by kernel_rfl
theorem oT (a b c d e f g:Value) (ha:a.oneCell'=true) (hb:b.oneCell'=true) (hc:c.oneCell'=true) (hd:d.oneCell'=true) (he:e.oneCell'=true) (hf:f.oneCell'=true) (hg:g.oneCell'=true) :
  (#[a,b,c,d,e,f,g]:Array Value).all (·.oneCell')=true:=by simp[ha,hb,hc,hd,he,hf,hg]
structure KM (W0:World) (H:Snap) (g R K:Nat) (kc:Array Value) (w:World) (Hr:Snap):Prop where
 dealt:Dealt W0 H w Hr g
 res:Blk w R 61 sI
 key:Blk w K 61 kc
 hR:Hr R=none
 hK:Hr K=none
 neRK:R≠K
 gW:g<W0.heap.size
 wR:W0.heap.size≤R
 wK:W0.heap.size≤K
section
variable {W0 w w':World} {H Hr Hs:Snap} {g R K:Nat} {kc kc':Array Value}
end
structure KN (W0:World) (H:Snap) (R K:Nat) (kc:Array Value) (w:World) (Hr:Snap):Prop where
 grows:Grows W0 H w Hr
 res:Blk w R 61 sI
 key:Blk w K 61 kc
 hR:Hr R=none
 hK:Hr K=none
 neRK:R≠K
 wR:W0.heap.size≤R
 wK:W0.heap.size≤K
section
variable {W0 w w':World} {H Hr Hs:Snap} {R K:Nat} {kc kc':Array Value}
theorem KN.grow (h:KN W0 H R K kc w Hr) (k:Grows w Hr w' Hs):KN W0 H R K kc w' Hs :=
 ⟨h.grows.trans k,h.res.below k.below,h.key.below k.below,k.none h.hR h.res.lt,k.none h.hK h.key.lt,h.neRK,h.wR,h.wK⟩
theorem KN.below (h:KN W0 H R K kc w Hr) (k:Below w.heap.size w w'):KN W0 H R K kc w' Hr:=h.grow (Grows.of_below h.grows.holds k)
theorem KN.alloc (h:KN W0 H R K kc w Hr) (o:Obj):KN W0 H R K kc (w.alloc o) Hr:=h.below (zm w o)
theorem KN.set (h:KN W0 H R K kc w Hr) (hB:Blk w' K 61 kc') (hg:w.grownBy w' (some K)):KN W0 H R K kc' w' Hr :=
 ⟨h.grows.grownOwn h.hK h.wK hg,h.res.grown hg (fun e=>by injection e with e;exact h.neRK e.symm),hB,h.hR,h.hK,h.neRK,h.wR,h.wK⟩
end
end Go.Proofs.YtgaoknihklmakabGreatDoor
