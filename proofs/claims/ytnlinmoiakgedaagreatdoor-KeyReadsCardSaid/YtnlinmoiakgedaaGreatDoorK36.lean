/- squeezed. sort.Slice of pairs whose keys asc -/
import Derived.Test.YtnlinmoiakgedaaGreatDoorK35
import Derived.Test.YtnlinmoiakgedaaGreatDoorK21
set_option linter.unusedVariables false
set_option linter.unusedSimpArgs false
set_option maxRecDepth 100000
set_option maxHeartbeats 3200000
namespace Go.Proofs.YtnlinmoiakgedaaGreatDoor
open Go.RowKit
structure PE (H:Snap) where
 A:Option Addr
 cc:Nat
 key:List UInt8
 rest:List Value
 len:rest.length=8
 one:∀ u∈rest,u.oneCell'=true
 is:IsBytes H A cc key
instance (H:Snap):Inhabited (PE H):=⟨⟨none,0,[],List.replicate 8 (.bool false),by simp,by simp[Value.oneCell'],IsBytes.nil H⟩⟩
def uP {H:Snap}(x:PE H):List Value:=.slice x.A x.key.length x.cc::x.rest
def ZQ {H:Snap}(a b:PE H):Bool:=decide (Lib.compareBytes a.key b.key<0)
theorem dD {H:Snap}(blk off c Bs size:Nat) (W:World) (hW:Holds W H) (G:Nat→PE H) (hs:W.cell? ⟨Bs,0,none⟩=some (.slice (some ⟨blk,off,none⟩) size c))
  (hc:∀ t,t<size→W.cell? ⟨blk,off+t*9,none⟩=some (.slice (G t).A (G t).key.length (G t).cc)) (i j:Nat) (hi:i<size) (hj:j<size) :
  Calls Tryz.prog 68 #[.int .i64 i,.int .i64 j,.pointer (some ⟨Bs,0,none⟩)] W fun e w'=>e=.returned (.bool (ZQ (G i) (G j)))∧∃ q,w'=W.drewN q:=by
 have ci:=hc i hi;have cj:=hc j hj;have si:=Src.of_row (G i).is.row hW;have sj:=Src.of_row (G j).is.row hW;have Jt:(i:Int)<size:=by omega
 have Ju:(j:Int)<size:=by omega
 have E:Hid (ZQ (G i) (G j)=decide (Lib.compareBytes (G i).key (G j).key<0)):=rfl;obtain⟨x,hx⟩:∃ x,G i=x:=⟨_,rfl⟩
 obtain⟨y,hy⟩:∃ y,G j=y:=⟨_,rfl⟩
 rw[hx]at ci si E⊢;rw[hy]at cj sj E⊢;rw[E.out];have CMP:True:=trivial;have SX:=si;have SY:=sj;clear hc hx hy si sj E hW CMP;have HB:=Hh (And.intro hi hj);go_enter Tryz.func68,Tryz.ntmps68
 go_upto_region 1 with fail
 refine yt 12 (fun wx=>wx.cell? ⟨Bs,0,none⟩=some (.slice (some ⟨blk,off,none⟩) size c)∧wx.cell? ⟨blk,off+i*9,none⟩=some (.slice x.A x.key.length x.cc)∧wx.cell? ⟨blk,off+j*9,none⟩=some (.slice y.A y.key.length y.cc)) (by kernel_rfl) (⟨hs,ci,cj⟩) (fun zy=>?_)
 refine Zk 0 rfl zy ?_
 refine Zk 1 rfl zy ?_
 refine Zk 2 rfl zy ?_
 refine Zk 3 rfl zy ?_
 refine Zk 4 rfl zy ?_
 refine Zk 5 rfl zy ?_
 refine Zk 6 rfl zy ?_
 refine Zk 7 rfl zy ?_
 refine Zk 8 rfl zy ?_
 refine Zk 9 rfl zy ?_
 refine Zo 10 rfl fun K hK=>?_
 go_simp
 refine(show Calls Tryz.prog 57 #[.slice x.A x.key.length x.cc,.slice y.A y.key.length y.cc] W.drew fun e w'=>e=.returned (.int .i64 (Lib.compareBytes x.key y.key))∧W.drew=w' from tH W.drew x.A y.A x.key y.key x.key.length y.key.length x.cc y.cc rfl rfl SX SY).mono ?_
 rintro e w3 ⟨rfl,rfl⟩
 refine hK.out _ _ (fun _=>?_) (fun zy=>?_)
 ·exact⟨hs,ci,cj⟩
 clear hK K;have zy:=zy (by decide)
 try simp only[Act.put,zz1,zz2,zz3,zz4,zz5,zz6]
 refine Zk 11 rfl zy ?_
 refine Zo 12 rfl fun K hK=>?_
 go_simp
 refine hK.out _ _ (fun h=>absurd h (by decide)) (fun _=>?_)
 clear hK K
 try simp only[Act.put,zz1,zz2,zz3,zz4,zz5,zz6]
 refine WaysZ.done (by kernel_rfl) ?_
 clear zy;go_wp2_with fail
 go_ret
 exact⟨rfl,1,rfl⟩
theorem ei {α:Type}[Inhabited α] (lt:α→α→Bool) (a:Nat):∀ (i:Nat) (d:Array α),(∀ j,j+1=i→lt d[j+1]! d[j]! = false)→Sort.insInner lt a i d=d
 | 0,d,_=>rfl
 | i+1,d,h=>by rw[Sort.insInner,h i rfl,Bool.and_false,if_neg (by simp)]
theorem ej {α:Type}[Inhabited α] (lt:α→α→Bool) (a b:Nat) (d:Array α) (h:∀ j,j+1<b→lt d[j+1]! d[j]! = false):∀ (n i:Nat),b-i=n→Sort.insOuter lt a b i d=d:=by
 intro n
 induction n with
 | zero=>intro i hi;rw[Sort.insOuter,if_neg (by omega)]
 | succ n ih =>
  intro i hi
  rw[Sort.insOuter,if_pos (by omega),ei lt a i d (fun j hj=>h j (by omega))]
  exact ih (i+1) (by omega)
theorem gk {α:Type}[Inhabited α] (lt:α→α→Bool) (d:Array α) (h:∀ j,j+1<d.size→lt d[j+1]! d[j]! = false):Sort.insertionSort lt d 0 d.size=d:=ej lt 0 d.size d h _ _ rfl
end Go.Proofs.YtnlinmoiakgedaaGreatDoor
namespace Go.Proofs.YtnlinmoiakgedaaGreatDoor
open Go.RowKit Go.Shelf Go.Lib
noncomputable def pairTI:TypeInfo:=(Tryz.prog.info? 97).get (by kernel_rfl)
noncomputable def pairEI:TypeInfo:=(Tryz.prog.info? 99).get (by kernel_rfl)
theorem Ty (n:Nat) (h2:2≤n):Lib.swapperK n pairEI 25=9:=by
 have a:pairEI.hasPointers=true:=by kernel_rfl
 have b:(pairEI.bytes==8)=false:=by kernel_rfl
 have c:(n==0)=false:=by simp;omega
 have d:(n==1)=false:=by simp;omega
 simp[Lib.swapperK,a,b,c,d]
theorem Xj {a b:List UInt8}(h:Lib.compareBytes a b<0):¬ Lib.compareBytes b a<0:=fun h'=>by
 have h3:=mg a b a h h';rw[sr]at h3
 omega
theorem iq {H:Snap}(x:PE H):(uP x).length=9:=by simp[uP,x.len]
theorem dV {H:Snap}(d:Array (PE H)) (uA:∀ j,j+1<d.size→Lib.compareBytes d[j]!.key d[j+1]!.key<0) (h2:2≤d.size) (SW:d.size≤12) (blk off c Bs:Nat) (w:World)
  (hW:Holds w H) (hHb:H blk=none) (hH:Go.Sort.HoldsK uP 9 w blk off d) (hblk:blk<w.heap.size) (hs:w.cell? ⟨Bs,0,none⟩=some (.slice (some ⟨blk,off,none⟩) d.size c)) (gT:Bs≠blk) (hBl:Bs<w.heap.size) :
  Calls Tryz.prog 67 #[.iface 97 (.slice (some ⟨blk,off,none⟩) d.size c),.func (.func 68) #[] #[.pointer (some ⟨Bs,0,none⟩)]] w fun e w'=>e=.returned (.tuple #[])∧Below w.heap.size w w':=by
 have Qy:LessReadsK (α:=PE H) Tryz.prog 68 #[.pointer (some ⟨Bs,0,none⟩)] uP 9 ZQ blk off d.size w:=by
  intro m os dk gh i j hi hj
  have LU:Go.Sort.HoldsK uP 9 (Sort.ahead w m) blk off d:=Go.Sort.holdsK_ahead uP 9 w m blk off d hH;have LV:=Go.Sort.holdsK_putRowK uP 9 (Sort.ahead w m) blk off d dk LU gh;have Ue:(Go.Sort.putRowK uP 9 (Sort.ahead w m) blk off dk).heap.size=w.heap.size:=Go.Sort.size_putRow id (Sort.ahead w m) blk off _;have Qv:blk<(Go.Sort.putRowK uP 9 (Sort.ahead w m) blk off dk).heap.size:=by rw[Ue];exact hblk
  have LT:=Go.Sort.holdsK_grow uP 9 (Go.Sort.putRowK uP 9 (Sort.ahead w m) blk off dk) os blk off dk Qv LV
  have LZ:Holds (Go.Sort.grow (Go.Sort.putRowK uP 9 (Sort.ahead w m) blk off dk) os) H:=fun b o hb=>by
   have sN:=hW.lt hb;have wd:b≠blk:=fun e=>by rw[e,hHb]at hb;cases hb
   rw[Go.Sort.heap_grow_old _ _ (by rw[Ue];exact sN)]
   have hq:(w.heap.modify blk (Go.Sort.onCells (Go.Sort.putCells id off (Go.Sort.flatK uP 9 dk))))[b]? = some o:=by
    rw[Array.getElem?_modify,if_neg (Ne.symm wd)]
    exact hW b o hb
   exact hq
  refine(dD blk off c Bs d.size _ LZ (fun t=>dk[t]!) ?_ (fun t ht=>?_) i j hi hj)
  ·rw[Go.Sort.cell?_grow _ _ _ (by rw[Ue];exact hBl),Go.Sort.cell?_putRowK_other uP 9 _ _ _ _ _ gT]
   exact hs
  ·exact(LT.cell (i:=t) (c:=0) (by omega) (by omega)).1
 have hS:=Any.sort_Slice_small_cells (α:=PE H) YL 97 99 pairTI pairEI (by kernel_rfl) (by kernel_rfl) (by kernel_rfl) (by kernel_rfl) 25 (fun _=>by kernel_rfl) uP 9 iq (by kernel_rfl) (fun _=>by kernel_rfl)
  (fun x v hv=>by
   rw[uP,List.mem_cons]at hv
   rcases hv with rfl | hv
   ·rfl
   ·exact x.one v hv) ZQ 68 _
  (enters_of Tryz.func68 (by kernel_rfl) rfl) blk off c d h2 SW 107 (by rw[Ty _ h2];kernel_rfl) false
  (fun args W=>run_callFunc_extern Tryz.func107 (by kernel_rfl) (by kernel_rfl) (by kernel_rfl) (e:=Extern.ReflectliteSwapper.swap false) (by kernel_rfl) args W) w Qy hH hblk
 rw[gk ZQ d (fun j hj=>decide_eq_false (Xj (uA j hj)))]at hS;change Calls Tryz.prog 67 _ _ _ at hS
 refine hS.mono fun e w' ⟨he,n,os,hw⟩=>⟨he, ?_⟩
 rw[hw,Go.Sort.putRowK_self uP 9 _ _ _ _ (Go.Sort.holdsK_ahead uP 9 w n blk off d hH)]
 exact⟨rfl,rfl,rfl,by show w.heap.size≤(w.heap++os).size;rw[Array.size_append];omega,fun _ hj=>Go.Sort.heap_grow_old (Sort.ahead w n) os hj⟩
end Go.Proofs.YtnlinmoiakgedaaGreatDoor
namespace Go.Proofs.YtnlinmoiakgedaaGreatDoor
open Go.RowKit
abbrev Pr:=List UInt8×Itm×Itm
def gN:Lie Pr where
 k:=9
 pos:=by omega
 E:=fun H x c=>∃ A cc ba bc ia ic ba' bc' ia' ic',c=.slice A x.1.length cc::(zg x.2.1 ba bc ia ic++zg x.2.2 ba' bc' ia' ic')∧IsBytes H A cc x.1∧IsItem H ba bc ia ic x.2.1∧IsItem H ba' bc' ia' ic' x.2.2
 len:=by rintro _ _ _ ⟨_,_,_,_,_,_,_,_,_,_,rfl,_⟩;rfl
 one:=by rintro _ _ _ ⟨_,_,_,_,_,_,_,_,_,_,rfl,_⟩;simp[zg,Value.oneCell']
 mono:=by rintro H K x c hl ⟨A,cc,ba,bc,ia,ic,ba',bc',ia',ic',e,h1,h2,h3⟩;exact⟨A,cc,ba,bc,ia,ic,ba',bc',ia',ic',e,h1.mono hl,h2.mono hl,h3.mono hl⟩
def pk:List Itm→List Pr
 | a::b::l=>(zd a,a,b)::pk l
 | _=>[]
theorem km:∀ l:List Itm,(pk l).length=l.length/2
 | []=>rfl
 | [_]=>by simp[pk]
 | a::b::l=>by simp only[pk,List.length_cons,km l];omega
theorem pn:∀ (l:List Itm) (i:Nat) (h:2*i+1<l.length),(pk l)[i]? = some (zd (l[2*i]'(by omega)),l[2*i]'(by omega),l[2*i+1])
 | [],i,h=>by simp at h
 | [_],i,h=>by simp at h
 | a::b::l,0,h=>by simp[pk]
 | a::b::l,i+1,h=>by
  have h':2*i+1<l.length:=by simp only[List.length_cons]at h;omega
  have e1:∀ h2,(a::b::l)[2*(i+1)]'h2=l[2*i]:=fun h2=>by
   have:2*(i+1)=2*i+1+1:=by omega
   simp only[this,List.getElem_cons_succ]
  have e2:∀ h2,(a::b::l)[2*(i+1)+1]'h2=l[2*i+1]:=fun h2=>by
   have:2*(i+1)+1=(2*i+1)+1+1:=by omega
   simp only[this,List.getElem_cons_succ]
  rw[e1,e2,pk,List.getElem?_cons_succ]
  exact pn l i h'
theorem WB (l:List Itm) (i:Nat) (h:2*i+1<l.length):pk (l.take (2*i+2))=pk (l.take (2*i))++[(zd (l[2*i]'(by omega)),l[2*i]'(by omega),l[2*i+1])]:=by
 apply List.ext_getElem?
 intro j
 have h1:(pk (l.take (2*i))).length=i:=by rw[km,List.length_take];omega
 have h2:(pk (l.take (2*i+2))).length=i+1:=by rw[km,List.length_take];omega
 rcases Nat.lt_trichotomy j i with hj | hj | hj
 ·rw[List.getElem?_append_left (by omega),pn _ j (by rw[List.length_take];omega),pn _ j (by rw[List.length_take];omega)]
  simp only[List.getElem_take]
 ·subst hj;rw[List.getElem?_append_right (by omega),h1,Nat.sub_self,pn _ j (by rw[List.length_take];omega)]
  simp only[List.getElem_take]
  rfl
 ·rw[List.getElem?_eq_none (by omega),List.getElem?_eq_none (by simp;omega)]
structure XM {α:Type} (L:Lie α) (t bt:TypeId) (kt:TypeId) (W0:World) (H:Snap) (B:Nat) (kc:Array Value) (bv v:Value) (l:List α) (w:World) (Hr:Snap):Prop where
 grows:Grows W0 H w Hr
 hK:Hr W0.heap.size=none
 key:Blk w W0.heap.size kt kc
 own:OwnX L t w (W0.heap.size+1) v Hr l
 apart:∀ g,v.ownBlock=some g→Hr g=none
 lt:W0.heap.size<B
 hB:Hr B=none
 box:Blk w B bt #[bv]
 far:v.ownBlock≠some B
section
variable {α:Type} {L:Lie α} {t bt kt:TypeId} {W0 w w':World} {H Hr Hs:Snap} {B:Nat} {kc:Array Value} {bv v v':Value} {l news:List α}
theorem XM.start (hG:Grows W0 H w Hr) (hK:Hr W0.heap.size=none) (hk:Blk w W0.heap.size kt kc) (hO:OwnX L t w (W0.heap.size+1) v Hr l) (ha:∀ g,v.ownBlock=some g→Hr g=none) :
  XM L t bt kt W0 H w.heap.size kc bv v l (w.alloc (.cells #[bv] bt)) Hr :=
 ⟨hG.alloc _,hK,hk.alloc _,hO.alloc _,ha,hk.lt,hG.hidden (Nat.le_refl _),Blk.new _ _ _,fun e=>by have:=(hO.lt _ e).2;omega⟩
theorem XM.grow (h:XM L t bt kt W0 H B kc bv v l w Hr) (k:Grows w Hr w' Hs):XM L t bt kt W0 H B kc bv v l w' Hs :=
 ⟨h.grows.trans k,k.none h.hK h.key.lt,h.key.below k.below,(h.own.below k.below).mono k.le,fun g hg=>k.none (h.apart g hg) (h.own.lt g hg).2,h.lt,k.none h.hB h.box.lt,h.box.below k.below,h.far⟩
theorem XM.below (h:XM L t bt kt W0 H B kc bv v l w Hr) (k:Below w.heap.size w w'):XM L t bt kt W0 H B kc bv v l w' Hr:=h.grow (Grows.of_below h.grows.holds k)
theorem XM.alloc (h:XM L t bt kt W0 H B kc bv v l w Hr) (o:Obj):XM L t bt kt W0 H B kc bv v l (w.alloc o) Hr:=h.below (zi w o)
theorem XM.drew (h:XM L t bt kt W0 H B kc bv v l w Hr):XM L t bt kt W0 H B kc bv v l w.drew Hr:=h.below (Below.refl _ _).drew
theorem XM.base (h:XM L t bt kt W0 H B kc bv v l w Hr):W0.heap.size+1≤w.heap.size:=by have:=h.key.lt;omega
theorem XM.litZ (h:XM L t bt kt W0 H B kc bv v l w Hr) (cs:Array Value) (e:TypeId):Src (w.alloc (.cells cs e)) (some ⟨w.heap.size,0,none⟩) cs.toList:=Src.lit w cs e
theorem XM.app (h:XM L t bt kt W0 H B kc bv v l w Hr) (hO:OwnX L t w' (W0.heap.size+1) v' Hr (l++news)) (hg:w.grownBy w' v.ownBlock) (ha:At0 w v.ownBlock v'.ownBlock):XM L t bt kt W0 H B kc bv v' (l++news) w' Hr :=
 ⟨h.grows.grownRow h.apart (fun g hg=>by have:=(h.own.lt g hg).1;omega) hg,h.hK,h.key.grown hg (fun e=>by have:=(h.own.lt _ e).1;omega),hO,fun g hv=>by
  rcases ha with e | ⟨g',e,hs⟩
  ·exact h.apart g (by rw[← e,hv])
  ·rw[hv]at e;injection e with e
   subst e
   exact h.grows.hidden hs,h.lt,h.hB,h.box.grown hg h.far,by
  rcases ha with e | ⟨g',e,hs⟩
  ·rw[e];exact h.far
  ·rw[e]
   intro e2
   injection e2 with e2
   have:=h.box.lt
   omega⟩
theorem XM.setBox (h:XM L t bt kt W0 H B kc bv v l w Hr) (hB:Blk w' B bt #[v']) (hg:w.grownBy w' (some B)):XM L t bt kt W0 H B kc v' v l w' Hr :=
 ⟨h.grows.grownOwn h.hB (by have:=h.lt;omega) hg,h.hK,h.key.grown hg (fun e=>by injection e with e;have:=h.lt;omega),h.own.kept hg (.inr h.far),h.apart,h.lt,h.hB,hB,h.far⟩
theorem XM.snap {A:Option Addr}{m c:Nat}(h:XM L t bt kt W0 H B kc bv (.slice A m c) l w Hr) :
  ∃ H',Grows W0 H w H'∧Hr.le H'∧m=l.length∧IsRow L H' A c l∧H' W0.heap.size=none∧H' B=none:=by
 obtain⟨H',hl,hh,hf,rfl,hr⟩:=h.own.snap h.grows.holds (fun g hg=>h.apart g (by cases A <;> simp_all [Value.ownBlock]))
 have lr:∀ b,Hr b=none→(∀ g,(Value.slice A l.length c).ownBlock=some g→g≠b)→H' b=none:=fun b hb wd=>by
  cases hx:H' b with
  | none=>rfl
  | some o =>
   rcases hf b o hx with h1 | h1
   ·rw[hb]at h1;cases h1
   ·exact absurd rfl (wd b (by cases A <;> simp_all [Value.ownBlock]))
 refine⟨H',⟨h.grows.below,h.grows.le.trans hl,hh,fun b o hb=>?_⟩,hl,rfl,hr,lr _ h.hK (fun g hg e=>by have:=(h.own.lt g hg).1;omega),lr _ h.hB (fun g hg e=>h.far (by rw[hg,e]))⟩
 rcases hf b o hb with h1 | h1
 ·exact h.grows.fresh b o h1
 ·exact .inr (by have:=(h.own.lt b (by cases A <;> simp_all [Value.ownBlock])).1;omega)
end
theorem OwnX.append_wp2 {α:Type}{L:Lie α}{t:TypeId}{w:World}{base:Nat}{v:Value}{H:Snap}{l:List α}{o:Oper}{a:Act}{K:Act→World→Prop}{Q:Exit→Act→World→Prop}(s x:Operand) (T:TypeId)
  (ho:o.op=.call { callee:=.builtin .append,args:=#[s,x],argTypes:=#[T,T] }) (hT:Tryz.prog.underlying T=some (.slice t)) {z:Value} {bytes:Nat} (hzs:z.cells.size=L.k) (gV:bytes≤256)
  (hinfo:(Tryz.prog.info? t).map (fun i=>(i.zero,i.size,i.bytes))=some (some z,L.k,bytes))
  (hs:a.eval s=v) (vq:OwnX L t w base v H l) (A:Option Addr) (m c:Nat) (cs:List Value) (news:List α) (hx:a.eval x=.slice A m c) (hm:m=news.length)
  (hn:RowC L H cs news) (hr:Src w A cs) (zK:l.length+news.length≤1048576) (hbase:base≤w.heap.size)
  (h:∀ v' w',OwnX L t w' base v' H (l++news)→w.grownBy w' v.ownBlock→At0 w v.ownBlock v'.ownBlock→K (a.put o.dst v') w') :
  Oper.wp Tryz.prog o a w K Q:=by
 subst hm;obtain⟨xs,XI,vq⟩:=vq;obtain⟨i0,xt,cK,sB,o4⟩:=info_parts hinfo
 refine uG s x _ ho base t i0 _ L.k bytes hT xt cK sB o4 hzs L.pos v l.length xs hs vq A news.length c cs hx hn.len hr hn.oneCell
  (by simp only[maxLen];omega) (by have:=Nat.mul_le_mul zK gV;omega) hbase fun v' w' h2 h3 h4=>h v' w' ?_ h3 ?_
 ·exact⟨xs++cs,XI.app hn,by simpa using h2⟩
 ·rcases h4 with h4 | h4
  ·exact .inl h4
  ·exact .inr ⟨_,h4,Nat.le_refl _⟩
abbrev pt:Array Value:=#[.int .i64 0,.int .u64 0,.slice none 0 0,.slice none 0 0]
structure BM (W0:World) (H:Snap) (B M:Nat) (bc:Array Value) (iv v:Value) (l:List Itm) (w:World) (Hr:Snap):Prop where
 grows:Grows W0 H w Hr
 hK:Hr W0.heap.size=none
 hB:Hr B=none
 hM:Hr M=none
 ltB:W0.heap.size<B
 ltM:W0.heap.size<M
 ne:B≠M
 key:Blk w W0.heap.size 26 pt
 boxB:Blk w B 97 bc
 boxM:Blk w M 26 #[.int .i64 5,.int .u64 0,.slice none 0 0,iv]
 own:OwnI w (W0.heap.size+1) v Hr l
 apart:∀ g,v.ownBlock=some g→Hr g=none∧g≠B∧g≠M
section
variable {W0 w w':World} {H Hr Hs:Snap} {B M:Nat} {bc:Array Value} {iv v v':Value} {l news:List Itm}
theorem BM.grow (h:BM W0 H B M bc iv v l w Hr) (k:Grows w Hr w' Hs):BM W0 H B M bc iv v l w' Hs :=
 ⟨h.grows.trans k,k.none h.hK h.key.lt,k.none h.hB h.boxB.lt,k.none h.hM h.boxM.lt,h.ltB,h.ltM,h.ne,h.key.below k.below,h.boxB.below k.below,h.boxM.below k.below,(h.own.below k.below).mono k.le,
  fun g hg=>⟨k.none (h.apart g hg).1 (h.own.lt g hg).2,(h.apart g hg).2⟩⟩
theorem BM.below (h:BM W0 H B M bc iv v l w Hr) (k:Below w.heap.size w w'):BM W0 H B M bc iv v l w' Hr:=h.grow (Grows.of_below h.grows.holds k)
theorem BM.alloc (h:BM W0 H B M bc iv v l w Hr) (o:Obj):BM W0 H B M bc iv v l (w.alloc o) Hr:=h.below (zi w o)
theorem BM.drew (h:BM W0 H B M bc iv v l w Hr):BM W0 H B M bc iv v l w.drew Hr:=h.below (Below.refl _ _).drew
theorem BM.litZ (h:BM W0 H B M bc iv v l w Hr) (cs:Array Value) (e:TypeId):Src (w.alloc (.cells cs e)) (some ⟨w.heap.size,0,none⟩) cs.toList:=Src.lit w cs e
theorem BM.base (h:BM W0 H B M bc iv v l w Hr):W0.heap.size+1≤w.heap.size:=by have:=h.key.lt;omega
theorem BM.app (h:BM W0 H B M bc iv v l w Hr) (hO:OwnI w' (W0.heap.size+1) v' Hr (l++news)) (hg:w.grownBy w' v.ownBlock) (ha:At0 w v.ownBlock v'.ownBlock):BM W0 H B M bc iv v' (l++news) w' Hr :=
 ⟨h.grows.grownRow (fun g hg=>(h.apart g hg).1) (fun g hg=>by have:=(h.own.lt g hg).1;omega) hg,h.hK,h.hB,h.hM,h.ltB,h.ltM,h.ne,h.key.grown hg (fun e=>by have:=(h.own.lt _ e).1;omega),
  h.boxB.grown hg (fun e=>(h.apart _ e).2.1 rfl),h.boxM.grown hg (fun e=>(h.apart _ e).2.2 rfl),hO,fun g hv=>by
  rcases ha with e | ⟨g',e,hs⟩
  ·exact h.apart g (by rw[← e,hv])
  ·rw[hv]at e;injection e with e
   subst e;have h1:=h.boxB.lt;have h2:=h.boxM.lt
   exact⟨h.grows.hidden hs,by omega,by omega⟩⟩
theorem BM.setM (h:BM W0 H B M bc iv v l w Hr) {iv':Value}(hB:Blk w' M 26 #[.int .i64 5,.int .u64 0,.slice none 0 0,iv']) (hg:w.grownBy w' (some M)):BM W0 H B M bc iv' v l w' Hr :=
 ⟨h.grows.grownOwn h.hM (by have:=h.ltM;omega) hg,h.hK,h.hB,h.hM,h.ltB,h.ltM,h.ne,h.key.grown hg (fun e=>by injection e with e;have:=h.ltM;omega),h.boxB.grown hg (fun e=>by injection e with e;exact h.ne e.symm),hB,
  h.own.kept hg (by
   cases hv:v.ownBlock with
   | none=>exact .inl rfl
   | some g=>exact .inr (fun e=>by injection e with e;exact(h.apart g hv).2.2 e)),h.apart⟩
theorem BM.item {A:Option Addr}{m c:Nat}(h:BM W0 H B M bc (.slice A m c) (.slice A m c) l w Hr) :
  ∃ H',Grows W0 H w H'∧m=l.length∧IsItem H' none 0 A c (.mk 5 0 [] l)∧H' W0.heap.size=none:=by
 obtain⟨H',hl,hh,hf,rfl,sz,t8,wI⟩:=h.own.snap h.grows.holds (fun g hg=>(h.apart g (by cases A <;> simp_all [Value.ownBlock])).1)
 refine⟨H',⟨h.grows.below,h.grows.le.trans hl,hh,fun b o hb=>?_⟩,rfl, ?_, ?_⟩
 ·rcases hf b o hb with h1 | h1
  ·exact h.grows.fresh b o h1
  ·exact .inr (by have:=(h.own.lt b (by cases A <;> simp_all [Value.ownBlock])).1;omega)
 ·rw[IsItem]
  exact⟨⟨by omega,by omega,by omega,sz,t8⟩,IsBytes.nil _,wI⟩
 ·cases hx:H' W0.heap.size with
  | none=>rfl
  | some o =>
   rcases hf _ o hx with h1 | h1
   ·rw[h.hK]at h1;cases h1
   ·have:=(h.own.lt W0.heap.size (by cases A <;> simp_all [Value.ownBlock])).1;omega
end
abbrev YO:Value:=.agg #[.slice none 0 0,.int .i64 0,.int .u64 0,.slice none 0 0,.slice none 0 0,.int .i64 0,.int .u64 0,.slice none 0 0,.slice none 0 0]
theorem k9:(Tryz.prog.info? 99).map (fun i=>(i.zero,i.size,i.bytes))=some (some YO,9,152):=by kernel_rfl
theorem mU:(Tryz.prog.info? 97).map (·.size)=some 1:=by kernel_rfl
end Go.Proofs.YtnlinmoiakgedaaGreatDoor
