/- squeezed. Rows of elements of k cells each ( -/
import Derived.Test.YtgcjjhibdbafmaaGreatDoorK08
import Derived.OwnWalk
set_option linter.unusedVariables false
set_option linter.unusedSimpArgs false
set_option maxRecDepth 100000
set_option maxHeartbeats 6400000
namespace Go.Proofs.YtgcjjhibdbafmaaGreatDoor
open Go.RowKit
structure Lie (α:Type) where
 k:Nat
 pos:0<k
 E:Snap→α→List Value→Prop
 len:∀ {H x c},E H x c→c.length=k
 one:∀ {H x c},E H x c→∀ u∈c,u.oneCell'=true
 mono:∀ {H K x c},H.le K→E H x c→E K x c
section
variable {α:Type} {L:Lie α}
def RowC (L:Lie α) (H:Snap):List Value→List α→Prop
 | cs,[]=>cs=[]
 | cs,x::l=>∃ c rest,cs=c++rest∧L.E H x c∧RowC L H rest l
theorem RowC.nil (L:Lie α) (H:Snap):RowC L H [] []:=by rw[RowC]
theorem RowC.len {H:Snap}:∀ {l:List α}{cs:List Value},RowC L H cs l→cs.length=l.length*L.k
 | [],cs,h=>by rw[RowC]at h;subst h;simp
 | x::l,cs,h=>by
  obtain⟨c,rest,rfl,hx,hr⟩:=h;rw[List.length_append,L.len hx,hr.len,List.length_cons,Nat.succ_mul,Nat.add_comm]
theorem RowC.mono {H K:Snap}(hl:H.le K):∀ {l:List α}{cs:List Value},RowC L H cs l→RowC L K cs l
 | [],cs,h=>h
 | x::l,cs,h=>by
  obtain⟨c,rest,e,hx,hr⟩:=h
  exact⟨c,rest,e,L.mono hl hx,hr.mono hl⟩
theorem RowC.one {H:Snap}{x:α}{c:List Value}(h:L.E H x c):RowC L H c [x]:=⟨c,[],by simp,h,RowC.nil L H⟩
theorem RowC.app {H:Snap}:∀ {l m:List α}{cs ds:List Value},RowC L H cs l→RowC L H ds m→RowC L H (cs++ds) (l++m)
 | [],m,cs,ds,h,hd=>by rw[RowC]at h;subst h;exact hd
 | x::l,m,cs,ds,h,hd=>by
  obtain⟨c,rest,rfl,hx,hr⟩:=h
  exact⟨c,rest++ds,by simp,hx,hr.app hd⟩
theorem RowC.oneCell {H:Snap}:∀ {l:List α}{cs:List Value},RowC L H cs l→∀ u∈cs,u.oneCell'=true
 | [],cs,h=>by rw[RowC]at h;subst h;simp
 | x::l,cs,h=>by
  obtain⟨c,rest,rfl,hx,hr⟩:=h
  intro u hu
  rw[List.mem_append]at hu
  rcases hu with hu | hu
  ·exact L.one hx u hu
  ·exact hr.oneCell u hu
theorem RowC.get {H:Snap}:∀ {l:List α}{cs:List Value},RowC L H cs l→∀ (j:Nat) (hj:j<l.length),∃ c,L.E H l[j] c∧∀ i v,c[i]? = some v→cs[j*L.k+i]? = some v
 | [],_,_,j,hj=>by simp at hj
 | x::l,cs,h,0,_=>by
  obtain⟨c,rest,rfl,hx,hr⟩:=h
  refine⟨c,hx,fun i v hi=>?_⟩
  rw[Nat.zero_mul,Nat.zero_add,List.getElem?_append_left (List.getElem?_eq_some_iff.1 hi).1]
  exact hi
 | x::l,cs,h,j+1,hj=>by
  obtain⟨c,rest,rfl,hx,hr⟩:=h;obtain⟨c',hc',hi'⟩:=hr.get j (by simpa using hj)
  refine⟨c',by simpa using hc',fun i v hi=>?_⟩
  have:=hi' i v hi;rw[List.getElem?_append_right (by rw[L.len hx,Nat.succ_mul];omega),L.len hx,show(j+1)*L.k+i-L.k=j*L.k+i by rw[Nat.succ_mul];omega]
  exact this
structure IsRow (L:Lie α) (H:Snap) (A:Option Addr) (c:Nat) (l:List α):Prop where
 le:l.length≤c
 max:c≤9223372036854775807
 row:0<l.length→∃ b off cs,A=some ⟨b,off,none⟩∧RowC L H cs l∧Cells H b off cs
theorem IsRow.at_ {H:Snap}{A:Option Addr}{c:Nat}{l:List α}(h:IsRow L H A c l) (h0:0<l.length):∃ b off,A=some ⟨b,off,none⟩∧∀ j (hj:j<l.length),∃ d,L.E H l[j] d∧∀ i v,d[i]? = some v→H.cell? ⟨b,off+(j*L.k+i),none⟩=some v:=by
 obtain⟨b,off,cs,e,h1,h2⟩:=h.row h0
 refine⟨b,off,e,fun j hj=>?_⟩
 obtain⟨d,hd,hi⟩:=h1.get j hj
 exact⟨d,hd,fun i v hv=>h2 _ _ (hi i v hv)⟩
def OwnX (L:Lie α) (t:TypeId) (w:World) (base:Nat) (v:Value) (H:Snap) (l:List α):Prop:=∃ cs,RowC L H cs l∧w.ownsRow base t L.k v l.length cs
variable {t:TypeId} {w w':World} {base:Nat} {v:Value} {H:Snap} {l:List α}
theorem OwnX.nil (L:Lie α) (t:TypeId) (w:World) (base:Nat) (H:Snap):OwnX L t w base (.slice none 0 0) H []:=⟨[],RowC.nil L H,World.ownsRow_nil _ _ _ _⟩
theorem OwnX.lt (h:OwnX L t w base v H l):∀ k,v.ownBlock=some k→base≤k∧k<w.heap.size:=by obtain⟨_,_,h⟩:=h;exact World.ownsRow.lt h
theorem OwnX.kept {row:Option Nat}(h:OwnX L t w base v H l) (hg:w.grownBy w' row) (hne:v.ownBlock=none∨v.ownBlock≠row):OwnX L t w' base v H l:=by
 obtain⟨cs,hc,h⟩:=h;exact⟨cs,hc,World.ownsRow.kept h hg hne⟩
theorem OwnX.below (h:OwnX L t w base v H l) (hb:Below w.heap.size w w'):OwnX L t w' base v H l:=by
 refine h.kept (grown_of_below hb none) ?_
 cases hv:v.ownBlock with
 | none=>exact .inl rfl
 | some g=>exact .inr (by simp)
theorem OwnX.alloc (h:OwnX L t w base v H l) (o:Obj):OwnX L t (w.alloc o) base v H l:=h.below (below_box w o)
theorem OwnX.mono {K:Snap}(h:OwnX L t w base v H l) (hl:H.le K):OwnX L t w base v K l:=by obtain⟨cs,hc,h⟩:=h;exact⟨cs,hc.mono hl,h⟩
theorem OwnX.form (h:OwnX L t w base v H l):∃ A c,v=.slice A l.length c∧l.length≤c∧c≤9223372036854775807:=by
 obtain⟨cs,hc,h⟩:=h
 rcases h.2 with ⟨rfl,hz⟩ | ⟨g,cap,cur,rfl,_,_,hn,hm,_⟩
 ·exact⟨none,0,by rw[hz],by omega,by omega⟩
 ·exact⟨_,cap,rfl,hn,by simpa [maxLen] using hm⟩
theorem OwnX.snap {A:Option Addr}{m c:Nat}(h:OwnX L t w base (.slice A m c) H l) (hw:Holds w H) (hn:∀ g,A.map (·.block)=some g→H g=none) :
  ∃ H',H.le H'∧Holds w H'∧(∀ b o,H' b=some o→H b=some o∨A.map (·.block)=some b)∧m=l.length∧IsRow L H' A c l:=by
 obtain⟨cs,hcs,h⟩:=h
 rcases h.2 with ⟨hv,hz⟩ | ⟨g,cap,cur,hv,_,hg,hc,hm,hcz,ht⟩
 ·cases hv
  exact⟨H,Snap.le.refl _,hw,fun _ _ h=>.inl h,hz.symm,⟨by omega,by omega,by omega⟩⟩
 ·cases hv
  have hg0:H g=none:=hn g rfl
  refine⟨H.with g (.cells cur t),Snap.le_with hg0,hw.with hg,fun b o hb=>?_,rfl,hc,by simpa [maxLen] using hm,fun _=>⟨g,0,cs,rfl,hcs.mono (Snap.le_with hg0),fun j v hj=>?_⟩⟩
  ·unfold Snap.with at hb
   split at hb
   ·subst b;exact .inr rfl
   ·exact .inl hb
  ·rw[← ht,List.getElem?_take]at hj
   split at hj
   ·simp[Snap.cell?,Snap.with]
    simpa using hj
   ·cases hj
theorem OwnX.at_ {A:Option Addr}{m c:Nat}(h:OwnX L t w base (.slice A m c) H l) (j:Nat) (hj:j<l.length):∃ g,A=some ⟨g,0,none⟩∧∃ d,L.E H l[j] d∧∀ i v,d[i]? = some v→w.cell? ⟨g,j*L.k+i,none⟩=some v:=by
 obtain⟨cs,hcs,h⟩:=h
 rcases h.2 with ⟨hv,hz⟩ | ⟨g,cap,cur,hv,_,hg,hc,hm,hcz,ht⟩
 ·omega
 ·cases hv
  obtain⟨d,hd,hi⟩:=hcs.get j hj
  refine⟨g,rfl,d,hd,fun i v hv=>?_⟩
  have hx:=hi i v hv;rw[← ht,List.getElem?_take]at hx
  split at hx
  ·exact(cell_of_row w g _ cur t (0,0) hg).trans (by simpa using hx)
  ·cases hx
theorem OwnX.append {ops:Array Oper}{rest:List Oper}{o:Oper}{a:Act}{Q:Exit→Act→World→Prop}(hgd:o.guard=none) (s x:Operand) (T:TypeId)
  (ho:o.op=.call { callee:=.builtin .append,args:=#[s,x],argTypes:=#[T,T] }) (hT:Tryz.prog.underlying T=some (.slice t)) {z:Value} {bytes:Nat} (hzs:z.cells.size=L.k) (hby:bytes≤128)
  (hinfo:(Tryz.prog.info? t).map (fun i=>(i.zero,i.size,i.bytes))=some (some z,L.k,bytes))
  (hs:a.eval s=v) (hown:OwnX L t w base v H l) (A:Option Addr) (m c:Nat) (cs:List Value) (news:List α) (hx:a.eval x=.slice A m c) (hm:m=news.length)
  (hn:RowC L H cs news) (hr:Src w A cs) (hlen:l.length+news.length≤1099511627776) (hbase:base≤w.heap.size)
  (h:∀ v' w',OwnX L t w' base v' H (l++news)→w.grownBy w' v.ownBlock→At0 w v.ownBlock v'.ownBlock→wpList Tryz.prog ops Q rest (a.put o.dst v') w') :
  wpList Tryz.prog ops Q (o::rest) a w:=by
 subst hm;obtain⟨xs,hxs,hown⟩:=hown;obtain⟨i0,hi0,hz0,hz1,hz2⟩:=info_parts hinfo
 refine wpList_plain hgd fun K hK=>wp_append_src s x _ ho base t i0 _ L.k bytes hT hi0 hz0 hz1 hz2 hzs L.pos v l.length xs hs hown A news.length c cs hx hn.len hr hn.oneCell
  (by simp only[maxLen];omega) (by have:=Nat.mul_le_mul hlen hby;omega) hbase fun v' w' h2 h3 h4=>hK _ _ (h v' w' ?_ h3 ?_)
 ·exact⟨xs++cs,hxs.app hn,by simpa using h2⟩
 ·rcases h4 with h4 | h4
  ·exact .inl h4
  ·exact .inr ⟨_,h4,Nat.le_refl _⟩
end
def beN (l:List UInt8):Nat:=l.foldl (fun x c=>x*256+c.toNat) 0
def headP:List UInt8→Except Nat (Nat×Nat×Nat)
 | []=>.error 2
 | f::t =>
  if 27<f.toNat%32 then .error 3
  else if f.toNat%32<24 then .ok (f.toNat,f.toNat%32,1)
  else if t.length<2 ^ (f.toNat%32-24) then .error 2
  else if f.toNat/32<7∧(headB 0 (beN (t.take (2 ^ (f.toNat%32-24))))).length≠1+2 ^ (f.toNat%32-24) then .error 4
  else .ok (f.toNat,beN (t.take (2 ^ (f.toNat%32-24))),1+2 ^ (f.toNat%32-24))
def widen5 (v:Nat):Nat :=
 if v/1024%32=31 then v/32768*9223372036854775808+9218868437227405312+v%1024*4398046511104
 else if v/1024%32=0 then(if v%1024=0 then v/32768*9223372036854775808 else v/32768*9223372036854775808+(999+(v%1024).log2)*4503599627370496+(v%1024*2 ^ (52-(v%1024).log2)-4503599627370496))
 else v/32768*9223372036854775808+(v/1024%32+1008)*4503599627370496+v%1024*4398046511104
def widen8 (v:Nat):Nat :=
 if v/8388608%256=255 then v/2147483648*9223372036854775808+9218868437227405312+v%8388608*536870912
 else if v/8388608%256=0 then(if v%8388608=0 then v/2147483648*9223372036854775808 else v/2147483648*9223372036854775808+(874+(v%8388608).log2)*4503599627370496+(v%8388608*2 ^ (52-(v%8388608).log2)-4503599627370496))
 else v/2147483648*9223372036854775808+(v/8388608%256+896)*4503599627370496+v%8388608*536870912
def wideP (low n:Nat):Nat:=if low=25 then widen5 n else if low=26 then widen8 n else n
def sevenP (low n:Nat):Except Nat Itm :=
 if low<24 then .ok (.mk 7 n [] [])
 else if low=24 then(if n<32 then .error 4 else .ok (.mk 7 n [] []))
 else if(isNaN (wideP low n)&&wideP low n != notNumber)||(floatB (wideP low n)).length != 1+2 ^ (low-24) then .error 4
 else .ok (.mk 8 (wideP low n) [] [])
inductive PL where
 | err (e:Nat)
 | ok (l:List Itm) (k c:Nat)
inductive PR where
 | err (e:Nat)
 | ok (x:Itm) (k c:Nat)
def arrP (p:List UInt8→Nat→PR):Nat→List UInt8→Nat→PL
 | 0,_,c=>.ok [] 0 c
 | n+1,b,c=>match p b c with
  | .err e=>.err e
  | .ok x k c'=>match arrP p n (b.drop k) c' with
   | .err e=>.err e
   | .ok l k' c''=>.ok (x::l) (k+k') c''
def keyP (last:Option (List UInt8)) (key:List UInt8):Option Nat :=
 match last with
 | none=>none
 | some l=>if Lib.compareBytes key l=0 then some 7 else if Lib.compareBytes key l<0 then some 6 else none
def mapP (p:List UInt8→Nat→PR):Nat→List UInt8→Nat→Option (List UInt8)→PL
 | 0,_,c,_=>.ok [] 0 c
 | n+1,b,c,last=>match p b c with
  | .err e=>.err e
  | .ok x k c'=>match keyP last (b.take k) with
   | some e=>.err e
   | none=>match p (b.drop k) c' with
    | .err e=>.err e
    | .ok y k' c''=>match mapP p n (b.drop (k+k')) c'' (some (b.take k)) with
     | .err e=>.err e
     | .ok l k'' c3=>.ok (x::y::l) (k+k'+k'') c3
def parse:Nat→List UInt8→Nat→PR
 | d,b,c =>
  if 256≤c then .err 8
  else match headP b with
   | .error e=>.err e
   | .ok (f,n,k) =>
    if f/32≤1 then .ok (.mk (f/32:Nat) n [] []) k (c+1)
    else if f/32≤3 then
     (if b.length<k+n then .err 2
     else if f/32=3∧Lib.validD ((b.drop k).take n)=false then .err 5
     else .ok (.mk (f/32:Nat) 0 ((b.drop k).take n) []) (k+n) (c+1))
    else if f/32=7 then
     (match sevenP (f%32) n with
     | .error e=>.err e
     | .ok x=>.ok x k (c+1))
    else match d with
     | 0=>.err 8
     | d+1 =>
      if f/32=6 then(match parse d (b.drop k) (c+1) with
       | .err e=>.err e
       | .ok x k' c'=>.ok (.mk 6 n [] [x]) (k+k') c')
      else if f/32=5 then(match mapP (parse d) n (b.drop k) (c+1) none with
       | .err e=>.err e
       | .ok l k' c'=>.ok (.mk 5 0 [] l) (k+k') c')
      else(match arrP (parse d) n (b.drop k) (c+1) with
       | .err e=>.err e
       | .ok l k' c'=>.ok (.mk 4 0 [] l) (k+k') c')
theorem cmp_not:∀ a b:List UInt8,¬ Lib.compareBytes a b=0→¬ Lib.compareBytes a b<0→Lib.compareBytes b a<0
 | [],[],h,_=>absurd rfl h
 | [],_::_,_,h=>absurd (by show(-1:Int)<0;decide) h
 | _::_,[],_,_=>by show(-1:Int)<0;decide
 | x::a,y::b,h,k=>by
  rw[Lib.compareBytes]at h k⊢
  split at h
  ·rename_i h1
   rw[if_pos h1]at k
   exact absurd (by decide) k
  rename_i h1
  rw[if_neg h1]at k
  split at h
  ·rename_i h2
   rw[if_pos h2];decide
  rename_i h2
  rw[if_neg h2]at k;rw[if_neg h2,if_neg h1]
  exact cmp_not a b h k
def prefixP (b:List UInt8):PR:=parse 8 (b.take 4096) 0
structure Ext where
 label:Int
 has:Bool
 val:List UInt8
def numE (x:Itm) (lim:Nat):Option Int :=
 if x.kind=0∧x.n≤lim then some (x.n:Int) else if x.kind=1∧x.n<lim then some (-1-(x.n:Int)) else none
def decExtN:Nat→List Ext→List UInt8→Except Nat (List Ext)
 | 0,out,_=>.ok out
 | n+1,out,b =>
  if b.length=0 then .ok out
  else match prefixP b with
   | .err e=>.error e
   | .ok x k _ =>
    if x.kind=2 then
     (match out.getLast? with
     | none=>.error 4
     | some l =>
      if l.has then .error 4 else if 600<x.bytes.length then .error 8
      else decExtN n (out.dropLast++[{ l with has:=true,val:=x.bytes }]) (b.drop k))
    else match numE x 65535 with
     | none=>.error 4
     | some v=>if out.length=4 then .error 8 else decExtN n (out++[{ label:=v,has:=false,val:=[] }]) (b.drop k)
def decExt (b:List UInt8):Except Nat (List Ext):=decExtN (b.length+1) [] b
def shortB (c:UInt8):Bool:=decide (c.toNat<24)||decide (32≤c.toNat)&&decide (c.toNat<56)
def parseConn (b:List UInt8):Except Nat (List UInt8×Nat) :=
 match b with
 | []=>.error 2
 | x::t =>
  if shortB x then .ok ([x],1)
  else if x.toNat<64∨88<x.toNat then .error 4
  else if 7<x.toNat-64 then .error 8
  else if b.length<1+(x.toNat-64) then .error 2
  else if x.toNat-64=1∧shortB (b.getD 1 0) then .error 4
  else .ok (t.take (x.toNat-64),1+(x.toNat-64))
def twice:List Int→Bool
 | []=>false
 | x::l=>l.contains x||twice l
structure First where
 method:Int
 suites:List Int
 gx:List UInt8
 conn:List UInt8
 ext:List Ext
def numsE:List Itm→Option (List Int)
 | []=>some []
 | x::l=>match numE x 65535 with
  | none=>none
  | some v=>if v<0 then none else match numsE l with
   | none=>none
   | some t=>some (v::t)
def suitesE (x:Itm):Except Nat (List Int) :=
 if x.kind=0 then(if x.n≤65535 then .ok [(x.n:Int)] else .error 4)
 else if x.kind≠4∨x.items.length<2 then .error 4
 else match numsE x.items with
  | none=>.error 4
  | some l=>if twice l then .error 7 else if 8<l.length then .error 8 else .ok l
section
variable {w w' w'':World} {H H' H'':Snap} {g:Nat}
theorem GrowsBut.trans (h:GrowsBut w H w' H' g) (k:GrowsBut w' H' w'' H'' g):GrowsBut w H w'' H'' g :=
 ⟨grown_step h.grown k.grown (.inl rfl),h.le.trans k.le,k.holds,fun b o hb=>by
  rcases k.fresh b o hb with h1 | h1
  ·exact h.fresh b o h1
  ·exact .inr (Nat.le_trans h.grown.size h1)⟩
theorem Grows.but (h:Grows w H w' H') (g:Nat):GrowsBut w H w' H' g:=⟨grown_of_below h.below _,h.le,h.holds,h.fresh⟩
theorem GrowsBut.hid (h:GrowsBut w H w' H' g) {k:Nat}(hk:H k=.none) (hl:k<w.heap.size):H' k=.none:=by
 cases hH:H' k with
 | none=>rfl
 | some o =>
  rcases h.fresh k o hH with hx | hx
  ·rw[hk]at hx;cases hx
  ·omega
structure DeckIn (w:World) (g:Nat) (H:Snap):Prop where
 deck:Deck w g H
 holds:Holds w H
 apart:H g=.none
structure Dealt (w:World) (H:Snap) (w':World) (H':Snap) (g:Nat):Prop where
 grows:GrowsBut w H w' H' g
 deck:DeckIn w' g H'
theorem Dealt.trans (h:Dealt w H w' H' g) (k:Dealt w' H' w'' H'' g):Dealt w H w'' H'' g:=⟨h.grows.trans k.grows,k.deck⟩
theorem DeckIn.grows (h:DeckIn w g H) (k:Grows w H w' H'):Dealt w H w' H' g :=
 ⟨k.but g,⟨(h.deck.below k.below).mono k.le,k.holds,k.none h.apart h.deck.lt⟩⟩
theorem Dealt.grown (h:Dealt w H w' H' g) (k:Grows w' H' w'' H''):Dealt w H w'' H'' g:=h.trans (h.deck.grows k)
theorem Dealt.alloc (h:Dealt w H w' H' g) (o:Obj):Dealt w H (w'.alloc o) H' g:=h.grown ((Grows.refl h.deck.holds).alloc o)
theorem Dealt.drew (h:Dealt w H w' H' g):Dealt w H w'.drew H' g:=h.grown ((Grows.refl h.deck.holds).drew)
theorem DeckIn.alloc (h:DeckIn w g H) (o:Obj):DeckIn (w.alloc o) g H:=(h.grows ((Grows.refl h.holds).alloc o)).deck
theorem Dealt.le (h:Dealt w H w' H' g):H.le H':=h.grows.le
theorem Dealt.holds (h:Dealt w H w' H' g):Holds w' H':=h.deck.holds
theorem Dealt.size (h:Dealt w H w' H' g):w.heap.size≤w'.heap.size:=h.grows.grown.size
theorem Dealt.hid (h:Dealt w H w' H' g) {k:Nat}(hk:H k=.none) (hl:k<w.heap.size):H' k=.none:=h.grows.hid hk hl
theorem Dealt.grownRow {row:Option Nat}(h:Dealt w H w' H' g) (h0:∀ k,row=some k→H' k=.none) (hw:∀ k,row=some k→w.heap.size≤k) (hlt:g<w.heap.size) (hg:w'.grownBy w'' row):Dealt w H w'' H' g:=by
 have hd:=h.deck;have hne:row≠some g:=fun e=>by have:=hw g e;omega
 refine⟨⟨?_,h.le,h.holds.grown hg h0,h.grows.fresh⟩, ?_,h.holds.grown hg h0,hd.apart⟩
 ·exact⟨hg.os.trans h.grows.grown.os,hg.tape.trans h.grows.grown.tape,hg.output.trans h.grows.grown.output,Nat.le_trans h.size hg.size,fun i hi hne' =>
   (hg.block i (Nat.lt_of_lt_of_le hi h.size) (fun e=>by have:=hw i e.symm;omega)).trans (h.grows.grown.block i hi hne')⟩
 ·obtain⟨A,c,l,k,h1,h2,h3⟩:=hd.deck
  exact⟨A,c,l,k,h1.grown hg hne,h2,h3⟩
theorem Blk.dealt {k:Nat}{t:TypeId}{cs:Array Value}(h:Blk w k t cs) (hd:Dealt w H w' H' g) (hk:k≠g):Blk w' k t cs :=
 h.grown hd.grows.grown (by intro e;injection e with e;exact hk e.symm)
theorem OwnB.dealt {base:Nat}{v:Value}{l:List UInt8}(h:OwnB w base v l) (hd:Dealt w H w' H' g) (hb:g<base):OwnB w' base v l:=by
 refine h.kept hd.grows.grown ?_
 cases hv:v.ownBlock with
 | none=>exact .inl rfl
 | some k=>exact .inr (fun e=>by injection e with e;have:=h.lt k hv;omega)
theorem OwnI.dealt {base:Nat}{v:Value}{K:Snap}{l:List Itm}(h:OwnI w base v K l) (hd:Dealt w H w' H' g) (hb:g<base):OwnI w' base v K l:=by
 refine h.kept hd.grows.grown ?_
 cases hv:v.ownBlock with
 | none=>exact .inl rfl
 | some k=>exact .inr (fun e=>by injection e with e;have:=h.lt k hv;omega)
end
theorem deck_Next {H:Snap}{g:Nat}(w:World) (hD:DeckIn w g H) (n:Int) (hn:0<n) (hn2:n≤1099511627776) :
  Calls Tryz.prog 18 #[.pointer (some ⟨g,0,none⟩),.int .i64 n] w fun e w'=>∃ r:Nat,e=.returned (.int .i64 (r:Int))∧(r:Int)<n∧Dealt w H w' H g:=by
 refine(mk_Next w hD.deck hD.holds hD.apart n hn hn2).mono ?_
 rintro e w' ⟨r,rfl,h0,h1,h2,h3⟩
 obtain⟨k,rfl⟩:=Int.eq_ofNat_of_zero_le h0;have hH:=hD.holds.grown h3 (by rintro q ⟨⟩;exact hD.apart)
 exact⟨k,rfl,h1,⟨h3,Snap.le.refl _,hH,fun _ _ h=>.inl h⟩,h2,hH,hD.apart⟩
theorem mk_Bytes {H:Snap}{g:Nat}(w:World) (hD:DeckIn w g H) (n:Int) (hn:0≤n) (hn2:n≤1048576) :
  Calls Tryz.prog 42 #[.pointer (some ⟨g,0,none⟩),.int .i64 n] w fun e w' =>
   ∃ A c l,e=.returned (.slice A l.length c)∧(l.length:Int)≤n∧∃ H',IsBytes H' A c l∧Dealt w H w' H' g:=by
 have NX:=Hh (deck_Next w hD (n+1) (by omega) (by omega));have K0:IntKind.i64.wrap (n+1)=n+1:=IntWalk.i64_in _ (by omega);have hgl:=hD.deck.lt;have HN:=Hh (And.intro hn hn2);have HD:=Hh hD;clear hn hn2 hD;go_enter Tryz.func42,Tryz.ntmps42
 go_wp2_with fail
 refine NX.out.mono ?_
 rintro e w1 ⟨r,rfl,hr,hd1⟩
 have hO1:=OwnB.nil w1 w.heap.size;go_wp2_with fail
 go_loopw [5,6] (fun v5 v6 wr=>∃ (k:Nat) (VA:Option Addr) (vc vn:Nat) (l:List UInt8),v6=.int .i64 (k:Int)∧v5=.slice VA vn vc∧OwnB wr w.heap.size (.slice VA vn vc) l∧vn=l.length∧(l.length:Int)+k≤n∧Dealt w H wr H g∧(∀ q,(Value.slice VA vn vc).ownBlock=some q→H q=none)) (fun _ v6 _=>(intOf v6).toNat)
 case atStart=>exact⟨r,_,_,_,_,rfl,rfl,hO1,rfl,by simp;omega,hd1,by intro q hq;simp[Value.ownBlock]at hq⟩
 case round =>
  obtain⟨k,VA,vc,vn,l,rfl,rfl,hOr,hvn,hlk,hdr,hnr⟩:=hrel;have HV:=Hh hvn;have HLK:=Hh hlk;clear hvn hlk
  by_cases hlt:(0:Int)<(k:Int)
  ·have NX:=Hh (deck_Next wr hdr.deck 256 (by omega) (by omega));go_wp2_with fail
   refine NX.out.mono ?_
   rintro e w2 ⟨q,rfl,hq,hd2⟩
   have hd:=hdr.trans hd2;have hO2:=hOr.dealt hd2 hgl;have K1:IntKind.u8.wrap (q:Int)=(q:Int):=IntWalk.u8_in _ (by omega);have hO3:=hO2.alloc (.cells #[.int .u8 (q:Int)] 5);have hd3:=hd.alloc (.cells #[.int .u8 (q:Int)] 5)
   have HC:Hid ((#[.int .u8 (q:Int)]:Array Value).toList=[u8 q].map byteV):=by
    simp only[Hid,List.map_cons,List.map_nil,byteV_u8]
    congr 2
    omega
   have hk1:(-9223372036854775808:Int)≤(k:Int)-1∧(k:Int)-1≤9223372036854775807:=by have:=HLK.out;have:=HN.out;omega
   clear hq NX hdr hOr hd2 hO2 hd;go_wp2_with (at_builtin;refine stop_in ?_)
   unfold Stopped
   obtain rfl:=HV.out
   refine wpList_app_bytes rfl (.tmp 15) (.tmp 19) rfl w.heap.size (.slice VA l.length vc) _ rfl hO3 _ 1 _ [u8 q] rfl rfl (Src.new _ _ _ _ rfl _ HC.out) (by have:=HLK.out;have:=HN.out;simp;omega) hd3.size fun v' w7 hO7 hg7 hat7=>?_
   obtain⟨VA',vc',rfl,_⟩:=hO7.form;have hd7:=hd3.grownRow hnr (fun q hq=>(hO3.lt q hq).1) hgl hg7
   have hn7:∀ q',(Value.slice VA' (l++[u8 q]).length vc').ownBlock=some q'→H q'=none:=fun q' hq'=>by
    rcases hat7 with h | ⟨g',h1,h2⟩
    ·exact hnr q' (by rw[← h,hq'])
    ·rw[hq']at h1;injection h1 with h1
     subst h1
     exact hd3.holds.none_of_ge h2
   have hl9:(l++[u8 q]).length=l.length+1:=by simp
   rw[hl9]at hO7 hn7;rw[hl9];clear hl9;have hk2:IntKind.i64.wrap ((k:Int)-1)=(k:Int)-1:=IntWalk.i64_in _ hk1;clear hO3 hg7 hat7 hd3 hk1;go_wp2_with fail
   go_roundw
   case rel=>exact⟨k-1,VA',vc',_,_,by rw[show((k-1:Nat):Int)=(k:Int)-1 by omega],rfl,hO7,by simp,by have:=HLK.out;simp;omega,hd7,hn7⟩
   case measure=>simp[intOf];omega
  ·go_wp2_with fail
   obtain rfl:=HV.out;obtain⟨H',hl8,hh8,hf8,hz8,hi8⟩:=hOr.snap hdr.holds (fun q hq=>hnr q (by cases VA <;> simp_all [Value.ownBlock]));have hG:Grows wr H wr H'→True:=fun _=>trivial
   go_ret
   refine⟨VA,vc,l,rfl,by have:=HLK.out;omega,H',hi8,⟨⟨hdr.grows.grown,hl8,hh8,fun b o hb=>?_⟩,hdr.deck.deck.mono hl8,hh8, ?_⟩⟩
   ·rcases hf8 b o hb with h | h
    ·exact .inl h
    ·exact .inr (hOr.lt b (by cases VA <;> simp_all [Value.ownBlock])).1
   ·cases hH:H' g with
    | none=>rfl
    | some o =>
     rcases hf8 g o hH with h | h
     ·rw[HD.out.apart]at h;cases h
     ·have:=(hOr.lt g (by cases VA <;> simp_all [Value.ownBlock])).1
      omega
theorem cmp_zero:∀ a b:List UInt8,Lib.compareBytes a b=0↔a=b
 | [],[]=>by rw[Lib.compareBytes];simp
 | [],y::b=>by rw[Lib.compareBytes];simp
 | x::a,[]=>by rw[Lib.compareBytes];simp
 | x::a,y::b=>by
  rw[Lib.compareBytes]
  by_cases h1:x<y
  ·rw[if_pos h1];have:x≠y:=by rintro rfl;exact UInt8.lt_irrefl x h1
   simp[this]
  ·rw[if_neg h1]
   by_cases h2:y<x
   ·rw[if_pos h2];have:x≠y:=by rintro rfl;exact UInt8.lt_irrefl x h2
    simp[this]
   ·rw[if_neg h2];have e:x=y:=UInt8.toNat_inj.1 (by rw[UInt8.lt_iff_toNat_lt]at h1 h2;omega);subst e
    simp[cmp_zero a b]
def SameSaid (x:Itm):Prop:=∀ (y:Itm) (H:Snap) (k n:Int) (ba:Option Addr) (bl bc:Nat) (ia:Option Addr) (il ic:Nat) (k' n':Int) (ba':Option Addr) (bl' bc':Nat) (ia':Option Addr) (il' ic':Nat) (w:World),
 Modest x→Modest y→ItemA H k n ba bl bc ia il ic x→ItemA H k' n' ba' bl' bc' ia' il' ic' y→Holds w H→
 Calls Tryz.prog 61 #[.agg #[.int .i64 k,.int .u64 n,.slice ba bl bc,.slice ia il ic],.agg #[.int .i64 k',.int .u64 n',.slice ba' bl' bc',.slice ia' il' ic']] w fun e w'=>e=.returned (.bool (sameB x y))∧Below w.heap.size w w'
theorem sameB_eq (x y:Itm):sameB x y=(x.kind==y.kind&&x.n==y.n&&x.bytes==y.bytes&&sameL x.items y.items):=by cases x;cases y;rw[sameB];rfl
theorem sameL_len:∀ l m:List Itm,sameL l m=true→l.length=m.length:=fun l m h=>by rw[sameL_iff]at h;rw[h]
theorem same_step (x:Itm) (ih:∀ z:Itm,cnt z<cnt x→SameSaid z):SameSaid x:=by
 intro y H k n ba bl bc ia il ic k' n' ba' bl' bc' ia' il' ic' w hmx hmy hx hy hH
 obtain⟨rfl,rfl,rfl,rfl,hxi⟩:=hx.eqs_;obtain⟨rfl,rfl,rfl,rfl,hyi⟩:=hy.eqs_;have HX:=Hh hxi;have HY:=Hh hyi;have HMX:=Hh hmx;have HMY:=Hh hmy;have hbx:=hxi.bounds;have hby:=hyi.bounds;have hbw:=(below_box w (itemO x ba bc ia ic)).alloc (by simp) (itemO y ba' bc' ia' ic');have hB1:=(Blk.new w 26 #[.int .i64 x.kind,.int .u64 x.n,.slice ba x.bytes.length bc,.slice ia x.items.length ic]).alloc (itemO y ba' bc' ia' ic');have hB2:=Blk.new (w.alloc (itemO x ba bc ia ic)) 26 #[.int .i64 y.kind,.int .u64 y.n,.slice ba' y.bytes.length bc',.slice ia' y.items.length ic']
 simp only[size_alloc]at hB2
 have hH2:Holds ((w.alloc (itemO x ba bc ia ic)).alloc (itemO y ba' bc' ia' ic')) H:=(hH.alloc _).alloc _;have C:=Hh (ref_Compare _ ba ba' x.bytes y.bytes x.bytes.length y.bytes.length bc bc' rfl rfl (hmx.parts.1) (hmy.parts.1) (Src.of_row hxi.bytes.row hH2) (Src.of_row hyi.bytes.row hH2));have hxl:x.items.length≤9223372036854775807:=by omega
 have hyl:y.items.length≤9223372036854775807:=by omega
 have HN1:=Hh hbx.2.2.1;have HN2:=Hh hby.2.2.1;have E0:=sameB_eq x y;clear hx hy hxi hyi hbx hby hmx hmy
 by_cases h1:x.kind=y.kind
 case neg =>
  have E:Hid (sameB x y=false):=by rw[Hid,E0];simp[h1]
  have b1:(x.kind != y.kind)=true:=by simp[h1]
  have p1:(x.kind=y.kind)=False:=eq_false h1;clear h1 E0;go_enter Tryz.func61,Tryz.ntmps61
  go_wp2_with fail
  go_ret
  exact⟨by rw[E.out];rfl,hbw⟩
 have b1:(x.kind != y.kind)=false:=by simp[h1]
 have p1:(x.kind=y.kind)=True:=eq_true h1;have e1:(x.kind==y.kind)=true:=by simp[h1]
 rw[e1]at E0;clear h1 e1
 by_cases h2:x.n=y.n
 case neg =>
  have E:Hid (sameB x y=false):=by rw[Hid,E0];simp[h2]
  have b2:((x.n:Int) != (y.n:Int))=true:=by simp;omega
  have p2:(x.n=y.n)=False:=eq_false h2;clear h2 E0;go_enter Tryz.func61,Tryz.ntmps61
  go_wp2_with fail
  go_ret
  exact⟨by rw[E.out];rfl,hbw⟩
 have b2:((x.n:Int) != (y.n:Int))=false:=by simp;omega
 have p2:(x.n=y.n)=True:=eq_true h2;have e2:(x.n==y.n)=true:=by simp[h2]
 rw[e2]at E0;clear h2 e2;obtain⟨cmp,hcmp⟩:∃ cmp,Lib.compareBytes x.bytes y.bytes=cmp:=⟨_,rfl⟩
 have hz:=cmp_zero x.bytes y.bytes;rw[hcmp]at C hz;clear hcmp
 by_cases h3:x.bytes=y.bytes
 case neg =>
  have E:Hid (sameB x y=false):=by rw[Hid,E0];simp[h3]
  have h0:cmp≠0:=fun h=>h3 (hz.1 h)
  have b3:(cmp != 0)=true:=by simp[h0]
  have p3:(cmp=0)=False:=eq_false h0;clear h3 E0 hz h0;go_enter Tryz.func61,Tryz.ntmps61
  go_wp2_with fail
  refine C.out.mono ?_
  rintro e w1 ⟨rfl,hb1⟩
  have hbz:=hbw.trans (hb1.mono hbw.size);go_wp2_with fail
  go_ret
  exact⟨by rw[E.out];rfl,hbz⟩
 have h0:=hz.2 h3;have e3:(x.bytes==y.bytes)=true:=by simp[h3]
 rw[e3]at E0;subst h0;clear hz h3 e3
 by_cases h4:x.items.length=y.items.length
 case neg =>
  have E:Hid (sameB x y=false):=by
   rw[Hid,E0]
   cases hs:sameL x.items y.items with
   | true=>exact absurd (sameL_len _ _ hs) h4
   | false=>rfl
  have b4:((x.items.length:Int) != (y.items.length:Int))=true:=by simp;omega
  have p4:(x.items.length=y.items.length)=False:=eq_false h4;clear h4 E0;go_enter Tryz.func61,Tryz.ntmps61
  go_wp2_with fail
  refine C.out.mono ?_
  rintro e w1 ⟨rfl,hb1⟩
  have hbz:=hbw.trans (hb1.mono hbw.size);have hD1:=hB1.below hb1;have hD2:=hB2.below hb1;have c3:=hD1.cell 3 rfl;have d3:=hD2.cell 3 rfl;go_wp2_with fail
  go_ret
  exact⟨by rw[E.out];rfl,hbz⟩
 have b4:((x.items.length:Int) != (y.items.length:Int))=false:=by simp;omega
 have p4:(x.items.length=y.items.length)=True:=eq_true h4;have H4:=Hh h4;have E:Hid (sameB x y=sameL x.items y.items):=by rw[Hid,E0];rfl
 clear h4 E0;go_enter Tryz.func61,Tryz.ntmps61
 go_wp2_with fail
 refine C.out.mono ?_
 rintro e w1 ⟨rfl,hb1⟩
 have hbz:=hbw.trans (hb1.mono hbw.size);have hD1:=hB1.below hb1;have hD2:=hB2.below hb1;have c3:=hD1.cell 3 rfl;have d3:=hD2.cell 3 rfl;clear hB1 hB2 hb1 hbw C;go_wp2_with fail
 go_loopw [39] (fun v39 wr=>∃ j:Nat,j≤x.items.length∧v39=.int .i64 j∧sameL (x.items.drop j) (y.items.drop j)=sameL x.items y.items∧Below w.heap.size w wr∧Blk wr (w.heap.size+1) 26 #[.int .i64 y.kind,.int .u64 y.n,.slice ba' y.bytes.length bc',.slice ia' y.items.length ic']) (fun v39 _=>x.items.length-(intOf v39).toNat)
 case atStart=>exact⟨0,Nat.zero_le _,rfl,rfl,hbz,hD2⟩
 case round =>
  obtain⟨j,hj,rfl,hs,hbr,hDr⟩:=hrel;have HS:=Hh hs;clear hs c3 d3
  by_cases hlt:j<x.items.length
  ·have hlty:j<y.items.length:=by have:=H4.out;omega
   have hHr:Holds wr H:=hH.below hbr (Nat.le_refl _);obtain⟨ib,io,hia,hel⟩:=HX.out.items (by omega);obtain⟨jb,jo,hja,hel'⟩:=HY.out.items (by omega);obtain⟨y1,y2,y3,y4,q0,q1,q2,q3,hex⟩:=hel.get j hlt;obtain⟨z1,z2,z3,z4,s0,s1,s2,s3,hez⟩:=hel'.get j hlty;subst hia hja;have p0:=hHr.cell q0;have p1':=hHr.cell q1;have p2':=hHr.cell q2;have p3:=hHr.cell q3;have hjy:(j:Int)<y.items.length:=by omega
   have hstep:sameL (x.items.drop j) (y.items.drop j)=(sameB x.items[j] y.items[j]&&sameL (x.items.drop (j+1)) (y.items.drop (j+1))):=by rw[List.drop_eq_getElem_cons hlt,List.drop_eq_getElem_cons hlty,sameL]
   have hst:=Hh (HS.out.symm.trans hstep);have IH:=Hh (fun w1:World=>fun h1:Holds w1 H=>ih x.items[j] (cnt_items x j hlt) y.items[j] H _ _ y1 _ y2 y3 _ y4 _ _ z1 _ z2 z3 _ z4 w1 (HMX.out.parts.2.2.get j hlt) (HMY.out.parts.2.2.get j hlty) hex.arg hez.arg h1)
   generalize x.items[j]'hlt=u at *
   generalize y.items[j]'hlty=v at *
   have hT:=Blk.new wr 26 #[.int .i64 u.kind,.int .u64 u.n,.slice y1 u.bytes.length y2,.slice y3 u.items.length y4];have hHx:=(hHr.alloc (itemO u y1 y2 y3 y4)).drew;have hbx:=(hbr.alloc hbr.size (itemO u y1 y2 y3 y4)).drew;have hDx:=(hDr.alloc (itemO u y1 y2 y3 y4)).drew;have hTx:=hT.drew;clear hstep hel hel' hex hez q0 q1 q2 q3 hT;go_upto_region 6 with fail
   refine wp_region_ways 7 (fun w'=>w'.cell? ⟨wr.heap.size,0,none⟩=some (.int .i64 u.kind)∧w'.cell? ⟨wr.heap.size,1,none⟩=some (.int .u64 u.n)∧w'.cell? ⟨wr.heap.size,2,none⟩=some (.slice y1 u.bytes.length y2)∧w'.cell? ⟨wr.heap.size,3,none⟩=some (.slice y3 u.items.length y4)∧w'.cell? ⟨w.heap.size+1,3,none⟩=some (.slice (some ⟨jb,jo,none⟩) y.items.length ic')∧w'.cell? ⟨jb,jo+j*4,none⟩=some (.int .i64 v.kind)∧w'.cell? ⟨jb,jo+j*4+1,none⟩=some (.int .u64 v.n)∧w'.cell? ⟨jb,jo+j*4+2,none⟩=some (.slice z1 v.bytes.length z2)∧w'.cell? ⟨jb,jo+j*4+3,none⟩=some (.slice z3 v.items.length z4)) (by kernel_rfl) (⟨hTx.cell 0 rfl,hTx.cell 1 rfl,hTx.cell 2 rfl,hTx.cell 3 rfl,hDx.cell 3 rfl,hHx.cell s0,hHx.cell s1,hHx.cell s2,hHx.cell s3⟩) (fun hHeld=>?_)
   refine Tk 0 rfl hHeld ?_
   refine Tk 1 rfl hHeld ?_
   refine Tk 2 rfl hHeld ?_
   refine Tk 3 rfl hHeld ?_
   refine Tk 4 rfl hHeld ?_
   refine Tk 5 rfl hHeld ?_
   refine To 6 rfl fun K hK=>?_
   go_simp
   refine(IH.out _ hHx).mono ?_
   rintro e w6 ⟨rfl,hb6⟩
   have hH6:=hHx.below hb6 (Nat.le_refl _);have hb7:=hbx.trans (hb6.mono hbx.size);have hD6:=hDx.below hb6;have hT6:=hTx.below hb6
   refine Ko hK ?_ fun hHeld=>?_
   ·exact⟨hT6.cell 0 rfl,hT6.cell 1 rfl,hT6.cell 2 rfl,hT6.cell 3 rfl,hD6.cell 3 rfl,hH6.cell s0,hH6.cell s1,hH6.cell s2,hH6.cell s3⟩
   clear hK K
   refine To 7 rfl fun K hK=>?_
   go_simp
   refine Kz hK ?_
   clear hK K
   refine Wd ?_
   clear hHeld p0 p1' p2' p3 s0 s1 s2 s3 hHr hHx hbx hDx hTx hT6 hH6 hb6
   cases hq:sameB u v with
   | false =>
    have EE:Hid (sameL x.items y.items=false):=by rw[Hid,hst.out,hq];rfl
    clear hq;go_wp2_with fail
    go_ret
    exact⟨by rw[E.out,EE.out];rfl,hb7⟩
   | true =>
    have EE:Hid (sameL (x.items.drop (j+1)) (y.items.drop (j+1))=sameL x.items y.items):=by rw[Hid,hst.out,hq];rfl
    clear hq;go_wp2_with fail
    go_roundw
    case rel=>exact⟨j+1,by omega,by go_num,EE.out,hb7,hD6⟩
    case measure=>simp[intOf];omega
  ·have hjl:j=x.items.length:=by omega
   subst hjl;have EE:Hid (sameL x.items y.items=true):=by rw[Hid,← HS.out,List.drop_length,H4.out,List.drop_length,sameL]
   go_wp2_with fail
   go_ret
   exact⟨by rw[E.out,EE.out];rfl,hbr⟩
theorem ref_Same (x:Itm):SameSaid x:=by
 have main:∀ N,∀ x:Itm,cnt x≤N→SameSaid x:=by
  intro N
  induction N with
  | zero =>
   intro x hx
   have:0<cnt x:=by cases x;rw[cnt];omega
   omega
  | succ N ih=>exact fun x hx=>same_step x fun y hy=>ih y (by omega)
 exact main _ x (Nat.le_refl _)
theorem src_sub {w:World}{b off n:Nat}{l:List UInt8}(h:∀ j (hj:j<l.length),w.cell? ⟨b,off+j,none⟩=some (byteV l[j])) (k:Nat) (B:Option Addr) (hB:n≠0→B=some ⟨b,off+k,none⟩) (hk:k+n≤l.length):Src w B (((l.drop k).take n).map byteV):=fun hne=>by
 have h0:n≠0:=by
  intro h0
  subst h0
  simp at hne
 refine⟨b,off+k,hB h0,fun j v hj=>?_⟩
 rw[List.getElem?_map]at hj;obtain⟨u,hu,rfl⟩:=Option.map_eq_some_iff.1 hj;rw[List.getElem?_take]at hu
 split at hu
 ·rename_i hjn
  rw[List.getElem?_drop]at hu;obtain⟨h1,h2⟩:=List.getElem?_eq_some_iff.1 hu;rw[Nat.add_assoc,h (k+j) h1,h2]
 ·cases hu
def isU64:Value→Bool | .int .u64 x=>decide (0≤x)&&decide (x<18446744073709551616) | _=>false
def isI64:Value→Bool | .int .i64 x=>decide (-1000≤x)&&decide (x≤1000) | _=>false
def isStr3:Value→Bool | .string s=>decide (s.size≤3) | _=>false
theorem isU64_spec {v:Value}(h:isU64 v=true):∃ n:Nat,v=.int .u64 (n:Int)∧n<18446744073709551616:=by
 unfold isU64 at h
 split at h
 ·rename_i x
  rw[Bool.and_eq_true,decide_eq_true_eq,decide_eq_true_eq]at h;obtain⟨n,rfl⟩:=Int.eq_ofNat_of_zero_le h.1
  exact⟨n,rfl,by omega⟩
 ·cases h
theorem isI64_spec {v:Value}(h:isI64 v=true):∃ x:Int,v=.int .i64 x∧-1000≤x∧x≤1000:=by
 unfold isI64 at h
 split at h
 ·rename_i x
  rw[Bool.and_eq_true,decide_eq_true_eq,decide_eq_true_eq]at h
  exact⟨x,rfl,h.1,h.2⟩
 ·cases h
theorem isStr3_spec {v:Value}(h:isStr3 v=true):∃ s:ByteArray,v=.string s∧s.size≤3:=by
 unfold isStr3 at h
 split at h
 ·rename_i x
  exact⟨x,rfl,of_decide_eq_true h⟩
 ·cases h
theorem Blk.pick {w:World}{g:Nat}{t:TypeId}{cs:Array Value}(h:Blk w g t cs) (P:Value→Bool) (hall:cs.all P=true) (k:Nat) (hk:k<cs.size):∃ v,w.cell? ⟨g,k,none⟩=some v∧P v=true :=
 ⟨cs[k],h.cell k (Array.getElem?_eq_getElem hk),by rw[Array.all_eq_true]at hall;exact hall k hk⟩
theorem mk_Text {H:Snap}{g:Nat}(w:World) (hD:DeckIn w g H) (n:Int) (hn:0≤n) (hn2:n≤1048576) :
  Calls Tryz.prog 74 #[.pointer (some ⟨g,0,none⟩),.int .i64 n] w fun e w' =>
   ∃ s:ByteArray,e=.returned (.string s)∧(s.size:Int)≤3*n∧Dealt w H w' H g:=by
 have NX:=Hh (deck_Next w hD (n+1) (by omega) (by omega));have K0:IntKind.i64.wrap (n+1)=n+1:=IntWalk.i64_in _ (by omega);have hgl:=hD.deck.lt;have HN:=Hh (And.intro hn hn2);have HD:=Hh hD;clear hn hn2 hD;go_enter Tryz.func74,Tryz.ntmps74
 go_wp2_with fail
 refine NX.out.mono ?_
 rintro e w1 ⟨r,rfl,hr,hd1⟩
 go_wp2_with fail
 go_loopw [5,6] (fun v5 v6 wr=>∃ (k:Nat) (s:ByteArray),v6=.int .i64 (k:Int)∧v5=.string s∧(s.size:Int)+3*k≤3*n∧Dealt w H wr H g) (fun _ v6 _=>(intOf v6).toNat)
 case atStart=>exact⟨r,⟨#[]⟩,rfl,rfl,by rw[show(⟨#[]⟩:ByteArray).size=0 from rfl];omega,hd1⟩
 case round =>
  obtain⟨k,s,rfl,rfl,hlk,hdr⟩:=hrel;have HLK:=Hh hlk;clear hlk
  by_cases hlt:(0:Int)<(k:Int)
  ·have hB:=Blk.new wr 9 #[.string ⟨#[97]⟩,.string ⟨#[98]⟩,.string ⟨#[47]⟩,.string ⟨#[34]⟩,.string ⟨#[92]⟩,.string ⟨#[10]⟩,.string ⟨#[127]⟩,.string ⟨#[37]⟩,.string ⟨#[195,169]⟩,.string ⟨#[226,130,172]⟩];have hd2:=hdr.alloc (.cells #[.string ⟨#[97]⟩,.string ⟨#[98]⟩,.string ⟨#[47]⟩,.string ⟨#[34]⟩,.string ⟨#[92]⟩,.string ⟨#[10]⟩,.string ⟨#[127]⟩,.string ⟨#[37]⟩,.string ⟨#[195,169]⟩,.string ⟨#[226,130,172]⟩] 9);have NX:=Hh (deck_Next _ hd2.deck 10 (by omega) (by omega));go_wp2_with fail
   refine NX.out.mono ?_
   rintro e w3 ⟨q,rfl,hq,hd3⟩
   have hB3:=hB.dealt hd3 (by have:=hdr.size;omega);obtain⟨v,hc,hP⟩:=hB3.pick isStr3 (by kernel_rfl) q (by simp;omega);obtain⟨t,rfl,ht⟩:=isStr3_spec hP;have hd:=hd2.trans hd3;have hq0:(q:Int)<10:=hq;have HK:=Hh ht;have hk2:IntKind.i64.wrap ((k:Int)-1)=(k:Int)-1:=IntWalk.i64_in _ (by have:=HLK.out;have:=HN.out;omega);have hst:s.size+t.size≤9223372036854775807:=by have:=HLK.out;have:=HN.out;omega
   clear NX hB hB3 hP hd2 hd3 ht;go_wp2_with fail
   go_roundw
   case rel=>exact⟨k-1,_,by rw[show((k-1:Nat):Int)=(k:Int)-1 by omega],rfl,by have:=HLK.out;have:=HK.out;simp[ByteArray.size_append];omega,hd⟩
   case measure=>simp[intOf];omega
  ·go_wp2_with fail
   go_ret
   exact⟨s,rfl,by have:=HLK.out;omega,hdr⟩
theorem mk_Number {H:Snap}{g:Nat}(w:World) (hD:DeckIn w g H) :
  Calls Tryz.prog 73 #[.pointer (some ⟨g,0,none⟩)] w fun e w' =>
   ∃ n:Nat,e=.returned (.int .u64 (n:Int))∧n<18446744073709551616∧Dealt w H w' H g:=by
 have NX:=Hh (deck_Next w hD 6 (by omega) (by omega));have hgl:=hD.deck.lt;clear hD;go_enter Tryz.func73,Tryz.ntmps73
 go_wp2_with fail
 refine NX.out.mono ?_
 rintro e w1 ⟨r,rfl,hr,hd1⟩
 by_cases h0:r=0
 ·subst h0;have hB:=Blk.new w1 22 #[.int .u64 23,.int .u64 24,.int .u64 255,.int .u64 256,.int .u64 65535,.int .u64 65536,.int .u64 4294967295,.int .u64 4294967296,.int .u64 18446744073709551615];have hd2:=hd1.alloc (.cells #[.int .u64 23,.int .u64 24,.int .u64 255,.int .u64 256,.int .u64 65535,.int .u64 65536,.int .u64 4294967295,.int .u64 4294967296,.int .u64 18446744073709551615] 22);have NX:=Hh (deck_Next _ hd2.deck 9 (by omega) (by omega));go_wp2_with fail
  refine NX.out.mono ?_
  rintro e w3 ⟨q,rfl,hq,hd3⟩
  have hB3:=hB.dealt hd3 (by have:=hd1.size;omega);obtain⟨v,hc,hP⟩:=hB3.pick isU64 (by kernel_rfl) q (by simp;omega);obtain⟨x,rfl,hx⟩:=isU64_spec hP;have hd:=hd2.trans hd3;have HX:=Hh hx;clear NX hB hB3 hP hd2 hd3 hx;go_wp2_with fail
  go_ret
  exact⟨x,rfl,HX.out,hd⟩
 by_cases h1:r=1
 ·subst h1;have N2:=Hh (deck_Next w1 hd1.deck 1073741824 (by omega) (by omega));go_wp2_with fail
  refine N2.out.mono ?_
  rintro e w2 ⟨q,rfl,hq,hd2⟩
  have K1:IntKind.u64.wrap (q:Int)=(q:Int):=IntWalk.u64_in _ (by omega);go_wp2_with fail
  go_ret
  exact⟨q,rfl,by omega,hd1.trans hd2⟩
 ·have b0:((r:Int)==0)=false:=by rw[beq_eq_false_iff_ne];omega
  have b1:((r:Int)==1)=false:=by rw[beq_eq_false_iff_ne];omega
  have N2:=Hh (deck_Next w1 hd1.deck 30 (by omega) (by omega));clear h0 h1;go_wp2_with fail
  refine N2.out.mono ?_
  rintro e w2 ⟨q,rfl,hq,hd2⟩
  have K1:IntKind.u64.wrap (q:Int)=(q:Int):=IntWalk.u64_in _ (by omega);go_wp2_with fail
  go_ret
  exact⟨q,rfl,by omega,hd1.trans hd2⟩
theorem Dealt.gb {w w' w'':World}{H H':Snap}{g k:Nat}(h:Dealt w H w' H' g) (h0:H' k=none) (hw:w.heap.size≤k) (hlt:g<w.heap.size) (hg:w'.grownBy w'' (some k)):Dealt w H w'' H' g:=h.grownRow (row:=some k) (by rintro q ⟨⟩;exact h0) (by rintro q ⟨⟩;exact hw) hlt hg
theorem OwnX.kl {α:Type}{L:Lie α}{t:TypeId}{w w':World}{base N:Nat}{v:Value}{H:Snap}{l:List α}(h:OwnX L t w base v H l) (hg:w.grownBy w' (some N)) (hl:∀ q,v.ownBlock=some q→q<N):OwnX L t w' base v H l:=h.kept hg (by cases hv:v.ownBlock with | none=>exact .inl rfl | some q=>exact .inr (fun e=>by injection e with e;exact Nat.lt_irrefl _ (e ▸ hl q hv)))
end Go.Proofs.YtgcjjhibdbafmaaGreatDoor
