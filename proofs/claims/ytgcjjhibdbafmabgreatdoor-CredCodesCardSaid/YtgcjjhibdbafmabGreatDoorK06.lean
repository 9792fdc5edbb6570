/- squeezed. Rows of elements of k cells each ( -/
import Derived.Test.YtgcjjhibdbafmabGreatDoorK05
import Derived.OwnWalk
import Derived.Shelf.Unicode.ValidAny
set_option linter.unusedVariables false
set_option linter.unusedSimpArgs false
set_option maxRecDepth 100000
set_option maxHeartbeats 6400000
namespace Go.Proofs.YtgcjjhibdbafmabGreatDoor
open Go.RowKit
structure Lie (α:Type) where
 k:Nat
 pos:0<k
 E:Snap→α→List Value→Prop
 len:∀ {H x c},E H x c→c.length=k
 one:∀ {H x c},E H x c→∀ u∈c,u.oneCell'=true
 mono:∀ {H K x c},H.le K→E H x c→E K x c
section
variable {α:Type} {L:Lie α}
def RowC (L:Lie α) (H:Snap):List Value→List α→Prop
 | cs,[]=>cs=[]
 | cs,x::l=>∃ c rest,cs=c++rest∧L.E H x c∧RowC L H rest l
theorem RowC.nil (L:Lie α) (H:Snap):RowC L H [] []:=by rw[RowC]
theorem RowC.len {H:Snap}:∀ {l:List α}{cs:List Value},RowC L H cs l→cs.length=l.length*L.k
 | [],cs,h=>by rw[RowC]at h;subst h;simp
 | x::l,cs,h=>by
  obtain⟨c,rest,rfl,hx,hr⟩:=h;rw[List.length_append,L.len hx,hr.len,List.length_cons,Nat.succ_mul,Nat.add_comm]
theorem RowC.mono {H K:Snap}(hl:H.le K):∀ {l:List α}{cs:List Value},RowC L H cs l→RowC L K cs l
 | [],cs,h=>h
 | x::l,cs,h=>by
  obtain⟨c,rest,e,hx,hr⟩:=h
  exact⟨c,rest,e,L.mono hl hx,hr.mono hl⟩
theorem RowC.one {H:Snap}{x:α}{c:List Value}(h:L.E H x c):RowC L H c [x]:=⟨c,[],by simp,h,RowC.nil L H⟩
theorem RowC.app {H:Snap}:∀ {l m:List α}{cs ds:List Value},RowC L H cs l→RowC L H ds m→RowC L H (cs++ds) (l++m)
 | [],m,cs,ds,h,hd=>by rw[RowC]at h;subst h;exact hd
 | x::l,m,cs,ds,h,hd=>by
  obtain⟨c,rest,rfl,hx,hr⟩:=h
  exact⟨c,rest++ds,by simp,hx,hr.app hd⟩
theorem RowC.oneCell {H:Snap}:∀ {l:List α}{cs:List Value},RowC L H cs l→∀ u∈cs,u.oneCell'=true
 | [],cs,h=>by rw[RowC]at h;subst h;simp
 | x::l,cs,h=>by
  obtain⟨c,rest,rfl,hx,hr⟩:=h
  intro u hu
  rw[List.mem_append]at hu
  rcases hu with hu | hu
  ·exact L.one hx u hu
  exact hr.oneCell u hu
theorem RowC.get {H:Snap}:∀ {l:List α}{cs:List Value},RowC L H cs l→∀ (j:Nat) (hj:j<l.length),∃ c,L.E H l[j] c∧∀ i v,c[i]? = some v→cs[j*L.k+i]? = some v
 | [],_,_,j,hj=>by simp at hj
 | x::l,cs,h,0,_=>by
  obtain⟨c,rest,rfl,hx,hr⟩:=h
  refine⟨c,hx,fun i v hi=>?_⟩
  rw[Nat.zero_mul,Nat.zero_add,List.getElem?_append_left (List.getElem?_eq_some_iff.1 hi).1]
  exact hi
 | x::l,cs,h,j+1,hj=>by
  obtain⟨c,rest,rfl,hx,hr⟩:=h;obtain⟨c',Q9,QC⟩:=hr.get j (by simpa using hj)
  refine⟨c',by simpa using Q9,fun i v hi=>?_⟩
  have:=QC i v hi;rw[List.getElem?_append_right (by rw[L.len hx,Nat.succ_mul];omega),L.len hx,show(j+1)*L.k+i-L.k=j*L.k+i by rw[Nat.succ_mul];omega]
  exact this
structure IsRow (L:Lie α) (H:Snap) (A:Option Addr) (c:Nat) (l:List α):Prop where
 le:l.length≤c
 max:c≤9223372036854775807
 row:0<l.length→∃ b off cs,A=some ⟨b,off,none⟩∧RowC L H cs l∧ZX H b off cs
theorem IsRow.at_ {H:Snap}{A:Option Addr}{c:Nat}{l:List α}(h:IsRow L H A c l) (h0:0<l.length):∃ b off,A=some ⟨b,off,none⟩∧∀ j (hj:j<l.length),∃ d,L.E H l[j] d∧∀ i v,d[i]? = some v→H.cell? ⟨b,off+(j*L.k+i),none⟩=some v:=by
 obtain⟨b,off,cs,e,h1,h2⟩:=h.row h0
 refine⟨b,off,e,fun j hj=>?_⟩
 obtain⟨d,hd,hi⟩:=h1.get j hj
 exact⟨d,hd,fun i v hv=>h2 _ _ (hi i v hv)⟩
def OwnX (L:Lie α) (t:TypeId) (w:World) (base:Nat) (v:Value) (H:Snap) (l:List α):Prop:=∃ cs,RowC L H cs l∧w.ownsRow base t L.k v l.length cs
variable {t:TypeId} {w w':World} {base:Nat} {v:Value} {H:Snap} {l:List α}
theorem OwnX.lt (h:OwnX L t w base v H l):∀ k,v.ownBlock=some k→base≤k∧k<w.heap.size:=by obtain⟨_,_,h⟩:=h;exact World.ownsRow.lt h
theorem OwnX.kept {row:Option Nat}(h:OwnX L t w base v H l) (hg:w.grownBy w' row) (xH:v.ownBlock=none∨v.ownBlock≠row):OwnX L t w' base v H l:=by
 obtain⟨cs,hc,h⟩:=h;exact⟨cs,hc,World.ownsRow.kept h hg xH⟩
theorem OwnX.below (h:OwnX L t w base v H l) (hb:Below w.heap.size w w'):OwnX L t w' base v H l:=by
 refine h.kept (wO hb none) ?_
 cases hv:v.ownBlock with
 | none=>exact .inl rfl
 | some g=>exact .inr (by simp)
theorem OwnX.alloc (h:OwnX L t w base v H l) (o:Obj):OwnX L t (w.alloc o) base v H l:=h.below (zi w o)
theorem OwnX.mono {K:Snap}(h:OwnX L t w base v H l) (hl:H.le K):OwnX L t w base v K l:=by obtain⟨cs,hc,h⟩:=h;exact⟨cs,hc.mono hl,h⟩
theorem OwnX.form (h:OwnX L t w base v H l):∃ A c,v=.slice A l.length c∧l.length≤c∧c≤9223372036854775807:=by
 obtain⟨cs,hc,h⟩:=h
 rcases h.2 with ⟨rfl,hz⟩ | ⟨g,cap,cur,rfl,_,_,hn,hm,_⟩
 ·exact⟨none,0,by rw[hz],by omega,by omega⟩
 exact⟨_,cap,rfl,hn,by simpa [maxLen] using hm⟩
theorem OwnX.snap {A:Option Addr}{m c:Nat}(h:OwnX L t w base (.slice A m c) H l) (hw:Holds w H) (hn:∀ g,A.map (·.block)=some g→H g=none) :
  ∃ H',H.le H'∧Holds w H'∧(∀ b o,H' b=some o→H b=some o∨A.map (·.block)=some b)∧m=l.length∧IsRow L H' A c l:=by
 obtain⟨cs,px,h⟩:=h
 rcases h.2 with ⟨hv,hz⟩ | ⟨g,cap,cur,hv,_,hg,hc,hm,hcz,ht⟩
 ·cases hv
  exact⟨H,Snap.le.refl _,hw,fun _ _ h=>.inl h,hz.symm,⟨by omega,by omega,by omega⟩⟩
 cases hv
 have eu:H g=none:=hn g rfl
 refine⟨H.with g (.cells cur t),Snap.le_with eu,hw.with hg,fun b o hb=>?_,rfl,hc,by simpa [maxLen] using hm,fun _=>⟨g,0,cs,rfl,px.mono (Snap.le_with eu),fun j v hj=>?_⟩⟩
 ·unfold Snap.with at hb
  split at hb
  ·subst b;exact .inr rfl
  exact .inl hb
 rw[← ht,List.getElem?_take]at hj
 split at hj
 ·simp[Snap.cell?,Snap.with]
  simpa using hj
 cases hj
end
def beN (l:List UInt8):Nat:=l.foldl (fun x c=>x*256+c.toNat) 0
theorem VL (l:List UInt8) (c:UInt8):beN (l++[c])=beN l*256+c.toNat:=by simp[beN]
theorem xx (l:List UInt8):beN l<256 ^ l.length:=by
 suffices h:∀ (l:List UInt8) (a:Nat),l.foldl (fun x c=>x*256+c.toNat) a<(a+1)*256 ^ l.length by
  have:=h l 0;rw[Nat.zero_add,Nat.one_mul]at this
  exact this
 intro l
 induction l with
 | nil=>intro a;simp
 | cons c l ih =>
 intro a
 have hc:=c.toNat_lt;rw[List.foldl_cons,List.length_cons,Nat.pow_succ]
 refine Nat.lt_of_lt_of_le (ih _) ?_
 have:(a*256+c.toNat+1)*256 ^ l.length≤((a+1)*256)*256 ^ l.length:=Nat.mul_le_mul_right _ (by omega);rw[Nat.mul_assoc,Nat.mul_comm 256]at this
 exact this
theorem vB {c:UInt8}{n:Nat}(h:n%256=c.toNat):u8 n=c:=by
 apply UInt8.toNat_inj.1
 rw[sq,h]
theorem TD {l:List UInt8}(h:l.length=1):∃ a,l=[a]:=by
 match l,h with
 | [a],_=>exact⟨a,rfl⟩
theorem TE {l:List UInt8}(h:l.length=2):∃ a b,l=[a,b]:=by
 match l,h with
 | [a,b],_=>exact⟨a,b,rfl⟩
theorem WV {l:List UInt8}(h:l.length=4):∃ a b c d,l=[a,b,c,d]:=by
 match l,h with
 | [a,b,c,d],_=>exact⟨a,b,c,d,rfl⟩
theorem Oc {l:List UInt8}(h:l.length=8):∃ a b c d e f g i,l=[a,b,c,d,e,f,g,i]:=by
 match l,h with
 | [a,b,c,d,e,f,g,i],_=>exact⟨a,b,c,d,e,f,g,i,rfl⟩
theorem Ov (a:UInt8):beN [a]=a.toNat:=by simp[beN]
theorem Ow (a b:UInt8):beN [a,b]=a.toNat*256+b.toNat:=by simp[beN]
theorem Ox (a b c d:UInt8):beN [a,b,c,d]=a.toNat*16777216+b.toNat*65536+c.toNat*256+d.toNat:=by simp[beN];omega
theorem LI (a b c d e f g i:UInt8):beN [a,b,c,d,e,f,g,i]=a.toNat*72057594037927936+b.toNat*281474976710656+c.toNat*1099511627776+d.toNat*4294967296+e.toNat*16777216+f.toNat*65536+g.toNat*256+i.toNat:=by simp[beN];omega
theorem ZC {l:List UInt8}(h:l.length=8):be8 (beN l) 8=l:=by
 obtain⟨a,b,c,d,e,f,g,i,rfl⟩:=Oc h;have ha:=a.toNat_lt;have hb:=b.toNat_lt;have hc:=c.toNat_lt;have hd:=d.toNat_lt;have he:=e.toNat_lt;have hf:=f.toNat_lt;have hg:=g.toNat_lt;have hi:=i.toNat_lt
 rw[LI]
 simp only[be8,Nat.reducePow,Nat.reduceMul,Nat.reduceSub,List.nil_append,List.cons_append]
 rw[vB (c:=a) (by omega),vB (c:=b) (by omega),vB (c:=c) (by omega),vB (c:=d) (by omega),vB (c:=e) (by omega),vB (c:=f) (by omega),vB (c:=g) (by omega),vB (c:=i) (by omega)]
def zf:List UInt8→Except Nat (Nat×Nat×Nat)
 | []=>.error 2
 | f::t =>
 if 27<f.toNat%32 then .error 3
 else if f.toNat%32<24 then .ok (f.toNat,f.toNat%32,1)
 else if t.length<2 ^ (f.toNat%32-24) then .error 2
 else if f.toNat/32<7∧(zh 0 (beN (t.take (2 ^ (f.toNat%32-24))))).length≠1+2 ^ (f.toNat%32-24) then .error 4
 else .ok (f.toNat,beN (t.take (2 ^ (f.toNat%32-24))),1+2 ^ (f.toNat%32-24))
def xR (v:Nat):Nat :=
 if v/1024%32=31 then v/32768*9223372036854775808+9218868437227405312+v%1024*4398046511104
 else if v/1024%32=0 then(if v%1024=0 then v/32768*9223372036854775808 else v/32768*9223372036854775808+(999+(v%1024).log2)*4503599627370496+(v%1024*2 ^ (52-(v%1024).log2)-4503599627370496))
 else v/32768*9223372036854775808+(v/1024%32+1008)*4503599627370496+v%1024*4398046511104
def wg (v:Nat):Nat :=
 if v/8388608%256=255 then v/2147483648*9223372036854775808+9218868437227405312+v%8388608*536870912
 else if v/8388608%256=0 then(if v%8388608=0 then v/2147483648*9223372036854775808 else v/2147483648*9223372036854775808+(874+(v%8388608).log2)*4503599627370496+(v%8388608*2 ^ (52-(v%8388608).log2)-4503599627370496))
 else v/2147483648*9223372036854775808+(v/8388608%256+896)*4503599627370496+v%8388608*536870912
def uu (low n:Nat):Nat:=if low=25 then xR n else if low=26 then wg n else n
def yZ (low n:Nat):Except Nat Itm :=
 if low<24 then .ok (.mk 7 n [] [])
 else if low=24 then(if n<32 then .error 4 else .ok (.mk 7 n [] []))
 else if(isNaN (uu low n)&&uu low n != zJ)||(zK (uu low n)).length != 1+2 ^ (low-24) then .error 4
 else .ok (.mk 8 (uu low n) [] [])
inductive PL where
 | err (e:Nat)
 | ok (l:List Itm) (k c:Nat)
inductive PR where
 | err (e:Nat)
 | ok (x:Itm) (k c:Nat)
def vQ (p:List UInt8→Nat→PR):Nat→List UInt8→Nat→PL
 | 0,_,c=>.ok [] 0 c
 | n+1,b,c=>match p b c with
  | .err e=>.err e
  | .ok x k c'=>match vQ p n (b.drop k) c' with
   | .err e=>.err e
   | .ok l k' c''=>.ok (x::l) (k+k') c''
def sv (last:Option (List UInt8)) (key:List UInt8):Option Nat :=
 match last with
 | none=>none
 | some l=>if Lib.compareBytes key l=0 then some 7 else if Lib.compareBytes key l<0 then some 6 else none
def vl (p:List UInt8→Nat→PR):Nat→List UInt8→Nat→Option (List UInt8)→PL
 | 0,_,c,_=>.ok [] 0 c
 | n+1,b,c,last=>match p b c with
  | .err e=>.err e
  | .ok x k c'=>match sv last (b.take k) with
   | some e=>.err e
   | none=>match p (b.drop k) c' with
    | .err e=>.err e
    | .ok y k' c''=>match vl p n (b.drop (k+k')) c'' (some (b.take k)) with
     | .err e=>.err e
     | .ok l k'' c3=>.ok (x::y::l) (k+k'+k'') c3
def zj:Nat→List UInt8→Nat→PR
 | d,b,c =>
 if 256≤c then .err 8
 else match zf b with
  | .error e=>.err e
  | .ok (f,n,k) =>
  if f/32≤1 then .ok (.mk (f/32:Nat) n [] []) k (c+1)
  else if f/32≤3 then
   (if b.length<k+n then .err 2
   else if f/32=3∧Lib.validD ((b.drop k).take n)=false then .err 5
   else .ok (.mk (f/32:Nat) 0 ((b.drop k).take n) []) (k+n) (c+1))
  else if f/32=7 then
   (match yZ (f%32) n with
   | .error e=>.err e
   | .ok x=>.ok x k (c+1))
  else match d with
   | 0=>.err 8
   | d+1 =>
   if f/32=6 then(match zj d (b.drop k) (c+1) with
    | .err e=>.err e
    | .ok x k' c'=>.ok (.mk 6 n [] [x]) (k+k') c')
   else if f/32=5 then(match vl (zj d) n (b.drop k) (c+1) none with
    | .err e=>.err e
    | .ok l k' c'=>.ok (.mk 5 0 [] l) (k+k') c')
   else(match vQ (zj d) n (b.drop k) (c+1) with
    | .err e=>.err e
    | .ok l k' c'=>.ok (.mk 4 0 [] l) (k+k') c')
theorem aK {m low:Nat}(yN:24≤low∧low≤27) {t:List UInt8}(ht:t.length=2 ^ (low-24)) (h:(zh 0 (beN t)).length=1+2 ^ (low-24)):zh m (beN t)=u8 (m*32+low)::t:=by
 rw[ze]at h
 rcases(by omega:low=24∨low=25∨low=26∨low=27) with rfl | rfl | rfl | rfl
 ·obtain⟨a,rfl⟩:=TD (by simpa using ht);have:=a.toNat_lt;rw[Ov]at h⊢;rw[sA]
  have h1:24≤a.toNat:=by
   simp at h
   repeat' split at h
   all_goals omega
  simp only[tX,rg,show ¬ a.toNat<24 by omega,show a.toNat<256 by omega,if_true,if_false]
  rw[vB (n:=a.toNat) (c:=a) (by omega)]
 ·obtain⟨a,b,rfl⟩:=TE (by simpa using ht);have ha:=a.toNat_lt;have hb:=b.toNat_lt
  rw[Ow]at h⊢;obtain⟨q,hq⟩:∃ q,a.toNat*256+b.toNat=q:=⟨_,rfl⟩
  rw[hq]at h⊢
  have h1:256≤q:=by
   simp at h
   repeat' split at h
   all_goals omega
  rw[sA]
  simp only[tX,rg,show ¬ q<24 by omega,show ¬ q<256 by omega,show q<65536 by omega,if_true,if_false]
  rw[vB (n:=q/256) (c:=a) (by omega),vB (n:=q) (c:=b) (by omega)]
 ·obtain⟨a,b,c,d,rfl⟩:=WV (by simpa using ht);have ha:=a.toNat_lt;have hb:=b.toNat_lt;have hc:=c.toNat_lt;have hd:=d.toNat_lt
  rw[Ox]at h⊢;obtain⟨q,hq⟩:∃ q,a.toNat*16777216+b.toNat*65536+c.toNat*256+d.toNat=q:=⟨_,rfl⟩
  rw[hq]at h⊢
  have h1:65536≤q:=by
   simp at h
   repeat' split at h
   all_goals omega
  rw[sA]
  simp only[tX,rg,show ¬ q<24 by omega,show ¬ q<256 by omega,show ¬ q<65536 by omega,show q<4294967296 by omega,if_true,if_false]
  rw[vB (n:=q/16777216) (c:=a) (by omega),vB (n:=q/65536) (c:=b) (by omega),vB (n:=q/256) (c:=c) (by omega),vB (n:=q) (c:=d) (by omega)]
 have h1:4294967296≤beN t:=by
  simp at h
  repeat' split at h
  all_goals omega
 rw[sA]
 simp only[tX,rg,show ¬ beN t<24 by omega,show ¬ beN t<256 by omega,show ¬ beN t<65536 by omega,show ¬ beN t<4294967296 by omega,if_false]
 rw[ZC (by simpa using ht)]
structure HeadIs (b:List UInt8) (f n k:Nat):Prop where
 le:k≤b.length
 pos:0<k
 f_lt:f<256
 low:f%32≤27
 small:f%32<24→n=f%32∧k=1∧b.take k=[u8 f]
 wide:24≤f%32→k=1+2 ^ (f%32-24)∧∃ t,t.length=2 ^ (f%32-24)∧b.take k=u8 f::t∧n=beN t
 n_lt:n<18446744073709551616
 enc:f/32<7→zh (f/32) n=b.take k
theorem xo {b:List UInt8}{f n k:Nat}(h:zf b=.ok (f,n,k)):HeadIs b f n k:=by
 cases b with
 | nil=>cases h
 | cons g t =>
 have hg:=g.toNat_lt
 simp only[zf]at h
 split at h
 ·cases h
 rename_i q1
 split at h
 ·rename_i q2
  injection h with h
  simp only[Prod.mk.injEq]at h
  obtain⟨rfl,rfl,rfl⟩:=h;have hu:u8 g.toNat=g:=vB (by omega)
  refine⟨by simp,by omega,hg,by omega,fun _=>⟨rfl,rfl,by simp[hu]⟩,fun h=>by omega,by omega,fun h7=>?_⟩
  rw[sA]
  simp only[tX,rg,q2,if_true]
  rw[show g.toNat/32*32+g.toNat%32=g.toNat by omega,hu]
  simp
 rename_i q2
 split at h
 ·cases h
 rename_i q3
 split at h
 ·cases h
 rename_i q4
 injection h with h
 simp only[Prod.mk.injEq]at h
 obtain⟨rfl,rfl,rfl⟩:=h;have hu:u8 g.toNat=g:=vB (by omega);obtain⟨low,yN⟩:∃ low,g.toNat%32=low:=⟨_,rfl⟩
 rw[yN]at q1 q2 q3 q4⊢
 have hz:2 ^ (low-24)≤8:=by
  rcases(by omega:low=24∨low=25∨low=26∨low=27) with rfl | rfl | rfl | rfl <;> decide
 have QT:(t.take (2 ^ (low-24))).length=2 ^ (low-24):=by rw[List.length_take];omega
 have ht:(g::t).take (1+2 ^ (low-24))=g::t.take (2 ^ (low-24)):=by rw[Nat.add_comm,List.take_succ_cons]
 refine⟨by rw[List.length_cons];omega,by omega,hg,by omega,fun h=>by omega,fun _=>⟨by rw[yN],_,by rw[yN];exact QT,by rw[ht,hu],rfl⟩, ?_,fun h7=>?_⟩
 ·refine Nat.lt_of_lt_of_le (xx _) ?_
  rw[QT]
  exact Nat.pow_le_pow_right (n:=256) (by omega) hz
 rw[ht,aK (low:=low) (by omega) QT (by
  rcases Nat.lt_or_ge 0 1 with _ | _
  ·exact Classical.byContradiction fun h=>q4 ⟨h7,h⟩
  exact absurd ‹1≤0› (by omega)),show g.toNat/32*32+low=g.toNat by omega,hu]
theorem sJ {n s e m:Nat}(h:n=s*9223372036854775808+e*4503599627370496+m) (hs:s≤1) (he:e<2048) (hm:m<4503599627370496) :
  n/4503599627370496%2048=e∧n%4503599627370496=m∧n/9223372036854775808=s:=by subst h;refine⟨?_, ?_, ?_⟩ <;> omega
theorem ct {n v s x f:Nat}(h:eN n v s x f):yr n 5 10=some v:=by
 obtain⟨a1,a2,a3,a4,h⟩:=h
 rcases h with ⟨h1,h2,h3⟩ | ⟨h1,h2,h3⟩ | ⟨h1,h2,h3⟩ | ⟨h1,t,full,h2,h3,h4,h5,h6,h7⟩
 ·obtain⟨k1,k2,k3⟩:=sJ (n:=n) (s:=s) (e:=2047) (m:=0) (by rw[h3]) a1 (by omega) (by omega);rw[yr]
  simp only[Nat.reducePow,Nat.reduceSub,Nat.reduceAdd,Nat.reduceMul]
  rw[k1,k2,k3,if_pos rfl,if_pos rfl];congr 1;omega
 ·obtain⟨k1,k2,k3⟩:=sJ (n:=n) (s:=s) (e:=0) (m:=0) (by rw[h3,Nat.zero_mul,Nat.add_zero]) a1 (by omega) (by omega);rw[yr]
  simp only[Nat.reducePow,Nat.reduceSub,Nat.reduceAdd,Nat.reduceMul]
  rw[k1,k2,k3,if_neg (by omega),if_pos rfl,if_pos rfl];congr 1;omega
 ·obtain⟨k1,k2,k3⟩:=sJ (n:=n) (s:=s) (e:=x+1008) (m:=f*4398046511104) (by omega) a1 (by omega) (by omega);rw[yr]
  simp only[Nat.reducePow,Nat.reduceSub,Nat.reduceAdd,Nat.reduceMul]
  rw[k1,k2,k3];rw[if_neg (by omega),if_neg (by omega),if_neg (by omega),if_pos (by omega),if_pos (by omega)];congr 1;omega
 have e2:2 ^ (t+1)*2 ^ (52-t)=9007199254740992:=by
  rw[← Nat.pow_add,show t+1+(52-t)=53 by omega]
 have b2:=Nat.mul_lt_mul_of_pos_right h4 (Nat.two_pow_pos (52-t));rw[e2,← h5]at b2;obtain⟨k1,k2,k3⟩:=sJ (n:=n) (s:=s) (e:=999+t) (m:=full-4503599627370496) h7 a1 (by omega) (by omega);rw[yr]
 simp only[Nat.reducePow,Nat.reduceSub,Nat.reduceAdd,Nat.reduceMul]
 rw[k1,k2,k3];rw[if_neg (by omega),if_neg (by omega),if_neg (by omega),if_neg (by omega),if_neg (by omega),show 43+(1023-(999+t)-15)=52-t by omega,show full-4503599627370496+4503599627370496=full by omega,h5,if_pos (Nat.mul_mod_left _ _),Nat.mul_div_cancel _ (Nat.two_pow_pos _)];congr 1;omega
theorem qu {f t:Nat}(h1:2 ^ t≤f) (h2:f<2 ^ (t+1)) (ht:t≤52):4503599627370496≤f*2 ^ (52-t)∧f*2 ^ (52-t)<9007199254740992:=by
 have e1:2 ^ t*2 ^ (52-t)=4503599627370496:=by
  rw[← Nat.pow_add,show t+(52-t)=52 by omega]
 have e2:2 ^ (t+1)*2 ^ (52-t)=9007199254740992:=by
  rw[← Nat.pow_add,show t+1+(52-t)=53 by omega]
 have b1:=Nat.mul_le_mul_right (2 ^ (52-t)) h1;have b2:=Nat.mul_lt_mul_of_pos_right h2 (Nat.two_pow_pos (52-t))
 omega
theorem qX {v:Nat}(hv:v<65536) (hn:¬ (v/1024%32=31∧v%1024≠0)):eN (xR v) v (v/32768) (v/1024%32) (v%1024)∧xR v<18446744073709551616:=by
 obtain⟨s,hs⟩:∃ s,v/32768=s:=⟨_,rfl⟩
 obtain⟨x,hx⟩:∃ x,v/1024%32=x:=⟨_,rfl⟩
 obtain⟨f,hf⟩:∃ f,v%1024=f:=⟨_,rfl⟩
 have vC:s≤1:=by omega
 have pq:x≤31:=by omega
 have cK:f<1024:=by omega
 have Z7:v=s*32768+x*1024+f:=by omega
 rw[hx,hf]at hn;rw[xR,hs,hx,hf];clear hs hx hf
 by_cases h1:x=31
 ·have h0:f=0:=by omega
  subst h0;rw[if_pos h1]
  exact⟨⟨vC,Z7,by omega,pq,.inl ⟨h1,rfl,by omega⟩⟩,by omega⟩
 rw[if_neg h1]
 by_cases h2:x=0
 ·rw[if_pos h2]
  by_cases h0:f=0
  ·rw[if_pos h0]
   exact⟨⟨vC,Z7,by omega,pq,.inr (.inl ⟨h2,h0,rfl⟩)⟩,by omega⟩
  rw[if_neg h0];have a1:2 ^ f.log2≤f:=Nat.log2_self_le h0;have a2:f<2 ^ (f.log2+1):=Nat.lt_log2_self;have a3:f.log2<10:=(Nat.log2_lt h0).2 (by simpa using cK)
  generalize f.log2=t at a1 a2 a3
  have b:=qu a1 a2 (by omega);obtain⟨full,uF⟩:∃ full,f*2 ^ (52-t)=full:=⟨_,rfl⟩
  rw[uF]at b⊢
  exact⟨⟨vC,Z7,by omega,pq,.inr (.inr (.inr ⟨h2,t,full,a3,a1,a2,uF.symm,b.1,rfl⟩))⟩,by omega⟩
 rw[if_neg h2]
 exact⟨⟨vC,Z7,by omega,pq,.inr (.inr (.inl ⟨by omega,by omega,rfl⟩))⟩,by omega⟩
theorem qY {v:Nat}(hv:v<4294967296) (hn:¬ (v/8388608%256=255∧v%8388608≠0)):rd (wg v) v (v/2147483648) (v/8388608%256) (v%8388608)∧wg v<18446744073709551616:=by
 obtain⟨s,hs⟩:∃ s,v/2147483648=s:=⟨_,rfl⟩
 obtain⟨x,hx⟩:∃ x,v/8388608%256=x:=⟨_,rfl⟩
 obtain⟨f,hf⟩:∃ f,v%8388608=f:=⟨_,rfl⟩
 have vC:s≤1:=by omega
 have pq:x≤255:=by omega
 have cK:f<8388608:=by omega
 have Z7:v=s*2147483648+x*8388608+f:=by omega
 rw[hx,hf]at hn;rw[wg,hs,hx,hf];clear hs hx hf
 by_cases h1:x=255
 ·have h0:f=0:=by omega
  subst h0;rw[if_pos h1]
  exact⟨⟨vC,Z7,by omega,pq,.inl ⟨h1,rfl,by omega⟩⟩,by omega⟩
 rw[if_neg h1]
 by_cases h2:x=0
 ·rw[if_pos h2]
  by_cases h0:f=0
  ·rw[if_pos h0]
   exact⟨⟨vC,Z7,by omega,pq,.inr (.inl ⟨h2,h0,rfl⟩)⟩,by omega⟩
  rw[if_neg h0];have a1:2 ^ f.log2≤f:=Nat.log2_self_le h0;have a2:f<2 ^ (f.log2+1):=Nat.lt_log2_self;have a3:f.log2<23:=(Nat.log2_lt h0).2 (by simpa using cK)
  generalize f.log2=t at a1 a2 a3
  have b:=qu a1 a2 (by omega);obtain⟨full,uF⟩:∃ full,f*2 ^ (52-t)=full:=⟨_,rfl⟩
  rw[uF]at b⊢
  exact⟨⟨vC,Z7,by omega,pq,.inr (.inr (.inr ⟨h2,t,full,a3,a1,a2,uF.symm,b.1,rfl⟩))⟩,by omega⟩
 rw[if_neg h2]
 exact⟨⟨vC,Z7,by omega,pq,.inr (.inr (.inl ⟨by omega,by omega,rfl⟩))⟩,by omega⟩
theorem WY {n s m:Nat}(h:n=s*9223372036854775808+2047*4503599627370496+m) (hs:s≤1) (hm:m<4503599627370496) (h0:m≠0):isNaN n=true:=by
 obtain⟨k1,k2,_⟩:=sJ h hs (by omega) hm;rw[isNaN]
 simp only[Nat.reducePow,k1,k2]
 simp[h0]
theorem tm {n e m s:Nat}(h:n=s*9223372036854775808+e*4503599627370496+m) (hs:s≤1) (he:e≤2047) (hm:m<4503599627370496) (h0:e=2047→m=0):isNaN n=false:=by
 obtain⟨k1,k2,_⟩:=sJ h hs (by omega) hm;rw[isNaN]
 simp only[Nat.reducePow,k1,k2]
 rcases Nat.lt_or_ge e 2047 with h' | h'
 ·have:(e==2047)=false:=by simp;omega
  rw[this];rfl
 rw[h0 (by omega)];simp
theorem mV {n v s x f:Nat}(h:eN n v s x f):isNaN n=false:=by
 obtain⟨a1,a2,a3,a4,h⟩:=h
 rcases h with ⟨h1,h2,h3⟩ | ⟨h1,h2,h3⟩ | ⟨h1,h2,h3⟩ | ⟨h1,t,full,h2,h3,h4,h5,h6,h7⟩
 ·exact tm (s:=s) (e:=2047) (m:=0) (by rw[h3]) a1 (by omega) (by omega) (fun _=>rfl)
 ·exact tm (s:=s) (e:=0) (m:=0) (by rw[h3,Nat.zero_mul,Nat.add_zero]) a1 (by omega) (by omega) (fun _=>rfl)
 ·exact tm (s:=s) (e:=x+1008) (m:=f*4398046511104) (by omega) a1 (by omega) (by omega) (fun h=>by omega)
 have b:=qu h3 h4 (by omega);rw[← h5]at b
 exact tm (s:=s) (e:=999+t) (m:=full-4503599627370496) h7 a1 (by omega) (by omega) (fun h=>by omega)
theorem mW {n v s x f:Nat}(h:rd n v s x f):isNaN n=false:=by
 obtain⟨a1,a2,a3,a4,h⟩:=h
 rcases h with ⟨h1,h2,h3⟩ | ⟨h1,h2,h3⟩ | ⟨h1,h2,h3⟩ | ⟨h1,t,full,h2,h3,h4,h5,h6,h7⟩
 ·exact tm (s:=s) (e:=2047) (m:=0) (by rw[h3]) a1 (by omega) (by omega) (fun _=>rfl)
 ·exact tm (s:=s) (e:=0) (m:=0) (by rw[h3,Nat.zero_mul,Nat.add_zero]) a1 (by omega) (by omega) (fun _=>rfl)
 ·exact tm (s:=s) (e:=x+896) (m:=f*536870912) (by omega) a1 (by omega) (by omega) (fun h=>by omega)
 have b:=qu h3 h4 (by omega);rw[← h5]at b
 exact tm (s:=s) (e:=874+t) (m:=full-4503599627370496) h7 a1 (by omega) (by omega) (fun h=>by omega)
theorem jR {v:Nat}(hv:v<65536) (h:v/1024%32=31∧v%1024≠0):isNaN (xR v)=true∧(xR v=zJ↔v=32256):=by
 obtain⟨h1,h2⟩:=h;have e:xR v=v/32768*9223372036854775808+2047*4503599627370496+v%1024*4398046511104:=by rw[xR,if_pos h1]
 refine⟨WY e (by omega) (by omega) (by omega), ?_⟩
 rw[e,zJ]
 omega
theorem jS {v:Nat}(hv:v<4294967296) (h:v/8388608%256=255∧v%8388608≠0):isNaN (wg v)=true:=by
 obtain⟨h1,h2⟩:=h;have e:wg v=v/2147483648*9223372036854775808+2047*4503599627370496+v%8388608*536870912:=by rw[wg,if_pos h1]
 exact WY e (by omega) (by omega) (by omega)
theorem ts {n:Nat}(h:isNaN n=true):zK n=[u8 249,u8 126,u8 0]:=by rw[zK,if_pos h]
theorem lL {n:Nat}(h:isNaN n=false):(zK n).length=(if(yr n 5 10).isSome then 3 else if(yr n 8 23).isSome then 5 else 9):=by
 rw[zK,if_neg (by simp[h])]
 cases yr n 5 10 with
 | some v=>rfl
 | none=>cases yr n 8 23 with
  | some v=>rfl
  | none=>simp[vP]
theorem aE {low n f:Nat}(hl:25≤low∧low≤27) {t:List UInt8}(ht:t.length=2 ^ (low-24)) (hn:n=beN t) (hf:f=uu low n)
  (h1:¬ (isNaN f=true∧f≠zJ)) (h2:(zK f).length=1+2 ^ (low-24)):zK f=u8 (7*32+low)::t∧f<18446744073709551616:=by
 rcases(by omega:low=25∨low=26∨low=27) with rfl | rfl | rfl
 ·obtain⟨a,b,rfl⟩:=TE (by simpa using ht);have ha:=a.toNat_lt;have hb:=b.toNat_lt
  rw[Ow]at hn;have hv:n<65536:=by omega
  rw[uu,if_pos rfl]at hf
  by_cases hx:n/1024%32=31∧n%1024≠0
  ·obtain⟨q1,q2⟩:=jR hv hx;rw[← hf]at q1 q2;have Mw:f=zJ:=Classical.byContradiction fun h=>h1 ⟨q1,h⟩
   have oo:=q2.1 Mw;rw[ts q1]
   refine⟨?_,by rw[Mw];decide⟩
   rw[vB (n:=126) (c:=a) (by omega),vB (n:=0) (c:=b) (by omega)]
  obtain⟨q1,q2⟩:=qX hv hx;rw[← hf]at q1 q2
  refine⟨?_,q2⟩
  rw[zK,if_neg (by rw[mV q1];simp),ct q1]
  simp only
  rw[vB (n:=n/256) (c:=a) (by omega),vB (n:=n) (c:=b) (by omega)]
 ·obtain⟨a,b,c,d,rfl⟩:=WV (by simpa using ht);have ha:=a.toNat_lt;have hb:=b.toNat_lt;have hc:=c.toNat_lt;have hd:=d.toNat_lt
  rw[Ox]at hn;have hv:n<4294967296:=by omega
  rw[uu,if_neg (by omega),if_pos rfl]at hf
  by_cases hx:n/8388608%256=255∧n%8388608≠0
  ·have q1:=jS hv hx;rw[← hf]at q1;rw[ts q1]at h2
   simp at h2
  obtain⟨q1,q2⟩:=qY hv hx;rw[← hf]at q1 q2
  refine⟨?_,q2⟩
  have q3:=mW q1;have q4:=pV q1;rw[lL q3,q4]at h2
  have q5:yr f 5 10=none:=by
   cases h:yr f 5 10 with
   | none=>rfl
   | some v=>rw[h]at h2;simp at h2
  rw[zK,if_neg (by rw[q3];simp),q5,q4]
  simp only
  rw[vB (n:=n/16777216) (c:=a) (by omega),vB (n:=n/65536) (c:=b) (by omega),vB (n:=n/256) (c:=c) (by omega),vB (n:=n) (c:=d) (by omega)]
 have Kx:t.length=8:=by simpa using ht
 have hb:=xx t;rw[Kx,← hn]at hb;rw[uu,if_neg (by omega),if_neg (by omega)]at hf;subst hf
 refine⟨?_,by omega⟩
 cases q3:isNaN f with
 | true =>
  rw[ts q3]at h2
  simp at h2
 | false =>
 rw[lL q3]at h2
 have q5:yr f 5 10=none:=by
  cases h:yr f 5 10 with
  | none=>rfl
  | some v=>rw[h]at h2;simp at h2
 have q6:yr f 8 23=none:=by
  cases h:yr f 8 23 with
  | none=>rfl
  | some v=>rw[h,q5]at h2;simp at h2
 rw[zK,if_neg (by rw[q3];simp),q5,q6]
 simp only
 rw[hn,ZC Kx]
theorem ug {low n:Nat}{x:Itm}(hl:low≤27) {t:List UInt8}(te:low<24→n=low∧t=[]) (hw:24≤low→t.length=2 ^ (low-24)∧n=beN t) (h:yZ low n=.ok x) :
  zZ x=u8 (7*32+low)::t∧(∀ lv,Good x lv)∧x.n<18446744073709551616∧x.items=[]∧cnt x=1:=by
 rw[yZ]at h
 have good7:∀ (n:Nat),(n<24∨32≤n∧n<256)→∀ lv,Good (.mk 7 n [] []) lv:=fun n hn lv=>by
  rw[Good]
  refine⟨?_, ?_,fun h=>by omega⟩
  ·rw[xr,if_pos (by simp[yo,Itm.kind])]
   rcases hn with hn | ⟨h1,h2⟩ <;> simp[yy,Itm.kind,Itm.n,Itm.bytes,Itm.items, *]
  rw[GoodL];trivial
 split at h
 ·rename_i q1
  injection h with h
  subst h;obtain⟨rfl,rfl⟩:=te q1
  refine⟨?_,good7 _ (.inl q1),by simp only[Itm.n];omega,rfl,by simp[cnt,xG]⟩
  rw[xh,if_neg (by simp[Itm.kind]),if_neg (by simp[Itm.n];omega)];have e:numP (.mk 7 n [] [])=n:=by simp[numP,Itm.kind,Itm.n]
  rw[e,zh,if_pos q1]
  simp[Itm.bytes,Itm.items,Itm.kind,yx]
 split at h
 ·rename_i q1 q2
  subst q2
  split at h
  ·cases h
  rename_i q3
  injection h with h
  subst h;obtain⟨ht,hn⟩:=hw (by omega);obtain⟨a,rfl⟩:=TD (by simpa using ht);have ha:=a.toNat_lt;rw[Ov]at hn
  refine⟨?_,good7 _ (.inr (by omega)),by simp only[Itm.n];omega,rfl,by simp[cnt,xG]⟩
  rw[xh,if_neg (by simp[Itm.kind]),if_pos (by simp[Itm.n,Itm.kind];omega)]
  simp only[Itm.n]
  rw[vB (n:=n) (c:=a) (by omega)]
 rename_i q1 q2
 split at h
 ·cases h
 rename_i q3
 injection h with h
 subst h;obtain⟨ht,hn⟩:=hw (by omega)
 simp only[Bool.or_eq_true,Bool.and_eq_true,bne_iff_ne,ne_eq,not_or]at q3
 obtain⟨q3,q4⟩:=q3;have q4':=Classical.not_not.1 q4;obtain⟨e,he⟩:=aE (low:=low) (n:=n) (by omega) ht hn rfl q3 q4'
 refine⟨?_,fun lv=>?_,he,rfl,by simp[cnt,xG]⟩
 ·rw[xh,if_pos (by simp[Itm.kind])]
  exact e
 rw[Good]
 refine⟨?_,by rw[GoodL];trivial,fun h=>by omega⟩
 rw[xr,if_pos (by simp[yo,Itm.kind])]
 simp[yy,Itm.kind,Itm.n,Itm.bytes,Itm.items]
 cases hN:isNaN (uu low n) with
 | false=>exact .inl rfl
 | true=>exact .inr (Classical.byContradiction fun h=>q3 ⟨hN,h⟩)
structure Read (d:Nat) (b:List UInt8) (c:Nat) (x:Itm) (k c':Nat):Prop where
 le:k≤b.length
 pos:0<k
 enc:zZ x=b.take k
 cnt:c'=c+cnt x
 lim:c'≤256
 good:∀ lv,lv+d=8→Good x lv
 nums:Nums x
structure ReadL (d:Nat) (b:List UInt8) (c:Nat) (l:List Itm) (n k c':Nat):Prop where
 le:k≤b.length
 enc:yx l=b.take k
 cnt:c'=c+xG l
 lim:c'≤256
 good:∀ lv,lv+d=8→GoodL l lv
 nums:NumsL l
 len:l.length=n
theorem vN {α:Type}(b:List α) (k k':Nat):b.take (k+k')=b.take k++(b.drop k).take k':=List.take_add
theorem dT {d:Nat}{p:List UInt8→Nat→PR}(hp:∀ b c x k c',p b c=.ok x k c'→Read d b c x k c') :
  ∀ (n:Nat) (b:List UInt8) (c:Nat) (l:List Itm) (k c':Nat),c≤256→vQ p n b c=.ok l k c'→ReadL d b c l n k c'
 | 0,b,c,l,k,c',hc,h=>by
  rw[vQ]at h;injection h with h1 h2 h3
  subst h1 h2 h3
  exact⟨by omega,by simp[yx],by simp[xG],hc,fun lv _=>by rw[GoodL];trivial,by rw[NumsL];trivial,rfl⟩
 | n+1,b,c,l,k,c',hc,h=>by
  rw[vQ]at h
  split at h
  ·cases h
  rename_i x k1 c1 h1
  split at h
  ·cases h
  rename_i l1 k2 c2 h2
  injection h with e1 e2 e3
  subst e1 e2 e3;have r1:=hp _ _ _ _ _ h1;have r2:=dT hp n _ _ _ _ _ r1.lim h2;have hl:=r2.le;rw[List.length_drop]at hl;have:=r1.le
  refine⟨by omega, ?_, ?_,r2.lim,fun lv hlv=>?_, ?_,by rw[List.length_cons,r2.len]⟩
  ·rw[yx,r1.enc,r2.enc,vN]
  ·rw[xG,r2.cnt,r1.cnt];omega
  ·rw[GoodL];exact⟨r1.good lv hlv,r2.good lv hlv⟩
  rw[NumsL];exact⟨r1.nums,r2.nums⟩
def Tb (last:Option (List UInt8)) (l:List Itm):Prop :=
 wn l=true∧∀ q,last=some q→∀ x t,l=x::t→Lib.compareBytes q (zZ x)<0
theorem nA:∀ a b:List UInt8,¬ Lib.compareBytes a b=0→¬ Lib.compareBytes a b<0→Lib.compareBytes b a<0
 | [],[],h,_=>absurd rfl h
 | [],_::_,_,h=>absurd (by show(-1:Int)<0;decide) h
 | _::_,[],_,_=>by show(-1:Int)<0;decide
 | x::a,y::b,h,k=>by
  rw[Lib.compareBytes]at h k⊢
  split at h
  ·rename_i h1
   rw[if_pos h1]at k
   exact absurd (by decide) k
  rename_i h1
  rw[if_neg h1]at k
  split at h
  ·rename_i h2
   rw[if_pos h2];decide
  rename_i h2
  rw[if_neg h2]at k;rw[if_neg h2,if_neg h1]
  exact nA a b h k
theorem YB {last:Option (List UInt8)}{key:List UInt8}(h:sv last key=none):∀ q,last=some q→Lib.compareBytes q key<0:=by
 intro q hq
 subst hq;rw[sv]at h
 split at h
 ·cases h
 split at h
 ·cases h
 rename_i h1 h2
 exact nA _ _ h1 h2
theorem dw {d:Nat}{p:List UInt8→Nat→PR}(hp:∀ b c x k c',p b c=.ok x k c'→Read d b c x k c') :
  ∀ (n:Nat) (b:List UInt8) (c:Nat) (last:Option (List UInt8)) (l:List Itm) (k c':Nat),c≤256→vl p n b c last=.ok l k c'→ReadL d b c l (2*n) k c'∧Tb last l
 | 0,b,c,last,l,k,c',hc,h=>by
  rw[vl]at h;injection h with h1 h2 h3
  subst h1 h2 h3
  exact⟨⟨by omega,by simp[yx],by simp[xG],hc,fun lv _=>by rw[GoodL];trivial,by rw[NumsL];trivial,rfl⟩,rfl,fun _ _ _ _ h=>by cases h⟩
 | n+1,b,c,last,l,k,c',hc,h=>by
  rw[vl]at h
  split at h
  ·cases h
  rename_i x k1 c1 h1
  split at h
  ·cases h
  rename_i hk
  split at h
  ·cases h
  rename_i y k2 c2 h2
  split at h
  ·cases h
  rename_i l1 k3 c3 h3
  injection h with e1 e2 e3
  subst e1 e2 e3;have r1:=hp _ _ _ _ _ h1;have r2:=hp _ _ _ _ _ h2;obtain⟨r3,a1,a2⟩:=dw hp n _ _ _ _ _ _ r2.lim h3;have br:=r2.le;have Iv:=r3.le;rw[List.length_drop]at br Iv;have:=r1.le
  refine⟨⟨by omega, ?_, ?_,r3.lim,fun lv hlv=>?_, ?_,by rw[List.length_cons,List.length_cons,r3.len];omega⟩, ?_,fun q hq x' t ht=>?_⟩
  ·rw[yx,yx,r1.enc,r2.enc,r3.enc,← List.append_assoc,← vN,← vN]
  ·rw[xG,xG,r3.cnt,r2.cnt,r1.cnt];omega
  ·rw[GoodL,GoodL];exact⟨r1.good lv hlv,r2.good lv hlv,r3.good lv hlv⟩
  ·rw[NumsL,NumsL];exact⟨r1.nums,r2.nums,r3.nums⟩
  ·cases l1 with
   | nil=>rfl
   | cons z l2 =>
   rw[wn,a1];have:=a2 _ rfl z l2 rfl;rw[← r1.enc]at this
   simp[this]
  injection ht with ht _
  subst ht;rw[r1.enc]
  exact YB hk q hq
theorem gP {x:Itm}(h:∀ lv,xr x lv=true) (hi:x.items=[]) (h5:x.kind≠5):∀ lv,Good x lv:=fun lv =>
 Good.of (h lv) (by rw[hi,GoodL];trivial) (fun h=>absurd h h5)
theorem qW:∀ (d:Nat) (b:List UInt8) (c:Nat) (x:Itm) (k c':Nat),zj d b c=.ok x k c'→Read d b c x k c':=by
 intro d
 induction d using Nat.strongRecOn with
 | _ d ih =>
 intro b c x k c' h
 rw[zj.eq_def]at h
 simp only at h
 split at h
 ·cases h
 rename_i hc
 split at h
 ·cases h
 rename_i f n k1 hh
 have H:=xo hh;have yN:=H.low;have hf:=H.f_lt
 split at h
 ·rename_i h1
  injection h with e1 e2 e3
  subst e1 e2 e3;have hk:f/32=0∨f/32=1:=by omega
  refine⟨H.le,H.pos, ?_,by simp[cnt,xG],by omega,fun lv _=>gP (fun lv=>?_) rfl (by simp only[Itm.kind];omega) lv, ?_⟩
  ·rw[← H.enc (by omega),xh,if_neg (by simp only[Itm.kind];omega),if_neg (by simp only[Itm.kind];omega)]
   have e:numP (.mk (f/32:Nat) n [] [])=n:=by
    rw[numP,if_neg (by simp only[Itm.kind];omega),if_neg (by simp only[Itm.kind];omega),if_neg (by simp only[Itm.kind];omega)];rfl
   rw[e,show(Itm.mk (f/32:Nat) n [] []).kind.toNat=f/32 from rfl]
   simp[Itm.bytes,Itm.items,yx]
  ·rw[xr]
   rcases hk with hk | hk <;> simp[yo,yy,Itm.kind,Itm.bytes,Itm.items,hk]
  rw[Nums];exact⟨H.n_lt,by rw[NumsL];trivial⟩
 rename_i h1
 split at h
 ·rename_i h3
  split at h
  ·cases h
  rename_i h4
  split at h
  ·cases h
  rename_i h5
  injection h with e1 e2 e3
  subst e1 e2 e3;have hk:f/32=2∨f/32=3:=by omega
  have tC:=H.le;have zN:((b.drop k1).take n).length=n:=by rw[List.length_take,List.length_drop];omega
  have hn:=H.n_lt;have uP:=H.pos
  refine⟨by omega,by omega, ?_,by simp[cnt,xG],by omega,fun lv _=>gP (fun lv=>?_) rfl (by simp only[Itm.kind];omega) lv, ?_⟩
  ·rw[vN,← H.enc (by omega),xh,if_neg (by simp only[Itm.kind];omega),if_neg (by simp only[Itm.kind];omega)]
   have e:numP (.mk (f/32:Nat) 0 ((b.drop k1).take n) [])=n:=by
    rw[numP,if_pos (by simp only[Itm.kind];omega)]
    exact zN
   rw[e,show(Itm.mk (f/32:Nat) 0 ((b.drop k1).take n) []).kind.toNat=f/32 from rfl]
   simp[Itm.bytes,Itm.items,yx]
  ·rw[xr]
   rcases hk with hk | hk
   ·simp[yo,yy,Itm.kind,Itm.bytes,Itm.items,Itm.n,hk]
   have:Lib.validD ((b.drop k1).take n)=true:=by
    cases h:Lib.validD ((b.drop k1).take n) with
    | true=>rfl
    | false=>exact absurd ⟨hk,h⟩ h5
   simp[yo,yy,Itm.kind,Itm.bytes,Itm.items,Itm.n,hk,this]
  rw[Nums];exact⟨by omega,by rw[NumsL];trivial⟩
 rename_i h3
 split at h
 ·rename_i h7
  split at h
  ·cases h
  rename_i y hs
  injection h with e1 e2 e3
  subst e1 e2 e3;have hu:u8 f=u8 (7*32+f%32):=by rw[show 7*32+f%32=f by omega]
  rcases Nat.lt_or_ge (f%32) 24 with hl | hl
  ·obtain⟨s1,s2,s3⟩:=H.small hl;obtain⟨g1,g2,g3,g4,g5⟩:=ug (low:=f%32) (t:=[]) (by omega) (fun _=>⟨s1,rfl⟩) (fun h=>by omega) hs
   refine⟨H.le,H.pos,by rw[s3,g1,hu],by rw[g5],by omega,fun lv _=>g2 lv, ?_⟩
   cases y
   rw[Nums]
   simp only[Itm.items]at g4
   subst g4
   exact⟨g3,by rw[NumsL];trivial⟩
  obtain⟨s1,t,s2,s3,s4⟩:=H.wide hl;obtain⟨g1,g2,g3,g4,g5⟩:=ug (low:=f%32) (t:=t) (by omega) (fun h=>by omega) (fun _=>⟨s2,s4⟩) hs
  refine⟨H.le,H.pos,by rw[s3,g1,hu],by rw[g5],by omega,fun lv _=>g2 lv, ?_⟩
  cases y
  rw[Nums]
  simp only[Itm.items]at g4
  subst g4
  exact⟨g3,by rw[NumsL];trivial⟩
 rename_i h7
 cases d with
 | zero=>cases h
 | succ d =>
 simp only at h
 have hd:d<d+1:=by omega
 have uP:=H.pos
 split at h
 ·rename_i h6
  split at h
  ·cases h
  rename_i y k2 c2 hy
  injection h with e1 e2 e3
  subst e1 e2 e3;have r:=ih d hd _ _ _ _ _ hy;have tC:=H.le;have hl:=r.le;rw[List.length_drop]at hl
  refine⟨by omega,by omega, ?_, ?_,r.lim,fun lv hlv=>Good.of ?_ ?_ (fun h=>by simp only[Itm.kind]at h;omega), ?_⟩
  ·rw[vN,← H.enc (by omega),xh,if_neg (by simp only[Itm.kind];omega),if_neg (by simp only[Itm.kind];omega),h6];have e:numP (.mk 6 n [] [y])=n:=by simp[numP,Itm.kind,Itm.n]
   rw[e,← r.enc]
   simp[Itm.kind,Itm.bytes,Itm.items,yx]
  ·rw[cnt,xG,xG,r.cnt];omega
  ·rw[xr,if_neg (by simp[yo,Itm.kind])]
   simp[vx,Itm.kind,Itm.bytes,Itm.items,Itm.n]
   omega
  ·simp only[Itm.items]
   rw[GoodL,GoodL]
   exact⟨r.good _ (by omega),trivial⟩
  rw[Nums,NumsL,NumsL]
  exact⟨H.n_lt,r.nums,trivial⟩
 rename_i h6
 split at h
 ·rename_i h5
  split at h
  ·cases h
  rename_i l k2 c2 hy
  injection h with e1 e2 e3
  subst e1 e2 e3;obtain⟨r,asc,_⟩:=dw (ih d hd) _ _ _ _ _ _ _ (by omega) hy;have tC:=H.le;have hl:=r.le;have zN:=r.len;rw[List.length_drop]at hl
  refine⟨by omega,by omega, ?_, ?_,r.lim,fun lv hlv=>Good.of ?_ ?_ (fun _=>asc), ?_⟩
  ·rw[vN,← H.enc (by omega),xh,if_neg (by simp only[Itm.kind];omega),if_neg (by simp only[Itm.kind];omega),h5];have e:numP (.mk 5 0 [] l)=n:=by simp[numP,Itm.kind,Itm.n,Itm.items,zN]
   rw[e,← r.enc]
   simp[Itm.kind,Itm.bytes,Itm.items]
  ·rw[cnt,r.cnt];omega
  ·rw[xr,if_neg (by simp[yo,Itm.kind])]
   simp[vx,Itm.kind,Itm.bytes,Itm.items,Itm.n,zN]
   omega
  ·exact r.good _ (by omega)
  rw[Nums]
  exact⟨by omega,r.nums⟩
 rename_i h5
 split at h
 ·cases h
 rename_i l k2 c2 hy
 injection h with e1 e2 e3
 subst e1 e2 e3;have h4:f/32=4:=by omega
 have r:=dT (ih d hd) _ _ _ _ _ _ (by omega) hy;have tC:=H.le;have hl:=r.le;have zN:=r.len;rw[List.length_drop]at hl
 refine⟨by omega,by omega, ?_, ?_,r.lim,fun lv hlv=>Good.of ?_ ?_ (fun h=>by simp only[Itm.kind]at h;omega), ?_⟩
 ·rw[vN,← H.enc (by omega),xh,if_neg (by simp only[Itm.kind];omega),if_neg (by simp only[Itm.kind];omega),h4];have e:numP (.mk 4 0 [] l)=n:=by simp[numP,Itm.kind,Itm.n,Itm.items,zN]
  rw[e,← r.enc]
  simp[Itm.kind,Itm.bytes,Itm.items]
 ·rw[cnt,r.cnt];omega
 ·rw[xr,if_neg (by simp[yo,Itm.kind])]
  simp[vx,Itm.kind,Itm.bytes,Itm.items,Itm.n,zN]
  omega
 ·exact r.good _ (by omega)
 rw[Nums]
 exact⟨by omega,r.nums⟩
def ZA (p:List UInt8→Nat→PR):Prop:=∀ b c x k c',p b c=.ok x k c'→c<c'∧c'≤256
theorem Th (x:Itm):0<cnt x:=by rw[pc];omega
theorem vR (d:Nat):ZA (zj d):=fun b c x k c' h=>by
 have r:=qW d b c x k c' h;have:=Th x
 exact⟨by rw[r.cnt];omega,r.lim⟩
theorem ZH {p:List UInt8→Nat→PR}(hp:ZA p):∀ (m n:Nat) (b:List UInt8) (c:Nat) (last:Option (List UInt8)),256<c+m→256<c+n→c≤256→vl p m b c last=vl p n b c last
 | 0,n,b,c,last,h1,_,h3=>by omega
 | m+1,0,b,c,last,_,h2,h3=>by omega
 | m+1,n+1,b,c,last,h1,h2,h3=>by
  rw[vl,vl]
  cases h:p b c with
  | err e=>rfl
  | ok x k c1 =>
  have a1:=hp _ _ _ _ _ h
  simp only
  cases sv last (b.take k) with
  | some e=>rfl
  | none =>
  simp only
  cases h':p (b.drop k) c1 with
  | err e=>rfl
  | ok y k2 c2 =>
  have a2:=hp _ _ _ _ _ h'
  simp only
  rw[ZH hp m n (b.drop (k+k2)) c2 (some (b.take k)) (by omega) (by omega) a2.2]
def tz (b:List UInt8):PR:=zj 8 (b.take 4096) 0
theorem dA {b:List UInt8}{x:Itm}{k c:Nat}(h:tz b=.ok x k c):k≤b.length∧k≤4096∧0<k∧zZ x=b.take k∧Good x 0∧Nums x∧cnt x≤256:=by
 have r:=qW _ _ _ _ _ _ h;have hl:=r.le;rw[List.length_take]at hl;have h1:=r.cnt;have h2:=r.lim
 refine⟨by omega,by omega,r.pos, ?_,r.good 0 rfl,r.nums,by omega⟩
 rw[r.enc,List.take_take,show min k 4096=k by omega]
def xL (b:List UInt8):Except Nat Itm :=
 if 4096<b.length then .error 8 else match tz b with
 | .err e=>.error e
 | .ok x k _=>if k<b.length then .error 9 else .ok x
structure Ext where
 label:Int
 has:Bool
 val:List UInt8
def Pi (x:Itm) (lim:Nat):Option Int :=
 if x.kind=0∧x.n≤lim then some (x.n:Int) else if x.kind=1∧x.n<lim then some (-1-(x.n:Int)) else none
def Ph (n:Int):List UInt8:=if n<0 then zh 1 (-1-n).toNat else zh 0 n.toNat
def fU:Nat→List Ext→List UInt8→Except Nat (List Ext)
 | 0,out,_=>.ok out
 | n+1,out,b =>
 if b.length=0 then .ok out
 else match tz b with
  | .err e=>.error e
  | .ok x k _ =>
  if x.kind=2 then
   (match out.getLast? with
   | none=>.error 4
   | some l =>
   if l.has then .error 4 else if 600<x.bytes.length then .error 8
   else fU n (out.dropLast++[{ l with has:=true,val:=x.bytes }]) (b.drop k))
  else match Pi x 65535 with
   | none=>.error 4
   | some v=>if out.length=4 then .error 8 else fU n (out++[{ label:=v,has:=false,val:=[] }]) (b.drop k)
def RB (b:List UInt8):Except Nat (List Ext):=fU (b.length+1) [] b
def Wb (c:UInt8):Bool:=decide (c.toNat<24)||decide (32≤c.toNat)&&decide (c.toNat<56)
def YP (b:List UInt8):Except Nat (List UInt8×Nat) :=
 match b with
 | []=>.error 2
 | x::t =>
 if Wb x then .ok ([x],1)
 else if x.toNat<64∨88<x.toNat then .error 4
 else if 7<x.toNat-64 then .error 8
 else if b.length<1+(x.toNat-64) then .error 2
 else if x.toNat-64=1∧Wb (b.getD 1 0) then .error 4
 else .ok (t.take (x.toNat-64),1+(x.toNat-64))
def TI:List Int→Bool
 | []=>false
 | x::l=>l.contains x||TI l
structure First where
 method:Int
 suites:List Int
 gx:List UInt8
 conn:List UInt8
 ext:List Ext
def TF:List Itm→Option (List Int)
 | []=>some []
 | x::l=>match Pi x 65535 with
  | none=>none
  | some v=>if v<0 then none else match TF l with
   | none=>none
   | some t=>some (v::t)
def UD (x:Itm):Except Nat (List Int) :=
 if x.kind=0 then(if x.n≤65535 then .ok [(x.n:Int)] else .error 4)
 else if x.kind≠4∨x.items.length<2 then .error 4
 else match TF x.items with
  | none=>.error 4
  | some l=>if TI l then .error 7 else if 8<l.length then .error 8 else .ok l
theorem uT (n:Int) (lv:Nat):Good (zt n) lv:=by
 rw[zt]
 split <;> (rw[Good];refine⟨?_,by rw[GoodL];trivial,by intro h;omega⟩;simp[xr,yo,yy,vx,Itm.kind,Itm.bytes,Itm.items,Itm.n])
theorem wo (n:Int):zZ (zt n)=Ph n:=by
 rw[ZE (uT n 0) (by rw[zt];split <;> simp[Itm.kind]),zt,Ph]
 split <;> rfl
theorem tU:∀ a b:List UInt8,Lib.compareBytes a b=0↔a=b
 | [],[]=>by rw[Lib.compareBytes];simp
 | [],y::b=>by rw[Lib.compareBytes];simp
 | x::a,[]=>by rw[Lib.compareBytes];simp
 | x::a,y::b=>by
  rw[Lib.compareBytes]
  by_cases h1:x<y
  ·rw[if_pos h1];have:x≠y:=by rintro rfl;exact UInt8.lt_irrefl x h1
   simp[this]
  rw[if_neg h1]
  by_cases h2:y<x
  ·rw[if_pos h2];have:x≠y:=by rintro rfl;exact UInt8.lt_irrefl x h2
   simp[this]
  rw[if_neg h2];have e:x=y:=UInt8.toNat_inj.1 (by rw[UInt8.lt_iff_toNat_lt]at h1 h2;omega);subst e
  simp[tU a b]
def mg (x:Itm):Prop:=∀ (y:Itm) (H:Snap) (k n:Int) (ba:Option Addr) (bl bc:Nat) (ia:Option Addr) (il ic:Nat) (k' n':Int) (ba':Option Addr) (bl' bc':Nat) (ia':Option Addr) (il' ic':Nat) (w:World),
 Modest x→Modest y→ItemA H k n ba bl bc ia il ic x→ItemA H k' n' ba' bl' bc' ia' il' ic' y→Holds w H→
 Calls Tryz.prog 59 #[.agg #[.int .i64 k,.int .u64 n,.slice ba bl bc,.slice ia il ic],.agg #[.int .i64 k',.int .u64 n',.slice ba' bl' bc',.slice ia' il' ic']] w fun e w'=>e=.returned (.bool (tq x y))∧Below w.heap.size w w'
theorem W6 (x y:Itm):tq x y=(x.kind==y.kind&&x.n==y.n&&x.bytes==y.bytes&&uG x.items y.items):=by cases x;cases y;rw[tq];rfl
theorem YX:∀ l m:List Itm,uG l m=true→l.length=m.length:=fun l m h=>by rw[mA]at h;rw[h]
theorem YY (x:Itm) (ih:∀ z:Itm,cnt z<cnt x→mg z):mg x:=by
 intro y H k n ba bl bc ia il ic k' n' ba' bl' bc' ia' il' ic' w kM hmy hx hy hH
 obtain⟨rfl,rfl,rfl,rfl,ot⟩:=hx.eqs_;obtain⟨rfl,rfl,rfl,rfl,Ta⟩:=hy.eqs_;have HX:=Hh ot;have HY:=Hh Ta;have Hi:=Hh kM;have Hj:=Hh hmy;have wG:=ot.bounds;have gp:=Ta.bounds;have kJ:=(zi w (zS x ba bc ia ic)).alloc (by simp) (zS y ba' bc' ia' ic');have ws:=(Blk.new w 57 #[.int .i64 x.kind,.int .u64 x.n,.slice ba x.bytes.length bc,.slice ia x.items.length ic]).alloc (zS y ba' bc' ia' ic');have yU:=Blk.new (w.alloc (zS x ba bc ia ic)) 57 #[.int .i64 y.kind,.int .u64 y.n,.slice ba' y.bytes.length bc',.slice ia' y.items.length ic']
 simp only[zX]at yU
 have po:Holds ((w.alloc (zS x ba bc ia ic)).alloc (zS y ba' bc' ia' ic')) H:=(hH.alloc _).alloc _;have C:=Hh (se _ ba ba' x.bytes y.bytes x.bytes.length y.bytes.length bc bc' rfl rfl (kM.parts.1) (hmy.parts.1) (Src.of_row ot.bytes.row po) (Src.of_row Ta.bytes.row po));have VH:x.items.length≤9223372036854775807:=by omega
 have QY:y.items.length≤9223372036854775807:=by omega
 have Fp:=Hh wG.2.2.1;have JW:=Hh gp.2.2.1;have E0:=W6 x y;clear hx hy ot Ta wG gp kM hmy
 by_cases h1:x.kind=y.kind
 case neg =>
  have E:Hid (tq x y=false):=by rw[Hid,E0];simp[h1]
  have b1:(x.kind != y.kind)=true:=by simp[h1]
  have p1:(x.kind=y.kind)=False:=eq_false h1;clear h1 E0;go_enter Tryz.func59,Tryz.ntmps59
  go_wp2_with fail
  go_ret
  exact⟨by rw[E.out];rfl,kJ⟩
 have b1:(x.kind != y.kind)=false:=by simp[h1]
 have p1:(x.kind=y.kind)=True:=eq_true h1;have e1:(x.kind==y.kind)=true:=by simp[h1]
 rw[e1]at E0;clear h1 e1
 by_cases h2:x.n=y.n
 case neg =>
  have E:Hid (tq x y=false):=by rw[Hid,E0];simp[h2]
  have b2:((x.n:Int) != (y.n:Int))=true:=by simp;omega
  have p2:(x.n=y.n)=False:=eq_false h2;clear h2 E0;go_enter Tryz.func59,Tryz.ntmps59
  go_wp2_with fail
  go_ret
  exact⟨by rw[E.out];rfl,kJ⟩
 have b2:((x.n:Int) != (y.n:Int))=false:=by simp;omega
 have p2:(x.n=y.n)=True:=eq_true h2;have e2:(x.n==y.n)=true:=by simp[h2]
 rw[e2]at E0;clear h2 e2;obtain⟨cmp,qb⟩:∃ cmp,Lib.compareBytes x.bytes y.bytes=cmp:=⟨_,rfl⟩
 have hz:=tU x.bytes y.bytes;rw[qb]at C hz;clear qb
 by_cases h3:x.bytes=y.bytes
 case neg =>
  have E:Hid (tq x y=false):=by rw[Hid,E0];simp[h3]
  have h0:cmp≠0:=fun h=>h3 (hz.1 h)
  have b3:(cmp != 0)=true:=by simp[h0]
  have p3:(cmp=0)=False:=eq_false h0;clear h3 E0 hz h0;go_enter Tryz.func59,Tryz.ntmps59
  go_wp2_with fail
  refine C.out.mono ?_
  rintro e w1 ⟨rfl,wU⟩
  have yX:=kJ.trans (wU.mono kJ.size);go_wp2_with fail
  go_ret
  exact⟨by rw[E.out];rfl,yX⟩
 have h0:=hz.2 h3;have e3:(x.bytes==y.bytes)=true:=by simp[h3]
 rw[e3]at E0;subst h0;clear hz h3 e3
 by_cases h4:x.items.length=y.items.length
 case neg =>
  have E:Hid (tq x y=false):=by
   rw[Hid,E0]
   cases hs:uG x.items y.items with
   | true=>exact absurd (YX _ _ hs) h4
   | false=>rfl
  have b4:((x.items.length:Int) != (y.items.length:Int))=true:=by simp;omega
  have p4:(x.items.length=y.items.length)=False:=eq_false h4;clear h4 E0;go_enter Tryz.func59,Tryz.ntmps59
  go_wp2_with fail
  refine C.out.mono ?_
  rintro e w1 ⟨rfl,wU⟩
  have yX:=kJ.trans (wU.mono kJ.size);have V7:=ws.below wU;have XR:=yU.below wU;have c3:=V7.cell 3 rfl;have d3:=XR.cell 3 rfl;go_wp2_with fail
  go_ret
  exact⟨by rw[E.out];rfl,yX⟩
 have b4:((x.items.length:Int) != (y.items.length:Int))=false:=by simp;omega
 have p4:(x.items.length=y.items.length)=True:=eq_true h4;have H4:=Hh h4;have E:Hid (tq x y=uG x.items y.items):=by rw[Hid,E0];rfl
 clear h4 E0;go_enter Tryz.func59,Tryz.ntmps59
 go_wp2_with fail
 refine C.out.mono ?_
 rintro e w1 ⟨rfl,wU⟩
 have yX:=kJ.trans (wU.mono kJ.size);have V7:=ws.below wU;have XR:=yU.below wU;have c3:=V7.cell 3 rfl;have d3:=XR.cell 3 rfl;clear ws yU wU kJ C;go_wp2_with fail
 go_loopw [39] (fun v39 wr=>∃ j:Nat,j≤x.items.length∧v39=.int .i64 j∧uG (x.items.drop j) (y.items.drop j)=uG x.items y.items∧Below w.heap.size w wr∧Blk wr (w.heap.size+1) 57 #[.int .i64 y.kind,.int .u64 y.n,.slice ba' y.bytes.length bc',.slice ia' y.items.length ic']) (fun v39 _=>x.items.length-(intOf v39).toNat)
 case atStart=>exact⟨0,Nat.zero_le _,rfl,rfl,yX,XR⟩
 case round =>
 obtain⟨j,hj,rfl,hs,xP,IJ⟩:=hrel;have HS:=Hh hs;clear hs c3 d3
 by_cases ye:j<x.items.length
 ·have SL:j<y.items.length:=by have:=H4.out;omega
  have wF:Holds wr H:=hH.below xP (Nat.le_refl _);obtain⟨ib,io,rH,vD⟩:=HX.out.items (by omega);obtain⟨jb,jo,Is,PO⟩:=HY.out.items (by omega);obtain⟨y1,y2,y3,y4,q0,q1,q2,q3,tA⟩:=vD.get j ye;obtain⟨z1,z2,z3,z4,s0,s1,s2,s3,oI⟩:=PO.get j SL;subst rH Is;have p0:=wF.cell q0;have p1':=wF.cell q1;have p2':=wF.cell q2;have p3:=wF.cell q3;have GE:(j:Int)<y.items.length:=by omega
  have rj:uG (x.items.drop j) (y.items.drop j)=(tq x.items[j] y.items[j]&&uG (x.items.drop (j+1)) (y.items.drop (j+1))):=by rw[List.drop_eq_getElem_cons ye,List.drop_eq_getElem_cons SL,uG]
  have pQ:=Hh (HS.out.symm.trans rj);have IH:=Hh (fun w1:World=>fun h1:Holds w1 H=>ih x.items[j] (vF x j ye) y.items[j] H _ _ y1 _ y2 y3 _ y4 _ _ z1 _ z2 z3 _ z4 w1 (Hi.out.parts.2.2.get j ye) (Hj.out.parts.2.2.get j SL) tA.arg oI.arg h1)
  generalize x.items[j]'ye=u at *
  generalize y.items[j]'SL=v at *
  have hT:=Blk.new wr 57 #[.int .i64 u.kind,.int .u64 u.n,.slice y1 u.bytes.length y2,.slice y3 u.items.length y4];have xY:=(wF.alloc (zS u y1 y2 y3 y4)).drew;have wG:=(xP.alloc xP.size (zS u y1 y2 y3 y4)).drew;have Mf:=(IJ.alloc (zS u y1 y2 y3 y4)).drew;have kH:=hT.drew;clear rj vD PO tA oI q0 q1 q2 q3 hT;go_upto_region 6 with fail
  refine zr 7 (fun w'=>w'.cell? ⟨wr.heap.size,0,none⟩=some (.int .i64 u.kind)∧w'.cell? ⟨wr.heap.size,1,none⟩=some (.int .u64 u.n)∧w'.cell? ⟨wr.heap.size,2,none⟩=some (.slice y1 u.bytes.length y2)∧w'.cell? ⟨wr.heap.size,3,none⟩=some (.slice y3 u.items.length y4)∧w'.cell? ⟨w.heap.size+1,3,none⟩=some (.slice (some ⟨jb,jo,none⟩) y.items.length ic')∧w'.cell? ⟨jb,jo+j*4,none⟩=some (.int .i64 v.kind)∧w'.cell? ⟨jb,jo+j*4+1,none⟩=some (.int .u64 v.n)∧w'.cell? ⟨jb,jo+j*4+2,none⟩=some (.slice z1 v.bytes.length z2)∧w'.cell? ⟨jb,jo+j*4+3,none⟩=some (.slice z3 v.items.length z4)) (by kernel_rfl) (⟨kH.cell 0 rfl,kH.cell 1 rfl,kH.cell 2 rfl,kH.cell 3 rfl,Mf.cell 3 rfl,xY.cell s0,xY.cell s1,xY.cell s2,xY.cell s3⟩) (fun zy=>?_)
  refine Tk 0 rfl zy ?_
  refine Tk 1 rfl zy ?_
  refine Tk 2 rfl zy ?_
  refine Tk 3 rfl zy ?_
  refine Tk 4 rfl zy ?_
  refine Tk 5 rfl zy ?_
  refine To 6 rfl fun K hK=>?_
  go_simp
  refine(IH.out _ xY).mono ?_
  rintro e w6 ⟨rfl,tf⟩
  have Px:=xY.below tf (Nat.le_refl _);have vJ:=wG.trans (tf.mono wG.size);have Ju:=Mf.below tf;have yj:=kH.below tf
  refine Ko hK ?_ fun zy=>?_
  ·exact⟨yj.cell 0 rfl,yj.cell 1 rfl,yj.cell 2 rfl,yj.cell 3 rfl,Ju.cell 3 rfl,Px.cell s0,Px.cell s1,Px.cell s2,Px.cell s3⟩
  clear hK K
  refine To 7 rfl fun K hK=>?_
  go_simp
  refine Kz hK ?_
  clear hK K
  refine Wd ?_
  clear zy p0 p1' p2' p3 s0 s1 s2 s3 wF xY wG Mf kH yj Px tf
  cases hq:tq u v with
  | false =>
   have EE:Hid (uG x.items y.items=false):=by rw[Hid,pQ.out,hq];rfl
   clear hq;go_wp2_with fail
   go_ret
   exact⟨by rw[E.out,EE.out];rfl,vJ⟩
  | true =>
  have EE:Hid (uG (x.items.drop (j+1)) (y.items.drop (j+1))=uG x.items y.items):=by rw[Hid,pQ.out,hq];rfl
  clear hq;go_wp2_with fail
  go_roundw
  case rel=>exact⟨j+1,by omega,by go_num,EE.out,vJ,Ju⟩
  case measure=>simp[intOf];omega
 have gu:j=x.items.length:=by omega
 subst gu;have EE:Hid (uG x.items y.items=true):=by rw[Hid,← HS.out,List.drop_length,H4.out,List.drop_length,uG]
 go_wp2_with fail
 go_ret
 exact⟨by rw[E.out,EE.out];rfl,xP⟩
theorem jj (x:Itm):mg x:=by
 have main:∀ N,∀ x:Itm,cnt x≤N→mg x:=by
  intro N
  induction N with
  | zero =>
   intro x hx
   have:0<cnt x:=by cases x;rw[cnt];omega
   omega
  | succ N ih=>exact fun x hx=>YY x fun y hy=>ih y (by omega)
 exact main _ x (Nat.le_refl _)
theorem rb {w:World}{b off n:Nat}{l:List UInt8}(h:∀ j (hj:j<l.length),w.cell? ⟨b,off+j,none⟩=some (zI l[j])) (k:Nat) (B:Option Addr) (hB:n≠0→B=some ⟨b,off+k,none⟩) (hk:k+n≤l.length):Src w B (((l.drop k).take n).map zI):=fun xH=>by
 have h0:n≠0:=by
  intro h0
  subst h0
  simp at xH
 refine⟨b,off+k,hB h0,fun j v hj=>?_⟩
 rw[List.getElem?_map]at hj;obtain⟨u,hu,rfl⟩:=Option.map_eq_some_iff.1 hj;rw[List.getElem?_take]at hu
 split at hu
 ·rename_i hjn
  rw[List.getElem?_drop]at hu;obtain⟨h1,h2⟩:=List.getElem?_eq_some_iff.1 hu;rw[Nat.add_assoc,h (k+j) h1,h2]
 cases hu
section
variable {w w' w'':World} {H H' H'':Snap} {g:Nat}
theorem GrowsBut.refl (hH:Holds w H) (g:Nat):GrowsBut w H w H g:=⟨yu w _,Snap.le.refl _,hH,fun _ _ h=>.inl h⟩
theorem GrowsBut.trans (h:GrowsBut w H w' H' g) (k:GrowsBut w' H' w'' H'' g):GrowsBut w H w'' H'' g :=
 ⟨yk h.grown k.grown (.inl rfl),h.le.trans k.le,k.holds,fun b o hb=>by
  rcases k.fresh b o hb with h1 | h1
  ·exact h.fresh b o h1
  exact .inr (Nat.le_trans h.grown.size h1)⟩
theorem Grows.but (h:Grows w H w' H') (g:Nat):GrowsBut w H w' H' g:=⟨wO h.below _,h.le,h.holds,h.fresh⟩
theorem GrowsBut.hid (h:GrowsBut w H w' H' g) {k:Nat}(hk:H k=.none) (hl:k<w.heap.size):H' k=.none:=by
 cases hH:H' k with
 | none=>rfl
 | some o =>
 rcases h.fresh k o hH with hx | hx
 ·rw[hk]at hx;cases hx
 omega
structure DeckIn (w:World) (g:Nat) (H:Snap):Prop where
 deck:Deck w g H
 holds:Holds w H
 apart:H g=.none
structure Dealt (w:World) (H:Snap) (w':World) (H':Snap) (g:Nat):Prop where
 grows:GrowsBut w H w' H' g
 deck:DeckIn w' g H'
theorem Dealt.refl (h:DeckIn w g H):Dealt w H w H g:=⟨GrowsBut.refl h.holds g,h⟩
theorem Dealt.trans (h:Dealt w H w' H' g) (k:Dealt w' H' w'' H'' g):Dealt w H w'' H'' g:=⟨h.grows.trans k.grows,k.deck⟩
theorem DeckIn.grows (h:DeckIn w g H) (k:Grows w H w' H'):Dealt w H w' H' g :=
 ⟨k.but g,⟨(h.deck.below k.below).mono k.le,k.holds,k.none h.apart h.deck.lt⟩⟩
theorem Dealt.grown (h:Dealt w H w' H' g) (k:Grows w' H' w'' H''):Dealt w H w'' H'' g:=h.trans (h.deck.grows k)
theorem Dealt.alloc (h:Dealt w H w' H' g) (o:Obj):Dealt w H (w'.alloc o) H' g:=h.grown ((Grows.refl h.deck.holds).alloc o)
theorem Dealt.le (h:Dealt w H w' H' g):H.le H':=h.grows.le
theorem Dealt.holds (h:Dealt w H w' H' g):Holds w' H':=h.deck.holds
theorem Dealt.size (h:Dealt w H w' H' g):w.heap.size≤w'.heap.size:=h.grows.grown.size
theorem Dealt.hid (h:Dealt w H w' H' g) {k:Nat}(hk:H k=.none) (hl:k<w.heap.size):H' k=.none:=h.grows.hid hk hl
theorem Dealt.grownRow {row:Option Nat}(h:Dealt w H w' H' g) (h0:∀ k,row=some k→H' k=.none) (hw:∀ k,row=some k→w.heap.size≤k) (ye:g<w.heap.size) (hg:w'.grownBy w'' row):Dealt w H w'' H' g:=by
 have hd:=h.deck;have xH:row≠some g:=fun e=>by have:=hw g e;omega
 refine⟨⟨?_,h.le,h.holds.grown hg h0,h.grows.fresh⟩, ?_,h.holds.grown hg h0,hd.apart⟩
 ·exact⟨hg.os.trans h.grows.grown.os,hg.tape.trans h.grows.grown.tape,hg.output.trans h.grows.grown.output,Nat.le_trans h.size hg.size,fun i hi oF =>
   (hg.block i (Nat.lt_of_lt_of_le hi h.size) (fun e=>by have:=hw i e.symm;omega)).trans (h.grows.grown.block i hi oF)⟩
 obtain⟨A,c,l,k,h1,h2,h3⟩:=hd.deck
 exact⟨A,c,l,k,h1.grown hg xH,h2,h3⟩
theorem Blk.dealt {k:Nat}{t:TypeId}{cs:Array Value}(h:Blk w k t cs) (hd:Dealt w H w' H' g) (hk:k≠g):Blk w' k t cs :=
 h.grown hd.grows.grown (by intro e;injection e with e;exact hk e.symm)
theorem OwnB.dealt {base:Nat}{v:Value}{l:List UInt8}(h:OwnB w base v l) (hd:Dealt w H w' H' g) (hb:g<base):OwnB w' base v l:=by
 refine h.kept hd.grows.grown ?_
 cases hv:v.ownBlock with
 | none=>exact .inl rfl
 | some k=>exact .inr (fun e=>by injection e with e;have:=h.lt k hv;omega)
end
theorem vG {H:Snap}{g:Nat}(w:World) (hD:DeckIn w g H) (n:Int) (hn:0<n) (oo:n≤1099511627776) :
  Calls Tryz.prog 20 #[.pointer (some ⟨g,0,none⟩),.int .i64 n] w fun e w'=>∃ r:Nat,e=.returned (.int .i64 (r:Int))∧(r:Int)<n∧Dealt w H w' H g:=by
 refine(Tw w hD.deck hD.holds hD.apart n hn oo).mono ?_
 rintro e w' ⟨r,rfl,h0,h1,h2,h3⟩
 obtain⟨k,rfl⟩:=Int.eq_ofNat_of_zero_le h0;have hH:=hD.holds.grown h3 (by rintro q ⟨⟩;exact hD.apart)
 exact⟨k,rfl,h1,⟨h3,Snap.le.refl _,hH,fun _ _ h=>.inl h⟩,h2,hH,hD.apart⟩
theorem Vd {H:Snap}{g:Nat}(w:World) (hD:DeckIn w g H) (n:Int) (hn:0≤n) (oo:n≤1048576) :
  Calls Tryz.prog 23 #[.pointer (some ⟨g,0,none⟩),.int .i64 n] w fun e w' =>
   ∃ A c l,e=.returned (.slice A l.length c)∧(l.length:Int)≤n∧∃ H',IsBytes H' A c l∧Dealt w H w' H' g:=by
 have NX:=Hh (vG w hD (n+1) (by omega) (by omega));have K0:IntKind.i64.wrap (n+1)=n+1:=IntWalk.i64_in _ (by omega);have yv:=hD.deck.lt;have HN:=Hh (And.intro hn oo);have HD:=Hh hD;clear hn oo hD;go_enter Tryz.func23,Tryz.ntmps23
 go_wp2_with fail
 refine NX.out.mono ?_
 rintro e w1 ⟨r,rfl,hr,Ms⟩
 have nR:=OwnB.nil w1 w.heap.size;go_wp2_with fail
 go_loopw [5,6] (fun v5 v6 wr=>∃ (k:Nat) (VA:Option Addr) (vc vn:Nat) (l:List UInt8),v6=.int .i64 (k:Int)∧v5=.slice VA vn vc∧OwnB wr w.heap.size (.slice VA vn vc) l∧vn=l.length∧(l.length:Int)+k≤n∧Dealt w H wr H g∧(∀ q,(Value.slice VA vn vc).ownBlock=some q→H q=none)) (fun _ v6 _=>(intOf v6).toNat)
 case atStart=>exact⟨r,_,_,_,_,rfl,rfl,nR,rfl,by simp;omega,Ms,by intro q hq;simp[Value.ownBlock]at hq⟩
 case round =>
 obtain⟨k,VA,vc,vn,l,rfl,rfl,vW,em,qC,uk,rI⟩:=hrel;have HV:=Hh em;have Ue:=Hh qC;clear em qC
 by_cases ye:(0:Int)<(k:Int)
 ·have NX:=Hh (vG wr uk.deck 256 (by omega) (by omega));go_wp2_with fail
  refine NX.out.mono ?_
  rintro e w2 ⟨q,rfl,hq,wl⟩
  have hd:=uk.trans wl;have kz:=vW.dealt wl yv;have K1:IntKind.u8.wrap (q:Int)=(q:Int):=IntWalk.u8_in _ (by omega);have kW:=kz.alloc (.cells #[.int .u8 (q:Int)] 5);have xV:=hd.alloc (.cells #[.int .u8 (q:Int)] 5)
  have HC:Hid ((#[.int .u8 (q:Int)]:Array Value).toList=[u8 q].map zI):=by
   simp only[Hid,List.map_cons,List.map_nil,wb]
   congr 2
   omega
  have rL:(-9223372036854775808:Int)≤(k:Int)-1∧(k:Int)-1≤9223372036854775807:=by have:=Ue.out;have:=HN.out;omega
  clear hq NX uk vW wl kz hd;go_wp2_with (at_builtin;refine yf ?_)
  unfold yP
  obtain rfl:=HV.out
  refine zR rfl (.tmp 15) (.tmp 19) rfl w.heap.size (.slice VA l.length vc) _ rfl kW _ 1 _ [u8 q] rfl rfl (Src.new _ _ _ _ rfl _ HC.out) (by have:=Ue.out;have:=HN.out;simp;omega) xV.size fun v' w7 vo hg7 hat7=>?_
  obtain⟨VA',vc',rfl,_⟩:=vo.form;have yC:=xV.grownRow rI (fun q hq=>(kW.lt q hq).1) yv hg7
  have nY:∀ q',(Value.slice VA' (l++[u8 q]).length vc').ownBlock=some q'→H q'=none:=fun q' Zl=>by
   rcases hat7 with h | ⟨g',h1,h2⟩
   ·exact rI q' (by rw[← h,Zl])
   rw[Zl]at h1;injection h1 with h1
   subst h1
   exact xV.holds.none_of_ge h2
  have Yz:(l++[u8 q]).length=l.length+1:=by simp
  rw[Yz]at vo nY;rw[Yz];clear Yz;have py:IntKind.i64.wrap ((k:Int)-1)=(k:Int)-1:=IntWalk.i64_in _ rL;clear kW hg7 hat7 xV rL;go_wp2_with fail
  go_roundw
  case rel=>exact⟨k-1,VA',vc',_,_,by rw[show((k-1:Nat):Int)=(k:Int)-1 by omega],rfl,vo,by simp,by have:=Ue.out;simp;omega,yC,nY⟩
  case measure=>simp[intOf];omega
 go_wp2_with fail
 obtain rfl:=HV.out;obtain⟨H',TX,Qp,VD,Zr,O6⟩:=vW.snap uk.holds (fun q hq=>rI q (by cases VA <;> simp_all [Value.ownBlock]));have hG:Grows wr H wr H'→True:=fun _=>trivial
 go_ret
 refine⟨VA,vc,l,rfl,by have:=Ue.out;omega,H',O6,⟨⟨uk.grows.grown,TX,Qp,fun b o hb=>?_⟩,uk.deck.deck.mono TX,Qp, ?_⟩⟩
 ·rcases VD b o hb with h | h
  ·exact .inl h
  exact .inr (vW.lt b (by cases VA <;> simp_all [Value.ownBlock])).1
 cases hH:H' g with
 | none=>rfl
 | some o =>
 rcases VD g o hH with h | h
 ·rw[HD.out.apart]at h;cases h
 have:=(vW.lt g (by cases VA <;> simp_all [Value.ownBlock])).1
 omega
theorem Blk.pick {w:World}{g:Nat}{t:TypeId}{cs:Array Value}(h:Blk w g t cs) (P:Value→Bool) (uJ:cs.all P=true) (k:Nat) (hk:k<cs.size):∃ v,w.cell? ⟨g,k,none⟩=some v∧P v=true :=
 ⟨cs[k],h.cell k (Array.getElem?_eq_getElem hk),by rw[Array.all_eq_true]at uJ;exact uJ k hk⟩
end Go.Proofs.YtgcjjhibdbafmabGreatDoor
namespace Go.Proofs.YtgcjjhibdbafmabGreatDoor
open Go.RowKit Go.Shelf
def Rb:Go.Shelf.Ren:=⟨fun | 196=>49 | 259=>77 | n=>n,
 fun | 0=>0 | 3=>3 | 4=>4 | 5=>5 | 9=>9 | 12=>12 | 46=>66 | 53=>54 | 119=>102 | 138=>104 | 139=>105 | n=>n,
 fun | 3=>0 | 4=>1 | n=>n⟩
theorem UF:Lays.n196 Tryz.prog Rb where
 mixed:=by kernel_rfl
 f196:=Tryz.func49.trans (congrArg some (by kernel_rfl))
 f259:=Tryz.func77.trans (congrArg some (by kernel_rfl))
 t0:=Tryz.underlying0
 a0:=Tryz.isAgg0
 z0:=Tryz.sizeOf0
 v0:=Tryz.zeroValue0
 t3:=Tryz.underlying3
 a3:=Tryz.isAgg3
 z3:=Tryz.sizeOf3
 v3:=Tryz.zeroValue3
 t4:=Tryz.underlying4
 a4:=Tryz.isAgg4
 z4:=Tryz.sizeOf4
 v4:=Tryz.zeroValue4
 t5:=Tryz.underlying5
 a5:=Tryz.isAgg5
 z5:=Tryz.sizeOf5
 v5:=Tryz.zeroValue5
 t9:=Tryz.underlying9
 a9:=Tryz.isAgg9
 z9:=Tryz.sizeOf9
 v9:=Tryz.zeroValue9
 t12:=Tryz.underlying12
 a12:=Tryz.isAgg12
 z12:=Tryz.sizeOf12
 v12:=Tryz.zeroValue12
 t46:=Tryz.underlying66
 a46:=Tryz.isAgg66
 z46:=Tryz.sizeOf66
 v46:=Tryz.zeroValue66
 t53:=Tryz.underlying54
 a53:=Tryz.isAgg54
 z53:=Tryz.sizeOf54
 v53:=Tryz.zeroValue54
 t119:=Tryz.underlying102
 a119:=Tryz.isAgg102
 z119:=Tryz.sizeOf102
 t138:=Tryz.underlying104
 a138:=Tryz.isAgg104
 z138:=Tryz.sizeOf104
 v138:=Tryz.zeroValue104
 t139:=Tryz.underlying105
 a139:=Tryz.isAgg105
 z139:=Tryz.sizeOf105
 v139:=Tryz.zeroValue105
 g3:=by kernel_rfl
 g4:=by kernel_rfl
theorem utf8_ValidString {H:Snap}(hT:Tabs H) (w:World) (hH:Holds w H) (s:ByteArray) (hs:s.size≤9223372036854775807) :
  Calls Tryz.prog 49 #[.string s] w fun e w'=>e=.returned (.bool (Lib.validD s.data.toList))∧Below w.heap.size w w' :=
 Any.utf8_ValidString UF s w hs (hT w hH)
end Go.Proofs.YtgcjjhibdbafmabGreatDoor
namespace Go.Proofs.YtgcjjhibdbafmabGreatDoor
open Go.RowKit
abbrev Chk (w:World) (g:Nat) (i s:Int):Prop:=Blk w g 89 #[.int .i64 i,.int .i64 s]
theorem dN {H:Snap}{x:Itm}{ba:Option Addr}{bc:Nat}{ia:Option Addr}{ic:Nat}(hx:IsItem H ba bc ia ic x) (w:World) (g:Nat) (i s:Int) (hc:Chk w g i s) (h8:x.kind=8) (hs0:0≤s) (vC:s≤1099511627776) :
  Calls Tryz.prog 88 #[.pointer (some ⟨g,0,none⟩),xj x ba bc ia ic] w fun e w'=>e=.returned (.bool (decide (s+yz x≤4096)))∧Chk w' g i (s+yz x)∧w.grownBy w' (some g):=by
 have vq:=oM x.n;have E:Hid (yz x=(zK x.n).length):=by simp[Hid,yz,h8]
 obtain⟨_,_,hn,_⟩:=hx.bounds;have HN:U64 x.n:=⟨by omega,by omega⟩
 have ye:=hc.lt;have hB:=Blk.new w 57 #[.int .i64 8,.int .u64 x.n,.slice ba x.bytes.length bc,.slice ia x.items.length ic];have hC:=hc.alloc (.cells #[.int .i64 8,.int .u64 x.n,.slice ba x.bytes.length bc,.slice ia x.items.length ic] 57);clear hx hn;go_enter Tryz.func88,Tryz.ntmps88
 go_wp2_with fail
 refine zr 11 (fun w'=>w'.cell? ⟨g,1,none⟩=some (.int .i64 s)∧w'.cell? ⟨w.heap.size,1,none⟩=some (.int .u64 x.n)) (by kernel_rfl) (⟨hC.cell 1 rfl,hB.cell 1 rfl⟩) (fun zy=>?_)
 refine Tk 0 rfl zy ?_
 refine Tk 1 rfl zy ?_
 refine Tk 2 rfl zy ?_
 refine Tk 3 rfl zy ?_
 refine Tk 4 rfl zy ?_
 refine Tk 5 rfl zy ?_
 refine To 6 rfl fun K hK=>?_
 go_simp
 refine(iu _ _ HN.1 HN.2).mono ?_
 rintro e w1 ⟨r,rfl,hf⟩
 obtain⟨A,c,rfl,_,_,_⟩:=hf.own.form;have kU:=hC.drew.below hf.2
 refine Ko hK ?_ fun zy=>?_
 ·exact⟨kU.cell 1 rfl,(hB.drew.below hf.2).cell 1 rfl⟩
 clear hK K
 refine Tk 7 rfl zy ?_
 refine Tk 8 rfl zy ?_
 refine Tk 9 rfl zy ?_
 refine Tk 10 rfl zy ?_
 refine To 11 rfl fun K hK=>?_
 have d1:=kU.cell 1 rfl;have d2:=kU.frozen 1;go_simp
 refine Kz hK ?_
 clear hK K
 refine Wd ?_
 all_goals
  have hw:Hid (IntKind.i64.wrap (s+((zK x.n).length:Int))=s+(yz x:Int)):=by rw[Hid,E.out];exact IntWalk.i64_in _ (by omega)
  have R:Chk (w1.setCell ⟨g,1,none⟩ (.int .i64 (s+(yz x:Int)))) g i (s+(yz x:Int))∧w.grownBy (w1.setCell ⟨g,1,none⟩ (.int .i64 (s+(yz x:Int)))) (some g) :=
   ⟨(hC.drew.below hf.2).set_ 1 _,uo (wP (tD (vv (yu w _) _)) hf.2) (.inl rfl) _⟩
  rw[hw.out];have e1:=R.1.cell 1 rfl;clear d1 d2;go_wp2
  go_ret
  exact⟨rfl,R⟩
theorem fQ {x:Itm}{ba:Option Addr}{bc:Nat}{ia:Option Addr}{ic:Nat}(w:World) (g:Nat) (i s:Int) (hc:Chk w g i s) (h7:x.kind=7) (hs0:0≤s) (vC:s≤1099511627776) :
  Calls Tryz.prog 88 #[.pointer (some ⟨g,0,none⟩),xj x ba bc ia ic] w fun e w'=>e=.returned (.bool (decide (s+yz x≤4096)))∧Chk w' g i (s+yz x)∧w.grownBy w' (some g):=by
 have ye:=hc.lt;have c1:=hc.cell 1 rfl;have f1:=hc.frozen 1
 by_cases te:(24:Int)≤(x.n:Int)
 ·have E:Hid ((yz x:Int)=2):=by
   have:24≤x.n:=by omega
   simp[Hid,yz,h7,this]
  have d1:=(hc.set_ 1 (.int .i64 (s+1))).cell 1 rfl;have g1:=(hc.set_ 1 (.int .i64 (s+1))).frozen 1;go_enter Tryz.func88,Tryz.ntmps88
  go_wp2
  go_ret
  have e:s+1+1=s+(yz x:Int):=by rw[E.out];omega
  rw[← e]
  exact⟨rfl,((hc.set_ 1 _).set_ 1 _).alloc _,vv (uo (uo (yu w _) (.inl rfl) _) (.inl rfl) _) _⟩
 have E:Hid ((yz x:Int)=1):=by
  have:¬ 24≤x.n:=by omega
  simp[Hid,yz,h7,this]
 have d1:=(hc.set_ 1 (.int .i64 (s+1))).cell 1 rfl;go_enter Tryz.func88,Tryz.ntmps88
 go_wp2
 go_ret
 have e:s+1=s+(yz x:Int):=by rw[E.out]
 rw[← e]
 exact⟨rfl,(hc.set_ 1 _).alloc _,vv (uo (yu w _) (.inl rfl) _) _⟩
theorem bA {H:Snap}{x:Itm}{ba:Option Addr}{bc:Nat}{ia:Option Addr}{ic:Nat}(hx:IsItem H ba bc ia ic x) (w:World) (g:Nat) (i s:Int) (hc:Chk w g i s) (h0:0≤x.kind) (h7:x.kind<7) (hs0:0≤s) (vC:s≤1099511627776) (nT:x.bytes.length≤1099511627776) :
  Calls Tryz.prog 88 #[.pointer (some ⟨g,0,none⟩),xj x ba bc ia ic] w fun e w'=>e=.returned (.bool (decide (s+yz x≤4096)))∧Chk w' g i (s+yz x)∧w.grownBy w' (some g):=by
 have ye:=hc.lt
 have Q0:(numP x:Int)<18446744073709551616:=by
  have:=hx.bounds
  unfold numP
  repeat' split
  all_goals omega
 have HN:U64 (numP x):=⟨by omega,Q0⟩
 have G4:=so x.kind.toNat (numP x);have E:Hid (yz x=(zh x.kind.toNat (numP x)).length+x.bytes.length):=by rw[Hid,yz,if_neg (by omega),if_neg (by omega)]
 have b7:(x.kind==7)=false:=by simp;omega
 have b8:(x.kind==8)=false:=by simp;omega
 have hB:=Blk.new w 57 #[.int .i64 x.kind,.int .u64 x.n,.slice ba x.bytes.length bc,.slice ia x.items.length ic];have hC:=hc.alloc (.cells #[.int .i64 x.kind,.int .u64 x.n,.slice ba x.bytes.length bc,.slice ia x.items.length ic] 57);clear Q0;go_enter Tryz.func88,Tryz.ntmps88
 go_wp2_with fail
 refine zr 17 (fun w'=>w'.cell? ⟨g,1,none⟩=some (.int .i64 s)∧w'.cell? ⟨w.heap.size,0,none⟩=some (.int .i64 x.kind)∧w'.cell? ⟨w.heap.size,1,none⟩=some (.int .u64 x.n)∧w'.cell? ⟨w.heap.size,2,none⟩=some (.slice ba x.bytes.length bc)∧w'.cell? ⟨w.heap.size,3,none⟩=some (.slice ia x.items.length ic)) (by kernel_rfl) (⟨hC.cell 1 rfl,hB.cell 0 rfl,hB.cell 1 rfl,hB.cell 2 rfl,hB.cell 3 rfl⟩) (fun zy=>?_)
 refine Tk 0 rfl zy ?_
 refine Tk 1 rfl zy ?_
 refine Tk 2 rfl zy ?_
 refine Tk 3 rfl zy ?_
 refine Tk 4 rfl zy ?_
 refine Tk 10 rfl zy ?_
 refine Tk 11 rfl zy ?_
 refine Tk 12 rfl zy ?_
 refine To 5 rfl fun K hK=>?_
 go_simp
 refine(iw hx.arg _ (by omega) (by omega)).mono ?_
 rintro e w1 ⟨rfl,hm⟩
 have ws:=hB.drew.below hm;have kU:=hC.drew.below hm
 refine Ko hK ?_ fun zy=>?_
 ·exact⟨kU.cell 1 rfl,ws.cell 0 rfl,ws.cell 1 rfl,ws.cell 2 rfl,ws.cell 3 rfl⟩
 clear hK K
 refine Tk 6 rfl zy ?_
 refine Tk 7 rfl zy ?_
 refine To 8 rfl fun K hK=>?_
 go_simp
 refine(sG _ _ _ (by omega) (by omega) (by omega) HN.2).mono ?_
 rintro e w2 ⟨r,rfl,hf⟩
 obtain⟨A,c,rfl,_,_,_⟩:=hf.own.form;have yU:=ws.below hf.2;have iW:=kU.below hf.2
 refine Ko hK ?_ fun zy=>?_
 ·exact⟨iW.cell 1 rfl,yU.cell 0 rfl,yU.cell 1 rfl,yU.cell 2 rfl,yU.cell 3 rfl⟩
 clear hK K
 refine Tk 9 rfl zy ?_
 refine Tk 13 rfl zy ?_
 refine Tk 14 rfl zy ?_
 refine Tk 15 rfl zy ?_
 refine Tk 16 rfl zy ?_
 refine To 17 rfl fun K hK=>?_
 have d1:=iW.cell 1 rfl;have d2:=iW.frozen 1;go_simp
 refine Kz hK ?_
 clear hK K
 refine Wd ?_
 have hw:Hid (IntKind.i64.wrap (s+IntKind.i64.wrap (((zh x.kind.toNat (numP x)).length:Int)+(x.bytes.length:Int)))=s+(yz x:Int)):=by
  rw[Hid,E.out,IntWalk.i64_in (((zh x.kind.toNat (numP x)).length:Int)+(x.bytes.length:Int)) (by omega),IntWalk.i64_in _ (by omega)]
  omega
 have R:Chk (w2.setCell ⟨g,1,none⟩ (.int .i64 (s+(yz x:Int)))) g i (s+(yz x:Int))∧w.grownBy (w2.setCell ⟨g,1,none⟩ (.int .i64 (s+(yz x:Int)))) (some g) :=
  ⟨iW.set_ 1 _,uo (wP (wP (tD (vv (yu w _) _)) hm) hf.2) (.inl rfl) _⟩
 rw[Int.toNat_natCast]at *;rw[hw.out];have e1:=R.1.cell 1 rfl;clear d1 d2;go_wp2
 go_ret
 exact⟨rfl,R⟩
theorem iz {H:Snap}{k n:Int}{ba:Option Addr}{bl bc:Nat}{ia:Option Addr}{il ic:Nat}{x:Itm}(hx:ItemA H k n ba bl bc ia il ic x) (w:World) (g:Nat) (i s:Int) (hc:Chk w g i s)
  (h0:0≤x.kind) (h8:x.kind≤8) (hs0:0≤s) (vC:s≤1099511627776) (nT:x.bytes.length≤1099511627776) :
  Calls Tryz.prog 88 #[.pointer (some ⟨g,0,none⟩),.agg #[.int .i64 k,.int .u64 n,.slice ba bl bc,.slice ia il ic]] w
   fun e w'=>e=.returned (.bool (decide (s+yz x≤4096)))∧Chk w' g i (s+yz x)∧w.grownBy w' (some g):=by
 obtain⟨rfl,rfl,rfl,rfl,hx⟩:=hx
 by_cases h:x.kind=8
 ·exact dN hx w g i s hc h hs0 vC
 by_cases h7:x.kind=7
 ·exact fQ w g i s hc h7 hs0 vC
 exact bA hx w g i s hc h0 (by omega) hs0 vC nT
theorem Dealt.gb {w w' w'':World}{H H':Snap}{g k:Nat}(h:Dealt w H w' H' g) (h0:H' k=none) (hw:w.heap.size≤k) (ye:g<w.heap.size) (hg:w'.grownBy w'' (some k)):Dealt w H w'' H' g:=h.grownRow (row:=some k) (by rintro q ⟨⟩;exact h0) (by rintro q ⟨⟩;exact hw) ye hg
theorem OwnX.kl {α:Type}{L:Lie α}{t:TypeId}{w w':World}{base N:Nat}{v:Value}{H:Snap}{l:List α}(h:OwnX L t w base v H l) (hg:w.grownBy w' (some N)) (hl:∀ q,v.ownBlock=some q→q<N):OwnX L t w' base v H l:=h.kept hg (by cases hv:v.ownBlock with | none=>exact .inl rfl | some q=>exact .inr (fun e=>by injection e with e;exact Nat.lt_irrefl _ (e ▸ hl q hv)))
end Go.Proofs.YtgcjjhibdbafmabGreatDoor
