/- squeezed. Heads of data items as lists of by -/
import Derived.Test.YtliomcphdnppnaaGreatDoorK00
import Derived.Lib.ValidU
import Derived.Lib.Bytealg
import Derived.Shelf.Unicode.DecodeSlow
import Derived.Laws.BytesArg
import Derived.Laws.Externs
import Derived.Laws.IdiomStrings
import Derived.Deep.DeepCutAuto
set_option linter.unusedVariables false
set_option linter.unusedSimpArgs false
set_option maxRecDepth 100000
set_option maxHeartbeats 1600000
namespace Go.Proofs.YtliomcphdnppnaaGreatDoor
open Go.RowKit
def u8 (n:Nat):UInt8:=UInt8.ofNat n
theorem se (n:Nat):(u8 n).toNat=n%256:=by simp[u8]
theorem xZ (n:Nat):zv (u8 n)=.int .u8 ((n%256:Nat):Int):=by simp[zv,se]
theorem We (x:Int) (n:Nat) (h:x=((n%256:Nat):Int)):Value.int .u8 x=zv (u8 n):=by rw[xZ,h]
def be8 (n:Nat):Nat→List UInt8
 | 0=>[]
 | k+1=>be8 n k++[u8 (n/2 ^ (56-8*k))]
theorem uZ (n k:Nat):(be8 n k).length=k:=by induction k <;> simp[be8, *]
def yE (m n:Nat):List UInt8 :=
 if n<24 then [u8 (m*32+n)]
 else if n<256 then [u8 (m*32+24),u8 n]
 else if n<65536 then [u8 (m*32+25),u8 (n/256),u8 n]
 else if n<4294967296 then [u8 (m*32+26),u8 (n/16777216),u8 (n/65536),u8 (n/256),u8 n]
 else u8 (m*32+27)::be8 n 8
theorem uz (m n:Nat):(yE m n).length=if n<24 then 1 else if n<256 then 2 else if n<65536 then 3 else if n<4294967296 then 5 else 9:=by
 unfold yE
 repeat' split
 all_goals simp[uZ]
theorem um (m n:Nat):1≤(yE m n).length∧(yE m n).length≤9:=by
 rw[uz]
 repeat' split
 all_goals omega
theorem fE (a:Nat) (ha:a<256):(BitVec.ofInt 8 (a:Int)).toNat=a:=by
 rw[BitVec.ofInt_natCast,BitVec.toNat_ofNat];exact Nat.mod_eq_of_lt (by omega)
theorem Zs (a b:Nat) (ha:a<256) (hb:b<256):bits .or .u8 (a:Int) (b:Int)=((a ||| b:Nat):Int):=by
 have hx:a ||| b<2 ^ 8:=Nat.or_lt_two_pow (by omega) (by omega);show IntKind.u8.wrap ((BitVec.ofInt 8 (a:Int) ||| BitVec.ofInt 8 (b:Int)).toNat:Int)=_
 rw[BitVec.toNat_or,fE a ha,fE b hb,IntKind.wrap_u8]
 omega
theorem UK (m n:Nat) (hn:n<32):m*32 ||| n=m*32+n:=by
 have h:=Nat.two_pow_add_eq_or_of_lt (i:=5) (b:=n) (by omega) m;rw[show 2 ^ 5*m=m*32 by omega]at h
 exact h.symm
theorem oE (m n:Nat) (hm:m<8) (hn:n<32):bits .or .u8 ((m:Int)*32) (n:Int)=((m*32+n:Nat):Int):=by
 have h:=Zs (m*32) n (by omega) (by omega);rw[UK m n hn]at h
 simpa using h
def isNaN (n:Nat):Bool:=n/2 ^ 52%2048==2047&&n%2 ^ 52 != 0
def xL (n eb mb:Nat):Option Nat :=
 let sign:=n/2 ^ 63*2 ^ (eb+mb)
 let e:=n/2 ^ 52%2048
 let m:=n%2 ^ 52
 let top:=2 ^ eb-1
 let bias:=2 ^ (eb-1)-1
 if e=2047 then(if m=0 then some (sign+top*2 ^ mb) else none)
 else if e=0 then(if m=0 then some sign else none)
 else if 1023+top≤e+bias then none
 else if 1023<e+bias then(if m%2 ^ (52-mb)=0 then some (sign+(e+bias-1023)*2 ^ mb+m/2 ^ (52-mb)) else none)
 else
  let shift:=53-mb+(1023-e-bias)
  if 52<shift then none else if(m+2 ^ 52)%2 ^ shift=0 then some (sign+(m+2 ^ 52)/2 ^ shift) else none
def yI (n:Nat):List UInt8 :=
 if isNaN n then [u8 249,u8 126,u8 0] else
 match xL n 5 10 with
 | some v=>[u8 249,u8 (v/256),u8 v]
 | none=>match xL n 8 23 with
  | some v=>[u8 250,u8 (v/16777216),u8 (v/65536),u8 (v/256),u8 v]
  | none=>u8 251::be8 n 8
theorem ru (n:Nat):(yI n).length=3∨(yI n).length=5∨(yI n).length=9:=by
 unfold yI
 repeat' split
 all_goals simp[uZ]
def xi (x:Itm):Nat :=
 if x.kind=2∨x.kind=3 then x.bytes.length else if x.kind=4 then x.items.length else if x.kind=5 then x.items.length/2 else x.n
mutual
def zh:Itm→List UInt8
 | .mk k n bs l =>
 if k=8 then yI n
 else if k=7∧24≤n then [u8 248,u8 n]
 else yE k.toNat (xi (.mk k n bs l))++bs++zM l
def zM:List Itm→List UInt8
 | []=>[]
 | x::l=>zh x++zM l
end
theorem uR (l m:List Itm):zM (l++m)=zM l++zM m:=by
 induction l with
 | nil=>rw[List.nil_append,zM,List.nil_append]
 | cons x l ih=>rw[List.cons_append,zM,zM,ih,List.append_assoc]
theorem vI (l:List Itm) (k:Nat) (h:k<l.length):zM (l.take (k+1))=zM (l.take k)++zh l[k]:=by
 rw[List.take_succ_eq_append_getElem h,uR,zM,zM,List.append_nil]
theorem xD (x:Itm):zh x=if x.kind=8 then yI x.n else if x.kind=7∧24≤x.n then [u8 248,u8 x.n] else yE x.kind.toNat (xi x)++x.bytes++zM x.items:=by
 cases x
 rw[zh];rfl
theorem qi (l:List Itm) (k:Nat):(zM (l.take k)).length≤(zM l).length:=by
 have h:=uR (l.take k) (l.drop k);rw[List.take_append_drop]at h;rw[h]
 simp
mutual
def Kinds:Itm→Prop
 | .mk k _ _ l=>(0≤k∧k≤8)∧KindsL l
def KindsL:List Itm→Prop
 | []=>True
 | x::l=>Kinds x∧KindsL l
end
theorem Kinds.kind {x:Itm}(h:Kinds x):0≤x.kind∧x.kind≤8:=by cases x;rw[Kinds]at h;exact h.1
theorem Kinds.items {x:Itm}(h:Kinds x):KindsL x.items:=by cases x;rw[Kinds]at h;exact h.2
theorem KindsL.get:∀ {l:List Itm},KindsL l→∀ (k:Nat) (hk:k<l.length),Kinds l[k]
 | [],_,k,hk=>by simp at hk
 | x::l,h,0,_=>by rw[KindsL]at h;exact h.1
 | x::l,h,k+1,hk=>by rw[KindsL]at h;exact h.2.get k (by simpa using hk)
mutual
def cnt:Itm→Nat
 | .mk _ _ _ l=>yQ l+1
def yQ:List Itm→Nat
 | []=>0
 | x::l=>cnt x+yQ l
end
theorem eo:∀ (l:List Itm) (k:Nat) (hk:k<l.length),cnt l[k]≤yQ l
 | [],k,hk=>by simp at hk
 | x::l,0,_=>by rw[yQ];simp
 | x::l,k+1,hk=>by
  have:=eo l k (by simpa using hk);rw[yQ]
  simp only[List.getElem_cons_succ]
  omega
theorem vx (x:Itm) (k:Nat) (hk:k<x.items.length):cnt x.items[k]<cnt x:=by
 cases x with
 | mk a b c l =>
 have:=eo l k hk;rw[cnt]
 simp only[Itm.items]
 omega
def vB:Nat:=9221120237041090560
def yh (x:Itm):Bool:=x.kind==0||x.kind==1||x.kind==2||x.kind==3||x.kind==7||x.kind==8
def yv (x:Itm):Bool :=
 if x.kind=0∨x.kind=1 then x.bytes.isEmpty&&x.items.isEmpty
 else if x.kind=2 then x.n==0&&x.items.isEmpty
 else if x.kind=3 then x.n==0&&x.items.isEmpty&&Lib.validD x.bytes
 else if x.kind=7 then x.bytes.isEmpty&&x.items.isEmpty&&(decide (x.n<24)||decide (32≤x.n)&&decide (x.n<256))
 else if x.kind=8 then x.bytes.isEmpty&&x.items.isEmpty&&(!isNaN x.n||x.n==vB)
 else false
def zI (x:Itm):Nat :=
 if x.kind=8 then(yI x.n).length else if x.kind=7 then(if 24≤x.n then 2 else 1) else(yE x.kind.toNat (xi x)).length+x.bytes.length
def xY:List Itm→Bool
 | a::b::c::l=>decide (Lib.compareBytes (zh a) (zh c)<0)&&xY (c::l)
 | _=>true
theorem mz (l:List Itm) (j:Nat) (h2:2≤j) (h:j<l.length) :
  xY (l.drop (j-2))=(decide (Lib.compareBytes (zh (l[j-2]'(by omega))) (zh l[j])<0)&&xY (l.drop j)):=by
 have e1:l.drop (j-2)=l[j-2]'(by omega)::l.drop (j-1):=by
  rw[List.drop_eq_getElem_cons (by omega)];rw[show j-2+1=j-1 by omega]
 have e2:l.drop (j-1)=l[j-1]'(by omega)::l.drop j:=by
  rw[List.drop_eq_getElem_cons (by omega)];rw[show j-1+1=j by omega]
 have e3:l.drop j=l[j]::l.drop (j+1):=List.drop_eq_getElem_cons h;rw[e1,e2,e3,xY]
theorem eg (l:List Itm) (j:Nat) (h2:2≤j) (h:l.length≤j):xY (l.drop (j-2))=true:=by
 have hl:(l.drop (j-2)).length≤2:=by rw[List.length_drop];omega
 match l.drop (j-2),hl with
 | [],_=>rfl
 | [_],_=>rfl
 | [_,_],_=>rfl
 | _::_::_::_,h=>simp at h
def vk (x:Itm) (lv:Nat):Bool :=
 decide (4≤x.kind∧x.kind≤6∧lv<8∧x.bytes.length=0∧(x.kind=6→x.items.length=1)∧(x.kind≠6→x.n=0)∧(x.kind=5→x.items.length%2=0))
mutual
def chk:Itm→Nat→Nat→Nat→Option (Nat×Nat)
 | .mk k n bs l,lv,i,s =>
 if 256<i+1∨4096<bs.length∨256<l.length then none
 else if yh (.mk k n bs l)=true then(if yv (.mk k n bs l)=true∧s+zI (.mk k n bs l)≤4096 then some (i+1,s+zI (.mk k n bs l)) else none)
 else if vk (.mk k n bs l) lv=false then none
 else if 4096<s+zI (.mk k n bs l) then none
 else match sq l (lv+1) (i+1) (s+zI (.mk k n bs l)) with
  | none=>none
  | some p=>if k=5∧xY l=false then none else some p
def sq:List Itm→Nat→Nat→Nat→Option (Nat×Nat)
 | [],_,i,s=>some (i,s)
 | x::l,lv,i,s=>match chk x lv i s with
  | none=>none
  | some p=>sq l lv p.1 p.2
end
theorem nO (x:Itm) (lv i s:Nat):chk x lv i s =
  if 256<i+1∨4096<x.bytes.length∨256<x.items.length then none
  else if yh x=true then(if yv x=true∧s+zI x≤4096 then some (i+1,s+zI x) else none)
  else if vk x lv=false then none
  else if 4096<s+zI x then none
  else match sq x.items (lv+1) (i+1) (s+zI x) with
   | none=>none
   | some p=>if x.kind=5∧xY x.items=false then none else some p:=by
 cases x
 rw[chk];rfl
theorem zL (x:Itm):yh x=true↔x.kind=0∨x.kind=1∨x.kind=2∨x.kind=3∨x.kind=7∨x.kind=8:=by
 simp[yh]
 omega
theorem iZ (x:Itm) (h:x.items=[]) (h8:x.kind=8∨x.kind=7→x.bytes=[]):zI x=(zh x).length:=by
 rw[xD,zI]
 by_cases h1:x.kind=8
 ·rw[if_pos h1,if_pos h1]
 rw[if_neg h1,if_neg h1]
 by_cases h2:x.kind=7
 ·rw[if_pos h2]
  by_cases h3:24≤x.n
  ·rw[if_pos h3,if_pos ⟨h2,h3⟩];rfl
  have hn:xi x=x.n:=by simp[xi,h2]
  rw[if_neg h3,if_neg (by omega),h8 (.inr h2),h,zM,hn,yE,if_pos (by omega)];rfl
 rw[if_neg h2,if_neg (by omega),h,zM]
 simp
theorem nL (x:Itm) (h8:x.kind≠8) (h7:x.kind≠7):zI x=(yE x.kind.toNat (xi x)).length+x.bytes.length:=by
 rw[zI,if_neg h8,if_neg h7]
theorem xk {x:Itm}{lv:Nat}(h:vk x lv=true):4≤x.kind∧x.kind≤6∧lv<8∧x.bytes.length=0∧(x.kind=6→x.items.length=1)∧(x.kind≠6→x.n=0)∧(x.kind=5→x.items.length%2=0) :=
 of_decide_eq_true h
theorem xP {x:Itm}(hp:yh x=true) (ho:yv x=true):x.items=[]∧(x.kind=8∨x.kind=7→x.bytes=[]):=by
 rw[zL]at hp
 unfold yv at ho
 rcases hp with h | h | h | h | h | h <;> simp[h]at ho⊢ <;> simp[ho]
theorem KindsL.of:∀ {l:List Itm},(∀ x∈l,Kinds x)→KindsL l
 | [],_=>by rw[KindsL];trivial
 | x::l,h=>by
  rw[KindsL]
  exact⟨h x (by simp),KindsL.of fun y hy=>h y (by simp[hy])⟩
mutual
theorem ko:∀ (x:Itm) (lv i s:Nat) (p:Nat×Nat),chk x lv i s=some p→Kinds x∧p=(i+cnt x,s+(zh x).length)∧p.1≤256∧p.2≤4096
 | .mk k n bs l,lv,i,s,p,h=>by
  rw[chk]at h
  split at h
  ·cases h
  rename_i h0
  split at h
  ·rename_i hp
   split at h
   ·rename_i ho
    obtain⟨hi,hb⟩:=xP hp ho.1;have hk:=(zL _).1 hp;have hs:=iZ (.mk k n bs l) hi hb
    simp only[Itm.items,Itm.kind]at hi hk
    subst hi;injection h with h
    subst h;rw[← hs]
    refine⟨?_, ?_, ?_, ?_⟩
    ·rw[Kinds,KindsL];exact⟨by omega,trivial⟩
    ·rw[cnt,yQ]
    ·simp only;omega
    exact ho.2
   cases h
  rename_i hp
  split at h
  ·cases h
  rename_i hf
  split at h
  ·cases h
  rename_i h4
  have Sk:=xk (by simpa using hf)
  simp only[Itm.kind,Itm.bytes,Itm.items,List.length_eq_zero_iff]at Sk
  split at h
  ·cases h
  rename_i q hq
  split at h
  ·cases h
  injection h with h
  subst h;obtain⟨hk,i7,h1,h2⟩:=nA l _ _ _ _ hq (by omega) (by omega);have ni:=nL (.mk k n bs l) (by simp only[Itm.kind];omega) (by simp only[Itm.kind];omega)
  simp only[Itm.kind,Itm.bytes]at ni
  rw[Sk.2.2.2.1]at ni
  refine⟨by rw[Kinds];exact⟨by omega,hk⟩, ?_,h1,h2⟩
  rw[i7,cnt,zh,if_neg (by omega),if_neg (by omega),Sk.2.2.2.1,ni]
  simp only[List.length_append,List.length_nil,Prod.mk.injEq]
  omega
theorem nA:∀ (l:List Itm) (lv i s:Nat) (p:Nat×Nat),sq l lv i s=some p→i≤256→s≤4096→KindsL l∧p=(i+yQ l,s+(zM l).length)∧p.1≤256∧p.2≤4096
 | [],lv,i,s,p,h,hi,hs=>by
  rw[sq]at h;injection h with h
  subst h;rw[KindsL,yQ,zM]
  exact⟨trivial,rfl,hi,hs⟩
 | x::l,lv,i,s,p,h,hi,hs=>by
  rw[sq]at h
  split at h
  ·cases h
  rename_i q hq
  obtain⟨hk,i7,h1,h2⟩:=ko x _ _ _ _ hq;obtain⟨rO,hp,h3,h4⟩:=nA l _ _ _ _ h h1 h2
  refine⟨by rw[KindsL];exact⟨hk,rO⟩, ?_,h3,h4⟩
  rw[hp,i7,yQ,zM]
  simp
  omega
end
def zX (x:Itm):Bool:=(chk x 0 0 0).isSome
theorem vK {x:Itm}(h:zX x=true):Kinds x∧cnt x≤256∧(zh x).length≤4096:=by
 obtain⟨p,hp⟩:=Option.isSome_iff_exists.1 h;obtain⟨hk,he,h1,h2⟩:=ko _ _ _ _ _ hp;subst he
 simp only at h1 h2
 exact⟨hk,by omega,by omega⟩
mutual
def Modest:Itm→Prop
 | .mk _ _ bs l=>bs.length≤1099511627776∧l.length≤1099511627776∧ModestL l
def ModestL:List Itm→Prop
 | []=>True
 | x::l=>Modest x∧ModestL l
end
theorem Modest.parts {x:Itm}(h:Modest x):x.bytes.length≤1099511627776∧x.items.length≤1099511627776∧ModestL x.items:=by cases x;rw[Modest]at h;exact h
theorem ModestL.get:∀ {l:List Itm},ModestL l→∀ (k:Nat) (hk:k<l.length),Modest l[k]
 | [],_,k,hk=>by simp at hk
 | x::l,h,0,hk=>by rw[ModestL]at h;exact h.1
 | x::l,h,k+1,hk=>by rw[ModestL]at h;exact h.2.get k (by simpa using hk)
theorem ModestL.of:∀ {l:List Itm},(∀ x∈l,Modest x)→ModestL l
 | [],_=>by rw[ModestL];trivial
 | x::l,h=>by rw[ModestL];exact⟨h x (by simp),ModestL.of fun y hy=>h y (by simp[hy])⟩
def oq (key:List UInt8):List Itm→Option Itm
 | a::b::r=>if zh a=key then some b else oq key r
 | _=>none
def yt (m key:Itm):Option Itm:=if m.kind=5∧zX m=true∧zX key=true then oq (zh key) m.items else none
abbrev zm:Itm:=.mk 0 0 [] []
theorem tS {x:Itm}(h:zX x=true) (h5:x.kind=5):x.items.length%2=0:=by
 obtain⟨p,hp⟩:=Option.isSome_iff_exists.1 h;rw[nO]at hp
 split at hp
 ·cases hp
 split at hp
 ·rename_i h1
  rw[zL]at h1
  omega
 split at hp
 ·cases hp
 rename_i h1
 exact(xk (by simpa using h1)).2.2.2.2.2.2 h5
theorem wR {x:Itm}(h:zX x=true):x.bytes.length≤4096∧x.items.length≤256∧KindsL x.items∧(zM x.items).length≤4096:=by
 obtain⟨hk,hc,he⟩:=vK h;obtain⟨p,hp⟩:=Option.isSome_iff_exists.1 h;rw[nO]at hp
 split at hp
 ·cases hp
 rename_i h0
 refine⟨by omega,by omega,hk.items, ?_⟩
 split at hp
 ·rename_i h1
  split at hp
  ·rename_i h2
   rw[(xP h1 h2.1).1]
   simp[zM]
  cases hp
 split at hp
 ·cases hp
 rename_i h1
 have:=xk (by simpa using h1);rw[xD,if_neg (by omega),if_neg (by omega)]at he
 simp only[List.length_append]at he
 omega
theorem Wo (l:List Itm) (k:Nat) (hk:k<l.length):(zh l[k]).length≤(zM l).length:=by
 have a1:=vI l k hk;have a2:=qi l (k+1);rw[a1]at a2
 simp only[List.length_append]at a2
 omega
mutual
theorem jy:∀ (x:Itm) (lv i s:Nat) (p:Nat×Nat),chk x lv i s=some p→Modest x
 | .mk k n bs l,lv,i,s,p,h=>by
  rw[chk]at h
  split at h
  ·cases h
  rename_i h0
  rw[Modest]
  refine⟨by omega,by omega, ?_⟩
  split at h
  ·rename_i h1
   split at h
   ·rename_i h2
    rw[show l=[] from(xP h1 h2.1).1,ModestL];trivial
   cases h
  split at h
  ·cases h
  split at h
  ·cases h
  split at h
  ·cases h
  rename_i q hq
  exact mT l _ _ _ _ hq
theorem mT:∀ (l:List Itm) (lv i s:Nat) (p:Nat×Nat),sq l lv i s=some p→ModestL l
 | [],_,_,_,_,_=>by rw[ModestL];trivial
 | x::l,lv,i,s,p,h=>by
  rw[sq]at h
  split at h
  ·cases h
  rename_i q hq
  rw[ModestL]
  exact⟨jy x _ _ _ _ hq,mT l _ _ _ _ h⟩
end
theorem zE {x:Itm}(h:zX x=true):Modest x:=by
 obtain⟨p,hp⟩:=Option.isSome_iff_exists.1 h
 exact jy _ _ _ _ _ hp
theorem bm (key:List UInt8) (l:List Itm) (k:Nat) (hk:k+1<l.length):oq key (l.drop k)=if zh l[k]=key then some l[k+1] else oq key (l.drop (k+2)):=by
 rw[List.drop_eq_getElem_cons (show k<l.length by omega),List.drop_eq_getElem_cons hk,oq]
def zg (n:Int):Itm:=if n<0 then .mk 1 (-1-n).toNat [] [] else .mk 0 n.toNat [] []
def wh (x:Itm):Bool:=(x.kind==0||x.kind==1)&&decide (x.n≤65535)
def vr (a b:Itm):Bool :=
 if a.kind=3 then true else if wh a=false then false else if a.kind=1 then true
 else if a.n=1 then wh b&&(b.kind==1||b.n != 0) else if a.n=4∨a.n=5∨a.n=6∨a.n=12 then b.kind==2 else true
structure Ad where
 ba:Option Addr
 bc:Nat
 ia:Option Addr
 ic:Nat
abbrev zY (p:Itm) (a:Ad) (u:Itm) (b:Ad):Array Value :=
 #[.int .i64 p.kind,.int .u64 p.n,.slice a.ba p.bytes.length a.bc,.slice a.ia p.items.length a.ic,.int .i64 u.kind,.int .u64 u.n,.slice b.ba u.bytes.length b.bc,.slice b.ia u.items.length b.ic]
def vO (p u:Itm) (n:Int):Option Itm:=match yt p (zg n) with
 | some x=>some x
 | none=>yt u (zg n)
def sp:List Itm→Bool
 | a::b::r=>vr a b&&sp r
 | _=>true
def tw (m:Itm):Bool:=m.kind==5&&zX m&&sp m.items
def xA (u:Itm):List Itm→Bool
 | a::_::r=>(yt u a).isNone&&xA u r
 | _=>true
def oF (p:Itm):Bool:=match yt p (zg 2) with
 | none=>true
 | some c=>(c.items.all fun x=>(yt p x).isSome)&&c.kind==4&&decide (0<c.items.length)
def zV (p u:Itm):Bool:=tw p&&tw u&&xA u p.items && !((yt u (zg 2)).isSome||((vO p u 5).isSome&&(vO p u 6).isSome))&&oF p
theorem cO (l:List Itm) (k:Nat) (hk:k+1<l.length):sp (l.drop k)=(vr l[k] l[k+1]&&sp (l.drop (k+2))):=by
 rw[List.drop_eq_getElem_cons (show k<l.length by omega),List.drop_eq_getElem_cons hk,sp]
theorem jB (u:Itm) (l:List Itm) (k:Nat) (hk:k+1<l.length):xA u (l.drop k)=((yt u l[k]).isNone&&xA u (l.drop (k+2))):=by
 rw[List.drop_eq_getElem_cons (show k<l.length by omega),List.drop_eq_getElem_cons hk,xA]
def wg (p:Itm):List UInt8:=if p.items.length=0 then [] else zh p
theorem yZ {p u:Itm}(h:zV p u=true):zX p=true∧zX u=true∧p.kind=5∧u.kind=5:=by
 simp[zV,tw]at h
 exact⟨h.1.1.1.1.1.2,h.1.1.1.2.1.2,h.1.1.1.1.1.1,h.1.1.1.2.1.1⟩
def Tabs (H:Snap):Prop:=∀ w,Holds w H→Lib.Utf8Tabs 0 1 w
theorem Tabs.mono {H K:Snap}(h:Tabs H) (hl:H.le K):Tabs K:=fun w hw=>h w (hw.mono hl)
theorem bW (l:List UInt8) (i:Nat):(l.map fun u=>(u.toNat:Int)).getD i 0=((l.getD i 0).toNat:Int):=by
 simp[List.getD]
 cases h:l[i]? <;> simp
theorem mE (l:List UInt8):strOfNums (l.map fun u=>(u.toNat:Int))=⟨l.toArray⟩:=by
 have h:(fun n:Int=>UInt8.ofNat n.toNat) ∘ (fun u:UInt8=>(u.toNat:Int))=id:=by funext u;simp
 unfold strOfNums
 simp[h]
theorem xV {w:World}{A:Option Addr}{l:List UInt8}(h:Src w A (l.map zv)) (n c:Nat) (hn:n=l.length) :
  (convert 23 9 (.slice A n c)).run Tryz.prog w=.ok (.string ⟨l.toArray⟩) w:=by
 subst hn
 by_cases hl:l=[]
 ·subst hl
  cases A with
  | none=>exact run_convert_bytes_nil w _ 5 Tryz.underlying23 Tryz.underlying5 _ _ _ Tryz.underlying9
  | some a =>
  obtain⟨b,off,spot⟩:=a;rw[run_convert_bytes_string w _ _ 5 _ _ c Tryz.underlying23 Tryz.underlying5 Tryz.underlying9];rfl
 obtain⟨b,off,rfl,hc⟩:=h (by simpa using hl)
 have:=run_convert_bytes_arg (P:=Tryz.prog) w 23 5 Tryz.underlying23 Tryz.underlying5 b off l.length c (l.map fun u=>(u.toNat:Int)) (by simp)
  (fun i hi=>by rw[bW,hc i (zv l[i]) (by simp[hi])];simp[List.getD,hi]) _ Tryz.underlying9
 rw[this,mE]
theorem pa (w:World) (A B:Option Addr) (a b:List UInt8) (n m c d:Nat) (hn:n=a.length) (hm:m=b.length) (ha:Src w A (a.map zv)) (hb:Src w B (b.map zv)) :
  Calls Tryz.prog 61 #[.slice A n c,.slice B m d] w fun e w'=>e=.returned (.bool (a==b))∧w=w':=by
 have h1:=xV ha n c hn;have h2:=xV hb m d hm;clear hn hm ha hb;go_enter Tryz.func61,Tryz.ntmps61
 go_wp2
 go_ret
 exact⟨rfl,rfl⟩
theorem ol {P:Program}{w:World}(b:Nat):∀ (l:List UInt8) (off:Nat) (acc:ByteArray),(∀ j v,(l.map zv)[j]? = some v→w.cell? ⟨b,off+j,none⟩=some v)→
  (Extern.Bytes.loadBytes ⟨b,off,none⟩ l.length acc).run P w=.ok ⟨acc.data++l.toArray⟩ w
 | [],off,acc,_=>by simp[Extern.Bytes.loadBytes]
 | u::l,off,acc,h=>by
  have h0:=h 0 (zv u) rfl;have ih:=ol (P:=P) b l (off+1) (acc.push u) (fun j v hj=>by rw[show off+1+j=off+(j+1) by omega];exact h (j+1) v (by simpa using hj))
  simp only[List.length_cons,Extern.Bytes.loadBytes]
  simp[load,Sem.run,Result.andThen,zv]at h0⊢
  simp[h0,pj,ByteArray.push]
  rw[show(⟨acc.data.push u⟩:ByteArray)=acc.push u from rfl,ih];congr 2
  simp[ByteArray.push]
theorem mi {P:Program}{w:World}{A:Option Addr}{l:List UInt8}(h:Src w A (l.map zv)) (n c:Nat) (hn:n=l.length) :
  (Extern.Bytes.bytesOf (.slice A n c)).run P w=.ok ⟨l.toArray⟩ w:=by
 subst hn
 by_cases hl:l=[]
 ·subst hl
  cases A with
  | none=>rfl
  | some a=>rfl
 obtain⟨b,off,rfl,hc⟩:=h (by simpa using hl);have:=ol (P:=P) b l off .empty hc
 simp only[Extern.Bytes.bytesOf]
 rw[this]
 simp[ByteArray.empty,ByteArray.emptyWithCapacity]
 rfl
theorem eQ {P:Program}{w:World}{A B:Option Addr}{a b:List UInt8}(ha:Src w A (a.map zv)) (hb:Src w B (b.map zv)) (n m c d:Nat) (hn:n=a.length) (hm:m=b.length) :
  (Extern.BytealgCompare.compare #[.slice A n c,.slice B m d]).run P w=.ok (.int .i64 (Lib.compareBytes a b)) w:=by
 change Sem.run P (do pure (goInt (Extern.BytealgCompare.cmp (← Extern.Bytes.bytesOf (.slice A n c)) (← Extern.Bytes.bytesOf (.slice B m d))))) w=_
 simp only[Sem.run_bind,Sem.run_pure,Result.andThen,mi ha n c hn,mi hb m d hm]
 rw[Lib.cmp_eq];rfl
theorem oh (w:World) (A B:Option Addr) (a b:List UInt8) (n m c d:Nat) (hn:n=a.length) (hm:m=b.length) (ha:Src w A (a.map zv)) (hb:Src w B (b.map zv)) :
  Calls Tryz.prog 110 #[.slice A n c,.slice B m d] w fun e w'=>e=.returned (.int .i64 (Lib.compareBytes a b))∧w=w':=by
 have h1:=Hh (eQ (P:=Tryz.prog) ha hb n m c d hn hm);clear hn hm ha hb;go_enter Tryz.func110,Tryz.ntmps110
 go_wp2
 rw[run_callFunc_extern Tryz.func139 (by kernel_rfl) (by kernel_rfl) (by kernel_rfl) (e:=Extern.BytealgCompare.compare) (by kernel_rfl),h1.out]
 simp only[Result.andThen]
 rw[Oper.upon_value];go_wp2
 go_ret
 exact⟨rfl,rfl⟩
theorem mR (w:World) (A:Option Addr) (l:List UInt8) (n c:Nat) (hn:n=l.length) (hl:l.length≤1099511627776) (hs:Src w A (l.map zv)) :
  Calls Tryz.prog 47 #[.slice A n c] w fun e w'=>∃ r,e=.returned r∧Fresh w l r w':=by
 cases A with
 | none =>
  have h0:l=[]:=by
   cases l with
   | nil=>rfl
   | cons a l=>obtain⟨b,off,h,_⟩:=hs (by simp);cases h
  subst h0;have he:=fun w:World=>Lib.run_eql_slice_nil (P:=Tryz.prog) w _ _ none n c 0 0 Tryz.underlying23
  clear hn hl;go_enter Tryz.func47,Tryz.ntmps47
  go_wp2
  go_ret
  exact⟨_,rfl,OwnB.nil _ _,Below.refl _ _⟩
 | some a =>
 have he:=fun w:World=>Lib.run_eql_slice_nil (P:=Tryz.prog) w _ _ (some a) n c 0 0 Tryz.underlying23
 simp only[Option.isNone]at he
 have HN:=Hh hn;clear hn;go_enter Tryz.func47,Tryz.ntmps47
 go_wp2_with (at_builtin;refine zO ?_)
 unfold yy
 have h0:OwnB (w.alloc (.cells #[] 5)) w.heap.size (.slice (some ⟨w.heap.size,0,none⟩) 0 0) []:=OwnB.lit w _ [] #[] 0 rfl rfl (Nat.le_refl _) (by simp)
 refine zn rfl (.tmp 5) (.tmp 6) rfl w.heap.size _ [] rfl h0 (some a) n c l rfl HN.out ?_ (by simpa using hl) (by simp) ?_
 ·exact hs.alloc _
 intro v' w' xt hg _
 have hf:Fresh w l v' w':=⟨by rw[List.nil_append]at xt;exact xt,(zq w _).grown hg (by simp) (fun k hk=>(h0.lt k hk).1)⟩
 clear xt hg h0;go_wp2
 go_ret
 exact⟨_,rfl,hf⟩
theorem gD (w:World) (A:Option Addr) (l:List UInt8) (n c:Nat) (hn:n=l.length) (hl:l.length≤1099511627776) (hs:Src w A (l.map zv)) :
  Calls Tryz.prog 93 #[.slice A n c] w fun e w'=>∃ r,e=.returned r∧Fresh w l r w':=by
 cases A with
 | none =>
  have h0:l=[]:=by
   cases l with
   | nil=>rfl
   | cons a l=>obtain⟨b,off,h,_⟩:=hs (by simp);cases h
  subst h0;have he:=fun w:World=>Lib.run_eql_slice_nil (P:=Tryz.prog) w _ _ none n c 0 0 Tryz.underlying23
  clear hn hl;go_enter Tryz.func93,Tryz.ntmps93
  go_wp2
  go_ret
  exact⟨_,rfl,OwnB.nil _ _,Below.refl _ _⟩
 | some a =>
 have he:=fun w:World=>Lib.run_eql_slice_nil (P:=Tryz.prog) w _ _ (some a) n c 0 0 Tryz.underlying23
 simp only[Option.isNone]at he
 have HN:=Hh hn;clear hn;go_enter Tryz.func93,Tryz.ntmps93
 go_wp2_with (at_builtin;refine zO ?_)
 unfold yy
 have h0:OwnB (w.alloc (.cells #[] 5)) w.heap.size (.slice (some ⟨w.heap.size,0,none⟩) 0 0) []:=OwnB.lit w _ [] #[] 0 rfl rfl (Nat.le_refl _) (by simp)
 refine zn rfl (.tmp 5) (.tmp 6) rfl w.heap.size _ [] rfl h0 (some a) n c l rfl HN.out ?_ (by simpa using hl) (by simp) ?_
 ·exact hs.alloc _
 intro v' w' xt hg _
 have hf:Fresh w l v' w':=⟨by rw[List.nil_append]at xt;exact xt,(zq w _).grown hg (by simp) (fun k hk=>(h0.lt k hk).1)⟩
 clear xt hg h0;go_wp2
 go_ret
 exact⟨_,rfl,hf⟩
theorem IsItem.plain (H:Snap) (k:Int) (n:Nat) (hk : -9223372036854775808≤k∧k≤9223372036854775807) (hn:n<18446744073709551616):IsItem H none 0 none 0 (.mk k n [] []):=by
 rw[IsItem]
 exact⟨⟨hk.1,hk.2,hn,Nat.le_refl _,by omega⟩,IsBytes.nil H,fun h=>absurd h (by simp)⟩
theorem Gives.plain {w w':World}{H:Snap}{k n:Int}{m:Nat}(hH:Holds w H) (hb:Below w.heap.size w w') (hk : -9223372036854775808≤k∧k≤9223372036854775807) (hm:m<18446744073709551616) (hn:n=(m:Int)) :
  Gives w H (.mk k m [] []) (.agg #[.int .i64 k,.int .u64 n,.slice none 0 0,.slice none 0 0]) w':=by
 subst hn
 exact⟨none,0,none,0,H,rfl,Grows.of_below hH hb,IsItem.plain H k m hk hm⟩
theorem Gives.step {w w1 w':World}{H:Snap}{x:Itm}{v:Value}(hb:Below w.heap.size w w1) (hH:Holds w H) (h:Gives w1 H x v w'):Gives w H x v w':=by
 obtain⟨ba,bc,ia,ic,H',e,hg,hi⟩:=h
 exact⟨ba,bc,ia,ic,H',e,(Grows.of_below hH hb).trans hg,hi⟩
theorem Fresh.gives {w w1:World}{H:Snap}{l:List UInt8}{r:Value}{k:Int}(hH:Holds w H) (h:Fresh w l r w1) (hk : -9223372036854775808≤k∧k≤9223372036854775807) :
  Gives w H (.mk k 0 l []) (.agg #[.int .i64 k,.int .u64 0,r,.slice none 0 0]) w1:=by
 obtain⟨A,c,rfl,_⟩:=h.own.form;obtain⟨H',hl,hh,hf,_,hi⟩:=h.own.snap (hH.below h.2 (Nat.le_refl _)) (fun g hg=>hH.none_of_ge (h.own.lt g (by cases A <;> simp_all [Value.ownBlock])).1)
 refine⟨A,c,none,0,H',rfl,⟨h.2,hl,hh,fun b o hb=>?_⟩, ?_⟩
 ·rcases hf b o hb with h1 | h1
  ·exact .inl h1
  exact .inr (h.own.lt b (by cases A <;> simp_all [Value.ownBlock])).1
 rw[IsItem]
 exact⟨⟨hk.1,hk.2,by omega,Nat.le_refl _,by omega⟩,hi,fun h=>absurd h (by simp)⟩
theorem Grows.own {w wA w1 w':World}{H H':Snap}{g:Nat}(hA:Below w.heap.size w wA) (hH:Holds w H) (h:Grows wA H w1 H') (hg:w1.grownBy w' (some g)) (h1:w.heap.size≤g) (h2:g<wA.heap.size):Grows w H w' H' :=
 ⟨(hA.trans (h.below.mono hA.size)).grown hg (Nat.le_trans hA.size h.below.size) (by rintro k ⟨⟩;exact h1),h.le,h.holds.grown hg (by rintro k ⟨⟩;exact h.none (hH.none_of_ge h1) h2),fun b o hb=>by
  rcases h.fresh b o hb with h | h
  ·exact .inl h
  exact .inr (Nat.le_trans hA.size h)⟩
theorem Gives.own {w wA w1 w':World}{H:Snap}{x:Itm}{v:Value}{g:Nat}(hA:Below w.heap.size w wA) (hH:Holds w H) (h:Gives wA H x v w1) (hg:w1.grownBy w' (some g)) (h1:w.heap.size≤g) (h2:g<wA.heap.size):Gives w H x v w':=by
 obtain⟨ba,bc,ia,ic,H',e,hG,hi⟩:=h
 exact⟨ba,bc,ia,ic,H',e,hG.own hA hH hg h1 h2,hi⟩
theorem uf (a b c d:Value) (ha:a.oneCell'=true) (hb:b.oneCell'=true) (hc:c.oneCell'=true) (hd:d.oneCell'=true):(#[a,b,c,d]:Array Value).all (·.oneCell')=true:=by simp[ha,hb,hc,hd]
theorem Z9 (n:Nat) (hn:n<18446744073709551616) {H:Snap}(w:World) (hH:Holds w H) :
  Calls Tryz.prog 107 #[.int .u64 n] w fun e w'=>∃ v,e=.returned v∧Gives w H (.mk 0 n [] []) v w':=by
 have HN:=Hh hn;clear hn;go_enter Tryz.func107,Tryz.ntmps107
 go_wp2_with fail
 refine zR rfl rfl (Blk.new _ _ _) rfl rfl zp rfl ?_
 exact⟨_,rfl,Gives.plain hH (zq _ _) (by omega) HN.out rfl⟩
theorem sW (n:Int) (h1 : -9223372036854775808≤n) (h2:n≤9223372036854775807) {H:Snap}(w:World) (hH:Holds w H) :
  Calls Tryz.prog 70 #[.int .i64 n] w fun e w'=>∃ v,e=.returned v∧Gives w H (zg n) v w':=by
 by_cases h0:n<0
 ·have E:Hid (zg n=.mk 1 (-1-n).toNat [] []∧(-1-n).toNat<18446744073709551616∧-1-n=((-1-n).toNat:Int)):=⟨by rw[zg,if_pos h0],by omega,by omega⟩
  have K1:IntKind.u64.wrap (-1-n) = -1-n:=by rw[IntKind.wrap_u64];omega
  have K0:IntKind.i64.wrap (-1-n) = -1-n:=IntWalk.i64_in _ (by omega);clear h1 h2;go_enter Tryz.func70,Tryz.ntmps70
  go_wp2_with fail
  refine zR rfl rfl (Blk.new _ _ _) rfl rfl zp rfl ?_
  rw[E.out.1]
  exact⟨_,rfl,Gives.plain hH (zq _ _) (by omega) E.out.2.1 E.out.2.2⟩
 have E:Hid (zg n=.mk 0 n.toNat [] []∧n.toNat<18446744073709551616∧n=(n.toNat:Int)):=⟨by rw[zg,if_neg h0],by omega,by omega⟩
 have K1:IntKind.u64.wrap n=n:=by rw[IntKind.wrap_u64];omega
 have U:=Hh (Z9 n.toNat E.out.2.1 (w.alloc (.cells #[.int .i64 0,.int .u64 0,.slice none 0 0,.slice none 0 0] 26)) (hH.alloc _));rw[← E.out.2.2]at U;have hn:=Int.not_lt.1 h0;clear h1 h2 h0;go_enter Tryz.func70,Tryz.ntmps70
 go_wp2_with fail
 refine U.out.mono ?_
 rintro e w1 ⟨v,rfl,hg⟩
 have HG:=Hh hg;obtain⟨ba,bc,ia,ic,H',rfl,hg,hi⟩:=hg;have hB:=(Blk.new w 26 #[.int .i64 0,.int .u64 0,.slice none 0 0,.slice none 0 0]).below hg.below;go_wp2_with (with_reducible refine zx ?_)
 refine zt rfl _ _ _ rfl rfl _ _ rfl rfl _ _ hB zp rfl (uf _ _ _ _ rfl rfl rfl rfl) fun w2 yV xR=>?_
 go_wp2_with fail
 refine zR rfl rfl yV rfl rfl zp rfl ?_
 rw[E.out.1]
 exact⟨_,rfl,HG.out.own (zq _ _) hH xR (Nat.le_refl _) (by simp)⟩
theorem sR {A:Option Addr}{n c:Nat}{l:List UInt8}(hn:n=l.length) (hl:l.length≤1099511627776) {H:Snap}(w:World) (hs:Src w A (l.map zv)) (hH:Holds w H) :
  Calls Tryz.prog 51 #[.slice A n c] w fun e w'=>∃ v,e=.returned v∧Gives w H (.mk 2 0 l []) v w':=by
 have C:=Hh (gD (w.alloc (.cells #[.int .i64 0,.int .u64 0,.slice none 0 0,.slice none 0 0] 26)) A l n c hn hl (hs.alloc _));clear hn;go_enter Tryz.func51,Tryz.ntmps51
 go_wp2_with fail
 refine C.out.mono ?_
 rintro e w1 ⟨r,rfl,hf⟩
 have hB:=(Blk.new w 26 #[.int .i64 0,.int .u64 0,.slice none 0 0,.slice none 0 0]).below hf.2;have HF:=Hh (hf.gives (k:=2) (hH.alloc (.cells #[.int .i64 0,.int .u64 0,.slice none 0 0,.slice none 0 0] 26)) (by omega));obtain⟨A',c',rfl,_⟩:=hf.own.form;go_wp2_with (with_reducible refine zx ?_)
 refine zt rfl _ _ _ rfl rfl _ _ rfl rfl _ _ hB zp rfl (uf _ _ _ _ rfl rfl rfl rfl) fun w2 yV xR=>?_
 go_wp2_with fail
 refine zR rfl rfl yV rfl rfl zp rfl ?_
 exact⟨_,rfl,HF.out.own (zq _ _) hH xR (Nat.le_refl _) (by simp)⟩
theorem mU {w:World}{H:Snap}(hH:Holds w H) (s:ByteArray) (hl:s.size≤1099511627776) :
  ∃ g c w',(convert 9 23 (.string s)).run Tryz.prog w=.ok (.slice (some ⟨g,0,none⟩) s.size c) w'∧Below w.heap.size w w'∧∃ H',Grows w H w' H'∧IsBytes H' (some ⟨g,0,none⟩) c s.data.toList:=by
 refine⟨_,_,_,run_bytes_of_string (P:=Tryz.prog) w 9 23 5 s Tryz.underlying9 Tryz.underlying23 Tryz.underlying5, ?_, ?_⟩
 ·exact(Below.refl _ _).drew.alloc (Nat.le_refl _) _
 obtain⟨o,ho⟩:∃ o,o=Obj.cells (bytesRow s (grownCap w s.size 0 5)) 5 ((bytesRow s (grownCap w s.size 0 5)).size,(bytesRow s (grownCap w s.size 0 5)).size+1):=⟨_,rfl⟩
 rw[← ho];have h0:H w.heap.size=none:=hH.none_of_ge (Nat.le_refl _)
 refine⟨H.with w.heap.size o,⟨(Below.refl _ _).drew.alloc (Nat.le_refl _) _,Snap.le_with h0,(hH.drew.alloc o).with (heap_alloc_new w.drew o),fun b x hb=>?_⟩, ?_, ?_, ?_⟩
 ·unfold Snap.with at hb
  split at hb
  ·subst b;exact .inr (Nat.le_refl _)
  exact .inl hb
 ·simpa using grownCap_ge w s.size 0 5
 ·have:=grownCap_le_maxLen w s.size 0 5 (by simp only[maxLen];omega)
  simpa [maxLen] using this
 refine fun _=>⟨w.heap.size,0,rfl,fun j v hj=>?_⟩
 have ip:j<s.data.size:=by
  have:=(List.getElem?_eq_some_iff.1 hj).1
  simpa using this
 subst ho
 simp only[Snap.cell?,Snap.with,if_true,Nat.zero_add,Option.isSome,Bool.false_eq_true,if_false]
 rw[bytesRow_at s _ j ip]
 simp at hj
 obtain⟨a,h1,h2⟩:=hj;rw[Array.getElem?_eq_getElem ip]at h1;injection h1 with h1
 rw[h1,← h2]
theorem Z8 (s:ByteArray) (hl:s.size≤1099511627776) {H:Snap}(w:World) (hH:Holds w H) :
  Calls Tryz.prog 50 #[.string s] w fun e w'=>∃ v,e=.returned v∧Gives w H (.mk 3 0 s.data.toList []) v w':=by
 obtain⟨g,c,w1,hr,hb,H',hG,hi⟩:=mU (hH.alloc (.cells #[.int .i64 0,.int .u64 0,.slice none 0 0,.slice none 0 0] 26)) s hl;have hB:=(Blk.new w 26 #[.int .i64 0,.int .u64 0,.slice none 0 0,.slice none 0 0]).below hb
 have HI:Gives (w.alloc (.cells #[.int .i64 0,.int .u64 0,.slice none 0 0,.slice none 0 0] 26)) H (.mk 3 0 s.data.toList []) (.agg #[.int .i64 3,.int .u64 0,.slice (some ⟨g,0,none⟩) s.size c,.slice none 0 0]) w1:=by
  refine⟨some ⟨g,0,none⟩,c,none,0,H',by simp[xq,Itm.kind,Itm.n,Itm.bytes,Itm.items],hG, ?_⟩
  rw[IsItem]
  exact⟨⟨by omega,by omega,by omega,Nat.le_refl _,by omega⟩,hi,fun h=>absurd h (by simp)⟩
 have KG:=Hh HI;clear hb hi HI;go_enter Tryz.func50,Tryz.ntmps50
 go_wp2_with (with_reducible refine zx ?_)
 refine zt rfl _ _ _ rfl rfl _ _ rfl rfl _ _ hB zp rfl (uf _ _ _ _ rfl rfl rfl rfl) fun w2 yV xR=>?_
 go_wp2_with fail
 refine zR rfl rfl yV rfl rfl zp rfl ?_
 exact⟨_,rfl,KG.out.own (zq _ _) hH xR (Nat.le_refl _) (by simp)⟩
def xX (x:Itm) (lv:Nat):Bool:=if yh x=true then yv x else vk x lv
mutual
def Good:Itm→Nat→Prop
 | .mk k n bs l,lv=>xX (.mk k n bs l) lv=true∧GoodL l (lv+1)∧(k=5→xY l=true)
def GoodL:List Itm→Nat→Prop
 | [],_=>True
 | x::l,lv=>Good x lv∧GoodL l lv
end
theorem Good.node {x:Itm}{lv:Nat}(h:Good x lv):xX x lv=true:=by cases x;rw[Good]at h;exact h.1
theorem Good.items {x:Itm}{lv:Nat}(h:Good x lv):GoodL x.items (lv+1):=by cases x;rw[Good]at h;exact h.2.1
theorem Good.asc {x:Itm}{lv:Nat}(h:Good x lv) (h5:x.kind=5):xY x.items=true:=by cases x;rw[Good]at h;exact h.2.2 h5
theorem Good.of {x:Itm}{lv:Nat}(h1:xX x lv=true) (h2:GoodL x.items (lv+1)) (h3:x.kind=5→xY x.items=true):Good x lv:=by cases x;rw[Good];exact⟨h1,h2,h3⟩
theorem GoodL.get:∀ {l:List Itm}{lv:Nat},GoodL l lv→∀ x∈l,Good x lv
 | [],_,_,x,hx=>by cases hx
 | y::l,lv,h,x,hx=>by
  rw[GoodL]at h
  rcases List.mem_cons.1 hx with rfl | hx
  ·exact h.1
  exact h.2.get x hx
theorem GoodL.of:∀ {l:List Itm}{lv:Nat},(∀ x∈l,Good x lv)→GoodL l lv
 | [],_,_=>by rw[GoodL];trivial
 | y::l,lv,h=>by
  rw[GoodL]
  exact⟨h y (by simp),GoodL.of fun x hx=>h x (by simp[hx])⟩
theorem yU {x:Itm}{lv:Nat}(h:xX x lv=true):(yh x=true∧yv x=true)∨(yh x=false∧vk x lv=true):=by
 unfold xX at h
 cases hp:yh x with
 | true=>rw[if_pos hp]at h;exact .inl ⟨rfl,h⟩
 | false=>rw[if_neg (by simp[hp])]at h;exact .inr ⟨rfl,h⟩
theorem sF {x:Itm}{lv:Nat}(h:xX x lv=true):0≤x.kind∧x.kind≤8:=by
 rcases yU h with ⟨h1,_⟩ | ⟨_,h1⟩
 ·rw[zL]at h1;omega
 have:=xk h1;omega
theorem bp {x:Itm}{lv lv':Nat}(h:vk x lv=true) (hl:lv'≤lv):vk x lv'=true:=by
 obtain⟨h1,h2,h3,h4⟩:=xk h
 exact decide_eq_true ⟨h1,h2,by omega,h4⟩
theorem ZW {x:Itm}{lv lv':Nat}(h:xX x lv=true) (hl:lv'≤lv):xX x lv'=true:=by
 rcases yU h with ⟨h1,h2⟩ | ⟨h1,h2⟩
 ·rw[xX,if_pos h1];exact h2
 rw[xX,if_neg (by simp[h1])];exact bp h2 hl
mutual
theorem Good.le:∀ {x:Itm}{lv lv':Nat},Good x lv→lv'≤lv→Good x lv'
 | .mk k n bs l,lv,lv',h,hl=>by
  rw[Good]at h⊢
  exact⟨ZW h.1 hl,GoodL.le h.2.1 (by omega),h.2.2⟩
theorem GoodL.le:∀ {l:List Itm}{lv lv':Nat},GoodL l lv→lv'≤lv→GoodL l lv'
 | [],_,_,_,_=>by rw[GoodL];trivial
 | x::l,lv,lv',h,hl=>by
  rw[GoodL]at h⊢
  exact⟨Good.le h.1 hl,GoodL.le h.2 hl⟩
end
theorem oW {x:Itm}{lv:Nat}(h:xX x lv=true) (hp:yh x=true):x.items=[]∧(x.kind=8∨x.kind=7→x.bytes=[]):=by
 rcases yU h with ⟨_,h2⟩ | ⟨h1,_⟩
 ·exact xP hp h2
 rw[hp]at h1;cases h1
theorem pq {x:Itm}{lv:Nat}(h:xX x lv=true):(zh x).length=zI x+(zM x.items).length:=by
 cases hp:yh x with
 | true =>
  obtain⟨h1,h2⟩:=oW h hp;rw[← iZ x h1 h2,h1,zM];simp
 | false =>
 rcases yU h with ⟨h1,_⟩ | ⟨_,h2⟩
 ·rw[hp]at h1;cases h1
 have hf:=xk h2;rw[xD,if_neg (by omega),if_neg (by omega),nL x (by omega) (by omega)]
 simp;omega
theorem pi {x:Itm}{lv:Nat}(h:xX x lv=true):x.bytes.length≤zI x:=by
 by_cases h8:x.kind=8
 ·have:=(oW h ((zL x).2 (by omega))).2 (by omega);rw[this];simp
 by_cases h7:x.kind=7
 ·have:=(oW h ((zL x).2 (by omega))).2 (by omega);rw[this];simp
 rw[nL x h8 h7];omega
theorem kq:∀ l:List Itm,l.length≤yQ l
 | []=>by simp[yQ]
 | x::l=>by
  have:=kq l;have h:0<cnt x:=by cases x;rw[cnt];omega
  rw[yQ];simp;omega
theorem gS (x:Itm):cnt x=yQ x.items+1:=by cases x;rw[cnt];rfl
mutual
theorem ej:∀ (x:Itm) (lv i s:Nat) (p:Nat×Nat),chk x lv i s=some p→Good x lv
 | .mk k n bs l,lv,i,s,p,h=>by
  rw[chk]at h
  split at h
  ·cases h
  split at h
  ·rename_i hp
   split at h
   ·rename_i ho
    have hi:=(xP hp ho.1).1;have hk:=(zL _).1 hp
    simp only[Itm.items,Itm.kind]at hi hk
    subst hi;rw[Good,GoodL]
    exact⟨by rw[xX,if_pos hp];exact ho.1,trivial,fun h=>by omega⟩
   cases h
  rename_i hp
  split at h
  ·cases h
  rename_i hf
  split at h
  ·cases h
  split at h
  ·cases h
  rename_i q hq
  split at h
  ·cases h
  rename_i ha
  rw[Good]
  refine⟨by rw[xX,if_neg hp];simpa using hf,iG l _ _ _ _ hq,fun h5=>?_⟩
  cases hs:xY l with
  | true=>rfl
  | false=>exact absurd ⟨h5,hs⟩ ha
theorem iG:∀ (l:List Itm) (lv i s:Nat) (p:Nat×Nat),sq l lv i s=some p→GoodL l lv
 | [],_,_,_,_,_=>by rw[GoodL];trivial
 | x::l,lv,i,s,p,h=>by
  rw[sq]at h
  split at h
  ·cases h
  rename_i q hq
  rw[GoodL]
  exact⟨ej x _ _ _ _ hq,iG l _ _ _ _ h⟩
end
mutual
theorem ev:∀ (x:Itm) (lv i s:Nat),Good x lv→i+cnt x≤256→s+(zh x).length≤4096→chk x lv i s=some (i+cnt x,s+(zh x).length)
 | .mk k n bs l,lv,i,s,h,hi,hs=>by
  have hn:=h.node;have Sm:=h.items;have has:=h.asc;have ni:=pq hn;have dl:=pi hn;have hc:=gS (.mk k n bs l);have hl:=kq l
  simp only[Itm.items,Itm.bytes,Itm.kind]at *
  rw[chk,if_neg (by omega)]
  rcases yU hn with ⟨h1,h2⟩ | ⟨h1,h2⟩
  ·have h0:=(xP h1 h2).1
   simp only[Itm.items]at h0
   subst h0;rw[zM]at ni;rw[yQ]at hc
   simp only[List.length_nil]at ni
   rw[if_pos h1,if_pos ⟨h2,by omega⟩,hc,ni];congr 2
  rw[if_neg (by simp[h1]),if_neg (by simp[h2]),if_neg (by omega),iM l (lv+1) (i+1) _ Sm (by omega) (by omega)]
  simp only
  rw[if_neg (by rintro⟨h5,ha⟩;rw[has h5]at ha;cases ha)];congr 2 <;> omega
theorem iM:∀ (l:List Itm) (lv i s:Nat),GoodL l lv→i+yQ l≤256→s+(zM l).length≤4096→sq l lv i s=some (i+yQ l,s+(zM l).length)
 | [],lv,i,s,_,_,_=>by rw[sq,yQ,zM];rfl
 | x::l,lv,i,s,h,hi,hs=>by
  rw[GoodL]at h;rw[yQ]at hi⊢;rw[zM]at hs⊢
  simp only[List.length_append]at hs⊢
  rw[sq,ev x lv i s h.1 (by omega) (by omega)]
  simp only
  rw[iM l lv _ _ h.2 (by omega) (by omega)];congr 2 <;> omega
end
theorem yp (x:Itm):zX x=true↔Good x 0∧cnt x≤256∧(zh x).length≤4096:=by
 constructor
 ·intro h
  obtain⟨p,hp⟩:=Option.isSome_iff_exists.1 h;have:=vK h
  exact⟨ej _ _ _ _ _ hp,this.2.1,this.2.2⟩
 rintro⟨h1,h2,h3⟩
 rw[zX,ev x 0 0 0 h1 (by omega) (by omega)];rfl
mutual
def Small:Itm→Prop
 | .mk _ _ bs l=>bs.length≤4096∧tr l
def tr:List Itm→Prop
 | []=>True
 | x::l=>Small x∧tr l
end
def yq (x:Itm) (d m:Nat):Bool:=xX x d&&decide (x.bytes.length≤4096)&&decide (x.items.length≤m)
mutual
def yX:Itm→Nat→Nat→Option Nat
 | .mk k n bs l,c,d =>
 if c<1 then none
 else if yq (.mk k n bs l) d (c-1)=false then none
 else match xf l (c-1) (d+1) with
  | none=>none
  | some r=>if k=5∧xY l=false then none else some r
def xf:List Itm→Nat→Nat→Option Nat
 | [],c,_=>some c
 | x::l,c,d=>match yX x c d with
  | none=>none
  | some r=>xf l r d
end
theorem un (x:Itm) (c d:Nat):yX x c d =
  if c<1 then none
  else if yq x d (c-1)=false then none
  else match xf x.items (c-1) (d+1) with
   | none=>none
   | some r=>if x.kind=5∧xY x.items=false then none else some r:=by
 cases x
 rw[yX];rfl
theorem kL {x:Itm}{d m:Nat}(h:yq x d m=true):xX x d=true∧x.bytes.length≤4096∧x.items.length≤m:=by
 simpa [yq,and_assoc] using h
mutual
theorem sz:∀ (x:Itm) (c d r:Nat),yX x c d=some r→Good x d∧Small x∧r+cnt x=c
 | .mk k n bs l,c,d,r,h=>by
  rw[yX]at h
  split at h
  ·cases h
  split at h
  ·cases h
  rename_i hn
  obtain⟨h1,h2,h3⟩:=kL (by simpa using hn)
  split at h
  ·cases h
  rename_i q hq
  split at h
  ·cases h
  rename_i ha
  injection h with h
  subst h;obtain⟨g1,g2,g3⟩:=oV l _ _ _ hq;rw[Good,Small,cnt]
  refine⟨⟨h1,g1,fun h5=>?_⟩,⟨h2,g2⟩,by omega⟩
  cases hs:xY l with
  | true=>rfl
  | false=>exact absurd ⟨h5,hs⟩ ha
theorem oV:∀ (l:List Itm) (c d r:Nat),xf l c d=some r→GoodL l d∧tr l∧r+yQ l=c
 | [],c,d,r,h=>by
  rw[xf]at h;injection h with h
  subst h;rw[GoodL,tr,yQ]
  exact⟨trivial,trivial,rfl⟩
 | x::l,c,d,r,h=>by
  rw[xf]at h
  split at h
  ·cases h
  rename_i q hq
  obtain⟨h1,h2,h3⟩:=sz x _ _ _ hq;obtain⟨g1,g2,g3⟩:=oV l _ _ _ h;rw[GoodL,tr,yQ]
  exact⟨⟨h1,g1⟩,⟨h2,g2⟩,by omega⟩
end
mutual
theorem iN:∀ (x:Itm) (c d:Nat),Good x d→Small x→cnt x≤c→yX x c d=some (c-cnt x)
 | .mk k n bs l,c,d,h,hs,hc=>by
  have hn:=h.node;have Sm:=h.items;have has:=h.asc;have Sj:=gS (.mk k n bs l);have hl:=kq l;rw[Small]at hs
  simp only[Itm.items,Itm.bytes,Itm.kind]at *
  have hr:yq (.mk k n bs l) d (c-1)=true:=by
   have e2:l.length≤c-1:=by omega
   simp[yq,hn,Itm.bytes,Itm.items,hs.1,e2]
  rw[yX,if_neg (by omega),if_neg (by simp[hr]),kF l (c-1) (d+1) Sm hs.2 (by omega)]
  simp only
  rw[if_neg (by rintro⟨h5,ha⟩;rw[has h5]at ha;cases ha)];congr 1;omega
theorem kF:∀ (l:List Itm) (c d:Nat),GoodL l d→tr l→yQ l≤c→xf l c d=some (c-yQ l)
 | [],c,d,_,_,_=>by rw[xf,yQ];rfl
 | x::l,c,d,h,hs,hc=>by
  rw[GoodL]at h;rw[tr]at hs;rw[yQ]at hc⊢;rw[xf,iN x c d h.1 hs.1 (by omega)]
  simp only
  rw[kF l _ d h.2 hs.2 (by omega)];congr 1;omega
end
mutual
theorem Good.small:∀ {x:Itm}{lv:Nat},Good x lv→(zh x).length≤4096→Small x
 | .mk k n bs l,lv,h,hl=>by
  have h1:=pq h.node;have h2:=pi h.node;have h3:=h.items
  simp only[Itm.items,Itm.bytes]at *
  rw[Small]
  exact⟨by omega,GoodL.small h3 (by omega)⟩
theorem GoodL.small:∀ {l:List Itm}{lv:Nat},GoodL l lv→(zM l).length≤4096→tr l
 | [],_,_,_=>by rw[tr];trivial
 | x::l,lv,h,hl=>by
  rw[GoodL]at h;rw[zM]at hl
  simp only[List.length_append]at hl
  rw[tr]
  exact⟨Good.small h.1 (by omega),GoodL.small h.2 (by omega)⟩
end
theorem XO {x:Itm}{lv:Nat}(h:xX x lv=true):zI x≤x.bytes.length+9:=by
 unfold zI
 split
 ·have:=ru x.n;omega
 split
 ·split <;> omega
 have:=(um x.kind.toNat (xi x)).2;omega
mutual
theorem Good.bytes:∀ {x:Itm}{lv:Nat},Good x lv→Small x→(zh x).length≤cnt x*4105
 | .mk k n bs l,lv,h,hs=>by
  have h1:=pq h.node;have h2:=XO h.node;have h3:=h.items;have h4:=gS (.mk k n bs l);rw[Small]at hs
  simp only[Itm.items,Itm.bytes]at *
  have:=GoodL.bytes h3 hs.2
  omega
theorem GoodL.bytes:∀ {l:List Itm}{lv:Nat},GoodL l lv→tr l→(zM l).length≤yQ l*4105
 | [],_,_,_=>by rw[zM,yQ];simp
 | x::l,lv,h,hs=>by
  rw[GoodL]at h;rw[tr]at hs;rw[zM,yQ];have h1:=Good.bytes h.1 hs.1;have h2:=GoodL.bytes h.2 hs.2
  simp only[List.length_append]
  omega
end
def gW (x:Itm):Bool:=(yX x 256 0).isSome&&decide ((zh x).length≤4096)
theorem pT (x:Itm):gW x=zX x:=by
 rw[Bool.eq_iff_iff,yp];constructor
 ·intro h
  simp only[gW,Bool.and_eq_true,decide_eq_true_eq]at h
  obtain⟨r,hr⟩:=Option.isSome_iff_exists.1 h.1;obtain⟨h1,h2,h3⟩:=sz _ _ _ _ hr
  exact⟨h1,by omega,h.2⟩
 rintro⟨h1,h2,h3⟩
 simp only[gW,Bool.and_eq_true,decide_eq_true_eq]
 rw[iN x 256 0 h1 (h1.small h3) h2]
 exact⟨rfl,h3⟩
theorem sX:∀ a:List UInt8,Lib.compareBytes a a=0
 | []=>by rw[Lib.compareBytes]
 | x::a=>by rw[Lib.compareBytes,if_neg (UInt8.lt_irrefl x),if_neg (UInt8.lt_irrefl x)];exact sX a
theorem sx:∀ a b c:List UInt8,Lib.compareBytes a b<0→Lib.compareBytes b c<0→Lib.compareBytes a c<0
 | [],[],c,h,_=>by rw[Lib.compareBytes]at h;omega
 | [],y::b,[],_,h=>by rw[Lib.compareBytes]at h;omega
 | [],y::b,z::c,_,_=>by rw[Lib.compareBytes];omega
 | x::a,[],c,h,_=>by rw[Lib.compareBytes]at h;omega
 | x::a,y::b,[],_,h=>by rw[Lib.compareBytes]at h;omega
 | x::a,y::b,z::c,h,k=>by
  rw[Lib.compareBytes]at h k⊢
  by_cases h1:x<y
  ·by_cases h2:y<z
   ·have h3:x<z:=UInt8.lt_trans h1 h2;rw[if_pos h3];omega
   rw[if_neg h2]at k
   by_cases h3:z<y
   ·rw[if_pos h3]at k;omega
   have e:y=z:=UInt8.toNat_inj.1 (by rw[UInt8.lt_iff_toNat_lt]at h2 h3;omega);subst e;rw[if_pos h1];omega
  rw[if_neg h1]at h
  by_cases h2:y<x
  ·rw[if_pos h2]at h;omega
  rw[if_neg h2]at h;have e:x=y:=UInt8.toNat_inj.1 (by rw[UInt8.lt_iff_toNat_lt]at h1 h2;omega);subst e
  by_cases h3:x<z
  ·rw[if_pos h3];omega
  rw[if_neg h3]at k⊢
  by_cases h4:z<x
  ·rw[if_pos h4]at k;omega
  rw[if_neg h4]at k⊢
  exact sx a b c h k
def ze:List Itm→List (Itm×Itm)
 | a::b::r=>(a,b)::ze r
 | _=>[]
theorem xK:∀ {l:List Itm}{p:Itm×Itm},p∈ze l→p.1∈l∧p.2∈l
 | [],p,h=>by rw[ze]at h;cases h;intro _ _ _ h;cases h
 | [_],p,h=>by rw[ze]at h;cases h;intro _ _ _ h;cases h
 | a::b::r,p,h=>by
  rw[ze]at h
  rcases List.mem_cons.1 h with rfl | h
  ·simp
  have:=xK h
  simp[this.1,this.2]
theorem tR:∀ l:List Itm,sp l=(ze l).all fun p=>vr p.1 p.2
 | []=>rfl
 | [_]=>rfl
 | a::b::r=>by rw[sp,ze,List.all_cons,tR r]
theorem pY (u:Itm):∀ l:List Itm,xA u l=(ze l).all fun p=>(yt u p.1).isNone
 | []=>rfl
 | [_]=>rfl
 | a::b::r=>by rw[xA,ze,List.all_cons,pY u r]
theorem mW (k:List UInt8):∀ l:List Itm,oq k l=((ze l).find? fun p=>decide (zh p.1=k)).map (·.2)
 | []=>rfl
 | [_]=>rfl
 | a::b::r=>by
  rw[oq,ze,List.find?_cons]
  by_cases h:zh a=k
  ·simp[h]
  simp[h,mW k r]
mutual
def yu:Itm→Itm→Bool
 | .mk k n bs l,.mk k' n' bs' l'=>k==k'&&n==n'&&bs==bs'&&vQ l l'
def vQ:List Itm→List Itm→Bool
 | [],[]=>true
 | x::l,y::m=>yu x y&&vQ l m
 | _,_=>false
end
mutual
theorem vy:∀ (x y:Itm),yu x y=true↔x=y
 | .mk k n bs l,.mk k' n' bs' l'=>by
  rw[yu]
  simp only[Bool.and_eq_true,beq_iff_eq,nK l l',Itm.mk.injEq,and_assoc]
theorem nK:∀ (l m:List Itm),vQ l m=true↔l=m
 | [],[]=>by simp[vQ]
 | [],y::m=>by simp[vQ]
 | x::l,[]=>by simp[vQ]
 | x::l,y::m=>by
  rw[vQ]
  simp only[Bool.and_eq_true,vy x y,nK l m,List.cons.injEq]
end
def atL (key:Itm):List Itm→Option Itm
 | a::b::r=>if yu a key=true then some b else atL key r
 | _=>none
theorem rS (k:Itm):∀ l:List Itm,atL k l=((ze l).find? fun p=>yu p.1 k).map (·.2)
 | []=>rfl
 | [_]=>rfl
 | a::b::r=>by
  rw[atL,ze,List.find?_cons]
  by_cases h:yu a k=true
  ·simp[h]
  simp[h,rS k r]
theorem tT {k:Itm}{l:List Itm}:(atL k l).isSome=true↔∃ v,(k,v)∈ze l:=by
 rw[rS]
 simp only[Option.isSome_map,List.find?_isSome]
 constructor
 ·rintro⟨⟨a,b⟩,h1,h2⟩
  rw[vy]at h2
  exact⟨b,h2 ▸ h1⟩
 rintro⟨v,h⟩
 exact⟨_,h,(vy _ _).2 rfl⟩
def vz (x:Itm):Bool:=x.kind==3||wh x
def wu (k v:Itm) (m:List Itm):Bool :=
 if yu k (zg 1)=true then((v.kind==0&&decide (0<v.n))||v.kind==1)&&decide (v.n≤65535)
 else if yu k (zg 2)=true then v.kind==4&&decide (0<v.items.length)&&v.items.all fun x=>(atL x m).isSome
 else if(yu k (zg 4)||yu k (zg 5)||yu k (zg 6)||yu k (zg 12))=true then v.kind==2 else true
def yi (m:List Itm):List Itm→Bool
 | a::b::r=>vz a&&wu a b m&&yi m r
 | _=>true
def uJ (p:List Itm):List Itm→Bool
 | a::_::r => !((atL a p).isSome||yu a (zg 2))&&uJ p r
 | _=>true
def xQ (p u:Itm) (n:Int):Option Itm:=match atL (zg n) p.items with
 | some x=>some x
 | none=>atL (zg n) u.items
def yC (p u:Itm):Bool :=
 p.kind==5&&u.kind==5&&zX p&&zX u&&yi p.items p.items&&yi u.items u.items&&uJ p.items u.items&&(!(xQ p u 5).isSome || !(xQ p u 6).isSome)
theorem uG (m:List Itm):∀ l:List Itm,yi m l=(ze l).all fun p=>vz p.1&&wu p.1 p.2 m
 | []=>rfl
 | [_]=>rfl
 | a::b::r=>by rw[yi,ze,List.all_cons,uG m r]
theorem mX (p:List Itm):∀ l:List Itm,uJ p l=(ze l).all fun q => !((atL q.1 p).isSome||yu q.1 (zg 2))
 | []=>rfl
 | [_]=>rfl
 | a::b::r=>by rw[uJ,ze,List.all_cons,mX p r]
theorem vb (n:Nat):zg (n:Int)=.mk 0 n [] []:=by
 rw[zg,if_neg (by omega)];simp
theorem kw (n:Nat) (lv:Nat):Good (zg (n:Int)) lv:=by
 rw[vb,Good,GoodL]
 exact⟨rfl,trivial,fun h=>by omega⟩
theorem wQ (n:Nat):zX (zg (n:Int))=true:=by
 rw[yp]
 refine⟨kw n 0, ?_, ?_⟩
 ·rw[vb,cnt,yQ];omega
 rw[vb,xD];have:=(um (0:Int).toNat (xi (.mk 0 n [] []))).2
 simp[Itm.kind,Itm.bytes,Itm.items,zM]at *
 omega
def gm (x:Itm):Nat:=if x.kind=8 then 7 else x.kind.toNat
theorem bq (m n:Nat):∃ a t,yE m n=u8 (m*32+a)::t∧a<28:=by
 unfold yE
 repeat' split
 all_goals exact⟨_,_,rfl,by omega⟩
theorem eE (n:Nat):∃ a t,yI n=u8 (7*32+a)::t∧25≤a∧a<28:=by
 unfold yI
 repeat' split
 ·exact⟨25,_,rfl,by omega⟩
 ·exact⟨25,_,rfl,by omega⟩
 ·exact⟨26,_,rfl,by omega⟩
 exact⟨27,_,rfl,by omega⟩
theorem iI (x:Itm) (h:0≤x.kind∧x.kind≤8):∃ a t,zh x=u8 (gm x*32+a)::t∧a<28:=by
 rw[xD,gm]
 by_cases h8:x.kind=8
 ·obtain⟨a,t,e,h1,h2⟩:=eE x.n;rw[if_pos h8,if_pos h8]
  exact⟨a,t,e,h2⟩
 rw[if_neg h8,if_neg h8]
 by_cases h7:x.kind=7∧24≤x.n
 ·rw[if_pos h7,h7.1]
  exact⟨24,[u8 x.n],rfl,by omega⟩
 rw[if_neg h7];obtain⟨a,t,e,h2⟩:=bq x.kind.toNat (xi x);rw[e]
 exact⟨a,_,by rw[List.cons_append,List.cons_append],h2⟩
theorem Qw {x y:Itm}(hx:0≤x.kind∧x.kind≤8) (hy:0≤y.kind∧y.kind≤8) {r s:List UInt8}(h:zh x++r=zh y++s):gm x=gm y:=by
 obtain⟨a,t,e,ha⟩:=iI x hx;obtain⟨b,v,f,hb⟩:=iI y hy;rw[e,f,List.cons_append,List.cons_append]at h;injection h with h _
 have h':=congrArg UInt8.toNat h;rw[se,se]at h';have h1:gm x≤7:=by unfold gm;split <;> omega
 have h2:gm y≤7:=by unfold gm;split <;> omega
 omega
theorem tK {a b:Nat}(h:u8 a=u8 b):a%256=b%256:=by
 have:=congrArg UInt8.toNat h;rwa [se,se]at this
def sI (n:Nat):Nat:=if n<24 then n else if n<256 then 24 else if n<65536 then 25 else if n<4294967296 then 26 else 27
def oH (n:Nat):List UInt8:=if n<24 then [] else if n<256 then [u8 n] else if n<65536 then [u8 (n/256),u8 n] else if n<4294967296 then [u8 (n/16777216),u8 (n/65536),u8 (n/256),u8 n] else be8 n 8
theorem ew (m n:Nat):yE m n=u8 (m*32+sI n)::oH n:=by
 unfold yE sI oH
 repeat' split
 all_goals rfl
theorem ez (n:Nat):sI n<28:=by
 unfold sI
 repeat' split
 all_goals omega
theorem iO (n:Nat):(oH n).length=if sI n<24 then 0 else if sI n=24 then 1 else if sI n=25 then 2 else if sI n=26 then 4 else 8:=by
 unfold sI oH
 by_cases h1:n<24
 ·simp[h1]
 by_cases h2:n<256
 ·simp[h1,h2]
 by_cases h3:n<65536
 ·simp[h1,h2,h3]
 by_cases h4:n<4294967296
 ·simp[h1,h2,h3,h4]
 simp[h1,h2,h3,h4,uZ]
theorem Qf {n m:Nat}(hn:n<18446744073709551616) (hm:m<18446744073709551616) (h:be8 n 8=be8 m 8):n=m:=by
 simp only[be8,List.nil_append,List.cons_append,List.cons.injEq]at h
 obtain⟨h0,h1,h2,h3,h4,h5,h6,h7,_⟩:=h;have h0:=tK h0;have h1:=tK h1;have h2:=tK h2;have h3:=tK h3;have h4:=tK h4;have h5:=tK h5;have h6:=tK h6;have h7:=tK h7
 simp only[Nat.reduceMul,Nat.reduceSub,Nat.reducePow,Nat.sub_zero,Nat.mul_zero]at *
 have g0:n/72057594037927936=m/72057594037927936:=by omega
 have g1:n/281474976710656=m/281474976710656:=by omega
 have g2:n/1099511627776=m/1099511627776:=by omega
 have g3:n/4294967296=m/4294967296:=by omega
 have g4:n/16777216=m/16777216:=by omega
 have g5:n/65536=m/65536:=by omega
 have g6:n/256=m/256:=by omega
 omega
theorem Ws {n m:Nat}(hn:n<18446744073709551616) (hm:m<18446744073709551616) (hx:sI n=sI m) (h:oH n=oH m):n=m:=by
 unfold sI at hx
 unfold oH at h
 by_cases a1:n<24
 ·simp only[a1,if_true]at hx
  repeat' split at hx
  all_goals omega
 by_cases a2:n<256
 ·have b1:¬ m<24:=by intro k;simp only[a1,a2,k,if_true,if_false]at hx;omega
  have b2:m<256:=by
   simp only[a1,a2,b1,if_true,if_false]at hx
   repeat' split at hx
   all_goals omega
  simp only[a1,a2,b1,b2,if_true,if_false,List.cons.injEq,and_true]at h
  have:=tK h
  omega
 by_cases a3:n<65536
 ·have b1:¬ m<24:=by intro k;simp only[a1,a2,a3,k,if_true,if_false]at hx;omega
  have b2:¬ m<256:=by intro k;simp only[a1,a2,a3,b1,k,if_true,if_false]at hx;omega
  have b3:m<65536:=by
   simp only[a1,a2,a3,b1,b2,if_true,if_false]at hx
   repeat' split at hx
   all_goals omega
  simp only[a1,a2,a3,b1,b2,b3,if_true,if_false,List.cons.injEq,and_true]at h
  have h1:=tK h.1;have h2:=tK h.2
  omega
 by_cases a4:n<4294967296
 ·have b1:¬ m<24:=by intro k;simp only[a1,a2,a3,a4,k,if_true,if_false]at hx;omega
  have b2:¬ m<256:=by intro k;simp only[a1,a2,a3,a4,b1,k,if_true,if_false]at hx;omega
  have b3:¬ m<65536:=by intro k;simp only[a1,a2,a3,a4,b1,b2,k,if_true,if_false]at hx;omega
  have b4:m<4294967296:=by
   simp only[a1,a2,a3,a4,b1,b2,b3,if_true,if_false]at hx
   repeat' split at hx
   all_goals omega
  simp only[a1,a2,a3,a4,b1,b2,b3,b4,if_true,if_false,List.cons.injEq,and_true]at h
  obtain⟨h0,h1,h2,h3⟩:=h;have h0:=tK h0;have h1:=tK h1;have h2:=tK h2;have h3:=tK h3;have g0:n/16777216=m/16777216:=by omega
  have g1:n/65536=m/65536:=by omega
  have g2:n/256=m/256:=by omega
  omega
 have b1:¬ m<24:=by intro k;simp only[a1,a2,a3,a4,k,if_true,if_false]at hx;omega
 have b2:¬ m<256:=by intro k;simp only[a1,a2,a3,a4,b1,k,if_true,if_false]at hx;omega
 have b3:¬ m<65536:=by intro k;simp only[a1,a2,a3,a4,b1,b2,k,if_true,if_false]at hx;omega
 have b4:¬ m<4294967296:=by intro k;simp only[a1,a2,a3,a4,b1,b2,b3,k,if_true,if_false]at hx;omega
 simp only[a1,a2,a3,a4,b1,b2,b3,b4,if_false]at h
 exact Qf hn hm h
theorem ZJ {a b n m:Nat}(ha:a<8) (hb:b<8) (hn:n<18446744073709551616) (hm:m<18446744073709551616) {r s:List UInt8}(h:yE a n++r=yE b m++s):a=b∧n=m∧r=s:=by
 rw[ew,ew,List.cons_append,List.cons_append]at h;injection h with h1 h2
 have h1:=tK h1;have x1:=ez n;have x2:=ez m;have hx:sI n=sI m:=by omega
 have hl:(oH n).length=(oH m).length:=by rw[iO,iO,hx]
 obtain⟨h3,h4⟩:=List.append_inj h2 hl
 exact⟨by omega,Ws hn hm hx h3,h4⟩
def Num (x:Itm):Prop:=x.n<18446744073709551616∧x.bytes.length<18446744073709551616
theorem ZS {x y:Itm}{lv lv':Nat}(hx:Good x lv) (hy:Good y lv') (hl:vz x=true) (nx:Num x) (ny:Num y) (h:zh x=zh y):x=y:=by
 have Fu:=sF hx.node;have Ye:=sF hy.node;have ht:=Qw Fu Ye (r:=[]) (s:=[]) (by simpa using h)
 have hk:x.kind=0∨x.kind=1∨x.kind=3:=by
  simp only[vz,wh,Bool.or_eq_true,Bool.and_eq_true,beq_iff_eq,decide_eq_true_eq]at hl
  omega
 have ji:y.kind=x.kind:=by
  unfold gm at ht
  repeat' split at ht
  all_goals omega
 have G5:=(zL x).2 (by omega);have G6:=(zL y).2 (by omega);have ox:yv x=true:=by rcases yU hx.node with ⟨_,h⟩ | ⟨h,_⟩;exact h;rw[G5]at h;cases h
 have oy:yv y=true:=by rcases yU hy.node with ⟨_,h⟩ | ⟨h,_⟩;exact h;rw[G6]at h;cases h
 rw[xD x,xD y,if_neg (by omega),if_neg (by omega),if_neg (by omega),if_neg (by omega),ji,List.append_assoc,List.append_assoc]at h
 have uY:xi x<18446744073709551616:=by
  unfold xi
  rcases hk with h | h | h <;> simp[h] <;> first | exact nx.1 | exact nx.2
 have uB:xi y<18446744073709551616:=by
  unfold xi
  rcases hk with h | h | h <;> simp[ji,h] <;> first | exact ny.1 | exact ny.2
 obtain⟨_,hn,hr⟩:=ZJ (by omega) (by omega) uY uB h
 cases x with
 | mk k n bs l =>
 cases y with
 | mk k' n' bs' l' =>
 simp only[Itm.kind,Itm.bytes,Itm.items,xi,Itm.n]at *
 subst ji
 rcases hk with hk | hk | hk
 ·subst hk
  simp[yv,Itm.kind,Itm.bytes,Itm.items]at ox oy hn
  simp[ox,oy,hn]
 ·subst hk
  simp[yv,Itm.kind,Itm.bytes,Itm.items]at ox oy hn
  simp[ox,oy,hn]
 subst hk
 simp[yv,Itm.kind,Itm.bytes,Itm.items,Itm.n]at ox oy
 rw[ox.1.2,oy.1.2,zM]at hr
 simp at hr
 simp[ox,oy,hr]
theorem sG (w:World) (A B:Option Addr) (a b:List UInt8) (n m c d:Nat) (hn:n=a.length) (hm:m=b.length) (hna:n≤1099511627776) (hmb:m≤1099511627776) (ha:Src w A (a.map zv)) (hb:Src w B (b.map zv)) :
  Calls Tryz.prog 113 #[.slice A n c,.slice B m d] w fun e w'=>e=.returned (.int .i64 (Lib.compareBytes a b))∧Below w.heap.size w w':=by
 have HN:=Hh hn;have HM:=Hh hm;clear hn hm;go_enter Tryz.func113,Tryz.ntmps113
 go_wp2_with fail
 go_loopw [5] (fun vi wr=>∃ k:Nat,k≤n∧k≤m∧vi=.int .i64 k∧Lib.compareBytes (a.drop k) (b.drop k)=Lib.compareBytes a b∧Below w.heap.size w wr) (fun vi _=>n-(intOf vi).toNat)
 case atStart=>exact⟨0,by omega,by omega,rfl,by simp,Below.refl _ _⟩
 case round =>
 obtain⟨k,jh,ir,rfl,hc,yS⟩:=hrel;have hn:=HN.out;have hm:=HM.out
 by_cases h1:k<n
 ·by_cases h2:k<m
  ·obtain⟨ab,ao,rfl,nh⟩:=(ha.below yS) (by intro h;simp at h;subst h;simp at hn;omega)
   obtain⟨bb,bo,rfl,aS⟩:=(hb.below yS) (by intro h;simp at h;subst h;simp at hm;omega)
   have ka:k<a.length:=by omega
   have kb:k<b.length:=by omega
   have p0:=nh k (zv a[k]) (by simp[ka]);have q0:=aS k (zv b[k]) (by simp[kb])
   have hd:Lib.compareBytes (a.drop k) (b.drop k)=if a[k]<b[k] then -1 else if b[k]<a[k] then 1 else Lib.compareBytes (a.drop (k+1)) (b.drop (k+1)):=by
    rw[List.drop_eq_getElem_cons ka,List.drop_eq_getElem_cons kb,Lib.compareBytes]
   rw[hc]at hd
   generalize a[k]'ka=x at *
   generalize b[k]'kb=y at *
   have HD:=Hh hd;clear hd hc hn hm nh aS ka kb;go_upto_region 4 with fail
   refine zw 8 (fun w'=>w'.cell? ⟨ab,ao+k,none⟩=some (zv x)∧w'.cell? ⟨bb,bo+k,none⟩=some (zv y)) (by kernel_rfl) (⟨p0,q0⟩) (fun zy=>?_)
   refine Tk 0 rfl zy ?_
   refine Tk 1 rfl zy ?_
   refine Tk 2 rfl zy ?_
   refine Tk 3 rfl zy ?_
   refine Tk 4 rfl zy ?_
   refine Tk 5 rfl zy ?_
   refine Tk 6 rfl zy ?_
   refine Tk 7 rfl zy ?_
   refine To 8 rfl fun K hK=>?_
   go_simp
   refine Kz hK ?_
   clear hK K
   refine Wd ?_
   clear zy
   by_cases QX:x=y
   ·subst QX;have E:Hid (Lib.compareBytes (a.drop (k+1)) (b.drop (k+1))=Lib.compareBytes a b):=by rw[Hid,HD.out,if_neg (UInt8.lt_irrefl x),if_neg (UInt8.lt_irrefl x)]
    have zG:=yS.drew;go_wp2_with fail
    go_roundw
    case rel=>exact⟨k+1,by omega,by omega,by go_num,E.out,zG⟩
    case measure=>simp[intOf];omega
   have xg:((x.toNat:Int) != (y.toNat:Int))=true:=by
    rw[bne_iff_ne]
    intro h
    exact QX (UInt8.toNat_inj.1 (by omega))
   have zG:=yS.drew.drew;have M0:=Hh QX;clear QX;go_upto_region 5 with fail
   refine zw 8 (fun w'=>w'.cell? ⟨ab,ao+k,none⟩=some (zv x)∧w'.cell? ⟨bb,bo+k,none⟩=some (zv y)) (by kernel_rfl) (⟨p0,q0⟩) (fun zy=>?_)
   refine Tk 0 rfl zy ?_
   refine Tk 1 rfl zy ?_
   refine Tk 2 rfl zy ?_
   refine Tk 3 rfl zy ?_
   refine Tk 4 rfl zy ?_
   refine Tk 5 rfl zy ?_
   refine Tk 6 rfl zy ?_
   refine Tk 7 rfl zy ?_
   refine To 8 rfl fun K hK=>?_
   go_simp
   refine Kz hK ?_
   clear hK K
   refine Wd ?_
   clear zy
   by_cases hl:x<y
   ·have E:Hid (Lib.compareBytes a b = -1):=by rw[Hid,HD.out,if_pos hl]
    have pA:(x.toNat:Int)<(y.toNat:Int):=by have:=UInt8.lt_iff_toNat_lt.1 hl;omega
    clear hl;go_wp2_with fail
    go_ret
    exact⟨by rw[E.out];rfl,zG⟩
   have hg:y<x:=by
    have:=M0.out
    rcases Nat.lt_trichotomy x.toNat y.toNat with h | h | h
    ·exact absurd (UInt8.lt_iff_toNat_lt.2 h) hl
    ·exact absurd (UInt8.toNat_inj.1 h) this
    exact UInt8.lt_iff_toNat_lt.2 h
   have E:Hid (Lib.compareBytes a b=1):=by rw[Hid,HD.out,if_neg hl,if_pos hg]
   have pA:(y.toNat:Int)≤(x.toNat:Int):=by have:=UInt8.lt_iff_toNat_lt.1 hg;omega
   clear hl hg;go_wp2_with fail
   go_ret
   exact⟨by rw[E.out];rfl,yS.drew.drew⟩
  have QP:k=m:=by omega
  have E:Hid (Lib.compareBytes a b=1):=by
   rw[Hid,← hc,List.drop_eq_getElem_cons (show k<a.length by omega),List.drop_eq_nil_of_le (show b.length≤k by omega),Lib.compareBytes]
  clear hc hn hm;go_wp2_with fail
  go_ret
  exact⟨by rw[E.out];rfl,yS⟩
 have uN:k=n:=by omega
 by_cases h2:k<m
 ·have E:Hid (Lib.compareBytes a b = -1):=by
   rw[Hid,← hc,List.drop_eq_nil_of_le (show a.length≤k by omega),List.drop_eq_getElem_cons (show k<b.length by omega),Lib.compareBytes]
  clear hc hn hm;go_wp2_with fail
  go_ret
  exact⟨by rw[E.out];rfl,yS⟩
 have E:Hid (Lib.compareBytes a b=0):=by
  rw[Hid,← hc,List.drop_eq_nil_of_le (show a.length≤k by omega),List.drop_eq_nil_of_le (show b.length≤k by omega),Lib.compareBytes]
 clear hc hn hm;go_wp2_with fail
 go_ret
 exact⟨by rw[E.out];rfl,yS⟩
theorem stI {w:World}{ops:Array Oper}{rest:List Oper}{o:Oper}{a:Act}{Q:Exit→Act→World→Prop}{x y:Operand}{g:Nat}{c0 c1 c2 c3:Value}{t:TypeId}{old:Array Value}(hB:Blk w g t old)
  (h:∀ w',Blk w' g t #[c0,c1,c2,c3]→w.grownBy w' (some g)→wpList Tryz.prog ops Q rest a w')
  (hgd:o.guard=none:=by rfl) (ho:o.op=.store 26 x y:=by rfl) (hd:o.dst=none:=by rfl) (hx:a.eval x=.pointer (some ⟨g,0,none⟩):=by rfl) (hy:a.eval y=.agg #[c0,c1,c2,c3]:=by rfl) (hold:(#[c0,c1,c2,c3]:Array Value).size=old.size:=by rfl) (h1:c0.oneCell'=true:=by rfl) (h2:c1.oneCell'=true:=by rfl) (h3:c2.oneCell'=true:=by rfl) (h4:c3.oneCell'=true:=by rfl):wpList Tryz.prog ops Q (o::rest) a w :=
 zt hgd _ _ _ ho hd _ _ hx hy _ _ hB zp hold (uf _ _ _ _ h1 h2 h3 h4) h
end Go.Proofs.YtliomcphdnppnaaGreatDoor
