/- squeezed. Heads of data items as lists of by -/
import Derived.Test.YtliomcphdnppnaaGreatDoorK00
import Derived.Lib.ValidU
import Derived.Lib.Bytealg
import Derived.Shelf.Unicode.DecodeSlow
import Derived.Laws.BytesArg
import Derived.Laws.Externs
import Derived.Laws.IdiomStrings
import Derived.Deep.DeepCutAuto
set_option linter.unusedVariables false
set_option linter.unusedSimpArgs false
set_option maxRecDepth 100000
set_option maxHeartbeats 1600000
namespace Go.Proofs.YtliomcphdnppnaaGreatDoor
open Go.RowKit
def u8 (n:Nat):UInt8:=UInt8.ofNat n
theorem sD (n:Nat):(u8 n).toNat=n%256:=by simp[u8]
theorem xV (n:Nat):zq (u8 n)=.int .u8 ((n%256:Nat):Int):=by simp[zq,sD]
theorem UH (x:Int) (n:Nat) (h:x=((n%256:Nat):Int)):Value.int .u8 x=zq (u8 n):=by rw[xV,h]
def be8 (n:Nat):Nat→List UInt8
 | 0=>[]
 | k+1=>be8 n k++[u8 (n/2 ^ (56-8*k))]
theorem uW (n k:Nat):(be8 n k).length=k:=by induction k <;> simp[be8, *]
def yI (m n:Nat):List UInt8 :=
 if n<24 then [u8 (m*32+n)]
 else if n<256 then [u8 (m*32+24),u8 n]
 else if n<65536 then [u8 (m*32+25),u8 (n/256),u8 n]
 else if n<4294967296 then [u8 (m*32+26),u8 (n/16777216),u8 (n/65536),u8 (n/256),u8 n]
 else u8 (m*32+27)::be8 n 8
theorem vD (m n:Nat):(yI m n).length=if n<24 then 1 else if n<256 then 2 else if n<65536 then 3 else if n<4294967296 then 5 else 9:=by
 unfold yI
 repeat' split
 all_goals simp[uW]
theorem un (m n:Nat):1≤(yI m n).length∧(yI m n).length≤9:=by
 rw[vD]
 repeat' split
 all_goals omega
theorem eC (a:Nat) (ha:a<256):(BitVec.ofInt 8 (a:Int)).toNat=a:=by
 rw[BitVec.ofInt_natCast,BitVec.toNat_ofNat];exact Nat.mod_eq_of_lt (by omega)
theorem YV (a b:Nat) (ha:a<256) (hb:b<256):bits .or .u8 (a:Int) (b:Int)=((a ||| b:Nat):Int):=by
 have hx:a ||| b<2 ^ 8:=Nat.or_lt_two_pow (by omega) (by omega);show IntKind.u8.wrap ((BitVec.ofInt 8 (a:Int) ||| BitVec.ofInt 8 (b:Int)).toNat:Int)=_
 rw[BitVec.toNat_or,eC a ha,eC b hb,IntKind.wrap_u8]
 omega
theorem SK (m n:Nat) (hn:n<32):m*32 ||| n=m*32+n:=by
 have h:=Nat.two_pow_add_eq_or_of_lt (i:=5) (b:=n) (by omega) m;rw[show 2 ^ 5*m=m*32 by omega]at h
 exact h.symm
theorem nX (m n:Nat) (hm:m<8) (hn:n<32):bits .or .u8 ((m:Int)*32) (n:Int)=((m*32+n:Nat):Int):=by
 have h:=YV (m*32) n (by omega) (by omega);rw[SK m n hn]at h
 simpa using h
def isNaN (n:Nat):Bool:=n/2 ^ 52%2048==2047&&n%2 ^ 52 != 0
def xO (n eb mb:Nat):Option Nat :=
 let sign:=n/2 ^ 63*2 ^ (eb+mb)
 let e:=n/2 ^ 52%2048
 let m:=n%2 ^ 52
 let top:=2 ^ eb-1
 let bias:=2 ^ (eb-1)-1
 if e=2047 then(if m=0 then some (sign+top*2 ^ mb) else none)
 else if e=0 then(if m=0 then some sign else none)
 else if 1023+top≤e+bias then none
 else if 1023<e+bias then(if m%2 ^ (52-mb)=0 then some (sign+(e+bias-1023)*2 ^ mb+m/2 ^ (52-mb)) else none)
 else
  let shift:=53-mb+(1023-e-bias)
  if 52<shift then none else if(m+2 ^ 52)%2 ^ shift=0 then some (sign+(m+2 ^ 52)/2 ^ shift) else none
def yM (n:Nat):List UInt8 :=
 if isNaN n then [u8 249,u8 126,u8 0] else
 match xO n 5 10 with
 | some v=>[u8 249,u8 (v/256),u8 v]
 | none=>match xO n 8 23 with
  | some v=>[u8 250,u8 (v/16777216),u8 (v/65536),u8 (v/256),u8 v]
  | none=>u8 251::be8 n 8
theorem rR (n:Nat):(yM n).length=3∨(yM n).length=5∨(yM n).length=9:=by
 unfold yM
 repeat' split
 all_goals simp[uW]
def xp (x:Itm):Nat :=
 if x.kind=2∨x.kind=3 then x.bytes.length else if x.kind=4 then x.items.length else if x.kind=5 then x.items.length/2 else x.n
mutual
def zi:Itm→List UInt8
 | .mk k n bs l =>
 if k=8 then yM n
 else if k=7∧24≤n then [u8 248,u8 n]
 else yI k.toNat (xp (.mk k n bs l))++bs++zG l
def zG:List Itm→List UInt8
 | []=>[]
 | x::l=>zi x++zG l
end
theorem uN (l m:List Itm):zG (l++m)=zG l++zG m:=by
 induction l with
 | nil=>rw[List.nil_append,zG,List.nil_append]
 | cons x l ih=>rw[List.cons_append,zG,zG,ih,List.append_assoc]
theorem vK (l:List Itm) (k:Nat) (h:k<l.length):zG (l.take (k+1))=zG (l.take k)++zi l[k]:=by
 rw[List.take_succ_eq_append_getElem h,uN,zG,zG,List.append_nil]
theorem xJ (x:Itm):zi x=if x.kind=8 then yM x.n else if x.kind=7∧24≤x.n then [u8 248,u8 x.n] else yI x.kind.toNat (xp x)++x.bytes++zG x.items:=by
 cases x
 rw[zi];rfl
theorem qO (l:List Itm) (k:Nat):(zG (l.take k)).length≤(zG l).length:=by
 have h:=uN (l.take k) (l.drop k);rw[List.take_append_drop]at h;rw[h]
 simp
mutual
def Kinds:Itm→Prop
 | .mk k _ _ l=>(0≤k∧k≤8)∧KindsL l
def KindsL:List Itm→Prop
 | []=>True
 | x::l=>Kinds x∧KindsL l
end
theorem Kinds.kind {x:Itm}(h:Kinds x):0≤x.kind∧x.kind≤8:=by cases x;rw[Kinds]at h;exact h.1
theorem Kinds.items {x:Itm}(h:Kinds x):KindsL x.items:=by cases x;rw[Kinds]at h;exact h.2
theorem KindsL.get:∀ {l:List Itm},KindsL l→∀ (k:Nat) (hk:k<l.length),Kinds l[k]
 | [],_,k,hk=>by simp at hk
 | x::l,h,0,_=>by rw[KindsL]at h;exact h.1
 | x::l,h,k+1,hk=>by rw[KindsL]at h;exact h.2.get k (by simpa using hk)
mutual
def cnt:Itm→Nat
 | .mk _ _ _ l=>vY l+1
def vY:List Itm→Nat
 | []=>0
 | x::l=>cnt x+vY l
end
theorem dh:∀ (l:List Itm) (k:Nat) (hk:k<l.length),cnt l[k]≤vY l
 | [],k,hk=>by simp at hk
 | x::l,0,_=>by rw[vY];simp
 | x::l,k+1,hk=>by
  have:=dh l k (by simpa using hk);rw[vY]
  simp only[List.getElem_cons_succ]
  omega
theorem wL (x:Itm) (k:Nat) (hk:k<x.items.length):cnt x.items[k]<cnt x:=by
 cases x with
 | mk a b c l =>
 have:=dh l k hk;rw[cnt]
 simp only[Itm.items]
 omega
def vF:Nat:=9221120237041090560
def ye (x:Itm):Bool:=x.kind==0||x.kind==1||x.kind==2||x.kind==3||x.kind==7||x.kind==8
def yu (x:Itm):Bool :=
 if x.kind=0∨x.kind=1 then x.bytes.isEmpty&&x.items.isEmpty
 else if x.kind=2 then x.n==0&&x.items.isEmpty
 else if x.kind=3 then x.n==0&&x.items.isEmpty&&Lib.validD x.bytes
 else if x.kind=7 then x.bytes.isEmpty&&x.items.isEmpty&&(decide (x.n<24)||decide (32≤x.n)&&decide (x.n<256))
 else if x.kind=8 then x.bytes.isEmpty&&x.items.isEmpty&&(!isNaN x.n||x.n==vF)
 else false
def zE (x:Itm):Nat :=
 if x.kind=8 then(yM x.n).length else if x.kind=7 then(if 24≤x.n then 2 else 1) else(yI x.kind.toNat (xp x)).length+x.bytes.length
def xe:List Itm→Bool
 | a::b::c::l=>decide (Lib.compareBytes (zi a) (zi c)<0)&&xe (c::l)
 | _=>true
theorem mG (l:List Itm) (j:Nat) (h2:2≤j) (h:j<l.length) :
  xe (l.drop (j-2))=(decide (Lib.compareBytes (zi (l[j-2]'(by omega))) (zi l[j])<0)&&xe (l.drop j)):=by
 have e1:l.drop (j-2)=l[j-2]'(by omega)::l.drop (j-1):=by
  rw[List.drop_eq_getElem_cons (by omega)];rw[show j-2+1=j-1 by omega]
 have e2:l.drop (j-1)=l[j-1]'(by omega)::l.drop j:=by
  rw[List.drop_eq_getElem_cons (by omega)];rw[show j-1+1=j by omega]
 have e3:l.drop j=l[j]::l.drop (j+1):=List.drop_eq_getElem_cons h;rw[e1,e2,e3,xe]
theorem dZ (l:List Itm) (j:Nat) (h2:2≤j) (h:l.length≤j):xe (l.drop (j-2))=true:=by
 have hl:(l.drop (j-2)).length≤2:=by rw[List.length_drop];omega
 match l.drop (j-2),hl with
 | [],_=>rfl
 | [_],_=>rfl
 | [_,_],_=>rfl
 | _::_::_::_,h=>simp at h
def wR (x:Itm) (lv:Nat):Bool :=
 decide (4≤x.kind∧x.kind≤6∧lv<8∧x.bytes.length=0∧(x.kind=6→x.items.length=1)∧(x.kind≠6→x.n=0)∧(x.kind=5→x.items.length%2=0))
mutual
def chk:Itm→Nat→Nat→Nat→Option (Nat×Nat)
 | .mk k n bs l,lv,i,s =>
 if 256<i+1∨4096<bs.length∨256<l.length then none
 else if ye (.mk k n bs l)=true then(if yu (.mk k n bs l)=true∧s+zE (.mk k n bs l)≤4096 then some (i+1,s+zE (.mk k n bs l)) else none)
 else if wR (.mk k n bs l) lv=false then none
 else if 4096<s+zE (.mk k n bs l) then none
 else match sK l (lv+1) (i+1) (s+zE (.mk k n bs l)) with
  | none=>none
  | some p=>if k=5∧xe l=false then none else some p
def sK:List Itm→Nat→Nat→Nat→Option (Nat×Nat)
 | [],_,i,s=>some (i,s)
 | x::l,lv,i,s=>match chk x lv i s with
  | none=>none
  | some p=>sK l lv p.1 p.2
end
theorem mV (x:Itm) (lv i s:Nat):chk x lv i s =
  if 256<i+1∨4096<x.bytes.length∨256<x.items.length then none
  else if ye x=true then(if yu x=true∧s+zE x≤4096 then some (i+1,s+zE x) else none)
  else if wR x lv=false then none
  else if 4096<s+zE x then none
  else match sK x.items (lv+1) (i+1) (s+zE x) with
   | none=>none
   | some p=>if x.kind=5∧xe x.items=false then none else some p:=by
 cases x
 rw[chk];rfl
theorem zH (x:Itm):ye x=true↔x.kind=0∨x.kind=1∨x.kind=2∨x.kind=3∨x.kind=7∨x.kind=8:=by
 simp[ye]
 omega
theorem gj (x:Itm) (h:x.items=[]) (h8:x.kind=8∨x.kind=7→x.bytes=[]):zE x=(zi x).length:=by
 rw[xJ,zE]
 by_cases h1:x.kind=8
 ·rw[if_pos h1,if_pos h1]
 rw[if_neg h1,if_neg h1]
 by_cases h2:x.kind=7
 ·rw[if_pos h2]
  by_cases h3:24≤x.n
  ·rw[if_pos h3,if_pos ⟨h2,h3⟩];rfl
  have hn:xp x=x.n:=by simp[xp,h2]
  rw[if_neg h3,if_neg (by omega),h8 (.inr h2),h,zG,hn,yI,if_pos (by omega)];rfl
 rw[if_neg h2,if_neg (by omega),h,zG]
 simp
theorem mT (x:Itm) (h8:x.kind≠8) (h7:x.kind≠7):zE x=(yI x.kind.toNat (xp x)).length+x.bytes.length:=by
 rw[zE,if_neg h8,if_neg h7]
theorem y5 {x:Itm}{lv:Nat}(h:wR x lv=true):4≤x.kind∧x.kind≤6∧lv<8∧x.bytes.length=0∧(x.kind=6→x.items.length=1)∧(x.kind≠6→x.n=0)∧(x.kind=5→x.items.length%2=0) :=
 of_decide_eq_true h
theorem xQ {x:Itm}(hp:ye x=true) (ho:yu x=true):x.items=[]∧(x.kind=8∨x.kind=7→x.bytes=[]):=by
 rw[zH]at hp
 unfold yu at ho
 rcases hp with h | h | h | h | h | h <;> simp[h]at ho⊢ <;> simp[ho]
mutual
theorem jr:∀ (x:Itm) (lv i s:Nat) (p:Nat×Nat),chk x lv i s=some p→Kinds x∧p=(i+cnt x,s+(zi x).length)∧p.1≤256∧p.2≤4096
 | .mk k n bs l,lv,i,s,p,h=>by
  rw[chk]at h
  split at h
  ·cases h
  rename_i h0
  split at h
  ·rename_i hp
   split at h
   ·rename_i ho
    obtain⟨hi,hb⟩:=xQ hp ho.1;have hk:=(zH _).1 hp;have hs:=gj (.mk k n bs l) hi hb
    simp only[Itm.items,Itm.kind]at hi hk
    subst hi;injection h with h
    subst h;rw[← hs]
    refine⟨?_, ?_, ?_, ?_⟩
    ·rw[Kinds,KindsL];exact⟨by omega,trivial⟩
    ·rw[cnt,vY]
    ·simp only;omega
    exact ho.2
   cases h
  rename_i hp
  split at h
  ·cases h
  rename_i hf
  split at h
  ·cases h
  rename_i h4
  have Qb:=y5 (by simpa using hf)
  simp only[Itm.kind,Itm.bytes,Itm.items,List.length_eq_zero_iff]at Qb
  split at h
  ·cases h
  rename_i q hq
  split at h
  ·cases h
  injection h with h
  subst h;obtain⟨hk,gE,h1,h2⟩:=mM l _ _ _ _ hq (by omega) (by omega);have cH:=mT (.mk k n bs l) (by simp only[Itm.kind];omega) (by simp only[Itm.kind];omega)
  simp only[Itm.kind,Itm.bytes]at cH
  rw[Qb.2.2.2.1]at cH
  refine⟨by rw[Kinds];exact⟨by omega,hk⟩, ?_,h1,h2⟩
  rw[gE,cnt,zi,if_neg (by omega),if_neg (by omega),Qb.2.2.2.1,cH]
  simp only[List.length_append,List.length_nil,Prod.mk.injEq]
  omega
theorem mM:∀ (l:List Itm) (lv i s:Nat) (p:Nat×Nat),sK l lv i s=some p→i≤256→s≤4096→KindsL l∧p=(i+vY l,s+(zG l).length)∧p.1≤256∧p.2≤4096
 | [],lv,i,s,p,h,hi,hs=>by
  rw[sK]at h;injection h with h
  subst h;rw[KindsL,vY,zG]
  exact⟨trivial,rfl,hi,hs⟩
 | x::l,lv,i,s,p,h,hi,hs=>by
  rw[sK]at h
  split at h
  ·cases h
  rename_i q hq
  obtain⟨hk,gE,h1,h2⟩:=jr x _ _ _ _ hq;obtain⟨qq,hp,h3,h4⟩:=mM l _ _ _ _ h h1 h2
  refine⟨by rw[KindsL];exact⟨hk,qq⟩, ?_,h3,h4⟩
  rw[hp,gE,vY,zG]
  simp
  omega
end
def zU (x:Itm):Bool:=(chk x 0 0 0).isSome
theorem vN {x:Itm}(h:zU x=true):Kinds x∧cnt x≤256∧(zi x).length≤4096:=by
 obtain⟨p,hp⟩:=Option.isSome_iff_exists.1 h;obtain⟨hk,he,h1,h2⟩:=jr _ _ _ _ _ hp;subst he
 simp only at h1 h2
 exact⟨hk,by omega,by omega⟩
mutual
def Modest:Itm→Prop
 | .mk _ _ bs l=>bs.length≤1099511627776∧l.length≤1099511627776∧ModestL l
def ModestL:List Itm→Prop
 | []=>True
 | x::l=>Modest x∧ModestL l
end
theorem Modest.parts {x:Itm}(h:Modest x):x.bytes.length≤1099511627776∧x.items.length≤1099511627776∧ModestL x.items:=by cases x;rw[Modest]at h;exact h
theorem ModestL.get:∀ {l:List Itm},ModestL l→∀ (k:Nat) (hk:k<l.length),Modest l[k]
 | [],_,k,hk=>by simp at hk
 | x::l,h,0,hk=>by rw[ModestL]at h;exact h.1
 | x::l,h,k+1,hk=>by rw[ModestL]at h;exact h.2.get k (by simpa using hk)
theorem ModestL.of:∀ {l:List Itm},(∀ x∈l,Modest x)→ModestL l
 | [],_=>by rw[ModestL];trivial
 | x::l,h=>by rw[ModestL];exact⟨h x (by simp),ModestL.of fun y hy=>h y (by simp[hy])⟩
def oT (key:List UInt8):List Itm→Option Itm
 | a::b::r=>if zi a=key then some b else oT key r
 | _=>none
def yo (m key:Itm):Option Itm:=if m.kind=5∧zU m=true∧zU key=true then oT (zi key) m.items else none
abbrev zn:Itm:=.mk 0 0 [] []
theorem tM {x:Itm}(h:zU x=true) (h5:x.kind=5):x.items.length%2=0:=by
 obtain⟨p,hp⟩:=Option.isSome_iff_exists.1 h;rw[mV]at hp
 split at hp
 ·cases hp
 split at hp
 ·rename_i h1
  rw[zH]at h1
  omega
 split at hp
 ·cases hp
 rename_i h1
 exact(y5 (by simpa using h1)).2.2.2.2.2.2 h5
theorem vq {x:Itm}(h:zU x=true):x.bytes.length≤4096∧x.items.length≤256∧KindsL x.items∧(zG x.items).length≤4096:=by
 obtain⟨hk,hc,he⟩:=vN h;obtain⟨p,hp⟩:=Option.isSome_iff_exists.1 h;rw[mV]at hp
 split at hp
 ·cases hp
 rename_i h0
 refine⟨by omega,by omega,hk.items, ?_⟩
 split at hp
 ·rename_i h1
  split at hp
  ·rename_i h2
   rw[(xQ h1 h2.1).1]
   simp[zG]
  cases hp
 split at hp
 ·cases hp
 rename_i h1
 have:=y5 (by simpa using h1);rw[xJ,if_neg (by omega),if_neg (by omega)]at he
 simp only[List.length_append]at he
 omega
theorem UO (l:List Itm) (k:Nat) (hk:k<l.length):(zi l[k]).length≤(zG l).length:=by
 have a1:=vK l k hk;have a2:=qO l (k+1);rw[a1]at a2
 simp only[List.length_append]at a2
 omega
mutual
theorem jI:∀ (x:Itm) (lv i s:Nat) (p:Nat×Nat),chk x lv i s=some p→Modest x
 | .mk k n bs l,lv,i,s,p,h=>by
  rw[chk]at h
  split at h
  ·cases h
  rename_i h0
  rw[Modest]
  refine⟨by omega,by omega, ?_⟩
  split at h
  ·rename_i h1
   split at h
   ·rename_i h2
    rw[show l=[] from(xQ h1 h2.1).1,ModestL];trivial
   cases h
  split at h
  ·cases h
  split at h
  ·cases h
  split at h
  ·cases h
  rename_i q hq
  exact lV l _ _ _ _ hq
theorem lV:∀ (l:List Itm) (lv i s:Nat) (p:Nat×Nat),sK l lv i s=some p→ModestL l
 | [],_,_,_,_,_=>by rw[ModestL];trivial
 | x::l,lv,i,s,p,h=>by
  rw[sK]at h
  split at h
  ·cases h
  rename_i q hq
  rw[ModestL]
  exact⟨jI x _ _ _ _ hq,lV l _ _ _ _ h⟩
end
theorem yQ {x:Itm}(h:zU x=true):Modest x:=by
 obtain⟨p,hp⟩:=Option.isSome_iff_exists.1 h
 exact jI _ _ _ _ _ hp
theorem aJ (key:List UInt8) (l:List Itm) (k:Nat) (hk:k+1<l.length):oT key (l.drop k)=if zi l[k]=key then some l[k+1] else oT key (l.drop (k+2)):=by
 rw[List.drop_eq_getElem_cons (show k<l.length by omega),List.drop_eq_getElem_cons hk,oT]
def zZ (n:Int):Itm:=if n<0 then .mk 1 (-1-n).toNat [] [] else .mk 0 n.toNat [] []
def wg (x:Itm):Bool:=(x.kind==0||x.kind==1)&&decide (x.n≤65535)
def wI (a b:Itm):Bool :=
 if a.kind=3 then true else if wg a=false then false else if a.kind=1 then true
 else if a.n=1 then wg b&&(b.kind==1||b.n != 0) else if a.n=4∨a.n=5∨a.n=6∨a.n=12 then b.kind==2 else true
structure Ad where
 ba:Option Addr
 bc:Nat
 ia:Option Addr
 ic:Nat
abbrev zF (p:Itm) (a:Ad) (u:Itm) (b:Ad):Array Value :=
 #[.int .i64 p.kind,.int .u64 p.n,.slice a.ba p.bytes.length a.bc,.slice a.ia p.items.length a.ic,.int .i64 u.kind,.int .u64 u.n,.slice b.ba u.bytes.length b.bc,.slice b.ia u.items.length b.ic]
def vT (p u:Itm) (n:Int):Option Itm:=match yo p (zZ n) with
 | some x=>some x
 | none=>yo u (zZ n)
def sJ:List Itm→Bool
 | a::b::r=>wI a b&&sJ r
 | _=>true
def tq (m:Itm):Bool:=m.kind==5&&zU m&&sJ m.items
def xL (u:Itm):List Itm→Bool
 | a::_::r=>(yo u a).isNone&&xL u r
 | _=>true
def nZ (p:Itm):Bool:=match yo p (zZ 2) with
 | none=>true
 | some c=>(c.items.all fun x=>(yo p x).isSome)&&c.kind==4&&decide (0<c.items.length)
def zI (p u:Itm):Bool:=tq p&&tq u&&xL u p.items && !((yo u (zZ 2)).isSome||((vT p u 5).isSome&&(vT p u 6).isSome))&&nZ p
theorem aj (l:List Itm) (k:Nat) (hk:k+1<l.length):sJ (l.drop k)=(wI l[k] l[k+1]&&sJ (l.drop (k+2))):=by
 rw[List.drop_eq_getElem_cons (show k<l.length by omega),List.drop_eq_getElem_cons hk,sJ]
theorem iI (u:Itm) (l:List Itm) (k:Nat) (hk:k+1<l.length):xL u (l.drop k)=((yo u l[k]).isNone&&xL u (l.drop (k+2))):=by
 rw[List.drop_eq_getElem_cons (show k<l.length by omega),List.drop_eq_getElem_cons hk,xL]
def wP (p:Itm):List UInt8:=if p.items.length=0 then [] else zi p
theorem xr {p u:Itm}(h:zI p u=true):zU p=true∧zU u=true∧p.kind=5∧u.kind=5:=by
 simp[zI,tq]at h
 exact⟨h.1.1.1.1.1.2,h.1.1.1.2.1.2,h.1.1.1.1.1.1,h.1.1.1.2.1.1⟩
def Tabs (H:Snap):Prop:=∀ w,Holds w H→Lib.Utf8Tabs 0 1 w
theorem Tabs.mono {H K:Snap}(h:Tabs H) (hl:H.le K):Tabs K:=fun w hw=>h w (hw.mono hl)
theorem Zz (l:List UInt8) (i:Nat):(l.map fun u=>(u.toNat:Int)).getD i 0=((l.getD i 0).toNat:Int):=by
 simp[List.getD]
 cases h:l[i]? <;> simp
theorem lC (l:List UInt8):strOfNums (l.map fun u=>(u.toNat:Int))=⟨l.toArray⟩:=by
 have h:(fun n:Int=>UInt8.ofNat n.toNat) ∘ (fun u:UInt8=>(u.toNat:Int))=id:=by funext u;simp
 unfold strOfNums
 simp[h]
theorem vP {w:World}{A:Option Addr}{l:List UInt8}(h:Src w A (l.map zq)) (n c:Nat) (hn:n=l.length) :
  (convert 23 9 (.slice A n c)).run Tryz.prog w=.ok (.string ⟨l.toArray⟩) w:=by
 subst hn
 by_cases hl:l=[]
 ·subst hl
  cases A with
  | none=>exact run_convert_bytes_nil w _ 5 Tryz.underlying23 Tryz.underlying5 _ _ _ Tryz.underlying9
  | some a =>
  obtain⟨b,off,spot⟩:=a;rw[run_convert_bytes_string w _ _ 5 _ _ c Tryz.underlying23 Tryz.underlying5 Tryz.underlying9];rfl
 obtain⟨b,off,rfl,hc⟩:=h (by simpa using hl)
 have:=run_convert_bytes_arg (P:=Tryz.prog) w 23 5 Tryz.underlying23 Tryz.underlying5 b off l.length c (l.map fun u=>(u.toNat:Int)) (by simp)
  (fun i hi=>by rw[Zz,hc i (zq l[i]) (by simp[hi])];simp[List.getD,hi]) _ Tryz.underlying9
 rw[this,lC]
theorem lT (w:World) (A B:Option Addr) (a b:List UInt8) (n m c d:Nat) (hn:n=a.length) (hm:m=b.length) (ha:Src w A (a.map zq)) (hb:Src w B (b.map zq)) :
  Calls Tryz.prog 61 #[.slice A n c,.slice B m d] w fun e w'=>e=.returned (.bool (a==b))∧w=w':=by
 have h1:=vP ha n c hn;have h2:=vP hb m d hm;clear hn hm ha hb;go_enter Tryz.func61,Tryz.ntmps61
 go_wp2
 go_ret
 exact⟨rfl,rfl⟩
theorem oR {P:Program}{w:World}(b:Nat):∀ (l:List UInt8) (off:Nat) (acc:ByteArray),(∀ j v,(l.map zq)[j]? = some v→w.cell? ⟨b,off+j,none⟩=some v)→
  (Extern.Bytes.loadBytes ⟨b,off,none⟩ l.length acc).run P w=.ok ⟨acc.data++l.toArray⟩ w
 | [],off,acc,_=>by simp[Extern.Bytes.loadBytes]
 | u::l,off,acc,h=>by
  have h0:=h 0 (zq u) rfl;have ih:=oR (P:=P) b l (off+1) (acc.push u) (fun j v hj=>by rw[show off+1+j=off+(j+1) by omega];exact h (j+1) v (by simpa using hj))
  simp only[List.length_cons,Extern.Bytes.loadBytes]
  simp[load,Sem.run,Result.andThen,zq]at h0⊢
  simp[h0,qx,ByteArray.push]
  rw[show(⟨acc.data.push u⟩:ByteArray)=acc.push u from rfl,ih];congr 2
  simp[ByteArray.push]
theorem lm {P:Program}{w:World}{A:Option Addr}{l:List UInt8}(h:Src w A (l.map zq)) (n c:Nat) (hn:n=l.length) :
  (Extern.Bytes.bytesOf (.slice A n c)).run P w=.ok ⟨l.toArray⟩ w:=by
 subst hn
 by_cases hl:l=[]
 ·subst hl
  cases A with
  | none=>rfl
  | some a=>rfl
 obtain⟨b,off,rfl,hc⟩:=h (by simpa using hl);have:=oR (P:=P) b l off .empty hc
 simp only[Extern.Bytes.bytesOf]
 rw[this]
 simp[ByteArray.empty,ByteArray.emptyWithCapacity]
 rfl
theorem dJ {P:Program}{w:World}{A B:Option Addr}{a b:List UInt8}(ha:Src w A (a.map zq)) (hb:Src w B (b.map zq)) (n m c d:Nat) (hn:n=a.length) (hm:m=b.length) :
  (Extern.BytealgCompare.compare #[.slice A n c,.slice B m d]).run P w=.ok (.int .i64 (Lib.compareBytes a b)) w:=by
 change Sem.run P (do pure (goInt (Extern.BytealgCompare.cmp (← Extern.Bytes.bytesOf (.slice A n c)) (← Extern.Bytes.bytesOf (.slice B m d))))) w=_
 simp only[Sem.run_bind,Sem.run_pure,Result.andThen,lm ha n c hn,lm hb m d hm]
 rw[Lib.cmp_eq];rfl
theorem oP (w:World) (A B:Option Addr) (a b:List UInt8) (n m c d:Nat) (hn:n=a.length) (hm:m=b.length) (ha:Src w A (a.map zq)) (hb:Src w B (b.map zq)) :
  Calls Tryz.prog 110 #[.slice A n c,.slice B m d] w fun e w'=>e=.returned (.int .i64 (Lib.compareBytes a b))∧w=w':=by
 have h1:=Hh (dJ (P:=Tryz.prog) ha hb n m c d hn hm);clear hn hm ha hb;go_enter Tryz.func110,Tryz.ntmps110
 go_wp2
 rw[run_callFunc_extern Tryz.func139 (by kernel_rfl) (by kernel_rfl) (by kernel_rfl) (e:=Extern.BytealgCompare.compare) (by kernel_rfl),h1.out]
 simp only[Result.andThen]
 rw[Oper.upon_value];go_wp2
 go_ret
 exact⟨rfl,rfl⟩
theorem pI (w:World) (A:Option Addr) (l:List UInt8) (n c:Nat) (hn:n=l.length) (hl:l.length≤1099511627776) (hs:Src w A (l.map zq)) :
  Calls Tryz.prog 47 #[.slice A n c] w fun e w'=>∃ r,e=.returned r∧Fresh w l r w':=by
 cases A with
 | none =>
  have h0:l=[]:=by
   cases l with
   | nil=>rfl
   | cons a l=>obtain⟨b,off,h,_⟩:=hs (by simp);cases h
  subst h0;have he:=fun w:World=>Lib.run_eql_slice_nil (P:=Tryz.prog) w _ _ none n c 0 0 Tryz.underlying23
  clear hn hl;go_enter Tryz.func47,Tryz.ntmps47
  go_wp2
  go_ret
  exact⟨_,rfl,OwnB.nil _ _,Below.refl _ _⟩
 | some a =>
 have he:=fun w:World=>Lib.run_eql_slice_nil (P:=Tryz.prog) w _ _ (some a) n c 0 0 Tryz.underlying23
 simp only[Option.isNone]at he
 have HN:=Hh hn;clear hn;go_enter Tryz.func47,Tryz.ntmps47
 go_wp2_with (at_builtin;refine zM ?_)
 unfold zD
 have h0:OwnB (w.alloc (.cells #[] 5)) w.heap.size (.slice (some ⟨w.heap.size,0,none⟩) 0 0) []:=OwnB.lit w _ [] #[] 0 rfl rfl (Nat.le_refl _) (by simp)
 refine zo rfl (.tmp 5) (.tmp 6) rfl w.heap.size _ [] rfl h0 (some a) n c l rfl HN.out ?_ (by simpa using hl) (by simp) ?_
 ·exact hs.alloc _
 intro v' w' y7 hg _
 have hf:Fresh w l v' w':=⟨by rw[List.nil_append]at y7;exact y7,(zu w _).grown hg (by simp) (fun k hk=>(h0.lt k hk).1)⟩
 clear y7 hg h0;go_wp2
 go_ret
 exact⟨_,rfl,hf⟩
theorem fO (w:World) (A:Option Addr) (l:List UInt8) (n c:Nat) (hn:n=l.length) (hl:l.length≤1099511627776) (hs:Src w A (l.map zq)) :
  Calls Tryz.prog 93 #[.slice A n c] w fun e w'=>∃ r,e=.returned r∧Fresh w l r w':=by
 cases A with
 | none =>
  have h0:l=[]:=by
   cases l with
   | nil=>rfl
   | cons a l=>obtain⟨b,off,h,_⟩:=hs (by simp);cases h
  subst h0;have he:=fun w:World=>Lib.run_eql_slice_nil (P:=Tryz.prog) w _ _ none n c 0 0 Tryz.underlying23
  clear hn hl;go_enter Tryz.func93,Tryz.ntmps93
  go_wp2
  go_ret
  exact⟨_,rfl,OwnB.nil _ _,Below.refl _ _⟩
 | some a =>
 have he:=fun w:World=>Lib.run_eql_slice_nil (P:=Tryz.prog) w _ _ (some a) n c 0 0 Tryz.underlying23
 simp only[Option.isNone]at he
 have HN:=Hh hn;clear hn;go_enter Tryz.func93,Tryz.ntmps93
 go_wp2_with (at_builtin;refine zM ?_)
 unfold zD
 have h0:OwnB (w.alloc (.cells #[] 5)) w.heap.size (.slice (some ⟨w.heap.size,0,none⟩) 0 0) []:=OwnB.lit w _ [] #[] 0 rfl rfl (Nat.le_refl _) (by simp)
 refine zo rfl (.tmp 5) (.tmp 6) rfl w.heap.size _ [] rfl h0 (some a) n c l rfl HN.out ?_ (by simpa using hl) (by simp) ?_
 ·exact hs.alloc _
 intro v' w' y7 hg _
 have hf:Fresh w l v' w':=⟨by rw[List.nil_append]at y7;exact y7,(zu w _).grown hg (by simp) (fun k hk=>(h0.lt k hk).1)⟩
 clear y7 hg h0;go_wp2
 go_ret
 exact⟨_,rfl,hf⟩
theorem IsItem.plain (H:Snap) (k:Int) (n:Nat) (hk : -9223372036854775808≤k∧k≤9223372036854775807) (hn:n<18446744073709551616):IsItem H none 0 none 0 (.mk k n [] []):=by
 rw[IsItem]
 exact⟨⟨hk.1,hk.2,hn,Nat.le_refl _,by omega⟩,IsBytes.nil H,fun h=>absurd h (by simp)⟩
theorem Gives.plain {w w':World}{H:Snap}{k n:Int}{m:Nat}(hH:Holds w H) (hb:Below w.heap.size w w') (hk : -9223372036854775808≤k∧k≤9223372036854775807) (hm:m<18446744073709551616) (hn:n=(m:Int)) :
  Gives w H (.mk k m [] []) (.agg #[.int .i64 k,.int .u64 n,.slice none 0 0,.slice none 0 0]) w':=by
 subst hn
 exact⟨none,0,none,0,H,rfl,Grows.of_below hH hb,IsItem.plain H k m hk hm⟩
theorem Fresh.gives {w w1:World}{H:Snap}{l:List UInt8}{r:Value}{k:Int}(hH:Holds w H) (h:Fresh w l r w1) (hk : -9223372036854775808≤k∧k≤9223372036854775807) :
  Gives w H (.mk k 0 l []) (.agg #[.int .i64 k,.int .u64 0,r,.slice none 0 0]) w1:=by
 obtain⟨A,c,rfl,_⟩:=h.own.form;obtain⟨H',hl,hh,hf,_,hi⟩:=h.own.snap (hH.below h.2 (Nat.le_refl _)) (fun g hg=>hH.none_of_ge (h.own.lt g (by cases A <;> simp_all [Value.ownBlock])).1)
 refine⟨A,c,none,0,H',rfl,⟨h.2,hl,hh,fun b o hb=>?_⟩, ?_⟩
 ·rcases hf b o hb with h1 | h1
  ·exact .inl h1
  exact .inr (h.own.lt b (by cases A <;> simp_all [Value.ownBlock])).1
 rw[IsItem]
 exact⟨⟨hk.1,hk.2,by omega,Nat.le_refl _,by omega⟩,hi,fun h=>absurd h (by simp)⟩
theorem Grows.own {w wA w1 w':World}{H H':Snap}{g:Nat}(hA:Below w.heap.size w wA) (hH:Holds w H) (h:Grows wA H w1 H') (hg:w1.grownBy w' (some g)) (h1:w.heap.size≤g) (h2:g<wA.heap.size):Grows w H w' H' :=
 ⟨(hA.trans (h.below.mono hA.size)).grown hg (Nat.le_trans hA.size h.below.size) (by rintro k ⟨⟩;exact h1),h.le,h.holds.grown hg (by rintro k ⟨⟩;exact h.none (hH.none_of_ge h1) h2),fun b o hb=>by
  rcases h.fresh b o hb with h | h
  ·exact .inl h
  exact .inr (Nat.le_trans hA.size h)⟩
theorem Gives.own {w wA w1 w':World}{H:Snap}{x:Itm}{v:Value}{g:Nat}(hA:Below w.heap.size w wA) (hH:Holds w H) (h:Gives wA H x v w1) (hg:w1.grownBy w' (some g)) (h1:w.heap.size≤g) (h2:g<wA.heap.size):Gives w H x v w':=by
 obtain⟨ba,bc,ia,ic,H',e,hG,hi⟩:=h
 exact⟨ba,bc,ia,ic,H',e,hG.own hA hH hg h1 h2,hi⟩
theorem ua (a b c d:Value) (ha:a.oneCell'=true) (hb:b.oneCell'=true) (hc:c.oneCell'=true) (hd:d.oneCell'=true):(#[a,b,c,d]:Array Value).all (·.oneCell')=true:=by simp[ha,hb,hc,hd]
theorem XL (n:Nat) (hn:n<18446744073709551616) {H:Snap}(w:World) (hH:Holds w H) :
  Calls Tryz.prog 107 #[.int .u64 n] w fun e w'=>∃ v,e=.returned v∧Gives w H (.mk 0 n [] []) v w':=by
 have HN:=Hh hn;clear hn;go_enter Tryz.func107,Tryz.ntmps107
 go_wp2_with fail
 refine zO rfl rfl (Blk.new _ _ _) rfl rfl zp rfl ?_
 exact⟨_,rfl,Gives.plain hH (zu _ _) (by omega) HN.out rfl⟩
theorem sA (n:Int) (h1 : -9223372036854775808≤n) (h2:n≤9223372036854775807) {H:Snap}(w:World) (hH:Holds w H) :
  Calls Tryz.prog 70 #[.int .i64 n] w fun e w'=>∃ v,e=.returned v∧Gives w H (zZ n) v w':=by
 by_cases h0:n<0
 ·have E:Hid (zZ n=.mk 1 (-1-n).toNat [] []∧(-1-n).toNat<18446744073709551616∧-1-n=((-1-n).toNat:Int)):=⟨by rw[zZ,if_pos h0],by omega,by omega⟩
  have K1:IntKind.u64.wrap (-1-n) = -1-n:=by rw[IntKind.wrap_u64];omega
  have K0:IntKind.i64.wrap (-1-n) = -1-n:=IntWalk.i64_in _ (by omega);clear h1 h2;go_enter Tryz.func70,Tryz.ntmps70
  go_wp2_with fail
  refine zO rfl rfl (Blk.new _ _ _) rfl rfl zp rfl ?_
  rw[E.out.1]
  exact⟨_,rfl,Gives.plain hH (zu _ _) (by omega) E.out.2.1 E.out.2.2⟩
 have E:Hid (zZ n=.mk 0 n.toNat [] []∧n.toNat<18446744073709551616∧n=(n.toNat:Int)):=⟨by rw[zZ,if_neg h0],by omega,by omega⟩
 have K1:IntKind.u64.wrap n=n:=by rw[IntKind.wrap_u64];omega
 have U:=Hh (XL n.toNat E.out.2.1 (w.alloc (.cells #[.int .i64 0,.int .u64 0,.slice none 0 0,.slice none 0 0] 26)) (hH.alloc _));rw[← E.out.2.2]at U;have hn:=Int.not_lt.1 h0;clear h1 h2 h0;go_enter Tryz.func70,Tryz.ntmps70
 go_wp2_with fail
 refine U.out.mono ?_
 rintro e w1 ⟨v,rfl,hg⟩
 have HG:=Hh hg;obtain⟨ba,bc,ia,ic,H',rfl,hg,hi⟩:=hg;have hB:=(Blk.new w 26 #[.int .i64 0,.int .u64 0,.slice none 0 0,.slice none 0 0]).below hg.below;go_wp2_with (with_reducible refine zx ?_)
 refine zv rfl _ _ _ rfl rfl _ _ rfl rfl _ _ hB zp rfl (ua _ _ _ _ rfl rfl rfl rfl) fun w2 yF xB=>?_
 go_wp2_with fail
 refine zO rfl rfl yF rfl rfl zp rfl ?_
 rw[E.out.1]
 exact⟨_,rfl,HG.out.own (zu _ _) hH xB (Nat.le_refl _) (by simp)⟩
theorem rv {A:Option Addr}{n c:Nat}{l:List UInt8}(hn:n=l.length) (hl:l.length≤1099511627776) {H:Snap}(w:World) (hs:Src w A (l.map zq)) (hH:Holds w H) :
  Calls Tryz.prog 51 #[.slice A n c] w fun e w'=>∃ v,e=.returned v∧Gives w H (.mk 2 0 l []) v w':=by
 have C:=Hh (fO (w.alloc (.cells #[.int .i64 0,.int .u64 0,.slice none 0 0,.slice none 0 0] 26)) A l n c hn hl (hs.alloc _));clear hn;go_enter Tryz.func51,Tryz.ntmps51
 go_wp2_with fail
 refine C.out.mono ?_
 rintro e w1 ⟨r,rfl,hf⟩
 have hB:=(Blk.new w 26 #[.int .i64 0,.int .u64 0,.slice none 0 0,.slice none 0 0]).below hf.2;have HF:=Hh (hf.gives (k:=2) (hH.alloc (.cells #[.int .i64 0,.int .u64 0,.slice none 0 0,.slice none 0 0] 26)) (by omega));obtain⟨A',c',rfl,_⟩:=hf.own.form;go_wp2_with (with_reducible refine zx ?_)
 refine zv rfl _ _ _ rfl rfl _ _ rfl rfl _ _ hB zp rfl (ua _ _ _ _ rfl rfl rfl rfl) fun w2 yF xB=>?_
 go_wp2_with fail
 refine zO rfl rfl yF rfl rfl zp rfl ?_
 exact⟨_,rfl,HF.out.own (zu _ _) hH xB (Nat.le_refl _) (by simp)⟩
theorem lW {w:World}{H:Snap}(hH:Holds w H) (s:ByteArray) (hl:s.size≤1099511627776) :
  ∃ g c w',(convert 9 23 (.string s)).run Tryz.prog w=.ok (.slice (some ⟨g,0,none⟩) s.size c) w'∧Below w.heap.size w w'∧∃ H',Grows w H w' H'∧IsBytes H' (some ⟨g,0,none⟩) c s.data.toList:=by
 refine⟨_,_,_,run_bytes_of_string (P:=Tryz.prog) w 9 23 5 s Tryz.underlying9 Tryz.underlying23 Tryz.underlying5, ?_, ?_⟩
 ·exact(Below.refl _ _).drew.alloc (Nat.le_refl _) _
 obtain⟨o,ho⟩:∃ o,o=Obj.cells (bytesRow s (grownCap w s.size 0 5)) 5 ((bytesRow s (grownCap w s.size 0 5)).size,(bytesRow s (grownCap w s.size 0 5)).size+1):=⟨_,rfl⟩
 rw[← ho];have h0:H w.heap.size=none:=hH.none_of_ge (Nat.le_refl _)
 refine⟨H.with w.heap.size o,⟨(Below.refl _ _).drew.alloc (Nat.le_refl _) _,Snap.le_with h0,(hH.drew.alloc o).with (heap_alloc_new w.drew o),fun b x hb=>?_⟩, ?_, ?_, ?_⟩
 ·unfold Snap.with at hb
  split at hb
  ·subst b;exact .inr (Nat.le_refl _)
  exact .inl hb
 ·simpa using grownCap_ge w s.size 0 5
 ·have:=grownCap_le_maxLen w s.size 0 5 (by simp only[maxLen];omega)
  simpa [maxLen] using this
 refine fun _=>⟨w.heap.size,0,rfl,fun j v hj=>?_⟩
 have lN:j<s.data.size:=by
  have:=(List.getElem?_eq_some_iff.1 hj).1
  simpa using this
 subst ho
 simp only[Snap.cell?,Snap.with,if_true,Nat.zero_add,Option.isSome,Bool.false_eq_true,if_false]
 rw[bytesRow_at s _ j lN]
 simp at hj
 obtain⟨a,h1,h2⟩:=hj;rw[Array.getElem?_eq_getElem lN]at h1;injection h1 with h1
 rw[h1,← h2]
theorem XK (s:ByteArray) (hl:s.size≤1099511627776) {H:Snap}(w:World) (hH:Holds w H) :
  Calls Tryz.prog 50 #[.string s] w fun e w'=>∃ v,e=.returned v∧Gives w H (.mk 3 0 s.data.toList []) v w':=by
 obtain⟨g,c,w1,hr,hb,H',hG,hi⟩:=lW (hH.alloc (.cells #[.int .i64 0,.int .u64 0,.slice none 0 0,.slice none 0 0] 26)) s hl;have hB:=(Blk.new w 26 #[.int .i64 0,.int .u64 0,.slice none 0 0,.slice none 0 0]).below hb
 have HI:Gives (w.alloc (.cells #[.int .i64 0,.int .u64 0,.slice none 0 0,.slice none 0 0] 26)) H (.mk 3 0 s.data.toList []) (.agg #[.int .i64 3,.int .u64 0,.slice (some ⟨g,0,none⟩) s.size c,.slice none 0 0]) w1:=by
  refine⟨some ⟨g,0,none⟩,c,none,0,H',by simp[xR,Itm.kind,Itm.n,Itm.bytes,Itm.items],hG, ?_⟩
  rw[IsItem]
  exact⟨⟨by omega,by omega,by omega,Nat.le_refl _,by omega⟩,hi,fun h=>absurd h (by simp)⟩
 have Im:=Hh HI;clear hb hi HI;go_enter Tryz.func50,Tryz.ntmps50
 go_wp2_with (with_reducible refine zx ?_)
 refine zv rfl _ _ _ rfl rfl _ _ rfl rfl _ _ hB zp rfl (ua _ _ _ _ rfl rfl rfl rfl) fun w2 yF xB=>?_
 go_wp2_with fail
 refine zO rfl rfl yF rfl rfl zp rfl ?_
 exact⟨_,rfl,Im.out.own (zu _ _) hH xB (Nat.le_refl _) (by simp)⟩
def xZ (x:Itm) (lv:Nat):Bool:=if ye x=true then yu x else wR x lv
mutual
def Good:Itm→Nat→Prop
 | .mk k n bs l,lv=>xZ (.mk k n bs l) lv=true∧GoodL l (lv+1)∧(k=5→xe l=true)
def GoodL:List Itm→Nat→Prop
 | [],_=>True
 | x::l,lv=>Good x lv∧GoodL l lv
end
theorem Good.node {x:Itm}{lv:Nat}(h:Good x lv):xZ x lv=true:=by cases x;rw[Good]at h;exact h.1
theorem Good.items {x:Itm}{lv:Nat}(h:Good x lv):GoodL x.items (lv+1):=by cases x;rw[Good]at h;exact h.2.1
theorem Good.asc {x:Itm}{lv:Nat}(h:Good x lv) (h5:x.kind=5):xe x.items=true:=by cases x;rw[Good]at h;exact h.2.2 h5
theorem Good.of {x:Itm}{lv:Nat}(h1:xZ x lv=true) (h2:GoodL x.items (lv+1)) (h3:x.kind=5→xe x.items=true):Good x lv:=by cases x;rw[Good];exact⟨h1,h2,h3⟩
theorem GoodL.get:∀ {l:List Itm}{lv:Nat},GoodL l lv→∀ x∈l,Good x lv
 | [],_,_,x,hx=>by cases hx
 | y::l,lv,h,x,hx=>by
  rw[GoodL]at h
  rcases List.mem_cons.1 hx with rfl | hx
  ·exact h.1
  exact h.2.get x hx
theorem GoodL.of:∀ {l:List Itm}{lv:Nat},(∀ x∈l,Good x lv)→GoodL l lv
 | [],_,_=>by rw[GoodL];trivial
 | y::l,lv,h=>by
  rw[GoodL]
  exact⟨h y (by simp),GoodL.of fun x hx=>h x (by simp[hx])⟩
theorem yX {x:Itm}{lv:Nat}(h:xZ x lv=true):(ye x=true∧yu x=true)∨(ye x=false∧wR x lv=true):=by
 unfold xZ at h
 cases hp:ye x with
 | true=>rw[if_pos hp]at h;exact .inl ⟨rfl,h⟩
 | false=>rw[if_neg (by simp[hp])]at h;exact .inr ⟨rfl,h⟩
theorem rX {x:Itm}{lv:Nat}(h:xZ x lv=true):0≤x.kind∧x.kind≤8:=by
 rcases yX h with ⟨h1,_⟩ | ⟨_,h1⟩
 ·rw[zH]at h1;omega
 have:=y5 h1;omega
theorem aL {x:Itm}{lv lv':Nat}(h:wR x lv=true) (hl:lv'≤lv):wR x lv'=true:=by
 obtain⟨h1,h2,h3,h4⟩:=y5 h
 exact decide_eq_true ⟨h1,h2,by omega,h4⟩
theorem Xr {x:Itm}{lv lv':Nat}(h:xZ x lv=true) (hl:lv'≤lv):xZ x lv'=true:=by
 rcases yX h with ⟨h1,h2⟩ | ⟨h1,h2⟩
 ·rw[xZ,if_pos h1];exact h2
 rw[xZ,if_neg (by simp[h1])];exact aL h2 hl
mutual
theorem Good.le:∀ {x:Itm}{lv lv':Nat},Good x lv→lv'≤lv→Good x lv'
 | .mk k n bs l,lv,lv',h,hl=>by
  rw[Good]at h⊢
  exact⟨Xr h.1 hl,GoodL.le h.2.1 (by omega),h.2.2⟩
theorem GoodL.le:∀ {l:List Itm}{lv lv':Nat},GoodL l lv→lv'≤lv→GoodL l lv'
 | [],_,_,_,_=>by rw[GoodL];trivial
 | x::l,lv,lv',h,hl=>by
  rw[GoodL]at h⊢
  exact⟨Good.le h.1 hl,GoodL.le h.2 hl⟩
end
theorem oD {x:Itm}{lv:Nat}(h:xZ x lv=true) (hp:ye x=true):x.items=[]∧(x.kind=8∨x.kind=7→x.bytes=[]):=by
 rcases yX h with ⟨_,h2⟩ | ⟨h1,_⟩
 ·exact xQ hp h2
 rw[hp]at h1;cases h1
theorem pT {x:Itm}{lv:Nat}(h:xZ x lv=true):(zi x).length=zE x+(zG x.items).length:=by
 cases hp:ye x with
 | true =>
  obtain⟨h1,h2⟩:=oD h hp;rw[← gj x h1 h2,h1,zG];simp
 | false =>
 rcases yX h with ⟨h1,_⟩ | ⟨_,h2⟩
 ·rw[hp]at h1;cases h1
 have hf:=y5 h2;rw[xJ,if_neg (by omega),if_neg (by omega),mT x (by omega) (by omega)]
 simp;omega
theorem pP {x:Itm}{lv:Nat}(h:xZ x lv=true):x.bytes.length≤zE x:=by
 by_cases h8:x.kind=8
 ·have:=(oD h ((zH x).2 (by omega))).2 (by omega);rw[this];simp
 by_cases h7:x.kind=7
 ·have:=(oD h ((zH x).2 (by omega))).2 (by omega);rw[this];simp
 rw[mT x h8 h7];omega
theorem js:∀ l:List Itm,l.length≤vY l
 | []=>by simp[vY]
 | x::l=>by
  have:=js l;have h:0<cnt x:=by cases x;rw[cnt];omega
  rw[vY];simp;omega
theorem fd (x:Itm):cnt x=vY x.items+1:=by cases x;rw[cnt];rfl
mutual
theorem df:∀ (x:Itm) (lv i s:Nat) (p:Nat×Nat),chk x lv i s=some p→Good x lv
 | .mk k n bs l,lv,i,s,p,h=>by
  rw[chk]at h
  split at h
  ·cases h
  split at h
  ·rename_i hp
   split at h
   ·rename_i ho
    have hi:=(xQ hp ho.1).1;have hk:=(zH _).1 hp
    simp only[Itm.items,Itm.kind]at hi hk
    subst hi;rw[Good,GoodL]
    exact⟨by rw[xZ,if_pos hp];exact ho.1,trivial,fun h=>by omega⟩
   cases h
  rename_i hp
  split at h
  ·cases h
  rename_i hf
  split at h
  ·cases h
  split at h
  ·cases h
  rename_i q hq
  split at h
  ·cases h
  rename_i ha
  rw[Good]
  refine⟨by rw[xZ,if_neg hp];simpa using hf,gJ l _ _ _ _ hq,fun h5=>?_⟩
  cases hs:xe l with
  | true=>rfl
  | false=>exact absurd ⟨h5,hs⟩ ha
theorem gJ:∀ (l:List Itm) (lv i s:Nat) (p:Nat×Nat),sK l lv i s=some p→GoodL l lv
 | [],_,_,_,_,_=>by rw[GoodL];trivial
 | x::l,lv,i,s,p,h=>by
  rw[sK]at h
  split at h
  ·cases h
  rename_i q hq
  rw[GoodL]
  exact⟨df x _ _ _ _ hq,gJ l _ _ _ _ h⟩
end
mutual
theorem dp:∀ (x:Itm) (lv i s:Nat),Good x lv→i+cnt x≤256→s+(zi x).length≤4096→chk x lv i s=some (i+cnt x,s+(zi x).length)
 | .mk k n bs l,lv,i,s,h,hi,hs=>by
  have hn:=h.node;have Qd:=h.items;have has:=h.asc;have cH:=pT hn;have cO:=pP hn;have hc:=fd (.mk k n bs l);have hl:=js l
  simp only[Itm.items,Itm.bytes,Itm.kind]at *
  rw[chk,if_neg (by omega)]
  rcases yX hn with ⟨h1,h2⟩ | ⟨h1,h2⟩
  ·have h0:=(xQ h1 h2).1
   simp only[Itm.items]at h0
   subst h0;rw[zG]at cH;rw[vY]at hc
   simp only[List.length_nil]at cH
   rw[if_pos h1,if_pos ⟨h2,by omega⟩,hc,cH];congr 2
  rw[if_neg (by simp[h1]),if_neg (by simp[h2]),if_neg (by omega),gQ l (lv+1) (i+1) _ Qd (by omega) (by omega)]
  simp only
  rw[if_neg (by rintro⟨h5,ha⟩;rw[has h5]at ha;cases ha)];congr 2 <;> omega
theorem gQ:∀ (l:List Itm) (lv i s:Nat),GoodL l lv→i+vY l≤256→s+(zG l).length≤4096→sK l lv i s=some (i+vY l,s+(zG l).length)
 | [],lv,i,s,_,_,_=>by rw[sK,vY,zG];rfl
 | x::l,lv,i,s,h,hi,hs=>by
  rw[GoodL]at h;rw[vY]at hi⊢;rw[zG]at hs⊢
  simp only[List.length_append]at hs⊢
  rw[sK,dp x lv i s h.1 (by omega) (by omega)]
  simp only
  rw[gQ l lv _ _ h.2 (by omega) (by omega)];congr 2 <;> omega
end
theorem yw (x:Itm):zU x=true↔Good x 0∧cnt x≤256∧(zi x).length≤4096:=by
 constructor
 ·intro h
  obtain⟨p,hp⟩:=Option.isSome_iff_exists.1 h;have:=vN h
  exact⟨df _ _ _ _ _ hp,this.2.1,this.2.2⟩
 rintro⟨h1,h2,h3⟩
 rw[zU,dp x 0 0 0 h1 (by omega) (by omega)];rfl
mutual
def nY:Itm→Prop
 | .mk _ _ bs l=>bs.length≤4096∧tE l
def tE:List Itm→Prop
 | []=>True
 | x::l=>nY x∧tE l
end
def ym (x:Itm) (d m:Nat):Bool:=xZ x d&&decide (x.bytes.length≤4096)&&decide (x.items.length≤m)
mutual
def yZ:Itm→Nat→Nat→Option Nat
 | .mk k n bs l,c,d =>
 if c<1 then none
 else if ym (.mk k n bs l) d (c-1)=false then none
 else match xW l (c-1) (d+1) with
  | none=>none
  | some r=>if k=5∧xe l=false then none else some r
def xW:List Itm→Nat→Nat→Option Nat
 | [],c,_=>some c
 | x::l,c,d=>match yZ x c d with
  | none=>none
  | some r=>xW l r d
end
theorem uq (x:Itm) (c d:Nat):yZ x c d =
  if c<1 then none
  else if ym x d (c-1)=false then none
  else match xW x.items (c-1) (d+1) with
   | none=>none
   | some r=>if x.kind=5∧xe x.items=false then none else some r:=by
 cases x
 rw[yZ];rfl
theorem jW {x:Itm}{d m:Nat}(h:ym x d m=true):xZ x d=true∧x.bytes.length≤4096∧x.items.length≤m:=by
 simpa [ym,and_assoc] using h
mutual
theorem sV:∀ (x:Itm) (c d r:Nat),yZ x c d=some r→Good x d∧nY x∧r+cnt x=c
 | .mk k n bs l,c,d,r,h=>by
  rw[yZ]at h
  split at h
  ·cases h
  split at h
  ·cases h
  rename_i hn
  obtain⟨h1,h2,h3⟩:=jW (by simpa using hn)
  split at h
  ·cases h
  rename_i q hq
  split at h
  ·cases h
  rename_i ha
  injection h with h
  subst h;obtain⟨g1,g2,g3⟩:=oC l _ _ _ hq;rw[Good,nY,cnt]
  refine⟨⟨h1,g1,fun h5=>?_⟩,⟨h2,g2⟩,by omega⟩
  cases hs:xe l with
  | true=>rfl
  | false=>exact absurd ⟨h5,hs⟩ ha
theorem oC:∀ (l:List Itm) (c d r:Nat),xW l c d=some r→GoodL l d∧tE l∧r+vY l=c
 | [],c,d,r,h=>by
  rw[xW]at h;injection h with h
  subst h;rw[GoodL,tE,vY]
  exact⟨trivial,trivial,rfl⟩
 | x::l,c,d,r,h=>by
  rw[xW]at h
  split at h
  ·cases h
  rename_i q hq
  obtain⟨h1,h2,h3⟩:=sV x _ _ _ hq;obtain⟨g1,g2,g3⟩:=oC l _ _ _ h;rw[GoodL,tE,vY]
  exact⟨⟨h1,g1⟩,⟨h2,g2⟩,by omega⟩
end
mutual
theorem gR:∀ (x:Itm) (c d:Nat),Good x d→nY x→cnt x≤c→yZ x c d=some (c-cnt x)
 | .mk k n bs l,c,d,h,hs,hc=>by
  have hn:=h.node;have Qd:=h.items;have has:=h.asc;have QZ:=fd (.mk k n bs l);have hl:=js l;rw[nY]at hs
  simp only[Itm.items,Itm.bytes,Itm.kind]at *
  have hr:ym (.mk k n bs l) d (c-1)=true:=by
   have e2:l.length≤c-1:=by omega
   simp[ym,hn,Itm.bytes,Itm.items,hs.1,e2]
  rw[yZ,if_neg (by omega),if_neg (by simp[hr]),jN l (c-1) (d+1) Qd hs.2 (by omega)]
  simp only
  rw[if_neg (by rintro⟨h5,ha⟩;rw[has h5]at ha;cases ha)];congr 1;omega
theorem jN:∀ (l:List Itm) (c d:Nat),GoodL l d→tE l→vY l≤c→xW l c d=some (c-vY l)
 | [],c,d,_,_,_=>by rw[xW,vY];rfl
 | x::l,c,d,h,hs,hc=>by
  rw[GoodL]at h;rw[tE]at hs;rw[vY]at hc⊢;rw[xW,gR x c d h.1 hs.1 (by omega)]
  simp only
  rw[jN l _ d h.2 hs.2 (by omega)];congr 1;omega
end
mutual
theorem Good.small:∀ {x:Itm}{lv:Nat},Good x lv→(zi x).length≤4096→nY x
 | .mk k n bs l,lv,h,hl=>by
  have h1:=pT h.node;have h2:=pP h.node;have h3:=h.items
  simp only[Itm.items,Itm.bytes]at *
  rw[nY]
  exact⟨by omega,GoodL.small h3 (by omega)⟩
theorem GoodL.small:∀ {l:List Itm}{lv:Nat},GoodL l lv→(zG l).length≤4096→tE l
 | [],_,_,_=>by rw[tE];trivial
 | x::l,lv,h,hl=>by
  rw[GoodL]at h;rw[zG]at hl
  simp only[List.length_append]at hl
  rw[tE]
  exact⟨Good.small h.1 (by omega),GoodL.small h.2 (by omega)⟩
end
theorem Ur {x:Itm}{lv:Nat}(h:xZ x lv=true):zE x≤x.bytes.length+9:=by
 unfold zE
 split
 ·have:=rR x.n;omega
 split
 ·split <;> omega
 have:=(un x.kind.toNat (xp x)).2;omega
mutual
theorem Good.bytes:∀ {x:Itm}{lv:Nat},Good x lv→nY x→(zi x).length≤cnt x*4105
 | .mk k n bs l,lv,h,hs=>by
  have h1:=pT h.node;have h2:=Ur h.node;have h3:=h.items;have h4:=fd (.mk k n bs l);rw[nY]at hs
  simp only[Itm.items,Itm.bytes]at *
  have:=GoodL.bytes h3 hs.2
  omega
theorem GoodL.bytes:∀ {l:List Itm}{lv:Nat},GoodL l lv→tE l→(zG l).length≤vY l*4105
 | [],_,_,_=>by rw[zG,vY];simp
 | x::l,lv,h,hs=>by
  rw[GoodL]at h;rw[tE]at hs;rw[zG,vY];have h1:=Good.bytes h.1 hs.1;have h2:=GoodL.bytes h.2 hs.2
  simp only[List.length_append]
  omega
end
def ff (x:Itm):Bool:=(yZ x 256 0).isSome&&decide ((zi x).length≤4096)
theorem pC (x:Itm):ff x=zU x:=by
 rw[Bool.eq_iff_iff,yw];constructor
 ·intro h
  simp only[ff,Bool.and_eq_true,decide_eq_true_eq]at h
  obtain⟨r,hr⟩:=Option.isSome_iff_exists.1 h.1;obtain⟨h1,h2,h3⟩:=sV _ _ _ _ hr
  exact⟨h1,by omega,h.2⟩
 rintro⟨h1,h2,h3⟩
 simp only[ff,Bool.and_eq_true,decide_eq_true_eq]
 rw[gR x 256 0 h1 (h1.small h3) h2]
 exact⟨rfl,h3⟩
theorem sB:∀ a:List UInt8,Lib.compareBytes a a=0
 | []=>by rw[Lib.compareBytes]
 | x::a=>by rw[Lib.compareBytes,if_neg (UInt8.lt_irrefl x),if_neg (UInt8.lt_irrefl x)];exact sB a
theorem sT:∀ a b c:List UInt8,Lib.compareBytes a b<0→Lib.compareBytes b c<0→Lib.compareBytes a c<0
 | [],[],c,h,_=>by rw[Lib.compareBytes]at h;omega
 | [],y::b,[],_,h=>by rw[Lib.compareBytes]at h;omega
 | [],y::b,z::c,_,_=>by rw[Lib.compareBytes];omega
 | x::a,[],c,h,_=>by rw[Lib.compareBytes]at h;omega
 | x::a,y::b,[],_,h=>by rw[Lib.compareBytes]at h;omega
 | x::a,y::b,z::c,h,k=>by
  rw[Lib.compareBytes]at h k⊢
  by_cases h1:x<y
  ·by_cases h2:y<z
   ·have h3:x<z:=UInt8.lt_trans h1 h2;rw[if_pos h3];omega
   rw[if_neg h2]at k
   by_cases h3:z<y
   ·rw[if_pos h3]at k;omega
   have e:y=z:=UInt8.toNat_inj.1 (by rw[UInt8.lt_iff_toNat_lt]at h2 h3;omega);subst e;rw[if_pos h1];omega
  rw[if_neg h1]at h
  by_cases h2:y<x
  ·rw[if_pos h2]at h;omega
  rw[if_neg h2]at h;have e:x=y:=UInt8.toNat_inj.1 (by rw[UInt8.lt_iff_toNat_lt]at h1 h2;omega);subst e
  by_cases h3:x<z
  ·rw[if_pos h3];omega
  rw[if_neg h3]at k⊢
  by_cases h4:z<x
  ·rw[if_pos h4]at k;omega
  rw[if_neg h4]at k⊢
  exact sT a b c h k
def zg:List Itm→List (Itm×Itm)
 | a::b::r=>(a,b)::zg r
 | _=>[]
theorem xf:∀ {l:List Itm}{p:Itm×Itm},p∈zg l→p.1∈l∧p.2∈l
 | [],p,h=>by rw[zg]at h;cases h;intro _ _ _ h;cases h
 | [_],p,h=>by rw[zg]at h;cases h;intro _ _ _ h;cases h
 | a::b::r,p,h=>by
  rw[zg]at h
  rcases List.mem_cons.1 h with rfl | h
  ·simp
  have:=xf h
  simp[this.1,this.2]
theorem tL:∀ l:List Itm,sJ l=(zg l).all fun p=>wI p.1 p.2
 | []=>rfl
 | [_]=>rfl
 | a::b::r=>by rw[sJ,zg,List.all_cons,tL r]
theorem ru (u:Itm):∀ l:List Itm,xL u l=(zg l).all fun p=>(yo u p.1).isNone
 | []=>rfl
 | [_]=>rfl
 | a::b::r=>by rw[xL,zg,List.all_cons,ru u r]
theorem lY (k:List UInt8):∀ l:List Itm,oT k l=((zg l).find? fun p=>decide (zi p.1=k)).map (·.2)
 | []=>rfl
 | [_]=>rfl
 | a::b::r=>by
  rw[oT,zg,List.find?_cons]
  by_cases h:zi a=k
  ·simp[h]
  simp[h,lY k r]
mutual
def yp:Itm→Itm→Bool
 | .mk k n bs l,.mk k' n' bs' l'=>k==k'&&n==n'&&bs==bs'&&vU l l'
def vU:List Itm→List Itm→Bool
 | [],[]=>true
 | x::l,y::m=>yp x y&&vU l m
 | _,_=>false
end
mutual
theorem vh:∀ (x y:Itm),yp x y=true↔x=y
 | .mk k n bs l,.mk k' n' bs' l'=>by
  rw[yp]
  simp only[Bool.and_eq_true,beq_iff_eq,mS l l',Itm.mk.injEq,and_assoc]
theorem mS:∀ (l m:List Itm),vU l m=true↔l=m
 | [],[]=>by simp[vU]
 | [],y::m=>by simp[vU]
 | x::l,[]=>by simp[vU]
 | x::l,y::m=>by
  rw[vU]
  simp only[Bool.and_eq_true,vh x y,mS l m,List.cons.injEq]
end
def atL (key:Itm):List Itm→Option Itm
 | a::b::r=>if yp a key=true then some b else atL key r
 | _=>none
theorem qv (k:Itm):∀ l:List Itm,atL k l=((zg l).find? fun p=>yp p.1 k).map (·.2)
 | []=>rfl
 | [_]=>rfl
 | a::b::r=>by
  rw[atL,zg,List.find?_cons]
  by_cases h:yp a k=true
  ·simp[h]
  simp[h,qv k r]
theorem uj {k:Itm}{l:List Itm}:(atL k l).isSome=true↔∃ v,(k,v)∈zg l:=by
 rw[qv]
 simp only[Option.isSome_map,List.find?_isSome]
 constructor
 ·rintro⟨⟨a,b⟩,h1,h2⟩
  rw[vh]at h2
  exact⟨b,h2 ▸ h1⟩
 rintro⟨v,h⟩
 exact⟨_,h,(vh _ _).2 rfl⟩
def wO (x:Itm):Bool:=x.kind==3||wg x
def x9 (k v:Itm) (m:List Itm):Bool :=
 if yp k (zZ 1)=true then((v.kind==0&&decide (0<v.n))||v.kind==1)&&decide (v.n≤65535)
 else if yp k (zZ 2)=true then v.kind==4&&decide (0<v.items.length)&&v.items.all fun x=>(atL x m).isSome
 else if(yp k (zZ 4)||yp k (zZ 5)||yp k (zZ 6)||yp k (zZ 12))=true then v.kind==2 else true
def yf (m:List Itm):List Itm→Bool
 | a::b::r=>wO a&&x9 a b m&&yf m r
 | _=>true
def uC (p:List Itm):List Itm→Bool
 | a::_::r => !((atL a p).isSome||yp a (zZ 2))&&uC p r
 | _=>true
def wt (p u:Itm) (n:Int):Option Itm:=match atL (zZ n) p.items with
 | some x=>some x
 | none=>atL (zZ n) u.items
def yC (p u:Itm):Bool :=
 p.kind==5&&u.kind==5&&zU p&&zU u&&yf p.items p.items&&yf u.items u.items&&uC p.items u.items&&(!(wt p u 5).isSome || !(wt p u 6).isSome)
theorem tx (m:List Itm):∀ l:List Itm,yf m l=(zg l).all fun p=>wO p.1&&x9 p.1 p.2 m
 | []=>rfl
 | [_]=>rfl
 | a::b::r=>by rw[yf,zg,List.all_cons,tx m r]
theorem lf (p:List Itm):∀ l:List Itm,uC p l=(zg l).all fun q => !((atL q.1 p).isSome||yp q.1 (zZ 2))
 | []=>rfl
 | [_]=>rfl
 | a::b::r=>by rw[uC,zg,List.all_cons,lf p r]
theorem wZ (n:Nat):zZ (n:Int)=.mk 0 n [] []:=by
 rw[zZ,if_neg (by omega)];simp
theorem pS (n:Nat) (lv:Nat):Good (zZ (n:Int)) lv:=by
 rw[wZ,Good,GoodL]
 exact⟨rfl,trivial,fun h=>by omega⟩
theorem wV (n:Nat):zU (zZ (n:Int))=true:=by
 rw[yw]
 refine⟨pS n 0, ?_, ?_⟩
 ·rw[wZ,cnt,vY];omega
 rw[wZ,xJ];have:=(un (0:Int).toNat (xp (.mk 0 n [] []))).2
 simp[Itm.kind,Itm.bytes,Itm.items,zG]at *
 omega
def fw (x:Itm):Nat:=if x.kind=8 then 7 else x.kind.toNat
theorem aM (m n:Nat):∃ a t,yI m n=u8 (m*32+a)::t∧a<28:=by
 unfold yI
 repeat' split
 all_goals exact⟨_,_,rfl,by omega⟩
theorem cm (n:Nat):∃ a t,yM n=u8 (7*32+a)::t∧25≤a∧a<28:=by
 unfold yM
 repeat' split
 ·exact⟨25,_,rfl,by omega⟩
 ·exact⟨25,_,rfl,by omega⟩
 ·exact⟨26,_,rfl,by omega⟩
 exact⟨27,_,rfl,by omega⟩
theorem gL (x:Itm) (h:0≤x.kind∧x.kind≤8):∃ a t,zi x=u8 (fw x*32+a)::t∧a<28:=by
 rw[xJ,fw]
 by_cases h8:x.kind=8
 ·obtain⟨a,t,e,h1,h2⟩:=cm x.n;rw[if_pos h8,if_pos h8]
  exact⟨a,t,e,h2⟩
 rw[if_neg h8,if_neg h8]
 by_cases h7:x.kind=7∧24≤x.n
 ·rw[if_pos h7,h7.1]
  exact⟨24,[u8 x.n],rfl,by omega⟩
 rw[if_neg h7];obtain⟨a,t,e,h2⟩:=aM x.kind.toNat (xp x);rw[e]
 exact⟨a,_,by rw[List.cons_append,List.cons_append],h2⟩
theorem PH {x y:Itm}(hx:0≤x.kind∧x.kind≤8) (hy:0≤y.kind∧y.kind≤8) {r s:List UInt8}(h:zi x++r=zi y++s):fw x=fw y:=by
 obtain⟨a,t,e,ha⟩:=gL x hx;obtain⟨b,v,f,hb⟩:=gL y hy;rw[e,f,List.cons_append,List.cons_append]at h;injection h with h _
 have h':=congrArg UInt8.toNat h;rw[sD,sD]at h';have h1:fw x≤7:=by unfold fw;split <;> omega
 have h2:fw y≤7:=by unfold fw;split <;> omega
 omega
theorem sz {a b:Nat}(h:u8 a=u8 b):a%256=b%256:=by
 have:=congrArg UInt8.toNat h;rwa [sD,sD]at this
def rf (n:Nat):Nat:=if n<24 then n else if n<256 then 24 else if n<65536 then 25 else if n<4294967296 then 26 else 27
def nb (n:Nat):List UInt8:=if n<24 then [] else if n<256 then [u8 n] else if n<65536 then [u8 (n/256),u8 n] else if n<4294967296 then [u8 (n/16777216),u8 (n/65536),u8 (n/256),u8 n] else be8 n 8
theorem dq (m n:Nat):yI m n=u8 (m*32+rf n)::nb n:=by
 unfold yI rf nb
 repeat' split
 all_goals rfl
theorem dr (n:Nat):rf n<28:=by
 unfold rf
 repeat' split
 all_goals omega
theorem gS (n:Nat):(nb n).length=if rf n<24 then 0 else if rf n=24 then 1 else if rf n=25 then 2 else if rf n=26 then 4 else 8:=by
 unfold rf nb
 by_cases h1:n<24
 ·simp[h1]
 by_cases h2:n<256
 ·simp[h1,h2]
 by_cases h3:n<65536
 ·simp[h1,h2,h3]
 by_cases h4:n<4294967296
 ·simp[h1,h2,h3,h4]
 simp[h1,h2,h3,h4,uW]
theorem Ol {n m:Nat}(hn:n<18446744073709551616) (hm:m<18446744073709551616) (h:be8 n 8=be8 m 8):n=m:=by
 simp only[be8,List.nil_append,List.cons_append,List.cons.injEq]at h
 obtain⟨h0,h1,h2,h3,h4,h5,h6,h7,_⟩:=h;have h0:=sz h0;have h1:=sz h1;have h2:=sz h2;have h3:=sz h3;have h4:=sz h4;have h5:=sz h5;have h6:=sz h6;have h7:=sz h7
 simp only[Nat.reduceMul,Nat.reduceSub,Nat.reducePow,Nat.sub_zero,Nat.mul_zero]at *
 have g0:n/72057594037927936=m/72057594037927936:=by omega
 have g1:n/281474976710656=m/281474976710656:=by omega
 have g2:n/1099511627776=m/1099511627776:=by omega
 have g3:n/4294967296=m/4294967296:=by omega
 have g4:n/16777216=m/16777216:=by omega
 have g5:n/65536=m/65536:=by omega
 have g6:n/256=m/256:=by omega
 omega
theorem US {n m:Nat}(hn:n<18446744073709551616) (hm:m<18446744073709551616) (hx:rf n=rf m) (h:nb n=nb m):n=m:=by
 unfold rf at hx
 unfold nb at h
 by_cases a1:n<24
 ·simp only[a1,if_true]at hx
  repeat' split at hx
  all_goals omega
 by_cases a2:n<256
 ·have b1:¬ m<24:=by intro k;simp only[a1,a2,k,if_true,if_false]at hx;omega
  have b2:m<256:=by
   simp only[a1,a2,b1,if_true,if_false]at hx
   repeat' split at hx
   all_goals omega
  simp only[a1,a2,b1,b2,if_true,if_false,List.cons.injEq,and_true]at h
  have:=sz h
  omega
 by_cases a3:n<65536
 ·have b1:¬ m<24:=by intro k;simp only[a1,a2,a3,k,if_true,if_false]at hx;omega
  have b2:¬ m<256:=by intro k;simp only[a1,a2,a3,b1,k,if_true,if_false]at hx;omega
  have b3:m<65536:=by
   simp only[a1,a2,a3,b1,b2,if_true,if_false]at hx
   repeat' split at hx
   all_goals omega
  simp only[a1,a2,a3,b1,b2,b3,if_true,if_false,List.cons.injEq,and_true]at h
  have h1:=sz h.1;have h2:=sz h.2
  omega
 by_cases a4:n<4294967296
 ·have b1:¬ m<24:=by intro k;simp only[a1,a2,a3,a4,k,if_true,if_false]at hx;omega
  have b2:¬ m<256:=by intro k;simp only[a1,a2,a3,a4,b1,k,if_true,if_false]at hx;omega
  have b3:¬ m<65536:=by intro k;simp only[a1,a2,a3,a4,b1,b2,k,if_true,if_false]at hx;omega
  have b4:m<4294967296:=by
   simp only[a1,a2,a3,a4,b1,b2,b3,if_true,if_false]at hx
   repeat' split at hx
   all_goals omega
  simp only[a1,a2,a3,a4,b1,b2,b3,b4,if_true,if_false,List.cons.injEq,and_true]at h
  obtain⟨h0,h1,h2,h3⟩:=h;have h0:=sz h0;have h1:=sz h1;have h2:=sz h2;have h3:=sz h3;have g0:n/16777216=m/16777216:=by omega
  have g1:n/65536=m/65536:=by omega
  have g2:n/256=m/256:=by omega
  omega
 have b1:¬ m<24:=by intro k;simp only[a1,a2,a3,a4,k,if_true,if_false]at hx;omega
 have b2:¬ m<256:=by intro k;simp only[a1,a2,a3,a4,b1,k,if_true,if_false]at hx;omega
 have b3:¬ m<65536:=by intro k;simp only[a1,a2,a3,a4,b1,b2,k,if_true,if_false]at hx;omega
 have b4:¬ m<4294967296:=by intro k;simp only[a1,a2,a3,a4,b1,b2,b3,k,if_true,if_false]at hx;omega
 simp only[a1,a2,a3,a4,b1,b2,b3,b4,if_false]at h
 exact Ol hn hm h
theorem Xb {a b n m:Nat}(ha:a<8) (hb:b<8) (hn:n<18446744073709551616) (hm:m<18446744073709551616) {r s:List UInt8}(h:yI a n++r=yI b m++s):a=b∧n=m∧r=s:=by
 rw[dq,dq,List.cons_append,List.cons_append]at h;injection h with h1 h2
 have h1:=sz h1;have x1:=dr n;have x2:=dr m;have hx:rf n=rf m:=by omega
 have hl:(nb n).length=(nb m).length:=by rw[gS,gS,hx]
 obtain⟨h3,h4⟩:=List.append_inj h2 hl
 exact⟨by omega,US hn hm hx h3,h4⟩
def Num (x:Itm):Prop:=x.n<18446744073709551616∧x.bytes.length<18446744073709551616
theorem Xk {x y:Itm}{lv lv':Nat}(hx:Good x lv) (hy:Good y lv') (hl:wO x=true) (nx:Num x) (ny:Num y) (h:zi x=zi y):x=y:=by
 have Ks:=rX hx.node;have Zg:=rX hy.node;have ht:=PH Ks Zg (r:=[]) (s:=[]) (by simpa using h)
 have hk:x.kind=0∨x.kind=1∨x.kind=3:=by
  simp only[wO,wg,Bool.or_eq_true,Bool.and_eq_true,beq_iff_eq,decide_eq_true_eq]at hl
  omega
 have fB:y.kind=x.kind:=by
  unfold fw at ht
  repeat' split at ht
  all_goals omega
 have E4:=(zH x).2 (by omega);have E7:=(zH y).2 (by omega);have ox:yu x=true:=by rcases yX hx.node with ⟨_,h⟩ | ⟨h,_⟩;exact h;rw[E4]at h;cases h
 have oy:yu y=true:=by rcases yX hy.node with ⟨_,h⟩ | ⟨h,_⟩;exact h;rw[E7]at h;cases h
 rw[xJ x,xJ y,if_neg (by omega),if_neg (by omega),if_neg (by omega),if_neg (by omega),fB,List.append_assoc,List.append_assoc]at h
 have uw:xp x<18446744073709551616:=by
  unfold xp
  rcases hk with h | h | h <;> simp[h] <;> first | exact nx.1 | exact nx.2
 have uH:xp y<18446744073709551616:=by
  unfold xp
  rcases hk with h | h | h <;> simp[fB,h] <;> first | exact ny.1 | exact ny.2
 obtain⟨_,hn,hr⟩:=Xb (by omega) (by omega) uw uH h
 cases x with
 | mk k n bs l =>
 cases y with
 | mk k' n' bs' l' =>
 simp only[Itm.kind,Itm.bytes,Itm.items,xp,Itm.n]at *
 subst fB
 rcases hk with hk | hk | hk
 ·subst hk
  simp[yu,Itm.kind,Itm.bytes,Itm.items]at ox oy hn
  simp[ox,oy,hn]
 ·subst hk
  simp[yu,Itm.kind,Itm.bytes,Itm.items]at ox oy hn
  simp[ox,oy,hn]
 subst hk
 simp[yu,Itm.kind,Itm.bytes,Itm.items,Itm.n]at ox oy
 rw[ox.1.2,oy.1.2,zG]at hr
 simp at hr
 simp[ox,oy,hr]
theorem rY (w:World) (A B:Option Addr) (a b:List UInt8) (n m c d:Nat) (hn:n=a.length) (hm:m=b.length) (hna:n≤1099511627776) (hmb:m≤1099511627776) (ha:Src w A (a.map zq)) (hb:Src w B (b.map zq)) :
  Calls Tryz.prog 113 #[.slice A n c,.slice B m d] w fun e w'=>e=.returned (.int .i64 (Lib.compareBytes a b))∧Below w.heap.size w w':=by
 have HN:=Hh hn;have HM:=Hh hm;clear hn hm;go_enter Tryz.func113,Tryz.ntmps113
 go_wp2_with fail
 go_loopw [5] (fun vi wr=>∃ k:Nat,k≤n∧k≤m∧vi=.int .i64 k∧Lib.compareBytes (a.drop k) (b.drop k)=Lib.compareBytes a b∧Below w.heap.size w wr) (fun vi _=>n-(intOf vi).toNat)
 case atStart=>exact⟨0,by omega,by omega,rfl,by simp,Below.refl _ _⟩
 case round =>
 obtain⟨k,nz,cS,rfl,hc,yO⟩:=hrel;have hn:=HN.out;have hm:=HM.out
 by_cases h1:k<n
 ·by_cases h2:k<m
  ·obtain⟨ab,ao,rfl,U6⟩:=(ha.below yO) (by intro h;simp at h;subst h;simp at hn;omega)
   obtain⟨bb,bo,rfl,Yz⟩:=(hb.below yO) (by intro h;simp at h;subst h;simp at hm;omega)
   have ka:k<a.length:=by omega
   have kb:k<b.length:=by omega
   have p0:=U6 k (zq a[k]) (by simp[ka]);have q0:=Yz k (zq b[k]) (by simp[kb])
   have hd:Lib.compareBytes (a.drop k) (b.drop k)=if a[k]<b[k] then -1 else if b[k]<a[k] then 1 else Lib.compareBytes (a.drop (k+1)) (b.drop (k+1)):=by
    rw[List.drop_eq_getElem_cons ka,List.drop_eq_getElem_cons kb,Lib.compareBytes]
   rw[hc]at hd
   generalize a[k]'ka=x at *
   generalize b[k]'kb=y at *
   have HD:=Hh hd;clear hd hc hn hm U6 Yz ka kb;go_upto_region 4 with fail
   refine zw 8 (fun w'=>w'.cell? ⟨ab,ao+k,none⟩=some (zq x)∧w'.cell? ⟨bb,bo+k,none⟩=some (zq y)) (by kernel_rfl) (⟨p0,q0⟩) (fun zy=>?_)
   refine Tk 0 rfl zy ?_
   refine Tk 1 rfl zy ?_
   refine Tk 2 rfl zy ?_
   refine Tk 3 rfl zy ?_
   refine Tk 4 rfl zy ?_
   refine Tk 5 rfl zy ?_
   refine Tk 6 rfl zy ?_
   refine Tk 7 rfl zy ?_
   refine To 8 rfl fun K hK=>?_
   go_simp
   refine Kz hK ?_
   clear hK K
   refine Wd ?_
   clear zy
   by_cases OZ:x=y
   ·subst OZ;have E:Hid (Lib.compareBytes (a.drop (k+1)) (b.drop (k+1))=Lib.compareBytes a b):=by rw[Hid,HD.out,if_neg (UInt8.lt_irrefl x),if_neg (UInt8.lt_irrefl x)]
    have zK:=yO.drew;go_wp2_with fail
    go_roundw
    case rel=>exact⟨k+1,by omega,by omega,by go_num,E.out,zK⟩
    case measure=>simp[intOf];omega
   have wS:((x.toNat:Int) != (y.toNat:Int))=true:=by
    rw[bne_iff_ne]
    intro h
    exact OZ (UInt8.toNat_inj.1 (by omega))
   have zK:=yO.drew.drew;have KO:=Hh OZ;clear OZ;go_upto_region 5 with fail
   refine zw 8 (fun w'=>w'.cell? ⟨ab,ao+k,none⟩=some (zq x)∧w'.cell? ⟨bb,bo+k,none⟩=some (zq y)) (by kernel_rfl) (⟨p0,q0⟩) (fun zy=>?_)
   refine Tk 0 rfl zy ?_
   refine Tk 1 rfl zy ?_
   refine Tk 2 rfl zy ?_
   refine Tk 3 rfl zy ?_
   refine Tk 4 rfl zy ?_
   refine Tk 5 rfl zy ?_
   refine Tk 6 rfl zy ?_
   refine Tk 7 rfl zy ?_
   refine To 8 rfl fun K hK=>?_
   go_simp
   refine Kz hK ?_
   clear hK K
   refine Wd ?_
   clear zy
   by_cases hl:x<y
   ·have E:Hid (Lib.compareBytes a b = -1):=by rw[Hid,HD.out,if_pos hl]
    have og:(x.toNat:Int)<(y.toNat:Int):=by have:=UInt8.lt_iff_toNat_lt.1 hl;omega
    clear hl;go_wp2_with fail
    go_ret
    exact⟨by rw[E.out];rfl,zK⟩
   have hg:y<x:=by
    have:=KO.out
    rcases Nat.lt_trichotomy x.toNat y.toNat with h | h | h
    ·exact absurd (UInt8.lt_iff_toNat_lt.2 h) hl
    ·exact absurd (UInt8.toNat_inj.1 h) this
    exact UInt8.lt_iff_toNat_lt.2 h
   have E:Hid (Lib.compareBytes a b=1):=by rw[Hid,HD.out,if_neg hl,if_pos hg]
   have og:(y.toNat:Int)≤(x.toNat:Int):=by have:=UInt8.lt_iff_toNat_lt.1 hg;omega
   clear hl hg;go_wp2_with fail
   go_ret
   exact⟨by rw[E.out];rfl,yO.drew.drew⟩
  have Kr:k=m:=by omega
  have E:Hid (Lib.compareBytes a b=1):=by
   rw[Hid,← hc,List.drop_eq_getElem_cons (show k<a.length by omega),List.drop_eq_nil_of_le (show b.length≤k by omega),Lib.compareBytes]
  clear hc hn hm;go_wp2_with fail
  go_ret
  exact⟨by rw[E.out];rfl,yO⟩
 have j8:k=n:=by omega
 by_cases h2:k<m
 ·have E:Hid (Lib.compareBytes a b = -1):=by
   rw[Hid,← hc,List.drop_eq_nil_of_le (show a.length≤k by omega),List.drop_eq_getElem_cons (show k<b.length by omega),Lib.compareBytes]
  clear hc hn hm;go_wp2_with fail
  go_ret
  exact⟨by rw[E.out];rfl,yO⟩
 have E:Hid (Lib.compareBytes a b=0):=by
  rw[Hid,← hc,List.drop_eq_nil_of_le (show a.length≤k by omega),List.drop_eq_nil_of_le (show b.length≤k by omega),Lib.compareBytes]
 clear hc hn hm;go_wp2_with fail
 go_ret
 exact⟨by rw[E.out];rfl,yO⟩
theorem stI {w:World}{ops:Array Oper}{rest:List Oper}{o:Oper}{a:Act}{Q:Exit→Act→World→Prop}{x y:Operand}{g:Nat}{c0 c1 c2 c3:Value}{t:TypeId}{old:Array Value}(hB:Blk w g t old)
  (h:∀ w',Blk w' g t #[c0,c1,c2,c3]→w.grownBy w' (some g)→wpList Tryz.prog ops Q rest a w')
  (hgd:o.guard=none:=by rfl) (ho:o.op=.store 26 x y:=by rfl) (hd:o.dst=none:=by rfl) (hx:a.eval x=.pointer (some ⟨g,0,none⟩):=by rfl) (hy:a.eval y=.agg #[c0,c1,c2,c3]:=by rfl) (hold:(#[c0,c1,c2,c3]:Array Value).size=old.size:=by rfl) (h1:c0.oneCell'=true:=by rfl) (h2:c1.oneCell'=true:=by rfl) (h3:c2.oneCell'=true:=by rfl) (h4:c3.oneCell'=true:=by rfl):wpList Tryz.prog ops Q (o::rest) a w :=
 zv hgd _ _ _ ho hd _ _ hx hy _ _ hB zp hold (ua _ _ _ _ h1 h2 h3 h4) h
end Go.Proofs.YtliomcphdnppnaaGreatDoor
