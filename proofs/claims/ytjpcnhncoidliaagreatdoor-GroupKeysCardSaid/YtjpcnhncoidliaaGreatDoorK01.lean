/- squeezed. Walks of package bytes and slices: -/
import Derived.Test.YtjpcnhncoidliaaGreatDoorK00
import Derived.Laws.BytesArg
import Derived.Lib.Bytealg
import Derived.Laws.Externs
import Derived.Lib.ValidU
import Derived.Shelf.Unicode.DecodeSlow
import Derived.Laws.IdiomStrings
import Derived.Laws.FloatArith
import Derived.Deep.DeepCutAuto
import Derived.Deep.CutBlock
import Derived.Laws.BitsAllLaws
import Derived.Shelf.Unicode.ValidAny
import Derived.Deep.QuietTactic
set_option linter.unusedVariables false
set_option linter.unusedSimpArgs false
set_option maxRecDepth 100000
set_option maxHeartbeats 8000000
namespace Go.Proofs.YtjpcnhncoidliaaGreatDoor
open Go.RowKit
theorem Y5 (l:List UInt8) (i:Nat):(l.map fun u=>(u.toNat:Int)).getD i 0=((l.getD i 0).toNat:Int):=by
 simp[List.getD]
 cases h:l[i]? <;> simp
theorem iY (l:List UInt8):strOfNums (l.map fun u=>(u.toNat:Int))=⟨l.toArray⟩:=by
 have h:(fun n:Int=>UInt8.ofNat n.toNat) ∘ (fun u:UInt8=>(u.toNat:Int))=id:=by funext u;simp
 unfold strOfNums
 simp[h]
theorem rz {w:World}{A:Option Addr}{l:List UInt8}(h:Src w A (l.map zg)) (n c:Nat) (hn:n=l.length) :
  (convert 23 9 (.slice A n c)).run Tryz.prog w=.ok (.string ⟨l.toArray⟩) w:=by
 subst hn
 by_cases hl:l=[]
 ·subst hl
  cases A with
  | none=>exact run_convert_bytes_nil w _ 5 Tryz.underlying23 Tryz.underlying5 _ _ _ Tryz.underlying9
  | some a =>
  obtain⟨b,off,spot⟩:=a;rw[run_convert_bytes_string w _ _ 5 _ _ c Tryz.underlying23 Tryz.underlying5 Tryz.underlying9];rfl
 obtain⟨b,off,rfl,hc⟩:=h (by simpa using hl)
 have:=run_convert_bytes_arg (P:=Tryz.prog) w 23 5 Tryz.underlying23 Tryz.underlying5 b off l.length c (l.map fun u=>(u.toNat:Int)) (by simp)
  (fun i hi=>by rw[Y5,hc i (zg l[i]) (by simp[hi])];simp[List.getD,hi]) _ Tryz.underlying9
 rw[this,iY]
def u8 (n:Nat):UInt8:=UInt8.ofNat n
theorem gu (n:Nat):(u8 n).toNat=n%256:=by simp[u8]
theorem vk (n:Nat):zg (u8 n)=.int .u8 ((n%256:Nat):Int):=by simp[zg,gu]
def be8 (n:Nat):Nat→List UInt8
 | 0=>[]
 | k+1=>be8 n k++[u8 (n/2 ^ (56-8*k))]
theorem ld (n k:Nat):(be8 n k).length=k:=by induction k <;> simp[be8, *]
def zj (m n:Nat):List UInt8 :=
 if n<24 then [u8 (m*32+n)]
 else if n<256 then [u8 (m*32+24),u8 n]
 else if n<65536 then [u8 (m*32+25),u8 (n/256),u8 n]
 else if n<4294967296 then [u8 (m*32+26),u8 (n/16777216),u8 (n/65536),u8 (n/256),u8 n]
 else u8 (m*32+27)::be8 n 8
theorem zi (m n:Nat):(zj m n).length=if n<24 then 1 else if n<256 then 2 else if n<65536 then 3 else if n<4294967296 then 5 else 9:=by
 unfold zj
 repeat' split
 all_goals simp[ld]
theorem wO (m n:Nat):1≤(zj m n).length∧(zj m n).length≤9:=by
 rw[zi]
 repeat' split
 all_goals omega
theorem az (a:Nat) (ha:a<256):(BitVec.ofInt 8 (a:Int)).toNat=a:=by
 rw[BitVec.ofInt_natCast,BitVec.toNat_ofNat];exact Nat.mod_eq_of_lt (by omega)
theorem Wt (a b:Nat) (ha:a<256) (hb:b<256):bits .or .u8 (a:Int) (b:Int)=((a ||| b:Nat):Int):=by
 have hx:a ||| b<2 ^ 8:=Nat.or_lt_two_pow (by omega) (by omega);show IntKind.u8.wrap ((BitVec.ofInt 8 (a:Int) ||| BitVec.ofInt 8 (b:Int)).toNat:Int)=_
 rw[BitVec.toNat_or,az a ha,az b hb,IntKind.wrap_u8]
 omega
theorem RH (m n:Nat) (hn:n<32):m*32 ||| n=m*32+n:=by
 have h:=Nat.two_pow_add_eq_or_of_lt (i:=5) (b:=n) (by omega) m;rw[show 2 ^ 5*m=m*32 by omega]at h
 exact h.symm
theorem lA (m n:Nat) (hm:m<8) (hn:n<32):bits .or .u8 ((m:Int)*32) (n:Int)=((m*32+n:Nat):Int):=by
 have h:=Wt (m*32) n (by omega) (by omega);rw[RH m n hn]at h
 simpa using h
def isNaN (n:Nat):Bool:=n/2 ^ 52%2048==2047&&n%2 ^ 52 != 0
def xL (n eb mb:Nat):Option Nat :=
 let sign:=n/2 ^ 63*2 ^ (eb+mb)
 let e:=n/2 ^ 52%2048
 let m:=n%2 ^ 52
 let top:=2 ^ eb-1
 let bias:=2 ^ (eb-1)-1
 if e=2047 then(if m=0 then some (sign+top*2 ^ mb) else none)
 else if e=0 then(if m=0 then some sign else none)
 else if 1023+top≤e+bias then none
 else if 1023<e+bias then(if m%2 ^ (52-mb)=0 then some (sign+(e+bias-1023)*2 ^ mb+m/2 ^ (52-mb)) else none)
 else
  let shift:=53-mb+(1023-e-bias)
  if 52<shift then none else if(m+2 ^ 52)%2 ^ shift=0 then some (sign+(m+2 ^ 52)/2 ^ shift) else none
def xt (n:Nat):List UInt8 :=
 if isNaN n then [u8 249,u8 126,u8 0] else
 match xL n 5 10 with
 | some v=>[u8 249,u8 (v/256),u8 v]
 | none=>match xL n 8 23 with
  | some v=>[u8 250,u8 (v/16777216),u8 (v/65536),u8 (v/256),u8 v]
  | none=>u8 251::be8 n 8
theorem ep (n:Nat):(xt n).length=3∨(xt n).length=5∨(xt n).length=9:=by
 unfold xt
 repeat' split
 all_goals simp[ld]
def tj (x:Itm):Nat :=
 if x.kind=2∨x.kind=3 then x.bytes.length else if x.kind=4 then x.items.length else if x.kind=5 then x.items.length/2 else x.n
mutual
def zX:Itm→List UInt8
 | .mk k n bs l =>
 if k=8 then xt n
 else if k=7∧24≤n then [u8 248,u8 n]
 else zj k.toNat (tj (.mk k n bs l))++bs++ym l
def ym:List Itm→List UInt8
 | []=>[]
 | x::l=>zX x++ym l
end
theorem re (l m:List Itm):ym (l++m)=ym l++ym m:=by
 induction l with
 | nil=>rw[List.nil_append,ym,List.nil_append]
 | cons x l ih=>rw[List.cons_append,ym,ym,ih,List.append_assoc]
theorem nZ (l:List Itm) (k:Nat) (h:k<l.length):ym (l.take (k+1))=ym (l.take k)++zX l[k]:=by
 rw[List.take_succ_eq_append_getElem h,re,ym,ym,List.append_nil]
theorem vh (x:Itm):zX x=if x.kind=8 then xt x.n else if x.kind=7∧24≤x.n then [u8 248,u8 x.n] else zj x.kind.toNat (tj x)++x.bytes++ym x.items:=by
 cases x
 rw[zX];rfl
mutual
def Kinds:Itm→Prop
 | .mk k _ _ l=>(0≤k∧k≤8)∧o6 l
def o6:List Itm→Prop
 | []=>True
 | x::l=>Kinds x∧o6 l
end
theorem Kinds.items {x:Itm}(h:Kinds x):o6 x.items:=by cases x;rw[Kinds]at h;exact h.2
mutual
def cnt:Itm→Nat
 | .mk _ _ _ l=>xO l+1
def xO:List Itm→Nat
 | []=>0
 | x::l=>cnt x+xO l
end
theorem ae:∀ (l:List Itm) (k:Nat) (hk:k<l.length),cnt l[k]≤xO l
 | [],k,hk=>by simp at hk
 | x::l,0,_=>by rw[xO];simp
 | x::l,k+1,hk=>by
  have:=ae l k (by simpa using hk);rw[xO]
  simp only[List.getElem_cons_succ]
  omega
theorem wu (x:Itm) (k:Nat) (hk:k<x.items.length):cnt x.items[k]<cnt x:=by
 cases x with
 | mk a b c l =>
 have:=ae l k hk;rw[cnt]
 simp only[Itm.items]
 omega
def zD:Nat:=9221120237041090560
def xR (x:Itm):Bool:=x.kind==0||x.kind==1||x.kind==2||x.kind==3||x.kind==7||x.kind==8
def wo (x:Itm):Bool :=
 if x.kind=0∨x.kind=1 then x.bytes.isEmpty&&x.items.isEmpty
 else if x.kind=2 then x.n==0&&x.items.isEmpty
 else if x.kind=3 then x.n==0&&x.items.isEmpty&&Lib.validD x.bytes
 else if x.kind=7 then x.bytes.isEmpty&&x.items.isEmpty&&(decide (x.n<24)||decide (32≤x.n)&&decide (x.n<256))
 else if x.kind=8 then x.bytes.isEmpty&&x.items.isEmpty&&(!isNaN x.n||x.n==zD)
 else false
def tg (x:Itm):Nat :=
 if x.kind=8 then(xt x.n).length else if x.kind=7 then(if 24≤x.n then 2 else 1) else(zj x.kind.toNat (tj x)).length+x.bytes.length
def xj:List Itm→Bool
 | a::b::c::l=>decide (Lib.compareBytes (zX a) (zX c)<0)&&xj (c::l)
 | _=>true
theorem pI (l:List Itm) (j:Nat) (h2:2≤j) (h:j<l.length) :
  xj (l.drop (j-2))=(decide (Lib.compareBytes (zX (l[j-2]'(by omega))) (zX l[j])<0)&&xj (l.drop j)):=by
 have e1:l.drop (j-2)=l[j-2]'(by omega)::l.drop (j-1):=by
  rw[List.drop_eq_getElem_cons (by omega)];rw[show j-2+1=j-1 by omega]
 have e2:l.drop (j-1)=l[j-1]'(by omega)::l.drop j:=by
  rw[List.drop_eq_getElem_cons (by omega)];rw[show j-1+1=j by omega]
 have e3:l.drop j=l[j]::l.drop (j+1):=List.drop_eq_getElem_cons h;rw[e1,e2,e3,xj]
theorem km (l:List Itm) (j:Nat) (h2:2≤j) (h:l.length≤j):xj (l.drop (j-2))=true:=by
 have hl:(l.drop (j-2)).length≤2:=by rw[List.length_drop];omega
 match l.drop (j-2),hl with
 | [],_=>rfl
 | [_],_=>rfl
 | [_,_],_=>rfl
 | _::_::_::_,h=>simp at h
def vV (x:Itm) (lv:Nat):Bool :=
 decide (4≤x.kind∧x.kind≤6∧lv<8∧x.bytes.length=0∧(x.kind=6→x.items.length=1)∧(x.kind≠6→x.n=0)∧(x.kind=5→x.items.length%2=0))
mutual
def chk:Itm→Nat→Nat→Nat→Option (Nat×Nat)
 | .mk k n bs l,lv,i,s =>
 if 256<i+1∨4096<bs.length∨256<l.length then none
 else if xR (.mk k n bs l)=true then(if wo (.mk k n bs l)=true∧s+tg (.mk k n bs l)≤4096 then some (i+1,s+tg (.mk k n bs l)) else none)
 else if vV (.mk k n bs l) lv=false then none
 else if 4096<s+tg (.mk k n bs l) then none
 else match jw l (lv+1) (i+1) (s+tg (.mk k n bs l)) with
  | none=>none
  | some p=>if k=5∧xj l=false then none else some p
def jw:List Itm→Nat→Nat→Nat→Option (Nat×Nat)
 | [],_,i,s=>some (i,s)
 | x::l,lv,i,s=>match chk x lv i s with
  | none=>none
  | some p=>jw l lv p.1 p.2
end
theorem Tp (x:Itm) (lv i s:Nat):chk x lv i s =
  if 256<i+1∨4096<x.bytes.length∨256<x.items.length then none
  else if xR x=true then(if wo x=true∧s+tg x≤4096 then some (i+1,s+tg x) else none)
  else if vV x lv=false then none
  else if 4096<s+tg x then none
  else match jw x.items (lv+1) (i+1) (s+tg x) with
   | none=>none
   | some p=>if x.kind=5∧xj x.items=false then none else some p:=by
 cases x
 rw[chk];rfl
theorem yh (x:Itm):xR x=true↔x.kind=0∨x.kind=1∨x.kind=2∨x.kind=3∨x.kind=7∨x.kind=8:=by
 simp[xR]
 omega
theorem eO (x:Itm) (h:x.items=[]) (h8:x.kind=8∨x.kind=7→x.bytes=[]):tg x=(zX x).length:=by
 rw[vh,tg]
 by_cases h1:x.kind=8
 ·rw[if_pos h1,if_pos h1]
 rw[if_neg h1,if_neg h1]
 by_cases h2:x.kind=7
 ·rw[if_pos h2]
  by_cases h3:24≤x.n
  ·rw[if_pos h3,if_pos ⟨h2,h3⟩];rfl
  have hn:tj x=x.n:=by simp[tj,h2]
  rw[if_neg h3,if_neg (by omega),h8 (.inr h2),h,ym,hn,zj,if_pos (by omega)];rfl
 rw[if_neg h2,if_neg (by omega),h,ym]
 simp
theorem jt (x:Itm) (h8:x.kind≠8) (h7:x.kind≠7):tg x=(zj x.kind.toNat (tj x)).length+x.bytes.length:=by
 rw[tg,if_neg h8,if_neg h7]
theorem vS {x:Itm}{lv:Nat}(h:vV x lv=true):4≤x.kind∧x.kind≤6∧lv<8∧x.bytes.length=0∧(x.kind=6→x.items.length=1)∧(x.kind≠6→x.n=0)∧(x.kind=5→x.items.length%2=0) :=
 of_decide_eq_true h
theorem wl {x:Itm}(hp:xR x=true) (ho:wo x=true):x.items=[]∧(x.kind=8∨x.kind=7→x.bytes=[]):=by
 rw[yh]at hp
 unfold wo at ho
 rcases hp with h | h | h | h | h | h <;> simp[h]at ho⊢ <;> simp[ho]
mutual
theorem ad:∀ (x:Itm) (lv i s:Nat) (p:Nat×Nat),chk x lv i s=some p→Kinds x∧p=(i+cnt x,s+(zX x).length)∧p.1≤256∧p.2≤4096
 | .mk k n bs l,lv,i,s,p,h=>by
  rw[chk]at h
  split at h
  ·cases h
  rename_i h0
  split at h
  ·rename_i hp
   split at h
   ·rename_i ho
    obtain⟨hi,hb⟩:=wl hp ho.1;have hk:=(yh _).1 hp;have hs:=eO (.mk k n bs l) hi hb
    simp only[Itm.items,Itm.kind]at hi hk
    subst hi;injection h with h
    subst h;rw[← hs]
    refine⟨?_, ?_, ?_, ?_⟩
    ·rw[Kinds,o6];exact⟨by omega,trivial⟩
    ·rw[cnt,xO]
    ·simp only;omega
    exact ho.2
   cases h
  rename_i hp
  split at h
  ·cases h
  rename_i hf
  split at h
  ·cases h
  rename_i h4
  have Iy:=vS (by simpa using hf)
  simp only[Itm.kind,Itm.bytes,Itm.items,List.length_eq_zero_iff]at Iy
  split at h
  ·cases h
  rename_i q hq
  split at h
  ·cases h
  injection h with h
  subst h;obtain⟨hk,cH,h1,h2⟩:=dt l _ _ _ _ hq (by omega) (by omega);have fO:=jt (.mk k n bs l) (by simp only[Itm.kind];omega) (by simp only[Itm.kind];omega)
  simp only[Itm.kind,Itm.bytes]at fO
  rw[Iy.2.2.2.1]at fO
  refine⟨by rw[Kinds];exact⟨by omega,hk⟩, ?_,h1,h2⟩
  rw[cH,cnt,zX,if_neg (by omega),if_neg (by omega),Iy.2.2.2.1,fO]
  simp only[List.length_append,List.length_nil,Prod.mk.injEq]
  omega
theorem dt:∀ (l:List Itm) (lv i s:Nat) (p:Nat×Nat),jw l lv i s=some p→i≤256→s≤4096→o6 l∧p=(i+xO l,s+(ym l).length)∧p.1≤256∧p.2≤4096
 | [],lv,i,s,p,h,hi,hs=>by
  rw[jw]at h;injection h with h
  subst h;rw[o6,xO,ym]
  exact⟨trivial,rfl,hi,hs⟩
 | x::l,lv,i,s,p,h,hi,hs=>by
  rw[jw]at h
  split at h
  ·cases h
  rename_i q hq
  obtain⟨hk,cH,h1,h2⟩:=ad x _ _ _ _ hq;obtain⟨sX,hp,h3,h4⟩:=dt l _ _ _ _ h h1 h2
  refine⟨by rw[o6];exact⟨hk,sX⟩, ?_,h3,h4⟩
  rw[hp,cH,xO,ym]
  simp
  omega
end
def yG (x:Itm):Bool:=(chk x 0 0 0).isSome
theorem jF {x:Itm}(h:yG x=true):Kinds x∧cnt x≤256∧(zX x).length≤4096:=by
 obtain⟨p,hp⟩:=Option.isSome_iff_exists.1 h;obtain⟨hk,he,h1,h2⟩:=ad _ _ _ _ _ hp;subst he
 simp only at h1 h2
 exact⟨hk,by omega,by omega⟩
mutual
def Modest:Itm→Prop
 | .mk _ _ bs l=>bs.length≤1099511627776∧l.length≤1099511627776∧ModestL l
def ModestL:List Itm→Prop
 | []=>True
 | x::l=>Modest x∧ModestL l
end
theorem Modest.parts {x:Itm}(h:Modest x):x.bytes.length≤1099511627776∧x.items.length≤1099511627776∧ModestL x.items:=by cases x;rw[Modest]at h;exact h
theorem ModestL.get:∀ {l:List Itm},ModestL l→∀ (k:Nat) (hk:k<l.length),Modest l[k]
 | [],_,k,hk=>by simp at hk
 | x::l,h,0,hk=>by rw[ModestL]at h;exact h.1
 | x::l,h,k+1,hk=>by rw[ModestL]at h;exact h.2.get k (by simpa using hk)
theorem ModestL.of:∀ {l:List Itm},(∀ x∈l,Modest x)→ModestL l
 | [],_=>by rw[ModestL];trivial
 | x::l,h=>by rw[ModestL];exact⟨h x (by simp),ModestL.of fun y hy=>h y (by simp[hy])⟩
abbrev lB:Itm:=.mk 0 0 [] []
theorem jE {x:Itm}(h:yG x=true) (h5:x.kind=5):x.items.length%2=0:=by
 obtain⟨p,hp⟩:=Option.isSome_iff_exists.1 h;rw[Tp]at hp
 split at hp
 ·cases hp
 split at hp
 ·rename_i h1
  rw[yh]at h1
  omega
 split at hp
 ·cases hp
 rename_i h1
 exact(vS (by simpa using h1)).2.2.2.2.2.2 h5
theorem uh {x:Itm}(h:yG x=true):x.bytes.length≤4096∧x.items.length≤256∧o6 x.items∧(ym x.items).length≤4096:=by
 obtain⟨hk,hc,he⟩:=jF h;obtain⟨p,hp⟩:=Option.isSome_iff_exists.1 h;rw[Tp]at hp
 split at hp
 ·cases hp
 rename_i h0
 refine⟨by omega,by omega,hk.items, ?_⟩
 split at hp
 ·rename_i h1
  split at hp
  ·rename_i h2
   rw[(wl h1 h2.1).1]
   simp[ym]
  cases hp
 split at hp
 ·cases hp
 rename_i h1
 have:=vS (by simpa using h1);rw[vh,if_neg (by omega),if_neg (by omega)]at he
 simp only[List.length_append]at he
 omega
mutual
theorem ft:∀ (x:Itm) (lv i s:Nat) (p:Nat×Nat),chk x lv i s=some p→Modest x
 | .mk k n bs l,lv,i,s,p,h=>by
  rw[chk]at h
  split at h
  ·cases h
  rename_i h0
  rw[Modest]
  refine⟨by omega,by omega, ?_⟩
  split at h
  ·rename_i h1
   split at h
   ·rename_i h2
    rw[show l=[] from(wl h1 h2.1).1,ModestL];trivial
   cases h
  split at h
  ·cases h
  split at h
  ·cases h
  split at h
  ·cases h
  rename_i q hq
  exact iy l _ _ _ _ hq
theorem iy:∀ (l:List Itm) (lv i s:Nat) (p:Nat×Nat),jw l lv i s=some p→ModestL l
 | [],_,_,_,_,_=>by rw[ModestL];trivial
 | x::l,lv,i,s,p,h=>by
  rw[jw]at h
  split at h
  ·cases h
  rename_i q hq
  rw[ModestL]
  exact⟨ft x _ _ _ _ hq,iy l _ _ _ _ h⟩
end
theorem vM {x:Itm}(h:yG x=true):Modest x:=by
 obtain⟨p,hp⟩:=Option.isSome_iff_exists.1 h
 exact ft _ _ _ _ _ hp
def zh (n:Int):Itm:=if n<0 then .mk 1 (-1-n).toNat [] [] else .mk 0 n.toNat [] []
structure Ad where
 ba:Option Addr
 bc:Nat
 ia:Option Addr
 ic:Nat
def Tabs (H:Snap):Prop:=∀ w,Holds w H→Lib.Utf8Tabs 0 1 w
theorem Tabs.mono {H K:Snap}(h:Tabs H) (hl:H.le K):Tabs K:=fun w hw=>h w (hw.mono hl)
theorem IsItem.plain (H:Snap) (k:Int) (n:Nat) (hk : -9223372036854775808≤k∧k≤9223372036854775807) (hn:n<18446744073709551616):IsItem H none 0 none 0 (.mk k n [] []):=by
 rw[IsItem]
 exact⟨⟨hk.1,hk.2,hn,Nat.le_refl _,by omega⟩,IsBytes.nil H,fun h=>absurd h (by simp)⟩
theorem Gives.plain {w w':World}{H:Snap}{k n:Int}{m:Nat}(hH:Holds w H) (hb:Below w.heap.size w w') (hk : -9223372036854775808≤k∧k≤9223372036854775807) (hm:m<18446744073709551616) (hn:n=(m:Int)) :
  Gives w H (.mk k m [] []) (.agg #[.int .i64 k,.int .u64 n,.slice none 0 0,.slice none 0 0]) w':=by
 subst hn
 exact⟨none,0,none,0,H,rfl,Grows.of_below hH hb,IsItem.plain H k m hk hm⟩
theorem Fresh.gives {w w1:World}{H:Snap}{l:List UInt8}{r:Value}{k:Int}(hH:Holds w H) (h:Fresh w l r w1) (hk : -9223372036854775808≤k∧k≤9223372036854775807) :
  Gives w H (.mk k 0 l []) (.agg #[.int .i64 k,.int .u64 0,r,.slice none 0 0]) w1:=by
 obtain⟨A,c,rfl,_⟩:=h.own.form;obtain⟨H',hl,hh,hf,_,hi⟩:=h.own.snap (hH.below h.2 (Nat.le_refl _)) (fun g hg=>hH.none_of_ge (h.own.lt g (by cases A <;> simp_all [Value.ownBlock])).1)
 refine⟨A,c,none,0,H',rfl,⟨h.2,hl,hh,fun b o hb=>?_⟩, ?_⟩
 ·rcases hf b o hb with h1 | h1
  ·exact .inl h1
  exact .inr (h.own.lt b (by cases A <;> simp_all [Value.ownBlock])).1
 rw[IsItem]
 exact⟨⟨hk.1,hk.2,by omega,Nat.le_refl _,by omega⟩,hi,fun h=>absurd h (by simp)⟩
theorem Grows.own {w wA w1 w':World}{H H':Snap}{g:Nat}(hA:Below w.heap.size w wA) (hH:Holds w H) (h:Grows wA H w1 H') (hg:w1.grownBy w' (some g)) (h1:w.heap.size≤g) (h2:g<wA.heap.size):Grows w H w' H' :=
 ⟨(hA.trans (h.below.mono hA.size)).grown hg (Nat.le_trans hA.size h.below.size) (by rintro k ⟨⟩;exact h1),h.le,h.holds.grown hg (by rintro k ⟨⟩;exact h.none (hH.none_of_ge h1) h2),fun b o hb=>by
  rcases h.fresh b o hb with h | h
  ·exact .inl h
  exact .inr (Nat.le_trans hA.size h)⟩
theorem Gives.own {w wA w1 w':World}{H:Snap}{x:Itm}{v:Value}{g:Nat}(hA:Below w.heap.size w wA) (hH:Holds w H) (h:Gives wA H x v w1) (hg:w1.grownBy w' (some g)) (h1:w.heap.size≤g) (h2:g<wA.heap.size):Gives w H x v w':=by
 obtain⟨ba,bc,ia,ic,H',e,hG,hi⟩:=h
 exact⟨ba,bc,ia,ic,H',e,hG.own hA hH hg h1 h2,hi⟩
theorem vR (a b c d:Value) (ha:a.oneCell'=true) (hb:b.oneCell'=true) (hc:c.oneCell'=true) (hd:d.oneCell'=true):(#[a,b,c,d]:Array Value).all (·.oneCell')=true:=by simp[ha,hb,hc,hd]
theorem Zp {w:World}{H:Snap}(hH:Holds w H) (s:ByteArray) (hl:s.size≤1099511627776) :
  ∃ g c w',(convert 9 23 (.string s)).run Tryz.prog w=.ok (.slice (some ⟨g,0,none⟩) s.size c) w'∧Below w.heap.size w w'∧∃ H',Grows w H w' H'∧IsBytes H' (some ⟨g,0,none⟩) c s.data.toList:=by
 refine⟨_,_,_,run_bytes_of_string (P:=Tryz.prog) w 9 23 5 s Tryz.underlying9 Tryz.underlying23 Tryz.underlying5, ?_, ?_⟩
 ·exact(Below.refl _ _).drew.alloc (Nat.le_refl _) _
 obtain⟨o,ho⟩:∃ o,o=Obj.cells (bytesRow s (grownCap w s.size 0 5)) 5 ((bytesRow s (grownCap w s.size 0 5)).size,(bytesRow s (grownCap w s.size 0 5)).size+1):=⟨_,rfl⟩
 rw[← ho];have h0:H w.heap.size=none:=hH.none_of_ge (Nat.le_refl _)
 refine⟨H.with w.heap.size o,⟨(Below.refl _ _).drew.alloc (Nat.le_refl _) _,Snap.le_with h0,(hH.drew.alloc o).with (heap_alloc_new w.drew o),fun b x hb=>?_⟩, ?_, ?_, ?_⟩
 ·unfold Snap.with at hb
  split at hb
  ·subst b;exact .inr (Nat.le_refl _)
  exact .inl hb
 ·simpa using grownCap_ge w s.size 0 5
 ·have:=grownCap_le_maxLen w s.size 0 5 (by simp only[maxLen];omega)
  simpa [maxLen] using this
 refine fun _=>⟨w.heap.size,0,rfl,fun j v hj=>?_⟩
 have u9:j<s.data.size:=by
  have:=(List.getElem?_eq_some_iff.1 hj).1
  simpa using this
 subst ho
 simp only[Snap.cell?,Snap.with,if_true,Nat.zero_add,Option.isSome,Bool.false_eq_true,if_false]
 rw[bytesRow_at s _ j u9]
 simp at hj
 obtain⟨a,h1,h2⟩:=hj;rw[Array.getElem?_eq_getElem u9]at h1;injection h1 with h1
 rw[h1,← h2]
def yF (x:Itm) (lv:Nat):Bool:=if xR x=true then wo x else vV x lv
mutual
def Good:Itm→Nat→Prop
 | .mk k n bs l,lv=>yF (.mk k n bs l) lv=true∧GoodL l (lv+1)∧(k=5→xj l=true)
def GoodL:List Itm→Nat→Prop
 | [],_=>True
 | x::l,lv=>Good x lv∧GoodL l lv
end
theorem Good.node {x:Itm}{lv:Nat}(h:Good x lv):yF x lv=true:=by cases x;rw[Good]at h;exact h.1
theorem Good.items {x:Itm}{lv:Nat}(h:Good x lv):GoodL x.items (lv+1):=by cases x;rw[Good]at h;exact h.2.1
theorem Good.asc {x:Itm}{lv:Nat}(h:Good x lv) (h5:x.kind=5):xj x.items=true:=by cases x;rw[Good]at h;exact h.2.2 h5
theorem Good.of {x:Itm}{lv:Nat}(h1:yF x lv=true) (h2:GoodL x.items (lv+1)) (h3:x.kind=5→xj x.items=true):Good x lv:=by cases x;rw[Good];exact⟨h1,h2,h3⟩
theorem GoodL.get:∀ {l:List Itm}{lv:Nat},GoodL l lv→∀ x∈l,Good x lv
 | [],_,_,x,hx=>by cases hx
 | y::l,lv,h,x,hx=>by
  rw[GoodL]at h
  rcases List.mem_cons.1 hx with rfl | hx
  ·exact h.1
  exact h.2.get x hx
theorem GoodL.of:∀ {l:List Itm}{lv:Nat},(∀ x∈l,Good x lv)→GoodL l lv
 | [],_,_=>by rw[GoodL];trivial
 | y::l,lv,h=>by
  rw[GoodL]
  exact⟨h y (by simp),GoodL.of fun x hx=>h x (by simp[hx])⟩
theorem wm {x:Itm}{lv:Nat}(h:yF x lv=true):(xR x=true∧wo x=true)∨(xR x=false∧vV x lv=true):=by
 unfold yF at h
 cases hp:xR x with
 | true=>rw[if_pos hp]at h;exact .inl ⟨rfl,h⟩
 | false=>rw[if_neg (by simp[hp])]at h;exact .inr ⟨rfl,h⟩
theorem j7 {x:Itm}{lv:Nat}(h:yF x lv=true):0≤x.kind∧x.kind≤8:=by
 rcases wm h with ⟨h1,_⟩ | ⟨_,h1⟩
 ·rw[yh]at h1;omega
 have:=vS h1;omega
theorem YE {x:Itm}{lv lv':Nat}(h:vV x lv=true) (hl:lv'≤lv):vV x lv'=true:=by
 obtain⟨h1,h2,h3,h4⟩:=vS h
 exact decide_eq_true ⟨h1,h2,by omega,h4⟩
theorem WE {x:Itm}{lv lv':Nat}(h:yF x lv=true) (hl:lv'≤lv):yF x lv'=true:=by
 rcases wm h with ⟨h1,h2⟩ | ⟨h1,h2⟩
 ·rw[yF,if_pos h1];exact h2
 rw[yF,if_neg (by simp[h1])];exact YE h2 hl
mutual
theorem Good.le:∀ {x:Itm}{lv lv':Nat},Good x lv→lv'≤lv→Good x lv'
 | .mk k n bs l,lv,lv',h,hl=>by
  rw[Good]at h⊢
  exact⟨WE h.1 hl,GoodL.le h.2.1 (by omega),h.2.2⟩
theorem GoodL.le:∀ {l:List Itm}{lv lv':Nat},GoodL l lv→lv'≤lv→GoodL l lv'
 | [],_,_,_,_=>by rw[GoodL];trivial
 | x::l,lv,lv',h,hl=>by
  rw[GoodL]at h⊢
  exact⟨Good.le h.1 hl,GoodL.le h.2 hl⟩
end
theorem lu {x:Itm}{lv:Nat}(h:yF x lv=true) (hp:xR x=true):x.items=[]∧(x.kind=8∨x.kind=7→x.bytes=[]):=by
 rcases wm h with ⟨_,h2⟩ | ⟨h1,_⟩
 ·exact wl hp h2
 rw[hp]at h1;cases h1
theorem kr {x:Itm}{lv:Nat}(h:yF x lv=true):(zX x).length=tg x+(ym x.items).length:=by
 cases hp:xR x with
 | true =>
  obtain⟨h1,h2⟩:=lu h hp;rw[← eO x h1 h2,h1,ym];simp
 | false =>
 rcases wm h with ⟨h1,_⟩ | ⟨_,h2⟩
 ·rw[hp]at h1;cases h1
 have hf:=vS h2;rw[vh,if_neg (by omega),if_neg (by omega),jt x (by omega) (by omega)]
 simp;omega
theorem jD {x:Itm}{lv:Nat}(h:yF x lv=true):x.bytes.length≤tg x:=by
 by_cases h8:x.kind=8
 ·have:=(lu h ((yh x).2 (by omega))).2 (by omega);rw[this];simp
 by_cases h7:x.kind=7
 ·have:=(lu h ((yh x).2 (by omega))).2 (by omega);rw[this];simp
 rw[jt x h8 h7];omega
theorem gR:∀ l:List Itm,l.length≤xO l
 | []=>by simp[xO]
 | x::l=>by
  have:=gR l;have h:0<cnt x:=by cases x;rw[cnt];omega
  rw[xO];simp;omega
theorem ju (x:Itm):cnt x=xO x.items+1:=by cases x;rw[cnt];rfl
mutual
theorem ac:∀ (x:Itm) (lv i s:Nat) (p:Nat×Nat),chk x lv i s=some p→Good x lv
 | .mk k n bs l,lv,i,s,p,h=>by
  rw[chk]at h
  split at h
  ·cases h
  split at h
  ·rename_i hp
   split at h
   ·rename_i ho
    have hi:=(wl hp ho.1).1;have hk:=(yh _).1 hp
    simp only[Itm.items,Itm.kind]at hi hk
    subst hi;rw[Good,GoodL]
    exact⟨by rw[yF,if_pos hp];exact ho.1,trivial,fun h=>by omega⟩
   cases h
  rename_i hp
  split at h
  ·cases h
  rename_i hf
  split at h
  ·cases h
  split at h
  ·cases h
  rename_i q hq
  split at h
  ·cases h
  rename_i ha
  rw[Good]
  refine⟨by rw[yF,if_neg hp];simpa using hf,dr l _ _ _ _ hq,fun h5=>?_⟩
  cases hs:xj l with
  | true=>rfl
  | false=>exact absurd ⟨h5,hs⟩ ha
theorem dr:∀ (l:List Itm) (lv i s:Nat) (p:Nat×Nat),jw l lv i s=some p→GoodL l lv
 | [],_,_,_,_,_=>by rw[GoodL];trivial
 | x::l,lv,i,s,p,h=>by
  rw[jw]at h
  split at h
  ·cases h
  rename_i q hq
  rw[GoodL]
  exact⟨ac x _ _ _ _ hq,dr l _ _ _ _ h⟩
end
mutual
theorem am:∀ (x:Itm) (lv i s:Nat),Good x lv→i+cnt x≤256→s+(zX x).length≤4096→chk x lv i s=some (i+cnt x,s+(zX x).length)
 | .mk k n bs l,lv,i,s,h,hi,hs=>by
  have hn:=h.node;have J4:=h.items;have has:=h.asc;have fO:=kr hn;have iI:=jD hn;have hc:=ju (.mk k n bs l);have hl:=gR l
  simp only[Itm.items,Itm.bytes,Itm.kind]at *
  rw[chk,if_neg (by omega)]
  rcases wm hn with ⟨h1,h2⟩ | ⟨h1,h2⟩
  ·have h0:=(wl h1 h2).1
   simp only[Itm.items]at h0
   subst h0;rw[ym]at fO;rw[xO]at hc
   simp only[List.length_nil]at fO
   rw[if_pos h1,if_pos ⟨h2,by omega⟩,hc,fO];congr 2
  rw[if_neg (by simp[h1]),if_neg (by simp[h2]),if_neg (by omega),dw l (lv+1) (i+1) _ J4 (by omega) (by omega)]
  simp only
  rw[if_neg (by rintro⟨h5,ha⟩;rw[has h5]at ha;cases ha)];congr 2 <;> omega
theorem dw:∀ (l:List Itm) (lv i s:Nat),GoodL l lv→i+xO l≤256→s+(ym l).length≤4096→jw l lv i s=some (i+xO l,s+(ym l).length)
 | [],lv,i,s,_,_,_=>by rw[jw,xO,ym];rfl
 | x::l,lv,i,s,h,hi,hs=>by
  rw[GoodL]at h;rw[xO]at hi⊢;rw[ym]at hs⊢
  simp only[List.length_append]at hs⊢
  rw[jw,am x lv i s h.1 (by omega) (by omega)]
  simp only
  rw[dw l lv _ _ h.2 (by omega) (by omega)];congr 2 <;> omega
end
theorem vO (x:Itm):yG x=true↔Good x 0∧cnt x≤256∧(zX x).length≤4096:=by
 constructor
 ·intro h
  obtain⟨p,hp⟩:=Option.isSome_iff_exists.1 h;have:=jF h
  exact⟨ac _ _ _ _ _ hp,this.2.1,this.2.2⟩
 rintro⟨h1,h2,h3⟩
 rw[yG,am x 0 0 0 h1 (by omega) (by omega)];rfl
mutual
def lE:Itm→Prop
 | .mk _ _ bs l=>bs.length≤4096∧rU l
def rU:List Itm→Prop
 | []=>True
 | x::l=>lE x∧rU l
end
def zY (x:Itm) (d m:Nat):Bool:=yF x d&&decide (x.bytes.length≤4096)&&decide (x.items.length≤m)
mutual
def zN:Itm→Nat→Nat→Option Nat
 | .mk k n bs l,c,d =>
 if c<1 then none
 else if zY (.mk k n bs l) d (c-1)=false then none
 else match zI l (c-1) (d+1) with
  | none=>none
  | some r=>if k=5∧xj l=false then none else some r
def zI:List Itm→Nat→Nat→Option Nat
 | [],c,_=>some c
 | x::l,c,d=>match zN x c d with
  | none=>none
  | some r=>zI l r d
end
theorem yM (x:Itm) (c d:Nat):zN x c d =
  if c<1 then none
  else if zY x d (c-1)=false then none
  else match zI x.items (c-1) (d+1) with
   | none=>none
   | some r=>if x.kind=5∧xj x.items=false then none else some r:=by
 cases x
 rw[zN];rfl
theorem gE {x:Itm}{d m:Nat}(h:zY x d m=true):yF x d=true∧x.bytes.length≤4096∧x.items.length≤m:=by
 simpa [zY,and_assoc] using h
mutual
theorem vx:∀ (x:Itm) (c d r:Nat),zN x c d=some r→Good x d∧lE x∧r+cnt x=c
 | .mk k n bs l,c,d,r,h=>by
  rw[zN]at h
  split at h
  ·cases h
  split at h
  ·cases h
  rename_i hn
  obtain⟨h1,h2,h3⟩:=gE (by simpa using hn)
  split at h
  ·cases h
  rename_i q hq
  split at h
  ·cases h
  rename_i ha
  injection h with h
  subst h;obtain⟨g1,g2,g3⟩:=sC l _ _ _ hq;rw[Good,lE,cnt]
  refine⟨⟨h1,g1,fun h5=>?_⟩,⟨h2,g2⟩,by omega⟩
  cases hs:xj l with
  | true=>rfl
  | false=>exact absurd ⟨h5,hs⟩ ha
theorem sC:∀ (l:List Itm) (c d r:Nat),zI l c d=some r→GoodL l d∧rU l∧r+xO l=c
 | [],c,d,r,h=>by
  rw[zI]at h;injection h with h
  subst h;rw[GoodL,rU,xO]
  exact⟨trivial,trivial,rfl⟩
 | x::l,c,d,r,h=>by
  rw[zI]at h
  split at h
  ·cases h
  rename_i q hq
  obtain⟨h1,h2,h3⟩:=vx x _ _ _ hq;obtain⟨g1,g2,g3⟩:=sC l _ _ _ h;rw[GoodL,rU,xO]
  exact⟨⟨h1,g1⟩,⟨h2,g2⟩,by omega⟩
end
mutual
theorem dy:∀ (x:Itm) (c d:Nat),Good x d→lE x→cnt x≤c→zN x c d=some (c-cnt x)
 | .mk k n bs l,c,d,h,hs,hc=>by
  have hn:=h.node;have J4:=h.items;have has:=h.asc;have Bh:=ju (.mk k n bs l);have hl:=gR l;rw[lE]at hs
  simp only[Itm.items,Itm.bytes,Itm.kind]at *
  have hr:zY (.mk k n bs l) d (c-1)=true:=by
   have e2:l.length≤c-1:=by omega
   simp[zY,hn,Itm.bytes,Itm.items,hs.1,e2]
  rw[zN,if_neg (by omega),if_neg (by simp[hr]),fw l (c-1) (d+1) J4 hs.2 (by omega)]
  simp only
  rw[if_neg (by rintro⟨h5,ha⟩;rw[has h5]at ha;cases ha)];congr 1;omega
theorem fw:∀ (l:List Itm) (c d:Nat),GoodL l d→rU l→xO l≤c→zI l c d=some (c-xO l)
 | [],c,d,_,_,_=>by rw[zI,xO];rfl
 | x::l,c,d,h,hs,hc=>by
  rw[GoodL]at h;rw[rU]at hs;rw[xO]at hc⊢;rw[zI,dy x c d h.1 hs.1 (by omega)]
  simp only
  rw[fw l _ d h.2 hs.2 (by omega)];congr 1;omega
end
mutual
theorem Good.small:∀ {x:Itm}{lv:Nat},Good x lv→(zX x).length≤4096→lE x
 | .mk k n bs l,lv,h,hl=>by
  have h1:=kr h.node;have h2:=jD h.node;have h3:=h.items
  simp only[Itm.items,Itm.bytes]at *
  rw[lE]
  exact⟨by omega,GoodL.small h3 (by omega)⟩
theorem GoodL.small:∀ {l:List Itm}{lv:Nat},GoodL l lv→(ym l).length≤4096→rU l
 | [],_,_,_=>by rw[rU];trivial
 | x::l,lv,h,hl=>by
  rw[GoodL]at h;rw[ym]at hl
  simp only[List.length_append]at hl
  rw[rU]
  exact⟨Good.small h.1 (by omega),GoodL.small h.2 (by omega)⟩
end
theorem Te {x:Itm}{lv:Nat}(h:yF x lv=true):tg x≤x.bytes.length+9:=by
 unfold tg
 split
 ·have:=ep x.n;omega
 split
 ·split <;> omega
 have:=(wO x.kind.toNat (tj x)).2;omega
mutual
theorem Good.bytes:∀ {x:Itm}{lv:Nat},Good x lv→lE x→(zX x).length≤cnt x*4105
 | .mk k n bs l,lv,h,hs=>by
  have h1:=kr h.node;have h2:=Te h.node;have h3:=h.items;have h4:=ju (.mk k n bs l);rw[lE]at hs
  simp only[Itm.items,Itm.bytes]at *
  have:=GoodL.bytes h3 hs.2
  omega
theorem GoodL.bytes:∀ {l:List Itm}{lv:Nat},GoodL l lv→rU l→(ym l).length≤xO l*4105
 | [],_,_,_=>by rw[ym,xO];simp
 | x::l,lv,h,hs=>by
  rw[GoodL]at h;rw[rU]at hs;rw[ym,xO];have h1:=Good.bytes h.1 hs.1;have h2:=GoodL.bytes h.2 hs.2
  simp only[List.length_append]
  omega
end
def dL (x:Itm):Bool:=(zN x 256 0).isSome&&decide ((zX x).length≤4096)
theorem Wx (x:Itm):dL x=yG x:=by
 rw[Bool.eq_iff_iff,vO];constructor
 ·intro h
  simp only[dL,Bool.and_eq_true,decide_eq_true_eq]at h
  obtain⟨r,hr⟩:=Option.isSome_iff_exists.1 h.1;obtain⟨h1,h2,h3⟩:=vx _ _ _ _ hr
  exact⟨h1,by omega,h.2⟩
 rintro⟨h1,h2,h3⟩
 simp only[dL,Bool.and_eq_true,decide_eq_true_eq]
 rw[dy x 256 0 h1 (h1.small h3) h2]
 exact⟨rfl,h3⟩
theorem o0:∀ a:List UInt8,Lib.compareBytes a a=0
 | []=>by rw[Lib.compareBytes]
 | x::a=>by rw[Lib.compareBytes,if_neg (UInt8.lt_irrefl x),if_neg (UInt8.lt_irrefl x)];exact o0 a
theorem du:∀ a b c:List UInt8,Lib.compareBytes a b<0→Lib.compareBytes b c<0→Lib.compareBytes a c<0
 | [],[],c,h,_=>by rw[Lib.compareBytes]at h;omega
 | [],y::b,[],_,h=>by rw[Lib.compareBytes]at h;omega
 | [],y::b,z::c,_,_=>by rw[Lib.compareBytes];omega
 | x::a,[],c,h,_=>by rw[Lib.compareBytes]at h;omega
 | x::a,y::b,[],_,h=>by rw[Lib.compareBytes]at h;omega
 | x::a,y::b,z::c,h,k=>by
  rw[Lib.compareBytes]at h k⊢
  by_cases h1:x<y
  ·by_cases h2:y<z
   ·have h3:x<z:=UInt8.lt_trans h1 h2;rw[if_pos h3];omega
   rw[if_neg h2]at k
   by_cases h3:z<y
   ·rw[if_pos h3]at k;omega
   have e:y=z:=UInt8.toNat_inj.1 (by rw[UInt8.lt_iff_toNat_lt]at h2 h3;omega);subst e;rw[if_pos h1];omega
  rw[if_neg h1]at h
  by_cases h2:y<x
  ·rw[if_pos h2]at h;omega
  rw[if_neg h2]at h;have e:x=y:=UInt8.toNat_inj.1 (by rw[UInt8.lt_iff_toNat_lt]at h1 h2;omega);subst e
  by_cases h3:x<z
  ·rw[if_pos h3];omega
  rw[if_neg h3]at k⊢
  by_cases h4:z<x
  ·rw[if_pos h4]at k;omega
  rw[if_neg h4]at k⊢
  exact du a b c h k
def RI:List Itm→List (Itm×Itm)
 | a::b::r=>(a,b)::RI r
 | _=>[]
mutual
def sR:Itm→Itm→Bool
 | .mk k n bs l,.mk k' n' bs' l'=>k==k'&&n==n'&&bs==bs'&&tW l l'
def tW:List Itm→List Itm→Bool
 | [],[]=>true
 | x::l,y::m=>sR x y&&tW l m
 | _,_=>false
end
mutual
theorem nN:∀ (x y:Itm),sR x y=true↔x=y
 | .mk k n bs l,.mk k' n' bs' l'=>by
  rw[sR]
  simp only[Bool.and_eq_true,beq_iff_eq,js l l',Itm.mk.injEq,and_assoc]
theorem js:∀ (l m:List Itm),tW l m=true↔l=m
 | [],[]=>by simp[tW]
 | [],y::m=>by simp[tW]
 | x::l,[]=>by simp[tW]
 | x::l,y::m=>by
  rw[tW]
  simp only[Bool.and_eq_true,nN x y,js l m,List.cons.injEq]
end
def i3 (n:Nat):Nat:=if n<24 then n else if n<256 then 24 else if n<65536 then 25 else if n<4294967296 then 26 else 27
def i4 (n:Nat):List UInt8:=if n<24 then [] else if n<256 then [u8 n] else if n<65536 then [u8 (n/256),u8 n] else if n<4294967296 then [u8 (n/16777216),u8 (n/65536),u8 (n/256),u8 n] else be8 n 8
theorem o3 (m n:Nat):zj m n=u8 (m*32+i3 n)::i4 n:=by
 unfold zj i3 i4
 repeat' split
 all_goals rfl
theorem rT (n:Nat) (w:World):(callFunc 127 #[.int .u64 (n:Int)]).run Tryz.prog w=.ok (.value (.float .f64 n)) w:=by
 rw[run_callFunc_extern Tryz.func127 (by kernel_rfl) (by kernel_rfl) (by kernel_rfl) (e:=Extern.MathFloatBits.float64frombits) (by kernel_rfl)];rfl
theorem nj (n:Nat) (w:World):(callFunc 128 #[.float .f64 n]).run Tryz.prog w=.ok (.value (.int .u64 (n:Int))) w:=by
 rw[run_callFunc_extern Tryz.func128 (by kernel_rfl) (by kernel_rfl) (by kernel_rfl) (e:=Extern.MathFloatBits.float64bits) (by kernel_rfl)];rfl
theorem vT (w:World) (A B:Option Addr) (a b:List UInt8) (n m c d:Nat) (hn:n=a.length) (hm:m=b.length) (hna:n≤1099511627776) (hmb:m≤1099511627776) (ha:Src w A (a.map zg)) (hb:Src w B (b.map zg)) :
  Calls Tryz.prog 34 #[.slice A n c,.slice B m d] w fun e w'=>e=.returned (.int .i64 (Lib.compareBytes a b))∧Below w.heap.size w w':=by
 have HN:=Hh hn;have HM:=Hh hm;clear hn hm;go_enter Tryz.func34,Tryz.ntmps34
 go_wp2_with fail
 go_loopw [5] (fun vi wr=>∃ k:Nat,k≤n∧k≤m∧vi=.int .i64 k∧Lib.compareBytes (a.drop k) (b.drop k)=Lib.compareBytes a b∧Below w.heap.size w wr) (fun vi _=>n-(intOf vi).toNat)
 case atStart=>exact⟨0,by omega,by omega,rfl,by simp,Below.refl _ _⟩
 case round =>
 obtain⟨k,pX,kM,rfl,hc,yE⟩:=hrel;have hn:=HN.out;have hm:=HM.out
 by_cases h1:k<n
 ·by_cases h2:k<m
  ·obtain⟨ab,ao,rfl,G3⟩:=(ha.below yE) (by intro h;simp at h;subst h;simp at hn;omega)
   obtain⟨bb,bo,rfl,VZ⟩:=(hb.below yE) (by intro h;simp at h;subst h;simp at hm;omega)
   have ka:k<a.length:=by omega
   have kb:k<b.length:=by omega
   have p0:=G3 k (zg a[k]) (by simp[ka]);have q0:=VZ k (zg b[k]) (by simp[kb])
   have hd:Lib.compareBytes (a.drop k) (b.drop k)=if a[k]<b[k] then -1 else if b[k]<a[k] then 1 else Lib.compareBytes (a.drop (k+1)) (b.drop (k+1)):=by
    rw[List.drop_eq_getElem_cons ka,List.drop_eq_getElem_cons kb,Lib.compareBytes]
   rw[hc]at hd
   generalize a[k]'ka=x at *
   generalize b[k]'kb=y at *
   have HD:=Hh hd;clear hd hc hn hm G3 VZ ka kb;go_upto_region 4 with fail
   refine zn 8 (fun w'=>w'.cell? ⟨ab,ao+k,none⟩=some (zg x)∧w'.cell? ⟨bb,bo+k,none⟩=some (zg y)) (by kernel_rfl) (⟨p0,q0⟩) (fun zy=>?_)
   refine Tk 0 rfl zy ?_
   refine Tk 1 rfl zy ?_
   refine Tk 2 rfl zy ?_
   refine Tk 3 rfl zy ?_
   refine Tk 4 rfl zy ?_
   refine Tk 5 rfl zy ?_
   refine Tk 6 rfl zy ?_
   refine Tk 7 rfl zy ?_
   refine To 8 rfl fun K hK=>?_
   go_simp
   refine Kz hK ?_
   clear hK K
   refine Wd ?_
   clear zy
   by_cases hxy:x=y
   ·subst hxy;have E:Hid (Lib.compareBytes (a.drop (k+1)) (b.drop (k+1))=Lib.compareBytes a b):=by rw[Hid,HD.out,if_neg (UInt8.lt_irrefl x),if_neg (UInt8.lt_irrefl x)]
    have yz:=yE.drew;go_wp2_with fail
    go_roundw
    case rel=>exact⟨k+1,by omega,by omega,by go_num,E.out,yz⟩
    case measure=>simp[intOf];omega
   have xq:((x.toNat:Int) != (y.toNat:Int))=true:=by
    rw[bne_iff_ne]
    intro h
    exact hxy (UInt8.toNat_inj.1 (by omega))
   have yz:=yE.drew.drew;have IK:=Hh hxy;clear hxy;go_upto_region 5 with fail
   refine zn 8 (fun w'=>w'.cell? ⟨ab,ao+k,none⟩=some (zg x)∧w'.cell? ⟨bb,bo+k,none⟩=some (zg y)) (by kernel_rfl) (⟨p0,q0⟩) (fun zy=>?_)
   refine Tk 0 rfl zy ?_
   refine Tk 1 rfl zy ?_
   refine Tk 2 rfl zy ?_
   refine Tk 3 rfl zy ?_
   refine Tk 4 rfl zy ?_
   refine Tk 5 rfl zy ?_
   refine Tk 6 rfl zy ?_
   refine Tk 7 rfl zy ?_
   refine To 8 rfl fun K hK=>?_
   go_simp
   refine Kz hK ?_
   clear hK K
   refine Wd ?_
   clear zy
   by_cases hl:x<y
   ·have E:Hid (Lib.compareBytes a b = -1):=by rw[Hid,HD.out,if_pos hl]
    have te:(x.toNat:Int)<(y.toNat:Int):=by have:=UInt8.lt_iff_toNat_lt.1 hl;omega
    clear hl;go_wp2_with fail
    go_ret
    exact⟨by rw[E.out];rfl,yz⟩
   have hg:y<x:=by
    have:=IK.out
    rcases Nat.lt_trichotomy x.toNat y.toNat with h | h | h
    ·exact absurd (UInt8.lt_iff_toNat_lt.2 h) hl
    ·exact absurd (UInt8.toNat_inj.1 h) this
    exact UInt8.lt_iff_toNat_lt.2 h
   have E:Hid (Lib.compareBytes a b=1):=by rw[Hid,HD.out,if_neg hl,if_pos hg]
   have te:(y.toNat:Int)≤(x.toNat:Int):=by have:=UInt8.lt_iff_toNat_lt.1 hg;omega
   clear hl hg;go_wp2_with fail
   go_ret
   exact⟨by rw[E.out];rfl,yE.drew.drew⟩
  have J7:k=m:=by omega
  have E:Hid (Lib.compareBytes a b=1):=by
   rw[Hid,← hc,List.drop_eq_getElem_cons (show k<a.length by omega),List.drop_eq_nil_of_le (show b.length≤k by omega),Lib.compareBytes]
  clear hc hn hm;go_wp2_with fail
  go_ret
  exact⟨by rw[E.out];rfl,yE⟩
 have ej:k=n:=by omega
 by_cases h2:k<m
 ·have E:Hid (Lib.compareBytes a b = -1):=by
   rw[Hid,← hc,List.drop_eq_nil_of_le (show a.length≤k by omega),List.drop_eq_getElem_cons (show k<b.length by omega),Lib.compareBytes]
  clear hc hn hm;go_wp2_with fail
  go_ret
  exact⟨by rw[E.out];rfl,yE⟩
 have E:Hid (Lib.compareBytes a b=0):=by
  rw[Hid,← hc,List.drop_eq_nil_of_le (show a.length≤k by omega),List.drop_eq_nil_of_le (show b.length≤k by omega),Lib.compareBytes]
 clear hc hn hm;go_wp2_with fail
 go_ret
 exact⟨by rw[E.out];rfl,yE⟩
theorem OwnB.blk {w:World}{g base:Nat}{cs:Array Value}{l:List UInt8}(h:Blk w g 5 cs) (hc:cs.toList=l.map zg) (hb:base≤g) (hm:l.length≤4096) (k:Nat) (hk:k=l.length) :
  OwnB w base (.slice (some ⟨g,0,none⟩) k k) l:=by
 subst hk
 refine⟨by simp,.inr ⟨g,l.length,cs,rfl,hb,h,Nat.le_refl _,by simp only[maxLen];omega, ?_, ?_⟩⟩
 ·rw[← Array.length_toList,hc];simp
 rw[hc,Nat.mul_one];exact List.take_of_length_le (by simp)
def tX (n s j:Nat):List UInt8:=(List.range j).map fun t=>u8 (n/2 ^ (8*(s-1-t)))
theorem gN (n s j:Nat):tX n s (j+1)=tX n s j++[u8 (n/2 ^ (8*(s-1-j)))]:=by
 simp[tX,List.range_succ]
theorem nR (n s j:Nat):(tX n s j).length=j:=by simp[tX]
def mV (n s j:Nat):UInt8:=u8 (n/2 ^ (8*(s-1-j)))
def rP (n:Nat):Nat:=if n<256 then 1 else if n<65536 then 2 else if n<4294967296 then 4 else 8
def pM (n:Nat):Nat:=if n<256 then 24 else if n<65536 then 25 else if n<4294967296 then 26 else 27
def lG (m n:Nat):UInt8:=u8 (m*32+pM n)
theorem YI (m n:Nat) (h:24≤n):zj m n=lG m n::tX n (rP n) (rP n):=by
 rw[zj,if_neg (by omega),lG,pM,rP]
 by_cases h1:n<256
 ·simp[h1,tX,List.range_succ]
 by_cases h2:n<65536
 ·simp[h1,h2,tX,List.range_succ]
 by_cases h3:n<4294967296
 ·simp[h1,h2,h3,tX,List.range_succ]
 simp[h1,h2,h3,tX,be8,List.range_succ]
theorem OG {n:Int}(h:n<256):rP n.toNat=1∧pM n.toNat=24:=by
 constructor <;> (simp only[rP,pM];repeat (first | rw[if_pos (by omega)] | rw[if_neg (by omega)]))
theorem OH {n:Int}(h:256≤n) (h':n<65536):rP n.toNat=2∧pM n.toNat=25:=by
 constructor <;> (simp only[rP,pM];repeat (first | rw[if_pos (by omega)] | rw[if_neg (by omega)]))
theorem OI {n:Int}(h:65536≤n) (h':n<4294967296):rP n.toNat=4∧pM n.toNat=26:=by
 constructor <;> (simp only[rP,pM];repeat (first | rw[if_pos (by omega)] | rw[if_neg (by omega)]))
theorem OJ {n:Int}(h:4294967296≤n):rP n.toNat=8∧pM n.toNat=27:=by
 constructor <;> (simp only[rP,pM];repeat (first | rw[if_pos (by omega)] | rw[if_neg (by omega)]))
theorem TH (n:Nat):1≤rP n∧rP n≤8:=by
 unfold rP
 repeat' split
 all_goals omega
theorem Vt {m n:Int}(oP:0≤m) (hm:m<8) (h0:0≤n) (h:n<24):(#[.int .u8 (32*m+n)]:Array Value).toList=(zj m.toNat n.toNat).map zg:=by
 rw[zj,if_pos (by omega)]
 simp only[List.map_cons,List.map_nil,vk]
 congr 2
 omega
theorem yW (m n:Int) (w:World) (oP:0≤m) (hm:m<8) (h0:0≤n) (h1:n<18446744073709551616) :
  Calls Tryz.prog 61 #[.int .i64 m,.int .u64 n] w fun e w'=>∃ r,e=.returned r∧Fresh w (zj m.toNat n.toNat) r w':=by
 have H1:=Hh h1;have H0:=Hh h0;have K0:IntKind.u8.wrap (32*m+24)=32*m+24:=IntWalk.u8_in _ (by omega);have K1:IntKind.i64.wrap (32*m)=32*m:=IntWalk.i64_in _ (by omega);have K2:IntKind.i64.wrap (32*m+24)=32*m+24:=IntWalk.i64_in _ (by omega);have K3:IntKind.u8.wrap (32*m)=32*m:=IntWalk.u8_in _ (by omega);have hB:=Blk.new w 5 #[.int .u8 (32*m+24)];have yZ:=zl w (.cells #[.int .u8 (32*m+24)] 5);clear h1;go_enter Tryz.func61,Tryz.ntmps61
 go_upto_block 0 with fail
 go_cut [5,6] (fun s5 s6 wx=>24≤n∧s5=.slice (some ⟨w.heap.size,0,none⟩) 1 1∧s6=.int .i64 (rP n.toNat:Int)∧Blk wx w.heap.size 5 #[.int .u8 (32*m+(pM n.toNat:Int))]∧Below w.heap.size w wx)
 case first =>
  go_wp2_with fail
  ·go_ret
   have yy:n<24:=by with_reducible assumption
   have hc:=Vt oP hm H0.out yy;have vE:=Blk.new (w.alloc (.cells #[.int .u8 (32*m+24)] 5)) 5 #[.int .u8 (32*m+n)]
   simp only[zW]at vE
   have Zg:1=(zj m.toNat n.toNat).length:=by rw[zi,if_pos (by omega)]
   exact⟨_,rfl,OwnB.blk vE hc (by omega) (by omega) 1 Zg,yZ.alloc yZ.size _⟩
  ·have n9:24≤n:=by with_reducible assumption
   have yy:n<256:=by with_reducible assumption
   obtain⟨e1,e2⟩:=OG yy;go_meet
   rw[e1,e2]
   exact⟨n9,rfl,rfl,hB,yZ⟩
  ·have n9:24≤n:=by with_reducible assumption
   have iJ:256≤n:=by with_reducible assumption
   have yy:n<65536:=by with_reducible assumption
   obtain⟨e1,e2⟩:=OH iJ yy;go_meet
   rw[e1,e2];have:=Blk.new w 5 #[.int .u8 (32*m+24+1)];rw[show 32*m+24+1=32*m+((25:Nat):Int) by omega]at this⊢
   exact⟨n9,rfl,rfl,this,zl _ _⟩
  ·have n9:24≤n:=by with_reducible assumption
   have iJ:65536≤n:=by with_reducible assumption
   have yy:n<4294967296:=by with_reducible assumption
   obtain⟨e1,e2⟩:=OI iJ yy;go_meet
   rw[e1,e2];have:=Blk.new w 5 #[.int .u8 (32*m+24+2)];rw[show 32*m+24+2=32*m+((26:Nat):Int) by omega]at this⊢
   exact⟨n9,rfl,rfl,this,zl _ _⟩
  have n9:24≤n:=by with_reducible assumption
  have iJ:4294967296≤n:=by with_reducible assumption
  obtain⟨e1,e2⟩:=OJ iJ;go_meet
  rw[e1,e2];have:=Blk.new w 5 #[.int .u8 (32*m+24+3)];rw[show 32*m+24+3=32*m+((27:Nat):Int) by omega]at this⊢
  exact⟨n9,rfl,rfl,this,zl _ _⟩
 case rest =>
 obtain⟨n9,rfl,rfl,vE,yz⟩:=hcut;obtain⟨ug,VI⟩:=TH n.toNat;have HT:=Hh (YI m.toNat n.toNat (by omega))
 generalize rP n.toNat=s at *
 have K5:IntKind.i64.wrap ((s:Int)-1)=(s:Int)-1:=IntWalk.i64_in _ (by omega)
 have hO:OwnB wc w.heap.size (.slice (some ⟨w.heap.size,0,none⟩) 1 1) [lG m.toNat n.toNat]:=by
  refine OwnB.blk vE ?_ (Nat.le_refl _) (by simp) 1 rfl
  simp only[List.map_cons,List.map_nil,lG,vk]
  have:pM n.toNat≤27:=by unfold pM;(repeat' split);all_goals omega
  congr 2
  omega
 go_upto_region 13 with fail
 go_loopw [5,7] (fun v5 v7 wr=>∃ (j:Nat) (VA:Option Addr) (vc:Nat),j≤s∧v7=.int .i64 ((s:Int)-1-j)∧v5=.slice VA (1+j) vc∧OwnB wr w.heap.size (.slice VA (1+j) vc) (lG m.toNat n.toNat::tX n.toNat s j)∧Below w.heap.size w wr) (fun _ v7 _=>(intOf v7+1).toNat)
 case atStart=>exact⟨0,_,_,by omega,by go_num,rfl,hO,yz⟩
 case round =>
 obtain⟨j,VA,vc,hj,rfl,rfl,vf,yE⟩:=hrel
 by_cases yy:j<s
 ·have iJ:(0:Int)≤(s:Int)-1-j:=by omega
  have uH:(#[.int .u8 (n/2 ^ (8*(s-1-j))%256)]:Array Value).toList=[mV n.toNat s j].map zg:=by
   simp only[List.map_cons,List.map_nil,mV,vk]
   obtain⟨n',rfl⟩:=Int.eq_ofNat_of_zero_le H0.out
   simp
  have vg:=yE.alloc yE.size (.cells #[.int .u8 (n/2 ^ (8*(s-1-j))%256)] 5);have qC:=vf.alloc (.cells #[.int .u8 (n/2 ^ (8*(s-1-j))%256)] 5);have HC:=Hh uH;clear uH;go_wp2_with (at_builtin;refine zf ?_)
  refine zv rfl (.tmp 56) (.tmp 63) rfl w.heap.size _ _ rfl qC _ 1 _ [mV n.toNat s j] rfl rfl (Src.new _ _ _ _ rfl _ HC.out) (by simp[nR];omega) vg.size fun v' w7 wY hg7 hat7=>?_
  have Qg:(lG m.toNat n.toNat::tX n.toNat s j)++[mV n.toNat s j]=lG m.toNat n.toNat::tX n.toNat s (j+1):=by rw[gN];rfl
  obtain⟨VA',vc',rfl,_⟩:=wY.form;have ir:((lG m.toNat n.toNat::tX n.toNat s j)++[mV n.toNat s j]).length=1+(j+1):=by simp[nR];omega
  rw[ir]at wY;rw[ir];rw[Qg]at wY;have xU:=vg.grown hg7 vg.size (fun q hq=>(qC.lt q hq).1);clear Qg ir hg7 hat7 qC vf vg yE;go_wp2_with fail
  go_roundw
  case rel=>exact⟨j+1,VA',vc',by omega,by rw[show((j+1:Nat):Int)=(j:Int)+1 by omega,show(s:Int)-1-((j:Int)+1)=(s:Int)-1-j-1 by omega],rfl,wY,xU⟩
  case measure=>simp[intOf];omega
 have J5:j=s:=by omega
 subst J5;have E:Hid (zj m.toNat n.toNat=lG m.toNat n.toNat::tX n.toNat j j):=HT.out;have C1:(j:Int)-1-j<0:=by omega
 go_wp2_with fail
 go_ret
 rw[E.out]
 exact⟨_,rfl,vf,yE⟩
theorem ts (a k:Nat) (ha:a<2 ^ 64) (hk:k<64):bits .and .u64 (a:Int) ((2 ^ k-1:Nat):Int)=((a%2 ^ k:Nat):Int):=by
 rw[u64_and_nat a (2 ^ k-1) (by simpa using ha) ?_,Nat.and_two_pow_sub_one_eq_mod];have:2 ^ k<2 ^ 64:=Nat.pow_lt_pow_right (by omega) hk
 omega
theorem pa (a k b:Nat) (hb:b<2 ^ k) (h:a*2 ^ k+b<2 ^ 64):bits .or .u64 ((a*2 ^ k:Nat):Int) (b:Int)=((a*2 ^ k+b:Nat):Int):=by
 rw[u64_or_nat _ _ (by omega) (by omega),Nat.mul_comm,Nat.two_pow_add_eq_or_of_lt hb]
theorem U4 (b k:Nat) (hb:b<2 ^ k) (hk:k<64):bits .or .u64 (b:Int) ((2 ^ k:Nat):Int)=((b+2 ^ k:Nat):Int):=by
 have h1:2 ^ k<2 ^ 64:=Nat.pow_lt_pow_right (by omega) hk;rw[u64_or_nat _ _ (by omega) (by omega),Nat.or_comm];have:=Nat.two_pow_add_eq_or_of_lt hb 1;rw[Nat.mul_one]at this;rw[← this,Nat.add_comm]
theorem bC (k:Nat) (hk:k<64):IntKind.u64.wrap (IntKind.u64.wrap ((2:Int) ^ k)-1)=((2 ^ k-1:Nat):Int):=by
 have h1:2 ^ k<2 ^ 64:=Nat.pow_lt_pow_right (by omega) hk;have h2:0<2 ^ k:=Nat.two_pow_pos k;have e:(2:Int) ^ k=((2 ^ k:Nat):Int):=by rw[Int.natCast_pow];rfl
 simp only[Nat.reducePow]at h1
 have e1:IntKind.u64.wrap ((2 ^ k:Nat):Int)=((2 ^ k:Nat):Int):=IntWalk.u64_in _ (by omega);rw[e,e1,IntWalk.u64_in _ (by omega)]
 omega
theorem pJ (n:Nat) (hn:n<18446744073709551616) (w:World) :
  Calls Tryz.prog 73 #[.int .u64 (n:Int)] w fun e w'=>e=.returned (.bool (isNaN n))∧w=w':=by
 have A1:=ts (n/2 ^ 52) 11 (by omega) (by omega);have A2:=ts n 52 (by omega) (by omega)
 have E:Hid (isNaN n=(((n/2 ^ 52%2 ^ 11:Nat):Int)==2047&&((n%2 ^ 52:Nat):Int) != 0)):=by
  rw[Hid,isNaN,Bool.eq_iff_iff]
  simp only[Bool.and_eq_true,beq_iff_eq,bne_iff_ne]
  omega
 simp only[Nat.reducePow,Nat.reduceSub]at A1 A2 E
 rw[Int.natCast_ediv]at A1;have HN:=Hh hn;have EG:=Hh A1;have VM:=Hh A2;clear hn A1 A2;go_enter Tryz.func73,Tryz.ntmps73
 go_wp2_with fail
 all_goals
  go_ret
  refine⟨?_,rfl⟩
  have A1:=EG.out;have A2:=VM.out;have E':=E.out;show Ending.returned (Value.bool _)=_
  clear E EG VM HN
  simp_all
theorem cr (n:Nat) (hn:n<18446744073709551616) (w:World) :
  Calls Tryz.prog 74 #[.int .u64 (n:Int),.int .i64 5,.int .i64 10] w
   fun e w'=>(∃ v:Nat,e=.returned (.tuple #[.int .u64 (v:Int),.bool (xL n 5 10).isSome])∧∀ x,xL n 5 10=some x→v=x)∧w=w':=by
 have A1:=ts (n/2 ^ 52) 11 (by omega) (by omega);have A2:=ts n 52 (by omega) (by omega)
 simp only[Nat.reducePow,Nat.reduceSub]at A1 A2
 rw[Int.natCast_ediv]at A1;obtain⟨ex,qh⟩:∃ ex,n/4503599627370496%2048=ex:=⟨_,rfl⟩
 obtain⟨mx,XN⟩:∃ mx,n%4503599627370496=mx:=⟨_,rfl⟩
 obtain⟨sg,NR⟩:∃ sg,n/9223372036854775808=sg:=⟨_,rfl⟩
 have ug:sg≤1:=by omega
 have E:Hid (xL n 5 10=if ex=2047 then(if mx=0 then some (sg*32768+31744) else none) else if ex=0 then(if mx=0 then some (sg*32768) else none)
   else if 1023+31≤ex+15 then none else if 1023<ex+15 then(if mx%4398046511104=0 then some (sg*32768+(ex+15-1023)*1024+mx/4398046511104) else none)
   else if 52<43+(1023-ex-15) then none else if(mx+4503599627370496)%2 ^ (43+(1023-ex-15))=0 then some (sg*32768+(mx+4503599627370496)/2 ^ (43+(1023-ex-15))) else none):=by
  rw[Hid,xL]
  simp only[Nat.reducePow,Nat.reduceSub,Nat.reduceAdd,Nat.reduceMul,qh,XN,NR]
 rw[qh]at A1;rw[XN]at A2;have Dm:ex<2048:=by omega
 have mQ:mx<4503599627370496:=by omega
 have A1':bits .and .u64 ((n:Int)/4503599627370496) 2047=(ex:Int):=A1;have A2':bits .and .u64 (n:Int) 4503599627370495=(mx:Int):=A2;have K1:IntKind.i64.wrap (ex:Int)=(ex:Int):=IntWalk.i64_in _ (by omega)
 have KS:Hid (IntKind.u64.wrap ((n:Int)/9223372036854775808*32768)=((sg*2 ^ 15:Nat):Int)):=by
  rw[Hid,IntWalk.u64_in _ (by omega)]
  omega
 clear hn qh XN NR A1 A2;go_enter Tryz.func74,Tryz.ntmps74
 go_wp2_with fail
 ·have h1:ex=2047:=by
   have h:((ex:Int)==2047)=true:=by assumption
   rw[beq_iff_eq]at h
   omega
  go_ret2
  have JI:=pa sg 15 31744 (by omega) (by omega)
  refine⟨⟨sg*32768+31744, ?_, ?_⟩,rfl⟩
  ·show Ending.returned (Value.tuple #[Value.int .u64 _,Value.bool _])=_
   rw[KS.out,E.out,if_pos h1];rw[show(31744:Int)=((31744:Nat):Int) from rfl,JI]
   by_cases h:mx=0 <;> simp[h]
  intro x hx
  rw[E.out,if_pos h1]at hx
  split at hx
  ·injection hx
  cases hx
 ·have h1:¬ ex=2047:=by
   have h:((ex:Int)==2047)=false:=by assumption
   rw[beq_eq_false_iff_ne]at h
   omega
  have h2:ex=0:=by
   have h:((ex:Int)==0)=true:=by assumption
   rw[beq_iff_eq]at h
   omega
  go_ret2
  refine⟨⟨sg*32768, ?_, ?_⟩,rfl⟩
  ·show Ending.returned (Value.tuple #[Value.int .u64 _,Value.bool _])=_
   rw[KS.out,E.out,if_neg h1,if_pos h2]
   by_cases h:mx=0 <;> simp[h]
  intro x hx
  rw[E.out,if_neg h1,if_pos h2]at hx
  split at hx
  ·injection hx
  cases hx
 all_goals
  have h1:¬ ex=2047:=by
   have h:((ex:Int)==2047)=false:=by assumption
   rw[beq_eq_false_iff_ne]at h
   omega
  have h2:¬ ex=0:=by
   have h:((ex:Int)==0)=false:=by assumption
   rw[beq_eq_false_iff_ne]at h
   omega
  rw[if_neg h1,if_neg h2]at E
 ·have h3:1023+31≤ex+15:=by omega
  go_ret2
  refine⟨⟨0, ?_, ?_⟩,rfl⟩
  ·rw[E.out,if_pos h3];rfl
  intro x hx
  rw[E.out,if_pos h3]at hx
  cases hx
 ·have h3:¬ 1023+31≤ex+15:=by omega
  have h4:1023<ex+15:=by omega
  obtain⟨q,hq⟩:∃ q,ex+15-1023=q:=⟨_,rfl⟩
  have JJ:((ex:Int)-1023+15)*1024=((q*1024:Nat):Int):=by omega
  have NN:(mx:Int)/4398046511104=((mx/4398046511104:Nat):Int):=by omega
  have ha:=ts mx 42 (by omega) (by omega)
  simp only[Nat.reducePow,Nat.reduceSub]at ha
  have Nz:=pa sg 15 (q*1024) (by omega) (by omega);have Qj:=pa (sg*2 ^ 5+q) 10 (mx/4398046511104) (by omega) (by omega);rw[show(sg*2 ^ 5+q)*2 ^ 10=sg*2 ^ 15+q*1024 by omega]at Qj;go_ret2
  refine⟨⟨sg*32768+q*1024+mx/4398046511104, ?_, ?_⟩,rfl⟩
  ·show Ending.returned (Value.tuple #[Value.int .u64 _,Value.bool _])=_
   rw[KS.out,E.out,if_neg h3,if_pos h4,JJ,NN,Nz,Qj];have Ir:bits .and .u64 (mx:Int) 4398046511103=((mx%4398046511104:Nat):Int):=ha;rw[Ir]
   by_cases h:mx%4398046511104=0
   ·rw[if_pos h,h];rfl
   rw[if_neg h];have:(((mx%4398046511104:Nat):Int)==0)=false:=by rw[beq_eq_false_iff_ne];omega
   rw[this];rfl
  intro x hx
  rw[E.out,if_neg h3,if_pos h4,hq]at hx
  split at hx
  ·injection hx
  cases hx
 ·have h5:52<43+(1023-ex-15):=by omega
  have h3:¬ 1023+31≤ex+15:=by omega
  have h4:¬ 1023<ex+15:=by omega
  go_ret2
  refine⟨⟨0, ?_, ?_⟩,rfl⟩
  ·rw[E.out,if_neg h3,if_neg h4,if_pos h5];rfl
  intro x hx
  rw[E.out,if_neg h3,if_neg h4,if_pos h5]at hx
  cases hx
 have h3:¬ 1023+31≤ex+15:=by omega
 have h4:¬ 1023<ex+15:=by omega
 have h5:¬ 52<43+(1023-ex-15):=by omega
 obtain⟨sh,Q9⟩:∃ sh,43+(1023-ex-15)=sh:=⟨_,rfl⟩
 have JQ:(43-((ex:Int)-1023+15)).toNat=sh:=by omega
 obtain⟨full,pN⟩:∃ full,mx+4503599627370496=full:=⟨_,rfl⟩
 have JH:bits .or .u64 (mx:Int) 4503599627370496=(full:Int):=by
  have:=U4 mx 52 (by omega) (by omega)
  simp only[Nat.reducePow]at this
  rw[← pN]
  exact this
 have hw:IntKind.u64.wrap (IntKind.u64.wrap ((2:Int) ^ sh)-1)=((2 ^ sh-1:Nat):Int):=bC sh (by omega)
 have Iw:(full:Int)/2 ^ sh=((full/2 ^ sh:Nat):Int):=by
  rw[Int.natCast_ediv,Int.natCast_pow];rfl
 have yy:full/2 ^ sh<2 ^ 15:=by
  apply Nat.div_lt_of_lt_mul
  have:2 ^ 43≤2 ^ sh:=Nat.pow_le_pow_right (by omega) (by omega);have h2:2 ^ 43*2 ^ 15≤2 ^ sh*2 ^ 15:=Nat.mul_le_mul_right _ this
  simp only[Nat.reducePow,Nat.reduceMul]at h2⊢
  omega
 have ho:=pa sg 15 (full/2 ^ sh) yy (by simp only[Nat.reducePow]at yy⊢;omega);have ha:=ts full sh (by omega) (by omega);go_ret2
 refine⟨⟨sg*32768+full/2 ^ sh, ?_, ?_⟩,rfl⟩
 ·show Ending.returned (Value.tuple #[Value.int .u64 _,Value.bool _])=_
  rw[KS.out,E.out,if_neg h3,if_neg h4,if_neg h5,JQ,JH,hw,ha,Iw,ho,Q9,pN]
  by_cases h:full%2 ^ sh=0
  ·rw[if_pos h,h];rfl
  rw[if_neg h];have:(((full%2 ^ sh:Nat):Int)==0)=false:=by rw[beq_eq_false_iff_ne];omega
  rw[this];rfl
 intro x hx
 rw[E.out,if_neg h3,if_neg h4,if_neg h5,Q9,pN]at hx
 split at hx
 ·injection hx
 cases hx
theorem ct (n:Nat) (hn:n<18446744073709551616) (w:World) :
  Calls Tryz.prog 74 #[.int .u64 (n:Int),.int .i64 8,.int .i64 23] w
   fun e w'=>(∃ v:Nat,e=.returned (.tuple #[.int .u64 (v:Int),.bool (xL n 8 23).isSome])∧∀ x,xL n 8 23=some x→v=x)∧w=w':=by
 have A1:=ts (n/2 ^ 52) 11 (by omega) (by omega);have A2:=ts n 52 (by omega) (by omega)
 simp only[Nat.reducePow,Nat.reduceSub]at A1 A2
 rw[Int.natCast_ediv]at A1;obtain⟨ex,qh⟩:∃ ex,n/4503599627370496%2048=ex:=⟨_,rfl⟩
 obtain⟨mx,XN⟩:∃ mx,n%4503599627370496=mx:=⟨_,rfl⟩
 obtain⟨sg,NR⟩:∃ sg,n/9223372036854775808=sg:=⟨_,rfl⟩
 have ug:sg≤1:=by omega
 have E:Hid (xL n 8 23=if ex=2047 then(if mx=0 then some (sg*2147483648+2139095040) else none) else if ex=0 then(if mx=0 then some (sg*2147483648) else none)
   else if 1023+255≤ex+127 then none else if 1023<ex+127 then(if mx%536870912=0 then some (sg*2147483648+(ex+127-1023)*8388608+mx/536870912) else none)
   else if 52<30+(1023-ex-127) then none else if(mx+4503599627370496)%2 ^ (30+(1023-ex-127))=0 then some (sg*2147483648+(mx+4503599627370496)/2 ^ (30+(1023-ex-127))) else none):=by
  rw[Hid,xL]
  simp only[Nat.reducePow,Nat.reduceSub,Nat.reduceAdd,Nat.reduceMul,qh,XN,NR]
 rw[qh]at A1;rw[XN]at A2;have Dm:ex<2048:=by omega
 have mQ:mx<4503599627370496:=by omega
 have A1':bits .and .u64 ((n:Int)/4503599627370496) 2047=(ex:Int):=A1;have A2':bits .and .u64 (n:Int) 4503599627370495=(mx:Int):=A2;have K1:IntKind.i64.wrap (ex:Int)=(ex:Int):=IntWalk.i64_in _ (by omega)
 have KS:Hid (IntKind.u64.wrap ((n:Int)/9223372036854775808*2147483648)=((sg*2 ^ 31:Nat):Int)):=by
  rw[Hid,IntWalk.u64_in _ (by omega)]
  omega
 clear hn qh XN NR A1 A2;go_enter Tryz.func74,Tryz.ntmps74
 go_wp2_with fail
 ·have h1:ex=2047:=by
   have h:((ex:Int)==2047)=true:=by assumption
   rw[beq_iff_eq]at h
   omega
  go_ret2
  have JI:=pa sg 31 2139095040 (by omega) (by omega)
  refine⟨⟨sg*2147483648+2139095040, ?_, ?_⟩,rfl⟩
  ·show Ending.returned (Value.tuple #[Value.int .u64 _,Value.bool _])=_
   rw[KS.out,E.out,if_pos h1];rw[show(2139095040:Int)=((2139095040:Nat):Int) from rfl,JI]
   by_cases h:mx=0 <;> simp[h]
  intro x hx
  rw[E.out,if_pos h1]at hx
  split at hx
  ·injection hx
  cases hx
 ·have h1:¬ ex=2047:=by
   have h:((ex:Int)==2047)=false:=by assumption
   rw[beq_eq_false_iff_ne]at h
   omega
  have h2:ex=0:=by
   have h:((ex:Int)==0)=true:=by assumption
   rw[beq_iff_eq]at h
   omega
  go_ret2
  refine⟨⟨sg*2147483648, ?_, ?_⟩,rfl⟩
  ·show Ending.returned (Value.tuple #[Value.int .u64 _,Value.bool _])=_
   rw[KS.out,E.out,if_neg h1,if_pos h2]
   by_cases h:mx=0 <;> simp[h]
  intro x hx
  rw[E.out,if_neg h1,if_pos h2]at hx
  split at hx
  ·injection hx
  cases hx
 all_goals
  have h1:¬ ex=2047:=by
   have h:((ex:Int)==2047)=false:=by assumption
   rw[beq_eq_false_iff_ne]at h
   omega
  have h2:¬ ex=0:=by
   have h:((ex:Int)==0)=false:=by assumption
   rw[beq_eq_false_iff_ne]at h
   omega
  rw[if_neg h1,if_neg h2]at E
 ·have h3:1023+255≤ex+127:=by omega
  go_ret2
  refine⟨⟨0, ?_, ?_⟩,rfl⟩
  ·rw[E.out,if_pos h3];rfl
  intro x hx
  rw[E.out,if_pos h3]at hx
  cases hx
 ·have h3:¬ 1023+255≤ex+127:=by omega
  have h4:1023<ex+127:=by omega
  obtain⟨q,hq⟩:∃ q,ex+127-1023=q:=⟨_,rfl⟩
  have JJ:((ex:Int)-1023+127)*8388608=((q*8388608:Nat):Int):=by omega
  have NN:(mx:Int)/536870912=((mx/536870912:Nat):Int):=by omega
  have ha:=ts mx 29 (by omega) (by omega)
  simp only[Nat.reducePow,Nat.reduceSub]at ha
  have Nz:=pa sg 31 (q*8388608) (by omega) (by omega);have Qj:=pa (sg*2 ^ 8+q) 23 (mx/536870912) (by omega) (by omega);rw[show(sg*2 ^ 8+q)*2 ^ 23=sg*2 ^ 31+q*8388608 by omega]at Qj;go_ret2
  refine⟨⟨sg*2147483648+q*8388608+mx/536870912, ?_, ?_⟩,rfl⟩
  ·show Ending.returned (Value.tuple #[Value.int .u64 _,Value.bool _])=_
   rw[KS.out,E.out,if_neg h3,if_pos h4,JJ,NN,Nz,Qj];have Ir:bits .and .u64 (mx:Int) 536870911=((mx%536870912:Nat):Int):=ha;rw[Ir]
   by_cases h:mx%536870912=0
   ·rw[if_pos h,h];rfl
   rw[if_neg h];have:(((mx%536870912:Nat):Int)==0)=false:=by rw[beq_eq_false_iff_ne];omega
   rw[this];rfl
  intro x hx
  rw[E.out,if_neg h3,if_pos h4,hq]at hx
  split at hx
  ·injection hx
  cases hx
 ·have h5:52<30+(1023-ex-127):=by omega
  have h3:¬ 1023+255≤ex+127:=by omega
  have h4:¬ 1023<ex+127:=by omega
  go_ret2
  refine⟨⟨0, ?_, ?_⟩,rfl⟩
  ·rw[E.out,if_neg h3,if_neg h4,if_pos h5];rfl
  intro x hx
  rw[E.out,if_neg h3,if_neg h4,if_pos h5]at hx
  cases hx
 have h3:¬ 1023+255≤ex+127:=by omega
 have h4:¬ 1023<ex+127:=by omega
 have h5:¬ 52<30+(1023-ex-127):=by omega
 obtain⟨sh,Q9⟩:∃ sh,30+(1023-ex-127)=sh:=⟨_,rfl⟩
 have JQ:(30-((ex:Int)-1023+127)).toNat=sh:=by omega
 obtain⟨full,pN⟩:∃ full,mx+4503599627370496=full:=⟨_,rfl⟩
 have JH:bits .or .u64 (mx:Int) 4503599627370496=(full:Int):=by
  have:=U4 mx 52 (by omega) (by omega)
  simp only[Nat.reducePow]at this
  rw[← pN]
  exact this
 have hw:IntKind.u64.wrap (IntKind.u64.wrap ((2:Int) ^ sh)-1)=((2 ^ sh-1:Nat):Int):=bC sh (by omega)
 have Iw:(full:Int)/2 ^ sh=((full/2 ^ sh:Nat):Int):=by
  rw[Int.natCast_ediv,Int.natCast_pow];rfl
 have yy:full/2 ^ sh<2 ^ 31:=by
  apply Nat.div_lt_of_lt_mul
  have:2 ^ 30≤2 ^ sh:=Nat.pow_le_pow_right (by omega) (by omega);have h2:2 ^ 30*2 ^ 31≤2 ^ sh*2 ^ 31:=Nat.mul_le_mul_right _ this
  simp only[Nat.reducePow,Nat.reduceMul]at h2⊢
  omega
 have ho:=pa sg 31 (full/2 ^ sh) yy (by simp only[Nat.reducePow]at yy⊢;omega);have ha:=ts full sh (by omega) (by omega);go_ret2
 refine⟨⟨sg*2147483648+full/2 ^ sh, ?_, ?_⟩,rfl⟩
 ·show Ending.returned (Value.tuple #[Value.int .u64 _,Value.bool _])=_
  rw[KS.out,E.out,if_neg h3,if_neg h4,if_neg h5,JQ,JH,hw,ha,Iw,ho,Q9,pN]
  by_cases h:full%2 ^ sh=0
  ·rw[if_pos h,h];rfl
  rw[if_neg h];have:(((full%2 ^ sh:Nat):Int)==0)=false:=by rw[beq_eq_false_iff_ne];omega
  rw[this];rfl
 intro x hx
 rw[E.out,if_neg h3,if_neg h4,if_neg h5,Q9,pN]at hx
 split at hx
 ·injection hx
 cases hx
def SB (H:Snap) (A:Option Addr) (t:ByteArray):Prop:=0<t.size→∃ b off,A=some ⟨b,off,none⟩∧∀ j,j<t.size→H.cell? ⟨b,off+j,none⟩=some (.int .u8 ((t.get! j).toNat:Int))
theorem Qr (l:List UInt8):(⟨l.toArray⟩:ByteArray).data.toList=l:=by simp
theorem OC (l:List UInt8) (j:Nat) (h:j<l.length):(⟨l.toArray⟩:ByteArray).get! j=l[j]:=by
 show l.toArray[j]! = l[j]
 rw[getElem!_pos l.toArray j (by simpa using h)]
 simp
theorem SB.of {H:Snap}{A:Option Addr}{c:Nat}{l:List UInt8}(h:IsBytes H A c l):SB H A ⟨l.toArray⟩:=fun h0=>by
 have hl:(⟨l.toArray⟩:ByteArray).size=l.length:=by show l.toArray.size=l.length;simp
 rw[hl]at h0;obtain⟨b,off,e,hc⟩:=h.at_ h0
 refine⟨b,off,e,fun j hj=>?_⟩
 rw[hl]at hj;rw[hc j hj,OC l j hj]
theorem sK {H:Snap}{A:Option Addr}{t:ByteArray}(hs:SB H A t) (h8:8≤t.size) (c:Nat) (w:World) (hH:Holds w H) :
  Calls Tryz.prog 115 #[.slice A t.size c] w fun e w'=>e=.returned (.int .u64 ((Lib.leNat [t.get! 0,t.get! 1,t.get! 2,t.get! 3,t.get! 4,t.get! 5,t.get! 6,t.get! 7]:Nat):Int))∧∃ q,w'=w.drewN q:=by
 obtain⟨b,off,rfl,hc⟩:=hs (by omega);have c0:=hH.cell (hc 0 (by omega));have q0:(0:Int)<(t.size:Int):=by omega
 have p0:0<t.size:=by omega
 have c1:=hH.cell (hc 1 (by omega));have q1:(1:Int)<(t.size:Int):=by omega
 have p1:1<t.size:=by omega
 have c2:=hH.cell (hc 2 (by omega));have q2:(2:Int)<(t.size:Int):=by omega
 have p2:2<t.size:=by omega
 have c3:=hH.cell (hc 3 (by omega));have q3:(3:Int)<(t.size:Int):=by omega
 have p3:3<t.size:=by omega
 have c4:=hH.cell (hc 4 (by omega));have q4:(4:Int)<(t.size:Int):=by omega
 have p4:4<t.size:=by omega
 have c5:=hH.cell (hc 5 (by omega));have q5:(5:Int)<(t.size:Int):=by omega
 have p5:5<t.size:=by omega
 have c6:=hH.cell (hc 6 (by omega));have q6:(6:Int)<(t.size:Int):=by omega
 have p6:6<t.size:=by omega
 have c7:=hH.cell (hc 7 (by omega));have q7:(7:Int)<(t.size:Int):=by omega
 have p7:7<t.size:=by omega
 have l0:=(t.get! 0).toNat_lt
 generalize t.get! 0=x0 at *
 have l1:=(t.get! 1).toNat_lt
 generalize t.get! 1=x1 at *
 have l2:=(t.get! 2).toNat_lt
 generalize t.get! 2=x2 at *
 have l3:=(t.get! 3).toNat_lt
 generalize t.get! 3=x3 at *
 have l4:=(t.get! 4).toNat_lt
 generalize t.get! 4=x4 at *
 have l5:=(t.get! 5).toNat_lt
 generalize t.get! 5=x5 at *
 have l6:=(t.get! 6).toNat_lt
 generalize t.get! 6=x6 at *
 have l7:=(t.get! 7).toNat_lt
 generalize t.get! 7=x7 at *
 have hv:((Lib.leNat [x0,x1,x2,x3,x4,x5,x6,x7]:Nat):Int)=(x0.toNat:Int)+(x1.toNat:Int)*256+(x2.toNat:Int)*65536+(x3.toNat:Int)*16777216+(x4.toNat:Int)*4294967296+(x5.toNat:Int)*1099511627776+(x6.toNat:Int)*281474976710656+(x7.toNat:Int)*72057594037927936:=by
  simp only[Lib.leNat]
  push_cast
  omega
 have HV:=Hh hv;clear hv hc hs
 simp only[Nat.add_zero]at c0
 go_enter Tryz.func115,Tryz.ntmps115
 go_upto_region 2 with fail
 refine zn 47 (fun w'=>w'.cell? ⟨b,off,none⟩=some (.int .u8 (x0.toNat:Int))∧w'.cell? ⟨b,off+1,none⟩=some (.int .u8 (x1.toNat:Int))∧w'.cell? ⟨b,off+2,none⟩=some (.int .u8 (x2.toNat:Int))∧w'.cell? ⟨b,off+3,none⟩=some (.int .u8 (x3.toNat:Int))∧w'.cell? ⟨b,off+4,none⟩=some (.int .u8 (x4.toNat:Int))∧w'.cell? ⟨b,off+5,none⟩=some (.int .u8 (x5.toNat:Int))∧w'.cell? ⟨b,off+6,none⟩=some (.int .u8 (x6.toNat:Int))∧w'.cell? ⟨b,off+7,none⟩=some (.int .u8 (x7.toNat:Int))) (by kernel_rfl) (⟨c0,c1,c2,c3,c4,c5,c6,c7⟩) (fun zy=>?_)
 refine TkS 0 rfl zy ?_
 refine TkS 1 rfl zy ?_
 refine TkS 2 rfl zy ?_
 refine TkS 3 rfl zy ?_
 refine TkS 4 rfl zy ?_
 refine TkS 5 rfl zy ?_
 refine TkS 6 rfl zy ?_
 refine TkS 7 rfl zy ?_
 refine TkS 8 rfl zy ?_
 refine TkS 9 rfl zy ?_
 refine TkS 10 rfl zy ?_
 refine TkS 11 rfl zy ?_
 refine TkS 12 rfl zy ?_
 refine TkS 13 rfl zy ?_
 refine TkS 14 rfl zy ?_
 refine TkS 15 rfl zy ?_
 refine TkS 16 rfl zy ?_
 refine TkS 17 rfl zy ?_
 refine TkS 18 rfl zy ?_
 refine TkS 19 rfl zy ?_
 refine TkS 20 rfl zy ?_
 refine TkS 21 rfl zy ?_
 refine TkS 22 rfl zy ?_
 refine TkS 23 rfl zy ?_
 refine TkS 24 rfl zy ?_
 refine TkS 25 rfl zy ?_
 refine TkS 26 rfl zy ?_
 refine TkS 27 rfl zy ?_
 refine TkS 28 rfl zy ?_
 refine TkS 29 rfl zy ?_
 refine TkS 30 rfl zy ?_
 refine TkS 31 rfl zy ?_
 refine TkS 32 rfl zy ?_
 refine TkS 33 rfl zy ?_
 refine TkS 34 rfl zy ?_
 refine TkS 35 rfl zy ?_
 refine TkS 36 rfl zy ?_
 refine TkS 37 rfl zy ?_
 refine TkS 38 rfl zy ?_
 refine TkS 39 rfl zy ?_
 refine TkS 40 rfl zy ?_
 refine TkS 41 rfl zy ?_
 refine TkS 42 rfl zy ?_
 refine TkS 43 rfl zy ?_
 refine TkS 44 rfl zy ?_
 refine TkS 45 rfl zy ?_
 refine TkS 46 rfl zy ?_
 refine Wd ?_
 clear zy;go_wp2_with fail
 go_ret
 refine⟨?_,1,rfl⟩
 simp (disch:=omega) only [u64_wrap_id,u64_or8,u64_or16,u64_or24,u64_or32,u64_or40,u64_or48,u64_or56]
 rw[HV.out];rfl
theorem stI {w:World}{ops:Array Oper}{rest:List Oper}{o:Oper}{a:Act}{Q:Exit→Act→World→Prop}{x y:Operand}{g:Nat}{c0 c1 c2 c3:Value}{t:TypeId}{old:Array Value}(hB:Blk w g t old)
  (h:∀ w',Blk w' g t #[c0,c1,c2,c3]→w.grownBy w' (some g)→wpList Tryz.prog ops Q rest a w')
  (ip:o.guard=none:=by rfl) (ho:o.op=.store 78 x y:=by rfl) (hd:o.dst=none:=by rfl) (hx:a.eval x=.pointer (some ⟨g,0,none⟩):=by rfl) (hy:a.eval y=.agg #[c0,c1,c2,c3]:=by rfl) (hold:(#[c0,c1,c2,c3]:Array Value).size=old.size:=by rfl) (h1:c0.oneCell'=true:=by rfl) (h2:c1.oneCell'=true:=by rfl) (h3:c2.oneCell'=true:=by rfl) (h4:c3.oneCell'=true:=by rfl):wpList Tryz.prog ops Q (o::rest) a w :=
 zu ip _ _ _ ho hd _ _ hx hy _ _ hB zp hold (vR _ _ _ _ h1 h2 h3 h4) h
end Go.Proofs.YtjpcnhncoidliaaGreatDoor
