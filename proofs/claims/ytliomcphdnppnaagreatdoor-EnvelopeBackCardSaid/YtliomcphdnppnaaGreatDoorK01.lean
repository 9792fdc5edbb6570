/- squeezed. Heads of data items as lists of by -/
import Derived.Test.YtliomcphdnppnaaGreatDoorK00
import Derived.Lib.ValidU
import Derived.Lib.Bytealg
import Derived.Shelf.Unicode.DecodeSlow
import Derived.Laws.BytesArg
import Derived.Laws.Externs
import Derived.Laws.IdiomStrings
import Derived.Deep.DeepCutAuto
set_option linter.unusedVariables false
set_option linter.unusedSimpArgs false
set_option maxRecDepth 100000
set_option maxHeartbeats 1600000
namespace Go.Proofs.YtliomcphdnppnaaGreatDoor
open Go.RowKit
theorem ja8{P:Prop}(h:P:=by
 go_wp2_with (at_builtin;refine zH ?_)
 unfold zC
 have h0:OwnB (w.alloc (.cells #[] 5)) w.heap.size (.slice (some ⟨w.heap.size,0,none⟩) 0 0) []:=OwnB.lit w _ [] #[] 0 rfl rfl (Nat.le_refl _) (by simp)
 refine zg rfl (.tmp 5) (.tmp 6) rfl w.heap.size _ [] rfl h0 (some a) n c l rfl HN.out ?_ (by simpa using hl) (by simp) ?_
 ·exact hs.alloc _
 intro v' w' xH hg _
 have hf:Fresh w l v' w':=⟨by rw[List.nil_append]at xH;exact xH,(zo w _).grown hg (by simp) (fun k hk=>(h0.lt k hk).1)⟩
 clear xH hg h0;go_wp2
 go_ret
 exact⟨_,rfl,hf⟩):P:=h
theorem jbb{P:Prop}(h:P:=by exact⟨rfl,rfl⟩):P:=h
theorem jbu{P:Prop}(h:P:=by
 go_wp2_with fail
 refine zF rfl rfl (Blk.new _ _ _) rfl rfl zu rfl ?_
 rw[E.out.1]
 exact⟨_,rfl,Gives.plain hH (zo _ _) (by omega) E.out.2.1 E.out.2.2⟩):P:=h
theorem jbL{P:Prop}(h:P:=by rw[BitVec.ofInt_natCast,BitVec.toNat_ofNat];exact Nat.mod_eq_of_lt (by omega)):P:=h
theorem jbR{P:Prop}(h:P:=by
 refine⟨some ⟨g,0,none⟩,c,none,0,H',by simp[xp,Itm.kind,Itm.n,Itm.bytes,Itm.items],hG, ?_⟩
 rw[IsItem]
 exact⟨⟨by omega,by omega,by omega,Nat.le_refl _,by omega⟩,hi,fun h=>absurd h (by simp)⟩):P:=h
theorem jcr{P:Prop}(h:P:=by
 clear hc hn hm;go_wp2_with fail
 go_ret
 exact⟨by rw[E.out];rfl,xY⟩):P:=h
theorem jct{P:Prop}(h:P:=by
 go_wp2_with fail
 refine zF rfl rfl yQ rfl rfl zu rfl ?_
 exact⟨_,rfl,HII.out.own (zo _ _) hH yE (Nat.le_refl _) (by simp)⟩):P:=h
theorem jcu{P:Prop}(h:P:=by
 go_wp2_with fail
 refine zF rfl rfl yQ rfl rfl zu rfl ?_
 exact⟨_,rfl,HF.out.own (zo _ _) hH yE (Nat.le_refl _) (by simp)⟩):P:=h
theorem jdn{P:Prop}(h:P:=by
 cases l with
 | nil=>rfl
 | cons a l=>obtain⟨b,off,h,_⟩:=hs (by simp);cases h):P:=h
theorem jdz{P:Prop}(h:P:=by
 subst hk
 simp[yy,Itm.kind,Itm.bytes,Itm.items]at ox oy hn
 simp[ox,oy,hn]):P:=h
theorem jdA{P:Prop}(h:P:=by
 rcases List.mem_cons.1 hx with rfl | hx
 ·exact h.1
 exact h.2.get x hx):P:=h
theorem jdE{P:Prop}(h:P:=by
 cases hs:xB l with
 | true=>rfl
 | false=>exact absurd ⟨h5,hs⟩ ha):P:=h
theorem jdK{P:Prop}(h:P:=by have:=(kL h ((z8 x).2 (by omega))).2 (by omega);rw[this];simp):P:=h
theorem jdZ{P:Prop}(h:P:=by
 go_wp2
 go_ret
 exact⟨_,rfl,OwnB.nil _ _,Below.refl _ _⟩):P:=h
theorem jgG{P:Prop}(h:P:=by have hB:=(Blk.new w 26 #[.int .i64 0,.int .u64 0,.slice none 0 0,.slice none 0 0]).below hf.2;exact hB):P:=h
theorem jgJ{P:Prop}(h:P:=by have hB:=(Blk.new w 26 #[.int .i64 0,.int .u64 0,.slice none 0 0,.slice none 0 0]).below hb;exact hB):P:=h
def u8 (n:Nat):UInt8:=UInt8.ofNat n
theorem xg (n:Nat):(u8 n).toNat=n%256:=by simp[u8]
theorem wU (n:Nat):zm (u8 n)=.int .u8 ((n%256:Nat):Int):=by simp[zm,xg]
theorem My (x:Int) (n:Nat) (h:x=((n%256:Nat):Int)):Value.int .u8 x=zm (u8 n):=by rw[wU,h]
def be8 (n:Nat):Nat→List UInt8
 | 0=>[]
 | k+1=>be8 n k++[u8 (n/2 ^ (56-8*k))]
theorem vE (n k:Nat):(be8 n k).length=k:=by induction k <;> simp[be8, *]
def yv (m n:Nat):List UInt8 :=
 if n<24 then [u8 (m*32+n)]
 else if n<256 then [u8 (m*32+24),u8 n]
 else if n<65536 then [u8 (m*32+25),u8 (n/256),u8 n]
 else if n<4294967296 then [u8 (m*32+26),u8 (n/16777216),u8 (n/65536),u8 (n/256),u8 n]
 else u8 (m*32+27)::be8 n 8
theorem xF (m n:Nat):(yv m n).length=if n<24 then 1 else if n<256 then 2 else if n<65536 then 3 else if n<4294967296 then 5 else 9:=by
 unfold yv
 repeat' split
 all_goals simp[vE]
theorem tJ (m n:Nat):1≤(yv m n).length∧(yv m n).length≤9:=by
 rw[xF]
 repeat' split
 all_goals omega
theorem YV (a:Nat) (ha:a<256):(BitVec.ofInt 8 (a:Int)).toNat=a:=by
 exact jbL
theorem Sc (a b:Nat) (ha:a<256) (hb:b<256):bits .or .u8 (a:Int) (b:Int)=((a ||| b:Nat):Int):=by
 have hx:a ||| b<2 ^ 8:=Nat.or_lt_two_pow (by omega) (by omega);show IntKind.u8.wrap ((BitVec.ofInt 8 (a:Int) ||| BitVec.ofInt 8 (b:Int)).toNat:Int)=_
 rw[BitVec.toNat_or,YV a ha,YV b hb,IntKind.wrap_u8]
 omega
theorem KR (m n:Nat) (hn:n<32):m*32 ||| n=m*32+n:=by
 have h:=Nat.two_pow_add_eq_or_of_lt (i:=5) (b:=n) (by omega) m;rw[show 2 ^ 5*m=m*32 by omega]at h
 exact h.symm
theorem jh (m n:Nat) (hm:m<8) (hn:n<32):bits .or .u8 ((m:Int)*32) (n:Int)=((m*32+n:Nat):Int):=by
 have h:=Sc (m*32) n (by omega) (by omega);rw[KR m n hn]at h
 simpa using h
def isNaN (n:Nat):Bool:=n/2 ^ 52%2048==2047&&n%2 ^ 52 != 0
def yW (n eb mb:Nat):Option Nat :=
 let sign:=n/2 ^ 63*2 ^ (eb+mb)
 let e:=n/2 ^ 52%2048
 let m:=n%2 ^ 52
 let top:=2 ^ eb-1
 let bias:=2 ^ (eb-1)-1
 if e=2047 then(if m=0 then some (sign+top*2 ^ mb) else none)
 else if e=0 then(if m=0 then some sign else none)
 else if 1023+top≤e+bias then none
 else if 1023<e+bias then(if m%2 ^ (52-mb)=0 then some (sign+(e+bias-1023)*2 ^ mb+m/2 ^ (52-mb)) else none)
 else
  let shift:=53-mb+(1023-e-bias)
  if 52<shift then none else if(m+2 ^ 52)%2 ^ shift=0 then some (sign+(m+2 ^ 52)/2 ^ shift) else none
def yx (n:Nat):List UInt8 :=
 if isNaN n then [u8 249,u8 126,u8 0] else
 match yW n 5 10 with
 | some v=>[u8 249,u8 (v/256),u8 v]
 | none=>match yW n 8 23 with
  | some v=>[u8 250,u8 (v/16777216),u8 (v/65536),u8 (v/256),u8 v]
  | none=>u8 251::be8 n 8
theorem pA (n:Nat):(yx n).length=3∨(yx n).length=5∨(yx n).length=9:=by
 unfold yx
 repeat' split
 all_goals simp[vE]
def yA (x:Itm):Nat :=
 if x.kind=2∨x.kind=3 then x.bytes.length else if x.kind=4 then x.items.length else if x.kind=5 then x.items.length/2 else x.n
mutual
def zZ:Itm→List UInt8
 | .mk k n bs l =>
 if k=8 then yx n
 else if k=7∧24≤n then [u8 248,u8 n]
 else yv k.toNat (yA (.mk k n bs l))++bs++zP l
def zP:List Itm→List UInt8
 | []=>[]
 | x::l=>zZ x++zP l
end
theorem sY (l m:List Itm):zP (l++m)=zP l++zP m:=by
 induction l with
 | nil=>rw[List.nil_append,zP,List.nil_append]
 | cons x l ih=>rw[List.cons_append,zP,zP,ih,List.append_assoc]
theorem tr (l:List Itm) (k:Nat) (h:k<l.length):zP (l.take (k+1))=zP (l.take k)++zZ l[k]:=by
 rw[List.take_succ_eq_append_getElem h,sY,zP,zP,List.append_nil]
theorem yP (x:Itm):zZ x=if x.kind=8 then yx x.n else if x.kind=7∧24≤x.n then [u8 248,u8 x.n] else yv x.kind.toNat (yA x)++x.bytes++zP x.items:=by
 cases x
 rw[zZ];rfl
theorem nR (l:List Itm) (k:Nat):(zP (l.take k)).length≤(zP l).length:=by
 have h:=sY (l.take k) (l.drop k);rw[List.take_append_drop]at h;rw[h]
 simp
mutual
def Kinds:Itm→Prop
 | .mk k _ _ l=>(0≤k∧k≤8)∧KindsL l
def KindsL:List Itm→Prop
 | []=>True
 | x::l=>Kinds x∧KindsL l
end
theorem Kinds.kind {x:Itm}(h:Kinds x):0≤x.kind∧x.kind≤8:=by cases x;rw[Kinds]at h;exact h.1
theorem Kinds.items {x:Itm}(h:Kinds x):KindsL x.items:=by cases x;rw[Kinds]at h;exact h.2
theorem KindsL.get:∀ {l:List Itm},KindsL l→∀ (k:Nat) (hk:k<l.length),Kinds l[k]
 | [],_,k,hk=>by simp at hk
 | x::l,h,0,_=>by rw[KindsL]at h;exact h.1
 | x::l,h,k+1,hk=>by rw[KindsL]at h;exact h.2.get k (by simpa using hk)
mutual
def cnt:Itm→Nat
 | .mk _ _ _ l=>yf l+1
def yf:List Itm→Nat
 | []=>0
 | x::l=>cnt x+yf l
end
theorem Y6:∀ (l:List Itm) (k:Nat) (hk:k<l.length),cnt l[k]≤yf l
 | [],k,hk=>by simp at hk
 | x::l,0,_=>by rw[yf];simp
 | x::l,k+1,hk=>by
  have:=Y6 l k (by simpa using hk);rw[yf]
  simp only[List.getElem_cons_succ]
  omega
theorem us (x:Itm) (k:Nat) (hk:k<x.items.length):cnt x.items[k]<cnt x:=by
 cases x with
 | mk a b c l =>
 have:=Y6 l k hk;rw[cnt]
 simp only[Itm.items]
 omega
def yg:Nat:=9221120237041090560
def yZ (x:Itm):Bool:=x.kind==0||x.kind==1||x.kind==2||x.kind==3||x.kind==7||x.kind==8
def yy (x:Itm):Bool :=
 if x.kind=0∨x.kind=1 then x.bytes.isEmpty&&x.items.isEmpty
 else if x.kind=2 then x.n==0&&x.items.isEmpty
 else if x.kind=3 then x.n==0&&x.items.isEmpty&&Lib.validD x.bytes
 else if x.kind=7 then x.bytes.isEmpty&&x.items.isEmpty&&(decide (x.n<24)||decide (32≤x.n)&&decide (x.n<256))
 else if x.kind=8 then x.bytes.isEmpty&&x.items.isEmpty&&(!isNaN x.n||x.n==yg)
 else false
def yp (x:Itm):Nat :=
 if x.kind=8 then(yx x.n).length else if x.kind=7 then(if 24≤x.n then 2 else 1) else(yv x.kind.toNat (yA x)).length+x.bytes.length
def xB:List Itm→Bool
 | a::b::c::l=>decide (Lib.compareBytes (zZ a) (zZ c)<0)&&xB (c::l)
 | _=>true
theorem i6 (l:List Itm) (j:Nat) (h2:2≤j) (h:j<l.length) :
  xB (l.drop (j-2))=(decide (Lib.compareBytes (zZ (l[j-2]'(by omega))) (zZ l[j])<0)&&xB (l.drop j)):=by
 have e1:l.drop (j-2)=l[j-2]'(by omega)::l.drop (j-1):=by
  rw[List.drop_eq_getElem_cons (by omega)];rw[show j-2+1=j-1 by omega]
 have e2:l.drop (j-1)=l[j-1]'(by omega)::l.drop j:=by
  rw[List.drop_eq_getElem_cons (by omega)];rw[show j-1+1=j by omega]
 have e3:l.drop j=l[j]::l.drop (j+1):=List.drop_eq_getElem_cons h;rw[e1,e2,e3,xB]
theorem Y0 (l:List Itm) (j:Nat) (h2:2≤j) (h:l.length≤j):xB (l.drop (j-2))=true:=by
 have hl:(l.drop (j-2)).length≤2:=by rw[List.length_drop];omega
 match l.drop (j-2),hl with
 | [],_=>rfl
 | [_],_=>rfl
 | [_,_],_=>rfl
 | _::_::_::_,h=>simp at h
def vq (x:Itm) (lv:Nat):Bool :=
 decide (4≤x.kind∧x.kind≤6∧lv<8∧x.bytes.length=0∧(x.kind=6→x.items.length=1)∧(x.kind≠6→x.n=0)∧(x.kind=5→x.items.length%2=0))
mutual
def chk:Itm→Nat→Nat→Nat→Option (Nat×Nat)
 | .mk k n bs l,lv,i,s =>
 if 256<i+1∨4096<bs.length∨256<l.length then none
 else if yZ (.mk k n bs l)=true then(if yy (.mk k n bs l)=true∧s+yp (.mk k n bs l)≤4096 then some (i+1,s+yp (.mk k n bs l)) else none)
 else if vq (.mk k n bs l) lv=false then none
 else if 4096<s+yp (.mk k n bs l) then none
 else match qE l (lv+1) (i+1) (s+yp (.mk k n bs l)) with
  | none=>none
  | some p=>if k=5∧xB l=false then none else some p
def qE:List Itm→Nat→Nat→Nat→Option (Nat×Nat)
 | [],_,i,s=>some (i,s)
 | x::l,lv,i,s=>match chk x lv i s with
  | none=>none
  | some p=>qE l lv p.1 p.2
end
theorem iQ (x:Itm) (lv i s:Nat):chk x lv i s =
  if 256<i+1∨4096<x.bytes.length∨256<x.items.length then none
  else if yZ x=true then(if yy x=true∧s+yp x≤4096 then some (i+1,s+yp x) else none)
  else if vq x lv=false then none
  else if 4096<s+yp x then none
  else match qE x.items (lv+1) (i+1) (s+yp x) with
   | none=>none
   | some p=>if x.kind=5∧xB x.items=false then none else some p:=by
 cases x
 rw[chk];rfl
theorem z8 (x:Itm):yZ x=true↔x.kind=0∨x.kind=1∨x.kind=2∨x.kind=3∨x.kind=7∨x.kind=8:=by
 simp[yZ]
 omega
theorem bX (x:Itm) (h:x.items=[]) (h8:x.kind=8∨x.kind=7→x.bytes=[]):yp x=(zZ x).length:=by
 rw[yP,yp]
 by_cases h1:x.kind=8
 ·rw[if_pos h1,if_pos h1]
 rw[if_neg h1,if_neg h1]
 by_cases h2:x.kind=7
 ·rw[if_pos h2]
  by_cases h3:24≤x.n
  ·rw[if_pos h3,if_pos ⟨h2,h3⟩];rfl
  have hn:yA x=x.n:=by simp[yA,h2]
  rw[if_neg h3,if_neg (by omega),h8 (.inr h2),h,zP,hn,yv,if_pos (by omega)];rfl
 rw[if_neg h2,if_neg (by omega),h,zP]
 simp
theorem iP (x:Itm) (h8:x.kind≠8) (h7:x.kind≠7):yp x=(yv x.kind.toNat (yA x)).length+x.bytes.length:=by
 rw[yp,if_neg h8,if_neg h7]
theorem yI {x:Itm}{lv:Nat}(h:vq x lv=true):4≤x.kind∧x.kind≤6∧lv<8∧x.bytes.length=0∧(x.kind=6→x.items.length=1)∧(x.kind≠6→x.n=0)∧(x.kind=5→x.items.length%2=0) :=
 of_decide_eq_true h
theorem wm {x:Itm}(hp:yZ x=true) (ho:yy x=true):x.items=[]∧(x.kind=8∨x.kind=7→x.bytes=[]):=by
 rw[z8]at hp
 unfold yy at ho
 rcases hp with h | h | h | h | h | h <;> simp[h]at ho⊢ <;> simp[ho]
mutual
theorem eS:∀ (x:Itm) (lv i s:Nat) (p:Nat×Nat),chk x lv i s=some p→Kinds x∧p=(i+cnt x,s+(zZ x).length)∧p.1≤256∧p.2≤4096
 | .mk k n bs l,lv,i,s,p,h=>by
  rw[chk]at h
  split at h
  ·cases h
  rename_i h0
  split at h
  ·rename_i hp
   split at h
   ·rename_i ho
    obtain⟨hi,hb⟩:=wm hp ho.1;have hk:=(z8 _).1 hp;have hs:=bX (.mk k n bs l) hi hb
    simp only[Itm.items,Itm.kind]at hi hk
    subst hi;injection h with h
    subst h;rw[← hs]
    refine⟨?_, ?_, ?_, ?_⟩
    ·rw[Kinds,KindsL];exact⟨by omega,trivial⟩
    ·rw[cnt,yf]
    ·simp only;omega
    exact ho.2
   cases h
  rename_i hp
  split at h
  ·cases h
  rename_i hf
  split at h
  ·cases h
  rename_i h4
  have Ib:=yI (by simpa using hf)
  simp only[Itm.kind,Itm.bytes,Itm.items,List.length_eq_zero_iff]at Ib
  split at h
  ·cases h
  rename_i q hq
  split at h
  ·cases h
  injection h with h
  subst h;obtain⟨hk,ag,h1,h2⟩:=iC l _ _ _ _ hq (by omega) (by omega);have dS:=iP (.mk k n bs l) (by simp only[Itm.kind];omega) (by simp only[Itm.kind];omega)
  simp only[Itm.kind,Itm.bytes]at dS
  rw[Ib.2.2.2.1]at dS
  refine⟨by rw[Kinds];exact⟨by omega,hk⟩, ?_,h1,h2⟩
  rw[ag,cnt,zZ,if_neg (by omega),if_neg (by omega),Ib.2.2.2.1,dS]
  simp only[List.length_append,List.length_nil,Prod.mk.injEq]
  omega
theorem iC:∀ (l:List Itm) (lv i s:Nat) (p:Nat×Nat),qE l lv i s=some p→i≤256→s≤4096→KindsL l∧p=(i+yf l,s+(zP l).length)∧p.1≤256∧p.2≤4096
 | [],lv,i,s,p,h,hi,hs=>by
  rw[qE]at h;injection h with h
  subst h;rw[KindsL,yf,zP]
  exact⟨trivial,rfl,hi,hs⟩
 | x::l,lv,i,s,p,h,hi,hs=>by
  rw[qE]at h
  split at h
  ·cases h
  rename_i q hq
  obtain⟨hk,ag,h1,h2⟩:=eS x _ _ _ _ hq;obtain⟨qJ,hp,h3,h4⟩:=iC l _ _ _ _ h h1 h2
  refine⟨by rw[KindsL];exact⟨hk,qJ⟩, ?_,h3,h4⟩
  rw[hp,ag,yf,zP]
  simp
  omega
end
def zJ (x:Itm):Bool:=(chk x 0 0 0).isSome
theorem vL {x:Itm}(h:zJ x=true):Kinds x∧cnt x≤256∧(zZ x).length≤4096:=by
 obtain⟨p,hp⟩:=Option.isSome_iff_exists.1 h;obtain⟨hk,he,h1,h2⟩:=eS _ _ _ _ _ hp;subst he
 simp only at h1 h2
 exact⟨hk,by omega,by omega⟩
mutual
def Modest:Itm→Prop
 | .mk _ _ bs l=>bs.length≤1099511627776∧l.length≤1099511627776∧ModestL l
def ModestL:List Itm→Prop
 | []=>True
 | x::l=>Modest x∧ModestL l
end
theorem Modest.parts {x:Itm}(h:Modest x):x.bytes.length≤1099511627776∧x.items.length≤1099511627776∧ModestL x.items:=by cases x;rw[Modest]at h;exact h
theorem ModestL.get:∀ {l:List Itm},ModestL l→∀ (k:Nat) (hk:k<l.length),Modest l[k]
 | [],_,k,hk=>by simp at hk
 | x::l,h,0,hk=>by rw[ModestL]at h;exact h.1
 | x::l,h,k+1,hk=>by rw[ModestL]at h;exact h.2.get k (by simpa using hk)
theorem ModestL.of:∀ {l:List Itm},(∀ x∈l,Modest x)→ModestL l
 | [],_=>by rw[ModestL];trivial
 | x::l,h=>by rw[ModestL];exact⟨h x (by simp),ModestL.of fun y hy=>h y (by simp[hy])⟩
def kv (key:List UInt8):List Itm→Option Itm
 | a::b::r=>if zZ a=key then some b else kv key r
 | _=>none
def yK (m key:Itm):Option Itm:=if m.kind=5∧zJ m=true∧zJ key=true then kv (zZ key) m.items else none
abbrev ze:Itm:=.mk 0 0 [] []
theorem rL {x:Itm}(h:zJ x=true) (h5:x.kind=5):x.items.length%2=0:=by
 obtain⟨p,hp⟩:=Option.isSome_iff_exists.1 h;rw[iQ]at hp
 split at hp
 ·cases hp
 split at hp
 ·rename_i h1
  rw[z8]at h1
  omega
 split at hp
 ·cases hp
 rename_i h1
 exact(yI (by simpa using h1)).2.2.2.2.2.2 h5
theorem uV {x:Itm}(h:zJ x=true):x.bytes.length≤4096∧x.items.length≤256∧KindsL x.items∧(zP x.items).length≤4096:=by
 obtain⟨hk,hc,he⟩:=vL h;obtain⟨p,hp⟩:=Option.isSome_iff_exists.1 h;rw[iQ]at hp
 split at hp
 ·cases hp
 rename_i h0
 refine⟨by omega,by omega,hk.items, ?_⟩
 split at hp
 ·rename_i h1
  split at hp
  ·rename_i h2
   rw[(wm h1 h2.1).1]
   simp[zP]
  cases hp
 split at hp
 ·cases hp
 rename_i h1
 have:=yI (by simpa using h1);rw[yP,if_neg (by omega),if_neg (by omega)]at he
 simp only[List.length_append]at he
 omega
theorem NF (l:List Itm) (k:Nat) (hk:k<l.length):(zZ l[k]).length≤(zP l).length:=by
 have a1:=tr l k hk;have a2:=nR l (k+1);rw[a1]at a2
 simp only[List.length_append]at a2
 omega
mutual
theorem de:∀ (x:Itm) (lv i s:Nat) (p:Nat×Nat),chk x lv i s=some p→Modest x
 | .mk k n bs l,lv,i,s,p,h=>by
  rw[chk]at h
  split at h
  ·cases h
  rename_i h0
  rw[Modest]
  refine⟨by omega,by omega, ?_⟩
  split at h
  ·rename_i h1
   split at h
   ·rename_i h2
    rw[show l=[] from(wm h1 h2.1).1,ModestL];trivial
   cases h
  split at h
  ·cases h
  split at h
  ·cases h
  split at h
  ·cases h
  rename_i q hq
  exact gP l _ _ _ _ hq
theorem gP:∀ (l:List Itm) (lv i s:Nat) (p:Nat×Nat),qE l lv i s=some p→ModestL l
 | [],_,_,_,_,_=>by rw[ModestL];trivial
 | x::l,lv,i,s,p,h=>by
  rw[qE]at h
  split at h
  ·cases h
  rename_i q hq
  rw[ModestL]
  exact⟨de x _ _ _ _ hq,gP l _ _ _ _ h⟩
end
theorem yU {x:Itm}(h:zJ x=true):Modest x:=by
 obtain⟨p,hp⟩:=Option.isSome_iff_exists.1 h
 exact de _ _ _ _ _ hp
theorem Ul (key:List UInt8) (l:List Itm) (k:Nat) (hk:k+1<l.length):kv key (l.drop k)=if zZ l[k]=key then some l[k+1] else kv key (l.drop (k+2)):=by
 rw[List.drop_eq_getElem_cons (show k<l.length by omega),List.drop_eq_getElem_cons hk,kv]
def zS (n:Int):Itm:=if n<0 then .mk 1 (-1-n).toNat [] [] else .mk 0 n.toNat [] []
def vW (x:Itm):Bool:=(x.kind==0||x.kind==1)&&decide (x.n≤65535)
def uh (a b:Itm):Bool :=
 if a.kind=3 then true else if vW a=false then false else if a.kind=1 then true
 else if a.n=1 then vW b&&(b.kind==1||b.n != 0) else if a.n=4∨a.n=5∨a.n=6∨a.n=12 then b.kind==2 else true
structure Ad where
 ba:Option Addr
 bc:Nat
 ia:Option Addr
 ic:Nat
abbrev zA (p:Itm) (a:Ad) (u:Itm) (b:Ad):Array Value :=
 #[.int .i64 p.kind,.int .u64 p.n,.slice a.ba p.bytes.length a.bc,.slice a.ia p.items.length a.ic,.int .i64 u.kind,.int .u64 u.n,.slice b.ba u.bytes.length b.bc,.slice b.ia u.items.length b.ic]
def uC (p u:Itm) (n:Int):Option Itm:=match yK p (zS n) with
 | some x=>some x
 | none=>yK u (zS n)
def qD:List Itm→Bool
 | a::b::r=>uh a b&&qD r
 | _=>true
def rp (m:Itm):Bool:=m.kind==5&&zJ m&&qD m.items
def wM (u:Itm):List Itm→Bool
 | a::_::r=>(yK u a).isNone&&wM u r
 | _=>true
def jk (p:Itm):Bool:=match yK p (zS 2) with
 | none=>true
 | some c=>(c.items.all fun x=>(yK p x).isSome)&&c.kind==4&&decide (0<c.items.length)
def zL (p u:Itm):Bool:=rp p&&rp u&&wM u p.items && !((yK u (zS 2)).isSome||((uC p u 5).isSome&&(uC p u 6).isSome))&&jk p
theorem VN (l:List Itm) (k:Nat) (hk:k+1<l.length):qD (l.drop k)=(uh l[k] l[k+1]&&qD (l.drop (k+2))):=by
 rw[List.drop_eq_getElem_cons (show k<l.length by omega),List.drop_eq_getElem_cons hk,qD]
theorem cJ (u:Itm) (l:List Itm) (k:Nat) (hk:k+1<l.length):wM u (l.drop k)=((yK u l[k]).isNone&&wM u (l.drop (k+2))):=by
 rw[List.drop_eq_getElem_cons (show k<l.length by omega),List.drop_eq_getElem_cons hk,wM]
def yH (p:Itm):List UInt8:=if p.items.length=0 then [] else zZ p
theorem yY {p u:Itm}(h:zL p u=true):zJ p=true∧zJ u=true∧p.kind=5∧u.kind=5:=by
 simp[zL,rp]at h
 exact⟨h.1.1.1.1.1.2,h.1.1.1.2.1.2,h.1.1.1.1.1.1,h.1.1.1.2.1.1⟩
def Tabs (H:Snap):Prop:=∀ w,Holds w H→Lib.Utf8Tabs 0 1 w
theorem Tabs.mono {H K:Snap}(h:Tabs H) (hl:H.le K):Tabs K:=fun w hw=>h w (hw.mono hl)
theorem UX (l:List UInt8) (i:Nat):(l.map fun u=>(u.toNat:Int)).getD i 0=((l.getD i 0).toNat:Int):=by
 simp[List.getD]
 cases h:l[i]? <;> simp
theorem fw (l:List UInt8):strOfNums (l.map fun u=>(u.toNat:Int))=⟨l.toArray⟩:=by
 have h:(fun n:Int=>UInt8.ofNat n.toNat) ∘ (fun u:UInt8=>(u.toNat:Int))=id:=by funext u;simp
 unfold strOfNums
 simp[h]
theorem vX {w:World}{A:Option Addr}{l:List UInt8}(h:Src w A (l.map zm)) (n c:Nat) (hn:n=l.length) :
  (convert 23 9 (.slice A n c)).run Tryz.prog w=.ok (.string ⟨l.toArray⟩) w:=by
 subst hn
 by_cases hl:l=[]
 ·subst hl
  cases A with
  | none=>exact run_convert_bytes_nil w _ 5 Tryz.underlying23 Tryz.underlying5 _ _ _ Tryz.underlying9
  | some a =>
  obtain⟨b,off,spot⟩:=a;rw[run_convert_bytes_string w _ _ 5 _ _ c Tryz.underlying23 Tryz.underlying5 Tryz.underlying9];rfl
 obtain⟨b,off,rfl,hc⟩:=h (by simpa using hl)
 have:=run_convert_bytes_arg (P:=Tryz.prog) w 23 5 Tryz.underlying23 Tryz.underlying5 b off l.length c (l.map fun u=>(u.toNat:Int)) (by simp)
  (fun i hi=>by rw[UX,hc i (zm l[i]) (by simp[hi])];simp[List.getD,hi]) _ Tryz.underlying9
 rw[this,fw]
theorem pK (w:World) (A B:Option Addr) (a b:List UInt8) (n m c d:Nat) (hn:n=a.length) (hm:m=b.length) (ha:Src w A (a.map zm)) (hb:Src w B (b.map zm)) :
  Calls Tryz.prog 61 #[.slice A n c,.slice B m d] w fun e w'=>e=.returned (.bool (a==b))∧w=w':=by
 have h1:=vX ha n c hn;have h2:=vX hb m d hm;clear hn hm ha hb;go_enter Tryz.func61,Tryz.ntmps61
 go_wp2
 go_ret
 exact jbb
theorem kq {P:Program}{w:World}(b:Nat):∀ (l:List UInt8) (off:Nat) (acc:ByteArray),(∀ j v,(l.map zm)[j]? = some v→w.cell? ⟨b,off+j,none⟩=some v)→
  (Extern.Bytes.loadBytes ⟨b,off,none⟩ l.length acc).run P w=.ok ⟨acc.data++l.toArray⟩ w
 | [],off,acc,_=>by simp[Extern.Bytes.loadBytes]
 | u::l,off,acc,h=>by
  have h0:=h 0 (zm u) rfl;have ih:=kq (P:=P) b l (off+1) (acc.push u) (fun j v hj=>by rw[show off+1+j=off+(j+1) by omega];exact h (j+1) v (by simpa using hj))
  simp only[List.length_cons,Extern.Bytes.loadBytes]
  simp[load,Sem.run,Result.andThen,zm]at h0⊢
  simp[h0,oN,ByteArray.push]
  rw[show(⟨acc.data.push u⟩:ByteArray)=acc.push u from rfl,ih];congr 2
  simp[ByteArray.push]
theorem gY {P:Program}{w:World}{A:Option Addr}{l:List UInt8}(h:Src w A (l.map zm)) (n c:Nat) (hn:n=l.length) :
  (Extern.Bytes.bytesOf (.slice A n c)).run P w=.ok ⟨l.toArray⟩ w:=by
 subst hn
 by_cases hl:l=[]
 ·subst hl
  cases A with
  | none=>rfl
  | some a=>rfl
 obtain⟨b,off,rfl,hc⟩:=h (by simpa using hl);have:=kq (P:=P) b l off .empty hc
 simp only[Extern.Bytes.bytesOf]
 rw[this]
 simp[ByteArray.empty,ByteArray.emptyWithCapacity]
 rfl
theorem Xf {P:Program}{w:World}{A B:Option Addr}{a b:List UInt8}(ha:Src w A (a.map zm)) (hb:Src w B (b.map zm)) (n m c d:Nat) (hn:n=a.length) (hm:m=b.length) :
  (Extern.BytealgCompare.compare #[.slice A n c,.slice B m d]).run P w=.ok (.int .i64 (Lib.compareBytes a b)) w:=by
 change Sem.run P (do pure (goInt (Extern.BytealgCompare.cmp (← Extern.Bytes.bytesOf (.slice A n c)) (← Extern.Bytes.bytesOf (.slice B m d))))) w=_
 simp only[Sem.run_bind,Sem.run_pure,Result.andThen,gY ha n c hn,gY hb m d hm]
 rw[Lib.cmp_eq];rfl
theorem p8 (w:World) (A B:Option Addr) (a b:List UInt8) (n m c d:Nat) (hn:n=a.length) (hm:m=b.length) (ha:Src w A (a.map zm)) (hb:Src w B (b.map zm)) :
  Calls Tryz.prog 110 #[.slice A n c,.slice B m d] w fun e w'=>e=.returned (.int .i64 (Lib.compareBytes a b))∧w=w':=by
 have h1:=Hh (Xf (P:=Tryz.prog) ha hb n m c d hn hm);clear hn hm ha hb;go_enter Tryz.func110,Tryz.ntmps110
 go_wp2
 rw[run_callFunc_extern Tryz.func139 (by kernel_rfl) (by kernel_rfl) (by kernel_rfl) (e:=Extern.BytealgCompare.compare) (by kernel_rfl),h1.out]
 simp only[Result.andThen]
 rw[Oper.upon_value];go_wp2
 go_ret
 exact jbb
theorem tt (w:World) (A:Option Addr) (l:List UInt8) (n c:Nat) (hn:n=l.length) (hl:l.length≤1099511627776) (hs:Src w A (l.map zm)) :
  Calls Tryz.prog 47 #[.slice A n c] w fun e w'=>∃ r,e=.returned r∧Fresh w l r w':=by
 cases A with
 | none =>
  have h0:l=[]:=by
   exact jdn
  subst h0;have he:=fun w:World=>Lib.run_eql_slice_nil (P:=Tryz.prog) w _ _ none n c 0 0 Tryz.underlying23
  clear hn hl;go_enter Tryz.func47,Tryz.ntmps47
  exact jdZ
 | some a =>
 have he:=fun w:World=>Lib.run_eql_slice_nil (P:=Tryz.prog) w _ _ (some a) n c 0 0 Tryz.underlying23
 simp only[Option.isNone]at he
 have HN:=Hh hn;clear hn;go_enter Tryz.func47,Tryz.ntmps47
 exact ja8
theorem Zj (w:World) (A:Option Addr) (l:List UInt8) (n c:Nat) (hn:n=l.length) (hl:l.length≤1099511627776) (hs:Src w A (l.map zm)) :
  Calls Tryz.prog 93 #[.slice A n c] w fun e w'=>∃ r,e=.returned r∧Fresh w l r w':=by
 cases A with
 | none =>
  have h0:l=[]:=by
   exact jdn
  subst h0;have he:=fun w:World=>Lib.run_eql_slice_nil (P:=Tryz.prog) w _ _ none n c 0 0 Tryz.underlying23
  clear hn hl;go_enter Tryz.func93,Tryz.ntmps93
  exact jdZ
 | some a =>
 have he:=fun w:World=>Lib.run_eql_slice_nil (P:=Tryz.prog) w _ _ (some a) n c 0 0 Tryz.underlying23
 simp only[Option.isNone]at he
 have HN:=Hh hn;clear hn;go_enter Tryz.func93,Tryz.ntmps93
 exact ja8
theorem IsItem.plain (H:Snap) (k:Int) (n:Nat) (hk : -9223372036854775808≤k∧k≤9223372036854775807) (hn:n<18446744073709551616):IsItem H none 0 none 0 (.mk k n [] []):=by
 rw[IsItem]
 exact⟨⟨hk.1,hk.2,hn,Nat.le_refl _,by omega⟩,IsBytes.nil H,fun h=>absurd h (by simp)⟩
theorem Gives.plain {w w':World}{H:Snap}{k n:Int}{m:Nat}(hH:Holds w H) (hb:Below w.heap.size w w') (hk : -9223372036854775808≤k∧k≤9223372036854775807) (hm:m<18446744073709551616) (hn:n=(m:Int)) :
  Gives w H (.mk k m [] []) (.agg #[.int .i64 k,.int .u64 n,.slice none 0 0,.slice none 0 0]) w':=by
 subst hn
 exact⟨none,0,none,0,H,rfl,Grows.of_below hH hb,IsItem.plain H k m hk hm⟩
theorem Fresh.gives {w w1:World}{H:Snap}{l:List UInt8}{r:Value}{k:Int}(hH:Holds w H) (h:Fresh w l r w1) (hk : -9223372036854775808≤k∧k≤9223372036854775807) :
  Gives w H (.mk k 0 l []) (.agg #[.int .i64 k,.int .u64 0,r,.slice none 0 0]) w1:=by
 obtain⟨A,c,rfl,_⟩:=h.own.form;obtain⟨H',hl,hh,hf,_,hi⟩:=h.own.snap (hH.below h.2 (Nat.le_refl _)) (fun g hg=>hH.none_of_ge (h.own.lt g (by cases A <;> simp_all [Value.ownBlock])).1)
 refine⟨A,c,none,0,H',rfl,⟨h.2,hl,hh,fun b o hb=>?_⟩, ?_⟩
 ·exact jcG
 rw[IsItem]
 exact⟨⟨hk.1,hk.2,by omega,Nat.le_refl _,by omega⟩,hi,fun h=>absurd h (by simp)⟩
theorem Grows.own {w wA w1 w':World}{H H':Snap}{g:Nat}(hA:Below w.heap.size w wA) (hH:Holds w H) (h:Grows wA H w1 H') (hg:w1.grownBy w' (some g)) (h1:w.heap.size≤g) (h2:g<wA.heap.size):Grows w H w' H' :=
 ⟨(hA.trans (h.below.mono hA.size)).grown hg (Nat.le_trans hA.size h.below.size) (by rintro k ⟨⟩;exact h1),h.le,h.holds.grown hg (by rintro k ⟨⟩;exact h.none (hH.none_of_ge h1) h2),fun b o hb=>by
  rcases h.fresh b o hb with h | h
  ·exact .inl h
  exact .inr (Nat.le_trans hA.size h)⟩
theorem Gives.own {w wA w1 w':World}{H:Snap}{x:Itm}{v:Value}{g:Nat}(hA:Below w.heap.size w wA) (hH:Holds w H) (h:Gives wA H x v w1) (hg:w1.grownBy w' (some g)) (h1:w.heap.size≤g) (h2:g<wA.heap.size):Gives w H x v w':=by
 obtain⟨ba,bc,ia,ic,H',e,hG,hi⟩:=h
 exact⟨ba,bc,ia,ic,H',e,hG.own hA hH hg h1 h2,hi⟩
theorem tR (a b c d:Value) (ha:a.oneCell'=true) (hb:b.oneCell'=true) (hc:c.oneCell'=true) (hd:d.oneCell'=true):(#[a,b,c,d]:Array Value).all (·.oneCell')=true:=by simp[ha,hb,hc,hd]
theorem Qo (n:Nat) (hn:n<18446744073709551616) {H:Snap}(w:World) (hH:Holds w H) :
  Calls Tryz.prog 107 #[.int .u64 n] w fun e w'=>∃ v,e=.returned v∧Gives w H (.mk 0 n [] []) v w':=by
 have HN:=Hh hn;clear hn;go_enter Tryz.func107,Tryz.ntmps107
 go_wp2_with fail
 refine zF rfl rfl (Blk.new _ _ _) rfl rfl zu rfl ?_
 exact⟨_,rfl,Gives.plain hH (zo _ _) (by omega) HN.out rfl⟩
theorem px (n:Int) (h1 : -9223372036854775808≤n) (h2:n≤9223372036854775807) {H:Snap}(w:World) (hH:Holds w H) :
  Calls Tryz.prog 70 #[.int .i64 n] w fun e w'=>∃ v,e=.returned v∧Gives w H (zS n) v w':=by
 by_cases h0:n<0
 ·have E:Hid (zS n=.mk 1 (-1-n).toNat [] []∧(-1-n).toNat<18446744073709551616∧-1-n=((-1-n).toNat:Int)):=⟨by rw[zS,if_pos h0],by omega,by omega⟩
  have K1:IntKind.u64.wrap (-1-n) = -1-n:=by rw[IntKind.wrap_u64];omega
  have K0:IntKind.i64.wrap (-1-n) = -1-n:=IntWalk.i64_in _ (by omega);clear h1 h2;go_enter Tryz.func70,Tryz.ntmps70
  exact jbu
 have E:Hid (zS n=.mk 0 n.toNat [] []∧n.toNat<18446744073709551616∧n=(n.toNat:Int)):=⟨by rw[zS,if_neg h0],by omega,by omega⟩
 have K1:IntKind.u64.wrap n=n:=by rw[IntKind.wrap_u64];omega
 have U:=Hh (Qo n.toNat E.out.2.1 (w.alloc (.cells #[.int .i64 0,.int .u64 0,.slice none 0 0,.slice none 0 0] 26)) (hH.alloc _));rw[← E.out.2.2]at U;have hn:=Int.not_lt.1 h0;clear h1 h2 h0;go_enter Tryz.func70,Tryz.ntmps70
 go_wp2_with fail
 refine U.out.mono ?_
 rintro e w1 ⟨v,rfl,hg⟩
 have HG:=Hh hg;obtain⟨ba,bc,ia,ic,H',rfl,hg,hi⟩:=hg;have hB:=(Blk.new w 26 #[.int .i64 0,.int .u64 0,.slice none 0 0,.slice none 0 0]).below hg.below;go_wp2_with (with_reducible refine zx ?_)
 refine zv rfl _ _ _ rfl rfl _ _ rfl rfl _ _ hB zu rfl (tR _ _ _ _ rfl rfl rfl rfl) fun w2 yQ yE=>?_
 go_wp2_with fail
 refine zF rfl rfl yQ rfl rfl zu rfl ?_
 rw[E.out.1]
 exact⟨_,rfl,HG.out.own (zo _ _) hH yE (Nat.le_refl _) (by simp)⟩
theorem vF {A:Option Addr}{n c:Nat}{l:List UInt8}(hn:n=l.length) (hl:l.length≤1099511627776) {H:Snap}(w:World) (hs:Src w A (l.map zm)) (hH:Holds w H) :
  Calls Tryz.prog 51 #[.slice A n c] w fun e w'=>∃ v,e=.returned v∧Gives w H (.mk 2 0 l []) v w':=by
 have C:=Hh (Zj (w.alloc (.cells #[.int .i64 0,.int .u64 0,.slice none 0 0,.slice none 0 0] 26)) A l n c hn hl (hs.alloc _));clear hn;go_enter Tryz.func51,Tryz.ntmps51
 go_wp2_with fail
 refine C.out.mono ?_
 rintro e w1 ⟨r,rfl,hf⟩
 have hB:=jgG;have HF:=Hh (hf.gives (k:=2) (hH.alloc (.cells #[.int .i64 0,.int .u64 0,.slice none 0 0,.slice none 0 0] 26)) (by omega));obtain⟨A',c',rfl,_⟩:=hf.own.form;go_wp2_with (with_reducible refine zx ?_)
 refine zv rfl _ _ _ rfl rfl _ _ rfl rfl _ _ hB zu rfl (tR _ _ _ _ rfl rfl rfl rfl) fun w2 yQ yE=>?_
 exact jcu
theorem gQ {w:World}{H:Snap}(hH:Holds w H) (s:ByteArray) (hl:s.size≤1099511627776) :
  ∃ g c w',(convert 9 23 (.string s)).run Tryz.prog w=.ok (.slice (some ⟨g,0,none⟩) s.size c) w'∧Below w.heap.size w w'∧∃ H',Grows w H w' H'∧IsBytes H' (some ⟨g,0,none⟩) c s.data.toList:=by
 refine⟨_,_,_,run_bytes_of_string (P:=Tryz.prog) w 9 23 5 s Tryz.underlying9 Tryz.underlying23 Tryz.underlying5, ?_, ?_⟩
 ·exact(Below.refl _ _).drew.alloc (Nat.le_refl _) _
 obtain⟨o,ho⟩:∃ o,o=Obj.cells (bytesRow s (grownCap w s.size 0 5)) 5 ((bytesRow s (grownCap w s.size 0 5)).size,(bytesRow s (grownCap w s.size 0 5)).size+1):=⟨_,rfl⟩
 rw[← ho];have h0:H w.heap.size=none:=hH.none_of_ge (Nat.le_refl _)
 refine⟨H.with w.heap.size o,⟨(Below.refl _ _).drew.alloc (Nat.le_refl _) _,Snap.le_with h0,(hH.drew.alloc o).with (heap_alloc_new w.drew o),fun b x hb=>?_⟩, ?_, ?_, ?_⟩
 ·unfold Snap.with at hb
  split at hb
  ·subst b;exact .inr (Nat.le_refl _)
  exact .inl hb
 ·simpa using grownCap_ge w s.size 0 5
 ·have:=grownCap_le_maxLen w s.size 0 5 (by simp only[maxLen];omega)
  simpa [maxLen] using this
 refine fun _=>⟨w.heap.size,0,rfl,fun j v hj=>?_⟩
 have gI:j<s.data.size:=by
  have:=(List.getElem?_eq_some_iff.1 hj).1
  simpa using this
 subst ho
 simp only[Snap.cell?,Snap.with,if_true,Nat.zero_add,Option.isSome,Bool.false_eq_true,if_false]
 rw[bytesRow_at s _ j gI]
 simp at hj
 obtain⟨a,h1,h2⟩:=hj;rw[Array.getElem?_eq_getElem gI]at h1;injection h1 with h1
 rw[h1,← h2]
theorem Qn (s:ByteArray) (hl:s.size≤1099511627776) {H:Snap}(w:World) (hH:Holds w H) :
  Calls Tryz.prog 50 #[.string s] w fun e w'=>∃ v,e=.returned v∧Gives w H (.mk 3 0 s.data.toList []) v w':=by
 obtain⟨g,c,w1,hr,hb,H',hG,hi⟩:=gQ (hH.alloc (.cells #[.int .i64 0,.int .u64 0,.slice none 0 0,.slice none 0 0] 26)) s hl;have hB:=jgJ
 have HI:Gives (w.alloc (.cells #[.int .i64 0,.int .u64 0,.slice none 0 0,.slice none 0 0] 26)) H (.mk 3 0 s.data.toList []) (.agg #[.int .i64 3,.int .u64 0,.slice (some ⟨g,0,none⟩) s.size c,.slice none 0 0]) w1:=by
  exact jbR
 have HII:=Hh HI;clear hb hi HI;go_enter Tryz.func50,Tryz.ntmps50
 go_wp2_with (with_reducible refine zx ?_)
 refine zv rfl _ _ _ rfl rfl _ _ rfl rfl _ _ hB zu rfl (tR _ _ _ _ rfl rfl rfl rfl) fun w2 yQ yE=>?_
 exact jct
def yC (x:Itm) (lv:Nat):Bool:=if yZ x=true then yy x else vq x lv
mutual
def Good:Itm→Nat→Prop
 | .mk k n bs l,lv=>yC (.mk k n bs l) lv=true∧GoodL l (lv+1)∧(k=5→xB l=true)
def GoodL:List Itm→Nat→Prop
 | [],_=>True
 | x::l,lv=>Good x lv∧GoodL l lv
end
theorem Good.node {x:Itm}{lv:Nat}(h:Good x lv):yC x lv=true:=by cases x;rw[Good]at h;exact h.1
theorem Good.items {x:Itm}{lv:Nat}(h:Good x lv):GoodL x.items (lv+1):=by cases x;rw[Good]at h;exact h.2.1
theorem Good.asc {x:Itm}{lv:Nat}(h:Good x lv) (h5:x.kind=5):xB x.items=true:=by cases x;rw[Good]at h;exact h.2.2 h5
theorem Good.of {x:Itm}{lv:Nat}(h1:yC x lv=true) (h2:GoodL x.items (lv+1)) (h3:x.kind=5→xB x.items=true):Good x lv:=by cases x;rw[Good];exact⟨h1,h2,h3⟩
theorem GoodL.get:∀ {l:List Itm}{lv:Nat},GoodL l lv→∀ x∈l,Good x lv
 | [],_,_,x,hx=>by cases hx
 | y::l,lv,h,x,hx=>by
  rw[GoodL]at h
  exact jdA
theorem GoodL.of:∀ {l:List Itm}{lv:Nat},(∀ x∈l,Good x lv)→GoodL l lv
 | [],_,_=>by rw[GoodL];trivial
 | y::l,lv,h=>by
  rw[GoodL]
  exact⟨h y (by simp),GoodL.of fun x hx=>h x (by simp[hx])⟩
theorem yJ {x:Itm}{lv:Nat}(h:yC x lv=true):(yZ x=true∧yy x=true)∨(yZ x=false∧vq x lv=true):=by
 unfold yC at h
 cases hp:yZ x with
 | true=>rw[if_pos hp]at h;exact .inl ⟨rfl,h⟩
 | false=>rw[if_neg (by simp[hp])]at h;exact .inr ⟨rfl,h⟩
theorem pM {x:Itm}{lv:Nat}(h:yC x lv=true):0≤x.kind∧x.kind≤8:=by
 rcases yJ h with ⟨h1,_⟩ | ⟨_,h1⟩
 ·rw[z8]at h1;omega
 have:=yI h1;omega
theorem Up {x:Itm}{lv lv':Nat}(h:vq x lv=true) (hl:lv'≤lv):vq x lv'=true:=by
 obtain⟨h1,h2,h3,h4⟩:=yI h
 exact decide_eq_true ⟨h1,h2,by omega,h4⟩
theorem Rb {x:Itm}{lv lv':Nat}(h:yC x lv=true) (hl:lv'≤lv):yC x lv'=true:=by
 rcases yJ h with ⟨h1,h2⟩ | ⟨h1,h2⟩
 ·rw[yC,if_pos h1];exact h2
 rw[yC,if_neg (by simp[h1])];exact Up h2 hl
mutual
theorem Good.le:∀ {x:Itm}{lv lv':Nat},Good x lv→lv'≤lv→Good x lv'
 | .mk k n bs l,lv,lv',h,hl=>by
  rw[Good]at h⊢
  exact⟨Rb h.1 hl,GoodL.le h.2.1 (by omega),h.2.2⟩
theorem GoodL.le:∀ {l:List Itm}{lv lv':Nat},GoodL l lv→lv'≤lv→GoodL l lv'
 | [],_,_,_,_=>by rw[GoodL];trivial
 | x::l,lv,lv',h,hl=>by
  rw[GoodL]at h⊢
  exact⟨Good.le h.1 hl,GoodL.le h.2 hl⟩
end
theorem kL {x:Itm}{lv:Nat}(h:yC x lv=true) (hp:yZ x=true):x.items=[]∧(x.kind=8∨x.kind=7→x.bytes=[]):=by
 rcases yJ h with ⟨_,h2⟩ | ⟨h1,_⟩
 ·exact wm hp h2
 rw[hp]at h1;cases h1
theorem mG {x:Itm}{lv:Nat}(h:yC x lv=true):(zZ x).length=yp x+(zP x.items).length:=by
 cases hp:yZ x with
 | true =>
  obtain⟨h1,h2⟩:=kL h hp;rw[← bX x h1 h2,h1,zP];simp
 | false =>
 rcases yJ h with ⟨h1,_⟩ | ⟨_,h2⟩
 ·rw[hp]at h1;cases h1
 have hf:=yI h2;rw[yP,if_neg (by omega),if_neg (by omega),iP x (by omega) (by omega)]
 simp;omega
theorem mA {x:Itm}{lv:Nat}(h:yC x lv=true):x.bytes.length≤yp x:=by
 by_cases h8:x.kind=8
 ·exact jdK
 by_cases h7:x.kind=7
 ·exact jdK
 rw[iP x h8 h7];omega
theorem eT:∀ l:List Itm,l.length≤yf l
 | []=>by simp[yf]
 | x::l=>by
  have:=eT l;have h:0<cnt x:=by cases x;rw[cnt];omega
  rw[yf];simp;omega
theorem et (x:Itm):cnt x=yf x.items+1:=by cases x;rw[cnt];rfl
mutual
theorem Y4:∀ (x:Itm) (lv i s:Nat) (p:Nat×Nat),chk x lv i s=some p→Good x lv
 | .mk k n bs l,lv,i,s,p,h=>by
  rw[chk]at h
  split at h
  ·cases h
  split at h
  ·rename_i hp
   split at h
   ·rename_i ho
    have hi:=(wm hp ho.1).1;have hk:=(z8 _).1 hp
    simp only[Itm.items,Itm.kind]at hi hk
    subst hi;rw[Good,GoodL]
    exact⟨by rw[yC,if_pos hp];exact ho.1,trivial,fun h=>by omega⟩
   cases h
  rename_i hp
  split at h
  ·cases h
  rename_i hf
  split at h
  ·cases h
  split at h
  ·cases h
  rename_i q hq
  split at h
  ·cases h
  rename_i ha
  rw[Good]
  refine⟨by rw[yC,if_neg hp];simpa using hf,ap l _ _ _ _ hq,fun h5=>?_⟩
  exact jdE
theorem ap:∀ (l:List Itm) (lv i s:Nat) (p:Nat×Nat),qE l lv i s=some p→GoodL l lv
 | [],_,_,_,_,_=>by rw[GoodL];trivial
 | x::l,lv,i,s,p,h=>by
  rw[qE]at h
  split at h
  ·cases h
  rename_i q hq
  rw[GoodL]
  exact⟨Y4 x _ _ _ _ hq,ap l _ _ _ _ h⟩
end
mutual
theorem YF:∀ (x:Itm) (lv i s:Nat),Good x lv→i+cnt x≤256→s+(zZ x).length≤4096→chk x lv i s=some (i+cnt x,s+(zZ x).length)
 | .mk k n bs l,lv,i,s,h,hi,hs=>by
  have hn:=h.node;have TD:=h.items;have has:=h.asc;have dS:=mG hn;have Wv:=mA hn;have hc:=et (.mk k n bs l);have hl:=eT l
  simp only[Itm.items,Itm.bytes,Itm.kind]at *
  rw[chk,if_neg (by omega)]
  rcases yJ hn with ⟨h1,h2⟩ | ⟨h1,h2⟩
  ·have h0:=(wm h1 h2).1
   simp only[Itm.items]at h0
   subst h0;rw[zP]at dS;rw[yf]at hc
   simp only[List.length_nil]at dS
   rw[if_pos h1,if_pos ⟨h2,by omega⟩,hc,dS];congr 2
  rw[if_neg (by simp[h1]),if_neg (by simp[h2]),if_neg (by omega),bA l (lv+1) (i+1) _ TD (by omega) (by omega)]
  simp only
  rw[if_neg (by rintro⟨h5,ha⟩;rw[has h5]at ha;cases ha)];congr 2 <;> omega
theorem bA:∀ (l:List Itm) (lv i s:Nat),GoodL l lv→i+yf l≤256→s+(zP l).length≤4096→qE l lv i s=some (i+yf l,s+(zP l).length)
 | [],lv,i,s,_,_,_=>by rw[qE,yf,zP];rfl
 | x::l,lv,i,s,h,hi,hs=>by
  rw[GoodL]at h;rw[yf]at hi⊢;rw[zP]at hs⊢
  simp only[List.length_append]at hs⊢
  rw[qE,YF x lv i s h.1 (by omega) (by omega)]
  simp only
  rw[bA l lv _ _ h.2 (by omega) (by omega)];congr 2 <;> omega
end
theorem yo (x:Itm):zJ x=true↔Good x 0∧cnt x≤256∧(zZ x).length≤4096:=by
 constructor
 ·intro h
  obtain⟨p,hp⟩:=Option.isSome_iff_exists.1 h;have:=vL h
  exact⟨Y4 _ _ _ _ _ hp,this.2.1,this.2.2⟩
 rintro⟨h1,h2,h3⟩
 rw[zJ,YF x 0 0 0 h1 (by omega) (by omega)];rfl
mutual
def jj:Itm→Prop
 | .mk _ _ bs l=>bs.length≤4096∧qv l
def qv:List Itm→Prop
 | []=>True
 | x::l=>jj x∧qv l
end
def yG (x:Itm) (d m:Nat):Bool:=yC x d&&decide (x.bytes.length≤4096)&&decide (x.items.length≤m)
mutual
def xu:Itm→Nat→Nat→Option Nat
 | .mk k n bs l,c,d =>
 if c<1 then none
 else if yG (.mk k n bs l) d (c-1)=false then none
 else match wV l (c-1) (d+1) with
  | none=>none
  | some r=>if k=5∧xB l=false then none else some r
def wV:List Itm→Nat→Nat→Option Nat
 | [],c,_=>some c
 | x::l,c,d=>match xu x c d with
  | none=>none
  | some r=>wV l r d
end
theorem tL (x:Itm) (c d:Nat):xu x c d =
  if c<1 then none
  else if yG x d (c-1)=false then none
  else match wV x.items (c-1) (d+1) with
   | none=>none
   | some r=>if x.kind=5∧xB x.items=false then none else some r:=by
 cases x
 rw[xu];rfl
theorem e8 {x:Itm}{d m:Nat}(h:yG x d m=true):yC x d=true∧x.bytes.length≤4096∧x.items.length≤m:=by
 simpa [yG,and_assoc] using h
mutual
theorem qM:∀ (x:Itm) (c d r:Nat),xu x c d=some r→Good x d∧jj x∧r+cnt x=c
 | .mk k n bs l,c,d,r,h=>by
  rw[xu]at h
  split at h
  ·cases h
  split at h
  ·cases h
  rename_i hn
  obtain⟨h1,h2,h3⟩:=e8 (by simpa using hn)
  split at h
  ·cases h
  rename_i q hq
  split at h
  ·cases h
  rename_i ha
  injection h with h
  subst h;obtain⟨g1,g2,g3⟩:=kK l _ _ _ hq;rw[Good,jj,cnt]
  refine⟨⟨h1,g1,fun h5=>?_⟩,⟨h2,g2⟩,by omega⟩
  exact jdE
theorem kK:∀ (l:List Itm) (c d r:Nat),wV l c d=some r→GoodL l d∧qv l∧r+yf l=c
 | [],c,d,r,h=>by
  rw[wV]at h;injection h with h
  subst h;rw[GoodL,qv,yf]
  exact⟨trivial,trivial,rfl⟩
 | x::l,c,d,r,h=>by
  rw[wV]at h
  split at h
  ·cases h
  rename_i q hq
  obtain⟨h1,h2,h3⟩:=qM x _ _ _ hq;obtain⟨g1,g2,g3⟩:=kK l _ _ _ h;rw[GoodL,qv,yf]
  exact⟨⟨h1,g1⟩,⟨h2,g2⟩,by omega⟩
end
mutual
theorem bC:∀ (x:Itm) (c d:Nat),Good x d→jj x→cnt x≤c→xu x c d=some (c-cnt x)
 | .mk k n bs l,c,d,h,hs,hc=>by
  have hn:=h.node;have TD:=h.items;have has:=h.asc;have hcn:=et (.mk k n bs l);have hl:=eT l;rw[jj]at hs
  simp only[Itm.items,Itm.bytes,Itm.kind]at *
  have hr:yG (.mk k n bs l) d (c-1)=true:=by
   have e2:l.length≤c-1:=by omega
   simp[yG,hn,Itm.bytes,Itm.items,hs.1,e2]
  rw[xu,if_neg (by omega),if_neg (by simp[hr]),dm l (c-1) (d+1) TD hs.2 (by omega)]
  simp only
  rw[if_neg (by rintro⟨h5,ha⟩;rw[has h5]at ha;cases ha)];congr 1;omega
theorem dm:∀ (l:List Itm) (c d:Nat),GoodL l d→qv l→yf l≤c→wV l c d=some (c-yf l)
 | [],c,d,_,_,_=>by rw[wV,yf];rfl
 | x::l,c,d,h,hs,hc=>by
  rw[GoodL]at h;rw[qv]at hs;rw[yf]at hc⊢;rw[wV,bC x c d h.1 hs.1 (by omega)]
  simp only
  rw[dm l _ d h.2 hs.2 (by omega)];congr 1;omega
end
mutual
theorem Good.small:∀ {x:Itm}{lv:Nat},Good x lv→(zZ x).length≤4096→jj x
 | .mk k n bs l,lv,h,hl=>by
  have h1:=mG h.node;have h2:=mA h.node;have h3:=h.items
  simp only[Itm.items,Itm.bytes]at *
  rw[jj]
  exact⟨by omega,GoodL.small h3 (by omega)⟩
theorem GoodL.small:∀ {l:List Itm}{lv:Nat},GoodL l lv→(zP l).length≤4096→qv l
 | [],_,_,_=>by rw[qv];trivial
 | x::l,lv,h,hl=>by
  rw[GoodL]at h;rw[zP]at hl
  simp only[List.length_append]at hl
  rw[qv]
  exact⟨Good.small h.1 (by omega),GoodL.small h.2 (by omega)⟩
end
theorem O0 {x:Itm}{lv:Nat}(h:yC x lv=true):yp x≤x.bytes.length+9:=by
 unfold yp
 split
 ·have:=pA x.n;omega
 split
 ·split <;> omega
 have:=(tJ x.kind.toNat (yA x)).2;omega
mutual
theorem Good.bytes:∀ {x:Itm}{lv:Nat},Good x lv→jj x→(zZ x).length≤cnt x*4105
 | .mk k n bs l,lv,h,hs=>by
  have h1:=mG h.node;have h2:=O0 h.node;have h3:=h.items;have h4:=et (.mk k n bs l);rw[jj]at hs
  simp only[Itm.items,Itm.bytes]at *
  have:=GoodL.bytes h3 hs.2
  omega
theorem GoodL.bytes:∀ {l:List Itm}{lv:Nat},GoodL l lv→qv l→(zP l).length≤yf l*4105
 | [],_,_,_=>by rw[zP,yf];simp
 | x::l,lv,h,hs=>by
  rw[GoodL]at h;rw[qv]at hs;rw[zP,yf];have h1:=Good.bytes h.1 hs.1;have h2:=GoodL.bytes h.2 hs.2
  simp only[List.length_append]
  omega
end
def aD (x:Itm):Bool:=(xu x 256 0).isSome&&decide ((zZ x).length≤4096)
theorem lX (x:Itm):aD x=zJ x:=by
 rw[Bool.eq_iff_iff,yo];constructor
 ·intro h
  simp only[aD,Bool.and_eq_true,decide_eq_true_eq]at h
  obtain⟨r,hr⟩:=Option.isSome_iff_exists.1 h.1;obtain⟨h1,h2,h3⟩:=qM _ _ _ _ hr
  exact⟨h1,by omega,h.2⟩
 rintro⟨h1,h2,h3⟩
 simp only[aD,Bool.and_eq_true,decide_eq_true_eq]
 rw[bC x 256 0 h1 (h1.small h3) h2]
 exact⟨rfl,h3⟩
theorem sD:∀ a:List UInt8,Lib.compareBytes a a=0
 | []=>by rw[Lib.compareBytes]
 | x::a=>by rw[Lib.compareBytes,if_neg (UInt8.lt_irrefl x),if_neg (UInt8.lt_irrefl x)];exact sD a
theorem rZ:∀ a b c:List UInt8,Lib.compareBytes a b<0→Lib.compareBytes b c<0→Lib.compareBytes a c<0
 | [],[],c,h,_=>by rw[Lib.compareBytes]at h;omega
 | [],y::b,[],_,h=>by rw[Lib.compareBytes]at h;omega
 | [],y::b,z::c,_,_=>by rw[Lib.compareBytes];omega
 | x::a,[],c,h,_=>by rw[Lib.compareBytes]at h;omega
 | x::a,y::b,[],_,h=>by rw[Lib.compareBytes]at h;omega
 | x::a,y::b,z::c,h,k=>by
  rw[Lib.compareBytes]at h k⊢
  by_cases h1:x<y
  ·by_cases h2:y<z
   ·have h3:x<z:=UInt8.lt_trans h1 h2;rw[if_pos h3];omega
   rw[if_neg h2]at k
   by_cases h3:z<y
   ·rw[if_pos h3]at k;omega
   have e:y=z:=UInt8.toNat_inj.1 (by rw[UInt8.lt_iff_toNat_lt]at h2 h3;omega);subst e;rw[if_pos h1];omega
  rw[if_neg h1]at h
  by_cases h2:y<x
  ·rw[if_pos h2]at h;omega
  rw[if_neg h2]at h;have e:x=y:=UInt8.toNat_inj.1 (by rw[UInt8.lt_iff_toNat_lt]at h1 h2;omega);subst e
  by_cases h3:x<z
  ·rw[if_pos h3];omega
  rw[if_neg h3]at k⊢
  by_cases h4:z<x
  ·rw[if_pos h4]at k;omega
  rw[if_neg h4]at k⊢
  exact rZ a b c h k
def zT:List Itm→List (Itm×Itm)
 | a::b::r=>(a,b)::zT r
 | _=>[]
theorem wt:∀ {l:List Itm}{p:Itm×Itm},p∈zT l→p.1∈l∧p.2∈l
 | [],p,h=>by rw[zT]at h;cases h;intro _ _ _ h;cases h
 | [_],p,h=>by rw[zT]at h;cases h;intro _ _ _ h;cases h
 | a::b::r,p,h=>by
  rw[zT]at h
  rcases List.mem_cons.1 h with rfl | h
  ·simp
  have:=wt h
  simp[this.1,this.2]
theorem rK:∀ l:List Itm,qD l=(zT l).all fun p=>uh p.1 p.2
 | []=>rfl
 | [_]=>rfl
 | a::b::r=>by rw[qD,zT,List.all_cons,rK r]
theorem pt (u:Itm):∀ l:List Itm,wM u l=(zT l).all fun p=>(yK u p.1).isNone
 | []=>rfl
 | [_]=>rfl
 | a::b::r=>by rw[wM,zT,List.all_cons,pt u r]
theorem gT (k:List UInt8):∀ l:List Itm,kv k l=((zT l).find? fun p=>decide (zZ p.1=k)).map (·.2)
 | []=>rfl
 | [_]=>rfl
 | a::b::r=>by
  rw[kv,zT,List.find?_cons]
  by_cases h:zZ a=k
  ·simp[h]
  simp[h,gT k r]
mutual
def yL:Itm→Itm→Bool
 | .mk k n bs l,.mk k' n' bs' l'=>k==k'&&n==n'&&bs==bs'&&uD l l'
def uD:List Itm→List Itm→Bool
 | [],[]=>true
 | x::l,y::m=>yL x y&&uD l m
 | _,_=>false
end
mutual
theorem vS:∀ (x y:Itm),yL x y=true↔x=y
 | .mk k n bs l,.mk k' n' bs' l'=>by
  rw[yL]
  simp only[Bool.and_eq_true,beq_iff_eq,iN l l',Itm.mk.injEq,and_assoc]
theorem iN:∀ (l m:List Itm),uD l m=true↔l=m
 | [],[]=>by simp[uD]
 | [],y::m=>by simp[uD]
 | x::l,[]=>by simp[uD]
 | x::l,y::m=>by
  rw[uD]
  simp only[Bool.and_eq_true,vS x y,iN l m,List.cons.injEq]
end
def atL (key:Itm):List Itm→Option Itm
 | a::b::r=>if yL a key=true then some b else atL key r
 | _=>none
theorem oJ (k:Itm):∀ l:List Itm,atL k l=((zT l).find? fun p=>yL p.1 k).map (·.2)
 | []=>rfl
 | [_]=>rfl
 | a::b::r=>by
  rw[atL,zT,List.find?_cons]
  by_cases h:yL a k=true
  ·simp[h]
  simp[h,oJ k r]
theorem tG {k:Itm}{l:List Itm}:(atL k l).isSome=true↔∃ v,(k,v)∈zT l:=by
 rw[oJ]
 simp only[Option.isSome_map,List.find?_isSome]
 constructor
 ·rintro⟨⟨a,b⟩,h1,h2⟩
  rw[vS]at h2
  exact⟨b,h2 ▸ h1⟩
 rintro⟨v,h⟩
 exact⟨_,h,(vS _ _).2 rfl⟩
def uw (x:Itm):Bool:=x.kind==3||vW x
def vx (k v:Itm) (m:List Itm):Bool :=
 if yL k (zS 1)=true then((v.kind==0&&decide (0<v.n))||v.kind==1)&&decide (v.n≤65535)
 else if yL k (zS 2)=true then v.kind==4&&decide (0<v.items.length)&&v.items.all fun x=>(atL x m).isSome
 else if(yL k (zS 4)||yL k (zS 5)||yL k (zS 6)||yL k (zS 12))=true then v.kind==2 else true
def yB (m:List Itm):List Itm→Bool
 | a::b::r=>uw a&&vx a b m&&yB m r
 | _=>true
def sI (p:List Itm):List Itm→Bool
 | a::_::r => !((atL a p).isSome||yL a (zS 2))&&sI p r
 | _=>true
def vj (p u:Itm) (n:Int):Option Itm:=match atL (zS n) p.items with
 | some x=>some x
 | none=>atL (zS n) u.items
def xL (p u:Itm):Bool :=
 p.kind==5&&u.kind==5&&zJ p&&zJ u&&yB p.items p.items&&yB u.items u.items&&sI p.items u.items&&(!(vj p u 5).isSome || !(vj p u 6).isSome)
theorem sC (m:List Itm):∀ l:List Itm,yB m l=(zT l).all fun p=>uw p.1&&vx p.1 p.2 m
 | []=>rfl
 | [_]=>rfl
 | a::b::r=>by rw[yB,zT,List.all_cons,sC m r]
theorem gV (p:List Itm):∀ l:List Itm,sI p l=(zT l).all fun q => !((atL q.1 p).isSome||yL q.1 (zS 2))
 | []=>rfl
 | [_]=>rfl
 | a::b::r=>by rw[sI,zT,List.all_cons,gV p r]
theorem vM (n:Nat):zS (n:Int)=.mk 0 n [] []:=by
 rw[zS,if_neg (by omega)];simp
theorem mF (n:Nat) (lv:Nat):Good (zS (n:Int)) lv:=by
 rw[vM,Good,GoodL]
 exact⟨rfl,trivial,fun h=>by omega⟩
theorem vH (n:Nat):zJ (zS (n:Int))=true:=by
 rw[yo]
 refine⟨mF n 0, ?_, ?_⟩
 ·rw[vM,cnt,yf];omega
 rw[vM,yP];have:=(tJ (0:Int).toNat (yA (.mk 0 n [] []))).2
 simp[Itm.kind,Itm.bytes,Itm.items,zP]at *
 omega
def aS (x:Itm):Nat:=if x.kind=8 then 7 else x.kind.toNat
theorem Uq (m n:Nat):∃ a t,yv m n=u8 (m*32+a)::t∧a<28:=by
 unfold yv
 repeat' split
 all_goals exact⟨_,_,rfl,by omega⟩
theorem XJ (n:Nat):∃ a t,yx n=u8 (7*32+a)::t∧25≤a∧a<28:=by
 unfold yx
 repeat' split
 ·exact⟨25,_,rfl,by omega⟩
 ·exact⟨25,_,rfl,by omega⟩
 ·exact⟨26,_,rfl,by omega⟩
 exact⟨27,_,rfl,by omega⟩
theorem au (x:Itm) (h:0≤x.kind∧x.kind≤8):∃ a t,zZ x=u8 (aS x*32+a)::t∧a<28:=by
 rw[yP,aS]
 by_cases h8:x.kind=8
 ·obtain⟨a,t,e,h1,h2⟩:=XJ x.n;rw[if_pos h8,if_pos h8]
  exact⟨a,t,e,h2⟩
 rw[if_neg h8,if_neg h8]
 by_cases h7:x.kind=7∧24≤x.n
 ·rw[if_pos h7,h7.1]
  exact⟨24,[u8 x.n],rfl,by omega⟩
 rw[if_neg h7];obtain⟨a,t,e,h2⟩:=Uq x.kind.toNat (yA x);rw[e]
 exact⟨a,_,by rw[List.cons_append,List.cons_append],h2⟩
theorem GH {x y:Itm}(hx:0≤x.kind∧x.kind≤8) (hy:0≤y.kind∧y.kind≤8) {r s:List UInt8}(h:zZ x++r=zZ y++s):aS x=aS y:=by
 obtain⟨a,t,e,ha⟩:=au x hx;obtain⟨b,v,f,hb⟩:=au y hy;rw[e,f,List.cons_append,List.cons_append]at h;injection h with h _
 have h':=congrArg UInt8.toNat h;rw[xg,xg]at h';have h1:aS x≤7:=by unfold aS;split <;> omega
 have h2:aS y≤7:=by unfold aS;split <;> omega
 omega
theorem qn {a b:Nat}(h:u8 a=u8 b):a%256=b%256:=by
 have:=congrArg UInt8.toNat h;rwa [xg,xg]at this
def sH (n:Nat):Nat:=if n<24 then n else if n<256 then 24 else if n<65536 then 25 else if n<4294967296 then 26 else 27
def pR (n:Nat):List UInt8:=if n<24 then [] else if n<256 then [u8 n] else if n<65536 then [u8 (n/256),u8 n] else if n<4294967296 then [u8 (n/16777216),u8 (n/65536),u8 (n/256),u8 n] else be8 n 8
theorem py (m n:Nat):yv m n=u8 (m*32+sH n)::pR n:=by
 unfold yv sH pR
 repeat' split
 all_goals rfl
theorem YG (n:Nat):sH n<28:=by
 unfold sH
 repeat' split
 all_goals omega
theorem bD (n:Nat):(pR n).length=if sH n<24 then 0 else if sH n=24 then 1 else if sH n=25 then 2 else if sH n=26 then 4 else 8:=by
 unfold sH pR
 by_cases h1:n<24
 ·simp[h1]
 by_cases h2:n<256
 ·simp[h1,h2]
 by_cases h3:n<65536
 ·simp[h1,h2,h3]
 by_cases h4:n<4294967296
 ·simp[h1,h2,h3,h4]
 simp[h1,h2,h3,h4,vE]
theorem Fu {n m:Nat}(hn:n<18446744073709551616) (hm:m<18446744073709551616) (h:be8 n 8=be8 m 8):n=m:=by
 simp only[be8,List.nil_append,List.cons_append,List.cons.injEq]at h
 obtain⟨h0,h1,h2,h3,h4,h5,h6,h7,_⟩:=h;have h0:=qn h0;have h1:=qn h1;have h2:=qn h2;have h3:=qn h3;have h4:=qn h4;have h5:=qn h5;have h6:=qn h6;have h7:=qn h7
 simp only[Nat.reduceMul,Nat.reduceSub,Nat.reducePow,Nat.sub_zero,Nat.mul_zero]at *
 have g0:n/72057594037927936=m/72057594037927936:=by omega
 have g1:n/281474976710656=m/281474976710656:=by omega
 have g2:n/1099511627776=m/1099511627776:=by omega
 have g3:n/4294967296=m/4294967296:=by omega
 have g4:n/16777216=m/16777216:=by omega
 have g5:n/65536=m/65536:=by omega
 have g6:n/256=m/256:=by omega
 omega
theorem NJ {n m:Nat}(hn:n<18446744073709551616) (hm:m<18446744073709551616) (hx:sH n=sH m) (h:pR n=pR m):n=m:=by
 unfold sH at hx
 unfold pR at h
 by_cases a1:n<24
 ·simp only[a1,if_true]at hx
  repeat' split at hx
  all_goals omega
 by_cases a2:n<256
 ·have b1:¬ m<24:=by intro k;simp only[a1,a2,k,if_true,if_false]at hx;omega
  have b2:m<256:=by
   simp only[a1,a2,b1,if_true,if_false]at hx
   repeat' split at hx
   all_goals omega
  simp only[a1,a2,b1,b2,if_true,if_false,List.cons.injEq,and_true]at h
  have:=qn h
  omega
 by_cases a3:n<65536
 ·have b1:¬ m<24:=by intro k;simp only[a1,a2,a3,k,if_true,if_false]at hx;omega
  have b2:¬ m<256:=by intro k;simp only[a1,a2,a3,b1,k,if_true,if_false]at hx;omega
  have b3:m<65536:=by
   simp only[a1,a2,a3,b1,b2,if_true,if_false]at hx
   repeat' split at hx
   all_goals omega
  simp only[a1,a2,a3,b1,b2,b3,if_true,if_false,List.cons.injEq,and_true]at h
  have h1:=qn h.1;have h2:=qn h.2
  omega
 by_cases a4:n<4294967296
 ·have b1:¬ m<24:=by intro k;simp only[a1,a2,a3,a4,k,if_true,if_false]at hx;omega
  have b2:¬ m<256:=by intro k;simp only[a1,a2,a3,a4,b1,k,if_true,if_false]at hx;omega
  have b3:¬ m<65536:=by intro k;simp only[a1,a2,a3,a4,b1,b2,k,if_true,if_false]at hx;omega
  have b4:m<4294967296:=by
   simp only[a1,a2,a3,a4,b1,b2,b3,if_true,if_false]at hx
   repeat' split at hx
   all_goals omega
  simp only[a1,a2,a3,a4,b1,b2,b3,b4,if_true,if_false,List.cons.injEq,and_true]at h
  obtain⟨h0,h1,h2,h3⟩:=h;have h0:=qn h0;have h1:=qn h1;have h2:=qn h2;have h3:=qn h3;have g0:n/16777216=m/16777216:=by omega
  have g1:n/65536=m/65536:=by omega
  have g2:n/256=m/256:=by omega
  omega
 have b1:¬ m<24:=by intro k;simp only[a1,a2,a3,a4,k,if_true,if_false]at hx;omega
 have b2:¬ m<256:=by intro k;simp only[a1,a2,a3,a4,b1,k,if_true,if_false]at hx;omega
 have b3:¬ m<65536:=by intro k;simp only[a1,a2,a3,a4,b1,b2,k,if_true,if_false]at hx;omega
 have b4:¬ m<4294967296:=by intro k;simp only[a1,a2,a3,a4,b1,b2,b3,k,if_true,if_false]at hx;omega
 simp only[a1,a2,a3,a4,b1,b2,b3,b4,if_false]at h
 exact Fu hn hm h
theorem RC {a b n m:Nat}(ha:a<8) (hb:b<8) (hn:n<18446744073709551616) (hm:m<18446744073709551616) {r s:List UInt8}(h:yv a n++r=yv b m++s):a=b∧n=m∧r=s:=by
 rw[py,py,List.cons_append,List.cons_append]at h;injection h with h1 h2
 have h1:=qn h1;have x1:=YG n;have x2:=YG m;have hx:sH n=sH m:=by omega
 have hl:(pR n).length=(pR m).length:=by rw[bD,bD,hx]
 obtain⟨h3,h4⟩:=List.append_inj h2 hl
 exact⟨by omega,NJ hn hm hx h3,h4⟩
def Num (x:Itm):Prop:=x.n<18446744073709551616∧x.bytes.length<18446744073709551616
theorem RO {x y:Itm}{lv lv':Nat}(hx:Good x lv) (hy:Good y lv') (hl:uw x=true) (nx:Num x) (ny:Num y) (h:zZ x=zZ y):x=y:=by
 have Ar:=pM hx.node;have UE:=pM hy.node;have ht:=GH Ar UE (r:=[]) (s:=[]) (by simpa using h)
 have hk:x.kind=0∨x.kind=1∨x.kind=3:=by
  simp only[uw,vW,Bool.or_eq_true,Bool.and_eq_true,beq_iff_eq,decide_eq_true_eq]at hl
  omega
 have cC:y.kind=x.kind:=by
  unfold aS at ht
  repeat' split at ht
  all_goals omega
 have hpx:=(z8 x).2 (by omega);have hpy:=(z8 y).2 (by omega);have ox:yy x=true:=by rcases yJ hx.node with ⟨_,h⟩ | ⟨h,_⟩;exact h;rw[hpx]at h;cases h
 have oy:yy y=true:=by rcases yJ hy.node with ⟨_,h⟩ | ⟨h,_⟩;exact h;rw[hpy]at h;cases h
 rw[yP x,yP y,if_neg (by omega),if_neg (by omega),if_neg (by omega),if_neg (by omega),cC,List.append_assoc,List.append_assoc]at h
 have un:yA x<18446744073709551616:=by
  unfold yA
  rcases hk with h | h | h <;> simp[h] <;> first | exact nx.1 | exact nx.2
 have tF:yA y<18446744073709551616:=by
  unfold yA
  rcases hk with h | h | h <;> simp[cC,h] <;> first | exact ny.1 | exact ny.2
 obtain⟨_,hn,hr⟩:=RC (by omega) (by omega) un tF h
 cases x with
 | mk k n bs l =>
 cases y with
 | mk k' n' bs' l' =>
 simp only[Itm.kind,Itm.bytes,Itm.items,yA,Itm.n]at *
 subst cC
 rcases hk with hk | hk | hk
 ·exact jdz
 ·exact jdz
 subst hk
 simp[yy,Itm.kind,Itm.bytes,Itm.items,Itm.n]at ox oy
 rw[ox.1.2,oy.1.2,zP]at hr
 simp at hr
 simp[ox,oy,hr]
theorem pN (w:World) (A B:Option Addr) (a b:List UInt8) (n m c d:Nat) (hn:n=a.length) (hm:m=b.length) (hna:n≤1099511627776) (Ih:m≤1099511627776) (ha:Src w A (a.map zm)) (hb:Src w B (b.map zm)) :
  Calls Tryz.prog 113 #[.slice A n c,.slice B m d] w fun e w'=>e=.returned (.int .i64 (Lib.compareBytes a b))∧Below w.heap.size w w':=by
 have HN:=Hh hn;have HM:=Hh hm;clear hn hm;go_enter Tryz.func113,Tryz.ntmps113
 go_wp2_with fail
 go_loopw [5] (fun vi wr=>∃ k:Nat,k≤n∧k≤m∧vi=.int .i64 k∧Lib.compareBytes (a.drop k) (b.drop k)=Lib.compareBytes a b∧Below w.heap.size w wr) (fun vi _=>n-(intOf vi).toNat)
 case atStart=>exact⟨0,by omega,by omega,rfl,by simp,Below.refl _ _⟩
 case round =>
 obtain⟨k,lA,ZQ,rfl,hc,xY⟩:=hrel;have hn:=HN.out;have hm:=HM.out
 by_cases h1:k<n
 ·by_cases h2:k<m
  ·obtain⟨ab,ao,rfl,X7⟩:=(ha.below xY) (by intro h;simp at h;subst h;simp at hn;omega)
   obtain⟨bb,bo,rfl,TJ⟩:=(hb.below xY) (by intro h;simp at h;subst h;simp at hm;omega)
   have ka:k<a.length:=by omega
   have kb:k<b.length:=by omega
   have p0:=X7 k (zm a[k]) (by simp[ka]);have q0:=TJ k (zm b[k]) (by simp[kb])
   have hd:Lib.compareBytes (a.drop k) (b.drop k)=if a[k]<b[k] then -1 else if b[k]<a[k] then 1 else Lib.compareBytes (a.drop (k+1)) (b.drop (k+1)):=by
    rw[List.drop_eq_getElem_cons ka,List.drop_eq_getElem_cons kb,Lib.compareBytes]
   rw[hc]at hd
   generalize a[k]'ka=x at *
   generalize b[k]'kb=y at *
   have HD:=Hh hd;clear hd hc hn hm X7 TJ ka kb;go_upto_region 4 with fail
   refine zw 8 (fun w'=>w'.cell? ⟨ab,ao+k,none⟩=some (zm x)∧w'.cell? ⟨bb,bo+k,none⟩=some (zm y)) (by kernel_rfl) (⟨p0,q0⟩) (fun zy=>?_)
   refine Tk 0 rfl zy ?_
   refine Tk 1 rfl zy ?_
   refine Tk 2 rfl zy ?_
   refine Tk 3 rfl zy ?_
   refine Tk 4 rfl zy ?_
   refine Tk 5 rfl zy ?_
   refine Tk 6 rfl zy ?_
   refine Tk 7 rfl zy ?_
   refine To 8 rfl fun K hK=>?_
   go_simp
   refine Kz hK ?_
   clear hK K
   refine Wd ?_
   clear zy
   by_cases Fh:x=y
   ·subst Fh;have E:Hid (Lib.compareBytes (a.drop (k+1)) (b.drop (k+1))=Lib.compareBytes a b):=by rw[Hid,HD.out,if_neg (UInt8.lt_irrefl x),if_neg (UInt8.lt_irrefl x)]
    have zG:=xY.drew;go_wp2_with fail
    go_roundw
    case rel=>exact⟨k+1,by omega,by omega,by go_num,E.out,zG⟩
    case measure=>simp[intOf];omega
   have vl:((x.toNat:Int) != (y.toNat:Int))=true:=by
    rw[bne_iff_ne]
    intro h
    exact Fh (UInt8.toNat_inj.1 (by omega))
   have zG:=xY.drew.drew;have AH:=Hh Fh;clear Fh;go_upto_region 5 with fail
   refine zw 8 (fun w'=>w'.cell? ⟨ab,ao+k,none⟩=some (zm x)∧w'.cell? ⟨bb,bo+k,none⟩=some (zm y)) (by kernel_rfl) (⟨p0,q0⟩) (fun zy=>?_)
   refine Tk 0 rfl zy ?_
   refine Tk 1 rfl zy ?_
   refine Tk 2 rfl zy ?_
   refine Tk 3 rfl zy ?_
   refine Tk 4 rfl zy ?_
   refine Tk 5 rfl zy ?_
   refine Tk 6 rfl zy ?_
   refine Tk 7 rfl zy ?_
   refine To 8 rfl fun K hK=>?_
   go_simp
   refine Kz hK ?_
   clear hK K
   refine Wd ?_
   clear zy
   by_cases hl:x<y
   ·have E:Hid (Lib.compareBytes a b = -1):=by rw[Hid,HD.out,if_pos hl]
    have mi:(x.toNat:Int)<(y.toNat:Int):=by have:=UInt8.lt_iff_toNat_lt.1 hl;omega
    clear hl;go_wp2_with fail
    go_ret
    exact⟨by rw[E.out];rfl,zG⟩
   have hg:y<x:=by
    have:=AH.out
    rcases Nat.lt_trichotomy x.toNat y.toNat with h | h | h
    ·exact absurd (UInt8.lt_iff_toNat_lt.2 h) hl
    ·exact absurd (UInt8.toNat_inj.1 h) this
    exact UInt8.lt_iff_toNat_lt.2 h
   have E:Hid (Lib.compareBytes a b=1):=by rw[Hid,HD.out,if_neg hl,if_pos hg]
   have mi:(y.toNat:Int)≤(x.toNat:Int):=by have:=UInt8.lt_iff_toNat_lt.1 hg;omega
   clear hl hg;go_wp2_with fail
   go_ret
   exact⟨by rw[E.out];rfl,xY.drew.drew⟩
  have Aq:k=m:=by omega
  have E:Hid (Lib.compareBytes a b=1):=by
   rw[Hid,← hc,List.drop_eq_getElem_cons (show k<a.length by omega),List.drop_eq_nil_of_le (show b.length≤k by omega),Lib.compareBytes]
  exact jcr
 have ov:k=n:=by omega
 by_cases h2:k<m
 ·have E:Hid (Lib.compareBytes a b = -1):=by
   rw[Hid,← hc,List.drop_eq_nil_of_le (show a.length≤k by omega),List.drop_eq_getElem_cons (show k<b.length by omega),Lib.compareBytes]
  exact jcr
 have E:Hid (Lib.compareBytes a b=0):=by
  rw[Hid,← hc,List.drop_eq_nil_of_le (show a.length≤k by omega),List.drop_eq_nil_of_le (show b.length≤k by omega),Lib.compareBytes]
 exact jcr
theorem stI {w:World}{ops:Array Oper}{rest:List Oper}{o:Oper}{a:Act}{Q:Exit→Act→World→Prop}{x y:Operand}{g:Nat}{c0 c1 c2 c3:Value}{t:TypeId}{old:Array Value}(hB:Blk w g t old)
  (h:∀ w',Blk w' g t #[c0,c1,c2,c3]→w.grownBy w' (some g)→wpList Tryz.prog ops Q rest a w')
  (hgd:o.guard=none:=by rfl) (ho:o.op=.store 26 x y:=by rfl) (hd:o.dst=none:=by rfl) (hx:a.eval x=.pointer (some ⟨g,0,none⟩):=by rfl) (hy:a.eval y=.agg #[c0,c1,c2,c3]:=by rfl) (hold:(#[c0,c1,c2,c3]:Array Value).size=old.size:=by rfl) (h1:c0.oneCell'=true:=by rfl) (h2:c1.oneCell'=true:=by rfl) (h3:c2.oneCell'=true:=by rfl) (h4:c3.oneCell'=true:=by rfl):wpList Tryz.prog ops Q (o::rest) a w :=
 zv hgd _ _ _ ho hd _ _ hx hy _ _ hB zu hold (tR _ _ _ _ h1 h2 h3 h4) h
end Go.Proofs.YtliomcphdnppnaaGreatDoor
