/- squeezed. A region that draws its order: unt -/
import Derived.Test.YtnlinmoiakgedaaGreatDoorK00
import Derived.Lib.ValidU
import Derived.Lib.Bytealg
import Derived.Shelf.Unicode.DecodeSlow
import Derived.Laws.BytesArg
import Derived.Laws.Externs
import Derived.Laws.IdiomStrings
set_option linter.unusedVariables false
set_option linter.unusedSimpArgs false
set_option maxRecDepth 100000
namespace Go.Proofs.YtnlinmoiakgedaaGreatDoor
open Go.RowKit
section
variable {P:Program} {ops:Array Oper} {Q:Exit→Act→World→Prop} {md:Region.Mode} {S:World→Prop} {z:Nat}
def WaysZ (P:Program) (md:Region.Mode) (ops:Array Oper) (Q:Exit→Act→World→Prop) (S:World→Prop) (z:Nat):Nat→Array Bool→Act→World→Prop
 | 0,L,a,w=>Region.ready md ops L=[]∧Q .normal a w
 | n+1,L,a,w=>(Region.ready md ops L=[]→Q .normal a w)∧
   ∀ i∈Region.ready md ops L,wpOp P ops Q i (fun a' w'=>((L.setIfInBounds i true).getD z true=false→S w')∧WaysZ P md ops Q S z n (L.setIfInBounds i true) a' w') a w
theorem WaysZ.any:∀ (n:Nat) (L:Array Bool) (a:Act) (w:World),WaysZ P md ops Q S z n L a w→wpAny P md ops Q n L a w
 | 0,_,_,_,h=>h
 | n+1,_,_,_,h=>⟨h.1,fun i hi=>wpOp_mono (fun a' w' k=>WaysZ.any n _ a' w' k.2) (h.2 i hi)⟩
theorem WaysZ.first {T:Bool}{i:Nat}{oi:Oper}{v:Value}(hi:ops[i]? = some oi) (hsel:∀ (j:Nat) (o:Oper) cs b,ops[j]? = some o→o.op≠.select cs b)
  (hQ:∀ c a w,Q (.panic c) (a.put oi.dst v) w→Q (.panic c) a w) (hT:T=false→Yl md ops z i∧z<ops.size) (hiz:i≠z) :
  ∀ (n:Nat) (L:Array Bool) (a:Act) (w:World),(T=false→Closed md ops L∧L.size=ops.size∧L.getD z true=false)→
   (∀ j oj,ops[j]? = some oj→j≠i→L.getD j true=false→(∀ e∈oj.after,Region.binds md e=true→e.on≠i)→oi.apart ops oj=true)→
   i∈Region.ready md ops L→YieldsIf P ops (fun w=>T=false→S w) oi v a→(L.getD z true=false→S w)→
   WaysZ P md ops Q S z n (L.setIfInBounds i true) (a.put oi.dst v) w→WaysZ P md ops Q S z (n+1) L a w:=by
 intro n
 induction n with
 | zero =>
  intro L a w hC _ hr hy hS H
  refine⟨fun h=>(by rw[h]at hr;cases hr),fun j hj=>?_⟩
  by_cases sD:j=i
  ·subst sD
   exact hy.wpOp hi (fun ht=>hS (hC ht).2.2) ⟨fun h=>hS (by rwa [getD_set_ne true hiz]at h),H⟩
  ·have:=ready_mono hj sD;rw[H.1]at this
   cases this
 | succ n ih =>
  intro L a w hC hfree hr hy hS H
  refine⟨fun h=>(by rw[h]at hr;cases hr),fun j hj=>?_⟩
  by_cases sD:j=i
  ·subst sD
   exact hy.wpOp hi (fun ht=>hS (hC ht).2.2) ⟨fun h=>hS (by rwa [getD_set_ne true hiz]at h),H⟩
  have h1:=H.2 j (ready_mono hj sD);obtain⟨lF,oj,eY,vh⟩:=mem_ready.1 hj
  have e7:∀ e∈oj.after,Region.binds md e=true→e.on≠i:=fun e he hb Za=>by
   have h1:=vh e he hb;have h0:=(mem_ready.1 hr).1;rw[Za]at h1
   rcases Nat.lt_or_ge i L.size with h' | h'
   ·simp[h']at h0 h1;rw[h0]at h1;cases h1
   ·simp[Array.getElem?_eq_none h']at h1
  have h2:=wpOp_putIf eY (hfree j oj eY sD lF e7) (fun cs b=>hsel i oi cs b hi) (fun cs b=>hsel j oj cs b eY) hQ hy h1
  refine wpOp_mono (fun a' w' h3=>?_) h2
  obtain⟨V9,uN,hW⟩:=h3
  have e2:((L.setIfInBounds i true).setIfInBounds j true).getD z true=(L.setIfInBounds j true).getD z true:=by
   rw[Array.setIfInBounds_comm _ _ (Ne.symm sD)]
   exact getD_set_ne true hiz
  rw[e2]at uN
  refine⟨uN,ih (L.setIfInBounds j true) a' w' (fun ht=>?_) ?_ (ready_mono hr (Ne.symm sD)) V9 uN ?_⟩
  ·obtain⟨c1,c2,c3⟩:=hC ht;have V0:j≠z:=fun h=>(hT ht).1 L c1 (mem_ready.1 hr).1 (h ▸ hj)
   exact⟨c1.step hj,by simp[c2],by rw[getD_set_ne true V0];exact c3⟩
  ·intro k ok hk eL hun lr
   refine hfree k ok hk eL ?_ lr
   by_cases uD:j=k
   ·subst uD;exact lF
   ·rw[getD_set_ne true uD]at hun;exact hun
  ·rw[Array.setIfInBounds_comm _ _ sD]
   exact hW
theorem WaysZ.take {i:Nat}{oi:Oper}{v:Value}{n:Nat}{L:Array Bool}{a:Act}{w:World}(hi:ops[i]? = some oi)
  (hs:(Region.noSelect ops&&(Region.free md ops L i&&((Region.ready md ops L).contains i&&(qm md ops L&&(i != z&&((decide (L.size=ops.size)&&(decide (z<ops.size) && !(L.getD z true)))&&(match ops[z]? with | some o=>o.after.any fun e=>Region.binds md e&&po md ops 8 e.on i | none=>false)))))))=true)
  (hQ:∀ c a w,Q (.panic c) (a.put oi.dst v) w→Q (.panic c) a w) (hy:YieldsIf P ops S oi v a) (hS:S w)
  (h:WaysZ P md ops Q S z n (L.setIfInBounds i true) (a.put oi.dst v) w):WaysZ P md ops Q S z (n+1) L a w:=by
 simp only[Bool.and_eq_true,decide_eq_true_eq]at hs
 obtain⟨h1,h2,h3,h4,h5,⟨h7,h8,h9⟩,h6⟩:=hs
 refine WaysZ.first (T:=false) hi (Region.noSelect_spec h1) hQ (fun _=>⟨fc 8 h6,h8⟩) (by simpa using h5) n L a w (fun _=>⟨nN h4,h7,by simpa using h9⟩) (Region.free_spec hi h2) (by simpa using h3) ?_ (fun _=>hS) h
 simpa using hy
theorem WaysZ.takeT {i:Nat}{oi:Oper}{v:Value}{n:Nat}{L:Array Bool}{a:Act}{w:World}(hi:ops[i]? = some oi)
  (hs:(Region.noSelect ops&&(Region.free md ops L i&&((Region.ready md ops L).contains i&&i != z)))=true)
  (hQ:∀ c a w,Q (.panic c) (a.put oi.dst v) w→Q (.panic c) a w) (hy:YieldsIf P ops (fun _=>True) oi v a) (hS:L.getD z true=false→S w)
  (h:WaysZ P md ops Q S z n (L.setIfInBounds i true) (a.put oi.dst v) w):WaysZ P md ops Q S z (n+1) L a w:=by
 simp only[Bool.and_eq_true]at hs
 obtain⟨h1,h2,h3,h5⟩:=hs
 refine WaysZ.first (T:=true) hi (Region.noSelect_spec h1) hQ (fun h=>by cases h) (by simpa using h5) n L a w (fun h=>by cases h) (Region.free_spec hi h2) (by simpa using h3) ?_ hS h
 simpa using hy
theorem WaysZ.one {i:Nat}{o:Oper}{n:Nat}{L:Array Bool}{a:Act}{w:World}(hi:ops[i]? = some o) (hr:Region.ready md ops L=[i])
  (h:∀ K:Act→World→Prop,Shut (∀ a w,((L.setIfInBounds i true).getD z true=false→S w)→(((L.setIfInBounds i true).getD z true=false→S w)→WaysZ P md ops Q S z n (L.setIfInBounds i true) a w)→K a w)→
   if Region.wanted o (yielded ops a.tmps)=true then Oper.wp P o a w K Q else K (a.put o.dst undef) w):WaysZ P md ops Q S z (n+1) L a w:=by
 refine⟨fun h0=>(by rw[hr]at h0;cases h0),fun j hj=>?_⟩
 rw[hr]at hj;have sD:j=i:=by simpa using hj
 subst sD
 exact wpOp_step hi fun K hK=>h K fun a w hS hW=>hK a w ⟨hS,hW hS⟩
theorem WaysZ.two {i j:Nat}{o o':Oper}{n:Nat}{L:Array Bool}{a:Act}{w:World}(hi:ops[i]? = some o) (hj:ops[j]? = some o') (hr:Region.ready md ops L=[i,j])
  (h:∀ K:Act→World→Prop,Shut (∀ a w,((L.setIfInBounds i true).getD z true=false→S w)→(((L.setIfInBounds i true).getD z true=false→S w)→WaysZ P md ops Q S z n (L.setIfInBounds i true) a w)→K a w)→
   if Region.wanted o (yielded ops a.tmps)=true then Oper.wp P o a w K Q else K (a.put o.dst undef) w)
  (h':∀ K:Act→World→Prop,Shut (∀ a w,((L.setIfInBounds j true).getD z true=false→S w)→(((L.setIfInBounds j true).getD z true=false→S w)→WaysZ P md ops Q S z n (L.setIfInBounds j true) a w)→K a w)→
   if Region.wanted o' (yielded ops a.tmps)=true then Oper.wp P o' a w K Q else K (a.put o'.dst undef) w):WaysZ P md ops Q S z (n+1) L a w:=by
 refine⟨fun h0=>(by rw[hr]at h0;cases h0),fun k hk=>?_⟩
 rw[hr]at hk
 rcases(by simpa using hk:k=i∨k=j) with hk | hk
 ·subst hk
  exact wpOp_step hi fun K hK=>h K fun a w hS hW=>hK a w ⟨hS,hW hS⟩
 ·subst hk
  exact wpOp_step hj fun K hK=>h' K fun a w hS hW=>hK a w ⟨hS,hW hS⟩
theorem WaysZ.done {L:Array Bool}{a:Act}{w:World}{n:Nat}(hr:Region.ready md ops L=[]) (h:Q .normal a w):WaysZ P md ops Q S z n L a w:=by
 cases n with
 | zero=>exact⟨hr,h⟩
 | succ n=>exact⟨fun _=>h,by rw[hr];simp⟩
theorem yt {id:Nat}{a:Act}{w:World}(z:Nat) (S:World→Prop) (hm:P.follows .mixedOrders=true) (hS:S w.drew)
  (h:S w.drew→WaysZ P .any ops Q S z ops.size (Array.replicate ops.size false) a w.drew):(Code.region id ops true).wp P Q a w :=
 wp_region_any hm (WaysZ.any _ _ _ _ (h hS))
end
def u8 (n:Nat):UInt8:=UInt8.ofNat n
theorem sw (n:Nat):(u8 n).toNat=n%256:=by simp[u8]
theorem xA (n:Nat):zD (u8 n)=.int .u8 ((n%256:Nat):Int):=by simp[zD,sw]
theorem Xh (x:Int) (n:Nat) (h:x=((n%256:Nat):Int)):Value.int .u8 x=zD (u8 n):=by rw[xA,h]
def be8 (n:Nat):Nat→List UInt8
 | 0=>[]
 | k+1=>be8 n k++[u8 (n/2 ^ (56-8*k))]
theorem vR (n k:Nat):(be8 n k).length=k:=by induction k <;> simp[be8, *]
def zm (m n:Nat):List UInt8 :=
 if n<24 then [u8 (m*32+n)]
 else if n<256 then [u8 (m*32+24),u8 n]
 else if n<65536 then [u8 (m*32+25),u8 (n/256),u8 n]
 else if n<4294967296 then [u8 (m*32+26),u8 (n/16777216),u8 (n/65536),u8 (n/256),u8 n]
 else u8 (m*32+27)::be8 n 8
theorem zh (m n:Nat):(zm m n).length=if n<24 then 1 else if n<256 then 2 else if n<65536 then 3 else if n<4294967296 then 5 else 9:=by
 unfold zm
 repeat' split
 all_goals simp[vR]
theorem ss (m n:Nat):1≤(zm m n).length∧(zm m n).length≤9:=by
 rw[zh]
 repeat' split
 all_goals omega
theorem fj (a:Nat) (ha:a<256):(BitVec.ofInt 8 (a:Int)).toNat=a:=by
 rw[BitVec.ofInt_natCast,BitVec.toNat_ofNat];exact Nat.mod_eq_of_lt (by omega)
theorem ae (a b:Nat) (ha:a<256) (hb:b<256):bits .or .u8 (a:Int) (b:Int)=((a ||| b:Nat):Int):=by
 have hx:a ||| b<2 ^ 8:=Nat.or_lt_two_pow (by omega) (by omega);show IntKind.u8.wrap ((BitVec.ofInt 8 (a:Int) ||| BitVec.ofInt 8 (b:Int)).toNat:Int)=_
 rw[BitVec.toNat_or,fj a ha,fj b hb,IntKind.wrap_u8]
 omega
theorem W7 (m n:Nat) (hn:n<32):m*32 ||| n=m*32+n:=by
 have h:=Nat.two_pow_add_eq_or_of_lt (i:=5) (b:=n) (by omega) m;rw[show 2 ^ 5*m=m*32 by omega]at h
 exact h.symm
theorem np (m n:Nat) (hm:m<8) (hn:n<32):bits .or .u8 ((m:Int)*32) (n:Int)=((m*32+n:Nat):Int):=by
 have h:=ae (m*32) n (by omega) (by omega);rw[W7 m n hn]at h
 simpa using h
def isNaN (n:Nat):Bool:=n/2 ^ 52%2048==2047&&n%2 ^ 52 != 0
def yg (n eb mb:Nat):Option Nat :=
 let sign:=n/2 ^ 63*2 ^ (eb+mb)
 let e:=n/2 ^ 52%2048
 let m:=n%2 ^ 52
 let top:=2 ^ eb-1
 let bias:=2 ^ (eb-1)-1
 if e=2047 then(if m=0 then some (sign+top*2 ^ mb) else none)
 else if e=0 then(if m=0 then some sign else none)
 else if 1023+top≤e+bias then none
 else if 1023<e+bias then(if m%2 ^ (52-mb)=0 then some (sign+(e+bias-1023)*2 ^ mb+m/2 ^ (52-mb)) else none)
 else
  let shift:=53-mb+(1023-e-bias)
  if 52<shift then none else if(m+2 ^ 52)%2 ^ shift=0 then some (sign+(m+2 ^ 52)/2 ^ shift) else none
def zF (n:Nat):List UInt8 :=
 if isNaN n then [u8 249,u8 126,u8 0] else
 match yg n 5 10 with
 | some v=>[u8 249,u8 (v/256),u8 v]
 | none=>match yg n 8 23 with
  | some v=>[u8 250,u8 (v/16777216),u8 (v/65536),u8 (v/256),u8 v]
  | none=>u8 251::be8 n 8
theorem rY (n:Nat):(zF n).length=3∨(zF n).length=5∨(zF n).length=9:=by
 unfold zF
 repeat' split
 all_goals simp[vR]
def numP (x:Itm):Nat :=
 if x.kind=2∨x.kind=3 then x.bytes.length else if x.kind=4 then x.items.length else if x.kind=5 then x.items.length/2 else x.n
mutual
def zd:Itm→List UInt8
 | .mk k n bs l =>
  if k=8 then zF n
  else if k=7∧24≤n then [u8 248,u8 n]
  else zm k.toNat (numP (.mk k n bs l))++bs++zB l
def zB:List Itm→List UInt8
 | []=>[]
 | x::l=>zd x++zB l
end
theorem sq (l m:List Itm):zB (l++m)=zB l++zB m:=by
 induction l with
 | nil=>rw[List.nil_append,zB,List.nil_append]
 | cons x l ih=>rw[List.cons_append,zB,zB,ih,List.append_assoc]
theorem tf (l:List Itm) (k:Nat) (h:k<l.length):zB (l.take (k+1))=zB (l.take k)++zd l[k]:=by
 rw[List.take_succ_eq_append_getElem h,sq,zB,zB,List.append_nil]
theorem xf (x:Itm):zd x=if x.kind=8 then zF x.n else if x.kind=7∧24≤x.n then [u8 248,u8 x.n] else zm x.kind.toNat (numP x)++x.bytes++zB x.items:=by
 cases x
 rw[zd];rfl
theorem nO (l:List Itm) (k:Nat):(zB (l.take k)).length≤(zB l).length:=by
 have h:=sq (l.take k) (l.drop k);rw[List.take_append_drop]at h;rw[h]
 simp
mutual
def Kinds:Itm→Prop
 | .mk k _ _ l=>(0≤k∧k≤8)∧KindsL l
def KindsL:List Itm→Prop
 | []=>True
 | x::l=>Kinds x∧KindsL l
end
theorem Kinds.kind {x:Itm}(h:Kinds x):0≤x.kind∧x.kind≤8:=by cases x;rw[Kinds]at h;exact h.1
theorem Kinds.items {x:Itm}(h:Kinds x):KindsL x.items:=by cases x;rw[Kinds]at h;exact h.2
theorem KindsL.get:∀ {l:List Itm},KindsL l→∀ (k:Nat) (hk:k<l.length),Kinds l[k]
 | [],_,k,hk=>by simp at hk
 | x::l,h,0,_=>by rw[KindsL]at h;exact h.1
 | x::l,h,k+1,hk=>by rw[KindsL]at h;exact h.2.get k (by simpa using hk)
mutual
def cnt:Itm→Nat
 | .mk _ _ _ l=>wG l+1
def wG:List Itm→Nat
 | []=>0
 | x::l=>cnt x+wG l
end
theorem fS:∀ (l:List Itm) (k:Nat) (hk:k<l.length),cnt l[k]≤wG l
 | [],k,hk=>by simp at hk
 | x::l,0,_=>by rw[wG];simp
 | x::l,k+1,hk=>by
  have:=fS l k (by simpa using hk);rw[wG]
  simp only[List.getElem_cons_succ]
  omega
theorem xP (x:Itm) (k:Nat) (hk:k<x.items.length):cnt x.items[k]<cnt x:=by
 cases x with
 | mk a b c l =>
  have:=fS l k hk;rw[cnt]
  simp only[Itm.items]
  omega
def zT:Nat:=9221120237041090560
def yZ (x:Itm):Bool:=x.kind==0||x.kind==1||x.kind==2||x.kind==3||x.kind==7||x.kind==8
def yq (x:Itm):Bool :=
 if x.kind=0∨x.kind=1 then x.bytes.isEmpty&&x.items.isEmpty
 else if x.kind=2 then x.n==0&&x.items.isEmpty
 else if x.kind=3 then x.n==0&&x.items.isEmpty&&Lib.validD x.bytes
 else if x.kind=7 then x.bytes.isEmpty&&x.items.isEmpty&&(decide (x.n<24)||decide (32≤x.n)&&decide (x.n<256))
 else if x.kind=8 then x.bytes.isEmpty&&x.items.isEmpty&&(!isNaN x.n||x.n==zT)
 else false
def yr (x:Itm):Nat :=
 if x.kind=8 then(zF x.n).length else if x.kind=7 then(if 24≤x.n then 2 else 1) else(zm x.kind.toNat (numP x)).length+x.bytes.length
def xX:List Itm→Bool
 | a::b::c::l=>decide (Lib.compareBytes (zd a) (zd c)<0)&&xX (c::l)
 | _=>true
theorem sP (l:List Itm) (j:Nat) (h2:2≤j) (h:j<l.length) :
  xX (l.drop (j-2))=(decide (Lib.compareBytes (zd (l[j-2]'(by omega))) (zd l[j])<0)&&xX (l.drop j)):=by
 have e1:l.drop (j-2)=l[j-2]'(by omega)::l.drop (j-1):=by
  rw[List.drop_eq_getElem_cons (by omega)];rw[show j-2+1=j-1 by omega]
 have e2:l.drop (j-1)=l[j-1]'(by omega)::l.drop j:=by
  rw[List.drop_eq_getElem_cons (by omega)];rw[show j-1+1=j by omega]
 have e3:l.drop j=l[j]::l.drop (j+1):=List.drop_eq_getElem_cons h;rw[e1,e2,e3,xX]
theorem ph (l:List Itm) (j:Nat) (h2:2≤j) (h:l.length≤j):xX (l.drop (j-2))=true:=by
 have hl:(l.drop (j-2)).length≤2:=by rw[List.length_drop];omega
 match l.drop (j-2),hl with
 | [],_=>rfl
 | [_],_=>rfl
 | [_,_],_=>rfl
 | _::_::_::_,h=>simp at h
def vj (x:Itm) (lv:Nat):Bool :=
 decide (4≤x.kind∧x.kind≤6∧lv<8∧x.bytes.length=0∧(x.kind=6→x.items.length=1)∧(x.kind≠6→x.n=0)∧(x.kind=5→x.items.length%2=0))
mutual
def chk:Itm→Nat→Nat→Nat→Option (Nat×Nat)
 | .mk k n bs l,lv,i,s =>
  if 256<i+1∨4096<bs.length∨256<l.length then none
  else if yZ (.mk k n bs l)=true then(if yq (.mk k n bs l)=true∧s+yr (.mk k n bs l)≤4096 then some (i+1,s+yr (.mk k n bs l)) else none)
  else if vj (.mk k n bs l) lv=false then none
  else if 4096<s+yr (.mk k n bs l) then none
  else match sJ l (lv+1) (i+1) (s+yr (.mk k n bs l)) with
   | none=>none
   | some p=>if k=5∧xX l=false then none else some p
def sJ:List Itm→Nat→Nat→Nat→Option (Nat×Nat)
 | [],_,i,s=>some (i,s)
 | x::l,lv,i,s=>match chk x lv i s with
  | none=>none
  | some p=>sJ l lv p.1 p.2
end
theorem mv (x:Itm) (lv i s:Nat):chk x lv i s =
  if 256<i+1∨4096<x.bytes.length∨256<x.items.length then none
  else if yZ x=true then(if yq x=true∧s+yr x≤4096 then some (i+1,s+yr x) else none)
  else if vj x lv=false then none
  else if 4096<s+yr x then none
  else match sJ x.items (lv+1) (i+1) (s+yr x) with
   | none=>none
   | some p=>if x.kind=5∧xX x.items=false then none else some p:=by
 cases x
 rw[chk];rfl
theorem z8 (x:Itm):yZ x=true↔x.kind=0∨x.kind=1∨x.kind=2∨x.kind=3∨x.kind=7∨x.kind=8:=by
 simp[yZ]
 omega
theorem jA (x:Itm) (h:x.items=[]) (h8:x.kind=8∨x.kind=7→x.bytes=[]):yr x=(zd x).length:=by
 rw[xf,yr]
 by_cases h1:x.kind=8
 ·rw[if_pos h1,if_pos h1]
 rw[if_neg h1,if_neg h1]
 by_cases h2:x.kind=7
 ·rw[if_pos h2]
  by_cases h3:24≤x.n
  ·rw[if_pos h3,if_pos ⟨h2,h3⟩];rfl
  ·have hn:numP x=x.n:=by simp[numP,h2]
   rw[if_neg h3,if_neg (by omega),h8 (.inr h2),h,zB,hn,zm,if_pos (by omega)];rfl
 ·rw[if_neg h2,if_neg (by omega),h,zB]
  simp
theorem mq (x:Itm) (h8:x.kind≠8) (h7:x.kind≠7):yr x=(zm x.kind.toNat (numP x)).length+x.bytes.length:=by
 rw[yr,if_neg h8,if_neg h7]
theorem x8 {x:Itm}{lv:Nat}(h:vj x lv=true):4≤x.kind∧x.kind≤6∧lv<8∧x.bytes.length=0∧(x.kind=6→x.items.length=1)∧(x.kind≠6→x.n=0)∧(x.kind=5→x.items.length%2=0) :=
 of_decide_eq_true h
theorem xp {x:Itm}(hp:yZ x=true) (ho:yq x=true):x.items=[]∧(x.kind=8∨x.kind=7→x.bytes=[]):=by
 rw[z8]at hp
 unfold yq at ho
 rcases hp with h | h | h | h | h | h <;> simp[h]at ho⊢ <;> simp[ho]
mutual
theorem kW:∀ (x:Itm) (lv i s:Nat) (p:Nat×Nat),chk x lv i s=some p→Kinds x∧p=(i+cnt x,s+(zd x).length)∧p.1≤256∧p.2≤4096
 | .mk k n bs l,lv,i,s,p,h=>by
  rw[chk]at h
  split at h
  ·cases h
  rename_i h0
  split at h
  ·rename_i hp
   split at h
   ·rename_i ho
    obtain⟨hi,hb⟩:=xp hp ho.1;have hk:=(z8 _).1 hp;have hs:=jA (.mk k n bs l) hi hb
    simp only[Itm.items,Itm.kind]at hi hk
    subst hi;injection h with h
    subst h;rw[← hs]
    refine⟨?_, ?_, ?_, ?_⟩
    ·rw[Kinds,KindsL];exact⟨by omega,trivial⟩
    ·rw[cnt,wG]
    ·simp only;omega
    ·exact ho.2
   ·cases h
  rename_i hp
  split at h
  ·cases h
  rename_i hf
  split at h
  ·cases h
  rename_i h4
  have Pt:=x8 (by simpa using hf)
  simp only[Itm.kind,Itm.bytes,Itm.items,List.length_eq_zero_iff]at Pt
  split at h
  ·cases h
  rename_i q hq
  split at h
  ·cases h
  injection h with h
  subst h;obtain⟨hk,nJ,h1,h2⟩:=mf l _ _ _ _ hq (by omega) (by omega);have nE:=mq (.mk k n bs l) (by simp only[Itm.kind];omega) (by simp only[Itm.kind];omega)
  simp only[Itm.kind,Itm.bytes]at nE
  rw[Pt.2.2.2.1]at nE
  refine⟨by rw[Kinds];exact⟨by omega,hk⟩, ?_,h1,h2⟩
  rw[nJ,cnt,zd,if_neg (by omega),if_neg (by omega),Pt.2.2.2.1,nE]
  simp only[List.length_append,List.length_nil,Prod.mk.injEq]
  omega
theorem mf:∀ (l:List Itm) (lv i s:Nat) (p:Nat×Nat),sJ l lv i s=some p→i≤256→s≤4096→KindsL l∧p=(i+wG l,s+(zB l).length)∧p.1≤256∧p.2≤4096
 | [],lv,i,s,p,h,hi,hs=>by
  rw[sJ]at h;injection h with h
  subst h;rw[KindsL,wG,zB]
  exact⟨trivial,rfl,hi,hs⟩
 | x::l,lv,i,s,p,h,hi,hs=>by
  rw[sJ]at h
  split at h
  ·cases h
  rename_i q hq
  obtain⟨hk,nJ,h1,h2⟩:=kW x _ _ _ _ hq;obtain⟨so,hp,h3,h4⟩:=mf l _ _ _ _ h h1 h2
  refine⟨by rw[KindsL];exact⟨hk,so⟩, ?_,h3,h4⟩
  rw[hp,nJ,wG,zB]
  simp
  omega
end
def yW (x:Itm):Bool:=(chk x 0 0 0).isSome
theorem uW {x:Itm}(h:yW x=true):Kinds x∧cnt x≤256∧(zd x).length≤4096:=by
 obtain⟨p,hp⟩:=Option.isSome_iff_exists.1 h;obtain⟨hk,he,h1,h2⟩:=kW _ _ _ _ _ hp;subst he
 simp only at h1 h2
 exact⟨hk,by omega,by omega⟩
mutual
def Modest:Itm→Prop
 | .mk _ _ bs l=>bs.length≤1099511627776∧l.length≤1099511627776∧ModestL l
def ModestL:List Itm→Prop
 | []=>True
 | x::l=>Modest x∧ModestL l
end
theorem Modest.parts {x:Itm}(h:Modest x):x.bytes.length≤1099511627776∧x.items.length≤1099511627776∧ModestL x.items:=by cases x;rw[Modest]at h;exact h
theorem ModestL.get:∀ {l:List Itm},ModestL l→∀ (k:Nat) (hk:k<l.length),Modest l[k]
 | [],_,k,hk=>by simp at hk
 | x::l,h,0,hk=>by rw[ModestL]at h;exact h.1
 | x::l,h,k+1,hk=>by rw[ModestL]at h;exact h.2.get k (by simpa using hk)
theorem ModestL.of:∀ {l:List Itm},(∀ x∈l,Modest x)→ModestL l
 | [],_=>by rw[ModestL];trivial
 | x::l,h=>by rw[ModestL];exact⟨h x (by simp),ModestL.of fun y hy=>h y (by simp[hy])⟩
abbrev zt:Itm:=.mk 0 0 [] []
theorem mX {x:Itm}(h:yW x=true) (h5:x.kind=5):x.items.length%2=0:=by
 obtain⟨p,hp⟩:=Option.isSome_iff_exists.1 h;rw[mv]at hp
 split at hp
 ·cases hp
 split at hp
 ·rename_i h1
  rw[z8]at h1
  omega
 split at hp
 ·cases hp
 ·rename_i h1
  exact(x8 (by simpa using h1)).2.2.2.2.2.2 h5
theorem we {x:Itm}(h:yW x=true):x.bytes.length≤4096∧x.items.length≤256∧KindsL x.items∧(zB x.items).length≤4096:=by
 obtain⟨hk,hc,he⟩:=uW h;obtain⟨p,hp⟩:=Option.isSome_iff_exists.1 h;rw[mv]at hp
 split at hp
 ·cases hp
 rename_i h0
 refine⟨by omega,by omega,hk.items, ?_⟩
 split at hp
 ·rename_i h1
  split at hp
  ·rename_i h2
   rw[(xp h1 h2.1).1]
   simp[zB]
  ·cases hp
 split at hp
 ·cases hp
 rename_i h1
 have:=x8 (by simpa using h1);rw[xf,if_neg (by omega),if_neg (by omega)]at he
 simp only[List.length_append]at he
 omega
mutual
theorem jv:∀ (x:Itm) (lv i s:Nat) (p:Nat×Nat),chk x lv i s=some p→Modest x
 | .mk k n bs l,lv,i,s,p,h=>by
  rw[chk]at h
  split at h
  ·cases h
  rename_i h0
  rw[Modest]
  refine⟨by omega,by omega, ?_⟩
  split at h
  ·rename_i h1
   split at h
   ·rename_i h2
    rw[show l=[] from(xp h1 h2.1).1,ModestL];trivial
   ·cases h
  split at h
  ·cases h
  split at h
  ·cases h
  split at h
  ·cases h
  ·rename_i q hq
   exact mK l _ _ _ _ hq
theorem mK:∀ (l:List Itm) (lv i s:Nat) (p:Nat×Nat),sJ l lv i s=some p→ModestL l
 | [],_,_,_,_,_=>by rw[ModestL];trivial
 | x::l,lv,i,s,p,h=>by
  rw[sJ]at h
  split at h
  ·cases h
  ·rename_i q hq
   rw[ModestL]
   exact⟨jv x _ _ _ _ hq,mK l _ _ _ _ h⟩
end
theorem uo {x:Itm}(h:yW x=true):Modest x:=by
 obtain⟨p,hp⟩:=Option.isSome_iff_exists.1 h
 exact jv _ _ _ _ _ hp
def zX (n:Int):Itm:=if n<0 then .mk 1 (-1-n).toNat [] [] else .mk 0 n.toNat [] []
structure Ad where
 ba:Option Addr
 bc:Nat
 ia:Option Addr
 ic:Nat
def Tabs (H:Snap):Prop:=∀ w,Holds w H→Lib.Utf8Tabs 0 1 w
theorem Tabs.mono {H K:Snap}(h:Tabs H) (hl:H.le K):Tabs K:=fun w hw=>h w (hw.mono hl)
theorem cO (l:List UInt8) (i:Nat):(l.map fun u=>(u.toNat:Int)).getD i 0=((l.getD i 0).toNat:Int):=by
 simp[List.getD]
 cases h:l[i]? <;> simp
theorem lu (l:List UInt8):strOfNums (l.map fun u=>(u.toNat:Int))=⟨l.toArray⟩:=by
 have h:(fun n:Int=>UInt8.ofNat n.toNat) ∘ (fun u:UInt8=>(u.toNat:Int))=id:=by funext u;simp
 unfold strOfNums
 simp[h]
theorem vl {w:World}{A:Option Addr}{l:List UInt8}(h:Src w A (l.map zD)) (n c:Nat) (hn:n=l.length) :
  (convert 23 9 (.slice A n c)).run Tryz.prog w=.ok (.string ⟨l.toArray⟩) w:=by
 subst hn
 by_cases hl:l=[]
 ·subst hl
  cases A with
  | none=>exact run_convert_bytes_nil w _ 5 Tryz.underlying23 Tryz.underlying5 _ _ _ Tryz.underlying9
  | some a =>
   obtain⟨b,off,spot⟩:=a;rw[run_convert_bytes_string w _ _ 5 _ _ c Tryz.underlying23 Tryz.underlying5 Tryz.underlying9];rfl
 ·obtain⟨b,off,rfl,hc⟩:=h (by simpa using hl)
  have:=run_convert_bytes_arg (P:=Tryz.prog) w 23 5 Tryz.underlying23 Tryz.underlying5 b off l.length c (l.map fun u=>(u.toNat:Int)) (by simp)
   (fun i hi=>by rw[cO,hc i (zD l[i]) (by simp[hi])];simp[List.getD,hi]) _ Tryz.underlying9
  rw[this,lu]
theorem eZ (w:World) (A B:Option Addr) (a b:List UInt8) (n m c d:Nat) (hn:n=a.length) (hm:m=b.length) (ha:Src w A (a.map zD)) (hb:Src w B (b.map zD)) :
  Calls Tryz.prog 69 #[.slice A n c,.slice B m d] w fun e w'=>e=.returned (.bool (a==b))∧w=w':=by
 have h1:=vl ha n c hn;have h2:=vl hb m d hm;clear hn hm ha hb;go_enter Tryz.func69,Tryz.ntmps69
 go_wp2
 go_ret
 exact⟨rfl,rfl⟩
theorem ol {P:Program}{w:World}(b:Nat):∀ (l:List UInt8) (off:Nat) (acc:ByteArray),(∀ j v,(l.map zD)[j]? = some v→w.cell? ⟨b,off+j,none⟩=some v)→
  (Extern.Bytes.loadBytes ⟨b,off,none⟩ l.length acc).run P w=.ok ⟨acc.data++l.toArray⟩ w
 | [],off,acc,_=>by simp[Extern.Bytes.loadBytes]
 | u::l,off,acc,h=>by
  have h0:=h 0 (zD u) rfl;have ih:=ol (P:=P) b l (off+1) (acc.push u) (fun j v hj=>by rw[show off+1+j=off+(j+1) by omega];exact h (j+1) v (by simpa using hj))
  simp only[List.length_cons,Extern.Bytes.loadBytes]
  simp[load,Sem.run,Result.andThen,zD]at h0⊢
  simp[h0,nV,ByteArray.push]
  rw[show(⟨acc.data.push u⟩:ByteArray)=acc.push u from rfl,ih];congr 2
  simp[ByteArray.push]
theorem mT {P:Program}{w:World}{A:Option Addr}{l:List UInt8}(h:Src w A (l.map zD)) (n c:Nat) (hn:n=l.length) :
  (Extern.Bytes.bytesOf (.slice A n c)).run P w=.ok ⟨l.toArray⟩ w:=by
 subst hn
 by_cases hl:l=[]
 ·subst hl
  cases A with
  | none=>rfl
  | some a=>rfl
 ·obtain⟨b,off,rfl,hc⟩:=h (by simpa using hl);have:=ol (P:=P) b l off .empty hc
  simp only[Extern.Bytes.bytesOf]
  rw[this]
  simp[ByteArray.empty,ByteArray.emptyWithCapacity]
  rfl
theorem fF {P:Program}{w:World}{A B:Option Addr}{a b:List UInt8}(ha:Src w A (a.map zD)) (hb:Src w B (b.map zD)) (n m c d:Nat) (hn:n=a.length) (hm:m=b.length) :
  (Extern.BytealgCompare.compare #[.slice A n c,.slice B m d]).run P w=.ok (.int .i64 (Lib.compareBytes a b)) w:=by
 change Sem.run P (do pure (goInt (Extern.BytealgCompare.cmp (← Extern.Bytes.bytesOf (.slice A n c)) (← Extern.Bytes.bytesOf (.slice B m d))))) w=_
 simp only[Sem.run_bind,Sem.run_pure,Result.andThen,mT ha n c hn,mT hb m d hm]
 rw[Lib.cmp_eq];rfl
theorem tH (w:World) (A B:Option Addr) (a b:List UInt8) (n m c d:Nat) (hn:n=a.length) (hm:m=b.length) (ha:Src w A (a.map zD)) (hb:Src w B (b.map zD)) :
  Calls Tryz.prog 57 #[.slice A n c,.slice B m d] w fun e w'=>e=.returned (.int .i64 (Lib.compareBytes a b))∧w=w':=by
 have h1:=Hh (fF (P:=Tryz.prog) ha hb n m c d hn hm);clear hn hm ha hb;go_enter Tryz.func57,Tryz.ntmps57
 go_wp2
 rw[run_callFunc_extern Tryz.func74 (by kernel_rfl) (by kernel_rfl) (by kernel_rfl) (e:=Extern.BytealgCompare.compare) (by kernel_rfl),h1.out]
 simp only[Result.andThen]
 rw[Oper.upon_value];go_wp2
 go_ret
 exact⟨rfl,rfl⟩
theorem vV (w:World) (A:Option Addr) (l:List UInt8) (n c:Nat) (hn:n=l.length) (hl:l.length≤1099511627776) (hs:Src w A (l.map zD)) :
  Calls Tryz.prog 40 #[.slice A n c] w fun e w'=>∃ r,e=.returned r∧Fresh w l r w':=by
 cases A with
 | none =>
  have h0:l=[]:=by
   cases l with
   | nil=>rfl
   | cons a l=>obtain⟨b,off,h,_⟩:=hs (by simp);cases h
  subst h0;have he:=fun w:World=>Lib.run_eql_slice_nil (P:=Tryz.prog) w _ _ none n c 0 0 Tryz.underlying23
  clear hn hl;go_enter Tryz.func40,Tryz.ntmps40
  go_wp2
  go_ret
  exact⟨_,rfl,OwnB.nil _ _,Below.refl _ _⟩
 | some a =>
  have he:=fun w:World=>Lib.run_eql_slice_nil (P:=Tryz.prog) w _ _ (some a) n c 0 0 Tryz.underlying23
  simp only[Option.isNone]at he
  have HN:=Hh hn;clear hn;go_enter Tryz.func40,Tryz.ntmps40
  go_wp2_with (at_builtin;refine ye ?_)
  unfold yE
  have h0:OwnB (w.alloc (.cells #[] 5)) w.heap.size (.slice (some ⟨w.heap.size,0,none⟩) 0 0) []:=OwnB.lit w _ [] #[] 0 rfl rfl (Nat.le_refl _) (by simp)
  refine zO rfl (.tmp 5) (.tmp 6) rfl w.heap.size _ [] rfl h0 (some a) n c l rfl HN.out ?_ (by simpa using hl) (by simp) ?_
  ·exact hs.alloc _
  intro v' w' vq hg _
  have hf:Fresh w l v' w':=⟨by rw[List.nil_append]at vq;exact vq,(zi w _).grown hg (by simp) (fun k hk=>(h0.lt k hk).1)⟩
  clear vq hg h0;go_wp2
  go_ret
  exact⟨_,rfl,hf⟩
theorem i8 (w:World) (A:Option Addr) (l:List UInt8) (n c:Nat) (hn:n=l.length) (hl:l.length≤1099511627776) (hs:Src w A (l.map zD)) :
  Calls Tryz.prog 88 #[.slice A n c] w fun e w'=>∃ r,e=.returned r∧Fresh w l r w':=by
 cases A with
 | none =>
  have h0:l=[]:=by
   cases l with
   | nil=>rfl
   | cons a l=>obtain⟨b,off,h,_⟩:=hs (by simp);cases h
  subst h0;have he:=fun w:World=>Lib.run_eql_slice_nil (P:=Tryz.prog) w _ _ none n c 0 0 Tryz.underlying23
  clear hn hl;go_enter Tryz.func88,Tryz.ntmps88
  go_wp2
  go_ret
  exact⟨_,rfl,OwnB.nil _ _,Below.refl _ _⟩
 | some a =>
  have he:=fun w:World=>Lib.run_eql_slice_nil (P:=Tryz.prog) w _ _ (some a) n c 0 0 Tryz.underlying23
  simp only[Option.isNone]at he
  have HN:=Hh hn;clear hn;go_enter Tryz.func88,Tryz.ntmps88
  go_wp2_with (at_builtin;refine ye ?_)
  unfold yE
  have h0:OwnB (w.alloc (.cells #[] 5)) w.heap.size (.slice (some ⟨w.heap.size,0,none⟩) 0 0) []:=OwnB.lit w _ [] #[] 0 rfl rfl (Nat.le_refl _) (by simp)
  refine zO rfl (.tmp 5) (.tmp 6) rfl w.heap.size _ [] rfl h0 (some a) n c l rfl HN.out ?_ (by simpa using hl) (by simp) ?_
  ·exact hs.alloc _
  intro v' w' vq hg _
  have hf:Fresh w l v' w':=⟨by rw[List.nil_append]at vq;exact vq,(zi w _).grown hg (by simp) (fun k hk=>(h0.lt k hk).1)⟩
  clear vq hg h0;go_wp2
  go_ret
  exact⟨_,rfl,hf⟩
theorem IsItem.plain (H:Snap) (k:Int) (n:Nat) (hk : -9223372036854775808≤k∧k≤9223372036854775807) (hn:n<18446744073709551616):IsItem H none 0 none 0 (.mk k n [] []):=by
 rw[IsItem]
 exact⟨⟨hk.1,hk.2,hn,Nat.le_refl _,by omega⟩,IsBytes.nil H,fun h=>absurd h (by simp)⟩
theorem Gives.plain {w w':World}{H:Snap}{k n:Int}{m:Nat}(hH:Holds w H) (hb:Below w.heap.size w w') (hk : -9223372036854775808≤k∧k≤9223372036854775807) (hm:m<18446744073709551616) (hn:n=(m:Int)) :
  Gives w H (.mk k m [] []) (.agg #[.int .i64 k,.int .u64 n,.slice none 0 0,.slice none 0 0]) w':=by
 subst hn
 exact⟨none,0,none,0,H,rfl,Grows.of_below hH hb,IsItem.plain H k m hk hm⟩
theorem Fresh.gives {w w1:World}{H:Snap}{l:List UInt8}{r:Value}{k:Int}(hH:Holds w H) (h:Fresh w l r w1) (hk : -9223372036854775808≤k∧k≤9223372036854775807) :
  Gives w H (.mk k 0 l []) (.agg #[.int .i64 k,.int .u64 0,r,.slice none 0 0]) w1:=by
 obtain⟨A,c,rfl,_⟩:=h.own.form;obtain⟨H',hl,hh,hf,_,hi⟩:=h.own.snap (hH.below h.2 (Nat.le_refl _)) (fun g hg=>hH.none_of_ge (h.own.lt g (by cases A <;> simp_all [Value.ownBlock])).1)
 refine⟨A,c,none,0,H',rfl,⟨h.2,hl,hh,fun b o hb=>?_⟩, ?_⟩
 ·rcases hf b o hb with h1 | h1
  ·exact .inl h1
  ·exact .inr (h.own.lt b (by cases A <;> simp_all [Value.ownBlock])).1
 ·rw[IsItem]
  exact⟨⟨hk.1,hk.2,by omega,Nat.le_refl _,by omega⟩,hi,fun h=>absurd h (by simp)⟩
theorem Grows.own {w wA w1 w':World}{H H':Snap}{g:Nat}(hA:Below w.heap.size w wA) (hH:Holds w H) (h:Grows wA H w1 H') (hg:w1.grownBy w' (some g)) (h1:w.heap.size≤g) (h2:g<wA.heap.size):Grows w H w' H' :=
 ⟨(hA.trans (h.below.mono hA.size)).grown hg (Nat.le_trans hA.size h.below.size) (by rintro k ⟨⟩;exact h1),h.le,h.holds.grown hg (by rintro k ⟨⟩;exact h.none (hH.none_of_ge h1) h2),fun b o hb=>by
  rcases h.fresh b o hb with h | h
  ·exact .inl h
  ·exact .inr (Nat.le_trans hA.size h)⟩
theorem Gives.own {w wA w1 w':World}{H:Snap}{x:Itm}{v:Value}{g:Nat}(hA:Below w.heap.size w wA) (hH:Holds w H) (h:Gives wA H x v w1) (hg:w1.grownBy w' (some g)) (h1:w.heap.size≤g) (h2:g<wA.heap.size):Gives w H x v w':=by
 obtain⟨ba,bc,ia,ic,H',e,hG,hi⟩:=h
 exact⟨ba,bc,ia,ic,H',e,hG.own hA hH hg h1 h2,hi⟩
theorem wu (a b c d:Value) (ha:a.oneCell'=true) (hb:b.oneCell'=true) (hc:c.oneCell'=true) (hd:d.oneCell'=true):(#[a,b,c,d]:Array Value).all (·.oneCell')=true:=by simp[ha,hb,hc,hd]
theorem Zv (n:Nat) (hn:n<18446744073709551616) {H:Snap}(w:World) (hH:Holds w H) :
  Calls Tryz.prog 87 #[.int .u64 n] w fun e w'=>∃ v,e=.returned v∧Gives w H (.mk 0 n [] []) v w':=by
 have HN:=Hh hn;clear hn;go_enter Tryz.func87,Tryz.ntmps87
 go_wp2_with fail
 refine yN rfl rfl (Blk.new _ _ _) rfl rfl zw rfl ?_
 exact⟨_,rfl,Gives.plain hH (zi _ _) (by omega) HN.out rfl⟩
theorem wU (n:Int) (h1 : -9223372036854775808≤n) (h2:n≤9223372036854775807) {H:Snap}(w:World) (hH:Holds w H) :
  Calls Tryz.prog 71 #[.int .i64 n] w fun e w'=>∃ v,e=.returned v∧Gives w H (zX n) v w':=by
 by_cases h0:n<0
 ·have E:Hid (zX n=.mk 1 (-1-n).toNat [] []∧(-1-n).toNat<18446744073709551616∧-1-n=((-1-n).toNat:Int)):=⟨by rw[zX,if_pos h0],by omega,by omega⟩
  have K1:IntKind.u64.wrap (-1-n) = -1-n:=by rw[IntKind.wrap_u64];omega
  have K0:IntKind.i64.wrap (-1-n) = -1-n:=IntWalk.i64_in _ (by omega);clear h1 h2;go_enter Tryz.func71,Tryz.ntmps71
  go_wp2_with fail
  refine yN rfl rfl (Blk.new _ _ _) rfl rfl zw rfl ?_
  rw[E.out.1]
  exact⟨_,rfl,Gives.plain hH (zi _ _) (by omega) E.out.2.1 E.out.2.2⟩
 ·have E:Hid (zX n=.mk 0 n.toNat [] []∧n.toNat<18446744073709551616∧n=(n.toNat:Int)):=⟨by rw[zX,if_neg h0],by omega,by omega⟩
  have K1:IntKind.u64.wrap n=n:=by rw[IntKind.wrap_u64];omega
  have U:=Hh (Zv n.toNat E.out.2.1 (w.alloc (.cells #[.int .i64 0,.int .u64 0,.slice none 0 0,.slice none 0 0] 26)) (hH.alloc _));rw[← E.out.2.2]at U;have hn:=Int.not_lt.1 h0;clear h1 h2 h0;go_enter Tryz.func71,Tryz.ntmps71
  go_wp2_with fail
  refine U.out.mono ?_
  rintro e w1 ⟨v,rfl,hg⟩
  have HG:=Hh hg;obtain⟨ba,bc,ia,ic,H',rfl,hg,hi⟩:=hg;have hB:=(Blk.new w 26 #[.int .i64 0,.int .u64 0,.slice none 0 0,.slice none 0 0]).below hg.below;go_wp2_with (with_reducible refine zx ?_)
  refine zc rfl _ _ _ rfl rfl _ _ rfl rfl _ _ hB zw rfl (wu _ _ _ _ rfl rfl rfl rfl) fun w2 yu yp=>?_
  go_wp2_with fail
  refine yN rfl rfl yu rfl rfl zw rfl ?_
  rw[E.out.1]
  exact⟨_,rfl,HG.out.own (zi _ _) hH yp (Nat.le_refl _) (by simp)⟩
theorem oC {A:Option Addr}{n c:Nat}{l:List UInt8}(hn:n=l.length) (hl:l.length≤1099511627776) {H:Snap}(w:World) (hs:Src w A (l.map zD)) (hH:Holds w H) :
  Calls Tryz.prog 73 #[.slice A n c] w fun e w'=>∃ v,e=.returned v∧Gives w H (.mk 2 0 l []) v w':=by
 have C:=Hh (i8 (w.alloc (.cells #[.int .i64 0,.int .u64 0,.slice none 0 0,.slice none 0 0] 26)) A l n c hn hl (hs.alloc _));clear hn;go_enter Tryz.func73,Tryz.ntmps73
 go_wp2_with fail
 refine C.out.mono ?_
 rintro e w1 ⟨r,rfl,hf⟩
 have hB:=(Blk.new w 26 #[.int .i64 0,.int .u64 0,.slice none 0 0,.slice none 0 0]).below hf.2;have HF:=Hh (hf.gives (k:=2) (hH.alloc (.cells #[.int .i64 0,.int .u64 0,.slice none 0 0,.slice none 0 0] 26)) (by omega));obtain⟨A',c',rfl,_⟩:=hf.own.form;go_wp2_with (with_reducible refine zx ?_)
 refine zc rfl _ _ _ rfl rfl _ _ rfl rfl _ _ hB zw rfl (wu _ _ _ _ rfl rfl rfl rfl) fun w2 yu yp=>?_
 go_wp2_with fail
 refine yN rfl rfl yu rfl rfl zw rfl ?_
 exact⟨_,rfl,HF.out.own (zi _ _) hH yp (Nat.le_refl _) (by simp)⟩
theorem ef {w:World}{H:Snap}(hH:Holds w H) (s:ByteArray) (hl:s.size≤1099511627776) :
  ∃ g c w',(convert 9 23 (.string s)).run Tryz.prog w=.ok (.slice (some ⟨g,0,none⟩) s.size c) w'∧Below w.heap.size w w'∧∃ H',Grows w H w' H'∧IsBytes H' (some ⟨g,0,none⟩) c s.data.toList:=by
 refine⟨_,_,_,run_bytes_of_string (P:=Tryz.prog) w 9 23 5 s Tryz.underlying9 Tryz.underlying23 Tryz.underlying5, ?_, ?_⟩
 ·exact(Below.refl _ _).drew.alloc (Nat.le_refl _) _
 ·obtain⟨o,ho⟩:∃ o,o=Obj.cells (bytesRow s (grownCap w s.size 0 5)) 5 ((bytesRow s (grownCap w s.size 0 5)).size,(bytesRow s (grownCap w s.size 0 5)).size+1):=⟨_,rfl⟩
  rw[← ho];have h0:H w.heap.size=none:=hH.none_of_ge (Nat.le_refl _)
  refine⟨H.with w.heap.size o,⟨(Below.refl _ _).drew.alloc (Nat.le_refl _) _,Snap.le_with h0,(hH.drew.alloc o).with (heap_alloc_new w.drew o),fun b x hb=>?_⟩, ?_, ?_, ?_⟩
  ·unfold Snap.with at hb
   split at hb
   ·subst b;exact .inr (Nat.le_refl _)
   ·exact .inl hb
  ·simpa using grownCap_ge w s.size 0 5
  ·have:=grownCap_le_maxLen w s.size 0 5 (by simp only[maxLen];omega)
   simpa [maxLen] using this
  ·refine fun _=>⟨w.heap.size,0,rfl,fun j v hj=>?_⟩
   have pB:j<s.data.size:=by
    have:=(List.getElem?_eq_some_iff.1 hj).1
    simpa using this
   subst ho
   simp only[Snap.cell?,Snap.with,if_true,Nat.zero_add,Option.isSome,Bool.false_eq_true,if_false]
   rw[bytesRow_at s _ j pB]
   simp at hj
   obtain⟨a,h1,h2⟩:=hj;rw[Array.getElem?_eq_getElem pB]at h1;injection h1 with h1
   rw[h1,← h2]
def xZ (x:Itm) (lv:Nat):Bool:=if yZ x=true then yq x else vj x lv
mutual
def Good:Itm→Nat→Prop
 | .mk k n bs l,lv=>xZ (.mk k n bs l) lv=true∧GoodL l (lv+1)∧(k=5→xX l=true)
def GoodL:List Itm→Nat→Prop
 | [],_=>True
 | x::l,lv=>Good x lv∧GoodL l lv
end
theorem Good.node {x:Itm}{lv:Nat}(h:Good x lv):xZ x lv=true:=by cases x;rw[Good]at h;exact h.1
theorem Good.items {x:Itm}{lv:Nat}(h:Good x lv):GoodL x.items (lv+1):=by cases x;rw[Good]at h;exact h.2.1
theorem Good.asc {x:Itm}{lv:Nat}(h:Good x lv) (h5:x.kind=5):xX x.items=true:=by cases x;rw[Good]at h;exact h.2.2 h5
theorem Good.of {x:Itm}{lv:Nat}(h1:xZ x lv=true) (h2:GoodL x.items (lv+1)) (h3:x.kind=5→xX x.items=true):Good x lv:=by cases x;rw[Good];exact⟨h1,h2,h3⟩
theorem GoodL.get:∀ {l:List Itm}{lv:Nat},GoodL l lv→∀ x∈l,Good x lv
 | [],_,_,x,hx=>by cases hx
 | y::l,lv,h,x,hx=>by
  rw[GoodL]at h
  rcases List.mem_cons.1 hx with rfl | hx
  ·exact h.1
  ·exact h.2.get x hx
theorem xL {x:Itm}{lv:Nat}(h:xZ x lv=true):(yZ x=true∧yq x=true)∨(yZ x=false∧vj x lv=true):=by
 unfold xZ at h
 cases hp:yZ x with
 | true=>rw[if_pos hp]at h;exact .inl ⟨rfl,h⟩
 | false=>rw[if_neg (by simp[hp])]at h;exact .inr ⟨rfl,h⟩
theorem rp {x:Itm}{lv:Nat}(h:xZ x lv=true):0≤x.kind∧x.kind≤8:=by
 rcases xL h with ⟨h1,_⟩ | ⟨_,h1⟩
 ·rw[z8]at h1;omega
 ·have:=x8 h1;omega
theorem cX {x:Itm}{lv lv':Nat}(h:vj x lv=true) (hl:lv'≤lv):vj x lv'=true:=by
 obtain⟨h1,h2,h3,h4⟩:=x8 h
 exact decide_eq_true ⟨h1,h2,by omega,h4⟩
theorem aR {x:Itm}{lv lv':Nat}(h:xZ x lv=true) (hl:lv'≤lv):xZ x lv'=true:=by
 rcases xL h with ⟨h1,h2⟩ | ⟨h1,h2⟩
 ·rw[xZ,if_pos h1];exact h2
 ·rw[xZ,if_neg (by simp[h1])];exact cX h2 hl
mutual
theorem Good.le:∀ {x:Itm}{lv lv':Nat},Good x lv→lv'≤lv→Good x lv'
 | .mk k n bs l,lv,lv',h,hl=>by
  rw[Good]at h⊢
  exact⟨aR h.1 hl,GoodL.le h.2.1 (by omega),h.2.2⟩
theorem GoodL.le:∀ {l:List Itm}{lv lv':Nat},GoodL l lv→lv'≤lv→GoodL l lv'
 | [],_,_,_,_=>by rw[GoodL];trivial
 | x::l,lv,lv',h,hl=>by
  rw[GoodL]at h⊢
  exact⟨Good.le h.1 hl,GoodL.le h.2 hl⟩
end
theorem oL {x:Itm}{lv:Nat}(h:xZ x lv=true) (hp:yZ x=true):x.items=[]∧(x.kind=8∨x.kind=7→x.bytes=[]):=by
 rcases xL h with ⟨_,h2⟩ | ⟨h1,_⟩
 ·exact xp hp h2
 ·rw[hp]at h1;cases h1
theorem na {x:Itm}{lv:Nat}(h:xZ x lv=true):(zd x).length=yr x+(zB x.items).length:=by
 cases hp:yZ x with
 | true =>
  obtain⟨h1,h2⟩:=oL h hp;rw[← jA x h1 h2,h1,zB];simp
 | false =>
  rcases xL h with ⟨h1,_⟩ | ⟨_,h2⟩
  ·rw[hp]at h1;cases h1
  ·have hf:=x8 h2;rw[xf,if_neg (by omega),if_neg (by omega),mq x (by omega) (by omega)]
   simp;omega
theorem mV {x:Itm}{lv:Nat}(h:xZ x lv=true):x.bytes.length≤yr x:=by
 by_cases h8:x.kind=8
 ·have:=(oL h ((z8 x).2 (by omega))).2 (by omega);rw[this];simp
 by_cases h7:x.kind=7
 ·have:=(oL h ((z8 x).2 (by omega))).2 (by omega);rw[this];simp
 rw[mq x h8 h7];omega
theorem nW:∀ l:List Itm,l.length≤wG l
 | []=>by simp[wG]
 | x::l=>by
  have:=nW l;have h:0<cnt x:=by cases x;rw[cnt];omega
  rw[wG];simp;omega
theorem pm (x:Itm):cnt x=wG x.items+1:=by cases x;rw[cnt];rfl
mutual
theorem fR:∀ (x:Itm) (lv i s:Nat) (p:Nat×Nat),chk x lv i s=some p→Good x lv
 | .mk k n bs l,lv,i,s,p,h=>by
  rw[chk]at h
  split at h
  ·cases h
  split at h
  ·rename_i hp
   split at h
   ·rename_i ho
    have hi:=(xp hp ho.1).1;have hk:=(z8 _).1 hp
    simp only[Itm.items,Itm.kind]at hi hk
    subst hi;rw[Good,GoodL]
    exact⟨by rw[xZ,if_pos hp];exact ho.1,trivial,fun h=>by omega⟩
   ·cases h
  rename_i hp
  split at h
  ·cases h
  rename_i hf
  split at h
  ·cases h
  split at h
  ·cases h
  rename_i q hq
  split at h
  ·cases h
  rename_i ha
  rw[Good]
  refine⟨by rw[xZ,if_neg hp];simpa using hf,ik l _ _ _ _ hq,fun h5=>?_⟩
  cases hs:xX l with
  | true=>rfl
  | false=>exact absurd ⟨h5,hs⟩ ha
theorem ik:∀ (l:List Itm) (lv i s:Nat) (p:Nat×Nat),sJ l lv i s=some p→GoodL l lv
 | [],_,_,_,_,_=>by rw[GoodL];trivial
 | x::l,lv,i,s,p,h=>by
  rw[sJ]at h
  split at h
  ·cases h
  rename_i q hq
  rw[GoodL]
  exact⟨fR x _ _ _ _ hq,ik l _ _ _ _ h⟩
end
mutual
theorem fa:∀ (x:Itm) (lv i s:Nat),Good x lv→i+cnt x≤256→s+(zd x).length≤4096→chk x lv i s=some (i+cnt x,s+(zd x).length)
 | .mk k n bs l,lv,i,s,h,hi,hs=>by
  have hn:=h.node;have Zb:=h.items;have has:=h.asc;have nE:=na hn;have gV:=mV hn;have hc:=pm (.mk k n bs l);have hl:=nW l
  simp only[Itm.items,Itm.bytes,Itm.kind]at *
  rw[chk,if_neg (by omega)]
  rcases xL hn with ⟨h1,h2⟩ | ⟨h1,h2⟩
  ·have h0:=(xp h1 h2).1
   simp only[Itm.items]at h0
   subst h0;rw[zB]at nE;rw[wG]at hc
   simp only[List.length_nil]at nE
   rw[if_pos h1,if_pos ⟨h2,by omega⟩,hc,nE];congr 2
  ·rw[if_neg (by simp[h1]),if_neg (by simp[h2]),if_neg (by omega),it l (lv+1) (i+1) _ Zb (by omega) (by omega)]
   simp only
   rw[if_neg (by rintro⟨h5,ha⟩;rw[has h5]at ha;cases ha)];congr 2 <;> omega
theorem it:∀ (l:List Itm) (lv i s:Nat),GoodL l lv→i+wG l≤256→s+(zB l).length≤4096→sJ l lv i s=some (i+wG l,s+(zB l).length)
 | [],lv,i,s,_,_,_=>by rw[sJ,wG,zB];rfl
 | x::l,lv,i,s,h,hi,hs=>by
  rw[GoodL]at h;rw[wG]at hi⊢;rw[zB]at hs⊢
  simp only[List.length_append]at hs⊢
  rw[sJ,fa x lv i s h.1 (by omega) (by omega)]
  simp only
  rw[it l lv _ _ h.2 (by omega) (by omega)];congr 2 <;> omega
end
theorem uz (x:Itm):yW x=true↔Good x 0∧cnt x≤256∧(zd x).length≤4096:=by
 constructor
 ·intro h
  obtain⟨p,hp⟩:=Option.isSome_iff_exists.1 h;have:=uW h
  exact⟨fR _ _ _ _ _ hp,this.2.1,this.2.2⟩
 ·rintro⟨h1,h2,h3⟩
  rw[yW,fa x 0 0 0 h1 (by omega) (by omega)];rfl
mutual
def Small:Itm→Prop
 | .mk _ _ bs l=>bs.length≤4096∧SmallL l
def SmallL:List Itm→Prop
 | []=>True
 | x::l=>Small x∧SmallL l
end
def zZ (x:Itm) (d m:Nat):Bool:=xZ x d&&decide (x.bytes.length≤4096)&&decide (x.items.length≤m)
mutual
def zN:Itm→Nat→Nat→Option Nat
 | .mk k n bs l,c,d =>
  if c<1 then none
  else if zZ (.mk k n bs l) d (c-1)=false then none
  else match zL l (c-1) (d+1) with
   | none=>none
   | some r=>if k=5∧xX l=false then none else some r
def zL:List Itm→Nat→Nat→Option Nat
 | [],c,_=>some c
 | x::l,c,d=>match zN x c d with
  | none=>none
  | some r=>zL l r d
end
theorem y7 (x:Itm) (c d:Nat):zN x c d =
  if c<1 then none
  else if zZ x d (c-1)=false then none
  else match zL x.items (c-1) (d+1) with
   | none=>none
   | some r=>if x.kind=5∧xX x.items=false then none else some r:=by
 cases x
 rw[zN];rfl
theorem kH {x:Itm}{d m:Nat}(h:zZ x d m=true):xZ x d=true∧x.bytes.length≤4096∧x.items.length≤m:=by
 simpa [zZ,and_assoc] using h
mutual
theorem vw:∀ (x:Itm) (c d r:Nat),zN x c d=some r→Good x d∧Small x∧r+cnt x=c
 | .mk k n bs l,c,d,r,h=>by
  rw[zN]at h
  split at h
  ·cases h
  split at h
  ·cases h
  rename_i hn
  obtain⟨h1,h2,h3⟩:=kH (by simpa using hn)
  split at h
  ·cases h
  rename_i q hq
  split at h
  ·cases h
  rename_i ha
  injection h with h
  subst h;obtain⟨g1,g2,g3⟩:=tP l _ _ _ hq;rw[Good,Small,cnt]
  refine⟨⟨h1,g1,fun h5=>?_⟩,⟨h2,g2⟩,by omega⟩
  cases hs:xX l with
  | true=>rfl
  | false=>exact absurd ⟨h5,hs⟩ ha
theorem tP:∀ (l:List Itm) (c d r:Nat),zL l c d=some r→GoodL l d∧SmallL l∧r+wG l=c
 | [],c,d,r,h=>by
  rw[zL]at h;injection h with h
  subst h;rw[GoodL,SmallL,wG]
  exact⟨trivial,trivial,rfl⟩
 | x::l,c,d,r,h=>by
  rw[zL]at h
  split at h
  ·cases h
  rename_i q hq
  obtain⟨h1,h2,h3⟩:=vw x _ _ _ hq;obtain⟨g1,g2,g3⟩:=tP l _ _ _ h;rw[GoodL,SmallL,wG]
  exact⟨⟨h1,g1⟩,⟨h2,g2⟩,by omega⟩
end
mutual
theorem iz:∀ (x:Itm) (c d:Nat),Good x d→Small x→cnt x≤c→zN x c d=some (c-cnt x)
 | .mk k n bs l,c,d,h,hs,hc=>by
  have hn:=h.node;have Zb:=h.items;have has:=h.asc;have Jr:=pm (.mk k n bs l);have hl:=nW l;rw[Small]at hs
  simp only[Itm.items,Itm.bytes,Itm.kind]at *
  have hr:zZ (.mk k n bs l) d (c-1)=true:=by
   have e2:l.length≤c-1:=by omega
   simp[zZ,hn,Itm.bytes,Itm.items,hs.1,e2]
  rw[zN,if_neg (by omega),if_neg (by simp[hr]),jx l (c-1) (d+1) Zb hs.2 (by omega)]
  simp only
  rw[if_neg (by rintro⟨h5,ha⟩;rw[has h5]at ha;cases ha)];congr 1;omega
theorem jx:∀ (l:List Itm) (c d:Nat),GoodL l d→SmallL l→wG l≤c→zL l c d=some (c-wG l)
 | [],c,d,_,_,_=>by rw[zL,wG];rfl
 | x::l,c,d,h,hs,hc=>by
  rw[GoodL]at h;rw[SmallL]at hs;rw[wG]at hc⊢;rw[zL,iz x c d h.1 hs.1 (by omega)]
  simp only
  rw[jx l _ d h.2 hs.2 (by omega)];congr 1;omega
end
mutual
theorem Good.small:∀ {x:Itm}{lv:Nat},Good x lv→(zd x).length≤4096→Small x
 | .mk k n bs l,lv,h,hl=>by
  have h1:=na h.node;have h2:=mV h.node;have h3:=h.items
  simp only[Itm.items,Itm.bytes]at *
  rw[Small]
  exact⟨by omega,GoodL.small h3 (by omega)⟩
theorem GoodL.small:∀ {l:List Itm}{lv:Nat},GoodL l lv→(zB l).length≤4096→SmallL l
 | [],_,_,_=>by rw[SmallL];trivial
 | x::l,lv,h,hl=>by
  rw[GoodL]at h;rw[zB]at hl
  simp only[List.length_append]at hl
  rw[SmallL]
  exact⟨Good.small h.1 (by omega),GoodL.small h.2 (by omega)⟩
end
theorem YM {x:Itm}{lv:Nat}(h:xZ x lv=true):yr x≤x.bytes.length+9:=by
 unfold yr
 split
 ·have:=rY x.n;omega
 split
 ·split <;> omega
 ·have:=(ss x.kind.toNat (numP x)).2;omega
mutual
theorem Good.bytes:∀ {x:Itm}{lv:Nat},Good x lv→Small x→(zd x).length≤cnt x*4105
 | .mk k n bs l,lv,h,hs=>by
  have h1:=na h.node;have h2:=YM h.node;have h3:=h.items;have h4:=pm (.mk k n bs l);rw[Small]at hs
  simp only[Itm.items,Itm.bytes]at *
  have:=GoodL.bytes h3 hs.2
  omega
theorem GoodL.bytes:∀ {l:List Itm}{lv:Nat},GoodL l lv→SmallL l→(zB l).length≤wG l*4105
 | [],_,_,_=>by rw[zB,wG];simp
 | x::l,lv,h,hs=>by
  rw[GoodL]at h;rw[SmallL]at hs;rw[zB,wG];have h1:=Good.bytes h.1 hs.1;have h2:=GoodL.bytes h.2 hs.2
  simp only[List.length_append]
  omega
end
def iI (x:Itm):Bool:=(zN x 256 0).isSome&&decide ((zd x).length≤4096)
theorem ag (x:Itm):iI x=yW x:=by
 rw[Bool.eq_iff_iff,uz];constructor
 ·intro h
  simp only[iI,Bool.and_eq_true,decide_eq_true_eq]at h
  obtain⟨r,hr⟩:=Option.isSome_iff_exists.1 h.1;obtain⟨h1,h2,h3⟩:=vw _ _ _ _ hr
  exact⟨h1,by omega,h.2⟩
 ·rintro⟨h1,h2,h3⟩
  simp only[iI,Bool.and_eq_true,decide_eq_true_eq]
  rw[iz x 256 0 h1 (h1.small h3) h2]
  exact⟨rfl,h3⟩
theorem sr:∀ a:List UInt8,Lib.compareBytes a a=0
 | []=>by rw[Lib.compareBytes]
 | x::a=>by rw[Lib.compareBytes,if_neg (UInt8.lt_irrefl x),if_neg (UInt8.lt_irrefl x)];exact sr a
theorem mg:∀ a b c:List UInt8,Lib.compareBytes a b<0→Lib.compareBytes b c<0→Lib.compareBytes a c<0
 | [],[],c,h,_=>by rw[Lib.compareBytes]at h;omega
 | [],y::b,[],_,h=>by rw[Lib.compareBytes]at h;omega
 | [],y::b,z::c,_,_=>by rw[Lib.compareBytes];omega
 | x::a,[],c,h,_=>by rw[Lib.compareBytes]at h;omega
 | x::a,y::b,[],_,h=>by rw[Lib.compareBytes]at h;omega
 | x::a,y::b,z::c,h,k=>by
  rw[Lib.compareBytes]at h k⊢
  by_cases h1:x<y
  ·by_cases h2:y<z
   ·have h3:x<z:=UInt8.lt_trans h1 h2;rw[if_pos h3];omega
   ·rw[if_neg h2]at k
    by_cases h3:z<y
    ·rw[if_pos h3]at k;omega
    ·have e:y=z:=UInt8.toNat_inj.1 (by rw[UInt8.lt_iff_toNat_lt]at h2 h3;omega);subst e;rw[if_pos h1];omega
  ·rw[if_neg h1]at h
   by_cases h2:y<x
   ·rw[if_pos h2]at h;omega
   ·rw[if_neg h2]at h;have e:x=y:=UInt8.toNat_inj.1 (by rw[UInt8.lt_iff_toNat_lt]at h1 h2;omega);subst e
    by_cases h3:x<z
    ·rw[if_pos h3];omega
    ·rw[if_neg h3]at k⊢
     by_cases h4:z<x
     ·rw[if_pos h4]at k;omega
     ·rw[if_neg h4]at k⊢
      exact mg a b c h k
def W9:List Itm→List (Itm×Itm)
 | a::b::r=>(a,b)::W9 r
 | _=>[]
mutual
def rz:Itm→Itm→Bool
 | .mk k n bs l,.mk k' n' bs' l'=>k==k'&&n==n'&&bs==bs'&&uK l l'
def uK:List Itm→List Itm→Bool
 | [],[]=>true
 | x::l,y::m=>rz x y&&uK l m
 | _,_=>false
end
mutual
theorem j9:∀ (x y:Itm),rz x y=true↔x=y
 | .mk k n bs l,.mk k' n' bs' l'=>by
  rw[rz]
  simp only[Bool.and_eq_true,beq_iff_eq,mo l l',Itm.mk.injEq,and_assoc]
theorem mo:∀ (l m:List Itm),uK l m=true↔l=m
 | [],[]=>by simp[uK]
 | [],y::m=>by simp[uK]
 | x::l,[]=>by simp[uK]
 | x::l,y::m=>by
  rw[uK]
  simp only[Bool.and_eq_true,j9 x y,mo l m,List.cons.injEq]
end
def qK (x:Itm):Nat:=if x.kind=8 then 7 else x.kind.toNat
theorem cZ (m n:Nat):∃ a t,zm m n=u8 (m*32+a)::t∧a<28:=by
 unfold zm
 repeat' split
 all_goals exact⟨_,_,rfl,by omega⟩
theorem pc (n:Nat):∃ a t,zF n=u8 (7*32+a)::t∧25≤a∧a<28:=by
 unfold zF
 repeat' split
 ·exact⟨25,_,rfl,by omega⟩
 ·exact⟨25,_,rfl,by omega⟩
 ·exact⟨26,_,rfl,by omega⟩
 ·exact⟨27,_,rfl,by omega⟩
theorem im (x:Itm) (h:0≤x.kind∧x.kind≤8):∃ a t,zd x=u8 (qK x*32+a)::t∧a<28:=by
 rw[xf,qK]
 by_cases h8:x.kind=8
 ·obtain⟨a,t,e,h1,h2⟩:=pc x.n;rw[if_pos h8,if_pos h8]
  exact⟨a,t,e,h2⟩
 rw[if_neg h8,if_neg h8]
 by_cases h7:x.kind=7∧24≤x.n
 ·rw[if_pos h7,h7.1]
  exact⟨24,[u8 x.n],rfl,by omega⟩
 ·rw[if_neg h7];obtain⟨a,t,e,h2⟩:=cZ x.kind.toNat (numP x);rw[e]
  exact⟨a,_,by rw[List.cons_append,List.cons_append],h2⟩
theorem U3 {x y:Itm}(hx:0≤x.kind∧x.kind≤8) (hy:0≤y.kind∧y.kind≤8) {r s:List UInt8}(h:zd x++r=zd y++s):qK x=qK y:=by
 obtain⟨a,t,e,ha⟩:=im x hx;obtain⟨b,v,f,hb⟩:=im y hy;rw[e,f,List.cons_append,List.cons_append]at h;injection h with h _
 have h':=congrArg UInt8.toNat h;rw[sw,sw]at h';have h1:qK x≤7:=by unfold qK;split <;> omega
 have h2:qK y≤7:=by unfold qK;split <;> omega
 omega
theorem nj {a b c d:UInt8}{r s:List UInt8}(h:a::b::r=c::d::s):a=c∧b=d∧r=s:=by
 injection h with h1 h
 injection h with h2 h
 exact⟨h1,h2,h⟩
theorem vY {a b:Nat}(h:u8 a=u8 b):a%256=b%256:=by
 have:=congrArg UInt8.toNat h;rwa [sw,sw]at this
def ti (n:Nat):Nat:=if n<24 then n else if n<256 then 24 else if n<65536 then 25 else if n<4294967296 then 26 else 27
def rv (n:Nat):List UInt8:=if n<24 then [] else if n<256 then [u8 n] else if n<65536 then [u8 (n/256),u8 n] else if n<4294967296 then [u8 (n/16777216),u8 (n/65536),u8 (n/256),u8 n] else be8 n 8
theorem sG (m n:Nat):zm m n=u8 (m*32+ti n)::rv n:=by
 unfold zm ti rv
 repeat' split
 all_goals rfl
theorem fb (n:Nat):ti n<28:=by
 unfold ti
 repeat' split
 all_goals omega
theorem j0 (n:Nat):(rv n).length=if ti n<24 then 0 else if ti n=24 then 1 else if ti n=25 then 2 else if ti n=26 then 4 else 8:=by
 unfold ti rv
 by_cases h1:n<24
 ·simp[h1]
 by_cases h2:n<256
 ·simp[h1,h2]
 by_cases h3:n<65536
 ·simp[h1,h2,h3]
 by_cases h4:n<4294967296
 ·simp[h1,h2,h3,h4]
 ·simp[h1,h2,h3,h4,vR]
theorem YS {n m:Nat}(hn:n<18446744073709551616) (hm:m<18446744073709551616) (h:be8 n 8=be8 m 8):n=m:=by
 simp only[be8,List.nil_append,List.cons_append,List.cons.injEq]at h
 obtain⟨h0,h1,h2,h3,h4,h5,h6,h7,_⟩:=h;have h0:=vY h0;have h1:=vY h1;have h2:=vY h2;have h3:=vY h3;have h4:=vY h4;have h5:=vY h5;have h6:=vY h6;have h7:=vY h7
 simp only[Nat.reduceMul,Nat.reduceSub,Nat.reducePow,Nat.sub_zero,Nat.mul_zero]at *
 have g0:n/72057594037927936=m/72057594037927936:=by omega
 have g1:n/281474976710656=m/281474976710656:=by omega
 have g2:n/1099511627776=m/1099511627776:=by omega
 have g3:n/4294967296=m/4294967296:=by omega
 have g4:n/16777216=m/16777216:=by omega
 have g5:n/65536=m/65536:=by omega
 have g6:n/256=m/256:=by omega
 omega
theorem Xs {n m:Nat}(hn:n<18446744073709551616) (hm:m<18446744073709551616) (hx:ti n=ti m) (h:rv n=rv m):n=m:=by
 unfold ti at hx
 unfold rv at h
 by_cases a1:n<24
 ·simp only[a1,if_true]at hx
  repeat' split at hx
  all_goals omega
 by_cases a2:n<256
 ·have b1:¬ m<24:=by intro k;simp only[a1,a2,k,if_true,if_false]at hx;omega
  have b2:m<256:=by
   simp only[a1,a2,b1,if_true,if_false]at hx
   repeat' split at hx
   all_goals omega
  simp only[a1,a2,b1,b2,if_true,if_false,List.cons.injEq,and_true]at h
  have:=vY h
  omega
 by_cases a3:n<65536
 ·have b1:¬ m<24:=by intro k;simp only[a1,a2,a3,k,if_true,if_false]at hx;omega
  have b2:¬ m<256:=by intro k;simp only[a1,a2,a3,b1,k,if_true,if_false]at hx;omega
  have b3:m<65536:=by
   simp only[a1,a2,a3,b1,b2,if_true,if_false]at hx
   repeat' split at hx
   all_goals omega
  simp only[a1,a2,a3,b1,b2,b3,if_true,if_false,List.cons.injEq,and_true]at h
  have h1:=vY h.1;have h2:=vY h.2
  omega
 by_cases a4:n<4294967296
 ·have b1:¬ m<24:=by intro k;simp only[a1,a2,a3,a4,k,if_true,if_false]at hx;omega
  have b2:¬ m<256:=by intro k;simp only[a1,a2,a3,a4,b1,k,if_true,if_false]at hx;omega
  have b3:¬ m<65536:=by intro k;simp only[a1,a2,a3,a4,b1,b2,k,if_true,if_false]at hx;omega
  have b4:m<4294967296:=by
   simp only[a1,a2,a3,a4,b1,b2,b3,if_true,if_false]at hx
   repeat' split at hx
   all_goals omega
  simp only[a1,a2,a3,a4,b1,b2,b3,b4,if_true,if_false,List.cons.injEq,and_true]at h
  obtain⟨h0,h1,h2,h3⟩:=h;have h0:=vY h0;have h1:=vY h1;have h2:=vY h2;have h3:=vY h3;have g0:n/16777216=m/16777216:=by omega
  have g1:n/65536=m/65536:=by omega
  have g2:n/256=m/256:=by omega
  omega
 ·have b1:¬ m<24:=by intro k;simp only[a1,a2,a3,a4,k,if_true,if_false]at hx;omega
  have b2:¬ m<256:=by intro k;simp only[a1,a2,a3,a4,b1,k,if_true,if_false]at hx;omega
  have b3:¬ m<65536:=by intro k;simp only[a1,a2,a3,a4,b1,b2,k,if_true,if_false]at hx;omega
  have b4:¬ m<4294967296:=by intro k;simp only[a1,a2,a3,a4,b1,b2,b3,k,if_true,if_false]at hx;omega
  simp only[a1,a2,a3,a4,b1,b2,b3,b4,if_false]at h
  exact YS hn hm h
theorem a7 {a b n m:Nat}(ha:a<8) (hb:b<8) (hn:n<18446744073709551616) (hm:m<18446744073709551616) {r s:List UInt8}(h:zm a n++r=zm b m++s):a=b∧n=m∧r=s:=by
 rw[sG,sG,List.cons_append,List.cons_append]at h;injection h with h1 h2
 have h1:=vY h1;have x1:=fb n;have x2:=fb m;have hx:ti n=ti m:=by omega
 have hl:(rv n).length=(rv m).length:=by rw[j0,j0,hx]
 obtain⟨h3,h4⟩:=List.append_inj h2 hl
 exact⟨by omega,Xs hn hm hx h3,h4⟩
theorem stI {w:World}{ops:Array Oper}{rest:List Oper}{o:Oper}{a:Act}{Q:Exit→Act→World→Prop}{x y:Operand}{g:Nat}{c0 c1 c2 c3:Value}{t:TypeId}{old:Array Value}(hB:Blk w g t old)
  (h:∀ w',Blk w' g t #[c0,c1,c2,c3]→w.grownBy w' (some g)→wpList Tryz.prog ops Q rest a w')
  (hgd:o.guard=none:=by rfl) (ho:o.op=.store 26 x y:=by rfl) (hd:o.dst=none:=by rfl) (hx:a.eval x=.pointer (some ⟨g,0,none⟩):=by rfl) (hy:a.eval y=.agg #[c0,c1,c2,c3]:=by rfl) (hold:(#[c0,c1,c2,c3]:Array Value).size=old.size:=by rfl) (h1:c0.oneCell'=true:=by rfl) (h2:c1.oneCell'=true:=by rfl) (h3:c2.oneCell'=true:=by rfl) (h4:c3.oneCell'=true:=by rfl):wpList Tryz.prog ops Q (o::rest) a w :=
 zc hgd _ _ _ ho hd _ _ hx hy _ _ hB zw hold (wu _ _ _ _ h1 h2 h3 h4) h
theorem Zk {P:Program}{md:Region.Mode}{ops:Array Oper}{Q:Exit→Act→World→Prop}{z:Nat}{S:World→Prop}(i:Nat) {oi:Oper}{v:Value}{n:Nat}{L:Array Bool}{a:Act}{w:World}{a':Act}(hi:ops[i]? = some oi) (hS:S w) (h:WaysZ P md ops Q S z n (L.setIfInBounds i true) a' w)
  (hs:(Region.noSelect ops&&(Region.free md ops L i&&((Region.ready md ops L).contains i&&(qm md ops L&&(i != z&&((decide (L.size=ops.size)&&(decide (z<ops.size) && !(L.getD z true)))&&(match ops[z]? with | some o=>o.after.any fun e=>Region.binds md e&&po md ops 8 e.on i | none=>false)))))))=true:=by kernel_rfl) (hw:Region.wanted oi (yielded ops a.tmps)=true:=by rfl) (hy:∀ w,S w→Sem.run P (execOp a.eval oi) w=Result.ok (Next.value v) w:=by intro w s;(try dsimp only at s);go_simp;try with_reducible rfl) (ha:a.put oi.dst v=a':=by(try simp only[Act.put,zz1,zz2,zz3,zz4,zz5,zz6]);with_reducible rfl) (hQ:∀ c a w,Q (.panic c) (a.put oi.dst v) w→Q (.panic c) a w:=by exact fun _ _ _ h=>h):WaysZ P md ops Q S z (n+1) L a w:=by subst ha;exact WaysZ.take hi hs hQ (Or.inl ⟨hw,hy⟩) hS h
theorem ZkT {P:Program}{md:Region.Mode}{ops:Array Oper}{Q:Exit→Act→World→Prop}{z:Nat}{S:World→Prop}(i:Nat) {oi:Oper}{v:Value}{n:Nat}{L:Array Bool}{a:Act}{w:World}{a':Act}(hi:ops[i]? = some oi) (hS:L.getD z true=false→S w) (h:WaysZ P md ops Q S z n (L.setIfInBounds i true) a' w)
  (hs:(Region.noSelect ops&&(Region.free md ops L i&&((Region.ready md ops L).contains i&&i != z)))=true:=by kernel_rfl) (hw:Region.wanted oi (yielded ops a.tmps)=true:=by rfl) (hy:∀ w,(fun _=>True) w→Sem.run P (execOp a.eval oi) w=Result.ok (Next.value v) w:=by intro w s;go_simp;try with_reducible rfl) (ha:a.put oi.dst v=a':=by(try simp only[Act.put,zz1,zz2,zz3,zz4,zz5,zz6]);with_reducible rfl) (hQ:∀ c a w,Q (.panic c) (a.put oi.dst v) w→Q (.panic c) a w:=by exact fun _ _ _ h=>h):WaysZ P md ops Q S z (n+1) L a w:=by subst ha;exact WaysZ.takeT hi hs hQ (Or.inl ⟨hw,hy⟩) hS h
theorem Zo {P:Program}{md:Region.Mode}{ops:Array Oper}{Q:Exit→Act→World→Prop}{z:Nat}{S:World→Prop}(i:Nat) {o:Oper}{n:Nat}{L:Array Bool}{a:Act}{w:World}(hi:ops[i]? = some o)
  (h:∀ K:Act→World→Prop,Shut (∀ a w,((L.setIfInBounds i true).getD z true=false→S w)→(((L.setIfInBounds i true).getD z true=false→S w)→WaysZ P md ops Q S z n (L.setIfInBounds i true) a w)→K a w)→
      if Region.wanted o (yielded ops a.tmps)=true then Oper.wp P o a w K Q else K (a.put o.dst undef) w)
  (hr:Region.ready md ops L=[i]:=by kernel_rfl):WaysZ P md ops Q S z (n+1) L a w:=WaysZ.one hi hr h
end Go.Proofs.YtnlinmoiakgedaaGreatDoor
