/- squeezed. Walks of package bytes and slices: -/
import Derived.Test.YtgcjjhibdbafmabGreatDoorK00
import Derived.Laws.BytesArg
import Derived.Lib.Bytealg
import Derived.Laws.Externs
import Derived.Lib.ValidU
import Derived.Shelf.Unicode.DecodeSlow
import Derived.Laws.IdiomStrings
import Derived.Deep.DeepCutAuto
import Derived.Deep.CutBlock
import Derived.Laws.BitsAllLaws
set_option linter.unusedVariables false
set_option linter.unusedSimpArgs false
set_option maxRecDepth 100000
set_option maxHeartbeats 3200000
namespace Go.Proofs.YtgcjjhibdbafmabGreatDoor
open Go.RowKit
theorem Zw (l:List UInt8) (i:Nat):(l.map fun u=>(u.toNat:Int)).getD i 0=((l.getD i 0).toNat:Int):=by
 simp[List.getD]
 cases h:l[i]? <;> simp
theorem kY (l:List UInt8):strOfNums (l.map fun u=>(u.toNat:Int))=⟨l.toArray⟩:=by
 have h:(fun n:Int=>UInt8.ofNat n.toNat) ∘ (fun u:UInt8=>(u.toNat:Int))=id:=by funext u;simp
 unfold strOfNums
 simp[h]
theorem xe {w:World}{A:Option Addr}{l:List UInt8}(h:Src w A (l.map zI)) (n c:Nat) (hn:n=l.length) :
  (convert 22 9 (.slice A n c)).run Tryz.prog w=.ok (.string ⟨l.toArray⟩) w:=by
 subst hn
 by_cases hl:l=[]
 ·subst hl
  cases A with
  | none=>exact run_convert_bytes_nil w _ 5 Tryz.underlying22 Tryz.underlying5 _ _ _ Tryz.underlying9
  | some a =>
  obtain⟨b,off,spot⟩:=a;rw[run_convert_bytes_string w _ _ 5 _ _ c Tryz.underlying22 Tryz.underlying5 Tryz.underlying9];rfl
 obtain⟨b,off,rfl,hc⟩:=h (by simpa using hl)
 have:=run_convert_bytes_arg (P:=Tryz.prog) w 22 5 Tryz.underlying22 Tryz.underlying5 b off l.length c (l.map fun u=>(u.toNat:Int)) (by simp)
  (fun i hi=>by rw[Zw,hc i (zI l[i]) (by simp[hi])];simp[List.getD,hi]) _ Tryz.underlying9
 rw[this,kY]
theorem lD (w:World) (A B:Option Addr) (a b:List UInt8) (n m c d:Nat) (hn:n=a.length) (hm:m=b.length) (ha:Src w A (a.map zI)) (hb:Src w B (b.map zI)) :
  Calls Tryz.prog 74 #[.slice A n c,.slice B m d] w fun e w'=>e=.returned (.bool (a==b))∧w=w':=by
 have h1:=xe ha n c hn;have h2:=xe hb m d hm;clear hn hm ha hb;go_enter Tryz.func74,Tryz.ntmps74
 go_wp2
 go_ret
 exact⟨rfl,rfl⟩
theorem oP {P:Program}{w:World}(b:Nat):∀ (l:List UInt8) (off:Nat) (acc:ByteArray),(∀ j v,(l.map zI)[j]? = some v→w.cell? ⟨b,off+j,none⟩=some v)→
  (Extern.Bytes.loadBytes ⟨b,off,none⟩ l.length acc).run P w=.ok ⟨acc.data++l.toArray⟩ w
 | [],off,acc,_=>by simp[Extern.Bytes.loadBytes]
 | u::l,off,acc,h=>by
  have h0:=h 0 (zI u) rfl;have ih:=oP (P:=P) b l (off+1) (acc.push u) (fun j v hj=>by rw[show off+1+j=off+(j+1) by omega];exact h (j+1) v (by simpa using hj))
  simp only[List.length_cons,Extern.Bytes.loadBytes]
  simp[load,Sem.run,Result.andThen,zI]at h0⊢
  simp[h0,mh,ByteArray.push]
  rw[show(⟨acc.data.push u⟩:ByteArray)=acc.push u from rfl,ih];congr 2
  simp[ByteArray.push]
theorem lV {P:Program}{w:World}{A:Option Addr}{l:List UInt8}(h:Src w A (l.map zI)) (n c:Nat) (hn:n=l.length) :
  (Extern.Bytes.bytesOf (.slice A n c)).run P w=.ok ⟨l.toArray⟩ w:=by
 subst hn
 by_cases hl:l=[]
 ·subst hl
  cases A with
  | none=>rfl
  | some a=>rfl
 obtain⟨b,off,rfl,hc⟩:=h (by simpa using hl);have:=oP (P:=P) b l off .empty hc
 simp only[Extern.Bytes.bytesOf]
 rw[this]
 simp[ByteArray.empty,ByteArray.emptyWithCapacity]
 rfl
theorem dI {P:Program}{w:World}{A B:Option Addr}{a b:List UInt8}(ha:Src w A (a.map zI)) (hb:Src w B (b.map zI)) (n m c d:Nat) (hn:n=a.length) (hm:m=b.length) :
  (Extern.BytealgCompare.compare #[.slice A n c,.slice B m d]).run P w=.ok (.int .i64 (Lib.compareBytes a b)) w:=by
 change Sem.run P (do pure (goInt (Extern.BytealgCompare.cmp (← Extern.Bytes.bytesOf (.slice A n c)) (← Extern.Bytes.bytesOf (.slice B m d))))) w=_
 simp only[Sem.run_bind,Sem.run_pure,Result.andThen,lV ha n c hn,lV hb m d hm]
 rw[Lib.cmp_eq];rfl
theorem sw (w:World) (A B:Option Addr) (a b:List UInt8) (n m c d:Nat) (hn:n=a.length) (hm:m=b.length) (ha:Src w A (a.map zI)) (hb:Src w B (b.map zI)) :
  Calls Tryz.prog 73 #[.slice A n c,.slice B m d] w fun e w'=>e=.returned (.int .i64 (Lib.compareBytes a b))∧w=w':=by
 have h1:=Hh (dI (P:=Tryz.prog) ha hb n m c d hn hm);clear hn hm ha hb;go_enter Tryz.func73,Tryz.ntmps73
 go_wp2
 rw[run_callFunc_extern Tryz.func102 (by kernel_rfl) (by kernel_rfl) (by kernel_rfl) (e:=Extern.BytealgCompare.compare) (by kernel_rfl),h1.out]
 simp only[Result.andThen]
 rw[Oper.upon_value];go_wp2
 go_ret
 exact⟨rfl,rfl⟩
theorem vT (w:World) (A:Option Addr) (l:List UInt8) (n c:Nat) (hn:n=l.length) (hl:l.length≤1099511627776) (hs:Src w A (l.map zI)) :
  Calls Tryz.prog 80 #[.slice A n c] w fun e w'=>∃ r,e=.returned r∧Fresh w l r w':=by
 cases A with
 | none =>
  have h0:l=[]:=by
   cases l with
   | nil=>rfl
   | cons a l=>obtain⟨b,off,h,_⟩:=hs (by simp);cases h
  subst h0;have he:=fun w:World=>Lib.run_eql_slice_nil (P:=Tryz.prog) w _ _ none n c 0 0 Tryz.underlying22
  clear hn hl;go_enter Tryz.func80,Tryz.ntmps80
  go_wp2
  go_ret
  exact⟨_,rfl,OwnB.nil _ _,Below.refl _ _⟩
 | some a =>
 have he:=fun w:World=>Lib.run_eql_slice_nil (P:=Tryz.prog) w _ _ (some a) n c 0 0 Tryz.underlying22
 simp only[Option.isNone]at he
 have HN:=Hh hn;clear hn;go_enter Tryz.func80,Tryz.ntmps80
 go_wp2_with (at_builtin;refine yf ?_)
 unfold yP
 have h0:OwnB (w.alloc (.cells #[] 5)) w.heap.size (.slice (some ⟨w.heap.size,0,none⟩) 0 0) []:=OwnB.lit w _ [] #[] 0 rfl rfl (Nat.le_refl _) (by simp)
 refine zR rfl (.tmp 5) (.tmp 6) rfl w.heap.size _ [] rfl h0 (some a) n c l rfl HN.out ?_ (by simpa using hl) (by simp) ?_
 ·exact hs.alloc _
 intro v' w' wE hg _
 have hf:Fresh w l v' w':=⟨by rw[List.nil_append]at wE;exact wE,(zi w _).grown hg (by simp) (fun k hk=>(h0.lt k hk).1)⟩
 clear wE hg h0;go_wp2
 go_ret
 exact⟨_,rfl,hf⟩
theorem fP (w:World) (A:Option Addr) (l:List UInt8) (n c:Nat) (hn:n=l.length) (hl:l.length≤1099511627776) (hs:Src w A (l.map zI)) :
  Calls Tryz.prog 110 #[.slice A n c] w fun e w'=>∃ r,e=.returned r∧Fresh w l r w':=by
 cases A with
 | none =>
  have h0:l=[]:=by
   cases l with
   | nil=>rfl
   | cons a l=>obtain⟨b,off,h,_⟩:=hs (by simp);cases h
  subst h0;have he:=fun w:World=>Lib.run_eql_slice_nil (P:=Tryz.prog) w _ _ none n c 0 0 Tryz.underlying22
  clear hn hl;go_enter Tryz.func110,Tryz.ntmps110
  go_wp2
  go_ret
  exact⟨_,rfl,OwnB.nil _ _,Below.refl _ _⟩
 | some a =>
 have he:=fun w:World=>Lib.run_eql_slice_nil (P:=Tryz.prog) w _ _ (some a) n c 0 0 Tryz.underlying22
 simp only[Option.isNone]at he
 have HN:=Hh hn;clear hn;go_enter Tryz.func110,Tryz.ntmps110
 go_wp2_with (at_builtin;refine yf ?_)
 unfold yP
 have h0:OwnB (w.alloc (.cells #[] 5)) w.heap.size (.slice (some ⟨w.heap.size,0,none⟩) 0 0) []:=OwnB.lit w _ [] #[] 0 rfl rfl (Nat.le_refl _) (by simp)
 refine zR rfl (.tmp 5) (.tmp 6) rfl w.heap.size _ [] rfl h0 (some a) n c l rfl HN.out ?_ (by simpa using hl) (by simp) ?_
 ·exact hs.alloc _
 intro v' w' wE hg _
 have hf:Fresh w l v' w':=⟨by rw[List.nil_append]at wE;exact wE,(zi w _).grown hg (by simp) (fun k hk=>(h0.lt k hk).1)⟩
 clear wE hg h0;go_wp2
 go_ret
 exact⟨_,rfl,hf⟩
def u8 (n:Nat):UInt8:=UInt8.ofNat n
theorem sq (n:Nat):(u8 n).toNat=n%256:=by simp[u8]
theorem wb (n:Nat):zI (u8 n)=.int .u8 ((n%256:Nat):Int):=by simp[zI,sq]
theorem VM (x:Int) (n:Nat) (h:x=((n%256:Nat):Int)):Value.int .u8 x=zI (u8 n):=by rw[wb,h]
def be8 (n:Nat):Nat→List UInt8
 | 0=>[]
 | k+1=>be8 n k++[u8 (n/2 ^ (56-8*k))]
theorem vP (n k:Nat):(be8 n k).length=k:=by induction k <;> simp[be8, *]
def zh (m n:Nat):List UInt8 :=
 if n<24 then [u8 (m*32+n)]
 else if n<256 then [u8 (m*32+24),u8 n]
 else if n<65536 then [u8 (m*32+25),u8 (n/256),u8 n]
 else if n<4294967296 then [u8 (m*32+26),u8 (n/16777216),u8 (n/65536),u8 (n/256),u8 n]
 else u8 (m*32+27)::be8 n 8
theorem ze (m n:Nat):(zh m n).length=if n<24 then 1 else if n<256 then 2 else if n<65536 then 3 else if n<4294967296 then 5 else 9:=by
 unfold zh
 repeat' split
 all_goals simp[vP]
theorem so (m n:Nat):1≤(zh m n).length∧(zh m n).length≤9:=by
 rw[ze]
 repeat' split
 all_goals omega
theorem dz (a:Nat) (ha:a<256):(BitVec.ofInt 8 (a:Int)).toNat=a:=by
 rw[BitVec.ofInt_natCast,BitVec.toNat_ofNat];exact Nat.mod_eq_of_lt (by omega)
theorem Ya (a b:Nat) (ha:a<256) (hb:b<256):bits .or .u8 (a:Int) (b:Int)=((a ||| b:Nat):Int):=by
 have hx:a ||| b<2 ^ 8:=Nat.or_lt_two_pow (by omega) (by omega);show IntKind.u8.wrap ((BitVec.ofInt 8 (a:Int) ||| BitVec.ofInt 8 (b:Int)).toNat:Int)=_
 rw[BitVec.toNat_or,dz a ha,dz b hb,IntKind.wrap_u8]
 omega
theorem Tz (m n:Nat) (hn:n<32):m*32 ||| n=m*32+n:=by
 have h:=Nat.two_pow_add_eq_or_of_lt (i:=5) (b:=n) (by omega) m;rw[show 2 ^ 5*m=m*32 by omega]at h
 exact h.symm
theorem nD (m n:Nat) (hm:m<8) (hn:n<32):bits .or .u8 ((m:Int)*32) (n:Int)=((m*32+n:Nat):Int):=by
 have h:=Ya (m*32) n (by omega) (by omega);rw[Tz m n hn]at h
 simpa using h
def isNaN (n:Nat):Bool:=n/2 ^ 52%2048==2047&&n%2 ^ 52 != 0
def yr (n eb mb:Nat):Option Nat :=
 let sign:=n/2 ^ 63*2 ^ (eb+mb)
 let e:=n/2 ^ 52%2048
 let m:=n%2 ^ 52
 let top:=2 ^ eb-1
 let bias:=2 ^ (eb-1)-1
 if e=2047 then(if m=0 then some (sign+top*2 ^ mb) else none)
 else if e=0 then(if m=0 then some sign else none)
 else if 1023+top≤e+bias then none
 else if 1023<e+bias then(if m%2 ^ (52-mb)=0 then some (sign+(e+bias-1023)*2 ^ mb+m/2 ^ (52-mb)) else none)
 else
  let shift:=53-mb+(1023-e-bias)
  if 52<shift then none else if(m+2 ^ 52)%2 ^ shift=0 then some (sign+(m+2 ^ 52)/2 ^ shift) else none
def zK (n:Nat):List UInt8 :=
 if isNaN n then [u8 249,u8 126,u8 0] else
 match yr n 5 10 with
 | some v=>[u8 249,u8 (v/256),u8 v]
 | none=>match yr n 8 23 with
  | some v=>[u8 250,u8 (v/16777216),u8 (v/65536),u8 (v/256),u8 v]
  | none=>u8 251::be8 n 8
theorem oM (n:Nat):(zK n).length=3∨(zK n).length=5∨(zK n).length=9:=by
 unfold zK
 repeat' split
 all_goals simp[vP]
def numP (x:Itm):Nat :=
 if x.kind=2∨x.kind=3 then x.bytes.length else if x.kind=4 then x.items.length else if x.kind=5 then x.items.length/2 else x.n
mutual
def zZ:Itm→List UInt8
 | .mk k n bs l =>
 if k=8 then zK n
 else if k=7∧24≤n then [u8 248,u8 n]
 else zh k.toNat (numP (.mk k n bs l))++bs++yx l
def yx:List Itm→List UInt8
 | []=>[]
 | x::l=>zZ x++yx l
end
theorem th (l m:List Itm):yx (l++m)=yx l++yx m:=by
 induction l with
 | nil=>rw[List.nil_append,yx,List.nil_append]
 | cons x l ih=>rw[List.cons_append,yx,yx,ih,List.append_assoc]
theorem uZ (l:List Itm) (k:Nat) (h:k<l.length):yx (l.take (k+1))=yx (l.take k)++zZ l[k]:=by
 rw[List.take_succ_eq_append_getElem h,th,yx,yx,List.append_nil]
theorem xh (x:Itm):zZ x=if x.kind=8 then zK x.n else if x.kind=7∧24≤x.n then [u8 248,u8 x.n] else zh x.kind.toNat (numP x)++x.bytes++yx x.items:=by
 cases x
 rw[zZ];rfl
theorem qK (l:List Itm) (k:Nat):(yx (l.take k)).length≤(yx l).length:=by
 have h:=th (l.take k) (l.drop k);rw[List.take_append_drop]at h;rw[h]
 simp
mutual
def Kinds:Itm→Prop
 | .mk k _ _ l=>(0≤k∧k≤8)∧KindsL l
def KindsL:List Itm→Prop
 | []=>True
 | x::l=>Kinds x∧KindsL l
end
theorem Kinds.kind {x:Itm}(h:Kinds x):0≤x.kind∧x.kind≤8:=by cases x;rw[Kinds]at h;exact h.1
theorem Kinds.items {x:Itm}(h:Kinds x):KindsL x.items:=by cases x;rw[Kinds]at h;exact h.2
theorem KindsL.get:∀ {l:List Itm},KindsL l→∀ (k:Nat) (hk:k<l.length),Kinds l[k]
 | [],_,k,hk=>by simp at hk
 | x::l,h,0,_=>by rw[KindsL]at h;exact h.1
 | x::l,h,k+1,hk=>by rw[KindsL]at h;exact h.2.get k (by simpa using hk)
mutual
def cnt:Itm→Nat
 | .mk _ _ _ l=>xG l+1
def xG:List Itm→Nat
 | []=>0
 | x::l=>cnt x+xG l
end
theorem dd:∀ (l:List Itm) (k:Nat) (hk:k<l.length),cnt l[k]≤xG l
 | [],k,hk=>by simp at hk
 | x::l,0,_=>by rw[xG];simp
 | x::l,k+1,hk=>by
  have:=dd l k (by simpa using hk);rw[xG]
  simp only[List.getElem_cons_succ]
  omega
theorem vF (x:Itm) (k:Nat) (hk:k<x.items.length):cnt x.items[k]<cnt x:=by
 cases x with
 | mk a b c l =>
 have:=dd l k hk;rw[cnt]
 simp only[Itm.items]
 omega
def zJ:Nat:=9221120237041090560
def yo (x:Itm):Bool:=x.kind==0||x.kind==1||x.kind==2||x.kind==3||x.kind==7||x.kind==8
def yy (x:Itm):Bool :=
 if x.kind=0∨x.kind=1 then x.bytes.isEmpty&&x.items.isEmpty
 else if x.kind=2 then x.n==0&&x.items.isEmpty
 else if x.kind=3 then x.n==0&&x.items.isEmpty&&Lib.validD x.bytes
 else if x.kind=7 then x.bytes.isEmpty&&x.items.isEmpty&&(decide (x.n<24)||decide (32≤x.n)&&decide (x.n<256))
 else if x.kind=8 then x.bytes.isEmpty&&x.items.isEmpty&&(!isNaN x.n||x.n==zJ)
 else false
def yz (x:Itm):Nat :=
 if x.kind=8 then(zK x.n).length else if x.kind=7 then(if 24≤x.n then 2 else 1) else(zh x.kind.toNat (numP x)).length+x.bytes.length
def wn:List Itm→Bool
 | a::b::c::l=>decide (Lib.compareBytes (zZ a) (zZ c)<0)&&wn (c::l)
 | _=>true
theorem lq (l:List Itm) (j:Nat) (h2:2≤j) (h:j<l.length) :
  wn (l.drop (j-2))=(decide (Lib.compareBytes (zZ (l[j-2]'(by omega))) (zZ l[j])<0)&&wn (l.drop j)):=by
 have e1:l.drop (j-2)=l[j-2]'(by omega)::l.drop (j-1):=by
  rw[List.drop_eq_getElem_cons (by omega)];rw[show j-2+1=j-1 by omega]
 have e2:l.drop (j-1)=l[j-1]'(by omega)::l.drop j:=by
  rw[List.drop_eq_getElem_cons (by omega)];rw[show j-1+1=j by omega]
 have e3:l.drop j=l[j]::l.drop (j+1):=List.drop_eq_getElem_cons h;rw[e1,e2,e3,wn]
theorem dU (l:List Itm) (j:Nat) (h2:2≤j) (h:l.length≤j):wn (l.drop (j-2))=true:=by
 have hl:(l.drop (j-2)).length≤2:=by rw[List.length_drop];omega
 match l.drop (j-2),hl with
 | [],_=>rfl
 | [_],_=>rfl
 | [_,_],_=>rfl
 | _::_::_::_,h=>simp at h
def vx (x:Itm) (lv:Nat):Bool :=
 decide (4≤x.kind∧x.kind≤6∧lv<8∧x.bytes.length=0∧(x.kind=6→x.items.length=1)∧(x.kind≠6→x.n=0)∧(x.kind=5→x.items.length%2=0))
mutual
def chk:Itm→Nat→Nat→Nat→Option (Nat×Nat)
 | .mk k n bs l,lv,i,s =>
 if 256<i+1∨4096<bs.length∨256<l.length then none
 else if yo (.mk k n bs l)=true then(if yy (.mk k n bs l)=true∧s+yz (.mk k n bs l)≤4096 then some (i+1,s+yz (.mk k n bs l)) else none)
 else if vx (.mk k n bs l) lv=false then none
 else if 4096<s+yz (.mk k n bs l) then none
 else match sD l (lv+1) (i+1) (s+yz (.mk k n bs l)) with
  | none=>none
  | some p=>if k=5∧wn l=false then none else some p
def sD:List Itm→Nat→Nat→Nat→Option (Nat×Nat)
 | [],_,i,s=>some (i,s)
 | x::l,lv,i,s=>match chk x lv i s with
  | none=>none
  | some p=>sD l lv p.1 p.2
end
theorem mC (x:Itm) (lv i s:Nat):chk x lv i s =
  if 256<i+1∨4096<x.bytes.length∨256<x.items.length then none
  else if yo x=true then(if yy x=true∧s+yz x≤4096 then some (i+1,s+yz x) else none)
  else if vx x lv=false then none
  else if 4096<s+yz x then none
  else match sD x.items (lv+1) (i+1) (s+yz x) with
   | none=>none
   | some p=>if x.kind=5∧wn x.items=false then none else some p:=by
 cases x
 rw[chk];rfl
theorem zE (x:Itm):yo x=true↔x.kind=0∨x.kind=1∨x.kind=2∨x.kind=3∨x.kind=7∨x.kind=8:=by
 simp[yo]
 omega
theorem gf (x:Itm) (h:x.items=[]) (h8:x.kind=8∨x.kind=7→x.bytes=[]):yz x=(zZ x).length:=by
 rw[xh,yz]
 by_cases h1:x.kind=8
 ·rw[if_pos h1,if_pos h1]
 rw[if_neg h1,if_neg h1]
 by_cases h2:x.kind=7
 ·rw[if_pos h2]
  by_cases h3:24≤x.n
  ·rw[if_pos h3,if_pos ⟨h2,h3⟩];rfl
  have hn:numP x=x.n:=by simp[numP,h2]
  rw[if_neg h3,if_neg (by omega),h8 (.inr h2),h,yx,hn,zh,if_pos (by omega)];rfl
 rw[if_neg h2,if_neg (by omega),h,yx]
 simp
theorem mB (x:Itm) (h8:x.kind≠8) (h7:x.kind≠7):yz x=(zh x.kind.toNat (numP x)).length+x.bytes.length:=by
 rw[yz,if_neg h8,if_neg h7]
theorem ww {x:Itm}{lv:Nat}(h:vx x lv=true):4≤x.kind∧x.kind≤6∧lv<8∧x.bytes.length=0∧(x.kind=6→x.items.length=1)∧(x.kind≠6→x.n=0)∧(x.kind=5→x.items.length%2=0) :=
 of_decide_eq_true h
theorem xz {x:Itm}(hp:yo x=true) (ho:yy x=true):x.items=[]∧(x.kind=8∨x.kind=7→x.bytes=[]):=by
 rw[zE]at hp
 unfold yy at ho
 rcases hp with h | h | h | h | h | h <;> simp[h]at ho⊢ <;> simp[ho]
mutual
theorem jW:∀ (x:Itm) (lv i s:Nat) (p:Nat×Nat),chk x lv i s=some p→Kinds x∧p=(i+cnt x,s+(zZ x).length)∧p.1≤256∧p.2≤4096
 | .mk k n bs l,lv,i,s,p,h=>by
  rw[chk]at h
  split at h
  ·cases h
  rename_i h0
  split at h
  ·rename_i hp
   split at h
   ·rename_i ho
    obtain⟨hi,hb⟩:=xz hp ho.1;have hk:=(zE _).1 hp;have hs:=gf (.mk k n bs l) hi hb
    simp only[Itm.items,Itm.kind]at hi hk
    subst hi;injection h with h
    subst h;rw[← hs]
    refine⟨?_, ?_, ?_, ?_⟩
    ·rw[Kinds,KindsL];exact⟨by omega,trivial⟩
    ·rw[cnt,xG]
    ·simp only;omega
    exact ho.2
   cases h
  rename_i hp
  split at h
  ·cases h
  rename_i hf
  split at h
  ·cases h
  rename_i h4
  have Mv:=ww (by simpa using hf)
  simp only[Itm.kind,Itm.bytes,Itm.items,List.length_eq_zero_iff]at Mv
  split at h
  ·cases h
  rename_i q hq
  split at h
  ·cases h
  injection h with h
  subst h;obtain⟨hk,Zl,h1,h2⟩:=lr l _ _ _ _ hq (by omega) (by omega);have iR:=mB (.mk k n bs l) (by simp only[Itm.kind];omega) (by simp only[Itm.kind];omega)
  simp only[Itm.kind,Itm.bytes]at iR
  rw[Mv.2.2.2.1]at iR
  refine⟨by rw[Kinds];exact⟨by omega,hk⟩, ?_,h1,h2⟩
  rw[Zl,cnt,zZ,if_neg (by omega),if_neg (by omega),Mv.2.2.2.1,iR]
  simp only[List.length_append,List.length_nil,Prod.mk.injEq]
  omega
theorem lr:∀ (l:List Itm) (lv i s:Nat) (p:Nat×Nat),sD l lv i s=some p→i≤256→s≤4096→KindsL l∧p=(i+xG l,s+(yx l).length)∧p.1≤256∧p.2≤4096
 | [],lv,i,s,p,h,hi,hs=>by
  rw[sD]at h;injection h with h
  subst h;rw[KindsL,xG,yx]
  exact⟨trivial,rfl,hi,hs⟩
 | x::l,lv,i,s,p,h,hi,hs=>by
  rw[sD]at h
  split at h
  ·cases h
  rename_i q hq
  obtain⟨hk,Zl,h1,h2⟩:=jW x _ _ _ _ hq;obtain⟨sZ,hp,h3,h4⟩:=lr l _ _ _ _ h h1 h2
  refine⟨by rw[KindsL];exact⟨hk,sZ⟩, ?_,h3,h4⟩
  rw[hp,Zl,xG,yx]
  simp
  omega
end
def zL (x:Itm):Bool:=(chk x 0 0 0).isSome
theorem uz {x:Itm}(h:zL x=true):Kinds x∧cnt x≤256∧(zZ x).length≤4096:=by
 obtain⟨p,hp⟩:=Option.isSome_iff_exists.1 h;obtain⟨hk,he,h1,h2⟩:=jW _ _ _ _ _ hp;subst he
 simp only at h1 h2
 exact⟨hk,by omega,by omega⟩
mutual
def Modest:Itm→Prop
 | .mk _ _ bs l=>bs.length≤1099511627776∧l.length≤1099511627776∧ModestL l
def ModestL:List Itm→Prop
 | []=>True
 | x::l=>Modest x∧ModestL l
end
theorem Modest.parts {x:Itm}(h:Modest x):x.bytes.length≤1099511627776∧x.items.length≤1099511627776∧ModestL x.items:=by cases x;rw[Modest]at h;exact h
theorem ModestL.get:∀ {l:List Itm},ModestL l→∀ (k:Nat) (hk:k<l.length),Modest l[k]
 | [],_,k,hk=>by simp at hk
 | x::l,h,0,hk=>by rw[ModestL]at h;exact h.1
 | x::l,h,k+1,hk=>by rw[ModestL]at h;exact h.2.get k (by simpa using hk)
def rf (key:List UInt8):List Itm→Option Itm
 | a::b::r=>if zZ a=key then some b else rf key r
 | _=>none
def vz (m key:Itm):Option Itm:=if m.kind=5∧zL m=true∧zL key=true then rf (zZ key) m.items else none
abbrev zG:Itm:=.mk 0 0 [] []
theorem rY {x:Itm}(h:zL x=true) (h5:x.kind=5):x.items.length%2=0:=by
 obtain⟨p,hp⟩:=Option.isSome_iff_exists.1 h;rw[mC]at hp
 split at hp
 ·cases hp
 split at hp
 ·rename_i h1
  rw[zE]at h1
  omega
 split at hp
 ·cases hp
 rename_i h1
 exact(ww (by simpa using h1)).2.2.2.2.2.2 h5
theorem xu {x:Itm}(h:zL x=true):x.bytes.length≤4096∧x.items.length≤256∧KindsL x.items∧(yx x.items).length≤4096:=by
 obtain⟨hk,hc,he⟩:=uz h;obtain⟨p,hp⟩:=Option.isSome_iff_exists.1 h;rw[mC]at hp
 split at hp
 ·cases hp
 rename_i h0
 refine⟨by omega,by omega,hk.items, ?_⟩
 split at hp
 ·rename_i h1
  split at hp
  ·rename_i h2
   rw[(xz h1 h2.1).1]
   simp[yx]
  cases hp
 split at hp
 ·cases hp
 rename_i h1
 have:=ww (by simpa using h1);rw[xh,if_neg (by omega),if_neg (by omega)]at he
 simp only[List.length_append]at he
 omega
theorem VT (l:List Itm) (k:Nat) (hk:k<l.length):(zZ l[k]).length≤(yx l).length:=by
 have a1:=uZ l k hk;have a2:=qK l (k+1);rw[a1]at a2
 simp only[List.length_append]at a2
 omega
mutual
theorem j0:∀ (x:Itm) (lv i s:Nat) (p:Nat×Nat),chk x lv i s=some p→Modest x
 | .mk k n bs l,lv,i,s,p,h=>by
  rw[chk]at h
  split at h
  ·cases h
  rename_i h0
  rw[Modest]
  refine⟨by omega,by omega, ?_⟩
  split at h
  ·rename_i h1
   split at h
   ·rename_i h2
    rw[show l=[] from(xz h1 h2.1).1,ModestL];trivial
   cases h
  split at h
  ·cases h
  split at h
  ·cases h
  split at h
  ·cases h
  rename_i q hq
  exact lF l _ _ _ _ hq
theorem lF:∀ (l:List Itm) (lv i s:Nat) (p:Nat×Nat),sD l lv i s=some p→ModestL l
 | [],_,_,_,_,_=>by rw[ModestL];trivial
 | x::l,lv,i,s,p,h=>by
  rw[sD]at h
  split at h
  ·cases h
  rename_i q hq
  rw[ModestL]
  exact⟨j0 x _ _ _ _ hq,lF l _ _ _ _ h⟩
end
theorem wV {x:Itm}(h:zL x=true):Modest x:=by
 obtain⟨p,hp⟩:=Option.isSome_iff_exists.1 h
 exact j0 _ _ _ _ _ hp
theorem aC (key:List UInt8) (l:List Itm) (k:Nat) (hk:k+1<l.length):rf key (l.drop k)=if zZ l[k]=key then some l[k+1] else rf key (l.drop (k+2)):=by
 rw[List.drop_eq_getElem_cons (show k<l.length by omega),List.drop_eq_getElem_cons hk,rf]
def zt (n:Int):Itm:=if n<0 then .mk 1 (-1-n).toNat [] [] else .mk 0 n.toNat [] []
def ZP (x:Itm):Bool:=(x.kind==0||x.kind==1)&&decide (x.n≤65535)
def TG (a b:Itm):Bool :=
 if a.kind=3 then true else if ZP a=false then false else if a.kind=1 then true
 else if a.n=1 then ZP b&&(b.kind==1||b.n != 0) else if a.n=4∨a.n=5∨a.n=6∨a.n=12 then b.kind==2 else true
structure Ad where
 ba:Option Addr
 bc:Nat
 ia:Option Addr
 ic:Nat
def Wp:List Itm→Bool
 | a::b::r=>TG a b&&Wp r
 | _=>true
def Tabs (H:Snap):Prop:=∀ w,Holds w H→Lib.Utf8Tabs 0 1 w
theorem Tabs.mono {H K:Snap}(h:Tabs H) (hl:H.le K):Tabs K:=fun w hw=>h w (hw.mono hl)
theorem IsItem.plain (H:Snap) (k:Int) (n:Nat) (hk : -9223372036854775808≤k∧k≤9223372036854775807) (hn:n<18446744073709551616):IsItem H none 0 none 0 (.mk k n [] []):=by
 rw[IsItem]
 exact⟨⟨hk.1,hk.2,hn,Nat.le_refl _,by omega⟩,IsBytes.nil H,fun h=>absurd h (by simp)⟩
theorem Gives.plain {w w':World}{H:Snap}{k n:Int}{m:Nat}(hH:Holds w H) (hb:Below w.heap.size w w') (hk : -9223372036854775808≤k∧k≤9223372036854775807) (hm:m<18446744073709551616) (hn:n=(m:Int)) :
  Gives w H (.mk k m [] []) (.agg #[.int .i64 k,.int .u64 n,.slice none 0 0,.slice none 0 0]) w':=by
 subst hn
 exact⟨none,0,none,0,H,rfl,Grows.of_below hH hb,IsItem.plain H k m hk hm⟩
theorem Fresh.gives {w w1:World}{H:Snap}{l:List UInt8}{r:Value}{k:Int}(hH:Holds w H) (h:Fresh w l r w1) (hk : -9223372036854775808≤k∧k≤9223372036854775807) :
  Gives w H (.mk k 0 l []) (.agg #[.int .i64 k,.int .u64 0,r,.slice none 0 0]) w1:=by
 obtain⟨A,c,rfl,_⟩:=h.own.form;obtain⟨H',hl,hh,hf,_,hi⟩:=h.own.snap (hH.below h.2 (Nat.le_refl _)) (fun g hg=>hH.none_of_ge (h.own.lt g (by cases A <;> simp_all [Value.ownBlock])).1)
 refine⟨A,c,none,0,H',rfl,⟨h.2,hl,hh,fun b o hb=>?_⟩, ?_⟩
 ·rcases hf b o hb with h1 | h1
  ·exact .inl h1
  exact .inr (h.own.lt b (by cases A <;> simp_all [Value.ownBlock])).1
 rw[IsItem]
 exact⟨⟨hk.1,hk.2,by omega,Nat.le_refl _,by omega⟩,hi,fun h=>absurd h (by simp)⟩
theorem Grows.own {w wA w1 w':World}{H H':Snap}{g:Nat}(hA:Below w.heap.size w wA) (hH:Holds w H) (h:Grows wA H w1 H') (hg:w1.grownBy w' (some g)) (h1:w.heap.size≤g) (h2:g<wA.heap.size):Grows w H w' H' :=
 ⟨(hA.trans (h.below.mono hA.size)).grown hg (Nat.le_trans hA.size h.below.size) (by rintro k ⟨⟩;exact h1),h.le,h.holds.grown hg (by rintro k ⟨⟩;exact h.none (hH.none_of_ge h1) h2),fun b o hb=>by
  rcases h.fresh b o hb with h | h
  ·exact .inl h
  exact .inr (Nat.le_trans hA.size h)⟩
theorem Gives.own {w wA w1 w':World}{H:Snap}{x:Itm}{v:Value}{g:Nat}(hA:Below w.heap.size w wA) (hH:Holds w H) (h:Gives wA H x v w1) (hg:w1.grownBy w' (some g)) (h1:w.heap.size≤g) (h2:g<wA.heap.size):Gives w H x v w':=by
 obtain⟨ba,bc,ia,ic,H',e,hG,hi⟩:=h
 exact⟨ba,bc,ia,ic,H',e,hG.own hA hH hg h1 h2,hi⟩
theorem sX (a b c d:Value) (ha:a.oneCell'=true) (hb:b.oneCell'=true) (hc:c.oneCell'=true) (hd:d.oneCell'=true):(#[a,b,c,d]:Array Value).all (·.oneCell')=true:=by simp[ha,hb,hc,hd]
theorem Xr (n:Nat) (hn:n<18446744073709551616) {H:Snap}(w:World) (hH:Holds w H) :
  Calls Tryz.prog 76 #[.int .u64 n] w fun e w'=>∃ v,e=.returned v∧Gives w H (.mk 0 n [] []) v w':=by
 have HN:=Hh hn;clear hn;go_enter Tryz.func76,Tryz.ntmps76
 go_wp2_with fail
 refine vK rfl rfl (Blk.new _ _ _) rfl rfl zv rfl ?_
 exact⟨_,rfl,Gives.plain hH (zi _ _) (by omega) HN.out rfl⟩
theorem xC (n:Int) (h1 : -9223372036854775808≤n) (h2:n≤9223372036854775807) {H:Snap}(w:World) (hH:Holds w H) :
  Calls Tryz.prog 47 #[.int .i64 n] w fun e w'=>∃ v,e=.returned v∧Gives w H (zt n) v w':=by
 by_cases h0:n<0
 ·have E:Hid (zt n=.mk 1 (-1-n).toNat [] []∧(-1-n).toNat<18446744073709551616∧-1-n=((-1-n).toNat:Int)):=⟨by rw[zt,if_pos h0],by omega,by omega⟩
  have K1:IntKind.u64.wrap (-1-n) = -1-n:=by rw[IntKind.wrap_u64];omega
  have K0:IntKind.i64.wrap (-1-n) = -1-n:=IntWalk.i64_in _ (by omega);clear h1 h2;go_enter Tryz.func47,Tryz.ntmps47
  go_wp2_with fail
  refine vK rfl rfl (Blk.new _ _ _) rfl rfl zv rfl ?_
  rw[E.out.1]
  exact⟨_,rfl,Gives.plain hH (zi _ _) (by omega) E.out.2.1 E.out.2.2⟩
 have E:Hid (zt n=.mk 0 n.toNat [] []∧n.toNat<18446744073709551616∧n=(n.toNat:Int)):=⟨by rw[zt,if_neg h0],by omega,by omega⟩
 have K1:IntKind.u64.wrap n=n:=by rw[IntKind.wrap_u64];omega
 have U:=Hh (Xr n.toNat E.out.2.1 (w.alloc (.cells #[.int .i64 0,.int .u64 0,.slice none 0 0,.slice none 0 0] 57)) (hH.alloc _));rw[← E.out.2.2]at U;have hn:=Int.not_lt.1 h0;clear h1 h2 h0;go_enter Tryz.func47,Tryz.ntmps47
 go_wp2_with fail
 refine U.out.mono ?_
 rintro e w1 ⟨v,rfl,hg⟩
 have HG:=Hh hg;obtain⟨ba,bc,ia,ic,H',rfl,hg,hi⟩:=hg;have hB:=(Blk.new w 57 #[.int .i64 0,.int .u64 0,.slice none 0 0,.slice none 0 0]).below hg.below;go_wp2_with (with_reducible refine zx ?_)
 refine zp rfl _ _ _ rfl rfl _ _ rfl rfl _ _ hB zv rfl (sX _ _ _ _ rfl rfl rfl rfl) fun w2 yU yq=>?_
 go_wp2_with fail
 refine vK rfl rfl yU rfl rfl zv rfl ?_
 rw[E.out.1]
 exact⟨_,rfl,HG.out.own (zi _ _) hH yq (Nat.le_refl _) (by simp)⟩
theorem Zx {A:Option Addr}{n c:Nat}{l:List UInt8}(hn:n=l.length) (hl:l.length≤1099511627776) {H:Snap}(w:World) (hs:Src w A (l.map zI)) (hH:Holds w H) :
  Calls Tryz.prog 96 #[.slice A n c] w fun e w'=>∃ v,e=.returned v∧Gives w H (.mk 2 0 l []) v w':=by
 have C:=Hh (fP (w.alloc (.cells #[.int .i64 0,.int .u64 0,.slice none 0 0,.slice none 0 0] 57)) A l n c hn hl (hs.alloc _));clear hn;go_enter Tryz.func96,Tryz.ntmps96
 go_wp2_with fail
 refine C.out.mono ?_
 rintro e w1 ⟨r,rfl,hf⟩
 have hB:=(Blk.new w 57 #[.int .i64 0,.int .u64 0,.slice none 0 0,.slice none 0 0]).below hf.2;have HF:=Hh (hf.gives (k:=2) (hH.alloc (.cells #[.int .i64 0,.int .u64 0,.slice none 0 0,.slice none 0 0] 57)) (by omega));obtain⟨A',c',rfl,_⟩:=hf.own.form;go_wp2_with (with_reducible refine zx ?_)
 refine zp rfl _ _ _ rfl rfl _ _ rfl rfl _ _ hB zv rfl (sX _ _ _ _ rfl rfl rfl rfl) fun w2 yU yq=>?_
 go_wp2_with fail
 refine vK rfl rfl yU rfl rfl zv rfl ?_
 exact⟨_,rfl,HF.out.own (zi _ _) hH yq (Nat.le_refl _) (by simp)⟩
theorem lH {w:World}{H:Snap}(hH:Holds w H) (s:ByteArray) (hl:s.size≤1099511627776) :
  ∃ g c w',(convert 9 22 (.string s)).run Tryz.prog w=.ok (.slice (some ⟨g,0,none⟩) s.size c) w'∧Below w.heap.size w w'∧∃ H',Grows w H w' H'∧IsBytes H' (some ⟨g,0,none⟩) c s.data.toList:=by
 refine⟨_,_,_,run_bytes_of_string (P:=Tryz.prog) w 9 22 5 s Tryz.underlying9 Tryz.underlying22 Tryz.underlying5, ?_, ?_⟩
 ·exact(Below.refl _ _).drew.alloc (Nat.le_refl _) _
 obtain⟨o,ho⟩:∃ o,o=Obj.cells (bytesRow s (grownCap w s.size 0 5)) 5 ((bytesRow s (grownCap w s.size 0 5)).size,(bytesRow s (grownCap w s.size 0 5)).size+1):=⟨_,rfl⟩
 rw[← ho];have h0:H w.heap.size=none:=hH.none_of_ge (Nat.le_refl _)
 refine⟨H.with w.heap.size o,⟨(Below.refl _ _).drew.alloc (Nat.le_refl _) _,Snap.le_with h0,(hH.drew.alloc o).with (heap_alloc_new w.drew o),fun b x hb=>?_⟩, ?_, ?_, ?_⟩
 ·unfold Snap.with at hb
  split at hb
  ·subst b;exact .inr (Nat.le_refl _)
  exact .inl hb
 ·simpa using grownCap_ge w s.size 0 5
 ·have:=grownCap_le_maxLen w s.size 0 5 (by simp only[maxLen];omega)
  simpa [maxLen] using this
 refine fun _=>⟨w.heap.size,0,rfl,fun j v hj=>?_⟩
 have gu:j<s.data.size:=by
  have:=(List.getElem?_eq_some_iff.1 hj).1
  simpa using this
 subst ho
 simp only[Snap.cell?,Snap.with,if_true,Nat.zero_add,Option.isSome,Bool.false_eq_true,if_false]
 rw[bytesRow_at s _ j gu]
 simp at hj
 obtain⟨a,h1,h2⟩:=hj;rw[Array.getElem?_eq_getElem gu]at h1;injection h1 with h1
 rw[h1,← h2]
theorem gC (s:ByteArray) (hl:s.size≤1099511627776) {H:Snap}(w:World) (hH:Holds w H) :
  Calls Tryz.prog 48 #[.string s] w fun e w'=>∃ v,e=.returned v∧Gives w H (.mk 3 0 s.data.toList []) v w':=by
 obtain⟨g,c,w1,hr,hb,H',hG,hi⟩:=lH (hH.alloc (.cells #[.int .i64 0,.int .u64 0,.slice none 0 0,.slice none 0 0] 57)) s hl;have hB:=(Blk.new w 57 #[.int .i64 0,.int .u64 0,.slice none 0 0,.slice none 0 0]).below hb
 have HI:Gives (w.alloc (.cells #[.int .i64 0,.int .u64 0,.slice none 0 0,.slice none 0 0] 57)) H (.mk 3 0 s.data.toList []) (.agg #[.int .i64 3,.int .u64 0,.slice (some ⟨g,0,none⟩) s.size c,.slice none 0 0]) w1:=by
  refine⟨some ⟨g,0,none⟩,c,none,0,H',by simp[xj,Itm.kind,Itm.n,Itm.bytes,Itm.items],hG, ?_⟩
  rw[IsItem]
  exact⟨⟨by omega,by omega,by omega,Nat.le_refl _,by omega⟩,hi,fun h=>absurd h (by simp)⟩
 have M6:=Hh HI;clear hb hi HI;go_enter Tryz.func48,Tryz.ntmps48
 go_wp2_with (with_reducible refine zx ?_)
 refine zp rfl _ _ _ rfl rfl _ _ rfl rfl _ _ hB zv rfl (sX _ _ _ _ rfl rfl rfl rfl) fun w2 yU yq=>?_
 go_wp2_with fail
 refine vK rfl rfl yU rfl rfl zv rfl ?_
 exact⟨_,rfl,M6.out.own (zi _ _) hH yq (Nat.le_refl _) (by simp)⟩
def xr (x:Itm) (lv:Nat):Bool:=if yo x=true then yy x else vx x lv
mutual
def Good:Itm→Nat→Prop
 | .mk k n bs l,lv=>xr (.mk k n bs l) lv=true∧GoodL l (lv+1)∧(k=5→wn l=true)
def GoodL:List Itm→Nat→Prop
 | [],_=>True
 | x::l,lv=>Good x lv∧GoodL l lv
end
theorem Good.node {x:Itm}{lv:Nat}(h:Good x lv):xr x lv=true:=by cases x;rw[Good]at h;exact h.1
theorem Good.items {x:Itm}{lv:Nat}(h:Good x lv):GoodL x.items (lv+1):=by cases x;rw[Good]at h;exact h.2.1
theorem Good.asc {x:Itm}{lv:Nat}(h:Good x lv) (h5:x.kind=5):wn x.items=true:=by cases x;rw[Good]at h;exact h.2.2 h5
theorem Good.of {x:Itm}{lv:Nat}(h1:xr x lv=true) (h2:GoodL x.items (lv+1)) (h3:x.kind=5→wn x.items=true):Good x lv:=by cases x;rw[Good];exact⟨h1,h2,h3⟩
theorem GoodL.get:∀ {l:List Itm}{lv:Nat},GoodL l lv→∀ x∈l,Good x lv
 | [],_,_,x,hx=>by cases hx
 | y::l,lv,h,x,hx=>by
  rw[GoodL]at h
  rcases List.mem_cons.1 hx with rfl | hx
  ·exact h.1
  exact h.2.get x hx
theorem GoodL.of:∀ {l:List Itm}{lv:Nat},(∀ x∈l,Good x lv)→GoodL l lv
 | [],_,_=>by rw[GoodL];trivial
 | y::l,lv,h=>by
  rw[GoodL]
  exact⟨h y (by simp),GoodL.of fun x hx=>h x (by simp[hx])⟩
theorem xT {x:Itm}{lv:Nat}(h:xr x lv=true):(yo x=true∧yy x=true)∨(yo x=false∧vx x lv=true):=by
 unfold xr at h
 cases hp:yo x with
 | true=>rw[if_pos hp]at h;exact .inl ⟨rfl,h⟩
 | false=>rw[if_neg (by simp[hp])]at h;exact .inr ⟨rfl,h⟩
theorem rW {x:Itm}{lv:Nat}(h:xr x lv=true):0≤x.kind∧x.kind≤8:=by
 rcases xT h with ⟨h1,_⟩ | ⟨_,h1⟩
 ·rw[zE]at h1;omega
 have:=ww h1;omega
theorem aF {x:Itm}{lv lv':Nat}(h:vx x lv=true) (hl:lv'≤lv):vx x lv'=true:=by
 obtain⟨h1,h2,h3,h4⟩:=ww h
 exact decide_eq_true ⟨h1,h2,by omega,h4⟩
theorem YK {x:Itm}{lv lv':Nat}(h:xr x lv=true) (hl:lv'≤lv):xr x lv'=true:=by
 rcases xT h with ⟨h1,h2⟩ | ⟨h1,h2⟩
 ·rw[xr,if_pos h1];exact h2
 rw[xr,if_neg (by simp[h1])];exact aF h2 hl
mutual
theorem Good.le:∀ {x:Itm}{lv lv':Nat},Good x lv→lv'≤lv→Good x lv'
 | .mk k n bs l,lv,lv',h,hl=>by
  rw[Good]at h⊢
  exact⟨YK h.1 hl,GoodL.le h.2.1 (by omega),h.2.2⟩
theorem GoodL.le:∀ {l:List Itm}{lv lv':Nat},GoodL l lv→lv'≤lv→GoodL l lv'
 | [],_,_,_,_=>by rw[GoodL];trivial
 | x::l,lv,lv',h,hl=>by
  rw[GoodL]at h⊢
  exact⟨Good.le h.1 hl,GoodL.le h.2 hl⟩
end
theorem nv {x:Itm}{lv:Nat}(h:xr x lv=true) (hp:yo x=true):x.items=[]∧(x.kind=8∨x.kind=7→x.bytes=[]):=by
 rcases xT h with ⟨_,h2⟩ | ⟨h1,_⟩
 ·exact xz hp h2
 rw[hp]at h1;cases h1
theorem ms {x:Itm}{lv:Nat}(h:xr x lv=true):(zZ x).length=yz x+(yx x.items).length:=by
 cases hp:yo x with
 | true =>
  obtain⟨h1,h2⟩:=nv h hp;rw[← gf x h1 h2,h1,yx];simp
 | false =>
 rcases xT h with ⟨h1,_⟩ | ⟨_,h2⟩
 ·rw[hp]at h1;cases h1
 have hf:=ww h2;rw[xh,if_neg (by omega),if_neg (by omega),mB x (by omega) (by omega)]
 simp;omega
theorem lX {x:Itm}{lv:Nat}(h:xr x lv=true):x.bytes.length≤yz x:=by
 by_cases h8:x.kind=8
 ·have:=(nv h ((zE x).2 (by omega))).2 (by omega);rw[this];simp
 by_cases h7:x.kind=7
 ·have:=(nv h ((zE x).2 (by omega))).2 (by omega);rw[this];simp
 rw[mB x h8 h7];omega
theorem mi:∀ l:List Itm,l.length≤xG l
 | []=>by simp[xG]
 | x::l=>by
  have:=mi l;have h:0<cnt x:=by cases x;rw[cnt];omega
  rw[xG];simp;omega
theorem pc (x:Itm):cnt x=xG x.items+1:=by cases x;rw[cnt];rfl
mutual
theorem dZ:∀ (x:Itm) (lv i s:Nat) (p:Nat×Nat),chk x lv i s=some p→Good x lv
 | .mk k n bs l,lv,i,s,p,h=>by
  rw[chk]at h
  split at h
  ·cases h
  split at h
  ·rename_i hp
   split at h
   ·rename_i ho
    have hi:=(xz hp ho.1).1;have hk:=(zE _).1 hp
    simp only[Itm.items,Itm.kind]at hi hk
    subst hi;rw[Good,GoodL]
    exact⟨by rw[xr,if_pos hp];exact ho.1,trivial,fun h=>by omega⟩
   cases h
  rename_i hp
  split at h
  ·cases h
  rename_i hf
  split at h
  ·cases h
  split at h
  ·cases h
  rename_i q hq
  split at h
  ·cases h
  rename_i ha
  rw[Good]
  refine⟨by rw[xr,if_neg hp];simpa using hf,gG l _ _ _ _ hq,fun h5=>?_⟩
  cases hs:wn l with
  | true=>rfl
  | false=>exact absurd ⟨h5,hs⟩ ha
theorem gG:∀ (l:List Itm) (lv i s:Nat) (p:Nat×Nat),sD l lv i s=some p→GoodL l lv
 | [],_,_,_,_,_=>by rw[GoodL];trivial
 | x::l,lv,i,s,p,h=>by
  rw[sD]at h
  split at h
  ·cases h
  rename_i q hq
  rw[GoodL]
  exact⟨dZ x _ _ _ _ hq,gG l _ _ _ _ h⟩
end
mutual
theorem dj:∀ (x:Itm) (lv i s:Nat),Good x lv→i+cnt x≤256→s+(zZ x).length≤4096→chk x lv i s=some (i+cnt x,s+(zZ x).length)
 | .mk k n bs l,lv,i,s,h,hi,hs=>by
  have hn:=h.node;have XY:=h.items;have has:=h.asc;have iR:=ms hn;have gp:=lX hn;have hc:=pc (.mk k n bs l);have hl:=mi l
  simp only[Itm.items,Itm.bytes,Itm.kind]at *
  rw[chk,if_neg (by omega)]
  rcases xT hn with ⟨h1,h2⟩ | ⟨h1,h2⟩
  ·have h0:=(xz h1 h2).1
   simp only[Itm.items]at h0
   subst h0;rw[yx]at iR;rw[xG]at hc
   simp only[List.length_nil]at iR
   rw[if_pos h1,if_pos ⟨h2,by omega⟩,hc,iR];congr 2
  rw[if_neg (by simp[h1]),if_neg (by simp[h2]),if_neg (by omega),gO l (lv+1) (i+1) _ XY (by omega) (by omega)]
  simp only
  rw[if_neg (by rintro⟨h5,ha⟩;rw[has h5]at ha;cases ha)];congr 2 <;> omega
theorem gO:∀ (l:List Itm) (lv i s:Nat),GoodL l lv→i+xG l≤256→s+(yx l).length≤4096→sD l lv i s=some (i+xG l,s+(yx l).length)
 | [],lv,i,s,_,_,_=>by rw[sD,xG,yx];rfl
 | x::l,lv,i,s,h,hi,hs=>by
  rw[GoodL]at h;rw[xG]at hi⊢;rw[yx]at hs⊢
  simp only[List.length_append]at hs⊢
  rw[sD,dj x lv i s h.1 (by omega) (by omega)]
  simp only
  rw[gO l lv _ _ h.2 (by omega) (by omega)];congr 2 <;> omega
end
theorem wX (x:Itm):zL x=true↔Good x 0∧cnt x≤256∧(zZ x).length≤4096:=by
 constructor
 ·intro h
  obtain⟨p,hp⟩:=Option.isSome_iff_exists.1 h;have:=uz h
  exact⟨dZ _ _ _ _ _ hp,this.2.1,this.2.2⟩
 rintro⟨h1,h2,h3⟩
 rw[zL,dj x 0 0 0 h1 (by omega) (by omega)];rfl
mutual
def Small:Itm→Prop
 | .mk _ _ bs l=>bs.length≤4096∧SmallL l
def SmallL:List Itm→Prop
 | []=>True
 | x::l=>Small x∧SmallL l
end
def yT (x:Itm) (d m:Nat):Bool:=xr x d&&decide (x.bytes.length≤4096)&&decide (x.items.length≤m)
mutual
def yA:Itm→Nat→Nat→Option Nat
 | .mk k n bs l,c,d =>
 if c<1 then none
 else if yT (.mk k n bs l) d (c-1)=false then none
 else match wd l (c-1) (d+1) with
  | none=>none
  | some r=>if k=5∧wn l=false then none else some r
def wd:List Itm→Nat→Nat→Option Nat
 | [],c,_=>some c
 | x::l,c,d=>match yA x c d with
  | none=>none
  | some r=>wd l r d
end
theorem uD (x:Itm) (c d:Nat):yA x c d =
  if c<1 then none
  else if yT x d (c-1)=false then none
  else match wd x.items (c-1) (d+1) with
   | none=>none
   | some r=>if x.kind=5∧wn x.items=false then none else some r:=by
 cases x
 rw[yA];rfl
theorem jG {x:Itm}{d m:Nat}(h:yT x d m=true):xr x d=true∧x.bytes.length≤4096∧x.items.length≤m:=by
 simpa [yT,and_assoc] using h
mutual
theorem sI:∀ (x:Itm) (c d r:Nat),yA x c d=some r→Good x d∧Small x∧r+cnt x=c
 | .mk k n bs l,c,d,r,h=>by
  rw[yA]at h
  split at h
  ·cases h
  split at h
  ·cases h
  rename_i hn
  obtain⟨h1,h2,h3⟩:=jG (by simpa using hn)
  split at h
  ·cases h
  rename_i q hq
  split at h
  ·cases h
  rename_i ha
  injection h with h
  subst h;obtain⟨g1,g2,g3⟩:=nu l _ _ _ hq;rw[Good,Small,cnt]
  refine⟨⟨h1,g1,fun h5=>?_⟩,⟨h2,g2⟩,by omega⟩
  cases hs:wn l with
  | true=>rfl
  | false=>exact absurd ⟨h5,hs⟩ ha
theorem nu:∀ (l:List Itm) (c d r:Nat),wd l c d=some r→GoodL l d∧SmallL l∧r+xG l=c
 | [],c,d,r,h=>by
  rw[wd]at h;injection h with h
  subst h;rw[GoodL,SmallL,xG]
  exact⟨trivial,trivial,rfl⟩
 | x::l,c,d,r,h=>by
  rw[wd]at h
  split at h
  ·cases h
  rename_i q hq
  obtain⟨h1,h2,h3⟩:=sI x _ _ _ hq;obtain⟨g1,g2,g3⟩:=nu l _ _ _ h;rw[GoodL,SmallL,xG]
  exact⟨⟨h1,g1⟩,⟨h2,g2⟩,by omega⟩
end
mutual
theorem gQ:∀ (x:Itm) (c d:Nat),Good x d→Small x→cnt x≤c→yA x c d=some (c-cnt x)
 | .mk k n bs l,c,d,h,hs,hc=>by
  have hn:=h.node;have XY:=h.items;have has:=h.asc;have Kg:=pc (.mk k n bs l);have hl:=mi l;rw[Small]at hs
  simp only[Itm.items,Itm.bytes,Itm.kind]at *
  have hr:yT (.mk k n bs l) d (c-1)=true:=by
   have e2:l.length≤c-1:=by omega
   simp[yT,hn,Itm.bytes,Itm.items,hs.1,e2]
  rw[yA,if_neg (by omega),if_neg (by simp[hr]),j6 l (c-1) (d+1) XY hs.2 (by omega)]
  simp only
  rw[if_neg (by rintro⟨h5,ha⟩;rw[has h5]at ha;cases ha)];congr 1;omega
theorem j6:∀ (l:List Itm) (c d:Nat),GoodL l d→SmallL l→xG l≤c→wd l c d=some (c-xG l)
 | [],c,d,_,_,_=>by rw[wd,xG];rfl
 | x::l,c,d,h,hs,hc=>by
  rw[GoodL]at h;rw[SmallL]at hs;rw[xG]at hc⊢;rw[wd,gQ x c d h.1 hs.1 (by omega)]
  simp only
  rw[j6 l _ d h.2 hs.2 (by omega)];congr 1;omega
end
mutual
theorem Good.small:∀ {x:Itm}{lv:Nat},Good x lv→(zZ x).length≤4096→Small x
 | .mk k n bs l,lv,h,hl=>by
  have h1:=ms h.node;have h2:=lX h.node;have h3:=h.items
  simp only[Itm.items,Itm.bytes]at *
  rw[Small]
  exact⟨by omega,GoodL.small h3 (by omega)⟩
theorem GoodL.small:∀ {l:List Itm}{lv:Nat},GoodL l lv→(yx l).length≤4096→SmallL l
 | [],_,_,_=>by rw[SmallL];trivial
 | x::l,lv,h,hl=>by
  rw[GoodL]at h;rw[yx]at hl
  simp only[List.length_append]at hl
  rw[SmallL]
  exact⟨Good.small h.1 (by omega),GoodL.small h.2 (by omega)⟩
end
theorem WA {x:Itm}{lv:Nat}(h:xr x lv=true):yz x≤x.bytes.length+9:=by
 unfold yz
 split
 ·have:=oM x.n;omega
 split
 ·split <;> omega
 have:=(so x.kind.toNat (numP x)).2;omega
mutual
theorem Good.bytes:∀ {x:Itm}{lv:Nat},Good x lv→Small x→(zZ x).length≤cnt x*4105
 | .mk k n bs l,lv,h,hs=>by
  have h1:=ms h.node;have h2:=WA h.node;have h3:=h.items;have h4:=pc (.mk k n bs l);rw[Small]at hs
  simp only[Itm.items,Itm.bytes]at *
  have:=GoodL.bytes h3 hs.2
  omega
theorem GoodL.bytes:∀ {l:List Itm}{lv:Nat},GoodL l lv→SmallL l→(yx l).length≤xG l*4105
 | [],_,_,_=>by rw[yx,xG];simp
 | x::l,lv,h,hs=>by
  rw[GoodL]at h;rw[SmallL]at hs;rw[yx,xG];have h1:=Good.bytes h.1 hs.1;have h2:=GoodL.bytes h.2 hs.2
  simp only[List.length_append]
  omega
end
def fc (x:Itm):Bool:=(yA x 256 0).isSome&&decide ((zZ x).length≤4096)
theorem Yb (x:Itm):fc x=zL x:=by
 rw[Bool.eq_iff_iff,wX];constructor
 ·intro h
  simp only[fc,Bool.and_eq_true,decide_eq_true_eq]at h
  obtain⟨r,hr⟩:=Option.isSome_iff_exists.1 h.1;obtain⟨h1,h2,h3⟩:=sI _ _ _ _ hr
  exact⟨h1,by omega,h.2⟩
 rintro⟨h1,h2,h3⟩
 simp only[fc,Bool.and_eq_true,decide_eq_true_eq]
 rw[gQ x 256 0 h1 (h1.small h3) h2]
 exact⟨rfl,h3⟩
theorem uh:∀ a:List UInt8,Lib.compareBytes a a=0
 | []=>by rw[Lib.compareBytes]
 | x::a=>by rw[Lib.compareBytes,if_neg (UInt8.lt_irrefl x),if_neg (UInt8.lt_irrefl x)];exact uh a
theorem sH:∀ a b c:List UInt8,Lib.compareBytes a b<0→Lib.compareBytes b c<0→Lib.compareBytes a c<0
 | [],[],c,h,_=>by rw[Lib.compareBytes]at h;omega
 | [],y::b,[],_,h=>by rw[Lib.compareBytes]at h;omega
 | [],y::b,z::c,_,_=>by rw[Lib.compareBytes];omega
 | x::a,[],c,h,_=>by rw[Lib.compareBytes]at h;omega
 | x::a,y::b,[],_,h=>by rw[Lib.compareBytes]at h;omega
 | x::a,y::b,z::c,h,k=>by
  rw[Lib.compareBytes]at h k⊢
  by_cases h1:x<y
  ·by_cases h2:y<z
   ·have h3:x<z:=UInt8.lt_trans h1 h2;rw[if_pos h3];omega
   rw[if_neg h2]at k
   by_cases h3:z<y
   ·rw[if_pos h3]at k;omega
   have e:y=z:=UInt8.toNat_inj.1 (by rw[UInt8.lt_iff_toNat_lt]at h2 h3;omega);subst e;rw[if_pos h1];omega
  rw[if_neg h1]at h
  by_cases h2:y<x
  ·rw[if_pos h2]at h;omega
  rw[if_neg h2]at h;have e:x=y:=UInt8.toNat_inj.1 (by rw[UInt8.lt_iff_toNat_lt]at h1 h2;omega);subst e
  by_cases h3:x<z
  ·rw[if_pos h3];omega
  rw[if_neg h3]at k⊢
  by_cases h4:z<x
  ·rw[if_pos h4]at k;omega
  rw[if_neg h4]at k⊢
  exact sH a b c h k
def t8:List Itm→List (Itm×Itm)
 | a::b::r=>(a,b)::t8 r
 | _=>[]
theorem lQ:∀ {l:List Itm}{p:Itm×Itm},p∈t8 l→p.1∈l∧p.2∈l
 | [],p,h=>by rw[t8]at h;cases h;intro _ _ _ h;cases h
 | [_],p,h=>by rw[t8]at h;cases h;intro _ _ _ h;cases h
 | a::b::r,p,h=>by
  rw[t8]at h
  rcases List.mem_cons.1 h with rfl | h
  ·simp
  have:=lQ h
  simp[this.1,this.2]
theorem d9:∀ l:List Itm,Wp l=(t8 l).all fun p=>TG p.1 p.2
 | []=>rfl
 | [_]=>rfl
 | a::b::r=>by rw[Wp,t8,List.all_cons,d9 r]
theorem lK (k:List UInt8):∀ l:List Itm,rf k l=((t8 l).find? fun p=>decide (zZ p.1=k)).map (·.2)
 | []=>rfl
 | [_]=>rfl
 | a::b::r=>by
  rw[rf,t8,List.find?_cons]
  by_cases h:zZ a=k
  ·simp[h]
  simp[h,lK k r]
mutual
def tq:Itm→Itm→Bool
 | .mk k n bs l,.mk k' n' bs' l'=>k==k'&&n==n'&&bs==bs'&&uG l l'
def uG:List Itm→List Itm→Bool
 | [],[]=>true
 | x::l,y::m=>tq x y&&uG l m
 | _,_=>false
end
mutual
theorem vZ:∀ (x y:Itm),tq x y=true↔x=y
 | .mk k n bs l,.mk k' n' bs' l'=>by
  rw[tq]
  simp only[Bool.and_eq_true,beq_iff_eq,mA l l',Itm.mk.injEq,and_assoc]
theorem mA:∀ (l m:List Itm),uG l m=true↔l=m
 | [],[]=>by simp[uG]
 | [],y::m=>by simp[uG]
 | x::l,[]=>by simp[uG]
 | x::l,y::m=>by
  rw[uG]
  simp only[Bool.and_eq_true,vZ x y,mA l m,List.cons.injEq]
end
theorem jf (n:Nat):zt (n:Int)=.mk 0 n [] []:=by
 rw[zt,if_neg (by omega)];simp
theorem VX (n:Nat) (lv:Nat):Good (zt (n:Int)) lv:=by
 rw[jf,Good,GoodL]
 exact⟨rfl,trivial,fun h=>by omega⟩
theorem jQ (n:Nat):zL (zt (n:Int))=true:=by
 rw[wX]
 refine⟨VX n 0, ?_, ?_⟩
 ·rw[jf,cnt,xG];omega
 rw[jf,xh];have:=(so (0:Int).toNat (numP (.mk 0 n [] []))).2
 simp[Itm.kind,Itm.bytes,Itm.items,yx]at *
 omega
def qB (x:Itm):Nat:=if x.kind=8 then 7 else x.kind.toNat
theorem aI (m n:Nat):∃ a t,zh m n=u8 (m*32+a)::t∧a<28:=by
 unfold zh
 repeat' split
 all_goals exact⟨_,_,rfl,by omega⟩
theorem pU (n:Nat):∃ a t,zK n=u8 (7*32+a)::t∧25≤a∧a<28:=by
 unfold zK
 repeat' split
 ·exact⟨25,_,rfl,by omega⟩
 ·exact⟨25,_,rfl,by omega⟩
 ·exact⟨26,_,rfl,by omega⟩
 exact⟨27,_,rfl,by omega⟩
theorem gK (x:Itm) (h:0≤x.kind∧x.kind≤8):∃ a t,zZ x=u8 (qB x*32+a)::t∧a<28:=by
 rw[xh,qB]
 by_cases h8:x.kind=8
 ·obtain⟨a,t,e,h1,h2⟩:=pU x.n;rw[if_pos h8,if_pos h8]
  exact⟨a,t,e,h2⟩
 rw[if_neg h8,if_neg h8]
 by_cases h7:x.kind=7∧24≤x.n
 ·rw[if_pos h7,h7.1]
  exact⟨24,[u8 x.n],rfl,by omega⟩
 rw[if_neg h7];obtain⟨a,t,e,h2⟩:=aI x.kind.toNat (numP x);rw[e]
 exact⟨a,_,by rw[List.cons_append,List.cons_append],h2⟩
theorem Ra {x y:Itm}(hx:0≤x.kind∧x.kind≤8) (hy:0≤y.kind∧y.kind≤8) {r s:List UInt8}(h:zZ x++r=zZ y++s):qB x=qB y:=by
 obtain⟨a,t,e,ha⟩:=gK x hx;obtain⟨b,v,f,hb⟩:=gK y hy;rw[e,f,List.cons_append,List.cons_append]at h;injection h with h _
 have h':=congrArg UInt8.toNat h;rw[sq,sq]at h';have h1:qB x≤7:=by unfold qB;split <;> omega
 have h2:qB y≤7:=by unfold qB;split <;> omega
 omega
theorem n7 {a b c d:UInt8}{r s:List UInt8}(h:a::b::r=c::d::s):a=c∧b=d∧r=s:=by
 injection h with h1 h
 injection h with h2 h
 exact⟨h1,h2,h⟩
theorem vU {a b:Nat}(h:u8 a=u8 b):a%256=b%256:=by
 have:=congrArg UInt8.toNat h;rwa [sq,sq]at this
def tX (n:Nat):Nat:=if n<24 then n else if n<256 then 24 else if n<65536 then 25 else if n<4294967296 then 26 else 27
def rg (n:Nat):List UInt8:=if n<24 then [] else if n<256 then [u8 n] else if n<65536 then [u8 (n/256),u8 n] else if n<4294967296 then [u8 (n/16777216),u8 (n/65536),u8 (n/256),u8 n] else be8 n 8
theorem sA (m n:Nat):zh m n=u8 (m*32+tX n)::rg n:=by
 unfold zh tX rg
 repeat' split
 all_goals rfl
theorem dm (n:Nat):tX n<28:=by
 unfold tX
 repeat' split
 all_goals omega
theorem gS (n:Nat):(rg n).length=if tX n<24 then 0 else if tX n=24 then 1 else if tX n=25 then 2 else if tX n=26 then 4 else 8:=by
 unfold tX rg
 by_cases h1:n<24
 ·simp[h1]
 by_cases h2:n<256
 ·simp[h1,h2]
 by_cases h3:n<65536
 ·simp[h1,h2,h3]
 by_cases h4:n<4294967296
 ·simp[h1,h2,h3,h4]
 simp[h1,h2,h3,h4,vP]
theorem WH {n m:Nat}(hn:n<18446744073709551616) (hm:m<18446744073709551616) (h:be8 n 8=be8 m 8):n=m:=by
 simp only[be8,List.nil_append,List.cons_append,List.cons.injEq]at h
 obtain⟨h0,h1,h2,h3,h4,h5,h6,h7,_⟩:=h;have h0:=vU h0;have h1:=vU h1;have h2:=vU h2;have h3:=vU h3;have h4:=vU h4;have h5:=vU h5;have h6:=vU h6;have h7:=vU h7
 simp only[Nat.reduceMul,Nat.reduceSub,Nat.reducePow,Nat.sub_zero,Nat.mul_zero]at *
 have g0:n/72057594037927936=m/72057594037927936:=by omega
 have g1:n/281474976710656=m/281474976710656:=by omega
 have g2:n/1099511627776=m/1099511627776:=by omega
 have g3:n/4294967296=m/4294967296:=by omega
 have g4:n/16777216=m/16777216:=by omega
 have g5:n/65536=m/65536:=by omega
 have g6:n/256=m/256:=by omega
 omega
theorem VZ {n m:Nat}(hn:n<18446744073709551616) (hm:m<18446744073709551616) (hx:tX n=tX m) (h:rg n=rg m):n=m:=by
 unfold tX at hx
 unfold rg at h
 by_cases a1:n<24
 ·simp only[a1,if_true]at hx
  repeat' split at hx
  all_goals omega
 by_cases a2:n<256
 ·have b1:¬ m<24:=by intro k;simp only[a1,a2,k,if_true,if_false]at hx;omega
  have b2:m<256:=by
   simp only[a1,a2,b1,if_true,if_false]at hx
   repeat' split at hx
   all_goals omega
  simp only[a1,a2,b1,b2,if_true,if_false,List.cons.injEq,and_true]at h
  have:=vU h
  omega
 by_cases a3:n<65536
 ·have b1:¬ m<24:=by intro k;simp only[a1,a2,a3,k,if_true,if_false]at hx;omega
  have b2:¬ m<256:=by intro k;simp only[a1,a2,a3,b1,k,if_true,if_false]at hx;omega
  have b3:m<65536:=by
   simp only[a1,a2,a3,b1,b2,if_true,if_false]at hx
   repeat' split at hx
   all_goals omega
  simp only[a1,a2,a3,b1,b2,b3,if_true,if_false,List.cons.injEq,and_true]at h
  have h1:=vU h.1;have h2:=vU h.2
  omega
 by_cases a4:n<4294967296
 ·have b1:¬ m<24:=by intro k;simp only[a1,a2,a3,a4,k,if_true,if_false]at hx;omega
  have b2:¬ m<256:=by intro k;simp only[a1,a2,a3,a4,b1,k,if_true,if_false]at hx;omega
  have b3:¬ m<65536:=by intro k;simp only[a1,a2,a3,a4,b1,b2,k,if_true,if_false]at hx;omega
  have b4:m<4294967296:=by
   simp only[a1,a2,a3,a4,b1,b2,b3,if_true,if_false]at hx
   repeat' split at hx
   all_goals omega
  simp only[a1,a2,a3,a4,b1,b2,b3,b4,if_true,if_false,List.cons.injEq,and_true]at h
  obtain⟨h0,h1,h2,h3⟩:=h;have h0:=vU h0;have h1:=vU h1;have h2:=vU h2;have h3:=vU h3;have g0:n/16777216=m/16777216:=by omega
  have g1:n/65536=m/65536:=by omega
  have g2:n/256=m/256:=by omega
  omega
 have b1:¬ m<24:=by intro k;simp only[a1,a2,a3,a4,k,if_true,if_false]at hx;omega
 have b2:¬ m<256:=by intro k;simp only[a1,a2,a3,a4,b1,k,if_true,if_false]at hx;omega
 have b3:¬ m<65536:=by intro k;simp only[a1,a2,a3,a4,b1,b2,k,if_true,if_false]at hx;omega
 have b4:¬ m<4294967296:=by intro k;simp only[a1,a2,a3,a4,b1,b2,b3,k,if_true,if_false]at hx;omega
 simp only[a1,a2,a3,a4,b1,b2,b3,b4,if_false]at h
 exact WH hn hm h
theorem Y2 {a b n m:Nat}(ha:a<8) (hb:b<8) (hn:n<18446744073709551616) (hm:m<18446744073709551616) {r s:List UInt8}(h:zh a n++r=zh b m++s):a=b∧n=m∧r=s:=by
 rw[sA,sA,List.cons_append,List.cons_append]at h;injection h with h1 h2
 have h1:=vU h1;have x1:=dm n;have x2:=dm m;have hx:tX n=tX m:=by omega
 have hl:(rg n).length=(rg m).length:=by rw[gS,gS,hx]
 obtain⟨h3,h4⟩:=List.append_inj h2 hl
 exact⟨by omega,VZ hn hm hx h3,h4⟩
theorem se (w:World) (A B:Option Addr) (a b:List UInt8) (n m c d:Nat) (hn:n=a.length) (hm:m=b.length) (hna:n≤1099511627776) (hmb:m≤1099511627776) (ha:Src w A (a.map zI)) (hb:Src w B (b.map zI)) :
  Calls Tryz.prog 64 #[.slice A n c,.slice B m d] w fun e w'=>e=.returned (.int .i64 (Lib.compareBytes a b))∧Below w.heap.size w w':=by
 have HN:=Hh hn;have HM:=Hh hm;clear hn hm;go_enter Tryz.func64,Tryz.ntmps64
 go_wp2_with fail
 go_loopw [5] (fun vi wr=>∃ k:Nat,k≤n∧k≤m∧vi=.int .i64 k∧Lib.compareBytes (a.drop k) (b.drop k)=Lib.compareBytes a b∧Below w.heap.size w wr) (fun vi _=>n-(intOf vi).toNat)
 case atStart=>exact⟨0,by omega,by omega,rfl,by simp,Below.refl _ _⟩
 case round =>
 obtain⟨k,rL,py,rfl,hc,xP⟩:=hrel;have hn:=HN.out;have hm:=HM.out
 by_cases h1:k<n
 ·by_cases h2:k<m
  ·obtain⟨ab,ao,rfl,Kw⟩:=(ha.below xP) (by intro h;simp at h;subst h;simp at hn;omega)
   obtain⟨bb,bo,rfl,Xl⟩:=(hb.below xP) (by intro h;simp at h;subst h;simp at hm;omega)
   have ka:k<a.length:=by omega
   have kb:k<b.length:=by omega
   have p0:=Kw k (zI a[k]) (by simp[ka]);have q0:=Xl k (zI b[k]) (by simp[kb])
   have hd:Lib.compareBytes (a.drop k) (b.drop k)=if a[k]<b[k] then -1 else if b[k]<a[k] then 1 else Lib.compareBytes (a.drop (k+1)) (b.drop (k+1)):=by
    rw[List.drop_eq_getElem_cons ka,List.drop_eq_getElem_cons kb,Lib.compareBytes]
   rw[hc]at hd
   generalize a[k]'ka=x at *
   generalize b[k]'kb=y at *
   have HD:=Hh hd;clear hd hc hn hm Kw Xl ka kb;go_upto_region 4 with fail
   refine zr 8 (fun w'=>w'.cell? ⟨ab,ao+k,none⟩=some (zI x)∧w'.cell? ⟨bb,bo+k,none⟩=some (zI y)) (by kernel_rfl) (⟨p0,q0⟩) (fun zy=>?_)
   refine Tk 0 rfl zy ?_
   refine Tk 1 rfl zy ?_
   refine Tk 2 rfl zy ?_
   refine Tk 3 rfl zy ?_
   refine Tk 4 rfl zy ?_
   refine Tk 5 rfl zy ?_
   refine Tk 6 rfl zy ?_
   refine Tk 7 rfl zy ?_
   refine To 8 rfl fun K hK=>?_
   go_simp
   refine Kz hK ?_
   clear hK K
   refine Wd ?_
   clear zy
   by_cases Qw:x=y
   ·subst Qw;have E:Hid (Lib.compareBytes (a.drop (k+1)) (b.drop (k+1))=Lib.compareBytes a b):=by rw[Hid,HD.out,if_neg (UInt8.lt_irrefl x),if_neg (UInt8.lt_irrefl x)]
    have xJ:=xP.drew;go_wp2_with fail
    go_roundw
    case rel=>exact⟨k+1,by omega,by omega,by go_num,E.out,xJ⟩
    case measure=>simp[intOf];omega
   have xH:((x.toNat:Int) != (y.toNat:Int))=true:=by
    rw[bne_iff_ne]
    intro h
    exact Qw (UInt8.toNat_inj.1 (by omega))
   have xJ:=xP.drew.drew;have Pq:=Hh Qw;clear Qw;go_upto_region 5 with fail
   refine zr 8 (fun w'=>w'.cell? ⟨ab,ao+k,none⟩=some (zI x)∧w'.cell? ⟨bb,bo+k,none⟩=some (zI y)) (by kernel_rfl) (⟨p0,q0⟩) (fun zy=>?_)
   refine Tk 0 rfl zy ?_
   refine Tk 1 rfl zy ?_
   refine Tk 2 rfl zy ?_
   refine Tk 3 rfl zy ?_
   refine Tk 4 rfl zy ?_
   refine Tk 5 rfl zy ?_
   refine Tk 6 rfl zy ?_
   refine Tk 7 rfl zy ?_
   refine To 8 rfl fun K hK=>?_
   go_simp
   refine Kz hK ?_
   clear hK K
   refine Wd ?_
   clear zy
   by_cases hl:x<y
   ·have E:Hid (Lib.compareBytes a b = -1):=by rw[Hid,HD.out,if_pos hl]
    have br:(x.toNat:Int)<(y.toNat:Int):=by have:=UInt8.lt_iff_toNat_lt.1 hl;omega
    clear hl;go_wp2_with fail
    go_ret
    exact⟨by rw[E.out];rfl,xJ⟩
   have hg:y<x:=by
    have:=Pq.out
    rcases Nat.lt_trichotomy x.toNat y.toNat with h | h | h
    ·exact absurd (UInt8.lt_iff_toNat_lt.2 h) hl
    ·exact absurd (UInt8.toNat_inj.1 h) this
    exact UInt8.lt_iff_toNat_lt.2 h
   have E:Hid (Lib.compareBytes a b=1):=by rw[Hid,HD.out,if_neg hl,if_pos hg]
   have br:(y.toNat:Int)≤(x.toNat:Int):=by have:=UInt8.lt_iff_toNat_lt.1 hg;omega
   clear hl hg;go_wp2_with fail
   go_ret
   exact⟨by rw[E.out];rfl,xP.drew.drew⟩
  have O8:k=m:=by omega
  have E:Hid (Lib.compareBytes a b=1):=by
   rw[Hid,← hc,List.drop_eq_getElem_cons (show k<a.length by omega),List.drop_eq_nil_of_le (show b.length≤k by omega),Lib.compareBytes]
  clear hc hn hm;go_wp2_with fail
  go_ret
  exact⟨by rw[E.out];rfl,xP⟩
 have Xa:k=n:=by omega
 by_cases h2:k<m
 ·have E:Hid (Lib.compareBytes a b = -1):=by
   rw[Hid,← hc,List.drop_eq_nil_of_le (show a.length≤k by omega),List.drop_eq_getElem_cons (show k<b.length by omega),Lib.compareBytes]
  clear hc hn hm;go_wp2_with fail
  go_ret
  exact⟨by rw[E.out];rfl,xP⟩
 have E:Hid (Lib.compareBytes a b=0):=by
  rw[Hid,← hc,List.drop_eq_nil_of_le (show a.length≤k by omega),List.drop_eq_nil_of_le (show b.length≤k by omega),Lib.compareBytes]
 clear hc hn hm;go_wp2_with fail
 go_ret
 exact⟨by rw[E.out];rfl,xP⟩
theorem OwnB.blk {w:World}{g base:Nat}{cs:Array Value}{l:List UInt8}(h:Blk w g 5 cs) (hc:cs.toList=l.map zI) (hb:base≤g) (hm:l.length≤4096) (k:Nat) (hk:k=l.length) :
  OwnB w base (.slice (some ⟨g,0,none⟩) k k) l:=by
 subst hk
 refine⟨by simp,.inr ⟨g,l.length,cs,rfl,hb,h,Nat.le_refl _,by simp only[maxLen];omega, ?_, ?_⟩⟩
 ·rw[← Array.length_toList,hc];simp
 rw[hc,Nat.mul_one];exact List.take_of_length_le (by simp)
def uH (n s j:Nat):List UInt8:=(List.range j).map fun t=>u8 (n/2 ^ (8*(s-1-t)))
theorem jP (n s j:Nat):uH n s (j+1)=uH n s j++[u8 (n/2 ^ (8*(s-1-j)))]:=by
 simp[uH,List.range_succ]
theorem pJ (n s j:Nat):(uH n s j).length=j:=by simp[uH]
def oX (n s j:Nat):UInt8:=u8 (n/2 ^ (8*(s-1-j)))
def sT (n:Nat):Nat:=if n<256 then 1 else if n<65536 then 2 else if n<4294967296 then 4 else 8
def qz (n:Nat):Nat:=if n<256 then 24 else if n<65536 then 25 else if n<4294967296 then 26 else 27
def nG (m n:Nat):UInt8:=u8 (m*32+qz n)
theorem aJ (m n:Nat) (h:24≤n):zh m n=nG m n::uH n (sT n) (sT n):=by
 rw[zh,if_neg (by omega),nG,qz,sT]
 by_cases h1:n<256
 ·simp[h1,uH,List.range_succ]
 by_cases h2:n<65536
 ·simp[h1,h2,uH,List.range_succ]
 by_cases h3:n<4294967296
 ·simp[h1,h2,h3,uH,List.range_succ]
 simp[h1,h2,h3,uH,be8,List.range_succ]
theorem RD {n:Int}(h:n<256):sT n.toNat=1∧qz n.toNat=24:=by
 constructor <;> (simp only[sT,qz];repeat (first | rw[if_pos (by omega)] | rw[if_neg (by omega)]))
theorem RE {n:Int}(h:256≤n) (h':n<65536):sT n.toNat=2∧qz n.toNat=25:=by
 constructor <;> (simp only[sT,qz];repeat (first | rw[if_pos (by omega)] | rw[if_neg (by omega)]))
theorem RF {n:Int}(h:65536≤n) (h':n<4294967296):sT n.toNat=4∧qz n.toNat=26:=by
 constructor <;> (simp only[sT,qz];repeat (first | rw[if_pos (by omega)] | rw[if_neg (by omega)]))
theorem RG {n:Int}(h:4294967296≤n):sT n.toNat=8∧qz n.toNat=27:=by
 constructor <;> (simp only[sT,qz];repeat (first | rw[if_pos (by omega)] | rw[if_neg (by omega)]))
theorem VY (n:Nat):1≤sT n∧sT n≤8:=by
 unfold sT
 repeat' split
 all_goals omega
theorem Y3 {m n:Int}(kL:0≤m) (hm:m<8) (h0:0≤n) (h:n<24):(#[.int .u8 (32*m+n)]:Array Value).toList=(zh m.toNat n.toNat).map zI:=by
 rw[zh,if_pos (by omega)]
 simp only[List.map_cons,List.map_nil,wb]
 congr 2
 omega
theorem yW (m n:Int) (w:World) (kL:0≤m) (hm:m<8) (h0:0≤n) (h1:n<18446744073709551616) :
  Calls Tryz.prog 61 #[.int .i64 m,.int .u64 n] w fun e w'=>∃ r,e=.returned r∧Fresh w (zh m.toNat n.toNat) r w':=by
 have H1:=Hh h1;have H0:=Hh h0;have K0:IntKind.u8.wrap (32*m+24)=32*m+24:=IntWalk.u8_in _ (by omega);have K1:IntKind.i64.wrap (32*m)=32*m:=IntWalk.i64_in _ (by omega);have K2:IntKind.i64.wrap (32*m+24)=32*m+24:=IntWalk.i64_in _ (by omega);have K3:IntKind.u8.wrap (32*m)=32*m:=IntWalk.u8_in _ (by omega);have hB:=Blk.new w 5 #[.int .u8 (32*m+24)];have vL:=zi w (.cells #[.int .u8 (32*m+24)] 5);clear h1;go_enter Tryz.func61,Tryz.ntmps61
 go_upto_block 0 with fail
 go_cut [5,6] (fun s5 s6 wx=>24≤n∧s5=.slice (some ⟨w.heap.size,0,none⟩) 1 1∧s6=.int .i64 (sT n.toNat:Int)∧Blk wx w.heap.size 5 #[.int .u8 (32*m+(qz n.toNat:Int))]∧Below w.heap.size w wx)
 case first =>
  go_wp2_with fail
  ·go_ret
   have ye:n<24:=by with_reducible assumption
   have hc:=Y3 kL hm H0.out ye;have yU:=Blk.new (w.alloc (.cells #[.int .u8 (32*m+24)] 5)) 5 #[.int .u8 (32*m+n)]
   simp only[zX]at yU
   have Sv:1=(zh m.toNat n.toNat).length:=by rw[ze,if_pos (by omega)]
   exact⟨_,rfl,OwnB.blk yU hc (by omega) (by omega) 1 Sv,vL.alloc vL.size _⟩
  ·have te:24≤n:=by with_reducible assumption
   have ye:n<256:=by with_reducible assumption
   obtain⟨e1,e2⟩:=RD ye;go_meet
   rw[e1,e2]
   exact⟨te,rfl,rfl,hB,vL⟩
  ·have te:24≤n:=by with_reducible assumption
   have kK:256≤n:=by with_reducible assumption
   have ye:n<65536:=by with_reducible assumption
   obtain⟨e1,e2⟩:=RE kK ye;go_meet
   rw[e1,e2];have:=Blk.new w 5 #[.int .u8 (32*m+24+1)];rw[show 32*m+24+1=32*m+((25:Nat):Int) by omega]at this⊢
   exact⟨te,rfl,rfl,this,zi _ _⟩
  ·have te:24≤n:=by with_reducible assumption
   have kK:65536≤n:=by with_reducible assumption
   have ye:n<4294967296:=by with_reducible assumption
   obtain⟨e1,e2⟩:=RF kK ye;go_meet
   rw[e1,e2];have:=Blk.new w 5 #[.int .u8 (32*m+24+2)];rw[show 32*m+24+2=32*m+((26:Nat):Int) by omega]at this⊢
   exact⟨te,rfl,rfl,this,zi _ _⟩
  have te:24≤n:=by with_reducible assumption
  have kK:4294967296≤n:=by with_reducible assumption
  obtain⟨e1,e2⟩:=RG kK;go_meet
  rw[e1,e2];have:=Blk.new w 5 #[.int .u8 (32*m+24+3)];rw[show 32*m+24+3=32*m+((27:Nat):Int) by omega]at this⊢
  exact⟨te,rfl,rfl,this,zi _ _⟩
 case rest =>
 obtain⟨te,rfl,rfl,yU,xJ⟩:=hcut;obtain⟨vC,ey⟩:=VY n.toNat;have HT:=Hh (aJ m.toNat n.toNat (by omega))
 generalize sT n.toNat=s at *
 have K5:IntKind.i64.wrap ((s:Int)-1)=(s:Int)-1:=IntWalk.i64_in _ (by omega)
 have hO:OwnB wc w.heap.size (.slice (some ⟨w.heap.size,0,none⟩) 1 1) [nG m.toNat n.toNat]:=by
  refine OwnB.blk yU ?_ (Nat.le_refl _) (by simp) 1 rfl
  simp only[List.map_cons,List.map_nil,nG,wb]
  have:qz n.toNat≤27:=by unfold qz;(repeat' split);all_goals omega
  congr 2
  omega
 go_upto_region 13 with fail
 go_loopw [5,7] (fun v5 v7 wr=>∃ (j:Nat) (VA:Option Addr) (vc:Nat),j≤s∧v7=.int .i64 ((s:Int)-1-j)∧v5=.slice VA (1+j) vc∧OwnB wr w.heap.size (.slice VA (1+j) vc) (nG m.toNat n.toNat::uH n.toNat s j)∧Below w.heap.size w wr) (fun _ v7 _=>(intOf v7+1).toNat)
 case atStart=>exact⟨0,_,_,by omega,by go_num,rfl,hO,xJ⟩
 case round =>
 obtain⟨j,VA,vc,hj,rfl,rfl,vW,xP⟩:=hrel
 by_cases ye:j<s
 ·have kK:(0:Int)≤(s:Int)-1-j:=by omega
  have xw:(#[.int .u8 (n/2 ^ (8*(s-1-j))%256)]:Array Value).toList=[oX n.toNat s j].map zI:=by
   simp only[List.map_cons,List.map_nil,oX,wb]
   obtain⟨n',rfl⟩:=Int.eq_ofNat_of_zero_le H0.out
   simp
  have uy:=xP.alloc xP.size (.cells #[.int .u8 (n/2 ^ (8*(s-1-j))%256)] 5);have kW:=vW.alloc (.cells #[.int .u8 (n/2 ^ (8*(s-1-j))%256)] 5);have HC:=Hh xw;clear xw;go_wp2_with (at_builtin;refine yf ?_)
  refine zR rfl (.tmp 56) (.tmp 63) rfl w.heap.size _ _ rfl kW _ 1 _ [oX n.toNat s j] rfl rfl (Src.new _ _ _ _ rfl _ HC.out) (by simp[pJ];omega) uy.size fun v' w7 vo hg7 hat7=>?_
  have Uv:(nG m.toNat n.toNat::uH n.toNat s j)++[oX n.toNat s j]=nG m.toNat n.toNat::uH n.toNat s (j+1):=by rw[jP];rfl
  obtain⟨VA',vc',rfl,_⟩:=vo.form;have iP:((nG m.toNat n.toNat::uH n.toNat s j)++[oX n.toNat s j]).length=1+(j+1):=by simp[pJ];omega
  rw[iP]at vo;rw[iP];rw[Uv]at vo;have vJ:=uy.grown hg7 uy.size (fun q hq=>(kW.lt q hq).1);clear Uv iP hg7 hat7 kW vW uy xP;go_wp2_with fail
  go_roundw
  case rel=>exact⟨j+1,VA',vc',by omega,by rw[show((j+1:Nat):Int)=(j:Int)+1 by omega,show(s:Int)-1-((j:Int)+1)=(s:Int)-1-j-1 by omega],rfl,vo,vJ⟩
  case measure=>simp[intOf];omega
 have N0:j=s:=by omega
 subst N0;have E:Hid (zh m.toNat n.toNat=nG m.toNat n.toNat::uH n.toNat j j):=HT.out;have Gj:(j:Int)-1-j<0:=by omega
 go_wp2_with fail
 go_ret
 rw[E.out]
 exact⟨_,rfl,vW,xP⟩
theorem uW (a k:Nat) (ha:a<2 ^ 64) (hk:k<64):bits .and .u64 (a:Int) ((2 ^ k-1:Nat):Int)=((a%2 ^ k:Nat):Int):=by
 rw[u64_and_nat a (2 ^ k-1) (by simpa using ha) ?_,Nat.and_two_pow_sub_one_eq_mod];have:2 ^ k<2 ^ 64:=Nat.pow_lt_pow_right (by omega) hk
 omega
theorem rM (a k b:Nat) (hb:b<2 ^ k) (h:a*2 ^ k+b<2 ^ 64):bits .or .u64 ((a*2 ^ k:Nat):Int) (b:Int)=((a*2 ^ k+b:Nat):Int):=by
 rw[u64_or_nat _ _ (by omega) (by omega),Nat.mul_comm,Nat.two_pow_add_eq_or_of_lt hb]
theorem WZ (b k:Nat) (hb:b<2 ^ k) (hk:k<64):bits .or .u64 (b:Int) ((2 ^ k:Nat):Int)=((b+2 ^ k:Nat):Int):=by
 have h1:2 ^ k<2 ^ 64:=Nat.pow_lt_pow_right (by omega) hk;rw[u64_or_nat _ _ (by omega) (by omega),Nat.or_comm];have:=Nat.two_pow_add_eq_or_of_lt hb 1;rw[Nat.mul_one]at this;rw[← this,Nat.add_comm]
theorem e8 (k:Nat) (hk:k<64):IntKind.u64.wrap (IntKind.u64.wrap ((2:Int) ^ k)-1)=((2 ^ k-1:Nat):Int):=by
 have h1:2 ^ k<2 ^ 64:=Nat.pow_lt_pow_right (by omega) hk;have h2:0<2 ^ k:=Nat.two_pow_pos k;have e:(2:Int) ^ k=((2 ^ k:Nat):Int):=by rw[Int.natCast_pow];rfl
 simp only[Nat.reducePow]at h1
 have e1:IntKind.u64.wrap ((2 ^ k:Nat):Int)=((2 ^ k:Nat):Int):=IntWalk.u64_in _ (by omega);rw[e,e1,IntWalk.u64_in _ (by omega)]
 omega
theorem qq (n:Nat) (hn:n<18446744073709551616) (w:World) :
  Calls Tryz.prog 84 #[.int .u64 (n:Int)] w fun e w'=>e=.returned (.bool (isNaN n))∧w=w':=by
 have A1:=uW (n/2 ^ 52) 11 (by omega) (by omega);have A2:=uW n 52 (by omega) (by omega)
 have E:Hid (isNaN n=(((n/2 ^ 52%2 ^ 11:Nat):Int)==2047&&((n%2 ^ 52:Nat):Int) != 0)):=by
  rw[Hid,isNaN,Bool.eq_iff_iff]
  simp only[Bool.and_eq_true,beq_iff_eq,bne_iff_ne]
  omega
 simp only[Nat.reducePow,Nat.reduceSub]at A1 A2 E
 rw[Int.natCast_ediv]at A1;have HN:=Hh hn;have JM:=Hh A1;have JN:=Hh A2;clear hn A1 A2;go_enter Tryz.func84,Tryz.ntmps84
 go_wp2_with fail
 all_goals
  go_ret
  refine⟨?_,rfl⟩
  have A1:=JM.out;have A2:=JN.out;have E':=E.out;show Ending.returned (Value.bool _)=_
  clear E JM JN HN
  simp_all
theorem fN (n:Nat) (hn:n<18446744073709551616) (w:World) :
  Calls Tryz.prog 85 #[.int .u64 (n:Int),.int .i64 5,.int .i64 10] w
   fun e w'=>(∃ v:Nat,e=.returned (.tuple #[.int .u64 (v:Int),.bool (yr n 5 10).isSome])∧∀ x,yr n 5 10=some x→v=x)∧w=w':=by
 have A1:=uW (n/2 ^ 52) 11 (by omega) (by omega);have A2:=uW n 52 (by omega) (by omega)
 simp only[Nat.reducePow,Nat.reduceSub]at A1 A2
 rw[Int.natCast_ediv]at A1;obtain⟨ex,tA⟩:∃ ex,n/4503599627370496%2048=ex:=⟨_,rfl⟩
 obtain⟨mx,kM⟩:∃ mx,n%4503599627370496=mx:=⟨_,rfl⟩
 obtain⟨sg,Zm⟩:∃ sg,n/9223372036854775808=sg:=⟨_,rfl⟩
 have vC:sg≤1:=by omega
 have E:Hid (yr n 5 10=if ex=2047 then(if mx=0 then some (sg*32768+31744) else none) else if ex=0 then(if mx=0 then some (sg*32768) else none)
   else if 1023+31≤ex+15 then none else if 1023<ex+15 then(if mx%4398046511104=0 then some (sg*32768+(ex+15-1023)*1024+mx/4398046511104) else none)
   else if 52<43+(1023-ex-15) then none else if(mx+4503599627370496)%2 ^ (43+(1023-ex-15))=0 then some (sg*32768+(mx+4503599627370496)/2 ^ (43+(1023-ex-15))) else none):=by
  rw[Hid,yr]
  simp only[Nat.reducePow,Nat.reduceSub,Nat.reduceAdd,Nat.reduceMul,tA,kM,Zm]
 rw[tA]at A1;rw[kM]at A2;have QB:ex<2048:=by omega
 have qo:mx<4503599627370496:=by omega
 have A1':bits .and .u64 ((n:Int)/4503599627370496) 2047=(ex:Int):=A1;have A2':bits .and .u64 (n:Int) 4503599627370495=(mx:Int):=A2;have K1:IntKind.i64.wrap (ex:Int)=(ex:Int):=IntWalk.i64_in _ (by omega)
 have KS:Hid (IntKind.u64.wrap ((n:Int)/9223372036854775808*32768)=((sg*2 ^ 15:Nat):Int)):=by
  rw[Hid,IntWalk.u64_in _ (by omega)]
  omega
 clear hn tA kM Zm A1 A2;go_enter Tryz.func85,Tryz.ntmps85
 go_wp2_with fail
 ·have h1:ex=2047:=by
   have h:((ex:Int)==2047)=true:=by assumption
   rw[beq_iff_eq]at h
   omega
  go_ret2
  have QN:=rM sg 15 31744 (by omega) (by omega)
  refine⟨⟨sg*32768+31744, ?_, ?_⟩,rfl⟩
  ·show Ending.returned (Value.tuple #[Value.int .u64 _,Value.bool _])=_
   rw[KS.out,E.out,if_pos h1];rw[show(31744:Int)=((31744:Nat):Int) from rfl,QN]
   by_cases h:mx=0 <;> simp[h]
  intro x hx
  rw[E.out,if_pos h1]at hx
  split at hx
  ·injection hx
  cases hx
 ·have h1:¬ ex=2047:=by
   have h:((ex:Int)==2047)=false:=by assumption
   rw[beq_eq_false_iff_ne]at h
   omega
  have h2:ex=0:=by
   have h:((ex:Int)==0)=true:=by assumption
   rw[beq_iff_eq]at h
   omega
  go_ret2
  refine⟨⟨sg*32768, ?_, ?_⟩,rfl⟩
  ·show Ending.returned (Value.tuple #[Value.int .u64 _,Value.bool _])=_
   rw[KS.out,E.out,if_neg h1,if_pos h2]
   by_cases h:mx=0 <;> simp[h]
  intro x hx
  rw[E.out,if_neg h1,if_pos h2]at hx
  split at hx
  ·injection hx
  cases hx
 all_goals
  have h1:¬ ex=2047:=by
   have h:((ex:Int)==2047)=false:=by assumption
   rw[beq_eq_false_iff_ne]at h
   omega
  have h2:¬ ex=0:=by
   have h:((ex:Int)==0)=false:=by assumption
   rw[beq_eq_false_iff_ne]at h
   omega
  rw[if_neg h1,if_neg h2]at E
 ·have h3:1023+31≤ex+15:=by omega
  go_ret2
  refine⟨⟨0, ?_, ?_⟩,rfl⟩
  ·rw[E.out,if_pos h3];rfl
  intro x hx
  rw[E.out,if_pos h3]at hx
  cases hx
 ·have h3:¬ 1023+31≤ex+15:=by omega
  have h4:1023<ex+15:=by omega
  obtain⟨q,hq⟩:∃ q,ex+15-1023=q:=⟨_,rfl⟩
  have QP:((ex:Int)-1023+15)*1024=((q*1024:Nat):Int):=by omega
  have Zi:(mx:Int)/4398046511104=((mx/4398046511104:Nat):Int):=by omega
  have ha:=uW mx 42 (by omega) (by omega)
  simp only[Nat.reducePow,Nat.reduceSub]at ha
  have Xk:=rM sg 15 (q*1024) (by omega) (by omega);have bz:=rM (sg*2 ^ 5+q) 10 (mx/4398046511104) (by omega) (by omega);rw[show(sg*2 ^ 5+q)*2 ^ 10=sg*2 ^ 15+q*1024 by omega]at bz;go_ret2
  refine⟨⟨sg*32768+q*1024+mx/4398046511104, ?_, ?_⟩,rfl⟩
  ·show Ending.returned (Value.tuple #[Value.int .u64 _,Value.bool _])=_
   rw[KS.out,E.out,if_neg h3,if_pos h4,QP,Zi,Xk,bz];have XV:bits .and .u64 (mx:Int) 4398046511103=((mx%4398046511104:Nat):Int):=ha;rw[XV]
   by_cases h:mx%4398046511104=0
   ·rw[if_pos h,h];rfl
   rw[if_neg h];have:(((mx%4398046511104:Nat):Int)==0)=false:=by rw[beq_eq_false_iff_ne];omega
   rw[this];rfl
  intro x hx
  rw[E.out,if_neg h3,if_pos h4,hq]at hx
  split at hx
  ·injection hx
  cases hx
 ·have h5:52<43+(1023-ex-15):=by omega
  have h3:¬ 1023+31≤ex+15:=by omega
  have h4:¬ 1023<ex+15:=by omega
  go_ret2
  refine⟨⟨0, ?_, ?_⟩,rfl⟩
  ·rw[E.out,if_neg h3,if_neg h4,if_pos h5];rfl
  intro x hx
  rw[E.out,if_neg h3,if_neg h4,if_pos h5]at hx
  cases hx
 have h3:¬ 1023+31≤ex+15:=by omega
 have h4:¬ 1023<ex+15:=by omega
 have h5:¬ 52<43+(1023-ex-15):=by omega
 obtain⟨sh,Zn⟩:∃ sh,43+(1023-ex-15)=sh:=⟨_,rfl⟩
 have OJ:(43-((ex:Int)-1023+15)).toNat=sh:=by omega
 obtain⟨full,uF⟩:∃ full,mx+4503599627370496=full:=⟨_,rfl⟩
 have QM:bits .or .u64 (mx:Int) 4503599627370496=(full:Int):=by
  have:=WZ mx 52 (by omega) (by omega)
  simp only[Nat.reducePow]at this
  rw[← uF]
  exact this
 have hw:IntKind.u64.wrap (IntKind.u64.wrap ((2:Int) ^ sh)-1)=((2 ^ sh-1:Nat):Int):=e8 sh (by omega)
 have QA:(full:Int)/2 ^ sh=((full/2 ^ sh:Nat):Int):=by
  rw[Int.natCast_ediv,Int.natCast_pow];rfl
 have ye:full/2 ^ sh<2 ^ 15:=by
  apply Nat.div_lt_of_lt_mul
  have:2 ^ 43≤2 ^ sh:=Nat.pow_le_pow_right (by omega) (by omega);have h2:2 ^ 43*2 ^ 15≤2 ^ sh*2 ^ 15:=Nat.mul_le_mul_right _ this
  simp only[Nat.reducePow,Nat.reduceMul]at h2⊢
  omega
 have ho:=rM sg 15 (full/2 ^ sh) ye (by simp only[Nat.reducePow]at ye⊢;omega);have ha:=uW full sh (by omega) (by omega);go_ret2
 refine⟨⟨sg*32768+full/2 ^ sh, ?_, ?_⟩,rfl⟩
 ·show Ending.returned (Value.tuple #[Value.int .u64 _,Value.bool _])=_
  rw[KS.out,E.out,if_neg h3,if_neg h4,if_neg h5,OJ,QM,hw,ha,QA,ho,Zn,uF]
  by_cases h:full%2 ^ sh=0
  ·rw[if_pos h,h];rfl
  rw[if_neg h];have:(((full%2 ^ sh:Nat):Int)==0)=false:=by rw[beq_eq_false_iff_ne];omega
  rw[this];rfl
 intro x hx
 rw[E.out,if_neg h3,if_neg h4,if_neg h5,Zn,uF]at hx
 split at hx
 ·injection hx
 cases hx
theorem fO (n:Nat) (hn:n<18446744073709551616) (w:World) :
  Calls Tryz.prog 85 #[.int .u64 (n:Int),.int .i64 8,.int .i64 23] w
   fun e w'=>(∃ v:Nat,e=.returned (.tuple #[.int .u64 (v:Int),.bool (yr n 8 23).isSome])∧∀ x,yr n 8 23=some x→v=x)∧w=w':=by
 have A1:=uW (n/2 ^ 52) 11 (by omega) (by omega);have A2:=uW n 52 (by omega) (by omega)
 simp only[Nat.reducePow,Nat.reduceSub]at A1 A2
 rw[Int.natCast_ediv]at A1;obtain⟨ex,tA⟩:∃ ex,n/4503599627370496%2048=ex:=⟨_,rfl⟩
 obtain⟨mx,kM⟩:∃ mx,n%4503599627370496=mx:=⟨_,rfl⟩
 obtain⟨sg,Zm⟩:∃ sg,n/9223372036854775808=sg:=⟨_,rfl⟩
 have vC:sg≤1:=by omega
 have E:Hid (yr n 8 23=if ex=2047 then(if mx=0 then some (sg*2147483648+2139095040) else none) else if ex=0 then(if mx=0 then some (sg*2147483648) else none)
   else if 1023+255≤ex+127 then none else if 1023<ex+127 then(if mx%536870912=0 then some (sg*2147483648+(ex+127-1023)*8388608+mx/536870912) else none)
   else if 52<30+(1023-ex-127) then none else if(mx+4503599627370496)%2 ^ (30+(1023-ex-127))=0 then some (sg*2147483648+(mx+4503599627370496)/2 ^ (30+(1023-ex-127))) else none):=by
  rw[Hid,yr]
  simp only[Nat.reducePow,Nat.reduceSub,Nat.reduceAdd,Nat.reduceMul,tA,kM,Zm]
 rw[tA]at A1;rw[kM]at A2;have QB:ex<2048:=by omega
 have qo:mx<4503599627370496:=by omega
 have A1':bits .and .u64 ((n:Int)/4503599627370496) 2047=(ex:Int):=A1;have A2':bits .and .u64 (n:Int) 4503599627370495=(mx:Int):=A2;have K1:IntKind.i64.wrap (ex:Int)=(ex:Int):=IntWalk.i64_in _ (by omega)
 have KS:Hid (IntKind.u64.wrap ((n:Int)/9223372036854775808*2147483648)=((sg*2 ^ 31:Nat):Int)):=by
  rw[Hid,IntWalk.u64_in _ (by omega)]
  omega
 clear hn tA kM Zm A1 A2;go_enter Tryz.func85,Tryz.ntmps85
 go_wp2_with fail
 ·have h1:ex=2047:=by
   have h:((ex:Int)==2047)=true:=by assumption
   rw[beq_iff_eq]at h
   omega
  go_ret2
  have QN:=rM sg 31 2139095040 (by omega) (by omega)
  refine⟨⟨sg*2147483648+2139095040, ?_, ?_⟩,rfl⟩
  ·show Ending.returned (Value.tuple #[Value.int .u64 _,Value.bool _])=_
   rw[KS.out,E.out,if_pos h1];rw[show(2139095040:Int)=((2139095040:Nat):Int) from rfl,QN]
   by_cases h:mx=0 <;> simp[h]
  intro x hx
  rw[E.out,if_pos h1]at hx
  split at hx
  ·injection hx
  cases hx
 ·have h1:¬ ex=2047:=by
   have h:((ex:Int)==2047)=false:=by assumption
   rw[beq_eq_false_iff_ne]at h
   omega
  have h2:ex=0:=by
   have h:((ex:Int)==0)=true:=by assumption
   rw[beq_iff_eq]at h
   omega
  go_ret2
  refine⟨⟨sg*2147483648, ?_, ?_⟩,rfl⟩
  ·show Ending.returned (Value.tuple #[Value.int .u64 _,Value.bool _])=_
   rw[KS.out,E.out,if_neg h1,if_pos h2]
   by_cases h:mx=0 <;> simp[h]
  intro x hx
  rw[E.out,if_neg h1,if_pos h2]at hx
  split at hx
  ·injection hx
  cases hx
 all_goals
  have h1:¬ ex=2047:=by
   have h:((ex:Int)==2047)=false:=by assumption
   rw[beq_eq_false_iff_ne]at h
   omega
  have h2:¬ ex=0:=by
   have h:((ex:Int)==0)=false:=by assumption
   rw[beq_eq_false_iff_ne]at h
   omega
  rw[if_neg h1,if_neg h2]at E
 ·have h3:1023+255≤ex+127:=by omega
  go_ret2
  refine⟨⟨0, ?_, ?_⟩,rfl⟩
  ·rw[E.out,if_pos h3];rfl
  intro x hx
  rw[E.out,if_pos h3]at hx
  cases hx
 ·have h3:¬ 1023+255≤ex+127:=by omega
  have h4:1023<ex+127:=by omega
  obtain⟨q,hq⟩:∃ q,ex+127-1023=q:=⟨_,rfl⟩
  have QP:((ex:Int)-1023+127)*8388608=((q*8388608:Nat):Int):=by omega
  have Zi:(mx:Int)/536870912=((mx/536870912:Nat):Int):=by omega
  have ha:=uW mx 29 (by omega) (by omega)
  simp only[Nat.reducePow,Nat.reduceSub]at ha
  have Xk:=rM sg 31 (q*8388608) (by omega) (by omega);have bz:=rM (sg*2 ^ 8+q) 23 (mx/536870912) (by omega) (by omega);rw[show(sg*2 ^ 8+q)*2 ^ 23=sg*2 ^ 31+q*8388608 by omega]at bz;go_ret2
  refine⟨⟨sg*2147483648+q*8388608+mx/536870912, ?_, ?_⟩,rfl⟩
  ·show Ending.returned (Value.tuple #[Value.int .u64 _,Value.bool _])=_
   rw[KS.out,E.out,if_neg h3,if_pos h4,QP,Zi,Xk,bz];have XV:bits .and .u64 (mx:Int) 536870911=((mx%536870912:Nat):Int):=ha;rw[XV]
   by_cases h:mx%536870912=0
   ·rw[if_pos h,h];rfl
   rw[if_neg h];have:(((mx%536870912:Nat):Int)==0)=false:=by rw[beq_eq_false_iff_ne];omega
   rw[this];rfl
  intro x hx
  rw[E.out,if_neg h3,if_pos h4,hq]at hx
  split at hx
  ·injection hx
  cases hx
 ·have h5:52<30+(1023-ex-127):=by omega
  have h3:¬ 1023+255≤ex+127:=by omega
  have h4:¬ 1023<ex+127:=by omega
  go_ret2
  refine⟨⟨0, ?_, ?_⟩,rfl⟩
  ·rw[E.out,if_neg h3,if_neg h4,if_pos h5];rfl
  intro x hx
  rw[E.out,if_neg h3,if_neg h4,if_pos h5]at hx
  cases hx
 have h3:¬ 1023+255≤ex+127:=by omega
 have h4:¬ 1023<ex+127:=by omega
 have h5:¬ 52<30+(1023-ex-127):=by omega
 obtain⟨sh,Zn⟩:∃ sh,30+(1023-ex-127)=sh:=⟨_,rfl⟩
 have OJ:(30-((ex:Int)-1023+127)).toNat=sh:=by omega
 obtain⟨full,uF⟩:∃ full,mx+4503599627370496=full:=⟨_,rfl⟩
 have QM:bits .or .u64 (mx:Int) 4503599627370496=(full:Int):=by
  have:=WZ mx 52 (by omega) (by omega)
  simp only[Nat.reducePow]at this
  rw[← uF]
  exact this
 have hw:IntKind.u64.wrap (IntKind.u64.wrap ((2:Int) ^ sh)-1)=((2 ^ sh-1:Nat):Int):=e8 sh (by omega)
 have QA:(full:Int)/2 ^ sh=((full/2 ^ sh:Nat):Int):=by
  rw[Int.natCast_ediv,Int.natCast_pow];rfl
 have ye:full/2 ^ sh<2 ^ 31:=by
  apply Nat.div_lt_of_lt_mul
  have:2 ^ 30≤2 ^ sh:=Nat.pow_le_pow_right (by omega) (by omega);have h2:2 ^ 30*2 ^ 31≤2 ^ sh*2 ^ 31:=Nat.mul_le_mul_right _ this
  simp only[Nat.reducePow,Nat.reduceMul]at h2⊢
  omega
 have ho:=rM sg 31 (full/2 ^ sh) ye (by simp only[Nat.reducePow]at ye⊢;omega);have ha:=uW full sh (by omega) (by omega);go_ret2
 refine⟨⟨sg*2147483648+full/2 ^ sh, ?_, ?_⟩,rfl⟩
 ·show Ending.returned (Value.tuple #[Value.int .u64 _,Value.bool _])=_
  rw[KS.out,E.out,if_neg h3,if_neg h4,if_neg h5,OJ,QM,hw,ha,QA,ho,Zn,uF]
  by_cases h:full%2 ^ sh=0
  ·rw[if_pos h,h];rfl
  rw[if_neg h];have:(((full%2 ^ sh:Nat):Int)==0)=false:=by rw[beq_eq_false_iff_ne];omega
  rw[this];rfl
 intro x hx
 rw[E.out,if_neg h3,if_neg h4,if_neg h5,Zn,uF]at hx
 split at hx
 ·injection hx
 cases hx
theorem pG (n:Nat) (hn:n<18446744073709551616) (w:World) :
  Calls Tryz.prog 62 #[.int .u64 (n:Int)] w fun e w'=>∃ r,e=.returned r∧Fresh w (zK n) r w':=by
 have I:=Hh (qq n hn w);have N1:=Hh (fN n hn w);have N2:=Hh (fO n hn w);have HN:=Hh hn;clear hn
 cases hN:isNaN n with
 | true =>
  rw[hN]at I;have E:Hid (zK n=[u8 249,u8 126,u8 0]):=by rw[Hid,zK,if_pos hN]
  clear hN;go_enter Tryz.func62,Tryz.ntmps62
  go_wp2_with fail
  refine I.out.mono ?_
  rintro e w' ⟨rfl,rfl⟩
  go_wp2_with fail
  go_ret
  refine⟨_,rfl, ?_⟩
  rw[E.out]
  exact Fresh.lit w _ _ 3 rfl (by simp) rfl
 | false =>
 rw[hN]at I
 cases h1:yr n 5 10 with
 | some v =>
  have E:Hid (zK n=[u8 249,u8 (v/256),u8 v]):=by rw[Hid,zK,if_neg (by simp[hN]),h1]
  rw[h1]at N1;clear hN h1;go_enter Tryz.func62,Tryz.ntmps62
  go_wp2_with fail
  refine I.out.mono ?_
  rintro e w' ⟨rfl,rfl⟩
  go_wp2_with fail
  refine N1.out.mono ?_
  rintro e w' ⟨⟨v',rfl,hv⟩,rfl⟩
  obtain rfl:=hv v rfl;clear hv;go_wp2_with fail
  go_ret
  refine⟨_,rfl, ?_⟩
  rw[E.out]
  refine Fresh.lit w _ _ 3 rfl (by simp) ?_
  simp only[List.map_cons,List.map_nil,wb]
  simp
 | none =>
 rw[h1]at N1
 cases h2:yr n 8 23 with
 | some v =>
  have E:Hid (zK n=[u8 250,u8 (v/16777216),u8 (v/65536),u8 (v/256),u8 v]):=by rw[Hid,zK,if_neg (by simp[hN]),h1,h2]
  rw[h2]at N2;clear hN h1 h2;go_enter Tryz.func62,Tryz.ntmps62
  go_wp2_with fail
  refine I.out.mono ?_
  rintro e w' ⟨rfl,rfl⟩
  go_wp2_with fail
  refine N1.out.mono ?_
  rintro e w' ⟨⟨v',rfl,_⟩,rfl⟩
  go_wp2_with fail
  refine N2.out.mono ?_
  rintro e w' ⟨⟨v'',rfl,hv⟩,rfl⟩
  obtain rfl:=hv v rfl;clear hv;go_wp2_with fail
  go_ret
  refine⟨_,rfl, ?_⟩
  rw[E.out]
  refine Fresh.lit w _ _ 5 rfl (by simp) ?_
  simp only[List.map_cons,List.map_nil,wb]
  simp
 | none =>
 have E:Hid (zK n=u8 251::uH n 8 8):=by
  rw[Hid,zK,if_neg (by simp[hN]),h1,h2]
  simp[uH,be8,List.range_succ]
 rw[h2]at N2;clear hN h1 h2;have hO:OwnB (w.alloc (.cells #[.int .u8 251] 5)) w.heap.size (.slice (some ⟨w.heap.size,0,none⟩) 1 1) [u8 251]:=OwnB.lit w _ _ _ 1 rfl rfl (Nat.le_refl _) (by simp);have xJ:=zi w (.cells #[.int .u8 251] 5);go_enter Tryz.func62,Tryz.ntmps62
 go_wp2_with fail
 refine I.out.mono ?_
 rintro e w' ⟨rfl,rfl⟩
 go_wp2_with fail
 refine N1.out.mono ?_
 rintro e w' ⟨⟨v',rfl,_⟩,rfl⟩
 go_wp2_with fail
 refine N2.out.mono ?_
 rintro e w' ⟨⟨v'',rfl,_⟩,rfl⟩
 go_wp2_with fail
 go_loopw [7,8] (fun v7 v8 wr=>∃ (j:Nat) (VA:Option Addr) (vc:Nat),j≤8∧v8=.int .i64 (7-(j:Int))∧v7=.slice VA (1+j) vc∧OwnB wr w.heap.size (.slice VA (1+j) vc) (u8 251::uH n 8 j)∧Below w.heap.size w wr) (fun _ v8 _=>(intOf v8+1).toNat)
 case atStart=>exact⟨0,_,_,by omega,by go_num,rfl,hO,xJ⟩
 case round =>
 obtain⟨j,VA,vc,hj,rfl,rfl,vW,xP⟩:=hrel
 by_cases ye:j<8
 ·have kK:(0:Int)≤7-(j:Int):=by omega
  have xw:(#[.int .u8 ((n:Int)/2 ^ (8*(7-j))%256)]:Array Value).toList=[oX n 8 j].map zI:=by
   simp only[List.map_cons,List.map_nil,oX,wb]
   rw[show 8-1-j=7-j by omega]
   simp
  have uy:=xP.alloc xP.size (.cells #[.int .u8 ((n:Int)/2 ^ (8*(7-j))%256)] 5);have kW:=vW.alloc (.cells #[.int .u8 ((n:Int)/2 ^ (8*(7-j))%256)] 5);have HC:=Hh xw;clear xw;go_wp2_with (at_builtin;refine yf ?_)
  refine zR rfl (.tmp 47) (.tmp 54) rfl w.heap.size _ _ rfl kW _ 1 _ [oX n 8 j] rfl rfl (Src.new _ _ _ _ rfl _ HC.out) (by simp[pJ];omega) uy.size fun v' w7 vo hg7 hat7=>?_
  have Uv:(u8 251::uH n 8 j)++[oX n 8 j]=u8 251::uH n 8 (j+1):=by rw[jP];rfl
  obtain⟨VA',vc',rfl,_⟩:=vo.form;have iP:((u8 251::uH n 8 j)++[oX n 8 j]).length=1+(j+1):=by simp[pJ];omega
  rw[iP]at vo;rw[iP];rw[Uv]at vo;have vJ:=uy.grown hg7 uy.size (fun q hq=>(kW.lt q hq).1);clear Uv iP hg7 hat7 kW vW uy xP;go_wp2_with fail
  go_roundw
  case rel=>exact⟨j+1,VA',vc',by omega,by rw[show((j+1:Nat):Int)=(j:Int)+1 by omega,show(7:Int)-((j:Int)+1)=7-j-1 by omega],rfl,vo,vJ⟩
  case measure=>simp[intOf];omega
 have N0:j=8:=by omega
 subst N0;go_wp2_with fail
 go_ret
 rw[E.out]
 exact⟨_,rfl,vW,xP⟩
theorem stI {w:World}{ops:Array Oper}{rest:List Oper}{o:Oper}{a:Act}{Q:Exit→Act→World→Prop}{x y:Operand}{g:Nat}{c0 c1 c2 c3:Value}{t:TypeId}{old:Array Value}(hB:Blk w g t old)
  (h:∀ w',Blk w' g t #[c0,c1,c2,c3]→w.grownBy w' (some g)→wpList Tryz.prog ops Q rest a w')
  (hgd:o.guard=none:=by rfl) (ho:o.op=.store 57 x y:=by rfl) (hd:o.dst=none:=by rfl) (hx:a.eval x=.pointer (some ⟨g,0,none⟩):=by rfl) (hy:a.eval y=.agg #[c0,c1,c2,c3]:=by rfl) (hold:(#[c0,c1,c2,c3]:Array Value).size=old.size:=by rfl) (h1:c0.oneCell'=true:=by rfl) (h2:c1.oneCell'=true:=by rfl) (h3:c2.oneCell'=true:=by rfl) (h4:c3.oneCell'=true:=by rfl):wpList Tryz.prog ops Q (o::rest) a w :=
 zp hgd _ _ _ ho hd _ _ hx hy _ _ hB zv hold (sX _ _ _ _ h1 h2 h3 h4) h
end Go.Proofs.YtgcjjhibdbafmabGreatDoor
