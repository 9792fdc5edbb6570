/- squeezed. Walks of package bytes and slices: -/
import Derived.Test.YtkmlnjociijpgaaGreatDoorK00
import Derived.Laws.BytesArg
import Derived.Lib.Bytealg
import Derived.Laws.Externs
import Derived.Lib.ValidU
import Derived.Laws.FloatArith
import Derived.Shelf.Unicode.DecodeSlow
import Derived.Laws.IdiomStrings
import Derived.Shelf.Unicode.ValidAny
import Derived.Deep.QuietTactic
set_option linter.unusedVariables false
set_option linter.unusedSimpArgs false
set_option maxRecDepth 100000
set_option maxHeartbeats 8000000
namespace Go.Proofs.YtkmlnjociijpgaaGreatDoor
open Go.RowKit
theorem jal{P:Prop}(h:P:=by
 go_wp2_with fail
 go_ret
 exact⟨rfl,rfl⟩):P:=h
theorem jaI{P:Prop}(h:P:=by
 go_ret
 obtain rfl:=HM.out;obtain rfl:=HN.out;rw[Int.toNat_natCast,Int.toNat_natCast];have iK:(65536:Int)≤n':=by with_reducible assumption
 have z9:(n':Int)<4294967296:=by with_reducible assumption
 refine⟨_,rfl,Fresh.lit _ _ _ 5 ?_ ?_ ?_⟩
 ·rw[yM,if_neg (by omega),if_neg (by omega),if_neg (by omega),if_pos (by omega)]
 ·exact jeP
 rw[zV,if_neg (by omega),if_neg (by omega),if_neg (by omega),if_pos (by omega)]
 simp only[List.map_cons,List.map_nil,yC]
 have e24':=sP m' 26 (by omega) (by omega);rw[show((26:Nat):Int)=26 from rfl]at e24';rw[e24',Nat.mod_eq_of_lt (show m'*32+26<256 by omega),Nat.mod_eq_of_lt (show n'/16777216<256 by omega)];rfl):P:=h
theorem jaM{P:Prop}(h:P:=by exact⟨rfl,rfl⟩):P:=h
theorem jaN{P:Prop}(h:P:=by
 go_ret
 obtain rfl:=HM.out;obtain rfl:=HN.out;rw[Int.toNat_natCast,Int.toNat_natCast];have iK:(256:Int)≤n':=by with_reducible assumption
 have z9:(n':Int)<65536:=by with_reducible assumption
 refine⟨_,rfl,Fresh.lit _ _ _ 3 ?_ ?_ ?_⟩
 ·rw[yM,if_neg (by omega),if_neg (by omega),if_pos (by omega)]
 ·exact jeP
 rw[zV,if_neg (by omega),if_neg (by omega),if_pos (by omega)]
 simp only[List.map_cons,List.map_nil,yC]
 have e24':=sP m' 25 (by omega) (by omega);rw[show((25:Nat):Int)=25 from rfl]at e24';rw[e24',Nat.mod_eq_of_lt (show m'*32+25<256 by omega),Nat.mod_eq_of_lt (show n'/256<256 by omega)];rfl):P:=h
theorem jaX{P:Prop}(h:P:=by
 go_ret
 obtain rfl:=HM.out;obtain rfl:=HN.out;rw[Int.toNat_natCast,Int.toNat_natCast];have iK:(24:Int)≤n':=by with_reducible assumption
 have z9:(n':Int)<256:=by with_reducible assumption
 refine⟨_,rfl,Fresh.lit _ _ _ 2 ?_ ?_ ?_⟩
 ·rw[yM,if_neg (by omega),if_pos (by omega)]
 ·exact jeP
 rw[zV,if_neg (by omega),if_pos (by omega)]
 simp only[List.map_cons,List.map_nil,yC]
 have e24':=sP m' 24 (by omega) (by omega);rw[show((24:Nat):Int)=24 from rfl]at e24';rw[e24',Nat.mod_eq_of_lt (by omega),Nat.mod_eq_of_lt (by omega)]):P:=h
theorem jbd{P:Prop}(h:P:=by
 go_ret
 obtain rfl:=HM.out;obtain rfl:=HN.out;rw[Int.toNat_natCast,Int.toNat_natCast];have z9:(n':Int)<24:=by with_reducible assumption
 refine⟨_,rfl,Fresh.lit _ _ _ 1 ?_ ?_ ?_⟩
 ·rw[yM,if_pos (by omega)]
 ·exact jeP
 rw[zV,if_pos (by omega)]
 simp only[List.map_cons,List.map_nil,yC]
 rw[sP m' n' (by omega) (by omega),Nat.mod_eq_of_lt (by omega)]):P:=h
theorem jbM{P:Prop}(h:P:=by rw[BitVec.ofInt_natCast,BitVec.toNat_ofNat];exact Nat.mod_eq_of_lt (by omega)):P:=h
theorem jcA{P:Prop}(h:P:=by
 simp only[Ieee.Datum.isNaN,Bool.false_eq_true,false_iff]
 omega):P:=h
theorem jeP{P:Prop}(h:P:=by have:=(yZ m' n').2;omega):P:=h
theorem Wi (l:List UInt8) (i:Nat):(l.map fun u=>(u.toNat:Int)).getD i 0=((l.getD i 0).toNat:Int):=by
 simp[List.getD]
 cases h:l[i]? <;> simp
theorem iw (l:List UInt8):strOfNums (l.map fun u=>(u.toNat:Int))=⟨l.toArray⟩:=by
 have h:(fun n:Int=>UInt8.ofNat n.toNat) ∘ (fun u:UInt8=>(u.toNat:Int))=id:=by funext u;simp
 unfold strOfNums
 simp[h]
theorem qu {w:World}{A:Option Addr}{l:List UInt8}(h:Src w A (l.map zu)) (n c:Nat) (hn:n=l.length) :
  (convert 22 9 (.slice A n c)).run Tryz.prog w=.ok (.string ⟨l.toArray⟩) w:=by
 subst hn
 by_cases hl:l=[]
 ·subst hl
  cases A with
  | none=>exact run_convert_bytes_nil w _ 5 Tryz.underlying22 Tryz.underlying5 _ _ _ Tryz.underlying9
  | some a =>
  obtain⟨b,off,spot⟩:=a;rw[run_convert_bytes_string w _ _ 5 _ _ c Tryz.underlying22 Tryz.underlying5 Tryz.underlying9];rfl
 obtain⟨b,off,rfl,hc⟩:=h (by simpa using hl)
 have:=run_convert_bytes_arg (P:=Tryz.prog) w 22 5 Tryz.underlying22 Tryz.underlying5 b off l.length c (l.map fun u=>(u.toNat:Int)) (by simp)
  (fun i hi=>by rw[Wi,hc i (zu l[i]) (by simp[hi])];simp[List.getD,hi]) _ Tryz.underlying9
 rw[this,iw]
theorem Yd (w:World) (A B:Option Addr) (a b:List UInt8) (n m c d:Nat) (hn:n=a.length) (hm:m=b.length) (ha:Src w A (a.map zu)) (hb:Src w B (b.map zu)) :
  Calls Tryz.prog 98 #[.slice A n c,.slice B m d] w fun e w'=>e=.returned (.bool (a==b))∧w=w':=by
 have h1:=qu ha n c hn;have h2:=qu hb m d hm;clear hn hm ha hb;go_enter Tryz.func98,Tryz.ntmps98
 go_wp2
 go_ret
 exact jaM
theorem mT {P:Program}{w:World}(b:Nat):∀ (l:List UInt8) (off:Nat) (acc:ByteArray),(∀ j v,(l.map zu)[j]? = some v→w.cell? ⟨b,off+j,none⟩=some v)→
  (Extern.Bytes.loadBytes ⟨b,off,none⟩ l.length acc).run P w=.ok ⟨acc.data++l.toArray⟩ w
 | [],off,acc,_=>by simp[Extern.Bytes.loadBytes]
 | u::l,off,acc,h=>by
  have h0:=h 0 (zu u) rfl;have ih:=mT (P:=P) b l (off+1) (acc.push u) (fun j v hj=>by rw[show off+1+j=off+(j+1) by omega];exact h (j+1) v (by simpa using hj))
  simp only[List.length_cons,Extern.Bytes.loadBytes]
  simp[load,Sem.run,Result.andThen,zu]at h0⊢
  simp[h0,td,ByteArray.push]
  rw[show(⟨acc.data.push u⟩:ByteArray)=acc.push u from rfl,ih];congr 2
  simp[ByteArray.push]
theorem jV {P:Program}{w:World}{A:Option Addr}{l:List UInt8}(h:Src w A (l.map zu)) (n c:Nat) (hn:n=l.length) :
  (Extern.Bytes.bytesOf (.slice A n c)).run P w=.ok ⟨l.toArray⟩ w:=by
 subst hn
 by_cases hl:l=[]
 ·subst hl
  cases A with
  | none=>rfl
  | some a=>rfl
 obtain⟨b,off,rfl,hc⟩:=h (by simpa using hl);have:=mT (P:=P) b l off .empty hc
 simp only[Extern.Bytes.bytesOf]
 rw[this]
 simp[ByteArray.empty,ByteArray.emptyWithCapacity]
 rfl
theorem Z9 {P:Program}{w:World}{A B:Option Addr}{a b:List UInt8}(ha:Src w A (a.map zu)) (hb:Src w B (b.map zu)) (n m c d:Nat) (hn:n=a.length) (hm:m=b.length) :
  (Extern.BytealgCompare.compare #[.slice A n c,.slice B m d]).run P w=.ok (.int .i64 (Lib.compareBytes a b)) w:=by
 change Sem.run P (do pure (goInt (Extern.BytealgCompare.cmp (← Extern.Bytes.bytesOf (.slice A n c)) (← Extern.Bytes.bytesOf (.slice B m d))))) w=_
 simp only[Sem.run_bind,Sem.run_pure,Result.andThen,jV ha n c hn,jV hb m d hm]
 rw[Lib.cmp_eq];rfl
theorem eN (w:World) (A B:Option Addr) (a b:List UInt8) (n m c d:Nat) (hn:n=a.length) (hm:m=b.length) (ha:Src w A (a.map zu)) (hb:Src w B (b.map zu)) :
  Calls Tryz.prog 185 #[.slice A n c,.slice B m d] w fun e w'=>e=.returned (.int .i64 (Lib.compareBytes a b))∧w=w':=by
 have h1:=Hh (Z9 (P:=Tryz.prog) ha hb n m c d hn hm);clear hn hm ha hb;go_enter Tryz.func185,Tryz.ntmps185
 go_wp2
 rw[run_callFunc_extern Tryz.func208 (by kernel_rfl) (by kernel_rfl) (by kernel_rfl) (e:=Extern.BytealgCompare.compare) (by kernel_rfl),h1.out]
 simp only[Result.andThen]
 rw[Oper.upon_value];go_wp2
 go_ret
 exact jaM
theorem ry (w:World) (A:Option Addr) (l:List UInt8) (n c:Nat) (hn:n=l.length) (hl:l.length≤1099511627776) (hs:Src w A (l.map zu)) :
  Calls Tryz.prog 126 #[.slice A n c] w fun e w'=>∃ r,e=.returned r∧Fresh w l r w':=by
 cases A with
 | none =>
  have h0:l=[]:=by
   cases l with
   | nil=>rfl
   | cons a l=>obtain⟨b,off,h,_⟩:=hs (by simp);cases h
  subst h0;have he:=fun w:World=>Lib.run_eql_slice_nil (P:=Tryz.prog) w _ _ none n c 0 0 Tryz.underlying22
  clear hn hl;go_enter Tryz.func126,Tryz.ntmps126
  go_wp2
  go_ret
  exact⟨_,rfl,OwnB.nil _ _,Below.refl _ _⟩
 | some a =>
 have he:=fun w:World=>Lib.run_eql_slice_nil (P:=Tryz.prog) w _ _ (some a) n c 0 0 Tryz.underlying22
 simp only[Option.isNone]at he
 have HN:=Hh hn;clear hn;go_enter Tryz.func126,Tryz.ntmps126
 go_wp2_with (at_builtin;refine zh ?_)
 unfold zZ
 have h0:OwnB (w.alloc (.cells #[] 5)) w.heap.size (.slice (some ⟨w.heap.size,0,none⟩) 0 0) []:=OwnB.lit w _ [] #[] 0 rfl rfl (Nat.le_refl _) (by simp)
 refine zv rfl (.tmp 5) (.tmp 6) rfl w.heap.size _ [] rfl h0 (some a) n c l rfl HN.out ?_ (by simpa using hl) (by simp) ?_
 ·exact hs.alloc _
 intro v' w' tW hg _
 have hf:Fresh w l v' w':=⟨by rw[List.nil_append]at tW;exact tW,(zX w _).grown hg (by simp) (fun k hk=>(h0.lt k hk).1)⟩
 clear tW hg h0;go_wp2
 go_ret
 exact⟨_,rfl,hf⟩
def u8 (n:Nat):UInt8:=UInt8.ofNat n
theorem gV (n:Nat):(u8 n).toNat=n%256:=by simp[u8]
theorem yC (n:Nat):zu (u8 n)=.int .u8 ((n%256:Nat):Int):=by simp[zu,gV]
theorem Pc (x:Int) (n:Nat) (h:x=((n%256:Nat):Int)):Value.int .u8 x=zu (u8 n):=by rw[yC,h]
def be8 (n:Nat):Nat→List UInt8
 | 0=>[]
 | k+1=>be8 n k++[u8 (n/2 ^ (56-8*k))]
theorem sQ (n k:Nat):(be8 n k).length=k:=by induction k <;> simp[be8, *]
def zV (m n:Nat):List UInt8 :=
 if n<24 then [u8 (m*32+n)]
 else if n<256 then [u8 (m*32+24),u8 n]
 else if n<65536 then [u8 (m*32+25),u8 (n/256),u8 n]
 else if n<4294967296 then [u8 (m*32+26),u8 (n/16777216),u8 (n/65536),u8 (n/256),u8 n]
 else u8 (m*32+27)::be8 n 8
theorem yM (m n:Nat):(zV m n).length=if n<24 then 1 else if n<256 then 2 else if n<65536 then 3 else if n<4294967296 then 5 else 9:=by
 unfold zV
 repeat' split
 all_goals simp[sQ]
theorem yZ (m n:Nat):1≤(zV m n).length∧(zV m n).length≤9:=by
 rw[yM]
 repeat' split
 all_goals omega
theorem Zl (a:Nat) (ha:a<256):(BitVec.ofInt 8 (a:Int)).toNat=a:=by
 exact jbM
theorem UY (a b:Nat) (ha:a<256) (hb:b<256):bits .or .u8 (a:Int) (b:Int)=((a ||| b:Nat):Int):=by
 have hx:a ||| b<2 ^ 8:=Nat.or_lt_two_pow (by omega) (by omega);show IntKind.u8.wrap ((BitVec.ofInt 8 (a:Int) ||| BitVec.ofInt 8 (b:Int)).toNat:Int)=_
 rw[BitVec.toNat_or,Zl a ha,Zl b hb,IntKind.wrap_u8]
 omega
theorem NR (m n:Nat) (hn:n<32):m*32 ||| n=m*32+n:=by
 have h:=Nat.two_pow_add_eq_or_of_lt (i:=5) (b:=n) (by omega) m;rw[show 2 ^ 5*m=m*32 by omega]at h
 exact h.symm
theorem sP (m n:Nat) (hm:m<8) (hn:n<32):bits .or .u8 ((m:Int)*32) (n:Int)=((m*32+n:Nat):Int):=by
 have h:=UY (m*32) n (by omega) (by omega);rw[NR m n hn]at h
 simpa using h
def isNaN (n:Nat):Bool:=n/2 ^ 52%2048==2047&&n%2 ^ 52 != 0
def ye (n eb mb:Nat):Option Nat :=
 let sign:=n/2 ^ 63*2 ^ (eb+mb)
 let e:=n/2 ^ 52%2048
 let m:=n%2 ^ 52
 let top:=2 ^ eb-1
 let bias:=2 ^ (eb-1)-1
 if e=2047 then(if m=0 then some (sign+top*2 ^ mb) else none)
 else if e=0 then(if m=0 then some sign else none)
 else if 1023+top≤e+bias then none
 else if 1023<e+bias then(if m%2 ^ (52-mb)=0 then some (sign+(e+bias-1023)*2 ^ mb+m/2 ^ (52-mb)) else none)
 else
  let shift:=53-mb+(1023-e-bias)
  if 52<shift then none else if(m+2 ^ 52)%2 ^ shift=0 then some (sign+(m+2 ^ 52)/2 ^ shift) else none
def yw (n:Nat):List UInt8 :=
 if isNaN n then [u8 249,u8 126,u8 0] else
 match ye n 5 10 with
 | some v=>[u8 249,u8 (v/256),u8 v]
 | none=>match ye n 8 23 with
  | some v=>[u8 250,u8 (v/16777216),u8 (v/65536),u8 (v/256),u8 v]
  | none=>u8 251::be8 n 8
def sf (x:Itm):Nat :=
 if x.kind=2∨x.kind=3 then x.bytes.length else if x.kind=4 then x.items.length else if x.kind=5 then x.items.length/2 else x.n
mutual
def xB:Itm→List UInt8
 | .mk k n bs l =>
 if k=8 then yw n
 else if k=7∧24≤n then [u8 248,u8 n]
 else zV k.toNat (sf (.mk k n bs l))++bs++ut l
def ut:List Itm→List UInt8
 | []=>[]
 | x::l=>xB x++ut l
end
theorem um (x:Itm):xB x=if x.kind=8 then yw x.n else if x.kind=7∧24≤x.n then [u8 248,u8 x.n] else zV x.kind.toNat (sf x)++x.bytes++ut x.items:=by
 cases x
 rw[xB];rfl
mutual
def cnt:Itm→Nat
 | .mk _ _ _ l=>qg l+1
def qg:List Itm→Nat
 | []=>0
 | x::l=>cnt x+qg l
end
theorem ZS:∀ (l:List Itm) (k:Nat) (hk:k<l.length),cnt l[k]≤qg l
 | [],k,hk=>by simp at hk
 | x::l,0,_=>by rw[qg];simp
 | x::l,k+1,hk=>by
  have:=ZS l k (by simpa using hk);rw[qg]
  simp only[List.getElem_cons_succ]
  omega
theorem jw (x:Itm) (k:Nat) (hk:k<x.items.length):cnt x.items[k]<cnt x:=by
 cases x with
 | mk a b c l =>
 have:=ZS l k hk;rw[cnt]
 simp only[Itm.items]
 omega
theorem nD (m n:Int) (w:World) (iM:0≤m) (hm:m<8) (h0:0≤n) (h1:n<18446744073709551616) :
  Calls Tryz.prog 143 #[.int .u8 m,.int .u64 n] w fun e w'=>∃ r,e=.returned r∧Fresh w (zV m.toNat n.toNat) r w':=by
 obtain⟨m',JZ⟩:=Int.eq_ofNat_of_zero_le iM;obtain⟨n',Ou⟩:=Int.eq_ofNat_of_zero_le h0;have HM:=Hh JZ;have HN:=Hh Ou;have H1:=Hh h1;clear h1 JZ Ou;go_enter Tryz.func143,Tryz.ntmps143
 go_wp2
 ·exact jbd
 ·exact jaX
 ·exact jaN
 ·exact jaI
 have HG:Hid (zV m.toNat n.toNat=u8 (m.toNat*32+27)::be8 n.toNat 8):=by
  have iK:(4294967296:Int)≤n:=by with_reducible assumption
  rw[zV,if_neg (by omega),if_neg (by omega),if_neg (by omega),if_neg (by omega)];rfl
 have Jd:OwnB (w.alloc (.cells #[.int .u8 (bits .or .u8 (m*32) 27)] 5)) w.heap.size (.slice (some ⟨w.heap.size,0,none⟩) 1 1) [u8 (m.toNat*32+27)]:=by
  refine OwnB.lit w _ _ _ 1 rfl ?_ (Nat.le_refl _) (by simp)
  have e27':=sP m.toNat 27 (by omega) (by omega);rw[show((27:Nat):Int)=27 from rfl,Int.toNat_of_nonneg iM]at e27'
  simp only[List.map_cons,List.map_nil,yC]
  rw[e27',Nat.mod_eq_of_lt (by omega)]
 go_loopw [6,7] (fun v s wr=>∃ k:Nat,k≤8∧s=.int .i64 (56-8*(k:Int))∧OwnB wr w.heap.size v (u8 (m.toNat*32+27)::be8 n.toNat k)∧Below w.heap.size w wr) (fun _ s _=>(intOf s+8).toNat)
 case atStart=>exact⟨0,by omega,rfl,Jd,(Below.refl _ _).alloc (Nat.le_refl _) _⟩
 case round =>
 obtain⟨k,hk,rfl,tW,hb⟩:=hrel
 by_cases z9:k<8
 ·have Ih:=hb.size;go_wp2_with (at_builtin;refine zv rfl (.tmp 61) (.tmp 66) rfl w.heap.size _ _ rfl (tW.alloc _) _ 1 1 [u8 (n.toNat/2 ^ (56-8*k))] rfl rfl ?hs ?hl ?hz ?_)
  case hs =>
   rw[Pc (n/2 ^ (56-8*k)%256) (n.toNat/2 ^ (56-8*k)) (by obtain rfl:=HN.out;simp)]
   exact Src.lit wr #[zu (u8 (n.toNat/2 ^ (56-8*k)))] _
  case hl=>simp[sQ];omega
  case hz=>simp;omega
  intro v' w' hown' hg _
  have R:OwnB w' w.heap.size v' (u8 (m.toNat*32+27)::be8 n.toNat (k+1))∧Below w.heap.size w w' :=
   ⟨by simpa [be8] using hown',((hb.alloc Ih _).grown hg (by simp;omega) (fun g hg=>(tW.lt g hg).1))⟩
  clear hown' hg tW hb Jd;go_wp2
  go_roundw
  case rel=>exact⟨k+1,by omega,by go_num,R.1,R.2⟩
  case measure=>simp[intOf];omega
 have Ir:k=8:=by omega
 subst Ir;go_wp2
 go_ret
 refine⟨_,rfl, ?_⟩
 rw[HG.out]
 exact⟨tW,hb⟩
def yK:Nat:=9221120237041090560
def vG (x:Itm):Bool:=x.kind==0||x.kind==1||x.kind==2||x.kind==3||x.kind==7||x.kind==8
def tY (x:Itm):Bool :=
 if x.kind=0∨x.kind=1 then x.bytes.isEmpty&&x.items.isEmpty
 else if x.kind=2 then x.n==0&&x.items.isEmpty
 else if x.kind=3 then x.n==0&&x.items.isEmpty&&Lib.validD x.bytes
 else if x.kind=7 then x.bytes.isEmpty&&x.items.isEmpty&&(decide (x.n<24)||decide (32≤x.n)&&decide (x.n<256))
 else if x.kind=8 then x.bytes.isEmpty&&x.items.isEmpty&&(!isNaN x.n||x.n==yK)
 else false
def RJ:List Itm→Bool
 | a::b::c::l=>decide (Lib.compareBytes (xB a) (xB c)<0)&&RJ (c::l)
 | _=>true
theorem k8 (n:Nat):isNaN n=true↔n/2 ^ 52%2048=2047∧n%2 ^ 52≠0:=by
 simp[isNaN]
theorem Zt (n:Nat):(Ieee.double.read n).isNaN=isNaN n:=by
 rw[Bool.eq_iff_iff,k8];have hs:Ieee.double.signWeight=9223372036854775808:=rfl;have hb:Ieee.double.binade=4503599627370496:=rfl;have hi:Ieee.double.infRung=9218868437227405312:=rfl
 simp only[Nat.reducePow]
 by_cases h1:n%Ieee.double.signWeight<Ieee.double.binade
 ·rw[show Ieee.double.read n=.number _ _ _ from if_pos h1];rw[hs,hb]at h1
  exact jcA
 by_cases h2:n%Ieee.double.signWeight<Ieee.double.infRung
 ·rw[show Ieee.double.read n=.number _ _ _ from(if_neg h1).trans (if_pos h2)];rw[hs,hi]at h2
  exact jcA
 by_cases h3:n%Ieee.double.signWeight=Ieee.double.infRung
 ·rw[show Ieee.double.read n=.infinity _ from(if_neg h1).trans ((if_neg h2).trans (if_pos h3))];rw[hs,hi]at h3
  exact jcA
 rw[show Ieee.double.read n=.nan _ _ from(if_neg h1).trans ((if_neg h2).trans (if_neg h3))];rw[hs,hi]at h2 h3
 simp only[Ieee.Datum.isNaN,true_iff]
 omega
theorem XE (d:Ieee.Datum):(d.order d==some .eq) = !d.isNaN:=by
 cases d with
 | nan a b=>rfl
 | infinity s=>cases s <;> rfl
 | number s m i =>
 simp[Ieee.Datum.order,Ieee.Datum.isNaN]
theorem Tt (n:Nat):(FloatKind.f64.format.order n n==some .eq) = !isNaN n:=by
 show(Ieee.Datum.order (Ieee.double.read n) (Ieee.double.read n)==some .eq)=_
 rw[XE,Zt]
theorem Tu (n:Nat):(FloatKind.f64.format.order n n != some .eq)=isNaN n:=by
 rw[bne,Tt,Bool.not_not]
theorem xL (n:Nat) (w:World):(callFunc 179 #[.int .u64 (n:Int)]).run Tryz.prog w=.ok (.value (.float .f64 n)) w:=by
 rw[run_callFunc_extern Tryz.func179 (by kernel_rfl) (by kernel_rfl) (by kernel_rfl) (e:=Extern.MathFloatBits.float64frombits) (by kernel_rfl)];rfl
theorem z6 (n:Nat) (w:World):(callFunc 180 #[.float .f64 n]).run Tryz.prog w=.ok (.value (.int .u64 (n:Int))) w:=by
 rw[run_callFunc_extern Tryz.func180 (by kernel_rfl) (by kernel_rfl) (by kernel_rfl) (e:=Extern.MathFloatBits.float64bits) (by kernel_rfl)];rfl
theorem ZB (n:Nat) (w:World):(callFunc 182 #[.float .f32 n]).run Tryz.prog w=.ok (.value (.int .u32 (n:Int))) w:=by
 rw[run_callFunc_extern Tryz.func182 (by kernel_rfl) (by kernel_rfl) (by kernel_rfl) (e:=Extern.MathFloatBits.float32bits) (by kernel_rfl)];rfl
def pC (x:Itm) (lv:Nat):Bool :=
 decide (4≤x.kind∧x.kind≤6∧lv<8∧x.bytes.length=0∧(x.kind=6→x.items.length=1)∧(x.kind≠6→x.n=0)∧(x.kind=5→x.items.length%2=0))
theorem vN (x:Itm):vG x=true↔x.kind=0∨x.kind=1∨x.kind=2∨x.kind=3∨x.kind=7∨x.kind=8:=by
 simp[vG]
 omega
theorem ol {x:Itm}{lv:Nat}(h:pC x lv=true):4≤x.kind∧x.kind≤6∧lv<8∧x.bytes.length=0∧(x.kind=6→x.items.length=1)∧(x.kind≠6→x.n=0)∧(x.kind=5→x.items.length%2=0) :=
 of_decide_eq_true h
theorem qG {x:Itm}(hp:vG x=true) (ho:tY x=true):x.items=[]∧(x.kind=8∨x.kind=7→x.bytes=[]):=by
 rw[vN]at hp
 unfold tY at ho
 rcases hp with h | h | h | h | h | h <;> simp[h]at ho⊢ <;> simp[ho]
def Tabs (H:Snap):Prop:=∀ w,Holds w H→Lib.Utf8Tabs 0 1 w
theorem Tabs.mono {H K:Snap}(h:Tabs H) (hl:H.le K):Tabs K:=fun w hw=>h w (hw.mono hl)
theorem IsItem.plain (H:Snap) (k:Int) (n:Nat) (hk : -9223372036854775808≤k∧k≤9223372036854775807) (hn:n<18446744073709551616):IsItem H none 0 none 0 (.mk k n [] []):=by
 rw[IsItem]
 exact⟨⟨hk.1,hk.2,hn,Nat.le_refl _,by omega⟩,IsBytes.nil H,fun h=>absurd h (by simp)⟩
theorem Grows.own {w wA w1 w':World}{H H':Snap}{g:Nat}(hA:Below w.heap.size w wA) (hH:Holds w H) (h:Grows wA H w1 H') (hg:w1.grownBy w' (some g)) (h1:w.heap.size≤g) (h2:g<wA.heap.size):Grows w H w' H' :=
 ⟨(hA.trans (h.below.mono hA.size)).grown hg (Nat.le_trans hA.size h.below.size) (by rintro k ⟨⟩;exact h1),h.le,h.holds.grown hg (by rintro k ⟨⟩;exact h.none (hH.none_of_ge h1) h2),fun b o hb=>by
  rcases h.fresh b o hb with h | h
  ·exact .inl h
  exact .inr (Nat.le_trans hA.size h)⟩
theorem Gives.own {w wA w1 w':World}{H:Snap}{x:Itm}{v:Value}{g:Nat}(hA:Below w.heap.size w wA) (hH:Holds w H) (h:Gives wA H x v w1) (hg:w1.grownBy w' (some g)) (h1:w.heap.size≤g) (h2:g<wA.heap.size):Gives w H x v w':=by
 obtain⟨ba,bc,ia,ic,H',e,hG,hi⟩:=h
 exact⟨ba,bc,ia,ic,H',e,hG.own hA hH hg h1 h2,hi⟩
theorem Lb (a b c d:Value) (ha:a.oneCell'=true) (hb:b.oneCell'=true) (hc:c.oneCell'=true) (hd:d.oneCell'=true):(#[a,b,c,d]:Array Value).all (·.oneCell')=true:=by simp[ha,hb,hc,hd]
theorem Yg {w:World}{H:Snap}(hH:Holds w H) (s:ByteArray) (hl:s.size≤1099511627776) :
  ∃ g c w',(convert 9 22 (.string s)).run Tryz.prog w=.ok (.slice (some ⟨g,0,none⟩) s.size c) w'∧Below w.heap.size w w'∧∃ H',Grows w H w' H'∧IsBytes H' (some ⟨g,0,none⟩) c s.data.toList:=by
 refine⟨_,_,_,run_bytes_of_string (P:=Tryz.prog) w 9 22 5 s Tryz.underlying9 Tryz.underlying22 Tryz.underlying5, ?_, ?_⟩
 ·exact(Below.refl _ _).drew.alloc (Nat.le_refl _) _
 obtain⟨o,ho⟩:∃ o,o=Obj.cells (bytesRow s (grownCap w s.size 0 5)) 5 ((bytesRow s (grownCap w s.size 0 5)).size,(bytesRow s (grownCap w s.size 0 5)).size+1):=⟨_,rfl⟩
 rw[← ho];have h0:H w.heap.size=none:=hH.none_of_ge (Nat.le_refl _)
 refine⟨H.with w.heap.size o,⟨(Below.refl _ _).drew.alloc (Nat.le_refl _) _,Snap.le_with h0,(hH.drew.alloc o).with (heap_alloc_new w.drew o),fun b x hb=>?_⟩, ?_, ?_, ?_⟩
 ·unfold Snap.with at hb
  split at hb
  ·subst b;exact .inr (Nat.le_refl _)
  exact .inl hb
 ·simpa using grownCap_ge w s.size 0 5
 ·have:=grownCap_le_maxLen w s.size 0 5 (by simp only[maxLen];omega)
  simpa [maxLen] using this
 refine fun _=>⟨w.heap.size,0,rfl,fun j v hj=>?_⟩
 have fH:j<s.data.size:=by
  have:=(List.getElem?_eq_some_iff.1 hj).1
  simpa using this
 subst ho
 simp only[Snap.cell?,Snap.with,if_true,Nat.zero_add,Option.isSome,Bool.false_eq_true,if_false]
 rw[bytesRow_at s _ j fH]
 simp at hj
 obtain⟨a,h1,h2⟩:=hj;rw[Array.getElem?_eq_getElem fH]at h1;injection h1 with h1
 rw[h1,← h2]
def SB (H:Snap) (A:Option Addr) (t:ByteArray):Prop:=0<t.size→∃ b off,A=some ⟨b,off,none⟩∧∀ j,j<t.size→H.cell? ⟨b,off+j,none⟩=some (.int .u8 ((t.get! j).toNat:Int))
theorem N5 (l:List UInt8):(⟨l.toArray⟩:ByteArray).data.toList=l:=by simp
theorem Jk (l:List UInt8) (j:Nat) (h:j<l.length):(⟨l.toArray⟩:ByteArray).get! j=l[j]:=by
 show l.toArray[j]! = l[j]
 rw[getElem!_pos l.toArray j (by simpa using h)]
 simp
theorem SB.of {H:Snap}{A:Option Addr}{c:Nat}{l:List UInt8}(h:IsBytes H A c l):SB H A ⟨l.toArray⟩:=fun h0=>by
 have hl:(⟨l.toArray⟩:ByteArray).size=l.length:=by show l.toArray.size=l.length;simp
 rw[hl]at h0;obtain⟨b,off,e,hc⟩:=h.at_ h0
 refine⟨b,off,e,fun j hj=>?_⟩
 rw[hl]at hj;rw[hc j hj,Jk l j hj]
theorem sX {H:Snap}{A:Option Addr}{t:ByteArray}(hs:SB H A t) (h8:8≤t.size) (c:Nat) (w:World) (hH:Holds w H) :
  Calls Tryz.prog 187 #[.slice A t.size c] w fun e w'=>e=.returned (.int .u64 ((Lib.leNat [t.get! 0,t.get! 1,t.get! 2,t.get! 3,t.get! 4,t.get! 5,t.get! 6,t.get! 7]:Nat):Int))∧∃ q,w'=w.drewN q:=by
 obtain⟨b,off,rfl,hc⟩:=hs (by omega);have c0:=hH.cell (hc 0 (by omega));have q0:(0:Int)<(t.size:Int):=by omega
 have p0:0<t.size:=by omega
 have c1:=hH.cell (hc 1 (by omega));have q1:(1:Int)<(t.size:Int):=by omega
 have p1:1<t.size:=by omega
 have c2:=hH.cell (hc 2 (by omega));have q2:(2:Int)<(t.size:Int):=by omega
 have p2:2<t.size:=by omega
 have c3:=hH.cell (hc 3 (by omega));have q3:(3:Int)<(t.size:Int):=by omega
 have p3:3<t.size:=by omega
 have c4:=hH.cell (hc 4 (by omega));have q4:(4:Int)<(t.size:Int):=by omega
 have p4:4<t.size:=by omega
 have c5:=hH.cell (hc 5 (by omega));have q5:(5:Int)<(t.size:Int):=by omega
 have p5:5<t.size:=by omega
 have c6:=hH.cell (hc 6 (by omega));have q6:(6:Int)<(t.size:Int):=by omega
 have p6:6<t.size:=by omega
 have c7:=hH.cell (hc 7 (by omega));have q7:(7:Int)<(t.size:Int):=by omega
 have p7:7<t.size:=by omega
 have l0:=(t.get! 0).toNat_lt
 generalize t.get! 0=x0 at *
 have l1:=(t.get! 1).toNat_lt
 generalize t.get! 1=x1 at *
 have l2:=(t.get! 2).toNat_lt
 generalize t.get! 2=x2 at *
 have l3:=(t.get! 3).toNat_lt
 generalize t.get! 3=x3 at *
 have l4:=(t.get! 4).toNat_lt
 generalize t.get! 4=x4 at *
 have l5:=(t.get! 5).toNat_lt
 generalize t.get! 5=x5 at *
 have l6:=(t.get! 6).toNat_lt
 generalize t.get! 6=x6 at *
 have l7:=(t.get! 7).toNat_lt
 generalize t.get! 7=x7 at *
 have hv:((Lib.leNat [x0,x1,x2,x3,x4,x5,x6,x7]:Nat):Int)=(x0.toNat:Int)+(x1.toNat:Int)*256+(x2.toNat:Int)*65536+(x3.toNat:Int)*16777216+(x4.toNat:Int)*4294967296+(x5.toNat:Int)*1099511627776+(x6.toNat:Int)*281474976710656+(x7.toNat:Int)*72057594037927936:=by
  simp only[Lib.leNat]
  push_cast
  omega
 have HV:=Hh hv;clear hv hc hs
 simp only[Nat.add_zero]at c0
 go_enter Tryz.func187,Tryz.ntmps187
 go_upto_region 2 with fail
 refine zr 47 (fun w'=>w'.cell? ⟨b,off,none⟩=some (.int .u8 (x0.toNat:Int))∧w'.cell? ⟨b,off+1,none⟩=some (.int .u8 (x1.toNat:Int))∧w'.cell? ⟨b,off+2,none⟩=some (.int .u8 (x2.toNat:Int))∧w'.cell? ⟨b,off+3,none⟩=some (.int .u8 (x3.toNat:Int))∧w'.cell? ⟨b,off+4,none⟩=some (.int .u8 (x4.toNat:Int))∧w'.cell? ⟨b,off+5,none⟩=some (.int .u8 (x5.toNat:Int))∧w'.cell? ⟨b,off+6,none⟩=some (.int .u8 (x6.toNat:Int))∧w'.cell? ⟨b,off+7,none⟩=some (.int .u8 (x7.toNat:Int))) (by kernel_rfl) (⟨c0,c1,c2,c3,c4,c5,c6,c7⟩) (fun zy=>?_)
 refine TkS 0 rfl zy ?_
 refine TkS 1 rfl zy ?_
 refine TkS 2 rfl zy ?_
 refine TkS 3 rfl zy ?_
 refine TkS 4 rfl zy ?_
 refine TkS 5 rfl zy ?_
 refine TkS 6 rfl zy ?_
 refine TkS 7 rfl zy ?_
 refine TkS 8 rfl zy ?_
 refine TkS 9 rfl zy ?_
 refine TkS 10 rfl zy ?_
 refine TkS 11 rfl zy ?_
 refine TkS 12 rfl zy ?_
 refine TkS 13 rfl zy ?_
 refine TkS 14 rfl zy ?_
 refine TkS 15 rfl zy ?_
 refine TkS 16 rfl zy ?_
 refine TkS 17 rfl zy ?_
 refine TkS 18 rfl zy ?_
 refine TkS 19 rfl zy ?_
 refine TkS 20 rfl zy ?_
 refine TkS 21 rfl zy ?_
 refine TkS 22 rfl zy ?_
 refine TkS 23 rfl zy ?_
 refine TkS 24 rfl zy ?_
 refine TkS 25 rfl zy ?_
 refine TkS 26 rfl zy ?_
 refine TkS 27 rfl zy ?_
 refine TkS 28 rfl zy ?_
 refine TkS 29 rfl zy ?_
 refine TkS 30 rfl zy ?_
 refine TkS 31 rfl zy ?_
 refine TkS 32 rfl zy ?_
 refine TkS 33 rfl zy ?_
 refine TkS 34 rfl zy ?_
 refine TkS 35 rfl zy ?_
 refine TkS 36 rfl zy ?_
 refine TkS 37 rfl zy ?_
 refine TkS 38 rfl zy ?_
 refine TkS 39 rfl zy ?_
 refine TkS 40 rfl zy ?_
 refine TkS 41 rfl zy ?_
 refine TkS 42 rfl zy ?_
 refine TkS 43 rfl zy ?_
 refine TkS 44 rfl zy ?_
 refine TkS 45 rfl zy ?_
 refine TkS 46 rfl zy ?_
 refine Wd ?_
 clear zy;go_wp2_with fail
 go_ret
 refine⟨?_,1,rfl⟩
 simp (disch:=omega) only [u64_wrap_id,u64_or8,u64_or16,u64_or24,u64_or32,u64_or40,u64_or48,u64_or56]
 rw[HV.out];rfl
theorem stI {w:World}{ops:Array Oper}{rest:List Oper}{o:Oper}{a:Act}{Q:Exit→Act→World→Prop}{x y:Operand}{g:Nat}{c0 c1 c2 c3:Value}{t:TypeId}{old:Array Value}(hB:Blk w g t old)
  (h:∀ w',Blk w' g t #[c0,c1,c2,c3]→w.grownBy w' (some g)→wpList Tryz.prog ops Q rest a w')
  (hgd:o.guard=none:=by rfl) (ho:o.op=.store 77 x y:=by rfl) (hd:o.dst=none:=by rfl) (hx:a.eval x=.pointer (some ⟨g,0,none⟩):=by rfl) (hy:a.eval y=.agg #[c0,c1,c2,c3]:=by rfl) (hold:(#[c0,c1,c2,c3]:Array Value).size=old.size:=by rfl) (h1:c0.oneCell'=true:=by rfl) (h2:c1.oneCell'=true:=by rfl) (h3:c2.oneCell'=true:=by rfl) (h4:c3.oneCell'=true:=by rfl):wpList Tryz.prog ops Q (o::rest) a w :=
 zm hgd _ _ _ ho hd _ _ hx hy _ _ hB zj hold (Lb _ _ _ _ h1 h2 h3 h4) h
end Go.Proofs.YtkmlnjociijpgaaGreatDoor
