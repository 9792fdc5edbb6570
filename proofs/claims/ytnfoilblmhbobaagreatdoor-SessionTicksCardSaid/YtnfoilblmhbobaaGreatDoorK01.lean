/- squeezed. Walks of package bytes and slices: -/
import Derived.Test.YtnfoilblmhbobaaGreatDoorK00
import Derived.Laws.BytesArg
import Derived.Lib.Bytealg
import Derived.Laws.Externs
import Derived.Lib.ValidU
import Derived.Laws.FloatArith
import Derived.Shelf.Unicode.DecodeSlow
import Derived.Laws.IdiomStrings
import Derived.Deep.DeepCutAuto
import Derived.Deep.CutBlock
set_option linter.unusedVariables false
set_option linter.unusedSimpArgs false
set_option maxRecDepth 100000
set_option maxHeartbeats 1600000
namespace Go.Proofs.YtnfoilblmhbobaaGreatDoor
open Go.RowKit
theorem tF {P:Program}{w:World}(b:Nat):∀ (l:List UInt8) (off:Nat) (acc:ByteArray),(∀ j v,(l.map zm)[j]? = some v→w.cell? ⟨b,off+j,none⟩=some v)→
  (Extern.Bytes.loadBytes ⟨b,off,none⟩ l.length acc).run P w=.ok ⟨acc.data++l.toArray⟩ w
 | [],off,acc,_=>by simp[Extern.Bytes.loadBytes]
 | u::l,off,acc,h=>by
  have h0:=h 0 (zm u) rfl;have ih:=tF (P:=P) b l (off+1) (acc.push u) (fun j v hj=>by rw[show off+1+j=off+(j+1) by omega];exact h (j+1) v (by simpa using hj))
  simp only[List.length_cons,Extern.Bytes.loadBytes]
  simp[load,Sem.run,Result.andThen,zm]at h0⊢
  simp[h0,um,ByteArray.push]
  rw[show(⟨acc.data.push u⟩:ByteArray)=acc.push u from rfl,ih];congr 2
  simp[ByteArray.push]
theorem rI {P:Program}{w:World}{A:Option Addr}{l:List UInt8}(h:Src w A (l.map zm)) (n c:Nat) (hn:n=l.length) :
  (Extern.Bytes.bytesOf (.slice A n c)).run P w=.ok ⟨l.toArray⟩ w:=by
 subst hn
 by_cases hl:l=[]
 ·subst hl
  cases A with
  | none=>rfl
  | some a=>rfl
 obtain⟨b,off,rfl,hc⟩:=h (by simpa using hl);have:=tF (P:=P) b l off .empty hc
 simp only[Extern.Bytes.bytesOf]
 rw[this]
 simp[ByteArray.empty,ByteArray.emptyWithCapacity]
 rfl
theorem lV {P:Program}{w:World}{A B:Option Addr}{a b:List UInt8}(ha:Src w A (a.map zm)) (hb:Src w B (b.map zm)) (n m c d:Nat) (hn:n=a.length) (hm:m=b.length) :
  (Extern.BytealgCompare.compare #[.slice A n c,.slice B m d]).run P w=.ok (.int .i64 (Lib.compareBytes a b)) w:=by
 change Sem.run P (do pure (goInt (Extern.BytealgCompare.cmp (← Extern.Bytes.bytesOf (.slice A n c)) (← Extern.Bytes.bytesOf (.slice B m d))))) w=_
 simp only[Sem.run_bind,Sem.run_pure,Result.andThen,rI ha n c hn,rI hb m d hm]
 rw[Lib.cmp_eq];rfl
theorem oy (w:World) (A B:Option Addr) (a b:List UInt8) (n m c d:Nat) (hn:n=a.length) (hm:m=b.length) (ha:Src w A (a.map zm)) (hb:Src w B (b.map zm)) :
  Calls Tryz.prog 64 #[.slice A n c,.slice B m d] w fun e w'=>e=.returned (.int .i64 (Lib.compareBytes a b))∧w=w':=by
 have h1:=Hh (lV (P:=Tryz.prog) ha hb n m c d hn hm);clear hn hm ha hb;go_enter Tryz.func64,Tryz.ntmps64
 go_wp2
 rw[run_callFunc_extern Tryz.func75 (by kernel_rfl) (by kernel_rfl) (by kernel_rfl) (e:=Extern.BytealgCompare.compare) (by kernel_rfl),h1.out]
 simp only[Result.andThen]
 rw[Oper.upon_value];go_wp2
 go_ret
 exact⟨rfl,rfl⟩
theorem vE (w:World) (A:Option Addr) (l:List UInt8) (n c:Nat) (hn:n=l.length) (hl:l.length≤1099511627776) (hs:Src w A (l.map zm)) :
  Calls Tryz.prog 48 #[.slice A n c] w fun e w'=>∃ r,e=.returned r∧Fresh w l r w':=by
 cases A with
 | none =>
  have h0:l=[]:=by
   cases l with
   | nil=>rfl
   | cons a l=>obtain⟨b,off,h,_⟩:=hs (by simp);cases h
  subst h0;have he:=fun w:World=>Lib.run_eql_slice_nil (P:=Tryz.prog) w _ _ none n c 0 0 Tryz.underlying22
  clear hn hl;go_enter Tryz.func48,Tryz.ntmps48
  go_wp2
  go_ret
  exact⟨_,rfl,OwnB.nil _ _,Below.refl _ _⟩
 | some a =>
 have he:=fun w:World=>Lib.run_eql_slice_nil (P:=Tryz.prog) w _ _ (some a) n c 0 0 Tryz.underlying22
 simp only[Option.isNone]at he
 have HN:=Hh hn;clear hn;go_enter Tryz.func48,Tryz.ntmps48
 go_wp2_with (at_builtin;refine zn ?_)
 unfold zj
 have h0:OwnB (w.alloc (.cells #[] 5)) w.heap.size (.slice (some ⟨w.heap.size,0,none⟩) 0 0) []:=OwnB.lit w _ [] #[] 0 rfl rfl (Nat.le_refl _) (by simp)
 refine zw rfl (.tmp 5) (.tmp 6) rfl w.heap.size _ [] rfl h0 (some a) n c l rfl HN.out ?_ (by simpa using hl) (by simp) ?_
 ·exact hs.alloc _
 intro v' w' xR hg _
 have hf:Fresh w l v' w':=⟨by rw[List.nil_append]at xR;exact xR,(zb w _).grown hg (by simp) (fun k hk=>(h0.lt k hk).1)⟩
 clear xR hg h0;go_wp2
 go_ret
 exact⟨_,rfl,hf⟩
def u8 (n:Nat):UInt8:=UInt8.ofNat n
theorem qN (n:Nat):(u8 n).toNat=n%256:=by simp[u8]
theorem ye (n:Nat):zm (u8 n)=.int .u8 ((n%256:Nat):Int):=by simp[zm,qN]
theorem dJ (x:Int) (n:Nat) (h:x=((n%256:Nat):Int)):Value.int .u8 x=zm (u8 n):=by rw[ye,h]
def be8 (n:Nat):Nat→List UInt8
 | 0=>[]
 | k+1=>be8 n k++[u8 (n/2 ^ (56-8*k))]
theorem wh (n k:Nat):(be8 n k).length=k:=by induction k <;> simp[be8, *]
def zW (m n:Nat):List UInt8 :=
 if n<24 then [u8 (m*32+n)]
 else if n<256 then [u8 (m*32+24),u8 n]
 else if n<65536 then [u8 (m*32+25),u8 (n/256),u8 n]
 else if n<4294967296 then [u8 (m*32+26),u8 (n/16777216),u8 (n/65536),u8 (n/256),u8 n]
 else u8 (m*32+27)::be8 n 8
theorem zB (m n:Nat):(zW m n).length=if n<24 then 1 else if n<256 then 2 else if n<65536 then 3 else if n<4294967296 then 5 else 9:=by
 unfold zW
 repeat' split
 all_goals simp[wh]
theorem yZ (m n:Nat):1≤(zW m n).length∧(zW m n).length≤9:=by
 rw[zB]
 repeat' split
 all_goals omega
theorem mA (a:Nat) (ha:a<256):(BitVec.ofInt 8 (a:Int)).toNat=a:=by
 rw[BitVec.ofInt_natCast,BitVec.toNat_ofNat];exact Nat.mod_eq_of_lt (by omega)
theorem gk (a b:Nat) (ha:a<256) (hb:b<256):bits .or .u8 (a:Int) (b:Int)=((a ||| b:Nat):Int):=by
 have hx:a ||| b<2 ^ 8:=Nat.or_lt_two_pow (by omega) (by omega);show IntKind.u8.wrap ((BitVec.ofInt 8 (a:Int) ||| BitVec.ofInt 8 (b:Int)).toNat:Int)=_
 rw[BitVec.toNat_or,mA a ha,mA b hb,IntKind.wrap_u8]
 omega
theorem bM (m n:Nat) (hn:n<32):m*32 ||| n=m*32+n:=by
 have h:=Nat.two_pow_add_eq_or_of_lt (i:=5) (b:=n) (by omega) m;rw[show 2 ^ 5*m=m*32 by omega]at h
 exact h.symm
theorem we (m n:Nat) (hm:m<8) (hn:n<32):bits .or .u8 ((m:Int)*32) (n:Int)=((m*32+n:Nat):Int):=by
 have h:=gk (m*32) n (by omega) (by omega);rw[bM m n hn]at h
 simpa using h
def isNaN (n:Nat):Bool:=n/2 ^ 52%2048==2047&&n%2 ^ 52 != 0
def zA (n eb mb:Nat):Option Nat :=
 let sign:=n/2 ^ 63*2 ^ (eb+mb)
 let e:=n/2 ^ 52%2048
 let m:=n%2 ^ 52
 let top:=2 ^ eb-1
 let bias:=2 ^ (eb-1)-1
 if e=2047 then(if m=0 then some (sign+top*2 ^ mb) else none)
 else if e=0 then(if m=0 then some sign else none)
 else if 1023+top≤e+bias then none
 else if 1023<e+bias then(if m%2 ^ (52-mb)=0 then some (sign+(e+bias-1023)*2 ^ mb+m/2 ^ (52-mb)) else none)
 else
  let shift:=53-mb+(1023-e-bias)
  if 52<shift then none else if(m+2 ^ 52)%2 ^ shift=0 then some (sign+(m+2 ^ 52)/2 ^ shift) else none
def zH (n:Nat):List UInt8 :=
 if isNaN n then [u8 249,u8 126,u8 0] else
 match zA n 5 10 with
 | some v=>[u8 249,u8 (v/256),u8 v]
 | none=>match zA n 8 23 with
  | some v=>[u8 250,u8 (v/16777216),u8 (v/65536),u8 (v/256),u8 v]
  | none=>u8 251::be8 n 8
def sQ (x:Itm):Nat :=
 if x.kind=2∨x.kind=3 then x.bytes.length else if x.kind=4 then x.items.length else if x.kind=5 then x.items.length/2 else x.n
mutual
def mW:Itm→List UInt8
 | .mk k n bs l =>
 if k=8 then zH n
 else if k=7∧24≤n then [u8 248,u8 n]
 else zW k.toNat (sQ (.mk k n bs l))++bs++rY l
def rY:List Itm→List UInt8
 | []=>[]
 | x::l=>mW x++rY l
end
theorem vI (x:Itm):mW x=if x.kind=8 then zH x.n else if x.kind=7∧24≤x.n then [u8 248,u8 x.n] else zW x.kind.toNat (sQ x)++x.bytes++rY x.items:=by
 cases x
 rw[mW];rfl
mutual
def cnt:Itm→Nat
 | .mk _ _ _ l=>tJ l+1
def tJ:List Itm→Nat
 | []=>0
 | x::l=>cnt x+tJ l
end
theorem tV (m n:Int) (w:World) (hm0:0≤m) (hm:m<8) (h0:0≤n) (h1:n<18446744073709551616) :
  Calls Tryz.prog 58 #[.int .u8 m,.int .u64 n] w fun e w'=>∃ r,e=.returned r∧Fresh w (zW m.toNat n.toNat) r w':=by
 obtain⟨m',YB⟩:=Int.eq_ofNat_of_zero_le hm0;obtain⟨n',cS⟩:=Int.eq_ofNat_of_zero_le h0;have HM:=Hh YB;have HN:=Hh cS;have H1:=Hh h1;clear h1 YB cS;go_enter Tryz.func58,Tryz.ntmps58
 go_wp2
 ·go_ret
  obtain rfl:=HM.out;obtain rfl:=HN.out;rw[Int.toNat_natCast,Int.toNat_natCast];have z6:(n':Int)<24:=by with_reducible assumption
  refine⟨_,rfl,Fresh.lit _ _ _ 1 ?_ ?_ ?_⟩
  ·rw[zB,if_pos (by omega)]
  ·have:=(yZ m' n').2;omega
  rw[zW,if_pos (by omega)]
  simp only[List.map_cons,List.map_nil,ye]
  rw[we m' n' (by omega) (by omega),Nat.mod_eq_of_lt (by omega)]
 ·go_ret
  obtain rfl:=HM.out;obtain rfl:=HN.out;rw[Int.toNat_natCast,Int.toNat_natCast];have kr:(24:Int)≤n':=by with_reducible assumption
  have z6:(n':Int)<256:=by with_reducible assumption
  refine⟨_,rfl,Fresh.lit _ _ _ 2 ?_ ?_ ?_⟩
  ·rw[zB,if_neg (by omega),if_pos (by omega)]
  ·have:=(yZ m' n').2;omega
  rw[zW,if_neg (by omega),if_pos (by omega)]
  simp only[List.map_cons,List.map_nil,ye]
  have e24':=we m' 24 (by omega) (by omega);rw[show((24:Nat):Int)=24 from rfl]at e24';rw[e24',Nat.mod_eq_of_lt (by omega),Nat.mod_eq_of_lt (by omega)]
 ·go_ret
  obtain rfl:=HM.out;obtain rfl:=HN.out;rw[Int.toNat_natCast,Int.toNat_natCast];have kr:(256:Int)≤n':=by with_reducible assumption
  have z6:(n':Int)<65536:=by with_reducible assumption
  refine⟨_,rfl,Fresh.lit _ _ _ 3 ?_ ?_ ?_⟩
  ·rw[zB,if_neg (by omega),if_neg (by omega),if_pos (by omega)]
  ·have:=(yZ m' n').2;omega
  rw[zW,if_neg (by omega),if_neg (by omega),if_pos (by omega)]
  simp only[List.map_cons,List.map_nil,ye]
  have e24':=we m' 25 (by omega) (by omega);rw[show((25:Nat):Int)=25 from rfl]at e24';rw[e24',Nat.mod_eq_of_lt (show m'*32+25<256 by omega),Nat.mod_eq_of_lt (show n'/256<256 by omega)];rfl
 ·go_ret
  obtain rfl:=HM.out;obtain rfl:=HN.out;rw[Int.toNat_natCast,Int.toNat_natCast];have kr:(65536:Int)≤n':=by with_reducible assumption
  have z6:(n':Int)<4294967296:=by with_reducible assumption
  refine⟨_,rfl,Fresh.lit _ _ _ 5 ?_ ?_ ?_⟩
  ·rw[zB,if_neg (by omega),if_neg (by omega),if_neg (by omega),if_pos (by omega)]
  ·have:=(yZ m' n').2;omega
  rw[zW,if_neg (by omega),if_neg (by omega),if_neg (by omega),if_pos (by omega)]
  simp only[List.map_cons,List.map_nil,ye]
  have e24':=we m' 26 (by omega) (by omega);rw[show((26:Nat):Int)=26 from rfl]at e24';rw[e24',Nat.mod_eq_of_lt (show m'*32+26<256 by omega),Nat.mod_eq_of_lt (show n'/16777216<256 by omega)];rfl
 have HG:Hid (zW m.toNat n.toNat=u8 (m.toNat*32+27)::be8 n.toNat 8):=by
  have kr:(4294967296:Int)≤n:=by with_reducible assumption
  rw[zW,if_neg (by omega),if_neg (by omega),if_neg (by omega),if_neg (by omega)];rfl
 have UD:OwnB (w.alloc (.cells #[.int .u8 (bits .or .u8 (m*32) 27)] 5)) w.heap.size (.slice (some ⟨w.heap.size,0,none⟩) 1 1) [u8 (m.toNat*32+27)]:=by
  refine OwnB.lit w _ _ _ 1 rfl ?_ (Nat.le_refl _) (by simp)
  have e27':=we m.toNat 27 (by omega) (by omega);rw[show((27:Nat):Int)=27 from rfl,Int.toNat_of_nonneg hm0]at e27'
  simp only[List.map_cons,List.map_nil,ye]
  rw[e27',Nat.mod_eq_of_lt (by omega)]
 go_loopw [6,7] (fun v s wr=>∃ k:Nat,k≤8∧s=.int .i64 (56-8*(k:Int))∧OwnB wr w.heap.size v (u8 (m.toNat*32+27)::be8 n.toNat k)∧Below w.heap.size w wr) (fun _ s _=>(intOf s+8).toNat)
 case atStart=>exact⟨0,by omega,rfl,UD,(Below.refl _ _).alloc (Nat.le_refl _) _⟩
 case round =>
 obtain⟨k,hk,rfl,xR,hb⟩:=hrel
 by_cases z6:k<8
 ·have VT:=hb.size;go_wp2_with (at_builtin;refine zw rfl (.tmp 61) (.tmp 66) rfl w.heap.size _ _ rfl (xR.alloc _) _ 1 1 [u8 (n.toNat/2 ^ (56-8*k))] rfl rfl ?hs ?hl ?hz ?_)
  case hs =>
   rw[dJ (n/2 ^ (56-8*k)%256) (n.toNat/2 ^ (56-8*k)) (by obtain rfl:=HN.out;simp)]
   exact Src.lit wr #[zm (u8 (n.toNat/2 ^ (56-8*k)))] _
  case hl=>simp[wh];omega
  case hz=>simp;omega
  intro v' w' hown' hg _
  have R:OwnB w' w.heap.size v' (u8 (m.toNat*32+27)::be8 n.toNat (k+1))∧Below w.heap.size w w' :=
   ⟨by simpa [be8] using hown',((hb.alloc VT _).grown hg (by simp;omega) (fun g hg=>(xR.lt g hg).1))⟩
  clear hown' hg xR hb UD;go_wp2
  go_roundw
  case rel=>exact⟨k+1,by omega,by go_num,R.1,R.2⟩
  case measure=>simp[intOf];omega
 have Y7:k=8:=by omega
 subst Y7;go_wp2
 go_ret
 refine⟨_,rfl, ?_⟩
 rw[HG.out]
 exact⟨xR,hb⟩
def zG:Nat:=9221120237041090560
def vv (x:Itm):Bool:=x.kind==0||x.kind==1||x.kind==2||x.kind==3||x.kind==7||x.kind==8
def te (x:Itm):Bool :=
 if x.kind=0∨x.kind=1 then x.bytes.isEmpty&&x.items.isEmpty
 else if x.kind=2 then x.n==0&&x.items.isEmpty
 else if x.kind=3 then x.n==0&&x.items.isEmpty&&Lib.validD x.bytes
 else if x.kind=7 then x.bytes.isEmpty&&x.items.isEmpty&&(decide (x.n<24)||decide (32≤x.n)&&decide (x.n<256))
 else if x.kind=8 then x.bytes.isEmpty&&x.items.isEmpty&&(!isNaN x.n||x.n==zG)
 else false
def eO:List Itm→Bool
 | a::b::c::l=>decide (Lib.compareBytes (mW a) (mW c)<0)&&eO (c::l)
 | _=>true
theorem rU (n:Nat):isNaN n=true↔n/2 ^ 52%2048=2047∧n%2 ^ 52≠0:=by
 simp[isNaN]
theorem mF (n:Nat):(Ieee.double.read n).isNaN=isNaN n:=by
 rw[Bool.eq_iff_iff,rU];have hs:Ieee.double.signWeight=9223372036854775808:=rfl;have hb:Ieee.double.binade=4503599627370496:=rfl;have hi:Ieee.double.infRung=9218868437227405312:=rfl
 simp only[Nat.reducePow]
 by_cases h1:n%Ieee.double.signWeight<Ieee.double.binade
 ·rw[show Ieee.double.read n=.number _ _ _ from if_pos h1];rw[hs,hb]at h1
  simp only[Ieee.Datum.isNaN,Bool.false_eq_true,false_iff]
  omega
 by_cases h2:n%Ieee.double.signWeight<Ieee.double.infRung
 ·rw[show Ieee.double.read n=.number _ _ _ from(if_neg h1).trans (if_pos h2)];rw[hs,hi]at h2
  simp only[Ieee.Datum.isNaN,Bool.false_eq_true,false_iff]
  omega
 by_cases h3:n%Ieee.double.signWeight=Ieee.double.infRung
 ·rw[show Ieee.double.read n=.infinity _ from(if_neg h1).trans ((if_neg h2).trans (if_pos h3))];rw[hs,hi]at h3
  simp only[Ieee.Datum.isNaN,Bool.false_eq_true,false_iff]
  omega
 rw[show Ieee.double.read n=.nan _ _ from(if_neg h1).trans ((if_neg h2).trans (if_neg h3))];rw[hs,hi]at h2 h3
 simp only[Ieee.Datum.isNaN,true_iff]
 omega
theorem jR (d:Ieee.Datum):(d.order d==some .eq) = !d.isNaN:=by
 cases d with
 | nan a b=>rfl
 | infinity s=>cases s <;> rfl
 | number s m i =>
 simp[Ieee.Datum.order,Ieee.Datum.isNaN]
theorem gB (n:Nat):(FloatKind.f64.format.order n n==some .eq) = !isNaN n:=by
 show(Ieee.Datum.order (Ieee.double.read n) (Ieee.double.read n)==some .eq)=_
 rw[jR,mF]
theorem gC (n:Nat):(FloatKind.f64.format.order n n != some .eq)=isNaN n:=by
 rw[bne,gB,Bool.not_not]
theorem yo (n:Nat) (w:World):(callFunc 71 #[.int .u64 (n:Int)]).run Tryz.prog w=.ok (.value (.float .f64 n)) w:=by
 rw[run_callFunc_extern Tryz.func71 (by kernel_rfl) (by kernel_rfl) (by kernel_rfl) (e:=Extern.MathFloatBits.float64frombits) (by kernel_rfl)];rfl
theorem zT (n:Nat) (w:World):(callFunc 61 #[.float .f64 n]).run Tryz.prog w=.ok (.value (.int .u64 (n:Int))) w:=by
 rw[run_callFunc_extern Tryz.func61 (by kernel_rfl) (by kernel_rfl) (by kernel_rfl) (e:=Extern.MathFloatBits.float64bits) (by kernel_rfl)];rfl
theorem lW (n:Nat) (w:World):(callFunc 73 #[.float .f32 n]).run Tryz.prog w=.ok (.value (.int .u32 (n:Int))) w:=by
 rw[run_callFunc_extern Tryz.func73 (by kernel_rfl) (by kernel_rfl) (by kernel_rfl) (e:=Extern.MathFloatBits.float32bits) (by kernel_rfl)];rfl
def qg (x:Itm) (lv:Nat):Bool :=
 decide (4≤x.kind∧x.kind≤6∧lv<8∧x.bytes.length=0∧(x.kind=6→x.items.length=1)∧(x.kind≠6→x.n=0)∧(x.kind=5→x.items.length%2=0))
def Tabs (H:Snap):Prop:=∀ w,Holds w H→Lib.Utf8Tabs 0 1 w
theorem Tabs.mono {H K:Snap}(h:Tabs H) (hl:H.le K):Tabs K:=fun w hw=>h w (hw.mono hl)
theorem IsItem.plain (H:Snap) (k:Int) (n:Nat) (hk : -9223372036854775808≤k∧k≤9223372036854775807) (hn:n<18446744073709551616):IsItem H none 0 none 0 (.mk k n [] []):=by
 rw[IsItem]
 exact⟨⟨hk.1,hk.2,hn,Nat.le_refl _,by omega⟩,IsBytes.nil H,fun h=>absurd h (by simp)⟩
theorem XT (a b c d:Value) (ha:a.oneCell'=true) (hb:b.oneCell'=true) (hc:c.oneCell'=true) (hd:d.oneCell'=true):(#[a,b,c,d]:Array Value).all (·.oneCell')=true:=by simp[ha,hb,hc,hd]
theorem lR (w:World) (A B:Option Addr) (a b:List UInt8) (n m c d:Nat) (hn:n=a.length) (hm:m=b.length) (hna:n≤1099511627776) (hmb:m≤1099511627776) (ha:Src w A (a.map zm)) (hb:Src w B (b.map zm)) :
  Calls Tryz.prog 24 #[.slice A n c,.slice B m d] w fun e w'=>e=.returned (.int .i64 (Lib.compareBytes a b))∧Below w.heap.size w w':=by
 have HN:=Hh hn;have HM:=Hh hm;clear hn hm;go_enter Tryz.func24,Tryz.ntmps24
 go_wp2_with fail
 go_loopw [5] (fun vi wr=>∃ k:Nat,k≤n∧k≤m∧vi=.int .i64 k∧Lib.compareBytes (a.drop k) (b.drop k)=Lib.compareBytes a b∧Below w.heap.size w wr) (fun vi _=>n-(intOf vi).toNat)
 case atStart=>exact⟨0,by omega,by omega,rfl,by simp,Below.refl _ _⟩
 case round =>
 obtain⟨k,kX,ap,rfl,hc,wU⟩:=hrel;have hn:=HN.out;have hm:=HM.out
 by_cases h1:k<n
 ·by_cases h2:k<m
  ·obtain⟨ab,ao,rfl,UC⟩:=(ha.below wU) (by intro h;simp at h;subst h;simp at hn;omega)
   obtain⟨bb,bo,rfl,Ym⟩:=(hb.below wU) (by intro h;simp at h;subst h;simp at hm;omega)
   have ka:k<a.length:=by omega
   have kb:k<b.length:=by omega
   have p0:=UC k (zm a[k]) (by simp[ka]);have q0:=Ym k (zm b[k]) (by simp[kb])
   have hd:Lib.compareBytes (a.drop k) (b.drop k)=if a[k]<b[k] then -1 else if b[k]<a[k] then 1 else Lib.compareBytes (a.drop (k+1)) (b.drop (k+1)):=by
    rw[List.drop_eq_getElem_cons ka,List.drop_eq_getElem_cons kb,Lib.compareBytes]
   rw[hc]at hd
   generalize a[k]'ka=x at *
   generalize b[k]'kb=y at *
   have HD:=Hh hd;clear hd hc hn hm UC Ym ka kb;go_upto_region 4 with fail
   refine zp 8 (fun w'=>w'.cell? ⟨ab,ao+k,none⟩=some (zm x)∧w'.cell? ⟨bb,bo+k,none⟩=some (zm y)) (by kernel_rfl) (⟨p0,q0⟩) (fun zy=>?_)
   refine Tk 0 rfl zy ?_
   refine Tk 1 rfl zy ?_
   refine Tk 2 rfl zy ?_
   refine Tk 3 rfl zy ?_
   refine Tk 4 rfl zy ?_
   refine Tk 5 rfl zy ?_
   refine Tk 6 rfl zy ?_
   refine Tk 7 rfl zy ?_
   refine To 8 rfl fun K hK=>?_
   go_simp
   refine Kz hK ?_
   clear hK K
   refine Wd ?_
   clear zy
   by_cases hxy:x=y
   ·subst hxy;have E:Hid (Lib.compareBytes (a.drop (k+1)) (b.drop (k+1))=Lib.compareBytes a b):=by rw[Hid,HD.out,if_neg (UInt8.lt_irrefl x),if_neg (UInt8.lt_irrefl x)]
    have zO:=wU.drew;go_wp2_with fail
    go_roundw
    case rel=>exact⟨k+1,by omega,by omega,by go_num,E.out,zO⟩
    case measure=>simp[intOf];omega
   have ww:((x.toNat:Int) != (y.toNat:Int))=true:=by
    rw[bne_iff_ne]
    intro h
    exact hxy (UInt8.toNat_inj.1 (by omega))
   have zO:=wU.drew.drew;have S0:=Hh hxy;clear hxy;go_upto_region 5 with fail
   refine zp 8 (fun w'=>w'.cell? ⟨ab,ao+k,none⟩=some (zm x)∧w'.cell? ⟨bb,bo+k,none⟩=some (zm y)) (by kernel_rfl) (⟨p0,q0⟩) (fun zy=>?_)
   refine Tk 0 rfl zy ?_
   refine Tk 1 rfl zy ?_
   refine Tk 2 rfl zy ?_
   refine Tk 3 rfl zy ?_
   refine Tk 4 rfl zy ?_
   refine Tk 5 rfl zy ?_
   refine Tk 6 rfl zy ?_
   refine Tk 7 rfl zy ?_
   refine To 8 rfl fun K hK=>?_
   go_simp
   refine Kz hK ?_
   clear hK K
   refine Wd ?_
   clear zy
   by_cases hl:x<y
   ·have E:Hid (Lib.compareBytes a b = -1):=by rw[Hid,HD.out,if_pos hl]
    have rh:(x.toNat:Int)<(y.toNat:Int):=by have:=UInt8.lt_iff_toNat_lt.1 hl;omega
    clear hl;go_wp2_with fail
    go_ret
    exact⟨by rw[E.out];rfl,zO⟩
   have hg:y<x:=by
    have:=S0.out
    rcases Nat.lt_trichotomy x.toNat y.toNat with h | h | h
    ·exact absurd (UInt8.lt_iff_toNat_lt.2 h) hl
    ·exact absurd (UInt8.toNat_inj.1 h) this
    exact UInt8.lt_iff_toNat_lt.2 h
   have E:Hid (Lib.compareBytes a b=1):=by rw[Hid,HD.out,if_neg hl,if_pos hg]
   have rh:(y.toNat:Int)≤(x.toNat:Int):=by have:=UInt8.lt_iff_toNat_lt.1 hg;omega
   clear hl hg;go_wp2_with fail
   go_ret
   exact⟨by rw[E.out];rfl,wU.drew.drew⟩
  have Ve:k=m:=by omega
  have E:Hid (Lib.compareBytes a b=1):=by
   rw[Hid,← hc,List.drop_eq_getElem_cons (show k<a.length by omega),List.drop_eq_nil_of_le (show b.length≤k by omega),Lib.compareBytes]
  clear hc hn hm;go_wp2_with fail
  go_ret
  exact⟨by rw[E.out];rfl,wU⟩
 have fY:k=n:=by omega
 by_cases h2:k<m
 ·have E:Hid (Lib.compareBytes a b = -1):=by
   rw[Hid,← hc,List.drop_eq_nil_of_le (show a.length≤k by omega),List.drop_eq_getElem_cons (show k<b.length by omega),Lib.compareBytes]
  clear hc hn hm;go_wp2_with fail
  go_ret
  exact⟨by rw[E.out];rfl,wU⟩
 have E:Hid (Lib.compareBytes a b=0):=by
  rw[Hid,← hc,List.drop_eq_nil_of_le (show a.length≤k by omega),List.drop_eq_nil_of_le (show b.length≤k by omega),Lib.compareBytes]
 clear hc hn hm;go_wp2_with fail
 go_ret
 exact⟨by rw[E.out];rfl,wU⟩
theorem OwnB.blk {w:World}{g base:Nat}{cs:Array Value}{l:List UInt8}(h:Blk w g 5 cs) (hc:cs.toList=l.map zm) (hb:base≤g) (hm:l.length≤4096) (k:Nat) (hk:k=l.length) :
  OwnB w base (.slice (some ⟨g,0,none⟩) k k) l:=by
 subst hk
 refine⟨by simp,.inr ⟨g,l.length,cs,rfl,hb,h,Nat.le_refl _,by simp only[maxLen];omega, ?_, ?_⟩⟩
 ·rw[← Array.length_toList,hc];simp
 rw[hc,Nat.mul_one];exact List.take_of_length_le (by simp)
def vd (n s j:Nat):List UInt8:=(List.range j).map fun t=>u8 (n/2 ^ (8*(s-1-t)))
theorem jl (n s j:Nat):vd n s (j+1)=vd n s j++[u8 (n/2 ^ (8*(s-1-j)))]:=by
 simp[vd,List.range_succ]
theorem oT (n s j:Nat):(vd n s j).length=j:=by simp[vd]
def mU (n s j:Nat):UInt8:=u8 (n/2 ^ (8*(s-1-j)))
def vw (n:Nat):Nat:=if n<256 then 1 else if n<65536 then 2 else if n<4294967296 then 4 else 8
def un (n:Nat):Nat:=if n<256 then 24 else if n<65536 then 25 else if n<4294967296 then 26 else 27
def sL (m n:Nat):UInt8:=u8 (m*32+un n)
theorem jH (m n:Nat) (h:24≤n):zW m n=sL m n::vd n (vw n) (vw n):=by
 rw[zW,if_neg (by omega),sL,un,vw]
 by_cases h1:n<256
 ·simp[h1,vd,List.range_succ]
 by_cases h2:n<65536
 ·simp[h1,h2,vd,List.range_succ]
 by_cases h3:n<4294967296
 ·simp[h1,h2,h3,vd,List.range_succ]
 simp[h1,h2,h3,vd,be8,List.range_succ]
theorem Yy {n:Int}(h:n<256):vw n.toNat=1∧un n.toNat=24:=by
 constructor <;> (simp only[vw,un];repeat (first | rw[if_pos (by omega)] | rw[if_neg (by omega)]))
theorem Yz {n:Int}(h:256≤n) (h':n<65536):vw n.toNat=2∧un n.toNat=25:=by
 constructor <;> (simp only[vw,un];repeat (first | rw[if_pos (by omega)] | rw[if_neg (by omega)]))
theorem Z0 {n:Int}(h:65536≤n) (h':n<4294967296):vw n.toNat=4∧un n.toNat=26:=by
 constructor <;> (simp only[vw,un];repeat (first | rw[if_pos (by omega)] | rw[if_neg (by omega)]))
theorem Z4 {n:Int}(h:4294967296≤n):vw n.toNat=8∧un n.toNat=27:=by
 constructor <;> (simp only[vw,un];repeat (first | rw[if_pos (by omega)] | rw[if_neg (by omega)]))
theorem dM (n:Nat):1≤vw n∧vw n≤8:=by
 unfold vw
 repeat' split
 all_goals omega
theorem fs {m n:Int}(hm0:0≤m) (hm:m<8) (h0:0≤n) (h:n<24):(#[.int .u8 (32*m+n)]:Array Value).toList=(zW m.toNat n.toNat).map zm:=by
 rw[zW,if_pos (by omega)]
 simp only[List.map_cons,List.map_nil,ye]
 congr 2
 omega
theorem qG (m n:Int) (w:World) (hm0:0≤m) (hm:m<8) (h0:0≤n) (h1:n<18446744073709551616) :
  Calls Tryz.prog 44 #[.int .i64 m,.int .u64 n] w fun e w'=>∃ r,e=.returned r∧Fresh w (zW m.toNat n.toNat) r w':=by
 have H1:=Hh h1;have H0:=Hh h0;have K0:IntKind.u8.wrap (32*m+24)=32*m+24:=IntWalk.u8_in _ (by omega);have K1:IntKind.i64.wrap (32*m)=32*m:=IntWalk.i64_in _ (by omega);have K2:IntKind.i64.wrap (32*m+24)=32*m+24:=IntWalk.i64_in _ (by omega);have K3:IntKind.u8.wrap (32*m)=32*m:=IntWalk.u8_in _ (by omega);have hB:=Blk.new w 5 #[.int .u8 (32*m+24)];have yY:=zb w (.cells #[.int .u8 (32*m+24)] 5);clear h1;go_enter Tryz.func44,Tryz.ntmps44
 go_upto_block 0 with fail
 go_cut [5,6] (fun s5 s6 wx=>24≤n∧s5=.slice (some ⟨w.heap.size,0,none⟩) 1 1∧s6=.int .i64 (vw n.toNat:Int)∧Blk wx w.heap.size 5 #[.int .u8 (32*m+(un n.toNat:Int))]∧Below w.heap.size w wx)
 case first =>
  go_wp2_with fail
  ·go_ret
   have z6:n<24:=by with_reducible assumption
   have hc:=fs hm0 hm H0.out z6;have xO:=Blk.new (w.alloc (.cells #[.int .u8 (32*m+24)] 5)) 5 #[.int .u8 (32*m+n)]
   simp only[zY]at xO
   have aJ:1=(zW m.toNat n.toNat).length:=by rw[zB,if_pos (by omega)]
   exact⟨_,rfl,OwnB.blk xO hc (by omega) (by omega) 1 aJ,yY.alloc yY.size _⟩
  ·have qy:24≤n:=by with_reducible assumption
   have z6:n<256:=by with_reducible assumption
   obtain⟨e1,e2⟩:=Yy z6;go_meet
   rw[e1,e2]
   exact⟨qy,rfl,rfl,hB,yY⟩
  ·have qy:24≤n:=by with_reducible assumption
   have kr:256≤n:=by with_reducible assumption
   have z6:n<65536:=by with_reducible assumption
   obtain⟨e1,e2⟩:=Yz kr z6;go_meet
   rw[e1,e2];have:=Blk.new w 5 #[.int .u8 (32*m+24+1)];rw[show 32*m+24+1=32*m+((25:Nat):Int) by omega]at this⊢
   exact⟨qy,rfl,rfl,this,zb _ _⟩
  ·have qy:24≤n:=by with_reducible assumption
   have kr:65536≤n:=by with_reducible assumption
   have z6:n<4294967296:=by with_reducible assumption
   obtain⟨e1,e2⟩:=Z0 kr z6;go_meet
   rw[e1,e2];have:=Blk.new w 5 #[.int .u8 (32*m+24+2)];rw[show 32*m+24+2=32*m+((26:Nat):Int) by omega]at this⊢
   exact⟨qy,rfl,rfl,this,zb _ _⟩
  have qy:24≤n:=by with_reducible assumption
  have kr:4294967296≤n:=by with_reducible assumption
  obtain⟨e1,e2⟩:=Z4 kr;go_meet
  rw[e1,e2];have:=Blk.new w 5 #[.int .u8 (32*m+24+3)];rw[show 32*m+24+3=32*m+((27:Nat):Int) by omega]at this⊢
  exact⟨qy,rfl,rfl,this,zb _ _⟩
 case rest =>
 obtain⟨qy,rfl,rfl,xO,zO⟩:=hcut;obtain⟨xX,iD⟩:=dM n.toNat;have HT:=Hh (jH m.toNat n.toNat (by omega))
 generalize vw n.toNat=s at *
 have K5:IntKind.i64.wrap ((s:Int)-1)=(s:Int)-1:=IntWalk.i64_in _ (by omega)
 have hO:OwnB wc w.heap.size (.slice (some ⟨w.heap.size,0,none⟩) 1 1) [sL m.toNat n.toNat]:=by
  refine OwnB.blk xO ?_ (Nat.le_refl _) (by simp) 1 rfl
  simp only[List.map_cons,List.map_nil,sL,ye]
  have:un n.toNat≤27:=by unfold un;(repeat' split);all_goals omega
  congr 2
  omega
 go_upto_region 13 with fail
 go_loopw [5,7] (fun v5 v7 wr=>∃ (j:Nat) (VA:Option Addr) (vc:Nat),j≤s∧v7=.int .i64 ((s:Int)-1-j)∧v5=.slice VA (1+j) vc∧OwnB wr w.heap.size (.slice VA (1+j) vc) (sL m.toNat n.toNat::vd n.toNat s j)∧Below w.heap.size w wr) (fun _ v7 _=>(intOf v7+1).toNat)
 case atStart=>exact⟨0,_,_,by omega,by go_num,rfl,hO,zO⟩
 case round =>
 obtain⟨j,VA,vc,hj,rfl,rfl,vC,wU⟩:=hrel
 by_cases z6:j<s
 ·have kr:(0:Int)≤(s:Int)-1-j:=by omega
  have yS:(#[.int .u8 (n/2 ^ (8*(s-1-j))%256)]:Array Value).toList=[mU n.toNat s j].map zm:=by
   simp only[List.map_cons,List.map_nil,mU,ye]
   obtain⟨n',rfl⟩:=Int.eq_ofNat_of_zero_le H0.out
   simp
  have yV:=wU.alloc wU.size (.cells #[.int .u8 (n/2 ^ (8*(s-1-j))%256)] 5);have sT:=vC.alloc (.cells #[.int .u8 (n/2 ^ (8*(s-1-j))%256)] 5);have HC:=Hh yS;clear yS;go_wp2_with (at_builtin;refine zn ?_)
  refine zw rfl (.tmp 56) (.tmp 63) rfl w.heap.size _ _ rfl sT _ 1 _ [mU n.toNat s j] rfl rfl (Src.new _ _ _ _ rfl _ HC.out) (by simp[oT];omega) yV.size fun v' w7 wE hg7 hat7=>?_
  have Vf:(sL m.toNat n.toNat::vd n.toNat s j)++[mU n.toNat s j]=sL m.toNat n.toNat::vd n.toNat s (j+1):=by rw[jl];rfl
  obtain⟨VA',vc',rfl,_⟩:=wE.form;have fZ:((sL m.toNat n.toNat::vd n.toNat s j)++[mU n.toNat s j]).length=1+(j+1):=by simp[oT];omega
  rw[fZ]at wE;rw[fZ];rw[Vf]at wE;have uH:=yV.grown hg7 yV.size (fun q hq=>(sT.lt q hq).1);clear Vf fZ hg7 hat7 sT vC yV wU;go_wp2_with fail
  go_roundw
  case rel=>exact⟨j+1,VA',vc',by omega,by rw[show((j+1:Nat):Int)=(j:Int)+1 by omega,show(s:Int)-1-((j:Int)+1)=(s:Int)-1-j-1 by omega],rfl,wE,uH⟩
  case measure=>simp[intOf];omega
 have Sn:j=s:=by omega
 subst Sn;have E:Hid (zW m.toNat n.toNat=sL m.toNat n.toNat::vd n.toNat j j):=HT.out;have Ra:(j:Int)-1-j<0:=by omega
 go_wp2_with fail
 go_ret
 rw[E.out]
 exact⟨_,rfl,vC,wU⟩
def uw (x:Itm) (lv:Nat):Bool:=if vv x=true then te x else qg x lv
mutual
def Good:Itm→Nat→Prop
 | .mk k n bs l,lv=>uw (.mk k n bs l) lv=true∧vK l (lv+1)∧(k=5→eO l=true)
def vK:List Itm→Nat→Prop
 | [],_=>True
 | x::l,lv=>Good x lv∧vK l lv
end
theorem Good.of {x:Itm}{lv:Nat}(h1:uw x lv=true) (h2:vK x.items (lv+1)) (h3:x.kind=5→eO x.items=true):Good x lv:=by cases x;rw[Good];exact⟨h1,h2,h3⟩
theorem Yw (x:Itm):cnt x=tJ x.items+1:=by cases x;rw[cnt];rfl
mutual
def Small:Itm→Prop
 | .mk _ _ bs l=>bs.length≤4096∧dy l
def dy:List Itm→Prop
 | []=>True
 | x::l=>Small x∧dy l
end
theorem Fresh.step {w w1 w2:World}{l:List UInt8}{r:Value}(hb:Below w.heap.size w w1) (h:Fresh w1 l r w2):Fresh w l r w2:=⟨h.own.more hb.size,hb.trans (h.2.mono hb.size)⟩
section
variable (x:Itm) {H:Snap} {ba:Option Addr} {bc:Nat} {ia:Option Addr} {ic:Nat} (w:World) (lv:Nat)
end
theorem stI {w:World}{ops:Array Oper}{rest:List Oper}{o:Oper}{a:Act}{Q:Exit→Act→World→Prop}{x y:Operand}{g:Nat}{c0 c1 c2 c3:Value}{t:TypeId}{old:Array Value}(hB:Blk w g t old)
  (h:∀ w',Blk w' g t #[c0,c1,c2,c3]→w.grownBy w' (some g)→wpList Tryz.prog ops Q rest a w')
  (rl:o.guard=none:=by rfl) (ho:o.op=.store 73 x y:=by rfl) (hd:o.dst=none:=by rfl) (hx:a.eval x=.pointer (some ⟨g,0,none⟩):=by rfl) (hy:a.eval y=.agg #[c0,c1,c2,c3]:=by rfl) (hold:(#[c0,c1,c2,c3]:Array Value).size=old.size:=by rfl) (h1:c0.oneCell'=true:=by rfl) (h2:c1.oneCell'=true:=by rfl) (h3:c2.oneCell'=true:=by rfl) (h4:c3.oneCell'=true:=by rfl):wpList Tryz.prog ops Q (o::rest) a w :=
 zr rl _ _ _ ho hd _ _ hx hy _ _ hB zi hold (XT _ _ _ _ h1 h2 h3 h4) h
end Go.Proofs.YtnfoilblmhbobaaGreatDoor
