/- squeezed. Heads of data items as lists of by -/
import Derived.Test.YtgaoknihklmakabGreatDoorK00
import Derived.Laws.BytesArg
import Derived.Lib.Bytealg
import Derived.Laws.Externs
import Derived.Deep.DeepCutAuto
import Derived.Deep.CutBlock
import Derived.Laws.BitsAllLaws
import Derived.Lib.ValidU
import Derived.Shelf.Unicode.DecodeSlow
set_option linter.unusedVariables false
set_option linter.unusedSimpArgs false
set_option maxRecDepth 100000
set_option maxHeartbeats 3200000
namespace Go.Proofs.YtgaoknihklmakabGreatDoor
open Go.RowKit
theorem jaY{P:Prop}(h:P:=by
 go_wp2_with (at_builtin;refine yq ?_)
 unfold z8
 have h0:OwnB (w.alloc (.cells #[] 5)) w.heap.size (.slice (some ⟨w.heap.size,0,none⟩) 0 0) []:=OwnB.lit w _ [] #[] 0 rfl rfl (Nat.le_refl _) (by simp)
 refine zW rfl (.tmp 5) (.tmp 6) rfl w.heap.size _ [] rfl h0 (some a) n c l rfl HN.out ?_ (by simpa using hl) (by simp) ?_
 ·exact hs.alloc _
 intro v' w' xA hg _
 have hf:Fresh w l v' w':=⟨by rw[List.nil_append]at xA;exact xA,(zm w _).grown hg (by simp) (fun k hk=>(h0.lt k hk).1)⟩
 clear xA hg h0;go_wp2
 go_ret
 exact⟨_,rfl,hf⟩):P:=h
theorem jbs{P:Prop}(h:P:=by
 show Ending.returned (Value.tuple #[Value.int .u64 _,Value.bool _])=_
 rw[KS.out,E.out,if_neg h3,if_neg h4,if_neg h5,PI,MU,hw,ha,MG,ho,XJ,uS]
 by_cases h:full%2 ^ sh=0
 ·rw[if_pos h,h];rfl
 rw[if_neg h];exact jeS):P:=h
theorem jbt{P:Prop}(h:P:=by
 split at hx
 ·injection hx
 cases hx):P:=h
theorem jbN{P:Prop}(h:P:=by
 have h:((ex:Int)==2047)=false:=by assumption
 rw[beq_eq_false_iff_ne]at h
 omega):P:=h
theorem jb1{P:Prop}(h:P:=by
 rw[beq_eq_false_iff_ne]at h
 omega):P:=h
theorem jch{P:Prop}(h:P:=by
 simp only[List.map_cons,List.map_nil,x8]
 simp):P:=h
theorem jco{P:Prop}(h:P:=by
 go_ret2
 refine⟨⟨0, ?_, ?_⟩,rfl⟩
 ·rw[E.out,if_neg h3,if_neg h4,if_pos h5];rfl
 intro x hx
 rw[E.out,if_neg h3,if_neg h4,if_pos h5]at hx
 cases hx):P:=h
theorem jcs{P:Prop}(h:P:=by exact⟨rfl,rfl⟩):P:=h
theorem jcu{P:Prop}(h:P:=by
 show Ending.returned (Value.tuple #[Value.int .u64 _,Value.bool _])=_
 rw[KS.out,E.out,if_neg h1,if_pos h2]
 exact je4):P:=h
theorem jcw{P:Prop}(h:P:=by
 rcases List.mem_cons.1 hx with rfl | hx
 ·exact h.1
 exact h.2.get x hx):P:=h
theorem jcx{P:Prop}(h:P:=by
 clear hc hn hm;go_wp2_with fail
 go_ret
 exact⟨by rw[E.out];rfl,ws⟩):P:=h
theorem jcE{P:Prop}(h:P:=by
 have h:((ex:Int)==0)=true:=by assumption
 rw[beq_iff_eq]at h
 omega):P:=h
theorem jcQ{P:Prop}(h:P:=by
 go_ret2
 refine⟨⟨0, ?_, ?_⟩,rfl⟩
 ·rw[E.out,if_pos h3];rfl
 intro x hx
 rw[E.out,if_pos h3]at hx
 cases hx):P:=h
theorem jc0{P:Prop}(h:P:=by
 simp only[Nat.reducePow]at this
 rw[← uS]
 exact this):P:=h
theorem jc1{P:Prop}(h:P:=by
 simp only[Nat.reducePow,Nat.reduceMul]at h2⊢
 omega):P:=h
theorem jc5{P:Prop}(h:P:=by
 go_wp2_with fail
 go_ret
 refine⟨_,rfl, ?_⟩
 rw[E.out]
 exact Fresh.lit w _ _ 3 rfl (by simp) rfl):P:=h
theorem jdj{P:Prop}(h:P:=by
 rw[Hid,yz]
 simp only[Nat.reducePow,Nat.reduceSub,Nat.reduceAdd,Nat.reduceMul,rx,hJ,XI]):P:=h
theorem jdw{P:Prop}(h:P:=by
 cases l with
 | nil=>rfl
 | cons a l=>obtain⟨b,off,h,_⟩:=hs (by simp);cases h):P:=h
theorem jdF{P:Prop}(h:P:=by rw[Int.natCast_ediv,Int.natCast_pow];rfl):P:=h
theorem jdJ{P:Prop}(h:P:=by
 have h:((ex:Int)==2047)=true:=by assumption
 rw[beq_iff_eq]at h
 omega):P:=h
theorem jdO{P:Prop}(h:P:=by
 cases hs:xE l with
 | true=>rfl
 | false=>exact absurd ⟨h5,hs⟩ ha):P:=h
theorem jdV{P:Prop}(h:P:=by have:=(mC h ((zP x).2 (by omega))).2 (by omega);rw[this];simp):P:=h
theorem jdX{P:Prop}(h:P:=by exact⟨tZ,rfl,rfl,this,zm _ _⟩):P:=h
theorem jd2{P:Prop}(h:P:=by have:=(rd m' n').2;omega):P:=h
theorem jd3{P:Prop}(h:P:=by
 go_wp2
 go_ret
 exact⟨_,rfl,OwnB.nil _ _,Below.refl _ _⟩):P:=h
theorem jeO{P:Prop}(h:P:=by
 have h:((ex:Int)==0)=false:=by assumption
 exact jb1):P:=h
theorem jeS{P:Prop}(h:P:=by
 have:(((full%2 ^ sh:Nat):Int)==0)=false:=by rw[beq_eq_false_iff_ne];omega
 rw[this];rfl):P:=h
theorem je2{P:Prop}(h:P:=by
 intro x hx
 rw[E.out,if_neg h3,if_neg h4,if_neg h5,XJ,uS]at hx
 exact jbt):P:=h
theorem je4{P:Prop}(h:P:=by by_cases h:mx=0 <;> simp[h]):P:=h
theorem jfc{P:Prop}(h:P:=by
 intro x hx
 rw[E.out,if_neg h3,if_pos h4,hq]at hx
 exact jbt):P:=h
theorem jg4{P:Prop}(h:P:=by have uq:=xy.grown yQ xy.size (fun q hq=>(je.lt q hq).1);exact uq):P:=h
theorem jg6{P:Prop}(h:P:=by have A1':bits .and .u64 ((n:Int)/4503599627370496) 2047=(ex:Int):=A1;have A2':bits .and .u64 (n:Int) 4503599627370495=(mx:Int):=A2;have K1:IntKind.i64.wrap (ex:Int)=(ex:Int):=IntWalk.i64_in _ (by omega);exact And.intro A1' (And.intro A2' K1)):P:=h
theorem jhu{P:Prop}(h:P:=by have A1:=uC (n/2 ^ 52) 11 (by omega) (by omega);have A2:=uC n 52 (by omega) (by omega);exact And.intro A1 A2):P:=h
theorem jhJ{P:Prop}(h:P:=by have hw:IntKind.u64.wrap (IntKind.u64.wrap ((2:Int) ^ sh)-1)=((2 ^ sh-1:Nat):Int):=ag sh (by omega);exact hw):P:=h
def u8 (n:Nat):UInt8:=UInt8.ofNat n
theorem re (n:Nat):(u8 n).toNat=n%256:=by simp[u8]
theorem x8 (n:Nat):zT (u8 n)=.int .u8 ((n%256:Nat):Int):=by simp[zT,re]
theorem SH (x:Int) (n:Nat) (h:x=((n%256:Nat):Int)):Value.int .u8 x=zT (u8 n):=by rw[x8,h]
def be8 (n:Nat):Nat→List UInt8
 | 0=>[]
 | k+1=>be8 n k++[u8 (n/2 ^ (56-8*k))]
theorem uv (n k:Nat):(be8 n k).length=k:=by induction k <;> simp[be8, *]
def zF (m n:Nat):List UInt8 :=
 if n<24 then [u8 (m*32+n)]
 else if n<256 then [u8 (m*32+24),u8 n]
 else if n<65536 then [u8 (m*32+25),u8 (n/256),u8 n]
 else if n<4294967296 then [u8 (m*32+26),u8 (n/16777216),u8 (n/65536),u8 (n/256),u8 n]
 else u8 (m*32+27)::be8 n 8
theorem vh (m n:Nat):(zF m n).length=if n<24 then 1 else if n<256 then 2 else if n<65536 then 3 else if n<4294967296 then 5 else 9:=by
 unfold zF
 repeat' split
 all_goals simp[uv]
theorem rd (m n:Nat):1≤(zF m n).length∧(zF m n).length≤9:=by
 rw[vh]
 repeat' split
 all_goals omega
theorem ac (a:Nat) (ha:a<256):(BitVec.ofInt 8 (a:Int)).toNat=a:=by
 rw[BitVec.ofInt_natCast,BitVec.toNat_ofNat];exact Nat.mod_eq_of_lt (by omega)
theorem Vs (a b:Nat) (ha:a<256) (hb:b<256):bits .or .u8 (a:Int) (b:Int)=((a ||| b:Nat):Int):=by
 have hx:a ||| b<2 ^ 8:=Nat.or_lt_two_pow (by omega) (by omega);show IntKind.u8.wrap ((BitVec.ofInt 8 (a:Int) ||| BitVec.ofInt 8 (b:Int)).toNat:Int)=_
 rw[BitVec.toNat_or,ac a ha,ac b hb,IntKind.wrap_u8]
 omega
theorem QT (m n:Nat) (hn:n<32):m*32 ||| n=m*32+n:=by
 have h:=Nat.two_pow_add_eq_or_of_lt (i:=5) (b:=n) (by omega) m;rw[show 2 ^ 5*m=m*32 by omega]at h
 exact h.symm
theorem lI (m n:Nat) (hm:m<8) (hn:n<32):bits .or .u8 ((m:Int)*32) (n:Int)=((m*32+n:Nat):Int):=by
 have h:=Vs (m*32) n (by omega) (by omega);rw[QT m n hn]at h
 simpa using h
theorem rF (m n:Int) (w:World) (gz:0≤m) (hm:m<8) (h0:0≤n) (h1:n<18446744073709551616) :
  Calls Tryz.prog 105 #[.int .u8 m,.int .u64 n] w fun e w'=>∃ r,e=.returned r∧Fresh w (zF m.toNat n.toNat) r w':=by
 obtain⟨m',ZD⟩:=Int.eq_ofNat_of_zero_le gz;obtain⟨n',WO⟩:=Int.eq_ofNat_of_zero_le h0;have HM:=Hh ZD;have HN:=Hh WO;have H1:=Hh h1;clear h1 ZD WO;go_enter Tryz.func105,Tryz.ntmps105
 go_wp2
 ·go_ret
  obtain rfl:=HM.out;obtain rfl:=HN.out;rw[Int.toNat_natCast,Int.toNat_natCast];have zB:(n':Int)<24:=by with_reducible assumption
  refine⟨_,rfl,Fresh.lit _ _ _ 1 ?_ ?_ ?_⟩
  ·rw[vh,if_pos (by omega)]
  ·exact jd2
  rw[zF,if_pos (by omega)]
  simp only[List.map_cons,List.map_nil,x8]
  rw[lI m' n' (by omega) (by omega),Nat.mod_eq_of_lt (by omega)]
 ·go_ret
  obtain rfl:=HM.out;obtain rfl:=HN.out;rw[Int.toNat_natCast,Int.toNat_natCast];have gv:(24:Int)≤n':=by with_reducible assumption
  have zB:(n':Int)<256:=by with_reducible assumption
  refine⟨_,rfl,Fresh.lit _ _ _ 2 ?_ ?_ ?_⟩
  ·rw[vh,if_neg (by omega),if_pos (by omega)]
  ·exact jd2
  rw[zF,if_neg (by omega),if_pos (by omega)]
  simp only[List.map_cons,List.map_nil,x8]
  have e24':=lI m' 24 (by omega) (by omega);rw[show((24:Nat):Int)=24 from rfl]at e24';rw[e24',Nat.mod_eq_of_lt (by omega),Nat.mod_eq_of_lt (by omega)]
 ·go_ret
  obtain rfl:=HM.out;obtain rfl:=HN.out;rw[Int.toNat_natCast,Int.toNat_natCast];have gv:(256:Int)≤n':=by with_reducible assumption
  have zB:(n':Int)<65536:=by with_reducible assumption
  refine⟨_,rfl,Fresh.lit _ _ _ 3 ?_ ?_ ?_⟩
  ·rw[vh,if_neg (by omega),if_neg (by omega),if_pos (by omega)]
  ·exact jd2
  rw[zF,if_neg (by omega),if_neg (by omega),if_pos (by omega)]
  simp only[List.map_cons,List.map_nil,x8]
  have e24':=lI m' 25 (by omega) (by omega);rw[show((25:Nat):Int)=25 from rfl]at e24';rw[e24',Nat.mod_eq_of_lt (show m'*32+25<256 by omega),Nat.mod_eq_of_lt (show n'/256<256 by omega)];rfl
 ·go_ret
  obtain rfl:=HM.out;obtain rfl:=HN.out;rw[Int.toNat_natCast,Int.toNat_natCast];have gv:(65536:Int)≤n':=by with_reducible assumption
  have zB:(n':Int)<4294967296:=by with_reducible assumption
  refine⟨_,rfl,Fresh.lit _ _ _ 5 ?_ ?_ ?_⟩
  ·rw[vh,if_neg (by omega),if_neg (by omega),if_neg (by omega),if_pos (by omega)]
  ·exact jd2
  rw[zF,if_neg (by omega),if_neg (by omega),if_neg (by omega),if_pos (by omega)]
  simp only[List.map_cons,List.map_nil,x8]
  have e24':=lI m' 26 (by omega) (by omega);rw[show((26:Nat):Int)=26 from rfl]at e24';rw[e24',Nat.mod_eq_of_lt (show m'*32+26<256 by omega),Nat.mod_eq_of_lt (show n'/16777216<256 by omega)];rfl
 have HG:Hid (zF m.toNat n.toNat=u8 (m.toNat*32+27)::be8 n.toNat 8):=by
  have gv:(4294967296:Int)≤n:=by with_reducible assumption
  rw[zF,if_neg (by omega),if_neg (by omega),if_neg (by omega),if_neg (by omega)];rfl
 have lf:OwnB (w.alloc (.cells #[.int .u8 (bits .or .u8 (m*32) 27)] 5)) w.heap.size (.slice (some ⟨w.heap.size,0,none⟩) 1 1) [u8 (m.toNat*32+27)]:=by
  refine OwnB.lit w _ _ _ 1 rfl ?_ (Nat.le_refl _) (by simp)
  have e27':=lI m.toNat 27 (by omega) (by omega);rw[show((27:Nat):Int)=27 from rfl,Int.toNat_of_nonneg gz]at e27'
  simp only[List.map_cons,List.map_nil,x8]
  rw[e27',Nat.mod_eq_of_lt (by omega)]
 go_loopw [6,7] (fun v s wr=>∃ k:Nat,k≤8∧s=.int .i64 (56-8*(k:Int))∧OwnB wr w.heap.size v (u8 (m.toNat*32+27)::be8 n.toNat k)∧Below w.heap.size w wr) (fun _ s _=>(intOf s+8).toNat)
 case atStart=>exact⟨0,by omega,rfl,lf,(Below.refl _ _).alloc (Nat.le_refl _) _⟩
 case round =>
 obtain⟨k,hk,rfl,xA,hb⟩:=hrel
 by_cases zB:k<8
 ·have Uo:=hb.size;go_wp2_with (at_builtin;refine zW rfl (.tmp 61) (.tmp 66) rfl w.heap.size _ _ rfl (xA.alloc _) _ 1 1 [u8 (n.toNat/2 ^ (56-8*k))] rfl rfl ?hs ?hl ?hz ?_)
  case hs =>
   rw[SH (n/2 ^ (56-8*k)%256) (n.toNat/2 ^ (56-8*k)) (by obtain rfl:=HN.out;simp)]
   exact Src.lit wr #[zT (u8 (n.toNat/2 ^ (56-8*k)))] _
  case hl=>simp[uv];omega
  case hz=>simp;omega
  intro v' w' hown' hg _
  have R:OwnB w' w.heap.size v' (u8 (m.toNat*32+27)::be8 n.toNat (k+1))∧Below w.heap.size w w' :=
   ⟨by simpa [be8] using hown',((hb.alloc Uo _).grown hg (by simp;omega) (fun g hg=>(xA.lt g hg).1))⟩
  clear hown' hg xA hb lf;go_wp2
  go_roundw
  case rel=>exact⟨k+1,by omega,by go_num,R.1,R.2⟩
  case measure=>simp[intOf];omega
 have Ui:k=8:=by omega
 subst Ui;go_wp2
 go_ret
 refine⟨_,rfl, ?_⟩
 rw[HG.out]
 exact⟨xA,hb⟩
structure Lie (α:Type) where
 k:Nat
 pos:0<k
 E:Snap→α→List Value→Prop
 len:∀ {H x c},E H x c→c.length=k
 one:∀ {H x c},E H x c→∀ u∈c,u.oneCell'=true
 mono:∀ {H K x c},H.le K→E H x c→E K x c
section
variable {α:Type} {L:Lie α}
def RowC (L:Lie α) (H:Snap):List Value→List α→Prop
 | cs,[]=>cs=[]
 | cs,x::l=>∃ c rest,cs=c++rest∧L.E H x c∧RowC L H rest l
theorem RowC.nil (L:Lie α) (H:Snap):RowC L H [] []:=by rw[RowC]
theorem RowC.len {H:Snap}:∀ {l:List α}{cs:List Value},RowC L H cs l→cs.length=l.length*L.k
 | [],cs,h=>by rw[RowC]at h;subst h;simp
 | x::l,cs,h=>by
  obtain⟨c,rest,rfl,hx,hr⟩:=h;rw[List.length_append,L.len hx,hr.len,List.length_cons,Nat.succ_mul,Nat.add_comm]
theorem RowC.mono {H K:Snap}(hl:H.le K):∀ {l:List α}{cs:List Value},RowC L H cs l→RowC L K cs l
 | [],cs,h=>h
 | x::l,cs,h=>by
  obtain⟨c,rest,e,hx,hr⟩:=h
  exact⟨c,rest,e,L.mono hl hx,hr.mono hl⟩
theorem RowC.one {H:Snap}{x:α}{c:List Value}(h:L.E H x c):RowC L H c [x]:=⟨c,[],by simp,h,RowC.nil L H⟩
theorem RowC.app {H:Snap}:∀ {l m:List α}{cs ds:List Value},RowC L H cs l→RowC L H ds m→RowC L H (cs++ds) (l++m)
 | [],m,cs,ds,h,hd=>by rw[RowC]at h;subst h;exact hd
 | x::l,m,cs,ds,h,hd=>by
  obtain⟨c,rest,rfl,hx,hr⟩:=h
  exact⟨c,rest++ds,by simp,hx,hr.app hd⟩
theorem RowC.oneCell {H:Snap}:∀ {l:List α}{cs:List Value},RowC L H cs l→∀ u∈cs,u.oneCell'=true
 | [],cs,h=>by rw[RowC]at h;subst h;simp
 | x::l,cs,h=>by
  obtain⟨c,rest,rfl,hx,hr⟩:=h
  intro u hu
  rw[List.mem_append]at hu
  rcases hu with hu | hu
  ·exact L.one hx u hu
  exact hr.oneCell u hu
theorem RowC.get {H:Snap}:∀ {l:List α}{cs:List Value},RowC L H cs l→∀ (j:Nat) (hj:j<l.length),∃ c,L.E H l[j] c∧∀ i v,c[i]? = some v→cs[j*L.k+i]? = some v
 | [],_,_,j,hj=>by simp at hj
 | x::l,cs,h,0,_=>by
  obtain⟨c,rest,rfl,hx,hr⟩:=h
  refine⟨c,hx,fun i v hi=>?_⟩
  rw[Nat.zero_mul,Nat.zero_add,List.getElem?_append_left (List.getElem?_eq_some_iff.1 hi).1]
  exact hi
 | x::l,cs,h,j+1,hj=>by
  obtain⟨c,rest,rfl,hx,hr⟩:=h;obtain⟨c',P5,IK⟩:=hr.get j (by simpa using hj)
  refine⟨c',by simpa using P5,fun i v hi=>?_⟩
  have:=IK i v hi;rw[List.getElem?_append_right (by rw[L.len hx,Nat.succ_mul];omega),L.len hx,show(j+1)*L.k+i-L.k=j*L.k+i by rw[Nat.succ_mul];omega]
  exact this
structure IsRow (L:Lie α) (H:Snap) (A:Option Addr) (c:Nat) (l:List α):Prop where
 le:l.length≤c
 max:c≤9223372036854775807
 row:0<l.length→∃ b off cs,A=some ⟨b,off,none⟩∧RowC L H cs l∧aq H b off cs
theorem IsRow.nil (L:Lie α) (H:Snap):IsRow L H none 0 []:=⟨by simp,by omega,by simp⟩
theorem IsRow.mono {H K:Snap}{A:Option Addr}{c:Nat}{l:List α}(h:IsRow L H A c l) (hl:H.le K):IsRow L K A c l:=⟨h.le,h.max,fun h0=>by
 obtain⟨b,off,cs,e,h1,h2⟩:=h.row h0
 exact⟨b,off,cs,e,h1.mono hl,fun j v hj=>hl.cell (h2 j v hj)⟩⟩
theorem IsRow.at_ {H:Snap}{A:Option Addr}{c:Nat}{l:List α}(h:IsRow L H A c l) (h0:0<l.length):∃ b off,A=some ⟨b,off,none⟩∧∀ j (hj:j<l.length),∃ d,L.E H l[j] d∧∀ i v,d[i]? = some v→H.cell? ⟨b,off+(j*L.k+i),none⟩=some v:=by
 obtain⟨b,off,cs,e,h1,h2⟩:=h.row h0
 refine⟨b,off,e,fun j hj=>?_⟩
 obtain⟨d,hd,hi⟩:=h1.get j hj
 exact⟨d,hd,fun i v hv=>h2 _ _ (hi i v hv)⟩
def OwnX (L:Lie α) (t:TypeId) (w:World) (base:Nat) (v:Value) (H:Snap) (l:List α):Prop:=∃ cs,RowC L H cs l∧w.ownsRow base t L.k v l.length cs
variable {t:TypeId} {w w':World} {base:Nat} {v:Value} {H:Snap} {l:List α}
theorem OwnX.nil (L:Lie α) (t:TypeId) (w:World) (base:Nat) (H:Snap):OwnX L t w base (.slice none 0 0) H []:=⟨[],RowC.nil L H,World.ownsRow_nil _ _ _ _⟩
theorem OwnX.lt (h:OwnX L t w base v H l):∀ k,v.ownBlock=some k→base≤k∧k<w.heap.size:=by obtain⟨_,_,h⟩:=h;exact World.ownsRow.lt h
theorem OwnX.kept {row:Option Nat}(h:OwnX L t w base v H l) (hg:w.grownBy w' row) (uy:v.ownBlock=none∨v.ownBlock≠row):OwnX L t w' base v H l:=by
 exact jdI
theorem OwnX.below (h:OwnX L t w base v H l) (hb:Below w.heap.size w w'):OwnX L t w' base v H l:=by
 exact jcP
theorem OwnX.alloc (h:OwnX L t w base v H l) (o:Obj):OwnX L t (w.alloc o) base v H l:=h.below (zm w o)
theorem OwnX.mono {K:Snap}(h:OwnX L t w base v H l) (hl:H.le K):OwnX L t w base v K l:=by obtain⟨cs,hc,h⟩:=h;exact⟨cs,hc.mono hl,h⟩
theorem OwnX.more {base':Nat}(h:OwnX L t w base v H l) (hb:base'≤base):OwnX L t w base' v H l:=by
 exact jfb
theorem OwnX.form (h:OwnX L t w base v H l):∃ A c,v=.slice A l.length c∧l.length≤c∧c≤9223372036854775807:=by
 exact jb4
theorem OwnX.snap {A:Option Addr}{m c:Nat}(h:OwnX L t w base (.slice A m c) H l) (hw:Holds w H) (hn:∀ g,A.map (·.block)=some g→H g=none) :
  ∃ H',H.le H'∧Holds w H'∧(∀ b o,H' b=some o→H b=some o∨A.map (·.block)=some b)∧m=l.length∧IsRow L H' A c l:=by
 obtain⟨cs,oV,h⟩:=h
 rcases h.2 with ⟨hv,hz⟩ | ⟨g,cap,cur,hv,_,hg,hc,hm,hcz,ht⟩
 ·cases hv
  exact⟨H,Snap.le.refl _,hw,fun _ _ h=>.inl h,hz.symm,⟨by omega,by omega,by omega⟩⟩
 cases hv
 have bX:H g=none:=hn g rfl
 refine⟨H.with g (.cells cur t),Snap.le_with bX,hw.with hg,fun b o hb=>?_,rfl,hc,by simpa [maxLen] using hm,fun _=>⟨g,0,cs,rfl,oV.mono (Snap.le_with bX),fun j v hj=>?_⟩⟩
 ·exact jct
 exact jbW
theorem OwnX.append {ops:Array Oper}{rest:List Oper}{o:Oper}{a:Act}{Q:Exit→Act→World→Prop}(bY:o.guard=none) (s x:Operand) (T:TypeId)
  (ho:o.op=.call { callee:=.builtin .append,args:=#[s,x],argTypes:=#[T,T] }) (hT:Tryz.prog.underlying T=some (.slice t)) {z:Value} {bytes:Nat} (hzs:z.cells.size=L.k) (kI:bytes≤128)
  (hinfo:(Tryz.prog.info? t).map (fun i=>(i.zero,i.size,i.bytes))=some (some z,L.k,bytes))
  (hs:a.eval s=v) (xA:OwnX L t w base v H l) (A:Option Addr) (m c:Nat) (cs:List Value) (news:List α) (hx:a.eval x=.slice A m c) (hm:m=news.length)
  (hn:RowC L H cs news) (hr:Src w A cs) (xF:l.length+news.length≤1099511627776) (uM:base≤w.heap.size)
  (h:∀ v' w',OwnX L t w' base v' H (l++news)→w.grownBy w' v.ownBlock→At0 w v.ownBlock v'.ownBlock→wpList Tryz.prog ops Q rest (a.put o.dst v') w') :
  wpList Tryz.prog ops Q (o::rest) a w:=by
 subst hm;obtain⟨xs,bg,xA⟩:=xA;obtain⟨i0,uZ,bh,qV,q9⟩:=info_parts hinfo
 refine wpList_plain bY fun K hK=>uu s x _ ho base t i0 _ L.k bytes hT uZ bh qV q9 hzs L.pos v l.length xs hs xA A news.length c cs hx hn.len hr hn.oneCell
  (by simp only[maxLen];omega) (by have:=Nat.mul_le_mul xF kI;omega) uM fun v' w' h2 h3 h4=>hK _ _ (h v' w' ?_ h3 ?_)
 ·exact jcg
 exact jba
end
def Ap:Lie Int where
 k:=1
 pos:=by omega
 E:=fun _ x c=>c=[.int .i64 x]
 len:=by rintro _ _ _ rfl;rfl
 one:=by rintro _ _ _ rfl;simp[Value.oneCell']
 mono:=fun _ h=>h
def kE:Lie (List UInt8) where
 k:=1
 pos:=by omega
 E:=fun H x c=>∃ A cc,c=[.slice A x.length cc]∧IsBytes H A cc x
 len:=by rintro _ _ _ ⟨_,_,rfl,_⟩;rfl
 one:=by rintro _ _ _ ⟨_,_,rfl,_⟩;simp[Value.oneCell']
 mono:=by rintro H K x c hl ⟨A,cc,e,h⟩;exact⟨A,cc,e,h.mono hl⟩
theorem XS (l:List UInt8) (i:Nat):(l.map fun u=>(u.toNat:Int)).getD i 0=((l.getD i 0).toNat:Int):=by
 simp[List.getD]
 cases h:l[i]? <;> simp
theorem iU (l:List UInt8):strOfNums (l.map fun u=>(u.toNat:Int))=⟨l.toArray⟩:=by
 have h:(fun n:Int=>UInt8.ofNat n.toNat) ∘ (fun u:UInt8=>(u.toNat:Int))=id:=by funext u;simp
 unfold strOfNums
 simp[h]
theorem xI {w:World}{A:Option Addr}{l:List UInt8}(h:Src w A (l.map zT)) (n c:Nat) (hn:n=l.length) :
  (convert 22 9 (.slice A n c)).run Tryz.prog w=.ok (.string ⟨l.toArray⟩) w:=by
 subst hn
 by_cases hl:l=[]
 ·subst hl
  cases A with
  | none=>exact run_convert_bytes_nil w _ 5 Tryz.underlying22 Tryz.underlying5 _ _ _ Tryz.underlying9
  | some a =>
  obtain⟨b,off,spot⟩:=a;rw[run_convert_bytes_string w _ _ 5 _ _ c Tryz.underlying22 Tryz.underlying5 Tryz.underlying9];rfl
 obtain⟨b,off,rfl,hc⟩:=h (by simpa using hl)
 have:=run_convert_bytes_arg (P:=Tryz.prog) w 22 5 Tryz.underlying22 Tryz.underlying5 b off l.length c (l.map fun u=>(u.toNat:Int)) (by simp)
  (fun i hi=>by rw[XS,hc i (zT l[i]) (by simp[hi])];simp[List.getD,hi]) _ Tryz.underlying9
 rw[this,iU]
theorem j5 (w:World) (A B:Option Addr) (a b:List UInt8) (n m c d:Nat) (hn:n=a.length) (hm:m=b.length) (ha:Src w A (a.map zT)) (hb:Src w B (b.map zT)) :
  Calls Tryz.prog 83 #[.slice A n c,.slice B m d] w fun e w'=>e=.returned (.bool (a==b))∧w=w':=by
 have h1:=xI ha n c hn;have h2:=xI hb m d hm;clear hn hm ha hb;go_enter Tryz.func83,Tryz.ntmps83
 go_wp2
 go_ret
 exact jcs
theorem mg {P:Program}{w:World}(b:Nat):∀ (l:List UInt8) (off:Nat) (acc:ByteArray),(∀ j v,(l.map zT)[j]? = some v→w.cell? ⟨b,off+j,none⟩=some v)→
  (Extern.Bytes.loadBytes ⟨b,off,none⟩ l.length acc).run P w=.ok ⟨acc.data++l.toArray⟩ w
 | [],off,acc,_=>by simp[Extern.Bytes.loadBytes]
 | u::l,off,acc,h=>by
  have h0:=h 0 (zT u) rfl;have ih:=mg (P:=P) b l (off+1) (acc.push u) (fun j v hj=>by rw[show off+1+j=off+(j+1) by omega];exact h (j+1) v (by simpa using hj))
  simp only[List.length_cons,Extern.Bytes.loadBytes]
  simp[load,Sem.run,Result.andThen,zT]at h0⊢
  simp[h0,fu,ByteArray.push]
  rw[show(⟨acc.data.push u⟩:ByteArray)=acc.push u from rfl,ih];congr 2
  simp[ByteArray.push]
theorem jK {P:Program}{w:World}{A:Option Addr}{l:List UInt8}(h:Src w A (l.map zT)) (n c:Nat) (hn:n=l.length) :
  (Extern.Bytes.bytesOf (.slice A n c)).run P w=.ok ⟨l.toArray⟩ w:=by
 subst hn
 by_cases hl:l=[]
 ·subst hl
  cases A with
  | none=>rfl
  | some a=>rfl
 obtain⟨b,off,rfl,hc⟩:=h (by simpa using hl);have:=mg (P:=P) b l off .empty hc
 simp only[Extern.Bytes.bytesOf]
 rw[this]
 simp[ByteArray.empty,ByteArray.emptyWithCapacity]
 rfl
theorem Zq {P:Program}{w:World}{A B:Option Addr}{a b:List UInt8}(ha:Src w A (a.map zT)) (hb:Src w B (b.map zT)) (n m c d:Nat) (hn:n=a.length) (hm:m=b.length) :
  (Extern.BytealgCompare.compare #[.slice A n c,.slice B m d]).run P w=.ok (.int .i64 (Lib.compareBytes a b)) w:=by
 change Sem.run P (do pure (goInt (Extern.BytealgCompare.cmp (← Extern.Bytes.bytesOf (.slice A n c)) (← Extern.Bytes.bytesOf (.slice B m d))))) w=_
 simp only[Sem.run_bind,Sem.run_pure,Result.andThen,jK ha n c hn,jK hb m d hm]
 rw[Lib.cmp_eq];rfl
theorem rq (w:World) (A B:Option Addr) (a b:List UInt8) (n m c d:Nat) (hn:n=a.length) (hm:m=b.length) (ha:Src w A (a.map zT)) (hb:Src w B (b.map zT)) :
  Calls Tryz.prog 91 #[.slice A n c,.slice B m d] w fun e w'=>e=.returned (.int .i64 (Lib.compareBytes a b))∧w=w':=by
 have h1:=Hh (Zq (P:=Tryz.prog) ha hb n m c d hn hm);clear hn hm ha hb;go_enter Tryz.func91,Tryz.ntmps91
 go_wp2
 rw[run_callFunc_extern Tryz.func109 (by kernel_rfl) (by kernel_rfl) (by kernel_rfl) (e:=Extern.BytealgCompare.compare) (by kernel_rfl),h1.out]
 simp only[Result.andThen]
 rw[Oper.upon_value];go_wp2
 go_ret
 exact jcs
theorem vC (w:World) (A:Option Addr) (l:List UInt8) (n c:Nat) (hn:n=l.length) (hl:l.length≤1099511627776) (hs:Src w A (l.map zT)) :
  Calls Tryz.prog 87 #[.slice A n c] w fun e w'=>∃ r,e=.returned r∧Fresh w l r w':=by
 cases A with
 | none =>
  have h0:l=[]:=by
   exact jdw
  subst h0;have he:=fun w:World=>Lib.run_eql_slice_nil (P:=Tryz.prog) w _ _ none n c 0 0 Tryz.underlying22
  clear hn hl;go_enter Tryz.func87,Tryz.ntmps87
  exact jd3
 | some a =>
 have he:=fun w:World=>Lib.run_eql_slice_nil (P:=Tryz.prog) w _ _ (some a) n c 0 0 Tryz.underlying22
 simp only[Option.isNone]at he
 have HN:=Hh hn;clear hn;go_enter Tryz.func87,Tryz.ntmps87
 exact jaY
theorem cK (w:World) (A:Option Addr) (l:List UInt8) (n c:Nat) (hn:n=l.length) (hl:l.length≤1099511627776) (hs:Src w A (l.map zT)) :
  Calls Tryz.prog 138 #[.slice A n c] w fun e w'=>∃ r,e=.returned r∧Fresh w l r w':=by
 cases A with
 | none =>
  have h0:l=[]:=by
   exact jdw
  subst h0;have he:=fun w:World=>Lib.run_eql_slice_nil (P:=Tryz.prog) w _ _ none n c 0 0 Tryz.underlying22
  clear hn hl;go_enter Tryz.func138,Tryz.ntmps138
  exact jd3
 | some a =>
 have he:=fun w:World=>Lib.run_eql_slice_nil (P:=Tryz.prog) w _ _ (some a) n c 0 0 Tryz.underlying22
 simp only[Option.isNone]at he
 have HN:=Hh hn;clear hn;go_enter Tryz.func138,Tryz.ntmps138
 exact jaY
theorem ss (w:World) (A B:Option Addr) (a b:List UInt8) (n m c d:Nat) (hn:n=a.length) (hm:m=b.length) (hna:n≤1099511627776) (hmb:m≤1099511627776) (ha:Src w A (a.map zT)) (hb:Src w B (b.map zT)) :
  Calls Tryz.prog 40 #[.slice A n c,.slice B m d] w fun e w'=>e=.returned (.int .i64 (Lib.compareBytes a b))∧Below w.heap.size w w':=by
 have HN:=Hh hn;have HM:=Hh hm;clear hn hm;go_enter Tryz.func40,Tryz.ntmps40
 go_wp2_with fail
 go_loopw [5] (fun vi wr=>∃ k:Nat,k≤n∧k≤m∧vi=.int .i64 k∧Lib.compareBytes (a.drop k) (b.drop k)=Lib.compareBytes a b∧Below w.heap.size w wr) (fun vi _=>n-(intOf vi).toNat)
 case atStart=>exact⟨0,by omega,by omega,rfl,by simp,Below.refl _ _⟩
 case round =>
 obtain⟨k,rX,qf,rfl,hc,ws⟩:=hrel;have hn:=HN.out;have hm:=HM.out
 by_cases h1:k<n
 ·by_cases h2:k<m
  ·obtain⟨ab,ao,rfl,FN⟩:=(ha.below ws) (by intro h;simp at h;subst h;simp at hn;omega)
   obtain⟨bb,bo,rfl,Uv⟩:=(hb.below ws) (by intro h;simp at h;subst h;simp at hm;omega)
   have ka:k<a.length:=by omega
   have kb:k<b.length:=by omega
   have p0:=FN k (zT a[k]) (by simp[ka]);have q0:=Uv k (zT b[k]) (by simp[kb])
   have hd:Lib.compareBytes (a.drop k) (b.drop k)=if a[k]<b[k] then -1 else if b[k]<a[k] then 1 else Lib.compareBytes (a.drop (k+1)) (b.drop (k+1)):=by
    rw[List.drop_eq_getElem_cons ka,List.drop_eq_getElem_cons kb,Lib.compareBytes]
   rw[hc]at hd
   generalize a[k]'ka=x at *
   generalize b[k]'kb=y at *
   have HD:=Hh hd;clear hd hc hn hm FN Uv ka kb;go_upto_region 4 with fail
   refine zj 8 (fun w'=>w'.cell? ⟨ab,ao+k,none⟩=some (zT x)∧w'.cell? ⟨bb,bo+k,none⟩=some (zT y)) (by kernel_rfl) (⟨p0,q0⟩) (fun zy=>?_)
   refine Tk 0 rfl zy ?_
   refine Tk 1 rfl zy ?_
   refine Tk 2 rfl zy ?_
   refine Tk 3 rfl zy ?_
   refine Tk 4 rfl zy ?_
   refine Tk 5 rfl zy ?_
   refine Tk 6 rfl zy ?_
   refine Tk 7 rfl zy ?_
   refine To 8 rfl fun K hK=>?_
   go_simp
   refine Kz hK ?_
   clear hK K
   refine Wd ?_
   clear zy
   by_cases NQ:x=y
   ·subst NQ;have E:Hid (Lib.compareBytes (a.drop (k+1)) (b.drop (k+1))=Lib.compareBytes a b):=by rw[Hid,HD.out,if_neg (UInt8.lt_irrefl x),if_neg (UInt8.lt_irrefl x)]
    have zC:=ws.drew;go_wp2_with fail
    go_roundw
    case rel=>exact⟨k+1,by omega,by omega,by go_num,E.out,zC⟩
    case measure=>simp[intOf];omega
   have uy:((x.toNat:Int) != (y.toNat:Int))=true:=by
    rw[bne_iff_ne]
    intro h
    exact NQ (UInt8.toNat_inj.1 (by omega))
   have zC:=ws.drew.drew;have Lu:=Hh NQ;clear NQ;go_upto_region 5 with fail
   refine zj 8 (fun w'=>w'.cell? ⟨ab,ao+k,none⟩=some (zT x)∧w'.cell? ⟨bb,bo+k,none⟩=some (zT y)) (by kernel_rfl) (⟨p0,q0⟩) (fun zy=>?_)
   refine Tk 0 rfl zy ?_
   refine Tk 1 rfl zy ?_
   refine Tk 2 rfl zy ?_
   refine Tk 3 rfl zy ?_
   refine Tk 4 rfl zy ?_
   refine Tk 5 rfl zy ?_
   refine Tk 6 rfl zy ?_
   refine Tk 7 rfl zy ?_
   refine To 8 rfl fun K hK=>?_
   go_simp
   refine Kz hK ?_
   clear hK K
   refine Wd ?_
   clear zy
   by_cases hl:x<y
   ·have E:Hid (Lib.compareBytes a b = -1):=by rw[Hid,HD.out,if_pos hl]
    have lT:(x.toNat:Int)<(y.toNat:Int):=by have:=UInt8.lt_iff_toNat_lt.1 hl;omega
    clear hl;go_wp2_with fail
    go_ret
    exact⟨by rw[E.out];rfl,zC⟩
   have hg:y<x:=by
    have:=Lu.out
    rcases Nat.lt_trichotomy x.toNat y.toNat with h | h | h
    ·exact absurd (UInt8.lt_iff_toNat_lt.2 h) hl
    ·exact absurd (UInt8.toNat_inj.1 h) this
    exact UInt8.lt_iff_toNat_lt.2 h
   have E:Hid (Lib.compareBytes a b=1):=by rw[Hid,HD.out,if_neg hl,if_pos hg]
   have lT:(y.toNat:Int)≤(x.toNat:Int):=by have:=UInt8.lt_iff_toNat_lt.1 hg;omega
   clear hl hg;go_wp2_with fail
   go_ret
   exact⟨by rw[E.out];rfl,ws.drew.drew⟩
  have JV:k=m:=by omega
  have E:Hid (Lib.compareBytes a b=1):=by
   rw[Hid,← hc,List.drop_eq_getElem_cons (show k<a.length by omega),List.drop_eq_nil_of_le (show b.length≤k by omega),Lib.compareBytes]
  exact jcx
 have Uq:k=n:=by omega
 by_cases h2:k<m
 ·have E:Hid (Lib.compareBytes a b = -1):=by
   rw[Hid,← hc,List.drop_eq_nil_of_le (show a.length≤k by omega),List.drop_eq_getElem_cons (show k<b.length by omega),Lib.compareBytes]
  exact jcx
 have E:Hid (Lib.compareBytes a b=0):=by
  rw[Hid,← hc,List.drop_eq_nil_of_le (show a.length≤k by omega),List.drop_eq_nil_of_le (show b.length≤k by omega),Lib.compareBytes]
 exact jcx
theorem OwnB.blk {w:World}{g base:Nat}{cs:Array Value}{l:List UInt8}(h:Blk w g 5 cs) (hc:cs.toList=l.map zT) (hb:base≤g) (hm:l.length≤4096) (k:Nat) (hk:k=l.length) :
  OwnB w base (.slice (some ⟨g,0,none⟩) k k) l:=by
 subst hk
 refine⟨by simp,.inr ⟨g,l.length,cs,rfl,hb,h,Nat.le_refl _,by simp only[maxLen];omega, ?_, ?_⟩⟩
 ·rw[← Array.length_toList,hc];simp
 exact jdY
def tW (n s j:Nat):List UInt8:=(List.range j).map fun t=>u8 (n/2 ^ (8*(s-1-t)))
theorem fm (n s j:Nat):tW n s (j+1)=tW n s j++[u8 (n/2 ^ (8*(s-1-j)))]:=by
 simp[tW,List.range_succ]
theorem nT (n s j:Nat):(tW n s j).length=j:=by simp[tW]
def mo (n s j:Nat):UInt8:=u8 (n/2 ^ (8*(s-1-j)))
def rR (n:Nat):Nat:=if n<256 then 1 else if n<65536 then 2 else if n<4294967296 then 4 else 8
def pU (n:Nat):Nat:=if n<256 then 24 else if n<65536 then 25 else if n<4294967296 then 26 else 27
def lK (m n:Nat):UInt8:=u8 (m*32+pU n)
theorem Xj (m n:Nat) (h:24≤n):zF m n=lK m n::tW n (rR n) (rR n):=by
 rw[zF,if_neg (by omega),lK,pU,rR]
 by_cases h1:n<256
 ·simp[h1,tW,List.range_succ]
 by_cases h2:n<65536
 ·simp[h1,h2,tW,List.range_succ]
 by_cases h3:n<4294967296
 ·simp[h1,h2,h3,tW,List.range_succ]
 simp[h1,h2,h3,tW,be8,List.range_succ]
theorem Nd {n:Int}(h:n<256):rR n.toNat=1∧pU n.toNat=24:=by
 constructor <;> (simp only[rR,pU];repeat (first | rw[if_pos (by omega)] | rw[if_neg (by omega)]))
theorem Nf {n:Int}(h:256≤n) (h':n<65536):rR n.toNat=2∧pU n.toNat=25:=by
 constructor <;> (simp only[rR,pU];repeat (first | rw[if_pos (by omega)] | rw[if_neg (by omega)]))
theorem Ng {n:Int}(h:65536≤n) (h':n<4294967296):rR n.toNat=4∧pU n.toNat=26:=by
 constructor <;> (simp only[rR,pU];repeat (first | rw[if_pos (by omega)] | rw[if_neg (by omega)]))
theorem Nh {n:Int}(h:4294967296≤n):rR n.toNat=8∧pU n.toNat=27:=by
 constructor <;> (simp only[rR,pU];repeat (first | rw[if_pos (by omega)] | rw[if_neg (by omega)]))
theorem SU (n:Nat):1≤rR n∧rR n≤8:=by
 unfold rR
 repeat' split
 all_goals omega
theorem VH {m n:Int}(gz:0≤m) (hm:m<8) (h0:0≤n) (h:n<24):(#[.int .u8 (32*m+n)]:Array Value).toList=(zF m.toNat n.toNat).map zT:=by
 rw[zF,if_pos (by omega)]
 simp only[List.map_cons,List.map_nil,x8]
 congr 2
 omega
theorem pR (m n:Int) (w:World) (gz:0≤m) (hm:m<8) (h0:0≤n) (h1:n<18446744073709551616) :
  Calls Tryz.prog 76 #[.int .i64 m,.int .u64 n] w fun e w'=>∃ r,e=.returned r∧Fresh w (zF m.toNat n.toNat) r w':=by
 have H1:=Hh h1;have H0:=Hh h0;have K0:IntKind.u8.wrap (32*m+24)=32*m+24:=IntWalk.u8_in _ (by omega);have K1:IntKind.i64.wrap (32*m)=32*m:=IntWalk.i64_in _ (by omega);have K2:IntKind.i64.wrap (32*m+24)=32*m+24:=IntWalk.i64_in _ (by omega);have K3:IntKind.u8.wrap (32*m)=32*m:=IntWalk.u8_in _ (by omega);have hB:=Blk.new w 5 #[.int .u8 (32*m+24)];have uo:=zm w (.cells #[.int .u8 (32*m+24)] 5);clear h1;go_enter Tryz.func76,Tryz.ntmps76
 go_upto_block 0 with fail
 go_cut [5,6] (fun s5 s6 wx=>24≤n∧s5=.slice (some ⟨w.heap.size,0,none⟩) 1 1∧s6=.int .i64 (rR n.toNat:Int)∧Blk wx w.heap.size 5 #[.int .u8 (32*m+(pU n.toNat:Int))]∧Below w.heap.size w wx)
 case first =>
  go_wp2_with fail
  ·go_ret
   have zB:n<24:=by with_reducible assumption
   have hc:=VH gz hm H0.out zB;have yT:=Blk.new (w.alloc (.cells #[.int .u8 (32*m+24)] 5)) 5 #[.int .u8 (32*m+n)]
   simp only[zh]at yT
   have Yu:1=(zF m.toNat n.toNat).length:=by rw[vh,if_pos (by omega)]
   exact⟨_,rfl,OwnB.blk yT hc (by omega) (by omega) 1 Yu,uo.alloc uo.size _⟩
  ·have tZ:24≤n:=by with_reducible assumption
   have zB:n<256:=by with_reducible assumption
   obtain⟨e1,e2⟩:=Nd zB;go_meet
   rw[e1,e2]
   exact⟨tZ,rfl,rfl,hB,uo⟩
  ·have tZ:24≤n:=by with_reducible assumption
   have gv:256≤n:=by with_reducible assumption
   have zB:n<65536:=by with_reducible assumption
   obtain⟨e1,e2⟩:=Nf gv zB;go_meet
   rw[e1,e2];have:=Blk.new w 5 #[.int .u8 (32*m+24+1)];rw[show 32*m+24+1=32*m+((25:Nat):Int) by omega]at this⊢
   exact jdX
  ·have tZ:24≤n:=by with_reducible assumption
   have gv:65536≤n:=by with_reducible assumption
   have zB:n<4294967296:=by with_reducible assumption
   obtain⟨e1,e2⟩:=Ng gv zB;go_meet
   rw[e1,e2];have:=Blk.new w 5 #[.int .u8 (32*m+24+2)];rw[show 32*m+24+2=32*m+((26:Nat):Int) by omega]at this⊢
   exact jdX
  have tZ:24≤n:=by with_reducible assumption
  have gv:4294967296≤n:=by with_reducible assumption
  obtain⟨e1,e2⟩:=Nh gv;go_meet
  rw[e1,e2];have:=Blk.new w 5 #[.int .u8 (32*m+24+3)];rw[show 32*m+24+3=32*m+((27:Nat):Int) by omega]at this⊢
  exact jdX
 case rest =>
 obtain⟨tZ,rfl,rfl,yT,zC⟩:=hcut;obtain⟨wu,kL⟩:=SU n.toNat;have HT:=Hh (Xj m.toNat n.toNat (by omega))
 generalize rR n.toNat=s at *
 have K5:IntKind.i64.wrap ((s:Int)-1)=(s:Int)-1:=IntWalk.i64_in _ (by omega)
 have hO:OwnB wc w.heap.size (.slice (some ⟨w.heap.size,0,none⟩) 1 1) [lK m.toNat n.toNat]:=by
  refine OwnB.blk yT ?_ (Nat.le_refl _) (by simp) 1 rfl
  simp only[List.map_cons,List.map_nil,lK,x8]
  have:pU n.toNat≤27:=by unfold pU;(repeat' split);all_goals omega
  congr 2
  omega
 go_upto_region 13 with fail
 go_loopw [5,7] (fun v5 v7 wr=>∃ (j:Nat) (VA:Option Addr) (vc:Nat),j≤s∧v7=.int .i64 ((s:Int)-1-j)∧v5=.slice VA (1+j) vc∧OwnB wr w.heap.size (.slice VA (1+j) vc) (lK m.toNat n.toNat::tW n.toNat s j)∧Below w.heap.size w wr) (fun _ v7 _=>(intOf v7+1).toNat)
 case atStart=>exact⟨0,_,_,by omega,by go_num,rfl,hO,zC⟩
 case round =>
 obtain⟨j,VA,vc,hj,rfl,rfl,vY,ws⟩:=hrel
 by_cases zB:j<s
 ·have gv:(0:Int)≤(s:Int)-1-j:=by omega
  have yF:(#[.int .u8 (n/2 ^ (8*(s-1-j))%256)]:Array Value).toList=[mo n.toNat s j].map zT:=by
   simp only[List.map_cons,List.map_nil,mo,x8]
   obtain⟨n',rfl⟩:=Int.eq_ofNat_of_zero_le H0.out
   simp
  have xy:=ws.alloc ws.size (.cells #[.int .u8 (n/2 ^ (8*(s-1-j))%256)] 5);have je:=vY.alloc (.cells #[.int .u8 (n/2 ^ (8*(s-1-j))%256)] 5);have HC:=Hh yF;clear yF;go_wp2_with (at_builtin;refine yq ?_)
  refine zW rfl (.tmp 56) (.tmp 63) rfl w.heap.size _ _ rfl je _ 1 _ [mo n.toNat s j] rfl rfl (Src.new _ _ _ _ rfl _ HC.out) (by simp[nT];omega) xy.size fun v' w7 vr yQ hat7=>?_
  have Rd:(lK m.toNat n.toNat::tW n.toNat s j)++[mo n.toNat s j]=lK m.toNat n.toNat::tW n.toNat s (j+1):=by rw[fm];rfl
  obtain⟨VA',vc',rfl,_⟩:=vr.form;have lU:((lK m.toNat n.toNat::tW n.toNat s j)++[mo n.toNat s j]).length=1+(j+1):=by simp[nT];omega
  rw[lU]at vr;rw[lU];rw[Rd]at vr;have uq:=jg4;clear Rd lU yQ hat7 je vY xy ws;go_wp2_with fail
  go_roundw
  case rel=>exact⟨j+1,VA',vc',by omega,by rw[show((j+1:Nat):Int)=(j:Int)+1 by omega,show(s:Int)-1-((j:Int)+1)=(s:Int)-1-j-1 by omega],rfl,vr,uq⟩
  case measure=>simp[intOf];omega
 have IQ:j=s:=by omega
 subst IQ;have E:Hid (zF m.toNat n.toNat=lK m.toNat n.toNat::tW n.toNat j j):=HT.out;have Am:(j:Int)-1-j<0:=by omega
 go_wp2_with fail
 go_ret
 rw[E.out]
 exact⟨_,rfl,vY,ws⟩
def isNaN (n:Nat):Bool:=n/2 ^ 52%2048==2047&&n%2 ^ 52 != 0
def yz (n eb mb:Nat):Option Nat :=
 let sign:=n/2 ^ 63*2 ^ (eb+mb)
 let e:=n/2 ^ 52%2048
 let m:=n%2 ^ 52
 let top:=2 ^ eb-1
 let bias:=2 ^ (eb-1)-1
 if e=2047 then(if m=0 then some (sign+top*2 ^ mb) else none)
 else if e=0 then(if m=0 then some sign else none)
 else if 1023+top≤e+bias then none
 else if 1023<e+bias then(if m%2 ^ (52-mb)=0 then some (sign+(e+bias-1023)*2 ^ mb+m/2 ^ (52-mb)) else none)
 else
  let shift:=53-mb+(1023-e-bias)
  if 52<shift then none else if(m+2 ^ 52)%2 ^ shift=0 then some (sign+(m+2 ^ 52)/2 ^ shift) else none
def zO (n:Nat):List UInt8 :=
 if isNaN n then [u8 249,u8 126,u8 0] else
 match yz n 5 10 with
 | some v=>[u8 249,u8 (v/256),u8 v]
 | none=>match yz n 8 23 with
  | some v=>[u8 250,u8 (v/16777216),u8 (v/65536),u8 (v/256),u8 v]
  | none=>u8 251::be8 n 8
theorem mW (n:Nat):(zO n).length=3∨(zO n).length=5∨(zO n).length=9:=by
 unfold zO
 repeat' split
 all_goals simp[uv]
def numP (x:Itm):Nat :=
 if x.kind=2∨x.kind=3 then x.bytes.length else if x.kind=4 then x.items.length else if x.kind=5 then x.items.length/2 else x.n
mutual
def zf:Itm→List UInt8
 | .mk k n bs l =>
 if k=8 then zO n
 else if k=7∧24≤n then [u8 248,u8 n]
 else zF k.toNat (numP (.mk k n bs l))++bs++zG l
def zG:List Itm→List UInt8
 | []=>[]
 | x::l=>zf x++zG l
end
theorem sr (l m:List Itm):zG (l++m)=zG l++zG m:=by
 induction l with
 | nil=>rw[List.nil_append,zG,List.nil_append]
 | cons x l ih=>rw[List.cons_append,zG,zG,ih,List.append_assoc]
theorem uG (l:List Itm) (k:Nat) (h:k<l.length):zG (l.take (k+1))=zG (l.take k)++zf l[k]:=by
 rw[List.take_succ_eq_append_getElem h,sr,zG,zG,List.append_nil]
theorem xu (x:Itm):zf x=if x.kind=8 then zO x.n else if x.kind=7∧24≤x.n then [u8 248,u8 x.n] else zF x.kind.toNat (numP x)++x.bytes++zG x.items:=by
 cases x
 rw[zf];rfl
theorem oe (l:List Itm) (k:Nat):(zG (l.take k)).length≤(zG l).length:=by
 have h:=sr (l.take k) (l.drop k);rw[List.take_append_drop]at h;rw[h]
 simp
mutual
def Kinds:Itm→Prop
 | .mk k _ _ l=>(0≤k∧k≤8)∧KindsL l
def KindsL:List Itm→Prop
 | []=>True
 | x::l=>Kinds x∧KindsL l
end
theorem Kinds.kind {x:Itm}(h:Kinds x):0≤x.kind∧x.kind≤8:=by cases x;rw[Kinds]at h;exact h.1
theorem Kinds.items {x:Itm}(h:Kinds x):KindsL x.items:=by cases x;rw[Kinds]at h;exact h.2
theorem KindsL.get:∀ {l:List Itm},KindsL l→∀ (k:Nat) (hk:k<l.length),Kinds l[k]
 | [],_,k,hk=>by simp at hk
 | x::l,h,0,_=>by rw[KindsL]at h;exact h.1
 | x::l,h,k+1,hk=>by rw[KindsL]at h;exact h.2.get k (by simpa using hk)
mutual
def cnt:Itm→Nat
 | .mk _ _ _ l=>xM l+1
def xM:List Itm→Nat
 | []=>0
 | x::l=>cnt x+xM l
end
theorem aI:∀ (l:List Itm) (k:Nat) (hk:k<l.length),cnt l[k]≤xM l
 | [],k,hk=>by simp at hk
 | x::l,0,_=>by rw[xM];simp
 | x::l,k+1,hk=>by
  have:=aI l k (by simpa using hk);rw[xM]
  simp only[List.getElem_cons_succ]
  omega
theorem ui (x:Itm) (k:Nat) (hk:k<x.items.length):cnt x.items[k]<cnt x:=by
 cases x with
 | mk a b c l =>
 have:=aI l k hk;rw[cnt]
 simp only[Itm.items]
 omega
theorem uC (a k:Nat) (ha:a<2 ^ 64) (hk:k<64):bits .and .u64 (a:Int) ((2 ^ k-1:Nat):Int)=((a%2 ^ k:Nat):Int):=by
 rw[u64_and_nat a (2 ^ k-1) (by simpa using ha) ?_,Nat.and_two_pow_sub_one_eq_mod];have:2 ^ k<2 ^ 64:=Nat.pow_lt_pow_right (by omega) hk
 omega
theorem pj (a k b:Nat) (hb:b<2 ^ k) (h:a*2 ^ k+b<2 ^ 64):bits .or .u64 ((a*2 ^ k:Nat):Int) (b:Int)=((a*2 ^ k+b:Nat):Int):=by
 rw[u64_or_nat _ _ (by omega) (by omega),Nat.mul_comm,Nat.two_pow_add_eq_or_of_lt hb]
theorem TV (b k:Nat) (hb:b<2 ^ k) (hk:k<64):bits .or .u64 (b:Int) ((2 ^ k:Nat):Int)=((b+2 ^ k:Nat):Int):=by
 have h1:2 ^ k<2 ^ 64:=Nat.pow_lt_pow_right (by omega) hk;rw[u64_or_nat _ _ (by omega) (by omega),Nat.or_comm];have:=Nat.two_pow_add_eq_or_of_lt hb 1;rw[Nat.mul_one]at this;rw[← this,Nat.add_comm]
theorem ag (k:Nat) (hk:k<64):IntKind.u64.wrap (IntKind.u64.wrap ((2:Int) ^ k)-1)=((2 ^ k-1:Nat):Int):=by
 have h1:2 ^ k<2 ^ 64:=Nat.pow_lt_pow_right (by omega) hk;have h2:0<2 ^ k:=Nat.two_pow_pos k;have e:(2:Int) ^ k=((2 ^ k:Nat):Int):=by rw[Int.natCast_pow];rfl
 simp only[Nat.reducePow]at h1
 have e1:IntKind.u64.wrap ((2 ^ k:Nat):Int)=((2 ^ k:Nat):Int):=IntWalk.u64_in _ (by omega);rw[e,e1,IntWalk.u64_in _ (by omega)]
 omega
theorem jv (n:Nat) (hn:n<18446744073709551616) (w:World) :
  Calls Tryz.prog 97 #[.int .u64 (n:Int)] w fun e w'=>e=.returned (.bool (isNaN n))∧w=w':=by
 obtain⟨A1,A2⟩:=jhu
 have E:Hid (isNaN n=(((n/2 ^ 52%2 ^ 11:Nat):Int)==2047&&((n%2 ^ 52:Nat):Int) != 0)):=by
  rw[Hid,isNaN,Bool.eq_iff_iff]
  simp only[Bool.and_eq_true,beq_iff_eq,bne_iff_ne]
  omega
 simp only[Nat.reducePow,Nat.reduceSub]at A1 A2 E
 rw[Int.natCast_ediv]at A1;have HN:=Hh hn;have DT:=Hh A1;have DU:=Hh A2;clear hn A1 A2;go_enter Tryz.func97,Tryz.ntmps97
 go_wp2_with fail
 all_goals
  go_ret
  refine⟨?_,rfl⟩
  have A1:=DT.out;have A2:=DU.out;have E':=E.out;show Ending.returned (Value.bool _)=_
  clear E DT DU HN
  simp_all
theorem cI (n:Nat) (hn:n<18446744073709551616) (w:World) :
  Calls Tryz.prog 98 #[.int .u64 (n:Int),.int .i64 5,.int .i64 10] w
   fun e w'=>(∃ v:Nat,e=.returned (.tuple #[.int .u64 (v:Int),.bool (yz n 5 10).isSome])∧∀ x,yz n 5 10=some x→v=x)∧w=w':=by
 obtain⟨A1,A2⟩:=jhu
 simp only[Nat.reducePow,Nat.reduceSub]at A1 A2
 rw[Int.natCast_ediv]at A1;obtain⟨ex,rx⟩:∃ ex,n/4503599627370496%2048=ex:=⟨_,rfl⟩
 obtain⟨mx,hJ⟩:∃ mx,n%4503599627370496=mx:=⟨_,rfl⟩
 obtain⟨sg,XI⟩:∃ sg,n/9223372036854775808=sg:=⟨_,rfl⟩
 have wu:sg≤1:=by omega
 have E:Hid (yz n 5 10=if ex=2047 then(if mx=0 then some (sg*32768+31744) else none) else if ex=0 then(if mx=0 then some (sg*32768) else none)
   else if 1023+31≤ex+15 then none else if 1023<ex+15 then(if mx%4398046511104=0 then some (sg*32768+(ex+15-1023)*1024+mx/4398046511104) else none)
   else if 52<43+(1023-ex-15) then none else if(mx+4503599627370496)%2 ^ (43+(1023-ex-15))=0 then some (sg*32768+(mx+4503599627370496)/2 ^ (43+(1023-ex-15))) else none):=by
  exact jdj
 rw[rx]at A1;rw[hJ]at A2;have MH:ex<2048:=by omega
 have pP:mx<4503599627370496:=by omega
 obtain⟨A1',A2',K1⟩:=jg6
 have KS:Hid (IntKind.u64.wrap ((n:Int)/9223372036854775808*32768)=((sg*2 ^ 15:Nat):Int)):=by
  rw[Hid,IntWalk.u64_in _ (by omega)]
  omega
 clear hn rx hJ XI A1 A2;go_enter Tryz.func98,Tryz.ntmps98
 go_wp2_with fail
 ·have h1:ex=2047:=by
   exact jdJ
  go_ret2
  have MV:=pj sg 15 31744 (by omega) (by omega)
  refine⟨⟨sg*32768+31744, ?_, ?_⟩,rfl⟩
  ·show Ending.returned (Value.tuple #[Value.int .u64 _,Value.bool _])=_
   rw[KS.out,E.out,if_pos h1];rw[show(31744:Int)=((31744:Nat):Int) from rfl,MV]
   exact je4
  intro x hx
  rw[E.out,if_pos h1]at hx
  exact jbt
 ·have h1:¬ ex=2047:=by
   exact jbN
  have h2:ex=0:=by
   exact jcE
  go_ret2
  refine⟨⟨sg*32768, ?_, ?_⟩,rfl⟩
  ·exact jcu
  intro x hx
  rw[E.out,if_neg h1,if_pos h2]at hx
  exact jbt
 all_goals
  have h1:¬ ex=2047:=by
   exact jbN
  have h2:¬ ex=0:=by
   exact jeO
  rw[if_neg h1,if_neg h2]at E
 ·have h3:1023+31≤ex+15:=by omega
  exact jcQ
 ·have h3:¬ 1023+31≤ex+15:=by omega
  have h4:1023<ex+15:=by omega
  obtain⟨q,hq⟩:∃ q,ex+15-1023=q:=⟨_,rfl⟩
  have MZ:((ex:Int)-1023+15)*1024=((q*1024:Nat):Int):=by omega
  have XG:(mx:Int)/4398046511104=((mx/4398046511104:Nat):Int):=by omega
  have ha:=uC mx 42 (by omega) (by omega)
  simp only[Nat.reducePow,Nat.reduceSub]at ha
  have Ur:=pj sg 15 (q*1024) (by omega) (by omega);have Yx:=pj (sg*2 ^ 5+q) 10 (mx/4398046511104) (by omega) (by omega);rw[show(sg*2 ^ 5+q)*2 ^ 10=sg*2 ^ 15+q*1024 by omega]at Yx;go_ret2
  refine⟨⟨sg*32768+q*1024+mx/4398046511104, ?_, ?_⟩,rfl⟩
  ·show Ending.returned (Value.tuple #[Value.int .u64 _,Value.bool _])=_
   rw[KS.out,E.out,if_neg h3,if_pos h4,MZ,XG,Ur,Yx];have UW:bits .and .u64 (mx:Int) 4398046511103=((mx%4398046511104:Nat):Int):=ha;rw[UW]
   by_cases h:mx%4398046511104=0
   ·rw[if_pos h,h];rfl
   rw[if_neg h];have:(((mx%4398046511104:Nat):Int)==0)=false:=by rw[beq_eq_false_iff_ne];omega
   rw[this];rfl
  exact jfc
 ·have h5:52<43+(1023-ex-15):=by omega
  have h3:¬ 1023+31≤ex+15:=by omega
  have h4:¬ 1023<ex+15:=by omega
  exact jco
 have h3:¬ 1023+31≤ex+15:=by omega
 have h4:¬ 1023<ex+15:=by omega
 have h5:¬ 52<43+(1023-ex-15):=by omega
 obtain⟨sh,XJ⟩:∃ sh,43+(1023-ex-15)=sh:=⟨_,rfl⟩
 have PI:(43-((ex:Int)-1023+15)).toNat=sh:=by omega
 obtain⟨full,uS⟩:∃ full,mx+4503599627370496=full:=⟨_,rfl⟩
 have MU:bits .or .u64 (mx:Int) 4503599627370496=(full:Int):=by
  have:=TV mx 52 (by omega) (by omega)
  exact jc0
 have hw:=jhJ
 have MG:(full:Int)/2 ^ sh=((full/2 ^ sh:Nat):Int):=by
  exact jdF
 have zB:full/2 ^ sh<2 ^ 15:=by
  apply Nat.div_lt_of_lt_mul
  have:2 ^ 43≤2 ^ sh:=Nat.pow_le_pow_right (by omega) (by omega);have h2:2 ^ 43*2 ^ 15≤2 ^ sh*2 ^ 15:=Nat.mul_le_mul_right _ this
  exact jc1
 have ho:=pj sg 15 (full/2 ^ sh) zB (by simp only[Nat.reducePow]at zB⊢;omega);have ha:=uC full sh (by omega) (by omega);go_ret2
 refine⟨⟨sg*32768+full/2 ^ sh, ?_, ?_⟩,rfl⟩
 ·exact jbs
 exact je2
theorem cJ (n:Nat) (hn:n<18446744073709551616) (w:World) :
  Calls Tryz.prog 98 #[.int .u64 (n:Int),.int .i64 8,.int .i64 23] w
   fun e w'=>(∃ v:Nat,e=.returned (.tuple #[.int .u64 (v:Int),.bool (yz n 8 23).isSome])∧∀ x,yz n 8 23=some x→v=x)∧w=w':=by
 obtain⟨A1,A2⟩:=jhu
 simp only[Nat.reducePow,Nat.reduceSub]at A1 A2
 rw[Int.natCast_ediv]at A1;obtain⟨ex,rx⟩:∃ ex,n/4503599627370496%2048=ex:=⟨_,rfl⟩
 obtain⟨mx,hJ⟩:∃ mx,n%4503599627370496=mx:=⟨_,rfl⟩
 obtain⟨sg,XI⟩:∃ sg,n/9223372036854775808=sg:=⟨_,rfl⟩
 have wu:sg≤1:=by omega
 have E:Hid (yz n 8 23=if ex=2047 then(if mx=0 then some (sg*2147483648+2139095040) else none) else if ex=0 then(if mx=0 then some (sg*2147483648) else none)
   else if 1023+255≤ex+127 then none else if 1023<ex+127 then(if mx%536870912=0 then some (sg*2147483648+(ex+127-1023)*8388608+mx/536870912) else none)
   else if 52<30+(1023-ex-127) then none else if(mx+4503599627370496)%2 ^ (30+(1023-ex-127))=0 then some (sg*2147483648+(mx+4503599627370496)/2 ^ (30+(1023-ex-127))) else none):=by
  exact jdj
 rw[rx]at A1;rw[hJ]at A2;have MH:ex<2048:=by omega
 have pP:mx<4503599627370496:=by omega
 obtain⟨A1',A2',K1⟩:=jg6
 have KS:Hid (IntKind.u64.wrap ((n:Int)/9223372036854775808*2147483648)=((sg*2 ^ 31:Nat):Int)):=by
  rw[Hid,IntWalk.u64_in _ (by omega)]
  omega
 clear hn rx hJ XI A1 A2;go_enter Tryz.func98,Tryz.ntmps98
 go_wp2_with fail
 ·have h1:ex=2047:=by
   exact jdJ
  go_ret2
  have MV:=pj sg 31 2139095040 (by omega) (by omega)
  refine⟨⟨sg*2147483648+2139095040, ?_, ?_⟩,rfl⟩
  ·show Ending.returned (Value.tuple #[Value.int .u64 _,Value.bool _])=_
   rw[KS.out,E.out,if_pos h1];rw[show(2139095040:Int)=((2139095040:Nat):Int) from rfl,MV]
   exact je4
  intro x hx
  rw[E.out,if_pos h1]at hx
  exact jbt
 ·have h1:¬ ex=2047:=by
   exact jbN
  have h2:ex=0:=by
   exact jcE
  go_ret2
  refine⟨⟨sg*2147483648, ?_, ?_⟩,rfl⟩
  ·exact jcu
  intro x hx
  rw[E.out,if_neg h1,if_pos h2]at hx
  exact jbt
 all_goals
  have h1:¬ ex=2047:=by
   exact jbN
  have h2:¬ ex=0:=by
   exact jeO
  rw[if_neg h1,if_neg h2]at E
 ·have h3:1023+255≤ex+127:=by omega
  exact jcQ
 ·have h3:¬ 1023+255≤ex+127:=by omega
  have h4:1023<ex+127:=by omega
  obtain⟨q,hq⟩:∃ q,ex+127-1023=q:=⟨_,rfl⟩
  have MZ:((ex:Int)-1023+127)*8388608=((q*8388608:Nat):Int):=by omega
  have XG:(mx:Int)/536870912=((mx/536870912:Nat):Int):=by omega
  have ha:=uC mx 29 (by omega) (by omega)
  simp only[Nat.reducePow,Nat.reduceSub]at ha
  have Ur:=pj sg 31 (q*8388608) (by omega) (by omega);have Yx:=pj (sg*2 ^ 8+q) 23 (mx/536870912) (by omega) (by omega);rw[show(sg*2 ^ 8+q)*2 ^ 23=sg*2 ^ 31+q*8388608 by omega]at Yx;go_ret2
  refine⟨⟨sg*2147483648+q*8388608+mx/536870912, ?_, ?_⟩,rfl⟩
  ·show Ending.returned (Value.tuple #[Value.int .u64 _,Value.bool _])=_
   rw[KS.out,E.out,if_neg h3,if_pos h4,MZ,XG,Ur,Yx];have UW:bits .and .u64 (mx:Int) 536870911=((mx%536870912:Nat):Int):=ha;rw[UW]
   by_cases h:mx%536870912=0
   ·rw[if_pos h,h];rfl
   rw[if_neg h];have:(((mx%536870912:Nat):Int)==0)=false:=by rw[beq_eq_false_iff_ne];omega
   rw[this];rfl
  exact jfc
 ·have h5:52<30+(1023-ex-127):=by omega
  have h3:¬ 1023+255≤ex+127:=by omega
  have h4:¬ 1023<ex+127:=by omega
  exact jco
 have h3:¬ 1023+255≤ex+127:=by omega
 have h4:¬ 1023<ex+127:=by omega
 have h5:¬ 52<30+(1023-ex-127):=by omega
 obtain⟨sh,XJ⟩:∃ sh,30+(1023-ex-127)=sh:=⟨_,rfl⟩
 have PI:(30-((ex:Int)-1023+127)).toNat=sh:=by omega
 obtain⟨full,uS⟩:∃ full,mx+4503599627370496=full:=⟨_,rfl⟩
 have MU:bits .or .u64 (mx:Int) 4503599627370496=(full:Int):=by
  have:=TV mx 52 (by omega) (by omega)
  exact jc0
 have hw:=jhJ
 have MG:(full:Int)/2 ^ sh=((full/2 ^ sh:Nat):Int):=by
  exact jdF
 have zB:full/2 ^ sh<2 ^ 31:=by
  apply Nat.div_lt_of_lt_mul
  have:2 ^ 30≤2 ^ sh:=Nat.pow_le_pow_right (by omega) (by omega);have h2:2 ^ 30*2 ^ 31≤2 ^ sh*2 ^ 31:=Nat.mul_le_mul_right _ this
  exact jc1
 have ho:=pj sg 31 (full/2 ^ sh) zB (by simp only[Nat.reducePow]at zB⊢;omega);have ha:=uC full sh (by omega) (by omega);go_ret2
 refine⟨⟨sg*2147483648+full/2 ^ sh, ?_, ?_⟩,rfl⟩
 ·exact jbs
 exact je2
theorem dq (n:Nat) (hn:n<18446744073709551616) (w:World) :
  Calls Tryz.prog 77 #[.int .u64 (n:Int)] w fun e w'=>∃ r,e=.returned r∧Fresh w (zO n) r w':=by
 have I:=Hh (jv n hn w);have N1:=Hh (cI n hn w);have N2:=Hh (cJ n hn w);have HN:=Hh hn;clear hn
 cases hN:isNaN n with
 | true =>
  rw[hN]at I;have E:Hid (zO n=[u8 249,u8 126,u8 0]):=by rw[Hid,zO,if_pos hN]
  clear hN;go_enter Tryz.func77,Tryz.ntmps77
  go_wp2_with fail
  refine I.out.mono ?_
  rintro e w' ⟨rfl,rfl⟩
  exact jc5
 | false =>
 rw[hN]at I
 cases h1:yz n 5 10 with
 | some v =>
  have E:Hid (zO n=[u8 249,u8 (v/256),u8 v]):=by rw[Hid,zO,if_neg (by simp[hN]),h1]
  rw[h1]at N1;clear hN h1;go_enter Tryz.func77,Tryz.ntmps77
  go_wp2_with fail
  refine I.out.mono ?_
  rintro e w' ⟨rfl,rfl⟩
  go_wp2_with fail
  refine N1.out.mono ?_
  rintro e w' ⟨⟨v',rfl,hv⟩,rfl⟩
  obtain rfl:=hv v rfl;clear hv;go_wp2_with fail
  go_ret
  refine⟨_,rfl, ?_⟩
  rw[E.out]
  refine Fresh.lit w _ _ 3 rfl (by simp) ?_
  exact jch
 | none =>
 rw[h1]at N1
 cases h2:yz n 8 23 with
 | some v =>
  have E:Hid (zO n=[u8 250,u8 (v/16777216),u8 (v/65536),u8 (v/256),u8 v]):=by rw[Hid,zO,if_neg (by simp[hN]),h1,h2]
  rw[h2]at N2;clear hN h1 h2;go_enter Tryz.func77,Tryz.ntmps77
  go_wp2_with fail
  refine I.out.mono ?_
  rintro e w' ⟨rfl,rfl⟩
  go_wp2_with fail
  refine N1.out.mono ?_
  rintro e w' ⟨⟨v',rfl,_⟩,rfl⟩
  go_wp2_with fail
  refine N2.out.mono ?_
  rintro e w' ⟨⟨v'',rfl,hv⟩,rfl⟩
  obtain rfl:=hv v rfl;clear hv;go_wp2_with fail
  go_ret
  refine⟨_,rfl, ?_⟩
  rw[E.out]
  refine Fresh.lit w _ _ 5 rfl (by simp) ?_
  exact jch
 | none =>
 have E:Hid (zO n=u8 251::tW n 8 8):=by
  rw[Hid,zO,if_neg (by simp[hN]),h1,h2]
  simp[tW,be8,List.range_succ]
 rw[h2]at N2;clear hN h1 h2;have hO:OwnB (w.alloc (.cells #[.int .u8 251] 5)) w.heap.size (.slice (some ⟨w.heap.size,0,none⟩) 1 1) [u8 251]:=OwnB.lit w _ _ _ 1 rfl rfl (Nat.le_refl _) (by simp);have zC:=zm w (.cells #[.int .u8 251] 5);go_enter Tryz.func77,Tryz.ntmps77
 go_wp2_with fail
 refine I.out.mono ?_
 rintro e w' ⟨rfl,rfl⟩
 go_wp2_with fail
 refine N1.out.mono ?_
 rintro e w' ⟨⟨v',rfl,_⟩,rfl⟩
 go_wp2_with fail
 refine N2.out.mono ?_
 rintro e w' ⟨⟨v'',rfl,_⟩,rfl⟩
 go_wp2_with fail
 go_loopw [7,8] (fun v7 v8 wr=>∃ (j:Nat) (VA:Option Addr) (vc:Nat),j≤8∧v8=.int .i64 (7-(j:Int))∧v7=.slice VA (1+j) vc∧OwnB wr w.heap.size (.slice VA (1+j) vc) (u8 251::tW n 8 j)∧Below w.heap.size w wr) (fun _ v8 _=>(intOf v8+1).toNat)
 case atStart=>exact⟨0,_,_,by omega,by go_num,rfl,hO,zC⟩
 case round =>
 obtain⟨j,VA,vc,hj,rfl,rfl,vY,ws⟩:=hrel
 by_cases zB:j<8
 ·have gv:(0:Int)≤7-(j:Int):=by omega
  have yF:(#[.int .u8 ((n:Int)/2 ^ (8*(7-j))%256)]:Array Value).toList=[mo n 8 j].map zT:=by
   simp only[List.map_cons,List.map_nil,mo,x8]
   rw[show 8-1-j=7-j by omega]
   simp
  have xy:=ws.alloc ws.size (.cells #[.int .u8 ((n:Int)/2 ^ (8*(7-j))%256)] 5);have je:=vY.alloc (.cells #[.int .u8 ((n:Int)/2 ^ (8*(7-j))%256)] 5);have HC:=Hh yF;clear yF;go_wp2_with (at_builtin;refine yq ?_)
  refine zW rfl (.tmp 47) (.tmp 54) rfl w.heap.size _ _ rfl je _ 1 _ [mo n 8 j] rfl rfl (Src.new _ _ _ _ rfl _ HC.out) (by simp[nT];omega) xy.size fun v' w7 vr yQ hat7=>?_
  have Rd:(u8 251::tW n 8 j)++[mo n 8 j]=u8 251::tW n 8 (j+1):=by rw[fm];rfl
  obtain⟨VA',vc',rfl,_⟩:=vr.form;have lU:((u8 251::tW n 8 j)++[mo n 8 j]).length=1+(j+1):=by simp[nT];omega
  rw[lU]at vr;rw[lU];rw[Rd]at vr;have uq:=jg4;clear Rd lU yQ hat7 je vY xy ws;go_wp2_with fail
  go_roundw
  case rel=>exact⟨j+1,VA',vc',by omega,by rw[show((j+1:Nat):Int)=(j:Int)+1 by omega,show(7:Int)-((j:Int)+1)=7-j-1 by omega],rfl,vr,uq⟩
  case measure=>simp[intOf];omega
 have IQ:j=8:=by omega
 subst IQ;go_wp2_with fail
 go_ret
 rw[E.out]
 exact⟨_,rfl,vY,ws⟩
def ym:Nat:=9221120237041090560
def yx (x:Itm):Bool:=x.kind==0||x.kind==1||x.kind==2||x.kind==3||x.kind==7||x.kind==8
def zH (x:Itm):Bool :=
 if x.kind=0∨x.kind=1 then x.bytes.isEmpty&&x.items.isEmpty
 else if x.kind=2 then x.n==0&&x.items.isEmpty
 else if x.kind=3 then x.n==0&&x.items.isEmpty&&Lib.validD x.bytes
 else if x.kind=7 then x.bytes.isEmpty&&x.items.isEmpty&&(decide (x.n<24)||decide (32≤x.n)&&decide (x.n<256))
 else if x.kind=8 then x.bytes.isEmpty&&x.items.isEmpty&&(!isNaN x.n||x.n==ym)
 else false
def zI (x:Itm):Nat :=
 if x.kind=8 then(zO x.n).length else if x.kind=7 then(if 24≤x.n then 2 else 1) else(zF x.kind.toNat (numP x)).length+x.bytes.length
def xE:List Itm→Bool
 | a::b::c::l=>decide (Lib.compareBytes (zf a) (zf c)<0)&&xE (c::l)
 | _=>true
theorem jh (l:List Itm) (j:Nat) (h2:2≤j) (h:j<l.length) :
  xE (l.drop (j-2))=(decide (Lib.compareBytes (zf (l[j-2]'(by omega))) (zf l[j])<0)&&xE (l.drop j)):=by
 have e1:l.drop (j-2)=l[j-2]'(by omega)::l.drop (j-1):=by
  rw[List.drop_eq_getElem_cons (by omega)];rw[show j-2+1=j-1 by omega]
 have e2:l.drop (j-1)=l[j-1]'(by omega)::l.drop j:=by
  rw[List.drop_eq_getElem_cons (by omega)];rw[show j-1+1=j by omega]
 have e3:l.drop j=l[j]::l.drop (j+1):=List.drop_eq_getElem_cons h;rw[e1,e2,e3,xE]
theorem aC (l:List Itm) (j:Nat) (h2:2≤j) (h:l.length≤j):xE (l.drop (j-2))=true:=by
 have hl:(l.drop (j-2)).length≤2:=by rw[List.length_drop];omega
 match l.drop (j-2),hl with
 | [],_=>rfl
 | [_],_=>rfl
 | [_,_],_=>rfl
 | _::_::_::_,h=>simp at h
def vl (x:Itm) (lv:Nat):Bool :=
 decide (4≤x.kind∧x.kind≤6∧lv<8∧x.bytes.length=0∧(x.kind=6→x.items.length=1)∧(x.kind≠6→x.n=0)∧(x.kind=5→x.items.length%2=0))
mutual
def chk:Itm→Nat→Nat→Nat→Option (Nat×Nat)
 | .mk k n bs l,lv,i,s =>
 if 256<i+1∨4096<bs.length∨256<l.length then none
 else if yx (.mk k n bs l)=true then(if zH (.mk k n bs l)=true∧s+zI (.mk k n bs l)≤4096 then some (i+1,s+zI (.mk k n bs l)) else none)
 else if vl (.mk k n bs l) lv=false then none
 else if 4096<s+zI (.mk k n bs l) then none
 else match qy l (lv+1) (i+1) (s+zI (.mk k n bs l)) with
  | none=>none
  | some p=>if k=5∧xE l=false then none else some p
def qy:List Itm→Nat→Nat→Nat→Option (Nat×Nat)
 | [],_,i,s=>some (i,s)
 | x::l,lv,i,s=>match chk x lv i s with
  | none=>none
  | some p=>qy l lv p.1 p.2
end
theorem jy (x:Itm) (lv i s:Nat):chk x lv i s =
  if 256<i+1∨4096<x.bytes.length∨256<x.items.length then none
  else if yx x=true then(if zH x=true∧s+zI x≤4096 then some (i+1,s+zI x) else none)
  else if vl x lv=false then none
  else if 4096<s+zI x then none
  else match qy x.items (lv+1) (i+1) (s+zI x) with
   | none=>none
   | some p=>if x.kind=5∧xE x.items=false then none else some p:=by
 cases x
 rw[chk];rfl
theorem zP (x:Itm):yx x=true↔x.kind=0∨x.kind=1∨x.kind=2∨x.kind=3∨x.kind=7∨x.kind=8:=by
 simp[yx]
 omega
theorem dt (x:Itm) (h:x.items=[]) (h8:x.kind=8∨x.kind=7→x.bytes=[]):zI x=(zf x).length:=by
 rw[xu,zI]
 by_cases h1:x.kind=8
 ·rw[if_pos h1,if_pos h1]
 rw[if_neg h1,if_neg h1]
 by_cases h2:x.kind=7
 ·rw[if_pos h2]
  by_cases h3:24≤x.n
  ·rw[if_pos h3,if_pos ⟨h2,h3⟩];rfl
  have hn:numP x=x.n:=by simp[numP,h2]
  rw[if_neg h3,if_neg (by omega),h8 (.inr h2),h,zG,hn,zF,if_pos (by omega)];rfl
 rw[if_neg h2,if_neg (by omega),h,zG]
 simp
theorem jx (x:Itm) (h8:x.kind≠8) (h7:x.kind≠7):zI x=(zF x.kind.toNat (numP x)).length+x.bytes.length:=by
 rw[zI,if_neg h8,if_neg h7]
theorem xH {x:Itm}{lv:Nat}(h:vl x lv=true):4≤x.kind∧x.kind≤6∧lv<8∧x.bytes.length=0∧(x.kind=6→x.items.length=1)∧(x.kind≠6→x.n=0)∧(x.kind=5→x.items.length%2=0) :=
 of_decide_eq_true h
theorem yK {x:Itm}(hp:yx x=true) (ho:zH x=true):x.items=[]∧(x.kind=8∨x.kind=7→x.bytes=[]):=by
 rw[zP]at hp
 unfold zH at ho
 rcases hp with h | h | h | h | h | h <;> simp[h]at ho⊢ <;> simp[ho]
mutual
theorem fw:∀ (x:Itm) (lv i s:Nat) (p:Nat×Nat),chk x lv i s=some p→Kinds x∧p=(i+cnt x,s+(zf x).length)∧p.1≤256∧p.2≤4096
 | .mk k n bs l,lv,i,s,p,h=>by
  rw[chk]at h
  split at h
  ·cases h
  rename_i h0
  split at h
  ·rename_i hp
   split at h
   ·rename_i ho
    obtain⟨hi,hb⟩:=yK hp ho.1;have hk:=(zP _).1 hp;have hs:=dt (.mk k n bs l) hi hb
    simp only[Itm.items,Itm.kind]at hi hk
    subst hi;injection h with h
    subst h;rw[← hs]
    refine⟨?_, ?_, ?_, ?_⟩
    ·rw[Kinds,KindsL];exact⟨by omega,trivial⟩
    ·rw[cnt,xM]
    ·simp only;omega
    exact ho.2
   cases h
  rename_i hp
  split at h
  ·cases h
  rename_i hf
  split at h
  ·cases h
  rename_i h4
  have I9:=xH (by simpa using hf)
  simp only[Itm.kind,Itm.bytes,Itm.items,List.length_eq_zero_iff]at I9
  split at h
  ·cases h
  rename_i q hq
  split at h
  ·cases h
  injection h with h
  subst h;obtain⟨hk,XH,h1,h2⟩:=jj l _ _ _ _ hq (by omega) (by omega);have i8:=jx (.mk k n bs l) (by simp only[Itm.kind];omega) (by simp only[Itm.kind];omega)
  simp only[Itm.kind,Itm.bytes]at i8
  rw[I9.2.2.2.1]at i8
  refine⟨by rw[Kinds];exact⟨by omega,hk⟩, ?_,h1,h2⟩
  rw[XH,cnt,zf,if_neg (by omega),if_neg (by omega),I9.2.2.2.1,i8]
  simp only[List.length_append,List.length_nil,Prod.mk.injEq]
  omega
theorem jj:∀ (l:List Itm) (lv i s:Nat) (p:Nat×Nat),qy l lv i s=some p→i≤256→s≤4096→KindsL l∧p=(i+xM l,s+(zG l).length)∧p.1≤256∧p.2≤4096
 | [],lv,i,s,p,h,hi,hs=>by
  rw[qy]at h;injection h with h
  subst h;rw[KindsL,xM,zG]
  exact⟨trivial,rfl,hi,hs⟩
 | x::l,lv,i,s,p,h,hi,hs=>by
  rw[qy]at h
  split at h
  ·cases h
  rename_i q hq
  obtain⟨hk,XH,h1,h2⟩:=fw x _ _ _ _ hq;obtain⟨tF,hp,h3,h4⟩:=jj l _ _ _ _ h h1 h2
  refine⟨by rw[KindsL];exact⟨hk,tF⟩, ?_,h3,h4⟩
  rw[hp,XH,xM,zG]
  simp
  omega
end
def zR (x:Itm):Bool:=(chk x 0 0 0).isSome
theorem sv {x:Itm}(h:zR x=true):Kinds x∧cnt x≤256∧(zf x).length≤4096:=by
 obtain⟨p,hp⟩:=Option.isSome_iff_exists.1 h;obtain⟨hk,he,h1,h2⟩:=fw _ _ _ _ _ hp;subst he
 simp only at h1 h2
 exact⟨hk,by omega,by omega⟩
mutual
def Modest:Itm→Prop
 | .mk _ _ bs l=>bs.length≤1099511627776∧l.length≤1099511627776∧ModestL l
def ModestL:List Itm→Prop
 | []=>True
 | x::l=>Modest x∧ModestL l
end
theorem Modest.parts {x:Itm}(h:Modest x):x.bytes.length≤1099511627776∧x.items.length≤1099511627776∧ModestL x.items:=by cases x;rw[Modest]at h;exact h
theorem ModestL.get:∀ {l:List Itm},ModestL l→∀ (k:Nat) (hk:k<l.length),Modest l[k]
 | [],_,k,hk=>by simp at hk
 | x::l,h,0,hk=>by rw[ModestL]at h;exact h.1
 | x::l,h,k+1,hk=>by rw[ModestL]at h;exact h.2.get k (by simpa using hk)
def qL (key:List UInt8):List Itm→Option Itm
 | a::b::r=>if zf a=key then some b else qL key r
 | _=>none
def vt (m key:Itm):Option Itm:=if m.kind=5∧zR m=true∧zR key=true then qL (zf key) m.items else none
abbrev zQ:Itm:=.mk 0 0 [] []
theorem qE {x:Itm}(h:zR x=true) (h5:x.kind=5):x.items.length%2=0:=by
 obtain⟨p,hp⟩:=Option.isSome_iff_exists.1 h;rw[jy]at hp
 split at hp
 ·cases hp
 split at hp
 ·rename_i h1
  rw[zP]at h1
  omega
 split at hp
 ·cases hp
 rename_i h1
 exact(xH (by simpa using h1)).2.2.2.2.2.2 h5
theorem yD {x:Itm}(h:zR x=true):x.bytes.length≤4096∧x.items.length≤256∧KindsL x.items∧(zG x.items).length≤4096:=by
 obtain⟨hk,hc,he⟩:=sv h;obtain⟨p,hp⟩:=Option.isSome_iff_exists.1 h;rw[jy]at hp
 split at hp
 ·cases hp
 rename_i h0
 refine⟨by omega,by omega,hk.items, ?_⟩
 split at hp
 ·rename_i h1
  split at hp
  ·rename_i h2
   rw[(yK h1 h2.1).1]
   simp[zG]
  cases hp
 split at hp
 ·cases hp
 rename_i h1
 have:=xH (by simpa using h1);rw[xu,if_neg (by omega),if_neg (by omega)]at he
 simp only[List.length_append]at he
 omega
theorem SQ (l:List Itm) (k:Nat) (hk:k<l.length):(zf l[k]).length≤(zG l).length:=by
 have a1:=uG l k hk;have a2:=oe l (k+1);rw[a1]at a2
 simp only[List.length_append]at a2
 omega
mutual
theorem fQ:∀ (x:Itm) (lv i s:Nat) (p:Nat×Nat),chk x lv i s=some p→Modest x
 | .mk k n bs l,lv,i,s,p,h=>by
  rw[chk]at h
  split at h
  ·cases h
  rename_i h0
  rw[Modest]
  refine⟨by omega,by omega, ?_⟩
  split at h
  ·rename_i h1
   split at h
   ·rename_i h2
    rw[show l=[] from(yK h1 h2.1).1,ModestL];trivial
   cases h
  split at h
  ·cases h
  split at h
  ·cases h
  split at h
  ·cases h
  rename_i q hq
  exact j7 l _ _ _ _ hq
theorem j7:∀ (l:List Itm) (lv i s:Nat) (p:Nat×Nat),qy l lv i s=some p→ModestL l
 | [],_,_,_,_,_=>by rw[ModestL];trivial
 | x::l,lv,i,s,p,h=>by
  rw[qy]at h
  split at h
  ·cases h
  rename_i q hq
  rw[ModestL]
  exact⟨fQ x _ _ _ _ hq,j7 l _ _ _ _ h⟩
end
theorem wi {x:Itm}(h:zR x=true):Modest x:=by
 obtain⟨p,hp⟩:=Option.isSome_iff_exists.1 h
 exact fQ _ _ _ _ _ hp
theorem Xc (key:List UInt8) (l:List Itm) (k:Nat) (hk:k+1<l.length):qL key (l.drop k)=if zf l[k]=key then some l[k+1] else qL key (l.drop (k+2)):=by
 rw[List.drop_eq_getElem_cons (show k<l.length by omega),List.drop_eq_getElem_cons hk,qL]
def zr (n:Int):Itm:=if n<0 then .mk 1 (-1-n).toNat [] [] else .mk 0 n.toNat [] []
def Wo (x:Itm):Bool:=(x.kind==0||x.kind==1)&&decide (x.n≤65535)
def PZ (a b:Itm):Bool :=
 if a.kind=3 then true else if Wo a=false then false else if a.kind=1 then true
 else if a.n=1 then Wo b&&(b.kind==1||b.n != 0) else if a.n=4∨a.n=5∨a.n=6∨a.n=12 then b.kind==2 else true
structure Ad where
 ba:Option Addr
 bc:Nat
 ia:Option Addr
 ic:Nat
def Tn:List Itm→Bool
 | a::b::r=>PZ a b&&Tn r
 | _=>true
def Tabs (H:Snap):Prop:=∀ w,Holds w H→Lib.Utf8Tabs 0 1 w
theorem Tabs.mono {H K:Snap}(h:Tabs H) (hl:H.le K):Tabs K:=fun w hw=>h w (hw.mono hl)
def y9 (x:Itm) (lv:Nat):Bool:=if yx x=true then zH x else vl x lv
mutual
def Good:Itm→Nat→Prop
 | .mk k n bs l,lv=>y9 (.mk k n bs l) lv=true∧GoodL l (lv+1)∧(k=5→xE l=true)
def GoodL:List Itm→Nat→Prop
 | [],_=>True
 | x::l,lv=>Good x lv∧GoodL l lv
end
theorem Good.node {x:Itm}{lv:Nat}(h:Good x lv):y9 x lv=true:=by cases x;rw[Good]at h;exact h.1
theorem Good.items {x:Itm}{lv:Nat}(h:Good x lv):GoodL x.items (lv+1):=by cases x;rw[Good]at h;exact h.2.1
theorem Good.asc {x:Itm}{lv:Nat}(h:Good x lv) (h5:x.kind=5):xE x.items=true:=by cases x;rw[Good]at h;exact h.2.2 h5
theorem Good.of {x:Itm}{lv:Nat}(h1:y9 x lv=true) (h2:GoodL x.items (lv+1)) (h3:x.kind=5→xE x.items=true):Good x lv:=by cases x;rw[Good];exact⟨h1,h2,h3⟩
theorem GoodL.get:∀ {l:List Itm}{lv:Nat},GoodL l lv→∀ x∈l,Good x lv
 | [],_,_,x,hx=>by cases hx
 | y::l,lv,h,x,hx=>by
  rw[GoodL]at h
  exact jcw
theorem GoodL.of:∀ {l:List Itm}{lv:Nat},(∀ x∈l,Good x lv)→GoodL l lv
 | [],_,_=>by rw[GoodL];trivial
 | y::l,lv,h=>by
  rw[GoodL]
  exact⟨h y (by simp),GoodL.of fun x hx=>h x (by simp[hx])⟩
theorem xV {x:Itm}{lv:Nat}(h:y9 x lv=true):(yx x=true∧zH x=true)∨(yx x=false∧vl x lv=true):=by
 unfold y9 at h
 cases hp:yx x with
 | true=>rw[if_pos hp]at h;exact .inl ⟨rfl,h⟩
 | false=>rw[if_neg (by simp[hp])]at h;exact .inr ⟨rfl,h⟩
theorem qB {x:Itm}{lv:Nat}(h:y9 x lv=true):0≤x.kind∧x.kind≤8:=by
 rcases xV h with ⟨h1,_⟩ | ⟨_,h1⟩
 ·rw[zP]at h1;omega
 have:=xH h1;omega
theorem Xf {x:Itm}{lv lv':Nat}(h:vl x lv=true) (hl:lv'≤lv):vl x lv'=true:=by
 obtain⟨h1,h2,h3,h4⟩:=xH h
 exact decide_eq_true ⟨h1,h2,by omega,h4⟩
theorem Va {x:Itm}{lv lv':Nat}(h:y9 x lv=true) (hl:lv'≤lv):y9 x lv'=true:=by
 rcases xV h with ⟨h1,h2⟩ | ⟨h1,h2⟩
 ·rw[y9,if_pos h1];exact h2
 rw[y9,if_neg (by simp[h1])];exact Xf h2 hl
mutual
theorem Good.le:∀ {x:Itm}{lv lv':Nat},Good x lv→lv'≤lv→Good x lv'
 | .mk k n bs l,lv,lv',h,hl=>by
  rw[Good]at h⊢
  exact⟨Va h.1 hl,GoodL.le h.2.1 (by omega),h.2.2⟩
theorem GoodL.le:∀ {l:List Itm}{lv lv':Nat},GoodL l lv→lv'≤lv→GoodL l lv'
 | [],_,_,_,_=>by rw[GoodL];trivial
 | x::l,lv,lv',h,hl=>by
  rw[GoodL]at h⊢
  exact⟨Good.le h.1 hl,GoodL.le h.2 hl⟩
end
theorem mC {x:Itm}{lv:Nat}(h:y9 x lv=true) (hp:yx x=true):x.items=[]∧(x.kind=8∨x.kind=7→x.bytes=[]):=by
 rcases xV h with ⟨_,h2⟩ | ⟨h1,_⟩
 ·exact yK hp h2
 rw[hp]at h1;cases h1
theorem ku {x:Itm}{lv:Nat}(h:y9 x lv=true):(zf x).length=zI x+(zG x.items).length:=by
 cases hp:yx x with
 | true =>
  obtain⟨h1,h2⟩:=mC h hp;rw[← dt x h1 h2,h1,zG];simp
 | false =>
 rcases xV h with ⟨h1,_⟩ | ⟨_,h2⟩
 ·rw[hp]at h1;cases h1
 have hf:=xH h2;rw[xu,if_neg (by omega),if_neg (by omega),jx x (by omega) (by omega)]
 simp;omega
theorem jM {x:Itm}{lv:Nat}(h:y9 x lv=true):x.bytes.length≤zI x:=by
 by_cases h8:x.kind=8
 ·exact jdV
 by_cases h7:x.kind=7
 ·exact jdV
 rw[jx x h8 h7];omega
theorem kk:∀ l:List Itm,l.length≤xM l
 | []=>by simp[xM]
 | x::l=>by
  have:=kk l;have h:0<cnt x:=by cases x;rw[cnt];omega
  rw[xM];simp;omega
theorem oA (x:Itm):cnt x=xM x.items+1:=by cases x;rw[cnt];rfl
mutual
theorem aH:∀ (x:Itm) (lv i s:Nat) (p:Nat×Nat),chk x lv i s=some p→Good x lv
 | .mk k n bs l,lv,i,s,p,h=>by
  rw[chk]at h
  split at h
  ·cases h
  split at h
  ·rename_i hp
   split at h
   ·rename_i ho
    have hi:=(yK hp ho.1).1;have hk:=(zP _).1 hp
    simp only[Itm.items,Itm.kind]at hi hk
    subst hi;rw[Good,GoodL]
    exact⟨by rw[y9,if_pos hp];exact ho.1,trivial,fun h=>by omega⟩
   cases h
  rename_i hp
  split at h
  ·cases h
  rename_i hf
  split at h
  ·cases h
  split at h
  ·cases h
  rename_i q hq
  split at h
  ·cases h
  rename_i ha
  rw[Good]
  refine⟨by rw[y9,if_neg hp];simpa using hf,dR l _ _ _ _ hq,fun h5=>?_⟩
  exact jdO
theorem dR:∀ (l:List Itm) (lv i s:Nat) (p:Nat×Nat),qy l lv i s=some p→GoodL l lv
 | [],_,_,_,_,_=>by rw[GoodL];trivial
 | x::l,lv,i,s,p,h=>by
  rw[qy]at h
  split at h
  ·cases h
  rename_i q hq
  rw[GoodL]
  exact⟨aH x _ _ _ _ hq,dR l _ _ _ _ h⟩
end
mutual
theorem aP:∀ (x:Itm) (lv i s:Nat),Good x lv→i+cnt x≤256→s+(zf x).length≤4096→chk x lv i s=some (i+cnt x,s+(zf x).length)
 | .mk k n bs l,lv,i,s,h,hi,hs=>by
  have hn:=h.node;have Ud:=h.items;have has:=h.asc;have i8:=ku hn;have kI:=jM hn;have hc:=oA (.mk k n bs l);have hl:=kk l
  simp only[Itm.items,Itm.bytes,Itm.kind]at *
  rw[chk,if_neg (by omega)]
  rcases xV hn with ⟨h1,h2⟩ | ⟨h1,h2⟩
  ·have h0:=(yK h1 h2).1
   simp only[Itm.items]at h0
   subst h0;rw[zG]at i8;rw[xM]at hc
   simp only[List.length_nil]at i8
   rw[if_pos h1,if_pos ⟨h2,by omega⟩,hc,i8];congr 2
  rw[if_neg (by simp[h1]),if_neg (by simp[h2]),if_neg (by omega),dY l (lv+1) (i+1) _ Ud (by omega) (by omega)]
  simp only
  rw[if_neg (by rintro⟨h5,ha⟩;rw[has h5]at ha;cases ha)];congr 2 <;> omega
theorem dY:∀ (l:List Itm) (lv i s:Nat),GoodL l lv→i+xM l≤256→s+(zG l).length≤4096→qy l lv i s=some (i+xM l,s+(zG l).length)
 | [],lv,i,s,_,_,_=>by rw[qy,xM,zG];rfl
 | x::l,lv,i,s,h,hi,hs=>by
  rw[GoodL]at h;rw[xM]at hi⊢;rw[zG]at hs⊢
  simp only[List.length_append]at hs⊢
  rw[qy,aP x lv i s h.1 (by omega) (by omega)]
  simp only
  rw[dY l lv _ _ h.2 (by omega) (by omega)];congr 2 <;> omega
end
theorem wj (x:Itm):zR x=true↔Good x 0∧cnt x≤256∧(zf x).length≤4096:=by
 constructor
 ·intro h
  obtain⟨p,hp⟩:=Option.isSome_iff_exists.1 h;have:=sv h
  exact⟨aH _ _ _ _ _ hp,this.2.1,this.2.2⟩
 rintro⟨h1,h2,h3⟩
 rw[zR,aP x 0 0 0 h1 (by omega) (by omega)];rfl
mutual
def Small:Itm→Prop
 | .mk _ _ bs l=>bs.length≤4096∧SmallL l
def SmallL:List Itm→Prop
 | []=>True
 | x::l=>Small x∧SmallL l
end
def yX (x:Itm) (d m:Nat):Bool:=y9 x d&&decide (x.bytes.length≤4096)&&decide (x.items.length≤m)
mutual
def yM:Itm→Nat→Nat→Option Nat
 | .mk k n bs l,c,d =>
 if c<1 then none
 else if yX (.mk k n bs l) d (c-1)=false then none
 else match x9 l (c-1) (d+1) with
  | none=>none
  | some r=>if k=5∧xE l=false then none else some r
def x9:List Itm→Nat→Nat→Option Nat
 | [],c,_=>some c
 | x::l,c,d=>match yM x c d with
  | none=>none
  | some r=>x9 l r d
end
theorem tT (x:Itm) (c d:Nat):yM x c d =
  if c<1 then none
  else if yX x d (c-1)=false then none
  else match x9 x.items (c-1) (d+1) with
   | none=>none
   | some r=>if x.kind=5∧xE x.items=false then none else some r:=by
 cases x
 rw[yM];rfl
theorem fc {x:Itm}{d m:Nat}(h:yX x d m=true):y9 x d=true∧x.bytes.length≤4096∧x.items.length≤m:=by
 simpa [yX,and_assoc] using h
mutual
theorem rI:∀ (x:Itm) (c d r:Nat),yM x c d=some r→Good x d∧Small x∧r+cnt x=c
 | .mk k n bs l,c,d,r,h=>by
  rw[yM]at h
  split at h
  ·cases h
  split at h
  ·cases h
  rename_i hn
  obtain⟨h1,h2,h3⟩:=fc (by simpa using hn)
  split at h
  ·cases h
  rename_i q hq
  split at h
  ·cases h
  rename_i ha
  injection h with h
  subst h;obtain⟨g1,g2,g3⟩:=mA l _ _ _ hq;rw[Good,Small,cnt]
  refine⟨⟨h1,g1,fun h5=>?_⟩,⟨h2,g2⟩,by omega⟩
  exact jdO
theorem mA:∀ (l:List Itm) (c d r:Nat),x9 l c d=some r→GoodL l d∧SmallL l∧r+xM l=c
 | [],c,d,r,h=>by
  rw[x9]at h;injection h with h
  subst h;rw[GoodL,SmallL,xM]
  exact⟨trivial,trivial,rfl⟩
 | x::l,c,d,r,h=>by
  rw[x9]at h
  split at h
  ·cases h
  rename_i q hq
  obtain⟨h1,h2,h3⟩:=rI x _ _ _ hq;obtain⟨g1,g2,g3⟩:=mA l _ _ _ h;rw[GoodL,SmallL,xM]
  exact⟨⟨h1,g1⟩,⟨h2,g2⟩,by omega⟩
end
mutual
theorem db:∀ (x:Itm) (c d:Nat),Good x d→Small x→cnt x≤c→yM x c d=some (c-cnt x)
 | .mk k n bs l,c,d,h,hs,hc=>by
  have hn:=h.node;have Ud:=h.items;have has:=h.asc;have NC:=oA (.mk k n bs l);have hl:=kk l;rw[Small]at hs
  simp only[Itm.items,Itm.bytes,Itm.kind]at *
  have hr:yX (.mk k n bs l) d (c-1)=true:=by
   have e2:l.length≤c-1:=by omega
   simp[yX,hn,Itm.bytes,Itm.items,hs.1,e2]
  rw[yM,if_neg (by omega),if_neg (by simp[hr]),fU l (c-1) (d+1) Ud hs.2 (by omega)]
  simp only
  rw[if_neg (by rintro⟨h5,ha⟩;rw[has h5]at ha;cases ha)];congr 1;omega
theorem fU:∀ (l:List Itm) (c d:Nat),GoodL l d→SmallL l→xM l≤c→x9 l c d=some (c-xM l)
 | [],c,d,_,_,_=>by rw[x9,xM];rfl
 | x::l,c,d,h,hs,hc=>by
  rw[GoodL]at h;rw[SmallL]at hs;rw[xM]at hc⊢;rw[x9,db x c d h.1 hs.1 (by omega)]
  simp only
  rw[fU l _ d h.2 hs.2 (by omega)];congr 1;omega
end
mutual
theorem Good.small:∀ {x:Itm}{lv:Nat},Good x lv→(zf x).length≤4096→Small x
 | .mk k n bs l,lv,h,hl=>by
  have h1:=ku h.node;have h2:=jM h.node;have h3:=h.items
  simp only[Itm.items,Itm.bytes]at *
  rw[Small]
  exact⟨by omega,GoodL.small h3 (by omega)⟩
theorem GoodL.small:∀ {l:List Itm}{lv:Nat},GoodL l lv→(zG l).length≤4096→SmallL l
 | [],_,_,_=>by rw[SmallL];trivial
 | x::l,lv,h,hl=>by
  rw[GoodL]at h;rw[zG]at hl
  simp only[List.length_append]at hl
  rw[SmallL]
  exact⟨Good.small h.1 (by omega),GoodL.small h.2 (by omega)⟩
end
theorem T7 {x:Itm}{lv:Nat}(h:y9 x lv=true):zI x≤x.bytes.length+9:=by
 unfold zI
 split
 ·have:=mW x.n;omega
 split
 ·split <;> omega
 have:=(rd x.kind.toNat (numP x)).2;omega
mutual
theorem Good.bytes:∀ {x:Itm}{lv:Nat},Good x lv→Small x→(zf x).length≤cnt x*4105
 | .mk k n bs l,lv,h,hs=>by
  have h1:=ku h.node;have h2:=T7 h.node;have h3:=h.items;have h4:=oA (.mk k n bs l);rw[Small]at hs
  simp only[Itm.items,Itm.bytes]at *
  have:=GoodL.bytes h3 hs.2
  omega
theorem GoodL.bytes:∀ {l:List Itm}{lv:Nat},GoodL l lv→SmallL l→(zG l).length≤xM l*4105
 | [],_,_,_=>by rw[zG,xM];simp
 | x::l,lv,h,hs=>by
  rw[GoodL]at h;rw[SmallL]at hs;rw[zG,xM];have h1:=Good.bytes h.1 hs.1;have h2:=GoodL.bytes h.2 hs.2
  simp only[List.length_append]
  omega
end
def cU (x:Itm):Bool:=(yM x 256 0).isSome&&decide ((zf x).length≤4096)
theorem Vt (x:Itm):cU x=zR x:=by
 rw[Bool.eq_iff_iff,wj];constructor
 ·intro h
  simp only[cU,Bool.and_eq_true,decide_eq_true_eq]at h
  obtain⟨r,hr⟩:=Option.isSome_iff_exists.1 h.1;obtain⟨h1,h2,h3⟩:=rI _ _ _ _ hr
  exact⟨h1,by omega,h.2⟩
 rintro⟨h1,h2,h3⟩
 simp only[cU,Bool.and_eq_true,decide_eq_true_eq]
 rw[db x 256 0 h1 (h1.small h3) h2]
 exact⟨rfl,h3⟩
theorem OwnX.kl {α:Type}{L:Lie α}{t:TypeId}{w w':World}{base N:Nat}{v:Value}{H:Snap}{l:List α}(h:OwnX L t w base v H l) (hg:w.grownBy w' (some N)) (hl:∀ q,v.ownBlock=some q→q<N):OwnX L t w' base v H l:=h.kept hg (by cases hv:v.ownBlock with | none=>exact .inl rfl | some q=>exact .inr (fun e=>by injection e with e;exact Nat.lt_irrefl _ (e ▸ hl q hv)))
end Go.Proofs.YtgaoknihklmakabGreatDoor
