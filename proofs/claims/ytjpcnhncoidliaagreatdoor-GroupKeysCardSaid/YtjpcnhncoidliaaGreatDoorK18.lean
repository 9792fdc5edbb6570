/- squeezed. The bytes of a number, by the prog -/
import Derived.Test.YtjpcnhncoidliaaGreatDoorK17
set_option linter.unusedVariables false
set_option linter.unusedSimpArgs false
set_option maxRecDepth 100000
set_option maxHeartbeats 12800000
namespace Go.Proofs.YtjpcnhncoidliaaGreatDoor
open Go.RowKit
def lN (n:Nat):Nat→List UInt8
 | 0=>[ze n 0]
 | k+1=>ze n (8*(k+1))::lN n k
def kN (n:Nat):Nat:=if n<256 then 0 else if n<65536 then 1 else if n<16777216 then 2 else if n<4294967296 then 3 else 4
def xK (v:Int):List UInt8:=if 0≤v∧v≤1099511627775 then lN v.toNat (kN v.toNat) else []
theorem qS (n:Nat):∀ k,(lN n k).length=k+1
 | 0=>rfl
 | k+1=>by rw[lN,List.length_cons,qS n k]
theorem bX (n:Nat):kN n≤4:=by
 unfold kN
 repeat' split
 all_goals omega
theorem qO (v:Int):(xK v).length≤5:=by
 unfold xK
 split
 ·rw[qS];have:=bX v.toNat;omega
 simp
theorem L7 {n k:Nat}(XD:n<1099511627776) (h1:n/2 ^ (8*(k+1))=0) (h2:k=0∨0<n/2 ^ (8*k)):k=kN n:=by
 have hk:k≤4:=by
  rcases h2 with h | h
  ·omega
  apply Nat.le_of_not_lt
  intro h5
  have h6:2 ^ 40≤2 ^ (8*k):=Nat.pow_le_pow_right (by omega) (by omega);rw[Nat.div_eq_of_lt (by omega)]at h
  omega
 rcases(show k=0∨k=1∨k=2∨k=3∨k=4 by omega) with rfl | rfl | rfl | rfl | rfl <;> simp at h1 h2 <;> unfold kN <;> repeat' split
 all_goals omega
theorem W4 (n k:Nat):[ze n (8*(k+1))]++lN n k=lN n (k+1):=rfl
theorem TE (n k:Nat):n/2 ^ (8*(k+1))/256=n/2 ^ (8*(k+2)):=by
 rw[Nat.div_div_eq_div_mul,show(256:Nat)=2 ^ 8 from rfl,← Nat.pow_add];congr 2
theorem en (v:Int) (w:World) :
  Calls Tryz.prog 40 #[.int .i64 v] w fun e w'=>∃ r,e=.returned r∧Fresh w (xK v) r w':=by
 by_cases hv:0≤v∧v≤1099511627775
 ·have E:Hid (xK v=lN v.toNat (kN v.toNat)):=by rw[Hid,xK,if_pos hv]
  obtain⟨n,rfl⟩:=Int.eq_ofNat_of_zero_le hv.1;have XD:Hid (n<1099511627776):=by rw[Hid];omega
  have h1:¬ ((n:Int)<0):=by omega
  have h2:¬ ((1099511627775:Int)<(n:Int)):=by omega
  rw[Int.toNat_natCast]at E;have hO:=OwnB.lit w w.heap.size [ze n 0] #[.int .u8 ((n:Int)%256)] 1 rfl (by simp only[List.map_cons,List.map_nil];rw[z7 n 0 1 rfl,Int.ediv_one]) (Nat.le_refl _) (by simp);have hb:=zl w (.cells #[.int .u8 ((n:Int)%256)] 5);clear hv;go_enter Tryz.func40,Tryz.ntmps40
  go_wp2_with fail
  go_loopw [0,3] (fun v0 v3 wr=>∃ (k x m c:Nat) (VA:Option Addr),v0=.int .i64 (x:Int)∧v3=.slice VA m c∧Hid (x=n/2 ^ (8*(k+1))∧(k=0∨0<n/2 ^ (8*k))∧m=k+1)∧OwnB wr w.heap.size (.slice VA m c) (lN n k)∧Below w.heap.size w wr) (fun v0 _ _=>(intOf v0).toNat)
  case atStart=>exact⟨0,n/256,1,1,_,by rw[show((n/256:Nat):Int)=(n:Int)/256 by omega],rfl,⟨rfl,.inl rfl,rfl⟩,hO,hb⟩
  case round =>
  clear hO hb;obtain⟨k,x,m,c,VA,rfl,rfl,HK,hO,hb⟩:=hrel
  by_cases yy:(0:Int)<(x:Int)
  ·have ik:Hid (k<5):=by
    rw[Hid];apply Nat.lt_of_not_le
    intro h5
    have h6:2 ^ 40≤2 ^ (8*(k+1)):=Nat.pow_le_pow_right (by omega) (by omega);have h7:=HK.out.1;rw[Nat.div_eq_of_lt (by have:=XD.out;omega)]at h7
    omega
   have Jh:Hid (zg (ze n (8*(k+1)))=.int .u8 ((x:Int)%256)):=by
    rw[Hid,z7 n (8*(k+1)) ((2 ^ (8*(k+1)):Nat):Int) rfl,HK.out.1,Int.natCast_ediv]
   have hL:=OwnB.lit wr w.heap.size [ze n (8*(k+1))] #[.int .u8 ((x:Int)%256)] 1 rfl (by simp only[List.map_cons,List.map_nil];rw[Jh.out]) hb.size (by simp);have hs:=hO.src.alloc (.cells #[.int .u8 ((x:Int)%256)] 5);have zP:=hb.alloc hb.size (.cells #[.int .u8 ((x:Int)%256)] 5);clear hO hb;go_wp2_with (at_builtin;refine zf ?_)
   refine zv rfl (.tmp 21) (.tmp 22) rfl w.heap.size _ _ rfl hL VA m c (lN n k) rfl (by rw[qS];exact HK.out.2.2) hs (by rw[qS];have:=ik.out;simp;omega) zP.size fun v' w5 zB yg hat5=>?_
   rw[W4]at zB;have xz:=zm zP yg (fun q hq=>(hL.lt q hq).1);obtain⟨A5,c5,rfl,_⟩:=zB.form;rw[qS]at zB⊢;clear hL hs zP yg hat5;go_wp2_with fail
   go_roundw
   case rel=>exact⟨k+1,x/256,k+2,c5,A5,by rw[show((x/256:Nat):Int)=(x:Int)/256 by omega],rfl,⟨by rw[HK.out.1,TE],.inr (by rw[← HK.out.1];omega),rfl⟩,zB,xz⟩
   case measure=>simp[intOf];omega
  have cG:k=kN n:=L7 XD.out (by have:=HK.out.1;omega) HK.out.2.1;rw[cG,← E.out]at hO;clear cG;go_wp2_with fail
  go_ret
  exact⟨_,rfl,hO,hb⟩
 have E:Hid (xK v=[]):=by rw[Hid,xK,if_neg hv]
 by_cases h0:v<0
 ·clear hv;go_enter Tryz.func40,Tryz.ntmps40
  go_wp2_with fail
  go_ret
  exact⟨_,rfl,by rw[E.out];exact⟨OwnB.nil _ _,Below.refl _ _⟩⟩
 have h1:(1099511627775:Int)<v:=by omega
 clear hv;go_enter Tryz.func40,Tryz.ntmps40
 go_wp2_with fail
 go_ret
 exact⟨_,rfl,by rw[E.out];exact⟨OwnB.nil _ _,Below.refl _ _⟩⟩
def vt (n i:Nat):List UInt8:=(lN n (kN n)).take (i+kN n-4)
theorem bR (n i:Nat) (h:i≤5):(vt n i).length=i+kN n-4:=by
 rw[vt,List.length_take,qS]
 omega
theorem av (n:Nat):∀ (k p:Nat) (h:p≤k),(lN n k)[p]? = some (ze n (8*(k-p)))
 | 0,p,h=>by
  obtain rfl:p=0:=by omega
  rfl
 | k+1,0,h=>rfl
 | k+1,p+1,h=>by
  rw[lN,List.getElem?_cons_succ,av n k p (by omega)];congr 3
  omega
theorem Ws (n i:Nat) (h:i+kN n<4):vt n i=[]∧vt n (i+1)=[]:=by
 constructor
 ·rw[vt,show i+kN n-4=0 by omega,List.take_zero]
 rw[vt,show i+1+kN n-4=0 by omega,List.take_zero]
theorem RP (n i:Nat) (h:4≤i+kN n) (hi:i<5):vt n i++[ze n (8*(4-i))]=vt n (i+1):=by
 have h1:=av n (kN n) (i+kN n-4) (by omega);rw[show kN n-(i+kN n-4)=4-i by have:=bX n;omega]at h1;rw[vt,vt,show i+1+kN n-4=i+kN n-4+1 by omega,List.take_add_one,h1];rfl
theorem OX (n:Nat):vt n 5=lN n (kN n):=by
 rw[vt,List.take_of_length_le (by rw[qS];omega)]
theorem Qv {n i:Nat}(XD:n<1099511627776) (h:i+kN n<4):n/2 ^ (8*(4-i))=0:=by
 apply Nat.div_eq_of_lt
 unfold kN at h
 rcases(show i=0∨i=1∨i=2∨i=3 by omega) with rfl | rfl | rfl | rfl <;> simp <;> (repeat' split at h) <;> omega
theorem TJ {n i:Nat}(XD:n<1099511627776) (h:i+kN n=4) (h4:i<4):¬ n/2 ^ (8*(4-i))%256=0:=by
 unfold kN at h
 rcases(show i=0∨i=1∨i=2∨i=3 by omega) with rfl | rfl | rfl | rfl <;> simp <;> (repeat' split at h) <;> omega
theorem aI (v:Int) (w:World) :
  Calls Tryz.prog 46 #[.int .i64 v] w fun e w'=>∃ r,e=.returned r∧Fresh w (xK v) r w':=by
 by_cases hv:0≤v∧v≤1099511627775
 ·have E:Hid (xK v=lN v.toNat (kN v.toNat)):=by rw[Hid,xK,if_pos hv]
  obtain⟨n,rfl⟩:=Int.eq_ofNat_of_zero_le hv.1;have XD:Hid (n<1099511627776):=by rw[Hid];omega
  have h1:¬ ((n:Int)<0):=by omega
  have h2:¬ ((1099511627775:Int)<(n:Int)):=by omega
  rw[Int.toNat_natCast]at E;clear hv;go_enter Tryz.func46,Tryz.ntmps46
  go_wp2_with fail
  go_loopw [3,4] (fun v3 v4 wr=>∃ (i m c:Nat) (VA:Option Addr),v3=.slice VA m c∧v4=.int .i64 (32-8*(i:Int))∧i≤5∧Hid (m=i+kN n-4)∧OwnB wr w.heap.size (.slice VA m c) (vt n i)∧Below w.heap.size w wr) (fun _ v4 _=>(intOf v4+8).toNat)
  case atStart=>exact⟨0,0,0,none,rfl,rfl,by omega,by rw[Hid];have:=bX n;omega,by rw[vt,show 0+kN n-4=0 by have:=bX n;omega,List.take_zero];exact OwnB.nil _ _,Below.refl _ _⟩
  case round =>
  obtain⟨i,m,c,VA,rfl,rfl,hi,HM,hO,hb⟩:=hrel;have HT:=Hh (fun h1 h2=>RP n i h1 h2);have Ut:=Hh (bR n i hi);have Uu:=Hh (fun h=>bR n (i+1) h);have Jx:=Hh (fun h=>Ws n i h);have Jp:=Hh (fun h=>Qv (i:=i) XD.out h);have Rx:=Hh (fun h h4=>TJ (i:=i) XD.out h h4);have mX:=Hh (bX n)
  rcases(show i=0∨i=1∨i=2∨i=3∨i=4∨i=5 by omega) with rfl | rfl | rfl | rfl | rfl | rfl
  ·have hq:(n:Int)/4294967296%256=(n:Int)/4294967296:=by have:=XD.out;omega
   have Na:=Hh hq;clear hq
   by_cases hc:0+kN n<4
   ·have oP:m=0:=by have:=HM.out;omega
    have hz:(n:Int)/4294967296=0:=by have:=Jp.out hc;simp at this;omega
    have Uv:=Hh (Jx.out hc);subst oP;go_wp2_with fail
    go_roundw
    case rel=>exact⟨0+1,0,c,VA,rfl,by go_num,by omega,by rw[Hid];omega,by rw[Uv.out.2];rw[Uv.out.1]at hO;exact hO,hb⟩
    case measure=>simp[intOf]
   by_cases hc4:0+kN n=4
   ·have oP:m=0:=by have:=HM.out;omega
    have hz:(((n:Int)/4294967296)=0)=False:=eq_false (by have:=Rx.out hc4 (by omega);simp at this;omega);have qE:(((n:Int)/4294967296)==0)=false:=by rw[beq_eq_false_iff_ne];intro h;rw[hz]at h;exact h
    subst oP;go_wp2_with (at_builtin;refine zf ?_)
    unfold zU
    have yp:=hO.alloc (.cells #[.int .u8 ((n:Int)/4294967296)] 5);have zP:=hb.alloc hb.size (.cells #[.int .u8 ((n:Int)/4294967296)] 5)
    refine zv rfl (.tmp 31) (.tmp 33) rfl w.heap.size _ _ rfl yp _ 1 _ [ze n 32] rfl rfl (Src.new _ _ _ _ rfl _ (by simp only[List.map_cons,List.map_nil];rw[z7 n 32 4294967296 rfl];rw[Na.out])) (by rw[Ut.out];have:=mX.out;simp only[List.length_singleton];omega) zP.size fun v' w5 zB yg hat5=>?_
    have xz:=zm zP yg (fun q hq=>(hO.lt q hq).1);rw[show vt n 0++[ze n 32]=vt n (0+1) from HT.out (by omega) (by omega)]at zB;obtain⟨A5,c5,rfl,_⟩:=zB.form;obtain⟨m5,sT⟩:∃ x,(vt n (0+1)).length=x:=⟨_,rfl⟩
    have kJ:Hid (m5=0+1+kN n-4):=by rw[Hid,← sT];exact Uu.out (by omega)
    rw[sT]at zB⊢;clear hO hb yp zP yg hat5 sT;go_wp2_with fail
    go_roundw
    case rel=>exact⟨0+1,m5,c5,A5,rfl,by go_num,by omega,kJ,zB,xz⟩
    case measure=>simp[intOf]
   have Q5:(0:Int)<(m:Int):=by have:=HM.out;omega
   go_wp2_with (at_builtin;refine zf ?_)
   unfold zU
   have yp:=hO.alloc (.cells #[.int .u8 ((n:Int)/4294967296)] 5);have zP:=hb.alloc hb.size (.cells #[.int .u8 ((n:Int)/4294967296)] 5)
   refine zv rfl (.tmp 31) (.tmp 33) rfl w.heap.size _ _ rfl yp _ 1 _ [ze n 32] rfl rfl (Src.new _ _ _ _ rfl _ (by simp only[List.map_cons,List.map_nil];rw[z7 n 32 4294967296 rfl];rw[Na.out])) (by rw[Ut.out];have:=mX.out;simp only[List.length_singleton];omega) zP.size fun v' w5 zB yg hat5=>?_
   have xz:=zm zP yg (fun q hq=>(hO.lt q hq).1);rw[show vt n 0++[ze n 32]=vt n (0+1) from HT.out (by omega) (by omega)]at zB;obtain⟨A5,c5,rfl,_⟩:=zB.form;obtain⟨m5,sT⟩:∃ x,(vt n (0+1)).length=x:=⟨_,rfl⟩
   have kJ:Hid (m5=0+1+kN n-4):=by rw[Hid,← sT];exact Uu.out (by omega)
   rw[sT]at zB⊢;clear hO hb yp zP yg hat5 sT;go_wp2_with fail
   go_roundw
   case rel=>exact⟨0+1,m5,c5,A5,rfl,by go_num,by omega,kJ,zB,xz⟩
   case measure=>simp[intOf]
  ·have hq:(n:Int)/4294967296%256=(n:Int)/4294967296:=by have:=XD.out;omega
   have Na:=Hh hq;clear hq
   by_cases hc:1+kN n<4
   ·have oP:m=0:=by have:=HM.out;omega
    have hz:(n:Int)/16777216%256=0:=by have:=Jp.out hc;simp at this;omega
    have Uv:=Hh (Jx.out hc);subst oP;go_wp2_with fail
    go_roundw
    case rel=>exact⟨1+1,0,c,VA,rfl,by go_num,by omega,by rw[Hid];omega,by rw[Uv.out.2];rw[Uv.out.1]at hO;exact hO,hb⟩
    case measure=>simp[intOf]
   by_cases hc4:1+kN n=4
   ·have oP:m=0:=by have:=HM.out;omega
    have hz:(((n:Int)/16777216%256)=0)=False:=eq_false (by have:=Rx.out hc4 (by omega);simp at this;omega);have qE:(((n:Int)/16777216%256)==0)=false:=by rw[beq_eq_false_iff_ne];intro h;rw[hz]at h;exact h
    subst oP;go_wp2_with (at_builtin;refine zf ?_)
    unfold zU
    have yp:=hO.alloc (.cells #[.int .u8 ((n:Int)/16777216%256)] 5);have zP:=hb.alloc hb.size (.cells #[.int .u8 ((n:Int)/16777216%256)] 5)
    refine zv rfl (.tmp 31) (.tmp 33) rfl w.heap.size _ _ rfl yp _ 1 _ [ze n 24] rfl rfl (Src.new _ _ _ _ rfl _ (by simp only[List.map_cons,List.map_nil];rw[z7 n 24 16777216 rfl])) (by rw[Ut.out];have:=mX.out;simp only[List.length_singleton];omega) zP.size fun v' w5 zB yg hat5=>?_
    have xz:=zm zP yg (fun q hq=>(hO.lt q hq).1);rw[show vt n 1++[ze n 24]=vt n (1+1) from HT.out (by omega) (by omega)]at zB;obtain⟨A5,c5,rfl,_⟩:=zB.form;obtain⟨m5,sT⟩:∃ x,(vt n (1+1)).length=x:=⟨_,rfl⟩
    have kJ:Hid (m5=1+1+kN n-4):=by rw[Hid,← sT];exact Uu.out (by omega)
    rw[sT]at zB⊢;clear hO hb yp zP yg hat5 sT;go_wp2_with fail
    go_roundw
    case rel=>exact⟨1+1,m5,c5,A5,rfl,by go_num,by omega,kJ,zB,xz⟩
    case measure=>simp[intOf]
   have Q5:(0:Int)<(m:Int):=by have:=HM.out;omega
   go_wp2_with (at_builtin;refine zf ?_)
   unfold zU
   have yp:=hO.alloc (.cells #[.int .u8 ((n:Int)/16777216%256)] 5);have zP:=hb.alloc hb.size (.cells #[.int .u8 ((n:Int)/16777216%256)] 5)
   refine zv rfl (.tmp 31) (.tmp 33) rfl w.heap.size _ _ rfl yp _ 1 _ [ze n 24] rfl rfl (Src.new _ _ _ _ rfl _ (by simp only[List.map_cons,List.map_nil];rw[z7 n 24 16777216 rfl])) (by rw[Ut.out];have:=mX.out;simp only[List.length_singleton];omega) zP.size fun v' w5 zB yg hat5=>?_
   have xz:=zm zP yg (fun q hq=>(hO.lt q hq).1);rw[show vt n 1++[ze n 24]=vt n (1+1) from HT.out (by omega) (by omega)]at zB;obtain⟨A5,c5,rfl,_⟩:=zB.form;obtain⟨m5,sT⟩:∃ x,(vt n (1+1)).length=x:=⟨_,rfl⟩
   have kJ:Hid (m5=1+1+kN n-4):=by rw[Hid,← sT];exact Uu.out (by omega)
   rw[sT]at zB⊢;clear hO hb yp zP yg hat5 sT;go_wp2_with fail
   go_roundw
   case rel=>exact⟨1+1,m5,c5,A5,rfl,by go_num,by omega,kJ,zB,xz⟩
   case measure=>simp[intOf]
  ·have hq:(n:Int)/4294967296%256=(n:Int)/4294967296:=by have:=XD.out;omega
   have Na:=Hh hq;clear hq
   by_cases hc:2+kN n<4
   ·have oP:m=0:=by have:=HM.out;omega
    have hz:(n:Int)/65536%256=0:=by have:=Jp.out hc;simp at this;omega
    have Uv:=Hh (Jx.out hc);subst oP;go_wp2_with fail
    go_roundw
    case rel=>exact⟨2+1,0,c,VA,rfl,by go_num,by omega,by rw[Hid];omega,by rw[Uv.out.2];rw[Uv.out.1]at hO;exact hO,hb⟩
    case measure=>simp[intOf]
   by_cases hc4:2+kN n=4
   ·have oP:m=0:=by have:=HM.out;omega
    have hz:(((n:Int)/65536%256)=0)=False:=eq_false (by have:=Rx.out hc4 (by omega);simp at this;omega);have qE:(((n:Int)/65536%256)==0)=false:=by rw[beq_eq_false_iff_ne];intro h;rw[hz]at h;exact h
    subst oP;go_wp2_with (at_builtin;refine zf ?_)
    unfold zU
    have yp:=hO.alloc (.cells #[.int .u8 ((n:Int)/65536%256)] 5);have zP:=hb.alloc hb.size (.cells #[.int .u8 ((n:Int)/65536%256)] 5)
    refine zv rfl (.tmp 31) (.tmp 33) rfl w.heap.size _ _ rfl yp _ 1 _ [ze n 16] rfl rfl (Src.new _ _ _ _ rfl _ (by simp only[List.map_cons,List.map_nil];rw[z7 n 16 65536 rfl])) (by rw[Ut.out];have:=mX.out;simp only[List.length_singleton];omega) zP.size fun v' w5 zB yg hat5=>?_
    have xz:=zm zP yg (fun q hq=>(hO.lt q hq).1);rw[show vt n 2++[ze n 16]=vt n (2+1) from HT.out (by omega) (by omega)]at zB;obtain⟨A5,c5,rfl,_⟩:=zB.form;obtain⟨m5,sT⟩:∃ x,(vt n (2+1)).length=x:=⟨_,rfl⟩
    have kJ:Hid (m5=2+1+kN n-4):=by rw[Hid,← sT];exact Uu.out (by omega)
    rw[sT]at zB⊢;clear hO hb yp zP yg hat5 sT;go_wp2_with fail
    go_roundw
    case rel=>exact⟨2+1,m5,c5,A5,rfl,by go_num,by omega,kJ,zB,xz⟩
    case measure=>simp[intOf]
   have Q5:(0:Int)<(m:Int):=by have:=HM.out;omega
   go_wp2_with (at_builtin;refine zf ?_)
   unfold zU
   have yp:=hO.alloc (.cells #[.int .u8 ((n:Int)/65536%256)] 5);have zP:=hb.alloc hb.size (.cells #[.int .u8 ((n:Int)/65536%256)] 5)
   refine zv rfl (.tmp 31) (.tmp 33) rfl w.heap.size _ _ rfl yp _ 1 _ [ze n 16] rfl rfl (Src.new _ _ _ _ rfl _ (by simp only[List.map_cons,List.map_nil];rw[z7 n 16 65536 rfl])) (by rw[Ut.out];have:=mX.out;simp only[List.length_singleton];omega) zP.size fun v' w5 zB yg hat5=>?_
   have xz:=zm zP yg (fun q hq=>(hO.lt q hq).1);rw[show vt n 2++[ze n 16]=vt n (2+1) from HT.out (by omega) (by omega)]at zB;obtain⟨A5,c5,rfl,_⟩:=zB.form;obtain⟨m5,sT⟩:∃ x,(vt n (2+1)).length=x:=⟨_,rfl⟩
   have kJ:Hid (m5=2+1+kN n-4):=by rw[Hid,← sT];exact Uu.out (by omega)
   rw[sT]at zB⊢;clear hO hb yp zP yg hat5 sT;go_wp2_with fail
   go_roundw
   case rel=>exact⟨2+1,m5,c5,A5,rfl,by go_num,by omega,kJ,zB,xz⟩
   case measure=>simp[intOf]
  ·have hq:(n:Int)/4294967296%256=(n:Int)/4294967296:=by have:=XD.out;omega
   have Na:=Hh hq;clear hq
   by_cases hc:3+kN n<4
   ·have oP:m=0:=by have:=HM.out;omega
    have hz:(n:Int)/256%256=0:=by have:=Jp.out hc;simp at this;omega
    have Uv:=Hh (Jx.out hc);subst oP;go_wp2_with fail
    go_roundw
    case rel=>exact⟨3+1,0,c,VA,rfl,by go_num,by omega,by rw[Hid];omega,by rw[Uv.out.2];rw[Uv.out.1]at hO;exact hO,hb⟩
    case measure=>simp[intOf]
   by_cases hc4:3+kN n=4
   ·have oP:m=0:=by have:=HM.out;omega
    have hz:(((n:Int)/256%256)=0)=False:=eq_false (by have:=Rx.out hc4 (by omega);simp at this;omega);have qE:(((n:Int)/256%256)==0)=false:=by rw[beq_eq_false_iff_ne];intro h;rw[hz]at h;exact h
    subst oP;go_wp2_with (at_builtin;refine zf ?_)
    unfold zU
    have yp:=hO.alloc (.cells #[.int .u8 ((n:Int)/256%256)] 5);have zP:=hb.alloc hb.size (.cells #[.int .u8 ((n:Int)/256%256)] 5)
    refine zv rfl (.tmp 31) (.tmp 33) rfl w.heap.size _ _ rfl yp _ 1 _ [ze n 8] rfl rfl (Src.new _ _ _ _ rfl _ (by simp only[List.map_cons,List.map_nil];rw[z7 n 8 256 rfl])) (by rw[Ut.out];have:=mX.out;simp only[List.length_singleton];omega) zP.size fun v' w5 zB yg hat5=>?_
    have xz:=zm zP yg (fun q hq=>(hO.lt q hq).1);rw[show vt n 3++[ze n 8]=vt n (3+1) from HT.out (by omega) (by omega)]at zB;obtain⟨A5,c5,rfl,_⟩:=zB.form;obtain⟨m5,sT⟩:∃ x,(vt n (3+1)).length=x:=⟨_,rfl⟩
    have kJ:Hid (m5=3+1+kN n-4):=by rw[Hid,← sT];exact Uu.out (by omega)
    rw[sT]at zB⊢;clear hO hb yp zP yg hat5 sT;go_wp2_with fail
    go_roundw
    case rel=>exact⟨3+1,m5,c5,A5,rfl,by go_num,by omega,kJ,zB,xz⟩
    case measure=>simp[intOf]
   have Q5:(0:Int)<(m:Int):=by have:=HM.out;omega
   go_wp2_with (at_builtin;refine zf ?_)
   unfold zU
   have yp:=hO.alloc (.cells #[.int .u8 ((n:Int)/256%256)] 5);have zP:=hb.alloc hb.size (.cells #[.int .u8 ((n:Int)/256%256)] 5)
   refine zv rfl (.tmp 31) (.tmp 33) rfl w.heap.size _ _ rfl yp _ 1 _ [ze n 8] rfl rfl (Src.new _ _ _ _ rfl _ (by simp only[List.map_cons,List.map_nil];rw[z7 n 8 256 rfl])) (by rw[Ut.out];have:=mX.out;simp only[List.length_singleton];omega) zP.size fun v' w5 zB yg hat5=>?_
   have xz:=zm zP yg (fun q hq=>(hO.lt q hq).1);rw[show vt n 3++[ze n 8]=vt n (3+1) from HT.out (by omega) (by omega)]at zB;obtain⟨A5,c5,rfl,_⟩:=zB.form;obtain⟨m5,sT⟩:∃ x,(vt n (3+1)).length=x:=⟨_,rfl⟩
   have kJ:Hid (m5=3+1+kN n-4):=by rw[Hid,← sT];exact Uu.out (by omega)
   rw[sT]at zB⊢;clear hO hb yp zP yg hat5 sT;go_wp2_with fail
   go_roundw
   case rel=>exact⟨3+1,m5,c5,A5,rfl,by go_num,by omega,kJ,zB,xz⟩
   case measure=>simp[intOf]
  ·have hq:(n:Int)/4294967296%256=(n:Int)/4294967296:=by have:=XD.out;omega
   have Na:=Hh hq;clear hq
   by_cases hc:4+kN n<4
   ·omega
   by_cases hc4:4+kN n=4
   ·have oP:m=0:=by have:=HM.out;omega
    subst oP
    by_cases lW:((n:Int)%256)=0
    ·have hz:(((n:Int)%256)=0)=True:=eq_true lW;clear lW;go_wp2_with (at_builtin;refine zf ?_)
     unfold zU
     have yp:=hO.alloc (.cells #[.int .u8 ((n:Int)%256)] 5);have zP:=hb.alloc hb.size (.cells #[.int .u8 ((n:Int)%256)] 5)
     refine zv rfl (.tmp 31) (.tmp 33) rfl w.heap.size _ _ rfl yp _ 1 _ [ze n 0] rfl rfl (Src.new _ _ _ _ rfl _ (by simp only[List.map_cons,List.map_nil];rw[z7 n 0 1 rfl];simp)) (by rw[Ut.out];have:=mX.out;simp only[List.length_singleton];omega) zP.size fun v' w5 zB yg hat5=>?_
     have xz:=zm zP yg (fun q hq=>(hO.lt q hq).1);rw[show vt n 4++[ze n 0]=vt n (4+1) from HT.out (by omega) (by omega)]at zB;obtain⟨A5,c5,rfl,_⟩:=zB.form;obtain⟨m5,sT⟩:∃ x,(vt n (4+1)).length=x:=⟨_,rfl⟩
     have kJ:Hid (m5=4+1+kN n-4):=by rw[Hid,← sT];exact Uu.out (by omega)
     rw[sT]at zB⊢;clear hO hb yp zP yg hat5 sT;go_wp2_with fail
     go_roundw
     case rel=>exact⟨4+1,m5,c5,A5,rfl,by go_num,by omega,kJ,zB,xz⟩
     case measure=>simp[intOf]
    have hz:(((n:Int)%256)=0)=False:=eq_false lW;have qE:(((n:Int)%256)==0)=false:=by rw[beq_eq_false_iff_ne];exact lW
    clear lW;go_wp2_with (at_builtin;refine zf ?_)
    unfold zU
    have yp:=hO.alloc (.cells #[.int .u8 ((n:Int)%256)] 5);have zP:=hb.alloc hb.size (.cells #[.int .u8 ((n:Int)%256)] 5)
    refine zv rfl (.tmp 31) (.tmp 33) rfl w.heap.size _ _ rfl yp _ 1 _ [ze n 0] rfl rfl (Src.new _ _ _ _ rfl _ (by simp only[List.map_cons,List.map_nil];rw[z7 n 0 1 rfl];simp)) (by rw[Ut.out];have:=mX.out;simp only[List.length_singleton];omega) zP.size fun v' w5 zB yg hat5=>?_
    have xz:=zm zP yg (fun q hq=>(hO.lt q hq).1);rw[show vt n 4++[ze n 0]=vt n (4+1) from HT.out (by omega) (by omega)]at zB;obtain⟨A5,c5,rfl,_⟩:=zB.form;obtain⟨m5,sT⟩:∃ x,(vt n (4+1)).length=x:=⟨_,rfl⟩
    have kJ:Hid (m5=4+1+kN n-4):=by rw[Hid,← sT];exact Uu.out (by omega)
    rw[sT]at zB⊢;clear hO hb yp zP yg hat5 sT;go_wp2_with fail
    go_roundw
    case rel=>exact⟨4+1,m5,c5,A5,rfl,by go_num,by omega,kJ,zB,xz⟩
    case measure=>simp[intOf]
   have Q5:(0:Int)<(m:Int):=by have:=HM.out;omega
   go_wp2_with (at_builtin;refine zf ?_)
   unfold zU
   have yp:=hO.alloc (.cells #[.int .u8 ((n:Int)%256)] 5);have zP:=hb.alloc hb.size (.cells #[.int .u8 ((n:Int)%256)] 5)
   refine zv rfl (.tmp 31) (.tmp 33) rfl w.heap.size _ _ rfl yp _ 1 _ [ze n 0] rfl rfl (Src.new _ _ _ _ rfl _ (by simp only[List.map_cons,List.map_nil];rw[z7 n 0 1 rfl];simp)) (by rw[Ut.out];have:=mX.out;simp only[List.length_singleton];omega) zP.size fun v' w5 zB yg hat5=>?_
   have xz:=zm zP yg (fun q hq=>(hO.lt q hq).1);rw[show vt n 4++[ze n 0]=vt n (4+1) from HT.out (by omega) (by omega)]at zB;obtain⟨A5,c5,rfl,_⟩:=zB.form;obtain⟨m5,sT⟩:∃ x,(vt n (4+1)).length=x:=⟨_,rfl⟩
   have kJ:Hid (m5=4+1+kN n-4):=by rw[Hid,← sT];exact Uu.out (by omega)
   rw[sT]at zB⊢;clear hO hb yp zP yg hat5 sT;go_wp2_with fail
   go_roundw
   case rel=>exact⟨4+1,m5,c5,A5,rfl,by go_num,by omega,kJ,zB,xz⟩
   case measure=>simp[intOf]
  rw[OX,← E.out]at hO;go_wp2_with fail
  go_ret
  exact⟨_,rfl,hO,hb⟩
 have E:Hid (xK v=[]):=by rw[Hid,xK,if_neg hv]
 by_cases h0:v<0
 ·clear hv;go_enter Tryz.func46,Tryz.ntmps46
  go_wp2_with fail
  go_ret
  exact⟨_,rfl,by rw[E.out];exact⟨OwnB.nil _ _,Below.refl _ _⟩⟩
 have h1:(1099511627775:Int)<v:=by omega
 clear hv;go_enter Tryz.func46,Tryz.ntmps46
 go_wp2_with fail
 go_ret
 exact⟨_,rfl,by rw[E.out];exact⟨OwnB.nil _ _,Below.refl _ _⟩⟩
structure Mb where
 name:ByteArray
 sender:List UInt8
 roles:Int
 cred:List UInt8
 share:List UInt8
 wrap:List UInt8
 since:Int
structure MAd where
 sa:Option Addr
 sc:Nat
 ca:Option Addr
 cc:Nat
 ha:Option Addr
 hc:Nat
 wa:Option Addr
 wc:Nat
abbrev tO (name:ByteArray) (roles since:Int) (sa:Option Addr) (sn sc:Nat) (ca:Option Addr) (cn cc:Nat) (ha:Option Addr) (hn hc:Nat) (wa:Option Addr) (wn wc:Nat):Array Value :=
 #[.string name,.slice sa sn sc,.int .i64 roles,.slice ca cn cc,.slice ha hn hc,.slice wa wn wc,.int .i64 since]
abbrev xQ (m:Mb) (a:MAd):Array Value:=tO m.name m.roles m.since a.sa m.sender.length a.sc a.ca m.cred.length a.cc a.ha m.share.length a.hc a.wa m.wrap.length a.wc
structure MemA (H:Snap) (m:Mb) (a:MAd):Prop where
 name:m.name.size≤1099511627
 sender:IsBytes H a.sa a.sc m.sender
 cred:IsBytes H a.ca a.cc m.cred
 share:IsBytes H a.ha a.hc m.share
 wrap:IsBytes H a.wa a.wc m.wrap
 small:m.sender.length≤1099511∧m.cred.length≤1099511∧m.share.length≤1099511∧m.wrap.length≤1099511
theorem MemA.mono {H K:Snap}{m:Mb}{a:MAd}(h:MemA H m a) (hl:H.le K):MemA K m a:=⟨h.name,h.sender.mono hl,h.cred.mono hl,h.share.mono hl,h.wrap.mono hl,h.small⟩
def ru:Lie Mb where
 k:=7
 pos:=by omega
 E:=fun H m c=>∃ a,c=(xQ m a).toList∧MemA H m a
 len:=by rintro _ _ _ ⟨_,rfl,_⟩;rfl
 one:=by rintro _ _ _ ⟨_,rfl,_⟩;simp[Value.oneCell']
 mono:=by rintro H K x c hl ⟨a,e,h⟩;exact⟨a,e,h.mono hl⟩
abbrev qa:Array Value:=#[.string ⟨#[]⟩,.slice none 0 0,.int .i64 0,.slice none 0 0,.slice none 0 0,.slice none 0 0,.int .i64 0]
theorem tV:(Tryz.prog.info? 57).map (·.size)=some 7:=by kernel_rfl
theorem oD (a b c d e f g:Value) (ha:a.oneCell'=true) (hb:b.oneCell'=true) (hc:c.oneCell'=true) (hd:d.oneCell'=true) (he:e.oneCell'=true) (hf:f.oneCell'=true) (hg:g.oneCell'=true) :
  (#[a,b,c,d,e,f,g]:Array Value).all (·.oneCell')=true:=by simp[ha,hb,hc,hd,he,hf,hg]
theorem pu:(Tryz.prog.info? 23).map (·.size)=some 1:=by kernel_rfl
theorem pq {A:Option Addr}{c:Nat}{l:List UInt8}{n:Nat}(hn:n=l.length) (hl:l.length≤1099511627) (w:World) (hS:Src w A (l.map zg)) :
  Calls Tryz.prog 72 #[.slice A n c] w fun e w'=>∃ r,e=.returned r∧Fresh w l r w':=by
 have HN:=Hh (And.intro hn hl);clear hn hl;go_enter Tryz.func72,Tryz.ntmps72
 go_wp2_with (at_builtin;refine zf ?_)
 refine zv rfl (.const (.slice none 0 0)) (.tmp 3) rfl w.heap.size (.slice none 0 0) [] rfl (OwnB.nil _ _) A n c l rfl HN.out.1 hS (by have:=HN.out.2;simp;omega) (Nat.le_refl _) fun v1 w1 yp hg1 hat1=>?_
 rw[List.nil_append]at yp;have zP:=yT (by simpa [Value.ownBlock] using hg1);clear hg1 hat1 hS;go_wp2_with fail
 go_ret
 exact⟨_,rfl,yp,zP⟩
structure MN (W0:World) (H:Snap) (R K:Nat) (kc:Array Value) (w:World) (Hr:Snap):Prop where
 grows:Grows W0 H w Hr
 res:Blk w R 57 qa
 key:Blk w K 57 kc
 hR:Hr R=none
 hK:Hr K=none
 neRK:R≠K
 wR:W0.heap.size≤R
 wK:W0.heap.size≤K
section
variable {W0 w w':World} {H Hr Hs:Snap} {R K:Nat} {kc kc':Array Value}
theorem MN.grow (h:MN W0 H R K kc w Hr) (k:Grows w Hr w' Hs):MN W0 H R K kc w' Hs :=
 ⟨h.grows.trans k,h.res.below k.below,h.key.below k.below,k.none h.hR h.res.lt,k.none h.hK h.key.lt,h.neRK,h.wR,h.wK⟩
theorem MN.below (h:MN W0 H R K kc w Hr) (k:Below w.heap.size w w'):MN W0 H R K kc w' Hr:=h.grow (Grows.of_below h.grows.holds k)
theorem MN.drew (h:MN W0 H R K kc w Hr):MN W0 H R K kc w.drew Hr:=h.below (Below.refl _ _).drew
theorem MN.set (h:MN W0 H R K kc w Hr) (hB:Blk w' K 57 kc') (hg:w.grownBy w' (some K)):MN W0 H R K kc' w' Hr :=
 ⟨h.grows.grownOwn h.hK h.wK hg,h.res.grown hg (fun e=>by injection e with e;exact h.neRK e.symm),hB,h.hR,h.hK,h.neRK,h.wR,h.wK⟩
end
def Tl (w:World) (H:Snap) (m:Mb) (e:Ending) (w':World):Prop:=∃ a H',e=.returned (.agg (xQ m a))∧Grows w H w' H'∧MemA H' m a
theorem fX {H:Snap}{m:Mb}{a:MAd}(hm:MemA H m a) (w:World) (hH:Holds w H) :
  Calls Tryz.prog 59 #[.agg (xQ m a)] w (Tl w H m):=by
 obtain⟨ns,Q6⟩:∃ n,n=m.sender.length:=⟨_,rfl⟩
 obtain⟨nc,Su⟩:∃ n,n=m.cred.length:=⟨_,rfl⟩
 obtain⟨nh,JD⟩:∃ n,n=m.share.length:=⟨_,rfl⟩
 obtain⟨nw,JE⟩:∃ n,n=m.wrap.length:=⟨_,rfl⟩
 have HN:=Hh (And.intro Q6 (And.intro Su (And.intro JD JE)));have S7:=Hh hm.small;have Ee:=Hh hm.name;have Rt:=Hh hm.sender;have Rr:=Hh hm.cred;have Rs:=Hh hm.share;have Ru:=Hh hm.wrap;show Calls Tryz.prog 59 #[.agg (tO m.name m.roles m.since a.sa m.sender.length a.sc a.ca m.cred.length a.cc a.ha m.share.length a.hc a.wa m.wrap.length a.wc)] w (Tl w H m)
 rw[← Q6,← Su,← JD,← JE];have rZ:=(Blk.new w 57 (tO m.name m.roles m.since a.sa ns a.sc a.ca nc a.cc a.ha nh a.hc a.wa nw a.wc)).alloc (.cells qa 57);have hT:=Blk.new (w.alloc (.cells (tO m.name m.roles m.since a.sa ns a.sc a.ca nc a.cc a.ha nh a.hc a.wa nw a.wc) 57)) 57 qa;rw[zW]at hT;have tQ:MN w H (w.heap.size+1) w.heap.size (tO m.name m.roles m.since a.sa ns a.sc a.ca nc a.cc a.ha nh a.hc a.wa nw a.wc) _ H:=⟨((Grows.refl hH).alloc (.cells (tO m.name m.roles m.since a.sa ns a.sc a.ca nc a.cc a.ha nh a.hc a.wa nw a.wc) 57)).alloc (.cells qa 57),hT,rZ,hH.none_of_ge (by omega),hH.none_of_ge (by omega),by omega,by omega,by omega⟩
 clear Q6 Su JD JE hm hH rZ hT;go_enter Tryz.func59,Tryz.ntmps59
 go_upto_region 1 with fail
 replace tQ:=tQ.drew;go_cut [1] (fun s1 wx=>s1=.pointer (some ⟨w.heap.size,0,none⟩)∧∃ sa sc ca cc ha hc wa wc Hr,MN w H (w.heap.size+1) w.heap.size (tO m.name m.roles m.since sa ns sc ca nc cc ha nh hc wa nw wc) wx Hr∧IsBytes Hr sa sc m.sender∧IsBytes Hr ca cc m.cred∧IsBytes Hr ha hc m.share∧IsBytes Hr wa wc m.wrap)
 case first =>
  refine yw 13 (fun wx=>wx.cell? ⟨w.heap.size,1,none⟩=some (.slice a.sa ns a.sc)∧wx.cell? ⟨w.heap.size,3,none⟩=some (.slice a.ca nc a.cc)∧wx.cell? ⟨w.heap.size,4,none⟩=some (.slice a.ha nh a.hc)∧wx.cell? ⟨w.heap.size,5,none⟩=some (.slice a.wa nw a.wc)) (by kernel_rfl) (⟨tQ.key.cell 1 rfl,tQ.key.cell 3 rfl,tQ.key.cell 4 rfl,tQ.key.cell 5 rfl⟩) (fun zy=>?_)
  refine Zk 0 rfl zy ?_
  refine Zk 1 rfl zy ?_
  refine Zk 3 rfl zy ?_
  refine Zk 4 rfl zy ?_
  refine Zk 6 rfl zy ?_
  refine Zk 7 rfl zy ?_
  refine Zk 9 rfl zy ?_
  refine Zk 10 rfl zy ?_
  refine Zo 2 rfl fun K hK=>?_
  go_simp
  refine(pq (c:=a.sc) HN.out.1 (by have:=S7.out;omega) _ (Src.of_row Rt.out.row tQ.grows.holds)).mono ?_
  rintro e w2 ⟨r2,rfl,oT⟩
  obtain⟨A2,c2,rfl,V7⟩:=oT.own.form;clear V7;obtain⟨H2,yY,yz,V7⟩:=Fresh.snapB tQ.grows.holds oT;clear V7;rw[← HN.out.1];have jU:=Hh yz;replace tQ:=tQ.grow yY;replace Rt:=Hh (Rt.out.mono yY.le);replace Rr:=Hh (Rr.out.mono yY.le);replace Rs:=Hh (Rs.out.mono yY.le);replace Ru:=Hh (Ru.out.mono yY.le)
  try replace Pg:=Hh (Pg.out.mono yY.le)
  try replace Ph:=Hh (Ph.out.mono yY.le)
  try replace Z0:=Hh (Z0.out.mono yY.le)
  clear yY yz oT
  refine Ko hK ?_ fun zy=>?_
  ·exact⟨tQ.key.cell 1 rfl,tQ.key.cell 3 rfl,tQ.key.cell 4 rfl,tQ.key.cell 5 rfl⟩
  clear hK K
  refine Zk 12 rfl zy ?_
  refine Zo 5 rfl fun K hK=>?_
  go_simp
  refine(pq (c:=a.cc) HN.out.2.1 (by have:=S7.out;omega) _ (Src.of_row Rr.out.row tQ.grows.holds)).mono ?_
  rintro e w5 ⟨r5,rfl,uV⟩
  obtain⟨A5,c5,rfl,NG⟩:=uV.own.form;clear NG;obtain⟨H5,xC,xz,NG⟩:=Fresh.snapB tQ.grows.holds uV;clear NG;rw[← HN.out.2.1];have Pg:=Hh xz;replace tQ:=tQ.grow xC;replace Rt:=Hh (Rt.out.mono xC.le);replace Rr:=Hh (Rr.out.mono xC.le);replace Rs:=Hh (Rs.out.mono xC.le);replace Ru:=Hh (Ru.out.mono xC.le)
  try replace jU:=Hh (jU.out.mono xC.le)
  try replace Ph:=Hh (Ph.out.mono xC.le)
  try replace Z0:=Hh (Z0.out.mono xC.le)
  clear xC xz uV
  refine Ko hK ?_ fun zy=>?_
  ·exact⟨tQ.key.cell 1 rfl,tQ.key.cell 3 rfl,tQ.key.cell 4 rfl,tQ.key.cell 5 rfl⟩
  clear hK K
  refine Zo 8 rfl fun K hK=>?_
  go_simp
  refine(pq (c:=a.hc) HN.out.2.2.1 (by have:=S7.out;omega) _ (Src.of_row Rs.out.row tQ.grows.holds)).mono ?_
  rintro e w8 ⟨r8,rfl,pU⟩
  obtain⟨A8,c8,rfl,NH⟩:=pU.own.form;clear NH;obtain⟨H8,ra,pj,NH⟩:=Fresh.snapB tQ.grows.holds pU;clear NH;rw[← HN.out.2.2.1];have Ph:=Hh pj;replace tQ:=tQ.grow ra;replace Rt:=Hh (Rt.out.mono ra.le);replace Rr:=Hh (Rr.out.mono ra.le);replace Rs:=Hh (Rs.out.mono ra.le);replace Ru:=Hh (Ru.out.mono ra.le)
  try replace jU:=Hh (jU.out.mono ra.le)
  try replace Pg:=Hh (Pg.out.mono ra.le)
  try replace Z0:=Hh (Z0.out.mono ra.le)
  clear ra pj pU
  refine Ko hK ?_ fun zy=>?_
  ·exact⟨tQ.key.cell 1 rfl,tQ.key.cell 3 rfl,tQ.key.cell 4 rfl,tQ.key.cell 5 rfl⟩
  clear hK K
  refine Zo 11 rfl fun K hK=>?_
  go_simp
  refine(pq (c:=a.wc) HN.out.2.2.2 (by have:=S7.out;omega) _ (Src.of_row Ru.out.row tQ.grows.holds)).mono ?_
  rintro e w11 ⟨r11,rfl,P6⟩
  obtain⟨A11,c11,rfl,PC⟩:=P6.own.form;clear PC;obtain⟨Jf,uT,jz,PC⟩:=Fresh.snapB tQ.grows.holds P6;clear PC;rw[← HN.out.2.2.2];have Z0:=Hh jz;replace tQ:=tQ.grow uT;replace Rt:=Hh (Rt.out.mono uT.le);replace Rr:=Hh (Rr.out.mono uT.le);replace Rs:=Hh (Rs.out.mono uT.le);replace Ru:=Hh (Ru.out.mono uT.le)
  try replace jU:=Hh (jU.out.mono uT.le)
  try replace Pg:=Hh (Pg.out.mono uT.le)
  try replace Ph:=Hh (Ph.out.mono uT.le)
  clear uT jz P6
  refine Ko hK ?_ fun zy=>?_
  ·exact⟨tQ.key.cell 1 rfl,tQ.key.cell 3 rfl,tQ.key.cell 4 rfl,tQ.key.cell 5 rfl⟩
  clear hK K
  refine Zo 13 rfl fun K hK=>?_
  rw[if_pos (by rfl)]
  refine yq _ _ _ rfl w.heap.size 1 (.slice A2 ns c2) rfl rfl _ _ tQ.key pu (by simp) rfl fun w13 hK13 hg13=>?_
  replace tQ:=tQ.set hK13 hg13;clear hK13 hg13
  refine Kz hK ?_
  clear hK K
  refine ZkT 14 rfl (fun h=>absurd h (by decide)) ?_
  refine Zo 15 rfl fun K hK=>?_
  rw[if_pos (by rfl)]
  refine yq _ _ _ rfl w.heap.size 3 (.slice A5 nc c5) rfl rfl _ _ tQ.key pu (by simp) rfl fun w15 hK15 hg15=>?_
  replace tQ:=tQ.set hK15 hg15;clear hK15 hg15
  refine Kz hK ?_
  clear hK K
  refine ZkT 16 rfl (fun h=>absurd h (by decide)) ?_
  refine Zo 17 rfl fun K hK=>?_
  rw[if_pos (by rfl)]
  refine yq _ _ _ rfl w.heap.size 4 (.slice A8 nh c8) rfl rfl _ _ tQ.key pu (by simp) rfl fun w17 hK17 hg17=>?_
  replace tQ:=tQ.set hK17 hg17;clear hK17 hg17
  refine Kz hK ?_
  clear hK K
  refine ZkT 18 rfl (fun h=>absurd h (by decide)) ?_
  refine Zo 19 rfl fun K hK=>?_
  rw[if_pos (by rfl)]
  refine yq _ _ _ rfl w.heap.size 5 (.slice A11 nw c11) rfl rfl _ _ tQ.key pu (by simp) rfl fun w19 hK19 hg19=>?_
  replace tQ:=tQ.set hK19 hg19;clear hK19 hg19
  refine Kz hK ?_
  clear hK K
  refine WaysZ.done (by kernel_rfl) ?_
  try clear zy
  go_wp2_with fail
  go_meet
  exact⟨rfl,A2,c2,A5,c5,A8,c8,A11,c11,_,tQ,jU.out,Pg.out,Ph.out,Z0.out⟩
 case rest =>
 clear tQ;obtain⟨rfl,sa,sc,ca,cc,ha,hc,wa,wc,Hr,tQ,iW,oL,Fl,qM⟩:=hcut;have HM:=Hh (And.intro tQ (And.intro iW (And.intro oL (And.intro Fl qM))));have c0:=tQ.key.cell 0 rfl;have c1:=tQ.key.cell 1 rfl;have c2:=tQ.key.cell 2 rfl;have c3:=tQ.key.cell 3 rfl;have c4:=tQ.key.cell 4 rfl;have c5:=tQ.key.cell 5 rfl;have c6:=tQ.key.cell 6 rfl;have Uy:=tQ.res;clear tQ iW oL Fl qM;go_wp2_with (with_reducible refine zx ?_)
 refine zu rfl _ _ _ rfl rfl _ _ rfl rfl _ _ Uy tV rfl (oD _ _ _ _ _ _ _ rfl rfl rfl rfl rfl rfl rfl) fun wz hRz z8=>?_
 have yx:=HM.out.1.grows.grownOwn HM.out.1.hR HM.out.1.wR z8;clear Uy z8 c0 c1 c2 c3 c4 c5 c6;go_wp2_with fail
 refine xS rfl rfl hRz rfl rfl tV rfl ?_
 exact⟨⟨sa,sc,ca,cc,ha,hc,wa,wc⟩,Hr,by rw[HN.out.1,HN.out.2.1,HN.out.2.2.1,HN.out.2.2.2],yx,⟨Ee.out,HM.out.2.1,HM.out.2.2.1,HM.out.2.2.2.1,HM.out.2.2.2.2,S7.out⟩⟩
structure Ep where
 number:Int
 id:List UInt8
 secret:List UInt8
 members:List Mb
structure EAd where
 ia:Option Addr
 ic:Nat
 sa:Option Addr
 sc:Nat
 ma:Option Addr
 mc:Nat
abbrev epC (num:Int) (ia:Option Addr) (il ic:Nat) (sa:Option Addr) (sl sc:Nat) (ma:Option Addr) (ml mc:Nat):Array Value:=#[.int .i64 num,.slice ia il ic,.slice sa sl sc,.slice ma ml mc]
abbrev epQ (e:Ep) (a:EAd):Array Value:=epC e.number a.ia e.id.length a.ic a.sa e.secret.length a.sc a.ma e.members.length a.mc
structure EpA (H:Snap) (e:Ep) (a:EAd):Prop where
 id:IsBytes H a.ia a.ic e.id
 secret:IsBytes H a.sa a.sc e.secret
 members:IsRow ru H a.ma a.mc e.members
 small:e.id.length≤1099511∧e.secret.length≤1099511∧e.members.length≤1099511
theorem EpA.mono {H K:Snap}{e:Ep}{a:EAd}(h:EpA H e a) (hl:H.le K):EpA K e a:=⟨h.id.mono hl,h.secret.mono hl,h.members.mono hl,h.small⟩
def mJ:Mb:=⟨⟨#[]⟩,[],0,[],[],[],0⟩
theorem U9 (H:Snap):MemA H mJ ⟨none,0,none,0,none,0,none,0⟩ :=
 ⟨by simp[mJ,ByteArray.size],IsBytes.nil _,IsBytes.nil _,IsBytes.nil _,IsBytes.nil _,by simp[mJ]⟩
def uZ:List Mb→List UInt8→Option Mb
 | [],_=>none
 | m::l,s=>if m.sender=s then some m else uZ l s
theorem fu {l:List Mb}{j:Nat}(hj:j<l.length) (s:List UInt8):uZ (l.drop j) s=if l[j].sender=s then some l[j] else uZ (l.drop (j+1)) s:=by
 rw[List.drop_eq_getElem_cons hj,uZ]
def iO (w:World) (H:Snap) (o:Option Mb) (e:Ending) (w':World):Prop:=∃ a H',e=.returned (.tuple #[.agg (xQ (o.getD mJ) a),.bool o.isSome])∧Grows w H w' H'∧MemA H' (o.getD mJ) a
theorem nV:(Tryz.prog.info? 33).map (·.size)=some 4:=by kernel_rfl
theorem cT {H:Snap}{x:Ep}{a:EAd}(hx:EpA H x a) {A:Option Addr}{c:Nat}{s:List UInt8}{n:Nat}(hn:n=s.length) (hl:s.length≤1099511) (w:World) (hH:Holds w H) (hS:Src w A (s.map zg)) :
  Calls Tryz.prog 35 #[.agg (epQ x a),.slice A n c] w (iO w H (uZ x.members s)):=by
 obtain⟨ml,rS⟩:∃ n,n=x.members.length:=⟨_,rfl⟩
 have HN:=Hh (And.intro hn (And.intro hl rS));have HX:=Hh hx;have HS:=Hh hS;have HH:=Hh hH;obtain⟨il,rC⟩:∃ n,x.id.length=n:=⟨_,rfl⟩
 obtain⟨sl,sP⟩:∃ n,x.secret.length=n:=⟨_,rfl⟩
 show Calls Tryz.prog 35 #[.agg (epC x.number a.ia x.id.length a.ic a.sa x.secret.length a.sc a.ma x.members.length a.mc),.slice A n c] w (iO w H (uZ x.members s))
 rw[← rS,rC,sP];have rZ:=(Blk.new w 33 (epC x.number a.ia il a.ic a.sa sl a.sc a.ma ml a.mc)).alloc (.cells qa 57);have hT:=Blk.new (w.alloc (.cells (epC x.number a.ia il a.ic a.sa sl a.sc a.ma ml a.mc) 33)) 57 qa;rw[zW]at hT;have zP:=((zl w (.cells (epC x.number a.ia il a.ic a.sa sl a.sc a.ma ml a.mc) 33)).alloc (zl w (.cells (epC x.number a.ia il a.ic a.sa sl a.sc a.ma ml a.mc) 33)).size (.cells qa 57))
 have c3:=rZ.cell 3 rfl;have MV:Hid (uZ x.members s=uZ (x.members.drop 0) s):=by rw[Hid,List.drop_zero]
 clear hn hl rS hx hS hH rC sP rZ;go_enter Tryz.func35,Tryz.ntmps35
 go_wp2_with fail
 clear c3;go_loopw [11] (fun v11 wr=>∃ j:Nat,v11=.int .i64 (j:Int)∧Hid (j≤ml)∧Hid (uZ x.members s=uZ (x.members.drop j) s)∧Blk wr (w.heap.size+1) 57 qa∧Below w.heap.size w wr) (fun v11 _=>(ml:Int).toNat+1-(intOf v11).toNat)
 case atStart=>exact⟨0,rfl,Nat.zero_le _,MV,hT,zP⟩
 case round =>
 clear MV hT zP;obtain⟨j,rfl,HJ,MW,hT,hb⟩:=hrel
 by_cases yy:(j:Int)<(ml:Int)
 ·have u9:j<x.members.length:=by rw[← HN.out.2.2];omega
  obtain⟨gb,go,me,rL⟩:=HX.out.members.at_ (by omega);obtain⟨d,hd,hc⟩:=rL j u9;obtain⟨ma,hd,oN⟩:=hd;subst hd;have QO:=Hh (MW.out.trans (fu u9 s))
  generalize x.members[j]=m at *
  have wM:=HH.out.below hb (Nat.le_refl _);have r0:=wM.cell (hc 0 _ rfl);have r1:=wM.cell (hc 1 _ rfl);have r2:=wM.cell (hc 2 _ rfl);have r3:=wM.cell (hc 3 _ rfl);have r4:=wM.cell (hc 4 _ rfl);have r5:=wM.cell (hc 5 _ rfl);have r6:=wM.cell (hc 6 _ rfl)
  simp only[ru,Nat.add_zero,Nat.zero_add,← Nat.add_assoc]at r0 r1 r2 r3 r4 r5 r6
  have fH:=Hh oN;have iN:=oN.small;have hP:=Blk.new wr 57 (xQ m ma);have sM:=hT.alloc (.cells (xQ m ma) 57);have yz:=hb.alloc hb.size (.cells (xQ m ma) 57);have iq:=wM.alloc (.cells (xQ m ma) 57);obtain⟨P,oS⟩:∃ P,wr.heap.size=P:=⟨_,rfl⟩
  obtain⟨w2,qK⟩:∃ w2,wr.alloc (.cells (xQ m ma) 57)=w2:=⟨_,rfl⟩
  rw[oS,qK]at hP;rw[qK]at sM yz iq;have lQ:=Hh (And.intro oS qK);have fE:(j:Int)+1≤9223372036854775807:=by have:=HX.out.small.2.2;omega
  have tR:=Hh u9;clear oS qK rL hc oN hT hb u9 wM;rw[me];go_upto_region 4 with fail
  try rw[lQ.out.1]
  try rw[lQ.out.2]
  clear r0 r1 r2 r3 r4 r5 r6;have p1:=hP.cell 1 rfl;have k1:=rz (Src.of_row fH.out.sender.row iq) m.sender.length ma.sc rfl;have k2:=rz (HS.out.below yz) n c HN.out.1;clear iN me
  by_cases xq:m.sender=s
  ·have HE:Hid (uZ x.members s=some m):=by rw[Hid,QO.out,if_pos xq]
   have b1:(m.sender=s)=True:=eq_true xq;have b2:((m.sender:List UInt8)==s)=true:=by simpa using xq
   have p0:=hP.cell 0 rfl;have p2:=hP.cell 2 rfl;have p3:=hP.cell 3 rfl;have p4:=hP.cell 4 rfl;have p5:=hP.cell 5 rfl;have p6:=hP.cell 6 rfl;clear xq;have MM:=Hh (fX fH.out w2 iq);go_wp2_with fail
   refine MM.out.mono ?_
   rintro e w3 ⟨a3,H3,rfl,xf,ZX⟩
   have un:=sM.below xf.below;have vg:=yz.trans (xf.below.mono yz.size);have VF:H3 (w.heap.size+1)=none:=xf.none (HH.out.none_of_ge (by omega)) sM.lt;have uv:=(Grows.of_below HH.out yz).trans xf;have CY:=Hh ZX;clear sM yz xf ZX MM p0 p1 p2 p3 p4 p5 p6 hP iq k1 k2;go_wp2_with (with_reducible refine zx ?_)
   refine zu rfl _ _ _ rfl rfl _ _ rfl rfl _ _ un tV rfl (oD _ _ _ _ _ _ _ rfl rfl rfl rfl rfl rfl rfl) fun w9 wL hg9=>?_
   have tZ:=uv.grownOwn VF (by omega) hg9;clear un vg hg9 VF uv;go_wp2_with fail
   refine zw rfl rfl wL rfl rfl tV rfl ?_
   rw[HE.out]
   exact⟨a3,H3,rfl,tZ,CY.out⟩
  have b1:(m.sender=s)=False:=eq_false xq;have b2:((m.sender:List UInt8)==s)=false:=by simpa using xq
  clear hP iq;go_wp2_with fail
  go_roundw
  case rel=>exact⟨j+1,by go_num,by rw[Hid,HN.out.2.2];exact tR.out,by rw[Hid,QO.out,if_neg xq],sM,yz⟩
  case measure=>simp[intOf];omega
 have Dw:j=ml:=by have:=HJ.out;omega
 have HE:Hid (uZ x.members s=none):=by rw[Hid,MW.out,List.drop_eq_nil_of_le (by rw[← HN.out.2.2];omega)];rfl
 go_wp2_with (with_reducible refine zx ?_)
 refine zu rfl _ _ _ rfl rfl _ _ rfl rfl _ _ hT tV rfl (oD _ _ _ _ _ _ _ rfl rfl rfl rfl rfl rfl rfl) fun w9 wL hg9=>?_
 have uN:=hb.grown hg9 hb.size (by rintro q ⟨⟩;omega);have tZ:=Grows.of_below HH.out uN;clear hT hb hg9 uN;go_wp2_with fail
 refine zw rfl rfl wL rfl rfl tV rfl ?_
 rw[HE.out]
 exact⟨⟨none,0,none,0,none,0,none,0⟩,H,rfl,tZ,U9 H⟩
theorem Yd {H:Snap}{x:Ep}{a:EAd}(hx:EpA H x a) {A:Option Addr}{c:Nat}{s:List UInt8}{n:Nat}(hn:n=s.length) (hl:s.length≤1099511) (w:World) (hH:Holds w H) (hS:Src w A (s.map zg)) :
  Calls Tryz.prog 41 #[.agg (epQ x a),.slice A n c] w (iO w H (uZ x.members s)):=by
 obtain⟨ml,rS⟩:∃ n,n=x.members.length:=⟨_,rfl⟩
 have HN:=Hh (And.intro hn (And.intro hl rS));have HX:=Hh hx;have HS:=Hh hS;have HH:=Hh hH;obtain⟨il,rC⟩:∃ n,x.id.length=n:=⟨_,rfl⟩
 obtain⟨sl,sP⟩:∃ n,x.secret.length=n:=⟨_,rfl⟩
 show Calls Tryz.prog 41 #[.agg (epC x.number a.ia x.id.length a.ic a.sa x.secret.length a.sc a.ma x.members.length a.mc),.slice A n c] w (iO w H (uZ x.members s))
 rw[← rS,rC,sP];have rZ:=(Blk.new w 33 (epC x.number a.ia il a.ic a.sa sl a.sc a.ma ml a.mc)).alloc (.cells qa 57);have hT:=Blk.new (w.alloc (.cells (epC x.number a.ia il a.ic a.sa sl a.sc a.ma ml a.mc) 33)) 57 qa;rw[zW]at hT;have zP:=((zl w (.cells (epC x.number a.ia il a.ic a.sa sl a.sc a.ma ml a.mc) 33)).alloc (zl w (.cells (epC x.number a.ia il a.ic a.sa sl a.sc a.ma ml a.mc) 33)).size (.cells qa 57))
 have c3:=rZ.cell 3 rfl;have MV:Hid (uZ x.members s=uZ (x.members.drop 0) s):=by rw[Hid,List.drop_zero]
 clear hn hl rS hx hS hH rC sP rZ;go_enter Tryz.func41,Tryz.ntmps41
 go_wp2_with fail
 clear c3;go_loopw [11] (fun v11 wr=>∃ j:Nat,v11=.int .i64 (j:Int)∧Hid (j≤ml)∧Hid (uZ x.members s=uZ (x.members.drop j) s)∧Blk wr (w.heap.size+1) 57 qa∧Below w.heap.size w wr) (fun v11 _=>(ml:Int).toNat+1-(intOf v11).toNat)
 case atStart=>exact⟨0,rfl,Nat.zero_le _,MV,hT,zP⟩
 case round =>
 clear MV hT zP;obtain⟨j,rfl,HJ,MW,hT,hb⟩:=hrel
 by_cases yy:(j:Int)<(ml:Int)
 ·have u9:j<x.members.length:=by rw[← HN.out.2.2];omega
  obtain⟨gb,go,me,rL⟩:=HX.out.members.at_ (by omega);obtain⟨d,hd,hc⟩:=rL j u9;obtain⟨ma,hd,oN⟩:=hd;subst hd;have QO:=Hh (MW.out.trans (fu u9 s))
  generalize x.members[j]=m at *
  have wM:=HH.out.below hb (Nat.le_refl _);have r0:=wM.cell (hc 0 _ rfl);have r1:=wM.cell (hc 1 _ rfl);have r2:=wM.cell (hc 2 _ rfl);have r3:=wM.cell (hc 3 _ rfl);have r4:=wM.cell (hc 4 _ rfl);have r5:=wM.cell (hc 5 _ rfl);have r6:=wM.cell (hc 6 _ rfl)
  simp only[ru,Nat.add_zero,Nat.zero_add,← Nat.add_assoc]at r0 r1 r2 r3 r4 r5 r6
  have fH:=Hh oN;have iN:=oN.small;have hP:=Blk.new wr 57 (xQ m ma);have sM:=hT.alloc (.cells (xQ m ma) 57);have yz:=hb.alloc hb.size (.cells (xQ m ma) 57);have iq:=wM.alloc (.cells (xQ m ma) 57);obtain⟨P,oS⟩:∃ P,wr.heap.size=P:=⟨_,rfl⟩
  obtain⟨w2,qK⟩:∃ w2,wr.alloc (.cells (xQ m ma) 57)=w2:=⟨_,rfl⟩
  rw[oS,qK]at hP;rw[qK]at sM yz iq;have lQ:=Hh (And.intro oS qK);have fE:(j:Int)+1≤9223372036854775807:=by have:=HX.out.small.2.2;omega
  have tR:=Hh u9;clear oS qK rL hc oN hT hb u9 wM;rw[me];go_upto_region 4 with fail
  try rw[lQ.out.1]
  try rw[lQ.out.2]
  clear r0 r1 r2 r3 r4 r5 r6;have p1:=hP.cell 1 rfl;have EQ:=Hh (nK w2 ma.sa A m.sender s m.sender.length n ma.sc c rfl HN.out.1 (by omega) (by have:=HN.out.2.1;have:=HN.out.1;omega) (Src.of_row fH.out.sender.row iq) (HS.out.below yz));clear iN me;go_wp2_with fail
  refine EQ.out.mono ?_
  rintro e w3 ⟨rfl,vg⟩
  replace sM:=sM.below vg;replace hP:=hP.below vg;replace yz:=yz.trans (vg.mono yz.size);clear EQ p1 vg iq
  by_cases xq:m.sender=s
  ·rw[decide_eq_true xq];have HE:Hid (uZ x.members s=some m):=by rw[Hid,QO.out,if_pos xq]
   have p0:=hP.cell 0 rfl;have p1:=hP.cell 1 rfl;have p2:=hP.cell 2 rfl;have p3:=hP.cell 3 rfl;have p4:=hP.cell 4 rfl;have p5:=hP.cell 5 rfl;have p6:=hP.cell 6 rfl;clear xq;go_wp2_with (with_reducible refine zx ?_)
   refine zu rfl _ _ _ rfl rfl _ _ rfl rfl _ _ sM tV rfl (oD _ _ _ _ _ _ _ rfl rfl rfl rfl rfl rfl rfl) fun w9 wL hg9=>?_
   have uN:=yz.grown hg9 yz.size (by rintro q ⟨⟩;omega);have tZ:=Grows.of_below HH.out uN;clear sM yz hg9 uN hP p0 p1 p2 p3 p4 p5 p6;go_wp2_with fail
   refine zw rfl rfl wL rfl rfl tV rfl ?_
   rw[HE.out]
   exact⟨ma,H,rfl,tZ,fH.out⟩
  rw[decide_eq_false xq];have mq:=xq;clear hP;go_wp2_with fail
  go_roundw
  case rel=>exact⟨j+1,by go_num,by rw[Hid,HN.out.2.2];exact tR.out,by rw[Hid,QO.out,if_neg xq],sM,yz⟩
  case measure=>simp[intOf];omega
 have Dw:j=ml:=by have:=HJ.out;omega
 have HE:Hid (uZ x.members s=none):=by rw[Hid,MW.out,List.drop_eq_nil_of_le (by rw[← HN.out.2.2];omega)];rfl
 go_wp2_with (with_reducible refine zx ?_)
 refine zu rfl _ _ _ rfl rfl _ _ rfl rfl _ _ hT tV rfl (oD _ _ _ _ _ _ _ rfl rfl rfl rfl rfl rfl rfl) fun w9 wL hg9=>?_
 have uN:=hb.grown hg9 hb.size (by rintro q ⟨⟩;omega);have tZ:=Grows.of_below HH.out uN;clear hT hb hg9 uN;go_wp2_with fail
 refine zw rfl rfl wL rfl rfl tV rfl ?_
 rw[HE.out]
 exact⟨⟨none,0,none,0,none,0,none,0⟩,H,rfl,tZ,U9 H⟩
end Go.Proofs.YtjpcnhncoidliaaGreatDoor
