/- squeezed. Walks: the references' List, Copy  -/
import Derived.Test.YtnfoilblmhbobaaGreatDoorK21
import Derived.BigQuiet
import Derived.OwnWalk
set_option linter.unusedVariables false
set_option linter.unusedSimpArgs false
set_option maxRecDepth 100000
set_option maxHeartbeats 6400000
namespace Go.Proofs.YtnfoilblmhbobaaGreatDoor
open Go.RowKit
structure IsRowI (H:Snap) (A:Option Addr) (c:Nat) (l:List Itm):Prop where
 le:l.length≤c
 max:c≤9223372036854775807
 elems:0<l.length→∃ b off,A=some ⟨b,off,none⟩∧IsElems H b off l
theorem IsRowI.item {H:Snap}{A:Option Addr}{c:Nat}{l:List Itm}(h:IsRowI H A c l) (k:Int) (hk:0≤k∧k≤8) (n:Nat) (hn:n<18446744073709551616):IsItem H none 0 A c (.mk k n [] l):=by
 rw[IsItem]
 exact⟨⟨by omega,by omega,hn,h.le,h.max⟩,IsBytes.nil _,h.elems⟩
section
variable {w w':World} {base:Nat} {H:Snap} {l:List Itm}
end
theorem nS {A:Option Addr}{m c q:Nat}(h:A.map (·.block)=some q):(Value.slice A m c).ownBlock=some q:=by cases A <;> simp_all [Value.ownBlock]
theorem oS {H H':Snap}{A:Option Addr}(hf:∀ b o,H' b=some o→H b=some o∨A.map (·.block)=some b) {q:Nat}(h0:H q=none) (hA:A.map (·.block)=some q→False):H' q=none:=by
 cases h:H' q with
 | none=>rfl
 | some o =>
 rcases hf q o h with h1 | h1
 ·rw[h0]at h1;cases h1
 exact(hA h1).elim
theorem qF {wr:World}{Hr:Snap}(hH:Holds wr Hr) {r0 r:Option Nat}(h0:∀ q,r0=some q→Hr q=none) (h:At0 wr r0 r):∀ q,r=some q→Hr q=none:=fun q hq=>by
 rcases h with h | ⟨g,h1,h2⟩
 ·exact h0 q (by rw[← h,hq])
 rw[hq]at h1;injection h1 with h1;subst h1;exact hH.none_of_ge h2
def dbl (n:Nat):Nat:=if n=0 then 0 else(1023+n.log2)*4503599627370496+(n*2 ^ (52-n.log2)-4503599627370496)
theorem si:∀ n:Fin 1024,floatOfInt .f64 ((n.val:Nat):Int)=dbl n.val:=by decide +kernel
theorem bE:∀ n:Fin 1024,floatBits .add .f64 (dbl n.val) (dbl 1024)=some (dbl (n.val+1024)):=by decide +kernel
theorem g9 {s e m:Nat}(hs:s≤1) (he:1≤e) (VX:e≤2046) (hm:m<4503599627370496) :
  floatBits .mul .f64 4607182418800017408 (s*9223372036854775808+e*4503599627370496+m)=some (s*9223372036854775808+e*4503599627370496+m):=by
 have e1:Ieee.double.signWeight=9223372036854775808:=rfl;have e2:Ieee.double.binade=4503599627370496:=rfl;have e3:Ieee.double.infRung=9218868437227405312:=rfl;have e4:Ieee.double.leastPlace = -1074:=rfl;have e5:Ieee.double.fractionBits=52:=rfl;have r1:Ieee.double.read 4607182418800017408=.number false 4503599627370496 (-52):=by decide +kernel
 obtain⟨x,hx⟩:∃ x,s*9223372036854775808+e*4503599627370496+m=x:=⟨_,rfl⟩
 have r2:Ieee.double.read x=.number (s%2==1) (4503599627370496+m) (-1074+((e-1:Nat):Int)):=by
  unfold Ieee.Format.read
  rw[e1,e2,e3,e4];have a1:x/9223372036854775808=s:=by omega
  have a2:x%9223372036854775808=e*4503599627370496+m:=by omega
  simp only[a1,a2]
  rw[if_neg (by omega),if_pos (by omega)];congr 1
  ·omega
  have:(e*4503599627370496+m)/4503599627370496=e:=by omega
  rw[this]
 rw[hx];show((Ieee.double.read 4607182418800017408).product (Ieee.double.read x)).map Ieee.double.write=some x
 rw[r1,r2]
 simp only[Ieee.Datum.product,Option.map_some,Ieee.Format.write,Bool.false_bne]
 congr 1
 obtain⟨M,hM⟩:∃ M,4503599627370496+m=M:=⟨_,rfl⟩
 have SR:4503599627370496≤M:=by omega
 have SS:M<9007199254740992:=by omega
 have hl:(4503599627370496*M).log2=104:=by
  refine qh ?_ ?_
  ·have:(2:Nat) ^ 104=4503599627370496*4503599627370496:=by decide
   rw[this];exact Nat.mul_le_mul_left _ SR
  have:(2:Nat) ^ (104+1)=4503599627370496*9007199254740992:=by decide
  rw[this];exact Nat.mul_lt_mul_of_pos_left SS (by omega)
 rw[hM]
 unfold Ieee.Format.nearest
 rw[if_neg (by intro h;rcases Nat.mul_eq_zero.1 h with h | h <;> omega),e2,e3,e4,e5,hl];have p1:max (-52+(-1074+((e-1:Nat):Int))+((104:Nat):Int)-((52:Nat):Int)) (-1074) = -1074+((e-1:Nat):Int):=by omega
 rw[p1];have p2:(-52+(-1074+((e-1:Nat):Int))-(-1074+((e-1:Nat):Int))).toNat=0:=by omega
 have p3:(-1074+((e-1:Nat):Int)-(-52+(-1074+((e-1:Nat):Int)))).toNat=52:=by omega
 have p4:(-1074+((e-1:Nat):Int) - -1074).toNat=e-1:=by omega
 simp only[p2,p3,p4,Nat.shiftLeft_zero]
 have hq:4503599627370496*M=M*2 ^ 52:=by rw[Nat.mul_comm]
 rw[hq,tW _ M 52 (by rw[← hq,hl];omega)];clear p1 p2 p3 p4 hl hq r1 r2 e1 e2 e3 e4 e5;obtain⟨r,hr⟩:∃ r,min ((e-1)*4503599627370496+M) 9218868437227405312=r:=⟨_,rfl⟩
 have iC:r=(e-1)*4503599627370496+M:=by
  rw[← hr]
  exact Nat.min_eq_left (by omega)
 obtain⟨k,rfl⟩:∃ k,e=k+1:=⟨e-1,by omega⟩
 rw[hr,nU s r hs,iC,← hx,← hM,Nat.add_sub_cancel,Nat.succ_mul]
 simp only[Nat.add_assoc]
theorem gK {e m:Nat}(he:1≤e) (VX:e≤2046) (hm:m<4503599627370496):Ieee.double.read (e*4503599627370496+m)=.number false (4503599627370496+m) (-1074+((e-1:Nat):Int)):=by
 have e1:Ieee.double.signWeight=9223372036854775808:=rfl;have e2:Ieee.double.binade=4503599627370496:=rfl;have e3:Ieee.double.infRung=9218868437227405312:=rfl;have e4:Ieee.double.leastPlace = -1074:=rfl;obtain⟨x,hx⟩:∃ x,e*4503599627370496+m=x:=⟨_,rfl⟩
 have a1:x/9223372036854775808=0:=by omega
 have a2:x%9223372036854775808=x:=by omega
 rw[hx]
 unfold Ieee.Format.read
 rw[e1,e2,e3,e4]
 simp only[a1,a2]
 rw[if_neg (by omega),if_pos (by omega)];have a3:x/4503599627370496=e:=by omega
 have a4:x%4503599627370496=m:=by omega
 rw[a3,a4];rfl
theorem eA {a b:Int}(h:b<a):compare a b=.gt:=by
 show compareOfLessAndEq a b=_
 rw[compareOfLessAndEq,if_neg (by omega),if_neg (by omega)]
theorem Yv {a b:Int}(h:a<b):compare a b=.lt:=by
 show compareOfLessAndEq a b=_
 rw[compareOfLessAndEq,if_pos h]
theorem qi {e m:Nat}(he:2≤e) (VX:e≤2045) (hm:m<4503599627370496) {D:Nat}(hD:D=e*4503599627370496+m) :
  FloatKind.f64.format.order D 0=some .gt∧FloatKind.f64.format.order D 9218868437227405311=some .lt∧FloatKind.f64.format.order D 4503599627370496=some .gt∧FloatKind.f64.format.order D D=some .eq:=by
 have r:=gK (show 1≤e by omega) (show e≤2046 by omega) hm;rw[← hD]at r;have z:Ieee.double.read 0=.number false 0 (-1074):=by decide +kernel
 have mx:Ieee.double.read 9218868437227405311=.number false 9007199254740991 971:=by decide +kernel
 have mn:Ieee.double.read 4503599627370496=.number false 4503599627370496 (-1074):=by decide +kernel
 obtain⟨k,hk⟩:∃ k,e-1=k:=⟨_,rfl⟩
 rw[hk]at r;have aw:∀ a b:Nat,a≤a <<< b:=fun a b=>by rw[Nat.shiftLeft_eq];exact Nat.le_mul_of_pos_right _ (Nat.two_pow_pos b)
 have XN:∀ a b:Nat,1≤b→a*2≤a <<< b:=fun a b hb=>by
  rw[Nat.shiftLeft_eq]
  refine Nat.mul_le_mul_left _ ?_
  calc 2=2 ^ 1:=rfl
   _≤2 ^ b:=Nat.pow_le_pow_right (by omega) hb
 refine⟨?_, ?_, ?_, ?_⟩
 ·show(Ieee.double.read D).order (Ieee.double.read 0)=_
  rw[r,z]
  simp only[Ieee.Datum.order,Ieee.signed]
  rw[eA];have:=aw (4503599627370496+m) (-1074+(k:Int)-min (-1074+(k:Int)) (-1074)).toNat
  simp only[Bool.false_eq_true,if_false,Nat.zero_shiftLeft]
  omega
 ·show(Ieee.double.read D).order (Ieee.double.read 9218868437227405311)=_
  rw[r,mx]
  simp only[Ieee.Datum.order,Ieee.signed]
  rw[Yv];have h1:min (-1074+(k:Int)) 971 = -1074+(k:Int):=by omega
  rw[h1];have h2:(-1074+(k:Int)-(-1074+(k:Int))).toNat=0:=by omega
  rw[h2];have:=XN 9007199254740991 (971-(-1074+(k:Int))).toNat (by omega)
  simp only[Bool.false_eq_true,if_false,Nat.shiftLeft_zero]
  omega
 ·show(Ieee.double.read D).order (Ieee.double.read 4503599627370496)=_
  rw[r,mn]
  simp only[Ieee.Datum.order,Ieee.signed]
  rw[eA];have h1:min (-1074+(k:Int)) (-1074) = -1074:=by omega
  rw[h1];have h2:(-1074-(-1074:Int)).toNat=0:=by decide
  have:=XN (4503599627370496+m) (-1074+(k:Int) - -1074).toNat (by omega);rw[h2]
  simp only[Bool.false_eq_true,if_false,Nat.shiftLeft_zero]
  omega
 show(Ieee.double.read D).order (Ieee.double.read D)=_
 rw[r]
 simp only[Ieee.Datum.order]
 congr 1
 show compareOfLessAndEq _ _=_
 rw[compareOfLessAndEq,if_neg (by omega),if_pos rfl]
structure Pos (D e m:Nat):Prop where
 eq:D=e*4503599627370496+m
 lo:2≤e
 hi:e≤2045
 m_lt:m<4503599627370496
theorem Pos.lt {D e m:Nat}(h:Pos D e m):D<9223372036854775808:=by have:=h.eq;have:=h.hi;have:=h.m_lt;omega
theorem uL {D:Nat}(h:D<9223372036854775808):bits .andNot .u64 (D:Int) 9223372036854775808=(D:Int):=by
 have:=u64_andNot_nat D 9223372036854775808 (by omega) (by omega);rw[show((9223372036854775808:Nat):Int)=9223372036854775808 from rfl]at this;rw[this,show 18446744073709551615-9223372036854775808=2 ^ 63-1 by decide,Nat.and_two_pow_sub_one_eq_mod,Nat.mod_eq_of_lt (by simpa using h)]
theorem nI {D e m:Nat}(h:Pos D e m):bits .andNot .u64 (D:Int) 9218868437227405312=(m:Int):=by
 have hl:=h.lt;have:=u64_andNot_nat D 9218868437227405312 (by omega) (by omega);rw[show((9218868437227405312:Nat):Int)=9218868437227405312 from rfl]at this;rw[this,show 18446744073709551615-9218868437227405312=2 ^ 63 ||| (2 ^ 52-1) by decide,Nat.and_or_distrib_left,Nat.and_two_pow_sub_one_eq_mod]
 have h0:D &&& 2 ^ 63=0:=by
  apply Nat.eq_of_testBit_eq
  intro i
  rw[Nat.testBit_and,Nat.testBit_two_pow,Nat.zero_testBit]
  by_cases hi:63=i
  ·subst hi;rw[Nat.testBit_lt_two_pow (by simpa using hl)];rfl
  simp[hi]
 have h1:=h.eq;have h2:=h.m_lt;rw[h0,Nat.zero_or]
 simp only[Nat.reducePow]
 omega
theorem dt {q m:Nat}(hq:q≤2046) (hm:m<4503599627370496):bits .or .u64 (m:Int) ((q:Int)*4503599627370496)=((q*4503599627370496+m:Nat):Int):=by
 have h:=Nat.shiftLeft_add_eq_or_of_lt (show m<2 ^ 52 by simpa using hm) q;rw[Nat.shiftLeft_eq]at h;rw[show((q:Int)*4503599627370496)=((q*4503599627370496:Nat):Int) by omega,u64_or_nat _ _ (by omega) (by omega),Nat.or_comm]
 simp only[Nat.reducePow]at h
 rw[← h]
theorem nB {e:Nat}(h:e≤2046):bits .and .i64 (e:Int) 2047=(e:Int):=by
 have qX:∀ X:Fin 2048,bits .and .i64 ((X.val:Nat):Int) 2047=((X.val:Nat):Int):=by decide +kernel
 exact qX ⟨e,by omega⟩
theorem m7 {D:Nat}(h:D<9223372036854775808) (w:World):Calls Tryz.prog 102 #[.float .f64 D] w fun e w'=>e=.returned (.float .f64 D)∧w'=w:=by
 have r1:=zT D;have r2:=yo D;have K:=uL h;clear h;go_enter Tryz.func102,Tryz.ntmps102
 go_wp2_with fail
 go_ret
 exact⟨rfl,rfl⟩
theorem jM {D e m:Nat}(h:Pos D e m) (w:World):Calls Tryz.prog 89 #[.float .f64 D,.int .i64 0] w fun e w'=>e=.returned (.bool false)∧w'=w:=by
 have AB:=Hh (fun w=>m7 h.lt w);have o1:=(qi h.lo h.hi h.m_lt h.eq).2.1;clear h;go_enter Tryz.func89,Tryz.ntmps89
 go_wp2_with fail
 refine(AB.out _).mono ?_
 rintro e w1 ⟨rfl,rfl⟩
 go_wp2_with fail
 go_ret
 exact⟨by first | rfl | simp[o1],rfl⟩
theorem jN {D e m:Nat}(h:Pos D e m) (w:World):Calls Tryz.prog 90 #[.float .f64 D] w fun e w'=>e=.returned (.bool false)∧w'=w:=by
 have o1:=(qi h.lo h.hi h.m_lt h.eq).2.2.2;clear h;go_enter Tryz.func90,Tryz.ntmps90
 go_wp2_with fail
 go_ret
 exact⟨by first | rfl | simp[o1],rfl⟩
theorem pU {D e m:Nat}(h:Pos D e m) (w:World):Calls Tryz.prog 91 #[.float .f64 D] w fun e w'=>e=.returned (.tuple #[.float .f64 D,.int .i64 0])∧w'=w:=by
 have AB:=Hh (fun w=>m7 h.lt w);have o1:(FloatKind.f64.format.order D 4503599627370496==some .lt)=false:=by rw[(qi h.lo h.hi h.m_lt h.eq).2.2.1];rfl
 clear h;go_enter Tryz.func91,Tryz.ntmps91
 go_wp2_with fail
 refine(AB.out _).mono ?_
 rintro e w1 ⟨rfl,rfl⟩
 go_wp2_with fail
 go_ret2
 exact⟨rfl,rfl⟩
theorem dQ (w:World):Calls Tryz.prog 68 #[.int .i64 1] w fun e w'=>e=.returned (.float .f64 9218868437227405312)∧w'=w:=by
 have r2:∀ w,(callFunc 71 #[.int .u64 9218868437227405312]).run Tryz.prog w=.ok (.value (.float .f64 9218868437227405312)) w:=yo 9218868437227405312;go_enter Tryz.func68,Tryz.ntmps68
 go_wp2_with fail
 go_ret
 exact⟨rfl,rfl⟩
theorem jO {D e m:Nat}(h:Pos D e m) (k:Int) (q:Nat) (hk : -1000≤k∧k≤1000) (hq:(e:Int)+k=(q:Int)) (YF:2≤q∧q≤2045) (w:World) :
  Calls Tryz.prog 83 #[.float .f64 D,.int .i64 k] w fun e w'=>e=.returned (.float .f64 (q*4503599627370496+m))∧w'=w:=by
 obtain⟨o1,_,_,_⟩:=qi h.lo h.hi h.m_lt h.eq;have o0:(FloatKind.f64.format.order D 0==some .eq)=false:=by rw[o1];rfl
 have IN:=Hh (fun w=>jM h w);have NA:=Hh (fun w=>jN h w);have NO:=Hh (fun w=>pU h w);have r1:=zT D;have hD:=h.eq;have hm:=h.m_lt;have dB:=h.lo;have an:=h.hi;have K1:IntKind.i64.wrap (k+0)=k:=by rw[Int.add_zero];exact IntWalk.i64_in _ (by omega)
 have K2:(D:Int)/4503599627370496=(e:Int):=by omega
 have K3:IntKind.i64.wrap (e:Int)=(e:Int):=IntWalk.i64_in _ (by omega);have K4:=nB (show e≤2046 by omega);have K5:IntKind.i64.wrap ((e:Int)-1023)=(e:Int)-1023:=IntWalk.i64_in _ (by omega);obtain⟨x,hx⟩:∃ x:Int,k+((e:Int)-1023)=x:=⟨_,rfl⟩
 have K6:IntKind.i64.wrap (k+((e:Int)-1023))=x:=by rw[hx];exact IntWalk.i64_in _ (by omega)
 have K6b:k+((e:Int)-1023)=x:=hx;have z1:¬ (x < -1075):=by omega
 have z2:¬ (1023<x):=by omega
 have z3:¬ (x < -1022):=by omega
 have K7:=nI h;have K8:IntKind.i64.wrap (x+1023)=(q:Int):=by rw[show x+1023=(q:Int) by omega];exact IntWalk.i64_in _ (by omega)
 have K8b:x+1023=(q:Int):=by omega
 have K9:IntKind.u64.wrap (q:Int)=(q:Int):=by rw[IntKind.wrap_u64];omega
 have K10:IntKind.u64.wrap ((q:Int)*4503599627370496)=(q:Int)*4503599627370496:=by rw[IntKind.wrap_u64];omega
 have K11:=dt (show q≤2046 by omega) hm;obtain⟨R,hR⟩:∃ R,q*4503599627370496+m=R:=⟨_,rfl⟩
 have XI:floatBits .mul .f64 4607182418800017408 R=some R:=by
  have:=g9 (s:=0) (e:=q) (m:=m) (by omega) (by omega) (by omega) hm;rw[Nat.zero_mul,Nat.zero_add,hR]at this
  exact this
 have r3:=yo R;rw[hR]at K11;rw[hR];have r4:∀ w,(binOp .mul 109 (.float .f64 4607182418800017408) (.float .f64 R)).run Tryz.prog w=.ok (.float .f64 R) w:=fun w=>run_float_arith w .mul _ .f64 _ _ R XI
 obtain⟨kX,ap⟩:=hk;have VW:(2:Int)≤(e:Int):=by omega
 have VX:(e:Int)≤2045:=by omega
 have sW : -1021≤x:=by omega
 have o2:x≤1022:=by omega
 have j5:(2:Int)≤(q:Int):=by omega
 have RF:(q:Int)≤2045:=by omega
 clear h hD hm dB an hq YF hx XI hR o1;go_enter Tryz.func83,Tryz.ntmps83
 go_wp2_with fail
 refine(IN.out _).mono ?_
 rintro e w1 ⟨rfl,rfl⟩
 go_wp2_with fail
 refine(NA.out _).mono ?_
 rintro e w1 ⟨rfl,rfl⟩
 go_wp2_with fail
 refine(NO.out _).mono ?_
 rintro e w1 ⟨rfl,rfl⟩
 go_wp2_with fail
 go_ret
 exact⟨rfl,rfl⟩
theorem pn {D e m:Nat}(h:Pos D e m) (k:Int) (q:Nat) (hk : -1000≤k∧k≤1000) (hq:(e:Int)+k=(q:Int)) (YF:2≤q∧q≤2045) (w:World) :
  Calls Tryz.prog 69 #[.float .f64 D,.int .i64 k] w fun e w'=>e=.returned (.float .f64 (q*4503599627370496+m))∧w'=w:=by
 have L:=Hh (fun w=>jO h k q hk hq YF w);clear h hk hq YF;go_enter Tryz.func69,Tryz.ntmps69
 go_wp2_with fail
 refine(L.out _).mono ?_
 rintro e w1 ⟨rfl,rfl⟩
 go_wp2_with fail
 go_ret
 exact⟨rfl,rfl⟩
theorem lK (k:Int) (w:World):Calls Tryz.prog 83 #[.float .f64 0,.int .i64 k] w fun e w'=>e=.returned (.float .f64 0)∧w'=w:=by
 have o0:(FloatKind.f64.format.order 0 0==some .eq)=true:=by decide +kernel
 go_enter Tryz.func83,Tryz.ntmps83
 go_wp2_with fail
 go_ret
 exact⟨rfl,rfl⟩
theorem lJ (k:Int) (w:World):Calls Tryz.prog 69 #[.float .f64 0,.int .i64 k] w fun e w'=>e=.returned (.float .f64 0)∧w'=w:=by
 have L:=Hh (fun w=>lK k w);go_enter Tryz.func69,Tryz.ntmps69
 go_wp2_with fail
 refine(L.out _).mono ?_
 rintro e w1 ⟨rfl,rfl⟩
 go_wp2_with fail
 go_ret
 exact⟨rfl,rfl⟩
theorem lj {D:Nat}(h:D<9223372036854775808):bits .or .u64 (D:Int) 9223372036854775808=((9223372036854775808+D:Nat):Int):=by
 have h1:=Nat.shiftLeft_add_eq_or_of_lt (show D<2 ^ 63 by simpa using h) 1;rw[Nat.shiftLeft_eq]at h1;have:=u64_or_nat D 9223372036854775808 (by omega) (by omega);rw[show((9223372036854775808:Nat):Int)=9223372036854775808 from rfl]at this;rw[this,Nat.or_comm]
 simp only[Nat.reducePow,Nat.one_mul]at h1
 rw[← h1]
theorem wW {D:Nat}(h:D<9223372036854775808) (w:World):Calls Tryz.prog 70 #[.float .f64 D,.float .f64 13830554455654793216] w fun e w'=>e=.returned (.float .f64 (9223372036854775808+D))∧w'=w:=by
 have r1:=zT D;have r2:∀ w,(callFunc 61 #[.float .f64 13830554455654793216]).run Tryz.prog w=.ok (.value (.int .u64 13830554455654793216)) w:=zT 13830554455654793216;have K1:=uL h;have K2:bits .and .u64 13830554455654793216 9223372036854775808=9223372036854775808:=by decide +kernel
 have K3:=lj h;obtain⟨R,hR⟩:∃ R,9223372036854775808+D=R:=⟨_,rfl⟩
 rw[hR]at K3;rw[hR];have r3:=yo R;clear h hR;go_enter Tryz.func70,Tryz.ntmps70
 go_wp2_with fail
 go_ret
 exact⟨rfl,rfl⟩
def yl (v:Nat):Nat:=if v/1024%32=31∧v%1024≠0 then zG else xY v
theorem iV {v k:Nat}(hv:v<65536) (hk:k≤16):bits .and .u16 (v:Int) ((2 ^ k-1:Nat):Int)=((v%2 ^ k:Nat):Int):=by
 have:2 ^ k≤2 ^ 16:=Nat.pow_le_pow_right (by omega) hk;rw[u16_and_nat v (2 ^ k-1) (by omega) (by omega),Nat.and_two_pow_sub_one_eq_mod]
theorem iJ {n t:Nat}(h0:n≠0) (ht:n.log2=t) (hn:n<2048):Pos (dbl n) (1023+t) (n*2 ^ (52-t)-4503599627370496):=by
 subst ht;have a1:2 ^ n.log2≤n:=Nat.log2_self_le h0;have a2:n<2 ^ (n.log2+1):=Nat.lt_log2_self;have a3:n.log2<11:=(Nat.log2_lt h0).2 (by simpa using hn);have b:=tv a1 a2 (by omega)
 exact⟨by rw[dbl,if_neg h0],by omega,by omega,by omega⟩
theorem Yx (f:Nat):(f+1024)*4398046511104-4503599627370496=f*4398046511104:=by omega
def dz (w:World) (v:Nat) (e:Ending) (w':World):Prop:=e=.returned (.int .u64 (yl v:Int))∧w'=w
theorem jC (v:Nat) (hv:v<65536) (w:World):Calls Tryz.prog 60 #[.int .u16 (v:Int)] w (dz w v):=by
 have A1:bits .and .u16 (v:Int) 1023=((v%1024:Nat):Int):=iV (k:=10) hv (by omega);obtain⟨u,hu⟩:∃ u,v/1024=u:=⟨_,rfl⟩
 have A2:bits .and .u16 (u:Int) 31=((u%32:Nat):Int):=iV (k:=5) (by omega) (by omega);have UE:u%32=v/1024%32:=by rw[hu]
 rw[UE]at A2;obtain⟨s,hs⟩:∃ s,v/32768=s:=⟨_,rfl⟩
 obtain⟨x,hx⟩:∃ x,v/1024%32=x:=⟨_,rfl⟩
 obtain⟨f,hf⟩:∃ f,v%1024=f:=⟨_,rfl⟩
 have xX:s≤1:=by omega
 have sW:x≤31:=by omega
 have uh:f<1024:=by omega
 have W:=Hh (show yl v=(if x=31∧f≠0 then zG else if x=31 then s*9223372036854775808+9218868437227405312+f*4398046511104
  else if x=0 then(if f=0 then s*9223372036854775808 else s*9223372036854775808+(999+f.log2)*4503599627370496+(f*2 ^ (52-f.log2)-4503599627370496))
  else s*9223372036854775808+(x+1008)*4503599627370496+f*4398046511104) by rw[yl,xY,hs,hx,hf])
 rw[hf]at A1;rw[hx]at A2;have S1:(v:Int)/32768=(s:Int):=by omega
 have S2:(v:Int)/1024=(u:Int):=by omega
 have FI:floatOfInt .f64 (f:Int)=dbl f:=si ⟨f,uh⟩;have HX:=Hh (And.intro xX (And.intro sW uh));have Rb:(v:Int)/32768=(s:Int):=S1;have RG:(s:Int)≤1:=by omega
 clear hs hx hf hv hu UE
 by_cases YR:x=31
 ·subst YR
  by_cases hf0:f=0
  ·subst hf0;have FI0:floatOfInt .f64 0=0:=si 0;have WQ:Hid (yl v=s*9223372036854775808+9218868437227405312):=by rw[Hid,W.out,if_neg (by simp),if_pos rfl];try omega
   have IF:=Hh (fun w=>dQ w);clear FI W;go_enter Tryz.func60,Tryz.ntmps60
   go_wp2_with fail
   refine(IF.out _).mono ?_
   rintro e w1 ⟨rfl,rfl⟩
   obtain⟨D,hD⟩:∃ D,9218868437227405312=D:=⟨_,rfl⟩
   rw[hD]at WQ;rw[hD];have HD:=Hh hD;clear hD;have RSB:=Hh (zT D)
   rcases(by have:=HX.out.1;omega:s=0∨s=1) with rfl | rfl
   ·have r9:=zT D;have WW:Hid (yl v=D):=by rw[Hid,WQ.out];try omega
    go_wp2_with fail
    go_ret
    exact⟨by rw[WW.out];try rfl,rfl⟩
   have CS:=Hh (fun w=>wW (D:=D) (by rw[← HD.out];omega) w);obtain⟨R,hR⟩:∃ R,9223372036854775808+D=R:=⟨_,rfl⟩
   rw[hR]at CS;have WW:Hid (yl v=R):=by rw[Hid,← hR,WQ.out];try omega
   have r9:=zT R;clear hR;go_wp2_with fail
   refine(CS.out _).mono ?_
   rintro e w1 ⟨rfl,rfl⟩
   go_wp2_with fail
   go_ret
   exact⟨by rw[WW.out];try rfl,rfl⟩
  have f0:((f:Int) != 0)=true:=by simp;omega
  have f0':((f:Int)=0)=False:=eq_false (by omega);have WW:Hid (yl v=zG):=by rw[Hid,W.out,if_pos ⟨rfl,hf0⟩]
  clear W hf0;go_enter Tryz.func60,Tryz.ntmps60
  go_wp2_with fail
  go_ret
  exact⟨by rw[WW.out];try rfl,rfl⟩
 have x31:((x:Int)==31)=false:=by simp;omega
 have x31':((x:Int)=31)=False:=eq_false (by omega)
 by_cases h0:x=0
 ·subst h0
  by_cases hf0:f=0
  ·subst hf0;have FI0:floatOfInt .f64 0=0:=si 0;have WQ:Hid (yl v=s*9223372036854775808+0):=by rw[Hid,Nat.add_zero,W.out,if_neg (by omega),if_neg (by omega),if_pos rfl,if_pos rfl]
   have LD:=Hh (fun w=>lJ (-24) w);clear FI W YR;go_enter Tryz.func60,Tryz.ntmps60
   go_wp2_with fail
   refine(LD.out _).mono ?_
   rintro e w1 ⟨rfl,rfl⟩
   obtain⟨D,hD⟩:∃ D:Nat,0=D:=⟨_,rfl⟩
   rw[hD]at WQ;have HD:=Hh hD;rw[show(Value.float FloatKind.f64 0)=Value.float FloatKind.f64 D by rw[hD]];clear hD;have RSB:=Hh (zT D)
   rcases(by have:=HX.out.1;omega:s=0∨s=1) with rfl | rfl
   ·have r9:=zT D;have WW:Hid (yl v=D):=by rw[Hid,WQ.out];try omega
    go_wp2_with fail
    go_ret
    exact⟨by rw[WW.out];try rfl,rfl⟩
   have CS:=Hh (fun w=>wW (D:=D) (by rw[← HD.out];omega) w);obtain⟨R,hR⟩:∃ R,9223372036854775808+D=R:=⟨_,rfl⟩
   rw[hR]at CS;have WW:Hid (yl v=R):=by rw[Hid,← hR,WQ.out];try omega
   have r9:=zT R;clear hR;go_wp2_with fail
   refine(CS.out _).mono ?_
   rintro e w1 ⟨rfl,rfl⟩
   go_wp2_with fail
   go_ret
   exact⟨by rw[WW.out];try rfl,rfl⟩
  obtain⟨t,ht⟩:∃ t,f.log2=t:=⟨_,rfl⟩
  have hP:=iJ hf0 ht (by omega);have YI:t<10:=by rw[← ht];exact(Nat.log2_lt hf0).2 (by simpa using uh)
  have LD:=Hh (fun w=>pn hP (-24) (999+t) (by omega) (by omega) (by omega) w);obtain⟨D,hD⟩:∃ D,(999+t)*4503599627370496+(f*2 ^ (52-t)-4503599627370496)=D:=⟨_,rfl⟩
  have ah:D<9223372036854775808:=by have:=hP.m_lt;omega
  have WQ:Hid (yl v=s*9223372036854775808+D):=by rw[Hid,W.out,if_neg (by omega),if_neg (by omega),if_pos rfl,if_neg hf0,ht,← hD,Nat.add_assoc]
  rw[hD]at LD;obtain⟨Q,hQ⟩:∃ Q,dbl f=Q:=⟨_,rfl⟩
  rw[hQ]at FI LD;have HD:=Hh ah;clear W YR hf0 hP hD ah hQ ht YI;go_enter Tryz.func60,Tryz.ntmps60
  go_wp2_with fail
  refine(LD.out _).mono ?_
  rintro e w1 ⟨rfl,rfl⟩
  have RSB:=Hh (zT D)
  rcases(by have:=HX.out.1;omega:s=0∨s=1) with rfl | rfl
  ·have r9:=zT D;have WW:Hid (yl v=D):=by rw[Hid,WQ.out];try omega
   go_wp2_with fail
   go_ret
   exact⟨by rw[WW.out];try rfl,rfl⟩
  have CS:=Hh (fun w=>wW (D:=D) (by exact HD.out) w);obtain⟨R,hR⟩:∃ R,9223372036854775808+D=R:=⟨_,rfl⟩
  rw[hR]at CS;have WW:Hid (yl v=R):=by rw[Hid,← hR,WQ.out];try omega
  have r9:=zT R;clear hR;go_wp2_with fail
  refine(CS.out _).mono ?_
  rintro e w1 ⟨rfl,rfl⟩
  go_wp2_with fail
  go_ret
  exact⟨by rw[WW.out];try rfl,rfl⟩
 have x0:((x:Int)==0)=false:=by simp;omega
 have x0':((x:Int)=0)=False:=eq_false (by omega);have hP:=iJ (n:=f+1024) (t:=10) (by omega) (by rw[Nat.log2_eq_iff (by omega)];constructor <;> omega) (by omega);rw[show(52:Nat)-10=42 from rfl,show(2:Nat) ^ 42=4398046511104 by decide,Yx]at hP;have LD:=Hh (fun w=>pn hP ((x:Int)-25) (x+1008) (by omega) (by omega) (by omega) w)
 have AD:∀ w,(binOp .add 109 (.float .f64 (dbl f)) (.float .f64 4652218415073722368)).run Tryz.prog w=.ok (.float .f64 (dbl (f+1024))) w:=fun w=>run_float_arith w .add _ .f64 _ _ _ (by
  have:=bE ⟨f,uh⟩;rw[show dbl 1024=4652218415073722368 by decide +kernel]at this
  exact this)
 have KS:IntKind.i64.wrap ((x:Int)-25)=(x:Int)-25:=IntWalk.i64_in _ (by omega);obtain⟨D,hD⟩:∃ D,(x+1008)*4503599627370496+f*4398046511104=D:=⟨_,rfl⟩
 have ah:D<9223372036854775808:=by have:=hP.m_lt;omega
 have WQ:Hid (yl v=s*9223372036854775808+D):=by
  rw[Hid,W.out,if_neg (by omega),if_neg (by omega),if_neg h0,← hD];rw[Nat.add_assoc]
 rw[hD]at LD;obtain⟨Q,hQ⟩:∃ Q,dbl f=Q:=⟨_,rfl⟩
 obtain⟨Q2,Tu⟩:∃ Q2,dbl (f+1024)=Q2:=⟨_,rfl⟩
 rw[hQ]at FI AD;rw[Tu]at AD LD;have HD:=Hh ah;have km:(x:Int)≤31:=by omega
 clear W YR h0 hP hD ah hQ Tu;go_enter Tryz.func60,Tryz.ntmps60
 go_wp2_with fail
 refine(LD.out _).mono ?_
 rintro e w1 ⟨rfl,rfl⟩
 have RSB:=Hh (zT D)
 rcases(by have:=HX.out.1;omega:s=0∨s=1) with rfl | rfl
 ·have r9:=zT D;have WW:Hid (yl v=D):=by rw[Hid,WQ.out];try omega
  go_wp2_with fail
  go_ret
  exact⟨by rw[WW.out];try rfl,rfl⟩
 have CS:=Hh (fun w=>wW (D:=D) (by exact HD.out) w);obtain⟨R,hR⟩:∃ R,9223372036854775808+D=R:=⟨_,rfl⟩
 rw[hR]at CS;have WW:Hid (yl v=R):=by rw[Hid,← hR,WQ.out];try omega
 have r9:=zT R;clear hR;go_wp2_with fail
 refine(CS.out _).mono ?_
 rintro e w1 ⟨rfl,rfl⟩
 go_wp2_with fail
 go_ret
 exact⟨by rw[WW.out];try rfl,rfl⟩
abbrev uf (A:Option Addr) (n c p cnt:Nat):Array Value:=#[.slice A n c,.int .i64 (p:Int),.int .i64 (cnt:Int)]
structure Psr (T:TypeId) (w:World) (g:Nat) (H:Snap) (A:Option Addr) (c:Nat) (l:List UInt8) (p cnt:Nat):Prop where
 blk:Blk w g T (uf A l.length c p cnt)
 bytes:IsBytes H A c l
 holds:Holds w H
 apart:H g=none
 le:p≤l.length
 small:l.length≤4096
 cnt_le:cnt≤256
theorem xf {w0 w:World}{r:Option Nat}(h:w0.grownBy w r):∀ q,w0.grownBy (w.drewN q) r
 | 0=>h
 | q+1=>wi (xf h q)
def bC (T:TypeId) (w:World) (g:Nat) (A:Option Addr) (c:Nat) (l:List UInt8) (p cnt z:Nat) (e:Ending) (w':World):Prop :=
 (l.length<p+z∧e=.returned (.tuple #[.int .u64 0,.bool false])∧Blk w' g T (uf A l.length c p cnt)∧w.grownBy w' (some g))∨
 (p+z≤l.length∧e=.returned (.tuple #[.int .u64 (beN ((l.drop p).take z):Int),.bool true])∧Blk w' g T (uf A l.length c (p+z) cnt)∧w.grownBy w' (some g))
theorem bL (x c:Nat) (hc:c<256):x*256 ||| c=x*256+c:=by
 have h:=Nat.shiftLeft_add_eq_or_of_lt (show c<2 ^ 8 by omega) x;rw[Nat.shiftLeft_eq]at h
 exact h.symm
theorem li (x c:Nat) (hx:x*256<18446744073709551616) (hc:c<256):bits .or .u64 ((x:Int)*256) (c:Int)=((x*256+c:Nat):Int):=by
 rw[show((x:Int)*256)=((x*256:Nat):Int) by omega,u64_or_nat _ _ hx (by omega),bL x c hc]
theorem dI (l:List UInt8) (k:Nat) (hk:k<l.length):beN (l.take (k+1))=beN (l.take k)*256+l[k].toNat:=by
 rw[List.take_succ_eq_append_getElem hk,dH]
theorem l9 (l:List UInt8) (k:Nat) (hk:k<8):beN (l.take k)*256<18446744073709551616:=by
 have h:=uV (l.take k);have h2:(l.take k).length≤7:=by rw[List.length_take];omega
 have h3:(256:Nat) ^ (l.take k).length≤256 ^ 7:=Nat.pow_le_pow_right (by omega) h2;have h4:(256:Nat) ^ 7=72057594037927936:=by decide
 omega
theorem yq:(Tryz.prog.info? 3).map (·.size)=some 1:=by kernel_rfl
theorem sF {w:World}{g:Nat}{H:Snap}{A:Option Addr}{c:Nat}{l:List UInt8}{p cnt:Nat}(hP:Psr 86 w g H A c l p cnt) (z:Nat) (tB:1≤z) (hz8:z≤8) :
  Calls Tryz.prog 57 #[.pointer (some ⟨g,0,none⟩),.int .i64 (z:Int)] w (bC 86 w g A c l p cnt z):=by
 have hB:=hP.blk;have c0:=hB.cell 0 rfl;have c1:=hB.cell 1 rfl;have HP:=Hh hP;have pN:=hP.le;have ki:=hP.small;have pL:=hP.bytes.le;have oo:=hP.bytes.max;have HZ:=Hh (And.intro tB hz8);have RL:(z:Int)≤8:=by omega
 have YE:(p:Int)≤(l.length:Int):=by omega
 have Vh:(l.length:Int)≤4096:=by omega
 have K0:IntKind.i64.wrap ((l.length:Int)-(p:Int))=(l.length:Int)-(p:Int):=IntWalk.i64_in _ (by omega)
 by_cases z6:l.length<p+z
 ·have z0:(l.length:Int)-(p:Int)<(z:Int):=by omega
  have HL:=Hh z6;clear tB hz8 pN ki pL oo hP z6;go_enter Tryz.func57,Tryz.ntmps57
  go_wp2_with fail
  go_big_quiet (fail)
  go_wp2_with fail
  go_ret2
  exact .inl ⟨HL.out,rfl,hB,xf (yg w _) _⟩
 have z0:¬ ((l.length:Int)-(p:Int)<(z:Int)):=by omega
 have z0b:decide ((l.length:Int)-(p:Int)<(z:Int))=false:=decide_eq_false z0;have K1:IntKind.i64.wrap ((p:Int)+(z:Int))=(p:Int)+(z:Int):=IntWalk.i64_in _ (by omega);have ej:(p:Int)≤(p:Int)+(z:Int):=by omega
 have uz:(p:Int)+(z:Int)≤(c:Int):=by omega
 have RV:(p:Int)≤(c:Int):=by omega
 have kv:(0:Int)≤(p:Int):=by omega
 have ak:(c=p)=False:=eq_false (by omega);obtain⟨b,off,rfl,yS⟩:=hP.bytes.at_ (by omega);have HC:=Hh yS;have HH:=Hh hP.holds;have HL:=Hh (Nat.not_lt.1 z6);clear tB hz8 pN ki pL oo hP yS z6;go_enter Tryz.func57,Tryz.ntmps57
 go_wp2_with fail
 go_big_quiet (fail)
 obtain⟨w1,vT⟩:∃ W,w.drewN nq=W:=⟨_,rfl⟩
 have bx:Blk w1 g 86 (uf (some ⟨b,off,none⟩) l.length c p cnt):=vT ▸ hB;have wu:w.grownBy w1 (some g):=vT ▸ xf (yg w _) _;have YX:Holds w1 H:=vT ▸ HH.out;rw[vT];clear vT c0 c1;have c0:=bx.cell 0 rfl;have c1:=bx.cell 1 rfl;go_wp2_with fail
 go_big_quiet (fail)
 go_wp2_with fail
 obtain⟨W,hW⟩:∃ W,w1.drewN nq=W:=⟨_,rfl⟩
 have V7:Blk W g 86 (uf (some ⟨b,off,none⟩) l.length c p cnt):=hW ▸ bx;have Tj:w.grownBy W (some g):=hW ▸ xf wu _;have SN:Holds W H:=hW ▸ YX;rw[hW];clear hW c0 c1 hB bx wu YX;have E:Hid ((l.drop p).length=l.length-p):=List.length_drop;go_loopw [6,8,37] (fun v6 v8 v37 wr=>wr=W∧∃ k:Nat,k≤z∧v37=.int .i64 (k:Int)∧v6=.int .u64 (beN ((l.drop p).take k):Int)) (fun _ _ v37 _=>z-(intOf v37).toNat)
 case atStart=>exact⟨rfl,0,Nat.zero_le _,rfl,rfl⟩
 case round =>
 obtain⟨rfl,k,hk,rfl,rfl⟩:=hrel
 by_cases hkz:k<z
 ·have ku:p+k<l.length:=by have:=HL.out;omega
  have RU:(k:Int)<(z:Int):=by omega
  have We:k<(l.drop p).length:=by have:=E.out;omega
  have q0:=SN.cell (HC.out (p+k) ku);rw[← Nat.add_assoc]at q0;have ex:(l.drop p)[k]=l[p+k]:=by rw[List.getElem_drop]
  have hX:=l9 (l.drop p) k (by have:=HZ.out;omega);have hS:=dI (l.drop p) k We;rw[ex]at hS;obtain⟨X,fX⟩:∃ X,beN ((l.drop p).take k)=X:=⟨_,rfl⟩
  obtain⟨ch,d8⟩:∃ ch,l[p+k]=ch:=⟨_,rfl⟩
  rw[fX]at hX hS⊢;rw[d8]at hS q0;have lc:=ch.toNat_lt;have K2:IntKind.u64.wrap ((X:Int)*256)=(X:Int)*256:=by rw[IntKind.wrap_u64];omega
  have K3:bits .or .u64 ((X:Int)*256) (ch.toNat:Int)=((X*256+ch.toNat:Nat):Int):=li X _ hX lc;have HS:=Hh hS;have kX:(k:Int)+1≤9223372036854775807:=by have:=HZ.out;omega
  clear hX hS fX d8 ex We;go_wp2_with fail
  go_roundw
  case rel=>exact⟨by trivial,k+1,by omega,by go_num,by rw[HS.out,Int.natCast_add,Int.natCast_mul];rfl⟩
  case measure=>simp[intOf];omega
 have cQ:k=z:=by omega
 subst cQ;have sZ:¬ ((k:Int)<(k:Int)):=by omega
 have c1:=V7.cell 1 rfl;obtain⟨X,fX⟩:∃ X,beN ((l.drop p).take k)=X:=⟨_,rfl⟩
 rw[fX];have HX:=Hh fX;clear fX;go_wp2_with (with_reducible refine zx ?_)
 refine zv rfl _ _ _ rfl rfl g 1 (.int .i64 ((p:Int)+(k:Int))) rfl rfl _ _ V7 yq (by simp) rfl fun w2 xO yw=>?_
 have yt:=z8 Tj yw (.inl rfl)
 have wP:Blk w2 g 86 (uf (some ⟨b,off,none⟩) l.length c (p+k) cnt):=by
  have e:((p+k:Nat):Int)=(p:Int)+(k:Int):=by omega
  rw[uf,e]
  exact xO
 clear xO yw V7 Tj c1;go_wp2_with fail
 go_ret2
 exact .inr ⟨HL.out,by rw[HX.out];rfl,wP,yt⟩
def HeadSaid (T:TypeId) (w:World) (g:Nat) (A:Option Addr) (c:Nat) (l:List UInt8) (p cnt:Nat) (e:Ending) (w':World):Prop :=
 match zR (l.drop p) with
 | .error q=>e=.returned (.tuple #[.int .u8 0,.int .u64 0,.int .i64 (q:Int)])∧(∃ p',p'≤l.length∧Blk w' g T (uf A l.length c p' cnt))∧w.grownBy w' (some g)
 | .ok (f,n,k)=>e=.returned (.tuple #[.int .u8 (f:Int),.int .u64 (n:Int),.int .i64 0])∧Blk w' g T (uf A l.length c (p+k) cnt)∧w.grownBy w' (some g)
theorem HeadSaid.err {T:TypeId}{w w':World}{g:Nat}{A:Option Addr}{c:Nat}{l:List UInt8}{p cnt:Nat}{e:Ending}{q:Nat}(h:zR (l.drop p)=.error q) (he:e=.returned (.tuple #[.int .u8 0,.int .u64 0,.int .i64 (q:Int)]))
  (p':Nat) (hp:p'≤l.length) (hb:Blk w' g T (uf A l.length c p' cnt)) (hg:w.grownBy w' (some g)):HeadSaid T w g A c l p cnt e w':=by
 rw[HeadSaid,h];exact⟨he,⟨p',hp,hb⟩,hg⟩
theorem HeadSaid.ok {T:TypeId}{w w':World}{g:Nat}{A:Option Addr}{c:Nat}{l:List UInt8}{p cnt:Nat}{e:Ending}{f n k:Nat}(h:zR (l.drop p)=.ok (f,n,k)) (he:e=.returned (.tuple #[.int .u8 (f:Int),.int .u64 (n:Int),.int .i64 0]))
  (hb:Blk w' g T (uf A l.length c (p+k) cnt)) (hg:w.grownBy w' (some g)):HeadSaid T w g A c l p cnt e w':=by
 rw[HeadSaid,h];exact⟨he,hb,hg⟩
theorem aX:∀ X:Fin 256,bits .and .u8 ((X.val:Nat):Int) 31=((X.val%32:Nat):Int):=by decide
theorem fp {l:List UInt8}{p:Nat}(hp:p<l.length):l.drop p=l[p]::l.drop (p+1):=List.drop_eq_getElem_cons hp
theorem ux {w:World}{g:Nat}{H:Snap}{A:Option Addr}{c:Nat}{l:List UInt8}{p cnt:Nat}(hP:Psr 86 w g H A c l p cnt) :
  Calls Tryz.prog 47 #[.pointer (some ⟨g,0,none⟩)] w (HeadSaid 86 w g A c l p cnt):=by
 have hB:=hP.blk;have c0:=hB.cell 0 rfl;have c1:=hB.cell 1 rfl;have pN:=hP.le;have ki:=hP.small;have pL:=hP.bytes.le;have oo:=hP.bytes.max;have HP:=Hh hP
 by_cases z6:p=l.length
 ·have E:Hid (zR (l.drop p)=.error 2):=by rw[Hid,z6,List.drop_length];rfl
  have z0:((p:Int)==(l.length:Int))=true:=by simp[z6]
  have HL:=Hh pN;clear pN ki pL oo hP z6;go_enter Tryz.func47,Tryz.ntmps47
  go_wp2_with fail
  go_big_quiet (fail)
  go_wp2_with fail
  go_ret3
  exact HeadSaid.err E.out rfl p HL.out hB (xf (yg w _) _)
 have z0:((p:Int)==(l.length:Int))=false:=by simp;omega
 have sd:p<l.length:=by omega
 have YE:(p:Int)<(l.length:Int):=by omega
 have kv:(0:Int)≤(p:Int):=by omega
 have cV:(p:Int)+1≤9223372036854775807:=by omega
 obtain⟨b,off,rfl,yS⟩:=hP.bytes.at_ (by omega);have HC:=Hh yS;have HH:=Hh hP.holds;have q0:=hP.holds.cell (yS p sd);have ED:=Hh (fp sd);obtain⟨ch,d8⟩:∃ ch,l[p]=ch:=⟨_,rfl⟩
 rw[d8]at q0 ED;have lc:=ch.toNat_lt;have KA:=aX ⟨ch.toNat,lc⟩
 simp only at KA
 obtain⟨low,wL⟩:∃ low,ch.toNat%32=low:=⟨_,rfl⟩
 rw[wL]at KA;have RM:=Hh wL;have be:low<32:=by omega
 have HL:=Hh (And.intro sd (And.intro ki (And.intro pL oo)))
 have EH:Hid (zR (l.drop p)=if 27<low then .error 3 else if low<24 then .ok (ch.toNat,low,1) else if(l.drop (p+1)).length<2 ^ (low-24) then .error 2
   else if ch.toNat/32<7∧(zW 0 (beN ((l.drop (p+1)).take (2 ^ (low-24))))).length≠1+2 ^ (low-24) then .error 4
   else .ok (ch.toNat,beN ((l.drop (p+1)).take (2 ^ (low-24))),1+2 ^ (low-24))):=by rw[Hid,ED.out,zR,wL]
 clear pN ki pL oo hP z6 yS d8 wL sd ED lc;go_enter Tryz.func47,Tryz.ntmps47
 go_wp2_with fail
 go_big_quiet (fail)
 obtain⟨w1,vT⟩:∃ W,w.drewN nq=W:=⟨_,rfl⟩
 have bx:Blk w1 g 86 (uf (some ⟨b,off,none⟩) l.length c p cnt):=vT ▸ hB;have wu:w.grownBy w1 (some g):=vT ▸ xf (yg w _) _;have YX:Holds w1 H:=vT ▸ HH.out;have q1:w1.cell? ⟨b,off+p,none⟩=some (zm ch):=vT ▸ q0;rw[vT];clear vT c0 c1 q0 hB;have c0:=bx.cell 0 rfl;have c1:=bx.cell 1 rfl;go_upto_region 3 with fail
 go_big_quiet (fail)
 obtain⟨w2,tR⟩:∃ W,w1.drewN nq=W:=⟨_,rfl⟩
 have xO:Blk w2 g 86 (uf (some ⟨b,off,none⟩) l.length c p cnt):=tR ▸ bx;have yw:w.grownBy w2 (some g):=tR ▸ xf wu _;have Xq:Holds w2 H:=tR ▸ YX;rw[tR];clear tR c0 c1 bx wu YX q1;have c1:=xO.cell 1 rfl
 by_cases h27:27<low
 ·have z27:(27:Int)<(low:Int):=by omega
  have E:Hid (zR (l.drop p)=.error 3):=by rw[Hid,EH.out,if_pos h27]
  go_wp2_with fail
  go_ret3
  exact HeadSaid.err E.out rfl p (Nat.le_of_lt HL.out.1) xO yw
 have z27:¬ ((27:Int)<(low:Int)):=by omega
 have E1:Hid (zR (l.drop p)=if low<24 then .ok (ch.toNat,low,1) else if(l.drop (p+1)).length<2 ^ (low-24) then .error 2
   else if ch.toNat/32<7∧(zW 0 (beN ((l.drop (p+1)).take (2 ^ (low-24))))).length≠1+2 ^ (low-24) then .error 4
   else .ok (ch.toNat,beN ((l.drop (p+1)).take (2 ^ (low-24))),1+2 ^ (low-24))):=by rw[Hid,EH.out,if_neg h27]
 clear EH;have K1:IntKind.i64.wrap ((p:Int)+1)=(p:Int)+1:=IntWalk.i64_in _ (by omega);go_wp2_with (with_reducible refine zx ?_)
 refine zv rfl _ _ _ rfl rfl g 1 (.int .i64 ((p:Int)+1)) rfl rfl _ _ xO yq (by simp) rfl fun w3 wP hG3'=>?_
 have yt:=z8 yw hG3' (.inl rfl);have wP:Blk w3 g 86 (uf (some ⟨b,off,none⟩) l.length c (p+1) cnt):=wP;have SK:Holds w3 H:=Xq.grown hG3' (by rintro q ⟨⟩;exact HP.out.apart);clear xO yw hG3' c1 Xq K1
 by_cases qy:low<24
 ·have z24:(low:Int)<24:=by omega
  have E:Hid (zR (l.drop p)=.ok (ch.toNat,low,1)):=by rw[Hid,E1.out,if_pos qy]
  have KU:IntKind.u64.wrap (low:Int)=(low:Int):=by rw[IntKind.wrap_u64];omega
  go_wp2_with fail
  go_ret3
  exact HeadSaid.ok E.out rfl wP yt
 have z24:¬ ((low:Int)<24):=by omega
 have E2:Hid (zR (l.drop p)=if(l.drop (p+1)).length<2 ^ (low-24) then .error 2
   else if ch.toNat/32<7∧(zW 0 (beN ((l.drop (p+1)).take (2 ^ (low-24))))).length≠1+2 ^ (low-24) then .error 4
   else .ok (ch.toNat,beN ((l.drop (p+1)).take (2 ^ (low-24))),1+2 ^ (low-24))):=by rw[Hid,E1.out,if_neg qy]
 clear E1;have kU:Psr 86 w3 g H (some ⟨b,off,none⟩) c l (p+1) cnt:=⟨wP,HP.out.bytes,SK,HP.out.apart,HL.out.1,HP.out.small,HP.out.cnt_le⟩
 rcases(by omega:low=24∨low=25∨low=26∨low=27) with rfl | rfl | rfl | rfl
 ·have NM:=Hh (sF kU 1 (by omega) (by omega))
  simp only[Nat.reduceSub,Nat.reducePow,Nat.reduceAdd]at E2
  clear h27 qy z27 z24 be kU;go_wp2_with fail
  refine NM.out.mono ?_
  rintro e w4 (⟨hs,rfl,sY,xm⟩ | ⟨hs,rfl,sY,xm⟩)
  ·have E:Hid (zR (l.drop p)=.error 2):=by rw[Hid,E2.out,if_pos (by rw[List.length_drop];have:=HL.out.1;omega)]
   have xv:=z8 yt xm (.inl rfl);clear NM hs;go_wp2_with fail
   go_ret3
   exact HeadSaid.err E.out rfl (p+1) HL.out.1 sY xv
  have E3:Hid (zR (l.drop p)=if ch.toNat/32<7∧(zW 0 (beN ((l.drop (p+1)).take 1))).length≠2 then .error 4 else .ok (ch.toNat,beN ((l.drop (p+1)).take 1),2)):=by
   rw[Hid,E2.out,if_neg (by rw[List.length_drop];have:=HL.out.1;omega)]
  have xv:=z8 yt xm (.inl rfl);have nx:=uV ((l.drop (p+1)).take 1);have sZ:((l.drop (p+1)).take 1).length=1:=by rw[List.length_take,List.length_drop];omega
  rw[sZ]at nx
  simp only[Nat.reducePow]at nx
  obtain⟨n,hn⟩:∃ n,beN ((l.drop (p+1)).take 1)=n:=⟨_,rfl⟩
  rw[hn]at E3 nx⊢;have HD:=Hh (fun w=>tV 0 (n:Int) w (by omega) (by omega) (by omega) (by omega));have HS:=Hh hs;have kT:Blk w4 g 86 (uf (some ⟨b,off,none⟩) l.length c (p+2) cnt):=sY;clear NM hs E2 hn sZ nx sY xm
  by_cases h7:ch.toNat/32<7
  ·have z7:(ch.toNat:Int)/32<7:=by omega
   have E4:Hid (zR (l.drop p)=if(zW 0 n).length≠2 then .error 4 else .ok (ch.toNat,n,2)):=by
    rw[Hid,E3.out]
    by_cases h:(zW 0 n).length=2 <;> simp[h,h7]
   clear E3 h7;go_wp2_with fail
   refine(HD.out _).mono ?_
   rintro e w5 ⟨r,rfl,hf⟩
   have qz:=kT.below hf.2;have yC:=vG xv hf.2;obtain⟨RA,rc,rfl,_⟩:=hf.own.form;obtain⟨hn,kW⟩:∃ hn,(zW (0:Int).toNat (n:Int).toNat).length=hn:=⟨_,rfl⟩
   rw[kW];have E5:Hid (zR (l.drop p)=if hn≠2 then .error 4 else .ok (ch.toNat,n,2)):=by rw[Hid,E4.out,← kW];rfl
   clear hf HD E4 kW kT xv
   by_cases hq:hn=2
   ·subst hq;have E:Hid (zR (l.drop p)=.ok (ch.toNat,n,2)):=by rw[Hid,E5.out,if_neg (by simp)]
    clear E5;go_wp2_with fail
    go_ret3
    exact HeadSaid.ok E.out rfl qz yC
   have zq:((hn:Int)==2)=false:=by simp;omega
   have zq2:((hn:Int)=2)=False:=eq_false (by omega);have E:Hid (zR (l.drop p)=.error 4):=by rw[Hid,E5.out,if_pos hq]
   clear E5 hq z0 cV YE kv KA;go_wp2_with fail
   go_ret3
   exact HeadSaid.err E.out rfl (p+2) (by have:=HS.out;omega) qz yC
  have z7:¬ ((ch.toNat:Int)/32<7):=by omega
  have z7b:decide ((ch.toNat:Int)/32<7)=false:=decide_eq_false z7;have E:Hid (zR (l.drop p)=.ok (ch.toNat,n,2)):=by rw[Hid,E3.out,if_neg (fun h=>h7 h.1)]
  clear E3 h7 HD z7 z0;go_wp2_with fail
  go_ret3
  exact HeadSaid.ok E.out rfl kT xv
 ·have NM:=Hh (sF kU 2 (by omega) (by omega))
  simp only[Nat.reduceSub,Nat.reducePow,Nat.reduceAdd]at E2
  clear h27 qy z27 z24 be kU;go_wp2_with fail
  refine NM.out.mono ?_
  rintro e w4 (⟨hs,rfl,sY,xm⟩ | ⟨hs,rfl,sY,xm⟩)
  ·have E:Hid (zR (l.drop p)=.error 2):=by rw[Hid,E2.out,if_pos (by rw[List.length_drop];have:=HL.out.1;omega)]
   have xv:=z8 yt xm (.inl rfl);clear NM hs;go_wp2_with fail
   go_ret3
   exact HeadSaid.err E.out rfl (p+1) HL.out.1 sY xv
  have E3:Hid (zR (l.drop p)=if ch.toNat/32<7∧(zW 0 (beN ((l.drop (p+1)).take 2))).length≠3 then .error 4 else .ok (ch.toNat,beN ((l.drop (p+1)).take 2),3)):=by
   rw[Hid,E2.out,if_neg (by rw[List.length_drop];have:=HL.out.1;omega)]
  have xv:=z8 yt xm (.inl rfl);have nx:=uV ((l.drop (p+1)).take 2);have sZ:((l.drop (p+1)).take 2).length=2:=by rw[List.length_take,List.length_drop];omega
  rw[sZ]at nx
  simp only[Nat.reducePow]at nx
  obtain⟨n,hn⟩:∃ n,beN ((l.drop (p+1)).take 2)=n:=⟨_,rfl⟩
  rw[hn]at E3 nx⊢;have HD:=Hh (fun w=>tV 0 (n:Int) w (by omega) (by omega) (by omega) (by omega));have HS:=Hh hs;have kT:Blk w4 g 86 (uf (some ⟨b,off,none⟩) l.length c (p+3) cnt):=sY;clear NM hs E2 hn sZ nx sY xm
  by_cases h7:ch.toNat/32<7
  ·have z7:(ch.toNat:Int)/32<7:=by omega
   have E4:Hid (zR (l.drop p)=if(zW 0 n).length≠3 then .error 4 else .ok (ch.toNat,n,3)):=by
    rw[Hid,E3.out]
    by_cases h:(zW 0 n).length=3 <;> simp[h,h7]
   clear E3 h7;go_wp2_with fail
   refine(HD.out _).mono ?_
   rintro e w5 ⟨r,rfl,hf⟩
   have qz:=kT.below hf.2;have yC:=vG xv hf.2;obtain⟨RA,rc,rfl,_⟩:=hf.own.form;obtain⟨hn,kW⟩:∃ hn,(zW (0:Int).toNat (n:Int).toNat).length=hn:=⟨_,rfl⟩
   rw[kW];have E5:Hid (zR (l.drop p)=if hn≠3 then .error 4 else .ok (ch.toNat,n,3)):=by rw[Hid,E4.out,← kW];rfl
   clear hf HD E4 kW kT xv
   by_cases hq:hn=3
   ·subst hq;have E:Hid (zR (l.drop p)=.ok (ch.toNat,n,3)):=by rw[Hid,E5.out,if_neg (by simp)]
    clear E5;go_wp2_with fail
    go_ret3
    exact HeadSaid.ok E.out rfl qz yC
   have zq:((hn:Int)==3)=false:=by simp;omega
   have zq2:((hn:Int)=3)=False:=eq_false (by omega);have E:Hid (zR (l.drop p)=.error 4):=by rw[Hid,E5.out,if_pos hq]
   clear E5 hq z0 cV YE kv KA;go_wp2_with fail
   go_ret3
   exact HeadSaid.err E.out rfl (p+3) (by have:=HS.out;omega) qz yC
  have z7:¬ ((ch.toNat:Int)/32<7):=by omega
  have z7b:decide ((ch.toNat:Int)/32<7)=false:=decide_eq_false z7;have E:Hid (zR (l.drop p)=.ok (ch.toNat,n,3)):=by rw[Hid,E3.out,if_neg (fun h=>h7 h.1)]
  clear E3 h7 HD z7 z0;go_wp2_with fail
  go_ret3
  exact HeadSaid.ok E.out rfl kT xv
 ·have NM:=Hh (sF kU 4 (by omega) (by omega))
  simp only[Nat.reduceSub,Nat.reducePow,Nat.reduceAdd]at E2
  clear h27 qy z27 z24 be kU;go_wp2_with fail
  refine NM.out.mono ?_
  rintro e w4 (⟨hs,rfl,sY,xm⟩ | ⟨hs,rfl,sY,xm⟩)
  ·have E:Hid (zR (l.drop p)=.error 2):=by rw[Hid,E2.out,if_pos (by rw[List.length_drop];have:=HL.out.1;omega)]
   have xv:=z8 yt xm (.inl rfl);clear NM hs;go_wp2_with fail
   go_ret3
   exact HeadSaid.err E.out rfl (p+1) HL.out.1 sY xv
  have E3:Hid (zR (l.drop p)=if ch.toNat/32<7∧(zW 0 (beN ((l.drop (p+1)).take 4))).length≠5 then .error 4 else .ok (ch.toNat,beN ((l.drop (p+1)).take 4),5)):=by
   rw[Hid,E2.out,if_neg (by rw[List.length_drop];have:=HL.out.1;omega)]
  have xv:=z8 yt xm (.inl rfl);have nx:=uV ((l.drop (p+1)).take 4);have sZ:((l.drop (p+1)).take 4).length=4:=by rw[List.length_take,List.length_drop];omega
  rw[sZ]at nx
  simp only[Nat.reducePow]at nx
  obtain⟨n,hn⟩:∃ n,beN ((l.drop (p+1)).take 4)=n:=⟨_,rfl⟩
  rw[hn]at E3 nx⊢;have HD:=Hh (fun w=>tV 0 (n:Int) w (by omega) (by omega) (by omega) (by omega));have HS:=Hh hs;have kT:Blk w4 g 86 (uf (some ⟨b,off,none⟩) l.length c (p+5) cnt):=sY;clear NM hs E2 hn sZ nx sY xm
  by_cases h7:ch.toNat/32<7
  ·have z7:(ch.toNat:Int)/32<7:=by omega
   have E4:Hid (zR (l.drop p)=if(zW 0 n).length≠5 then .error 4 else .ok (ch.toNat,n,5)):=by
    rw[Hid,E3.out]
    by_cases h:(zW 0 n).length=5 <;> simp[h,h7]
   clear E3 h7;go_wp2_with fail
   refine(HD.out _).mono ?_
   rintro e w5 ⟨r,rfl,hf⟩
   have qz:=kT.below hf.2;have yC:=vG xv hf.2;obtain⟨RA,rc,rfl,_⟩:=hf.own.form;obtain⟨hn,kW⟩:∃ hn,(zW (0:Int).toNat (n:Int).toNat).length=hn:=⟨_,rfl⟩
   rw[kW];have E5:Hid (zR (l.drop p)=if hn≠5 then .error 4 else .ok (ch.toNat,n,5)):=by rw[Hid,E4.out,← kW];rfl
   clear hf HD E4 kW kT xv
   by_cases hq:hn=5
   ·subst hq;have E:Hid (zR (l.drop p)=.ok (ch.toNat,n,5)):=by rw[Hid,E5.out,if_neg (by simp)]
    clear E5;go_wp2_with fail
    go_ret3
    exact HeadSaid.ok E.out rfl qz yC
   have zq:((hn:Int)==5)=false:=by simp;omega
   have zq2:((hn:Int)=5)=False:=eq_false (by omega);have E:Hid (zR (l.drop p)=.error 4):=by rw[Hid,E5.out,if_pos hq]
   clear E5 hq z0 cV YE kv KA;go_wp2_with fail
   go_ret3
   exact HeadSaid.err E.out rfl (p+5) (by have:=HS.out;omega) qz yC
  have z7:¬ ((ch.toNat:Int)/32<7):=by omega
  have z7b:decide ((ch.toNat:Int)/32<7)=false:=decide_eq_false z7;have E:Hid (zR (l.drop p)=.ok (ch.toNat,n,5)):=by rw[Hid,E3.out,if_neg (fun h=>h7 h.1)]
  clear E3 h7 HD z7 z0;go_wp2_with fail
  go_ret3
  exact HeadSaid.ok E.out rfl kT xv
 have NM:=Hh (sF kU 8 (by omega) (by omega))
 simp only[Nat.reduceSub,Nat.reducePow,Nat.reduceAdd]at E2
 clear h27 qy z27 z24 be kU;go_wp2_with fail
 refine NM.out.mono ?_
 rintro e w4 (⟨hs,rfl,sY,xm⟩ | ⟨hs,rfl,sY,xm⟩)
 ·have E:Hid (zR (l.drop p)=.error 2):=by rw[Hid,E2.out,if_pos (by rw[List.length_drop];have:=HL.out.1;omega)]
  have xv:=z8 yt xm (.inl rfl);clear NM hs;go_wp2_with fail
  go_ret3
  exact HeadSaid.err E.out rfl (p+1) HL.out.1 sY xv
 have E3:Hid (zR (l.drop p)=if ch.toNat/32<7∧(zW 0 (beN ((l.drop (p+1)).take 8))).length≠9 then .error 4 else .ok (ch.toNat,beN ((l.drop (p+1)).take 8),9)):=by
  rw[Hid,E2.out,if_neg (by rw[List.length_drop];have:=HL.out.1;omega)]
 have xv:=z8 yt xm (.inl rfl);have nx:=uV ((l.drop (p+1)).take 8);have sZ:((l.drop (p+1)).take 8).length=8:=by rw[List.length_take,List.length_drop];omega
 rw[sZ]at nx
 simp only[Nat.reducePow]at nx
 obtain⟨n,hn⟩:∃ n,beN ((l.drop (p+1)).take 8)=n:=⟨_,rfl⟩
 rw[hn]at E3 nx⊢;have HD:=Hh (fun w=>tV 0 (n:Int) w (by omega) (by omega) (by omega) (by omega));have HS:=Hh hs;have kT:Blk w4 g 86 (uf (some ⟨b,off,none⟩) l.length c (p+9) cnt):=sY;clear NM hs E2 hn sZ nx sY xm
 by_cases h7:ch.toNat/32<7
 ·have z7:(ch.toNat:Int)/32<7:=by omega
  have E4:Hid (zR (l.drop p)=if(zW 0 n).length≠9 then .error 4 else .ok (ch.toNat,n,9)):=by
   rw[Hid,E3.out]
   by_cases h:(zW 0 n).length=9 <;> simp[h,h7]
  clear E3 h7;go_wp2_with fail
  refine(HD.out _).mono ?_
  rintro e w5 ⟨r,rfl,hf⟩
  have qz:=kT.below hf.2;have yC:=vG xv hf.2;obtain⟨RA,rc,rfl,_⟩:=hf.own.form;obtain⟨hn,kW⟩:∃ hn,(zW (0:Int).toNat (n:Int).toNat).length=hn:=⟨_,rfl⟩
  rw[kW];have E5:Hid (zR (l.drop p)=if hn≠9 then .error 4 else .ok (ch.toNat,n,9)):=by rw[Hid,E4.out,← kW];rfl
  clear hf HD E4 kW kT xv
  by_cases hq:hn=9
  ·subst hq;have E:Hid (zR (l.drop p)=.ok (ch.toNat,n,9)):=by rw[Hid,E5.out,if_neg (by simp)]
   clear E5;go_wp2_with fail
   go_ret3
   exact HeadSaid.ok E.out rfl qz yC
  have zq:((hn:Int)==9)=false:=by simp;omega
  have zq2:((hn:Int)=9)=False:=eq_false (by omega);have E:Hid (zR (l.drop p)=.error 4):=by rw[Hid,E5.out,if_pos hq]
  clear E5 hq z0 cV YE kv KA;go_wp2_with fail
  go_ret3
  exact HeadSaid.err E.out rfl (p+9) (by have:=HS.out;omega) qz yC
 have z7:¬ ((ch.toNat:Int)/32<7):=by omega
 have z7b:decide ((ch.toNat:Int)/32<7)=false:=decide_eq_false z7;have E:Hid (zR (l.drop p)=.ok (ch.toNat,n,9)):=by rw[Hid,E3.out,if_neg (fun h=>h7 h.1)]
 clear E3 h7 HD z7 z0;go_wp2_with fail
 go_ret3
 exact HeadSaid.ok E.out rfl kT xv
theorem qq (n:Nat) (w:World):(callFunc 62 #[.int .u32 (n:Int)]).run Tryz.prog w=.ok (.value (.float .f32 n)) w:=by
 rw[run_callFunc_extern Tryz.func62 (by kernel_rfl) (by kernel_rfl) (by kernel_rfl) (e:=Extern.MathFloatBits.float32frombits) (by kernel_rfl)];rfl
theorem jh {r:Nat}(hr:r<4294967296) (h:r/8388608%256=255∧r%8388608≠0):(Ieee.single.read r).isNaN=true:=by
 have e1:Ieee.single.signWeight=2147483648:=rfl;have e2:Ieee.single.binade=8388608:=rfl;have e3:Ieee.single.infRung=2139095040:=rfl;obtain⟨h1,h2⟩:=h
 unfold Ieee.Format.read
 rw[e1,e2,e3]
 simp only[show ¬ r%2147483648<8388608 by omega,show ¬ r%2147483648<2139095040 by omega,show ¬ r%2147483648=2139095040 by omega,if_false]
 rfl
theorem jF (r:Nat) (hr:r<4294967296) (w:World):∃ m w',(convert 110 109 (.float .f32 r)).run Tryz.prog w=.ok (.float .f64 m) w'∧(w'=w∨w'=w.drew)∧m<18446744073709551616∧
  ((r/8388608%256=255∧r%8388608≠0)→isNaN m=true)∧(¬ (r/8388608%256=255∧r%8388608≠0)→m=wn r):=by
 have hs:Tryz.prog.underlying 110=some (.float .f32):=Tryz.underlying110;have hd:Tryz.prog.underlying 109=some (.float .f64):=Tryz.underlying109
 by_cases hx:r/8388608%256=255∧r%8388608≠0
 ·have hn:=jh hr hx
  cases hq:FloatKind.decode .f32 r with
  | number a b c =>
   have h':Ieee.single.read r=.number a b c:=hq;rw[h']at hn;cases hn
  | infinity a =>
   have h':Ieee.single.read r=.infinity a:=hq;rw[h']at hn;cases hn
  | nan a b =>
  have en:isNaN ((Question.nanConv .f64 r).cut (w.tape w.drawn (Question.nanConv .f64 r)))=true∧((Question.nanConv .f64 r).cut (w.tape w.drawn (Question.nanConv .f64 r)))<18446744073709551616:=by
   rw[rU];show((_%2*2 ^ 63+0x7ff0000000000000+1+_/2%(2 ^ 52-1))/2 ^ 52%2048=2047∧_)∧_
   generalize w.tape w.drawn (Question.nanConv .f64 r)=t
   show((t%2*2 ^ 63+0x7ff0000000000000+1+t/2%(2 ^ 52-1))/2 ^ 52%2048=2047∧(t%2*2 ^ 63+0x7ff0000000000000+1+t/2%(2 ^ 52-1))%2 ^ 52≠0)∧t%2*2 ^ 63+0x7ff0000000000000+1+t/2%(2 ^ 52-1)<18446744073709551616
   generalize t/2=u
   have:t%2=0∨t%2=1:=by omega
   rcases this with h | h <;> rw[h] <;> simp only[Nat.reducePow,Nat.reduceSub,Nat.reduceMul,Nat.reduceAdd,Nat.zero_add] <;> omega
  refine⟨(Question.nanConv .f64 r).cut (w.tape w.drawn (Question.nanConv .f64 r)),w.drew, ?_,.inr rfl,en.2,fun _=>en.1,fun h=>absurd hx h⟩
  simp[convert,run_underlying hs,run_underlying hd,Conv.floatToFloat,hq,Question.forced]
 obtain⟨YR,z6⟩:=ss hr hx;have hw:=nQ YR;have aP:(Tryz.prog.underlying 110).isSome=true:=by rw[hs];rfl
 exact⟨wn r,w,run_convert_float_float (P:=Tryz.prog) (w:=w) 110 109 .f32 .f64 r _ aP hd hw,.inl rfl,z6,fun h=>absurd h hx,fun _=>rfl⟩
abbrev og:Value:=.agg #[.int .i64 0,.int .u64 0,.slice none 0 0,.slice none 0 0]
def SevenSaid (w:World) (low n:Nat) (e:Ending) (w':World):Prop :=
 Below w.heap.size w w'∧match yh low n with
  | .error q=>e=.returned (.tuple #[og,.int .i64 (q:Int)])
  | .ok x=>e=.returned (.tuple #[qT x none 0 none 0,.int .i64 0])
theorem SevenSaid.err {w w':World}{low n q:Nat}{e:Ending}(h:yh low n=.error q) (he:e=.returned (.tuple #[og,.int .i64 (q:Int)])) (hb:Below w.heap.size w w'):SevenSaid w low n e w':=by
 rw[SevenSaid,h];exact⟨hb,he⟩
theorem SevenSaid.ok {w w':World}{low n:Nat}{x:Itm}{e:Ending}(h:yh low n=.ok x) (he:e=.returned (.tuple #[qT x none 0 none 0,.int .i64 0])) (hb:Below w.heap.size w w'):SevenSaid w low n e w':=by
 rw[SevenSaid,h];exact⟨hb,he⟩
theorem qI (low n:Nat) (h:25≤low):yh low n=if(isNaN (xH low n)&&xH low n != zG)||(zH (xH low n)).length != 1+2 ^ (low-24) then .error 4 else .ok (.mk 8 (xH low n) [] []):=by
 rw[yh,if_neg (by omega),if_neg (by omega)]
theorem gp {v:Nat}(hv:v<65536):yl v<18446744073709551616:=by
 rw[yl]
 split
 ·decide
 rename_i h;exact(sq hv h).2
theorem tD:isNaN zG=true:=by decide +kernel
theorem bR {n:Nat}(hn:n<65536):yh 25 n=if yl n=zG∧n≠32256 then .error 4 else if(zH (yl n)).length≠3 then .error 4 else .ok (.mk 8 (yl n) [] []):=by
 rw[qI 25 n (by omega),show xH 25 n=xY n by rw[xH,if_pos rfl]]
 by_cases hx:n/1024%32=31∧n%1024≠0
 ·obtain⟨q1,q2⟩:=qA hn hx;have hq:yl n=zG:=by rw[yl,if_pos hx]
  rw[hq,q1]
  by_cases h:n=32256
  ·have h5:=q2.2 h;have L:(zH zG).length=3:=by rw[xP tD];rfl
   rw[h5,L]
   simp[h]
  have h5:xY n≠zG:=fun h'=>h (q2.1 h')
  have b5:(xY n != zG)=true:=by rw[bne_iff_ne];exact h5
  rw[b5]
  simp[h]
 obtain⟨q1,q2⟩:=sq hn hx;have q3:=rv q1;have hq:yl n=xY n:=by rw[yl,if_neg hx]
 have ww:xY n≠zG:=fun h=>by rw[h,tD]at q3;cases q3
 rw[hq,q3]
 generalize xY n=D at *
 simp[ww]
theorem bS {n m:Nat}(hn:n<4294967296) (h1:(n/8388608%256=255∧n%8388608≠0)→isNaN m=true) (h2:¬ (n/8388608%256=255∧n%8388608≠0)→m=wn n) :
  yh 26 n=if(zH m).length≠5 then .error 4 else .ok (.mk 8 m [] []):=by
 rw[qI 26 n (by omega),show xH 26 n=wn n by rw[xH,if_neg (by omega),if_pos rfl]]
 by_cases hx:n/8388608%256=255∧n%8388608≠0
 ·have q1:=qB hn hx;have L1:(zH (wn n)).length=3:=by rw[xP q1];rfl
  have L2:(zH m).length=3:=by rw[xP (h1 hx)];rfl
  rw[L1,L2]
  simp
 obtain⟨q1,q2⟩:=ss hn hx;have q3:=rx q1;rw[h2 hx,q3]
 generalize wn n=D at *
 simp
theorem bT {n:Nat}:yh 27 n=if(zH n).length≠9 then .error 4 else .ok (.mk 8 n [] []):=by
 rw[qI 27 n (by omega),show xH 27 n=n by rw[xH,if_neg (by omega),if_neg (by omega)]]
 cases h:isNaN n with
 | true =>
  have L:(zH n).length=3:=by rw[xP h];rfl
  rw[L];simp
 | false=>simp
theorem jB (f n:Nat) (hf:f<256) (wL:f%32≤27) (hn:n<18446744073709551616) (h25:f%32=25→n<65536) (h26:f%32=26→n<4294967296) (w:World) :
  Calls Tryz.prog 50 #[.int .u8 (f:Int),.int .u64 (n:Int)] w (SevenSaid w (f%32) n):=by
 have KA:=aX ⟨f,hf⟩
 simp only at KA
 obtain⟨low,hl⟩:∃ low,f%32=low:=⟨_,rfl⟩
 rw[hl]at KA wL h25 h26⊢;have ol:=Blk.new w 73 #[.int .i64 0,.int .u64 0,.slice none 0 0,.slice none 0 0];have yY:=zb w zX;have HN:=Hh hn;have Rc:=Hh h25;have Rd:=Hh h26;clear hn h25 h26 hl hf
 by_cases qy:low<24
 ·have e1:((low:Int)==24)=false:=by simp;omega
  have e2:((low:Int)==25)=false:=by simp;omega
  have e3:((low:Int)==26)=false:=by simp;omega
  have e4:((low:Int)==27)=false:=by simp;omega
  have p1:((low:Int)=24)=False:=eq_false (by omega);have p2:((low:Int)=25)=False:=eq_false (by omega);have p3:((low:Int)=26)=False:=eq_false (by omega);have p4:((low:Int)=27)=False:=eq_false (by omega);have E:Hid (yh low n=.ok (.mk 7 n [] [])):=by rw[Hid,yh,if_pos qy]
  clear wL qy;go_enter Tryz.func50,Tryz.ntmps50
  go_wp2_with (with_reducible refine zx ?_)
  refine stI ol fun wz hTy hgz=>?_
  have vQ:=zu yY hgz (by rintro q ⟨⟩;exact Nat.le_refl _);go_wp2_with fail
  refine zo rfl rfl hTy rfl rfl zi rfl ?_
  exact SevenSaid.ok E.out rfl vQ
 rcases(by omega:low=24∨low=25∨low=26∨low=27) with rfl | rfl | rfl | rfl
 ·by_cases h32:n<32
  ·have z32:(n:Int)<32:=by omega
   have E:Hid (yh 24 n=.error 4):=by rw[Hid,yh,if_neg (by omega),if_pos rfl,if_pos h32]
   clear h32 wL qy;go_enter Tryz.func50,Tryz.ntmps50
   go_wp2_with (with_reducible refine zx ?_)
   refine stI ol fun wz hTy hgz=>?_
   have vQ:=zu yY hgz (by rintro q ⟨⟩;exact Nat.le_refl _);go_wp2_with fail
   refine zo rfl rfl hTy rfl rfl zi rfl ?_
   exact SevenSaid.err E.out rfl vQ
  have z32:¬ ((n:Int)<32):=by omega
  have E:Hid (yh 24 n=.ok (.mk 7 n [] [])):=by rw[Hid,yh,if_neg (by omega),if_pos rfl,if_neg h32]
  clear h32 wL qy;go_enter Tryz.func50,Tryz.ntmps50
  go_wp2_with (with_reducible refine zx ?_)
  refine stI ol fun wz hTy hgz=>?_
  have vQ:=zu yY hgz (by rintro q ⟨⟩;exact Nat.le_refl _);go_wp2_with fail
  refine zo rfl rfl hTy rfl rfl zi rfl ?_
  exact SevenSaid.ok E.out rfl vQ
 ·have hn:=Rc.out rfl;have K1:IntKind.u16.wrap (n:Int)=(n:Int):=IntWalk.u16_in _ (by omega);have FL:=Hh (fun w=>vV (yl n) (gp hn) w);have E0:=Hh (bR hn);obtain⟨D,hD⟩:∃ D,yl n=D:=⟨_,rfl⟩
  have WD:=Hh (show ∀ w,Calls Tryz.prog 60 #[.int .u16 (n:Int)] w fun e w'=>e=.returned (.int .u64 (D:Int))∧w'=w from fun w=>by
   have h:=jC n hn w
   unfold dz at h
   rw[hD]at h
   exact h)
  rw[hD]at FL E0;clear hn hD wL qy
  by_cases hc:D=zG∧n≠32256
  ·have c1:((D:Int)==9221120237041090560)=true:=by rw[hc.1];rfl
   have c2:((n:Int) != 32256)=true:=by rw[bne_iff_ne];omega
   have c1':((D:Int)=9221120237041090560)=True:=eq_true (by rw[hc.1];rfl);have c2':((n:Int)=32256)=False:=eq_false (by omega);have E:Hid (yh 25 n=.error 4):=by rw[Hid,E0.out,if_pos hc]
   clear hc E0 FL;go_enter Tryz.func50,Tryz.ntmps50
   go_wp2_with fail
   refine(WD.out _).mono ?_
   rintro e w1 ⟨rfl,rfl⟩
   go_wp2_with (with_reducible refine zx ?_)
   refine stI ol fun wz hTy hgz=>?_
   have vQ:=zu yY hgz (by rintro q ⟨⟩;exact Nat.le_refl _);go_wp2_with fail
   refine zo rfl rfl hTy rfl rfl zi rfl ?_
   exact SevenSaid.err E.out rfl vQ
  have E1:Hid (yh 25 n=if(zH D).length≠3 then .error 4 else .ok (.mk 8 D [] [])):=by rw[Hid,E0.out,if_neg hc]
  clear E0
  by_cases hD:D=zG
  ·have Vm:n=32256:=Classical.byContradiction fun h=>hc ⟨hD,h⟩
   have c1:((D:Int)==9221120237041090560)=true:=by rw[hD];rfl
   have c1':((D:Int)=9221120237041090560)=True:=eq_true (by rw[hD];rfl);have c2:((n:Int) != 32256)=false:=by rw[Vm];rfl
   have c2':((n:Int)=32256)=True:=eq_true (by rw[Vm];rfl);clear hc hD Vm;go_enter Tryz.func50,Tryz.ntmps50
   go_wp2_with fail
   refine(WD.out _).mono ?_
   rintro e w1 ⟨rfl,rfl⟩
   go_wp2_with fail
   refine(FL.out _).mono ?_
   rintro e w3 ⟨r,rfl,nw⟩
   obtain⟨RA,rc,rfl,_⟩:=nw.own.form;have wP:=ol.below nw.2;have yV:=yY.trans (nw.2.mono yY.size);obtain⟨fl,iz⟩:∃ fl,(zH D).length=fl:=⟨_,rfl⟩
   rw[iz]at E1⊢;clear nw iz FL
   by_cases hq:fl=3
   ·subst hq;have E:Hid (_=Except.ok (Itm.mk 8 D [] [])):=E1.out.trans (if_neg (by simp));clear E1;go_wp2_with (with_reducible refine zx ?_)
    refine stI wP fun wz hTy hgz=>?_
    have vQ:=zu yV hgz (by rintro q ⟨⟩;exact Nat.le_refl _);go_wp2_with fail
    refine zo rfl rfl hTy rfl rfl zi rfl ?_
    exact SevenSaid.ok E.out rfl vQ
   have zq:((fl:Int)==3)=false:=by simp;omega
   have zq2:((fl:Int)=3)=False:=eq_false (by omega);have E:Hid (_=Except.error 4):=E1.out.trans (if_pos hq);clear E1 hq;go_wp2_with (with_reducible refine zx ?_)
   refine stI wP fun wz hTy hgz=>?_
   have vQ:=zu yV hgz (by rintro q ⟨⟩;exact Nat.le_refl _);go_wp2_with fail
   refine zo rfl rfl hTy rfl rfl zi rfl ?_
   exact SevenSaid.err E.out rfl vQ
  have c1:((D:Int)==9221120237041090560)=false:=by rw[beq_eq_false_iff_ne];intro h;exact hD (by show D=9221120237041090560;omega)
  have c1':((D:Int)=9221120237041090560)=False:=eq_false (by intro h;exact hD (by show D=9221120237041090560;omega));clear hc hD;go_enter Tryz.func50,Tryz.ntmps50
  go_wp2_with fail
  refine(WD.out _).mono ?_
  rintro e w1 ⟨rfl,rfl⟩
  go_wp2_with fail
  refine(FL.out _).mono ?_
  rintro e w3 ⟨r,rfl,nw⟩
  obtain⟨RA,rc,rfl,_⟩:=nw.own.form;have wP:=ol.below nw.2;have yV:=yY.trans (nw.2.mono yY.size);obtain⟨fl,iz⟩:∃ fl,(zH D).length=fl:=⟨_,rfl⟩
  rw[iz]at E1⊢;clear nw iz FL
  by_cases hq:fl=3
  ·subst hq;have E:Hid (_=Except.ok (Itm.mk 8 D [] [])):=E1.out.trans (if_neg (by simp));clear E1;go_wp2_with (with_reducible refine zx ?_)
   refine stI wP fun wz hTy hgz=>?_
   have vQ:=zu yV hgz (by rintro q ⟨⟩;exact Nat.le_refl _);go_wp2_with fail
   refine zo rfl rfl hTy rfl rfl zi rfl ?_
   exact SevenSaid.ok E.out rfl vQ
  have zq:((fl:Int)==3)=false:=by simp;omega
  have zq2:((fl:Int)=3)=False:=eq_false (by omega);have E:Hid (_=Except.error 4):=E1.out.trans (if_pos hq);clear E1 hq;go_wp2_with (with_reducible refine zx ?_)
  refine stI wP fun wz hTy hgz=>?_
  have vQ:=zu yV hgz (by rintro q ⟨⟩;exact Nat.le_refl _);go_wp2_with fail
  refine zo rfl rfl hTy rfl rfl zi rfl ?_
  exact SevenSaid.err E.out rfl vQ
 ·have hn:=Rd.out rfl;have K1:IntKind.u32.wrap (n:Int)=(n:Int):=IntWalk.u32_in _ (by omega);have r1:=qq n;obtain⟨W0,Xy⟩:∃ W0,w.alloc zX=W0:=⟨_,rfl⟩
  obtain⟨D,w2,tg,tR,ah,YU,Ti⟩:=jF n hn W0;have E1:=Hh (bS hn YU Ti);have r2:=zT D;have FL:=Hh (fun w=>vV D ah w)
  have zO:Below w.heap.size w w2:=by
   rw[← Xy]at tR
   rcases tR with rfl | rfl
   ·exact yY
   exact yY.drew
  have xO:Blk w2 w.heap.size 73 #[.int .i64 0,.int .u64 0,.slice none 0 0,.slice none 0 0]:=by
   rw[← Xy]at tR
   rcases tR with rfl | rfl
   ·exact ol
   exact ol.drew
  clear hn YU Ti tR ah wL qy ol yY;go_enter Tryz.func50,Tryz.ntmps50
  go_upto_region 13 with fail
  clear Xy;go_wp2_with fail
  refine(FL.out _).mono ?_
  rintro e w3 ⟨r,rfl,nw⟩
  obtain⟨RA,rc,rfl,_⟩:=nw.own.form;have wP:=xO.below nw.2;have yV:=zO.trans (nw.2.mono zO.size);obtain⟨fl,iz⟩:∃ fl,(zH D).length=fl:=⟨_,rfl⟩
  rw[iz]at E1⊢;clear nw iz FL
  by_cases hq:fl=5
  ·subst hq;have E:Hid (_=Except.ok (Itm.mk 8 D [] [])):=E1.out.trans (if_neg (by simp));clear E1;go_wp2_with (with_reducible refine zx ?_)
   refine stI wP fun wz hTy hgz=>?_
   have vQ:=zu yV hgz (by rintro q ⟨⟩;exact Nat.le_refl _);go_wp2_with fail
   refine zo rfl rfl hTy rfl rfl zi rfl ?_
   exact SevenSaid.ok E.out rfl vQ
  have zq:((fl:Int)==5)=false:=by simp;omega
  have zq2:((fl:Int)=5)=False:=eq_false (by omega);have E:Hid (_=Except.error 4):=E1.out.trans (if_pos hq);clear E1 hq;go_wp2_with (with_reducible refine zx ?_)
  refine stI wP fun wz hTy hgz=>?_
  have vQ:=zu yV hgz (by rintro q ⟨⟩;exact Nat.le_refl _);go_wp2_with fail
  refine zo rfl rfl hTy rfl rfl zi rfl ?_
  exact SevenSaid.err E.out rfl vQ
 have E1:=Hh (bT (n:=n));have FL:=Hh (fun w=>vV n HN.out w);have zO:=yY;have xO:=ol;clear wL qy ol yY;obtain⟨D,hD⟩:∃ D,n=D:=⟨_,rfl⟩
 subst hD;go_enter Tryz.func50,Tryz.ntmps50
 go_wp2_with fail
 refine(FL.out _).mono ?_
 rintro e w3 ⟨r,rfl,nw⟩
 obtain⟨RA,rc,rfl,_⟩:=nw.own.form;have wP:=xO.below nw.2;have yV:=zO.trans (nw.2.mono zO.size);obtain⟨fl,iz⟩:∃ fl,(zH n).length=fl:=⟨_,rfl⟩
 rw[iz]at E1⊢;clear nw iz FL
 by_cases hq:fl=9
 ·subst hq;have E:Hid (_=Except.ok (Itm.mk 8 n [] [])):=E1.out.trans (if_neg (by simp));clear E1;go_wp2_with (with_reducible refine zx ?_)
  refine stI wP fun wz hTy hgz=>?_
  have vQ:=zu yV hgz (by rintro q ⟨⟩;exact Nat.le_refl _);go_wp2_with fail
  refine zo rfl rfl hTy rfl rfl zi rfl ?_
  exact SevenSaid.ok E.out rfl vQ
 have zq:((fl:Int)==9)=false:=by simp;omega
 have zq2:((fl:Int)=9)=False:=eq_false (by omega);have E:Hid (_=Except.error 4):=E1.out.trans (if_pos hq);clear E1 hq;go_wp2_with (with_reducible refine zx ?_)
 refine stI wP fun wz hTy hgz=>?_
 have vQ:=zu yV hgz (by rintro q ⟨⟩;exact Nat.le_refl _);go_wp2_with fail
 refine zo rfl rfl hTy rfl rfl zi rfl ?_
 exact SevenSaid.err E.out rfl vQ
end Go.Proofs.YtnfoilblmhbobaaGreatDoor
