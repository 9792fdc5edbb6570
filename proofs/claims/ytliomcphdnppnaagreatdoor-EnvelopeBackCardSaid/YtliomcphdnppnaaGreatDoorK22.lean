/- squeezed. Walks: the library's Ldexp, Inf, C -/
import Derived.Test.YtliomcphdnppnaaGreatDoorK21
import Derived.BigQuiet
import Derived.OwnWalk
set_option linter.unusedVariables false
set_option linter.unusedSimpArgs false
set_option maxRecDepth 100000
set_option maxHeartbeats 6400000
namespace Go.Proofs.YtliomcphdnppnaaGreatDoor
open Go.RowKit
theorem jaD{P:Prop}(h:P:=by
 go_enter Tryz.func166,Tryz.ntmps166
 go_wp2_with fail
 refine(WD.out _).mono ?_
 rintro e w1 ⟨rfl,rfl⟩
 go_wp2_with fail
 refine(FL.out _).mono ?_
 rintro e w3 ⟨r,rfl,lJ⟩
 obtain⟨RA,rc,rfl,_⟩:=lJ.own.form;have wi:=gG.below lJ.2;have xj:=xo.trans (lJ.2.mono xo.size);obtain⟨fl,dE⟩:∃ fl,(yx D).length=fl:=⟨_,rfl⟩
 rw[dE]at E1⊢;clear lJ dE FL
 by_cases hq:fl=3
 ·subst hq;have E:Hid (_=Except.ok (Itm.mk 8 D [] [])):=E1.out.trans (if_neg (by simp));exact jer
 have zq:((fl:Int)==3)=false:=by simp;omega
 have zq2:((fl:Int)=3)=False:=eq_false (by omega);exact jen):P:=h
theorem jaI{P:Prop}(h:P:=by exact jen):P:=h
theorem jaK{P:Prop}(h:P:=by
 obtain⟨R,hR⟩:∃ R,9223372036854775808+D=R:=⟨_,rfl⟩
 rw[hR]at CS;have WW:Hid (wS v=R):=by rw[Hid,← hR,WQ.out];try omega
 have r9:=yV R;clear hR;go_wp2_with fail
 refine(CS.out _).mono ?_
 rintro e w1 ⟨rfl,rfl⟩
 exact jeV):P:=h
theorem jaS{P:Prop}(h:P:=by exact jer):P:=h
theorem jaU{P:Prop}(h:P:=by
 have E:Hid (yr (l.drop p)=.error 2):=by rw[Hid,E2.out,if_pos (by rw[List.length_drop];have:=HL.out.1;omega)]
 have wb:=zK ye yF (.inl rfl);clear NM hs;go_wp2_with fail
 go_ret3
 exact HeadSaid.err E.out rfl (p+1) HL.out.1 oh wb):P:=h
theorem jbd{P:Prop}(h:P:=by exact jeV):P:=h
theorem jbe{P:Prop}(h:P:=by exact je2):P:=h
theorem jbf{P:Prop}(h:P:=by exact je3):P:=h
theorem jbt{P:Prop}(h:P:=by
 refine h.kept hd.grows.grown ?_
 cases hv:v.ownBlock with
 | none=>exact .inl rfl
 | some k=>exact .inr (fun e=>by injection e with e;have:=h.lt k hv;omega)):P:=h
theorem jbI{P:Prop}(h:P:=by
 clear E3 h7 HD z7 z0;go_wp2_with fail
 go_ret3
 exact HeadSaid.ok E.out rfl oa wb):P:=h
theorem jbV{P:Prop}(h:P:=by rw[Hid,E2.out,if_neg (by rw[List.length_drop];have:=HL.out.1;omega)]):P:=h
theorem jbX{P:Prop}(h:P:=by
 clear E5;go_wp2_with fail
 go_ret3
 exact HeadSaid.ok E.out rfl ms xq):P:=h
theorem jdI{P:Prop}(h:P:=by
 simp only[Bool.false_eq_true,if_false,Nat.shiftLeft_zero]
 omega):P:=h
theorem jdJ{P:Prop}(h:P:=by
 go_wp2_with fail
 go_ret
 exact⟨by first | rfl | simp[o1],rfl⟩):P:=h
theorem jek{P:Prop}(h:P:=by
 go_enter Tryz.func201,Tryz.ntmps201
 go_wp2_with fail
 refine(LD.out _).mono ?_
 rintro e w1 ⟨rfl,rfl⟩
 have RSB:=Hh (yV D)
 rcases(by have:=HX.out.1;omega:s=0∨s=1) with rfl | rfl
 ·exact je5
 have CS:=Hh (fun w=>rW (D:=D) (by exact HD.out) w);exact jaK):P:=h
theorem jen{P:Prop}(h:P:=by
 have E:Hid (_=Except.error 4):=E1.out.trans (if_pos hq);clear E1 hq;go_wp2_with (with_reducible refine zx ?_)
 refine stI wi fun wz hTy yS=>?_
 have yz:=zY xj yS (by rintro q ⟨⟩;exact Nat.le_refl _);exact je2):P:=h
theorem jeq{P:Prop}(h:P:=by
 clear hD;have RSB:=Hh (yV D)
 rcases(by have:=HX.out.1;omega:s=0∨s=1) with rfl | rfl
 ·exact je5
 have CS:=Hh (fun w=>rW (D:=D) (by rw[← HD.out];omega) w);exact jaK):P:=h
theorem jer{P:Prop}(h:P:=by
 clear E1;go_wp2_with (with_reducible refine zx ?_)
 refine stI wi fun wz hTy yS=>?_
 have yz:=zY xj yS (by rintro q ⟨⟩;exact Nat.le_refl _);exact je3):P:=h
theorem jex{P:Prop}(h:P:=by
 go_enter Tryz.func166,Tryz.ntmps166
 go_wp2_with (with_reducible refine zx ?_)
 refine stI gG fun wz hTy yS=>?_
 have yz:=zY xo yS (by rintro q ⟨⟩;exact Nat.le_refl _);exact jbf):P:=h
theorem jeE{P:Prop}(h:P:=by
 go_wp2_with (with_reducible refine zx ?_)
 refine stI gG fun wz hTy yS=>?_
 have yz:=zY xo yS (by rintro q ⟨⟩;exact Nat.le_refl _);exact jbe):P:=h
theorem jeV{P:Prop}(h:P:=by
 go_wp2_with fail
 go_ret
 exact⟨by rw[WW.out];try rfl,rfl⟩):P:=h
theorem je2{P:Prop}(h:P:=by
 go_wp2_with fail
 refine zp rfl rfl hTy rfl rfl zu rfl ?_
 exact SevenSaid.err E.out rfl yz):P:=h
theorem je3{P:Prop}(h:P:=by
 go_wp2_with fail
 refine zp rfl rfl hTy rfl rfl zu rfl ?_
 exact SevenSaid.ok E.out rfl yz):P:=h
theorem je4{P:Prop}(h:P:=by
 go_enter Tryz.func213,Tryz.ntmps213
 go_wp2_with fail
 refine(L.out _).mono ?_
 exact jeg):P:=h
theorem je5{P:Prop}(h:P:=by
 have r9:=yV D;have WW:Hid (wS v=D):=by rw[Hid,WQ.out];try omega
 exact jbd):P:=h
theorem jfA{P:Prop}(h:P:=by have HD:=Hh (fun w=>qK 0 (n:Int) w (by omega) (by omega) (by omega) (by omega));exact HD):P:=h
theorem jfU{P:Prop}(h:P:=by have z7b:decide ((ch.toNat:Int)/32<7)=false:=decide_eq_false z7;exact z7b):P:=h
theorem jgo{P:Prop}(h:P:=by have xX:Blk w1 g 175 (oC (some ⟨b,off,none⟩) l.length c p cnt):=sW ▸ hB;have rS:w.grownBy w1 (some g):=sW ▸ tu (ym w _) _;have pd:Holds w1 H:=sW ▸ HH.out;exact And.intro xX (And.intro rS pd)):P:=h
theorem jgO{P:Prop}(h:P:=by have NX:=Hh (yN w hD (n+1) (by omega) (by omega));have K0:IntKind.i64.wrap (n+1)=n+1:=IntWalk.i64_in _ (by omega);have wl:=hD.deck.lt;have HN:=Hh (And.intro hn tF);exact And.intro NX (And.intro K0 (And.intro wl HN))):P:=h
theorem Rs {e m:Nat}(he:1≤e) (he2:e≤2046) (hm:m<4503599627370496):Ieee.double.read (e*4503599627370496+m)=.number false (4503599627370496+m) (-1074+((e-1:Nat):Int)):=by
 have e1:=jgB;obtain⟨e2,e3,e4⟩:=jfl;obtain⟨x,hx⟩:∃ x,e*4503599627370496+m=x:=⟨_,rfl⟩
 have a1:x/9223372036854775808=0:=by omega
 have a2:x%9223372036854775808=x:=by omega
 rw[hx]
 unfold Ieee.Format.read
 rw[e1,e2,e3,e4]
 simp only[a1,a2]
 rw[if_neg (by omega),if_pos (by omega)];have a3:x/4503599627370496=e:=by omega
 have a4:x%4503599627370496=m:=by omega
 rw[a3,a4];rfl
theorem ON {a b:Int}(h:b<a):compare a b=.gt:=by
 show compareOfLessAndEq a b=_
 rw[compareOfLessAndEq,if_neg (by omega),if_neg (by omega)]
theorem Fx {a b:Int}(h:a<b):compare a b=.lt:=by
 show compareOfLessAndEq a b=_
 rw[compareOfLessAndEq,if_pos h]
theorem fd {e m:Nat}(he:2≤e) (he2:e≤2045) (hm:m<4503599627370496) {D:Nat}(hD:D=e*4503599627370496+m) :
  FloatKind.f64.format.order D 0=some .gt∧FloatKind.f64.format.order D 9218868437227405311=some .lt∧FloatKind.f64.format.order D 4503599627370496=some .gt∧FloatKind.f64.format.order D D=some .eq:=by
 have r:=Rs (show 1≤e by omega) (show e≤2046 by omega) hm;rw[← hD]at r;have z:Ieee.double.read 0=.number false 0 (-1074):=by decide +kernel
 have mx:Ieee.double.read 9218868437227405311=.number false 9007199254740991 971:=by decide +kernel
 have mn:Ieee.double.read 4503599627370496=.number false 4503599627370496 (-1074):=by decide +kernel
 obtain⟨k,hk⟩:∃ k,e-1=k:=⟨_,rfl⟩
 rw[hk]at r;have Wo:∀ a b:Nat,a≤a <<< b:=fun a b=>by rw[Nat.shiftLeft_eq];exact Nat.le_mul_of_pos_right _ (Nat.two_pow_pos b)
 have Cw:∀ a b:Nat,1≤b→a*2≤a <<< b:=fun a b hb=>by
  rw[Nat.shiftLeft_eq]
  refine Nat.mul_le_mul_left _ ?_
  calc 2=2 ^ 1:=rfl
   _≤2 ^ b:=Nat.pow_le_pow_right (by omega) hb
 refine⟨?_, ?_, ?_, ?_⟩
 ·show(Ieee.double.read D).order (Ieee.double.read 0)=_
  rw[r,z]
  simp only[Ieee.Datum.order,Ieee.signed]
  rw[ON];have:=Wo (4503599627370496+m) (-1074+(k:Int)-min (-1074+(k:Int)) (-1074)).toNat
  simp only[Bool.false_eq_true,if_false,Nat.zero_shiftLeft]
  omega
 ·show(Ieee.double.read D).order (Ieee.double.read 9218868437227405311)=_
  rw[r,mx]
  simp only[Ieee.Datum.order,Ieee.signed]
  rw[Fx];have h1:min (-1074+(k:Int)) 971 = -1074+(k:Int):=by omega
  rw[h1];have h2:(-1074+(k:Int)-(-1074+(k:Int))).toNat=0:=by omega
  rw[h2];have:=Cw 9007199254740991 (971-(-1074+(k:Int))).toNat (by omega)
  exact jdI
 ·show(Ieee.double.read D).order (Ieee.double.read 4503599627370496)=_
  rw[r,mn]
  simp only[Ieee.Datum.order,Ieee.signed]
  rw[ON];have h1:min (-1074+(k:Int)) (-1074) = -1074:=by omega
  rw[h1];have h2:(-1074-(-1074:Int)).toNat=0:=by decide
  have:=Cw (4503599627370496+m) (-1074+(k:Int) - -1074).toNat (by omega);rw[h2]
  exact jdI
 show(Ieee.double.read D).order (Ieee.double.read D)=_
 rw[r]
 simp only[Ieee.Datum.order]
 congr 1
 show compareOfLessAndEq _ _=_
 rw[compareOfLessAndEq,if_neg (by omega),if_pos rfl]
structure Pos (D e m:Nat):Prop where
 eq:D=e*4503599627370496+m
 lo:2≤e
 hi:e≤2045
 m_lt:m<4503599627370496
theorem Pos.lt {D e m:Nat}(h:Pos D e m):D<9223372036854775808:=by have:=h.eq;have:=h.hi;have:=h.m_lt;omega
theorem nG {D:Nat}(h:D<9223372036854775808):bits .andNot .u64 (D:Int) 9223372036854775808=(D:Int):=by
 have:=u64_andNot_nat D 9223372036854775808 (by omega) (by omega);rw[show((9223372036854775808:Nat):Int)=9223372036854775808 from rfl]at this;rw[this,show 18446744073709551615-9223372036854775808=2 ^ 63-1 by decide,Nat.and_two_pow_sub_one_eq_mod,Nat.mod_eq_of_lt (by simpa using h)]
theorem Zm {D e m:Nat}(h:Pos D e m):bits .andNot .u64 (D:Int) 9218868437227405312=(m:Int):=by
 have hl:=h.lt;have:=u64_andNot_nat D 9218868437227405312 (by omega) (by omega);rw[show((9218868437227405312:Nat):Int)=9218868437227405312 from rfl]at this;rw[this,show 18446744073709551615-9218868437227405312=2 ^ 63 ||| (2 ^ 52-1) by decide,Nat.and_or_distrib_left,Nat.and_two_pow_sub_one_eq_mod]
 have h0:D &&& 2 ^ 63=0:=by
  apply Nat.eq_of_testBit_eq
  intro i
  rw[Nat.testBit_and,Nat.testBit_two_pow,Nat.zero_testBit]
  by_cases hi:63=i
  ·subst hi;rw[Nat.testBit_lt_two_pow (by simpa using hl)];rfl
  simp[hi]
 have h1:=h.eq;have h2:=h.m_lt;rw[h0,Nat.zero_or]
 simp only[Nat.reducePow]
 omega
theorem O7 {q m:Nat}(hq:q≤2046) (hm:m<4503599627370496):bits .or .u64 (m:Int) ((q:Int)*4503599627370496)=((q*4503599627370496+m:Nat):Int):=by
 have h:=Nat.shiftLeft_add_eq_or_of_lt (show m<2 ^ 52 by simpa using hm) q;rw[Nat.shiftLeft_eq]at h;rw[show((q:Int)*4503599627370496)=((q*4503599627370496:Nat):Int) by omega,u64_or_nat _ _ (by omega) (by omega),Nat.or_comm]
 simp only[Nat.reducePow]at h
 rw[← h]
theorem Zb {e:Nat}(h:e≤2046):bits .and .i64 (e:Int) 2047=(e:Int):=by
 have uH:∀ X:Fin 2048,bits .and .i64 ((X.val:Nat):Int) 2047=((X.val:Nat):Int):=by decide +kernel
 exact uH ⟨e,by omega⟩
theorem YQ {D:Nat}(h:D<9223372036854775808) (w:World):Calls Tryz.prog 216 #[.float .f64 D] w fun e w'=>e=.returned (.float .f64 D)∧w'=w:=by
 have r1:=yV D;have r2:=xE D;have K:=nG h;clear h;go_enter Tryz.func216,Tryz.ntmps216
 exact jay
theorem V9 {D e m:Nat}(h:Pos D e m) (w:World):Calls Tryz.prog 209 #[.float .f64 D,.int .i64 0] w fun e w'=>e=.returned (.bool false)∧w'=w:=by
 have AB:=Hh (fun w=>YQ h.lt w);have o1:=(fd h.lo h.hi h.m_lt h.eq).2.1;clear h;go_enter Tryz.func209,Tryz.ntmps209
 go_wp2_with fail
 refine(AB.out _).mono ?_
 rintro e w1 ⟨rfl,rfl⟩
 exact jdJ
theorem VC {D e m:Nat}(h:Pos D e m) (w:World):Calls Tryz.prog 208 #[.float .f64 D] w fun e w'=>e=.returned (.bool false)∧w'=w:=by
 have o1:=(fd h.lo h.hi h.m_lt h.eq).2.2.2;clear h;go_enter Tryz.func208,Tryz.ntmps208
 exact jdJ
theorem dV {D e m:Nat}(h:Pos D e m) (w:World):Calls Tryz.prog 222 #[.float .f64 D] w fun e w'=>e=.returned (.tuple #[.float .f64 D,.int .i64 0])∧w'=w:=by
 have AB:=Hh (fun w=>YQ h.lt w);have o1:(FloatKind.f64.format.order D 4503599627370496==some .lt)=false:=by rw[(fd h.lo h.hi h.m_lt h.eq).2.2.1];rfl
 clear h;go_enter Tryz.func222,Tryz.ntmps222
 go_wp2_with fail
 refine(AB.out _).mono ?_
 rintro e w1 ⟨rfl,rfl⟩
 go_wp2_with fail
 go_ret2
 exact jbb
theorem NT (w:World):Calls Tryz.prog 212 #[.int .i64 1] w fun e w'=>e=.returned (.float .f64 9218868437227405312)∧w'=w:=by
 have r2:∀ w,(callFunc 147 #[.int .u64 9218868437227405312]).run Tryz.prog w=.ok (.value (.float .f64 9218868437227405312)) w:=xE 9218868437227405312;go_enter Tryz.func212,Tryz.ntmps212
 exact jay
theorem VD {D e m:Nat}(h:Pos D e m) (k:Int) (q:Nat) (hk : -1000≤k∧k≤1000) (hq:(e:Int)+k=(q:Int)) (fr:2≤q∧q≤2045) (w:World) :
  Calls Tryz.prog 219 #[.float .f64 D,.int .i64 k] w fun e w'=>e=.returned (.float .f64 (q*4503599627370496+m))∧w'=w:=by
 obtain⟨o1,_,_,_⟩:=fd h.lo h.hi h.m_lt h.eq;have o0:(FloatKind.f64.format.order D 0==some .eq)=false:=by rw[o1];rfl
 have IN:=Hh (fun w=>V9 h w);have NA:=Hh (fun w=>VC h w);have NO:=Hh (fun w=>dV h w);have r1:=yV D;have hD:=h.eq;have hm:=h.m_lt;have Mi:=h.lo;have Ao:=h.hi;have K1:IntKind.i64.wrap (k+0)=k:=by rw[Int.add_zero];exact IntWalk.i64_in _ (by omega)
 have K2:(D:Int)/4503599627370496=(e:Int):=by omega
 have K3:IntKind.i64.wrap (e:Int)=(e:Int):=IntWalk.i64_in _ (by omega);have K4:=Zb (show e≤2046 by omega);have K5:IntKind.i64.wrap ((e:Int)-1023)=(e:Int)-1023:=IntWalk.i64_in _ (by omega);obtain⟨x,hx⟩:∃ x:Int,k+((e:Int)-1023)=x:=⟨_,rfl⟩
 have K6:IntKind.i64.wrap (k+((e:Int)-1023))=x:=by rw[hx];exact IntWalk.i64_in _ (by omega)
 have K6b:k+((e:Int)-1023)=x:=hx;have z1:¬ (x < -1075):=by omega
 have z2:¬ (1023<x):=by omega
 have z3:¬ (x < -1022):=by omega
 have K7:=Zm h;have K8:IntKind.i64.wrap (x+1023)=(q:Int):=by rw[show x+1023=(q:Int) by omega];exact IntWalk.i64_in _ (by omega)
 have K8b:x+1023=(q:Int):=by omega
 have K9:IntKind.u64.wrap (q:Int)=(q:Int):=by rw[IntKind.wrap_u64];omega
 have K10:IntKind.u64.wrap ((q:Int)*4503599627370496)=(q:Int)*4503599627370496:=by rw[IntKind.wrap_u64];omega
 have K11:=O7 (show q≤2046 by omega) hm;obtain⟨R,hR⟩:∃ R,q*4503599627370496+m=R:=⟨_,rfl⟩
 have Cl:floatBits .mul .f64 4607182418800017408 R=some R:=by
  have:=Ra (s:=0) (e:=q) (m:=m) (by omega) (by omega) (by omega) hm;rw[Nat.zero_mul,Nat.zero_add,hR]at this
  exact this
 have r3:=xE R;rw[hR]at K11;rw[hR];have r4:∀ w,(binOp .mul 198 (.float .f64 4607182418800017408) (.float .f64 R)).run Tryz.prog w=.ok (.float .f64 R) w:=fun w=>run_float_arith w .mul _ .f64 _ _ R Cl
 obtain⟨lA,ZQ⟩:=hk;have Ia:(2:Int)≤(e:Int):=by omega
 have he2:(e:Int)≤2045:=by omega
 have lC : -1021≤x:=by omega
 have X8:x≤1022:=by omega
 have jy:(2:Int)≤(q:Int):=by omega
 have hq3:(q:Int)≤2045:=by omega
 clear h hD hm Mi Ao hq fr hx Cl hR o1;go_enter Tryz.func219,Tryz.ntmps219
 go_wp2_with fail
 refine(IN.out _).mono ?_
 rintro e w1 ⟨rfl,rfl⟩
 go_wp2_with fail
 refine(NA.out _).mono ?_
 rintro e w1 ⟨rfl,rfl⟩
 go_wp2_with fail
 refine(NO.out _).mono ?_
 exact jeg
theorem dx {D e m:Nat}(h:Pos D e m) (k:Int) (q:Nat) (hk : -1000≤k∧k≤1000) (hq:(e:Int)+k=(q:Int)) (fr:2≤q∧q≤2045) (w:World) :
  Calls Tryz.prog 213 #[.float .f64 D,.int .i64 k] w fun e w'=>e=.returned (.float .f64 (q*4503599627370496+m))∧w'=w:=by
 have L:=Hh (fun w=>VD h k q hk hq fr w);clear h hk hq fr;exact je4
theorem XU (k:Int) (w:World):Calls Tryz.prog 219 #[.float .f64 0,.int .i64 k] w fun e w'=>e=.returned (.float .f64 0)∧w'=w:=by
 have o0:(FloatKind.f64.format.order 0 0==some .eq)=true:=by decide +kernel
 go_enter Tryz.func219,Tryz.ntmps219
 exact jay
theorem XS (k:Int) (w:World):Calls Tryz.prog 213 #[.float .f64 0,.int .i64 k] w fun e w'=>e=.returned (.float .f64 0)∧w'=w:=by
 have L:=Hh (fun w=>XU k w);exact je4
theorem Xs {D:Nat}(h:D<9223372036854775808):bits .or .u64 (D:Int) 9223372036854775808=((9223372036854775808+D:Nat):Int):=by
 have h1:=Nat.shiftLeft_add_eq_or_of_lt (show D<2 ^ 63 by simpa using h) 1;rw[Nat.shiftLeft_eq]at h1;have:=u64_or_nat D 9223372036854775808 (by omega) (by omega);rw[show((9223372036854775808:Nat):Int)=9223372036854775808 from rfl]at this;rw[this,Nat.or_comm]
 simp only[Nat.reducePow,Nat.one_mul]at h1
 rw[← h1]
theorem rW {D:Nat}(h:D<9223372036854775808) (w:World):Calls Tryz.prog 214 #[.float .f64 D,.float .f64 13830554455654793216] w fun e w'=>e=.returned (.float .f64 (9223372036854775808+D))∧w'=w:=by
 have r1:=yV D;have r2:∀ w,(callFunc 148 #[.float .f64 13830554455654793216]).run Tryz.prog w=.ok (.value (.int .u64 13830554455654793216)) w:=yV 13830554455654793216;have K1:=nG h;have K2:bits .and .u64 13830554455654793216 9223372036854775808=9223372036854775808:=by decide +kernel
 have K3:=Xs h;obtain⟨R,hR⟩:∃ R,9223372036854775808+D=R:=⟨_,rfl⟩
 rw[hR]at K3;rw[hR];have r3:=xE R;clear h hR;go_enter Tryz.func214,Tryz.ntmps214
 exact jay
def wS (v:Nat):Nat:=if v/1024%32=31∧v%1024≠0 then yg else vI v
theorem Tw {v k:Nat}(hv:v<65536) (hk:k≤16):bits .and .u16 (v:Int) ((2 ^ k-1:Nat):Int)=((v%2 ^ k:Nat):Int):=by
 have:2 ^ k≤2 ^ 16:=Nat.pow_le_pow_right (by omega) hk;rw[u16_and_nat v (2 ^ k-1) (by omega) (by omega),Nat.and_two_pow_sub_one_eq_mod]
theorem TX {n t:Nat}(h0:n≠0) (ht:n.log2=t) (hn:n<2048):Pos (dbl n) (1023+t) (n*2 ^ (52-t)-4503599627370496):=by
 subst ht;have a1:2 ^ n.log2≤n:=Nat.log2_self_le h0;have a2:n<2 ^ (n.log2+1):=Nat.lt_log2_self;have a3:n.log2<11:=(Nat.log2_lt h0).2 (by simpa using hn);have b:=mL a1 a2 (by omega)
 exact⟨by rw[dbl,if_neg h0],by omega,by omega,by omega⟩
theorem Fz (f:Nat):(f+1024)*4398046511104-4503599627370496=f*4398046511104:=by omega
def OH (w:World) (v:Nat) (e:Ending) (w':World):Prop:=e=.returned (.int .u64 (wS v:Int))∧w'=w
theorem Ub (v:Nat) (hv:v<65536) (w:World):Calls Tryz.prog 201 #[.int .u16 (v:Int)] w (OH w v):=by
 have A1:bits .and .u16 (v:Int) 1023=((v%1024:Nat):Int):=Tw (k:=10) hv (by omega);obtain⟨u,hu⟩:∃ u,v/1024=u:=⟨_,rfl⟩
 have A2:bits .and .u16 (u:Int) 31=((u%32:Nat):Int):=Tw (k:=5) (by omega) (by omega);have hur:u%32=v/1024%32:=by rw[hu]
 rw[hur]at A2;obtain⟨s,hs⟩:∃ s,v/32768=s:=⟨_,rfl⟩
 obtain⟨x,hx⟩:∃ x,v/1024%32=x:=⟨_,rfl⟩
 obtain⟨f,hf⟩:∃ f,v%1024=f:=⟨_,rfl⟩
 have vV:s≤1:=by omega
 have lC:x≤31:=by omega
 have ki:f<1024:=by omega
 have W:=Hh (show wS v=(if x=31∧f≠0 then yg else if x=31 then s*9223372036854775808+9218868437227405312+f*4398046511104
  else if x=0 then(if f=0 then s*9223372036854775808 else s*9223372036854775808+(999+f.log2)*4503599627370496+(f*2 ^ (52-f.log2)-4503599627370496))
  else s*9223372036854775808+(x+1008)*4503599627370496+f*4398046511104) by rw[wS,vI,hs,hx,hf])
 rw[hf]at A1;rw[hx]at A2;have S1:(v:Int)/32768=(s:Int):=by omega
 have S2:(v:Int)/1024=(u:Int):=by omega
 have FI:floatOfInt .f64 (f:Int)=dbl f:=kM ⟨f,ki⟩;have HX:=Hh (And.intro vV (And.intro lC ki));have zBo:(v:Int)/32768=(s:Int):=S1;have Au:(s:Int)≤1:=by omega
 clear hs hx hf hv hu hur
 by_cases Et:x=31
 ·subst Et
  by_cases Wf:f=0
  ·subst Wf;have FI0:floatOfInt .f64 0=0:=kM 0;have WQ:Hid (wS v=s*9223372036854775808+9218868437227405312):=by rw[Hid,W.out,if_neg (by simp),if_pos rfl];try omega
   have IF:=Hh (fun w=>NT w);clear FI W;go_enter Tryz.func201,Tryz.ntmps201
   go_wp2_with fail
   refine(IF.out _).mono ?_
   rintro e w1 ⟨rfl,rfl⟩
   obtain⟨D,hD⟩:∃ D,9218868437227405312=D:=⟨_,rfl⟩
   rw[hD]at WQ;rw[hD];have HD:=Hh hD;exact jeq
  have f0:((f:Int) != 0)=true:=by simp;omega
  have f0':((f:Int)=0)=False:=eq_false (by omega);have WW:Hid (wS v=yg):=by rw[Hid,W.out,if_pos ⟨rfl,Wf⟩]
  clear W Wf;go_enter Tryz.func201,Tryz.ntmps201
  exact jbd
 have x31:((x:Int)==31)=false:=by simp;omega
 have x31':((x:Int)=31)=False:=eq_false (by omega)
 by_cases h0:x=0
 ·subst h0
  by_cases Wf:f=0
  ·subst Wf;have FI0:floatOfInt .f64 0=0:=kM 0;have WQ:Hid (wS v=s*9223372036854775808+0):=by rw[Hid,Nat.add_zero,W.out,if_neg (by omega),if_neg (by omega),if_pos rfl,if_pos rfl]
   have LD:=Hh (fun w=>XS (-24) w);clear FI W Et;go_enter Tryz.func201,Tryz.ntmps201
   go_wp2_with fail
   refine(LD.out _).mono ?_
   rintro e w1 ⟨rfl,rfl⟩
   obtain⟨D,hD⟩:∃ D:Nat,0=D:=⟨_,rfl⟩
   rw[hD]at WQ;have HD:=Hh hD;rw[show(Value.float FloatKind.f64 0)=Value.float FloatKind.f64 D by rw[hD]];exact jeq
  obtain⟨t,ht⟩:∃ t,f.log2=t:=⟨_,rfl⟩
  have hP:=TX Wf ht (by omega);have Mk:t<10:=by rw[← ht];exact(Nat.log2_lt Wf).2 (by simpa using ki)
  have LD:=Hh (fun w=>dx hP (-24) (999+t) (by omega) (by omega) (by omega) w);obtain⟨D,hD⟩:∃ D,(999+t)*4503599627370496+(f*2 ^ (52-t)-4503599627370496)=D:=⟨_,rfl⟩
  have JH:D<9223372036854775808:=by have:=hP.m_lt;omega
  have WQ:Hid (wS v=s*9223372036854775808+D):=by rw[Hid,W.out,if_neg (by omega),if_neg (by omega),if_pos rfl,if_neg Wf,ht,← hD,Nat.add_assoc]
  rw[hD]at LD;obtain⟨Q,hQ⟩:∃ Q,dbl f=Q:=⟨_,rfl⟩
  rw[hQ]at FI LD;have HD:=Hh JH;clear W Et Wf hP hD JH hQ ht Mk;exact jek
 have x0:((x:Int)==0)=false:=by simp;omega
 have x0':((x:Int)=0)=False:=eq_false (by omega);have hP:=TX (n:=f+1024) (t:=10) (by omega) (by rw[Nat.log2_eq_iff (by omega)];constructor <;> omega) (by omega);rw[show(52:Nat)-10=42 from rfl,show(2:Nat) ^ 42=4398046511104 by decide,Fz]at hP;have LD:=Hh (fun w=>dx hP ((x:Int)-25) (x+1008) (by omega) (by omega) (by omega) w)
 have AD:∀ w,(binOp .add 198 (.float .f64 (dbl f)) (.float .f64 4652218415073722368)).run Tryz.prog w=.ok (.float .f64 (dbl (f+1024))) w:=fun w=>run_float_arith w .add _ .f64 _ _ _ (by
  have:=Jh ⟨f,ki⟩;rw[show dbl 1024=4652218415073722368 by decide +kernel]at this
  exact this)
 have KS:IntKind.i64.wrap ((x:Int)-25)=(x:Int)-25:=IntWalk.i64_in _ (by omega);obtain⟨D,hD⟩:∃ D,(x+1008)*4503599627370496+f*4398046511104=D:=⟨_,rfl⟩
 have JH:D<9223372036854775808:=by have:=hP.m_lt;omega
 have WQ:Hid (wS v=s*9223372036854775808+D):=by
  rw[Hid,W.out,if_neg (by omega),if_neg (by omega),if_neg h0,← hD];rw[Nat.add_assoc]
 rw[hD]at LD;obtain⟨Q,hQ⟩:∃ Q,dbl f=Q:=⟨_,rfl⟩
 obtain⟨Q2,hQ2⟩:∃ Q2,dbl (f+1024)=Q2:=⟨_,rfl⟩
 rw[hQ]at FI AD;rw[hQ2]at AD LD;have HD:=Hh JH;have rD:(x:Int)≤31:=by omega
 clear W Et h0 hP hD JH hQ hQ2;exact jek
abbrev oC (A:Option Addr) (n c p cnt:Nat):Array Value:=#[.slice A n c,.int .i64 (p:Int),.int .i64 (cnt:Int)]
structure Psr (T:TypeId) (w:World) (g:Nat) (H:Snap) (A:Option Addr) (c:Nat) (l:List UInt8) (p cnt:Nat):Prop where
 blk:Blk w g T (oC A l.length c p cnt)
 bytes:IsBytes H A c l
 holds:Holds w H
 apart:H g=none
 le:p≤l.length
 small:l.length≤4096
 cnt_le:cnt≤256
theorem tu {w0 w:World}{r:Option Nat}(h:w0.grownBy w r):∀ q,w0.grownBy (w.drewN q) r
 | 0=>h
 | q+1=>vG (tu h q)
def Je (T:TypeId) (w:World) (g:Nat) (A:Option Addr) (c:Nat) (l:List UInt8) (p cnt z:Nat) (e:Ending) (w':World):Prop :=
 (l.length<p+z∧e=.returned (.tuple #[.int .u64 0,.bool false])∧Blk w' g T (oC A l.length c p cnt)∧w.grownBy w' (some g))∨
 (p+z≤l.length∧e=.returned (.tuple #[.int .u64 (beN ((l.drop p).take z):Int),.bool true])∧Blk w' g T (oC A l.length c (p+z) cnt)∧w.grownBy w' (some g))
theorem KQ (x c:Nat) (hc:c<256):x*256 ||| c=x*256+c:=by
 have h:=Nat.shiftLeft_add_eq_or_of_lt (show c<2 ^ 8 by omega) x;rw[Nat.shiftLeft_eq]at h
 exact h.symm
theorem Xr (x c:Nat) (hx:x*256<18446744073709551616) (hc:c<256):bits .or .u64 ((x:Int)*256) (c:Int)=((x*256+c:Nat):Int):=by
 rw[show((x:Int)*256)=((x*256:Nat):Int) by omega,u64_or_nat _ _ hx (by omega),KQ x c hc]
theorem Mw (l:List UInt8) (k:Nat) (hk:k<l.length):beN (l.take (k+1))=beN (l.take k)*256+l[k].toNat:=by
 rw[List.take_succ_eq_append_getElem hk,Mv]
theorem XE (l:List UInt8) (k:Nat) (hk:k<8):beN (l.take k)*256<18446744073709551616:=by
 have h:=nr (l.take k);have h2:(l.take k).length≤7:=by rw[List.length_take];omega
 have h3:(256:Nat) ^ (l.take k).length≤256 ^ 7:=Nat.pow_le_pow_right (by omega) h2;have h4:(256:Nat) ^ 7=72057594037927936:=by decide
 omega
theorem wh:(Tryz.prog.info? 3).map (·.size)=some 1:=by kernel_rfl
theorem jY {w:World}{g:Nat}{H:Snap}{A:Option Addr}{c:Nat}{l:List UInt8}{p cnt:Nat}(hP:Psr 175 w g H A c l p cnt) (z:Nat) (rE:1≤z) (Mm:z≤8) :
  Calls Tryz.prog 200 #[.pointer (some ⟨g,0,none⟩),.int .i64 (z:Int)] w (Je 175 w g A c l p cnt z):=by
 have hB:=hP.blk;have c0:=jfj;have c1:=hB.cell 1 rfl;have HP:=Hh hP;have pq:=hP.le;have ZI:=hP.small;have nN:=hP.bytes.le;have ZM:=hP.bytes.max;have HZ:=Hh (And.intro rE Mm);have hzi:(z:Int)≤8:=by omega
 have ZU:(p:Int)≤(l.length:Int):=by omega
 have ML:(l.length:Int)≤4096:=by omega
 have K0:IntKind.i64.wrap ((l.length:Int)-(p:Int))=(l.length:Int)-(p:Int):=IntWalk.i64_in _ (by omega)
 by_cases yu:l.length<p+z
 ·have z0:(l.length:Int)-(p:Int)<(z:Int):=by omega
  have HL:=Hh yu;clear rE Mm pq ZI nN ZM hP yu;go_enter Tryz.func200,Tryz.ntmps200
  go_wp2_with fail
  go_big_quiet (fail)
  go_wp2_with fail
  go_ret2
  exact .inl ⟨HL.out,rfl,hB,tu (ym w _) _⟩
 have z0:¬ ((l.length:Int)-(p:Int)<(z:Int)):=by omega
 have z0b:decide ((l.length:Int)-(p:Int)<(z:Int))=false:=decide_eq_false z0;have K1:IntKind.i64.wrap ((p:Int)+(z:Int))=(p:Int)+(z:Int):=IntWalk.i64_in _ (by omega);have tA:(p:Int)≤(p:Int)+(z:Int):=by omega
 have pF:(p:Int)+(z:Int)≤(c:Int):=by omega
 have zBw:(p:Int)≤(c:Int):=by omega
 have ZS:(0:Int)≤(p:Int):=by omega
 have T8:(c=p)=False:=eq_false (by omega);obtain⟨b,off,rfl,xP⟩:=hP.bytes.at_ (by omega);have HC:=Hh xP;have HH:=Hh hP.holds;have HL:=Hh (Nat.not_lt.1 yu);clear rE Mm pq ZI nN ZM hP xP yu;go_enter Tryz.func200,Tryz.ntmps200
 go_wp2_with fail
 go_big_quiet (fail)
 obtain⟨w1,sW⟩:∃ W,w.drewN nq=W:=⟨_,rfl⟩
 obtain⟨xX,rS,pd⟩:=jgo;rw[sW];clear sW c0 c1;have c0:=xX.cell 0 rfl;have c1:=xX.cell 1 rfl;go_wp2_with fail
 go_big_quiet (fail)
 go_wp2_with fail
 obtain⟨W,hW⟩:∃ W,w1.drewN nq=W:=⟨_,rfl⟩
 have hBW:Blk W g 175 (oC (some ⟨b,off,none⟩) l.length c p cnt):=hW ▸ xX;have hGW:w.grownBy W (some g):=hW ▸ tu rS _;have hHW:Holds W H:=hW ▸ pd;rw[hW];clear hW c0 c1 hB xX rS pd;have E:Hid ((l.drop p).length=l.length-p):=List.length_drop;go_loopw [6,8,37] (fun v6 v8 v37 wr=>wr=W∧∃ k:Nat,k≤z∧v37=.int .i64 (k:Int)∧v6=.int .u64 (beN ((l.drop p).take k):Int)) (fun _ _ v37 _=>z-(intOf v37).toNat)
 case atStart=>exact⟨rfl,0,Nat.zero_le _,rfl,rfl⟩
 case round =>
 obtain⟨rfl,k,hk,rfl,rfl⟩:=hrel
 by_cases hkz:k<z
 ·have qJ:p+k<l.length:=by have:=HL.out;omega
  have zBx:(k:Int)<(z:Int):=by omega
  have FW:k<(l.drop p).length:=by have:=E.out;omega
  have q0:=hHW.cell (HC.out (p+k) qJ);rw[← Nat.add_assoc]at q0;have ex:(l.drop p)[k]=l[p+k]:=by rw[List.getElem_drop]
  have hX:=XE (l.drop p) k (by have:=HZ.out;omega);have hS:=Mw (l.drop p) k FW;rw[ex]at hS;obtain⟨X,QP⟩:∃ X,beN ((l.drop p).take k)=X:=⟨_,rfl⟩
  obtain⟨ch,Dq⟩:∃ ch,l[p+k]=ch:=⟨_,rfl⟩
  rw[QP]at hX hS⊢;rw[Dq]at hS q0;have lc:=ch.toNat_lt;have K2:IntKind.u64.wrap ((X:Int)*256)=(X:Int)*256:=by rw[IntKind.wrap_u64];omega
  have K3:bits .or .u64 ((X:Int)*256) (ch.toNat:Int)=((X*256+ch.toNat:Nat):Int):=Xr X _ hX lc;have HS:=Hh hS;have lA:(k:Int)+1≤9223372036854775807:=by have:=HZ.out;omega
  clear hX hS QP Dq ex FW;go_wp2_with fail
  go_roundw
  case rel=>exact⟨by trivial,k+1,by omega,by go_num,by rw[HS.out,Int.natCast_add,Int.natCast_mul];rfl⟩
  case measure=>simp[intOf];omega
 have cC:k=z:=by omega
 subst cC;have mj:¬ ((k:Int)<(k:Int)):=by omega
 have c1:=hBW.cell 1 rfl;obtain⟨X,QP⟩:∃ X,beN ((l.drop p).take k)=X:=⟨_,rfl⟩
 rw[QP];have HX:=Hh QP;clear QP;go_wp2_with (with_reducible refine zx ?_)
 refine zj rfl _ _ _ rfl rfl g 1 (.int .i64 ((p:Int)+(k:Int))) rfl rfl _ _ hBW wh (by simp) rfl fun w2 yQ yE=>?_
 have ye:=zK hGW yE (.inl rfl)
 have wi:Blk w2 g 175 (oC (some ⟨b,off,none⟩) l.length c (p+k) cnt):=by
  have e:((p+k:Nat):Int)=(p:Int)+(k:Int):=by omega
  rw[oC,e]
  exact yQ
 clear yQ yE hBW hGW c1;go_wp2_with fail
 go_ret2
 exact .inr ⟨HL.out,by rw[HX.out];rfl,wi,ye⟩
def HeadSaid (T:TypeId) (w:World) (g:Nat) (A:Option Addr) (c:Nat) (l:List UInt8) (p cnt:Nat) (e:Ending) (w':World):Prop :=
 match yr (l.drop p) with
 | .error q=>e=.returned (.tuple #[.int .u8 0,.int .u64 0,.int .i64 (q:Int)])∧(∃ p',p'≤l.length∧Blk w' g T (oC A l.length c p' cnt))∧w.grownBy w' (some g)
 | .ok (f,n,k)=>e=.returned (.tuple #[.int .u8 (f:Int),.int .u64 (n:Int),.int .i64 0])∧Blk w' g T (oC A l.length c (p+k) cnt)∧w.grownBy w' (some g)
theorem HeadSaid.err {T:TypeId}{w w':World}{g:Nat}{A:Option Addr}{c:Nat}{l:List UInt8}{p cnt:Nat}{e:Ending}{q:Nat}(h:yr (l.drop p)=.error q) (he:e=.returned (.tuple #[.int .u8 0,.int .u64 0,.int .i64 (q:Int)]))
  (p':Nat) (hp:p'≤l.length) (hb:Blk w' g T (oC A l.length c p' cnt)) (hg:w.grownBy w' (some g)):HeadSaid T w g A c l p cnt e w':=by
 rw[HeadSaid,h];exact⟨he,⟨p',hp,hb⟩,hg⟩
theorem HeadSaid.ok {T:TypeId}{w w':World}{g:Nat}{A:Option Addr}{c:Nat}{l:List UInt8}{p cnt:Nat}{e:Ending}{f n k:Nat}(h:yr (l.drop p)=.ok (f,n,k)) (he:e=.returned (.tuple #[.int .u8 (f:Int),.int .u64 (n:Int),.int .i64 0]))
  (hb:Blk w' g T (oC A l.length c (p+k) cnt)) (hg:w.grownBy w' (some g)):HeadSaid T w g A c l p cnt e w':=by
 rw[HeadSaid,h];exact⟨he,hb,hg⟩
theorem Iw:∀ X:Fin 256,bits .and .u8 ((X.val:Nat):Int) 31=((X.val%32:Nat):Int):=by decide
theorem Qz {l:List UInt8}{p:Nat}(hp:p<l.length):l.drop p=l[p]::l.drop (p+1):=List.drop_eq_getElem_cons hp
theorem pD {w:World}{g:Nat}{H:Snap}{A:Option Addr}{c:Nat}{l:List UInt8}{p cnt:Nat}(hP:Psr 175 w g H A c l p cnt) :
  Calls Tryz.prog 165 #[.pointer (some ⟨g,0,none⟩)] w (HeadSaid 175 w g A c l p cnt):=by
 have hB:=hP.blk;have c0:=jfj;have c1:=hB.cell 1 rfl;have pq:=hP.le;have ZI:=hP.small;have nN:=hP.bytes.le;have ZM:=hP.bytes.max;have HP:=Hh hP
 by_cases yu:p=l.length
 ·have E:Hid (yr (l.drop p)=.error 2):=by rw[Hid,yu,List.drop_length];rfl
  have z0:((p:Int)==(l.length:Int))=true:=by simp[yu]
  have HL:=Hh pq;clear pq ZI nN ZM hP yu;go_enter Tryz.func165,Tryz.ntmps165
  go_wp2_with fail
  go_big_quiet (fail)
  go_wp2_with fail
  go_ret3
  exact HeadSaid.err E.out rfl p HL.out hB (tu (ym w _) _)
 have z0:((p:Int)==(l.length:Int))=false:=by simp;omega
 have lB:p<l.length:=by omega
 have ZU:(p:Int)<(l.length:Int):=by omega
 have ZS:(0:Int)≤(p:Int):=by omega
 have jx:(p:Int)+1≤9223372036854775807:=by omega
 obtain⟨b,off,rfl,xP⟩:=hP.bytes.at_ (by omega);have HC:=Hh xP;have HH:=Hh hP.holds;have q0:=hP.holds.cell (xP p lB);have ED:=Hh (Qz lB);obtain⟨ch,Dq⟩:∃ ch,l[p]=ch:=⟨_,rfl⟩
 rw[Dq]at q0 ED;have lc:=ch.toNat_lt;have KA:=Iw ⟨ch.toNat,lc⟩
 simp only at KA
 obtain⟨low,vd⟩:∃ low,ch.toNat%32=low:=⟨_,rfl⟩
 rw[vd]at KA;have zBC:=Hh vd;have LZ:low<32:=by omega
 have HL:=Hh (And.intro lB (And.intro ZI (And.intro nN ZM)))
 have EH:Hid (yr (l.drop p)=if 27<low then .error 3 else if low<24 then .ok (ch.toNat,low,1) else if(l.drop (p+1)).length<2 ^ (low-24) then .error 2
   else if ch.toNat/32<7∧(yv 0 (beN ((l.drop (p+1)).take (2 ^ (low-24))))).length≠1+2 ^ (low-24) then .error 4
   else .ok (ch.toNat,beN ((l.drop (p+1)).take (2 ^ (low-24))),1+2 ^ (low-24))):=by rw[Hid,ED.out,yr,vd]
 clear pq ZI nN ZM hP yu xP Dq vd lB ED lc;go_enter Tryz.func165,Tryz.ntmps165
 go_wp2_with fail
 go_big_quiet (fail)
 obtain⟨w1,sW⟩:∃ W,w.drewN nq=W:=⟨_,rfl⟩
 obtain⟨xX,rS,pd⟩:=jgo;have q1:w1.cell? ⟨b,off+p,none⟩=some (zm ch):=sW ▸ q0;rw[sW];clear sW c0 c1 q0 hB;have c0:=xX.cell 0 rfl;have c1:=xX.cell 1 rfl;go_upto_region 3 with fail
 go_big_quiet (fail)
 obtain⟨w2,pj⟩:∃ W,w1.drewN nq=W:=⟨_,rfl⟩
 have yQ:Blk w2 g 175 (oC (some ⟨b,off,none⟩) l.length c p cnt):=pj ▸ xX;have yE:w.grownBy w2 (some g):=pj ▸ tu rS _;have pf:Holds w2 H:=pj ▸ pd;rw[pj];clear pj c0 c1 xX rS pd q1;have c1:=yQ.cell 1 rfl
 by_cases h27:27<low
 ·have z27:(27:Int)<(low:Int):=by omega
  have E:Hid (yr (l.drop p)=.error 3):=by rw[Hid,EH.out,if_pos h27]
  go_wp2_with fail
  go_ret3
  exact HeadSaid.err E.out rfl p (Nat.le_of_lt HL.out.1) yQ yE
 have z27:¬ ((27:Int)<(low:Int)):=by omega
 have E1:Hid (yr (l.drop p)=if low<24 then .ok (ch.toNat,low,1) else if(l.drop (p+1)).length<2 ^ (low-24) then .error 2
   else if ch.toNat/32<7∧(yv 0 (beN ((l.drop (p+1)).take (2 ^ (low-24))))).length≠1+2 ^ (low-24) then .error 4
   else .ok (ch.toNat,beN ((l.drop (p+1)).take (2 ^ (low-24))),1+2 ^ (low-24))):=by rw[Hid,EH.out,if_neg h27]
 clear EH;have K1:IntKind.i64.wrap ((p:Int)+1)=(p:Int)+1:=IntWalk.i64_in _ (by omega);go_wp2_with (with_reducible refine zx ?_)
 refine zj rfl _ _ _ rfl rfl g 1 (.int .i64 ((p:Int)+1)) rfl rfl _ _ yQ wh (by simp) rfl fun w3 wi hG3'=>?_
 have ye:=zK yE hG3' (.inl rfl);have wi:Blk w3 g 175 (oC (some ⟨b,off,none⟩) l.length c (p+1) cnt):=wi;have FE:Holds w3 H:=pf.grown hG3' (by rintro q ⟨⟩;exact HP.out.apart);clear yQ yE hG3' c1 pf K1
 by_cases og:low<24
 ·have z24:(low:Int)<24:=by omega
  have E:Hid (yr (l.drop p)=.ok (ch.toNat,low,1)):=by rw[Hid,E1.out,if_pos og]
  have KU:IntKind.u64.wrap (low:Int)=(low:Int):=by rw[IntKind.wrap_u64];omega
  go_wp2_with fail
  go_ret3
  exact HeadSaid.ok E.out rfl wi ye
 have z24:¬ ((low:Int)<24):=by omega
 have E2:Hid (yr (l.drop p)=if(l.drop (p+1)).length<2 ^ (low-24) then .error 2
   else if ch.toNat/32<7∧(yv 0 (beN ((l.drop (p+1)).take (2 ^ (low-24))))).length≠1+2 ^ (low-24) then .error 4
   else .ok (ch.toNat,beN ((l.drop (p+1)).take (2 ^ (low-24))),1+2 ^ (low-24))):=by rw[Hid,E1.out,if_neg og]
 clear E1;have Q5:Psr 175 w3 g H (some ⟨b,off,none⟩) c l (p+1) cnt:=⟨wi,HP.out.bytes,FE,HP.out.apart,HL.out.1,HP.out.small,HP.out.cnt_le⟩
 rcases(by omega:low=24∨low=25∨low=26∨low=27) with rfl | rfl | rfl | rfl
 ·have NM:=Hh (jY Q5 1 (by omega) (by omega))
  simp only[Nat.reduceSub,Nat.reducePow,Nat.reduceAdd]at E2
  clear h27 og z27 z24 LZ Q5;go_wp2_with fail
  refine NM.out.mono ?_
  rintro e w4 (⟨hs,rfl,oh,yF⟩ | ⟨hs,rfl,oh,yF⟩)
  ·exact jaU
  have E3:Hid (yr (l.drop p)=if ch.toNat/32<7∧(yv 0 (beN ((l.drop (p+1)).take 1))).length≠2 then .error 4 else .ok (ch.toNat,beN ((l.drop (p+1)).take 1),2)):=by
   exact jbV
  have wb:=zK ye yF (.inl rfl);have ad:=nr ((l.drop (p+1)).take 1);have mj:((l.drop (p+1)).take 1).length=1:=by rw[List.length_take,List.length_drop];omega
  rw[mj]at ad
  simp only[Nat.reducePow]at ad
  obtain⟨n,hn⟩:∃ n,beN ((l.drop (p+1)).take 1)=n:=⟨_,rfl⟩
  rw[hn]at E3 ad⊢;have HD:=jfA;have HS:=Hh hs;have oa:Blk w4 g 175 (oC (some ⟨b,off,none⟩) l.length c (p+2) cnt):=oh;clear NM hs E2 hn mj ad oh yF
  by_cases h7:ch.toNat/32<7
  ·have z7:(ch.toNat:Int)/32<7:=by omega
   have E4:Hid (yr (l.drop p)=if(yv 0 n).length≠2 then .error 4 else .ok (ch.toNat,n,2)):=by
    rw[Hid,E3.out]
    by_cases h:(yv 0 n).length=2 <;> simp[h,h7]
   clear E3 h7;go_wp2_with fail
   refine(HD.out _).mono ?_
   rintro e w5 ⟨r,rfl,hf⟩
   have ms:=oa.below hf.2;have xq:=wd wb hf.2;obtain⟨RA,rc,rfl,_⟩:=hf.own.form;obtain⟨hn,Wg⟩:∃ hn,(yv (0:Int).toNat (n:Int).toNat).length=hn:=⟨_,rfl⟩
   rw[Wg];have E5:Hid (yr (l.drop p)=if hn≠2 then .error 4 else .ok (ch.toNat,n,2)):=by rw[Hid,E4.out,← Wg];rfl
   clear hf HD E4 Wg oa wb
   by_cases hq:hn=2
   ·subst hq;have E:Hid (yr (l.drop p)=.ok (ch.toNat,n,2)):=by rw[Hid,E5.out,if_neg (by simp)]
    exact jbX
   have zq:((hn:Int)==2)=false:=by simp;omega
   have zq2:((hn:Int)=2)=False:=eq_false (by omega);have E:Hid (yr (l.drop p)=.error 4):=by rw[Hid,E5.out,if_pos hq]
   clear E5 hq z0 jx ZU ZS KA;go_wp2_with fail
   go_ret3
   exact HeadSaid.err E.out rfl (p+2) (by have:=HS.out;omega) ms xq
  have z7:¬ ((ch.toNat:Int)/32<7):=by omega
  have z7b:=jfU;have E:Hid (yr (l.drop p)=.ok (ch.toNat,n,2)):=by rw[Hid,E3.out,if_neg (fun h=>h7 h.1)]
  exact jbI
 ·have NM:=Hh (jY Q5 2 (by omega) (by omega))
  simp only[Nat.reduceSub,Nat.reducePow,Nat.reduceAdd]at E2
  clear h27 og z27 z24 LZ Q5;go_wp2_with fail
  refine NM.out.mono ?_
  rintro e w4 (⟨hs,rfl,oh,yF⟩ | ⟨hs,rfl,oh,yF⟩)
  ·exact jaU
  have E3:Hid (yr (l.drop p)=if ch.toNat/32<7∧(yv 0 (beN ((l.drop (p+1)).take 2))).length≠3 then .error 4 else .ok (ch.toNat,beN ((l.drop (p+1)).take 2),3)):=by
   exact jbV
  have wb:=zK ye yF (.inl rfl);have ad:=nr ((l.drop (p+1)).take 2);have mj:((l.drop (p+1)).take 2).length=2:=by rw[List.length_take,List.length_drop];omega
  rw[mj]at ad
  simp only[Nat.reducePow]at ad
  obtain⟨n,hn⟩:∃ n,beN ((l.drop (p+1)).take 2)=n:=⟨_,rfl⟩
  rw[hn]at E3 ad⊢;have HD:=jfA;have HS:=Hh hs;have oa:Blk w4 g 175 (oC (some ⟨b,off,none⟩) l.length c (p+3) cnt):=oh;clear NM hs E2 hn mj ad oh yF
  by_cases h7:ch.toNat/32<7
  ·have z7:(ch.toNat:Int)/32<7:=by omega
   have E4:Hid (yr (l.drop p)=if(yv 0 n).length≠3 then .error 4 else .ok (ch.toNat,n,3)):=by
    rw[Hid,E3.out]
    by_cases h:(yv 0 n).length=3 <;> simp[h,h7]
   clear E3 h7;go_wp2_with fail
   refine(HD.out _).mono ?_
   rintro e w5 ⟨r,rfl,hf⟩
   have ms:=oa.below hf.2;have xq:=wd wb hf.2;obtain⟨RA,rc,rfl,_⟩:=hf.own.form;obtain⟨hn,Wg⟩:∃ hn,(yv (0:Int).toNat (n:Int).toNat).length=hn:=⟨_,rfl⟩
   rw[Wg];have E5:Hid (yr (l.drop p)=if hn≠3 then .error 4 else .ok (ch.toNat,n,3)):=by rw[Hid,E4.out,← Wg];rfl
   clear hf HD E4 Wg oa wb
   by_cases hq:hn=3
   ·subst hq;have E:Hid (yr (l.drop p)=.ok (ch.toNat,n,3)):=by rw[Hid,E5.out,if_neg (by simp)]
    exact jbX
   have zq:((hn:Int)==3)=false:=by simp;omega
   have zq2:((hn:Int)=3)=False:=eq_false (by omega);have E:Hid (yr (l.drop p)=.error 4):=by rw[Hid,E5.out,if_pos hq]
   clear E5 hq z0 jx ZU ZS KA;go_wp2_with fail
   go_ret3
   exact HeadSaid.err E.out rfl (p+3) (by have:=HS.out;omega) ms xq
  have z7:¬ ((ch.toNat:Int)/32<7):=by omega
  have z7b:=jfU;have E:Hid (yr (l.drop p)=.ok (ch.toNat,n,3)):=by rw[Hid,E3.out,if_neg (fun h=>h7 h.1)]
  exact jbI
 ·have NM:=Hh (jY Q5 4 (by omega) (by omega))
  simp only[Nat.reduceSub,Nat.reducePow,Nat.reduceAdd]at E2
  clear h27 og z27 z24 LZ Q5;go_wp2_with fail
  refine NM.out.mono ?_
  rintro e w4 (⟨hs,rfl,oh,yF⟩ | ⟨hs,rfl,oh,yF⟩)
  ·exact jaU
  have E3:Hid (yr (l.drop p)=if ch.toNat/32<7∧(yv 0 (beN ((l.drop (p+1)).take 4))).length≠5 then .error 4 else .ok (ch.toNat,beN ((l.drop (p+1)).take 4),5)):=by
   exact jbV
  have wb:=zK ye yF (.inl rfl);have ad:=nr ((l.drop (p+1)).take 4);have mj:((l.drop (p+1)).take 4).length=4:=by rw[List.length_take,List.length_drop];omega
  rw[mj]at ad
  simp only[Nat.reducePow]at ad
  obtain⟨n,hn⟩:∃ n,beN ((l.drop (p+1)).take 4)=n:=⟨_,rfl⟩
  rw[hn]at E3 ad⊢;have HD:=jfA;have HS:=Hh hs;have oa:Blk w4 g 175 (oC (some ⟨b,off,none⟩) l.length c (p+5) cnt):=oh;clear NM hs E2 hn mj ad oh yF
  by_cases h7:ch.toNat/32<7
  ·have z7:(ch.toNat:Int)/32<7:=by omega
   have E4:Hid (yr (l.drop p)=if(yv 0 n).length≠5 then .error 4 else .ok (ch.toNat,n,5)):=by
    rw[Hid,E3.out]
    by_cases h:(yv 0 n).length=5 <;> simp[h,h7]
   clear E3 h7;go_wp2_with fail
   refine(HD.out _).mono ?_
   rintro e w5 ⟨r,rfl,hf⟩
   have ms:=oa.below hf.2;have xq:=wd wb hf.2;obtain⟨RA,rc,rfl,_⟩:=hf.own.form;obtain⟨hn,Wg⟩:∃ hn,(yv (0:Int).toNat (n:Int).toNat).length=hn:=⟨_,rfl⟩
   rw[Wg];have E5:Hid (yr (l.drop p)=if hn≠5 then .error 4 else .ok (ch.toNat,n,5)):=by rw[Hid,E4.out,← Wg];rfl
   clear hf HD E4 Wg oa wb
   by_cases hq:hn=5
   ·subst hq;have E:Hid (yr (l.drop p)=.ok (ch.toNat,n,5)):=by rw[Hid,E5.out,if_neg (by simp)]
    exact jbX
   have zq:((hn:Int)==5)=false:=by simp;omega
   have zq2:((hn:Int)=5)=False:=eq_false (by omega);have E:Hid (yr (l.drop p)=.error 4):=by rw[Hid,E5.out,if_pos hq]
   clear E5 hq z0 jx ZU ZS KA;go_wp2_with fail
   go_ret3
   exact HeadSaid.err E.out rfl (p+5) (by have:=HS.out;omega) ms xq
  have z7:¬ ((ch.toNat:Int)/32<7):=by omega
  have z7b:=jfU;have E:Hid (yr (l.drop p)=.ok (ch.toNat,n,5)):=by rw[Hid,E3.out,if_neg (fun h=>h7 h.1)]
  exact jbI
 have NM:=Hh (jY Q5 8 (by omega) (by omega))
 simp only[Nat.reduceSub,Nat.reducePow,Nat.reduceAdd]at E2
 clear h27 og z27 z24 LZ Q5;go_wp2_with fail
 refine NM.out.mono ?_
 rintro e w4 (⟨hs,rfl,oh,yF⟩ | ⟨hs,rfl,oh,yF⟩)
 ·exact jaU
 have E3:Hid (yr (l.drop p)=if ch.toNat/32<7∧(yv 0 (beN ((l.drop (p+1)).take 8))).length≠9 then .error 4 else .ok (ch.toNat,beN ((l.drop (p+1)).take 8),9)):=by
  exact jbV
 have wb:=zK ye yF (.inl rfl);have ad:=nr ((l.drop (p+1)).take 8);have mj:((l.drop (p+1)).take 8).length=8:=by rw[List.length_take,List.length_drop];omega
 rw[mj]at ad
 simp only[Nat.reducePow]at ad
 obtain⟨n,hn⟩:∃ n,beN ((l.drop (p+1)).take 8)=n:=⟨_,rfl⟩
 rw[hn]at E3 ad⊢;have HD:=jfA;have HS:=Hh hs;have oa:Blk w4 g 175 (oC (some ⟨b,off,none⟩) l.length c (p+9) cnt):=oh;clear NM hs E2 hn mj ad oh yF
 by_cases h7:ch.toNat/32<7
 ·have z7:(ch.toNat:Int)/32<7:=by omega
  have E4:Hid (yr (l.drop p)=if(yv 0 n).length≠9 then .error 4 else .ok (ch.toNat,n,9)):=by
   rw[Hid,E3.out]
   by_cases h:(yv 0 n).length=9 <;> simp[h,h7]
  clear E3 h7;go_wp2_with fail
  refine(HD.out _).mono ?_
  rintro e w5 ⟨r,rfl,hf⟩
  have ms:=oa.below hf.2;have xq:=wd wb hf.2;obtain⟨RA,rc,rfl,_⟩:=hf.own.form;obtain⟨hn,Wg⟩:∃ hn,(yv (0:Int).toNat (n:Int).toNat).length=hn:=⟨_,rfl⟩
  rw[Wg];have E5:Hid (yr (l.drop p)=if hn≠9 then .error 4 else .ok (ch.toNat,n,9)):=by rw[Hid,E4.out,← Wg];rfl
  clear hf HD E4 Wg oa wb
  by_cases hq:hn=9
  ·subst hq;have E:Hid (yr (l.drop p)=.ok (ch.toNat,n,9)):=by rw[Hid,E5.out,if_neg (by simp)]
   exact jbX
  have zq:((hn:Int)==9)=false:=by simp;omega
  have zq2:((hn:Int)=9)=False:=eq_false (by omega);have E:Hid (yr (l.drop p)=.error 4):=by rw[Hid,E5.out,if_pos hq]
  clear E5 hq z0 jx ZU ZS KA;go_wp2_with fail
  go_ret3
  exact HeadSaid.err E.out rfl (p+9) (by have:=HS.out;omega) ms xq
 have z7:¬ ((ch.toNat:Int)/32<7):=by omega
 have z7b:=jfU;have E:Hid (yr (l.drop p)=.ok (ch.toNat,n,9)):=by rw[Hid,E3.out,if_neg (fun h=>h7 h.1)]
 exact jbI
theorem fv (n:Nat) (w:World):(callFunc 202 #[.int .u32 (n:Int)]).run Tryz.prog w=.ok (.value (.float .f32 n)) w:=by
 rw[run_callFunc_extern Tryz.func202 (by kernel_rfl) (by kernel_rfl) (by kernel_rfl) (e:=Extern.MathFloatBits.float32frombits) (by kernel_rfl)];rfl
theorem Vd {r:Nat}(hr:r<4294967296) (h:r/8388608%256=255∧r%8388608≠0):(Ieee.single.read r).isNaN=true:=by
 obtain⟨e1,e2,e3⟩:=jfM;obtain⟨h1,h2⟩:=h
 unfold Ieee.Format.read
 rw[e1,e2,e3]
 simp only[show ¬ r%2147483648<8388608 by omega,show ¬ r%2147483648<2139095040 by omega,show ¬ r%2147483648=2139095040 by omega,if_false]
 rfl
theorem Ue (r:Nat) (hr:r<4294967296) (w:World):∃ m w',(convert 200 198 (.float .f32 r)).run Tryz.prog w=.ok (.float .f64 m) w'∧(w'=w∨w'=w.drew)∧m<18446744073709551616∧
  ((r/8388608%256=255∧r%8388608≠0)→isNaN m=true)∧(¬ (r/8388608%256=255∧r%8388608≠0)→m=uK r):=by
 obtain⟨hs,hd⟩:=jgn
 by_cases hx:r/8388608%256=255∧r%8388608≠0
 ·have hn:=Vd hr hx
  cases hq:FloatKind.decode .f32 r with
  | number a b c =>
   exact jdF
  | infinity a =>
   exact jdH
  | nan a b =>
  have gC:isNaN ((Question.nanConv .f64 r).cut (w.tape w.drawn (Question.nanConv .f64 r)))=true∧((Question.nanConv .f64 r).cut (w.tape w.drawn (Question.nanConv .f64 r)))<18446744073709551616:=by
   rw[iG];show((_%2*2 ^ 63+0x7ff0000000000000+1+_/2%(2 ^ 52-1))/2 ^ 52%2048=2047∧_)∧_
   generalize w.tape w.drawn (Question.nanConv .f64 r)=t
   show((t%2*2 ^ 63+0x7ff0000000000000+1+t/2%(2 ^ 52-1))/2 ^ 52%2048=2047∧(t%2*2 ^ 63+0x7ff0000000000000+1+t/2%(2 ^ 52-1))%2 ^ 52≠0)∧t%2*2 ^ 63+0x7ff0000000000000+1+t/2%(2 ^ 52-1)<18446744073709551616
   exact jb5
  refine⟨(Question.nanConv .f64 r).cut (w.tape w.drawn (Question.nanConv .f64 r)),w.drew, ?_,.inr rfl,gC.2,fun _=>gC.1,fun h=>absurd hx h⟩
  exact jdf
 obtain⟨Et,yu⟩:=kR hr hx;have hw:=a8 Et;have Io:(Tryz.prog.underlying 200).isSome=true:=by rw[hs];rfl
 exact⟨uK r,w,run_convert_float_float (P:=Tryz.prog) (w:=w) 200 198 .f32 .f64 r _ Io hd hw,.inl rfl,yu,fun h=>absurd h hx,fun _=>rfl⟩
abbrev br:Value:=.agg #[.int .i64 0,.int .u64 0,.slice none 0 0,.slice none 0 0]
def SevenSaid (w:World) (low n:Nat) (e:Ending) (w':World):Prop :=
 Below w.heap.size w w'∧match xV low n with
  | .error q=>e=.returned (.tuple #[br,.int .i64 (q:Int)])
  | .ok x=>e=.returned (.tuple #[xp x none 0 none 0,.int .i64 0])
theorem SevenSaid.err {w w':World}{low n q:Nat}{e:Ending}(h:xV low n=.error q) (he:e=.returned (.tuple #[br,.int .i64 (q:Int)])) (hb:Below w.heap.size w w'):SevenSaid w low n e w':=by
 rw[SevenSaid,h];exact⟨hb,he⟩
theorem SevenSaid.ok {w w':World}{low n:Nat}{x:Itm}{e:Ending}(h:xV low n=.ok x) (he:e=.returned (.tuple #[xp x none 0 none 0,.int .i64 0])) (hb:Below w.heap.size w w'):SevenSaid w low n e w':=by
 rw[SevenSaid,h];exact⟨hb,he⟩
theorem ef (low n:Nat) (h:25≤low):xV low n=if(isNaN (uj low n)&&uj low n != yg)||(yx (uj low n)).length != 1+2 ^ (low-24) then .error 4 else .ok (.mk 8 (uj low n) [] []):=by
 rw[xV,if_neg (by omega),if_neg (by omega)]
theorem Sf {v:Nat}(hv:v<65536):wS v<18446744073709551616:=by
 rw[wS]
 split
 ·decide
 rename_i h;exact(kQ hv h).2
theorem km:isNaN yg=true:=by decide +kernel
theorem Kl {n:Nat}(hn:n<65536):xV 25 n=if wS n=yg∧n≠32256 then .error 4 else if(yx (wS n)).length≠3 then .error 4 else .ok (.mk 8 (wS n) [] []):=by
 rw[ef 25 n (by omega),show uj 25 n=vI n by rw[uj,if_pos rfl]]
 by_cases hx:n/1024%32=31∧n%1024≠0
 ·obtain⟨q1,q2⟩:=eI hn hx;have hq:wS n=yg:=by rw[wS,if_pos hx]
  rw[hq,q1]
  by_cases h:n=32256
  ·have h5:=q2.2 h;have L:(yx yg).length=3:=by rw[uW km];rfl
   rw[h5,L]
   simp[h]
  have h5:vI n≠yg:=fun h'=>h (q2.1 h')
  have b5:(vI n != yg)=true:=by rw[bne_iff_ne];exact h5
  rw[b5]
  simp[h]
 obtain⟨q1,q2⟩:=kQ hn hx;have q3:=jL q1;have hq:wS n=vI n:=by rw[wS,if_neg hx]
 have vl:vI n≠yg:=fun h=>by rw[h,km]at q3;cases q3
 rw[hq,q3]
 generalize vI n=D at *
 simp[vl]
theorem Km {n m:Nat}(hn:n<4294967296) (h1:(n/8388608%256=255∧n%8388608≠0)→isNaN m=true) (h2:¬ (n/8388608%256=255∧n%8388608≠0)→m=uK n) :
  xV 26 n=if(yx m).length≠5 then .error 4 else .ok (.mk 8 m [] []):=by
 rw[ef 26 n (by omega),show uj 26 n=uK n by rw[uj,if_neg (by omega),if_pos rfl]]
 by_cases hx:n/8388608%256=255∧n%8388608≠0
 ·have q1:=eJ hn hx;have L1:(yx (uK n)).length=3:=by rw[uW q1];rfl
  have L2:(yx m).length=3:=by rw[uW (h1 hx)];rfl
  rw[L1,L2]
  simp
 obtain⟨q1,q2⟩:=kR hn hx;have q3:=jM q1;rw[h2 hx,q3]
 generalize uK n=D at *
 simp
theorem Kn {n:Nat}:xV 27 n=if(yx n).length≠9 then .error 4 else .ok (.mk 8 n [] []):=by
 rw[ef 27 n (by omega),show uj 27 n=n by rw[uj,if_neg (by omega),if_neg (by omega)]]
 cases h:isNaN n with
 | true =>
  have L:(yx n).length=3:=by rw[uW h];rfl
  rw[L];simp
 | false=>simp
theorem Ua (f n:Nat) (hf:f<256) (vd:f%32≤27) (hn:n<18446744073709551616) (h25:f%32=25→n<65536) (h26:f%32=26→n<4294967296) (w:World) :
  Calls Tryz.prog 166 #[.int .u8 (f:Int),.int .u64 (n:Int)] w (SevenSaid w (f%32) n):=by
 have KA:=Iw ⟨f,hf⟩
 simp only at KA
 obtain⟨low,hl⟩:∃ low,f%32=low:=⟨_,rfl⟩
 rw[hl]at KA vd h25 h26⊢;have gG:=Blk.new w 26 #[.int .i64 0,.int .u64 0,.slice none 0 0,.slice none 0 0];have xo:=zo w zi;have HN:=Hh hn;have H25:=Hh h25;have H26:=Hh h26;clear hn h25 h26 hl hf
 by_cases og:low<24
 ·have e1:((low:Int)==24)=false:=by simp;omega
  have e2:((low:Int)==25)=false:=by simp;omega
  have e3:((low:Int)==26)=false:=by simp;omega
  have e4:((low:Int)==27)=false:=by simp;omega
  have p1:((low:Int)=24)=False:=eq_false (by omega);have p2:((low:Int)=25)=False:=eq_false (by omega);have p3:((low:Int)=26)=False:=eq_false (by omega);have p4:((low:Int)=27)=False:=eq_false (by omega);have E:Hid (xV low n=.ok (.mk 7 n [] [])):=by rw[Hid,xV,if_pos og]
  clear vd og;exact jex
 rcases(by omega:low=24∨low=25∨low=26∨low=27) with rfl | rfl | rfl | rfl
 ·by_cases h32:n<32
  ·have z32:(n:Int)<32:=by omega
   have E:Hid (xV 24 n=.error 4):=by rw[Hid,xV,if_neg (by omega),if_pos rfl,if_pos h32]
   clear h32 vd og;go_enter Tryz.func166,Tryz.ntmps166
   exact jeE
  have z32:¬ ((n:Int)<32):=by omega
  have E:Hid (xV 24 n=.ok (.mk 7 n [] [])):=by rw[Hid,xV,if_neg (by omega),if_pos rfl,if_neg h32]
  clear h32 vd og;exact jex
 ·have hn:=H25.out rfl;have K1:IntKind.u16.wrap (n:Int)=(n:Int):=IntWalk.u16_in _ (by omega);have FL:=Hh (fun w=>sA (wS n) (Sf hn) w);have E0:=Hh (Kl hn);obtain⟨D,hD⟩:∃ D,wS n=D:=⟨_,rfl⟩
  have WD:=Hh (show ∀ w,Calls Tryz.prog 201 #[.int .u16 (n:Int)] w fun e w'=>e=.returned (.int .u64 (D:Int))∧w'=w from fun w=>by
   have h:=Ub n hn w
   unfold OH at h
   rw[hD]at h
   exact h)
  rw[hD]at FL E0;clear hn hD vd og
  by_cases hc:D=yg∧n≠32256
  ·have c1:((D:Int)==9221120237041090560)=true:=by rw[hc.1];rfl
   have c2:((n:Int) != 32256)=true:=by rw[bne_iff_ne];omega
   have c1':((D:Int)=9221120237041090560)=True:=eq_true (by rw[hc.1];rfl);have c2':((n:Int)=32256)=False:=eq_false (by omega);have E:Hid (xV 25 n=.error 4):=by rw[Hid,E0.out,if_pos hc]
   clear hc E0 FL;go_enter Tryz.func166,Tryz.ntmps166
   go_wp2_with fail
   refine(WD.out _).mono ?_
   rintro e w1 ⟨rfl,rfl⟩
   exact jeE
  have E1:Hid (xV 25 n=if(yx D).length≠3 then .error 4 else .ok (.mk 8 D [] [])):=by rw[Hid,E0.out,if_neg hc]
  clear E0
  by_cases hD:D=yg
  ·have MN:n=32256:=Classical.byContradiction fun h=>hc ⟨hD,h⟩
   have c1:((D:Int)==9221120237041090560)=true:=by rw[hD];rfl
   have c1':((D:Int)=9221120237041090560)=True:=eq_true (by rw[hD];rfl);have c2:((n:Int) != 32256)=false:=by rw[MN];rfl
   have c2':((n:Int)=32256)=True:=eq_true (by rw[MN];rfl);clear hc hD MN;exact jaD
  have c1:((D:Int)==9221120237041090560)=false:=by rw[beq_eq_false_iff_ne];intro h;exact hD (by show D=9221120237041090560;omega)
  have c1':((D:Int)=9221120237041090560)=False:=eq_false (by intro h;exact hD (by show D=9221120237041090560;omega));clear hc hD;exact jaD
 ·have hn:=H26.out rfl;have K1:IntKind.u32.wrap (n:Int)=(n:Int):=IntWalk.u32_in _ (by omega);have r1:=fv n;obtain⟨W0,hW0⟩:∃ W0,w.alloc zi=W0:=⟨_,rfl⟩
  obtain⟨D,w2,We,pj,JH,mu,jw⟩:=Ue n hn W0;have E1:=Hh (Km hn mu jw);have r2:=yV D;have FL:=Hh (fun w=>sA D JH w)
  have zG:Below w.heap.size w w2:=by
   rw[← hW0]at pj
   rcases pj with rfl | rfl
   ·exact xo
   exact xo.drew
  have yQ:Blk w2 w.heap.size 26 #[.int .i64 0,.int .u64 0,.slice none 0 0,.slice none 0 0]:=by
   rw[← hW0]at pj
   rcases pj with rfl | rfl
   ·exact gG
   exact gG.drew
  clear hn mu jw pj JH vd og gG xo;go_enter Tryz.func166,Tryz.ntmps166
  go_upto_region 13 with fail
  clear hW0;go_wp2_with fail
  refine(FL.out _).mono ?_
  rintro e w3 ⟨r,rfl,lJ⟩
  obtain⟨RA,rc,rfl,_⟩:=lJ.own.form;have wi:=yQ.below lJ.2;have xj:=zG.trans (lJ.2.mono zG.size);obtain⟨fl,dE⟩:∃ fl,(yx D).length=fl:=⟨_,rfl⟩
  rw[dE]at E1⊢;clear lJ dE FL
  by_cases hq:fl=5
  ·subst hq;have E:Hid (_=Except.ok (Itm.mk 8 D [] [])):=E1.out.trans (if_neg (by simp));exact jaS
  have zq:((fl:Int)==5)=false:=by simp;omega
  have zq2:((fl:Int)=5)=False:=eq_false (by omega);exact jaI
 have E1:=Hh (Kn (n:=n));have FL:=Hh (fun w=>sA n HN.out w);have zG:=xo;have yQ:=gG;clear vd og gG xo;obtain⟨D,hD⟩:∃ D,n=D:=⟨_,rfl⟩
 subst hD;go_enter Tryz.func166,Tryz.ntmps166
 go_wp2_with fail
 refine(FL.out _).mono ?_
 rintro e w3 ⟨r,rfl,lJ⟩
 obtain⟨RA,rc,rfl,_⟩:=lJ.own.form;have wi:=yQ.below lJ.2;have xj:=zG.trans (lJ.2.mono zG.size);obtain⟨fl,dE⟩:∃ fl,(yx n).length=fl:=⟨_,rfl⟩
 rw[dE]at E1⊢;clear lJ dE FL
 by_cases hq:fl=9
 ·subst hq;have E:Hid (_=Except.ok (Itm.mk 8 n [] [])):=E1.out.trans (if_neg (by simp));exact jaS
 have zq:((fl:Int)==9)=false:=by simp;omega
 have zq2:((fl:Int)=9)=False:=eq_false (by omega);exact jaI
section
variable {w w' w'':World} {H H' H'':Snap} {g:Nat}
theorem GrowsBut.refl (hH:Holds w H) (g:Nat):GrowsBut w H w H g:=⟨ym w _,Snap.le.refl _,hH,fun _ _ h=>.inl h⟩
theorem GrowsBut.trans (h:GrowsBut w H w' H' g) (k:GrowsBut w' H' w'' H'' g):GrowsBut w H w'' H'' g :=
 ⟨zK h.grown k.grown (.inl rfl),h.le.trans k.le,k.holds,fun b o hb=>by
  rcases k.fresh b o hb with h1 | h1
  ·exact h.fresh b o h1
  exact .inr (Nat.le_trans h.grown.size h1)⟩
theorem Grows.but (h:Grows w H w' H') (g:Nat):GrowsBut w H w' H' g:=⟨wj h.below _,h.le,h.holds,h.fresh⟩
theorem GrowsBut.hid (h:GrowsBut w H w' H' g) {k:Nat}(hk:H k=.none) (hl:k<w.heap.size):H' k=.none:=by
 cases hH:H' k with
 | none=>rfl
 | some o =>
 rcases h.fresh k o hH with hx | hx
 ·rw[hk]at hx;cases hx
 omega
structure DeckIn (w:World) (g:Nat) (H:Snap):Prop where
 deck:Deck w g H
 holds:Holds w H
 apart:H g=.none
structure Dealt (w:World) (H:Snap) (w':World) (H':Snap) (g:Nat):Prop where
 grows:GrowsBut w H w' H' g
 deck:DeckIn w' g H'
theorem Dealt.trans (h:Dealt w H w' H' g) (k:Dealt w' H' w'' H'' g):Dealt w H w'' H'' g:=⟨h.grows.trans k.grows,k.deck⟩
theorem DeckIn.grows (h:DeckIn w g H) (k:Grows w H w' H'):Dealt w H w' H' g :=
 ⟨k.but g,⟨(h.deck.below k.below).mono k.le,k.holds,k.none h.apart h.deck.lt⟩⟩
theorem Dealt.grown (h:Dealt w H w' H' g) (k:Grows w' H' w'' H''):Dealt w H w'' H'' g:=h.trans (h.deck.grows k)
theorem Dealt.alloc (h:Dealt w H w' H' g) (o:Obj):Dealt w H (w'.alloc o) H' g:=h.grown ((Grows.refl h.deck.holds).alloc o)
theorem Dealt.drew (h:Dealt w H w' H' g):Dealt w H w'.drew H' g:=h.grown ((Grows.refl h.deck.holds).drew)
theorem DeckIn.alloc (h:DeckIn w g H) (o:Obj):DeckIn (w.alloc o) g H:=(h.grows ((Grows.refl h.holds).alloc o)).deck
theorem Dealt.le (h:Dealt w H w' H' g):H.le H':=h.grows.le
theorem Dealt.holds (h:Dealt w H w' H' g):Holds w' H':=h.deck.holds
theorem Dealt.size (h:Dealt w H w' H' g):w.heap.size≤w'.heap.size:=h.grows.grown.size
theorem Dealt.hid (h:Dealt w H w' H' g) {k:Nat}(hk:H k=.none) (hl:k<w.heap.size):H' k=.none:=h.grows.hid hk hl
theorem Dealt.grownRow {row:Option Nat}(h:Dealt w H w' H' g) (h0:∀ k,row=some k→H' k=.none) (hw:∀ k,row=some k→w.heap.size≤k) (yu:g<w.heap.size) (hg:w'.grownBy w'' row):Dealt w H w'' H' g:=by
 have hd:=h.deck;have vl:row≠some g:=fun e=>by have:=hw g e;omega
 refine⟨⟨?_,h.le,h.holds.grown hg h0,h.grows.fresh⟩, ?_,h.holds.grown hg h0,hd.apart⟩
 ·exact⟨hg.os.trans h.grows.grown.os,hg.tape.trans h.grows.grown.tape,hg.output.trans h.grows.grown.output,Nat.le_trans h.size hg.size,fun i hi hne' =>
   (hg.block i (Nat.lt_of_lt_of_le hi h.size) (fun e=>by have:=hw i e.symm;omega)).trans (h.grows.grown.block i hi hne')⟩
 obtain⟨A,c,l,k,h1,h2,h3⟩:=hd.deck
 exact⟨A,c,l,k,h1.grown hg vl,h2,h3⟩
theorem Blk.dealt {k:Nat}{t:TypeId}{cs:Array Value}(h:Blk w k t cs) (hd:Dealt w H w' H' g) (hk:k≠g):Blk w' k t cs :=
 h.grown hd.grows.grown (by intro e;injection e with e;exact hk e.symm)
theorem OwnB.dealt {base:Nat}{v:Value}{l:List UInt8}(h:OwnB w base v l) (hd:Dealt w H w' H' g) (hb:g<base):OwnB w' base v l:=by
 exact jbt
theorem OwnI.dealt {base:Nat}{v:Value}{K:Snap}{l:List Itm}(h:OwnI w base v K l) (hd:Dealt w H w' H' g) (hb:g<base):OwnI w' base v K l:=by
 exact jbt
end
theorem yN {H:Snap}{g:Nat}(w:World) (hD:DeckIn w g H) (n:Int) (hn:0<n) (tF:n≤1099511627776) :
  Calls Tryz.prog 28 #[.pointer (some ⟨g,0,none⟩),.int .i64 n] w fun e w'=>∃ r:Nat,e=.returned (.int .i64 (r:Int))∧(r:Int)<n∧Dealt w H w' H g:=by
 refine(KO w hD.deck hD.holds hD.apart n hn tF).mono ?_
 rintro e w' ⟨r,rfl,h0,h1,h2,h3⟩
 obtain⟨k,rfl⟩:=Int.eq_ofNat_of_zero_le h0;have hH:=hD.holds.grown h3 (by rintro q ⟨⟩;exact hD.apart)
 exact⟨k,rfl,h1,⟨h3,Snap.le.refl _,hH,fun _ _ h=>.inl h⟩,h2,hH,hD.apart⟩
theorem eY {H:Snap}{g:Nat}(w:World) (hD:DeckIn w g H) (n:Int) (hn:0≤n) (tF:n≤1048576) :
  Calls Tryz.prog 44 #[.pointer (some ⟨g,0,none⟩),.int .i64 n] w fun e w' =>
   ∃ A c l,e=.returned (.slice A l.length c)∧(l.length:Int)≤n∧∃ H',IsBytes H' A c l∧Dealt w H w' H' g:=by
 obtain⟨NX,K0,wl,HN⟩:=jgO;have HD:=Hh hD;clear hn tF hD;go_enter Tryz.func44,Tryz.ntmps44
 go_wp2_with fail
 refine NX.out.mono ?_
 rintro e w1 ⟨r,rfl,hr,tq⟩
 have uQ:=OwnB.nil w1 w.heap.size;go_wp2_with fail
 go_loopw [5,6] (fun v5 v6 wr=>∃ (k:Nat) (VA:Option Addr) (vc vn:Nat) (l:List UInt8),v6=.int .i64 (k:Int)∧v5=.slice VA vn vc∧OwnB wr w.heap.size (.slice VA vn vc) l∧vn=l.length∧(l.length:Int)+k≤n∧Dealt w H wr H g∧(∀ q,(Value.slice VA vn vc).ownBlock=some q→H q=none)) (fun _ v6 _=>(intOf v6).toNat)
 case atStart=>exact⟨r,_,_,_,_,rfl,rfl,uQ,rfl,by simp;omega,tq,by intro q hq;simp[Value.ownBlock]at hq⟩
 case round =>
 obtain⟨k,VA,vc,vn,l,rfl,rfl,ve,cE,JV,sN,lj⟩:=hrel;have HV:=Hh cE;have Lq:=Hh JV;clear cE JV
 by_cases yu:(0:Int)<(k:Int)
 ·have NX:=Hh (yN wr sN.deck 256 (by omega) (by omega));go_wp2_with fail
  refine NX.out.mono ?_
  rintro e w2 ⟨q,rfl,hq,xz⟩
  have hd:=sN.trans xz;have ob:=ve.dealt xz wl;have K1:IntKind.u8.wrap (q:Int)=(q:Int):=IntWalk.u8_in _ (by omega);have l8:=ob.alloc (.cells #[.int .u8 (q:Int)] 5);have wH:=hd.alloc (.cells #[.int .u8 (q:Int)] 5)
  have HC:Hid ((#[.int .u8 (q:Int)]:Array Value).toList=[u8 q].map zm):=by
   simp only[Hid,List.map_cons,List.map_nil,wU]
   congr 2
   omega
  have lA:(-9223372036854775808:Int)≤(k:Int)-1∧(k:Int)-1≤9223372036854775807:=by have:=Lq.out;have:=HN.out;omega
  clear hq NX sN ve xz ob hd;go_wp2_with (at_builtin;refine zH ?_)
  unfold zC
  obtain rfl:=HV.out
  refine zg rfl (.tmp 15) (.tmp 19) rfl w.heap.size (.slice VA l.length vc) _ rfl l8 _ 1 _ [u8 q] rfl rfl (Src.new _ _ _ _ rfl _ HC.out) (by have:=Lq.out;have:=HN.out;simp;omega) wH.size fun v' w7 vT ww hat7=>?_
  obtain⟨VA',vc',rfl,_⟩:=vT.form;have qz:=wH.grownRow lj (fun q hq=>(l8.lt q hq).1) wl ww
  have pm:∀ q',(Value.slice VA' (l++[u8 q]).length vc').ownBlock=some q'→H q'=none:=fun q' ag=>by
   rcases hat7 with h | ⟨g',h1,h2⟩
   ·exact lj q' (by rw[← h,ag])
   rw[ag]at h1;injection h1 with h1
   subst h1
   exact wH.holds.none_of_ge h2
  have TF:(l++[u8 q]).length=l.length+1:=by simp
  rw[TF]at vT pm;rw[TF];clear TF;have ZQ:IntKind.i64.wrap ((k:Int)-1)=(k:Int)-1:=IntWalk.i64_in _ lA;clear l8 ww hat7 wH lA;go_wp2_with fail
  go_roundw
  case rel=>exact⟨k-1,VA',vc',_,_,by rw[show((k-1:Nat):Int)=(k:Int)-1 by omega],rfl,vT,by simp,by have:=Lq.out;simp;omega,qz,pm⟩
  case measure=>simp[intOf];omega
 go_wp2_with fail
 obtain rfl:=HV.out;obtain⟨H',JU,FQ,ZP,Mm,ip⟩:=ve.snap sN.holds (fun q hq=>lj q (by cases VA <;> simp_all [Value.ownBlock]));have hG:Grows wr H wr H'→True:=fun _=>trivial
 go_ret
 refine⟨VA,vc,l,rfl,by have:=Lq.out;omega,H',ip,⟨⟨sN.grows.grown,JU,FQ,fun b o hb=>?_⟩,sN.deck.deck.mono JU,FQ, ?_⟩⟩
 ·rcases ZP b o hb with h | h
  ·exact .inl h
  exact .inr (ve.lt b (by cases VA <;> simp_all [Value.ownBlock])).1
 cases hH:H' g with
 | none=>rfl
 | some o =>
 rcases ZP g o hH with h | h
 ·rw[HD.out.apart]at h;cases h
 have:=(ve.lt g (by cases VA <;> simp_all [Value.ownBlock])).1
 omega
theorem Dealt.gb {w w' w'':World}{H H':Snap}{g k:Nat}(h:Dealt w H w' H' g) (h0:H' k=none) (hw:w.heap.size≤k) (yu:g<w.heap.size) (hg:w'.grownBy w'' (some k)):Dealt w H w'' H' g:=h.grownRow (row:=some k) (by rintro q ⟨⟩;exact h0) (by rintro q ⟨⟩;exact hw) yu hg
end Go.Proofs.YtliomcphdnppnaaGreatDoor
