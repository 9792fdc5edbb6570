/- squeezed. Walks: the library's Ldexp, Inf, C -/
import Derived.Test.YtkmlnjociijpgaaGreatDoorK21
import Derived.BigQuiet
import Derived.OwnWalk
set_option linter.unusedVariables false
set_option linter.unusedSimpArgs false
set_option maxRecDepth 100000
set_option maxHeartbeats 6400000
namespace Go.Proofs.YtkmlnjociijpgaaGreatDoor
open Go.RowKit
theorem jai{P:Prop}(h:P:=by exact jeJ):P:=h
theorem jay{P:Prop}(h:P:=by
 go_enter Tryz.func169,Tryz.ntmps169
 go_wp2_with fail
 refine(WD.out _).mono ?_
 rintro e w1 ⟨rfl,rfl⟩
 go_wp2_with fail
 refine(FL.out _).mono ?_
 rintro e w3 ⟨r,rfl,cW⟩
 obtain⟨RA,rc,rfl,_⟩:=cW.own.form;have ug:=kT.below cW.2;have yR:=yB.trans (cW.2.mono yB.size);obtain⟨fl,fO⟩:∃ fl,(yw D).length=fl:=⟨_,rfl⟩
 rw[fO]at E1⊢;clear cW fO FL
 by_cases hq:fl=3
 ·subst hq;have E:Hid (_=Except.ok (Itm.mk 8 D [] [])):=E1.out.trans (if_neg (by simp));exact jee
 have zq:((fl:Int)==3)=false:=by simp;omega
 have zq2:((fl:Int)=3)=False:=eq_false (by omega);exact jd1):P:=h
theorem jaA{P:Prop}(h:P:=by exact jd1):P:=h
theorem jaB{P:Prop}(h:P:=by
 obtain⟨R,hR⟩:∃ R,9223372036854775808+D=R:=⟨_,rfl⟩
 rw[hR]at CS;have WW:Hid (xF v=R):=by rw[Hid,← hR,WQ.out];try omega
 have r9:=z6 R;clear hR;go_wp2_with fail
 refine(CS.out _).mono ?_
 rintro e w1 ⟨rfl,rfl⟩
 exact je0):P:=h
theorem jaH{P:Prop}(h:P:=by exact jee):P:=h
theorem jaJ{P:Prop}(h:P:=by
 have E:Hid (zH (l.drop p)=.error 2):=by rw[Hid,E2.out,if_pos (by rw[List.length_drop];have:=HL.out.1;omega)]
 have xx:=zG yA xK (.inl rfl);clear NM hs;go_wp2_with fail
 go_ret3
 exact HeadSaid.err E.out rfl (p+1) HL.out.1 ss xx):P:=h
theorem jaY{P:Prop}(h:P:=by exact je0):P:=h
theorem ja9{P:Prop}(h:P:=by exact jfa):P:=h
theorem jba{P:Prop}(h:P:=by exact jfb):P:=h
theorem jbB{P:Prop}(h:P:=by
 exact⟨hg.os.trans h.grows.grown.os,hg.tape.trans h.grows.grown.tape,hg.output.trans h.grows.grown.output,Nat.le_trans h.size hg.size,fun i hi hne' =>
   (hg.block i (Nat.lt_of_lt_of_le hi h.size) (fun e=>by have:=hw i e.symm;omega)).trans (h.grows.grown.block i hi hne')⟩):P:=h
theorem jbK{P:Prop}(h:P:=by
 clear E3 h7 HD z7 z0;go_wp2_with fail
 go_ret3
 exact HeadSaid.ok E.out rfl ts xx):P:=h
theorem jbS{P:Prop}(h:P:=by rw[Hid,E2.out,if_neg (by rw[List.length_drop];have:=HL.out.1;omega)]):P:=h
theorem jbU{P:Prop}(h:P:=by
 clear E5;go_wp2_with fail
 go_ret3
 exact HeadSaid.ok E.out rfl rT y8):P:=h
theorem jce{P:Prop}(h:P:=by
 refine h.kept hd.grows.grown ?_
 cases hv:v.ownBlock with
 | none=>exact .inl rfl
 | some k=>exact .inr (fun e=>by injection e with e;have:=h.lt k hv;omega)):P:=h
theorem jcM{P:Prop}(h:P:=by
 go_wp2_with fail
 go_big_quiet (fail)
 go_wp2_with fail
 go_ret2
 exact .inl ⟨HL.out,rfl,hB,wX (yN w _) _⟩):P:=h
theorem jcW{P:Prop}(h:P:=by
 go_wp2_with fail
 refine zo rfl rfl hTy rfl rfl zj rfl ?_
 exact ItemOut.err (q:=8) E.out rfl xr):P:=h
theorem jdv{P:Prop}(h:P:=by
 simp only[Bool.false_eq_true,if_false,Nat.shiftLeft_zero]
 omega):P:=h
theorem jdw{P:Prop}(h:P:=by
 go_wp2_with fail
 go_ret
 exact⟨by first | rfl | simp[o1],rfl⟩):P:=h
theorem jdZ{P:Prop}(h:P:=by
 go_enter Tryz.func197,Tryz.ntmps197
 go_wp2_with fail
 refine(LD.out _).mono ?_
 rintro e w1 ⟨rfl,rfl⟩
 have RSB:=Hh (z6 D)
 rcases(by have:=HX.out.1;omega:s=0∨s=1) with rfl | rfl
 ·exact jfe
 have CS:=Hh (fun w=>sL (D:=D) (by exact HD.out) w);exact jaB):P:=h
theorem jd1{P:Prop}(h:P:=by
 have E:Hid (_=Except.error 4):=E1.out.trans (if_pos hq);clear E1 hq;go_wp2_with (with_reducible refine zx ?_)
 refine stI ug fun wz hTy hgz=>?_
 have rM:=zp yR hgz (by rintro q ⟨⟩;exact Nat.le_refl _);exact jfa):P:=h
theorem jee{P:Prop}(h:P:=by
 clear E1;go_wp2_with (with_reducible refine zx ?_)
 refine stI ug fun wz hTy hgz=>?_
 have rM:=zp yR hgz (by rintro q ⟨⟩;exact Nat.le_refl _);exact jfb):P:=h
theorem jef{P:Prop}(h:P:=by
 clear hD;have RSB:=Hh (z6 D)
 rcases(by have:=HX.out.1;omega:s=0∨s=1) with rfl | rfl
 ·exact jfe
 have CS:=Hh (fun w=>sL (D:=D) (by rw[← HD.out];omega) w);exact jaB):P:=h
theorem jei{P:Prop}(h:P:=by
 go_wp2_with (with_reducible refine zx ?_)
 refine stI yE fun wz hTy hgz=>?_
 have xr:=wI.grownRow (row:=some w.heap.size) (by rintro q ⟨⟩;exact wg) (by rintro q ⟨⟩;exact Nat.le_refl _) yo hgz;exact jai):P:=h
theorem jek{P:Prop}(h:P:=by
 go_enter Tryz.func169,Tryz.ntmps169
 go_wp2_with (with_reducible refine zx ?_)
 refine stI kT fun wz hTy hgz=>?_
 have rM:=zp yB hgz (by rintro q ⟨⟩;exact Nat.le_refl _);exact jba):P:=h
theorem jes{P:Prop}(h:P:=by
 go_wp2_with (with_reducible refine zx ?_)
 refine stI kT fun wz hTy hgz=>?_
 have rM:=zp yB hgz (by rintro q ⟨⟩;exact Nat.le_refl _);exact ja9):P:=h
theorem jeJ{P:Prop}(h:P:=by
 go_wp2_with fail
 refine zo rfl rfl hTy rfl rfl zj rfl ?_
 exact ItemOut.err E.out rfl xr):P:=h
theorem je0{P:Prop}(h:P:=by
 go_wp2_with fail
 go_ret
 exact⟨by rw[WW.out];try rfl,rfl⟩):P:=h
theorem jfa{P:Prop}(h:P:=by
 go_wp2_with fail
 refine zo rfl rfl hTy rfl rfl zj rfl ?_
 exact SevenSaid.err E.out rfl rM):P:=h
theorem jfb{P:Prop}(h:P:=by
 go_wp2_with fail
 refine zo rfl rfl hTy rfl rfl zj rfl ?_
 exact SevenSaid.ok E.out rfl rM):P:=h
theorem jfc{P:Prop}(h:P:=by
 go_enter Tryz.func217,Tryz.ntmps217
 go_wp2_with fail
 refine(L.out _).mono ?_
 exact jez):P:=h
theorem jfe{P:Prop}(h:P:=by
 have r9:=z6 D;have WW:Hid (xF v=D):=by rw[Hid,WQ.out];try omega
 exact jaY):P:=h
theorem jff{P:Prop}(h:P:=by have yo:=hP.gt;have xY:=(Rdg.refl hP).alloc zf;have xO:=Blk.new w 77 #[.int .i64 0,.int .u64 0,.slice none 0 0,.slice none 0 0];have wg:H w.heap.size=none:=hP.holds.none_of_ge (Nat.le_refl _);exact And.intro yo (And.intro xY (And.intro xO wg))):P:=h
theorem jfh{P:Prop}(h:P:=by have xV:((cnt:Int)=256)=False:=eq_false (by omega);have KC:IntKind.i64.wrap ((cnt:Int)+1)=(cnt:Int)+1:=IntWalk.i64_in _ (by omega);have HC:=Hh hc;exact And.intro xV (And.intro KC HC)):P:=h
theorem jfi{P:Prop}(h:P:=by have wC:Rdg 167 w H w2 H g A c l p (cnt+1):=xY.step xq wm hP.le (by have:=HC.out;omega);have tX:=xO.gr xq (by omega);have PH:=Hh (qL wC.psr);exact And.intro wC (And.intro tX PH)):P:=h
theorem jfm{P:Prop}(h:P:=by have wI:Rdg 167 w H w3 H g A c l (p+k) (cnt+1):=wC.step yA ug se (by have:=HC.out;omega);have yE:=tX.gr yA (by omega);have HF:=Hh HS;exact And.intro wI (And.intro yE HF)):P:=h
theorem jfH{P:Prop}(h:P:=by have c2:=xY.psr.blk.cell 2 rfl;exact c2):P:=h
theorem jf0{P:Prop}(h:P:=by have HD:=Hh (fun w=>nD 0 (n:Int) w (by omega) (by omega) (by omega) (by omega));exact HD):P:=h
theorem jf4{P:Prop}(h:P:=by have K1:IntKind.i64.wrap ((p:Int)+1)=(p:Int)+1:=IntWalk.i64_in _ (by omega);exact K1):P:=h
theorem jgp{P:Prop}(h:P:=by have z7b:decide ((ch.toNat:Int)/32<7)=false:=decide_eq_false z7;exact z7b):P:=h
theorem jgX{P:Prop}(h:P:=by have xr:=xY.grownRow (row:=some w.heap.size) (by rintro q ⟨⟩;exact wg) (by rintro q ⟨⟩;exact Nat.le_refl _) yo hgz;exact xr):P:=h
theorem jgY{P:Prop}(h:P:=by have xr:=wI.grownRow (row:=some w.heap.size) (by rintro q ⟨⟩;exact wg) (by rintro q ⟨⟩;exact Nat.le_refl _) yo hgz;exact xr):P:=h
theorem jgZ{P:Prop}(h:P:=by have xr:=wE.grownRow (row:=some w.heap.size) (by rintro q ⟨⟩;exact wg) (by rintro q ⟨⟩;exact Nat.le_refl _) yo hgz;exact xr):P:=h
theorem jhe{P:Prop}(h:P:=by have q0:((kd:Int)=0)=False:=eq_false (by omega);have q1:((kd:Int)=1)=False:=eq_false (by omega);have q2:((kd:Int)=2)=False:=eq_false (by omega);have q3:((kd:Int)=3)=False:=eq_false (by omega);exact And.intro q0 (And.intro q1 (And.intro q2 q3))):P:=h
theorem jhn{P:Prop}(h:P:=by have qF:Blk w1 g 167 (ra (some ⟨b,off,none⟩) l.length c p cnt):=tv ▸ hB;have rs:w.grownBy w1 (some g):=tv ▸ wX (yN w _) _;have Ob:Holds w1 H:=tv ▸ HH.out;exact And.intro qF (And.intro rs Ob)):P:=h
theorem jhu{P:Prop}(h:P:=by have K0:IntKind.i64.wrap ((l.length:Int)-(p:Int))=(l.length:Int)-(p:Int):=IntWalk.i64_in _ (by omega);exact K0):P:=h
theorem jhE{P:Prop}(h:P:=by have K3:bits .or .u64 ((X:Int)*256) (ch.toNat:Int)=((X*256+ch.toNat:Nat):Int):=jZ X _ hX lc;exact K3):P:=h
theorem U4 {e m:Nat}(he:1≤e) (Dq:e≤2046) (hm:m<4503599627370496):Ieee.double.read (e*4503599627370496+m)=.number false (4503599627370496+m) (-1074+((e-1:Nat):Int)):=by
 have e1:=jhx;obtain⟨e2,e3,e4⟩:=jfD;obtain⟨x,hx⟩:∃ x,e*4503599627370496+m=x:=⟨_,rfl⟩
 have a1:x/9223372036854775808=0:=by omega
 have a2:x%9223372036854775808=x:=by omega
 rw[hx]
 unfold Ieee.Format.read
 rw[e1,e2,e3,e4]
 simp only[a1,a2]
 rw[if_neg (by omega),if_pos (by omega)];have a3:x/4503599627370496=e:=by omega
 have a4:x%4503599627370496=m:=by omega
 rw[a3,a4];rfl
theorem Qm {a b:Int}(h:b<a):compare a b=.gt:=by
 show compareOfLessAndEq a b=_
 rw[compareOfLessAndEq,if_neg (by omega),if_neg (by omega)]
theorem Jm {a b:Int}(h:a<b):compare a b=.lt:=by
 show compareOfLessAndEq a b=_
 rw[compareOfLessAndEq,if_pos h]
theorem iT {e m:Nat}(he:2≤e) (Dq:e≤2045) (hm:m<4503599627370496) {D:Nat}(hD:D=e*4503599627370496+m) :
  FloatKind.f64.format.order D 0=some .gt∧FloatKind.f64.format.order D 9218868437227405311=some .lt∧FloatKind.f64.format.order D 4503599627370496=some .gt∧FloatKind.f64.format.order D D=some .eq:=by
 have r:=U4 (show 1≤e by omega) (show e≤2046 by omega) hm;rw[← hD]at r;have z:Ieee.double.read 0=.number false 0 (-1074):=by decide +kernel
 have mx:Ieee.double.read 9218868437227405311=.number false 9007199254740991 971:=by decide +kernel
 have mn:Ieee.double.read 4503599627370496=.number false 4503599627370496 (-1074):=by decide +kernel
 obtain⟨k,hk⟩:∃ k,e-1=k:=⟨_,rfl⟩
 rw[hk]at r;have YQ:∀ a b:Nat,a≤a <<< b:=fun a b=>by rw[Nat.shiftLeft_eq];exact Nat.le_mul_of_pos_right _ (Nat.two_pow_pos b)
 have Hf:∀ a b:Nat,1≤b→a*2≤a <<< b:=fun a b hb=>by
  rw[Nat.shiftLeft_eq]
  refine Nat.mul_le_mul_left _ ?_
  calc 2=2 ^ 1:=rfl
   _≤2 ^ b:=Nat.pow_le_pow_right (by omega) hb
 refine⟨?_, ?_, ?_, ?_⟩
 ·show(Ieee.double.read D).order (Ieee.double.read 0)=_
  rw[r,z]
  simp only[Ieee.Datum.order,Ieee.signed]
  rw[Qm];have:=YQ (4503599627370496+m) (-1074+(k:Int)-min (-1074+(k:Int)) (-1074)).toNat
  simp only[Bool.false_eq_true,if_false,Nat.zero_shiftLeft]
  omega
 ·show(Ieee.double.read D).order (Ieee.double.read 9218868437227405311)=_
  rw[r,mx]
  simp only[Ieee.Datum.order,Ieee.signed]
  rw[Jm];have h1:min (-1074+(k:Int)) 971 = -1074+(k:Int):=by omega
  rw[h1];have h2:(-1074+(k:Int)-(-1074+(k:Int))).toNat=0:=by omega
  rw[h2];have:=Hf 9007199254740991 (971-(-1074+(k:Int))).toNat (by omega)
  exact jdv
 ·show(Ieee.double.read D).order (Ieee.double.read 4503599627370496)=_
  rw[r,mn]
  simp only[Ieee.Datum.order,Ieee.signed]
  rw[Qm];have h1:min (-1074+(k:Int)) (-1074) = -1074:=by omega
  rw[h1];have h2:(-1074-(-1074:Int)).toNat=0:=by decide
  have:=Hf (4503599627370496+m) (-1074+(k:Int) - -1074).toNat (by omega);rw[h2]
  exact jdv
 show(Ieee.double.read D).order (Ieee.double.read D)=_
 rw[r]
 simp only[Ieee.Datum.order]
 congr 1
 show compareOfLessAndEq _ _=_
 rw[compareOfLessAndEq,if_neg (by omega),if_pos rfl]
structure Pos (D e m:Nat):Prop where
 eq:D=e*4503599627370496+m
 lo:2≤e
 hi:e≤2045
 m_lt:m<4503599627370496
theorem Pos.lt {D e m:Nat}(h:Pos D e m):D<9223372036854775808:=by have:=h.eq;have:=h.hi;have:=h.m_lt;omega
theorem oY {D:Nat}(h:D<9223372036854775808):bits .andNot .u64 (D:Int) 9223372036854775808=(D:Int):=by
 have:=u64_andNot_nat D 9223372036854775808 (by omega) (by omega);rw[show((9223372036854775808:Nat):Int)=9223372036854775808 from rfl]at this;rw[this,show 18446744073709551615-9223372036854775808=2 ^ 63-1 by decide,Nat.and_two_pow_sub_one_eq_mod,Nat.mod_eq_of_lt (by simpa using h)]
theorem bR {D e m:Nat}(h:Pos D e m):bits .andNot .u64 (D:Int) 9218868437227405312=(m:Int):=by
 have hl:=h.lt;have:=u64_andNot_nat D 9218868437227405312 (by omega) (by omega);rw[show((9218868437227405312:Nat):Int)=9218868437227405312 from rfl]at this;rw[this,show 18446744073709551615-9218868437227405312=2 ^ 63 ||| (2 ^ 52-1) by decide,Nat.and_or_distrib_left,Nat.and_two_pow_sub_one_eq_mod]
 have h0:D &&& 2 ^ 63=0:=by
  apply Nat.eq_of_testBit_eq
  intro i
  rw[Nat.testBit_and,Nat.testBit_two_pow,Nat.zero_testBit]
  by_cases hi:63=i
  ·subst hi;rw[Nat.testBit_lt_two_pow (by simpa using hl)];rfl
  simp[hi]
 have h1:=h.eq;have h2:=h.m_lt;rw[h0,Nat.zero_or]
 simp only[Nat.reducePow]
 omega
theorem Qa {q m:Nat}(hq:q≤2046) (hm:m<4503599627370496):bits .or .u64 (m:Int) ((q:Int)*4503599627370496)=((q*4503599627370496+m:Nat):Int):=by
 have h:=Nat.shiftLeft_add_eq_or_of_lt (show m<2 ^ 52 by simpa using hm) q;rw[Nat.shiftLeft_eq]at h;rw[show((q:Int)*4503599627370496)=((q*4503599627370496:Nat):Int) by omega,u64_or_nat _ _ (by omega) (by omega),Nat.or_comm]
 simp only[Nat.reducePow]at h
 rw[← h]
theorem bE {e:Nat}(h:e≤2046):bits .and .i64 (e:Int) 2047=(e:Int):=by
 have mj:∀ X:Fin 2048,bits .and .i64 ((X.val:Nat):Int) 2047=((X.val:Nat):Int):=by decide +kernel
 exact mj ⟨e,by omega⟩
theorem Zh {D:Nat}(h:D<9223372036854775808) (w:World):Calls Tryz.prog 265 #[.float .f64 D] w fun e w'=>e=.returned (.float .f64 D)∧w'=w:=by
 have r1:=z6 D;have r2:=xL D;have K:=oY h;clear h;go_enter Tryz.func265,Tryz.ntmps265
 exact jal
theorem X8 {D e m:Nat}(h:Pos D e m) (w:World):Calls Tryz.prog 248 #[.float .f64 D,.int .i64 0] w fun e w'=>e=.returned (.bool false)∧w'=w:=by
 have AB:=Hh (fun w=>Zh h.lt w);have o1:=(iT h.lo h.hi h.m_lt h.eq).2.1;clear h;go_enter Tryz.func248,Tryz.ntmps248
 go_wp2_with fail
 refine(AB.out _).mono ?_
 rintro e w1 ⟨rfl,rfl⟩
 exact jdw
theorem X9 {D e m:Nat}(h:Pos D e m) (w:World):Calls Tryz.prog 249 #[.float .f64 D] w fun e w'=>e=.returned (.bool false)∧w'=w:=by
 have o1:=(iT h.lo h.hi h.m_lt h.eq).2.2.2;clear h;go_enter Tryz.func249,Tryz.ntmps249
 exact jdw
theorem fS {D e m:Nat}(h:Pos D e m) (w:World):Calls Tryz.prog 250 #[.float .f64 D] w fun e w'=>e=.returned (.tuple #[.float .f64 D,.int .i64 0])∧w'=w:=by
 have AB:=Hh (fun w=>Zh h.lt w);have o1:(FloatKind.f64.format.order D 4503599627370496==some .lt)=false:=by rw[(iT h.lo h.hi h.m_lt h.eq).2.2.1];rfl
 clear h;go_enter Tryz.func250,Tryz.ntmps250
 go_wp2_with fail
 refine(AB.out _).mono ?_
 rintro e w1 ⟨rfl,rfl⟩
 exact jeu
theorem Px (w:World):Calls Tryz.prog 216 #[.int .i64 1] w fun e w'=>e=.returned (.float .f64 9218868437227405312)∧w'=w:=by
 have r2:∀ w,(callFunc 179 #[.int .u64 9218868437227405312]).run Tryz.prog w=.ok (.value (.float .f64 9218868437227405312)) w:=xL 9218868437227405312;go_enter Tryz.func216,Tryz.ntmps216
 exact jal
theorem XB {D e m:Nat}(h:Pos D e m) (k:Int) (q:Nat) (hk : -1000≤k∧k≤1000) (hq:(e:Int)+k=(q:Int)) (VS:2≤q∧q≤2045) (w:World) :
  Calls Tryz.prog 233 #[.float .f64 D,.int .i64 k] w fun e w'=>e=.returned (.float .f64 (q*4503599627370496+m))∧w'=w:=by
 obtain⟨o1,_,_,_⟩:=iT h.lo h.hi h.m_lt h.eq;have o0:(FloatKind.f64.format.order D 0==some .eq)=false:=by rw[o1];rfl
 have IN:=Hh (fun w=>X8 h w);have NA:=Hh (fun w=>X9 h w);have NO:=Hh (fun w=>fS h w);have r1:=z6 D;have hD:=h.eq;have hm:=h.m_lt;have PQ:=h.lo;have Mq:=h.hi;have K1:IntKind.i64.wrap (k+0)=k:=by rw[Int.add_zero];exact IntWalk.i64_in _ (by omega)
 have K2:(D:Int)/4503599627370496=(e:Int):=by omega
 have K3:IntKind.i64.wrap (e:Int)=(e:Int):=IntWalk.i64_in _ (by omega);have K4:=bE (show e≤2046 by omega);have K5:IntKind.i64.wrap ((e:Int)-1023)=(e:Int)-1023:=IntWalk.i64_in _ (by omega);obtain⟨x,hx⟩:∃ x:Int,k+((e:Int)-1023)=x:=⟨_,rfl⟩
 have K6:IntKind.i64.wrap (k+((e:Int)-1023))=x:=by rw[hx];exact IntWalk.i64_in _ (by omega)
 have K6b:k+((e:Int)-1023)=x:=hx;have z1:¬ (x < -1075):=by omega
 have z2:¬ (1023<x):=by omega
 have z3:¬ (x < -1022):=by omega
 have K7:=bR h;have K8:IntKind.i64.wrap (x+1023)=(q:Int):=by rw[show x+1023=(q:Int) by omega];exact IntWalk.i64_in _ (by omega)
 have K8b:x+1023=(q:Int):=by omega
 have K9:IntKind.u64.wrap (q:Int)=(q:Int):=by rw[IntKind.wrap_u64];omega
 have K10:IntKind.u64.wrap ((q:Int)*4503599627370496)=(q:Int)*4503599627370496:=by rw[IntKind.wrap_u64];omega
 have K11:=Qa (show q≤2046 by omega) hm;obtain⟨R,hR⟩:∃ R,q*4503599627370496+m=R:=⟨_,rfl⟩
 have Gv:floatBits .mul .f64 4607182418800017408 R=some R:=by
  have:=Tq (s:=0) (e:=q) (m:=m) (by omega) (by omega) (by omega) hm;rw[Nat.zero_mul,Nat.zero_add,hR]at this
  exact this
 have r3:=xL R;rw[hR]at K11;rw[hR];have r4:∀ w,(binOp .mul 213 (.float .f64 4607182418800017408) (.float .f64 R)).run Tryz.prog w=.ok (.float .f64 R) w:=fun w=>run_float_arith w .mul _ .f64 _ _ R Gv
 obtain⟨fQ,lf⟩:=hk;have Ik:(2:Int)≤(e:Int):=by omega
 have Dq:(e:Int)≤2045:=by omega
 have rl : -1021≤x:=by omega
 have oM:x≤1022:=by omega
 have fR:(2:Int)≤(q:Int):=by omega
 have BE:(q:Int)≤2045:=by omega
 clear h hD hm PQ Mq hq VS hx Gv hR o1;go_enter Tryz.func233,Tryz.ntmps233
 go_wp2_with fail
 refine(IN.out _).mono ?_
 rintro e w1 ⟨rfl,rfl⟩
 go_wp2_with fail
 refine(NA.out _).mono ?_
 rintro e w1 ⟨rfl,rfl⟩
 go_wp2_with fail
 refine(NO.out _).mono ?_
 exact jez
theorem fm {D e m:Nat}(h:Pos D e m) (k:Int) (q:Nat) (hk : -1000≤k∧k≤1000) (hq:(e:Int)+k=(q:Int)) (VS:2≤q∧q≤2045) (w:World) :
  Calls Tryz.prog 217 #[.float .f64 D,.int .i64 k] w fun e w'=>e=.returned (.float .f64 (q*4503599627370496+m))∧w'=w:=by
 have L:=Hh (fun w=>XB h k q hk hq VS w);clear h hk hq VS;exact jfc
theorem Yr (k:Int) (w:World):Calls Tryz.prog 233 #[.float .f64 0,.int .i64 k] w fun e w'=>e=.returned (.float .f64 0)∧w'=w:=by
 have o0:(FloatKind.f64.format.order 0 0==some .eq)=true:=by decide +kernel
 go_enter Tryz.func233,Tryz.ntmps233
 exact jal
theorem Yq (k:Int) (w:World):Calls Tryz.prog 217 #[.float .f64 0,.int .i64 k] w fun e w'=>e=.returned (.float .f64 0)∧w'=w:=by
 have L:=Hh (fun w=>Yr k w);exact jfc
theorem ZK {D:Nat}(h:D<9223372036854775808):bits .or .u64 (D:Int) 9223372036854775808=((9223372036854775808+D:Nat):Int):=by
 have h1:=Nat.shiftLeft_add_eq_or_of_lt (show D<2 ^ 63 by simpa using h) 1;rw[Nat.shiftLeft_eq]at h1;have:=u64_or_nat D 9223372036854775808 (by omega) (by omega);rw[show((9223372036854775808:Nat):Int)=9223372036854775808 from rfl]at this;rw[this,Nat.or_comm]
 simp only[Nat.reducePow,Nat.one_mul]at h1
 rw[← h1]
theorem sL {D:Nat}(h:D<9223372036854775808) (w:World):Calls Tryz.prog 218 #[.float .f64 D,.float .f64 13830554455654793216] w fun e w'=>e=.returned (.float .f64 (9223372036854775808+D))∧w'=w:=by
 have r1:=z6 D;have r2:∀ w,(callFunc 180 #[.float .f64 13830554455654793216]).run Tryz.prog w=.ok (.value (.int .u64 13830554455654793216)) w:=z6 13830554455654793216;have K1:=oY h;have K2:bits .and .u64 13830554455654793216 9223372036854775808=9223372036854775808:=by decide +kernel
 have K3:=ZK h;obtain⟨R,hR⟩:∃ R,9223372036854775808+D=R:=⟨_,rfl⟩
 rw[hR]at K3;rw[hR];have r3:=xL R;clear h hR;go_enter Tryz.func218,Tryz.ntmps218
 exact jal
def xF (v:Nat):Nat:=if v/1024%32=31∧v%1024≠0 then yK else wt v
theorem Vy {v k:Nat}(hv:v<65536) (hk:k≤16):bits .and .u16 (v:Int) ((2 ^ k-1:Nat):Int)=((v%2 ^ k:Nat):Int):=by
 have:2 ^ k≤2 ^ 16:=Nat.pow_le_pow_right (by omega) hk;rw[u16_and_nat v (2 ^ k-1) (by omega) (by omega),Nat.and_two_pow_sub_one_eq_mod]
theorem Vd {n t:Nat}(h0:n≠0) (ht:n.log2=t) (hn:n<2048):Pos (dbl n) (1023+t) (n*2 ^ (52-t)-4503599627370496):=by
 subst ht;have a1:2 ^ n.log2≤n:=Nat.log2_self_le h0;have a2:n<2 ^ (n.log2+1):=Nat.lt_log2_self;have a3:n.log2<11:=(Nat.log2_lt h0).2 (by simpa using hn);have b:=pw a1 a2 (by omega)
 exact⟨by rw[dbl,if_neg h0],by omega,by omega,by omega⟩
theorem Jr (f:Nat):(f+1024)*4398046511104-4503599627370496=f*4398046511104:=by omega
def Qi (w:World) (v:Nat) (e:Ending) (w':World):Prop:=e=.returned (.int .u64 (xF v:Int))∧w'=w
theorem Wn (v:Nat) (hv:v<65536) (w:World):Calls Tryz.prog 197 #[.int .u16 (v:Int)] w (Qi w v):=by
 have A1:bits .and .u16 (v:Int) 1023=((v%1024:Nat):Int):=Vy (k:=10) hv (by omega);obtain⟨u,hu⟩:∃ u,v/1024=u:=⟨_,rfl⟩
 have A2:bits .and .u16 (u:Int) 31=((u%32:Nat):Int):=Vy (k:=5) (by omega) (by omega);have Mw:u%32=v/1024%32:=by rw[hu]
 rw[Mw]at A2;obtain⟨s,hs⟩:∃ s,v/32768=s:=⟨_,rfl⟩
 obtain⟨x,hx⟩:∃ x,v/1024%32=x:=⟨_,rfl⟩
 obtain⟨f,hf⟩:∃ f,v%1024=f:=⟨_,rfl⟩
 have xZ:s≤1:=by omega
 have rl:x≤31:=by omega
 have rv:f<1024:=by omega
 have W:=Hh (show xF v=(if x=31∧f≠0 then yK else if x=31 then s*9223372036854775808+9218868437227405312+f*4398046511104
  else if x=0 then(if f=0 then s*9223372036854775808 else s*9223372036854775808+(999+f.log2)*4503599627370496+(f*2 ^ (52-f.log2)-4503599627370496))
  else s*9223372036854775808+(x+1008)*4503599627370496+f*4398046511104) by rw[xF,wt,hs,hx,hf])
 rw[hf]at A1;rw[hx]at A2;have S1:(v:Int)/32768=(s:Int):=by omega
 have S2:(v:Int)/1024=(u:Int):=by omega
 have FI:floatOfInt .f64 (f:Int)=dbl f:=lm ⟨f,rv⟩;have HX:=Hh (And.intro xZ (And.intro rl rv));have zAh:(v:Int)/32768=(s:Int):=S1;have Fl:(s:Int)≤1:=by omega
 clear hs hx hf hv hu Mw
 by_cases WM:x=31
 ·subst WM
  by_cases VM:f=0
  ·subst VM;have FI0:floatOfInt .f64 0=0:=lm 0;have WQ:Hid (xF v=s*9223372036854775808+9218868437227405312):=by rw[Hid,W.out,if_neg (by simp),if_pos rfl];try omega
   have IF:=Hh (fun w=>Px w);clear FI W;go_enter Tryz.func197,Tryz.ntmps197
   go_wp2_with fail
   refine(IF.out _).mono ?_
   rintro e w1 ⟨rfl,rfl⟩
   obtain⟨D,hD⟩:∃ D,9218868437227405312=D:=⟨_,rfl⟩
   rw[hD]at WQ;rw[hD];have HD:=Hh hD;exact jef
  have f0:((f:Int) != 0)=true:=by simp;omega
  have f0':((f:Int)=0)=False:=eq_false (by omega);have WW:Hid (xF v=yK):=by rw[Hid,W.out,if_pos ⟨rfl,VM⟩]
  clear W VM;go_enter Tryz.func197,Tryz.ntmps197
  exact jaY
 have x31:((x:Int)==31)=false:=by simp;omega
 have x31':((x:Int)=31)=False:=eq_false (by omega)
 by_cases h0:x=0
 ·subst h0
  by_cases VM:f=0
  ·subst VM;have FI0:floatOfInt .f64 0=0:=lm 0;have WQ:Hid (xF v=s*9223372036854775808+0):=by rw[Hid,Nat.add_zero,W.out,if_neg (by omega),if_neg (by omega),if_pos rfl,if_pos rfl]
   have LD:=Hh (fun w=>Yq (-24) w);clear FI W WM;go_enter Tryz.func197,Tryz.ntmps197
   go_wp2_with fail
   refine(LD.out _).mono ?_
   rintro e w1 ⟨rfl,rfl⟩
   obtain⟨D,hD⟩:∃ D:Nat,0=D:=⟨_,rfl⟩
   rw[hD]at WQ;have HD:=Hh hD;rw[show(Value.float FloatKind.f64 0)=Value.float FloatKind.f64 D by rw[hD]];exact jef
  obtain⟨t,ht⟩:∃ t,f.log2=t:=⟨_,rfl⟩
  have hP:=Vd VM ht (by omega);have Mv:t<10:=by rw[← ht];exact(Nat.log2_lt VM).2 (by simpa using rv)
  have LD:=Hh (fun w=>fm hP (-24) (999+t) (by omega) (by omega) (by omega) w);obtain⟨D,hD⟩:∃ D,(999+t)*4503599627370496+(f*2 ^ (52-t)-4503599627370496)=D:=⟨_,rfl⟩
  have aY:D<9223372036854775808:=by have:=hP.m_lt;omega
  have WQ:Hid (xF v=s*9223372036854775808+D):=by rw[Hid,W.out,if_neg (by omega),if_neg (by omega),if_pos rfl,if_neg VM,ht,← hD,Nat.add_assoc]
  rw[hD]at LD;obtain⟨Q,hQ⟩:∃ Q,dbl f=Q:=⟨_,rfl⟩
  rw[hQ]at FI LD;have HD:=Hh aY;clear W WM VM hP hD aY hQ ht Mv;exact jdZ
 have x0:((x:Int)==0)=false:=by simp;omega
 have x0':((x:Int)=0)=False:=eq_false (by omega);have hP:=Vd (n:=f+1024) (t:=10) (by omega) (by rw[Nat.log2_eq_iff (by omega)];constructor <;> omega) (by omega);rw[show(52:Nat)-10=42 from rfl,show(2:Nat) ^ 42=4398046511104 by decide,Jr]at hP;have LD:=Hh (fun w=>fm hP ((x:Int)-25) (x+1008) (by omega) (by omega) (by omega) w)
 have AD:∀ w,(binOp .add 213 (.float .f64 (dbl f)) (.float .f64 4652218415073722368)).run Tryz.prog w=.ok (.float .f64 (dbl (f+1024))) w:=fun w=>run_float_arith w .add _ .f64 _ _ _ (by
  have:=Mz ⟨f,rv⟩;rw[show dbl 1024=4652218415073722368 by decide +kernel]at this
  exact this)
 have KS:IntKind.i64.wrap ((x:Int)-25)=(x:Int)-25:=IntWalk.i64_in _ (by omega);obtain⟨D,hD⟩:∃ D,(x+1008)*4503599627370496+f*4398046511104=D:=⟨_,rfl⟩
 have aY:D<9223372036854775808:=by have:=hP.m_lt;omega
 have WQ:Hid (xF v=s*9223372036854775808+D):=by
  rw[Hid,W.out,if_neg (by omega),if_neg (by omega),if_neg h0,← hD];rw[Nat.add_assoc]
 rw[hD]at LD;obtain⟨Q,hQ⟩:∃ Q,dbl f=Q:=⟨_,rfl⟩
 obtain⟨Q2,Ag⟩:∃ Q2,dbl (f+1024)=Q2:=⟨_,rfl⟩
 rw[hQ]at FI AD;rw[Ag]at AD LD;have HD:=Hh aY;have d9:(x:Int)≤31:=by omega
 clear W WM h0 hP hD aY hQ Ag;exact jdZ
abbrev ra (A:Option Addr) (n c p cnt:Nat):Array Value:=#[.slice A n c,.int .i64 (p:Int),.int .i64 (cnt:Int)]
structure Psr (T:TypeId) (w:World) (g:Nat) (H:Snap) (A:Option Addr) (c:Nat) (l:List UInt8) (p cnt:Nat):Prop where
 blk:Blk w g T (ra A l.length c p cnt)
 bytes:IsBytes H A c l
 holds:Holds w H
 apart:H g=none
 le:p≤l.length
 small:l.length≤4096
 cnt_le:cnt≤256
theorem wX {w0 w:World}{r:Option Nat}(h:w0.grownBy w r):∀ q,w0.grownBy (w.drewN q) r
 | 0=>h
 | q+1=>sR (wX h q)
def VV (T:TypeId) (w:World) (g:Nat) (A:Option Addr) (c:Nat) (l:List UInt8) (p cnt z:Nat) (e:Ending) (w':World):Prop :=
 (l.length<p+z∧e=.returned (.tuple #[.int .u64 0,.bool false])∧Blk w' g T (ra A l.length c p cnt)∧w.grownBy w' (some g))∨
 (p+z≤l.length∧e=.returned (.tuple #[.int .u64 (beN ((l.drop p).take z):Int),.bool true])∧Blk w' g T (ra A l.length c (p+z) cnt)∧w.grownBy w' (some g))
theorem NQ (x c:Nat) (hc:c<256):x*256 ||| c=x*256+c:=by
 have h:=Nat.shiftLeft_add_eq_or_of_lt (show c<2 ^ 8 by omega) x;rw[Nat.shiftLeft_eq]at h
 exact h.symm
theorem jZ (x c:Nat) (hx:x*256<18446744073709551616) (hc:c<256):bits .or .u64 ((x:Int)*256) (c:Int)=((x*256+c:Nat):Int):=by
 rw[show((x:Int)*256)=((x*256:Nat):Int) by omega,u64_or_nat _ _ hx (by omega),NQ x c hc]
theorem ZP (l:List UInt8) (k:Nat) (hk:k<l.length):beN (l.take (k+1))=beN (l.take k)*256+l[k].toNat:=by
 rw[List.take_succ_eq_append_getElem hk,Pa]
theorem jJ (l:List UInt8) (k:Nat) (hk:k<8):beN (l.take k)*256<18446744073709551616:=by
 have h:=rn (l.take k);have h2:(l.take k).length≤7:=by rw[List.length_take];omega
 have h3:(256:Nat) ^ (l.take k).length≤256 ^ 7:=Nat.pow_le_pow_right (by omega) h2;have h4:(256:Nat) ^ 7=72057594037927936:=by decide
 omega
theorem zF:(Tryz.prog.info? 3).map (·.size)=some 1:=by kernel_rfl
theorem l8 {w:World}{g:Nat}{H:Snap}{A:Option Addr}{c:Nat}{l:List UInt8}{p cnt:Nat}(hP:Psr 167 w g H A c l p cnt) (z:Nat) (rx:1≤z) (hz8:z≤8) :
  Calls Tryz.prog 196 #[.pointer (some ⟨g,0,none⟩),.int .i64 (z:Int)] w (VV 167 w g A c l p cnt z):=by
 have hB:=hP.blk;have c0:=hB.cell 0 rfl;have c1:=hB.cell 1 rfl;have HP:=Hh hP;have pe:=hP.le;have nZ:=hP.small;have uw:=hP.bytes.le;have mv:=hP.bytes.max;have HZ:=Hh (And.intro rx hz8);have hzi:(z:Int)≤8:=by omega
 have YO:(p:Int)≤(l.length:Int):=by omega
 have B6:(l.length:Int)≤4096:=by omega
 have K0:=jhu
 by_cases z9:l.length<p+z
 ·have z0:(l.length:Int)-(p:Int)<(z:Int):=by omega
  have HL:=Hh z9;clear rx hz8 pe nZ uw mv hP z9;go_enter Tryz.func196,Tryz.ntmps196
  exact jcM
 have z0:¬ ((l.length:Int)-(p:Int)<(z:Int)):=by omega
 have z0b:decide ((l.length:Int)-(p:Int)<(z:Int))=false:=decide_eq_false z0;have K1:IntKind.i64.wrap ((p:Int)+(z:Int))=(p:Int)+(z:Int):=IntWalk.i64_in _ (by omega);have iC:(p:Int)≤(p:Int)+(z:Int):=by omega
 have se:(p:Int)+(z:Int)≤(c:Int):=by omega
 have zAq:(p:Int)≤(c:Int):=by omega
 have jp:(0:Int)≤(p:Int):=by omega
 have YZ:(c=p)=False:=eq_false (by omega);obtain⟨b,off,rfl,y7⟩:=hP.bytes.at_ (by omega);have HC:=Hh y7;have HH:=Hh hP.holds;have HL:=Hh (Nat.not_lt.1 z9);clear rx hz8 pe nZ uw mv hP y7 z9;go_enter Tryz.func196,Tryz.ntmps196
 go_wp2_with fail
 go_big_quiet (fail)
 obtain⟨w1,tv⟩:∃ W,w.drewN nq=W:=⟨_,rfl⟩
 obtain⟨qF,rs,Ob⟩:=jhn;rw[tv];clear tv c0 c1;have c0:=qF.cell 0 rfl;have c1:=qF.cell 1 rfl;go_wp2_with fail
 go_big_quiet (fail)
 go_wp2_with fail
 obtain⟨W,hW⟩:∃ W,w1.drewN nq=W:=⟨_,rfl⟩
 have JL:Blk W g 167 (ra (some ⟨b,off,none⟩) l.length c p cnt):=hW ▸ qF;have IR:w.grownBy W (some g):=hW ▸ wX rs _;have FV:Holds W H:=hW ▸ Ob;rw[hW];clear hW c0 c1 hB qF rs Ob;have E:Hid ((l.drop p).length=l.length-p):=List.length_drop;go_loopw [6,8,37] (fun v6 v8 v37 wr=>wr=W∧∃ k:Nat,k≤z∧v37=.int .i64 (k:Int)∧v6=.int .u64 (beN ((l.drop p).take k):Int)) (fun _ _ v37 _=>z-(intOf v37).toNat)
 case atStart=>exact⟨rfl,0,Nat.zero_le _,rfl,rfl⟩
 case round =>
 obtain⟨rfl,k,hk,rfl,rfl⟩:=hrel
 by_cases hkz:k<z
 ·have uh:p+k<l.length:=by have:=HL.out;omega
  have CU:(k:Int)<(z:Int):=by omega
  have ru:k<(l.drop p).length:=by have:=E.out;omega
  have q0:=FV.cell (HC.out (p+k) uh);rw[← Nat.add_assoc]at q0;have ex:(l.drop p)[k]=l[p+k]:=by rw[List.getElem_drop]
  have hX:=jJ (l.drop p) k (by have:=HZ.out;omega);have hS:=ZP (l.drop p) k ru;rw[ex]at hS;obtain⟨X,qS⟩:∃ X,beN ((l.drop p).take k)=X:=⟨_,rfl⟩
  obtain⟨ch,eG⟩:∃ ch,l[p+k]=ch:=⟨_,rfl⟩
  rw[qS]at hX hS⊢;rw[eG]at hS q0;have lc:=ch.toNat_lt;have K2:IntKind.u64.wrap ((X:Int)*256)=(X:Int)*256:=by rw[IntKind.wrap_u64];omega
  have K3:=jhE;have HS:=Hh hS;have fQ:(k:Int)+1≤9223372036854775807:=by have:=HZ.out;omega
  clear hX hS qS eG ex ru;go_wp2_with fail
  go_roundw
  case rel=>exact⟨by trivial,k+1,by omega,by go_num,by rw[HS.out,Int.natCast_add,Int.natCast_mul];rfl⟩
  case measure=>simp[intOf];omega
 have kX:k=z:=by omega
 subst kX;have rj:¬ ((k:Int)<(k:Int)):=by omega
 have c1:=JL.cell 1 rfl;obtain⟨X,qS⟩:∃ X,beN ((l.drop p).take k)=X:=⟨_,rfl⟩
 rw[qS];have HX:=Hh qS;clear qS;go_wp2_with (with_reducible refine zx ?_)
 refine zw rfl _ _ _ rfl rfl g 1 (.int .i64 ((p:Int)+(k:Int))) rfl rfl _ _ JL zF (by simp) rfl fun w2 wm xq=>?_
 have yA:=zG IR xq (.inl rfl)
 have ug:Blk w2 g 167 (ra (some ⟨b,off,none⟩) l.length c (p+k) cnt):=by
  have e:((p+k:Nat):Int)=(p:Int)+(k:Int):=by omega
  rw[ra,e]
  exact wm
 clear wm xq JL IR c1;go_wp2_with fail
 go_ret2
 exact .inr ⟨HL.out,by rw[HX.out];rfl,ug,yA⟩
def HeadSaid (T:TypeId) (w:World) (g:Nat) (A:Option Addr) (c:Nat) (l:List UInt8) (p cnt:Nat) (e:Ending) (w':World):Prop :=
 match zH (l.drop p) with
 | .error q=>e=.returned (.tuple #[.int .u8 0,.int .u64 0,.int .i64 (q:Int)])∧(∃ p',p'≤l.length∧Blk w' g T (ra A l.length c p' cnt))∧w.grownBy w' (some g)
 | .ok (f,n,k)=>e=.returned (.tuple #[.int .u8 (f:Int),.int .u64 (n:Int),.int .i64 0])∧Blk w' g T (ra A l.length c (p+k) cnt)∧w.grownBy w' (some g)
theorem HeadSaid.err {T:TypeId}{w w':World}{g:Nat}{A:Option Addr}{c:Nat}{l:List UInt8}{p cnt:Nat}{e:Ending}{q:Nat}(h:zH (l.drop p)=.error q) (he:e=.returned (.tuple #[.int .u8 0,.int .u64 0,.int .i64 (q:Int)]))
  (p':Nat) (hp:p'≤l.length) (hb:Blk w' g T (ra A l.length c p' cnt)) (hg:w.grownBy w' (some g)):HeadSaid T w g A c l p cnt e w':=by
 rw[HeadSaid,h];exact⟨he,⟨p',hp,hb⟩,hg⟩
theorem HeadSaid.ok {T:TypeId}{w w':World}{g:Nat}{A:Option Addr}{c:Nat}{l:List UInt8}{p cnt:Nat}{e:Ending}{f n k:Nat}(h:zH (l.drop p)=.ok (f,n,k)) (he:e=.returned (.tuple #[.int .u8 (f:Int),.int .u64 (n:Int),.int .i64 0]))
  (hb:Blk w' g T (ra A l.length c (p+k) cnt)) (hg:w.grownBy w' (some g)):HeadSaid T w g A c l p cnt e w':=by
 rw[HeadSaid,h];exact⟨he,hb,hg⟩
theorem aG:∀ X:Fin 256,bits .and .u8 ((X.val:Nat):Int) 31=((X.val%32:Nat):Int):=by decide
theorem nG {l:List UInt8}{p:Nat}(hp:p<l.length):l.drop p=l[p]::l.drop (p+1):=List.drop_eq_getElem_cons hp
theorem qL {w:World}{g:Nat}{H:Snap}{A:Option Addr}{c:Nat}{l:List UInt8}{p cnt:Nat}(hP:Psr 167 w g H A c l p cnt) :
  Calls Tryz.prog 168 #[.pointer (some ⟨g,0,none⟩)] w (HeadSaid 167 w g A c l p cnt):=by
 have hB:=hP.blk;have c0:=hB.cell 0 rfl;have c1:=hB.cell 1 rfl;have pe:=hP.le;have nZ:=hP.small;have uw:=hP.bytes.le;have mv:=hP.bytes.max;have HP:=Hh hP
 by_cases z9:p=l.length
 ·have E:Hid (zH (l.drop p)=.error 2):=by rw[Hid,z9,List.drop_length];rfl
  have z0:((p:Int)==(l.length:Int))=true:=by simp[z9]
  have HL:=Hh pe;clear pe nZ uw mv hP z9;go_enter Tryz.func168,Tryz.ntmps168
  go_wp2_with fail
  go_big_quiet (fail)
  go_wp2_with fail
  go_ret3
  exact HeadSaid.err E.out rfl p HL.out hB (wX (yN w _) _)
 have z0:((p:Int)==(l.length:Int))=false:=by simp;omega
 have rk:p<l.length:=by omega
 have YO:(p:Int)<(l.length:Int):=by omega
 have jp:(0:Int)≤(p:Int):=by omega
 have lV:(p:Int)+1≤9223372036854775807:=by omega
 obtain⟨b,off,rfl,y7⟩:=hP.bytes.at_ (by omega);have HC:=Hh y7;have HH:=Hh hP.holds;have q0:=hP.holds.cell (y7 p rk);have ED:=Hh (nG rk);obtain⟨ch,eG⟩:∃ ch,l[p]=ch:=⟨_,rfl⟩
 rw[eG]at q0 ED;have lc:=ch.toNat_lt;have KA:=aG ⟨ch.toNat,lc⟩
 simp only at KA
 obtain⟨low,xv⟩:∃ low,ch.toNat%32=low:=⟨_,rfl⟩
 rw[xv]at KA;have sZ:=Hh xv;have OG:low<32:=by omega
 have HL:=Hh (And.intro rk (And.intro nZ (And.intro uw mv)))
 have EH:Hid (zH (l.drop p)=if 27<low then .error 3 else if low<24 then .ok (ch.toNat,low,1) else if(l.drop (p+1)).length<2 ^ (low-24) then .error 2
   else if ch.toNat/32<7∧(zV 0 (beN ((l.drop (p+1)).take (2 ^ (low-24))))).length≠1+2 ^ (low-24) then .error 4
   else .ok (ch.toNat,beN ((l.drop (p+1)).take (2 ^ (low-24))),1+2 ^ (low-24))):=by rw[Hid,ED.out,zH,xv]
 clear pe nZ uw mv hP z9 y7 eG xv rk ED lc;go_enter Tryz.func168,Tryz.ntmps168
 go_wp2_with fail
 go_big_quiet (fail)
 obtain⟨w1,tv⟩:∃ W,w.drewN nq=W:=⟨_,rfl⟩
 obtain⟨qF,rs,Ob⟩:=jhn;have q1:w1.cell? ⟨b,off+p,none⟩=some (zu ch):=tv ▸ q0;rw[tv];clear tv c0 c1 q0 hB;have c0:=qF.cell 0 rfl;have c1:=qF.cell 1 rfl;go_upto_region 3 with fail
 go_big_quiet (fail)
 obtain⟨w2,qE⟩:∃ W,w1.drewN nq=W:=⟨_,rfl⟩
 have wm:Blk w2 g 167 (ra (some ⟨b,off,none⟩) l.length c p cnt):=qE ▸ qF;have xq:w.grownBy w2 (some g):=qE ▸ wX rs _;have IU:Holds w2 H:=qE ▸ Ob;rw[qE];clear qE c0 c1 qF rs Ob q1;have c1:=wm.cell 1 rfl
 by_cases iW:27<low
 ·have z27:(27:Int)<(low:Int):=by omega
  have E:Hid (zH (l.drop p)=.error 3):=by rw[Hid,EH.out,if_pos iW]
  go_wp2_with fail
  go_ret3
  exact HeadSaid.err E.out rfl p (Nat.le_of_lt HL.out.1) wm xq
 have z27:¬ ((27:Int)<(low:Int)):=by omega
 have E1:Hid (zH (l.drop p)=if low<24 then .ok (ch.toNat,low,1) else if(l.drop (p+1)).length<2 ^ (low-24) then .error 2
   else if ch.toNat/32<7∧(zV 0 (beN ((l.drop (p+1)).take (2 ^ (low-24))))).length≠1+2 ^ (low-24) then .error 4
   else .ok (ch.toNat,beN ((l.drop (p+1)).take (2 ^ (low-24))),1+2 ^ (low-24))):=by rw[Hid,EH.out,if_neg iW]
 clear EH;have K1:=jf4;go_wp2_with (with_reducible refine zx ?_)
 refine zw rfl _ _ _ rfl rfl g 1 (.int .i64 ((p:Int)+1)) rfl rfl _ _ wm zF (by simp) rfl fun w3 ug hG3'=>?_
 have yA:=zG xq hG3' (.inl rfl);have ug:Blk w3 g 167 (ra (some ⟨b,off,none⟩) l.length c (p+1) cnt):=ug;have IV:Holds w3 H:=IU.grown hG3' (by rintro q ⟨⟩;exact HP.out.apart);clear wm xq hG3' c1 IU K1
 by_cases qo:low<24
 ·have z24:(low:Int)<24:=by omega
  have E:Hid (zH (l.drop p)=.ok (ch.toNat,low,1)):=by rw[Hid,E1.out,if_pos qo]
  have KU:IntKind.u64.wrap (low:Int)=(low:Int):=by rw[IntKind.wrap_u64];omega
  go_wp2_with fail
  go_ret3
  exact HeadSaid.ok E.out rfl ug yA
 have z24:¬ ((low:Int)<24):=by omega
 have E2:Hid (zH (l.drop p)=if(l.drop (p+1)).length<2 ^ (low-24) then .error 2
   else if ch.toNat/32<7∧(zV 0 (beN ((l.drop (p+1)).take (2 ^ (low-24))))).length≠1+2 ^ (low-24) then .error 4
   else .ok (ch.toNat,beN ((l.drop (p+1)).take (2 ^ (low-24))),1+2 ^ (low-24))):=by rw[Hid,E1.out,if_neg qo]
 clear E1;have Rx:Psr 167 w3 g H (some ⟨b,off,none⟩) c l (p+1) cnt:=⟨ug,HP.out.bytes,IV,HP.out.apart,HL.out.1,HP.out.small,HP.out.cnt_le⟩
 rcases(by omega:low=24∨low=25∨low=26∨low=27) with rfl | rfl | rfl | rfl
 ·have NM:=Hh (l8 Rx 1 (by omega) (by omega))
  simp only[Nat.reduceSub,Nat.reducePow,Nat.reduceAdd]at E2
  clear iW qo z27 z24 OG Rx;go_wp2_with fail
  refine NM.out.mono ?_
  rintro e w4 (⟨hs,rfl,ss,xK⟩ | ⟨hs,rfl,ss,xK⟩)
  ·exact jaJ
  have E3:Hid (zH (l.drop p)=if ch.toNat/32<7∧(zV 0 (beN ((l.drop (p+1)).take 1))).length≠2 then .error 4 else .ok (ch.toNat,beN ((l.drop (p+1)).take 1),2)):=by
   exact jbS
  have xx:=zG yA xK (.inl rfl);have ql:=rn ((l.drop (p+1)).take 1);have rj:((l.drop (p+1)).take 1).length=1:=by rw[List.length_take,List.length_drop];omega
  rw[rj]at ql
  simp only[Nat.reducePow]at ql
  obtain⟨n,hn⟩:∃ n,beN ((l.drop (p+1)).take 1)=n:=⟨_,rfl⟩
  rw[hn]at E3 ql⊢;have HD:=jf0;have HS:=Hh hs;have ts:Blk w4 g 167 (ra (some ⟨b,off,none⟩) l.length c (p+2) cnt):=ss;clear NM hs E2 hn rj ql ss xK
  by_cases h7:ch.toNat/32<7
  ·have z7:(ch.toNat:Int)/32<7:=by omega
   have E4:Hid (zH (l.drop p)=if(zV 0 n).length≠2 then .error 4 else .ok (ch.toNat,n,2)):=by
    rw[Hid,E3.out]
    by_cases h:(zV 0 n).length=2 <;> simp[h,h7]
   clear E3 h7;go_wp2_with fail
   refine(HD.out _).mono ?_
   rintro e w5 ⟨r,rfl,hf⟩
   have rT:=ts.below hf.2;have y8:=s9 xx hf.2;obtain⟨RA,rc,rfl,_⟩:=hf.own.form;obtain⟨hn,YM⟩:∃ hn,(zV (0:Int).toNat (n:Int).toNat).length=hn:=⟨_,rfl⟩
   rw[YM];have E5:Hid (zH (l.drop p)=if hn≠2 then .error 4 else .ok (ch.toNat,n,2)):=by rw[Hid,E4.out,← YM];rfl
   clear hf HD E4 YM ts xx
   by_cases hq:hn=2
   ·subst hq;have E:Hid (zH (l.drop p)=.ok (ch.toNat,n,2)):=by rw[Hid,E5.out,if_neg (by simp)]
    exact jbU
   have zq:((hn:Int)==2)=false:=by simp;omega
   have zq2:((hn:Int)=2)=False:=eq_false (by omega);have E:Hid (zH (l.drop p)=.error 4):=by rw[Hid,E5.out,if_pos hq]
   clear E5 hq z0 lV YO jp KA;go_wp2_with fail
   go_ret3
   exact HeadSaid.err E.out rfl (p+2) (by have:=HS.out;omega) rT y8
  have z7:¬ ((ch.toNat:Int)/32<7):=by omega
  have z7b:=jgp;have E:Hid (zH (l.drop p)=.ok (ch.toNat,n,2)):=by rw[Hid,E3.out,if_neg (fun h=>h7 h.1)]
  exact jbK
 ·have NM:=Hh (l8 Rx 2 (by omega) (by omega))
  simp only[Nat.reduceSub,Nat.reducePow,Nat.reduceAdd]at E2
  clear iW qo z27 z24 OG Rx;go_wp2_with fail
  refine NM.out.mono ?_
  rintro e w4 (⟨hs,rfl,ss,xK⟩ | ⟨hs,rfl,ss,xK⟩)
  ·exact jaJ
  have E3:Hid (zH (l.drop p)=if ch.toNat/32<7∧(zV 0 (beN ((l.drop (p+1)).take 2))).length≠3 then .error 4 else .ok (ch.toNat,beN ((l.drop (p+1)).take 2),3)):=by
   exact jbS
  have xx:=zG yA xK (.inl rfl);have ql:=rn ((l.drop (p+1)).take 2);have rj:((l.drop (p+1)).take 2).length=2:=by rw[List.length_take,List.length_drop];omega
  rw[rj]at ql
  simp only[Nat.reducePow]at ql
  obtain⟨n,hn⟩:∃ n,beN ((l.drop (p+1)).take 2)=n:=⟨_,rfl⟩
  rw[hn]at E3 ql⊢;have HD:=jf0;have HS:=Hh hs;have ts:Blk w4 g 167 (ra (some ⟨b,off,none⟩) l.length c (p+3) cnt):=ss;clear NM hs E2 hn rj ql ss xK
  by_cases h7:ch.toNat/32<7
  ·have z7:(ch.toNat:Int)/32<7:=by omega
   have E4:Hid (zH (l.drop p)=if(zV 0 n).length≠3 then .error 4 else .ok (ch.toNat,n,3)):=by
    rw[Hid,E3.out]
    by_cases h:(zV 0 n).length=3 <;> simp[h,h7]
   clear E3 h7;go_wp2_with fail
   refine(HD.out _).mono ?_
   rintro e w5 ⟨r,rfl,hf⟩
   have rT:=ts.below hf.2;have y8:=s9 xx hf.2;obtain⟨RA,rc,rfl,_⟩:=hf.own.form;obtain⟨hn,YM⟩:∃ hn,(zV (0:Int).toNat (n:Int).toNat).length=hn:=⟨_,rfl⟩
   rw[YM];have E5:Hid (zH (l.drop p)=if hn≠3 then .error 4 else .ok (ch.toNat,n,3)):=by rw[Hid,E4.out,← YM];rfl
   clear hf HD E4 YM ts xx
   by_cases hq:hn=3
   ·subst hq;have E:Hid (zH (l.drop p)=.ok (ch.toNat,n,3)):=by rw[Hid,E5.out,if_neg (by simp)]
    exact jbU
   have zq:((hn:Int)==3)=false:=by simp;omega
   have zq2:((hn:Int)=3)=False:=eq_false (by omega);have E:Hid (zH (l.drop p)=.error 4):=by rw[Hid,E5.out,if_pos hq]
   clear E5 hq z0 lV YO jp KA;go_wp2_with fail
   go_ret3
   exact HeadSaid.err E.out rfl (p+3) (by have:=HS.out;omega) rT y8
  have z7:¬ ((ch.toNat:Int)/32<7):=by omega
  have z7b:=jgp;have E:Hid (zH (l.drop p)=.ok (ch.toNat,n,3)):=by rw[Hid,E3.out,if_neg (fun h=>h7 h.1)]
  exact jbK
 ·have NM:=Hh (l8 Rx 4 (by omega) (by omega))
  simp only[Nat.reduceSub,Nat.reducePow,Nat.reduceAdd]at E2
  clear iW qo z27 z24 OG Rx;go_wp2_with fail
  refine NM.out.mono ?_
  rintro e w4 (⟨hs,rfl,ss,xK⟩ | ⟨hs,rfl,ss,xK⟩)
  ·exact jaJ
  have E3:Hid (zH (l.drop p)=if ch.toNat/32<7∧(zV 0 (beN ((l.drop (p+1)).take 4))).length≠5 then .error 4 else .ok (ch.toNat,beN ((l.drop (p+1)).take 4),5)):=by
   exact jbS
  have xx:=zG yA xK (.inl rfl);have ql:=rn ((l.drop (p+1)).take 4);have rj:((l.drop (p+1)).take 4).length=4:=by rw[List.length_take,List.length_drop];omega
  rw[rj]at ql
  simp only[Nat.reducePow]at ql
  obtain⟨n,hn⟩:∃ n,beN ((l.drop (p+1)).take 4)=n:=⟨_,rfl⟩
  rw[hn]at E3 ql⊢;have HD:=jf0;have HS:=Hh hs;have ts:Blk w4 g 167 (ra (some ⟨b,off,none⟩) l.length c (p+5) cnt):=ss;clear NM hs E2 hn rj ql ss xK
  by_cases h7:ch.toNat/32<7
  ·have z7:(ch.toNat:Int)/32<7:=by omega
   have E4:Hid (zH (l.drop p)=if(zV 0 n).length≠5 then .error 4 else .ok (ch.toNat,n,5)):=by
    rw[Hid,E3.out]
    by_cases h:(zV 0 n).length=5 <;> simp[h,h7]
   clear E3 h7;go_wp2_with fail
   refine(HD.out _).mono ?_
   rintro e w5 ⟨r,rfl,hf⟩
   have rT:=ts.below hf.2;have y8:=s9 xx hf.2;obtain⟨RA,rc,rfl,_⟩:=hf.own.form;obtain⟨hn,YM⟩:∃ hn,(zV (0:Int).toNat (n:Int).toNat).length=hn:=⟨_,rfl⟩
   rw[YM];have E5:Hid (zH (l.drop p)=if hn≠5 then .error 4 else .ok (ch.toNat,n,5)):=by rw[Hid,E4.out,← YM];rfl
   clear hf HD E4 YM ts xx
   by_cases hq:hn=5
   ·subst hq;have E:Hid (zH (l.drop p)=.ok (ch.toNat,n,5)):=by rw[Hid,E5.out,if_neg (by simp)]
    exact jbU
   have zq:((hn:Int)==5)=false:=by simp;omega
   have zq2:((hn:Int)=5)=False:=eq_false (by omega);have E:Hid (zH (l.drop p)=.error 4):=by rw[Hid,E5.out,if_pos hq]
   clear E5 hq z0 lV YO jp KA;go_wp2_with fail
   go_ret3
   exact HeadSaid.err E.out rfl (p+5) (by have:=HS.out;omega) rT y8
  have z7:¬ ((ch.toNat:Int)/32<7):=by omega
  have z7b:=jgp;have E:Hid (zH (l.drop p)=.ok (ch.toNat,n,5)):=by rw[Hid,E3.out,if_neg (fun h=>h7 h.1)]
  exact jbK
 have NM:=Hh (l8 Rx 8 (by omega) (by omega))
 simp only[Nat.reduceSub,Nat.reducePow,Nat.reduceAdd]at E2
 clear iW qo z27 z24 OG Rx;go_wp2_with fail
 refine NM.out.mono ?_
 rintro e w4 (⟨hs,rfl,ss,xK⟩ | ⟨hs,rfl,ss,xK⟩)
 ·exact jaJ
 have E3:Hid (zH (l.drop p)=if ch.toNat/32<7∧(zV 0 (beN ((l.drop (p+1)).take 8))).length≠9 then .error 4 else .ok (ch.toNat,beN ((l.drop (p+1)).take 8),9)):=by
  exact jbS
 have xx:=zG yA xK (.inl rfl);have ql:=rn ((l.drop (p+1)).take 8);have rj:((l.drop (p+1)).take 8).length=8:=by rw[List.length_take,List.length_drop];omega
 rw[rj]at ql
 simp only[Nat.reducePow]at ql
 obtain⟨n,hn⟩:∃ n,beN ((l.drop (p+1)).take 8)=n:=⟨_,rfl⟩
 rw[hn]at E3 ql⊢;have HD:=jf0;have HS:=Hh hs;have ts:Blk w4 g 167 (ra (some ⟨b,off,none⟩) l.length c (p+9) cnt):=ss;clear NM hs E2 hn rj ql ss xK
 by_cases h7:ch.toNat/32<7
 ·have z7:(ch.toNat:Int)/32<7:=by omega
  have E4:Hid (zH (l.drop p)=if(zV 0 n).length≠9 then .error 4 else .ok (ch.toNat,n,9)):=by
   rw[Hid,E3.out]
   by_cases h:(zV 0 n).length=9 <;> simp[h,h7]
  clear E3 h7;go_wp2_with fail
  refine(HD.out _).mono ?_
  rintro e w5 ⟨r,rfl,hf⟩
  have rT:=ts.below hf.2;have y8:=s9 xx hf.2;obtain⟨RA,rc,rfl,_⟩:=hf.own.form;obtain⟨hn,YM⟩:∃ hn,(zV (0:Int).toNat (n:Int).toNat).length=hn:=⟨_,rfl⟩
  rw[YM];have E5:Hid (zH (l.drop p)=if hn≠9 then .error 4 else .ok (ch.toNat,n,9)):=by rw[Hid,E4.out,← YM];rfl
  clear hf HD E4 YM ts xx
  by_cases hq:hn=9
  ·subst hq;have E:Hid (zH (l.drop p)=.ok (ch.toNat,n,9)):=by rw[Hid,E5.out,if_neg (by simp)]
   exact jbU
  have zq:((hn:Int)==9)=false:=by simp;omega
  have zq2:((hn:Int)=9)=False:=eq_false (by omega);have E:Hid (zH (l.drop p)=.error 4):=by rw[Hid,E5.out,if_pos hq]
  clear E5 hq z0 lV YO jp KA;go_wp2_with fail
  go_ret3
  exact HeadSaid.err E.out rfl (p+9) (by have:=HS.out;omega) rT y8
 have z7:¬ ((ch.toNat:Int)/32<7):=by omega
 have z7b:=jgp;have E:Hid (zH (l.drop p)=.ok (ch.toNat,n,9)):=by rw[Hid,E3.out,if_neg (fun h=>h7 h.1)]
 exact jbK
theorem iv (n:Nat) (w:World):(callFunc 198 #[.int .u32 (n:Int)]).run Tryz.prog w=.ok (.value (.float .f32 n)) w:=by
 rw[run_callFunc_extern Tryz.func198 (by kernel_rfl) (by kernel_rfl) (by kernel_rfl) (e:=Extern.MathFloatBits.float32frombits) (by kernel_rfl)];rfl
theorem XV {r:Nat}(hr:r<4294967296) (h:r/8388608%256=255∧r%8388608≠0):(Ieee.single.read r).isNaN=true:=by
 obtain⟨e1,e2,e3⟩:=jgh;obtain⟨h1,h2⟩:=h
 unfold Ieee.Format.read
 rw[e1,e2,e3]
 simp only[show ¬ r%2147483648<8388608 by omega,show ¬ r%2147483648<2139095040 by omega,show ¬ r%2147483648=2139095040 by omega,if_false]
 rfl
theorem Wq (r:Nat) (hr:r<4294967296) (w:World):∃ m w',(convert 215 213 (.float .f32 r)).run Tryz.prog w=.ok (.float .f64 m) w'∧(w'=w∨w'=w.drew)∧m<18446744073709551616∧
  ((r/8388608%256=255∧r%8388608≠0)→isNaN m=true)∧(¬ (r/8388608%256=255∧r%8388608≠0)→m=wD r):=by
 obtain⟨hs,hd⟩:=jhl
 by_cases hx:r/8388608%256=255∧r%8388608≠0
 ·have hn:=XV hr hx
  cases hq:FloatKind.decode .f32 r with
  | number a b c =>
   exact jdr
  | infinity a =>
   exact jdu
  | nan a b =>
  have Ri:isNaN ((Question.nanConv .f64 r).cut (w.tape w.drawn (Question.nanConv .f64 r)))=true∧((Question.nanConv .f64 r).cut (w.tape w.drawn (Question.nanConv .f64 r)))<18446744073709551616:=by
   rw[k8];show((_%2*2 ^ 63+0x7ff0000000000000+1+_/2%(2 ^ 52-1))/2 ^ 52%2048=2047∧_)∧_
   generalize w.tape w.drawn (Question.nanConv .f64 r)=t
   show((t%2*2 ^ 63+0x7ff0000000000000+1+t/2%(2 ^ 52-1))/2 ^ 52%2048=2047∧(t%2*2 ^ 63+0x7ff0000000000000+1+t/2%(2 ^ 52-1))%2 ^ 52≠0)∧t%2*2 ^ 63+0x7ff0000000000000+1+t/2%(2 ^ 52-1)<18446744073709551616
   exact jb7
  refine⟨(Question.nanConv .f64 r).cut (w.tape w.drawn (Question.nanConv .f64 r)),w.drew, ?_,.inr rfl,Ri.2,fun _=>Ri.1,fun h=>absurd hx h⟩
  exact jc5
 obtain⟨WM,z9⟩:=p9 hr hx;have hw:=bm WM;have ME:(Tryz.prog.underlying 215).isSome=true:=by rw[hs];rfl
 exact⟨wD r,w,run_convert_float_float (P:=Tryz.prog) (w:=w) 215 213 .f32 .f64 r _ ME hd hw,.inl rfl,z9,fun h=>absurd h hx,fun _=>rfl⟩
abbrev lN:Value:=.agg #[.int .i64 0,.int .u64 0,.slice none 0 0,.slice none 0 0]
def SevenSaid (w:World) (low n:Nat) (e:Ending) (w':World):Prop :=
 Below w.heap.size w w'∧match yT low n with
  | .error q=>e=.returned (.tuple #[lN,.int .i64 (q:Int)])
  | .ok x=>e=.returned (.tuple #[rG x none 0 none 0,.int .i64 0])
theorem SevenSaid.err {w w':World}{low n q:Nat}{e:Ending}(h:yT low n=.error q) (he:e=.returned (.tuple #[lN,.int .i64 (q:Int)])) (hb:Below w.heap.size w w'):SevenSaid w low n e w':=by
 rw[SevenSaid,h];exact⟨hb,he⟩
theorem SevenSaid.ok {w w':World}{low n:Nat}{x:Itm}{e:Ending}(h:yT low n=.ok x) (he:e=.returned (.tuple #[rG x none 0 none 0,.int .i64 0])) (hb:Below w.heap.size w w'):SevenSaid w low n e w':=by
 rw[SevenSaid,h];exact⟨hb,he⟩
theorem l9 (low n:Nat) (h:25≤low):yT low n=if(isNaN (uf low n)&&uf low n != yK)||(yw (uf low n)).length != 1+2 ^ (low-24) then .error 4 else .ok (.mk 8 (uf low n) [] []):=by
 rw[yT,if_neg (by omega),if_neg (by omega)]
theorem Ud {v:Nat}(hv:v<65536):xF v<18446744073709551616:=by
 rw[xF]
 split
 ·decide
 rename_i h;exact(oz hv h).2
theorem mQ:isNaN yK=true:=by decide +kernel
theorem Ng {n:Nat}(hn:n<65536):yT 25 n=if xF n=yK∧n≠32256 then .error 4 else if(yw (xF n)).length≠3 then .error 4 else .ok (.mk 8 (xF n) [] []):=by
 rw[l9 25 n (by omega),show uf 25 n=wt n by rw[uf,if_pos rfl]]
 by_cases hx:n/1024%32=31∧n%1024≠0
 ·obtain⟨q1,q2⟩:=gB hn hx;have hq:xF n=yK:=by rw[xF,if_pos hx]
  rw[hq,q1]
  by_cases h:n=32256
  ·have h5:=q2.2 h;have L:(yw yK).length=3:=by rw[tU mQ];rfl
   rw[h5,L]
   simp[h]
  have h5:wt n≠yK:=fun h'=>h (q2.1 h')
  have b5:(wt n != yK)=true:=by rw[bne_iff_ne];exact h5
  rw[b5]
  simp[h]
 obtain⟨q1,q2⟩:=oz hn hx;have q3:=kp q1;have hq:xF n=wt n:=by rw[xF,if_neg hx]
 have xp:wt n≠yK:=fun h=>by rw[h,mQ]at q3;cases q3
 rw[hq,q3]
 generalize wt n=D at *
 simp[xp]
theorem Nh {n m:Nat}(hn:n<4294967296) (h1:(n/8388608%256=255∧n%8388608≠0)→isNaN m=true) (h2:¬ (n/8388608%256=255∧n%8388608≠0)→m=wD n) :
  yT 26 n=if(yw m).length≠5 then .error 4 else .ok (.mk 8 m [] []):=by
 rw[l9 26 n (by omega),show uf 26 n=wD n by rw[uf,if_neg (by omega),if_pos rfl]]
 by_cases hx:n/8388608%256=255∧n%8388608≠0
 ·have q1:=gC hn hx;have L1:(yw (wD n)).length=3:=by rw[tU q1];rfl
  have L2:(yw m).length=3:=by rw[tU (h1 hx)];rfl
  rw[L1,L2]
  simp
 obtain⟨q1,q2⟩:=p9 hn hx;have q3:=kq q1;rw[h2 hx,q3]
 generalize wD n=D at *
 simp
theorem Ni {n:Nat}:yT 27 n=if(yw n).length≠9 then .error 4 else .ok (.mk 8 n [] []):=by
 rw[l9 27 n (by omega),show uf 27 n=n by rw[uf,if_neg (by omega),if_neg (by omega)]]
 cases h:isNaN n with
 | true =>
  have L:(yw n).length=3:=by rw[tU h];rfl
  rw[L];simp
 | false=>simp
theorem Wm (f n:Nat) (hf:f<256) (xv:f%32≤27) (hn:n<18446744073709551616) (h25:f%32=25→n<65536) (h26:f%32=26→n<4294967296) (w:World) :
  Calls Tryz.prog 169 #[.int .u8 (f:Int),.int .u64 (n:Int)] w (SevenSaid w (f%32) n):=by
 have KA:=aG ⟨f,hf⟩
 simp only at KA
 obtain⟨low,hl⟩:∃ low,f%32=low:=⟨_,rfl⟩
 rw[hl]at KA xv h25 h26⊢;have kT:=Blk.new w 77 #[.int .i64 0,.int .u64 0,.slice none 0 0,.slice none 0 0];have yB:=zX w zf;have HN:=Hh hn;have H25:=Hh h25;have H26:=Hh h26;clear hn h25 h26 hl hf
 by_cases qo:low<24
 ·have e1:((low:Int)==24)=false:=by simp;omega
  have e2:((low:Int)==25)=false:=by simp;omega
  have e3:((low:Int)==26)=false:=by simp;omega
  have e4:((low:Int)==27)=false:=by simp;omega
  have p1:((low:Int)=24)=False:=eq_false (by omega);have p2:((low:Int)=25)=False:=eq_false (by omega);have p3:((low:Int)=26)=False:=eq_false (by omega);have p4:((low:Int)=27)=False:=eq_false (by omega);have E:Hid (yT low n=.ok (.mk 7 n [] [])):=by rw[Hid,yT,if_pos qo]
  clear xv qo;exact jek
 rcases(by omega:low=24∨low=25∨low=26∨low=27) with rfl | rfl | rfl | rfl
 ·by_cases h32:n<32
  ·have z32:(n:Int)<32:=by omega
   have E:Hid (yT 24 n=.error 4):=by rw[Hid,yT,if_neg (by omega),if_pos rfl,if_pos h32]
   clear h32 xv qo;go_enter Tryz.func169,Tryz.ntmps169
   exact jes
  have z32:¬ ((n:Int)<32):=by omega
  have E:Hid (yT 24 n=.ok (.mk 7 n [] [])):=by rw[Hid,yT,if_neg (by omega),if_pos rfl,if_neg h32]
  clear h32 xv qo;exact jek
 ·have hn:=H25.out rfl;have K1:IntKind.u16.wrap (n:Int)=(n:Int):=IntWalk.u16_in _ (by omega);have FL:=Hh (fun w=>qs (xF n) (Ud hn) w);have E0:=Hh (Ng hn);obtain⟨D,hD⟩:∃ D,xF n=D:=⟨_,rfl⟩
  have WD:=Hh (show ∀ w,Calls Tryz.prog 197 #[.int .u16 (n:Int)] w fun e w'=>e=.returned (.int .u64 (D:Int))∧w'=w from fun w=>by
   have h:=Wn n hn w
   unfold Qi at h
   rw[hD]at h
   exact h)
  rw[hD]at FL E0;clear hn hD xv qo
  by_cases hc:D=yK∧n≠32256
  ·have c1:((D:Int)==9221120237041090560)=true:=by rw[hc.1];rfl
   have c2:((n:Int) != 32256)=true:=by rw[bne_iff_ne];omega
   have c1':((D:Int)=9221120237041090560)=True:=eq_true (by rw[hc.1];rfl);have c2':((n:Int)=32256)=False:=eq_false (by omega);have E:Hid (yT 25 n=.error 4):=by rw[Hid,E0.out,if_pos hc]
   clear hc E0 FL;go_enter Tryz.func169,Tryz.ntmps169
   go_wp2_with fail
   refine(WD.out _).mono ?_
   rintro e w1 ⟨rfl,rfl⟩
   exact jes
  have E1:Hid (yT 25 n=if(yw D).length≠3 then .error 4 else .ok (.mk 8 D [] [])):=by rw[Hid,E0.out,if_neg hc]
  clear E0
  by_cases hD:D=yK
  ·have aq:n=32256:=Classical.byContradiction fun h=>hc ⟨hD,h⟩
   have c1:((D:Int)==9221120237041090560)=true:=by rw[hD];rfl
   have c1':((D:Int)=9221120237041090560)=True:=eq_true (by rw[hD];rfl);have c2:((n:Int) != 32256)=false:=by rw[aq];rfl
   have c2':((n:Int)=32256)=True:=eq_true (by rw[aq];rfl);clear hc hD aq;exact jay
  have c1:((D:Int)==9221120237041090560)=false:=by rw[beq_eq_false_iff_ne];intro h;exact hD (by show D=9221120237041090560;omega)
  have c1':((D:Int)=9221120237041090560)=False:=eq_false (by intro h;exact hD (by show D=9221120237041090560;omega));clear hc hD;exact jay
 ·have hn:=H26.out rfl;have K1:IntKind.u32.wrap (n:Int)=(n:Int):=IntWalk.u32_in _ (by omega);have r1:=iv n;obtain⟨W0,Ie⟩:∃ W0,w.alloc zf=W0:=⟨_,rfl⟩
  obtain⟨D,w2,SF,qE,aY,AF,AG⟩:=Wq n hn W0;have E1:=Hh (Nh hn AF AG);have r2:=z6 D;have FL:=Hh (fun w=>qs D aY w)
  have zD:Below w.heap.size w w2:=by
   rw[← Ie]at qE
   rcases qE with rfl | rfl
   ·exact yB
   exact yB.drew
  have wm:Blk w2 w.heap.size 77 #[.int .i64 0,.int .u64 0,.slice none 0 0,.slice none 0 0]:=by
   rw[← Ie]at qE
   rcases qE with rfl | rfl
   ·exact kT
   exact kT.drew
  clear hn AF AG qE aY xv qo kT yB;go_enter Tryz.func169,Tryz.ntmps169
  go_upto_region 13 with fail
  clear Ie;go_wp2_with fail
  refine(FL.out _).mono ?_
  rintro e w3 ⟨r,rfl,cW⟩
  obtain⟨RA,rc,rfl,_⟩:=cW.own.form;have ug:=wm.below cW.2;have yR:=zD.trans (cW.2.mono zD.size);obtain⟨fl,fO⟩:∃ fl,(yw D).length=fl:=⟨_,rfl⟩
  rw[fO]at E1⊢;clear cW fO FL
  by_cases hq:fl=5
  ·subst hq;have E:Hid (_=Except.ok (Itm.mk 8 D [] [])):=E1.out.trans (if_neg (by simp));exact jaH
  have zq:((fl:Int)==5)=false:=by simp;omega
  have zq2:((fl:Int)=5)=False:=eq_false (by omega);exact jaA
 have E1:=Hh (Ni (n:=n));have FL:=Hh (fun w=>qs n HN.out w);have zD:=yB;have wm:=kT;clear xv qo kT yB;obtain⟨D,hD⟩:∃ D,n=D:=⟨_,rfl⟩
 subst hD;go_enter Tryz.func169,Tryz.ntmps169
 go_wp2_with fail
 refine(FL.out _).mono ?_
 rintro e w3 ⟨r,rfl,cW⟩
 obtain⟨RA,rc,rfl,_⟩:=cW.own.form;have ug:=wm.below cW.2;have yR:=zD.trans (cW.2.mono zD.size);obtain⟨fl,fO⟩:∃ fl,(yw n).length=fl:=⟨_,rfl⟩
 rw[fO]at E1⊢;clear cW fO FL
 by_cases hq:fl=9
 ·subst hq;have E:Hid (_=Except.ok (Itm.mk 8 n [] [])):=E1.out.trans (if_neg (by simp));exact jaH
 have zq:((fl:Int)==9)=false:=by simp;omega
 have zq2:((fl:Int)=9)=False:=eq_false (by omega);exact jaA
section
variable {T:TypeId} {w w' w'':World} {H H' H'':Snap} {g:Nat} {A:Option Addr} {c:Nat} {l:List UInt8} {p cnt p' cnt':Nat}
theorem Psr.gt (h:Psr T w g H A c l p cnt):g<w.heap.size:=h.blk.lt
structure Rdg (T:TypeId) (w:World) (H:Snap) (w':World) (H':Snap) (g:Nat) (A:Option Addr) (c:Nat) (l:List UInt8) (p cnt:Nat):Prop where
 grows:GrowsBut w H w' H' g
 psr:Psr T w' g H' A c l p cnt
theorem Rdg.refl (h:Psr T w g H A c l p cnt):Rdg T w H w H g A c l p cnt:=⟨GrowsBut.refl h.holds g,h⟩
theorem Rdg.trans (h:Rdg T w H w' H' g A c l p cnt) (k:Rdg T w' H' w'' H'' g A c l p' cnt'):Rdg T w H w'' H'' g A c l p' cnt':=⟨h.grows.trans k.grows,k.psr⟩
theorem Psr.grows (h:Psr T w g H A c l p cnt) (k:Grows w H w' H'):Rdg T w H w' H' g A c l p cnt :=
 ⟨k.but g,⟨h.blk.below k.below,h.bytes.mono k.le,k.holds,k.none h.apart h.gt,h.le,h.small,h.cnt_le⟩⟩
theorem Rdg.grown (h:Rdg T w H w' H' g A c l p cnt) (k:Grows w' H' w'' H''):Rdg T w H w'' H'' g A c l p cnt:=h.trans (h.psr.grows k)
theorem Rdg.alloc (h:Rdg T w H w' H' g A c l p cnt) (o:Obj):Rdg T w H (w'.alloc o) H' g A c l p cnt:=h.grown ((Grows.refl h.psr.holds).alloc o)
theorem Rdg.below_ (h:Rdg T w H w' H' g A c l p cnt) (k:Below w'.heap.size w' w''):Rdg T w H w'' H' g A c l p cnt:=h.grown (Grows.of_below h.psr.holds k)
theorem Rdg.drewN (h:Rdg T w H w' H' g A c l p cnt) (q:Nat):Rdg T w H (w'.drewN q) H' g A c l p cnt:=h.below_ (below_drewNv (Below.refl _ _) q)
theorem Rdg.size (h:Rdg T w H w' H' g A c l p cnt):w.heap.size≤w'.heap.size:=h.grows.grown.size
theorem Rdg.hid (h:Rdg T w H w' H' g A c l p cnt) {k:Nat}(hk:H k=.none) (hl:k<w.heap.size):H' k=.none:=h.grows.hid hk hl
theorem Rdg.step (h:Rdg T w H w' H' g A c l p cnt) (hg:w'.grownBy w'' (some g)) (hb:Blk w'' g T (ra A l.length c p' cnt')) (hp:p'≤l.length) (hc:cnt'≤256):Rdg T w H w'' H' g A c l p' cnt' :=
 ⟨⟨zG h.grows.grown hg (.inl rfl),h.grows.le,h.psr.holds.grown hg (by rintro q ⟨⟩;exact h.psr.apart),h.grows.fresh⟩,
  hb,h.psr.bytes,h.psr.holds.grown hg (by rintro q ⟨⟩;exact h.psr.apart),h.psr.apart,hp,h.psr.small,hc⟩
theorem Rdg.grownRow {row:Option Nat}(h:Rdg T w H w' H' g A c l p cnt) (h0:∀ k,row=some k→H' k=.none) (hw:∀ k,row=some k→w.heap.size≤k) (z9:g<w.heap.size) (hg:w'.grownBy w'' row):Rdg T w H w'' H' g A c l p cnt:=by
 have hd:=h.psr;have xp:row≠some g:=fun e=>by have:=hw g e;omega
 refine⟨⟨?_,h.grows.le,hd.holds.grown hg h0,h.grows.fresh⟩,hd.blk.grown hg xp,hd.bytes,hd.holds.grown hg h0,hd.apart,hd.le,hd.small,hd.cnt_le⟩
 exact jbB
theorem Blk.rdg {k:Nat}{t:TypeId}{cs:Array Value}(h:Blk w k t cs) (hd:Rdg T w H w' H' g A c l p cnt) (hk:k≠g):Blk w' k t cs :=
 h.grown hd.grows.grown (by intro e;injection e with e;exact hk e.symm)
theorem OwnI.rdg {base:Nat}{v:Value}{K:Snap}{L:List Itm}(h:OwnI w base v K L) (hd:Rdg T w H w' H' g A c l p cnt) (hb:g<base):OwnI w' base v K L:=by
 exact jce
def ItemOut (T:TypeId) (w:World) (H:Snap) (g:Nat) (A:Option Addr) (c:Nat) (l:List UInt8) (p:Nat) (r:PR) (e:Ending) (w':World):Prop :=
 match r with
 | .err q=>e=.returned (.tuple #[lN,.int .i64 (q:Int)])∧(∃ H' p' cnt',Rdg T w H w' H' g A c l p' cnt')
 | .ok x k c'=>∃ ja jb jc jd H',e=.returned (.tuple #[rG x ja jb jc jd,.int .i64 0])∧Rdg T w H w' H' g A c l (p+k) c'∧IsItem H' ja jb jc jd x
theorem ItemOut.err {e:Ending}{r:PR}{q:Nat}(hr:r=.err q) (he:e=.returned (.tuple #[lN,.int .i64 (q:Int)])) (h:Rdg T w H w' H' g A c l p' cnt'):ItemOut T w H g A c l p r e w':=by
 rw[hr,ItemOut];exact⟨he,H',p',cnt',h⟩
theorem ItemOut.ok {e:Ending}{r:PR}{x:Itm}{k c':Nat}{ja:Option Addr}{jb:Nat}{jc:Option Addr}{jd:Nat}(hr:r=.ok x k c') (he:e=.returned (.tuple #[rG x ja jb jc jd,.int .i64 0])) (h:Rdg T w H w' H' g A c l (p+k) c') (hi:IsItem H' ja jb jc jd x):ItemOut T w H g A c l p r e w':=by
 rw[hr,ItemOut];exact⟨ja,jb,jc,jd,H',he,h,hi⟩
end
def aF (d:Nat):Prop:=∀ (w:World) (H:Snap) (g:Nat) (A:Option Addr) (c:Nat) (l:List UInt8) (p cnt lv:Nat),Tabs H→lv+d=8→Psr 167 w g H A c l p cnt→
 Calls Tryz.prog 134 #[.pointer (some ⟨g,0,none⟩),.int .i64 (lv:Int)] w (ItemOut 167 w H g A c l p (ze d (l.drop p) cnt))
theorem fu (d:Nat) (b:List UInt8) (c:Nat) (h:256≤c):ze d b c=.err 8:=by rw[ze.eq_def];simp only;rw[if_pos h]
theorem sS (d:Nat) (b:List UInt8) (c:Nat) (h:¬ 256≤c) {q:Nat}(hq:zH b=.error q):ze d b c=.err q:=by rw[ze.eq_def];simp only;rw[if_neg h,hq]
theorem kB (d:Nat) (b:List UInt8) (c:Nat) (h:¬ 256≤c) {f n k:Nat}(hq:zH b=.ok (f,n,k)) (hk:f/32≤1):ze d b c=.ok (.mk (f/32:Nat) n [] []) k (c+1):=by
 rw[ze.eq_def];simp only;rw[if_neg h,hq];simp only;rw[if_pos hk]
theorem nJ (d:Nat) (b:List UInt8) (c:Nat) (h:¬ 256≤c) {f n k:Nat}(hq:zH b=.ok (f,n,k)) (h1:¬ f/32≤1) (h3:f/32≤3):ze d b c =
  (if b.length<k+n then .err 2 else if f/32=3∧Lib.validD ((b.drop k).take n)=false then .err 5 else .ok (.mk (f/32:Nat) 0 ((b.drop k).take n) []) (k+n) (c+1)):=by
 rw[ze.eq_def];simp only;rw[if_neg h,hq];simp only;rw[if_neg h1,if_pos h3]
theorem nj (d:Nat) (b:List UInt8) (c:Nat) (h:¬ 256≤c) {f n k:Nat}(hq:zH b=.ok (f,n,k)) (h7:f/32=7):ze d b c =
  (match yT (f%32) n with | .error e=>.err e | .ok x=>.ok x k (c+1)):=by
 rw[ze.eq_def];simp only;rw[if_neg h,hq];simp only;rw[if_neg (by omega),if_neg (by omega),if_pos h7]
 all_goals (cases yT (f%32) n <;> rfl)
theorem ft (b:List UInt8) (c:Nat) (h:¬ 256≤c) {f n k:Nat}(hq:zH b=.ok (f,n,k)) (h3:4≤f/32) (h7:f/32≤6):ze 0 b c=.err 8:=by
 rw[ze.eq_def];simp only;rw[if_neg h,hq];simp only;rw[if_neg (by omega),if_neg (by omega),if_neg (by omega)]
theorem da (d:Nat) (b:List UInt8) (c:Nat) (h:¬ 256≤c) {f n k:Nat}(hq:zH b=.ok (f,n,k)) (h6:f/32=6):ze (d+1) b c =
  (match ze d (b.drop k) (c+1) with | .err e=>.err e | .ok x k' c'=>.ok (.mk 6 n [] [x]) (k+k') c'):=by
 rw[ze.eq_def];simp only;rw[if_neg h,hq];simp only;rw[if_neg (by omega),if_neg (by omega),if_neg (by omega),if_pos h6]
 all_goals (cases ze d (b.drop k) (c+1) <;> rfl)
theorem dZ (d:Nat) (b:List UInt8) (c:Nat) (h:¬ 256≤c) {f n k:Nat}(hq:zH b=.ok (f,n,k)) (h5:f/32=5):ze (d+1) b c =
  (match wQ (ze d) n (b.drop k) (c+1) none with | .err e=>.err e | .ok l k' c'=>.ok (.mk 5 0 [] l) (k+k') c'):=by
 rw[ze.eq_def];simp only;rw[if_neg h,hq];simp only;rw[if_neg (by omega),if_neg (by omega),if_neg (by omega),if_neg (by omega),if_pos h5]
 all_goals (cases wQ (ze d) n (b.drop k) (c+1) none <;> rfl)
theorem dY (d:Nat) (b:List UInt8) (c:Nat) (h:¬ 256≤c) {f n k:Nat}(hq:zH b=.ok (f,n,k)) (h4:f/32=4):ze (d+1) b c =
  (match vq (ze d) n (b.drop k) (c+1) with | .err e=>.err e | .ok l k' c'=>.ok (.mk 4 0 [] l) (k+k') c'):=by
 rw[ze.eq_def];simp only;rw[if_neg h,hq];simp only;rw[if_neg (by omega),if_neg (by omega),if_neg (by omega),if_neg (by omega),if_neg (by omega)]
 all_goals (cases vq (ze d) n (b.drop k) (c+1) <;> rfl)
theorem nH {b:List UInt8}{q:Nat}(h:zH b=.error q):q=2∨q=3∨q=4:=by
 cases b with
 | nil=>injection h with h;omega
 | cons f t =>
 simp only[zH]at h
 repeat' split at h
 all_goals first | (injection h with h;omega) | cases h
theorem fz {low n q:Nat}(h:yT low n=.error q):q=4:=by
 rw[yT]at h
 repeat' split at h
 all_goals first | (injection h with h;omega) | cases h
theorem ZE {low n:Nat}{x:Itm}(h:yT low n=.ok x):∃ kd m,x=.mk kd m [] []∧(kd=7∨kd=8):=by
 rw[yT]at h
 split at h
 ·injection h with h;exact⟨7,n,h.symm,.inl rfl⟩
 split at h
 ·split at h
  ·cases h
  injection h with h;exact⟨7,n,h.symm,.inl rfl⟩
 split at h
 ·cases h
 injection h with h;exact⟨8,_,h.symm,.inr rfl⟩
theorem XS {H:Snap}{b:List UInt8}{f n k:Nat}{x:Itm}(HS:HeadIs b f n k) (h:yT (f%32) n=.ok x):IsItem H none 0 none 0 x:=by
 have hx:x.n<18446744073709551616:=by
  have:=HS.low
  rcases Nat.lt_or_ge (f%32) 24 with hl | hl
  ·obtain⟨s1,s2,s3⟩:=HS.small hl
   exact(qw (low:=f%32) (t:=[]) (by omega) (fun _=>⟨s1,rfl⟩) (fun h=>by omega) h).2.2.1
  obtain⟨s1,t,s2,s3,s4⟩:=HS.wide hl
  exact(qw (low:=f%32) (t:=t) (by omega) (fun h=>by omega) (fun _=>⟨s2,s4⟩) h).2.2.1
 obtain⟨kd,m,rfl,hk⟩:=ZE h
 exact IsItem.plain _ kd m (by omega) hx
section
variable {d:Nat} {w:World} {H:Snap} {g:Nat} {A:Option Addr} {c:Nat} {l:List UInt8} {p cnt lv:Nat}
theorem Yx (hTab:Tabs H) (hlv:lv+d=8) (hP:Psr 167 w g H A c l p cnt) (hc:cnt=256):Calls Tryz.prog 134 #[.pointer (some ⟨g,0,none⟩),.int .i64 (lv:Int)] w (ItemOut 167 w H g A c l p (ze d (l.drop p) cnt)):=by
 obtain⟨yo,xY,xO,wg⟩:=jff;have c2:=jfH;have x9:((cnt:Int)==256)=true:=by simp;omega
 have xV:((cnt:Int)=256)=True:=eq_true (by omega);have E:=Hh (fu d (l.drop p) cnt (by omega));clear hc;go_enter Tryz.func134,Tryz.ntmps134
 go_wp2_with (with_reducible refine zx ?_)
 refine stI xO fun wz hTy hgz=>?_
 have xr:=jgX;exact jcW
theorem Yy (hTab:Tabs H) (hlv:lv+d=8) (hP:Psr 167 w g H A c l p cnt) (hc:cnt<256) {q:Nat}(hh:zH (l.drop p)=.error q):Calls Tryz.prog 134 #[.pointer (some ⟨g,0,none⟩),.int .i64 (lv:Int)] w (ItemOut 167 w H g A c l p (ze d (l.drop p) cnt)):=by
 obtain⟨yo,xY,xO,wg⟩:=jff;have c2:=jfH;have E:=Hh (sS d (l.drop p) cnt (by omega) hh);have sz:((q:Int) != 0)=true:=by rw[bne_iff_ne];have:=nH hh;omega
 have oD:((q:Int)=0)=False:=eq_false (by have:=nH hh;omega);have x9:((cnt:Int)==256)=false:=by simp;omega
 obtain⟨xV,KC,HC⟩:=jfh;clear hc;go_enter Tryz.func134,Tryz.ntmps134
 go_wp2_with (with_reducible refine zx ?_)
 refine zw rfl _ _ _ rfl rfl g 2 (.int .i64 ((cnt:Int)+1)) rfl rfl _ _ xY.psr.blk zF (by simp) rfl fun w2 wm xq=>?_
 obtain⟨wC,tX,PH⟩:=jfi;clear xY xO wm xq c2 KC x9 xV;go_wp2_with fail
 refine PH.out.mono ?_
 intro e w3 hs
 rw[HeadSaid,hh]at hs;obtain⟨rfl,⟨p',hp',ug⟩,yA⟩:=hs;have wI:Rdg 167 w H w3 H g A c l p' (cnt+1):=wC.step yA ug hp' (by have:=HC.out;omega);have yE:=tX.gr yA (by omega);clear wC tX ug yA PH hh;exact jei
theorem Q6 (hTab:Tabs H) (hlv:lv+d=8) (hP:Psr 167 w g H A c l p cnt) (hc:cnt<256) {f n k:Nat}(hh:zH (l.drop p)=.ok (f,n,k)) (hk:f/32=0):Calls Tryz.prog 134 #[.pointer (some ⟨g,0,none⟩),.int .i64 (lv:Int)] w (ItemOut 167 w H g A c l p (ze d (l.drop p) cnt)):=by
 obtain⟨yo,xY,xO,wg⟩:=jff;have c2:=jfH;have E:Hid (ze d (l.drop p) cnt=.ok (.mk 0 n [] []) k (cnt+1)):=by rw[Hid,kB d (l.drop p) cnt (by omega) hh (by omega),hk];rfl
 have S:(f:Int)/32=0:=by omega
 have x9:((cnt:Int)==256)=false:=by simp;omega
 obtain⟨xV,KC,HC⟩:=jfh;clear hc;go_enter Tryz.func134,Tryz.ntmps134
 go_wp2_with (with_reducible refine zx ?_)
 refine zw rfl _ _ _ rfl rfl g 2 (.int .i64 ((cnt:Int)+1)) rfl rfl _ _ xY.psr.blk zF (by simp) rfl fun w2 wm xq=>?_
 obtain⟨wC,tX,PH⟩:=jfi;clear xY xO wm xq c2 KC x9 xV;go_wp2_with fail
 refine PH.out.mono ?_
 intro e w3 hs
 rw[HeadSaid,hh]at hs;obtain⟨rfl,ug,yA⟩:=hs;have HS:=ws hh;have se:p+k≤l.length:=by have:=HS.le;rw[List.length_drop]at this;have:=hP.le;omega
 obtain⟨wI,yE,HF⟩:=jfm;clear wC tX ug yA PH HS hh;go_wp2_with (with_reducible refine zx ?_)
 refine stI yE fun wz hTy hgz=>?_
 have xr:=jgY;go_wp2_with fail
 refine zo rfl rfl hTy rfl rfl zj rfl ?_
 exact ItemOut.ok (ja:=none) (jb:=0) (jc:=none) (jd:=0) E.out rfl xr (IsItem.plain _ 0 n (by omega) HF.out.n_lt)
theorem Q7 (hTab:Tabs H) (hlv:lv+d=8) (hP:Psr 167 w g H A c l p cnt) (hc:cnt<256) {f n k:Nat}(hh:zH (l.drop p)=.ok (f,n,k)) (hk:f/32=1):Calls Tryz.prog 134 #[.pointer (some ⟨g,0,none⟩),.int .i64 (lv:Int)] w (ItemOut 167 w H g A c l p (ze d (l.drop p) cnt)):=by
 obtain⟨yo,xY,xO,wg⟩:=jff;have c2:=jfH;have E:Hid (ze d (l.drop p) cnt=.ok (.mk 1 n [] []) k (cnt+1)):=by rw[Hid,kB d (l.drop p) cnt (by omega) hh (by omega),hk];rfl
 have S:(f:Int)/32=1:=by omega
 have x9:((cnt:Int)==256)=false:=by simp;omega
 obtain⟨xV,KC,HC⟩:=jfh;clear hc;go_enter Tryz.func134,Tryz.ntmps134
 go_wp2_with (with_reducible refine zx ?_)
 refine zw rfl _ _ _ rfl rfl g 2 (.int .i64 ((cnt:Int)+1)) rfl rfl _ _ xY.psr.blk zF (by simp) rfl fun w2 wm xq=>?_
 obtain⟨wC,tX,PH⟩:=jfi;clear xY xO wm xq c2 KC x9 xV;go_wp2_with fail
 refine PH.out.mono ?_
 intro e w3 hs
 rw[HeadSaid,hh]at hs;obtain⟨rfl,ug,yA⟩:=hs;have HS:=ws hh;have se:p+k≤l.length:=by have:=HS.le;rw[List.length_drop]at this;have:=hP.le;omega
 obtain⟨wI,yE,HF⟩:=jfm;clear wC tX ug yA PH HS hh;go_wp2_with (with_reducible refine zx ?_)
 refine stI yE fun wz hTy hgz=>?_
 have xr:=jgY;go_wp2_with fail
 refine zo rfl rfl hTy rfl rfl zj rfl ?_
 exact ItemOut.ok (ja:=none) (jb:=0) (jc:=none) (jd:=0) E.out rfl xr (IsItem.plain _ 1 n (by omega) HF.out.n_lt)
theorem QE (hTab:Tabs H) (hlv:lv+d=8) (hP:Psr 167 w g H A c l p cnt) (hc:cnt<256) {f n k:Nat}(hh:zH (l.drop p)=.ok (f,n,k)) (hk:f/32=7):Calls Tryz.prog 134 #[.pointer (some ⟨g,0,none⟩),.int .i64 (lv:Int)] w (ItemOut 167 w H g A c l p (ze d (l.drop p) cnt)):=by
 obtain⟨yo,xY,xO,wg⟩:=jff;have c2:=jfH;have E0:=Hh (nj d (l.drop p) cnt (by omega) hh hk);have S:(f:Int)/32=7:=by omega
 have x9:((cnt:Int)==256)=false:=by simp;omega
 obtain⟨xV,KC,HC⟩:=jfh;clear hc;go_enter Tryz.func134,Tryz.ntmps134
 go_wp2_with (with_reducible refine zx ?_)
 refine zw rfl _ _ _ rfl rfl g 2 (.int .i64 ((cnt:Int)+1)) rfl rfl _ _ xY.psr.blk zF (by simp) rfl fun w2 wm xq=>?_
 obtain⟨wC,tX,PH⟩:=jfi;clear xY xO wm xq c2 KC x9 xV;go_wp2_with fail
 refine PH.out.mono ?_
 intro e w3 hs
 rw[HeadSaid,hh]at hs;obtain⟨rfl,ug,yA⟩:=hs;have HS:=ws hh;have se:p+k≤l.length:=by have:=HS.le;rw[List.length_drop]at this;have:=hP.le;omega
 obtain⟨wI,yE,HF⟩:=jfm;clear wC tX ug yA PH HS hh
 have SV:=Hh (fun w=>Wm f n HF.out.f_lt HF.out.low HF.out.n_lt (by
  intro h25
  obtain⟨_,t,h1,_,h2⟩:=HF.out.wide (by omega);have:=rn t;rw[h1,h25]at this;rw[h2];simpa using this) (by
  intro h26
  obtain⟨_,t,h1,_,h2⟩:=HF.out.wide (by omega);have:=rn t;rw[h1,h26]at this;rw[h2];simpa using this) w)
 go_wp2_with fail
 refine(SV.out _).mono ?_
 intro e w4 hs
 obtain⟨xE,hs⟩:=hs;have wE:=wI.below_ xE;have wo:=yE.below xE;clear wI yE SV xE
 cases hsv:yT (f%32) n with
 | error q =>
  rw[hsv]at hs
  simp only at hs
  subst hs;have E:Hid (ze d (l.drop p) cnt=.err q):=by rw[Hid,E0.out,hsv]
  go_wp2_with (with_reducible refine zx ?_)
  refine stI wo fun wz hTy hgz=>?_
  have xr:=jgZ;exact jai
 | ok x =>
 rw[hsv]at hs
 simp only at hs
 subst hs;have E:Hid (ze d (l.drop p) cnt=.ok x k (cnt+1)):=by rw[Hid,E0.out,hsv]
 have Sb:IsItem H none 0 none 0 x:=XS HF.out hsv;clear hsv;go_wp2_with (with_reducible refine zx ?_)
 refine stI wo fun wz hTy hgz=>?_
 have xr:=jgZ;go_wp2_with fail
 refine zo rfl rfl hTy rfl rfl zj rfl ?_
 exact ItemOut.ok E.out rfl xr Sb
theorem Yw (hTab:Tabs H) (hlv:lv=8) (hP:Psr 167 w g H A c l p cnt) (hc:cnt<256) {f n k:Nat}(hh:zH (l.drop p)=.ok (f,n,k)) (h4:4≤f/32) (h6:f/32≤6):Calls Tryz.prog 134 #[.pointer (some ⟨g,0,none⟩),.int .i64 (lv:Int)] w (ItemOut 167 w H g A c l p (ze 0 (l.drop p) cnt)):=by
 obtain⟨yo,xY,xO,wg⟩:=jff;have c2:=jfH;have E:=Hh (ft (l.drop p) cnt (by omega) hh h4 h6);obtain⟨kd,ru⟩:∃ kd,f/32=kd:=⟨_,rfl⟩
 have S:(f:Int)/32=(kd:Int):=by omega
 have s0:((kd:Int)==0)=false:=by simp;omega
 have s1:((kd:Int)==1)=false:=by simp;omega
 have s2:((kd:Int)==2)=false:=by simp;omega
 have s3:((kd:Int)==3)=false:=by simp;omega
 have s7:((kd:Int)==7)=false:=by simp;omega
 obtain⟨q0,q1,q2,q3⟩:=jhe;have q7:((kd:Int)=7)=False:=eq_false (by omega);have WX:(kd:Int)≤7:=by omega
 subst hlv;clear ru h4 h6;have x9:((cnt:Int)==256)=false:=by simp;omega
 obtain⟨xV,KC,HC⟩:=jfh;clear hc;go_enter Tryz.func134,Tryz.ntmps134
 go_wp2_with (with_reducible refine zx ?_)
 refine zw rfl _ _ _ rfl rfl g 2 (.int .i64 ((cnt:Int)+1)) rfl rfl _ _ xY.psr.blk zF (by simp) rfl fun w2 wm xq=>?_
 obtain⟨wC,tX,PH⟩:=jfi;clear xY xO wm xq c2 KC x9 xV;go_wp2_with fail
 refine PH.out.mono ?_
 intro e w3 hs
 rw[HeadSaid,hh]at hs;obtain⟨rfl,ug,yA⟩:=hs;have HS:=ws hh;have se:p+k≤l.length:=by have:=HS.le;rw[List.length_drop]at this;have:=hP.le;omega
 obtain⟨wI,yE,HF⟩:=jfm;clear wC tX ug yA PH HS hh;exact jei
end
theorem Rdg.gb {T:TypeId}{w w' w'':World}{H H':Snap}{g k:Nat}{A:Option Addr}{c:Nat}{l:List UInt8}{p cnt:Nat}(h:Rdg T w H w' H' g A c l p cnt) (h0:H' k=none) (hw:w.heap.size≤k) (z9:g<w.heap.size) (hg:w'.grownBy w'' (some k)):Rdg T w H w'' H' g A c l p cnt:=h.grownRow (row:=some k) (by rintro q ⟨⟩;exact h0) (by rintro q ⟨⟩;exact hw) z9 hg
end Go.Proofs.YtkmlnjociijpgaaGreatDoor
