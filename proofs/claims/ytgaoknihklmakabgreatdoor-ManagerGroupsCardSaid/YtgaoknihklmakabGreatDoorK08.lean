/- squeezed. Walks: the program's simple values -/
import Derived.Test.YtgaoknihklmakabGreatDoorK07
set_option linter.unusedVariables false
set_option linter.unusedSimpArgs false
set_option maxRecDepth 100000
set_option maxHeartbeats 6400000
namespace Go.Proofs.YtgaoknihklmakabGreatDoor
open Go.RowKit
theorem jaj{P:Prop}(h:P:=by exact jeU):P:=h
theorem jay{P:Prop}(h:P:=by
 go_enter Tryz.func101,Tryz.ntmps101
 go_wp2_with fail
 refine(WD.out _).mono ?_
 rintro e w1 ⟨rfl,rfl⟩
 go_wp2_with fail
 refine(FL.out _).mono ?_
 rintro e w3 ⟨r,rfl,iO⟩
 obtain⟨RA,rc,rfl,_⟩:=iO.own.form;have vL:=ob.below iO.2;have xy:=uo.trans (iO.2.mono uo.size);obtain⟨fl,e9⟩:∃ fl,(zO D).length=fl:=⟨_,rfl⟩
 rw[e9]at E1⊢;clear iO e9 FL
 by_cases hq:fl=3
 ·subst hq;have E:Hid (_=Except.ok (Itm.mk 8 D [] [])):=E1.out.trans (if_neg (by simp));exact jen
 have zq:((fl:Int)==3)=false:=by simp;omega
 have zq2:((fl:Int)=3)=False:=eq_false (by omega);exact jei):P:=h
theorem jaC{P:Prop}(h:P:=by exact jei):P:=h
theorem jaJ{P:Prop}(h:P:=by exact jen):P:=h
theorem jaN{P:Prop}(h:P:=by
 rw[hv]at UV;have E:Hid (zZ d (l.drop p) cnt=.ok (.mk 3 0 s []) (k+n) (cnt+1)):=by rw[Hid,E1.out,if_neg (fun h=>by rw[hv]at h;cases h.2)]
 clear hv E1;go_wp2_with fail
 refine UV.out.mono ?_
 rintro e w8 ⟨rfl,nC⟩
 have ul:=ux.below_ nC;have tD:=vz.below nC;clear UV ux vz;go_wp2_with (with_reducible refine zx ?_)
 refine stI tD fun wz hTy zS=>?_
 have yl:=ul.grownRow (row:=some w.heap.size) (by rintro q ⟨⟩;exact la) (by rintro q ⟨⟩;exact Nat.le_refl _) yC zS;exact jet):P:=h
theorem jaU{P:Prop}(h:P:=by
 have vz:=vw.gr xp (by omega);have la:=sM;clear xS vw mr xp a1;have E:Hid (zZ d (l.drop p) cnt=.ok (.mk 2 0 s []) (k+n) (cnt+1)):=by rw[Hid,E1.out,if_neg (fun h=>absurd h.1 (by omega))]
 have IB:=oM;clear E1;go_wp2_with (with_reducible refine zx ?_)
 refine stI vz fun wz hTy zS=>?_
 have yl:=ux.grownRow (row:=some w.heap.size) (by rintro q ⟨⟩;exact la) (by rintro q ⟨⟩;exact Nat.le_refl _) yC zS;exact jeu):P:=h
theorem ja8{P:Prop}(h:P:=by exact jfj):P:=h
theorem ja9{P:Prop}(h:P:=by exact jfk):P:=h
theorem jcc{P:Prop}(h:P:=by exact je7):P:=h
theorem jcm{P:Prop}(h:P:=by exact⟨tO.psr.blk.cell 0 rfl,tO.psr.blk.cell 1 rfl⟩):P:=h
theorem jc6{P:Prop}(h:P:=by
 go_wp2_with fail
 refine zw rfl rfl hTy rfl rfl zt rfl ?_
 exact ItemOut.err (q:=8) E.out rfl yl):P:=h
theorem jea{P:Prop}(h:P:=by
 have vz:=vw.gr xp (by omega);have la:=sM;clear xS vw mr xp a1;have IB:=oM;have UV:=Hh (sB (hTab.mono xW.le) w7 ux.psr.holds RA s s.length rc rfl oM)
 cases hv:Lib.validD s with
 | false =>
  rw[hv]at UV;have E:Hid (zZ d (l.drop p) cnt=.err 5):=by rw[Hid,E1.out,if_pos (by first | exact⟨rfl,hv⟩ | exact⟨trivial,hv⟩)]
  clear hv E1;go_wp2_with fail
  refine UV.out.mono ?_
  rintro e w8 ⟨rfl,nC⟩
  have ul:=ux.below_ nC;have tD:=vz.below nC;clear UV ux vz;go_wp2_with (with_reducible refine zx ?_)
  refine stI tD fun wz hTy zS=>?_
  have yl:=ul.grownRow (row:=some w.heap.size) (by rintro q ⟨⟩;exact la) (by rintro q ⟨⟩;exact Nat.le_refl _) yC zS;exact jaj
 | true =>
 exact jaN):P:=h
theorem jed{P:Prop}(h:P:=by
 have z0:(l.length:Int)-(P:Int)<(n:Int):=by omega
 have E:Hid (zZ d (l.drop p) cnt=.err 2):=by rw[Hid,E0.out,if_pos (by omega)]
 clear mT rE mv kK WK dC j0 E0 zB uj;go_wp2_with fail
 go_big_quiet (fail)
 have tp:=ve.drewN nq;have uz:Blk (w3.drewN nq) w.heap.size 83 #[.int .i64 0,.int .u64 0,.slice none 0 0,.slice none 0 0]:=vq;exact jfe):P:=h
theorem jei{P:Prop}(h:P:=by
 have E:Hid (_=Except.error 4):=E1.out.trans (if_pos hq);clear E1 hq;go_wp2_with (with_reducible refine zx ?_)
 refine stI vL fun wz hTy zS=>?_
 have yg:=yi xy zS (by rintro q ⟨⟩;exact Nat.le_refl _);exact jfj):P:=h
theorem jen{P:Prop}(h:P:=by
 clear E1;go_wp2_with (with_reducible refine zx ?_)
 refine stI vL fun wz hTy zS=>?_
 have yg:=yi xy zS (by rintro q ⟨⟩;exact Nat.le_refl _);exact jfk):P:=h
theorem jep{P:Prop}(h:P:=by
 go_wp2_with (with_reducible refine zx ?_)
 refine stI vq fun wz hTy zS=>?_
 have yl:=ve.grownRow (row:=some w.heap.size) (by rintro q ⟨⟩;exact yj) (by rintro q ⟨⟩;exact Nat.le_refl _) yC zS;exact jaj):P:=h
theorem jeq{P:Prop}(h:P:=by
 go_enter Tryz.func101,Tryz.ntmps101
 go_wp2_with (with_reducible refine zx ?_)
 refine stI ob fun wz hTy zS=>?_
 have yg:=yi uo zS (by rintro q ⟨⟩;exact Nat.le_refl _);exact ja9):P:=h
theorem jet{P:Prop}(h:P:=by
 go_wp2_with fail
 refine zw rfl rfl hTy rfl rfl zt rfl ?_
 exact ItemOut.ok E.out rfl (by rw[← Nat.add_assoc,HK.out.2.2.2];exact yl) (IsItem.str 3 (by omega) IB)):P:=h
theorem jeu{P:Prop}(h:P:=by
 go_wp2_with fail
 refine zw rfl rfl hTy rfl rfl zt rfl ?_
 exact ItemOut.ok E.out rfl (by rw[← Nat.add_assoc,HK.out.2.2.2];exact yl) (IsItem.str 2 (by omega) IB)):P:=h
theorem jew{P:Prop}(h:P:=by
 go_wp2_with (with_reducible refine zx ?_)
 refine stI ob fun wz hTy zS=>?_
 have yg:=yi uo zS (by rintro q ⟨⟩;exact Nat.le_refl _);exact ja8):P:=h
theorem jeU{P:Prop}(h:P:=by
 go_wp2_with fail
 refine zw rfl rfl hTy rfl rfl zt rfl ?_
 exact ItemOut.err E.out rfl yl):P:=h
theorem jeY{P:Prop}(h:P:=by rw[Hid,nN d (l.drop p) cnt (by omega) hh (by omega) (by omega),hk];exact jcc):P:=h
theorem je7{P:Prop}(h:P:=by first | rfl | (simp only[true_and];first | done | rfl) | simp):P:=h
theorem jfe{P:Prop}(h:P:=by
 go_wp2_with (with_reducible refine zx ?_)
 refine stI uz fun wz hTy zS=>?_
 have yl:=tp.grownRow (row:=some w.heap.size) (by rintro q ⟨⟩;exact yj) (by rintro q ⟨⟩;exact Nat.le_refl _) yC zS;exact jaj):P:=h
theorem jfj{P:Prop}(h:P:=by
 go_wp2_with fail
 refine zw rfl rfl hTy rfl rfl zt rfl ?_
 exact SevenSaid.err E.out rfl yg):P:=h
theorem jfk{P:Prop}(h:P:=by
 go_wp2_with fail
 refine zw rfl rfl hTy rfl rfl zt rfl ?_
 exact SevenSaid.ok E.out rfl yg):P:=h
theorem jfx{P:Prop}(h:P:=by have yC:=hP.gt;have vx:=(Rdg.refl hP).alloc zg;have vM:=Blk.new w 83 #[.int .i64 0,.int .u64 0,.slice none 0 0,.slice none 0 0];have yj:H w.heap.size=none:=hP.holds.none_of_ge (Nat.le_refl _);exact And.intro yC (And.intro vx (And.intro vM yj))):P:=h
theorem jfC{P:Prop}(h:P:=by have xL:((cnt:Int)=256)=False:=eq_false (by omega);have KC:IntKind.i64.wrap ((cnt:Int)+1)=(cnt:Int)+1:=IntWalk.i64_in _ (by omega);have HC:=Hh hc;exact And.intro xL (And.intro KC HC)):P:=h
theorem jfD{P:Prop}(h:P:=by have vO:Rdg 117 w H w2 H g A c l p (cnt+1):=vx.step zM yT hP.le (by have:=HC.out;omega);have tK:=vM.gr zM (by omega);have PH:=Hh (po vO.psr);exact And.intro vO (And.intro tK PH)):P:=h
theorem jfH{P:Prop}(h:P:=by have ve:Rdg 117 w H w3 H g A c l (p+k) (cnt+1):=vO.step yY vL rh (by have:=HC.out;omega);have vq:=tK.gr yY (by omega);have HF:=Hh HS;exact And.intro ve (And.intro vq HF)):P:=h
theorem jfQ{P:Prop}(h:P:=by have pF:=ve.drewN nq;have pC:Blk (w3.drewN nq) w.heap.size 83 #[.int .i64 0,.int .u64 0,.slice none 0 0,.slice none 0 0]:=vq;exact And.intro pF pC):P:=h
theorem jfR{P:Prop}(h:P:=by have KN:IntKind.i64.wrap (n:Int)=(n:Int):=IntWalk.i64_in _ (by omega);have KP:IntKind.i64.wrap ((P:Int)+(n:Int))=(P:Int)+(n:Int):=IntWalk.i64_in _ (by omega);exact And.intro KN KP):P:=h
theorem jfT{P:Prop}(h:P:=by have OJ:(c=P)=False:=eq_false mw;have pG:Rdg 117 w H w4.drew H g (some ⟨b,off,none⟩) c l P (cnt+1):=tp.drewN 1;have mI:Blk w4.drew w.heap.size 83 #[.int .i64 0,.int .u64 0,.slice none 0 0,.slice none 0 0]:=uz;have CL:=Hh (vC w4.drew (some ⟨b,off+P,none⟩) s n (c-P) gl.out (by have:=gl.out;omega) ((by have hq:=lH (w:=w4.drew) (n:=n) jP P (some ⟨b,off+P,none⟩) (fun _=>rfl) (by omega);rw[j0]at hq;exact hq)));have a0:=tp.psr.blk.cell 0 rfl;have a1:=tp.psr.blk.cell 1 rfl;exact And.intro OJ (And.intro pG (And.intro mI (And.intro CL (And.intro a0 a1))))):P:=h
theorem jfX{P:Prop}(h:P:=by have pG:Rdg 117 w H w4.drew H g (some ⟨b,off,none⟩) P l P (cnt+1):=tp.drewN 1;have mI:Blk w4.drew w.heap.size 83 #[.int .i64 0,.int .u64 0,.slice none 0 0,.slice none 0 0]:=uz;have CL:=Hh (vC w4.drew (some ⟨b,off,none⟩) s n 0 gl.out (by have:=gl.out;omega) (by have hz:s=[]:=List.eq_nil_of_length_eq_zero (by have:=gl.out;omega);rw[hz];exact Src.nil _ _));have a0:=tp.psr.blk.cell 0 rfl;have a1:=tp.psr.blk.cell 1 rfl;exact And.intro pG (And.intro mI (And.intro CL (And.intro a0 a1)))):P:=h
theorem jf5{P:Prop}(h:P:=by have c2:=vx.psr.blk.cell 2 rfl;exact c2):P:=h
theorem jga{P:Prop}(h:P:=by have K1:IntKind.i64.wrap ((l.length:Int)-(P:Int))=(l.length:Int)-(P:Int):=IntWalk.i64_in _ (by omega);exact K1):P:=h
theorem jgw{P:Prop}(h:P:=by have z0b:decide ((l.length:Int)-(P:Int)<(n:Int))=false:=decide_eq_false z0;exact z0b):P:=h
theorem jgV{P:Prop}(h:P:=by have HK:=Hh (And.intro mT (And.intro rE (And.intro mv dC)));exact HK):P:=h
theorem jgY{P:Prop}(h:P:=by have kK:=HF.out.n_lt;have WK:(l.drop p).length=l.length-p:=List.length_drop;exact And.intro kK WK):P:=h
theorem jgZ{P:Prop}(h:P:=by have a0:=ve.psr.blk.cell 0 rfl;have a1:=ve.psr.blk.cell 1 rfl;exact And.intro a0 a1):P:=h
theorem jg3{P:Prop}(h:P:=by have a1:=xS.psr.blk.cell 1 rfl;exact a1):P:=h
theorem jhl{P:Prop}(h:P:=by have yl:=ve.grownRow (row:=some w.heap.size) (by rintro q ⟨⟩;exact yj) (by rintro q ⟨⟩;exact Nat.le_refl _) yC zS;exact yl):P:=h
theorem jhn{P:Prop}(h:P:=by have ux:Rdg 117 w H w7 H6 g (some ⟨b,off,none⟩) P l (P+n) (cnt+1):=xS.step xp mr (by omega) (by have:=HC.out;omega);exact ux):P:=h
theorem jho{P:Prop}(h:P:=by have ux:Rdg 117 w H w7 H6 g (some ⟨b,off,none⟩) c l (P+n) (cnt+1):=xS.step xp mr (by omega) (by have:=HC.out;omega);exact ux):P:=h
theorem jhw{P:Prop}(h:P:=by have q0:((kd:Int)=0)=False:=eq_false (by omega);have q1:((kd:Int)=1)=False:=eq_false (by omega);have q2:((kd:Int)=2)=False:=eq_false (by omega);have q3:((kd:Int)=3)=False:=eq_false (by omega);exact And.intro q0 (And.intro q1 (And.intro q2 q3))):P:=h
theorem iT (n:Nat) (w:World):(callFunc 119 #[.int .u32 (n:Int)]).run Tryz.prog w=.ok (.value (.float .f32 n)) w:=by
 rw[run_callFunc_extern Tryz.func119 (by kernel_rfl) (by kernel_rfl) (by kernel_rfl) (e:=Extern.MathFloatBits.float32frombits) (by kernel_rfl)];rfl
theorem YH {r:Nat}(hr:r<4294967296) (h:r/8388608%256=255∧r%8388608≠0):(Ieee.single.read r).isNaN=true:=by
 obtain⟨e1,e2,e3⟩:=jgE;obtain⟨h1,h2⟩:=h
 unfold Ieee.Format.read
 rw[e1,e2,e3]
 simp only[show ¬ r%2147483648<8388608 by omega,show ¬ r%2147483648<2139095040 by omega,show ¬ r%2147483648=2139095040 by omega,if_false]
 rfl
theorem XY (r:Nat) (hr:r<4294967296) (w:World):∃ m w',(convert 158 157 (.float .f32 r)).run Tryz.prog w=.ok (.float .f64 m) w'∧(w'=w∨w'=w.drew)∧m<18446744073709551616∧
  ((r/8388608%256=255∧r%8388608≠0)→isNaN m=true)∧(¬ (r/8388608%256=255∧r%8388608≠0)→m=vK r):=by
 have hs:Tryz.prog.underlying 158=some (.float .f32):=Tryz.underlying158;have hd:Tryz.prog.underlying 157=some (.float .f64):=Tryz.underlying157
 by_cases hx:r/8388608%256=255∧r%8388608≠0
 ·have hn:=YH hr hx
  cases hq:FloatKind.decode .f32 r with
  | number a b c =>
   have h':Ieee.single.read r=.number a b c:=hq;rw[h']at hn;cases hn
  | infinity a =>
   have h':Ieee.single.read r=.infinity a:=hq;rw[h']at hn;cases hn
  | nan a b =>
  have ie:isNaN ((Question.nanConv .f64 r).cut (w.tape w.drawn (Question.nanConv .f64 r)))=true∧((Question.nanConv .f64 r).cut (w.tape w.drawn (Question.nanConv .f64 r)))<18446744073709551616:=by
   rw[jl];show((_%2*2 ^ 63+0x7ff0000000000000+1+_/2%(2 ^ 52-1))/2 ^ 52%2048=2047∧_)∧_
   generalize w.tape w.drawn (Question.nanConv .f64 r)=t
   show((t%2*2 ^ 63+0x7ff0000000000000+1+t/2%(2 ^ 52-1))/2 ^ 52%2048=2047∧(t%2*2 ^ 63+0x7ff0000000000000+1+t/2%(2 ^ 52-1))%2 ^ 52≠0)∧t%2*2 ^ 63+0x7ff0000000000000+1+t/2%(2 ^ 52-1)<18446744073709551616
   exact jb9
  refine⟨(Question.nanConv .f64 r).cut (w.tape w.drawn (Question.nanConv .f64 r)),w.drew, ?_,.inr rfl,ie.2,fun _=>ie.1,fun h=>absurd hx h⟩
  exact jdg
 obtain⟨Z8,zB⟩:=pA hr hx;have hw:=cR Z8;have Md:(Tryz.prog.underlying 158).isSome=true:=by rw[hs];rfl
 exact⟨vK r,w,run_convert_float_float (P:=Tryz.prog) (w:=w) 158 157 .f32 .f64 r _ Md hd hw,.inl rfl,zB,fun h=>absurd h hx,fun _=>rfl⟩
abbrev dz:Value:=.agg #[.int .i64 0,.int .u64 0,.slice none 0 0,.slice none 0 0]
def SevenSaid (w:World) (low n:Nat) (e:Ending) (w':World):Prop :=
 Below w.heap.size w w'∧match yL low n with
  | .error q=>e=.returned (.tuple #[dz,.int .i64 (q:Int)])
  | .ok x=>e=.returned (.tuple #[xx x none 0 none 0,.int .i64 0])
theorem SevenSaid.err {w w':World}{low n q:Nat}{e:Ending}(h:yL low n=.error q) (he:e=.returned (.tuple #[dz,.int .i64 (q:Int)])) (hb:Below w.heap.size w w'):SevenSaid w low n e w':=by
 rw[SevenSaid,h];exact⟨hb,he⟩
theorem SevenSaid.ok {w w':World}{low n:Nat}{x:Itm}{e:Ending}(h:yL low n=.ok x) (he:e=.returned (.tuple #[xx x none 0 none 0,.int .i64 0])) (hb:Below w.heap.size w w'):SevenSaid w low n e w':=by
 rw[SevenSaid,h];exact⟨hb,he⟩
theorem lC (low n:Nat) (h:25≤low):yL low n=if(isNaN (uN low n)&&uN low n != ym)||(zO (uN low n)).length != 1+2 ^ (low-24) then .error 4 else .ok (.mk 8 (uN low n) [] []):=by
 rw[yL,if_neg (by omega),if_neg (by omega)]
theorem Vy {v:Nat}(hv:v<65536):wo v<18446744073709551616:=by
 rw[wo]
 split
 ·decide
 rename_i h;exact(p9 hv h).2
theorem mZ:isNaN ym=true:=by decide +kernel
theorem Qe {n:Nat}(hn:n<65536):yL 25 n=if wo n=ym∧n≠32256 then .error 4 else if(zO (wo n)).length≠3 then .error 4 else .ok (.mk 8 (wo n) [] []):=by
 rw[lC 25 n (by omega),show uN 25 n=wS n by rw[uN,if_pos rfl]]
 by_cases hx:n/1024%32=31∧n%1024≠0
 ·obtain⟨q1,q2⟩:=fq hn hx;have hq:wo n=ym:=by rw[wo,if_pos hx]
  rw[hq,q1]
  by_cases h:n=32256
  ·have h5:=q2.2 h;have L:(zO ym).length=3:=by rw[tH mZ];rfl
   rw[h5,L]
   simp[h]
  have h5:wS n≠ym:=fun h'=>h (q2.1 h')
  have b5:(wS n != ym)=true:=by rw[bne_iff_ne];exact h5
  rw[b5]
  simp[h]
 obtain⟨q1,q2⟩:=p9 hn hx;have q3:=kT q1;have hq:wo n=wS n:=by rw[wo,if_neg hx]
 have uy:wS n≠ym:=fun h=>by rw[h,mZ]at q3;cases q3
 rw[hq,q3]
 generalize wS n=D at *
 simp[uy]
theorem Qf {n m:Nat}(hn:n<4294967296) (h1:(n/8388608%256=255∧n%8388608≠0)→isNaN m=true) (h2:¬ (n/8388608%256=255∧n%8388608≠0)→m=vK n) :
  yL 26 n=if(zO m).length≠5 then .error 4 else .ok (.mk 8 m [] []):=by
 rw[lC 26 n (by omega),show uN 26 n=vK n by rw[uN,if_neg (by omega),if_pos rfl]]
 by_cases hx:n/8388608%256=255∧n%8388608≠0
 ·have q1:=fr hn hx;have L1:(zO (vK n)).length=3:=by rw[tH q1];rfl
  have L2:(zO m).length=3:=by rw[tH (h1 hx)];rfl
  rw[L1,L2]
  simp
 obtain⟨q1,q2⟩:=pA hn hx;have q3:=kU q1;rw[h2 hx,q3]
 generalize vK n=D at *
 simp
theorem Qg {n:Nat}:yL 27 n=if(zO n).length≠9 then .error 4 else .ok (.mk 8 n [] []):=by
 rw[lC 27 n (by omega),show uN 27 n=n by rw[uN,if_neg (by omega),if_neg (by omega)]]
 cases h:isNaN n with
 | true =>
  have L:(zO n).length=3:=by rw[tH h];rfl
  rw[L];simp
 | false=>simp
theorem XU (f n:Nat) (hf:f<256) (xN:f%32≤27) (hn:n<18446744073709551616) (Yp:f%32=25→n<65536) (Ou:f%32=26→n<4294967296) (w:World) :
  Calls Tryz.prog 101 #[.int .u8 (f:Int),.int .u64 (n:Int)] w (SevenSaid w (f%32) n):=by
 have KA:=ax ⟨f,hf⟩
 simp only at KA
 obtain⟨low,hl⟩:∃ low,f%32=low:=⟨_,rfl⟩
 rw[hl]at KA xN Yp Ou⊢;have ob:=Blk.new w 83 #[.int .i64 0,.int .u64 0,.slice none 0 0,.slice none 0 0];have uo:=zm w zg;have HN:=Hh hn;have As:=Hh Yp;have At:=Hh Ou;clear hn Yp Ou hl hf
 by_cases tZ:low<24
 ·have e1:((low:Int)==24)=false:=by simp;omega
  have e2:((low:Int)==25)=false:=by simp;omega
  have e3:((low:Int)==26)=false:=by simp;omega
  have e4:((low:Int)==27)=false:=by simp;omega
  have p1:((low:Int)=24)=False:=eq_false (by omega);have p2:((low:Int)=25)=False:=eq_false (by omega);have p3:((low:Int)=26)=False:=eq_false (by omega);have p4:((low:Int)=27)=False:=eq_false (by omega);have E:Hid (yL low n=.ok (.mk 7 n [] [])):=by rw[Hid,yL,if_pos tZ]
  clear xN tZ;exact jeq
 rcases(by omega:low=24∨low=25∨low=26∨low=27) with rfl | rfl | rfl | rfl
 ·by_cases UQ:n<32
  ·have z32:(n:Int)<32:=by omega
   have E:Hid (yL 24 n=.error 4):=by rw[Hid,yL,if_neg (by omega),if_pos rfl,if_pos UQ]
   clear UQ xN tZ;go_enter Tryz.func101,Tryz.ntmps101
   exact jew
  have z32:¬ ((n:Int)<32):=by omega
  have E:Hid (yL 24 n=.ok (.mk 7 n [] [])):=by rw[Hid,yL,if_neg (by omega),if_pos rfl,if_neg UQ]
  clear UQ xN tZ;exact jeq
 ·have hn:=As.out rfl;have K1:IntKind.u16.wrap (n:Int)=(n:Int):=IntWalk.u16_in _ (by omega);have FL:=Hh (fun w=>sO (wo n) (Vy hn) w);have E0:=Hh (Qe hn);obtain⟨D,hD⟩:∃ D,wo n=D:=⟨_,rfl⟩
  have WD:=Hh (show ∀ w,Calls Tryz.prog 117 #[.int .u16 (n:Int)] w fun e w'=>e=.returned (.int .u64 (D:Int))∧w'=w from fun w=>by
   have h:=XV n hn w
   unfold TC at h
   rw[hD]at h
   exact h)
  rw[hD]at FL E0;clear hn hD xN tZ
  by_cases hc:D=ym∧n≠32256
  ·have c1:((D:Int)==9221120237041090560)=true:=by rw[hc.1];rfl
   have c2:((n:Int) != 32256)=true:=by rw[bne_iff_ne];omega
   have c1':((D:Int)=9221120237041090560)=True:=eq_true (by rw[hc.1];rfl);have c2':((n:Int)=32256)=False:=eq_false (by omega);have E:Hid (yL 25 n=.error 4):=by rw[Hid,E0.out,if_pos hc]
   clear hc E0 FL;go_enter Tryz.func101,Tryz.ntmps101
   go_wp2_with fail
   refine(WD.out _).mono ?_
   rintro e w1 ⟨rfl,rfl⟩
   exact jew
  have E1:Hid (yL 25 n=if(zO D).length≠3 then .error 4 else .ok (.mk 8 D [] [])):=by rw[Hid,E0.out,if_neg hc]
  clear E0
  by_cases hD:D=ym
  ·have Yw:n=32256:=Classical.byContradiction fun h=>hc ⟨hD,h⟩
   have c1:((D:Int)==9221120237041090560)=true:=by rw[hD];rfl
   have c1':((D:Int)=9221120237041090560)=True:=eq_true (by rw[hD];rfl);have c2:((n:Int) != 32256)=false:=by rw[Yw];rfl
   have c2':((n:Int)=32256)=True:=eq_true (by rw[Yw];rfl);clear hc hD Yw;exact jay
  have c1:((D:Int)==9221120237041090560)=false:=by rw[beq_eq_false_iff_ne];intro h;exact hD (by show D=9221120237041090560;omega)
  have c1':((D:Int)=9221120237041090560)=False:=eq_false (by intro h;exact hD (by show D=9221120237041090560;omega));clear hc hD;exact jay
 ·have hn:=At.out rfl;have K1:IntKind.u32.wrap (n:Int)=(n:Int):=IntWalk.u32_in _ (by omega);have r1:=iT n;obtain⟨W0,M8⟩:∃ W0,w.alloc zg=W0:=⟨_,rfl⟩
  obtain⟨D,w2,dD,sN,WF,Ru,UR⟩:=XY n hn W0;have E1:=Hh (Qf hn Ru UR);have r2:=yU D;have FL:=Hh (fun w=>sO D WF w)
  have zC:Below w.heap.size w w2:=by
   rw[← M8]at sN
   rcases sN with rfl | rfl
   ·exact uo
   exact uo.drew
  have yT:Blk w2 w.heap.size 83 #[.int .i64 0,.int .u64 0,.slice none 0 0,.slice none 0 0]:=by
   rw[← M8]at sN
   rcases sN with rfl | rfl
   ·exact ob
   exact ob.drew
  clear hn Ru UR sN WF xN tZ ob uo;go_enter Tryz.func101,Tryz.ntmps101
  go_upto_region 13 with fail
  clear M8;go_wp2_with fail
  refine(FL.out _).mono ?_
  rintro e w3 ⟨r,rfl,iO⟩
  obtain⟨RA,rc,rfl,_⟩:=iO.own.form;have vL:=yT.below iO.2;have xy:=zC.trans (iO.2.mono zC.size);obtain⟨fl,e9⟩:∃ fl,(zO D).length=fl:=⟨_,rfl⟩
  rw[e9]at E1⊢;clear iO e9 FL
  by_cases hq:fl=5
  ·subst hq;have E:Hid (_=Except.ok (Itm.mk 8 D [] [])):=E1.out.trans (if_neg (by simp));exact jaJ
  have zq:((fl:Int)==5)=false:=by simp;omega
  have zq2:((fl:Int)=5)=False:=eq_false (by omega);exact jaC
 have E1:=Hh (Qg (n:=n));have FL:=Hh (fun w=>sO n HN.out w);have zC:=uo;have yT:=ob;clear xN tZ ob uo;obtain⟨D,hD⟩:∃ D,n=D:=⟨_,rfl⟩
 subst hD;go_enter Tryz.func101,Tryz.ntmps101
 go_wp2_with fail
 refine(FL.out _).mono ?_
 rintro e w3 ⟨r,rfl,iO⟩
 obtain⟨RA,rc,rfl,_⟩:=iO.own.form;have vL:=yT.below iO.2;have xy:=zC.trans (iO.2.mono zC.size);obtain⟨fl,e9⟩:∃ fl,(zO n).length=fl:=⟨_,rfl⟩
 rw[e9]at E1⊢;clear iO e9 FL
 by_cases hq:fl=9
 ·subst hq;have E:Hid (_=Except.ok (Itm.mk 8 n [] [])):=E1.out.trans (if_neg (by simp));exact jaJ
 have zq:((fl:Int)==9)=false:=by simp;omega
 have zq2:((fl:Int)=9)=False:=eq_false (by omega);exact jaC
section
variable {T:TypeId} {w w' w'':World} {H H' H'':Snap} {g:Nat} {A:Option Addr} {c:Nat} {l:List UInt8} {p cnt p' cnt':Nat}
theorem Psr.gt (h:Psr T w g H A c l p cnt):g<w.heap.size:=h.blk.lt
structure Rdg (T:TypeId) (w:World) (H:Snap) (w':World) (H':Snap) (g:Nat) (A:Option Addr) (c:Nat) (l:List UInt8) (p cnt:Nat):Prop where
 grows:GrowsBut w H w' H' g
 psr:Psr T w' g H' A c l p cnt
theorem Rdg.refl (h:Psr T w g H A c l p cnt):Rdg T w H w H g A c l p cnt:=⟨GrowsBut.refl h.holds g,h⟩
theorem Rdg.trans (h:Rdg T w H w' H' g A c l p cnt) (k:Rdg T w' H' w'' H'' g A c l p' cnt'):Rdg T w H w'' H'' g A c l p' cnt':=⟨h.grows.trans k.grows,k.psr⟩
theorem Psr.grows (h:Psr T w g H A c l p cnt) (k:Grows w H w' H'):Rdg T w H w' H' g A c l p cnt :=
 ⟨k.but g,⟨h.blk.below k.below,h.bytes.mono k.le,k.holds,k.none h.apart h.gt,h.le,h.small,h.cnt_le⟩⟩
theorem Rdg.grown (h:Rdg T w H w' H' g A c l p cnt) (k:Grows w' H' w'' H''):Rdg T w H w'' H'' g A c l p cnt:=h.trans (h.psr.grows k)
theorem Rdg.alloc (h:Rdg T w H w' H' g A c l p cnt) (o:Obj):Rdg T w H (w'.alloc o) H' g A c l p cnt:=h.grown ((Grows.refl h.psr.holds).alloc o)
theorem Rdg.below_ (h:Rdg T w H w' H' g A c l p cnt) (k:Below w'.heap.size w' w''):Rdg T w H w'' H' g A c l p cnt:=h.grown (Grows.of_below h.psr.holds k)
theorem Rdg.drewN (h:Rdg T w H w' H' g A c l p cnt) (q:Nat):Rdg T w H (w'.drewN q) H' g A c l p cnt:=h.below_ (below_drewNv (Below.refl _ _) q)
theorem Rdg.size (h:Rdg T w H w' H' g A c l p cnt):w.heap.size≤w'.heap.size:=h.grows.grown.size
theorem Rdg.hid (h:Rdg T w H w' H' g A c l p cnt) {k:Nat}(hk:H k=.none) (hl:k<w.heap.size):H' k=.none:=h.grows.hid hk hl
theorem Rdg.step (h:Rdg T w H w' H' g A c l p cnt) (hg:w'.grownBy w'' (some g)) (hb:Blk w'' g T (rQ A l.length c p' cnt')) (hp:p'≤l.length) (hc:cnt'≤256):Rdg T w H w'' H' g A c l p' cnt' :=
 ⟨⟨yu h.grows.grown hg (.inl rfl),h.grows.le,h.psr.holds.grown hg (by rintro q ⟨⟩;exact h.psr.apart),h.grows.fresh⟩,
  hb,h.psr.bytes,h.psr.holds.grown hg (by rintro q ⟨⟩;exact h.psr.apart),h.psr.apart,hp,h.psr.small,hc⟩
theorem Rdg.grownRow {row:Option Nat}(h:Rdg T w H w' H' g A c l p cnt) (h0:∀ k,row=some k→H' k=.none) (hw:∀ k,row=some k→w.heap.size≤k) (zB:g<w.heap.size) (hg:w'.grownBy w'' row):Rdg T w H w'' H' g A c l p cnt:=by
 have hd:=h.psr;have uy:row≠some g:=fun e=>by have:=hw g e;omega
 refine⟨⟨?_,h.grows.le,hd.holds.grown hg h0,h.grows.fresh⟩,hd.blk.grown hg uy,hd.bytes,hd.holds.grown hg h0,hd.apart,hd.le,hd.small,hd.cnt_le⟩
 exact⟨hg.os.trans h.grows.grown.os,hg.tape.trans h.grows.grown.tape,hg.output.trans h.grows.grown.output,Nat.le_trans h.size hg.size,fun i hi hne' =>
   (hg.block i (Nat.lt_of_lt_of_le hi h.size) (fun e=>by have:=hw i e.symm;omega)).trans (h.grows.grown.block i hi hne')⟩
theorem Blk.rdg {k:Nat}{t:TypeId}{cs:Array Value}(h:Blk w k t cs) (hd:Rdg T w H w' H' g A c l p cnt) (hk:k≠g):Blk w' k t cs :=
 h.grown hd.grows.grown (by intro e;injection e with e;exact hk e.symm)
theorem OwnI.rdg {base:Nat}{v:Value}{K:Snap}{L:List Itm}(h:OwnI w base v K L) (hd:Rdg T w H w' H' g A c l p cnt) (hb:g<base):OwnI w' base v K L:=by
 exact jcl
def ItemOut (T:TypeId) (w:World) (H:Snap) (g:Nat) (A:Option Addr) (c:Nat) (l:List UInt8) (p:Nat) (r:PR) (e:Ending) (w':World):Prop :=
 match r with
 | .err q=>e=.returned (.tuple #[dz,.int .i64 (q:Int)])∧(∃ H' p' cnt',Rdg T w H w' H' g A c l p' cnt')
 | .ok x k c'=>∃ ja jb jc jd H',e=.returned (.tuple #[xx x ja jb jc jd,.int .i64 0])∧Rdg T w H w' H' g A c l (p+k) c'∧IsItem H' ja jb jc jd x
theorem ItemOut.err {e:Ending}{r:PR}{q:Nat}(hr:r=.err q) (he:e=.returned (.tuple #[dz,.int .i64 (q:Int)])) (h:Rdg T w H w' H' g A c l p' cnt'):ItemOut T w H g A c l p r e w':=by
 rw[hr,ItemOut];exact⟨he,H',p',cnt',h⟩
theorem ItemOut.ok {e:Ending}{r:PR}{x:Itm}{k c':Nat}{ja:Option Addr}{jb:Nat}{jc:Option Addr}{jd:Nat}(hr:r=.ok x k c') (he:e=.returned (.tuple #[xx x ja jb jc jd,.int .i64 0])) (h:Rdg T w H w' H' g A c l (p+k) c') (hi:IsItem H' ja jb jc jd x):ItemOut T w H g A c l p r e w':=by
 rw[hr,ItemOut];exact⟨ja,jb,jc,jd,H',he,h,hi⟩
end
def aw (d:Nat):Prop:=∀ (w:World) (H:Snap) (g:Nat) (A:Option Addr) (c:Nat) (l:List UInt8) (p cnt lv:Nat),Tabs H→lv+d=8→Psr 117 w g H A c l p cnt→
 Calls Tryz.prog 80 #[.pointer (some ⟨g,0,none⟩),.int .i64 (lv:Int)] w (ItemOut 117 w H g A c l p (zZ d (l.drop p) cnt))
theorem fe (d:Nat) (b:List UInt8) (c:Nat) (h:256≤c):zZ d b c=.err 8:=by rw[zZ.eq_def];simp only;rw[if_pos h]
theorem sA (d:Nat) (b:List UInt8) (c:Nat) (h:¬ 256≤c) {q:Nat}(hq:zJ b=.error q):zZ d b c=.err q:=by rw[zZ.eq_def];simp only;rw[if_neg h,hq]
theorem jr (d:Nat) (b:List UInt8) (c:Nat) (h:¬ 256≤c) {f n k:Nat}(hq:zJ b=.ok (f,n,k)) (hk:f/32≤1):zZ d b c=.ok (.mk (f/32:Nat) n [] []) k (c+1):=by
 rw[zZ.eq_def];simp only;rw[if_neg h,hq];simp only;rw[if_pos hk]
theorem nN (d:Nat) (b:List UInt8) (c:Nat) (h:¬ 256≤c) {f n k:Nat}(hq:zJ b=.ok (f,n,k)) (h1:¬ f/32≤1) (h3:f/32≤3):zZ d b c =
  (if b.length<k+n then .err 2 else if f/32=3∧Lib.validD ((b.drop k).take n)=false then .err 5 else .ok (.mk (f/32:Nat) 0 ((b.drop k).take n) []) (k+n) (c+1)):=by
 rw[zZ.eq_def];simp only;rw[if_neg h,hq];simp only;rw[if_neg h1,if_pos h3]
theorem nz (d:Nat) (b:List UInt8) (c:Nat) (h:¬ 256≤c) {f n k:Nat}(hq:zJ b=.ok (f,n,k)) (h7:f/32=7):zZ d b c =
  (match yL (f%32) n with | .error e=>.err e | .ok x=>.ok x k (c+1)):=by
 rw[zZ.eq_def];simp only;rw[if_neg h,hq];simp only;rw[if_neg (by omega),if_neg (by omega),if_pos h7]
 all_goals (cases yL (f%32) n <;> rfl)
theorem fd (b:List UInt8) (c:Nat) (h:¬ 256≤c) {f n k:Nat}(hq:zJ b=.ok (f,n,k)) (h3:4≤f/32) (h7:f/32≤6):zZ 0 b c=.err 8:=by
 rw[zZ.eq_def];simp only;rw[if_neg h,hq];simp only;rw[if_neg (by omega),if_neg (by omega),if_neg (by omega)]
theorem dn (d:Nat) (b:List UInt8) (c:Nat) (h:¬ 256≤c) {f n k:Nat}(hq:zJ b=.ok (f,n,k)) (h6:f/32=6):zZ (d+1) b c =
  (match zZ d (b.drop k) (c+1) with | .err e=>.err e | .ok x k' c'=>.ok (.mk 6 n [] [x]) (k+k') c'):=by
 rw[zZ.eq_def];simp only;rw[if_neg h,hq];simp only;rw[if_neg (by omega),if_neg (by omega),if_neg (by omega),if_pos h6]
 all_goals (cases zZ d (b.drop k) (c+1) <;> rfl)
theorem dm (d:Nat) (b:List UInt8) (c:Nat) (h:¬ 256≤c) {f n k:Nat}(hq:zJ b=.ok (f,n,k)) (h5:f/32=5):zZ (d+1) b c =
  (match vX (zZ d) n (b.drop k) (c+1) none with | .err e=>.err e | .ok l k' c'=>.ok (.mk 5 0 [] l) (k+k') c'):=by
 rw[zZ.eq_def];simp only;rw[if_neg h,hq];simp only;rw[if_neg (by omega),if_neg (by omega),if_neg (by omega),if_neg (by omega),if_pos h5]
 all_goals (cases vX (zZ d) n (b.drop k) (c+1) none <;> rfl)
theorem dl (d:Nat) (b:List UInt8) (c:Nat) (h:¬ 256≤c) {f n k:Nat}(hq:zJ b=.ok (f,n,k)) (h4:f/32=4):zZ (d+1) b c =
  (match uw (zZ d) n (b.drop k) (c+1) with | .err e=>.err e | .ok l k' c'=>.ok (.mk 4 0 [] l) (k+k') c'):=by
 rw[zZ.eq_def];simp only;rw[if_neg h,hq];simp only;rw[if_neg (by omega),if_neg (by omega),if_neg (by omega),if_neg (by omega),if_neg (by omega)]
 all_goals (cases uw (zZ d) n (b.drop k) (c+1) <;> rfl)
theorem nK {b:List UInt8}{q:Nat}(h:zJ b=.error q):q=2∨q=3∨q=4:=by
 cases b with
 | nil=>injection h with h;omega
 | cons f t =>
 simp only[zJ]at h
 repeat' split at h
 all_goals first | (injection h with h;omega) | cases h
theorem fk {low n q:Nat}(h:yL low n=.error q):q=4:=by
 rw[yL]at h
 repeat' split at h
 all_goals first | (injection h with h;omega) | cases h
theorem Zs {low n:Nat}{x:Itm}(h:yL low n=.ok x):∃ kd m,x=.mk kd m [] []∧(kd=7∨kd=8):=by
 rw[yL]at h
 split at h
 ·injection h with h;exact⟨7,n,h.symm,.inl rfl⟩
 split at h
 ·split at h
  ·cases h
  injection h with h;exact⟨7,n,h.symm,.inl rfl⟩
 split at h
 ·cases h
 injection h with h;exact⟨8,_,h.symm,.inr rfl⟩
theorem YG {H:Snap}{b:List UInt8}{f n k:Nat}{x:Itm}(HS:HeadIs b f n k) (h:yL (f%32) n=.ok x):IsItem H none 0 none 0 x:=by
 have hx:x.n<18446744073709551616:=by
  have:=HS.low
  rcases Nat.lt_or_ge (f%32) 24 with hl | hl
  ·obtain⟨s1,s2,s3⟩:=HS.small hl
   exact(qn (low:=f%32) (t:=[]) (by omega) (fun _=>⟨s1,rfl⟩) (fun h=>by omega) h).2.2.1
  obtain⟨s1,t,s2,s3,s4⟩:=HS.wide hl
  exact(qn (low:=f%32) (t:=t) (by omega) (fun h=>by omega) (fun _=>⟨s2,s4⟩) h).2.2.1
 obtain⟨kd,m,rfl,hk⟩:=Zs h
 exact IsItem.plain _ kd m (by omega) hx
section
variable {d:Nat} {w:World} {H:Snap} {g:Nat} {A:Option Addr} {c:Nat} {l:List UInt8} {p cnt lv:Nat}
theorem Zc (hTab:Tabs H) (hlv:lv+d=8) (hP:Psr 117 w g H A c l p cnt) (hc:cnt=256):Calls Tryz.prog 80 #[.pointer (some ⟨g,0,none⟩),.int .i64 (lv:Int)] w (ItemOut 117 w H g A c l p (zZ d (l.drop p) cnt)):=by
 obtain⟨yC,vx,vM,yj⟩:=jfx;have c2:=jf5;have wU:((cnt:Int)==256)=true:=by simp;omega
 have xL:((cnt:Int)=256)=True:=eq_true (by omega);have E:=Hh (fe d (l.drop p) cnt (by omega));clear hc;go_enter Tryz.func80,Tryz.ntmps80
 go_wp2_with (with_reducible refine zx ?_)
 refine stI vM fun wz hTy zS=>?_
 have yl:=vx.grownRow (row:=some w.heap.size) (by rintro q ⟨⟩;exact yj) (by rintro q ⟨⟩;exact Nat.le_refl _) yC zS;exact jc6
theorem Zd (hTab:Tabs H) (hlv:lv+d=8) (hP:Psr 117 w g H A c l p cnt) (hc:cnt<256) {q:Nat}(hh:zJ (l.drop p)=.error q):Calls Tryz.prog 80 #[.pointer (some ⟨g,0,none⟩),.int .i64 (lv:Int)] w (ItemOut 117 w H g A c l p (zZ d (l.drop p) cnt)):=by
 obtain⟨yC,vx,vM,yj⟩:=jfx;have c2:=jf5;have E:=Hh (sA d (l.drop p) cnt (by omega) hh);have lV:((q:Int) != 0)=true:=by rw[bne_iff_ne];have:=nK hh;omega
 have ig:((q:Int)=0)=False:=eq_false (by have:=nK hh;omega);have wU:((cnt:Int)==256)=false:=by simp;omega
 obtain⟨xL,KC,HC⟩:=jfC;clear hc;go_enter Tryz.func80,Tryz.ntmps80
 go_wp2_with (with_reducible refine zx ?_)
 refine zu rfl _ _ _ rfl rfl g 2 (.int .i64 ((cnt:Int)+1)) rfl rfl _ _ vx.psr.blk yp (by simp) rfl fun w2 yT zM=>?_
 obtain⟨vO,tK,PH⟩:=jfD;clear vx vM yT zM c2 KC wU xL;go_wp2_with fail
 refine PH.out.mono ?_
 intro e w3 hs
 rw[HeadSaid,hh]at hs;obtain⟨rfl,⟨p',ej,vL⟩,yY⟩:=hs;have ve:Rdg 117 w H w3 H g A c l p' (cnt+1):=vO.step yY vL ej (by have:=HC.out;omega);have vq:=tK.gr yY (by omega);clear vO tK vL yY PH hh;exact jep
theorem Sj (hTab:Tabs H) (hlv:lv+d=8) (hP:Psr 117 w g H A c l p cnt) (hc:cnt<256) {f n k:Nat}(hh:zJ (l.drop p)=.ok (f,n,k)) (hk:f/32=0):Calls Tryz.prog 80 #[.pointer (some ⟨g,0,none⟩),.int .i64 (lv:Int)] w (ItemOut 117 w H g A c l p (zZ d (l.drop p) cnt)):=by
 obtain⟨yC,vx,vM,yj⟩:=jfx;have c2:=jf5;have E:Hid (zZ d (l.drop p) cnt=.ok (.mk 0 n [] []) k (cnt+1)):=by rw[Hid,jr d (l.drop p) cnt (by omega) hh (by omega),hk];rfl
 have S:(f:Int)/32=0:=by omega
 have wU:((cnt:Int)==256)=false:=by simp;omega
 obtain⟨xL,KC,HC⟩:=jfC;clear hc;go_enter Tryz.func80,Tryz.ntmps80
 go_wp2_with (with_reducible refine zx ?_)
 refine zu rfl _ _ _ rfl rfl g 2 (.int .i64 ((cnt:Int)+1)) rfl rfl _ _ vx.psr.blk yp (by simp) rfl fun w2 yT zM=>?_
 obtain⟨vO,tK,PH⟩:=jfD;clear vx vM yT zM c2 KC wU xL;go_wp2_with fail
 refine PH.out.mono ?_
 intro e w3 hs
 rw[HeadSaid,hh]at hs;obtain⟨rfl,vL,yY⟩:=hs;have HS:=wP hh;have rh:p+k≤l.length:=by have:=HS.le;rw[List.length_drop]at this;have:=hP.le;omega
 obtain⟨ve,vq,HF⟩:=jfH;clear vO tK vL yY PH HS hh;go_wp2_with (with_reducible refine zx ?_)
 refine stI vq fun wz hTy zS=>?_
 have yl:=jhl;go_wp2_with fail
 refine zw rfl rfl hTy rfl rfl zt rfl ?_
 exact ItemOut.ok (ja:=none) (jb:=0) (jc:=none) (jd:=0) E.out rfl yl (IsItem.plain _ 0 n (by omega) HF.out.n_lt)
theorem Sk (hTab:Tabs H) (hlv:lv+d=8) (hP:Psr 117 w g H A c l p cnt) (hc:cnt<256) {f n k:Nat}(hh:zJ (l.drop p)=.ok (f,n,k)) (hk:f/32=1):Calls Tryz.prog 80 #[.pointer (some ⟨g,0,none⟩),.int .i64 (lv:Int)] w (ItemOut 117 w H g A c l p (zZ d (l.drop p) cnt)):=by
 obtain⟨yC,vx,vM,yj⟩:=jfx;have c2:=jf5;have E:Hid (zZ d (l.drop p) cnt=.ok (.mk 1 n [] []) k (cnt+1)):=by rw[Hid,jr d (l.drop p) cnt (by omega) hh (by omega),hk];rfl
 have S:(f:Int)/32=1:=by omega
 have wU:((cnt:Int)==256)=false:=by simp;omega
 obtain⟨xL,KC,HC⟩:=jfC;clear hc;go_enter Tryz.func80,Tryz.ntmps80
 go_wp2_with (with_reducible refine zx ?_)
 refine zu rfl _ _ _ rfl rfl g 2 (.int .i64 ((cnt:Int)+1)) rfl rfl _ _ vx.psr.blk yp (by simp) rfl fun w2 yT zM=>?_
 obtain⟨vO,tK,PH⟩:=jfD;clear vx vM yT zM c2 KC wU xL;go_wp2_with fail
 refine PH.out.mono ?_
 intro e w3 hs
 rw[HeadSaid,hh]at hs;obtain⟨rfl,vL,yY⟩:=hs;have HS:=wP hh;have rh:p+k≤l.length:=by have:=HS.le;rw[List.length_drop]at this;have:=hP.le;omega
 obtain⟨ve,vq,HF⟩:=jfH;clear vO tK vL yY PH HS hh;go_wp2_with (with_reducible refine zx ?_)
 refine stI vq fun wz hTy zS=>?_
 have yl:=jhl;go_wp2_with fail
 refine zw rfl rfl hTy rfl rfl zt rfl ?_
 exact ItemOut.ok (ja:=none) (jb:=0) (jc:=none) (jd:=0) E.out rfl yl (IsItem.plain _ 1 n (by omega) HF.out.n_lt)
theorem Sq (hTab:Tabs H) (hlv:lv+d=8) (hP:Psr 117 w g H A c l p cnt) (hc:cnt<256) {f n k:Nat}(hh:zJ (l.drop p)=.ok (f,n,k)) (hk:f/32=7):Calls Tryz.prog 80 #[.pointer (some ⟨g,0,none⟩),.int .i64 (lv:Int)] w (ItemOut 117 w H g A c l p (zZ d (l.drop p) cnt)):=by
 obtain⟨yC,vx,vM,yj⟩:=jfx;have c2:=jf5;have E0:=Hh (nz d (l.drop p) cnt (by omega) hh hk);have S:(f:Int)/32=7:=by omega
 have wU:((cnt:Int)==256)=false:=by simp;omega
 obtain⟨xL,KC,HC⟩:=jfC;clear hc;go_enter Tryz.func80,Tryz.ntmps80
 go_wp2_with (with_reducible refine zx ?_)
 refine zu rfl _ _ _ rfl rfl g 2 (.int .i64 ((cnt:Int)+1)) rfl rfl _ _ vx.psr.blk yp (by simp) rfl fun w2 yT zM=>?_
 obtain⟨vO,tK,PH⟩:=jfD;clear vx vM yT zM c2 KC wU xL;go_wp2_with fail
 refine PH.out.mono ?_
 intro e w3 hs
 rw[HeadSaid,hh]at hs;obtain⟨rfl,vL,yY⟩:=hs;have HS:=wP hh;have rh:p+k≤l.length:=by have:=HS.le;rw[List.length_drop]at this;have:=hP.le;omega
 obtain⟨ve,vq,HF⟩:=jfH;clear vO tK vL yY PH HS hh
 have SV:=Hh (fun w=>XU f n HF.out.f_lt HF.out.low HF.out.n_lt (by
  intro Yp
  obtain⟨_,t,h1,_,h2⟩:=HF.out.wide (by omega);have:=rS t;rw[h1,Yp]at this;rw[h2];simpa using this) (by
  intro Ou
  obtain⟨_,t,h1,_,h2⟩:=HF.out.wide (by omega);have:=rS t;rw[h1,Ou]at this;rw[h2];simpa using this) w)
 go_wp2_with fail
 refine(SV.out _).mono ?_
 intro e w4 hs
 obtain⟨pd,hs⟩:=hs;have tp:=ve.below_ pd;have uz:=vq.below pd;clear ve vq SV pd
 cases hsv:yL (f%32) n with
 | error q =>
  rw[hsv]at hs
  simp only at hs
  subst hs;have E:Hid (zZ d (l.drop p) cnt=.err q):=by rw[Hid,E0.out,hsv]
  exact jfe
 | ok x =>
 rw[hsv]at hs
 simp only at hs
 subst hs;have E:Hid (zZ d (l.drop p) cnt=.ok x k (cnt+1)):=by rw[Hid,E0.out,hsv]
 have DI:IsItem H none 0 none 0 x:=YG HF.out hsv;clear hsv;go_wp2_with (with_reducible refine zx ?_)
 refine stI uz fun wz hTy zS=>?_
 have yl:=tp.grownRow (row:=some w.heap.size) (by rintro q ⟨⟩;exact yj) (by rintro q ⟨⟩;exact Nat.le_refl _) yC zS;go_wp2_with fail
 refine zw rfl rfl hTy rfl rfl zt rfl ?_
 exact ItemOut.ok E.out rfl yl DI
theorem Zb (hTab:Tabs H) (hlv:lv=8) (hP:Psr 117 w g H A c l p cnt) (hc:cnt<256) {f n k:Nat}(hh:zJ (l.drop p)=.ok (f,n,k)) (h4:4≤f/32) (h6:f/32≤6):Calls Tryz.prog 80 #[.pointer (some ⟨g,0,none⟩),.int .i64 (lv:Int)] w (ItemOut 117 w H g A c l p (zZ 0 (l.drop p) cnt)):=by
 obtain⟨yC,vx,vM,yj⟩:=jfx;have c2:=jf5;have E:=Hh (fd (l.drop p) cnt (by omega) hh h4 h6);obtain⟨kd,gw⟩:∃ kd,f/32=kd:=⟨_,rfl⟩
 have S:(f:Int)/32=(kd:Int):=by omega
 have s0:((kd:Int)==0)=false:=by simp;omega
 have s1:((kd:Int)==1)=false:=by simp;omega
 have s2:((kd:Int)==2)=false:=by simp;omega
 have s3:((kd:Int)==3)=false:=by simp;omega
 have s7:((kd:Int)==7)=false:=by simp;omega
 obtain⟨q0,q1,q2,q3⟩:=jhw;have q7:((kd:Int)=7)=False:=eq_false (by omega);have IR:(kd:Int)≤7:=by omega
 subst hlv;clear gw h4 h6;have wU:((cnt:Int)==256)=false:=by simp;omega
 obtain⟨xL,KC,HC⟩:=jfC;clear hc;go_enter Tryz.func80,Tryz.ntmps80
 go_wp2_with (with_reducible refine zx ?_)
 refine zu rfl _ _ _ rfl rfl g 2 (.int .i64 ((cnt:Int)+1)) rfl rfl _ _ vx.psr.blk yp (by simp) rfl fun w2 yT zM=>?_
 obtain⟨vO,tK,PH⟩:=jfD;clear vx vM yT zM c2 KC wU xL;go_wp2_with fail
 refine PH.out.mono ?_
 intro e w3 hs
 rw[HeadSaid,hh]at hs;obtain⟨rfl,vL,yY⟩:=hs;have HS:=wP hh;have rh:p+k≤l.length:=by have:=HS.le;rw[List.length_drop]at this;have:=hP.le;omega
 obtain⟨ve,vq,HF⟩:=jfH;clear vO tK vL yY PH HS hh;exact jep
end
section
variable {d:Nat} {w:World} {H:Snap} {g:Nat} {A:Option Addr} {c:Nat} {l:List UInt8} {p cnt lv:Nat}
theorem IsItem.str {H:Snap}{B:Option Addr}{bc:Nat}{s:List UInt8}(k:Int) (hk:0≤k∧k≤8) (h:IsBytes H B bc s):IsItem H B bc none 0 (.mk k 0 s []):=by
 rw[IsItem]
 exact⟨⟨by omega,by omega,by omega,Nat.le_refl _,by omega⟩,h,fun h=>absurd h (by simp)⟩
theorem Sl (hTab:Tabs H) (hlv:lv+d=8) (hP:Psr 117 w g H A c l p cnt) (hc:cnt<256) {f n k:Nat}(hh:zJ (l.drop p)=.ok (f,n,k)) (hk:f/32=2):Calls Tryz.prog 80 #[.pointer (some ⟨g,0,none⟩),.int .i64 (lv:Int)] w (ItemOut 117 w H g A c l p (zZ d (l.drop p) cnt)):=by
 obtain⟨yC,vx,vM,yj⟩:=jfx;have c2:=jf5
 have E0:Hid (zZ d (l.drop p) cnt=(if(l.drop p).length<k+n then .err 2 else if 2=3∧Lib.validD (((l.drop p).drop k).take n)=false then .err 5 else .ok (.mk 2 0 (((l.drop p).drop k).take n) []) (k+n) (cnt+1))):=by
  exact jeY
 have S:(f:Int)/32=2:=by omega
 have wU:((cnt:Int)==256)=false:=by simp;omega
 obtain⟨xL,KC,HC⟩:=jfC;clear hc;go_enter Tryz.func80,Tryz.ntmps80
 go_wp2_with (with_reducible refine zx ?_)
 refine zu rfl _ _ _ rfl rfl g 2 (.int .i64 ((cnt:Int)+1)) rfl rfl _ _ vx.psr.blk yp (by simp) rfl fun w2 yT zM=>?_
 obtain⟨vO,tK,PH⟩:=jfD;clear vx vM yT zM c2 KC wU xL;go_wp2_with fail
 refine PH.out.mono ?_
 intro e w3 hs
 rw[HeadSaid,hh]at hs;obtain⟨rfl,vL,yY⟩:=hs;have HS:=wP hh;have rh:p+k≤l.length:=by have:=HS.le;rw[List.length_drop]at this;have:=hP.le;omega
 obtain⟨ve,vq,HF⟩:=jfH;clear vO tK vL yY PH HS hh;have tm:=HF.out.pos;obtain⟨b,off,rfl,uj⟩:=ve.psr.bytes.at_ (by omega);have mT:=ve.psr.small;have rE:=ve.psr.bytes.le;have mv:=ve.psr.bytes.max;obtain⟨kK,WK⟩:=jgY;obtain⟨P,dC⟩:∃ P,p+k=P:=⟨_,rfl⟩
 obtain⟨s,j0⟩:∃ s,((l.drop p).drop k).take n=s:=⟨_,rfl⟩
 rw[j0]at E0;rw[List.drop_drop,dC]at j0;rw[dC]at ve rh;have K1:=jga;have K2:IntKind.u64.wrap ((l.length:Int)-(P:Int))=(l.length:Int)-(P:Int):=by rw[IntKind.wrap_u64];omega
 obtain⟨a0,a1⟩:=jgZ;have Hz:(P:Int)≤(l.length:Int):=by omega
 have lU:(l.length:Int)≤4096:=by omega
 by_cases zB:l.length<P+n
 ·exact jed
 have z0:¬ ((l.length:Int)-(P:Int)<(n:Int)):=by omega
 have z0b:=jgw;have E1:Hid (zZ d (l.drop p) cnt=(if 2=3∧Lib.validD s=false then .err 5 else .ok (.mk 2 0 s []) (k+n) (cnt+1))):=by rw[Hid,E0.out,if_neg (by omega)];try simp
 have oN:n=s.length:=by rw[← j0,List.length_take,List.length_drop];omega
 have gl:=Hh oN;clear oN;obtain⟨KN,KP⟩:=jfR;have kt:((P:Int)+(n:Int)).toNat=P+n:=by omega
 have y0:(0:Int)≤(P:Int)+(n:Int):=by omega
 have y5:P≤P+n:=by omega
 have y6:P+n-P=n:=by omega
 have y1:(P:Int)≤(P:Int)+(n:Int):=by omega
 have y2:(P:Int)+(n:Int)≤(c:Int):=by omega
 have y3:(P:Int)≤(c:Int):=by omega
 have y4:(0:Int)≤(P:Int):=by omega
 have HK:=jgV;go_wp2_with fail
 go_big_quiet (fail)
 obtain⟨pF,pC⟩:=jfQ
 generalize w3.drewN nq=w4 at pF pC⊢
 obtain⟨tp,uz⟩:=And.intro pF pC;clear pF pC ve vq a0 a1 E0 z0 z0b;have jP:∀ j (hj:j<l.length),w4.cell? ⟨b,off+j,none⟩=some (zT l[j]):=fun j hj=>tp.psr.holds.cell (uj j hj)
 by_cases mw:c=P
 ·have Yd:P=c:=mw.symm;subst Yd;clear mw;obtain⟨pG,mI,CL,a0,a1⟩:=jfX;clear tp uz;go_upto_region 16 with fail
  refine zj 17 (fun w'=>w'.cell? ⟨g,0,none⟩=some (.slice (some ⟨b,off,none⟩) l.length P)∧w'.cell? ⟨g,1,none⟩=some (.int .i64 (P:Int))) (by kernel_rfl) (⟨a0,a1⟩) (fun zy=>?_)
  refine Tk 0 rfl zy ?_
  refine Tk 1 rfl zy ?_
  refine Tk 2 rfl zy ?_
  refine Tk 3 rfl zy ?_
  refine Tk 4 rfl zy ?_
  refine Tk 5 rfl zy ?_
  refine Tk 6 rfl zy ?_
  refine Tk 7 rfl zy ?_
  refine Tk 8 rfl zy ?_
  refine Tk 9 rfl zy ?_
  refine Tk 10 rfl zy ?_
  refine Tk 11 rfl zy ?_
  refine Tk 12 rfl zy ?_
  refine Tk 13 rfl zy ?_
  refine Tk 14 rfl zy ?_
  refine Tk 15 rfl zy ?_
  refine To 16 rfl fun K hK=>?_
  go_simp
  refine CL.out.mono ?_
  rintro e w5 ⟨r5,rfl,ua⟩
  obtain⟨RA,rc,rfl,_⟩:=ua.own.form;have tO:=pG.below_ ua.2
  refine Ko hK ?_ fun zy=>?_
  ·exact jcm
  clear hK K
  refine To 17 rfl fun K hK=>?_
  go_simp
  refine Kz hK ?_
  clear hK K
  refine Wd ?_
  clear zy CL a0 a1;have vw:=mI.below ua.2;obtain⟨H6,xW,oM,_⟩:=Fresh.snapB pG.psr.holds ua;have xS:=pG.grown xW;have sM:=xW.none yj mI.lt;clear tO ua pG mI;have a1:=jg3;go_wp2_with (with_reducible refine zx ?_)
  refine zu rfl _ _ _ rfl rfl g 1 (.int .i64 ((P:Int)+(n:Int))) rfl rfl _ _ xS.psr.blk yp (by simp) rfl fun w7 mr xp=>?_
  have ux:=jhn;exact jaU
 obtain⟨OJ,pG,mI,CL,a0,a1⟩:=jfT;clear tp uz;go_upto_region 16 with fail
 refine zj 17 (fun w'=>w'.cell? ⟨g,0,none⟩=some (.slice (some ⟨b,off,none⟩) l.length c)∧w'.cell? ⟨g,1,none⟩=some (.int .i64 (P:Int))) (by kernel_rfl) (⟨a0,a1⟩) (fun zy=>?_)
 refine Tk 0 rfl zy ?_
 refine Tk 1 rfl zy ?_
 refine Tk 2 rfl zy ?_
 refine Tk 3 rfl zy ?_
 refine Tk 4 rfl zy ?_
 refine Tk 5 rfl zy ?_
 refine Tk 6 rfl zy ?_
 refine Tk 7 rfl zy ?_
 refine Tk 8 rfl zy ?_
 refine Tk 9 rfl zy ?_
 refine Tk 10 rfl zy ?_
 refine Tk 11 rfl zy ?_
 refine Tk 12 rfl zy ?_
 refine Tk 13 rfl zy ?_
 refine Tk 14 rfl zy ?_
 refine Tk 15 rfl zy ?_
 refine To 16 rfl fun K hK=>?_
 go_simp
 refine CL.out.mono ?_
 rintro e w5 ⟨r5,rfl,ua⟩
 obtain⟨RA,rc,rfl,_⟩:=ua.own.form;have tO:=pG.below_ ua.2
 refine Ko hK ?_ fun zy=>?_
 ·exact jcm
 clear hK K
 refine To 17 rfl fun K hK=>?_
 go_simp
 refine Kz hK ?_
 clear hK K
 refine Wd ?_
 clear zy CL a0 a1;have vw:=mI.below ua.2;obtain⟨H6,xW,oM,_⟩:=Fresh.snapB pG.psr.holds ua;have xS:=pG.grown xW;have sM:=xW.none yj mI.lt;clear tO ua pG mI;have a1:=jg3;go_wp2_with (with_reducible refine zx ?_)
 refine zu rfl _ _ _ rfl rfl g 1 (.int .i64 ((P:Int)+(n:Int))) rfl rfl _ _ xS.psr.blk yp (by simp) rfl fun w7 mr xp=>?_
 have ux:=jho;exact jaU
theorem Sm (hTab:Tabs H) (hlv:lv+d=8) (hP:Psr 117 w g H A c l p cnt) (hc:cnt<256) {f n k:Nat}(hh:zJ (l.drop p)=.ok (f,n,k)) (hk:f/32=3):Calls Tryz.prog 80 #[.pointer (some ⟨g,0,none⟩),.int .i64 (lv:Int)] w (ItemOut 117 w H g A c l p (zZ d (l.drop p) cnt)):=by
 obtain⟨yC,vx,vM,yj⟩:=jfx;have c2:=jf5
 have E0:Hid (zZ d (l.drop p) cnt=(if(l.drop p).length<k+n then .err 2 else if 3=3∧Lib.validD (((l.drop p).drop k).take n)=false then .err 5 else .ok (.mk 3 0 (((l.drop p).drop k).take n) []) (k+n) (cnt+1))):=by
  exact jeY
 have S:(f:Int)/32=3:=by omega
 have wU:((cnt:Int)==256)=false:=by simp;omega
 obtain⟨xL,KC,HC⟩:=jfC;clear hc;go_enter Tryz.func80,Tryz.ntmps80
 go_wp2_with (with_reducible refine zx ?_)
 refine zu rfl _ _ _ rfl rfl g 2 (.int .i64 ((cnt:Int)+1)) rfl rfl _ _ vx.psr.blk yp (by simp) rfl fun w2 yT zM=>?_
 obtain⟨vO,tK,PH⟩:=jfD;clear vx vM yT zM c2 KC wU xL;go_wp2_with fail
 refine PH.out.mono ?_
 intro e w3 hs
 rw[HeadSaid,hh]at hs;obtain⟨rfl,vL,yY⟩:=hs;have HS:=wP hh;have rh:p+k≤l.length:=by have:=HS.le;rw[List.length_drop]at this;have:=hP.le;omega
 obtain⟨ve,vq,HF⟩:=jfH;clear vO tK vL yY PH HS hh;have tm:=HF.out.pos;obtain⟨b,off,rfl,uj⟩:=ve.psr.bytes.at_ (by omega);have mT:=ve.psr.small;have rE:=ve.psr.bytes.le;have mv:=ve.psr.bytes.max;obtain⟨kK,WK⟩:=jgY;obtain⟨P,dC⟩:∃ P,p+k=P:=⟨_,rfl⟩
 obtain⟨s,j0⟩:∃ s,((l.drop p).drop k).take n=s:=⟨_,rfl⟩
 rw[j0]at E0;rw[List.drop_drop,dC]at j0;rw[dC]at ve rh;have K1:=jga;have K2:IntKind.u64.wrap ((l.length:Int)-(P:Int))=(l.length:Int)-(P:Int):=by rw[IntKind.wrap_u64];omega
 obtain⟨a0,a1⟩:=jgZ;have Hz:(P:Int)≤(l.length:Int):=by omega
 have lU:(l.length:Int)≤4096:=by omega
 by_cases zB:l.length<P+n
 ·exact jed
 have z0:¬ ((l.length:Int)-(P:Int)<(n:Int)):=by omega
 have z0b:=jgw;have E1:Hid (zZ d (l.drop p) cnt=(if 3=3∧Lib.validD s=false then .err 5 else .ok (.mk 3 0 s []) (k+n) (cnt+1))):=by rw[Hid,E0.out,if_neg (by omega)];try simp
 have oN:n=s.length:=by rw[← j0,List.length_take,List.length_drop];omega
 have gl:=Hh oN;clear oN;obtain⟨KN,KP⟩:=jfR;have kt:((P:Int)+(n:Int)).toNat=P+n:=by omega
 have y0:(0:Int)≤(P:Int)+(n:Int):=by omega
 have y5:P≤P+n:=by omega
 have y6:P+n-P=n:=by omega
 have y1:(P:Int)≤(P:Int)+(n:Int):=by omega
 have y2:(P:Int)+(n:Int)≤(c:Int):=by omega
 have y3:(P:Int)≤(c:Int):=by omega
 have y4:(0:Int)≤(P:Int):=by omega
 have HK:=jgV;go_wp2_with fail
 go_big_quiet (fail)
 obtain⟨pF,pC⟩:=jfQ
 generalize w3.drewN nq=w4 at pF pC⊢
 obtain⟨tp,uz⟩:=And.intro pF pC;clear pF pC ve vq a0 a1 E0 z0 z0b;have jP:∀ j (hj:j<l.length),w4.cell? ⟨b,off+j,none⟩=some (zT l[j]):=fun j hj=>tp.psr.holds.cell (uj j hj)
 by_cases mw:c=P
 ·have Yd:P=c:=mw.symm;subst Yd;clear mw;obtain⟨pG,mI,CL,a0,a1⟩:=jfX;clear tp uz;go_upto_region 16 with fail
  refine zj 17 (fun w'=>w'.cell? ⟨g,0,none⟩=some (.slice (some ⟨b,off,none⟩) l.length P)∧w'.cell? ⟨g,1,none⟩=some (.int .i64 (P:Int))) (by kernel_rfl) (⟨a0,a1⟩) (fun zy=>?_)
  refine Tk 0 rfl zy ?_
  refine Tk 1 rfl zy ?_
  refine Tk 2 rfl zy ?_
  refine Tk 3 rfl zy ?_
  refine Tk 4 rfl zy ?_
  refine Tk 5 rfl zy ?_
  refine Tk 6 rfl zy ?_
  refine Tk 7 rfl zy ?_
  refine Tk 8 rfl zy ?_
  refine Tk 9 rfl zy ?_
  refine Tk 10 rfl zy ?_
  refine Tk 11 rfl zy ?_
  refine Tk 12 rfl zy ?_
  refine Tk 13 rfl zy ?_
  refine Tk 14 rfl zy ?_
  refine Tk 15 rfl zy ?_
  refine To 16 rfl fun K hK=>?_
  go_simp
  refine CL.out.mono ?_
  rintro e w5 ⟨r5,rfl,ua⟩
  obtain⟨RA,rc,rfl,_⟩:=ua.own.form;have tO:=pG.below_ ua.2
  refine Ko hK ?_ fun zy=>?_
  ·exact jcm
  clear hK K
  refine To 17 rfl fun K hK=>?_
  go_simp
  refine Kz hK ?_
  clear hK K
  refine Wd ?_
  clear zy CL a0 a1;have vw:=mI.below ua.2;obtain⟨H6,xW,oM,_⟩:=Fresh.snapB pG.psr.holds ua;have xS:=pG.grown xW;have sM:=xW.none yj mI.lt;clear tO ua pG mI;have a1:=jg3;go_wp2_with (with_reducible refine zx ?_)
  refine zu rfl _ _ _ rfl rfl g 1 (.int .i64 ((P:Int)+(n:Int))) rfl rfl _ _ xS.psr.blk yp (by simp) rfl fun w7 mr xp=>?_
  have ux:=jhn;exact jea
 obtain⟨OJ,pG,mI,CL,a0,a1⟩:=jfT;clear tp uz;go_upto_region 16 with fail
 refine zj 17 (fun w'=>w'.cell? ⟨g,0,none⟩=some (.slice (some ⟨b,off,none⟩) l.length c)∧w'.cell? ⟨g,1,none⟩=some (.int .i64 (P:Int))) (by kernel_rfl) (⟨a0,a1⟩) (fun zy=>?_)
 refine Tk 0 rfl zy ?_
 refine Tk 1 rfl zy ?_
 refine Tk 2 rfl zy ?_
 refine Tk 3 rfl zy ?_
 refine Tk 4 rfl zy ?_
 refine Tk 5 rfl zy ?_
 refine Tk 6 rfl zy ?_
 refine Tk 7 rfl zy ?_
 refine Tk 8 rfl zy ?_
 refine Tk 9 rfl zy ?_
 refine Tk 10 rfl zy ?_
 refine Tk 11 rfl zy ?_
 refine Tk 12 rfl zy ?_
 refine Tk 13 rfl zy ?_
 refine Tk 14 rfl zy ?_
 refine Tk 15 rfl zy ?_
 refine To 16 rfl fun K hK=>?_
 go_simp
 refine CL.out.mono ?_
 rintro e w5 ⟨r5,rfl,ua⟩
 obtain⟨RA,rc,rfl,_⟩:=ua.own.form;have tO:=pG.below_ ua.2
 refine Ko hK ?_ fun zy=>?_
 ·exact jcm
 clear hK K
 refine To 17 rfl fun K hK=>?_
 go_simp
 refine Kz hK ?_
 clear hK K
 refine Wd ?_
 clear zy CL a0 a1;have vw:=mI.below ua.2;obtain⟨H6,xW,oM,_⟩:=Fresh.snapB pG.psr.holds ua;have xS:=pG.grown xW;have sM:=xW.none yj mI.lt;clear tO ua pG mI;have a1:=jg3;go_wp2_with (with_reducible refine zx ?_)
 refine zu rfl _ _ _ rfl rfl g 1 (.int .i64 ((P:Int)+(n:Int))) rfl rfl _ _ xS.psr.blk yp (by simp) rfl fun w7 mr xp=>?_
 have ux:=jho;exact jea
end
theorem Rdg.gb {T:TypeId}{w w' w'':World}{H H':Snap}{g k:Nat}{A:Option Addr}{c:Nat}{l:List UInt8}{p cnt:Nat}(h:Rdg T w H w' H' g A c l p cnt) (h0:H' k=none) (hw:w.heap.size≤k) (zB:g<w.heap.size) (hg:w'.grownBy w'' (some k)):Rdg T w H w'' H' g A c l p cnt:=h.grownRow (row:=some k) (by rintro q ⟨⟩;exact h0) (by rintro q ⟨⟩;exact hw) zB hg
end Go.Proofs.YtgaoknihklmakabGreatDoor
