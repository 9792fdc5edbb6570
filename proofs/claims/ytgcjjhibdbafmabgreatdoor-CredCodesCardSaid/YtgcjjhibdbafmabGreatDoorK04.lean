/- squeezed. Floats of 64, 32 and 16 bits: what -/
import Derived.Test.YtgcjjhibdbafmabGreatDoorK03
import Derived.Laws.FloatArith
import Derived.Shelf.Unicode.DecodeSlow
set_option linter.unusedVariables false
set_option linter.unusedSimpArgs false
set_option maxRecDepth 100000
set_option maxHeartbeats 6400000
namespace Go.Proofs.YtgcjjhibdbafmabGreatDoor
open Go.RowKit
theorem kR {n t:Nat}(h1:2 ^ t≤n) (h2:n<2 ^ (t+1)):n.log2=t:=by
 have hn:n≠0:=by have:=Nat.two_pow_pos t;omega
 have a:=(Nat.le_log2 hn).2 h1;have b:=(Nat.log2_lt hn).2 h2
 omega
theorem oz (neg:Bool) (q d:Nat) (h:d≤(q*2 ^ d).log2+2):Ieee.Toward.even.cut neg (q*2 ^ d) d=q:=by
 have hg:(1:Nat) <<< min d ((q*2 ^ d).log2+2)=2 ^ d:=by rw[Nat.min_eq_left h,Nat.shiftLeft_eq,Nat.one_mul]
 have hp:0<2 ^ d:=Nat.two_pow_pos d;have h1:q*2 ^ d/2 ^ d=q:=Nat.mul_div_cancel _ hp;have h2:q*2 ^ d%2 ^ d=0:=Nat.mul_mod_left _ _
 unfold Ieee.Toward.cut
 simp only[hg,h1,h2]
 have e1:decide (2 ^ d<2*0)=false:=by simp
 have e2:(2 ^ d==2*0)=false:=by rw[beq_eq_false_iff_ne];omega
 rw[e1,e2]
 simp
theorem i8 {r:Nat}(hr:r<4294967296) (hn:(Ieee.single.read r).isNaN=false):∃ n s x f,n<18446744073709551616∧rd n r s x f:=by
 obtain⟨s,hs⟩:∃ s,r/2147483648=s:=⟨_,rfl⟩
 obtain⟨x,hx⟩:∃ x,r/8388608%256=x:=⟨_,rfl⟩
 obtain⟨f,hf⟩:∃ f,r%8388608=f:=⟨_,rfl⟩
 have vC:s≤1:=by omega
 have pq:x≤255:=by omega
 have cK:f<8388608:=by omega
 have hv:r=s*2147483648+x*8388608+f:=by omega
 by_cases h1:x=255
 ·by_cases h0:f=0
  ·exact⟨s*9223372036854775808+9218868437227405312,s,x,f,by omega,vC,by omega,by omega,by omega,.inl ⟨h1,h0,rfl⟩⟩
  exfalso
  have e1:Ieee.single.signWeight=2147483648:=rfl;have e2:Ieee.single.binade=8388608:=rfl;have e3:Ieee.single.infRung=2139095040:=rfl
  unfold Ieee.Format.read at hn
  rw[e1,e2,e3]at hn
  simp only[show ¬ r%2147483648<8388608 by omega,show ¬ r%2147483648<2139095040 by omega,show ¬ r%2147483648=2139095040 by omega,if_false]at hn
  cases hn
 by_cases h2:x=0
 ·by_cases h0:f=0
  ·exact⟨s*9223372036854775808,s,x,f,by omega,vC,by omega,by omega,by omega,.inr (.inl ⟨h2,h0,rfl⟩)⟩
  have a1:2 ^ f.log2≤f:=Nat.log2_self_le h0;have a2:f<2 ^ (f.log2+1):=Nat.lt_log2_self;have a3:f.log2<23:=(Nat.log2_lt h0).2 (by simpa using cK)
  generalize f.log2=t at a1 a2 a3
  have e1:2 ^ t*2 ^ (52-t)=4503599627370496:=by
   rw[← Nat.pow_add,show t+(52-t)=52 by omega]
  have e2:2 ^ (t+1)*2 ^ (52-t)=9007199254740992:=by
   rw[← Nat.pow_add,show t+1+(52-t)=53 by omega]
  have b1:=Nat.mul_le_mul_right (2 ^ (52-t)) a1;have b2:=Nat.mul_lt_mul_of_pos_right a2 (Nat.two_pow_pos (52-t))
  refine⟨s*9223372036854775808+(874+t)*4503599627370496+(f*2 ^ (52-t)-4503599627370496),s,x,f,by omega,vC,by omega,by omega,by omega,.inr (.inr (.inr ⟨h2,t,_,a3,a1,a2,rfl,by omega,rfl⟩))⟩
 exact⟨s*9223372036854775808+(x+896)*4503599627370496+f*536870912,s,x,f,by omega,vC,by omega,by omega,by omega,.inr (.inr (.inl ⟨by omega,by omega,rfl⟩))⟩
theorem fd (s r:Nat) (hs:s≤1):Ieee.double.word (s%2==1) r=s*9223372036854775808+r:=by
 have e:Ieee.double.signWeight=9223372036854775808:=rfl
 unfold Ieee.Format.word
 rcases(by omega:s=0∨s=1) with rfl | rfl <;> simp[e]
theorem fe (s r:Nat) (hs:s≤1):Ieee.single.word (s%2==1) r=s*2147483648+r:=by
 have e:Ieee.single.signWeight=2147483648:=rfl
 unfold Ieee.Format.word
 rcases(by omega:s=0∨s=1) with rfl | rfl <;> simp[e]
theorem bG {n v s x f:Nat}(h:rd n v s x f):Ieee.single.read v=if x=255 then .infinity (s%2==1) else if x=0 then .number (s%2==1) f (-149) else .number (s%2==1) (8388608+f) ((x:Int)-150):=by
 obtain⟨a1,a2,a3,a4,a5⟩:=h;have e1:Ieee.single.signWeight=2147483648:=rfl;have e2:Ieee.single.binade=8388608:=rfl;have e3:Ieee.single.infRung=2139095040:=rfl;have e4:Ieee.single.leastPlace = -149:=rfl;have hd:v/2147483648=s:=by omega
 have hm:v%2147483648=x*8388608+f:=by omega
 unfold Ieee.Format.read
 rw[e1,e2,e3,e4,hd,hm]
 simp only
 by_cases h0:x=0
 ·rw[if_pos (by omega),if_neg (by omega),if_pos h0,h0];simp
 rw[if_neg (by omega)]
 by_cases h1:x=255
 ·have:f=0:=by omega
  rw[if_neg (by omega),if_pos (by omega),if_pos h1]
 rw[if_pos (by omega),if_neg h1,if_neg h0];congr 1
 ·omega
 omega
theorem fZ {n v s x f:Nat}(h:rd n v s x f):∃ e m,e≤2047∧m<4503599627370496∧n=s*9223372036854775808+e*4503599627370496+m∧
  (x=255→e=2047∧m=0)∧(x=0∧f=0→e=0∧m=0)∧(1≤x∧x≤254→e=x+896∧m=f*536870912)∧(x=0∧0<f→∃ t,t<23∧2 ^ t≤f∧f<2 ^ (t+1)∧e=874+t∧m+4503599627370496=f*2 ^ (52-t))∧
  Ieee.double.read n=if e=2047 then .infinity (s%2==1) else if e=0 then .number (s%2==1) m (-1074) else .number (s%2==1) (4503599627370496+m) ((e:Int)-1075):=by
 obtain⟨a1,a2,a3,a4,a5⟩:=h
 have key:∀ e m,e≤2047→m<4503599627370496→(e=2047→m=0)→n=s*9223372036854775808+e*4503599627370496+m→Ieee.double.read n=if e=2047 then .infinity (s%2==1) else if e=0 then .number (s%2==1) m (-1074) else .number (s%2==1) (4503599627370496+m) ((e:Int)-1075):=by
  intro e m he hm h7 hn
  have e1:Ieee.double.signWeight=9223372036854775808:=rfl;have e2:Ieee.double.binade=4503599627370496:=rfl;have e3:Ieee.double.infRung=9218868437227405312:=rfl;have e4:Ieee.double.leastPlace = -1074:=rfl;have hd:n/9223372036854775808=s:=by omega
  have Qr:n%9223372036854775808=e*4503599627370496+m:=by omega
  unfold Ieee.Format.read
  rw[e1,e2,e3,e4,hd,Qr]
  simp only
  by_cases h0:e=0
  ·rw[if_pos (by omega),if_neg (by omega),if_pos h0,h0];simp
  rw[if_neg (by omega)]
  by_cases h1:e=2047
  ·have:=h7 h1;rw[if_neg (by omega),if_pos (by omega),if_pos h1]
  rw[if_pos (by omega),if_neg h1,if_neg h0];congr 1
  ·omega
  omega
 rcases a5 with ⟨c1,c2,c3⟩ | ⟨c1,c2,c3⟩ | ⟨c1,c2,c3⟩ | ⟨c1,t,full,c2,c3,c4,c5,c6,c7⟩
 ·exact⟨2047,0,by omega,by omega,by omega,fun _=>⟨rfl,rfl⟩,by omega,by omega,by omega,key 2047 0 (by omega) (by omega) (fun _=>rfl) (by omega)⟩
 ·have C3:n=s*9223372036854775808+0*4503599627370496+0:=by rw[c3];simp only[Nat.zero_mul,Nat.add_zero]
  have C3:=Hh C3;clear c3;have x1:x≠255:=by omega
  have x3:¬ (1≤x∧x≤254):=by omega
  have x4:¬ (x=0∧0<f):=by omega
  exact⟨0,0,by omega,by omega,C3.out,fun h=>absurd h x1,fun _=>⟨rfl,rfl⟩,fun h=>absurd h x3,fun h=>absurd h x4,key 0 0 (by omega) (by omega) (by omega) C3.out⟩
 ·have C3:=Hh c3;clear c3;have t1:x+896≤2047:=by omega
  have t2:x+896≠2047:=by omega
  have m1:f*536870912<4503599627370496:=by omega
  have x1:x≠255:=by omega
  have x2:x≠0:=by omega
  exact⟨x+896,f*536870912,t1,m1,C3.out,fun h=>absurd h x1,fun h=>absurd h.1 x2,fun _=>⟨rfl,rfl⟩,fun h=>absurd h.1 x2,key _ _ t1 m1 (fun h=>absurd h t2) C3.out⟩
 have hp:0<f:=by have:=Nat.two_pow_pos t;omega
 have e2:2 ^ (t+1)*2 ^ (52-t)=9007199254740992:=by
  rw[← Nat.pow_add,show t+1+(52-t)=53 by omega]
 have b2:=Nat.mul_lt_mul_of_pos_right c4 (Nat.two_pow_pos (52-t));rw[e2,← c5]at b2;have C7:=Hh c7;clear c7;have m1:full-4503599627370496<4503599627370496:=by clear a2;omega
 have m2:full-4503599627370496+4503599627370496=f*2 ^ (52-t):=by rw[← c5];clear a2;omega
 have t1:874+t≤2047:=by omega
 have t2:874+t≠2047:=by omega
 have x1:x≠255:=by omega
 have x2:¬ (x=0∧f=0):=by omega
 have x3:¬ (1≤x∧x≤254):=by omega
 exact⟨874+t,full-4503599627370496,t1,m1,C7.out,fun h=>absurd h x1,fun h=>absurd h x2,fun h=>absurd h x3,fun _=>⟨t,c2,c3,c4,rfl,m2⟩,key _ _ t1 m1 (fun h=>absurd h t2) C7.out⟩
theorem fX {n v s x f:Nat}(h:rd n v s x f):floatToFloatBits .f32 v .f64=some n:=by
 have hr:=bG h;obtain⟨e,m,he,hm,hn,g1,g2,g3,g4,hd⟩:=fZ h;obtain⟨a1,a2,a3,a4,_⟩:=h;have e1:Ieee.double.fractionBits=52:=rfl;have e2:Ieee.double.binade=4503599627370496:=rfl;have e3:Ieee.double.infRung=9218868437227405312:=rfl;have e4:Ieee.double.leastPlace = -1074:=rfl
 have hw:Ieee.double.write (Ieee.single.read v)=n:=by
  rw[hr]
  by_cases h1:x=255
  ·obtain⟨rfl,rfl⟩:=g1 h1;rw[if_pos h1];show Ieee.double.word _ Ieee.double.infRung=n
   rw[fd _ _ a1,e3];omega
  rw[if_neg h1]
  have near:∀ (mag:Nat) (pl:Int) (t:Nat),t≤52→2 ^ t≤mag→mag<2 ^ (t+1)→-149≤pl→pl≤104→e=(pl+t+1023).toNat→mag*2 ^ (52-t)=4503599627370496+m→Ieee.double.nearest (s%2==1) mag pl=n:=by
   intro mag pl t ht b1 b2 p1 p2 he' Qr
   have hl:=kR b1 b2;have h0:mag≠0:=by have:=Nat.two_pow_pos t;omega
   unfold Ieee.Format.nearest
   rw[if_neg h0,hl,e1,e2,e3,e4];have pf:max (pl+(t:Int)-(52:Nat)) (-1074)=pl+t-52:=by omega
   simp only[pf]
   rw[show(pl-(pl+(t:Int)-52)).toNat=52-t by omega,show((pl+(t:Int)-52)-pl).toNat=0 by omega,Nat.shiftLeft_eq,Qr];have hc:=oz (s%2==1) (4503599627370496+m) 0 (by omega);rw[Nat.pow_zero,Nat.mul_one]at hc;rw[hc,fd _ _ a1,Nat.min_eq_left (by omega)]
   omega
  by_cases h2:x=0
  ·rw[if_pos h2]
   by_cases h3:f=0
   ·obtain⟨rfl,rfl⟩:=g2 ⟨h2,h3⟩;subst h3;show Ieee.double.nearest _ 0 _=n
    unfold Ieee.Format.nearest
    rw[if_pos rfl,fd _ _ a1];omega
   obtain⟨t,t1,t2,t3,t4,t5⟩:=g4 ⟨h2,by omega⟩
   exact near f (-149) t (by omega) t2 t3 (by omega) (by omega) (by omega) (by omega)
  rw[if_neg h2];obtain⟨k1,k2⟩:=g3 ⟨by omega,by omega⟩
  refine near (8388608+f) ((x:Int)-150) 23 (by omega) (by simp) (by simp;omega) (by omega) (by omega) (by omega) ?_
  simp only[Nat.reduceSub,Nat.reducePow]
  omega
 unfold floatToFloatBits
 rw[if_neg (by decide)];show(match Ieee.single.read v with | .nan _ _=>none | .infinity s=>some (Ieee.double.write (.infinity s)) | .number s m e=>if(Ieee.double.read (Ieee.double.write (.number s m e))).isInfinity then none else some (Ieee.double.write (.number s m e)))=some n
 cases hq:Ieee.single.read v with
 | nan a b =>
  rw[hq]at hr
  split at hr
  ·cases hr
  split at hr <;> cases hr
 | infinity q=>simp only;rw[← hq,hw]
 | number a b c =>
 simp only
 rw[← hq,hw]
 have hx:x≠255:=by
  intro h1
  rw[hq,if_pos h1]at hr
  cases hr
 have Il:e≠2047:=by
  by_cases h2:x=0
  ·by_cases h3:f=0
   ·have:=g2 ⟨h2,h3⟩;omega
   obtain⟨t,t1,t2,t3,t4,t5⟩:=g4 ⟨h2,by omega⟩;omega
  have:=g3 ⟨by omega,by omega⟩;omega
 rw[hd,if_neg Il]
 by_cases h0:e=0
 ·rw[if_pos h0];rfl
 rw[if_neg h0];rfl
theorem ZS {n v s x f:Nat}(h:rd n v s x f):floatToFloatBits .f64 n .f32=some v:=by
 have hr:=bG h;obtain⟨e,m,he,hm,hn,g1,g2,g3,g4,hd⟩:=fZ h;obtain⟨a1,a2,a3,a4,_⟩:=h;have e1:Ieee.single.fractionBits=23:=rfl;have e2:Ieee.single.binade=8388608:=rfl;have e3:Ieee.single.infRung=2139095040:=rfl;have e4:Ieee.single.leastPlace = -149:=rfl
 have hw:Ieee.single.write (Ieee.double.read n)=v:=by
  rw[hd]
  by_cases h1:x=255
  ·obtain⟨h5,h6⟩:=g1 h1;rw[if_pos h5];show Ieee.single.word _ Ieee.single.infRung=v
   rw[fe _ _ a1,e3]
   omega
  by_cases h2:x=0
  ·by_cases h3:f=0
   ·obtain⟨h5,h6⟩:=g2 ⟨h2,h3⟩;rw[if_neg (by omega),if_pos h5,h6];show Ieee.single.nearest _ 0 _=v
    unfold Ieee.Format.nearest
    rw[if_pos rfl,fe _ _ a1];omega
   obtain⟨t,t1,t2,t3,t4,t5⟩:=g4 ⟨h2,by omega⟩;rw[if_neg (by omega),if_neg (by omega)];show Ieee.single.nearest _ _ _=v
   have hl:(4503599627370496+m).log2=52:=kR (by simp) (by simp;omega)
   unfold Ieee.Format.nearest
   rw[if_neg (by omega),hl,e1,e2,e3,e4];have pf:max ((e:Int)-1075+(52:Nat)-(23:Nat)) (-149) = -149:=by omega
   simp only[pf]
   rw[show((e:Int)-1075 - -149).toNat=0 by omega,show(-149-((e:Int)-1075)).toNat=52-t by omega,Nat.shiftLeft_eq,Nat.pow_zero,Nat.mul_one,show 4503599627370496+m=f*2 ^ (52-t) by omega];rw[oz _ _ _ (by rw[← t5,Nat.add_comm m,hl];omega),fe _ _ a1,Nat.min_eq_left (by omega)];rw[a2,h2,show((-149:Int) - -149).toNat=0 from rfl]
   simp only[Nat.zero_mul,Nat.zero_add,Nat.add_zero]
  obtain⟨k1,k2⟩:=g3 ⟨by omega,by omega⟩;rw[if_neg (by omega),if_neg (by omega)];show Ieee.single.nearest _ _ _=v
  have hl:(4503599627370496+m).log2=52:=kR (by simp) (by simp;omega)
  unfold Ieee.Format.nearest
  rw[if_neg (by omega),hl,e1,e2,e3,e4];have pf:max ((e:Int)-1075+(52:Nat)-(23:Nat)) (-149)=(e:Int)-1046:=by omega
  simp only[pf]
  have hq:4503599627370496+m=(8388608+f)*2 ^ 29:=by simp only[Nat.reducePow];omega
  rw[show((e:Int)-1075-((e:Int)-1046)).toNat=0 by omega,show(((e:Int)-1046)-((e:Int)-1075)).toNat=29 by omega,Nat.shiftLeft_eq,Nat.pow_zero,Nat.mul_one,hq];rw[oz _ _ _ (by rw[← hq,hl];omega),fe _ _ a1,Nat.min_eq_left (by omega)]
  omega
 unfold floatToFloatBits
 rw[if_neg (by decide)];show(match Ieee.double.read n with | .nan _ _=>none | .infinity s=>some (Ieee.single.write (.infinity s)) | .number s m e=>if(Ieee.single.read (Ieee.single.write (.number s m e))).isInfinity then none else some (Ieee.single.write (.number s m e)))=some v
 cases hq:Ieee.double.read n with
 | nan a b =>
  rw[hq]at hd
  split at hd
  ·cases hd
  split at hd <;> cases hd
 | infinity q=>simp only;rw[← hq,hw]
 | number a b c =>
 simp only
 rw[← hq,hw]
 have hx:x≠255:=by
  intro h1
  have:=g1 h1;rw[hq,if_pos this.1]at hd
  cases hd
 rw[hr,if_neg hx]
 by_cases h0:x=0
 ·rw[if_pos h0];rfl
 rw[if_neg h0];rfl
theorem pV {n v s x f:Nat}(h:rd n v s x f):yr n 8 23=some v:=by
 obtain⟨e,m,he,hm,hn,g1,g2,g3,g4,hd⟩:=fZ h;obtain⟨a1,a2,a3,a4,_⟩:=h;have k1:n/4503599627370496%2048=e:=by omega
 have k2:n%4503599627370496=m:=by omega
 have k3:n/9223372036854775808=s:=by omega
 rw[yr]
 simp only[Nat.reducePow,Nat.reduceSub,Nat.reduceAdd,Nat.reduceMul,k1,k2,k3]
 by_cases h1:x=255
 ·obtain⟨h5,h6⟩:=g1 h1;rw[if_pos h5,if_pos h6];congr 1;omega
 by_cases h2:x=0
 ·by_cases h3:f=0
  ·obtain⟨h5,h6⟩:=g2 ⟨h2,h3⟩;rw[if_neg (by omega),if_pos h5,if_pos h6];congr 1;omega
  obtain⟨t,t1,t2,t3,t4,t5⟩:=g4 ⟨h2,by omega⟩;rw[if_neg (by omega),if_neg (by omega),if_neg (by omega),if_neg (by omega),if_neg (by omega),show 30+(1023-e-127)=52-t by omega,t5,if_pos (Nat.mul_mod_left _ _),Nat.mul_div_cancel _ (Nat.two_pow_pos _)];congr 1;omega
 obtain⟨h5,h6⟩:=g3 ⟨by omega,by omega⟩;rw[if_neg (by omega),if_neg (by omega),if_neg (by omega),if_pos (by omega),if_pos (by omega)];congr 1;omega
def gk (v:Nat):Option Nat :=
 let s:=v/2147483648
 let e:=v/8388608%256
 let m:=v%8388608
 if e=255 then some (s*32768+31744) else if e=0 then(if m=0 then some (s*32768) else none)
 else if 113≤e∧e≤142 then(if m%8192=0 then some (s*32768+(e-112)*1024+m/8192) else none)
 else if 103≤e∧e<113 then(if(m+8388608)%2 ^ (126-e)=0 then some (s*32768+(m+8388608)/2 ^ (126-e)) else none) else none
theorem Tl {n v s x f:Nat}(h:rd n v s x f):gk v=yr n 5 10:=by
 obtain⟨e,m,he,hm,hn,g1,g2,g3,g4,hd⟩:=fZ h;obtain⟨a1,a2,a3,a4,_⟩:=h;have k1:n/4503599627370496%2048=e:=by omega
 have k2:n%4503599627370496=m:=by omega
 have k3:n/9223372036854775808=s:=by omega
 have j1:v/2147483648=s:=by omega
 have j2:v/8388608%256=x:=by omega
 have j3:v%8388608=f:=by omega
 rw[yr,gk]
 simp only[Nat.reducePow,Nat.reduceSub,Nat.reduceAdd,Nat.reduceMul,k1,k2,k3,j1,j2,j3]
 by_cases h1:x=255
 ·obtain⟨h5,h6⟩:=g1 h1;rw[if_pos h5,if_pos h6,if_pos h1]
 by_cases h2:x=0
 ·by_cases h3:f=0
  ·obtain⟨h5,h6⟩:=g2 ⟨h2,h3⟩;rw[if_neg (by omega),if_pos h2,if_pos h3,if_neg (by omega),if_pos h5,if_pos h6]
  obtain⟨t,t1,t2,t3,t4,t5⟩:=g4 ⟨h2,by omega⟩;rw[if_neg (by omega),if_pos h2,if_neg h3,if_neg (by omega),if_neg (by omega),if_neg (by omega),if_neg (by omega),if_pos (by omega)]
 obtain⟨h5,h6⟩:=g3 ⟨by omega,by omega⟩;have n1:¬ e=2047:=by omega
 have n2:¬ e=0:=by omega
 rw[if_neg h1,if_neg h2,if_neg n1,if_neg n2]
 by_cases h7:143≤x
 ·have p1:¬ (113≤x∧x≤142):=by omega
  have p2:¬ (103≤x∧x<113):=by omega
  have p3:1023+31≤e+15:=by omega
  rw[if_neg p1,if_neg p2,if_pos p3]
 have p3:¬ (1023+31≤e+15):=by omega
 by_cases h8:113≤x
 ·have p1:113≤x∧x≤142:=by omega
  have p4:1023<e+15:=by omega
  rw[if_pos p1,if_neg p3,if_pos p4]
  by_cases h9:f%8192=0
  ·have p5:m%4398046511104=0:=by omega
   rw[if_pos h9,if_pos p5];obtain⟨q,rfl⟩:∃ q,f=8192*q:=⟨f/8192,by omega⟩
   have z1:m/4398046511104=8192*q/8192:=by omega
   have z2:e+15-1023=x-112:=by omega
   rw[z1,z2]
  have p5:¬ m%4398046511104=0:=by omega
  rw[if_neg h9,if_neg p5]
 have p1:¬ (113≤x∧x≤142):=by omega
 have p4:¬ 1023<e+15:=by omega
 rw[if_neg p1,if_neg p3,if_neg p4]
 by_cases h9:103≤x
 ·have p2:103≤x∧x<113:=by omega
  have p6:¬ 52<43+(1023-e-15):=by omega
  rw[if_pos p2,if_neg p6];have hs:43+(1023-e-15)=126-x+29:=by omega
  have hq:m+4503599627370496=(f+8388608)*2 ^ 29:=by simp only[Nat.reducePow];omega
  rw[hs,hq,Nat.pow_add,Nat.mul_mod_mul_right,Nat.mul_div_mul_right _ _ (Nat.two_pow_pos 29)]
  by_cases h10:(f+8388608)%2 ^ (126-x)=0
  ·have Ps:(f+8388608)%2 ^ (126-x)*2 ^ 29=0:=by rw[h10,Nat.zero_mul]
   rw[if_pos h10,if_pos Ps]
  have Ps:¬ (f+8388608)%2 ^ (126-x)*2 ^ 29=0:=by
   intro h
   have:=Nat.two_pow_pos 29
   rcases Nat.mul_eq_zero.1 h with h | h <;> omega
  rw[if_neg h10,if_neg Ps]
 have p2:¬ (103≤x∧x<113):=by omega
 have p6:52<43+(1023-e-15):=by omega
 rw[if_neg p2,if_pos p6]
def ZY (n k:Nat):UInt8:=u8 (n/2 ^ (56-8*k))
theorem Zv (n k:Nat):(#[.int .u8 ((n:Int)/2 ^ (56-8*k)%256)]:Array Value).toList=[ZY n k].map zI:=by
 simp only[List.map_cons,List.map_nil,ZY,wb]
 simp
theorem Xu (n:Nat) (hn:n<18446744073709551616) (w:World) :
  Calls Tryz.prog 92 #[.int .u64 (n:Int)] w fun e w'=>∃ r,e=.returned r∧Fresh w (be8 n 8) r w':=by
 have HN:=Hh hn;clear hn;have hO:=OwnB.nil w w.heap.size;have hb:=Below.refl w.heap.size w;go_enter Tryz.func92,Tryz.ntmps92
 go_wp2_with fail
 go_loopw [3,4] (fun v3 v4 wr=>∃ (k:Nat) (VA:Option Addr) (vc:Nat),k≤8∧v4=.int .i64 (56-8*(k:Int))∧v3=.slice VA k vc∧OwnB wr w.heap.size (.slice VA k vc) (be8 n k)∧Below w.heap.size w wr) (fun _ v4 _=>(intOf v4+8).toNat)
 case atStart=>exact⟨0,none,0,by omega,rfl,rfl,hO,hb⟩
 case round =>
 obtain⟨k,VA,vc,hk,rfl,rfl,vW,xP⟩:=hrel
 by_cases ye:k<8
 ·have xw:=Zv n k;have uy:=xP.alloc xP.size (.cells #[.int .u8 ((n:Int)/2 ^ (56-8*k)%256)] 5);have kW:=vW.alloc (.cells #[.int .u8 ((n:Int)/2 ^ (56-8*k)%256)] 5);have HC:=Hh xw;clear xw;go_wp2_with (at_builtin;refine yf ?_)
  refine zR rfl (.tmp 9) (.tmp 14) rfl w.heap.size _ _ rfl kW _ 1 _ [ZY n k] rfl rfl (Src.new _ _ _ _ rfl _ HC.out) (by simp[vP];omega) uy.size fun v' w7 vo hg7 hat7=>?_
  obtain⟨VA',vc',rfl,_⟩:=vo.form;have iP:(be8 n k++[ZY n k]).length=k+1:=by simp[vP]
  have bK:OwnB w7 w.heap.size (.slice VA' (k+1) vc') (be8 n (k+1)):=by
   rw[iP]at vo
   exact vo
  rw[iP];have vJ:=uy.grown hg7 uy.size (fun q hq=>(kW.lt q hq).1);clear iP hg7 hat7 kW vW uy xP vo;go_wp2_with fail
  go_roundw
  case rel=>exact⟨k+1,VA',vc',by omega,by go_num,rfl,bK,vJ⟩
  case measure=>simp[intOf];omega
 have XZ:k=8:=by omega
 subst XZ;go_wp2_with fail
 go_ret
 exact⟨_,rfl,vW,xP⟩
theorem ov (a k:Nat) (ha:a<4294967296) (hk:k<32):bits .and .u32 (a:Int) ((2 ^ k-1:Nat):Int)=((a%2 ^ k:Nat):Int):=by
 have:2 ^ k<2 ^ 32:=Nat.pow_lt_pow_right (by omega) hk
 simp only[Nat.reducePow]at this
 rw[u32_and_nat a (2 ^ k-1) ha (by omega),Nat.and_two_pow_sub_one_eq_mod]
theorem Vk (b k:Nat) (hb:b<2 ^ k) (hk:k<31):bits .or .u32 (b:Int) ((2 ^ k:Nat):Int)=((b+2 ^ k:Nat):Int):=by
 have h1:2 ^ k<2 ^ 31:=Nat.pow_lt_pow_right (by omega) hk
 simp only[Nat.reducePow]at h1
 rw[u32_or_nat _ _ (by omega) (by omega),Nat.or_comm];have:=Nat.two_pow_add_eq_or_of_lt hb 1;rw[Nat.mul_one]at this;rw[← this,Nat.add_comm]
theorem mu (a k b:Nat) (hb:b<2 ^ k) (h:a*2 ^ k+b<65536):bits .or .u16 ((a*2 ^ k:Nat):Int) (b:Int)=((a*2 ^ k+b:Nat):Int):=by
 rw[u16_or_nat _ _ (by omega) (by omega),Nat.mul_comm,Nat.two_pow_add_eq_or_of_lt hb]
theorem UE (q:Nat) (h:q<65536):IntKind.u16.wrap (q:Int)=(q:Int):=IntWalk.u16_in _ (by omega)
theorem Xs (v:Nat) (hv:v<4294967296) (w:World) :
  Calls Tryz.prog 94 #[.int .u32 (v:Int)] w
   fun e w'=>(∃ h:Nat,e=.returned (.tuple #[.int .u16 (h:Int),.bool (gk v).isSome])∧∀ x,gk v=some x→h=x)∧w=w':=by
 have A1:=ov (v/2 ^ 23) 8 (by omega) (by omega);have A2:=ov v 23 hv (by omega)
 simp only[Nat.reducePow,Nat.reduceSub]at A1 A2
 rw[Int.natCast_ediv]at A1;obtain⟨ex,tA⟩:∃ ex,v/8388608%256=ex:=⟨_,rfl⟩
 obtain⟨mx,kM⟩:∃ mx,v%8388608=mx:=⟨_,rfl⟩
 obtain⟨sg,Zm⟩:∃ sg,v/2147483648=sg:=⟨_,rfl⟩
 have vC:sg≤1:=by omega
 have E:Hid (gk v=if ex=255 then some (sg*32768+31744) else if ex=0 then(if mx=0 then some (sg*32768) else none)
   else if 113≤ex∧ex≤142 then(if mx%8192=0 then some (sg*32768+(ex-112)*1024+mx/8192) else none)
   else if 103≤ex∧ex<113 then(if(mx+8388608)%2 ^ (126-ex)=0 then some (sg*32768+(mx+8388608)/2 ^ (126-ex)) else none) else none):=by
  rw[Hid,gk]
  simp only[tA,kM,Zm]
 rw[tA]at A1;rw[kM]at A2;have QB:ex<256:=by omega
 have qo:mx<8388608:=by omega
 have A1':bits .and .u32 ((v:Int)/8388608) 255=(ex:Int):=A1;have A2':bits .and .u32 (v:Int) 8388607=(mx:Int):=A2;have K1:IntKind.i64.wrap (ex:Int)=(ex:Int):=IntWalk.i64_in _ (by omega)
 have KS:Hid (IntKind.u16.wrap ((v:Int)/2147483648*32768%4294967296)=((sg*2 ^ 15:Nat):Int)):=by
  have h:(v:Int)/2147483648*32768%4294967296=(sg:Int)*32768:=by omega
  simp only[Nat.reducePow]
  rw[Hid,h,IntWalk.u16_in _ (by omega)]
  omega
 clear hv tA kM Zm A1 A2;go_enter Tryz.func94,Tryz.ntmps94
 go_wp2_with fail
 ·have h1:ex=255:=by
   have h:((ex:Int)==255)=true:=by assumption
   rw[beq_iff_eq]at h
   omega
  go_ret2
  have QN:=mu sg 15 31744 (by omega) (by omega)
  refine⟨⟨sg*32768+31744, ?_, ?_⟩,rfl⟩
  ·show Ending.returned (Value.tuple #[Value.int .u16 _,Value.bool _])=_
   rw[KS.out,E.out,if_pos h1];rw[show(31744:Int)=((31744:Nat):Int) from rfl,QN];rfl
  intro x hx
  rw[E.out,if_pos h1]at hx;injection hx
 all_goals
  have h1:¬ ex=255:=by
   have h:((ex:Int)==255)=false:=by assumption
   rw[beq_eq_false_iff_ne]at h
   omega
  rw[if_neg h1]at E
 ·have h2:ex=0:=by
   have h:((ex:Int)==0)=true:=by assumption
   rw[beq_iff_eq]at h
   omega
  rw[if_pos h2]at E;go_ret2
  refine⟨⟨sg*32768, ?_, ?_⟩,rfl⟩
  ·show Ending.returned (Value.tuple #[Value.int .u16 _,Value.bool _])=_
   rw[KS.out,E.out]
   by_cases h:mx=0 <;> simp[h]
  intro x hx
  rw[E.out]at hx
  split at hx
  ·injection hx
  cases hx
 all_goals
  have h2:¬ ex=0:=by
   have h:((ex:Int)==0)=false:=by assumption
   rw[beq_eq_false_iff_ne]at h
   omega
  rw[if_neg h2]at E
 ·have h3:113≤ex∧ex≤142:=by omega
  rw[if_pos h3]at E;obtain⟨q,hq⟩:∃ q,ex-112=q:=⟨_,rfl⟩
  have QP:((ex:Int)-112)*1024=((q*1024:Nat):Int):=by omega
  have Zi:(mx:Int)/8192=((mx/8192:Nat):Int):=by omega
  have ha:=ov mx 13 (by omega) (by omega)
  simp only[Nat.reducePow,Nat.reduceSub]at ha
  have Xk:=mu sg 15 (q*1024) (by omega) (by omega);have bz:=mu (sg*2 ^ 5+q) 10 (mx/8192) (by omega) (by omega);rw[show(sg*2 ^ 5+q)*2 ^ 10=sg*2 ^ 15+q*1024 by omega]at bz;go_ret2
  refine⟨⟨sg*32768+q*1024+mx/8192, ?_, ?_⟩,rfl⟩
  ·show Ending.returned (Value.tuple #[Value.int .u16 _,Value.bool _])=_
   rw[KS.out,E.out,QP,Zi,Xk,bz];have XV:bits .and .u32 (mx:Int) 8191=((mx%8192:Nat):Int):=ha;rw[XV]
   by_cases h:mx%8192=0
   ·rw[if_pos h,h];rfl
   rw[if_neg h];have:(((mx%8192:Nat):Int)==0)=false:=by rw[beq_eq_false_iff_ne];omega
   rw[this];rfl
  intro x hx
  rw[E.out,hq]at hx
  split at hx
  ·injection hx
  cases hx
 ·have h3:¬ (113≤ex∧ex≤142):=by omega
  have h4:¬ (103≤ex∧ex<113):=by omega
  rw[if_neg h3,if_neg h4]at E;go_ret2
  refine⟨⟨0, ?_, ?_⟩,rfl⟩
  ·rw[E.out];rfl
  intro x hx
  rw[E.out]at hx
  cases hx
 ·have h3:¬ (113≤ex∧ex≤142):=by omega
  have h4:103≤ex∧ex<113:=by omega
  rw[if_neg h3,if_pos h4]at E;obtain⟨sh,Zn⟩:∃ sh,126-ex=sh:=⟨_,rfl⟩
  obtain⟨full,uF⟩:∃ full,mx+8388608=full:=⟨_,rfl⟩
  have QM:bits .or .u32 (mx:Int) 8388608=(full:Int):=by
   have:=Vk mx 23 (by omega) (by omega)
   simp only[Nat.reducePow]at this
   rw[← uF]
   exact this
  have hp:2 ^ sh<2 ^ 32:=Nat.pow_lt_pow_right (by omega) (by omega);have iZ:0<2 ^ sh:=Nat.two_pow_pos sh
  simp only[Nat.reducePow]at hp
  have JE:(2:Int) ^ sh=((2 ^ sh:Nat):Int):=by rw[Int.natCast_pow];rfl
  have hw:((2:Int) ^ sh-1)%4294967296=((2 ^ sh-1:Nat):Int):=by rw[JE];omega
  have QA:(full:Int)/2 ^ sh=((full/2 ^ sh:Nat):Int):=by
   rw[Int.natCast_ediv,Int.natCast_pow];rfl
  have ye:full/2 ^ sh<2 ^ 15:=by
   apply Nat.div_lt_of_lt_mul
   have h1:2 ^ 14≤2 ^ sh:=Nat.pow_le_pow_right (by omega) (by omega);have h2:2 ^ 14*2 ^ 15≤2 ^ sh*2 ^ 15:=Nat.mul_le_mul_right _ h1
   simp only[Nat.reducePow,Nat.reduceMul]at h2⊢
   omega
  have Gf:full/2 ^ sh<32768:=ye;have JF:IntKind.u16.wrap ((full/2 ^ sh:Nat):Int)=((full/2 ^ sh:Nat):Int):=UE _ (by omega);have ho:=mu sg 15 (full/2 ^ sh) ye (by simp only[Nat.reducePow];omega);have ha:=ov full sh (by omega) (by omega);go_ret2
  refine⟨⟨sg*32768+full/2 ^ sh, ?_, ?_⟩,rfl⟩
  ·show Ending.returned (Value.tuple #[Value.int .u16 _,Value.bool _])=_
   rw[KS.out,E.out,Zn,QM,hw,ha,QA,JF,ho,uF]
   by_cases h:full%2 ^ sh=0
   ·rw[if_pos h,h];rfl
   rw[if_neg h];have:(((full%2 ^ sh:Nat):Int)==0)=false:=by rw[beq_eq_false_iff_ne];omega
   rw[this];rfl
  intro x hx
  rw[E.out,Zn,uF]at hx
  split at hx
  ·injection hx
  cases hx
 have h3:¬ (113≤ex∧ex≤142):=by omega
 have h4:¬ (103≤ex∧ex<113):=by omega
 rw[if_neg h3,if_neg h4]at E;go_ret2
 refine⟨⟨0, ?_, ?_⟩,rfl⟩
 ·rw[E.out];rfl
 intro x hx
 rw[E.out]at hx
 cases hx
theorem VP (n:Nat) (hN:isNaN n=false) (w:World):∃ r w',(convert 128 130 (.float .f64 n)).run Tryz.prog w=.ok (.float .f32 r) w'∧(w'=w∨w'=w.drew)∧r<4294967296∧(∀ s x f v,rd n v s x f→r=v):=by
 have hs:Tryz.prog.underlying 128=some (.float .f64):=Tryz.underlying128;have hd:Tryz.prog.underlying 130=some (.float .f32):=Tryz.underlying130
 cases hb:floatToFloatBits .f64 n .f32 with
 | some r =>
  have Uw:(Tryz.prog.underlying 128).isSome=true:=by rw[hs];rfl
  refine⟨r,w,run_convert_float_float (P:=Tryz.prog) (w:=w) 128 130 .f64 .f32 n r Uw hd hb,.inl rfl, ?_, ?_⟩
  ·unfold floatToFloatBits at hb
   rw[if_neg (by decide)]at hb;have ye:∀ d:Ieee.Datum,FloatKind.encode .f32 d<4294967296:=fun d=>Ieee.single.write_lt d
   split at hb
   ·cases hb
   ·injection hb with hb;rw[← hb];exact ye _
   split at hb
   ·cases hb
   injection hb with hb;rw[← hb];exact ye _
  intro s x f v h
  have:=ZS h;rw[hb]at this;injection this
 | none =>
 have l8:=hb
 unfold floatToFloatBits at hb
 rw[if_neg (by decide)]at hb
 have nV:¬ (∃ a b,FloatKind.decode .f64 n=.nan a b):=by
  rintro⟨a,b,h⟩
  have:=eG n;rw[hN]at this;have h':Ieee.double.read n=.nan a b:=h;rw[h']at this
  cases this
 cases hq:FloatKind.decode .f64 n with
 | nan a b=>exact absurd ⟨a,b,hq⟩ nV
 | infinity a=>rw[hq]at hb;cases hb
 | number a b c =>
 rw[hq]at hb
 simp only at hb
 split at hb
 ·rename_i ho
  refine⟨(Question.floatToFloat n).cut (w.tape w.drawn (Question.floatToFloat n)),w.drew, ?_,.inr rfl, ?_, ?_⟩
  ·simp[convert,run_underlying hs,run_underlying hd,Conv.floatToFloat,hq,ho,Question.forced]
  ·show _%2 ^ 32<4294967296
   omega
  intro s x f v h
  have:=ZS h;rw[l8]at this
  cases this
 cases hb
theorem VQ (r n:Nat) (hN:isNaN n=false) (hr:r<4294967296) (w:World):∃ m w',(convert 130 128 (.float .f32 r)).run Tryz.prog w=.ok (.float .f64 m) w'∧(w'=w∨w'=w.drew)∧(m=n→yr n 8 23=some r)∧(∀ s x f,rd n r s x f→m=n):=by
 have hs:Tryz.prog.underlying 130=some (.float .f32):=Tryz.underlying130;have hd:Tryz.prog.underlying 128=some (.float .f64):=Tryz.underlying128
 cases hn:(Ieee.single.read r).isNaN with
 | false =>
  obtain⟨m,s,x,f,_,hx⟩:=i8 hr hn;have hw:=fX hx;have Uw:(Tryz.prog.underlying 130).isSome=true:=by rw[hs];rfl
  refine⟨m,w,run_convert_float_float (P:=Tryz.prog) (w:=w) 130 128 .f32 .f64 r m Uw hd hw,.inl rfl, ?_, ?_⟩
  ·rintro rfl
   exact pV hx
  intro s' x' f' h
  have:=fX h;rw[hw]at this;injection this
 | true =>
 cases hq:FloatKind.decode .f32 r with
 | number a b c =>
  have h':Ieee.single.read r=.number a b c:=hq;rw[h']at hn;cases hn
 | infinity a =>
  have h':Ieee.single.read r=.infinity a:=hq;rw[h']at hn;cases hn
 | nan a b =>
 refine⟨(Question.nanConv .f64 r).cut (w.tape w.drawn (Question.nanConv .f64 r)),w.drew, ?_,.inr rfl, ?_, ?_⟩
 ·simp[convert,run_underlying hs,run_underlying hd,Conv.floatToFloat,hq,Question.forced]
 ·intro h
  exfalso
  have km:isNaN ((Question.nanConv .f64 r).cut (w.tape w.drawn (Question.nanConv .f64 r)))=true:=by
   rw[lu];show(_%2*2 ^ 63+0x7ff0000000000000+1+_/2%(2 ^ 52-1))/2 ^ 52%2048=2047∧_
   generalize w.tape w.drawn (Question.nanConv .f64 r)=t
   show(t%2*2 ^ 63+0x7ff0000000000000+1+t/2%(2 ^ 52-1))/2 ^ 52%2048=2047∧(t%2*2 ^ 63+0x7ff0000000000000+1+t/2%(2 ^ 52-1))%2 ^ 52≠0
   generalize t/2=u
   have:t%2=0∨t%2=1:=by omega
   rcases this with h | h <;> rw[h] <;> simp only[Nat.reducePow,Nat.reduceSub,Nat.reduceMul,Nat.reduceAdd,Nat.zero_add] <;> omega
  rw[h,hN]at km
  cases km
 intro s x f h
 have:=bG h;have h':Ieee.single.read r=.nan a b:=hq;rw[h']at this
 split at this
 ·cases this
 split at this <;> cases this
theorem Fresh.step_ {w w1 w2:World}{l:List UInt8}{r:Value}(hb:Below w.heap.size w w1) (h:Fresh w1 l r w2):Fresh w l r w2:=⟨h.own.more hb.size,hb.trans (h.2.mono hb.size)⟩
theorem gz {n:Nat}(hn:n<18446744073709551616) (h:yr n 8 23=none):yr n 5 10=none:=by
 cases h5:yr n 5 10 with
 | none=>rfl
 | some v =>
 obtain⟨s,x,f,a1,a2,a3,a4,a5⟩:=uB hn h5
 have done:∀ {x' f':Nat},rd n (s*2147483648+x'*8388608+f') s x' f'→False:=fun hx=>by
  rw[pV hx]at h
  cases h
 rcases a5 with ⟨c1,c2,c3⟩ | ⟨c1,c2,c3⟩ | ⟨c1,c2,c3⟩ | ⟨c1,t,full,c2,c3,c4,c5,c6,c7⟩
 ·exact(done (x':=255) (f':=0) ⟨a1,rfl,by omega,by omega,.inl ⟨rfl,rfl,c3⟩⟩).elim
 ·exact(done (x':=0) (f':=0) ⟨a1,rfl,by omega,by omega,.inr (.inl ⟨rfl,rfl,c3⟩)⟩).elim
 ·have C3:n=s*9223372036854775808+(x+112+896)*4503599627370496+f*8192*536870912:=by
   rw[c3,Nat.mul_assoc f 8192,Nat.add_assoc x 112]
  have C:=Hh C3;clear c3 C3;have g1:f*8192<8388608:=by omega
  have g2:x+112≤255:=by omega
  have g3:1≤x+112:=by omega
  have g4:x+112≤254:=by omega
  exact(done (x':=x+112) (f':=f*8192) ⟨a1,rfl,g1,g2,.inr (.inr (.inl ⟨g3,g4,C.out⟩))⟩).elim
 have C:=Hh c7;clear c7
 have e1:full=f*2 ^ (23-t)*536870912:=by
  rw[c5,Nat.mul_assoc,show(536870912:Nat)=2 ^ 29 from rfl,← Nat.pow_add,show 23-t+29=52-t by omega]
 have e2:2 ^ (t+1)*2 ^ (52-t)=9007199254740992:=by
  rw[← Nat.pow_add,show t+1+(52-t)=53 by omega]
 have b2:=Nat.mul_lt_mul_of_pos_right c4 (Nat.two_pow_pos (52-t));rw[e2,← c5]at b2;obtain⟨q,hq⟩:∃ q,f*2 ^ (23-t)=q:=⟨_,rfl⟩
 rw[hq]at e1;have g0:8388608≤q∧q<16777216:=by clear a2;omega
 have g5:full-4503599627370496=(q-8388608)*536870912:=by clear a2;omega
 have g1:q-8388608<8388608:=by omega
 have g2:103+t≤255:=by omega
 have g3:1≤103+t:=by omega
 have g4:103+t≤254:=by omega
 have C3:n=s*9223372036854775808+(103+t+896)*4503599627370496+(q-8388608)*536870912:=by
  rw[C.out,g5,show 103+t+896=999+t by omega]
 exact(done (x':=103+t) (f':=q-8388608) ⟨a1,rfl,g1,g2,.inr (.inr (.inl ⟨g3,g4,C3⟩))⟩).elim
theorem tT (n:Nat) (hn:n<18446744073709551616) (w:World) :
  Calls Tryz.prog 67 #[.int .u64 (n:Int)] w fun e w'=>∃ r,e=.returned r∧Fresh w (zK n) r w':=by
 have r1:=vX n;have r2:=YM n
 cases hN:isNaN n with
 | true =>
  rw[hN]at r2;have E:Hid (zK n=[u8 249,u8 126,u8 0]):=by rw[Hid,zK,if_pos hN]
  clear hN hn;go_enter Tryz.func67,Tryz.ntmps67
  go_wp2_with fail
  go_ret
  refine⟨_,rfl, ?_⟩
  rw[E.out]
  exact Fresh.lit w _ _ 3 rfl (by simp) rfl
 | false =>
 rw[hN]at r2;obtain⟨r,w1,od,oq,hr,hv⟩:=VP n hN w;obtain⟨m,w2,XW,mN,qo,el⟩:=VQ r n hN hr w1
 have hb:Below w.heap.size w w2:=by
  rcases oq with rfl | rfl <;> rcases mN with rfl | rfl
  ·exact Below.refl _ _
  ·exact(Below.refl _ _).drew
  ·exact(Below.refl _ _).drew
  exact(Below.refl _ _).drew.drew
 have r3:=yL m;have r4:=dJ r;have bf:=Hh hN
 cases h2:yr n 8 23 with
 | none =>
  have xH:m≠n:=fun h=>by rw[qo h]at h2;cases h2
  have b1:((m:Int) != (n:Int))=true:=by rw[bne_iff_ne];omega
  have p1:(m=n)=False:=eq_false xH;have E:Hid (zK n=u8 251::be8 n 8):=by rw[Hid,zK,if_neg (by simp[hN]),gz hn h2,h2]
  have WD:=Hh (fun w3:World=>Xu n hn w3);have hO:=OwnB.lit w2 w.heap.size [u8 251] #[.int .u8 251] 1 rfl rfl hb.size (by simp);have yX:=hb.alloc hb.size (.cells #[.int .u8 251] 5);clear qo el hv hN hn h2 xH oq mN hr;go_enter Tryz.func67,Tryz.ntmps67
  go_wp2_with fail
  refine(WD.out _).mono ?_
  rintro e w3 ⟨rr,rfl,hf⟩
  obtain⟨RA,rc,rfl,_⟩:=hf.own.form;have kW:=hO.below hf.2;have uy:=yX.trans (hf.2.mono yX.size);go_wp2_with (at_builtin;refine yf ?_)
  refine zR rfl (.tmp 21) (.tmp 23) rfl w.heap.size _ _ rfl kW RA _ rc (be8 n 8) rfl rfl hf.own.src (by simp[vP]) uy.size fun v' w7 vo hg7 hat7=>?_
  have vJ:=uy.grown hg7 uy.size (fun q hq=>(kW.lt q hq).1);clear hg7 hat7 kW hf;go_wp2_with fail
  go_ret
  exact⟨_,rfl,by rw[E.out];exact⟨vo,vJ⟩⟩
 | some v =>
 obtain⟨s,x,f,hx⟩:=sz hn h2;obtain rfl:=hv s x f v hx;obtain rfl:=el s x f hx;have b1:((m:Int) != (m:Int))=false:=by simp
 have HF:=Tl hx;have HH:=Hh (fun w3:World=>Xs r hr w3)
 cases h5:yr m 5 10 with
 | some q =>
  rw[h5]at HF;rw[HF]at HH;have E:Hid (zK m=[u8 249,u8 (q/256),u8 q]):=by rw[Hid,zK,if_neg (by simp[hN]),h5]
  clear qo el hv hN hn h2 oq mN hr hx HF h5;go_enter Tryz.func67,Tryz.ntmps67
  go_wp2_with fail
  refine(HH.out _).mono ?_
  rintro e w' ⟨⟨hq,rfl,he⟩,rfl⟩
  obtain rfl:=he q rfl;clear he;go_wp2_with fail
  go_ret
  refine⟨_,rfl, ?_⟩
  rw[E.out]
  refine(Fresh.lit w2 _ _ 3 rfl (by simp) ?_).step_ hb
  simp only[List.map_cons,List.map_nil,wb]
  simp
 | none =>
 rw[h5]at HF;rw[HF]at HH;have E:Hid (zK m=[u8 250,u8 (r/16777216),u8 (r/65536),u8 (r/256),u8 r]):=by rw[Hid,zK,if_neg (by simp[hN]),h5,h2]
 clear qo el hv hN hn h2 oq mN hr hx HF h5;go_enter Tryz.func67,Tryz.ntmps67
 go_wp2_with fail
 refine(HH.out _).mono ?_
 rintro e w' ⟨⟨hq,rfl,_⟩,rfl⟩
 go_wp2_with fail
 go_ret
 refine⟨_,rfl, ?_⟩
 rw[E.out]
 refine(Fresh.lit w2 _ _ 5 rfl (by simp) ?_).step_ hb
 simp only[List.map_cons,List.map_nil,wb]
 simp
theorem iu (n:Int) (w:World) (h0:0≤n) (h1:n<18446744073709551616) :
  Calls Tryz.prog 67 #[.int .u64 n] w fun e w'=>∃ r,e=.returned r∧Fresh w (zK n.toNat) r w':=by
 obtain⟨m,rfl⟩:=Int.eq_ofNat_of_zero_le h0;rw[Int.toNat_natCast]
 exact tT m (by omega) w
def U64 (n:Int):Prop:=0≤n∧n<18446744073709551616
def L8 (w:World) (base:Nat) (v:Value) (l:List UInt8) (e:Ending) (w':World):Prop :=
 ∃ r,e=.returned r∧OwnB w' base r l∧w.grownBy w' v.ownBlock∧At0 w v.ownBlock r.ownBlock
def pL (x:Itm):Prop:=∀ (H:Snap) (k n:Int) (ba:Option Addr) (bl bc:Nat) (ia:Option Addr) (il ic:Nat) (w:World) (base:Nat) (v:Value) (l:List UInt8),
 Kinds x→ItemA H k n ba bl bc ia il ic x→Holds w H→OwnB w base v l→base≤w.heap.size→(∀ g,v.ownBlock=some g→H g=none)→l.length+(zZ x).length≤1099511627776→
 Calls Tryz.prog 44 #[v,.agg #[.int .i64 k,.int .u64 n,.slice ba bl bc,.slice ia il ic]] w (L8 w base v (l++zZ x))
theorem Xp (x:Itm) (h8:x.kind=8):pL x:=by
 intro H k n ba bl bc ia il ic w base v l hk hx hH wE tW hv zN
 obtain⟨rfl,rfl,rfl,rfl,hx⟩:=hx;have tr:=hx.bounds;have E:Hid (zZ x=zK x.n):=by rw[Hid,xh,if_pos h8]
 rw[E.out]at zN;have HL:=Hh zN;have HB:=Hh tr;have HV:=Hh hv;clear zN tr hv;go_enter Tryz.func44,Tryz.ntmps44
 go_wp2_with (first
  | (go_at_call 67;refine(iu _ _ (by omega) (by have:=HB.out;omega)).mono ?_;rintro e w1 ⟨r,rfl,hf⟩;obtain⟨A,c,rfl,_,_,Yp⟩:=hf.own.form)
  | (at_builtin;refine zR rfl (.tmp 11) (.tmp 14) rfl base v l rfl ((wE.alloc _).below hf.2) A _ c (zK x.n) rfl (by simp) (by simpa using Yp) HL.out (by have:=hf.2.size;simp at this;omega) ?_;intro v' w2 hown' hg hat))
 go_ret
 refine⟨v',rfl,by rw[E.out];exact hown', ?_, ?_⟩
 ·exact yk (wO ((zi w _).trans (hf.2.mono (by simp))) _) hg (.inl rfl)
 exact At0.step (.inl rfl) (by have:=hf.2.size;simp at this;omega) hat
theorem Zt (x:Itm) (h7:x.kind=7) (te:24≤x.n):pL x:=by
 intro H k n ba bl bc ia il ic w base v l hk hx hH wE tW hv zN
 obtain⟨rfl,rfl,rfl,rfl,hx⟩:=hx;have tr:=hx.bounds;have E:Hid (zZ x=[u8 248,u8 x.n]):=by rw[Hid,xh,if_neg (by omega),if_pos ⟨h7,te⟩]
 rw[E.out]at zN;have HL:=Hh zN;have HB:=Hh tr;have HV:=Hh hv;have GT:(24:Int)≤(x.n:Int):=by omega
 clear zN tr hv te;go_enter Tryz.func44,Tryz.ntmps44
 go_wp2_with (at_builtin;refine zR rfl (.tmp 25) (.tmp 29) rfl base v l rfl ((wE.alloc _).alloc _) _ 2 2 [u8 248,u8 x.n] rfl rfl ?hs HL.out (by simp;omega) ?_)
 case hs=>exact Src.new _ _ _ _ (by simp) _ (by simp[sq])
 intro v' w2 hown' hg hat
 go_wp2
 go_ret
 refine⟨v',rfl,by rw[E.out];exact hown', ?_, ?_⟩
 ·exact yk (wO ((zi w _).alloc (by simp) _) _) hg (.inl rfl)
 exact At0.step (.inl rfl) (by simp;omega) hat
theorem jV {w:World}{g:Nat}{cs:Array Value}{e:TypeId}(h:w.heap[g]? = some (.cells cs e (0,0))) (i:Nat):w.cell? ⟨g,i,none⟩=cs[i]? :=cell_of_row w g i cs e (0,0) h
theorem Vg {w w1 w2 w3:World}{base:Nat}{v:Value}{l:List UInt8}{cs:Array Value}{e:TypeId}(wE:OwnB w base v l)
  (h1:Below (w.alloc (.cells cs e)).heap.size (w.alloc (.cells cs e)) w1) (h2:Below w1.heap.size w1 w2) (h3:w2.grownBy w3 v.ownBlock) :
  w3.heap[w.heap.size]? = some (.cells cs e (0,0))∧w.heap.size+1≤w3.heap.size:=by
 have s1:=h1.size;have s2:=h2.size;have s3:=h3.size
 simp at s1
 refine⟨?_,by omega⟩
 rw[h3.block _ (by omega) (fun h=>by have:=(wE.lt _ h.symm).2;omega),h2.block _ (by omega),h1.block _ (by simp)]
 exact heap_alloc_new w _
theorem VK (x:Itm) (h8:¬ x.kind=8) (h7:¬ (x.kind=7∧24≤x.n)) (ih:∀ y:Itm,cnt y<cnt x→pL y):pL x:=by
 intro H k n ba bl bc ia il ic w base v l hk hx hH wE tW hv zN
 obtain⟨rfl,rfl,rfl,rfl,hx⟩:=hx;have tr:=hx.bounds;have E:Hid (zZ x=zh x.kind.toNat (numP x)++x.bytes++yx x.items):=by rw[Hid,xh,if_neg h8,if_neg h7]
 rw[E.out]at zN;have cL:=hk.kind;have GP:x.kind<8:=by omega
 have b8:(x.kind==8)=false:=by simp[h8]
 have Q0:(numP x:Int)<18446744073709551616:=by
  unfold numP
  repeat' split
  all_goals omega
 have HN:U64 (numP x):=⟨by omega,Q0⟩
 clear Q0;have PY:x.kind=7→(x.n:Int)<24:=fun h=>by have:¬ 24≤x.n:=fun h'=>h7 ⟨h,h'⟩;omega
 have HL:=Hh zN;have HB:=Hh tr;have HV:=Hh hv;clear zN tr hv h8 h7
 have O7:((x.kind==7)=true∧(x.n:Int)<24)∨(x.kind==7)=false:=by
  by_cases Zh:x.kind=7
  ·exact .inl ⟨by simp[Zh],PY Zh⟩
  exact .inr (by simp[Zh])
 clear PY;have G:Hid (w.grownBy w none):=yu w none
 rcases O7 with ⟨b7,hn⟩ | b7
 all_goals
  go_enter Tryz.func44,Tryz.ntmps44
  go_wp2_with fail
  refine(iw hx.arg _ (by omega) (by omega)).mono ?_
  rintro e w1 ⟨rfl,hm⟩
  go_wp2_with fail
  refine(sG _ _ _ (by omega) (by omega) (by omega) HN.2).mono ?_
  rintro e w2 ⟨r,rfl,hf⟩
  obtain⟨A,c,rfl,_,_,Yp⟩:=hf.own.form;have vC:w.heap.size+1≤w1.heap.size:=by have h1:=hm.size;simp at h1;omega
  have ey:w.heap.size+1≤w2.heap.size:=by have h1:=hm.size;have h2:=hf.2.size;simp at h1;omega
  go_wp2_with (at_builtin;refine yf ?_)
  refine zR rfl (.tmp 31) (.tmp 36) rfl base v l rfl (((wE.alloc _).below hm).below hf.2) A _ c (zh x.kind.toNat (numP x)) rfl (by simp) (by simpa using Yp) (by have:=HL.out;simp at this⊢;omega) (by omega) ?_
  intro v3 w3 hown3 Ur hat3
  obtain⟨UP,J8⟩:=Vg wE hm hf.2 Ur;have XW:=jV UP 2;have Kc:=jV UP 3
  simp at XW Kc
  have TP:Holds w3 H:=(((hH.alloc _).below hm (Nat.le_refl _)).below hf.2 (Nat.le_refl _)).grown Ur HV.out;have Ob:=Src.of_row hx.bytes.row TP;have yQ:w.grownBy w3 v.ownBlock:=yk (wO (((zi w _).trans (hm.mono (by simp))).trans (hf.2.mono (by omega))) _) Ur (.inl rfl);go_wp2_with (at_builtin;refine yf ?_)
  refine zR rfl (.tmp 38) (.tmp 40) rfl base v3 _ rfl hown3 ba _ bc x.bytes rfl rfl Ob (by have:=HL.out;simp at this⊢;omega) (by omega) ?_
  intro v4 w4 jv tL hat4
  have Fw:Holds w4 H:=TP.grown tL (fun g hg=>by
   rcases hat3 with h | ⟨g',h,hg'⟩
   ·exact HV.out g (h ▸ hg)
   rw[h]at hg;injection hg with hg;subst hg;exact hH.none_of_ge (by omega))
  have Wl:At0 w v.ownBlock v3.ownBlock:=At0.step (.inl rfl) (by omega) hat3;have wh:w.grownBy w4 v.ownBlock:=yk yQ tL Wl
  have PG:w4.heap[w.heap.size]? = some (.cells #[.int .i64 x.kind,.int .u64 x.n,.slice ba x.bytes.length bc,.slice ia x.items.length ic] 57 (0,0)) :=
   (tL.block _ (by omega) (fun h=>by
    rcases Wl with h' | ⟨g',h',hg'⟩
    ·rw[h']at h;have:=(wE.lt _ h.symm).2;omega
    rw[h']at h;injection h with h;subst h
    rcases hat3 with h3 | ⟨g3,h3,hg3'⟩
    ·rw[h3]at h';have:=(wE.lt _ h').2;omega
    rw[h']at h3;injection h3 with h3;omega)).trans UP
  have LW:=jV PG 3
  simp at LW
  have OV:At0 w v.ownBlock v4.ownBlock:=At0.step Wl (by omega) hat4;clear XW Kc UP PG;go_wp2_with (at_builtin;refine yf ?_)
  have bp:x.items.length≤9223372036854775807:=by have:=HB.out;omega
  go_loopw [0,45] (fun v' i wr=>∃ k:Nat,k≤x.items.length∧i=.int .i64 k∧OwnB wr base v' (l++zh x.kind.toNat (numP x)++x.bytes++yx (x.items.take k))∧
    w.grownBy wr v.ownBlock∧At0 w v.ownBlock v'.ownBlock) (fun _ i _=>x.items.length-(intOf i).toNat)
  case atStart=>exact⟨0,Nat.zero_le _,rfl,by simpa [yx] using jv,wh,OV⟩
  case round =>
  obtain⟨k,sZ,rfl,Zb,xM,kA⟩:=hrel
  by_cases ye:k<x.items.length
  ·have Ul:Holds wr H:=hH.grown xM HV.out;obtain⟨ib,io,rH,vD⟩:=hx.items (by omega);obtain⟨eba,ebc,eia,eic,q0,q1,q2,q3,tA⟩:=vD.get k ye;subst rH;have p0:=Ul.cell q0;have p1:=Ul.cell q1;have p2:=Ul.cell q2;have p3:=Ul.cell q3;have rQ:=uZ x.items k ye;have tC:=qK x.items (k+1)
   have Pa:∀ g,u0.ownBlock=some g→H g=none:=fun g hg=>by
    rcases kA with h | ⟨g',h,hg'⟩
    ·exact HV.out g (h ▸ hg)
    rw[h]at hg;injection hg with hg;subst hg;exact hH.none_of_ge hg'
   have OI:=xM.size
   have pg:(l++zh x.kind.toNat (numP x)++x.bytes++yx (x.items.take k)).length+(zZ x.items[k]).length≤1099511627776:=by
    have h1:=HL.out;rw[rQ]at tC
    simp only[List.length_append]at h1 tC⊢
    omega
   have IHC:=ih x.items[k] (vF x k ye) H _ _ eba _ ebc eia _ eic (wr.alloc (.cells #[.int .i64 x.items[k].kind,.int .u64 x.items[k].n,.slice eba x.items[k].bytes.length ebc,.slice eia x.items[k].items.length eic] 57)) base u0 _
    (hk.items.get k ye) tA.arg (Ul.alloc _) (Zb.alloc _) (by simp;omega) Pa pg
   have IHH:=Hh IHC;have HF:=Hh rQ;clear rQ tC pg Pa q0 q1 q2 q3 IHC;go_wp2_with fail
   refine IHH.out.mono ?_
   rintro e w6 ⟨r6,rfl,TB,tO,PB⟩
   have R:OwnB w6 base r6 (l++zh x.kind.toNat (numP x)++x.bytes++yx (x.items.take (k+1)))∧w.grownBy w6 v.ownBlock∧At0 w v.ownBlock r6.ownBlock:=by
    refine⟨by rw[HF.out];simpa using TB,yk (vv xM _) tO kA,At0.step kA (by simp;omega) PB⟩
   clear TB tO PB Zb xM kA IHH HF p0 p1 p2 p3;go_wp2_with fail
   go_roundw
   case rel=>exact⟨k+1,by omega,by go_num,R.1,R.2.1,R.2.2⟩
   case measure=>simp[intOf];omega
  have cL:k=x.items.length:=by omega
  subst cL;rw[List.take_length]at Zb;go_wp2_with fail
  go_ret
  exact⟨_,rfl,by rw[E.out];simpa using Zb,xM,kA⟩
theorem sk (x:Itm):pL x:=by
 have main:∀ N,∀ x:Itm,cnt x≤N→pL x:=by
  intro N
  induction N with
  | zero =>
   intro x hx
   have:0<cnt x:=by cases x;rw[cnt];omega
   omega
  | succ N ih =>
  intro x hx
  by_cases h8:x.kind=8
  ·exact Xp x h8
  by_cases h7:x.kind=7∧24≤x.n
  ·exact Zt x h7.1 h7.2
  exact VK x h8 h7 fun y hy=>ih y (by omega)
 exact main _ x (Nat.le_refl _)
theorem Of (n:Nat):((n:Int)==9221120237041090560)=(n==9221120237041090560):=by rw[Bool.eq_iff_iff,beq_iff_eq,beq_iff_eq];omega
theorem Lt {α:Type}(l:List α):((l.length:Int)==0)=l.isEmpty:=by cases l <;> simp <;> omega
theorem UZ {a b c d:Bool}(h:a=b) (k:c=d):Ending.returned (.tuple #[.bool a,.bool c])=Ending.returned (.tuple #[.bool b,.bool d]):=by rw[h,k]
theorem U3 {H:Snap}{x:Itm}{ba:Option Addr}{bc:Nat}{ia:Option Addr}{ic:Nat}(hx:IsItem H ba bc ia ic x) (w:World) (hk:x.kind=0∨x.kind=1∨x.kind=2∨x.kind=7):
  Calls Tryz.prog 87 #[xj x ba bc ia ic] w fun e w'=>e=.returned (.tuple #[.bool (yy x),.bool (yo x)])∧Below w.heap.size w w':=by
 obtain⟨_,_,hn,wU,xJ,qn,mJ⟩:=hx.bounds;have hb:x.bytes.length≤9223372036854775807:=by omega
 have hi:x.items.length≤9223372036854775807:=by omega
 have HN:=Hh hn;clear wU xJ qn mJ hx hn
 rcases hk with hk | hk | hk | hk
 all_goals
  have E:Hid (yy x=yy x∧yo x=true):=⟨rfl,by simp[yo,hk]⟩
  go_enter Tryz.func87,Tryz.ntmps87
  go_wp2
  all_goals go_ret2
 all_goals refine⟨UZ ?_ E.out.2.symm, ?_⟩
 all_goals first | exact zi w _ | exact(zi w _).drew | skip
 all_goals (simp[yy,Lt, *];try (rw[Bool.eq_iff_iff];simp;omega);skip)
 all_goals omega
theorem U6 {H:Snap}(hT:Tabs H) {x:Itm}{ba:Option Addr}{bc:Nat}{ia:Option Addr}{ic:Nat}(hx:IsItem H ba bc ia ic x) (w:World) (hH:Holds w H) (hk:x.kind=3):
  Calls Tryz.prog 87 #[xj x ba bc ia ic] w fun e w'=>e=.returned (.tuple #[.bool (yy x),.bool (yo x)])∧Below w.heap.size w w':=by
 obtain⟨_,_,hn,wU,xJ,qn,mJ⟩:=hx.bounds;have hb:x.bytes.length≤9223372036854775807:=by omega
 have hi:x.items.length≤9223372036854775807:=by omega
 have HN:=Hh hn;have gp:=hx.bytes;clear wU xJ qn mJ hx hn;have E:Hid (yo x=true):=by simp[Hid,yo,hk]
 go_enter Tryz.func87,Tryz.ntmps87
 go_wp2_with (go_at_call 83;refine(tE hT _ (hH.alloc _) ba _ _ bc rfl gp).mono ?_;rintro e w1 ⟨rfl,wU⟩)
 all_goals go_ret2
 all_goals refine⟨UZ ?_ E.out.symm, ?_⟩
 all_goals first | exact(zi w _).trans (wU.mono (by simp)) | exact zi w _ | exact(zi w _).drew | skip
 all_goals (simp[yy, *])
theorem U4 {H:Snap}{x:Itm}{ba:Option Addr}{bc:Nat}{ia:Option Addr}{ic:Nat}(hx:IsItem H ba bc ia ic x) (w:World) (hk:x.kind=8) :
  Calls Tryz.prog 87 #[xj x ba bc ia ic] w fun e w'=>e=.returned (.tuple #[.bool (yy x),.bool (yo x)])∧Below w.heap.size w w':=by
 obtain⟨_,_,hn,wU,xJ,qn,mJ⟩:=hx.bounds;have hb:x.bytes.length≤9223372036854775807:=by omega
 have hi:x.items.length≤9223372036854775807:=by omega
 have HN:=Hh hn;clear wU xJ qn mJ hx hn;have E:Hid (yo x=true):=by simp[Hid,yo,hk]
 go_enter Tryz.func87,Tryz.ntmps87
 have r1:=vX x.n;have r2:=gX x.n;go_wp2
 all_goals go_ret2
 all_goals refine⟨UZ ?_ E.out.symm, ?_⟩
 all_goals first | exact zi w _ | exact(zi w _).drew | skip
 all_goals simp[yy,zJ,Of, *]
theorem U5 {x:Itm}{ba:Option Addr}{bc:Nat}{ia:Option Addr}{ic:Nat}(w:World) (hk:yo x=false) :
  Calls Tryz.prog 87 #[xj x ba bc ia ic] w fun e w'=>e=.returned (.tuple #[.bool (yy x),.bool (yo x)])∧Below w.heap.size w w':=by
 have h:(x.kind==0)=false∧(x.kind==1)=false∧(x.kind==2)=false∧(x.kind==3)=false∧(x.kind==7)=false∧(x.kind==8)=false:=by
  simp only[yo,Bool.or_eq_false_iff]at hk
  simp only[hk,and_self]
 obtain⟨h0,h1,h2,h3,h7,h8⟩:=h
 have E:Hid (yo x=false∧yy x=false):=⟨hk,by
  simp only[beq_eq_false_iff_ne,ne_eq]at h0 h1 h2 h3 h7 h8
  simp[yy, *]⟩
 clear hk;go_enter Tryz.func87,Tryz.ntmps87
 go_wp2
 go_ret2
 exact⟨UZ E.out.2.symm E.out.1.symm,zi w _⟩
theorem ng {H:Snap}(hT:Tabs H) {k n:Int}{ba:Option Addr}{bl bc:Nat}{ia:Option Addr}{il ic:Nat}{x:Itm}(hx:ItemA H k n ba bl bc ia il ic x) (w:World) (hH:Holds w H) :
  Calls Tryz.prog 87 #[.agg #[.int .i64 k,.int .u64 n,.slice ba bl bc,.slice ia il ic]] w fun e w'=>e=.returned (.tuple #[.bool (yy x),.bool (yo x)])∧Below w.heap.size w w':=by
 obtain⟨rfl,rfl,rfl,rfl,hx⟩:=hx
 by_cases h3:x.kind=3
 ·exact U6 hT hx w hH h3
 by_cases h8:x.kind=8
 ·exact U4 hx w h8
 by_cases ha:x.kind=0∨x.kind=1∨x.kind=2∨x.kind=7
 ·exact U3 hx w ha
 exact U5 w (by simp[yo];omega)
def tp:Option Nat→Int
 | none => -1
 | some r=>r
def us (x:Itm):Prop:=∀ (H:Snap),Tabs H→∀ (k n:Int) (ba:Option Addr) (bl bc:Nat) (ia:Option Addr) (il ic:Nat) (w:World) (c d:Nat),
 ItemA H k n ba bl bc ia il ic x→Holds w H→c≤65536→d≤65536→
 Calls Tryz.prog 60 #[.agg #[.int .i64 k,.int .u64 n,.slice ba bl bc,.slice ia il ic],.int .i64 c,.int .i64 d] w fun e w'=>e=.returned (.int .i64 (tp (yA x c d)))∧Below w.heap.size w w'
theorem YD (x:Itm) {H:Snap}{ba:Option Addr}{bc:Nat}{ia:Option Addr}{ic:Nat}(w:World) (d:Nat) :
  Calls Tryz.prog 60 #[xj x ba bc ia ic,.int .i64 0,.int .i64 d] w fun e w'=>e=.returned (.int .i64 (tp (yA x 0 d)))∧Below w.heap.size w w':=by
 have E:Hid (yA x 0 d=none):=by rw[Hid,uD,if_pos (by omega)]
 go_enter Tryz.func60,Tryz.ntmps60
 go_wp2_with fail
 go_ret
 exact⟨by rw[E.out];rfl,zi w _⟩
theorem vt {x:Itm}{c d:Nat}(h:yT x d (c-1)=false):yA x c d=none:=by
 rw[uD]
 by_cases h1:c<1
 ·rw[if_pos h1]
 rw[if_neg h1,if_pos h]
theorem mr {x:Itm}{d m:Nat}(hk:x.kind=0∨x.kind=1):yT x d m=true↔x.bytes.length=0∧x.items.length=0:=by
 have hp:=(zE x).2 (by omega)
 unfold yT xr yy
 rw[if_pos hp,if_pos hk]
 simp only[Bool.and_eq_true,List.isEmpty_iff,decide_eq_true_eq,List.length_eq_zero_iff]
 constructor
 ·rintro⟨⟨⟨a,b⟩,_⟩,_⟩;exact⟨a,b⟩
 rintro⟨a,b⟩;exact⟨⟨⟨a,b⟩,by rw[a];simp⟩,by rw[b];simp⟩
theorem ZK {x:Itm}{d m:Nat}(hk:x.kind=2):yT x d m=true↔x.n=0∧x.items.length=0∧x.bytes.length≤4096:=by
 have hp:=(zE x).2 (by omega)
 unfold yT xr yy
 rw[if_pos hp,if_neg (by omega),if_pos hk]
 simp only[Bool.and_eq_true,List.isEmpty_iff,decide_eq_true_eq,List.length_eq_zero_iff,beq_iff_eq]
 constructor
 ·rintro⟨⟨⟨a,b⟩,c⟩,_⟩;exact⟨a,b,c⟩
 rintro⟨a,b,c⟩;exact⟨⟨⟨a,b⟩,c⟩,by rw[b];simp⟩
theorem ZL {x:Itm}{d m:Nat}(hk:x.kind=3):yT x d m=true↔x.n=0∧x.items.length=0∧x.bytes.length≤4096∧Lib.validD x.bytes=true:=by
 have hp:=(zE x).2 (by omega)
 unfold yT xr yy
 rw[if_pos hp,if_neg (by omega),if_neg (by omega),if_pos hk]
 simp only[Bool.and_eq_true,List.isEmpty_iff,decide_eq_true_eq,List.length_eq_zero_iff,beq_iff_eq]
 constructor
 ·rintro⟨⟨⟨⟨a,b⟩,v⟩,c⟩,_⟩;exact⟨a,b,c,v⟩
 rintro⟨a,b,c,v⟩;exact⟨⟨⟨⟨a,b⟩,v⟩,c⟩,by rw[b];simp⟩
theorem ZM {x:Itm}{d m:Nat}(hk:x.kind=7):yT x d m=true↔x.bytes.length=0∧x.items.length=0∧(x.n<24∨(32≤x.n∧x.n<256)):=by
 have hp:=(zE x).2 (by omega)
 unfold yT xr yy
 rw[if_pos hp,if_neg (by omega),if_neg (by omega),if_neg (by omega),if_pos hk]
 simp only[Bool.and_eq_true,Bool.or_eq_true,List.isEmpty_iff,decide_eq_true_eq,List.length_eq_zero_iff,beq_iff_eq]
 constructor
 ·rintro⟨⟨⟨⟨a,b⟩,v⟩,_⟩,_⟩;exact⟨a,b,v⟩
 rintro⟨a,b,v⟩;exact⟨⟨⟨⟨a,b⟩,v⟩,by rw[a];simp⟩,by rw[b];simp⟩
theorem ZN {x:Itm}{d m:Nat}(hk:x.kind=8):yT x d m=true↔x.bytes.length=0∧x.items.length=0∧(isNaN x.n=false∨x.n=zJ):=by
 have hp:=(zE x).2 (by omega)
 unfold yT xr yy
 rw[if_pos hp,if_neg (by omega),if_neg (by omega),if_neg (by omega),if_neg (by omega),if_pos hk]
 simp only[Bool.and_eq_true,Bool.or_eq_true,List.isEmpty_iff,decide_eq_true_eq,List.length_eq_zero_iff,beq_iff_eq,Bool.not_eq_true']
 constructor
 ·rintro⟨⟨⟨⟨a,b⟩,v⟩,_⟩,_⟩;exact⟨a,b,v⟩
 rintro⟨a,b,v⟩;exact⟨⟨⟨⟨a,b⟩,v⟩,by rw[a];simp⟩,by rw[b];simp⟩
theorem vY {x:Itm}{d m:Nat}(hk:4≤x.kind∧x.kind≤6):yT x d m=true↔d<8∧x.bytes.length=0∧(x.kind=6→x.items.length=1)∧(x.kind≠6→x.n=0)∧(x.kind=5→x.items.length%2=0)∧x.items.length≤m:=by
 have hp:¬ yo x=true:=by rw[zE];omega
 unfold yT xr vx
 rw[if_neg hp]
 simp only[Bool.and_eq_true,decide_eq_true_eq]
 constructor
 ·rintro⟨⟨⟨_,_,a,b,c,d,e⟩,_⟩,f⟩;exact⟨a,b,c,d,e,f⟩
 rintro⟨a,b,c,d,e,f⟩;exact⟨⟨⟨hk.1,hk.2,a,b,c,d,e⟩,by omega⟩,f⟩
theorem YL {x:Itm}{d m:Nat}(hk:x.kind<0∨8<x.kind):yT x d m=false:=by
 cases h:yT x d m with
 | false=>rfl
 | true =>
 have:=rW (jG h).1
 omega
theorem uU {x:Itm}{c d:Nat}(hc:0<c) (h:yT x d (c-1)=true) (h0:x.items.length=0):yA x c d=some (c-1):=by
 rw[List.length_eq_zero_iff]at h0;rw[uD,if_neg (by omega),if_neg (by simp[h]),h0,wd]
 simp only
 rw[if_neg (by rintro⟨_,h⟩;cases h)]
theorem Tm (x:Itm) (hk:x.kind=0) {H:Snap}(hT:Tabs H) (ih:∀ y:Itm,cnt y<cnt x→us y) {ba:Option Addr}{bc:Nat}{ia:Option Addr}{ic:Nat}(hx:IsItem H ba bc ia ic x) (w:World) (hH:Holds w H) (c d:Nat) (ln:0<c) (hc:c≤65536) (hd:d≤65536) :
  Calls Tryz.prog 60 #[xj x ba bc ia ic,.int .i64 c,.int .i64 d] w fun e w'=>e=.returned (.int .i64 (tp (yA x c d)))∧Below w.heap.size w w':=by
 have HX:=Hh hx;have tr:=hx.bounds;have hB:=Blk.new w 57 #[.int .i64 x.kind,.int .u64 x.n,.slice ba x.bytes.length bc,.slice ia x.items.length ic];have vL:=zi w (zS x ba bc ia ic);have od:((c-1:Nat):Int)=(c:Int)-1:=by omega
 have nT:x.bytes.length≤9223372036854775807:=by omega
 have bp:x.items.length≤9223372036854775807:=by omega
 have HN:=Hh tr.2.2.1;have VB:¬ (c:Int)<1:=by omega
 have k0:¬ x.kind<0:=by omega
 have k8:¬ 8<x.kind:=by omega
 have HK:=Hh hk;have ku:=Hh od;clear hx tr od;obtain⟨b0,b1,b2,b3,b4,b5,b6,b7,b8⟩:=WL hk;clear hk
 by_cases zF:x.n=0
 all_goals first | (have bn00:((x.n:Int) != 0)=false:=by simp[zF]) | (have bn00:((x.n:Int) != 0)=true:=by simp[zF])
 all_goals first | (have bn01:(x.n=0)=True:=by first | exact eq_true zF | exact eq_false zF) | (have bn01:(x.n=0)=False:=by first | exact eq_true zF | exact eq_false zF)
 all_goals have pt:=Hh zF
 all_goals clear zF
 all_goals
  go_enter Tryz.func60,Tryz.ntmps60
  go_upto_region 22 with fail
  any_goals
   (have ss:yT x d (c-1)=false:=by
     cases hq:yT x d (c-1) with
     | false=>rfl
     | true=>exact absurd ((mr (.inl HK.out)).1 hq) (by have zF:=pt.out;omega)
    go_ret
    exact⟨by rw[vt ss];rfl,vL⟩)
  all_goals
   have wS:yT x d (c-1)=true:=(mr (.inl HK.out)).2 ⟨by omega,by omega⟩;have uq:x.items.length=0:=by have zF:=pt.out;omega
   have hk:=HK.out;have E:Hid (yA x c d=some (c-1)):=uU ln wS uq;have VG:¬ (0:Int)<x.items.length:=by omega
   have br:¬ (2:Int)<x.items.length:=by omega
   have HI:=Hh uq;have HC:=Hh wS;clear uq hk wS;have c0:=hB.cell 0 rfl;have c3:=hB.cell 3 rfl;go_wp2_with fail
   refine wp_loop_rounds 1 ?_
   rw[rounds_succ];go_wp2_with fail
   refine wp_loop_rounds 1 ?_
   rw[rounds_succ];go_wp2_with fail
   go_ret
   exact⟨by rw[E.out,← ku.out];rfl,vL⟩
theorem Tn (x:Itm) (hk:x.kind=1) {H:Snap}(hT:Tabs H) (ih:∀ y:Itm,cnt y<cnt x→us y) {ba:Option Addr}{bc:Nat}{ia:Option Addr}{ic:Nat}(hx:IsItem H ba bc ia ic x) (w:World) (hH:Holds w H) (c d:Nat) (ln:0<c) (hc:c≤65536) (hd:d≤65536) :
  Calls Tryz.prog 60 #[xj x ba bc ia ic,.int .i64 c,.int .i64 d] w fun e w'=>e=.returned (.int .i64 (tp (yA x c d)))∧Below w.heap.size w w':=by
 have HX:=Hh hx;have tr:=hx.bounds;have hB:=Blk.new w 57 #[.int .i64 x.kind,.int .u64 x.n,.slice ba x.bytes.length bc,.slice ia x.items.length ic];have vL:=zi w (zS x ba bc ia ic);have od:((c-1:Nat):Int)=(c:Int)-1:=by omega
 have nT:x.bytes.length≤9223372036854775807:=by omega
 have bp:x.items.length≤9223372036854775807:=by omega
 have HN:=Hh tr.2.2.1;have VB:¬ (c:Int)<1:=by omega
 have k0:¬ x.kind<0:=by omega
 have k8:¬ 8<x.kind:=by omega
 have HK:=Hh hk;have ku:=Hh od;clear hx tr od;obtain⟨b0,b1,b2,b3,b4,b5,b6,b7,b8⟩:=WM hk;clear hk
 by_cases zF:x.n=0
 all_goals first | (have bn00:((x.n:Int) != 0)=false:=by simp[zF]) | (have bn00:((x.n:Int) != 0)=true:=by simp[zF])
 all_goals first | (have bn01:(x.n=0)=True:=by first | exact eq_true zF | exact eq_false zF) | (have bn01:(x.n=0)=False:=by first | exact eq_true zF | exact eq_false zF)
 all_goals have pt:=Hh zF
 all_goals clear zF
 all_goals
  go_enter Tryz.func60,Tryz.ntmps60
  go_upto_region 22 with fail
  any_goals
   (have ss:yT x d (c-1)=false:=by
     cases hq:yT x d (c-1) with
     | false=>rfl
     | true=>exact absurd ((mr (.inr HK.out)).1 hq) (by have zF:=pt.out;omega)
    go_ret
    exact⟨by rw[vt ss];rfl,vL⟩)
  all_goals
   have wS:yT x d (c-1)=true:=(mr (.inr HK.out)).2 ⟨by omega,by omega⟩;have uq:x.items.length=0:=by have zF:=pt.out;omega
   have hk:=HK.out;have E:Hid (yA x c d=some (c-1)):=uU ln wS uq;have VG:¬ (0:Int)<x.items.length:=by omega
   have br:¬ (2:Int)<x.items.length:=by omega
   have HI:=Hh uq;have HC:=Hh wS;clear uq hk wS;have c0:=hB.cell 0 rfl;have c3:=hB.cell 3 rfl;go_wp2_with fail
   refine wp_loop_rounds 1 ?_
   rw[rounds_succ];go_wp2_with fail
   refine wp_loop_rounds 1 ?_
   rw[rounds_succ];go_wp2_with fail
   go_ret
   exact⟨by rw[E.out,← ku.out];rfl,vL⟩
theorem Tp (x:Itm) (hk:x.kind=2) {H:Snap}(hT:Tabs H) (ih:∀ y:Itm,cnt y<cnt x→us y) {ba:Option Addr}{bc:Nat}{ia:Option Addr}{ic:Nat}(hx:IsItem H ba bc ia ic x) (w:World) (hH:Holds w H) (c d:Nat) (ln:0<c) (hc:c≤65536) (hd:d≤65536) :
  Calls Tryz.prog 60 #[xj x ba bc ia ic,.int .i64 c,.int .i64 d] w fun e w'=>e=.returned (.int .i64 (tp (yA x c d)))∧Below w.heap.size w w':=by
 have HX:=Hh hx;have tr:=hx.bounds;have hB:=Blk.new w 57 #[.int .i64 x.kind,.int .u64 x.n,.slice ba x.bytes.length bc,.slice ia x.items.length ic];have vL:=zi w (zS x ba bc ia ic);have od:((c-1:Nat):Int)=(c:Int)-1:=by omega
 have nT:x.bytes.length≤9223372036854775807:=by omega
 have bp:x.items.length≤9223372036854775807:=by omega
 have HN:=Hh tr.2.2.1;have VB:¬ (c:Int)<1:=by omega
 have k0:¬ x.kind<0:=by omega
 have k8:¬ 8<x.kind:=by omega
 have HK:=Hh hk;have ku:=Hh od;clear hx tr od;obtain⟨b0,b1,b2,b3,b4,b5,b6,b7,b8⟩:=WN hk;clear hk
 by_cases zF:x.n=0
 all_goals first | (have bn00:((x.n:Int) != 0)=false:=by simp[zF]) | (have bn00:((x.n:Int) != 0)=true:=by simp[zF])
 all_goals first | (have bn01:(x.n=0)=True:=by first | exact eq_true zF | exact eq_false zF) | (have bn01:(x.n=0)=False:=by first | exact eq_true zF | exact eq_false zF)
 all_goals have pt:=Hh zF
 all_goals clear zF
 all_goals
  go_enter Tryz.func60,Tryz.ntmps60
  go_upto_region 22 with fail
  any_goals
   (have ss:yT x d (c-1)=false:=by
     cases hq:yT x d (c-1) with
     | false=>rfl
     | true=>exact absurd ((ZK HK.out).1 hq) (by have zF:=pt.out;omega)
    go_ret
    exact⟨by rw[vt ss];rfl,vL⟩)
  all_goals
   have wS:yT x d (c-1)=true:=(ZK HK.out).2 ⟨pt.out,by omega,by omega⟩;have uq:x.items.length=0:=by have zF:=pt.out;omega
   have hk:=HK.out;have E:Hid (yA x c d=some (c-1)):=uU ln wS uq;have VG:¬ (0:Int)<x.items.length:=by omega
   have br:¬ (2:Int)<x.items.length:=by omega
   have HI:=Hh uq;have HC:=Hh wS;clear uq hk wS;have c0:=hB.cell 0 rfl;have c3:=hB.cell 3 rfl;go_wp2_with fail
   refine wp_loop_rounds 1 ?_
   rw[rounds_succ];go_wp2_with fail
   refine wp_loop_rounds 1 ?_
   rw[rounds_succ];go_wp2_with fail
   go_ret
   exact⟨by rw[E.out,← ku.out];rfl,vL⟩
theorem Tu (x:Itm) (hk:x.kind=7) {H:Snap}(hT:Tabs H) (ih:∀ y:Itm,cnt y<cnt x→us y) {ba:Option Addr}{bc:Nat}{ia:Option Addr}{ic:Nat}(hx:IsItem H ba bc ia ic x) (w:World) (hH:Holds w H) (c d:Nat) (ln:0<c) (hc:c≤65536) (hd:d≤65536) :
  Calls Tryz.prog 60 #[xj x ba bc ia ic,.int .i64 c,.int .i64 d] w fun e w'=>e=.returned (.int .i64 (tp (yA x c d)))∧Below w.heap.size w w':=by
 have HX:=Hh hx;have tr:=hx.bounds;have hB:=Blk.new w 57 #[.int .i64 x.kind,.int .u64 x.n,.slice ba x.bytes.length bc,.slice ia x.items.length ic];have vL:=zi w (zS x ba bc ia ic);have od:((c-1:Nat):Int)=(c:Int)-1:=by omega
 have nT:x.bytes.length≤9223372036854775807:=by omega
 have bp:x.items.length≤9223372036854775807:=by omega
 have HN:=Hh tr.2.2.1;have VB:¬ (c:Int)<1:=by omega
 have k0:¬ x.kind<0:=by omega
 have k8:¬ 8<x.kind:=by omega
 have HK:=Hh hk;have ku:=Hh od;clear hx tr od;obtain⟨b0,b1,b2,b3,b4,b5,b6,b7,b8⟩:=WT hk;clear hk
 by_cases zF:x.n=0
 all_goals first | (have bn00:((x.n:Int) != 0)=false:=by simp[zF]) | (have bn00:((x.n:Int) != 0)=true:=by simp[zF])
 all_goals first | (have bn01:(x.n=0)=True:=by first | exact eq_true zF | exact eq_false zF) | (have bn01:(x.n=0)=False:=by first | exact eq_true zF | exact eq_false zF)
 all_goals have pt:=Hh zF
 all_goals clear zF
 all_goals
  go_enter Tryz.func60,Tryz.ntmps60
  go_upto_region 22 with fail
  any_goals
   (have ss:yT x d (c-1)=false:=by
     cases hq:yT x d (c-1) with
     | false=>rfl
     | true=>exact absurd ((ZM HK.out).1 hq) (by have zF:=pt.out;omega)
    go_ret
    exact⟨by rw[vt ss];rfl,vL⟩)
  all_goals
   have wS:yT x d (c-1)=true:=(ZM HK.out).2 ⟨by omega,by omega,by have zF:=pt.out;omega⟩;have uq:x.items.length=0:=by have zF:=pt.out;omega
   have hk:=HK.out;have E:Hid (yA x c d=some (c-1)):=uU ln wS uq;have VG:¬ (0:Int)<x.items.length:=by omega
   have br:¬ (2:Int)<x.items.length:=by omega
   have HI:=Hh uq;have HC:=Hh wS;clear uq hk wS;have c0:=hB.cell 0 rfl;have c3:=hB.cell 3 rfl;go_wp2_with fail
   refine wp_loop_rounds 1 ?_
   rw[rounds_succ];go_wp2_with fail
   refine wp_loop_rounds 1 ?_
   rw[rounds_succ];go_wp2_with fail
   go_ret
   exact⟨by rw[E.out,← ku.out];rfl,vL⟩
theorem Tr (x:Itm) (hk:x.kind=4) {H:Snap}(hT:Tabs H) (ih:∀ y:Itm,cnt y<cnt x→us y) {ba:Option Addr}{bc:Nat}{ia:Option Addr}{ic:Nat}(hx:IsItem H ba bc ia ic x) (w:World) (hH:Holds w H) (c d:Nat) (ln:0<c) (hc:c≤65536) (hd:d≤65536) :
  Calls Tryz.prog 60 #[xj x ba bc ia ic,.int .i64 c,.int .i64 d] w fun e w'=>e=.returned (.int .i64 (tp (yA x c d)))∧Below w.heap.size w w':=by
 have HX:=Hh hx;have tr:=hx.bounds;have hB:=Blk.new w 57 #[.int .i64 x.kind,.int .u64 x.n,.slice ba x.bytes.length bc,.slice ia x.items.length ic];have vL:=zi w (zS x ba bc ia ic);have od:((c-1:Nat):Int)=(c:Int)-1:=by omega
 have nT:x.bytes.length≤9223372036854775807:=by omega
 have bp:x.items.length≤9223372036854775807:=by omega
 have HN:=Hh tr.2.2.1;have VB:¬ (c:Int)<1:=by omega
 have k0:¬ x.kind<0:=by omega
 have k8:¬ 8<x.kind:=by omega
 have HK:=Hh hk;have ku:=Hh od;clear hx tr od;obtain⟨b0,b1,b2,b3,b4,b5,b6,b7,b8⟩:=WP hk;clear hk
 by_cases zF:x.n=0
 all_goals first | have bn00:((x.n:Int) != 0)=false:=by(simp[zF];done) | have bn00:((x.n:Int) != 0)=true:=by simp[zF]
 all_goals first | have bn01:(x.n=0)=True:=eq_true zF | have bn01:(x.n=0)=False:=eq_false zF
 all_goals have pt:=Hh zF
 all_goals clear zF
 all_goals
  by_cases uP:0<x.items.length
  ·have bpos0:(0:Int)<x.items.length:=by omega
   have nI:=Hh uP;clear uP;go_enter Tryz.func60,Tryz.ntmps60
   go_upto_region 22 with fail
   any_goals
    (have ss:yT x d (c-1)=false:=by
      cases hq:yT x d (c-1) with
      | false=>rfl
      | true=>exact absurd ((vY (by have:=HK.out;omega)).1 hq) (by have zF:=pt.out;have uP:=nI.out;have hk:=HK.out;omega)
     go_ret
     exact⟨by rw[vt ss];rfl,vL⟩)
   all_goals
    have HG:Hid (yT x d (c-1)=true):=(vY (by have:=HK.out;omega)).2 ⟨by omega,by omega,fun h=>by have:=HK.out;omega,fun _=>pt.out,fun h=>by have:=HK.out;omega,by omega⟩;have c0:=hB.cell 0 rfl;have c3:=hB.cell 3 rfl;go_wp2_with fail
    have ed:=hB;have yX:=vL;go_loopw [1,157] (fun v1 v157 wr=>∃ (j r:Nat),j≤x.items.length∧r≤c∧v157=.int .i64 j∧v1=.int .i64 r∧wd (x.items.drop j) r (d+1)=wd x.items (c-1) (d+1)∧Below w.heap.size w wr∧Blk wr w.heap.size 57 #[.int .i64 x.kind,.int .u64 x.n,.slice ba x.bytes.length bc,.slice ia x.items.length ic]) (fun _ v157 _=>x.items.length-(intOf v157).toNat)
    case atStart=>exact⟨0,c-1,Nat.zero_le _,by omega,rfl,by rw[ku.out],rfl,yX,ed⟩
    case round =>
    obtain⟨j,r,hj,Qt,rfl,rfl,Xb,xP,iV⟩:=hrel;have XN:=Hh Xb;clear Xb
    by_cases ye:j<x.items.length
    ·have wF:Holds wr H:=hH.below xP (Nat.le_refl _);obtain⟨ib,io,rH,vD⟩:=HX.out.items (by omega);obtain⟨eba,ebc,eia,eic,q0,q1,q2,q3,tA⟩:=vD.get j ye;subst rH;have p0:=wF.cell q0;have p1:=wF.cell q1;have p2:=wF.cell q2;have p3:=wF.cell q3;have rj:wd (x.items.drop j) r (d+1)=match yA x.items[j] r (d+1) with | none=>none | some r'=>wd (x.items.drop (j+1)) r' (d+1):=by rw[List.drop_eq_getElem_cons ye,wd];cases yA x.items[j] r (d+1) <;> rfl
     have pQ:=Hh (rj.symm.trans XN.out);clear rj;have IHC:=ih x.items[j] (vF x j ye) H hT _ _ eba _ ebc eia _ eic (wr.alloc (zS x.items[j] eba ebc eia eic)) r (d+1) tA.arg (wF.alloc _) (by omega) (by omega);rw[show((d+1:Nat):Int)=(d:Int)+1 by omega]at IHC;have IHH:=Hh IHC;have ta:=xP.alloc xP.size (zS x.items[j] eba ebc eia eic);have sb:=iV.alloc (zS x.items[j] eba ebc eia eic);clear IHC q0 q1 q2 q3
     cases hq:yA x.items[j] r (d+1) with
     | none =>
      rw[hq]at IHH pQ;have E:Hid (yA x c d=none):=by rw[Hid,uD,if_neg (by omega),if_neg (by simp[HG.out]),← pQ.out]
      clear hq pQ;go_wp2_with fail
      refine IHH.out.mono ?_
      rintro e w6 ⟨rfl,tf⟩
      have vJ:=ta.trans (tf.mono ta.size)
      simp only[tp]
      go_wp2_with fail
      go_ret
      exact⟨by rw[E.out];rfl,vJ⟩
     | some r' =>
     rw[hq]at IHH pQ;have QQ:=(sI _ _ _ _ hq).2.2;have XK:Hid (wd (x.items.drop (j+1)) r' (d+1)=wd x.items (c-1) (d+1)):=pQ.out;clear hq pQ;have NH:(0:Int)≤(r':Int):=by omega
     have XI:r'≤c:=by omega
     go_wp2_with fail
     refine IHH.out.mono ?_
     rintro e w6 ⟨rfl,tf⟩
     have vJ:=ta.trans (tf.mono ta.size);have nP:=sb.below tf
     simp only[tp]
     clear xP iV ta sb tf IHH p0 p1 p2 p3 QQ wF;go_wp2_with fail
     go_roundw
     case rel=>exact⟨j+1,r',by omega,XI,by go_num,rfl,XK.out,vJ,nP⟩
     case measure=>simp[intOf];omega
    have gu:j=x.items.length:=by omega
    subst gu;have uJ:wd x.items (c-1) (d+1)=some r:=by rw[← XN.out,List.drop_length,wd]
    have bH:=Hh uJ;clear uJ XN
    have E:Hid (yA x c d=some r):=by
     rw[Hid,uD,if_neg (by omega),if_neg (by simp[HG.out]),bH.out]
     simp only
     rw[if_neg (by rintro⟨h5,_⟩;rw[h5]at b5;cases b5)]
    have c0:=iV.cell 0 rfl;go_wp2_with fail
    refine wp_loop_rounds 1 ?_
    rw[rounds_succ];go_wp2_with fail
    go_ret
    exact⟨by rw[E.out];rfl,xP⟩
  have bpos0:¬ (0:Int)<x.items.length:=by omega
  have nI:=Hh uP;clear uP;go_enter Tryz.func60,Tryz.ntmps60
  go_upto_region 22 with fail
  any_goals
   (have ss:yT x d (c-1)=false:=by
     cases hq:yT x d (c-1) with
     | false=>rfl
     | true=>exact absurd ((vY (by have:=HK.out;omega)).1 hq) (by have zF:=pt.out;have uP:=nI.out;have hk:=HK.out;omega)
    go_ret
    exact⟨by rw[vt ss];rfl,vL⟩)
  all_goals
   have wS:yT x d (c-1)=true:=(vY (by have:=HK.out;omega)).2 ⟨by omega,by omega,fun h=>by have:=HK.out;omega,fun _=>pt.out,fun h=>by have:=HK.out;omega,by omega⟩;have uq:x.items.length=0:=by have zF:=pt.out;have uP:=nI.out;have hk:=HK.out;omega
   have hk:=HK.out;have E:Hid (yA x c d=some (c-1)):=uU ln wS uq;have VG:¬ (0:Int)<x.items.length:=by omega
   have br:¬ (2:Int)<x.items.length:=by omega
   have HI:=Hh uq;have HC:=Hh wS;clear uq hk wS;have c0:=hB.cell 0 rfl;have c3:=hB.cell 3 rfl;go_wp2_with fail
   refine wp_loop_rounds 1 ?_
   rw[rounds_succ];go_wp2_with fail
   refine wp_loop_rounds 1 ?_
   rw[rounds_succ];go_wp2_with fail
   go_ret
   exact⟨by rw[E.out,← ku.out];rfl,vL⟩
theorem Tt (x:Itm) (hk:x.kind=6) {H:Snap}(hT:Tabs H) (ih:∀ y:Itm,cnt y<cnt x→us y) {ba:Option Addr}{bc:Nat}{ia:Option Addr}{ic:Nat}(hx:IsItem H ba bc ia ic x) (w:World) (hH:Holds w H) (c d:Nat) (ln:0<c) (hc:c≤65536) (hd:d≤65536) :
  Calls Tryz.prog 60 #[xj x ba bc ia ic,.int .i64 c,.int .i64 d] w fun e w'=>e=.returned (.int .i64 (tp (yA x c d)))∧Below w.heap.size w w':=by
 have HX:=Hh hx;have tr:=hx.bounds;have hB:=Blk.new w 57 #[.int .i64 x.kind,.int .u64 x.n,.slice ba x.bytes.length bc,.slice ia x.items.length ic];have vL:=zi w (zS x ba bc ia ic);have od:((c-1:Nat):Int)=(c:Int)-1:=by omega
 have nT:x.bytes.length≤9223372036854775807:=by omega
 have bp:x.items.length≤9223372036854775807:=by omega
 have HN:=Hh tr.2.2.1;have VB:¬ (c:Int)<1:=by omega
 have k0:¬ x.kind<0:=by omega
 have k8:¬ 8<x.kind:=by omega
 have HK:=Hh hk;have ku:=Hh od;clear hx tr od;obtain⟨b0,b1,b2,b3,b4,b5,b6,b7,b8⟩:=WS hk;clear hk
 by_cases zF:x.n=0
 all_goals first | have bn00:((x.n:Int) != 0)=false:=by(simp[zF];done) | have bn00:((x.n:Int) != 0)=true:=by simp[zF]
 all_goals first | have bn01:(x.n=0)=True:=eq_true zF | have bn01:(x.n=0)=False:=eq_false zF
 all_goals have pt:=Hh zF
 all_goals clear zF
 all_goals by_cases XG:x.items.length=1
 all_goals first | have bone0:((x.items.length:Int) != 1)=false:=by(rw[bne_eq_false_iff_eq];omega) | have bone0:((x.items.length:Int) != 1)=true:=by(rw[bne_iff_ne];omega)
 all_goals have Wr:=Hh XG
 all_goals clear XG
 all_goals
  by_cases uP:0<x.items.length
  ·have bpos0:(0:Int)<x.items.length:=by omega
   have nI:=Hh uP;clear uP;go_enter Tryz.func60,Tryz.ntmps60
   go_upto_region 22 with fail
   any_goals
    (have ss:yT x d (c-1)=false:=by
      cases hq:yT x d (c-1) with
      | false=>rfl
      | true=>exact absurd ((vY (by have:=HK.out;omega)).1 hq) (by have zF:=pt.out;have XG:=Wr.out;have uP:=nI.out;have hk:=HK.out;omega)
     go_ret
     exact⟨by rw[vt ss];rfl,vL⟩)
   all_goals
    have HG:Hid (yT x d (c-1)=true):=(vY (by have:=HK.out;omega)).2 ⟨by omega,by omega,fun h=>Wr.out,fun h=>by have:=HK.out;omega,fun h=>by have:=HK.out;omega,by omega⟩;have c0:=hB.cell 0 rfl;have c3:=hB.cell 3 rfl;go_wp2_with fail
    have ed:=hB;have yX:=vL;go_loopw [1,157] (fun v1 v157 wr=>∃ (j r:Nat),j≤x.items.length∧r≤c∧v157=.int .i64 j∧v1=.int .i64 r∧wd (x.items.drop j) r (d+1)=wd x.items (c-1) (d+1)∧Below w.heap.size w wr∧Blk wr w.heap.size 57 #[.int .i64 x.kind,.int .u64 x.n,.slice ba x.bytes.length bc,.slice ia x.items.length ic]) (fun _ v157 _=>x.items.length-(intOf v157).toNat)
    case atStart=>exact⟨0,c-1,Nat.zero_le _,by omega,rfl,by rw[ku.out],rfl,yX,ed⟩
    case round =>
    obtain⟨j,r,hj,Qt,rfl,rfl,Xb,xP,iV⟩:=hrel;have XN:=Hh Xb;clear Xb
    by_cases ye:j<x.items.length
    ·have wF:Holds wr H:=hH.below xP (Nat.le_refl _);obtain⟨ib,io,rH,vD⟩:=HX.out.items (by omega);obtain⟨eba,ebc,eia,eic,q0,q1,q2,q3,tA⟩:=vD.get j ye;subst rH;have p0:=wF.cell q0;have p1:=wF.cell q1;have p2:=wF.cell q2;have p3:=wF.cell q3;have rj:wd (x.items.drop j) r (d+1)=match yA x.items[j] r (d+1) with | none=>none | some r'=>wd (x.items.drop (j+1)) r' (d+1):=by rw[List.drop_eq_getElem_cons ye,wd];cases yA x.items[j] r (d+1) <;> rfl
     have pQ:=Hh (rj.symm.trans XN.out);clear rj;have IHC:=ih x.items[j] (vF x j ye) H hT _ _ eba _ ebc eia _ eic (wr.alloc (zS x.items[j] eba ebc eia eic)) r (d+1) tA.arg (wF.alloc _) (by omega) (by omega);rw[show((d+1:Nat):Int)=(d:Int)+1 by omega]at IHC;have IHH:=Hh IHC;have ta:=xP.alloc xP.size (zS x.items[j] eba ebc eia eic);have sb:=iV.alloc (zS x.items[j] eba ebc eia eic);clear IHC q0 q1 q2 q3
     cases hq:yA x.items[j] r (d+1) with
     | none =>
      rw[hq]at IHH pQ;have E:Hid (yA x c d=none):=by rw[Hid,uD,if_neg (by omega),if_neg (by simp[HG.out]),← pQ.out]
      clear hq pQ;go_wp2_with fail
      refine IHH.out.mono ?_
      rintro e w6 ⟨rfl,tf⟩
      have vJ:=ta.trans (tf.mono ta.size)
      simp only[tp]
      go_wp2_with fail
      go_ret
      exact⟨by rw[E.out];rfl,vJ⟩
     | some r' =>
     rw[hq]at IHH pQ;have QQ:=(sI _ _ _ _ hq).2.2;have XK:Hid (wd (x.items.drop (j+1)) r' (d+1)=wd x.items (c-1) (d+1)):=pQ.out;clear hq pQ;have NH:(0:Int)≤(r':Int):=by omega
     have XI:r'≤c:=by omega
     go_wp2_with fail
     refine IHH.out.mono ?_
     rintro e w6 ⟨rfl,tf⟩
     have vJ:=ta.trans (tf.mono ta.size);have nP:=sb.below tf
     simp only[tp]
     clear xP iV ta sb tf IHH p0 p1 p2 p3 QQ wF;go_wp2_with fail
     go_roundw
     case rel=>exact⟨j+1,r',by omega,XI,by go_num,rfl,XK.out,vJ,nP⟩
     case measure=>simp[intOf];omega
    have gu:j=x.items.length:=by omega
    subst gu;have uJ:wd x.items (c-1) (d+1)=some r:=by rw[← XN.out,List.drop_length,wd]
    have bH:=Hh uJ;clear uJ XN
    have E:Hid (yA x c d=some r):=by
     rw[Hid,uD,if_neg (by omega),if_neg (by simp[HG.out]),bH.out]
     simp only
     rw[if_neg (by rintro⟨h5,_⟩;rw[h5]at b5;cases b5)]
    have c0:=iV.cell 0 rfl;go_wp2_with fail
    refine wp_loop_rounds 1 ?_
    rw[rounds_succ];go_wp2_with fail
    go_ret
    exact⟨by rw[E.out];rfl,xP⟩
  have bpos0:¬ (0:Int)<x.items.length:=by omega
  have nI:=Hh uP;clear uP;go_enter Tryz.func60,Tryz.ntmps60
  go_upto_region 22 with fail
  any_goals
   (have ss:yT x d (c-1)=false:=by
     cases hq:yT x d (c-1) with
     | false=>rfl
     | true=>exact absurd ((vY (by have:=HK.out;omega)).1 hq) (by have zF:=pt.out;have XG:=Wr.out;have uP:=nI.out;have hk:=HK.out;omega)
    go_ret
    exact⟨by rw[vt ss];rfl,vL⟩)
  all_goals
   have wS:yT x d (c-1)=true:=(vY (by have:=HK.out;omega)).2 ⟨by omega,by omega,fun h=>Wr.out,fun h=>by have:=HK.out;omega,fun h=>by have:=HK.out;omega,by omega⟩;have uq:x.items.length=0:=by have zF:=pt.out;have XG:=Wr.out;have uP:=nI.out;have hk:=HK.out;omega
   have hk:=HK.out;have E:Hid (yA x c d=some (c-1)):=uU ln wS uq;have VG:¬ (0:Int)<x.items.length:=by omega
   have br:¬ (2:Int)<x.items.length:=by omega
   have HI:=Hh uq;have HC:=Hh wS;clear uq hk wS;have c0:=hB.cell 0 rfl;have c3:=hB.cell 3 rfl;go_wp2_with fail
   refine wp_loop_rounds 1 ?_
   rw[rounds_succ];go_wp2_with fail
   refine wp_loop_rounds 1 ?_
   rw[rounds_succ];go_wp2_with fail
   go_ret
   exact⟨by rw[E.out,← ku.out];rfl,vL⟩
end Go.Proofs.YtgcjjhibdbafmabGreatDoor
