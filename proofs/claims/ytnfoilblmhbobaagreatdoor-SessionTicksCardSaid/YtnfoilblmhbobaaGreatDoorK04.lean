/- squeezed. The two readings of header paramet -/
import Derived.Test.YtnfoilblmhbobaaGreatDoorK01
import Derived.Laws.FloatArith
set_option linter.unusedVariables false
set_option linter.unusedSimpArgs false
set_option maxRecDepth 100000
set_option maxHeartbeats 3200000
namespace Go.Proofs.YtnfoilblmhbobaaGreatDoor
open Go.RowKit
def qR (n:Nat):Nat:=if n<24 then n else if n<256 then 24 else if n<65536 then 25 else if n<4294967296 then 26 else 27
def qS (n:Nat):List UInt8:=if n<24 then [] else if n<256 then [u8 n] else if n<65536 then [u8 (n/256),u8 n] else if n<4294967296 then [u8 (n/16777216),u8 (n/65536),u8 (n/256),u8 n] else be8 n 8
theorem tr (m n:Nat):zW m n=u8 (m*32+qR n)::qS n:=by
 unfold zW qR qS
 repeat' split
 all_goals rfl
mutual
def nX:Itm→Prop
 | .mk _ n _ l=>n<18446744073709551616∧vM l
def vM:List Itm→Prop
 | []=>True
 | x::l=>nX x∧vM l
end
def mP (n v s x f:Nat):Prop:=s≤1∧v=s*32768+x*1024+f∧f<1024∧x≤31∧
 ((x=31∧f=0∧n=s*9223372036854775808+9218868437227405312)∨(x=0∧f=0∧n=s*9223372036854775808)∨
  (1≤x∧x≤30∧n=s*9223372036854775808+(x+1008)*4503599627370496+f*4398046511104)∨
  (x=0∧∃ t full,t<10∧2 ^ t≤f∧f<2 ^ (t+1)∧full=f*2 ^ (52-t)∧4503599627370496≤full∧n=s*9223372036854775808+(999+t)*4503599627370496+(full-4503599627370496)))
theorem sC (n v s x f:Nat) (h1:s≤1) (h2:v=s*32768+x*1024+f) (h3:f<1024) (h4:x≤31)
  (h:(x=31∧f=0∧n=s*9223372036854775808+9218868437227405312)∨(x=0∧f=0∧n=s*9223372036854775808)∨
  (1≤x∧x≤30∧n=s*9223372036854775808+(x+1008)*4503599627370496+f*4398046511104)∨
  (x=0∧∃ t full,t<10∧2 ^ t≤f∧f<2 ^ (t+1)∧full=f*2 ^ (52-t)∧4503599627370496≤full∧n=s*9223372036854775808+(999+t)*4503599627370496+(full-4503599627370496))):∃ s x f,mP n v s x f :=
 ⟨s,x,f,h1,h2,h3,h4,h⟩
theorem p9 {n v:Nat}(hn:n<18446744073709551616) (h:zA n 5 10=some v):∃ s x f,mP n v s x f:=by
 obtain⟨ex,cK⟩:∃ ex,n/4503599627370496%2048=ex:=⟨_,rfl⟩
 obtain⟨mx,fK⟩:∃ mx,n%4503599627370496=mx:=⟨_,rfl⟩
 obtain⟨sg,av⟩:∃ sg,n/9223372036854775808=sg:=⟨_,rfl⟩
 have xX:sg≤1:=by omega
 have cT:n=sg*9223372036854775808+ex*4503599627370496+mx:=by omega
 have VW:ex<2048:=by omega
 have n6:mx<4503599627370496:=by omega
 rw[zA]at h
 simp only[Nat.reducePow,Nat.reduceSub,Nat.reduceAdd,Nat.reduceMul,cK,fK,av]at h
 clear cK fK av hn
 split at h
 ·rename_i q1
  split at h
  ·rename_i q2
   injection h with h
   subst q1 q2
   exact sC _ _ _ _ _ xX (by omega) (by omega) (by omega) (.inl (And.intro rfl (And.intro rfl (by omega))))
  cases h
 rename_i c1
 split at h
 ·rename_i q1
  split at h
  ·rename_i q2
   injection h with h
   subst q1 q2
   exact sC _ _ _ 0 0 xX (by omega) (by omega) (by omega) (.inr (.inl (And.intro rfl (And.intro rfl (by rw[cT,Nat.zero_mul];simp only[Nat.add_zero])))))
  cases h
 rename_i c2
 split at h
 ·cases h
 rename_i c3
 split at h
 ·rename_i c4
  split at h
  ·rename_i c5
   injection h with h
   obtain⟨x,hx⟩:∃ x,ex=x+1008:=⟨ex-1008,by omega⟩
   obtain⟨f,hf⟩:∃ f,mx=f*4398046511104:=⟨mx/4398046511104,by omega⟩
   subst hx hf
   exact sC _ _ _ x f xX (by omega) (by omega) (by omega) (.inr (.inr (.inl (And.intro (by omega) (And.intro (by omega) cT)))))
  cases h
 rename_i c4
 split at h
 ·cases h
 rename_i c5
 split at h
 ·rename_i c6
  injection h with h
  obtain⟨t,ht⟩:∃ t,ex=999+t:=⟨ex-999,by omega⟩
  have aw:43+(1023-ex-15)=52-t:=by omega
  rw[aw]at h c6;obtain⟨f,hf⟩:∃ f,(mx+4503599627370496)/2 ^ (52-t)=f:=⟨_,rfl⟩
  have uo:mx+4503599627370496=f*2 ^ (52-t):=by
   rw[← hf,Nat.div_mul_cancel (Nat.dvd_of_mod_eq_zero c6)]
  have nf:0<2 ^ (52-t):=Nat.two_pow_pos _
  have e1:2 ^ t*2 ^ (52-t)=4503599627370496:=by
   rw[← Nat.pow_add,show t+(52-t)=52 by omega]
  have e2:2 ^ (t+1)*2 ^ (52-t)=9007199254740992:=by
   rw[← Nat.pow_add,show t+1+(52-t)=53 by omega]
  have b1:2 ^ t≤f:=by
   apply Nat.le_of_mul_le_mul_right _ nf
   omega
  have b2:f<2 ^ (t+1):=by
   apply Nat.lt_of_mul_lt_mul_right (a:=2 ^ (52-t))
   omega
  have b3:2 ^ (t+1)≤2 ^ 10:=Nat.pow_le_pow_right (by omega) (by omega)
  simp only[Nat.reducePow]at b3
  rw[hf]at h;have cS:n=sg*9223372036854775808+(999+t)*4503599627370496+(mx+4503599627370496-4503599627370496):=by rw[cT,ht,Nat.add_sub_cancel]
  exact sC _ _ _ 0 f xX (by omega) (by omega) (by omega) (.inr (.inr (.inr (And.intro rfl ⟨t,mx+4503599627370496,by omega,b1,b2,uo,by omega,cS⟩))))
 cases h
def vL (n v s x f:Nat):Prop:=s≤1∧v=s*2147483648+x*8388608+f∧f<8388608∧x≤255∧
 ((x=255∧f=0∧n=s*9223372036854775808+9218868437227405312)∨(x=0∧f=0∧n=s*9223372036854775808)∨
  (1≤x∧x≤254∧n=s*9223372036854775808+(x+896)*4503599627370496+f*536870912)∨
  (x=0∧∃ t full,t<23∧2 ^ t≤f∧f<2 ^ (t+1)∧full=f*2 ^ (52-t)∧4503599627370496≤full∧n=s*9223372036854775808+(874+t)*4503599627370496+(full-4503599627370496)))
theorem sD (n v s x f:Nat) (h1:s≤1) (h2:v=s*2147483648+x*8388608+f) (h3:f<8388608) (h4:x≤255)
  (h:(x=255∧f=0∧n=s*9223372036854775808+9218868437227405312)∨(x=0∧f=0∧n=s*9223372036854775808)∨
  (1≤x∧x≤254∧n=s*9223372036854775808+(x+896)*4503599627370496+f*536870912)∨
  (x=0∧∃ t full,t<23∧2 ^ t≤f∧f<2 ^ (t+1)∧full=f*2 ^ (52-t)∧4503599627370496≤full∧n=s*9223372036854775808+(874+t)*4503599627370496+(full-4503599627370496))):∃ s x f,vL n v s x f :=
 ⟨s,x,f,h1,h2,h3,h4,h⟩
theorem pA {n v:Nat}(hn:n<18446744073709551616) (h:zA n 8 23=some v):∃ s x f,vL n v s x f:=by
 obtain⟨ex,cK⟩:∃ ex,n/4503599627370496%2048=ex:=⟨_,rfl⟩
 obtain⟨mx,fK⟩:∃ mx,n%4503599627370496=mx:=⟨_,rfl⟩
 obtain⟨sg,av⟩:∃ sg,n/9223372036854775808=sg:=⟨_,rfl⟩
 have xX:sg≤1:=by omega
 have cT:n=sg*9223372036854775808+ex*4503599627370496+mx:=by omega
 have VW:ex<2048:=by omega
 have n6:mx<4503599627370496:=by omega
 rw[zA]at h
 simp only[Nat.reducePow,Nat.reduceSub,Nat.reduceAdd,Nat.reduceMul,cK,fK,av]at h
 clear cK fK av hn
 split at h
 ·rename_i q1
  split at h
  ·rename_i q2
   injection h with h
   subst q1 q2
   exact sD _ _ _ _ _ xX (by omega) (by omega) (by omega) (.inl (And.intro rfl (And.intro rfl (by omega))))
  cases h
 rename_i c1
 split at h
 ·rename_i q1
  split at h
  ·rename_i q2
   injection h with h
   subst q1 q2
   exact sD _ _ _ 0 0 xX (by omega) (by omega) (by omega) (.inr (.inl (And.intro rfl (And.intro rfl (by rw[cT,Nat.zero_mul];simp only[Nat.add_zero])))))
  cases h
 rename_i c2
 split at h
 ·cases h
 rename_i c3
 split at h
 ·rename_i c4
  split at h
  ·rename_i c5
   injection h with h
   obtain⟨x,hx⟩:∃ x,ex=x+896:=⟨ex-896,by omega⟩
   obtain⟨f,hf⟩:∃ f,mx=f*536870912:=⟨mx/536870912,by omega⟩
   subst hx hf
   exact sD _ _ _ x f xX (by omega) (by omega) (by omega) (.inr (.inr (.inl (And.intro (by omega) (And.intro (by omega) cT)))))
  cases h
 rename_i c4
 split at h
 ·cases h
 rename_i c5
 split at h
 ·rename_i c6
  injection h with h
  obtain⟨t,ht⟩:∃ t,ex=874+t:=⟨ex-874,by omega⟩
  have aw:30+(1023-ex-127)=52-t:=by omega
  rw[aw]at h c6;obtain⟨f,hf⟩:∃ f,(mx+4503599627370496)/2 ^ (52-t)=f:=⟨_,rfl⟩
  have uo:mx+4503599627370496=f*2 ^ (52-t):=by
   rw[← hf,Nat.div_mul_cancel (Nat.dvd_of_mod_eq_zero c6)]
  have nf:0<2 ^ (52-t):=Nat.two_pow_pos _
  have e1:2 ^ t*2 ^ (52-t)=4503599627370496:=by
   rw[← Nat.pow_add,show t+(52-t)=52 by omega]
  have e2:2 ^ (t+1)*2 ^ (52-t)=9007199254740992:=by
   rw[← Nat.pow_add,show t+1+(52-t)=53 by omega]
  have b1:2 ^ t≤f:=by
   apply Nat.le_of_mul_le_mul_right _ nf
   omega
  have b2:f<2 ^ (t+1):=by
   apply Nat.lt_of_mul_lt_mul_right (a:=2 ^ (52-t))
   omega
  have b3:2 ^ (t+1)≤2 ^ 23:=Nat.pow_le_pow_right (by omega) (by omega)
  simp only[Nat.reducePow]at b3
  rw[hf]at h;have cS:n=sg*9223372036854775808+(874+t)*4503599627370496+(mx+4503599627370496-4503599627370496):=by rw[cT,ht,Nat.add_sub_cancel]
  exact sD _ _ _ 0 f xX (by omega) (by omega) (by omega) (.inr (.inr (.inr (And.intro rfl ⟨t,mx+4503599627370496,by omega,b1,b2,uo,by omega,cS⟩))))
 cases h
theorem qh {n t:Nat}(h1:2 ^ t≤n) (h2:n<2 ^ (t+1)):n.log2=t:=by
 have hn:n≠0:=by have:=Nat.two_pow_pos t;omega
 have a:=(Nat.le_log2 hn).2 h1;have b:=(Nat.log2_lt hn).2 h2
 omega
theorem tW (neg:Bool) (q d:Nat) (h:d≤(q*2 ^ d).log2+2):Ieee.Toward.even.cut neg (q*2 ^ d) d=q:=by
 have hg:(1:Nat) <<< min d ((q*2 ^ d).log2+2)=2 ^ d:=by rw[Nat.min_eq_left h,Nat.shiftLeft_eq,Nat.one_mul]
 have hp:0<2 ^ d:=Nat.two_pow_pos d;have h1:q*2 ^ d/2 ^ d=q:=Nat.mul_div_cancel _ hp;have h2:q*2 ^ d%2 ^ d=0:=Nat.mul_mod_left _ _
 unfold Ieee.Toward.cut
 simp only[hg,h1,h2]
 have e1:decide (2 ^ d<2*0)=false:=by simp
 have e2:(2 ^ d==2*0)=false:=by rw[beq_eq_false_iff_ne];omega
 rw[e1,e2]
 simp
theorem pI {r:Nat}(hr:r<4294967296) (hn:(Ieee.single.read r).isNaN=false):∃ n s x f,n<18446744073709551616∧vL n r s x f:=by
 obtain⟨s,hs⟩:∃ s,r/2147483648=s:=⟨_,rfl⟩
 obtain⟨x,hx⟩:∃ x,r/8388608%256=x:=⟨_,rfl⟩
 obtain⟨f,hf⟩:∃ f,r%8388608=f:=⟨_,rfl⟩
 have xX:s≤1:=by omega
 have sW:x≤255:=by omega
 have uh:f<8388608:=by omega
 have hv:r=s*2147483648+x*8388608+f:=by omega
 by_cases h1:x=255
 ·by_cases h0:f=0
  ·exact⟨s*9223372036854775808+9218868437227405312,s,x,f,by omega,xX,by omega,by omega,by omega,.inl ⟨h1,h0,rfl⟩⟩
  exfalso
  have e1:Ieee.single.signWeight=2147483648:=rfl;have e2:Ieee.single.binade=8388608:=rfl;have e3:Ieee.single.infRung=2139095040:=rfl
  unfold Ieee.Format.read at hn
  rw[e1,e2,e3]at hn
  simp only[show ¬ r%2147483648<8388608 by omega,show ¬ r%2147483648<2139095040 by omega,show ¬ r%2147483648=2139095040 by omega,if_false]at hn
  cases hn
 by_cases h2:x=0
 ·by_cases h0:f=0
  ·exact⟨s*9223372036854775808,s,x,f,by omega,xX,by omega,by omega,by omega,.inr (.inl ⟨h2,h0,rfl⟩)⟩
  have a1:2 ^ f.log2≤f:=Nat.log2_self_le h0;have a2:f<2 ^ (f.log2+1):=Nat.lt_log2_self;have a3:f.log2<23:=(Nat.log2_lt h0).2 (by simpa using uh)
  generalize f.log2=t at a1 a2 a3
  have e1:2 ^ t*2 ^ (52-t)=4503599627370496:=by
   rw[← Nat.pow_add,show t+(52-t)=52 by omega]
  have e2:2 ^ (t+1)*2 ^ (52-t)=9007199254740992:=by
   rw[← Nat.pow_add,show t+1+(52-t)=53 by omega]
  have b1:=Nat.mul_le_mul_right (2 ^ (52-t)) a1;have b2:=Nat.mul_lt_mul_of_pos_right a2 (Nat.two_pow_pos (52-t))
  refine⟨s*9223372036854775808+(874+t)*4503599627370496+(f*2 ^ (52-t)-4503599627370496),s,x,f,by omega,xX,by omega,by omega,by omega,.inr (.inr (.inr ⟨h2,t,_,a3,a1,a2,rfl,by omega,rfl⟩))⟩
 exact⟨s*9223372036854775808+(x+896)*4503599627370496+f*536870912,s,x,f,by omega,xX,by omega,by omega,by omega,.inr (.inr (.inl ⟨by omega,by omega,rfl⟩))⟩
theorem nU (s r:Nat) (hs:s≤1):Ieee.double.word (s%2==1) r=s*9223372036854775808+r:=by
 have e:Ieee.double.signWeight=9223372036854775808:=rfl
 unfold Ieee.Format.word
 rcases(by omega:s=0∨s=1) with rfl | rfl <;> simp[e]
theorem nV (s r:Nat) (hs:s≤1):Ieee.single.word (s%2==1) r=s*2147483648+r:=by
 have e:Ieee.single.signWeight=2147483648:=rfl
 unfold Ieee.Format.word
 rcases(by omega:s=0∨s=1) with rfl | rfl <;> simp[e]
theorem jq {n v s x f:Nat}(h:vL n v s x f):Ieee.single.read v=if x=255 then .infinity (s%2==1) else if x=0 then .number (s%2==1) f (-149) else .number (s%2==1) (8388608+f) ((x:Int)-150):=by
 obtain⟨a1,a2,a3,a4,a5⟩:=h;have e1:Ieee.single.signWeight=2147483648:=rfl;have e2:Ieee.single.binade=8388608:=rfl;have e3:Ieee.single.infRung=2139095040:=rfl;have e4:Ieee.single.leastPlace = -149:=rfl;have hd:v/2147483648=s:=by omega
 have hm:v%2147483648=x*8388608+f:=by omega
 unfold Ieee.Format.read
 rw[e1,e2,e3,e4,hd,hm]
 simp only
 by_cases h0:x=0
 ·rw[if_pos (by omega),if_neg (by omega),if_pos h0,h0];simp
 rw[if_neg (by omega)]
 by_cases h1:x=255
 ·have:f=0:=by omega
  rw[if_neg (by omega),if_pos (by omega),if_pos h1]
 rw[if_pos (by omega),if_neg h1,if_neg h0];congr 1
 ·omega
 omega
theorem nT {n v s x f:Nat}(h:vL n v s x f):∃ e m,e≤2047∧m<4503599627370496∧n=s*9223372036854775808+e*4503599627370496+m∧
  (x=255→e=2047∧m=0)∧(x=0∧f=0→e=0∧m=0)∧(1≤x∧x≤254→e=x+896∧m=f*536870912)∧(x=0∧0<f→∃ t,t<23∧2 ^ t≤f∧f<2 ^ (t+1)∧e=874+t∧m+4503599627370496=f*2 ^ (52-t))∧
  Ieee.double.read n=if e=2047 then .infinity (s%2==1) else if e=0 then .number (s%2==1) m (-1074) else .number (s%2==1) (4503599627370496+m) ((e:Int)-1075):=by
 obtain⟨a1,a2,a3,a4,a5⟩:=h
 have key:∀ e m,e≤2047→m<4503599627370496→(e=2047→m=0)→n=s*9223372036854775808+e*4503599627370496+m→Ieee.double.read n=if e=2047 then .infinity (s%2==1) else if e=0 then .number (s%2==1) m (-1074) else .number (s%2==1) (4503599627370496+m) ((e:Int)-1075):=by
  intro e m he hm h7 hn
  have e1:Ieee.double.signWeight=9223372036854775808:=rfl;have e2:Ieee.double.binade=4503599627370496:=rfl;have e3:Ieee.double.infRung=9218868437227405312:=rfl;have e4:Ieee.double.leastPlace = -1074:=rfl;have hd:n/9223372036854775808=s:=by omega
  have fJ:n%9223372036854775808=e*4503599627370496+m:=by omega
  unfold Ieee.Format.read
  rw[e1,e2,e3,e4,hd,fJ]
  simp only
  by_cases h0:e=0
  ·rw[if_pos (by omega),if_neg (by omega),if_pos h0,h0];simp
  rw[if_neg (by omega)]
  by_cases h1:e=2047
  ·have:=h7 h1;rw[if_neg (by omega),if_pos (by omega),if_pos h1]
  rw[if_pos (by omega),if_neg h1,if_neg h0];congr 1
  ·omega
  omega
 rcases a5 with ⟨c1,c2,c3⟩ | ⟨c1,c2,c3⟩ | ⟨c1,c2,c3⟩ | ⟨c1,t,full,c2,c3,c4,c5,c6,c7⟩
 ·exact⟨2047,0,by omega,by omega,by omega,fun _=>⟨rfl,rfl⟩,by omega,by omega,by omega,key 2047 0 (by omega) (by omega) (fun _=>rfl) (by omega)⟩
 ·have C3:n=s*9223372036854775808+0*4503599627370496+0:=by rw[c3];simp only[Nat.zero_mul,Nat.add_zero]
  have C3:=Hh C3;clear c3;have x1:x≠255:=by omega
  have x3:¬ (1≤x∧x≤254):=by omega
  have x4:¬ (x=0∧0<f):=by omega
  exact⟨0,0,by omega,by omega,C3.out,fun h=>absurd h x1,fun _=>⟨rfl,rfl⟩,fun h=>absurd h x3,fun h=>absurd h x4,key 0 0 (by omega) (by omega) (by omega) C3.out⟩
 ·have C3:=Hh c3;clear c3;have t1:x+896≤2047:=by omega
  have t2:x+896≠2047:=by omega
  have m1:f*536870912<4503599627370496:=by omega
  have x1:x≠255:=by omega
  have x2:x≠0:=by omega
  exact⟨x+896,f*536870912,t1,m1,C3.out,fun h=>absurd h x1,fun h=>absurd h.1 x2,fun _=>⟨rfl,rfl⟩,fun h=>absurd h.1 x2,key _ _ t1 m1 (fun h=>absurd h t2) C3.out⟩
 have hp:0<f:=by have:=Nat.two_pow_pos t;omega
 have e2:2 ^ (t+1)*2 ^ (52-t)=9007199254740992:=by
  rw[← Nat.pow_add,show t+1+(52-t)=53 by omega]
 have b2:=Nat.mul_lt_mul_of_pos_right c4 (Nat.two_pow_pos (52-t));rw[e2,← c5]at b2;have C7:=Hh c7;clear c7;have m1:full-4503599627370496<4503599627370496:=by clear a2;omega
 have m2:full-4503599627370496+4503599627370496=f*2 ^ (52-t):=by rw[← c5];clear a2;omega
 have t1:874+t≤2047:=by omega
 have t2:874+t≠2047:=by omega
 have x1:x≠255:=by omega
 have x2:¬ (x=0∧f=0):=by omega
 have x3:¬ (1≤x∧x≤254):=by omega
 exact⟨874+t,full-4503599627370496,t1,m1,C7.out,fun h=>absurd h x1,fun h=>absurd h x2,fun h=>absurd h x3,fun _=>⟨t,c2,c3,c4,rfl,m2⟩,key _ _ t1 m1 (fun h=>absurd h t2) C7.out⟩
theorem nQ {n v s x f:Nat}(h:vL n v s x f):floatToFloatBits .f32 v .f64=some n:=by
 have hr:=jq h;obtain⟨e,m,he,hm,hn,g1,g2,g3,g4,hd⟩:=nT h;obtain⟨a1,a2,a3,a4,_⟩:=h;have e1:Ieee.double.fractionBits=52:=rfl;have e2:Ieee.double.binade=4503599627370496:=rfl;have e3:Ieee.double.infRung=9218868437227405312:=rfl;have e4:Ieee.double.leastPlace = -1074:=rfl
 have hw:Ieee.double.write (Ieee.single.read v)=n:=by
  rw[hr]
  by_cases h1:x=255
  ·obtain⟨rfl,rfl⟩:=g1 h1;rw[if_pos h1];show Ieee.double.word _ Ieee.double.infRung=n
   rw[nU _ _ a1,e3];omega
  rw[if_neg h1]
  have near:∀ (mag:Nat) (pl:Int) (t:Nat),t≤52→2 ^ t≤mag→mag<2 ^ (t+1)→-149≤pl→pl≤104→e=(pl+t+1023).toNat→mag*2 ^ (52-t)=4503599627370496+m→Ieee.double.nearest (s%2==1) mag pl=n:=by
   intro mag pl t ht b1 b2 p1 p2 he' fJ
   have hl:=qh b1 b2;have h0:mag≠0:=by have:=Nat.two_pow_pos t;omega
   unfold Ieee.Format.nearest
   rw[if_neg h0,hl,e1,e2,e3,e4];have rK:max (pl+(t:Int)-(52:Nat)) (-1074)=pl+t-52:=by omega
   simp only[rK]
   rw[show(pl-(pl+(t:Int)-52)).toNat=52-t by omega,show((pl+(t:Int)-52)-pl).toNat=0 by omega,Nat.shiftLeft_eq,fJ];have hc:=tW (s%2==1) (4503599627370496+m) 0 (by omega);rw[Nat.pow_zero,Nat.mul_one]at hc;rw[hc,nU _ _ a1,Nat.min_eq_left (by omega)]
   omega
  by_cases h2:x=0
  ·rw[if_pos h2]
   by_cases h3:f=0
   ·obtain⟨rfl,rfl⟩:=g2 ⟨h2,h3⟩;subst h3;show Ieee.double.nearest _ 0 _=n
    unfold Ieee.Format.nearest
    rw[if_pos rfl,nU _ _ a1];omega
   obtain⟨t,t1,t2,t3,t4,t5⟩:=g4 ⟨h2,by omega⟩
   exact near f (-149) t (by omega) t2 t3 (by omega) (by omega) (by omega) (by omega)
  rw[if_neg h2];obtain⟨k1,k2⟩:=g3 ⟨by omega,by omega⟩
  refine near (8388608+f) ((x:Int)-150) 23 (by omega) (by simp) (by simp;omega) (by omega) (by omega) (by omega) ?_
  simp only[Nat.reduceSub,Nat.reducePow]
  omega
 unfold floatToFloatBits
 rw[if_neg (by decide)];show(match Ieee.single.read v with | .nan _ _=>none | .infinity s=>some (Ieee.double.write (.infinity s)) | .number s m e=>if(Ieee.double.read (Ieee.double.write (.number s m e))).isInfinity then none else some (Ieee.double.write (.number s m e)))=some n
 cases hq:Ieee.single.read v with
 | nan a b =>
  rw[hq]at hr
  split at hr
  ·cases hr
  split at hr <;> cases hr
 | infinity q=>simp only;rw[← hq,hw]
 | number a b c =>
 simp only
 rw[← hq,hw]
 have hx:x≠255:=by
  intro h1
  rw[hq,if_pos h1]at hr
  cases hr
 have Sh:e≠2047:=by
  by_cases h2:x=0
  ·by_cases h3:f=0
   ·have:=g2 ⟨h2,h3⟩;omega
   obtain⟨t,t1,t2,t3,t4,t5⟩:=g4 ⟨h2,by omega⟩;omega
  have:=g3 ⟨by omega,by omega⟩;omega
 rw[hd,if_neg Sh]
 by_cases h0:e=0
 ·rw[if_pos h0];rfl
 rw[if_neg h0];rfl
theorem iU {n v s x f:Nat}(h:vL n v s x f):floatToFloatBits .f64 n .f32=some v:=by
 have hr:=jq h;obtain⟨e,m,he,hm,hn,g1,g2,g3,g4,hd⟩:=nT h;obtain⟨a1,a2,a3,a4,_⟩:=h;have e1:Ieee.single.fractionBits=23:=rfl;have e2:Ieee.single.binade=8388608:=rfl;have e3:Ieee.single.infRung=2139095040:=rfl;have e4:Ieee.single.leastPlace = -149:=rfl
 have hw:Ieee.single.write (Ieee.double.read n)=v:=by
  rw[hd]
  by_cases h1:x=255
  ·obtain⟨h5,h6⟩:=g1 h1;rw[if_pos h5];show Ieee.single.word _ Ieee.single.infRung=v
   rw[nV _ _ a1,e3]
   omega
  by_cases h2:x=0
  ·by_cases h3:f=0
   ·obtain⟨h5,h6⟩:=g2 ⟨h2,h3⟩;rw[if_neg (by omega),if_pos h5,h6];show Ieee.single.nearest _ 0 _=v
    unfold Ieee.Format.nearest
    rw[if_pos rfl,nV _ _ a1];omega
   obtain⟨t,t1,t2,t3,t4,t5⟩:=g4 ⟨h2,by omega⟩;rw[if_neg (by omega),if_neg (by omega)];show Ieee.single.nearest _ _ _=v
   have hl:(4503599627370496+m).log2=52:=qh (by simp) (by simp;omega)
   unfold Ieee.Format.nearest
   rw[if_neg (by omega),hl,e1,e2,e3,e4];have rK:max ((e:Int)-1075+(52:Nat)-(23:Nat)) (-149) = -149:=by omega
   simp only[rK]
   rw[show((e:Int)-1075 - -149).toNat=0 by omega,show(-149-((e:Int)-1075)).toNat=52-t by omega,Nat.shiftLeft_eq,Nat.pow_zero,Nat.mul_one,show 4503599627370496+m=f*2 ^ (52-t) by omega];rw[tW _ _ _ (by rw[← t5,Nat.add_comm m,hl];omega),nV _ _ a1,Nat.min_eq_left (by omega)];rw[a2,h2,show((-149:Int) - -149).toNat=0 from rfl]
   simp only[Nat.zero_mul,Nat.zero_add,Nat.add_zero]
  obtain⟨k1,k2⟩:=g3 ⟨by omega,by omega⟩;rw[if_neg (by omega),if_neg (by omega)];show Ieee.single.nearest _ _ _=v
  have hl:(4503599627370496+m).log2=52:=qh (by simp) (by simp;omega)
  unfold Ieee.Format.nearest
  rw[if_neg (by omega),hl,e1,e2,e3,e4];have rK:max ((e:Int)-1075+(52:Nat)-(23:Nat)) (-149)=(e:Int)-1046:=by omega
  simp only[rK]
  have hq:4503599627370496+m=(8388608+f)*2 ^ 29:=by simp only[Nat.reducePow];omega
  rw[show((e:Int)-1075-((e:Int)-1046)).toNat=0 by omega,show(((e:Int)-1046)-((e:Int)-1075)).toNat=29 by omega,Nat.shiftLeft_eq,Nat.pow_zero,Nat.mul_one,hq];rw[tW _ _ _ (by rw[← hq,hl];omega),nV _ _ a1,Nat.min_eq_left (by omega)]
  omega
 unfold floatToFloatBits
 rw[if_neg (by decide)];show(match Ieee.double.read n with | .nan _ _=>none | .infinity s=>some (Ieee.single.write (.infinity s)) | .number s m e=>if(Ieee.single.read (Ieee.single.write (.number s m e))).isInfinity then none else some (Ieee.single.write (.number s m e)))=some v
 cases hq:Ieee.double.read n with
 | nan a b =>
  rw[hq]at hd
  split at hd
  ·cases hd
  split at hd <;> cases hd
 | infinity q=>simp only;rw[← hq,hw]
 | number a b c =>
 simp only
 rw[← hq,hw]
 have hx:x≠255:=by
  intro h1
  have:=g1 h1;rw[hq,if_pos this.1]at hd
  cases hd
 rw[hr,if_neg hx]
 by_cases h0:x=0
 ·rw[if_pos h0];rfl
 rw[if_neg h0];rfl
theorem tn {n v s x f:Nat}(h:vL n v s x f):zA n 8 23=some v:=by
 obtain⟨e,m,he,hm,hn,g1,g2,g3,g4,hd⟩:=nT h;obtain⟨a1,a2,a3,a4,_⟩:=h;have k1:n/4503599627370496%2048=e:=by omega
 have k2:n%4503599627370496=m:=by omega
 have k3:n/9223372036854775808=s:=by omega
 rw[zA]
 simp only[Nat.reducePow,Nat.reduceSub,Nat.reduceAdd,Nat.reduceMul,k1,k2,k3]
 by_cases h1:x=255
 ·obtain⟨h5,h6⟩:=g1 h1;rw[if_pos h5,if_pos h6];congr 1;omega
 by_cases h2:x=0
 ·by_cases h3:f=0
  ·obtain⟨h5,h6⟩:=g2 ⟨h2,h3⟩;rw[if_neg (by omega),if_pos h5,if_pos h6];congr 1;omega
  obtain⟨t,t1,t2,t3,t4,t5⟩:=g4 ⟨h2,by omega⟩;rw[if_neg (by omega),if_neg (by omega),if_neg (by omega),if_neg (by omega),if_neg (by omega),show 30+(1023-e-127)=52-t by omega,t5,if_pos (Nat.mul_mod_left _ _),Nat.mul_div_cancel _ (Nat.two_pow_pos _)];congr 1;omega
 obtain⟨h5,h6⟩:=g3 ⟨by omega,by omega⟩;rw[if_neg (by omega),if_neg (by omega),if_neg (by omega),if_pos (by omega),if_pos (by omega)];congr 1;omega
def od (v:Nat):Option Nat :=
 let s:=v/2147483648
 let e:=v/8388608%256
 let m:=v%8388608
 if e=255 then some (s*32768+31744) else if e=0 then(if m=0 then some (s*32768) else none)
 else if 113≤e∧e≤142 then(if m%8192=0 then some (s*32768+(e-112)*1024+m/8192) else none)
 else if 103≤e∧e<113 then(if(m+8388608)%2 ^ (126-e)=0 then some (s*32768+(m+8388608)/2 ^ (126-e)) else none) else none
theorem bI {n v s x f:Nat}(h:vL n v s x f):od v=zA n 5 10:=by
 obtain⟨e,m,he,hm,hn,g1,g2,g3,g4,hd⟩:=nT h;obtain⟨a1,a2,a3,a4,_⟩:=h;have k1:n/4503599627370496%2048=e:=by omega
 have k2:n%4503599627370496=m:=by omega
 have k3:n/9223372036854775808=s:=by omega
 have j1:v/2147483648=s:=by omega
 have j2:v/8388608%256=x:=by omega
 have j3:v%8388608=f:=by omega
 rw[zA,od]
 simp only[Nat.reducePow,Nat.reduceSub,Nat.reduceAdd,Nat.reduceMul,k1,k2,k3,j1,j2,j3]
 by_cases h1:x=255
 ·obtain⟨h5,h6⟩:=g1 h1;rw[if_pos h5,if_pos h6,if_pos h1]
 by_cases h2:x=0
 ·by_cases h3:f=0
  ·obtain⟨h5,h6⟩:=g2 ⟨h2,h3⟩;rw[if_neg (by omega),if_pos h2,if_pos h3,if_neg (by omega),if_pos h5,if_pos h6]
  obtain⟨t,t1,t2,t3,t4,t5⟩:=g4 ⟨h2,by omega⟩;rw[if_neg (by omega),if_pos h2,if_neg h3,if_neg (by omega),if_neg (by omega),if_neg (by omega),if_neg (by omega),if_pos (by omega)]
 obtain⟨h5,h6⟩:=g3 ⟨by omega,by omega⟩;have n1:¬ e=2047:=by omega
 have n2:¬ e=0:=by omega
 rw[if_neg h1,if_neg h2,if_neg n1,if_neg n2]
 by_cases h7:143≤x
 ·have p1:¬ (113≤x∧x≤142):=by omega
  have p2:¬ (103≤x∧x<113):=by omega
  have p3:1023+31≤e+15:=by omega
  rw[if_neg p1,if_neg p2,if_pos p3]
 have p3:¬ (1023+31≤e+15):=by omega
 by_cases h8:113≤x
 ·have p1:113≤x∧x≤142:=by omega
  have p4:1023<e+15:=by omega
  rw[if_pos p1,if_neg p3,if_pos p4]
  by_cases h9:f%8192=0
  ·have p5:m%4398046511104=0:=by omega
   rw[if_pos h9,if_pos p5];obtain⟨q,rfl⟩:∃ q,f=8192*q:=⟨f/8192,by omega⟩
   have z1:m/4398046511104=8192*q/8192:=by omega
   have z2:e+15-1023=x-112:=by omega
   rw[z1,z2]
  have p5:¬ m%4398046511104=0:=by omega
  rw[if_neg h9,if_neg p5]
 have p1:¬ (113≤x∧x≤142):=by omega
 have p4:¬ 1023<e+15:=by omega
 rw[if_neg p1,if_neg p3,if_neg p4]
 by_cases h9:103≤x
 ·have p2:103≤x∧x<113:=by omega
  have p6:¬ 52<43+(1023-e-15):=by omega
  rw[if_pos p2,if_neg p6];have hs:43+(1023-e-15)=126-x+29:=by omega
  have hq:m+4503599627370496=(f+8388608)*2 ^ 29:=by simp only[Nat.reducePow];omega
  rw[hs,hq,Nat.pow_add,Nat.mul_mod_mul_right,Nat.mul_div_mul_right _ _ (Nat.two_pow_pos 29)]
  by_cases Xj:(f+8388608)%2 ^ (126-x)=0
  ·have Xk:(f+8388608)%2 ^ (126-x)*2 ^ 29=0:=by rw[Xj,Nat.zero_mul]
   rw[if_pos Xj,if_pos Xk]
  have Xk:¬ (f+8388608)%2 ^ (126-x)*2 ^ 29=0:=by
   intro h
   have:=Nat.two_pow_pos 29
   rcases Nat.mul_eq_zero.1 h with h | h <;> omega
  rw[if_neg Xj,if_neg Xk]
 have p2:¬ (103≤x∧x<113):=by omega
 have p6:52<43+(1023-e-15):=by omega
 rw[if_neg p2,if_pos p6]
def iX (n k:Nat):UInt8:=u8 (n/2 ^ (56-8*k))
theorem j9 (n k:Nat):(#[.int .u8 ((n:Int)/2 ^ (56-8*k)%256)]:Array Value).toList=[iX n k].map zm:=by
 simp only[List.map_cons,List.map_nil,iX,ye]
 simp
theorem fj (n:Nat) (hn:n<18446744073709551616) (w:World) :
  Calls Tryz.prog 72 #[.int .u64 (n:Int)] w fun e w'=>∃ r,e=.returned r∧Fresh w (be8 n 8) r w':=by
 have HN:=Hh hn;clear hn;have hO:=OwnB.nil w w.heap.size;have hb:=Below.refl w.heap.size w;go_enter Tryz.func72,Tryz.ntmps72
 go_wp2_with fail
 go_loopw [3,4] (fun v3 v4 wr=>∃ (k:Nat) (VA:Option Addr) (vc:Nat),k≤8∧v4=.int .i64 (56-8*(k:Int))∧v3=.slice VA k vc∧OwnB wr w.heap.size (.slice VA k vc) (be8 n k)∧Below w.heap.size w wr) (fun _ v4 _=>(intOf v4+8).toNat)
 case atStart=>exact⟨0,none,0,by omega,rfl,rfl,hO,hb⟩
 case round =>
 obtain⟨k,VA,vc,hk,rfl,rfl,vC,wU⟩:=hrel
 by_cases z6:k<8
 ·have yS:=j9 n k;have yV:=wU.alloc wU.size (.cells #[.int .u8 ((n:Int)/2 ^ (56-8*k)%256)] 5);have sT:=vC.alloc (.cells #[.int .u8 ((n:Int)/2 ^ (56-8*k)%256)] 5);have HC:=Hh yS;clear yS;go_wp2_with (at_builtin;refine zn ?_)
  refine zw rfl (.tmp 9) (.tmp 14) rfl w.heap.size _ _ rfl sT _ 1 _ [iX n k] rfl rfl (Src.new _ _ _ _ rfl _ HC.out) (by simp[wh];omega) yV.size fun v' w7 wE hg7 hat7=>?_
  obtain⟨VA',vc',rfl,_⟩:=wE.form;have fZ:(be8 n k++[iX n k]).length=k+1:=by simp[wh]
  have nY:OwnB w7 w.heap.size (.slice VA' (k+1) vc') (be8 n (k+1)):=by
   rw[fZ]at wE
   exact wE
  rw[fZ];have uH:=yV.grown hg7 yV.size (fun q hq=>(sT.lt q hq).1);clear fZ hg7 hat7 sT vC yV wU wE;go_wp2_with fail
  go_roundw
  case rel=>exact⟨k+1,VA',vc',by omega,by go_num,rfl,nY,uH⟩
  case measure=>simp[intOf];omega
 have Y7:k=8:=by omega
 subst Y7;go_wp2_with fail
 go_ret
 exact⟨_,rfl,vC,wU⟩
theorem tT (a k:Nat) (ha:a<4294967296) (hk:k<32):bits .and .u32 (a:Int) ((2 ^ k-1:Nat):Int)=((a%2 ^ k:Nat):Int):=by
 have:2 ^ k<2 ^ 32:=Nat.pow_lt_pow_right (by omega) hk
 simp only[Nat.reducePow]at this
 rw[u32_and_nat a (2 ^ k-1) ha (by omega),Nat.and_two_pow_sub_one_eq_mod]
theorem dT (b k:Nat) (hb:b<2 ^ k) (hk:k<31):bits .or .u32 (b:Int) ((2 ^ k:Nat):Int)=((b+2 ^ k:Nat):Int):=by
 have h1:2 ^ k<2 ^ 31:=Nat.pow_lt_pow_right (by omega) hk
 simp only[Nat.reducePow]at h1
 rw[u32_or_nat _ _ (by omega) (by omega),Nat.or_comm];have:=Nat.two_pow_add_eq_or_of_lt hb 1;rw[Nat.mul_one]at this;rw[← this,Nat.add_comm]
theorem sE (a k b:Nat) (hb:b<2 ^ k) (h:a*2 ^ k+b<65536):bits .or .u16 ((a*2 ^ k:Nat):Int) (b:Int)=((a*2 ^ k+b:Nat):Int):=by
 rw[u16_or_nat _ _ (by omega) (by omega),Nat.mul_comm,Nat.two_pow_add_eq_or_of_lt hb]
theorem bU (q:Nat) (h:q<65536):IntKind.u16.wrap (q:Int)=(q:Int):=IntWalk.u16_in _ (by omega)
theorem fi (v:Nat) (hv:v<4294967296) (w:World) :
  Calls Tryz.prog 74 #[.int .u32 (v:Int)] w
   fun e w'=>(∃ h:Nat,e=.returned (.tuple #[.int .u16 (h:Int),.bool (od v).isSome])∧∀ x,od v=some x→h=x)∧w=w':=by
 have A1:=tT (v/2 ^ 23) 8 (by omega) (by omega);have A2:=tT v 23 hv (by omega)
 simp only[Nat.reducePow,Nat.reduceSub]at A1 A2
 rw[Int.natCast_ediv]at A1;obtain⟨ex,cK⟩:∃ ex,v/8388608%256=ex:=⟨_,rfl⟩
 obtain⟨mx,fK⟩:∃ mx,v%8388608=mx:=⟨_,rfl⟩
 obtain⟨sg,av⟩:∃ sg,v/2147483648=sg:=⟨_,rfl⟩
 have xX:sg≤1:=by omega
 have E:Hid (od v=if ex=255 then some (sg*32768+31744) else if ex=0 then(if mx=0 then some (sg*32768) else none)
   else if 113≤ex∧ex≤142 then(if mx%8192=0 then some (sg*32768+(ex-112)*1024+mx/8192) else none)
   else if 103≤ex∧ex<113 then(if(mx+8388608)%2 ^ (126-ex)=0 then some (sg*32768+(mx+8388608)/2 ^ (126-ex)) else none) else none):=by
  rw[Hid,od]
  simp only[cK,fK,av]
 rw[cK]at A1;rw[fK]at A2;have VW:ex<256:=by omega
 have n6:mx<8388608:=by omega
 have A1':bits .and .u32 ((v:Int)/8388608) 255=(ex:Int):=A1;have A2':bits .and .u32 (v:Int) 8388607=(mx:Int):=A2;have K1:IntKind.i64.wrap (ex:Int)=(ex:Int):=IntWalk.i64_in _ (by omega)
 have KS:Hid (IntKind.u16.wrap ((v:Int)/2147483648*32768%4294967296)=((sg*2 ^ 15:Nat):Int)):=by
  have h:(v:Int)/2147483648*32768%4294967296=(sg:Int)*32768:=by omega
  simp only[Nat.reducePow]
  rw[Hid,h,IntWalk.u16_in _ (by omega)]
  omega
 clear hv cK fK av A1 A2;go_enter Tryz.func74,Tryz.ntmps74
 go_wp2_with fail
 ·have h1:ex=255:=by
   have h:((ex:Int)==255)=true:=by assumption
   rw[beq_iff_eq]at h
   omega
  go_ret2
  have Sv:=sE sg 15 31744 (by omega) (by omega)
  refine⟨⟨sg*32768+31744, ?_, ?_⟩,rfl⟩
  ·show Ending.returned (Value.tuple #[Value.int .u16 _,Value.bool _])=_
   rw[KS.out,E.out,if_pos h1];rw[show(31744:Int)=((31744:Nat):Int) from rfl,Sv];rfl
  intro x hx
  rw[E.out,if_pos h1]at hx;injection hx
 all_goals
  have h1:¬ ex=255:=by
   have h:((ex:Int)==255)=false:=by assumption
   rw[beq_eq_false_iff_ne]at h
   omega
  rw[if_neg h1]at E
 ·have h2:ex=0:=by
   have h:((ex:Int)==0)=true:=by assumption
   rw[beq_iff_eq]at h
   omega
  rw[if_pos h2]at E;go_ret2
  refine⟨⟨sg*32768, ?_, ?_⟩,rfl⟩
  ·show Ending.returned (Value.tuple #[Value.int .u16 _,Value.bool _])=_
   rw[KS.out,E.out]
   by_cases h:mx=0 <;> simp[h]
  intro x hx
  rw[E.out]at hx
  split at hx
  ·injection hx
  cases hx
 all_goals
  have h2:¬ ex=0:=by
   have h:((ex:Int)==0)=false:=by assumption
   rw[beq_eq_false_iff_ne]at h
   omega
  rw[if_neg h2]at E
 ·have h3:113≤ex∧ex≤142:=by omega
  rw[if_pos h3]at E;obtain⟨q,hq⟩:∃ q,ex-112=q:=⟨_,rfl⟩
  have Sx:((ex:Int)-112)*1024=((q*1024:Nat):Int):=by omega
  have ar:(mx:Int)/8192=((mx/8192:Nat):Int):=by omega
  have ha:=tT mx 13 (by omega) (by omega)
  simp only[Nat.reducePow,Nat.reduceSub]at ha
  have Wg:=sE sg 15 (q*1024) (by omega) (by omega);have YD:=sE (sg*2 ^ 5+q) 10 (mx/8192) (by omega) (by omega);rw[show(sg*2 ^ 5+q)*2 ^ 10=sg*2 ^ 15+q*1024 by omega]at YD;go_ret2
  refine⟨⟨sg*32768+q*1024+mx/8192, ?_, ?_⟩,rfl⟩
  ·show Ending.returned (Value.tuple #[Value.int .u16 _,Value.bool _])=_
   rw[KS.out,E.out,Sx,ar,Wg,YD];have Sb:bits .and .u32 (mx:Int) 8191=((mx%8192:Nat):Int):=ha;rw[Sb]
   by_cases h:mx%8192=0
   ·rw[if_pos h,h];rfl
   rw[if_neg h];have:(((mx%8192:Nat):Int)==0)=false:=by rw[beq_eq_false_iff_ne];omega
   rw[this];rfl
  intro x hx
  rw[E.out,hq]at hx
  split at hx
  ·injection hx
  cases hx
 ·have h3:¬ (113≤ex∧ex≤142):=by omega
  have h4:¬ (103≤ex∧ex<113):=by omega
  rw[if_neg h3,if_neg h4]at E;go_ret2
  refine⟨⟨0, ?_, ?_⟩,rfl⟩
  ·rw[E.out];rfl
  intro x hx
  rw[E.out]at hx
  cases hx
 ·have h3:¬ (113≤ex∧ex≤142):=by omega
  have h4:103≤ex∧ex<113:=by omega
  rw[if_neg h3,if_pos h4]at E;obtain⟨sh,aw⟩:∃ sh,126-ex=sh:=⟨_,rfl⟩
  obtain⟨full,uo⟩:∃ full,mx+8388608=full:=⟨_,rfl⟩
  have Su:bits .or .u32 (mx:Int) 8388608=(full:Int):=by
   have:=dT mx 23 (by omega) (by omega)
   simp only[Nat.reducePow]at this
   rw[← uo]
   exact this
  have hp:2 ^ sh<2 ^ 32:=Nat.pow_lt_pow_right (by omega) (by omega);have kv:0<2 ^ sh:=Nat.two_pow_pos sh
  simp only[Nat.reducePow]at hp
  have T8:(2:Int) ^ sh=((2 ^ sh:Nat):Int):=by rw[Int.natCast_pow];rfl
  have hw:((2:Int) ^ sh-1)%4294967296=((2 ^ sh-1:Nat):Int):=by rw[T8];omega
  have Sg:(full:Int)/2 ^ sh=((full/2 ^ sh:Nat):Int):=by
   rw[Int.natCast_ediv,Int.natCast_pow];rfl
  have z6:full/2 ^ sh<2 ^ 15:=by
   apply Nat.div_lt_of_lt_mul
   have h1:2 ^ 14≤2 ^ sh:=Nat.pow_le_pow_right (by omega) (by omega);have h2:2 ^ 14*2 ^ 15≤2 ^ sh*2 ^ 15:=Nat.mul_le_mul_right _ h1
   simp only[Nat.reducePow,Nat.reduceMul]at h2⊢
   omega
  have RW:full/2 ^ sh<32768:=z6;have YJ:IntKind.u16.wrap ((full/2 ^ sh:Nat):Int)=((full/2 ^ sh:Nat):Int):=bU _ (by omega);have ho:=sE sg 15 (full/2 ^ sh) z6 (by simp only[Nat.reducePow];omega);have ha:=tT full sh (by omega) (by omega);go_ret2
  refine⟨⟨sg*32768+full/2 ^ sh, ?_, ?_⟩,rfl⟩
  ·show Ending.returned (Value.tuple #[Value.int .u16 _,Value.bool _])=_
   rw[KS.out,E.out,aw,Su,hw,ha,Sg,YJ,ho,uo]
   by_cases h:full%2 ^ sh=0
   ·rw[if_pos h,h];rfl
   rw[if_neg h];have:(((full%2 ^ sh:Nat):Int)==0)=false:=by rw[beq_eq_false_iff_ne];omega
   rw[this];rfl
  intro x hx
  rw[E.out,aw,uo]at hx
  split at hx
  ·injection hx
  cases hx
 have h3:¬ (113≤ex∧ex≤142):=by omega
 have h4:¬ (103≤ex∧ex<113):=by omega
 rw[if_neg h3,if_neg h4]at E;go_ret2
 refine⟨⟨0, ?_, ?_⟩,rfl⟩
 ·rw[E.out];rfl
 intro x hx
 rw[E.out]at hx
 cases hx
theorem dK (n:Nat) (hN:isNaN n=false) (w:World):∃ r w',(convert 109 110 (.float .f64 n)).run Tryz.prog w=.ok (.float .f32 r) w'∧(w'=w∨w'=w.drew)∧r<4294967296∧(∀ s x f v,vL n v s x f→r=v):=by
 have hs:Tryz.prog.underlying 109=some (.float .f64):=Tryz.underlying109;have hd:Tryz.prog.underlying 110=some (.float .f32):=Tryz.underlying110
 cases hb:floatToFloatBits .f64 n .f32 with
 | some r =>
  have aP:(Tryz.prog.underlying 109).isSome=true:=by rw[hs];rfl
  refine⟨r,w,run_convert_float_float (P:=Tryz.prog) (w:=w) 109 110 .f64 .f32 n r aP hd hb,.inl rfl, ?_, ?_⟩
  ·unfold floatToFloatBits at hb
   rw[if_neg (by decide)]at hb;have z6:∀ d:Ieee.Datum,FloatKind.encode .f32 d<4294967296:=fun d=>Ieee.single.write_lt d
   split at hb
   ·cases hb
   ·injection hb with hb;rw[← hb];exact z6 _
   split at hb
   ·cases hb
   injection hb with hb;rw[← hb];exact z6 _
  intro s x f v h
  have:=iU h;rw[hb]at this;injection this
 | none =>
 have t9:=hb
 unfold floatToFloatBits at hb
 rw[if_neg (by decide)]at hb
 have cT:¬ (∃ a b,FloatKind.decode .f64 n=.nan a b):=by
  rintro⟨a,b,h⟩
  have:=mF n;rw[hN]at this;have h':Ieee.double.read n=.nan a b:=h;rw[h']at this
  cases this
 cases hq:FloatKind.decode .f64 n with
 | nan a b=>exact absurd ⟨a,b,hq⟩ cT
 | infinity a=>rw[hq]at hb;cases hb
 | number a b c =>
 rw[hq]at hb
 simp only at hb
 split at hb
 ·rename_i ho
  refine⟨(Question.floatToFloat n).cut (w.tape w.drawn (Question.floatToFloat n)),w.drew, ?_,.inr rfl, ?_, ?_⟩
  ·simp[convert,run_underlying hs,run_underlying hd,Conv.floatToFloat,hq,ho,Question.forced]
  ·show _%2 ^ 32<4294967296
   omega
  intro s x f v h
  have:=iU h;rw[t9]at this
  cases this
 cases hb
theorem dL (r n:Nat) (hN:isNaN n=false) (hr:r<4294967296) (w:World):∃ m w',(convert 110 109 (.float .f32 r)).run Tryz.prog w=.ok (.float .f64 m) w'∧(w'=w∨w'=w.drew)∧(m=n→zA n 8 23=some r)∧(∀ s x f,vL n r s x f→m=n):=by
 have hs:Tryz.prog.underlying 110=some (.float .f32):=Tryz.underlying110;have hd:Tryz.prog.underlying 109=some (.float .f64):=Tryz.underlying109
 cases hn:(Ieee.single.read r).isNaN with
 | false =>
  obtain⟨m,s,x,f,_,hx⟩:=pI hr hn;have hw:=nQ hx;have aP:(Tryz.prog.underlying 110).isSome=true:=by rw[hs];rfl
  refine⟨m,w,run_convert_float_float (P:=Tryz.prog) (w:=w) 110 109 .f32 .f64 r m aP hd hw,.inl rfl, ?_, ?_⟩
  ·rintro rfl
   exact tn hx
  intro s' x' f' h
  have:=nQ h;rw[hw]at this;injection this
 | true =>
 cases hq:FloatKind.decode .f32 r with
 | number a b c =>
  have h':Ieee.single.read r=.number a b c:=hq;rw[h']at hn;cases hn
 | infinity a =>
  have h':Ieee.single.read r=.infinity a:=hq;rw[h']at hn;cases hn
 | nan a b =>
 refine⟨(Question.nanConv .f64 r).cut (w.tape w.drawn (Question.nanConv .f64 r)),w.drew, ?_,.inr rfl, ?_, ?_⟩
 ·simp[convert,run_underlying hs,run_underlying hd,Conv.floatToFloat,hq,Question.forced]
 ·intro h
  exfalso
  have en:isNaN ((Question.nanConv .f64 r).cut (w.tape w.drawn (Question.nanConv .f64 r)))=true:=by
   rw[rU];show(_%2*2 ^ 63+0x7ff0000000000000+1+_/2%(2 ^ 52-1))/2 ^ 52%2048=2047∧_
   generalize w.tape w.drawn (Question.nanConv .f64 r)=t
   show(t%2*2 ^ 63+0x7ff0000000000000+1+t/2%(2 ^ 52-1))/2 ^ 52%2048=2047∧(t%2*2 ^ 63+0x7ff0000000000000+1+t/2%(2 ^ 52-1))%2 ^ 52≠0
   generalize t/2=u
   have:t%2=0∨t%2=1:=by omega
   rcases this with h | h <;> rw[h] <;> simp only[Nat.reducePow,Nat.reduceSub,Nat.reduceMul,Nat.reduceAdd,Nat.zero_add] <;> omega
  rw[h,hN]at en
  cases en
 intro s x f h
 have:=jq h;have h':Ieee.single.read r=.nan a b:=hq;rw[h']at this
 split at this
 ·cases this
 split at this <;> cases this
theorem Fresh.step_ {w w1 w2:World}{l:List UInt8}{r:Value}(hb:Below w.heap.size w w1) (h:Fresh w1 l r w2):Fresh w l r w2:=⟨h.own.more hb.size,hb.trans (h.2.mono hb.size)⟩
theorem p8 {n:Nat}(hn:n<18446744073709551616) (h:zA n 8 23=none):zA n 5 10=none:=by
 cases h5:zA n 5 10 with
 | none=>rfl
 | some v =>
 obtain⟨s,x,f,a1,a2,a3,a4,a5⟩:=p9 hn h5
 have done:∀ {x' f':Nat},vL n (s*2147483648+x'*8388608+f') s x' f'→False:=fun hx=>by
  rw[tn hx]at h
  cases h
 rcases a5 with ⟨c1,c2,c3⟩ | ⟨c1,c2,c3⟩ | ⟨c1,c2,c3⟩ | ⟨c1,t,full,c2,c3,c4,c5,c6,c7⟩
 ·exact(done (x':=255) (f':=0) ⟨a1,rfl,by omega,by omega,.inl ⟨rfl,rfl,c3⟩⟩).elim
 ·exact(done (x':=0) (f':=0) ⟨a1,rfl,by omega,by omega,.inr (.inl ⟨rfl,rfl,c3⟩)⟩).elim
 ·have C3:n=s*9223372036854775808+(x+112+896)*4503599627370496+f*8192*536870912:=by
   rw[c3,Nat.mul_assoc f 8192,Nat.add_assoc x 112]
  have C:=Hh C3;clear c3 C3;have g1:f*8192<8388608:=by omega
  have g2:x+112≤255:=by omega
  have g3:1≤x+112:=by omega
  have g4:x+112≤254:=by omega
  exact(done (x':=x+112) (f':=f*8192) ⟨a1,rfl,g1,g2,.inr (.inr (.inl ⟨g3,g4,C.out⟩))⟩).elim
 have C:=Hh c7;clear c7
 have e1:full=f*2 ^ (23-t)*536870912:=by
  rw[c5,Nat.mul_assoc,show(536870912:Nat)=2 ^ 29 from rfl,← Nat.pow_add,show 23-t+29=52-t by omega]
 have e2:2 ^ (t+1)*2 ^ (52-t)=9007199254740992:=by
  rw[← Nat.pow_add,show t+1+(52-t)=53 by omega]
 have b2:=Nat.mul_lt_mul_of_pos_right c4 (Nat.two_pow_pos (52-t));rw[e2,← c5]at b2;obtain⟨q,hq⟩:∃ q,f*2 ^ (23-t)=q:=⟨_,rfl⟩
 rw[hq]at e1;have g0:8388608≤q∧q<16777216:=by clear a2;omega
 have g5:full-4503599627370496=(q-8388608)*536870912:=by clear a2;omega
 have g1:q-8388608<8388608:=by omega
 have g2:103+t≤255:=by omega
 have g3:1≤103+t:=by omega
 have g4:103+t≤254:=by omega
 have C3:n=s*9223372036854775808+(103+t+896)*4503599627370496+(q-8388608)*536870912:=by
  rw[C.out,g5,show 103+t+896=999+t by omega]
 exact(done (x':=103+t) (f':=q-8388608) ⟨a1,rfl,g1,g2,.inr (.inr (.inl ⟨g3,g4,C3⟩))⟩).elim
theorem vV (n:Nat) (hn:n<18446744073709551616) (w:World) :
  Calls Tryz.prog 63 #[.int .u64 (n:Int)] w fun e w'=>∃ r,e=.returned r∧Fresh w (zH n) r w':=by
 have r1:=yo n;have r2:=gC n
 cases hN:isNaN n with
 | true =>
  rw[hN]at r2;have E:Hid (zH n=[u8 249,u8 126,u8 0]):=by rw[Hid,zH,if_pos hN]
  clear hN hn;go_enter Tryz.func63,Tryz.ntmps63
  go_wp2_with fail
  go_ret
  refine⟨_,rfl, ?_⟩
  rw[E.out]
  exact Fresh.lit w _ _ 3 rfl (by simp) rfl
 | false =>
 rw[hN]at r2;obtain⟨r,w1,ri,vT,hr,hv⟩:=dK n hN w;obtain⟨m,w2,tg,tR,n6,j4⟩:=dL r n hN hr w1
 have hb:Below w.heap.size w w2:=by
  rcases vT with rfl | rfl <;> rcases tR with rfl | rfl
  ·exact Below.refl _ _
  ·exact(Below.refl _ _).drew
  ·exact(Below.refl _ _).drew
  exact(Below.refl _ _).drew.drew
 have r3:=zT m;have r4:=lW r;have ce:=Hh hN
 cases h2:zA n 8 23 with
 | none =>
  have ww:m≠n:=fun h=>by rw[n6 h]at h2;cases h2
  have b1:((m:Int) != (n:Int))=true:=by rw[bne_iff_ne];omega
  have p1:(m=n)=False:=eq_false ww;have E:Hid (zH n=u8 251::be8 n 8):=by rw[Hid,zH,if_neg (by simp[hN]),p8 hn h2,h2]
  have WD:=Hh (fun w3:World=>fj n hn w3);have hO:=OwnB.lit w2 w.heap.size [u8 251] #[.int .u8 251] 1 rfl rfl hb.size (by simp);have vQ:=hb.alloc hb.size (.cells #[.int .u8 251] 5);clear n6 j4 hv hN hn h2 ww vT tR hr;go_enter Tryz.func63,Tryz.ntmps63
  go_wp2_with fail
  refine(WD.out _).mono ?_
  rintro e w3 ⟨rr,rfl,hf⟩
  obtain⟨RA,rc,rfl,_⟩:=hf.own.form;have sT:=hO.below hf.2;have yV:=vQ.trans (hf.2.mono vQ.size);go_wp2_with (at_builtin;refine zn ?_)
  refine zw rfl (.tmp 21) (.tmp 23) rfl w.heap.size _ _ rfl sT RA _ rc (be8 n 8) rfl rfl hf.own.src (by simp[wh]) yV.size fun v' w7 wE hg7 hat7=>?_
  have uH:=yV.grown hg7 yV.size (fun q hq=>(sT.lt q hq).1);clear hg7 hat7 sT hf;go_wp2_with fail
  go_ret
  exact⟨_,rfl,by rw[E.out];exact⟨wE,uH⟩⟩
 | some v =>
 obtain⟨s,x,f,hx⟩:=pA hn h2;obtain rfl:=hv s x f v hx;obtain rfl:=j4 s x f hx;have b1:((m:Int) != (m:Int))=false:=by simp
 have HF:=bI hx;have HH:=Hh (fun w3:World=>fi r hr w3)
 cases h5:zA m 5 10 with
 | some q =>
  rw[h5]at HF;rw[HF]at HH;have E:Hid (zH m=[u8 249,u8 (q/256),u8 q]):=by rw[Hid,zH,if_neg (by simp[hN]),h5]
  clear n6 j4 hv hN hn h2 vT tR hr hx HF h5;go_enter Tryz.func63,Tryz.ntmps63
  go_wp2_with fail
  refine(HH.out _).mono ?_
  rintro e w' ⟨⟨hq,rfl,he⟩,rfl⟩
  obtain rfl:=he q rfl;clear he;go_wp2_with fail
  go_ret
  refine⟨_,rfl, ?_⟩
  rw[E.out]
  refine(Fresh.lit w2 _ _ 3 rfl (by simp) ?_).step_ hb
  simp only[List.map_cons,List.map_nil,ye]
  simp
 | none =>
 rw[h5]at HF;rw[HF]at HH;have E:Hid (zH m=[u8 250,u8 (r/16777216),u8 (r/65536),u8 (r/256),u8 r]):=by rw[Hid,zH,if_neg (by simp[hN]),h5,h2]
 clear n6 j4 hv hN hn h2 vT tR hr hx HF h5;go_enter Tryz.func63,Tryz.ntmps63
 go_wp2_with fail
 refine(HH.out _).mono ?_
 rintro e w' ⟨⟨hq,rfl,_⟩,rfl⟩
 go_wp2_with fail
 go_ret
 refine⟨_,rfl, ?_⟩
 rw[E.out]
 refine(Fresh.lit w2 _ _ 5 rfl (by simp) ?_).step_ hb
 simp only[List.map_cons,List.map_nil,ye]
 simp
end Go.Proofs.YtnfoilblmhbobaaGreatDoor
