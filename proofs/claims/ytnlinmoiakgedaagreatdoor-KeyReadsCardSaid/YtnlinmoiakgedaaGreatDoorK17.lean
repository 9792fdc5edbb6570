/- squeezed. Reading data items: plain mathemat -/
import Derived.Test.YtnlinmoiakgedaaGreatDoorK06
set_option linter.unusedVariables false
set_option linter.unusedSimpArgs false
set_option maxRecDepth 100000
namespace Go.Proofs.YtnlinmoiakgedaaGreatDoor
open Go.RowKit
def beN (l:List UInt8):Nat:=l.foldl (fun x c=>x*256+c.toNat) 0
theorem Xg (l:List UInt8) (c:UInt8):beN (l++[c])=beN l*256+c.toNat:=by simp[beN]
theorem xm (l:List UInt8):beN l<256 ^ l.length:=by
 suffices h:∀ (l:List UInt8) (a:Nat),l.foldl (fun x c=>x*256+c.toNat) a<(a+1)*256 ^ l.length by
  have:=h l 0;rw[Nat.zero_add,Nat.one_mul]at this
  exact this
 intro l
 induction l with
 | nil=>intro a;simp
 | cons c l ih =>
  intro a
  have hc:=c.toNat_lt;rw[List.foldl_cons,List.length_cons,Nat.pow_succ]
  refine Nat.lt_of_lt_of_le (ih _) ?_
  have:(a*256+c.toNat+1)*256 ^ l.length≤((a+1)*256)*256 ^ l.length:=Nat.mul_le_mul_right _ (by omega);rw[Nat.mul_assoc,Nat.mul_comm 256]at this
  exact this
theorem vG {c:UInt8}{n:Nat}(h:n%256=c.toNat):u8 n=c:=by
 apply UInt8.toNat_inj.1
 rw[sw,h]
theorem VK {l:List UInt8}(h:l.length=1):∃ a,l=[a]:=by
 match l,h with
 | [a],_=>exact⟨a,rfl⟩
theorem VL {l:List UInt8}(h:l.length=2):∃ a b,l=[a,b]:=by
 match l,h with
 | [a,b],_=>exact⟨a,b,rfl⟩
theorem Yf {l:List UInt8}(h:l.length=4):∃ a b c d,l=[a,b,c,d]:=by
 match l,h with
 | [a,b,c,d],_=>exact⟨a,b,c,d,rfl⟩
theorem R3 {l:List UInt8}(h:l.length=8):∃ a b c d e f g i,l=[a,b,c,d,e,f,g,i]:=by
 match l,h with
 | [a,b,c,d,e,f,g,i],_=>exact⟨a,b,c,d,e,f,g,i,rfl⟩
theorem RH (a:UInt8):beN [a]=a.toNat:=by simp[beN]
theorem RI (a b:UInt8):beN [a,b]=a.toNat*256+b.toNat:=by simp[beN]
theorem RJ (a b c d:UInt8):beN [a,b,c,d]=a.toNat*16777216+b.toNat*65536+c.toNat*256+d.toNat:=by simp[beN];omega
theorem OF (a b c d e f g i:UInt8):beN [a,b,c,d,e,f,g,i]=a.toNat*72057594037927936+b.toNat*281474976710656+c.toNat*1099511627776+d.toNat*4294967296+e.toNat*16777216+f.toNat*65536+g.toNat*256+i.toNat:=by simp[beN];omega
theorem bM {l:List UInt8}(h:l.length=8):be8 (beN l) 8=l:=by
 obtain⟨a,b,c,d,e,f,g,i,rfl⟩:=R3 h;have ha:=a.toNat_lt;have hb:=b.toNat_lt;have hc:=c.toNat_lt;have hd:=d.toNat_lt;have he:=e.toNat_lt;have hf:=f.toNat_lt;have hg:=g.toNat_lt;have hi:=i.toNat_lt
 rw[OF]
 simp only[be8,Nat.reducePow,Nat.reduceMul,Nat.reduceSub,List.nil_append,List.cons_append]
 rw[vG (c:=a) (by omega),vG (c:=b) (by omega),vG (c:=c) (by omega),vG (c:=d) (by omega),vG (c:=e) (by omega),vG (c:=f) (by omega),vG (c:=g) (by omega),vG (c:=i) (by omega)]
def zj:List UInt8→Except Nat (Nat×Nat×Nat)
 | []=>.error 2
 | f::t =>
  if 27<f.toNat%32 then .error 3
  else if f.toNat%32<24 then .ok (f.toNat,f.toNat%32,1)
  else if t.length<2 ^ (f.toNat%32-24) then .error 2
  else if f.toNat/32<7∧(zm 0 (beN (t.take (2 ^ (f.toNat%32-24))))).length≠1+2 ^ (f.toNat%32-24) then .error 4
  else .ok (f.toNat,beN (t.take (2 ^ (f.toNat%32-24))),1+2 ^ (f.toNat%32-24))
def xJ (v:Nat):Nat :=
 if v/1024%32=31 then v/32768*9223372036854775808+9218868437227405312+v%1024*4398046511104
 else if v/1024%32=0 then(if v%1024=0 then v/32768*9223372036854775808 else v/32768*9223372036854775808+(999+(v%1024).log2)*4503599627370496+(v%1024*2 ^ (52-(v%1024).log2)-4503599627370496))
 else v/32768*9223372036854775808+(v/1024%32+1008)*4503599627370496+v%1024*4398046511104
def wl (v:Nat):Nat :=
 if v/8388608%256=255 then v/2147483648*9223372036854775808+9218868437227405312+v%8388608*536870912
 else if v/8388608%256=0 then(if v%8388608=0 then v/2147483648*9223372036854775808 else v/2147483648*9223372036854775808+(874+(v%8388608).log2)*4503599627370496+(v%8388608*2 ^ (52-(v%8388608).log2)-4503599627370496))
 else v/2147483648*9223372036854775808+(v/8388608%256+896)*4503599627370496+v%8388608*536870912
def uw (low n:Nat):Nat:=if low=25 then xJ n else if low=26 then wl n else n
def yK (low n:Nat):Except Nat Itm :=
 if low<24 then .ok (.mk 7 n [] [])
 else if low=24 then(if n<32 then .error 4 else .ok (.mk 7 n [] []))
 else if(isNaN (uw low n)&&uw low n != zT)||(zF (uw low n)).length != 1+2 ^ (low-24) then .error 4
 else .ok (.mk 8 (uw low n) [] [])
inductive PL where
 | err (e:Nat)
 | ok (l:List Itm) (k c:Nat)
inductive PR where
 | err (e:Nat)
 | ok (x:Itm) (k c:Nat)
def vS (p:List UInt8→Nat→PR):Nat→List UInt8→Nat→PL
 | 0,_,c=>.ok [] 0 c
 | n+1,b,c=>match p b c with
  | .err e=>.err e
  | .ok x k c'=>match vS p n (b.drop k) c' with
   | .err e=>.err e
   | .ok l k' c''=>.ok (x::l) (k+k') c''
def tB (last:Option (List UInt8)) (key:List UInt8):Option Nat :=
 match last with
 | none=>none
 | some l=>if Lib.compareBytes key l=0 then some 7 else if Lib.compareBytes key l<0 then some 6 else none
def vr (p:List UInt8→Nat→PR):Nat→List UInt8→Nat→Option (List UInt8)→PL
 | 0,_,c,_=>.ok [] 0 c
 | n+1,b,c,last=>match p b c with
  | .err e=>.err e
  | .ok x k c'=>match tB last (b.take k) with
   | some e=>.err e
   | none=>match p (b.drop k) c' with
    | .err e=>.err e
    | .ok y k' c''=>match vr p n (b.drop (k+k')) c'' (some (b.take k)) with
     | .err e=>.err e
     | .ok l k'' c3=>.ok (x::y::l) (k+k'+k'') c3
def zo:Nat→List UInt8→Nat→PR
 | d,b,c =>
  if 256≤c then .err 8
  else match zj b with
   | .error e=>.err e
   | .ok (f,n,k) =>
    if f/32≤1 then .ok (.mk (f/32:Nat) n [] []) k (c+1)
    else if f/32≤3 then
     (if b.length<k+n then .err 2
     else if f/32=3∧Lib.validD ((b.drop k).take n)=false then .err 5
     else .ok (.mk (f/32:Nat) 0 ((b.drop k).take n) []) (k+n) (c+1))
    else if f/32=7 then
     (match yK (f%32) n with
     | .error e=>.err e
     | .ok x=>.ok x k (c+1))
    else match d with
     | 0=>.err 8
     | d+1 =>
      if f/32=6 then(match zo d (b.drop k) (c+1) with
       | .err e=>.err e
       | .ok x k' c'=>.ok (.mk 6 n [] [x]) (k+k') c')
      else if f/32=5 then(match vr (zo d) n (b.drop k) (c+1) none with
       | .err e=>.err e
       | .ok l k' c'=>.ok (.mk 5 0 [] l) (k+k') c')
      else(match vS (zo d) n (b.drop k) (c+1) with
       | .err e=>.err e
       | .ok l k' c'=>.ok (.mk 4 0 [] l) (k+k') c')
theorem cf {m low:Nat}(yQ:24≤low∧low≤27) {t:List UInt8}(ht:t.length=2 ^ (low-24)) (h:(zm 0 (beN t)).length=1+2 ^ (low-24)):zm m (beN t)=u8 (m*32+low)::t:=by
 rw[zh]at h
 rcases(by omega:low=24∨low=25∨low=26∨low=27) with rfl | rfl | rfl | rfl
 ·obtain⟨a,rfl⟩:=VK (by simpa using ht);have:=a.toNat_lt;rw[RH]at h⊢;rw[sG]
  have h1:24≤a.toNat:=by
   simp at h
   repeat' split at h
   all_goals omega
  simp only[ti,rv,show ¬ a.toNat<24 by omega,show a.toNat<256 by omega,if_true,if_false]
  rw[vG (n:=a.toNat) (c:=a) (by omega)]
 ·obtain⟨a,b,rfl⟩:=VL (by simpa using ht);have ha:=a.toNat_lt;have hb:=b.toNat_lt
  rw[RI]at h⊢;obtain⟨q,hq⟩:∃ q,a.toNat*256+b.toNat=q:=⟨_,rfl⟩
  rw[hq]at h⊢
  have h1:256≤q:=by
   simp at h
   repeat' split at h
   all_goals omega
  rw[sG]
  simp only[ti,rv,show ¬ q<24 by omega,show ¬ q<256 by omega,show q<65536 by omega,if_true,if_false]
  rw[vG (n:=q/256) (c:=a) (by omega),vG (n:=q) (c:=b) (by omega)]
 ·obtain⟨a,b,c,d,rfl⟩:=Yf (by simpa using ht);have ha:=a.toNat_lt;have hb:=b.toNat_lt;have hc:=c.toNat_lt;have hd:=d.toNat_lt
  rw[RJ]at h⊢;obtain⟨q,hq⟩:∃ q,a.toNat*16777216+b.toNat*65536+c.toNat*256+d.toNat=q:=⟨_,rfl⟩
  rw[hq]at h⊢
  have h1:65536≤q:=by
   simp at h
   repeat' split at h
   all_goals omega
  rw[sG]
  simp only[ti,rv,show ¬ q<24 by omega,show ¬ q<256 by omega,show ¬ q<65536 by omega,show q<4294967296 by omega,if_true,if_false]
  rw[vG (n:=q/16777216) (c:=a) (by omega),vG (n:=q/65536) (c:=b) (by omega),vG (n:=q/256) (c:=c) (by omega),vG (n:=q) (c:=d) (by omega)]
 ·have h1:4294967296≤beN t:=by
   simp at h
   repeat' split at h
   all_goals omega
  rw[sG]
  simp only[ti,rv,show ¬ beN t<24 by omega,show ¬ beN t<256 by omega,show ¬ beN t<65536 by omega,show ¬ beN t<4294967296 by omega,if_false]
  rw[bM (by simpa using ht)]
structure HeadIs (b:List UInt8) (f n k:Nat):Prop where
 le:k≤b.length
 pos:0<k
 f_lt:f<256
 low:f%32≤27
 small:f%32<24→n=f%32∧k=1∧b.take k=[u8 f]
 wide:24≤f%32→k=1+2 ^ (f%32-24)∧∃ t,t.length=2 ^ (f%32-24)∧b.take k=u8 f::t∧n=beN t
 n_lt:n<18446744073709551616
 enc:f/32<7→zm (f/32) n=b.take k
theorem xY {b:List UInt8}{f n k:Nat}(h:zj b=.ok (f,n,k)):HeadIs b f n k:=by
 cases b with
 | nil=>cases h
 | cons g t =>
  have hg:=g.toNat_lt
  simp only[zj]at h
  split at h
  ·cases h
  rename_i q1
  split at h
  ·rename_i q2
   injection h with h
   simp only[Prod.mk.injEq]at h
   obtain⟨rfl,rfl,rfl⟩:=h;have hu:u8 g.toNat=g:=vG (by omega)
   refine⟨by simp,by omega,hg,by omega,fun _=>⟨rfl,rfl,by simp[hu]⟩,fun h=>by omega,by omega,fun h7=>?_⟩
   rw[sG]
   simp only[ti,rv,q2,if_true]
   rw[show g.toNat/32*32+g.toNat%32=g.toNat by omega,hu]
   simp
  rename_i q2
  split at h
  ·cases h
  rename_i q3
  split at h
  ·cases h
  rename_i q4
  injection h with h
  simp only[Prod.mk.injEq]at h
  obtain⟨rfl,rfl,rfl⟩:=h;have hu:u8 g.toNat=g:=vG (by omega);obtain⟨low,yQ⟩:∃ low,g.toNat%32=low:=⟨_,rfl⟩
  rw[yQ]at q1 q2 q3 q4⊢
  have hz:2 ^ (low-24)≤8:=by
   rcases(by omega:low=24∨low=25∨low=26∨low=27) with rfl | rfl | rfl | rfl <;> decide
  have TF:(t.take (2 ^ (low-24))).length=2 ^ (low-24):=by rw[List.length_take];omega
  have ht:(g::t).take (1+2 ^ (low-24))=g::t.take (2 ^ (low-24)):=by rw[Nat.add_comm,List.take_succ_cons]
  refine⟨by rw[List.length_cons];omega,by omega,hg,by omega,fun h=>by omega,fun _=>⟨by rw[yQ],_,by rw[yQ];exact TF,by rw[ht,hu],rfl⟩, ?_,fun h7=>?_⟩
  ·refine Nat.lt_of_lt_of_le (xm _) ?_
   rw[TF]
   exact Nat.pow_le_pow_right (n:=256) (by omega) hz
  ·rw[ht,cf (low:=low) (by omega) TF (by
    rcases Nat.lt_or_ge 0 1 with _ | _
    ·exact Classical.byContradiction fun h=>q4 ⟨h7,h⟩
    ·exact absurd ‹1≤0› (by omega)),show g.toNat/32*32+low=g.toNat by omega,hu]
theorem sS {n s e m:Nat}(h:n=s*9223372036854775808+e*4503599627370496+m) (hs:s≤1) (he:e<2048) (hm:m<4503599627370496) :
  n/4503599627370496%2048=e∧n%4503599627370496=m∧n/9223372036854775808=s:=by subst h;refine⟨?_, ?_, ?_⟩ <;> omega
theorem ey {n v s x f:Nat}(h:gB n v s x f):yg n 5 10=some v:=by
 obtain⟨a1,a2,a3,a4,h⟩:=h
 rcases h with ⟨h1,h2,h3⟩ | ⟨h1,h2,h3⟩ | ⟨h1,h2,h3⟩ | ⟨h1,t,full,h2,h3,h4,h5,h6,h7⟩
 ·obtain⟨k1,k2,k3⟩:=sS (n:=n) (s:=s) (e:=2047) (m:=0) (by rw[h3]) a1 (by omega) (by omega);rw[yg]
  simp only[Nat.reducePow,Nat.reduceSub,Nat.reduceAdd,Nat.reduceMul]
  rw[k1,k2,k3,if_pos rfl,if_pos rfl];congr 1;omega
 ·obtain⟨k1,k2,k3⟩:=sS (n:=n) (s:=s) (e:=0) (m:=0) (by rw[h3,Nat.zero_mul,Nat.add_zero]) a1 (by omega) (by omega);rw[yg]
  simp only[Nat.reducePow,Nat.reduceSub,Nat.reduceAdd,Nat.reduceMul]
  rw[k1,k2,k3,if_neg (by omega),if_pos rfl,if_pos rfl];congr 1;omega
 ·obtain⟨k1,k2,k3⟩:=sS (n:=n) (s:=s) (e:=x+1008) (m:=f*4398046511104) (by omega) a1 (by omega) (by omega);rw[yg]
  simp only[Nat.reducePow,Nat.reduceSub,Nat.reduceAdd,Nat.reduceMul]
  rw[k1,k2,k3];rw[if_neg (by omega),if_neg (by omega),if_neg (by omega),if_pos (by omega),if_pos (by omega)];congr 1;omega
 ·have e2:2 ^ (t+1)*2 ^ (52-t)=9007199254740992:=by
   rw[← Nat.pow_add,show t+1+(52-t)=53 by omega]
  have b2:=Nat.mul_lt_mul_of_pos_right h4 (Nat.two_pow_pos (52-t));rw[e2,← h5]at b2;obtain⟨k1,k2,k3⟩:=sS (n:=n) (s:=s) (e:=999+t) (m:=full-4503599627370496) h7 a1 (by omega) (by omega);rw[yg]
  simp only[Nat.reducePow,Nat.reduceSub,Nat.reduceAdd,Nat.reduceMul]
  rw[k1,k2,k3];rw[if_neg (by omega),if_neg (by omega),if_neg (by omega),if_neg (by omega),if_neg (by omega),show 43+(1023-(999+t)-15)=52-t by omega,show full-4503599627370496+4503599627370496=full by omega,h5,if_pos (Nat.mul_mod_left _ _),Nat.mul_div_cancel _ (Nat.two_pow_pos _)];congr 1;omega
theorem rP {f t:Nat}(h1:2 ^ t≤f) (h2:f<2 ^ (t+1)) (ht:t≤52):4503599627370496≤f*2 ^ (52-t)∧f*2 ^ (52-t)<9007199254740992:=by
 have e1:2 ^ t*2 ^ (52-t)=4503599627370496:=by
  rw[← Nat.pow_add,show t+(52-t)=52 by omega]
 have e2:2 ^ (t+1)*2 ^ (52-t)=9007199254740992:=by
  rw[← Nat.pow_add,show t+1+(52-t)=53 by omega]
 have b1:=Nat.mul_le_mul_right (2 ^ (52-t)) h1;have b2:=Nat.mul_lt_mul_of_pos_right h2 (Nat.two_pow_pos (52-t))
 omega
theorem qj {v:Nat}(hv:v<65536) (hn:¬ (v/1024%32=31∧v%1024≠0)):gB (xJ v) v (v/32768) (v/1024%32) (v%1024)∧xJ v<18446744073709551616:=by
 obtain⟨s,hs⟩:∃ s,v/32768=s:=⟨_,rfl⟩
 obtain⟨x,hx⟩:∃ x,v/1024%32=x:=⟨_,rfl⟩
 obtain⟨f,hf⟩:∃ f,v%1024=f:=⟨_,rfl⟩
 have xE:s≤1:=by omega
 have pD:x≤31:=by omega
 have nG:f<1024:=by omega
 have bH:v=s*32768+x*1024+f:=by omega
 rw[hx,hf]at hn;rw[xJ,hs,hx,hf];clear hs hx hf
 by_cases h1:x=31
 ·have h0:f=0:=by omega
  subst h0;rw[if_pos h1]
  exact⟨⟨xE,bH,by omega,pD,.inl ⟨h1,rfl,by omega⟩⟩,by omega⟩
 rw[if_neg h1]
 by_cases h2:x=0
 ·rw[if_pos h2]
  by_cases h0:f=0
  ·rw[if_pos h0]
   exact⟨⟨xE,bH,by omega,pD,.inr (.inl ⟨h2,h0,rfl⟩)⟩,by omega⟩
  ·rw[if_neg h0];have a1:2 ^ f.log2≤f:=Nat.log2_self_le h0;have a2:f<2 ^ (f.log2+1):=Nat.lt_log2_self;have a3:f.log2<10:=(Nat.log2_lt h0).2 (by simpa using nG)
   generalize f.log2=t at a1 a2 a3
   have b:=rP a1 a2 (by omega);obtain⟨full,uJ⟩:∃ full,f*2 ^ (52-t)=full:=⟨_,rfl⟩
   rw[uJ]at b⊢
   exact⟨⟨xE,bH,by omega,pD,.inr (.inr (.inr ⟨h2,t,full,a3,a1,a2,uJ.symm,b.1,rfl⟩))⟩,by omega⟩
 ·rw[if_neg h2]
  exact⟨⟨xE,bH,by omega,pD,.inr (.inr (.inl ⟨by omega,by omega,rfl⟩))⟩,by omega⟩
theorem ql {v:Nat}(hv:v<4294967296) (hn:¬ (v/8388608%256=255∧v%8388608≠0)):ru (wl v) v (v/2147483648) (v/8388608%256) (v%8388608)∧wl v<18446744073709551616:=by
 obtain⟨s,hs⟩:∃ s,v/2147483648=s:=⟨_,rfl⟩
 obtain⟨x,hx⟩:∃ x,v/8388608%256=x:=⟨_,rfl⟩
 obtain⟨f,hf⟩:∃ f,v%8388608=f:=⟨_,rfl⟩
 have xE:s≤1:=by omega
 have pD:x≤255:=by omega
 have nG:f<8388608:=by omega
 have bH:v=s*2147483648+x*8388608+f:=by omega
 rw[hx,hf]at hn;rw[wl,hs,hx,hf];clear hs hx hf
 by_cases h1:x=255
 ·have h0:f=0:=by omega
  subst h0;rw[if_pos h1]
  exact⟨⟨xE,bH,by omega,pD,.inl ⟨h1,rfl,by omega⟩⟩,by omega⟩
 rw[if_neg h1]
 by_cases h2:x=0
 ·rw[if_pos h2]
  by_cases h0:f=0
  ·rw[if_pos h0]
   exact⟨⟨xE,bH,by omega,pD,.inr (.inl ⟨h2,h0,rfl⟩)⟩,by omega⟩
  ·rw[if_neg h0];have a1:2 ^ f.log2≤f:=Nat.log2_self_le h0;have a2:f<2 ^ (f.log2+1):=Nat.lt_log2_self;have a3:f.log2<23:=(Nat.log2_lt h0).2 (by simpa using nG)
   generalize f.log2=t at a1 a2 a3
   have b:=rP a1 a2 (by omega);obtain⟨full,uJ⟩:∃ full,f*2 ^ (52-t)=full:=⟨_,rfl⟩
   rw[uJ]at b⊢
   exact⟨⟨xE,bH,by omega,pD,.inr (.inr (.inr ⟨h2,t,full,a3,a1,a2,uJ.symm,b.1,rfl⟩))⟩,by omega⟩
 ·rw[if_neg h2]
  exact⟨⟨xE,bH,by omega,pD,.inr (.inr (.inl ⟨by omega,by omega,rfl⟩))⟩,by omega⟩
theorem Yh {n s m:Nat}(h:n=s*9223372036854775808+2047*4503599627370496+m) (hs:s≤1) (hm:m<4503599627370496) (h0:m≠0):isNaN n=true:=by
 obtain⟨k1,k2,_⟩:=sS h hs (by omega) hm;rw[isNaN]
 simp only[Nat.reducePow,k1,k2]
 simp[h0]
theorem tt {n e m s:Nat}(h:n=s*9223372036854775808+e*4503599627370496+m) (hs:s≤1) (he:e≤2047) (hm:m<4503599627370496) (h0:e=2047→m=0):isNaN n=false:=by
 obtain⟨k1,k2,_⟩:=sS h hs (by omega) hm;rw[isNaN]
 simp only[Nat.reducePow,k1,k2]
 rcases Nat.lt_or_ge e 2047 with h' | h'
 ·have:(e==2047)=false:=by simp;omega
  rw[this];rfl
 ·rw[h0 (by omega)];simp
theorem nQ {n v s x f:Nat}(h:gB n v s x f):isNaN n=false:=by
 obtain⟨a1,a2,a3,a4,h⟩:=h
 rcases h with ⟨h1,h2,h3⟩ | ⟨h1,h2,h3⟩ | ⟨h1,h2,h3⟩ | ⟨h1,t,full,h2,h3,h4,h5,h6,h7⟩
 ·exact tt (s:=s) (e:=2047) (m:=0) (by rw[h3]) a1 (by omega) (by omega) (fun _=>rfl)
 ·exact tt (s:=s) (e:=0) (m:=0) (by rw[h3,Nat.zero_mul,Nat.add_zero]) a1 (by omega) (by omega) (fun _=>rfl)
 ·exact tt (s:=s) (e:=x+1008) (m:=f*4398046511104) (by omega) a1 (by omega) (by omega) (fun h=>by omega)
 ·have b:=rP h3 h4 (by omega);rw[← h5]at b
  exact tt (s:=s) (e:=999+t) (m:=full-4503599627370496) h7 a1 (by omega) (by omega) (fun h=>by omega)
theorem nR {n v s x f:Nat}(h:ru n v s x f):isNaN n=false:=by
 obtain⟨a1,a2,a3,a4,h⟩:=h
 rcases h with ⟨h1,h2,h3⟩ | ⟨h1,h2,h3⟩ | ⟨h1,h2,h3⟩ | ⟨h1,t,full,h2,h3,h4,h5,h6,h7⟩
 ·exact tt (s:=s) (e:=2047) (m:=0) (by rw[h3]) a1 (by omega) (by omega) (fun _=>rfl)
 ·exact tt (s:=s) (e:=0) (m:=0) (by rw[h3,Nat.zero_mul,Nat.add_zero]) a1 (by omega) (by omega) (fun _=>rfl)
 ·exact tt (s:=s) (e:=x+896) (m:=f*536870912) (by omega) a1 (by omega) (by omega) (fun h=>by omega)
 ·have b:=rP h3 h4 (by omega);rw[← h5]at b
  exact tt (s:=s) (e:=874+t) (m:=full-4503599627370496) h7 a1 (by omega) (by omega) (fun h=>by omega)
theorem kQ {v:Nat}(hv:v<65536) (h:v/1024%32=31∧v%1024≠0):isNaN (xJ v)=true∧(xJ v=zT↔v=32256):=by
 obtain⟨h1,h2⟩:=h;have e:xJ v=v/32768*9223372036854775808+2047*4503599627370496+v%1024*4398046511104:=by rw[xJ,if_pos h1]
 refine⟨Yh e (by omega) (by omega) (by omega), ?_⟩
 rw[e,zT]
 omega
theorem kR {v:Nat}(hv:v<4294967296) (h:v/8388608%256=255∧v%8388608≠0):isNaN (wl v)=true:=by
 obtain⟨h1,h2⟩:=h;have e:wl v=v/2147483648*9223372036854775808+2047*4503599627370496+v%8388608*536870912:=by rw[wl,if_pos h1]
 exact Yh e (by omega) (by omega) (by omega)
theorem tx {n:Nat}(h:isNaN n=true):zF n=[u8 249,u8 126,u8 0]:=by rw[zF,if_pos h]
theorem mN {n:Nat}(h:isNaN n=false):(zF n).length=(if(yg n 5 10).isSome then 3 else if(yg n 8 23).isSome then 5 else 9):=by
 rw[zF,if_neg (by simp[h])]
 cases yg n 5 10 with
 | some v=>rfl
 | none=>cases yg n 8 23 with
  | some v=>rfl
  | none=>simp[vR]
theorem cW {low n f:Nat}(hl:25≤low∧low≤27) {t:List UInt8}(ht:t.length=2 ^ (low-24)) (hn:n=beN t) (hf:f=uw low n)
  (h1:¬ (isNaN f=true∧f≠zT)) (h2:(zF f).length=1+2 ^ (low-24)):zF f=u8 (7*32+low)::t∧f<18446744073709551616:=by
 rcases(by omega:low=25∨low=26∨low=27) with rfl | rfl | rfl
 ·obtain⟨a,b,rfl⟩:=VL (by simpa using ht);have ha:=a.toNat_lt;have hb:=b.toNat_lt
  rw[RI]at hn;have hv:n<65536:=by omega
  rw[uw,if_pos rfl]at hf
  by_cases hx:n/1024%32=31∧n%1024≠0
  ·obtain⟨q1,q2⟩:=kQ hv hx;rw[← hf]at q1 q2;have Vb:f=zT:=Classical.byContradiction fun h=>h1 ⟨q1,h⟩
   have tb:=q2.1 Vb;rw[tx q1]
   refine⟨?_,by rw[Vb];decide⟩
   rw[vG (n:=126) (c:=a) (by omega),vG (n:=0) (c:=b) (by omega)]
  ·obtain⟨q1,q2⟩:=qj hv hx;rw[← hf]at q1 q2
   refine⟨?_,q2⟩
   rw[zF,if_neg (by rw[nQ q1];simp),ey q1]
   simp only
   rw[vG (n:=n/256) (c:=a) (by omega),vG (n:=n) (c:=b) (by omega)]
 ·obtain⟨a,b,c,d,rfl⟩:=Yf (by simpa using ht);have ha:=a.toNat_lt;have hb:=b.toNat_lt;have hc:=c.toNat_lt;have hd:=d.toNat_lt
  rw[RJ]at hn;have hv:n<4294967296:=by omega
  rw[uw,if_neg (by omega),if_pos rfl]at hf
  by_cases hx:n/8388608%256=255∧n%8388608≠0
  ·have q1:=kR hv hx;rw[← hf]at q1;rw[tx q1]at h2
   simp at h2
  ·obtain⟨q1,q2⟩:=ql hv hx;rw[← hf]at q1 q2
   refine⟨?_,q2⟩
   have q3:=nR q1;have q4:=pd q1;rw[mN q3,q4]at h2
   have q5:yg f 5 10=none:=by
    cases h:yg f 5 10 with
    | none=>rfl
    | some v=>rw[h]at h2;simp at h2
   rw[zF,if_neg (by rw[q3];simp),q5,q4]
   simp only
   rw[vG (n:=n/16777216) (c:=a) (by omega),vG (n:=n/65536) (c:=b) (by omega),vG (n:=n/256) (c:=c) (by omega),vG (n:=n) (c:=d) (by omega)]
 ·have O0:t.length=8:=by simpa using ht
  have hb:=xm t;rw[O0,← hn]at hb;rw[uw,if_neg (by omega),if_neg (by omega)]at hf;subst hf
  refine⟨?_,by omega⟩
  cases q3:isNaN f with
  | true =>
   rw[tx q3]at h2
   simp at h2
  | false =>
   rw[mN q3]at h2
   have q5:yg f 5 10=none:=by
    cases h:yg f 5 10 with
    | none=>rfl
    | some v=>rw[h]at h2;simp at h2
   have q6:yg f 8 23=none:=by
    cases h:yg f 8 23 with
    | none=>rfl
    | some v=>rw[h,q5]at h2;simp at h2
   rw[zF,if_neg (by rw[q3];simp),q5,q6]
   simp only
   rw[hn,bM O0]
theorem uX {low n:Nat}{x:Itm}(hl:low≤27) {t:List UInt8}(ta:low<24→n=low∧t=[]) (hw:24≤low→t.length=2 ^ (low-24)∧n=beN t) (h:yK low n=.ok x) :
  zd x=u8 (7*32+low)::t∧(∀ lv,Good x lv)∧x.n<18446744073709551616∧x.items=[]∧cnt x=1:=by
 rw[yK]at h
 have good7:∀ (n:Nat),(n<24∨32≤n∧n<256)→∀ lv,Good (.mk 7 n [] []) lv:=fun n hn lv=>by
  rw[Good]
  refine⟨?_, ?_,fun h=>by omega⟩
  ·rw[xZ,if_pos (by simp[yZ,Itm.kind])]
   rcases hn with hn | ⟨h1,h2⟩ <;> simp[yq,Itm.kind,Itm.n,Itm.bytes,Itm.items, *]
  ·rw[GoodL];trivial
 split at h
 ·rename_i q1
  injection h with h
  subst h;obtain⟨rfl,rfl⟩:=ta q1
  refine⟨?_,good7 _ (.inl q1),by simp only[Itm.n];omega,rfl,by simp[cnt,wG]⟩
  rw[xf,if_neg (by simp[Itm.kind]),if_neg (by simp[Itm.n];omega)];have e:numP (.mk 7 n [] [])=n:=by simp[numP,Itm.kind,Itm.n]
  rw[e,zm,if_pos q1]
  simp[Itm.bytes,Itm.items,Itm.kind,zB]
 split at h
 ·rename_i q1 q2
  subst q2
  split at h
  ·cases h
  rename_i q3
  injection h with h
  subst h;obtain⟨ht,hn⟩:=hw (by omega);obtain⟨a,rfl⟩:=VK (by simpa using ht);have ha:=a.toNat_lt;rw[RH]at hn
  refine⟨?_,good7 _ (.inr (by omega)),by simp only[Itm.n];omega,rfl,by simp[cnt,wG]⟩
  rw[xf,if_neg (by simp[Itm.kind]),if_pos (by simp[Itm.n,Itm.kind];omega)]
  simp only[Itm.n]
  rw[vG (n:=n) (c:=a) (by omega)]
 ·rename_i q1 q2
  split at h
  ·cases h
  rename_i q3
  injection h with h
  subst h;obtain⟨ht,hn⟩:=hw (by omega)
  simp only[Bool.or_eq_true,Bool.and_eq_true,bne_iff_ne,ne_eq,not_or]at q3
  obtain⟨q3,q4⟩:=q3;have q4':=Classical.not_not.1 q4;obtain⟨e,he⟩:=cW (low:=low) (n:=n) (by omega) ht hn rfl q3 q4'
  refine⟨?_,fun lv=>?_,he,rfl,by simp[cnt,wG]⟩
  ·rw[xf,if_pos (by simp[Itm.kind])]
   exact e
  ·rw[Good]
   refine⟨?_,by rw[GoodL];trivial,fun h=>by omega⟩
   rw[xZ,if_pos (by simp[yZ,Itm.kind])]
   simp[yq,Itm.kind,Itm.n,Itm.bytes,Itm.items]
   cases hN:isNaN (uw low n) with
   | false=>exact .inl rfl
   | true=>exact .inr (Classical.byContradiction fun h=>q3 ⟨hN,h⟩)
structure Read (d:Nat) (b:List UInt8) (c:Nat) (x:Itm) (k c':Nat):Prop where
 le:k≤b.length
 pos:0<k
 enc:zd x=b.take k
 cnt:c'=c+cnt x
 lim:c'≤256
 good:∀ lv,lv+d=8→Good x lv
 nums:Nums x
structure ReadL (d:Nat) (b:List UInt8) (c:Nat) (l:List Itm) (n k c':Nat):Prop where
 le:k≤b.length
 enc:zB l=b.take k
 cnt:c'=c+wG l
 lim:c'≤256
 good:∀ lv,lv+d=8→GoodL l lv
 nums:NumsL l
 len:l.length=n
theorem vP {α:Type}(b:List α) (k k':Nat):b.take (k+k')=b.take k++(b.drop k).take k':=List.take_add
theorem fO {d:Nat}{p:List UInt8→Nat→PR}(hp:∀ b c x k c',p b c=.ok x k c'→Read d b c x k c') :
  ∀ (n:Nat) (b:List UInt8) (c:Nat) (l:List Itm) (k c':Nat),c≤256→vS p n b c=.ok l k c'→ReadL d b c l n k c'
 | 0,b,c,l,k,c',hc,h=>by
  rw[vS]at h;injection h with h1 h2 h3
  subst h1 h2 h3
  exact⟨by omega,by simp[zB],by simp[wG],hc,fun lv _=>by rw[GoodL];trivial,by rw[NumsL];trivial,rfl⟩
 | n+1,b,c,l,k,c',hc,h=>by
  rw[vS]at h
  split at h
  ·cases h
  rename_i x k1 c1 h1
  split at h
  ·cases h
  rename_i l1 k2 c2 h2
  injection h with e1 e2 e3
  subst e1 e2 e3;have r1:=hp _ _ _ _ _ h1;have r2:=fO hp n _ _ _ _ _ r1.lim h2;have hl:=r2.le;rw[List.length_drop]at hl;have:=r1.le
  refine⟨by omega, ?_, ?_,r2.lim,fun lv hlv=>?_, ?_,by rw[List.length_cons,r2.len]⟩
  ·rw[zB,r1.enc,r2.enc,vP]
  ·rw[wG,r2.cnt,r1.cnt];omega
  ·rw[GoodL];exact⟨r1.good lv hlv,r2.good lv hlv⟩
  ·rw[NumsL];exact⟨r1.nums,r2.nums⟩
def Vh (last:Option (List UInt8)) (l:List Itm):Prop :=
 xX l=true∧∀ q,last=some q→∀ x t,l=x::t→Lib.compareBytes q (zd x)<0
theorem iC:∀ a b:List UInt8,¬ Lib.compareBytes a b=0→¬ Lib.compareBytes a b<0→Lib.compareBytes b a<0
 | [],[],h,_=>absurd rfl h
 | [],_::_,_,h=>absurd (by show(-1:Int)<0;decide) h
 | _::_,[],_,_=>by show(-1:Int)<0;decide
 | x::a,y::b,h,k=>by
  rw[Lib.compareBytes]at h k⊢
  split at h
  ·rename_i h1
   rw[if_pos h1]at k
   exact absurd (by decide) k
  rename_i h1
  rw[if_neg h1]at k
  split at h
  ·rename_i h2
   rw[if_pos h2];decide
  rename_i h2
  rw[if_neg h2]at k;rw[if_neg h2,if_neg h1]
  exact iC a b h k
theorem aI {last:Option (List UInt8)}{key:List UInt8}(h:tB last key=none):∀ q,last=some q→Lib.compareBytes q key<0:=by
 intro q hq
 subst hq;rw[tB]at h
 split at h
 ·cases h
 split at h
 ·cases h
 rename_i h1 h2
 exact iC _ _ h1 h2
theorem ff {d:Nat}{p:List UInt8→Nat→PR}(hp:∀ b c x k c',p b c=.ok x k c'→Read d b c x k c') :
  ∀ (n:Nat) (b:List UInt8) (c:Nat) (last:Option (List UInt8)) (l:List Itm) (k c':Nat),c≤256→vr p n b c last=.ok l k c'→ReadL d b c l (2*n) k c'∧Vh last l
 | 0,b,c,last,l,k,c',hc,h=>by
  rw[vr]at h;injection h with h1 h2 h3
  subst h1 h2 h3
  exact⟨⟨by omega,by simp[zB],by simp[wG],hc,fun lv _=>by rw[GoodL];trivial,by rw[NumsL];trivial,rfl⟩,rfl,fun _ _ _ _ h=>by cases h⟩
 | n+1,b,c,last,l,k,c',hc,h=>by
  rw[vr]at h
  split at h
  ·cases h
  rename_i x k1 c1 h1
  split at h
  ·cases h
  rename_i hk
  split at h
  ·cases h
  rename_i y k2 c2 h2
  split at h
  ·cases h
  rename_i l1 k3 c3 h3
  injection h with e1 e2 e3
  subst e1 e2 e3;have r1:=hp _ _ _ _ _ h1;have r2:=hp _ _ _ _ _ h2;obtain⟨r3,a1,a2⟩:=ff hp n _ _ _ _ _ _ r2.lim h3;have rX:=r2.le;have XD:=r3.le;rw[List.length_drop]at rX XD;have:=r1.le
  refine⟨⟨by omega, ?_, ?_,r3.lim,fun lv hlv=>?_, ?_,by rw[List.length_cons,List.length_cons,r3.len];omega⟩, ?_,fun q hq x' t ht=>?_⟩
  ·rw[zB,zB,r1.enc,r2.enc,r3.enc,← List.append_assoc,← vP,← vP]
  ·rw[wG,wG,r3.cnt,r2.cnt,r1.cnt];omega
  ·rw[GoodL,GoodL];exact⟨r1.good lv hlv,r2.good lv hlv,r3.good lv hlv⟩
  ·rw[NumsL,NumsL];exact⟨r1.nums,r2.nums,r3.nums⟩
  ·cases l1 with
   | nil=>rfl
   | cons z l2 =>
    rw[xX,a1];have:=a2 _ rfl z l2 rfl;rw[← r1.enc]at this
    simp[this]
  ·injection ht with ht _
   subst ht;rw[r1.enc]
   exact aI hk q hq
theorem iw {x:Itm}(h:∀ lv,xZ x lv=true) (hi:x.items=[]) (h5:x.kind≠5):∀ lv,Good x lv:=fun lv =>
 Good.of (h lv) (by rw[hi,GoodL];trivial) (fun h=>absurd h h5)
theorem oN:∀ (d:Nat) (b:List UInt8) (c:Nat) (x:Itm) (k c':Nat),zo d b c=.ok x k c'→Read d b c x k c':=by
 intro d
 induction d using Nat.strongRecOn with
 | _ d ih =>
  intro b c x k c' h
  rw[zo.eq_def]at h
  simp only at h
  split at h
  ·cases h
  rename_i hc
  split at h
  ·cases h
  rename_i f n k1 hh
  have H:=xY hh;have yQ:=H.low;have hf:=H.f_lt
  split at h
  ·rename_i h1
   injection h with e1 e2 e3
   subst e1 e2 e3;have hk:f/32=0∨f/32=1:=by omega
   refine⟨H.le,H.pos, ?_,by simp[cnt,wG],by omega,fun lv _=>iw (fun lv=>?_) rfl (by simp only[Itm.kind];omega) lv, ?_⟩
   ·rw[← H.enc (by omega),xf,if_neg (by simp only[Itm.kind];omega),if_neg (by simp only[Itm.kind];omega)]
    have e:numP (.mk (f/32:Nat) n [] [])=n:=by
     rw[numP,if_neg (by simp only[Itm.kind];omega),if_neg (by simp only[Itm.kind];omega),if_neg (by simp only[Itm.kind];omega)];rfl
    rw[e,show(Itm.mk (f/32:Nat) n [] []).kind.toNat=f/32 from rfl]
    simp[Itm.bytes,Itm.items,zB]
   ·rw[xZ]
    rcases hk with hk | hk <;> simp[yZ,yq,Itm.kind,Itm.bytes,Itm.items,hk]
   ·rw[Nums];exact⟨H.n_lt,by rw[NumsL];trivial⟩
  rename_i h1
  split at h
  ·rename_i h3
   split at h
   ·cases h
   rename_i h4
   split at h
   ·cases h
   rename_i h5
   injection h with e1 e2 e3
   subst e1 e2 e3;have hk:f/32=2∨f/32=3:=by omega
   have tw:=H.le;have zK:((b.drop k1).take n).length=n:=by rw[List.length_take,List.length_drop];omega
   have hn:=H.n_lt;have yI:=H.pos
   refine⟨by omega,by omega, ?_,by simp[cnt,wG],by omega,fun lv _=>iw (fun lv=>?_) rfl (by simp only[Itm.kind];omega) lv, ?_⟩
   ·rw[vP,← H.enc (by omega),xf,if_neg (by simp only[Itm.kind];omega),if_neg (by simp only[Itm.kind];omega)]
    have e:numP (.mk (f/32:Nat) 0 ((b.drop k1).take n) [])=n:=by
     rw[numP,if_pos (by simp only[Itm.kind];omega)]
     exact zK
    rw[e,show(Itm.mk (f/32:Nat) 0 ((b.drop k1).take n) []).kind.toNat=f/32 from rfl]
    simp[Itm.bytes,Itm.items,zB]
   ·rw[xZ]
    rcases hk with hk | hk
    ·simp[yZ,yq,Itm.kind,Itm.bytes,Itm.items,Itm.n,hk]
    ·have:Lib.validD ((b.drop k1).take n)=true:=by
      cases h:Lib.validD ((b.drop k1).take n) with
      | true=>rfl
      | false=>exact absurd ⟨hk,h⟩ h5
     simp[yZ,yq,Itm.kind,Itm.bytes,Itm.items,Itm.n,hk,this]
   ·rw[Nums];exact⟨by omega,by rw[NumsL];trivial⟩
  rename_i h3
  split at h
  ·rename_i h7
   split at h
   ·cases h
   rename_i y hs
   injection h with e1 e2 e3
   subst e1 e2 e3;have hu:u8 f=u8 (7*32+f%32):=by rw[show 7*32+f%32=f by omega]
   rcases Nat.lt_or_ge (f%32) 24 with hl | hl
   ·obtain⟨s1,s2,s3⟩:=H.small hl;obtain⟨g1,g2,g3,g4,g5⟩:=uX (low:=f%32) (t:=[]) (by omega) (fun _=>⟨s1,rfl⟩) (fun h=>by omega) hs
    refine⟨H.le,H.pos,by rw[s3,g1,hu],by rw[g5],by omega,fun lv _=>g2 lv, ?_⟩
    cases y
    rw[Nums]
    simp only[Itm.items]at g4
    subst g4
    exact⟨g3,by rw[NumsL];trivial⟩
   ·obtain⟨s1,t,s2,s3,s4⟩:=H.wide hl;obtain⟨g1,g2,g3,g4,g5⟩:=uX (low:=f%32) (t:=t) (by omega) (fun h=>by omega) (fun _=>⟨s2,s4⟩) hs
    refine⟨H.le,H.pos,by rw[s3,g1,hu],by rw[g5],by omega,fun lv _=>g2 lv, ?_⟩
    cases y
    rw[Nums]
    simp only[Itm.items]at g4
    subst g4
    exact⟨g3,by rw[NumsL];trivial⟩
  rename_i h7
  cases d with
  | zero=>cases h
  | succ d =>
   simp only at h
   have hd:d<d+1:=by omega
   have yI:=H.pos
   split at h
   ·rename_i h6
    split at h
    ·cases h
    rename_i y k2 c2 hy
    injection h with e1 e2 e3
    subst e1 e2 e3;have r:=ih d hd _ _ _ _ _ hy;have tw:=H.le;have hl:=r.le;rw[List.length_drop]at hl
    refine⟨by omega,by omega, ?_, ?_,r.lim,fun lv hlv=>Good.of ?_ ?_ (fun h=>by simp only[Itm.kind]at h;omega), ?_⟩
    ·rw[vP,← H.enc (by omega),xf,if_neg (by simp only[Itm.kind];omega),if_neg (by simp only[Itm.kind];omega),h6];have e:numP (.mk 6 n [] [y])=n:=by simp[numP,Itm.kind,Itm.n]
     rw[e,← r.enc]
     simp[Itm.kind,Itm.bytes,Itm.items,zB]
    ·rw[cnt,wG,wG,r.cnt];omega
    ·rw[xZ,if_neg (by simp[yZ,Itm.kind])]
     simp[vj,Itm.kind,Itm.bytes,Itm.items,Itm.n]
     omega
    ·simp only[Itm.items]
     rw[GoodL,GoodL]
     exact⟨r.good _ (by omega),trivial⟩
    ·rw[Nums,NumsL,NumsL]
     exact⟨H.n_lt,r.nums,trivial⟩
   rename_i h6
   split at h
   ·rename_i h5
    split at h
    ·cases h
    rename_i l k2 c2 hy
    injection h with e1 e2 e3
    subst e1 e2 e3;obtain⟨r,asc,_⟩:=ff (ih d hd) _ _ _ _ _ _ _ (by omega) hy;have tw:=H.le;have hl:=r.le;have zK:=r.len;rw[List.length_drop]at hl
    refine⟨by omega,by omega, ?_, ?_,r.lim,fun lv hlv=>Good.of ?_ ?_ (fun _=>asc), ?_⟩
    ·rw[vP,← H.enc (by omega),xf,if_neg (by simp only[Itm.kind];omega),if_neg (by simp only[Itm.kind];omega),h5];have e:numP (.mk 5 0 [] l)=n:=by simp[numP,Itm.kind,Itm.n,Itm.items,zK]
     rw[e,← r.enc]
     simp[Itm.kind,Itm.bytes,Itm.items]
    ·rw[cnt,r.cnt];omega
    ·rw[xZ,if_neg (by simp[yZ,Itm.kind])]
     simp[vj,Itm.kind,Itm.bytes,Itm.items,Itm.n,zK]
     omega
    ·exact r.good _ (by omega)
    ·rw[Nums]
     exact⟨by omega,r.nums⟩
   rename_i h5
   split at h
   ·cases h
   rename_i l k2 c2 hy
   injection h with e1 e2 e3
   subst e1 e2 e3;have h4:f/32=4:=by omega
   have r:=fO (ih d hd) _ _ _ _ _ _ (by omega) hy;have tw:=H.le;have hl:=r.le;have zK:=r.len;rw[List.length_drop]at hl
   refine⟨by omega,by omega, ?_, ?_,r.lim,fun lv hlv=>Good.of ?_ ?_ (fun h=>by simp only[Itm.kind]at h;omega), ?_⟩
   ·rw[vP,← H.enc (by omega),xf,if_neg (by simp only[Itm.kind];omega),if_neg (by simp only[Itm.kind];omega),h4];have e:numP (.mk 4 0 [] l)=n:=by simp[numP,Itm.kind,Itm.n,Itm.items,zK]
    rw[e,← r.enc]
    simp[Itm.kind,Itm.bytes,Itm.items]
   ·rw[cnt,r.cnt];omega
   ·rw[xZ,if_neg (by simp[yZ,Itm.kind])]
    simp[vj,Itm.kind,Itm.bytes,Itm.items,Itm.n,zK]
    omega
   ·exact r.good _ (by omega)
   ·rw[Nums]
    exact⟨by omega,r.nums⟩
def bJ (p:List UInt8→Nat→PR):Prop:=∀ b c x k c',p b c=.ok x k c'→c<c'∧c'≤256
theorem Vn (x:Itm):0<cnt x:=by rw[pm];omega
theorem vU (d:Nat):bJ (zo d):=fun b c x k c' h=>by
 have r:=oN d b c x k c' h;have:=Vn x
 exact⟨by rw[r.cnt];omega,r.lim⟩
theorem bS {p:List UInt8→Nat→PR}(hp:bJ p):∀ (m n:Nat) (b:List UInt8) (c:Nat) (last:Option (List UInt8)),256<c+m→256<c+n→c≤256→vr p m b c last=vr p n b c last
 | 0,n,b,c,last,h1,_,h3=>by omega
 | m+1,0,b,c,last,_,h2,h3=>by omega
 | m+1,n+1,b,c,last,h1,h2,h3=>by
  rw[vr,vr]
  cases h:p b c with
  | err e=>rfl
  | ok x k c1 =>
   have a1:=hp _ _ _ _ _ h
   simp only
   cases tB last (b.take k) with
   | some e=>rfl
   | none =>
    simp only
    cases h':p (b.drop k) c1 with
    | err e=>rfl
    | ok y k2 c2 =>
     have a2:=hp _ _ _ _ _ h'
     simp only
     rw[bS hp m n (b.drop (k+k2)) c2 (some (b.take k)) (by omega) (by omega) a2.2]
def tg (b:List UInt8):PR:=zo 8 (b.take 4096) 0
def xB (b:List UInt8):Except Nat Itm :=
 if 4096<b.length then .error 8 else match tg b with
 | .err e=>.error e
 | .ok x k _=>if k<b.length then .error 9 else .ok x
structure Ext where
 label:Int
 has:Bool
 val:List UInt8
def SI (x:Itm) (lim:Nat):Option Int :=
 if x.kind=0∧x.n≤lim then some (x.n:Int) else if x.kind=1∧x.n<lim then some (-1-(x.n:Int)) else none
def SG (n:Int):List UInt8:=if n<0 then zm 1 (-1-n).toNat else zm 0 n.toNat
def iD:Nat→List Ext→List UInt8→Except Nat (List Ext)
 | 0,out,_=>.ok out
 | n+1,out,b =>
  if b.length=0 then .ok out
  else match tg b with
   | .err e=>.error e
   | .ok x k _ =>
    if x.kind=2 then
     (match out.getLast? with
     | none=>.error 4
     | some l =>
      if l.has then .error 4 else if 600<x.bytes.length then .error 8
      else iD n (out.dropLast++[{ l with has:=true,val:=x.bytes }]) (b.drop k))
    else match SI x 65535 with
     | none=>.error 4
     | some v=>if out.length=4 then .error 8 else iD n (out++[{ label:=v,has:=false,val:=[] }]) (b.drop k)
def Tj (b:List UInt8):Except Nat (List Ext):=iD (b.length+1) [] b
def Yj (c:UInt8):Bool:=decide (c.toNat<24)||decide (32≤c.toNat)&&decide (c.toNat<56)
def aU (b:List UInt8):Except Nat (List UInt8×Nat) :=
 match b with
 | []=>.error 2
 | x::t =>
  if Yj x then .ok ([x],1)
  else if x.toNat<64∨88<x.toNat then .error 4
  else if 7<x.toNat-64 then .error 8
  else if b.length<1+(x.toNat-64) then .error 2
  else if x.toNat-64=1∧Yj (b.getD 1 0) then .error 4
  else .ok (t.take (x.toNat-64),1+(x.toNat-64))
def VO:List Int→Bool
 | []=>false
 | x::l=>l.contains x||VO l
structure First where
 method:Int
 suites:List Int
 gx:List UInt8
 conn:List UInt8
 ext:List Ext
def VN:List Itm→Option (List Int)
 | []=>some []
 | x::l=>match SI x 65535 with
  | none=>none
  | some v=>if v<0 then none else match VN l with
   | none=>none
   | some t=>some (v::t)
def WO (x:Itm):Except Nat (List Int) :=
 if x.kind=0 then(if x.n≤65535 then .ok [(x.n:Int)] else .error 4)
 else if x.kind≠4∨x.items.length<2 then .error 4
 else match VN x.items with
  | none=>.error 4
  | some l=>if VO l then .error 7 else if 8<l.length then .error 8 else .ok l
theorem iu (n:Int) (lv:Nat):Good (zX n) lv:=by
 rw[zX]
 split <;> (rw[Good];refine⟨?_,by rw[GoodL];trivial,by intro h;omega⟩;simp[xZ,yZ,yq,vj,Itm.kind,Itm.bytes,Itm.items,Itm.n])
theorem sR (n:Int):zd (zX n)=SG n:=by
 rw[bO (iu n 0) (by rw[zX];split <;> simp[Itm.kind]),zX,SG]
 split <;> rfl
end Go.Proofs.YtnlinmoiakgedaaGreatDoor
