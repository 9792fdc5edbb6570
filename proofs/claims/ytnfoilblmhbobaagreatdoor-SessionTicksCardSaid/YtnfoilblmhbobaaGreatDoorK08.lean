/- squeezed. Reading data items, second part: f -/
import Derived.Test.YtnfoilblmhbobaaGreatDoorK07
import Derived.ChangeKeysEq
set_option linter.unusedVariables false
set_option linter.unusedSimpArgs false
set_option maxRecDepth 100000
set_option maxHeartbeats 6400000
namespace Go.Proofs.YtnfoilblmhbobaaGreatDoor
open Go.RowKit
theorem vk {n s e m:Nat}(h:n=s*9223372036854775808+e*4503599627370496+m) (hs:s≤1) (he:e<2048) (hm:m<4503599627370496) :
  n/4503599627370496%2048=e∧n%4503599627370496=m∧n/9223372036854775808=s:=by subst h;refine⟨?_, ?_, ?_⟩ <;> omega
theorem lM {n v s x f:Nat}(h:mP n v s x f):zA n 5 10=some v:=by
 obtain⟨a1,a2,a3,a4,h⟩:=h
 rcases h with ⟨h1,h2,h3⟩ | ⟨h1,h2,h3⟩ | ⟨h1,h2,h3⟩ | ⟨h1,t,full,h2,h3,h4,h5,h6,h7⟩
 ·obtain⟨k1,k2,k3⟩:=vk (n:=n) (s:=s) (e:=2047) (m:=0) (by rw[h3]) a1 (by omega) (by omega);rw[zA]
  simp only[Nat.reducePow,Nat.reduceSub,Nat.reduceAdd,Nat.reduceMul]
  rw[k1,k2,k3,if_pos rfl,if_pos rfl];congr 1;omega
 ·obtain⟨k1,k2,k3⟩:=vk (n:=n) (s:=s) (e:=0) (m:=0) (by rw[h3,Nat.zero_mul,Nat.add_zero]) a1 (by omega) (by omega);rw[zA]
  simp only[Nat.reducePow,Nat.reduceSub,Nat.reduceAdd,Nat.reduceMul]
  rw[k1,k2,k3,if_neg (by omega),if_pos rfl,if_pos rfl];congr 1;omega
 ·obtain⟨k1,k2,k3⟩:=vk (n:=n) (s:=s) (e:=x+1008) (m:=f*4398046511104) (by omega) a1 (by omega) (by omega);rw[zA]
  simp only[Nat.reducePow,Nat.reduceSub,Nat.reduceAdd,Nat.reduceMul]
  rw[k1,k2,k3];rw[if_neg (by omega),if_neg (by omega),if_neg (by omega),if_pos (by omega),if_pos (by omega)];congr 1;omega
 have e2:2 ^ (t+1)*2 ^ (52-t)=9007199254740992:=by
  rw[← Nat.pow_add,show t+1+(52-t)=53 by omega]
 have b2:=Nat.mul_lt_mul_of_pos_right h4 (Nat.two_pow_pos (52-t));rw[e2,← h5]at b2;obtain⟨k1,k2,k3⟩:=vk (n:=n) (s:=s) (e:=999+t) (m:=full-4503599627370496) h7 a1 (by omega) (by omega);rw[zA]
 simp only[Nat.reducePow,Nat.reduceSub,Nat.reduceAdd,Nat.reduceMul]
 rw[k1,k2,k3];rw[if_neg (by omega),if_neg (by omega),if_neg (by omega),if_neg (by omega),if_neg (by omega),show 43+(1023-(999+t)-15)=52-t by omega,show full-4503599627370496+4503599627370496=full by omega,h5,if_pos (Nat.mul_mod_left _ _),Nat.mul_div_cancel _ (Nat.two_pow_pos _)];congr 1;omega
theorem tv {f t:Nat}(h1:2 ^ t≤f) (h2:f<2 ^ (t+1)) (ht:t≤52):4503599627370496≤f*2 ^ (52-t)∧f*2 ^ (52-t)<9007199254740992:=by
 have e1:2 ^ t*2 ^ (52-t)=4503599627370496:=by
  rw[← Nat.pow_add,show t+(52-t)=52 by omega]
 have e2:2 ^ (t+1)*2 ^ (52-t)=9007199254740992:=by
  rw[← Nat.pow_add,show t+1+(52-t)=53 by omega]
 have b1:=Nat.mul_le_mul_right (2 ^ (52-t)) h1;have b2:=Nat.mul_lt_mul_of_pos_right h2 (Nat.two_pow_pos (52-t))
 omega
theorem sq {v:Nat}(hv:v<65536) (hn:¬ (v/1024%32=31∧v%1024≠0)):mP (xY v) v (v/32768) (v/1024%32) (v%1024)∧xY v<18446744073709551616:=by
 obtain⟨s,hs⟩:∃ s,v/32768=s:=⟨_,rfl⟩
 obtain⟨x,hx⟩:∃ x,v/1024%32=x:=⟨_,rfl⟩
 obtain⟨f,hf⟩:∃ f,v%1024=f:=⟨_,rfl⟩
 have xX:s≤1:=by omega
 have sW:x≤31:=by omega
 have uh:f<1024:=by omega
 have cX:v=s*32768+x*1024+f:=by omega
 rw[hx,hf]at hn;rw[xY,hs,hx,hf];clear hs hx hf
 by_cases h1:x=31
 ·have h0:f=0:=by omega
  subst h0;rw[if_pos h1]
  exact⟨⟨xX,cX,by omega,sW,.inl ⟨h1,rfl,by omega⟩⟩,by omega⟩
 rw[if_neg h1]
 by_cases h2:x=0
 ·rw[if_pos h2]
  by_cases h0:f=0
  ·rw[if_pos h0]
   exact⟨⟨xX,cX,by omega,sW,.inr (.inl ⟨h2,h0,rfl⟩)⟩,by omega⟩
  rw[if_neg h0];have a1:2 ^ f.log2≤f:=Nat.log2_self_le h0;have a2:f<2 ^ (f.log2+1):=Nat.lt_log2_self;have a3:f.log2<10:=(Nat.log2_lt h0).2 (by simpa using uh)
  generalize f.log2=t at a1 a2 a3
  have b:=tv a1 a2 (by omega);obtain⟨full,uo⟩:∃ full,f*2 ^ (52-t)=full:=⟨_,rfl⟩
  rw[uo]at b⊢
  exact⟨⟨xX,cX,by omega,sW,.inr (.inr (.inr ⟨h2,t,full,a3,a1,a2,uo.symm,b.1,rfl⟩))⟩,by omega⟩
 rw[if_neg h2]
 exact⟨⟨xX,cX,by omega,sW,.inr (.inr (.inl ⟨by omega,by omega,rfl⟩))⟩,by omega⟩
theorem ss {v:Nat}(hv:v<4294967296) (hn:¬ (v/8388608%256=255∧v%8388608≠0)):vL (wn v) v (v/2147483648) (v/8388608%256) (v%8388608)∧wn v<18446744073709551616:=by
 obtain⟨s,hs⟩:∃ s,v/2147483648=s:=⟨_,rfl⟩
 obtain⟨x,hx⟩:∃ x,v/8388608%256=x:=⟨_,rfl⟩
 obtain⟨f,hf⟩:∃ f,v%8388608=f:=⟨_,rfl⟩
 have xX:s≤1:=by omega
 have sW:x≤255:=by omega
 have uh:f<8388608:=by omega
 have cX:v=s*2147483648+x*8388608+f:=by omega
 rw[hx,hf]at hn;rw[wn,hs,hx,hf];clear hs hx hf
 by_cases h1:x=255
 ·have h0:f=0:=by omega
  subst h0;rw[if_pos h1]
  exact⟨⟨xX,cX,by omega,sW,.inl ⟨h1,rfl,by omega⟩⟩,by omega⟩
 rw[if_neg h1]
 by_cases h2:x=0
 ·rw[if_pos h2]
  by_cases h0:f=0
  ·rw[if_pos h0]
   exact⟨⟨xX,cX,by omega,sW,.inr (.inl ⟨h2,h0,rfl⟩)⟩,by omega⟩
  rw[if_neg h0];have a1:2 ^ f.log2≤f:=Nat.log2_self_le h0;have a2:f<2 ^ (f.log2+1):=Nat.lt_log2_self;have a3:f.log2<23:=(Nat.log2_lt h0).2 (by simpa using uh)
  generalize f.log2=t at a1 a2 a3
  have b:=tv a1 a2 (by omega);obtain⟨full,uo⟩:∃ full,f*2 ^ (52-t)=full:=⟨_,rfl⟩
  rw[uo]at b⊢
  exact⟨⟨xX,cX,by omega,sW,.inr (.inr (.inr ⟨h2,t,full,a3,a1,a2,uo.symm,b.1,rfl⟩))⟩,by omega⟩
 rw[if_neg h2]
 exact⟨⟨xX,cX,by omega,sW,.inr (.inr (.inl ⟨by omega,by omega,rfl⟩))⟩,by omega⟩
theorem eD {n s m:Nat}(h:n=s*9223372036854775808+2047*4503599627370496+m) (hs:s≤1) (hm:m<4503599627370496) (h0:m≠0):isNaN n=true:=by
 obtain⟨k1,k2,_⟩:=vk h hs (by omega) hm;rw[isNaN]
 simp only[Nat.reducePow,k1,k2]
 simp[h0]
theorem xM {n e m s:Nat}(h:n=s*9223372036854775808+e*4503599627370496+m) (hs:s≤1) (he:e≤2047) (hm:m<4503599627370496) (h0:e=2047→m=0):isNaN n=false:=by
 obtain⟨k1,k2,_⟩:=vk h hs (by omega) hm;rw[isNaN]
 simp only[Nat.reducePow,k1,k2]
 rcases Nat.lt_or_ge e 2047 with h' | h'
 ·have:(e==2047)=false:=by simp;omega
  rw[this];rfl
 rw[h0 (by omega)];simp
theorem rv {n v s x f:Nat}(h:mP n v s x f):isNaN n=false:=by
 obtain⟨a1,a2,a3,a4,h⟩:=h
 rcases h with ⟨h1,h2,h3⟩ | ⟨h1,h2,h3⟩ | ⟨h1,h2,h3⟩ | ⟨h1,t,full,h2,h3,h4,h5,h6,h7⟩
 ·exact xM (s:=s) (e:=2047) (m:=0) (by rw[h3]) a1 (by omega) (by omega) (fun _=>rfl)
 ·exact xM (s:=s) (e:=0) (m:=0) (by rw[h3,Nat.zero_mul,Nat.add_zero]) a1 (by omega) (by omega) (fun _=>rfl)
 ·exact xM (s:=s) (e:=x+1008) (m:=f*4398046511104) (by omega) a1 (by omega) (by omega) (fun h=>by omega)
 have b:=tv h3 h4 (by omega);rw[← h5]at b
 exact xM (s:=s) (e:=999+t) (m:=full-4503599627370496) h7 a1 (by omega) (by omega) (fun h=>by omega)
theorem rx {n v s x f:Nat}(h:vL n v s x f):isNaN n=false:=by
 obtain⟨a1,a2,a3,a4,h⟩:=h
 rcases h with ⟨h1,h2,h3⟩ | ⟨h1,h2,h3⟩ | ⟨h1,h2,h3⟩ | ⟨h1,t,full,h2,h3,h4,h5,h6,h7⟩
 ·exact xM (s:=s) (e:=2047) (m:=0) (by rw[h3]) a1 (by omega) (by omega) (fun _=>rfl)
 ·exact xM (s:=s) (e:=0) (m:=0) (by rw[h3,Nat.zero_mul,Nat.add_zero]) a1 (by omega) (by omega) (fun _=>rfl)
 ·exact xM (s:=s) (e:=x+896) (m:=f*536870912) (by omega) a1 (by omega) (by omega) (fun h=>by omega)
 have b:=tv h3 h4 (by omega);rw[← h5]at b
 exact xM (s:=s) (e:=874+t) (m:=full-4503599627370496) h7 a1 (by omega) (by omega) (fun h=>by omega)
theorem qA {v:Nat}(hv:v<65536) (h:v/1024%32=31∧v%1024≠0):isNaN (xY v)=true∧(xY v=zG↔v=32256):=by
 obtain⟨h1,h2⟩:=h;have e:xY v=v/32768*9223372036854775808+2047*4503599627370496+v%1024*4398046511104:=by rw[xY,if_pos h1]
 refine⟨eD e (by omega) (by omega) (by omega), ?_⟩
 rw[e,zG]
 omega
theorem qB {v:Nat}(hv:v<4294967296) (h:v/8388608%256=255∧v%8388608≠0):isNaN (wn v)=true:=by
 obtain⟨h1,h2⟩:=h;have e:wn v=v/2147483648*9223372036854775808+2047*4503599627370496+v%8388608*536870912:=by rw[wn,if_pos h1]
 exact eD e (by omega) (by omega) (by omega)
theorem xP {n:Nat}(h:isNaN n=true):zH n=[u8 249,u8 126,u8 0]:=by rw[zH,if_pos h]
theorem rF {n:Nat}(h:isNaN n=false):(zH n).length=(if(zA n 5 10).isSome then 3 else if(zA n 8 23).isSome then 5 else 9):=by
 rw[zH,if_neg (by simp[h])]
 cases zA n 5 10 with
 | some v=>rfl
 | none=>cases zA n 8 23 with
  | some v=>rfl
  | none=>simp[wh]
theorem jG {low n f:Nat}(hl:25≤low∧low≤27) {t:List UInt8}(ht:t.length=2 ^ (low-24)) (hn:n=beN t) (hf:f=xH low n)
  (h1:¬ (isNaN f=true∧f≠zG)) (h2:(zH f).length=1+2 ^ (low-24)):zH f=u8 (7*32+low)::t∧f<18446744073709551616:=by
 rcases(by omega:low=25∨low=26∨low=27) with rfl | rfl | rfl
 ·obtain⟨a,b,rfl⟩:=aZ (by simpa using ht);have ha:=a.toNat_lt;have hb:=b.toNat_lt
  rw[X6]at hn;have hv:n<65536:=by omega
  rw[xH,if_pos rfl]at hf
  by_cases hx:n/1024%32=31∧n%1024≠0
  ·obtain⟨q1,q2⟩:=qA hv hx;rw[← hf]at q1 q2;have rC:f=zG:=Classical.byContradiction fun h=>h1 ⟨q1,h⟩
   have kZ:=q2.1 rC;rw[xP q1]
   refine⟨?_,by rw[rC];decide⟩
   rw[yA (n:=126) (c:=a) (by omega),yA (n:=0) (c:=b) (by omega)]
  obtain⟨q1,q2⟩:=sq hv hx;rw[← hf]at q1 q2
  refine⟨?_,q2⟩
  rw[zH,if_neg (by rw[rv q1];simp),lM q1]
  simp only
  rw[yA (n:=n/256) (c:=a) (by omega),yA (n:=n) (c:=b) (by omega)]
 ·obtain⟨a,b,c,d,rfl⟩:=eC (by simpa using ht);have ha:=a.toNat_lt;have hb:=b.toNat_lt;have hc:=c.toNat_lt;have hd:=d.toNat_lt
  rw[X7]at hn;have hv:n<4294967296:=by omega
  rw[xH,if_neg (by omega),if_pos rfl]at hf
  by_cases hx:n/8388608%256=255∧n%8388608≠0
  ·have q1:=qB hv hx;rw[← hf]at q1;rw[xP q1]at h2
   simp at h2
  obtain⟨q1,q2⟩:=ss hv hx;rw[← hf]at q1 q2
  refine⟨?_,q2⟩
  have q3:=rx q1;have q4:=tn q1;rw[rF q3,q4]at h2
  have q5:zA f 5 10=none:=by
   cases h:zA f 5 10 with
   | none=>rfl
   | some v=>rw[h]at h2;simp at h2
  rw[zH,if_neg (by rw[q3];simp),q5,q4]
  simp only
  rw[yA (n:=n/16777216) (c:=a) (by omega),yA (n:=n/65536) (c:=b) (by omega),yA (n:=n/256) (c:=c) (by omega),yA (n:=n) (c:=d) (by omega)]
 have Yn:t.length=8:=by simpa using ht
 have hb:=uV t;rw[Yn,← hn]at hb;rw[xH,if_neg (by omega),if_neg (by omega)]at hf;subst hf
 refine⟨?_,by omega⟩
 cases q3:isNaN f with
 | true =>
  rw[xP q3]at h2
  simp at h2
 | false =>
 rw[rF q3]at h2
 have q5:zA f 5 10=none:=by
  cases h:zA f 5 10 with
  | none=>rfl
  | some v=>rw[h]at h2;simp at h2
 have q6:zA f 8 23=none:=by
  cases h:zA f 8 23 with
  | none=>rfl
  | some v=>rw[h,q5]at h2;simp at h2
 rw[zH,if_neg (by rw[q3];simp),q5,q6]
 simp only
 rw[hn,iH Yn]
theorem uO {low n:Nat}{x:Itm}(hl:low≤27) {t:List UInt8}(qy:low<24→n=low∧t=[]) (hw:24≤low→t.length=2 ^ (low-24)∧n=beN t) (h:yh low n=.ok x) :
  mW x=u8 (7*32+low)::t∧(∀ lv,Good x lv)∧x.n<18446744073709551616∧x.items=[]∧cnt x=1:=by
 rw[yh]at h
 have good7:∀ (n:Nat),(n<24∨32≤n∧n<256)→∀ lv,Good (.mk 7 n [] []) lv:=fun n hn lv=>by
  rw[Good]
  refine⟨?_, ?_,fun h=>by omega⟩
  ·rw[uw,if_pos (by simp[vv,Itm.kind])]
   rcases hn with hn | ⟨h1,h2⟩ <;> simp[te,Itm.kind,Itm.n,Itm.bytes,Itm.items, *]
  rw[vK];trivial
 split at h
 ·rename_i q1
  injection h with h
  subst h;obtain⟨rfl,rfl⟩:=qy q1
  refine⟨?_,good7 _ (.inl q1),by simp only[Itm.n];omega,rfl,by simp[cnt,tJ]⟩
  rw[vI,if_neg (by simp[Itm.kind]),if_neg (by simp[Itm.n];omega)];have e:sQ (.mk 7 n [] [])=n:=by simp[sQ,Itm.kind,Itm.n]
  rw[e,zW,if_pos q1]
  simp[Itm.bytes,Itm.items,Itm.kind,rY]
 split at h
 ·rename_i q1 q2
  subst q2
  split at h
  ·cases h
  rename_i q3
  injection h with h
  subst h;obtain⟨ht,hn⟩:=hw (by omega);obtain⟨a,rfl⟩:=aY (by simpa using ht);have ha:=a.toNat_lt;rw[X4]at hn
  refine⟨?_,good7 _ (.inr (by omega)),by simp only[Itm.n];omega,rfl,by simp[cnt,tJ]⟩
  rw[vI,if_neg (by simp[Itm.kind]),if_pos (by simp[Itm.n,Itm.kind];omega)]
  simp only[Itm.n]
  rw[yA (n:=n) (c:=a) (by omega)]
 rename_i q1 q2
 split at h
 ·cases h
 rename_i q3
 injection h with h
 subst h;obtain⟨ht,hn⟩:=hw (by omega)
 simp only[Bool.or_eq_true,Bool.and_eq_true,bne_iff_ne,ne_eq,not_or]at q3
 obtain⟨q3,q4⟩:=q3;have q4':=Classical.not_not.1 q4;obtain⟨e,he⟩:=jG (low:=low) (n:=n) (by omega) ht hn rfl q3 q4'
 refine⟨?_,fun lv=>?_,he,rfl,by simp[cnt,tJ]⟩
 ·rw[vI,if_pos (by simp[Itm.kind])]
  exact e
 rw[Good]
 refine⟨?_,by rw[vK];trivial,fun h=>by omega⟩
 rw[uw,if_pos (by simp[vv,Itm.kind])]
 simp[te,Itm.kind,Itm.n,Itm.bytes,Itm.items]
 cases hN:isNaN (xH low n) with
 | false=>exact .inl rfl
 | true=>exact .inr (Classical.byContradiction fun h=>q3 ⟨hN,h⟩)
structure Read (d:Nat) (b:List UInt8) (c:Nat) (x:Itm) (k c':Nat):Prop where
 le:k≤b.length
 pos:0<k
 enc:mW x=b.take k
 cnt:c'=c+cnt x
 lim:c'≤256
 good:∀ lv,lv+d=8→Good x lv
 nums:nX x
structure ReadL (d:Nat) (b:List UInt8) (c:Nat) (l:List Itm) (n k c':Nat):Prop where
 le:k≤b.length
 enc:rY l=b.take k
 cnt:c'=c+tJ l
 lim:c'≤256
 good:∀ lv,lv+d=8→vK l lv
 nums:vM l
 len:l.length=n
theorem yK {α:Type}(b:List α) (k k':Nat):b.take (k+k')=b.take k++(b.drop k).take k':=List.take_add
theorem lm {d:Nat}{p:List UInt8→Nat→PR}(hp:∀ b c x k c',p b c=.ok x k c'→Read d b c x k c') :
  ∀ (n:Nat) (b:List UInt8) (c:Nat) (l:List Itm) (k c':Nat),c≤256→uy p n b c=.ok l k c'→ReadL d b c l n k c'
 | 0,b,c,l,k,c',hc,h=>by
  rw[uy]at h;injection h with h1 h2 h3
  subst h1 h2 h3
  exact⟨by omega,by simp[rY],by simp[tJ],hc,fun lv _=>by rw[vK];trivial,by rw[vM];trivial,rfl⟩
 | n+1,b,c,l,k,c',hc,h=>by
  rw[uy]at h
  split at h
  ·cases h
  rename_i x k1 c1 h1
  split at h
  ·cases h
  rename_i l1 k2 c2 h2
  injection h with e1 e2 e3
  subst e1 e2 e3;have r1:=hp _ _ _ _ _ h1;have r2:=lm hp n _ _ _ _ _ r1.lim h2;have hl:=r2.le;rw[List.length_drop]at hl;have:=r1.le
  refine⟨by omega, ?_, ?_,r2.lim,fun lv hlv=>?_, ?_,by rw[List.length_cons,r2.len]⟩
  ·rw[rY,r1.enc,r2.enc,yK]
  ·rw[tJ,r2.cnt,r1.cnt];omega
  ·rw[vK];exact⟨r1.good lv hlv,r2.good lv hlv⟩
  rw[vM];exact⟨r1.nums,r2.nums⟩
def bB (last:Option (List UInt8)) (l:List Itm):Prop :=
 eO l=true∧∀ q,last=some q→∀ x t,l=x::t→Lib.compareBytes q (mW x)<0
theorem iI:∀ a b:List UInt8,¬ Lib.compareBytes a b=0→¬ Lib.compareBytes a b<0→Lib.compareBytes b a<0
 | [],[],h,_=>absurd rfl h
 | [],_::_,_,h=>absurd (by show(-1:Int)<0;decide) h
 | _::_,[],_,_=>by show(-1:Int)<0;decide
 | x::a,y::b,h,k=>by
  rw[Lib.compareBytes]at h k⊢
  split at h
  ·rename_i h1
   rw[if_pos h1]at k
   exact absurd (by decide) k
  rename_i h1
  rw[if_neg h1]at k
  split at h
  ·rename_i h2
   rw[if_pos h2];decide
  rename_i h2
  rw[if_neg h2]at k;rw[if_neg h2,if_neg h1]
  exact iI a b h k
theorem fw {last:Option (List UInt8)}{key:List UInt8}(h:sP last key=none):∀ q,last=some q→Lib.compareBytes q key<0:=by
 intro q hq
 subst hq;rw[sP]at h
 split at h
 ·cases h
 split at h
 ·cases h
 rename_i h1 h2
 exact iI _ _ h1 h2
theorem m6 {d:Nat}{p:List UInt8→Nat→PR}(hp:∀ b c x k c',p b c=.ok x k c'→Read d b c x k c') :
  ∀ (n:Nat) (b:List UInt8) (c:Nat) (last:Option (List UInt8)) (l:List Itm) (k c':Nat),c≤256→xo p n b c last=.ok l k c'→ReadL d b c l (2*n) k c'∧bB last l
 | 0,b,c,last,l,k,c',hc,h=>by
  rw[xo]at h;injection h with h1 h2 h3
  subst h1 h2 h3
  exact⟨⟨by omega,by simp[rY],by simp[tJ],hc,fun lv _=>by rw[vK];trivial,by rw[vM];trivial,rfl⟩,rfl,fun _ _ _ _ h=>by cases h⟩
 | n+1,b,c,last,l,k,c',hc,h=>by
  rw[xo]at h
  split at h
  ·cases h
  rename_i x k1 c1 h1
  split at h
  ·cases h
  rename_i hk
  split at h
  ·cases h
  rename_i y k2 c2 h2
  split at h
  ·cases h
  rename_i l1 k3 c3 h3
  injection h with e1 e2 e3
  subst e1 e2 e3;have r1:=hp _ _ _ _ _ h1;have r2:=hp _ _ _ _ _ h2;obtain⟨r3,a1,a2⟩:=m6 hp n _ _ _ _ _ _ r2.lim h3;have rh:=r2.le;have aK:=r3.le;rw[List.length_drop]at rh aK;have:=r1.le
  refine⟨⟨by omega, ?_, ?_,r3.lim,fun lv hlv=>?_, ?_,by rw[List.length_cons,List.length_cons,r3.len];omega⟩, ?_,fun q hq x' t ht=>?_⟩
  ·rw[rY,rY,r1.enc,r2.enc,r3.enc,← List.append_assoc,← yK,← yK]
  ·rw[tJ,tJ,r3.cnt,r2.cnt,r1.cnt];omega
  ·rw[vK,vK];exact⟨r1.good lv hlv,r2.good lv hlv,r3.good lv hlv⟩
  ·rw[vM,vM];exact⟨r1.nums,r2.nums,r3.nums⟩
  ·cases l1 with
   | nil=>rfl
   | cons z l2 =>
   rw[eO,a1];have:=a2 _ rfl z l2 rfl;rw[← r1.enc]at this
   simp[this]
  injection ht with ht _
  subst ht;rw[r1.enc]
  exact fw hk q hq
theorem o9 {x:Itm}(h:∀ lv,uw x lv=true) (hi:x.items=[]) (h5:x.kind≠5):∀ lv,Good x lv:=fun lv =>
 Good.of (h lv) (by rw[hi,vK];trivial) (fun h=>absurd h h5)
theorem pt:∀ (d:Nat) (b:List UInt8) (c:Nat) (x:Itm) (k c':Nat),zc d b c=.ok x k c'→Read d b c x k c':=by
 intro d
 induction d using Nat.strongRecOn with
 | _ d ih =>
 intro b c x k c' h
 rw[zc.eq_def]at h
 simp only at h
 split at h
 ·cases h
 rename_i hc
 split at h
 ·cases h
 rename_i f n k1 hh
 have H:=yP hh;have wL:=H.low;have hf:=H.f_lt
 split at h
 ·rename_i h1
  injection h with e1 e2 e3
  subst e1 e2 e3;have hk:f/32=0∨f/32=1:=by omega
  refine⟨H.le,H.pos, ?_,by simp[cnt,tJ],by omega,fun lv _=>o9 (fun lv=>?_) rfl (by simp only[Itm.kind];omega) lv, ?_⟩
  ·rw[← H.enc (by omega),vI,if_neg (by simp only[Itm.kind];omega),if_neg (by simp only[Itm.kind];omega)]
   have e:sQ (.mk (f/32:Nat) n [] [])=n:=by
    rw[sQ,if_neg (by simp only[Itm.kind];omega),if_neg (by simp only[Itm.kind];omega),if_neg (by simp only[Itm.kind];omega)];rfl
   rw[e,show(Itm.mk (f/32:Nat) n [] []).kind.toNat=f/32 from rfl]
   simp[Itm.bytes,Itm.items,rY]
  ·rw[uw]
   rcases hk with hk | hk <;> simp[vv,te,Itm.kind,Itm.bytes,Itm.items,hk]
  rw[nX];exact⟨H.n_lt,by rw[vM];trivial⟩
 rename_i h1
 split at h
 ·rename_i h3
  split at h
  ·cases h
  rename_i h4
  split at h
  ·cases h
  rename_i h5
  injection h with e1 e2 e3
  subst e1 e2 e3;have hk:f/32=2∨f/32=3:=by omega
  have iB:=H.le;have xJ:((b.drop k1).take n).length=n:=by rw[List.length_take,List.length_drop];omega
  have hn:=H.n_lt;have nf:=H.pos
  refine⟨by omega,by omega, ?_,by simp[cnt,tJ],by omega,fun lv _=>o9 (fun lv=>?_) rfl (by simp only[Itm.kind];omega) lv, ?_⟩
  ·rw[yK,← H.enc (by omega),vI,if_neg (by simp only[Itm.kind];omega),if_neg (by simp only[Itm.kind];omega)]
   have e:sQ (.mk (f/32:Nat) 0 ((b.drop k1).take n) [])=n:=by
    rw[sQ,if_pos (by simp only[Itm.kind];omega)]
    exact xJ
   rw[e,show(Itm.mk (f/32:Nat) 0 ((b.drop k1).take n) []).kind.toNat=f/32 from rfl]
   simp[Itm.bytes,Itm.items,rY]
  ·rw[uw]
   rcases hk with hk | hk
   ·simp[vv,te,Itm.kind,Itm.bytes,Itm.items,Itm.n,hk]
   have:Lib.validD ((b.drop k1).take n)=true:=by
    cases h:Lib.validD ((b.drop k1).take n) with
    | true=>rfl
    | false=>exact absurd ⟨hk,h⟩ h5
   simp[vv,te,Itm.kind,Itm.bytes,Itm.items,Itm.n,hk,this]
  rw[nX];exact⟨by omega,by rw[vM];trivial⟩
 rename_i h3
 split at h
 ·rename_i h7
  split at h
  ·cases h
  rename_i y hs
  injection h with e1 e2 e3
  subst e1 e2 e3;have hu:u8 f=u8 (7*32+f%32):=by rw[show 7*32+f%32=f by omega]
  rcases Nat.lt_or_ge (f%32) 24 with hl | hl
  ·obtain⟨s1,s2,s3⟩:=H.small hl;obtain⟨g1,g2,g3,g4,g5⟩:=uO (low:=f%32) (t:=[]) (by omega) (fun _=>⟨s1,rfl⟩) (fun h=>by omega) hs
   refine⟨H.le,H.pos,by rw[s3,g1,hu],by rw[g5],by omega,fun lv _=>g2 lv, ?_⟩
   cases y
   rw[nX]
   simp only[Itm.items]at g4
   subst g4
   exact⟨g3,by rw[vM];trivial⟩
  obtain⟨s1,t,s2,s3,s4⟩:=H.wide hl;obtain⟨g1,g2,g3,g4,g5⟩:=uO (low:=f%32) (t:=t) (by omega) (fun h=>by omega) (fun _=>⟨s2,s4⟩) hs
  refine⟨H.le,H.pos,by rw[s3,g1,hu],by rw[g5],by omega,fun lv _=>g2 lv, ?_⟩
  cases y
  rw[nX]
  simp only[Itm.items]at g4
  subst g4
  exact⟨g3,by rw[vM];trivial⟩
 rename_i h7
 cases d with
 | zero=>cases h
 | succ d =>
 simp only at h
 have hd:d<d+1:=by omega
 have nf:=H.pos
 split at h
 ·rename_i h6
  split at h
  ·cases h
  rename_i y k2 c2 hy
  injection h with e1 e2 e3
  subst e1 e2 e3;have r:=ih d hd _ _ _ _ _ hy;have iB:=H.le;have hl:=r.le;rw[List.length_drop]at hl
  refine⟨by omega,by omega, ?_, ?_,r.lim,fun lv hlv=>Good.of ?_ ?_ (fun h=>by simp only[Itm.kind]at h;omega), ?_⟩
  ·rw[yK,← H.enc (by omega),vI,if_neg (by simp only[Itm.kind];omega),if_neg (by simp only[Itm.kind];omega),h6];have e:sQ (.mk 6 n [] [y])=n:=by simp[sQ,Itm.kind,Itm.n]
   rw[e,← r.enc]
   simp[Itm.kind,Itm.bytes,Itm.items,rY]
  ·rw[cnt,tJ,tJ,r.cnt];omega
  ·rw[uw,if_neg (by simp[vv,Itm.kind])]
   simp[qg,Itm.kind,Itm.bytes,Itm.items,Itm.n]
   omega
  ·simp only[Itm.items]
   rw[vK,vK]
   exact⟨r.good _ (by omega),trivial⟩
  rw[nX,vM,vM]
  exact⟨H.n_lt,r.nums,trivial⟩
 rename_i h6
 split at h
 ·rename_i h5
  split at h
  ·cases h
  rename_i l k2 c2 hy
  injection h with e1 e2 e3
  subst e1 e2 e3;obtain⟨r,asc,_⟩:=m6 (ih d hd) _ _ _ _ _ _ _ (by omega) hy;have iB:=H.le;have hl:=r.le;have xJ:=r.len;rw[List.length_drop]at hl
  refine⟨by omega,by omega, ?_, ?_,r.lim,fun lv hlv=>Good.of ?_ ?_ (fun _=>asc), ?_⟩
  ·rw[yK,← H.enc (by omega),vI,if_neg (by simp only[Itm.kind];omega),if_neg (by simp only[Itm.kind];omega),h5];have e:sQ (.mk 5 0 [] l)=n:=by simp[sQ,Itm.kind,Itm.n,Itm.items,xJ]
   rw[e,← r.enc]
   simp[Itm.kind,Itm.bytes,Itm.items]
  ·rw[cnt,r.cnt];omega
  ·rw[uw,if_neg (by simp[vv,Itm.kind])]
   simp[qg,Itm.kind,Itm.bytes,Itm.items,Itm.n,xJ]
   omega
  ·exact r.good _ (by omega)
  rw[nX]
  exact⟨by omega,r.nums⟩
 rename_i h5
 split at h
 ·cases h
 rename_i l k2 c2 hy
 injection h with e1 e2 e3
 subst e1 e2 e3;have h4:f/32=4:=by omega
 have r:=lm (ih d hd) _ _ _ _ _ _ (by omega) hy;have iB:=H.le;have hl:=r.le;have xJ:=r.len;rw[List.length_drop]at hl
 refine⟨by omega,by omega, ?_, ?_,r.lim,fun lv hlv=>Good.of ?_ ?_ (fun h=>by simp only[Itm.kind]at h;omega), ?_⟩
 ·rw[yK,← H.enc (by omega),vI,if_neg (by simp only[Itm.kind];omega),if_neg (by simp only[Itm.kind];omega),h4];have e:sQ (.mk 4 0 [] l)=n:=by simp[sQ,Itm.kind,Itm.n,Itm.items,xJ]
  rw[e,← r.enc]
  simp[Itm.kind,Itm.bytes,Itm.items]
 ·rw[cnt,r.cnt];omega
 ·rw[uw,if_neg (by simp[vv,Itm.kind])]
  simp[qg,Itm.kind,Itm.bytes,Itm.items,Itm.n,xJ]
  omega
 ·exact r.good _ (by omega)
 rw[nX]
 exact⟨by omega,r.nums⟩
def bD (p:List UInt8→Nat→PR):Prop:=∀ b c x k c',p b c=.ok x k c'→c<c'∧c'≤256
theorem bG (x:Itm):0<cnt x:=by rw[Yw];omega
theorem vt (d:Nat):bD (zc d):=fun b c x k c' h=>by
 have r:=pt d b c x k c' h;have:=bG x
 exact⟨by rw[r.cnt];omega,r.lim⟩
def sI (b:List UInt8):PR:=zc 8 (b.take 4096) 0
def wZ (b:List UInt8):Except Nat Itm :=
 if 4096<b.length then .error 8 else match sI b with
 | .err e=>.error e
 | .ok x k _=>if k<b.length then .error 9 else .ok x
def t7 (n:Int):List UInt8:=if n<0 then zW 1 (-1-n).toNat else zW 0 n.toNat
def sR (b:List UInt8):List UInt8:=zW 2 b.length++b
def xE (c:UInt8):Bool:=decide (c.toNat<24)||decide (32≤c.toNat)&&decide (c.toNat<56)
def yx (b:List UInt8):Except Nat (List UInt8×Nat) :=
 match b with
 | []=>.error 2
 | x::t =>
 if xE x then .ok ([x],1)
 else if x.toNat<64∨88<x.toNat then .error 4
 else if 7<x.toNat-64 then .error 8
 else if b.length<1+(x.toNat-64) then .error 2
 else if x.toNat-64=1∧xE (b.getD 1 0) then .error 4
 else .ok (t.take (x.toNat-64),1+(x.toNat-64))
theorem rW (m n:Int) (w:World) (hm0:0≤m) (hm:m<8) (h0:0≤n) (h1:n<18446744073709551616) :
  Calls Tryz.prog 54 #[.int .u8 m,.int .u64 n] w fun e w'=>∃ r,e=.returned r∧Fresh w (zW m.toNat n.toNat) r w':=by
 obtain⟨m',YB⟩:=Int.eq_ofNat_of_zero_le hm0;obtain⟨n',cS⟩:=Int.eq_ofNat_of_zero_le h0;have HM:=Hh YB;have HN:=Hh cS;have H1:=Hh h1;clear h1 YB cS;go_enter Tryz.func54,Tryz.ntmps54
 go_wp2
 ·go_ret
  obtain rfl:=HM.out;obtain rfl:=HN.out;rw[Int.toNat_natCast,Int.toNat_natCast];have z6:(n':Int)<24:=by with_reducible assumption
  refine⟨_,rfl,Fresh.lit _ _ _ 1 ?_ ?_ ?_⟩
  ·rw[zB,if_pos (by omega)]
  ·have:=(yZ m' n').2;omega
  rw[zW,if_pos (by omega)]
  simp only[List.map_cons,List.map_nil,ye]
  rw[we m' n' (by omega) (by omega),Nat.mod_eq_of_lt (by omega)]
 ·go_ret
  obtain rfl:=HM.out;obtain rfl:=HN.out;rw[Int.toNat_natCast,Int.toNat_natCast];have kr:(24:Int)≤n':=by with_reducible assumption
  have z6:(n':Int)<256:=by with_reducible assumption
  refine⟨_,rfl,Fresh.lit _ _ _ 2 ?_ ?_ ?_⟩
  ·rw[zB,if_neg (by omega),if_pos (by omega)]
  ·have:=(yZ m' n').2;omega
  rw[zW,if_neg (by omega),if_pos (by omega)]
  simp only[List.map_cons,List.map_nil,ye]
  have e24':=we m' 24 (by omega) (by omega);rw[show((24:Nat):Int)=24 from rfl]at e24';rw[e24',Nat.mod_eq_of_lt (by omega),Nat.mod_eq_of_lt (by omega)]
 ·go_ret
  obtain rfl:=HM.out;obtain rfl:=HN.out;rw[Int.toNat_natCast,Int.toNat_natCast];have kr:(256:Int)≤n':=by with_reducible assumption
  have z6:(n':Int)<65536:=by with_reducible assumption
  refine⟨_,rfl,Fresh.lit _ _ _ 3 ?_ ?_ ?_⟩
  ·rw[zB,if_neg (by omega),if_neg (by omega),if_pos (by omega)]
  ·have:=(yZ m' n').2;omega
  rw[zW,if_neg (by omega),if_neg (by omega),if_pos (by omega)]
  simp only[List.map_cons,List.map_nil,ye]
  have e24':=we m' 25 (by omega) (by omega);rw[show((25:Nat):Int)=25 from rfl]at e24';rw[e24',Nat.mod_eq_of_lt (show m'*32+25<256 by omega),Nat.mod_eq_of_lt (show n'/256<256 by omega)];rfl
 ·go_ret
  obtain rfl:=HM.out;obtain rfl:=HN.out;rw[Int.toNat_natCast,Int.toNat_natCast];have kr:(65536:Int)≤n':=by with_reducible assumption
  have z6:(n':Int)<4294967296:=by with_reducible assumption
  refine⟨_,rfl,Fresh.lit _ _ _ 5 ?_ ?_ ?_⟩
  ·rw[zB,if_neg (by omega),if_neg (by omega),if_neg (by omega),if_pos (by omega)]
  ·have:=(yZ m' n').2;omega
  rw[zW,if_neg (by omega),if_neg (by omega),if_neg (by omega),if_pos (by omega)]
  simp only[List.map_cons,List.map_nil,ye]
  have e24':=we m' 26 (by omega) (by omega);rw[show((26:Nat):Int)=26 from rfl]at e24';rw[e24',Nat.mod_eq_of_lt (show m'*32+26<256 by omega),Nat.mod_eq_of_lt (show n'/16777216<256 by omega)];rfl
 go_ret
 obtain rfl:=HM.out;obtain rfl:=HN.out;rw[Int.toNat_natCast,Int.toNat_natCast];have kr:(4294967296:Int)≤n':=by with_reducible assumption
 have YX:=H1.out
 refine⟨_,rfl,Fresh.lit _ _ _ 9 ?_ ?_ ?_⟩
 ·rw[zB,if_neg (by omega),if_neg (by omega),if_neg (by omega),if_neg (by omega)]
 ·have:=(yZ m' n').2;omega
 rw[zW,if_neg (by omega),if_neg (by omega),if_neg (by omega),if_neg (by omega)]
 simp only[List.map_cons,List.map_nil,ye,be8,Nat.reduceMul,Nat.reduceSub,Nat.reducePow,List.nil_append,List.cons_append]
 have e27':=we m' 27 (by omega) (by omega);rw[show((27:Nat):Int)=27 from rfl]at e27';rw[e27',Nat.mod_eq_of_lt (show m'*32+27<256 by omega),Nat.div_one];rfl
theorem uQ (x:UInt8):xE x=true↔x.toNat<24∨(32≤x.toNat∧x.toNat<56):=by simp[xE]
theorem mO (n:Int) (h1 : -9223372036854775808≤n) (h2:n≤9223372036854775807) (w:World) :
  Calls Tryz.prog 41 #[.int .i64 n] w fun e w'=>∃ r,e=.returned r∧Fresh w (t7 n) r w':=by
 by_cases h0:n<0
 ·have HD:=Hh (fun w=>rW 1 (-1-n) w (by omega) (by omega) (by omega) (by omega));have K1:IntKind.u64.wrap (-1-n) = -1-n:=by rw[IntKind.wrap_u64];omega
  have K0:IntKind.i64.wrap (-1-n) = -1-n:=IntWalk.i64_in _ (by omega);have E:Hid (t7 n=zW 1 (-1-n).toNat):=by rw[Hid,t7,if_pos h0]
  clear h1 h2;go_enter Tryz.func41,Tryz.ntmps41
  go_wp2_with fail
  refine(HD.out _).mono ?_
  rintro e w1 ⟨r,rfl,hf⟩
  go_wp2_with fail
  go_ret
  exact⟨_,rfl,by rw[E.out];exact hf⟩
 have hn:=Int.not_lt.1 h0;have HD:=Hh (fun w=>rW 0 n w (by omega) (by omega) (by omega) (by omega));have K1:IntKind.u64.wrap n=n:=by rw[IntKind.wrap_u64];omega
 have E:Hid (t7 n=zW 0 n.toNat):=by rw[Hid,t7,if_neg h0]
 clear h1 h2;go_enter Tryz.func41,Tryz.ntmps41
 go_wp2_with fail
 refine(HD.out _).mono ?_
 rintro e w1 ⟨r,rfl,hf⟩
 go_wp2_with fail
 go_ret
 exact⟨_,rfl,by rw[E.out];exact hf⟩
theorem dw {A:Option Addr}{n c:Nat}{l:List UInt8}(hn:n=l.length) (hl:l.length≤1099511627000) (w:World) (hs:Src w A (l.map zm)) :
  Calls Tryz.prog 42 #[.slice A n c] w fun e w'=>∃ r,e=.returned r∧Fresh w (sR l) r w':=by
 have HD:=Hh (fun w=>rW 2 (n:Int) w (by omega) (by omega) (by omega) (by omega));have K1:IntKind.u64.wrap (n:Int)=(n:Int):=by rw[IntKind.wrap_u64];omega
 have HN:=Hh (And.intro hn hl);clear hn hl;go_enter Tryz.func42,Tryz.ntmps42
 go_wp2_with fail
 refine(HD.out _).mono ?_
 rintro e w1 ⟨r,rfl,hf⟩
 have zK:=hf.own;obtain⟨RA,rc,rfl,_⟩:=zK.form;have xX:=hs.below hf.2;have HF:=Hh hf.2
 have HL:Hid ((zW (2:Int).toNat (n:Int).toNat).length+l.length≤1099511627776):=by
  have:=(yZ (2:Int).toNat (n:Int).toNat).2;have:=HN.out.2;rw[Hid];omega
 clear hf;go_wp2_with (at_builtin;refine zn ?_)
 refine zw rfl (.tmp 6) (.tmp 7) rfl w.heap.size _ _ rfl zK A _ c l rfl HN.out.1 xX (by have:=(yZ (2:Int).toNat (n:Int).toNat).2;have:=HN.out.2;omega) HF.out.size fun v' w2 vO us _=>?_
 have zO:=HF.out.grown us HF.out.size (fun q hq=>(zK.lt q hq).1)
 have E:Hid (zW (2:Int).toNat (n:Int).toNat++l=sR l):=by
  rw[Hid,sR,HN.out.1];rfl
 rw[E.out]at vO;clear zK xX hs us;go_wp2_with fail
 go_ret
 exact⟨_,rfl,vO,zO⟩
theorem bP {A:Option Addr}{n c:Nat}{l:List UInt8}(hn:n=l.length) (hl:l.length≤1099511627000) (w:World) (hs:Src w A (l.map zm)) :
  Calls Tryz.prog 45 #[.slice A n c] w fun e w'=>∃ r,e=.returned r∧Fresh w (sR l) r w':=by
 have HD:=Hh (fun w=>qG 2 (n:Int) w (by omega) (by omega) (by omega) (by omega));have K1:IntKind.u64.wrap (n:Int)=(n:Int):=by rw[IntKind.wrap_u64];omega
 have HN:=Hh (And.intro hn hl);clear hn hl;go_enter Tryz.func45,Tryz.ntmps45
 go_wp2_with fail
 refine(HD.out _).mono ?_
 rintro e w1 ⟨r,rfl,hf⟩
 have zK:=hf.own;obtain⟨RA,rc,rfl,_⟩:=zK.form;have xX:=hs.below hf.2;have HF:=Hh hf.2
 have HL:Hid ((zW (2:Int).toNat (n:Int).toNat).length+l.length≤1099511627776):=by
  have:=(yZ (2:Int).toNat (n:Int).toNat).2;have:=HN.out.2;rw[Hid];omega
 clear hf;go_wp2_with (at_builtin;refine zn ?_)
 refine zw rfl (.tmp 6) (.tmp 7) rfl w.heap.size _ _ rfl zK A _ c l rfl HN.out.1 xX (by have:=(yZ (2:Int).toNat (n:Int).toNat).2;have:=HN.out.2;omega) HF.out.size fun v' w2 vO us _=>?_
 have zO:=HF.out.grown us HF.out.size (fun q hq=>(zK.lt q hq).1)
 have E:Hid (zW (2:Int).toNat (n:Int).toNat++l=sR l):=by
  rw[Hid,sR,HN.out.1];rfl
 rw[E.out]at vO;clear zK xX hs us;go_wp2_with fail
 go_ret
 exact⟨_,rfl,vO,zO⟩
theorem vH (x:UInt8) (w:World):Calls Tryz.prog 33 #[.int .u8 (x.toNat:Int)] w fun e w'=>e=.returned (.bool (xE x))∧w'=w:=by
 by_cases h1:x.toNat<24
 ·have z1:(x.toNat:Int)<24:=by omega
  have E:Hid (xE x=true):=(uQ x).2 (.inl h1);go_enter Tryz.func33,Tryz.ntmps33
  go_wp2_with fail
  go_ret
  exact⟨by rw[E.out];try rfl,rfl⟩
 have z1:¬ (x.toNat:Int)<24:=by omega
 by_cases h2:32≤x.toNat
 ·have z2:(32:Int)≤(x.toNat:Int):=by omega
  by_cases h3:x.toNat<56
  ·have z3:(x.toNat:Int)<56:=by omega
   have E:Hid (xE x=true):=(uQ x).2 (.inr ⟨h2,h3⟩);go_enter Tryz.func33,Tryz.ntmps33
   go_wp2_with fail
   go_ret
   exact⟨by rw[E.out];try rfl,rfl⟩
  have z3:¬ (x.toNat:Int)<56:=by omega
  have E:Hid (xE x=false):=by rw[Hid,Bool.eq_false_iff,ne_eq,uQ];omega
  go_enter Tryz.func33,Tryz.ntmps33
  go_wp2_with fail
  go_ret
  exact⟨by rw[E.out];try rfl,rfl⟩
 have z2:¬ (32:Int)≤(x.toNat:Int):=by omega
 have E:Hid (xE x=false):=by rw[Hid,Bool.eq_false_iff,ne_eq,uQ];omega
 go_enter Tryz.func33,Tryz.ntmps33
 go_wp2_with fail
 go_ret
 exact⟨by rw[E.out];try rfl,rfl⟩
theorem dc {A:Option Addr}{n c:Nat}{ls:List (List UInt8)}(hn:n=ls.length) (hl:ls.length≤1099511627000) (ht:ls.flatten.length≤1099511627000) (w:World) (hs:SrcR w A ls) :
  Calls Tryz.prog 43 #[.slice A n c] w fun e w'=>∃ r,e=.returned r∧Fresh w (ls.flatten) r w':=by
 have HN:=Hh (And.intro hn (And.intro hl ht));clear hn hl ht;go_enter Tryz.func43,Tryz.ntmps43
 have zK:=OwnB.nil w w.heap.size;have zd:=Below.refl w.heap.size w;go_wp2_with fail
 go_loopw [3,5,8] (fun v1 v5 v2 wr=>∃ (k:Nat) (VA:Option Addr) (vc vn:Nat) (l:List UInt8),k≤ls.length∧v2=.int .i64 (k:Int)∧v1=.slice VA vn vc∧OwnB wr w.heap.size (.slice VA vn vc) l∧vn=l.length∧(ls.flatten=l++(ls.drop k).flatten)∧Below w.heap.size w wr) (fun _ _ v2 _=>ls.length-(intOf v2).toNat)
 case atStart=>exact⟨0,_,_,_,_,Nat.zero_le _,rfl,rfl,zK,rfl,by simp,zd⟩
 case round =>
 clear zK zd;obtain⟨k,VA,vc,vn,l,ku,rfl,rfl,vC,fQ,iy,wU⟩:=hrel;have HV:=Hh fQ;have HE:=Hh iy;clear fQ iy
 by_cases z6:k<ls.length
 ·obtain⟨ib,io,rfl,hr⟩:=hs (by omega);have kE:(k:Int)<(n:Int):=by have:=HN.out.1;omega
  obtain⟨Aj,cj,c0,fN⟩:=hr k z6;have q0:=(wU.cell (World.block_lt_of_cell? w _ c0)).trans c0;have fO:=fN.below wU;have kX:(k:Int)+1≤9223372036854775807:=by have:=HN.out.2.1;omega
  have HT:Hid (l.length+ls[k].length≤1099511627776):=by
   have h1:=congrArg List.length HE.out;rw[yN ls k z6]at h1
   simp only[List.length_append]at h1
   have:=HN.out.2.2;skip
   rw[Hid];omega
  have HF:Hid (ls.flatten=(l++ls[k])++(ls.drop (k+1)).flatten):=by rw[Hid,HE.out,yN ls k z6,List.append_assoc]
  clear hr c0 fN;go_wp2_with (at_builtin;refine zn ?_)
  unfold zj
  obtain rfl:=HV.out
  refine zw rfl (.tmp 12) (.tmp 13) rfl w.heap.size _ _ rfl vC Aj _ cj ls[k] rfl rfl fO HT.out wU.size fun v' w7 wE hg7 hat7=>?_
  obtain⟨VA',vc',rfl,_⟩:=wE.form;have nY:OwnB w7 w.heap.size (.slice VA' (l.length+ls[k].length) vc') (l++ls[k]):=by rw[← List.length_append];exact wE
  have uH:=wU.grown hg7 wU.size (fun q hq=>(vC.lt q hq).1);clear vC hg7 hat7 wU q0 fO wE;go_wp2_with fail
  go_roundw
  case rel=>exact⟨k+1,VA',vc',_,_,by omega,by go_num,rfl,nY,by rw[List.length_append],HF.out,uH⟩
  case measure=>simp[intOf];omega
 have cQ:k=ls.length:=by omega
 subst cQ;have kE:¬ ((ls.length:Int)<(n:Int)):=by have:=HN.out.1;omega
 have HZ:Hid (ls.flatten=l):=by rw[Hid,HE.out,List.drop_length];simp
 go_wp2_with fail
 go_ret
 obtain rfl:=HV.out
 exact⟨_,rfl,by rw[HZ.out];exact⟨vC,wU⟩⟩
theorem q8 {A:Option Addr}{n c:Nat}{ls:List (List UInt8)}(hn:n=ls.length) (hl:ls.length≤1099511627000) (ht:ls.flatten.length≤1099511627000) (w:World) (hs:SrcR w A ls) :
  Calls Tryz.prog 34 #[.slice A n c] w fun e w'=>∃ r,e=.returned r∧Fresh w (ls.flatten) r w':=by
 have HN:=Hh (And.intro hn (And.intro hl ht));clear hn hl ht;go_enter Tryz.func34,Tryz.ntmps34
 have zK:=OwnB.nil w w.heap.size;have zd:=Below.refl w.heap.size w;go_wp2_with fail
 go_loopw [3,5,8] (fun v1 v5 v2 wr=>∃ (k:Nat) (VA:Option Addr) (vc vn:Nat) (l:List UInt8),k≤ls.length∧v2=.int .i64 (k:Int)∧v1=.slice VA vn vc∧OwnB wr w.heap.size (.slice VA vn vc) l∧vn=l.length∧(ls.flatten=l++(ls.drop k).flatten)∧Below w.heap.size w wr) (fun _ _ v2 _=>ls.length-(intOf v2).toNat)
 case atStart=>exact⟨0,_,_,_,_,Nat.zero_le _,rfl,rfl,zK,rfl,by simp,zd⟩
 case round =>
 clear zK zd;obtain⟨k,VA,vc,vn,l,ku,rfl,rfl,vC,fQ,iy,wU⟩:=hrel;have HV:=Hh fQ;have HE:=Hh iy;clear fQ iy
 by_cases z6:k<ls.length
 ·obtain⟨ib,io,rfl,hr⟩:=hs (by omega);have kE:(k:Int)<(n:Int):=by have:=HN.out.1;omega
  obtain⟨Aj,cj,c0,fN⟩:=hr k z6;have q0:=(wU.cell (World.block_lt_of_cell? w _ c0)).trans c0;have fO:=fN.below wU;have kX:(k:Int)+1≤9223372036854775807:=by have:=HN.out.2.1;omega
  have HT:Hid (l.length+ls[k].length≤1099511627776):=by
   have h1:=congrArg List.length HE.out;rw[yN ls k z6]at h1
   simp only[List.length_append]at h1
   have:=HN.out.2.2;skip
   rw[Hid];omega
  have HF:Hid (ls.flatten=(l++ls[k])++(ls.drop (k+1)).flatten):=by rw[Hid,HE.out,yN ls k z6,List.append_assoc]
  clear hr c0 fN;go_wp2_with (at_builtin;refine zn ?_)
  unfold zj
  obtain rfl:=HV.out
  refine zw rfl (.tmp 12) (.tmp 13) rfl w.heap.size _ _ rfl vC Aj _ cj ls[k] rfl rfl fO HT.out wU.size fun v' w7 wE hg7 hat7=>?_
  obtain⟨VA',vc',rfl,_⟩:=wE.form;have nY:OwnB w7 w.heap.size (.slice VA' (l.length+ls[k].length) vc') (l++ls[k]):=by rw[← List.length_append];exact wE
  have uH:=wU.grown hg7 wU.size (fun q hq=>(vC.lt q hq).1);clear vC hg7 hat7 wU q0 fO wE;go_wp2_with fail
  go_roundw
  case rel=>exact⟨k+1,VA',vc',_,_,by omega,by go_num,rfl,nY,by rw[List.length_append],HF.out,uH⟩
  case measure=>simp[intOf];omega
 have cQ:k=ls.length:=by omega
 subst cQ;have kE:¬ ((ls.length:Int)<(n:Int)):=by have:=HN.out.1;omega
 have HZ:Hid (ls.flatten=l):=by rw[Hid,HE.out,List.drop_length];simp
 go_wp2_with fail
 go_ret
 obtain rfl:=HV.out
 exact⟨_,rfl,by rw[HZ.out];exact⟨vC,wU⟩⟩
theorem IsBytes.take' {H:Snap}{A:Option Addr}{c:Nat}{l:List UInt8}(h:IsBytes H A c l) (m:Nat):IsBytes H A c (l.take m):=by
 refine⟨by have:=h.le;rw[List.length_take];omega,h.max,fun ww=>?_⟩
 obtain⟨b,off,e,hc⟩:=h.row (by intro h0;rw[List.map_eq_nil_iff]at h0;subst h0;simp at ww)
 refine⟨b,off,e,fun j v hj=>hc j v ?_⟩
 rw[List.map_take,List.getElem?_take]at hj
 split at hj
 ·exact hj
 cases hj
theorem IsBytes.drop' {H:Snap}{A:Option Addr}{c:Nat}{l:List UInt8}(h:IsBytes H A c l) (k:Nat) (hk:k≤l.length):IsBytes H (if c=k then A else Option.map (fun x=>x.add k) A) (c-k) (l.drop k):=by
 have iB:=h.le;have yU:=h.max
 refine⟨by rw[List.length_drop];omega,by omega,fun ww=>?_⟩
 have ku:k<l.length:=by
  rcases Nat.lt_or_ge k l.length with h1 | h1
  ·exact h1
  rw[List.drop_eq_nil_of_le h1]at ww;exact absurd rfl ww
 obtain⟨b,off,rfl,hc⟩:=h.row (by intro h0;rw[List.map_eq_nil_iff]at h0;subst h0;simp at ku);rw[if_neg (by omega)]
 refine⟨b,off+k,by rw[Option.map_some,um],fun j v hj=>?_⟩
 rw[List.map_drop,List.getElem?_drop]at hj;have:=hc (k+j) v hj;rwa [← Nat.add_assoc]at this
theorem vU {P:Program}(t e:TypeId) (n:Nat) (cs:Array Value) (k:IntKind) (j:Nat) (i:Int) (u:Value) (h:P.underlying t=some (.array n e)) (he:P.plainKey e=true) (i0:TypeInfo) (ot:P.info? e=some i0) (h1:i0.size=1) (hi:i=(j:Int)) (hj:j<n) (hv:cs[j]? = some u) (w:World) :
  (Instr.index t (.agg cs) (.int k i)).run P w=.ok u w:=by
 subst hi;have hn:(0:Int)≤(j:Int)∧(j:Int)<(n:Int):=by omega
 have hp:=run_part_plain (P:=P) (w:=w) he hv
 have e1:(Instr.index t (.agg cs) (.int k (j:Int))).run P w=(part e cs j).run P w:=by
  simp[Instr.index,run_underlying h,asIntOf,hn,hj,sizeOf,typeInfo,ot,h1,go_sem]
 rw[e1,hp]
theorem zM (w:World) (cs:Array Value) (j:Nat) (u:Value) (i:Int) (hi:i=(j:Int)) (hj:j<8) (hv:cs[j]? = some u) :
  (Instr.index 127 (.agg cs) (.int .i64 i)).run Tryz.prog w=.ok u w:=by
 obtain⟨i0,ot,ko,tB,qn⟩:=info_parts (show(Tryz.prog.info? 112).map (fun i=>(i.zero,i.size,i.bytes))=some (some (.int .u32 0),1,4) by kernel_rfl)
 exact vU _ _ 8 cs .i64 j i u Tryz.underlying127 (by kernel_rfl) i0 ot tB hi hj hv w
theorem lX (w:World) (cs:Array Value) (j:Nat) (u:Value) (i:Int) (hi:i=(j:Int)) (hj:j<8) (hv:cs[j]? = some u) :
  (Instr.index 123 (.agg cs) (.int .i64 i)).run Tryz.prog w=.ok u w:=by
 obtain⟨i0,ot,ko,tB,qn⟩:=info_parts (show(Tryz.prog.info? 70).map (fun i=>(i.zero,i.size,i.bytes))=some (some (.int .u64 0),1,8) by kernel_rfl)
 exact vU _ _ 8 cs .i64 j i u Tryz.underlying123 (by kernel_rfl) i0 ot tB hi hj hv w
def zP (n s:Nat):UInt8:=UInt8.ofNat (n/2 ^ s)
def yM (n:Nat):List UInt8:=[zP n 56,zP n 48,zP n 40,zP n 32,zP n 24,zP n 16,zP n 8,zP n 0]
def uG (n:Nat):Nat:=(119-n%64)%64
def er (n:Nat):Nat:=n*8%18446744073709551616
def xe (l:List UInt8):List UInt8:=l++[128]++List.replicate (uG l.length) 0++yM (er l.length)
theorem yu (n:Nat):(yM n).length=8:=rfl
theorem mC (l:List UInt8):(xe l).length=l.length+9+uG l.length∧(xe l).length%64=0:=by
 have h:(xe l).length=l.length+9+uG l.length:=by
  simp only[xe,List.length_append,List.length_replicate,yu,List.length_singleton]
  omega
 refine⟨h, ?_⟩
 rw[h,uG]
 omega
theorem nP (n:Nat):uG n<64:=Nat.mod_lt _ (by decide)
theorem iS {n z:Nat}(hz:z≤uG n) (h:¬ (n+1+z+8)%64=0):z<uG n:=by
 unfold uG at *
 omega
theorem oI {n z:Nat}(hz:z≤uG n) (h:(n+1+z+8)%64=0):z=uG n:=by
 unfold uG at *
 omega
def wM:Value→Nat
 | .slice _ m _=>m
 | _=>0
theorem zE (N s:Nat) (d:Int) (hd:d=((2 ^ s:Nat):Int)):zm (zP N s)=.int .u8 ((N:Int)/d%256):=by
 subst hd;rw[zm,zP,UInt8.toNat_ofNat'];rfl
def zL (l:List UInt8) (z:Nat):List UInt8:=l++[128]++List.replicate z 0
theorem rJ (l:List UInt8) (z:Nat):zL l z++[0]=zL l (z+1):=by
 rw[zL,zL,List.replicate_succ',List.append_assoc]
theorem zU (l:List UInt8) (z:Nat):(zL l z).length=l.length+1+z:=by simp[zL];omega
theorem oU (N k:Nat) (h:k<8):(yM N).take k++[(yM N).getD k 0]=(yM N).take (k+1):=by
 obtain rfl | rfl | rfl | rfl | rfl | rfl | rfl | rfl:k=0∨k=1∨k=2∨k=3∨k=4∨k=5∨k=6∨k=7:=by omega
 all_goals rfl
theorem jf {A:Option Addr}{c:Nat}{l:List UInt8}{n:Nat}(hn:n=l.length) (yU:l.length≤1099511627) (w:World) (hS:Src w A (l.map zm)) :
  Calls Tryz.prog 77 #[.slice A n c,.int .i64 64,.int .i64 8] w fun e w'=>∃ r,e=.returned r∧Fresh w (xe l) r w':=by
 obtain⟨i0,ot,ko,tB,qn⟩:=info_parts nN;have HN:=Hh (And.intro hn yU);obtain⟨n2,kZ⟩:∃ n2,n+128=n2:=⟨_,rfl⟩
 have vT:IntKind.i64.wrap ((n:Int)+128)=(n2:Int):=by rw[← kZ,Int.natCast_add];exact IntWalk.i64_in _ (by omega)
 have sS:=Hh kZ;obtain⟨N,hN⟩:∃ N,er l.length=N:=⟨_,rfl⟩
 have tR:IntKind.u64.wrap ((n:Int))=(n:Int):=IntWalk.u64_in _ (by omega);have iE:IntKind.u64.wrap ((n:Int)*8)=(N:Int):=by rw[← hN,er,IntKind.wrap_u64,hn];omega
 have ce:=Hh hN;clear kZ hn yU hN;go_enter Tryz.func77,Tryz.ntmps77
 go_wp2_with (at_make;refine zn ?_)
 refine wpList_make_own w rfl _ _ 22 rfl w.heap.size 5 i0 _ 1 Tryz.underlying22 ot ko tB .i64 .i64 (n2:Int) n2 rfl rfl rfl (by rw[qn];have:=HN.out;have:=sS.out;omega) (by have:=HN.out;have:=sS.out;simp only[maxLen];omega) (Nat.le_refl _) fun w1 zK hg1=>?_
 have hO:OwnB w1 w.heap.size (.slice (some ⟨w.heap.size,0,none⟩) 0 n2) []:=zK;have zd:=xj hg1;have Tx:=hS.below zd;clear zK hg1 ot ko tB qn hS vT;go_wp2_with (at_builtin;refine zn ?_)
 refine zw rfl (.tmp 15) (.tmp 16) rfl w.heap.size _ [] rfl hO A n c l rfl HN.out.1 Tx (by have:=HN.out.2;simp;omega) zd.size fun v' w2 vO us na=>?_
 rw[List.nil_append]at vO;have zO:=zu zd us (fun q hq=>(hO.lt q hq).1);have sT:=vO.alloc (.cells #[.int .u8 128] 5);have yV:=zO.alloc zO.size (.cells #[.int .u8 128] 5);clear hO zd Tx us na;go_wp2_with (at_builtin;refine zn ?_)
 refine zw rfl (.tmp 17) (.tmp 18) rfl w.heap.size _ l rfl sT _ 1 _ [128] rfl rfl (Src.new _ _ _ _ rfl _ rfl) (by have:=HN.out.2;simp;omega) yV.size fun v3 w3 tN rO hat3=>?_
 have xW:=zu yV rO (fun q hq=>(vO.lt q hq).1);replace tN:OwnB w3 w.heap.size v3 (zL l 0):=by rw[zL];simpa using tN
 obtain⟨A3,c3,rfl,_⟩:=tN.form;rw[zU]at tN⊢;clear vO sT zO yV rO hat3;go_wp2_with fail
 go_loopw [7] (fun v7 wr=>∃ (z m:Nat) (VA:Option Addr) (vc:Nat),v7=.slice VA m vc∧Hid (m=l.length+1+z)∧Hid (z≤uG l.length)∧OwnB wr w.heap.size (.slice VA m vc) (zL l z)∧Below w.heap.size w wr) (fun v7 _=>l.length+65-wM v7)
 case atStart=>exact⟨0,_,A3,c3,rfl,rfl,Nat.zero_le _,tN,xW⟩
 case round =>
 clear tN xW;obtain⟨z,m,VA,vc,rfl,HM,HZ,hO,hb⟩:=hrel;have HB:=Hh (nP l.length);obtain⟨m8,Vk⟩:∃ m8,m+8=m8:=⟨_,rfl⟩
 have kz:IntKind.i64.wrap ((m:Int)+8)=(m8:Int):=by rw[← Vk,Int.natCast_add];exact IntWalk.i64_in _ (by have:=HM.out;have:=HZ.out;have:=HB.out;have:=HN.out;omega)
 have TT:=Hh Vk;clear Vk;obtain⟨r,hr⟩:∃ r,m8%64=r:=⟨_,rfl⟩
 have cW:(m8:Int).tmod 64=(r:Int):=by rw[← hr];exact(Int.ofNat_tmod m8 64).symm
 have kh:(m8:Int)%64=(r:Int):=by rw[← hr];omega
 have HR:=Hh hr;clear hr
 by_cases h0:r=0
 ·subst h0;have cf:Hid (z=uG l.length):=oI HZ.out (by have:=HR.out;have:=TT.out;have:=HM.out;omega);go_wp2_with fail
  go_loopw [7,9] (fun v7 v9 wx=>∃ (k mm:Nat) (VB:Option Addr) (vb:Nat),v7=.slice VB mm vb∧v9=.int .i64 (56-8*(k:Int))∧k≤8∧Hid (mm=m+k)∧OwnB wx w.heap.size (.slice VB mm vb) (zL l z++(yM N).take k)∧Below w.heap.size w wx) (fun v7 _ _=>m+8-wM v7)
  case atStart=>exact⟨0,m,VA,vc,rfl,rfl,by omega,rfl,by simpa using hO,hb⟩
  case round =>
  clear hO hb;obtain⟨k,mm,VB,vb,rfl,rfl,hk,sX,hO,hb⟩:=hrel
  have rM:Hid ((zL l z++(yM N).take k).length≤1099511627700):=by
   have:=HM.out;have:=sX.out;have:=HN.out;have:=HZ.out;have:=HB.out
   rw[Hid,List.length_append,zU,List.length_take,yu]
   omega
  have HT:=Hh (fun h=>oU N k h)
  rcases(show k=0∨k=1∨k=2∨k=3∨k=4∨k=5∨k=6∨k=7∨k=8 by omega) with rfl | rfl | rfl | rfl | rfl | rfl | rfl | rfl | rfl
  ·go_wp2_with (at_builtin;refine zn ?_)
   unfold zj
   have zK:=hO.alloc (.cells #[.int .u8 ((N:Int)/72057594037927936%256)] 5);have zd:=hb.alloc hb.size (.cells #[.int .u8 ((N:Int)/72057594037927936%256)] 5)
   refine zw rfl (.tmp 40) (.tmp 46) rfl w.heap.size _ _ rfl zK _ 1 _ [zP N 56] rfl rfl (Src.new _ _ _ _ rfl _ (by simp only[List.map_cons,List.map_nil];rw[zE N 56 72057594037927936 rfl])) (by have:=rM.out;simp only[List.length_singleton];omega) zd.size fun v' w5 zV hg5 hat5=>?_
   have yv:=zu zd hg5 (fun q hq=>(hO.lt q hq).1);rw[List.append_assoc,show [zP N 56]=[(yM N).getD 0 0] from rfl,HT.out (by omega)]at zV;obtain⟨A5,c5,rfl,_⟩:=zV.form
   have tL:Hid ((zL l z++(yM N).take (0+1)).length=m+1):=by
    have:=HM.out;rw[Hid,List.length_append,zU,List.length_take,yu]
    omega
   rw[tL.out]at zV⊢;clear hO hb zK zd hg5 hat5;go_wp2_with fail
   go_roundw
   case rel=>exact⟨1,m+1,A5,c5,rfl,by go_num,by omega,rfl,zV,yv⟩
   case measure=>have:=sX.out;simp only[wM];omega
  ·go_wp2_with (at_builtin;refine zn ?_)
   unfold zj
   have zK:=hO.alloc (.cells #[.int .u8 ((N:Int)/281474976710656%256)] 5);have zd:=hb.alloc hb.size (.cells #[.int .u8 ((N:Int)/281474976710656%256)] 5)
   refine zw rfl (.tmp 40) (.tmp 46) rfl w.heap.size _ _ rfl zK _ 1 _ [zP N 48] rfl rfl (Src.new _ _ _ _ rfl _ (by simp only[List.map_cons,List.map_nil];rw[zE N 48 281474976710656 rfl])) (by have:=rM.out;simp only[List.length_singleton];omega) zd.size fun v' w5 zV hg5 hat5=>?_
   have yv:=zu zd hg5 (fun q hq=>(hO.lt q hq).1);rw[List.append_assoc,show [zP N 48]=[(yM N).getD 1 0] from rfl,HT.out (by omega)]at zV;obtain⟨A5,c5,rfl,_⟩:=zV.form
   have tL:Hid ((zL l z++(yM N).take (1+1)).length=m+2):=by
    have:=HM.out;rw[Hid,List.length_append,zU,List.length_take,yu]
    omega
   rw[tL.out]at zV⊢;clear hO hb zK zd hg5 hat5;go_wp2_with fail
   go_roundw
   case rel=>exact⟨2,m+2,A5,c5,rfl,by go_num,by omega,rfl,zV,yv⟩
   case measure=>have:=sX.out;simp only[wM];omega
  ·go_wp2_with (at_builtin;refine zn ?_)
   unfold zj
   have zK:=hO.alloc (.cells #[.int .u8 ((N:Int)/1099511627776%256)] 5);have zd:=hb.alloc hb.size (.cells #[.int .u8 ((N:Int)/1099511627776%256)] 5)
   refine zw rfl (.tmp 40) (.tmp 46) rfl w.heap.size _ _ rfl zK _ 1 _ [zP N 40] rfl rfl (Src.new _ _ _ _ rfl _ (by simp only[List.map_cons,List.map_nil];rw[zE N 40 1099511627776 rfl])) (by have:=rM.out;simp only[List.length_singleton];omega) zd.size fun v' w5 zV hg5 hat5=>?_
   have yv:=zu zd hg5 (fun q hq=>(hO.lt q hq).1);rw[List.append_assoc,show [zP N 40]=[(yM N).getD 2 0] from rfl,HT.out (by omega)]at zV;obtain⟨A5,c5,rfl,_⟩:=zV.form
   have tL:Hid ((zL l z++(yM N).take (2+1)).length=m+3):=by
    have:=HM.out;rw[Hid,List.length_append,zU,List.length_take,yu]
    omega
   rw[tL.out]at zV⊢;clear hO hb zK zd hg5 hat5;go_wp2_with fail
   go_roundw
   case rel=>exact⟨3,m+3,A5,c5,rfl,by go_num,by omega,rfl,zV,yv⟩
   case measure=>have:=sX.out;simp only[wM];omega
  ·go_wp2_with (at_builtin;refine zn ?_)
   unfold zj
   have zK:=hO.alloc (.cells #[.int .u8 ((N:Int)/4294967296%256)] 5);have zd:=hb.alloc hb.size (.cells #[.int .u8 ((N:Int)/4294967296%256)] 5)
   refine zw rfl (.tmp 40) (.tmp 46) rfl w.heap.size _ _ rfl zK _ 1 _ [zP N 32] rfl rfl (Src.new _ _ _ _ rfl _ (by simp only[List.map_cons,List.map_nil];rw[zE N 32 4294967296 rfl])) (by have:=rM.out;simp only[List.length_singleton];omega) zd.size fun v' w5 zV hg5 hat5=>?_
   have yv:=zu zd hg5 (fun q hq=>(hO.lt q hq).1);rw[List.append_assoc,show [zP N 32]=[(yM N).getD 3 0] from rfl,HT.out (by omega)]at zV;obtain⟨A5,c5,rfl,_⟩:=zV.form
   have tL:Hid ((zL l z++(yM N).take (3+1)).length=m+4):=by
    have:=HM.out;rw[Hid,List.length_append,zU,List.length_take,yu]
    omega
   rw[tL.out]at zV⊢;clear hO hb zK zd hg5 hat5;go_wp2_with fail
   go_roundw
   case rel=>exact⟨4,m+4,A5,c5,rfl,by go_num,by omega,rfl,zV,yv⟩
   case measure=>have:=sX.out;simp only[wM];omega
  ·go_wp2_with (at_builtin;refine zn ?_)
   unfold zj
   have zK:=hO.alloc (.cells #[.int .u8 ((N:Int)/16777216%256)] 5);have zd:=hb.alloc hb.size (.cells #[.int .u8 ((N:Int)/16777216%256)] 5)
   refine zw rfl (.tmp 40) (.tmp 46) rfl w.heap.size _ _ rfl zK _ 1 _ [zP N 24] rfl rfl (Src.new _ _ _ _ rfl _ (by simp only[List.map_cons,List.map_nil];rw[zE N 24 16777216 rfl])) (by have:=rM.out;simp only[List.length_singleton];omega) zd.size fun v' w5 zV hg5 hat5=>?_
   have yv:=zu zd hg5 (fun q hq=>(hO.lt q hq).1);rw[List.append_assoc,show [zP N 24]=[(yM N).getD 4 0] from rfl,HT.out (by omega)]at zV;obtain⟨A5,c5,rfl,_⟩:=zV.form
   have tL:Hid ((zL l z++(yM N).take (4+1)).length=m+5):=by
    have:=HM.out;rw[Hid,List.length_append,zU,List.length_take,yu]
    omega
   rw[tL.out]at zV⊢;clear hO hb zK zd hg5 hat5;go_wp2_with fail
   go_roundw
   case rel=>exact⟨5,m+5,A5,c5,rfl,by go_num,by omega,rfl,zV,yv⟩
   case measure=>have:=sX.out;simp only[wM];omega
  ·go_wp2_with (at_builtin;refine zn ?_)
   unfold zj
   have zK:=hO.alloc (.cells #[.int .u8 ((N:Int)/65536%256)] 5);have zd:=hb.alloc hb.size (.cells #[.int .u8 ((N:Int)/65536%256)] 5)
   refine zw rfl (.tmp 40) (.tmp 46) rfl w.heap.size _ _ rfl zK _ 1 _ [zP N 16] rfl rfl (Src.new _ _ _ _ rfl _ (by simp only[List.map_cons,List.map_nil];rw[zE N 16 65536 rfl])) (by have:=rM.out;simp only[List.length_singleton];omega) zd.size fun v' w5 zV hg5 hat5=>?_
   have yv:=zu zd hg5 (fun q hq=>(hO.lt q hq).1);rw[List.append_assoc,show [zP N 16]=[(yM N).getD 5 0] from rfl,HT.out (by omega)]at zV;obtain⟨A5,c5,rfl,_⟩:=zV.form
   have tL:Hid ((zL l z++(yM N).take (5+1)).length=m+6):=by
    have:=HM.out;rw[Hid,List.length_append,zU,List.length_take,yu]
    omega
   rw[tL.out]at zV⊢;clear hO hb zK zd hg5 hat5;go_wp2_with fail
   go_roundw
   case rel=>exact⟨6,m+6,A5,c5,rfl,by go_num,by omega,rfl,zV,yv⟩
   case measure=>have:=sX.out;simp only[wM];omega
  ·go_wp2_with (at_builtin;refine zn ?_)
   unfold zj
   have zK:=hO.alloc (.cells #[.int .u8 ((N:Int)/256%256)] 5);have zd:=hb.alloc hb.size (.cells #[.int .u8 ((N:Int)/256%256)] 5)
   refine zw rfl (.tmp 40) (.tmp 46) rfl w.heap.size _ _ rfl zK _ 1 _ [zP N 8] rfl rfl (Src.new _ _ _ _ rfl _ (by simp only[List.map_cons,List.map_nil];rw[zE N 8 256 rfl])) (by have:=rM.out;simp only[List.length_singleton];omega) zd.size fun v' w5 zV hg5 hat5=>?_
   have yv:=zu zd hg5 (fun q hq=>(hO.lt q hq).1);rw[List.append_assoc,show [zP N 8]=[(yM N).getD 6 0] from rfl,HT.out (by omega)]at zV;obtain⟨A5,c5,rfl,_⟩:=zV.form
   have tL:Hid ((zL l z++(yM N).take (6+1)).length=m+7):=by
    have:=HM.out;rw[Hid,List.length_append,zU,List.length_take,yu]
    omega
   rw[tL.out]at zV⊢;clear hO hb zK zd hg5 hat5;go_wp2_with fail
   go_roundw
   case rel=>exact⟨7,m+7,A5,c5,rfl,by go_num,by omega,rfl,zV,yv⟩
   case measure=>have:=sX.out;simp only[wM];omega
  ·go_wp2_with (at_builtin;refine zn ?_)
   unfold zj
   have zK:=hO.alloc (.cells #[.int .u8 ((N:Int)%256)] 5);have zd:=hb.alloc hb.size (.cells #[.int .u8 ((N:Int)%256)] 5)
   refine zw rfl (.tmp 40) (.tmp 46) rfl w.heap.size _ _ rfl zK _ 1 _ [zP N 0] rfl rfl (Src.new _ _ _ _ rfl _ (by simp only[List.map_cons,List.map_nil];rw[zE N 0 1 rfl];simp)) (by have:=rM.out;simp only[List.length_singleton];omega) zd.size fun v' w5 zV hg5 hat5=>?_
   have yv:=zu zd hg5 (fun q hq=>(hO.lt q hq).1);rw[List.append_assoc,show [zP N 0]=[(yM N).getD 7 0] from rfl,HT.out (by omega)]at zV;obtain⟨A5,c5,rfl,_⟩:=zV.form
   have tL:Hid ((zL l z++(yM N).take (7+1)).length=m+8):=by
    have:=HM.out;rw[Hid,List.length_append,zU,List.length_take,yu]
    omega
   rw[tL.out]at zV⊢;clear hO hb zK zd hg5 hat5;go_wp2_with fail
   go_roundw
   case rel=>exact⟨8,m+8,A5,c5,rfl,by go_num,by omega,rfl,zV,yv⟩
   case measure=>have:=sX.out;simp only[wM];omega
  have hp:zL l z++(yM N).take 8=xe l:=by
   rw[zL,cf.out,← ce.out];rfl
  rw[hp]at hO;go_wp2_with fail
  go_ret
  exact⟨_,rfl,by have h:=hO.form;obtain⟨_,_,e,_⟩:=h;exact⟨hO,hb⟩⟩
 have hz:Hid (z+1≤uG l.length):=iS HZ.out (by have:=HR.out;have:=TT.out;have:=HM.out;omega);have zK:=hO.alloc (.cells #[.int .u8 0] 5);have zd:=hb.alloc hb.size (.cells #[.int .u8 0] 5);go_wp2_with (at_builtin;refine zn ?_)
 refine zw rfl (.tmp 27) (.tmp 28) rfl w.heap.size _ _ rfl zK _ 1 _ [0] rfl rfl (Src.new _ _ _ _ rfl _ rfl) (by rw[zU];have:=HN.out.2;have:=HB.out;have:=hz.out;simp only[List.length_singleton];omega) zd.size fun v' w5 zV hg5 hat5=>?_
 have yv:=zu zd hg5 (fun q hq=>(hO.lt q hq).1);rw[rJ]at zV;obtain⟨A5,c5,rfl,_⟩:=zV.form;rw[zU]at zV⊢;clear hO hb zK zd hg5 hat5;go_wp2_with fail
 go_roundw
 case rel=>exact⟨z+1,_,A5,c5,rfl,rfl,hz,zV,yv⟩
 case measure=>have:=HM.out;have:=HB.out;have:=hz.out;simp only[wM];omega
theorem bQ {A:Option Addr}{c:Nat}{l:List UInt8}{n:Nat}(hn:n=l.length) (yU:l.length≤1099511627) (w:World) (hS:Src w A (l.map zm)) :
  Calls Tryz.prog 80 #[.slice A n c,.int .i64 64] w fun e w'=>∃ r,e=.returned r∧Fresh w (xe l) r w':=by
 have HN:=Hh (And.intro hn yU);obtain⟨N,hN⟩:∃ N,er l.length=N:=⟨_,rfl⟩
 have tR:IntKind.u64.wrap ((n:Int))=(n:Int):=IntWalk.u64_in _ (by omega);have iE:IntKind.u64.wrap ((n:Int)*8)=(N:Int):=by rw[← hN,er,IntKind.wrap_u64,hn];omega
 have ce:=Hh hN;clear hn yU hN;go_enter Tryz.func80,Tryz.ntmps80
 go_wp2_with (at_builtin;refine zn ?_)
 refine zw rfl (.const (.slice none 0 0)) (.tmp 8) rfl w.heap.size (.slice none 0 0) [] rfl (OwnB.nil _ _) A n c l rfl HN.out.1 hS (by have:=HN.out.2;simp;omega) (Nat.le_refl _) fun v' w2 vO us na=>?_
 rw[List.nil_append]at vO;have zO:=xj (by simpa [Value.ownBlock] using us);have sT:=vO.alloc (.cells #[.int .u8 128] 5);have yV:=zO.alloc zO.size (.cells #[.int .u8 128] 5);clear hS us na;go_wp2_with (at_builtin;refine zn ?_)
 refine zw rfl (.tmp 9) (.tmp 10) rfl w.heap.size _ l rfl sT _ 1 _ [128] rfl rfl (Src.new _ _ _ _ rfl _ rfl) (by have:=HN.out.2;simp;omega) yV.size fun v3 w3 tN rO hat3=>?_
 have xW:=zu yV rO (fun q hq=>(vO.lt q hq).1);replace tN:OwnB w3 w.heap.size v3 (zL l 0):=by rw[zL];simpa using tN
 obtain⟨A3,c3,rfl,_⟩:=tN.form;rw[zU]at tN⊢;clear vO sT zO yV rO hat3;go_wp2_with fail
 go_loopw [5] (fun v7 wr=>∃ (z m:Nat) (VA:Option Addr) (vc:Nat),v7=.slice VA m vc∧Hid (m=l.length+1+z)∧Hid (z≤uG l.length)∧OwnB wr w.heap.size (.slice VA m vc) (zL l z)∧Below w.heap.size w wr) (fun v7 _=>l.length+65-wM v7)
 case atStart=>exact⟨0,_,A3,c3,rfl,rfl,Nat.zero_le _,tN,xW⟩
 case round =>
 clear tN xW;obtain⟨z,m,VA,vc,rfl,HM,HZ,hO,hb⟩:=hrel;have HB:=Hh (nP l.length);obtain⟨r,hr⟩:∃ r,m%64=r:=⟨_,rfl⟩
 have cW:(m:Int).tmod 64=(r:Int):=by rw[← hr];exact(Int.ofNat_tmod m 64).symm
 have kh:(m:Int)%64=(r:Int):=by rw[← hr];omega
 have HR:=Hh hr;clear hr
 by_cases h0:r=56
 ·subst h0;have cf:Hid (z=uG l.length):=oI HZ.out (by have:=HR.out;have:=HM.out;omega);rw[show((56:Nat):Int)=56 from rfl]at cW kh;go_wp2_with fail
  go_loopw [5] (fun v7 wx=>v7=.slice VA m vc∧OwnB wx w.heap.size (.slice VA m vc) (zL l z)∧Below w.heap.size w wx) (fun v7 _=>0)
  case atStart=>exact⟨rfl,hO,hb⟩
  case round =>
  clear hO hb;obtain⟨rfl,hO,hb⟩:=hrel;go_wp2_with fail
  go_loopw [5,7] (fun v7 v9 wx=>∃ (k mm:Nat) (VB:Option Addr) (vb:Nat),v7=.slice VB mm vb∧v9=.int .i64 (7-(k:Int))∧k≤8∧Hid (mm=m+k)∧OwnB wx w.heap.size (.slice VB mm vb) (zL l z++(yM N).take k)∧Below w.heap.size w wx) (fun v7 _ _=>m+8-wM v7)
  case atStart=>exact⟨0,m,VA,vc,rfl,rfl,by omega,rfl,by simpa using hO,hb⟩
  case round =>
  clear hO hb;obtain⟨k,mm,VB,vb,rfl,rfl,hk,sX,hO,hb⟩:=hrel
  have rM:Hid ((zL l z++(yM N).take k).length≤1099511627700):=by
   have:=HM.out;have:=sX.out;have:=HN.out;have:=HZ.out;have:=HB.out
   rw[Hid,List.length_append,zU,List.length_take,yu]
   omega
  have HT:=Hh (fun h=>oU N k h)
  rcases(show k=0∨k=1∨k=2∨k=3∨k=4∨k=5∨k=6∨k=7∨k=8 by omega) with rfl | rfl | rfl | rfl | rfl | rfl | rfl | rfl | rfl
  ·go_wp2_with (at_builtin;refine zn ?_)
   unfold zj
   have zK:=hO.alloc (.cells #[.int .u8 ((N:Int)/72057594037927936%256)] 5);have zd:=hb.alloc hb.size (.cells #[.int .u8 ((N:Int)/72057594037927936%256)] 5)
   refine zw rfl (.tmp 42) (.tmp 49) rfl w.heap.size _ _ rfl zK _ 1 _ [zP N 56] rfl rfl (Src.new _ _ _ _ rfl _ (by simp only[List.map_cons,List.map_nil];rw[zE N 56 72057594037927936 rfl])) (by have:=rM.out;simp only[List.length_singleton];omega) zd.size fun v' w5 zV hg5 hat5=>?_
   have yv:=zu zd hg5 (fun q hq=>(hO.lt q hq).1);rw[List.append_assoc,show [zP N 56]=[(yM N).getD 0 0] from rfl,HT.out (by omega)]at zV;obtain⟨A5,c5,rfl,_⟩:=zV.form
   have tL:Hid ((zL l z++(yM N).take (0+1)).length=m+1):=by
    have:=HM.out;rw[Hid,List.length_append,zU,List.length_take,yu]
    omega
   rw[tL.out]at zV⊢;clear hO hb zK zd hg5 hat5;go_wp2_with fail
   go_roundw
   case rel=>exact⟨1,m+1,A5,c5,rfl,by go_num,by omega,rfl,zV,yv⟩
   case measure=>have:=sX.out;simp only[wM];omega
  ·go_wp2_with (at_builtin;refine zn ?_)
   unfold zj
   have zK:=hO.alloc (.cells #[.int .u8 ((N:Int)/281474976710656%256)] 5);have zd:=hb.alloc hb.size (.cells #[.int .u8 ((N:Int)/281474976710656%256)] 5)
   refine zw rfl (.tmp 42) (.tmp 49) rfl w.heap.size _ _ rfl zK _ 1 _ [zP N 48] rfl rfl (Src.new _ _ _ _ rfl _ (by simp only[List.map_cons,List.map_nil];rw[zE N 48 281474976710656 rfl])) (by have:=rM.out;simp only[List.length_singleton];omega) zd.size fun v' w5 zV hg5 hat5=>?_
   have yv:=zu zd hg5 (fun q hq=>(hO.lt q hq).1);rw[List.append_assoc,show [zP N 48]=[(yM N).getD 1 0] from rfl,HT.out (by omega)]at zV;obtain⟨A5,c5,rfl,_⟩:=zV.form
   have tL:Hid ((zL l z++(yM N).take (1+1)).length=m+2):=by
    have:=HM.out;rw[Hid,List.length_append,zU,List.length_take,yu]
    omega
   rw[tL.out]at zV⊢;clear hO hb zK zd hg5 hat5;go_wp2_with fail
   go_roundw
   case rel=>exact⟨2,m+2,A5,c5,rfl,by go_num,by omega,rfl,zV,yv⟩
   case measure=>have:=sX.out;simp only[wM];omega
  ·go_wp2_with (at_builtin;refine zn ?_)
   unfold zj
   have zK:=hO.alloc (.cells #[.int .u8 ((N:Int)/1099511627776%256)] 5);have zd:=hb.alloc hb.size (.cells #[.int .u8 ((N:Int)/1099511627776%256)] 5)
   refine zw rfl (.tmp 42) (.tmp 49) rfl w.heap.size _ _ rfl zK _ 1 _ [zP N 40] rfl rfl (Src.new _ _ _ _ rfl _ (by simp only[List.map_cons,List.map_nil];rw[zE N 40 1099511627776 rfl])) (by have:=rM.out;simp only[List.length_singleton];omega) zd.size fun v' w5 zV hg5 hat5=>?_
   have yv:=zu zd hg5 (fun q hq=>(hO.lt q hq).1);rw[List.append_assoc,show [zP N 40]=[(yM N).getD 2 0] from rfl,HT.out (by omega)]at zV;obtain⟨A5,c5,rfl,_⟩:=zV.form
   have tL:Hid ((zL l z++(yM N).take (2+1)).length=m+3):=by
    have:=HM.out;rw[Hid,List.length_append,zU,List.length_take,yu]
    omega
   rw[tL.out]at zV⊢;clear hO hb zK zd hg5 hat5;go_wp2_with fail
   go_roundw
   case rel=>exact⟨3,m+3,A5,c5,rfl,by go_num,by omega,rfl,zV,yv⟩
   case measure=>have:=sX.out;simp only[wM];omega
  ·go_wp2_with (at_builtin;refine zn ?_)
   unfold zj
   have zK:=hO.alloc (.cells #[.int .u8 ((N:Int)/4294967296%256)] 5);have zd:=hb.alloc hb.size (.cells #[.int .u8 ((N:Int)/4294967296%256)] 5)
   refine zw rfl (.tmp 42) (.tmp 49) rfl w.heap.size _ _ rfl zK _ 1 _ [zP N 32] rfl rfl (Src.new _ _ _ _ rfl _ (by simp only[List.map_cons,List.map_nil];rw[zE N 32 4294967296 rfl])) (by have:=rM.out;simp only[List.length_singleton];omega) zd.size fun v' w5 zV hg5 hat5=>?_
   have yv:=zu zd hg5 (fun q hq=>(hO.lt q hq).1);rw[List.append_assoc,show [zP N 32]=[(yM N).getD 3 0] from rfl,HT.out (by omega)]at zV;obtain⟨A5,c5,rfl,_⟩:=zV.form
   have tL:Hid ((zL l z++(yM N).take (3+1)).length=m+4):=by
    have:=HM.out;rw[Hid,List.length_append,zU,List.length_take,yu]
    omega
   rw[tL.out]at zV⊢;clear hO hb zK zd hg5 hat5;go_wp2_with fail
   go_roundw
   case rel=>exact⟨4,m+4,A5,c5,rfl,by go_num,by omega,rfl,zV,yv⟩
   case measure=>have:=sX.out;simp only[wM];omega
  ·go_wp2_with (at_builtin;refine zn ?_)
   unfold zj
   have zK:=hO.alloc (.cells #[.int .u8 ((N:Int)/16777216%256)] 5);have zd:=hb.alloc hb.size (.cells #[.int .u8 ((N:Int)/16777216%256)] 5)
   refine zw rfl (.tmp 42) (.tmp 49) rfl w.heap.size _ _ rfl zK _ 1 _ [zP N 24] rfl rfl (Src.new _ _ _ _ rfl _ (by simp only[List.map_cons,List.map_nil];rw[zE N 24 16777216 rfl])) (by have:=rM.out;simp only[List.length_singleton];omega) zd.size fun v' w5 zV hg5 hat5=>?_
   have yv:=zu zd hg5 (fun q hq=>(hO.lt q hq).1);rw[List.append_assoc,show [zP N 24]=[(yM N).getD 4 0] from rfl,HT.out (by omega)]at zV;obtain⟨A5,c5,rfl,_⟩:=zV.form
   have tL:Hid ((zL l z++(yM N).take (4+1)).length=m+5):=by
    have:=HM.out;rw[Hid,List.length_append,zU,List.length_take,yu]
    omega
   rw[tL.out]at zV⊢;clear hO hb zK zd hg5 hat5;go_wp2_with fail
   go_roundw
   case rel=>exact⟨5,m+5,A5,c5,rfl,by go_num,by omega,rfl,zV,yv⟩
   case measure=>have:=sX.out;simp only[wM];omega
  ·go_wp2_with (at_builtin;refine zn ?_)
   unfold zj
   have zK:=hO.alloc (.cells #[.int .u8 ((N:Int)/65536%256)] 5);have zd:=hb.alloc hb.size (.cells #[.int .u8 ((N:Int)/65536%256)] 5)
   refine zw rfl (.tmp 42) (.tmp 49) rfl w.heap.size _ _ rfl zK _ 1 _ [zP N 16] rfl rfl (Src.new _ _ _ _ rfl _ (by simp only[List.map_cons,List.map_nil];rw[zE N 16 65536 rfl])) (by have:=rM.out;simp only[List.length_singleton];omega) zd.size fun v' w5 zV hg5 hat5=>?_
   have yv:=zu zd hg5 (fun q hq=>(hO.lt q hq).1);rw[List.append_assoc,show [zP N 16]=[(yM N).getD 5 0] from rfl,HT.out (by omega)]at zV;obtain⟨A5,c5,rfl,_⟩:=zV.form
   have tL:Hid ((zL l z++(yM N).take (5+1)).length=m+6):=by
    have:=HM.out;rw[Hid,List.length_append,zU,List.length_take,yu]
    omega
   rw[tL.out]at zV⊢;clear hO hb zK zd hg5 hat5;go_wp2_with fail
   go_roundw
   case rel=>exact⟨6,m+6,A5,c5,rfl,by go_num,by omega,rfl,zV,yv⟩
   case measure=>have:=sX.out;simp only[wM];omega
  ·go_wp2_with (at_builtin;refine zn ?_)
   unfold zj
   have zK:=hO.alloc (.cells #[.int .u8 ((N:Int)/256%256)] 5);have zd:=hb.alloc hb.size (.cells #[.int .u8 ((N:Int)/256%256)] 5)
   refine zw rfl (.tmp 42) (.tmp 49) rfl w.heap.size _ _ rfl zK _ 1 _ [zP N 8] rfl rfl (Src.new _ _ _ _ rfl _ (by simp only[List.map_cons,List.map_nil];rw[zE N 8 256 rfl])) (by have:=rM.out;simp only[List.length_singleton];omega) zd.size fun v' w5 zV hg5 hat5=>?_
   have yv:=zu zd hg5 (fun q hq=>(hO.lt q hq).1);rw[List.append_assoc,show [zP N 8]=[(yM N).getD 6 0] from rfl,HT.out (by omega)]at zV;obtain⟨A5,c5,rfl,_⟩:=zV.form
   have tL:Hid ((zL l z++(yM N).take (6+1)).length=m+7):=by
    have:=HM.out;rw[Hid,List.length_append,zU,List.length_take,yu]
    omega
   rw[tL.out]at zV⊢;clear hO hb zK zd hg5 hat5;go_wp2_with fail
   go_roundw
   case rel=>exact⟨7,m+7,A5,c5,rfl,by go_num,by omega,rfl,zV,yv⟩
   case measure=>have:=sX.out;simp only[wM];omega
  ·go_wp2_with (at_builtin;refine zn ?_)
   unfold zj
   have zK:=hO.alloc (.cells #[.int .u8 ((N:Int)%256)] 5);have zd:=hb.alloc hb.size (.cells #[.int .u8 ((N:Int)%256)] 5)
   refine zw rfl (.tmp 42) (.tmp 49) rfl w.heap.size _ _ rfl zK _ 1 _ [zP N 0] rfl rfl (Src.new _ _ _ _ rfl _ (by simp only[List.map_cons,List.map_nil];rw[zE N 0 1 rfl];simp)) (by have:=rM.out;simp only[List.length_singleton];omega) zd.size fun v' w5 zV hg5 hat5=>?_
   have yv:=zu zd hg5 (fun q hq=>(hO.lt q hq).1);rw[List.append_assoc,show [zP N 0]=[(yM N).getD 7 0] from rfl,HT.out (by omega)]at zV;obtain⟨A5,c5,rfl,_⟩:=zV.form
   have tL:Hid ((zL l z++(yM N).take (7+1)).length=m+8):=by
    have:=HM.out;rw[Hid,List.length_append,zU,List.length_take,yu]
    omega
   rw[tL.out]at zV⊢;clear hO hb zK zd hg5 hat5;go_wp2_with fail
   go_roundw
   case rel=>exact⟨8,m+8,A5,c5,rfl,by go_num,by omega,rfl,zV,yv⟩
   case measure=>have:=sX.out;simp only[wM];omega
  have hp:zL l z++(yM N).take 8=xe l:=by
   rw[zL,cf.out,← ce.out];rfl
  rw[hp]at hO;go_wp2_with fail
  go_ret
  exact⟨_,rfl,by have h:=hO.form;obtain⟨_,_,e,_⟩:=h;exact⟨hO,hb⟩⟩
 have hz:Hid (z+1≤uG l.length):=iS HZ.out (by have:=HR.out;have:=HM.out;omega);have zK:=hO.alloc (.cells #[.int .u8 0] 5);have zd:=hb.alloc hb.size (.cells #[.int .u8 0] 5);have R0:¬ ((r:Int)=56):=by omega
 go_wp2_with (at_builtin;refine zn ?_)
 refine zw rfl (.tmp 21) (.tmp 22) rfl w.heap.size _ _ rfl zK _ 1 _ [0] rfl rfl (Src.new _ _ _ _ rfl _ rfl) (by rw[zU];have:=HN.out.2;have:=HB.out;have:=hz.out;simp only[List.length_singleton];omega) zd.size fun v' w5 zV hg5 hat5=>?_
 have yv:=zu zd hg5 (fun q hq=>(hO.lt q hq).1);rw[rJ]at zV;obtain⟨A5,c5,rfl,_⟩:=zV.form;rw[zU]at zV⊢;clear hO hb zK zd hg5 hat5;go_wp2_with fail
 go_roundw
 case rel=>exact⟨z+1,_,A5,c5,rfl,rfl,hz,zV,yv⟩
 case measure=>have:=HM.out;have:=HB.out;have:=hz.out;simp only[wM];omega
end Go.Proofs.YtnfoilblmhbobaaGreatDoor
