/- squeezed. Reading data items: plain mathemat -/
import Derived.Test.YtliomcphdnppnaaGreatDoorK11
import Derived.ChangeKeysEq
set_option linter.unusedVariables false
set_option linter.unusedSimpArgs false
set_option maxRecDepth 100000
namespace Go.Proofs.YtliomcphdnppnaaGreatDoor
open Go.RowKit
theorem jbz{P:Prop}(h:P:=by
 refine⟨by have:=h.le;rw[List.length_take];omega,h.max,fun vl=>?_⟩
 obtain⟨b,off,e,hc⟩:=h.row (by intro h0;rw[List.map_eq_nil_iff]at h0;subst h0;simp at vl)
 refine⟨b,off,e,fun j v hj=>hc j v ?_⟩
 rw[List.map_take,List.getElem?_take]at hj
 split at hj
 ·exact hj
 cases hj):P:=h
theorem jbB{P:Prop}(h:P:=by
 simp only[List.cons_append,List.nil_append,yr,h,List.length_cons,List.length_nil]
 simp only[show 249%32=25 by decide,show 2 ^ (25-24)=2 by decide,List.take_succ_cons,List.take_zero,h2]
 exact jeQ):P:=h
theorem jbG{P:Prop}(h:P:=by
 generalize f.log2=t at a1 a2 a3
 have b:=mL a1 a2 (by omega);obtain⟨full,tO⟩:∃ full,f*2 ^ (52-t)=full:=⟨_,rfl⟩
 rw[tO]at b⊢
 exact⟨⟨vV,ru,by omega,lC,.inr (.inr (.inr ⟨h2,t,full,a3,a1,a2,tO.symm,b.1,rfl⟩))⟩,by omega⟩):P:=h
theorem jbO{P:Prop}(h:P:=by exact jeQ):P:=h
theorem jb9{P:Prop}(h:P:=by
 refine⟨H.le,H.pos,by rw[s3,g1,hu],by rw[g5],by omega,fun lv _=>g2 lv, ?_⟩
 cases y
 rw[Nums]
 simp only[Itm.items]at g4
 subst g4
 exact⟨g3,by rw[NumsL];trivial⟩):P:=h
theorem jcq{P:Prop}(h:P:=by
 rw[xV,if_neg (by decide),if_neg (by decide),hw,if_neg];rw[fj,hl]
 simp):P:=h
theorem jcB{P:Prop}(h:P:=by
 have h2:¬ ((m:Int)=8):=by omega
 have h3:¬ ((m:Int)=7):=by omega
 simp[Itm.kind,Itm.bytes,Itm.items,Itm.n,zP,h1,h2,h3]):P:=h
theorem jcE{P:Prop}(h:P:=by
 simp at h
 repeat' split at h
 all_goals omega):P:=h
theorem jcF{P:Prop}(h:P:=by
 have h0:f=0:=by omega
 subst h0;rw[if_pos h1]
 exact⟨⟨vV,ru,by omega,lC,.inl ⟨h1,rfl,by omega⟩⟩,by omega⟩):P:=h
theorem jcM{P:Prop}(h:P:=by exact sm (s:=s) (e:=0) (m:=0) (by rw[h3,Nat.zero_mul,Nat.add_zero]) a1 (by omega) (by omega) (fun _=>rfl)):P:=h
theorem jcO{P:Prop}(h:P:=by
 rw[if_neg h2]
 exact⟨⟨vV,ru,by omega,lC,.inr (.inr (.inl ⟨by omega,by omega,rfl⟩))⟩,by omega⟩):P:=h
theorem jdd{P:Prop}(h:P:=by
 rw[yC,if_neg (by simp[yZ,Itm.kind])]
 simp[vq,Itm.kind,Itm.bytes,Itm.items,Itm.n,wn]
 omega):P:=h
theorem jdi{P:Prop}(h:P:=by
 rw[if_pos h0]
 exact⟨⟨vV,ru,by omega,lC,.inr (.inl ⟨h2,h0,rfl⟩)⟩,by omega⟩):P:=h
theorem jdk{P:Prop}(h:P:=by exact sm (s:=s) (e:=2047) (m:=0) (by rw[h3]) a1 (by omega) (by omega) (fun _=>rfl)):P:=h
theorem jdq{P:Prop}(h:P:=by
 simp only[List.length_append]
 congr 1
 omega):P:=h
theorem jdG{P:Prop}(h:P:=by
 cases h:yW f 5 10 with
 | none=>rfl
 | some v=>rw[h]at h2;simp at h2):P:=h
theorem jeQ{P:Prop}(h:P:=by rw[if_neg (by omega),if_neg (by omega),if_neg (by omega),if_neg (by omega)]):P:=h
def beN (l:List UInt8):Nat:=l.foldl (fun x c=>x*256+c.toNat) 0
theorem Mv (l:List UInt8) (c:UInt8):beN (l++[c])=beN l*256+c.toNat:=by simp[beN]
theorem nr (l:List UInt8):beN l<256 ^ l.length:=by
 suffices h:∀ (l:List UInt8) (a:Nat),l.foldl (fun x c=>x*256+c.toNat) a<(a+1)*256 ^ l.length by
  have:=h l 0;rw[Nat.zero_add,Nat.one_mul]at this
  exact this
 intro l
 induction l with
 | nil=>intro a;simp
 | cons c l ih =>
 intro a
 have hc:=c.toNat_lt;rw[List.foldl_cons,List.length_cons,Nat.pow_succ]
 refine Nat.lt_of_lt_of_le (ih _) ?_
 have:(a*256+c.toNat+1)*256 ^ l.length≤((a+1)*256)*256 ^ l.length:=Nat.mul_le_mul_right _ (by omega);rw[Nat.mul_assoc,Nat.mul_comm 256]at this
 exact this
theorem ui {c:UInt8}{n:Nat}(h:n%256=c.toNat):u8 n=c:=by
 apply UInt8.toNat_inj.1
 rw[xg,h]
theorem J3 {l:List UInt8}(h:l.length=1):∃ a,l=[a]:=by
 match l,h with
 | [a],_=>exact⟨a,rfl⟩
theorem J4 {l:List UInt8}(h:l.length=2):∃ a b,l=[a,b]:=by
 match l,h with
 | [a,b],_=>exact⟨a,b,rfl⟩
theorem Ob {l:List UInt8}(h:l.length=4):∃ a b c d,l=[a,b,c,d]:=by
 match l,h with
 | [a,b,c,d],_=>exact⟨a,b,c,d,rfl⟩
theorem Be {l:List UInt8}(h:l.length=8):∃ a b c d e f g i,l=[a,b,c,d,e,f,g,i]:=by
 match l,h with
 | [a,b,c,d,e,f,g,i],_=>exact⟨a,b,c,d,e,f,g,i,rfl⟩
theorem LF (a:UInt8):beN [a]=a.toNat:=by simp[beN]
theorem LG (a b:UInt8):beN [a,b]=a.toNat*256+b.toNat:=by simp[beN]
theorem LH (a b c d:UInt8):beN [a,b,c,d]=a.toNat*16777216+b.toNat*65536+c.toNat*256+d.toNat:=by simp[beN];omega
theorem Br (a b c d e f g i:UInt8):beN [a,b,c,d,e,f,g,i]=a.toNat*72057594037927936+b.toNat*281474976710656+c.toNat*1099511627776+d.toNat*4294967296+e.toNat*16777216+f.toNat*65536+g.toNat*256+i.toNat:=by simp[beN];omega
theorem TU {l:List UInt8}(h:l.length=8):be8 (beN l) 8=l:=by
 obtain⟨a,b,c,d,e,f,g,i,rfl⟩:=Be h;have ha:=a.toNat_lt;have hb:=b.toNat_lt;have hc:=c.toNat_lt;have hd:=d.toNat_lt;have he:=e.toNat_lt;have hf:=f.toNat_lt;have hg:=g.toNat_lt;have hi:=i.toNat_lt
 rw[Br]
 simp only[be8,Nat.reducePow,Nat.reduceMul,Nat.reduceSub,List.nil_append,List.cons_append]
 rw[ui (c:=a) (by omega),ui (c:=b) (by omega),ui (c:=c) (by omega),ui (c:=d) (by omega),ui (c:=e) (by omega),ui (c:=f) (by omega),ui (c:=g) (by omega),ui (c:=i) (by omega)]
def yr:List UInt8→Except Nat (Nat×Nat×Nat)
 | []=>.error 2
 | f::t =>
 if 27<f.toNat%32 then .error 3
 else if f.toNat%32<24 then .ok (f.toNat,f.toNat%32,1)
 else if t.length<2 ^ (f.toNat%32-24) then .error 2
 else if f.toNat/32<7∧(yv 0 (beN (t.take (2 ^ (f.toNat%32-24))))).length≠1+2 ^ (f.toNat%32-24) then .error 4
 else .ok (f.toNat,beN (t.take (2 ^ (f.toNat%32-24))),1+2 ^ (f.toNat%32-24))
def vI (v:Nat):Nat :=
 if v/1024%32=31 then v/32768*9223372036854775808+9218868437227405312+v%1024*4398046511104
 else if v/1024%32=0 then(if v%1024=0 then v/32768*9223372036854775808 else v/32768*9223372036854775808+(999+(v%1024).log2)*4503599627370496+(v%1024*2 ^ (52-(v%1024).log2)-4503599627370496))
 else v/32768*9223372036854775808+(v/1024%32+1008)*4503599627370496+v%1024*4398046511104
def uK (v:Nat):Nat :=
 if v/8388608%256=255 then v/2147483648*9223372036854775808+9218868437227405312+v%8388608*536870912
 else if v/8388608%256=0 then(if v%8388608=0 then v/2147483648*9223372036854775808 else v/2147483648*9223372036854775808+(874+(v%8388608).log2)*4503599627370496+(v%8388608*2 ^ (52-(v%8388608).log2)-4503599627370496))
 else v/2147483648*9223372036854775808+(v/8388608%256+896)*4503599627370496+v%8388608*536870912
def uj (low n:Nat):Nat:=if low=25 then vI n else if low=26 then uK n else n
def xV (low n:Nat):Except Nat Itm :=
 if low<24 then .ok (.mk 7 n [] [])
 else if low=24 then(if n<32 then .error 4 else .ok (.mk 7 n [] []))
 else if(isNaN (uj low n)&&uj low n != yg)||(yx (uj low n)).length != 1+2 ^ (low-24) then .error 4
 else .ok (.mk 8 (uj low n) [] [])
inductive PL where
 | err (e:Nat)
 | ok (l:List Itm) (k c:Nat)
inductive PR where
 | err (e:Nat)
 | ok (x:Itm) (k c:Nat)
def qZ (p:List UInt8→Nat→PR):Nat→List UInt8→Nat→PL
 | 0,_,c=>.ok [] 0 c
 | n+1,b,c=>match p b c with
  | .err e=>.err e
  | .ok x k c'=>match qZ p n (b.drop k) c' with
   | .err e=>.err e
   | .ok l k' c''=>.ok (x::l) (k+k') c''
def n9 (last:Option (List UInt8)) (key:List UInt8):Option Nat :=
 match last with
 | none=>none
 | some l=>if Lib.compareBytes key l=0 then some 7 else if Lib.compareBytes key l<0 then some 6 else none
def uk (p:List UInt8→Nat→PR):Nat→List UInt8→Nat→Option (List UInt8)→PL
 | 0,_,c,_=>.ok [] 0 c
 | n+1,b,c,last=>match p b c with
  | .err e=>.err e
  | .ok x k c'=>match n9 last (b.take k) with
   | some e=>.err e
   | none=>match p (b.drop k) c' with
    | .err e=>.err e
    | .ok y k' c''=>match uk p n (b.drop (k+k')) c'' (some (b.take k)) with
     | .err e=>.err e
     | .ok l k'' c3=>.ok (x::y::l) (k+k'+k'') c3
def zQ:Nat→List UInt8→Nat→PR
 | d,b,c =>
 if 256≤c then .err 8
 else match yr b with
  | .error e=>.err e
  | .ok (f,n,k) =>
  if f/32≤1 then .ok (.mk (f/32:Nat) n [] []) k (c+1)
  else if f/32≤3 then
   (if b.length<k+n then .err 2
   else if f/32=3∧Lib.validD ((b.drop k).take n)=false then .err 5
   else .ok (.mk (f/32:Nat) 0 ((b.drop k).take n) []) (k+n) (c+1))
  else if f/32=7 then
   (match xV (f%32) n with
   | .error e=>.err e
   | .ok x=>.ok x k (c+1))
  else match d with
   | 0=>.err 8
   | d+1 =>
   if f/32=6 then(match zQ d (b.drop k) (c+1) with
    | .err e=>.err e
    | .ok x k' c'=>.ok (.mk 6 n [] [x]) (k+k') c')
   else if f/32=5 then(match uk (zQ d) n (b.drop k) (c+1) none with
    | .err e=>.err e
    | .ok l k' c'=>.ok (.mk 5 0 [] l) (k+k') c')
   else(match qZ (zQ d) n (b.drop k) (c+1) with
    | .err e=>.err e
    | .ok l k' c'=>.ok (.mk 4 0 [] l) (k+k') c')
theorem Us {m low:Nat}(vd:24≤low∧low≤27) {t:List UInt8}(ht:t.length=2 ^ (low-24)) (h:(yv 0 (beN t)).length=1+2 ^ (low-24)):yv m (beN t)=u8 (m*32+low)::t:=by
 rw[xF]at h
 rcases(by omega:low=24∨low=25∨low=26∨low=27) with rfl | rfl | rfl | rfl
 ·obtain⟨a,rfl⟩:=J3 (by simpa using ht);have:=a.toNat_lt;rw[LF]at h⊢;rw[py]
  have h1:24≤a.toNat:=by
   exact jcE
  simp only[sH,pR,show ¬ a.toNat<24 by omega,show a.toNat<256 by omega,if_true,if_false]
  rw[ui (n:=a.toNat) (c:=a) (by omega)]
 ·obtain⟨a,b,rfl⟩:=J4 (by simpa using ht);have ha:=a.toNat_lt;have hb:=b.toNat_lt
  rw[LG]at h⊢;obtain⟨q,hq⟩:∃ q,a.toNat*256+b.toNat=q:=⟨_,rfl⟩
  rw[hq]at h⊢
  have h1:256≤q:=by
   exact jcE
  rw[py]
  simp only[sH,pR,show ¬ q<24 by omega,show ¬ q<256 by omega,show q<65536 by omega,if_true,if_false]
  rw[ui (n:=q/256) (c:=a) (by omega),ui (n:=q) (c:=b) (by omega)]
 ·obtain⟨a,b,c,d,rfl⟩:=Ob (by simpa using ht);have ha:=a.toNat_lt;have hb:=b.toNat_lt;have hc:=c.toNat_lt;have hd:=d.toNat_lt
  rw[LH]at h⊢;obtain⟨q,hq⟩:∃ q,a.toNat*16777216+b.toNat*65536+c.toNat*256+d.toNat=q:=⟨_,rfl⟩
  rw[hq]at h⊢
  have h1:65536≤q:=by
   exact jcE
  rw[py]
  simp only[sH,pR,show ¬ q<24 by omega,show ¬ q<256 by omega,show ¬ q<65536 by omega,show q<4294967296 by omega,if_true,if_false]
  rw[ui (n:=q/16777216) (c:=a) (by omega),ui (n:=q/65536) (c:=b) (by omega),ui (n:=q/256) (c:=c) (by omega),ui (n:=q) (c:=d) (by omega)]
 have h1:4294967296≤beN t:=by
  exact jcE
 rw[py]
 simp only[sH,pR,show ¬ beN t<24 by omega,show ¬ beN t<256 by omega,show ¬ beN t<65536 by omega,show ¬ beN t<4294967296 by omega,if_false]
 rw[TU (by simpa using ht)]
structure HeadIs (b:List UInt8) (f n k:Nat):Prop where
 le:k≤b.length
 pos:0<k
 f_lt:f<256
 low:f%32≤27
 small:f%32<24→n=f%32∧k=1∧b.take k=[u8 f]
 wide:24≤f%32→k=1+2 ^ (f%32-24)∧∃ t,t.length=2 ^ (f%32-24)∧b.take k=u8 f::t∧n=beN t
 n_lt:n<18446744073709551616
 enc:f/32<7→yv (f/32) n=b.take k
theorem vY {b:List UInt8}{f n k:Nat}(h:yr b=.ok (f,n,k)):HeadIs b f n k:=by
 cases b with
 | nil=>cases h
 | cons g t =>
 have hg:=g.toNat_lt
 simp only[yr]at h
 split at h
 ·cases h
 rename_i q1
 split at h
 ·rename_i q2
  injection h with h
  simp only[Prod.mk.injEq]at h
  obtain⟨rfl,rfl,rfl⟩:=h;have hu:u8 g.toNat=g:=ui (by omega)
  refine⟨by simp,by omega,hg,by omega,fun _=>⟨rfl,rfl,by simp[hu]⟩,fun h=>by omega,by omega,fun h7=>?_⟩
  rw[py]
  simp only[sH,pR,q2,if_true]
  rw[show g.toNat/32*32+g.toNat%32=g.toNat by omega,hu]
  simp
 rename_i q2
 split at h
 ·cases h
 rename_i q3
 split at h
 ·cases h
 rename_i q4
 injection h with h
 simp only[Prod.mk.injEq]at h
 obtain⟨rfl,rfl,rfl⟩:=h;have hu:u8 g.toNat=g:=ui (by omega);obtain⟨low,vd⟩:∃ low,g.toNat%32=low:=⟨_,rfl⟩
 rw[vd]at q1 q2 q3 q4⊢
 have hz:2 ^ (low-24)≤8:=by
  rcases(by omega:low=24∨low=25∨low=26∨low=27) with rfl | rfl | rfl | rfl <;> decide
 have Mk:(t.take (2 ^ (low-24))).length=2 ^ (low-24):=by rw[List.length_take];omega
 have ht:(g::t).take (1+2 ^ (low-24))=g::t.take (2 ^ (low-24)):=by rw[Nat.add_comm,List.take_succ_cons]
 refine⟨by rw[List.length_cons];omega,by omega,hg,by omega,fun h=>by omega,fun _=>⟨by rw[vd],_,by rw[vd];exact Mk,by rw[ht,hu],rfl⟩, ?_,fun h7=>?_⟩
 ·refine Nat.lt_of_lt_of_le (nr _) ?_
  rw[Mk]
  exact Nat.pow_le_pow_right (n:=256) (by omega) hz
 rw[ht,Us (low:=low) (by omega) Mk (by
  rcases Nat.lt_or_ge 0 1 with _ | _
  ·exact Classical.byContradiction fun h=>q4 ⟨h7,h⟩
  exact absurd ‹1≤0› (by omega)),show g.toNat/32*32+low=g.toNat by omega,hu]
theorem qN {n s e m:Nat}(h:n=s*9223372036854775808+e*4503599627370496+m) (hs:s≤1) (he:e<2048) (hm:m<4503599627370496) :
  n/4503599627370496%2048=e∧n%4503599627370496=m∧n/9223372036854775808=s:=by subst h;refine⟨?_, ?_, ?_⟩ <;> omega
theorem XW {n v s x f:Nat}(h:Yn n v s x f):yW n 5 10=some v:=by
 obtain⟨a1,a2,a3,a4,h⟩:=h
 rcases h with ⟨h1,h2,h3⟩ | ⟨h1,h2,h3⟩ | ⟨h1,h2,h3⟩ | ⟨h1,t,full,h2,h3,h4,h5,h6,h7⟩
 ·obtain⟨k1,k2,k3⟩:=qN (n:=n) (s:=s) (e:=2047) (m:=0) (by rw[h3]) a1 (by omega) (by omega);rw[yW]
  simp only[Nat.reducePow,Nat.reduceSub,Nat.reduceAdd,Nat.reduceMul]
  rw[k1,k2,k3,if_pos rfl,if_pos rfl];congr 1;omega
 ·obtain⟨k1,k2,k3⟩:=qN (n:=n) (s:=s) (e:=0) (m:=0) (by rw[h3,Nat.zero_mul,Nat.add_zero]) a1 (by omega) (by omega);rw[yW]
  simp only[Nat.reducePow,Nat.reduceSub,Nat.reduceAdd,Nat.reduceMul]
  rw[k1,k2,k3,if_neg (by omega),if_pos rfl,if_pos rfl];congr 1;omega
 ·obtain⟨k1,k2,k3⟩:=qN (n:=n) (s:=s) (e:=x+1008) (m:=f*4398046511104) (by omega) a1 (by omega) (by omega);rw[yW]
  simp only[Nat.reducePow,Nat.reduceSub,Nat.reduceAdd,Nat.reduceMul]
  rw[k1,k2,k3];exact jcJ
 have e2:2 ^ (t+1)*2 ^ (52-t)=9007199254740992:=by
  exact jbC
 have b2:=Nat.mul_lt_mul_of_pos_right h4 (Nat.two_pow_pos (52-t));rw[e2,← h5]at b2;obtain⟨k1,k2,k3⟩:=qN (n:=n) (s:=s) (e:=999+t) (m:=full-4503599627370496) h7 a1 (by omega) (by omega);rw[yW]
 simp only[Nat.reducePow,Nat.reduceSub,Nat.reduceAdd,Nat.reduceMul]
 rw[k1,k2,k3];rw[if_neg (by omega),if_neg (by omega),if_neg (by omega),if_neg (by omega),if_neg (by omega),show 43+(1023-(999+t)-15)=52-t by omega,show full-4503599627370496+4503599627370496=full by omega,h5,if_pos (Nat.mul_mod_left _ _),Nat.mul_div_cancel _ (Nat.two_pow_pos _)];congr 1;omega
theorem mL {f t:Nat}(h1:2 ^ t≤f) (h2:f<2 ^ (t+1)) (ht:t≤52):4503599627370496≤f*2 ^ (52-t)∧f*2 ^ (52-t)<9007199254740992:=by
 have e1:2 ^ t*2 ^ (52-t)=4503599627370496:=by
  exact jcz
 have e2:2 ^ (t+1)*2 ^ (52-t)=9007199254740992:=by
  exact jbC
 have b1:=Nat.mul_le_mul_right (2 ^ (52-t)) h1;have b2:=Nat.mul_lt_mul_of_pos_right h2 (Nat.two_pow_pos (52-t))
 omega
theorem kQ {v:Nat}(hv:v<65536) (hn:¬ (v/1024%32=31∧v%1024≠0)):Yn (vI v) v (v/32768) (v/1024%32) (v%1024)∧vI v<18446744073709551616:=by
 obtain⟨s,hs⟩:∃ s,v/32768=s:=⟨_,rfl⟩
 obtain⟨x,hx⟩:∃ x,v/1024%32=x:=⟨_,rfl⟩
 obtain⟨f,hf⟩:∃ f,v%1024=f:=⟨_,rfl⟩
 have vV:s≤1:=by omega
 have lC:x≤31:=by omega
 have ki:f<1024:=by omega
 have ru:v=s*32768+x*1024+f:=by omega
 rw[hx,hf]at hn;rw[vI,hs,hx,hf];clear hs hx hf
 by_cases h1:x=31
 ·exact jcF
 rw[if_neg h1]
 by_cases h2:x=0
 ·rw[if_pos h2]
  by_cases h0:f=0
  ·exact jdi
  rw[if_neg h0];obtain⟨a1,a2⟩:=jgk;have a3:f.log2<10:=(Nat.log2_lt h0).2 (by simpa using ki)
  exact jbG
 exact jcO
theorem kR {v:Nat}(hv:v<4294967296) (hn:¬ (v/8388608%256=255∧v%8388608≠0)):pP (uK v) v (v/2147483648) (v/8388608%256) (v%8388608)∧uK v<18446744073709551616:=by
 obtain⟨s,hs⟩:∃ s,v/2147483648=s:=⟨_,rfl⟩
 obtain⟨x,hx⟩:∃ x,v/8388608%256=x:=⟨_,rfl⟩
 obtain⟨f,hf⟩:∃ f,v%8388608=f:=⟨_,rfl⟩
 have vV:s≤1:=by omega
 have lC:x≤255:=by omega
 have ki:f<8388608:=by omega
 have ru:v=s*2147483648+x*8388608+f:=by omega
 rw[hx,hf]at hn;rw[uK,hs,hx,hf];clear hs hx hf
 by_cases h1:x=255
 ·exact jcF
 rw[if_neg h1]
 by_cases h2:x=0
 ·rw[if_pos h2]
  by_cases h0:f=0
  ·exact jdi
  rw[if_neg h0];obtain⟨a1,a2⟩:=jgk;have a3:f.log2<23:=(Nat.log2_lt h0).2 (by simpa using ki)
  exact jbG
 exact jcO
theorem Od {n s m:Nat}(h:n=s*9223372036854775808+2047*4503599627370496+m) (hs:s≤1) (hm:m<4503599627370496) (h0:m≠0):isNaN n=true:=by
 obtain⟨k1,k2,_⟩:=qN h hs (by omega) hm;rw[isNaN]
 simp only[Nat.reducePow,k1,k2]
 simp[h0]
theorem sm {n e m s:Nat}(h:n=s*9223372036854775808+e*4503599627370496+m) (hs:s≤1) (he:e≤2047) (hm:m<4503599627370496) (h0:e=2047→m=0):isNaN n=false:=by
 obtain⟨k1,k2,_⟩:=qN h hs (by omega) hm;rw[isNaN]
 simp only[Nat.reducePow,k1,k2]
 rcases Nat.lt_or_ge e 2047 with h' | h'
 ·have:(e==2047)=false:=by simp;omega
  rw[this];rfl
 rw[h0 (by omega)];simp
theorem jL {n v s x f:Nat}(h:Yn n v s x f):isNaN n=false:=by
 obtain⟨a1,a2,a3,a4,h⟩:=h
 rcases h with ⟨h1,h2,h3⟩ | ⟨h1,h2,h3⟩ | ⟨h1,h2,h3⟩ | ⟨h1,t,full,h2,h3,h4,h5,h6,h7⟩
 ·exact jdk
 ·exact jcM
 ·exact sm (s:=s) (e:=x+1008) (m:=f*4398046511104) (by omega) a1 (by omega) (by omega) (fun h=>by omega)
 have b:=mL h3 h4 (by omega);rw[← h5]at b
 exact sm (s:=s) (e:=999+t) (m:=full-4503599627370496) h7 a1 (by omega) (by omega) (fun h=>by omega)
theorem jM {n v s x f:Nat}(h:pP n v s x f):isNaN n=false:=by
 obtain⟨a1,a2,a3,a4,h⟩:=h
 rcases h with ⟨h1,h2,h3⟩ | ⟨h1,h2,h3⟩ | ⟨h1,h2,h3⟩ | ⟨h1,t,full,h2,h3,h4,h5,h6,h7⟩
 ·exact jdk
 ·exact jcM
 ·exact sm (s:=s) (e:=x+896) (m:=f*536870912) (by omega) a1 (by omega) (by omega) (fun h=>by omega)
 have b:=mL h3 h4 (by omega);rw[← h5]at b
 exact sm (s:=s) (e:=874+t) (m:=full-4503599627370496) h7 a1 (by omega) (by omega) (fun h=>by omega)
theorem eI {v:Nat}(hv:v<65536) (h:v/1024%32=31∧v%1024≠0):isNaN (vI v)=true∧(vI v=yg↔v=32256):=by
 obtain⟨h1,h2⟩:=h;have e:vI v=v/32768*9223372036854775808+2047*4503599627370496+v%1024*4398046511104:=by rw[vI,if_pos h1]
 refine⟨Od e (by omega) (by omega) (by omega), ?_⟩
 rw[e,yg]
 omega
theorem eJ {v:Nat}(hv:v<4294967296) (h:v/8388608%256=255∧v%8388608≠0):isNaN (uK v)=true:=by
 obtain⟨h1,h2⟩:=h;have e:uK v=v/2147483648*9223372036854775808+2047*4503599627370496+v%8388608*536870912:=by rw[uK,if_pos h1]
 exact Od e (by omega) (by omega) (by omega)
theorem uW {n:Nat}(h:isNaN n=true):yx n=[u8 249,u8 126,u8 0]:=by rw[yx,if_pos h]
theorem ly {n:Nat}(h:isNaN n=false):(yx n).length=(if(yW n 5 10).isSome then 3 else if(yW n 8 23).isSome then 5 else 9):=by
 rw[yx,if_neg (by simp[h])]
 cases yW n 5 10 with
 | some v=>rfl
 | none=>cases yW n 8 23 with
  | some v=>rfl
  | none=>simp[vE]
theorem Un {low n f:Nat}(hl:25≤low∧low≤27) {t:List UInt8}(ht:t.length=2 ^ (low-24)) (hn:n=beN t) (hf:f=uj low n)
  (h1:¬ (isNaN f=true∧f≠yg)) (h2:(yx f).length=1+2 ^ (low-24)):yx f=u8 (7*32+low)::t∧f<18446744073709551616:=by
 rcases(by omega:low=25∨low=26∨low=27) with rfl | rfl | rfl
 ·obtain⟨a,b,rfl⟩:=J4 (by simpa using ht);have ha:=a.toNat_lt;have hb:=b.toNat_lt
  rw[LG]at hn;have hv:n<65536:=by omega
  rw[uj,if_pos rfl]at hf
  by_cases hx:n/1024%32=31∧n%1024≠0
  ·obtain⟨q1,q2⟩:=eI hv hx;rw[← hf]at q1 q2;have fk:f=yg:=Classical.byContradiction fun h=>h1 ⟨q1,h⟩
   have tF:=q2.1 fk;rw[uW q1]
   refine⟨?_,by rw[fk];decide⟩
   rw[ui (n:=126) (c:=a) (by omega),ui (n:=0) (c:=b) (by omega)]
  obtain⟨q1,q2⟩:=kQ hv hx;rw[← hf]at q1 q2
  refine⟨?_,q2⟩
  rw[yx,if_neg (by rw[jL q1];simp),XW q1]
  simp only
  rw[ui (n:=n/256) (c:=a) (by omega),ui (n:=n) (c:=b) (by omega)]
 ·obtain⟨a,b,c,d,rfl⟩:=Ob (by simpa using ht);have ha:=a.toNat_lt;have hb:=b.toNat_lt;have hc:=c.toNat_lt;have hd:=d.toNat_lt
  rw[LH]at hn;have hv:n<4294967296:=by omega
  rw[uj,if_neg (by omega),if_pos rfl]at hf
  by_cases hx:n/8388608%256=255∧n%8388608≠0
  ·have q1:=eJ hv hx;rw[← hf]at q1;rw[uW q1]at h2
   simp at h2
  obtain⟨q1,q2⟩:=kR hv hx;rw[← hf]at q1 q2
  refine⟨?_,q2⟩
  have q3:=jM q1;have q4:=m5 q1;rw[ly q3,q4]at h2
  have q5:yW f 5 10=none:=by
   exact jdG
  rw[yx,if_neg (by rw[q3];simp),q5,q4]
  simp only
  rw[ui (n:=n/16777216) (c:=a) (by omega),ui (n:=n/65536) (c:=b) (by omega),ui (n:=n/256) (c:=c) (by omega),ui (n:=n) (c:=d) (by omega)]
 have ht8:t.length=8:=by simpa using ht
 have hb:=nr t;rw[ht8,← hn]at hb;rw[uj,if_neg (by omega),if_neg (by omega)]at hf;subst hf
 refine⟨?_,by omega⟩
 cases q3:isNaN f with
 | true =>
  rw[uW q3]at h2
  simp at h2
 | false =>
 rw[ly q3]at h2
 have q5:yW f 5 10=none:=by
  exact jdG
 have q6:yW f 8 23=none:=by
  cases h:yW f 8 23 with
  | none=>rfl
  | some v=>rw[h,q5]at h2;simp at h2
 rw[yx,if_neg (by rw[q3];simp),q5,q6]
 simp only
 rw[hn,TU ht8]
theorem nf {low n:Nat}{x:Itm}(hl:low≤27) {t:List UInt8}(og:low<24→n=low∧t=[]) (hw:24≤low→t.length=2 ^ (low-24)∧n=beN t) (h:xV low n=.ok x) :
  zZ x=u8 (7*32+low)::t∧(∀ lv,Good x lv)∧x.n<18446744073709551616∧x.items=[]∧cnt x=1:=by
 rw[xV]at h
 have good7:∀ (n:Nat),(n<24∨32≤n∧n<256)→∀ lv,Good (.mk 7 n [] []) lv:=fun n hn lv=>by
  rw[Good]
  refine⟨?_, ?_,fun h=>by omega⟩
  ·rw[yC,if_pos (by simp[yZ,Itm.kind])]
   rcases hn with hn | ⟨h1,h2⟩ <;> simp[yy,Itm.kind,Itm.n,Itm.bytes,Itm.items, *]
  rw[GoodL];trivial
 split at h
 ·rename_i q1
  injection h with h
  subst h;obtain⟨rfl,rfl⟩:=og q1
  refine⟨?_,good7 _ (.inl q1),by simp only[Itm.n];omega,rfl,by simp[cnt,yf]⟩
  rw[yP,if_neg (by simp[Itm.kind]),if_neg (by simp[Itm.n];omega)];have e:yA (.mk 7 n [] [])=n:=by simp[yA,Itm.kind,Itm.n]
  rw[e,yv,if_pos q1]
  simp[Itm.bytes,Itm.items,Itm.kind,zP]
 split at h
 ·rename_i q1 q2
  subst q2
  split at h
  ·cases h
  rename_i q3
  injection h with h
  subst h;obtain⟨ht,hn⟩:=hw (by omega);obtain⟨a,rfl⟩:=J3 (by simpa using ht);have ha:=a.toNat_lt;rw[LF]at hn
  refine⟨?_,good7 _ (.inr (by omega)),by simp only[Itm.n];omega,rfl,by simp[cnt,yf]⟩
  rw[yP,if_neg (by simp[Itm.kind]),if_pos (by simp[Itm.n,Itm.kind];omega)]
  simp only[Itm.n]
  rw[ui (n:=n) (c:=a) (by omega)]
 rename_i q1 q2
 split at h
 ·cases h
 rename_i q3
 injection h with h
 subst h;obtain⟨ht,hn⟩:=hw (by omega)
 simp only[Bool.or_eq_true,Bool.and_eq_true,bne_iff_ne,ne_eq,not_or]at q3
 obtain⟨q3,q4⟩:=q3;have q4':=Classical.not_not.1 q4;obtain⟨e,he⟩:=Un (low:=low) (n:=n) (by omega) ht hn rfl q3 q4'
 refine⟨?_,fun lv=>?_,he,rfl,by simp[cnt,yf]⟩
 ·rw[yP,if_pos (by simp[Itm.kind])]
  exact e
 rw[Good]
 refine⟨?_,by rw[GoodL];trivial,fun h=>by omega⟩
 rw[yC,if_pos (by simp[yZ,Itm.kind])]
 simp[yy,Itm.kind,Itm.n,Itm.bytes,Itm.items]
 cases hN:isNaN (uj low n) with
 | false=>exact .inl rfl
 | true=>exact .inr (Classical.byContradiction fun h=>q3 ⟨hN,h⟩)
structure Read (d:Nat) (b:List UInt8) (c:Nat) (x:Itm) (k c':Nat):Prop where
 le:k≤b.length
 pos:0<k
 enc:zZ x=b.take k
 cnt:c'=c+cnt x
 lim:c'≤256
 good:∀ lv,lv+d=8→Good x lv
 nums:Nums x
structure ReadL (d:Nat) (b:List UInt8) (c:Nat) (l:List Itm) (n k c':Nat):Prop where
 le:k≤b.length
 enc:zP l=b.take k
 cnt:c'=c+yf l
 lim:c'≤256
 good:∀ lv,lv+d=8→GoodL l lv
 nums:NumsL l
 len:l.length=n
theorem vC {α:Type}(b:List α) (k k':Nat):b.take (k+k')=b.take k++(b.drop k).take k':=List.take_add
theorem Xz {d:Nat}{p:List UInt8→Nat→PR}(hp:∀ b c x k c',p b c=.ok x k c'→Read d b c x k c') :
  ∀ (n:Nat) (b:List UInt8) (c:Nat) (l:List Itm) (k c':Nat),c≤256→qZ p n b c=.ok l k c'→ReadL d b c l n k c'
 | 0,b,c,l,k,c',hc,h=>by
  rw[qZ]at h;injection h with h1 h2 h3
  subst h1 h2 h3
  exact⟨by omega,by simp[zP],by simp[yf],hc,fun lv _=>by rw[GoodL];trivial,by rw[NumsL];trivial,rfl⟩
 | n+1,b,c,l,k,c',hc,h=>by
  rw[qZ]at h
  split at h
  ·cases h
  rename_i x k1 c1 h1
  split at h
  ·cases h
  rename_i l1 k2 c2 h2
  injection h with e1 e2 e3
  subst e1 e2 e3;have r1:=hp _ _ _ _ _ h1;have r2:=Xz hp n _ _ _ _ _ r1.lim h2;have hl:=r2.le;rw[List.length_drop]at hl;have:=r1.le
  refine⟨by omega, ?_, ?_,r2.lim,fun lv hlv=>?_, ?_,by rw[List.length_cons,r2.len]⟩
  ·rw[zP,r1.enc,r2.enc,vC]
  ·rw[yf,r2.cnt,r1.cnt];omega
  ·rw[GoodL];exact⟨r1.good lv hlv,r2.good lv hlv⟩
  rw[NumsL];exact⟨r1.nums,r2.nums⟩
def Jc (last:Option (List UInt8)) (l:List Itm):Prop :=
 xB l=true∧∀ q,last=some q→∀ x t,l=x::t→Lib.compareBytes q (zZ x)<0
theorem fY:∀ a b:List UInt8,¬ Lib.compareBytes a b=0→¬ Lib.compareBytes a b<0→Lib.compareBytes b a<0
 | [],[],h,_=>absurd rfl h
 | [],_::_,_,h=>absurd (by show(-1:Int)<0;decide) h
 | _::_,[],_,_=>by show(-1:Int)<0;decide
 | x::a,y::b,h,k=>by
  rw[Lib.compareBytes]at h k⊢
  split at h
  ·rename_i h1
   rw[if_pos h1]at k
   exact absurd (by decide) k
  rename_i h1
  rw[if_neg h1]at k
  split at h
  ·rename_i h2
   rw[if_pos h2];decide
  rename_i h2
  rw[if_neg h2]at k;rw[if_neg h2,if_neg h1]
  exact fY a b h k
theorem RL {last:Option (List UInt8)}{key:List UInt8}(h:n9 last key=none):∀ q,last=some q→Lib.compareBytes q key<0:=by
 intro q hq
 subst hq;rw[n9]at h
 split at h
 ·cases h
 split at h
 ·cases h
 rename_i h1 h2
 exact fY _ _ h1 h2
theorem YP {d:Nat}{p:List UInt8→Nat→PR}(hp:∀ b c x k c',p b c=.ok x k c'→Read d b c x k c') :
  ∀ (n:Nat) (b:List UInt8) (c:Nat) (last:Option (List UInt8)) (l:List Itm) (k c':Nat),c≤256→uk p n b c last=.ok l k c'→ReadL d b c l (2*n) k c'∧Jc last l
 | 0,b,c,last,l,k,c',hc,h=>by
  rw[uk]at h;injection h with h1 h2 h3
  subst h1 h2 h3
  exact⟨⟨by omega,by simp[zP],by simp[yf],hc,fun lv _=>by rw[GoodL];trivial,by rw[NumsL];trivial,rfl⟩,rfl,fun _ _ _ _ h=>by cases h⟩
 | n+1,b,c,last,l,k,c',hc,h=>by
  rw[uk]at h
  split at h
  ·cases h
  rename_i x k1 c1 h1
  split at h
  ·cases h
  rename_i hk
  split at h
  ·cases h
  rename_i y k2 c2 h2
  split at h
  ·cases h
  rename_i l1 k3 c3 h3
  injection h with e1 e2 e3
  subst e1 e2 e3;have r1:=hp _ _ _ _ _ h1;have r2:=hp _ _ _ _ _ h2;obtain⟨r3,a1,a2⟩:=YP hp n _ _ _ _ _ _ r2.lim h3;have mi:=r2.le;have E7:=r3.le;rw[List.length_drop]at mi E7;have:=r1.le
  refine⟨⟨by omega, ?_, ?_,r3.lim,fun lv hlv=>?_, ?_,by rw[List.length_cons,List.length_cons,r3.len];omega⟩, ?_,fun q hq x' t ht=>?_⟩
  ·rw[zP,zP,r1.enc,r2.enc,r3.enc,← List.append_assoc,← vC,← vC]
  ·rw[yf,yf,r3.cnt,r2.cnt,r1.cnt];omega
  ·rw[GoodL,GoodL];exact⟨r1.good lv hlv,r2.good lv hlv,r3.good lv hlv⟩
  ·rw[NumsL,NumsL];exact⟨r1.nums,r2.nums,r3.nums⟩
  ·cases l1 with
   | nil=>rfl
   | cons z l2 =>
   rw[xB,a1];have:=a2 _ rfl z l2 rfl;rw[← r1.enc]at this
   simp[this]
  injection ht with ht _
  subst ht;rw[r1.enc]
  exact RL hk q hq
theorem bB {x:Itm}(h:∀ lv,yC x lv=true) (hi:x.items=[]) (h5:x.kind≠5):∀ lv,Good x lv:=fun lv =>
 Good.of (h lv) (by rw[hi,GoodL];trivial) (fun h=>absurd h h5)
theorem eA:∀ (d:Nat) (b:List UInt8) (c:Nat) (x:Itm) (k c':Nat),zQ d b c=.ok x k c'→Read d b c x k c':=by
 intro d
 induction d using Nat.strongRecOn with
 | _ d ih =>
 intro b c x k c' h
 rw[zQ.eq_def]at h
 simp only at h
 split at h
 ·cases h
 rename_i hc
 split at h
 ·cases h
 rename_i f n k1 hh
 have H:=vY hh;have vd:=H.low;have hf:=H.f_lt
 split at h
 ·rename_i h1
  injection h with e1 e2 e3
  subst e1 e2 e3;have hk:f/32=0∨f/32=1:=by omega
  refine⟨H.le,H.pos, ?_,by simp[cnt,yf],by omega,fun lv _=>bB (fun lv=>?_) rfl (by simp only[Itm.kind];omega) lv, ?_⟩
  ·rw[← H.enc (by omega),yP,if_neg (by simp only[Itm.kind];omega),if_neg (by simp only[Itm.kind];omega)]
   have e:yA (.mk (f/32:Nat) n [] [])=n:=by
    rw[yA,if_neg (by simp only[Itm.kind];omega),if_neg (by simp only[Itm.kind];omega),if_neg (by simp only[Itm.kind];omega)];rfl
   rw[e,show(Itm.mk (f/32:Nat) n [] []).kind.toNat=f/32 from rfl]
   simp[Itm.bytes,Itm.items,zP]
  ·rw[yC]
   rcases hk with hk | hk <;> simp[yZ,yy,Itm.kind,Itm.bytes,Itm.items,hk]
  rw[Nums];exact⟨H.n_lt,by rw[NumsL];trivial⟩
 rename_i h1
 split at h
 ·rename_i h3
  split at h
  ·cases h
  rename_i h4
  split at h
  ·cases h
  rename_i h5
  injection h with e1 e2 e3
  subst e1 e2 e3;have hk:f/32=2∨f/32=3:=by omega
  have yw:=H.le;have wn:((b.drop k1).take n).length=n:=by rw[List.length_take,List.length_drop];omega
  have hn:=H.n_lt;have tY:=H.pos
  refine⟨by omega,by omega, ?_,by simp[cnt,yf],by omega,fun lv _=>bB (fun lv=>?_) rfl (by simp only[Itm.kind];omega) lv, ?_⟩
  ·rw[vC,← H.enc (by omega),yP,if_neg (by simp only[Itm.kind];omega),if_neg (by simp only[Itm.kind];omega)]
   have e:yA (.mk (f/32:Nat) 0 ((b.drop k1).take n) [])=n:=by
    rw[yA,if_pos (by simp only[Itm.kind];omega)]
    exact wn
   rw[e,show(Itm.mk (f/32:Nat) 0 ((b.drop k1).take n) []).kind.toNat=f/32 from rfl]
   simp[Itm.bytes,Itm.items,zP]
  ·rw[yC]
   rcases hk with hk | hk
   ·simp[yZ,yy,Itm.kind,Itm.bytes,Itm.items,Itm.n,hk]
   have:Lib.validD ((b.drop k1).take n)=true:=by
    cases h:Lib.validD ((b.drop k1).take n) with
    | true=>rfl
    | false=>exact absurd ⟨hk,h⟩ h5
   simp[yZ,yy,Itm.kind,Itm.bytes,Itm.items,Itm.n,hk,this]
  rw[Nums];exact⟨by omega,by rw[NumsL];trivial⟩
 rename_i h3
 split at h
 ·rename_i h7
  split at h
  ·cases h
  rename_i y hs
  injection h with e1 e2 e3
  subst e1 e2 e3;have hu:u8 f=u8 (7*32+f%32):=by rw[show 7*32+f%32=f by omega]
  rcases Nat.lt_or_ge (f%32) 24 with hl | hl
  ·obtain⟨s1,s2,s3⟩:=H.small hl;obtain⟨g1,g2,g3,g4,g5⟩:=nf (low:=f%32) (t:=[]) (by omega) (fun _=>⟨s1,rfl⟩) (fun h=>by omega) hs
   exact jb9
  obtain⟨s1,t,s2,s3,s4⟩:=H.wide hl;obtain⟨g1,g2,g3,g4,g5⟩:=nf (low:=f%32) (t:=t) (by omega) (fun h=>by omega) (fun _=>⟨s2,s4⟩) hs
  exact jb9
 rename_i h7
 cases d with
 | zero=>cases h
 | succ d =>
 simp only at h
 have hd:d<d+1:=by omega
 have tY:=H.pos
 split at h
 ·rename_i h6
  split at h
  ·cases h
  rename_i y k2 c2 hy
  injection h with e1 e2 e3
  subst e1 e2 e3;have r:=ih d hd _ _ _ _ _ hy;have yw:=H.le;have hl:=r.le;rw[List.length_drop]at hl
  refine⟨by omega,by omega, ?_, ?_,r.lim,fun lv hlv=>Good.of ?_ ?_ (fun h=>by simp only[Itm.kind]at h;omega), ?_⟩
  ·rw[vC,← H.enc (by omega),yP,if_neg (by simp only[Itm.kind];omega),if_neg (by simp only[Itm.kind];omega),h6];have e:yA (.mk 6 n [] [y])=n:=by simp[yA,Itm.kind,Itm.n]
   rw[e,← r.enc]
   simp[Itm.kind,Itm.bytes,Itm.items,zP]
  ·rw[cnt,yf,yf,r.cnt];omega
  ·rw[yC,if_neg (by simp[yZ,Itm.kind])]
   simp[vq,Itm.kind,Itm.bytes,Itm.items,Itm.n]
   omega
  ·simp only[Itm.items]
   rw[GoodL,GoodL]
   exact⟨r.good _ (by omega),trivial⟩
  rw[Nums,NumsL,NumsL]
  exact⟨H.n_lt,r.nums,trivial⟩
 rename_i h6
 split at h
 ·rename_i h5
  split at h
  ·cases h
  rename_i l k2 c2 hy
  injection h with e1 e2 e3
  subst e1 e2 e3;obtain⟨r,asc,_⟩:=YP (ih d hd) _ _ _ _ _ _ _ (by omega) hy;have yw:=H.le;have hl:=r.le;have wn:=r.len;rw[List.length_drop]at hl
  refine⟨by omega,by omega, ?_, ?_,r.lim,fun lv hlv=>Good.of ?_ ?_ (fun _=>asc), ?_⟩
  ·rw[vC,← H.enc (by omega),yP,if_neg (by simp only[Itm.kind];omega),if_neg (by simp only[Itm.kind];omega),h5];have e:yA (.mk 5 0 [] l)=n:=by simp[yA,Itm.kind,Itm.n,Itm.items,wn]
   rw[e,← r.enc]
   simp[Itm.kind,Itm.bytes,Itm.items]
  ·rw[cnt,r.cnt];omega
  ·exact jdd
  ·exact r.good _ (by omega)
  rw[Nums]
  exact⟨by omega,r.nums⟩
 rename_i h5
 split at h
 ·cases h
 rename_i l k2 c2 hy
 injection h with e1 e2 e3
 subst e1 e2 e3;have h4:f/32=4:=by omega
 have r:=Xz (ih d hd) _ _ _ _ _ _ (by omega) hy;have yw:=H.le;have hl:=r.le;have wn:=r.len;rw[List.length_drop]at hl
 refine⟨by omega,by omega, ?_, ?_,r.lim,fun lv hlv=>Good.of ?_ ?_ (fun h=>by simp only[Itm.kind]at h;omega), ?_⟩
 ·rw[vC,← H.enc (by omega),yP,if_neg (by simp only[Itm.kind];omega),if_neg (by simp only[Itm.kind];omega),h4];have e:yA (.mk 4 0 [] l)=n:=by simp[yA,Itm.kind,Itm.n,Itm.items,wn]
  rw[e,← r.enc]
  simp[Itm.kind,Itm.bytes,Itm.items]
 ·rw[cnt,r.cnt];omega
 ·exact jdd
 ·exact r.good _ (by omega)
 rw[Nums]
 exact⟨by omega,r.nums⟩
def Jg (p:List UInt8→Nat→PR):Prop:=∀ b c x k c',p b c=.ok x k c'→c<c'∧c'≤256
theorem Jn (x:Itm):0<cnt x:=by rw[et];omega
theorem qW (d:Nat):Jg (zQ d):=fun b c x k c' h=>by
 have r:=eA d b c x k c' h;have:=Jn x
 exact⟨by rw[r.cnt];omega,r.lim⟩
def qY (b:List UInt8):PR:=zQ 8 (b.take 4096) 0
def uY (b:List UInt8):Except Nat Itm :=
 if 4096<b.length then .error 8 else match qY b with
 | .err e=>.error e
 | .ok x k _=>if k<b.length then .error 9 else .ok x
theorem Tc {f t:Nat}(h1:2 ^ t≤f) (h2:f<2 ^ (t+1)):f.log2=t:=by
 have h0:f≠0:=by have:=Nat.two_pow_pos t;omega
 have a:=(Nat.log2_lt h0).2 h2;have b:¬ f.log2<t:=fun h=>by have:=(Nat.log2_lt h0).1 h;omega
 omega
theorem TY {m t:Nat}(hm:m<4503599627370496) (ht:t≤52) (h:(m+4503599627370496)%2 ^ (52-t)=0) :
  (m+4503599627370496)/2 ^ (52-t)*2 ^ (52-t)=m+4503599627370496∧2 ^ t≤(m+4503599627370496)/2 ^ (52-t)∧(m+4503599627370496)/2 ^ (52-t)<2 ^ (t+1):=by
 have hp:=Nat.two_pow_pos (52-t);have e1:2 ^ t*2 ^ (52-t)=4503599627370496:=by rw[← Nat.pow_add,show t+(52-t)=52 by omega]
 have e2:2 ^ (t+1)*2 ^ (52-t)=9007199254740992:=by rw[← Nat.pow_add,show t+1+(52-t)=53 by omega]
 have e3:(m+4503599627370496)/2 ^ (52-t)*2 ^ (52-t)=m+4503599627370496:=Nat.div_mul_cancel (Nat.dvd_of_mod_eq_zero h)
 refine⟨e3, ?_, ?_⟩
 ·exact(Nat.le_div_iff_mul_le hp).2 (by omega)
 exact(Nat.div_lt_iff_lt_mul hp).2 (by omega)
theorem Zd {n v:Nat}(hn:n<18446744073709551616) (h:yW n 5 10=some v):vI v=n∧v<65536:=by
 obtain⟨s,hs⟩:∃ s,n/9223372036854775808=s:=⟨_,rfl⟩
 obtain⟨e,he⟩:∃ e,n/4503599627370496%2048=e:=⟨_,rfl⟩
 obtain⟨m,hm⟩:∃ m,n%4503599627370496=m:=⟨_,rfl⟩
 have vV:s≤1:=by omega
 have Ia:e<2048:=by omega
 have qu:m<4503599627370496:=by omega
 have sV:n=s*9223372036854775808+e*4503599627370496+m:=by omega
 rw[yW]at h
 simp only[Nat.reducePow,Nat.reduceSub,Nat.reduceAdd,Nat.reduceMul]at h
 rw[hs,he,hm]at h;clear hs he hm
 by_cases c1:e=2047
 ·rw[if_pos c1]at h
  by_cases c2:m=0
  ·rw[if_pos c2]at h;have hv:v=s*32768+31744:=by injection h with h;omega
   refine⟨?_,by omega⟩
   rw[vI,if_pos (by omega)]
   omega
  rw[if_neg c2]at h;cases h
 rw[if_neg c1]at h
 by_cases c2:e=0
 ·rw[if_pos c2]at h
  by_cases c3:m=0
  ·rw[if_pos c3]at h;have hv:v=s*32768:=by injection h with h;omega
   refine⟨?_,by omega⟩
   rw[vI,if_neg (by omega),if_pos (by omega),if_pos (by omega)]
   omega
  rw[if_neg c3]at h;cases h
 rw[if_neg c2]at h
 by_cases c3:1054≤e+15
 ·rw[if_pos c3]at h;cases h
 rw[if_neg c3]at h
 by_cases c4:1023<e+15
 ·rw[if_pos c4]at h
  by_cases c5:m%4398046511104=0
  ·rw[if_pos c5]at h;have hv:v=s*32768+(e-1008)*1024+m/4398046511104:=by injection h with h;omega
   refine⟨?_,by omega⟩
   rw[vI,if_neg (by omega),if_neg (by omega)]
   omega
  rw[if_neg c5]at h;cases h
 rw[if_neg c4]at h
 by_cases c5:52<43+(1023-e-15)
 ·rw[if_pos c5]at h;cases h
 rw[if_neg c5]at h;obtain⟨t,ht⟩:∃ t,e=999+t:=⟨e-999,by omega⟩
 subst ht;rw[show 43+(1023-(999+t)-15)=52-t by omega]at h
 by_cases c6:(m+4503599627370496)%2 ^ (52-t)=0
 ·rw[if_pos c6]at h;obtain⟨f1,f2,f3⟩:=TY qu (by omega) c6;have ht9:t≤9:=by omega
  have hp:2 ^ (t+1)≤1024:=Nat.pow_le_pow_right (by omega:0<2) (by omega:t+1≤10);obtain⟨f,hf⟩:∃ f,(m+4503599627370496)/2 ^ (52-t)=f:=⟨_,rfl⟩
  rw[hf]at f1 f2 f3 h;have ZS:=Nat.two_pow_pos t;have hv:v=s*32768+f:=by injection h with h;omega
  refine⟨?_,by omega⟩
  rw[vI,if_neg (by omega),if_pos (by omega),if_neg (by omega),show v%1024=f by omega,Tc f2 f3,f1]
  omega
 rw[if_neg c6]at h;cases h
theorem Ze {n v:Nat}(hn:n<18446744073709551616) (h:yW n 8 23=some v):uK v=n∧v<4294967296:=by
 obtain⟨s,hs⟩:∃ s,n/9223372036854775808=s:=⟨_,rfl⟩
 obtain⟨e,he⟩:∃ e,n/4503599627370496%2048=e:=⟨_,rfl⟩
 obtain⟨m,hm⟩:∃ m,n%4503599627370496=m:=⟨_,rfl⟩
 have vV:s≤1:=by omega
 have Ia:e<2048:=by omega
 have qu:m<4503599627370496:=by omega
 have sV:n=s*9223372036854775808+e*4503599627370496+m:=by omega
 rw[yW]at h
 simp only[Nat.reducePow,Nat.reduceSub,Nat.reduceAdd,Nat.reduceMul]at h
 rw[hs,he,hm]at h;clear hs he hm
 by_cases c1:e=2047
 ·rw[if_pos c1]at h
  by_cases c2:m=0
  ·rw[if_pos c2]at h;have hv:v=s*2147483648+2139095040:=by injection h with h;omega
   refine⟨?_,by omega⟩
   rw[uK,if_pos (by omega)]
   omega
  rw[if_neg c2]at h;cases h
 rw[if_neg c1]at h
 by_cases c2:e=0
 ·rw[if_pos c2]at h
  by_cases c3:m=0
  ·rw[if_pos c3]at h;have hv:v=s*2147483648:=by injection h with h;omega
   refine⟨?_,by omega⟩
   rw[uK,if_neg (by omega),if_pos (by omega),if_pos (by omega)]
   omega
  rw[if_neg c3]at h;cases h
 rw[if_neg c2]at h
 by_cases c3:1278≤e+127
 ·rw[if_pos c3]at h;cases h
 rw[if_neg c3]at h
 by_cases c4:1023<e+127
 ·rw[if_pos c4]at h
  by_cases c5:m%536870912=0
  ·rw[if_pos c5]at h;have hv:v=s*2147483648+(e-896)*8388608+m/536870912:=by injection h with h;omega
   refine⟨?_,by omega⟩
   rw[uK,if_neg (by omega),if_neg (by omega)]
   omega
  rw[if_neg c5]at h;cases h
 rw[if_neg c4]at h
 by_cases c5:52<30+(1023-e-127)
 ·rw[if_pos c5]at h;cases h
 rw[if_neg c5]at h;obtain⟨t,ht⟩:∃ t,e=874+t:=⟨e-874,by omega⟩
 subst ht;rw[show 30+(1023-(874+t)-127)=52-t by omega]at h
 by_cases c6:(m+4503599627370496)%2 ^ (52-t)=0
 ·rw[if_pos c6]at h;obtain⟨f1,f2,f3⟩:=TY qu (by omega) c6;have ht9:t≤22:=by omega
  have hp:2 ^ (t+1)≤8388608:=Nat.pow_le_pow_right (by omega:0<2) (by omega:t+1≤23);obtain⟨f,hf⟩:∃ f,(m+4503599627370496)/2 ^ (52-t)=f:=⟨_,rfl⟩
  rw[hf]at f1 f2 f3 h;have ZS:=Nat.two_pow_pos t;have hv:v=s*2147483648+f:=by injection h with h;omega
  refine⟨?_,by omega⟩
  rw[uK,if_neg (by omega),if_pos (by omega),if_neg (by omega),show v%8388608=f by omega,Tc f2 f3,f1]
  omega
 rw[if_neg c6]at h;cases h
theorem TV {n:Nat}(h:n<18446744073709551616):beN (be8 n 8)=n:=by
 simp only[be8,Nat.reducePow,Nat.reduceMul,Nat.reduceSub,List.nil_append,List.cons_append]
 rw[Br]
 simp only[xg]
 omega
theorem oK {m n:Nat}(hm:m<7) (hn:n<18446744073709551616) (r:List UInt8):∃ f,yr (yv m n++r)=.ok (f,n,(yv m n).length)∧f/32=m:=by
 unfold yv
 split
 ·refine⟨m*32+n, ?_,by omega⟩
  have h:(u8 (m*32+n)).toNat=m*32+n:=by rw[xg];omega
  simp only[List.cons_append,List.nil_append,yr,h,List.length_cons,List.length_nil]
  rw[if_neg (by omega),if_pos (by omega),show(m*32+n)%32=n by omega]
 split
 ·refine⟨m*32+24, ?_,by omega⟩
  have h:(u8 (m*32+24)).toNat=m*32+24:=by rw[xg];omega
  have h2:beN [u8 n]=n:=by rw[LF,xg];omega
  simp only[List.cons_append,List.nil_append,yr,h,List.length_cons,List.length_nil]
  rw[show(m*32+24)%32=24 by omega,if_neg (by omega),if_neg (by omega)]
  simp only[Nat.sub_self,Nat.pow_zero,List.take_succ_cons,List.take_zero,h2]
  rw[if_neg (by omega),if_neg];rw[xF];rw[if_neg (by omega),if_pos (by omega)]
  omega
 split
 ·refine⟨m*32+25, ?_,by omega⟩
  have h:(u8 (m*32+25)).toNat=m*32+25:=by rw[xg];omega
  have h2:beN [u8 (n/256),u8 n]=n:=by rw[LG,xg,xg];omega
  simp only[List.cons_append,List.nil_append,yr,h,List.length_cons,List.length_nil]
  rw[show(m*32+25)%32=25 by omega,if_neg (by omega),if_neg (by omega)]
  simp only[show 2 ^ (25-24)=2 by decide,List.take_succ_cons,List.take_zero,h2]
  rw[if_neg (by omega),if_neg];rw[xF];rw[if_neg (by omega),if_neg (by omega),if_pos (by omega)]
  omega
 split
 ·refine⟨m*32+26, ?_,by omega⟩
  have h:(u8 (m*32+26)).toNat=m*32+26:=by rw[xg];omega
  have h2:beN [u8 (n/16777216),u8 (n/65536),u8 (n/256),u8 n]=n:=by rw[LH];simp only[xg];omega
  simp only[List.cons_append,List.nil_append,yr,h,List.length_cons,List.length_nil]
  rw[show(m*32+26)%32=26 by omega,if_neg (by omega),if_neg (by omega)]
  simp only[show 2 ^ (26-24)=4 by decide,List.take_succ_cons,List.take_zero,h2]
  rw[if_neg (by omega),if_neg];rw[xF];rw[if_neg (by omega),if_neg (by omega),if_neg (by omega),if_pos (by omega)]
  omega
 refine⟨m*32+27, ?_,by omega⟩
 have h:(u8 (m*32+27)).toNat=m*32+27:=by rw[xg];omega
 have h8:(be8 n 8).length=8:=vE n 8
 simp only[List.cons_append,yr,h,List.length_cons]
 rw[show(m*32+27)%32=27 by omega,if_neg (by omega),if_neg (by omega)];rw[show 2 ^ (27-24)=8 by decide,List.take_left' h8,TV hn,if_neg (by rw[List.length_append];omega),if_neg,h8];rw[xF];rw[if_neg (by omega),if_neg (by omega),if_neg (by omega),if_neg (by omega)]
 omega
theorem Um {n:Nat}(hn:n<18446744073709551616) (hf:isNaN n=false∨n=yg) (r:List UInt8) :
  ∃ f v,yr (yx n++r)=.ok (f,v,(yx n).length)∧f/32=7∧xV (f%32) v=.ok (.mk 8 n [] []):=by
 by_cases hN:isNaN n=true
 ·have e:n=yg:=by rcases hf with h | h;rw[hN]at h;cases h;exact h
  subst e
  refine⟨249,32256, ?_,by decide, ?_⟩
  rotate_left
  ·have hw:uj (249%32) 32256=yg:=by decide
   rw[xV,if_neg (by decide),if_neg (by decide),hw,if_neg];rw[uW hN];decide
  rw[uW hN];have h:(u8 249).toNat=249:=by decide
  have h2:beN [u8 126,u8 0]=32256:=by decide
  exact jbB
 have fj:isNaN n=false:=by simpa using hN
 have hl:=ly fj
 have Mf:yx n=(match yW n 5 10 with
  | some v=>[u8 249,u8 (v/256),u8 v]
  | none=>match yW n 8 23 with
   | some v=>[u8 250,u8 (v/16777216),u8 (v/65536),u8 (v/256),u8 v]
   | none=>u8 251::be8 n 8):=by rw[yx,if_neg hN];rfl
 cases h5:yW n 5 10 with
 | some v =>
  obtain⟨b1,b2⟩:=Zd hn h5;rw[h5]at hl Mf
  simp only[Option.isSome_some,if_true]at hl
  simp only at Mf
  refine⟨249,v, ?_,by decide, ?_⟩
  ·rw[Mf];have h:(u8 249).toNat=249:=by decide
   have h2:beN [u8 (v/256),u8 v]=v:=by rw[LG,xg,xg];omega
   exact jbB
  have hw:uj (249%32) v=n:=by rw[uj,if_pos (by decide),b1]
  exact jcq
 | none =>
 rw[h5]at hl Mf
 cases h8:yW n 8 23 with
 | some v =>
  obtain⟨b1,b2⟩:=Ze hn h8;rw[h8]at hl Mf
  simp at hl
  simp only at Mf
  refine⟨250,v, ?_,by decide, ?_⟩
  ·rw[Mf];have h:(u8 250).toNat=250:=by decide
   have h2:beN [u8 (v/16777216),u8 (v/65536),u8 (v/256),u8 v]=v:=by rw[LH];simp only[xg];omega
   simp only[List.cons_append,List.nil_append,yr,h,List.length_cons,List.length_nil]
   simp only[show 250%32=26 by decide,show 2 ^ (26-24)=4 by decide,List.take_succ_cons,List.take_zero,h2]
   exact jbO
  have hw:uj (250%32) v=n:=by rw[uj,if_neg (by decide),if_pos (by decide),b1]
  exact jcq
 | none =>
 rw[h8]at hl Mf
 simp at hl
 simp only at Mf
 refine⟨251,n, ?_,by decide, ?_⟩
 ·rw[Mf];have h:(u8 251).toNat=251:=by decide
  have h9:(be8 n 8).length=8:=vE n 8
  simp only[List.cons_append,yr,h,List.length_cons]
  rw[show 251%32=27 by decide,show 2 ^ (27-24)=8 by decide,List.take_left' h9,TV hn,if_neg (by omega),if_neg (by omega),if_neg (by rw[List.length_append];omega),if_neg (by omega),h9]
 have hw:uj (251%32) n=n:=by rw[uj,if_neg (by decide),if_neg (by decide)]
 exact jcq
def RdI (d:Nat) (x:Itm):Prop:=∀ (r:List UInt8) (c:Nat),c+cnt x≤256→zQ d (zZ x++r) c=.ok x (zZ x).length (c+cnt x)
theorem RM {a b:List UInt8}(h:Lib.compareBytes a b<0):n9 (some a) b=none:=by
 have h0:¬ Lib.compareBytes b a=0:=fun h'=>by
  have e:=(mB b a).mp h';subst e;rw[sD]at h
  omega
 have h1:¬ Lib.compareBytes b a<0:=fun h'=>by
  have:=rZ _ _ _ h h';rw[sD]at this
  omega
 simp[n9,h0,h1]
theorem Xy (d:Nat):∀ (l:List Itm) (r:List UInt8) (c:Nat),(∀ x∈l,RdI d x)→c+yf l≤256→qZ (zQ d) l.length (zP l++r) c=.ok l (zP l).length (c+yf l)
 | [],r,c,_,_=>by simp[qZ,zP,yf]
 | x::l,r,c,h,hc=>by
  rw[yf]at hc;have hx:=h x (by simp) (zP l++r) c (by omega);have ih:=Xy d l r (c+cnt x) (fun y hy=>h y (by simp[hy])) (by omega);rw[List.length_cons,qZ,show zP (x::l)++r=zZ x++(zP l++r) by simp[zP],hx]
  simp only
  rw[List.drop_left,ih]
  simp only[zP,yf,List.length_append]
  congr 1
  omega
theorem YM (d:Nat):∀ (m:Nat) (l:List Itm) (r:List UInt8) (c:Nat) (last:Option (List UInt8)),l.length=2*m→(∀ x∈l,RdI d x)→xB l=true→
  (∀ a t,l=a::t→n9 last (zZ a)=none)→c+yf l≤256→uk (zQ d) m (zP l++r) c last=.ok l (zP l).length (c+yf l)
 | 0,l,r,c,last,hl,_,_,_,_=>by
  have:l=[]:=List.eq_nil_of_length_eq_zero (by omega);subst this;rw[uk]
  simp[zP,yf]
 | m+1,[],_,_,_,hl,_,_,_,_=>by simp at hl
 | m+1,[_],_,_,_,hl,_,_,_,_=>by simp at hl;omega
 | m+1,a::v::l,r,c,last,hl,hE,qg,ky,hc=>by
  rw[yf,yf]at hc;have ha:=hE a (by simp) (zZ v++(zP l++r)) c (by omega);have hv:=hE v (by simp) (zP l++r) (c+cnt a) (by omega)
  have BO:xB l=true:=by
   cases l with
   | nil=>simp[xB]
   | cons b t =>
   rw[xB]at qg
   simp only[Bool.and_eq_true]at qg
   exact qg.2
  have hk:∀ b t,l=b::t→n9 (some (zZ a)) (zZ b)=none:=by
   rintro b t rfl
   rw[xB]at qg
   simp only[Bool.and_eq_true,decide_eq_true_eq]at qg
   exact RM qg.1
  have ih:=YM d m l r (c+cnt a+cnt v) (some (zZ a)) (by simp at hl;omega) (fun x hx=>hE x (by simp[hx])) BO hk (by omega);have e0:zP (a::v::l)++r=zZ a++(zZ v++(zP l++r)):=by simp[zP]
  rw[e0,uk,ha]
  simp only
  rw[List.take_left,ky a _ rfl]
  simp only
  rw[List.drop_left,hv]
  simp only
  rw[← List.drop_drop,List.drop_left,List.drop_left,ih]
  simp only[zP,yf,List.length_append]
  congr 1
  ·omega
  omega
theorem Ya (d:Nat) {x:Itm}(hp:yZ x=true) (ho:yy x=true) (hn:Nums x) (hm:Modest x):RdI d x:=by
 obtain⟨k,n,bs,l⟩:=x;have un:n<18446744073709551616:=hn.n_;have hb:bs.length≤1099511627776:=hm.parts.1;have hl:l=[]:=(wm hp ho).1;subst hl;have hc:cnt (.mk k n bs [])=1:=by rw[cnt,yf]
 intro r c hcc
 rw[hc]at hcc⊢;rw[z8]at hp
 simp only[Itm.kind]at hp
 have hH:∀ (m:Nat),m≤1→zZ (.mk (m:Int) n [] [])=yv m n:=fun m qu=>by
  rw[yP]
  have h1:yA (.mk (m:Int) n [] [])=n:=by
   rcases(by omega:m=0∨m=1) with rfl | rfl <;> simp[yA,Itm.kind,Itm.bytes,Itm.items,Itm.n]
  exact jcB
 have CD:∀ (m:Nat),m≤1→zQ d (zZ (.mk (m:Int) n [] [])++r) c=.ok (.mk (m:Int) n [] []) (zZ (.mk (m:Int) n [] [])).length (c+1):=fun m qu=>by
  rw[hH m qu];obtain⟨f,hf,hd⟩:=oK (by omega:m<7) un r;rw[zQ.eq_def]
  simp only
  rw[if_neg (by omega),hf]
  simp only
  rw[if_pos (by omega),hd]
 have CJ:∀ (m:Nat),m=2∨m=3→n=0→(m=3→Lib.validD bs=true)→zQ d (zZ (.mk (m:Int) n bs [])++r) c=.ok (.mk (m:Int) n bs []) (zZ (.mk (m:Int) n bs [])).length (c+1):=fun m qu h0 hv=>by
  subst h0
  have he:zZ (.mk (m:Int) 0 bs [])=yv m bs.length++bs:=by
   rw[yP]
   have h1:yA (.mk (m:Int) 0 bs [])=bs.length:=by
    rcases qu with rfl | rfl <;> simp[yA,Itm.kind,Itm.bytes]
   exact jcB
  rw[he,List.append_assoc];obtain⟨f,hf,hd⟩:=oK (by omega:m<7) (by omega:bs.length<18446744073709551616) (bs++r);rw[zQ.eq_def]
  simp only
  rw[if_neg (by omega),hf]
  simp only
  rw[if_neg (by omega),if_pos (by omega),if_neg (by simp only[List.length_append];omega),List.drop_left,List.take_left,if_neg,hd,List.length_append];rintro⟨h3,h4⟩
  rw[hv (by omega)]at h4
  cases h4
 rcases hp with rfl | rfl | rfl | rfl | rfl | rfl
 ·have e:bs=[]:=by simpa [yy,Itm.kind,Itm.bytes,Itm.items] using ho
  subst e
  exact CD 0 (by omega)
 ·have e:bs=[]:=by simpa [yy,Itm.kind,Itm.bytes,Itm.items] using ho
  subst e
  exact CD 1 (by omega)
 ·have e:n=0:=by simpa [yy,Itm.kind,Itm.bytes,Itm.items,Itm.n] using ho
  exact CJ 2 (.inl rfl) e (fun h=>by omega)
 ·have e:n=0∧Lib.validD bs=true:=by simpa [yy,Itm.kind,Itm.bytes,Itm.items,Itm.n] using ho
  exact CJ 3 (.inr rfl) e.1 (fun _=>e.2)
 ·have e:bs=[]∧(n<24∨32≤n∧n<256):=by
   have h1:=ho
   simp[yy,Itm.kind,Itm.bytes,Itm.items,Itm.n]at h1
   exact⟨h1.1,h1.2.imp of_decide_eq_true fun h=>⟨of_decide_eq_true h.1,of_decide_eq_true h.2⟩⟩
  obtain⟨rfl,h⟩:=e;rw[yP]
  simp only[Itm.kind,Itm.n,Itm.bytes,Itm.items]
  rw[if_neg (by omega)]
  by_cases og:n<24
  ·rw[if_neg (by omega)]
   have e:yv (Int.toNat 7) (yA (.mk 7 n [] []))=[u8 (224+n)]:=by
    have:yA (.mk 7 n [] [])=n:=by simp[yA,Itm.kind,Itm.n]
    rw[this];show yv 7 n=_
    rw[yv,if_pos og]
   rw[e];have h1:(u8 (224+n)).toNat=224+n:=by rw[xg];omega
   have hh:yr ([u8 (224+n)]++r)=.ok (224+n,n,1):=by
    simp only[List.cons_append,List.nil_append,yr,h1]
    rw[if_neg (by omega),if_pos (by omega),show(224+n)%32=n by omega]
   simp only[zP,List.append_nil]
   rw[zQ.eq_def]
   simp only
   rw[if_neg (by omega),hh]
   simp only
   rw[if_neg (by omega),if_neg (by omega),if_pos (by omega),show(224+n)%32=n by omega,xV,if_pos og];rfl
  rw[if_pos ⟨by trivial,by omega⟩];have h1:(u8 248).toNat=248:=by decide
  have h2:beN [u8 n]=n:=by rw[LF,xg];omega
  have hh:yr ([u8 248,u8 n]++r)=.ok (248,n,2):=by
   simp only[List.cons_append,List.nil_append,yr,h1,List.length_cons]
   simp only[show 248%32=24 by decide,Nat.sub_self,Nat.pow_zero,List.take_succ_cons,List.take_zero,h2]
   exact jbO
  rw[zQ.eq_def]
  simp only
  rw[if_neg (by omega),hh]
  simp only
  rw[if_neg (by decide),if_neg (by decide),if_pos (by decide),show 248%32=24 by decide,xV,if_neg (by omega),if_pos rfl,if_neg (by omega)];rfl
 have e:bs=[]∧(isNaN n=false∨n=yg):=by simpa [yy,Itm.kind,Itm.bytes,Itm.items,Itm.n] using ho
 obtain⟨rfl,h⟩:=e;rw[yP,if_pos (by rfl)]
 simp only[Itm.n]
 obtain⟨f,v,h1,h2,h3⟩:=Um un h r;rw[zQ.eq_def]
 simp only
 rw[if_neg (by omega),h1]
 simp only
 rw[if_neg (by omega),if_neg (by omega),if_pos h2,h3]
theorem Kh:∀ (d:Nat) (x:Itm) (lv:Nat),lv+d=8→Good x lv→Nums x→Modest x→RdI d x:=by
 intro d
 induction d with
 | zero =>
  intro x lv hd hg hn hm
  rcases yJ hg.node with ⟨h1,h2⟩ | ⟨h1,h2⟩
  ·exact Ya 0 h1 h2 hn hm
  have:=yI h2;omega
 | succ d ih =>
 intro x lv hd hg hn hm
 rcases yJ hg.node with ⟨h1,h2⟩ | ⟨h1,h2⟩
 ·exact Ya _ h1 h2 hn hm
 obtain⟨f1,f2,f3,f4,f5,f6,f7⟩:=yI h2
 have hE:∀ y∈x.items,RdI d y:=fun y hy=>by
  have Ph:Modest y:=by
   obtain⟨k,hk,rfl⟩:=List.getElem_of_mem hy
   exact hm.parts.2.2.get k hk
  exact ih y (lv+1) (by omega) (hg.items.get y hy) (hn.items.get y hy) Ph
 have hA:x.kind=5→xB x.items=true:=hg.asc;have un:=hn.n_;have ir:=hm.parts.2.1;obtain⟨k,n,bs,l⟩:=x
 simp only[Itm.kind,Itm.n,Itm.bytes,Itm.items]at f1 f2 f3 f4 f5 f6 f7 hE hA un ir
 have gH:bs=[]:=List.length_eq_zero_iff.1 f4;subst gH
 intro r c hc
 rw[cnt]at hc⊢
 rcases(by omega:k=4∨k=5∨k=6) with rfl | rfl | rfl
 ·have h0:n=0:=f6 (by omega);subst h0;have he:zZ (.mk 4 0 [] l)=yv 4 l.length++zP l:=by rw[yP];simp[Itm.kind,Itm.bytes,Itm.items,Itm.n,yA]
  obtain⟨f,hf,cB⟩:=oK (by omega:4<7) (by omega:l.length<18446744073709551616) (zP l++r);rw[he,List.append_assoc,zQ.eq_def]
  simp only
  rw[if_neg (by omega),hf]
  simp only
  rw[if_neg (by omega),if_neg (by omega),if_neg (by omega),if_neg (by omega),if_neg (by omega),List.drop_left,Xy d l r (c+1) hE (by omega)]
  exact jdq
 ·have h0:n=0:=f6 (by omega);subst h0;have QR:=f7 rfl;have he:zZ (.mk 5 0 [] l)=yv 5 (l.length/2)++zP l:=by rw[yP];simp[Itm.kind,Itm.bytes,Itm.items,Itm.n,yA]
  obtain⟨f,hf,cB⟩:=oK (by omega:5<7) (by omega:l.length/2<18446744073709551616) (zP l++r);rw[he,List.append_assoc,zQ.eq_def]
  simp only
  rw[if_neg (by omega),hf]
  simp only
  rw[if_neg (by omega),if_neg (by omega),if_neg (by omega),if_neg (by omega),if_pos (by omega),List.drop_left,YM d (l.length/2) l r (c+1) none (by omega) hE (hA rfl) (fun _ _ _=>rfl) (by omega)]
  exact jdq
 obtain⟨y,rfl⟩:∃ y,l=[y]:=by
  have:=f5 rfl
  cases l with
  | nil=>simp at this
  | cons y t=>cases t with
   | nil=>exact⟨y,rfl⟩
   | cons z t=>simp at this
 have he:zZ (.mk 6 n [] [y])=yv 6 n++zZ y:=by rw[yP];simp[Itm.kind,Itm.bytes,Itm.items,Itm.n,yA,zP]
 obtain⟨f,hf,cB⟩:=oK (by omega:6<7) un (zZ y++r)
 simp only[yf]at hc⊢
 rw[he,List.append_assoc,zQ.eq_def]
 simp only
 rw[if_neg (by omega),hf]
 simp only
 rw[if_neg (by omega),if_neg (by omega),if_neg (by omega),if_pos (by omega),List.drop_left,hE y (by simp) r (c+1) (by omega)]
 exact jdq
theorem gR {x:Itm}(h:zJ x=true) (hn:Nums x):uY (zZ x)=.ok x:=by
 obtain⟨hg,hc,hl⟩:=(yo x).1 h;have hp:=Kh 8 x 0 rfl hg hn (yU h) [] 0 (by omega);rw[List.append_nil]at hp;rw[uY,if_neg (by omega),qY,List.take_of_length_le hl,hp]
 simp
theorem IsBytes.take' {H:Snap}{A:Option Addr}{c:Nat}{l:List UInt8}(h:IsBytes H A c l) (m:Nat):IsBytes H A c (l.take m):=by
 exact jbz
theorem IsBytes.drop' {H:Snap}{A:Option Addr}{c:Nat}{l:List UInt8}(h:IsBytes H A c l) (k:Nat) (hk:k≤l.length):IsBytes H (if c=k then A else Option.map (fun x=>x.add k) A) (c-k) (l.drop k):=by
 have yw:=h.le;have iX:=h.max
 refine⟨by rw[List.length_drop];omega,by omega,fun vl=>?_⟩
 have qJ:k<l.length:=by
  rcases Nat.lt_or_ge k l.length with h1 | h1
  ·exact h1
  rw[List.drop_eq_nil_of_le h1]at vl;exact absurd rfl vl
 obtain⟨b,off,rfl,hc⟩:=h.row (by intro h0;rw[List.map_eq_nil_iff]at h0;subst h0;simp at qJ);rw[if_neg (by omega)]
 refine⟨b,off+k,by rw[Option.map_some,oN],fun j v hj=>?_⟩
 rw[List.map_drop,List.getElem?_drop]at hj;have:=hc (k+j) v hj;rwa [← Nat.add_assoc]at this
theorem kF {P:Program}(t e:TypeId) (n:Nat) (cs:Array Value) (k:IntKind) (j:Nat) (i:Int) (u:Value) (h:P.underlying t=some (.array n e)) (he:P.plainKey e=true) (i0:TypeInfo) (tV:P.info? e=some i0) (h1:i0.size=1) (hi:i=(j:Int)) (hj:j<n) (hv:cs[j]? = some u) (w:World) :
  (Instr.index t (.agg cs) (.int k i)).run P w=.ok u w:=by
 subst hi;have hn:(0:Int)≤(j:Int)∧(j:Int)<(n:Int):=by omega
 have hp:=run_part_plain (P:=P) (w:=w) he hv
 have e1:(Instr.index t (.agg cs) (.int k (j:Int))).run P w=(part e cs j).run P w:=by
  simp[Instr.index,run_underlying h,asIntOf,hn,hj,sizeOf,typeInfo,tV,h1,go_sem]
 rw[e1,hp]
theorem uf (w:World) (cs:Array Value) (j:Nat) (u:Value) (i:Int) (hi:i=(j:Int)) (hj:j<8) (hv:cs[j]? = some u) :
  (Instr.index 137 (.agg cs) (.int .i64 i)).run Tryz.prog w=.ok u w:=by
 obtain⟨i0,tV,kA,rE,oz⟩:=info_parts (show(Tryz.prog.info? 135).map (fun i=>(i.zero,i.size,i.bytes))=some (some (.int .u32 0),1,4) by kernel_rfl)
 exact kF _ _ 8 cs .i64 j i u Tryz.underlying137 (by kernel_rfl) i0 tV rE hi hj hv w
theorem ks {p u:Itm}(h:zL p u=true):(∀ q∈zT p.items,uw q.1=true)∧(∀ q∈zT u.items,uw q.1=true):=by
 simp[zL,rp]at h
 have h1:=h.1.1.1.1.2;have h2:=h.1.1.1.2.2;rw[rK,List.all_eq_true]at h1 h2
 exact⟨fun q hq=>na (h1 q hq),fun q hq=>na (h2 q hq)⟩
theorem NH {p u:Itm}(hv:zL p u=true) (np:Nums p) (nu:Nums u) (j:Nat) (hj:j<100):uC p u (j:Int)=vj p u (j:Int):=by
 obtain⟨vp,vu,ZT,gK⟩:=yY hv;obtain⟨lp,lu⟩:=ks hv;have N2:Nums (zS (j:Int)):=by rw[vM,Nums,NumsL];exact⟨by omega,trivial⟩
 rw[uC,vj,mD ZT vp np lp (vH j) N2,mD gK vu nu lu (vH j) N2]
 all_goals (cases atL (zS (j:Int)) p.items <;> rfl)
def g8 (p u:Itm) (n:Int):Option Itm:=if zL p u=true then uC p u n else none
def Vx (x:Itm):Int:=if x.kind=1 then IntKind.i64.wrap (-1-IntKind.i64.wrap (x.n:Int)) else IntKind.i64.wrap (x.n:Int)
def sR (p u:Itm):Int:=match g8 p u 1 with
 | some x=>Vx x
 | none=>0
def ju (g:Int):Nat:=if g=4 then 8 else if g=5 then 32 else 0
theorem Vs {p:Itm}(h:zJ p=true) (h5:p.kind=5):p=.mk 5 0 [] p.items∧p.items.length%2=0∧xB p.items=true:=by
 have hg:=((yo p).1 h).1;have hf:=yI (mE hg (by omega));have hb:p.bytes=[]:=List.length_eq_zero_iff.1 hf.2.2.2.1;have ha:=hg.asc h5;have hn:=hf.2.2.2.2.2.1 (by omega);have he:=hf.2.2.2.2.2.2 h5;obtain⟨k,n,b,l⟩:=p
 simp only[Itm.kind,Itm.bytes,Itm.items,Itm.n]at h5 hb hn he ha⊢
 subst h5 hb hn
 exact⟨rfl,he,ha⟩
def wO (n s:Nat):UInt8:=UInt8.ofNat (n/2 ^ s)
def qf (n:Nat):List UInt8:=[wO n 56,wO n 48,wO n 40,wO n 32,wO n 24,wO n 16,wO n 8,wO n 0]
def jt (n:Nat):Nat:=(119-n%64)%64
def I0 (n:Nat):Nat:=n*8%18446744073709551616
def oB (l:List UInt8):List UInt8:=l++[128]++List.replicate (jt l.length) 0++qf (I0 l.length)
theorem tH (n:Nat):(qf n).length=8:=rfl
theorem Nn (l:List UInt8):(oB l).length=l.length+9+jt l.length∧(oB l).length%64=0:=by
 have h:(oB l).length=l.length+9+jt l.length:=by
  simp only[oB,List.length_append,List.length_replicate,tH,List.length_singleton]
  omega
 refine⟨h, ?_⟩
 rw[h,jt]
 omega
theorem KY (n:Nat):jt n<64:=Nat.mod_lt _ (by decide)
theorem KX {n z:Nat}(hz:z≤jt n) (h:¬ (n+1+z+8)%64=0):z<jt n:=by
 unfold jt at *
 omega
theorem Rg {n z:Nat}(hz:z≤jt n) (h:(n+1+z+8)%64=0):z=jt n:=by
 unfold jt at *
 omega
end Go.Proofs.YtliomcphdnppnaaGreatDoor
