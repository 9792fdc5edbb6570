/- squeezed. Owned bytes: their first part, a s -/
import Derived.Test.YtliomcphdnppnaaGreatDoorK00
import Derived.Deep.Cut
import Derived.Deep.DeepCutAuto
import Derived.Deep.CutBlock
set_option linter.unusedVariables false
set_option linter.unusedSimpArgs false
set_option maxRecDepth 100000
set_option maxHeartbeats 6400000
namespace Go.Proofs.YtliomcphdnppnaaGreatDoor
open Go.RowKit
def SrcR (w:World) (A:Option Addr) (ls:List (List UInt8)):Prop:=0<ls.length→∃ b off,A=some ⟨b,off,none⟩∧∀ j (hj:j<ls.length),∃ Aj cj,w.cell? ⟨b,off+j,none⟩=some (.slice Aj ls[j].length cj)∧Src w Aj (ls[j].map zv)
theorem SrcR.below {w w':World}{A:Option Addr}{ls:List (List UInt8)}(h:SrcR w A ls) (hb:Below w.heap.size w w'):SrcR w' A ls:=fun h0=>by
 obtain⟨b,off,e,hr⟩:=h h0
 exact⟨b,off,e,fun j hj=>by
  obtain⟨Aj,cj,h1,h2⟩:=hr j hj
  exact⟨Aj,cj,(hb.cell (World.block_lt_of_cell? w _ h1)).trans h1,h2.below hb⟩⟩
theorem SrcR.nil (w:World) (A:Option Addr):SrcR w A []:=fun h=>absurd h (by simp)
theorem OwnB.take_ {w:World}{base:Nat}{A:Option Addr}{n c:Nat}{l:List UInt8}(h:OwnB w base (.slice A n c) l) {k:Nat}(hk:k≤l.length):OwnB w base (.slice A k c) (l.take k):=by
 have rO:(l.take k).length=k:=by rw[List.length_take];omega
 refine⟨by simp, ?_⟩
 rw[rO]
 rcases h.2 with ⟨hv,hz⟩ | ⟨g,cap,cur,hv,hb,hg,hc,hm,hcz,ht⟩
 ·cases hv
  have:k=0:=by omega
  subst this
  exact .inl ⟨rfl,rfl⟩
 cases hv
 refine .inr ⟨g,c,cur,rfl,hb,hg,by omega,hm,hcz, ?_⟩
 rw[List.map_take,← ht,List.take_take,show min k (l.length*1)=k*1 by omega]
theorem OwnB.store_ {w:World}{base:Nat}{A:Option Addr}{n c:Nat}{l:List UInt8}(h:OwnB w base (.slice A n c) l) {k:Nat}(hk:k<l.length):∃ g cur,A=some ⟨g,0,none⟩∧base≤g∧Blk w g 5 cur∧k<cur.size∧
  ∀ (w':World) (x:UInt8),Blk w' g 5 (cur.setIfInBounds k (zv x))→OwnB w' base (.slice A n c) (l.set k x):=by
 rcases h.2 with ⟨hv,hz⟩ | ⟨g,cap,cur,hv,hb,hg,hc,hm,hcz,ht⟩
 ·omega
 cases hv
 refine⟨g,cur,rfl,hb,hg,by omega,fun w' x hB=>⟨by simp,.inr ⟨g,c,_,by simp,hb,hB,by simpa using hc,hm,by rw[Array.size_setIfInBounds,hcz], ?_⟩⟩⟩
 rw[Array.toList_setIfInBounds,List.length_set,List.take_set,ht,List.map_set]
theorem XN:(Tryz.prog.info? 5).map (·.size)=some 1:=by kernel_rfl
def tY (a:UInt8):UInt8:=if a &&& 128=0 then a <<< 1 else(a <<< 1) ^^^ 27
def xC (b:UInt8) (k:Nat):UInt8:=UInt8.ofNat (b.toNat*2 ^ k%256+b.toNat/2 ^ (8-k))
def vf:Nat→UInt8
 | 0=>1
 | n+1=>vf n ^^^ tY (vf n)
def aE (b:UInt8):UInt8:=b ^^^ 99 ^^^ xC b 1 ^^^ xC b 2 ^^^ xC b 3 ^^^ xC b 4
def oa (n:Nat):List UInt8:=(List.range n).map vf++List.replicate (256-n) 0
def dF (i:Nat):UInt8:=if i<255 then vf i else 0
def fS (i:Nat):UInt8:=if i<255 then vf ((255-i)%255) else 0
def uO (i:Nat):List UInt8:=i.rec (List.replicate 512 0) fun i l=>(l.set (dF i).toNat (aE (fS i))).set (256+(aE (fS i)).toNat) (dF i)
def wW (n:Nat) (f:Nat→UInt8) (a:List UInt8) (i:Nat):List UInt8:=(List.range n).map fun j=>if j<i then f j else a.getD j 0
theorem xe (n:Nat) (f:Nat→UInt8) (a:List UInt8) (i:Nat):(wW n f a i).length=n:=by simp[wW]
theorem wl {n:Nat}(f:Nat→UInt8) {a:List UInt8}(h:a.length=n):wW n f a 0=a:=by
 apply List.ext_getElem (by simp[wW,h])
 intro j h1 h2
 simp[wW,List.getD_eq_getElem?_getD,List.getElem?_eq_getElem h2]
theorem uU (n:Nat) (f:Nat→UInt8) (a:List UInt8):wW n f a n=(List.range n).map f:=by
 apply List.ext_getElem (by simp[wW])
 intro j h1 h2
 have:j<n:=by simpa using h2
 simp[wW,this]
theorem vZ {n i:Nat}(f:Nat→UInt8) (a:List UInt8) (h:i<n):(wW n f a i).set i (f i)=wW n f a (i+1):=by
 apply List.ext_getElem (by simp[wW])
 intro j h1 h2
 simp only[wW,List.getElem_set,List.getElem_map,List.getElem_range]
 by_cases e:i=j
 ·subst e;simp
 rw[if_neg e]
 by_cases e2:j<i
 ·rw[if_pos e2,if_pos (by omega)]
 rw[if_neg e2,if_neg (by omega)]
theorem XP {n i j:Nat}(f:Nat→UInt8) (a:List UInt8) (h:i≤j) (hj:j<n):(wW n f a i).getD j 0=a.getD j 0:=by
 rw[List.getD_eq_getElem?_getD,List.getElem?_eq_getElem (by rw[xe];exact hj),Option.getD_some]
 simp only[wW,List.getElem_map,List.getElem_range]
 rw[if_neg (by omega)]
def sB (a:UInt8) (m:Nat):UInt8:=if m=1 then a else if m=2 then tY a else a ^^^ tY a
def at_ (a:List UInt8) (i:Nat):UInt8:=a.getD i 0
def xG (a k:List UInt8):List UInt8:=(List.range 16).map fun i=>at_ a i ^^^ at_ k i
def vU (S a:List UInt8) (i:Nat):UInt8:=at_ S (at_ a (i%4+4*((i/4+i%4)%4))).toNat
def xE (S a:List UInt8):List UInt8:=(List.range 16).map (vU S a)
def lY (a:List UInt8) (i k:Nat):UInt8:=sB (at_ a (4*(i/4)+(i%4+k)%4)) ([2,3,1,1].getD k 0)
def vq (a:List UInt8):List UInt8:=(List.range 16).map fun i=>0 ^^^ lY a i 0 ^^^ lY a i 1 ^^^ lY a i 2 ^^^ lY a i 3
def rcU:Nat→UInt8
 | 0=>1
 | n+1=>tY (rcU n)
def mr (S:List UInt8) (w:List UInt8) (m:Nat):UInt8 :=
 at_ w (m-16) ^^^ (if m%16<4 then at_ S (at_ w (16*(m/16)-4+(m%16+1)%4)).toNat ^^^ (if m%16=0 then rcU (m/16-1) else 0) else at_ w (m-4))
def yK (S key:List UInt8):Nat→List UInt8
 | 0=>key
 | n+1=>yK S key n++[mr S (yK S key n) (16+n)]
theorem wT (S key:List UInt8) (h:key.length=16) (n:Nat):(yK S key n).length=16+n:=by
 induction n with
 | zero=>simp[yK,h]
 | succ n ih=>simp[yK,ih];omega
theorem qu (S key:List UInt8) (h:key.length=16) {m n j:Nat}(hm:m≤n) (hj:j<16+m):at_ (yK S key n) j=at_ (yK S key m) j:=by
 induction n with
 | zero=>rw[show m=0 by omega]
 | succ n ih =>
 by_cases e:m=n+1
 ·rw[e]
 have hl:=wT S key h n;rw[← ih (by omega),yK,at_,at_,List.getD_eq_getElem?_getD,List.getElem?_append_left (by omega),← List.getD_eq_getElem?_getD]
def tu (S key:List UInt8) (i:Nat):List UInt8:=(List.range 16).map fun k=>at_ (yK S key 160) (16*i+k)
def bI (S key:List UInt8) (i:Nat) (a:List UInt8):List UInt8:=xG (if i<10 then vq (xE S a) else xE S a) (tu S key i)
def rg (S key b:List UInt8):Nat→List UInt8
 | 0=>xG b (tu S key 0)
 | n+1=>bI S key (n+1) (rg S key b n)
def tJ:List UInt8:=(uO 256).take 256
def qz (key b:List UInt8):List UInt8:=rg tJ key b 10
theorem yf (a k:List UInt8):(xG a k).length=16:=by simp[xG]
theorem pm (S key b:List UInt8) (n:Nat):(rg S key b n).length=16:=by cases n <;> simp[rg,bI,xG]
theorem uH (key b:List UInt8):(qz key b).length=16:=pm _ _ _ _
theorem aY (f:Nat→UInt8) {n k:Nat}(h:k<n):at_ ((List.range n).map f) k=f k:=by
 simp[at_,List.getD_eq_getElem?_getD,h]
theorem lK {l:List UInt8}{k:Nat}(h:k<l.length):at_ l k=l[k]:=by
 simp[at_,List.getD_eq_getElem?_getD,h]
def qO:Nat→Nat→List UInt8
 | 0,_=>[]
 | k+1,n=>qO k (n/256)++[UInt8.ofNat (n%256)]
theorem aZ (k n:Nat):(qO k n).length=k:=by
 induction k generalizing n with
 | zero=>rfl
 | succ k ih=>simp[qO,ih]
theorem kg (k n:Nat):qO (k+1) n=UInt8.ofNat (n/256 ^ k%256)::qO k n:=by
 induction k generalizing n with
 | zero=>simp[qO]
 | succ k ih =>
 rw[qO,ih,qO,List.cons_append,Nat.div_div_eq_div_mul,Nat.pow_succ,Nat.mul_comm 256]
theorem Wc (j k n:Nat) (h:n/256 ^ j=0):qO (j+k) n=List.replicate k 0++qO j n:=by
 induction k with
 | zero=>rfl
 | succ k ih =>
 have e:n/256 ^ (j+k)=0:=by
  rw[Nat.pow_add,← Nat.div_div_eq_div_mul,h,Nat.zero_div]
 rw[show j+(k+1)=(j+k)+1 by omega,kg,ih,e,List.replicate_succ];rfl
def oK (f:UInt8) (nonce:List UInt8) (n j:Nat):List UInt8:=f::(nonce++(List.replicate (15-nonce.length-j) 0++qO j n))
def vC (f:UInt8) (nonce:List UInt8) (n:Nat):List UInt8:=f::(nonce++qO (15-nonce.length) n)
theorem tU (f:UInt8) {nonce:List UInt8}(h:nonce.length≤13) (n:Nat):(vC f nonce n).length=16:=by
 rw[vC,List.length_cons,List.length_append,aZ];omega
theorem Wm (f:UInt8) {nonce:List UInt8}{j:Nat}(h:nonce.length+j≤15) (n:Nat):(oK f nonce n j).length=16:=by
 simp only[oK,List.length_cons,List.length_append,aZ,List.length_replicate];omega
theorem ZG (f:UInt8) {nonce:List UInt8}{n j:Nat}(h:nonce.length+j=15):oK f nonce n j=vC f nonce n:=by
 rw[oK,vC,show 15-nonce.length-j=0 by omega,show 15-nonce.length=j by omega];rfl
theorem ZF (f:UInt8) {nonce:List UInt8}{n j:Nat}(hj:nonce.length+j≤15) (h:n/256 ^ j=0):oK f nonce n j=vC f nonce n:=by
 rw[oK,vC,← Wc j (15-nonce.length-j) n h,show j+(15-nonce.length-j)=15-nonce.length by omega]
theorem Wn (f:UInt8) {nonce:List UInt8}{n j:Nat}(h:nonce.length+j<15):(oK f nonce n j).set (15-j) (UInt8.ofNat (n/256 ^ j%256))=oK f nonce n (j+1):=by
 obtain⟨z,hz⟩:∃ z,15-nonce.length-j=z+1:=⟨15-nonce.length-j-1,by omega⟩
 rw[oK,oK,kg,hz,show 15-nonce.length-(j+1)=z by omega,show 15-j=(nonce.length+z)+1 by omega,List.set_cons_succ,List.set_append_right _ _ (by omega),List.replicate_succ',List.append_assoc,List.set_append_right _ _ (by simp),show nonce.length+z-nonce.length-(List.replicate z (0:UInt8)).length=0 by simp];rfl
def vP (key b x:List UInt8):Nat→List UInt8
 | 0=>x
 | j+1=>qz key (xG (vP key b x j) ((b.drop (16*j)).take 16))
def nR (key x b:List UInt8):List UInt8:=vP key b x ((b.length+15)/16)
theorem ZI (key b:List UInt8) {x:List UInt8}(h:x.length=16) (j:Nat):(vP key b x j).length=16:=by
 cases j with
 | zero=>exact h
 | succ j=>exact uH _ _
theorem sV (key b:List UInt8) {x:List UInt8}(h:x.length=16):(nR key x b).length=16:=ZI _ _ h _
def rF (aad:List UInt8):List UInt8:=UInt8.ofNat (aad.length/256%256)::UInt8.ofNat (aad.length%256)::aad
def vl (nonce aad:List UInt8) (t:Nat):UInt8:=UInt8.ofNat (8*(t/2-1)+14-nonce.length+if aad.length=0 then 0 else 64)
def firstS (nonce:List UInt8):UInt8:=UInt8.ofNat (14-nonce.length)
def qF (key nonce aad plain:List UInt8) (t:Nat):List UInt8 :=
 nR key (if aad.length=0 then nR key (List.replicate 16 0) (vC (vl nonce aad t) nonce plain.length) else nR key (nR key (List.replicate 16 0) (vC (vl nonce aad t) nonce plain.length)) (rF aad)) plain
theorem oB (key nonce aad plain:List UInt8) (t:Nat):(qF key nonce aad plain t).length=16:=by
 rw[qF]
 refine sV _ _ ?_
 split
 ·exact sV _ _ rfl
 exact sV _ _ (sV _ _ rfl)
def rH (key nonce text:List UInt8) (k:Nat):UInt8:=at_ text k ^^^ at_ (qz key (vC (firstS nonce) nonce (k/16+1))) (k%16)
def rj (key nonce text:List UInt8):List UInt8:=(List.range text.length).map (rH key nonce text)
def uv (key nonce tag:List UInt8):List UInt8:=xG tag (qz key (vC (firstS nonce) nonce 0))
def rf (key nonce aad plain:List UInt8) (t:Nat):List UInt8:=rj key nonce plain++(uv key nonce (qF key nonce aad plain t)).take t
def tW (key nonce cipher:List UInt8) (t:Nat):List UInt8:=rj key nonce (cipher.take (cipher.length-t))
def rv (key nonce aad cipher:List UInt8) (t:Nat):Bool:=(uv key nonce (cipher.drop (cipher.length-t))).take t==(qF key nonce aad (tW key nonce cipher t) t).take t
theorem vN (key nonce text:List UInt8):(rj key nonce text).length=text.length:=by simp[rj]
theorem Zj (key nonce aad plain:List UInt8) {t:Nat}(ht:t≤16):(rf key nonce aad plain t).length=plain.length+t:=by
 rw[rf,List.length_append,vN,List.length_take,uv,yf];omega
theorem nN (f:Nat→UInt8) {n k:Nat}(h:k<n):at_ ((List.range n).map f) k=f k:=by
 simp[at_,List.getD_eq_getElem?_getD,h]
theorem om {l:List UInt8}{k:Nat}(h:k<l.length):at_ l k=l[k]:=by
 simp[at_,List.getD_eq_getElem?_getD,h]
theorem nM (a b:UInt8):a ^^^ b ^^^ b=a:=by rw[UInt8.xor_assoc,UInt8.xor_self,UInt8.xor_zero]
theorem cm (key nonce text:List UInt8):rj key nonce (rj key nonce text)=text:=by
 apply List.ext_getElem (by rw[vN,vN])
 intro k h1 h2
 have h3:at_ (rj key nonce text) k=rH key nonce text k:=nN _ h2;rw[← om h1];rw[show at_ (rj key nonce (rj key nonce text)) k=rH key nonce (rj key nonce text) k from nN _ (by rw[vN];exact h2),rH,h3,rH,nM,om h2]
theorem Wz (key nonce tag:List UInt8) (h:tag.length=16) {t:Nat}(ht:t≤16):(uv key nonce ((uv key nonce tag).take t)).take t=tag.take t:=by
 have l1:(uv key nonce tag).length=16:=yf _ _;apply List.ext_getElem (by simp[uv,yf,h])
 intro k h1 h2
 have hk:k<t∧k<16:=by simp[h]at h2;omega
 rw[List.getElem_take,List.getElem_take,← om,uv,xG,nN _ hk.2,om (by rw[List.length_take];omega),List.getElem_take,← om (by omega),uv,xG,nN _ hk.2,nM,om (by omega)]
theorem iS (a:UInt8):BitVec.ofInt 8 (a.toNat:Int)=a.toBitVec:=by
 rw[BitVec.ofInt_natCast]
 exact BitVec.eq_of_toNat_eq (by rw[BitVec.toNat_ofNat];exact Nat.mod_eq_of_lt a.toNat_lt)
theorem XV (b:BitVec 8):IntKind.u8.wrap (b.toNat:Int)=(b.toNat:Int):=by
 have:=b.isLt;rw[IntKind.wrap_u8]
 omega
theorem yn (a b:UInt8):bits .xor .u8 (a.toNat:Int) (b.toNat:Int)=((a ^^^ b).toNat:Int):=by
 show IntKind.u8.wrap ((BitVec.ofInt 8 (a.toNat:Int) ^^^ BitVec.ofInt 8 (b.toNat:Int)).toNat:Int)=_
 rw[iS,iS,XV];rfl
theorem Xc {p:UInt8→Prop}(h:∀ n,n<256→p (UInt8.ofNat n)) (a:UInt8):p a:=by
 have:=h a.toNat a.toNat_lt;rwa [UInt8.ofNat_toNat]at this
theorem Tx:∀ n:Nat,n<256→(bits .and .u8 ((UInt8.ofNat n).toNat:Int) 128=0↔(UInt8.ofNat n) &&& 128=0)∧IntKind.u8.wrap (((UInt8.ofNat n).toNat:Int)*2)=(((UInt8.ofNat n) <<< 1).toNat:Int)∧bits .xor .u8 (((UInt8.ofNat n) <<< 1).toNat:Int) 27=((((UInt8.ofNat n) <<< 1) ^^^ 27).toNat:Int)∧((UInt8.ofNat n).toNat/128=1↔¬ (UInt8.ofNat n) &&& 128=0)∧tY (UInt8.ofNat n) ^^^ UInt8.ofNat n=UInt8.ofNat n ^^^ tY (UInt8.ofNat n):=by
 decide +kernel
theorem nC (a:UInt8):(bits .and .u8 (a.toNat:Int) 128=0↔a &&& 128=0)∧IntKind.u8.wrap ((a.toNat:Int)*2)=((a <<< 1).toNat:Int)∧bits .xor .u8 ((a <<< 1).toNat:Int) 27=(((a <<< 1) ^^^ 27).toNat:Int)∧(a.toNat/128=1↔¬ a &&& 128=0)∧tY a ^^^ a=a ^^^ tY a :=
 Xc (p:=fun a=>(bits .and .u8 (a.toNat:Int) 128=0↔a &&& 128=0)∧IntKind.u8.wrap ((a.toNat:Int)*2)=((a <<< 1).toNat:Int)∧bits .xor .u8 ((a <<< 1).toNat:Int) 27=(((a <<< 1) ^^^ 27).toNat:Int)∧(a.toNat/128=1↔¬ a &&& 128=0)∧tY a ^^^ a=a ^^^ tY a) Tx a
theorem UX:∀ n:Nat,n<256→∀ k:Nat,k<5→bits .or .u8 (IntKind.u8.wrap (((UInt8.ofNat n).toNat:Int)*2 ^ k)) (((UInt8.ofNat n).toNat:Int)/2 ^ (8-k))=((xC (UInt8.ofNat n) k).toNat:Int):=by
 decide +kernel
theorem iX (a:UInt8) {k:Nat}(h:k<5):bits .or .u8 (IntKind.u8.wrap ((a.toNat:Int)*2 ^ k)) ((a.toNat:Int)/2 ^ (8-k))=((xC a k).toNat:Int) :=
 Xc (p:=fun a=>∀ k,k<5→bits .or .u8 (IntKind.u8.wrap ((a.toNat:Int)*2 ^ k)) ((a.toNat:Int)/2 ^ (8-k))=((xC a k).toNat:Int)) UX a k h
theorem oT (a:UInt8) (w:World) :
  Calls Tryz.prog 123 #[zv a] w fun e w'=>e=.returned (zv (tY a))∧w=w':=by
 obtain⟨h1,h2,h3,_⟩:=nC a
 by_cases h:a &&& 128=0
 ·have e0:bits .and .u8 (a.toNat:Int) 128=0:=h1.2 h;have E:Hid (zv (tY a)=.int .u8 (IntKind.u8.wrap ((a.toNat:Int)*2))):=by rw[Hid,tY,if_pos h,h2]
  clear h1 h2 h3 h;go_enter Tryz.func123,Tryz.ntmps123
  go_wp2_with fail
  go_ret
  exact⟨by rw[E.out];rfl,rfl⟩
 have e0:¬ bits .and .u8 (a.toNat:Int) 128=0:=fun e=>h (h1.1 e)
 have e1:(bits .and .u8 (a.toNat:Int) 128 != 0)=true:=by rw[bne_iff_ne];exact e0
 have e2:(bits .and .u8 (a.toNat:Int) 128=0)=False:=eq_false e0;have E:Hid (zv (tY a)=.int .u8 (bits .xor .u8 (IntKind.u8.wrap ((a.toNat:Int)*2)) 27)):=by rw[Hid,tY,if_neg h,h2,h3]
 clear h1 h2 h3 h e0;go_enter Tryz.func123,Tryz.ntmps123
 go_wp2_with fail
 go_ret
 exact⟨by rw[E.out];rfl,rfl⟩
theorem eA (a:UInt8) (m:Nat) (hm:m=1∨m=2∨m=3) (w:World) :
  Calls Tryz.prog 191 #[zv a,.int .u8 (m:Int)] w fun e w'=>e=.returned (zv (sB a m))∧w=w':=by
 obtain⟨_,_,_,_,hc⟩:=nC a;have D:=Hh (fun b w=>oT b w);have z0:bits .and .u8 (1:Int) 1=1:=by kernel_rfl
 have z1:bits .and .u8 (2:Int) 1=0:=by kernel_rfl
 have z2:bits .and .u8 (3:Int) 1=1:=by kernel_rfl
 have x0:bits .xor .u8 0 (a.toNat:Int)=(a.toNat:Int):=by have:=yn 0 a;rwa [UInt8.zero_xor]at this
 have x1:bits .xor .u8 0 ((tY a).toNat:Int)=((tY a).toNat:Int):=by have:=yn 0 (tY a);rwa [UInt8.zero_xor]at this
 have x2:=yn a (tY a)
 rcases hm with rfl | rfl | rfl
 ·go_enter Tryz.func191,Tryz.ntmps191
  go_wp2_with fail
  refine wp_loop_rounds 2 ?_
  rw[rounds_succ];go_wp2_with fail
  refine(D.out _ _).mono ?_
  rintro e w1 ⟨rfl,rfl⟩
  go_wp2_with fail
  rw[rounds_succ];go_wp2_with fail
  go_ret
  exact⟨rfl,rfl⟩
 ·go_enter Tryz.func191,Tryz.ntmps191
  go_wp2_with fail
  refine wp_loop_rounds 3 ?_
  rw[rounds_succ];go_wp2_with fail
  refine(D.out _ _).mono ?_
  rintro e w1 ⟨rfl,rfl⟩
  go_wp2_with fail
  rw[rounds_succ];go_wp2_with fail
  refine(D.out _ _).mono ?_
  rintro e w1 ⟨rfl,rfl⟩
  go_wp2_with fail
  rw[rounds_succ];go_wp2_with fail
  go_ret
  exact⟨rfl,rfl⟩
 go_enter Tryz.func191,Tryz.ntmps191
 go_wp2_with fail
 refine wp_loop_rounds 3 ?_
 rw[rounds_succ];go_wp2_with fail
 refine(D.out _ _).mono ?_
 rintro e w1 ⟨rfl,rfl⟩
 go_wp2_with fail
 rw[rounds_succ];go_wp2_with fail
 refine(D.out _ _).mono ?_
 rintro e w1 ⟨rfl,rfl⟩
 go_wp2_with fail
 rw[rounds_succ];go_wp2_with fail
 go_ret
 exact⟨rfl,rfl⟩
theorem Z5 (b:UInt8) (k:Nat) (hk:k=1∨k=2∨k=3∨k=4) (w:World) :
  Calls Tryz.prog 124 #[zv b,.int .i64 (k:Int)] w fun e w'=>e=.returned (zv (xC b k))∧w=w':=by
 have R:=iX b (show k<5 by omega);have E:Hid (zv (xC b k)=.int .u8 (bits .or .u8 (IntKind.u8.wrap ((b.toNat:Int)*2 ^ k)) ((b.toNat:Int)/2 ^ (8-k)))):=by rw[Hid,R]
 clear R
 rcases hk with rfl | rfl | rfl | rfl
 ·have e1:bits .and .u64 1 7=1:=by kernel_rfl
  have e2:IntKind.u64.wrap (8-1)=7:=by kernel_rfl
  rw[show((1:Nat):Int)=1 from rfl];go_enter Tryz.func124,Tryz.ntmps124
  go_wp2_with fail
  go_ret
  exact⟨by rw[E.out];rfl,rfl⟩
 ·have e1:bits .and .u64 2 7=2:=by kernel_rfl
  have e2:IntKind.u64.wrap (8-2)=6:=by kernel_rfl
  rw[show((2:Nat):Int)=2 from rfl];go_enter Tryz.func124,Tryz.ntmps124
  go_wp2_with fail
  go_ret
  exact⟨by rw[E.out];rfl,rfl⟩
 ·have e1:bits .and .u64 3 7=3:=by kernel_rfl
  have e2:IntKind.u64.wrap (8-3)=5:=by kernel_rfl
  rw[show((3:Nat):Int)=3 from rfl];go_enter Tryz.func124,Tryz.ntmps124
  go_wp2_with fail
  go_ret
  exact⟨by rw[E.out];rfl,rfl⟩
 have e1:bits .and .u64 4 7=4:=by kernel_rfl
 have e2:IntKind.u64.wrap (8-4)=4:=by kernel_rfl
 rw[show((4:Nat):Int)=4 from rfl];go_enter Tryz.func124,Tryz.ntmps124
 go_wp2_with fail
 go_ret
 exact⟨by rw[E.out];rfl,rfl⟩
def zr (l:List UInt8):Array Value:=(l.map zv).toArray
theorem zo (l:List UInt8):(zr l).size=l.length:=by simp[zr]
theorem zK (l:List UInt8) (i:Nat) (h:i<l.length):(zr l)[i]? = some (zv (at_ l i)):=by
 simp[zr,at_,List.getD_eq_getElem?_getD,h]
theorem xl (l:List UInt8) (i:Nat) (u:UInt8):(zr l).setIfInBounds i (zv u)=zr (l.set i u):=by
 simp[zr,List.map_set]
theorem ym (l:List UInt8):(zr l).all (·.oneCell')=true:=by simp[zr,Value.oneCell']
theorem yM:(Tryz.prog.info? 5).map (·.size)=some 1:=by kernel_rfl
theorem wU {P:Program}{ops:Array Oper}{Q:Exit→Act→World→Prop}{rest:List Oper}{a:Act}{w:World}{dst:Option Tmp}{x:Operand}{T:TypeId}{pos:String}{af:Array Edge}{g:Option (Nat×Bool)}(ty:TypeId)
  (h:yy (wpList P ops Q (⟨dst,.load ty x,T,pos,af,g⟩::rest) a w)):wpList P ops Q (⟨dst,.load ty x,T,pos,af,g⟩::rest) a w:=h
def qE (l:List UInt8) (off n:Nat):List UInt8:=(l.drop off).take n
theorem lF {l:List UInt8}{off n:Nat}(h:off+n≤l.length):(qE l off n).length=n:=by
 rw[qE,List.length_take,List.length_drop];omega
theorem xm {l:List UInt8}{n:Nat}(h:l.length=n):qE l 0 n=l:=by rw[qE,List.drop_zero,← h,List.take_length]
theorem az {l:List UInt8}{off n k:Nat}(hk:k<n):at_ (qE l off n) k=at_ l (off+k):=by
 simp only[at_,qE,List.getD_eq_getElem?_getD,List.getElem?_take,if_pos hk,List.getElem?_drop]
theorem sT {w:World}{g:Nat}{t:TypeId}{l:List UInt8}(hB:Blk w g t (zr l)) (off n:Nat):w.rangeAt g off ((qE l off n).map zv):=by
 intro j v hj
 refine hB.cell _ ?_
 rw[List.getElem?_map,qE,List.getElem?_take]at hj
 split at hj
 ·rw[List.getElem?_drop]at hj
  simp only[zr,List.getElem?_toArray,List.getElem?_map]
  exact hj
 cases hj
theorem zN {w:World}{ops:Array Oper}{rest:List Oper}{o:Oper}{a:Act}{Q:Exit→Act→World→Prop}(hgd:o.guard=none) (ty:TypeId) (x:Operand) (ho:o.op=.load ty x)
  (g off n:Nat) (hx:a.eval x=.pointer (some ⟨g,off,none⟩)) {t:TypeId} {l:List UInt8} (hB:Blk w g t (zr l)) (hn:off+n≤l.length) (d:TypeDesc)
  (hu:Tryz.prog.underlying ty=some d) (hd:d.isRow=true) (hi:(Tryz.prog.info? ty).map (·.size)=some n)
  (h:wpList Tryz.prog ops Q rest (a.put o.dst (.agg (zr (qE l off n)))) w):wpList Tryz.prog ops Q (o::rest) a w :=
 wpList_load_mid hgd ty x ho g off hx ((qE l off n).map zv) d (sT hB off n) hu hd (by rw[List.length_map,lF hn];exact hi) h
theorem iW:∀ (vs l:List UInt8) (off:Nat),qP (zr l) off (vs.map zv)=zr (l.take off++vs++l.drop (off+vs.length))∨l.length<off+vs.length
 | [],l,off=>by
  left
  rw[List.map_nil,qP,List.append_nil,List.length_nil,Nat.add_zero,List.take_append_drop]
 | v::vs,l,off=>by
  by_cases h:l.length<off+(v::vs).length
  ·exact .inr h
  left
  rw[List.length_cons]at h;rw[List.map_cons,qP,xl]
  rcases iW vs (l.set off v) (off+1) with e | e
  ·rw[e];congr 1
   rw[List.drop_set_of_lt (by omega),List.length_cons,show off+1+vs.length=off+(vs.length+1) by omega,List.take_set,List.take_add_one,List.getElem?_eq_getElem (by omega),List.set_append_right _ _ (by rw[List.length_take];omega)];rw[List.length_take,Nat.min_eq_left (by omega),Nat.sub_self]
   simp
  rw[List.length_set]at e;omega
def spl (l:List UInt8) (off:Nat) (vs:List UInt8):List UInt8:=l.take off++vs++l.drop (off+vs.length)
theorem yA {w:World}{ops:Array Oper}{rest:List Oper}{o:Oper}{a:Act}{Q:Exit→Act→World→Prop}(hgd:o.guard=none) (ty:TypeId) (x y:Operand) (ho:o.op=.store ty x y)
  (hd:o.dst=none) (g off:Nat) (vs:List UInt8) (hx:a.eval x=.pointer (some ⟨g,off,none⟩)) (hy:a.eval y=.agg (zr vs))
  {t:TypeId} {l:List UInt8} (hB:Blk w g t (zr l)) (hi:(Tryz.prog.info? ty).map (·.size)=some vs.length) (hold:off+vs.length≤l.length)
  (h:∀ w',Blk w' g t (zr (spl l off vs))→w.grownBy w' (some g)→wpList Tryz.prog ops Q rest a w') :
  wpList Tryz.prog ops Q (o::rest) a w:=by
 refine vw hgd ty x y ho hd g off (zr vs) hx hy t _ hB (by rw[zo];exact hi) (by rw[zo,zo];exact hold) (ym _) fun w' h2 h3=>h w' ?_ h3
 rcases iW vs l off with e | e
 ·rw[show(zr vs).toList=vs.map zv by simp[zr],e]at h2
  exact h2
 omega
theorem qv {l vs:List UInt8}(h:vs.length=l.length):spl l 0 vs=vs:=by
 rw[spl,List.take_zero,List.nil_append,Nat.zero_add,h,List.drop_length,List.append_nil]
theorem Uc {l vs:List UInt8}{off:Nat}(h:off+vs.length≤l.length):(spl l off vs).length=l.length:=by
 simp only[spl,List.length_append,List.length_take,List.length_drop];omega
theorem lB {n:Nat}(h:n≤256):(oa n).length=256:=by simp[oa];omega
theorem XB {n:Nat}(h:n<256):(oa n).set n (vf n)=oa (n+1):=by
 rw[oa,oa,List.set_append_right _ _ (by simp),List.length_map,List.length_range,Nat.sub_self,show 256-n=(256-(n+1))+1 by omega,List.replicate_succ,List.set_cons_zero,List.range_succ,List.map_append,List.append_assoc];rfl
theorem aq {i n:Nat}(h:i<n):at_ (oa n) i=vf i:=by
 simp[oa,at_,List.getD_eq_getElem?_getD,List.getElem?_append_left,h]
theorem ww (i:Nat):(uO i).length=512:=by
 induction i with
 | zero=>exact List.length_replicate
 | succ i ih =>
 show(((uO i).set _ _).set _ _).length=512
 rw[List.length_set,List.length_set,ih]
theorem Z7 (i:Nat):((uO i).set (dF i).toNat (aE (fS i))).set (256+(aE (fS i)).toNat) (dF i)=uO (i+1):=rfl
theorem kX:Tryz.zeroCells121=zr (uO 0):=by kernel_rfl
theorem XZ:Tryz.zeroCells115=zr (oa 0):=by kernel_rfl
theorem mB (w:World) :
  Calls Tryz.prog 96 #[] w fun e w'=>e=.returned (.agg (zr (uO 256)))∧Below w.heap.size w w':=by
 have Vh:=Blk.new w 121 (zr (uO 0));have Sb:=Blk.new (w.alloc (.cells (zr (uO 0)) 121)) 115 (zr (oa 0));have xz:=zq w (.cells (zr (uO 0)) 121);have zH:=xz.alloc xz.size (.cells (zr (oa 0)) 115);replace Vh:=Vh.alloc (.cells (zr (oa 0)) 115);rw[zu]at Sb;go_enter Tryz.func96,Tryz.ntmps96
 go_wp2_with fail
 rw[kX,XZ];go_loopw [2,10] (fun v2 v10 wr=>∃ i:Nat,v10=.int .i64 (i:Int)∧v2=zv (vf i)∧i≤255∧Blk wr (w.heap.size+1) 115 (zr (oa i))∧Blk wr w.heap.size 121 (zr (uO 0))∧Below w.heap.size w wr) (fun _ v10 _=>(255-intOf v10).toNat)
 case atStart=>exact⟨0,rfl,rfl,by omega,Sb,Vh,zH⟩
 case round =>
 clear Sb Vh zH;obtain⟨i,rfl,rfl,hi,hP,hR,hb⟩:=hrel
 by_cases zB:(i:Int)<255
 ·have D:=Hh (fun b w=>oT b w);have E:=Hh (yn (vf i) (tY (vf i)));have P1:Hid (vf (i+1)=vf i ^^^ tY (vf i)):=rfl;obtain⟨u,hu⟩:∃ u,vf i=u:=⟨_,rfl⟩
  have HU:=Hh hu;rw[hu]at E P1⊢;have S1:=Hh (XB (n:=i) (by omega));rw[hu]at S1;clear hu;go_wp2_with (with_reducible refine zx ?_)
  refine zT rfl _ _ _ rfl rfl (w.heap.size+1) i (zv u) rfl rfl _ _ hP yM (by rw[zo,lB (by omega)];omega) rfl fun w5 Yo yF=>?_
  rw[xl,S1.out]at Yo;have WL:=hR.gr yF (by omega);have yN:=hb.grown yF hb.size (by rintro q ⟨⟩;omega);clear hP hR hb yF S1;go_wp2_with fail
  refine(D.out _ _).mono ?_
  rintro e w6 ⟨rfl,rfl⟩
  go_wp2_with fail
  go_roundw
  case rel=>exact⟨i+1,by go_num,by rw[P1.out,zv,← E.out],by omega,Yo,WL,yN⟩
  case measure=>simp[intOf];omega
 obtain rfl:i=255:=by omega
 rw[show((255:Nat):Int)=255 from rfl];have hS:=Blk.new wr 121 (zr (uO 0));have Yo:=hP.alloc (.cells (zr (uO 0)) 121);have WL:=hR.alloc (.cells (zr (uO 0)) 121);have yN:=hb.alloc hb.size (.cells (zr (uO 0)) 121);obtain⟨N,hN⟩:∃ N,wr.heap.size=N:=⟨_,rfl⟩
 have HN:=Hh (And.intro hN (show w.heap.size+2≤N by have:=hP.lt;omega));rw[hN]at hS;clear hP hR hb hN zB;go_wp2_with fail
 rw[kX]
 try rw[HN.out.1]
 go_loopw [21] (fun v21 wx=>∃ i:Nat,v21=.int .i64 (i:Int)∧i≤256∧Blk wx N 121 (zr (uO i))∧Blk wx (w.heap.size+1) 115 (zr (oa 255))∧Blk wx w.heap.size 121 (zr (uO 0))∧Below w.heap.size w wx) (fun v21 _=>(256-intOf v21).toNat)
 case atStart=>exact⟨0,rfl,by omega,hS,Yo,WL,yN⟩
 case round =>
 clear hS Yo WL yN;obtain⟨i,rfl,hi,hS,hP,hR,hb⟩:=hrel
 by_cases zB:(i:Int)<256
 ·obtain⟨m,hm⟩:∃ m,(255-i)%255=m:=⟨_,rfl⟩
  obtain⟨d,hd⟩:∃ d,255-i=d:=⟨_,rfl⟩
  have W1:(i:Int)<255→IntKind.i64.wrap (255-(i:Int))=(d:Int):=fun h=>by rw[← hd,show((255-i:Nat):Int)=255-(i:Int) by omega];exact IntWalk.i64_in _ (by omega)
  have T1:(d:Int).tmod 255=(m:Int):=by rw[← hm,hd];exact(Int.ofNat_tmod d 255).symm
  have l1:(m:Int)<255:=by omega
  have l2:(m:Int)<256:=by omega
  have HM:=Hh (And.intro hm hd);clear hm hd;go_upto_if 25 with fail
  go_cut [6,7] (fun s6 s7 wy=>∃ a b:UInt8,s6=zv a∧s7=zv b∧Hid (dF i=a∧fS i=b)∧Blk wy N 121 (zr (uO i))∧Blk wy (w.heap.size+1) 115 (zr (oa 255))∧Blk wy w.heap.size 121 (zr (uO 0))∧Below w.heap.size w wy)
  case first =>
   by_cases h2:(i:Int)<255
   ·have W2:=W1 h2;have b1:=hP.drew.cell i (zK _ _ (by rw[lB (by omega)];omega));have b2:=hP.drew.cell m (zK _ _ (by rw[lB (by omega)];omega));rw[aq (by omega)]at b1;rw[aq (by omega)]at b2;obtain⟨u,hu⟩:∃ u,vf i=u:=⟨_,rfl⟩
    obtain⟨v,hv⟩:∃ v,vf m=v:=⟨_,rfl⟩
    rw[hu]at b1;rw[hv]at b2;have Gl:=Hh (And.intro hu hv);clear hu hv W1;go_upto_region 15 with fail
    refine zw 10 (fun wx=>wx.cell? ⟨w.heap.size+1,i,none⟩=some (zv u)∧wx.cell? ⟨w.heap.size+1,m,none⟩=some (zv v)) (by kernel_rfl) (⟨b1,b2⟩) (fun zy=>?_)
    refine TkS 0 rfl zy ?_
    refine TkS 1 rfl zy ?_
    refine TkS 2 rfl zy ?_
    refine TkS 3 rfl zy ?_
    refine TkS 4 rfl zy ?_
    refine TkS 5 rfl zy ?_
    refine TkS 6 rfl zy ?_
    refine TkS 7 rfl zy ?_
    refine TkS 8 rfl zy ?_
    refine TkS 9 rfl zy ?_
    refine Wd ?_
    clear zy;go_wp2_with fail
    go_meet
    exact⟨u,v,rfl,rfl,⟨by rw[dF,if_pos (by omega),Gl.out.1],by rw[fS,if_pos (by omega),HM.out.1,Gl.out.2]⟩,hS.drew,hP.drew,hR.drew,hb.drew⟩
   go_wp2_with fail
   go_meet
   exact⟨0,0,rfl,rfl,⟨by rw[dF,if_neg (by omega)],by rw[fS,if_neg (by omega)]⟩,hS,hP,hR,hb⟩
  case rest =>
  clear hS hP hR hb W1 T1 l1 l2;obtain⟨a,b,rfl,rfl,GM,hS,hP,hR,hb⟩:=hcut;have R:=Hh (fun k hk w=>Z5 b k hk w);have X0:=yn b 99;have X1:=yn (b ^^^ 99) (xC b 1);have X2:=yn (b ^^^ 99 ^^^ xC b 1) (xC b 2);have X3:=yn (b ^^^ 99 ^^^ xC b 1 ^^^ xC b 2) (xC b 3);have X4:=yn (b ^^^ 99 ^^^ xC b 1 ^^^ xC b 2 ^^^ xC b 3) (xC b 4);have hx:∀ x:Int,bits .xor .u8 x ((99:UInt8).toNat:Int)=bits .xor .u8 x 99:=fun _=>rfl
  rw[hx]at X0;obtain⟨c0,tM⟩:∃ c,b ^^^ 99=c:=⟨_,rfl⟩
  rw[tM]at X0 X1 X2 X3 X4;obtain⟨c1,rK⟩:∃ c,c0 ^^^ xC b 1=c:=⟨_,rfl⟩
  rw[rK]at X1 X2 X3 X4;obtain⟨c2,fc⟩:∃ c,c1 ^^^ xC b 2=c:=⟨_,rfl⟩
  rw[fc]at X2 X3 X4;obtain⟨c3,Vl⟩:∃ c,c2 ^^^ xC b 3=c:=⟨_,rfl⟩
  rw[Vl]at X3 X4;obtain⟨c4,ik⟩:∃ c,c3 ^^^ xC b 4=c:=⟨_,rfl⟩
  rw[ik]at X4;have HC:Hid (aE (fS i)=c4):=by rw[Hid,GM.out.2,aE,tM,rK,fc,Vl,ik]
  clear tM rK fc Vl ik hx;go_wp2_with fail
  refine wp_loop_rounds 5 ?_
  rw[rounds_succ];go_wp2_with fail
  refine(R.out 1 (by omega) _).mono ?_
  rintro e w5 ⟨rfl,rfl⟩
  go_wp2_with fail
  rw[rounds_succ];go_wp2_with fail
  refine(R.out 2 (by omega) _).mono ?_
  rintro e w5 ⟨rfl,rfl⟩
  go_wp2_with fail
  rw[rounds_succ];go_wp2_with fail
  refine(R.out 3 (by omega) _).mono ?_
  rintro e w5 ⟨rfl,rfl⟩
  go_wp2_with fail
  rw[rounds_succ];go_wp2_with fail
  refine(R.out 4 (by omega) _).mono ?_
  rintro e w5 ⟨rfl,rfl⟩
  go_wp2_with fail
  rw[rounds_succ];have la:(a.toNat:Int)<256:=by have:=a.toNat_lt;omega
  have lc:(c4.toNat:Int)<256:=by have:=c4.toNat_lt;omega
  go_wp2_with (with_reducible refine zx ?_)
  refine zT rfl _ _ _ rfl rfl N a.toNat (zv c4) rfl rfl _ _ hS yM (by rw[zo,ww];omega) rfl fun w6 YX xO=>?_
  rw[xl]at YX;have QH:=hP.grown xO (by intro e;injection e with e;have:=HN.out;omega);have Ht:=hR.grown xO (by intro e;injection e with e;have:=HN.out;omega);have xT:=hb.grown xO hb.size (by rintro q ⟨⟩;have:=HN.out;omega);clear hS hP hR hb xO;go_wp2_with (with_reducible refine zx ?_)
  refine zT rfl _ _ _ rfl rfl N (256+c4.toNat) (zv a) rfl rfl _ _ YX yM (by rw[zo,List.length_set,ww];omega) rfl fun w7 YY xj=>?_
  rw[xl]at YY;have Sd:=QH.grown xj (by intro e;injection e with e;have:=HN.out;omega);have FU:=Ht.grown xj (by intro e;injection e with e;have:=HN.out;omega);have vh:=xT.grown xj xT.size (by rintro q ⟨⟩;have:=HN.out;omega);clear YX QH Ht xT xj la lc X0 X1 X2 X3 X4;go_wp2_with fail
  go_roundw
  case rel=>exact⟨i+1,by go_num,by omega,by rw[← HC.out,← GM.out.1,Z7]at YY;exact YY,Sd,FU,vh⟩
  case measure=>simp[intOf];omega
 obtain rfl:i=256:=by omega
 rw[show((256:Nat):Int)=256 from rfl];clear zB;go_wp2_with (with_reducible refine wU 121 ?_)
 refine zN rfl _ _ rfl N 0 512 rfl hS (by rw[ww];omega) _ Tryz.underlying121 rfl (by kernel_rfl) ?_
 rw[xm (ww _)];go_wp2_with (with_reducible refine zx ?_)
 refine yA rfl _ _ _ rfl rfl w.heap.size 0 (uO 256) rfl rfl hR (by rw[ww];kernel_rfl) (by rw[ww,ww];omega) fun w8 TW hg8=>?_
 rw[qv (by rw[ww,ww])]at TW;have rm:=hb.grown hg8 hb.size (by rintro q ⟨⟩;omega);clear hS hP hR hb hg8;go_wp2_with fail
 exact zR rfl rfl TW rfl rfl (by rw[zo,ww];kernel_rfl) rfl ⟨rfl,rm⟩
end Go.Proofs.YtliomcphdnppnaaGreatDoor
