/- squeezed. Walks: a cipher is made, and encry -/
import Derived.Test.YtliomcphdnppnaaGreatDoorK43
import Derived.Great.BuildSlice
set_option linter.unusedVariables false
set_option linter.unusedSimpArgs false
set_option maxRecDepth 100000
set_option maxHeartbeats 6400000
namespace Go.Proofs.YtliomcphdnppnaaGreatDoor
open Go.RowKit
theorem ja4{P:Prop}(h:P:=by
 have nN:=mC f HN.out.2.1 k;rw[hE]at h3;clear DONE hE;go_wp2_with (with_reducible refine tE 85 ?_)
 refine yM rfl _ _ rfl (w.heap.size+1) 0 16 rfl h3 (by omega) _ Tryz.underlying85 rfl (by kernel_rfl) ?_
 rw[uu nN];go_wp2_with (with_reducible refine zx ?_)
 refine zv rfl _ _ _ rfl rfl w.heap.size (zf (oX f nonce k)) rfl rfl _ _ h0 (by rw[zX,nN];kernel_rfl) (by rw[zX,nN];rfl) (xI _) fun w5 h5 xv=>?_
 have b5:=b3.grown xv b3.size (by rintro q ⟨⟩;omega);clear h3 h0 b3 xv;go_wp2_with fail
 exact zF rfl rfl h5 rfl rfl (by rw[zX,nN];kernel_rfl) rfl ⟨rfl,b5⟩):P:=h
theorem jfR{P:Prop}(h:P:=by have b1:=b0.alloc b0.size (.cells (zf (List.replicate 16 0)) 85);exact b1):P:=h
theorem UL {cg:Nat}{L S key b:List UInt8}(hL:CipS L S key) (om:b.length=16) (w:World) (hC:Blk w cg 126 (zf L)) :
  Calls Tryz.prog 98 #[.pointer (some ⟨cg,0,none⟩),.agg (zf b)] w fun e w'=>e=.returned (.agg (zf (fK S key b 10)))∧Below w.heap.size w w':=by
 have hz:(List.replicate 16 (0:UInt8)).length=16:=rfl;have h0:=Blk.new w 85 (zf b);have b0:=zo w (.cells (zf b) 85);have h1:=Blk.new (w.alloc (.cells (zf b) 85)) 85 (zf (List.replicate 16 0));have b1:=jfR;have h2:=Blk.new ((w.alloc (.cells (zf b) 85)).alloc (.cells (zf (List.replicate 16 0)) 85)) 123 (zf (List.replicate 16 0));have b2:=b1.alloc b1.size (.cells (zf (List.replicate 16 0)) 123);have h0a:=h0.alloc (.cells (zf (List.replicate 16 0)) 85);replace h1:=h1.alloc (.cells (zf (List.replicate 16 0)) 123);have pZ:=hC.below b2;have HG:=Hh hC.lt;have HL:=Hh (And.intro hL om)
 simp only[zr]at h1 h2
 clear h0 b0 b1 hC hL;go_enter Tryz.func98,Tryz.ntmps98
 go_wp2_with (with_reducible refine tE 85 ?_)
 refine yM rfl _ _ rfl w.heap.size 0 16 rfl h0a (by omega) _ Tryz.underlying85 rfl (by kernel_rfl) ?_
 rw[uu om];clear h0a;go_wp2_with (with_reducible refine zx ?_)
 refine zv rfl _ _ _ rfl rfl (w.heap.size+1+1) (zf b) rfl rfl _ _ h2 (by rw[zX,om];kernel_rfl) (by rw[zX,om];rfl) (xI _) fun w3 h3 ph=>?_
 replace h1:=h1.gr ph (by omega);replace pZ:=pZ.grown ph (by intro e;injection e with e;have:=HG.out;omega);have b3:=b2.grown ph b2.size (by rintro q ⟨⟩;omega);clear h2 b2 ph om;have EN:=Hh (ZX HL.out.1 HL.out.2 (by have:=HG.out;omega) w3.drew h3.drew pZ.drew);go_upto_region 2 with fail
 refine zw 7 (fun _=>True) (by kernel_rfl) (trivial) (fun zy=>?_)
 refine TkS 0 rfl zy ?_
 refine TkS 1 rfl zy ?_
 refine TkS 2 rfl zy ?_
 refine TkS 3 rfl zy ?_
 refine TkS 4 rfl zy ?_
 refine TkS 5 rfl zy ?_
 refine To 6 rfl fun K hK=>?_
 go_simp
 refine EN.out.mono ?_
 rintro e w4 ⟨⟨v4,rfl⟩,h4,oE⟩
 replace h1:=h1.drew.gr oE (by omega);have b4:=b3.drew.grown oE b3.size (by rintro q ⟨⟩;omega);clear h3 pZ b3 oE EN
 refine Ko hK ?_ fun zy=>?_
 ·trivial
 clear hK K
 refine Wd ?_
 clear zy;have el:=eU S key b 10;go_wp2_with (with_reducible refine tE 123 ?_)
 refine yM rfl _ _ rfl (w.heap.size+1+1) 0 16 rfl h4 (by omega) _ Tryz.underlying123 rfl (by kernel_rfl) ?_
 rw[uu el];go_wp2_with (with_reducible refine zx ?_)
 refine zv rfl _ _ _ rfl rfl (w.heap.size+1) (zf (fK S key b 10)) rfl rfl _ _ h1 (by rw[zX,el];kernel_rfl) (by rw[zX,el];rfl) (xI _) fun w5 h5 xv=>?_
 have b5:=b4.grown xv b4.size (by rintro q ⟨⟩;omega);clear h4 h1 b4 xv;go_wp2_with fail
 exact zF rfl rfl h5 rfl rfl (by rw[zX,el];kernel_rfl) rfl ⟨rfl,b5⟩
theorem Qc {cg:Nat}{key b:List UInt8}(hk:key.length=16) (om:b.length=16) (w:World) (hC:Blk w cg 126 (zf (fJ key))) :
  Calls Tryz.prog 98 #[.pointer (some ⟨cg,0,none⟩),.agg (zf b)] w fun e w'=>e=.returned (.agg (zf (iU key b)))∧Below w.heap.size w w':=UL (zAV hk) om w hC
theorem Kv {P:Program}{ops:Array Oper}{Q:Exit→Act→World→Prop}{rest:List Oper}{a:Act}{w:World}{dst:Option Tmp}{ty:TypeId}{ps:Array (Nat×Operand)}{T:TypeId}{pos:String}{af:Array Edge}{g:Option (Nat×Bool)}
  (h:zC (wpList P ops Q (⟨dst,.build ty ps,T,pos,af,g⟩::rest) a w)):wpList P ops Q (⟨dst,.build ty ps,T,pos,af,g⟩::rest) a w:=h
theorem Za:Tryz.prog.built 126 [(0,.agg (zf (sS 256)))]=some (zf (sS 256++List.replicate 176 0)):=by kernel_rfl
theorem Vi {key:List UInt8}(hk:key.length=16):spl (sS 256++List.replicate 176 0) 512 (vh (sS 256++List.replicate 176 0) key 160)=fJ key:=by
 rw[NL,fJ,spl,List.take_left' (vy _),List.drop_of_length_le (by rw[List.length_append,vy,List.length_replicate,tK _ _ hk];omega),List.append_nil]
theorem TP {A:Option Addr}{c:Nat}{key:List UInt8}(hk:key.length=16) (w:World) (hK:Src w A (key.map zm)) :
  Calls Tryz.prog 55 #[.slice A 16 c] w fun e w'=>∃ N,e=.returned (.pointer (some ⟨N,0,none⟩))∧w.heap.size≤N∧Blk w' N 126 (zf (fJ key))∧Below w.heap.size w w':=by
 have SU:=Hh (ft w);have HK:=Hh hK;have HL:=Hh hk;have BC:=Hh Za;have SC:=Hh (Vi hk);have UF:(sS 256++List.replicate 176 0).length=688:=by rw[List.length_append,vy,List.length_replicate]
 obtain⟨B,hBe⟩:∃ B,sS 256=B:=⟨_,rfl⟩
 rw[hBe]at SU BC SC UF;obtain⟨L,MW⟩:∃ L,B++List.replicate 176 0=L:=⟨_,rfl⟩
 rw[MW]at BC SC UF;have pH:=Hh UF;clear hK hk hBe MW UF;go_enter Tryz.func55,Tryz.ntmps55
 go_wp2_with fail
 refine SU.out.mono ?_
 rintro e w1 ⟨rfl,zB⟩
 clear SU;go_wp2_with (with_reducible refine Kv ?_)
 refine wpList_buildTo rfl _ _ rfl _ rfl (zf L) (by have h:=BC.out;simp only[List.map_toArray,List.map_cons,List.map_nil,List.toList_toArray];exact h) ?_
 have hC:=Blk.new w1 126 (zf L);have zG:=zB.alloc zB.size (.cells (zf L) 126);obtain⟨N,hN⟩:∃ N,w1.heap.size=N:=⟨_,rfl⟩
 have HN:Hid (w.heap.size≤N):=by have:=zB.size;rw[Hid];omega
 obtain⟨w2,pj⟩:∃ w2,w1.alloc (.cells (zf L) 126)=w2:=⟨_,rfl⟩
 rw[hN,pj]at hC;rw[pj]at zG;have HW:=Hh (And.intro pj hN);have SD:=Hh (ZY (by have:=pH.out;omega) HL.out w2 hC (HK.out.below zG) (c:=c));clear hN pj zB BC;go_upto_region 2 with fail
 try rw[HW.out.1]
 try rw[HW.out.2]
 go_wp2_with fail
 refine SD.out.mono ?_
 rintro e w3 ⟨rfl,xj⟩
 have dL:=hC.below xj;have uR:=zG.trans (xj.mono zG.size);have kl:=tK L key HL.out 160;clear hC zG xj SD;go_wp2_with (with_reducible refine zx ?_)
 refine rz rfl _ _ _ rfl rfl N 512 (vh L key 160) rfl rfl dL (by rw[kl];kernel_rfl) (by rw[pH.out];omega) fun w5 Lw xv=>?_
 rw[SC.out]at Lw;have xS:=uR.grown xv uR.size (by rintro q ⟨⟩;exact HN.out);clear dL uR xv kl;go_wp2_with fail
 go_ret
 exact⟨N,rfl,HN.out,Lw,xS⟩
theorem Ks (f:UInt8) (nonce:List UInt8) (k:Nat) (h:nonce.length≤15):spl (f::List.replicate 15 0) 1 nonce=jq f nonce k 0:=by
 rw[spl,jq,show List.take 1 (f::List.replicate 15 0)=[f] from rfl,show 1+nonce.length=nonce.length+1 by omega,List.drop_succ_cons,List.drop_replicate]
 simp[iT]
theorem Vv (m:Nat):zm (UInt8.ofNat (m%256))=.int .u8 (IntKind.u8.wrap (m:Int)):=by
 rw[zm,IntKind.wrap_u8,UInt8.toNat_ofNat'];congr 1
 omega
theorem iA (f:UInt8) {A:Option Addr}{n c:Nat}{nonce:List UInt8}(hn:n=nonce.length) (hl:nonce.length≤13) (k:Nat) (hk:k<4611686018427387904) (w:World) (hs:Src w A (nonce.map zm)) :
  Calls Tryz.prog 99 #[zm f,.slice A n c,.int .i64 (k:Int)] w fun e w'=>e=.returned (.agg (zf (oX f nonce k)))∧Below w.heap.size w w':=by
 have h0:=(Blk.new w 85 (zf (List.replicate 16 0))).alloc (.cells (zf (List.replicate 16 0)) 85);have h1:=Blk.new (w.alloc (.cells (zf (List.replicate 16 0)) 85)) 85 (zf (List.replicate 16 0));have b0:=zo w (.cells (zf (List.replicate 16 0)) 85);have b1:=jfR;rw[zr]at h1;have HN:=Hh (And.intro hn (And.intro hl hk));have HS:=Hh hs;clear b0 hn hl hk hs;go_enter Tryz.func99,Tryz.ntmps99
 go_wp2_with (with_reducible refine zx ?_)
 refine zv rfl _ _ _ rfl rfl (w.heap.size+1) (zf (f::List.replicate 15 0)) rfl rfl _ _ h1 (by kernel_rfl) rfl (xI _) fun w2 h2 sv=>?_
 replace h0:=h0.gr sv (by omega);have b2:=b1.grown sv b1.size (by rintro q ⟨⟩;omega);clear h1 b1 sv;go_wp2_with (with_reducible refine Tu ?_)
 refine oI rfl (.tmp 11) (.tmp 12) rfl (w.heap.size+1) 1 15 15 rfl A n c nonce rfl HN.out.1 (HS.out.below b2) (by have:=HN.out;omega) h2 (by have:=HN.out;simp;omega) fun w3 h3 ph=>?_
 rw[Ks f nonce k (by have:=HN.out;omega)]at h3;replace h0:=h0.gr ph (by omega);have b3:=b2.grown ph b2.size (by rintro q ⟨⟩;omega);clear h2 b2 ph;go_wp2_with fail
 go_loopw [2,8] (fun v2 v8 wr=>∃ j i m:Nat,v8=.int .i64 (i:Int)∧v2=.int .i64 (m:Int)∧Hid (i+j=15∧nonce.length+j≤15∧m=k/256 ^ j)∧Blk wr (w.heap.size+1) 85 (zf (jq f nonce k j))∧Blk wr w.heap.size 85 (zf (List.replicate 16 0))∧Below w.heap.size w wr) (fun _ v8 _=>(intOf v8).toNat)
 case atStart=>exact⟨0,15,k,rfl,rfl,⟨rfl,by have:=HN.out;omega,by simp⟩,h3,h0,b3⟩
 case round =>
 clear h0 h3 b3;obtain⟨j,i,m,rfl,rfl,HJ,h3,h0,b3⟩:=hrel
 have DONE:Hid (∀ a,¬ ((n:Int)<(i:Int)∧(0:Int)<(m:Int))→jq f nonce k j=a→a=oX f nonce k):=by
  rintro a hc rfl
  have hJ:=HJ.out;have hN:=HN.out
  by_cases h1:(n:Int)<(i:Int)
  ·exact Qx f (by omega) (by rw[← hJ.2.2];omega)
  exact Qy f (by omega)
 by_cases h1:(n:Int)<(i:Int)
 ·by_cases h2:(0:Int)<(m:Int)
  ·have l16:(i:Int)<16:=by have:=HJ.out;omega
   have W1:IntKind.i64.wrap ((i:Int)-1)=((i-1:Nat):Int):=by rw[show((i-1:Nat):Int)=(i:Int)-1 by omega];exact IntWalk.i64_in _ (by omega)
   obtain⟨i1,oF⟩:∃ x,i-1=x:=⟨_,rfl⟩
   rw[oF]at W1;have hq:(m:Int)/256=((m/256:Nat):Int):=by omega
   obtain⟨m1,qu⟩:∃ x,m/256=x:=⟨_,rfl⟩
   rw[qu]at hq;have S1:=Hh (NE f (nonce:=nonce) (n:=k) (j:=j) (by have:=HJ.out;have:=HN.out;omega));rw[← HJ.out.2.2,show 15-j=i by have:=HJ.out;omega]at S1;have U:=Hh (Vv m);have HM:=Hh (And.intro oF qu);clear oF qu DONE;go_wp2_with (with_reducible refine zx ?_)
   refine zj rfl _ _ _ rfl rfl (w.heap.size+1) i (zm (UInt8.ofNat (m%256))) rfl (by rw[U.out];rfl) _ _ h3 wD (by rw[zX,ND f (by have:=HJ.out;omega)];omega) rfl fun w5 h5 xv=>?_
   rw[ut,S1.out]at h5;have h6:=h0.gr xv (by omega);have b5:=b3.grown xv b3.size (by rintro q ⟨⟩;omega);clear h3 h0 b3 xv S1 U;go_wp2_with fail
   go_roundw
   case rel=>exact⟨j+1,i1,m1,rfl,rfl,⟨by have:=HJ.out;have:=HM.out;omega,by have:=HJ.out;have:=HN.out;omega,by rw[← HM.out.2,HJ.out.2.2,Nat.div_div_eq_div_mul,Nat.pow_succ]⟩,h5,h6,b5⟩
   case measure=>have:=HM.out;simp[intOf];omega
  have hE:=DONE.out _ (fun h=>h2 h.2) rfl;exact ja4
 have hE:=DONE.out _ (fun h=>h1 h.1) rfl;exact ja4
def qA (E:List UInt8→List UInt8) (b x:List UInt8):Nat→List UInt8
 | 0=>x
 | j+1=>E (rs (qA E b x j) ((b.drop (16*j)).take 16))
theorem Js (key b x:List UInt8) (j:Nat):qA (iU key) b x j=Yp key b x j:=by
 induction j with
 | zero=>rfl
 | succ j ih=>rw[qA,Yp,ih]
theorem az {E:List UInt8→List UInt8}(hE:∀ x,(E x).length=16) (b:List UInt8) {x:List UInt8}(h:x.length=16) (j:Nat):(qA E b x j).length=16:=by
 cases j with
 | zero=>exact h
 | succ j=>exact hE _
theorem OA (x r:List UInt8) (hx:x.length=16):te 16 (fun i=>at_ x i ^^^ at_ r i) x (min r.length 16)=rs x (r.take 16):=by
 apply List.map_congr_left
 intro i hi
 have Lv:i<16:=by simpa using hi
 show(if i<min r.length 16 then at_ x i ^^^ at_ r i else at_ x i)=at_ x i ^^^ at_ (r.take 16) i
 by_cases h:i<r.length
 ·rw[if_pos (by omega)];congr 1
  rw[at_,at_,List.getD_eq_getElem?_getD,List.getD_eq_getElem?_getD,List.getElem?_take_of_lt Lv]
 rw[if_neg (by omega),show at_ (r.take 16) i=0 by rw[at_,List.getD_eq_getElem?_getD,List.getElem?_eq_none (by rw[List.length_take];omega)];rfl,UInt8.xor_zero]
def lL (E:List UInt8→List UInt8) (cg:Nat) (L:List UInt8):Prop:=∀ (x:List UInt8) (w:World),x.length=16→Blk w cg 126 (zf L)→
 Calls Tryz.prog 98 #[.pointer (some ⟨cg,0,none⟩),.agg (zf x)] w fun e w'=>e=.returned (.agg (zf (E x)))∧Below w.heap.size w w'
theorem aj {key:List UInt8}(hk:key.length=16) (cg:Nat):lL (iU key) cg (fJ key):=fun x w hx hC=>Qc hk hx w hC
theorem Bd {w w':World}{g:Nat}(hg:w.grownBy w' (some g)) {p:Addr}{v:Value}(hp:p.block≠g) (hc:w.cell? p=some v):w'.cell? p=some v :=
 (World.cell?_of_block (hg.block p.block (World.block_lt_of_cell? w _ hc) (fun e=>hp (by injection e)))).trans hc
theorem Qs (cg:Nat) (w:World):Calls Tryz.prog 100 #[.pointer (some ⟨cg,0,none⟩)] w fun e w' =>
  e=.returned (.func (.func 126) #[] #[.pointer (some ⟨w.heap.size+1,0,none⟩),.pointer (some ⟨w.heap.size,0,none⟩)])∧Blk w' w.heap.size 83 #[.pointer (some ⟨cg,0,none⟩)]∧Blk w' (w.heap.size+1) 85 (zf (List.replicate 16 0))∧Below w.heap.size w w':=by
 have h0:=(Blk.new w 83 #[.pointer (some ⟨cg,0,none⟩)]).alloc (.cells (zf (List.replicate 16 0)) 85);have h1:=Blk.new (w.alloc (.cells #[.pointer (some ⟨cg,0,none⟩)] 83)) 85 (zf (List.replicate 16 0));have b0:=zo w (.cells #[.pointer (some ⟨cg,0,none⟩)] 83);have b1:=jfR;rw[zr]at h1;clear b0;go_enter Tryz.func100,Tryz.ntmps100
 go_wp2_with fail
 go_ret
 exact⟨rfl,h0,h1,b1⟩
theorem eQ {E:List UInt8→List UInt8}(hE_:∀ x,(E x).length=16) {cg CB X:Nat}{L:List UInt8}(hBS:lL E cg L) {A:Option Addr}{n c:Nat}{b:List UInt8}(hn:n=b.length) (hc:n≤c) (hl:b.length≤1099511627776) (hAX:b≠[]→∀ a,A=some a→a.block≠X) (hXC:X≠cg) (hXB:X≠CB)
  (w:World) (hs:Src w A (b.map zm)) {x:List UInt8} (hx:x.length=16) (hX:Blk w X 85 (zf x)) (Wu:Blk w CB 83 #[.pointer (some ⟨cg,0,none⟩)]) (hC:Blk w cg 126 (zf L)) :
  Calls Tryz.prog 126 #[.slice A n c,.pointer (some ⟨X,0,none⟩),.pointer (some ⟨CB,0,none⟩)] w fun e w' =>
   e=.returned (.agg (zf (qA E b x ((b.length+15)/16))))∧Blk w' X 85 (zf (qA E b x ((b.length+15)/16)))∧w.grownBy w' (some X):=by
 have h0:=Blk.new w 85 (zf (List.replicate 16 0));have gm:w.grownBy (w.alloc (.cells (zf (List.replicate 16 0)) 85)) (some X):=xZ (ym w _) _;have nL:=hX.alloc (.cells (zf (List.replicate 16 0)) 85);have HN:=Hh (And.intro hn (And.intro hc hl));have HA:=Hh (And.intro hAX (And.intro hXC hXB));have HX:=Hh (And.intro hx (And.intro hX.lt (And.intro Wu.lt hC.lt)));have HS:=Hh (And.intro hs (And.intro Wu hC));clear hn hc hl hAX hXC hXB hs hx hX Wu hC;go_enter Tryz.func126,Tryz.ntmps126
 go_wp2_with fail
 go_loopw [0] (fun v0 wr=>∃ (j:Nat) (A':Option Addr) (m c':Nat) (r:List UInt8),v0=.slice A' m c'∧Hid (m=r.length∧m≤c'∧r=b.drop (16*j)∧16*j≤b.length+15)∧Hid (r≠[]→∀ a,A'=some a→a.block≠X)∧Hid (Src w A' (r.map zm))∧
  Blk wr X 85 (zf (qA E b x j))∧Blk wr w.heap.size 85 (zf (List.replicate 16 0))∧w.grownBy wr (some X)) (fun v0 _=>match v0 with | .slice _ m _=>m | _=>0)
 case atStart=>exact⟨0,A,n,c,b,rfl,⟨HN.out.1,HN.out.2.1,rfl,by omega⟩,HA.out.1,HS.out.1,nL,h0,gm⟩
 case round =>
 clear nL h0 gm;obtain⟨j,A',m,c',r,rfl,HJ,HA',HSr,hX,h0,hg⟩:=hrel
 by_cases hm:0<m
 ·have mw:(0:Int)<(m:Int):=by omega
  obtain⟨bb,oo,rfl,UH⟩:∃ bb oo,A'=some ⟨bb,oo,none⟩∧∀ i v,(r.map zm)[i]? = some v→w.cell? ⟨bb,oo+i,none⟩=some v:=by
   exact HSr.out (by intro e;rw[List.map_eq_nil_iff]at e;have:=HJ.out.1;rw[e]at this;simp at this;omega)
  obtain⟨k,hk⟩:∃ k,min m 16=k:=⟨_,rfl⟩
  have Ck:min (m:Int) 16=(k:Int):=by omega
  have lA:(k:Int)≤(m:Int):=by omega
  have ZQ:(k:Int)≤(c':Int):=by have:=HJ.out;omega
  have HK:=Hh hk;clear hk;go_upto_region 3 with fail
  go_cut [19,20,21] (fun s19 s20 s21 wx=>s19=.slice (some ⟨bb,oo,none⟩) k c'∧s20=.int .i64 (k:Int)∧s21=.int .i64 0∧Blk wx X 85 (zf (qA E b x j))∧Blk wx w.heap.size 85 (zf (List.replicate 16 0))∧w.grownBy wx (some X))
  case first =>
   go_wp2_with fail
   all_goals go_meet
   all_goals first | exact⟨rfl,rfl,rfl,hX,h0,hg⟩ | (obtain rfl:k=16:=(by have:=HK.out;omega);exact⟨rfl,rfl,rfl,hX,h0,hg⟩) | (obtain rfl:k=m:=(by have:=HK.out;omega);exact⟨rfl,rfl,rfl,hX,h0,hg⟩)
  case rest =>
  clear hX h0 hg Ck;obtain⟨rfl,rfl,rfl,hX,h0,hg⟩:=hcut;obtain⟨y,hy⟩:∃ y,qA E b x j=y:=⟨_,rfl⟩
  have yl:y.length=16:=by rw[← hy];exact az hE_ b HX.out.1 j
  have HF:Hid (qA E b x (j+1)=E (rs y (r.take 16))):=by rw[Hid,qA,hy,HJ.out.2.2.1]
  rw[hy]at hX;rw[← qT (fun i=>at_ y i ^^^ at_ r i) yl]at hX;have HY:=Hh yl;clear hy yl;go_wp2_with fail
  go_loopw [21] (fun v21 wx=>∃ i:Nat,v21=.int .i64 (i:Int)∧i≤k∧Blk wx X 85 (zf (te 16 (fun i=>at_ y i ^^^ at_ r i) y i))∧Blk wx w.heap.size 85 (zf (List.replicate 16 0))∧w.grownBy wx (some X)) (fun v21 _=>(k-intOf v21).toNat)
  case atStart=>exact⟨0,rfl,by omega,hX,h0,hg⟩
  case round =>
  clear hX h0 hg;obtain⟨i,rfl,hi,hX,h0,hg⟩:=hrel
  by_cases hik:(i:Int)<(k:Int)
  ·have Dw:i<r.length:=by have:=HJ.out;omega
   have li:(i:Int)<16:=by have:=HK.out;omega
   obtain⟨u,hu⟩:∃ u,at_ y i=u:=⟨_,rfl⟩
   obtain⟨v,hv⟩:∃ v,at_ r i=v:=⟨_,rfl⟩
   have c0w:w.cell? ⟨bb,oo+i,none⟩=some (zm v):=UH i _ (by rw[List.getElem?_map,List.getElem?_eq_getElem Dw,Option.map_some,← aA Dw,hv]);have hbX:bb≠X:=HA'.out (by intro e;rw[e]at Dw;simp at Dw) _ rfl;have c0:wr.cell? ⟨bb,oo+i,none⟩=some (zm v):=Bd hg hbX c0w;have c1:=hX.cell i (xf _ _ (by rw[tN];omega));rw[fg _ _ (by omega),hu]at c1;have X1:=Hh (wE u v);have S1:=Hh (qS (n:=16) (i:=i) (fun i=>at_ y i ^^^ at_ r i) y (by omega))
   simp only[hu,hv]at S1
   clear hu hv c0w Dw;go_wp2_with (with_reducible refine zx ?_)
   refine zj rfl _ _ _ rfl rfl X i (zm (u ^^^ v)) rfl (by show Value.int .u8 (bits .xor .u8 (u.toNat:Int) (v.toNat:Int))=_;rw[X1.out]) _ _ hX wD (by rw[zX,tN];omega) rfl fun w9 im xR=>?_
   rw[ut,S1.out]at im;have h9:=h0.grown xR (by intro e;injection e with e;have:=HX.out;omega);have xW:=zK hg xR (.inl rfl);clear xR c0 c1 hX h0 hg S1 X1;go_wp2_with fail
   go_roundw
   case rel=>exact⟨i+1,by go_num,by omega,im,h9,xW⟩
   case measure=>simp[intOf];omega
  obtain rfl:i=k:=by omega
  have hE:te 16 (fun i=>at_ y i ^^^ at_ r i) y i=rs y (r.take 16):=by
   rw[← HK.out,HJ.out.1];exact OA y r HY.out
  rw[hE]at hX;obtain⟨z,hz⟩:∃ z,rs y (r.take 16)=z:=⟨_,rfl⟩
  have zl:z.length=16:=by rw[← hz];exact ri _ _
  rw[hz]at hX HF;have Wu:=HS.out.2.1.grown hg (by intro e;injection e with e;exact HA.out.2.2 e);have hC:=HS.out.2.2.grown hg (by intro e;injection e with e;exact HA.out.2.1 e);have c0:=Wu.cell 0 rfl;have BL:=Hh (hBS z _ zl hC);have el:=hE_ z;clear hE hz Wu hik hi;go_wp2_with (with_reducible refine tE 85 ?_)
  refine yM rfl _ _ rfl X 0 16 rfl hX (by omega) _ Tryz.underlying85 rfl (by kernel_rfl) ?_
  rw[uu zl];go_wp2_with fail
  refine BL.out.mono ?_
  rintro e w5 ⟨rfl,xS⟩
  have JQ:=hX.below xS;have h5:=h0.below xS;have xv:=wd hg xS;clear hX h0 hg xS BL hC c0;go_wp2_with (with_reducible refine zx ?_)
  refine zv rfl _ _ _ rfl rfl X (zf (E z)) rfl rfl _ _ JQ (by rw[zX,el];kernel_rfl) (by rw[zX,zX,el,zl]) (xI _) fun w6 lh ws=>?_
  have h6:=h5.grown ws (by intro e;injection e with e;have:=HX.out;omega);have ww:=zK xv ws (.inl rfl);rw[← HF.out]at lh;clear JQ h5 xv ws HF el;have Ck:min (m:Int) 16=(i:Int):=by have:=HK.out;omega
  go_wp2_with fail
  have e:(if(16:Int)<(m:Int) then(16:Int) else(m:Int)).toNat=i:=by have:=HK.out;split <;> omega
  try rw[e]
  have hJ:=HJ.out;have hK:=HK.out
  refine⟨⟨j+1,_,m-i,c'-i,r.drop 16,rfl,⟨by rw[List.length_drop];omega,by omega,by rw[hJ.2.2.1,List.drop_drop,show 16*j+16=16*(j+1) by omega],by rw[hJ.2.2.1,List.length_drop]at hJ;omega⟩, ?_, ?_,lh,h6,ww⟩, ?_⟩
  ·intro vl a ha
   have hrn:r≠[]:=by intro e;rw[e]at vl;exact vl rfl
   split at ha
   ·injection ha with ha;subst ha;exact HA'.out hrn _ rfl
   injection ha with ha;subst ha;exact HA'.out hrn ⟨bb,oo,none⟩ rfl
  ·intro vl
   have zBp:16<r.length:=by
    apply Nat.lt_of_not_le
    intro h
    rw[List.drop_of_length_le h]at vl
    exact vl rfl
   rw[if_neg (by omega),show i=16 by omega]
   refine⟨bb,oo+16,rfl,fun q v hq=>?_⟩
   rw[List.map_drop,List.getElem?_drop]at hq;rw[Nat.add_assoc]
   exact UH _ _ hq
  show m-i<m
  omega
 have aa:m=0:=by omega
 subst aa
 have hE:qA E b x j=qA E b x ((b.length+15)/16):=by
  have hJ:=HJ.out;have:(b.drop (16*j)).length=0:=by rw[← hJ.2.2.1,← hJ.1]
  rw[List.length_drop]at this;rw[show(b.length+15)/16=j by omega]
 rw[hE]at hX;have el:=az hE_ b HX.out.1 ((b.length+15)/16);obtain⟨z,hz⟩:∃ z,qA E b x ((b.length+15)/16)=z:=⟨_,rfl⟩
 rw[hz]at hX el;have HZ:=Hh hz;clear hE hz;go_wp2_with (with_reducible refine tE 85 ?_)
 refine yM rfl _ _ rfl X 0 16 rfl hX (by omega) _ Tryz.underlying85 rfl (by kernel_rfl) ?_
 rw[uu el];go_wp2_with (with_reducible refine zx ?_)
 refine zv rfl _ _ _ rfl rfl w.heap.size (zf z) rfl rfl _ _ h0 (by rw[zX,el];kernel_rfl) (by rw[zX,el];rfl) (xI _) fun w6 h6 ws=>?_
 have lh:=hX.grown ws (by intro e;injection e with e;have:=HX.out;omega);have ww:=zK hg ws (.inr ⟨_,rfl,Nat.le_refl _⟩);clear hX h0 hg ws;go_wp2_with fail
 exact zF rfl rfl h6 rfl rfl (by rw[zX,el];kernel_rfl) rfl ⟨by rw[HZ.out],by rw[HZ.out];exact lh,ww⟩
theorem Src.apart {w:World}{A:Option Addr}{b:List UInt8}(h:Src w A (b.map zm)) {X:Nat}(hX:w.heap.size≤X):b≠[]→∀ a,A=some a→a.block≠X:=by
 intro hb a ha e
 obtain⟨g,o,e2,hc⟩:=h (by intro e;rw[List.map_eq_nil_iff]at e;exact hb e);rw[ha]at e2;injection e2 with e2
 subst e2;obtain⟨u,r,rfl⟩:∃ u r,b=u::r:=List.exists_cons_of_ne_nil hb;have:=World.block_lt_of_cell? w _ (hc 0 (zm u) rfl)
 simp only at this e
 omega
end Go.Proofs.YtliomcphdnppnaaGreatDoor
