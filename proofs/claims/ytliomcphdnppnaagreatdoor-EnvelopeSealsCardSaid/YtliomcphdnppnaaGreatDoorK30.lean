/- squeezed. Walks: a cipher is made, and encry -/
import Derived.Test.YtliomcphdnppnaaGreatDoorK29
import Derived.Great.BuildSlice
set_option linter.unusedVariables false
set_option linter.unusedSimpArgs false
set_option maxRecDepth 100000
set_option maxHeartbeats 6400000
namespace Go.Proofs.YtliomcphdnppnaaGreatDoor
open Go.RowKit
theorem bT {cg:Nat}{L S key b:List UInt8}(hL:CipS L S key) (uD:b.length=16) (w:World) (hC:Blk w cg 126 (zr L)) :
  Calls Tryz.prog 98 #[.pointer (some ⟨cg,0,none⟩),.agg (zr b)] w fun e w'=>e=.returned (.agg (zr (rg S key b 10)))∧Below w.heap.size w w':=by
 have hz:(List.replicate 16 (0:UInt8)).length=16:=rfl;have h0:=Blk.new w 85 (zr b);have b0:=zq w (.cells (zr b) 85);have h1:=Blk.new (w.alloc (.cells (zr b) 85)) 85 (zr (List.replicate 16 0));have b1:=b0.alloc b0.size (.cells (zr (List.replicate 16 0)) 85);have h2:=Blk.new ((w.alloc (.cells (zr b) 85)).alloc (.cells (zr (List.replicate 16 0)) 85)) 123 (zr (List.replicate 16 0));have b2:=b1.alloc b1.size (.cells (zr (List.replicate 16 0)) 123);have Gt:=h0.alloc (.cells (zr (List.replicate 16 0)) 85);replace h1:=h1.alloc (.cells (zr (List.replicate 16 0)) 123);have sN:=hC.below b2;have HG:=Hh hC.lt;have HL:=Hh (And.intro hL uD)
 simp only[zu]at h1 h2
 clear h0 b0 b1 hC hL;go_enter Tryz.func98,Tryz.ntmps98
 go_wp2_with (with_reducible refine wU 85 ?_)
 refine zN rfl _ _ rfl w.heap.size 0 16 rfl Gt (by omega) _ Tryz.underlying85 rfl (by kernel_rfl) ?_
 rw[xm uD];clear Gt;go_wp2_with (with_reducible refine zx ?_)
 refine zt rfl _ _ _ rfl rfl (w.heap.size+1+1) (zr b) rfl rfl _ _ h2 (by rw[zo,uD];kernel_rfl) (by rw[zo,uD];rfl) (ym _) fun w3 h3 nd=>?_
 replace h1:=h1.gr nd (by omega);replace sN:=sN.grown nd (by intro e;injection e with e;have:=HG.out;omega);have b3:=b2.grown nd b2.size (by rintro q ⟨⟩;omega);clear h2 b2 nd uD;have EN:=Hh (fv HL.out.1 HL.out.2 (by have:=HG.out;omega) w3.drew h3.drew sN.drew);go_upto_region 2 with fail
 refine zw 7 (fun _=>True) (by kernel_rfl) (trivial) (fun zy=>?_)
 refine TkS 0 rfl zy ?_
 refine TkS 1 rfl zy ?_
 refine TkS 2 rfl zy ?_
 refine TkS 3 rfl zy ?_
 refine TkS 4 rfl zy ?_
 refine TkS 5 rfl zy ?_
 refine To 6 rfl fun K hK=>?_
 go_simp
 refine EN.out.mono ?_
 rintro e w4 ⟨⟨v4,rfl⟩,h4,og⟩
 replace h1:=h1.drew.gr og (by omega);have b4:=b3.drew.grown og b3.size (by rintro q ⟨⟩;omega);clear h3 sN b3 og EN
 refine Ko hK ?_ fun zy=>?_
 ·trivial
 clear hK K
 refine Wd ?_
 clear zy;have el:=pm S key b 10;go_wp2_with (with_reducible refine wU 123 ?_)
 refine zN rfl _ _ rfl (w.heap.size+1+1) 0 16 rfl h4 (by omega) _ Tryz.underlying123 rfl (by kernel_rfl) ?_
 rw[xm el];go_wp2_with (with_reducible refine zx ?_)
 refine zt rfl _ _ _ rfl rfl (w.heap.size+1) (zr (rg S key b 10)) rfl rfl _ _ h1 (by rw[zo,el];kernel_rfl) (by rw[zo,el];rfl) (ym _) fun w5 h5 yF=>?_
 have b5:=b4.grown yF b4.size (by rintro q ⟨⟩;omega);clear h4 h1 b4 yF;go_wp2_with fail
 exact zR rfl rfl h5 rfl rfl (by rw[zo,el];kernel_rfl) rfl ⟨rfl,b5⟩
theorem Z0 {cg:Nat}{key b:List UInt8}(hk:key.length=16) (uD:b.length=16) (w:World) (hC:Blk w cg 126 (zr (lS key))) :
  Calls Tryz.prog 98 #[.pointer (some ⟨cg,0,none⟩),.agg (zr b)] w fun e w'=>e=.returned (.agg (zr (qz key b)))∧Below w.heap.size w w':=bT (J5 hk) uD w hC
theorem Ue {P:Program}{ops:Array Oper}{Q:Exit→Act→World→Prop}{rest:List Oper}{a:Act}{w:World}{dst:Option Tmp}{ty:TypeId}{ps:Array (Nat×Operand)}{T:TypeId}{pos:String}{af:Array Edge}{g:Option (Nat×Bool)}
  (h:yy (wpList P ops Q (⟨dst,.build ty ps,T,pos,af,g⟩::rest) a w)):wpList P ops Q (⟨dst,.build ty ps,T,pos,af,g⟩::rest) a w:=h
theorem fx:Tryz.prog.built 126 [(0,.agg (zr (uO 256)))]=some (zr (uO 256++List.replicate 176 0)):=by kernel_rfl
theorem ck {key:List UInt8}(hk:key.length=16):spl (uO 256++List.replicate 176 0) 512 (yK (uO 256++List.replicate 176 0) key 160)=lS key:=by
 rw[Wt,lS,spl,List.take_left' (ww _),List.drop_of_length_le (by rw[List.length_append,ww,List.length_replicate,wT _ _ hk];omega),List.append_nil]
theorem aV {A:Option Addr}{c:Nat}{key:List UInt8}(hk:key.length=16) (w:World) (hK:Src w A (key.map zv)) :
  Calls Tryz.prog 55 #[.slice A 16 c] w fun e w'=>∃ N,e=.returned (.pointer (some ⟨N,0,none⟩))∧w.heap.size≤N∧Blk w' N 126 (zr (lS key))∧Below w.heap.size w w':=by
 have SU:=Hh (mB w);have HK:=Hh hK;have HL:=Hh hk;have BC:=Hh fx;have SC:=Hh (ck hk);have WQ:(uO 256++List.replicate 176 0).length=688:=by rw[List.length_append,ww,List.length_replicate]
 obtain⟨B,Gw⟩:∃ B,uO 256=B:=⟨_,rfl⟩
 rw[Gw]at SU BC SC WQ;obtain⟨L,Hg⟩:∃ L,B++List.replicate 176 0=L:=⟨_,rfl⟩
 rw[Hg]at BC SC WQ;have qG:=Hh WQ;clear hK hk Gw Hg WQ;go_enter Tryz.func55,Tryz.ntmps55
 go_wp2_with fail
 refine SU.out.mono ?_
 rintro e w1 ⟨rfl,zH⟩
 clear SU;go_wp2_with (with_reducible refine Ue ?_)
 refine wpList_buildTo rfl _ _ rfl _ rfl (zr L) (by have h:=BC.out;simp only[List.map_toArray,List.map_cons,List.map_nil,List.toList_toArray];exact h) ?_
 have hC:=Blk.new w1 126 (zr L);have zG:=zH.alloc zH.size (.cells (zr L) 126);obtain⟨N,hN⟩:∃ N,w1.heap.size=N:=⟨_,rfl⟩
 have HN:Hid (w.heap.size≤N):=by have:=zH.size;rw[Hid];omega
 obtain⟨w2,fl⟩:∃ w2,w1.alloc (.cells (zr L) 126)=w2:=⟨_,rfl⟩
 rw[hN,fl]at hC;rw[fl]at zG;have HW:=Hh (And.intro fl hN);have SD:=Hh (fw (by have:=qG.out;omega) HL.out w2 hC (HK.out.below zG) (c:=c));clear hN fl zH BC;go_upto_region 2 with fail
 try rw[HW.out.1]
 try rw[HW.out.2]
 go_wp2_with fail
 refine SD.out.mono ?_
 rintro e w3 ⟨rfl,xn⟩
 have jX:=hC.below xn;have sK:=zG.trans (xn.mono zG.size);have kl:=wT L key HL.out 160;clear hC zG xn SD;go_wp2_with (with_reducible refine zx ?_)
 refine yA rfl _ _ _ rfl rfl N 512 (yK L key 160) rfl rfl jX (by rw[kl];kernel_rfl) (by rw[qG.out];omega) fun w5 VZ yF=>?_
 rw[SC.out]at VZ;have yN:=sK.grown yF sK.size (by rintro q ⟨⟩;exact HN.out);clear jX sK yF kl;go_wp2_with fail
 go_ret
 exact⟨N,rfl,HN.out,VZ,yN⟩
theorem Ub (f:UInt8) (nonce:List UInt8) (k:Nat) (h:nonce.length≤15):spl (f::List.replicate 15 0) 1 nonce=oK f nonce k 0:=by
 rw[spl,oK,show List.take 1 (f::List.replicate 15 0)=[f] from rfl,show 1+nonce.length=nonce.length+1 by omega,List.drop_succ_cons,List.drop_replicate]
 simp[qO]
theorem dB (m:Nat):zv (UInt8.ofNat (m%256))=.int .u8 (IntKind.u8.wrap (m:Int)):=by
 rw[zv,IntKind.wrap_u8,UInt8.toNat_ofNat'];congr 1
 omega
theorem n9 (f:UInt8) {A:Option Addr}{n c:Nat}{nonce:List UInt8}(hn:n=nonce.length) (hl:nonce.length≤13) (k:Nat) (hk:k<4611686018427387904) (w:World) (hs:Src w A (nonce.map zv)) :
  Calls Tryz.prog 99 #[zv f,.slice A n c,.int .i64 (k:Int)] w fun e w'=>e=.returned (.agg (zr (vC f nonce k)))∧Below w.heap.size w w':=by
 have h0:=(Blk.new w 85 (zr (List.replicate 16 0))).alloc (.cells (zr (List.replicate 16 0)) 85);have h1:=Blk.new (w.alloc (.cells (zr (List.replicate 16 0)) 85)) 85 (zr (List.replicate 16 0));have b0:=zq w (.cells (zr (List.replicate 16 0)) 85);have b1:=b0.alloc b0.size (.cells (zr (List.replicate 16 0)) 85);rw[zu]at h1;have HN:=Hh (And.intro hn (And.intro hl hk));have HS:=Hh hs;clear b0 hn hl hk hs;go_enter Tryz.func99,Tryz.ntmps99
 go_wp2_with (with_reducible refine zx ?_)
 refine zt rfl _ _ _ rfl rfl (w.heap.size+1) (zr (f::List.replicate 15 0)) rfl rfl _ _ h1 (by kernel_rfl) rfl (ym _) fun w2 h2 qJ=>?_
 replace h0:=h0.gr qJ (by omega);have b2:=b1.grown qJ b1.size (by rintro q ⟨⟩;omega);clear h1 b1 qJ;go_wp2_with (with_reducible refine ay ?_)
 refine rR rfl (.tmp 11) (.tmp 12) rfl (w.heap.size+1) 1 15 15 rfl A n c nonce rfl HN.out.1 (HS.out.below b2) (by have:=HN.out;omega) h2 (by have:=HN.out;simp;omega) fun w3 h3 nd=>?_
 rw[Ub f nonce k (by have:=HN.out;omega)]at h3;replace h0:=h0.gr nd (by omega);have b3:=b2.grown nd b2.size (by rintro q ⟨⟩;omega);clear h2 b2 nd;go_wp2_with fail
 go_loopw [2,8] (fun v2 v8 wr=>∃ j i m:Nat,v8=.int .i64 (i:Int)∧v2=.int .i64 (m:Int)∧Hid (i+j=15∧nonce.length+j≤15∧m=k/256 ^ j)∧Blk wr (w.heap.size+1) 85 (zr (oK f nonce k j))∧Blk wr w.heap.size 85 (zr (List.replicate 16 0))∧Below w.heap.size w wr) (fun _ v8 _=>(intOf v8).toNat)
 case atStart=>exact⟨0,15,k,rfl,rfl,⟨rfl,by have:=HN.out;omega,by simp⟩,h3,h0,b3⟩
 case round =>
 clear h0 h3 b3;obtain⟨j,i,m,rfl,rfl,HJ,h3,h0,b3⟩:=hrel
 have DONE:Hid (∀ a,¬ ((n:Int)<(i:Int)∧(0:Int)<(m:Int))→oK f nonce k j=a→a=vC f nonce k):=by
  rintro a hc rfl
  have hJ:=HJ.out;have hN:=HN.out
  by_cases h1:(n:Int)<(i:Int)
  ·exact ZF f (by omega) (by rw[← hJ.2.2];omega)
  exact ZG f (by omega)
 by_cases h1:(n:Int)<(i:Int)
 ·by_cases h2:(0:Int)<(m:Int)
  ·have l16:(i:Int)<16:=by have:=HJ.out;omega
   have W1:IntKind.i64.wrap ((i:Int)-1)=((i-1:Nat):Int):=by rw[show((i-1:Nat):Int)=(i:Int)-1 by omega];exact IntWalk.i64_in _ (by omega)
   obtain⟨i1,rN⟩:∃ x,i-1=x:=⟨_,rfl⟩
   rw[rN]at W1;have hq:(m:Int)/256=((m/256:Nat):Int):=by omega
   obtain⟨m1,pJ⟩:∃ x,m/256=x:=⟨_,rfl⟩
   rw[pJ]at hq;have S1:=Hh (Wn f (nonce:=nonce) (n:=k) (j:=j) (by have:=HJ.out;have:=HN.out;omega));rw[← HJ.out.2.2,show 15-j=i by have:=HJ.out;omega]at S1;have U:=Hh (dB m);have HM:=Hh (And.intro rN pJ);clear rN pJ DONE;go_wp2_with (with_reducible refine zx ?_)
   refine zT rfl _ _ _ rfl rfl (w.heap.size+1) i (zv (UInt8.ofNat (m%256))) rfl (by rw[U.out];rfl) _ _ h3 yM (by rw[zo,Wm f (by have:=HJ.out;omega)];omega) rfl fun w5 h5 yF=>?_
   rw[xl,S1.out]at h5;have h6:=h0.gr yF (by omega);have b5:=b3.grown yF b3.size (by rintro q ⟨⟩;omega);clear h3 h0 b3 yF S1 U;go_wp2_with fail
   go_roundw
   case rel=>exact⟨j+1,i1,m1,rfl,rfl,⟨by have:=HJ.out;have:=HM.out;omega,by have:=HJ.out;have:=HN.out;omega,by rw[← HM.out.2,HJ.out.2.2,Nat.div_div_eq_div_mul,Nat.pow_succ]⟩,h5,h6,b5⟩
   case measure=>have:=HM.out;simp[intOf];omega
  have hE:=DONE.out _ (fun h=>h2 h.2) rfl;have sD:=tU f HN.out.2.1 k;rw[hE]at h3;clear DONE hE;go_wp2_with (with_reducible refine wU 85 ?_)
  refine zN rfl _ _ rfl (w.heap.size+1) 0 16 rfl h3 (by omega) _ Tryz.underlying85 rfl (by kernel_rfl) ?_
  rw[xm sD];go_wp2_with (with_reducible refine zx ?_)
  refine zt rfl _ _ _ rfl rfl w.heap.size (zr (vC f nonce k)) rfl rfl _ _ h0 (by rw[zo,sD];kernel_rfl) (by rw[zo,sD];rfl) (ym _) fun w5 h5 yF=>?_
  have b5:=b3.grown yF b3.size (by rintro q ⟨⟩;omega);clear h3 h0 b3 yF;go_wp2_with fail
  exact zR rfl rfl h5 rfl rfl (by rw[zo,sD];kernel_rfl) rfl ⟨rfl,b5⟩
 have hE:=DONE.out _ (fun h=>h1 h.1) rfl;have sD:=tU f HN.out.2.1 k;rw[hE]at h3;clear DONE hE;go_wp2_with (with_reducible refine wU 85 ?_)
 refine zN rfl _ _ rfl (w.heap.size+1) 0 16 rfl h3 (by omega) _ Tryz.underlying85 rfl (by kernel_rfl) ?_
 rw[xm sD];go_wp2_with (with_reducible refine zx ?_)
 refine zt rfl _ _ _ rfl rfl w.heap.size (zr (vC f nonce k)) rfl rfl _ _ h0 (by rw[zo,sD];kernel_rfl) (by rw[zo,sD];rfl) (ym _) fun w5 h5 yF=>?_
 have b5:=b3.grown yF b3.size (by rintro q ⟨⟩;omega);clear h3 h0 b3 yF;go_wp2_with fail
 exact zR rfl rfl h5 rfl rfl (by rw[zo,sD];kernel_rfl) rfl ⟨rfl,b5⟩
def sf (E:List UInt8→List UInt8) (b x:List UInt8):Nat→List UInt8
 | 0=>x
 | j+1=>E (xG (sf E b x j) ((b.drop (16*j)).take 16))
theorem U0 (key b x:List UInt8) (j:Nat):sf (qz key) b x j=vP key b x j:=by
 induction j with
 | zero=>rfl
 | succ j ih=>rw[sf,vP,ih]
theorem iL {E:List UInt8→List UInt8}(hE:∀ x,(E x).length=16) (b:List UInt8) {x:List UInt8}(h:x.length=16) (j:Nat):(sf E b x j).length=16:=by
 cases j with
 | zero=>exact h
 | succ j=>exact hE _
theorem XQ (x r:List UInt8) (hx:x.length=16):wW 16 (fun i=>at_ x i ^^^ at_ r i) x (min r.length 16)=xG x (r.take 16):=by
 apply List.map_congr_left
 intro i hi
 have VX:i<16:=by simpa using hi
 show(if i<min r.length 16 then at_ x i ^^^ at_ r i else at_ x i)=at_ x i ^^^ at_ (r.take 16) i
 by_cases h:i<r.length
 ·rw[if_pos (by omega)];congr 1
  rw[at_,at_,List.getD_eq_getElem?_getD,List.getD_eq_getElem?_getD,List.getElem?_take_of_lt VX]
 rw[if_neg (by omega),show at_ (r.take 16) i=0 by rw[at_,List.getD_eq_getElem?_getD,List.getElem?_eq_none (by rw[List.length_take];omega)];rfl,UInt8.xor_zero]
def pM (E:List UInt8→List UInt8) (cg:Nat) (L:List UInt8):Prop:=∀ (x:List UInt8) (w:World),x.length=16→Blk w cg 126 (zr L)→
 Calls Tryz.prog 98 #[.pointer (some ⟨cg,0,none⟩),.agg (zr x)] w fun e w'=>e=.returned (.agg (zr (E x)))∧Below w.heap.size w w'
theorem iB {key:List UInt8}(hk:key.length=16) (cg:Nat):pM (qz key) cg (lS key):=fun x w hx hC=>Z0 hk hx w hC
theorem NL {w w':World}{g:Nat}(hg:w.grownBy w' (some g)) {p:Addr}{v:Value}(hp:p.block≠g) (hc:w.cell? p=some v):w'.cell? p=some v :=
 (World.cell?_of_block (hg.block p.block (World.block_lt_of_cell? w _ hc) (fun e=>hp (by injection e)))).trans hc
theorem ZD (cg:Nat) (w:World):Calls Tryz.prog 100 #[.pointer (some ⟨cg,0,none⟩)] w fun e w' =>
  e=.returned (.func (.func 126) #[] #[.pointer (some ⟨w.heap.size+1,0,none⟩),.pointer (some ⟨w.heap.size,0,none⟩)])∧Blk w' w.heap.size 83 #[.pointer (some ⟨cg,0,none⟩)]∧Blk w' (w.heap.size+1) 85 (zr (List.replicate 16 0))∧Below w.heap.size w w':=by
 have h0:=(Blk.new w 83 #[.pointer (some ⟨cg,0,none⟩)]).alloc (.cells (zr (List.replicate 16 0)) 85);have h1:=Blk.new (w.alloc (.cells #[.pointer (some ⟨cg,0,none⟩)] 83)) 85 (zr (List.replicate 16 0));have b0:=zq w (.cells #[.pointer (some ⟨cg,0,none⟩)] 83);have b1:=b0.alloc b0.size (.cells (zr (List.replicate 16 0)) 85);rw[zu]at h1;clear b0;go_enter Tryz.func100,Tryz.ntmps100
 go_wp2_with fail
 go_ret
 exact⟨rfl,h0,h1,b1⟩
theorem kj {E:List UInt8→List UInt8}(hE_:∀ x,(E x).length=16) {cg CB X:Nat}{L:List UInt8}(hBS:pM E cg L) {A:Option Addr}{n c:Nat}{b:List UInt8}(hn:n=b.length) (hc:n≤c) (hl:b.length≤1099511627776) (hAX:b≠[]→∀ a,A=some a→a.block≠X) (hXC:X≠cg) (hXB:X≠CB)
  (w:World) (hs:Src w A (b.map zv)) {x:List UInt8} (hx:x.length=16) (hX:Blk w X 85 (zr x)) (df:Blk w CB 83 #[.pointer (some ⟨cg,0,none⟩)]) (hC:Blk w cg 126 (zr L)) :
  Calls Tryz.prog 126 #[.slice A n c,.pointer (some ⟨X,0,none⟩),.pointer (some ⟨CB,0,none⟩)] w fun e w' =>
   e=.returned (.agg (zr (sf E b x ((b.length+15)/16))))∧Blk w' X 85 (zr (sf E b x ((b.length+15)/16)))∧w.grownBy w' (some X):=by
 have h0:=Blk.new w 85 (zr (List.replicate 16 0));have mv:w.grownBy (w.alloc (.cells (zr (List.replicate 16 0)) 85)) (some X):=yL (yz w _) _;have PT:=hX.alloc (.cells (zr (List.replicate 16 0)) 85);have HN:=Hh (And.intro hn (And.intro hc hl));have HA:=Hh (And.intro hAX (And.intro hXC hXB));have HX:=Hh (And.intro hx (And.intro hX.lt (And.intro df.lt hC.lt)));have HS:=Hh (And.intro hs (And.intro df hC));clear hn hc hl hAX hXC hXB hs hx hX df hC;go_enter Tryz.func126,Tryz.ntmps126
 go_wp2_with fail
 go_loopw [0] (fun v0 wr=>∃ (j:Nat) (A':Option Addr) (m c':Nat) (r:List UInt8),v0=.slice A' m c'∧Hid (m=r.length∧m≤c'∧r=b.drop (16*j)∧16*j≤b.length+15)∧Hid (r≠[]→∀ a,A'=some a→a.block≠X)∧Hid (Src w A' (r.map zv))∧
  Blk wr X 85 (zr (sf E b x j))∧Blk wr w.heap.size 85 (zr (List.replicate 16 0))∧w.grownBy wr (some X)) (fun v0 _=>match v0 with | .slice _ m _=>m | _=>0)
 case atStart=>exact⟨0,A,n,c,b,rfl,⟨HN.out.1,HN.out.2.1,rfl,by omega⟩,HA.out.1,HS.out.1,PT,h0,mv⟩
 case round =>
 clear PT h0 mv;obtain⟨j,A',m,c',r,rfl,HJ,K4,Er,hX,h0,hg⟩:=hrel
 by_cases hm:0<m
 ·have qL:(0:Int)<(m:Int):=by omega
  obtain⟨bb,oo,rfl,dz⟩:∃ bb oo,A'=some ⟨bb,oo,none⟩∧∀ i v,(r.map zv)[i]? = some v→w.cell? ⟨bb,oo+i,none⟩=some v:=by
   exact Er.out (by intro e;rw[List.map_eq_nil_iff]at e;have:=HJ.out.1;rw[e]at this;simp at this;omega)
  obtain⟨k,hk⟩:∃ k,min m 16=k:=⟨_,rfl⟩
  have OI:min (m:Int) 16=(k:Int):=by omega
  have jh:(k:Int)≤(m:Int):=by omega
  have ir:(k:Int)≤(c':Int):=by have:=HJ.out;omega
  have HK:=Hh hk;clear hk;go_upto_region 3 with fail
  go_cut [19,20,21] (fun s19 s20 s21 wx=>s19=.slice (some ⟨bb,oo,none⟩) k c'∧s20=.int .i64 (k:Int)∧s21=.int .i64 0∧Blk wx X 85 (zr (sf E b x j))∧Blk wx w.heap.size 85 (zr (List.replicate 16 0))∧w.grownBy wx (some X))
  case first =>
   go_wp2_with fail
   all_goals go_meet
   all_goals first | exact⟨rfl,rfl,rfl,hX,h0,hg⟩ | (obtain rfl:k=16:=(by have:=HK.out;omega);exact⟨rfl,rfl,rfl,hX,h0,hg⟩) | (obtain rfl:k=m:=(by have:=HK.out;omega);exact⟨rfl,rfl,rfl,hX,h0,hg⟩)
  case rest =>
  clear hX h0 hg OI;obtain⟨rfl,rfl,rfl,hX,h0,hg⟩:=hcut;obtain⟨y,hy⟩:∃ y,sf E b x j=y:=⟨_,rfl⟩
  have yl:y.length=16:=by rw[← hy];exact iL hE_ b HX.out.1 j
  have HF:Hid (sf E b x (j+1)=E (xG y (r.take 16))):=by rw[Hid,sf,hy,HJ.out.2.2.1]
  rw[hy]at hX;rw[← wl (fun i=>at_ y i ^^^ at_ r i) yl]at hX;have HY:=Hh yl;clear hy yl;go_wp2_with fail
  go_loopw [21] (fun v21 wx=>∃ i:Nat,v21=.int .i64 (i:Int)∧i≤k∧Blk wx X 85 (zr (wW 16 (fun i=>at_ y i ^^^ at_ r i) y i))∧Blk wx w.heap.size 85 (zr (List.replicate 16 0))∧w.grownBy wx (some X)) (fun v21 _=>(k-intOf v21).toNat)
  case atStart=>exact⟨0,rfl,by omega,hX,h0,hg⟩
  case round =>
  clear hX h0 hg;obtain⟨i,rfl,hi,hX,h0,hg⟩:=hrel
  by_cases IL:(i:Int)<(k:Int)
  ·have PY:i<r.length:=by have:=HJ.out;omega
   have li:(i:Int)<16:=by have:=HK.out;omega
   obtain⟨u,hu⟩:∃ u,at_ y i=u:=⟨_,rfl⟩
   obtain⟨v,hv⟩:∃ v,at_ r i=v:=⟨_,rfl⟩
   have c0w:w.cell? ⟨bb,oo+i,none⟩=some (zv v):=dz i _ (by rw[List.getElem?_map,List.getElem?_eq_getElem PY,Option.map_some,← lK PY,hv]);have Fb:bb≠X:=K4.out (by intro e;rw[e]at PY;simp at PY) _ rfl;have c0:wr.cell? ⟨bb,oo+i,none⟩=some (zv v):=NL hg Fb c0w;have c1:=hX.cell i (zK _ _ (by rw[xe];omega));rw[qx _ _ (by omega),hu]at c1;have X1:=Hh (yn u v);have S1:=Hh (vZ (n:=16) (i:=i) (fun i=>at_ y i ^^^ at_ r i) y (by omega))
   simp only[hu,hv]at S1
   clear hu hv c0w PY;go_wp2_with (with_reducible refine zx ?_)
   refine zT rfl _ _ _ rfl rfl X i (zv (u ^^^ v)) rfl (by show Value.int .u8 (bits .xor .u8 (u.toNat:Int) (v.toNat:Int))=_;rw[X1.out]) _ _ hX yM (by rw[zo,xe];omega) rfl fun w9 YZ xr=>?_
   rw[xl,S1.out]at YZ;have h9:=h0.grown xr (by intro e;injection e with e;have:=HX.out;omega);have yY:=zD hg xr (.inl rfl);clear xr c0 c1 hX h0 hg S1 X1;go_wp2_with fail
   go_roundw
   case rel=>exact⟨i+1,by go_num,by omega,YZ,h9,yY⟩
   case measure=>simp[intOf];omega
  obtain rfl:i=k:=by omega
  have hE:wW 16 (fun i=>at_ y i ^^^ at_ r i) y i=xG y (r.take 16):=by
   rw[← HK.out,HJ.out.1];exact XQ y r HY.out
  rw[hE]at hX;obtain⟨z,hz⟩:∃ z,xG y (r.take 16)=z:=⟨_,rfl⟩
  have zl:z.length=16:=by rw[← hz];exact yf _ _
  rw[hz]at hX HF;have df:=HS.out.2.1.grown hg (by intro e;injection e with e;exact HA.out.2.2 e);have hC:=HS.out.2.2.grown hg (by intro e;injection e with e;exact HA.out.2.1 e);have c0:=df.cell 0 rfl;have BL:=Hh (hBS z _ zl hC);have el:=hE_ z;clear hE hz df IL hi;go_wp2_with (with_reducible refine wU 85 ?_)
  refine zN rfl _ _ rfl X 0 16 rfl hX (by omega) _ Tryz.underlying85 rfl (by kernel_rfl) ?_
  rw[xm zl];go_wp2_with fail
  refine BL.out.mono ?_
  rintro e w5 ⟨rfl,yN⟩
  have PU:=hX.below yN;have h5:=h0.below yN;have yF:=vo hg yN;clear hX h0 hg yN BL hC c0;go_wp2_with (with_reducible refine zx ?_)
  refine zt rfl _ _ _ rfl rfl X (zr (E z)) rfl rfl _ _ PU (by rw[zo,el];kernel_rfl) (by rw[zo,zo,el,zl]) (ym _) fun w6 Yp xO=>?_
  have h6:=h5.grown xO (by intro e;injection e with e;have:=HX.out;omega);have xj:=zD yF xO (.inl rfl);rw[← HF.out]at Yp;clear PU h5 yF xO HF el;have OI:min (m:Int) 16=(i:Int):=by have:=HK.out;omega
  go_wp2_with fail
  have e:(if(16:Int)<(m:Int) then(16:Int) else(m:Int)).toNat=i:=by have:=HK.out;split <;> omega
  try rw[e]
  have hJ:=HJ.out;have hK:=HK.out
  refine⟨⟨j+1,_,m-i,c'-i,r.drop 16,rfl,⟨by rw[List.length_drop];omega,by omega,by rw[hJ.2.2.1,List.drop_drop,show 16*j+16=16*(j+1) by omega],by rw[hJ.2.2.1,List.length_drop]at hJ;omega⟩, ?_, ?_,Yp,h6,xj⟩, ?_⟩
  ·intro xg a ha
   have Ig:r≠[]:=by intro e;rw[e]at xg;exact xg rfl
   split at ha
   ·injection ha with ha;subst ha;exact K4.out Ig _ rfl
   injection ha with ha;subst ha;exact K4.out Ig ⟨bb,oo,none⟩ rfl
  ·intro xg
   have OS:16<r.length:=by
    apply Nat.lt_of_not_le
    intro h
    rw[List.drop_of_length_le h]at xg
    exact xg rfl
   rw[if_neg (by omega),show i=16 by omega]
   refine⟨bb,oo+16,rfl,fun q v hq=>?_⟩
   rw[List.map_drop,List.getElem?_drop]at hq;rw[Nat.add_assoc]
   exact dz _ _ hq
  show m-i<m
  omega
 have ft:m=0:=by omega
 subst ft
 have hE:sf E b x j=sf E b x ((b.length+15)/16):=by
  have hJ:=HJ.out;have:(b.drop (16*j)).length=0:=by rw[← hJ.2.2.1,← hJ.1]
  rw[List.length_drop]at this;rw[show(b.length+15)/16=j by omega]
 rw[hE]at hX;have el:=iL hE_ b HX.out.1 ((b.length+15)/16);obtain⟨z,hz⟩:∃ z,sf E b x ((b.length+15)/16)=z:=⟨_,rfl⟩
 rw[hz]at hX el;have HZ:=Hh hz;clear hE hz;go_wp2_with (with_reducible refine wU 85 ?_)
 refine zN rfl _ _ rfl X 0 16 rfl hX (by omega) _ Tryz.underlying85 rfl (by kernel_rfl) ?_
 rw[xm el];go_wp2_with (with_reducible refine zx ?_)
 refine zt rfl _ _ _ rfl rfl w.heap.size (zr z) rfl rfl _ _ h0 (by rw[zo,el];kernel_rfl) (by rw[zo,el];rfl) (ym _) fun w6 h6 xO=>?_
 have Yp:=hX.grown xO (by intro e;injection e with e;have:=HX.out;omega);have xj:=zD hg xO (.inr ⟨_,rfl,Nat.le_refl _⟩);clear hX h0 hg xO;go_wp2_with fail
 exact zR rfl rfl h6 rfl rfl (by rw[zo,el];kernel_rfl) rfl ⟨by rw[HZ.out],by rw[HZ.out];exact Yp,xj⟩
theorem Src.apart {w:World}{A:Option Addr}{b:List UInt8}(h:Src w A (b.map zv)) {X:Nat}(hX:w.heap.size≤X):b≠[]→∀ a,A=some a→a.block≠X:=by
 intro hb a ha e
 obtain⟨g,o,e2,hc⟩:=h (by intro e;rw[List.map_eq_nil_iff]at e;exact hb e);rw[ha]at e2;injection e2 with e2
 subst e2;obtain⟨u,r,rfl⟩:∃ u r,b=u::r:=List.exists_cons_of_ne_nil hb;have:=World.block_lt_of_cell? w _ (hc 0 (zv u) rfl)
 simp only at this e
 omega
end Go.Proofs.YtliomcphdnppnaaGreatDoor
