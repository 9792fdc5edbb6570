/- squeezed. Walks: a cipher is made, and encry -/
import Derived.Test.YtkmlnjociijpgaaGreatDoorK08
import Derived.Great.BuildSlice
set_option linter.unusedVariables false
set_option linter.unusedSimpArgs false
set_option maxRecDepth 100000
set_option maxHeartbeats 25600000
namespace Go.Proofs.YtkmlnjociijpgaaGreatDoor
open Go.RowKit
theorem jaS{P:Prop}(h:P:=by
 have uw:=sA f HN.out.2.1 k;rw[hE]at h3;clear DONE hE;go_wp2_with (with_reducible refine vy 122 ?_)
 refine zM rfl _ _ rfl (w.heap.size+1) 0 16 rfl h3 (by omega) _ Tryz.underlying122 rfl (by kernel_rfl) ?_
 rw[xT uw];go_wp2_with (with_reducible refine zx ?_)
 refine zm rfl _ _ _ rfl rfl w.heap.size (zn (uQ f nonce k)) rfl rfl _ _ h0 (by rw[zg,uw];kernel_rfl) (by rw[zg,uw];rfl) (ym _) fun w5 h5 zK=>?_
 have b5:=b3.grown zK b3.size (by rintro q ⟨⟩;omega);clear h3 h0 b3 zK;go_wp2_with fail
 exact xU rfl rfl h5 rfl rfl (by rw[zg,uw];kernel_rfl) rfl ⟨rfl,b5⟩):P:=h
theorem jgj{P:Prop}(h:P:=by have b1:=b0.alloc b0.size (.cells (zn (List.replicate 16 0)) 122);exact b1):P:=h
theorem Wc {cg:Nat}{L S key b:List UInt8}(hL:CipS L S key) (vV:b.length=16) (w:World) (hC:Blk w cg 158 (zn L)) :
  Calls Tryz.prog 127 #[.pointer (some ⟨cg,0,none⟩),.agg (zn b)] w fun e w'=>e=.returned (.agg (zn (pz S key b 10)))∧Below w.heap.size w w':=by
 have hz:(List.replicate 16 (0:UInt8)).length=16:=rfl;have h0:=Blk.new w 122 (zn b);have b0:=zX w (.cells (zn b) 122);have h1:=Blk.new (w.alloc (.cells (zn b) 122)) 122 (zn (List.replicate 16 0));have b1:=jgj;have h2:=Blk.new ((w.alloc (.cells (zn b) 122)).alloc (.cells (zn (List.replicate 16 0)) 122)) 155 (zn (List.replicate 16 0));have b2:=b1.alloc b1.size (.cells (zn (List.replicate 16 0)) 155);have h0a:=h0.alloc (.cells (zn (List.replicate 16 0)) 122);replace h1:=h1.alloc (.cells (zn (List.replicate 16 0)) 155);have Oa:=hC.below b2;have HG:=Hh hC.lt;have HL:=Hh (And.intro hL vV)
 simp only[za]at h1 h2
 clear h0 b0 b1 hC hL;go_enter Tryz.func127,Tryz.ntmps127
 go_wp2_with (with_reducible refine vy 122 ?_)
 refine zM rfl _ _ rfl w.heap.size 0 16 rfl h0a (by omega) _ Tryz.underlying122 rfl (by kernel_rfl) ?_
 rw[xT vV];clear h0a;go_wp2_with (with_reducible refine zx ?_)
 refine zm rfl _ _ _ rfl rfl (w.heap.size+1+1) (zn b) rfl rfl _ _ h2 (by rw[zg,vV];kernel_rfl) (by rw[zg,vV];rfl) (ym _) fun w3 h3 sp=>?_
 replace h1:=h1.gr sp (by omega);replace Oa:=Oa.grown sp (by intro e;injection e with e;have:=HG.out;omega);have b3:=b2.grown sp b2.size (by rintro q ⟨⟩;omega);clear h2 b2 sp vV;have EN:=Hh (ax HL.out.1 HL.out.2 (by have:=HG.out;omega) w3.drew h3.drew Oa.drew);go_upto_region 2 with fail
 refine zr 7 (fun _=>True) (by kernel_rfl) (trivial) (fun zy=>?_)
 refine TkS 0 rfl zy ?_
 refine TkS 1 rfl zy ?_
 refine TkS 2 rfl zy ?_
 refine TkS 3 rfl zy ?_
 refine TkS 4 rfl zy ?_
 refine TkS 5 rfl zy ?_
 refine To 6 rfl fun K hK=>?_
 go_simp
 refine EN.out.mono ?_
 rintro e w4 ⟨⟨v4,rfl⟩,h4,hg4⟩
 replace h1:=h1.drew.gr hg4 (by omega);have b4:=b3.drew.grown hg4 b3.size (by rintro q ⟨⟩;omega);clear h3 Oa b3 hg4 EN
 refine Ko hK ?_ fun zy=>?_
 ·trivial
 clear hK K
 refine Wd ?_
 clear zy;have el:=o4 S key b 10;go_wp2_with (with_reducible refine vy 155 ?_)
 refine zM rfl _ _ rfl (w.heap.size+1+1) 0 16 rfl h4 (by omega) _ Tryz.underlying155 rfl (by kernel_rfl) ?_
 rw[xT el];go_wp2_with (with_reducible refine zx ?_)
 refine zm rfl _ _ _ rfl rfl (w.heap.size+1) (zn (pz S key b 10)) rfl rfl _ _ h1 (by rw[zg,el];kernel_rfl) (by rw[zg,el];rfl) (ym _) fun w5 h5 zK=>?_
 have b5:=b4.grown zK b4.size (by rintro q ⟨⟩;omega);clear h4 h1 b4 zK;go_wp2_with fail
 exact xU rfl rfl h5 rfl rfl (by rw[zg,el];kernel_rfl) rfl ⟨rfl,b5⟩
theorem Sx {cg:Nat}{key b:List UInt8}(hk:key.length=16) (vV:b.length=16) (w:World) (hC:Blk w cg 158 (zn (gy key))) :
  Calls Tryz.prog 127 #[.pointer (some ⟨cg,0,none⟩),.agg (zn b)] w fun e w'=>e=.returned (.agg (zn (pN key b)))∧Below w.heap.size w w':=Wc (Bp hk) vV w hC
theorem No {P:Program}{ops:Array Oper}{Q:Exit→Act→World→Prop}{rest:List Oper}{a:Act}{w:World}{dst:Option Tmp}{ty:TypeId}{ps:Array (Nat×Operand)}{T:TypeId}{pos:String}{af:Array Edge}{g:Option (Nat×Bool)}
  (h:zZ (wpList P ops Q (⟨dst,.build ty ps,T,pos,af,g⟩::rest) a w)):wpList P ops Q (⟨dst,.build ty ps,T,pos,af,g⟩::rest) a w:=h
theorem az:Tryz.prog.built 158 [(0,.agg (zn (tF 256)))]=some (zn (tF 256++List.replicate 176 0)):=by kernel_rfl
theorem XY {key:List UInt8}(hk:key.length=16):spl (tF 256++List.replicate 176 0) 512 (yG (tF 256++List.replicate 176 0) key 160)=gy key:=by
 rw[Pu,gy,spl,List.take_left' (wi _),List.drop_of_length_le (by rw[List.length_append,wi,List.length_replicate,vx _ _ hk];omega),List.append_nil]
theorem VX {A:Option Addr}{c:Nat}{key:List UInt8}(hk:key.length=16) (w:World) (hK:Src w A (key.map zu)) :
  Calls Tryz.prog 90 #[.slice A 16 c] w fun e w'=>∃ N,e=.returned (.pointer (some ⟨N,0,none⟩))∧w.heap.size≤N∧Blk w' N 158 (zn (gy key))∧Below w.heap.size w w':=by
 have SU:=Hh (ir w);have HK:=Hh hK;have HL:=Hh hk;have BC:=Hh az;have SC:=Hh (XY hk);have ap:(tF 256++List.replicate 176 0).length=688:=by rw[List.length_append,wi,List.length_replicate]
 obtain⟨B,AC⟩:∃ B,tF 256=B:=⟨_,rfl⟩
 rw[AC]at SU BC SC ap;obtain⟨L,Aa⟩:∃ L,B++List.replicate 176 0=L:=⟨_,rfl⟩
 rw[Aa]at BC SC ap;have qk:=Hh ap;clear hK hk AC Aa ap;go_enter Tryz.func90,Tryz.ntmps90
 go_wp2_with fail
 refine SU.out.mono ?_
 rintro e w1 ⟨rfl,zY⟩
 clear SU;go_wp2_with (with_reducible refine No ?_)
 refine wpList_buildTo rfl _ _ rfl _ rfl (zn L) (by have h:=BC.out;simp only[List.map_toArray,List.map_cons,List.map_nil,List.toList_toArray];exact h) ?_
 have hC:=Blk.new w1 158 (zn L);have zD:=zY.alloc zY.size (.cells (zn L) 158);obtain⟨N,hN⟩:∃ N,w1.heap.size=N:=⟨_,rfl⟩
 have HN:Hid (w.heap.size≤N):=by have:=zY.size;rw[Hid];omega
 obtain⟨w2,qE⟩:∃ w2,w1.alloc (.cells (zn L) 158)=w2:=⟨_,rfl⟩
 rw[hN,qE]at hC;rw[qE]at zD;have HW:=Hh (And.intro qE hN);have SD:=Hh (ay (by have:=qk.out;omega) HL.out w2 hC (HK.out.below zD) (c:=c));clear hN qE zY BC;go_upto_region 2 with fail
 try rw[HW.out.1]
 try rw[HW.out.2]
 go_wp2_with fail
 refine SD.out.mono ?_
 rintro e w3 ⟨rfl,yR⟩
 have Mj:=hC.below yR;have xE:=zD.trans (yR.mono zD.size);have kl:=vx L key HL.out 160;clear hC zD yR SD;go_wp2_with (with_reducible refine zx ?_)
 refine xy rfl _ _ _ rfl rfl N 512 (yG L key 160) rfl rfl Mj (by rw[kl];kernel_rfl) (by rw[qk.out];omega) fun w5 FQ zK=>?_
 rw[SC.out]at FQ;have zE:=xE.grown zK xE.size (by rintro q ⟨⟩;exact HN.out);clear Mj xE zK kl;go_wp2_with fail
 go_ret
 exact⟨N,rfl,HN.out,FQ,zE⟩
theorem Nl (f:UInt8) (nonce:List UInt8) (k:Nat) (h:nonce.length≤15):spl (f::List.replicate 15 0) 1 nonce=lP f nonce k 0:=by
 rw[spl,lP,show List.take 1 (f::List.replicate 15 0)=[f] from rfl,show 1+nonce.length=nonce.length+1 by omega,List.drop_succ_cons,List.drop_replicate]
 simp[oU]
theorem Xm (m:Nat):zu (UInt8.ofNat (m%256))=.int .u8 (IntKind.u8.wrap (m:Int)):=by
 rw[zu,IntKind.wrap_u8,UInt8.toNat_ofNat'];congr 1
 omega
theorem ju (f:UInt8) {A:Option Addr}{n c:Nat}{nonce:List UInt8}(hn:n=nonce.length) (hl:nonce.length≤13) (k:Nat) (hk:k<4611686018427387904) (w:World) (hs:Src w A (nonce.map zu)) :
  Calls Tryz.prog 128 #[zu f,.slice A n c,.int .i64 (k:Int)] w fun e w'=>e=.returned (.agg (zn (uQ f nonce k)))∧Below w.heap.size w w':=by
 have h0:=(Blk.new w 122 (zn (List.replicate 16 0))).alloc (.cells (zn (List.replicate 16 0)) 122);have h1:=Blk.new (w.alloc (.cells (zn (List.replicate 16 0)) 122)) 122 (zn (List.replicate 16 0));have b0:=zX w (.cells (zn (List.replicate 16 0)) 122);have b1:=jgj;rw[za]at h1;have HN:=Hh (And.intro hn (And.intro hl hk));have HS:=Hh hs;clear b0 hn hl hk hs;go_enter Tryz.func128,Tryz.ntmps128
 go_wp2_with (with_reducible refine zx ?_)
 refine zm rfl _ _ _ rfl rfl (w.heap.size+1) (zn (f::List.replicate 15 0)) rfl rfl _ _ h1 (by kernel_rfl) rfl (ym _) fun w2 h2 hg2=>?_
 replace h0:=h0.gr hg2 (by omega);have b2:=b1.grown hg2 b1.size (by rintro q ⟨⟩;omega);clear h1 b1 hg2;go_wp2_with (with_reducible refine Vu ?_)
 refine pi rfl (.tmp 11) (.tmp 12) rfl (w.heap.size+1) 1 15 15 rfl A n c nonce rfl HN.out.1 (HS.out.below b2) (by have:=HN.out;omega) h2 (by have:=HN.out;simp;omega) fun w3 h3 sp=>?_
 rw[Nl f nonce k (by have:=HN.out;omega)]at h3;replace h0:=h0.gr sp (by omega);have b3:=b2.grown sp b2.size (by rintro q ⟨⟩;omega);clear h2 b2 sp;go_wp2_with fail
 go_loopw [2,8] (fun v2 v8 wr=>∃ j i m:Nat,v8=.int .i64 (i:Int)∧v2=.int .i64 (m:Int)∧Hid (i+j=15∧nonce.length+j≤15∧m=k/256 ^ j)∧Blk wr (w.heap.size+1) 122 (zn (lP f nonce k j))∧Blk wr w.heap.size 122 (zn (List.replicate 16 0))∧Below w.heap.size w wr) (fun _ v8 _=>(intOf v8).toNat)
 case atStart=>exact⟨0,15,k,rfl,rfl,⟨rfl,by have:=HN.out;omega,by simp⟩,h3,h0,b3⟩
 case round =>
 clear h0 h3 b3;obtain⟨j,i,m,rfl,rfl,HJ,h3,h0,b3⟩:=hrel
 have DONE:Hid (∀ a,¬ ((n:Int)<(i:Int)∧(0:Int)<(m:Int))→lP f nonce k j=a→a=uQ f nonce k):=by
  rintro a hc rfl
  have hJ:=HJ.out;have hN:=HN.out
  by_cases h1:(n:Int)<(i:Int)
  ·exact TN f (by omega) (by rw[← hJ.2.2];omega)
  exact TO f (by omega)
 by_cases h1:(n:Int)<(i:Int)
 ·by_cases h2:(0:Int)<(m:Int)
  ·have l16:(i:Int)<16:=by have:=HJ.out;omega
   have W1:IntKind.i64.wrap ((i:Int)-1)=((i-1:Nat):Int):=by rw[show((i-1:Nat):Int)=(i:Int)-1 by omega];exact IntWalk.i64_in _ (by omega)
   obtain⟨i1,Sq⟩:∃ x,i-1=x:=⟨_,rfl⟩
   rw[Sq]at W1;have hq:(m:Int)/256=((m/256:Nat):Int):=by omega
   obtain⟨m1,qq⟩:∃ x,m/256=x:=⟨_,rfl⟩
   rw[qq]at hq;have S1:=Hh (Pj f (nonce:=nonce) (n:=k) (j:=j) (by have:=HJ.out;have:=HN.out;omega));rw[← HJ.out.2.2,show 15-j=i by have:=HJ.out;omega]at S1;have U:=Hh (Xm m);have HM:=Hh (And.intro Sq qq);clear Sq qq DONE;go_wp2_with (with_reducible refine zx ?_)
   refine zw rfl _ _ _ rfl rfl (w.heap.size+1) i (zu (UInt8.ofNat (m%256))) rfl (by rw[U.out];rfl) _ _ h3 yH (by rw[zg,Pi f (by have:=HJ.out;omega)];omega) rfl fun w5 h5 zK=>?_
   rw[xS,S1.out]at h5;have h6:=h0.gr zK (by omega);have b5:=b3.grown zK b3.size (by rintro q ⟨⟩;omega);clear h3 h0 b3 zK S1 U;go_wp2_with fail
   go_roundw
   case rel=>exact⟨j+1,i1,m1,rfl,rfl,⟨by have:=HJ.out;have:=HM.out;omega,by have:=HJ.out;have:=HN.out;omega,by rw[← HM.out.2,HJ.out.2.2,Nat.div_div_eq_div_mul,Nat.pow_succ]⟩,h5,h6,b5⟩
   case measure=>have:=HM.out;simp[intOf];omega
  have hE:=DONE.out _ (fun h=>h2 h.2) rfl;exact jaS
 have hE:=DONE.out _ (fun h=>h1 h.1) rfl;exact jaS
def rF (E:List UInt8→List UInt8) (b x:List UInt8):Nat→List UInt8
 | 0=>x
 | j+1=>E (xA (rF E b x j) ((b.drop (16*j)).take 16))
theorem NJ (key b x:List UInt8) (j:Nat):rF (pN key) b x j=uZ key b x j:=by
 induction j with
 | zero=>rfl
 | succ j ih=>rw[rF,uZ,ih]
theorem dK {E:List UInt8→List UInt8}(hE:∀ x,(E x).length=16) (b:List UInt8) {x:List UInt8}(h:x.length=16) (j:Nat):(rF E b x j).length=16:=by
 cases j with
 | zero=>exact h
 | succ j=>exact hE _
theorem Qd (x r:List UInt8) (hx:x.length=16):wB 16 (fun i=>at_ x i ^^^ at_ r i) x (min r.length 16)=xA x (r.take 16):=by
 apply List.map_congr_left
 intro i hi
 have Rv:i<16:=by simpa using hi
 show(if i<min r.length 16 then at_ x i ^^^ at_ r i else at_ x i)=at_ x i ^^^ at_ (r.take 16) i
 by_cases h:i<r.length
 ·rw[if_pos (by omega)];congr 1
  rw[at_,at_,List.getD_eq_getElem?_getD,List.getD_eq_getElem?_getD,List.getElem?_take_of_lt Rv]
 rw[if_neg (by omega),show at_ (r.take 16) i=0 by rw[at_,List.getD_eq_getElem?_getD,List.getElem?_eq_none (by rw[List.length_take];omega)];rfl,UInt8.xor_zero]
def nA (E:List UInt8→List UInt8) (cg:Nat) (L:List UInt8):Prop:=∀ (x:List UInt8) (w:World),x.length=16→Blk w cg 158 (zn L)→
 Calls Tryz.prog 127 #[.pointer (some ⟨cg,0,none⟩),.agg (zn x)] w fun e w'=>e=.returned (.agg (zn (E x)))∧Below w.heap.size w w'
theorem dF {key:List UInt8}(hk:key.length=16) (cg:Nat):nA (pN key) cg (gy key):=fun x w hx hC=>Sx hk hx w hC
theorem G4 {w w':World}{g:Nat}(hg:w.grownBy w' (some g)) {p:Addr}{v:Value}(hp:p.block≠g) (hc:w.cell? p=some v):w'.cell? p=some v :=
 (World.cell?_of_block (hg.block p.block (World.block_lt_of_cell? w _ hc) (fun e=>hp (by injection e)))).trans hc
theorem TI (cg:Nat) (w:World):Calls Tryz.prog 129 #[.pointer (some ⟨cg,0,none⟩)] w fun e w' =>
  e=.returned (.func (.func 161) #[] #[.pointer (some ⟨w.heap.size+1,0,none⟩),.pointer (some ⟨w.heap.size,0,none⟩)])∧Blk w' w.heap.size 120 #[.pointer (some ⟨cg,0,none⟩)]∧Blk w' (w.heap.size+1) 122 (zn (List.replicate 16 0))∧Below w.heap.size w w':=by
 have h0:=(Blk.new w 120 #[.pointer (some ⟨cg,0,none⟩)]).alloc (.cells (zn (List.replicate 16 0)) 122);have h1:=Blk.new (w.alloc (.cells #[.pointer (some ⟨cg,0,none⟩)] 120)) 122 (zn (List.replicate 16 0));have b0:=zX w (.cells #[.pointer (some ⟨cg,0,none⟩)] 120);have b1:=jgj;rw[za]at h1;clear b0;go_enter Tryz.func129,Tryz.ntmps129
 go_wp2_with fail
 go_ret
 exact⟨rfl,h0,h1,b1⟩
theorem gI {E:List UInt8→List UInt8}(hE_:∀ x,(E x).length=16) {cg CB X:Nat}{L:List UInt8}(hBS:nA E cg L) {A:Option Addr}{n c:Nat}{b:List UInt8}(hn:n=b.length) (hc:n≤c) (hl:b.length≤1099511627776) (hAX:b≠[]→∀ a,A=some a→a.block≠X) (hXC:X≠cg) (hXB:X≠CB)
  (w:World) (hs:Src w A (b.map zu)) {x:List UInt8} (hx:x.length=16) (hX:Blk w X 122 (zn x)) (YU:Blk w CB 120 #[.pointer (some ⟨cg,0,none⟩)]) (hC:Blk w cg 158 (zn L)) :
  Calls Tryz.prog 161 #[.slice A n c,.pointer (some ⟨X,0,none⟩),.pointer (some ⟨CB,0,none⟩)] w fun e w' =>
   e=.returned (.agg (zn (rF E b x ((b.length+15)/16))))∧Blk w' X 122 (zn (rF E b x ((b.length+15)/16)))∧w.grownBy w' (some X):=by
 have h0:=Blk.new w 122 (zn (List.replicate 16 0));have iJ:w.grownBy (w.alloc (.cells (zn (List.replicate 16 0)) 122)) (some X):=rz (yN w _) _;have wY:=hX.alloc (.cells (zn (List.replicate 16 0)) 122);have HN:=Hh (And.intro hn (And.intro hc hl));have HA:=Hh (And.intro hAX (And.intro hXC hXB));have HX:=Hh (And.intro hx (And.intro hX.lt (And.intro YU.lt hC.lt)));have HS:=Hh (And.intro hs (And.intro YU hC));clear hn hc hl hAX hXC hXB hs hx hX YU hC;go_enter Tryz.func161,Tryz.ntmps161
 go_wp2_with fail
 go_loopw [0] (fun v0 wr=>∃ (j:Nat) (A':Option Addr) (m c':Nat) (r:List UInt8),v0=.slice A' m c'∧Hid (m=r.length∧m≤c'∧r=b.drop (16*j)∧16*j≤b.length+15)∧Hid (r≠[]→∀ a,A'=some a→a.block≠X)∧Hid (Src w A' (r.map zu))∧
  Blk wr X 122 (zn (rF E b x j))∧Blk wr w.heap.size 122 (zn (List.replicate 16 0))∧w.grownBy wr (some X)) (fun v0 _=>match v0 with | .slice _ m _=>m | _=>0)
 case atStart=>exact⟨0,A,n,c,b,rfl,⟨HN.out.1,HN.out.2.1,rfl,by omega⟩,HA.out.1,HS.out.1,wY,h0,iJ⟩
 case round =>
 clear wY h0 iJ;obtain⟨j,A',m,c',r,rfl,HJ,Ch,HSr,hX,h0,hg⟩:=hrel
 by_cases hm:0<m
 ·have JZ:(0:Int)<(m:Int):=by omega
  obtain⟨bb,oo,rfl,jq⟩:∃ bb oo,A'=some ⟨bb,oo,none⟩∧∀ i v,(r.map zu)[i]? = some v→w.cell? ⟨bb,oo+i,none⟩=some v:=by
   exact HSr.out (by intro e;rw[List.map_eq_nil_iff]at e;have:=HJ.out.1;rw[e]at this;simp at this;omega)
  obtain⟨k,hk⟩:∃ k,min m 16=k:=⟨_,rfl⟩
  have Gt:min (m:Int) 16=(k:Int):=by omega
  have fQ:(k:Int)≤(m:Int):=by omega
  have lf:(k:Int)≤(c':Int):=by have:=HJ.out;omega
  have HK:=Hh hk;clear hk;go_upto_region 3 with fail
  go_cut [19,20,21] (fun s19 s20 s21 wx=>s19=.slice (some ⟨bb,oo,none⟩) k c'∧s20=.int .i64 (k:Int)∧s21=.int .i64 0∧Blk wx X 122 (zn (rF E b x j))∧Blk wx w.heap.size 122 (zn (List.replicate 16 0))∧w.grownBy wx (some X))
  case first =>
   go_wp2_with fail
   all_goals go_meet
   all_goals first | exact⟨rfl,rfl,rfl,hX,h0,hg⟩ | (obtain rfl:k=16:=(by have:=HK.out;omega);exact⟨rfl,rfl,rfl,hX,h0,hg⟩) | (obtain rfl:k=m:=(by have:=HK.out;omega);exact⟨rfl,rfl,rfl,hX,h0,hg⟩)
  case rest =>
  clear hX h0 hg Gt;obtain⟨rfl,rfl,rfl,hX,h0,hg⟩:=hcut;obtain⟨y,hy⟩:∃ y,rF E b x j=y:=⟨_,rfl⟩
  have yl:y.length=16:=by rw[← hy];exact dK hE_ b HX.out.1 j
  have HF:Hid (rF E b x (j+1)=E (xA y (r.take 16))):=by rw[Hid,rF,hy,HJ.out.2.2.1]
  rw[hy]at hX;rw[← wW (fun i=>at_ y i ^^^ at_ r i) yl]at hX;have HY:=Hh yl;clear hy yl;go_wp2_with fail
  go_loopw [21] (fun v21 wx=>∃ i:Nat,v21=.int .i64 (i:Int)∧i≤k∧Blk wx X 122 (zn (wB 16 (fun i=>at_ y i ^^^ at_ r i) y i))∧Blk wx w.heap.size 122 (zn (List.replicate 16 0))∧w.grownBy wx (some X)) (fun v21 _=>(k-intOf v21).toNat)
  case atStart=>exact⟨0,rfl,by omega,hX,h0,hg⟩
  case round =>
  clear hX h0 hg;obtain⟨i,rfl,hi,hX,h0,hg⟩:=hrel
  by_cases Fe:(i:Int)<(k:Int)
  ·have Sr:i<r.length:=by have:=HJ.out;omega
   have li:(i:Int)<16:=by have:=HK.out;omega
   obtain⟨u,hu⟩:∃ u,at_ y i=u:=⟨_,rfl⟩
   obtain⟨v,hv⟩:∃ v,at_ r i=v:=⟨_,rfl⟩
   have c0w:w.cell? ⟨bb,oo+i,none⟩=some (zu v):=jq i _ (by rw[List.getElem?_map,List.getElem?_eq_getElem Sr,Option.map_some,← gd Sr,hv]);have hbX:bb≠X:=Ch.out (by intro e;rw[e]at Sr;simp at Sr) _ rfl;have c0:wr.cell? ⟨bb,oo+i,none⟩=some (zu v):=G4 hg hbX c0w;have c1:=hX.cell i (zI _ _ (by rw[xJ];omega));rw[pJ _ _ (by omega),hu]at c1;have X1:=Hh (yx u v);have S1:=Hh (uy (n:=16) (i:=i) (fun i=>at_ y i ^^^ at_ r i) y (by omega))
   simp only[hu,hv]at S1
   clear hu hv c0w Sr;go_wp2_with (with_reducible refine zx ?_)
   refine zw rfl _ _ _ rfl rfl X i (zu (u ^^^ v)) rfl (by show Value.int .u8 (bits .xor .u8 (u.toNat:Int) (v.toNat:Int))=_;rw[X1.out]) _ _ hX yH (by rw[zg,xJ];omega) rfl fun w9 sm xt=>?_
   rw[xS,S1.out]at sm;have h9:=h0.grown xt (by intro e;injection e with e;have:=HX.out;omega);have yn:=zG hg xt (.inl rfl);clear xt c0 c1 hX h0 hg S1 X1;go_wp2_with fail
   go_roundw
   case rel=>exact⟨i+1,by go_num,by omega,sm,h9,yn⟩
   case measure=>simp[intOf];omega
  obtain rfl:i=k:=by omega
  have hE:wB 16 (fun i=>at_ y i ^^^ at_ r i) y i=xA y (r.take 16):=by
   rw[← HK.out,HJ.out.1];exact Qd y r HY.out
  rw[hE]at hX;obtain⟨z,hz⟩:∃ z,xA y (r.take 16)=z:=⟨_,rfl⟩
  have zl:z.length=16:=by rw[← hz];exact yX _ _
  rw[hz]at hX HF;have YU:=HS.out.2.1.grown hg (by intro e;injection e with e;exact HA.out.2.2 e);have hC:=HS.out.2.2.grown hg (by intro e;injection e with e;exact HA.out.2.1 e);have c0:=YU.cell 0 rfl;have BL:=Hh (hBS z _ zl hC);have el:=hE_ z;clear hE hz YU Fe hi;go_wp2_with (with_reducible refine vy 122 ?_)
  refine zM rfl _ _ rfl X 0 16 rfl hX (by omega) _ Tryz.underlying122 rfl (by kernel_rfl) ?_
  rw[xT zl];go_wp2_with fail
  refine BL.out.mono ?_
  rintro e w5 ⟨rfl,zE⟩
  have iZ:=hX.below zE;have h5:=h0.below zE;have zK:=s9 hg zE;clear hX h0 hg zE BL hC c0;go_wp2_with (with_reducible refine zx ?_)
  refine zm rfl _ _ _ rfl rfl X (zn (E z)) rfl rfl _ _ iZ (by rw[zg,el];kernel_rfl) (by rw[zg,zg,el,zl]) (ym _) fun w6 sy vt=>?_
  have h6:=h5.grown vt (by intro e;injection e with e;have:=HX.out;omega);have xQ:=zG zK vt (.inl rfl);rw[← HF.out]at sy;clear iZ h5 zK vt HF el;have Gt:min (m:Int) 16=(i:Int):=by have:=HK.out;omega
  go_wp2_with fail
  have e:(if(16:Int)<(m:Int) then(16:Int) else(m:Int)).toNat=i:=by have:=HK.out;split <;> omega
  try rw[e]
  have hJ:=HJ.out;have hK:=HK.out
  refine⟨⟨j+1,_,m-i,c'-i,r.drop 16,rfl,⟨by rw[List.length_drop];omega,by omega,by rw[hJ.2.2.1,List.drop_drop,show 16*j+16=16*(j+1) by omega],by rw[hJ.2.2.1,List.length_drop]at hJ;omega⟩, ?_, ?_,sy,h6,xQ⟩, ?_⟩
  ·intro xp a ha
   have BI:r≠[]:=by intro e;rw[e]at xp;exact xp rfl
   split at ha
   ·injection ha with ha;subst ha;exact Ch.out BI _ rfl
   injection ha with ha;subst ha;exact Ch.out BI ⟨bb,oo,none⟩ rfl
  ·intro xp
   have Hb:16<r.length:=by
    apply Nat.lt_of_not_le
    intro h
    rw[List.drop_of_length_le h]at xp
    exact xp rfl
   rw[if_neg (by omega),show i=16 by omega]
   refine⟨bb,oo+16,rfl,fun q v hq=>?_⟩
   rw[List.map_drop,List.getElem?_drop]at hq;rw[Nat.add_assoc]
   exact jq _ _ hq
  show m-i<m
  omega
 have iM:m=0:=by omega
 subst iM
 have hE:rF E b x j=rF E b x ((b.length+15)/16):=by
  have hJ:=HJ.out;have:(b.drop (16*j)).length=0:=by rw[← hJ.2.2.1,← hJ.1]
  rw[List.length_drop]at this;rw[show(b.length+15)/16=j by omega]
 rw[hE]at hX;have el:=dK hE_ b HX.out.1 ((b.length+15)/16);obtain⟨z,hz⟩:∃ z,rF E b x ((b.length+15)/16)=z:=⟨_,rfl⟩
 rw[hz]at hX el;have HZ:=Hh hz;clear hE hz;go_wp2_with (with_reducible refine vy 122 ?_)
 refine zM rfl _ _ rfl X 0 16 rfl hX (by omega) _ Tryz.underlying122 rfl (by kernel_rfl) ?_
 rw[xT el];go_wp2_with (with_reducible refine zx ?_)
 refine zm rfl _ _ _ rfl rfl w.heap.size (zn z) rfl rfl _ _ h0 (by rw[zg,el];kernel_rfl) (by rw[zg,el];rfl) (ym _) fun w6 h6 vt=>?_
 have sy:=hX.grown vt (by intro e;injection e with e;have:=HX.out;omega);have xQ:=zG hg vt (.inr ⟨_,rfl,Nat.le_refl _⟩);clear hX h0 hg vt;go_wp2_with fail
 exact xU rfl rfl h6 rfl rfl (by rw[zg,el];kernel_rfl) rfl ⟨by rw[HZ.out],by rw[HZ.out];exact sy,xQ⟩
theorem Src.apart {w:World}{A:Option Addr}{b:List UInt8}(h:Src w A (b.map zu)) {X:Nat}(hX:w.heap.size≤X):b≠[]→∀ a,A=some a→a.block≠X:=by
 intro hb a ha e
 obtain⟨g,o,e2,hc⟩:=h (by intro e;rw[List.map_eq_nil_iff]at e;exact hb e);rw[ha]at e2;injection e2 with e2
 subst e2;obtain⟨u,r,rfl⟩:∃ u r,b=u::r:=List.exists_cons_of_ne_nil hb;have:=World.block_lt_of_cell? w _ (hc 0 (zu u) rfl)
 simp only at this e
 omega
theorem js (key x b:List UInt8):kK key x b=rF (pN key) b x ((b.length+15)/16):=(NJ key b x _).symm
theorem RF {m:Nat}(h:m<256):zu (UInt8.ofNat m)=.int .u8 (m:Int):=by
 rw[zu,UInt8.toNat_ofNat',Nat.mod_eq_of_lt h]
theorem ph {cg:Nat}{L key:List UInt8}(hBS:nA (pN key) cg L) {NA:Option Addr}{nn nc:Nat}{nonce:List UInt8}(uE:nn=nonce.length) (rj:7≤nonce.length∧nonce.length≤13)
  {AA:Option Addr} {an ac:Nat} {aad:List UInt8} (me:an=aad.length) (hac:an≤ac) (hal:aad.length≤1048576) {PA:Option Addr} {pn pc:Nat} {plain:List UInt8} (hpn:pn=plain.length) (Wb:pn≤pc) (pe:plain.length≤1048576)
  (t:Nat) (ht:4≤t∧t≤16) (w:World) (qT:Src w NA (nonce.map zu)) (mz:Src w AA (aad.map zu)) (hsp:Src w PA (plain.map zu)) (hC:Blk w cg 158 (zn L)) :
  Calls Tryz.prog 92 #[.pointer (some ⟨cg,0,none⟩),.slice NA nn nc,.slice AA an ac,.slice PA pn pc,.int .i64 (t:Int)] w fun e w'=>e=.returned (.agg (zn (oH key nonce aad plain t)))∧Below w.heap.size w w':=by
 have h0:=Blk.new w 122 (zn (List.replicate 16 0));have b0:=zX w (.cells (zn (List.replicate 16 0)) 122);obtain⟨w1,tv⟩:∃ w1,w.alloc (.cells (zn (List.replicate 16 0)) 122)=w1:=⟨_,rfl⟩
 have xZ:w1.heap.size=w.heap.size+1:=by rw[← tv,za]
 rw[tv]at h0 b0;have OX:=Hh (And.intro tv xZ);have HN:=Hh (And.intro uE rj);have HA:=Hh (And.intro me (And.intro hac hal));have HP:=Hh (And.intro hpn (And.intro Wb pe));have HT:=Hh ht;have HS:=Hh (And.intro qT (And.intro mz hsp));have HC:=Hh hC;have CH:=Hh (TI cg w1);obtain⟨X,hX⟩:∃ X,w1.heap.size+1=X:=⟨_,rfl⟩
 obtain⟨CB,Ky⟩:∃ CB,w1.heap.size=CB:=⟨_,rfl⟩
 rw[hX,Ky]at CH;have cO:Hid (w.heap.size<CB∧CB<X∧cg<w.heap.size):=by have:=hC.lt;rw[Hid];omega
 have Bf:=Hh Ky;clear uE rj me hac hal hpn Wb pe ht qT mz hsp hC tv xZ hX Ky;go_enter Tryz.func92,Tryz.ntmps92
 go_upto_region 1 with fail
 rw[show w.alloc (.cells #[.int .u8 0,.int .u8 0,.int .u8 0,.int .u8 0,.int .u8 0,.int .u8 0,.int .u8 0,.int .u8 0,.int .u8 0,.int .u8 0,.int .u8 0,.int .u8 0,.int .u8 0,.int .u8 0,.int .u8 0,.int .u8 0] 122)=w1 from OX.out.1];go_wp2_with fail
 refine CH.out.mono ?_
 rintro e w2 ⟨rfl,YU,hX,zD⟩
 have b2:=b0.trans (zD.mono (by have:=cO.out;omega));have h2:=h0.below (by rw[Bf.out];exact zD);clear h0 b0 zD CH;obtain⟨q,hq⟩:∃ q,t/2=q:=⟨_,rfl⟩
 obtain⟨q1,fR⟩:∃ x,q-1=x:=⟨_,rfl⟩
 obtain⟨q2,VS⟩:∃ x,8*q1=x:=⟨_,rfl⟩
 obtain⟨q3,BE⟩:∃ x,q2+14=x:=⟨_,rfl⟩
 obtain⟨q4,Iz⟩:∃ x,q3-nn=x:=⟨_,rfl⟩
 have t1:(t:Int).tdiv 2=(q:Int):=by rw[← hq];exact(Int.ofNat_tdiv t 2).symm
 have t1':(t:Int)/2=(q:Int):=by rw[← hq];omega
 have W0:IntKind.i64.wrap (q:Int)=(q:Int):=zP (by have:=HT.out;omega);have W1:IntKind.i64.wrap ((q:Int)-1)=(q1:Int):=by rw[show(q:Int)-1=(q1:Int) by have:=HT.out;omega];exact zP (by have:=HT.out;omega)
 have W2:IntKind.i64.wrap (8*(q1:Int))=(q2:Int):=by rw[show 8*(q1:Int)=(q2:Int) by omega];exact zP (by have:=HT.out;omega)
 have W3:IntKind.i64.wrap ((q2:Int)+14)=(q3:Int):=by rw[show(q2:Int)+14=(q3:Int) by omega];exact zP (by have:=HT.out;omega)
 have W4:IntKind.i64.wrap ((q3:Int)-(nn:Int))=(q4:Int):=by rw[show(q3:Int)-(nn:Int)=(q4:Int) by have:=HT.out;have:=HN.out;omega];exact zP (by have:=HT.out;omega)
 have W5:IntKind.u8.wrap (q4:Int)=(q4:Int):=by rw[IntKind.wrap_u8];have:=HT.out;omega
 have W6:IntKind.u8.wrap ((q4:Int)+64)=((q4+64:Nat):Int):=by rw[IntKind.wrap_u8];have:=HT.out;omega
 have W7:(q4:Int)%256=(q4:Int):=by have:=HT.out;omega
 have W8:((q4:Int)+64)%256=((q4+64:Nat):Int):=by have:=HT.out;omega
 have HF:Hid (vK nonce aad t=UInt8.ofNat (q4+if an=0 then 0 else 64)):=by
  rw[Hid,vK,← HA.out.1];congr 1
  have:=HN.out;have:=HT.out
  omega
 have HQ:Hid (q4<150):=by have:=HT.out;rw[Hid];omega
 clear hq fR VS BE Iz;go_upto_if 27 with fail
 go_cut [12] (fun s12 wx=>s12=zu (vK nonce aad t)∧Blk wx CB 120 #[.pointer (some ⟨cg,0,none⟩)]∧Blk wx X 122 (zn (List.replicate 16 0))∧Blk wx w.heap.size 122 (zn (List.replicate 16 0))∧Below w.heap.size w wx)
 case first =>
  by_cases ha:0<an
  ·have Sm:(0:Int)<(an:Int):=by omega
   have E:Hid (zu (vK nonce aad t)=.int .u8 ((q4+64:Nat):Int)):=by rw[Hid,HF.out,if_neg (by omega),RF (by have:=HQ.out;omega)]
   go_wp2_with fail
   go_meet
   exact⟨by rw[E.out,Int.natCast_add];rfl,YU,hX,h2,b2⟩
  have Sm:¬ (0:Int)<(an:Int):=by omega
  have E:Hid (zu (vK nonce aad t)=.int .u8 (q4:Int)):=by rw[Hid,HF.out,if_pos (by omega),Nat.add_zero,RF (by have:=HQ.out;omega)]
  go_wp2_with fail
  go_meet
  exact⟨by rw[E.out],YU,hX,h2,b2⟩
 case rest =>
 clear YU hX h2 b2 t1 t1' W0 W1 W2 W3 W4 W5 W6 W7 W8;obtain⟨rfl,YU,hX,h2,b2⟩:=hcut;have CT:=Hh (ju (vK nonce aad t) (c:=nc) HN.out.1 HN.out.2.2 pn (by have:=HP.out;omega) wc (HS.out.1.below b2));obtain⟨f,hf⟩:∃ f,vK nonce aad t=f:=⟨_,rfl⟩
 have Ep:=Hh hf;rw[hf]at CT⊢;clear hf HF;go_wp2_with fail
 refine CT.out.mono ?_
 rintro e w3 ⟨rfl,yR⟩
 have uw:=sA f HN.out.2.2 pn;obtain⟨ct,eH⟩:∃ l,uQ f nonce pn=l:=⟨_,rfl⟩
 have YE:=Hh eH;rw[eH]at uw⊢;have GV:=YU.below yR;have cS:=hX.below yR;have h3:=h2.below yR;have b3:=b2.trans (yR.mono b2.size);obtain⟨M,hM⟩:∃ M,w3.heap.size=M:=⟨_,rfl⟩
 have hz:=Blk.new w3 122 (zn (List.replicate 16 0));rw[hM]at hz;have HM:Hid (X<M):=by have:=cS.lt;rw[Hid];omega
 have GW:=GV.alloc (.cells (zn (List.replicate 16 0)) 122);have uq:=cS.alloc (.cells (zn (List.replicate 16 0)) 122);have h4:=h3.alloc (.cells (zn (List.replicate 16 0)) 122);have b4:=b3.alloc b3.size (.cells (zn (List.replicate 16 0)) 122);have Rt:=Hh hM;clear CT yR YU hX h2 b2 eH GV cS h3 b3 hM;go_wp2_with (with_reducible refine zx ?_)
 unfold zZ
 rw[Rt.out]
 refine zm rfl _ _ _ rfl rfl M (zn ct) rfl rfl _ _ hz (by rw[zg,uw];kernel_rfl) (by rw[zg,uw];rfl) (ym _) fun w5 h5c zK=>?_
 have Kw:=GW.grown zK (by intro e;injection e with e;have:=HM.out;have:=cO.out;omega);have iZ:=uq.grown zK (by intro e;injection e with e;have:=HM.out;omega);have h5:=h4.grown zK (by intro e;injection e with e;have:=HM.out;have:=cO.out;omega);have b5:=b4.grown zK b4.size (by rintro q ⟨⟩;have:=HM.out;have:=cO.out;omega)
 have T1:=Hh (gI (t7 key) (L:=L) hBS (A:=some ⟨M,0,none⟩) (n:=16) (c:=16) uw.symm (Nat.le_refl _) (by omega) (by intro _ a ha;injection ha with ha;subst ha;have:=HM.out;show M≠X;omega) (by have:=cO.out;omega) (by have:=cO.out;omega) w5
  (fun _=>⟨M,0,rfl,fun j v hj=>h5c.cell _ (by rw[Nat.zero_add];simpa [zn] using hj)⟩) (x:=List.replicate 16 0) rfl iZ Kw (HC.out.below b5))
 clear hz GW uq h4 b4 zK;go_wp2_with fail
 refine T1.out.mono ?_
 rintro e w6 ⟨rfl,sy,vt⟩
 rw[← js]at sy;have RL:=Kw.grown vt (by intro e;injection e with e;have:=cO.out;omega);have h6:=h5.grown vt (by intro e;injection e with e;have:=cO.out;omega);have b6:=b5.grown vt b5.size (by rintro q ⟨⟩;have:=cO.out;omega);clear T1 iZ Kw h5 b5 vt h5c;obtain⟨x1,rl⟩:∃ x,kK key (List.replicate 16 0) ct=x:=⟨_,rfl⟩
 have La:x1.length=16:=by rw[← rl];exact qx _ _ rfl
 have HX1:=Hh rl;rw[rl]at sy;clear rl;go_upto_if 40 with fail
 go_cut [] (fun wx=>Blk wx X 122 (zn (if an=0 then x1 else kK key x1 (pW aad)))∧Blk wx CB 120 #[.pointer (some ⟨cg,0,none⟩)]∧Blk wx w.heap.size 122 (zn (List.replicate 16 0))∧Below w.heap.size w wx)
 case first =>
  by_cases ha:0<an
  ·have Sm:(0:Int)<(an:Int):=by omega
   have hq:(an:Int)/256=((an/256:Nat):Int):=by omega
   obtain⟨q,VS⟩:∃ q,an/256=q:=⟨_,rfl⟩
   rw[VS]at hq;have U1:=Xm q;have U2:=Xm an;have P8:Hid (UInt8.ofNat (q%256)::UInt8.ofNat (an%256)::aad=pW aad):=by rw[Hid,pW,← HA.out.1,VS]
   obtain⟨u1,BO⟩:∃ u,UInt8.ofNat (q%256)=u:=⟨_,rfl⟩
   obtain⟨u2,MF⟩:∃ u,UInt8.ofNat (an%256)=u:=⟨_,rfl⟩
   rw[BO]at U1 P8;rw[MF]at U2 P8;have m1:(q:Int)%256=(u1.toNat:Int):=by have h:=U1;rw[IntKind.wrap_u8]at h;injection h with _ h;exact h.symm
   have m2:(an:Int)%256=(u2.toNat:Int):=by have h:=U2;rw[IntKind.wrap_u8]at h;injection h with _ h;exact h.symm
   have hO:=OwnB.lit w6 w6.heap.size [u1,u2] #[zu u1,zu u2] 2 rfl rfl (Nat.le_refl _) (by simp);have jn:=sy.alloc (.cells #[zu u1,zu u2] 5);have GX:=RL.alloc (.cells #[zu u1,zu u2] 5);have h7:=h6.alloc (.cells #[zu u1,zu u2] 5);have b7:=b6.alloc b6.size (.cells #[zu u1,zu u2] 5);obtain⟨G,hG⟩:∃ G,w6.heap.size=G:=⟨_,rfl⟩
   have HG:Hid (X<G∧CB<G∧w.heap.size<G):=by have:=sy.lt;have:=RL.lt;have:=h6.lt;rw[Hid];omega
   have HGN:=Hh hG;rw[hG]at hO;clear sy RL h6 b6 BO MF U1 U2 VS hG;go_wp2_with (at_builtin;refine zh ?_)
   unfold zZ
   try rw[HGN.out]
   refine zv rfl (.tmp 49) (.tmp 50) rfl G _ [u1,u2] rfl hO AA an ac aad rfl HA.out.1 (HS.out.2.1.below b7) (by have:=HA.out;simp;omega) (by rw[za,HGN.out];omega) fun v' w8 sk hg8 hat8=>?_
   obtain⟨A8,c8,rfl,Au,_⟩:=sk.form;rw[show [u1,u2]++aad=pW aad from P8.out]at sk Au;have ma:=jn.grown hg8 (by show some G≠some (X);intro e;injection e with e;have:=HG.out;omega);have Kx:=GX.grown hg8 (by show some G≠some (CB);intro e;injection e with e;have:=HG.out;omega);have h8:=h7.grown hg8 (by show some G≠some (w.heap.size);intro e;injection e with e;have:=HG.out;omega);have b8:=b7.grown hg8 b7.size (by show ∀ q,some G=some q→w.heap.size≤q;rintro q ⟨⟩;have:=HG.out;omega)
   have T2:=Hh (gI (t7 key) (L:=L) hBS (A:=A8) (n:=(pW aad).length) (c:=c8) rfl Au (by have:=HA.out;simp[pW];omega) (by
     intro _ a ha e
     have h1:=(sk.lt a.block (by rw[ha];rfl)).1;have:=HG.out
     omega) (by have:=cO.out;omega) (by have:=cO.out;omega) w8 sk.src La ma Kx (HC.out.below b8))
   have kW:([u1,u2]++aad).length=(pW aad).length:=congrArg List.length P8.out;rw[kW];clear hO hg8 hat8 jn GX h7 b7 kW;go_wp2_with fail
   refine T2.out.mono ?_
   rintro e w9 ⟨rfl,sm,xt⟩
   rw[← js]at sm;have Bt:=Kx.grown xt (by intro e;injection e with e;have:=cO.out;omega);have h9:=h8.grown xt (by intro e;injection e with e;have:=cO.out;omega);have b9:=b8.grown xt b8.size (by rintro q ⟨⟩;have:=cO.out;omega);clear T2 ma Kx h8 b8 xt sk;go_wp2_with fail
   go_meet
   exact⟨by rw[if_neg (by omega)];exact sm,Bt,h9,b9⟩
  have Sm:¬ (0:Int)<(an:Int):=by omega
  go_wp2_with fail
  go_meet
  exact⟨by rw[if_pos (by omega)];exact sy,RL,h6,b6⟩
 case rest =>
 clear sy RL h6 b6;obtain⟨hX,YU,h0,b0⟩:=hcut;obtain⟨x2,oM⟩:∃ x,(if an=0 then x1 else kK key x1 (pW aad))=x:=⟨_,rfl⟩
 have Hg:x2.length=16:=by rw[← oM];split;exact La;exact qx _ _ La
 have JF:Hid (oH key nonce aad plain t=kK key x2 plain):=by
  rw[Hid,oH,Ep.out,← HP.out.1,YE.out,HX1.out,← oM,← HA.out.1]
 rw[oM]at hX;have T3:=Hh (gI (t7 key) (L:=L) hBS (A:=PA) (n:=pn) (c:=pc) HP.out.1 HP.out.2.1 (by have:=HP.out;omega) (Src.apart HS.out.2.2 (by have:=cO.out;omega)) (by have:=cO.out;omega) (by have:=cO.out;omega) _ (HS.out.2.2.below b0) Hg hX YU (HC.out.below b0));have zl:=qx key plain Hg;rw[← js]at T3;obtain⟨z,hz⟩:∃ z,kK key x2 plain=z:=⟨_,rfl⟩
 rw[hz]at T3 zl JF;clear oM hz;go_wp2_with fail
 refine T3.out.mono ?_
 rintro e w11 ⟨rfl,Up,mH⟩
 have JK:=h0.grown mH (by intro e;injection e with e;have:=cO.out;omega);have b11:=b0.grown mH b0.size (by rintro q ⟨⟩;have:=cO.out;omega);clear T3 hX YU h0 b0 mH Up;go_wp2_with (with_reducible refine zx ?_)
 refine zm rfl _ _ _ rfl rfl w.heap.size (zn z) rfl rfl _ _ JK (by rw[zg,zl];kernel_rfl) (by rw[zg,zl];rfl) (ym _) fun w12 FH hg12=>?_
 have b12:=b11.grown hg12 b11.size (by rintro q ⟨⟩;omega);clear JK b11 hg12;go_wp2_with fail
 exact xU rfl rfl FH rfl rfl (by rw[zg,zl];kernel_rfl) rfl ⟨by rw[JF.out],b12⟩
end Go.Proofs.YtkmlnjociijpgaaGreatDoor
