/- squeezed. Walks: the program's widen. Walks: -/
import Derived.Test.YtnlinmoiakgedaaGreatDoorK18
import Derived.BigQuiet
import Derived.OwnWalk
import Derived.Test.YtnlinmoiakgedaaGreatDoorK14
set_option linter.unusedVariables false
set_option linter.unusedSimpArgs false
set_option maxRecDepth 100000
set_option maxHeartbeats 6400000
namespace Go.Proofs.YtnlinmoiakgedaaGreatDoor
open Go.RowKit
theorem kG {D e m:Nat}(h:Pos D e m) (k:Int) (q:Nat) (hk : -1000≤k∧k≤1000) (hq:(e:Int)+k=(q:Int)) (hq2:2≤q∧q≤2045) (w:World) :
  Calls Tryz.prog 127 #[.float .f64 D,.int .i64 k] w fun e w'=>e=.returned (.float .f64 (q*4503599627370496+m))∧w'=w:=by
 have L:=Hh (fun w=>dG h k q hk hq hq2 w);clear h hk hq hq2;go_enter Tryz.func127,Tryz.ntmps127
 go_wp2_with fail
 refine(L.out _).mono ?_
 rintro e w1 ⟨rfl,rfl⟩
 go_wp2_with fail
 go_ret
 exact⟨rfl,rfl⟩
theorem er (k:Int) (w:World):Calls Tryz.prog 131 #[.float .f64 0,.int .i64 k] w fun e w'=>e=.returned (.float .f64 0)∧w'=w:=by
 have o0:(FloatKind.f64.format.order 0 0==some .eq)=true:=by decide +kernel
 go_enter Tryz.func131,Tryz.ntmps131
 go_wp2_with fail
 go_ret
 exact⟨rfl,rfl⟩
theorem ep (k:Int) (w:World):Calls Tryz.prog 127 #[.float .f64 0,.int .i64 k] w fun e w'=>e=.returned (.float .f64 0)∧w'=w:=by
 have L:=Hh (fun w=>er k w);go_enter Tryz.func127,Tryz.ntmps127
 go_wp2_with fail
 refine(L.out _).mono ?_
 rintro e w1 ⟨rfl,rfl⟩
 go_wp2_with fail
 go_ret
 exact⟨rfl,rfl⟩
theorem fJ {D:Nat}(h:D<9223372036854775808):bits .or .u64 (D:Int) 9223372036854775808=((9223372036854775808+D:Nat):Int):=by
 have h1:=Nat.shiftLeft_add_eq_or_of_lt (show D<2 ^ 63 by simpa using h) 1;rw[Nat.shiftLeft_eq]at h1;have:=u64_or_nat D 9223372036854775808 (by omega) (by omega);rw[show((9223372036854775808:Nat):Int)=9223372036854775808 from rfl]at this;rw[this,Nat.or_comm]
 simp only[Nat.reducePow,Nat.one_mul]at h1
 rw[← h1]
theorem tJ {D:Nat}(h:D<9223372036854775808) (w:World):Calls Tryz.prog 128 #[.float .f64 D,.float .f64 13830554455654793216] w fun e w'=>e=.returned (.float .f64 (9223372036854775808+D))∧w'=w:=by
 have r1:=yB D;have r2:∀ w,(callFunc 89 #[.float .f64 13830554455654793216]).run Tryz.prog w=.ok (.value (.int .u64 13830554455654793216)) w:=yB 13830554455654793216;have K1:=qO h;have K2:bits .and .u64 13830554455654793216 9223372036854775808=9223372036854775808:=by decide +kernel
 have K3:=fJ h;obtain⟨R,hR⟩:∃ R,9223372036854775808+D=R:=⟨_,rfl⟩
 rw[hR]at K3;rw[hR];have r3:=vZ R;clear h hR;go_enter Tryz.func128,Tryz.ntmps128
 go_wp2_with fail
 go_ret
 exact⟨rfl,rfl⟩
def wi (v:Nat):Nat:=if v/1024%32=31∧v%1024≠0 then zT else xJ v
theorem bg {v k:Nat}(hv:v<65536) (hk:k≤16):bits .and .u16 (v:Int) ((2 ^ k-1:Nat):Int)=((v%2 ^ k:Nat):Int):=by
 have:2 ^ k≤2 ^ 16:=Nat.pow_le_pow_right (by omega) hk;rw[u16_and_nat v (2 ^ k-1) (by omega) (by omega),Nat.and_two_pow_sub_one_eq_mod]
theorem bN {n t:Nat}(h0:n≠0) (ht:n.log2=t) (hn:n<2048):Pos (dbl n) (1023+t) (n*2 ^ (52-t)-4503599627370496):=by
 subst ht;have a1:2 ^ n.log2≤n:=Nat.log2_self_le h0;have a2:n<2 ^ (n.log2+1):=Nat.lt_log2_self;have a3:n.log2<11:=(Nat.log2_lt h0).2 (by simpa using hn);have b:=rP a1 a2 (by omega)
 exact⟨by rw[dbl,if_neg h0],by omega,by omega,by omega⟩
theorem Tl (f:Nat):(f+1024)*4398046511104-4503599627370496=f*4398046511104:=by omega
def YR (w:World) (v:Nat) (e:Ending) (w':World):Prop:=e=.returned (.int .u64 (wi v:Int))∧w'=w
theorem cS (v:Nat) (hv:v<65536) (w:World):Calls Tryz.prog 119 #[.int .u16 (v:Int)] w (YR w v):=by
 have A1:bits .and .u16 (v:Int) 1023=((v%1024:Nat):Int):=bg (k:=10) hv (by omega);obtain⟨u,hu⟩:∃ u,v/1024=u:=⟨_,rfl⟩
 have A2:bits .and .u16 (u:Int) 31=((u%32:Nat):Int):=bg (k:=5) (by omega) (by omega);have Vf:u%32=v/1024%32:=by rw[hu]
 rw[Vf]at A2;obtain⟨s,hs⟩:∃ s,v/32768=s:=⟨_,rfl⟩
 obtain⟨x,hx⟩:∃ x,v/1024%32=x:=⟨_,rfl⟩
 obtain⟨f,hf⟩:∃ f,v%1024=f:=⟨_,rfl⟩
 have xE:s≤1:=by omega
 have pD:x≤31:=by omega
 have nG:f<1024:=by omega
 have W:=Hh (show wi v=(if x=31∧f≠0 then zT else if x=31 then s*9223372036854775808+9218868437227405312+f*4398046511104
  else if x=0 then(if f=0 then s*9223372036854775808 else s*9223372036854775808+(999+f.log2)*4503599627370496+(f*2 ^ (52-f.log2)-4503599627370496))
  else s*9223372036854775808+(x+1008)*4503599627370496+f*4398046511104) by rw[wi,xJ,hs,hx,hf])
 rw[hf]at A1;rw[hx]at A2;have S1:(v:Int)/32768=(s:Int):=by omega
 have S2:(v:Int)/1024=(u:Int):=by omega
 have FI:floatOfInt .f64 (f:Int)=dbl f:=oM ⟨f,nG⟩;have HX:=Hh (And.intro xE (And.intro pD nG));have Ki:(v:Int)/32768=(s:Int):=S1;have Qk:(s:Int)≤1:=by omega
 clear hs hx hf hv hu Vf
 by_cases cA:x=31
 ·subst cA
  by_cases hf0:f=0
  ·subst hf0;have FI0:floatOfInt .f64 0=0:=oM 0;have WQ:Hid (wi v=s*9223372036854775808+9218868437227405312):=by rw[Hid,W.out,if_neg (by simp),if_pos rfl];try omega
   have IF:=Hh (fun w=>Xv w);clear FI W;go_enter Tryz.func119,Tryz.ntmps119
   go_wp2_with fail
   refine(IF.out _).mono ?_
   rintro e w1 ⟨rfl,rfl⟩
   obtain⟨D,hD⟩:∃ D,9218868437227405312=D:=⟨_,rfl⟩
   rw[hD]at WQ;rw[hD];have HD:=Hh hD;clear hD;have RS:=Hh (yB D)
   rcases(by have:=HX.out.1;omega:s=0∨s=1) with rfl | rfl
   ·have r9:=yB D;have WW:Hid (wi v=D):=by rw[Hid,WQ.out];try omega
    go_wp2_with fail
    go_ret
    exact⟨by rw[WW.out];try rfl,rfl⟩
   ·have CS:=Hh (fun w=>tJ (D:=D) (by rw[← HD.out];omega) w);obtain⟨R,hR⟩:∃ R,9223372036854775808+D=R:=⟨_,rfl⟩
    rw[hR]at CS;have WW:Hid (wi v=R):=by rw[Hid,← hR,WQ.out];try omega
    have r9:=yB R;clear hR;go_wp2_with fail
    refine(CS.out _).mono ?_
    rintro e w1 ⟨rfl,rfl⟩
    go_wp2_with fail
    go_ret
    exact⟨by rw[WW.out];try rfl,rfl⟩
  ·have f0:((f:Int) != 0)=true:=by simp;omega
   have f0':((f:Int)=0)=False:=eq_false (by omega);have WW:Hid (wi v=zT):=by rw[Hid,W.out,if_pos ⟨rfl,hf0⟩]
   clear W hf0;go_enter Tryz.func119,Tryz.ntmps119
   go_wp2_with fail
   go_ret
   exact⟨by rw[WW.out];try rfl,rfl⟩
 have x31:((x:Int)==31)=false:=by simp;omega
 have x31':((x:Int)=31)=False:=eq_false (by omega)
 by_cases h0:x=0
 ·subst h0
  by_cases hf0:f=0
  ·subst hf0;have FI0:floatOfInt .f64 0=0:=oM 0;have WQ:Hid (wi v=s*9223372036854775808+0):=by rw[Hid,Nat.add_zero,W.out,if_neg (by omega),if_neg (by omega),if_pos rfl,if_pos rfl]
   have LD:=Hh (fun w=>ep (-24) w);clear FI W cA;go_enter Tryz.func119,Tryz.ntmps119
   go_wp2_with fail
   refine(LD.out _).mono ?_
   rintro e w1 ⟨rfl,rfl⟩
   obtain⟨D,hD⟩:∃ D:Nat,0=D:=⟨_,rfl⟩
   rw[hD]at WQ;have HD:=Hh hD;rw[show(Value.float FloatKind.f64 0)=Value.float FloatKind.f64 D by rw[hD]];clear hD;have RS:=Hh (yB D)
   rcases(by have:=HX.out.1;omega:s=0∨s=1) with rfl | rfl
   ·have r9:=yB D;have WW:Hid (wi v=D):=by rw[Hid,WQ.out];try omega
    go_wp2_with fail
    go_ret
    exact⟨by rw[WW.out];try rfl,rfl⟩
   ·have CS:=Hh (fun w=>tJ (D:=D) (by rw[← HD.out];omega) w);obtain⟨R,hR⟩:∃ R,9223372036854775808+D=R:=⟨_,rfl⟩
    rw[hR]at CS;have WW:Hid (wi v=R):=by rw[Hid,← hR,WQ.out];try omega
    have r9:=yB R;clear hR;go_wp2_with fail
    refine(CS.out _).mono ?_
    rintro e w1 ⟨rfl,rfl⟩
    go_wp2_with fail
    go_ret
    exact⟨by rw[WW.out];try rfl,rfl⟩
  ·obtain⟨t,ht⟩:∃ t,f.log2=t:=⟨_,rfl⟩
   have hP:=bN hf0 ht (by omega);have TF:t<10:=by rw[← ht];exact(Nat.log2_lt hf0).2 (by simpa using nG)
   have LD:=Hh (fun w=>kG hP (-24) (999+t) (by omega) (by omega) (by omega) w);obtain⟨D,hD⟩:∃ D,(999+t)*4503599627370496+(f*2 ^ (52-t)-4503599627370496)=D:=⟨_,rfl⟩
   have mD:D<9223372036854775808:=by have:=hP.m_lt;omega
   have WQ:Hid (wi v=s*9223372036854775808+D):=by rw[Hid,W.out,if_neg (by omega),if_neg (by omega),if_pos rfl,if_neg hf0,ht,← hD,Nat.add_assoc]
   rw[hD]at LD;obtain⟨Q,hQ⟩:∃ Q,dbl f=Q:=⟨_,rfl⟩
   rw[hQ]at FI LD;have HD:=Hh mD;clear W cA hf0 hP hD mD hQ ht TF;go_enter Tryz.func119,Tryz.ntmps119
   go_wp2_with fail
   refine(LD.out _).mono ?_
   rintro e w1 ⟨rfl,rfl⟩
   have RS:=Hh (yB D)
   rcases(by have:=HX.out.1;omega:s=0∨s=1) with rfl | rfl
   ·have r9:=yB D;have WW:Hid (wi v=D):=by rw[Hid,WQ.out];try omega
    go_wp2_with fail
    go_ret
    exact⟨by rw[WW.out];try rfl,rfl⟩
   ·have CS:=Hh (fun w=>tJ (D:=D) (by exact HD.out) w);obtain⟨R,hR⟩:∃ R,9223372036854775808+D=R:=⟨_,rfl⟩
    rw[hR]at CS;have WW:Hid (wi v=R):=by rw[Hid,← hR,WQ.out];try omega
    have r9:=yB R;clear hR;go_wp2_with fail
    refine(CS.out _).mono ?_
    rintro e w1 ⟨rfl,rfl⟩
    go_wp2_with fail
    go_ret
    exact⟨by rw[WW.out];try rfl,rfl⟩
 have x0:((x:Int)==0)=false:=by simp;omega
 have x0':((x:Int)=0)=False:=eq_false (by omega);have hP:=bN (n:=f+1024) (t:=10) (by omega) (by rw[Nat.log2_eq_iff (by omega)];constructor <;> omega) (by omega);rw[show(52:Nat)-10=42 from rfl,show(2:Nat) ^ 42=4398046511104 by decide,Tl]at hP;have LD:=Hh (fun w=>kG hP ((x:Int)-25) (x+1008) (by omega) (by omega) (by omega) w)
 have AD:∀ w,(binOp .add 118 (.float .f64 (dbl f)) (.float .f64 4652218415073722368)).run Tryz.prog w=.ok (.float .f64 (dbl (f+1024))) w:=fun w=>run_float_arith w .add _ .f64 _ _ _ (by
  have:=Vl ⟨f,nG⟩;rw[show dbl 1024=4652218415073722368 by decide +kernel]at this
  exact this)
 have KS:IntKind.i64.wrap ((x:Int)-25)=(x:Int)-25:=IntWalk.i64_in _ (by omega);obtain⟨D,hD⟩:∃ D,(x+1008)*4503599627370496+f*4398046511104=D:=⟨_,rfl⟩
 have mD:D<9223372036854775808:=by have:=hP.m_lt;omega
 have WQ:Hid (wi v=s*9223372036854775808+D):=by
  rw[Hid,W.out,if_neg (by omega),if_neg (by omega),if_neg h0,← hD];rw[Nat.add_assoc]
 rw[hD]at LD;obtain⟨Q,hQ⟩:∃ Q,dbl f=Q:=⟨_,rfl⟩
 obtain⟨Q2,NE⟩:∃ Q2,dbl (f+1024)=Q2:=⟨_,rfl⟩
 rw[hQ]at FI AD;rw[NE]at AD LD;have HD:=Hh mD;have pY:(x:Int)≤31:=by omega
 clear W cA h0 hP hD mD hQ NE;go_enter Tryz.func119,Tryz.ntmps119
 go_wp2_with fail
 refine(LD.out _).mono ?_
 rintro e w1 ⟨rfl,rfl⟩
 have RS:=Hh (yB D)
 rcases(by have:=HX.out.1;omega:s=0∨s=1) with rfl | rfl
 ·have r9:=yB D;have WW:Hid (wi v=D):=by rw[Hid,WQ.out];try omega
  go_wp2_with fail
  go_ret
  exact⟨by rw[WW.out];try rfl,rfl⟩
 ·have CS:=Hh (fun w=>tJ (D:=D) (by exact HD.out) w);obtain⟨R,hR⟩:∃ R,9223372036854775808+D=R:=⟨_,rfl⟩
  rw[hR]at CS;have WW:Hid (wi v=R):=by rw[Hid,← hR,WQ.out];try omega
  have r9:=yB R;clear hR;go_wp2_with fail
  refine(CS.out _).mono ?_
  rintro e w1 ⟨rfl,rfl⟩
  go_wp2_with fail
  go_ret
  exact⟨by rw[WW.out];try rfl,rfl⟩
abbrev sZ (A:Option Addr) (n c p cnt:Nat):Array Value:=#[.slice A n c,.int .i64 (p:Int),.int .i64 (cnt:Int)]
structure Psr (T:TypeId) (w:World) (g:Nat) (H:Snap) (A:Option Addr) (c:Nat) (l:List UInt8) (p cnt:Nat):Prop where
 blk:Blk w g T (sZ A l.length c p cnt)
 bytes:IsBytes H A c l
 holds:Holds w H
 apart:H g=none
 le:p≤l.length
 small:l.length≤4096
 cnt_le:cnt≤256
theorem wD {w0 w:World}{r:Option Nat}(h:w0.grownBy w r):∀ q,w0.grownBy (w.drewN q) r
 | 0=>h
 | q+1=>tO (wD h q)
def bI (T:TypeId) (w:World) (g:Nat) (A:Option Addr) (c:Nat) (l:List UInt8) (p cnt z:Nat) (e:Ending) (w':World):Prop :=
 (l.length<p+z∧e=.returned (.tuple #[.int .u64 0,.bool false])∧Blk w' g T (sZ A l.length c p cnt)∧w.grownBy w' (some g))∨
 (p+z≤l.length∧e=.returned (.tuple #[.int .u64 (beN ((l.drop p).take z):Int),.bool true])∧Blk w' g T (sZ A l.length c (p+z) cnt)∧w.grownBy w' (some g))
theorem W5 (x c:Nat) (hc:c<256):x*256 ||| c=x*256+c:=by
 have h:=Nat.shiftLeft_add_eq_or_of_lt (show c<2 ^ 8 by omega) x;rw[Nat.shiftLeft_eq]at h
 exact h.symm
theorem mW (x c:Nat) (hx:x*256<18446744073709551616) (hc:c<256):bits .or .u64 ((x:Int)*256) (c:Int)=((x*256+c:Nat):Int):=by
 rw[show((x:Int)*256)=((x*256:Nat):Int) by omega,u64_or_nat _ _ hx (by omega),W5 x c hc]
theorem fQ (l:List UInt8) (k:Nat) (hk:k<l.length):beN (l.take (k+1))=beN (l.take k)*256+l[k].toNat:=by
 rw[List.take_succ_eq_append_getElem hk,Xg]
theorem mJ (l:List UInt8) (k:Nat) (hk:k<8):beN (l.take k)*256<18446744073709551616:=by
 have h:=xm (l.take k);have h2:(l.take k).length≤7:=by rw[List.length_take];omega
 have h3:(256:Nat) ^ (l.take k).length≤256 ^ 7:=Nat.pow_le_pow_right (by omega) h2;have h4:(256:Nat) ^ 7=72057594037927936:=by decide
 omega
theorem zE:(Tryz.prog.info? 3).map (·.size)=some 1:=by kernel_rfl
theorem nf {w:World}{g:Nat}{H:Snap}{A:Option Addr}{c:Nat}{l:List UInt8}{p cnt:Nat}(hP:Psr 108 w g H A c l p cnt) (z:Nat) (sB:1≤z) (cL:z≤8) :
  Calls Tryz.prog 118 #[.pointer (some ⟨g,0,none⟩),.int .i64 (z:Int)] w (bI 108 w g A c l p cnt z):=by
 have hB:=hP.blk;have c0:=hB.cell 0 rfl;have c1:=hB.cell 1 rfl;have HP:=Hh hP;have o9:=hP.le;have qT:=hP.small;have q8:=hP.bytes.le;have pA:=hP.bytes.max;have HZ:=Hh (And.intro sB cL);have MA:(z:Int)≤8:=by omega
 have jl:(p:Int)≤(l.length:Int):=by omega
 have oc:(l.length:Int)≤4096:=by omega
 have K0:IntKind.i64.wrap ((l.length:Int)-(p:Int))=(l.length:Int)-(p:Int):=IntWalk.i64_in _ (by omega)
 by_cases yi:l.length<p+z
 ·have z0:(l.length:Int)-(p:Int)<(z:Int):=by omega
  have HL:=Hh yi;clear sB cL o9 qT q8 pA hP yi;go_enter Tryz.func118,Tryz.ntmps118
  go_wp2_with fail
  go_big_quiet (fail)
  go_wp2_with fail
  go_ret2
  exact .inl ⟨HL.out,rfl,hB,wD (yU w _) _⟩
 ·have z0:¬ ((l.length:Int)-(p:Int)<(z:Int)):=by omega
  have z0b:decide ((l.length:Int)-(p:Int)<(z:Int))=false:=decide_eq_false z0;have K1:IntKind.i64.wrap ((p:Int)+(z:Int))=(p:Int)+(z:Int):=IntWalk.i64_in _ (by omega);have t8:(p:Int)≤(p:Int)+(z:Int):=by omega
  have tA:(p:Int)+(z:Int)≤(c:Int):=by omega
  have Kc:(p:Int)≤(c:Int):=by omega
  have jk:(0:Int)≤(p:Int):=by omega
  have jZ:(c=p)=False:=eq_false (by omega);obtain⟨b,off,rfl,xq⟩:=hP.bytes.at_ (by omega);have HC:=Hh xq;have HH:=Hh hP.holds;have HL:=Hh (Nat.not_lt.1 yi);clear sB cL o9 qT q8 pA hP xq yi;go_enter Tryz.func118,Tryz.ntmps118
  go_wp2_with fail
  go_big_quiet (fail)
  obtain⟨w1,o3⟩:∃ W,w.drewN nq=W:=⟨_,rfl⟩
  have yM:Blk w1 g 108 (sZ (some ⟨b,off,none⟩) l.length c p cnt):=o3 ▸ hB;have ws:w.grownBy w1 (some g):=o3 ▸ wD (yU w _) _;have qG:Holds w1 H:=o3 ▸ HH.out;rw[o3];clear o3 c0 c1;have c0:=yM.cell 0 rfl;have c1:=yM.cell 1 rfl;go_wp2_with fail
  go_big_quiet (fail)
  go_wp2_with fail
  obtain⟨W,hW⟩:∃ W,w1.drewN nq=W:=⟨_,rfl⟩
  have TO:Blk W g 108 (sZ (some ⟨b,off,none⟩) l.length c p cnt):=hW ▸ yM;have Se:w.grownBy W (some g):=hW ▸ wD ws _;have QT:Holds W H:=hW ▸ qG;rw[hW];clear hW c0 c1 hB yM ws qG;have E:Hid ((l.drop p).length=l.length-p):=List.length_drop;go_loopw [6,8,37] (fun v6 v8 v37 wr=>wr=W∧∃ k:Nat,k≤z∧v37=.int .i64 (k:Int)∧v6=.int .u64 (beN ((l.drop p).take k):Int)) (fun _ _ v37 _=>z-(intOf v37).toNat)
  case atStart=>exact⟨rfl,0,Nat.zero_le _,rfl,rfl⟩
  case round =>
   obtain⟨rfl,k,hk,rfl,rfl⟩:=hrel
   by_cases Py:k<z
   ·have so:p+k<l.length:=by have:=HL.out;omega
    have OX:(k:Int)<(z:Int):=by omega
    have pX:k<(l.drop p).length:=by have:=E.out;omega
    have q0:=QT.cell (HC.out (p+k) so);rw[← Nat.add_assoc]at q0;have ex:(l.drop p)[k]=l[p+k]:=by rw[List.getElem_drop]
    have hX:=mJ (l.drop p) k (by have:=HZ.out;omega);have hS:=fQ (l.drop p) k pX;rw[ex]at hS;obtain⟨X,rG⟩:∃ X,beN ((l.drop p).take k)=X:=⟨_,rfl⟩
    obtain⟨ch,rH⟩:∃ ch,l[p+k]=ch:=⟨_,rfl⟩
    rw[rG]at hX hS⊢;rw[rH]at hS q0;have lc:=ch.toNat_lt;have K2:IntKind.u64.wrap ((X:Int)*256)=(X:Int)*256:=by rw[IntKind.wrap_u64];omega
    have K3:bits .or .u64 ((X:Int)*256) (ch.toNat:Int)=((X*256+ch.toNat:Nat):Int):=mW X _ hX lc;have HS:=Hh hS;have tG:(k:Int)+1≤9223372036854775807:=by have:=HZ.out;omega
    clear hX hS rG rH ex pX;go_wp2_with fail
    go_roundw
    case rel=>exact⟨by trivial,k+1,by omega,by go_num,by rw[HS.out,Int.natCast_add,Int.natCast_mul];rfl⟩
    case measure=>simp[intOf];omega
   ·have eW:k=z:=by omega
    subst eW;have wy:¬ ((k:Int)<(k:Int)):=by omega
    have c1:=TO.cell 1 rfl;obtain⟨X,rG⟩:∃ X,beN ((l.drop p).take k)=X:=⟨_,rfl⟩
    rw[rG];have HX:=Hh rG;clear rG;go_wp2_with (with_reducible refine zx ?_)
    refine zu rfl _ _ _ rfl rfl g 1 (.int .i64 ((p:Int)+(k:Int))) rfl rfl _ _ TO zE (by simp) rfl fun w2 yu yp=>?_
    have yO:=yV Se yp (.inl rfl)
    have wO:Blk w2 g 108 (sZ (some ⟨b,off,none⟩) l.length c (p+k) cnt):=by
     have e:((p+k:Nat):Int)=(p:Int)+(k:Int):=by omega
     rw[sZ,e]
     exact yu
    clear yu yp TO Se c1;go_wp2_with fail
    go_ret2
    exact .inr ⟨HL.out,by rw[HX.out];rfl,wO,yO⟩
def HeadSaid (T:TypeId) (w:World) (g:Nat) (A:Option Addr) (c:Nat) (l:List UInt8) (p cnt:Nat) (e:Ending) (w':World):Prop :=
 match zj (l.drop p) with
 | .error q=>e=.returned (.tuple #[.int .u8 0,.int .u64 0,.int .i64 (q:Int)])∧(∃ p',p'≤l.length∧Blk w' g T (sZ A l.length c p' cnt))∧w.grownBy w' (some g)
 | .ok (f,n,k)=>e=.returned (.tuple #[.int .u8 (f:Int),.int .u64 (n:Int),.int .i64 0])∧Blk w' g T (sZ A l.length c (p+k) cnt)∧w.grownBy w' (some g)
theorem HeadSaid.err {T:TypeId}{w w':World}{g:Nat}{A:Option Addr}{c:Nat}{l:List UInt8}{p cnt:Nat}{e:Ending}{q:Nat}(h:zj (l.drop p)=.error q) (he:e=.returned (.tuple #[.int .u8 0,.int .u64 0,.int .i64 (q:Int)]))
  (p':Nat) (hp:p'≤l.length) (hb:Blk w' g T (sZ A l.length c p' cnt)) (hg:w.grownBy w' (some g)):HeadSaid T w g A c l p cnt e w':=by
 rw[HeadSaid,h];exact⟨he,⟨p',hp,hb⟩,hg⟩
theorem HeadSaid.ok {T:TypeId}{w w':World}{g:Nat}{A:Option Addr}{c:Nat}{l:List UInt8}{p cnt:Nat}{e:Ending}{f n k:Nat}(h:zj (l.drop p)=.ok (f,n,k)) (he:e=.returned (.tuple #[.int .u8 (f:Int),.int .u64 (n:Int),.int .i64 0]))
  (hb:Blk w' g T (sZ A l.length c (p+k) cnt)) (hg:w.grownBy w' (some g)):HeadSaid T w g A c l p cnt e w':=by
 rw[HeadSaid,h];exact⟨he,hb,hg⟩
theorem oo:∀ X:Fin 256,bits .and .u8 ((X.val:Nat):Int) 31=((X.val%32:Nat):Int):=by decide
theorem uQ {l:List UInt8}{p:Nat}(hp:p<l.length):l.drop p=l[p]::l.drop (p+1):=List.drop_eq_getElem_cons hp
theorem rb {w:World}{g:Nat}{H:Snap}{A:Option Addr}{c:Nat}{l:List UInt8}{p cnt:Nat}(hP:Psr 108 w g H A c l p cnt) :
  Calls Tryz.prog 93 #[.pointer (some ⟨g,0,none⟩)] w (HeadSaid 108 w g A c l p cnt):=by
 have hB:=hP.blk;have c0:=hB.cell 0 rfl;have c1:=hB.cell 1 rfl;have o9:=hP.le;have qT:=hP.small;have q8:=hP.bytes.le;have pA:=hP.bytes.max;have HP:=Hh hP
 by_cases yi:p=l.length
 ·have E:Hid (zj (l.drop p)=.error 2):=by rw[Hid,yi,List.drop_length];rfl
  have z0:((p:Int)==(l.length:Int))=true:=by simp[yi]
  have HL:=Hh o9;clear o9 qT q8 pA hP yi;go_enter Tryz.func93,Tryz.ntmps93
  go_wp2_with fail
  go_big_quiet (fail)
  go_wp2_with fail
  go_ret3
  exact HeadSaid.err E.out rfl p HL.out hB (wD (yU w _) _)
 ·have z0:((p:Int)==(l.length:Int))=false:=by simp;omega
  have ut:p<l.length:=by omega
  have jl:(p:Int)<(l.length:Int):=by omega
  have jk:(0:Int)≤(p:Int):=by omega
  have Qh:(p:Int)+1≤9223372036854775807:=by omega
  obtain⟨b,off,rfl,xq⟩:=hP.bytes.at_ (by omega);have HC:=Hh xq;have HH:=Hh hP.holds;have q0:=hP.holds.cell (xq p ut);have ED:=Hh (uQ ut);obtain⟨ch,rH⟩:∃ ch,l[p]=ch:=⟨_,rfl⟩
  rw[rH]at q0 ED;have lc:=ch.toNat_lt;have KA:=oo ⟨ch.toNat,lc⟩
  simp only at KA
  obtain⟨low,yQ⟩:∃ low,ch.toNat%32=low:=⟨_,rfl⟩
  rw[yQ]at KA;have yk:=Hh yQ;have Wh:low<32:=by omega
  have HL:=Hh (And.intro ut (And.intro qT (And.intro q8 pA)))
  have EH:Hid (zj (l.drop p)=if 27<low then .error 3 else if low<24 then .ok (ch.toNat,low,1) else if(l.drop (p+1)).length<2 ^ (low-24) then .error 2
    else if ch.toNat/32<7∧(zm 0 (beN ((l.drop (p+1)).take (2 ^ (low-24))))).length≠1+2 ^ (low-24) then .error 4
    else .ok (ch.toNat,beN ((l.drop (p+1)).take (2 ^ (low-24))),1+2 ^ (low-24))):=by rw[Hid,ED.out,zj,yQ]
  clear o9 qT q8 pA hP yi xq rH yQ ut ED lc;go_enter Tryz.func93,Tryz.ntmps93
  go_wp2_with fail
  go_big_quiet (fail)
  obtain⟨w1,o3⟩:∃ W,w.drewN nq=W:=⟨_,rfl⟩
  have yM:Blk w1 g 108 (sZ (some ⟨b,off,none⟩) l.length c p cnt):=o3 ▸ hB;have ws:w.grownBy w1 (some g):=o3 ▸ wD (yU w _) _;have qG:Holds w1 H:=o3 ▸ HH.out;have q1:w1.cell? ⟨b,off+p,none⟩=some (zD ch):=o3 ▸ q0;rw[o3];clear o3 c0 c1 q0 hB;have c0:=yM.cell 0 rfl;have c1:=yM.cell 1 rfl;go_upto_region 3 with fail
  go_big_quiet (fail)
  obtain⟨w2,oe⟩:∃ W,w1.drewN nq=W:=⟨_,rfl⟩
  have yu:Blk w2 g 108 (sZ (some ⟨b,off,none⟩) l.length c p cnt):=oe ▸ yM;have yp:w.grownBy w2 (some g):=oe ▸ wD ws _;have py:Holds w2 H:=oe ▸ qG;rw[oe];clear oe c0 c1 yM ws qG q1;have c1:=yu.cell 1 rfl
  by_cases se:27<low
  ·have z27:(27:Int)<(low:Int):=by omega
   have E:Hid (zj (l.drop p)=.error 3):=by rw[Hid,EH.out,if_pos se]
   go_wp2_with fail
   go_ret3
   exact HeadSaid.err E.out rfl p (Nat.le_of_lt HL.out.1) yu yp
  have z27:¬ ((27:Int)<(low:Int)):=by omega
  have E1:Hid (zj (l.drop p)=if low<24 then .ok (ch.toNat,low,1) else if(l.drop (p+1)).length<2 ^ (low-24) then .error 2
    else if ch.toNat/32<7∧(zm 0 (beN ((l.drop (p+1)).take (2 ^ (low-24))))).length≠1+2 ^ (low-24) then .error 4
    else .ok (ch.toNat,beN ((l.drop (p+1)).take (2 ^ (low-24))),1+2 ^ (low-24))):=by rw[Hid,EH.out,if_neg se]
  clear EH;have K1:IntKind.i64.wrap ((p:Int)+1)=(p:Int)+1:=IntWalk.i64_in _ (by omega);go_wp2_with (with_reducible refine zx ?_)
  refine zu rfl _ _ _ rfl rfl g 1 (.int .i64 ((p:Int)+1)) rfl rfl _ _ yu zE (by simp) rfl fun w3 wO hG3'=>?_
  have yO:=yV yp hG3' (.inl rfl);have wO:Blk w3 g 108 (sZ (some ⟨b,off,none⟩) l.length c (p+1) cnt):=wO;have VW:Holds w3 H:=py.grown hG3' (by rintro q ⟨⟩;exact HP.out.apart);clear yu yp hG3' c1 py K1
  by_cases ta:low<24
  ·have z24:(low:Int)<24:=by omega
   have E:Hid (zj (l.drop p)=.ok (ch.toNat,low,1)):=by rw[Hid,E1.out,if_pos ta]
   have KU:IntKind.u64.wrap (low:Int)=(low:Int):=by rw[IntKind.wrap_u64];omega
   go_wp2_with fail
   go_ret3
   exact HeadSaid.ok E.out rfl wO yO
  have z24:¬ ((low:Int)<24):=by omega
  have E2:Hid (zj (l.drop p)=if(l.drop (p+1)).length<2 ^ (low-24) then .error 2
    else if ch.toNat/32<7∧(zm 0 (beN ((l.drop (p+1)).take (2 ^ (low-24))))).length≠1+2 ^ (low-24) then .error 4
    else .ok (ch.toNat,beN ((l.drop (p+1)).take (2 ^ (low-24))),1+2 ^ (low-24))):=by rw[Hid,E1.out,if_neg ta]
  clear E1;have ZV:Psr 108 w3 g H (some ⟨b,off,none⟩) c l (p+1) cnt:=⟨wO,HP.out.bytes,VW,HP.out.apart,HL.out.1,HP.out.small,HP.out.cnt_le⟩
  rcases(by omega:low=24∨low=25∨low=26∨low=27) with rfl | rfl | rfl | rfl
  ·have NM:=Hh (nf ZV 1 (by omega) (by omega))
   simp only[Nat.reduceSub,Nat.reducePow,Nat.reduceAdd]at E2
   clear se ta z27 z24 Wh ZV;go_wp2_with fail
   refine NM.out.mono ?_
   rintro e w4 (⟨hs,rfl,pV,wH⟩ | ⟨hs,rfl,pV,wH⟩)
   ·have E:Hid (zj (l.drop p)=.error 2):=by rw[Hid,E2.out,if_pos (by rw[List.length_drop];have:=HL.out.1;omega)]
    have xH:=yV yO wH (.inl rfl);clear NM hs;go_wp2_with fail
    go_ret3
    exact HeadSaid.err E.out rfl (p+1) HL.out.1 pV xH
   ·have E3:Hid (zj (l.drop p)=if ch.toNat/32<7∧(zm 0 (beN ((l.drop (p+1)).take 1))).length≠2 then .error 4 else .ok (ch.toNat,beN ((l.drop (p+1)).take 1),2)):=by
     rw[Hid,E2.out,if_neg (by rw[List.length_drop];have:=HL.out.1;omega)]
    have xH:=yV yO wH (.inl rfl);have xV:=xm ((l.drop (p+1)).take 1);have wy:((l.drop (p+1)).take 1).length=1:=by rw[List.length_take,List.length_drop];omega
    rw[wy]at xV
    simp only[Nat.reducePow]at xV
    obtain⟨n,hn⟩:∃ n,beN ((l.drop (p+1)).take 1)=n:=⟨_,rfl⟩
    rw[hn]at E3 xV⊢;have HD:=Hh (fun w=>sQ 0 (n:Int) w (by omega) (by omega) (by omega) (by omega));have HS:=Hh hs;have uh:Blk w4 g 108 (sZ (some ⟨b,off,none⟩) l.length c (p+2) cnt):=pV;clear NM hs E2 hn wy xV pV wH
    by_cases h7:ch.toNat/32<7
    ·have z7:(ch.toNat:Int)/32<7:=by omega
     have E4:Hid (zj (l.drop p)=if(zm 0 n).length≠2 then .error 4 else .ok (ch.toNat,n,2)):=by
      rw[Hid,E3.out]
      by_cases h:(zm 0 n).length=2 <;> simp[h,h7]
     clear E3 h7;go_wp2_with fail
     refine(HD.out _).mono ?_
     rintro e w5 ⟨r,rfl,hf⟩
     have yA:=uh.below hf.2;have zJ:=wT xH hf.2;obtain⟨RA,rc,rfl,_⟩:=hf.own.form;obtain⟨hn,eK⟩:∃ hn,(zm (0:Int).toNat (n:Int).toNat).length=hn:=⟨_,rfl⟩
     rw[eK];have E5:Hid (zj (l.drop p)=if hn≠2 then .error 4 else .ok (ch.toNat,n,2)):=by rw[Hid,E4.out,← eK];rfl
     clear hf HD E4 eK uh xH
     by_cases hq:hn=2
     ·subst hq;have E:Hid (zj (l.drop p)=.ok (ch.toNat,n,2)):=by rw[Hid,E5.out,if_neg (by simp)]
      clear E5;go_wp2_with fail
      go_ret3
      exact HeadSaid.ok E.out rfl yA zJ
     ·have zq:((hn:Int)==2)=false:=by simp;omega
      have zq2:((hn:Int)=2)=False:=eq_false (by omega);have E:Hid (zj (l.drop p)=.error 4):=by rw[Hid,E5.out,if_pos hq]
      clear E5 hq z0 Qh jl jk KA;go_wp2_with fail
      go_ret3
      exact HeadSaid.err E.out rfl (p+2) (by have:=HS.out;omega) yA zJ
    ·have z7:¬ ((ch.toNat:Int)/32<7):=by omega
     have z7b:decide ((ch.toNat:Int)/32<7)=false:=decide_eq_false z7;have E:Hid (zj (l.drop p)=.ok (ch.toNat,n,2)):=by rw[Hid,E3.out,if_neg (fun h=>h7 h.1)]
     clear E3 h7 HD z7 z0;go_wp2_with fail
     go_ret3
     exact HeadSaid.ok E.out rfl uh xH
  ·have NM:=Hh (nf ZV 2 (by omega) (by omega))
   simp only[Nat.reduceSub,Nat.reducePow,Nat.reduceAdd]at E2
   clear se ta z27 z24 Wh ZV;go_wp2_with fail
   refine NM.out.mono ?_
   rintro e w4 (⟨hs,rfl,pV,wH⟩ | ⟨hs,rfl,pV,wH⟩)
   ·have E:Hid (zj (l.drop p)=.error 2):=by rw[Hid,E2.out,if_pos (by rw[List.length_drop];have:=HL.out.1;omega)]
    have xH:=yV yO wH (.inl rfl);clear NM hs;go_wp2_with fail
    go_ret3
    exact HeadSaid.err E.out rfl (p+1) HL.out.1 pV xH
   ·have E3:Hid (zj (l.drop p)=if ch.toNat/32<7∧(zm 0 (beN ((l.drop (p+1)).take 2))).length≠3 then .error 4 else .ok (ch.toNat,beN ((l.drop (p+1)).take 2),3)):=by
     rw[Hid,E2.out,if_neg (by rw[List.length_drop];have:=HL.out.1;omega)]
    have xH:=yV yO wH (.inl rfl);have xV:=xm ((l.drop (p+1)).take 2);have wy:((l.drop (p+1)).take 2).length=2:=by rw[List.length_take,List.length_drop];omega
    rw[wy]at xV
    simp only[Nat.reducePow]at xV
    obtain⟨n,hn⟩:∃ n,beN ((l.drop (p+1)).take 2)=n:=⟨_,rfl⟩
    rw[hn]at E3 xV⊢;have HD:=Hh (fun w=>sQ 0 (n:Int) w (by omega) (by omega) (by omega) (by omega));have HS:=Hh hs;have uh:Blk w4 g 108 (sZ (some ⟨b,off,none⟩) l.length c (p+3) cnt):=pV;clear NM hs E2 hn wy xV pV wH
    by_cases h7:ch.toNat/32<7
    ·have z7:(ch.toNat:Int)/32<7:=by omega
     have E4:Hid (zj (l.drop p)=if(zm 0 n).length≠3 then .error 4 else .ok (ch.toNat,n,3)):=by
      rw[Hid,E3.out]
      by_cases h:(zm 0 n).length=3 <;> simp[h,h7]
     clear E3 h7;go_wp2_with fail
     refine(HD.out _).mono ?_
     rintro e w5 ⟨r,rfl,hf⟩
     have yA:=uh.below hf.2;have zJ:=wT xH hf.2;obtain⟨RA,rc,rfl,_⟩:=hf.own.form;obtain⟨hn,eK⟩:∃ hn,(zm (0:Int).toNat (n:Int).toNat).length=hn:=⟨_,rfl⟩
     rw[eK];have E5:Hid (zj (l.drop p)=if hn≠3 then .error 4 else .ok (ch.toNat,n,3)):=by rw[Hid,E4.out,← eK];rfl
     clear hf HD E4 eK uh xH
     by_cases hq:hn=3
     ·subst hq;have E:Hid (zj (l.drop p)=.ok (ch.toNat,n,3)):=by rw[Hid,E5.out,if_neg (by simp)]
      clear E5;go_wp2_with fail
      go_ret3
      exact HeadSaid.ok E.out rfl yA zJ
     ·have zq:((hn:Int)==3)=false:=by simp;omega
      have zq2:((hn:Int)=3)=False:=eq_false (by omega);have E:Hid (zj (l.drop p)=.error 4):=by rw[Hid,E5.out,if_pos hq]
      clear E5 hq z0 Qh jl jk KA;go_wp2_with fail
      go_ret3
      exact HeadSaid.err E.out rfl (p+3) (by have:=HS.out;omega) yA zJ
    ·have z7:¬ ((ch.toNat:Int)/32<7):=by omega
     have z7b:decide ((ch.toNat:Int)/32<7)=false:=decide_eq_false z7;have E:Hid (zj (l.drop p)=.ok (ch.toNat,n,3)):=by rw[Hid,E3.out,if_neg (fun h=>h7 h.1)]
     clear E3 h7 HD z7 z0;go_wp2_with fail
     go_ret3
     exact HeadSaid.ok E.out rfl uh xH
  ·have NM:=Hh (nf ZV 4 (by omega) (by omega))
   simp only[Nat.reduceSub,Nat.reducePow,Nat.reduceAdd]at E2
   clear se ta z27 z24 Wh ZV;go_wp2_with fail
   refine NM.out.mono ?_
   rintro e w4 (⟨hs,rfl,pV,wH⟩ | ⟨hs,rfl,pV,wH⟩)
   ·have E:Hid (zj (l.drop p)=.error 2):=by rw[Hid,E2.out,if_pos (by rw[List.length_drop];have:=HL.out.1;omega)]
    have xH:=yV yO wH (.inl rfl);clear NM hs;go_wp2_with fail
    go_ret3
    exact HeadSaid.err E.out rfl (p+1) HL.out.1 pV xH
   ·have E3:Hid (zj (l.drop p)=if ch.toNat/32<7∧(zm 0 (beN ((l.drop (p+1)).take 4))).length≠5 then .error 4 else .ok (ch.toNat,beN ((l.drop (p+1)).take 4),5)):=by
     rw[Hid,E2.out,if_neg (by rw[List.length_drop];have:=HL.out.1;omega)]
    have xH:=yV yO wH (.inl rfl);have xV:=xm ((l.drop (p+1)).take 4);have wy:((l.drop (p+1)).take 4).length=4:=by rw[List.length_take,List.length_drop];omega
    rw[wy]at xV
    simp only[Nat.reducePow]at xV
    obtain⟨n,hn⟩:∃ n,beN ((l.drop (p+1)).take 4)=n:=⟨_,rfl⟩
    rw[hn]at E3 xV⊢;have HD:=Hh (fun w=>sQ 0 (n:Int) w (by omega) (by omega) (by omega) (by omega));have HS:=Hh hs;have uh:Blk w4 g 108 (sZ (some ⟨b,off,none⟩) l.length c (p+5) cnt):=pV;clear NM hs E2 hn wy xV pV wH
    by_cases h7:ch.toNat/32<7
    ·have z7:(ch.toNat:Int)/32<7:=by omega
     have E4:Hid (zj (l.drop p)=if(zm 0 n).length≠5 then .error 4 else .ok (ch.toNat,n,5)):=by
      rw[Hid,E3.out]
      by_cases h:(zm 0 n).length=5 <;> simp[h,h7]
     clear E3 h7;go_wp2_with fail
     refine(HD.out _).mono ?_
     rintro e w5 ⟨r,rfl,hf⟩
     have yA:=uh.below hf.2;have zJ:=wT xH hf.2;obtain⟨RA,rc,rfl,_⟩:=hf.own.form;obtain⟨hn,eK⟩:∃ hn,(zm (0:Int).toNat (n:Int).toNat).length=hn:=⟨_,rfl⟩
     rw[eK];have E5:Hid (zj (l.drop p)=if hn≠5 then .error 4 else .ok (ch.toNat,n,5)):=by rw[Hid,E4.out,← eK];rfl
     clear hf HD E4 eK uh xH
     by_cases hq:hn=5
     ·subst hq;have E:Hid (zj (l.drop p)=.ok (ch.toNat,n,5)):=by rw[Hid,E5.out,if_neg (by simp)]
      clear E5;go_wp2_with fail
      go_ret3
      exact HeadSaid.ok E.out rfl yA zJ
     ·have zq:((hn:Int)==5)=false:=by simp;omega
      have zq2:((hn:Int)=5)=False:=eq_false (by omega);have E:Hid (zj (l.drop p)=.error 4):=by rw[Hid,E5.out,if_pos hq]
      clear E5 hq z0 Qh jl jk KA;go_wp2_with fail
      go_ret3
      exact HeadSaid.err E.out rfl (p+5) (by have:=HS.out;omega) yA zJ
    ·have z7:¬ ((ch.toNat:Int)/32<7):=by omega
     have z7b:decide ((ch.toNat:Int)/32<7)=false:=decide_eq_false z7;have E:Hid (zj (l.drop p)=.ok (ch.toNat,n,5)):=by rw[Hid,E3.out,if_neg (fun h=>h7 h.1)]
     clear E3 h7 HD z7 z0;go_wp2_with fail
     go_ret3
     exact HeadSaid.ok E.out rfl uh xH
  ·have NM:=Hh (nf ZV 8 (by omega) (by omega))
   simp only[Nat.reduceSub,Nat.reducePow,Nat.reduceAdd]at E2
   clear se ta z27 z24 Wh ZV;go_wp2_with fail
   refine NM.out.mono ?_
   rintro e w4 (⟨hs,rfl,pV,wH⟩ | ⟨hs,rfl,pV,wH⟩)
   ·have E:Hid (zj (l.drop p)=.error 2):=by rw[Hid,E2.out,if_pos (by rw[List.length_drop];have:=HL.out.1;omega)]
    have xH:=yV yO wH (.inl rfl);clear NM hs;go_wp2_with fail
    go_ret3
    exact HeadSaid.err E.out rfl (p+1) HL.out.1 pV xH
   ·have E3:Hid (zj (l.drop p)=if ch.toNat/32<7∧(zm 0 (beN ((l.drop (p+1)).take 8))).length≠9 then .error 4 else .ok (ch.toNat,beN ((l.drop (p+1)).take 8),9)):=by
     rw[Hid,E2.out,if_neg (by rw[List.length_drop];have:=HL.out.1;omega)]
    have xH:=yV yO wH (.inl rfl);have xV:=xm ((l.drop (p+1)).take 8);have wy:((l.drop (p+1)).take 8).length=8:=by rw[List.length_take,List.length_drop];omega
    rw[wy]at xV
    simp only[Nat.reducePow]at xV
    obtain⟨n,hn⟩:∃ n,beN ((l.drop (p+1)).take 8)=n:=⟨_,rfl⟩
    rw[hn]at E3 xV⊢;have HD:=Hh (fun w=>sQ 0 (n:Int) w (by omega) (by omega) (by omega) (by omega));have HS:=Hh hs;have uh:Blk w4 g 108 (sZ (some ⟨b,off,none⟩) l.length c (p+9) cnt):=pV;clear NM hs E2 hn wy xV pV wH
    by_cases h7:ch.toNat/32<7
    ·have z7:(ch.toNat:Int)/32<7:=by omega
     have E4:Hid (zj (l.drop p)=if(zm 0 n).length≠9 then .error 4 else .ok (ch.toNat,n,9)):=by
      rw[Hid,E3.out]
      by_cases h:(zm 0 n).length=9 <;> simp[h,h7]
     clear E3 h7;go_wp2_with fail
     refine(HD.out _).mono ?_
     rintro e w5 ⟨r,rfl,hf⟩
     have yA:=uh.below hf.2;have zJ:=wT xH hf.2;obtain⟨RA,rc,rfl,_⟩:=hf.own.form;obtain⟨hn,eK⟩:∃ hn,(zm (0:Int).toNat (n:Int).toNat).length=hn:=⟨_,rfl⟩
     rw[eK];have E5:Hid (zj (l.drop p)=if hn≠9 then .error 4 else .ok (ch.toNat,n,9)):=by rw[Hid,E4.out,← eK];rfl
     clear hf HD E4 eK uh xH
     by_cases hq:hn=9
     ·subst hq;have E:Hid (zj (l.drop p)=.ok (ch.toNat,n,9)):=by rw[Hid,E5.out,if_neg (by simp)]
      clear E5;go_wp2_with fail
      go_ret3
      exact HeadSaid.ok E.out rfl yA zJ
     ·have zq:((hn:Int)==9)=false:=by simp;omega
      have zq2:((hn:Int)=9)=False:=eq_false (by omega);have E:Hid (zj (l.drop p)=.error 4):=by rw[Hid,E5.out,if_pos hq]
      clear E5 hq z0 Qh jl jk KA;go_wp2_with fail
      go_ret3
      exact HeadSaid.err E.out rfl (p+9) (by have:=HS.out;omega) yA zJ
    ·have z7:¬ ((ch.toNat:Int)/32<7):=by omega
     have z7b:decide ((ch.toNat:Int)/32<7)=false:=decide_eq_false z7;have E:Hid (zj (l.drop p)=.ok (ch.toNat,n,9)):=by rw[Hid,E3.out,if_neg (fun h=>h7 h.1)]
     clear E3 h7 HD z7 z0;go_wp2_with fail
     go_ret3
     exact HeadSaid.ok E.out rfl uh xH
theorem ls (n:Nat) (w:World):(callFunc 120 #[.int .u32 (n:Int)]).run Tryz.prog w=.ok (.value (.float .f32 n)) w:=by
 rw[run_callFunc_extern Tryz.func120 (by kernel_rfl) (by kernel_rfl) (by kernel_rfl) (e:=Extern.MathFloatBits.float32frombits) (by kernel_rfl)];rfl
theorem dU {r:Nat}(hr:r<4294967296) (h:r/8388608%256=255∧r%8388608≠0):(Ieee.single.read r).isNaN=true:=by
 have e1:Ieee.single.signWeight=2147483648:=rfl;have e2:Ieee.single.binade=8388608:=rfl;have e3:Ieee.single.infRung=2139095040:=rfl;obtain⟨h1,h2⟩:=h
 unfold Ieee.Format.read
 rw[e1,e2,e3]
 simp only[show ¬ r%2147483648<8388608 by omega,show ¬ r%2147483648<2139095040 by omega,show ¬ r%2147483648=2139095040 by omega,if_false]
 rfl
theorem cT (r:Nat) (hr:r<4294967296) (w:World):∃ m w',(convert 133 118 (.float .f32 r)).run Tryz.prog w=.ok (.float .f64 m) w'∧(w'=w∨w'=w.drew)∧m<18446744073709551616∧
  ((r/8388608%256=255∧r%8388608≠0)→isNaN m=true)∧(¬ (r/8388608%256=255∧r%8388608≠0)→m=wl r):=by
 have hs:Tryz.prog.underlying 133=some (.float .f32):=Tryz.underlying133;have hd:Tryz.prog.underlying 118=some (.float .f64):=Tryz.underlying118
 by_cases hx:r/8388608%256=255∧r%8388608≠0
 ·have hn:=dU hr hx
  cases hq:FloatKind.decode .f32 r with
  | number a b c =>
   have h':Ieee.single.read r=.number a b c:=hq;rw[h']at hn;cases hn
  | infinity a =>
   have h':Ieee.single.read r=.infinity a:=hq;rw[h']at hn;cases hn
  | nan a b =>
   have uf:isNaN ((Question.nanConv .f64 r).cut (w.tape w.drawn (Question.nanConv .f64 r)))=true∧((Question.nanConv .f64 r).cut (w.tape w.drawn (Question.nanConv .f64 r)))<18446744073709551616:=by
    rw[mi];show((_%2*2 ^ 63+0x7ff0000000000000+1+_/2%(2 ^ 52-1))/2 ^ 52%2048=2047∧_)∧_
    generalize w.tape w.drawn (Question.nanConv .f64 r)=t
    show((t%2*2 ^ 63+0x7ff0000000000000+1+t/2%(2 ^ 52-1))/2 ^ 52%2048=2047∧(t%2*2 ^ 63+0x7ff0000000000000+1+t/2%(2 ^ 52-1))%2 ^ 52≠0)∧t%2*2 ^ 63+0x7ff0000000000000+1+t/2%(2 ^ 52-1)<18446744073709551616
    generalize t/2=u
    have:t%2=0∨t%2=1:=by omega
    rcases this with h | h <;> rw[h] <;> simp only[Nat.reducePow,Nat.reduceSub,Nat.reduceMul,Nat.reduceAdd,Nat.zero_add] <;> omega
   refine⟨(Question.nanConv .f64 r).cut (w.tape w.drawn (Question.nanConv .f64 r)),w.drew, ?_,.inr rfl,uf.2,fun _=>uf.1,fun h=>absurd hx h⟩
   simp[convert,run_underlying hs,run_underlying hd,Conv.floatToFloat,hq,Question.forced]
 ·obtain⟨cA,yi⟩:=ql hr hx;have hw:=iF cA;have TE:(Tryz.prog.underlying 133).isSome=true:=by rw[hs];rfl
  exact⟨wl r,w,run_convert_float_float (P:=Tryz.prog) (w:=w) 133 118 .f32 .f64 r _ TE hd hw,.inl rfl,yi,fun h=>absurd h hx,fun _=>rfl⟩
abbrev jF:Value:=.agg #[.int .i64 0,.int .u64 0,.slice none 0 0,.slice none 0 0]
def SevenSaid (w:World) (low n:Nat) (e:Ending) (w':World):Prop :=
 Below w.heap.size w w'∧match yK low n with
  | .error q=>e=.returned (.tuple #[jF,.int .i64 (q:Int)])
  | .ok x=>e=.returned (.tuple #[xN x none 0 none 0,.int .i64 0])
theorem SevenSaid.err {w w':World}{low n q:Nat}{e:Ending}(h:yK low n=.error q) (he:e=.returned (.tuple #[jF,.int .i64 (q:Int)])) (hb:Below w.heap.size w w'):SevenSaid w low n e w':=by
 rw[SevenSaid,h];exact⟨hb,he⟩
theorem SevenSaid.ok {w w':World}{low n:Nat}{x:Itm}{e:Ending}(h:yK low n=.ok x) (he:e=.returned (.tuple #[xN x none 0 none 0,.int .i64 0])) (hb:Below w.heap.size w w'):SevenSaid w low n e w':=by
 rw[SevenSaid,h];exact⟨hb,he⟩
theorem rO (low n:Nat) (h:25≤low):yK low n=if(isNaN (uw low n)&&uw low n != zT)||(zF (uw low n)).length != 1+2 ^ (low-24) then .error 4 else .ok (.mk 8 (uw low n) [] []):=by
 rw[yK,if_neg (by omega),if_neg (by omega)]
theorem al {v:Nat}(hv:v<65536):wi v<18446744073709551616:=by
 rw[wi]
 split
 ·decide
 ·rename_i h;exact(qj hv h).2
theorem og:isNaN zT=true:=by decide +kernel
theorem WK {n:Nat}(hn:n<65536):yK 25 n=if wi n=zT∧n≠32256 then .error 4 else if(zF (wi n)).length≠3 then .error 4 else .ok (.mk 8 (wi n) [] []):=by
 rw[rO 25 n (by omega),show uw 25 n=xJ n by rw[uw,if_pos rfl]]
 by_cases hx:n/1024%32=31∧n%1024≠0
 ·obtain⟨q1,q2⟩:=kQ hn hx;have hq:wi n=zT:=by rw[wi,if_pos hx]
  rw[hq,q1]
  by_cases h:n=32256
  ·have h5:=q2.2 h;have L:(zF zT).length=3:=by rw[tx og];rfl
   rw[h5,L]
   simp[h]
  ·have h5:xJ n≠zT:=fun h'=>h (q2.1 h')
   have b5:(xJ n != zT)=true:=by rw[bne_iff_ne];exact h5
   rw[b5]
   simp[h]
 ·obtain⟨q1,q2⟩:=qj hn hx;have q3:=nQ q1;have hq:wi n=xJ n:=by rw[wi,if_neg hx]
  have wd:xJ n≠zT:=fun h=>by rw[h,og]at q3;cases q3
  rw[hq,q3]
  generalize xJ n=D at *
  simp[wd]
theorem WL {n m:Nat}(hn:n<4294967296) (h1:(n/8388608%256=255∧n%8388608≠0)→isNaN m=true) (h2:¬ (n/8388608%256=255∧n%8388608≠0)→m=wl n) :
  yK 26 n=if(zF m).length≠5 then .error 4 else .ok (.mk 8 m [] []):=by
 rw[rO 26 n (by omega),show uw 26 n=wl n by rw[uw,if_neg (by omega),if_pos rfl]]
 by_cases hx:n/8388608%256=255∧n%8388608≠0
 ·have q1:=kR hn hx;have L1:(zF (wl n)).length=3:=by rw[tx q1];rfl
  have L2:(zF m).length=3:=by rw[tx (h1 hx)];rfl
  rw[L1,L2]
  simp
 ·obtain⟨q1,q2⟩:=ql hn hx;have q3:=nR q1;rw[h2 hx,q3]
  generalize wl n=D at *
  simp
theorem WM {n:Nat}:yK 27 n=if(zF n).length≠9 then .error 4 else .ok (.mk 8 n [] []):=by
 rw[rO 27 n (by omega),show uw 27 n=n by rw[uw,if_neg (by omega),if_neg (by omega)]]
 cases h:isNaN n with
 | true =>
  have L:(zF n).length=3:=by rw[tx h];rfl
  rw[L];simp
 | false=>simp
theorem cR (f n:Nat) (hf:f<256) (yQ:f%32≤27) (hn:n<18446744073709551616) (h25:f%32=25→n<65536) (h26:f%32=26→n<4294967296) (w:World) :
  Calls Tryz.prog 94 #[.int .u8 (f:Int),.int .u64 (n:Int)] w (SevenSaid w (f%32) n):=by
 have KA:=oo ⟨f,hf⟩
 simp only at KA
 obtain⟨low,hl⟩:∃ low,f%32=low:=⟨_,rfl⟩
 rw[hl]at KA yQ h25 h26⊢;have ob:=Blk.new w 26 #[.int .i64 0,.int .u64 0,.slice none 0 0,.slice none 0 0];have xj:=zi w zr;have HN:=Hh hn;have Kp:=Hh h25;have Kq:=Hh h26;clear hn h25 h26 hl hf
 by_cases ta:low<24
 ·have e1:((low:Int)==24)=false:=by simp;omega
  have e2:((low:Int)==25)=false:=by simp;omega
  have e3:((low:Int)==26)=false:=by simp;omega
  have e4:((low:Int)==27)=false:=by simp;omega
  have p1:((low:Int)=24)=False:=eq_false (by omega);have p2:((low:Int)=25)=False:=eq_false (by omega);have p3:((low:Int)=26)=False:=eq_false (by omega);have p4:((low:Int)=27)=False:=eq_false (by omega);have E:Hid (yK low n=.ok (.mk 7 n [] [])):=by rw[Hid,yK,if_pos ta]
  clear yQ ta;go_enter Tryz.func94,Tryz.ntmps94
  go_wp2_with (with_reducible refine zx ?_)
  refine stI ob fun wz hTy zU=>?_
  have yR:=yP xj zU (by rintro q ⟨⟩;exact Nat.le_refl _);go_wp2_with fail
  refine zv rfl rfl hTy rfl rfl zw rfl ?_
  exact SevenSaid.ok E.out rfl yR
 rcases(by omega:low=24∨low=25∨low=26∨low=27) with rfl | rfl | rfl | rfl
 ·by_cases h32:n<32
  ·have z32:(n:Int)<32:=by omega
   have E:Hid (yK 24 n=.error 4):=by rw[Hid,yK,if_neg (by omega),if_pos rfl,if_pos h32]
   clear h32 yQ ta;go_enter Tryz.func94,Tryz.ntmps94
   go_wp2_with (with_reducible refine zx ?_)
   refine stI ob fun wz hTy zU=>?_
   have yR:=yP xj zU (by rintro q ⟨⟩;exact Nat.le_refl _);go_wp2_with fail
   refine zv rfl rfl hTy rfl rfl zw rfl ?_
   exact SevenSaid.err E.out rfl yR
  ·have z32:¬ ((n:Int)<32):=by omega
   have E:Hid (yK 24 n=.ok (.mk 7 n [] [])):=by rw[Hid,yK,if_neg (by omega),if_pos rfl,if_neg h32]
   clear h32 yQ ta;go_enter Tryz.func94,Tryz.ntmps94
   go_wp2_with (with_reducible refine zx ?_)
   refine stI ob fun wz hTy zU=>?_
   have yR:=yP xj zU (by rintro q ⟨⟩;exact Nat.le_refl _);go_wp2_with fail
   refine zv rfl rfl hTy rfl rfl zw rfl ?_
   exact SevenSaid.ok E.out rfl yR
 ·have hn:=Kp.out rfl;have K1:IntKind.u16.wrap (n:Int)=(n:Int):=IntWalk.u16_in _ (by omega);have FL:=Hh (fun w=>te (wi n) (al hn) w);have E0:=Hh (WK hn);obtain⟨D,hD⟩:∃ D,wi n=D:=⟨_,rfl⟩
  have WD:=Hh (show ∀ w,Calls Tryz.prog 119 #[.int .u16 (n:Int)] w fun e w'=>e=.returned (.int .u64 (D:Int))∧w'=w from fun w=>by
   have h:=cS n hn w
   unfold YR at h
   rw[hD]at h
   exact h)
  rw[hD]at FL E0;clear hn hD yQ ta
  by_cases hc:D=zT∧n≠32256
  ·have c1:((D:Int)==9221120237041090560)=true:=by rw[hc.1];rfl
   have c2:((n:Int) != 32256)=true:=by rw[bne_iff_ne];omega
   have c1':((D:Int)=9221120237041090560)=True:=eq_true (by rw[hc.1];rfl);have c2':((n:Int)=32256)=False:=eq_false (by omega);have E:Hid (yK 25 n=.error 4):=by rw[Hid,E0.out,if_pos hc]
   clear hc E0 FL;go_enter Tryz.func94,Tryz.ntmps94
   go_wp2_with fail
   refine(WD.out _).mono ?_
   rintro e w1 ⟨rfl,rfl⟩
   go_wp2_with (with_reducible refine zx ?_)
   refine stI ob fun wz hTy zU=>?_
   have yR:=yP xj zU (by rintro q ⟨⟩;exact Nat.le_refl _);go_wp2_with fail
   refine zv rfl rfl hTy rfl rfl zw rfl ?_
   exact SevenSaid.err E.out rfl yR
  have E1:Hid (yK 25 n=if(zF D).length≠3 then .error 4 else .ok (.mk 8 D [] [])):=by rw[Hid,E0.out,if_neg hc]
  clear E0
  by_cases hD:D=zT
  ·have XF:n=32256:=Classical.byContradiction fun h=>hc ⟨hD,h⟩
   have c1:((D:Int)==9221120237041090560)=true:=by rw[hD];rfl
   have c1':((D:Int)=9221120237041090560)=True:=eq_true (by rw[hD];rfl);have c2:((n:Int) != 32256)=false:=by rw[XF];rfl
   have c2':((n:Int)=32256)=True:=eq_true (by rw[XF];rfl);clear hc hD XF;go_enter Tryz.func94,Tryz.ntmps94
   go_wp2_with fail
   refine(WD.out _).mono ?_
   rintro e w1 ⟨rfl,rfl⟩
   go_wp2_with fail
   refine(FL.out _).mono ?_
   rintro e w3 ⟨r,rfl,iX⟩
   obtain⟨RA,rc,rfl,_⟩:=iX.own.form;have wO:=ob.below iX.2;have tl:=xj.trans (iX.2.mono xj.size);obtain⟨fl,vu⟩:∃ fl,(zF D).length=fl:=⟨_,rfl⟩
   rw[vu]at E1⊢;clear iX vu FL
   by_cases hq:fl=3
   ·subst hq;have E:Hid (_=Except.ok (Itm.mk 8 D [] [])):=E1.out.trans (if_neg (by simp));clear E1;go_wp2_with (with_reducible refine zx ?_)
    refine stI wO fun wz hTy zU=>?_
    have yR:=yP tl zU (by rintro q ⟨⟩;exact Nat.le_refl _);go_wp2_with fail
    refine zv rfl rfl hTy rfl rfl zw rfl ?_
    exact SevenSaid.ok E.out rfl yR
   ·have zq:((fl:Int)==3)=false:=by simp;omega
    have zq2:((fl:Int)=3)=False:=eq_false (by omega);have E:Hid (_=Except.error 4):=E1.out.trans (if_pos hq);clear E1 hq;go_wp2_with (with_reducible refine zx ?_)
    refine stI wO fun wz hTy zU=>?_
    have yR:=yP tl zU (by rintro q ⟨⟩;exact Nat.le_refl _);go_wp2_with fail
    refine zv rfl rfl hTy rfl rfl zw rfl ?_
    exact SevenSaid.err E.out rfl yR
  ·have c1:((D:Int)==9221120237041090560)=false:=by rw[beq_eq_false_iff_ne];intro h;exact hD (by show D=9221120237041090560;omega)
   have c1':((D:Int)=9221120237041090560)=False:=eq_false (by intro h;exact hD (by show D=9221120237041090560;omega));clear hc hD;go_enter Tryz.func94,Tryz.ntmps94
   go_wp2_with fail
   refine(WD.out _).mono ?_
   rintro e w1 ⟨rfl,rfl⟩
   go_wp2_with fail
   refine(FL.out _).mono ?_
   rintro e w3 ⟨r,rfl,iX⟩
   obtain⟨RA,rc,rfl,_⟩:=iX.own.form;have wO:=ob.below iX.2;have tl:=xj.trans (iX.2.mono xj.size);obtain⟨fl,vu⟩:∃ fl,(zF D).length=fl:=⟨_,rfl⟩
   rw[vu]at E1⊢;clear iX vu FL
   by_cases hq:fl=3
   ·subst hq;have E:Hid (_=Except.ok (Itm.mk 8 D [] [])):=E1.out.trans (if_neg (by simp));clear E1;go_wp2_with (with_reducible refine zx ?_)
    refine stI wO fun wz hTy zU=>?_
    have yR:=yP tl zU (by rintro q ⟨⟩;exact Nat.le_refl _);go_wp2_with fail
    refine zv rfl rfl hTy rfl rfl zw rfl ?_
    exact SevenSaid.ok E.out rfl yR
   ·have zq:((fl:Int)==3)=false:=by simp;omega
    have zq2:((fl:Int)=3)=False:=eq_false (by omega);have E:Hid (_=Except.error 4):=E1.out.trans (if_pos hq);clear E1 hq;go_wp2_with (with_reducible refine zx ?_)
    refine stI wO fun wz hTy zU=>?_
    have yR:=yP tl zU (by rintro q ⟨⟩;exact Nat.le_refl _);go_wp2_with fail
    refine zv rfl rfl hTy rfl rfl zw rfl ?_
    exact SevenSaid.err E.out rfl yR
 ·have hn:=Kq.out rfl;have K1:IntKind.u32.wrap (n:Int)=(n:Int):=IntWalk.u32_in _ (by omega);have r1:=ls n;obtain⟨W0,Ph⟩:∃ W0,w.alloc zr=W0:=⟨_,rfl⟩
  obtain⟨D,w2,ZZ,oe,mD,XP,ZR⟩:=cT n hn W0;have E1:=Hh (WL hn XP ZR);have r2:=yB D;have FL:=Hh (fun w=>te D mD w)
  have wg:Below w.heap.size w w2:=by
   rw[← Ph]at oe
   rcases oe with rfl | rfl
   ·exact xj
   ·exact xj.drew
  have yu:Blk w2 w.heap.size 26 #[.int .i64 0,.int .u64 0,.slice none 0 0,.slice none 0 0]:=by
   rw[← Ph]at oe
   rcases oe with rfl | rfl
   ·exact ob
   ·exact ob.drew
  clear hn XP ZR oe mD yQ ta ob xj;go_enter Tryz.func94,Tryz.ntmps94
  go_upto_region 13 with fail
  clear Ph;go_wp2_with fail
  refine(FL.out _).mono ?_
  rintro e w3 ⟨r,rfl,iX⟩
  obtain⟨RA,rc,rfl,_⟩:=iX.own.form;have wO:=yu.below iX.2;have tl:=wg.trans (iX.2.mono wg.size);obtain⟨fl,vu⟩:∃ fl,(zF D).length=fl:=⟨_,rfl⟩
  rw[vu]at E1⊢;clear iX vu FL
  by_cases hq:fl=5
  ·subst hq;have E:Hid (_=Except.ok (Itm.mk 8 D [] [])):=E1.out.trans (if_neg (by simp));clear E1;go_wp2_with (with_reducible refine zx ?_)
   refine stI wO fun wz hTy zU=>?_
   have yR:=yP tl zU (by rintro q ⟨⟩;exact Nat.le_refl _);go_wp2_with fail
   refine zv rfl rfl hTy rfl rfl zw rfl ?_
   exact SevenSaid.ok E.out rfl yR
  ·have zq:((fl:Int)==5)=false:=by simp;omega
   have zq2:((fl:Int)=5)=False:=eq_false (by omega);have E:Hid (_=Except.error 4):=E1.out.trans (if_pos hq);clear E1 hq;go_wp2_with (with_reducible refine zx ?_)
   refine stI wO fun wz hTy zU=>?_
   have yR:=yP tl zU (by rintro q ⟨⟩;exact Nat.le_refl _);go_wp2_with fail
   refine zv rfl rfl hTy rfl rfl zw rfl ?_
   exact SevenSaid.err E.out rfl yR
 ·have E1:=Hh (WM (n:=n));have FL:=Hh (fun w=>te n HN.out w);have wg:=xj;have yu:=ob;clear yQ ta ob xj;obtain⟨D,hD⟩:∃ D,n=D:=⟨_,rfl⟩
  subst hD;go_enter Tryz.func94,Tryz.ntmps94
  go_wp2_with fail
  refine(FL.out _).mono ?_
  rintro e w3 ⟨r,rfl,iX⟩
  obtain⟨RA,rc,rfl,_⟩:=iX.own.form;have wO:=yu.below iX.2;have tl:=wg.trans (iX.2.mono wg.size);obtain⟨fl,vu⟩:∃ fl,(zF n).length=fl:=⟨_,rfl⟩
  rw[vu]at E1⊢;clear iX vu FL
  by_cases hq:fl=9
  ·subst hq;have E:Hid (_=Except.ok (Itm.mk 8 n [] [])):=E1.out.trans (if_neg (by simp));clear E1;go_wp2_with (with_reducible refine zx ?_)
   refine stI wO fun wz hTy zU=>?_
   have yR:=yP tl zU (by rintro q ⟨⟩;exact Nat.le_refl _);go_wp2_with fail
   refine zv rfl rfl hTy rfl rfl zw rfl ?_
   exact SevenSaid.ok E.out rfl yR
  ·have zq:((fl:Int)==9)=false:=by simp;omega
   have zq2:((fl:Int)=9)=False:=eq_false (by omega);have E:Hid (_=Except.error 4):=E1.out.trans (if_pos hq);clear E1 hq;go_wp2_with (with_reducible refine zx ?_)
   refine stI wO fun wz hTy zU=>?_
   have yR:=yP tl zU (by rintro q ⟨⟩;exact Nat.le_refl _);go_wp2_with fail
   refine zv rfl rfl hTy rfl rfl zw rfl ?_
   exact SevenSaid.err E.out rfl yR
section
variable {T:TypeId} {w w' w'':World} {H H' H'':Snap} {g:Nat} {A:Option Addr} {c:Nat} {l:List UInt8} {p cnt p' cnt':Nat}
theorem Psr.gt (h:Psr T w g H A c l p cnt):g<w.heap.size:=h.blk.lt
structure Rdg (T:TypeId) (w:World) (H:Snap) (w':World) (H':Snap) (g:Nat) (A:Option Addr) (c:Nat) (l:List UInt8) (p cnt:Nat):Prop where
 grows:GrowsBut w H w' H' g
 psr:Psr T w' g H' A c l p cnt
theorem Rdg.refl (h:Psr T w g H A c l p cnt):Rdg T w H w H g A c l p cnt:=⟨GrowsBut.refl h.holds g,h⟩
theorem Rdg.trans (h:Rdg T w H w' H' g A c l p cnt) (k:Rdg T w' H' w'' H'' g A c l p' cnt'):Rdg T w H w'' H'' g A c l p' cnt':=⟨h.grows.trans k.grows,k.psr⟩
theorem Psr.grows (h:Psr T w g H A c l p cnt) (k:Grows w H w' H'):Rdg T w H w' H' g A c l p cnt :=
 ⟨k.but g,⟨h.blk.below k.below,h.bytes.mono k.le,k.holds,k.none h.apart h.gt,h.le,h.small,h.cnt_le⟩⟩
theorem Rdg.grown (h:Rdg T w H w' H' g A c l p cnt) (k:Grows w' H' w'' H''):Rdg T w H w'' H'' g A c l p cnt:=h.trans (h.psr.grows k)
theorem Rdg.alloc (h:Rdg T w H w' H' g A c l p cnt) (o:Obj):Rdg T w H (w'.alloc o) H' g A c l p cnt:=h.grown ((Grows.refl h.psr.holds).alloc o)
theorem Rdg.below_ (h:Rdg T w H w' H' g A c l p cnt) (k:Below w'.heap.size w' w''):Rdg T w H w'' H' g A c l p cnt:=h.grown (Grows.of_below h.psr.holds k)
theorem Rdg.drewN (h:Rdg T w H w' H' g A c l p cnt) (q:Nat):Rdg T w H (w'.drewN q) H' g A c l p cnt:=h.below_ (below_drewNv (Below.refl _ _) q)
theorem Rdg.size (h:Rdg T w H w' H' g A c l p cnt):w.heap.size≤w'.heap.size:=h.grows.grown.size
theorem Rdg.hid (h:Rdg T w H w' H' g A c l p cnt) {k:Nat}(hk:H k=.none) (hl:k<w.heap.size):H' k=.none:=h.grows.hid hk hl
theorem Rdg.step (h:Rdg T w H w' H' g A c l p cnt) (hg:w'.grownBy w'' (some g)) (hb:Blk w'' g T (sZ A l.length c p' cnt')) (hp:p'≤l.length) (hc:cnt'≤256):Rdg T w H w'' H' g A c l p' cnt' :=
 ⟨⟨yV h.grows.grown hg (.inl rfl),h.grows.le,h.psr.holds.grown hg (by rintro q ⟨⟩;exact h.psr.apart),h.grows.fresh⟩,
  hb,h.psr.bytes,h.psr.holds.grown hg (by rintro q ⟨⟩;exact h.psr.apart),h.psr.apart,hp,h.psr.small,hc⟩
theorem Rdg.grownRow {row:Option Nat}(h:Rdg T w H w' H' g A c l p cnt) (h0:∀ k,row=some k→H' k=.none) (hw:∀ k,row=some k→w.heap.size≤k) (yi:g<w.heap.size) (hg:w'.grownBy w'' row):Rdg T w H w'' H' g A c l p cnt:=by
 have hd:=h.psr;have wd:row≠some g:=fun e=>by have:=hw g e;omega
 refine⟨⟨?_,h.grows.le,hd.holds.grown hg h0,h.grows.fresh⟩,hd.blk.grown hg wd,hd.bytes,hd.holds.grown hg h0,hd.apart,hd.le,hd.small,hd.cnt_le⟩
 exact⟨hg.os.trans h.grows.grown.os,hg.tape.trans h.grows.grown.tape,hg.output.trans h.grows.grown.output,Nat.le_trans h.size hg.size,fun i hi oY =>
   (hg.block i (Nat.lt_of_lt_of_le hi h.size) (fun e=>by have:=hw i e.symm;omega)).trans (h.grows.grown.block i hi oY)⟩
theorem Blk.rdg {k:Nat}{t:TypeId}{cs:Array Value}(h:Blk w k t cs) (hd:Rdg T w H w' H' g A c l p cnt) (hk:k≠g):Blk w' k t cs :=
 h.grown hd.grows.grown (by intro e;injection e with e;exact hk e.symm)
theorem OwnI.rdg {base:Nat}{v:Value}{K:Snap}{L:List Itm}(h:OwnI w base v K L) (hd:Rdg T w H w' H' g A c l p cnt) (hb:g<base):OwnI w' base v K L:=by
 refine h.kept hd.grows.grown ?_
 cases hv:v.ownBlock with
 | none=>exact .inl rfl
 | some k=>exact .inr (fun e=>by injection e with e;have:=h.lt k hv;omega)
def ItemOut (T:TypeId) (w:World) (H:Snap) (g:Nat) (A:Option Addr) (c:Nat) (l:List UInt8) (p:Nat) (r:PR) (e:Ending) (w':World):Prop :=
 match r with
 | .err q=>e=.returned (.tuple #[jF,.int .i64 (q:Int)])∧(∃ H' p' cnt',Rdg T w H w' H' g A c l p' cnt')
 | .ok x k c'=>∃ ja jb jc jd H',e=.returned (.tuple #[xN x ja jb jc jd,.int .i64 0])∧Rdg T w H w' H' g A c l (p+k) c'∧IsItem H' ja jb jc jd x
theorem ItemOut.err {e:Ending}{r:PR}{q:Nat}(hr:r=.err q) (he:e=.returned (.tuple #[jF,.int .i64 (q:Int)])) (h:Rdg T w H w' H' g A c l p' cnt'):ItemOut T w H g A c l p r e w':=by
 rw[hr,ItemOut];exact⟨he,H',p',cnt',h⟩
theorem ItemOut.ok {e:Ending}{r:PR}{x:Itm}{k c':Nat}{ja:Option Addr}{jb:Nat}{jc:Option Addr}{jd:Nat}(hr:r=.ok x k c') (he:e=.returned (.tuple #[xN x ja jb jc jd,.int .i64 0])) (h:Rdg T w H w' H' g A c l (p+k) c') (hi:IsItem H' ja jb jc jd x):ItemOut T w H g A c l p r e w':=by
 rw[hr,ItemOut];exact⟨ja,jb,jc,jd,H',he,h,hi⟩
end
def gC (d:Nat):Prop:=∀ (w:World) (H:Snap) (g:Nat) (A:Option Addr) (c:Nat) (l:List UInt8) (p cnt lv:Nat),Tabs H→lv+d=8→Psr 108 w g H A c l p cnt→
 Calls Tryz.prog 78 #[.pointer (some ⟨g,0,none⟩),.int .i64 (lv:Int)] w (ItemOut 108 w H g A c l p (zo d (l.drop p) cnt))
theorem kJ (d:Nat) (b:List UInt8) (c:Nat) (h:256≤c):zo d b c=.err 8:=by rw[zo.eq_def];simp only;rw[if_pos h]
theorem zY (d:Nat) (b:List UInt8) (c:Nat) (h:¬ 256≤c) {q:Nat}(hq:zj b=.error q):zo d b c=.err q:=by rw[zo.eq_def];simp only;rw[if_neg h,hq]
theorem pN (d:Nat) (b:List UInt8) (c:Nat) (h:¬ 256≤c) {f n k:Nat}(hq:zj b=.ok (f,n,k)) (hk:f/32≤1):zo d b c=.ok (.mk (f/32:Nat) n [] []) k (c+1):=by
 rw[zo.eq_def];simp only;rw[if_neg h,hq];simp only;rw[if_pos hk]
theorem pO (d:Nat) (b:List UInt8) (c:Nat) (h:¬ 256≤c) {f n k:Nat}(hq:zj b=.ok (f,n,k)) (h1:¬ f/32≤1) (h3:f/32≤3):zo d b c =
  (if b.length<k+n then .err 2 else if f/32=3∧Lib.validD ((b.drop k).take n)=false then .err 5 else .ok (.mk (f/32:Nat) 0 ((b.drop k).take n) []) (k+n) (c+1)):=by
 rw[zo.eq_def];simp only;rw[if_neg h,hq];simp only;rw[if_neg h1,if_pos h3]
theorem pf (d:Nat) (b:List UInt8) (c:Nat) (h:¬ 256≤c) {f n k:Nat}(hq:zj b=.ok (f,n,k)) (h7:f/32=7):zo d b c =
  (match yK (f%32) n with | .error e=>.err e | .ok x=>.ok x k (c+1)):=by
 rw[zo.eq_def];simp only;rw[if_neg h,hq];simp only;rw[if_neg (by omega),if_neg (by omega),if_pos h7]
 all_goals (cases yK (f%32) n <;> rfl)
theorem kI (b:List UInt8) (c:Nat) (h:¬ 256≤c) {f n k:Nat}(hq:zj b=.ok (f,n,k)) (h3:4≤f/32) (h7:f/32≤6):zo 0 b c=.err 8:=by
 rw[zo.eq_def];simp only;rw[if_neg h,hq];simp only;rw[if_neg (by omega),if_neg (by omega),if_neg (by omega)]
theorem j8 (d:Nat) (b:List UInt8) (c:Nat) (h:¬ 256≤c) {f n k:Nat}(hq:zj b=.ok (f,n,k)) (h6:f/32=6):zo (d+1) b c =
  (match zo d (b.drop k) (c+1) with | .err e=>.err e | .ok x k' c'=>.ok (.mk 6 n [] [x]) (k+k') c'):=by
 rw[zo.eq_def];simp only;rw[if_neg h,hq];simp only;rw[if_neg (by omega),if_neg (by omega),if_neg (by omega),if_pos h6]
 all_goals (cases zo d (b.drop k) (c+1) <;> rfl)
theorem j7 (d:Nat) (b:List UInt8) (c:Nat) (h:¬ 256≤c) {f n k:Nat}(hq:zj b=.ok (f,n,k)) (h5:f/32=5):zo (d+1) b c =
  (match vr (zo d) n (b.drop k) (c+1) none with | .err e=>.err e | .ok l k' c'=>.ok (.mk 5 0 [] l) (k+k') c'):=by
 rw[zo.eq_def];simp only;rw[if_neg h,hq];simp only;rw[if_neg (by omega),if_neg (by omega),if_neg (by omega),if_neg (by omega),if_pos h5]
 all_goals (cases vr (zo d) n (b.drop k) (c+1) none <;> rfl)
theorem j6 (d:Nat) (b:List UInt8) (c:Nat) (h:¬ 256≤c) {f n k:Nat}(hq:zj b=.ok (f,n,k)) (h4:f/32=4):zo (d+1) b c =
  (match vS (zo d) n (b.drop k) (c+1) with | .err e=>.err e | .ok l k' c'=>.ok (.mk 4 0 [] l) (k+k') c'):=by
 rw[zo.eq_def];simp only;rw[if_neg h,hq];simp only;rw[if_neg (by omega),if_neg (by omega),if_neg (by omega),if_neg (by omega),if_neg (by omega)]
 all_goals (cases vS (zo d) n (b.drop k) (c+1) <;> rfl)
theorem Rdg.gb {T:TypeId}{w w' w'':World}{H H':Snap}{g k:Nat}{A:Option Addr}{c:Nat}{l:List UInt8}{p cnt:Nat}(h:Rdg T w H w' H' g A c l p cnt) (h0:H' k=none) (hw:w.heap.size≤k) (yi:g<w.heap.size) (hg:w'.grownBy w'' (some k)):Rdg T w H w'' H' g A c l p cnt:=h.grownRow (row:=some k) (by rintro q ⟨⟩;exact h0) (by rintro q ⟨⟩;exact hw) yi hg
end Go.Proofs.YtnlinmoiakgedaaGreatDoor
