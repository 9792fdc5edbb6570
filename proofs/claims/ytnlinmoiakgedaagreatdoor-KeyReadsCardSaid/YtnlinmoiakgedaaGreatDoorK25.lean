/- squeezed. Walks: the reference's Widen, its  -/
import Derived.Test.YtnlinmoiakgedaaGreatDoorK22
set_option linter.unusedVariables false
set_option linter.unusedSimpArgs false
set_option maxRecDepth 100000
set_option maxHeartbeats 6400000
namespace Go.Proofs.YtnlinmoiakgedaaGreatDoor
open Go.RowKit
theorem aA:∀ X:Fin 64,bits .and .i64 ((X.val:Nat):Int) 31=((X.val%32:Nat):Int):=by decide
theorem co:∀ X:Fin 512,bits .and .i64 ((X.val:Nat):Int) 255=((X.val%256:Nat):Int):=by decide +kernel
theorem Tw {s e:Nat}(hs:s≤1) (he:e<9223372036854775808):bits .or .u64 ((s*9223372036854775808:Nat):Int) (e:Int)=((s*9223372036854775808+e:Nat):Int):=rZ s 63 e he (by simp only[Nat.reducePow];omega)
theorem Tv {s y m:Nat}(hs:s≤1) (hy:y<2048) (hm:m<4503599627370496):bits .or .u64 ((s*9223372036854775808+y*4503599627370496:Nat):Int) (m:Int)=((s*9223372036854775808+y*4503599627370496+m:Nat):Int):=by
 have h:=rZ (s*2048+y) 52 m hm (by simp only[Nat.reducePow];omega);rw[show(s*2048+y)*2 ^ 52=s*9223372036854775808+y*4503599627370496 by simp only[Nat.reducePow];omega]at h
 exact h
theorem pU {S s y m:Nat}{Y:Int}(hS:s*9223372036854775808=S) (hs:s≤1) (hy:y<2048) (hm:m<4503599627370496) (hY:Y=((y*4503599627370496:Nat):Int)) :
  bits .or .u64 (bits .or .u64 (S:Int) Y) (m:Int)=((S+y*4503599627370496+m:Nat):Int):=by
 rw[hY,← hS,Tw hs (by omega),Tv hs hy hm]
theorem bZ {m k:Nat}(h0:m≠0) (hk:k=m.log2) (hm:m<8388608):bits .and .u64 (IntKind.u64.wrap ((m:Int)*(2:Int) ^ (52-k))) 4503599627370495=((m*2 ^ (52-k)-4503599627370496:Nat):Int)∧m*2 ^ (52-k)-4503599627370496<4503599627370496:=by
 subst hk;have hl:m.log2≤52:=by have:=(Nat.log2_lt h0).2 (show m<2 ^ 23 by omega);omega
 obtain⟨a,b⟩:=rP (Nat.log2_self_le h0) Nat.lt_log2_self hl;have e:(m:Int)*(2:Int) ^ (52-m.log2)=((m*2 ^ (52-m.log2):Nat):Int):=by rw[Int.natCast_mul,Int.natCast_pow];rfl
 rw[e];obtain⟨F,hF⟩:∃ F,m*2 ^ (52-m.log2)=F:=⟨_,rfl⟩
 rw[hF]at a b⊢;rw[IntWalk.u64_in _ (by omega)];have h:=vA F 52 (by omega) (by omega)
 exact⟨by rw[show(4503599627370495:Int)=((2 ^ 52-1:Nat):Int) from rfl,h];simp only[Nat.reducePow];omega,by omega⟩
theorem fD (v:Nat) (hv:v<65536) (w:World) :
  Calls Tryz.prog 49 #[.int .u64 (v:Int),.int .i64 5,.int .i64 10] w fun e w'=>e=.returned (.int .u64 (xJ v:Int))∧w'=w:=by
 have A1:bits .and .u64 (v:Int) 1023=((v%1024:Nat):Int):=vA v 10 (by omega) (by omega);obtain⟨u,hu⟩:∃ u,v/1024=u:=⟨_,rfl⟩
 have A2:bits .and .i64 (u:Int) 31=((u%32:Nat):Int):=aA ⟨u,by omega⟩;have Vf:u%32=v/1024%32:=by rw[hu]
 rw[Vf]at A2;obtain⟨s,hs⟩:∃ s,v/32768=s:=⟨_,rfl⟩
 obtain⟨x,hx⟩:∃ x,v/1024%32=x:=⟨_,rfl⟩
 obtain⟨m,hm⟩:∃ m,v%1024=m:=⟨_,rfl⟩
 have xE:s≤1:=by omega
 have pD:x≤31:=by omega
 have rn:m<1024:=by omega
 have W:=Hh (show xJ v=(if x=31 then s*9223372036854775808+9218868437227405312+m*4398046511104
  else if x=0 then(if m=0 then s*9223372036854775808 else s*9223372036854775808+(999+m.log2)*4503599627370496+(m*2 ^ (52-m.log2)-4503599627370496))
  else s*9223372036854775808+(x+1008)*4503599627370496+m*4398046511104) by rw[xJ,hs,hx,hm])
 rw[hm]at A1;rw[hx]at A2;have S1:(v:Int)/32768=(s:Int):=by omega
 have S2:(v:Int)/1024=(u:Int):=by omega
 have K1:IntKind.i64.wrap (u:Int)=(u:Int):=IntWalk.i64_in _ (by omega);have HX:=Hh (And.intro xE (And.intro pD rn));obtain⟨S,hS⟩:∃ S,s*9223372036854775808=S:=⟨_,rfl⟩
 have KS:IntKind.u64.wrap ((s:Int)*9223372036854775808)=(S:Int):=by rw[IntWalk.u64_in _ (by omega)];omega
 rw[hS]at W;have HS:=Hh hS;have PD:=Hh (show s≤1∧x≤31∧m<1024 from⟨xE,pD,rn⟩);clear hs hx hm hv hu Vf hS HX
 by_cases cA:x=31
 ·subst cA;obtain⟨M,hM⟩:∃ M,m*4398046511104=M:=⟨_,rfl⟩
  have KM:IntKind.u64.wrap ((m:Int)*4398046511104)=(M:Int):=by rw[IntWalk.u64_in _ (by omega)];omega
  have O2:Hid (bits .or .u64 (bits .or .u64 (S:Int) 9218868437227405312) (M:Int)=((S+2047*4503599627370496+M:Nat):Int)):=pU (s:=s) HS.out xE (by omega) (by omega) rfl;have WW:Hid (xJ v=S+2047*4503599627370496+M):=by rw[Hid,W.out,if_pos rfl,hM]
  clear W xE pD rn hM;go_enter Tryz.func49,Tryz.ntmps49
  go_wp2_with fail
  go_ret
  exact⟨by rw[WW.out,← O2.out];rfl,rfl⟩
 have x31:((x:Int)==31)=false:=by simp;omega
 have x31':((x:Int)=31)=False:=eq_false (by omega)
 by_cases h0:x=0
 ·subst h0
  by_cases lQ:m=0
  ·subst lQ;have WW:Hid (xJ v=S):=by rw[Hid,W.out,if_neg (by omega),if_pos rfl,if_pos rfl]
   clear W xE pD rn;go_enter Tryz.func49,Tryz.ntmps49
   go_wp2_with fail
   go_ret
   exact⟨by rw[WW.out];try rfl,rfl⟩
  ·have m0:((m:Int)==0)=false:=by simp;omega
   have m0':((m:Int)=0)=False:=eq_false (by omega);have ZI:m.log2≤9:=by have:=(Nat.log2_lt lQ).2 (show m<2 ^ 10 by omega);omega
   have WW:Hid (xJ v=S+(999+m.log2)*4503599627370496+(m*2 ^ (52-m.log2)-4503599627370496)):=by rw[Hid,W.out,if_neg (by omega),if_pos rfl,if_neg lQ]
   have HM:=Hh (And.intro lQ (And.intro rn ZI));clear W xE pD rn lQ ZI;go_enter Tryz.func49,Tryz.ntmps49
   go_wp2_with fail
   go_loop [12] (fun v12=>∃ k:Nat,k≤m.log2∧v12=.int .i64 (k:Int)) (fun v12=>m.log2-(intOf v12).toNat)
   case atStart=>exact⟨0,Nat.zero_le _,rfl⟩
   case round =>
    obtain⟨k,hk,rfl⟩:=hrel;have Nm:(k:Int)≤9:=by have:=HM.out.2.2;omega
    have sE:(0:Int)≤(k:Int)+1:=by omega
    have nI:((k:Int)+1).toNat=k+1:=by omega
    have nt:(m:Int)/(2:Int) ^ (k+1)=((m/2 ^ (k+1):Nat):Int):=by rw[Int.natCast_ediv,Int.natCast_pow];rfl
    have HK:=Hh hk;clear hk
    by_cases so:k<m.log2
    ·have ht:(0:Int)<(m:Int)/(2:Int) ^ (k+1):=by
      rw[nt];have h1:2 ^ (k+1)≤m:=Nat.le_trans (Nat.pow_le_pow_right (by omega) so) (Nat.log2_self_le HM.out.1);have:=Nat.div_pos h1 (Nat.two_pow_pos _)
      omega
     clear nt;have eP:=Hh so;clear so;go_wp2_with fail
     go_round
     case rel=>exact⟨k+1,eP.out,by go_num⟩
     case measure=>have:=eP.out;simp[intOf];omega
    ·have XZ:k=m.log2:=by have:=HK.out;omega
     have ht:¬ ((0:Int)<(m:Int)/(2:Int) ^ (k+1)):=by
      rw[nt];have:m<2 ^ (k+1):=by rw[XZ];exact Nat.lt_log2_self
      rw[Nat.div_eq_of_lt this];simp
     clear nt;have Zh:=Hh XZ;clear so XZ;go_wp2_with fail
     go_ret
     obtain⟨B1,B2⟩:=bZ HM.out.1 Zh.out (by have:=HM.out.2.1;omega);have O3:=pU (S:=S) (s:=s) (y:=999+k) (Y:=((k:Int)+1-15-10+1023)*4503599627370496) HS.out PD.out.1 (by omega) B2 (by omega);rw[← B1]at O3
     refine⟨?_,rfl⟩
     rw[WW.out,← Zh.out,← O3];rfl
 ·have x0:((x:Int)==0)=false:=by simp;omega
  have x0':((x:Int)=0)=False:=eq_false (by omega);obtain⟨M,hM⟩:∃ M,m*4398046511104=M:=⟨_,rfl⟩
  have KM:IntKind.u64.wrap ((m:Int)*4398046511104)=(M:Int):=by rw[IntWalk.u64_in _ (by omega)];omega
  have O2:Hid (bits .or .u64 (bits .or .u64 (S:Int) (((x:Int)-15+1023)*4503599627370496)) (M:Int)=((S+(x+1008)*4503599627370496+M:Nat):Int)):=pU (s:=s) HS.out xE (by omega) (by omega) (by omega);have WW:Hid (xJ v=S+(x+1008)*4503599627370496+M):=by rw[Hid,W.out,if_neg cA,if_neg h0,hM]
  have pY:(x:Int)≤31:=by omega
  clear W xE pD rn hM cA h0;go_enter Tryz.func49,Tryz.ntmps49
  go_wp2_with fail
  go_ret
  refine⟨?_,rfl⟩
  rw[WW.out,← O2.out];rfl
theorem fE (v:Nat) (hv:v<4294967296) (w:World) :
  Calls Tryz.prog 49 #[.int .u64 (v:Int),.int .i64 8,.int .i64 23] w fun e w'=>e=.returned (.int .u64 (wl v:Int))∧w'=w:=by
 have A1:bits .and .u64 (v:Int) 8388607=((v%8388608:Nat):Int):=vA v 23 (by omega) (by omega);obtain⟨u,hu⟩:∃ u,v/8388608=u:=⟨_,rfl⟩
 have A2:bits .and .i64 (u:Int) 255=((u%256:Nat):Int):=co ⟨u,by omega⟩;have Vf:u%256=v/8388608%256:=by rw[hu]
 rw[Vf]at A2;obtain⟨s,hs⟩:∃ s,v/2147483648=s:=⟨_,rfl⟩
 obtain⟨x,hx⟩:∃ x,v/8388608%256=x:=⟨_,rfl⟩
 obtain⟨m,hm⟩:∃ m,v%8388608=m:=⟨_,rfl⟩
 have xE:s≤1:=by omega
 have pD:x≤255:=by omega
 have rn:m<8388608:=by omega
 have W:=Hh (show wl v=(if x=255 then s*9223372036854775808+9218868437227405312+m*536870912
  else if x=0 then(if m=0 then s*9223372036854775808 else s*9223372036854775808+(874+m.log2)*4503599627370496+(m*2 ^ (52-m.log2)-4503599627370496))
  else s*9223372036854775808+(x+896)*4503599627370496+m*536870912) by rw[wl,hs,hx,hm])
 rw[hm]at A1;rw[hx]at A2;have S1:(v:Int)/2147483648=(s:Int):=by omega
 have S2:(v:Int)/8388608=(u:Int):=by omega
 have K1:IntKind.i64.wrap (u:Int)=(u:Int):=IntWalk.i64_in _ (by omega);have HX:=Hh (And.intro xE (And.intro pD rn));obtain⟨S,hS⟩:∃ S,s*9223372036854775808=S:=⟨_,rfl⟩
 have KS:IntKind.u64.wrap ((s:Int)*9223372036854775808)=(S:Int):=by rw[IntWalk.u64_in _ (by omega)];omega
 rw[hS]at W;have HS:=Hh hS;have PD:=Hh (show s≤1∧x≤255∧m<8388608 from⟨xE,pD,rn⟩);clear hs hx hm hv hu Vf hS HX
 by_cases cA:x=255
 ·subst cA;obtain⟨M,hM⟩:∃ M,m*536870912=M:=⟨_,rfl⟩
  have KM:IntKind.u64.wrap ((m:Int)*536870912)=(M:Int):=by rw[IntWalk.u64_in _ (by omega)];omega
  have O2:Hid (bits .or .u64 (bits .or .u64 (S:Int) 9218868437227405312) (M:Int)=((S+2047*4503599627370496+M:Nat):Int)):=pU (s:=s) HS.out xE (by omega) (by omega) rfl;have WW:Hid (wl v=S+2047*4503599627370496+M):=by rw[Hid,W.out,if_pos rfl,hM]
  clear W xE pD rn hM;go_enter Tryz.func49,Tryz.ntmps49
  go_wp2_with fail
  go_ret
  exact⟨by rw[WW.out,← O2.out];rfl,rfl⟩
 have x31:((x:Int)==255)=false:=by simp;omega
 have x31':((x:Int)=255)=False:=eq_false (by omega)
 by_cases h0:x=0
 ·subst h0
  by_cases lQ:m=0
  ·subst lQ;have WW:Hid (wl v=S):=by rw[Hid,W.out,if_neg (by omega),if_pos rfl,if_pos rfl]
   clear W xE pD rn;go_enter Tryz.func49,Tryz.ntmps49
   go_wp2_with fail
   go_ret
   exact⟨by rw[WW.out];try rfl,rfl⟩
  ·have m0:((m:Int)==0)=false:=by simp;omega
   have m0':((m:Int)=0)=False:=eq_false (by omega);have ZI:m.log2≤22:=by have:=(Nat.log2_lt lQ).2 (show m<2 ^ 23 by omega);omega
   have WW:Hid (wl v=S+(874+m.log2)*4503599627370496+(m*2 ^ (52-m.log2)-4503599627370496)):=by rw[Hid,W.out,if_neg (by omega),if_pos rfl,if_neg lQ]
   have HM:=Hh (And.intro lQ (And.intro rn ZI));clear W xE pD rn lQ ZI;go_enter Tryz.func49,Tryz.ntmps49
   go_wp2_with fail
   go_loop [12] (fun v12=>∃ k:Nat,k≤m.log2∧v12=.int .i64 (k:Int)) (fun v12=>m.log2-(intOf v12).toNat)
   case atStart=>exact⟨0,Nat.zero_le _,rfl⟩
   case round =>
    obtain⟨k,hk,rfl⟩:=hrel;have Nm:(k:Int)≤22:=by have:=HM.out.2.2;omega
    have sE:(0:Int)≤(k:Int)+1:=by omega
    have nI:((k:Int)+1).toNat=k+1:=by omega
    have nt:(m:Int)/(2:Int) ^ (k+1)=((m/2 ^ (k+1):Nat):Int):=by rw[Int.natCast_ediv,Int.natCast_pow];rfl
    have HK:=Hh hk;clear hk
    by_cases so:k<m.log2
    ·have ht:(0:Int)<(m:Int)/(2:Int) ^ (k+1):=by
      rw[nt];have h1:2 ^ (k+1)≤m:=Nat.le_trans (Nat.pow_le_pow_right (by omega) so) (Nat.log2_self_le HM.out.1);have:=Nat.div_pos h1 (Nat.two_pow_pos _)
      omega
     clear nt;have eP:=Hh so;clear so;go_wp2_with fail
     go_round
     case rel=>exact⟨k+1,eP.out,by go_num⟩
     case measure=>have:=eP.out;simp[intOf];omega
    ·have XZ:k=m.log2:=by have:=HK.out;omega
     have ht:¬ ((0:Int)<(m:Int)/(2:Int) ^ (k+1)):=by
      rw[nt];have:m<2 ^ (k+1):=by rw[XZ];exact Nat.lt_log2_self
      rw[Nat.div_eq_of_lt this];simp
     clear nt;have Zh:=Hh XZ;clear so XZ;go_wp2_with fail
     go_ret
     obtain⟨B1,B2⟩:=bZ HM.out.1 Zh.out (by have:=HM.out.2.1;omega);have O3:=pU (S:=S) (s:=s) (y:=874+k) (Y:=((k:Int)+1-127-23+1023)*4503599627370496) HS.out PD.out.1 (by omega) B2 (by omega);rw[← B1]at O3
     refine⟨?_,rfl⟩
     rw[WW.out,← Zh.out,← O3];rfl
 ·have x0:((x:Int)==0)=false:=by simp;omega
  have x0':((x:Int)=0)=False:=eq_false (by omega);obtain⟨M,hM⟩:∃ M,m*536870912=M:=⟨_,rfl⟩
  have KM:IntKind.u64.wrap ((m:Int)*536870912)=(M:Int):=by rw[IntWalk.u64_in _ (by omega)];omega
  have O2:Hid (bits .or .u64 (bits .or .u64 (S:Int) (((x:Int)-127+1023)*4503599627370496)) (M:Int)=((S+(x+896)*4503599627370496+M:Nat):Int)):=pU (s:=s) HS.out xE (by omega) (by omega) (by omega);have WW:Hid (wl v=S+(x+896)*4503599627370496+M):=by rw[Hid,W.out,if_neg cA,if_neg h0,hM]
  have pY:(x:Int)≤255:=by omega
  clear W xE pD rn hM cA h0;go_enter Tryz.func49,Tryz.ntmps49
  go_wp2_with fail
  go_ret
  refine⟨?_,rfl⟩
  rw[WW.out,← O2.out];rfl
theorem yD {w:World}{g:Nat}{H:Snap}{A:Option Addr}{c:Nat}{l:List UInt8}{p cnt:Nat}(hP:Psr 112 w g H A c l p cnt) (z:Nat) (sB:1≤z) (cL:z≤8) :
  Calls Tryz.prog 97 #[.pointer (some ⟨g,0,none⟩),.int .i64 (z:Int)] w (bI 112 w g A c l p cnt z):=by
 have hB:=hP.blk;have c0:=hB.cell 0 rfl;have c1:=hB.cell 1 rfl;have HP:=Hh hP;have o9:=hP.le;have qT:=hP.small;have q8:=hP.bytes.le;have pA:=hP.bytes.max;have HZ:=Hh (And.intro sB cL);have MA:(z:Int)≤8:=by omega
 have jl:(p:Int)≤(l.length:Int):=by omega
 have oc:(l.length:Int)≤4096:=by omega
 have K0:IntKind.i64.wrap ((l.length:Int)-(p:Int))=(l.length:Int)-(p:Int):=IntWalk.i64_in _ (by omega)
 by_cases yi:l.length<p+z
 ·have z0:(l.length:Int)-(p:Int)<(z:Int):=by omega
  have HL:=Hh yi;clear sB cL o9 qT q8 pA hP yi;go_enter Tryz.func97,Tryz.ntmps97
  go_wp2_with fail
  go_big_quiet (fail)
  go_wp2_with fail
  go_ret2
  exact .inl ⟨HL.out,rfl,hB,wD (yU w _) _⟩
 ·have z0:¬ ((l.length:Int)-(p:Int)<(z:Int)):=by omega
  have z0b:decide ((l.length:Int)-(p:Int)<(z:Int))=false:=decide_eq_false z0;obtain⟨b,off,rfl,xq⟩:=hP.bytes.at_ (by omega);have HC:=Hh xq;have HH:=Hh hP.holds;have HL:=Hh (And.intro (Nat.not_lt.1 yi) (And.intro qT q8));clear sB cL o9 qT q8 pA hP xq yi;go_enter Tryz.func97,Tryz.ntmps97
  go_wp2_with fail
  go_big_quiet (fail)
  obtain⟨W,hW⟩:∃ W,w.drewN nq=W:=⟨_,rfl⟩
  have TO:Blk W g 112 (sZ (some ⟨b,off,none⟩) l.length c p cnt):=hW ▸ hB;have Se:w.grownBy W (some g):=hW ▸ wD (yU w _) _;have QT:Holds W H:=hW ▸ HH.out;rw[hW];clear hW c0 c1 hB K0;go_wp2_with fail
  have E:Hid ((l.drop p).length=l.length-p):=List.length_drop;go_loopw [6,20] (fun v6 v20 wr=>∃ k:Nat,k≤z∧v20=.int .i64 (k:Int)∧v6=.int .u64 (beN ((l.drop p).take k):Int)∧Blk wr g 112 (sZ (some ⟨b,off,none⟩) l.length c (p+k) cnt)∧w.grownBy wr (some g)∧Holds wr H) (fun _ v20 _=>z-(intOf v20).toNat)
  case atStart=>exact⟨0,Nat.zero_le _,rfl,rfl,TO,Se,QT⟩
  case round =>
   clear TO Se QT;obtain⟨k,hk,rfl,rfl,tD,uT,xT⟩:=hrel
   by_cases Py:k<z
   ·have so:p+k<l.length:=by have:=HL.out.1;omega
    have OX:(k:Int)<(z:Int):=by omega
    have pX:k<(l.drop p).length:=by have:=E.out;omega
    have q0:=xT.cell (HC.out (p+k) so);have ex:(l.drop p)[k]=l[p+k]:=by rw[List.getElem_drop]
    have hX:=mJ (l.drop p) k (by have:=HZ.out;omega);have hS:=fQ (l.drop p) k pX;rw[ex]at hS;obtain⟨X,rG⟩:∃ X,beN ((l.drop p).take k)=X:=⟨_,rfl⟩
    obtain⟨ch,rH⟩:∃ ch,l[p+k]=ch:=⟨_,rfl⟩
    rw[rG]at hX hS⊢;rw[rH]at hS q0;obtain⟨P,Ur⟩:∃ P,p+k=P:=⟨_,rfl⟩
    rw[Ur]at q0 tD so;have lc:=ch.toNat_lt;have K2:IntKind.u64.wrap ((X:Int)*256)=(X:Int)*256:=by rw[IntKind.wrap_u64];omega
    have K3:bits .or .u64 ((X:Int)*256) (ch.toNat:Int)=((X*256+ch.toNat:Nat):Int):=mW X _ hX lc;have HS:=Hh hS;have Ov:=Hh Ur;have Jo:(P:Int)<(l.length:Int):=by omega
    have Jn:(0:Int)≤(P:Int):=by omega
    have K4:IntKind.i64.wrap ((P:Int)+1)=(P:Int)+1:=IntWalk.i64_in _ (by omega);have tG:(k:Int)+1≤9223372036854775807:=by have:=HZ.out;omega
    have c0:=tD.cell 0 rfl;have c1:=tD.cell 1 rfl;clear hX hS rG rH ex pX Ur so;go_wp2_with fail
    go_big_quiet (fail)
    obtain⟨W2,Su⟩:∃ W2,wr.drewN nq=W2:=⟨_,rfl⟩
    have yu:Blk W2 g 112 (sZ (some ⟨b,off,none⟩) l.length c P cnt):=Su ▸ tD;have yp:w.grownBy W2 (some g):=Su ▸ wD uT _;have py:Holds W2 H:=Su ▸ xT;rw[Su];clear Su c0 c1 tD uT xT q0;have c1:=yu.cell 1 rfl;go_wp2_with (with_reducible refine zx ?_)
    refine zu rfl _ _ _ rfl rfl g 1 (.int .i64 ((P:Int)+1)) rfl rfl _ _ yu zE (by simp) rfl fun w3 wO yO=>?_
    have wH:=yV yp yO (.inl rfl);have VW:Holds w3 H:=py.grown yO (by rintro q ⟨⟩;exact HP.out.apart)
    have pV:Blk w3 g 112 (sZ (some ⟨b,off,none⟩) l.length c (p+(k+1)) cnt):=by
     have e:((p+(k+1):Nat):Int)=(P:Int)+1:=by have:=Ov.out;omega
     rw[sZ,e]
     exact wO
    clear wO yO yu yp py c1 K4;go_wp2_with fail
    go_roundw
    case rel=>exact⟨k+1,by omega,by go_num,by rw[HS.out,Int.natCast_add,Int.natCast_mul];rfl,pV,wH,VW⟩
    case measure=>simp[intOf];omega
   ·have eW:k=z:=by omega
    subst eW;have wy:¬ ((k:Int)<(k:Int)):=by omega
    obtain⟨X,rG⟩:∃ X,beN ((l.drop p).take k)=X:=⟨_,rfl⟩
    rw[rG];have HX:=Hh rG;clear rG;go_wp2_with fail
    go_ret2
    exact .inr ⟨HL.out.1,by rw[HX.out];rfl,tD,uT⟩
theorem aj {v:Nat}(hv:v<65536):xJ v<18446744073709551616:=by
 by_cases hn:v/1024%32=31∧v%1024≠0
 ·rw[xJ,if_pos hn.1];omega
 ·exact(qj hv hn).2
theorem ak {v:Nat}(hv:v<4294967296):wl v<18446744073709551616:=by
 by_cases hn:v/8388608%256=255∧v%8388608≠0
 ·rw[wl,if_pos hn.1];omega
 ·exact(ql hv hn).2
def xW (low:Nat) (b:List UInt8) (c:Nat):PR :=
 if low<24 then(match yK low low with | .error e=>.err e | .ok x=>.ok x 0 c)
 else if b.length<2 ^ (low-24) then .err 2
 else match yK low (beN (b.take (2 ^ (low-24)))) with | .error e=>.err e | .ok x=>.ok x (2 ^ (low-24)) c
theorem kh:(Tryz.prog.info? 22).map (·.size)=some 1:=by kernel_rfl
section
variable {w:World} {H:Snap} {g:Nat} {A:Option Addr} {c:Nat} {l:List UInt8} {p cnt:Nat}
theorem jK (hP:Psr 112 w g H A c l p cnt) (low:Nat) (ta:low<24):Calls Tryz.prog 96 #[.pointer (some ⟨g,0,none⟩),.int .i64 (low:Int)] w (ItemOut 112 w H g A c l p (xW low (l.drop p) cnt)):=by
 have zC:=hP.gt;have xg:=(Rdg.refl hP).alloc zr;have xC:=Blk.new w 26 #[.int .i64 0,.int .u64 0,.slice none 0 0,.slice none 0 0];have zQ:H w.heap.size=none:=hP.holds.none_of_ge (Nat.le_refl _);have E:Hid (xW low (l.drop p) cnt=.ok (.mk 7 low [] []) 0 cnt):=by rw[Hid,xW,if_pos ta,yK,if_pos ta]
 have z24:(low:Int)<24:=by omega
 have KU:IntKind.u64.wrap (low:Int)=(low:Int):=by rw[IntKind.wrap_u64];omega
 have HL:=Hh ta;clear ta;go_enter Tryz.func96,Tryz.ntmps96
 go_wp2_with (with_reducible refine zx ?_)
 refine stI xC fun wz hTy zU=>?_
 have zP:=xg.gb zQ (Nat.le_refl _) zC zU;go_wp2_with fail
 refine zv rfl rfl hTy rfl rfl zw rfl ?_
 exact ItemOut.ok (ja:=none) (jb:=0) (jc:=none) (jd:=0) E.out rfl zP (IsItem.plain _ 7 low (by omega) (by have:=HL.out;omega))
theorem gp (hP:Psr 112 w g H A c l p cnt):Calls Tryz.prog 96 #[.pointer (some ⟨g,0,none⟩),.int .i64 24] w (ItemOut 112 w H g A c l p (xW 24 (l.drop p) cnt)):=by
 have zC:=hP.gt;have xg:=(Rdg.refl hP).alloc zr;have xC:=Blk.new w 26 #[.int .i64 0,.int .u64 0,.slice none 0 0,.slice none 0 0];have zQ:H w.heap.size=none:=hP.holds.none_of_ge (Nat.le_refl _);have E0:Hid (xW 24 (l.drop p) cnt=if(l.drop p).length<1 then .err 2 else match yK 24 (beN ((l.drop p).take 1)) with | .error e=>.err e | .ok x=>.ok x 1 cnt):=by rw[Hid,xW,if_neg (by omega)]
 have NM:=Hh (yD xg.psr 1 (by omega) (by omega));have HC:=Hh hP.cnt_le;go_enter Tryz.func96,Tryz.ntmps96
 go_wp2_with fail
 refine NM.out.mono ?_
 rintro e w3 (⟨hs,rfl,wO,yO⟩ | ⟨hs,rfl,wO,yO⟩)
 ·have E:Hid (xW 24 (l.drop p) cnt=.err 2):=by rw[Hid,E0.out,if_pos (by rw[List.length_drop];have:=hP.le;omega)]
  have yF:Rdg 112 w H w3 H g A c l p cnt:=xg.step yO wO hP.le HC.out;have xM:=xC.gr yO (by omega);clear NM hs xg xC wO yO;go_wp2_with (with_reducible refine zx ?_)
  refine stI xM fun wz hTy zU=>?_
  have zP:=yF.gb zQ (Nat.le_refl _) zC zU;go_wp2_with fail
  refine zv rfl rfl hTy rfl rfl zw rfl ?_
  exact ItemOut.err E.out rfl zP
 have yF:Rdg 112 w H w3 H g A c l (p+1) cnt:=xg.step yO wO hs HC.out;have xM:=xC.gr yO (by omega);have E1:Hid (xW 24 (l.drop p) cnt=match yK 24 (beN ((l.drop p).take 1)) with | .error e=>.err e | .ok x=>.ok x 1 cnt):=by rw[Hid,E0.out,if_neg (by rw[List.length_drop];omega)]
 have xV:=xm ((l.drop p).take 1);have wy:((l.drop p).take 1).length=1:=by rw[List.length_take,List.length_drop];omega
 rw[wy]at xV
 simp only[Nat.reducePow]at xV
 have sH:=fun x h=>(uX (low:=24) (x:=x) (t:=(l.drop p).take 1) (by omega) (fun h=>by omega) (fun _=>⟨by rw[wy],rfl⟩) h).2.2.1
 obtain⟨n,hn⟩:∃ n,beN ((l.drop p).take 1)=n:=⟨_,rfl⟩
 rw[hn]at E1 xV sH⊢;have HN:=Hh xV;have Zl:=Hh sH;clear NM hs xg xC wO yO E0 hn wy xV sH;have o6:=Blk.new w3 26 #[.int .i64 0,.int .u64 0,.slice none 0 0,.slice none 0 0];have xR:=yF.alloc zr;have xG:=xM.alloc zr;have xz:=Hh xM.lt;have gU:H w3.heap.size=none:=yF.psr.holds.none_of_ge (Nat.le_refl _);clear yF xM;go_wp2_with (with_reducible refine zx ?_)
 refine stI o6 fun w4 qH hg4=>?_
 have yl:=xR.gb gU (Nat.le_of_lt xz.out) zC hg4;have yh:=xG.grown hg4 (by intro e;injection e with e;have:=xz.out;omega);clear xR xG o6 hg4;obtain⟨X,rG⟩:∃ X,w3.heap.size=X:=⟨_,rfl⟩
 rw[rG]at qH gU xz⊢;clear rG
 by_cases h32:n<32
 ·have z32:(n:Int)<32:=by omega
  have E:Hid (xW 24 (l.drop p) cnt=.err 4):=by rw[Hid,E1.out,yK,if_neg (by omega),if_pos rfl,if_pos h32]
  clear h32;go_wp2_with (with_reducible refine zx ?_)
  refine stI yh fun wz hTy zU=>?_
  have zP:=yl.gb zQ (Nat.le_refl _) zC zU;go_wp2_with fail
  refine zv rfl rfl hTy rfl rfl zw rfl ?_
  exact ItemOut.err E.out rfl zP
 ·have z32:¬ ((n:Int)<32):=by omega
  have E:Hid (xW 24 (l.drop p) cnt=.ok (.mk 7 n [] []) 1 cnt):=by rw[Hid,E1.out,yK,if_neg (by omega),if_pos rfl,if_neg h32]
  clear h32;go_wp2_with (with_reducible refine zx ?_)
  refine stI yh fun wz hTy zU=>?_
  have zP:=yl.gb zQ (Nat.le_refl _) zC zU;go_wp2_with fail
  refine zv rfl rfl hTy rfl rfl zw rfl ?_
  exact ItemOut.ok (ja:=none) (jb:=0) (jc:=none) (jd:=0) E.out rfl zP (IsItem.plain _ 7 n (by omega) (by have:=HN.out;omega))
theorem gu (hP:Psr 112 w g H A c l p cnt):Calls Tryz.prog 96 #[.pointer (some ⟨g,0,none⟩),.int .i64 25] w (ItemOut 112 w H g A c l p (xW 25 (l.drop p) cnt)):=by
 have zC:=hP.gt;have xg:=(Rdg.refl hP).alloc zr;have xC:=Blk.new w 26 #[.int .i64 0,.int .u64 0,.slice none 0 0,.slice none 0 0];have zQ:H w.heap.size=none:=hP.holds.none_of_ge (Nat.le_refl _);have E0:Hid (xW 25 (l.drop p) cnt=if(l.drop p).length<2 then .err 2 else match yK 25 (beN ((l.drop p).take 2)) with | .error e=>.err e | .ok x=>.ok x 2 cnt):=by rw[Hid,xW,if_neg (by omega)]
 have NM:=Hh (yD xg.psr 2 (by omega) (by omega));have HC:=Hh hP.cnt_le;go_enter Tryz.func96,Tryz.ntmps96
 go_wp2_with fail
 refine NM.out.mono ?_
 rintro e w3 (⟨hs,rfl,wO,yO⟩ | ⟨hs,rfl,wO,yO⟩)
 ·have E:Hid (xW 25 (l.drop p) cnt=.err 2):=by rw[Hid,E0.out,if_pos (by rw[List.length_drop];have:=hP.le;omega)]
  have yF:Rdg 112 w H w3 H g A c l p cnt:=xg.step yO wO hP.le HC.out;have xM:=xC.gr yO (by omega);clear NM hs xg xC wO yO;go_wp2_with (with_reducible refine zx ?_)
  refine stI xM fun wz hTy zU=>?_
  have zP:=yF.gb zQ (Nat.le_refl _) zC zU;go_wp2_with fail
  refine zv rfl rfl hTy rfl rfl zw rfl ?_
  exact ItemOut.err E.out rfl zP
 have yF:Rdg 112 w H w3 H g A c l (p+2) cnt:=xg.step yO wO hs HC.out;have xM:=xC.gr yO (by omega);have E1:Hid (xW 25 (l.drop p) cnt=match yK 25 (beN ((l.drop p).take 2)) with | .error e=>.err e | .ok x=>.ok x 2 cnt):=by rw[Hid,E0.out,if_neg (by rw[List.length_drop];omega)]
 have xV:=xm ((l.drop p).take 2);have wy:((l.drop p).take 2).length=2:=by rw[List.length_take,List.length_drop];omega
 rw[wy]at xV
 simp only[Nat.reducePow]at xV
 have sH:=fun x h=>(uX (low:=25) (x:=x) (t:=(l.drop p).take 2) (by omega) (fun h=>by omega) (fun _=>⟨by rw[wy],rfl⟩) h).2.2.1
 obtain⟨n,hn⟩:∃ n,beN ((l.drop p).take 2)=n:=⟨_,rfl⟩
 rw[hn]at E1 xV sH⊢;have HN:=Hh xV;have Zl:=Hh sH;clear NM hs xg xC wO yO E0 hn wy xV sH;have o6:=Blk.new w3 26 #[.int .i64 0,.int .u64 0,.slice none 0 0,.slice none 0 0];have xR:=yF.alloc zr;have xG:=xM.alloc zr;have xz:=Hh xM.lt;have gU:H w3.heap.size=none:=yF.psr.holds.none_of_ge (Nat.le_refl _);clear yF xM;go_wp2_with (with_reducible refine zx ?_)
 refine stI o6 fun w4 qH hg4=>?_
 have yl:=xR.gb gU (Nat.le_of_lt xz.out) zC hg4;have yh:=xG.grown hg4 (by intro e;injection e with e;have:=xz.out;omega);clear xR xG o6 hg4;obtain⟨X,rG⟩:∃ X,w3.heap.size=X:=⟨_,rfl⟩
 rw[rG]at qH gU xz⊢;clear rG
 have E2:Hid (yK 25 n=if(isNaN (xJ n)&&xJ n != zT)||(zF (xJ n)).length != 3 then .error 4 else .ok (.mk 8 (xJ n) [] [])):=by
  rw[Hid,rO 25 n (by omega)];rw[show uw 25 n=xJ n by rw[uw,if_pos rfl]]
 have mD:=aj HN.out;have WD:=Hh (fun w=>fD n HN.out w);obtain⟨D,hD⟩:∃ D,xJ n=D:=⟨_,rfl⟩
 rw[hD]at E2 mD WD;go_wp2_with fail
 refine(WD.out _).mono ?_
 rintro e w6 ⟨rfl,rfl⟩
 clear WD hD;go_wp2_with (with_reducible refine zx ?_)
 refine zu rfl _ _ _ rfl rfl X 1 (.int .u64 (D:Int)) rfl rfl _ _ qH kh (by simp) rfl fun w7 nF hg7=>?_
 have yG:=yl.gb gU (Nat.le_of_lt xz.out) zC hg7;have yL:=yh.grown hg7 (by intro e;injection e with e;have:=xz.out;omega);have rS:Blk w7 X 26 #[.int .i64 8,.int .u64 (D:Int),.slice none 0 0,.slice none 0 0]:=nF;clear yl yh qH hg7 nF;have b0:=rS.cell 0 rfl;have b1:=rS.cell 1 rfl;have b2:=rS.cell 2 rfl;have b3:=rS.cell 3 rfl;have IN:=Hh (fun w=>sT D mD w);have FL:=Hh (fun w=>pP D mD w);have VP:=Hh mD;obtain⟨fl,vu⟩:∃ fl,(zF D).length=fl:=⟨_,rfl⟩
 obtain⟨nn,vE⟩:∃ nn,isNaN D=nn:=⟨_,rfl⟩
 rw[vE]at IN E2;rw[vu]at E2;have lH:=Hh vu;clear mD vE vu;have wd:(D != zT)=true∨(D != zT)=false:=by cases (D != zT) <;> simp
 cases nn with
 | true =>
  rcases wd with wd | wd
  ·have oY:D≠9221120237041090560:=by rw[bne_iff_ne]at wd;exact wd
   have c1:((D:Int) != 9221120237041090560)=true:=by rw[bne_iff_ne];omega
   have c1':((D:Int)=9221120237041090560)=False:=eq_false (by omega);have E:Hid (xW 25 (l.drop p) cnt=.err 4):=by rw[Hid,E1.out,E2.out,wd];simp
   clear E1 E2 wd oY lH;go_wp2_with fail
   refine(IN.out _).mono ?_
   rintro e w6 ⟨rfl,rfl⟩
   go_wp2_with (with_reducible refine zx ?_)
   refine stI yL fun wz hTy zU=>?_
   have zP:=yG.gb zQ (Nat.le_refl _) zC zU;go_wp2_with fail
   refine zv rfl rfl hTy rfl rfl zw rfl ?_
   exact ItemOut.err E.out rfl zP
  ·have oY:D=9221120237041090560:=by rw[bne_eq_false_iff_eq]at wd;exact wd
   have c1:((D:Int) != 9221120237041090560)=false:=by rw[bne_eq_false_iff_eq];omega
   have c1':((D:Int)=9221120237041090560)=True:=eq_true (by omega);rw[wd]at E2;clear wd oY;go_wp2_with fail
   refine(IN.out _).mono ?_
   rintro e w6 ⟨rfl,rfl⟩
   go_wp2_with fail
   refine(FL.out _).mono ?_
   rintro e w8 ⟨r,rfl,hf⟩
   have wL:=yG.below_ hf.2;have vN:=yL.below hf.2;have tY:=rS.below hf.2;obtain⟨RA,rc,rfl,_⟩:=hf.own.form;rw[lH.out];clear b0 b1 b2 b3 hf;have b0:=tY.cell 0 rfl;have b1:=tY.cell 1 rfl;have b2:=tY.cell 2 rfl;have b3:=tY.cell 3 rfl
   by_cases hq:fl=3
   ·subst hq;have E:Hid (xW 25 (l.drop p) cnt=.ok (.mk 8 D [] []) 2 cnt):=by rw[Hid,E1.out,E2.out];simp 
    clear E1 E2 lH;go_wp2_with (with_reducible refine zx ?_)
    refine stI vN fun wz hTy zU=>?_
    have zP:=wL.gb zQ (Nat.le_refl _) zC zU;go_wp2_with fail
    refine zv rfl rfl hTy rfl rfl zw rfl ?_
    exact ItemOut.ok (ja:=none) (jb:=0) (jc:=none) (jd:=0) E.out rfl zP (IsItem.plain _ 8 D (by omega) VP.out)
   ·have zq:((fl:Int)==3)=false:=by simp;omega
    have zq2:((fl:Int)=3)=False:=eq_false (by omega);have E:Hid (xW 25 (l.drop p) cnt=.err 4):=by rw[Hid,E1.out,E2.out];simp[hq]
    clear E1 E2 lH hq;go_wp2_with (with_reducible refine zx ?_)
    refine stI vN fun wz hTy zU=>?_
    have zP:=wL.gb zQ (Nat.le_refl _) zC zU;go_wp2_with fail
    refine zv rfl rfl hTy rfl rfl zw rfl ?_
    exact ItemOut.err E.out rfl zP
 | false =>
  clear wd;go_wp2_with fail
  refine(IN.out _).mono ?_
  rintro e w6 ⟨rfl,rfl⟩
  go_wp2_with fail
  refine(FL.out _).mono ?_
  rintro e w8 ⟨r,rfl,hf⟩
  have wL:=yG.below_ hf.2;have vN:=yL.below hf.2;have tY:=rS.below hf.2;obtain⟨RA,rc,rfl,_⟩:=hf.own.form;rw[lH.out];clear b0 b1 b2 b3 hf;have b0:=tY.cell 0 rfl;have b1:=tY.cell 1 rfl;have b2:=tY.cell 2 rfl;have b3:=tY.cell 3 rfl
  by_cases hq:fl=3
  ·subst hq;have E:Hid (xW 25 (l.drop p) cnt=.ok (.mk 8 D [] []) 2 cnt):=by rw[Hid,E1.out,E2.out];simp 
   clear E1 E2 lH;go_wp2_with (with_reducible refine zx ?_)
   refine stI vN fun wz hTy zU=>?_
   have zP:=wL.gb zQ (Nat.le_refl _) zC zU;go_wp2_with fail
   refine zv rfl rfl hTy rfl rfl zw rfl ?_
   exact ItemOut.ok (ja:=none) (jb:=0) (jc:=none) (jd:=0) E.out rfl zP (IsItem.plain _ 8 D (by omega) VP.out)
  ·have zq:((fl:Int)==3)=false:=by simp;omega
   have zq2:((fl:Int)=3)=False:=eq_false (by omega);have E:Hid (xW 25 (l.drop p) cnt=.err 4):=by rw[Hid,E1.out,E2.out];simp[hq]
   clear E1 E2 lH hq;go_wp2_with (with_reducible refine zx ?_)
   refine stI vN fun wz hTy zU=>?_
   have zP:=wL.gb zQ (Nat.le_refl _) zC zU;go_wp2_with fail
   refine zv rfl rfl hTy rfl rfl zw rfl ?_
   exact ItemOut.err E.out rfl zP
theorem gv (hP:Psr 112 w g H A c l p cnt):Calls Tryz.prog 96 #[.pointer (some ⟨g,0,none⟩),.int .i64 26] w (ItemOut 112 w H g A c l p (xW 26 (l.drop p) cnt)):=by
 have zC:=hP.gt;have xg:=(Rdg.refl hP).alloc zr;have xC:=Blk.new w 26 #[.int .i64 0,.int .u64 0,.slice none 0 0,.slice none 0 0];have zQ:H w.heap.size=none:=hP.holds.none_of_ge (Nat.le_refl _);have E0:Hid (xW 26 (l.drop p) cnt=if(l.drop p).length<4 then .err 2 else match yK 26 (beN ((l.drop p).take 4)) with | .error e=>.err e | .ok x=>.ok x 4 cnt):=by rw[Hid,xW,if_neg (by omega)]
 have NM:=Hh (yD xg.psr 4 (by omega) (by omega));have HC:=Hh hP.cnt_le;go_enter Tryz.func96,Tryz.ntmps96
 go_wp2_with fail
 refine NM.out.mono ?_
 rintro e w3 (⟨hs,rfl,wO,yO⟩ | ⟨hs,rfl,wO,yO⟩)
 ·have E:Hid (xW 26 (l.drop p) cnt=.err 2):=by rw[Hid,E0.out,if_pos (by rw[List.length_drop];have:=hP.le;omega)]
  have yF:Rdg 112 w H w3 H g A c l p cnt:=xg.step yO wO hP.le HC.out;have xM:=xC.gr yO (by omega);clear NM hs xg xC wO yO;go_wp2_with (with_reducible refine zx ?_)
  refine stI xM fun wz hTy zU=>?_
  have zP:=yF.gb zQ (Nat.le_refl _) zC zU;go_wp2_with fail
  refine zv rfl rfl hTy rfl rfl zw rfl ?_
  exact ItemOut.err E.out rfl zP
 have yF:Rdg 112 w H w3 H g A c l (p+4) cnt:=xg.step yO wO hs HC.out;have xM:=xC.gr yO (by omega);have E1:Hid (xW 26 (l.drop p) cnt=match yK 26 (beN ((l.drop p).take 4)) with | .error e=>.err e | .ok x=>.ok x 4 cnt):=by rw[Hid,E0.out,if_neg (by rw[List.length_drop];omega)]
 have xV:=xm ((l.drop p).take 4);have wy:((l.drop p).take 4).length=4:=by rw[List.length_take,List.length_drop];omega
 rw[wy]at xV
 simp only[Nat.reducePow]at xV
 have sH:=fun x h=>(uX (low:=26) (x:=x) (t:=(l.drop p).take 4) (by omega) (fun h=>by omega) (fun _=>⟨by rw[wy],rfl⟩) h).2.2.1
 obtain⟨n,hn⟩:∃ n,beN ((l.drop p).take 4)=n:=⟨_,rfl⟩
 rw[hn]at E1 xV sH⊢;have HN:=Hh xV;have Zl:=Hh sH;clear NM hs xg xC wO yO E0 hn wy xV sH;have o6:=Blk.new w3 26 #[.int .i64 0,.int .u64 0,.slice none 0 0,.slice none 0 0];have xR:=yF.alloc zr;have xG:=xM.alloc zr;have xz:=Hh xM.lt;have gU:H w3.heap.size=none:=yF.psr.holds.none_of_ge (Nat.le_refl _);clear yF xM;go_wp2_with (with_reducible refine zx ?_)
 refine stI o6 fun w4 qH hg4=>?_
 have yl:=xR.gb gU (Nat.le_of_lt xz.out) zC hg4;have yh:=xG.grown hg4 (by intro e;injection e with e;have:=xz.out;omega);clear xR xG o6 hg4;obtain⟨X,rG⟩:∃ X,w3.heap.size=X:=⟨_,rfl⟩
 rw[rG]at qH gU xz⊢;clear rG
 have E2:Hid (yK 26 n=if(isNaN (wl n)&&wl n != zT)||(zF (wl n)).length != 5 then .error 4 else .ok (.mk 8 (wl n) [] [])):=by
  rw[Hid,rO 26 n (by omega)];rw[show uw 26 n=wl n by rw[uw,if_neg (by omega),if_pos rfl]]
 have mD:=ak HN.out;have WD:=Hh (fun w=>fE n HN.out w);obtain⟨D,hD⟩:∃ D,wl n=D:=⟨_,rfl⟩
 rw[hD]at E2 mD WD;go_wp2_with fail
 refine(WD.out _).mono ?_
 rintro e w6 ⟨rfl,rfl⟩
 clear WD hD;go_wp2_with (with_reducible refine zx ?_)
 refine zu rfl _ _ _ rfl rfl X 1 (.int .u64 (D:Int)) rfl rfl _ _ qH kh (by simp) rfl fun w7 nF hg7=>?_
 have yG:=yl.gb gU (Nat.le_of_lt xz.out) zC hg7;have yL:=yh.grown hg7 (by intro e;injection e with e;have:=xz.out;omega);have rS:Blk w7 X 26 #[.int .i64 8,.int .u64 (D:Int),.slice none 0 0,.slice none 0 0]:=nF;clear yl yh qH hg7 nF;have b0:=rS.cell 0 rfl;have b1:=rS.cell 1 rfl;have b2:=rS.cell 2 rfl;have b3:=rS.cell 3 rfl;have IN:=Hh (fun w=>sT D mD w);have FL:=Hh (fun w=>pP D mD w);have VP:=Hh mD;obtain⟨fl,vu⟩:∃ fl,(zF D).length=fl:=⟨_,rfl⟩
 obtain⟨nn,vE⟩:∃ nn,isNaN D=nn:=⟨_,rfl⟩
 rw[vE]at IN E2;rw[vu]at E2;have lH:=Hh vu;clear mD vE vu;have wd:(D != zT)=true∨(D != zT)=false:=by cases (D != zT) <;> simp
 cases nn with
 | true =>
  rcases wd with wd | wd
  ·have oY:D≠9221120237041090560:=by rw[bne_iff_ne]at wd;exact wd
   have c1:((D:Int) != 9221120237041090560)=true:=by rw[bne_iff_ne];omega
   have c1':((D:Int)=9221120237041090560)=False:=eq_false (by omega);have E:Hid (xW 26 (l.drop p) cnt=.err 4):=by rw[Hid,E1.out,E2.out,wd];simp
   clear E1 E2 wd oY lH;go_wp2_with fail
   refine(IN.out _).mono ?_
   rintro e w6 ⟨rfl,rfl⟩
   go_wp2_with (with_reducible refine zx ?_)
   refine stI yL fun wz hTy zU=>?_
   have zP:=yG.gb zQ (Nat.le_refl _) zC zU;go_wp2_with fail
   refine zv rfl rfl hTy rfl rfl zw rfl ?_
   exact ItemOut.err E.out rfl zP
  ·have oY:D=9221120237041090560:=by rw[bne_eq_false_iff_eq]at wd;exact wd
   have c1:((D:Int) != 9221120237041090560)=false:=by rw[bne_eq_false_iff_eq];omega
   have c1':((D:Int)=9221120237041090560)=True:=eq_true (by omega);rw[wd]at E2;clear wd oY;go_wp2_with fail
   refine(IN.out _).mono ?_
   rintro e w6 ⟨rfl,rfl⟩
   go_wp2_with fail
   refine(FL.out _).mono ?_
   rintro e w8 ⟨r,rfl,hf⟩
   have wL:=yG.below_ hf.2;have vN:=yL.below hf.2;have tY:=rS.below hf.2;obtain⟨RA,rc,rfl,_⟩:=hf.own.form;rw[lH.out];clear b0 b1 b2 b3 hf;have b0:=tY.cell 0 rfl;have b1:=tY.cell 1 rfl;have b2:=tY.cell 2 rfl;have b3:=tY.cell 3 rfl
   by_cases hq:fl=5
   ·subst hq;have E:Hid (xW 26 (l.drop p) cnt=.ok (.mk 8 D [] []) 4 cnt):=by rw[Hid,E1.out,E2.out];simp 
    clear E1 E2 lH;go_wp2_with (with_reducible refine zx ?_)
    refine stI vN fun wz hTy zU=>?_
    have zP:=wL.gb zQ (Nat.le_refl _) zC zU;go_wp2_with fail
    refine zv rfl rfl hTy rfl rfl zw rfl ?_
    exact ItemOut.ok (ja:=none) (jb:=0) (jc:=none) (jd:=0) E.out rfl zP (IsItem.plain _ 8 D (by omega) VP.out)
   ·have zq:((fl:Int)==5)=false:=by simp;omega
    have zq2:((fl:Int)=5)=False:=eq_false (by omega);have E:Hid (xW 26 (l.drop p) cnt=.err 4):=by rw[Hid,E1.out,E2.out];simp[hq]
    clear E1 E2 lH hq;go_wp2_with (with_reducible refine zx ?_)
    refine stI vN fun wz hTy zU=>?_
    have zP:=wL.gb zQ (Nat.le_refl _) zC zU;go_wp2_with fail
    refine zv rfl rfl hTy rfl rfl zw rfl ?_
    exact ItemOut.err E.out rfl zP
 | false =>
  clear wd;go_wp2_with fail
  refine(IN.out _).mono ?_
  rintro e w6 ⟨rfl,rfl⟩
  go_wp2_with fail
  refine(FL.out _).mono ?_
  rintro e w8 ⟨r,rfl,hf⟩
  have wL:=yG.below_ hf.2;have vN:=yL.below hf.2;have tY:=rS.below hf.2;obtain⟨RA,rc,rfl,_⟩:=hf.own.form;rw[lH.out];clear b0 b1 b2 b3 hf;have b0:=tY.cell 0 rfl;have b1:=tY.cell 1 rfl;have b2:=tY.cell 2 rfl;have b3:=tY.cell 3 rfl
  by_cases hq:fl=5
  ·subst hq;have E:Hid (xW 26 (l.drop p) cnt=.ok (.mk 8 D [] []) 4 cnt):=by rw[Hid,E1.out,E2.out];simp 
   clear E1 E2 lH;go_wp2_with (with_reducible refine zx ?_)
   refine stI vN fun wz hTy zU=>?_
   have zP:=wL.gb zQ (Nat.le_refl _) zC zU;go_wp2_with fail
   refine zv rfl rfl hTy rfl rfl zw rfl ?_
   exact ItemOut.ok (ja:=none) (jb:=0) (jc:=none) (jd:=0) E.out rfl zP (IsItem.plain _ 8 D (by omega) VP.out)
  ·have zq:((fl:Int)==5)=false:=by simp;omega
   have zq2:((fl:Int)=5)=False:=eq_false (by omega);have E:Hid (xW 26 (l.drop p) cnt=.err 4):=by rw[Hid,E1.out,E2.out];simp[hq]
   clear E1 E2 lH hq;go_wp2_with (with_reducible refine zx ?_)
   refine stI vN fun wz hTy zU=>?_
   have zP:=wL.gb zQ (Nat.le_refl _) zC zU;go_wp2_with fail
   refine zv rfl rfl hTy rfl rfl zw rfl ?_
   exact ItemOut.err E.out rfl zP
theorem gw (hP:Psr 112 w g H A c l p cnt):Calls Tryz.prog 96 #[.pointer (some ⟨g,0,none⟩),.int .i64 27] w (ItemOut 112 w H g A c l p (xW 27 (l.drop p) cnt)):=by
 have zC:=hP.gt;have xg:=(Rdg.refl hP).alloc zr;have xC:=Blk.new w 26 #[.int .i64 0,.int .u64 0,.slice none 0 0,.slice none 0 0];have zQ:H w.heap.size=none:=hP.holds.none_of_ge (Nat.le_refl _);have E0:Hid (xW 27 (l.drop p) cnt=if(l.drop p).length<8 then .err 2 else match yK 27 (beN ((l.drop p).take 8)) with | .error e=>.err e | .ok x=>.ok x 8 cnt):=by rw[Hid,xW,if_neg (by omega)]
 have NM:=Hh (yD xg.psr 8 (by omega) (by omega));have HC:=Hh hP.cnt_le;go_enter Tryz.func96,Tryz.ntmps96
 go_wp2_with fail
 refine NM.out.mono ?_
 rintro e w3 (⟨hs,rfl,wO,yO⟩ | ⟨hs,rfl,wO,yO⟩)
 ·have E:Hid (xW 27 (l.drop p) cnt=.err 2):=by rw[Hid,E0.out,if_pos (by rw[List.length_drop];have:=hP.le;omega)]
  have yF:Rdg 112 w H w3 H g A c l p cnt:=xg.step yO wO hP.le HC.out;have xM:=xC.gr yO (by omega);clear NM hs xg xC wO yO;go_wp2_with (with_reducible refine zx ?_)
  refine stI xM fun wz hTy zU=>?_
  have zP:=yF.gb zQ (Nat.le_refl _) zC zU;go_wp2_with fail
  refine zv rfl rfl hTy rfl rfl zw rfl ?_
  exact ItemOut.err E.out rfl zP
 have yF:Rdg 112 w H w3 H g A c l (p+8) cnt:=xg.step yO wO hs HC.out;have xM:=xC.gr yO (by omega);have E1:Hid (xW 27 (l.drop p) cnt=match yK 27 (beN ((l.drop p).take 8)) with | .error e=>.err e | .ok x=>.ok x 8 cnt):=by rw[Hid,E0.out,if_neg (by rw[List.length_drop];omega)]
 have xV:=xm ((l.drop p).take 8);have wy:((l.drop p).take 8).length=8:=by rw[List.length_take,List.length_drop];omega
 rw[wy]at xV
 simp only[Nat.reducePow]at xV
 have sH:=fun x h=>(uX (low:=27) (x:=x) (t:=(l.drop p).take 8) (by omega) (fun h=>by omega) (fun _=>⟨by rw[wy],rfl⟩) h).2.2.1
 obtain⟨n,hn⟩:∃ n,beN ((l.drop p).take 8)=n:=⟨_,rfl⟩
 rw[hn]at E1 xV sH⊢;have HN:=Hh xV;have Zl:=Hh sH;clear NM hs xg xC wO yO E0 hn wy xV sH;have o6:=Blk.new w3 26 #[.int .i64 0,.int .u64 0,.slice none 0 0,.slice none 0 0];have xR:=yF.alloc zr;have xG:=xM.alloc zr;have xz:=Hh xM.lt;have gU:H w3.heap.size=none:=yF.psr.holds.none_of_ge (Nat.le_refl _);clear yF xM;go_wp2_with (with_reducible refine zx ?_)
 refine stI o6 fun w4 qH hg4=>?_
 have yl:=xR.gb gU (Nat.le_of_lt xz.out) zC hg4;have yh:=xG.grown hg4 (by intro e;injection e with e;have:=xz.out;omega);clear xR xG o6 hg4;obtain⟨X,rG⟩:∃ X,w3.heap.size=X:=⟨_,rfl⟩
 rw[rG]at qH gU xz⊢;clear rG
 have E2:Hid (yK 27 n=if(isNaN (n)&&n != zT)||(zF (n)).length != 9 then .error 4 else .ok (.mk 8 (n) [] [])):=by
  rw[Hid,rO 27 n (by omega)];rw[show uw 27 n=n by rw[uw,if_neg (by omega),if_neg (by omega)]]
 have mD:=HN.out;obtain⟨D,hD⟩:∃ D,n=D:=⟨_,rfl⟩
 subst hD;have yG:=yl;have yL:=yh;have rS:=qH;clear yl yh qH;have b0:=rS.cell 0 rfl;have b1:=rS.cell 1 rfl;have b2:=rS.cell 2 rfl;have b3:=rS.cell 3 rfl;have IN:=Hh (fun w=>sT n mD w);have FL:=Hh (fun w=>pP n mD w);have VP:=Hh mD;obtain⟨fl,vu⟩:∃ fl,(zF n).length=fl:=⟨_,rfl⟩
 obtain⟨nn,vE⟩:∃ nn,isNaN n=nn:=⟨_,rfl⟩
 rw[vE]at IN E2;rw[vu]at E2;have lH:=Hh vu;clear mD vE vu;have wd:(n != zT)=true∨(n != zT)=false:=by cases (n != zT) <;> simp
 cases nn with
 | true =>
  rcases wd with wd | wd
  ·have oY:n≠9221120237041090560:=by rw[bne_iff_ne]at wd;exact wd
   have c1:((n:Int) != 9221120237041090560)=true:=by rw[bne_iff_ne];omega
   have c1':((n:Int)=9221120237041090560)=False:=eq_false (by omega);have E:Hid (xW 27 (l.drop p) cnt=.err 4):=by rw[Hid,E1.out,E2.out,wd];simp
   clear E1 E2 wd oY lH;go_wp2_with fail
   refine(IN.out _).mono ?_
   rintro e w6 ⟨rfl,rfl⟩
   go_wp2_with (with_reducible refine zx ?_)
   refine stI yL fun wz hTy zU=>?_
   have zP:=yG.gb zQ (Nat.le_refl _) zC zU;go_wp2_with fail
   refine zv rfl rfl hTy rfl rfl zw rfl ?_
   exact ItemOut.err E.out rfl zP
  ·have oY:n=9221120237041090560:=by rw[bne_eq_false_iff_eq]at wd;exact wd
   have c1:((n:Int) != 9221120237041090560)=false:=by rw[bne_eq_false_iff_eq];omega
   have c1':((n:Int)=9221120237041090560)=True:=eq_true (by omega);rw[wd]at E2;clear wd oY;go_wp2_with fail
   refine(IN.out _).mono ?_
   rintro e w6 ⟨rfl,rfl⟩
   go_wp2_with fail
   refine(FL.out _).mono ?_
   rintro e w8 ⟨r,rfl,hf⟩
   have wL:=yG.below_ hf.2;have vN:=yL.below hf.2;have tY:=rS.below hf.2;obtain⟨RA,rc,rfl,_⟩:=hf.own.form;rw[lH.out];clear b0 b1 b2 b3 hf;have b0:=tY.cell 0 rfl;have b1:=tY.cell 1 rfl;have b2:=tY.cell 2 rfl;have b3:=tY.cell 3 rfl
   by_cases hq:fl=9
   ·subst hq;have E:Hid (xW 27 (l.drop p) cnt=.ok (.mk 8 n [] []) 8 cnt):=by rw[Hid,E1.out,E2.out];simp 
    clear E1 E2 lH;go_wp2_with (with_reducible refine zx ?_)
    refine stI vN fun wz hTy zU=>?_
    have zP:=wL.gb zQ (Nat.le_refl _) zC zU;go_wp2_with fail
    refine zv rfl rfl hTy rfl rfl zw rfl ?_
    exact ItemOut.ok (ja:=none) (jb:=0) (jc:=none) (jd:=0) E.out rfl zP (IsItem.plain _ 8 n (by omega) VP.out)
   ·have zq:((fl:Int)==9)=false:=by simp;omega
    have zq2:((fl:Int)=9)=False:=eq_false (by omega);have E:Hid (xW 27 (l.drop p) cnt=.err 4):=by rw[Hid,E1.out,E2.out];simp[hq]
    clear E1 E2 lH hq;go_wp2_with (with_reducible refine zx ?_)
    refine stI vN fun wz hTy zU=>?_
    have zP:=wL.gb zQ (Nat.le_refl _) zC zU;go_wp2_with fail
    refine zv rfl rfl hTy rfl rfl zw rfl ?_
    exact ItemOut.err E.out rfl zP
 | false =>
  clear wd;go_wp2_with fail
  refine(IN.out _).mono ?_
  rintro e w6 ⟨rfl,rfl⟩
  go_wp2_with fail
  refine(FL.out _).mono ?_
  rintro e w8 ⟨r,rfl,hf⟩
  have wL:=yG.below_ hf.2;have vN:=yL.below hf.2;have tY:=rS.below hf.2;obtain⟨RA,rc,rfl,_⟩:=hf.own.form;rw[lH.out];clear b0 b1 b2 b3 hf;have b0:=tY.cell 0 rfl;have b1:=tY.cell 1 rfl;have b2:=tY.cell 2 rfl;have b3:=tY.cell 3 rfl
  by_cases hq:fl=9
  ·subst hq;have E:Hid (xW 27 (l.drop p) cnt=.ok (.mk 8 n [] []) 8 cnt):=by rw[Hid,E1.out,E2.out];simp 
   clear E1 E2 lH;go_wp2_with (with_reducible refine zx ?_)
   refine stI vN fun wz hTy zU=>?_
   have zP:=wL.gb zQ (Nat.le_refl _) zC zU;go_wp2_with fail
   refine zv rfl rfl hTy rfl rfl zw rfl ?_
   exact ItemOut.ok (ja:=none) (jb:=0) (jc:=none) (jd:=0) E.out rfl zP (IsItem.plain _ 8 n (by omega) VP.out)
  ·have zq:((fl:Int)==9)=false:=by simp;omega
   have zq2:((fl:Int)=9)=False:=eq_false (by omega);have E:Hid (xW 27 (l.drop p) cnt=.err 4):=by rw[Hid,E1.out,E2.out];simp[hq]
   clear E1 E2 lH hq;go_wp2_with (with_reducible refine zx ?_)
   refine stI vN fun wz hTy zU=>?_
   have zP:=wL.gb zQ (Nat.le_refl _) zC zU;go_wp2_with fail
   refine zv rfl rfl hTy rfl rfl zw rfl ?_
   exact ItemOut.err E.out rfl zP
theorem aX (hP:Psr 112 w g H A c l p cnt) (low:Nat) (hl:low≤27):Calls Tryz.prog 96 #[.pointer (some ⟨g,0,none⟩),.int .i64 (low:Int)] w (ItemOut 112 w H g A c l p (xW low (l.drop p) cnt)):=by
 by_cases h:low<24
 ·exact jK hP low h
 rcases(by omega:low=24∨low=25∨low=26∨low=27) with rfl | rfl | rfl | rfl
 ·exact gp hP
 ·exact gu hP
 ·exact gv hP
 ·exact gw hP
end
def ve (maj:Nat) (p:List UInt8→Nat→PR):Nat→Bool→List UInt8→Nat→Option (List UInt8)→PL
 | 0,_,_,c,_=>.ok [] 0 c
 | m+1,ev,b,c,last=>match p b c with
  | .err e=>.err e
  | .ok x k c' =>
   if maj=5∧ev=true then
    match tB last (b.take k) with
    | some e=>.err e
    | none=>(ve maj p m false (b.drop k) c' (some (b.take k))).pre [x] k
   else(ve maj p m (!ev) (b.drop k) c' last).pre [x] k
theorem bX (L M:List Itm) (a b:Nat) (r:PL):(r.pre M b).pre L a=r.pre (L++M) (a+b):=by
 cases r <;> simp[PL.pre,Nat.add_assoc]
section
variable {maj:Nat} {p:List UInt8→Nat→PR} {m:Nat} {ev:Bool} {b:List UInt8} {cc q k c1:Nat} {x:Itm} {last:Option (List UInt8)}
theorem Xo (L:List Itm) (k0:Nat) (h:p b cc=.err q):(ve maj p (m+1) ev b cc last).pre L k0=.err q:=by rw[ve,h];rfl
theorem fT (L:List Itm) (k0:Nat) (h:p b cc=.ok x k c1) (hm:maj=5) (he:ev=true) (h2:tB last (b.take k)=some q):(ve maj p (m+1) ev b cc last).pre L k0=.err q:=by
 rw[ve,h];simp only;rw[if_pos ⟨hm,he⟩,h2];rfl
theorem mL (L:List Itm) (k0:Nat) (h:p b cc=.ok x k c1) (hm:maj=5) (he:ev=true) (h2:tB last (b.take k)=none):(ve maj p (m+1) ev b cc last).pre L k0=(ve maj p m false (b.drop k) c1 (some (b.take k))).pre (L++[x]) (k0+k):=by
 rw[ve,h];simp only;rw[if_pos ⟨hm,he⟩,h2];simp only;rw[bX]
theorem Vo (L:List Itm) (k0:Nat) (h:p b cc=.ok x k c1) (hm:¬ (maj=5∧ev=true)):(ve maj p (m+1) ev b cc last).pre L k0=(ve maj p m (!ev) (b.drop k) c1 last).pre (L++[x]) (k0+k):=by
 rw[ve,h];simp only;rw[if_neg hm,bX]
end
theorem pi {maj:Nat}(hm:maj≠5) (p:List UInt8→Nat→PR):∀ (n:Nat) (ev:Bool) (b:List UInt8) (c:Nat) (last:Option (List UInt8)),ve maj p n ev b c last=vS p n b c
 | 0,_,_,_,_=>rfl
 | n+1,ev,b,c,last=>by
  rw[ve,vS]
  cases h:p b c with
  | err e=>rfl
  | ok x k c1 =>
   simp only
   rw[if_neg (fun h=>hm h.1),pi hm p n]
   cases vS p n (b.drop k) c1 <;> rfl
theorem fU (p:List UInt8→Nat→PR):∀ (n:Nat) (b:List UInt8) (c:Nat) (last:Option (List UInt8)),ve 5 p (2*n) true b c last=vr p n b c last
 | 0,_,_,_=>rfl
 | n+1,b,c,last=>by
  rw[show 2*(n+1)=(2*n+1)+1 by omega,ve,vr]
  cases h:p b c with
  | err e=>rfl
  | ok x k c1 =>
   simp only
   rw[if_pos (by simp)]
   cases hk:tB last (b.take k) with
   | some e=>rfl
   | none =>
    simp only
    rw[ve]
    cases h2:p (b.drop k) c1 with
    | err e=>rfl
    | ok y k2 c2 =>
     simp only
     rw[if_neg (by simp),List.drop_drop,Bool.not_false,fU p n]
     cases vr p n (b.drop (k+k2)) c2 (some (b.take k)) with
     | err e=>rfl
     | ok l k3 c3=>simp[PL.pre,Nat.add_assoc]
def kp (maj n:Nat):Nat:=if maj=5 then 2*min n 4294967296 else if maj=6 then 1 else n
def elR (maj n:Nat):PL→PR
 | .err q=>.err q
 | .ok L k c=>.ok (.mk (maj:Int) (if maj=6 then n else 0) [] L) k c
def ue (maj d n:Nat) (b:List UInt8) (c:Nat):PR:=elR maj n (ve maj (zo d) (kp maj n) true b c none)
theorem dJ (d:Nat) (b:List UInt8) (c:Nat) (h:¬ 256≤c) {f n k:Nat}(hq:zj b=.ok (f,n,k)) (h4:4≤f/32) (h6:f/32≤6) :
  zo (d+1) b c=(match ue (f/32) d n (b.drop k) (c+1) with | .err e=>.err e | .ok x k' c'=>.ok x (k+k') c'):=by
 rcases(by omega:f/32=4∨f/32=5∨f/32=6) with hk | hk | hk
 ·rw[j6 d b c h hq hk,hk,ue,pi (by omega),kp,if_neg (by omega),if_neg (by omega)]
  cases vS (zo d) n (b.drop k) (c+1) <;> rfl
 ·rw[j7 d b c h hq hk,hk,ue,kp,if_pos rfl,fU]
  have e:vr (zo d) (min n 4294967296) (b.drop k) (c+1) none=vr (zo d) n (b.drop k) (c+1) none:=by
   rcases Nat.le_total n 4294967296 with hn | hn
   ·rw[Nat.min_eq_left hn]
   ·rw[Nat.min_eq_right hn]
    exact bS (vU d) _ _ _ _ _ (by omega) (by omega) (by omega)
  rw[e]
  cases vr (zo d) n (b.drop k) (c+1) none <;> rfl
 ·rw[j8 d b c h hq hk,hk,ue,kp,if_neg (by omega),if_pos rfl,pi (by omega),vS]
  cases zo d (b.drop k) (c+1) with
  | err e=>rfl
  | ok x k' c'=>simp[vS,elR]
end Go.Proofs.YtnlinmoiakgedaaGreatDoor
