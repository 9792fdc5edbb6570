/- squeezed. Walks: the reference's Widen, its  -/
import Derived.Test.YtgcjjhibdbafmabGreatDoorK10
set_option linter.unusedVariables false
set_option linter.unusedSimpArgs false
set_option maxRecDepth 100000
set_option maxHeartbeats 6400000
namespace Go.Proofs.YtgcjjhibdbafmabGreatDoor
open Go.RowKit
theorem Y4:∀ X:Fin 64,bits .and .i64 ((X.val:Nat):Int) 31=((X.val%32:Nat):Int):=by decide
theorem aM:∀ X:Fin 512,bits .and .i64 ((X.val:Nat):Int) 255=((X.val%256:Nat):Int):=by decide +kernel
theorem RN {s e:Nat}(hs:s≤1) (he:e<9223372036854775808):bits .or .u64 ((s*9223372036854775808:Nat):Int) (e:Int)=((s*9223372036854775808+e:Nat):Int):=rM s 63 e he (by simp only[Nat.reducePow];omega)
theorem RM {s y m:Nat}(hs:s≤1) (hy:y<2048) (hm:m<4503599627370496):bits .or .u64 ((s*9223372036854775808+y*4503599627370496:Nat):Int) (m:Int)=((s*9223372036854775808+y*4503599627370496+m:Nat):Int):=by
 have h:=rM (s*2048+y) 52 m hm (by simp only[Nat.reducePow];omega);rw[show(s*2048+y)*2 ^ 52=s*9223372036854775808+y*4503599627370496 by simp only[Nat.reducePow];omega]at h
 exact h
theorem pM {S s y m:Nat}{Y:Int}(hS:s*9223372036854775808=S) (hs:s≤1) (hy:y<2048) (hm:m<4503599627370496) (hY:Y=((y*4503599627370496:Nat):Int)) :
  bits .or .u64 (bits .or .u64 (S:Int) Y) (m:Int)=((S+y*4503599627370496+m:Nat):Int):=by
 rw[hY,← hS,RN hs (by omega),RM hs hy hm]
theorem ZT {m k:Nat}(h0:m≠0) (hk:k=m.log2) (hm:m<8388608):bits .and .u64 (IntKind.u64.wrap ((m:Int)*(2:Int) ^ (52-k))) 4503599627370495=((m*2 ^ (52-k)-4503599627370496:Nat):Int)∧m*2 ^ (52-k)-4503599627370496<4503599627370496:=by
 subst hk;have hl:m.log2≤52:=by have:=(Nat.log2_lt h0).2 (show m<2 ^ 23 by omega);omega
 obtain⟨a,b⟩:=qu (Nat.log2_self_le h0) Nat.lt_log2_self hl;have e:(m:Int)*(2:Int) ^ (52-m.log2)=((m*2 ^ (52-m.log2):Nat):Int):=by rw[Int.natCast_mul,Int.natCast_pow];rfl
 rw[e];obtain⟨F,hF⟩:∃ F,m*2 ^ (52-m.log2)=F:=⟨_,rfl⟩
 rw[hF]at a b⊢;rw[IntWalk.u64_in _ (by omega)];have h:=uW F 52 (by omega) (by omega)
 exact⟨by rw[show(4503599627370495:Int)=((2 ^ 52-1:Nat):Int) from rfl,h];simp only[Nat.reducePow];omega,by omega⟩
theorem dG (v:Nat) (hv:v<65536) (w:World) :
  Calls Tryz.prog 133 #[.int .u64 (v:Int),.int .i64 5,.int .i64 10] w fun e w'=>e=.returned (.int .u64 (xR v:Int))∧w'=w:=by
 have A1:bits .and .u64 (v:Int) 1023=((v%1024:Nat):Int):=uW v 10 (by omega) (by omega);obtain⟨u,hu⟩:∃ u,v/1024=u:=⟨_,rfl⟩
 have A2:bits .and .i64 (u:Int) 31=((u%32:Nat):Int):=Y4 ⟨u,by omega⟩;have TZ:u%32=v/1024%32:=by rw[hu]
 rw[TZ]at A2;obtain⟨s,hs⟩:∃ s,v/32768=s:=⟨_,rfl⟩
 obtain⟨x,hx⟩:∃ x,v/1024%32=x:=⟨_,rfl⟩
 obtain⟨m,hm⟩:∃ m,v%1024=m:=⟨_,rfl⟩
 have vC:s≤1:=by omega
 have pq:x≤31:=by omega
 have qo:m<1024:=by omega
 have W:=Hh (show xR v=(if x=31 then s*9223372036854775808+9218868437227405312+m*4398046511104
  else if x=0 then(if m=0 then s*9223372036854775808 else s*9223372036854775808+(999+m.log2)*4503599627370496+(m*2 ^ (52-m.log2)-4503599627370496))
  else s*9223372036854775808+(x+1008)*4503599627370496+m*4398046511104) by rw[xR,hs,hx,hm])
 rw[hm]at A1;rw[hx]at A2;have S1:(v:Int)/32768=(s:Int):=by omega
 have S2:(v:Int)/1024=(u:Int):=by omega
 have K1:IntKind.i64.wrap (u:Int)=(u:Int):=IntWalk.i64_in _ (by omega);have HX:=Hh (And.intro vC (And.intro pq qo));obtain⟨S,hS⟩:∃ S,s*9223372036854775808=S:=⟨_,rfl⟩
 have KS:IntKind.u64.wrap ((s:Int)*9223372036854775808)=(S:Int):=by rw[IntWalk.u64_in _ (by omega)];omega
 rw[hS]at W;have HS:=Hh hS;have MV:=Hh (show s≤1∧x≤31∧m<1024 from⟨vC,pq,qo⟩);clear hs hx hm hv hu TZ hS HX
 by_cases Zc:x=31
 ·subst Zc;obtain⟨M,hM⟩:∃ M,m*4398046511104=M:=⟨_,rfl⟩
  have KM:IntKind.u64.wrap ((m:Int)*4398046511104)=(M:Int):=by rw[IntWalk.u64_in _ (by omega)];omega
  have O2:Hid (bits .or .u64 (bits .or .u64 (S:Int) 9218868437227405312) (M:Int)=((S+2047*4503599627370496+M:Nat):Int)):=pM (s:=s) HS.out vC (by omega) (by omega) rfl;have WW:Hid (xR v=S+2047*4503599627370496+M):=by rw[Hid,W.out,if_pos rfl,hM]
  clear W vC pq qo hM;go_enter Tryz.func133,Tryz.ntmps133
  go_wp2_with fail
  go_ret
  exact⟨by rw[WW.out,← O2.out];rfl,rfl⟩
 have x31:((x:Int)==31)=false:=by simp;omega
 have x31':((x:Int)=31)=False:=eq_false (by omega)
 by_cases h0:x=0
 ·subst h0
  by_cases kL:m=0
  ·subst kL;have WW:Hid (xR v=S):=by rw[Hid,W.out,if_neg (by omega),if_pos rfl,if_pos rfl]
   clear W vC pq qo;go_enter Tryz.func133,Tryz.ntmps133
   go_wp2_with fail
   go_ret
   exact⟨by rw[WW.out];try rfl,rfl⟩
  have m0:((m:Int)==0)=false:=by simp;omega
  have m0':((m:Int)=0)=False:=eq_false (by omega);have XE:m.log2≤9:=by have:=(Nat.log2_lt kL).2 (show m<2 ^ 10 by omega);omega
  have WW:Hid (xR v=S+(999+m.log2)*4503599627370496+(m*2 ^ (52-m.log2)-4503599627370496)):=by rw[Hid,W.out,if_neg (by omega),if_pos rfl,if_neg kL]
  have HM:=Hh (And.intro kL (And.intro qo XE));clear W vC pq qo kL XE;go_enter Tryz.func133,Tryz.ntmps133
  go_wp2_with fail
  go_loop [12] (fun v12=>∃ k:Nat,k≤m.log2∧v12=.int .i64 (k:Int)) (fun v12=>m.log2-(intOf v12).toNat)
  case atStart=>exact⟨0,Nat.zero_le _,rfl⟩
  case round =>
  obtain⟨k,hk,rfl⟩:=hrel;have Km:(k:Int)≤9:=by have:=HM.out.2.2;omega
  have py:(0:Int)≤(k:Int)+1:=by omega
  have oe:((k:Int)+1).toNat=k+1:=by omega
  have nF:(m:Int)/(2:Int) ^ (k+1)=((m/2 ^ (k+1):Nat):Int):=by rw[Int.natCast_ediv,Int.natCast_pow];rfl
  have HK:=Hh hk;clear hk
  by_cases sZ:k<m.log2
  ·have ht:(0:Int)<(m:Int)/(2:Int) ^ (k+1):=by
    rw[nF];have h1:2 ^ (k+1)≤m:=Nat.le_trans (Nat.pow_le_pow_right (by omega) sZ) (Nat.log2_self_le HM.out.1);have:=Nat.div_pos h1 (Nat.two_pow_pos _)
    omega
   clear nF;have cG:=Hh sZ;clear sZ;go_wp2_with fail
   go_round
   case rel=>exact⟨k+1,cG.out,by go_num⟩
   case measure=>have:=cG.out;simp[intOf];omega
  have VF:k=m.log2:=by have:=HK.out;omega
  have ht:¬ ((0:Int)<(m:Int)/(2:Int) ^ (k+1)):=by
   rw[nF];have:m<2 ^ (k+1):=by rw[VF];exact Nat.lt_log2_self
   rw[Nat.div_eq_of_lt this];simp
  clear nF;have Uc:=Hh VF;clear sZ VF;go_wp2_with fail
  go_ret
  obtain⟨B1,B2⟩:=ZT HM.out.1 Uc.out (by have:=HM.out.2.1;omega);have O3:=pM (S:=S) (s:=s) (y:=999+k) (Y:=((k:Int)+1-15-10+1023)*4503599627370496) HS.out MV.out.1 (by omega) B2 (by omega);rw[← B1]at O3
  refine⟨?_,rfl⟩
  rw[WW.out,← Uc.out,← O3];rfl
 have x0:((x:Int)==0)=false:=by simp;omega
 have x0':((x:Int)=0)=False:=eq_false (by omega);obtain⟨M,hM⟩:∃ M,m*4398046511104=M:=⟨_,rfl⟩
 have KM:IntKind.u64.wrap ((m:Int)*4398046511104)=(M:Int):=by rw[IntWalk.u64_in _ (by omega)];omega
 have O2:Hid (bits .or .u64 (bits .or .u64 (S:Int) (((x:Int)-15+1023)*4503599627370496)) (M:Int)=((S+(x+1008)*4503599627370496+M:Nat):Int)):=pM (s:=s) HS.out vC (by omega) (by omega) (by omega);have WW:Hid (xR v=S+(x+1008)*4503599627370496+M):=by rw[Hid,W.out,if_neg Zc,if_neg h0,hM]
 have ot:(x:Int)≤31:=by omega
 clear W vC pq qo hM Zc h0;go_enter Tryz.func133,Tryz.ntmps133
 go_wp2_with fail
 go_ret
 refine⟨?_,rfl⟩
 rw[WW.out,← O2.out];rfl
theorem dH (v:Nat) (hv:v<4294967296) (w:World) :
  Calls Tryz.prog 133 #[.int .u64 (v:Int),.int .i64 8,.int .i64 23] w fun e w'=>e=.returned (.int .u64 (wg v:Int))∧w'=w:=by
 have A1:bits .and .u64 (v:Int) 8388607=((v%8388608:Nat):Int):=uW v 23 (by omega) (by omega);obtain⟨u,hu⟩:∃ u,v/8388608=u:=⟨_,rfl⟩
 have A2:bits .and .i64 (u:Int) 255=((u%256:Nat):Int):=aM ⟨u,by omega⟩;have TZ:u%256=v/8388608%256:=by rw[hu]
 rw[TZ]at A2;obtain⟨s,hs⟩:∃ s,v/2147483648=s:=⟨_,rfl⟩
 obtain⟨x,hx⟩:∃ x,v/8388608%256=x:=⟨_,rfl⟩
 obtain⟨m,hm⟩:∃ m,v%8388608=m:=⟨_,rfl⟩
 have vC:s≤1:=by omega
 have pq:x≤255:=by omega
 have qo:m<8388608:=by omega
 have W:=Hh (show wg v=(if x=255 then s*9223372036854775808+9218868437227405312+m*536870912
  else if x=0 then(if m=0 then s*9223372036854775808 else s*9223372036854775808+(874+m.log2)*4503599627370496+(m*2 ^ (52-m.log2)-4503599627370496))
  else s*9223372036854775808+(x+896)*4503599627370496+m*536870912) by rw[wg,hs,hx,hm])
 rw[hm]at A1;rw[hx]at A2;have S1:(v:Int)/2147483648=(s:Int):=by omega
 have S2:(v:Int)/8388608=(u:Int):=by omega
 have K1:IntKind.i64.wrap (u:Int)=(u:Int):=IntWalk.i64_in _ (by omega);have HX:=Hh (And.intro vC (And.intro pq qo));obtain⟨S,hS⟩:∃ S,s*9223372036854775808=S:=⟨_,rfl⟩
 have KS:IntKind.u64.wrap ((s:Int)*9223372036854775808)=(S:Int):=by rw[IntWalk.u64_in _ (by omega)];omega
 rw[hS]at W;have HS:=Hh hS;have MV:=Hh (show s≤1∧x≤255∧m<8388608 from⟨vC,pq,qo⟩);clear hs hx hm hv hu TZ hS HX
 by_cases Zc:x=255
 ·subst Zc;obtain⟨M,hM⟩:∃ M,m*536870912=M:=⟨_,rfl⟩
  have KM:IntKind.u64.wrap ((m:Int)*536870912)=(M:Int):=by rw[IntWalk.u64_in _ (by omega)];omega
  have O2:Hid (bits .or .u64 (bits .or .u64 (S:Int) 9218868437227405312) (M:Int)=((S+2047*4503599627370496+M:Nat):Int)):=pM (s:=s) HS.out vC (by omega) (by omega) rfl;have WW:Hid (wg v=S+2047*4503599627370496+M):=by rw[Hid,W.out,if_pos rfl,hM]
  clear W vC pq qo hM;go_enter Tryz.func133,Tryz.ntmps133
  go_wp2_with fail
  go_ret
  exact⟨by rw[WW.out,← O2.out];rfl,rfl⟩
 have x31:((x:Int)==255)=false:=by simp;omega
 have x31':((x:Int)=255)=False:=eq_false (by omega)
 by_cases h0:x=0
 ·subst h0
  by_cases kL:m=0
  ·subst kL;have WW:Hid (wg v=S):=by rw[Hid,W.out,if_neg (by omega),if_pos rfl,if_pos rfl]
   clear W vC pq qo;go_enter Tryz.func133,Tryz.ntmps133
   go_wp2_with fail
   go_ret
   exact⟨by rw[WW.out];try rfl,rfl⟩
  have m0:((m:Int)==0)=false:=by simp;omega
  have m0':((m:Int)=0)=False:=eq_false (by omega);have XE:m.log2≤22:=by have:=(Nat.log2_lt kL).2 (show m<2 ^ 23 by omega);omega
  have WW:Hid (wg v=S+(874+m.log2)*4503599627370496+(m*2 ^ (52-m.log2)-4503599627370496)):=by rw[Hid,W.out,if_neg (by omega),if_pos rfl,if_neg kL]
  have HM:=Hh (And.intro kL (And.intro qo XE));clear W vC pq qo kL XE;go_enter Tryz.func133,Tryz.ntmps133
  go_wp2_with fail
  go_loop [12] (fun v12=>∃ k:Nat,k≤m.log2∧v12=.int .i64 (k:Int)) (fun v12=>m.log2-(intOf v12).toNat)
  case atStart=>exact⟨0,Nat.zero_le _,rfl⟩
  case round =>
  obtain⟨k,hk,rfl⟩:=hrel;have Km:(k:Int)≤22:=by have:=HM.out.2.2;omega
  have py:(0:Int)≤(k:Int)+1:=by omega
  have oe:((k:Int)+1).toNat=k+1:=by omega
  have nF:(m:Int)/(2:Int) ^ (k+1)=((m/2 ^ (k+1):Nat):Int):=by rw[Int.natCast_ediv,Int.natCast_pow];rfl
  have HK:=Hh hk;clear hk
  by_cases sZ:k<m.log2
  ·have ht:(0:Int)<(m:Int)/(2:Int) ^ (k+1):=by
    rw[nF];have h1:2 ^ (k+1)≤m:=Nat.le_trans (Nat.pow_le_pow_right (by omega) sZ) (Nat.log2_self_le HM.out.1);have:=Nat.div_pos h1 (Nat.two_pow_pos _)
    omega
   clear nF;have cG:=Hh sZ;clear sZ;go_wp2_with fail
   go_round
   case rel=>exact⟨k+1,cG.out,by go_num⟩
   case measure=>have:=cG.out;simp[intOf];omega
  have VF:k=m.log2:=by have:=HK.out;omega
  have ht:¬ ((0:Int)<(m:Int)/(2:Int) ^ (k+1)):=by
   rw[nF];have:m<2 ^ (k+1):=by rw[VF];exact Nat.lt_log2_self
   rw[Nat.div_eq_of_lt this];simp
  clear nF;have Uc:=Hh VF;clear sZ VF;go_wp2_with fail
  go_ret
  obtain⟨B1,B2⟩:=ZT HM.out.1 Uc.out (by have:=HM.out.2.1;omega);have O3:=pM (S:=S) (s:=s) (y:=874+k) (Y:=((k:Int)+1-127-23+1023)*4503599627370496) HS.out MV.out.1 (by omega) B2 (by omega);rw[← B1]at O3
  refine⟨?_,rfl⟩
  rw[WW.out,← Uc.out,← O3];rfl
 have x0:((x:Int)==0)=false:=by simp;omega
 have x0':((x:Int)=0)=False:=eq_false (by omega);obtain⟨M,hM⟩:∃ M,m*536870912=M:=⟨_,rfl⟩
 have KM:IntKind.u64.wrap ((m:Int)*536870912)=(M:Int):=by rw[IntWalk.u64_in _ (by omega)];omega
 have O2:Hid (bits .or .u64 (bits .or .u64 (S:Int) (((x:Int)-127+1023)*4503599627370496)) (M:Int)=((S+(x+896)*4503599627370496+M:Nat):Int)):=pM (s:=s) HS.out vC (by omega) (by omega) (by omega);have WW:Hid (wg v=S+(x+896)*4503599627370496+M):=by rw[Hid,W.out,if_neg Zc,if_neg h0,hM]
 have ot:(x:Int)≤255:=by omega
 clear W vC pq qo hM Zc h0;go_enter Tryz.func133,Tryz.ntmps133
 go_wp2_with fail
 go_ret
 refine⟨?_,rfl⟩
 rw[WW.out,← O2.out];rfl
theorem yO {w:World}{g:Nat}{H:Snap}{A:Option Addr}{c:Nat}{l:List UInt8}{p cnt:Nat}(hP:Psr 118 w g H A c l p cnt) (z:Nat) (rv:1≤z) (Zr:z≤8) :
  Calls Tryz.prog 107 #[.pointer (some ⟨g,0,none⟩),.int .i64 (z:Int)] w (Z9 118 w g A c l p cnt z):=by
 have hB:=hP.blk;have c0:=hB.cell 0 rfl;have c1:=hB.cell 1 rfl;have HP:=Hh hP;have na:=hP.le;have qI:=hP.small;have uA:=hP.bytes.le;have nX:=hP.bytes.max;have HZ:=Hh (And.intro rv Zr);have Qx:(z:Int)≤8:=by omega
 have lp:(p:Int)≤(l.length:Int):=by omega
 have VG:(l.length:Int)≤4096:=by omega
 have K0:IntKind.i64.wrap ((l.length:Int)-(p:Int))=(l.length:Int)-(p:Int):=IntWalk.i64_in _ (by omega)
 by_cases ye:l.length<p+z
 ·have z0:(l.length:Int)-(p:Int)<(z:Int):=by omega
  have HL:=Hh ye;clear rv Zr na qI uA nX hP ye;go_enter Tryz.func107,Tryz.ntmps107
  go_wp2_with fail
  go_big_quiet (fail)
  go_wp2_with fail
  go_ret2
  exact .inl ⟨HL.out,rfl,hB,vw (yu w _) _⟩
 have z0:¬ ((l.length:Int)-(p:Int)<(z:Int)):=by omega
 have z0b:decide ((l.length:Int)-(p:Int)<(z:Int))=false:=decide_eq_false z0;obtain⟨b,off,rfl,xw⟩:=hP.bytes.at_ (by omega);have HC:=Hh xw;have HH:=Hh hP.holds;have HL:=Hh (And.intro (Nat.not_lt.1 ye) (And.intro qI uA));clear rv Zr na qI uA nX hP xw ye;go_enter Tryz.func107,Tryz.ntmps107
 go_wp2_with fail
 go_big_quiet (fail)
 obtain⟨W,hW⟩:∃ W,w.drewN nq=W:=⟨_,rfl⟩
 have Qg:Blk W g 118 (sR (some ⟨b,off,none⟩) l.length c p cnt):=hW ▸ hB;have Pv:w.grownBy W (some g):=hW ▸ vw (yu w _) _;have Np:Holds W H:=hW ▸ HH.out;rw[hW];clear hW c0 c1 hB K0;go_wp2_with fail
 have E:Hid ((l.drop p).length=l.length-p):=List.length_drop;go_loopw [6,20] (fun v6 v20 wr=>∃ k:Nat,k≤z∧v20=.int .i64 (k:Int)∧v6=.int .u64 (beN ((l.drop p).take k):Int)∧Blk wr g 118 (sR (some ⟨b,off,none⟩) l.length c (p+k) cnt)∧w.grownBy wr (some g)∧Holds wr H) (fun _ v20 _=>z-(intOf v20).toNat)
 case atStart=>exact⟨0,Nat.zero_le _,rfl,rfl,Qg,Pv,Np⟩
 case round =>
 clear Qg Pv Np;obtain⟨k,hk,rfl,rfl,iV,pn,wF⟩:=hrel
 by_cases N4:k<z
 ·have sZ:p+k<l.length:=by have:=HL.out.1;omega
  have Le:(k:Int)<(z:Int):=by omega
  have pP:k<(l.drop p).length:=by have:=E.out;omega
  have q0:=wF.cell (HC.out (p+k) sZ);have ex:(l.drop p)[k]=l[p+k]:=by rw[List.getElem_drop]
  have hX:=lC (l.drop p) k (by have:=HZ.out;omega);have hS:=dW (l.drop p) k pP;rw[ex]at hS;obtain⟨X,qm⟩:∃ X,beN ((l.drop p).take k)=X:=⟨_,rfl⟩
  obtain⟨ch,rt⟩:∃ ch,l[p+k]=ch:=⟨_,rfl⟩
  rw[qm]at hX hS⊢;rw[rt]at hS q0;obtain⟨P,Sl⟩:∃ P,p+k=P:=⟨_,rfl⟩
  rw[Sl]at q0 iV sZ;have lc:=ch.toNat_lt;have K2:IntKind.u64.wrap ((X:Int)*256)=(X:Int)*256:=by rw[IntKind.wrap_u64];omega
  have K3:bits .or .u64 ((X:Int)*256) (ch.toNat:Int)=((X*256+ch.toNat:Nat):Int):=lY X _ hX lc;have HS:=Hh hS;have MG:=Hh Sl;have G0:(P:Int)<(l.length:Int):=by omega
  have Fz:(0:Int)≤(P:Int):=by omega
  have K4:IntKind.i64.wrap ((P:Int)+1)=(P:Int)+1:=IntWalk.i64_in _ (by omega);have rL:(k:Int)+1≤9223372036854775807:=by have:=HZ.out;omega
  have c0:=iV.cell 0 rfl;have c1:=iV.cell 1 rfl;clear hX hS qm rt ex pP Sl sZ;go_wp2_with fail
  go_big_quiet (fail)
  obtain⟨W2,Uo⟩:∃ W2,wr.drewN nq=W2:=⟨_,rfl⟩
  have yU:Blk W2 g 118 (sR (some ⟨b,off,none⟩) l.length c P cnt):=Uo ▸ iV;have yq:w.grownBy W2 (some g):=Uo ▸ vw pn _;have po:Holds W2 H:=Uo ▸ wF;rw[Uo];clear Uo c0 c1 iV pn wF q0;have c1:=yU.cell 1 rfl;go_wp2_with (with_reducible refine zx ?_)
  refine zu rfl _ _ _ rfl rfl g 1 (.int .i64 ((P:Int)+1)) rfl rfl _ _ yU zH (by simp) rfl fun w3 wL yQ=>?_
  have wh:=yk yq yQ (.inl rfl);have TP:Holds w3 H:=po.grown yQ (by rintro q ⟨⟩;exact HP.out.apart)
  have oH:Blk w3 g 118 (sR (some ⟨b,off,none⟩) l.length c (p+(k+1)) cnt):=by
   have e:((p+(k+1):Nat):Int)=(P:Int)+1:=by have:=MG.out;omega
   rw[sR,e]
   exact wL
  clear wL yQ yU yq po c1 K4;go_wp2_with fail
  go_roundw
  case rel=>exact⟨k+1,by omega,by go_num,by rw[HS.out,Int.natCast_add,Int.natCast_mul];rfl,oH,wh,TP⟩
  case measure=>simp[intOf];omega
 have cL:k=z:=by omega
 subst cL;have wi:¬ ((k:Int)<(k:Int)):=by omega
 obtain⟨X,qm⟩:∃ X,beN ((l.drop p).take k)=X:=⟨_,rfl⟩
 rw[qm];have HX:=Hh qm;clear qm;go_wp2_with fail
 go_ret2
 exact .inr ⟨HL.out.1,by rw[HX.out];rfl,iV,pn⟩
theorem Yd {v:Nat}(hv:v<65536):xR v<18446744073709551616:=by
 by_cases hn:v/1024%32=31∧v%1024≠0
 ·rw[xR,if_pos hn.1];omega
 exact(qX hv hn).2
theorem Ye {v:Nat}(hv:v<4294967296):wg v<18446744073709551616:=by
 by_cases hn:v/8388608%256=255∧v%8388608≠0
 ·rw[wg,if_pos hn.1];omega
 exact(qY hv hn).2
def xm (low:Nat) (b:List UInt8) (c:Nat):PR :=
 if low<24 then(match yZ low low with | .error e=>.err e | .ok x=>.ok x 0 c)
 else if b.length<2 ^ (low-24) then .err 2
 else match yZ low (beN (b.take (2 ^ (low-24)))) with | .error e=>.err e | .ok x=>.ok x (2 ^ (low-24)) c
theorem jk:(Tryz.prog.info? 54).map (·.size)=some 1:=by kernel_rfl
section
variable {w:World} {H:Snap} {g:Nat} {A:Option Addr} {c:Nat} {l:List UInt8} {p cnt:Nat}
theorem hJ (hP:Psr 118 w g H A c l p cnt) (low:Nat) (te:low<24):Calls Tryz.prog 106 #[.pointer (some ⟨g,0,none⟩),.int .i64 (low:Int)] w (ItemOut 118 w H g A c l p (xm low (l.drop p) cnt)):=by
 have yv:=hP.gt;have xg:=(Rdg.refl hP).alloc zg;have we:=Blk.new w 57 #[.int .i64 0,.int .u64 0,.slice none 0 0,.slice none 0 0];have zF:H w.heap.size=none:=hP.holds.none_of_ge (Nat.le_refl _);have E:Hid (xm low (l.drop p) cnt=.ok (.mk 7 low [] []) 0 cnt):=by rw[Hid,xm,if_pos te,yZ,if_pos te]
 have z24:(low:Int)<24:=by omega
 have KU:IntKind.u64.wrap (low:Int)=(low:Int):=by rw[IntKind.wrap_u64];omega
 have HL:=Hh te;clear te;go_enter Tryz.func106,Tryz.ntmps106
 go_wp2_with (with_reducible refine zx ?_)
 refine stI we fun wz hTy zT=>?_
 have zQ:=xg.gb zF (Nat.le_refl _) yv zT;go_wp2_with fail
 refine zw rfl rfl hTy rfl rfl zv rfl ?_
 exact ItemOut.ok (ja:=none) (jb:=0) (jc:=none) (jd:=0) E.out rfl zQ (IsItem.plain _ 7 low (by omega) (by have:=HL.out;omega))
theorem fH (hP:Psr 118 w g H A c l p cnt):Calls Tryz.prog 106 #[.pointer (some ⟨g,0,none⟩),.int .i64 24] w (ItemOut 118 w H g A c l p (xm 24 (l.drop p) cnt)):=by
 have yv:=hP.gt;have xg:=(Rdg.refl hP).alloc zg;have we:=Blk.new w 57 #[.int .i64 0,.int .u64 0,.slice none 0 0,.slice none 0 0];have zF:H w.heap.size=none:=hP.holds.none_of_ge (Nat.le_refl _);have E0:Hid (xm 24 (l.drop p) cnt=if(l.drop p).length<1 then .err 2 else match yZ 24 (beN ((l.drop p).take 1)) with | .error e=>.err e | .ok x=>.ok x 1 cnt):=by rw[Hid,xm,if_neg (by omega)]
 have NM:=Hh (yO xg.psr 1 (by omega) (by omega));have HC:=Hh hP.cnt_le;go_enter Tryz.func106,Tryz.ntmps106
 go_wp2_with fail
 refine NM.out.mono ?_
 rintro e w3 (⟨hs,rfl,wL,yQ⟩ | ⟨hs,rfl,wL,yQ⟩)
 ·have E:Hid (xm 24 (l.drop p) cnt=.err 2):=by rw[Hid,E0.out,if_pos (by rw[List.length_drop];have:=hP.le;omega)]
  have xV:Rdg 118 w H w3 H g A c l p cnt:=xg.step yQ wL hP.le HC.out;have xO:=we.gr yQ (by omega);clear NM hs xg we wL yQ;go_wp2_with (with_reducible refine zx ?_)
  refine stI xO fun wz hTy zT=>?_
  have zQ:=xV.gb zF (Nat.le_refl _) yv zT;go_wp2_with fail
  refine zw rfl rfl hTy rfl rfl zv rfl ?_
  exact ItemOut.err E.out rfl zQ
 have xV:Rdg 118 w H w3 H g A c l (p+1) cnt:=xg.step yQ wL hs HC.out;have xO:=we.gr yQ (by omega);have E1:Hid (xm 24 (l.drop p) cnt=match yZ 24 (beN ((l.drop p).take 1)) with | .error e=>.err e | .ok x=>.ok x 1 cnt):=by rw[Hid,E0.out,if_neg (by rw[List.length_drop];omega)]
 have xi:=xx ((l.drop p).take 1);have wi:((l.drop p).take 1).length=1:=by rw[List.length_take,List.length_drop];omega
 rw[wi]at xi
 simp only[Nat.reducePow]at xi
 have sC:=fun x h=>(ug (low:=24) (x:=x) (t:=(l.drop p).take 1) (by omega) (fun h=>by omega) (fun _=>⟨by rw[wi],rfl⟩) h).2.2.1
 obtain⟨n,hn⟩:∃ n,beN ((l.drop p).take 1)=n:=⟨_,rfl⟩
 rw[hn]at E1 xi sC⊢;have HN:=Hh xi;have Qe:=Hh sC;clear NM hs xg we wL yQ E0 hn wi xi sC;have nW:=Blk.new w3 57 #[.int .i64 0,.int .u64 0,.slice none 0 0,.slice none 0 0];have vd:=xV.alloc zg;have wT:=xO.alloc zg;have yI:=Hh xO.lt;have eg:H w3.heap.size=none:=xV.psr.holds.none_of_ge (Nat.le_refl _);clear xV xO;go_wp2_with (with_reducible refine zx ?_)
 refine stI nW fun w4 pw tL=>?_
 have yi:=vd.gb eg (Nat.le_of_lt yI.out) yv tL;have yt:=wT.grown tL (by intro e;injection e with e;have:=yI.out;omega);clear vd wT nW tL;obtain⟨X,qm⟩:∃ X,w3.heap.size=X:=⟨_,rfl⟩
 rw[qm]at pw eg yI⊢;clear qm
 by_cases h32:n<32
 ·have z32:(n:Int)<32:=by omega
  have E:Hid (xm 24 (l.drop p) cnt=.err 4):=by rw[Hid,E1.out,yZ,if_neg (by omega),if_pos rfl,if_pos h32]
  clear h32;go_wp2_with (with_reducible refine zx ?_)
  refine stI yt fun wz hTy zT=>?_
  have zQ:=yi.gb zF (Nat.le_refl _) yv zT;go_wp2_with fail
  refine zw rfl rfl hTy rfl rfl zv rfl ?_
  exact ItemOut.err E.out rfl zQ
 have z32:¬ ((n:Int)<32):=by omega
 have E:Hid (xm 24 (l.drop p) cnt=.ok (.mk 7 n [] []) 1 cnt):=by rw[Hid,E1.out,yZ,if_neg (by omega),if_pos rfl,if_neg h32]
 clear h32;go_wp2_with (with_reducible refine zx ?_)
 refine stI yt fun wz hTy zT=>?_
 have zQ:=yi.gb zF (Nat.le_refl _) yv zT;go_wp2_with fail
 refine zw rfl rfl hTy rfl rfl zv rfl ?_
 exact ItemOut.ok (ja:=none) (jb:=0) (jc:=none) (jd:=0) E.out rfl zQ (IsItem.plain _ 7 n (by omega) (by have:=HN.out;omega))
theorem fI (hP:Psr 118 w g H A c l p cnt):Calls Tryz.prog 106 #[.pointer (some ⟨g,0,none⟩),.int .i64 25] w (ItemOut 118 w H g A c l p (xm 25 (l.drop p) cnt)):=by
 have yv:=hP.gt;have xg:=(Rdg.refl hP).alloc zg;have we:=Blk.new w 57 #[.int .i64 0,.int .u64 0,.slice none 0 0,.slice none 0 0];have zF:H w.heap.size=none:=hP.holds.none_of_ge (Nat.le_refl _);have E0:Hid (xm 25 (l.drop p) cnt=if(l.drop p).length<2 then .err 2 else match yZ 25 (beN ((l.drop p).take 2)) with | .error e=>.err e | .ok x=>.ok x 2 cnt):=by rw[Hid,xm,if_neg (by omega)]
 have NM:=Hh (yO xg.psr 2 (by omega) (by omega));have HC:=Hh hP.cnt_le;go_enter Tryz.func106,Tryz.ntmps106
 go_wp2_with fail
 refine NM.out.mono ?_
 rintro e w3 (⟨hs,rfl,wL,yQ⟩ | ⟨hs,rfl,wL,yQ⟩)
 ·have E:Hid (xm 25 (l.drop p) cnt=.err 2):=by rw[Hid,E0.out,if_pos (by rw[List.length_drop];have:=hP.le;omega)]
  have xV:Rdg 118 w H w3 H g A c l p cnt:=xg.step yQ wL hP.le HC.out;have xO:=we.gr yQ (by omega);clear NM hs xg we wL yQ;go_wp2_with (with_reducible refine zx ?_)
  refine stI xO fun wz hTy zT=>?_
  have zQ:=xV.gb zF (Nat.le_refl _) yv zT;go_wp2_with fail
  refine zw rfl rfl hTy rfl rfl zv rfl ?_
  exact ItemOut.err E.out rfl zQ
 have xV:Rdg 118 w H w3 H g A c l (p+2) cnt:=xg.step yQ wL hs HC.out;have xO:=we.gr yQ (by omega);have E1:Hid (xm 25 (l.drop p) cnt=match yZ 25 (beN ((l.drop p).take 2)) with | .error e=>.err e | .ok x=>.ok x 2 cnt):=by rw[Hid,E0.out,if_neg (by rw[List.length_drop];omega)]
 have xi:=xx ((l.drop p).take 2);have wi:((l.drop p).take 2).length=2:=by rw[List.length_take,List.length_drop];omega
 rw[wi]at xi
 simp only[Nat.reducePow]at xi
 have sC:=fun x h=>(ug (low:=25) (x:=x) (t:=(l.drop p).take 2) (by omega) (fun h=>by omega) (fun _=>⟨by rw[wi],rfl⟩) h).2.2.1
 obtain⟨n,hn⟩:∃ n,beN ((l.drop p).take 2)=n:=⟨_,rfl⟩
 rw[hn]at E1 xi sC⊢;have HN:=Hh xi;have Qe:=Hh sC;clear NM hs xg we wL yQ E0 hn wi xi sC;have nW:=Blk.new w3 57 #[.int .i64 0,.int .u64 0,.slice none 0 0,.slice none 0 0];have vd:=xV.alloc zg;have wT:=xO.alloc zg;have yI:=Hh xO.lt;have eg:H w3.heap.size=none:=xV.psr.holds.none_of_ge (Nat.le_refl _);clear xV xO;go_wp2_with (with_reducible refine zx ?_)
 refine stI nW fun w4 pw tL=>?_
 have yi:=vd.gb eg (Nat.le_of_lt yI.out) yv tL;have yt:=wT.grown tL (by intro e;injection e with e;have:=yI.out;omega);clear vd wT nW tL;obtain⟨X,qm⟩:∃ X,w3.heap.size=X:=⟨_,rfl⟩
 rw[qm]at pw eg yI⊢;clear qm
 have E2:Hid (yZ 25 n=if(isNaN (xR n)&&xR n != zJ)||(zK (xR n)).length != 3 then .error 4 else .ok (.mk 8 (xR n) [] [])):=by
  rw[Hid,qr 25 n (by omega)];rw[show uu 25 n=xR n by rw[uu,if_pos rfl]]
 have kv:=Yd HN.out;have WD:=Hh (fun w=>dG n HN.out w);obtain⟨D,hD⟩:∃ D,xR n=D:=⟨_,rfl⟩
 rw[hD]at E2 kv WD;go_wp2_with fail
 refine(WD.out _).mono ?_
 rintro e w6 ⟨rfl,rfl⟩
 clear WD hD;go_wp2_with (with_reducible refine zx ?_)
 refine zu rfl _ _ _ rfl rfl X 1 (.int .u64 (D:Int)) rfl rfl _ _ pw jk (by simp) rfl fun w7 mM hg7=>?_
 have yC:=yi.gb eg (Nat.le_of_lt yI.out) yv hg7;have yS:=yt.grown hg7 (by intro e;injection e with e;have:=yI.out;omega);have rC:Blk w7 X 57 #[.int .i64 8,.int .u64 (D:Int),.slice none 0 0,.slice none 0 0]:=mM;clear yi yt pw hg7 mM;have b0:=rC.cell 0 rfl;have b1:=rC.cell 1 rfl;have b2:=rC.cell 2 rfl;have b3:=rC.cell 3 rfl;have IN:=Hh (fun w=>qq D kv w);have FL:=Hh (fun w=>pG D kv w);have TK:=Hh kv;obtain⟨fl,vq⟩:∃ fl,(zK D).length=fl:=⟨_,rfl⟩
 obtain⟨nn,nV⟩:∃ nn,isNaN D=nn:=⟨_,rfl⟩
 rw[nV]at IN E2;rw[vq]at E2;have kE:=Hh vq;clear kv nV vq;have xH:(D != zJ)=true∨(D != zJ)=false:=by cases (D != zJ) <;> simp
 cases nn with
 | true =>
  rcases xH with xH | xH
  ·have oF:D≠9221120237041090560:=by rw[bne_iff_ne]at xH;exact xH
   have c1:((D:Int) != 9221120237041090560)=true:=by rw[bne_iff_ne];omega
   have c1':((D:Int)=9221120237041090560)=False:=eq_false (by omega);have E:Hid (xm 25 (l.drop p) cnt=.err 4):=by rw[Hid,E1.out,E2.out,xH];simp
   clear E1 E2 xH oF kE;go_wp2_with fail
   refine(IN.out _).mono ?_
   rintro e w6 ⟨rfl,rfl⟩
   go_wp2_with (with_reducible refine zx ?_)
   refine stI yS fun wz hTy zT=>?_
   have zQ:=yC.gb zF (Nat.le_refl _) yv zT;go_wp2_with fail
   refine zw rfl rfl hTy rfl rfl zv rfl ?_
   exact ItemOut.err E.out rfl zQ
  have oF:D=9221120237041090560:=by rw[bne_eq_false_iff_eq]at xH;exact xH
  have c1:((D:Int) != 9221120237041090560)=false:=by rw[bne_eq_false_iff_eq];omega
  have c1':((D:Int)=9221120237041090560)=True:=eq_true (by omega);rw[xH]at E2;clear xH oF;go_wp2_with fail
  refine(IN.out _).mono ?_
  rintro e w6 ⟨rfl,rfl⟩
  go_wp2_with fail
  refine(FL.out _).mono ?_
  rintro e w8 ⟨r,rfl,hf⟩
  have vp:=yC.below_ hf.2;have vI:=yS.below hf.2;have tK:=rC.below hf.2;obtain⟨RA,rc,rfl,_⟩:=hf.own.form;rw[kE.out];clear b0 b1 b2 b3 hf;have b0:=tK.cell 0 rfl;have b1:=tK.cell 1 rfl;have b2:=tK.cell 2 rfl;have b3:=tK.cell 3 rfl
  by_cases hq:fl=3
  ·subst hq;have E:Hid (xm 25 (l.drop p) cnt=.ok (.mk 8 D [] []) 2 cnt):=by rw[Hid,E1.out,E2.out];simp 
   clear E1 E2 kE;go_wp2_with (with_reducible refine zx ?_)
   refine stI vI fun wz hTy zT=>?_
   have zQ:=vp.gb zF (Nat.le_refl _) yv zT;go_wp2_with fail
   refine zw rfl rfl hTy rfl rfl zv rfl ?_
   exact ItemOut.ok (ja:=none) (jb:=0) (jc:=none) (jd:=0) E.out rfl zQ (IsItem.plain _ 8 D (by omega) TK.out)
  have zq:((fl:Int)==3)=false:=by simp;omega
  have zq2:((fl:Int)=3)=False:=eq_false (by omega);have E:Hid (xm 25 (l.drop p) cnt=.err 4):=by rw[Hid,E1.out,E2.out];simp[hq]
  clear E1 E2 kE hq;go_wp2_with (with_reducible refine zx ?_)
  refine stI vI fun wz hTy zT=>?_
  have zQ:=vp.gb zF (Nat.le_refl _) yv zT;go_wp2_with fail
  refine zw rfl rfl hTy rfl rfl zv rfl ?_
  exact ItemOut.err E.out rfl zQ
 | false =>
 clear xH;go_wp2_with fail
 refine(IN.out _).mono ?_
 rintro e w6 ⟨rfl,rfl⟩
 go_wp2_with fail
 refine(FL.out _).mono ?_
 rintro e w8 ⟨r,rfl,hf⟩
 have vp:=yC.below_ hf.2;have vI:=yS.below hf.2;have tK:=rC.below hf.2;obtain⟨RA,rc,rfl,_⟩:=hf.own.form;rw[kE.out];clear b0 b1 b2 b3 hf;have b0:=tK.cell 0 rfl;have b1:=tK.cell 1 rfl;have b2:=tK.cell 2 rfl;have b3:=tK.cell 3 rfl
 by_cases hq:fl=3
 ·subst hq;have E:Hid (xm 25 (l.drop p) cnt=.ok (.mk 8 D [] []) 2 cnt):=by rw[Hid,E1.out,E2.out];simp 
  clear E1 E2 kE;go_wp2_with (with_reducible refine zx ?_)
  refine stI vI fun wz hTy zT=>?_
  have zQ:=vp.gb zF (Nat.le_refl _) yv zT;go_wp2_with fail
  refine zw rfl rfl hTy rfl rfl zv rfl ?_
  exact ItemOut.ok (ja:=none) (jb:=0) (jc:=none) (jd:=0) E.out rfl zQ (IsItem.plain _ 8 D (by omega) TK.out)
 have zq:((fl:Int)==3)=false:=by simp;omega
 have zq2:((fl:Int)=3)=False:=eq_false (by omega);have E:Hid (xm 25 (l.drop p) cnt=.err 4):=by rw[Hid,E1.out,E2.out];simp[hq]
 clear E1 E2 kE hq;go_wp2_with (with_reducible refine zx ?_)
 refine stI vI fun wz hTy zT=>?_
 have zQ:=vp.gb zF (Nat.le_refl _) yv zT;go_wp2_with fail
 refine zw rfl rfl hTy rfl rfl zv rfl ?_
 exact ItemOut.err E.out rfl zQ
theorem fJ (hP:Psr 118 w g H A c l p cnt):Calls Tryz.prog 106 #[.pointer (some ⟨g,0,none⟩),.int .i64 26] w (ItemOut 118 w H g A c l p (xm 26 (l.drop p) cnt)):=by
 have yv:=hP.gt;have xg:=(Rdg.refl hP).alloc zg;have we:=Blk.new w 57 #[.int .i64 0,.int .u64 0,.slice none 0 0,.slice none 0 0];have zF:H w.heap.size=none:=hP.holds.none_of_ge (Nat.le_refl _);have E0:Hid (xm 26 (l.drop p) cnt=if(l.drop p).length<4 then .err 2 else match yZ 26 (beN ((l.drop p).take 4)) with | .error e=>.err e | .ok x=>.ok x 4 cnt):=by rw[Hid,xm,if_neg (by omega)]
 have NM:=Hh (yO xg.psr 4 (by omega) (by omega));have HC:=Hh hP.cnt_le;go_enter Tryz.func106,Tryz.ntmps106
 go_wp2_with fail
 refine NM.out.mono ?_
 rintro e w3 (⟨hs,rfl,wL,yQ⟩ | ⟨hs,rfl,wL,yQ⟩)
 ·have E:Hid (xm 26 (l.drop p) cnt=.err 2):=by rw[Hid,E0.out,if_pos (by rw[List.length_drop];have:=hP.le;omega)]
  have xV:Rdg 118 w H w3 H g A c l p cnt:=xg.step yQ wL hP.le HC.out;have xO:=we.gr yQ (by omega);clear NM hs xg we wL yQ;go_wp2_with (with_reducible refine zx ?_)
  refine stI xO fun wz hTy zT=>?_
  have zQ:=xV.gb zF (Nat.le_refl _) yv zT;go_wp2_with fail
  refine zw rfl rfl hTy rfl rfl zv rfl ?_
  exact ItemOut.err E.out rfl zQ
 have xV:Rdg 118 w H w3 H g A c l (p+4) cnt:=xg.step yQ wL hs HC.out;have xO:=we.gr yQ (by omega);have E1:Hid (xm 26 (l.drop p) cnt=match yZ 26 (beN ((l.drop p).take 4)) with | .error e=>.err e | .ok x=>.ok x 4 cnt):=by rw[Hid,E0.out,if_neg (by rw[List.length_drop];omega)]
 have xi:=xx ((l.drop p).take 4);have wi:((l.drop p).take 4).length=4:=by rw[List.length_take,List.length_drop];omega
 rw[wi]at xi
 simp only[Nat.reducePow]at xi
 have sC:=fun x h=>(ug (low:=26) (x:=x) (t:=(l.drop p).take 4) (by omega) (fun h=>by omega) (fun _=>⟨by rw[wi],rfl⟩) h).2.2.1
 obtain⟨n,hn⟩:∃ n,beN ((l.drop p).take 4)=n:=⟨_,rfl⟩
 rw[hn]at E1 xi sC⊢;have HN:=Hh xi;have Qe:=Hh sC;clear NM hs xg we wL yQ E0 hn wi xi sC;have nW:=Blk.new w3 57 #[.int .i64 0,.int .u64 0,.slice none 0 0,.slice none 0 0];have vd:=xV.alloc zg;have wT:=xO.alloc zg;have yI:=Hh xO.lt;have eg:H w3.heap.size=none:=xV.psr.holds.none_of_ge (Nat.le_refl _);clear xV xO;go_wp2_with (with_reducible refine zx ?_)
 refine stI nW fun w4 pw tL=>?_
 have yi:=vd.gb eg (Nat.le_of_lt yI.out) yv tL;have yt:=wT.grown tL (by intro e;injection e with e;have:=yI.out;omega);clear vd wT nW tL;obtain⟨X,qm⟩:∃ X,w3.heap.size=X:=⟨_,rfl⟩
 rw[qm]at pw eg yI⊢;clear qm
 have E2:Hid (yZ 26 n=if(isNaN (wg n)&&wg n != zJ)||(zK (wg n)).length != 5 then .error 4 else .ok (.mk 8 (wg n) [] [])):=by
  rw[Hid,qr 26 n (by omega)];rw[show uu 26 n=wg n by rw[uu,if_neg (by omega),if_pos rfl]]
 have kv:=Ye HN.out;have WD:=Hh (fun w=>dH n HN.out w);obtain⟨D,hD⟩:∃ D,wg n=D:=⟨_,rfl⟩
 rw[hD]at E2 kv WD;go_wp2_with fail
 refine(WD.out _).mono ?_
 rintro e w6 ⟨rfl,rfl⟩
 clear WD hD;go_wp2_with (with_reducible refine zx ?_)
 refine zu rfl _ _ _ rfl rfl X 1 (.int .u64 (D:Int)) rfl rfl _ _ pw jk (by simp) rfl fun w7 mM hg7=>?_
 have yC:=yi.gb eg (Nat.le_of_lt yI.out) yv hg7;have yS:=yt.grown hg7 (by intro e;injection e with e;have:=yI.out;omega);have rC:Blk w7 X 57 #[.int .i64 8,.int .u64 (D:Int),.slice none 0 0,.slice none 0 0]:=mM;clear yi yt pw hg7 mM;have b0:=rC.cell 0 rfl;have b1:=rC.cell 1 rfl;have b2:=rC.cell 2 rfl;have b3:=rC.cell 3 rfl;have IN:=Hh (fun w=>qq D kv w);have FL:=Hh (fun w=>pG D kv w);have TK:=Hh kv;obtain⟨fl,vq⟩:∃ fl,(zK D).length=fl:=⟨_,rfl⟩
 obtain⟨nn,nV⟩:∃ nn,isNaN D=nn:=⟨_,rfl⟩
 rw[nV]at IN E2;rw[vq]at E2;have kE:=Hh vq;clear kv nV vq;have xH:(D != zJ)=true∨(D != zJ)=false:=by cases (D != zJ) <;> simp
 cases nn with
 | true =>
  rcases xH with xH | xH
  ·have oF:D≠9221120237041090560:=by rw[bne_iff_ne]at xH;exact xH
   have c1:((D:Int) != 9221120237041090560)=true:=by rw[bne_iff_ne];omega
   have c1':((D:Int)=9221120237041090560)=False:=eq_false (by omega);have E:Hid (xm 26 (l.drop p) cnt=.err 4):=by rw[Hid,E1.out,E2.out,xH];simp
   clear E1 E2 xH oF kE;go_wp2_with fail
   refine(IN.out _).mono ?_
   rintro e w6 ⟨rfl,rfl⟩
   go_wp2_with (with_reducible refine zx ?_)
   refine stI yS fun wz hTy zT=>?_
   have zQ:=yC.gb zF (Nat.le_refl _) yv zT;go_wp2_with fail
   refine zw rfl rfl hTy rfl rfl zv rfl ?_
   exact ItemOut.err E.out rfl zQ
  have oF:D=9221120237041090560:=by rw[bne_eq_false_iff_eq]at xH;exact xH
  have c1:((D:Int) != 9221120237041090560)=false:=by rw[bne_eq_false_iff_eq];omega
  have c1':((D:Int)=9221120237041090560)=True:=eq_true (by omega);rw[xH]at E2;clear xH oF;go_wp2_with fail
  refine(IN.out _).mono ?_
  rintro e w6 ⟨rfl,rfl⟩
  go_wp2_with fail
  refine(FL.out _).mono ?_
  rintro e w8 ⟨r,rfl,hf⟩
  have vp:=yC.below_ hf.2;have vI:=yS.below hf.2;have tK:=rC.below hf.2;obtain⟨RA,rc,rfl,_⟩:=hf.own.form;rw[kE.out];clear b0 b1 b2 b3 hf;have b0:=tK.cell 0 rfl;have b1:=tK.cell 1 rfl;have b2:=tK.cell 2 rfl;have b3:=tK.cell 3 rfl
  by_cases hq:fl=5
  ·subst hq;have E:Hid (xm 26 (l.drop p) cnt=.ok (.mk 8 D [] []) 4 cnt):=by rw[Hid,E1.out,E2.out];simp 
   clear E1 E2 kE;go_wp2_with (with_reducible refine zx ?_)
   refine stI vI fun wz hTy zT=>?_
   have zQ:=vp.gb zF (Nat.le_refl _) yv zT;go_wp2_with fail
   refine zw rfl rfl hTy rfl rfl zv rfl ?_
   exact ItemOut.ok (ja:=none) (jb:=0) (jc:=none) (jd:=0) E.out rfl zQ (IsItem.plain _ 8 D (by omega) TK.out)
  have zq:((fl:Int)==5)=false:=by simp;omega
  have zq2:((fl:Int)=5)=False:=eq_false (by omega);have E:Hid (xm 26 (l.drop p) cnt=.err 4):=by rw[Hid,E1.out,E2.out];simp[hq]
  clear E1 E2 kE hq;go_wp2_with (with_reducible refine zx ?_)
  refine stI vI fun wz hTy zT=>?_
  have zQ:=vp.gb zF (Nat.le_refl _) yv zT;go_wp2_with fail
  refine zw rfl rfl hTy rfl rfl zv rfl ?_
  exact ItemOut.err E.out rfl zQ
 | false =>
 clear xH;go_wp2_with fail
 refine(IN.out _).mono ?_
 rintro e w6 ⟨rfl,rfl⟩
 go_wp2_with fail
 refine(FL.out _).mono ?_
 rintro e w8 ⟨r,rfl,hf⟩
 have vp:=yC.below_ hf.2;have vI:=yS.below hf.2;have tK:=rC.below hf.2;obtain⟨RA,rc,rfl,_⟩:=hf.own.form;rw[kE.out];clear b0 b1 b2 b3 hf;have b0:=tK.cell 0 rfl;have b1:=tK.cell 1 rfl;have b2:=tK.cell 2 rfl;have b3:=tK.cell 3 rfl
 by_cases hq:fl=5
 ·subst hq;have E:Hid (xm 26 (l.drop p) cnt=.ok (.mk 8 D [] []) 4 cnt):=by rw[Hid,E1.out,E2.out];simp 
  clear E1 E2 kE;go_wp2_with (with_reducible refine zx ?_)
  refine stI vI fun wz hTy zT=>?_
  have zQ:=vp.gb zF (Nat.le_refl _) yv zT;go_wp2_with fail
  refine zw rfl rfl hTy rfl rfl zv rfl ?_
  exact ItemOut.ok (ja:=none) (jb:=0) (jc:=none) (jd:=0) E.out rfl zQ (IsItem.plain _ 8 D (by omega) TK.out)
 have zq:((fl:Int)==5)=false:=by simp;omega
 have zq2:((fl:Int)=5)=False:=eq_false (by omega);have E:Hid (xm 26 (l.drop p) cnt=.err 4):=by rw[Hid,E1.out,E2.out];simp[hq]
 clear E1 E2 kE hq;go_wp2_with (with_reducible refine zx ?_)
 refine stI vI fun wz hTy zT=>?_
 have zQ:=vp.gb zF (Nat.le_refl _) yv zT;go_wp2_with fail
 refine zw rfl rfl hTy rfl rfl zv rfl ?_
 exact ItemOut.err E.out rfl zQ
theorem fK (hP:Psr 118 w g H A c l p cnt):Calls Tryz.prog 106 #[.pointer (some ⟨g,0,none⟩),.int .i64 27] w (ItemOut 118 w H g A c l p (xm 27 (l.drop p) cnt)):=by
 have yv:=hP.gt;have xg:=(Rdg.refl hP).alloc zg;have we:=Blk.new w 57 #[.int .i64 0,.int .u64 0,.slice none 0 0,.slice none 0 0];have zF:H w.heap.size=none:=hP.holds.none_of_ge (Nat.le_refl _);have E0:Hid (xm 27 (l.drop p) cnt=if(l.drop p).length<8 then .err 2 else match yZ 27 (beN ((l.drop p).take 8)) with | .error e=>.err e | .ok x=>.ok x 8 cnt):=by rw[Hid,xm,if_neg (by omega)]
 have NM:=Hh (yO xg.psr 8 (by omega) (by omega));have HC:=Hh hP.cnt_le;go_enter Tryz.func106,Tryz.ntmps106
 go_wp2_with fail
 refine NM.out.mono ?_
 rintro e w3 (⟨hs,rfl,wL,yQ⟩ | ⟨hs,rfl,wL,yQ⟩)
 ·have E:Hid (xm 27 (l.drop p) cnt=.err 2):=by rw[Hid,E0.out,if_pos (by rw[List.length_drop];have:=hP.le;omega)]
  have xV:Rdg 118 w H w3 H g A c l p cnt:=xg.step yQ wL hP.le HC.out;have xO:=we.gr yQ (by omega);clear NM hs xg we wL yQ;go_wp2_with (with_reducible refine zx ?_)
  refine stI xO fun wz hTy zT=>?_
  have zQ:=xV.gb zF (Nat.le_refl _) yv zT;go_wp2_with fail
  refine zw rfl rfl hTy rfl rfl zv rfl ?_
  exact ItemOut.err E.out rfl zQ
 have xV:Rdg 118 w H w3 H g A c l (p+8) cnt:=xg.step yQ wL hs HC.out;have xO:=we.gr yQ (by omega);have E1:Hid (xm 27 (l.drop p) cnt=match yZ 27 (beN ((l.drop p).take 8)) with | .error e=>.err e | .ok x=>.ok x 8 cnt):=by rw[Hid,E0.out,if_neg (by rw[List.length_drop];omega)]
 have xi:=xx ((l.drop p).take 8);have wi:((l.drop p).take 8).length=8:=by rw[List.length_take,List.length_drop];omega
 rw[wi]at xi
 simp only[Nat.reducePow]at xi
 have sC:=fun x h=>(ug (low:=27) (x:=x) (t:=(l.drop p).take 8) (by omega) (fun h=>by omega) (fun _=>⟨by rw[wi],rfl⟩) h).2.2.1
 obtain⟨n,hn⟩:∃ n,beN ((l.drop p).take 8)=n:=⟨_,rfl⟩
 rw[hn]at E1 xi sC⊢;have HN:=Hh xi;have Qe:=Hh sC;clear NM hs xg we wL yQ E0 hn wi xi sC;have nW:=Blk.new w3 57 #[.int .i64 0,.int .u64 0,.slice none 0 0,.slice none 0 0];have vd:=xV.alloc zg;have wT:=xO.alloc zg;have yI:=Hh xO.lt;have eg:H w3.heap.size=none:=xV.psr.holds.none_of_ge (Nat.le_refl _);clear xV xO;go_wp2_with (with_reducible refine zx ?_)
 refine stI nW fun w4 pw tL=>?_
 have yi:=vd.gb eg (Nat.le_of_lt yI.out) yv tL;have yt:=wT.grown tL (by intro e;injection e with e;have:=yI.out;omega);clear vd wT nW tL;obtain⟨X,qm⟩:∃ X,w3.heap.size=X:=⟨_,rfl⟩
 rw[qm]at pw eg yI⊢;clear qm
 have E2:Hid (yZ 27 n=if(isNaN (n)&&n != zJ)||(zK (n)).length != 9 then .error 4 else .ok (.mk 8 (n) [] [])):=by
  rw[Hid,qr 27 n (by omega)];rw[show uu 27 n=n by rw[uu,if_neg (by omega),if_neg (by omega)]]
 have kv:=HN.out;obtain⟨D,hD⟩:∃ D,n=D:=⟨_,rfl⟩
 subst hD;have yC:=yi;have yS:=yt;have rC:=pw;clear yi yt pw;have b0:=rC.cell 0 rfl;have b1:=rC.cell 1 rfl;have b2:=rC.cell 2 rfl;have b3:=rC.cell 3 rfl;have IN:=Hh (fun w=>qq n kv w);have FL:=Hh (fun w=>pG n kv w);have TK:=Hh kv;obtain⟨fl,vq⟩:∃ fl,(zK n).length=fl:=⟨_,rfl⟩
 obtain⟨nn,nV⟩:∃ nn,isNaN n=nn:=⟨_,rfl⟩
 rw[nV]at IN E2;rw[vq]at E2;have kE:=Hh vq;clear kv nV vq;have xH:(n != zJ)=true∨(n != zJ)=false:=by cases (n != zJ) <;> simp
 cases nn with
 | true =>
  rcases xH with xH | xH
  ·have oF:n≠9221120237041090560:=by rw[bne_iff_ne]at xH;exact xH
   have c1:((n:Int) != 9221120237041090560)=true:=by rw[bne_iff_ne];omega
   have c1':((n:Int)=9221120237041090560)=False:=eq_false (by omega);have E:Hid (xm 27 (l.drop p) cnt=.err 4):=by rw[Hid,E1.out,E2.out,xH];simp
   clear E1 E2 xH oF kE;go_wp2_with fail
   refine(IN.out _).mono ?_
   rintro e w6 ⟨rfl,rfl⟩
   go_wp2_with (with_reducible refine zx ?_)
   refine stI yS fun wz hTy zT=>?_
   have zQ:=yC.gb zF (Nat.le_refl _) yv zT;go_wp2_with fail
   refine zw rfl rfl hTy rfl rfl zv rfl ?_
   exact ItemOut.err E.out rfl zQ
  have oF:n=9221120237041090560:=by rw[bne_eq_false_iff_eq]at xH;exact xH
  have c1:((n:Int) != 9221120237041090560)=false:=by rw[bne_eq_false_iff_eq];omega
  have c1':((n:Int)=9221120237041090560)=True:=eq_true (by omega);rw[xH]at E2;clear xH oF;go_wp2_with fail
  refine(IN.out _).mono ?_
  rintro e w6 ⟨rfl,rfl⟩
  go_wp2_with fail
  refine(FL.out _).mono ?_
  rintro e w8 ⟨r,rfl,hf⟩
  have vp:=yC.below_ hf.2;have vI:=yS.below hf.2;have tK:=rC.below hf.2;obtain⟨RA,rc,rfl,_⟩:=hf.own.form;rw[kE.out];clear b0 b1 b2 b3 hf;have b0:=tK.cell 0 rfl;have b1:=tK.cell 1 rfl;have b2:=tK.cell 2 rfl;have b3:=tK.cell 3 rfl
  by_cases hq:fl=9
  ·subst hq;have E:Hid (xm 27 (l.drop p) cnt=.ok (.mk 8 n [] []) 8 cnt):=by rw[Hid,E1.out,E2.out];simp 
   clear E1 E2 kE;go_wp2_with (with_reducible refine zx ?_)
   refine stI vI fun wz hTy zT=>?_
   have zQ:=vp.gb zF (Nat.le_refl _) yv zT;go_wp2_with fail
   refine zw rfl rfl hTy rfl rfl zv rfl ?_
   exact ItemOut.ok (ja:=none) (jb:=0) (jc:=none) (jd:=0) E.out rfl zQ (IsItem.plain _ 8 n (by omega) TK.out)
  have zq:((fl:Int)==9)=false:=by simp;omega
  have zq2:((fl:Int)=9)=False:=eq_false (by omega);have E:Hid (xm 27 (l.drop p) cnt=.err 4):=by rw[Hid,E1.out,E2.out];simp[hq]
  clear E1 E2 kE hq;go_wp2_with (with_reducible refine zx ?_)
  refine stI vI fun wz hTy zT=>?_
  have zQ:=vp.gb zF (Nat.le_refl _) yv zT;go_wp2_with fail
  refine zw rfl rfl hTy rfl rfl zv rfl ?_
  exact ItemOut.err E.out rfl zQ
 | false =>
 clear xH;go_wp2_with fail
 refine(IN.out _).mono ?_
 rintro e w6 ⟨rfl,rfl⟩
 go_wp2_with fail
 refine(FL.out _).mono ?_
 rintro e w8 ⟨r,rfl,hf⟩
 have vp:=yC.below_ hf.2;have vI:=yS.below hf.2;have tK:=rC.below hf.2;obtain⟨RA,rc,rfl,_⟩:=hf.own.form;rw[kE.out];clear b0 b1 b2 b3 hf;have b0:=tK.cell 0 rfl;have b1:=tK.cell 1 rfl;have b2:=tK.cell 2 rfl;have b3:=tK.cell 3 rfl
 by_cases hq:fl=9
 ·subst hq;have E:Hid (xm 27 (l.drop p) cnt=.ok (.mk 8 n [] []) 8 cnt):=by rw[Hid,E1.out,E2.out];simp 
  clear E1 E2 kE;go_wp2_with (with_reducible refine zx ?_)
  refine stI vI fun wz hTy zT=>?_
  have zQ:=vp.gb zF (Nat.le_refl _) yv zT;go_wp2_with fail
  refine zw rfl rfl hTy rfl rfl zv rfl ?_
  exact ItemOut.ok (ja:=none) (jb:=0) (jc:=none) (jd:=0) E.out rfl zQ (IsItem.plain _ 8 n (by omega) TK.out)
 have zq:((fl:Int)==9)=false:=by simp;omega
 have zq2:((fl:Int)=9)=False:=eq_false (by omega);have E:Hid (xm 27 (l.drop p) cnt=.err 4):=by rw[Hid,E1.out,E2.out];simp[hq]
 clear E1 E2 kE hq;go_wp2_with (with_reducible refine zx ?_)
 refine stI vI fun wz hTy zT=>?_
 have zQ:=vp.gb zF (Nat.le_refl _) yv zT;go_wp2_with fail
 refine zw rfl rfl hTy rfl rfl zv rfl ?_
 exact ItemOut.err E.out rfl zQ
theorem YU (hP:Psr 118 w g H A c l p cnt) (low:Nat) (hl:low≤27):Calls Tryz.prog 106 #[.pointer (some ⟨g,0,none⟩),.int .i64 (low:Int)] w (ItemOut 118 w H g A c l p (xm low (l.drop p) cnt)):=by
 by_cases h:low<24
 ·exact hJ hP low h
 rcases(by omega:low=24∨low=25∨low=26∨low=27) with rfl | rfl | rfl | rfl
 ·exact fH hP
 ·exact fI hP
 ·exact fJ hP
 exact fK hP
end
def va (maj:Nat) (p:List UInt8→Nat→PR):Nat→Bool→List UInt8→Nat→Option (List UInt8)→PL
 | 0,_,_,c,_=>.ok [] 0 c
 | m+1,ev,b,c,last=>match p b c with
  | .err e=>.err e
  | .ok x k c' =>
  if maj=5∧ev=true then
   match sv last (b.take k) with
   | some e=>.err e
   | none=>(va maj p m false (b.drop k) c' (some (b.take k))).pre [x] k
  else(va maj p m (!ev) (b.drop k) c' last).pre [x] k
theorem ZR (L M:List Itm) (a b:Nat) (r:PL):(r.pre M b).pre L a=r.pre (L++M) (a+b):=by
 cases r <;> simp[PL.pre,Nat.add_assoc]
section
variable {maj:Nat} {p:List UInt8→Nat→PR} {m:Nat} {ev:Bool} {b:List UInt8} {cc q k c1:Nat} {x:Itm} {last:Option (List UInt8)}
theorem VR (L:List Itm) (k0:Nat) (h:p b cc=.err q):(va maj p (m+1) ev b cc last).pre L k0=.err q:=by rw[va,h];rfl
theorem de (L:List Itm) (k0:Nat) (h:p b cc=.ok x k c1) (hm:maj=5) (he:ev=true) (h2:sv last (b.take k)=some q):(va maj p (m+1) ev b cc last).pre L k0=.err q:=by
 rw[va,h];simp only;rw[if_pos ⟨hm,he⟩,h2];rfl
theorem lJ (L:List Itm) (k0:Nat) (h:p b cc=.ok x k c1) (hm:maj=5) (he:ev=true) (h2:sv last (b.take k)=none):(va maj p (m+1) ev b cc last).pre L k0=(va maj p m false (b.drop k) c1 (some (b.take k))).pre (L++[x]) (k0+k):=by
 rw[va,h];simp only;rw[if_pos ⟨hm,he⟩,h2];simp only;rw[ZR]
theorem Ti (L:List Itm) (k0:Nat) (h:p b cc=.ok x k c1) (hm:¬ (maj=5∧ev=true)):(va maj p (m+1) ev b cc last).pre L k0=(va maj p m (!ev) (b.drop k) c1 last).pre (L++[x]) (k0+k):=by
 rw[va,h];simp only;rw[if_neg hm,ZR]
end
theorem pZ {maj:Nat}(hm:maj≠5) (p:List UInt8→Nat→PR):∀ (n:Nat) (ev:Bool) (b:List UInt8) (c:Nat) (last:Option (List UInt8)),va maj p n ev b c last=vQ p n b c
 | 0,_,_,_,_=>rfl
 | n+1,ev,b,c,last=>by
  rw[va,vQ]
  cases h:p b c with
  | err e=>rfl
  | ok x k c1 =>
  simp only
  rw[if_neg (fun h=>hm h.1),pZ hm p n]
  cases vQ p n (b.drop k) c1 <;> rfl
theorem df (p:List UInt8→Nat→PR):∀ (n:Nat) (b:List UInt8) (c:Nat) (last:Option (List UInt8)),va 5 p (2*n) true b c last=vl p n b c last
 | 0,_,_,_=>rfl
 | n+1,b,c,last=>by
  rw[show 2*(n+1)=(2*n+1)+1 by omega,va,vl]
  cases h:p b c with
  | err e=>rfl
  | ok x k c1 =>
  simp only
  rw[if_pos (by simp)]
  cases hk:sv last (b.take k) with
  | some e=>rfl
  | none =>
  simp only
  rw[va]
  cases h2:p (b.drop k) c1 with
  | err e=>rfl
  | ok y k2 c2 =>
  simp only
  rw[if_neg (by simp),List.drop_drop,Bool.not_false,df p n]
  cases vl p n (b.drop (k+k2)) c2 (some (b.take k)) with
  | err e=>rfl
  | ok l k3 c3=>simp[PL.pre,Nat.add_assoc]
def jt (maj n:Nat):Nat:=if maj=5 then 2*min n 4294967296 else if maj=6 then 1 else n
def elR (maj n:Nat):PL→PR
 | .err q=>.err q
 | .ok L k c=>.ok (.mk (maj:Int) (if maj=6 then n else 0) [] L) k c
def ui (maj d n:Nat) (b:List UInt8) (c:Nat):PR:=elR maj n (va maj (zj d) (jt maj n) true b c none)
theorem ad (d:Nat) (b:List UInt8) (c:Nat) (h:¬ 256≤c) {f n k:Nat}(hq:zf b=.ok (f,n,k)) (h4:4≤f/32) (h6:f/32≤6) :
  zj (d+1) b c=(match ui (f/32) d n (b.drop k) (c+1) with | .err e=>.err e | .ok x k' c'=>.ok x (k+k') c'):=by
 rcases(by omega:f/32=4∨f/32=5∨f/32=6) with hk | hk | hk
 ·rw[ga d b c h hq hk,hk,ui,pZ (by omega),jt,if_neg (by omega),if_neg (by omega)]
  cases vQ (zj d) n (b.drop k) (c+1) <;> rfl
 ·rw[gc d b c h hq hk,hk,ui,jt,if_pos rfl,df]
  have e:vl (zj d) (min n 4294967296) (b.drop k) (c+1) none=vl (zj d) n (b.drop k) (c+1) none:=by
   rcases Nat.le_total n 4294967296 with hn | hn
   ·rw[Nat.min_eq_left hn]
   rw[Nat.min_eq_right hn]
   exact ZH (vR d) _ _ _ _ _ (by omega) (by omega) (by omega)
  rw[e]
  cases vl (zj d) n (b.drop k) (c+1) none <;> rfl
 rw[gd d b c h hq hk,hk,ui,jt,if_neg (by omega),if_pos rfl,pZ (by omega),vQ]
 cases zj d (b.drop k) (c+1) with
 | err e=>rfl
 | ok x k' c'=>simp[vQ,elR]
def Wg (d:Nat):Prop:=∀ (w:World) (H:Snap) (g:Nat) (A:Option Addr) (c:Nat) (l:List UInt8) (p cnt lv maj n:Nat),Tabs H→lv+1+d=8→4≤maj→maj≤6→n<18446744073709551616→0<l.length→Psr 118 w g H A c l p cnt→
 Calls Tryz.prog 108 #[.pointer (some ⟨g,0,none⟩),.int .i64 (maj:Int),.int .u64 (n:Int),.int .i64 (lv:Int)] w (ItemOut 118 w H g A c l p (ui maj d n (l.drop p) cnt))
theorem U1 (d:Nat) {l:List UInt8}{p c:Nat}(h:¬ 256≤c) {ch:UInt8}{low:Nat}(hd:l.drop p=ch::l.drop (p+1)) (hl:ch.toNat%32=low) (sV:low≤27) (h7:ch.toNat/32=7) :
  zj d (l.drop p) c=(match xm low (l.drop (p+1)) (c+1) with | .err e=>.err e | .ok x k c'=>.ok x (1+k) c'):=by
 subst hl;obtain⟨t,ht⟩:∃ t,l.drop (p+1)=t:=⟨_,rfl⟩
 rw[ht]at hd;rw[ht]
 by_cases te:ch.toNat%32<24
 ·have hh:zf (l.drop p)=.ok (ch.toNat,ch.toNat%32,1):=by rw[hd,zf,if_neg (by omega),if_pos te]
  rw[pW d _ c h hh h7,xm,if_pos te]
  cases yZ (ch.toNat%32) (ch.toNat%32) <;> rfl
 by_cases hs:t.length<2 ^ (ch.toNat%32-24)
 ·have hh:zf (l.drop p)=.error 2:=by rw[hd,zf,if_neg (by omega),if_neg te,if_pos hs]
  rw[zW d _ c h hh,xm,if_neg te,if_pos hs]
 have hh:zf (l.drop p)=.ok (ch.toNat,beN (t.take (2 ^ (ch.toNat%32-24))),1+2 ^ (ch.toNat%32-24)):=by rw[hd,zf,if_neg (by omega),if_neg te,if_neg hs,if_neg (by omega)]
 rw[pW d _ c h hh h7,xm,if_neg te,if_neg hs]
 cases yZ (ch.toNat%32) (beN (t.take (2 ^ (ch.toNat%32-24)))) <;> rfl
section
variable {d:Nat} {w:World} {H:Snap} {g:Nat} {A:Option Addr} {c:Nat} {l:List UInt8} {p cnt lv:Nat}
theorem lS (hTab:Tabs H) (hlv:lv+d=8) (hP:Psr 118 w g H A c l p cnt) (hc:cnt=256):Calls Tryz.prog 81 #[.pointer (some ⟨g,0,none⟩),.int .i64 (lv:Int)] w (ItemOut 118 w H g A c l p (zj d (l.drop p) cnt)):=by
 have yv:=hP.gt;have xg:=(Rdg.refl hP).alloc zg;have we:=Blk.new w 57 #[.int .i64 0,.int .u64 0,.slice none 0 0,.slice none 0 0];have zF:H w.heap.size=none:=hP.holds.none_of_ge (Nat.le_refl _);have c2:=xg.psr.blk.cell 2 rfl;have xv:(256:Int)≤(cnt:Int):=by omega
 have yD:decide ((256:Int)≤(cnt:Int))=true:=decide_eq_true xv;have E:=Hh (jI d (l.drop p) cnt (by omega));clear hc;go_enter Tryz.func81,Tryz.ntmps81
 go_wp2_with (with_reducible refine zx ?_)
 refine stI we fun wz hTy zT=>?_
 have zQ:=xg.gb zF (Nat.le_refl _) yv zT;go_wp2_with fail
 refine zw rfl rfl hTy rfl rfl zv rfl ?_
 exact ItemOut.err (q:=8) E.out rfl zQ
theorem jJ (hTab:Tabs H) (hlv:lv+d=8) (hP:Psr 118 w g H A c l p cnt) (hc:cnt<256) (ye:p=l.length):Calls Tryz.prog 81 #[.pointer (some ⟨g,0,none⟩),.int .i64 (lv:Int)] w (ItemOut 118 w H g A c l p (zj d (l.drop p) cnt)):=by
 have yv:=hP.gt;have xg:=(Rdg.refl hP).alloc zg;have we:=Blk.new w 57 #[.int .i64 0,.int .u64 0,.slice none 0 0,.slice none 0 0];have zF:H w.heap.size=none:=hP.holds.none_of_ge (Nat.le_refl _);have c2:=xg.psr.blk.cell 2 rfl;have E:=Hh (zW d (l.drop p) cnt (by omega) (q:=2) (by rw[ye,List.drop_length];rfl));have z0:((l.length:Nat):Int)≤(p:Int):=by omega
 have z0':decide (((l.length:Nat):Int)≤(p:Int))=true:=decide_eq_true z0;clear ye;have xv:¬ ((256:Int)≤(cnt:Int)):=by omega
 have yD:decide ((256:Int)≤(cnt:Int))=false:=decide_eq_false xv;have KC:IntKind.i64.wrap ((cnt:Int)+1)=(cnt:Int)+1:=IntWalk.i64_in _ (by omega);have HC:=Hh hc;clear hc;go_enter Tryz.func81,Tryz.ntmps81
 go_wp2_with (with_reducible refine zx ?_)
 refine zu rfl _ _ _ rfl rfl g 2 (.int .i64 ((cnt:Int)+1)) rfl rfl _ _ xg.psr.blk zH (by simp) rfl fun w2 yU yq=>?_
 have wl:Rdg 118 w H w2 H g _ c l p (cnt+1):=xg.step yq yU hP.le (by have:=HC.out;omega);have uv:=we.gr yq (by omega);clear xg we yU yq c2 KC xv yD;have na:=wl.psr.le;have a0:=wl.psr.blk.cell 0 rfl;have a1:=wl.psr.blk.cell 1 rfl;go_wp2_with fail
 go_big_quiet (fail)
 have xV:=wl.drewN nq;have xO:Blk (w2.drewN nq) w.heap.size 57 #[.int .i64 0,.int .u64 0,.slice none 0 0,.slice none 0 0]:=uv;go_wp2_with (with_reducible refine zx ?_)
 refine stI xO fun wz hTy zT=>?_
 have zQ:=xV.gb zF (Nat.le_refl _) yv zT;go_wp2_with fail
 refine zw rfl rfl hTy rfl rfl zv rfl ?_
 exact ItemOut.err E.out rfl zQ
theorem lR (hTab:Tabs H) (hlv:lv+d=8) (hP:Psr 118 w g H A c l p cnt) (hc:cnt<256) (ur:p<l.length) {ch:UInt8}(rt:l[p]=ch) {low kd:Nat}(yN:ch.toNat%32=low) (pP:ch.toNat/32=kd) (sV:27<low):Calls Tryz.prog 81 #[.pointer (some ⟨g,0,none⟩),.int .i64 (lv:Int)] w (ItemOut 118 w H g A c l p (zj d (l.drop p) cnt)):=by
 have yv:=hP.gt;have xg:=(Rdg.refl hP).alloc zg;have we:=Blk.new w 57 #[.int .i64 0,.int .u64 0,.slice none 0 0,.slice none 0 0];have zF:H w.heap.size=none:=hP.holds.none_of_ge (Nat.le_refl _);have c2:=xg.psr.blk.cell 2 rfl;have ED:=uS ur;rw[rt]at ED;have E:=Hh (zW d (l.drop p) cnt (by omega) (q:=3) (by rw[ED,zf,yN,if_pos sV]));have z27:(27:Int)<(low:Int):=by omega
 clear sV ED;have z0:¬ (((l.length:Nat):Int)≤(p:Int)):=by omega
 have z0':decide (((l.length:Nat):Int)≤(p:Int))=false:=decide_eq_false z0;have lp:(p:Int)<(l.length:Int):=by omega
 have iZ:(0:Int)≤(p:Int):=by omega
 have qI:=hP.small;have K1:IntKind.i64.wrap ((p:Int)+1)=(p:Int)+1:=IntWalk.i64_in _ (by omega);obtain⟨b,off,rfl,yG⟩:=hP.bytes.at_ (by omega);have KA:=oU ⟨ch.toNat,ch.toNat_lt⟩
 simp only at KA
 rw[yN]at KA;have S:(ch.toNat:Int)/32=(kd:Int):=by omega
 have TW:(kd:Int)≤7:=by have:=ch.toNat_lt;omega
 have oJ:(low:Int)≤31:=by omega
 have qy:=Hh yG;have yw:=Hh (And.intro yN (And.intro pP ur));have bY:=Hh (show H.cell? ⟨b,off+p,none⟩=some (zI ch) by have h:=yG p ur;rw[rt]at h;exact h);clear yG yN pP qI rt;have xv:¬ ((256:Int)≤(cnt:Int)):=by omega
 have yD:decide ((256:Int)≤(cnt:Int))=false:=decide_eq_false xv;have KC:IntKind.i64.wrap ((cnt:Int)+1)=(cnt:Int)+1:=IntWalk.i64_in _ (by omega);have HC:=Hh hc;clear hc;go_enter Tryz.func81,Tryz.ntmps81
 go_wp2_with (with_reducible refine zx ?_)
 refine zu rfl _ _ _ rfl rfl g 2 (.int .i64 ((cnt:Int)+1)) rfl rfl _ _ xg.psr.blk zH (by simp) rfl fun w2 yU yq=>?_
 have wl:Rdg 118 w H w2 H g _ c l p (cnt+1):=xg.step yq yU hP.le (by have:=HC.out;omega);have uv:=we.gr yq (by omega);clear xg we yU yq c2 KC xv yD;have na:=wl.psr.le;have a0:=wl.psr.blk.cell 0 rfl;have a1:=wl.psr.blk.cell 1 rfl;go_wp2_with fail
 go_big_quiet (fail)
 have tv:=wl.drewN nq;have tt:Blk (w2.drewN nq) w.heap.size 57 #[.int .i64 0,.int .u64 0,.slice none 0 0,.slice none 0 0]:=uv
 generalize w2.drewN nq=w3 at tv tt⊢
 obtain⟨xV,xO⟩:=And.intro tv tt;clear tv tt wl uv a0 a1 na;have a0:=xV.psr.blk.cell 0 rfl;have a1:=xV.psr.blk.cell 1 rfl;have q0:=xV.psr.holds.cell bY.out;go_upto_region 6 with fail
 go_big_quiet (fail)
 have ux:=xV.drewN nq;have uw:Blk (w3.drewN nq) w.heap.size 57 #[.int .i64 0,.int .u64 0,.slice none 0 0,.slice none 0 0]:=xO
 generalize w3.drewN nq=w4 at ux uw⊢
 obtain⟨vd,wT⟩:=And.intro ux uw;clear ux uw xV xO a0 a1 q0;have a1:=vd.psr.blk.cell 1 rfl;go_wp2_with (with_reducible refine zx ?_)
 refine zu rfl _ _ _ rfl rfl g 1 (.int .i64 ((p:Int)+1)) rfl rfl _ _ vd.psr.blk zH (by simp) rfl fun w5 sb xM=>?_
 have yi:Rdg 118 w H w5 H g (some ⟨b,off,none⟩) c l (p+1) (cnt+1):=vd.step xM sb yw.out.2.2 (by have:=HC.out;omega);have yt:=wT.gr xM (by omega);clear vd wT sb xM a1 K1 z0 z0' lp iZ KA S;go_wp2_with (with_reducible refine zx ?_)
 refine stI yt fun wz hTy zT=>?_
 have zQ:=yi.gb zF (Nat.le_refl _) yv zT;go_wp2_with fail
 refine zw rfl rfl hTy rfl rfl zv rfl ?_
 exact ItemOut.err E.out rfl zQ
theorem eF (hTab:Tabs H) (hlv:lv+d=8) (hP:Psr 118 w g H A c l p cnt) (hc:cnt<256) (ur:p<l.length) {ch:UInt8}(rt:l[p]=ch) {low kd:Nat}(yN:ch.toNat%32=low) (pP:ch.toNat/32=kd) (sV:low≤27) (h7:kd=7):Calls Tryz.prog 81 #[.pointer (some ⟨g,0,none⟩),.int .i64 (lv:Int)] w (ItemOut 118 w H g A c l p (zj d (l.drop p) cnt)):=by
 have yv:=hP.gt;have xg:=(Rdg.refl hP).alloc zg;have we:=Blk.new w 57 #[.int .i64 0,.int .u64 0,.slice none 0 0,.slice none 0 0];have zF:H w.heap.size=none:=hP.holds.none_of_ge (Nat.le_refl _);have c2:=xg.psr.blk.cell 2 rfl;have ED:=uS ur;rw[rt]at ED;subst h7;have E0:=Hh (U1 d (l:=l) (p:=p) (c:=cnt) (by omega) ED yN sV pP);have z27:¬ ((27:Int)<(low:Int)):=by omega
 have z27b:decide ((27:Int)<(low:Int))=false:=decide_eq_false z27;have ks:=Hh sV;clear sV ED;have z0:¬ (((l.length:Nat):Int)≤(p:Int)):=by omega
 have z0':decide (((l.length:Nat):Int)≤(p:Int))=false:=decide_eq_false z0;have lp:(p:Int)<(l.length:Int):=by omega
 have iZ:(0:Int)≤(p:Int):=by omega
 have qI:=hP.small;have K1:IntKind.i64.wrap ((p:Int)+1)=(p:Int)+1:=IntWalk.i64_in _ (by omega);obtain⟨b,off,rfl,yG⟩:=hP.bytes.at_ (by omega);have KA:=oU ⟨ch.toNat,ch.toNat_lt⟩
 simp only at KA
 rw[yN]at KA;have S:(ch.toNat:Int)/32=7:=by omega
 have TW:=True.intro;have oJ:(low:Int)≤31:=by omega
 have qy:=Hh yG;have yw:=Hh (And.intro yN (And.intro pP ur));have bY:=Hh (show H.cell? ⟨b,off+p,none⟩=some (zI ch) by have h:=yG p ur;rw[rt]at h;exact h);clear yG yN pP qI rt;have xv:¬ ((256:Int)≤(cnt:Int)):=by omega
 have yD:decide ((256:Int)≤(cnt:Int))=false:=decide_eq_false xv;have KC:IntKind.i64.wrap ((cnt:Int)+1)=(cnt:Int)+1:=IntWalk.i64_in _ (by omega);have HC:=Hh hc;clear hc;go_enter Tryz.func81,Tryz.ntmps81
 go_wp2_with (with_reducible refine zx ?_)
 refine zu rfl _ _ _ rfl rfl g 2 (.int .i64 ((cnt:Int)+1)) rfl rfl _ _ xg.psr.blk zH (by simp) rfl fun w2 yU yq=>?_
 have wl:Rdg 118 w H w2 H g _ c l p (cnt+1):=xg.step yq yU hP.le (by have:=HC.out;omega);have uv:=we.gr yq (by omega);clear xg we yU yq c2 KC xv yD;have na:=wl.psr.le;have a0:=wl.psr.blk.cell 0 rfl;have a1:=wl.psr.blk.cell 1 rfl;go_wp2_with fail
 go_big_quiet (fail)
 have tv:=wl.drewN nq;have tt:Blk (w2.drewN nq) w.heap.size 57 #[.int .i64 0,.int .u64 0,.slice none 0 0,.slice none 0 0]:=uv
 generalize w2.drewN nq=w3 at tv tt⊢
 obtain⟨xV,xO⟩:=And.intro tv tt;clear tv tt wl uv a0 a1 na;have a0:=xV.psr.blk.cell 0 rfl;have a1:=xV.psr.blk.cell 1 rfl;have q0:=xV.psr.holds.cell bY.out;go_upto_region 6 with fail
 go_big_quiet (fail)
 have ux:=xV.drewN nq;have uw:Blk (w3.drewN nq) w.heap.size 57 #[.int .i64 0,.int .u64 0,.slice none 0 0,.slice none 0 0]:=xO
 generalize w3.drewN nq=w4 at ux uw⊢
 obtain⟨vd,wT⟩:=And.intro ux uw;clear ux uw xV xO a0 a1 q0;have a1:=vd.psr.blk.cell 1 rfl;go_wp2_with (with_reducible refine zx ?_)
 refine zu rfl _ _ _ rfl rfl g 1 (.int .i64 ((p:Int)+1)) rfl rfl _ _ vd.psr.blk zH (by simp) rfl fun w5 sb xM=>?_
 have yi:Rdg 118 w H w5 H g (some ⟨b,off,none⟩) c l (p+1) (cnt+1):=vd.step xM sb yw.out.2.2 (by have:=HC.out;omega);have yt:=wT.gr xM (by omega);clear vd wT sb xM a1 K1 z0 z0' lp iZ KA S;have SP:=Hh (YU yi.psr low ks.out);go_wp2_with fail
 refine SP.out.mono ?_
 intro e w6 hs
 cases iR:xm low (l.drop (p+1)) (cnt+1) with
 | err q =>
  rw[iR,ItemOut]at hs;obtain⟨rfl,H4,p4,cnt4,qf⟩:=hs;have E:Hid (zj d (l.drop p) cnt=.err q):=by rw[Hid,E0.out,iR]
  have z8:=yi.trans qf;have yj:=yt.rdg qf (by omega);have tS:=qf.hid zF yt.lt;clear qf yi yt SP iR E0;go_wp2_with (with_reducible refine zx ?_)
  refine stI yj fun wz hTy zT=>?_
  have zQ:=z8.gb tS (Nat.le_refl _) yv zT;go_wp2_with fail
  refine zw rfl rfl hTy rfl rfl zv rfl ?_
  exact ItemOut.err E.out rfl zQ
 | ok x k' c' =>
 rw[iR,ItemOut]at hs;obtain⟨ja,jb,jc,jd,H4,rfl,qf,eh⟩:=hs;have E:Hid (zj d (l.drop p) cnt=.ok x (1+k') c'):=by rw[Hid,E0.out,iR]
 have z8:=yi.trans qf;have yj:=yt.rdg qf (by omega);have tS:=qf.hid zF yt.lt;clear qf yi yt SP iR E0;go_wp2_with (with_reducible refine zx ?_)
 refine stI yj fun wz hTy zT=>?_
 have zQ:=z8.gb tS (Nat.le_refl _) yv zT;go_wp2_with fail
 refine zw rfl rfl hTy rfl rfl zv rfl ?_
 exact ItemOut.ok E.out rfl (by rw[← Nat.add_assoc];exact zQ) eh
end
section
variable {d:Nat} {w:World} {H:Snap} {g:Nat} {A:Option Addr} {c:Nat} {l:List UInt8} {p cnt lv n:Nat}
theorem Vv (ih:nE d) (hTab:Tabs H) (hlv:lv+1+d=8) (hn:n<18446744073709551616) (hl0:0<l.length) (hP:Psr 118 w g H A c l p cnt):Calls Tryz.prog 108 #[.pointer (some ⟨g,0,none⟩),.int .i64 4,.int .u64 (n:Int),.int .i64 (lv:Int)] w (ItemOut 118 w H g A c l p (ui 4 d n (l.drop p) cnt)):=by
 have yv:=hP.gt;have zF:H w.heap.size=none:=hP.holds.none_of_ge (Nat.le_refl _);have ru:H (w.heap.size+1)=none:=hP.holds.none_of_ge (Nat.le_succ _);have xg:=((Rdg.refl hP).alloc zg).alloc zg;have we:=(Blk.new w 57 #[.int .i64 0,.int .u64 0,.slice none 0 0,.slice none 0 0]).alloc zg;have nW:=Blk.new (w.alloc zg) 57 #[.int .i64 0,.int .u64 0,.slice none 0 0,.slice none 0 0];rw[show(w.alloc zg).heap.size=w.heap.size+1 by simp]at nW;have bf:=Hh hn;have bZ:=Hh hP.small;have Xd:=Hh hlv;have Yn:(lv:Int)≤8:=by omega
 have KLV:IntKind.i64.wrap ((lv:Int)+1)=(lv:Int)+1:=IntWalk.i64_in _ (by omega);have Sf:=Hh (show n<18446744073709551616 by omega);have iA:Hid (ui 4 d n (l.drop p) cnt=elR 4 n (vQ (zj d) n (l.drop p) cnt)):=by rw[Hid,ui,jt,if_neg (by omega),if_neg (by omega),pZ (by omega)]
 clear hn;go_enter Tryz.func108,Tryz.ntmps108
 go_wp2_with (with_reducible refine zx ?_)
 refine stI nW fun w4 pw tL=>?_
 have yi:=xg.grownRow (row:=some (w.heap.size+1)) (by rintro q ⟨⟩;exact ru) (by rintro q ⟨⟩;exact Nat.le_succ _) yv tL;have yt:=we.gr tL (by omega);clear xg we nW tL;obtain⟨X,qm⟩:∃ X,w.heap.size+1=X:=⟨_,rfl⟩
 have yI:Hid (w.heap.size<X):=by rw[Hid];omega
 rw[qm]at pw ru⊢;clear qm;go_wp2_with fail
 go_loopw [12,13,14] (fun v12 v13 v14 wr=>∃ (i:Nat) (Hr:Snap) (VA:Option Addr) (vc vn:Nat) (L:List Itm) (k0 cc:Nat) ,v14=.int .u64 (i:Int)∧v12=.slice VA vn vc∧i≤n∧vn=L.length∧
  Rdg 118 w H wr Hr g A c l (p+k0) cc∧Blk wr w.heap.size 57 #[.int .i64 0,.int .u64 0,.slice none 0 0,.slice none 0 0]∧Hr w.heap.size=none∧
  Blk wr X 57 #[.int .i64 4,.int .u64 0,.slice none 0 0,.slice none 0 0]∧Hr X=none∧OwnI wr (X+1) (.slice VA vn vc) Hr L∧(∀ q,(Value.slice VA vn vc).ownBlock=some q→Hr q=none)∧L.length≤cc∧
  vQ (zj d) n (l.drop p) cnt=(vQ (zj d) (n-i) (l.drop (p+k0)) cc).pre L k0) (fun _ _ v14 _=>n-(intOf v14).toNat)
 case atStart=>exact⟨0,H,none,0,0,[],0,cnt,rfl,rfl,Nat.zero_le _,rfl,yi,yt,zF,pw,ru,OwnI.nil _ _ H,by intro q hq;simp[Value.ownBlock]at hq,by simp,by rw[nC];rfl⟩
 case round =>
 clear yi yt pw;obtain⟨i,Hr,VA,vc,vn,L,k0,cc,rfl,rfl,Yy,rfl,uk,uY,pO,ql,oD,vW,rI,Zd,rh⟩:=hrel;have sr:=Hh rh;have iK:=Hh Zd;have Sd:=Hh Yy
  
 clear rh Zd Yy 
 by_cases uq:i<n
 ·obtain⟨m1,qo⟩:∃ m1,n-i=m1+1:=⟨n-i-1,by omega⟩
  have be:=Hh (show n-(i+1)=m1 by omega);have vM:Hid (vQ (zj d) n (l.drop p) cnt=(vQ (zj d) (m1+1) (l.drop (p+k0)) cc).pre L k0):=by rw[Hid,sr.out,qo]
  obtain⟨P1,fr⟩:∃ P1,p+k0=P1:=⟨_,rfl⟩
  have ph:=Hh fr;rw[fr]at uk vM;clear fr;have kj:(i:Int)<(n:Int):=by omega
  have IT:=ih wr Hr g A c l P1 cc (lv+1) (hTab.mono uk.grows.le) hlv uk.psr;rw[show((lv+1:Nat):Int)=(lv:Int)+1 by omega]at IT;have ITH:=Hh IT;clear qo sr IT;go_wp2_with fail
  refine ITH.out.mono ?_
  intro e w5 hs
  cases hp:zj d (l.drop P1) cc with
  | err q =>
   rw[hp,ItemOut]at hs;obtain⟨rfl,H5,p5,cnt5,yB⟩:=hs;have nc:((q:Int) != 0)=true:=by rw[bne_iff_ne];have:=yY _ _ _ _ hp;omega
   have kp:((q:Int)=0)=False:=eq_false (by have:=yY _ _ _ _ hp;omega);have E:Hid (ui 4 d n (l.drop p) cnt=.err q):=by rw[Hid,iA.out,vM.out,qJ L k0 hp];rfl
   have z8:=uk.trans yB;have yj:=uY.rdg yB (by omega);have tS:=yB.hid pO uY.lt;have hY:=Blk.new w5 57 #[.int .i64 0,.int .u64 0,.slice none 0 0,.slice none 0 0];have kI:H5 w5.heap.size=none:=z8.psr.holds.none_of_ge (Nat.le_refl _);have qH:=Hh yj.lt;have yC:=z8.alloc zg;have yS:=yj.alloc zg;clear ITH hp uk yB uY ql vW rI vM iK z8 yj;go_wp2_with (with_reducible refine zx ?_)
   refine stI hY fun w8 hY8 hg8=>?_
   have vp:=yC.gb kI (Nat.le_of_lt qH.out) yv hg8;have vI:=yS.grown hg8 (by intro e;injection e with e;have:=qH.out;omega);clear yC yS hY hg8 hY8;go_wp2_with (with_reducible refine zx ?_)
   refine stI vI fun wz hTy zT=>?_
   have zQ:=vp.gb tS (Nat.le_refl _) yv zT;go_wp2_with fail
   refine zw rfl rfl hTy rfl rfl zv rfl ?_
   exact ItemOut.err E.out rfl zQ
  | ok x k c1 =>
  rw[hp,ItemOut]at hs;obtain⟨ja,jb,jc,jd,H5,rfl,yB,Yx⟩:=hs;have Yq:=Hh (vR d _ _ _ _ _ hp);have z8:=uk.trans yB;have Mr:=z8.psr.cnt_le;have yj:=uY.rdg yB (by omega);have tS:=yB.hid pO uY.lt;have rK:=ql.rdg yB (by have:=yI.out;omega);have mF:=yB.hid oD ql.lt;have sK:=(vW.rdg yB (by have:=yI.out;omega)).mono yB.grows.le;have og:∀ q,(Value.slice VA L.length vc).ownBlock=some q→H5 q=none:=fun q hq=>yB.hid (rI q hq) (vW.lt q hq).2
  have UL:=Hh yB.grows.le;have hY:=Blk.new w5 57 #[.int .i64 0,.int .u64 0,.slice none 0 0,.slice none 0 0];have kI:H5 w5.heap.size=none:=z8.psr.holds.none_of_ge (Nat.le_refl _);have qH:=Hh (And.intro yj.lt rK.lt);have nZ:=Hh (show ∀ q,(Value.slice VA L.length vc).ownBlock=some q→X+1≤q∧q<w5.heap.size from fun q hq=>sK.lt q hq);have yC:=z8.alloc zg;have yS:=yj.alloc zg;have mM:=rK.alloc zg;have vo:=sK.alloc zg;have uK:=Hh (show L.length≤256 by have:=Yq.out;have:=iK.out;omega);have Uy:=Hh hp;clear ITH hp uk yB uY ql vW rI z8 yj rK sK;go_wp2_with (with_reducible refine zx ?_)
  refine stI hY fun w8 hY8 hg8=>?_
  have vp:=yC.gb kI (Nat.le_of_lt qH.out.1) yv hg8;have vI:=yS.grown hg8 (by intro e;injection e with e;have:=qH.out.1;omega);have tK:=mM.grown hg8 (by intro e;injection e with e;have:=qH.out.2;omega);have lm:=vo.kl hg8 (fun q hv=>by have:=(nZ.out q hv).2;omega);obtain⟨Y1,V8⟩:∃ Y1,w5.heap.size=Y1:=⟨_,rfl⟩
  rw[V8]at hY8 qH kI nZ⊢;have b0:=hY8.cell 0 rfl;have b1:=hY8.cell 1 rfl;have b2:=hY8.cell 2 rfl;have b3:=hY8.cell 3 rfl;clear yC yS mM vo hY hg8 V8
  have eo:Hid ((L++[x]).length≤c1):=by
   have:=Yq.out;have:=iK.out;rw[Hid,List.length_append];simp;omega
  have td:=vp.alloc (.cells (zY x ja jb jc jd).toArray 57);have uM:=vI.alloc (.cells (zY x ja jb jc jd).toArray 57);have oa:=tK.alloc (.cells (zY x ja jb jc jd).toArray 57);have nS:=lm.alloc (.cells (zY x ja jb jc jd).toArray 57);go_wp2_with (at_builtin;refine yf ?_)
  refine xy rfl (.tmp 75) (.tmp 77) rfl (X+1) (.slice VA L.length vc) H5 _ rfl nS _ 1 _ (zY x ja jb jc jd) [x] rfl rfl (ItemsC.one Yx) (Src.new _ _ _ _ rfl _ rfl) (by have:=uK.out;simp;omega) oa.lt fun v' w10 hO10 hg10 hat10=>?_
  obtain⟨VA',vc',rfl,_⟩:=hO10.form;have uI:=uM.grown hg10 (fun e=>by have:=(nZ.out _ e).1;have:=yI.out;omega);have ki:=oa.grown hg10 (fun e=>by have:=(nZ.out _ e).1;omega);have pj:=sp td.psr.holds og hat10;have uN:=td.grownRow og (fun q hq=>by have:=(nZ.out q hq).1;have:=yI.out;omega) yv hg10;obtain⟨L',pv⟩:∃ L',L++[x]=L':=⟨_,rfl⟩
  rw[pv]at hO10 pj eo⊢;have eY:=Hh (show vQ (zj d) n (l.drop p) cnt=(vQ (zj d) m1 (l.drop (p+(k0+k))) c1).pre (L++[x]) (k0+k) by rw[vM.out,pR L k0 Uy.out,List.drop_drop,← ph.out,Nat.add_assoc]);rw[pv]at eY;have nJ:L.length+1=L'.length:=by rw[← pv];simp
  try rw[nJ]
  clear pv td uM oa nS hg10 hat10 b0 b1 b2 b3 nJ;have KI:IntKind.u64.wrap ((i:Int)+1)=(i:Int)+1:=by rw[IntKind.wrap_u64];have:=Sf.out;omega
  rw[show P1+k=p+(k0+k) by have:=ph.out;omega]at uN;have rD:=Hh kj;clear kj;go_wp2_with fail
  go_roundw
  case rel=>exact⟨i+1,H5,VA',vc',_,L',k0+k,c1,by first | rfl | (simp;done) | go_num,rfl,by have:=rD.out;omega,rfl,uN,uI,tS,ki,mF,hO10,pj,eo.out,by rw[be.out];exact eY.out⟩
  case measure=>have:=rD.out;simp[intOf];omega
 have hm:n=i:=by have:=Sd.out;omega
 subst hm
 have E1:Hid (ui 4 d n (l.drop p) cnt=.ok (.mk 4 0 [] L) k0 cc):=by
  rw[Hid,iA.out,sr.out,Nat.sub_self,vQ];simp[PL.pre,elR]
 obtain⟨H5,iY,Zf,ul,Zq,rq,rs,nK⟩:=vW.snap uk.psr.holds (fun q hq=>rI q (tH hq));have yN:∀ q,VA.map (·.block)=some q→X+1≤q:=fun q hq=>(vW.lt q (tH hq)).1
 have Xj:H5 w.heap.size=none:=tn ul pO (fun e=>by have:=yN _ e;have:=yI.out;omega);have X6:H5 X=none:=tn ul oD (fun e=>by have:=yN _ e;omega);have z8:Rdg 118 w H wr H5 g A c l (p+k0) cc:=uk.snap (B:=X+1) iY Zf ul yN (by have:=yI.out;omega) yv;have Ut:IsItem H5 none 0 VA vc (.mk 4 0 [] L):=IsRowI.item ⟨rq,rs,nK⟩ 4 (by omega) 0 (by have:=bf.out;omega);clear vW ul nK Zf iY pO oD rI yN uk sr;go_wp2_with (with_reducible refine zx ?_)
 refine zu rfl _ _ _ rfl rfl X 3 (.slice VA L.length vc) rfl rfl _ _ ql xB (by simp) rfl fun w6 rK tO=>?_
 have yC:=z8.gb X6 (Nat.le_of_lt yI.out) yv tO;have yS:=uY.grown tO (by intro e;injection e with e;have:=yI.out;omega);have b0:=rK.cell 0 rfl;have b1:=rK.cell 1 rfl;have b2:=rK.cell 2 rfl;have b3:=rK.cell 3 rfl;clear z8 uY ql tO;go_wp2_with (with_reducible refine zx ?_)
 refine stI yS fun wz hTy zT=>?_
 have zQ:=yC.gb Xj (Nat.le_refl _) yv zT;go_wp2_with fail
 refine zw rfl rfl hTy rfl rfl zv rfl ?_
 exact ItemOut.ok E1.out rfl zQ Ut
theorem Vx (ih:nE d) (hTab:Tabs H) (hlv:lv+1+d=8) (hn:n<18446744073709551616) (hl0:0<l.length) (hP:Psr 118 w g H A c l p cnt):Calls Tryz.prog 108 #[.pointer (some ⟨g,0,none⟩),.int .i64 6,.int .u64 (n:Int),.int .i64 (lv:Int)] w (ItemOut 118 w H g A c l p (ui 6 d n (l.drop p) cnt)):=by
 have yv:=hP.gt;have zF:H w.heap.size=none:=hP.holds.none_of_ge (Nat.le_refl _);have ru:H (w.heap.size+1)=none:=hP.holds.none_of_ge (Nat.le_succ _);have xg:=((Rdg.refl hP).alloc zg).alloc zg;have we:=(Blk.new w 57 #[.int .i64 0,.int .u64 0,.slice none 0 0,.slice none 0 0]).alloc zg;have nW:=Blk.new (w.alloc zg) 57 #[.int .i64 0,.int .u64 0,.slice none 0 0,.slice none 0 0];rw[show(w.alloc zg).heap.size=w.heap.size+1 by simp]at nW;have bf:=Hh hn;have bZ:=Hh hP.small;have Xd:=Hh hlv;have Yn:(lv:Int)≤8:=by omega
 have KLV:IntKind.i64.wrap ((lv:Int)+1)=(lv:Int)+1:=IntWalk.i64_in _ (by omega);have Sf:=Hh (show 1<18446744073709551616 by omega);have iA:Hid (ui 6 d n (l.drop p) cnt=elR 6 n (vQ (zj d) 1 (l.drop p) cnt)):=by rw[Hid,ui,jt,if_neg (by omega),if_pos rfl,pZ (by omega)]
 clear hn;go_enter Tryz.func108,Tryz.ntmps108
 go_wp2_with (with_reducible refine zx ?_)
 refine stI nW fun w4 pw tL=>?_
 have yi:=xg.grownRow (row:=some (w.heap.size+1)) (by rintro q ⟨⟩;exact ru) (by rintro q ⟨⟩;exact Nat.le_succ _) yv tL;have yt:=we.gr tL (by omega);clear xg we nW tL;obtain⟨X,qm⟩:∃ X,w.heap.size+1=X:=⟨_,rfl⟩
 have yI:Hid (w.heap.size<X):=by rw[Hid];omega
 rw[qm]at pw ru⊢;clear qm;go_wp2_with (with_reducible refine zx ?_)
 refine zu rfl _ _ _ rfl rfl X 1 (.int .u64 (n:Int)) rfl rfl _ _ pw jk (by simp) rfl fun w4b hX4b hg4b=>?_
 have PK:=yi.gb ru (Nat.le_of_lt yI.out) yv hg4b;have P8:=yt.grown hg4b (by intro e;injection e with e;have:=yI.out;omega);have P9:Blk w4b X 57 #[.int .i64 6,.int .u64 (n:Int),.slice none 0 0,.slice none 0 0]:=hX4b;clear yi yt pw hX4b hg4b;have yi:=PK;have yt:=P8;have pw:=P9;clear PK P8 P9;go_wp2_with fail
 go_loopw [12,13,14] (fun v12 v13 v14 wr=>∃ (i:Nat) (Hr:Snap) (VA:Option Addr) (vc vn:Nat) (L:List Itm) (k0 cc:Nat) ,v14=.int .u64 (i:Int)∧v12=.slice VA vn vc∧i≤1∧vn=L.length∧
  Rdg 118 w H wr Hr g A c l (p+k0) cc∧Blk wr w.heap.size 57 #[.int .i64 0,.int .u64 0,.slice none 0 0,.slice none 0 0]∧Hr w.heap.size=none∧
  Blk wr X 57 #[.int .i64 6,.int .u64 (n:Int),.slice none 0 0,.slice none 0 0]∧Hr X=none∧OwnI wr (X+1) (.slice VA vn vc) Hr L∧(∀ q,(Value.slice VA vn vc).ownBlock=some q→Hr q=none)∧L.length≤cc∧
  vQ (zj d) 1 (l.drop p) cnt=(vQ (zj d) (1-i) (l.drop (p+k0)) cc).pre L k0) (fun _ _ v14 _=>1-(intOf v14).toNat)
 case atStart=>exact⟨0,H,none,0,0,[],0,cnt,rfl,rfl,Nat.zero_le _,rfl,yi,yt,zF,pw,ru,OwnI.nil _ _ H,by intro q hq;simp[Value.ownBlock]at hq,by simp,by rw[nC];rfl⟩
 case round =>
 clear yi yt pw;obtain⟨i,Hr,VA,vc,vn,L,k0,cc,rfl,rfl,Yy,rfl,uk,uY,pO,ql,oD,vW,rI,Zd,rh⟩:=hrel;have sr:=Hh rh;have iK:=Hh Zd;have Sd:=Hh Yy
  
 clear rh Zd Yy 
 by_cases uq:i<1
 ·obtain⟨m1,qo⟩:∃ m1,1-i=m1+1:=⟨1-i-1,by omega⟩
  have be:=Hh (show 1-(i+1)=m1 by omega);have vM:Hid (vQ (zj d) 1 (l.drop p) cnt=(vQ (zj d) (m1+1) (l.drop (p+k0)) cc).pre L k0):=by rw[Hid,sr.out,qo]
  obtain⟨P1,fr⟩:∃ P1,p+k0=P1:=⟨_,rfl⟩
  have ph:=Hh fr;rw[fr]at uk vM;clear fr;have kj:(i:Int)<1:=by omega
  have IT:=ih wr Hr g A c l P1 cc (lv+1) (hTab.mono uk.grows.le) hlv uk.psr;rw[show((lv+1:Nat):Int)=(lv:Int)+1 by omega]at IT;have ITH:=Hh IT;clear qo sr IT;go_wp2_with fail
  refine ITH.out.mono ?_
  intro e w5 hs
  cases hp:zj d (l.drop P1) cc with
  | err q =>
   rw[hp,ItemOut]at hs;obtain⟨rfl,H5,p5,cnt5,yB⟩:=hs;have nc:((q:Int) != 0)=true:=by rw[bne_iff_ne];have:=yY _ _ _ _ hp;omega
   have kp:((q:Int)=0)=False:=eq_false (by have:=yY _ _ _ _ hp;omega);have E:Hid (ui 6 d n (l.drop p) cnt=.err q):=by rw[Hid,iA.out,vM.out,qJ L k0 hp];rfl
   have z8:=uk.trans yB;have yj:=uY.rdg yB (by omega);have tS:=yB.hid pO uY.lt;have hY:=Blk.new w5 57 #[.int .i64 0,.int .u64 0,.slice none 0 0,.slice none 0 0];have kI:H5 w5.heap.size=none:=z8.psr.holds.none_of_ge (Nat.le_refl _);have qH:=Hh yj.lt;have yC:=z8.alloc zg;have yS:=yj.alloc zg;clear ITH hp uk yB uY ql vW rI vM iK z8 yj;go_wp2_with (with_reducible refine zx ?_)
   refine stI hY fun w8 hY8 hg8=>?_
   have vp:=yC.gb kI (Nat.le_of_lt qH.out) yv hg8;have vI:=yS.grown hg8 (by intro e;injection e with e;have:=qH.out;omega);clear yC yS hY hg8 hY8;go_wp2_with (with_reducible refine zx ?_)
   refine stI vI fun wz hTy zT=>?_
   have zQ:=vp.gb tS (Nat.le_refl _) yv zT;go_wp2_with fail
   refine zw rfl rfl hTy rfl rfl zv rfl ?_
   exact ItemOut.err E.out rfl zQ
  | ok x k c1 =>
  rw[hp,ItemOut]at hs;obtain⟨ja,jb,jc,jd,H5,rfl,yB,Yx⟩:=hs;have Yq:=Hh (vR d _ _ _ _ _ hp);have z8:=uk.trans yB;have Mr:=z8.psr.cnt_le;have yj:=uY.rdg yB (by omega);have tS:=yB.hid pO uY.lt;have rK:=ql.rdg yB (by have:=yI.out;omega);have mF:=yB.hid oD ql.lt;have sK:=(vW.rdg yB (by have:=yI.out;omega)).mono yB.grows.le;have og:∀ q,(Value.slice VA L.length vc).ownBlock=some q→H5 q=none:=fun q hq=>yB.hid (rI q hq) (vW.lt q hq).2
  have UL:=Hh yB.grows.le;have hY:=Blk.new w5 57 #[.int .i64 0,.int .u64 0,.slice none 0 0,.slice none 0 0];have kI:H5 w5.heap.size=none:=z8.psr.holds.none_of_ge (Nat.le_refl _);have qH:=Hh (And.intro yj.lt rK.lt);have nZ:=Hh (show ∀ q,(Value.slice VA L.length vc).ownBlock=some q→X+1≤q∧q<w5.heap.size from fun q hq=>sK.lt q hq);have yC:=z8.alloc zg;have yS:=yj.alloc zg;have mM:=rK.alloc zg;have vo:=sK.alloc zg;have uK:=Hh (show L.length≤256 by have:=Yq.out;have:=iK.out;omega);have Uy:=Hh hp;clear ITH hp uk yB uY ql vW rI z8 yj rK sK;go_wp2_with (with_reducible refine zx ?_)
  refine stI hY fun w8 hY8 hg8=>?_
  have vp:=yC.gb kI (Nat.le_of_lt qH.out.1) yv hg8;have vI:=yS.grown hg8 (by intro e;injection e with e;have:=qH.out.1;omega);have tK:=mM.grown hg8 (by intro e;injection e with e;have:=qH.out.2;omega);have lm:=vo.kl hg8 (fun q hv=>by have:=(nZ.out q hv).2;omega);obtain⟨Y1,V8⟩:∃ Y1,w5.heap.size=Y1:=⟨_,rfl⟩
  rw[V8]at hY8 qH kI nZ⊢;have b0:=hY8.cell 0 rfl;have b1:=hY8.cell 1 rfl;have b2:=hY8.cell 2 rfl;have b3:=hY8.cell 3 rfl;clear yC yS mM vo hY hg8 V8
  have eo:Hid ((L++[x]).length≤c1):=by
   have:=Yq.out;have:=iK.out;rw[Hid,List.length_append];simp;omega
  have td:=vp.alloc (.cells (zY x ja jb jc jd).toArray 57);have uM:=vI.alloc (.cells (zY x ja jb jc jd).toArray 57);have oa:=tK.alloc (.cells (zY x ja jb jc jd).toArray 57);have nS:=lm.alloc (.cells (zY x ja jb jc jd).toArray 57);go_wp2_with (at_builtin;refine yf ?_)
  refine xy rfl (.tmp 75) (.tmp 77) rfl (X+1) (.slice VA L.length vc) H5 _ rfl nS _ 1 _ (zY x ja jb jc jd) [x] rfl rfl (ItemsC.one Yx) (Src.new _ _ _ _ rfl _ rfl) (by have:=uK.out;simp;omega) oa.lt fun v' w10 hO10 hg10 hat10=>?_
  obtain⟨VA',vc',rfl,_⟩:=hO10.form;have uI:=uM.grown hg10 (fun e=>by have:=(nZ.out _ e).1;have:=yI.out;omega);have ki:=oa.grown hg10 (fun e=>by have:=(nZ.out _ e).1;omega);have pj:=sp td.psr.holds og hat10;have uN:=td.grownRow og (fun q hq=>by have:=(nZ.out q hq).1;have:=yI.out;omega) yv hg10;obtain⟨L',pv⟩:∃ L',L++[x]=L':=⟨_,rfl⟩
  rw[pv]at hO10 pj eo⊢;have eY:=Hh (show vQ (zj d) 1 (l.drop p) cnt=(vQ (zj d) m1 (l.drop (p+(k0+k))) c1).pre (L++[x]) (k0+k) by rw[vM.out,pR L k0 Uy.out,List.drop_drop,← ph.out,Nat.add_assoc]);rw[pv]at eY;have nJ:L.length+1=L'.length:=by rw[← pv];simp
  try rw[nJ]
  clear pv td uM oa nS hg10 hat10 b0 b1 b2 b3 nJ;have KI:IntKind.u64.wrap ((i:Int)+1)=(i:Int)+1:=by rw[IntKind.wrap_u64];have:=Sf.out;omega
  rw[show P1+k=p+(k0+k) by have:=ph.out;omega]at uN;have rD:=Hh kj;clear kj;go_wp2_with fail
  go_roundw
  case rel=>exact⟨i+1,H5,VA',vc',_,L',k0+k,c1,by first | rfl | (simp;done) | go_num,rfl,by have:=rD.out;omega,rfl,uN,uI,tS,ki,mF,hO10,pj,eo.out,by rw[be.out];exact eY.out⟩
  case measure=>have:=rD.out;simp[intOf];omega
 have hm:1=i:=by have:=Sd.out;omega
 subst hm
 have E1:Hid (ui 6 d n (l.drop p) cnt=.ok (.mk 6 n [] L) k0 cc):=by
  rw[Hid,iA.out,sr.out,Nat.sub_self,vQ];simp[PL.pre,elR]
 obtain⟨H5,iY,Zf,ul,Zq,rq,rs,nK⟩:=vW.snap uk.psr.holds (fun q hq=>rI q (tH hq));have yN:∀ q,VA.map (·.block)=some q→X+1≤q:=fun q hq=>(vW.lt q (tH hq)).1
 have Xj:H5 w.heap.size=none:=tn ul pO (fun e=>by have:=yN _ e;have:=yI.out;omega);have X6:H5 X=none:=tn ul oD (fun e=>by have:=yN _ e;omega);have z8:Rdg 118 w H wr H5 g A c l (p+k0) cc:=uk.snap (B:=X+1) iY Zf ul yN (by have:=yI.out;omega) yv;have Ut:IsItem H5 none 0 VA vc (.mk 6 n [] L):=IsRowI.item ⟨rq,rs,nK⟩ 6 (by omega) n (by have:=bf.out;omega);clear vW ul nK Zf iY pO oD rI yN uk sr;go_wp2_with (with_reducible refine zx ?_)
 refine zu rfl _ _ _ rfl rfl X 3 (.slice VA L.length vc) rfl rfl _ _ ql xB (by simp) rfl fun w6 rK tO=>?_
 have yC:=z8.gb X6 (Nat.le_of_lt yI.out) yv tO;have yS:=uY.grown tO (by intro e;injection e with e;have:=yI.out;omega);have b0:=rK.cell 0 rfl;have b1:=rK.cell 1 rfl;have b2:=rK.cell 2 rfl;have b3:=rK.cell 3 rfl;clear z8 uY ql tO;go_wp2_with (with_reducible refine zx ?_)
 refine stI yS fun wz hTy zT=>?_
 have zQ:=yC.gb Xj (Nat.le_refl _) yv zT;go_wp2_with fail
 refine zw rfl rfl hTy rfl rfl zv rfl ?_
 exact ItemOut.ok E1.out rfl zQ Ut
end
section
variable {d:Nat} {w:World} {H:Snap} {g:Nat} {A:Option Addr} {c:Nat} {l:List UInt8} {p cnt lv n:Nat}
theorem Vw (ih:nE d) (hTab:Tabs H) (hlv:lv+1+d=8) (hn:n<18446744073709551616) (hl0:0<l.length) (hP:Psr 118 w g H A c l p cnt):Calls Tryz.prog 108 #[.pointer (some ⟨g,0,none⟩),.int .i64 5,.int .u64 (n:Int),.int .i64 (lv:Int)] w (ItemOut 118 w H g A c l p (ui 5 d n (l.drop p) cnt)):=by
 have yv:=hP.gt;have zF:H w.heap.size=none:=hP.holds.none_of_ge (Nat.le_refl _);have ru:H (w.heap.size+1)=none:=hP.holds.none_of_ge (Nat.le_succ _);have xg:=((Rdg.refl hP).alloc zg).alloc zg;have we:=(Blk.new w 57 #[.int .i64 0,.int .u64 0,.slice none 0 0,.slice none 0 0]).alloc zg;have nW:=Blk.new (w.alloc zg) 57 #[.int .i64 0,.int .u64 0,.slice none 0 0,.slice none 0 0];rw[show(w.alloc zg).heap.size=w.heap.size+1 by simp]at nW;have bf:=Hh hn;have bZ:=Hh hP.small;have Xd:=Hh hlv;have Yn:(lv:Int)≤8:=by omega
 have KLV:IntKind.i64.wrap ((lv:Int)+1)=(lv:Int)+1:=IntWalk.i64_in _ (by omega);obtain⟨mn,QJ⟩:∃ mn,min n 4294967296=mn:=⟨_,rfl⟩
 obtain⟨N,hN⟩:∃ N,2*mn=N:=⟨_,rfl⟩
 have Zi:min (n:Int) 4294967296=(mn:Int):=by omega
 have KN:IntKind.u64.wrap (2*(mn:Int))=(N:Int):=by rw[IntKind.wrap_u64];omega
 have Sf:=Hh (show N≤8589934592 by omega);have iA:Hid (ui 5 d n (l.drop p) cnt=elR 5 n (va 5 (zj d) N true (l.drop p) cnt none)):=by rw[Hid,ui,jt,if_pos rfl,QJ,hN]
 clear QJ hN hn;go_enter Tryz.func108,Tryz.ntmps108
 go_wp2_with (with_reducible refine zx ?_)
 refine stI nW fun w4 pw tL=>?_
 have yi:=xg.grownRow (row:=some (w.heap.size+1)) (by rintro q ⟨⟩;exact ru) (by rintro q ⟨⟩;exact Nat.le_succ _) yv tL;have yt:=we.gr tL (by omega);clear xg we nW tL;obtain⟨X,qm⟩:∃ X,w.heap.size+1=X:=⟨_,rfl⟩
 have yI:Hid (w.heap.size<X):=by rw[Hid];omega
 rw[qm]at pw ru⊢;clear qm;go_wp2_with fail
 go_loopw [12,13,14] (fun v12 v13 v14 wr=>∃ (i:Nat) (Hr:Snap) (VA:Option Addr) (vc vn:Nat) (L:List Itm) (k0 cc:Nat) (last:Option (List UInt8)) (KB:Option Addr) (kn kc:Nat) ,v14=.int .u64 (i:Int)∧v12=.slice VA vn vc∧v13=.slice KB kn kc∧((i=0∧last=none)∨(0<i∧∃ key:List UInt8,last=some key∧kn=key.length∧key.length≤4096∧IsBytes Hr KB kc key))∧i≤N∧vn=L.length∧
  Rdg 118 w H wr Hr g A c l (p+k0) cc∧Blk wr w.heap.size 57 #[.int .i64 0,.int .u64 0,.slice none 0 0,.slice none 0 0]∧Hr w.heap.size=none∧
  Blk wr X 57 #[.int .i64 5,.int .u64 0,.slice none 0 0,.slice none 0 0]∧Hr X=none∧OwnI wr (X+1) (.slice VA vn vc) Hr L∧(∀ q,(Value.slice VA vn vc).ownBlock=some q→Hr q=none)∧L.length≤cc∧
  va 5 (zj d) N true (l.drop p) cnt none=(va 5 (zj d) (N-i) (decide (i%2=0)) (l.drop (p+k0)) cc last).pre L k0) (fun _ _ v14 _=>N-(intOf v14).toNat)
 case atStart=>exact⟨0,H,none,0,0,[],0,cnt,none,none,0,0,rfl,rfl,rfl,.inl ⟨rfl,rfl⟩,Nat.zero_le _,rfl,yi,yt,zF,pw,ru,OwnI.nil _ _ H,by intro q hq;simp[Value.ownBlock]at hq,by simp,by rw[nC];rfl⟩
 case round =>
 clear yi yt pw;obtain⟨i,Hr,VA,vc,vn,L,k0,cc,last,KB,kn,kc,rfl,rfl,rfl,pf,Yy,rfl,uk,uY,pO,ql,oD,vW,rI,Zd,rh⟩:=hrel;have sr:=Hh rh;have iK:=Hh Zd;have Sd:=Hh Yy;have eL:=Hh pf;clear rh Zd Yy pf
 by_cases uq:i<N
 ·obtain⟨m1,qo⟩:∃ m1,N-i=m1+1:=⟨N-i-1,by omega⟩
  have be:=Hh (show N-(i+1)=m1 by omega);have vM:Hid (va 5 (zj d) N true (l.drop p) cnt none=(va 5 (zj d) (m1+1) (decide (i%2=0)) (l.drop (p+k0)) cc last).pre L k0):=by rw[Hid,sr.out,qo]
  obtain⟨P1,fr⟩:∃ P1,p+k0=P1:=⟨_,rfl⟩
  have ph:=Hh fr;rw[fr]at uk vM;clear fr;have kj:(i:Int)<(N:Int):=by omega
  have IT:=ih wr Hr g A c l P1 cc (lv+1) (hTab.mono uk.grows.le) hlv uk.psr;rw[show((lv+1:Nat):Int)=(lv:Int)+1 by omega]at IT;have ITH:=Hh IT;clear qo sr IT;go_wp2_with fail
  refine ITH.out.mono ?_
  intro e w5 hs
  cases hp:zj d (l.drop P1) cc with
  | err q =>
   rw[hp,ItemOut]at hs;obtain⟨rfl,H5,p5,cnt5,yB⟩:=hs;have nc:((q:Int) != 0)=true:=by rw[bne_iff_ne];have:=yY _ _ _ _ hp;omega
   have kp:((q:Int)=0)=False:=eq_false (by have:=yY _ _ _ _ hp;omega);have E:Hid (ui 5 d n (l.drop p) cnt=.err q):=by rw[Hid,iA.out,vM.out,VR L k0 hp];rfl
   have z8:=uk.trans yB;have yj:=uY.rdg yB (by omega);have tS:=yB.hid pO uY.lt;have hY:=Blk.new w5 57 #[.int .i64 0,.int .u64 0,.slice none 0 0,.slice none 0 0];have kI:H5 w5.heap.size=none:=z8.psr.holds.none_of_ge (Nat.le_refl _);have qH:=Hh yj.lt;have yC:=z8.alloc zg;have yS:=yj.alloc zg;clear ITH hp uk yB uY ql vW rI vM iK z8 yj;go_wp2_with (with_reducible refine zx ?_)
   refine stI hY fun w8 hY8 hg8=>?_
   have vp:=yC.gb kI (Nat.le_of_lt qH.out) yv hg8;have vI:=yS.grown hg8 (by intro e;injection e with e;have:=qH.out;omega);clear yC yS hY hg8 hY8;go_wp2_with (with_reducible refine zx ?_)
   refine stI vI fun wz hTy zT=>?_
   have zQ:=vp.gb tS (Nat.le_refl _) yv zT;go_wp2_with fail
   refine zw rfl rfl hTy rfl rfl zv rfl ?_
   exact ItemOut.err E.out rfl zQ
  | ok x k c1 =>
  rw[hp,ItemOut]at hs;obtain⟨ja,jb,jc,jd,H5,rfl,yB,Yx⟩:=hs;have Yq:=Hh (vR d _ _ _ _ _ hp);have z8:=uk.trans yB;have Mr:=z8.psr.cnt_le;have yj:=uY.rdg yB (by omega);have tS:=yB.hid pO uY.lt;have rK:=ql.rdg yB (by have:=yI.out;omega);have mF:=yB.hid oD ql.lt;have sK:=(vW.rdg yB (by have:=yI.out;omega)).mono yB.grows.le;have og:∀ q,(Value.slice VA L.length vc).ownBlock=some q→H5 q=none:=fun q hq=>yB.hid (rI q hq) (vW.lt q hq).2
  have UL:=Hh yB.grows.le;have hY:=Blk.new w5 57 #[.int .i64 0,.int .u64 0,.slice none 0 0,.slice none 0 0];have kI:H5 w5.heap.size=none:=z8.psr.holds.none_of_ge (Nat.le_refl _);have qH:=Hh (And.intro yj.lt rK.lt);have nZ:=Hh (show ∀ q,(Value.slice VA L.length vc).ownBlock=some q→X+1≤q∧q<w5.heap.size from fun q hq=>sK.lt q hq);have yC:=z8.alloc zg;have yS:=yj.alloc zg;have mM:=rK.alloc zg;have vo:=sK.alloc zg;have uK:=Hh (show L.length≤256 by have:=Yq.out;have:=iK.out;omega);have Uy:=Hh hp;clear ITH hp uk yB uY ql vW rI z8 yj rK sK;go_wp2_with (with_reducible refine zx ?_)
  refine stI hY fun w8 hY8 hg8=>?_
  have vp:=yC.gb kI (Nat.le_of_lt qH.out.1) yv hg8;have vI:=yS.grown hg8 (by intro e;injection e with e;have:=qH.out.1;omega);have tK:=mM.grown hg8 (by intro e;injection e with e;have:=qH.out.2;omega);have lm:=vo.kl hg8 (fun q hv=>by have:=(nZ.out q hv).2;omega);obtain⟨Y1,V8⟩:∃ Y1,w5.heap.size=Y1:=⟨_,rfl⟩
  rw[V8]at hY8 qH kI nZ⊢;have b0:=hY8.cell 0 rfl;have b1:=hY8.cell 1 rfl;have b2:=hY8.cell 2 rfl;have b3:=hY8.cell 3 rfl;clear yC yS mM vo hY hg8 V8;have Qe:=Hh (qW d _ _ _ _ _ Uy.out)
  by_cases hev:i%2=0
  ·have ev1:((i:Int)%2==0)=true:=by rw[beq_iff_eq];omega
   have ev2:((i:Int)%2=0)=True:=eq_true (by omega);have ev3:((i:Int).tmod 2==0)=true:=by rw[beq_iff_eq,Int.tmod_eq_emod_of_nonneg (by omega)];omega
   have ev4:((i:Int).tmod 2=0)=True:=eq_true (by rw[Int.tmod_eq_emod_of_nonneg (by omega)];omega);have cF:=Hh hev;obtain⟨key,rp⟩:∃ key,(l.drop P1).take k=key:=⟨_,rfl⟩
   have jx:=Hh rp;have cG:Hid (key.length≤4096):=by rw[Hid,← rp,List.length_take,List.length_drop];have:=bZ.out;omega
   have Ok:Hid (zZ x=key):=by rw[Hid,← rp];exact Qe.out.enc
   have RW0:=sP x H5 x.kind x.n ja x.bytes.length jb jc x.items.length jd w8 (lv+1) (Qe.out.good (lv+1) (by have:=Xd.out;omega)) (by rw[Ok.out];have:=cG.out;omega) Yx.arg vp.psr.holds;rw[Ok.out]at RW0;have RW:=Hh RW0;clear hev rp RW0;go_wp2_with fail
   refine RW.out.mono ?_
   rintro e w9 ⟨r,rfl,Sr⟩
   obtain⟨KA,kac,rfl,_⟩:=Sr.own.form;obtain⟨H6,zP,om,_⟩:=Fresh.snapB vp.psr.holds Sr;have fj:=vp.grown zP;have eU:=vI.below Sr.2;have UO:=tK.below Sr.2;have bQ:=hY8.below Sr.2;have UM:=(lm.below Sr.2).mono zP.le;have bV:=zP.none tS vI.lt;have T7:=zP.none mF tK.lt;have Za:∀ q,(Value.slice VA L.length vc).ownBlock=some q→H6 q=none:=fun q hq=>zP.none (og q hq) (lm.lt q hq).2
   have PQ:=Yx.mono zP.le;have LK:=Hh (UL.out.trans zP.le);clear RW Sr zP vp vI tK hY8 lm tS mF og b0 b1 b2 b3 Yx;have b0:=bQ.cell 0 rfl;have b1:=bQ.cell 1 rfl;have b2:=bQ.cell 2 rfl;have b3:=bQ.cell 3 rfl
   rcases eL.out with ⟨hiz,rfl⟩ | ⟨hi,lk,rfl,Xa,sZ,Xm⟩
   ·have eX:Hid (sv none ((l.drop P1).take k)=none):=rfl;have XC:¬ ((0:Int)<(i:Int)):=by omega
    have OX:decide ((0:Int)<(i:Int))=false:=decide_eq_false XC;clear hiz
    have eo:Hid ((L++[x]).length≤c1):=by
     have:=Yq.out;have:=iK.out;rw[Hid,List.length_append];simp;omega
    have td:=fj.alloc (.cells (zY x ja jb jc jd).toArray 57);have uM:=eU.alloc (.cells (zY x ja jb jc jd).toArray 57);have oa:=UO.alloc (.cells (zY x ja jb jc jd).toArray 57);have nS:=UM.alloc (.cells (zY x ja jb jc jd).toArray 57);go_wp2_with (at_builtin;refine yf ?_)
    refine xy rfl (.tmp 75) (.tmp 77) rfl (X+1) (.slice VA L.length vc) H6 _ rfl nS _ 1 _ (zY x ja jb jc jd) [x] rfl rfl (ItemsC.one PQ) (Src.new _ _ _ _ rfl _ rfl) (by have:=uK.out;simp;omega) oa.lt fun v' w10 hO10 hg10 hat10=>?_
    obtain⟨VA',vc',rfl,_⟩:=hO10.form;have uI:=uM.grown hg10 (fun e=>by have:=(nZ.out _ e).1;have:=yI.out;omega);have ki:=oa.grown hg10 (fun e=>by have:=(nZ.out _ e).1;omega);have pj:=sp td.psr.holds Za hat10;have uN:=td.grownRow Za (fun q hq=>by have:=(nZ.out q hq).1;have:=yI.out;omega) yv hg10;obtain⟨L',pv⟩:∃ L',L++[x]=L':=⟨_,rfl⟩
    rw[pv]at hO10 pj eo⊢;have eY:=Hh (show va 5 (zj d) N true (l.drop p) cnt none=(va 5 (zj d) m1 (decide ((i+1)%2=0)) (l.drop (p+(k0+k))) c1 (some key)).pre (L++[x]) (k0+k) by rw[vM.out,lJ L k0 Uy.out rfl (by have:=cF.out;simp;omega) eX.out,List.drop_drop,jx.out,← ph.out,Nat.add_assoc,show decide ((i+1)%2=0)=false by have:=cF.out;simp;omega]);rw[pv]at eY;have nJ:L.length+1=L'.length:=by rw[← pv];simp
    try rw[nJ]
    clear pv td uM oa nS hg10 hat10 b0 b1 b2 b3 nJ;have KI:IntKind.u64.wrap ((i:Int)+1)=(i:Int)+1:=by rw[IntKind.wrap_u64];have:=Sf.out;omega
    rw[show P1+k=p+(k0+k) by have:=ph.out;omega]at uN;have rD:=Hh kj;clear kj;go_wp2_with fail
    go_roundw
    case rel=>exact⟨i+1,H6,VA',vc',_,L',k0+k,c1,some key,KA,_,_,by first | rfl | (simp;done) | go_num,rfl,rfl,.inr ⟨by omega,key,rfl,rfl,cG.out,om⟩,by have:=rD.out;omega,rfl,uN,uI,bV,ki,T7,hO10,pj,eo.out,by rw[be.out];exact eY.out⟩
    case measure=>have:=rD.out;simp[intOf];omega
   have XC:(0:Int)<(i:Int):=by omega
   have OX:decide ((0:Int)<(i:Int))=true:=decide_eq_true XC;have CM:=Hh (fun(W:World) (hW:Holds W H6)=>se W KB KA lk key kn key.length kc kac Xa rfl (by omega) (by have:=cG.out;omega) (Src.of_row (Xm.mono LK.out).row hW) (Src.of_row om.row hW));obtain⟨q,hq⟩:∃ q,Lib.compareBytes lk key=q:=⟨_,rfl⟩
   rw[hq]at CM;have HQ:=Hh hq;clear Xa sZ Xm hq
   by_cases nc:q=0
   ·subst nc
    have eX:Hid (sv (some lk) ((l.drop P1).take k)=some 7):=by
     rw[Hid,jx.out,sv,if_pos (by rw[(tU lk key).1 HQ.out];exact uh key)]
    go_wp2_with fail
    refine(CM.out _ fj.psr.holds).mono ?_
    rintro e w10 ⟨rfl,vu⟩
    have tI:=fj.below_ vu;have sE:=eU.below vu;have E:Hid (ui 5 d n (l.drop p) cnt=.err 7):=by rw[Hid,iA.out,vM.out,de L k0 Uy.out rfl (by have:=cF.out;simp;omega) eX.out];rfl
    go_wp2_with (with_reducible refine zx ?_)
    refine stI sE fun wz hTy zT=>?_
    have zQ:=tI.gb bV (Nat.le_refl _) yv zT;go_wp2_with fail
    refine zw rfl rfl hTy rfl rfl zv rfl ?_
    exact ItemOut.err (q:=7) E.out rfl zQ
   have t0:(q==0)=false:=by simpa using nc
   have t0':(q=0)=False:=eq_false nc
   by_cases Z5:q<0
   ·have eX:Hid (sv (some lk) ((l.drop P1).take k)=none):=by
     rw[Hid,jx.out,sv,if_neg (fun h=>nc (by rw[← HQ.out,(tU key lk).1 h];exact uh lk)),if_neg (fun h=>by
      have h1:=HQ.out;have h2:=sH lk key lk (by omega) h;rw[uh]at h2
      omega)]
    have t1:¬ ((0:Int)<q):=by omega
    have t1':decide ((0:Int)<q)=false:=decide_eq_false t1;clear nc Z5;go_wp2_with fail
    refine(CM.out _ fj.psr.holds).mono ?_
    rintro e w10 ⟨rfl,vu⟩
    have tI:=fj.below_ vu;have sE:=eU.below vu;have iF:=UO.below vu;have iG:=bQ.below vu;have iE:=UM.below vu;clear fj eU UO bQ UM vu b0 b1 b2 b3;go_wp2_with fail
    refine(CM.out _ tI.psr.holds).mono ?_
    rintro e w11 ⟨rfl,iI⟩
    have oE:=tI.below_ iI;have o7:=sE.below iI;have bN:=iF.below iI;have iH:=iG.below iI;have bJ:=iE.below iI;clear tI sE iF iG iE iI CM;have b0:=iH.cell 0 rfl;have b1:=iH.cell 1 rfl;have b2:=iH.cell 2 rfl;have b3:=iH.cell 3 rfl
    have eo:Hid ((L++[x]).length≤c1):=by
     have:=Yq.out;have:=iK.out;rw[Hid,List.length_append];simp;omega
    have td:=oE.alloc (.cells (zY x ja jb jc jd).toArray 57);have uM:=o7.alloc (.cells (zY x ja jb jc jd).toArray 57);have oa:=bN.alloc (.cells (zY x ja jb jc jd).toArray 57);have nS:=bJ.alloc (.cells (zY x ja jb jc jd).toArray 57);go_wp2_with (at_builtin;refine yf ?_)
    refine xy rfl (.tmp 75) (.tmp 77) rfl (X+1) (.slice VA L.length vc) H6 _ rfl nS _ 1 _ (zY x ja jb jc jd) [x] rfl rfl (ItemsC.one PQ) (Src.new _ _ _ _ rfl _ rfl) (by have:=uK.out;simp;omega) oa.lt fun v' w10 hO10 hg10 hat10=>?_
    obtain⟨VA',vc',rfl,_⟩:=hO10.form;have uI:=uM.grown hg10 (fun e=>by have:=(nZ.out _ e).1;have:=yI.out;omega);have ki:=oa.grown hg10 (fun e=>by have:=(nZ.out _ e).1;omega);have pj:=sp td.psr.holds Za hat10;have uN:=td.grownRow Za (fun q hq=>by have:=(nZ.out q hq).1;have:=yI.out;omega) yv hg10;obtain⟨L',pv⟩:∃ L',L++[x]=L':=⟨_,rfl⟩
    rw[pv]at hO10 pj eo⊢;have eY:=Hh (show va 5 (zj d) N true (l.drop p) cnt none=(va 5 (zj d) m1 (decide ((i+1)%2=0)) (l.drop (p+(k0+k))) c1 (some key)).pre (L++[x]) (k0+k) by rw[vM.out,lJ L k0 Uy.out rfl (by have:=cF.out;simp;omega) eX.out,List.drop_drop,jx.out,← ph.out,Nat.add_assoc,show decide ((i+1)%2=0)=false by have:=cF.out;simp;omega]);rw[pv]at eY;have nJ:L.length+1=L'.length:=by rw[← pv];simp
    try rw[nJ]
    clear pv td uM oa nS hg10 hat10 b0 b1 b2 b3 nJ;have KI:IntKind.u64.wrap ((i:Int)+1)=(i:Int)+1:=by rw[IntKind.wrap_u64];have:=Sf.out;omega
    rw[show P1+k=p+(k0+k) by have:=ph.out;omega]at uN;have rD:=Hh kj;clear kj;go_wp2_with fail
    go_roundw
    case rel=>exact⟨i+1,H6,VA',vc',_,L',k0+k,c1,some key,KA,_,_,by first | rfl | (simp;done) | go_num,rfl,rfl,.inr ⟨by omega,key,rfl,rfl,cG.out,om⟩,by have:=rD.out;omega,rfl,uN,uI,bV,ki,T7,hO10,pj,eo.out,by rw[be.out];exact eY.out⟩
    case measure=>have:=rD.out;simp[intOf];omega
   have eX:Hid (sv (some lk) ((l.drop P1).take k)=some 6):=by
    rw[Hid,jx.out,sv,if_neg (fun h=>nc (by rw[← HQ.out,(tU key lk).1 h];exact uh lk)),if_pos (nA lk key (by rw[HQ.out];exact nc) (by rw[HQ.out];exact Z5))]
   have t1:(0:Int)<q:=by omega
   have t1':decide ((0:Int)<q)=true:=decide_eq_true t1;clear nc Z5;go_wp2_with fail
   refine(CM.out _ fj.psr.holds).mono ?_
   rintro e w10 ⟨rfl,vu⟩
   have tI:=fj.below_ vu;have sE:=eU.below vu;clear fj eU UO bQ UM vu b0 b1 b2 b3;go_wp2_with fail
   refine(CM.out _ tI.psr.holds).mono ?_
   rintro e w11 ⟨rfl,iI⟩
   have oE:=tI.below_ iI;have o7:=sE.below iI;clear tI sE iI CM;have E:Hid (ui 5 d n (l.drop p) cnt=.err 6):=by rw[Hid,iA.out,vM.out,de L k0 Uy.out rfl (by have:=cF.out;simp;omega) eX.out];rfl
   go_wp2_with (with_reducible refine zx ?_)
   refine stI o7 fun wz hTy zT=>?_
   have zQ:=oE.gb bV (Nat.le_refl _) yv zT;go_wp2_with fail
   refine zw rfl rfl hTy rfl rfl zv rfl ?_
   exact ItemOut.err (q:=6) E.out rfl zQ
  have ev1:((i:Int)%2==0)=false:=by rw[beq_eq_false_iff_ne];omega
  have ev2:((i:Int)%2=0)=False:=eq_false (by omega);have ev3:((i:Int).tmod 2==0)=false:=by rw[beq_eq_false_iff_ne,Int.tmod_eq_emod_of_nonneg (by omega)];omega
  have ev4:((i:Int).tmod 2=0)=False:=eq_false (by rw[Int.tmod_eq_emod_of_nonneg (by omega)];omega);have cF:=Hh hev
  have R4:Hid ((i+1=0∧last=none)∨(0<i+1∧∃ key:List UInt8,last=some key∧kn=key.length∧key.length≤4096∧IsBytes H5 KB kc key)):=by
   rcases eL.out with ⟨hiz,_⟩ | ⟨hi,lk,e1,e2,e3,e4⟩
   ·exact absurd hiz (by omega)
   exact .inr ⟨by omega,lk,e1,e2,e3,e4.mono UL.out⟩
  clear hev
  have eo:Hid ((L++[x]).length≤c1):=by
   have:=Yq.out;have:=iK.out;rw[Hid,List.length_append];simp;omega
  have td:=vp.alloc (.cells (zY x ja jb jc jd).toArray 57);have uM:=vI.alloc (.cells (zY x ja jb jc jd).toArray 57);have oa:=tK.alloc (.cells (zY x ja jb jc jd).toArray 57);have nS:=lm.alloc (.cells (zY x ja jb jc jd).toArray 57);go_wp2_with (at_builtin;refine yf ?_)
  refine xy rfl (.tmp 75) (.tmp 77) rfl (X+1) (.slice VA L.length vc) H5 _ rfl nS _ 1 _ (zY x ja jb jc jd) [x] rfl rfl (ItemsC.one Yx) (Src.new _ _ _ _ rfl _ rfl) (by have:=uK.out;simp;omega) oa.lt fun v' w10 hO10 hg10 hat10=>?_
  obtain⟨VA',vc',rfl,_⟩:=hO10.form;have uI:=uM.grown hg10 (fun e=>by have:=(nZ.out _ e).1;have:=yI.out;omega);have ki:=oa.grown hg10 (fun e=>by have:=(nZ.out _ e).1;omega);have pj:=sp td.psr.holds og hat10;have uN:=td.grownRow og (fun q hq=>by have:=(nZ.out q hq).1;have:=yI.out;omega) yv hg10;obtain⟨L',pv⟩:∃ L',L++[x]=L':=⟨_,rfl⟩
  rw[pv]at hO10 pj eo⊢;have eY:=Hh (show va 5 (zj d) N true (l.drop p) cnt none=(va 5 (zj d) m1 (decide ((i+1)%2=0)) (l.drop (p+(k0+k))) c1 last).pre (L++[x]) (k0+k) by rw[vM.out,Ti L k0 Uy.out (by have:=cF.out;simp;omega),List.drop_drop,← ph.out,Nat.add_assoc,show decide (i%2=0)=false by have:=cF.out;simp;omega,show decide ((i+1)%2=0)=true by have:=cF.out;simp;omega];rfl);rw[pv]at eY;have nJ:L.length+1=L'.length:=by rw[← pv];simp
  try rw[nJ]
  clear pv td uM oa nS hg10 hat10 b0 b1 b2 b3 nJ;have KI:IntKind.u64.wrap ((i:Int)+1)=(i:Int)+1:=by rw[IntKind.wrap_u64];have:=Sf.out;omega
  rw[show P1+k=p+(k0+k) by have:=ph.out;omega]at uN;have rD:=Hh kj;clear kj;go_wp2_with fail
  go_roundw
  case rel=>exact⟨i+1,H5,VA',vc',_,L',k0+k,c1,last,KB,kn,kc,by first | rfl | (simp;done) | go_num,rfl,rfl,R4.out,by have:=rD.out;omega,rfl,uN,uI,tS,ki,mF,hO10,pj,eo.out,by rw[be.out];exact eY.out⟩
  case measure=>have:=rD.out;simp[intOf];omega
 have hm:N=i:=by have:=Sd.out;omega
 subst hm
 have E1:Hid (ui 5 d n (l.drop p) cnt=.ok (.mk 5 0 [] L) k0 cc):=by
  rw[Hid,iA.out,sr.out,Nat.sub_self,va];simp[PL.pre,elR]
 obtain⟨H5,iY,Zf,ul,Zq,rq,rs,nK⟩:=vW.snap uk.psr.holds (fun q hq=>rI q (tH hq));have yN:∀ q,VA.map (·.block)=some q→X+1≤q:=fun q hq=>(vW.lt q (tH hq)).1
 have Xj:H5 w.heap.size=none:=tn ul pO (fun e=>by have:=yN _ e;have:=yI.out;omega);have X6:H5 X=none:=tn ul oD (fun e=>by have:=yN _ e;omega);have z8:Rdg 118 w H wr H5 g A c l (p+k0) cc:=uk.snap (B:=X+1) iY Zf ul yN (by have:=yI.out;omega) yv;have Ut:IsItem H5 none 0 VA vc (.mk 5 0 [] L):=IsRowI.item ⟨rq,rs,nK⟩ 5 (by omega) 0 (by have:=bf.out;omega);clear vW ul nK Zf iY pO oD rI yN uk sr;go_wp2_with (with_reducible refine zx ?_)
 refine zu rfl _ _ _ rfl rfl X 3 (.slice VA L.length vc) rfl rfl _ _ ql xB (by simp) rfl fun w6 rK tO=>?_
 have yC:=z8.gb X6 (Nat.le_of_lt yI.out) yv tO;have yS:=uY.grown tO (by intro e;injection e with e;have:=yI.out;omega);have b0:=rK.cell 0 rfl;have b1:=rK.cell 1 rfl;have b2:=rK.cell 2 rfl;have b3:=rK.cell 3 rfl;clear z8 uY ql tO;go_wp2_with (with_reducible refine zx ?_)
 refine stI yS fun wz hTy zT=>?_
 have zQ:=yC.gb Xj (Nat.le_refl _) yv zT;go_wp2_with fail
 refine zw rfl rfl hTy rfl rfl zv rfl ?_
 exact ItemOut.ok E1.out rfl zQ Ut
end
end Go.Proofs.YtgcjjhibdbafmabGreatDoor
