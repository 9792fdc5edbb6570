/- squeezed. Walks: the reference's Widen, its  -/
import Derived.Test.YtgaoknihklmakabGreatDoorK11
set_option linter.unusedVariables false
set_option linter.unusedSimpArgs false
set_option maxRecDepth 100000
set_option maxHeartbeats 12800000
namespace Go.Proofs.YtgaoknihklmakabGreatDoor
open Go.RowKit
theorem jap{P:Prop}(h:P:=by
 go_wp2_with (at_builtin;refine yq ?_)
 refine yJ rfl (.tmp 75) (.tmp 77) rfl (X+1) (.slice VA L.length vc) H6 _ rfl nY _ 1 _ (ze x ja jb jc jd) [x] rfl rfl (ItemsC.one LE) (Src.new _ _ _ _ rfl _ rfl) (by have:=ef.out;simp;omega) mu.lt fun v' w10 hO10 hg10 hat10=>?_
 obtain⟨VA',vc',rfl,_⟩:=hO10.form;have uD:=xr.grown hg10 (fun e=>by have:=(ld.out _ e).1;have:=yH.out;omega);have iY:=mu.grown hg10 (fun e=>by have:=(ld.out _ e).1;omega);have pJ:=sR tf.psr.holds X3 hat10;have tj:=tf.grownRow X3 (fun q hq=>by have:=(ld.out q hq).1;have:=yH.out;omega) yC hg10;obtain⟨L',oR⟩:∃ L',L++[x]=L':=⟨_,rfl⟩
 rw[oR]at hO10 pJ jW⊢;have kF:=Hh (show vP 5 (zZ d) N true (l.drop p) cnt none=(vP 5 (zZ d) m1 (decide ((i+1)%2=0)) (l.drop (p+(k0+k))) c1 (some key)).pre (L++[x]) (k0+k) by rw[ur.out,jB L k0 Rp.out rfl (by have:=Z0.out;simp;omega) bO.out,List.drop_drop,gX.out,← oF.out,Nat.add_assoc,show decide ((i+1)%2=0)=false by have:=Z0.out;simp;omega]);rw[oR]at kF;have lM:L.length+1=L'.length:=by rw[← oR];simp
 try rw[lM]
 clear oR tf xr mu nY hg10 hat10 b0 b1 b2 b3 lM;have KI:IntKind.u64.wrap ((i:Int)+1)=(i:Int)+1:=by rw[IntKind.wrap_u64];have:=RG.out;omega
 rw[show P1+k=p+(k0+k) by have:=oF.out;omega]at tj;have pW:=Hh iZ;clear iZ;go_wp2_with fail
 go_roundw
 case rel=>exact⟨i+1,H6,VA',vc',_,L',k0+k,c1,some key,KA,_,_,by first | rfl | (simp;done) | go_num,rfl,rfl,.inr ⟨by omega,key,rfl,rfl,em.out,oM⟩,by have:=pW.out;omega,rfl,tj,uD,Yh,iY,PP,hO10,pJ,jW.out,by rw[Yl.out];exact kF.out⟩
 case measure=>have:=pW.out;simp[intOf];omega):P:=h
theorem jat{P:Prop}(h:P:=by
 clear vY ua lN XD bZ rD mL pQ xN td rf;go_wp2_with (with_reducible refine zx ?_)
 refine zu rfl _ _ _ rfl rfl X 3 (.slice VA L.length vc) rfl rfl _ _ pM xJ (by simp) rfl fun w6 pg tg=>?_
 have ux:=xS.gb U1 (Nat.le_of_lt yH.out) yC tg;have vz:=uE.grown tg (by intro e;injection e with e;have:=yH.out;omega);have b0:=pg.cell 0 rfl;have b1:=pg.cell 1 rfl;have b2:=pg.cell 2 rfl;have b3:=pg.cell 3 rfl;clear xS uE pM tg;go_wp2_with (with_reducible refine zx ?_)
 refine stI vz fun wz hTy zS=>?_
 have yl:=ux.gb Rf (Nat.le_refl _) yC zS;exact jeR):P:=h
theorem ja0{P:Prop}(h:P:=by
 rw[oR]at kF;have lM:L.length+1=L'.length:=by rw[← oR];simp
 try rw[lM]
 clear oR tf xr mu nY hg10 hat10 b0 b1 b2 b3 lM;have KI:IntKind.u64.wrap ((i:Int)+1)=(i:Int)+1:=by rw[IntKind.wrap_u64];have:=RG.out;omega
 rw[show P1+k=p+(k0+k) by have:=oF.out;omega]at tj;have pW:=Hh iZ;clear iZ;go_wp2_with fail
 go_roundw
 case rel=>exact⟨i+1,H5,VA',vc',_,L',k0+k,c1,by first | rfl | (simp;done) | go_num,rfl,by have:=pW.out;omega,rfl,tj,uD,sM,iY,kC,hO10,pJ,jW.out,by rw[Yl.out];exact kF.out⟩
 case measure=>have:=pW.out;simp[intOf];omega):P:=h
theorem jbh{P:Prop}(h:P:=by
 have ht:(0:Int)<(m:Int)/(2:Int) ^ (k+1):=by
  rw[lJ];have h1:2 ^ (k+1)≤m:=Nat.le_trans (Nat.pow_le_pow_right (by omega) tF) (Nat.log2_self_le HM.out.1);have:=Nat.div_pos h1 (Nat.two_pow_pos _)
  omega
 clear lJ;have em:=Hh tF;clear tF;go_wp2_with fail
 go_round
 case rel=>exact⟨k+1,em.out,by go_num⟩
 case measure=>have:=em.out;simp[intOf];omega):P:=h
theorem jcz{P:Prop}(h:P:=by
 clear W wu ph pP hM Z8 h0;go_enter Tryz.func134,Tryz.ntmps134
 go_wp2_with fail
 go_ret
 refine⟨?_,rfl⟩
 rw[WW.out,← O2.out];rfl):P:=h
theorem jcF{P:Prop}(h:P:=by
 clear W wu ph pP hM;go_enter Tryz.func134,Tryz.ntmps134
 go_wp2_with fail
 go_ret
 exact⟨by rw[WW.out,← O2.out];rfl,rfl⟩):P:=h
theorem jdd{P:Prop}(h:P:=by
 rw[Hid]
 by_cases h:fl=t
 ·exact .inl h
 exact .inr ⟨by simp;omega,eq_false (by omega),h⟩):P:=h
theorem jdf{P:Prop}(h:P:=by
 rw[lJ];have:m<2 ^ (k+1):=by rw[Up];exact Nat.lt_log2_self
 rw[Nat.div_eq_of_lt this];simp):P:=h
theorem jdP{P:Prop}(h:P:=by
 rw[← B1]at O3
 refine⟨?_,rfl⟩
 rw[WW.out,← RE.out,← O3];rfl):P:=h
theorem jek{P:Prop}(h:P:=by
 go_wp2_with (with_reducible refine zx ?_)
 refine stI vq fun wz hTy zS=>?_
 have yl:=ve.gb yj (Nat.le_refl _) yC zS;exact jaj):P:=h
theorem jeB{P:Prop}(h:P:=by
 go_wp2_with (with_reducible refine zx ?_)
 refine stI vw fun wz hTy zS=>?_
 have yl:=tO.gb yj (Nat.le_refl _) yC zS;exact jaj):P:=h
theorem jeC{P:Prop}(h:P:=by
 go_wp2_with (with_reducible refine zx ?_)
 refine stI vN fun wz hTy zS=>?_
 have yl:=xS.gb sM (Nat.le_refl _) yC zS;exact jaj):P:=h
theorem jeD{P:Prop}(h:P:=by
 go_wp2_with (with_reducible refine zx ?_)
 refine stI vN fun wz hTy zS=>?_
 have yl:=xS.gb sM (Nat.le_refl _) yC zS;exact jbH):P:=h
theorem je5{P:Prop}(h:P:=by have:=WA.out;exact jbm):P:=h
theorem je6{P:Prop}(h:P:=by
 clear W wu ph pP;go_enter Tryz.func134,Tryz.ntmps134
 exact jaZ):P:=h
theorem jfd{P:Prop}(h:P:=by have xS:=td.trans yN;have vN:=uE.rdg yN (by omega);have sM:=yN.hid rD uE.lt;have hY:=Blk.new w5 83 #[.int .i64 0,.int .u64 0,.slice none 0 0,.slice none 0 0];have gu:H5 w5.heap.size=none:=xS.psr.holds.none_of_ge (Nat.le_refl _);have pw:=Hh vN.lt;have ux:=xS.alloc zg;have vz:=vN.alloc zg;clear ITH hp td yN uE pM vY pQ ur ee xS vN;exact jd6):P:=h
theorem jfF{P:Prop}(h:P:=by have KC:IntKind.i64.wrap ((cnt:Int)+1)=(cnt:Int)+1:=IntWalk.i64_in _ (by omega);have HC:=Hh hc;exact And.intro KC HC):P:=h
theorem jfP{P:Prop}(h:P:=by have Rf:H5 w.heap.size=none:=uB ua rD (fun e=>by have:=xN _ e;have:=yH.out;omega);have U1:H5 X=none:=uB ua mL (fun e=>by have:=xN _ e;omega);have xS:Rdg 129 w H wr H5 g A c l (p+k0) cc:=td.snap (B:=X+1) bZ XD ua xN (by have:=yH.out;omega) yC;exact And.intro Rf (And.intro U1 xS)):P:=h
theorem jgg{P:Prop}(h:P:=by have vO:Rdg 129 w H w2 H g _ c l p (cnt+1):=vx.step zM yT hP.le (by have:=HC.out;omega);have tK:=vM.gr zM (by omega);exact And.intro vO tK):P:=h
theorem jgm{P:Prop}(h:P:=by have tO:Rdg 129 w H w5 H g (some ⟨b,off,none⟩) c l (p+1) (cnt+1):=tp.step xT qc sD.out.2.2 (by have:=HC.out;omega);have vw:=uz.gr xT (by omega);exact And.intro tO vw):P:=h
theorem jgo{P:Prop}(h:P:=by have jP:=Hh uj;have sD:=Hh (And.intro xN (And.intro gw qU));have Li:=Hh (show H.cell? ⟨b,off+p,none⟩=some (zT ch) by have h:=uj p qU;rw[e8]at h;exact h);exact And.intro jP (And.intro sD Li)):P:=h
theorem jgx{P:Prop}(h:P:=by have gZ:Blk (w2.drewN nq) w.heap.size 83 #[.int .i64 0,.int .u64 0,.slice none 0 0,.slice none 0 0]:=tK;exact gZ):P:=h
theorem jgK{P:Prop}(h:P:=by have xL:decide ((256:Int)≤(cnt:Int))=false:=decide_eq_false wU;exact xL):P:=h
theorem jgN{P:Prop}(h:P:=by have O2:Hid (bits .or .u64 (bits .or .u64 (S:Int) 9218868437227405312) (M:Int)=((S+2047*4503599627370496+M:Nat):Int)):=nW (s:=s) HS.out wu (by omega) (by omega) rfl;exact O2):P:=h
theorem jg7{P:Prop}(h:P:=by have KLV:IntKind.i64.wrap ((lv:Int)+1)=(lv:Int)+1:=IntWalk.i64_in _ (by omega);exact KLV):P:=h
theorem jg9{P:Prop}(h:P:=by have i6:=vO.psr.le;have a0:=vO.psr.blk.cell 0 rfl;have a1:=vO.psr.blk.cell 1 rfl;exact And.intro i6 (And.intro a0 a1)):P:=h
theorem jhb{P:Prop}(h:P:=by have IT:=ih wr Hr g A c l P1 cc (lv+1) (hTab.mono td.grows.le) hlv td.psr;exact IT):P:=h
theorem jhc{P:Prop}(h:P:=by have z0':decide (((l.length:Nat):Int)≤(p:Int))=false:=decide_eq_false z0;exact z0'):P:=h
theorem jhe{P:Prop}(h:P:=by have ef:=Hh (show L.length≤256 by have:=WA.out;have:=ee.out;omega);exact ef):P:=h
theorem jhO{P:Prop}(h:P:=by have yl:=ul.gb yj (Nat.le_refl _) yC zS;exact yl):P:=h
theorem VI:∀ X:Fin 64,bits .and .i64 ((X.val:Nat):Int) 31=((X.val%32:Nat):Int):=by decide
theorem Xm:∀ X:Fin 512,bits .and .i64 ((X.val:Nat):Int) 255=((X.val%256:Nat):Int):=by decide +kernel
theorem No {s e:Nat}(hs:s≤1) (he:e<9223372036854775808):bits .or .u64 ((s*9223372036854775808:Nat):Int) (e:Int)=((s*9223372036854775808+e:Nat):Int):=pj s 63 e he (by simp only[Nat.reducePow];omega)
theorem Nn {s y m:Nat}(hs:s≤1) (hy:y<2048) (hm:m<4503599627370496):bits .or .u64 ((s*9223372036854775808+y*4503599627370496:Nat):Int) (m:Int)=((s*9223372036854775808+y*4503599627370496+m:Nat):Int):=by
 have h:=pj (s*2048+y) 52 m hm (by simp only[Nat.reducePow];omega);rw[show(s*2048+y)*2 ^ 52=s*9223372036854775808+y*4503599627370496 by simp only[Nat.reducePow];omega]at h
 exact h
theorem nW {S s y m:Nat}{Y:Int}(hS:s*9223372036854775808=S) (hs:s≤1) (hy:y<2048) (hm:m<4503599627370496) (hY:Y=((y*4503599627370496:Nat):Int)) :
  bits .or .u64 (bits .or .u64 (S:Int) Y) (m:Int)=((S+y*4503599627370496+m:Nat):Int):=by
 rw[hY,← hS,No hs (by omega),Nn hs hy hm]
theorem Wu {m k:Nat}(h0:m≠0) (hk:k=m.log2) (hm:m<8388608):bits .and .u64 (IntKind.u64.wrap ((m:Int)*(2:Int) ^ (52-k))) 4503599627370495=((m*2 ^ (52-k)-4503599627370496:Nat):Int)∧m*2 ^ (52-k)-4503599627370496<4503599627370496:=by
 subst hk;have hl:m.log2≤52:=by have:=(Nat.log2_lt h0).2 (show m<2 ^ 23 by omega);omega
 obtain⟨a,b⟩:=pS (Nat.log2_self_le h0) Nat.lt_log2_self hl;have e:(m:Int)*(2:Int) ^ (52-m.log2)=((m*2 ^ (52-m.log2):Nat):Int):=by rw[Int.natCast_mul,Int.natCast_pow];rfl
 rw[e];obtain⟨F,hF⟩:∃ F,m*2 ^ (52-m.log2)=F:=⟨_,rfl⟩
 rw[hF]at a b⊢;rw[IntWalk.u64_in _ (by omega)];have h:=uC F 52 (by omega) (by omega)
 exact⟨by rw[show(4503599627370495:Int)=((2 ^ 52-1:Nat):Int) from rfl,h];simp only[Nat.reducePow];omega,by omega⟩
theorem Zn (v:Nat) (hv:v<65536) (w:World) :
  Calls Tryz.prog 134 #[.int .u64 (v:Int),.int .i64 5,.int .i64 10] w fun e w'=>e=.returned (.int .u64 (wS v:Int))∧w'=w:=by
 have A1:bits .and .u64 (v:Int) 1023=((v%1024:Nat):Int):=uC v 10 (by omega) (by omega);obtain⟨u,hu⟩:∃ u,v/1024=u:=⟨_,rfl⟩
 have A2:bits .and .i64 (u:Int) 31=((u%32:Nat):Int):=VI ⟨u,by omega⟩;have Q0:u%32=v/1024%32:=by rw[hu]
 rw[Q0]at A2;obtain⟨s,hs⟩:∃ s,v/32768=s:=⟨_,rfl⟩
 obtain⟨x,hx⟩:∃ x,v/1024%32=x:=⟨_,rfl⟩
 obtain⟨m,hm⟩:∃ m,v%1024=m:=⟨_,rfl⟩
 have wu:s≤1:=by omega
 have ph:x≤31:=by omega
 have pP:m<1024:=by omega
 have W:=Hh (show wS v=(if x=31 then s*9223372036854775808+9218868437227405312+m*4398046511104
  else if x=0 then(if m=0 then s*9223372036854775808 else s*9223372036854775808+(999+m.log2)*4503599627370496+(m*2 ^ (52-m.log2)-4503599627370496))
  else s*9223372036854775808+(x+1008)*4503599627370496+m*4398046511104) by rw[wS,hs,hx,hm])
 rw[hm]at A1;rw[hx]at A2;have S1:(v:Int)/32768=(s:Int):=by omega
 have S2:(v:Int)/1024=(u:Int):=by omega
 have K1:IntKind.i64.wrap (u:Int)=(u:Int):=IntWalk.i64_in _ (by omega);have HX:=Hh (And.intro wu (And.intro ph pP));obtain⟨S,hS⟩:∃ S,s*9223372036854775808=S:=⟨_,rfl⟩
 have KS:IntKind.u64.wrap ((s:Int)*9223372036854775808)=(S:Int):=by rw[IntWalk.u64_in _ (by omega)];omega
 rw[hS]at W;have HS:=Hh hS;have Hf:=Hh (show s≤1∧x≤31∧m<1024 from⟨wu,ph,pP⟩);clear hs hx hm hv hu Q0 hS HX
 by_cases Z8:x=31
 ·subst Z8;obtain⟨M,hM⟩:∃ M,m*4398046511104=M:=⟨_,rfl⟩
  have KM:IntKind.u64.wrap ((m:Int)*4398046511104)=(M:Int):=by rw[IntWalk.u64_in _ (by omega)];omega
  have O2:=jgN;have WW:Hid (wS v=S+2047*4503599627370496+M):=by rw[Hid,W.out,if_pos rfl,hM]
  exact jcF
 have x31:((x:Int)==31)=false:=by simp;omega
 have x31':((x:Int)=31)=False:=eq_false (by omega)
 by_cases h0:x=0
 ·subst h0
  by_cases gz:m=0
  ·subst gz;have WW:Hid (wS v=S):=by rw[Hid,W.out,if_neg (by omega),if_pos rfl,if_pos rfl]
   exact je6
  have m0:((m:Int)==0)=false:=by simp;omega
  have m0':((m:Int)=0)=False:=eq_false (by omega);have U9:m.log2≤9:=by have:=(Nat.log2_lt gz).2 (show m<2 ^ 10 by omega);omega
  have WW:Hid (wS v=S+(999+m.log2)*4503599627370496+(m*2 ^ (52-m.log2)-4503599627370496)):=by rw[Hid,W.out,if_neg (by omega),if_pos rfl,if_neg gz]
  have HM:=Hh (And.intro gz (And.intro pP U9));clear W wu ph pP gz U9;go_enter Tryz.func134,Tryz.ntmps134
  go_wp2_with fail
  go_loop [12] (fun v12=>∃ k:Nat,k≤m.log2∧v12=.int .i64 (k:Int)) (fun v12=>m.log2-(intOf v12).toNat)
  case atStart=>exact⟨0,Nat.zero_le _,rfl⟩
  case round =>
  obtain⟨k,hk,rfl⟩:=hrel;have F5:(k:Int)≤9:=by have:=HM.out.2.2;omega
  have qf:(0:Int)≤(k:Int)+1:=by omega
  have lZ:((k:Int)+1).toNat=k+1:=by omega
  have lJ:(m:Int)/(2:Int) ^ (k+1)=((m/2 ^ (k+1):Nat):Int):=by rw[Int.natCast_ediv,Int.natCast_pow];rfl
  have HK:=Hh hk;clear hk
  by_cases tF:k<m.log2
  ·exact jbh
  have Up:k=m.log2:=by have:=HK.out;omega
  have ht:¬ ((0:Int)<(m:Int)/(2:Int) ^ (k+1)):=by
   exact jdf
  clear lJ;have RE:=Hh Up;clear tF Up;go_wp2_with fail
  go_ret
  obtain⟨B1,B2⟩:=Wu HM.out.1 RE.out (by have:=HM.out.2.1;omega);have O3:=nW (S:=S) (s:=s) (y:=999+k) (Y:=((k:Int)+1-15-10+1023)*4503599627370496) HS.out Hf.out.1 (by omega) B2 (by omega);exact jdP
 have x0:((x:Int)==0)=false:=by simp;omega
 have x0':((x:Int)=0)=False:=eq_false (by omega);obtain⟨M,hM⟩:∃ M,m*4398046511104=M:=⟨_,rfl⟩
 have KM:IntKind.u64.wrap ((m:Int)*4398046511104)=(M:Int):=by rw[IntWalk.u64_in _ (by omega)];omega
 have O2:Hid (bits .or .u64 (bits .or .u64 (S:Int) (((x:Int)-15+1023)*4503599627370496)) (M:Int)=((S+(x+1008)*4503599627370496+M:Nat):Int)):=nW (s:=s) HS.out wu (by omega) (by omega) (by omega);have WW:Hid (wS v=S+(x+1008)*4503599627370496+M):=by rw[Hid,W.out,if_neg Z8,if_neg h0,hM]
 have nE:(x:Int)≤31:=by omega
 exact jcz
theorem Zp (v:Nat) (hv:v<4294967296) (w:World) :
  Calls Tryz.prog 134 #[.int .u64 (v:Int),.int .i64 8,.int .i64 23] w fun e w'=>e=.returned (.int .u64 (vK v:Int))∧w'=w:=by
 have A1:bits .and .u64 (v:Int) 8388607=((v%8388608:Nat):Int):=uC v 23 (by omega) (by omega);obtain⟨u,hu⟩:∃ u,v/8388608=u:=⟨_,rfl⟩
 have A2:bits .and .i64 (u:Int) 255=((u%256:Nat):Int):=Xm ⟨u,by omega⟩;have Q0:u%256=v/8388608%256:=by rw[hu]
 rw[Q0]at A2;obtain⟨s,hs⟩:∃ s,v/2147483648=s:=⟨_,rfl⟩
 obtain⟨x,hx⟩:∃ x,v/8388608%256=x:=⟨_,rfl⟩
 obtain⟨m,hm⟩:∃ m,v%8388608=m:=⟨_,rfl⟩
 have wu:s≤1:=by omega
 have ph:x≤255:=by omega
 have pP:m<8388608:=by omega
 have W:=Hh (show vK v=(if x=255 then s*9223372036854775808+9218868437227405312+m*536870912
  else if x=0 then(if m=0 then s*9223372036854775808 else s*9223372036854775808+(874+m.log2)*4503599627370496+(m*2 ^ (52-m.log2)-4503599627370496))
  else s*9223372036854775808+(x+896)*4503599627370496+m*536870912) by rw[vK,hs,hx,hm])
 rw[hm]at A1;rw[hx]at A2;have S1:(v:Int)/2147483648=(s:Int):=by omega
 have S2:(v:Int)/8388608=(u:Int):=by omega
 have K1:IntKind.i64.wrap (u:Int)=(u:Int):=IntWalk.i64_in _ (by omega);have HX:=Hh (And.intro wu (And.intro ph pP));obtain⟨S,hS⟩:∃ S,s*9223372036854775808=S:=⟨_,rfl⟩
 have KS:IntKind.u64.wrap ((s:Int)*9223372036854775808)=(S:Int):=by rw[IntWalk.u64_in _ (by omega)];omega
 rw[hS]at W;have HS:=Hh hS;have Hf:=Hh (show s≤1∧x≤255∧m<8388608 from⟨wu,ph,pP⟩);clear hs hx hm hv hu Q0 hS HX
 by_cases Z8:x=255
 ·subst Z8;obtain⟨M,hM⟩:∃ M,m*536870912=M:=⟨_,rfl⟩
  have KM:IntKind.u64.wrap ((m:Int)*536870912)=(M:Int):=by rw[IntWalk.u64_in _ (by omega)];omega
  have O2:=jgN;have WW:Hid (vK v=S+2047*4503599627370496+M):=by rw[Hid,W.out,if_pos rfl,hM]
  exact jcF
 have x31:((x:Int)==255)=false:=by simp;omega
 have x31':((x:Int)=255)=False:=eq_false (by omega)
 by_cases h0:x=0
 ·subst h0
  by_cases gz:m=0
  ·subst gz;have WW:Hid (vK v=S):=by rw[Hid,W.out,if_neg (by omega),if_pos rfl,if_pos rfl]
   exact je6
  have m0:((m:Int)==0)=false:=by simp;omega
  have m0':((m:Int)=0)=False:=eq_false (by omega);have U9:m.log2≤22:=by have:=(Nat.log2_lt gz).2 (show m<2 ^ 23 by omega);omega
  have WW:Hid (vK v=S+(874+m.log2)*4503599627370496+(m*2 ^ (52-m.log2)-4503599627370496)):=by rw[Hid,W.out,if_neg (by omega),if_pos rfl,if_neg gz]
  have HM:=Hh (And.intro gz (And.intro pP U9));clear W wu ph pP gz U9;go_enter Tryz.func134,Tryz.ntmps134
  go_wp2_with fail
  go_loop [12] (fun v12=>∃ k:Nat,k≤m.log2∧v12=.int .i64 (k:Int)) (fun v12=>m.log2-(intOf v12).toNat)
  case atStart=>exact⟨0,Nat.zero_le _,rfl⟩
  case round =>
  obtain⟨k,hk,rfl⟩:=hrel;have F5:(k:Int)≤22:=by have:=HM.out.2.2;omega
  have qf:(0:Int)≤(k:Int)+1:=by omega
  have lZ:((k:Int)+1).toNat=k+1:=by omega
  have lJ:(m:Int)/(2:Int) ^ (k+1)=((m/2 ^ (k+1):Nat):Int):=by rw[Int.natCast_ediv,Int.natCast_pow];rfl
  have HK:=Hh hk;clear hk
  by_cases tF:k<m.log2
  ·exact jbh
  have Up:k=m.log2:=by have:=HK.out;omega
  have ht:¬ ((0:Int)<(m:Int)/(2:Int) ^ (k+1)):=by
   exact jdf
  clear lJ;have RE:=Hh Up;clear tF Up;go_wp2_with fail
  go_ret
  obtain⟨B1,B2⟩:=Wu HM.out.1 RE.out (by have:=HM.out.2.1;omega);have O3:=nW (S:=S) (s:=s) (y:=874+k) (Y:=((k:Int)+1-127-23+1023)*4503599627370496) HS.out Hf.out.1 (by omega) B2 (by omega);exact jdP
 have x0:((x:Int)==0)=false:=by simp;omega
 have x0':((x:Int)=0)=False:=eq_false (by omega);obtain⟨M,hM⟩:∃ M,m*536870912=M:=⟨_,rfl⟩
 have KM:IntKind.u64.wrap ((m:Int)*536870912)=(M:Int):=by rw[IntWalk.u64_in _ (by omega)];omega
 have O2:Hid (bits .or .u64 (bits .or .u64 (S:Int) (((x:Int)-127+1023)*4503599627370496)) (M:Int)=((S+(x+896)*4503599627370496+M:Nat):Int)):=nW (s:=s) HS.out wu (by omega) (by omega) (by omega);have WW:Hid (vK v=S+(x+896)*4503599627370496+M):=by rw[Hid,W.out,if_neg Z8,if_neg h0,hM]
 have nE:(x:Int)≤255:=by omega
 exact jcz
theorem gH {w:World}{g:Nat}{H:Snap}{A:Option Addr}{c:Nat}{l:List UInt8}{p cnt:Nat}(hP:Psr 129 w g H A c l p cnt) (z:Nat) (qV:1≤z) (WS:z≤8) :
  Calls Tryz.prog 113 #[.pointer (some ⟨g,0,none⟩),.int .i64 (z:Int)] w (WU 129 w g A c l p cnt z):=by
 have hB:=hP.blk;have c0:=jf8;have c1:=jgG;have HP:=Hh hP;have i6:=hP.le;have mT:=hP.small;have rE:=hP.bytes.le;have mv:=hP.bytes.max;have HZ:=Hh (And.intro qV WS);have NR:(z:Int)≤8:=by omega
 have ZE:(p:Int)≤(l.length:Int):=by omega
 have Rz:(l.length:Int)≤4096:=by omega
 have K0:=jhG
 by_cases zB:l.length<p+z
 ·have z0:(l.length:Int)-(p:Int)<(z:Int):=by omega
  have HL:=Hh zB;clear qV WS i6 mT rE mv hP zB;go_enter Tryz.func113,Tryz.ntmps113
  exact jcU
 have z0:¬ ((l.length:Int)-(p:Int)<(z:Int)):=by omega
 have z0b:decide ((l.length:Int)-(p:Int)<(z:Int))=false:=decide_eq_false z0;obtain⟨b,off,rfl,yF⟩:=hP.bytes.at_ (by omega);have HC:=Hh yF;have HH:=Hh hP.holds;have HL:=Hh (And.intro (Nat.not_lt.1 zB) (And.intro mT rE));clear qV WS i6 mT rE mv hP yF zB;go_enter Tryz.func113,Tryz.ntmps113
 go_wp2_with fail
 go_big_quiet (fail)
 obtain⟨W,hW⟩:∃ W,w.drewN nq=W:=⟨_,rfl⟩
 have Mv:Blk W g 129 (rQ (some ⟨b,off,none⟩) l.length c p cnt):=hW ▸ hB;have Ly:w.grownBy W (some g):=hW ▸ vg (yt w _) _;have JE:Holds W H:=hW ▸ HH.out;rw[hW];clear hW c0 c1 hB K0;go_wp2_with fail
 have E:Hid ((l.drop p).length=l.length-p):=List.length_drop;go_loopw [6,20] (fun v6 v20 wr=>∃ k:Nat,k≤z∧v20=.int .i64 (k:Int)∧v6=.int .u64 (beN ((l.drop p).take k):Int)∧Blk wr g 129 (rQ (some ⟨b,off,none⟩) l.length c (p+k) cnt)∧w.grownBy wr (some g)∧Holds wr H) (fun _ v20 _=>z-(intOf v20).toNat)
 case atStart=>exact⟨0,Nat.zero_le _,rfl,rfl,Mv,Ly,JE⟩
 case round =>
 clear Mv Ly JE;obtain⟨k,hk,rfl,rfl,eu,pN,vv⟩:=hrel
 by_cases IU:k<z
 ·have tF:p+k<l.length:=by have:=HL.out.1;omega
  have G4:(k:Int)<(z:Int):=by omega
  have gw:k<(l.drop p).length:=by have:=E.out;omega
  have q0:=vv.cell (HC.out (p+k) tF);have ex:(l.drop p)[k]=l[p+k]:=by rw[List.getElem_drop]
  have hX:=j4 (l.drop p) k (by have:=HZ.out;omega);have hS:=aE (l.drop p) k gw;rw[ex]at hS;obtain⟨X,nZ⟩:∃ X,beN ((l.drop p).take k)=X:=⟨_,rfl⟩
  obtain⟨ch,e8⟩:∃ ch,l[p+k]=ch:=⟨_,rfl⟩
  rw[nZ]at hX hS⊢;rw[e8]at hS q0;obtain⟨P,Oy⟩:∃ P,p+k=P:=⟨_,rfl⟩
  rw[Oy]at q0 eu tF;have lc:=ch.toNat_lt;have K2:IntKind.u64.wrap ((X:Int)*256)=(X:Int)*256:=by rw[IntKind.wrap_u64];omega
  have K3:=jhU;have HS:=Hh hS;have Gl:=Hh Oy;have hPi:(P:Int)<(l.length:Int):=by omega
  have Pk:(0:Int)≤(P:Int):=by omega
  have K4:IntKind.i64.wrap ((P:Int)+1)=(P:Int)+1:=IntWalk.i64_in _ (by omega);have rX:(k:Int)+1≤9223372036854775807:=by have:=HZ.out;omega
  have c0:=eu.cell 0 rfl;have c1:=eu.cell 1 rfl;clear hX hS nZ e8 ex gw Oy tF;go_wp2_with fail
  go_big_quiet (fail)
  obtain⟨W2,M9⟩:∃ W2,wr.drewN nq=W2:=⟨_,rfl⟩
  have yT:Blk W2 g 129 (rQ (some ⟨b,off,none⟩) l.length c P cnt):=M9 ▸ eu;have zM:w.grownBy W2 (some g):=M9 ▸ vg pN _;have nB:Holds W2 H:=M9 ▸ vv;rw[M9];clear M9 c0 c1 eu pN vv q0;have c1:=yT.cell 1 rfl;go_wp2_with (with_reducible refine zx ?_)
  refine zu rfl _ _ _ rfl rfl g 1 (.int .i64 ((P:Int)+1)) rfl rfl _ _ yT yp (by simp) rfl fun w3 vL yY=>?_
  have xj:=yu zM yY (.inl rfl);have Pi:Holds w3 H:=nB.grown yY (by rintro q ⟨⟩;exact HP.out.apart)
  have lR:Blk w3 g 129 (rQ (some ⟨b,off,none⟩) l.length c (p+(k+1)) cnt):=by
   have e:((p+(k+1):Nat):Int)=(P:Int)+1:=by have:=Gl.out;omega
   rw[rQ,e]
   exact vL
  clear vL yY yT zM nB c1 K4;go_wp2_with fail
  go_roundw
  case rel=>exact⟨k+1,by omega,by go_num,by rw[HS.out,Int.natCast_add,Int.natCast_mul];rfl,lR,xj,Pi⟩
  case measure=>simp[intOf];omega
 have WM:k=z:=by omega
 subst WM;have kK:¬ ((k:Int)<(k:Int)):=by omega
 obtain⟨X,nZ⟩:∃ X,beN ((l.drop p).take k)=X:=⟨_,rfl⟩
 rw[nZ];have HX:=Hh nZ;clear nZ;go_wp2_with fail
 go_ret2
 exact .inr ⟨HL.out.1,by rw[HX.out];rfl,eu,pN⟩
theorem Vw {v:Nat}(hv:v<65536):wS v<18446744073709551616:=by
 by_cases hn:v/1024%32=31∧v%1024≠0
 ·rw[wS,if_pos hn.1];omega
 exact(p9 hv hn).2
theorem Vx {v:Nat}(hv:v<4294967296):vK v<18446744073709551616:=by
 by_cases hn:v/8388608%256=255∧v%8388608≠0
 ·rw[vK,if_pos hn.1];omega
 exact(pA hv hn).2
def tr (low:Nat) (b:List UInt8) (c:Nat):PR :=
 if low<24 then(match yL low low with | .error e=>.err e | .ok x=>.ok x 0 c)
 else if b.length<2 ^ (low-24) then .err 2
 else match yL low (beN (b.take (2 ^ (low-24)))) with | .error e=>.err e | .ok x=>.ok x (2 ^ (low-24)) c
theorem am:(Tryz.prog.info? 64).map (·.size)=some 1:=by kernel_rfl
section
variable {w:World} {H:Snap} {g:Nat} {A:Option Addr} {c:Nat} {l:List UInt8} {p cnt:Nat}
theorem eN (hP:Psr 129 w g H A c l p cnt) (low:Nat) (tZ:low<24):Calls Tryz.prog 112 #[.pointer (some ⟨g,0,none⟩),.int .i64 (low:Int)] w (ItemOut 129 w H g A c l p (tr low (l.drop p) cnt)):=by
 obtain⟨yC,vx,vM,yj⟩:=jfx;have E:Hid (tr low (l.drop p) cnt=.ok (.mk 7 low [] []) 0 cnt):=by rw[Hid,tr,if_pos tZ,yL,if_pos tZ]
 have z24:(low:Int)<24:=by omega
 have KU:IntKind.u64.wrap (low:Int)=(low:Int):=by rw[IntKind.wrap_u64];omega
 have HL:=Hh tZ;clear tZ;go_enter Tryz.func112,Tryz.ntmps112
 go_wp2_with (with_reducible refine zx ?_)
 refine stI vM fun wz hTy zS=>?_
 have yl:=vx.gb yj (Nat.le_refl _) yC zS;go_wp2_with fail
 refine zw rfl rfl hTy rfl rfl zt rfl ?_
 exact ItemOut.ok (ja:=none) (jb:=0) (jc:=none) (jd:=0) E.out rfl yl (IsItem.plain _ 7 low (by omega) (by have:=HL.out;omega))
theorem cD (hP:Psr 129 w g H A c l p cnt):Calls Tryz.prog 112 #[.pointer (some ⟨g,0,none⟩),.int .i64 24] w (ItemOut 129 w H g A c l p (tr 24 (l.drop p) cnt)):=by
 obtain⟨yC,vx,vM,yj⟩:=jfx;have E0:Hid (tr 24 (l.drop p) cnt=if(l.drop p).length<1 then .err 2 else match yL 24 (beN ((l.drop p).take 1)) with | .error e=>.err e | .ok x=>.ok x 1 cnt):=by rw[Hid,tr,if_neg (by omega)]
 have NM:=Hh (gH vx.psr 1 (by omega) (by omega));have HC:=Hh hP.cnt_le;go_enter Tryz.func112,Tryz.ntmps112
 go_wp2_with fail
 refine NM.out.mono ?_
 rintro e w3 (⟨hs,rfl,vL,yY⟩ | ⟨hs,rfl,vL,yY⟩)
 ·have E:Hid (tr 24 (l.drop p) cnt=.err 2):=by rw[Hid,E0.out,if_pos (by rw[List.length_drop];have:=hP.le;omega)]
  have ve:Rdg 129 w H w3 H g A c l p cnt:=vx.step yY vL hP.le HC.out;have vq:=vM.gr yY (by omega);clear NM hs vx vM vL yY;exact jek
 have ve:Rdg 129 w H w3 H g A c l (p+1) cnt:=vx.step yY vL hs HC.out;have vq:=vM.gr yY (by omega);have E1:Hid (tr 24 (l.drop p) cnt=match yL 24 (beN ((l.drop p).take 1)) with | .error e=>.err e | .ok x=>.ok x 1 cnt):=by rw[Hid,E0.out,if_neg (by rw[List.length_drop];omega)]
 have nD:=rS ((l.drop p).take 1);have kK:((l.drop p).take 1).length=1:=by rw[List.length_take,List.length_drop];omega
 rw[kK]at nD
 simp only[Nat.reducePow]at nD
 have Tl:=fun x h=>(qn (low:=24) (x:=x) (t:=(l.drop p).take 1) (by omega) (fun h=>by omega) (fun _=>⟨by rw[kK],rfl⟩) h).2.2.1
 obtain⟨n,hn⟩:∃ n,beN ((l.drop p).take 1)=n:=⟨_,rfl⟩
 rw[hn]at E1 nD Tl⊢;have HN:=Hh nD;have Gw:=Hh Tl;clear NM hs vx vM vL yY E0 hn kK nD Tl;obtain⟨iL,tp,uz,yH,Rw⟩:=jf6;clear ve vq;go_wp2_with (with_reducible refine zx ?_)
 refine stI iL fun w4 lX rW=>?_
 obtain⟨tO,vw⟩:=jgF;clear tp uz iL rW;obtain⟨X,nZ⟩:∃ X,w3.heap.size=X:=⟨_,rfl⟩
 rw[nZ]at lX Rw yH⊢;clear nZ
 by_cases UQ:n<32
 ·have z32:(n:Int)<32:=by omega
  have E:Hid (tr 24 (l.drop p) cnt=.err 4):=by rw[Hid,E1.out,yL,if_neg (by omega),if_pos rfl,if_pos UQ]
  clear UQ;exact jeB
 have z32:¬ ((n:Int)<32):=by omega
 have E:Hid (tr 24 (l.drop p) cnt=.ok (.mk 7 n [] []) 1 cnt):=by rw[Hid,E1.out,yL,if_neg (by omega),if_pos rfl,if_neg UQ]
 clear UQ;go_wp2_with (with_reducible refine zx ?_)
 refine stI vw fun wz hTy zS=>?_
 have yl:=tO.gb yj (Nat.le_refl _) yC zS;go_wp2_with fail
 refine zw rfl rfl hTy rfl rfl zt rfl ?_
 exact ItemOut.ok (ja:=none) (jb:=0) (jc:=none) (jd:=0) E.out rfl yl (IsItem.plain _ 7 n (by omega) (by have:=HN.out;omega))
theorem fG (hP:Psr 129 w g H A c l p cnt) (low:Nat) (Yp:25≤low) (jY:low≤27):Calls Tryz.prog 112 #[.pointer (some ⟨g,0,none⟩),.int .i64 (low:Int)] w (ItemOut 129 w H g A c l p (tr low (l.drop p) cnt)):=by
 obtain⟨yC,vx,vM,yj⟩:=jfx
 obtain⟨s,t,u,k1,k2,B,HW⟩:∃ (s t:Nat) (u k1 k2:Int) (B:Nat),(low=25∧s=2∧t=3∧u=3∧k1=5∧k2=10∧B=65536)∨(low=26∧s=4∧t=5∧u=5∧k1=8∧k2=23∧B=4294967296)∨(low=27∧s=8∧t=9∧u=9∧k1=0∧k2=0∧B=18446744073709551616):=by
  rcases(by omega:low=25∨low=26∨low=27) with rfl | rfl | rfl
  ·exact⟨2,3,3,5,10,_,.inl ⟨rfl,rfl,rfl,rfl,rfl,rfl,rfl⟩⟩
  ·exact⟨4,5,5,8,23,_,.inr (.inl ⟨rfl,rfl,rfl,rfl,rfl,rfl,rfl⟩)⟩
  exact⟨8,9,9,0,0,_,.inr (.inr ⟨rfl,rfl,rfl,rfl,rfl,rfl,rfl⟩)⟩
 have kL:2 ^ (low-24)=s:=by rcases HW with ⟨rfl,rfl,_⟩ | ⟨rfl,rfl,_⟩ | ⟨rfl,rfl,_⟩ <;> simp only[Nat.reduceSub,Nat.reducePow]
 have Pz:256 ^ s=B:=by rcases HW with ⟨_,rfl,_,_,_,_,rfl⟩ | ⟨_,rfl,_,_,_,_,rfl⟩ | ⟨_,rfl,_,_,_,_,rfl⟩ <;> simp only[Nat.reducePow]
 obtain⟨n,hn⟩:∃ n,beN ((l.drop p).take s)=n:=⟨_,rfl⟩
 have E0:tr low (l.drop p) cnt=if(l.drop p).length<s then .err 2 else match yL low n with | .error e=>.err e | .ok x=>.ok x s cnt:=by rw[tr,if_neg (by omega),kL,hn]
 have EF:Hid (l.length<p+s→tr low (l.drop p) cnt=.err 2):=fun h=>by rw[E0,if_pos (by rw[List.length_drop];have:=hP.le;omega)]
 have NB:Hid (p+s≤l.length→n<B):=fun h=>by
  have nD:=rS ((l.drop p).take s);rw[hn,show((l.drop p).take s).length=s by rw[List.length_take,List.length_drop];omega,Pz]at nD
  exact nD
 obtain⟨D,hD⟩:∃ D,uN low n=D:=⟨_,rfl⟩
 obtain⟨fl,e9⟩:∃ fl,(zO D).length=fl:=⟨_,rfl⟩
 obtain⟨nn,iQ⟩:∃ nn,isNaN D=nn:=⟨_,rfl⟩
 obtain⟨bb,Ys⟩:∃ bb,(D != ym)=bb:=⟨_,rfl⟩
 have E2:yL low n=if(nn&&bb)||fl != t then .error 4 else .ok (.mk 8 D [] []):=by
  rw[lC low n Yp,hD,iQ,Ys,e9,kL,show 1+s=t by omega]
 have EE:Hid (p+s≤l.length→((nn&&bb)=true∨fl≠t)→tr low (l.drop p) cnt=.err 4):=fun h h1=>by
  rw[E0,if_neg (by rw[List.length_drop];omega),E2,if_pos (by simpa using h1)]
 have EO:Hid (p+s≤l.length→(nn&&bb)=false→fl=t→tr low (l.drop p) cnt=.ok (.mk 8 D [] []) s cnt):=fun h h1 h2=>by
  rw[E0,if_neg (by rw[List.length_drop];omega),E2,if_neg (by rw[h1,h2];simp)]
 have DL:Hid (n<B→D<18446744073709551616):=fun h=>by
  rw[← hD,uN]
  rcases HW with ⟨rfl,_,_,_,_,_,rfl⟩ | ⟨rfl,_,_,_,_,_,rfl⟩ | ⟨rfl,_,_,_,_,_,rfl⟩
  ·rw[if_pos rfl];exact Vw h
  ·rw[if_neg (by decide),if_pos rfl];exact Vx h
  rw[if_neg (by decide),if_neg (by decide)];exact h
 have WD:Hid (low<27→n<B→∀ w,Calls Tryz.prog 134 #[.int .u64 (n:Int),.int .i64 k1,.int .i64 k2] w fun e w'=>e=.returned (.int .u64 (D:Int))∧w'=w):=fun h7 h w=>by
  rw[← hD,uN]
  rcases HW with ⟨rfl,_,_,_,rfl,rfl,rfl⟩ | ⟨rfl,_,_,_,rfl,rfl,rfl⟩ | ⟨rfl,_⟩
  ·rw[if_pos rfl];exact Zn n h w
  ·rw[if_neg (by decide),if_pos rfl];exact Zp n h w
  omega
 have DN:Hid (low=27→D=n):=fun h=>by rw[← hD,h,uN,if_neg (by omega),if_neg (by omega)]
 have WQ:Hid (fl=t∨(((fl:Int)==u)=false∧((fl:Int)=u)=False∧fl≠t)):=by
  exact jdd
 have HB:=Hh Ys;have RB:=Hh e9;have en:=Hh iQ;have HN:=Hh hn;have NM:=Hh (gH vx.psr s (by omega) (by omega));have HC:=Hh hP.cnt_le;clear E0 E2 kL Pz hn hD e9 iQ Ys Yp jY
 rcases HW with ⟨rfl,rfl,rfl,rfl,rfl,rfl,rfl⟩ | ⟨rfl,rfl,rfl,rfl,rfl,rfl,rfl⟩ | ⟨rfl,rfl,rfl,rfl,rfl,rfl,rfl⟩
 all_goals
  first
  | rw[show((25:Nat):Int)=25 from rfl]
  | rw[show((26:Nat):Int)=26 from rfl]
  | rw[show((27:Nat):Int)=27 from rfl]
  go_enter Tryz.func112,Tryz.ntmps112
  go_wp2_with fail
  refine NM.out.mono ?_
  rintro e w3 (⟨hs,rfl,vL,yY⟩ | ⟨hs,rfl,vL,yY⟩)
  ·have E:=Hh (EF.out hs);have ve:Rdg 129 w H w3 H g A c l p cnt:=vx.step yY vL hP.le HC.out;have vq:=vM.gr yY (by omega);clear NM hs vx vM vL yY EF EE EO NB DL WD DN WQ HB RB en HN;exact jek
  have ve:Rdg 129 w H w3 H g A c l _ cnt:=vx.step yY vL hs HC.out;have vq:=vM.gr yY (by omega);have EE2:=Hh (EE.out hs);have EO2:=Hh (EO.out hs);have Hu:=NB.out hs;have WF:=DL.out Hu;have RG:=Hh Hu;rw[HN.out];have IN:=Hh (fun w=>jv D WF w);have FL:=Hh (fun w=>dq D WF w);rw[en.out]at IN;have B6:=Hh WF;clear NM hs vx vM vL yY EF EE EO NB DL en HN Hu WF;obtain⟨iL,tp,uz,yH,Rw⟩:=jf6;clear ve vq;go_wp2_with (with_reducible refine zx ?_)
  refine stI iL fun w4 lX rW=>?_
  obtain⟨tO,vw⟩:=jgF;clear tp uz iL rW;obtain⟨X,nZ⟩:∃ X,w3.heap.size=X:=⟨_,rfl⟩
  rw[nZ]at lX Rw yH⊢;clear nZ
  first
  |have WD2:=Hh (WD.out (by decide) RG.out)
   clear WD DN;go_wp2_with fail
   refine(WD2.out _).mono ?_
   rintro e w6 ⟨rfl,rfl⟩
   clear WD2;go_wp2_with (with_reducible refine zx ?_)
   refine zu rfl _ _ _ rfl rfl X 1 (.int .u64 (D:Int)) rfl rfl _ _ lX am (by simp) rfl fun w7 ik yQ=>?_
   have ux:=tO.gb Rw (Nat.le_of_lt yH.out) yC yQ;have vz:=vw.grown yQ (by intro e;injection e with e;have:=yH.out;omega);have W5:Blk w7 X 83 #[.int .i64 8,.int .u64 (D:Int),.slice none 0 0,.slice none 0 0]:=ik;clear tO vw lX yQ ik
  |have CO:=(show D=n by first | exact DN.out rfl | exact DN.out trivial | exact DN.out)
   subst CO;have ux:=tO;have vz:=vw;have W5:=lX;clear tO vw lX WD DN
  have b0:=W5.cell 0 rfl;have b1:=W5.cell 1 rfl;have b2:=W5.cell 2 rfl;have b3:=W5.cell 3 rfl
  rcases(by cases nn <;> cases bb <;> simp:(nn=true∧bb=true)∨(nn=true∧bb=false)∨nn=false) with ⟨rfl,rfl⟩ | ⟨rfl,rfl⟩ | rfl
  ·have uy:D≠9221120237041090560:=by have uy:=HB.out;rw[bne_iff_ne]at uy;exact uy
   have c1:((D:Int) != 9221120237041090560)=true:=by rw[bne_iff_ne];omega
   have c1':((D:Int)=9221120237041090560)=False:=eq_false (by omega);have E:=Hh (EE2.out (.inl rfl));clear EE2 EO2 uy RB HB WQ;go_wp2_with fail
   refine(IN.out _).mono ?_
   rintro e w6 ⟨rfl,rfl⟩
   go_wp2_with (with_reducible refine zx ?_)
   refine stI vz fun wz hTy zS=>?_
   have yl:=ux.gb yj (Nat.le_refl _) yC zS;exact jaj
  all_goals
   try have uy:D=9221120237041090560:=by have uy:=HB.out;rw[bne_eq_false_iff_eq]at uy;exact uy
   try have c1:((D:Int) != 9221120237041090560)=false:=by rw[bne_eq_false_iff_eq];omega
   try have c1':((D:Int)=9221120237041090560)=True:=eq_true (by omega)
   try clear uy
   clear HB;go_wp2_with fail
   refine(IN.out _).mono ?_
   rintro e w6 ⟨rfl,rfl⟩
   go_wp2_with fail
   refine(FL.out _).mono ?_
   rintro e w8 ⟨r,rfl,hf⟩
   have ul:=ux.below_ hf.2;have tD:=vz.below hf.2;have lY:=W5.below hf.2;obtain⟨RA,rc,rfl,_⟩:=hf.own.form;rw[RB.out];clear b0 b1 b2 b3 hf;have b0:=lY.cell 0 rfl;have b1:=lY.cell 1 rfl;have b2:=lY.cell 2 rfl;have b3:=lY.cell 3 rfl
   rcases WQ.out with hq | ⟨zq,zq2,hq⟩
   ·have E:=Hh (EO2.out rfl hq);rw[hq];clear EE2 EO2 RB hq WQ;go_wp2_with (with_reducible refine zx ?_)
    refine stI tD fun wz hTy zS=>?_
    have yl:=jhO;go_wp2_with fail
    refine zw rfl rfl hTy rfl rfl zt rfl ?_
    exact ItemOut.ok (ja:=none) (jb:=0) (jc:=none) (jd:=0) E.out rfl yl (IsItem.plain _ 8 D (by omega) B6.out)
   have E:=Hh (EE2.out (.inr hq));clear EE2 EO2 RB hq WQ;go_wp2_with (with_reducible refine zx ?_)
   refine stI tD fun wz hTy zS=>?_
   have yl:=jhO;go_wp2_with fail
   refine zw rfl rfl hTy rfl rfl zt rfl ?_
   exact ItemOut.err E.out rfl yl
theorem Vj (hP:Psr 129 w g H A c l p cnt) (low:Nat) (hl:low≤27):Calls Tryz.prog 112 #[.pointer (some ⟨g,0,none⟩),.int .i64 (low:Int)] w (ItemOut 129 w H g A c l p (tr low (l.drop p) cnt)):=by
 by_cases h:low<24
 ·exact eN hP low h
 by_cases tZ:low=24
 ·subst tZ;exact cD hP
 exact fG hP low (by omega) hl
end
def vP (maj:Nat) (p:List UInt8→Nat→PR):Nat→Bool→List UInt8→Nat→Option (List UInt8)→PL
 | 0,_,_,c,_=>.ok [] 0 c
 | m+1,ev,b,c,last=>match p b c with
  | .err e=>.err e
  | .ok x k c' =>
  if maj=5∧ev=true then
   match rn last (b.take k) with
   | some e=>.err e
   | none=>(vP maj p m false (b.drop k) c' (some (b.take k))).pre [x] k
  else(vP maj p m (!ev) (b.drop k) c' last).pre [x] k
theorem Wq (L M:List Itm) (a b:Nat) (r:PL):(r.pre M b).pre L a=r.pre (L++M) (a+b):=by
 cases r <;> simp[PL.pre,Nat.add_assoc]
section
variable {maj:Nat} {p:List UInt8→Nat→PR} {m:Nat} {ev:Bool} {b:List UInt8} {cc q k c1:Nat} {x:Itm} {last:Option (List UInt8)}
theorem SO (L:List Itm) (k0:Nat) (h:p b cc=.err q):(vP maj p (m+1) ev b cc last).pre L k0=.err q:=by rw[vP,h];rfl
theorem aJ (L:List Itm) (k0:Nat) (h:p b cc=.ok x k c1) (hm:maj=5) (he:ev=true) (h2:rn last (b.take k)=some q):(vP maj p (m+1) ev b cc last).pre L k0=.err q:=by
 rw[vP,h];simp only;rw[if_pos ⟨hm,he⟩,h2];rfl
theorem jB (L:List Itm) (k0:Nat) (h:p b cc=.ok x k c1) (hm:maj=5) (he:ev=true) (h2:rn last (b.take k)=none):(vP maj p (m+1) ev b cc last).pre L k0=(vP maj p m false (b.drop k) c1 (some (b.take k))).pre (L++[x]) (k0+k):=by
 rw[vP,h];simp only;rw[if_pos ⟨hm,he⟩,h2];simp only;rw[Wq]
theorem QD (L:List Itm) (k0:Nat) (h:p b cc=.ok x k c1) (hm:¬ (maj=5∧ev=true)):(vP maj p (m+1) ev b cc last).pre L k0=(vP maj p m (!ev) (b.drop k) c1 last).pre (L++[x]) (k0+k):=by
 rw[vP,h];simp only;rw[if_neg hm,Wq]
end
theorem o6 {maj:Nat}(hm:maj≠5) (p:List UInt8→Nat→PR):∀ (n:Nat) (ev:Bool) (b:List UInt8) (c:Nat) (last:Option (List UInt8)),vP maj p n ev b c last=uw p n b c
 | 0,_,_,_,_=>rfl
 | n+1,ev,b,c,last=>by
  rw[vP,uw]
  cases h:p b c with
  | err e=>rfl
  | ok x k c1 =>
  simp only
  rw[if_neg (fun h=>hm h.1),o6 hm p n]
  cases uw p n (b.drop k) c1 <;> rfl
theorem aK (p:List UInt8→Nat→PR):∀ (n:Nat) (b:List UInt8) (c:Nat) (last:Option (List UInt8)),vP 5 p (2*n) true b c last=vX p n b c last
 | 0,_,_,_=>rfl
 | n+1,b,c,last=>by
  rw[show 2*(n+1)=(2*n+1)+1 by omega,vP,vX]
  cases h:p b c with
  | err e=>rfl
  | ok x k c1 =>
  simp only
  rw[if_pos (by simp)]
  cases hk:rn last (b.take k) with
  | some e=>rfl
  | none =>
  simp only
  rw[vP]
  cases h2:p (b.drop k) c1 with
  | err e=>rfl
  | ok y k2 c2 =>
  simp only
  rw[if_neg (by simp),List.drop_drop,Bool.not_false,aK p n]
  cases vX p n (b.drop (k+k2)) c2 (some (b.take k)) with
  | err e=>rfl
  | ok l k3 c3=>simp[PL.pre,Nat.add_assoc]
def gQ (maj n:Nat):Nat:=if maj=5 then 2*min n 4294967296 else if maj=6 then 1 else n
def elR (maj n:Nat):PL→PR
 | .err q=>.err q
 | .ok L k c=>.ok (.mk (maj:Int) (if maj=6 then n else 0) [] L) k c
def uL (maj d n:Nat) (b:List UInt8) (c:Nat):PR:=elR maj n (vP maj (zZ d) (gQ maj n) true b c none)
theorem Y4 (d:Nat) (b:List UInt8) (c:Nat) (h:¬ 256≤c) {f n k:Nat}(hq:zJ b=.ok (f,n,k)) (h4:4≤f/32) (h6:f/32≤6) :
  zZ (d+1) b c=(match uL (f/32) d n (b.drop k) (c+1) with | .err e=>.err e | .ok x k' c'=>.ok x (k+k') c'):=by
 rcases(by omega:f/32=4∨f/32=5∨f/32=6) with hk | hk | hk
 ·rw[dl d b c h hq hk,hk,uL,o6 (by omega),gQ,if_neg (by omega),if_neg (by omega)]
  cases uw (zZ d) n (b.drop k) (c+1) <;> rfl
 ·rw[dm d b c h hq hk,hk,uL,gQ,if_pos rfl,aK]
  have e:vX (zZ d) (min n 4294967296) (b.drop k) (c+1) none=vX (zZ d) n (b.drop k) (c+1) none:=by
   rcases Nat.le_total n 4294967296 with hn | hn
   ·rw[Nat.min_eq_left hn]
   rw[Nat.min_eq_right hn]
   exact Wg (vA d) _ _ _ _ _ (by omega) (by omega) (by omega)
  rw[e]
  cases vX (zZ d) n (b.drop k) (c+1) none <;> rfl
 rw[dn d b c h hq hk,hk,uL,gQ,if_neg (by omega),if_pos rfl,o6 (by omega),uw]
 cases zZ d (b.drop k) (c+1) with
 | err e=>rfl
 | ok x k' c'=>simp[uw,elR]
def Wy (d:Nat):Prop:=∀ (w:World) (H:Snap) (g:Nat) (A:Option Addr) (c:Nat) (l:List UInt8) (p cnt lv maj n:Nat),Tabs H→lv+1+d=8→4≤maj→maj≤6→n<18446744073709551616→0<l.length→Psr 129 w g H A c l p cnt→
 Calls Tryz.prog 114 #[.pointer (some ⟨g,0,none⟩),.int .i64 (maj:Int),.int .u64 (n:Int),.int .i64 (lv:Int)] w (ItemOut 129 w H g A c l p (uL maj d n (l.drop p) cnt))
theorem QV (d:Nat) {l:List UInt8}{p c:Nat}(h:¬ 256≤c) {ch:UInt8}{low:Nat}(hd:l.drop p=ch::l.drop (p+1)) (hl:ch.toNat%32=low) (jY:low≤27) (h7:ch.toNat/32=7) :
  zZ d (l.drop p) c=(match tr low (l.drop (p+1)) (c+1) with | .err e=>.err e | .ok x k c'=>.ok x (1+k) c'):=by
 subst hl;obtain⟨t,ht⟩:∃ t,l.drop (p+1)=t:=⟨_,rfl⟩
 rw[ht]at hd;rw[ht]
 by_cases tZ:ch.toNat%32<24
 ·have hh:zJ (l.drop p)=.ok (ch.toNat,ch.toNat%32,1):=by rw[hd,zJ,if_neg (by omega),if_pos tZ]
  rw[nz d _ c h hh h7,tr,if_pos tZ]
  cases yL (ch.toNat%32) (ch.toNat%32) <;> rfl
 by_cases hs:t.length<2 ^ (ch.toNat%32-24)
 ·have hh:zJ (l.drop p)=.error 2:=by rw[hd,zJ,if_neg (by omega),if_neg tZ,if_pos hs]
  rw[sA d _ c h hh,tr,if_neg tZ,if_pos hs]
 have hh:zJ (l.drop p)=.ok (ch.toNat,beN (t.take (2 ^ (ch.toNat%32-24))),1+2 ^ (ch.toNat%32-24)):=by rw[hd,zJ,if_neg (by omega),if_neg tZ,if_neg hs,if_neg (by omega)]
 rw[nz d _ c h hh h7,tr,if_neg tZ,if_neg hs]
 cases yL (ch.toNat%32) (beN (t.take (2 ^ (ch.toNat%32-24)))) <;> rfl
section
variable {d:Nat} {w:World} {H:Snap} {g:Nat} {A:Option Addr} {c:Nat} {l:List UInt8} {p cnt lv:Nat}
theorem Zj (hTab:Tabs H) (hlv:lv+d=8) (hP:Psr 129 w g H A c l p cnt) (hc:cnt=256):Calls Tryz.prog 94 #[.pointer (some ⟨g,0,none⟩),.int .i64 (lv:Int)] w (ItemOut 129 w H g A c l p (zZ d (l.drop p) cnt)):=by
 obtain⟨yC,vx,vM,yj⟩:=jfx;have c2:=jf5;have wU:(256:Int)≤(cnt:Int):=by omega
 have xL:decide ((256:Int)≤(cnt:Int))=true:=decide_eq_true wU;have E:=Hh (fe d (l.drop p) cnt (by omega));clear hc;go_enter Tryz.func94,Tryz.ntmps94
 go_wp2_with (with_reducible refine zx ?_)
 refine stI vM fun wz hTy zS=>?_
 have yl:=vx.gb yj (Nat.le_refl _) yC zS;exact jc6
theorem Y9 (hTab:Tabs H) (hlv:lv+d=8) (hP:Psr 129 w g H A c l p cnt) (hc:cnt<256) (zB:p=l.length):Calls Tryz.prog 94 #[.pointer (some ⟨g,0,none⟩),.int .i64 (lv:Int)] w (ItemOut 129 w H g A c l p (zZ d (l.drop p) cnt)):=by
 obtain⟨yC,vx,vM,yj⟩:=jfx;have c2:=jf5;have E:=Hh (sA d (l.drop p) cnt (by omega) (q:=2) (by rw[zB,List.drop_length];rfl));have z0:((l.length:Nat):Int)≤(p:Int):=by omega
 have z0':decide (((l.length:Nat):Int)≤(p:Int))=true:=decide_eq_true z0;clear zB;have wU:¬ ((256:Int)≤(cnt:Int)):=by omega
 have xL:=jgK;obtain⟨KC,HC⟩:=jfF;clear hc;go_enter Tryz.func94,Tryz.ntmps94
 go_wp2_with (with_reducible refine zx ?_)
 refine zu rfl _ _ _ rfl rfl g 2 (.int .i64 ((cnt:Int)+1)) rfl rfl _ _ vx.psr.blk yp (by simp) rfl fun w2 yT zM=>?_
 obtain⟨vO,tK⟩:=jgg;clear vx vM yT zM c2 KC wU xL;obtain⟨i6,a0,a1⟩:=jg9;go_wp2_with fail
 go_big_quiet (fail)
 have ve:=vO.drewN nq;have vq:Blk (w2.drewN nq) w.heap.size 83 #[.int .i64 0,.int .u64 0,.slice none 0 0,.slice none 0 0]:=tK;exact jek
theorem Zi (hTab:Tabs H) (hlv:lv+d=8) (hP:Psr 129 w g H A c l p cnt) (hc:cnt<256) (qU:p<l.length) {ch:UInt8}(e8:l[p]=ch) {low kd:Nat}(xN:ch.toNat%32=low) (gw:ch.toNat/32=kd) (jY:27<low):Calls Tryz.prog 94 #[.pointer (some ⟨g,0,none⟩),.int .i64 (lv:Int)] w (ItemOut 129 w H g A c l p (zZ d (l.drop p) cnt)):=by
 obtain⟨yC,vx,vM,yj⟩:=jfx;have c2:=jf5;have ED:=nJ qU;rw[e8]at ED;have E:=Hh (sA d (l.drop p) cnt (by omega) (q:=3) (by rw[ED,zJ,xN,if_pos jY]));have z27:(27:Int)<(low:Int):=by omega
 clear jY ED;have z0:¬ (((l.length:Nat):Int)≤(p:Int)):=by omega
 have z0':=jhc;have ZE:(p:Int)<(l.length:Int):=by omega
 have Ut:(0:Int)≤(p:Int):=by omega
 have mT:=hP.small;have K1:=jgt;obtain⟨b,off,rfl,uj⟩:=hP.bytes.at_ (by omega);have KA:=ax ⟨ch.toNat,ch.toNat_lt⟩
 simp only at KA
 rw[xN]at KA;have S:(ch.toNat:Int)/32=(kd:Int):=by omega
 have IR:(kd:Int)≤7:=by have:=ch.toNat_lt;omega
 have eD:(low:Int)≤31:=by omega
 obtain⟨jP,sD,Li⟩:=jgo;clear uj xN gw mT e8;have wU:¬ ((256:Int)≤(cnt:Int)):=by omega
 have xL:=jgK;obtain⟨KC,HC⟩:=jfF;clear hc;go_enter Tryz.func94,Tryz.ntmps94
 go_wp2_with (with_reducible refine zx ?_)
 refine zu rfl _ _ _ rfl rfl g 2 (.int .i64 ((cnt:Int)+1)) rfl rfl _ _ vx.psr.blk yp (by simp) rfl fun w2 yT zM=>?_
 obtain⟨vO,tK⟩:=jgg;clear vx vM yT zM c2 KC wU xL;obtain⟨i6,a0,a1⟩:=jg9;go_wp2_with fail
 go_big_quiet (fail)
 have gh:=vO.drewN nq;have gZ:=jgx
 generalize w2.drewN nq=w3 at gh gZ⊢
 obtain⟨ve,vq⟩:=And.intro gh gZ;clear gh gZ vO tK a0 a1 i6;obtain⟨a0,a1⟩:=jgZ;have q0:=ve.psr.holds.cell Li.out;go_upto_region 6 with fail
 go_big_quiet (fail)
 obtain⟨pF,pC⟩:=jfQ
 generalize w3.drewN nq=w4 at pF pC⊢
 obtain⟨tp,uz⟩:=And.intro pF pC;clear pF pC ve vq a0 a1 q0;have a1:=tp.psr.blk.cell 1 rfl;go_wp2_with (with_reducible refine zx ?_)
 refine zu rfl _ _ _ rfl rfl g 1 (.int .i64 ((p:Int)+1)) rfl rfl _ _ tp.psr.blk yp (by simp) rfl fun w5 qc xT=>?_
 obtain⟨tO,vw⟩:=jgm;clear tp uz qc xT a1 K1 z0 z0' ZE Ut KA S;exact jeB
theorem Sw (hTab:Tabs H) (hlv:lv+d=8) (hP:Psr 129 w g H A c l p cnt) (hc:cnt<256) (qU:p<l.length) {ch:UInt8}(e8:l[p]=ch) {low kd:Nat}(xN:ch.toNat%32=low) (gw:ch.toNat/32=kd) (jY:low≤27) (h7:kd=7):Calls Tryz.prog 94 #[.pointer (some ⟨g,0,none⟩),.int .i64 (lv:Int)] w (ItemOut 129 w H g A c l p (zZ d (l.drop p) cnt)):=by
 obtain⟨yC,vx,vM,yj⟩:=jfx;have c2:=jf5;have ED:=nJ qU;rw[e8]at ED;subst h7;have E0:=Hh (QV d (l:=l) (p:=p) (c:=cnt) (by omega) ED xN jY gw);have z27:¬ ((27:Int)<(low:Int)):=by omega
 have z27b:decide ((27:Int)<(low:Int))=false:=decide_eq_false z27;have Lh:=Hh jY;clear jY ED;have z0:¬ (((l.length:Nat):Int)≤(p:Int)):=by omega
 have z0':=jhc;have ZE:(p:Int)<(l.length:Int):=by omega
 have Ut:(0:Int)≤(p:Int):=by omega
 have mT:=hP.small;have K1:=jgt;obtain⟨b,off,rfl,uj⟩:=hP.bytes.at_ (by omega);have KA:=ax ⟨ch.toNat,ch.toNat_lt⟩
 simp only at KA
 rw[xN]at KA;have S:(ch.toNat:Int)/32=7:=by omega
 have IR:=True.intro;have eD:(low:Int)≤31:=by omega
 obtain⟨jP,sD,Li⟩:=jgo;clear uj xN gw mT e8;have wU:¬ ((256:Int)≤(cnt:Int)):=by omega
 have xL:=jgK;obtain⟨KC,HC⟩:=jfF;clear hc;go_enter Tryz.func94,Tryz.ntmps94
 go_wp2_with (with_reducible refine zx ?_)
 refine zu rfl _ _ _ rfl rfl g 2 (.int .i64 ((cnt:Int)+1)) rfl rfl _ _ vx.psr.blk yp (by simp) rfl fun w2 yT zM=>?_
 obtain⟨vO,tK⟩:=jgg;clear vx vM yT zM c2 KC wU xL;obtain⟨i6,a0,a1⟩:=jg9;go_wp2_with fail
 go_big_quiet (fail)
 have gh:=vO.drewN nq;have gZ:=jgx
 generalize w2.drewN nq=w3 at gh gZ⊢
 obtain⟨ve,vq⟩:=And.intro gh gZ;clear gh gZ vO tK a0 a1 i6;obtain⟨a0,a1⟩:=jgZ;have q0:=ve.psr.holds.cell Li.out;go_upto_region 6 with fail
 go_big_quiet (fail)
 obtain⟨pF,pC⟩:=jfQ
 generalize w3.drewN nq=w4 at pF pC⊢
 obtain⟨tp,uz⟩:=And.intro pF pC;clear pF pC ve vq a0 a1 q0;have a1:=tp.psr.blk.cell 1 rfl;go_wp2_with (with_reducible refine zx ?_)
 refine zu rfl _ _ _ rfl rfl g 1 (.int .i64 ((p:Int)+1)) rfl rfl _ _ tp.psr.blk yp (by simp) rfl fun w5 qc xT=>?_
 obtain⟨tO,vw⟩:=jgm;clear tp uz qc xT a1 K1 z0 z0' ZE Ut KA S;have SP:=Hh (Vj tO.psr low Lh.out);go_wp2_with fail
 refine SP.out.mono ?_
 intro e w6 hs
 cases i8:tr low (l.drop (p+1)) (cnt+1) with
 | err q =>
  rw[i8,ItemOut]at hs;obtain⟨rfl,H4,p4,cnt4,pH⟩:=hs;have E:Hid (zZ d (l.drop p) cnt=.err q):=by rw[Hid,E0.out,i8]
  have xS:=tO.trans pH;have vN:=vw.rdg pH (by omega);have sM:=pH.hid yj vw.lt;clear pH tO vw SP i8 E0;exact jeC
 | ok x k' c' =>
 rw[i8,ItemOut]at hs;obtain⟨ja,jb,jc,jd,H4,rfl,pH,Uc⟩:=hs;have E:Hid (zZ d (l.drop p) cnt=.ok x (1+k') c'):=by rw[Hid,E0.out,i8]
 have xS:=tO.trans pH;have vN:=vw.rdg pH (by omega);have sM:=pH.hid yj vw.lt;clear pH tO vw SP i8 E0;exact jeD
end
section
variable {d:Nat} {w:World} {H:Snap} {g:Nat} {A:Option Addr} {c:Nat} {l:List UInt8} {p cnt lv n:Nat}
theorem St (ih:mi d) (hTab:Tabs H) (hlv:lv+1+d=8) (hn:n<18446744073709551616) (hl0:0<l.length) (hP:Psr 129 w g H A c l p cnt):Calls Tryz.prog 114 #[.pointer (some ⟨g,0,none⟩),.int .i64 4,.int .u64 (n:Int),.int .i64 (lv:Int)] w (ItemOut 129 w H g A c l p (uL 4 d n (l.drop p) cnt)):=by
 have yC:=hP.gt;have yj:=jfB;obtain⟨pz,vx,vM,iL⟩:=jfJ;rw[show(w.alloc zg).heap.size=w.heap.size+1 by simp]at iL;have en:=Hh hn;have X7:=Hh hP.small;have Oh:=Hh hlv;have W7:(lv:Int)≤8:=by omega
 have KLV:=jg7;have RG:=Hh (show n<18446744073709551616 by omega);have eS:Hid (uL 4 d n (l.drop p) cnt=elR 4 n (uw (zZ d) n (l.drop p) cnt)):=by rw[Hid,uL,gQ,if_neg (by omega),if_neg (by omega),o6 (by omega)]
 clear hn;go_enter Tryz.func114,Tryz.ntmps114
 go_wp2_with (with_reducible refine zx ?_)
 refine stI iL fun w4 lX rW=>?_
 obtain⟨tO,vw⟩:=jfS;clear vx vM iL rW;obtain⟨X,nZ⟩:∃ X,w.heap.size+1=X:=⟨_,rfl⟩
 have yH:Hid (w.heap.size<X):=by rw[Hid];omega
 rw[nZ]at lX pz⊢;clear nZ;go_wp2_with fail
 go_loopw [12,13,14] (fun v12 v13 v14 wr=>∃ (i:Nat) (Hr:Snap) (VA:Option Addr) (vc vn:Nat) (L:List Itm) (k0 cc:Nat) ,v14=.int .u64 (i:Int)∧v12=.slice VA vn vc∧i≤n∧vn=L.length∧
  Rdg 129 w H wr Hr g A c l (p+k0) cc∧Blk wr w.heap.size 83 #[.int .i64 0,.int .u64 0,.slice none 0 0,.slice none 0 0]∧Hr w.heap.size=none∧
  Blk wr X 83 #[.int .i64 4,.int .u64 0,.slice none 0 0,.slice none 0 0]∧Hr X=none∧OwnI wr (X+1) (.slice VA vn vc) Hr L∧(∀ q,(Value.slice VA vn vc).ownBlock=some q→Hr q=none)∧L.length≤cc∧
  uw (zZ d) n (l.drop p) cnt=(uw (zZ d) (n-i) (l.drop (p+k0)) cc).pre L k0) (fun _ _ v14 _=>n-(intOf v14).toNat)
 case atStart=>exact⟨0,H,none,0,0,[],0,cnt,rfl,rfl,Nat.zero_le _,rfl,tO,vw,yj,lX,pz,OwnI.nil _ _ H,by intro q hq;simp[Value.ownBlock]at hq,by simp,by rw[lG];rfl⟩
 case round =>
 clear tO vw lX;obtain⟨i,Hr,VA,vc,vn,L,k0,cc,rfl,rfl,WL,rfl,td,uE,rD,pM,mL,vY,pQ,X8,qO⟩:=hrel;have rf:=Hh qO;have ee:=Hh X8;have Oe:=Hh WL
 clear qO X8 WL 
 by_cases uZ:i<n
 ·obtain⟨m1,pP⟩:∃ m1,n-i=m1+1:=⟨n-i-1,by omega⟩
  have Yl:=Hh (show n-(i+1)=m1 by omega);have ur:Hid (uw (zZ d) n (l.drop p) cnt=(uw (zZ d) (m1+1) (l.drop (p+k0)) cc).pre L k0):=by rw[Hid,rf.out,pP]
  obtain⟨P1,dB⟩:∃ P1,p+k0=P1:=⟨_,rfl⟩
  have oF:=Hh dB;rw[dB]at td ur;clear dB;have iZ:(i:Int)<(n:Int):=by omega
  have IT:=jhb;rw[show((lv+1:Nat):Int)=(lv:Int)+1 by omega]at IT;have ITH:=Hh IT;clear pP rf IT;go_wp2_with fail
  refine ITH.out.mono ?_
  intro e w5 hs
  cases hp:zZ d (l.drop P1) cc with
  | err q =>
   rw[hp,ItemOut]at hs;obtain⟨rfl,H5,p5,cnt5,yN⟩:=hs;have lV:((q:Int) != 0)=true:=by rw[bne_iff_ne];have:=yZ _ _ _ _ hp;omega
   have ig:=jf9;have E:Hid (uL 4 d n (l.drop p) cnt=.err q):=by rw[Hid,eS.out,ur.out,oc L k0 hp];rfl
   exact jfd
  | ok x k c1 =>
  rw[hp,ItemOut]at hs;obtain⟨ja,jb,jc,jd,H5,rfl,yN,eA⟩:=hs;have WA:=Hh (vA d _ _ _ _ _ hp);have xS:=td.trans yN;have Pp:=xS.psr.cnt_le;obtain⟨vN,sM,pg,kC,pv⟩:=jfO;have pX:∀ q,(Value.slice VA L.length vc).ownBlock=some q→H5 q=none:=fun q hq=>yN.hid (pQ q hq) (vY.lt q hq).2
  have Qp:=Hh yN.grows.le;obtain⟨hY,gu,pw,ld,ux,vz,ik,vr⟩:=jfE;have ef:=jhe;have Rp:=Hh hp;clear ITH hp td yN uE pM vY pQ xS vN pg pv;go_wp2_with (with_reducible refine zx ?_)
  refine stI hY fun w8 hY8 hg8=>?_
  obtain⟨ul,tD,lY,qT⟩:=jfG;obtain⟨Y1,Rx⟩:∃ Y1,w5.heap.size=Y1:=⟨_,rfl⟩
  rw[Rx]at hY8 pw gu ld⊢;obtain⟨b0,b1,b2,b3⟩:=jgS;clear ux vz ik vr hY hg8 Rx
  have jW:Hid ((L++[x]).length≤c1):=by
   exact je5
  obtain⟨tf,xr,mu,nY⟩:=jfN;go_wp2_with (at_builtin;refine yq ?_)
  refine yJ rfl (.tmp 75) (.tmp 77) rfl (X+1) (.slice VA L.length vc) H5 _ rfl nY _ 1 _ (ze x ja jb jc jd) [x] rfl rfl (ItemsC.one eA) (Src.new _ _ _ _ rfl _ rfl) (by have:=ef.out;simp;omega) mu.lt fun v' w10 hO10 hg10 hat10=>?_
  obtain⟨VA',vc',rfl,_⟩:=hO10.form;obtain⟨uD,iY,pJ,tj⟩:=jfM;obtain⟨L',oR⟩:∃ L',L++[x]=L':=⟨_,rfl⟩
  rw[oR]at hO10 pJ jW⊢;have kF:=Hh (show uw (zZ d) n (l.drop p) cnt=(uw (zZ d) m1 (l.drop (p+(k0+k))) c1).pre (L++[x]) (k0+k) by rw[ur.out,ng L k0 Rp.out,List.drop_drop,← oF.out,Nat.add_assoc]);exact ja0
 have hm:n=i:=by have:=Oe.out;omega
 subst hm
 have E1:Hid (uL 4 d n (l.drop p) cnt=.ok (.mk 4 0 [] L) k0 cc):=by
  rw[Hid,eS.out,rf.out,Nat.sub_self,uw];simp[PL.pre,elR]
 obtain⟨H5,bZ,XD,ua,XL,qZ,qa,lN⟩:=vY.snap td.psr.holds (fun q hq=>pQ q (ti hq));have xN:∀ q,VA.map (·.block)=some q→X+1≤q:=fun q hq=>(vY.lt q (ti hq)).1
 obtain⟨Rf,U1,xS⟩:=jfP;have Rc:IsItem H5 none 0 VA vc (.mk 4 0 [] L):=IsRowI.item ⟨qZ,qa,lN⟩ 4 (by omega) 0 (by have:=en.out;omega);exact jat
theorem Sv (ih:mi d) (hTab:Tabs H) (hlv:lv+1+d=8) (hn:n<18446744073709551616) (hl0:0<l.length) (hP:Psr 129 w g H A c l p cnt):Calls Tryz.prog 114 #[.pointer (some ⟨g,0,none⟩),.int .i64 6,.int .u64 (n:Int),.int .i64 (lv:Int)] w (ItemOut 129 w H g A c l p (uL 6 d n (l.drop p) cnt)):=by
 have yC:=hP.gt;have yj:=jfB;obtain⟨pz,vx,vM,iL⟩:=jfJ;rw[show(w.alloc zg).heap.size=w.heap.size+1 by simp]at iL;have en:=Hh hn;have X7:=Hh hP.small;have Oh:=Hh hlv;have W7:(lv:Int)≤8:=by omega
 have KLV:=jg7;have RG:=Hh (show 1<18446744073709551616 by omega);have eS:Hid (uL 6 d n (l.drop p) cnt=elR 6 n (uw (zZ d) 1 (l.drop p) cnt)):=by rw[Hid,uL,gQ,if_neg (by omega),if_pos rfl,o6 (by omega)]
 clear hn;go_enter Tryz.func114,Tryz.ntmps114
 go_wp2_with (with_reducible refine zx ?_)
 refine stI iL fun w4 lX rW=>?_
 obtain⟨tO,vw⟩:=jfS;clear vx vM iL rW;obtain⟨X,nZ⟩:∃ X,w.heap.size+1=X:=⟨_,rfl⟩
 have yH:Hid (w.heap.size<X):=by rw[Hid];omega
 rw[nZ]at lX pz⊢;clear nZ;go_wp2_with (with_reducible refine zx ?_)
 refine zu rfl _ _ _ rfl rfl X 1 (.int .u64 (n:Int)) rfl rfl _ _ lX am (by simp) rfl fun w4b hX4b hg4b=>?_
 have L6:=tO.gb pz (Nat.le_of_lt yH.out) yC hg4b;have Km:=vw.grown hg4b (by intro e;injection e with e;have:=yH.out;omega);have Kt:Blk w4b X 83 #[.int .i64 6,.int .u64 (n:Int),.slice none 0 0,.slice none 0 0]:=hX4b;clear tO vw lX hX4b hg4b;have tO:=L6;have vw:=Km;have lX:=Kt;clear L6 Km Kt;go_wp2_with fail
 go_loopw [12,13,14] (fun v12 v13 v14 wr=>∃ (i:Nat) (Hr:Snap) (VA:Option Addr) (vc vn:Nat) (L:List Itm) (k0 cc:Nat) ,v14=.int .u64 (i:Int)∧v12=.slice VA vn vc∧i≤1∧vn=L.length∧
  Rdg 129 w H wr Hr g A c l (p+k0) cc∧Blk wr w.heap.size 83 #[.int .i64 0,.int .u64 0,.slice none 0 0,.slice none 0 0]∧Hr w.heap.size=none∧
  Blk wr X 83 #[.int .i64 6,.int .u64 (n:Int),.slice none 0 0,.slice none 0 0]∧Hr X=none∧OwnI wr (X+1) (.slice VA vn vc) Hr L∧(∀ q,(Value.slice VA vn vc).ownBlock=some q→Hr q=none)∧L.length≤cc∧
  uw (zZ d) 1 (l.drop p) cnt=(uw (zZ d) (1-i) (l.drop (p+k0)) cc).pre L k0) (fun _ _ v14 _=>1-(intOf v14).toNat)
 case atStart=>exact⟨0,H,none,0,0,[],0,cnt,rfl,rfl,Nat.zero_le _,rfl,tO,vw,yj,lX,pz,OwnI.nil _ _ H,by intro q hq;simp[Value.ownBlock]at hq,by simp,by rw[lG];rfl⟩
 case round =>
 clear tO vw lX;obtain⟨i,Hr,VA,vc,vn,L,k0,cc,rfl,rfl,WL,rfl,td,uE,rD,pM,mL,vY,pQ,X8,qO⟩:=hrel;have rf:=Hh qO;have ee:=Hh X8;have Oe:=Hh WL
 clear qO X8 WL 
 by_cases uZ:i<1
 ·obtain⟨m1,pP⟩:∃ m1,1-i=m1+1:=⟨1-i-1,by omega⟩
  have Yl:=Hh (show 1-(i+1)=m1 by omega);have ur:Hid (uw (zZ d) 1 (l.drop p) cnt=(uw (zZ d) (m1+1) (l.drop (p+k0)) cc).pre L k0):=by rw[Hid,rf.out,pP]
  obtain⟨P1,dB⟩:∃ P1,p+k0=P1:=⟨_,rfl⟩
  have oF:=Hh dB;rw[dB]at td ur;clear dB;have iZ:(i:Int)<1:=by omega
  have IT:=jhb;rw[show((lv+1:Nat):Int)=(lv:Int)+1 by omega]at IT;have ITH:=Hh IT;clear pP rf IT;go_wp2_with fail
  refine ITH.out.mono ?_
  intro e w5 hs
  cases hp:zZ d (l.drop P1) cc with
  | err q =>
   rw[hp,ItemOut]at hs;obtain⟨rfl,H5,p5,cnt5,yN⟩:=hs;have lV:((q:Int) != 0)=true:=by rw[bne_iff_ne];have:=yZ _ _ _ _ hp;omega
   have ig:=jf9;have E:Hid (uL 6 d n (l.drop p) cnt=.err q):=by rw[Hid,eS.out,ur.out,oc L k0 hp];rfl
   exact jfd
  | ok x k c1 =>
  rw[hp,ItemOut]at hs;obtain⟨ja,jb,jc,jd,H5,rfl,yN,eA⟩:=hs;have WA:=Hh (vA d _ _ _ _ _ hp);have xS:=td.trans yN;have Pp:=xS.psr.cnt_le;obtain⟨vN,sM,pg,kC,pv⟩:=jfO;have pX:∀ q,(Value.slice VA L.length vc).ownBlock=some q→H5 q=none:=fun q hq=>yN.hid (pQ q hq) (vY.lt q hq).2
  have Qp:=Hh yN.grows.le;obtain⟨hY,gu,pw,ld,ux,vz,ik,vr⟩:=jfE;have ef:=jhe;have Rp:=Hh hp;clear ITH hp td yN uE pM vY pQ xS vN pg pv;go_wp2_with (with_reducible refine zx ?_)
  refine stI hY fun w8 hY8 hg8=>?_
  obtain⟨ul,tD,lY,qT⟩:=jfG;obtain⟨Y1,Rx⟩:∃ Y1,w5.heap.size=Y1:=⟨_,rfl⟩
  rw[Rx]at hY8 pw gu ld⊢;obtain⟨b0,b1,b2,b3⟩:=jgS;clear ux vz ik vr hY hg8 Rx
  have jW:Hid ((L++[x]).length≤c1):=by
   exact je5
  obtain⟨tf,xr,mu,nY⟩:=jfN;go_wp2_with (at_builtin;refine yq ?_)
  refine yJ rfl (.tmp 75) (.tmp 77) rfl (X+1) (.slice VA L.length vc) H5 _ rfl nY _ 1 _ (ze x ja jb jc jd) [x] rfl rfl (ItemsC.one eA) (Src.new _ _ _ _ rfl _ rfl) (by have:=ef.out;simp;omega) mu.lt fun v' w10 hO10 hg10 hat10=>?_
  obtain⟨VA',vc',rfl,_⟩:=hO10.form;obtain⟨uD,iY,pJ,tj⟩:=jfM;obtain⟨L',oR⟩:∃ L',L++[x]=L':=⟨_,rfl⟩
  rw[oR]at hO10 pJ jW⊢;have kF:=Hh (show uw (zZ d) 1 (l.drop p) cnt=(uw (zZ d) m1 (l.drop (p+(k0+k))) c1).pre (L++[x]) (k0+k) by rw[ur.out,ng L k0 Rp.out,List.drop_drop,← oF.out,Nat.add_assoc]);exact ja0
 have hm:1=i:=by have:=Oe.out;omega
 subst hm
 have E1:Hid (uL 6 d n (l.drop p) cnt=.ok (.mk 6 n [] L) k0 cc):=by
  rw[Hid,eS.out,rf.out,Nat.sub_self,uw];simp[PL.pre,elR]
 obtain⟨H5,bZ,XD,ua,XL,qZ,qa,lN⟩:=vY.snap td.psr.holds (fun q hq=>pQ q (ti hq));have xN:∀ q,VA.map (·.block)=some q→X+1≤q:=fun q hq=>(vY.lt q (ti hq)).1
 obtain⟨Rf,U1,xS⟩:=jfP;have Rc:IsItem H5 none 0 VA vc (.mk 6 n [] L):=IsRowI.item ⟨qZ,qa,lN⟩ 6 (by omega) n (by have:=en.out;omega);exact jat
end
section
variable {d:Nat} {w:World} {H:Snap} {g:Nat} {A:Option Addr} {c:Nat} {l:List UInt8} {p cnt lv n:Nat}
theorem Su (ih:mi d) (hTab:Tabs H) (hlv:lv+1+d=8) (hn:n<18446744073709551616) (hl0:0<l.length) (hP:Psr 129 w g H A c l p cnt):Calls Tryz.prog 114 #[.pointer (some ⟨g,0,none⟩),.int .i64 5,.int .u64 (n:Int),.int .i64 (lv:Int)] w (ItemOut 129 w H g A c l p (uL 5 d n (l.drop p) cnt)):=by
 have yC:=hP.gt;have yj:=jfB;obtain⟨pz,vx,vM,iL⟩:=jfJ;rw[show(w.alloc zg).heap.size=w.heap.size+1 by simp]at iL;have en:=Hh hn;have X7:=Hh hP.small;have Oh:=Hh hlv;have W7:(lv:Int)≤8:=by omega
 have KLV:=jg7;obtain⟨mn,MR⟩:∃ mn,min n 4294967296=mn:=⟨_,rfl⟩
 obtain⟨N,hN⟩:∃ N,2*mn=N:=⟨_,rfl⟩
 have XG:min (n:Int) 4294967296=(mn:Int):=by omega
 have KN:IntKind.u64.wrap (2*(mn:Int))=(N:Int):=by rw[IntKind.wrap_u64];omega
 have RG:=Hh (show N≤8589934592 by omega);have eS:Hid (uL 5 d n (l.drop p) cnt=elR 5 n (vP 5 (zZ d) N true (l.drop p) cnt none)):=by rw[Hid,uL,gQ,if_pos rfl,MR,hN]
 clear MR hN hn;go_enter Tryz.func114,Tryz.ntmps114
 go_wp2_with (with_reducible refine zx ?_)
 refine stI iL fun w4 lX rW=>?_
 obtain⟨tO,vw⟩:=jfS;clear vx vM iL rW;obtain⟨X,nZ⟩:∃ X,w.heap.size+1=X:=⟨_,rfl⟩
 have yH:Hid (w.heap.size<X):=by rw[Hid];omega
 rw[nZ]at lX pz⊢;clear nZ;go_wp2_with fail
 go_loopw [12,13,14] (fun v12 v13 v14 wr=>∃ (i:Nat) (Hr:Snap) (VA:Option Addr) (vc vn:Nat) (L:List Itm) (k0 cc:Nat) (last:Option (List UInt8)) (KB:Option Addr) (kn kc:Nat) ,v14=.int .u64 (i:Int)∧v12=.slice VA vn vc∧v13=.slice KB kn kc∧((i=0∧last=none)∨(0<i∧∃ key:List UInt8,last=some key∧kn=key.length∧key.length≤4096∧IsBytes Hr KB kc key))∧i≤N∧vn=L.length∧
  Rdg 129 w H wr Hr g A c l (p+k0) cc∧Blk wr w.heap.size 83 #[.int .i64 0,.int .u64 0,.slice none 0 0,.slice none 0 0]∧Hr w.heap.size=none∧
  Blk wr X 83 #[.int .i64 5,.int .u64 0,.slice none 0 0,.slice none 0 0]∧Hr X=none∧OwnI wr (X+1) (.slice VA vn vc) Hr L∧(∀ q,(Value.slice VA vn vc).ownBlock=some q→Hr q=none)∧L.length≤cc∧
  vP 5 (zZ d) N true (l.drop p) cnt none=(vP 5 (zZ d) (N-i) (decide (i%2=0)) (l.drop (p+k0)) cc last).pre L k0) (fun _ _ v14 _=>N-(intOf v14).toNat)
 case atStart=>exact⟨0,H,none,0,0,[],0,cnt,none,none,0,0,rfl,rfl,rfl,.inl ⟨rfl,rfl⟩,Nat.zero_le _,rfl,tO,vw,yj,lX,pz,OwnI.nil _ _ H,by intro q hq;simp[Value.ownBlock]at hq,by simp,by rw[lG];rfl⟩
 case round =>
 clear tO vw lX;obtain⟨i,Hr,VA,vc,vn,L,k0,cc,last,KB,kn,kc,rfl,rfl,rfl,oD,WL,rfl,td,uE,rD,pM,mL,vY,pQ,X8,qO⟩:=hrel;have rf:=Hh qO;have ee:=Hh X8;have Oe:=Hh WL;have au:=Hh oD;clear qO X8 WL oD
 by_cases uZ:i<N
 ·obtain⟨m1,pP⟩:∃ m1,N-i=m1+1:=⟨N-i-1,by omega⟩
  have Yl:=Hh (show N-(i+1)=m1 by omega);have ur:Hid (vP 5 (zZ d) N true (l.drop p) cnt none=(vP 5 (zZ d) (m1+1) (decide (i%2=0)) (l.drop (p+k0)) cc last).pre L k0):=by rw[Hid,rf.out,pP]
  obtain⟨P1,dB⟩:∃ P1,p+k0=P1:=⟨_,rfl⟩
  have oF:=Hh dB;rw[dB]at td ur;clear dB;have iZ:(i:Int)<(N:Int):=by omega
  have IT:=jhb;rw[show((lv+1:Nat):Int)=(lv:Int)+1 by omega]at IT;have ITH:=Hh IT;clear pP rf IT;go_wp2_with fail
  refine ITH.out.mono ?_
  intro e w5 hs
  cases hp:zZ d (l.drop P1) cc with
  | err q =>
   rw[hp,ItemOut]at hs;obtain⟨rfl,H5,p5,cnt5,yN⟩:=hs;have lV:((q:Int) != 0)=true:=by rw[bne_iff_ne];have:=yZ _ _ _ _ hp;omega
   have ig:=jf9;have E:Hid (uL 5 d n (l.drop p) cnt=.err q):=by rw[Hid,eS.out,ur.out,SO L k0 hp];rfl
   exact jfd
  | ok x k c1 =>
  rw[hp,ItemOut]at hs;obtain⟨ja,jb,jc,jd,H5,rfl,yN,eA⟩:=hs;have WA:=Hh (vA d _ _ _ _ _ hp);have xS:=td.trans yN;have Pp:=xS.psr.cnt_le;obtain⟨vN,sM,pg,kC,pv⟩:=jfO;have pX:∀ q,(Value.slice VA L.length vc).ownBlock=some q→H5 q=none:=fun q hq=>yN.hid (pQ q hq) (vY.lt q hq).2
  have Qp:=Hh yN.grows.le;obtain⟨hY,gu,pw,ld,ux,vz,ik,vr⟩:=jfE;have ef:=jhe;have Rp:=Hh hp;clear ITH hp td yN uE pM vY pQ xS vN pg pv;go_wp2_with (with_reducible refine zx ?_)
  refine stI hY fun w8 hY8 hg8=>?_
  obtain⟨ul,tD,lY,qT⟩:=jfG;obtain⟨Y1,Rx⟩:∃ Y1,w5.heap.size=Y1:=⟨_,rfl⟩
  rw[Rx]at hY8 pw gu ld⊢;obtain⟨b0,b1,b2,b3⟩:=jgS;clear ux vz ik vr hY hg8 Rx;have Gw:=Hh (p8 d _ _ _ _ _ Rp.out)
  by_cases hev:i%2=0
  ·have ev1:((i:Int)%2==0)=true:=by rw[beq_iff_eq];omega
   have ev2:((i:Int)%2=0)=True:=eq_true (by omega);have ev3:((i:Int).tmod 2==0)=true:=by rw[beq_iff_eq,Int.tmod_eq_emod_of_nonneg (by omega)];omega
   have ev4:((i:Int).tmod 2=0)=True:=eq_true (by rw[Int.tmod_eq_emod_of_nonneg (by omega)];omega);have Z0:=Hh hev;obtain⟨key,qW⟩:∃ key,(l.drop P1).take k=key:=⟨_,rfl⟩
   have gX:=Hh qW;have em:Hid (key.length≤4096):=by rw[Hid,← qW,List.length_take,List.length_drop];have:=X7.out;omega
   have KG:Hid (zf x=key):=by rw[Hid,← qW];exact Gw.out.enc
   have RW0:=rP x H5 x.kind x.n ja x.bytes.length jb jc x.items.length jd w8 (lv+1) (Gw.out.good (lv+1) (by have:=Oh.out;omega)) (by rw[KG.out];have:=em.out;omega) eA.arg ul.psr.holds;rw[KG.out]at RW0;have RW:=Hh RW0;clear hev qW RW0;go_wp2_with fail
   refine RW.out.mono ?_
   rintro e w9 ⟨r,rfl,P7⟩
   obtain⟨KA,kac,rfl,_⟩:=P7.own.form;obtain⟨H6,xW,oM,_⟩:=Fresh.snapB ul.psr.holds P7;have ct:=ul.grown xW;have bH:=tD.below P7.2;have Qr:=lY.below P7.2;have Yc:=hY8.below P7.2;have Qq:=(qT.below P7.2).mono xW.le;have Yh:=xW.none sM tD.lt;have PP:=xW.none kC lY.lt;have X3:∀ q,(Value.slice VA L.length vc).ownBlock=some q→H6 q=none:=fun q hq=>xW.none (pX q hq) (qT.lt q hq).2
   have LE:=eA.mono xW.le;have Fk:=Hh (Qp.out.trans xW.le);clear RW P7 xW ul tD lY hY8 qT sM kC pX b0 b1 b2 b3 eA;have b0:=Yc.cell 0 rfl;have b1:=Yc.cell 1 rfl;have b2:=Yc.cell 2 rfl;have b3:=Yc.cell 3 rfl
   rcases au.out with ⟨hiz,rfl⟩ | ⟨hi,lk,rfl,Uq,tF,sJ⟩
   ·have bO:Hid (rn none ((l.drop P1).take k)=none):=rfl;have U8:¬ ((0:Int)<(i:Int)):=by omega
    have Js:decide ((0:Int)<(i:Int))=false:=decide_eq_false U8;clear hiz
    have jW:Hid ((L++[x]).length≤c1):=by
     exact je5
    have tf:=ct.alloc (.cells (ze x ja jb jc jd).toArray 83);have xr:=bH.alloc (.cells (ze x ja jb jc jd).toArray 83);have mu:=Qr.alloc (.cells (ze x ja jb jc jd).toArray 83);have nY:=Qq.alloc (.cells (ze x ja jb jc jd).toArray 83);exact jap
   have U8:(0:Int)<(i:Int):=by omega
   have Js:decide ((0:Int)<(i:Int))=true:=decide_eq_true U8;have CM:=Hh (fun(W:World) (hW:Holds W H6)=>ss W KB KA lk key kn key.length kc kac Uq rfl (by omega) (by have:=em.out;omega) (Src.of_row (sJ.mono Fk.out).row hW) (Src.of_row oM.row hW));obtain⟨q,hq⟩:∃ q,Lib.compareBytes lk key=q:=⟨_,rfl⟩
   rw[hq]at CM;have HQ:=Hh hq;clear Uq tF sJ hq
   by_cases lV:q=0
   ·subst lV
    have bO:Hid (rn (some lk) ((l.drop P1).take k)=some 7):=by
     rw[Hid,gX.out,rn,if_pos (by rw[(uK lk key).1 HQ.out];exact uJ key)]
    go_wp2_with fail
    refine(CM.out _ ct.psr.holds).mono ?_
    rintro e w10 ⟨rfl,vd⟩
    have sE:=ct.below_ vd;have qz:=bH.below vd;have E:Hid (uL 5 d n (l.drop p) cnt=.err 7):=by rw[Hid,eS.out,ur.out,aJ L k0 Rp.out rfl (by have:=Z0.out;simp;omega) bO.out];rfl
    go_wp2_with (with_reducible refine zx ?_)
    refine stI qz fun wz hTy zS=>?_
    have yl:=sE.gb Yh (Nat.le_refl _) yC zS;exact jc8
   have t0:(q==0)=false:=by simpa using lV
   have t0':(q=0)=False:=eq_false lV
   by_cases el:q<0
   ·have bO:Hid (rn (some lk) ((l.drop P1).take k)=none):=by
     rw[Hid,gX.out,rn,if_neg (fun h=>lV (by rw[← HQ.out,(uK key lk).1 h];exact uJ lk)),if_neg (fun h=>by
      have h1:=HQ.out;have h2:=rG lk key lk (by omega) h;rw[uJ]at h2
      omega)]
    have t1:¬ ((0:Int)<q):=by omega
    have t1':decide ((0:Int)<q)=false:=decide_eq_false t1;clear lV el;go_wp2_with fail
    refine(CM.out _ ct.psr.holds).mono ?_
    rintro e w10 ⟨rfl,vd⟩
    have sE:=ct.below_ vd;have qz:=bH.below vd;have eW:=Qr.below vd;have eX:=Yc.below vd;have eV:=Qq.below vd;clear ct bH Qr Yc Qq vd b0 b1 b2 b3;go_wp2_with fail
    refine(CM.out _ sE.psr.holds).mono ?_
    rintro e w11 ⟨rfl,kD⟩
    have mM:=sE.below_ kD;have mH:=qz.below kD;have YZ:=eW.below kD;have eY:=eX.below kD;have YV:=eV.below kD;clear sE qz eW eX eV kD CM;have b0:=eY.cell 0 rfl;have b1:=eY.cell 1 rfl;have b2:=eY.cell 2 rfl;have b3:=eY.cell 3 rfl
    have jW:Hid ((L++[x]).length≤c1):=by
     exact je5
    have tf:=mM.alloc (.cells (ze x ja jb jc jd).toArray 83);have xr:=mH.alloc (.cells (ze x ja jb jc jd).toArray 83);have mu:=YZ.alloc (.cells (ze x ja jb jc jd).toArray 83);have nY:=YV.alloc (.cells (ze x ja jb jc jd).toArray 83);exact jap
   have bO:Hid (rn (some lk) ((l.drop P1).take k)=some 6):=by
    rw[Hid,gX.out,rn,if_neg (fun h=>lV (by rw[← HQ.out,(uK key lk).1 h];exact uJ lk)),if_pos (lF lk key (by rw[HQ.out];exact lV) (by rw[HQ.out];exact el))]
   have t1:(0:Int)<q:=by omega
   have t1':decide ((0:Int)<q)=true:=decide_eq_true t1;clear lV el;go_wp2_with fail
   refine(CM.out _ ct.psr.holds).mono ?_
   rintro e w10 ⟨rfl,vd⟩
   have sE:=ct.below_ vd;have qz:=bH.below vd;clear ct bH Qr Yc Qq vd b0 b1 b2 b3;go_wp2_with fail
   refine(CM.out _ sE.psr.holds).mono ?_
   rintro e w11 ⟨rfl,kD⟩
   have mM:=sE.below_ kD;have mH:=qz.below kD;clear sE qz kD CM;have E:Hid (uL 5 d n (l.drop p) cnt=.err 6):=by rw[Hid,eS.out,ur.out,aJ L k0 Rp.out rfl (by have:=Z0.out;simp;omega) bO.out];rfl
   go_wp2_with (with_reducible refine zx ?_)
   refine stI mH fun wz hTy zS=>?_
   have yl:=mM.gb Yh (Nat.le_refl _) yC zS;exact jc9
  have ev1:((i:Int)%2==0)=false:=by rw[beq_eq_false_iff_ne];omega
  have ev2:((i:Int)%2=0)=False:=eq_false (by omega);have ev3:((i:Int).tmod 2==0)=false:=by rw[beq_eq_false_iff_ne,Int.tmod_eq_emod_of_nonneg (by omega)];omega
  have ev4:((i:Int).tmod 2=0)=False:=eq_false (by rw[Int.tmod_eq_emod_of_nonneg (by omega)];omega);have Z0:=Hh hev
  have NT:Hid ((i+1=0∧last=none)∨(0<i+1∧∃ key:List UInt8,last=some key∧kn=key.length∧key.length≤4096∧IsBytes H5 KB kc key)):=by
   rcases au.out with ⟨hiz,_⟩ | ⟨hi,lk,e1,e2,e3,e4⟩
   ·exact absurd hiz (by omega)
   exact .inr ⟨by omega,lk,e1,e2,e3,e4.mono Qp.out⟩
  clear hev
  have jW:Hid ((L++[x]).length≤c1):=by
   exact je5
  obtain⟨tf,xr,mu,nY⟩:=jfN;go_wp2_with (at_builtin;refine yq ?_)
  refine yJ rfl (.tmp 75) (.tmp 77) rfl (X+1) (.slice VA L.length vc) H5 _ rfl nY _ 1 _ (ze x ja jb jc jd) [x] rfl rfl (ItemsC.one eA) (Src.new _ _ _ _ rfl _ rfl) (by have:=ef.out;simp;omega) mu.lt fun v' w10 hO10 hg10 hat10=>?_
  obtain⟨VA',vc',rfl,_⟩:=hO10.form;obtain⟨uD,iY,pJ,tj⟩:=jfM;obtain⟨L',oR⟩:∃ L',L++[x]=L':=⟨_,rfl⟩
  rw[oR]at hO10 pJ jW⊢;have kF:=Hh (show vP 5 (zZ d) N true (l.drop p) cnt none=(vP 5 (zZ d) m1 (decide ((i+1)%2=0)) (l.drop (p+(k0+k))) c1 last).pre (L++[x]) (k0+k) by rw[ur.out,QD L k0 Rp.out (by have:=Z0.out;simp;omega),List.drop_drop,← oF.out,Nat.add_assoc,show decide (i%2=0)=false by have:=Z0.out;simp;omega,show decide ((i+1)%2=0)=true by have:=Z0.out;simp;omega];rfl);rw[oR]at kF;have lM:L.length+1=L'.length:=by rw[← oR];simp
  try rw[lM]
  clear oR tf xr mu nY hg10 hat10 b0 b1 b2 b3 lM;have KI:IntKind.u64.wrap ((i:Int)+1)=(i:Int)+1:=by rw[IntKind.wrap_u64];have:=RG.out;omega
  rw[show P1+k=p+(k0+k) by have:=oF.out;omega]at tj;have pW:=Hh iZ;clear iZ;go_wp2_with fail
  go_roundw
  case rel=>exact⟨i+1,H5,VA',vc',_,L',k0+k,c1,last,KB,kn,kc,by first | rfl | (simp;done) | go_num,rfl,rfl,NT.out,by have:=pW.out;omega,rfl,tj,uD,sM,iY,kC,hO10,pJ,jW.out,by rw[Yl.out];exact kF.out⟩
  case measure=>have:=pW.out;simp[intOf];omega
 have hm:N=i:=by have:=Oe.out;omega
 subst hm
 have E1:Hid (uL 5 d n (l.drop p) cnt=.ok (.mk 5 0 [] L) k0 cc):=by
  rw[Hid,eS.out,rf.out,Nat.sub_self,vP];simp[PL.pre,elR]
 obtain⟨H5,bZ,XD,ua,XL,qZ,qa,lN⟩:=vY.snap td.psr.holds (fun q hq=>pQ q (ti hq));have xN:∀ q,VA.map (·.block)=some q→X+1≤q:=fun q hq=>(vY.lt q (ti hq)).1
 obtain⟨Rf,U1,xS⟩:=jfP;have Rc:IsItem H5 none 0 VA vc (.mk 5 0 [] L):=IsRowI.item ⟨qZ,qa,lN⟩ 5 (by omega) 0 (by have:=en.out;omega);exact jat
end
end Go.Proofs.YtgaoknihklmakabGreatDoor
