/- squeezed. Walks: the reference's reader of i -/
import Derived.Test.YtgaoknihklmakabGreatDoorK12
import Derived.Deep.Matrix
import GoSem.Core.Float
import Derived.Laws.FloatArith
import Derived.Deep.Cut
import Derived.Lib.Mul64
import Derived.Laws.Bits64
import Derived.Laws.Externs
set_option linter.unusedVariables false
set_option linter.unusedSimpArgs false
set_option maxRecDepth 100000
set_option maxHeartbeats 12800000
namespace Go.Proofs.YtgaoknihklmakabGreatDoor
open Go.RowKit
theorem jaW{P:Prop}(h:P:=by
 rw[hv]at UV;have E:Hid (zZ d (l.drop p) cnt=.ok (.mk 3 0 s []) (k+n) (cnt+1)):=by rw[Hid,E1.out,if_neg (fun h=>by rw[hv]at h;cases h.2)]
 clear hv E1;go_wp2_with fail
 refine UV.out.mono ?_
 rintro e w8 ⟨rfl,nC⟩
 have ul:=ux.below_ nC;have tD:=vz.below nC;clear UV ux vz;go_wp2_with (with_reducible refine zx ?_)
 refine stI tD fun wz hTy zS=>?_
 have yl:=ul.gb la (Nat.le_refl _) yC zS;exact jet):P:=h
theorem ja2{P:Prop}(h:P:=by
 have vz:=uD.gr xp (by omega);have la:=sM;clear xS uD mr xp a1;have E:Hid (zZ d (l.drop p) cnt=.ok (.mk 2 0 s []) (k+n) (cnt+1)):=by rw[Hid,E1.out,if_neg (fun h=>absurd h.1 (by omega))]
 have IB:=oM;clear E1;go_wp2_with (with_reducible refine zx ?_)
 refine stI vz fun wz hTy zS=>?_
 have yl:=ux.gb la (Nat.le_refl _) yC zS;exact jeu):P:=h
theorem jbY{P:Prop}(h:P:=by rw[Hid,nN d (l.drop p) cnt (by have:=HC.out;omega) HH.out (by have:=sD.out.2.1;omega) (by have:=sD.out.2.1;omega),sD.out.2.1];exact je7):P:=h
theorem jcn{P:Prop}(h:P:=by exact⟨tj.psr.blk.cell 0 rfl,tj.psr.blk.cell 1 rfl⟩):P:=h
theorem jec{P:Prop}(h:P:=by
 have vz:=uD.gr xp (by omega);have la:=sM;clear xS uD mr xp a1;have IB:=oM;have UV:=Hh (sB (hTab.mono xW.le) w7 ux.psr.holds RA s s.length rc rfl oM)
 cases hv:Lib.validD s with
 | false =>
  rw[hv]at UV;have E:Hid (zZ d (l.drop p) cnt=.err 5):=by rw[Hid,E1.out,if_pos (by first | exact⟨rfl,hv⟩ | exact⟨trivial,hv⟩)]
  clear hv E1;go_wp2_with fail
  refine UV.out.mono ?_
  rintro e w8 ⟨rfl,nC⟩
  have ul:=ux.below_ nC;have tD:=vz.below nC;clear UV ux vz;go_wp2_with (with_reducible refine zx ?_)
  refine stI tD fun wz hTy zS=>?_
  have yl:=ul.gb la (Nat.le_refl _) yC zS;exact jaj
 | true =>
 exact jaW):P:=h
theorem jef{P:Prop}(h:P:=by
 have z0:(l.length:Int)-(P:Int)<(n:Int):=by omega
 have E:Hid (zZ d (l.drop p) cnt=.err 2):=by rw[Hid,E0.out,if_pos (by have:=sD.out.2.2;omega)]
 clear mT rE mv kK WK dC j0 E0 zB rh;go_wp2_with fail
 go_big_quiet (fail)
 have tf:=ul.drewN nq;have xr:Blk (wc.drewN nq) w.heap.size 83 #[.int .i64 0,.int .u64 0,.slice none 0 0,.slice none 0 0]:=tD;go_wp2_with (with_reducible refine zx ?_)
 refine stI xr fun wz hTy zS=>?_
 have yl:=tf.gb yj (Nat.le_refl _) yC zS;exact jaj):P:=h
theorem jf0{P:Prop}(h:P:=by have OJ:(c=P)=False:=eq_false mw;have HS:=Hh (show Src w9.drew (some ⟨b,off+P,none⟩) (s.map zT) by have hq:=lH (w:=w9.drew) (n:=n) mF P (some ⟨b,off+P,none⟩) (fun _=>rfl) (by omega);rw[j0]at hq;exact hq);have pI:Rdg 129 w H w9.drew H g (some ⟨b,off,none⟩) c l P (cnt+1):=tf.drewN 1;have mJ:Blk w9.drew w.heap.size 83 #[.int .i64 0,.int .u64 0,.slice none 0 0,.slice none 0 0]:=xr;exact And.intro OJ (And.intro HS (And.intro pI mJ))):P:=h
theorem jf7{P:Prop}(h:P:=by have HS:=Hh (show Src w9.drew (some ⟨b,off,none⟩) (s.map zT) by have hz:s=[]:=List.eq_nil_of_length_eq_zero (by have:=gl.out;omega);rw[hz];exact Src.nil _ _);have pI:Rdg 129 w H w9.drew H g (some ⟨b,off,none⟩) P l P (cnt+1):=tf.drewN 1;have mJ:Blk w9.drew w.heap.size 83 #[.int .i64 0,.int .u64 0,.slice none 0 0,.slice none 0 0]:=xr;exact And.intro HS (And.intro pI mJ)):P:=h
theorem jhi{P:Prop}(h:P:=by have vd:=yr (by simpa [Value.ownBlock] using hg);exact vd):P:=h
theorem jhp{P:Prop}(h:P:=by have ux:Rdg 129 w H w7 H6 g (some ⟨b,off,none⟩) P l (P+n) (cnt+1):=xS.step xp mr (by omega) (by have:=HC.out;omega);exact ux):P:=h
theorem jhq{P:Prop}(h:P:=by have ux:Rdg 129 w H w7 H6 g (some ⟨b,off,none⟩) c l (P+n) (cnt+1):=xS.step xp mr (by omega) (by have:=HC.out;omega);exact ux):P:=h
theorem jhD{P:Prop}(h:P:=by have ga:Blk (wc.drewN nq) w.heap.size 83 #[.int .i64 0,.int .u64 0,.slice none 0 0,.slice none 0 0]:=tD;exact ga):P:=h
section
variable {d:Nat} {w:World} {H:Snap} {g:Nat} {A:Option Addr} {c:Nat} {l:List UInt8} {p cnt lv:Nat}
theorem YB (hTab:Tabs H) (hE:∀ e,d=e+1→Wy e) (hlv:lv+d=8) (hP:Psr 129 w g H A c l p cnt) (hc:cnt<256) (qU:p<l.length) {ch:UInt8}(e8:l[p]=ch) {low kd:Nat}(xN:ch.toNat%32=low) (gw:ch.toNat/32=kd) (jY:low≤27) (hk:kd≤6):Calls Tryz.prog 94 #[.pointer (some ⟨g,0,none⟩),.int .i64 (lv:Int)] w (ItemOut 129 w H g A c l p (zZ d (l.drop p) cnt)):=by
 obtain⟨yC,vx,vM,yj⟩:=jfx;have c2:=jf5;have ED:=nJ qU;rw[e8]at ED
 have EH0:Hid (zJ (l.drop p)=if 27<low then .error 3 else if low<24 then .ok (ch.toNat,low,1) else if(l.drop (p+1)).length<2 ^ (low-24) then .error 2
    else if ch.toNat/32<7∧(zF 0 (beN ((l.drop (p+1)).take (2 ^ (low-24))))).length≠1+2 ^ (low-24) then .error 4
    else .ok (ch.toNat,beN ((l.drop (p+1)).take (2 ^ (low-24))),1+2 ^ (low-24))):=by rw[Hid,ED,zJ,xN]
 have z27:¬ ((27:Int)<(low:Int)):=by omega
 have z27b:decide ((27:Int)<(low:Int))=false:=decide_eq_false z27;have Lh:=Hh jY;have Oh:=Hh hlv;have Gd:Hid (kd<7):=by rw[Hid];omega
 have s7:((kd:Int)==7)=false:=by simp;omega
 have q7:((kd:Int)=7)=False:=eq_false (by omega);clear jY ED;have z0:¬ (((l.length:Nat):Int)≤(p:Int)):=by omega
 have z0':=jhc;have ZE:(p:Int)<(l.length:Int):=by omega
 have Ut:(0:Int)≤(p:Int):=by omega
 have mT:=hP.small;have K1:=jgt;obtain⟨b,off,rfl,uj⟩:=hP.bytes.at_ (by omega);have KA:=ax ⟨ch.toNat,ch.toNat_lt⟩
 simp only at KA
 rw[xN]at KA;have S:(ch.toNat:Int)/32=(kd:Int):=by omega
 have IR:(kd:Int)≤7:=by have:=ch.toNat_lt;omega
 have eD:(low:Int)≤31:=by omega
 obtain⟨jP,sD,Li⟩:=jgo;clear uj xN gw mT e8;have wU:¬ ((256:Int)≤(cnt:Int)):=by omega
 have xL:=jgK;obtain⟨KC,HC⟩:=jfF;clear hc;go_enter Tryz.func94,Tryz.ntmps94
 go_wp2_with (with_reducible refine zx ?_)
 refine zu rfl _ _ _ rfl rfl g 2 (.int .i64 ((cnt:Int)+1)) rfl rfl _ _ vx.psr.blk yp (by simp) rfl fun w2 yT zM=>?_
 obtain⟨vO,tK⟩:=jgg;clear vx vM yT zM c2 KC wU xL;obtain⟨i6,a0,a1⟩:=jg9;go_wp2_with fail
 go_big_quiet (fail)
 have gh:=vO.drewN nq;have gZ:=jgx
 generalize w2.drewN nq=w3 at gh gZ⊢
 obtain⟨ve,vq⟩:=And.intro gh gZ;clear gh gZ vO tK a0 a1 i6;obtain⟨a0,a1⟩:=jgZ;have q0:=ve.psr.holds.cell Li.out;go_upto_region 6 with fail
 go_big_quiet (fail)
 obtain⟨pF,pC⟩:=jfQ
 generalize w3.drewN nq=w4 at pF pC⊢
 obtain⟨tp,uz⟩:=And.intro pF pC;clear pF pC ve vq a0 a1 q0;have a1:=tp.psr.blk.cell 1 rfl;go_wp2_with (with_reducible refine zx ?_)
 refine zu rfl _ _ _ rfl rfl g 1 (.int .i64 ((p:Int)+1)) rfl rfl _ _ tp.psr.blk yp (by simp) rfl fun w5 qc xT=>?_
 obtain⟨tO,vw⟩:=jgm;clear tp uz qc xT a1 K1 z0 z0' ZE Ut KA S;go_upto_region 12 with fail
 have KU:IntKind.u64.wrap (low:Int)=(low:Int):=by rw[IntKind.wrap_u64];omega
 go_upto_if 80 with fail
 go_cut [8] (fun s8 wx=>∃ n k:Nat,zJ (l.drop p)=.ok (ch.toNat,n,k)∧s8=.int .u64 (n:Int)∧Rdg 129 w H wx H g (some ⟨b,off,none⟩) c l (p+k) (cnt+1)∧Blk wx w.heap.size 83 #[.int .i64 0,.int .u64 0,.slice none 0 0,.slice none 0 0])
 case first =>
  by_cases hl24:low<24
  ·have z24:¬ ((23:Int)<(low:Int)):=by omega
   have z24b:decide ((23:Int)<(low:Int))=false:=decide_eq_false z24;have EH:Hid (zJ (l.drop p)=.ok (ch.toNat,low,1)):=by rw[Hid,EH0.out,if_neg (by have:=Lh.out;omega),if_pos hl24]
   clear hl24;go_wp2_with fail
   go_meet
   exact⟨low,1,EH.out,rfl,tO,vw⟩
  have z24:(23:Int)<(low:Int):=by omega
  have EH:Hid (zJ (l.drop p)=if(l.drop (p+1)).length<2 ^ (low-24) then .error 2
    else if ch.toNat/32<7∧(zF 0 (beN ((l.drop (p+1)).take (2 ^ (low-24))))).length≠1+2 ^ (low-24) then .error 4
    else .ok (ch.toNat,beN ((l.drop (p+1)).take (2 ^ (low-24))),1+2 ^ (low-24))):=by rw[Hid,EH0.out,if_neg (by have:=Lh.out;omega),if_neg hl24]
  clear EH0;obtain⟨s,S0⟩:∃ s,2 ^ (low-24)=s:=⟨_,rfl⟩
  rw[S0]at EH;obtain⟨t,ht⟩:∃ t,1+s=t:=⟨_,rfl⟩
  rw[ht]at EH;obtain⟨u,hu⟩:∃ u:Int,(t:Int)=u:=⟨_,rfl⟩
  have H4:(low=24∧s=1∧t=2∧u=2)∨(low=25∧s=2∧t=3∧u=3)∨(low=26∧s=4∧t=5∧u=5)∨(low=27∧s=8∧t=9∧u=9):=by
   rcases(by have:=Lh.out;omega:low=24∨low=25∨low=26∨low=27) with rfl | rfl | rfl | rfl <;> simp only[Nat.reduceSub,Nat.reducePow]at S0 <;> omega
  have nD:=rS ((l.drop (p+1)).take s);have NM:=gH tO.psr s (by omega) (by omega);obtain⟨n,hn⟩:∃ n,beN ((l.drop (p+1)).take s)=n:=⟨_,rfl⟩
  rw[hn]at EH nD
  have nD:n<18446744073709551616:=by
   refine Nat.lt_of_lt_of_le nD (Nat.le_trans (Nat.pow_le_pow_right (by omega) (show _≤8 by rw[List.length_take];omega)) (by decide))
  have NM:=Hh NM;have HN:=Hh hn;have GV:=Hh (fun w=>pR (kd:Int) ((n:Nat):Int) w (by omega) (by have:=Gd.out;omega) (by omega) (by omega));obtain⟨fl,e9⟩:∃ fl,(zF 0 n).length=fl:=⟨_,rfl⟩
  have ef:Hid ((zF (kd:Int).toNat (n:Int).toNat).length=fl):=by rw[Hid,← e9,vh,vh];rfl
  rw[e9]at EH
  have WQ:Hid (fl=t∨(((fl:Int)==u)=false∧((fl:Int)=u)=False∧fl≠t)):=by
   exact jdd
  have E2:Hid (l.length<p+1+s→zZ d (l.drop p) cnt=.err 2):=fun h=>by
   have h1:zJ (l.drop p)=.error 2:=by rw[EH.out,if_pos (by rw[List.length_drop];have:=sD.out.2.2;omega)]
   rw[sA d (l.drop p) cnt (by have:=HC.out;omega) h1]
  have EH2:Hid (p+1+s≤l.length→zJ (l.drop p)=if fl≠t then .error 4 else .ok (ch.toNat,n,t)):=fun h=>by
   rw[EH.out,if_neg (by rw[List.length_drop];omega)];have:=Gd.out;have:=sD.out.2.1
   by_cases h:fl=t <;> simp[h] <;> omega
  clear hl24 z24 eD z27 z27b KU EH nD hn e9 S0 ht hu
  rcases H4 with ⟨rfl,rfl,rfl,rfl⟩ | ⟨rfl,rfl,rfl,rfl⟩ | ⟨rfl,rfl,rfl,rfl⟩ | ⟨rfl,rfl,rfl,rfl⟩
  all_goals
   go_wp2_with fail
   refine NM.out.mono ?_
   rintro e w6 (⟨hs,rfl,nX,xW⟩ | ⟨hs,rfl,nX,xW⟩)
   ·have E:=Hh (E2.out hs);have xS:Rdg 129 w H w6 H g (some ⟨b,off,none⟩) c l (p+1) (cnt+1):=tO.step xW nX sD.out.2.2 (by have:=HC.out;omega);have vN:=vw.gr xW (by omega);clear NM GV hs tO vw nX xW EH2 E2 WQ ef HN;go_wp2_with (with_reducible refine zx ?_)
    refine stI vN fun wz hTy zS=>?_
    have yl:=xS.gb yj (Nat.le_refl _) yC zS;exact jaj
   have xS:Rdg 129 w H w6 H g (some ⟨b,off,none⟩) c l _ (cnt+1):=tO.step xW nX hs (by have:=HC.out;omega);have vN:=vw.gr xW (by omega);have EH3:=Hh (EH2.out hs);rw[HN.out];clear NM hs tO vw nX xW EH2 E2 HN;go_wp2_with fail
   refine(GV.out _).mono ?_
   rintro e w7 ⟨r,rfl,hf⟩
   have ux:=xS.below_ hf.2;have vz:=vN.below hf.2;obtain⟨RA,rc,rfl,_⟩:=hf.own.form;rw[ef.out];clear hf GV xS vN ef
   rcases WQ.out with hq | ⟨zq,zq2,hq⟩
   ·have EH4:=Hh (EH3.out.trans (if_neg (by rw[hq];simp)));clear EH3 WQ;rw[hq];clear hq;go_wp2_with fail
    go_meet
    exact⟨n,_,EH4.out,rfl,by have h:=ux;simp only[Nat.add_assoc,Nat.reduceAdd]at h;exact h,vz⟩
   have E:Hid (zZ d (l.drop p) cnt=.err 4):=by
    rw[Hid,sA d (l.drop p) cnt (by have:=HC.out;omega) (EH3.out.trans (if_pos hq))]
   clear EH3 hq WQ;go_wp2_with (with_reducible refine zx ?_)
   refine stI vz fun wz hTy zS=>?_
   have yl:=ux.gb yj (Nat.le_refl _) yC zS;go_wp2_with fail
   refine zw rfl rfl hTy rfl rfl zt rfl ?_
   exact ItemOut.err E.out rfl yl
 case rest =>
 obtain⟨n,k,hh,rfl,ul,tD⟩:=hcut;have HF:=Hh (wP hh);have HH:=Hh hh;clear hh tO vw
 rcases(by have:=Gd.out;omega:kd<2∨kd=2∨kd=3∨(4≤kd∧kd≤6)) with hk | rfl | rfl | hk
 ·have E:Hid (zZ d (l.drop p) cnt=.ok (.mk kd n [] []) k (cnt+1)):=by rw[Hid,jr d (l.drop p) cnt (by have:=HC.out;omega) HH.out (by have:=sD.out.2.1;omega),sD.out.2.1]
  have Ix:=Hh HF.out.n_lt
  rcases(by omega:kd=0∨kd=1) with rfl | rfl
  all_goals
   first
   | rw[show((0:Nat):Int)=0 from rfl]
   | rw[show((1:Nat):Int)=1 from rfl]
   go_wp2_with (with_reducible refine zx ?_)
   refine stI tD fun wz hTy zS=>?_
   have yl:=jhO;go_wp2_with fail
   refine zw rfl rfl hTy rfl rfl zt rfl ?_
   exact ItemOut.ok (ja:=none) (jb:=0) (jc:=none) (jd:=0) E.out rfl yl (IsItem.plain _ _ n (by omega) Ix.out)
 ·rw[show((2:Nat):Int)=2 from rfl]
  have E0:Hid (zZ d (l.drop p) cnt=(if(l.drop p).length<k+n then .err 2 else if 2=3∧Lib.validD (((l.drop p).drop k).take n)=false then .err 5 else .ok (.mk 2 0 (((l.drop p).drop k).take n) []) (k+n) (cnt+1))):=by
   exact jbY
  have mT:=ul.psr.small;have rE:=ul.psr.bytes.le;have mv:=ul.psr.bytes.max;have rh:=ul.psr.le;obtain⟨kK,WK⟩:=jgY;obtain⟨P,dC⟩:∃ P,p+k=P:=⟨_,rfl⟩
  obtain⟨s,j0⟩:∃ s,((l.drop p).drop k).take n=s:=⟨_,rfl⟩
  rw[j0]at E0;rw[List.drop_drop,dC]at j0;rw[dC]at ul rh;have K1:=jga;have K2:IntKind.u64.wrap ((l.length:Int)-(P:Int))=(l.length:Int)-(P:Int):=by rw[IntKind.wrap_u64];omega
  have a0:=ul.psr.blk.cell 0 rfl;have a1:=ul.psr.blk.cell 1 rfl;have Hz:(P:Int)≤(l.length:Int):=by omega
  have lU:(l.length:Int)≤4096:=by omega
  by_cases zB:l.length<P+n
  ·exact jef
  have z0:¬ ((l.length:Int)-(P:Int)<(n:Int)):=by omega
  have z0b:=jgw;have E1:Hid (zZ d (l.drop p) cnt=(if 2=3∧Lib.validD s=false then .err 5 else .ok (.mk 2 0 s []) (k+n) (cnt+1))):=by rw[Hid,E0.out,if_neg (by have:=sD.out.2.2;omega)];try simp
  have oN:n=s.length:=by rw[← j0,List.length_take,List.length_drop];omega
  have gl:=Hh oN;clear oN;obtain⟨KN,KP⟩:=jfR;have kt:((P:Int)+(n:Int)).toNat=P+n:=by omega
  have y0:(0:Int)≤(P:Int)+(n:Int):=by omega
  have y5:P≤P+n:=by omega
  have y6:P+n-P=n:=by omega
  have y1:(P:Int)≤(P:Int)+(n:Int):=by omega
  have y2:(P:Int)+(n:Int)≤(c:Int):=by omega
  have y3:(P:Int)≤(c:Int):=by omega
  have y4:(0:Int)≤(P:Int):=by omega
  have HK:=jgV;go_wp2_with fail
  go_big_quiet (fail)
  have gi:=ul.drewN nq;have ga:=jhD
  generalize wc.drewN nq=w9 at gi ga⊢
  obtain⟨tf,xr⟩:=And.intro gi ga;clear gi ga ul tD a0 a1 E0 z0 z0b;have mF:∀ j (hj:j<l.length),w9.cell? ⟨b,off+j,none⟩=some (zT l[j]):=fun j hj=>tf.psr.holds.cell (jP.out j hj)
  have a0:=tf.psr.blk.cell 0 rfl;have a1:=tf.psr.blk.cell 1 rfl
  by_cases mw:c=P
  ·have Yd:P=c:=mw.symm;subst Yd;clear mw;obtain⟨HS,pI,mJ⟩:=jf7;clear tf xr mF;go_upto_region 28 with fail
   refine zj 17 (fun w'=>w'.cell? ⟨g,0,none⟩=some (.slice (some ⟨b,off,none⟩) l.length P)∧w'.cell? ⟨g,1,none⟩=some (.int .i64 (P:Int))) (by kernel_rfl) (⟨a0,a1⟩) (fun zy=>?_)
   refine Tk 0 rfl zy ?_
   refine Tk 1 rfl zy ?_
   refine Tk 2 rfl zy ?_
   refine Tk 3 rfl zy ?_
   refine Tk 4 rfl zy ?_
   refine Tk 5 rfl zy ?_
   refine Tk 6 rfl zy ?_
   refine Tk 7 rfl zy ?_
   refine Tk 8 rfl zy ?_
   refine Tk 9 rfl zy ?_
   refine Tk 10 rfl zy ?_
   refine Tk 11 rfl zy ?_
   refine Tk 12 rfl zy ?_
   refine Tk 13 rfl zy ?_
   refine Tk 14 rfl zy ?_
   refine Tk 15 rfl zy ?_
   refine To 16 rfl fun K hK=>?_
   refine vk (.const (.slice none 0 0)) (.tmp 144) rfl w9.drew.heap.size (.slice none 0 0) [] rfl (OwnB.nil _ _) (some ⟨b,off,none⟩) n _ s rfl gl.out HS.out (by have:=gl.out;simp;omega) (Nat.le_refl _) fun v' w10 hO hg uF=>?_
   rw[List.nil_append]at hO;have vd:=jhi;have lO:Fresh w9.drew s v' w10:=⟨hO,vd⟩
   obtain⟨RA,rc,rfl,_⟩:=hO.form;have tj:=pI.below_ vd;go_simp
   refine Ko hK ?_ fun zy=>?_
   ·exact jcn
   clear hK K
   refine To 17 rfl fun K hK=>?_
   go_simp
   refine Kz hK ?_
   clear hK K
   refine Wd ?_
   clear zy a0 a1 hO hg uF HS;have uD:=mJ.below vd;obtain⟨H6,xW,oM,_⟩:=Fresh.snapB pI.psr.holds lO;have xS:=pI.grown xW;have sM:=xW.none yj mJ.lt;clear tj lO pI mJ vd;have a1:=jg3;go_wp2_with (with_reducible refine zx ?_)
   refine zu rfl _ _ _ rfl rfl g 1 (.int .i64 ((P:Int)+(n:Int))) rfl rfl _ _ xS.psr.blk yp (by simp) rfl fun w7 mr xp=>?_
   have ux:=jhp;exact ja2
  obtain⟨OJ,HS,pI,mJ⟩:=jf0;clear tf xr mF;go_upto_region 28 with fail
  refine zj 17 (fun w'=>w'.cell? ⟨g,0,none⟩=some (.slice (some ⟨b,off,none⟩) l.length c)∧w'.cell? ⟨g,1,none⟩=some (.int .i64 (P:Int))) (by kernel_rfl) (⟨a0,a1⟩) (fun zy=>?_)
  refine Tk 0 rfl zy ?_
  refine Tk 1 rfl zy ?_
  refine Tk 2 rfl zy ?_
  refine Tk 3 rfl zy ?_
  refine Tk 4 rfl zy ?_
  refine Tk 5 rfl zy ?_
  refine Tk 6 rfl zy ?_
  refine Tk 7 rfl zy ?_
  refine Tk 8 rfl zy ?_
  refine Tk 9 rfl zy ?_
  refine Tk 10 rfl zy ?_
  refine Tk 11 rfl zy ?_
  refine Tk 12 rfl zy ?_
  refine Tk 13 rfl zy ?_
  refine Tk 14 rfl zy ?_
  refine Tk 15 rfl zy ?_
  refine To 16 rfl fun K hK=>?_
  refine vk (.const (.slice none 0 0)) (.tmp 144) rfl w9.drew.heap.size (.slice none 0 0) [] rfl (OwnB.nil _ _) (some ⟨b,off+P,none⟩) n _ s rfl gl.out HS.out (by have:=gl.out;simp;omega) (Nat.le_refl _) fun v' w10 hO hg uF=>?_
  rw[List.nil_append]at hO;have vd:=jhi;have lO:Fresh w9.drew s v' w10:=⟨hO,vd⟩
  obtain⟨RA,rc,rfl,_⟩:=hO.form;have tj:=pI.below_ vd;go_simp
  refine Ko hK ?_ fun zy=>?_
  ·exact jcn
  clear hK K
  refine To 17 rfl fun K hK=>?_
  go_simp
  refine Kz hK ?_
  clear hK K
  refine Wd ?_
  clear zy a0 a1 hO hg uF HS;have uD:=mJ.below vd;obtain⟨H6,xW,oM,_⟩:=Fresh.snapB pI.psr.holds lO;have xS:=pI.grown xW;have sM:=xW.none yj mJ.lt;clear tj lO pI mJ vd;have a1:=jg3;go_wp2_with (with_reducible refine zx ?_)
  refine zu rfl _ _ _ rfl rfl g 1 (.int .i64 ((P:Int)+(n:Int))) rfl rfl _ _ xS.psr.blk yp (by simp) rfl fun w7 mr xp=>?_
  have ux:=jhq;exact ja2
 ·rw[show((3:Nat):Int)=3 from rfl]
  have E0:Hid (zZ d (l.drop p) cnt=(if(l.drop p).length<k+n then .err 2 else if 3=3∧Lib.validD (((l.drop p).drop k).take n)=false then .err 5 else .ok (.mk 3 0 (((l.drop p).drop k).take n) []) (k+n) (cnt+1))):=by
   exact jbY
  have mT:=ul.psr.small;have rE:=ul.psr.bytes.le;have mv:=ul.psr.bytes.max;have rh:=ul.psr.le;obtain⟨kK,WK⟩:=jgY;obtain⟨P,dC⟩:∃ P,p+k=P:=⟨_,rfl⟩
  obtain⟨s,j0⟩:∃ s,((l.drop p).drop k).take n=s:=⟨_,rfl⟩
  rw[j0]at E0;rw[List.drop_drop,dC]at j0;rw[dC]at ul rh;have K1:=jga;have K2:IntKind.u64.wrap ((l.length:Int)-(P:Int))=(l.length:Int)-(P:Int):=by rw[IntKind.wrap_u64];omega
  have a0:=ul.psr.blk.cell 0 rfl;have a1:=ul.psr.blk.cell 1 rfl;have Hz:(P:Int)≤(l.length:Int):=by omega
  have lU:(l.length:Int)≤4096:=by omega
  by_cases zB:l.length<P+n
  ·exact jef
  have z0:¬ ((l.length:Int)-(P:Int)<(n:Int)):=by omega
  have z0b:=jgw;have E1:Hid (zZ d (l.drop p) cnt=(if 3=3∧Lib.validD s=false then .err 5 else .ok (.mk 3 0 s []) (k+n) (cnt+1))):=by rw[Hid,E0.out,if_neg (by have:=sD.out.2.2;omega)];try simp
  have oN:n=s.length:=by rw[← j0,List.length_take,List.length_drop];omega
  have gl:=Hh oN;clear oN;obtain⟨KN,KP⟩:=jfR;have kt:((P:Int)+(n:Int)).toNat=P+n:=by omega
  have y0:(0:Int)≤(P:Int)+(n:Int):=by omega
  have y5:P≤P+n:=by omega
  have y6:P+n-P=n:=by omega
  have y1:(P:Int)≤(P:Int)+(n:Int):=by omega
  have y2:(P:Int)+(n:Int)≤(c:Int):=by omega
  have y3:(P:Int)≤(c:Int):=by omega
  have y4:(0:Int)≤(P:Int):=by omega
  have HK:=jgV;go_wp2_with fail
  go_big_quiet (fail)
  have gi:=ul.drewN nq;have ga:=jhD
  generalize wc.drewN nq=w9 at gi ga⊢
  obtain⟨tf,xr⟩:=And.intro gi ga;clear gi ga ul tD a0 a1 E0 z0 z0b;have mF:∀ j (hj:j<l.length),w9.cell? ⟨b,off+j,none⟩=some (zT l[j]):=fun j hj=>tf.psr.holds.cell (jP.out j hj)
  have a0:=tf.psr.blk.cell 0 rfl;have a1:=tf.psr.blk.cell 1 rfl
  by_cases mw:c=P
  ·have Yd:P=c:=mw.symm;subst Yd;clear mw;obtain⟨HS,pI,mJ⟩:=jf7;clear tf xr mF;go_upto_region 28 with fail
   refine zj 17 (fun w'=>w'.cell? ⟨g,0,none⟩=some (.slice (some ⟨b,off,none⟩) l.length P)∧w'.cell? ⟨g,1,none⟩=some (.int .i64 (P:Int))) (by kernel_rfl) (⟨a0,a1⟩) (fun zy=>?_)
   refine Tk 0 rfl zy ?_
   refine Tk 1 rfl zy ?_
   refine Tk 2 rfl zy ?_
   refine Tk 3 rfl zy ?_
   refine Tk 4 rfl zy ?_
   refine Tk 5 rfl zy ?_
   refine Tk 6 rfl zy ?_
   refine Tk 7 rfl zy ?_
   refine Tk 8 rfl zy ?_
   refine Tk 9 rfl zy ?_
   refine Tk 10 rfl zy ?_
   refine Tk 11 rfl zy ?_
   refine Tk 12 rfl zy ?_
   refine Tk 13 rfl zy ?_
   refine Tk 14 rfl zy ?_
   refine Tk 15 rfl zy ?_
   refine To 16 rfl fun K hK=>?_
   refine vk (.const (.slice none 0 0)) (.tmp 144) rfl w9.drew.heap.size (.slice none 0 0) [] rfl (OwnB.nil _ _) (some ⟨b,off,none⟩) n _ s rfl gl.out HS.out (by have:=gl.out;simp;omega) (Nat.le_refl _) fun v' w10 hO hg uF=>?_
   rw[List.nil_append]at hO;have vd:=jhi;have lO:Fresh w9.drew s v' w10:=⟨hO,vd⟩
   obtain⟨RA,rc,rfl,_⟩:=hO.form;have tj:=pI.below_ vd;go_simp
   refine Ko hK ?_ fun zy=>?_
   ·exact jcn
   clear hK K
   refine To 17 rfl fun K hK=>?_
   go_simp
   refine Kz hK ?_
   clear hK K
   refine Wd ?_
   clear zy a0 a1 hO hg uF HS;have uD:=mJ.below vd;obtain⟨H6,xW,oM,_⟩:=Fresh.snapB pI.psr.holds lO;have xS:=pI.grown xW;have sM:=xW.none yj mJ.lt;clear tj lO pI mJ vd;have a1:=jg3;go_wp2_with (with_reducible refine zx ?_)
   refine zu rfl _ _ _ rfl rfl g 1 (.int .i64 ((P:Int)+(n:Int))) rfl rfl _ _ xS.psr.blk yp (by simp) rfl fun w7 mr xp=>?_
   have ux:=jhp;exact jec
  obtain⟨OJ,HS,pI,mJ⟩:=jf0;clear tf xr mF;go_upto_region 28 with fail
  refine zj 17 (fun w'=>w'.cell? ⟨g,0,none⟩=some (.slice (some ⟨b,off,none⟩) l.length c)∧w'.cell? ⟨g,1,none⟩=some (.int .i64 (P:Int))) (by kernel_rfl) (⟨a0,a1⟩) (fun zy=>?_)
  refine Tk 0 rfl zy ?_
  refine Tk 1 rfl zy ?_
  refine Tk 2 rfl zy ?_
  refine Tk 3 rfl zy ?_
  refine Tk 4 rfl zy ?_
  refine Tk 5 rfl zy ?_
  refine Tk 6 rfl zy ?_
  refine Tk 7 rfl zy ?_
  refine Tk 8 rfl zy ?_
  refine Tk 9 rfl zy ?_
  refine Tk 10 rfl zy ?_
  refine Tk 11 rfl zy ?_
  refine Tk 12 rfl zy ?_
  refine Tk 13 rfl zy ?_
  refine Tk 14 rfl zy ?_
  refine Tk 15 rfl zy ?_
  refine To 16 rfl fun K hK=>?_
  refine vk (.const (.slice none 0 0)) (.tmp 144) rfl w9.drew.heap.size (.slice none 0 0) [] rfl (OwnB.nil _ _) (some ⟨b,off+P,none⟩) n _ s rfl gl.out HS.out (by have:=gl.out;simp;omega) (Nat.le_refl _) fun v' w10 hO hg uF=>?_
  rw[List.nil_append]at hO;have vd:=jhi;have lO:Fresh w9.drew s v' w10:=⟨hO,vd⟩
  obtain⟨RA,rc,rfl,_⟩:=hO.form;have tj:=pI.below_ vd;go_simp
  refine Ko hK ?_ fun zy=>?_
  ·exact jcn
  clear hK K
  refine To 17 rfl fun K hK=>?_
  go_simp
  refine Kz hK ?_
  clear hK K
  refine Wd ?_
  clear zy a0 a1 hO hg uF HS;have uD:=mJ.below vd;obtain⟨H6,xW,oM,_⟩:=Fresh.snapB pI.psr.holds lO;have xS:=pI.grown xW;have sM:=xW.none yj mJ.lt;clear tj lO pI mJ vd;have a1:=jg3;go_wp2_with (with_reducible refine zx ?_)
  refine zu rfl _ _ _ rfl rfl g 1 (.int .i64 ((P:Int)+(n:Int))) rfl rfl _ _ xS.psr.blk yp (by simp) rfl fun w7 mr xp=>?_
  have ux:=jhq;exact jec
 have Ug:(4:Int)≤(kd:Int):=by omega
 have NH:(kd:Int)≤6:=by omega
 have s0:((kd:Int)==0)=false:=by simp;omega
 have s1:((kd:Int)==1)=false:=by simp;omega
 have s2:((kd:Int)==2)=false:=by simp;omega
 have s3:((kd:Int)==3)=false:=by simp;omega
 obtain⟨q0,q1,q2,q3⟩:=jhw
 cases d with
 | zero =>
  have E:=Hh (fd (l.drop p) cnt (by have:=HC.out;omega) HH.out (by have:=sD.out.2.1;omega) (by have:=sD.out.2.1;omega));have LM:lv=8:=by have:=Oh.out;omega
  subst LM;go_wp2_with (with_reducible refine zx ?_)
  refine stI tD fun wz hTy zS=>?_
  have yl:=jhO;exact jaj
 | succ d =>
 have hE:=hE d rfl;have E0:=Hh (Y4 d (l.drop p) cnt (by have:=HC.out;omega) HH.out (by have:=sD.out.2.1;omega) (by have:=sD.out.2.1;omega));rw[sD.out.2.1,List.drop_drop]at E0;have Yg:¬ ((8:Int)≤(lv:Int)):=by have:=Oh.out;omega
 have DQ:decide ((8:Int)≤(lv:Int))=false:=decide_eq_false Yg;have EL:=Hh (hE wc H g (some ⟨b,off,none⟩) c l (p+k) (cnt+1) lv kd n hTab (by have:=Oh.out;omega) (by omega) (by omega) HF.out.n_lt (by have:=sD.out.2.2;omega) ul.psr);go_wp2_with fail
 refine EL.out.mono ?_
 intro e w6 hs
 cases i8:uL kd d n (l.drop (p+k)) (cnt+1) with
 | err q =>
  rw[i8,ItemOut]at hs;obtain⟨rfl,H4,p4,cnt4,pH⟩:=hs;have E:Hid (zZ (d+1) (l.drop p) cnt=.err q):=by rw[Hid,E0.out,i8]
  have xS:=ul.trans pH;have vN:=tD.rdg pH (by omega);have sM:=pH.hid yj tD.lt;clear pH ul tD EL i8 E0;exact jeC
 | ok x k' c' =>
 rw[i8,ItemOut]at hs;obtain⟨ja,jb,jc,jd,H4,rfl,pH,Uc⟩:=hs;have E:Hid (zZ (d+1) (l.drop p) cnt=.ok x (k+k') c'):=by rw[Hid,E0.out,i8]
 have xS:=ul.trans pH;have vN:=tD.rdg pH (by omega);have sM:=pH.hid yj tD.lt;clear pH ul tD EL i8 E0;exact jeD
end
theorem jH {d:Nat}(hE:∀ e,d=e+1→Wy e):mi d:=by
 intro w H g A c l p cnt lv hTab hlv hP
 by_cases hc:cnt=256
 ·exact Zj hTab hlv hP hc
 have hc:cnt<256:=by have:=hP.cnt_le;omega
 by_cases zB:p=l.length
 ·exact Y9 hTab hlv hP hc zB
 have qU:p<l.length:=by have:=hP.le;omega
 by_cases jY:27<l[p].toNat%32
 ·exact Zi hTab hlv hP hc qU rfl rfl rfl jY
 have jY:l[p].toNat%32≤27:=by omega
 have hf:=l[p].toNat_lt
 rcases(by omega:l[p].toNat/32=7∨l[p].toNat/32≤6) with hk | hk
 ·exact Sw hTab hlv hP hc qU rfl rfl rfl jY hk
 exact YB hTab hE hlv hP hc qU rfl rfl rfl jY hk
theorem Vi (hE:∀ d,mi d→Wy d):∀ d:Nat,mi d:=by
 intro d
 induction d with
 | zero=>exact jH (fun e h=>absurd h (by omega))
 | succ d ih=>exact jH (fun e h=>by cases h;exact hE d ih)
theorem Nr (d:Nat) (ih:mi d):Wy d:=by
 intro w H g A c l p cnt lv maj n hTab hlv h4 h6 hn hl0 hP
 rcases(by omega:maj=4∨maj=5∨maj=6) with rfl | rfl | rfl
 ·exact St ih hTab hlv hn hl0 hP
 ·exact Su ih hTab hlv hn hl0 hP
 exact Sv ih hTab hlv hn hl0 hP
theorem Ns:∀ d,mi d:=Vi Nr
theorem YD {H:Snap}(hTab:Tabs H) (w:World) (hH:Holds w H) {A:Option Addr}{n c:Nat}{l:List UInt8}(hn:n=l.length) (hl:IsBytes H A c l) :
  Calls Tryz.prog 53 #[.slice A n c] w (vZ w H l):=eO Ns hTab w hH hn hl
end Go.Proofs.YtgaoknihklmakabGreatDoor
namespace Go.Proofs.YtgaoknihklmakabGreatDoor
open Go.RowKit Go.ChangeShapes Go.WideShapes
theorem Wr {α:Type}{L:Lie α}{H:Snap}:∀ (l:List α) (b off:Nat),(∀ (j:Nat) (hj:j<l.length),∃ d,L.E H l[j] d∧∀ i v,d[i]? = some v→H.cell? ⟨b,off+(j*L.k+i),none⟩=some v)→∃ cs,RowC L H cs l∧∀ j v,cs[j]? = some v→H.cell? ⟨b,off+j,none⟩=some v
 | [],b,off,h=>⟨[],RowC.nil L H,by simp⟩
 | x::l,b,off,h=>by
  obtain⟨d,hd,hc⟩:=h 0 (by simp)
  obtain⟨cs,h1,h2⟩:=Wr l b (off+L.k) fun j hj=>by
   obtain⟨d',iN,P5⟩:=h (j+1) (by simpa using hj)
   simp only[List.getElem_cons_succ]at iN
   refine⟨d',iN,fun i v hv=>?_⟩
   have:=P5 i v hv;rwa [show off+((j+1)*L.k+i)=off+L.k+(j*L.k+i) by rw[Nat.add_mul];omega]at this
  refine⟨d++cs,by rw[RowC];exact⟨d,cs,rfl,hd,h1⟩,fun j v hv=>?_⟩
  have hl:=L.len hd
  by_cases hj:j<d.length
  ·rw[List.getElem?_append_left hj]at hv;have:=hc j v hv;rwa [show off+(0*L.k+j)=off+j by omega]at this
  rw[List.getElem?_append_right (by omega)]at hv;have:=h2 _ v hv;rwa [show off+L.k+(j-d.length)=off+j by omega]at this
instance:Inhabited Ext:=⟨⟨0,false,[]⟩⟩
section
variable {H:Type} {enc:TypeId×Value→H} {W:World}
theorem sq {fuel:Nat}{c:Value}{x:DataW H×List MemPlace}(h:DataW.trod enc Tryz.prog W 0 (fun _=>true) true fuel 22 [c]=some x) :
  ∃ (A:Option Addr) (k:Nat) (l:List UInt8),c=.slice A l.length k∧IsBytes (qN W) A k l:=by
 rcases open_ints Tryz.underlying22 Tryz.underlying5 (by kernel_rfl) h with ⟨oV,hx⟩ | ⟨a,len,cap,zs,oV,_,hl,hm,hz,hx,yF,S3⟩
 ·simp at oV
  exact⟨none,0,[],oV,IsBytes.nil _⟩
 simp at oV
 have h1:=fM hl hm (by simp at hz;omega) yF S3
 exact⟨some a,cap,_,by rw[h1.2];exact oV,h1.1⟩
end
end Go.Proofs.YtgaoknihklmakabGreatDoor
namespace Go.Proofs.YtgaoknihklmakabGreatDoor
open Go.RowKit
def sT (n s:Nat):UInt8:=UInt8.ofNat (n/2 ^ s)
theorem fL (N s:Nat) (d:Int) (hd:d=((2 ^ s:Nat):Int)):zT (sT N s)=.int .u8 ((N:Int)/d%256):=by
 subst hd;rw[zT,sT,UInt8.toNat_ofNat'];rfl
end Go.Proofs.YtgaoknihklmakabGreatDoor
namespace Go.Proofs.YtgaoknihklmakabGreatDoor
def num:List Nat→Nat
 | []=>0
 | x::l=>x+18446744073709551616*num l
end Go.Proofs.YtgaoknihklmakabGreatDoor
namespace Go.Proofs.YtgaoknihklmakabGreatDoor
abbrev f64:=FloatKind.f64.format
end Go.Proofs.YtgaoknihklmakabGreatDoor
namespace Go.Proofs.YtgaoknihklmakabGreatDoor
def iX (l:List Nat) (i:Nat):Nat:=l.getD i 0
end Go.Proofs.YtgaoknihklmakabGreatDoor
namespace Go.Proofs.YtgaoknihklmakabGreatDoor
open Go.RowKit
structure S8 where
 a:Int
 b:Int
 c:Int
 d:Int
 e:Int
 f:Int
 g:Int
 h:Int
theorem Vz (n:Nat) (h:n<18446744073709551616):IntKind.u64.wrap (n:Int)=(n:Int):=IntWalk.u64_in _ (by omega)
def oJ (l:List Nat):Array Value:=(l.map fun n:Nat=>Value.int .u64 (n:Int)).toArray
theorem Vm (l:List Nat):(oJ l).size=l.length:=by simp[oJ]
theorem ak (l:List Nat) (i:Nat) (h:i<l.length):(oJ l)[i]? = some (.int .u64 (iX l i:Int)):=by
 simp[oJ,iX,h]
theorem T0 (l:List Nat) (i n:Nat):(oJ l).setIfInBounds i (.int .u64 (n:Int))=oJ (l.set i n):=by
 simp[oJ,List.map_set]
end Go.Proofs.YtgaoknihklmakabGreatDoor
