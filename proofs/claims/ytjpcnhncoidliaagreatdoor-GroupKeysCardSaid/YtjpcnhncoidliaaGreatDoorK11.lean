/- squeezed. Walks: the reference's reader of i -/
import Derived.Test.YtjpcnhncoidliaaGreatDoorK10
set_option linter.unusedVariables false
set_option linter.unusedSimpArgs false
set_option maxRecDepth 100000
set_option maxHeartbeats 6400000
namespace Go.Proofs.YtjpcnhncoidliaaGreatDoor
open Go.RowKit
section
variable {d:Nat} {w:World} {H:Snap} {g:Nat} {A:Option Addr} {c:Nat} {l:List UInt8} {p cnt lv:Nat}
theorem bH (hTab:Tabs H) (hlv:lv+d=8) (hP:Psr 150 w g H A c l p cnt) (hc:cnt<256) (rv:p<l.length) {ch:UInt8}(nX:l[p]=ch) {low kd:Nat}(xe:ch.toNat%32=low) (mP:ch.toNat/32=kd) (ph:low≤27) (hk:kd=2):Calls Tryz.prog 99 #[.pointer (some ⟨g,0,none⟩),.int .i64 (lv:Int)] w (ItemOut 150 w H g A c l p (zd d (l.drop p) cnt)):=by
 have yS:=hP.gt;have ux:=(Rdg.refl hP).alloc zO;have u7:=Blk.new w 78 #[.int .i64 0,.int .u64 0,.slice none 0 0,.slice none 0 0];have zG:H w.heap.size=none:=hP.holds.none_of_ge (Nat.le_refl _);have c2:=ux.psr.blk.cell 2 rfl;have ED:=tB rv;rw[nX]at ED;subst hk
 have EH0:Hid (zc (l.drop p)=if 27<low then .error 3 else if low<24 then .ok (ch.toNat,low,1) else if(l.drop (p+1)).length<2 ^ (low-24) then .error 2
    else if ch.toNat/32<7∧(zj 0 (beN ((l.drop (p+1)).take (2 ^ (low-24))))).length≠1+2 ^ (low-24) then .error 4
    else .ok (ch.toNat,beN ((l.drop (p+1)).take (2 ^ (low-24))),1+2 ^ (low-24))):=by rw[Hid,ED,zc,xe]
 have z27:¬ ((27:Int)<(low:Int)):=by omega
 have z27b:decide ((27:Int)<(low:Int))=false:=decide_eq_false z27;have ij:=Hh ph;have VP:=Hh hlv;have lO:Hid (2<7):=by rw[Hid];omega
 clear ph ED;have z0:¬ (((l.length:Nat):Int)≤(p:Int)):=by omega
 have z0':decide (((l.length:Nat):Int)≤(p:Int))=false:=decide_eq_false z0;have Zi:(p:Int)<(l.length:Int):=by omega
 have kH:(0:Int)≤(p:Int):=by omega
 have kO:=hP.small;have K1:IntKind.i64.wrap ((p:Int)+1)=(p:Int)+1:=IntWalk.i64_in _ (by omega);obtain⟨b,off,rfl,xW⟩:=hP.bytes.at_ (by omega);have KA:=jJ ⟨ch.toNat,ch.toNat_lt⟩
 simp only at KA
 rw[xe]at KA;have S:(ch.toNat:Int)/32=2:=by omega
 have cM:=True.intro;have pk:(low:Int)≤31:=by omega
 have lC:=Hh xW;have yt:=Hh (And.intro xe (And.intro mP rv));have ZO:=Hh (show H.cell? ⟨b,off+p,none⟩=some (zg ch) by have h:=xW p rv;rw[nX]at h;exact h);clear xW xe mP kO nX;have vJ:¬ ((256:Int)≤(cnt:Int)):=by omega
 have uR:decide ((256:Int)≤(cnt:Int))=false:=decide_eq_false vJ;have KC:IntKind.i64.wrap ((cnt:Int)+1)=(cnt:Int)+1:=IntWalk.i64_in _ (by omega);have HC:=Hh hc;clear hc;go_enter Tryz.func99,Tryz.ntmps99
 go_wp2_with (with_reducible refine zx ?_)
 refine zr rfl _ _ _ rfl rfl g 2 (.int .i64 ((cnt:Int)+1)) rfl rfl _ _ ux.psr.blk yI (by simp) rfl fun w2 vE yY=>?_
 have us:Rdg 150 w H w2 H g _ c l p (cnt+1):=ux.step yY vE hP.le (by have:=HC.out;omega);have sM:=u7.gr yY (by omega);clear ux u7 vE yY c2 KC vJ uR;have mR:=us.psr.le;have a0:=us.psr.blk.cell 0 rfl;have a1:=us.psr.blk.cell 1 rfl;go_wp2_with fail
 go_big_quiet (fail)
 have tM:=us.drewN nq;have tK:Blk (w2.drewN nq) w.heap.size 78 #[.int .i64 0,.int .u64 0,.slice none 0 0,.slice none 0 0]:=sM
 generalize w2.drewN nq=w3 at tM tK⊢
 obtain⟨wU,un⟩:=And.intro tM tK;clear tM tK us sM a0 a1 mR;have a0:=wU.psr.blk.cell 0 rfl;have a1:=wU.psr.blk.cell 1 rfl;have q0:=wU.psr.holds.cell ZO.out;go_upto_region 6 with fail
 go_big_quiet (fail)
 have tN:=wU.drewN nq;have tL:Blk (w3.drewN nq) w.heap.size 78 #[.int .i64 0,.int .u64 0,.slice none 0 0,.slice none 0 0]:=un
 generalize w3.drewN nq=w4 at tN tL⊢
 obtain⟨sO,sN⟩:=And.intro tN tL;clear tN tL wU un a0 a1 q0;have a1:=sO.psr.blk.cell 1 rfl;go_wp2_with (with_reducible refine zx ?_)
 refine zr rfl _ _ _ rfl rfl g 1 (.int .i64 ((p:Int)+1)) rfl rfl _ _ sO.psr.blk yI (by simp) rfl fun w5 tF xC=>?_
 have yU:Rdg 150 w H w5 H g (some ⟨b,off,none⟩) c l (p+1) (cnt+1):=sO.step xC tF yt.out.2.2 (by have:=HC.out;omega);have yO:=sN.gr xC (by omega);clear sO sN tF xC a1 K1 z0 z0' Zi kH KA S;go_upto_region 12 with fail
 have KU:IntKind.u64.wrap (low:Int)=(low:Int):=by rw[IntKind.wrap_u64];omega
 go_upto_if 80 with fail
 go_cut [8] (fun s8 wx=>∃ n k:Nat,zc (l.drop p)=.ok (ch.toNat,n,k)∧s8=.int .u64 (n:Int)∧Rdg 150 w H wx H g (some ⟨b,off,none⟩) c l (p+k) (cnt+1)∧Blk wx w.heap.size 78 #[.int .i64 0,.int .u64 0,.slice none 0 0,.slice none 0 0])
 case first =>
  by_cases hl24:low<24
  ·have z24:¬ ((23:Int)<(low:Int)):=by omega
   have z24b:decide ((23:Int)<(low:Int))=false:=decide_eq_false z24;have EH:Hid (zc (l.drop p)=.ok (ch.toNat,low,1)):=by rw[Hid,EH0.out,if_neg (by have:=ij.out;omega),if_pos hl24]
   clear hl24;go_wp2_with fail
   go_meet
   exact⟨low,1,EH.out,rfl,yU,yO⟩
  have z24:(23:Int)<(low:Int):=by omega
  have EH:Hid (zc (l.drop p)=if(l.drop (p+1)).length<2 ^ (low-24) then .error 2
    else if ch.toNat/32<7∧(zj 0 (beN ((l.drop (p+1)).take (2 ^ (low-24))))).length≠1+2 ^ (low-24) then .error 4
    else .ok (ch.toNat,beN ((l.drop (p+1)).take (2 ^ (low-24))),1+2 ^ (low-24))):=by rw[Hid,EH0.out,if_neg (by have:=ij.out;omega),if_neg hl24]
  clear EH0
  rcases(by have:=ij.out;omega:low=24∨low=25∨low=26∨low=27) with rfl | rfl | rfl | rfl
  ·have NM:=Hh (yR yU.psr 1 (by omega) (by omega));have HD:=Hh (fun n hn w=>yW 2 ((n:Nat):Int) w (by omega) (by omega) (by omega) hn)
   simp only[Nat.reduceSub,Nat.reducePow,Nat.reduceAdd]at EH
   clear hl24 z24 pk z27 z27b KU;go_wp2_with fail
   refine NM.out.mono ?_
   rintro e w6 (⟨hs,rfl,yJ,zK⟩ | ⟨hs,rfl,yJ,zK⟩)
   ·have E:Hid (zd d (l.drop p) cnt=.err 2):=by
     have h1:zc (l.drop p)=.error 2:=by rw[EH.out,if_pos (by rw[List.length_drop];have:=yt.out.2.2;omega)]
     rw[Hid,zV d (l.drop p) cnt (by have:=HC.out;omega) h1]
    have yf:Rdg 150 w H w6 H g (some ⟨b,off,none⟩) c l (p+1) (cnt+1):=yU.step zK yJ yt.out.2.2 (by have:=HC.out;omega);have yQ:=yO.gr zK (by omega);clear NM HD hs yU yO yJ zK EH;go_wp2_with (with_reducible refine zx ?_)
    refine stI yQ fun wz hTy z8=>?_
    have yx:=yf.gb zG (Nat.le_refl _) yS z8;go_wp2_with fail
    refine zw rfl rfl hTy rfl rfl zp rfl ?_
    exact ItemOut.err E.out rfl yx
   have yf:Rdg 150 w H w6 H g (some ⟨b,off,none⟩) c l (p+1+1) (cnt+1):=yU.step zK yJ hs (by have:=HC.out;omega);have yQ:=yO.gr zK (by omega);have xP:=xX ((l.drop (p+1)).take 1);have x9:((l.drop (p+1)).take 1).length=1:=by rw[List.length_take,List.length_drop];omega
   rw[x9]at xP
   simp only[Nat.reducePow]at xP
   obtain⟨n,hn⟩:∃ n,beN ((l.drop (p+1)).take 1)=n:=⟨_,rfl⟩
   have EH2:Hid (zc (l.drop p)=if(zj 0 n).length≠2 then .error 4 else .ok (ch.toNat,n,2)):=by
    rw[Hid,EH.out,if_neg (by rw[List.length_drop];omega),hn];have:=lO.out;have:=yt.out.2.1
    by_cases h:(zj 0 n).length=2 <;> simp[h] <;> omega
   have uJ:=Hh (fun w=>HD.out n (by omega) w);rw[hn];have z6:(zj (2:Int).toNat (n:Int).toNat).length=(zj 0 n).length:=by rw[zi,zi];rfl
   obtain⟨fl,vj⟩:∃ fl,(zj 0 n).length=fl:=⟨_,rfl⟩
   rw[vj]at EH2 z6;have ss:=Hh z6;clear NM HD hs yU yO yJ zK EH hn x9 xP vj z6;go_wp2_with fail
   refine(uJ.out _).mono ?_
   rintro e w7 ⟨r,rfl,hf⟩
   have xp:=yf.below_ hf.2;have xx:=yQ.below hf.2;obtain⟨RA,rc,rfl,_⟩:=hf.own.form;rw[ss.out];clear hf uJ yf yQ
   by_cases hq:fl=2
   ·subst hq;have EH3:Hid (zc (l.drop p)=.ok (ch.toNat,n,2)):=by rw[Hid,EH2.out,if_neg (by simp)]
    clear EH2;go_wp2_with fail
    go_meet
    exact⟨n,2,EH3.out,rfl,by rw[show p+2=p+1+1 by omega];exact xp,xx⟩
   have zq:((fl:Int)==2)=false:=by simp;omega
   have zq2:((fl:Int)=2)=False:=eq_false (by omega)
   have E:Hid (zd d (l.drop p) cnt=.err 4):=by
    have h1:zc (l.drop p)=.error 4:=by rw[EH2.out,if_pos hq]
    rw[Hid,zV d (l.drop p) cnt (by have:=HC.out;omega) h1]
   clear EH2 hq;go_wp2_with (with_reducible refine zx ?_)
   refine stI xx fun wz hTy z8=>?_
   have yx:=xp.gb zG (Nat.le_refl _) yS z8;go_wp2_with fail
   refine zw rfl rfl hTy rfl rfl zp rfl ?_
   exact ItemOut.err E.out rfl yx
  ·have NM:=Hh (yR yU.psr 2 (by omega) (by omega));have HD:=Hh (fun n hn w=>yW 2 ((n:Nat):Int) w (by omega) (by omega) (by omega) hn)
   simp only[Nat.reduceSub,Nat.reducePow,Nat.reduceAdd]at EH
   clear hl24 z24 pk z27 z27b KU;go_wp2_with fail
   refine NM.out.mono ?_
   rintro e w6 (⟨hs,rfl,yJ,zK⟩ | ⟨hs,rfl,yJ,zK⟩)
   ·have E:Hid (zd d (l.drop p) cnt=.err 2):=by
     have h1:zc (l.drop p)=.error 2:=by rw[EH.out,if_pos (by rw[List.length_drop];have:=yt.out.2.2;omega)]
     rw[Hid,zV d (l.drop p) cnt (by have:=HC.out;omega) h1]
    have yf:Rdg 150 w H w6 H g (some ⟨b,off,none⟩) c l (p+1) (cnt+1):=yU.step zK yJ yt.out.2.2 (by have:=HC.out;omega);have yQ:=yO.gr zK (by omega);clear NM HD hs yU yO yJ zK EH;go_wp2_with (with_reducible refine zx ?_)
    refine stI yQ fun wz hTy z8=>?_
    have yx:=yf.gb zG (Nat.le_refl _) yS z8;go_wp2_with fail
    refine zw rfl rfl hTy rfl rfl zp rfl ?_
    exact ItemOut.err E.out rfl yx
   have yf:Rdg 150 w H w6 H g (some ⟨b,off,none⟩) c l (p+1+2) (cnt+1):=yU.step zK yJ hs (by have:=HC.out;omega);have yQ:=yO.gr zK (by omega);have xP:=xX ((l.drop (p+1)).take 2);have x9:((l.drop (p+1)).take 2).length=2:=by rw[List.length_take,List.length_drop];omega
   rw[x9]at xP
   simp only[Nat.reducePow]at xP
   obtain⟨n,hn⟩:∃ n,beN ((l.drop (p+1)).take 2)=n:=⟨_,rfl⟩
   have EH2:Hid (zc (l.drop p)=if(zj 0 n).length≠3 then .error 4 else .ok (ch.toNat,n,3)):=by
    rw[Hid,EH.out,if_neg (by rw[List.length_drop];omega),hn];have:=lO.out;have:=yt.out.2.1
    by_cases h:(zj 0 n).length=3 <;> simp[h] <;> omega
   have uJ:=Hh (fun w=>HD.out n (by omega) w);rw[hn];have z6:(zj (2:Int).toNat (n:Int).toNat).length=(zj 0 n).length:=by rw[zi,zi];rfl
   obtain⟨fl,vj⟩:∃ fl,(zj 0 n).length=fl:=⟨_,rfl⟩
   rw[vj]at EH2 z6;have ss:=Hh z6;clear NM HD hs yU yO yJ zK EH hn x9 xP vj z6;go_wp2_with fail
   refine(uJ.out _).mono ?_
   rintro e w7 ⟨r,rfl,hf⟩
   have xp:=yf.below_ hf.2;have xx:=yQ.below hf.2;obtain⟨RA,rc,rfl,_⟩:=hf.own.form;rw[ss.out];clear hf uJ yf yQ
   by_cases hq:fl=3
   ·subst hq;have EH3:Hid (zc (l.drop p)=.ok (ch.toNat,n,3)):=by rw[Hid,EH2.out,if_neg (by simp)]
    clear EH2;go_wp2_with fail
    go_meet
    exact⟨n,3,EH3.out,rfl,by rw[show p+3=p+1+2 by omega];exact xp,xx⟩
   have zq:((fl:Int)==3)=false:=by simp;omega
   have zq2:((fl:Int)=3)=False:=eq_false (by omega)
   have E:Hid (zd d (l.drop p) cnt=.err 4):=by
    have h1:zc (l.drop p)=.error 4:=by rw[EH2.out,if_pos hq]
    rw[Hid,zV d (l.drop p) cnt (by have:=HC.out;omega) h1]
   clear EH2 hq;go_wp2_with (with_reducible refine zx ?_)
   refine stI xx fun wz hTy z8=>?_
   have yx:=xp.gb zG (Nat.le_refl _) yS z8;go_wp2_with fail
   refine zw rfl rfl hTy rfl rfl zp rfl ?_
   exact ItemOut.err E.out rfl yx
  ·have NM:=Hh (yR yU.psr 4 (by omega) (by omega));have HD:=Hh (fun n hn w=>yW 2 ((n:Nat):Int) w (by omega) (by omega) (by omega) hn)
   simp only[Nat.reduceSub,Nat.reducePow,Nat.reduceAdd]at EH
   clear hl24 z24 pk z27 z27b KU;go_wp2_with fail
   refine NM.out.mono ?_
   rintro e w6 (⟨hs,rfl,yJ,zK⟩ | ⟨hs,rfl,yJ,zK⟩)
   ·have E:Hid (zd d (l.drop p) cnt=.err 2):=by
     have h1:zc (l.drop p)=.error 2:=by rw[EH.out,if_pos (by rw[List.length_drop];have:=yt.out.2.2;omega)]
     rw[Hid,zV d (l.drop p) cnt (by have:=HC.out;omega) h1]
    have yf:Rdg 150 w H w6 H g (some ⟨b,off,none⟩) c l (p+1) (cnt+1):=yU.step zK yJ yt.out.2.2 (by have:=HC.out;omega);have yQ:=yO.gr zK (by omega);clear NM HD hs yU yO yJ zK EH;go_wp2_with (with_reducible refine zx ?_)
    refine stI yQ fun wz hTy z8=>?_
    have yx:=yf.gb zG (Nat.le_refl _) yS z8;go_wp2_with fail
    refine zw rfl rfl hTy rfl rfl zp rfl ?_
    exact ItemOut.err E.out rfl yx
   have yf:Rdg 150 w H w6 H g (some ⟨b,off,none⟩) c l (p+1+4) (cnt+1):=yU.step zK yJ hs (by have:=HC.out;omega);have yQ:=yO.gr zK (by omega);have xP:=xX ((l.drop (p+1)).take 4);have x9:((l.drop (p+1)).take 4).length=4:=by rw[List.length_take,List.length_drop];omega
   rw[x9]at xP
   simp only[Nat.reducePow]at xP
   obtain⟨n,hn⟩:∃ n,beN ((l.drop (p+1)).take 4)=n:=⟨_,rfl⟩
   have EH2:Hid (zc (l.drop p)=if(zj 0 n).length≠5 then .error 4 else .ok (ch.toNat,n,5)):=by
    rw[Hid,EH.out,if_neg (by rw[List.length_drop];omega),hn];have:=lO.out;have:=yt.out.2.1
    by_cases h:(zj 0 n).length=5 <;> simp[h] <;> omega
   have uJ:=Hh (fun w=>HD.out n (by omega) w);rw[hn];have z6:(zj (2:Int).toNat (n:Int).toNat).length=(zj 0 n).length:=by rw[zi,zi];rfl
   obtain⟨fl,vj⟩:∃ fl,(zj 0 n).length=fl:=⟨_,rfl⟩
   rw[vj]at EH2 z6;have ss:=Hh z6;clear NM HD hs yU yO yJ zK EH hn x9 xP vj z6;go_wp2_with fail
   refine(uJ.out _).mono ?_
   rintro e w7 ⟨r,rfl,hf⟩
   have xp:=yf.below_ hf.2;have xx:=yQ.below hf.2;obtain⟨RA,rc,rfl,_⟩:=hf.own.form;rw[ss.out];clear hf uJ yf yQ
   by_cases hq:fl=5
   ·subst hq;have EH3:Hid (zc (l.drop p)=.ok (ch.toNat,n,5)):=by rw[Hid,EH2.out,if_neg (by simp)]
    clear EH2;go_wp2_with fail
    go_meet
    exact⟨n,5,EH3.out,rfl,by rw[show p+5=p+1+4 by omega];exact xp,xx⟩
   have zq:((fl:Int)==5)=false:=by simp;omega
   have zq2:((fl:Int)=5)=False:=eq_false (by omega)
   have E:Hid (zd d (l.drop p) cnt=.err 4):=by
    have h1:zc (l.drop p)=.error 4:=by rw[EH2.out,if_pos hq]
    rw[Hid,zV d (l.drop p) cnt (by have:=HC.out;omega) h1]
   clear EH2 hq;go_wp2_with (with_reducible refine zx ?_)
   refine stI xx fun wz hTy z8=>?_
   have yx:=xp.gb zG (Nat.le_refl _) yS z8;go_wp2_with fail
   refine zw rfl rfl hTy rfl rfl zp rfl ?_
   exact ItemOut.err E.out rfl yx
  have NM:=Hh (yR yU.psr 8 (by omega) (by omega));have HD:=Hh (fun n hn w=>yW 2 ((n:Nat):Int) w (by omega) (by omega) (by omega) hn)
  simp only[Nat.reduceSub,Nat.reducePow,Nat.reduceAdd]at EH
  clear hl24 z24 pk z27 z27b KU;go_wp2_with fail
  refine NM.out.mono ?_
  rintro e w6 (⟨hs,rfl,yJ,zK⟩ | ⟨hs,rfl,yJ,zK⟩)
  ·have E:Hid (zd d (l.drop p) cnt=.err 2):=by
    have h1:zc (l.drop p)=.error 2:=by rw[EH.out,if_pos (by rw[List.length_drop];have:=yt.out.2.2;omega)]
    rw[Hid,zV d (l.drop p) cnt (by have:=HC.out;omega) h1]
   have yf:Rdg 150 w H w6 H g (some ⟨b,off,none⟩) c l (p+1) (cnt+1):=yU.step zK yJ yt.out.2.2 (by have:=HC.out;omega);have yQ:=yO.gr zK (by omega);clear NM HD hs yU yO yJ zK EH;go_wp2_with (with_reducible refine zx ?_)
   refine stI yQ fun wz hTy z8=>?_
   have yx:=yf.gb zG (Nat.le_refl _) yS z8;go_wp2_with fail
   refine zw rfl rfl hTy rfl rfl zp rfl ?_
   exact ItemOut.err E.out rfl yx
  have yf:Rdg 150 w H w6 H g (some ⟨b,off,none⟩) c l (p+1+8) (cnt+1):=yU.step zK yJ hs (by have:=HC.out;omega);have yQ:=yO.gr zK (by omega);have xP:=xX ((l.drop (p+1)).take 8);have x9:((l.drop (p+1)).take 8).length=8:=by rw[List.length_take,List.length_drop];omega
  rw[x9]at xP
  simp only[Nat.reducePow]at xP
  obtain⟨n,hn⟩:∃ n,beN ((l.drop (p+1)).take 8)=n:=⟨_,rfl⟩
  have EH2:Hid (zc (l.drop p)=if(zj 0 n).length≠9 then .error 4 else .ok (ch.toNat,n,9)):=by
   rw[Hid,EH.out,if_neg (by rw[List.length_drop];omega),hn];have:=lO.out;have:=yt.out.2.1
   by_cases h:(zj 0 n).length=9 <;> simp[h] <;> omega
  have uJ:=Hh (fun w=>HD.out n (by omega) w);rw[hn];have z6:(zj (2:Int).toNat (n:Int).toNat).length=(zj 0 n).length:=by rw[zi,zi];rfl
  obtain⟨fl,vj⟩:∃ fl,(zj 0 n).length=fl:=⟨_,rfl⟩
  rw[vj]at EH2 z6;have ss:=Hh z6;clear NM HD hs yU yO yJ zK EH hn x9 xP vj z6;go_wp2_with fail
  refine(uJ.out _).mono ?_
  rintro e w7 ⟨r,rfl,hf⟩
  have xp:=yf.below_ hf.2;have xx:=yQ.below hf.2;obtain⟨RA,rc,rfl,_⟩:=hf.own.form;rw[ss.out];clear hf uJ yf yQ
  by_cases hq:fl=9
  ·subst hq;have EH3:Hid (zc (l.drop p)=.ok (ch.toNat,n,9)):=by rw[Hid,EH2.out,if_neg (by simp)]
   clear EH2;go_wp2_with fail
   go_meet
   exact⟨n,9,EH3.out,rfl,by rw[show p+9=p+1+8 by omega];exact xp,xx⟩
  have zq:((fl:Int)==9)=false:=by simp;omega
  have zq2:((fl:Int)=9)=False:=eq_false (by omega)
  have E:Hid (zd d (l.drop p) cnt=.err 4):=by
   have h1:zc (l.drop p)=.error 4:=by rw[EH2.out,if_pos hq]
   rw[Hid,zV d (l.drop p) cnt (by have:=HC.out;omega) h1]
  clear EH2 hq;go_wp2_with (with_reducible refine zx ?_)
  refine stI xx fun wz hTy z8=>?_
  have yx:=xp.gb zG (Nat.le_refl _) yS z8;go_wp2_with fail
  refine zw rfl rfl hTy rfl rfl zp rfl ?_
  exact ItemOut.err E.out rfl yx
 case rest =>
 obtain⟨n,k,hh,rfl,vF,td⟩:=hcut;have HF:=Hh (tI hh);have HH:=Hh hh;clear hh yU yO
 have E0:Hid (zd d (l.drop p) cnt=(if(l.drop p).length<k+n then .err 2 else if 2=3∧Lib.validD (((l.drop p).drop k).take n)=false then .err 5 else .ok (.mk 2 0 (((l.drop p).drop k).take n) []) (k+n) (cnt+1))):=by
  rw[Hid,eI d (l.drop p) cnt (by have:=HC.out;omega) HH.out (by have:=yt.out.2.1;omega) (by have:=yt.out.2.1;omega),yt.out.2.1];first | rfl | (simp only[true_and];first | done | rfl) | simp
 have kO:=vF.psr.small;have nB:=vF.psr.bytes.le;have Zf:=vF.psr.bytes.max;have Ud:=vF.psr.le;have x9:=HF.out.n_lt;have Qb:(l.drop p).length=l.length-p:=List.length_drop;obtain⟨P,SG⟩:∃ P,p+k=P:=⟨_,rfl⟩
 obtain⟨s,VJ⟩:∃ s,((l.drop p).drop k).take n=s:=⟨_,rfl⟩
 rw[VJ]at E0;rw[List.drop_drop,SG]at VJ;rw[SG]at vF Ud;have K1:IntKind.i64.wrap ((l.length:Int)-(P:Int))=(l.length:Int)-(P:Int):=IntWalk.i64_in _ (by omega);have K2:IntKind.u64.wrap ((l.length:Int)-(P:Int))=(l.length:Int)-(P:Int):=by rw[IntKind.wrap_u64];omega
 have a0:=vF.psr.blk.cell 0 rfl;have a1:=vF.psr.blk.cell 1 rfl;have Dd:(P:Int)≤(l.length:Int):=by omega
 have ir:(l.length:Int)≤4096:=by omega
 by_cases yy:l.length<P+n
 ·have z0:(l.length:Int)-(P:Int)<(n:Int):=by omega
  have E:Hid (zd d (l.drop p) cnt=.err 2):=by rw[Hid,E0.out,if_pos (by have:=yt.out.2.2;omega)]
  clear kO nB Zf x9 Qb SG VJ E0 yy Ud;go_wp2_with fail
  go_big_quiet (fail)
  have qH:=vF.drewN nq;have wL:Blk (wc.drewN nq) w.heap.size 78 #[.int .i64 0,.int .u64 0,.slice none 0 0,.slice none 0 0]:=td;go_wp2_with (with_reducible refine zx ?_)
  refine stI wL fun wz hTy z8=>?_
  have yx:=qH.gb zG (Nat.le_refl _) yS z8;go_wp2_with fail
  refine zw rfl rfl hTy rfl rfl zp rfl ?_
  exact ItemOut.err E.out rfl yx
 have z0:¬ ((l.length:Int)-(P:Int)<(n:Int)):=by omega
 have z0b:decide ((l.length:Int)-(P:Int)<(n:Int))=false:=decide_eq_false z0;have E1:Hid (zd d (l.drop p) cnt=(if 2=3∧Lib.validD s=false then .err 5 else .ok (.mk 2 0 s []) (k+n) (cnt+1))):=by rw[Hid,E0.out,if_neg (by have:=yt.out.2.2;omega)];try simp
 have iN:n=s.length:=by rw[← VJ,List.length_take,List.length_drop];omega
 have ZQ:=Hh iN;clear iN;have KN:IntKind.i64.wrap (n:Int)=(n:Int):=IntWalk.i64_in _ (by omega);have KP:IntKind.i64.wrap ((P:Int)+(n:Int))=(P:Int)+(n:Int):=IntWalk.i64_in _ (by omega);have kt:((P:Int)+(n:Int)).toNat=P+n:=by omega
 have y0:(0:Int)≤(P:Int)+(n:Int):=by omega
 have y5:P≤P+n:=by omega
 have y6:P+n-P=n:=by omega
 have y1:(P:Int)≤(P:Int)+(n:Int):=by omega
 have y2:(P:Int)+(n:Int)≤(c:Int):=by omega
 have y3:(P:Int)≤(c:Int):=by omega
 have y4:(0:Int)≤(P:Int):=by omega
 have HK:=Hh (And.intro kO (And.intro nB (And.intro Zf SG)));go_wp2_with fail
 go_big_quiet (fail)
 have ZH:=vF.drewN nq;have ZB:Blk (wc.drewN nq) w.heap.size 78 #[.int .i64 0,.int .u64 0,.slice none 0 0,.slice none 0 0]:=td
 generalize wc.drewN nq=w9 at ZH ZB⊢
 obtain⟨qH,wL⟩:=And.intro ZH ZB;clear ZH ZB vF td a0 a1 E0 z0 z0b;have mI:∀ j (hj:j<l.length),w9.cell? ⟨b,off+j,none⟩=some (zg l[j]):=fun j hj=>qH.psr.holds.cell (lC.out j hj)
 have a0:=qH.psr.blk.cell 0 rfl;have a1:=qH.psr.blk.cell 1 rfl
 by_cases V0:c=P
 ·have Ox:P=c:=V0.symm;subst Ox;clear V0;have HS:=Hh (show Src w9.drew (some ⟨b,off,none⟩) (s.map zg) by have hz:s=[]:=List.eq_nil_of_length_eq_zero (by have:=ZQ.out;omega);rw[hz];exact Src.nil _ _);have p9:Rdg 150 w H w9.drew H g (some ⟨b,off,none⟩) P l P (cnt+1):=qH.drewN 1;have mM:Blk w9.drew w.heap.size 78 #[.int .i64 0,.int .u64 0,.slice none 0 0,.slice none 0 0]:=wL;clear qH wL mI;go_upto_region 28 with fail
  refine zn 17 (fun w'=>w'.cell? ⟨g,0,none⟩=some (.slice (some ⟨b,off,none⟩) l.length P)∧w'.cell? ⟨g,1,none⟩=some (.int .i64 (P:Int))) (by kernel_rfl) (⟨a0,a1⟩) (fun zy=>?_)
  refine Tk 0 rfl zy ?_
  refine Tk 1 rfl zy ?_
  refine Tk 2 rfl zy ?_
  refine Tk 3 rfl zy ?_
  refine Tk 4 rfl zy ?_
  refine Tk 5 rfl zy ?_
  refine Tk 6 rfl zy ?_
  refine Tk 7 rfl zy ?_
  refine Tk 8 rfl zy ?_
  refine Tk 9 rfl zy ?_
  refine Tk 10 rfl zy ?_
  refine Tk 11 rfl zy ?_
  refine Tk 12 rfl zy ?_
  refine Tk 13 rfl zy ?_
  refine Tk 14 rfl zy ?_
  refine Tk 15 rfl zy ?_
  refine To 16 rfl fun K hK=>?_
  refine wD (.const (.slice none 0 0)) (.tmp 144) rfl w9.drew.heap.size (.slice none 0 0) [] rfl (OwnB.nil _ _) (some ⟨b,off,none⟩) n _ s rfl ZQ.out HS.out (by have:=ZQ.out;simp;omega) (Nat.le_refl _) fun v' w10 hO hg rL=>?_
  rw[List.nil_append]at hO;have xY:=yT (by simpa [Value.ownBlock] using hg);have tY:Fresh w9.drew s v' w10:=⟨hO,xY⟩
  obtain⟨RA,rc,rfl,_⟩:=hO.form;have sy:=p9.below_ xY;go_simp
  refine Ko hK ?_ fun zy=>?_
  ·exact⟨sy.psr.blk.cell 0 rfl,sy.psr.blk.cell 1 rfl⟩
  clear hK K
  refine To 17 rfl fun K hK=>?_
  go_simp
  refine Kz hK ?_
  clear hK K
  refine Wd ?_
  clear zy a0 a1 hO hg rL HS;have tJ:=mM.below xY;obtain⟨H6,zK,pW,_⟩:=Fresh.snapB p9.psr.holds tY;have yf:=p9.grown zK;have pD:=zK.none zG mM.lt;clear sy tY p9 mM xY;have a1:=yf.psr.blk.cell 1 rfl;go_wp2_with (with_reducible refine zx ?_)
  refine zr rfl _ _ _ rfl rfl g 1 (.int .i64 ((P:Int)+(n:Int))) rfl rfl _ _ yf.psr.blk yI (by simp) rfl fun w7 nW uw=>?_
  have xp:Rdg 150 w H w7 H6 g (some ⟨b,off,none⟩) P l (P+n) (cnt+1):=yf.step uw nW (by omega) (by have:=HC.out;omega);have xx:=tJ.gr uw (by omega);have fN:=pD;clear yf tJ nW uw a1;have E:Hid (zd d (l.drop p) cnt=.ok (.mk 2 0 s []) (k+n) (cnt+1)):=by rw[Hid,E1.out,if_neg (fun h=>absurd h.1 (by omega))]
  have IB:=pW;clear E1;go_wp2_with (with_reducible refine zx ?_)
  refine stI xx fun wz hTy z8=>?_
  have yx:=xp.gb fN (Nat.le_refl _) yS z8;go_wp2_with fail
  refine zw rfl rfl hTy rfl rfl zp rfl ?_
  exact ItemOut.ok E.out rfl (by rw[← Nat.add_assoc,HK.out.2.2.2];exact yx) (IsItem.str 2 (by omega) IB)
 have Gl:(c=P)=False:=eq_false V0;have HS:=Hh (show Src w9.drew (some ⟨b,off+P,none⟩) (s.map zg) by have hq:=Xg (w:=w9.drew) (n:=n) mI P (some ⟨b,off+P,none⟩) (fun _=>rfl) (by omega);rw[VJ]at hq;exact hq);have p9:Rdg 150 w H w9.drew H g (some ⟨b,off,none⟩) c l P (cnt+1):=qH.drewN 1;have mM:Blk w9.drew w.heap.size 78 #[.int .i64 0,.int .u64 0,.slice none 0 0,.slice none 0 0]:=wL;clear qH wL mI;go_upto_region 28 with fail
 refine zn 17 (fun w'=>w'.cell? ⟨g,0,none⟩=some (.slice (some ⟨b,off,none⟩) l.length c)∧w'.cell? ⟨g,1,none⟩=some (.int .i64 (P:Int))) (by kernel_rfl) (⟨a0,a1⟩) (fun zy=>?_)
 refine Tk 0 rfl zy ?_
 refine Tk 1 rfl zy ?_
 refine Tk 2 rfl zy ?_
 refine Tk 3 rfl zy ?_
 refine Tk 4 rfl zy ?_
 refine Tk 5 rfl zy ?_
 refine Tk 6 rfl zy ?_
 refine Tk 7 rfl zy ?_
 refine Tk 8 rfl zy ?_
 refine Tk 9 rfl zy ?_
 refine Tk 10 rfl zy ?_
 refine Tk 11 rfl zy ?_
 refine Tk 12 rfl zy ?_
 refine Tk 13 rfl zy ?_
 refine Tk 14 rfl zy ?_
 refine Tk 15 rfl zy ?_
 refine To 16 rfl fun K hK=>?_
 refine wD (.const (.slice none 0 0)) (.tmp 144) rfl w9.drew.heap.size (.slice none 0 0) [] rfl (OwnB.nil _ _) (some ⟨b,off+P,none⟩) n _ s rfl ZQ.out HS.out (by have:=ZQ.out;simp;omega) (Nat.le_refl _) fun v' w10 hO hg rL=>?_
 rw[List.nil_append]at hO;have xY:=yT (by simpa [Value.ownBlock] using hg);have tY:Fresh w9.drew s v' w10:=⟨hO,xY⟩
 obtain⟨RA,rc,rfl,_⟩:=hO.form;have sy:=p9.below_ xY;go_simp
 refine Ko hK ?_ fun zy=>?_
 ·exact⟨sy.psr.blk.cell 0 rfl,sy.psr.blk.cell 1 rfl⟩
 clear hK K
 refine To 17 rfl fun K hK=>?_
 go_simp
 refine Kz hK ?_
 clear hK K
 refine Wd ?_
 clear zy a0 a1 hO hg rL HS;have tJ:=mM.below xY;obtain⟨H6,zK,pW,_⟩:=Fresh.snapB p9.psr.holds tY;have yf:=p9.grown zK;have pD:=zK.none zG mM.lt;clear sy tY p9 mM xY;have a1:=yf.psr.blk.cell 1 rfl;go_wp2_with (with_reducible refine zx ?_)
 refine zr rfl _ _ _ rfl rfl g 1 (.int .i64 ((P:Int)+(n:Int))) rfl rfl _ _ yf.psr.blk yI (by simp) rfl fun w7 nW uw=>?_
 have xp:Rdg 150 w H w7 H6 g (some ⟨b,off,none⟩) c l (P+n) (cnt+1):=yf.step uw nW (by omega) (by have:=HC.out;omega);have xx:=tJ.gr uw (by omega);have fN:=pD;clear yf tJ nW uw a1;have E:Hid (zd d (l.drop p) cnt=.ok (.mk 2 0 s []) (k+n) (cnt+1)):=by rw[Hid,E1.out,if_neg (fun h=>absurd h.1 (by omega))]
 have IB:=pW;clear E1;go_wp2_with (with_reducible refine zx ?_)
 refine stI xx fun wz hTy z8=>?_
 have yx:=xp.gb fN (Nat.le_refl _) yS z8;go_wp2_with fail
 refine zw rfl rfl hTy rfl rfl zp rfl ?_
 exact ItemOut.ok E.out rfl (by rw[← Nat.add_assoc,HK.out.2.2.2];exact yx) (IsItem.str 2 (by omega) IB)
end
section
variable {d:Nat} {w:World} {H:Snap} {g:Nat} {A:Option Addr} {c:Nat} {l:List UInt8} {p cnt lv:Nat}
theorem bI (hTab:Tabs H) (hlv:lv+d=8) (hP:Psr 150 w g H A c l p cnt) (hc:cnt<256) (rv:p<l.length) {ch:UInt8}(nX:l[p]=ch) {low kd:Nat}(xe:ch.toNat%32=low) (mP:ch.toNat/32=kd) (ph:low≤27) (hk:kd=3):Calls Tryz.prog 99 #[.pointer (some ⟨g,0,none⟩),.int .i64 (lv:Int)] w (ItemOut 150 w H g A c l p (zd d (l.drop p) cnt)):=by
 have yS:=hP.gt;have ux:=(Rdg.refl hP).alloc zO;have u7:=Blk.new w 78 #[.int .i64 0,.int .u64 0,.slice none 0 0,.slice none 0 0];have zG:H w.heap.size=none:=hP.holds.none_of_ge (Nat.le_refl _);have c2:=ux.psr.blk.cell 2 rfl;have ED:=tB rv;rw[nX]at ED;subst hk
 have EH0:Hid (zc (l.drop p)=if 27<low then .error 3 else if low<24 then .ok (ch.toNat,low,1) else if(l.drop (p+1)).length<2 ^ (low-24) then .error 2
    else if ch.toNat/32<7∧(zj 0 (beN ((l.drop (p+1)).take (2 ^ (low-24))))).length≠1+2 ^ (low-24) then .error 4
    else .ok (ch.toNat,beN ((l.drop (p+1)).take (2 ^ (low-24))),1+2 ^ (low-24))):=by rw[Hid,ED,zc,xe]
 have z27:¬ ((27:Int)<(low:Int)):=by omega
 have z27b:decide ((27:Int)<(low:Int))=false:=decide_eq_false z27;have ij:=Hh ph;have VP:=Hh hlv;have lO:Hid (3<7):=by rw[Hid];omega
 clear ph ED;have z0:¬ (((l.length:Nat):Int)≤(p:Int)):=by omega
 have z0':decide (((l.length:Nat):Int)≤(p:Int))=false:=decide_eq_false z0;have Zi:(p:Int)<(l.length:Int):=by omega
 have kH:(0:Int)≤(p:Int):=by omega
 have kO:=hP.small;have K1:IntKind.i64.wrap ((p:Int)+1)=(p:Int)+1:=IntWalk.i64_in _ (by omega);obtain⟨b,off,rfl,xW⟩:=hP.bytes.at_ (by omega);have KA:=jJ ⟨ch.toNat,ch.toNat_lt⟩
 simp only at KA
 rw[xe]at KA;have S:(ch.toNat:Int)/32=3:=by omega
 have cM:=True.intro;have pk:(low:Int)≤31:=by omega
 have lC:=Hh xW;have yt:=Hh (And.intro xe (And.intro mP rv));have ZO:=Hh (show H.cell? ⟨b,off+p,none⟩=some (zg ch) by have h:=xW p rv;rw[nX]at h;exact h);clear xW xe mP kO nX;have vJ:¬ ((256:Int)≤(cnt:Int)):=by omega
 have uR:decide ((256:Int)≤(cnt:Int))=false:=decide_eq_false vJ;have KC:IntKind.i64.wrap ((cnt:Int)+1)=(cnt:Int)+1:=IntWalk.i64_in _ (by omega);have HC:=Hh hc;clear hc;go_enter Tryz.func99,Tryz.ntmps99
 go_wp2_with (with_reducible refine zx ?_)
 refine zr rfl _ _ _ rfl rfl g 2 (.int .i64 ((cnt:Int)+1)) rfl rfl _ _ ux.psr.blk yI (by simp) rfl fun w2 vE yY=>?_
 have us:Rdg 150 w H w2 H g _ c l p (cnt+1):=ux.step yY vE hP.le (by have:=HC.out;omega);have sM:=u7.gr yY (by omega);clear ux u7 vE yY c2 KC vJ uR;have mR:=us.psr.le;have a0:=us.psr.blk.cell 0 rfl;have a1:=us.psr.blk.cell 1 rfl;go_wp2_with fail
 go_big_quiet (fail)
 have tM:=us.drewN nq;have tK:Blk (w2.drewN nq) w.heap.size 78 #[.int .i64 0,.int .u64 0,.slice none 0 0,.slice none 0 0]:=sM
 generalize w2.drewN nq=w3 at tM tK⊢
 obtain⟨wU,un⟩:=And.intro tM tK;clear tM tK us sM a0 a1 mR;have a0:=wU.psr.blk.cell 0 rfl;have a1:=wU.psr.blk.cell 1 rfl;have q0:=wU.psr.holds.cell ZO.out;go_upto_region 6 with fail
 go_big_quiet (fail)
 have tN:=wU.drewN nq;have tL:Blk (w3.drewN nq) w.heap.size 78 #[.int .i64 0,.int .u64 0,.slice none 0 0,.slice none 0 0]:=un
 generalize w3.drewN nq=w4 at tN tL⊢
 obtain⟨sO,sN⟩:=And.intro tN tL;clear tN tL wU un a0 a1 q0;have a1:=sO.psr.blk.cell 1 rfl;go_wp2_with (with_reducible refine zx ?_)
 refine zr rfl _ _ _ rfl rfl g 1 (.int .i64 ((p:Int)+1)) rfl rfl _ _ sO.psr.blk yI (by simp) rfl fun w5 tF xC=>?_
 have yU:Rdg 150 w H w5 H g (some ⟨b,off,none⟩) c l (p+1) (cnt+1):=sO.step xC tF yt.out.2.2 (by have:=HC.out;omega);have yO:=sN.gr xC (by omega);clear sO sN tF xC a1 K1 z0 z0' Zi kH KA S;go_upto_region 12 with fail
 have KU:IntKind.u64.wrap (low:Int)=(low:Int):=by rw[IntKind.wrap_u64];omega
 go_upto_if 80 with fail
 go_cut [8] (fun s8 wx=>∃ n k:Nat,zc (l.drop p)=.ok (ch.toNat,n,k)∧s8=.int .u64 (n:Int)∧Rdg 150 w H wx H g (some ⟨b,off,none⟩) c l (p+k) (cnt+1)∧Blk wx w.heap.size 78 #[.int .i64 0,.int .u64 0,.slice none 0 0,.slice none 0 0])
 case first =>
  by_cases hl24:low<24
  ·have z24:¬ ((23:Int)<(low:Int)):=by omega
   have z24b:decide ((23:Int)<(low:Int))=false:=decide_eq_false z24;have EH:Hid (zc (l.drop p)=.ok (ch.toNat,low,1)):=by rw[Hid,EH0.out,if_neg (by have:=ij.out;omega),if_pos hl24]
   clear hl24;go_wp2_with fail
   go_meet
   exact⟨low,1,EH.out,rfl,yU,yO⟩
  have z24:(23:Int)<(low:Int):=by omega
  have EH:Hid (zc (l.drop p)=if(l.drop (p+1)).length<2 ^ (low-24) then .error 2
    else if ch.toNat/32<7∧(zj 0 (beN ((l.drop (p+1)).take (2 ^ (low-24))))).length≠1+2 ^ (low-24) then .error 4
    else .ok (ch.toNat,beN ((l.drop (p+1)).take (2 ^ (low-24))),1+2 ^ (low-24))):=by rw[Hid,EH0.out,if_neg (by have:=ij.out;omega),if_neg hl24]
  clear EH0
  rcases(by have:=ij.out;omega:low=24∨low=25∨low=26∨low=27) with rfl | rfl | rfl | rfl
  ·have NM:=Hh (yR yU.psr 1 (by omega) (by omega));have HD:=Hh (fun n hn w=>yW 3 ((n:Nat):Int) w (by omega) (by omega) (by omega) hn)
   simp only[Nat.reduceSub,Nat.reducePow,Nat.reduceAdd]at EH
   clear hl24 z24 pk z27 z27b KU;go_wp2_with fail
   refine NM.out.mono ?_
   rintro e w6 (⟨hs,rfl,yJ,zK⟩ | ⟨hs,rfl,yJ,zK⟩)
   ·have E:Hid (zd d (l.drop p) cnt=.err 2):=by
     have h1:zc (l.drop p)=.error 2:=by rw[EH.out,if_pos (by rw[List.length_drop];have:=yt.out.2.2;omega)]
     rw[Hid,zV d (l.drop p) cnt (by have:=HC.out;omega) h1]
    have yf:Rdg 150 w H w6 H g (some ⟨b,off,none⟩) c l (p+1) (cnt+1):=yU.step zK yJ yt.out.2.2 (by have:=HC.out;omega);have yQ:=yO.gr zK (by omega);clear NM HD hs yU yO yJ zK EH;go_wp2_with (with_reducible refine zx ?_)
    refine stI yQ fun wz hTy z8=>?_
    have yx:=yf.gb zG (Nat.le_refl _) yS z8;go_wp2_with fail
    refine zw rfl rfl hTy rfl rfl zp rfl ?_
    exact ItemOut.err E.out rfl yx
   have yf:Rdg 150 w H w6 H g (some ⟨b,off,none⟩) c l (p+1+1) (cnt+1):=yU.step zK yJ hs (by have:=HC.out;omega);have yQ:=yO.gr zK (by omega);have xP:=xX ((l.drop (p+1)).take 1);have x9:((l.drop (p+1)).take 1).length=1:=by rw[List.length_take,List.length_drop];omega
   rw[x9]at xP
   simp only[Nat.reducePow]at xP
   obtain⟨n,hn⟩:∃ n,beN ((l.drop (p+1)).take 1)=n:=⟨_,rfl⟩
   have EH2:Hid (zc (l.drop p)=if(zj 0 n).length≠2 then .error 4 else .ok (ch.toNat,n,2)):=by
    rw[Hid,EH.out,if_neg (by rw[List.length_drop];omega),hn];have:=lO.out;have:=yt.out.2.1
    by_cases h:(zj 0 n).length=2 <;> simp[h] <;> omega
   have uJ:=Hh (fun w=>HD.out n (by omega) w);rw[hn];have z6:(zj (3:Int).toNat (n:Int).toNat).length=(zj 0 n).length:=by rw[zi,zi];rfl
   obtain⟨fl,vj⟩:∃ fl,(zj 0 n).length=fl:=⟨_,rfl⟩
   rw[vj]at EH2 z6;have ss:=Hh z6;clear NM HD hs yU yO yJ zK EH hn x9 xP vj z6;go_wp2_with fail
   refine(uJ.out _).mono ?_
   rintro e w7 ⟨r,rfl,hf⟩
   have xp:=yf.below_ hf.2;have xx:=yQ.below hf.2;obtain⟨RA,rc,rfl,_⟩:=hf.own.form;rw[ss.out];clear hf uJ yf yQ
   by_cases hq:fl=2
   ·subst hq;have EH3:Hid (zc (l.drop p)=.ok (ch.toNat,n,2)):=by rw[Hid,EH2.out,if_neg (by simp)]
    clear EH2;go_wp2_with fail
    go_meet
    exact⟨n,2,EH3.out,rfl,by rw[show p+2=p+1+1 by omega];exact xp,xx⟩
   have zq:((fl:Int)==2)=false:=by simp;omega
   have zq2:((fl:Int)=2)=False:=eq_false (by omega)
   have E:Hid (zd d (l.drop p) cnt=.err 4):=by
    have h1:zc (l.drop p)=.error 4:=by rw[EH2.out,if_pos hq]
    rw[Hid,zV d (l.drop p) cnt (by have:=HC.out;omega) h1]
   clear EH2 hq;go_wp2_with (with_reducible refine zx ?_)
   refine stI xx fun wz hTy z8=>?_
   have yx:=xp.gb zG (Nat.le_refl _) yS z8;go_wp2_with fail
   refine zw rfl rfl hTy rfl rfl zp rfl ?_
   exact ItemOut.err E.out rfl yx
  ·have NM:=Hh (yR yU.psr 2 (by omega) (by omega));have HD:=Hh (fun n hn w=>yW 3 ((n:Nat):Int) w (by omega) (by omega) (by omega) hn)
   simp only[Nat.reduceSub,Nat.reducePow,Nat.reduceAdd]at EH
   clear hl24 z24 pk z27 z27b KU;go_wp2_with fail
   refine NM.out.mono ?_
   rintro e w6 (⟨hs,rfl,yJ,zK⟩ | ⟨hs,rfl,yJ,zK⟩)
   ·have E:Hid (zd d (l.drop p) cnt=.err 2):=by
     have h1:zc (l.drop p)=.error 2:=by rw[EH.out,if_pos (by rw[List.length_drop];have:=yt.out.2.2;omega)]
     rw[Hid,zV d (l.drop p) cnt (by have:=HC.out;omega) h1]
    have yf:Rdg 150 w H w6 H g (some ⟨b,off,none⟩) c l (p+1) (cnt+1):=yU.step zK yJ yt.out.2.2 (by have:=HC.out;omega);have yQ:=yO.gr zK (by omega);clear NM HD hs yU yO yJ zK EH;go_wp2_with (with_reducible refine zx ?_)
    refine stI yQ fun wz hTy z8=>?_
    have yx:=yf.gb zG (Nat.le_refl _) yS z8;go_wp2_with fail
    refine zw rfl rfl hTy rfl rfl zp rfl ?_
    exact ItemOut.err E.out rfl yx
   have yf:Rdg 150 w H w6 H g (some ⟨b,off,none⟩) c l (p+1+2) (cnt+1):=yU.step zK yJ hs (by have:=HC.out;omega);have yQ:=yO.gr zK (by omega);have xP:=xX ((l.drop (p+1)).take 2);have x9:((l.drop (p+1)).take 2).length=2:=by rw[List.length_take,List.length_drop];omega
   rw[x9]at xP
   simp only[Nat.reducePow]at xP
   obtain⟨n,hn⟩:∃ n,beN ((l.drop (p+1)).take 2)=n:=⟨_,rfl⟩
   have EH2:Hid (zc (l.drop p)=if(zj 0 n).length≠3 then .error 4 else .ok (ch.toNat,n,3)):=by
    rw[Hid,EH.out,if_neg (by rw[List.length_drop];omega),hn];have:=lO.out;have:=yt.out.2.1
    by_cases h:(zj 0 n).length=3 <;> simp[h] <;> omega
   have uJ:=Hh (fun w=>HD.out n (by omega) w);rw[hn];have z6:(zj (3:Int).toNat (n:Int).toNat).length=(zj 0 n).length:=by rw[zi,zi];rfl
   obtain⟨fl,vj⟩:∃ fl,(zj 0 n).length=fl:=⟨_,rfl⟩
   rw[vj]at EH2 z6;have ss:=Hh z6;clear NM HD hs yU yO yJ zK EH hn x9 xP vj z6;go_wp2_with fail
   refine(uJ.out _).mono ?_
   rintro e w7 ⟨r,rfl,hf⟩
   have xp:=yf.below_ hf.2;have xx:=yQ.below hf.2;obtain⟨RA,rc,rfl,_⟩:=hf.own.form;rw[ss.out];clear hf uJ yf yQ
   by_cases hq:fl=3
   ·subst hq;have EH3:Hid (zc (l.drop p)=.ok (ch.toNat,n,3)):=by rw[Hid,EH2.out,if_neg (by simp)]
    clear EH2;go_wp2_with fail
    go_meet
    exact⟨n,3,EH3.out,rfl,by rw[show p+3=p+1+2 by omega];exact xp,xx⟩
   have zq:((fl:Int)==3)=false:=by simp;omega
   have zq2:((fl:Int)=3)=False:=eq_false (by omega)
   have E:Hid (zd d (l.drop p) cnt=.err 4):=by
    have h1:zc (l.drop p)=.error 4:=by rw[EH2.out,if_pos hq]
    rw[Hid,zV d (l.drop p) cnt (by have:=HC.out;omega) h1]
   clear EH2 hq;go_wp2_with (with_reducible refine zx ?_)
   refine stI xx fun wz hTy z8=>?_
   have yx:=xp.gb zG (Nat.le_refl _) yS z8;go_wp2_with fail
   refine zw rfl rfl hTy rfl rfl zp rfl ?_
   exact ItemOut.err E.out rfl yx
  ·have NM:=Hh (yR yU.psr 4 (by omega) (by omega));have HD:=Hh (fun n hn w=>yW 3 ((n:Nat):Int) w (by omega) (by omega) (by omega) hn)
   simp only[Nat.reduceSub,Nat.reducePow,Nat.reduceAdd]at EH
   clear hl24 z24 pk z27 z27b KU;go_wp2_with fail
   refine NM.out.mono ?_
   rintro e w6 (⟨hs,rfl,yJ,zK⟩ | ⟨hs,rfl,yJ,zK⟩)
   ·have E:Hid (zd d (l.drop p) cnt=.err 2):=by
     have h1:zc (l.drop p)=.error 2:=by rw[EH.out,if_pos (by rw[List.length_drop];have:=yt.out.2.2;omega)]
     rw[Hid,zV d (l.drop p) cnt (by have:=HC.out;omega) h1]
    have yf:Rdg 150 w H w6 H g (some ⟨b,off,none⟩) c l (p+1) (cnt+1):=yU.step zK yJ yt.out.2.2 (by have:=HC.out;omega);have yQ:=yO.gr zK (by omega);clear NM HD hs yU yO yJ zK EH;go_wp2_with (with_reducible refine zx ?_)
    refine stI yQ fun wz hTy z8=>?_
    have yx:=yf.gb zG (Nat.le_refl _) yS z8;go_wp2_with fail
    refine zw rfl rfl hTy rfl rfl zp rfl ?_
    exact ItemOut.err E.out rfl yx
   have yf:Rdg 150 w H w6 H g (some ⟨b,off,none⟩) c l (p+1+4) (cnt+1):=yU.step zK yJ hs (by have:=HC.out;omega);have yQ:=yO.gr zK (by omega);have xP:=xX ((l.drop (p+1)).take 4);have x9:((l.drop (p+1)).take 4).length=4:=by rw[List.length_take,List.length_drop];omega
   rw[x9]at xP
   simp only[Nat.reducePow]at xP
   obtain⟨n,hn⟩:∃ n,beN ((l.drop (p+1)).take 4)=n:=⟨_,rfl⟩
   have EH2:Hid (zc (l.drop p)=if(zj 0 n).length≠5 then .error 4 else .ok (ch.toNat,n,5)):=by
    rw[Hid,EH.out,if_neg (by rw[List.length_drop];omega),hn];have:=lO.out;have:=yt.out.2.1
    by_cases h:(zj 0 n).length=5 <;> simp[h] <;> omega
   have uJ:=Hh (fun w=>HD.out n (by omega) w);rw[hn];have z6:(zj (3:Int).toNat (n:Int).toNat).length=(zj 0 n).length:=by rw[zi,zi];rfl
   obtain⟨fl,vj⟩:∃ fl,(zj 0 n).length=fl:=⟨_,rfl⟩
   rw[vj]at EH2 z6;have ss:=Hh z6;clear NM HD hs yU yO yJ zK EH hn x9 xP vj z6;go_wp2_with fail
   refine(uJ.out _).mono ?_
   rintro e w7 ⟨r,rfl,hf⟩
   have xp:=yf.below_ hf.2;have xx:=yQ.below hf.2;obtain⟨RA,rc,rfl,_⟩:=hf.own.form;rw[ss.out];clear hf uJ yf yQ
   by_cases hq:fl=5
   ·subst hq;have EH3:Hid (zc (l.drop p)=.ok (ch.toNat,n,5)):=by rw[Hid,EH2.out,if_neg (by simp)]
    clear EH2;go_wp2_with fail
    go_meet
    exact⟨n,5,EH3.out,rfl,by rw[show p+5=p+1+4 by omega];exact xp,xx⟩
   have zq:((fl:Int)==5)=false:=by simp;omega
   have zq2:((fl:Int)=5)=False:=eq_false (by omega)
   have E:Hid (zd d (l.drop p) cnt=.err 4):=by
    have h1:zc (l.drop p)=.error 4:=by rw[EH2.out,if_pos hq]
    rw[Hid,zV d (l.drop p) cnt (by have:=HC.out;omega) h1]
   clear EH2 hq;go_wp2_with (with_reducible refine zx ?_)
   refine stI xx fun wz hTy z8=>?_
   have yx:=xp.gb zG (Nat.le_refl _) yS z8;go_wp2_with fail
   refine zw rfl rfl hTy rfl rfl zp rfl ?_
   exact ItemOut.err E.out rfl yx
  have NM:=Hh (yR yU.psr 8 (by omega) (by omega));have HD:=Hh (fun n hn w=>yW 3 ((n:Nat):Int) w (by omega) (by omega) (by omega) hn)
  simp only[Nat.reduceSub,Nat.reducePow,Nat.reduceAdd]at EH
  clear hl24 z24 pk z27 z27b KU;go_wp2_with fail
  refine NM.out.mono ?_
  rintro e w6 (⟨hs,rfl,yJ,zK⟩ | ⟨hs,rfl,yJ,zK⟩)
  ·have E:Hid (zd d (l.drop p) cnt=.err 2):=by
    have h1:zc (l.drop p)=.error 2:=by rw[EH.out,if_pos (by rw[List.length_drop];have:=yt.out.2.2;omega)]
    rw[Hid,zV d (l.drop p) cnt (by have:=HC.out;omega) h1]
   have yf:Rdg 150 w H w6 H g (some ⟨b,off,none⟩) c l (p+1) (cnt+1):=yU.step zK yJ yt.out.2.2 (by have:=HC.out;omega);have yQ:=yO.gr zK (by omega);clear NM HD hs yU yO yJ zK EH;go_wp2_with (with_reducible refine zx ?_)
   refine stI yQ fun wz hTy z8=>?_
   have yx:=yf.gb zG (Nat.le_refl _) yS z8;go_wp2_with fail
   refine zw rfl rfl hTy rfl rfl zp rfl ?_
   exact ItemOut.err E.out rfl yx
  have yf:Rdg 150 w H w6 H g (some ⟨b,off,none⟩) c l (p+1+8) (cnt+1):=yU.step zK yJ hs (by have:=HC.out;omega);have yQ:=yO.gr zK (by omega);have xP:=xX ((l.drop (p+1)).take 8);have x9:((l.drop (p+1)).take 8).length=8:=by rw[List.length_take,List.length_drop];omega
  rw[x9]at xP
  simp only[Nat.reducePow]at xP
  obtain⟨n,hn⟩:∃ n,beN ((l.drop (p+1)).take 8)=n:=⟨_,rfl⟩
  have EH2:Hid (zc (l.drop p)=if(zj 0 n).length≠9 then .error 4 else .ok (ch.toNat,n,9)):=by
   rw[Hid,EH.out,if_neg (by rw[List.length_drop];omega),hn];have:=lO.out;have:=yt.out.2.1
   by_cases h:(zj 0 n).length=9 <;> simp[h] <;> omega
  have uJ:=Hh (fun w=>HD.out n (by omega) w);rw[hn];have z6:(zj (3:Int).toNat (n:Int).toNat).length=(zj 0 n).length:=by rw[zi,zi];rfl
  obtain⟨fl,vj⟩:∃ fl,(zj 0 n).length=fl:=⟨_,rfl⟩
  rw[vj]at EH2 z6;have ss:=Hh z6;clear NM HD hs yU yO yJ zK EH hn x9 xP vj z6;go_wp2_with fail
  refine(uJ.out _).mono ?_
  rintro e w7 ⟨r,rfl,hf⟩
  have xp:=yf.below_ hf.2;have xx:=yQ.below hf.2;obtain⟨RA,rc,rfl,_⟩:=hf.own.form;rw[ss.out];clear hf uJ yf yQ
  by_cases hq:fl=9
  ·subst hq;have EH3:Hid (zc (l.drop p)=.ok (ch.toNat,n,9)):=by rw[Hid,EH2.out,if_neg (by simp)]
   clear EH2;go_wp2_with fail
   go_meet
   exact⟨n,9,EH3.out,rfl,by rw[show p+9=p+1+8 by omega];exact xp,xx⟩
  have zq:((fl:Int)==9)=false:=by simp;omega
  have zq2:((fl:Int)=9)=False:=eq_false (by omega)
  have E:Hid (zd d (l.drop p) cnt=.err 4):=by
   have h1:zc (l.drop p)=.error 4:=by rw[EH2.out,if_pos hq]
   rw[Hid,zV d (l.drop p) cnt (by have:=HC.out;omega) h1]
  clear EH2 hq;go_wp2_with (with_reducible refine zx ?_)
  refine stI xx fun wz hTy z8=>?_
  have yx:=xp.gb zG (Nat.le_refl _) yS z8;go_wp2_with fail
  refine zw rfl rfl hTy rfl rfl zp rfl ?_
  exact ItemOut.err E.out rfl yx
 case rest =>
 obtain⟨n,k,hh,rfl,vF,td⟩:=hcut;have HF:=Hh (tI hh);have HH:=Hh hh;clear hh yU yO
 have E0:Hid (zd d (l.drop p) cnt=(if(l.drop p).length<k+n then .err 2 else if 3=3∧Lib.validD (((l.drop p).drop k).take n)=false then .err 5 else .ok (.mk 3 0 (((l.drop p).drop k).take n) []) (k+n) (cnt+1))):=by
  rw[Hid,eI d (l.drop p) cnt (by have:=HC.out;omega) HH.out (by have:=yt.out.2.1;omega) (by have:=yt.out.2.1;omega),yt.out.2.1];first | rfl | (simp only[true_and];first | done | rfl) | simp
 have kO:=vF.psr.small;have nB:=vF.psr.bytes.le;have Zf:=vF.psr.bytes.max;have Ud:=vF.psr.le;have x9:=HF.out.n_lt;have Qb:(l.drop p).length=l.length-p:=List.length_drop;obtain⟨P,SG⟩:∃ P,p+k=P:=⟨_,rfl⟩
 obtain⟨s,VJ⟩:∃ s,((l.drop p).drop k).take n=s:=⟨_,rfl⟩
 rw[VJ]at E0;rw[List.drop_drop,SG]at VJ;rw[SG]at vF Ud;have K1:IntKind.i64.wrap ((l.length:Int)-(P:Int))=(l.length:Int)-(P:Int):=IntWalk.i64_in _ (by omega);have K2:IntKind.u64.wrap ((l.length:Int)-(P:Int))=(l.length:Int)-(P:Int):=by rw[IntKind.wrap_u64];omega
 have a0:=vF.psr.blk.cell 0 rfl;have a1:=vF.psr.blk.cell 1 rfl;have Dd:(P:Int)≤(l.length:Int):=by omega
 have ir:(l.length:Int)≤4096:=by omega
 by_cases yy:l.length<P+n
 ·have z0:(l.length:Int)-(P:Int)<(n:Int):=by omega
  have E:Hid (zd d (l.drop p) cnt=.err 2):=by rw[Hid,E0.out,if_pos (by have:=yt.out.2.2;omega)]
  clear kO nB Zf x9 Qb SG VJ E0 yy Ud;go_wp2_with fail
  go_big_quiet (fail)
  have qH:=vF.drewN nq;have wL:Blk (wc.drewN nq) w.heap.size 78 #[.int .i64 0,.int .u64 0,.slice none 0 0,.slice none 0 0]:=td;go_wp2_with (with_reducible refine zx ?_)
  refine stI wL fun wz hTy z8=>?_
  have yx:=qH.gb zG (Nat.le_refl _) yS z8;go_wp2_with fail
  refine zw rfl rfl hTy rfl rfl zp rfl ?_
  exact ItemOut.err E.out rfl yx
 have z0:¬ ((l.length:Int)-(P:Int)<(n:Int)):=by omega
 have z0b:decide ((l.length:Int)-(P:Int)<(n:Int))=false:=decide_eq_false z0;have E1:Hid (zd d (l.drop p) cnt=(if 3=3∧Lib.validD s=false then .err 5 else .ok (.mk 3 0 s []) (k+n) (cnt+1))):=by rw[Hid,E0.out,if_neg (by have:=yt.out.2.2;omega)];try simp
 have iN:n=s.length:=by rw[← VJ,List.length_take,List.length_drop];omega
 have ZQ:=Hh iN;clear iN;have KN:IntKind.i64.wrap (n:Int)=(n:Int):=IntWalk.i64_in _ (by omega);have KP:IntKind.i64.wrap ((P:Int)+(n:Int))=(P:Int)+(n:Int):=IntWalk.i64_in _ (by omega);have kt:((P:Int)+(n:Int)).toNat=P+n:=by omega
 have y0:(0:Int)≤(P:Int)+(n:Int):=by omega
 have y5:P≤P+n:=by omega
 have y6:P+n-P=n:=by omega
 have y1:(P:Int)≤(P:Int)+(n:Int):=by omega
 have y2:(P:Int)+(n:Int)≤(c:Int):=by omega
 have y3:(P:Int)≤(c:Int):=by omega
 have y4:(0:Int)≤(P:Int):=by omega
 have HK:=Hh (And.intro kO (And.intro nB (And.intro Zf SG)));go_wp2_with fail
 go_big_quiet (fail)
 have ZH:=vF.drewN nq;have ZB:Blk (wc.drewN nq) w.heap.size 78 #[.int .i64 0,.int .u64 0,.slice none 0 0,.slice none 0 0]:=td
 generalize wc.drewN nq=w9 at ZH ZB⊢
 obtain⟨qH,wL⟩:=And.intro ZH ZB;clear ZH ZB vF td a0 a1 E0 z0 z0b;have mI:∀ j (hj:j<l.length),w9.cell? ⟨b,off+j,none⟩=some (zg l[j]):=fun j hj=>qH.psr.holds.cell (lC.out j hj)
 have a0:=qH.psr.blk.cell 0 rfl;have a1:=qH.psr.blk.cell 1 rfl
 by_cases V0:c=P
 ·have Ox:P=c:=V0.symm;subst Ox;clear V0;have HS:=Hh (show Src w9.drew (some ⟨b,off,none⟩) (s.map zg) by have hz:s=[]:=List.eq_nil_of_length_eq_zero (by have:=ZQ.out;omega);rw[hz];exact Src.nil _ _);have p9:Rdg 150 w H w9.drew H g (some ⟨b,off,none⟩) P l P (cnt+1):=qH.drewN 1;have mM:Blk w9.drew w.heap.size 78 #[.int .i64 0,.int .u64 0,.slice none 0 0,.slice none 0 0]:=wL;clear qH wL mI;go_upto_region 28 with fail
  refine zn 17 (fun w'=>w'.cell? ⟨g,0,none⟩=some (.slice (some ⟨b,off,none⟩) l.length P)∧w'.cell? ⟨g,1,none⟩=some (.int .i64 (P:Int))) (by kernel_rfl) (⟨a0,a1⟩) (fun zy=>?_)
  refine Tk 0 rfl zy ?_
  refine Tk 1 rfl zy ?_
  refine Tk 2 rfl zy ?_
  refine Tk 3 rfl zy ?_
  refine Tk 4 rfl zy ?_
  refine Tk 5 rfl zy ?_
  refine Tk 6 rfl zy ?_
  refine Tk 7 rfl zy ?_
  refine Tk 8 rfl zy ?_
  refine Tk 9 rfl zy ?_
  refine Tk 10 rfl zy ?_
  refine Tk 11 rfl zy ?_
  refine Tk 12 rfl zy ?_
  refine Tk 13 rfl zy ?_
  refine Tk 14 rfl zy ?_
  refine Tk 15 rfl zy ?_
  refine To 16 rfl fun K hK=>?_
  refine wD (.const (.slice none 0 0)) (.tmp 144) rfl w9.drew.heap.size (.slice none 0 0) [] rfl (OwnB.nil _ _) (some ⟨b,off,none⟩) n _ s rfl ZQ.out HS.out (by have:=ZQ.out;simp;omega) (Nat.le_refl _) fun v' w10 hO hg rL=>?_
  rw[List.nil_append]at hO;have xY:=yT (by simpa [Value.ownBlock] using hg);have tY:Fresh w9.drew s v' w10:=⟨hO,xY⟩
  obtain⟨RA,rc,rfl,_⟩:=hO.form;have sy:=p9.below_ xY;go_simp
  refine Ko hK ?_ fun zy=>?_
  ·exact⟨sy.psr.blk.cell 0 rfl,sy.psr.blk.cell 1 rfl⟩
  clear hK K
  refine To 17 rfl fun K hK=>?_
  go_simp
  refine Kz hK ?_
  clear hK K
  refine Wd ?_
  clear zy a0 a1 hO hg rL HS;have tJ:=mM.below xY;obtain⟨H6,zK,pW,_⟩:=Fresh.snapB p9.psr.holds tY;have yf:=p9.grown zK;have pD:=zK.none zG mM.lt;clear sy tY p9 mM xY;have a1:=yf.psr.blk.cell 1 rfl;go_wp2_with (with_reducible refine zx ?_)
  refine zr rfl _ _ _ rfl rfl g 1 (.int .i64 ((P:Int)+(n:Int))) rfl rfl _ _ yf.psr.blk yI (by simp) rfl fun w7 nW uw=>?_
  have xp:Rdg 150 w H w7 H6 g (some ⟨b,off,none⟩) P l (P+n) (cnt+1):=yf.step uw nW (by omega) (by have:=HC.out;omega);have xx:=tJ.gr uw (by omega);have fN:=pD;clear yf tJ nW uw a1;have IB:=pW;have UV:=Hh (mG (hTab.mono zK.le) w7 xp.psr.holds RA s s.length rc rfl pW)
  cases hv:Lib.validD s with
  | false =>
   rw[hv]at UV;have E:Hid (zd d (l.drop p) cnt=.err 5):=by rw[Hid,E1.out,if_pos (by first | exact⟨rfl,hv⟩ | exact⟨trivial,hv⟩)]
   clear hv E1;go_wp2_with fail
   refine UV.out.mono ?_
   rintro e w8 ⟨rfl,pj⟩
   have vF:=xp.below_ pj;have td:=xx.below pj;clear UV xp xx;go_wp2_with (with_reducible refine zx ?_)
   refine stI td fun wz hTy z8=>?_
   have yx:=vF.gb fN (Nat.le_refl _) yS z8;go_wp2_with fail
   refine zw rfl rfl hTy rfl rfl zp rfl ?_
   exact ItemOut.err E.out rfl yx
  | true =>
  rw[hv]at UV;have E:Hid (zd d (l.drop p) cnt=.ok (.mk 3 0 s []) (k+n) (cnt+1)):=by rw[Hid,E1.out,if_neg (fun h=>by rw[hv]at h;cases h.2)]
  clear hv E1;go_wp2_with fail
  refine UV.out.mono ?_
  rintro e w8 ⟨rfl,pj⟩
  have vF:=xp.below_ pj;have td:=xx.below pj;clear UV xp xx;go_wp2_with (with_reducible refine zx ?_)
  refine stI td fun wz hTy z8=>?_
  have yx:=vF.gb fN (Nat.le_refl _) yS z8;go_wp2_with fail
  refine zw rfl rfl hTy rfl rfl zp rfl ?_
  exact ItemOut.ok E.out rfl (by rw[← Nat.add_assoc,HK.out.2.2.2];exact yx) (IsItem.str 3 (by omega) IB)
 have Gl:(c=P)=False:=eq_false V0;have HS:=Hh (show Src w9.drew (some ⟨b,off+P,none⟩) (s.map zg) by have hq:=Xg (w:=w9.drew) (n:=n) mI P (some ⟨b,off+P,none⟩) (fun _=>rfl) (by omega);rw[VJ]at hq;exact hq);have p9:Rdg 150 w H w9.drew H g (some ⟨b,off,none⟩) c l P (cnt+1):=qH.drewN 1;have mM:Blk w9.drew w.heap.size 78 #[.int .i64 0,.int .u64 0,.slice none 0 0,.slice none 0 0]:=wL;clear qH wL mI;go_upto_region 28 with fail
 refine zn 17 (fun w'=>w'.cell? ⟨g,0,none⟩=some (.slice (some ⟨b,off,none⟩) l.length c)∧w'.cell? ⟨g,1,none⟩=some (.int .i64 (P:Int))) (by kernel_rfl) (⟨a0,a1⟩) (fun zy=>?_)
 refine Tk 0 rfl zy ?_
 refine Tk 1 rfl zy ?_
 refine Tk 2 rfl zy ?_
 refine Tk 3 rfl zy ?_
 refine Tk 4 rfl zy ?_
 refine Tk 5 rfl zy ?_
 refine Tk 6 rfl zy ?_
 refine Tk 7 rfl zy ?_
 refine Tk 8 rfl zy ?_
 refine Tk 9 rfl zy ?_
 refine Tk 10 rfl zy ?_
 refine Tk 11 rfl zy ?_
 refine Tk 12 rfl zy ?_
 refine Tk 13 rfl zy ?_
 refine Tk 14 rfl zy ?_
 refine Tk 15 rfl zy ?_
 refine To 16 rfl fun K hK=>?_
 refine wD (.const (.slice none 0 0)) (.tmp 144) rfl w9.drew.heap.size (.slice none 0 0) [] rfl (OwnB.nil _ _) (some ⟨b,off+P,none⟩) n _ s rfl ZQ.out HS.out (by have:=ZQ.out;simp;omega) (Nat.le_refl _) fun v' w10 hO hg rL=>?_
 rw[List.nil_append]at hO;have xY:=yT (by simpa [Value.ownBlock] using hg);have tY:Fresh w9.drew s v' w10:=⟨hO,xY⟩
 obtain⟨RA,rc,rfl,_⟩:=hO.form;have sy:=p9.below_ xY;go_simp
 refine Ko hK ?_ fun zy=>?_
 ·exact⟨sy.psr.blk.cell 0 rfl,sy.psr.blk.cell 1 rfl⟩
 clear hK K
 refine To 17 rfl fun K hK=>?_
 go_simp
 refine Kz hK ?_
 clear hK K
 refine Wd ?_
 clear zy a0 a1 hO hg rL HS;have tJ:=mM.below xY;obtain⟨H6,zK,pW,_⟩:=Fresh.snapB p9.psr.holds tY;have yf:=p9.grown zK;have pD:=zK.none zG mM.lt;clear sy tY p9 mM xY;have a1:=yf.psr.blk.cell 1 rfl;go_wp2_with (with_reducible refine zx ?_)
 refine zr rfl _ _ _ rfl rfl g 1 (.int .i64 ((P:Int)+(n:Int))) rfl rfl _ _ yf.psr.blk yI (by simp) rfl fun w7 nW uw=>?_
 have xp:Rdg 150 w H w7 H6 g (some ⟨b,off,none⟩) c l (P+n) (cnt+1):=yf.step uw nW (by omega) (by have:=HC.out;omega);have xx:=tJ.gr uw (by omega);have fN:=pD;clear yf tJ nW uw a1;have IB:=pW;have UV:=Hh (mG (hTab.mono zK.le) w7 xp.psr.holds RA s s.length rc rfl pW)
 cases hv:Lib.validD s with
 | false =>
  rw[hv]at UV;have E:Hid (zd d (l.drop p) cnt=.err 5):=by rw[Hid,E1.out,if_pos (by first | exact⟨rfl,hv⟩ | exact⟨trivial,hv⟩)]
  clear hv E1;go_wp2_with fail
  refine UV.out.mono ?_
  rintro e w8 ⟨rfl,pj⟩
  have vF:=xp.below_ pj;have td:=xx.below pj;clear UV xp xx;go_wp2_with (with_reducible refine zx ?_)
  refine stI td fun wz hTy z8=>?_
  have yx:=vF.gb fN (Nat.le_refl _) yS z8;go_wp2_with fail
  refine zw rfl rfl hTy rfl rfl zp rfl ?_
  exact ItemOut.err E.out rfl yx
 | true =>
 rw[hv]at UV;have E:Hid (zd d (l.drop p) cnt=.ok (.mk 3 0 s []) (k+n) (cnt+1)):=by rw[Hid,E1.out,if_neg (fun h=>by rw[hv]at h;cases h.2)]
 clear hv E1;go_wp2_with fail
 refine UV.out.mono ?_
 rintro e w8 ⟨rfl,pj⟩
 have vF:=xp.below_ pj;have td:=xx.below pj;clear UV xp xx;go_wp2_with (with_reducible refine zx ?_)
 refine stI td fun wz hTy z8=>?_
 have yx:=vF.gb fN (Nat.le_refl _) yS z8;go_wp2_with fail
 refine zw rfl rfl hTy rfl rfl zp rfl ?_
 exact ItemOut.ok E.out rfl (by rw[← Nat.add_assoc,HK.out.2.2.2];exact yx) (IsItem.str 3 (by omega) IB)
end
end Go.Proofs.YtjpcnhncoidliaaGreatDoor
