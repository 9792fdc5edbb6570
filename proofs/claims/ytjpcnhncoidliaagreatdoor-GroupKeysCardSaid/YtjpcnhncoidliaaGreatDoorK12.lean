/- squeezed. Walks: the reference's reader of i -/
import Derived.Test.YtjpcnhncoidliaaGreatDoorK11
import Derived.Deep.Matrix
import Derived.ChangeKeysEq
import Derived.KernelRfl
set_option linter.unusedVariables false
set_option linter.unusedSimpArgs false
set_option maxRecDepth 100000
set_option maxHeartbeats 6400000
namespace Go.Proofs.YtjpcnhncoidliaaGreatDoor
open Go.RowKit
section
variable {d:Nat} {w:World} {H:Snap} {g:Nat} {A:Option Addr} {c:Nat} {l:List UInt8} {p cnt lv:Nat}
theorem aG (hTab:Tabs H) (hlv:lv+0=8) (hP:Psr 150 w g H A c l p cnt) (hc:cnt<256) (rv:p<l.length) {ch:UInt8}(nX:l[p]=ch) {low kd:Nat}(xe:ch.toNat%32=low) (mP:ch.toNat/32=kd) (ph:low≤27) (hk:4≤kd∧kd≤6):Calls Tryz.prog 99 #[.pointer (some ⟨g,0,none⟩),.int .i64 (lv:Int)] w (ItemOut 150 w H g A c l p (zd 0 (l.drop p) cnt)):=by
 have yS:=hP.gt;have ux:=(Rdg.refl hP).alloc zO;have u7:=Blk.new w 78 #[.int .i64 0,.int .u64 0,.slice none 0 0,.slice none 0 0];have zG:H w.heap.size=none:=hP.holds.none_of_ge (Nat.le_refl _);have c2:=ux.psr.blk.cell 2 rfl;have ED:=tB rv;rw[nX]at ED
 
 have EH0:Hid (zc (l.drop p)=if 27<low then .error 3 else if low<24 then .ok (ch.toNat,low,1) else if(l.drop (p+1)).length<2 ^ (low-24) then .error 2
    else if ch.toNat/32<7∧(zj 0 (beN ((l.drop (p+1)).take (2 ^ (low-24))))).length≠1+2 ^ (low-24) then .error 4
    else .ok (ch.toNat,beN ((l.drop (p+1)).take (2 ^ (low-24))),1+2 ^ (low-24))):=by rw[Hid,ED,zc,xe]
 have z27:¬ ((27:Int)<(low:Int)):=by omega
 have z27b:decide ((27:Int)<(low:Int))=false:=decide_eq_false z27;have ij:=Hh ph;have VP:=Hh hlv;have lO:Hid (kd<7):=by rw[Hid];omega
 have s7:((kd:Int)==7)=false:=by simp;omega
 have q7:((kd:Int)=7)=False:=eq_false (by omega);have XK:(4:Int)≤(kd:Int):=by omega
 have Dx:(kd:Int)≤6:=by omega
 clear ph ED;have z0:¬ (((l.length:Nat):Int)≤(p:Int)):=by omega
 have z0':decide (((l.length:Nat):Int)≤(p:Int))=false:=decide_eq_false z0;have Zi:(p:Int)<(l.length:Int):=by omega
 have kH:(0:Int)≤(p:Int):=by omega
 have kO:=hP.small;have K1:IntKind.i64.wrap ((p:Int)+1)=(p:Int)+1:=IntWalk.i64_in _ (by omega);obtain⟨b,off,rfl,xW⟩:=hP.bytes.at_ (by omega);have KA:=jJ ⟨ch.toNat,ch.toNat_lt⟩
 simp only at KA
 rw[xe]at KA;have S:(ch.toNat:Int)/32=(kd:Int):=by omega
 have cM:(kd:Int)≤7:=by have:=ch.toNat_lt;omega
 have pk:(low:Int)≤31:=by omega
 have lC:=Hh xW;have yt:=Hh (And.intro xe (And.intro mP rv));have ZO:=Hh (show H.cell? ⟨b,off+p,none⟩=some (zg ch) by have h:=xW p rv;rw[nX]at h;exact h);clear xW xe mP kO nX;have vJ:¬ ((256:Int)≤(cnt:Int)):=by omega
 have uR:decide ((256:Int)≤(cnt:Int))=false:=decide_eq_false vJ;have KC:IntKind.i64.wrap ((cnt:Int)+1)=(cnt:Int)+1:=IntWalk.i64_in _ (by omega);have HC:=Hh hc;clear hc;go_enter Tryz.func99,Tryz.ntmps99
 go_wp2_with (with_reducible refine zx ?_)
 refine zr rfl _ _ _ rfl rfl g 2 (.int .i64 ((cnt:Int)+1)) rfl rfl _ _ ux.psr.blk yI (by simp) rfl fun w2 vE yY=>?_
 have us:Rdg 150 w H w2 H g _ c l p (cnt+1):=ux.step yY vE hP.le (by have:=HC.out;omega);have sM:=u7.gr yY (by omega);clear ux u7 vE yY c2 KC vJ uR;have mR:=us.psr.le;have a0:=us.psr.blk.cell 0 rfl;have a1:=us.psr.blk.cell 1 rfl;go_wp2_with fail
 go_big_quiet (fail)
 have tM:=us.drewN nq;have tK:Blk (w2.drewN nq) w.heap.size 78 #[.int .i64 0,.int .u64 0,.slice none 0 0,.slice none 0 0]:=sM
 generalize w2.drewN nq=w3 at tM tK⊢
 obtain⟨wU,un⟩:=And.intro tM tK;clear tM tK us sM a0 a1 mR;have a0:=wU.psr.blk.cell 0 rfl;have a1:=wU.psr.blk.cell 1 rfl;have q0:=wU.psr.holds.cell ZO.out;go_upto_region 6 with fail
 go_big_quiet (fail)
 have tN:=wU.drewN nq;have tL:Blk (w3.drewN nq) w.heap.size 78 #[.int .i64 0,.int .u64 0,.slice none 0 0,.slice none 0 0]:=un
 generalize w3.drewN nq=w4 at tN tL⊢
 obtain⟨sO,sN⟩:=And.intro tN tL;clear tN tL wU un a0 a1 q0;have a1:=sO.psr.blk.cell 1 rfl;go_wp2_with (with_reducible refine zx ?_)
 refine zr rfl _ _ _ rfl rfl g 1 (.int .i64 ((p:Int)+1)) rfl rfl _ _ sO.psr.blk yI (by simp) rfl fun w5 tF xC=>?_
 have yU:Rdg 150 w H w5 H g (some ⟨b,off,none⟩) c l (p+1) (cnt+1):=sO.step xC tF yt.out.2.2 (by have:=HC.out;omega);have yO:=sN.gr xC (by omega);clear sO sN tF xC a1 K1 z0 z0' Zi kH KA S;go_upto_region 12 with fail
 have KU:IntKind.u64.wrap (low:Int)=(low:Int):=by rw[IntKind.wrap_u64];omega
 go_upto_if 80 with fail
 go_cut [8] (fun s8 wx=>∃ n k:Nat,zc (l.drop p)=.ok (ch.toNat,n,k)∧s8=.int .u64 (n:Int)∧Rdg 150 w H wx H g (some ⟨b,off,none⟩) c l (p+k) (cnt+1)∧Blk wx w.heap.size 78 #[.int .i64 0,.int .u64 0,.slice none 0 0,.slice none 0 0])
 case first =>
  by_cases hl24:low<24
  ·have z24:¬ ((23:Int)<(low:Int)):=by omega
   have z24b:decide ((23:Int)<(low:Int))=false:=decide_eq_false z24;have EH:Hid (zc (l.drop p)=.ok (ch.toNat,low,1)):=by rw[Hid,EH0.out,if_neg (by have:=ij.out;omega),if_pos hl24]
   clear hl24;go_wp2_with fail
   go_meet
   exact⟨low,1,EH.out,rfl,yU,yO⟩
  have z24:(23:Int)<(low:Int):=by omega
  have EH:Hid (zc (l.drop p)=if(l.drop (p+1)).length<2 ^ (low-24) then .error 2
    else if ch.toNat/32<7∧(zj 0 (beN ((l.drop (p+1)).take (2 ^ (low-24))))).length≠1+2 ^ (low-24) then .error 4
    else .ok (ch.toNat,beN ((l.drop (p+1)).take (2 ^ (low-24))),1+2 ^ (low-24))):=by rw[Hid,EH0.out,if_neg (by have:=ij.out;omega),if_neg hl24]
  clear EH0
  rcases(by have:=ij.out;omega:low=24∨low=25∨low=26∨low=27) with rfl | rfl | rfl | rfl
  ·have NM:=Hh (yR yU.psr 1 (by omega) (by omega));have HD:=Hh (fun n hn w=>yW (kd:Int) ((n:Nat):Int) w (by omega) (by omega) (by omega) hn)
   simp only[Nat.reduceSub,Nat.reducePow,Nat.reduceAdd]at EH
   clear hl24 z24 pk z27 z27b KU;go_wp2_with fail
   refine NM.out.mono ?_
   rintro e w6 (⟨hs,rfl,yJ,zK⟩ | ⟨hs,rfl,yJ,zK⟩)
   ·have E:Hid (zd 0 (l.drop p) cnt=.err 2):=by
     have h1:zc (l.drop p)=.error 2:=by rw[EH.out,if_pos (by rw[List.length_drop];have:=yt.out.2.2;omega)]
     rw[Hid,zV 0 (l.drop p) cnt (by have:=HC.out;omega) h1]
    have yf:Rdg 150 w H w6 H g (some ⟨b,off,none⟩) c l (p+1) (cnt+1):=yU.step zK yJ yt.out.2.2 (by have:=HC.out;omega);have yQ:=yO.gr zK (by omega);clear NM HD hs yU yO yJ zK EH;go_wp2_with (with_reducible refine zx ?_)
    refine stI yQ fun wz hTy z8=>?_
    have yx:=yf.gb zG (Nat.le_refl _) yS z8;go_wp2_with fail
    refine zw rfl rfl hTy rfl rfl zp rfl ?_
    exact ItemOut.err E.out rfl yx
   have yf:Rdg 150 w H w6 H g (some ⟨b,off,none⟩) c l (p+1+1) (cnt+1):=yU.step zK yJ hs (by have:=HC.out;omega);have yQ:=yO.gr zK (by omega);have xP:=xX ((l.drop (p+1)).take 1);have x9:((l.drop (p+1)).take 1).length=1:=by rw[List.length_take,List.length_drop];omega
   rw[x9]at xP
   simp only[Nat.reducePow]at xP
   obtain⟨n,hn⟩:∃ n,beN ((l.drop (p+1)).take 1)=n:=⟨_,rfl⟩
   have EH2:Hid (zc (l.drop p)=if(zj 0 n).length≠2 then .error 4 else .ok (ch.toNat,n,2)):=by
    rw[Hid,EH.out,if_neg (by rw[List.length_drop];omega),hn];have:=lO.out;have:=yt.out.2.1
    by_cases h:(zj 0 n).length=2 <;> simp[h] <;> omega
   have uJ:=Hh (fun w=>HD.out n (by omega) w);rw[hn];have z6:(zj (kd:Int).toNat (n:Int).toNat).length=(zj 0 n).length:=by rw[zi,zi];rfl
   obtain⟨fl,vj⟩:∃ fl,(zj 0 n).length=fl:=⟨_,rfl⟩
   rw[vj]at EH2 z6;have ss:=Hh z6;clear NM HD hs yU yO yJ zK EH hn x9 xP vj z6;go_wp2_with fail
   refine(uJ.out _).mono ?_
   rintro e w7 ⟨r,rfl,hf⟩
   have xp:=yf.below_ hf.2;have xx:=yQ.below hf.2;obtain⟨RA,rc,rfl,_⟩:=hf.own.form;rw[ss.out];clear hf uJ yf yQ
   by_cases hq:fl=2
   ·subst hq;have EH3:Hid (zc (l.drop p)=.ok (ch.toNat,n,2)):=by rw[Hid,EH2.out,if_neg (by simp)]
    clear EH2;go_wp2_with fail
    go_meet
    exact⟨n,2,EH3.out,rfl,by rw[show p+2=p+1+1 by omega];exact xp,xx⟩
   have zq:((fl:Int)==2)=false:=by simp;omega
   have zq2:((fl:Int)=2)=False:=eq_false (by omega)
   have E:Hid (zd 0 (l.drop p) cnt=.err 4):=by
    have h1:zc (l.drop p)=.error 4:=by rw[EH2.out,if_pos hq]
    rw[Hid,zV 0 (l.drop p) cnt (by have:=HC.out;omega) h1]
   clear EH2 hq;go_wp2_with (with_reducible refine zx ?_)
   refine stI xx fun wz hTy z8=>?_
   have yx:=xp.gb zG (Nat.le_refl _) yS z8;go_wp2_with fail
   refine zw rfl rfl hTy rfl rfl zp rfl ?_
   exact ItemOut.err E.out rfl yx
  ·have NM:=Hh (yR yU.psr 2 (by omega) (by omega));have HD:=Hh (fun n hn w=>yW (kd:Int) ((n:Nat):Int) w (by omega) (by omega) (by omega) hn)
   simp only[Nat.reduceSub,Nat.reducePow,Nat.reduceAdd]at EH
   clear hl24 z24 pk z27 z27b KU;go_wp2_with fail
   refine NM.out.mono ?_
   rintro e w6 (⟨hs,rfl,yJ,zK⟩ | ⟨hs,rfl,yJ,zK⟩)
   ·have E:Hid (zd 0 (l.drop p) cnt=.err 2):=by
     have h1:zc (l.drop p)=.error 2:=by rw[EH.out,if_pos (by rw[List.length_drop];have:=yt.out.2.2;omega)]
     rw[Hid,zV 0 (l.drop p) cnt (by have:=HC.out;omega) h1]
    have yf:Rdg 150 w H w6 H g (some ⟨b,off,none⟩) c l (p+1) (cnt+1):=yU.step zK yJ yt.out.2.2 (by have:=HC.out;omega);have yQ:=yO.gr zK (by omega);clear NM HD hs yU yO yJ zK EH;go_wp2_with (with_reducible refine zx ?_)
    refine stI yQ fun wz hTy z8=>?_
    have yx:=yf.gb zG (Nat.le_refl _) yS z8;go_wp2_with fail
    refine zw rfl rfl hTy rfl rfl zp rfl ?_
    exact ItemOut.err E.out rfl yx
   have yf:Rdg 150 w H w6 H g (some ⟨b,off,none⟩) c l (p+1+2) (cnt+1):=yU.step zK yJ hs (by have:=HC.out;omega);have yQ:=yO.gr zK (by omega);have xP:=xX ((l.drop (p+1)).take 2);have x9:((l.drop (p+1)).take 2).length=2:=by rw[List.length_take,List.length_drop];omega
   rw[x9]at xP
   simp only[Nat.reducePow]at xP
   obtain⟨n,hn⟩:∃ n,beN ((l.drop (p+1)).take 2)=n:=⟨_,rfl⟩
   have EH2:Hid (zc (l.drop p)=if(zj 0 n).length≠3 then .error 4 else .ok (ch.toNat,n,3)):=by
    rw[Hid,EH.out,if_neg (by rw[List.length_drop];omega),hn];have:=lO.out;have:=yt.out.2.1
    by_cases h:(zj 0 n).length=3 <;> simp[h] <;> omega
   have uJ:=Hh (fun w=>HD.out n (by omega) w);rw[hn];have z6:(zj (kd:Int).toNat (n:Int).toNat).length=(zj 0 n).length:=by rw[zi,zi];rfl
   obtain⟨fl,vj⟩:∃ fl,(zj 0 n).length=fl:=⟨_,rfl⟩
   rw[vj]at EH2 z6;have ss:=Hh z6;clear NM HD hs yU yO yJ zK EH hn x9 xP vj z6;go_wp2_with fail
   refine(uJ.out _).mono ?_
   rintro e w7 ⟨r,rfl,hf⟩
   have xp:=yf.below_ hf.2;have xx:=yQ.below hf.2;obtain⟨RA,rc,rfl,_⟩:=hf.own.form;rw[ss.out];clear hf uJ yf yQ
   by_cases hq:fl=3
   ·subst hq;have EH3:Hid (zc (l.drop p)=.ok (ch.toNat,n,3)):=by rw[Hid,EH2.out,if_neg (by simp)]
    clear EH2;go_wp2_with fail
    go_meet
    exact⟨n,3,EH3.out,rfl,by rw[show p+3=p+1+2 by omega];exact xp,xx⟩
   have zq:((fl:Int)==3)=false:=by simp;omega
   have zq2:((fl:Int)=3)=False:=eq_false (by omega)
   have E:Hid (zd 0 (l.drop p) cnt=.err 4):=by
    have h1:zc (l.drop p)=.error 4:=by rw[EH2.out,if_pos hq]
    rw[Hid,zV 0 (l.drop p) cnt (by have:=HC.out;omega) h1]
   clear EH2 hq;go_wp2_with (with_reducible refine zx ?_)
   refine stI xx fun wz hTy z8=>?_
   have yx:=xp.gb zG (Nat.le_refl _) yS z8;go_wp2_with fail
   refine zw rfl rfl hTy rfl rfl zp rfl ?_
   exact ItemOut.err E.out rfl yx
  ·have NM:=Hh (yR yU.psr 4 (by omega) (by omega));have HD:=Hh (fun n hn w=>yW (kd:Int) ((n:Nat):Int) w (by omega) (by omega) (by omega) hn)
   simp only[Nat.reduceSub,Nat.reducePow,Nat.reduceAdd]at EH
   clear hl24 z24 pk z27 z27b KU;go_wp2_with fail
   refine NM.out.mono ?_
   rintro e w6 (⟨hs,rfl,yJ,zK⟩ | ⟨hs,rfl,yJ,zK⟩)
   ·have E:Hid (zd 0 (l.drop p) cnt=.err 2):=by
     have h1:zc (l.drop p)=.error 2:=by rw[EH.out,if_pos (by rw[List.length_drop];have:=yt.out.2.2;omega)]
     rw[Hid,zV 0 (l.drop p) cnt (by have:=HC.out;omega) h1]
    have yf:Rdg 150 w H w6 H g (some ⟨b,off,none⟩) c l (p+1) (cnt+1):=yU.step zK yJ yt.out.2.2 (by have:=HC.out;omega);have yQ:=yO.gr zK (by omega);clear NM HD hs yU yO yJ zK EH;go_wp2_with (with_reducible refine zx ?_)
    refine stI yQ fun wz hTy z8=>?_
    have yx:=yf.gb zG (Nat.le_refl _) yS z8;go_wp2_with fail
    refine zw rfl rfl hTy rfl rfl zp rfl ?_
    exact ItemOut.err E.out rfl yx
   have yf:Rdg 150 w H w6 H g (some ⟨b,off,none⟩) c l (p+1+4) (cnt+1):=yU.step zK yJ hs (by have:=HC.out;omega);have yQ:=yO.gr zK (by omega);have xP:=xX ((l.drop (p+1)).take 4);have x9:((l.drop (p+1)).take 4).length=4:=by rw[List.length_take,List.length_drop];omega
   rw[x9]at xP
   simp only[Nat.reducePow]at xP
   obtain⟨n,hn⟩:∃ n,beN ((l.drop (p+1)).take 4)=n:=⟨_,rfl⟩
   have EH2:Hid (zc (l.drop p)=if(zj 0 n).length≠5 then .error 4 else .ok (ch.toNat,n,5)):=by
    rw[Hid,EH.out,if_neg (by rw[List.length_drop];omega),hn];have:=lO.out;have:=yt.out.2.1
    by_cases h:(zj 0 n).length=5 <;> simp[h] <;> omega
   have uJ:=Hh (fun w=>HD.out n (by omega) w);rw[hn];have z6:(zj (kd:Int).toNat (n:Int).toNat).length=(zj 0 n).length:=by rw[zi,zi];rfl
   obtain⟨fl,vj⟩:∃ fl,(zj 0 n).length=fl:=⟨_,rfl⟩
   rw[vj]at EH2 z6;have ss:=Hh z6;clear NM HD hs yU yO yJ zK EH hn x9 xP vj z6;go_wp2_with fail
   refine(uJ.out _).mono ?_
   rintro e w7 ⟨r,rfl,hf⟩
   have xp:=yf.below_ hf.2;have xx:=yQ.below hf.2;obtain⟨RA,rc,rfl,_⟩:=hf.own.form;rw[ss.out];clear hf uJ yf yQ
   by_cases hq:fl=5
   ·subst hq;have EH3:Hid (zc (l.drop p)=.ok (ch.toNat,n,5)):=by rw[Hid,EH2.out,if_neg (by simp)]
    clear EH2;go_wp2_with fail
    go_meet
    exact⟨n,5,EH3.out,rfl,by rw[show p+5=p+1+4 by omega];exact xp,xx⟩
   have zq:((fl:Int)==5)=false:=by simp;omega
   have zq2:((fl:Int)=5)=False:=eq_false (by omega)
   have E:Hid (zd 0 (l.drop p) cnt=.err 4):=by
    have h1:zc (l.drop p)=.error 4:=by rw[EH2.out,if_pos hq]
    rw[Hid,zV 0 (l.drop p) cnt (by have:=HC.out;omega) h1]
   clear EH2 hq;go_wp2_with (with_reducible refine zx ?_)
   refine stI xx fun wz hTy z8=>?_
   have yx:=xp.gb zG (Nat.le_refl _) yS z8;go_wp2_with fail
   refine zw rfl rfl hTy rfl rfl zp rfl ?_
   exact ItemOut.err E.out rfl yx
  have NM:=Hh (yR yU.psr 8 (by omega) (by omega));have HD:=Hh (fun n hn w=>yW (kd:Int) ((n:Nat):Int) w (by omega) (by omega) (by omega) hn)
  simp only[Nat.reduceSub,Nat.reducePow,Nat.reduceAdd]at EH
  clear hl24 z24 pk z27 z27b KU;go_wp2_with fail
  refine NM.out.mono ?_
  rintro e w6 (⟨hs,rfl,yJ,zK⟩ | ⟨hs,rfl,yJ,zK⟩)
  ·have E:Hid (zd 0 (l.drop p) cnt=.err 2):=by
    have h1:zc (l.drop p)=.error 2:=by rw[EH.out,if_pos (by rw[List.length_drop];have:=yt.out.2.2;omega)]
    rw[Hid,zV 0 (l.drop p) cnt (by have:=HC.out;omega) h1]
   have yf:Rdg 150 w H w6 H g (some ⟨b,off,none⟩) c l (p+1) (cnt+1):=yU.step zK yJ yt.out.2.2 (by have:=HC.out;omega);have yQ:=yO.gr zK (by omega);clear NM HD hs yU yO yJ zK EH;go_wp2_with (with_reducible refine zx ?_)
   refine stI yQ fun wz hTy z8=>?_
   have yx:=yf.gb zG (Nat.le_refl _) yS z8;go_wp2_with fail
   refine zw rfl rfl hTy rfl rfl zp rfl ?_
   exact ItemOut.err E.out rfl yx
  have yf:Rdg 150 w H w6 H g (some ⟨b,off,none⟩) c l (p+1+8) (cnt+1):=yU.step zK yJ hs (by have:=HC.out;omega);have yQ:=yO.gr zK (by omega);have xP:=xX ((l.drop (p+1)).take 8);have x9:((l.drop (p+1)).take 8).length=8:=by rw[List.length_take,List.length_drop];omega
  rw[x9]at xP
  simp only[Nat.reducePow]at xP
  obtain⟨n,hn⟩:∃ n,beN ((l.drop (p+1)).take 8)=n:=⟨_,rfl⟩
  have EH2:Hid (zc (l.drop p)=if(zj 0 n).length≠9 then .error 4 else .ok (ch.toNat,n,9)):=by
   rw[Hid,EH.out,if_neg (by rw[List.length_drop];omega),hn];have:=lO.out;have:=yt.out.2.1
   by_cases h:(zj 0 n).length=9 <;> simp[h] <;> omega
  have uJ:=Hh (fun w=>HD.out n (by omega) w);rw[hn];have z6:(zj (kd:Int).toNat (n:Int).toNat).length=(zj 0 n).length:=by rw[zi,zi];rfl
  obtain⟨fl,vj⟩:∃ fl,(zj 0 n).length=fl:=⟨_,rfl⟩
  rw[vj]at EH2 z6;have ss:=Hh z6;clear NM HD hs yU yO yJ zK EH hn x9 xP vj z6;go_wp2_with fail
  refine(uJ.out _).mono ?_
  rintro e w7 ⟨r,rfl,hf⟩
  have xp:=yf.below_ hf.2;have xx:=yQ.below hf.2;obtain⟨RA,rc,rfl,_⟩:=hf.own.form;rw[ss.out];clear hf uJ yf yQ
  by_cases hq:fl=9
  ·subst hq;have EH3:Hid (zc (l.drop p)=.ok (ch.toNat,n,9)):=by rw[Hid,EH2.out,if_neg (by simp)]
   clear EH2;go_wp2_with fail
   go_meet
   exact⟨n,9,EH3.out,rfl,by rw[show p+9=p+1+8 by omega];exact xp,xx⟩
  have zq:((fl:Int)==9)=false:=by simp;omega
  have zq2:((fl:Int)=9)=False:=eq_false (by omega)
  have E:Hid (zd 0 (l.drop p) cnt=.err 4):=by
   have h1:zc (l.drop p)=.error 4:=by rw[EH2.out,if_pos hq]
   rw[Hid,zV 0 (l.drop p) cnt (by have:=HC.out;omega) h1]
  clear EH2 hq;go_wp2_with (with_reducible refine zx ?_)
  refine stI xx fun wz hTy z8=>?_
  have yx:=xp.gb zG (Nat.le_refl _) yS z8;go_wp2_with fail
  refine zw rfl rfl hTy rfl rfl zp rfl ?_
  exact ItemOut.err E.out rfl yx
 case rest =>
 obtain⟨n,k,hh,rfl,vF,td⟩:=hcut;have HF:=Hh (tI hh);have HH:=Hh hh;clear hh yU yO;have E:=Hh (YZ (l.drop p) cnt (by have:=HC.out;omega) HH.out (by have:=yt.out.2.1;omega) (by have:=yt.out.2.1;omega));have s0:((kd:Int)==0)=false:=by simp;omega
 have s1:((kd:Int)==1)=false:=by simp;omega
 have s2:((kd:Int)==2)=false:=by simp;omega
 have s3:((kd:Int)==3)=false:=by simp;omega
 have q0:((kd:Int)=0)=False:=eq_false (by omega);have q1:((kd:Int)=1)=False:=eq_false (by omega);have q2:((kd:Int)=2)=False:=eq_false (by omega);have q3:((kd:Int)=3)=False:=eq_false (by omega);have Ha:lv=8:=by have:=VP.out;omega
 subst Ha;go_wp2_with (with_reducible refine zx ?_)
 refine stI td fun wz hTy z8=>?_
 have yx:=vF.gb zG (Nat.le_refl _) yS z8;go_wp2_with fail
 refine zw rfl rfl hTy rfl rfl zp rfl ?_
 exact ItemOut.err E.out rfl yx
theorem aF (hTab:Tabs H) (hE:UF d) (hlv:lv+(d+1)=8) (hP:Psr 150 w g H A c l p cnt) (hc:cnt<256) (rv:p<l.length) {ch:UInt8}(nX:l[p]=ch) {low kd:Nat}(xe:ch.toNat%32=low) (mP:ch.toNat/32=kd) (ph:low≤27) (hk:4≤kd∧kd≤6):Calls Tryz.prog 99 #[.pointer (some ⟨g,0,none⟩),.int .i64 (lv:Int)] w (ItemOut 150 w H g A c l p (zd (d+1) (l.drop p) cnt)):=by
 have yS:=hP.gt;have ux:=(Rdg.refl hP).alloc zO;have u7:=Blk.new w 78 #[.int .i64 0,.int .u64 0,.slice none 0 0,.slice none 0 0];have zG:H w.heap.size=none:=hP.holds.none_of_ge (Nat.le_refl _);have c2:=ux.psr.blk.cell 2 rfl;have ED:=tB rv;rw[nX]at ED
 
 have EH0:Hid (zc (l.drop p)=if 27<low then .error 3 else if low<24 then .ok (ch.toNat,low,1) else if(l.drop (p+1)).length<2 ^ (low-24) then .error 2
    else if ch.toNat/32<7∧(zj 0 (beN ((l.drop (p+1)).take (2 ^ (low-24))))).length≠1+2 ^ (low-24) then .error 4
    else .ok (ch.toNat,beN ((l.drop (p+1)).take (2 ^ (low-24))),1+2 ^ (low-24))):=by rw[Hid,ED,zc,xe]
 have z27:¬ ((27:Int)<(low:Int)):=by omega
 have z27b:decide ((27:Int)<(low:Int))=false:=decide_eq_false z27;have ij:=Hh ph;have VP:=Hh hlv;have lO:Hid (kd<7):=by rw[Hid];omega
 have s7:((kd:Int)==7)=false:=by simp;omega
 have q7:((kd:Int)=7)=False:=eq_false (by omega);have XK:(4:Int)≤(kd:Int):=by omega
 have Dx:(kd:Int)≤6:=by omega
 clear ph ED;have z0:¬ (((l.length:Nat):Int)≤(p:Int)):=by omega
 have z0':decide (((l.length:Nat):Int)≤(p:Int))=false:=decide_eq_false z0;have Zi:(p:Int)<(l.length:Int):=by omega
 have kH:(0:Int)≤(p:Int):=by omega
 have kO:=hP.small;have K1:IntKind.i64.wrap ((p:Int)+1)=(p:Int)+1:=IntWalk.i64_in _ (by omega);obtain⟨b,off,rfl,xW⟩:=hP.bytes.at_ (by omega);have KA:=jJ ⟨ch.toNat,ch.toNat_lt⟩
 simp only at KA
 rw[xe]at KA;have S:(ch.toNat:Int)/32=(kd:Int):=by omega
 have cM:(kd:Int)≤7:=by have:=ch.toNat_lt;omega
 have pk:(low:Int)≤31:=by omega
 have lC:=Hh xW;have yt:=Hh (And.intro xe (And.intro mP rv));have ZO:=Hh (show H.cell? ⟨b,off+p,none⟩=some (zg ch) by have h:=xW p rv;rw[nX]at h;exact h);clear xW xe mP kO nX;have vJ:¬ ((256:Int)≤(cnt:Int)):=by omega
 have uR:decide ((256:Int)≤(cnt:Int))=false:=decide_eq_false vJ;have KC:IntKind.i64.wrap ((cnt:Int)+1)=(cnt:Int)+1:=IntWalk.i64_in _ (by omega);have HC:=Hh hc;clear hc;go_enter Tryz.func99,Tryz.ntmps99
 go_wp2_with (with_reducible refine zx ?_)
 refine zr rfl _ _ _ rfl rfl g 2 (.int .i64 ((cnt:Int)+1)) rfl rfl _ _ ux.psr.blk yI (by simp) rfl fun w2 vE yY=>?_
 have us:Rdg 150 w H w2 H g _ c l p (cnt+1):=ux.step yY vE hP.le (by have:=HC.out;omega);have sM:=u7.gr yY (by omega);clear ux u7 vE yY c2 KC vJ uR;have mR:=us.psr.le;have a0:=us.psr.blk.cell 0 rfl;have a1:=us.psr.blk.cell 1 rfl;go_wp2_with fail
 go_big_quiet (fail)
 have tM:=us.drewN nq;have tK:Blk (w2.drewN nq) w.heap.size 78 #[.int .i64 0,.int .u64 0,.slice none 0 0,.slice none 0 0]:=sM
 generalize w2.drewN nq=w3 at tM tK⊢
 obtain⟨wU,un⟩:=And.intro tM tK;clear tM tK us sM a0 a1 mR;have a0:=wU.psr.blk.cell 0 rfl;have a1:=wU.psr.blk.cell 1 rfl;have q0:=wU.psr.holds.cell ZO.out;go_upto_region 6 with fail
 go_big_quiet (fail)
 have tN:=wU.drewN nq;have tL:Blk (w3.drewN nq) w.heap.size 78 #[.int .i64 0,.int .u64 0,.slice none 0 0,.slice none 0 0]:=un
 generalize w3.drewN nq=w4 at tN tL⊢
 obtain⟨sO,sN⟩:=And.intro tN tL;clear tN tL wU un a0 a1 q0;have a1:=sO.psr.blk.cell 1 rfl;go_wp2_with (with_reducible refine zx ?_)
 refine zr rfl _ _ _ rfl rfl g 1 (.int .i64 ((p:Int)+1)) rfl rfl _ _ sO.psr.blk yI (by simp) rfl fun w5 tF xC=>?_
 have yU:Rdg 150 w H w5 H g (some ⟨b,off,none⟩) c l (p+1) (cnt+1):=sO.step xC tF yt.out.2.2 (by have:=HC.out;omega);have yO:=sN.gr xC (by omega);clear sO sN tF xC a1 K1 z0 z0' Zi kH KA S;go_upto_region 12 with fail
 have KU:IntKind.u64.wrap (low:Int)=(low:Int):=by rw[IntKind.wrap_u64];omega
 go_upto_if 80 with fail
 go_cut [8] (fun s8 wx=>∃ n k:Nat,zc (l.drop p)=.ok (ch.toNat,n,k)∧s8=.int .u64 (n:Int)∧Rdg 150 w H wx H g (some ⟨b,off,none⟩) c l (p+k) (cnt+1)∧Blk wx w.heap.size 78 #[.int .i64 0,.int .u64 0,.slice none 0 0,.slice none 0 0])
 case first =>
  by_cases hl24:low<24
  ·have z24:¬ ((23:Int)<(low:Int)):=by omega
   have z24b:decide ((23:Int)<(low:Int))=false:=decide_eq_false z24;have EH:Hid (zc (l.drop p)=.ok (ch.toNat,low,1)):=by rw[Hid,EH0.out,if_neg (by have:=ij.out;omega),if_pos hl24]
   clear hl24;go_wp2_with fail
   go_meet
   exact⟨low,1,EH.out,rfl,yU,yO⟩
  have z24:(23:Int)<(low:Int):=by omega
  have EH:Hid (zc (l.drop p)=if(l.drop (p+1)).length<2 ^ (low-24) then .error 2
    else if ch.toNat/32<7∧(zj 0 (beN ((l.drop (p+1)).take (2 ^ (low-24))))).length≠1+2 ^ (low-24) then .error 4
    else .ok (ch.toNat,beN ((l.drop (p+1)).take (2 ^ (low-24))),1+2 ^ (low-24))):=by rw[Hid,EH0.out,if_neg (by have:=ij.out;omega),if_neg hl24]
  clear EH0
  rcases(by have:=ij.out;omega:low=24∨low=25∨low=26∨low=27) with rfl | rfl | rfl | rfl
  ·have NM:=Hh (yR yU.psr 1 (by omega) (by omega));have HD:=Hh (fun n hn w=>yW (kd:Int) ((n:Nat):Int) w (by omega) (by omega) (by omega) hn)
   simp only[Nat.reduceSub,Nat.reducePow,Nat.reduceAdd]at EH
   clear hl24 z24 pk z27 z27b KU;go_wp2_with fail
   refine NM.out.mono ?_
   rintro e w6 (⟨hs,rfl,yJ,zK⟩ | ⟨hs,rfl,yJ,zK⟩)
   ·have E:Hid (zd (d+1) (l.drop p) cnt=.err 2):=by
     have h1:zc (l.drop p)=.error 2:=by rw[EH.out,if_pos (by rw[List.length_drop];have:=yt.out.2.2;omega)]
     rw[Hid,zV (d+1) (l.drop p) cnt (by have:=HC.out;omega) h1]
    have yf:Rdg 150 w H w6 H g (some ⟨b,off,none⟩) c l (p+1) (cnt+1):=yU.step zK yJ yt.out.2.2 (by have:=HC.out;omega);have yQ:=yO.gr zK (by omega);clear NM HD hs yU yO yJ zK EH;go_wp2_with (with_reducible refine zx ?_)
    refine stI yQ fun wz hTy z8=>?_
    have yx:=yf.gb zG (Nat.le_refl _) yS z8;go_wp2_with fail
    refine zw rfl rfl hTy rfl rfl zp rfl ?_
    exact ItemOut.err E.out rfl yx
   have yf:Rdg 150 w H w6 H g (some ⟨b,off,none⟩) c l (p+1+1) (cnt+1):=yU.step zK yJ hs (by have:=HC.out;omega);have yQ:=yO.gr zK (by omega);have xP:=xX ((l.drop (p+1)).take 1);have x9:((l.drop (p+1)).take 1).length=1:=by rw[List.length_take,List.length_drop];omega
   rw[x9]at xP
   simp only[Nat.reducePow]at xP
   obtain⟨n,hn⟩:∃ n,beN ((l.drop (p+1)).take 1)=n:=⟨_,rfl⟩
   have EH2:Hid (zc (l.drop p)=if(zj 0 n).length≠2 then .error 4 else .ok (ch.toNat,n,2)):=by
    rw[Hid,EH.out,if_neg (by rw[List.length_drop];omega),hn];have:=lO.out;have:=yt.out.2.1
    by_cases h:(zj 0 n).length=2 <;> simp[h] <;> omega
   have uJ:=Hh (fun w=>HD.out n (by omega) w);rw[hn];have z6:(zj (kd:Int).toNat (n:Int).toNat).length=(zj 0 n).length:=by rw[zi,zi];rfl
   obtain⟨fl,vj⟩:∃ fl,(zj 0 n).length=fl:=⟨_,rfl⟩
   rw[vj]at EH2 z6;have ss:=Hh z6;clear NM HD hs yU yO yJ zK EH hn x9 xP vj z6;go_wp2_with fail
   refine(uJ.out _).mono ?_
   rintro e w7 ⟨r,rfl,hf⟩
   have xp:=yf.below_ hf.2;have xx:=yQ.below hf.2;obtain⟨RA,rc,rfl,_⟩:=hf.own.form;rw[ss.out];clear hf uJ yf yQ
   by_cases hq:fl=2
   ·subst hq;have EH3:Hid (zc (l.drop p)=.ok (ch.toNat,n,2)):=by rw[Hid,EH2.out,if_neg (by simp)]
    clear EH2;go_wp2_with fail
    go_meet
    exact⟨n,2,EH3.out,rfl,by rw[show p+2=p+1+1 by omega];exact xp,xx⟩
   have zq:((fl:Int)==2)=false:=by simp;omega
   have zq2:((fl:Int)=2)=False:=eq_false (by omega)
   have E:Hid (zd (d+1) (l.drop p) cnt=.err 4):=by
    have h1:zc (l.drop p)=.error 4:=by rw[EH2.out,if_pos hq]
    rw[Hid,zV (d+1) (l.drop p) cnt (by have:=HC.out;omega) h1]
   clear EH2 hq;go_wp2_with (with_reducible refine zx ?_)
   refine stI xx fun wz hTy z8=>?_
   have yx:=xp.gb zG (Nat.le_refl _) yS z8;go_wp2_with fail
   refine zw rfl rfl hTy rfl rfl zp rfl ?_
   exact ItemOut.err E.out rfl yx
  ·have NM:=Hh (yR yU.psr 2 (by omega) (by omega));have HD:=Hh (fun n hn w=>yW (kd:Int) ((n:Nat):Int) w (by omega) (by omega) (by omega) hn)
   simp only[Nat.reduceSub,Nat.reducePow,Nat.reduceAdd]at EH
   clear hl24 z24 pk z27 z27b KU;go_wp2_with fail
   refine NM.out.mono ?_
   rintro e w6 (⟨hs,rfl,yJ,zK⟩ | ⟨hs,rfl,yJ,zK⟩)
   ·have E:Hid (zd (d+1) (l.drop p) cnt=.err 2):=by
     have h1:zc (l.drop p)=.error 2:=by rw[EH.out,if_pos (by rw[List.length_drop];have:=yt.out.2.2;omega)]
     rw[Hid,zV (d+1) (l.drop p) cnt (by have:=HC.out;omega) h1]
    have yf:Rdg 150 w H w6 H g (some ⟨b,off,none⟩) c l (p+1) (cnt+1):=yU.step zK yJ yt.out.2.2 (by have:=HC.out;omega);have yQ:=yO.gr zK (by omega);clear NM HD hs yU yO yJ zK EH;go_wp2_with (with_reducible refine zx ?_)
    refine stI yQ fun wz hTy z8=>?_
    have yx:=yf.gb zG (Nat.le_refl _) yS z8;go_wp2_with fail
    refine zw rfl rfl hTy rfl rfl zp rfl ?_
    exact ItemOut.err E.out rfl yx
   have yf:Rdg 150 w H w6 H g (some ⟨b,off,none⟩) c l (p+1+2) (cnt+1):=yU.step zK yJ hs (by have:=HC.out;omega);have yQ:=yO.gr zK (by omega);have xP:=xX ((l.drop (p+1)).take 2);have x9:((l.drop (p+1)).take 2).length=2:=by rw[List.length_take,List.length_drop];omega
   rw[x9]at xP
   simp only[Nat.reducePow]at xP
   obtain⟨n,hn⟩:∃ n,beN ((l.drop (p+1)).take 2)=n:=⟨_,rfl⟩
   have EH2:Hid (zc (l.drop p)=if(zj 0 n).length≠3 then .error 4 else .ok (ch.toNat,n,3)):=by
    rw[Hid,EH.out,if_neg (by rw[List.length_drop];omega),hn];have:=lO.out;have:=yt.out.2.1
    by_cases h:(zj 0 n).length=3 <;> simp[h] <;> omega
   have uJ:=Hh (fun w=>HD.out n (by omega) w);rw[hn];have z6:(zj (kd:Int).toNat (n:Int).toNat).length=(zj 0 n).length:=by rw[zi,zi];rfl
   obtain⟨fl,vj⟩:∃ fl,(zj 0 n).length=fl:=⟨_,rfl⟩
   rw[vj]at EH2 z6;have ss:=Hh z6;clear NM HD hs yU yO yJ zK EH hn x9 xP vj z6;go_wp2_with fail
   refine(uJ.out _).mono ?_
   rintro e w7 ⟨r,rfl,hf⟩
   have xp:=yf.below_ hf.2;have xx:=yQ.below hf.2;obtain⟨RA,rc,rfl,_⟩:=hf.own.form;rw[ss.out];clear hf uJ yf yQ
   by_cases hq:fl=3
   ·subst hq;have EH3:Hid (zc (l.drop p)=.ok (ch.toNat,n,3)):=by rw[Hid,EH2.out,if_neg (by simp)]
    clear EH2;go_wp2_with fail
    go_meet
    exact⟨n,3,EH3.out,rfl,by rw[show p+3=p+1+2 by omega];exact xp,xx⟩
   have zq:((fl:Int)==3)=false:=by simp;omega
   have zq2:((fl:Int)=3)=False:=eq_false (by omega)
   have E:Hid (zd (d+1) (l.drop p) cnt=.err 4):=by
    have h1:zc (l.drop p)=.error 4:=by rw[EH2.out,if_pos hq]
    rw[Hid,zV (d+1) (l.drop p) cnt (by have:=HC.out;omega) h1]
   clear EH2 hq;go_wp2_with (with_reducible refine zx ?_)
   refine stI xx fun wz hTy z8=>?_
   have yx:=xp.gb zG (Nat.le_refl _) yS z8;go_wp2_with fail
   refine zw rfl rfl hTy rfl rfl zp rfl ?_
   exact ItemOut.err E.out rfl yx
  ·have NM:=Hh (yR yU.psr 4 (by omega) (by omega));have HD:=Hh (fun n hn w=>yW (kd:Int) ((n:Nat):Int) w (by omega) (by omega) (by omega) hn)
   simp only[Nat.reduceSub,Nat.reducePow,Nat.reduceAdd]at EH
   clear hl24 z24 pk z27 z27b KU;go_wp2_with fail
   refine NM.out.mono ?_
   rintro e w6 (⟨hs,rfl,yJ,zK⟩ | ⟨hs,rfl,yJ,zK⟩)
   ·have E:Hid (zd (d+1) (l.drop p) cnt=.err 2):=by
     have h1:zc (l.drop p)=.error 2:=by rw[EH.out,if_pos (by rw[List.length_drop];have:=yt.out.2.2;omega)]
     rw[Hid,zV (d+1) (l.drop p) cnt (by have:=HC.out;omega) h1]
    have yf:Rdg 150 w H w6 H g (some ⟨b,off,none⟩) c l (p+1) (cnt+1):=yU.step zK yJ yt.out.2.2 (by have:=HC.out;omega);have yQ:=yO.gr zK (by omega);clear NM HD hs yU yO yJ zK EH;go_wp2_with (with_reducible refine zx ?_)
    refine stI yQ fun wz hTy z8=>?_
    have yx:=yf.gb zG (Nat.le_refl _) yS z8;go_wp2_with fail
    refine zw rfl rfl hTy rfl rfl zp rfl ?_
    exact ItemOut.err E.out rfl yx
   have yf:Rdg 150 w H w6 H g (some ⟨b,off,none⟩) c l (p+1+4) (cnt+1):=yU.step zK yJ hs (by have:=HC.out;omega);have yQ:=yO.gr zK (by omega);have xP:=xX ((l.drop (p+1)).take 4);have x9:((l.drop (p+1)).take 4).length=4:=by rw[List.length_take,List.length_drop];omega
   rw[x9]at xP
   simp only[Nat.reducePow]at xP
   obtain⟨n,hn⟩:∃ n,beN ((l.drop (p+1)).take 4)=n:=⟨_,rfl⟩
   have EH2:Hid (zc (l.drop p)=if(zj 0 n).length≠5 then .error 4 else .ok (ch.toNat,n,5)):=by
    rw[Hid,EH.out,if_neg (by rw[List.length_drop];omega),hn];have:=lO.out;have:=yt.out.2.1
    by_cases h:(zj 0 n).length=5 <;> simp[h] <;> omega
   have uJ:=Hh (fun w=>HD.out n (by omega) w);rw[hn];have z6:(zj (kd:Int).toNat (n:Int).toNat).length=(zj 0 n).length:=by rw[zi,zi];rfl
   obtain⟨fl,vj⟩:∃ fl,(zj 0 n).length=fl:=⟨_,rfl⟩
   rw[vj]at EH2 z6;have ss:=Hh z6;clear NM HD hs yU yO yJ zK EH hn x9 xP vj z6;go_wp2_with fail
   refine(uJ.out _).mono ?_
   rintro e w7 ⟨r,rfl,hf⟩
   have xp:=yf.below_ hf.2;have xx:=yQ.below hf.2;obtain⟨RA,rc,rfl,_⟩:=hf.own.form;rw[ss.out];clear hf uJ yf yQ
   by_cases hq:fl=5
   ·subst hq;have EH3:Hid (zc (l.drop p)=.ok (ch.toNat,n,5)):=by rw[Hid,EH2.out,if_neg (by simp)]
    clear EH2;go_wp2_with fail
    go_meet
    exact⟨n,5,EH3.out,rfl,by rw[show p+5=p+1+4 by omega];exact xp,xx⟩
   have zq:((fl:Int)==5)=false:=by simp;omega
   have zq2:((fl:Int)=5)=False:=eq_false (by omega)
   have E:Hid (zd (d+1) (l.drop p) cnt=.err 4):=by
    have h1:zc (l.drop p)=.error 4:=by rw[EH2.out,if_pos hq]
    rw[Hid,zV (d+1) (l.drop p) cnt (by have:=HC.out;omega) h1]
   clear EH2 hq;go_wp2_with (with_reducible refine zx ?_)
   refine stI xx fun wz hTy z8=>?_
   have yx:=xp.gb zG (Nat.le_refl _) yS z8;go_wp2_with fail
   refine zw rfl rfl hTy rfl rfl zp rfl ?_
   exact ItemOut.err E.out rfl yx
  have NM:=Hh (yR yU.psr 8 (by omega) (by omega));have HD:=Hh (fun n hn w=>yW (kd:Int) ((n:Nat):Int) w (by omega) (by omega) (by omega) hn)
  simp only[Nat.reduceSub,Nat.reducePow,Nat.reduceAdd]at EH
  clear hl24 z24 pk z27 z27b KU;go_wp2_with fail
  refine NM.out.mono ?_
  rintro e w6 (⟨hs,rfl,yJ,zK⟩ | ⟨hs,rfl,yJ,zK⟩)
  ·have E:Hid (zd (d+1) (l.drop p) cnt=.err 2):=by
    have h1:zc (l.drop p)=.error 2:=by rw[EH.out,if_pos (by rw[List.length_drop];have:=yt.out.2.2;omega)]
    rw[Hid,zV (d+1) (l.drop p) cnt (by have:=HC.out;omega) h1]
   have yf:Rdg 150 w H w6 H g (some ⟨b,off,none⟩) c l (p+1) (cnt+1):=yU.step zK yJ yt.out.2.2 (by have:=HC.out;omega);have yQ:=yO.gr zK (by omega);clear NM HD hs yU yO yJ zK EH;go_wp2_with (with_reducible refine zx ?_)
   refine stI yQ fun wz hTy z8=>?_
   have yx:=yf.gb zG (Nat.le_refl _) yS z8;go_wp2_with fail
   refine zw rfl rfl hTy rfl rfl zp rfl ?_
   exact ItemOut.err E.out rfl yx
  have yf:Rdg 150 w H w6 H g (some ⟨b,off,none⟩) c l (p+1+8) (cnt+1):=yU.step zK yJ hs (by have:=HC.out;omega);have yQ:=yO.gr zK (by omega);have xP:=xX ((l.drop (p+1)).take 8);have x9:((l.drop (p+1)).take 8).length=8:=by rw[List.length_take,List.length_drop];omega
  rw[x9]at xP
  simp only[Nat.reducePow]at xP
  obtain⟨n,hn⟩:∃ n,beN ((l.drop (p+1)).take 8)=n:=⟨_,rfl⟩
  have EH2:Hid (zc (l.drop p)=if(zj 0 n).length≠9 then .error 4 else .ok (ch.toNat,n,9)):=by
   rw[Hid,EH.out,if_neg (by rw[List.length_drop];omega),hn];have:=lO.out;have:=yt.out.2.1
   by_cases h:(zj 0 n).length=9 <;> simp[h] <;> omega
  have uJ:=Hh (fun w=>HD.out n (by omega) w);rw[hn];have z6:(zj (kd:Int).toNat (n:Int).toNat).length=(zj 0 n).length:=by rw[zi,zi];rfl
  obtain⟨fl,vj⟩:∃ fl,(zj 0 n).length=fl:=⟨_,rfl⟩
  rw[vj]at EH2 z6;have ss:=Hh z6;clear NM HD hs yU yO yJ zK EH hn x9 xP vj z6;go_wp2_with fail
  refine(uJ.out _).mono ?_
  rintro e w7 ⟨r,rfl,hf⟩
  have xp:=yf.below_ hf.2;have xx:=yQ.below hf.2;obtain⟨RA,rc,rfl,_⟩:=hf.own.form;rw[ss.out];clear hf uJ yf yQ
  by_cases hq:fl=9
  ·subst hq;have EH3:Hid (zc (l.drop p)=.ok (ch.toNat,n,9)):=by rw[Hid,EH2.out,if_neg (by simp)]
   clear EH2;go_wp2_with fail
   go_meet
   exact⟨n,9,EH3.out,rfl,by rw[show p+9=p+1+8 by omega];exact xp,xx⟩
  have zq:((fl:Int)==9)=false:=by simp;omega
  have zq2:((fl:Int)=9)=False:=eq_false (by omega)
  have E:Hid (zd (d+1) (l.drop p) cnt=.err 4):=by
   have h1:zc (l.drop p)=.error 4:=by rw[EH2.out,if_pos hq]
   rw[Hid,zV (d+1) (l.drop p) cnt (by have:=HC.out;omega) h1]
  clear EH2 hq;go_wp2_with (with_reducible refine zx ?_)
  refine stI xx fun wz hTy z8=>?_
  have yx:=xp.gb zG (Nat.le_refl _) yS z8;go_wp2_with fail
  refine zw rfl rfl hTy rfl rfl zp rfl ?_
  exact ItemOut.err E.out rfl yx
 case rest =>
 obtain⟨n,k,hh,rfl,vF,td⟩:=hcut;have HF:=Hh (tI hh);have HH:=Hh hh;clear hh yU yO;have E0:=Hh (YY d (l.drop p) cnt (by have:=HC.out;omega) HH.out (by have:=yt.out.2.1;omega) (by have:=yt.out.2.1;omega));rw[yt.out.2.1,List.drop_drop]at E0;have s0:((kd:Int)==0)=false:=by simp;omega
 have s1:((kd:Int)==1)=false:=by simp;omega
 have s2:((kd:Int)==2)=false:=by simp;omega
 have s3:((kd:Int)==3)=false:=by simp;omega
 have q0:((kd:Int)=0)=False:=eq_false (by omega);have q1:((kd:Int)=1)=False:=eq_false (by omega);have q2:((kd:Int)=2)=False:=eq_false (by omega);have q3:((kd:Int)=3)=False:=eq_false (by omega);have Gz:¬ ((8:Int)≤(lv:Int)):=by have:=VP.out;omega
 have EC:decide ((8:Int)≤(lv:Int))=false:=decide_eq_false Gz;have EL:=Hh (hE wc H g (some ⟨b,off,none⟩) c l (p+k) (cnt+1) lv kd n hTab (by have:=VP.out;omega) (by omega) (by omega) HF.out.n_lt (by have:=yt.out.2.2;omega) vF.psr);go_wp2_with fail
 refine EL.out.mono ?_
 intro e w6 hs
 cases fO:uG kd d n (l.drop (p+k)) (cnt+1) with
 | err q =>
  rw[fO,ItemOut]at hs;obtain⟨rfl,H4,p4,cnt4,p8⟩:=hs;have E:Hid (zd (d+1) (l.drop p) cnt=.err q):=by rw[Hid,E0.out,fO]
  have yf:=vF.trans p8;have yQ:=td.rdg p8 (by omega);have pD:=p8.hid zG td.lt;clear p8 vF td EL fO E0;go_wp2_with (with_reducible refine zx ?_)
  refine stI yQ fun wz hTy z8=>?_
  have yx:=yf.gb pD (Nat.le_refl _) yS z8;go_wp2_with fail
  refine zw rfl rfl hTy rfl rfl zp rfl ?_
  exact ItemOut.err E.out rfl yx
 | ok x k' c' =>
 rw[fO,ItemOut]at hs;obtain⟨ja,jb,jc,jd,H4,rfl,p8,Nu⟩:=hs;have E:Hid (zd (d+1) (l.drop p) cnt=.ok x (k+k') c'):=by rw[Hid,E0.out,fO]
 have yf:=vF.trans p8;have yQ:=td.rdg p8 (by omega);have pD:=p8.hid zG td.lt;clear p8 vF td EL fO E0;go_wp2_with (with_reducible refine zx ?_)
 refine stI yQ fun wz hTy z8=>?_
 have yx:=yf.gb pD (Nat.le_refl _) yS z8;go_wp2_with fail
 refine zw rfl rfl hTy rfl rfl zp rfl ?_
 exact ItemOut.ok E.out rfl (by rw[← Nat.add_assoc];exact yx) Nu
end
theorem WP (hE:∀ d,lD d→UF d):∀ d:Nat,lD d:=by
 intro d
 induction d with
 | zero =>
  intro w H g A c l p cnt lv hTab hlv hP
  by_cases hc:cnt=256
  ·exact jA hTab hlv hP hc
  have hc:cnt<256:=by have:=hP.cnt_le;omega
  by_cases yy:p=l.length
  ·exact gG hTab hlv hP hc yy
  have rv:p<l.length:=by have:=hP.le;omega
  by_cases ph:27<l[p].toNat%32
  ·exact j9 hTab hlv hP hc rv rfl rfl rfl ph
  have ph:l[p].toNat%32≤27:=by omega
  have hf:=l[p].toNat_lt
  rcases(by omega:l[p].toNat/32=0∨l[p].toNat/32=1∨l[p].toNat/32=2∨l[p].toNat/32=3∨l[p].toNat/32=7∨(4≤l[p].toNat/32∧l[p].toNat/32≤6)) with hk | hk | hk | hk | hk | hk
  ·exact bF hTab hlv hP hc rv rfl rfl rfl ph hk
  ·exact bG hTab hlv hP hc rv rfl rfl rfl ph hk
  ·exact bH hTab hlv hP hc rv rfl rfl rfl ph hk
  ·exact bI hTab hlv hP hc rv rfl rfl rfl ph hk
  ·exact bJ hTab hlv hP hc rv rfl rfl rfl ph hk
  exact aG hTab hlv hP hc rv rfl rfl rfl ph hk
 | succ d ih =>
 intro w H g A c l p cnt lv hTab hlv hP
 by_cases hc:cnt=256
 ·exact jA hTab hlv hP hc
 have hc:cnt<256:=by have:=hP.cnt_le;omega
 by_cases yy:p=l.length
 ·exact gG hTab hlv hP hc yy
 have rv:p<l.length:=by have:=hP.le;omega
 by_cases ph:27<l[p].toNat%32
 ·exact j9 hTab hlv hP hc rv rfl rfl rfl ph
 have ph:l[p].toNat%32≤27:=by omega
 have hf:=l[p].toNat_lt
 rcases(by omega:l[p].toNat/32=0∨l[p].toNat/32=1∨l[p].toNat/32=2∨l[p].toNat/32=3∨l[p].toNat/32=7∨(4≤l[p].toNat/32∧l[p].toNat/32≤6)) with hk | hk | hk | hk | hk | hk
 ·exact bF hTab hlv hP hc rv rfl rfl rfl ph hk
 ·exact bG hTab hlv hP hc rv rfl rfl rfl ph hk
 ·exact bH hTab hlv hP hc rv rfl rfl rfl ph hk
 ·exact bI hTab hlv hP hc rv rfl rfl rfl ph hk
 ·exact bJ hTab hlv hP hc rv rfl rfl rfl ph hk
 exact aF hTab (hE d ih) hlv hP hc rv rfl rfl rfl ph hk
theorem OU (d:Nat) (ih:lD d):UF d:=by
 intro w H g A c l p cnt lv maj n hTab hlv h4 h6 hn V9 hP
 rcases(by omega:maj=4∨maj=5∨maj=6) with rfl | rfl | rfl
 ·exact TQ ih hTab hlv hn V9 hP
 ·exact TR ih hTab hlv hn V9 hP
 exact TS ih hTab hlv hn V9 hP
theorem OV:∀ d,lD d:=WP OU
theorem Yf {H:Snap}(hTab:Tabs H) (w:World) (hH:Holds w H) {A:Option Addr}{n c:Nat}{l:List UInt8}(hn:n=l.length) (hl:IsBytes H A c l) :
  Calls Tryz.prog 75 #[.slice A n c] w (sG w H l):=ew OV hTab w hH hn hl
theorem Grows.snap {w w':World}{H H' H'':Snap}{A:Option Addr}(h:Grows w H w' H') (hl:H'.le H'') (hh:Holds w' H'') (hf:∀ b o,H'' b=some o→H' b=some o∨A.map (·.block)=some b)
  (hA:∀ q,A.map (·.block)=some q→w.heap.size≤q):Grows w H w' H'' :=
 ⟨h.below,h.le.trans hl,hh,fun b o hb=>by
  rcases hf b o hb with h1 | h1
  ·exact h.fresh b o h1
  exact .inr (hA _ h1)⟩
def fA:First:=⟨3,[0],List.replicate 32 0,[55],[]⟩
theorem OwnX.lit {α:Type}{L:Lie α}{H:Snap}{cs:List Value}{l:List α}(hc:RowC L H cs l) (t:TypeId) (w:World) (base:Nat) (hb:base≤w.heap.size) (hm:l.length≤4096) :
  OwnX L t (w.alloc (.cells cs.toArray t)) base (.slice (some ⟨w.heap.size,0,none⟩) l.length l.length) H l :=
 ⟨cs,hc,hc.len,.inr ⟨w.heap.size,l.length,cs.toArray,rfl,hb,heap_alloc_new w _,Nat.le_refl _,by simp only[maxLen];omega,by simp[hc.len],by rw[← hc.len];simp⟩⟩
theorem dE {α:Type}{L:Lie α}{w wr:World}{H Hr:Snap}{cs:List Value}{l:List α}(hG:Grows w H wr Hr) (hc:RowC L Hr cs l) (t:TypeId) (hm:l.length≤4096) :
  ∃ H',Grows w H (wr.alloc (.cells cs.toArray t)) H'∧Hr.le H'∧IsRow L H' (some ⟨wr.heap.size,0,none⟩) l.length l:=by
 have hO:=OwnX.lit hc t wr wr.heap.size (Nat.le_refl _) hm;have Mt:=hG.alloc (.cells cs.toArray t);obtain⟨H',hl,hh,hf,_,hr⟩:=hO.snap Mt.holds (fun q hq=>by cases hq;exact hG.holds.none_of_ge (Nat.le_refl _))
 exact⟨H',Mt.snap hl hh hf (fun q hq=>by cases hq;exact hG.size),hl,hr⟩
theorem jp {w wr:World}{H Hr:Snap}(hG:Grows w H wr Hr) (l:List UInt8) (cs:Array Value) (k:Nat) (hk:k=l.length) (hm:l.length≤4096) (hc:cs.toList=l.map zg) :
  ∃ H',Grows w H (wr.alloc (.cells cs 5)) H'∧Hr.le H'∧IsBytes H' (some ⟨wr.heap.size,0,none⟩) k l:=by
 obtain⟨H',Mt,hb,_⟩:=Fresh.snapB hG.holds (Fresh.lit wr l cs k hk hm hc)
 exact⟨H',hG.trans Mt,Mt.le,hb⟩
theorem WC (A:Option Addr) (n c:Nat) (w:World) :
  Calls Tryz.prog 17 #[.slice A n c] w fun e w'=>(∃ b:Bool,e=.returned (.bool b)∧(b=true→n≤900))∧w'=w:=by
 have E:Hid (decide ((n:Int)≤900)=decide (n≤900)):=by rw[Hid,Bool.eq_iff_iff,decide_eq_true_eq,decide_eq_true_eq];omega
 go_enter Tryz.func17,Tryz.ntmps17
 go_wp2_with fail
 go_ret
 exact⟨⟨decide ((n:Int)≤900),rfl,by intro h;rw[E.out]at h;simpa using h⟩,rfl⟩
end Go.Proofs.YtjpcnhncoidliaaGreatDoor
namespace Go.Proofs.YtjpcnhncoidliaaGreatDoor
open Go.RowKit Go.ChangeShapes Go.WideShapes
instance:Inhabited Ext:=⟨⟨0,false,[]⟩⟩
theorem QK {α:Type}{l:List α}(h:l.length=3):∃ a b c,l=[a,b,c]:=by
 match l,h with
 | [a,b,c],_=>exact⟨a,b,c,rfl⟩
section
variable {H:Type} {enc:TypeId×Value→H} {W:World}
theorem ix {fuel:Nat}{c:Value}{x:DataW H×List MemPlace}(h:DataW.trod enc Tryz.prog W 0 (fun _=>true) true fuel 23 [c]=some x) :
  ∃ (A:Option Addr) (k:Nat) (l:List UInt8),c=.slice A l.length k∧IsBytes (oB W) A k l:=by
 rcases open_ints Tryz.underlying23 Tryz.underlying5 (by kernel_rfl) h with ⟨lT,hx⟩ | ⟨a,len,cap,zs,lT,_,hl,hm,hz,hx,uH,hwz⟩
 ·simp at lT
  exact⟨none,0,[],lT,IsBytes.nil _⟩
 simp at lT
 have h1:=fs hl hm (by simp at hz;omega) uH hwz
 exact⟨some a,cap,_,by rw[h1.2];exact lT,h1.1⟩
end
end Go.Proofs.YtjpcnhncoidliaaGreatDoor
namespace Go.Proofs.YtjpcnhncoidliaaGreatDoor
open Go.RowKit
theorem IsBytes.take' {H:Snap}{A:Option Addr}{c:Nat}{l:List UInt8}(h:IsBytes H A c l) (m:Nat):IsBytes H A c (l.take m):=by
 refine⟨by have:=h.le;rw[List.length_take];omega,h.max,fun xq=>?_⟩
 obtain⟨b,off,e,hc⟩:=h.row (by intro h0;rw[List.map_eq_nil_iff]at h0;subst h0;simp at xq)
 refine⟨b,off,e,fun j v hj=>hc j v ?_⟩
 rw[List.map_take,List.getElem?_take]at hj
 split at hj
 ·exact hj
 cases hj
theorem IsBytes.drop' {H:Snap}{A:Option Addr}{c:Nat}{l:List UInt8}(h:IsBytes H A c l) (k:Nat) (hk:k≤l.length):IsBytes H (if c=k then A else Option.map (fun x=>x.add k) A) (c-k) (l.drop k):=by
 have tH:=h.le;have u5:=h.max
 refine⟨by rw[List.length_drop];omega,by omega,fun xq=>?_⟩
 have sX:k<l.length:=by
  rcases Nat.lt_or_ge k l.length with h1 | h1
  ·exact h1
  rw[List.drop_eq_nil_of_le h1]at xq;exact absurd rfl xq
 obtain⟨b,off,rfl,hc⟩:=h.row (by intro h0;rw[List.map_eq_nil_iff]at h0;subst h0;simp at sX);rw[if_neg (by omega)]
 refine⟨b,off+k,by rw[Option.map_some,rg],fun j v hj=>?_⟩
 rw[List.map_drop,List.getElem?_drop]at hj;have:=hc (k+j) v hj;rwa [← Nat.add_assoc]at this
theorem qN {P:Program}(t e:TypeId) (n:Nat) (cs:Array Value) (k:IntKind) (j:Nat) (i:Int) (u:Value) (h:P.underlying t=some (.array n e)) (he:P.plainKey e=true) (i0:TypeInfo) (yK:P.info? e=some i0) (h1:i0.size=1) (hi:i=(j:Int)) (hj:j<n) (hv:cs[j]? = some u) (w:World) :
  (Instr.index t (.agg cs) (.int k i)).run P w=.ok u w:=by
 subst hi;have hn:(0:Int)≤(j:Int)∧(j:Int)<(n:Int):=by omega
 have hp:=run_part_plain (P:=P) (w:=w) he hv
 have e1:(Instr.index t (.agg cs) (.int k (j:Int))).run P w=(part e cs j).run P w:=by
  simp[Instr.index,run_underlying h,asIntOf,hn,hj,sizeOf,typeInfo,yK,h1,go_sem]
 rw[e1,hp]
theorem yB (w:World) (cs:Array Value) (j:Nat) (u:Value) (i:Int) (hi:i=(j:Int)) (hj:j<8) (hv:cs[j]? = some u) :
  (Instr.index 120 (.agg cs) (.int .i64 i)).run Tryz.prog w=.ok u w:=by
 obtain⟨i0,yK,lW,qL,qE⟩:=info_parts (show(Tryz.prog.info? 119).map (fun i=>(i.zero,i.size,i.bytes))=some (some (.int .u32 0),1,4) by kernel_rfl)
 exact qN _ _ 8 cs .i64 j i u Tryz.underlying120 (by kernel_rfl) i0 yK qL hi hj hv w
theorem aR (w:World) (cs:Array Value) (j:Nat) (u:Value) (i:Int) (hi:i=(j:Int)) (hj:j<8) (hv:cs[j]? = some u) :
  (Instr.index 121 (.agg cs) (.int .i64 i)).run Tryz.prog w=.ok u w:=by
 obtain⟨i0,yK,lW,qL,qE⟩:=info_parts (show(Tryz.prog.info? 75).map (fun i=>(i.zero,i.size,i.bytes))=some (some (.int .u64 0),1,8) by kernel_rfl)
 exact qN _ _ 8 cs .i64 j i u Tryz.underlying121 (by kernel_rfl) i0 yK qL hi hj hv w
def ze (n s:Nat):UInt8:=UInt8.ofNat (n/2 ^ s)
def vQ (n:Nat):List UInt8:=[ze n 56,ze n 48,ze n 40,ze n 32,ze n 24,ze n 16,ze n 8,ze n 0]
def oI (n:Nat):Nat:=(119-n%64)%64
def Uk (n:Nat):Nat:=n*8%18446744073709551616
def u6 (l:List UInt8):List UInt8:=l++[128]++List.replicate (oI l.length) 0++vQ (Uk l.length)
theorem xI (n:Nat):(vQ n).length=8:=rfl
theorem bB (l:List UInt8):(u6 l).length=l.length+9+oI l.length∧(u6 l).length%64=0:=by
 have h:(u6 l).length=l.length+9+oI l.length:=by
  simp only[u6,List.length_append,List.length_replicate,xI,List.length_singleton]
  omega
 refine⟨h, ?_⟩
 rw[h,oI]
 omega
theorem dH (n:Nat):oI n<64:=Nat.mod_lt _ (by decide)
theorem Xe {n z:Nat}(hz:z≤oI n) (h:¬ (n+1+z+8)%64=0):z<oI n:=by
 unfold oI at *
 omega
theorem eG {n z:Nat}(hz:z≤oI n) (h:(n+1+z+8)%64=0):z=oI n:=by
 unfold oI at *
 omega
def rt:Value→Nat
 | .slice _ m _=>m
 | _=>0
theorem z7 (N s:Nat) (d:Int) (hd:d=((2 ^ s:Nat):Int)):zg (ze N s)=.int .u8 ((N:Int)/d%256):=by
 subst hd;rw[zg,ze,UInt8.toNat_ofNat'];rfl
def yA (l:List UInt8) (z:Nat):List UInt8:=l++[128]++List.replicate z 0
theorem jH (l:List UInt8) (z:Nat):yA l z++[0]=yA l (z+1):=by
 rw[yA,yA,List.replicate_succ',List.append_assoc]
theorem yl (l:List UInt8) (z:Nat):(yA l z).length=l.length+1+z:=by simp[yA];omega
theorem eP (N k:Nat) (h:k<8):(vQ N).take k++[(vQ N).getD k 0]=(vQ N).take (k+1):=by
 obtain rfl | rfl | rfl | rfl | rfl | rfl | rfl | rfl:k=0∨k=1∨k=2∨k=3∨k=4∨k=5∨k=6∨k=7:=by omega
 all_goals rfl
theorem Yh {A:Option Addr}{c:Nat}{l:List UInt8}{n:Nat}(hn:n=l.length) (u5:l.length≤1099511627) (w:World) (hS:Src w A (l.map zg)) :
  Calls Tryz.prog 87 #[.slice A n c,.int .i64 64,.int .i64 8] w fun e w'=>∃ r,e=.returned r∧Fresh w (u6 l) r w':=by
 obtain⟨i0,yK,lW,qL,qE⟩:=info_parts nS;have HN:=Hh (And.intro hn u5);obtain⟨n2,oQ⟩:∃ n2,n+128=n2:=⟨_,rfl⟩
 have nY:IntKind.i64.wrap ((n:Int)+128)=(n2:Int):=by rw[← oQ,Int.natCast_add];exact IntWalk.i64_in _ (by omega)
 have oJ:=Hh oQ;obtain⟨N,hN⟩:∃ N,Uk l.length=N:=⟨_,rfl⟩
 have qK:IntKind.u64.wrap ((n:Int))=(n:Int):=IntWalk.u64_in _ (by omega);have cO:IntKind.u64.wrap ((n:Int)*8)=(N:Int):=by rw[← hN,Uk,IntKind.wrap_u64,hn];omega
 have rK:=Hh hN;clear oQ hn u5 hN;go_enter Tryz.func87,Tryz.ntmps87
 go_wp2_with (at_make;refine zf ?_)
 refine wpList_make_own w rfl _ _ 23 rfl w.heap.size 5 i0 _ 1 Tryz.underlying23 yK lW qL .i64 .i64 (n2:Int) n2 rfl rfl rfl (by rw[qE];have:=HN.out;have:=oJ.out;omega) (by have:=HN.out;have:=oJ.out;simp only[maxLen];omega) (Nat.le_refl _) fun w1 yp hg1=>?_
 have hO:OwnB w1 w.heap.size (.slice (some ⟨w.heap.size,0,none⟩) 0 n2) []:=yp;have zP:=yT hg1;have Pr:=hS.below zP;clear yp hg1 yK lW qL qE hS nY;go_wp2_with (at_builtin;refine zf ?_)
 refine zv rfl (.tmp 15) (.tmp 16) rfl w.heap.size _ [] rfl hO A n c l rfl HN.out.1 Pr (by have:=HN.out.2;simp;omega) zP.size fun v' w2 tl hg2 hat2=>?_
 rw[List.nil_append]at tl;have yz:=zm zP hg2 (fun q hq=>(hO.lt q hq).1);have qC:=tl.alloc (.cells #[.int .u8 128] 5);have vg:=yz.alloc yz.size (.cells #[.int .u8 128] 5);clear hO zP Pr hg2 hat2;go_wp2_with (at_builtin;refine zf ?_)
 refine zv rfl (.tmp 17) (.tmp 18) rfl w.heap.size _ l rfl qC _ 1 _ [128] rfl rfl (Src.new _ _ _ _ rfl _ rfl) (by have:=HN.out.2;simp;omega) vg.size fun v3 w3 kD hg3 hat3=>?_
 have sW:=zm vg hg3 (fun q hq=>(tl.lt q hq).1);replace kD:OwnB w3 w.heap.size v3 (yA l 0):=by rw[yA];simpa using kD
 obtain⟨A3,c3,rfl,_⟩:=kD.form;rw[yl]at kD⊢;clear tl qC yz vg hg3 hat3;go_wp2_with fail
 go_loopw [7] (fun v7 wr=>∃ (z m:Nat) (VA:Option Addr) (vc:Nat),v7=.slice VA m vc∧Hid (m=l.length+1+z)∧Hid (z≤oI l.length)∧OwnB wr w.heap.size (.slice VA m vc) (yA l z)∧Below w.heap.size w wr) (fun v7 _=>l.length+65-rt v7)
 case atStart=>exact⟨0,_,A3,c3,rfl,rfl,Nat.zero_le _,kD,sW⟩
 case round =>
 clear kD sW;obtain⟨z,m,VA,vc,rfl,HM,HZ,hO,hb⟩:=hrel;have HB:=Hh (dH l.length);obtain⟨m8,XM⟩:∃ m8,m+8=m8:=⟨_,rfl⟩
 have fU:IntKind.i64.wrap ((m:Int)+8)=(m8:Int):=by rw[← XM,Int.natCast_add];exact IntWalk.i64_in _ (by have:=HM.out;have:=HZ.out;have:=HB.out;have:=HN.out;omega)
 have Ju:=Hh XM;clear XM;obtain⟨r,hr⟩:∃ r,m8%64=r:=⟨_,rfl⟩
 have O0:(m8:Int).tmod 64=(r:Int):=by rw[← hr];exact(Int.ofNat_tmod m8 64).symm
 have NO:(m8:Int)%64=(r:Int):=by rw[← hr];omega
 have HR:=Hh hr;clear hr
 by_cases h0:r=0
 ·subst h0;have fQ:Hid (z=oI l.length):=eG HZ.out (by have:=HR.out;have:=Ju.out;have:=HM.out;omega);go_wp2_with fail
  go_loopw [7,9] (fun v7 v9 wx=>∃ (k mm:Nat) (VB:Option Addr) (vb:Nat),v7=.slice VB mm vb∧v9=.int .i64 (56-8*(k:Int))∧k≤8∧Hid (mm=m+k)∧OwnB wx w.heap.size (.slice VB mm vb) (yA l z++(vQ N).take k)∧Below w.heap.size w wx) (fun v7 _ _=>m+8-rt v7)
  case atStart=>exact⟨0,m,VA,vc,rfl,rfl,by omega,rfl,by simpa using hO,hb⟩
  case round =>
  clear hO hb;obtain⟨k,mm,VB,vb,rfl,rfl,hk,lX,hO,hb⟩:=hrel
  have lP:Hid ((yA l z++(vQ N).take k).length≤1099511627700):=by
   have:=HM.out;have:=lX.out;have:=HN.out;have:=HZ.out;have:=HB.out
   rw[Hid,List.length_append,yl,List.length_take,xI]
   omega
  have HT:=Hh (fun h=>eP N k h)
  rcases(show k=0∨k=1∨k=2∨k=3∨k=4∨k=5∨k=6∨k=7∨k=8 by omega) with rfl | rfl | rfl | rfl | rfl | rfl | rfl | rfl | rfl
  ·go_wp2_with (at_builtin;refine zf ?_)
   unfold zU
   have yp:=hO.alloc (.cells #[.int .u8 ((N:Int)/72057594037927936%256)] 5);have zP:=hb.alloc hb.size (.cells #[.int .u8 ((N:Int)/72057594037927936%256)] 5)
   refine zv rfl (.tmp 40) (.tmp 46) rfl w.heap.size _ _ rfl yp _ 1 _ [ze N 56] rfl rfl (Src.new _ _ _ _ rfl _ (by simp only[List.map_cons,List.map_nil];rw[z7 N 56 72057594037927936 rfl])) (by have:=lP.out;simp only[List.length_singleton];omega) zP.size fun v' w5 zB yg hat5=>?_
   have xz:=zm zP yg (fun q hq=>(hO.lt q hq).1);rw[List.append_assoc,show [ze N 56]=[(vQ N).getD 0 0] from rfl,HT.out (by omega)]at zB;obtain⟨A5,c5,rfl,_⟩:=zB.form
   have my:Hid ((yA l z++(vQ N).take (0+1)).length=m+1):=by
    have:=HM.out;rw[Hid,List.length_append,yl,List.length_take,xI]
    omega
   rw[my.out]at zB⊢;clear hO hb yp zP yg hat5;go_wp2_with fail
   go_roundw
   case rel=>exact⟨1,m+1,A5,c5,rfl,by go_num,by omega,rfl,zB,xz⟩
   case measure=>have:=lX.out;simp only[rt];omega
  ·go_wp2_with (at_builtin;refine zf ?_)
   unfold zU
   have yp:=hO.alloc (.cells #[.int .u8 ((N:Int)/281474976710656%256)] 5);have zP:=hb.alloc hb.size (.cells #[.int .u8 ((N:Int)/281474976710656%256)] 5)
   refine zv rfl (.tmp 40) (.tmp 46) rfl w.heap.size _ _ rfl yp _ 1 _ [ze N 48] rfl rfl (Src.new _ _ _ _ rfl _ (by simp only[List.map_cons,List.map_nil];rw[z7 N 48 281474976710656 rfl])) (by have:=lP.out;simp only[List.length_singleton];omega) zP.size fun v' w5 zB yg hat5=>?_
   have xz:=zm zP yg (fun q hq=>(hO.lt q hq).1);rw[List.append_assoc,show [ze N 48]=[(vQ N).getD 1 0] from rfl,HT.out (by omega)]at zB;obtain⟨A5,c5,rfl,_⟩:=zB.form
   have my:Hid ((yA l z++(vQ N).take (1+1)).length=m+2):=by
    have:=HM.out;rw[Hid,List.length_append,yl,List.length_take,xI]
    omega
   rw[my.out]at zB⊢;clear hO hb yp zP yg hat5;go_wp2_with fail
   go_roundw
   case rel=>exact⟨2,m+2,A5,c5,rfl,by go_num,by omega,rfl,zB,xz⟩
   case measure=>have:=lX.out;simp only[rt];omega
  ·go_wp2_with (at_builtin;refine zf ?_)
   unfold zU
   have yp:=hO.alloc (.cells #[.int .u8 ((N:Int)/1099511627776%256)] 5);have zP:=hb.alloc hb.size (.cells #[.int .u8 ((N:Int)/1099511627776%256)] 5)
   refine zv rfl (.tmp 40) (.tmp 46) rfl w.heap.size _ _ rfl yp _ 1 _ [ze N 40] rfl rfl (Src.new _ _ _ _ rfl _ (by simp only[List.map_cons,List.map_nil];rw[z7 N 40 1099511627776 rfl])) (by have:=lP.out;simp only[List.length_singleton];omega) zP.size fun v' w5 zB yg hat5=>?_
   have xz:=zm zP yg (fun q hq=>(hO.lt q hq).1);rw[List.append_assoc,show [ze N 40]=[(vQ N).getD 2 0] from rfl,HT.out (by omega)]at zB;obtain⟨A5,c5,rfl,_⟩:=zB.form
   have my:Hid ((yA l z++(vQ N).take (2+1)).length=m+3):=by
    have:=HM.out;rw[Hid,List.length_append,yl,List.length_take,xI]
    omega
   rw[my.out]at zB⊢;clear hO hb yp zP yg hat5;go_wp2_with fail
   go_roundw
   case rel=>exact⟨3,m+3,A5,c5,rfl,by go_num,by omega,rfl,zB,xz⟩
   case measure=>have:=lX.out;simp only[rt];omega
  ·go_wp2_with (at_builtin;refine zf ?_)
   unfold zU
   have yp:=hO.alloc (.cells #[.int .u8 ((N:Int)/4294967296%256)] 5);have zP:=hb.alloc hb.size (.cells #[.int .u8 ((N:Int)/4294967296%256)] 5)
   refine zv rfl (.tmp 40) (.tmp 46) rfl w.heap.size _ _ rfl yp _ 1 _ [ze N 32] rfl rfl (Src.new _ _ _ _ rfl _ (by simp only[List.map_cons,List.map_nil];rw[z7 N 32 4294967296 rfl])) (by have:=lP.out;simp only[List.length_singleton];omega) zP.size fun v' w5 zB yg hat5=>?_
   have xz:=zm zP yg (fun q hq=>(hO.lt q hq).1);rw[List.append_assoc,show [ze N 32]=[(vQ N).getD 3 0] from rfl,HT.out (by omega)]at zB;obtain⟨A5,c5,rfl,_⟩:=zB.form
   have my:Hid ((yA l z++(vQ N).take (3+1)).length=m+4):=by
    have:=HM.out;rw[Hid,List.length_append,yl,List.length_take,xI]
    omega
   rw[my.out]at zB⊢;clear hO hb yp zP yg hat5;go_wp2_with fail
   go_roundw
   case rel=>exact⟨4,m+4,A5,c5,rfl,by go_num,by omega,rfl,zB,xz⟩
   case measure=>have:=lX.out;simp only[rt];omega
  ·go_wp2_with (at_builtin;refine zf ?_)
   unfold zU
   have yp:=hO.alloc (.cells #[.int .u8 ((N:Int)/16777216%256)] 5);have zP:=hb.alloc hb.size (.cells #[.int .u8 ((N:Int)/16777216%256)] 5)
   refine zv rfl (.tmp 40) (.tmp 46) rfl w.heap.size _ _ rfl yp _ 1 _ [ze N 24] rfl rfl (Src.new _ _ _ _ rfl _ (by simp only[List.map_cons,List.map_nil];rw[z7 N 24 16777216 rfl])) (by have:=lP.out;simp only[List.length_singleton];omega) zP.size fun v' w5 zB yg hat5=>?_
   have xz:=zm zP yg (fun q hq=>(hO.lt q hq).1);rw[List.append_assoc,show [ze N 24]=[(vQ N).getD 4 0] from rfl,HT.out (by omega)]at zB;obtain⟨A5,c5,rfl,_⟩:=zB.form
   have my:Hid ((yA l z++(vQ N).take (4+1)).length=m+5):=by
    have:=HM.out;rw[Hid,List.length_append,yl,List.length_take,xI]
    omega
   rw[my.out]at zB⊢;clear hO hb yp zP yg hat5;go_wp2_with fail
   go_roundw
   case rel=>exact⟨5,m+5,A5,c5,rfl,by go_num,by omega,rfl,zB,xz⟩
   case measure=>have:=lX.out;simp only[rt];omega
  ·go_wp2_with (at_builtin;refine zf ?_)
   unfold zU
   have yp:=hO.alloc (.cells #[.int .u8 ((N:Int)/65536%256)] 5);have zP:=hb.alloc hb.size (.cells #[.int .u8 ((N:Int)/65536%256)] 5)
   refine zv rfl (.tmp 40) (.tmp 46) rfl w.heap.size _ _ rfl yp _ 1 _ [ze N 16] rfl rfl (Src.new _ _ _ _ rfl _ (by simp only[List.map_cons,List.map_nil];rw[z7 N 16 65536 rfl])) (by have:=lP.out;simp only[List.length_singleton];omega) zP.size fun v' w5 zB yg hat5=>?_
   have xz:=zm zP yg (fun q hq=>(hO.lt q hq).1);rw[List.append_assoc,show [ze N 16]=[(vQ N).getD 5 0] from rfl,HT.out (by omega)]at zB;obtain⟨A5,c5,rfl,_⟩:=zB.form
   have my:Hid ((yA l z++(vQ N).take (5+1)).length=m+6):=by
    have:=HM.out;rw[Hid,List.length_append,yl,List.length_take,xI]
    omega
   rw[my.out]at zB⊢;clear hO hb yp zP yg hat5;go_wp2_with fail
   go_roundw
   case rel=>exact⟨6,m+6,A5,c5,rfl,by go_num,by omega,rfl,zB,xz⟩
   case measure=>have:=lX.out;simp only[rt];omega
  ·go_wp2_with (at_builtin;refine zf ?_)
   unfold zU
   have yp:=hO.alloc (.cells #[.int .u8 ((N:Int)/256%256)] 5);have zP:=hb.alloc hb.size (.cells #[.int .u8 ((N:Int)/256%256)] 5)
   refine zv rfl (.tmp 40) (.tmp 46) rfl w.heap.size _ _ rfl yp _ 1 _ [ze N 8] rfl rfl (Src.new _ _ _ _ rfl _ (by simp only[List.map_cons,List.map_nil];rw[z7 N 8 256 rfl])) (by have:=lP.out;simp only[List.length_singleton];omega) zP.size fun v' w5 zB yg hat5=>?_
   have xz:=zm zP yg (fun q hq=>(hO.lt q hq).1);rw[List.append_assoc,show [ze N 8]=[(vQ N).getD 6 0] from rfl,HT.out (by omega)]at zB;obtain⟨A5,c5,rfl,_⟩:=zB.form
   have my:Hid ((yA l z++(vQ N).take (6+1)).length=m+7):=by
    have:=HM.out;rw[Hid,List.length_append,yl,List.length_take,xI]
    omega
   rw[my.out]at zB⊢;clear hO hb yp zP yg hat5;go_wp2_with fail
   go_roundw
   case rel=>exact⟨7,m+7,A5,c5,rfl,by go_num,by omega,rfl,zB,xz⟩
   case measure=>have:=lX.out;simp only[rt];omega
  ·go_wp2_with (at_builtin;refine zf ?_)
   unfold zU
   have yp:=hO.alloc (.cells #[.int .u8 ((N:Int)%256)] 5);have zP:=hb.alloc hb.size (.cells #[.int .u8 ((N:Int)%256)] 5)
   refine zv rfl (.tmp 40) (.tmp 46) rfl w.heap.size _ _ rfl yp _ 1 _ [ze N 0] rfl rfl (Src.new _ _ _ _ rfl _ (by simp only[List.map_cons,List.map_nil];rw[z7 N 0 1 rfl];simp)) (by have:=lP.out;simp only[List.length_singleton];omega) zP.size fun v' w5 zB yg hat5=>?_
   have xz:=zm zP yg (fun q hq=>(hO.lt q hq).1);rw[List.append_assoc,show [ze N 0]=[(vQ N).getD 7 0] from rfl,HT.out (by omega)]at zB;obtain⟨A5,c5,rfl,_⟩:=zB.form
   have my:Hid ((yA l z++(vQ N).take (7+1)).length=m+8):=by
    have:=HM.out;rw[Hid,List.length_append,yl,List.length_take,xI]
    omega
   rw[my.out]at zB⊢;clear hO hb yp zP yg hat5;go_wp2_with fail
   go_roundw
   case rel=>exact⟨8,m+8,A5,c5,rfl,by go_num,by omega,rfl,zB,xz⟩
   case measure=>have:=lX.out;simp only[rt];omega
  have hp:yA l z++(vQ N).take 8=u6 l:=by
   rw[yA,fQ.out,← rK.out];rfl
  rw[hp]at hO;go_wp2_with fail
  go_ret
  exact⟨_,rfl,by have h:=hO.form;obtain⟨_,_,e,_⟩:=h;exact⟨hO,hb⟩⟩
 have hz:Hid (z+1≤oI l.length):=Xe HZ.out (by have:=HR.out;have:=Ju.out;have:=HM.out;omega);have yp:=hO.alloc (.cells #[.int .u8 0] 5);have zP:=hb.alloc hb.size (.cells #[.int .u8 0] 5);go_wp2_with (at_builtin;refine zf ?_)
 refine zv rfl (.tmp 27) (.tmp 28) rfl w.heap.size _ _ rfl yp _ 1 _ [0] rfl rfl (Src.new _ _ _ _ rfl _ rfl) (by rw[yl];have:=HN.out.2;have:=HB.out;have:=hz.out;simp only[List.length_singleton];omega) zP.size fun v' w5 zB yg hat5=>?_
 have xz:=zm zP yg (fun q hq=>(hO.lt q hq).1);rw[jH]at zB;obtain⟨A5,c5,rfl,_⟩:=zB.form;rw[yl]at zB⊢;clear hO hb yp zP yg hat5;go_wp2_with fail
 go_roundw
 case rel=>exact⟨z+1,_,A5,c5,rfl,rfl,hz,zB,xz⟩
 case measure=>have:=HM.out;have:=HB.out;have:=hz.out;simp only[rt];omega
theorem RN {A:Option Addr}{c:Nat}{l:List UInt8}{n:Nat}(hn:n=l.length) (u5:l.length≤1099511627) (w:World) (hS:Src w A (l.map zg)) :
  Calls Tryz.prog 79 #[.slice A n c,.int .i64 64] w fun e w'=>∃ r,e=.returned r∧Fresh w (u6 l) r w':=by
 have HN:=Hh (And.intro hn u5);obtain⟨N,hN⟩:∃ N,Uk l.length=N:=⟨_,rfl⟩
 have qK:IntKind.u64.wrap ((n:Int))=(n:Int):=IntWalk.u64_in _ (by omega);have cO:IntKind.u64.wrap ((n:Int)*8)=(N:Int):=by rw[← hN,Uk,IntKind.wrap_u64,hn];omega
 have rK:=Hh hN;clear hn u5 hN;go_enter Tryz.func79,Tryz.ntmps79
 go_wp2_with (at_builtin;refine zf ?_)
 refine zv rfl (.const (.slice none 0 0)) (.tmp 8) rfl w.heap.size (.slice none 0 0) [] rfl (OwnB.nil _ _) A n c l rfl HN.out.1 hS (by have:=HN.out.2;simp;omega) (Nat.le_refl _) fun v' w2 tl hg2 hat2=>?_
 rw[List.nil_append]at tl;have yz:=yT (by simpa [Value.ownBlock] using hg2);have qC:=tl.alloc (.cells #[.int .u8 128] 5);have vg:=yz.alloc yz.size (.cells #[.int .u8 128] 5);clear hS hg2 hat2;go_wp2_with (at_builtin;refine zf ?_)
 refine zv rfl (.tmp 9) (.tmp 10) rfl w.heap.size _ l rfl qC _ 1 _ [128] rfl rfl (Src.new _ _ _ _ rfl _ rfl) (by have:=HN.out.2;simp;omega) vg.size fun v3 w3 kD hg3 hat3=>?_
 have sW:=zm vg hg3 (fun q hq=>(tl.lt q hq).1);replace kD:OwnB w3 w.heap.size v3 (yA l 0):=by rw[yA];simpa using kD
 obtain⟨A3,c3,rfl,_⟩:=kD.form;rw[yl]at kD⊢;clear tl qC yz vg hg3 hat3;go_wp2_with fail
 go_loopw [5] (fun v7 wr=>∃ (z m:Nat) (VA:Option Addr) (vc:Nat),v7=.slice VA m vc∧Hid (m=l.length+1+z)∧Hid (z≤oI l.length)∧OwnB wr w.heap.size (.slice VA m vc) (yA l z)∧Below w.heap.size w wr) (fun v7 _=>l.length+65-rt v7)
 case atStart=>exact⟨0,_,A3,c3,rfl,rfl,Nat.zero_le _,kD,sW⟩
 case round =>
 clear kD sW;obtain⟨z,m,VA,vc,rfl,HM,HZ,hO,hb⟩:=hrel;have HB:=Hh (dH l.length);obtain⟨r,hr⟩:∃ r,m%64=r:=⟨_,rfl⟩
 have O0:(m:Int).tmod 64=(r:Int):=by rw[← hr];exact(Int.ofNat_tmod m 64).symm
 have NO:(m:Int)%64=(r:Int):=by rw[← hr];omega
 have HR:=Hh hr;clear hr
 by_cases h0:r=56
 ·subst h0;have fQ:Hid (z=oI l.length):=eG HZ.out (by have:=HR.out;have:=HM.out;omega);rw[show((56:Nat):Int)=56 from rfl]at O0 NO;go_wp2_with fail
  go_loopw [5] (fun v7 wx=>v7=.slice VA m vc∧OwnB wx w.heap.size (.slice VA m vc) (yA l z)∧Below w.heap.size w wx) (fun v7 _=>0)
  case atStart=>exact⟨rfl,hO,hb⟩
  case round =>
  clear hO hb;obtain⟨rfl,hO,hb⟩:=hrel;go_wp2_with fail
  go_loopw [5,7] (fun v7 v9 wx=>∃ (k mm:Nat) (VB:Option Addr) (vb:Nat),v7=.slice VB mm vb∧v9=.int .i64 (7-(k:Int))∧k≤8∧Hid (mm=m+k)∧OwnB wx w.heap.size (.slice VB mm vb) (yA l z++(vQ N).take k)∧Below w.heap.size w wx) (fun v7 _ _=>m+8-rt v7)
  case atStart=>exact⟨0,m,VA,vc,rfl,rfl,by omega,rfl,by simpa using hO,hb⟩
  case round =>
  clear hO hb;obtain⟨k,mm,VB,vb,rfl,rfl,hk,lX,hO,hb⟩:=hrel
  have lP:Hid ((yA l z++(vQ N).take k).length≤1099511627700):=by
   have:=HM.out;have:=lX.out;have:=HN.out;have:=HZ.out;have:=HB.out
   rw[Hid,List.length_append,yl,List.length_take,xI]
   omega
  have HT:=Hh (fun h=>eP N k h)
  rcases(show k=0∨k=1∨k=2∨k=3∨k=4∨k=5∨k=6∨k=7∨k=8 by omega) with rfl | rfl | rfl | rfl | rfl | rfl | rfl | rfl | rfl
  ·go_wp2_with (at_builtin;refine zf ?_)
   unfold zU
   have yp:=hO.alloc (.cells #[.int .u8 ((N:Int)/72057594037927936%256)] 5);have zP:=hb.alloc hb.size (.cells #[.int .u8 ((N:Int)/72057594037927936%256)] 5)
   refine zv rfl (.tmp 42) (.tmp 49) rfl w.heap.size _ _ rfl yp _ 1 _ [ze N 56] rfl rfl (Src.new _ _ _ _ rfl _ (by simp only[List.map_cons,List.map_nil];rw[z7 N 56 72057594037927936 rfl])) (by have:=lP.out;simp only[List.length_singleton];omega) zP.size fun v' w5 zB yg hat5=>?_
   have xz:=zm zP yg (fun q hq=>(hO.lt q hq).1);rw[List.append_assoc,show [ze N 56]=[(vQ N).getD 0 0] from rfl,HT.out (by omega)]at zB;obtain⟨A5,c5,rfl,_⟩:=zB.form
   have my:Hid ((yA l z++(vQ N).take (0+1)).length=m+1):=by
    have:=HM.out;rw[Hid,List.length_append,yl,List.length_take,xI]
    omega
   rw[my.out]at zB⊢;clear hO hb yp zP yg hat5;go_wp2_with fail
   go_roundw
   case rel=>exact⟨1,m+1,A5,c5,rfl,by go_num,by omega,rfl,zB,xz⟩
   case measure=>have:=lX.out;simp only[rt];omega
  ·go_wp2_with (at_builtin;refine zf ?_)
   unfold zU
   have yp:=hO.alloc (.cells #[.int .u8 ((N:Int)/281474976710656%256)] 5);have zP:=hb.alloc hb.size (.cells #[.int .u8 ((N:Int)/281474976710656%256)] 5)
   refine zv rfl (.tmp 42) (.tmp 49) rfl w.heap.size _ _ rfl yp _ 1 _ [ze N 48] rfl rfl (Src.new _ _ _ _ rfl _ (by simp only[List.map_cons,List.map_nil];rw[z7 N 48 281474976710656 rfl])) (by have:=lP.out;simp only[List.length_singleton];omega) zP.size fun v' w5 zB yg hat5=>?_
   have xz:=zm zP yg (fun q hq=>(hO.lt q hq).1);rw[List.append_assoc,show [ze N 48]=[(vQ N).getD 1 0] from rfl,HT.out (by omega)]at zB;obtain⟨A5,c5,rfl,_⟩:=zB.form
   have my:Hid ((yA l z++(vQ N).take (1+1)).length=m+2):=by
    have:=HM.out;rw[Hid,List.length_append,yl,List.length_take,xI]
    omega
   rw[my.out]at zB⊢;clear hO hb yp zP yg hat5;go_wp2_with fail
   go_roundw
   case rel=>exact⟨2,m+2,A5,c5,rfl,by go_num,by omega,rfl,zB,xz⟩
   case measure=>have:=lX.out;simp only[rt];omega
  ·go_wp2_with (at_builtin;refine zf ?_)
   unfold zU
   have yp:=hO.alloc (.cells #[.int .u8 ((N:Int)/1099511627776%256)] 5);have zP:=hb.alloc hb.size (.cells #[.int .u8 ((N:Int)/1099511627776%256)] 5)
   refine zv rfl (.tmp 42) (.tmp 49) rfl w.heap.size _ _ rfl yp _ 1 _ [ze N 40] rfl rfl (Src.new _ _ _ _ rfl _ (by simp only[List.map_cons,List.map_nil];rw[z7 N 40 1099511627776 rfl])) (by have:=lP.out;simp only[List.length_singleton];omega) zP.size fun v' w5 zB yg hat5=>?_
   have xz:=zm zP yg (fun q hq=>(hO.lt q hq).1);rw[List.append_assoc,show [ze N 40]=[(vQ N).getD 2 0] from rfl,HT.out (by omega)]at zB;obtain⟨A5,c5,rfl,_⟩:=zB.form
   have my:Hid ((yA l z++(vQ N).take (2+1)).length=m+3):=by
    have:=HM.out;rw[Hid,List.length_append,yl,List.length_take,xI]
    omega
   rw[my.out]at zB⊢;clear hO hb yp zP yg hat5;go_wp2_with fail
   go_roundw
   case rel=>exact⟨3,m+3,A5,c5,rfl,by go_num,by omega,rfl,zB,xz⟩
   case measure=>have:=lX.out;simp only[rt];omega
  ·go_wp2_with (at_builtin;refine zf ?_)
   unfold zU
   have yp:=hO.alloc (.cells #[.int .u8 ((N:Int)/4294967296%256)] 5);have zP:=hb.alloc hb.size (.cells #[.int .u8 ((N:Int)/4294967296%256)] 5)
   refine zv rfl (.tmp 42) (.tmp 49) rfl w.heap.size _ _ rfl yp _ 1 _ [ze N 32] rfl rfl (Src.new _ _ _ _ rfl _ (by simp only[List.map_cons,List.map_nil];rw[z7 N 32 4294967296 rfl])) (by have:=lP.out;simp only[List.length_singleton];omega) zP.size fun v' w5 zB yg hat5=>?_
   have xz:=zm zP yg (fun q hq=>(hO.lt q hq).1);rw[List.append_assoc,show [ze N 32]=[(vQ N).getD 3 0] from rfl,HT.out (by omega)]at zB;obtain⟨A5,c5,rfl,_⟩:=zB.form
   have my:Hid ((yA l z++(vQ N).take (3+1)).length=m+4):=by
    have:=HM.out;rw[Hid,List.length_append,yl,List.length_take,xI]
    omega
   rw[my.out]at zB⊢;clear hO hb yp zP yg hat5;go_wp2_with fail
   go_roundw
   case rel=>exact⟨4,m+4,A5,c5,rfl,by go_num,by omega,rfl,zB,xz⟩
   case measure=>have:=lX.out;simp only[rt];omega
  ·go_wp2_with (at_builtin;refine zf ?_)
   unfold zU
   have yp:=hO.alloc (.cells #[.int .u8 ((N:Int)/16777216%256)] 5);have zP:=hb.alloc hb.size (.cells #[.int .u8 ((N:Int)/16777216%256)] 5)
   refine zv rfl (.tmp 42) (.tmp 49) rfl w.heap.size _ _ rfl yp _ 1 _ [ze N 24] rfl rfl (Src.new _ _ _ _ rfl _ (by simp only[List.map_cons,List.map_nil];rw[z7 N 24 16777216 rfl])) (by have:=lP.out;simp only[List.length_singleton];omega) zP.size fun v' w5 zB yg hat5=>?_
   have xz:=zm zP yg (fun q hq=>(hO.lt q hq).1);rw[List.append_assoc,show [ze N 24]=[(vQ N).getD 4 0] from rfl,HT.out (by omega)]at zB;obtain⟨A5,c5,rfl,_⟩:=zB.form
   have my:Hid ((yA l z++(vQ N).take (4+1)).length=m+5):=by
    have:=HM.out;rw[Hid,List.length_append,yl,List.length_take,xI]
    omega
   rw[my.out]at zB⊢;clear hO hb yp zP yg hat5;go_wp2_with fail
   go_roundw
   case rel=>exact⟨5,m+5,A5,c5,rfl,by go_num,by omega,rfl,zB,xz⟩
   case measure=>have:=lX.out;simp only[rt];omega
  ·go_wp2_with (at_builtin;refine zf ?_)
   unfold zU
   have yp:=hO.alloc (.cells #[.int .u8 ((N:Int)/65536%256)] 5);have zP:=hb.alloc hb.size (.cells #[.int .u8 ((N:Int)/65536%256)] 5)
   refine zv rfl (.tmp 42) (.tmp 49) rfl w.heap.size _ _ rfl yp _ 1 _ [ze N 16] rfl rfl (Src.new _ _ _ _ rfl _ (by simp only[List.map_cons,List.map_nil];rw[z7 N 16 65536 rfl])) (by have:=lP.out;simp only[List.length_singleton];omega) zP.size fun v' w5 zB yg hat5=>?_
   have xz:=zm zP yg (fun q hq=>(hO.lt q hq).1);rw[List.append_assoc,show [ze N 16]=[(vQ N).getD 5 0] from rfl,HT.out (by omega)]at zB;obtain⟨A5,c5,rfl,_⟩:=zB.form
   have my:Hid ((yA l z++(vQ N).take (5+1)).length=m+6):=by
    have:=HM.out;rw[Hid,List.length_append,yl,List.length_take,xI]
    omega
   rw[my.out]at zB⊢;clear hO hb yp zP yg hat5;go_wp2_with fail
   go_roundw
   case rel=>exact⟨6,m+6,A5,c5,rfl,by go_num,by omega,rfl,zB,xz⟩
   case measure=>have:=lX.out;simp only[rt];omega
  ·go_wp2_with (at_builtin;refine zf ?_)
   unfold zU
   have yp:=hO.alloc (.cells #[.int .u8 ((N:Int)/256%256)] 5);have zP:=hb.alloc hb.size (.cells #[.int .u8 ((N:Int)/256%256)] 5)
   refine zv rfl (.tmp 42) (.tmp 49) rfl w.heap.size _ _ rfl yp _ 1 _ [ze N 8] rfl rfl (Src.new _ _ _ _ rfl _ (by simp only[List.map_cons,List.map_nil];rw[z7 N 8 256 rfl])) (by have:=lP.out;simp only[List.length_singleton];omega) zP.size fun v' w5 zB yg hat5=>?_
   have xz:=zm zP yg (fun q hq=>(hO.lt q hq).1);rw[List.append_assoc,show [ze N 8]=[(vQ N).getD 6 0] from rfl,HT.out (by omega)]at zB;obtain⟨A5,c5,rfl,_⟩:=zB.form
   have my:Hid ((yA l z++(vQ N).take (6+1)).length=m+7):=by
    have:=HM.out;rw[Hid,List.length_append,yl,List.length_take,xI]
    omega
   rw[my.out]at zB⊢;clear hO hb yp zP yg hat5;go_wp2_with fail
   go_roundw
   case rel=>exact⟨7,m+7,A5,c5,rfl,by go_num,by omega,rfl,zB,xz⟩
   case measure=>have:=lX.out;simp only[rt];omega
  ·go_wp2_with (at_builtin;refine zf ?_)
   unfold zU
   have yp:=hO.alloc (.cells #[.int .u8 ((N:Int)%256)] 5);have zP:=hb.alloc hb.size (.cells #[.int .u8 ((N:Int)%256)] 5)
   refine zv rfl (.tmp 42) (.tmp 49) rfl w.heap.size _ _ rfl yp _ 1 _ [ze N 0] rfl rfl (Src.new _ _ _ _ rfl _ (by simp only[List.map_cons,List.map_nil];rw[z7 N 0 1 rfl];simp)) (by have:=lP.out;simp only[List.length_singleton];omega) zP.size fun v' w5 zB yg hat5=>?_
   have xz:=zm zP yg (fun q hq=>(hO.lt q hq).1);rw[List.append_assoc,show [ze N 0]=[(vQ N).getD 7 0] from rfl,HT.out (by omega)]at zB;obtain⟨A5,c5,rfl,_⟩:=zB.form
   have my:Hid ((yA l z++(vQ N).take (7+1)).length=m+8):=by
    have:=HM.out;rw[Hid,List.length_append,yl,List.length_take,xI]
    omega
   rw[my.out]at zB⊢;clear hO hb yp zP yg hat5;go_wp2_with fail
   go_roundw
   case rel=>exact⟨8,m+8,A5,c5,rfl,by go_num,by omega,rfl,zB,xz⟩
   case measure=>have:=lX.out;simp only[rt];omega
  have hp:yA l z++(vQ N).take 8=u6 l:=by
   rw[yA,fQ.out,← rK.out];rfl
  rw[hp]at hO;go_wp2_with fail
  go_ret
  exact⟨_,rfl,by have h:=hO.form;obtain⟨_,_,e,_⟩:=h;exact⟨hO,hb⟩⟩
 have hz:Hid (z+1≤oI l.length):=Xe HZ.out (by have:=HR.out;have:=HM.out;omega);have yp:=hO.alloc (.cells #[.int .u8 0] 5);have zP:=hb.alloc hb.size (.cells #[.int .u8 0] 5);have Bc:¬ ((r:Int)=56):=by omega
 go_wp2_with (at_builtin;refine zf ?_)
 refine zv rfl (.tmp 21) (.tmp 22) rfl w.heap.size _ _ rfl yp _ 1 _ [0] rfl rfl (Src.new _ _ _ _ rfl _ rfl) (by rw[yl];have:=HN.out.2;have:=HB.out;have:=hz.out;simp only[List.length_singleton];omega) zP.size fun v' w5 zB yg hat5=>?_
 have xz:=zm zP yg (fun q hq=>(hO.lt q hq).1);rw[jH]at zB;obtain⟨A5,c5,rfl,_⟩:=zB.form;rw[yl]at zB⊢;clear hO hb yp zP yg hat5;go_wp2_with fail
 go_roundw
 case rel=>exact⟨z+1,_,A5,c5,rfl,rfl,hz,zB,xz⟩
 case measure=>have:=HM.out;have:=HB.out;have:=hz.out;simp only[rt];omega
end Go.Proofs.YtjpcnhncoidliaaGreatDoor
namespace Go.Proofs.YtjpcnhncoidliaaGreatDoor
def num:List Nat→Nat
 | []=>0
 | x::l=>x+18446744073709551616*num l
def W64 (l:List Nat):Prop:=∀ x∈l,x<18446744073709551616
def vp (x:Nat):List Nat→List Nat→Nat→List Nat
 | y::ys,z::zs,c=>(z+x*y+c)%18446744073709551616::vp x ys zs ((z+x*y+c)/18446744073709551616)
 | _,_,_=>[]
theorem gC (x:Nat):∀ (ys zs:List Nat) (c:Nat),zs.length≤ys.length→(vp x ys zs c).length=zs.length
 | _,[],_,_=>by simp[vp]
 | [],z::zs,_,h=>by simp at h
 | y::ys,z::zs,c,h=>by simp[vp,gC x ys zs _ (by simpa using h)]
theorem ay (x:Nat):∀ (ys zs:List Nat) (c:Nat),W64 (vp x ys zs c)
 | _,[],_=>by simp[vp,W64]
 | [],z::zs,_=>by simp[vp,W64]
 | y::ys,z::zs,c=>by
  intro a ha
  simp only[vp,List.mem_cons]at ha
  rcases ha with rfl | ha
  ·exact Nat.mod_lt _ (by decide)
  exact ay x ys zs _ a ha
theorem gD (x:Nat):∀ (ys zs:List Nat) (c:Nat),zs.length≤ys.length→
  num (vp x ys zs c)%18446744073709551616 ^ zs.length=(num zs+x*num ys+c)%18446744073709551616 ^ zs.length
 | _,[],_,_=>by simp[Nat.mod_one]
 | [],z::zs,_,h=>by simp at h
 | y::ys,z::zs,c,h=>by
  have ih:=gD x ys zs ((z+x*y+c)/18446744073709551616) (by simpa using h)
  simp only[vp,num,List.length_cons,Nat.pow_succ]
  generalize hD:(18446744073709551616:Nat)=D at *
  generalize hP:D ^ zs.length=P at *
  have Nh:0<D:=by omega
  have e:z+D*num zs+x*(y+D*num ys)+c=(z+x*y+c)%D+D*(num zs+x*num ys+(z+x*y+c)/D):=by
   have:=Nat.mod_add_div (z+x*y+c) D;have e2:x*(y+D*num ys)=x*y+D*(x*num ys):=by rw[Nat.mul_add,Nat.mul_left_comm]
   rw[e2,Nat.mul_add,Nat.mul_add]
   omega
  rw[e,Nat.mul_comm P D,Nat.mod_mul,Nat.mod_mul];have yy:(z+x*y+c)%D<D:=Nat.mod_lt _ Nh
  generalize (z+x*y+c)%D=r at *
  rw[Nat.add_mul_mod_self_left,Nat.add_mul_mod_self_left,Nat.mod_eq_of_lt yy,Nat.add_mul_div_left _ _ Nh,Nat.add_mul_div_left _ _ Nh,Nat.div_eq_of_lt yy,Nat.zero_add,Nat.zero_add,ih]
theorem U3:∀ {l:List Nat},W64 l→num l<18446744073709551616 ^ l.length
 | [],_=>by simp[num]
 | x::l,h=>by
  have h1:x<18446744073709551616:=h x (by simp);have h2:=U3 (l:=l) (fun a ha=>h a (by simp[ha]))
  simp only[num,List.length_cons,Nat.pow_succ]
  generalize 18446744073709551616 ^ l.length=P at *
  omega
def xZ:List Nat→List Nat→List Nat→List Nat
 | x::xs,ys,z::zs=>match vp x ys (z::zs) 0 with
  | a::r=>a::xZ xs ys r
  | []=>[]
 | _,_,zs=>zs
theorem kY:∀ (xs ys zs:List Nat),xs.length=zs.length→zs.length≤ys.length→W64 zs→
  (xZ xs ys zs).length=zs.length∧W64 (xZ xs ys zs)∧num (xZ xs ys zs)%18446744073709551616 ^ zs.length=(num zs+num xs*num ys)%18446744073709551616 ^ zs.length
 | [],_,[],_,_,_=>by simp[xZ,W64,Nat.mod_one]
 | [],_,_::_,h,_,_=>by simp at h
 | _::_,_,[],h,_,_=>by simp at h
 | x::xs,ys,z::zs,hx,hy,hw=>by
  obtain⟨a,r,hr⟩:∃ a r,vp x ys (z::zs) 0=a::r:=by
   cases ys with
   | nil=>simp at hy
   | cons y ys=>exact⟨_,_,rfl⟩
  have hl:=gC x ys (z::zs) 0 hy;have hn:=gD x ys (z::zs) 0 hy;have JX:=ay x ys (z::zs) 0;rw[hr]at hl hn JX;have JO:r.length=zs.length:=by simpa using hl
  have ih:=kY xs ys r (by rw[JO];simpa using hx) (by rw[JO];simp at hy;omega) (fun b hb=>JX b (by simp[hb]));rw[JO]at ih;have ha:a<18446744073709551616:=JX a (by simp)
  refine⟨by simp[xZ,hr,ih.1], ?_, ?_⟩
  ·intro b hb
   simp only[xZ,hr,List.mem_cons]at hb
   rcases hb with rfl | hb
   ·exact ha
   exact ih.2.1 b hb
  have e:=ih.2.2
  simp only[xZ,hr,num,List.length_cons,Nat.pow_succ,Nat.add_zero]at hn⊢
  generalize hD:(18446744073709551616:Nat)=D at *
  generalize hP:D ^ zs.length=P at *
  have Nh:0<D:=by omega
  rw[Nat.mul_comm P D]at hn⊢
  have e1:(a+D*num (xZ xs ys r))%(D*P)=(a+D*(num r+num xs*num ys))%(D*P):=by
   rw[Nat.mod_mul,Nat.mod_mul,Nat.add_mul_mod_self_left,Nat.add_mul_mod_self_left,Nat.add_mul_div_left _ _ Nh,Nat.add_mul_div_left _ _ Nh,Nat.div_eq_of_lt ha,Nat.zero_add,Nat.zero_add,e]
  rw[e1,Nat.mul_add,← Nat.add_assoc,Nat.add_mod,hn,← Nat.add_mod,Nat.add_mul,Nat.mul_assoc D,Nat.add_assoc,Nat.add_assoc]
theorem gX {x y:List Nat}(hx:x.length=4) (hy:y.length=4) :
  (xZ x y [0,0,0,0]).length=4∧W64 (xZ x y [0,0,0,0])∧(num x*num y<18446744073709551616 ^ 4→num (xZ x y [0,0,0,0])=num x*num y):=by
 have h:=kY x y [0,0,0,0] (by simp[hx]) (by simp[hy]) (by simp[W64])
 refine⟨by simpa using h.1,h.2.1,fun hb=>?_⟩
 have h2:=U3 h.2.1;have e:=h.2.2;have hz:num [0,0,0,0]=0:=by decide
 rw[h.1]at h2
 simp only[List.length_cons,List.length_nil,hz,Nat.zero_add,Nat.reduceAdd]at h2 e
 rwa [Nat.mod_eq_of_lt h2,Nat.mod_eq_of_lt hb]at e
theorem aQ {n a b g:Nat}(hn:n≠0) (h1:a ^ n≤g) (h2:g<(a+1) ^ n) (h3:b ^ n≤g) (h4:g<(b+1) ^ n):a=b:=by
 rcases Nat.lt_trichotomy a b with h | h | h
 ·have:=Nat.pow_le_pow_left (show a+1≤b by omega) n
  omega
 ·exact h
 have:=Nat.pow_le_pow_left (show b+1≤a by omega) n
 omega
theorem TO {x y z c:Nat}(hx:x<18446744073709551616) (hy:y<18446744073709551616) (hz:z<18446744073709551616) (hc:c<18446744073709551616) :
  x*y/18446744073709551616+(x*y%18446744073709551616+c)/18446744073709551616<18446744073709551616∧
  x*y/18446744073709551616+(x*y%18446744073709551616+c)/18446744073709551616+(z+(x*y%18446744073709551616+c)%18446744073709551616)/18446744073709551616=(z+x*y+c)/18446744073709551616∧
  (z+(x*y%18446744073709551616+c)%18446744073709551616)%18446744073709551616=(z+x*y+c)%18446744073709551616∧(z+x*y+c)/18446744073709551616<18446744073709551616:=by
 have:=Nat.mul_le_mul (show x≤18446744073709551615 by omega) (show y≤18446744073709551615 by omega)
 generalize x*y=p at *
 omega
end Go.Proofs.YtjpcnhncoidliaaGreatDoor
namespace Go.Proofs.YtjpcnhncoidliaaGreatDoor
def uj:List Nat:=[2,3,5,7,11,13,17,19,23,29,31,37,41,43,47,53,59,61,67,71,73,79,83,89,97,101,103,107,109,113,127,131,137,139,149,151,157,163,167,173,179,181,191,193,197,199,211,223,227,229,233,239,241,251,257,263,269,271,277,281,283,293,307,311,313,317,331,337,347,349,353,359,367,373,379,383,389,397,401,409]
def qW:List Nat:=[4794697086780616226,8158064640168781261,13096744586834688815,16840607885511220156,4131703408338449720,6480981068601479193,10538285296894168987,12329834152419229976,15566598209576043074,1334009975649890238,2608012711638119052,6128411473006802146,8268148722764581231,9286055187155687089,11230858885718282805,13951009754708518548,16472876342353939154,17275323862435702243,1135362057144423861,2597628984639134821,3308224258029322869,5365058923640841347,6679025012923562964,8573033837759648693,10970295158949994411,12119686244451234320,12683024718118986047,13788192230050041572,14330467153632333762,15395433587784984357,489312712824947311,1452737877330783856,2861767655752347644,3322285676063803686,5560940570517711597,5996557281743188959,7280758554555802590,8532644243296465576,9350256976987008742,10552545826968843579,11727347734174303076,12113106623233404929,14000437183269869457,14369950271660146224,15101387698204529176,15463397548674623760,17586052441742319658,1182934255886127544,1847814050463011016,2177327727835720531,2830643537854262169,3796741975233480872,4115178125766777443,5681478168544905931,6601373596472566643,7507060721942968483,8399075790359081724,8693463985226723168,9568029438360202098,10144078919501101548,10430055236837252648,11840083180663258601,13761210420658862357,14299343276471374635,14566680578165727644,15097957966210449927,16922976911328602910,17689382322260857208,500013540394364858,748580250866718886,1242879168328830382,1977374033974150939,2944078676154940804,3659926193048069267,4368137639120453308,4836135668995329356,5532061633213252278,6448918945643986474,6902733635092675308,7801388544844847127]
def uk:List Nat:=[7640891576956012808,13503953896175478587,4354685564936845355,11912009170470909681,5840696475078001361,11170449401992604703,2270897969802886507,6620516959819538809]
def o7 (n p c:Nat):Bool:=(List.range 21).any fun w=>decide ((w*18446744073709551616+c) ^ n≤p*18446744073709551616 ^ n)&&decide (p*18446744073709551616 ^ n<(w*18446744073709551616+c+1) ^ n)
end Go.Proofs.YtjpcnhncoidliaaGreatDoor
namespace Go.Proofs.YtjpcnhncoidliaaGreatDoor
def xr (l:List Nat) (i:Nat):Nat:=l.getD i 0
theorem dC {l:List Nat}(h:W64 l) (i:Nat):xr l i<18446744073709551616:=by
 unfold xr
 rcases Nat.lt_or_ge i l.length with h1 | h1
 ·rw[List.getD_eq_getElem?_getD,List.getElem?_eq_getElem h1]
  exact h _ (List.getElem_mem h1)
 rw[List.getD_eq_getElem?_getD,List.getElem?_eq_none h1];decide
theorem sH {l:List Nat}{i:Nat}(h:i<l.length):l.drop i=xr l i::l.drop (i+1):=by
 rw[List.drop_eq_getElem_cons h]
 simp[xr,h]
theorem W64.set {l:List Nat}(h:W64 l) (i:Nat) {n:Nat}(hn:n<18446744073709551616):W64 (l.set i n):=fun a ha=>by
 rcases List.mem_or_eq_of_mem_set ha with h1 | h1
 ·exact h a h1
 rw[h1];exact hn
theorem bP {l:List Nat}{k u:Nat}(h:k<l.length):(l.set k u).take (k+1)=l.take k++[u]∧(l.set k u).drop (k+1)=l.drop (k+1):=by
 have e:l.set k u=l.take k++u::l.drop (k+1):=by rw[List.set_eq_take_append_cons_drop,if_pos h]
 have hl:(l.take k).length=k:=by rw[List.length_take];omega
 constructor
 ·rw[e,List.take_append,hl,List.take_of_length_le (by omega),Nat.add_sub_cancel_left];rfl
 rw[e,List.drop_append,hl,List.drop_of_length_le (by omega),Nat.add_sub_cancel_left];rfl
theorem aU {zs ys:List Nat}{x c k j:Nat}(hk:k<zs.length) (hj:j<ys.length) :
  (zs.set k ((xr zs k+x*xr ys j+c)%18446744073709551616)).take (k+1)++vp x (ys.drop (j+1)) ((zs.set k ((xr zs k+x*xr ys j+c)%18446744073709551616)).drop (k+1)) ((xr zs k+x*xr ys j+c)/18446744073709551616) =
  zs.take k++vp x (ys.drop j) (zs.drop k) c:=by
 rw[(bP hk).1,(bP hk).2,sH hk,sH hj,vp,List.append_assoc];rfl
theorem aV {x y zs zs':List Nat}{i:Nat}(hi:i<x.length) (hz:i<zs.length) (hy:0<y.length) (h:zs'=zs.take i++vp (xr x i) y (zs.drop i) 0) :
  zs'.take (i+1)++xZ (x.drop (i+1)) y (zs'.drop (i+1))=zs.take i++xZ (x.drop i) y (zs.drop i):=by
 have hl:(zs.take i).length=i:=by rw[List.length_take];omega
 obtain⟨a,r,hr⟩:∃ a r,vp (xr x i) y (zs.drop i) 0=a::r:=by
  rw[sH hz]
  cases y with
  | nil=>simp at hy
  | cons b y=>exact⟨_,_,rfl⟩
 have e1:zs'.take (i+1)=zs.take i++[a]:=by
  rw[h,hr,List.take_append,hl,List.take_of_length_le (by omega),Nat.add_sub_cancel_left];rfl
 have e2:zs'.drop (i+1)=r:=by
  rw[h,hr,List.drop_append,hl,List.drop_of_length_le (by omega),Nat.add_sub_cancel_left];rfl
 rw[e1,e2,sH hi];rw[sH hz]at hr⊢;rw[xZ,hr,List.append_assoc];rfl
theorem YX (x:Nat) (ys:List Nat) (c:Nat):vp x ys [] c=[]:=by cases ys <;> rfl
theorem aB (ys zs:List Nat):xZ [] ys zs=zs:=by cases zs <;> rfl
end Go.Proofs.YtjpcnhncoidliaaGreatDoor
namespace Go.Proofs.YtjpcnhncoidliaaGreatDoor
open Go.RowKit
def uu (a b x:Int):Int:=bits .or .u32 (x*a%4294967296) (x/b)
theorem fj (x:Int) (w:World) :
  Calls Tryz.prog 101 #[.int .u32 x,.int .i64 (-17)] w fun e w'=>e=.returned (.int .u32 (uu 32768 131072 x))∧w=w':=by
 have e1:bits .and .u64 (IntKind.u64.wrap (-17)) 31=15:=by kernel_rfl
 have e2:IntKind.u64.wrap (32-15)=17:=by kernel_rfl
 go_enter Tryz.func101,Tryz.ntmps101
 go_wp2_with fail
 go_ret
 exact⟨rfl,rfl⟩
theorem Wh (x:Int) (w:World) :
  Calls Tryz.prog 98 #[.int .u32 x,.int .i64 17] w fun e w'=>e=.returned (.int .u32 (uu 32768 131072 x))∧w=w':=by
 have R:=Hh (fj x w);go_enter Tryz.func98,Tryz.ntmps98
 go_wp2_with fail
 refine R.out.mono ?_
 rintro e w1 ⟨rfl,rfl⟩
 go_wp2_with fail
 go_ret
 exact⟨rfl,rfl⟩
theorem WU (x:Int) (w:World) :
  Calls Tryz.prog 93 #[.int .u32 x,.int .i64 17] w fun e w'=>e=.returned (.int .u32 (uu 32768 131072 x))∧w=w':=by
 have R:=Hh (fj x w);go_enter Tryz.func93,Tryz.ntmps93
 go_wp2_with fail
 refine R.out.mono ?_
 rintro e w1 ⟨rfl,rfl⟩
 go_wp2_with fail
 go_ret
 exact⟨rfl,rfl⟩
theorem fm (x:Int) (w:World) :
  Calls Tryz.prog 101 #[.int .u32 x,.int .i64 (-19)] w fun e w'=>e=.returned (.int .u32 (uu 8192 524288 x))∧w=w':=by
 have e1:bits .and .u64 (IntKind.u64.wrap (-19)) 31=13:=by kernel_rfl
 have e2:IntKind.u64.wrap (32-13)=19:=by kernel_rfl
 go_enter Tryz.func101,Tryz.ntmps101
 go_wp2_with fail
 go_ret
 exact⟨rfl,rfl⟩
theorem Wj (x:Int) (w:World) :
  Calls Tryz.prog 98 #[.int .u32 x,.int .i64 19] w fun e w'=>e=.returned (.int .u32 (uu 8192 524288 x))∧w=w':=by
 have R:=Hh (fm x w);go_enter Tryz.func98,Tryz.ntmps98
 go_wp2_with fail
 refine R.out.mono ?_
 rintro e w1 ⟨rfl,rfl⟩
 go_wp2_with fail
 go_ret
 exact⟨rfl,rfl⟩
theorem WX (x:Int) (w:World) :
  Calls Tryz.prog 93 #[.int .u32 x,.int .i64 19] w fun e w'=>e=.returned (.int .u32 (uu 8192 524288 x))∧w=w':=by
 have R:=Hh (fm x w);go_enter Tryz.func93,Tryz.ntmps93
 go_wp2_with fail
 refine R.out.mono ?_
 rintro e w1 ⟨rfl,rfl⟩
 go_wp2_with fail
 go_ret
 exact⟨rfl,rfl⟩
theorem dp (x:Int) (w:World) :
  Calls Tryz.prog 101 #[.int .u32 x,.int .i64 (-7)] w fun e w'=>e=.returned (.int .u32 (uu 33554432 128 x))∧w=w':=by
 have e1:bits .and .u64 (IntKind.u64.wrap (-7)) 31=25:=by kernel_rfl
 have e2:IntKind.u64.wrap (32-25)=7:=by kernel_rfl
 go_enter Tryz.func101,Tryz.ntmps101
 go_wp2_with fail
 go_ret
 exact⟨rfl,rfl⟩
theorem Tc (x:Int) (w:World) :
  Calls Tryz.prog 98 #[.int .u32 x,.int .i64 7] w fun e w'=>e=.returned (.int .u32 (uu 33554432 128 x))∧w=w':=by
 have R:=Hh (dp x w);go_enter Tryz.func98,Tryz.ntmps98
 go_wp2_with fail
 refine R.out.mono ?_
 rintro e w1 ⟨rfl,rfl⟩
 go_wp2_with fail
 go_ret
 exact⟨rfl,rfl⟩
theorem TX (x:Int) (w:World) :
  Calls Tryz.prog 93 #[.int .u32 x,.int .i64 7] w fun e w'=>e=.returned (.int .u32 (uu 33554432 128 x))∧w=w':=by
 have R:=Hh (dp x w);go_enter Tryz.func93,Tryz.ntmps93
 go_wp2_with fail
 refine R.out.mono ?_
 rintro e w1 ⟨rfl,rfl⟩
 go_wp2_with fail
 go_ret
 exact⟨rfl,rfl⟩
theorem fk (x:Int) (w:World) :
  Calls Tryz.prog 101 #[.int .u32 x,.int .i64 (-18)] w fun e w'=>e=.returned (.int .u32 (uu 16384 262144 x))∧w=w':=by
 have e1:bits .and .u64 (IntKind.u64.wrap (-18)) 31=14:=by kernel_rfl
 have e2:IntKind.u64.wrap (32-14)=18:=by kernel_rfl
 go_enter Tryz.func101,Tryz.ntmps101
 go_wp2_with fail
 go_ret
 exact⟨rfl,rfl⟩
theorem Wi (x:Int) (w:World) :
  Calls Tryz.prog 98 #[.int .u32 x,.int .i64 18] w fun e w'=>e=.returned (.int .u32 (uu 16384 262144 x))∧w=w':=by
 have R:=Hh (fk x w);go_enter Tryz.func98,Tryz.ntmps98
 go_wp2_with fail
 refine R.out.mono ?_
 rintro e w1 ⟨rfl,rfl⟩
 go_wp2_with fail
 go_ret
 exact⟨rfl,rfl⟩
theorem WV (x:Int) (w:World) :
  Calls Tryz.prog 93 #[.int .u32 x,.int .i64 18] w fun e w'=>e=.returned (.int .u32 (uu 16384 262144 x))∧w=w':=by
 have R:=Hh (fk x w);go_enter Tryz.func93,Tryz.ntmps93
 go_wp2_with fail
 refine R.out.mono ?_
 rintro e w1 ⟨rfl,rfl⟩
 go_wp2_with fail
 go_ret
 exact⟨rfl,rfl⟩
theorem dn (x:Int) (w:World) :
  Calls Tryz.prog 101 #[.int .u32 x,.int .i64 (-6)] w fun e w'=>e=.returned (.int .u32 (uu 67108864 64 x))∧w=w':=by
 have e1:bits .and .u64 (IntKind.u64.wrap (-6)) 31=26:=by kernel_rfl
 have e2:IntKind.u64.wrap (32-26)=6:=by kernel_rfl
 go_enter Tryz.func101,Tryz.ntmps101
 go_wp2_with fail
 go_ret
 exact⟨rfl,rfl⟩
theorem Tb (x:Int) (w:World) :
  Calls Tryz.prog 98 #[.int .u32 x,.int .i64 6] w fun e w'=>e=.returned (.int .u32 (uu 67108864 64 x))∧w=w':=by
 have R:=Hh (dn x w);go_enter Tryz.func98,Tryz.ntmps98
 go_wp2_with fail
 refine R.out.mono ?_
 rintro e w1 ⟨rfl,rfl⟩
 go_wp2_with fail
 go_ret
 exact⟨rfl,rfl⟩
theorem TW (x:Int) (w:World) :
  Calls Tryz.prog 93 #[.int .u32 x,.int .i64 6] w fun e w'=>e=.returned (.int .u32 (uu 67108864 64 x))∧w=w':=by
 have R:=Hh (dn x w);go_enter Tryz.func93,Tryz.ntmps93
 go_wp2_with fail
 refine R.out.mono ?_
 rintro e w1 ⟨rfl,rfl⟩
 go_wp2_with fail
 go_ret
 exact⟨rfl,rfl⟩
theorem fh (x:Int) (w:World) :
  Calls Tryz.prog 101 #[.int .u32 x,.int .i64 (-11)] w fun e w'=>e=.returned (.int .u32 (uu 2097152 2048 x))∧w=w':=by
 have e1:bits .and .u64 (IntKind.u64.wrap (-11)) 31=21:=by kernel_rfl
 have e2:IntKind.u64.wrap (32-21)=11:=by kernel_rfl
 go_enter Tryz.func101,Tryz.ntmps101
 go_wp2_with fail
 go_ret
 exact⟨rfl,rfl⟩
theorem Wf (x:Int) (w:World) :
  Calls Tryz.prog 98 #[.int .u32 x,.int .i64 11] w fun e w'=>e=.returned (.int .u32 (uu 2097152 2048 x))∧w=w':=by
 have R:=Hh (fh x w);go_enter Tryz.func98,Tryz.ntmps98
 go_wp2_with fail
 refine R.out.mono ?_
 rintro e w1 ⟨rfl,rfl⟩
 go_wp2_with fail
 go_ret
 exact⟨rfl,rfl⟩
theorem WS (x:Int) (w:World) :
  Calls Tryz.prog 93 #[.int .u32 x,.int .i64 11] w fun e w'=>e=.returned (.int .u32 (uu 2097152 2048 x))∧w=w':=by
 have R:=Hh (fh x w);go_enter Tryz.func93,Tryz.ntmps93
 go_wp2_with fail
 refine R.out.mono ?_
 rintro e w1 ⟨rfl,rfl⟩
 go_wp2_with fail
 go_ret
 exact⟨rfl,rfl⟩
theorem fr (x:Int) (w:World) :
  Calls Tryz.prog 101 #[.int .u32 x,.int .i64 (-25)] w fun e w'=>e=.returned (.int .u32 (uu 128 33554432 x))∧w=w':=by
 have e1:bits .and .u64 (IntKind.u64.wrap (-25)) 31=7:=by kernel_rfl
 have e2:IntKind.u64.wrap (32-7)=25:=by kernel_rfl
 go_enter Tryz.func101,Tryz.ntmps101
 go_wp2_with fail
 go_ret
 exact⟨rfl,rfl⟩
theorem Wm (x:Int) (w:World) :
  Calls Tryz.prog 98 #[.int .u32 x,.int .i64 25] w fun e w'=>e=.returned (.int .u32 (uu 128 33554432 x))∧w=w':=by
 have R:=Hh (fr x w);go_enter Tryz.func98,Tryz.ntmps98
 go_wp2_with fail
 refine R.out.mono ?_
 rintro e w1 ⟨rfl,rfl⟩
 go_wp2_with fail
 go_ret
 exact⟨rfl,rfl⟩
theorem WZ (x:Int) (w:World) :
  Calls Tryz.prog 93 #[.int .u32 x,.int .i64 25] w fun e w'=>e=.returned (.int .u32 (uu 128 33554432 x))∧w=w':=by
 have R:=Hh (fr x w);go_enter Tryz.func93,Tryz.ntmps93
 go_wp2_with fail
 refine R.out.mono ?_
 rintro e w1 ⟨rfl,rfl⟩
 go_wp2_with fail
 go_ret
 exact⟨rfl,rfl⟩
theorem dm (x:Int) (w:World) :
  Calls Tryz.prog 101 #[.int .u32 x,.int .i64 (-2)] w fun e w'=>e=.returned (.int .u32 (uu 1073741824 4 x))∧w=w':=by
 have e1:bits .and .u64 (IntKind.u64.wrap (-2)) 31=30:=by kernel_rfl
 have e2:IntKind.u64.wrap (32-30)=2:=by kernel_rfl
 go_enter Tryz.func101,Tryz.ntmps101
 go_wp2_with fail
 go_ret
 exact⟨rfl,rfl⟩
theorem Ta (x:Int) (w:World) :
  Calls Tryz.prog 98 #[.int .u32 x,.int .i64 2] w fun e w'=>e=.returned (.int .u32 (uu 1073741824 4 x))∧w=w':=by
 have R:=Hh (dm x w);go_enter Tryz.func98,Tryz.ntmps98
 go_wp2_with fail
 refine R.out.mono ?_
 rintro e w1 ⟨rfl,rfl⟩
 go_wp2_with fail
 go_ret
 exact⟨rfl,rfl⟩
theorem TV (x:Int) (w:World) :
  Calls Tryz.prog 93 #[.int .u32 x,.int .i64 2] w fun e w'=>e=.returned (.int .u32 (uu 1073741824 4 x))∧w=w':=by
 have R:=Hh (dm x w);go_enter Tryz.func93,Tryz.ntmps93
 go_wp2_with fail
 refine R.out.mono ?_
 rintro e w1 ⟨rfl,rfl⟩
 go_wp2_with fail
 go_ret
 exact⟨rfl,rfl⟩
theorem fi (x:Int) (w:World) :
  Calls Tryz.prog 101 #[.int .u32 x,.int .i64 (-13)] w fun e w'=>e=.returned (.int .u32 (uu 524288 8192 x))∧w=w':=by
 have e1:bits .and .u64 (IntKind.u64.wrap (-13)) 31=19:=by kernel_rfl
 have e2:IntKind.u64.wrap (32-19)=13:=by kernel_rfl
 go_enter Tryz.func101,Tryz.ntmps101
 go_wp2_with fail
 go_ret
 exact⟨rfl,rfl⟩
theorem Wg (x:Int) (w:World) :
  Calls Tryz.prog 98 #[.int .u32 x,.int .i64 13] w fun e w'=>e=.returned (.int .u32 (uu 524288 8192 x))∧w=w':=by
 have R:=Hh (fi x w);go_enter Tryz.func98,Tryz.ntmps98
 go_wp2_with fail
 refine R.out.mono ?_
 rintro e w1 ⟨rfl,rfl⟩
 go_wp2_with fail
 go_ret
 exact⟨rfl,rfl⟩
theorem WT (x:Int) (w:World) :
  Calls Tryz.prog 93 #[.int .u32 x,.int .i64 13] w fun e w'=>e=.returned (.int .u32 (uu 524288 8192 x))∧w=w':=by
 have R:=Hh (fi x w);go_enter Tryz.func93,Tryz.ntmps93
 go_wp2_with fail
 refine R.out.mono ?_
 rintro e w1 ⟨rfl,rfl⟩
 go_wp2_with fail
 go_ret
 exact⟨rfl,rfl⟩
theorem fp (x:Int) (w:World) :
  Calls Tryz.prog 101 #[.int .u32 x,.int .i64 (-22)] w fun e w'=>e=.returned (.int .u32 (uu 1024 4194304 x))∧w=w':=by
 have e1:bits .and .u64 (IntKind.u64.wrap (-22)) 31=10:=by kernel_rfl
 have e2:IntKind.u64.wrap (32-10)=22:=by kernel_rfl
 go_enter Tryz.func101,Tryz.ntmps101
 go_wp2_with fail
 go_ret
 exact⟨rfl,rfl⟩
theorem Wl (x:Int) (w:World) :
  Calls Tryz.prog 98 #[.int .u32 x,.int .i64 22] w fun e w'=>e=.returned (.int .u32 (uu 1024 4194304 x))∧w=w':=by
 have R:=Hh (fp x w);go_enter Tryz.func98,Tryz.ntmps98
 go_wp2_with fail
 refine R.out.mono ?_
 rintro e w1 ⟨rfl,rfl⟩
 go_wp2_with fail
 go_ret
 exact⟨rfl,rfl⟩
theorem WY (x:Int) (w:World) :
  Calls Tryz.prog 93 #[.int .u32 x,.int .i64 22] w fun e w'=>e=.returned (.int .u32 (uu 1024 4194304 x))∧w=w':=by
 have R:=Hh (fp x w);go_enter Tryz.func93,Tryz.ntmps93
 go_wp2_with fail
 refine R.out.mono ?_
 rintro e w1 ⟨rfl,rfl⟩
 go_wp2_with fail
 go_ret
 exact⟨rfl,rfl⟩
end Go.Proofs.YtjpcnhncoidliaaGreatDoor
