/- squeezed. Walks: the reference's reader of i -/
import Derived.Test.YtnlinmoiakgedaaGreatDoorK26
set_option linter.unusedVariables false
set_option linter.unusedSimpArgs false
set_option maxRecDepth 100000
set_option maxHeartbeats 6400000
namespace Go.Proofs.YtnlinmoiakgedaaGreatDoor
open Go.RowKit
section
variable {d:Nat} {w:World} {H:Snap} {g:Nat} {A:Option Addr} {c:Nat} {l:List UInt8} {p cnt lv:Nat}
theorem fp (hTab:Tabs H) (hlv:lv+d=8) (hP:Psr 112 w g H A c l p cnt) (hc:cnt<256) (ut:p<l.length) {ch:UInt8}(rH:l[p]=ch) {low kd:Nat}(yQ:ch.toNat%32=low) (pX:ch.toNat/32=kd) (se:low≤27) (hk:kd=0):Calls Tryz.prog 79 #[.pointer (some ⟨g,0,none⟩),.int .i64 (lv:Int)] w (ItemOut 112 w H g A c l p (zo d (l.drop p) cnt)):=by
 have zC:=hP.gt;have xg:=(Rdg.refl hP).alloc zr;have xC:=Blk.new w 26 #[.int .i64 0,.int .u64 0,.slice none 0 0,.slice none 0 0];have zQ:H w.heap.size=none:=hP.holds.none_of_ge (Nat.le_refl _);have c2:=xg.psr.blk.cell 2 rfl;have ED:=uQ ut;rw[rH]at ED;subst hk
 have EH0:Hid (zj (l.drop p)=if 27<low then .error 3 else if low<24 then .ok (ch.toNat,low,1) else if(l.drop (p+1)).length<2 ^ (low-24) then .error 2
    else if ch.toNat/32<7∧(zm 0 (beN ((l.drop (p+1)).take (2 ^ (low-24))))).length≠1+2 ^ (low-24) then .error 4
    else .ok (ch.toNat,beN ((l.drop (p+1)).take (2 ^ (low-24))),1+2 ^ (low-24))):=by rw[Hid,ED,zj,yQ]
 have z27:¬ ((27:Int)<(low:Int)):=by omega
 have z27b:decide ((27:Int)<(low:Int))=false:=decide_eq_false z27;have mC:=Hh se;have Zi:=Hh hlv;have ny:Hid (0<7):=by rw[Hid];omega
 clear se ED;have z0:¬ (((l.length:Nat):Int)≤(p:Int)):=by omega
 have z0':decide (((l.length:Nat):Int)≤(p:Int))=false:=decide_eq_false z0;have jl:(p:Int)<(l.length:Int):=by omega
 have jk:(0:Int)≤(p:Int):=by omega
 have qT:=hP.small;have K1:IntKind.i64.wrap ((p:Int)+1)=(p:Int)+1:=IntWalk.i64_in _ (by omega);obtain⟨b,off,rfl,xy⟩:=hP.bytes.at_ (by omega);have KA:=oo ⟨ch.toNat,ch.toNat_lt⟩
 simp only at KA
 rw[yQ]at KA;have S:(ch.toNat:Int)/32=0:=by omega
 have Vc:=True.intro;have od:(low:Int)≤31:=by omega
 have rQ:=Hh xy;have yk:=Hh (And.intro yQ (And.intro pX ut));have e9:=Hh (show H.cell? ⟨b,off+p,none⟩=some (zD ch) by have h:=xy p ut;rw[rH]at h;exact h);clear xy yQ pX qT rH;have xi:¬ ((256:Int)≤(cnt:Int)):=by omega
 have xv:decide ((256:Int)≤(cnt:Int))=false:=decide_eq_false xi;have KC:IntKind.i64.wrap ((cnt:Int)+1)=(cnt:Int)+1:=IntWalk.i64_in _ (by omega);have HC:=Hh hc;clear hc;go_enter Tryz.func79,Tryz.ntmps79
 go_wp2_with (with_reducible refine zx ?_)
 refine zu rfl _ _ _ rfl rfl g 2 (.int .i64 ((cnt:Int)+1)) rfl rfl _ _ xg.psr.blk zE (by simp) rfl fun w2 yu yp=>?_
 have yv:Rdg 112 w H w2 H g _ c l p (cnt+1):=xg.step yp yu hP.le (by have:=HC.out;omega);have xD:=xC.gr yp (by omega);clear xg xC yu yp c2 KC xi xv;have o9:=yv.psr.le;have a0:=yv.psr.blk.cell 0 rfl;have a1:=yv.psr.blk.cell 1 rfl;go_wp2_with fail
 go_big_quiet (fail)
 have uB:=yv.drewN nq;have u9:Blk (w2.drewN nq) w.heap.size 26 #[.int .i64 0,.int .u64 0,.slice none 0 0,.slice none 0 0]:=xD
 generalize w2.drewN nq=w3 at uB u9⊢
 obtain⟨yF,xM⟩:=And.intro uB u9;clear uB u9 yv xD a0 a1 o9;have a0:=yF.psr.blk.cell 0 rfl;have a1:=yF.psr.blk.cell 1 rfl;have q0:=yF.psr.holds.cell e9.out;go_upto_region 6 with fail
 go_big_quiet (fail)
 have vD:=yF.drewN nq;have vC:Blk (w3.drewN nq) w.heap.size 26 #[.int .i64 0,.int .u64 0,.slice none 0 0,.slice none 0 0]:=xM
 generalize w3.drewN nq=w4 at vD vC⊢
 obtain⟨xR,xG⟩:=And.intro vD vC;clear vD vC yF xM a0 a1 q0;have a1:=xR.psr.blk.cell 1 rfl;go_wp2_with (with_reducible refine zx ?_)
 refine zu rfl _ _ _ rfl rfl g 1 (.int .i64 ((p:Int)+1)) rfl rfl _ _ xR.psr.blk zE (by simp) rfl fun w5 uh xH=>?_
 have yl:Rdg 112 w H w5 H g (some ⟨b,off,none⟩) c l (p+1) (cnt+1):=xR.step xH uh yk.out.2.2 (by have:=HC.out;omega);have yh:=xG.gr xH (by omega);clear xR xG uh xH a1 K1 z0 z0' jl jk KA S;go_upto_region 12 with fail
 have KU:IntKind.u64.wrap (low:Int)=(low:Int):=by rw[IntKind.wrap_u64];omega
 go_upto_if 80 with fail
 go_cut [8] (fun s8 wx=>∃ n k:Nat,zj (l.drop p)=.ok (ch.toNat,n,k)∧s8=.int .u64 (n:Int)∧Rdg 112 w H wx H g (some ⟨b,off,none⟩) c l (p+k) (cnt+1)∧Blk wx w.heap.size 26 #[.int .i64 0,.int .u64 0,.slice none 0 0,.slice none 0 0])
 case first =>
  by_cases hl24:low<24
  ·have z24:¬ ((23:Int)<(low:Int)):=by omega
   have z24b:decide ((23:Int)<(low:Int))=false:=decide_eq_false z24;have EH:Hid (zj (l.drop p)=.ok (ch.toNat,low,1)):=by rw[Hid,EH0.out,if_neg (by have:=mC.out;omega),if_pos hl24]
   clear hl24;go_wp2_with fail
   go_meet
   exact⟨low,1,EH.out,rfl,yl,yh⟩
  have z24:(23:Int)<(low:Int):=by omega
  have EH:Hid (zj (l.drop p)=if(l.drop (p+1)).length<2 ^ (low-24) then .error 2
    else if ch.toNat/32<7∧(zm 0 (beN ((l.drop (p+1)).take (2 ^ (low-24))))).length≠1+2 ^ (low-24) then .error 4
    else .ok (ch.toNat,beN ((l.drop (p+1)).take (2 ^ (low-24))),1+2 ^ (low-24))):=by rw[Hid,EH0.out,if_neg (by have:=mC.out;omega),if_neg hl24]
  clear EH0
  rcases(by have:=mC.out;omega:low=24∨low=25∨low=26∨low=27) with rfl | rfl | rfl | rfl
  ·have NM:=Hh (yD yl.psr 1 (by omega) (by omega));have HD:=Hh (fun n hn w=>yH 0 ((n:Nat):Int) w (by omega) (by omega) (by omega) hn)
   simp only[Nat.reduceSub,Nat.reducePow,Nat.reduceAdd]at EH
   clear hl24 z24 od z27 z27b KU;go_wp2_with fail
   refine NM.out.mono ?_
   rintro e w6 (⟨hs,rfl,yA,zJ⟩ | ⟨hs,rfl,yA,zJ⟩)
   ·have E:Hid (zo d (l.drop p) cnt=.err 2):=by
     have h1:zj (l.drop p)=.error 2:=by rw[EH.out,if_pos (by rw[List.length_drop];have:=yk.out.2.2;omega)]
     rw[Hid,zY d (l.drop p) cnt (by have:=HC.out;omega) h1]
    have zA:Rdg 112 w H w6 H g (some ⟨b,off,none⟩) c l (p+1) (cnt+1):=yl.step zJ yA yk.out.2.2 (by have:=HC.out;omega);have yf:=yh.gr zJ (by omega);clear NM HD hs yl yh yA zJ EH;go_wp2_with (with_reducible refine zx ?_)
    refine stI yf fun wz hTy zU=>?_
    have zP:=zA.gb zQ (Nat.le_refl _) zC zU;go_wp2_with fail
    refine zv rfl rfl hTy rfl rfl zw rfl ?_
    exact ItemOut.err E.out rfl zP
   ·have zA:Rdg 112 w H w6 H g (some ⟨b,off,none⟩) c l (p+1+1) (cnt+1):=yl.step zJ yA hs (by have:=HC.out;omega);have yf:=yh.gr zJ (by omega);have xV:=xm ((l.drop (p+1)).take 1);have wy:((l.drop (p+1)).take 1).length=1:=by rw[List.length_take,List.length_drop];omega
    rw[wy]at xV
    simp only[Nat.reducePow]at xV
    obtain⟨n,hn⟩:∃ n,beN ((l.drop (p+1)).take 1)=n:=⟨_,rfl⟩
    have EH2:Hid (zj (l.drop p)=if(zm 0 n).length≠2 then .error 4 else .ok (ch.toNat,n,2)):=by
     rw[Hid,EH.out,if_neg (by rw[List.length_drop];omega),hn];have:=ny.out;have:=yk.out.2.1
     by_cases h:(zm 0 n).length=2 <;> simp[h] <;> omega
    have ug:=Hh (fun w=>HD.out n (by omega) w);rw[hn];have zK:(zm (0:Int).toNat (n:Int).toNat).length=(zm 0 n).length:=by rw[zh,zh];rfl
    obtain⟨fl,vu⟩:∃ fl,(zm 0 n).length=fl:=⟨_,rfl⟩
    rw[vu]at EH2 zK;have uM:=Hh zK;clear NM HD hs yl yh yA zJ EH hn wy xV vu zK;go_wp2_with fail
    refine(ug.out _).mono ?_
    rintro e w7 ⟨r,rfl,hf⟩
    have yG:=zA.below_ hf.2;have yL:=yf.below hf.2;obtain⟨RA,rc,rfl,_⟩:=hf.own.form;rw[uM.out];clear hf ug zA yf
    by_cases hq:fl=2
    ·subst hq;have EH3:Hid (zj (l.drop p)=.ok (ch.toNat,n,2)):=by rw[Hid,EH2.out,if_neg (by simp)]
     clear EH2;go_wp2_with fail
     go_meet
     exact⟨n,2,EH3.out,rfl,by rw[show p+2=p+1+1 by omega];exact yG,yL⟩
    ·have zq:((fl:Int)==2)=false:=by simp;omega
     have zq2:((fl:Int)=2)=False:=eq_false (by omega)
     have E:Hid (zo d (l.drop p) cnt=.err 4):=by
      have h1:zj (l.drop p)=.error 4:=by rw[EH2.out,if_pos hq]
      rw[Hid,zY d (l.drop p) cnt (by have:=HC.out;omega) h1]
     clear EH2 hq;go_wp2_with (with_reducible refine zx ?_)
     refine stI yL fun wz hTy zU=>?_
     have zP:=yG.gb zQ (Nat.le_refl _) zC zU;go_wp2_with fail
     refine zv rfl rfl hTy rfl rfl zw rfl ?_
     exact ItemOut.err E.out rfl zP
  ·have NM:=Hh (yD yl.psr 2 (by omega) (by omega));have HD:=Hh (fun n hn w=>yH 0 ((n:Nat):Int) w (by omega) (by omega) (by omega) hn)
   simp only[Nat.reduceSub,Nat.reducePow,Nat.reduceAdd]at EH
   clear hl24 z24 od z27 z27b KU;go_wp2_with fail
   refine NM.out.mono ?_
   rintro e w6 (⟨hs,rfl,yA,zJ⟩ | ⟨hs,rfl,yA,zJ⟩)
   ·have E:Hid (zo d (l.drop p) cnt=.err 2):=by
     have h1:zj (l.drop p)=.error 2:=by rw[EH.out,if_pos (by rw[List.length_drop];have:=yk.out.2.2;omega)]
     rw[Hid,zY d (l.drop p) cnt (by have:=HC.out;omega) h1]
    have zA:Rdg 112 w H w6 H g (some ⟨b,off,none⟩) c l (p+1) (cnt+1):=yl.step zJ yA yk.out.2.2 (by have:=HC.out;omega);have yf:=yh.gr zJ (by omega);clear NM HD hs yl yh yA zJ EH;go_wp2_with (with_reducible refine zx ?_)
    refine stI yf fun wz hTy zU=>?_
    have zP:=zA.gb zQ (Nat.le_refl _) zC zU;go_wp2_with fail
    refine zv rfl rfl hTy rfl rfl zw rfl ?_
    exact ItemOut.err E.out rfl zP
   ·have zA:Rdg 112 w H w6 H g (some ⟨b,off,none⟩) c l (p+1+2) (cnt+1):=yl.step zJ yA hs (by have:=HC.out;omega);have yf:=yh.gr zJ (by omega);have xV:=xm ((l.drop (p+1)).take 2);have wy:((l.drop (p+1)).take 2).length=2:=by rw[List.length_take,List.length_drop];omega
    rw[wy]at xV
    simp only[Nat.reducePow]at xV
    obtain⟨n,hn⟩:∃ n,beN ((l.drop (p+1)).take 2)=n:=⟨_,rfl⟩
    have EH2:Hid (zj (l.drop p)=if(zm 0 n).length≠3 then .error 4 else .ok (ch.toNat,n,3)):=by
     rw[Hid,EH.out,if_neg (by rw[List.length_drop];omega),hn];have:=ny.out;have:=yk.out.2.1
     by_cases h:(zm 0 n).length=3 <;> simp[h] <;> omega
    have ug:=Hh (fun w=>HD.out n (by omega) w);rw[hn];have zK:(zm (0:Int).toNat (n:Int).toNat).length=(zm 0 n).length:=by rw[zh,zh];rfl
    obtain⟨fl,vu⟩:∃ fl,(zm 0 n).length=fl:=⟨_,rfl⟩
    rw[vu]at EH2 zK;have uM:=Hh zK;clear NM HD hs yl yh yA zJ EH hn wy xV vu zK;go_wp2_with fail
    refine(ug.out _).mono ?_
    rintro e w7 ⟨r,rfl,hf⟩
    have yG:=zA.below_ hf.2;have yL:=yf.below hf.2;obtain⟨RA,rc,rfl,_⟩:=hf.own.form;rw[uM.out];clear hf ug zA yf
    by_cases hq:fl=3
    ·subst hq;have EH3:Hid (zj (l.drop p)=.ok (ch.toNat,n,3)):=by rw[Hid,EH2.out,if_neg (by simp)]
     clear EH2;go_wp2_with fail
     go_meet
     exact⟨n,3,EH3.out,rfl,by rw[show p+3=p+1+2 by omega];exact yG,yL⟩
    ·have zq:((fl:Int)==3)=false:=by simp;omega
     have zq2:((fl:Int)=3)=False:=eq_false (by omega)
     have E:Hid (zo d (l.drop p) cnt=.err 4):=by
      have h1:zj (l.drop p)=.error 4:=by rw[EH2.out,if_pos hq]
      rw[Hid,zY d (l.drop p) cnt (by have:=HC.out;omega) h1]
     clear EH2 hq;go_wp2_with (with_reducible refine zx ?_)
     refine stI yL fun wz hTy zU=>?_
     have zP:=yG.gb zQ (Nat.le_refl _) zC zU;go_wp2_with fail
     refine zv rfl rfl hTy rfl rfl zw rfl ?_
     exact ItemOut.err E.out rfl zP
  ·have NM:=Hh (yD yl.psr 4 (by omega) (by omega));have HD:=Hh (fun n hn w=>yH 0 ((n:Nat):Int) w (by omega) (by omega) (by omega) hn)
   simp only[Nat.reduceSub,Nat.reducePow,Nat.reduceAdd]at EH
   clear hl24 z24 od z27 z27b KU;go_wp2_with fail
   refine NM.out.mono ?_
   rintro e w6 (⟨hs,rfl,yA,zJ⟩ | ⟨hs,rfl,yA,zJ⟩)
   ·have E:Hid (zo d (l.drop p) cnt=.err 2):=by
     have h1:zj (l.drop p)=.error 2:=by rw[EH.out,if_pos (by rw[List.length_drop];have:=yk.out.2.2;omega)]
     rw[Hid,zY d (l.drop p) cnt (by have:=HC.out;omega) h1]
    have zA:Rdg 112 w H w6 H g (some ⟨b,off,none⟩) c l (p+1) (cnt+1):=yl.step zJ yA yk.out.2.2 (by have:=HC.out;omega);have yf:=yh.gr zJ (by omega);clear NM HD hs yl yh yA zJ EH;go_wp2_with (with_reducible refine zx ?_)
    refine stI yf fun wz hTy zU=>?_
    have zP:=zA.gb zQ (Nat.le_refl _) zC zU;go_wp2_with fail
    refine zv rfl rfl hTy rfl rfl zw rfl ?_
    exact ItemOut.err E.out rfl zP
   ·have zA:Rdg 112 w H w6 H g (some ⟨b,off,none⟩) c l (p+1+4) (cnt+1):=yl.step zJ yA hs (by have:=HC.out;omega);have yf:=yh.gr zJ (by omega);have xV:=xm ((l.drop (p+1)).take 4);have wy:((l.drop (p+1)).take 4).length=4:=by rw[List.length_take,List.length_drop];omega
    rw[wy]at xV
    simp only[Nat.reducePow]at xV
    obtain⟨n,hn⟩:∃ n,beN ((l.drop (p+1)).take 4)=n:=⟨_,rfl⟩
    have EH2:Hid (zj (l.drop p)=if(zm 0 n).length≠5 then .error 4 else .ok (ch.toNat,n,5)):=by
     rw[Hid,EH.out,if_neg (by rw[List.length_drop];omega),hn];have:=ny.out;have:=yk.out.2.1
     by_cases h:(zm 0 n).length=5 <;> simp[h] <;> omega
    have ug:=Hh (fun w=>HD.out n (by omega) w);rw[hn];have zK:(zm (0:Int).toNat (n:Int).toNat).length=(zm 0 n).length:=by rw[zh,zh];rfl
    obtain⟨fl,vu⟩:∃ fl,(zm 0 n).length=fl:=⟨_,rfl⟩
    rw[vu]at EH2 zK;have uM:=Hh zK;clear NM HD hs yl yh yA zJ EH hn wy xV vu zK;go_wp2_with fail
    refine(ug.out _).mono ?_
    rintro e w7 ⟨r,rfl,hf⟩
    have yG:=zA.below_ hf.2;have yL:=yf.below hf.2;obtain⟨RA,rc,rfl,_⟩:=hf.own.form;rw[uM.out];clear hf ug zA yf
    by_cases hq:fl=5
    ·subst hq;have EH3:Hid (zj (l.drop p)=.ok (ch.toNat,n,5)):=by rw[Hid,EH2.out,if_neg (by simp)]
     clear EH2;go_wp2_with fail
     go_meet
     exact⟨n,5,EH3.out,rfl,by rw[show p+5=p+1+4 by omega];exact yG,yL⟩
    ·have zq:((fl:Int)==5)=false:=by simp;omega
     have zq2:((fl:Int)=5)=False:=eq_false (by omega)
     have E:Hid (zo d (l.drop p) cnt=.err 4):=by
      have h1:zj (l.drop p)=.error 4:=by rw[EH2.out,if_pos hq]
      rw[Hid,zY d (l.drop p) cnt (by have:=HC.out;omega) h1]
     clear EH2 hq;go_wp2_with (with_reducible refine zx ?_)
     refine stI yL fun wz hTy zU=>?_
     have zP:=yG.gb zQ (Nat.le_refl _) zC zU;go_wp2_with fail
     refine zv rfl rfl hTy rfl rfl zw rfl ?_
     exact ItemOut.err E.out rfl zP
  ·have NM:=Hh (yD yl.psr 8 (by omega) (by omega));have HD:=Hh (fun n hn w=>yH 0 ((n:Nat):Int) w (by omega) (by omega) (by omega) hn)
   simp only[Nat.reduceSub,Nat.reducePow,Nat.reduceAdd]at EH
   clear hl24 z24 od z27 z27b KU;go_wp2_with fail
   refine NM.out.mono ?_
   rintro e w6 (⟨hs,rfl,yA,zJ⟩ | ⟨hs,rfl,yA,zJ⟩)
   ·have E:Hid (zo d (l.drop p) cnt=.err 2):=by
     have h1:zj (l.drop p)=.error 2:=by rw[EH.out,if_pos (by rw[List.length_drop];have:=yk.out.2.2;omega)]
     rw[Hid,zY d (l.drop p) cnt (by have:=HC.out;omega) h1]
    have zA:Rdg 112 w H w6 H g (some ⟨b,off,none⟩) c l (p+1) (cnt+1):=yl.step zJ yA yk.out.2.2 (by have:=HC.out;omega);have yf:=yh.gr zJ (by omega);clear NM HD hs yl yh yA zJ EH;go_wp2_with (with_reducible refine zx ?_)
    refine stI yf fun wz hTy zU=>?_
    have zP:=zA.gb zQ (Nat.le_refl _) zC zU;go_wp2_with fail
    refine zv rfl rfl hTy rfl rfl zw rfl ?_
    exact ItemOut.err E.out rfl zP
   ·have zA:Rdg 112 w H w6 H g (some ⟨b,off,none⟩) c l (p+1+8) (cnt+1):=yl.step zJ yA hs (by have:=HC.out;omega);have yf:=yh.gr zJ (by omega);have xV:=xm ((l.drop (p+1)).take 8);have wy:((l.drop (p+1)).take 8).length=8:=by rw[List.length_take,List.length_drop];omega
    rw[wy]at xV
    simp only[Nat.reducePow]at xV
    obtain⟨n,hn⟩:∃ n,beN ((l.drop (p+1)).take 8)=n:=⟨_,rfl⟩
    have EH2:Hid (zj (l.drop p)=if(zm 0 n).length≠9 then .error 4 else .ok (ch.toNat,n,9)):=by
     rw[Hid,EH.out,if_neg (by rw[List.length_drop];omega),hn];have:=ny.out;have:=yk.out.2.1
     by_cases h:(zm 0 n).length=9 <;> simp[h] <;> omega
    have ug:=Hh (fun w=>HD.out n (by omega) w);rw[hn];have zK:(zm (0:Int).toNat (n:Int).toNat).length=(zm 0 n).length:=by rw[zh,zh];rfl
    obtain⟨fl,vu⟩:∃ fl,(zm 0 n).length=fl:=⟨_,rfl⟩
    rw[vu]at EH2 zK;have uM:=Hh zK;clear NM HD hs yl yh yA zJ EH hn wy xV vu zK;go_wp2_with fail
    refine(ug.out _).mono ?_
    rintro e w7 ⟨r,rfl,hf⟩
    have yG:=zA.below_ hf.2;have yL:=yf.below hf.2;obtain⟨RA,rc,rfl,_⟩:=hf.own.form;rw[uM.out];clear hf ug zA yf
    by_cases hq:fl=9
    ·subst hq;have EH3:Hid (zj (l.drop p)=.ok (ch.toNat,n,9)):=by rw[Hid,EH2.out,if_neg (by simp)]
     clear EH2;go_wp2_with fail
     go_meet
     exact⟨n,9,EH3.out,rfl,by rw[show p+9=p+1+8 by omega];exact yG,yL⟩
    ·have zq:((fl:Int)==9)=false:=by simp;omega
     have zq2:((fl:Int)=9)=False:=eq_false (by omega)
     have E:Hid (zo d (l.drop p) cnt=.err 4):=by
      have h1:zj (l.drop p)=.error 4:=by rw[EH2.out,if_pos hq]
      rw[Hid,zY d (l.drop p) cnt (by have:=HC.out;omega) h1]
     clear EH2 hq;go_wp2_with (with_reducible refine zx ?_)
     refine stI yL fun wz hTy zU=>?_
     have zP:=yG.gb zQ (Nat.le_refl _) zC zU;go_wp2_with fail
     refine zv rfl rfl hTy rfl rfl zw rfl ?_
     exact ItemOut.err E.out rfl zP
 case rest =>
  obtain⟨n,k,hh,rfl,wL,vN⟩:=hcut;have HF:=Hh (xY hh);have HH:=Hh hh;clear hh yl yh;have E:Hid (zo d (l.drop p) cnt=.ok (.mk 0 n [] []) k (cnt+1)):=by rw[Hid,pN d (l.drop p) cnt (by have:=HC.out;omega) HH.out (by have:=yk.out.2.1;omega),yk.out.2.1];rfl
  have TL:=Hh HF.out.n_lt;go_wp2_with (with_reducible refine zx ?_)
  refine stI vN fun wz hTy zU=>?_
  have zP:=wL.gb zQ (Nat.le_refl _) zC zU;go_wp2_with fail
  refine zv rfl rfl hTy rfl rfl zw rfl ?_
  exact ItemOut.ok (ja:=none) (jb:=0) (jc:=none) (jd:=0) E.out rfl zP (IsItem.plain _ 0 n (by omega) TL.out)
theorem fq (hTab:Tabs H) (hlv:lv+d=8) (hP:Psr 112 w g H A c l p cnt) (hc:cnt<256) (ut:p<l.length) {ch:UInt8}(rH:l[p]=ch) {low kd:Nat}(yQ:ch.toNat%32=low) (pX:ch.toNat/32=kd) (se:low≤27) (hk:kd=1):Calls Tryz.prog 79 #[.pointer (some ⟨g,0,none⟩),.int .i64 (lv:Int)] w (ItemOut 112 w H g A c l p (zo d (l.drop p) cnt)):=by
 have zC:=hP.gt;have xg:=(Rdg.refl hP).alloc zr;have xC:=Blk.new w 26 #[.int .i64 0,.int .u64 0,.slice none 0 0,.slice none 0 0];have zQ:H w.heap.size=none:=hP.holds.none_of_ge (Nat.le_refl _);have c2:=xg.psr.blk.cell 2 rfl;have ED:=uQ ut;rw[rH]at ED;subst hk
 have EH0:Hid (zj (l.drop p)=if 27<low then .error 3 else if low<24 then .ok (ch.toNat,low,1) else if(l.drop (p+1)).length<2 ^ (low-24) then .error 2
    else if ch.toNat/32<7∧(zm 0 (beN ((l.drop (p+1)).take (2 ^ (low-24))))).length≠1+2 ^ (low-24) then .error 4
    else .ok (ch.toNat,beN ((l.drop (p+1)).take (2 ^ (low-24))),1+2 ^ (low-24))):=by rw[Hid,ED,zj,yQ]
 have z27:¬ ((27:Int)<(low:Int)):=by omega
 have z27b:decide ((27:Int)<(low:Int))=false:=decide_eq_false z27;have mC:=Hh se;have Zi:=Hh hlv;have ny:Hid (1<7):=by rw[Hid];omega
 clear se ED;have z0:¬ (((l.length:Nat):Int)≤(p:Int)):=by omega
 have z0':decide (((l.length:Nat):Int)≤(p:Int))=false:=decide_eq_false z0;have jl:(p:Int)<(l.length:Int):=by omega
 have jk:(0:Int)≤(p:Int):=by omega
 have qT:=hP.small;have K1:IntKind.i64.wrap ((p:Int)+1)=(p:Int)+1:=IntWalk.i64_in _ (by omega);obtain⟨b,off,rfl,xy⟩:=hP.bytes.at_ (by omega);have KA:=oo ⟨ch.toNat,ch.toNat_lt⟩
 simp only at KA
 rw[yQ]at KA;have S:(ch.toNat:Int)/32=1:=by omega
 have Vc:=True.intro;have od:(low:Int)≤31:=by omega
 have rQ:=Hh xy;have yk:=Hh (And.intro yQ (And.intro pX ut));have e9:=Hh (show H.cell? ⟨b,off+p,none⟩=some (zD ch) by have h:=xy p ut;rw[rH]at h;exact h);clear xy yQ pX qT rH;have xi:¬ ((256:Int)≤(cnt:Int)):=by omega
 have xv:decide ((256:Int)≤(cnt:Int))=false:=decide_eq_false xi;have KC:IntKind.i64.wrap ((cnt:Int)+1)=(cnt:Int)+1:=IntWalk.i64_in _ (by omega);have HC:=Hh hc;clear hc;go_enter Tryz.func79,Tryz.ntmps79
 go_wp2_with (with_reducible refine zx ?_)
 refine zu rfl _ _ _ rfl rfl g 2 (.int .i64 ((cnt:Int)+1)) rfl rfl _ _ xg.psr.blk zE (by simp) rfl fun w2 yu yp=>?_
 have yv:Rdg 112 w H w2 H g _ c l p (cnt+1):=xg.step yp yu hP.le (by have:=HC.out;omega);have xD:=xC.gr yp (by omega);clear xg xC yu yp c2 KC xi xv;have o9:=yv.psr.le;have a0:=yv.psr.blk.cell 0 rfl;have a1:=yv.psr.blk.cell 1 rfl;go_wp2_with fail
 go_big_quiet (fail)
 have uB:=yv.drewN nq;have u9:Blk (w2.drewN nq) w.heap.size 26 #[.int .i64 0,.int .u64 0,.slice none 0 0,.slice none 0 0]:=xD
 generalize w2.drewN nq=w3 at uB u9⊢
 obtain⟨yF,xM⟩:=And.intro uB u9;clear uB u9 yv xD a0 a1 o9;have a0:=yF.psr.blk.cell 0 rfl;have a1:=yF.psr.blk.cell 1 rfl;have q0:=yF.psr.holds.cell e9.out;go_upto_region 6 with fail
 go_big_quiet (fail)
 have vD:=yF.drewN nq;have vC:Blk (w3.drewN nq) w.heap.size 26 #[.int .i64 0,.int .u64 0,.slice none 0 0,.slice none 0 0]:=xM
 generalize w3.drewN nq=w4 at vD vC⊢
 obtain⟨xR,xG⟩:=And.intro vD vC;clear vD vC yF xM a0 a1 q0;have a1:=xR.psr.blk.cell 1 rfl;go_wp2_with (with_reducible refine zx ?_)
 refine zu rfl _ _ _ rfl rfl g 1 (.int .i64 ((p:Int)+1)) rfl rfl _ _ xR.psr.blk zE (by simp) rfl fun w5 uh xH=>?_
 have yl:Rdg 112 w H w5 H g (some ⟨b,off,none⟩) c l (p+1) (cnt+1):=xR.step xH uh yk.out.2.2 (by have:=HC.out;omega);have yh:=xG.gr xH (by omega);clear xR xG uh xH a1 K1 z0 z0' jl jk KA S;go_upto_region 12 with fail
 have KU:IntKind.u64.wrap (low:Int)=(low:Int):=by rw[IntKind.wrap_u64];omega
 go_upto_if 80 with fail
 go_cut [8] (fun s8 wx=>∃ n k:Nat,zj (l.drop p)=.ok (ch.toNat,n,k)∧s8=.int .u64 (n:Int)∧Rdg 112 w H wx H g (some ⟨b,off,none⟩) c l (p+k) (cnt+1)∧Blk wx w.heap.size 26 #[.int .i64 0,.int .u64 0,.slice none 0 0,.slice none 0 0])
 case first =>
  by_cases hl24:low<24
  ·have z24:¬ ((23:Int)<(low:Int)):=by omega
   have z24b:decide ((23:Int)<(low:Int))=false:=decide_eq_false z24;have EH:Hid (zj (l.drop p)=.ok (ch.toNat,low,1)):=by rw[Hid,EH0.out,if_neg (by have:=mC.out;omega),if_pos hl24]
   clear hl24;go_wp2_with fail
   go_meet
   exact⟨low,1,EH.out,rfl,yl,yh⟩
  have z24:(23:Int)<(low:Int):=by omega
  have EH:Hid (zj (l.drop p)=if(l.drop (p+1)).length<2 ^ (low-24) then .error 2
    else if ch.toNat/32<7∧(zm 0 (beN ((l.drop (p+1)).take (2 ^ (low-24))))).length≠1+2 ^ (low-24) then .error 4
    else .ok (ch.toNat,beN ((l.drop (p+1)).take (2 ^ (low-24))),1+2 ^ (low-24))):=by rw[Hid,EH0.out,if_neg (by have:=mC.out;omega),if_neg hl24]
  clear EH0
  rcases(by have:=mC.out;omega:low=24∨low=25∨low=26∨low=27) with rfl | rfl | rfl | rfl
  ·have NM:=Hh (yD yl.psr 1 (by omega) (by omega));have HD:=Hh (fun n hn w=>yH 1 ((n:Nat):Int) w (by omega) (by omega) (by omega) hn)
   simp only[Nat.reduceSub,Nat.reducePow,Nat.reduceAdd]at EH
   clear hl24 z24 od z27 z27b KU;go_wp2_with fail
   refine NM.out.mono ?_
   rintro e w6 (⟨hs,rfl,yA,zJ⟩ | ⟨hs,rfl,yA,zJ⟩)
   ·have E:Hid (zo d (l.drop p) cnt=.err 2):=by
     have h1:zj (l.drop p)=.error 2:=by rw[EH.out,if_pos (by rw[List.length_drop];have:=yk.out.2.2;omega)]
     rw[Hid,zY d (l.drop p) cnt (by have:=HC.out;omega) h1]
    have zA:Rdg 112 w H w6 H g (some ⟨b,off,none⟩) c l (p+1) (cnt+1):=yl.step zJ yA yk.out.2.2 (by have:=HC.out;omega);have yf:=yh.gr zJ (by omega);clear NM HD hs yl yh yA zJ EH;go_wp2_with (with_reducible refine zx ?_)
    refine stI yf fun wz hTy zU=>?_
    have zP:=zA.gb zQ (Nat.le_refl _) zC zU;go_wp2_with fail
    refine zv rfl rfl hTy rfl rfl zw rfl ?_
    exact ItemOut.err E.out rfl zP
   ·have zA:Rdg 112 w H w6 H g (some ⟨b,off,none⟩) c l (p+1+1) (cnt+1):=yl.step zJ yA hs (by have:=HC.out;omega);have yf:=yh.gr zJ (by omega);have xV:=xm ((l.drop (p+1)).take 1);have wy:((l.drop (p+1)).take 1).length=1:=by rw[List.length_take,List.length_drop];omega
    rw[wy]at xV
    simp only[Nat.reducePow]at xV
    obtain⟨n,hn⟩:∃ n,beN ((l.drop (p+1)).take 1)=n:=⟨_,rfl⟩
    have EH2:Hid (zj (l.drop p)=if(zm 0 n).length≠2 then .error 4 else .ok (ch.toNat,n,2)):=by
     rw[Hid,EH.out,if_neg (by rw[List.length_drop];omega),hn];have:=ny.out;have:=yk.out.2.1
     by_cases h:(zm 0 n).length=2 <;> simp[h] <;> omega
    have ug:=Hh (fun w=>HD.out n (by omega) w);rw[hn];have zK:(zm (1:Int).toNat (n:Int).toNat).length=(zm 0 n).length:=by rw[zh,zh];rfl
    obtain⟨fl,vu⟩:∃ fl,(zm 0 n).length=fl:=⟨_,rfl⟩
    rw[vu]at EH2 zK;have uM:=Hh zK;clear NM HD hs yl yh yA zJ EH hn wy xV vu zK;go_wp2_with fail
    refine(ug.out _).mono ?_
    rintro e w7 ⟨r,rfl,hf⟩
    have yG:=zA.below_ hf.2;have yL:=yf.below hf.2;obtain⟨RA,rc,rfl,_⟩:=hf.own.form;rw[uM.out];clear hf ug zA yf
    by_cases hq:fl=2
    ·subst hq;have EH3:Hid (zj (l.drop p)=.ok (ch.toNat,n,2)):=by rw[Hid,EH2.out,if_neg (by simp)]
     clear EH2;go_wp2_with fail
     go_meet
     exact⟨n,2,EH3.out,rfl,by rw[show p+2=p+1+1 by omega];exact yG,yL⟩
    ·have zq:((fl:Int)==2)=false:=by simp;omega
     have zq2:((fl:Int)=2)=False:=eq_false (by omega)
     have E:Hid (zo d (l.drop p) cnt=.err 4):=by
      have h1:zj (l.drop p)=.error 4:=by rw[EH2.out,if_pos hq]
      rw[Hid,zY d (l.drop p) cnt (by have:=HC.out;omega) h1]
     clear EH2 hq;go_wp2_with (with_reducible refine zx ?_)
     refine stI yL fun wz hTy zU=>?_
     have zP:=yG.gb zQ (Nat.le_refl _) zC zU;go_wp2_with fail
     refine zv rfl rfl hTy rfl rfl zw rfl ?_
     exact ItemOut.err E.out rfl zP
  ·have NM:=Hh (yD yl.psr 2 (by omega) (by omega));have HD:=Hh (fun n hn w=>yH 1 ((n:Nat):Int) w (by omega) (by omega) (by omega) hn)
   simp only[Nat.reduceSub,Nat.reducePow,Nat.reduceAdd]at EH
   clear hl24 z24 od z27 z27b KU;go_wp2_with fail
   refine NM.out.mono ?_
   rintro e w6 (⟨hs,rfl,yA,zJ⟩ | ⟨hs,rfl,yA,zJ⟩)
   ·have E:Hid (zo d (l.drop p) cnt=.err 2):=by
     have h1:zj (l.drop p)=.error 2:=by rw[EH.out,if_pos (by rw[List.length_drop];have:=yk.out.2.2;omega)]
     rw[Hid,zY d (l.drop p) cnt (by have:=HC.out;omega) h1]
    have zA:Rdg 112 w H w6 H g (some ⟨b,off,none⟩) c l (p+1) (cnt+1):=yl.step zJ yA yk.out.2.2 (by have:=HC.out;omega);have yf:=yh.gr zJ (by omega);clear NM HD hs yl yh yA zJ EH;go_wp2_with (with_reducible refine zx ?_)
    refine stI yf fun wz hTy zU=>?_
    have zP:=zA.gb zQ (Nat.le_refl _) zC zU;go_wp2_with fail
    refine zv rfl rfl hTy rfl rfl zw rfl ?_
    exact ItemOut.err E.out rfl zP
   ·have zA:Rdg 112 w H w6 H g (some ⟨b,off,none⟩) c l (p+1+2) (cnt+1):=yl.step zJ yA hs (by have:=HC.out;omega);have yf:=yh.gr zJ (by omega);have xV:=xm ((l.drop (p+1)).take 2);have wy:((l.drop (p+1)).take 2).length=2:=by rw[List.length_take,List.length_drop];omega
    rw[wy]at xV
    simp only[Nat.reducePow]at xV
    obtain⟨n,hn⟩:∃ n,beN ((l.drop (p+1)).take 2)=n:=⟨_,rfl⟩
    have EH2:Hid (zj (l.drop p)=if(zm 0 n).length≠3 then .error 4 else .ok (ch.toNat,n,3)):=by
     rw[Hid,EH.out,if_neg (by rw[List.length_drop];omega),hn];have:=ny.out;have:=yk.out.2.1
     by_cases h:(zm 0 n).length=3 <;> simp[h] <;> omega
    have ug:=Hh (fun w=>HD.out n (by omega) w);rw[hn];have zK:(zm (1:Int).toNat (n:Int).toNat).length=(zm 0 n).length:=by rw[zh,zh];rfl
    obtain⟨fl,vu⟩:∃ fl,(zm 0 n).length=fl:=⟨_,rfl⟩
    rw[vu]at EH2 zK;have uM:=Hh zK;clear NM HD hs yl yh yA zJ EH hn wy xV vu zK;go_wp2_with fail
    refine(ug.out _).mono ?_
    rintro e w7 ⟨r,rfl,hf⟩
    have yG:=zA.below_ hf.2;have yL:=yf.below hf.2;obtain⟨RA,rc,rfl,_⟩:=hf.own.form;rw[uM.out];clear hf ug zA yf
    by_cases hq:fl=3
    ·subst hq;have EH3:Hid (zj (l.drop p)=.ok (ch.toNat,n,3)):=by rw[Hid,EH2.out,if_neg (by simp)]
     clear EH2;go_wp2_with fail
     go_meet
     exact⟨n,3,EH3.out,rfl,by rw[show p+3=p+1+2 by omega];exact yG,yL⟩
    ·have zq:((fl:Int)==3)=false:=by simp;omega
     have zq2:((fl:Int)=3)=False:=eq_false (by omega)
     have E:Hid (zo d (l.drop p) cnt=.err 4):=by
      have h1:zj (l.drop p)=.error 4:=by rw[EH2.out,if_pos hq]
      rw[Hid,zY d (l.drop p) cnt (by have:=HC.out;omega) h1]
     clear EH2 hq;go_wp2_with (with_reducible refine zx ?_)
     refine stI yL fun wz hTy zU=>?_
     have zP:=yG.gb zQ (Nat.le_refl _) zC zU;go_wp2_with fail
     refine zv rfl rfl hTy rfl rfl zw rfl ?_
     exact ItemOut.err E.out rfl zP
  ·have NM:=Hh (yD yl.psr 4 (by omega) (by omega));have HD:=Hh (fun n hn w=>yH 1 ((n:Nat):Int) w (by omega) (by omega) (by omega) hn)
   simp only[Nat.reduceSub,Nat.reducePow,Nat.reduceAdd]at EH
   clear hl24 z24 od z27 z27b KU;go_wp2_with fail
   refine NM.out.mono ?_
   rintro e w6 (⟨hs,rfl,yA,zJ⟩ | ⟨hs,rfl,yA,zJ⟩)
   ·have E:Hid (zo d (l.drop p) cnt=.err 2):=by
     have h1:zj (l.drop p)=.error 2:=by rw[EH.out,if_pos (by rw[List.length_drop];have:=yk.out.2.2;omega)]
     rw[Hid,zY d (l.drop p) cnt (by have:=HC.out;omega) h1]
    have zA:Rdg 112 w H w6 H g (some ⟨b,off,none⟩) c l (p+1) (cnt+1):=yl.step zJ yA yk.out.2.2 (by have:=HC.out;omega);have yf:=yh.gr zJ (by omega);clear NM HD hs yl yh yA zJ EH;go_wp2_with (with_reducible refine zx ?_)
    refine stI yf fun wz hTy zU=>?_
    have zP:=zA.gb zQ (Nat.le_refl _) zC zU;go_wp2_with fail
    refine zv rfl rfl hTy rfl rfl zw rfl ?_
    exact ItemOut.err E.out rfl zP
   ·have zA:Rdg 112 w H w6 H g (some ⟨b,off,none⟩) c l (p+1+4) (cnt+1):=yl.step zJ yA hs (by have:=HC.out;omega);have yf:=yh.gr zJ (by omega);have xV:=xm ((l.drop (p+1)).take 4);have wy:((l.drop (p+1)).take 4).length=4:=by rw[List.length_take,List.length_drop];omega
    rw[wy]at xV
    simp only[Nat.reducePow]at xV
    obtain⟨n,hn⟩:∃ n,beN ((l.drop (p+1)).take 4)=n:=⟨_,rfl⟩
    have EH2:Hid (zj (l.drop p)=if(zm 0 n).length≠5 then .error 4 else .ok (ch.toNat,n,5)):=by
     rw[Hid,EH.out,if_neg (by rw[List.length_drop];omega),hn];have:=ny.out;have:=yk.out.2.1
     by_cases h:(zm 0 n).length=5 <;> simp[h] <;> omega
    have ug:=Hh (fun w=>HD.out n (by omega) w);rw[hn];have zK:(zm (1:Int).toNat (n:Int).toNat).length=(zm 0 n).length:=by rw[zh,zh];rfl
    obtain⟨fl,vu⟩:∃ fl,(zm 0 n).length=fl:=⟨_,rfl⟩
    rw[vu]at EH2 zK;have uM:=Hh zK;clear NM HD hs yl yh yA zJ EH hn wy xV vu zK;go_wp2_with fail
    refine(ug.out _).mono ?_
    rintro e w7 ⟨r,rfl,hf⟩
    have yG:=zA.below_ hf.2;have yL:=yf.below hf.2;obtain⟨RA,rc,rfl,_⟩:=hf.own.form;rw[uM.out];clear hf ug zA yf
    by_cases hq:fl=5
    ·subst hq;have EH3:Hid (zj (l.drop p)=.ok (ch.toNat,n,5)):=by rw[Hid,EH2.out,if_neg (by simp)]
     clear EH2;go_wp2_with fail
     go_meet
     exact⟨n,5,EH3.out,rfl,by rw[show p+5=p+1+4 by omega];exact yG,yL⟩
    ·have zq:((fl:Int)==5)=false:=by simp;omega
     have zq2:((fl:Int)=5)=False:=eq_false (by omega)
     have E:Hid (zo d (l.drop p) cnt=.err 4):=by
      have h1:zj (l.drop p)=.error 4:=by rw[EH2.out,if_pos hq]
      rw[Hid,zY d (l.drop p) cnt (by have:=HC.out;omega) h1]
     clear EH2 hq;go_wp2_with (with_reducible refine zx ?_)
     refine stI yL fun wz hTy zU=>?_
     have zP:=yG.gb zQ (Nat.le_refl _) zC zU;go_wp2_with fail
     refine zv rfl rfl hTy rfl rfl zw rfl ?_
     exact ItemOut.err E.out rfl zP
  ·have NM:=Hh (yD yl.psr 8 (by omega) (by omega));have HD:=Hh (fun n hn w=>yH 1 ((n:Nat):Int) w (by omega) (by omega) (by omega) hn)
   simp only[Nat.reduceSub,Nat.reducePow,Nat.reduceAdd]at EH
   clear hl24 z24 od z27 z27b KU;go_wp2_with fail
   refine NM.out.mono ?_
   rintro e w6 (⟨hs,rfl,yA,zJ⟩ | ⟨hs,rfl,yA,zJ⟩)
   ·have E:Hid (zo d (l.drop p) cnt=.err 2):=by
     have h1:zj (l.drop p)=.error 2:=by rw[EH.out,if_pos (by rw[List.length_drop];have:=yk.out.2.2;omega)]
     rw[Hid,zY d (l.drop p) cnt (by have:=HC.out;omega) h1]
    have zA:Rdg 112 w H w6 H g (some ⟨b,off,none⟩) c l (p+1) (cnt+1):=yl.step zJ yA yk.out.2.2 (by have:=HC.out;omega);have yf:=yh.gr zJ (by omega);clear NM HD hs yl yh yA zJ EH;go_wp2_with (with_reducible refine zx ?_)
    refine stI yf fun wz hTy zU=>?_
    have zP:=zA.gb zQ (Nat.le_refl _) zC zU;go_wp2_with fail
    refine zv rfl rfl hTy rfl rfl zw rfl ?_
    exact ItemOut.err E.out rfl zP
   ·have zA:Rdg 112 w H w6 H g (some ⟨b,off,none⟩) c l (p+1+8) (cnt+1):=yl.step zJ yA hs (by have:=HC.out;omega);have yf:=yh.gr zJ (by omega);have xV:=xm ((l.drop (p+1)).take 8);have wy:((l.drop (p+1)).take 8).length=8:=by rw[List.length_take,List.length_drop];omega
    rw[wy]at xV
    simp only[Nat.reducePow]at xV
    obtain⟨n,hn⟩:∃ n,beN ((l.drop (p+1)).take 8)=n:=⟨_,rfl⟩
    have EH2:Hid (zj (l.drop p)=if(zm 0 n).length≠9 then .error 4 else .ok (ch.toNat,n,9)):=by
     rw[Hid,EH.out,if_neg (by rw[List.length_drop];omega),hn];have:=ny.out;have:=yk.out.2.1
     by_cases h:(zm 0 n).length=9 <;> simp[h] <;> omega
    have ug:=Hh (fun w=>HD.out n (by omega) w);rw[hn];have zK:(zm (1:Int).toNat (n:Int).toNat).length=(zm 0 n).length:=by rw[zh,zh];rfl
    obtain⟨fl,vu⟩:∃ fl,(zm 0 n).length=fl:=⟨_,rfl⟩
    rw[vu]at EH2 zK;have uM:=Hh zK;clear NM HD hs yl yh yA zJ EH hn wy xV vu zK;go_wp2_with fail
    refine(ug.out _).mono ?_
    rintro e w7 ⟨r,rfl,hf⟩
    have yG:=zA.below_ hf.2;have yL:=yf.below hf.2;obtain⟨RA,rc,rfl,_⟩:=hf.own.form;rw[uM.out];clear hf ug zA yf
    by_cases hq:fl=9
    ·subst hq;have EH3:Hid (zj (l.drop p)=.ok (ch.toNat,n,9)):=by rw[Hid,EH2.out,if_neg (by simp)]
     clear EH2;go_wp2_with fail
     go_meet
     exact⟨n,9,EH3.out,rfl,by rw[show p+9=p+1+8 by omega];exact yG,yL⟩
    ·have zq:((fl:Int)==9)=false:=by simp;omega
     have zq2:((fl:Int)=9)=False:=eq_false (by omega)
     have E:Hid (zo d (l.drop p) cnt=.err 4):=by
      have h1:zj (l.drop p)=.error 4:=by rw[EH2.out,if_pos hq]
      rw[Hid,zY d (l.drop p) cnt (by have:=HC.out;omega) h1]
     clear EH2 hq;go_wp2_with (with_reducible refine zx ?_)
     refine stI yL fun wz hTy zU=>?_
     have zP:=yG.gb zQ (Nat.le_refl _) zC zU;go_wp2_with fail
     refine zv rfl rfl hTy rfl rfl zw rfl ?_
     exact ItemOut.err E.out rfl zP
 case rest =>
  obtain⟨n,k,hh,rfl,wL,vN⟩:=hcut;have HF:=Hh (xY hh);have HH:=Hh hh;clear hh yl yh;have E:Hid (zo d (l.drop p) cnt=.ok (.mk 1 n [] []) k (cnt+1)):=by rw[Hid,pN d (l.drop p) cnt (by have:=HC.out;omega) HH.out (by have:=yk.out.2.1;omega),yk.out.2.1];rfl
  have TL:=Hh HF.out.n_lt;go_wp2_with (with_reducible refine zx ?_)
  refine stI vN fun wz hTy zU=>?_
  have zP:=wL.gb zQ (Nat.le_refl _) zC zU;go_wp2_with fail
  refine zv rfl rfl hTy rfl rfl zw rfl ?_
  exact ItemOut.ok (ja:=none) (jb:=0) (jc:=none) (jd:=0) E.out rfl zP (IsItem.plain _ 1 n (by omega) TL.out)
end
end Go.Proofs.YtnlinmoiakgedaaGreatDoor
