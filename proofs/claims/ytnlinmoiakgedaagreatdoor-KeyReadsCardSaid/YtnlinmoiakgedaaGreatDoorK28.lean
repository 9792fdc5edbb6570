/- squeezed. Walks: the reference's reader of i -/
import Derived.Test.YtnlinmoiakgedaaGreatDoorK26
set_option linter.unusedVariables false
set_option linter.unusedSimpArgs false
set_option maxRecDepth 100000
set_option maxHeartbeats 6400000
namespace Go.Proofs.YtnlinmoiakgedaaGreatDoor
open Go.RowKit
section
variable {d:Nat} {w:World} {H:Snap} {g:Nat} {A:Option Addr} {c:Nat} {l:List UInt8} {p cnt lv:Nat}
theorem fr (hTab:Tabs H) (hlv:lv+d=8) (hP:Psr 112 w g H A c l p cnt) (hc:cnt<256) (ut:p<l.length) {ch:UInt8}(rH:l[p]=ch) {low kd:Nat}(yQ:ch.toNat%32=low) (pX:ch.toNat/32=kd) (se:low≤27) (hk:kd=2):Calls Tryz.prog 79 #[.pointer (some ⟨g,0,none⟩),.int .i64 (lv:Int)] w (ItemOut 112 w H g A c l p (zo d (l.drop p) cnt)):=by
 have zC:=hP.gt;have xg:=(Rdg.refl hP).alloc zr;have xC:=Blk.new w 26 #[.int .i64 0,.int .u64 0,.slice none 0 0,.slice none 0 0];have zQ:H w.heap.size=none:=hP.holds.none_of_ge (Nat.le_refl _);have c2:=xg.psr.blk.cell 2 rfl;have ED:=uQ ut;rw[rH]at ED;subst hk
 have EH0:Hid (zj (l.drop p)=if 27<low then .error 3 else if low<24 then .ok (ch.toNat,low,1) else if(l.drop (p+1)).length<2 ^ (low-24) then .error 2
    else if ch.toNat/32<7∧(zm 0 (beN ((l.drop (p+1)).take (2 ^ (low-24))))).length≠1+2 ^ (low-24) then .error 4
    else .ok (ch.toNat,beN ((l.drop (p+1)).take (2 ^ (low-24))),1+2 ^ (low-24))):=by rw[Hid,ED,zj,yQ]
 have z27:¬ ((27:Int)<(low:Int)):=by omega
 have z27b:decide ((27:Int)<(low:Int))=false:=decide_eq_false z27;have mC:=Hh se;have Zi:=Hh hlv;have ny:Hid (2<7):=by rw[Hid];omega
 clear se ED;have z0:¬ (((l.length:Nat):Int)≤(p:Int)):=by omega
 have z0':decide (((l.length:Nat):Int)≤(p:Int))=false:=decide_eq_false z0;have jl:(p:Int)<(l.length:Int):=by omega
 have jk:(0:Int)≤(p:Int):=by omega
 have qT:=hP.small;have K1:IntKind.i64.wrap ((p:Int)+1)=(p:Int)+1:=IntWalk.i64_in _ (by omega);obtain⟨b,off,rfl,xy⟩:=hP.bytes.at_ (by omega);have KA:=oo ⟨ch.toNat,ch.toNat_lt⟩
 simp only at KA
 rw[yQ]at KA;have S:(ch.toNat:Int)/32=2:=by omega
 have Vc:=True.intro;have od:(low:Int)≤31:=by omega
 have rQ:=Hh xy;have yk:=Hh (And.intro yQ (And.intro pX ut));have e9:=Hh (show H.cell? ⟨b,off+p,none⟩=some (zD ch) by have h:=xy p ut;rw[rH]at h;exact h);clear xy yQ pX qT rH;have xi:¬ ((256:Int)≤(cnt:Int)):=by omega
 have xv:decide ((256:Int)≤(cnt:Int))=false:=decide_eq_false xi;have KC:IntKind.i64.wrap ((cnt:Int)+1)=(cnt:Int)+1:=IntWalk.i64_in _ (by omega);have HC:=Hh hc;clear hc;go_enter Tryz.func79,Tryz.ntmps79
 go_wp2_with (with_reducible refine zx ?_)
 refine zu rfl _ _ _ rfl rfl g 2 (.int .i64 ((cnt:Int)+1)) rfl rfl _ _ xg.psr.blk zE (by simp) rfl fun w2 yu yp=>?_
 have yv:Rdg 112 w H w2 H g _ c l p (cnt+1):=xg.step yp yu hP.le (by have:=HC.out;omega);have xD:=xC.gr yp (by omega);clear xg xC yu yp c2 KC xi xv;have o9:=yv.psr.le;have a0:=yv.psr.blk.cell 0 rfl;have a1:=yv.psr.blk.cell 1 rfl;go_wp2_with fail
 go_big_quiet (fail)
 have uB:=yv.drewN nq;have u9:Blk (w2.drewN nq) w.heap.size 26 #[.int .i64 0,.int .u64 0,.slice none 0 0,.slice none 0 0]:=xD
 generalize w2.drewN nq=w3 at uB u9⊢
 obtain⟨yF,xM⟩:=And.intro uB u9;clear uB u9 yv xD a0 a1 o9;have a0:=yF.psr.blk.cell 0 rfl;have a1:=yF.psr.blk.cell 1 rfl;have q0:=yF.psr.holds.cell e9.out;go_upto_region 6 with fail
 go_big_quiet (fail)
 have vD:=yF.drewN nq;have vC:Blk (w3.drewN nq) w.heap.size 26 #[.int .i64 0,.int .u64 0,.slice none 0 0,.slice none 0 0]:=xM
 generalize w3.drewN nq=w4 at vD vC⊢
 obtain⟨xR,xG⟩:=And.intro vD vC;clear vD vC yF xM a0 a1 q0;have a1:=xR.psr.blk.cell 1 rfl;go_wp2_with (with_reducible refine zx ?_)
 refine zu rfl _ _ _ rfl rfl g 1 (.int .i64 ((p:Int)+1)) rfl rfl _ _ xR.psr.blk zE (by simp) rfl fun w5 uh xH=>?_
 have yl:Rdg 112 w H w5 H g (some ⟨b,off,none⟩) c l (p+1) (cnt+1):=xR.step xH uh yk.out.2.2 (by have:=HC.out;omega);have yh:=xG.gr xH (by omega);clear xR xG uh xH a1 K1 z0 z0' jl jk KA S;go_upto_region 12 with fail
 have KU:IntKind.u64.wrap (low:Int)=(low:Int):=by rw[IntKind.wrap_u64];omega
 go_upto_if 80 with fail
 go_cut [8] (fun s8 wx=>∃ n k:Nat,zj (l.drop p)=.ok (ch.toNat,n,k)∧s8=.int .u64 (n:Int)∧Rdg 112 w H wx H g (some ⟨b,off,none⟩) c l (p+k) (cnt+1)∧Blk wx w.heap.size 26 #[.int .i64 0,.int .u64 0,.slice none 0 0,.slice none 0 0])
 case first =>
  by_cases hl24:low<24
  ·have z24:¬ ((23:Int)<(low:Int)):=by omega
   have z24b:decide ((23:Int)<(low:Int))=false:=decide_eq_false z24;have EH:Hid (zj (l.drop p)=.ok (ch.toNat,low,1)):=by rw[Hid,EH0.out,if_neg (by have:=mC.out;omega),if_pos hl24]
   clear hl24;go_wp2_with fail
   go_meet
   exact⟨low,1,EH.out,rfl,yl,yh⟩
  have z24:(23:Int)<(low:Int):=by omega
  have EH:Hid (zj (l.drop p)=if(l.drop (p+1)).length<2 ^ (low-24) then .error 2
    else if ch.toNat/32<7∧(zm 0 (beN ((l.drop (p+1)).take (2 ^ (low-24))))).length≠1+2 ^ (low-24) then .error 4
    else .ok (ch.toNat,beN ((l.drop (p+1)).take (2 ^ (low-24))),1+2 ^ (low-24))):=by rw[Hid,EH0.out,if_neg (by have:=mC.out;omega),if_neg hl24]
  clear EH0
  rcases(by have:=mC.out;omega:low=24∨low=25∨low=26∨low=27) with rfl | rfl | rfl | rfl
  ·have NM:=Hh (yD yl.psr 1 (by omega) (by omega));have HD:=Hh (fun n hn w=>yH 2 ((n:Nat):Int) w (by omega) (by omega) (by omega) hn)
   simp only[Nat.reduceSub,Nat.reducePow,Nat.reduceAdd]at EH
   clear hl24 z24 od z27 z27b KU;go_wp2_with fail
   refine NM.out.mono ?_
   rintro e w6 (⟨hs,rfl,yA,zJ⟩ | ⟨hs,rfl,yA,zJ⟩)
   ·have E:Hid (zo d (l.drop p) cnt=.err 2):=by
     have h1:zj (l.drop p)=.error 2:=by rw[EH.out,if_pos (by rw[List.length_drop];have:=yk.out.2.2;omega)]
     rw[Hid,zY d (l.drop p) cnt (by have:=HC.out;omega) h1]
    have zA:Rdg 112 w H w6 H g (some ⟨b,off,none⟩) c l (p+1) (cnt+1):=yl.step zJ yA yk.out.2.2 (by have:=HC.out;omega);have yf:=yh.gr zJ (by omega);clear NM HD hs yl yh yA zJ EH;go_wp2_with (with_reducible refine zx ?_)
    refine stI yf fun wz hTy zU=>?_
    have zP:=zA.gb zQ (Nat.le_refl _) zC zU;go_wp2_with fail
    refine zv rfl rfl hTy rfl rfl zw rfl ?_
    exact ItemOut.err E.out rfl zP
   ·have zA:Rdg 112 w H w6 H g (some ⟨b,off,none⟩) c l (p+1+1) (cnt+1):=yl.step zJ yA hs (by have:=HC.out;omega);have yf:=yh.gr zJ (by omega);have xV:=xm ((l.drop (p+1)).take 1);have wy:((l.drop (p+1)).take 1).length=1:=by rw[List.length_take,List.length_drop];omega
    rw[wy]at xV
    simp only[Nat.reducePow]at xV
    obtain⟨n,hn⟩:∃ n,beN ((l.drop (p+1)).take 1)=n:=⟨_,rfl⟩
    have EH2:Hid (zj (l.drop p)=if(zm 0 n).length≠2 then .error 4 else .ok (ch.toNat,n,2)):=by
     rw[Hid,EH.out,if_neg (by rw[List.length_drop];omega),hn];have:=ny.out;have:=yk.out.2.1
     by_cases h:(zm 0 n).length=2 <;> simp[h] <;> omega
    have ug:=Hh (fun w=>HD.out n (by omega) w);rw[hn];have zK:(zm (2:Int).toNat (n:Int).toNat).length=(zm 0 n).length:=by rw[zh,zh];rfl
    obtain⟨fl,vu⟩:∃ fl,(zm 0 n).length=fl:=⟨_,rfl⟩
    rw[vu]at EH2 zK;have uM:=Hh zK;clear NM HD hs yl yh yA zJ EH hn wy xV vu zK;go_wp2_with fail
    refine(ug.out _).mono ?_
    rintro e w7 ⟨r,rfl,hf⟩
    have yG:=zA.below_ hf.2;have yL:=yf.below hf.2;obtain⟨RA,rc,rfl,_⟩:=hf.own.form;rw[uM.out];clear hf ug zA yf
    by_cases hq:fl=2
    ·subst hq;have EH3:Hid (zj (l.drop p)=.ok (ch.toNat,n,2)):=by rw[Hid,EH2.out,if_neg (by simp)]
     clear EH2;go_wp2_with fail
     go_meet
     exact⟨n,2,EH3.out,rfl,by rw[show p+2=p+1+1 by omega];exact yG,yL⟩
    ·have zq:((fl:Int)==2)=false:=by simp;omega
     have zq2:((fl:Int)=2)=False:=eq_false (by omega)
     have E:Hid (zo d (l.drop p) cnt=.err 4):=by
      have h1:zj (l.drop p)=.error 4:=by rw[EH2.out,if_pos hq]
      rw[Hid,zY d (l.drop p) cnt (by have:=HC.out;omega) h1]
     clear EH2 hq;go_wp2_with (with_reducible refine zx ?_)
     refine stI yL fun wz hTy zU=>?_
     have zP:=yG.gb zQ (Nat.le_refl _) zC zU;go_wp2_with fail
     refine zv rfl rfl hTy rfl rfl zw rfl ?_
     exact ItemOut.err E.out rfl zP
  ·have NM:=Hh (yD yl.psr 2 (by omega) (by omega));have HD:=Hh (fun n hn w=>yH 2 ((n:Nat):Int) w (by omega) (by omega) (by omega) hn)
   simp only[Nat.reduceSub,Nat.reducePow,Nat.reduceAdd]at EH
   clear hl24 z24 od z27 z27b KU;go_wp2_with fail
   refine NM.out.mono ?_
   rintro e w6 (⟨hs,rfl,yA,zJ⟩ | ⟨hs,rfl,yA,zJ⟩)
   ·have E:Hid (zo d (l.drop p) cnt=.err 2):=by
     have h1:zj (l.drop p)=.error 2:=by rw[EH.out,if_pos (by rw[List.length_drop];have:=yk.out.2.2;omega)]
     rw[Hid,zY d (l.drop p) cnt (by have:=HC.out;omega) h1]
    have zA:Rdg 112 w H w6 H g (some ⟨b,off,none⟩) c l (p+1) (cnt+1):=yl.step zJ yA yk.out.2.2 (by have:=HC.out;omega);have yf:=yh.gr zJ (by omega);clear NM HD hs yl yh yA zJ EH;go_wp2_with (with_reducible refine zx ?_)
    refine stI yf fun wz hTy zU=>?_
    have zP:=zA.gb zQ (Nat.le_refl _) zC zU;go_wp2_with fail
    refine zv rfl rfl hTy rfl rfl zw rfl ?_
    exact ItemOut.err E.out rfl zP
   ·have zA:Rdg 112 w H w6 H g (some ⟨b,off,none⟩) c l (p+1+2) (cnt+1):=yl.step zJ yA hs (by have:=HC.out;omega);have yf:=yh.gr zJ (by omega);have xV:=xm ((l.drop (p+1)).take 2);have wy:((l.drop (p+1)).take 2).length=2:=by rw[List.length_take,List.length_drop];omega
    rw[wy]at xV
    simp only[Nat.reducePow]at xV
    obtain⟨n,hn⟩:∃ n,beN ((l.drop (p+1)).take 2)=n:=⟨_,rfl⟩
    have EH2:Hid (zj (l.drop p)=if(zm 0 n).length≠3 then .error 4 else .ok (ch.toNat,n,3)):=by
     rw[Hid,EH.out,if_neg (by rw[List.length_drop];omega),hn];have:=ny.out;have:=yk.out.2.1
     by_cases h:(zm 0 n).length=3 <;> simp[h] <;> omega
    have ug:=Hh (fun w=>HD.out n (by omega) w);rw[hn];have zK:(zm (2:Int).toNat (n:Int).toNat).length=(zm 0 n).length:=by rw[zh,zh];rfl
    obtain⟨fl,vu⟩:∃ fl,(zm 0 n).length=fl:=⟨_,rfl⟩
    rw[vu]at EH2 zK;have uM:=Hh zK;clear NM HD hs yl yh yA zJ EH hn wy xV vu zK;go_wp2_with fail
    refine(ug.out _).mono ?_
    rintro e w7 ⟨r,rfl,hf⟩
    have yG:=zA.below_ hf.2;have yL:=yf.below hf.2;obtain⟨RA,rc,rfl,_⟩:=hf.own.form;rw[uM.out];clear hf ug zA yf
    by_cases hq:fl=3
    ·subst hq;have EH3:Hid (zj (l.drop p)=.ok (ch.toNat,n,3)):=by rw[Hid,EH2.out,if_neg (by simp)]
     clear EH2;go_wp2_with fail
     go_meet
     exact⟨n,3,EH3.out,rfl,by rw[show p+3=p+1+2 by omega];exact yG,yL⟩
    ·have zq:((fl:Int)==3)=false:=by simp;omega
     have zq2:((fl:Int)=3)=False:=eq_false (by omega)
     have E:Hid (zo d (l.drop p) cnt=.err 4):=by
      have h1:zj (l.drop p)=.error 4:=by rw[EH2.out,if_pos hq]
      rw[Hid,zY d (l.drop p) cnt (by have:=HC.out;omega) h1]
     clear EH2 hq;go_wp2_with (with_reducible refine zx ?_)
     refine stI yL fun wz hTy zU=>?_
     have zP:=yG.gb zQ (Nat.le_refl _) zC zU;go_wp2_with fail
     refine zv rfl rfl hTy rfl rfl zw rfl ?_
     exact ItemOut.err E.out rfl zP
  ·have NM:=Hh (yD yl.psr 4 (by omega) (by omega));have HD:=Hh (fun n hn w=>yH 2 ((n:Nat):Int) w (by omega) (by omega) (by omega) hn)
   simp only[Nat.reduceSub,Nat.reducePow,Nat.reduceAdd]at EH
   clear hl24 z24 od z27 z27b KU;go_wp2_with fail
   refine NM.out.mono ?_
   rintro e w6 (⟨hs,rfl,yA,zJ⟩ | ⟨hs,rfl,yA,zJ⟩)
   ·have E:Hid (zo d (l.drop p) cnt=.err 2):=by
     have h1:zj (l.drop p)=.error 2:=by rw[EH.out,if_pos (by rw[List.length_drop];have:=yk.out.2.2;omega)]
     rw[Hid,zY d (l.drop p) cnt (by have:=HC.out;omega) h1]
    have zA:Rdg 112 w H w6 H g (some ⟨b,off,none⟩) c l (p+1) (cnt+1):=yl.step zJ yA yk.out.2.2 (by have:=HC.out;omega);have yf:=yh.gr zJ (by omega);clear NM HD hs yl yh yA zJ EH;go_wp2_with (with_reducible refine zx ?_)
    refine stI yf fun wz hTy zU=>?_
    have zP:=zA.gb zQ (Nat.le_refl _) zC zU;go_wp2_with fail
    refine zv rfl rfl hTy rfl rfl zw rfl ?_
    exact ItemOut.err E.out rfl zP
   ·have zA:Rdg 112 w H w6 H g (some ⟨b,off,none⟩) c l (p+1+4) (cnt+1):=yl.step zJ yA hs (by have:=HC.out;omega);have yf:=yh.gr zJ (by omega);have xV:=xm ((l.drop (p+1)).take 4);have wy:((l.drop (p+1)).take 4).length=4:=by rw[List.length_take,List.length_drop];omega
    rw[wy]at xV
    simp only[Nat.reducePow]at xV
    obtain⟨n,hn⟩:∃ n,beN ((l.drop (p+1)).take 4)=n:=⟨_,rfl⟩
    have EH2:Hid (zj (l.drop p)=if(zm 0 n).length≠5 then .error 4 else .ok (ch.toNat,n,5)):=by
     rw[Hid,EH.out,if_neg (by rw[List.length_drop];omega),hn];have:=ny.out;have:=yk.out.2.1
     by_cases h:(zm 0 n).length=5 <;> simp[h] <;> omega
    have ug:=Hh (fun w=>HD.out n (by omega) w);rw[hn];have zK:(zm (2:Int).toNat (n:Int).toNat).length=(zm 0 n).length:=by rw[zh,zh];rfl
    obtain⟨fl,vu⟩:∃ fl,(zm 0 n).length=fl:=⟨_,rfl⟩
    rw[vu]at EH2 zK;have uM:=Hh zK;clear NM HD hs yl yh yA zJ EH hn wy xV vu zK;go_wp2_with fail
    refine(ug.out _).mono ?_
    rintro e w7 ⟨r,rfl,hf⟩
    have yG:=zA.below_ hf.2;have yL:=yf.below hf.2;obtain⟨RA,rc,rfl,_⟩:=hf.own.form;rw[uM.out];clear hf ug zA yf
    by_cases hq:fl=5
    ·subst hq;have EH3:Hid (zj (l.drop p)=.ok (ch.toNat,n,5)):=by rw[Hid,EH2.out,if_neg (by simp)]
     clear EH2;go_wp2_with fail
     go_meet
     exact⟨n,5,EH3.out,rfl,by rw[show p+5=p+1+4 by omega];exact yG,yL⟩
    ·have zq:((fl:Int)==5)=false:=by simp;omega
     have zq2:((fl:Int)=5)=False:=eq_false (by omega)
     have E:Hid (zo d (l.drop p) cnt=.err 4):=by
      have h1:zj (l.drop p)=.error 4:=by rw[EH2.out,if_pos hq]
      rw[Hid,zY d (l.drop p) cnt (by have:=HC.out;omega) h1]
     clear EH2 hq;go_wp2_with (with_reducible refine zx ?_)
     refine stI yL fun wz hTy zU=>?_
     have zP:=yG.gb zQ (Nat.le_refl _) zC zU;go_wp2_with fail
     refine zv rfl rfl hTy rfl rfl zw rfl ?_
     exact ItemOut.err E.out rfl zP
  ·have NM:=Hh (yD yl.psr 8 (by omega) (by omega));have HD:=Hh (fun n hn w=>yH 2 ((n:Nat):Int) w (by omega) (by omega) (by omega) hn)
   simp only[Nat.reduceSub,Nat.reducePow,Nat.reduceAdd]at EH
   clear hl24 z24 od z27 z27b KU;go_wp2_with fail
   refine NM.out.mono ?_
   rintro e w6 (⟨hs,rfl,yA,zJ⟩ | ⟨hs,rfl,yA,zJ⟩)
   ·have E:Hid (zo d (l.drop p) cnt=.err 2):=by
     have h1:zj (l.drop p)=.error 2:=by rw[EH.out,if_pos (by rw[List.length_drop];have:=yk.out.2.2;omega)]
     rw[Hid,zY d (l.drop p) cnt (by have:=HC.out;omega) h1]
    have zA:Rdg 112 w H w6 H g (some ⟨b,off,none⟩) c l (p+1) (cnt+1):=yl.step zJ yA yk.out.2.2 (by have:=HC.out;omega);have yf:=yh.gr zJ (by omega);clear NM HD hs yl yh yA zJ EH;go_wp2_with (with_reducible refine zx ?_)
    refine stI yf fun wz hTy zU=>?_
    have zP:=zA.gb zQ (Nat.le_refl _) zC zU;go_wp2_with fail
    refine zv rfl rfl hTy rfl rfl zw rfl ?_
    exact ItemOut.err E.out rfl zP
   ·have zA:Rdg 112 w H w6 H g (some ⟨b,off,none⟩) c l (p+1+8) (cnt+1):=yl.step zJ yA hs (by have:=HC.out;omega);have yf:=yh.gr zJ (by omega);have xV:=xm ((l.drop (p+1)).take 8);have wy:((l.drop (p+1)).take 8).length=8:=by rw[List.length_take,List.length_drop];omega
    rw[wy]at xV
    simp only[Nat.reducePow]at xV
    obtain⟨n,hn⟩:∃ n,beN ((l.drop (p+1)).take 8)=n:=⟨_,rfl⟩
    have EH2:Hid (zj (l.drop p)=if(zm 0 n).length≠9 then .error 4 else .ok (ch.toNat,n,9)):=by
     rw[Hid,EH.out,if_neg (by rw[List.length_drop];omega),hn];have:=ny.out;have:=yk.out.2.1
     by_cases h:(zm 0 n).length=9 <;> simp[h] <;> omega
    have ug:=Hh (fun w=>HD.out n (by omega) w);rw[hn];have zK:(zm (2:Int).toNat (n:Int).toNat).length=(zm 0 n).length:=by rw[zh,zh];rfl
    obtain⟨fl,vu⟩:∃ fl,(zm 0 n).length=fl:=⟨_,rfl⟩
    rw[vu]at EH2 zK;have uM:=Hh zK;clear NM HD hs yl yh yA zJ EH hn wy xV vu zK;go_wp2_with fail
    refine(ug.out _).mono ?_
    rintro e w7 ⟨r,rfl,hf⟩
    have yG:=zA.below_ hf.2;have yL:=yf.below hf.2;obtain⟨RA,rc,rfl,_⟩:=hf.own.form;rw[uM.out];clear hf ug zA yf
    by_cases hq:fl=9
    ·subst hq;have EH3:Hid (zj (l.drop p)=.ok (ch.toNat,n,9)):=by rw[Hid,EH2.out,if_neg (by simp)]
     clear EH2;go_wp2_with fail
     go_meet
     exact⟨n,9,EH3.out,rfl,by rw[show p+9=p+1+8 by omega];exact yG,yL⟩
    ·have zq:((fl:Int)==9)=false:=by simp;omega
     have zq2:((fl:Int)=9)=False:=eq_false (by omega)
     have E:Hid (zo d (l.drop p) cnt=.err 4):=by
      have h1:zj (l.drop p)=.error 4:=by rw[EH2.out,if_pos hq]
      rw[Hid,zY d (l.drop p) cnt (by have:=HC.out;omega) h1]
     clear EH2 hq;go_wp2_with (with_reducible refine zx ?_)
     refine stI yL fun wz hTy zU=>?_
     have zP:=yG.gb zQ (Nat.le_refl _) zC zU;go_wp2_with fail
     refine zv rfl rfl hTy rfl rfl zw rfl ?_
     exact ItemOut.err E.out rfl zP
 case rest =>
  obtain⟨n,k,hh,rfl,wL,vN⟩:=hcut;have HF:=Hh (xY hh);have HH:=Hh hh;clear hh yl yh
  have E0:Hid (zo d (l.drop p) cnt=(if(l.drop p).length<k+n then .err 2 else if 2=3∧Lib.validD (((l.drop p).drop k).take n)=false then .err 5 else .ok (.mk 2 0 (((l.drop p).drop k).take n) []) (k+n) (cnt+1))):=by
   rw[Hid,pO d (l.drop p) cnt (by have:=HC.out;omega) HH.out (by have:=yk.out.2.1;omega) (by have:=yk.out.2.1;omega),yk.out.2.1];first | rfl | (simp only[true_and];first | done | rfl) | simp
  have qT:=wL.psr.small;have q8:=wL.psr.bytes.le;have pA:=wL.psr.bytes.max;have tA:=wL.psr.le;have wy:=HF.out.n_lt;have bB:(l.drop p).length=l.length-p:=List.length_drop;obtain⟨P,iT⟩:∃ P,p+k=P:=⟨_,rfl⟩
  obtain⟨s,lU⟩:∃ s,((l.drop p).drop k).take n=s:=⟨_,rfl⟩
  rw[lU]at E0;rw[List.drop_drop,iT]at lU;rw[iT]at wL tA;have K1:IntKind.i64.wrap ((l.length:Int)-(P:Int))=(l.length:Int)-(P:Int):=IntWalk.i64_in _ (by omega);have K2:IntKind.u64.wrap ((l.length:Int)-(P:Int))=(l.length:Int)-(P:Int):=by rw[IntKind.wrap_u64];omega
  have a0:=wL.psr.blk.cell 0 rfl;have a1:=wL.psr.blk.cell 1 rfl;have Pd:(P:Int)≤(l.length:Int):=by omega
  have lp:(l.length:Int)≤4096:=by omega
  by_cases yi:l.length<P+n
  ·have z0:(l.length:Int)-(P:Int)<(n:Int):=by omega
   have E:Hid (zo d (l.drop p) cnt=.err 2):=by rw[Hid,E0.out,if_pos (by have:=yk.out.2.2;omega)]
   clear qT q8 pA wy bB iT lU E0 yi tA;go_wp2_with fail
   go_big_quiet (fail)
   have uC:=wL.drewN nq;have ui:Blk (wc.drewN nq) w.heap.size 26 #[.int .i64 0,.int .u64 0,.slice none 0 0,.slice none 0 0]:=vN;go_wp2_with (with_reducible refine zx ?_)
   refine stI ui fun wz hTy zU=>?_
   have zP:=uC.gb zQ (Nat.le_refl _) zC zU;go_wp2_with fail
   refine zv rfl rfl hTy rfl rfl zw rfl ?_
   exact ItemOut.err E.out rfl zP
  ·have z0:¬ ((l.length:Int)-(P:Int)<(n:Int)):=by omega
   have z0b:decide ((l.length:Int)-(P:Int)<(n:Int))=false:=decide_eq_false z0;have E1:Hid (zo d (l.drop p) cnt=(if 2=3∧Lib.validD s=false then .err 5 else .ok (.mk 2 0 s []) (k+n) (cnt+1))):=by rw[Hid,E0.out,if_neg (by have:=yk.out.2.2;omega)];try simp
   have Zf:n=s.length:=by rw[← lU,List.length_take,List.length_drop];omega
   have lJ:=Hh Zf;clear Zf;have KN:IntKind.i64.wrap (n:Int)=(n:Int):=IntWalk.i64_in _ (by omega);have KP:IntKind.i64.wrap ((P:Int)+(n:Int))=(P:Int)+(n:Int):=IntWalk.i64_in _ (by omega);have kt:((P:Int)+(n:Int)).toNat=P+n:=by omega
   have y0:(0:Int)≤(P:Int)+(n:Int):=by omega
   have y5:P≤P+n:=by omega
   have y6:P+n-P=n:=by omega
   have y1:(P:Int)≤(P:Int)+(n:Int):=by omega
   have y2:(P:Int)+(n:Int)≤(c:Int):=by omega
   have y3:(P:Int)≤(c:Int):=by omega
   have y4:(0:Int)≤(P:Int):=by omega
   have HK:=Hh (And.intro qT (And.intro q8 (And.intro pA iT)));go_wp2_with fail
   go_big_quiet (fail)
   have lC:=wL.drewN nq;have kz:Blk (wc.drewN nq) w.heap.size 26 #[.int .i64 0,.int .u64 0,.slice none 0 0,.slice none 0 0]:=vN
   generalize wc.drewN nq=w9 at lC kz⊢
   obtain⟨uC,ui⟩:=And.intro lC kz;clear lC kz wL vN a0 a1 E0 z0 z0b;have oP:∀ j (hj:j<l.length),w9.cell? ⟨b,off+j,none⟩=some (zD l[j]):=fun j hj=>uC.psr.holds.cell (rQ.out j hj)
   have a0:=uC.psr.blk.cell 0 rfl;have a1:=uC.psr.blk.cell 1 rfl
   by_cases jZ:c=P
   ·have du:P=c:=jZ.symm;subst du;clear jZ;have HS:=Hh (show Src w9.drew (some ⟨b,off,none⟩) (s.map zD) by have hz:s=[]:=List.eq_nil_of_length_eq_zero (by have:=lJ.out;omega);rw[hz];exact Src.nil _ _);have qr:Rdg 112 w H w9.drew H g (some ⟨b,off,none⟩) P l P (cnt+1):=uC.drewN 1;have oU:Blk w9.drew w.heap.size 26 #[.int .i64 0,.int .u64 0,.slice none 0 0,.slice none 0 0]:=ui;clear uC ui oP;go_upto_region 28 with fail
    refine zf 17 (fun w'=>w'.cell? ⟨g,0,none⟩=some (.slice (some ⟨b,off,none⟩) l.length P)∧w'.cell? ⟨g,1,none⟩=some (.int .i64 (P:Int))) (by kernel_rfl) (⟨a0,a1⟩) (fun zy=>?_)
    refine Tk 0 rfl zy ?_
    refine Tk 1 rfl zy ?_
    refine Tk 2 rfl zy ?_
    refine Tk 3 rfl zy ?_
    refine Tk 4 rfl zy ?_
    refine Tk 5 rfl zy ?_
    refine Tk 6 rfl zy ?_
    refine Tk 7 rfl zy ?_
    refine Tk 8 rfl zy ?_
    refine Tk 9 rfl zy ?_
    refine Tk 10 rfl zy ?_
    refine Tk 11 rfl zy ?_
    refine Tk 12 rfl zy ?_
    refine Tk 13 rfl zy ?_
    refine Tk 14 rfl zy ?_
    refine Tk 15 rfl zy ?_
    refine To 16 rfl fun K hK=>?_
    refine yS (.const (.slice none 0 0)) (.tmp 144) rfl w9.drew.heap.size (.slice none 0 0) [] rfl (OwnB.nil _ _) (some ⟨b,off,none⟩) n _ s rfl lJ.out HS.out (by have:=lJ.out;simp;omega) (Nat.le_refl _) fun v' w10 hO hg nz=>?_
    rw[List.nil_append]at hO;have vx:=yo (by simpa [Value.ownBlock] using hg);have lE:Fresh w9.drew s v' w10:=⟨hO,vx⟩
    obtain⟨RA,rc,rfl,_⟩:=hO.form;have um:=qr.below_ vx;go_simp
    refine hK.out _ _ (fun _=>?_) (fun zy=>?_)
    ·exact⟨um.psr.blk.cell 0 rfl,um.psr.blk.cell 1 rfl⟩
    clear hK K;have zy:=zy (by decide)
    try simp only[Act.put,zz1,zz2,zz3,zz4,zz5,zz6]
    refine To 17 rfl fun K hK=>?_
    go_simp
    refine hK.out _ _ (fun h=>absurd rfl h) (fun _=>?_)
    clear hK K
    try simp only[Act.put,zz1,zz2,zz3,zz4,zz5,zz6]
    refine Ways.done (by kernel_rfl) ?_
    clear zy a0 a1 hO hg nz HS;have uS:=oU.below vx;obtain⟨H6,zJ,qI,_⟩:=Fresh.snapB qr.psr.holds lE;have zA:=qr.grown zJ;have td:=zJ.none zQ oU.lt;clear um lE qr oU vx;have a1:=zA.psr.blk.cell 1 rfl;go_wp2_with (with_reducible refine zx ?_)
    refine zu rfl _ _ _ rfl rfl g 1 (.int .i64 ((P:Int)+(n:Int))) rfl rfl _ _ zA.psr.blk zE (by simp) rfl fun w7 rj wP=>?_
    have yG:Rdg 112 w H w7 H6 g (some ⟨b,off,none⟩) P l (P+n) (cnt+1):=zA.step wP rj (by omega) (by have:=HC.out;omega);have yL:=uS.gr wP (by omega);have sa:=td;clear zA uS rj wP a1;have E:Hid (zo d (l.drop p) cnt=.ok (.mk 2 0 s []) (k+n) (cnt+1)):=by rw[Hid,E1.out,if_neg (fun h=>absurd h.1 (by omega))]
    have IB:=qI;clear E1;go_wp2_with (with_reducible refine zx ?_)
    refine stI yL fun wz hTy zU=>?_
    have zP:=yG.gb sa (Nat.le_refl _) zC zU;go_wp2_with fail
    refine zv rfl rfl hTy rfl rfl zw rfl ?_
    exact ItemOut.ok E.out rfl (by rw[← Nat.add_assoc,HK.out.2.2.2];exact zP) (IsItem.str 2 (by omega) IB)
   ·have UP:(c=P)=False:=eq_false jZ;have HS:=Hh (show Src w9.drew (some ⟨b,off+P,none⟩) (s.map zD) by have hq:=rt (w:=w9.drew) (n:=n) oP P (some ⟨b,off+P,none⟩) (fun _=>rfl) (by omega);rw[lU]at hq;exact hq);have qr:Rdg 112 w H w9.drew H g (some ⟨b,off,none⟩) c l P (cnt+1):=uC.drewN 1;have oU:Blk w9.drew w.heap.size 26 #[.int .i64 0,.int .u64 0,.slice none 0 0,.slice none 0 0]:=ui;clear uC ui oP;go_upto_region 28 with fail
    refine zf 17 (fun w'=>w'.cell? ⟨g,0,none⟩=some (.slice (some ⟨b,off,none⟩) l.length c)∧w'.cell? ⟨g,1,none⟩=some (.int .i64 (P:Int))) (by kernel_rfl) (⟨a0,a1⟩) (fun zy=>?_)
    refine Tk 0 rfl zy ?_
    refine Tk 1 rfl zy ?_
    refine Tk 2 rfl zy ?_
    refine Tk 3 rfl zy ?_
    refine Tk 4 rfl zy ?_
    refine Tk 5 rfl zy ?_
    refine Tk 6 rfl zy ?_
    refine Tk 7 rfl zy ?_
    refine Tk 8 rfl zy ?_
    refine Tk 9 rfl zy ?_
    refine Tk 10 rfl zy ?_
    refine Tk 11 rfl zy ?_
    refine Tk 12 rfl zy ?_
    refine Tk 13 rfl zy ?_
    refine Tk 14 rfl zy ?_
    refine Tk 15 rfl zy ?_
    refine To 16 rfl fun K hK=>?_
    refine yS (.const (.slice none 0 0)) (.tmp 144) rfl w9.drew.heap.size (.slice none 0 0) [] rfl (OwnB.nil _ _) (some ⟨b,off+P,none⟩) n _ s rfl lJ.out HS.out (by have:=lJ.out;simp;omega) (Nat.le_refl _) fun v' w10 hO hg nz=>?_
    rw[List.nil_append]at hO;have vx:=yo (by simpa [Value.ownBlock] using hg);have lE:Fresh w9.drew s v' w10:=⟨hO,vx⟩
    obtain⟨RA,rc,rfl,_⟩:=hO.form;have um:=qr.below_ vx;go_simp
    refine hK.out _ _ (fun _=>?_) (fun zy=>?_)
    ·exact⟨um.psr.blk.cell 0 rfl,um.psr.blk.cell 1 rfl⟩
    clear hK K;have zy:=zy (by decide)
    try simp only[Act.put,zz1,zz2,zz3,zz4,zz5,zz6]
    refine To 17 rfl fun K hK=>?_
    go_simp
    refine hK.out _ _ (fun h=>absurd rfl h) (fun _=>?_)
    clear hK K
    try simp only[Act.put,zz1,zz2,zz3,zz4,zz5,zz6]
    refine Ways.done (by kernel_rfl) ?_
    clear zy a0 a1 hO hg nz HS;have uS:=oU.below vx;obtain⟨H6,zJ,qI,_⟩:=Fresh.snapB qr.psr.holds lE;have zA:=qr.grown zJ;have td:=zJ.none zQ oU.lt;clear um lE qr oU vx;have a1:=zA.psr.blk.cell 1 rfl;go_wp2_with (with_reducible refine zx ?_)
    refine zu rfl _ _ _ rfl rfl g 1 (.int .i64 ((P:Int)+(n:Int))) rfl rfl _ _ zA.psr.blk zE (by simp) rfl fun w7 rj wP=>?_
    have yG:Rdg 112 w H w7 H6 g (some ⟨b,off,none⟩) c l (P+n) (cnt+1):=zA.step wP rj (by omega) (by have:=HC.out;omega);have yL:=uS.gr wP (by omega);have sa:=td;clear zA uS rj wP a1;have E:Hid (zo d (l.drop p) cnt=.ok (.mk 2 0 s []) (k+n) (cnt+1)):=by rw[Hid,E1.out,if_neg (fun h=>absurd h.1 (by omega))]
    have IB:=qI;clear E1;go_wp2_with (with_reducible refine zx ?_)
    refine stI yL fun wz hTy zU=>?_
    have zP:=yG.gb sa (Nat.le_refl _) zC zU;go_wp2_with fail
    refine zv rfl rfl hTy rfl rfl zw rfl ?_
    exact ItemOut.ok E.out rfl (by rw[← Nat.add_assoc,HK.out.2.2.2];exact zP) (IsItem.str 2 (by omega) IB)
end
end Go.Proofs.YtnlinmoiakgedaaGreatDoor
