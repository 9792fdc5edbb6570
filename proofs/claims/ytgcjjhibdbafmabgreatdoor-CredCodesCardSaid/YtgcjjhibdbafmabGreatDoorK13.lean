/- squeezed. Walks: the reference's reader of i -/
import Derived.Test.YtgcjjhibdbafmabGreatDoorK12
import Derived.Deep.Matrix
set_option linter.unusedVariables false
set_option linter.unusedSimpArgs false
set_option maxRecDepth 100000
set_option maxHeartbeats 6400000
namespace Go.Proofs.YtgcjjhibdbafmabGreatDoor
open Go.RowKit
section
variable {d:Nat} {w:World} {H:Snap} {g:Nat} {A:Option Addr} {c:Nat} {l:List UInt8} {p cnt lv:Nat}
theorem eE (hTab:Tabs H) (hlv:lv+d=8) (hP:Psr 118 w g H A c l p cnt) (hc:cnt<256) (ur:p<l.length) {ch:UInt8}(rt:l[p]=ch) {low kd:Nat}(yN:ch.toNat%32=low) (pP:ch.toNat/32=kd) (sV:low≤27) (hk:kd=3):Calls Tryz.prog 81 #[.pointer (some ⟨g,0,none⟩),.int .i64 (lv:Int)] w (ItemOut 118 w H g A c l p (zj d (l.drop p) cnt)):=by
 have yv:=hP.gt;have xg:=(Rdg.refl hP).alloc zg;have we:=Blk.new w 57 #[.int .i64 0,.int .u64 0,.slice none 0 0,.slice none 0 0];have zF:H w.heap.size=none:=hP.holds.none_of_ge (Nat.le_refl _);have c2:=xg.psr.blk.cell 2 rfl;have ED:=uS ur;rw[rt]at ED;subst hk
 have EH0:Hid (zf (l.drop p)=if 27<low then .error 3 else if low<24 then .ok (ch.toNat,low,1) else if(l.drop (p+1)).length<2 ^ (low-24) then .error 2
    else if ch.toNat/32<7∧(zh 0 (beN ((l.drop (p+1)).take (2 ^ (low-24))))).length≠1+2 ^ (low-24) then .error 4
    else .ok (ch.toNat,beN ((l.drop (p+1)).take (2 ^ (low-24))),1+2 ^ (low-24))):=by rw[Hid,ED,zf,yN]
 have z27:¬ ((27:Int)<(low:Int)):=by omega
 have z27b:decide ((27:Int)<(low:Int))=false:=decide_eq_false z27;have ks:=Hh sV;have Xd:=Hh hlv;have nO:Hid (3<7):=by rw[Hid];omega
 clear sV ED;have z0:¬ (((l.length:Nat):Int)≤(p:Int)):=by omega
 have z0':decide (((l.length:Nat):Int)≤(p:Int))=false:=decide_eq_false z0;have lp:(p:Int)<(l.length:Int):=by omega
 have iZ:(0:Int)≤(p:Int):=by omega
 have qI:=hP.small;have K1:IntKind.i64.wrap ((p:Int)+1)=(p:Int)+1:=IntWalk.i64_in _ (by omega);obtain⟨b,off,rfl,yG⟩:=hP.bytes.at_ (by omega);have KA:=oU ⟨ch.toNat,ch.toNat_lt⟩
 simp only at KA
 rw[yN]at KA;have S:(ch.toNat:Int)/32=3:=by omega
 have TW:=True.intro;have oJ:(low:Int)≤31:=by omega
 have qy:=Hh yG;have yw:=Hh (And.intro yN (And.intro pP ur));have bY:=Hh (show H.cell? ⟨b,off+p,none⟩=some (zI ch) by have h:=yG p ur;rw[rt]at h;exact h);clear yG yN pP qI rt;have xv:¬ ((256:Int)≤(cnt:Int)):=by omega
 have yD:decide ((256:Int)≤(cnt:Int))=false:=decide_eq_false xv;have KC:IntKind.i64.wrap ((cnt:Int)+1)=(cnt:Int)+1:=IntWalk.i64_in _ (by omega);have HC:=Hh hc;clear hc;go_enter Tryz.func81,Tryz.ntmps81
 go_wp2_with (with_reducible refine zx ?_)
 refine zu rfl _ _ _ rfl rfl g 2 (.int .i64 ((cnt:Int)+1)) rfl rfl _ _ xg.psr.blk zH (by simp) rfl fun w2 yU yq=>?_
 have wl:Rdg 118 w H w2 H g _ c l p (cnt+1):=xg.step yq yU hP.le (by have:=HC.out;omega);have uv:=we.gr yq (by omega);clear xg we yU yq c2 KC xv yD;have na:=wl.psr.le;have a0:=wl.psr.blk.cell 0 rfl;have a1:=wl.psr.blk.cell 1 rfl;go_wp2_with fail
 go_big_quiet (fail)
 have tv:=wl.drewN nq;have tt:Blk (w2.drewN nq) w.heap.size 57 #[.int .i64 0,.int .u64 0,.slice none 0 0,.slice none 0 0]:=uv
 generalize w2.drewN nq=w3 at tv tt⊢
 obtain⟨xV,xO⟩:=And.intro tv tt;clear tv tt wl uv a0 a1 na;have a0:=xV.psr.blk.cell 0 rfl;have a1:=xV.psr.blk.cell 1 rfl;have q0:=xV.psr.holds.cell bY.out;go_upto_region 6 with fail
 go_big_quiet (fail)
 have ux:=xV.drewN nq;have uw:Blk (w3.drewN nq) w.heap.size 57 #[.int .i64 0,.int .u64 0,.slice none 0 0,.slice none 0 0]:=xO
 generalize w3.drewN nq=w4 at ux uw⊢
 obtain⟨vd,wT⟩:=And.intro ux uw;clear ux uw xV xO a0 a1 q0;have a1:=vd.psr.blk.cell 1 rfl;go_wp2_with (with_reducible refine zx ?_)
 refine zu rfl _ _ _ rfl rfl g 1 (.int .i64 ((p:Int)+1)) rfl rfl _ _ vd.psr.blk zH (by simp) rfl fun w5 sb xM=>?_
 have yi:Rdg 118 w H w5 H g (some ⟨b,off,none⟩) c l (p+1) (cnt+1):=vd.step xM sb yw.out.2.2 (by have:=HC.out;omega);have yt:=wT.gr xM (by omega);clear vd wT sb xM a1 K1 z0 z0' lp iZ KA S;go_upto_region 12 with fail
 have KU:IntKind.u64.wrap (low:Int)=(low:Int):=by rw[IntKind.wrap_u64];omega
 go_upto_if 80 with fail
 go_cut [8] (fun s8 wx=>∃ n k:Nat,zf (l.drop p)=.ok (ch.toNat,n,k)∧s8=.int .u64 (n:Int)∧Rdg 118 w H wx H g (some ⟨b,off,none⟩) c l (p+k) (cnt+1)∧Blk wx w.heap.size 57 #[.int .i64 0,.int .u64 0,.slice none 0 0,.slice none 0 0])
 case first =>
  by_cases hl24:low<24
  ·have z24:¬ ((23:Int)<(low:Int)):=by omega
   have z24b:decide ((23:Int)<(low:Int))=false:=decide_eq_false z24;have EH:Hid (zf (l.drop p)=.ok (ch.toNat,low,1)):=by rw[Hid,EH0.out,if_neg (by have:=ks.out;omega),if_pos hl24]
   clear hl24;go_wp2_with fail
   go_meet
   exact⟨low,1,EH.out,rfl,yi,yt⟩
  have z24:(23:Int)<(low:Int):=by omega
  have EH:Hid (zf (l.drop p)=if(l.drop (p+1)).length<2 ^ (low-24) then .error 2
    else if ch.toNat/32<7∧(zh 0 (beN ((l.drop (p+1)).take (2 ^ (low-24))))).length≠1+2 ^ (low-24) then .error 4
    else .ok (ch.toNat,beN ((l.drop (p+1)).take (2 ^ (low-24))),1+2 ^ (low-24))):=by rw[Hid,EH0.out,if_neg (by have:=ks.out;omega),if_neg hl24]
  clear EH0
  rcases(by have:=ks.out;omega:low=24∨low=25∨low=26∨low=27) with rfl | rfl | rfl | rfl
  ·have NM:=Hh (yO yi.psr 1 (by omega) (by omega));have HD:=Hh (fun n hn w=>yW 3 ((n:Nat):Int) w (by omega) (by omega) (by omega) hn)
   simp only[Nat.reduceSub,Nat.reducePow,Nat.reduceAdd]at EH
   clear hl24 z24 oJ z27 z27b KU;go_wp2_with fail
   refine NM.out.mono ?_
   rintro e w6 (⟨hs,rfl,yK,zP⟩ | ⟨hs,rfl,yK,zP⟩)
   ·have E:Hid (zj d (l.drop p) cnt=.err 2):=by
     have h1:zf (l.drop p)=.error 2:=by rw[EH.out,if_pos (by rw[List.length_drop];have:=yw.out.2.2;omega)]
     rw[Hid,zW d (l.drop p) cnt (by have:=HC.out;omega) h1]
    have z8:Rdg 118 w H w6 H g (some ⟨b,off,none⟩) c l (p+1) (cnt+1):=yi.step zP yK yw.out.2.2 (by have:=HC.out;omega);have yj:=yt.gr zP (by omega);clear NM HD hs yi yt yK zP EH;go_wp2_with (with_reducible refine zx ?_)
    refine stI yj fun wz hTy zT=>?_
    have zQ:=z8.gb zF (Nat.le_refl _) yv zT;go_wp2_with fail
    refine zw rfl rfl hTy rfl rfl zv rfl ?_
    exact ItemOut.err E.out rfl zQ
   have z8:Rdg 118 w H w6 H g (some ⟨b,off,none⟩) c l (p+1+1) (cnt+1):=yi.step zP yK hs (by have:=HC.out;omega);have yj:=yt.gr zP (by omega);have xi:=xx ((l.drop (p+1)).take 1);have wi:((l.drop (p+1)).take 1).length=1:=by rw[List.length_take,List.length_drop];omega
   rw[wi]at xi
   simp only[Nat.reducePow]at xi
   obtain⟨n,hn⟩:∃ n,beN ((l.drop (p+1)).take 1)=n:=⟨_,rfl⟩
   have EH2:Hid (zf (l.drop p)=if(zh 0 n).length≠2 then .error 4 else .ok (ch.toNat,n,2)):=by
    rw[Hid,EH.out,if_neg (by rw[List.length_drop];omega),hn];have:=nO.out;have:=yw.out.2.1
    by_cases h:(zh 0 n).length=2 <;> simp[h] <;> omega
   have uj:=Hh (fun w=>HD.out n (by omega) w);rw[hn];have zN:(zh (3:Int).toNat (n:Int).toNat).length=(zh 0 n).length:=by rw[ze,ze];rfl
   obtain⟨fl,vq⟩:∃ fl,(zh 0 n).length=fl:=⟨_,rfl⟩
   rw[vq]at EH2 zN;have uK:=Hh zN;clear NM HD hs yi yt yK zP EH hn wi xi vq zN;go_wp2_with fail
   refine(uj.out _).mono ?_
   rintro e w7 ⟨r,rfl,hf⟩
   have yC:=z8.below_ hf.2;have yS:=yj.below hf.2;obtain⟨RA,rc,rfl,_⟩:=hf.own.form;rw[uK.out];clear hf uj z8 yj
   by_cases hq:fl=2
   ·subst hq;have EH3:Hid (zf (l.drop p)=.ok (ch.toNat,n,2)):=by rw[Hid,EH2.out,if_neg (by simp)]
    clear EH2;go_wp2_with fail
    go_meet
    exact⟨n,2,EH3.out,rfl,by rw[show p+2=p+1+1 by omega];exact yC,yS⟩
   have zq:((fl:Int)==2)=false:=by simp;omega
   have zq2:((fl:Int)=2)=False:=eq_false (by omega)
   have E:Hid (zj d (l.drop p) cnt=.err 4):=by
    have h1:zf (l.drop p)=.error 4:=by rw[EH2.out,if_pos hq]
    rw[Hid,zW d (l.drop p) cnt (by have:=HC.out;omega) h1]
   clear EH2 hq;go_wp2_with (with_reducible refine zx ?_)
   refine stI yS fun wz hTy zT=>?_
   have zQ:=yC.gb zF (Nat.le_refl _) yv zT;go_wp2_with fail
   refine zw rfl rfl hTy rfl rfl zv rfl ?_
   exact ItemOut.err E.out rfl zQ
  ·have NM:=Hh (yO yi.psr 2 (by omega) (by omega));have HD:=Hh (fun n hn w=>yW 3 ((n:Nat):Int) w (by omega) (by omega) (by omega) hn)
   simp only[Nat.reduceSub,Nat.reducePow,Nat.reduceAdd]at EH
   clear hl24 z24 oJ z27 z27b KU;go_wp2_with fail
   refine NM.out.mono ?_
   rintro e w6 (⟨hs,rfl,yK,zP⟩ | ⟨hs,rfl,yK,zP⟩)
   ·have E:Hid (zj d (l.drop p) cnt=.err 2):=by
     have h1:zf (l.drop p)=.error 2:=by rw[EH.out,if_pos (by rw[List.length_drop];have:=yw.out.2.2;omega)]
     rw[Hid,zW d (l.drop p) cnt (by have:=HC.out;omega) h1]
    have z8:Rdg 118 w H w6 H g (some ⟨b,off,none⟩) c l (p+1) (cnt+1):=yi.step zP yK yw.out.2.2 (by have:=HC.out;omega);have yj:=yt.gr zP (by omega);clear NM HD hs yi yt yK zP EH;go_wp2_with (with_reducible refine zx ?_)
    refine stI yj fun wz hTy zT=>?_
    have zQ:=z8.gb zF (Nat.le_refl _) yv zT;go_wp2_with fail
    refine zw rfl rfl hTy rfl rfl zv rfl ?_
    exact ItemOut.err E.out rfl zQ
   have z8:Rdg 118 w H w6 H g (some ⟨b,off,none⟩) c l (p+1+2) (cnt+1):=yi.step zP yK hs (by have:=HC.out;omega);have yj:=yt.gr zP (by omega);have xi:=xx ((l.drop (p+1)).take 2);have wi:((l.drop (p+1)).take 2).length=2:=by rw[List.length_take,List.length_drop];omega
   rw[wi]at xi
   simp only[Nat.reducePow]at xi
   obtain⟨n,hn⟩:∃ n,beN ((l.drop (p+1)).take 2)=n:=⟨_,rfl⟩
   have EH2:Hid (zf (l.drop p)=if(zh 0 n).length≠3 then .error 4 else .ok (ch.toNat,n,3)):=by
    rw[Hid,EH.out,if_neg (by rw[List.length_drop];omega),hn];have:=nO.out;have:=yw.out.2.1
    by_cases h:(zh 0 n).length=3 <;> simp[h] <;> omega
   have uj:=Hh (fun w=>HD.out n (by omega) w);rw[hn];have zN:(zh (3:Int).toNat (n:Int).toNat).length=(zh 0 n).length:=by rw[ze,ze];rfl
   obtain⟨fl,vq⟩:∃ fl,(zh 0 n).length=fl:=⟨_,rfl⟩
   rw[vq]at EH2 zN;have uK:=Hh zN;clear NM HD hs yi yt yK zP EH hn wi xi vq zN;go_wp2_with fail
   refine(uj.out _).mono ?_
   rintro e w7 ⟨r,rfl,hf⟩
   have yC:=z8.below_ hf.2;have yS:=yj.below hf.2;obtain⟨RA,rc,rfl,_⟩:=hf.own.form;rw[uK.out];clear hf uj z8 yj
   by_cases hq:fl=3
   ·subst hq;have EH3:Hid (zf (l.drop p)=.ok (ch.toNat,n,3)):=by rw[Hid,EH2.out,if_neg (by simp)]
    clear EH2;go_wp2_with fail
    go_meet
    exact⟨n,3,EH3.out,rfl,by rw[show p+3=p+1+2 by omega];exact yC,yS⟩
   have zq:((fl:Int)==3)=false:=by simp;omega
   have zq2:((fl:Int)=3)=False:=eq_false (by omega)
   have E:Hid (zj d (l.drop p) cnt=.err 4):=by
    have h1:zf (l.drop p)=.error 4:=by rw[EH2.out,if_pos hq]
    rw[Hid,zW d (l.drop p) cnt (by have:=HC.out;omega) h1]
   clear EH2 hq;go_wp2_with (with_reducible refine zx ?_)
   refine stI yS fun wz hTy zT=>?_
   have zQ:=yC.gb zF (Nat.le_refl _) yv zT;go_wp2_with fail
   refine zw rfl rfl hTy rfl rfl zv rfl ?_
   exact ItemOut.err E.out rfl zQ
  ·have NM:=Hh (yO yi.psr 4 (by omega) (by omega));have HD:=Hh (fun n hn w=>yW 3 ((n:Nat):Int) w (by omega) (by omega) (by omega) hn)
   simp only[Nat.reduceSub,Nat.reducePow,Nat.reduceAdd]at EH
   clear hl24 z24 oJ z27 z27b KU;go_wp2_with fail
   refine NM.out.mono ?_
   rintro e w6 (⟨hs,rfl,yK,zP⟩ | ⟨hs,rfl,yK,zP⟩)
   ·have E:Hid (zj d (l.drop p) cnt=.err 2):=by
     have h1:zf (l.drop p)=.error 2:=by rw[EH.out,if_pos (by rw[List.length_drop];have:=yw.out.2.2;omega)]
     rw[Hid,zW d (l.drop p) cnt (by have:=HC.out;omega) h1]
    have z8:Rdg 118 w H w6 H g (some ⟨b,off,none⟩) c l (p+1) (cnt+1):=yi.step zP yK yw.out.2.2 (by have:=HC.out;omega);have yj:=yt.gr zP (by omega);clear NM HD hs yi yt yK zP EH;go_wp2_with (with_reducible refine zx ?_)
    refine stI yj fun wz hTy zT=>?_
    have zQ:=z8.gb zF (Nat.le_refl _) yv zT;go_wp2_with fail
    refine zw rfl rfl hTy rfl rfl zv rfl ?_
    exact ItemOut.err E.out rfl zQ
   have z8:Rdg 118 w H w6 H g (some ⟨b,off,none⟩) c l (p+1+4) (cnt+1):=yi.step zP yK hs (by have:=HC.out;omega);have yj:=yt.gr zP (by omega);have xi:=xx ((l.drop (p+1)).take 4);have wi:((l.drop (p+1)).take 4).length=4:=by rw[List.length_take,List.length_drop];omega
   rw[wi]at xi
   simp only[Nat.reducePow]at xi
   obtain⟨n,hn⟩:∃ n,beN ((l.drop (p+1)).take 4)=n:=⟨_,rfl⟩
   have EH2:Hid (zf (l.drop p)=if(zh 0 n).length≠5 then .error 4 else .ok (ch.toNat,n,5)):=by
    rw[Hid,EH.out,if_neg (by rw[List.length_drop];omega),hn];have:=nO.out;have:=yw.out.2.1
    by_cases h:(zh 0 n).length=5 <;> simp[h] <;> omega
   have uj:=Hh (fun w=>HD.out n (by omega) w);rw[hn];have zN:(zh (3:Int).toNat (n:Int).toNat).length=(zh 0 n).length:=by rw[ze,ze];rfl
   obtain⟨fl,vq⟩:∃ fl,(zh 0 n).length=fl:=⟨_,rfl⟩
   rw[vq]at EH2 zN;have uK:=Hh zN;clear NM HD hs yi yt yK zP EH hn wi xi vq zN;go_wp2_with fail
   refine(uj.out _).mono ?_
   rintro e w7 ⟨r,rfl,hf⟩
   have yC:=z8.below_ hf.2;have yS:=yj.below hf.2;obtain⟨RA,rc,rfl,_⟩:=hf.own.form;rw[uK.out];clear hf uj z8 yj
   by_cases hq:fl=5
   ·subst hq;have EH3:Hid (zf (l.drop p)=.ok (ch.toNat,n,5)):=by rw[Hid,EH2.out,if_neg (by simp)]
    clear EH2;go_wp2_with fail
    go_meet
    exact⟨n,5,EH3.out,rfl,by rw[show p+5=p+1+4 by omega];exact yC,yS⟩
   have zq:((fl:Int)==5)=false:=by simp;omega
   have zq2:((fl:Int)=5)=False:=eq_false (by omega)
   have E:Hid (zj d (l.drop p) cnt=.err 4):=by
    have h1:zf (l.drop p)=.error 4:=by rw[EH2.out,if_pos hq]
    rw[Hid,zW d (l.drop p) cnt (by have:=HC.out;omega) h1]
   clear EH2 hq;go_wp2_with (with_reducible refine zx ?_)
   refine stI yS fun wz hTy zT=>?_
   have zQ:=yC.gb zF (Nat.le_refl _) yv zT;go_wp2_with fail
   refine zw rfl rfl hTy rfl rfl zv rfl ?_
   exact ItemOut.err E.out rfl zQ
  have NM:=Hh (yO yi.psr 8 (by omega) (by omega));have HD:=Hh (fun n hn w=>yW 3 ((n:Nat):Int) w (by omega) (by omega) (by omega) hn)
  simp only[Nat.reduceSub,Nat.reducePow,Nat.reduceAdd]at EH
  clear hl24 z24 oJ z27 z27b KU;go_wp2_with fail
  refine NM.out.mono ?_
  rintro e w6 (⟨hs,rfl,yK,zP⟩ | ⟨hs,rfl,yK,zP⟩)
  ·have E:Hid (zj d (l.drop p) cnt=.err 2):=by
    have h1:zf (l.drop p)=.error 2:=by rw[EH.out,if_pos (by rw[List.length_drop];have:=yw.out.2.2;omega)]
    rw[Hid,zW d (l.drop p) cnt (by have:=HC.out;omega) h1]
   have z8:Rdg 118 w H w6 H g (some ⟨b,off,none⟩) c l (p+1) (cnt+1):=yi.step zP yK yw.out.2.2 (by have:=HC.out;omega);have yj:=yt.gr zP (by omega);clear NM HD hs yi yt yK zP EH;go_wp2_with (with_reducible refine zx ?_)
   refine stI yj fun wz hTy zT=>?_
   have zQ:=z8.gb zF (Nat.le_refl _) yv zT;go_wp2_with fail
   refine zw rfl rfl hTy rfl rfl zv rfl ?_
   exact ItemOut.err E.out rfl zQ
  have z8:Rdg 118 w H w6 H g (some ⟨b,off,none⟩) c l (p+1+8) (cnt+1):=yi.step zP yK hs (by have:=HC.out;omega);have yj:=yt.gr zP (by omega);have xi:=xx ((l.drop (p+1)).take 8);have wi:((l.drop (p+1)).take 8).length=8:=by rw[List.length_take,List.length_drop];omega
  rw[wi]at xi
  simp only[Nat.reducePow]at xi
  obtain⟨n,hn⟩:∃ n,beN ((l.drop (p+1)).take 8)=n:=⟨_,rfl⟩
  have EH2:Hid (zf (l.drop p)=if(zh 0 n).length≠9 then .error 4 else .ok (ch.toNat,n,9)):=by
   rw[Hid,EH.out,if_neg (by rw[List.length_drop];omega),hn];have:=nO.out;have:=yw.out.2.1
   by_cases h:(zh 0 n).length=9 <;> simp[h] <;> omega
  have uj:=Hh (fun w=>HD.out n (by omega) w);rw[hn];have zN:(zh (3:Int).toNat (n:Int).toNat).length=(zh 0 n).length:=by rw[ze,ze];rfl
  obtain⟨fl,vq⟩:∃ fl,(zh 0 n).length=fl:=⟨_,rfl⟩
  rw[vq]at EH2 zN;have uK:=Hh zN;clear NM HD hs yi yt yK zP EH hn wi xi vq zN;go_wp2_with fail
  refine(uj.out _).mono ?_
  rintro e w7 ⟨r,rfl,hf⟩
  have yC:=z8.below_ hf.2;have yS:=yj.below hf.2;obtain⟨RA,rc,rfl,_⟩:=hf.own.form;rw[uK.out];clear hf uj z8 yj
  by_cases hq:fl=9
  ·subst hq;have EH3:Hid (zf (l.drop p)=.ok (ch.toNat,n,9)):=by rw[Hid,EH2.out,if_neg (by simp)]
   clear EH2;go_wp2_with fail
   go_meet
   exact⟨n,9,EH3.out,rfl,by rw[show p+9=p+1+8 by omega];exact yC,yS⟩
  have zq:((fl:Int)==9)=false:=by simp;omega
  have zq2:((fl:Int)=9)=False:=eq_false (by omega)
  have E:Hid (zj d (l.drop p) cnt=.err 4):=by
   have h1:zf (l.drop p)=.error 4:=by rw[EH2.out,if_pos hq]
   rw[Hid,zW d (l.drop p) cnt (by have:=HC.out;omega) h1]
  clear EH2 hq;go_wp2_with (with_reducible refine zx ?_)
  refine stI yS fun wz hTy zT=>?_
  have zQ:=yC.gb zF (Nat.le_refl _) yv zT;go_wp2_with fail
  refine zw rfl rfl hTy rfl rfl zv rfl ?_
  exact ItemOut.err E.out rfl zQ
 case rest =>
 obtain⟨n,k,hh,rfl,vp,vI⟩:=hcut;have HF:=Hh (xo hh);have HH:=Hh hh;clear hh yi yt
 have E0:Hid (zj d (l.drop p) cnt=(if(l.drop p).length<k+n then .err 2 else if 3=3∧Lib.validD (((l.drop p).drop k).take n)=false then .err 5 else .ok (.mk 3 0 (((l.drop p).drop k).take n) []) (k+n) (cnt+1))):=by
  rw[Hid,pC d (l.drop p) cnt (by have:=HC.out;omega) HH.out (by have:=yw.out.2.1;omega) (by have:=yw.out.2.1;omega),yw.out.2.1];first | rfl | (simp only[true_and];first | done | rfl) | simp
 have qI:=vp.psr.small;have uA:=vp.psr.bytes.le;have nX:=vp.psr.bytes.max;have tP:=vp.psr.le;have wi:=HF.out.n_lt;have Yv:(l.drop p).length=l.length-p:=List.length_drop;obtain⟨P,fs⟩:∃ P,p+k=P:=⟨_,rfl⟩
 obtain⟨s,lB⟩:∃ s,((l.drop p).drop k).take n=s:=⟨_,rfl⟩
 rw[lB]at E0;rw[List.drop_drop,fs]at lB;rw[fs]at vp tP;have K1:IntKind.i64.wrap ((l.length:Int)-(P:Int))=(l.length:Int)-(P:Int):=IntWalk.i64_in _ (by omega);have K2:IntKind.u64.wrap ((l.length:Int)-(P:Int))=(l.length:Int)-(P:Int):=by rw[IntKind.wrap_u64];omega
 have a0:=vp.psr.blk.cell 0 rfl;have a1:=vp.psr.blk.cell 1 rfl;have Mk:(P:Int)≤(l.length:Int):=by omega
 have iP:(l.length:Int)≤4096:=by omega
 by_cases ye:l.length<P+n
 ·have z0:(l.length:Int)-(P:Int)<(n:Int):=by omega
  have E:Hid (zj d (l.drop p) cnt=.err 2):=by rw[Hid,E0.out,if_pos (by have:=yw.out.2.2;omega)]
  clear qI uA nX wi Yv fs lB E0 ye tP;go_wp2_with fail
  go_big_quiet (fail)
  have td:=vp.drewN nq;have uM:Blk (wc.drewN nq) w.heap.size 57 #[.int .i64 0,.int .u64 0,.slice none 0 0,.slice none 0 0]:=vI;go_wp2_with (with_reducible refine zx ?_)
  refine stI uM fun wz hTy zT=>?_
  have zQ:=td.gb zF (Nat.le_refl _) yv zT;go_wp2_with fail
  refine zw rfl rfl hTy rfl rfl zv rfl ?_
  exact ItemOut.err E.out rfl zQ
 have z0:¬ ((l.length:Int)-(P:Int)<(n:Int)):=by omega
 have z0b:decide ((l.length:Int)-(P:Int)<(n:Int))=false:=decide_eq_false z0;have E1:Hid (zj d (l.drop p) cnt=(if 3=3∧Lib.validD s=false then .err 5 else .ok (.mk 3 0 s []) (k+n) (cnt+1))):=by rw[Hid,E0.out,if_neg (by have:=yw.out.2.2;omega)];try simp
 have cC:n=s.length:=by rw[← lB,List.length_take,List.length_drop];omega
 have kF:=Hh cC;clear cC;have KN:IntKind.i64.wrap (n:Int)=(n:Int):=IntWalk.i64_in _ (by omega);have KP:IntKind.i64.wrap ((P:Int)+(n:Int))=(P:Int)+(n:Int):=IntWalk.i64_in _ (by omega);have kt:((P:Int)+(n:Int)).toNat=P+n:=by omega
 have y0:(0:Int)≤(P:Int)+(n:Int):=by omega
 have y5:P≤P+n:=by omega
 have y6:P+n-P=n:=by omega
 have y1:(P:Int)≤(P:Int)+(n:Int):=by omega
 have y2:(P:Int)+(n:Int)≤(c:Int):=by omega
 have y3:(P:Int)≤(c:Int):=by omega
 have y4:(0:Int)≤(P:Int):=by omega
 have HK:=Hh (And.intro qI (And.intro uA (And.intro nX fs)));go_wp2_with fail
 go_big_quiet (fail)
 have kC:=vp.drewN nq;have jy:Blk (wc.drewN nq) w.heap.size 57 #[.int .i64 0,.int .u64 0,.slice none 0 0,.slice none 0 0]:=vI
 generalize wc.drewN nq=w9 at kC jy⊢
 obtain⟨td,uM⟩:=And.intro kC jy;clear kC jy vp vI a0 a1 E0 z0 z0b;have o5:∀ j (hj:j<l.length),w9.cell? ⟨b,off+j,none⟩=some (zI l[j]):=fun j hj=>td.psr.holds.cell (qy.out j hj)
 have a0:=td.psr.blk.cell 0 rfl;have a1:=td.psr.blk.cell 1 rfl
 by_cases iN:c=P
 ·have bR:P=c:=iN.symm;subst bR;clear iN;have HS:=Hh (show Src w9.drew (some ⟨b,off,none⟩) (s.map zI) by have hz:s=[]:=List.eq_nil_of_length_eq_zero (by have:=kF.out;omega);rw[hz];exact Src.nil _ _);have qg:Rdg 118 w H w9.drew H g (some ⟨b,off,none⟩) P l P (cnt+1):=td.drewN 1;have oA:Blk w9.drew w.heap.size 57 #[.int .i64 0,.int .u64 0,.slice none 0 0,.slice none 0 0]:=uM;clear td uM o5;go_upto_region 28 with fail
  refine zr 17 (fun w'=>w'.cell? ⟨g,0,none⟩=some (.slice (some ⟨b,off,none⟩) l.length P)∧w'.cell? ⟨g,1,none⟩=some (.int .i64 (P:Int))) (by kernel_rfl) (⟨a0,a1⟩) (fun zy=>?_)
  refine Tk 0 rfl zy ?_
  refine Tk 1 rfl zy ?_
  refine Tk 2 rfl zy ?_
  refine Tk 3 rfl zy ?_
  refine Tk 4 rfl zy ?_
  refine Tk 5 rfl zy ?_
  refine Tk 6 rfl zy ?_
  refine Tk 7 rfl zy ?_
  refine Tk 8 rfl zy ?_
  refine Tk 9 rfl zy ?_
  refine Tk 10 rfl zy ?_
  refine Tk 11 rfl zy ?_
  refine Tk 12 rfl zy ?_
  refine Tk 13 rfl zy ?_
  refine Tk 14 rfl zy ?_
  refine Tk 15 rfl zy ?_
  refine To 16 rfl fun K hK=>?_
  refine yV (.const (.slice none 0 0)) (.tmp 144) rfl w9.drew.heap.size (.slice none 0 0) [] rfl (OwnB.nil _ _) (some ⟨b,off,none⟩) n _ s rfl kF.out HS.out (by have:=kF.out;simp;omega) (Nat.le_refl _) fun v' w10 hO hg hat=>?_
  rw[List.nil_append]at hO;have vu:=zC (by simpa [Value.ownBlock] using hg);have pz:Fresh w9.drew s v' w10:=⟨hO,vu⟩
  obtain⟨RA,rc,rfl,_⟩:=hO.form;have uN:=qg.below_ vu;go_simp
  refine Ko hK ?_ fun zy=>?_
  ·exact⟨uN.psr.blk.cell 0 rfl,uN.psr.blk.cell 1 rfl⟩
  clear hK K
  refine To 17 rfl fun K hK=>?_
  go_simp
  refine Kz hK ?_
  clear hK K
  refine Wd ?_
  clear zy a0 a1 hO hg hat HS;have uI:=oA.below vu;obtain⟨H6,zP,om,_⟩:=Fresh.snapB qg.psr.holds pz;have z8:=qg.grown zP;have tS:=zP.none zF oA.lt;clear uN pz qg oA vu;have a1:=z8.psr.blk.cell 1 rfl;go_wp2_with (with_reducible refine zx ?_)
  refine zu rfl _ _ _ rfl rfl g 1 (.int .i64 ((P:Int)+(n:Int))) rfl rfl _ _ z8.psr.blk zH (by simp) rfl fun w7 nP wu=>?_
  have yC:Rdg 118 w H w7 H6 g (some ⟨b,off,none⟩) P l (P+n) (cnt+1):=z8.step wu nP (by omega) (by have:=HC.out;omega);have yS:=uI.gr wu (by omega);have nY:=tS;clear z8 uI nP wu a1;have IB:=om;have UV:=Hh (tE (hTab.mono zP.le) w7 yC.psr.holds RA s s.length rc rfl om)
  cases hv:Lib.validD s with
  | false =>
   rw[hv]at UV;have E:Hid (zj d (l.drop p) cnt=.err 5):=by rw[Hid,E1.out,if_pos (by first | exact⟨rfl,hv⟩ | exact⟨trivial,hv⟩)]
   clear hv E1;go_wp2_with fail
   refine UV.out.mono ?_
   rintro e w8 ⟨rfl,mI⟩
   have vp:=yC.below_ mI;have vI:=yS.below mI;clear UV yC yS;go_wp2_with (with_reducible refine zx ?_)
   refine stI vI fun wz hTy zT=>?_
   have zQ:=vp.gb nY (Nat.le_refl _) yv zT;go_wp2_with fail
   refine zw rfl rfl hTy rfl rfl zv rfl ?_
   exact ItemOut.err E.out rfl zQ
  | true =>
  rw[hv]at UV;have E:Hid (zj d (l.drop p) cnt=.ok (.mk 3 0 s []) (k+n) (cnt+1)):=by rw[Hid,E1.out,if_neg (fun h=>by rw[hv]at h;cases h.2)]
  clear hv E1;go_wp2_with fail
  refine UV.out.mono ?_
  rintro e w8 ⟨rfl,mI⟩
  have vp:=yC.below_ mI;have vI:=yS.below mI;clear UV yC yS;go_wp2_with (with_reducible refine zx ?_)
  refine stI vI fun wz hTy zT=>?_
  have zQ:=vp.gb nY (Nat.le_refl _) yv zT;go_wp2_with fail
  refine zw rfl rfl hTy rfl rfl zv rfl ?_
  exact ItemOut.ok E.out rfl (by rw[← Nat.add_assoc,HK.out.2.2.2];exact zQ) (IsItem.str 3 (by omega) IB)
 have SH:(c=P)=False:=eq_false iN;have HS:=Hh (show Src w9.drew (some ⟨b,off+P,none⟩) (s.map zI) by have hq:=rb (w:=w9.drew) (n:=n) o5 P (some ⟨b,off+P,none⟩) (fun _=>rfl) (by omega);rw[lB]at hq;exact hq);have qg:Rdg 118 w H w9.drew H g (some ⟨b,off,none⟩) c l P (cnt+1):=td.drewN 1;have oA:Blk w9.drew w.heap.size 57 #[.int .i64 0,.int .u64 0,.slice none 0 0,.slice none 0 0]:=uM;clear td uM o5;go_upto_region 28 with fail
 refine zr 17 (fun w'=>w'.cell? ⟨g,0,none⟩=some (.slice (some ⟨b,off,none⟩) l.length c)∧w'.cell? ⟨g,1,none⟩=some (.int .i64 (P:Int))) (by kernel_rfl) (⟨a0,a1⟩) (fun zy=>?_)
 refine Tk 0 rfl zy ?_
 refine Tk 1 rfl zy ?_
 refine Tk 2 rfl zy ?_
 refine Tk 3 rfl zy ?_
 refine Tk 4 rfl zy ?_
 refine Tk 5 rfl zy ?_
 refine Tk 6 rfl zy ?_
 refine Tk 7 rfl zy ?_
 refine Tk 8 rfl zy ?_
 refine Tk 9 rfl zy ?_
 refine Tk 10 rfl zy ?_
 refine Tk 11 rfl zy ?_
 refine Tk 12 rfl zy ?_
 refine Tk 13 rfl zy ?_
 refine Tk 14 rfl zy ?_
 refine Tk 15 rfl zy ?_
 refine To 16 rfl fun K hK=>?_
 refine yV (.const (.slice none 0 0)) (.tmp 144) rfl w9.drew.heap.size (.slice none 0 0) [] rfl (OwnB.nil _ _) (some ⟨b,off+P,none⟩) n _ s rfl kF.out HS.out (by have:=kF.out;simp;omega) (Nat.le_refl _) fun v' w10 hO hg hat=>?_
 rw[List.nil_append]at hO;have vu:=zC (by simpa [Value.ownBlock] using hg);have pz:Fresh w9.drew s v' w10:=⟨hO,vu⟩
 obtain⟨RA,rc,rfl,_⟩:=hO.form;have uN:=qg.below_ vu;go_simp
 refine Ko hK ?_ fun zy=>?_
 ·exact⟨uN.psr.blk.cell 0 rfl,uN.psr.blk.cell 1 rfl⟩
 clear hK K
 refine To 17 rfl fun K hK=>?_
 go_simp
 refine Kz hK ?_
 clear hK K
 refine Wd ?_
 clear zy a0 a1 hO hg hat HS;have uI:=oA.below vu;obtain⟨H6,zP,om,_⟩:=Fresh.snapB qg.psr.holds pz;have z8:=qg.grown zP;have tS:=zP.none zF oA.lt;clear uN pz qg oA vu;have a1:=z8.psr.blk.cell 1 rfl;go_wp2_with (with_reducible refine zx ?_)
 refine zu rfl _ _ _ rfl rfl g 1 (.int .i64 ((P:Int)+(n:Int))) rfl rfl _ _ z8.psr.blk zH (by simp) rfl fun w7 nP wu=>?_
 have yC:Rdg 118 w H w7 H6 g (some ⟨b,off,none⟩) c l (P+n) (cnt+1):=z8.step wu nP (by omega) (by have:=HC.out;omega);have yS:=uI.gr wu (by omega);have nY:=tS;clear z8 uI nP wu a1;have IB:=om;have UV:=Hh (tE (hTab.mono zP.le) w7 yC.psr.holds RA s s.length rc rfl om)
 cases hv:Lib.validD s with
 | false =>
  rw[hv]at UV;have E:Hid (zj d (l.drop p) cnt=.err 5):=by rw[Hid,E1.out,if_pos (by first | exact⟨rfl,hv⟩ | exact⟨trivial,hv⟩)]
  clear hv E1;go_wp2_with fail
  refine UV.out.mono ?_
  rintro e w8 ⟨rfl,mI⟩
  have vp:=yC.below_ mI;have vI:=yS.below mI;clear UV yC yS;go_wp2_with (with_reducible refine zx ?_)
  refine stI vI fun wz hTy zT=>?_
  have zQ:=vp.gb nY (Nat.le_refl _) yv zT;go_wp2_with fail
  refine zw rfl rfl hTy rfl rfl zv rfl ?_
  exact ItemOut.err E.out rfl zQ
 | true =>
 rw[hv]at UV;have E:Hid (zj d (l.drop p) cnt=.ok (.mk 3 0 s []) (k+n) (cnt+1)):=by rw[Hid,E1.out,if_neg (fun h=>by rw[hv]at h;cases h.2)]
 clear hv E1;go_wp2_with fail
 refine UV.out.mono ?_
 rintro e w8 ⟨rfl,mI⟩
 have vp:=yC.below_ mI;have vI:=yS.below mI;clear UV yC yS;go_wp2_with (with_reducible refine zx ?_)
 refine stI vI fun wz hTy zT=>?_
 have zQ:=vp.gb nY (Nat.le_refl _) yv zT;go_wp2_with fail
 refine zw rfl rfl hTy rfl rfl zv rfl ?_
 exact ItemOut.ok E.out rfl (by rw[← Nat.add_assoc,HK.out.2.2.2];exact zQ) (IsItem.str 3 (by omega) IB)
end
section
variable {d:Nat} {w:World} {H:Snap} {g:Nat} {A:Option Addr} {c:Nat} {l:List UInt8} {p cnt lv:Nat}
theorem dE (hTab:Tabs H) (hlv:lv+0=8) (hP:Psr 118 w g H A c l p cnt) (hc:cnt<256) (ur:p<l.length) {ch:UInt8}(rt:l[p]=ch) {low kd:Nat}(yN:ch.toNat%32=low) (pP:ch.toNat/32=kd) (sV:low≤27) (hk:4≤kd∧kd≤6):Calls Tryz.prog 81 #[.pointer (some ⟨g,0,none⟩),.int .i64 (lv:Int)] w (ItemOut 118 w H g A c l p (zj 0 (l.drop p) cnt)):=by
 have yv:=hP.gt;have xg:=(Rdg.refl hP).alloc zg;have we:=Blk.new w 57 #[.int .i64 0,.int .u64 0,.slice none 0 0,.slice none 0 0];have zF:H w.heap.size=none:=hP.holds.none_of_ge (Nat.le_refl _);have c2:=xg.psr.blk.cell 2 rfl;have ED:=uS ur;rw[rt]at ED
 
 have EH0:Hid (zf (l.drop p)=if 27<low then .error 3 else if low<24 then .ok (ch.toNat,low,1) else if(l.drop (p+1)).length<2 ^ (low-24) then .error 2
    else if ch.toNat/32<7∧(zh 0 (beN ((l.drop (p+1)).take (2 ^ (low-24))))).length≠1+2 ^ (low-24) then .error 4
    else .ok (ch.toNat,beN ((l.drop (p+1)).take (2 ^ (low-24))),1+2 ^ (low-24))):=by rw[Hid,ED,zf,yN]
 have z27:¬ ((27:Int)<(low:Int)):=by omega
 have z27b:decide ((27:Int)<(low:Int))=false:=decide_eq_false z27;have ks:=Hh sV;have Xd:=Hh hlv;have nO:Hid (kd<7):=by rw[Hid];omega
 have s7:((kd:Int)==7)=false:=by simp;omega
 have q7:((kd:Int)=7)=False:=eq_false (by omega);have VE:(4:Int)≤(kd:Int):=by omega
 have Su:(kd:Int)≤6:=by omega
 clear sV ED;have z0:¬ (((l.length:Nat):Int)≤(p:Int)):=by omega
 have z0':decide (((l.length:Nat):Int)≤(p:Int))=false:=decide_eq_false z0;have lp:(p:Int)<(l.length:Int):=by omega
 have iZ:(0:Int)≤(p:Int):=by omega
 have qI:=hP.small;have K1:IntKind.i64.wrap ((p:Int)+1)=(p:Int)+1:=IntWalk.i64_in _ (by omega);obtain⟨b,off,rfl,yG⟩:=hP.bytes.at_ (by omega);have KA:=oU ⟨ch.toNat,ch.toNat_lt⟩
 simp only at KA
 rw[yN]at KA;have S:(ch.toNat:Int)/32=(kd:Int):=by omega
 have TW:(kd:Int)≤7:=by have:=ch.toNat_lt;omega
 have oJ:(low:Int)≤31:=by omega
 have qy:=Hh yG;have yw:=Hh (And.intro yN (And.intro pP ur));have bY:=Hh (show H.cell? ⟨b,off+p,none⟩=some (zI ch) by have h:=yG p ur;rw[rt]at h;exact h);clear yG yN pP qI rt;have xv:¬ ((256:Int)≤(cnt:Int)):=by omega
 have yD:decide ((256:Int)≤(cnt:Int))=false:=decide_eq_false xv;have KC:IntKind.i64.wrap ((cnt:Int)+1)=(cnt:Int)+1:=IntWalk.i64_in _ (by omega);have HC:=Hh hc;clear hc;go_enter Tryz.func81,Tryz.ntmps81
 go_wp2_with (with_reducible refine zx ?_)
 refine zu rfl _ _ _ rfl rfl g 2 (.int .i64 ((cnt:Int)+1)) rfl rfl _ _ xg.psr.blk zH (by simp) rfl fun w2 yU yq=>?_
 have wl:Rdg 118 w H w2 H g _ c l p (cnt+1):=xg.step yq yU hP.le (by have:=HC.out;omega);have uv:=we.gr yq (by omega);clear xg we yU yq c2 KC xv yD;have na:=wl.psr.le;have a0:=wl.psr.blk.cell 0 rfl;have a1:=wl.psr.blk.cell 1 rfl;go_wp2_with fail
 go_big_quiet (fail)
 have tv:=wl.drewN nq;have tt:Blk (w2.drewN nq) w.heap.size 57 #[.int .i64 0,.int .u64 0,.slice none 0 0,.slice none 0 0]:=uv
 generalize w2.drewN nq=w3 at tv tt⊢
 obtain⟨xV,xO⟩:=And.intro tv tt;clear tv tt wl uv a0 a1 na;have a0:=xV.psr.blk.cell 0 rfl;have a1:=xV.psr.blk.cell 1 rfl;have q0:=xV.psr.holds.cell bY.out;go_upto_region 6 with fail
 go_big_quiet (fail)
 have ux:=xV.drewN nq;have uw:Blk (w3.drewN nq) w.heap.size 57 #[.int .i64 0,.int .u64 0,.slice none 0 0,.slice none 0 0]:=xO
 generalize w3.drewN nq=w4 at ux uw⊢
 obtain⟨vd,wT⟩:=And.intro ux uw;clear ux uw xV xO a0 a1 q0;have a1:=vd.psr.blk.cell 1 rfl;go_wp2_with (with_reducible refine zx ?_)
 refine zu rfl _ _ _ rfl rfl g 1 (.int .i64 ((p:Int)+1)) rfl rfl _ _ vd.psr.blk zH (by simp) rfl fun w5 sb xM=>?_
 have yi:Rdg 118 w H w5 H g (some ⟨b,off,none⟩) c l (p+1) (cnt+1):=vd.step xM sb yw.out.2.2 (by have:=HC.out;omega);have yt:=wT.gr xM (by omega);clear vd wT sb xM a1 K1 z0 z0' lp iZ KA S;go_upto_region 12 with fail
 have KU:IntKind.u64.wrap (low:Int)=(low:Int):=by rw[IntKind.wrap_u64];omega
 go_upto_if 80 with fail
 go_cut [8] (fun s8 wx=>∃ n k:Nat,zf (l.drop p)=.ok (ch.toNat,n,k)∧s8=.int .u64 (n:Int)∧Rdg 118 w H wx H g (some ⟨b,off,none⟩) c l (p+k) (cnt+1)∧Blk wx w.heap.size 57 #[.int .i64 0,.int .u64 0,.slice none 0 0,.slice none 0 0])
 case first =>
  by_cases hl24:low<24
  ·have z24:¬ ((23:Int)<(low:Int)):=by omega
   have z24b:decide ((23:Int)<(low:Int))=false:=decide_eq_false z24;have EH:Hid (zf (l.drop p)=.ok (ch.toNat,low,1)):=by rw[Hid,EH0.out,if_neg (by have:=ks.out;omega),if_pos hl24]
   clear hl24;go_wp2_with fail
   go_meet
   exact⟨low,1,EH.out,rfl,yi,yt⟩
  have z24:(23:Int)<(low:Int):=by omega
  have EH:Hid (zf (l.drop p)=if(l.drop (p+1)).length<2 ^ (low-24) then .error 2
    else if ch.toNat/32<7∧(zh 0 (beN ((l.drop (p+1)).take (2 ^ (low-24))))).length≠1+2 ^ (low-24) then .error 4
    else .ok (ch.toNat,beN ((l.drop (p+1)).take (2 ^ (low-24))),1+2 ^ (low-24))):=by rw[Hid,EH0.out,if_neg (by have:=ks.out;omega),if_neg hl24]
  clear EH0
  rcases(by have:=ks.out;omega:low=24∨low=25∨low=26∨low=27) with rfl | rfl | rfl | rfl
  ·have NM:=Hh (yO yi.psr 1 (by omega) (by omega));have HD:=Hh (fun n hn w=>yW (kd:Int) ((n:Nat):Int) w (by omega) (by omega) (by omega) hn)
   simp only[Nat.reduceSub,Nat.reducePow,Nat.reduceAdd]at EH
   clear hl24 z24 oJ z27 z27b KU;go_wp2_with fail
   refine NM.out.mono ?_
   rintro e w6 (⟨hs,rfl,yK,zP⟩ | ⟨hs,rfl,yK,zP⟩)
   ·have E:Hid (zj 0 (l.drop p) cnt=.err 2):=by
     have h1:zf (l.drop p)=.error 2:=by rw[EH.out,if_pos (by rw[List.length_drop];have:=yw.out.2.2;omega)]
     rw[Hid,zW 0 (l.drop p) cnt (by have:=HC.out;omega) h1]
    have z8:Rdg 118 w H w6 H g (some ⟨b,off,none⟩) c l (p+1) (cnt+1):=yi.step zP yK yw.out.2.2 (by have:=HC.out;omega);have yj:=yt.gr zP (by omega);clear NM HD hs yi yt yK zP EH;go_wp2_with (with_reducible refine zx ?_)
    refine stI yj fun wz hTy zT=>?_
    have zQ:=z8.gb zF (Nat.le_refl _) yv zT;go_wp2_with fail
    refine zw rfl rfl hTy rfl rfl zv rfl ?_
    exact ItemOut.err E.out rfl zQ
   have z8:Rdg 118 w H w6 H g (some ⟨b,off,none⟩) c l (p+1+1) (cnt+1):=yi.step zP yK hs (by have:=HC.out;omega);have yj:=yt.gr zP (by omega);have xi:=xx ((l.drop (p+1)).take 1);have wi:((l.drop (p+1)).take 1).length=1:=by rw[List.length_take,List.length_drop];omega
   rw[wi]at xi
   simp only[Nat.reducePow]at xi
   obtain⟨n,hn⟩:∃ n,beN ((l.drop (p+1)).take 1)=n:=⟨_,rfl⟩
   have EH2:Hid (zf (l.drop p)=if(zh 0 n).length≠2 then .error 4 else .ok (ch.toNat,n,2)):=by
    rw[Hid,EH.out,if_neg (by rw[List.length_drop];omega),hn];have:=nO.out;have:=yw.out.2.1
    by_cases h:(zh 0 n).length=2 <;> simp[h] <;> omega
   have uj:=Hh (fun w=>HD.out n (by omega) w);rw[hn];have zN:(zh (kd:Int).toNat (n:Int).toNat).length=(zh 0 n).length:=by rw[ze,ze];rfl
   obtain⟨fl,vq⟩:∃ fl,(zh 0 n).length=fl:=⟨_,rfl⟩
   rw[vq]at EH2 zN;have uK:=Hh zN;clear NM HD hs yi yt yK zP EH hn wi xi vq zN;go_wp2_with fail
   refine(uj.out _).mono ?_
   rintro e w7 ⟨r,rfl,hf⟩
   have yC:=z8.below_ hf.2;have yS:=yj.below hf.2;obtain⟨RA,rc,rfl,_⟩:=hf.own.form;rw[uK.out];clear hf uj z8 yj
   by_cases hq:fl=2
   ·subst hq;have EH3:Hid (zf (l.drop p)=.ok (ch.toNat,n,2)):=by rw[Hid,EH2.out,if_neg (by simp)]
    clear EH2;go_wp2_with fail
    go_meet
    exact⟨n,2,EH3.out,rfl,by rw[show p+2=p+1+1 by omega];exact yC,yS⟩
   have zq:((fl:Int)==2)=false:=by simp;omega
   have zq2:((fl:Int)=2)=False:=eq_false (by omega)
   have E:Hid (zj 0 (l.drop p) cnt=.err 4):=by
    have h1:zf (l.drop p)=.error 4:=by rw[EH2.out,if_pos hq]
    rw[Hid,zW 0 (l.drop p) cnt (by have:=HC.out;omega) h1]
   clear EH2 hq;go_wp2_with (with_reducible refine zx ?_)
   refine stI yS fun wz hTy zT=>?_
   have zQ:=yC.gb zF (Nat.le_refl _) yv zT;go_wp2_with fail
   refine zw rfl rfl hTy rfl rfl zv rfl ?_
   exact ItemOut.err E.out rfl zQ
  ·have NM:=Hh (yO yi.psr 2 (by omega) (by omega));have HD:=Hh (fun n hn w=>yW (kd:Int) ((n:Nat):Int) w (by omega) (by omega) (by omega) hn)
   simp only[Nat.reduceSub,Nat.reducePow,Nat.reduceAdd]at EH
   clear hl24 z24 oJ z27 z27b KU;go_wp2_with fail
   refine NM.out.mono ?_
   rintro e w6 (⟨hs,rfl,yK,zP⟩ | ⟨hs,rfl,yK,zP⟩)
   ·have E:Hid (zj 0 (l.drop p) cnt=.err 2):=by
     have h1:zf (l.drop p)=.error 2:=by rw[EH.out,if_pos (by rw[List.length_drop];have:=yw.out.2.2;omega)]
     rw[Hid,zW 0 (l.drop p) cnt (by have:=HC.out;omega) h1]
    have z8:Rdg 118 w H w6 H g (some ⟨b,off,none⟩) c l (p+1) (cnt+1):=yi.step zP yK yw.out.2.2 (by have:=HC.out;omega);have yj:=yt.gr zP (by omega);clear NM HD hs yi yt yK zP EH;go_wp2_with (with_reducible refine zx ?_)
    refine stI yj fun wz hTy zT=>?_
    have zQ:=z8.gb zF (Nat.le_refl _) yv zT;go_wp2_with fail
    refine zw rfl rfl hTy rfl rfl zv rfl ?_
    exact ItemOut.err E.out rfl zQ
   have z8:Rdg 118 w H w6 H g (some ⟨b,off,none⟩) c l (p+1+2) (cnt+1):=yi.step zP yK hs (by have:=HC.out;omega);have yj:=yt.gr zP (by omega);have xi:=xx ((l.drop (p+1)).take 2);have wi:((l.drop (p+1)).take 2).length=2:=by rw[List.length_take,List.length_drop];omega
   rw[wi]at xi
   simp only[Nat.reducePow]at xi
   obtain⟨n,hn⟩:∃ n,beN ((l.drop (p+1)).take 2)=n:=⟨_,rfl⟩
   have EH2:Hid (zf (l.drop p)=if(zh 0 n).length≠3 then .error 4 else .ok (ch.toNat,n,3)):=by
    rw[Hid,EH.out,if_neg (by rw[List.length_drop];omega),hn];have:=nO.out;have:=yw.out.2.1
    by_cases h:(zh 0 n).length=3 <;> simp[h] <;> omega
   have uj:=Hh (fun w=>HD.out n (by omega) w);rw[hn];have zN:(zh (kd:Int).toNat (n:Int).toNat).length=(zh 0 n).length:=by rw[ze,ze];rfl
   obtain⟨fl,vq⟩:∃ fl,(zh 0 n).length=fl:=⟨_,rfl⟩
   rw[vq]at EH2 zN;have uK:=Hh zN;clear NM HD hs yi yt yK zP EH hn wi xi vq zN;go_wp2_with fail
   refine(uj.out _).mono ?_
   rintro e w7 ⟨r,rfl,hf⟩
   have yC:=z8.below_ hf.2;have yS:=yj.below hf.2;obtain⟨RA,rc,rfl,_⟩:=hf.own.form;rw[uK.out];clear hf uj z8 yj
   by_cases hq:fl=3
   ·subst hq;have EH3:Hid (zf (l.drop p)=.ok (ch.toNat,n,3)):=by rw[Hid,EH2.out,if_neg (by simp)]
    clear EH2;go_wp2_with fail
    go_meet
    exact⟨n,3,EH3.out,rfl,by rw[show p+3=p+1+2 by omega];exact yC,yS⟩
   have zq:((fl:Int)==3)=false:=by simp;omega
   have zq2:((fl:Int)=3)=False:=eq_false (by omega)
   have E:Hid (zj 0 (l.drop p) cnt=.err 4):=by
    have h1:zf (l.drop p)=.error 4:=by rw[EH2.out,if_pos hq]
    rw[Hid,zW 0 (l.drop p) cnt (by have:=HC.out;omega) h1]
   clear EH2 hq;go_wp2_with (with_reducible refine zx ?_)
   refine stI yS fun wz hTy zT=>?_
   have zQ:=yC.gb zF (Nat.le_refl _) yv zT;go_wp2_with fail
   refine zw rfl rfl hTy rfl rfl zv rfl ?_
   exact ItemOut.err E.out rfl zQ
  ·have NM:=Hh (yO yi.psr 4 (by omega) (by omega));have HD:=Hh (fun n hn w=>yW (kd:Int) ((n:Nat):Int) w (by omega) (by omega) (by omega) hn)
   simp only[Nat.reduceSub,Nat.reducePow,Nat.reduceAdd]at EH
   clear hl24 z24 oJ z27 z27b KU;go_wp2_with fail
   refine NM.out.mono ?_
   rintro e w6 (⟨hs,rfl,yK,zP⟩ | ⟨hs,rfl,yK,zP⟩)
   ·have E:Hid (zj 0 (l.drop p) cnt=.err 2):=by
     have h1:zf (l.drop p)=.error 2:=by rw[EH.out,if_pos (by rw[List.length_drop];have:=yw.out.2.2;omega)]
     rw[Hid,zW 0 (l.drop p) cnt (by have:=HC.out;omega) h1]
    have z8:Rdg 118 w H w6 H g (some ⟨b,off,none⟩) c l (p+1) (cnt+1):=yi.step zP yK yw.out.2.2 (by have:=HC.out;omega);have yj:=yt.gr zP (by omega);clear NM HD hs yi yt yK zP EH;go_wp2_with (with_reducible refine zx ?_)
    refine stI yj fun wz hTy zT=>?_
    have zQ:=z8.gb zF (Nat.le_refl _) yv zT;go_wp2_with fail
    refine zw rfl rfl hTy rfl rfl zv rfl ?_
    exact ItemOut.err E.out rfl zQ
   have z8:Rdg 118 w H w6 H g (some ⟨b,off,none⟩) c l (p+1+4) (cnt+1):=yi.step zP yK hs (by have:=HC.out;omega);have yj:=yt.gr zP (by omega);have xi:=xx ((l.drop (p+1)).take 4);have wi:((l.drop (p+1)).take 4).length=4:=by rw[List.length_take,List.length_drop];omega
   rw[wi]at xi
   simp only[Nat.reducePow]at xi
   obtain⟨n,hn⟩:∃ n,beN ((l.drop (p+1)).take 4)=n:=⟨_,rfl⟩
   have EH2:Hid (zf (l.drop p)=if(zh 0 n).length≠5 then .error 4 else .ok (ch.toNat,n,5)):=by
    rw[Hid,EH.out,if_neg (by rw[List.length_drop];omega),hn];have:=nO.out;have:=yw.out.2.1
    by_cases h:(zh 0 n).length=5 <;> simp[h] <;> omega
   have uj:=Hh (fun w=>HD.out n (by omega) w);rw[hn];have zN:(zh (kd:Int).toNat (n:Int).toNat).length=(zh 0 n).length:=by rw[ze,ze];rfl
   obtain⟨fl,vq⟩:∃ fl,(zh 0 n).length=fl:=⟨_,rfl⟩
   rw[vq]at EH2 zN;have uK:=Hh zN;clear NM HD hs yi yt yK zP EH hn wi xi vq zN;go_wp2_with fail
   refine(uj.out _).mono ?_
   rintro e w7 ⟨r,rfl,hf⟩
   have yC:=z8.below_ hf.2;have yS:=yj.below hf.2;obtain⟨RA,rc,rfl,_⟩:=hf.own.form;rw[uK.out];clear hf uj z8 yj
   by_cases hq:fl=5
   ·subst hq;have EH3:Hid (zf (l.drop p)=.ok (ch.toNat,n,5)):=by rw[Hid,EH2.out,if_neg (by simp)]
    clear EH2;go_wp2_with fail
    go_meet
    exact⟨n,5,EH3.out,rfl,by rw[show p+5=p+1+4 by omega];exact yC,yS⟩
   have zq:((fl:Int)==5)=false:=by simp;omega
   have zq2:((fl:Int)=5)=False:=eq_false (by omega)
   have E:Hid (zj 0 (l.drop p) cnt=.err 4):=by
    have h1:zf (l.drop p)=.error 4:=by rw[EH2.out,if_pos hq]
    rw[Hid,zW 0 (l.drop p) cnt (by have:=HC.out;omega) h1]
   clear EH2 hq;go_wp2_with (with_reducible refine zx ?_)
   refine stI yS fun wz hTy zT=>?_
   have zQ:=yC.gb zF (Nat.le_refl _) yv zT;go_wp2_with fail
   refine zw rfl rfl hTy rfl rfl zv rfl ?_
   exact ItemOut.err E.out rfl zQ
  have NM:=Hh (yO yi.psr 8 (by omega) (by omega));have HD:=Hh (fun n hn w=>yW (kd:Int) ((n:Nat):Int) w (by omega) (by omega) (by omega) hn)
  simp only[Nat.reduceSub,Nat.reducePow,Nat.reduceAdd]at EH
  clear hl24 z24 oJ z27 z27b KU;go_wp2_with fail
  refine NM.out.mono ?_
  rintro e w6 (⟨hs,rfl,yK,zP⟩ | ⟨hs,rfl,yK,zP⟩)
  ·have E:Hid (zj 0 (l.drop p) cnt=.err 2):=by
    have h1:zf (l.drop p)=.error 2:=by rw[EH.out,if_pos (by rw[List.length_drop];have:=yw.out.2.2;omega)]
    rw[Hid,zW 0 (l.drop p) cnt (by have:=HC.out;omega) h1]
   have z8:Rdg 118 w H w6 H g (some ⟨b,off,none⟩) c l (p+1) (cnt+1):=yi.step zP yK yw.out.2.2 (by have:=HC.out;omega);have yj:=yt.gr zP (by omega);clear NM HD hs yi yt yK zP EH;go_wp2_with (with_reducible refine zx ?_)
   refine stI yj fun wz hTy zT=>?_
   have zQ:=z8.gb zF (Nat.le_refl _) yv zT;go_wp2_with fail
   refine zw rfl rfl hTy rfl rfl zv rfl ?_
   exact ItemOut.err E.out rfl zQ
  have z8:Rdg 118 w H w6 H g (some ⟨b,off,none⟩) c l (p+1+8) (cnt+1):=yi.step zP yK hs (by have:=HC.out;omega);have yj:=yt.gr zP (by omega);have xi:=xx ((l.drop (p+1)).take 8);have wi:((l.drop (p+1)).take 8).length=8:=by rw[List.length_take,List.length_drop];omega
  rw[wi]at xi
  simp only[Nat.reducePow]at xi
  obtain⟨n,hn⟩:∃ n,beN ((l.drop (p+1)).take 8)=n:=⟨_,rfl⟩
  have EH2:Hid (zf (l.drop p)=if(zh 0 n).length≠9 then .error 4 else .ok (ch.toNat,n,9)):=by
   rw[Hid,EH.out,if_neg (by rw[List.length_drop];omega),hn];have:=nO.out;have:=yw.out.2.1
   by_cases h:(zh 0 n).length=9 <;> simp[h] <;> omega
  have uj:=Hh (fun w=>HD.out n (by omega) w);rw[hn];have zN:(zh (kd:Int).toNat (n:Int).toNat).length=(zh 0 n).length:=by rw[ze,ze];rfl
  obtain⟨fl,vq⟩:∃ fl,(zh 0 n).length=fl:=⟨_,rfl⟩
  rw[vq]at EH2 zN;have uK:=Hh zN;clear NM HD hs yi yt yK zP EH hn wi xi vq zN;go_wp2_with fail
  refine(uj.out _).mono ?_
  rintro e w7 ⟨r,rfl,hf⟩
  have yC:=z8.below_ hf.2;have yS:=yj.below hf.2;obtain⟨RA,rc,rfl,_⟩:=hf.own.form;rw[uK.out];clear hf uj z8 yj
  by_cases hq:fl=9
  ·subst hq;have EH3:Hid (zf (l.drop p)=.ok (ch.toNat,n,9)):=by rw[Hid,EH2.out,if_neg (by simp)]
   clear EH2;go_wp2_with fail
   go_meet
   exact⟨n,9,EH3.out,rfl,by rw[show p+9=p+1+8 by omega];exact yC,yS⟩
  have zq:((fl:Int)==9)=false:=by simp;omega
  have zq2:((fl:Int)=9)=False:=eq_false (by omega)
  have E:Hid (zj 0 (l.drop p) cnt=.err 4):=by
   have h1:zf (l.drop p)=.error 4:=by rw[EH2.out,if_pos hq]
   rw[Hid,zW 0 (l.drop p) cnt (by have:=HC.out;omega) h1]
  clear EH2 hq;go_wp2_with (with_reducible refine zx ?_)
  refine stI yS fun wz hTy zT=>?_
  have zQ:=yC.gb zF (Nat.le_refl _) yv zT;go_wp2_with fail
  refine zw rfl rfl hTy rfl rfl zv rfl ?_
  exact ItemOut.err E.out rfl zQ
 case rest =>
 obtain⟨n,k,hh,rfl,vp,vI⟩:=hcut;have HF:=Hh (xo hh);have HH:=Hh hh;clear hh yi yt;have E:=Hh (jH (l.drop p) cnt (by have:=HC.out;omega) HH.out (by have:=yw.out.2.1;omega) (by have:=yw.out.2.1;omega));have s0:((kd:Int)==0)=false:=by simp;omega
 have s1:((kd:Int)==1)=false:=by simp;omega
 have s2:((kd:Int)==2)=false:=by simp;omega
 have s3:((kd:Int)==3)=false:=by simp;omega
 have q0:((kd:Int)=0)=False:=eq_false (by omega);have q1:((kd:Int)=1)=False:=eq_false (by omega);have q2:((kd:Int)=2)=False:=eq_false (by omega);have q3:((kd:Int)=3)=False:=eq_false (by omega);have PT:lv=8:=by have:=Xd.out;omega
 subst PT;go_wp2_with (with_reducible refine zx ?_)
 refine stI vI fun wz hTy zT=>?_
 have zQ:=vp.gb zF (Nat.le_refl _) yv zT;go_wp2_with fail
 refine zw rfl rfl hTy rfl rfl zv rfl ?_
 exact ItemOut.err E.out rfl zQ
theorem dD (hTab:Tabs H) (hE:Wg d) (hlv:lv+(d+1)=8) (hP:Psr 118 w g H A c l p cnt) (hc:cnt<256) (ur:p<l.length) {ch:UInt8}(rt:l[p]=ch) {low kd:Nat}(yN:ch.toNat%32=low) (pP:ch.toNat/32=kd) (sV:low≤27) (hk:4≤kd∧kd≤6):Calls Tryz.prog 81 #[.pointer (some ⟨g,0,none⟩),.int .i64 (lv:Int)] w (ItemOut 118 w H g A c l p (zj (d+1) (l.drop p) cnt)):=by
 have yv:=hP.gt;have xg:=(Rdg.refl hP).alloc zg;have we:=Blk.new w 57 #[.int .i64 0,.int .u64 0,.slice none 0 0,.slice none 0 0];have zF:H w.heap.size=none:=hP.holds.none_of_ge (Nat.le_refl _);have c2:=xg.psr.blk.cell 2 rfl;have ED:=uS ur;rw[rt]at ED
 
 have EH0:Hid (zf (l.drop p)=if 27<low then .error 3 else if low<24 then .ok (ch.toNat,low,1) else if(l.drop (p+1)).length<2 ^ (low-24) then .error 2
    else if ch.toNat/32<7∧(zh 0 (beN ((l.drop (p+1)).take (2 ^ (low-24))))).length≠1+2 ^ (low-24) then .error 4
    else .ok (ch.toNat,beN ((l.drop (p+1)).take (2 ^ (low-24))),1+2 ^ (low-24))):=by rw[Hid,ED,zf,yN]
 have z27:¬ ((27:Int)<(low:Int)):=by omega
 have z27b:decide ((27:Int)<(low:Int))=false:=decide_eq_false z27;have ks:=Hh sV;have Xd:=Hh hlv;have nO:Hid (kd<7):=by rw[Hid];omega
 have s7:((kd:Int)==7)=false:=by simp;omega
 have q7:((kd:Int)=7)=False:=eq_false (by omega);have VE:(4:Int)≤(kd:Int):=by omega
 have Su:(kd:Int)≤6:=by omega
 clear sV ED;have z0:¬ (((l.length:Nat):Int)≤(p:Int)):=by omega
 have z0':decide (((l.length:Nat):Int)≤(p:Int))=false:=decide_eq_false z0;have lp:(p:Int)<(l.length:Int):=by omega
 have iZ:(0:Int)≤(p:Int):=by omega
 have qI:=hP.small;have K1:IntKind.i64.wrap ((p:Int)+1)=(p:Int)+1:=IntWalk.i64_in _ (by omega);obtain⟨b,off,rfl,yG⟩:=hP.bytes.at_ (by omega);have KA:=oU ⟨ch.toNat,ch.toNat_lt⟩
 simp only at KA
 rw[yN]at KA;have S:(ch.toNat:Int)/32=(kd:Int):=by omega
 have TW:(kd:Int)≤7:=by have:=ch.toNat_lt;omega
 have oJ:(low:Int)≤31:=by omega
 have qy:=Hh yG;have yw:=Hh (And.intro yN (And.intro pP ur));have bY:=Hh (show H.cell? ⟨b,off+p,none⟩=some (zI ch) by have h:=yG p ur;rw[rt]at h;exact h);clear yG yN pP qI rt;have xv:¬ ((256:Int)≤(cnt:Int)):=by omega
 have yD:decide ((256:Int)≤(cnt:Int))=false:=decide_eq_false xv;have KC:IntKind.i64.wrap ((cnt:Int)+1)=(cnt:Int)+1:=IntWalk.i64_in _ (by omega);have HC:=Hh hc;clear hc;go_enter Tryz.func81,Tryz.ntmps81
 go_wp2_with (with_reducible refine zx ?_)
 refine zu rfl _ _ _ rfl rfl g 2 (.int .i64 ((cnt:Int)+1)) rfl rfl _ _ xg.psr.blk zH (by simp) rfl fun w2 yU yq=>?_
 have wl:Rdg 118 w H w2 H g _ c l p (cnt+1):=xg.step yq yU hP.le (by have:=HC.out;omega);have uv:=we.gr yq (by omega);clear xg we yU yq c2 KC xv yD;have na:=wl.psr.le;have a0:=wl.psr.blk.cell 0 rfl;have a1:=wl.psr.blk.cell 1 rfl;go_wp2_with fail
 go_big_quiet (fail)
 have tv:=wl.drewN nq;have tt:Blk (w2.drewN nq) w.heap.size 57 #[.int .i64 0,.int .u64 0,.slice none 0 0,.slice none 0 0]:=uv
 generalize w2.drewN nq=w3 at tv tt⊢
 obtain⟨xV,xO⟩:=And.intro tv tt;clear tv tt wl uv a0 a1 na;have a0:=xV.psr.blk.cell 0 rfl;have a1:=xV.psr.blk.cell 1 rfl;have q0:=xV.psr.holds.cell bY.out;go_upto_region 6 with fail
 go_big_quiet (fail)
 have ux:=xV.drewN nq;have uw:Blk (w3.drewN nq) w.heap.size 57 #[.int .i64 0,.int .u64 0,.slice none 0 0,.slice none 0 0]:=xO
 generalize w3.drewN nq=w4 at ux uw⊢
 obtain⟨vd,wT⟩:=And.intro ux uw;clear ux uw xV xO a0 a1 q0;have a1:=vd.psr.blk.cell 1 rfl;go_wp2_with (with_reducible refine zx ?_)
 refine zu rfl _ _ _ rfl rfl g 1 (.int .i64 ((p:Int)+1)) rfl rfl _ _ vd.psr.blk zH (by simp) rfl fun w5 sb xM=>?_
 have yi:Rdg 118 w H w5 H g (some ⟨b,off,none⟩) c l (p+1) (cnt+1):=vd.step xM sb yw.out.2.2 (by have:=HC.out;omega);have yt:=wT.gr xM (by omega);clear vd wT sb xM a1 K1 z0 z0' lp iZ KA S;go_upto_region 12 with fail
 have KU:IntKind.u64.wrap (low:Int)=(low:Int):=by rw[IntKind.wrap_u64];omega
 go_upto_if 80 with fail
 go_cut [8] (fun s8 wx=>∃ n k:Nat,zf (l.drop p)=.ok (ch.toNat,n,k)∧s8=.int .u64 (n:Int)∧Rdg 118 w H wx H g (some ⟨b,off,none⟩) c l (p+k) (cnt+1)∧Blk wx w.heap.size 57 #[.int .i64 0,.int .u64 0,.slice none 0 0,.slice none 0 0])
 case first =>
  by_cases hl24:low<24
  ·have z24:¬ ((23:Int)<(low:Int)):=by omega
   have z24b:decide ((23:Int)<(low:Int))=false:=decide_eq_false z24;have EH:Hid (zf (l.drop p)=.ok (ch.toNat,low,1)):=by rw[Hid,EH0.out,if_neg (by have:=ks.out;omega),if_pos hl24]
   clear hl24;go_wp2_with fail
   go_meet
   exact⟨low,1,EH.out,rfl,yi,yt⟩
  have z24:(23:Int)<(low:Int):=by omega
  have EH:Hid (zf (l.drop p)=if(l.drop (p+1)).length<2 ^ (low-24) then .error 2
    else if ch.toNat/32<7∧(zh 0 (beN ((l.drop (p+1)).take (2 ^ (low-24))))).length≠1+2 ^ (low-24) then .error 4
    else .ok (ch.toNat,beN ((l.drop (p+1)).take (2 ^ (low-24))),1+2 ^ (low-24))):=by rw[Hid,EH0.out,if_neg (by have:=ks.out;omega),if_neg hl24]
  clear EH0
  rcases(by have:=ks.out;omega:low=24∨low=25∨low=26∨low=27) with rfl | rfl | rfl | rfl
  ·have NM:=Hh (yO yi.psr 1 (by omega) (by omega));have HD:=Hh (fun n hn w=>yW (kd:Int) ((n:Nat):Int) w (by omega) (by omega) (by omega) hn)
   simp only[Nat.reduceSub,Nat.reducePow,Nat.reduceAdd]at EH
   clear hl24 z24 oJ z27 z27b KU;go_wp2_with fail
   refine NM.out.mono ?_
   rintro e w6 (⟨hs,rfl,yK,zP⟩ | ⟨hs,rfl,yK,zP⟩)
   ·have E:Hid (zj (d+1) (l.drop p) cnt=.err 2):=by
     have h1:zf (l.drop p)=.error 2:=by rw[EH.out,if_pos (by rw[List.length_drop];have:=yw.out.2.2;omega)]
     rw[Hid,zW (d+1) (l.drop p) cnt (by have:=HC.out;omega) h1]
    have z8:Rdg 118 w H w6 H g (some ⟨b,off,none⟩) c l (p+1) (cnt+1):=yi.step zP yK yw.out.2.2 (by have:=HC.out;omega);have yj:=yt.gr zP (by omega);clear NM HD hs yi yt yK zP EH;go_wp2_with (with_reducible refine zx ?_)
    refine stI yj fun wz hTy zT=>?_
    have zQ:=z8.gb zF (Nat.le_refl _) yv zT;go_wp2_with fail
    refine zw rfl rfl hTy rfl rfl zv rfl ?_
    exact ItemOut.err E.out rfl zQ
   have z8:Rdg 118 w H w6 H g (some ⟨b,off,none⟩) c l (p+1+1) (cnt+1):=yi.step zP yK hs (by have:=HC.out;omega);have yj:=yt.gr zP (by omega);have xi:=xx ((l.drop (p+1)).take 1);have wi:((l.drop (p+1)).take 1).length=1:=by rw[List.length_take,List.length_drop];omega
   rw[wi]at xi
   simp only[Nat.reducePow]at xi
   obtain⟨n,hn⟩:∃ n,beN ((l.drop (p+1)).take 1)=n:=⟨_,rfl⟩
   have EH2:Hid (zf (l.drop p)=if(zh 0 n).length≠2 then .error 4 else .ok (ch.toNat,n,2)):=by
    rw[Hid,EH.out,if_neg (by rw[List.length_drop];omega),hn];have:=nO.out;have:=yw.out.2.1
    by_cases h:(zh 0 n).length=2 <;> simp[h] <;> omega
   have uj:=Hh (fun w=>HD.out n (by omega) w);rw[hn];have zN:(zh (kd:Int).toNat (n:Int).toNat).length=(zh 0 n).length:=by rw[ze,ze];rfl
   obtain⟨fl,vq⟩:∃ fl,(zh 0 n).length=fl:=⟨_,rfl⟩
   rw[vq]at EH2 zN;have uK:=Hh zN;clear NM HD hs yi yt yK zP EH hn wi xi vq zN;go_wp2_with fail
   refine(uj.out _).mono ?_
   rintro e w7 ⟨r,rfl,hf⟩
   have yC:=z8.below_ hf.2;have yS:=yj.below hf.2;obtain⟨RA,rc,rfl,_⟩:=hf.own.form;rw[uK.out];clear hf uj z8 yj
   by_cases hq:fl=2
   ·subst hq;have EH3:Hid (zf (l.drop p)=.ok (ch.toNat,n,2)):=by rw[Hid,EH2.out,if_neg (by simp)]
    clear EH2;go_wp2_with fail
    go_meet
    exact⟨n,2,EH3.out,rfl,by rw[show p+2=p+1+1 by omega];exact yC,yS⟩
   have zq:((fl:Int)==2)=false:=by simp;omega
   have zq2:((fl:Int)=2)=False:=eq_false (by omega)
   have E:Hid (zj (d+1) (l.drop p) cnt=.err 4):=by
    have h1:zf (l.drop p)=.error 4:=by rw[EH2.out,if_pos hq]
    rw[Hid,zW (d+1) (l.drop p) cnt (by have:=HC.out;omega) h1]
   clear EH2 hq;go_wp2_with (with_reducible refine zx ?_)
   refine stI yS fun wz hTy zT=>?_
   have zQ:=yC.gb zF (Nat.le_refl _) yv zT;go_wp2_with fail
   refine zw rfl rfl hTy rfl rfl zv rfl ?_
   exact ItemOut.err E.out rfl zQ
  ·have NM:=Hh (yO yi.psr 2 (by omega) (by omega));have HD:=Hh (fun n hn w=>yW (kd:Int) ((n:Nat):Int) w (by omega) (by omega) (by omega) hn)
   simp only[Nat.reduceSub,Nat.reducePow,Nat.reduceAdd]at EH
   clear hl24 z24 oJ z27 z27b KU;go_wp2_with fail
   refine NM.out.mono ?_
   rintro e w6 (⟨hs,rfl,yK,zP⟩ | ⟨hs,rfl,yK,zP⟩)
   ·have E:Hid (zj (d+1) (l.drop p) cnt=.err 2):=by
     have h1:zf (l.drop p)=.error 2:=by rw[EH.out,if_pos (by rw[List.length_drop];have:=yw.out.2.2;omega)]
     rw[Hid,zW (d+1) (l.drop p) cnt (by have:=HC.out;omega) h1]
    have z8:Rdg 118 w H w6 H g (some ⟨b,off,none⟩) c l (p+1) (cnt+1):=yi.step zP yK yw.out.2.2 (by have:=HC.out;omega);have yj:=yt.gr zP (by omega);clear NM HD hs yi yt yK zP EH;go_wp2_with (with_reducible refine zx ?_)
    refine stI yj fun wz hTy zT=>?_
    have zQ:=z8.gb zF (Nat.le_refl _) yv zT;go_wp2_with fail
    refine zw rfl rfl hTy rfl rfl zv rfl ?_
    exact ItemOut.err E.out rfl zQ
   have z8:Rdg 118 w H w6 H g (some ⟨b,off,none⟩) c l (p+1+2) (cnt+1):=yi.step zP yK hs (by have:=HC.out;omega);have yj:=yt.gr zP (by omega);have xi:=xx ((l.drop (p+1)).take 2);have wi:((l.drop (p+1)).take 2).length=2:=by rw[List.length_take,List.length_drop];omega
   rw[wi]at xi
   simp only[Nat.reducePow]at xi
   obtain⟨n,hn⟩:∃ n,beN ((l.drop (p+1)).take 2)=n:=⟨_,rfl⟩
   have EH2:Hid (zf (l.drop p)=if(zh 0 n).length≠3 then .error 4 else .ok (ch.toNat,n,3)):=by
    rw[Hid,EH.out,if_neg (by rw[List.length_drop];omega),hn];have:=nO.out;have:=yw.out.2.1
    by_cases h:(zh 0 n).length=3 <;> simp[h] <;> omega
   have uj:=Hh (fun w=>HD.out n (by omega) w);rw[hn];have zN:(zh (kd:Int).toNat (n:Int).toNat).length=(zh 0 n).length:=by rw[ze,ze];rfl
   obtain⟨fl,vq⟩:∃ fl,(zh 0 n).length=fl:=⟨_,rfl⟩
   rw[vq]at EH2 zN;have uK:=Hh zN;clear NM HD hs yi yt yK zP EH hn wi xi vq zN;go_wp2_with fail
   refine(uj.out _).mono ?_
   rintro e w7 ⟨r,rfl,hf⟩
   have yC:=z8.below_ hf.2;have yS:=yj.below hf.2;obtain⟨RA,rc,rfl,_⟩:=hf.own.form;rw[uK.out];clear hf uj z8 yj
   by_cases hq:fl=3
   ·subst hq;have EH3:Hid (zf (l.drop p)=.ok (ch.toNat,n,3)):=by rw[Hid,EH2.out,if_neg (by simp)]
    clear EH2;go_wp2_with fail
    go_meet
    exact⟨n,3,EH3.out,rfl,by rw[show p+3=p+1+2 by omega];exact yC,yS⟩
   have zq:((fl:Int)==3)=false:=by simp;omega
   have zq2:((fl:Int)=3)=False:=eq_false (by omega)
   have E:Hid (zj (d+1) (l.drop p) cnt=.err 4):=by
    have h1:zf (l.drop p)=.error 4:=by rw[EH2.out,if_pos hq]
    rw[Hid,zW (d+1) (l.drop p) cnt (by have:=HC.out;omega) h1]
   clear EH2 hq;go_wp2_with (with_reducible refine zx ?_)
   refine stI yS fun wz hTy zT=>?_
   have zQ:=yC.gb zF (Nat.le_refl _) yv zT;go_wp2_with fail
   refine zw rfl rfl hTy rfl rfl zv rfl ?_
   exact ItemOut.err E.out rfl zQ
  ·have NM:=Hh (yO yi.psr 4 (by omega) (by omega));have HD:=Hh (fun n hn w=>yW (kd:Int) ((n:Nat):Int) w (by omega) (by omega) (by omega) hn)
   simp only[Nat.reduceSub,Nat.reducePow,Nat.reduceAdd]at EH
   clear hl24 z24 oJ z27 z27b KU;go_wp2_with fail
   refine NM.out.mono ?_
   rintro e w6 (⟨hs,rfl,yK,zP⟩ | ⟨hs,rfl,yK,zP⟩)
   ·have E:Hid (zj (d+1) (l.drop p) cnt=.err 2):=by
     have h1:zf (l.drop p)=.error 2:=by rw[EH.out,if_pos (by rw[List.length_drop];have:=yw.out.2.2;omega)]
     rw[Hid,zW (d+1) (l.drop p) cnt (by have:=HC.out;omega) h1]
    have z8:Rdg 118 w H w6 H g (some ⟨b,off,none⟩) c l (p+1) (cnt+1):=yi.step zP yK yw.out.2.2 (by have:=HC.out;omega);have yj:=yt.gr zP (by omega);clear NM HD hs yi yt yK zP EH;go_wp2_with (with_reducible refine zx ?_)
    refine stI yj fun wz hTy zT=>?_
    have zQ:=z8.gb zF (Nat.le_refl _) yv zT;go_wp2_with fail
    refine zw rfl rfl hTy rfl rfl zv rfl ?_
    exact ItemOut.err E.out rfl zQ
   have z8:Rdg 118 w H w6 H g (some ⟨b,off,none⟩) c l (p+1+4) (cnt+1):=yi.step zP yK hs (by have:=HC.out;omega);have yj:=yt.gr zP (by omega);have xi:=xx ((l.drop (p+1)).take 4);have wi:((l.drop (p+1)).take 4).length=4:=by rw[List.length_take,List.length_drop];omega
   rw[wi]at xi
   simp only[Nat.reducePow]at xi
   obtain⟨n,hn⟩:∃ n,beN ((l.drop (p+1)).take 4)=n:=⟨_,rfl⟩
   have EH2:Hid (zf (l.drop p)=if(zh 0 n).length≠5 then .error 4 else .ok (ch.toNat,n,5)):=by
    rw[Hid,EH.out,if_neg (by rw[List.length_drop];omega),hn];have:=nO.out;have:=yw.out.2.1
    by_cases h:(zh 0 n).length=5 <;> simp[h] <;> omega
   have uj:=Hh (fun w=>HD.out n (by omega) w);rw[hn];have zN:(zh (kd:Int).toNat (n:Int).toNat).length=(zh 0 n).length:=by rw[ze,ze];rfl
   obtain⟨fl,vq⟩:∃ fl,(zh 0 n).length=fl:=⟨_,rfl⟩
   rw[vq]at EH2 zN;have uK:=Hh zN;clear NM HD hs yi yt yK zP EH hn wi xi vq zN;go_wp2_with fail
   refine(uj.out _).mono ?_
   rintro e w7 ⟨r,rfl,hf⟩
   have yC:=z8.below_ hf.2;have yS:=yj.below hf.2;obtain⟨RA,rc,rfl,_⟩:=hf.own.form;rw[uK.out];clear hf uj z8 yj
   by_cases hq:fl=5
   ·subst hq;have EH3:Hid (zf (l.drop p)=.ok (ch.toNat,n,5)):=by rw[Hid,EH2.out,if_neg (by simp)]
    clear EH2;go_wp2_with fail
    go_meet
    exact⟨n,5,EH3.out,rfl,by rw[show p+5=p+1+4 by omega];exact yC,yS⟩
   have zq:((fl:Int)==5)=false:=by simp;omega
   have zq2:((fl:Int)=5)=False:=eq_false (by omega)
   have E:Hid (zj (d+1) (l.drop p) cnt=.err 4):=by
    have h1:zf (l.drop p)=.error 4:=by rw[EH2.out,if_pos hq]
    rw[Hid,zW (d+1) (l.drop p) cnt (by have:=HC.out;omega) h1]
   clear EH2 hq;go_wp2_with (with_reducible refine zx ?_)
   refine stI yS fun wz hTy zT=>?_
   have zQ:=yC.gb zF (Nat.le_refl _) yv zT;go_wp2_with fail
   refine zw rfl rfl hTy rfl rfl zv rfl ?_
   exact ItemOut.err E.out rfl zQ
  have NM:=Hh (yO yi.psr 8 (by omega) (by omega));have HD:=Hh (fun n hn w=>yW (kd:Int) ((n:Nat):Int) w (by omega) (by omega) (by omega) hn)
  simp only[Nat.reduceSub,Nat.reducePow,Nat.reduceAdd]at EH
  clear hl24 z24 oJ z27 z27b KU;go_wp2_with fail
  refine NM.out.mono ?_
  rintro e w6 (⟨hs,rfl,yK,zP⟩ | ⟨hs,rfl,yK,zP⟩)
  ·have E:Hid (zj (d+1) (l.drop p) cnt=.err 2):=by
    have h1:zf (l.drop p)=.error 2:=by rw[EH.out,if_pos (by rw[List.length_drop];have:=yw.out.2.2;omega)]
    rw[Hid,zW (d+1) (l.drop p) cnt (by have:=HC.out;omega) h1]
   have z8:Rdg 118 w H w6 H g (some ⟨b,off,none⟩) c l (p+1) (cnt+1):=yi.step zP yK yw.out.2.2 (by have:=HC.out;omega);have yj:=yt.gr zP (by omega);clear NM HD hs yi yt yK zP EH;go_wp2_with (with_reducible refine zx ?_)
   refine stI yj fun wz hTy zT=>?_
   have zQ:=z8.gb zF (Nat.le_refl _) yv zT;go_wp2_with fail
   refine zw rfl rfl hTy rfl rfl zv rfl ?_
   exact ItemOut.err E.out rfl zQ
  have z8:Rdg 118 w H w6 H g (some ⟨b,off,none⟩) c l (p+1+8) (cnt+1):=yi.step zP yK hs (by have:=HC.out;omega);have yj:=yt.gr zP (by omega);have xi:=xx ((l.drop (p+1)).take 8);have wi:((l.drop (p+1)).take 8).length=8:=by rw[List.length_take,List.length_drop];omega
  rw[wi]at xi
  simp only[Nat.reducePow]at xi
  obtain⟨n,hn⟩:∃ n,beN ((l.drop (p+1)).take 8)=n:=⟨_,rfl⟩
  have EH2:Hid (zf (l.drop p)=if(zh 0 n).length≠9 then .error 4 else .ok (ch.toNat,n,9)):=by
   rw[Hid,EH.out,if_neg (by rw[List.length_drop];omega),hn];have:=nO.out;have:=yw.out.2.1
   by_cases h:(zh 0 n).length=9 <;> simp[h] <;> omega
  have uj:=Hh (fun w=>HD.out n (by omega) w);rw[hn];have zN:(zh (kd:Int).toNat (n:Int).toNat).length=(zh 0 n).length:=by rw[ze,ze];rfl
  obtain⟨fl,vq⟩:∃ fl,(zh 0 n).length=fl:=⟨_,rfl⟩
  rw[vq]at EH2 zN;have uK:=Hh zN;clear NM HD hs yi yt yK zP EH hn wi xi vq zN;go_wp2_with fail
  refine(uj.out _).mono ?_
  rintro e w7 ⟨r,rfl,hf⟩
  have yC:=z8.below_ hf.2;have yS:=yj.below hf.2;obtain⟨RA,rc,rfl,_⟩:=hf.own.form;rw[uK.out];clear hf uj z8 yj
  by_cases hq:fl=9
  ·subst hq;have EH3:Hid (zf (l.drop p)=.ok (ch.toNat,n,9)):=by rw[Hid,EH2.out,if_neg (by simp)]
   clear EH2;go_wp2_with fail
   go_meet
   exact⟨n,9,EH3.out,rfl,by rw[show p+9=p+1+8 by omega];exact yC,yS⟩
  have zq:((fl:Int)==9)=false:=by simp;omega
  have zq2:((fl:Int)=9)=False:=eq_false (by omega)
  have E:Hid (zj (d+1) (l.drop p) cnt=.err 4):=by
   have h1:zf (l.drop p)=.error 4:=by rw[EH2.out,if_pos hq]
   rw[Hid,zW (d+1) (l.drop p) cnt (by have:=HC.out;omega) h1]
  clear EH2 hq;go_wp2_with (with_reducible refine zx ?_)
  refine stI yS fun wz hTy zT=>?_
  have zQ:=yC.gb zF (Nat.le_refl _) yv zT;go_wp2_with fail
  refine zw rfl rfl hTy rfl rfl zv rfl ?_
  exact ItemOut.err E.out rfl zQ
 case rest =>
 obtain⟨n,k,hh,rfl,vp,vI⟩:=hcut;have HF:=Hh (xo hh);have HH:=Hh hh;clear hh yi yt;have E0:=Hh (ad d (l.drop p) cnt (by have:=HC.out;omega) HH.out (by have:=yw.out.2.1;omega) (by have:=yw.out.2.1;omega));rw[yw.out.2.1,List.drop_drop]at E0;have s0:((kd:Int)==0)=false:=by simp;omega
 have s1:((kd:Int)==1)=false:=by simp;omega
 have s2:((kd:Int)==2)=false:=by simp;omega
 have s3:((kd:Int)==3)=false:=by simp;omega
 have q0:((kd:Int)=0)=False:=eq_false (by omega);have q1:((kd:Int)=1)=False:=eq_false (by omega);have q2:((kd:Int)=2)=False:=eq_false (by omega);have q3:((kd:Int)=3)=False:=eq_false (by omega);have bU:¬ ((8:Int)≤(lv:Int)):=by have:=Xd.out;omega
 have JL:decide ((8:Int)≤(lv:Int))=false:=decide_eq_false bU;have EL:=Hh (hE wc H g (some ⟨b,off,none⟩) c l (p+k) (cnt+1) lv kd n hTab (by have:=Xd.out;omega) (by omega) (by omega) HF.out.n_lt (by have:=yw.out.2.2;omega) vp.psr);go_wp2_with fail
 refine EL.out.mono ?_
 intro e w6 hs
 cases iR:ui kd d n (l.drop (p+k)) (cnt+1) with
 | err q =>
  rw[iR,ItemOut]at hs;obtain⟨rfl,H4,p4,cnt4,qf⟩:=hs;have E:Hid (zj (d+1) (l.drop p) cnt=.err q):=by rw[Hid,E0.out,iR]
  have z8:=vp.trans qf;have yj:=vI.rdg qf (by omega);have tS:=qf.hid zF vI.lt;clear qf vp vI EL iR E0;go_wp2_with (with_reducible refine zx ?_)
  refine stI yj fun wz hTy zT=>?_
  have zQ:=z8.gb tS (Nat.le_refl _) yv zT;go_wp2_with fail
  refine zw rfl rfl hTy rfl rfl zv rfl ?_
  exact ItemOut.err E.out rfl zQ
 | ok x k' c' =>
 rw[iR,ItemOut]at hs;obtain⟨ja,jb,jc,jd,H4,rfl,qf,eh⟩:=hs;have E:Hid (zj (d+1) (l.drop p) cnt=.ok x (k+k') c'):=by rw[Hid,E0.out,iR]
 have z8:=vp.trans qf;have yj:=vI.rdg qf (by omega);have tS:=qf.hid zF vI.lt;clear qf vp vI EL iR E0;go_wp2_with (with_reducible refine zx ?_)
 refine stI yj fun wz hTy zT=>?_
 have zQ:=z8.gb tS (Nat.le_refl _) yv zT;go_wp2_with fail
 refine zw rfl rfl hTy rfl rfl zv rfl ?_
 exact ItemOut.ok E.out rfl (by rw[← Nat.add_assoc];exact zQ) eh
end
theorem YT (hE:∀ d,nE d→Wg d):∀ d:Nat,nE d:=by
 intro d
 induction d with
 | zero =>
  intro w H g A c l p cnt lv hTab hlv hP
  by_cases hc:cnt=256
  ·exact lS hTab hlv hP hc
  have hc:cnt<256:=by have:=hP.cnt_le;omega
  by_cases ye:p=l.length
  ·exact jJ hTab hlv hP hc ye
  have ur:p<l.length:=by have:=hP.le;omega
  by_cases sV:27<l[p].toNat%32
  ·exact lR hTab hlv hP hc ur rfl rfl rfl sV
  have sV:l[p].toNat%32≤27:=by omega
  have hf:=l[p].toNat_lt
  rcases(by omega:l[p].toNat/32=0∨l[p].toNat/32=1∨l[p].toNat/32=2∨l[p].toNat/32=3∨l[p].toNat/32=7∨(4≤l[p].toNat/32∧l[p].toNat/32≤6)) with hk | hk | hk | hk | hk | hk
  ·exact eA hTab hlv hP hc ur rfl rfl rfl sV hk
  ·exact eB hTab hlv hP hc ur rfl rfl rfl sV hk
  ·exact eD hTab hlv hP hc ur rfl rfl rfl sV hk
  ·exact eE hTab hlv hP hc ur rfl rfl rfl sV hk
  ·exact eF hTab hlv hP hc ur rfl rfl rfl sV hk
  exact dE hTab hlv hP hc ur rfl rfl rfl sV hk
 | succ d ih =>
 intro w H g A c l p cnt lv hTab hlv hP
 by_cases hc:cnt=256
 ·exact lS hTab hlv hP hc
 have hc:cnt<256:=by have:=hP.cnt_le;omega
 by_cases ye:p=l.length
 ·exact jJ hTab hlv hP hc ye
 have ur:p<l.length:=by have:=hP.le;omega
 by_cases sV:27<l[p].toNat%32
 ·exact lR hTab hlv hP hc ur rfl rfl rfl sV
 have sV:l[p].toNat%32≤27:=by omega
 have hf:=l[p].toNat_lt
 rcases(by omega:l[p].toNat/32=0∨l[p].toNat/32=1∨l[p].toNat/32=2∨l[p].toNat/32=3∨l[p].toNat/32=7∨(4≤l[p].toNat/32∧l[p].toNat/32≤6)) with hk | hk | hk | hk | hk | hk
 ·exact eA hTab hlv hP hc ur rfl rfl rfl sV hk
 ·exact eB hTab hlv hP hc ur rfl rfl rfl sV hk
 ·exact eD hTab hlv hP hc ur rfl rfl rfl sV hk
 ·exact eE hTab hlv hP hc ur rfl rfl rfl sV hk
 ·exact eF hTab hlv hP hc ur rfl rfl rfl sV hk
 exact dD hTab (hE d ih) hlv hP hc ur rfl rfl rfl sV hk
theorem RR (d:Nat) (ih:nE d):Wg d:=by
 intro w H g A c l p cnt lv maj n hTab hlv h4 h6 hn hl0 hP
 rcases(by omega:maj=4∨maj=5∨maj=6) with rfl | rfl | rfl
 ·exact Vv ih hTab hlv hn hl0 hP
 ·exact Vw ih hTab hlv hn hl0 hP
 exact Vx ih hTab hlv hn hl0 hP
theorem RT:∀ d,nE d:=YT RR
theorem aq {H:Snap}(hTab:Tabs H) (w:World) (hH:Holds w H) {A:Option Addr}{n c:Nat}{l:List UInt8}(hn:n=l.length) (hl:IsBytes H A c l) :
  Calls Tryz.prog 34 #[.slice A n c] w (vr w H l):=i6 RT hTab w hH hn hl
theorem YE {w wr:World}{H Hr:Snap}(hG:Grows w H wr Hr) (l:List UInt8) (cs:Array Value) (k:Nat) (hk:k=l.length) (hm:l.length≤4096) (hc:cs.toList=l.map zI) :
  ∃ H',Grows w H (wr.alloc (.cells cs 5)) H'∧Hr.le H'∧IsBytes H' (some ⟨wr.heap.size,0,none⟩) k l:=by
 obtain⟨H',Jx,hb,_⟩:=Fresh.snapB hG.holds (Fresh.lit wr l cs k hk hm hc)
 exact⟨H',hG.trans Jx,Jx.le,hb⟩
end Go.Proofs.YtgcjjhibdbafmabGreatDoor
namespace Go.Proofs.YtgcjjhibdbafmabGreatDoor
open Go.RowKit Go.ChangeShapes Go.WideShapes
instance:Inhabited Ext:=⟨⟨0,false,[]⟩⟩
section
variable {H:Type} {enc:TypeId×Value→H} {W:World}
theorem rV {fuel:Nat}{c:Value}{x:DataW H×List MemPlace}(h:DataW.trod enc Tryz.prog W 0 (fun _=>true) true fuel 22 [c]=some x) :
  ∃ (A:Option Addr) (k:Nat) (l:List UInt8),c=.slice A l.length k∧IsBytes (pe W) A k l:=by
 rcases open_ints Tryz.underlying22 Tryz.underlying5 (by kernel_rfl) h with ⟨px,hx⟩ | ⟨a,len,cap,zs,px,_,hl,hm,hz,hx,xw,Qv⟩
 ·simp at px
  exact⟨none,0,[],px,IsBytes.nil _⟩
 simp at px
 have h1:=ir hl hm (by simp at hz;omega) xw Qv
 exact⟨some a,cap,_,by rw[h1.2];exact px,h1.1⟩
end
end Go.Proofs.YtgcjjhibdbafmabGreatDoor
