/- squeezed. Walks: the reference's reader of i -/
import Derived.Test.YtkmlnjociijpgaaGreatDoorK27
set_option linter.unusedVariables false
set_option linter.unusedSimpArgs false
set_option maxRecDepth 100000
set_option maxHeartbeats 12800000
namespace Go.Proofs.YtkmlnjociijpgaaGreatDoor
open Go.RowKit
theorem jaK{P:Prop}(h:P:=by
 rw[hv]at UV;have E:Hid (ze d (l.drop p) cnt=.ok (.mk 3 0 s []) (k+n) (cnt+1)):=by rw[Hid,E1.out,if_neg (fun h=>by rw[hv]at h;cases h.2)]
 clear hv E1;go_wp2_with fail
 refine UV.out.mono ?_
 rintro e w8 ⟨rfl,uk⟩
 have ve:=vT.below_ uk;have tZ:=wU.below uk;clear UV vT wU;go_wp2_with (with_reducible refine zx ?_)
 refine stI tZ fun wz hTy hgz=>?_
 have xr:=ve.grownRow (row:=some w.heap.size) (by rintro q ⟨⟩;exact kY) (by rintro q ⟨⟩;exact Nat.le_refl _) yo hgz;exact jep):P:=h
theorem jaO{P:Prop}(h:P:=by
 have wT:=wE.step xx cA Ld.out;have xG:=wo.gr xx (by omega);have On:=Hh (show w2.heap.size≠g by have:=qp.out;omega);have iZ:=uq.grown xx (by intro e;injection e with e;exact On.out e.symm);have b0:=iZ.cell 0 rfl;have b1:=iZ.cell 1 rfl;have b2:=iZ.cell 2 rfl;have b3:=iZ.cell 3 rfl;clear wE wo ts cA xx a0 uq s1 s2 s3 s4;go_wp2_with (with_reducible refine zx ?_)
 refine stI xG fun wz hTy hgz=>?_
 have xr:=wT.grownRow (row:=some w.heap.size) (by rintro q ⟨⟩;exact cm) (by rintro q ⟨⟩;exact Nat.le_refl _) yo hgz;go_wp2_with fail
 refine xU rfl rfl hTy rfl rfl zj rfl ?_
 exact EItem.ok HP.out rfl xr fE):P:=h
theorem jaQ{P:Prop}(h:P:=by
 have wU:=uB.gr vm (by omega);have kY:=uS;clear xl uB nW vm a1;have E:Hid (ze d (l.drop p) cnt=.ok (.mk 2 0 s []) (k+n) (cnt+1)):=by rw[Hid,E1.out,if_neg (fun h=>absurd h.1 (by omega))]
 have IB:=oS;clear E1;go_wp2_with (with_reducible refine zx ?_)
 refine stI wU fun wz hTy hgz=>?_
 have xr:=vT.grownRow (row:=some w.heap.size) (by rintro q ⟨⟩;exact kY) (by rintro q ⟨⟩;exact Nat.le_refl _) yo hgz;exact jeq):P:=h
theorem jbh{P:Prop}(h:P:=by
 go_enter Tryz.func120,Tryz.ntmps120
 go_wp2_with fail
 go_ret2
 exact⟨by rw[E.out];rfl,hb⟩):P:=h
theorem jbT{P:Prop}(h:P:=by rw[Hid,nJ d (l.drop p) cnt (by have:=HC.out;omega) HH.out (by have:=sZ.out.2.1;omega) (by have:=sZ.out.2.1;omega),sZ.out.2.1];exact jeX):P:=h
theorem jch{P:Prop}(h:P:=by exact⟨vM.psr.blk.cell 0 rfl,vM.psr.blk.cell 1 rfl⟩):P:=h
theorem jdz{P:Prop}(h:P:=by
 have h:=bz.out;rw[if_neg hck,Option.map_some,td]at h
 exact h):P:=h
theorem jdL{P:Prop}(h:P:=by
 have wU:=uB.gr vm (by omega);have kY:=uS;clear xl uB nW vm a1;have IB:=oS;have UV:=Hh (oy (hTab.mono y8.le) w7 vT.psr.holds RA s s.length rc rfl oS)
 cases hv:Lib.validD s with
 | false =>
  rw[hv]at UV;have E:Hid (ze d (l.drop p) cnt=.err 5):=by rw[Hid,E1.out,if_pos (by first | exact⟨rfl,hv⟩ | exact⟨trivial,hv⟩)]
  clear hv E1;go_wp2_with fail
  refine UV.out.mono ?_
  rintro e w8 ⟨rfl,uk⟩
  have ve:=vT.below_ uk;have tZ:=wU.below uk;clear UV vT wU;go_wp2_with (with_reducible refine zx ?_)
  refine stI tZ fun wz hTy hgz=>?_
  have xr:=ve.grownRow (row:=some w.heap.size) (by rintro q ⟨⟩;exact kY) (by rintro q ⟨⟩;exact Nat.le_refl _) yo hgz;exact jai
 | true =>
 exact jaK):P:=h
theorem jdO{P:Prop}(h:P:=by
 have z0:(l.length:Int)-(P:Int)<(n:Int):=by omega
 have E:Hid (ze d (l.drop p) cnt=.err 2):=by rw[Hid,E0.out,if_pos (by have:=sZ.out.2.2;omega)]
 clear nZ uw mv rj So cQ iN E0 z9 se;go_wp2_with fail
 go_big_quiet (fail)
 have tq:=ve.drewN nq;have rt:Blk (wc.drewN nq) w.heap.size 77 #[.int .i64 0,.int .u64 0,.slice none 0 0,.slice none 0 0]:=tZ;go_wp2_with (with_reducible refine zx ?_)
 refine stI rt fun wz hTy hgz=>?_
 have xr:=tq.grownRow (row:=some w.heap.size) (by rintro q ⟨⟩;exact wg) (by rintro q ⟨⟩;exact Nat.le_refl _) yo hgz;exact jai):P:=h
theorem jfq{P:Prop}(h:P:=by have wY:=Blk.new w2 77 #[.int .i64 0,.int .u64 0,.slice none 0 0,.slice none 0 0];exact wY):P:=h
theorem jfG{P:Prop}(h:P:=by have LK:(c=P)=False:=eq_false YZ;have HS:=Hh (show Src w9.drew (some ⟨b,off+P,none⟩) (s.map zu) by have hq:=rY (w:=w9.drew) (n:=n) m9 P (some ⟨b,off+P,none⟩) (fun _=>rfl) (by omega);rw[iN]at hq;exact hq);have pV:Rdg 142 w H w9.drew H g (some ⟨b,off,none⟩) c l P (cnt+1):=tq.drewN 1;have mD:Blk w9.drew w.heap.size 77 #[.int .i64 0,.int .u64 0,.slice none 0 0,.slice none 0 0]:=rt;exact And.intro LK (And.intro HS (And.intro pV mD))):P:=h
theorem jfJ{P:Prop}(h:P:=by have HS:=Hh (show Src w9.drew (some ⟨b,off,none⟩) (s.map zu) by have hz:s=[]:=List.eq_nil_of_length_eq_zero (by have:=oJ.out;omega);rw[hz];exact Src.nil _ _);have pV:Rdg 142 w H w9.drew H g (some ⟨b,off,none⟩) P l P (cnt+1):=tq.drewN 1;have mD:Blk w9.drew w.heap.size 77 #[.int .i64 0,.int .u64 0,.slice none 0 0,.slice none 0 0]:=rt;exact And.intro HS (And.intro pV mD)):P:=h
theorem jgl{P:Prop}(h:P:=by have wE:=wI.grownRow (row:=some w2.heap.size) (by rintro q ⟨⟩;exact mu) (by rintro q ⟨⟩;exact Nat.le_of_lt qp.out) yo hg4;have wo:=yE.grown hg4 (by intro e;injection e with e;have:=qp.out;omega);exact And.intro wE wo):P:=h
theorem jgD{P:Prop}(h:P:=by have z':((q:Int)=0)=False:=eq_false (by omega);exact z'):P:=h
theorem jgV{P:Prop}(h:P:=by have mu:H2 w2.heap.size=none:=wC.rd.holds.none_of_ge (Nat.le_refl _);exact mu):P:=h
theorem jg0{P:Prop}(h:P:=by have xr:=ve.grownRow (row:=some w.heap.size) (by rintro q ⟨⟩;exact wg) (by rintro q ⟨⟩;exact Nat.le_refl _) yo hgz;exact xr):P:=h
theorem jg1{P:Prop}(h:P:=by have xN:=yW (by simpa [Value.ownBlock] using hg);exact xN):P:=h
theorem jg2{P:Prop}(h:P:=by have xr:=xl.grownRow (row:=some w.heap.size) (by rintro q ⟨⟩;exact uS) (by rintro q ⟨⟩;exact Nat.le_refl _) yo hgz;exact xr):P:=h
theorem jg3{P:Prop}(h:P:=by have xY:=(Est.refl hR).alloc zf;have xO:=Blk.new w 77 #[.int .i64 0,.int .u64 0,.slice none 0 0,.slice none 0 0];have wg:H w.heap.size=none:=hR.holds.none_of_ge (Nat.le_refl _);exact And.intro xY (And.intro xO wg)):P:=h
theorem jha{P:Prop}(h:P:=by have vT:Rdg 142 w H w7 H6 g (some ⟨b,off,none⟩) P l (P+n) (cnt+1):=xl.step vm nW (by omega) (by have:=HC.out;omega);exact vT):P:=h
theorem jhb{P:Prop}(h:P:=by have vT:Rdg 142 w H w7 H6 g (some ⟨b,off,none⟩) c l (P+n) (cnt+1):=xl.step vm nW (by omega) (by have:=HC.out;omega);exact vT):P:=h
theorem jhq{P:Prop}(h:P:=by have i4:Blk (wc.drewN nq) w.heap.size 77 #[.int .i64 0,.int .u64 0,.slice none 0 0,.slice none 0 0]:=tZ;exact i4):P:=h
section
variable {d:Nat} {w:World} {H:Snap} {g:Nat} {A:Option Addr} {c:Nat} {l:List UInt8} {p cnt lv:Nat}
theorem XH (hTab:Tabs H) (hE:∀ e,d=e+1→W9 e) (hlv:lv+d=8) (hP:Psr 142 w g H A c l p cnt) (hc:cnt<256) (rk:p<l.length) {ch:UInt8}(eG:l[p]=ch) {low kd:Nat}(xv:ch.toNat%32=low) (ru:ch.toNat/32=kd) (iW:low≤27) (hk:kd≤6):Calls Tryz.prog 117 #[.pointer (some ⟨g,0,none⟩),.int .i64 (lv:Int)] w (ItemOut 142 w H g A c l p (ze d (l.drop p) cnt)):=by
 obtain⟨yo,xY,xO,wg⟩:=jff;have c2:=jfH;have ED:=nG rk;rw[eG]at ED
 
 have EH0:Hid (zH (l.drop p)=if 27<low then .error 3 else if low<24 then .ok (ch.toNat,low,1) else if(l.drop (p+1)).length<2 ^ (low-24) then .error 2
    else if ch.toNat/32<7∧(zV 0 (beN ((l.drop (p+1)).take (2 ^ (low-24))))).length≠1+2 ^ (low-24) then .error 4
    else .ok (ch.toNat,beN ((l.drop (p+1)).take (2 ^ (low-24))),1+2 ^ (low-24))):=by rw[Hid,ED,zH,xv]
 have z27:¬ ((27:Int)<(low:Int)):=by omega
 have z27b:decide ((27:Int)<(low:Int))=false:=decide_eq_false z27;have Hm:=Hh iW;have Lf:=Hh hlv;have OU:Hid (kd<7):=by rw[Hid];omega
 have s7:((kd:Int)==7)=false:=by simp;omega
 have q7:((kd:Int)=7)=False:=eq_false (by omega);clear iW ED;have z0:¬ (((l.length:Nat):Int)≤(p:Int)):=by omega
 have z0':=jgS;have YO:(p:Int)<(l.length:Int):=by omega
 have jp:(0:Int)≤(p:Int):=by omega
 have nZ:=hP.small;have K1:=jf4;obtain⟨b,off,rfl,vY⟩:=hP.bytes.at_ (by omega);have KA:=aG ⟨ch.toNat,ch.toNat_lt⟩
 simp only at KA
 rw[xv]at KA;have S:(ch.toNat:Int)/32=(kd:Int):=by omega
 have WX:(kd:Int)≤7:=by have:=ch.toNat_lt;omega
 have Mr:(low:Int)≤31:=by omega
 obtain⟨px,sZ,Ho⟩:=jfQ;clear vY xv ru nZ eG;have x9:¬ ((256:Int)≤(cnt:Int)):=by omega
 have xV:=jgk;obtain⟨KC,HC⟩:=jfk;clear hc;go_enter Tryz.func117,Tryz.ntmps117
 go_wp2_with (with_reducible refine zx ?_)
 refine zw rfl _ _ _ rfl rfl g 2 (.int .i64 ((cnt:Int)+1)) rfl rfl _ _ xY.psr.blk zF (by simp) rfl fun w2 wm xq=>?_
 obtain⟨wC,tX⟩:=jfM;clear xY xO wm xq c2 KC x9 xV;obtain⟨pe,a0,a1⟩:=jgQ;go_wp2_with fail
 go_big_quiet (fail)
 have i7:=wC.drewN nq;have gz:=jf8
 generalize w2.drewN nq=w3 at i7 gz⊢
 obtain⟨wI,yE⟩:=And.intro i7 gz;clear i7 gz wC tX a0 a1 pe;obtain⟨a0,a1⟩:=jgG;have q0:=wI.psr.holds.cell Ho.out;go_upto_region 6 with fail
 go_big_quiet (fail)
 obtain⟨pS,pO⟩:=jfx
 generalize w3.drewN nq=w4 at pS pO⊢
 obtain⟨wE,wo⟩:=And.intro pS pO;clear pS pO wI yE a0 a1 q0;have a1:=wE.psr.blk.cell 1 rfl;go_wp2_with (with_reducible refine zx ?_)
 refine zw rfl _ _ _ rfl rfl g 1 (.int .i64 ((p:Int)+1)) rfl rfl _ _ wE.psr.blk zF (by simp) rfl fun w5 ts xx=>?_
 obtain⟨wT,xG⟩:=jfO;clear wE wo ts xx a1 K1 z0 z0' YO jp KA S;go_upto_region 12 with fail
 have KU:IntKind.u64.wrap (low:Int)=(low:Int):=by rw[IntKind.wrap_u64];omega
 go_upto_if 80 with fail
 go_cut [8] (fun s8 wx=>∃ n k:Nat,zH (l.drop p)=.ok (ch.toNat,n,k)∧s8=.int .u64 (n:Int)∧Rdg 142 w H wx H g (some ⟨b,off,none⟩) c l (p+k) (cnt+1)∧Blk wx w.heap.size 77 #[.int .i64 0,.int .u64 0,.slice none 0 0,.slice none 0 0])
 case first =>
  by_cases hl24:low<24
  ·have z24:¬ ((23:Int)<(low:Int)):=by omega
   have z24b:decide ((23:Int)<(low:Int))=false:=decide_eq_false z24;have EH:Hid (zH (l.drop p)=.ok (ch.toNat,low,1)):=by rw[Hid,EH0.out,if_neg (by have:=Hm.out;omega),if_pos hl24]
   clear hl24;go_wp2_with fail
   go_meet
   exact⟨low,1,EH.out,rfl,wT,xG⟩
  have z24:(23:Int)<(low:Int):=by omega
  have EH:Hid (zH (l.drop p)=if(l.drop (p+1)).length<2 ^ (low-24) then .error 2
    else if ch.toNat/32<7∧(zV 0 (beN ((l.drop (p+1)).take (2 ^ (low-24))))).length≠1+2 ^ (low-24) then .error 4
    else .ok (ch.toNat,beN ((l.drop (p+1)).take (2 ^ (low-24))),1+2 ^ (low-24))):=by rw[Hid,EH0.out,if_neg (by have:=Hm.out;omega),if_neg hl24]
  clear EH0;obtain⟨s,YP⟩:∃ s,2 ^ (low-24)=s:=⟨_,rfl⟩
  rw[YP]at EH;obtain⟨t,ht⟩:∃ t,1+s=t:=⟨_,rfl⟩
  rw[ht]at EH;obtain⟨u,hu⟩:∃ u:Int,(t:Int)=u:=⟨_,rfl⟩
  have H4:(low=24∧s=1∧t=2∧u=2)∨(low=25∧s=2∧t=3∧u=3)∨(low=26∧s=4∧t=5∧u=5)∨(low=27∧s=8∧t=9∧u=9):=by
   rcases(by have:=Hm.out;omega:low=24∨low=25∨low=26∨low=27) with rfl | rfl | rfl | rfl <;> simp only[Nat.reduceSub,Nat.reducePow]at YP <;> omega
  have ql:=rn ((l.drop (p+1)).take s);have NM:=gP wT.psr s (by omega) (by omega);obtain⟨n,hn⟩:∃ n,beN ((l.drop (p+1)).take s)=n:=⟨_,rfl⟩
  rw[hn]at EH ql
  have ql:n<18446744073709551616:=by
   refine Nat.lt_of_lt_of_le ql (Nat.le_trans (Nat.pow_le_pow_right (by omega) (show _≤8 by rw[List.length_take];omega)) (by decide))
  have NM:=Hh NM;have HN:=Hh hn;have Co:=Hh (fun w=>te (kd:Int) ((n:Nat):Int) w (by omega) (by have:=OU.out;omega) (by omega) (by omega));obtain⟨fl,fO⟩:∃ fl,(zV 0 n).length=fl:=⟨_,rfl⟩
  have lW:Hid ((zV (kd:Int).toNat (n:Int).toNat).length=fl):=by rw[Hid,← fO,yM,yM];rfl
  rw[fO]at EH
  have WQ:Hid (fl=t∨(((fl:Int)==u)=false∧((fl:Int)=u)=False∧fl≠t)):=by
   exact jcZ
  have E2:Hid (l.length<p+1+s→ze d (l.drop p) cnt=.err 2):=fun h=>by
   have h1:zH (l.drop p)=.error 2:=by rw[EH.out,if_pos (by rw[List.length_drop];have:=sZ.out.2.2;omega)]
   rw[sS d (l.drop p) cnt (by have:=HC.out;omega) h1]
  have EH2:Hid (p+1+s≤l.length→zH (l.drop p)=if fl≠t then .error 4 else .ok (ch.toNat,n,t)):=fun h=>by
   rw[EH.out,if_neg (by rw[List.length_drop];omega)];have:=OU.out;have:=sZ.out.2.1
   by_cases h:fl=t <;> simp[h] <;> omega
  clear hl24 z24 Mr z27 z27b KU EH ql hn fO YP ht hu
  rcases H4 with ⟨rfl,rfl,rfl,rfl⟩ | ⟨rfl,rfl,rfl,rfl⟩ | ⟨rfl,rfl,rfl,rfl⟩ | ⟨rfl,rfl,rfl,rfl⟩
  all_goals
   go_wp2_with fail
   refine NM.out.mono ?_
   rintro e w6 (⟨hs,rfl,rT,y8⟩ | ⟨hs,rfl,rT,y8⟩)
   ·have E:=Hh (E2.out hs);have xl:Rdg 142 w H w6 H g (some ⟨b,off,none⟩) c l (p+1) (cnt+1):=wT.step y8 rT sZ.out.2.2 (by have:=HC.out;omega);have vU:=xG.gr y8 (by omega);clear NM Co hs wT xG rT y8 EH2 E2 WQ lW HN;go_wp2_with (with_reducible refine zx ?_)
    refine stI vU fun wz hTy hgz=>?_
    have xr:=xl.grownRow (row:=some w.heap.size) (by rintro q ⟨⟩;exact wg) (by rintro q ⟨⟩;exact Nat.le_refl _) yo hgz;exact jai
   have xl:Rdg 142 w H w6 H g (some ⟨b,off,none⟩) c l _ (cnt+1):=wT.step y8 rT hs (by have:=HC.out;omega);have vU:=xG.gr y8 (by omega);have EH3:=Hh (EH2.out hs);rw[HN.out];clear NM hs wT xG rT y8 EH2 E2 HN;go_wp2_with fail
   refine(Co.out _).mono ?_
   rintro e w7 ⟨r,rfl,hf⟩
   have vT:=xl.below_ hf.2;have wU:=vU.below hf.2;obtain⟨RA,rc,rfl,_⟩:=hf.own.form;rw[lW.out];clear hf Co xl vU lW
   rcases WQ.out with hq | ⟨zq,zq2,hq⟩
   ·have EH4:=Hh (EH3.out.trans (if_neg (by rw[hq];simp)));clear EH3 WQ;rw[hq];clear hq;go_wp2_with fail
    go_meet
    exact⟨n,_,EH4.out,rfl,by have h:=vT;simp only[Nat.add_assoc,Nat.reduceAdd]at h;exact h,wU⟩
   have E:Hid (ze d (l.drop p) cnt=.err 4):=by
    rw[Hid,sS d (l.drop p) cnt (by have:=HC.out;omega) (EH3.out.trans (if_pos hq))]
   clear EH3 hq WQ;go_wp2_with (with_reducible refine zx ?_)
   refine stI wU fun wz hTy hgz=>?_
   have xr:=vT.grownRow (row:=some w.heap.size) (by rintro q ⟨⟩;exact wg) (by rintro q ⟨⟩;exact Nat.le_refl _) yo hgz;go_wp2_with fail
   refine zo rfl rfl hTy rfl rfl zj rfl ?_
   exact ItemOut.err E.out rfl xr
 case rest =>
 obtain⟨n,k,hh,rfl,ve,tZ⟩:=hcut;have HF:=Hh (ws hh);have HH:=Hh hh;clear hh wT xG
 rcases(by have:=OU.out;omega:kd<2∨kd=2∨kd=3∨(4≤kd∧kd≤6)) with hk | rfl | rfl | hk
 ·have E:Hid (ze d (l.drop p) cnt=.ok (.mk kd n [] []) k (cnt+1)):=by rw[Hid,kB d (l.drop p) cnt (by have:=HC.out;omega) HH.out (by have:=sZ.out.2.1;omega),sZ.out.2.1]
  have Me:=Hh HF.out.n_lt
  rcases(by omega:kd=0∨kd=1) with rfl | rfl
  all_goals
   first
   | rw[show((0:Nat):Int)=0 from rfl]
   | rw[show((1:Nat):Int)=1 from rfl]
   go_wp2_with (with_reducible refine zx ?_)
   refine stI tZ fun wz hTy hgz=>?_
   have xr:=jg0;go_wp2_with fail
   refine zo rfl rfl hTy rfl rfl zj rfl ?_
   exact ItemOut.ok (ja:=none) (jb:=0) (jc:=none) (jd:=0) E.out rfl xr (IsItem.plain _ _ n (by omega) Me.out)
 ·rw[show((2:Nat):Int)=2 from rfl]
  have E0:Hid (ze d (l.drop p) cnt=(if(l.drop p).length<k+n then .err 2 else if 2=3∧Lib.validD (((l.drop p).drop k).take n)=false then .err 5 else .ok (.mk 2 0 (((l.drop p).drop k).take n) []) (k+n) (cnt+1))):=by
   exact jbT
  have nZ:=ve.psr.small;have uw:=ve.psr.bytes.le;have mv:=ve.psr.bytes.max;have se:=ve.psr.le;obtain⟨rj,So⟩:=jgF;obtain⟨P,cQ⟩:∃ P,p+k=P:=⟨_,rfl⟩
  obtain⟨s,iN⟩:∃ s,((l.drop p).drop k).take n=s:=⟨_,rfl⟩
  rw[iN]at E0;rw[List.drop_drop,cQ]at iN;rw[cQ]at ve se;have K1:=jfK;have K2:IntKind.u64.wrap ((l.length:Int)-(P:Int))=(l.length:Int)-(P:Int):=by rw[IntKind.wrap_u64];omega
  have a0:=ve.psr.blk.cell 0 rfl;have a1:=ve.psr.blk.cell 1 rfl;have Di:(P:Int)≤(l.length:Int):=by omega
  have kW:(l.length:Int)≤4096:=by omega
  by_cases z9:l.length<P+n
  ·exact jdO
  have z0:¬ ((l.length:Int)-(P:Int)<(n:Int)):=by omega
  have z0b:=jf7;have E1:Hid (ze d (l.drop p) cnt=(if 2=3∧Lib.validD s=false then .err 5 else .ok (.mk 2 0 s []) (k+n) (cnt+1))):=by rw[Hid,E0.out,if_neg (by have:=sZ.out.2.2;omega)];try simp
  have qT:n=s.length:=by rw[← iN,List.length_take,List.length_drop];omega
  have oJ:=Hh qT;clear qT;obtain⟨KN,KP⟩:=jfz;have kt:((P:Int)+(n:Int)).toNat=P+n:=by omega
  have y0:(0:Int)≤(P:Int)+(n:Int):=by omega
  have y5:P≤P+n:=by omega
  have y6:P+n-P=n:=by omega
  have y1:(P:Int)≤(P:Int)+(n:Int):=by omega
  have y2:(P:Int)+(n:Int)≤(c:Int):=by omega
  have y3:(P:Int)≤(c:Int):=by omega
  have y4:(0:Int)≤(P:Int):=by omega
  have HK:=jgB;go_wp2_with fail
  go_big_quiet (fail)
  have i8:=ve.drewN nq;have i4:=jhq
  generalize wc.drewN nq=w9 at i8 i4⊢
  obtain⟨tq,rt⟩:=And.intro i8 i4;clear i8 i4 ve tZ a0 a1 E0 z0 z0b;have m9:∀ j (hj:j<l.length),w9.cell? ⟨b,off+j,none⟩=some (zu l[j]):=fun j hj=>tq.psr.holds.cell (px.out j hj)
  have a0:=tq.psr.blk.cell 0 rfl;have a1:=tq.psr.blk.cell 1 rfl
  by_cases YZ:c=P
  ·have Y0:P=c:=YZ.symm;subst Y0;clear YZ;obtain⟨HS,pV,mD⟩:=jfJ;clear tq rt m9;go_upto_region 28 with fail
   refine zr 17 (fun w'=>w'.cell? ⟨g,0,none⟩=some (.slice (some ⟨b,off,none⟩) l.length P)∧w'.cell? ⟨g,1,none⟩=some (.int .i64 (P:Int))) (by kernel_rfl) (⟨a0,a1⟩) (fun zy=>?_)
   refine Tk 0 rfl zy ?_
   refine Tk 1 rfl zy ?_
   refine Tk 2 rfl zy ?_
   refine Tk 3 rfl zy ?_
   refine Tk 4 rfl zy ?_
   refine Tk 5 rfl zy ?_
   refine Tk 6 rfl zy ?_
   refine Tk 7 rfl zy ?_
   refine Tk 8 rfl zy ?_
   refine Tk 9 rfl zy ?_
   refine Tk 10 rfl zy ?_
   refine Tk 11 rfl zy ?_
   refine Tk 12 rfl zy ?_
   refine Tk 13 rfl zy ?_
   refine Tk 14 rfl zy ?_
   refine Tk 15 rfl zy ?_
   refine To 16 rfl fun K hK=>?_
   refine yV (.const (.slice none 0 0)) (.tmp 144) rfl w9.drew.heap.size (.slice none 0 0) [] rfl (OwnB.nil _ _) (some ⟨b,off,none⟩) n _ s rfl oJ.out HS.out (by have:=oJ.out;simp;omega) (Nat.le_refl _) fun v' w10 hO hg lZ=>?_
   rw[List.nil_append]at hO;have xN:=jg1;have i9:Fresh w9.drew s v' w10:=⟨hO,xN⟩
   obtain⟨RA,rc,rfl,_⟩:=hO.form;have vM:=pV.below_ xN;go_simp
   refine Ko hK ?_ fun zy=>?_
   ·exact jch
   clear hK K
   refine To 17 rfl fun K hK=>?_
   go_simp
   refine Kz hK ?_
   clear hK K
   refine Wd ?_
   clear zy a0 a1 hO hg lZ HS;have uB:=mD.below xN;obtain⟨H6,y8,oS,_⟩:=Fresh.snapB pV.psr.holds i9;have xl:=pV.grown y8;have uS:=y8.none wg mD.lt;clear vM i9 pV mD xN;have a1:=jgI;go_wp2_with (with_reducible refine zx ?_)
   refine zw rfl _ _ _ rfl rfl g 1 (.int .i64 ((P:Int)+(n:Int))) rfl rfl _ _ xl.psr.blk zF (by simp) rfl fun w7 nW vm=>?_
   have vT:=jha;exact jaQ
  obtain⟨LK,HS,pV,mD⟩:=jfG;clear tq rt m9;go_upto_region 28 with fail
  refine zr 17 (fun w'=>w'.cell? ⟨g,0,none⟩=some (.slice (some ⟨b,off,none⟩) l.length c)∧w'.cell? ⟨g,1,none⟩=some (.int .i64 (P:Int))) (by kernel_rfl) (⟨a0,a1⟩) (fun zy=>?_)
  refine Tk 0 rfl zy ?_
  refine Tk 1 rfl zy ?_
  refine Tk 2 rfl zy ?_
  refine Tk 3 rfl zy ?_
  refine Tk 4 rfl zy ?_
  refine Tk 5 rfl zy ?_
  refine Tk 6 rfl zy ?_
  refine Tk 7 rfl zy ?_
  refine Tk 8 rfl zy ?_
  refine Tk 9 rfl zy ?_
  refine Tk 10 rfl zy ?_
  refine Tk 11 rfl zy ?_
  refine Tk 12 rfl zy ?_
  refine Tk 13 rfl zy ?_
  refine Tk 14 rfl zy ?_
  refine Tk 15 rfl zy ?_
  refine To 16 rfl fun K hK=>?_
  refine yV (.const (.slice none 0 0)) (.tmp 144) rfl w9.drew.heap.size (.slice none 0 0) [] rfl (OwnB.nil _ _) (some ⟨b,off+P,none⟩) n _ s rfl oJ.out HS.out (by have:=oJ.out;simp;omega) (Nat.le_refl _) fun v' w10 hO hg lZ=>?_
  rw[List.nil_append]at hO;have xN:=jg1;have i9:Fresh w9.drew s v' w10:=⟨hO,xN⟩
  obtain⟨RA,rc,rfl,_⟩:=hO.form;have vM:=pV.below_ xN;go_simp
  refine Ko hK ?_ fun zy=>?_
  ·exact jch
  clear hK K
  refine To 17 rfl fun K hK=>?_
  go_simp
  refine Kz hK ?_
  clear hK K
  refine Wd ?_
  clear zy a0 a1 hO hg lZ HS;have uB:=mD.below xN;obtain⟨H6,y8,oS,_⟩:=Fresh.snapB pV.psr.holds i9;have xl:=pV.grown y8;have uS:=y8.none wg mD.lt;clear vM i9 pV mD xN;have a1:=jgI;go_wp2_with (with_reducible refine zx ?_)
  refine zw rfl _ _ _ rfl rfl g 1 (.int .i64 ((P:Int)+(n:Int))) rfl rfl _ _ xl.psr.blk zF (by simp) rfl fun w7 nW vm=>?_
  have vT:=jhb;exact jaQ
 ·rw[show((3:Nat):Int)=3 from rfl]
  have E0:Hid (ze d (l.drop p) cnt=(if(l.drop p).length<k+n then .err 2 else if 3=3∧Lib.validD (((l.drop p).drop k).take n)=false then .err 5 else .ok (.mk 3 0 (((l.drop p).drop k).take n) []) (k+n) (cnt+1))):=by
   exact jbT
  have nZ:=ve.psr.small;have uw:=ve.psr.bytes.le;have mv:=ve.psr.bytes.max;have se:=ve.psr.le;obtain⟨rj,So⟩:=jgF;obtain⟨P,cQ⟩:∃ P,p+k=P:=⟨_,rfl⟩
  obtain⟨s,iN⟩:∃ s,((l.drop p).drop k).take n=s:=⟨_,rfl⟩
  rw[iN]at E0;rw[List.drop_drop,cQ]at iN;rw[cQ]at ve se;have K1:=jfK;have K2:IntKind.u64.wrap ((l.length:Int)-(P:Int))=(l.length:Int)-(P:Int):=by rw[IntKind.wrap_u64];omega
  have a0:=ve.psr.blk.cell 0 rfl;have a1:=ve.psr.blk.cell 1 rfl;have Di:(P:Int)≤(l.length:Int):=by omega
  have kW:(l.length:Int)≤4096:=by omega
  by_cases z9:l.length<P+n
  ·exact jdO
  have z0:¬ ((l.length:Int)-(P:Int)<(n:Int)):=by omega
  have z0b:=jf7;have E1:Hid (ze d (l.drop p) cnt=(if 3=3∧Lib.validD s=false then .err 5 else .ok (.mk 3 0 s []) (k+n) (cnt+1))):=by rw[Hid,E0.out,if_neg (by have:=sZ.out.2.2;omega)];try simp
  have qT:n=s.length:=by rw[← iN,List.length_take,List.length_drop];omega
  have oJ:=Hh qT;clear qT;obtain⟨KN,KP⟩:=jfz;have kt:((P:Int)+(n:Int)).toNat=P+n:=by omega
  have y0:(0:Int)≤(P:Int)+(n:Int):=by omega
  have y5:P≤P+n:=by omega
  have y6:P+n-P=n:=by omega
  have y1:(P:Int)≤(P:Int)+(n:Int):=by omega
  have y2:(P:Int)+(n:Int)≤(c:Int):=by omega
  have y3:(P:Int)≤(c:Int):=by omega
  have y4:(0:Int)≤(P:Int):=by omega
  have HK:=jgB;go_wp2_with fail
  go_big_quiet (fail)
  have i8:=ve.drewN nq;have i4:=jhq
  generalize wc.drewN nq=w9 at i8 i4⊢
  obtain⟨tq,rt⟩:=And.intro i8 i4;clear i8 i4 ve tZ a0 a1 E0 z0 z0b;have m9:∀ j (hj:j<l.length),w9.cell? ⟨b,off+j,none⟩=some (zu l[j]):=fun j hj=>tq.psr.holds.cell (px.out j hj)
  have a0:=tq.psr.blk.cell 0 rfl;have a1:=tq.psr.blk.cell 1 rfl
  by_cases YZ:c=P
  ·have Y0:P=c:=YZ.symm;subst Y0;clear YZ;obtain⟨HS,pV,mD⟩:=jfJ;clear tq rt m9;go_upto_region 28 with fail
   refine zr 17 (fun w'=>w'.cell? ⟨g,0,none⟩=some (.slice (some ⟨b,off,none⟩) l.length P)∧w'.cell? ⟨g,1,none⟩=some (.int .i64 (P:Int))) (by kernel_rfl) (⟨a0,a1⟩) (fun zy=>?_)
   refine Tk 0 rfl zy ?_
   refine Tk 1 rfl zy ?_
   refine Tk 2 rfl zy ?_
   refine Tk 3 rfl zy ?_
   refine Tk 4 rfl zy ?_
   refine Tk 5 rfl zy ?_
   refine Tk 6 rfl zy ?_
   refine Tk 7 rfl zy ?_
   refine Tk 8 rfl zy ?_
   refine Tk 9 rfl zy ?_
   refine Tk 10 rfl zy ?_
   refine Tk 11 rfl zy ?_
   refine Tk 12 rfl zy ?_
   refine Tk 13 rfl zy ?_
   refine Tk 14 rfl zy ?_
   refine Tk 15 rfl zy ?_
   refine To 16 rfl fun K hK=>?_
   refine yV (.const (.slice none 0 0)) (.tmp 144) rfl w9.drew.heap.size (.slice none 0 0) [] rfl (OwnB.nil _ _) (some ⟨b,off,none⟩) n _ s rfl oJ.out HS.out (by have:=oJ.out;simp;omega) (Nat.le_refl _) fun v' w10 hO hg lZ=>?_
   rw[List.nil_append]at hO;have xN:=jg1;have i9:Fresh w9.drew s v' w10:=⟨hO,xN⟩
   obtain⟨RA,rc,rfl,_⟩:=hO.form;have vM:=pV.below_ xN;go_simp
   refine Ko hK ?_ fun zy=>?_
   ·exact jch
   clear hK K
   refine To 17 rfl fun K hK=>?_
   go_simp
   refine Kz hK ?_
   clear hK K
   refine Wd ?_
   clear zy a0 a1 hO hg lZ HS;have uB:=mD.below xN;obtain⟨H6,y8,oS,_⟩:=Fresh.snapB pV.psr.holds i9;have xl:=pV.grown y8;have uS:=y8.none wg mD.lt;clear vM i9 pV mD xN;have a1:=jgI;go_wp2_with (with_reducible refine zx ?_)
   refine zw rfl _ _ _ rfl rfl g 1 (.int .i64 ((P:Int)+(n:Int))) rfl rfl _ _ xl.psr.blk zF (by simp) rfl fun w7 nW vm=>?_
   have vT:=jha;exact jdL
  obtain⟨LK,HS,pV,mD⟩:=jfG;clear tq rt m9;go_upto_region 28 with fail
  refine zr 17 (fun w'=>w'.cell? ⟨g,0,none⟩=some (.slice (some ⟨b,off,none⟩) l.length c)∧w'.cell? ⟨g,1,none⟩=some (.int .i64 (P:Int))) (by kernel_rfl) (⟨a0,a1⟩) (fun zy=>?_)
  refine Tk 0 rfl zy ?_
  refine Tk 1 rfl zy ?_
  refine Tk 2 rfl zy ?_
  refine Tk 3 rfl zy ?_
  refine Tk 4 rfl zy ?_
  refine Tk 5 rfl zy ?_
  refine Tk 6 rfl zy ?_
  refine Tk 7 rfl zy ?_
  refine Tk 8 rfl zy ?_
  refine Tk 9 rfl zy ?_
  refine Tk 10 rfl zy ?_
  refine Tk 11 rfl zy ?_
  refine Tk 12 rfl zy ?_
  refine Tk 13 rfl zy ?_
  refine Tk 14 rfl zy ?_
  refine Tk 15 rfl zy ?_
  refine To 16 rfl fun K hK=>?_
  refine yV (.const (.slice none 0 0)) (.tmp 144) rfl w9.drew.heap.size (.slice none 0 0) [] rfl (OwnB.nil _ _) (some ⟨b,off+P,none⟩) n _ s rfl oJ.out HS.out (by have:=oJ.out;simp;omega) (Nat.le_refl _) fun v' w10 hO hg lZ=>?_
  rw[List.nil_append]at hO;have xN:=jg1;have i9:Fresh w9.drew s v' w10:=⟨hO,xN⟩
  obtain⟨RA,rc,rfl,_⟩:=hO.form;have vM:=pV.below_ xN;go_simp
  refine Ko hK ?_ fun zy=>?_
  ·exact jch
  clear hK K
  refine To 17 rfl fun K hK=>?_
  go_simp
  refine Kz hK ?_
  clear hK K
  refine Wd ?_
  clear zy a0 a1 hO hg lZ HS;have uB:=mD.below xN;obtain⟨H6,y8,oS,_⟩:=Fresh.snapB pV.psr.holds i9;have xl:=pV.grown y8;have uS:=y8.none wg mD.lt;clear vM i9 pV mD xN;have a1:=jgI;go_wp2_with (with_reducible refine zx ?_)
  refine zw rfl _ _ _ rfl rfl g 1 (.int .i64 ((P:Int)+(n:Int))) rfl rfl _ _ xl.psr.blk zF (by simp) rfl fun w7 nW vm=>?_
  have vT:=jhb;exact jdL
 have Ot:(4:Int)≤(kd:Int):=by omega
 have hk6:(kd:Int)≤6:=by omega
 have s0:((kd:Int)==0)=false:=by simp;omega
 have s1:((kd:Int)==1)=false:=by simp;omega
 have s2:((kd:Int)==2)=false:=by simp;omega
 have s3:((kd:Int)==3)=false:=by simp;omega
 obtain⟨q0,q1,q2,q3⟩:=jhe
 cases d with
 | zero =>
  have E:=Hh (ft (l.drop p) cnt (by have:=HC.out;omega) HH.out (by have:=sZ.out.2.1;omega) (by have:=sZ.out.2.1;omega));have CW:lv=8:=by have:=Lf.out;omega
  subst CW;go_wp2_with (with_reducible refine zx ?_)
  refine stI tZ fun wz hTy hgz=>?_
  have xr:=jg0;exact jai
 | succ d =>
 have hE:=hE d rfl;have E0:=Hh (XF d (l.drop p) cnt (by have:=HC.out;omega) HH.out (by have:=sZ.out.2.1;omega) (by have:=sZ.out.2.1;omega));rw[sZ.out.2.1,List.drop_drop]at E0;have OH:¬ ((8:Int)≤(lv:Int)):=by have:=Lf.out;omega
 have zAa:decide ((8:Int)≤(lv:Int))=false:=decide_eq_false OH;have EL:=Hh (hE wc H g (some ⟨b,off,none⟩) c l (p+k) (cnt+1) lv kd n hTab (by have:=Lf.out;omega) (by omega) (by omega) HF.out.n_lt (by have:=sZ.out.2.2;omega) ve.psr);go_wp2_with fail
 refine EL.out.mono ?_
 intro e w6 hs
 cases hsp:uY kd d n (l.drop (p+k)) (cnt+1) with
 | err q =>
  rw[hsp,ItemOut]at hs;obtain⟨rfl,H4,p4,cnt4,pU⟩:=hs;have E:Hid (ze (d+1) (l.drop p) cnt=.err q):=by rw[Hid,E0.out,hsp]
  have xl:=ve.trans pU;have vU:=tZ.rdg pU (by omega);have uS:=pU.hid wg tZ.lt;clear pU ve tZ EL hsp E0;go_wp2_with (with_reducible refine zx ?_)
  refine stI vU fun wz hTy hgz=>?_
  have xr:=jg2;exact jai
 | ok x k' c' =>
 rw[hsp,ItemOut]at hs;obtain⟨ja,jb,jc,jd,H4,rfl,pU,SJ⟩:=hs;have E:Hid (ze (d+1) (l.drop p) cnt=.ok x (k+k') c'):=by rw[Hid,E0.out,hsp]
 have xl:=ve.trans pU;have vU:=tZ.rdg pU (by omega);have uS:=pU.hid wg tZ.lt;clear pU ve tZ EL hsp E0;go_wp2_with (with_reducible refine zx ?_)
 refine stI vU fun wz hTy hgz=>?_
 have xr:=jg2;exact jbI
end
theorem jP {d:Nat}(hE:∀ e,d=e+1→W9 e):mW d:=by
 intro w H g A c l p cnt lv hTab hlv hP
 by_cases hc:cnt=256
 ·exact Z0 hTab hlv hP hc
 have hc:cnt<256:=by have:=hP.cnt_le;omega
 by_cases z9:p=l.length
 ·exact XG hTab hlv hP hc z9
 have rk:p<l.length:=by have:=hP.le;omega
 by_cases iW:27<l[p].toNat%32
 ·exact Yz hTab hlv hP hc rk rfl rfl rfl iW
 have iW:l[p].toNat%32≤27:=by omega
 have hf:=l[p].toNat_lt
 rcases(by omega:l[p].toNat/32=7∨l[p].toNat/32≤6) with hk | hk
 ·exact QK hTab hlv hP hc rk rfl rfl rfl iW hk
 exact XH hTab hE hlv hP hc rk rfl rfl rfl iW hk
theorem Tz (hE:∀ d,mW d→W9 d):∀ d:Nat,mW d:=by
 intro d
 induction d with
 | zero=>exact jP (fun e h=>absurd h (by omega))
 | succ d ih=>exact jP (fun e h=>by cases h;exact hE d ih)
theorem Kb (d:Nat) (ih:mW d):W9 d:=by
 intro w H g A c l p cnt lv maj n hTab hlv h4 h6 hn ap hP
 rcases(by omega:maj=4∨maj=5∨maj=6) with rfl | rfl | rfl
 ·exact QH ih hTab hlv hn ap hP
 ·exact QI ih hTab hlv hn ap hP
 exact QJ ih hTab hlv hn ap hP
theorem Kc:∀ d,mW d:=Tz Kb
theorem XR {H:Snap}(hTab:Tabs H) (w:World) (hH:Holds w H) {A:Option Addr}{n c:Nat}{l:List UInt8}(hn:n=l.length) (hl:IsBytes H A c l) :
  Calls Tryz.prog 54 #[.slice A n c] w (wV w H l):=eY Kc hTab w hH hn hl
def lS:Lie Ext where
 k:=3
 pos:=by omega
 E:=fun H x c=>∃ A cc,c=[.int .i64 x.label,.bool x.has,.slice A x.val.length cc]∧IsBytes H A cc x.val
 len:=by rintro _ _ _ ⟨_,_,rfl,_⟩;rfl
 one:=by rintro _ _ _ ⟨_,_,rfl,_⟩;simp[Value.oneCell']
 mono:=by rintro H K x c hl ⟨A,cc,e,h⟩;exact⟨A,cc,e,h.mono hl⟩
def jA (kd:Int) (n lim:Nat):Option Int:=if kd=0∧n≤lim then some (n:Int) else if kd=1∧n<lim then some (-1-(n:Int)) else none
theorem Qt (x:Itm) (lim:Nat):mp x lim=jA x.kind x.n lim:=rfl
def Rp:Option Int→Array Value
 | none=>#[.int .i64 0,.bool false]
 | some v=>#[.int .i64 v,.bool true]
theorem IsBytes.drop {H:Snap}{A:Option Addr}{c:Nat}{l:List UInt8}(h:IsBytes H A c l) (k:Nat) (hk:k≤l.length):IsBytes H (if c=k then A else Option.map (fun x=>x.add k) A) (c-k) (l.drop k):=by
 exact ja3
section
variable (kd:Int) (n:Nat) (ja:Option Addr) (jl jb:Nat) (jc:Option Addr) (jm jd:Nat) (w:World)
theorem ZV:Calls Tryz.prog 120 #[.agg #[.int .i64 kd,.int .u64 (n:Int),.slice ja jl jb,.slice jc jm jd]] w
  fun e w'=>e=.returned (.tuple (Rp (jA kd n 65535)))∧Below w.heap.size w w':=by
 have hB:=Blk.new w 77 #[.int .i64 kd,.int .u64 (n:Int),.slice ja jl jb,.slice jc jm jd];have hb:=zX w (.cells #[.int .i64 kd,.int .u64 (n:Int),.slice ja jl jb,.slice jc jm jd] 77);have c0:=hB.cell 0 rfl;have c1:=hB.cell 1 rfl
 by_cases h0:kd=0
 ·subst h0
  by_cases hn:n≤65535
  ·have z:(n:Int)≤65535:=by omega
   have zb:decide ((n:Int)≤65535)=true:=decide_eq_true z;have K:IntKind.i64.wrap (n:Int)=(n:Int):=IntWalk.i64_in _ (by omega);have E:Hid (jA 0 n 65535=some (n:Int)):=by rw[Hid,jA,if_pos ⟨rfl,hn⟩]
   clear hn;exact jbh
  have z:¬ ((n:Int)≤65535):=by omega
  have zb:decide ((n:Int)≤65535)=false:=decide_eq_false z;have E:Hid (jA 0 n 65535=none):=by rw[Hid,jA,if_neg (fun h=>hn h.2),if_neg (fun h=>by omega)]
  clear hn;exact jbh
 have p0:(kd==0)=false:=by simpa using h0
 have p0':(kd=0)=False:=eq_false h0
 by_cases h1:kd=1
 ·subst h1
  by_cases hn:n<65535
  ·have z:(n:Int)<65535:=by omega
   have zb:decide ((n:Int)<65535)=true:=decide_eq_true z;have K:IntKind.i64.wrap (n:Int)=(n:Int):=IntWalk.i64_in _ (by omega);have E:Hid (jA 1 n 65535=some (-1-(n:Int))):=by rw[Hid,jA,if_neg (fun h=>by omega),if_pos ⟨rfl,hn⟩]
   clear hn h0;exact jbh
  have z:¬ ((n:Int)<65535):=by omega
  have zb:decide ((n:Int)<65535)=false:=decide_eq_false z;have E:Hid (jA 1 n 65535=none):=by rw[Hid,jA,if_neg (fun h=>by omega),if_neg (fun h=>hn h.2)]
  clear hn h0;exact jbh
 have p1:(kd==1)=false:=by simpa using h1
 have p1':(kd=1)=False:=eq_false h1;have E:Hid (jA kd n 65535=none):=by rw[Hid,jA,if_neg (fun h=>h0 h.1),if_neg (fun h=>h1 h.1)]
 clear h0 h1;exact jbh
end
theorem XW:(Tryz.prog.info? 31).map (·.size)=some 1:=by kernel_rfl
theorem Nk:(Tryz.prog.info? 94).map (·.size)=some 2:=by kernel_rfl
abbrev erC (A:Option Addr) (n c q:Nat):Array Value:=#[.slice A n c,.int .i64 (q:Int)]
section
variable {w:World} {g:Nat} {A:Option Addr} {n c q:Nat}
theorem pL (hB:Blk w g 94 (erC A n c q)) (e0:Nat):Calls Tryz.prog 82 #[.pointer (some ⟨g,0,none⟩),.int .i64 (e0:Int)] w
  fun e w'=>(∃ v,e=.returned v)∧Blk w' g 94 (erC A n c (if q=0 then e0 else q))∧w.grownBy w' (some g):=by
 have c1:=hB.cell 1 rfl
 by_cases hq:q=0
 ·subst hq;rw[if_pos rfl];go_enter Tryz.func82,Tryz.ntmps82
  go_wp2_with (with_reducible refine zx ?_)
  refine zw rfl _ _ _ rfl rfl g 1 (.int .i64 (e0:Int)) rfl rfl _ _ hB XW (by simp) rfl fun w3 ug yA=>?_
  go_wp2_with fail
  go_end0
  exact⟨⟨_,rfl⟩,ug,yA⟩
 have z:((q:Int)==0)=false:=by simp;omega
 have z':=jgD;rw[if_neg hq];clear hq;go_enter Tryz.func82,Tryz.ntmps82
 go_wp2_with fail
 go_end0
 exact⟨⟨_,rfl⟩,hB,yN w _⟩
end
structure Rdr (w:World) (g:Nat) (H:Snap) (A:Option Addr) (c:Nat) (l:List UInt8) (q:Nat):Prop where
 blk:Blk w g 94 (erC A l.length c q)
 bytes:IsBytes H A c l
 holds:Holds w H
 apart:H g=none
structure Est (w:World) (H:Snap) (w':World) (H':Snap) (g:Nat) (A:Option Addr) (c:Nat) (l:List UInt8) (q:Nat):Prop where
 grows:GrowsBut w H w' H' g
 rd:Rdr w' g H' A c l q
section
variable {w w' w'':World} {H H' H'':Snap} {g:Nat} {A A':Option Addr} {c c':Nat} {l l':List UInt8} {q q':Nat}
theorem Rdr.gt (h:Rdr w g H A c l q):g<w.heap.size:=h.blk.lt
theorem Est.refl (h:Rdr w g H A c l q):Est w H w H g A c l q:=⟨GrowsBut.refl h.holds g,h⟩
theorem Est.trans (h:Est w H w' H' g A c l q) (k:Est w' H' w'' H'' g A' c' l' q'):Est w H w'' H'' g A' c' l' q':=⟨h.grows.trans k.grows,k.rd⟩
theorem Rdr.grows (h:Rdr w g H A c l q) (k:Grows w H w' H'):Est w H w' H' g A c l q :=
 ⟨k.but g,⟨h.blk.below k.below,h.bytes.mono k.le,k.holds,k.none h.apart h.gt⟩⟩
theorem Est.grown (h:Est w H w' H' g A c l q) (k:Grows w' H' w'' H''):Est w H w'' H'' g A c l q:=h.trans (h.rd.grows k)
theorem Est.alloc (h:Est w H w' H' g A c l q) (o:Obj):Est w H (w'.alloc o) H' g A c l q:=h.grown ((Grows.refl h.rd.holds).alloc o)
theorem Est.below_ (h:Est w H w' H' g A c l q) (k:Below w'.heap.size w' w''):Est w H w'' H' g A c l q:=h.grown (Grows.of_below h.rd.holds k)
theorem Est.drewN (h:Est w H w' H' g A c l q) (m:Nat):Est w H (w'.drewN m) H' g A c l q:=h.below_ (below_drewNv (Below.refl _ _) m)
theorem Est.size (h:Est w H w' H' g A c l q):w.heap.size≤w'.heap.size:=h.grows.grown.size
theorem Est.hid (h:Est w H w' H' g A c l q) {k:Nat}(hk:H k=.none) (hl:k<w.heap.size):H' k=.none:=h.grows.hid hk hl
theorem Est.step (h:Est w H w' H' g A c l q) (hg:w'.grownBy w'' (some g)) (hb:Blk w'' g 94 (erC A' l'.length c' q')) (hl:IsBytes H' A' c' l'):Est w H w'' H' g A' c' l' q' :=
 ⟨⟨zG h.grows.grown hg (.inl rfl),h.grows.le,h.rd.holds.grown hg (by rintro q ⟨⟩;exact h.rd.apart),h.grows.fresh⟩,
  hb,hl,h.rd.holds.grown hg (by rintro q ⟨⟩;exact h.rd.apart),h.rd.apart⟩
theorem Est.grownRow {row:Option Nat}(h:Est w H w' H' g A c l q) (h0:∀ k,row=some k→H' k=.none) (hw:∀ k,row=some k→w.heap.size≤k) (z9:g<w.heap.size) (hg:w'.grownBy w'' row):Est w H w'' H' g A c l q:=by
 have hd:=h.rd;have xp:row≠some g:=fun e=>by have:=hw g e;omega
 refine⟨⟨?_,h.grows.le,hd.holds.grown hg h0,h.grows.fresh⟩,hd.blk.grown hg xp,hd.bytes,hd.holds.grown hg h0,hd.apart⟩
 exact jbB
theorem Blk.est {k:Nat}{t:TypeId}{cs:Array Value}(h:Blk w k t cs) (hd:Est w H w' H' g A c l q) (hk:k≠g):Blk w' k t cs :=
 h.grown hd.grows.grown (by intro e;injection e with e;exact hk e.symm)
theorem OwnX.est {α:Type}{L:Lie α}{t:TypeId}{base:Nat}{v:Value}{K:Snap}{xs:List α}(h:OwnX L t w base v K xs) (hd:Est w H w' H' g A c l q) (hb:g<base):OwnX L t w' base v K xs:=by
 exact jce
def EItem (w:World) (H:Snap) (g:Nat) (l:List UInt8) (e:Ending) (w':World):Prop :=
 match yz l with
 | .err q=>e=.returned lN∧∃ H' A' c',Est w H w' H' g A' c' l q
 | .ok x k _=>∃ ja jb jc jd H' A' c',e=.returned (rG x ja jb jc jd)∧Est w H w' H' g A' c' (l.drop k) 0∧IsItem H' ja jb jc jd x
theorem EItem.err {e:Ending}(hr:yz l=.err q) (he:e=.returned lN) (h:Est w H w' H' g A c l q):EItem w H g l e w':=by
 rw[EItem,hr];exact⟨he,H',A,c,h⟩
theorem EItem.ok {e:Ending}{x:Itm}{k m:Nat}{ja:Option Addr}{jb:Nat}{jc:Option Addr}{jd:Nat}(hr:yz l=.ok x k m) (he:e=.returned (rG x ja jb jc jd)) (h:Est w H w' H' g A c (l.drop k) 0) (hi:IsItem H' ja jb jc jd x):EItem w H g l e w':=by
 rw[EItem,hr];exact⟨ja,jb,jc,jd,H',A,c,he,h,hi⟩
theorem qX (hR:Rdr w g H A c l q) (hq:q≠0):Calls Tryz.prog 81 #[.pointer (some ⟨g,0,none⟩)] w fun e w'=>e=.returned lN∧Est w H w' H g A c l q:=by
 have yo:=hR.gt;obtain⟨xY,xO,wg⟩:=jg3;have c1:=xY.rd.blk.cell 1 rfl;have z:((q:Int) != 0)=true:=by rw[bne_iff_ne];omega
 have z':=jgD;clear hq;go_enter Tryz.func81,Tryz.ntmps81
 go_wp2_with (with_reducible refine zx ?_)
 refine stI xO fun wz hTy hgz=>?_
 have xr:=jgX;go_wp2_with fail
 refine xU rfl rfl hTy rfl rfl zj rfl ?_
 exact⟨rfl,xr⟩
theorem bp (hTab:Tabs H) (hR:Rdr w g H A c l 0):Calls Tryz.prog 81 #[.pointer (some ⟨g,0,none⟩)] w (EItem w H g l):=by
 have yo:=hR.gt;obtain⟨xY,xO,wg⟩:=jg3;have c0:=xY.rd.blk.cell 0 rfl;have c1:=xY.rd.blk.cell 1 rfl;have PF:=Hh (jK hTab (w.alloc zf) xY.rd.holds rfl hR.bytes);go_enter Tryz.func81,Tryz.ntmps81
 go_wp2_with fail
 have LE:Blk (w.alloc zf) w.heap.size 77 #[.int .i64 0,.int .u64 0,.slice none 0 0,.slice none 0 0]:=xO;clear xO c0 c1
 generalize w.alloc zf=w1 at xY LE PF⊢
 have cV:=xY;have Ok:=LE;clear xY LE
 refine PF.out.mono ?_
 intro e w2 hs
 unfold uK at hs
 cases hp:yz l with
 | err q =>
  rw[hp]at hs;obtain⟨rfl,zD⟩:=hs;have HP:=Hh hp;have sz:((q:Int) != 0)=true:=by rw[bne_iff_ne];have:=zN _ _ _ _ hp;omega
  have oD:=jfy;have wC:=cV.below_ zD;have tX:=Ok.below zD;have wY:=jfq;have mu:H w2.heap.size=none:=wC.rd.holds.none_of_ge (Nat.le_refl _);have qp:=Hh tX.lt;have wI:=wC.alloc zf;have yE:=tX.alloc zf;clear hp PF cV Ok zD wC tX;go_wp2_with (with_reducible refine zx ?_)
  refine stI wY fun w4 uq hg4=>?_
  obtain⟨wE,wo⟩:=jgl;have FL:=Hh (pL wE.rd.blk q);rw[if_pos rfl]at FL;clear wI yE wY hg4 uq;go_wp2_with fail
  refine FL.out.mono ?_
  rintro e w5 ⟨⟨v,rfl⟩,ts,xx⟩
  have wT:=wE.step xx ts wE.rd.bytes;have xG:=wo.gr xx (by omega);clear FL wE wo ts xx;go_wp2_with (with_reducible refine zx ?_)
  refine stI xG fun wz hTy hgz=>?_
  have xr:=wT.grownRow (row:=some w.heap.size) (by rintro q ⟨⟩;exact wg) (by rintro q ⟨⟩;exact Nat.le_refl _) yo hgz;go_wp2_with fail
  refine xU rfl rfl hTy rfl rfl zj rfl ?_
  exact EItem.err HP.out rfl xr
 | ok x k m =>
 rw[hp]at hs;obtain⟨ja,jb,jc,jd,H2,rfl,xq,fE⟩:=hs;have HP:=Hh hp;have uh:=(vO hp).1;have uw:=hR.bytes.le;have mv:=hR.bytes.max;have wC:=cV.grown xq;have tX:=Ok.below xq.below;have cm:=xq.none wg Ok.lt;have wY:=jfq;have mu:=jgV;have qp:=Hh tX.lt;have wI:=wC.alloc zf;have yE:=tX.alloc zf;have f8:=Hh (And.intro uh (And.intro uw mv));obtain⟨b,off,rfl,_⟩:=hR.bytes.at_ (by have:=(vO HP.out).2.2.1;omega);have bz:=Hh (wC.rd.bytes.drop k uh);have Hy:=Hh (vO HP.out).2.2.1;clear hp PF cV Ok xq wC tX uh uw mv;go_wp2_with (with_reducible refine zx ?_)
 refine stI wY fun w4 uq hg4=>?_
 obtain⟨wE,wo⟩:=jgl;have a0:=wE.rd.blk.cell 0 rfl;have s1:(k:Int)≤(l.length:Int):=by have:=f8.out.1;omega
 have s2:(l.length:Int)≤(c:Int):=by have:=f8.out.2.1;omega
 have s3:(k:Int)≤(c:Int):=by omega
 have s4:(0:Int)≤(k:Int):=by omega
 clear wI yE wY hg4
 by_cases hck:c=k
 ·have CE:k=c:=hck.symm;subst hck
  have Ld:Hid (IsBytes H2 (some ⟨b,off,none⟩) 0 (l.drop c)):=by
   have h:=bz.out;rw[if_pos rfl,Nat.sub_self]at h
   exact h
  clear bz CE;go_wp2_with (with_reducible refine zx ?_)
  refine zw rfl _ _ _ rfl rfl g 0 (.slice (some ⟨b,off,none⟩) (l.length-c) 0) rfl rfl _ _ wE.rd.blk yY (by simp) rfl fun w5 ts xx=>?_
  have cA:Blk w5 g 94 (erC (some ⟨b,off,none⟩) (l.drop c).length 0 0):=by rw[List.length_drop];exact ts
  exact jaO
 have Gh:(c=k)=False:=eq_false hck
 have Ld:Hid (IsBytes H2 (some ⟨b,off+k,none⟩) (c-k) (l.drop k)):=by
  exact jdz
 clear bz hck;go_wp2_with (with_reducible refine zx ?_)
 refine zw rfl _ _ _ rfl rfl g 0 (.slice (some ⟨b,off+k,none⟩) (l.length-k) (c-k)) rfl rfl _ _ wE.rd.blk yY (by simp) rfl fun w5 ts xx=>?_
 have cA:Blk w5 g 94 (erC (some ⟨b,off+k,none⟩) (l.drop k).length (c-k) 0):=by rw[List.length_drop];exact ts
 exact jaO
end
theorem Est.gb {w w' w'':World}{H H':Snap}{g k:Nat}{A:Option Addr}{c:Nat}{l:List UInt8}{q:Nat}(h:Est w H w' H' g A c l q) (h0:H' k=none) (hw:w.heap.size≤k) (z9:g<w.heap.size) (hg:w'.grownBy w'' (some k)):Est w H w'' H' g A c l q:=h.grownRow (row:=some k) (by rintro q ⟨⟩;exact h0) (by rintro q ⟨⟩;exact hw) z9 hg
end Go.Proofs.YtkmlnjociijpgaaGreatDoor
