/- squeezed. Walks: the program's reader of ite -/
import Derived.Test.YtkmlnjociijpgaaGreatDoorK22
set_option linter.unusedVariables false
set_option linter.unusedSimpArgs false
set_option maxRecDepth 100000
set_option maxHeartbeats 6400000
namespace Go.Proofs.YtkmlnjociijpgaaGreatDoor
open Go.RowKit
theorem jaU{P:Prop}(h:P:=by
 rw[hv]at UV;have E:Hid (ze d (l.drop p) cnt=.ok (.mk 3 0 s []) (k+n) (cnt+1)):=by rw[Hid,E1.out,if_neg (fun h=>by rw[hv]at h;cases h.2)]
 clear hv E1;go_wp2_with fail
 refine UV.out.mono ?_
 rintro e w8 ⟨rfl,uk⟩
 have ve:=vT.below_ uk;have tZ:=wU.below uk;clear UV vT wU;go_wp2_with (with_reducible refine zx ?_)
 refine stI tZ fun wz hTy hgz=>?_
 have xr:=ve.gb kY (Nat.le_refl _) yo hgz;exact jep):P:=h
theorem ja5{P:Prop}(h:P:=by
 have wU:=xG.gr vm (by omega);have kY:=uS;clear xl xG nW vm a1;have E:Hid (ze d (l.drop p) cnt=.ok (.mk 2 0 s []) (k+n) (cnt+1)):=by rw[Hid,E1.out,if_neg (fun h=>absurd h.1 (by omega))]
 have IB:=oS;clear E1;go_wp2_with (with_reducible refine zx ?_)
 refine stI wU fun wz hTy hgz=>?_
 have xr:=vT.gb kY (Nat.le_refl _) yo hgz;exact jeq):P:=h
theorem jb9{P:Prop}(h:P:=by exact jeX):P:=h
theorem jcg{P:Prop}(h:P:=by exact⟨wT.psr.blk.cell 0 rfl,wT.psr.blk.cell 1 rfl⟩):P:=h
theorem jcJ{P:Prop}(h:P:=by injection h with h;omega):P:=h
theorem jdM{P:Prop}(h:P:=by
 have wU:=xG.gr vm (by omega);have kY:=uS;clear xl xG nW vm a1;have IB:=oS;have UV:=Hh (oy (hTab.mono y8.le) w7 vT.psr.holds RA s s.length rc rfl oS)
 cases hv:Lib.validD s with
 | false =>
  rw[hv]at UV;have E:Hid (ze d (l.drop p) cnt=.err 5):=by rw[Hid,E1.out,if_pos (by first | exact⟨rfl,hv⟩ | exact⟨trivial,hv⟩)]
  clear hv E1;go_wp2_with fail
  refine UV.out.mono ?_
  rintro e w8 ⟨rfl,uk⟩
  have ve:=vT.below_ uk;have tZ:=wU.below uk;clear UV vT wU;go_wp2_with (with_reducible refine zx ?_)
  refine stI tZ fun wz hTy hgz=>?_
  have xr:=ve.gb kY (Nat.le_refl _) yo hgz;exact jai
 | true =>
 exact jaU):P:=h
theorem jdR{P:Prop}(h:P:=by
 have z0:(l.length:Int)-(P:Int)<(n:Int):=by omega
 have E:Hid (ze d (l.drop p) cnt=.err 2):=by rw[Hid,E0.out,if_pos (by omega)]
 clear nZ uw mv rj So cQ iN E0 z9 vY;go_wp2_with fail
 go_big_quiet (fail)
 have wE:=wI.drewN nq;have wo:Blk (w3.drewN nq) w.heap.size 77 #[.int .i64 0,.int .u64 0,.slice none 0 0,.slice none 0 0]:=yE;go_wp2_with (with_reducible refine zx ?_)
 refine stI wo fun wz hTy hgz=>?_
 have xr:=wE.gb wg (Nat.le_refl _) yo hgz;exact jai):P:=h
theorem jep{P:Prop}(h:P:=by
 go_wp2_with fail
 refine zo rfl rfl hTy rfl rfl zj rfl ?_
 exact ItemOut.ok E.out rfl (by rw[← Nat.add_assoc,HK.out.2.2.2];exact xr) (IsItem.str 3 (by omega) IB)):P:=h
theorem jeq{P:Prop}(h:P:=by
 go_wp2_with fail
 refine zo rfl rfl hTy rfl rfl zj rfl ?_
 exact ItemOut.ok E.out rfl (by rw[← Nat.add_assoc,HK.out.2.2.2];exact xr) (IsItem.str 2 (by omega) IB)):P:=h
theorem jeN{P:Prop}(h:P:=by rw[Hid,nJ d (l.drop p) cnt (by omega) hh (by omega) (by omega),hk];exact jb9):P:=h
theorem jeX{P:Prop}(h:P:=by first | rfl | (simp only[true_and];first | done | rfl) | simp):P:=h
theorem jeY{P:Prop}(h:P:=by
 split at h
 ·exact jcJ
 split at h
 ·exact jcJ
 exact jy n _ _ _ h):P:=h
theorem jfx{P:Prop}(h:P:=by have pS:=wI.drewN nq;have pO:Blk (w3.drewN nq) w.heap.size 77 #[.int .i64 0,.int .u64 0,.slice none 0 0,.slice none 0 0]:=yE;exact And.intro pS pO):P:=h
theorem jfy{P:Prop}(h:P:=by have oD:((q:Int)=0)=False:=eq_false (by have:=zN _ _ _ _ hp;omega);exact oD):P:=h
theorem jfz{P:Prop}(h:P:=by have KN:IntKind.i64.wrap (n:Int)=(n:Int):=IntWalk.i64_in _ (by omega);have KP:IntKind.i64.wrap ((P:Int)+(n:Int))=(P:Int)+(n:Int):=IntWalk.i64_in _ (by omega);exact And.intro KN KP):P:=h
theorem jfC{P:Prop}(h:P:=by have LK:(c=P)=False:=eq_false YZ;have pT:Rdg 167 w H w4.drew H g (some ⟨b,off,none⟩) c l P (cnt+1):=wE.drewN 1;have mC:Blk w4.drew w.heap.size 77 #[.int .i64 0,.int .u64 0,.slice none 0 0,.slice none 0 0]:=wo;have CL:=Hh (ry w4.drew (some ⟨b,off+P,none⟩) s n (c-P) oJ.out (by have:=oJ.out;omega) ((by have hq:=rY (w:=w4.drew) (n:=n) px P (some ⟨b,off+P,none⟩) (fun _=>rfl) (by omega);rw[iN]at hq;exact hq)));have a0:=wE.psr.blk.cell 0 rfl;have a1:=wE.psr.blk.cell 1 rfl;exact And.intro LK (And.intro pT (And.intro mC (And.intro CL (And.intro a0 a1))))):P:=h
theorem jfE{P:Prop}(h:P:=by have pT:Rdg 167 w H w4.drew H g (some ⟨b,off,none⟩) P l P (cnt+1):=wE.drewN 1;have mC:Blk w4.drew w.heap.size 77 #[.int .i64 0,.int .u64 0,.slice none 0 0,.slice none 0 0]:=wo;have CL:=Hh (ry w4.drew (some ⟨b,off,none⟩) s n 0 oJ.out (by have:=oJ.out;omega) (by have hz:s=[]:=List.eq_nil_of_length_eq_zero (by have:=oJ.out;omega);rw[hz];exact Src.nil _ _));have a0:=wE.psr.blk.cell 0 rfl;have a1:=wE.psr.blk.cell 1 rfl;exact And.intro pT (And.intro mC (And.intro CL (And.intro a0 a1)))):P:=h
theorem jfK{P:Prop}(h:P:=by have K1:IntKind.i64.wrap ((l.length:Int)-(P:Int))=(l.length:Int)-(P:Int):=IntWalk.i64_in _ (by omega);exact K1):P:=h
theorem jf7{P:Prop}(h:P:=by have z0b:decide ((l.length:Int)-(P:Int)<(n:Int))=false:=decide_eq_false z0;exact z0b):P:=h
theorem jgB{P:Prop}(h:P:=by have HK:=Hh (And.intro nZ (And.intro uw (And.intro mv cQ)));exact HK):P:=h
theorem jgF{P:Prop}(h:P:=by have rj:=HF.out.n_lt;have So:(l.drop p).length=l.length-p:=List.length_drop;exact And.intro rj So):P:=h
theorem jgG{P:Prop}(h:P:=by have a0:=wI.psr.blk.cell 0 rfl;have a1:=wI.psr.blk.cell 1 rfl;exact And.intro a0 a1):P:=h
theorem jgI{P:Prop}(h:P:=by have a1:=xl.psr.blk.cell 1 rfl;exact a1):P:=h
theorem jgL{P:Prop}(h:P:=by have KL:IntKind.i64.wrap ((lv:Int)+1)=(lv:Int)+1:=IntWalk.i64_in _ (by omega);exact KL):P:=h
theorem jgW{P:Prop}(h:P:=by have wE:=wI.trans pR;have wo:=yE.rdg pR (by omega);have ik:=pR.hid wg yE.lt;exact And.intro wE (And.intro wo ik)):P:=h
theorem jg8{P:Prop}(h:P:=by have vT:Rdg 167 w H w7 H6 g (some ⟨b,off,none⟩) P l (P+n) (cnt+1):=xl.step vm nW (by omega) (by have:=HC.out;omega);exact vT):P:=h
theorem jg9{P:Prop}(h:P:=by have vT:Rdg 167 w H w7 H6 g (some ⟨b,off,none⟩) c l (P+n) (cnt+1):=xl.step vm nW (by omega) (by have:=HC.out;omega);exact vT):P:=h
section
variable {d:Nat} {w:World} {H:Snap} {g:Nat} {A:Option Addr} {c:Nat} {l:List UInt8} {p cnt lv:Nat}
theorem IsItem.str {H:Snap}{B:Option Addr}{bc:Nat}{s:List UInt8}(k:Int) (hk:0≤k∧k≤8) (h:IsBytes H B bc s):IsItem H B bc none 0 (.mk k 0 s []):=by
 rw[IsItem]
 exact⟨⟨by omega,by omega,by omega,Nat.le_refl _,by omega⟩,h,fun h=>absurd h (by simp)⟩
theorem Q8 (hTab:Tabs H) (hlv:lv+d=8) (hP:Psr 167 w g H A c l p cnt) (hc:cnt<256) {f n k:Nat}(hh:zH (l.drop p)=.ok (f,n,k)) (hk:f/32=2):Calls Tryz.prog 134 #[.pointer (some ⟨g,0,none⟩),.int .i64 (lv:Int)] w (ItemOut 167 w H g A c l p (ze d (l.drop p) cnt)):=by
 obtain⟨yo,xY,xO,wg⟩:=jff;have c2:=jfH
 have E0:Hid (ze d (l.drop p) cnt=(if(l.drop p).length<k+n then .err 2 else if 2=3∧Lib.validD (((l.drop p).drop k).take n)=false then .err 5 else .ok (.mk 2 0 (((l.drop p).drop k).take n) []) (k+n) (cnt+1))):=by
  exact jeN
 have S:(f:Int)/32=2:=by omega
 have x9:((cnt:Int)==256)=false:=by simp;omega
 obtain⟨xV,KC,HC⟩:=jfh;clear hc;go_enter Tryz.func134,Tryz.ntmps134
 go_wp2_with (with_reducible refine zx ?_)
 refine zw rfl _ _ _ rfl rfl g 2 (.int .i64 ((cnt:Int)+1)) rfl rfl _ _ xY.psr.blk zF (by simp) rfl fun w2 wm xq=>?_
 obtain⟨wC,tX,PH⟩:=jfi;clear xY xO wm xq c2 KC x9 xV;go_wp2_with fail
 refine PH.out.mono ?_
 intro e w3 hs
 rw[HeadSaid,hh]at hs;obtain⟨rfl,ug,yA⟩:=hs;have HS:=ws hh;have se:p+k≤l.length:=by have:=HS.le;rw[List.length_drop]at this;have:=hP.le;omega
 obtain⟨wI,yE,HF⟩:=jfm;clear wC tX ug yA PH HS hh;have cH:=HF.out.pos;obtain⟨b,off,rfl,vY⟩:=wI.psr.bytes.at_ (by omega);have nZ:=wI.psr.small;have uw:=wI.psr.bytes.le;have mv:=wI.psr.bytes.max;obtain⟨rj,So⟩:=jgF;obtain⟨P,cQ⟩:∃ P,p+k=P:=⟨_,rfl⟩
 obtain⟨s,iN⟩:∃ s,((l.drop p).drop k).take n=s:=⟨_,rfl⟩
 rw[iN]at E0;rw[List.drop_drop,cQ]at iN;rw[cQ]at wI se;have K1:=jfK;have K2:IntKind.u64.wrap ((l.length:Int)-(P:Int))=(l.length:Int)-(P:Int):=by rw[IntKind.wrap_u64];omega
 obtain⟨a0,a1⟩:=jgG;have Di:(P:Int)≤(l.length:Int):=by omega
 have kW:(l.length:Int)≤4096:=by omega
 by_cases z9:l.length<P+n
 ·exact jdR
 have z0:¬ ((l.length:Int)-(P:Int)<(n:Int)):=by omega
 have z0b:=jf7;have E1:Hid (ze d (l.drop p) cnt=(if 2=3∧Lib.validD s=false then .err 5 else .ok (.mk 2 0 s []) (k+n) (cnt+1))):=by rw[Hid,E0.out,if_neg (by omega)];try simp
 have qT:n=s.length:=by rw[← iN,List.length_take,List.length_drop];omega
 have oJ:=Hh qT;clear qT;obtain⟨KN,KP⟩:=jfz;have kt:((P:Int)+(n:Int)).toNat=P+n:=by omega
 have y0:(0:Int)≤(P:Int)+(n:Int):=by omega
 have y5:P≤P+n:=by omega
 have y6:P+n-P=n:=by omega
 have y1:(P:Int)≤(P:Int)+(n:Int):=by omega
 have y2:(P:Int)+(n:Int)≤(c:Int):=by omega
 have y3:(P:Int)≤(c:Int):=by omega
 have y4:(0:Int)≤(P:Int):=by omega
 have HK:=jgB;go_wp2_with fail
 go_big_quiet (fail)
 obtain⟨pS,pO⟩:=jfx
 generalize w3.drewN nq=w4 at pS pO⊢
 obtain⟨wE,wo⟩:=And.intro pS pO;clear pS pO wI yE a0 a1 E0 z0 z0b;have px:∀ j (hj:j<l.length),w4.cell? ⟨b,off+j,none⟩=some (zu l[j]):=fun j hj=>wE.psr.holds.cell (vY j hj)
 by_cases YZ:c=P
 ·have Y0:P=c:=YZ.symm;subst Y0;clear YZ;obtain⟨pT,mC,CL,a0,a1⟩:=jfE;clear wE wo;go_upto_region 16 with fail
  refine zr 17 (fun w'=>w'.cell? ⟨g,0,none⟩=some (.slice (some ⟨b,off,none⟩) l.length P)∧w'.cell? ⟨g,1,none⟩=some (.int .i64 (P:Int))) (by kernel_rfl) (⟨a0,a1⟩) (fun zy=>?_)
  refine Tk 0 rfl zy ?_
  refine Tk 1 rfl zy ?_
  refine Tk 2 rfl zy ?_
  refine Tk 3 rfl zy ?_
  refine Tk 4 rfl zy ?_
  refine Tk 5 rfl zy ?_
  refine Tk 6 rfl zy ?_
  refine Tk 7 rfl zy ?_
  refine Tk 8 rfl zy ?_
  refine Tk 9 rfl zy ?_
  refine Tk 10 rfl zy ?_
  refine Tk 11 rfl zy ?_
  refine Tk 12 rfl zy ?_
  refine Tk 13 rfl zy ?_
  refine Tk 14 rfl zy ?_
  refine Tk 15 rfl zy ?_
  refine To 16 rfl fun K hK=>?_
  go_simp
  refine CL.out.mono ?_
  rintro e w5 ⟨r5,rfl,xX⟩
  obtain⟨RA,rc,rfl,_⟩:=xX.own.form;have wT:=pT.below_ xX.2
  refine Ko hK ?_ fun zy=>?_
  ·exact jcg
  clear hK K
  refine To 17 rfl fun K hK=>?_
  go_simp
  refine Kz hK ?_
  clear hK K
  refine Wd ?_
  clear zy CL a0 a1;have xG:=mC.below xX.2;obtain⟨H6,y8,oS,_⟩:=Fresh.snapB pT.psr.holds xX;have xl:=pT.grown y8;have uS:=y8.none wg mC.lt;clear wT xX pT mC;have a1:=jgI;go_wp2_with (with_reducible refine zx ?_)
  refine zw rfl _ _ _ rfl rfl g 1 (.int .i64 ((P:Int)+(n:Int))) rfl rfl _ _ xl.psr.blk zF (by simp) rfl fun w7 nW vm=>?_
  have vT:=jg8;exact ja5
 obtain⟨LK,pT,mC,CL,a0,a1⟩:=jfC;clear wE wo;go_upto_region 16 with fail
 refine zr 17 (fun w'=>w'.cell? ⟨g,0,none⟩=some (.slice (some ⟨b,off,none⟩) l.length c)∧w'.cell? ⟨g,1,none⟩=some (.int .i64 (P:Int))) (by kernel_rfl) (⟨a0,a1⟩) (fun zy=>?_)
 refine Tk 0 rfl zy ?_
 refine Tk 1 rfl zy ?_
 refine Tk 2 rfl zy ?_
 refine Tk 3 rfl zy ?_
 refine Tk 4 rfl zy ?_
 refine Tk 5 rfl zy ?_
 refine Tk 6 rfl zy ?_
 refine Tk 7 rfl zy ?_
 refine Tk 8 rfl zy ?_
 refine Tk 9 rfl zy ?_
 refine Tk 10 rfl zy ?_
 refine Tk 11 rfl zy ?_
 refine Tk 12 rfl zy ?_
 refine Tk 13 rfl zy ?_
 refine Tk 14 rfl zy ?_
 refine Tk 15 rfl zy ?_
 refine To 16 rfl fun K hK=>?_
 go_simp
 refine CL.out.mono ?_
 rintro e w5 ⟨r5,rfl,xX⟩
 obtain⟨RA,rc,rfl,_⟩:=xX.own.form;have wT:=pT.below_ xX.2
 refine Ko hK ?_ fun zy=>?_
 ·exact jcg
 clear hK K
 refine To 17 rfl fun K hK=>?_
 go_simp
 refine Kz hK ?_
 clear hK K
 refine Wd ?_
 clear zy CL a0 a1;have xG:=mC.below xX.2;obtain⟨H6,y8,oS,_⟩:=Fresh.snapB pT.psr.holds xX;have xl:=pT.grown y8;have uS:=y8.none wg mC.lt;clear wT xX pT mC;have a1:=jgI;go_wp2_with (with_reducible refine zx ?_)
 refine zw rfl _ _ _ rfl rfl g 1 (.int .i64 ((P:Int)+(n:Int))) rfl rfl _ _ xl.psr.blk zF (by simp) rfl fun w7 nW vm=>?_
 have vT:=jg9;exact ja5
theorem Q9 (hTab:Tabs H) (hlv:lv+d=8) (hP:Psr 167 w g H A c l p cnt) (hc:cnt<256) {f n k:Nat}(hh:zH (l.drop p)=.ok (f,n,k)) (hk:f/32=3):Calls Tryz.prog 134 #[.pointer (some ⟨g,0,none⟩),.int .i64 (lv:Int)] w (ItemOut 167 w H g A c l p (ze d (l.drop p) cnt)):=by
 obtain⟨yo,xY,xO,wg⟩:=jff;have c2:=jfH
 have E0:Hid (ze d (l.drop p) cnt=(if(l.drop p).length<k+n then .err 2 else if 3=3∧Lib.validD (((l.drop p).drop k).take n)=false then .err 5 else .ok (.mk 3 0 (((l.drop p).drop k).take n) []) (k+n) (cnt+1))):=by
  exact jeN
 have S:(f:Int)/32=3:=by omega
 have x9:((cnt:Int)==256)=false:=by simp;omega
 obtain⟨xV,KC,HC⟩:=jfh;clear hc;go_enter Tryz.func134,Tryz.ntmps134
 go_wp2_with (with_reducible refine zx ?_)
 refine zw rfl _ _ _ rfl rfl g 2 (.int .i64 ((cnt:Int)+1)) rfl rfl _ _ xY.psr.blk zF (by simp) rfl fun w2 wm xq=>?_
 obtain⟨wC,tX,PH⟩:=jfi;clear xY xO wm xq c2 KC x9 xV;go_wp2_with fail
 refine PH.out.mono ?_
 intro e w3 hs
 rw[HeadSaid,hh]at hs;obtain⟨rfl,ug,yA⟩:=hs;have HS:=ws hh;have se:p+k≤l.length:=by have:=HS.le;rw[List.length_drop]at this;have:=hP.le;omega
 obtain⟨wI,yE,HF⟩:=jfm;clear wC tX ug yA PH HS hh;have cH:=HF.out.pos;obtain⟨b,off,rfl,vY⟩:=wI.psr.bytes.at_ (by omega);have nZ:=wI.psr.small;have uw:=wI.psr.bytes.le;have mv:=wI.psr.bytes.max;obtain⟨rj,So⟩:=jgF;obtain⟨P,cQ⟩:∃ P,p+k=P:=⟨_,rfl⟩
 obtain⟨s,iN⟩:∃ s,((l.drop p).drop k).take n=s:=⟨_,rfl⟩
 rw[iN]at E0;rw[List.drop_drop,cQ]at iN;rw[cQ]at wI se;have K1:=jfK;have K2:IntKind.u64.wrap ((l.length:Int)-(P:Int))=(l.length:Int)-(P:Int):=by rw[IntKind.wrap_u64];omega
 obtain⟨a0,a1⟩:=jgG;have Di:(P:Int)≤(l.length:Int):=by omega
 have kW:(l.length:Int)≤4096:=by omega
 by_cases z9:l.length<P+n
 ·exact jdR
 have z0:¬ ((l.length:Int)-(P:Int)<(n:Int)):=by omega
 have z0b:=jf7;have E1:Hid (ze d (l.drop p) cnt=(if 3=3∧Lib.validD s=false then .err 5 else .ok (.mk 3 0 s []) (k+n) (cnt+1))):=by rw[Hid,E0.out,if_neg (by omega)];try simp
 have qT:n=s.length:=by rw[← iN,List.length_take,List.length_drop];omega
 have oJ:=Hh qT;clear qT;obtain⟨KN,KP⟩:=jfz;have kt:((P:Int)+(n:Int)).toNat=P+n:=by omega
 have y0:(0:Int)≤(P:Int)+(n:Int):=by omega
 have y5:P≤P+n:=by omega
 have y6:P+n-P=n:=by omega
 have y1:(P:Int)≤(P:Int)+(n:Int):=by omega
 have y2:(P:Int)+(n:Int)≤(c:Int):=by omega
 have y3:(P:Int)≤(c:Int):=by omega
 have y4:(0:Int)≤(P:Int):=by omega
 have HK:=jgB;go_wp2_with fail
 go_big_quiet (fail)
 obtain⟨pS,pO⟩:=jfx
 generalize w3.drewN nq=w4 at pS pO⊢
 obtain⟨wE,wo⟩:=And.intro pS pO;clear pS pO wI yE a0 a1 E0 z0 z0b;have px:∀ j (hj:j<l.length),w4.cell? ⟨b,off+j,none⟩=some (zu l[j]):=fun j hj=>wE.psr.holds.cell (vY j hj)
 by_cases YZ:c=P
 ·have Y0:P=c:=YZ.symm;subst Y0;clear YZ;obtain⟨pT,mC,CL,a0,a1⟩:=jfE;clear wE wo;go_upto_region 16 with fail
  refine zr 17 (fun w'=>w'.cell? ⟨g,0,none⟩=some (.slice (some ⟨b,off,none⟩) l.length P)∧w'.cell? ⟨g,1,none⟩=some (.int .i64 (P:Int))) (by kernel_rfl) (⟨a0,a1⟩) (fun zy=>?_)
  refine Tk 0 rfl zy ?_
  refine Tk 1 rfl zy ?_
  refine Tk 2 rfl zy ?_
  refine Tk 3 rfl zy ?_
  refine Tk 4 rfl zy ?_
  refine Tk 5 rfl zy ?_
  refine Tk 6 rfl zy ?_
  refine Tk 7 rfl zy ?_
  refine Tk 8 rfl zy ?_
  refine Tk 9 rfl zy ?_
  refine Tk 10 rfl zy ?_
  refine Tk 11 rfl zy ?_
  refine Tk 12 rfl zy ?_
  refine Tk 13 rfl zy ?_
  refine Tk 14 rfl zy ?_
  refine Tk 15 rfl zy ?_
  refine To 16 rfl fun K hK=>?_
  go_simp
  refine CL.out.mono ?_
  rintro e w5 ⟨r5,rfl,xX⟩
  obtain⟨RA,rc,rfl,_⟩:=xX.own.form;have wT:=pT.below_ xX.2
  refine Ko hK ?_ fun zy=>?_
  ·exact jcg
  clear hK K
  refine To 17 rfl fun K hK=>?_
  go_simp
  refine Kz hK ?_
  clear hK K
  refine Wd ?_
  clear zy CL a0 a1;have xG:=mC.below xX.2;obtain⟨H6,y8,oS,_⟩:=Fresh.snapB pT.psr.holds xX;have xl:=pT.grown y8;have uS:=y8.none wg mC.lt;clear wT xX pT mC;have a1:=jgI;go_wp2_with (with_reducible refine zx ?_)
  refine zw rfl _ _ _ rfl rfl g 1 (.int .i64 ((P:Int)+(n:Int))) rfl rfl _ _ xl.psr.blk zF (by simp) rfl fun w7 nW vm=>?_
  have vT:=jg8;exact jdM
 obtain⟨LK,pT,mC,CL,a0,a1⟩:=jfC;clear wE wo;go_upto_region 16 with fail
 refine zr 17 (fun w'=>w'.cell? ⟨g,0,none⟩=some (.slice (some ⟨b,off,none⟩) l.length c)∧w'.cell? ⟨g,1,none⟩=some (.int .i64 (P:Int))) (by kernel_rfl) (⟨a0,a1⟩) (fun zy=>?_)
 refine Tk 0 rfl zy ?_
 refine Tk 1 rfl zy ?_
 refine Tk 2 rfl zy ?_
 refine Tk 3 rfl zy ?_
 refine Tk 4 rfl zy ?_
 refine Tk 5 rfl zy ?_
 refine Tk 6 rfl zy ?_
 refine Tk 7 rfl zy ?_
 refine Tk 8 rfl zy ?_
 refine Tk 9 rfl zy ?_
 refine Tk 10 rfl zy ?_
 refine Tk 11 rfl zy ?_
 refine Tk 12 rfl zy ?_
 refine Tk 13 rfl zy ?_
 refine Tk 14 rfl zy ?_
 refine Tk 15 rfl zy ?_
 refine To 16 rfl fun K hK=>?_
 go_simp
 refine CL.out.mono ?_
 rintro e w5 ⟨r5,rfl,xX⟩
 obtain⟨RA,rc,rfl,_⟩:=xX.own.form;have wT:=pT.below_ xX.2
 refine Ko hK ?_ fun zy=>?_
 ·exact jcg
 clear hK K
 refine To 17 rfl fun K hK=>?_
 go_simp
 refine Kz hK ?_
 clear hK K
 refine Wd ?_
 clear zy CL a0 a1;have xG:=mC.below xX.2;obtain⟨H6,y8,oS,_⟩:=Fresh.snapB pT.psr.holds xX;have xl:=pT.grown y8;have uS:=y8.none wg mC.lt;clear wT xX pT mC;have a1:=jgI;go_wp2_with (with_reducible refine zx ?_)
 refine zw rfl _ _ _ rfl rfl g 1 (.int .i64 ((P:Int)+(n:Int))) rfl rfl _ _ xl.psr.blk zF (by simp) rfl fun w7 nW vm=>?_
 have vT:=jg9;exact jdM
end
theorem eR {w wr:World}{H Hr:Snap}(_h:Grows w H wr Hr) {l:List Itm}{cs:List Value}(hc:ItemsC Hr cs l) (hm:l.length≤4096) :
  OwnI (wr.alloc (.cells cs.toArray 77)) wr.heap.size (.slice (some ⟨wr.heap.size,0,none⟩) l.length l.length) Hr l:=OwnI.lit hc _ (Nat.le_refl _) hm
theorem dP {w wr:World}{H Hr:Snap}(h:Grows w H wr Hr) {l:List Itm}{cs:List Value}(hc:ItemsC Hr cs l) (hm:l.length≤4096) :
  ∃ H',Grows w H (wr.alloc (.cells cs.toArray 77)) H'∧Hr.le H'∧IsRowI H' (some ⟨wr.heap.size,0,none⟩) l.length l:=by
 have hO:=eR h hc hm;have hG:=h.alloc (.cells cs.toArray 77);obtain⟨H',hl,hh,hf,hz,h1,h2,h3⟩:=hO.snap hG.holds (fun q hq=>by cases hq;exact h.holds.none_of_ge (Nat.le_refl _))
 refine⟨H',⟨hG.below,hG.le.trans hl,hh,fun b o hb=>?_⟩,hl,⟨h1,h2,h3⟩⟩
 rcases hf b o hb with h4 | h4
 ·exact hG.fresh b o h4
 simp at h4;exact .inr (by have:=h.size;omega)
theorem Vj {p:List UInt8→Nat→PR}(hp:∀ b c q,p b c=.err q→q≠0):∀ (n:Nat) (b:List UInt8) (c:Nat) (last:Option (List UInt8)) (q:Nat),wQ p n b c last=.err q→q≠0
 | 0,b,c,last,q,h=>by rw[wQ]at h;cases h
 | n+1,b,c,last,q,h=>by
  rw[wQ]at h
  split at h
  ·rename_i h1
   injection h with h
   subst h
   exact hp _ _ _ h1
  split at h
  ·rename_i h2
   injection h with h
   subst h
   unfold sJ at h2
   repeat' split at h2
   all_goals first | (injection h2 with h2;omega) | cases h2
  split at h
  ·rename_i h3
   injection h with h
   subst h
   exact hp _ _ _ h3
  split at h
  ·rename_i h4
   injection h with h
   subst h
   exact Vj hp n _ _ _ _ h4
  cases h
theorem VZ {p:List UInt8→Nat→PR}(hp:∀ b c q,p b c=.err q→q≠0):∀ (n:Nat) (b:List UInt8) (c:Nat) (q:Nat),vq p n b c=.err q→q≠0
 | 0,b,c,q,h=>by rw[vq]at h;cases h
 | n+1,b,c,q,h=>by
  rw[vq]at h
  split at h
  ·rename_i h1
   injection h with h
   subst h
   exact hp _ _ _ h1
  split at h
  ·rename_i h4
   injection h with h
   subst h
   exact VZ hp n _ _ _ h4
  cases h
theorem zN:∀ (d:Nat) (b:List UInt8) (c q:Nat),ze d b c=.err q→q≠0:=by
 intro d
 induction d with
 | zero =>
  intro b c q h
  rw[ze.eq_def]at h
  simp only at h
  repeat' split at h
  all_goals first
   | (injection h with h;omega)
   | cases h
   | skip
  ·rename_i h1;have:=nH h1;omega
  rename_i h1;have:=fz h1;omega
 | succ d ih =>
 intro b c q h
 rw[ze.eq_def]at h
 simp only at h
 repeat' split at h
 all_goals first
  | (injection h with h;omega)
  | cases h
  | skip
 ·rename_i h1;have:=nH h1;omega
 ·rename_i h1;have:=fz h1;omega
 ·rename_i h1;exact ih _ _ _ h1
 ·rename_i h1;exact Vj ih _ _ _ _ _ h1
 rename_i h1;exact VZ ih _ _ _ _ h1
section
variable {d:Nat} {w:World} {H:Snap} {g:Nat} {A:Option Addr} {c:Nat} {l:List UInt8} {p cnt lv:Nat}
theorem QD (ih:aF d) (hTab:Tabs H) (hlv:lv+(d+1)=8) (hP:Psr 167 w g H A c l p cnt) (hc:cnt<256) {f n k:Nat}(hh:zH (l.drop p)=.ok (f,n,k)) (hk:f/32=6):Calls Tryz.prog 134 #[.pointer (some ⟨g,0,none⟩),.int .i64 (lv:Int)] w (ItemOut 167 w H g A c l p (ze (d+1) (l.drop p) cnt)):=by
 obtain⟨yo,xY,xO,wg⟩:=jff;have c2:=jfH;have E0:=Hh (da d (l.drop p) cnt (by omega) hh hk);have S:(f:Int)/32=6:=by omega
 have OH:¬ ((8:Int)≤(lv:Int)):=by omega
 have KL:=jgL;have Uu:(lv:Int)≤8:=by omega
 have x9:((cnt:Int)==256)=false:=by simp;omega
 obtain⟨xV,KC,HC⟩:=jfh;clear hc;go_enter Tryz.func134,Tryz.ntmps134
 go_wp2_with (with_reducible refine zx ?_)
 refine zw rfl _ _ _ rfl rfl g 2 (.int .i64 ((cnt:Int)+1)) rfl rfl _ _ xY.psr.blk zF (by simp) rfl fun w2 wm xq=>?_
 obtain⟨wC,tX,PH⟩:=jfi;clear xY xO wm xq c2 KC x9 xV;go_wp2_with fail
 refine PH.out.mono ?_
 intro e w3 hs
 rw[HeadSaid,hh]at hs;obtain⟨rfl,ug,yA⟩:=hs;have HS:=ws hh;have se:p+k≤l.length:=by have:=HS.le;rw[List.length_drop]at this;have:=hP.le;omega
 obtain⟨wI,yE,HF⟩:=jfm;clear wC tX ug yA PH HS hh;have IT:=ih w3 H g A c l (p+k) (cnt+1) (lv+1) hTab (by omega) wI.psr;rw[show((lv+1:Nat):Int)=(lv:Int)+1 by omega]at IT;have ITH:=Hh IT;rw[List.drop_drop]at E0;clear IT;go_wp2_with fail
 refine ITH.out.mono ?_
 intro e w4 hs
 cases hp:ze d (l.drop (p+k)) (cnt+1) with
 | err q =>
  rw[hp,ItemOut]at hs;obtain⟨rfl,H4,p4,cnt4,pR⟩:=hs;have sz:((q:Int) != 0)=true:=by rw[bne_iff_ne];have:=zN _ _ _ _ hp;omega
  have oD:=jfy;have E:Hid (ze (d+1) (l.drop p) cnt=.err q):=by rw[Hid,E0.out,hp]
  obtain⟨wE,wo,ik⟩:=jgW;have hX:=Blk.new w4 77 #[.int .i64 0,.int .u64 0,.slice none 0 0,.slice none 0 0];have wT:=wE.alloc zf;have xG:=wo.alloc zf;have LL:=Hh wE.psr.holds;have RS:=Hh wo.lt;clear pR wI yE ITH hp E0 wE wo;have LQ:w.heap.size≤w4.heap.size:=Nat.le_of_lt RS.out;have Oc:=(Holds.none_of_ge (w:=w4) (H:=H4) (LL.out) (Nat.le_refl _))
  go_wp2_with (with_reducible refine zx ?_)
  refine stI hX fun w6 sy vt=>?_
  have xl:=wT.gb Oc LQ yo vt;have vU:=xG.grown vt (by intro e;injection e with e;have:=RS.out;omega);clear wT xG hX vt sy;go_wp2_with (with_reducible refine zx ?_)
  refine stI vU fun wz hTy hgz=>?_
  have xr:=xl.gb ik (Nat.le_refl _) yo hgz;exact jai
 | ok x k' c' =>
 rw[hp,ItemOut]at hs;obtain⟨ja,jb,jc,jd,H4,rfl,pR,SJ⟩:=hs;have E:Hid (ze (d+1) (l.drop p) cnt=.ok (.mk 6 n [] [x]) (k+k') c'):=by rw[Hid,E0.out,hp]
 obtain⟨wE,wo,ik⟩:=jgW;have hX:=Blk.new w4 77 #[.int .i64 0,.int .u64 0,.slice none 0 0,.slice none 0 0];have wT:=wE.alloc zf;have xG:=wo.alloc zf;have LL:=Hh wE.psr.holds;have RS:=Hh wo.lt;clear pR wI yE ITH hp E0 wE wo;have LQ:w.heap.size≤w4.heap.size:=Nat.le_of_lt RS.out;have Oc:=(Holds.none_of_ge (w:=w4) (H:=H4) (LL.out) (Nat.le_refl _))
 go_wp2_with (with_reducible refine zx ?_)
 refine stI hX fun w6 sy vt=>?_
 have xl:=wT.gb Oc LQ yo vt;have vU:=xG.grown vt (by intro e;injection e with e;have:=RS.out;omega);have b0:=sy.cell 0 rfl;have b1:=sy.cell 1 rfl;have b2:=sy.cell 2 rfl;have b3:=sy.cell 3 rfl;obtain⟨H7,vm,JY,hr7⟩:=dP (Grows.refl xl.psr.holds) (ItemsC.one SJ) (by simp);have vT:=xl.grown vm;have wU:=vU.alloc (.cells (yu x ja jb jc jd).toArray 77);have kY:=vm.none ik vU.lt;have rj:=Hh HF.out.n_lt;clear wT xG hX vt sy xl vU vm;go_wp2_with (with_reducible refine zx ?_)
 refine stI wU fun wz hTy hgz=>?_
 have xr:=vT.gb kY (Nat.le_refl _) yo hgz;go_wp2_with fail
 refine zo rfl rfl hTy rfl rfl zj rfl ?_
 exact ItemOut.ok E.out rfl (by rw[← Nat.add_assoc];exact xr) (hr7.item 6 (by omega) n rj.out)
end
def vI (L:List Itm):Except Nat (List Int) :=
 match vj L with
 | none=>.error 4
 | some l=>if twice l then .error 7 else if 8<l.length then .error 8 else .ok l
theorem UW (x:Itm) (h:x.kind=0):xo x=vI [x]:=by
 rw[xo,if_pos h,vI,vj]
 by_cases hn:x.n≤65535
 ·have:mp x 65535=some (x.n:Int):=by rw[mp,if_pos ⟨h,hn⟩]
  rw[if_pos hn,this];simp only
  rw[if_neg (by omega),vj];simp[twice]
 have:mp x 65535=none:=by rw[mp,if_neg (fun h=>hn h.2),if_neg (fun h'=>by omega)]
 rw[if_neg hn,this]
theorem UX (x:Itm) (h:x.kind=4) (h2:2≤x.items.length):xo x=vI x.items:=by
 rw[xo,if_neg (by omega),if_neg (by omega),vI]
 cases vj x.items <;> rfl
theorem g7 (x:Itm) (h0:x.kind≠0) (h:x.kind≠4∨x.items.length<2):xo x=.error 4:=by
 rw[xo,if_neg h0,if_pos h]
theorem fT {L:List Itm}{k:Nat}{a:List Int}(hk:k<L.length) (ha:vj (L.take k)=some a) (h:mp L[k] 65535=none∨∃ v,mp L[k] 65535=some v∧v<0):vj L=none:=by
 have e:L=L.take k++(L[k]::L.drop (k+1)):=by rw[← List.drop_eq_getElem_cons hk,List.take_append_drop]
 rw[e,kA,ha]
 simp only
 rw[vj]
 rcases h with h | ⟨v,h,hv⟩
 ·rw[h]
 rw[h];simp only;rw[if_pos hv]
theorem eV {L:List Itm}{k:Nat}{a:List Int}{v:Int}(hk:k<L.length) (ha:vj (L.take k)=some a) (h:mp L[k] 65535=some v) (hv:¬ v<0):vj (L.take (k+1))=some (a++[v]):=by
 rw[List.take_succ_eq_append_getElem hk,kA,ha]
 simp only
 rw[vj,h]
 simp only
 rw[if_neg hv,vj]
def tw (b:List UInt8):Except Nat (List UInt8×Nat) :=
 match yz b with
 | .err e=>.error e
 | .ok x k _=>if x.kind≠2∨x.bytes.length<1∨64<x.bytes.length then .error 4 else .ok (x.bytes,k)
def d4 (m:Int) (su:List Int) (gx cn:List UInt8) (b:List UInt8):Except Nat First :=
 match tx b with
 | .error e=>.error e
 | .ok ext=>.ok ⟨m,su,gx,cn,ext⟩
def d3 (m:Int) (su:List Int) (gx:List UInt8) (b:List UInt8):Except Nat First :=
 match zC b with
 | .error e=>.error e
 | .ok (c,k4)=>d4 m su gx c (b.drop k4)
def d2 (m:Int) (su:List Int) (b:List UInt8):Except Nat First :=
 match tw b with
 | .error e=>.error e
 | .ok (gx,k3)=>d3 m su gx (b.drop k3)
def d1 (m:Int) (b:List UInt8):Except Nat First :=
 match yz b with
 | .err e=>.error e
 | .ok y k2 _=>match xo y with
  | .error e=>.error e
  | .ok l=>d2 m l (b.drop k2)
theorem eO {b:List UInt8}(h:600<b.length):yS b=.error 8:=by rw[yS,if_pos h]
theorem bC {b:List UInt8}(h:¬ 600<b.length) {q:Nat}(hp:yz b=.err q):yS b=.error q:=by rw[yS,if_neg h,hp]
theorem mP {b:List UInt8}(h:¬ 600<b.length) {x:Itm}{k c:Nat}(hp:yz b=.ok x k c) (hx:x.kind≠0∨3<x.n):yS b=.error 4:=by rw[yS,if_neg h,hp];simp only;rw[if_pos hx]
theorem Yh {b:List UInt8}(h:¬ 600<b.length) {x:Itm}{k c:Nat}(hp:yz b=.ok x k c) (hx:¬ (x.kind≠0∨3<x.n)):yS b=d1 (x.n:Int) (b.drop k):=by
 rw[yS,if_neg h,hp];simp only;rw[if_neg hx,d1]
 cases yz (b.drop k) with
 | err e=>rfl
 | ok y k2 c2 =>
 simp only
 cases xo y with
 | error e=>rfl
 | ok l =>
 simp only
 rw[d2,tw]
 cases yz ((b.drop k).drop k2) with
 | err e=>rfl
 | ok z k3 c3 =>
 simp only
 by_cases hz:z.kind≠2∨z.bytes.length<1∨64<z.bytes.length
 ·rw[if_pos hz,if_pos hz]
 rw[if_neg hz,if_neg hz]
 simp only
 rw[d3]
 cases zC (((b.drop k).drop k2).drop k3) with
 | error e=>rfl
 | ok r =>
 obtain⟨c,k4⟩:=r
 simp only
 rw[d4]
 cases tx ((((b.drop k).drop k2).drop k3).drop k4) <;> rfl
theorem bF {b c:List UInt8}{k:Nat}(h:zC b=.ok (c,k)):k≤b.length∧0<k∧c.length≤7:=by
 cases b with
 | nil=>simp[zC]at h
 | cons x t =>
 rw[zC]at h
 repeat' split at h
 all_goals (cases h)
 all_goals (simp only[List.length_cons,List.length_take,List.length_nil]at *;omega)
theorem qH {b:List UInt8}{q:Nat}(h:zC b=.error q):q≠0:=by
 cases b with
 | nil=>simp[zC]at h;omega
 | cons x t =>
 rw[zC]at h
 repeat' split at h
 all_goals (cases h)
 all_goals omega
theorem jy:∀ (n:Nat) (out:List Ext) (b:List UInt8) (q:Nat),xD n out b=.error q→q≠0
 | 0,out,b,q,h=>by rw[xD]at h;cases h
 | n+1,out,b,q,h=>by
  rw[xD]at h
  split at h
  ·cases h
  split at h
  ·rename_i e hp;injection h with h;subst h;exact zN _ _ _ _ hp
  split at h
  ·split at h
   ·exact jcJ
   exact jeY
  exact jeY
theorem Wr {b:List UInt8}{q:Nat}(h:tx b=.error q):q≠0:=jy _ _ _ _ h
theorem ZH {x:Itm}{q:Nat}(h:xo x=.error q):q≠0:=by
 rw[xo]at h
 repeat' split at h
 all_goals first
  | (injection h with h;omega)
  | cases h
theorem Wj {b:List UInt8}{q:Nat}(h:tw b=.error q):q≠0:=by
 rw[tw]at h
 repeat' split at h
 all_goals first
  | (rename_i hp;injection h with h;subst h;exact zN _ _ _ _ hp)
  | (injection h with h;omega)
  | cases h
def yF:List UInt8→List UInt8→List UInt8
 | s::t,b::r=>(b ^^^ s)::yF t r
 | [],r=>r
 | _::_,[]=>[]
theorem rO:∀ (s b:List UInt8),(yF s b).length=b.length
 | [],b=>by rw[yF]
 | _::_,[]=>by rw[yF]
 | s::t,b::r=>by rw[yF,List.length_cons,rO t r,List.length_cons]
theorem k9:∀ (s b:List UInt8) (i:Nat) (h:i<b.length),(yF s b)[i]'(by rw[rO];exact h)=if h2:i<s.length then b[i] ^^^ s[i] else b[i]
 | [],b,i,h=>by simp[yF]
 | _::_,[],i,h=>by simp at h
 | s::t,b::r,0,_=>by simp[yF]
 | s::t,b::r,i+1,h=>by
  have:=k9 t r i (by simpa using h)
  simp only[yF,List.getElem_cons_succ,List.length_cons]
  rw[this]
  by_cases h2:i<t.length
  ·rw[dif_pos h2,dif_pos (by omega)]
  rw[dif_neg h2,dif_neg (by omega)]
end Go.Proofs.YtkmlnjociijpgaaGreatDoor
