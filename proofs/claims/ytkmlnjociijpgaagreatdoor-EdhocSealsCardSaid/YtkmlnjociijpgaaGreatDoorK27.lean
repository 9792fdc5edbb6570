/- squeezed. Walks: the reference's reader: sim -/
import Derived.Test.YtkmlnjociijpgaaGreatDoorK26
set_option linter.unusedVariables false
set_option linter.unusedSimpArgs false
set_option maxRecDepth 100000
set_option maxHeartbeats 12800000
namespace Go.Proofs.YtkmlnjociijpgaaGreatDoor
open Go.RowKit
theorem jao{P:Prop}(h:P:=by
 go_wp2_with (at_builtin;refine zh ?_)
 refine xb rfl (.tmp 75) (.tmp 77) rfl (X+1) (.slice VA L.length vc) H6 _ rfl sv _ 1 _ (yu x ja jb jc jd) [x] rfl rfl (ItemsC.one Gm) (Src.new _ _ _ _ rfl _ rfl) (by have:=lW.out;simp;omega) sm.lt fun v' w10 wO yn hat10=>?_
 obtain⟨VA',vc',rfl,_⟩:=wO.form;have uB:=rt.grown yn (fun e=>by have:=(tu.out _ e).1;have:=yJ.out;omega);have oC:=sm.grown yn (fun e=>by have:=(tu.out _ e).1;omega);have rZ:=wJ tq.psr.holds WF hat10;have vM:=tq.grownRow WF (fun q hq=>by have:=(tu.out q hq).1;have:=yJ.out;omega) yo yn;obtain⟨L',oQ⟩:∃ L',L++[x]=L':=⟨_,rfl⟩
 rw[oQ]at wO rZ fL⊢;have fM:=Hh (show wF 5 (ze d) N true (l.drop p) cnt none=(wF 5 (ze d) m1 (decide ((i+1)%2=0)) (l.drop (p+(k0+k))) c1 (some key)).pre (L++[x]) (k0+k) by rw[vg.out,jL L k0 PG.out rfl (by have:=P7.out;simp;omega) aW.out,List.drop_drop,gw.out,← oA.out,Nat.add_assoc,show decide ((i+1)%2=0)=false by have:=P7.out;simp;omega]);rw[oQ]at fM;have lQ:L.length+1=L'.length:=by rw[← oQ];simp
 try rw[lQ]
 clear oQ tq rt sm sv yn hat10 b0 b1 b2 b3 lQ;have KI:IntKind.u64.wrap ((i:Int)+1)=(i:Int)+1:=by rw[IntKind.wrap_u64];have:=OW.out;omega
 rw[show P1+k=p+(k0+k) by have:=oA.out;omega]at vM;have qA:=Hh j7;clear j7;go_wp2_with fail
 go_roundw
 case rel=>exact⟨i+1,H6,VA',vc',_,L',k0+k,c1,some key,KA,_,_,by first | rfl | (simp;done) | go_num,rfl,rfl,.inr ⟨by omega,key,rfl,rfl,jj.out,oS⟩,by have:=qA.out;omega,rfl,vM,uB,OJ,oC,MQ,wO,rZ,fL.out,by rw[P9.out];exact fM.out⟩
 case measure=>have:=qA.out;simp[intOf];omega):P:=h
theorem jat{P:Prop}(h:P:=by
 clear xe xX lR cX ij jk mF qm xv tt us;go_wp2_with (with_reducible refine zx ?_)
 refine zw rfl _ _ _ rfl rfl X 3 (.slice VA L.length vc) rfl rfl _ _ pd sT (by simp) rfl fun w6 sy vt=>?_
 have vT:=xl.gb RV (Nat.le_of_lt yJ.out) yo vt;have wU:=rL.grown vt (by intro e;injection e with e;have:=yJ.out;omega);have b0:=sy.cell 0 rfl;have b1:=sy.cell 1 rfl;have b2:=sy.cell 2 rfl;have b3:=sy.cell 3 rfl;clear xl rL pd vt;go_wp2_with (with_reducible refine zx ?_)
 refine stI wU fun wz hTy hgz=>?_
 have xr:=vT.gb VR (Nat.le_refl _) yo hgz;exact jeH):P:=h
theorem ja0{P:Prop}(h:P:=by
 rw[oQ]at fM;have lQ:L.length+1=L'.length:=by rw[← oQ];simp
 try rw[lQ]
 clear oQ tq rt sm sv yn hat10 b0 b1 b2 b3 lQ;have KI:IntKind.u64.wrap ((i:Int)+1)=(i:Int)+1:=by rw[IntKind.wrap_u64];have:=OW.out;omega
 rw[show P1+k=p+(k0+k) by have:=oA.out;omega]at vM;have qA:=Hh j7;clear j7;go_wp2_with fail
 go_roundw
 case rel=>exact⟨i+1,H5,VA',vc',_,L',k0+k,c1,by first | rfl | (simp;done) | go_num,rfl,by have:=qA.out;omega,rfl,vM,uB,uS,oC,kM,wO,rZ,fL.out,by rw[P9.out];exact fM.out⟩
 case measure=>have:=qA.out;simp[intOf];omega):P:=h
theorem jcZ{P:Prop}(h:P:=by
 rw[Hid]
 by_cases h:fl=t
 ·exact .inl h
 exact .inr ⟨by simp;omega,eq_false (by omega),h⟩):P:=h
theorem jd3{P:Prop}(h:P:=by
 go_wp2_with (with_reducible refine zx ?_)
 refine stI yE fun wz hTy hgz=>?_
 have xr:=wI.gb wg (Nat.le_refl _) yo hgz;exact jai):P:=h
theorem jev{P:Prop}(h:P:=by
 go_wp2_with (with_reducible refine zx ?_)
 refine stI xG fun wz hTy hgz=>?_
 have xr:=wT.gb wg (Nat.le_refl _) yo hgz;exact jai):P:=h
theorem jeT{P:Prop}(h:P:=by have:=cM.out;exact jbo):P:=h
theorem je2{P:Prop}(h:P:=by have xl:=tt.trans yU;have vU:=rL.rdg yU (by omega);have uS:=yU.hid jk rL.lt;have hY:=Blk.new w5 77 #[.int .i64 0,.int .u64 0,.slice none 0 0,.slice none 0 0];have iI:H5 w5.heap.size=none:=xl.psr.holds.none_of_ge (Nat.le_refl _);have qp:=Hh vU.lt;have vT:=xl.alloc zf;have wU:=vU.alloc zf;clear ITH hp tt yU rL pd xe qm vg f9 xl vU;exact jdI):P:=h
theorem jfk{P:Prop}(h:P:=by have KC:IntKind.i64.wrap ((cnt:Int)+1)=(cnt:Int)+1:=IntWalk.i64_in _ (by omega);have HC:=Hh hc;exact And.intro KC HC):P:=h
theorem jfw{P:Prop}(h:P:=by have VR:H5 w.heap.size=none:=tM xX jk (fun e=>by have:=xv _ e;have:=yJ.out;omega);have RV:H5 X=none:=tM xX mF (fun e=>by have:=xv _ e;omega);have xl:Rdg 142 w H wr H5 g A c l (p+k0) cc:=tt.snap (B:=X+1) ij cX xX xv (by have:=yJ.out;omega) yo;exact And.intro VR (And.intro RV xl)):P:=h
theorem jfM{P:Prop}(h:P:=by have wC:Rdg 142 w H w2 H g _ c l p (cnt+1):=xY.step xq wm hP.le (by have:=HC.out;omega);have tX:=xO.gr xq (by omega);exact And.intro wC tX):P:=h
theorem jfO{P:Prop}(h:P:=by have wT:Rdg 142 w H w5 H g (some ⟨b,off,none⟩) c l (p+1) (cnt+1):=wE.step xx ts sZ.out.2.2 (by have:=HC.out;omega);have xG:=wo.gr xx (by omega);exact And.intro wT xG):P:=h
theorem jfQ{P:Prop}(h:P:=by have px:=Hh vY;have sZ:=Hh (And.intro xv (And.intro ru rk));have Ho:=Hh (show H.cell? ⟨b,off+p,none⟩=some (zu ch) by have h:=vY p rk;rw[eG]at h;exact h);exact And.intro px (And.intro sZ Ho)):P:=h
theorem jf8{P:Prop}(h:P:=by have gz:Blk (w2.drewN nq) w.heap.size 77 #[.int .i64 0,.int .u64 0,.slice none 0 0,.slice none 0 0]:=tX;exact gz):P:=h
theorem jgk{P:Prop}(h:P:=by have xV:decide ((256:Int)≤(cnt:Int))=false:=decide_eq_false x9;exact xV):P:=h
theorem jgO{P:Prop}(h:P:=by have KLV:IntKind.i64.wrap ((lv:Int)+1)=(lv:Int)+1:=IntWalk.i64_in _ (by omega);exact KLV):P:=h
theorem jgQ{P:Prop}(h:P:=by have pe:=wC.psr.le;have a0:=wC.psr.blk.cell 0 rfl;have a1:=wC.psr.blk.cell 1 rfl;exact And.intro pe (And.intro a0 a1)):P:=h
theorem jgR{P:Prop}(h:P:=by have IT:=ih wr Hr g A c l P1 cc (lv+1) (hTab.mono tt.grows.le) hlv tt.psr;exact IT):P:=h
theorem jgS{P:Prop}(h:P:=by have z0':decide (((l.length:Nat):Int)≤(p:Int))=false:=decide_eq_false z0;exact z0'):P:=h
theorem jgU{P:Prop}(h:P:=by have lW:=Hh (show L.length≤256 by have:=cM.out;have:=f9.out;omega);exact lW):P:=h
theorem Ub {v:Nat}(hv:v<65536):wt v<18446744073709551616:=by
 by_cases hn:v/1024%32=31∧v%1024≠0
 ·rw[wt,if_pos hn.1];omega
 exact(oz hv hn).2
theorem Uc {v:Nat}(hv:v<4294967296):wD v<18446744073709551616:=by
 by_cases hn:v/8388608%256=255∧v%8388608≠0
 ·rw[wD,if_pos hn.1];omega
 exact(p9 hv hn).2
def uG (low:Nat) (b:List UInt8) (c:Nat):PR :=
 if low<24 then(match yT low low with | .error e=>.err e | .ok x=>.ok x 0 c)
 else if b.length<2 ^ (low-24) then .err 2
 else match yT low (beN (b.take (2 ^ (low-24)))) with | .error e=>.err e | .ok x=>.ok x (2 ^ (low-24)) c
theorem aA:(Tryz.prog.info? 74).map (·.size)=some 1:=by kernel_rfl
section
variable {w:World} {H:Snap} {g:Nat} {A:Option Addr} {c:Nat} {l:List UInt8} {p cnt:Nat}
theorem eX (hP:Psr 142 w g H A c l p cnt) (low:Nat) (qo:low<24):Calls Tryz.prog 150 #[.pointer (some ⟨g,0,none⟩),.int .i64 (low:Int)] w (ItemOut 142 w H g A c l p (uG low (l.drop p) cnt)):=by
 obtain⟨yo,xY,xO,wg⟩:=jff;have E:Hid (uG low (l.drop p) cnt=.ok (.mk 7 low [] []) 0 cnt):=by rw[Hid,uG,if_pos qo,yT,if_pos qo]
 have z24:(low:Int)<24:=by omega
 have KU:IntKind.u64.wrap (low:Int)=(low:Int):=by rw[IntKind.wrap_u64];omega
 have HL:=Hh qo;clear qo;go_enter Tryz.func150,Tryz.ntmps150
 go_wp2_with (with_reducible refine zx ?_)
 refine stI xO fun wz hTy hgz=>?_
 have xr:=xY.gb wg (Nat.le_refl _) yo hgz;go_wp2_with fail
 refine zo rfl rfl hTy rfl rfl zj rfl ?_
 exact ItemOut.ok (ja:=none) (jb:=0) (jc:=none) (jd:=0) E.out rfl xr (IsItem.plain _ 7 low (by omega) (by have:=HL.out;omega))
theorem bG (hP:Psr 142 w g H A c l p cnt):Calls Tryz.prog 150 #[.pointer (some ⟨g,0,none⟩),.int .i64 24] w (ItemOut 142 w H g A c l p (uG 24 (l.drop p) cnt)):=by
 obtain⟨yo,xY,xO,wg⟩:=jff;have E0:Hid (uG 24 (l.drop p) cnt=if(l.drop p).length<1 then .err 2 else match yT 24 (beN ((l.drop p).take 1)) with | .error e=>.err e | .ok x=>.ok x 1 cnt):=by rw[Hid,uG,if_neg (by omega)]
 have NM:=Hh (gP xY.psr 1 (by omega) (by omega));have HC:=Hh hP.cnt_le;go_enter Tryz.func150,Tryz.ntmps150
 go_wp2_with fail
 refine NM.out.mono ?_
 rintro e w3 (⟨hs,rfl,ug,yA⟩ | ⟨hs,rfl,ug,yA⟩)
 ·have E:Hid (uG 24 (l.drop p) cnt=.err 2):=by rw[Hid,E0.out,if_pos (by rw[List.length_drop];have:=hP.le;omega)]
  have wI:Rdg 142 w H w3 H g A c l p cnt:=xY.step yA ug hP.le HC.out;have yE:=xO.gr yA (by omega);clear NM hs xY xO ug yA;exact jd3
 have wI:Rdg 142 w H w3 H g A c l (p+1) cnt:=xY.step yA ug hs HC.out;have yE:=xO.gr yA (by omega);have E1:Hid (uG 24 (l.drop p) cnt=match yT 24 (beN ((l.drop p).take 1)) with | .error e=>.err e | .ok x=>.ok x 1 cnt):=by rw[Hid,E0.out,if_neg (by rw[List.length_drop];omega)]
 have ql:=rn ((l.drop p).take 1);have rj:((l.drop p).take 1).length=1:=by rw[List.length_take,List.length_drop];omega
 rw[rj]at ql
 simp only[Nat.reducePow]at ql
 have RC:=fun x h=>(qw (low:=24) (x:=x) (t:=(l.drop p).take 1) (by omega) (fun h=>by omega) (fun _=>⟨by rw[rj],rfl⟩) h).2.2.1
 obtain⟨n,hn⟩:∃ n,beN ((l.drop p).take 1)=n:=⟨_,rfl⟩
 rw[hn]at E1 ql RC⊢;have HN:=Hh ql;have DJ:=Hh RC;clear NM hs xY xO ug yA E0 hn rj ql RC;obtain⟨wY,wE,wo,yJ,mu⟩:=jfI;clear wI yE;go_wp2_with (with_reducible refine zx ?_)
 refine stI wY fun w4 uq hg4=>?_
 obtain⟨wT,xG⟩:=jgg;clear wE wo wY hg4;obtain⟨X,qS⟩:∃ X,w3.heap.size=X:=⟨_,rfl⟩
 rw[qS]at uq mu yJ⊢;clear qS
 by_cases h32:n<32
 ·have z32:(n:Int)<32:=by omega
  have E:Hid (uG 24 (l.drop p) cnt=.err 4):=by rw[Hid,E1.out,yT,if_neg (by omega),if_pos rfl,if_pos h32]
  clear h32;exact jev
 have z32:¬ ((n:Int)<32):=by omega
 have E:Hid (uG 24 (l.drop p) cnt=.ok (.mk 7 n [] []) 1 cnt):=by rw[Hid,E1.out,yT,if_neg (by omega),if_pos rfl,if_neg h32]
 clear h32;go_wp2_with (with_reducible refine zx ?_)
 refine stI xG fun wz hTy hgz=>?_
 have xr:=wT.gb wg (Nat.le_refl _) yo hgz;go_wp2_with fail
 refine zo rfl rfl hTy rfl rfl zj rfl ?_
 exact ItemOut.ok (ja:=none) (jb:=0) (jc:=none) (jd:=0) E.out rfl xr (IsItem.plain _ 7 n (by omega) (by have:=HN.out;omega))
theorem fU (hP:Psr 142 w g H A c l p cnt) (low:Nat) (h25:25≤low) (iW:low≤27):Calls Tryz.prog 150 #[.pointer (some ⟨g,0,none⟩),.int .i64 (low:Int)] w (ItemOut 142 w H g A c l p (uG low (l.drop p) cnt)):=by
 obtain⟨yo,xY,xO,wg⟩:=jff
 obtain⟨s,t,u,k1,k2,B,HW⟩:∃ (s t:Nat) (u k1 k2:Int) (B:Nat),(low=25∧s=2∧t=3∧u=3∧k1=5∧k2=10∧B=65536)∨(low=26∧s=4∧t=5∧u=5∧k1=8∧k2=23∧B=4294967296)∨(low=27∧s=8∧t=9∧u=9∧k1=0∧k2=0∧B=18446744073709551616):=by
  rcases(by omega:low=25∨low=26∨low=27) with rfl | rfl | rfl
  ·exact⟨2,3,3,5,10,_,.inl ⟨rfl,rfl,rfl,rfl,rfl,rfl,rfl⟩⟩
  ·exact⟨4,5,5,8,23,_,.inr (.inl ⟨rfl,rfl,rfl,rfl,rfl,rfl,rfl⟩)⟩
  exact⟨8,9,9,0,0,_,.inr (.inr ⟨rfl,rfl,rfl,rfl,rfl,rfl,rfl⟩)⟩
 have oX:2 ^ (low-24)=s:=by rcases HW with ⟨rfl,rfl,_⟩ | ⟨rfl,rfl,_⟩ | ⟨rfl,rfl,_⟩ <;> simp only[Nat.reduceSub,Nat.reducePow]
 have BJ:256 ^ s=B:=by rcases HW with ⟨_,rfl,_,_,_,_,rfl⟩ | ⟨_,rfl,_,_,_,_,rfl⟩ | ⟨_,rfl,_,_,_,_,rfl⟩ <;> simp only[Nat.reducePow]
 obtain⟨n,hn⟩:∃ n,beN ((l.drop p).take s)=n:=⟨_,rfl⟩
 have E0:uG low (l.drop p) cnt=if(l.drop p).length<s then .err 2 else match yT low n with | .error e=>.err e | .ok x=>.ok x s cnt:=by rw[uG,if_neg (by omega),oX,hn]
 have EF:Hid (l.length<p+s→uG low (l.drop p) cnt=.err 2):=fun h=>by rw[E0,if_pos (by rw[List.length_drop];have:=hP.le;omega)]
 have NB:Hid (p+s≤l.length→n<B):=fun h=>by
  have ql:=rn ((l.drop p).take s);rw[hn,show((l.drop p).take s).length=s by rw[List.length_take,List.length_drop];omega,BJ]at ql
  exact ql
 obtain⟨D,hD⟩:∃ D,uf low n=D:=⟨_,rfl⟩
 obtain⟨fl,fO⟩:∃ fl,(yw D).length=fl:=⟨_,rfl⟩
 obtain⟨nn,uE⟩:∃ nn,isNaN D=nn:=⟨_,rfl⟩
 obtain⟨bb,pf⟩:∃ bb,(D != yK)=bb:=⟨_,rfl⟩
 have E2:yT low n=if(nn&&bb)||fl != t then .error 4 else .ok (.mk 8 D [] []):=by
  rw[l9 low n h25,hD,uE,pf,fO,oX,show 1+s=t by omega]
 have EE:Hid (p+s≤l.length→((nn&&bb)=true∨fl≠t)→uG low (l.drop p) cnt=.err 4):=fun h h1=>by
  rw[E0,if_neg (by rw[List.length_drop];omega),E2,if_pos (by simpa using h1)]
 have EO:Hid (p+s≤l.length→(nn&&bb)=false→fl=t→uG low (l.drop p) cnt=.ok (.mk 8 D [] []) s cnt):=fun h h1 h2=>by
  rw[E0,if_neg (by rw[List.length_drop];omega),E2,if_neg (by rw[h1,h2];simp)]
 have DL:Hid (n<B→D<18446744073709551616):=fun h=>by
  rw[← hD,uf]
  rcases HW with ⟨rfl,_,_,_,_,_,rfl⟩ | ⟨rfl,_,_,_,_,_,rfl⟩ | ⟨rfl,_,_,_,_,_,rfl⟩
  ·rw[if_pos rfl];exact Ub h
  ·rw[if_neg (by decide),if_pos rfl];exact Uc h
  rw[if_neg (by decide),if_neg (by decide)];exact h
 have WD:Hid (low<27→n<B→∀ w,Calls Tryz.prog 186 #[.int .u64 (n:Int),.int .i64 k1,.int .i64 k2] w fun e w'=>e=.returned (.int .u64 (D:Int))∧w'=w):=fun h7 h w=>by
  rw[← hD,uf]
  rcases HW with ⟨rfl,_,_,_,rfl,rfl,rfl⟩ | ⟨rfl,_,_,_,rfl,rfl,rfl⟩ | ⟨rfl,_⟩
  ·rw[if_pos rfl];exact Z4 n h w
  ·rw[if_neg (by decide),if_pos rfl];exact Z5 n h w
  omega
 have DN:Hid (low=27→D=n):=fun h=>by rw[← hD,h,uf,if_neg (by omega),if_neg (by omega)]
 have WQ:Hid (fl=t∨(((fl:Int)==u)=false∧((fl:Int)=u)=False∧fl≠t)):=by
  exact jcZ
 have HB:=Hh pf;have aS:=Hh fO;have qD:=Hh uE;have HN:=Hh hn;have NM:=Hh (gP xY.psr s (by omega) (by omega));have HC:=Hh hP.cnt_le;clear E0 E2 oX BJ hn hD fO uE pf h25 iW
 rcases HW with ⟨rfl,rfl,rfl,rfl,rfl,rfl,rfl⟩ | ⟨rfl,rfl,rfl,rfl,rfl,rfl,rfl⟩ | ⟨rfl,rfl,rfl,rfl,rfl,rfl,rfl⟩
 all_goals
  first
  | rw[show((25:Nat):Int)=25 from rfl]
  | rw[show((26:Nat):Int)=26 from rfl]
  | rw[show((27:Nat):Int)=27 from rfl]
  go_enter Tryz.func150,Tryz.ntmps150
  go_wp2_with fail
  refine NM.out.mono ?_
  rintro e w3 (⟨hs,rfl,ug,yA⟩ | ⟨hs,rfl,ug,yA⟩)
  ·have E:=Hh (EF.out hs);have wI:Rdg 142 w H w3 H g A c l p cnt:=xY.step yA ug hP.le HC.out;have yE:=xO.gr yA (by omega);clear NM hs xY xO ug yA EF EE EO NB DL WD DN WQ HB aS qD HN;exact jd3
  have wI:Rdg 142 w H w3 H g A c l _ cnt:=xY.step yA ug hs HC.out;have yE:=xO.gr yA (by omega);have EE2:=Hh (EE.out hs);have EO2:=Hh (EO.out hs);have Df:=NB.out hs;have aY:=DL.out Df;have OW:=Hh Df;rw[HN.out];have IN:=Hh (fun w=>di D aY w);have FL:=Hh (fun w=>dj D aY w);rw[qD.out]at IN;have Cn:=Hh aY;clear NM hs xY xO ug yA EF EE EO NB DL qD HN Df aY;obtain⟨wY,wE,wo,yJ,mu⟩:=jfI;clear wI yE;go_wp2_with (with_reducible refine zx ?_)
  refine stI wY fun w4 uq hg4=>?_
  obtain⟨wT,xG⟩:=jgg;clear wE wo wY hg4;obtain⟨X,qS⟩:∃ X,w3.heap.size=X:=⟨_,rfl⟩
  rw[qS]at uq mu yJ⊢;clear qS
  first
  |have WD2:=Hh (WD.out (by decide) OW.out)
   clear WD DN;go_wp2_with fail
   refine(WD2.out _).mono ?_
   rintro e w6 ⟨rfl,rfl⟩
   clear WD2;go_wp2_with (with_reducible refine zx ?_)
   refine zw rfl _ _ _ rfl rfl X 1 (.int .u64 (D:Int)) rfl rfl _ _ uq aA (by simp) rfl fun w7 jn xQ=>?_
   have vT:=wT.gb mu (Nat.le_of_lt yJ.out) yo xQ;have wU:=xG.grown xQ (by intro e;injection e with e;have:=yJ.out;omega);have Uq:Blk w7 X 77 #[.int .i64 8,.int .u64 (D:Int),.slice none 0 0,.slice none 0 0]:=jn;clear wT xG uq xQ jn
  |have hDn:=(show D=n by first | exact DN.out rfl | exact DN.out trivial | exact DN.out)
   subst hDn;have vT:=wT;have wU:=xG;have Uq:=uq;clear wT xG uq WD DN
  have b0:=Uq.cell 0 rfl;have b1:=Uq.cell 1 rfl;have b2:=Uq.cell 2 rfl;have b3:=Uq.cell 3 rfl
  rcases(by cases nn <;> cases bb <;> simp:(nn=true∧bb=true)∨(nn=true∧bb=false)∨nn=false) with ⟨rfl,rfl⟩ | ⟨rfl,rfl⟩ | rfl
  ·have xp:D≠9221120237041090560:=by have xp:=HB.out;rw[bne_iff_ne]at xp;exact xp
   have c1:((D:Int) != 9221120237041090560)=true:=by rw[bne_iff_ne];omega
   have c1':((D:Int)=9221120237041090560)=False:=eq_false (by omega);have E:=Hh (EE2.out (.inl rfl));clear EE2 EO2 xp aS HB WQ;go_wp2_with fail
   refine(IN.out _).mono ?_
   rintro e w6 ⟨rfl,rfl⟩
   go_wp2_with (with_reducible refine zx ?_)
   refine stI wU fun wz hTy hgz=>?_
   have xr:=vT.gb wg (Nat.le_refl _) yo hgz;exact jai
  all_goals
   try have xp:D=9221120237041090560:=by have xp:=HB.out;rw[bne_eq_false_iff_eq]at xp;exact xp
   try have c1:((D:Int) != 9221120237041090560)=false:=by rw[bne_eq_false_iff_eq];omega
   try have c1':((D:Int)=9221120237041090560)=True:=eq_true (by omega)
   try clear xp
   clear HB;go_wp2_with fail
   refine(IN.out _).mono ?_
   rintro e w6 ⟨rfl,rfl⟩
   go_wp2_with fail
   refine(FL.out _).mono ?_
   rintro e w8 ⟨r,rfl,hf⟩
   have ve:=vT.below_ hf.2;have tZ:=wU.below hf.2;have ma:=Uq.below hf.2;obtain⟨RA,rc,rfl,_⟩:=hf.own.form;rw[aS.out];clear b0 b1 b2 b3 hf;have b0:=ma.cell 0 rfl;have b1:=ma.cell 1 rfl;have b2:=ma.cell 2 rfl;have b3:=ma.cell 3 rfl
   rcases WQ.out with hq | ⟨zq,zq2,hq⟩
   ·have E:=Hh (EO2.out rfl hq);rw[hq];clear EE2 EO2 aS hq WQ;go_wp2_with (with_reducible refine zx ?_)
    refine stI tZ fun wz hTy hgz=>?_
    have xr:=ve.gb wg (Nat.le_refl _) yo hgz;go_wp2_with fail
    refine zo rfl rfl hTy rfl rfl zj rfl ?_
    exact ItemOut.ok (ja:=none) (jb:=0) (jc:=none) (jd:=0) E.out rfl xr (IsItem.plain _ 8 D (by omega) Cn.out)
   have E:=Hh (EE2.out (.inr hq));clear EE2 EO2 aS hq WQ;go_wp2_with (with_reducible refine zx ?_)
   refine stI tZ fun wz hTy hgz=>?_
   have xr:=ve.gb wg (Nat.le_refl _) yo hgz;go_wp2_with fail
   refine zo rfl rfl hTy rfl rfl zj rfl ?_
   exact ItemOut.err E.out rfl xr
theorem U0 (hP:Psr 142 w g H A c l p cnt) (low:Nat) (hl:low≤27):Calls Tryz.prog 150 #[.pointer (some ⟨g,0,none⟩),.int .i64 (low:Int)] w (ItemOut 142 w H g A c l p (uG low (l.drop p) cnt)):=by
 by_cases h:low<24
 ·exact eX hP low h
 by_cases qo:low=24
 ·subst qo;exact bG hP
 exact fU hP low (by omega) hl
end
def wF (maj:Nat) (p:List UInt8→Nat→PR):Nat→Bool→List UInt8→Nat→Option (List UInt8)→PL
 | 0,_,_,c,_=>.ok [] 0 c
 | m+1,ev,b,c,last=>match p b c with
  | .err e=>.err e
  | .ok x k c' =>
  if maj=5∧ev=true then
   match sJ last (b.take k) with
   | some e=>.err e
   | none=>(wF maj p m false (b.drop k) c' (some (b.take k))).pre [x] k
  else(wF maj p m (!ev) (b.drop k) c' last).pre [x] k
theorem Vp (L M:List Itm) (a b:Nat) (r:PL):(r.pre M b).pre L a=r.pre (L++M) (a+b):=by
 cases r <;> simp[PL.pre,Nat.add_assoc]
section
variable {maj:Nat} {p:List UInt8→Nat→PR} {m:Nat} {ev:Bool} {b:List UInt8} {cc q k c1:Nat} {x:Itm} {last:Option (List UInt8)}
theorem Po (L:List Itm) (k0:Nat) (h:p b cc=.err q):(wF maj p (m+1) ev b cc last).pre L k0=.err q:=by rw[wF,h];rfl
theorem ZW (L:List Itm) (k0:Nat) (h:p b cc=.ok x k c1) (hm:maj=5) (he:ev=true) (h2:sJ last (b.take k)=some q):(wF maj p (m+1) ev b cc last).pre L k0=.err q:=by
 rw[wF,h];simp only;rw[if_pos ⟨hm,he⟩,h2];rfl
theorem jL (L:List Itm) (k0:Nat) (h:p b cc=.ok x k c1) (hm:maj=5) (he:ev=true) (h2:sJ last (b.take k)=none):(wF maj p (m+1) ev b cc last).pre L k0=(wF maj p m false (b.drop k) c1 (some (b.take k))).pre (L++[x]) (k0+k):=by
 rw[wF,h];simp only;rw[if_pos ⟨hm,he⟩,h2];simp only;rw[Vp]
theorem ND (L:List Itm) (k0:Nat) (h:p b cc=.ok x k c1) (hm:¬ (maj=5∧ev=true)):(wF maj p (m+1) ev b cc last).pre L k0=(wF maj p m (!ev) (b.drop k) c1 last).pre (L++[x]) (k0+k):=by
 rw[wF,h];simp only;rw[if_neg hm,Vp]
end
theorem o3 {maj:Nat}(hm:maj≠5) (p:List UInt8→Nat→PR):∀ (n:Nat) (ev:Bool) (b:List UInt8) (c:Nat) (last:Option (List UInt8)),wF maj p n ev b c last=vq p n b c
 | 0,_,_,_,_=>rfl
 | n+1,ev,b,c,last=>by
  rw[wF,vq]
  cases h:p b c with
  | err e=>rfl
  | ok x k c1 =>
  simp only
  rw[if_neg (fun h=>hm h.1),o3 hm p n]
  cases vq p n (b.drop k) c1 <;> rfl
theorem ZX (p:List UInt8→Nat→PR):∀ (n:Nat) (b:List UInt8) (c:Nat) (last:Option (List UInt8)),wF 5 p (2*n) true b c last=wQ p n b c last
 | 0,_,_,_=>rfl
 | n+1,b,c,last=>by
  rw[show 2*(n+1)=(2*n+1)+1 by omega,wF,wQ]
  cases h:p b c with
  | err e=>rfl
  | ok x k c1 =>
  simp only
  rw[if_pos (by simp)]
  cases hk:sJ last (b.take k) with
  | some e=>rfl
  | none =>
  simp only
  rw[wF]
  cases h2:p (b.drop k) c1 with
  | err e=>rfl
  | ok y k2 c2 =>
  simp only
  rw[if_neg (by simp),List.drop_drop,Bool.not_false,ZX p n]
  cases wQ p n (b.drop (k+k2)) c2 (some (b.take k)) with
  | err e=>rfl
  | ok l k3 c3=>simp[PL.pre,Nat.add_assoc]
def gi (maj n:Nat):Nat:=if maj=5 then 2*min n 4294967296 else if maj=6 then 1 else n
def elR (maj n:Nat):PL→PR
 | .err q=>.err q
 | .ok L k c=>.ok (.mk (maj:Int) (if maj=6 then n else 0) [] L) k c
def uY (maj d n:Nat) (b:List UInt8) (c:Nat):PR:=elR maj n (wF maj (ze d) (gi maj n) true b c none)
theorem XF (d:Nat) (b:List UInt8) (c:Nat) (h:¬ 256≤c) {f n k:Nat}(hq:zH b=.ok (f,n,k)) (h4:4≤f/32) (h6:f/32≤6) :
  ze (d+1) b c=(match uY (f/32) d n (b.drop k) (c+1) with | .err e=>.err e | .ok x k' c'=>.ok x (k+k') c'):=by
 rcases(by omega:f/32=4∨f/32=5∨f/32=6) with hk | hk | hk
 ·rw[dY d b c h hq hk,hk,uY,o3 (by omega),gi,if_neg (by omega),if_neg (by omega)]
  cases vq (ze d) n (b.drop k) (c+1) <;> rfl
 ·rw[dZ d b c h hq hk,hk,uY,gi,if_pos rfl,ZX]
  have e:wQ (ze d) (min n 4294967296) (b.drop k) (c+1) none=wQ (ze d) n (b.drop k) (c+1) none:=by
   rcases Nat.le_total n 4294967296 with hn | hn
   ·rw[Nat.min_eq_left hn]
   rw[Nat.min_eq_right hn]
   exact Vk (vu d) _ _ _ _ _ (by omega) (by omega) (by omega)
  rw[e]
  cases wQ (ze d) n (b.drop k) (c+1) none <;> rfl
 rw[da d b c h hq hk,hk,uY,gi,if_neg (by omega),if_pos rfl,o3 (by omega),vq]
 cases ze d (b.drop k) (c+1) with
 | err e=>rfl
 | ok x k' c'=>simp[vq,elR]
def W9 (d:Nat):Prop:=∀ (w:World) (H:Snap) (g:Nat) (A:Option Addr) (c:Nat) (l:List UInt8) (p cnt lv maj n:Nat),Tabs H→lv+1+d=8→4≤maj→maj≤6→n<18446744073709551616→0<l.length→Psr 142 w g H A c l p cnt→
 Calls Tryz.prog 153 #[.pointer (some ⟨g,0,none⟩),.int .i64 (maj:Int),.int .u64 (n:Int),.int .i64 (lv:Int)] w (ItemOut 142 w H g A c l p (uY maj d n (l.drop p) cnt))
theorem NT (d:Nat) {l:List UInt8}{p c:Nat}(h:¬ 256≤c) {ch:UInt8}{low:Nat}(hd:l.drop p=ch::l.drop (p+1)) (hl:ch.toNat%32=low) (iW:low≤27) (h7:ch.toNat/32=7) :
  ze d (l.drop p) c=(match uG low (l.drop (p+1)) (c+1) with | .err e=>.err e | .ok x k c'=>.ok x (1+k) c'):=by
 subst hl;obtain⟨t,ht⟩:∃ t,l.drop (p+1)=t:=⟨_,rfl⟩
 rw[ht]at hd;rw[ht]
 by_cases qo:ch.toNat%32<24
 ·have hh:zH (l.drop p)=.ok (ch.toNat,ch.toNat%32,1):=by rw[hd,zH,if_neg (by omega),if_pos qo]
  rw[nj d _ c h hh h7,uG,if_pos qo]
  cases yT (ch.toNat%32) (ch.toNat%32) <;> rfl
 by_cases hs:t.length<2 ^ (ch.toNat%32-24)
 ·have hh:zH (l.drop p)=.error 2:=by rw[hd,zH,if_neg (by omega),if_neg qo,if_pos hs]
  rw[sS d _ c h hh,uG,if_neg qo,if_pos hs]
 have hh:zH (l.drop p)=.ok (ch.toNat,beN (t.take (2 ^ (ch.toNat%32-24))),1+2 ^ (ch.toNat%32-24)):=by rw[hd,zH,if_neg (by omega),if_neg qo,if_neg hs,if_neg (by omega)]
 rw[nj d _ c h hh h7,uG,if_neg qo,if_neg hs]
 cases yT (ch.toNat%32) (beN (t.take (2 ^ (ch.toNat%32-24)))) <;> rfl
section
variable {d:Nat} {w:World} {H:Snap} {g:Nat} {A:Option Addr} {c:Nat} {l:List UInt8} {p cnt lv:Nat}
theorem Z0 (hTab:Tabs H) (hlv:lv+d=8) (hP:Psr 142 w g H A c l p cnt) (hc:cnt=256):Calls Tryz.prog 117 #[.pointer (some ⟨g,0,none⟩),.int .i64 (lv:Int)] w (ItemOut 142 w H g A c l p (ze d (l.drop p) cnt)):=by
 obtain⟨yo,xY,xO,wg⟩:=jff;have c2:=jfH;have x9:(256:Int)≤(cnt:Int):=by omega
 have xV:decide ((256:Int)≤(cnt:Int))=true:=decide_eq_true x9;have E:=Hh (fu d (l.drop p) cnt (by omega));clear hc;go_enter Tryz.func117,Tryz.ntmps117
 go_wp2_with (with_reducible refine zx ?_)
 refine stI xO fun wz hTy hgz=>?_
 have xr:=xY.gb wg (Nat.le_refl _) yo hgz;exact jcW
theorem XG (hTab:Tabs H) (hlv:lv+d=8) (hP:Psr 142 w g H A c l p cnt) (hc:cnt<256) (z9:p=l.length):Calls Tryz.prog 117 #[.pointer (some ⟨g,0,none⟩),.int .i64 (lv:Int)] w (ItemOut 142 w H g A c l p (ze d (l.drop p) cnt)):=by
 obtain⟨yo,xY,xO,wg⟩:=jff;have c2:=jfH;have E:=Hh (sS d (l.drop p) cnt (by omega) (q:=2) (by rw[z9,List.drop_length];rfl));have z0:((l.length:Nat):Int)≤(p:Int):=by omega
 have z0':decide (((l.length:Nat):Int)≤(p:Int))=true:=decide_eq_true z0;clear z9;have x9:¬ ((256:Int)≤(cnt:Int)):=by omega
 have xV:=jgk;obtain⟨KC,HC⟩:=jfk;clear hc;go_enter Tryz.func117,Tryz.ntmps117
 go_wp2_with (with_reducible refine zx ?_)
 refine zw rfl _ _ _ rfl rfl g 2 (.int .i64 ((cnt:Int)+1)) rfl rfl _ _ xY.psr.blk zF (by simp) rfl fun w2 wm xq=>?_
 obtain⟨wC,tX⟩:=jfM;clear xY xO wm xq c2 KC x9 xV;obtain⟨pe,a0,a1⟩:=jgQ;go_wp2_with fail
 go_big_quiet (fail)
 have wI:=wC.drewN nq;have yE:Blk (w2.drewN nq) w.heap.size 77 #[.int .i64 0,.int .u64 0,.slice none 0 0,.slice none 0 0]:=tX;exact jd3
theorem Yz (hTab:Tabs H) (hlv:lv+d=8) (hP:Psr 142 w g H A c l p cnt) (hc:cnt<256) (rk:p<l.length) {ch:UInt8}(eG:l[p]=ch) {low kd:Nat}(xv:ch.toNat%32=low) (ru:ch.toNat/32=kd) (iW:27<low):Calls Tryz.prog 117 #[.pointer (some ⟨g,0,none⟩),.int .i64 (lv:Int)] w (ItemOut 142 w H g A c l p (ze d (l.drop p) cnt)):=by
 obtain⟨yo,xY,xO,wg⟩:=jff;have c2:=jfH;have ED:=nG rk;rw[eG]at ED;have E:=Hh (sS d (l.drop p) cnt (by omega) (q:=3) (by rw[ED,zH,xv,if_pos iW]));have z27:(27:Int)<(low:Int):=by omega
 clear iW ED;have z0:¬ (((l.length:Nat):Int)≤(p:Int)):=by omega
 have z0':=jgS;have YO:(p:Int)<(l.length:Int):=by omega
 have jp:(0:Int)≤(p:Int):=by omega
 have nZ:=hP.small;have K1:=jf4;obtain⟨b,off,rfl,vY⟩:=hP.bytes.at_ (by omega);have KA:=aG ⟨ch.toNat,ch.toNat_lt⟩
 simp only at KA
 rw[xv]at KA;have S:(ch.toNat:Int)/32=(kd:Int):=by omega
 have WX:(kd:Int)≤7:=by have:=ch.toNat_lt;omega
 have Mr:(low:Int)≤31:=by omega
 obtain⟨px,sZ,Ho⟩:=jfQ;clear vY xv ru nZ eG;have x9:¬ ((256:Int)≤(cnt:Int)):=by omega
 have xV:=jgk;obtain⟨KC,HC⟩:=jfk;clear hc;go_enter Tryz.func117,Tryz.ntmps117
 go_wp2_with (with_reducible refine zx ?_)
 refine zw rfl _ _ _ rfl rfl g 2 (.int .i64 ((cnt:Int)+1)) rfl rfl _ _ xY.psr.blk zF (by simp) rfl fun w2 wm xq=>?_
 obtain⟨wC,tX⟩:=jfM;clear xY xO wm xq c2 KC x9 xV;obtain⟨pe,a0,a1⟩:=jgQ;go_wp2_with fail
 go_big_quiet (fail)
 have i7:=wC.drewN nq;have gz:=jf8
 generalize w2.drewN nq=w3 at i7 gz⊢
 obtain⟨wI,yE⟩:=And.intro i7 gz;clear i7 gz wC tX a0 a1 pe;obtain⟨a0,a1⟩:=jgG;have q0:=wI.psr.holds.cell Ho.out;go_upto_region 6 with fail
 go_big_quiet (fail)
 obtain⟨pS,pO⟩:=jfx
 generalize w3.drewN nq=w4 at pS pO⊢
 obtain⟨wE,wo⟩:=And.intro pS pO;clear pS pO wI yE a0 a1 q0;have a1:=wE.psr.blk.cell 1 rfl;go_wp2_with (with_reducible refine zx ?_)
 refine zw rfl _ _ _ rfl rfl g 1 (.int .i64 ((p:Int)+1)) rfl rfl _ _ wE.psr.blk zF (by simp) rfl fun w5 ts xx=>?_
 obtain⟨wT,xG⟩:=jfO;clear wE wo ts xx a1 K1 z0 z0' YO jp KA S;exact jev
theorem QK (hTab:Tabs H) (hlv:lv+d=8) (hP:Psr 142 w g H A c l p cnt) (hc:cnt<256) (rk:p<l.length) {ch:UInt8}(eG:l[p]=ch) {low kd:Nat}(xv:ch.toNat%32=low) (ru:ch.toNat/32=kd) (iW:low≤27) (h7:kd=7):Calls Tryz.prog 117 #[.pointer (some ⟨g,0,none⟩),.int .i64 (lv:Int)] w (ItemOut 142 w H g A c l p (ze d (l.drop p) cnt)):=by
 obtain⟨yo,xY,xO,wg⟩:=jff;have c2:=jfH;have ED:=nG rk;rw[eG]at ED;subst h7;have E0:=Hh (NT d (l:=l) (p:=p) (c:=cnt) (by omega) ED xv iW ru);have z27:¬ ((27:Int)<(low:Int)):=by omega
 have z27b:decide ((27:Int)<(low:Int))=false:=decide_eq_false z27;have Hm:=Hh iW;clear iW ED;have z0:¬ (((l.length:Nat):Int)≤(p:Int)):=by omega
 have z0':=jgS;have YO:(p:Int)<(l.length:Int):=by omega
 have jp:(0:Int)≤(p:Int):=by omega
 have nZ:=hP.small;have K1:=jf4;obtain⟨b,off,rfl,vY⟩:=hP.bytes.at_ (by omega);have KA:=aG ⟨ch.toNat,ch.toNat_lt⟩
 simp only at KA
 rw[xv]at KA;have S:(ch.toNat:Int)/32=7:=by omega
 have WX:=True.intro;have Mr:(low:Int)≤31:=by omega
 obtain⟨px,sZ,Ho⟩:=jfQ;clear vY xv ru nZ eG;have x9:¬ ((256:Int)≤(cnt:Int)):=by omega
 have xV:=jgk;obtain⟨KC,HC⟩:=jfk;clear hc;go_enter Tryz.func117,Tryz.ntmps117
 go_wp2_with (with_reducible refine zx ?_)
 refine zw rfl _ _ _ rfl rfl g 2 (.int .i64 ((cnt:Int)+1)) rfl rfl _ _ xY.psr.blk zF (by simp) rfl fun w2 wm xq=>?_
 obtain⟨wC,tX⟩:=jfM;clear xY xO wm xq c2 KC x9 xV;obtain⟨pe,a0,a1⟩:=jgQ;go_wp2_with fail
 go_big_quiet (fail)
 have i7:=wC.drewN nq;have gz:=jf8
 generalize w2.drewN nq=w3 at i7 gz⊢
 obtain⟨wI,yE⟩:=And.intro i7 gz;clear i7 gz wC tX a0 a1 pe;obtain⟨a0,a1⟩:=jgG;have q0:=wI.psr.holds.cell Ho.out;go_upto_region 6 with fail
 go_big_quiet (fail)
 obtain⟨pS,pO⟩:=jfx
 generalize w3.drewN nq=w4 at pS pO⊢
 obtain⟨wE,wo⟩:=And.intro pS pO;clear pS pO wI yE a0 a1 q0;have a1:=wE.psr.blk.cell 1 rfl;go_wp2_with (with_reducible refine zx ?_)
 refine zw rfl _ _ _ rfl rfl g 1 (.int .i64 ((p:Int)+1)) rfl rfl _ _ wE.psr.blk zF (by simp) rfl fun w5 ts xx=>?_
 obtain⟨wT,xG⟩:=jfO;clear wE wo ts xx a1 K1 z0 z0' YO jp KA S;have SP:=Hh (U0 wT.psr low Hm.out);go_wp2_with fail
 refine SP.out.mono ?_
 intro e w6 hs
 cases hsp:uG low (l.drop (p+1)) (cnt+1) with
 | err q =>
  rw[hsp,ItemOut]at hs;obtain⟨rfl,H4,p4,cnt4,pU⟩:=hs;have E:Hid (ze d (l.drop p) cnt=.err q):=by rw[Hid,E0.out,hsp]
  have xl:=wT.trans pU;have vU:=xG.rdg pU (by omega);have uS:=pU.hid wg xG.lt;clear pU wT xG SP hsp E0;go_wp2_with (with_reducible refine zx ?_)
  refine stI vU fun wz hTy hgz=>?_
  have xr:=xl.gb uS (Nat.le_refl _) yo hgz;exact jai
 | ok x k' c' =>
 rw[hsp,ItemOut]at hs;obtain⟨ja,jb,jc,jd,H4,rfl,pU,SJ⟩:=hs;have E:Hid (ze d (l.drop p) cnt=.ok x (1+k') c'):=by rw[Hid,E0.out,hsp]
 have xl:=wT.trans pU;have vU:=xG.rdg pU (by omega);have uS:=pU.hid wg xG.lt;clear pU wT xG SP hsp E0;go_wp2_with (with_reducible refine zx ?_)
 refine stI vU fun wz hTy hgz=>?_
 have xr:=xl.gb uS (Nat.le_refl _) yo hgz;exact jbI
end
section
variable {d:Nat} {w:World} {H:Snap} {g:Nat} {A:Option Addr} {c:Nat} {l:List UInt8} {p cnt lv n:Nat}
theorem QH (ih:mW d) (hTab:Tabs H) (hlv:lv+1+d=8) (hn:n<18446744073709551616) (ap:0<l.length) (hP:Psr 142 w g H A c l p cnt):Calls Tryz.prog 153 #[.pointer (some ⟨g,0,none⟩),.int .i64 4,.int .u64 (n:Int),.int .i64 (lv:Int)] w (ItemOut 142 w H g A c l p (uY 4 d n (l.drop p) cnt)):=by
 have yo:=hP.gt;have wg:=jfg;obtain⟨qf,xY,xO,wY⟩:=jfo;rw[show(w.alloc zf).heap.size=w.heap.size+1 by simp]at wY;have qD:=Hh hn;have qk:=Hh hP.small;have Lf:=Hh hlv;have Uu:(lv:Int)≤8:=by omega
 have KLV:=jgO;have OW:=Hh (show n<18446744073709551616 by omega);have eo:Hid (uY 4 d n (l.drop p) cnt=elR 4 n (vq (ze d) n (l.drop p) cnt)):=by rw[Hid,uY,gi,if_neg (by omega),if_neg (by omega),o3 (by omega)]
 clear hn;go_enter Tryz.func153,Tryz.ntmps153
 go_wp2_with (with_reducible refine zx ?_)
 refine stI wY fun w4 uq hg4=>?_
 obtain⟨wT,xG⟩:=jfA;clear xY xO wY hg4;obtain⟨X,qS⟩:∃ X,w.heap.size+1=X:=⟨_,rfl⟩
 have yJ:Hid (w.heap.size<X):=by rw[Hid];omega
 rw[qS]at uq qf⊢;clear qS;go_wp2_with fail
 go_loopw [12,13,14] (fun v12 v13 v14 wr=>∃ (i:Nat) (Hr:Snap) (VA:Option Addr) (vc vn:Nat) (L:List Itm) (k0 cc:Nat) ,v14=.int .u64 (i:Int)∧v12=.slice VA vn vc∧i≤n∧vn=L.length∧
  Rdg 142 w H wr Hr g A c l (p+k0) cc∧Blk wr w.heap.size 77 #[.int .i64 0,.int .u64 0,.slice none 0 0,.slice none 0 0]∧Hr w.heap.size=none∧
  Blk wr X 77 #[.int .i64 4,.int .u64 0,.slice none 0 0,.slice none 0 0]∧Hr X=none∧OwnI wr (X+1) (.slice VA vn vc) Hr L∧(∀ q,(Value.slice VA vn vc).ownBlock=some q→Hr q=none)∧L.length≤cc∧
  vq (ze d) n (l.drop p) cnt=(vq (ze d) (n-i) (l.drop (p+k0)) cc).pre L k0) (fun _ _ v14 _=>n-(intOf v14).toNat)
 case atStart=>exact⟨0,H,none,0,0,[],0,cnt,rfl,rfl,Nat.zero_le _,rfl,wT,xG,wg,uq,qf,OwnI.nil _ _ H,by intro q hq;simp[Value.ownBlock]at hq,by simp,by rw[lF];rfl⟩
 case round =>
 clear wT xG uq;obtain⟨i,Hr,VA,vc,vn,L,k0,cc,rfl,rfl,iL,rfl,tt,rL,jk,pd,mF,xe,qm,WN,sF⟩:=hrel;have us:=Hh sF;have f9:=Hh WN;have aV:=Hh iL
 clear sF WN iL 
 by_cases og:i<n
 ·obtain⟨m1,qq⟩:∃ m1,n-i=m1+1:=⟨n-i-1,by omega⟩
  have P9:=Hh (show n-(i+1)=m1 by omega);have vg:Hid (vq (ze d) n (l.drop p) cnt=(vq (ze d) (m1+1) (l.drop (p+k0)) cc).pre L k0):=by rw[Hid,us.out,qq]
  obtain⟨P1,jC⟩:∃ P1,p+k0=P1:=⟨_,rfl⟩
  have oA:=Hh jC;rw[jC]at tt vg;clear jC;have j7:(i:Int)<(n:Int):=by omega
  have IT:=jgR;rw[show((lv+1:Nat):Int)=(lv:Int)+1 by omega]at IT;have ITH:=Hh IT;clear qq us IT;go_wp2_with fail
  refine ITH.out.mono ?_
  intro e w5 hs
  cases hp:ze d (l.drop P1) cc with
  | err q =>
   rw[hp,ItemOut]at hs;obtain⟨rfl,H5,p5,cnt5,yU⟩:=hs;have sz:((q:Int) != 0)=true:=by rw[bne_iff_ne];have:=zN _ _ _ _ hp;omega
   have oD:=jfy;have E:Hid (uY 4 d n (l.drop p) cnt=.err q):=by rw[Hid,eo.out,vg.out,oh L k0 hp];rfl
   exact je2
  | ok x k c1 =>
  rw[hp,ItemOut]at hs;obtain⟨ja,jb,jc,jd,H5,rfl,yU,eI⟩:=hs;have cM:=Hh (vu d _ _ _ _ _ hp);have xl:=tt.trans yU;have Dp:=xl.psr.cnt_le;obtain⟨vU,uS,sy,kM,wH⟩:=jft;have qi:∀ q,(Value.slice VA L.length vc).ownBlock=some q→H5 q=none:=fun q hq=>yU.hid (qm q hq) (xe.lt q hq).2
  have O8:=Hh yU.grows.le;obtain⟨hY,iI,qp,tu,vT,wU,jn,xj⟩:=jfj;have lW:=jgU;have PG:=Hh hp;clear ITH hp tt yU rL pd xe qm xl vU sy wH;go_wp2_with (with_reducible refine zx ?_)
  refine stI hY fun w8 hY8 hg8=>?_
  obtain⟨ve,tZ,ma,sk⟩:=jfl;obtain⟨Y1,PO⟩:∃ Y1,w5.heap.size=Y1:=⟨_,rfl⟩
  rw[PO]at hY8 qp iI tu⊢;obtain⟨b0,b1,b2,b3⟩:=jgz;clear vT wU jn xj hY hg8 PO
  have fL:Hid ((L++[x]).length≤c1):=by
   exact jeT
  obtain⟨tq,rt,sm,sv⟩:=jfs;go_wp2_with (at_builtin;refine zh ?_)
  refine xb rfl (.tmp 75) (.tmp 77) rfl (X+1) (.slice VA L.length vc) H5 _ rfl sv _ 1 _ (yu x ja jb jc jd) [x] rfl rfl (ItemsC.one eI) (Src.new _ _ _ _ rfl _ rfl) (by have:=lW.out;simp;omega) sm.lt fun v' w10 wO yn hat10=>?_
  obtain⟨VA',vc',rfl,_⟩:=wO.form;obtain⟨uB,oC,rZ,vM⟩:=jfp;obtain⟨L',oQ⟩:∃ L',L++[x]=L':=⟨_,rfl⟩
  rw[oQ]at wO rZ fL⊢;have fM:=Hh (show vq (ze d) n (l.drop p) cnt=(vq (ze d) m1 (l.drop (p+(k0+k))) c1).pre (L++[x]) (k0+k) by rw[vg.out,nd L k0 PG.out,List.drop_drop,← oA.out,Nat.add_assoc]);exact ja0
 have hm:n=i:=by have:=aV.out;omega
 subst hm
 have E1:Hid (uY 4 d n (l.drop p) cnt=.ok (.mk 4 0 [] L) k0 cc):=by
  rw[Hid,eo.out,us.out,Nat.sub_self,vq];simp[PL.pre,elR]
 obtain⟨H5,ij,cX,xX,Jf,ez,iC,lR⟩:=xe.snap tt.psr.holds (fun q hq=>qm q (tA hq));have xv:∀ q,VA.map (·.block)=some q→X+1≤q:=fun q hq=>(xe.lt q (tA hq)).1
 obtain⟨VR,RV,xl⟩:=jfw;have fF:IsItem H5 none 0 VA vc (.mk 4 0 [] L):=IsRowI.item ⟨ez,iC,lR⟩ 4 (by omega) 0 (by have:=qD.out;omega);exact jat
theorem QJ (ih:mW d) (hTab:Tabs H) (hlv:lv+1+d=8) (hn:n<18446744073709551616) (ap:0<l.length) (hP:Psr 142 w g H A c l p cnt):Calls Tryz.prog 153 #[.pointer (some ⟨g,0,none⟩),.int .i64 6,.int .u64 (n:Int),.int .i64 (lv:Int)] w (ItemOut 142 w H g A c l p (uY 6 d n (l.drop p) cnt)):=by
 have yo:=hP.gt;have wg:=jfg;obtain⟨qf,xY,xO,wY⟩:=jfo;rw[show(w.alloc zf).heap.size=w.heap.size+1 by simp]at wY;have qD:=Hh hn;have qk:=Hh hP.small;have Lf:=Hh hlv;have Uu:(lv:Int)≤8:=by omega
 have KLV:=jgO;have OW:=Hh (show 1<18446744073709551616 by omega);have eo:Hid (uY 6 d n (l.drop p) cnt=elR 6 n (vq (ze d) 1 (l.drop p) cnt)):=by rw[Hid,uY,gi,if_neg (by omega),if_pos rfl,o3 (by omega)]
 clear hn;go_enter Tryz.func153,Tryz.ntmps153
 go_wp2_with (with_reducible refine zx ?_)
 refine stI wY fun w4 uq hg4=>?_
 obtain⟨wT,xG⟩:=jfA;clear xY xO wY hg4;obtain⟨X,qS⟩:∃ X,w.heap.size+1=X:=⟨_,rfl⟩
 have yJ:Hid (w.heap.size<X):=by rw[Hid];omega
 rw[qS]at uq qf⊢;clear qS;go_wp2_with (with_reducible refine zx ?_)
 refine zw rfl _ _ _ rfl rfl X 1 (.int .u64 (n:Int)) rfl rfl _ _ uq aA (by simp) rfl fun w4b hX4b hg4b=>?_
 have Gj:=wT.gb qf (Nat.le_of_lt yJ.out) yo hg4b;have Ga:=xG.grown hg4b (by intro e;injection e with e;have:=yJ.out;omega);have Gb:Blk w4b X 77 #[.int .i64 6,.int .u64 (n:Int),.slice none 0 0,.slice none 0 0]:=hX4b;clear wT xG uq hX4b hg4b;have wT:=Gj;have xG:=Ga;have uq:=Gb;clear Gj Ga Gb;go_wp2_with fail
 go_loopw [12,13,14] (fun v12 v13 v14 wr=>∃ (i:Nat) (Hr:Snap) (VA:Option Addr) (vc vn:Nat) (L:List Itm) (k0 cc:Nat) ,v14=.int .u64 (i:Int)∧v12=.slice VA vn vc∧i≤1∧vn=L.length∧
  Rdg 142 w H wr Hr g A c l (p+k0) cc∧Blk wr w.heap.size 77 #[.int .i64 0,.int .u64 0,.slice none 0 0,.slice none 0 0]∧Hr w.heap.size=none∧
  Blk wr X 77 #[.int .i64 6,.int .u64 (n:Int),.slice none 0 0,.slice none 0 0]∧Hr X=none∧OwnI wr (X+1) (.slice VA vn vc) Hr L∧(∀ q,(Value.slice VA vn vc).ownBlock=some q→Hr q=none)∧L.length≤cc∧
  vq (ze d) 1 (l.drop p) cnt=(vq (ze d) (1-i) (l.drop (p+k0)) cc).pre L k0) (fun _ _ v14 _=>1-(intOf v14).toNat)
 case atStart=>exact⟨0,H,none,0,0,[],0,cnt,rfl,rfl,Nat.zero_le _,rfl,wT,xG,wg,uq,qf,OwnI.nil _ _ H,by intro q hq;simp[Value.ownBlock]at hq,by simp,by rw[lF];rfl⟩
 case round =>
 clear wT xG uq;obtain⟨i,Hr,VA,vc,vn,L,k0,cc,rfl,rfl,iL,rfl,tt,rL,jk,pd,mF,xe,qm,WN,sF⟩:=hrel;have us:=Hh sF;have f9:=Hh WN;have aV:=Hh iL
 clear sF WN iL 
 by_cases og:i<1
 ·obtain⟨m1,qq⟩:∃ m1,1-i=m1+1:=⟨1-i-1,by omega⟩
  have P9:=Hh (show 1-(i+1)=m1 by omega);have vg:Hid (vq (ze d) 1 (l.drop p) cnt=(vq (ze d) (m1+1) (l.drop (p+k0)) cc).pre L k0):=by rw[Hid,us.out,qq]
  obtain⟨P1,jC⟩:∃ P1,p+k0=P1:=⟨_,rfl⟩
  have oA:=Hh jC;rw[jC]at tt vg;clear jC;have j7:(i:Int)<1:=by omega
  have IT:=jgR;rw[show((lv+1:Nat):Int)=(lv:Int)+1 by omega]at IT;have ITH:=Hh IT;clear qq us IT;go_wp2_with fail
  refine ITH.out.mono ?_
  intro e w5 hs
  cases hp:ze d (l.drop P1) cc with
  | err q =>
   rw[hp,ItemOut]at hs;obtain⟨rfl,H5,p5,cnt5,yU⟩:=hs;have sz:((q:Int) != 0)=true:=by rw[bne_iff_ne];have:=zN _ _ _ _ hp;omega
   have oD:=jfy;have E:Hid (uY 6 d n (l.drop p) cnt=.err q):=by rw[Hid,eo.out,vg.out,oh L k0 hp];rfl
   exact je2
  | ok x k c1 =>
  rw[hp,ItemOut]at hs;obtain⟨ja,jb,jc,jd,H5,rfl,yU,eI⟩:=hs;have cM:=Hh (vu d _ _ _ _ _ hp);have xl:=tt.trans yU;have Dp:=xl.psr.cnt_le;obtain⟨vU,uS,sy,kM,wH⟩:=jft;have qi:∀ q,(Value.slice VA L.length vc).ownBlock=some q→H5 q=none:=fun q hq=>yU.hid (qm q hq) (xe.lt q hq).2
  have O8:=Hh yU.grows.le;obtain⟨hY,iI,qp,tu,vT,wU,jn,xj⟩:=jfj;have lW:=jgU;have PG:=Hh hp;clear ITH hp tt yU rL pd xe qm xl vU sy wH;go_wp2_with (with_reducible refine zx ?_)
  refine stI hY fun w8 hY8 hg8=>?_
  obtain⟨ve,tZ,ma,sk⟩:=jfl;obtain⟨Y1,PO⟩:∃ Y1,w5.heap.size=Y1:=⟨_,rfl⟩
  rw[PO]at hY8 qp iI tu⊢;obtain⟨b0,b1,b2,b3⟩:=jgz;clear vT wU jn xj hY hg8 PO
  have fL:Hid ((L++[x]).length≤c1):=by
   exact jeT
  obtain⟨tq,rt,sm,sv⟩:=jfs;go_wp2_with (at_builtin;refine zh ?_)
  refine xb rfl (.tmp 75) (.tmp 77) rfl (X+1) (.slice VA L.length vc) H5 _ rfl sv _ 1 _ (yu x ja jb jc jd) [x] rfl rfl (ItemsC.one eI) (Src.new _ _ _ _ rfl _ rfl) (by have:=lW.out;simp;omega) sm.lt fun v' w10 wO yn hat10=>?_
  obtain⟨VA',vc',rfl,_⟩:=wO.form;obtain⟨uB,oC,rZ,vM⟩:=jfp;obtain⟨L',oQ⟩:∃ L',L++[x]=L':=⟨_,rfl⟩
  rw[oQ]at wO rZ fL⊢;have fM:=Hh (show vq (ze d) 1 (l.drop p) cnt=(vq (ze d) m1 (l.drop (p+(k0+k))) c1).pre (L++[x]) (k0+k) by rw[vg.out,nd L k0 PG.out,List.drop_drop,← oA.out,Nat.add_assoc]);exact ja0
 have hm:1=i:=by have:=aV.out;omega
 subst hm
 have E1:Hid (uY 6 d n (l.drop p) cnt=.ok (.mk 6 n [] L) k0 cc):=by
  rw[Hid,eo.out,us.out,Nat.sub_self,vq];simp[PL.pre,elR]
 obtain⟨H5,ij,cX,xX,Jf,ez,iC,lR⟩:=xe.snap tt.psr.holds (fun q hq=>qm q (tA hq));have xv:∀ q,VA.map (·.block)=some q→X+1≤q:=fun q hq=>(xe.lt q (tA hq)).1
 obtain⟨VR,RV,xl⟩:=jfw;have fF:IsItem H5 none 0 VA vc (.mk 6 n [] L):=IsRowI.item ⟨ez,iC,lR⟩ 6 (by omega) n (by have:=qD.out;omega);exact jat
end
section
variable {d:Nat} {w:World} {H:Snap} {g:Nat} {A:Option Addr} {c:Nat} {l:List UInt8} {p cnt lv n:Nat}
theorem QI (ih:mW d) (hTab:Tabs H) (hlv:lv+1+d=8) (hn:n<18446744073709551616) (ap:0<l.length) (hP:Psr 142 w g H A c l p cnt):Calls Tryz.prog 153 #[.pointer (some ⟨g,0,none⟩),.int .i64 5,.int .u64 (n:Int),.int .i64 (lv:Int)] w (ItemOut 142 w H g A c l p (uY 5 d n (l.drop p) cnt)):=by
 have yo:=hP.gt;have wg:=jfg;obtain⟨qf,xY,xO,wY⟩:=jfo;rw[show(w.alloc zf).heap.size=w.heap.size+1 by simp]at wY;have qD:=Hh hn;have qk:=Hh hP.small;have Lf:=Hh hlv;have Uu:(lv:Int)≤8:=by omega
 have KLV:=jgO;obtain⟨mn,It⟩:∃ mn,min n 4294967296=mn:=⟨_,rfl⟩
 obtain⟨N,hN⟩:∃ N,2*mn=N:=⟨_,rfl⟩
 have WY:min (n:Int) 4294967296=(mn:Int):=by omega
 have KN:IntKind.u64.wrap (2*(mn:Int))=(N:Int):=by rw[IntKind.wrap_u64];omega
 have OW:=Hh (show N≤8589934592 by omega);have eo:Hid (uY 5 d n (l.drop p) cnt=elR 5 n (wF 5 (ze d) N true (l.drop p) cnt none)):=by rw[Hid,uY,gi,if_pos rfl,It,hN]
 clear It hN hn;go_enter Tryz.func153,Tryz.ntmps153
 go_wp2_with (with_reducible refine zx ?_)
 refine stI wY fun w4 uq hg4=>?_
 obtain⟨wT,xG⟩:=jfA;clear xY xO wY hg4;obtain⟨X,qS⟩:∃ X,w.heap.size+1=X:=⟨_,rfl⟩
 have yJ:Hid (w.heap.size<X):=by rw[Hid];omega
 rw[qS]at uq qf⊢;clear qS;go_wp2_with fail
 go_loopw [12,13,14] (fun v12 v13 v14 wr=>∃ (i:Nat) (Hr:Snap) (VA:Option Addr) (vc vn:Nat) (L:List Itm) (k0 cc:Nat) (last:Option (List UInt8)) (KB:Option Addr) (kn kc:Nat) ,v14=.int .u64 (i:Int)∧v12=.slice VA vn vc∧v13=.slice KB kn kc∧((i=0∧last=none)∨(0<i∧∃ key:List UInt8,last=some key∧kn=key.length∧key.length≤4096∧IsBytes Hr KB kc key))∧i≤N∧vn=L.length∧
  Rdg 142 w H wr Hr g A c l (p+k0) cc∧Blk wr w.heap.size 77 #[.int .i64 0,.int .u64 0,.slice none 0 0,.slice none 0 0]∧Hr w.heap.size=none∧
  Blk wr X 77 #[.int .i64 5,.int .u64 0,.slice none 0 0,.slice none 0 0]∧Hr X=none∧OwnI wr (X+1) (.slice VA vn vc) Hr L∧(∀ q,(Value.slice VA vn vc).ownBlock=some q→Hr q=none)∧L.length≤cc∧
  wF 5 (ze d) N true (l.drop p) cnt none=(wF 5 (ze d) (N-i) (decide (i%2=0)) (l.drop (p+k0)) cc last).pre L k0) (fun _ _ v14 _=>N-(intOf v14).toNat)
 case atStart=>exact⟨0,H,none,0,0,[],0,cnt,none,none,0,0,rfl,rfl,rfl,.inl ⟨rfl,rfl⟩,Nat.zero_le _,rfl,wT,xG,wg,uq,qf,OwnI.nil _ _ H,by intro q hq;simp[Value.ownBlock]at hq,by simp,by rw[lF];rfl⟩
 case round =>
 clear wT xG uq;obtain⟨i,Hr,VA,vc,vn,L,k0,cc,last,KB,kn,kc,rfl,rfl,rfl,o8,iL,rfl,tt,rL,jk,pd,mF,xe,qm,WN,sF⟩:=hrel;have us:=Hh sF;have f9:=Hh WN;have aV:=Hh iL;have aD:=Hh o8;clear sF WN iL o8
 by_cases og:i<N
 ·obtain⟨m1,qq⟩:∃ m1,N-i=m1+1:=⟨N-i-1,by omega⟩
  have P9:=Hh (show N-(i+1)=m1 by omega);have vg:Hid (wF 5 (ze d) N true (l.drop p) cnt none=(wF 5 (ze d) (m1+1) (decide (i%2=0)) (l.drop (p+k0)) cc last).pre L k0):=by rw[Hid,us.out,qq]
  obtain⟨P1,jC⟩:∃ P1,p+k0=P1:=⟨_,rfl⟩
  have oA:=Hh jC;rw[jC]at tt vg;clear jC;have j7:(i:Int)<(N:Int):=by omega
  have IT:=jgR;rw[show((lv+1:Nat):Int)=(lv:Int)+1 by omega]at IT;have ITH:=Hh IT;clear qq us IT;go_wp2_with fail
  refine ITH.out.mono ?_
  intro e w5 hs
  cases hp:ze d (l.drop P1) cc with
  | err q =>
   rw[hp,ItemOut]at hs;obtain⟨rfl,H5,p5,cnt5,yU⟩:=hs;have sz:((q:Int) != 0)=true:=by rw[bne_iff_ne];have:=zN _ _ _ _ hp;omega
   have oD:=jfy;have E:Hid (uY 5 d n (l.drop p) cnt=.err q):=by rw[Hid,eo.out,vg.out,Po L k0 hp];rfl
   exact je2
  | ok x k c1 =>
  rw[hp,ItemOut]at hs;obtain⟨ja,jb,jc,jd,H5,rfl,yU,eI⟩:=hs;have cM:=Hh (vu d _ _ _ _ _ hp);have xl:=tt.trans yU;have Dp:=xl.psr.cnt_le;obtain⟨vU,uS,sy,kM,wH⟩:=jft;have qi:∀ q,(Value.slice VA L.length vc).ownBlock=some q→H5 q=none:=fun q hq=>yU.hid (qm q hq) (xe.lt q hq).2
  have O8:=Hh yU.grows.le;obtain⟨hY,iI,qp,tu,vT,wU,jn,xj⟩:=jfj;have lW:=jgU;have PG:=Hh hp;clear ITH hp tt yU rL pd xe qm xl vU sy wH;go_wp2_with (with_reducible refine zx ?_)
  refine stI hY fun w8 hY8 hg8=>?_
  obtain⟨ve,tZ,ma,sk⟩:=jfl;obtain⟨Y1,PO⟩:∃ Y1,w5.heap.size=Y1:=⟨_,rfl⟩
  rw[PO]at hY8 qp iI tu⊢;obtain⟨b0,b1,b2,b3⟩:=jgz;clear vT wU jn xj hY hg8 PO;have DJ:=Hh (ow d _ _ _ _ _ PG.out)
  by_cases hev:i%2=0
  ·have ev1:((i:Int)%2==0)=true:=by rw[beq_iff_eq];omega
   have ev2:((i:Int)%2=0)=True:=eq_true (by omega);have ev3:((i:Int).tmod 2==0)=true:=by rw[beq_iff_eq,Int.tmod_eq_emod_of_nonneg (by omega)];omega
   have ev4:((i:Int).tmod 2=0)=True:=eq_true (by rw[Int.tmod_eq_emod_of_nonneg (by omega)];omega);have P7:=Hh hev;obtain⟨key,cF⟩:∃ key,(l.drop P1).take k=key:=⟨_,rfl⟩
   have gw:=Hh cF;have jj:Hid (key.length≤4096):=by rw[Hid,← cF,List.length_take,List.length_drop];have:=qk.out;omega
   have GC:Hid (xB x=key):=by rw[Hid,← cF];exact DJ.out.enc
   have RW0:=Vq x H5 x.kind x.n ja x.bytes.length jb jc x.items.length jd w8 (lv+1) (DJ.out.good (lv+1) (by have:=Lf.out;omega)) (by rw[GC.out];have:=jj.out;omega) eI.arg ve.psr.holds;rw[GC.out]at RW0;have RW:=Hh RW0;clear hev cF RW0;go_wp2_with fail
   refine RW.out.mono ?_
   rintro e w9 ⟨r,rfl,mh⟩
   obtain⟨KA,kac,rfl,_⟩:=mh.own.form;obtain⟨H6,y8,oS,_⟩:=Fresh.snapB ve.psr.holds mh;have cD:=ve.grown y8;have aP:=tZ.below mh.2;have OB:=ma.below mh.2;have Xv:=hY8.below mh.2;have Uo:=(sk.below mh.2).mono y8.le;have OJ:=y8.none uS tZ.lt;have MQ:=y8.none kM ma.lt;have WF:∀ q,(Value.slice VA L.length vc).ownBlock=some q→H6 q=none:=fun q hq=>y8.none (qi q hq) (sk.lt q hq).2
   have Gm:=eI.mono y8.le;have By:=Hh (O8.out.trans y8.le);clear RW mh y8 ve tZ ma hY8 sk uS kM qi b0 b1 b2 b3 eI;have b0:=Xv.cell 0 rfl;have b1:=Xv.cell 1 rfl;have b2:=Xv.cell 2 rfl;have b3:=Xv.cell 3 rfl
   rcases aD.out with ⟨WU,rfl⟩ | ⟨hi,lk,rfl,sw,uh,hsl⟩
   ·have aW:Hid (sJ none ((l.drop P1).take k)=none):=rfl;have Ra:¬ ((0:Int)<(i:Int)):=by omega
    have Fy:decide ((0:Int)<(i:Int))=false:=decide_eq_false Ra;clear WU
    have fL:Hid ((L++[x]).length≤c1):=by
     exact jeT
    have tq:=cD.alloc (.cells (yu x ja jb jc jd).toArray 77);have rt:=aP.alloc (.cells (yu x ja jb jc jd).toArray 77);have sm:=OB.alloc (.cells (yu x ja jb jc jd).toArray 77);have sv:=Uo.alloc (.cells (yu x ja jb jc jd).toArray 77);exact jao
   have Ra:(0:Int)<(i:Int):=by omega
   have Fy:decide ((0:Int)<(i:Int))=true:=decide_eq_true Ra;have CM:=Hh (fun(W:World) (hW:Holds W H6)=>jS W KB KA lk key kn key.length kc kac sw rfl (by omega) (by have:=jj.out;omega) (Src.of_row (hsl.mono By.out).row hW) (Src.of_row oS.row hW));obtain⟨q,hq⟩:∃ q,Lib.compareBytes lk key=q:=⟨_,rfl⟩
   rw[hq]at CM;have HQ:=Hh hq;clear sw uh hsl hq
   by_cases sz:q=0
   ·subst sz
    have aW:Hid (sJ (some lk) ((l.drop P1).take k)=some 7):=by
     rw[Hid,gw.out,sJ,if_pos (by rw[(pt lk key).1 HQ.out];exact nw key)]
    go_wp2_with fail
    refine(CM.out _ cD.psr.holds).mono ?_
    rintro e w10 ⟨rfl,xN⟩
    have sd:=cD.below_ xN;have rJ:=aP.below xN;have E:Hid (uY 5 d n (l.drop p) cnt=.err 7):=by rw[Hid,eo.out,vg.out,ZW L k0 PG.out rfl (by have:=P7.out;simp;omega) aW.out];rfl
    go_wp2_with (with_reducible refine zx ?_)
    refine stI rJ fun wz hTy hgz=>?_
    have xr:=sd.gb OJ (Nat.le_refl _) yo hgz;exact jcX
   have t0:(q==0)=false:=by simpa using sz
   have t0':(q=0)=False:=eq_false sz
   by_cases fR:q<0
   ·have aW:Hid (sJ (some lk) ((l.drop P1).take k)=none):=by
     rw[Hid,gw.out,sJ,if_neg (fun h=>sz (by rw[← HQ.out,(pt key lk).1 h];exact nw lk)),if_neg (fun h=>by
      have h1:=HQ.out;have h2:=dH lk key lk (by omega) h;rw[nw]at h2
      omega)]
    have t1:¬ ((0:Int)<q):=by omega
    have t1':decide ((0:Int)<q)=false:=decide_eq_false t1;clear sz fR;go_wp2_with fail
    refine(CM.out _ cD.psr.holds).mono ?_
    rintro e w10 ⟨rfl,xN⟩
    have sd:=cD.below_ xN;have rJ:=aP.below xN;have es:=OB.below xN;have et:=Xv.below xN;have er:=Uo.below xN;clear cD aP OB Xv Uo xN b0 b1 b2 b3;go_wp2_with fail
    refine(CM.out _ sd.psr.holds).mono ?_
    rintro e w11 ⟨rfl,j5⟩
    have mG:=sd.below_ j5;have mB:=rJ.below j5;have Xs:=es.below j5;have eu:=et.below j5;have Xr:=er.below j5;clear sd rJ es et er j5 CM;have b0:=eu.cell 0 rfl;have b1:=eu.cell 1 rfl;have b2:=eu.cell 2 rfl;have b3:=eu.cell 3 rfl
    have fL:Hid ((L++[x]).length≤c1):=by
     exact jeT
    have tq:=mG.alloc (.cells (yu x ja jb jc jd).toArray 77);have rt:=mB.alloc (.cells (yu x ja jb jc jd).toArray 77);have sm:=Xs.alloc (.cells (yu x ja jb jc jd).toArray 77);have sv:=Xr.alloc (.cells (yu x ja jb jc jd).toArray 77);exact jao
   have aW:Hid (sJ (some lk) ((l.drop P1).take k)=some 6):=by
    rw[Hid,gw.out,sJ,if_neg (fun h=>sz (by rw[← HQ.out,(pt key lk).1 h];exact nw lk)),if_pos (bW lk key (by rw[HQ.out];exact sz) (by rw[HQ.out];exact fR))]
   have t1:(0:Int)<q:=by omega
   have t1':decide ((0:Int)<q)=true:=decide_eq_true t1;clear sz fR;go_wp2_with fail
   refine(CM.out _ cD.psr.holds).mono ?_
   rintro e w10 ⟨rfl,xN⟩
   have sd:=cD.below_ xN;have rJ:=aP.below xN;clear cD aP OB Xv Uo xN b0 b1 b2 b3;go_wp2_with fail
   refine(CM.out _ sd.psr.holds).mono ?_
   rintro e w11 ⟨rfl,j5⟩
   have mG:=sd.below_ j5;have mB:=rJ.below j5;clear sd rJ j5 CM;have E:Hid (uY 5 d n (l.drop p) cnt=.err 6):=by rw[Hid,eo.out,vg.out,ZW L k0 PG.out rfl (by have:=P7.out;simp;omega) aW.out];rfl
   go_wp2_with (with_reducible refine zx ?_)
   refine stI mB fun wz hTy hgz=>?_
   have xr:=mG.gb OJ (Nat.le_refl _) yo hgz;exact jcY
  have ev1:((i:Int)%2==0)=false:=by rw[beq_eq_false_iff_ne];omega
  have ev2:((i:Int)%2=0)=False:=eq_false (by omega);have ev3:((i:Int).tmod 2==0)=false:=by rw[beq_eq_false_iff_ne,Int.tmod_eq_emod_of_nonneg (by omega)];omega
  have ev4:((i:Int).tmod 2=0)=False:=eq_false (by rw[Int.tmod_eq_emod_of_nonneg (by omega)];omega);have P7:=Hh hev
  have Jh:Hid ((i+1=0∧last=none)∨(0<i+1∧∃ key:List UInt8,last=some key∧kn=key.length∧key.length≤4096∧IsBytes H5 KB kc key)):=by
   rcases aD.out with ⟨WU,_⟩ | ⟨hi,lk,e1,e2,e3,e4⟩
   ·exact absurd WU (by omega)
   exact .inr ⟨by omega,lk,e1,e2,e3,e4.mono O8.out⟩
  clear hev
  have fL:Hid ((L++[x]).length≤c1):=by
   exact jeT
  obtain⟨tq,rt,sm,sv⟩:=jfs;go_wp2_with (at_builtin;refine zh ?_)
  refine xb rfl (.tmp 75) (.tmp 77) rfl (X+1) (.slice VA L.length vc) H5 _ rfl sv _ 1 _ (yu x ja jb jc jd) [x] rfl rfl (ItemsC.one eI) (Src.new _ _ _ _ rfl _ rfl) (by have:=lW.out;simp;omega) sm.lt fun v' w10 wO yn hat10=>?_
  obtain⟨VA',vc',rfl,_⟩:=wO.form;obtain⟨uB,oC,rZ,vM⟩:=jfp;obtain⟨L',oQ⟩:∃ L',L++[x]=L':=⟨_,rfl⟩
  rw[oQ]at wO rZ fL⊢;have fM:=Hh (show wF 5 (ze d) N true (l.drop p) cnt none=(wF 5 (ze d) m1 (decide ((i+1)%2=0)) (l.drop (p+(k0+k))) c1 last).pre (L++[x]) (k0+k) by rw[vg.out,ND L k0 PG.out (by have:=P7.out;simp;omega),List.drop_drop,← oA.out,Nat.add_assoc,show decide (i%2=0)=false by have:=P7.out;simp;omega,show decide ((i+1)%2=0)=true by have:=P7.out;simp;omega];rfl);rw[oQ]at fM;have lQ:L.length+1=L'.length:=by rw[← oQ];simp
  try rw[lQ]
  clear oQ tq rt sm sv yn hat10 b0 b1 b2 b3 lQ;have KI:IntKind.u64.wrap ((i:Int)+1)=(i:Int)+1:=by rw[IntKind.wrap_u64];have:=OW.out;omega
  rw[show P1+k=p+(k0+k) by have:=oA.out;omega]at vM;have qA:=Hh j7;clear j7;go_wp2_with fail
  go_roundw
  case rel=>exact⟨i+1,H5,VA',vc',_,L',k0+k,c1,last,KB,kn,kc,by first | rfl | (simp;done) | go_num,rfl,rfl,Jh.out,by have:=qA.out;omega,rfl,vM,uB,uS,oC,kM,wO,rZ,fL.out,by rw[P9.out];exact fM.out⟩
  case measure=>have:=qA.out;simp[intOf];omega
 have hm:N=i:=by have:=aV.out;omega
 subst hm
 have E1:Hid (uY 5 d n (l.drop p) cnt=.ok (.mk 5 0 [] L) k0 cc):=by
  rw[Hid,eo.out,us.out,Nat.sub_self,wF];simp[PL.pre,elR]
 obtain⟨H5,ij,cX,xX,Jf,ez,iC,lR⟩:=xe.snap tt.psr.holds (fun q hq=>qm q (tA hq));have xv:∀ q,VA.map (·.block)=some q→X+1≤q:=fun q hq=>(xe.lt q (tA hq)).1
 obtain⟨VR,RV,xl⟩:=jfw;have fF:IsItem H5 none 0 VA vc (.mk 5 0 [] L):=IsRowI.item ⟨ez,iC,lR⟩ 5 (by omega) 0 (by have:=qD.out;omega);exact jat
end
end Go.Proofs.YtkmlnjociijpgaaGreatDoor
