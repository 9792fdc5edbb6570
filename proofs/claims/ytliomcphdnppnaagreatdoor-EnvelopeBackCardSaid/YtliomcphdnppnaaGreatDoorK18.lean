/- squeezed. SHA-256: the fraction of a root of -/
import Derived.Test.YtliomcphdnppnaaGreatDoorK17
import Derived.Deep.DeepCutAuto
import Derived.Deep.CutBlock
set_option linter.unusedVariables false
set_option linter.unusedSimpArgs false
set_option maxRecDepth 100000
set_option maxHeartbeats 6400000
namespace Go.Proofs.YtliomcphdnppnaaGreatDoor
open Go.RowKit
theorem jac{P:Prop}(h:P:=by
 rintro e w13 ⟨mm,rfl,fm,sy⟩
 replace zR:=zR.below sy;replace zN:=zN.below sy;replace zM:=zM.below sy;replace yD:=yD.trans (sy.mono yD.size);clear sy;clear zy
 refine hK.out _ _ (fun _=>?_) (fun zy=>?_)
 ·exact jd3
 clear hK K;replace zy:=zy (by decide)
 try simp only[Act.put,zz1,zz2,zz3,zz4,zz5,zz6]
 refine To 4 rfl fun K hK=>?_
 go_simp
 refine(rY fm _).mono ?_
 rintro e w14 ⟨⟨fl,rfl⟩,ux⟩
 replace zR:=zR.below ux;replace zN:=zN.below ux;replace zM:=zM.below ux;replace yD:=yD.trans (ux.mono yD.size);clear ux;clear zy
 refine hK.out _ _ (fun _=>?_) (fun zy=>?_)
 ·exact jd3
 clear hK K;replace zy:=zy (by decide)
 try simp only[Act.put,zz1,zz2,zz3,zz4,zz5,zz6]
 refine To 6 rfl fun K hK=>?_
 rw[if_pos (by rfl)]
 refine aG _ _ _ _ _ rfl (by simp) _ _ rfl rfl fun fq w15 hw15=>?_
 replace zR:=zR.or hw15;replace zN:=zN.or hw15;replace zM:=zM.or hw15;replace yD:=wT yD hw15;clear hw15;clear zy
 refine hK.out _ _ (fun _=>?_) (fun zy=>?_)
 ·exact jd3
 clear hK K;replace zy:=zy (by decide)
 try simp only[Act.put,zz1,zz2,zz3,zz4,zz5,zz6]
 refine To 7 rfl fun K hK=>?_
 rw[if_pos (by rfl)]
 refine je _ _ _ rfl (by kernel_rfl) (by kernel_rfl) _ rfl fun dd w16 QQ hw16=>?_
 replace zR:=zR.or hw16;replace zN:=zN.or hw16;replace zM:=zM.or hw16;replace yD:=wT yD hw16;clear hw16;clear zy
 refine hK.out _ _ (fun _=>?_) (fun zy=>?_)
 ·exact jd3
 clear hK K;replace zy:=zy (by decide)
 try simp only[Act.put,zz1,zz2,zz3,zz4,zz5,zz6]
 refine To 8 rfl fun K hK=>?_
 go_simp
 refine(lT lo k 0 0 dd (by have h2:=HP.out.2.2.2.2.2;omega) HP.out.2.2.2.2.1 _).mono ?_
 rintro e w17 ⟨rfl,qF⟩
 replace zR:=zR.below qF;replace zN:=zN.below qF;replace zM:=zM.below qF;replace yD:=yD.trans (qF.mono yD.size);clear qF;have HA:Hid ((lo+18446744073709551616-dd)%18446744073709551616<18446744073709551616):=Nat.mod_lt _ (by decide);have HB:Hid (k-(if lo<dd then 1 else 0)≤22):=by rw[Hid];have h2:=HP.out.2.2.2.2.2;split <;> omega
 obtain⟨a0,ZD⟩:∃ n,(lo+18446744073709551616-dd)%18446744073709551616=n:=⟨_,rfl⟩
 obtain⟨b0,oG⟩:∃ n,k-(if lo<dd then 1 else 0)=n:=⟨_,rfl⟩
 exact je1):P:=h
theorem jad{P:Prop}(h:P:=by
 rintro e w13 ⟨mm,rfl,fm,sy⟩
 replace zR:=zR.below sy;replace zN:=zN.below sy;replace zM:=zM.below sy;replace yD:=yD.trans (sy.mono yD.size);clear sy;clear zy
 refine hK.out _ _ (fun _=>?_) (fun zy=>?_)
 ·exact jd3
 clear hK K;replace zy:=zy (by decide)
 try simp only[Act.put,zz1,zz2,zz3,zz4,zz5,zz6]
 refine To 4 rfl fun K hK=>?_
 go_simp
 refine(rY fm _).mono ?_
 rintro e w14 ⟨⟨fl,rfl⟩,ux⟩
 replace zR:=zR.below ux;replace zN:=zN.below ux;replace zM:=zM.below ux;replace yD:=yD.trans (ux.mono yD.size);clear ux;clear zy
 refine hK.out _ _ (fun _=>?_) (fun zy=>?_)
 ·exact jd3
 clear hK K;replace zy:=zy (by decide)
 try simp only[Act.put,zz1,zz2,zz3,zz4,zz5,zz6]
 refine To 6 rfl fun K hK=>?_
 rw[if_pos (by rfl)]
 refine aG _ _ _ _ _ rfl (by simp) _ _ rfl rfl fun fq w15 hw15=>?_
 replace zR:=zR.or hw15;replace zN:=zN.or hw15;replace zM:=zM.or hw15;replace yD:=wT yD hw15;clear hw15;clear zy
 refine hK.out _ _ (fun _=>?_) (fun zy=>?_)
 ·exact jd3
 clear hK K;replace zy:=zy (by decide)
 try simp only[Act.put,zz1,zz2,zz3,zz4,zz5,zz6]
 refine To 7 rfl fun K hK=>?_
 rw[if_pos (by rfl)]
 refine je _ _ _ rfl (by kernel_rfl) (by kernel_rfl) _ rfl fun dd w16 QQ hw16=>?_
 replace zR:=zR.or hw16;replace zN:=zN.or hw16;replace zM:=zM.or hw16;replace yD:=wT yD hw16;clear hw16;clear zy
 refine hK.out _ _ (fun _=>?_) (fun zy=>?_)
 ·exact jd3
 clear hK K;replace zy:=zy (by decide)
 try simp only[Act.put,zz1,zz2,zz3,zz4,zz5,zz6]
 refine To 8 rfl fun K hK=>?_
 go_simp
 refine(qR lo k 0 0 dd HM.out.2 QQ (by have h2:=HP.out.2.2.2.2.2;omega) _).mono ?_
 rintro e w17 ⟨rfl,qF⟩
 replace zR:=zR.below qF;replace zN:=zN.below qF;replace zM:=zM.below qF;replace yD:=yD.trans (qF.mono yD.size);clear qF;have HA:Hid ((lo+dd)%18446744073709551616<18446744073709551616):=Nat.mod_lt _ (by decide);have HB:Hid (k+(lo+dd)/18446744073709551616≤22):=by rw[Hid];have h1:=HM.out.2;have h2:=HP.out.2.2.2.2.2;omega
 obtain⟨a0,ZD⟩:∃ n,(lo+dd)%18446744073709551616=n:=⟨_,rfl⟩
 obtain⟨b0,oG⟩:∃ n,k+(lo+dd)/18446744073709551616=n:=⟨_,rfl⟩
 exact je1):P:=h
theorem jat{P:Prop}(h:P:=by
 have I9:Hid (18446744073709551616<a+18446744073709551616*b):=Yg HP.out.1 (of_decide_eq_true nw.out.symm);clear nw;have d0:=hR.cell 0 (v:=.int .u64 (a:Int)) rfl;have d1:=hR.cell 1 (v:=.int .u64 (b:Int)) rfl;have d2:=hR.cell 2 (v:=.int .u64 0) rfl;have d3:=hR.cell 3 (v:=.int .u64 0) rfl;have LO:=Hh (fun w=>lT a b 0 0 1 (by have h1:=kB.out.2;omega) (by have h1:=I9.out;have h2:=kB.out.1;omega) w);go_wp2_with fail
 refine(LO.out _).mono ?_
 rintro e w23 ⟨rfl,pX⟩
 have Z9:Hid ((a+18446744073709551616-1)%18446744073709551616<18446744073709551616∧b-(if a<1 then 1 else 0)≤22∧(a+18446744073709551616-1)%18446744073709551616+18446744073709551616*(b-(if a<1 then 1 else 0))+1=a+18446744073709551616*b):=by
  have h1:=I9.out;have h2:=kB.out.1;have h3:=kB.out.2;rw[Hid]
  split <;> omega
 obtain⟨a2,ii⟩:∃ n,(a+18446744073709551616-1)%18446744073709551616=n:=⟨_,rfl⟩
 obtain⟨b2,zG⟩:∃ n,b-(if a<1 then 1 else 0)=n:=⟨_,rfl⟩
 rw[ii,zG]at Z9;rw[ii,zG];clear ii zG LO I9 d0 d1 d2 d3;replace hG:=hG.below pX;replace hR:=hR.below pX;replace hb:=hb.trans (pX.mono hb.size);clear pX;go_wp2_with (with_reducible refine zx ?_)
 refine zv rfl _ _ _ rfl rfl R (zO [a2,b2,0,0]) rfl rfl _ _ hR vt rfl (vz _) fun w24 hR24 hg24=>?_
 have W9:=hG.grown hg24 (by intro hc;injection hc with hc;have:=ZA.out;omega);have cY:=hb.grown hg24 hb.size (by rintro q ⟨⟩;have:=ZA.out;omega);clear hG hR hb hg24;go_wp2_with fail
 go_roundw
 case rel=>exact⟨a2,b2,⟨Z9.out.1,Z9.out.2.1⟩,W9,hR24,cY⟩
 case measure=>rw[Lr.out,rN hR24];have h1:=Z9.out.2.2;omega):P:=h
theorem jaL{P:Prop}(h:P:=by exact⟨hR.cell 0 rfl,hR.cell 1 rfl,hR.cell 2 rfl,hR.cell 3 rfl,hG.cell 0 rfl,hG.cell 1 rfl,hG.cell 2 rfl,hG.cell 3 rfl⟩):P:=h
theorem jaO{P:Prop}(h:P:=by
 clear nw;have RA:=Hh (fun w=>qR a b 0 0 1 ie.out.1 (by omega) (by have h1:=ie.out.2.1;omega) w)
 simp only[Bool.not_false]
 go_wp2_with fail
 refine(RA.out _).mono ?_
 rintro e w23 ⟨rfl,pX⟩
 rw[dC.out.1,dC.out.2];replace hG:=hG.below pX;replace hR:=hR.below pX;replace hb:=hb.trans (pX.mono hb.size);clear pX RA d0 d1 d2 d3;go_wp2_with (with_reducible refine zx ?_)
 refine zv rfl _ _ _ rfl rfl R (zO [a2,b2,0,0]) rfl rfl _ _ hR vt rfl (vz _) fun w24 hR24 hg24=>?_
 have W9:=hG.grown hg24 (by intro hc;injection hc with hc;have:=ZA.out;omega);have cY:=hb.grown hg24 hb.size (by rintro q ⟨⟩;have:=ZA.out;omega);clear hG hR hb hg24;go_wp2_with fail
 go_roundw
 case rel=>exact⟨a2,b2,ie.out.2.2.1,P7,W9,hR24,cY⟩
 case measure=>rw[Lr.out,rN hR24];have h1:=ie.out.2.2.2.2;have h2:=U5.out;omega):P:=h
theorem ja2{P:Prop}(h:P:=by
 have F:=Hh (rY (x:=[lo,k,0,0]) rfl wr);have sU:=Hh yu;go_wp2_with fail
 refine F.out.mono ?_
 rintro e w8 ⟨⟨fl,rfl⟩,qU⟩
 have xJ:=hG.below qU;have JP:=hR.below qU;have sP:=hb.trans (qU.mono hb.size);clear F d0 d1 d2 d3 hG hR hb qU;go_wp2_with (with_reducible refine rP ?_)
 refine tz rfl _ _ _ _ _ rfl (by simp) _ _ rfl rfl fun s2 w9 hw9=>?_
 have qp:=xJ.or hw9;have Wa:=JP.or hw9;have mg:=wT sP hw9;clear xJ JP sP hw9;go_wp2_with fail
 go_roundw
 case rel=>exact⟨j+1,s2,by go_num,by have:=sU.out;omega,rfl,qp,Wa,mg⟩
 case measure=>have:=sU.out;simp[intOf];omega):P:=h
theorem jb4{P:Prop}(h:P:=by
 have h1:=HM.out.2;have h2:=HP.out.2.2.2.2.2;have e:num [lo,k,0,0]=lo+18446744073709551616*(k+18446744073709551616*(0+18446744073709551616*(0+18446744073709551616*0))):=rfl
 omega):P:=h
theorem jc5{P:Prop}(h:P:=by
 have h1:=Nat.le_of_not_lt (of_decide_eq_false nw.out.symm);rw[← ie.out.2.2.2.2]at h1
 exact h1):P:=h
theorem jda{P:Prop}(h:P:=by
 rw[HFR.out]at d0;clear nw
 simp only[Bool.not_true]
 go_wp2_with fail
 go_ret
 exact⟨rfl,hb⟩):P:=h
theorem jde{P:Prop}(h:P:=by
 rw[IntKind.wrap_u64]
 exact⟨((m:Int)*2%18446744073709551616).toNat,by omega,by omega⟩):P:=h
theorem jd3{P:Prop}(h:P:=by exact⟨zN.cell 0 rfl,zN.cell 1 rfl,zN.cell 2 rfl,zN.cell 3 rfl,zM.cell 0 rfl,zM.cell 1 rfl,zM.cell 2 rfl,zM.cell 3 rfl,zR.cell 0 rfl,zR.cell 1 rfl,zR.cell 2 rfl,zR.cell 3 rfl⟩):P:=h
theorem jee{P:Prop}(h:P:=by
 clear hK K;replace zy:=zy (by decide)
 try simp only[Act.put,zz1,zz2,zz3,zz4,zz5,zz6]
 refine To 9 rfl fun K hK=>?_
 rw[if_pos (by rfl)]
 refine zh _ _ _ rfl R (zO [a0,b0,0,0]) rfl rfl _ _ zN vt rfl (vz _) fun w18 hR18 hg18=>?_
 refine Kz hK ?_
 clear hK K
 refine Wd ?_
 clear zy;have mY:=zR.grown hg18 (by intro hc;injection hc with hc;have:=ZA.out;omega);have WL:=yD.grown hg18 yD.size (by rintro q ⟨⟩;have:=ZA.out;omega);clear zR zN zM yD hg18;go_wp2_with fail
 go_meet
 exact⟨a0,b0,HA.out,HB.out,mY,hR18,WL⟩):P:=h
theorem je1{P:Prop}(h:P:=by
 rw[ZD]at HA;rw[oG]at HB;rw[ZD,oG];clear ZD oG QQ Mi;clear zy
 refine hK.out _ _ (fun _=>?_) (fun zy=>?_)
 ·exact jd3
 exact jee):P:=h
theorem jfx{P:Prop}(h:P:=by have y0:w11.cell? ⟨Z,0,none⟩=some (.int .u64 (z0:Int)):=iW.cell 0 rfl;have y1:w11.cell? ⟨Z,1,none⟩=some (.int .u64 (z1:Int)):=iW.cell 1 rfl;have y2:w11.cell? ⟨Z,2,none⟩=some (.int .u64 (z2:Int)):=iW.cell 2 rfl;have y3:w11.cell? ⟨Z,3,none⟩=some (.int .u64 (z3:Int)):=iW.cell 3 rfl;exact And.intro y0 (And.intro y1 (And.intro y2 y3))):P:=h
theorem jfE{P:Prop}(h:P:=by have d0:wr.cell? ⟨R,0,none⟩=some (.int .u64 (lo:Int)):=hR.cell 0 rfl;have d1:wr.cell? ⟨R,1,none⟩=some (.int .u64 (k:Int)):=hR.cell 1 rfl;have d2:wr.cell? ⟨R,2,none⟩=some (.int .u64 0):=hR.cell 2 rfl;have d3:wr.cell? ⟨R,3,none⟩=some (.int .u64 0):=hR.cell 3 rfl;exact And.intro d0 (And.intro d1 (And.intro d2 d3))):P:=h
theorem jfJ{P:Prop}(h:P:=by have HP:=Hh (And.intro ae (And.intro ZT (And.intro hc (And.intro hf (And.intro lA Pd)))));have ZJ:=Blk.new w 211 #[.int .u64 0,.int .u64 0,.int .u64 0,.int .u64 0];have xo:=zo w (.cells #[.int .u64 0,.int .u64 0,.int .u64 0,.int .u64 0] 211);exact And.intro HP (And.intro ZJ xo)):P:=h
theorem jgf{P:Prop}(h:P:=by have g0:w11.cell? ⟨w.heap.size,0,none⟩=some (.int .u64 0):=vO.cell 0 rfl;have g1:w11.cell? ⟨w.heap.size,1,none⟩=some (.int .u64 0):=vO.cell 1 rfl;exact And.intro g0 g1):P:=h
theorem jgE{P:Prop}(h:P:=by have d0:=hR.cell 0 (v:=.int .u64 (a:Int)) rfl;have d1:=hR.cell 1 (v:=.int .u64 (b:Int)) rfl;have d2:=hR.cell 2 (v:=.int .u64 0) rfl;have d3:=hR.cell 3 (v:=.int .u64 0) rfl;exact And.intro d0 (And.intro d1 (And.intro d2 d3))):P:=h
def nk (p:Nat):Bool:=LI (GF p)&&LI (Fw p)&&fX (floatOfInt .f64 (p:Int))&&decide (1≤p)&&decide (p<1000)
def bq (w:World) (R:Nat):Nat :=
 (match w.cell? ⟨R,0,none⟩ with | some (.int _ n)=>n.toNat | _=>0)+18446744073709551616*(match w.cell? ⟨R,1,none⟩ with | some (.int _ n)=>n.toNat | _=>0)
theorem rN {w:World}{R a b:Nat}{t:TypeId}(h:Blk w R t (zO [a,b,0,0])):bq w R=a+18446744073709551616*b:=by
 have h0:w.cell? ⟨R,0,none⟩=some (.int .u64 (a:Int)):=h.cell 0 rfl;have h1:w.cell? ⟨R,1,none⟩=some (.int .u64 (b:Int)):=h.cell 1 rfl;rw[bq,h0,h1]
 simp
theorem Z7 (a b:Nat):num [a,b,0,0]=a+18446744073709551616*b:=by simp[num]
theorem bH (p:Nat):num [0,0,p,0]=p*18446744073709551616 ^ 2:=by simp[num];omega
theorem bI (p:Nat):num [0,0,0,p]=p*18446744073709551616 ^ 3:=by simp[num];omega
theorem U4 {a b:Nat}(ha:a<18446744073709551616) (hb:b≤33):W64 [a,b,0,0]:=by
 intro x hx
 simp at hx
 omega
theorem be {p:Nat}(h:p<1000):W64 [0,0,p,0]:=by
 intro x hx
 simp at hx
 omega
theorem bf {p:Nat}(h:p<1000):W64 [0,0,0,p]:=by
 intro x hx
 simp at hx
 omega
theorem lS {x y:List Nat}(hx:x.length=4) (hy:y.length=4) (UJ:W64 x) (hyw:W64 y) (w:World) :
 Calls Tryz.prog 160 #[.agg (zO x),.agg (zO y)] w fun e w'=>∃ bl,e=.returned (.bool bl)∧Hid (bl=decide (num x<num y))∧Below w.heap.size w w' :=
 (eg hx hy UJ hyw w).mono fun _ _ h=>⟨_,h.1,rfl,h.2⟩
theorem cQ (p c:Nat) (hp:nk p=true) (hc:c<18446744073709551616) (hf:mP 2 p c=true) (w:World) :
 Calls Tryz.prog 128 #[.int .u64 (p:Int),.int .i64 2] w fun e w'=>e=.returned (.int .u64 (c:Int))∧Below w.heap.size w w':=by
 unfold nk at hp
 simp only[Bool.and_eq_true,decide_eq_true_eq]at hp
 obtain⟨⟨⟨⟨dI,_⟩,_⟩,ae⟩,ZT⟩:=hp;obtain⟨f,g,k,e1,e2,e3,lA,Pd⟩:=iB dI;have SQ:=Hh (fun w=>bG (floatOfInt .f64 (p:Int)) f e1 w);have FL:=Hh (fun w=>dw f g e2 w);have CV:=fun w=>run_convert_float_int (P:=Tryz.prog) w 198 22 .f64 .u64 g (k:Int) (by kernel_rfl) (by kernel_rfl) e3
 obtain⟨HP,ZJ,xo⟩:=jfJ;clear dI ae ZT e1 e2 e3 lA Pd hc hf;go_enter Tryz.func128,Tryz.ntmps128
 go_wp2_with (with_reducible refine zx ?_)
 refine zj rfl _ _ _ rfl rfl w.heap.size 2 (.int .u64 (p:Int)) rfl rfl _ _ ZJ tm (by simp) rfl fun w2 hG sv=>?_
 have hb:=xo.grown sv xo.size (by rintro q ⟨⟩;exact Nat.le_refl _);replace hG:Blk w2 w.heap.size 211 (zO [0,0,p,0]):=hG;clear ZJ xo sv;go_wp2_with fail
 refine(SQ.out _).mono ?_
 rintro e w3 ⟨rfl,rfl⟩
 go_wp2_with fail
 refine(FL.out _).mono ?_
 rintro e w3 ⟨rfl,rfl⟩
 clear SQ FL;go_wp2_with (with_reducible refine rP ?_)
 refine tz rfl _ _ _ _ _ rfl (by simp) _ _ rfl rfl fun r1 w4 JY=>?_
 have yF:=hG.or JY;have uR:=wT hb JY;go_wp2_with (with_reducible refine rP ?_)
 refine tz rfl _ _ _ _ _ rfl (by simp) _ _ rfl rfl fun r2 w5 hw5=>?_
 have wb:=yF.or hw5;have xS:=wT uR hw5;go_wp2_with (with_reducible refine eF ?_)
 refine jO rfl _ _ _ rfl (by kernel_rfl) (by kernel_rfl) _ rfl fun m w6 hm Wp=>?_
 have xq:=wb.or Wp;have wX:=wT xS Wp;clear hG hb yF uR wb xS JY hw5 Wp
 obtain⟨lo,Mi,Pe⟩:∃ n:Nat,IntKind.u64.wrap ((m:Int)*2)=(n:Int)∧n<18446744073709551616:=by
  exact jde
 have hR:=Blk.new w6 211 (zO [lo,k,0,0]);have wJ:=xq.alloc (.cells (zO [lo,k,0,0]) 211);have um:=wX.alloc wX.size (.cells (zO [lo,k,0,0]) 211);obtain⟨R,M8⟩:∃ R,w6.heap.size=R:=⟨_,rfl⟩
 have Dd:w.heap.size<R:=by rw[← M8];exact xq.lt
 rw[M8]at hR;have HRE:=Hh M8;have ZA:=Hh Dd;have HM:=Hh (And.intro hm Pe);clear xq wX M8 Dd hm Pe;go_wp2_with fail
 rw[HRE.out];go_loopw [9,37] (fun v9 v37 wr=>∃ (j s:Nat),v37=.int .i64 (j:Int)∧j≤1∧v9=.float .f64 s∧Blk wr w.heap.size 211 (zO [0,0,p,0])∧Blk wr R 211 (zO [lo,k,0,0])∧Below w.heap.size w wr) (fun _ v37 _=>(1-intOf v37).toNat)
 case atStart=>exact⟨0,_,rfl,by omega,rfl,wJ,hR,um⟩
 case round =>
 clear wJ hR um CV;obtain⟨j,s,rfl,QS,rfl,hG,hR,hb⟩:=hrel;obtain⟨d0,d1,d2,d3⟩:=jfE
 by_cases yu:(j:Int)<1
 ·exact ja2
 have JK:num [lo,k,0,0] ^ 2<18446744073709551616 ^ 4:=by
  refine qO (.inl rfl) ?_
  exact jb4
 have PW:=Hh (qQ (x:=[lo,k,0,0]) rfl (by have h1:=HM.out.2;have h2:=HP.out.2.2.2.2.2;intro a ha;simp at ha;omega) 2 (by omega) JK wr);clear JK;go_wp2_with fail
 refine PW.out.mono ?_
 rintro e w10 ⟨z,rfl,gL,kj,gM,rl⟩
 obtain⟨z0,z1,z2,z3,rfl⟩:=pC gL;rw[show zO [z0,z1,z2,z3]=#[.int .u64 (z0:Int),.int .u64 (z1:Int),.int .u64 (z2:Int),.int .u64 (z3:Int)] from rfl];obtain⟨w11,iY⟩:∃ w11,w10.alloc (.cells #[.int .u64 (z0:Int),.int .u64 (z1:Int),.int .u64 (z2:Int),.int .u64 (z3:Int)] 211)=w11:=⟨_,rfl⟩
 have vO:Blk w11 w.heap.size 211 (zO [0,0,p,0]):=by rw[← iY];exact(hG.below rl).alloc _
 have PJ:Blk w11 R 211 (zO [lo,k,0,0]):=by rw[← iY];exact(hR.below rl).alloc _
 have sP:Below w.heap.size w w11:=by rw[← iY];exact(hb.trans (rl.mono hb.size)).alloc (Nat.le_trans hb.size rl.size) _
 obtain⟨Z,IY⟩:∃ Z,w10.heap.size=Z:=⟨_,rfl⟩
 have iW:Blk w11 Z 211 (zO [z0,z1,z2,z3]):=by rw[← iY,← IY];exact Blk.new w10 211 _
 have Vw:=Hh (And.intro iY IY);have HZ:=Hh (And.intro kj gM);have LS:=Hh (eg (x:=[0,0,p,0]) (y:=[z0,z1,z2,z3]) rfl rfl (by have h2:=HP.out.2.1;intro a ha;simp at ha;omega) kj w11);obtain⟨bl,om⟩:∃ b,decide (num [0,0,p,0]<num [z0,z1,z2,z3])=b:=⟨_,rfl⟩
 rw[om]at LS;have lf:=Hh om;clear gL kj gM PW rl hG hR hb d0 d1 d2 d3 om iY IY;obtain⟨g0,g1⟩:=jgf;have g2:w11.cell? ⟨w.heap.size,2,none⟩=some (.int .u64 (p:Int)):=vO.cell 2 rfl;have g3:w11.cell? ⟨w.heap.size,3,none⟩=some (.int .u64 0):=vO.cell 3 rfl;obtain⟨y0,y1,y2,y3⟩:=jfx;go_upto_region 14 with fail
 rw[Vw.out.1,Vw.out.2];go_wp2_with fail
 refine LS.out.mono ?_
 rintro e w12 ⟨rfl,yD⟩
 have zR:=vO.below yD;have zN:=PJ.below yD;have zM:=iW.below yD;replace yD:=sP.trans (yD.mono sP.size);clear g0 g1 g2 g3 y0 y1 y2 y3 vO PJ iW LS sP;go_upto_if 49 with fail
 go_cut [] (fun wx=>∃ (a b:Nat),a<18446744073709551616∧b≤22∧Blk wx w.heap.size 211 (zO [0,0,p,0])∧Blk wx R 211 (zO [a,b,0,0])∧Below w.heap.size w wx)
 case first =>
  cases bl with
  | true =>
   replace zR:=zR.drew;replace zN:=zN.drew;replace zM:=zM.drew;replace yD:=yD.drew;go_upto_region 15 with fail
   refine zw 9 (fun wx=>wx.cell? ⟨R,0,none⟩=some (.int .u64 (lo:Int))∧wx.cell? ⟨R,1,none⟩=some (.int .u64 (k:Int))∧wx.cell? ⟨R,2,none⟩=some (.int .u64 0)∧wx.cell? ⟨R,3,none⟩=some (.int .u64 0)∧wx.cell? ⟨Z,0,none⟩=some (.int .u64 (z0:Int))∧wx.cell? ⟨Z,1,none⟩=some (.int .u64 (z1:Int))∧wx.cell? ⟨Z,2,none⟩=some (.int .u64 (z2:Int))∧wx.cell? ⟨Z,3,none⟩=some (.int .u64 (z3:Int))∧wx.cell? ⟨w.heap.size,0,none⟩=some (.int .u64 0)∧wx.cell? ⟨w.heap.size,1,none⟩=some (.int .u64 0)∧wx.cell? ⟨w.heap.size,2,none⟩=some (.int .u64 (p:Int))∧wx.cell? ⟨w.heap.size,3,none⟩=some (.int .u64 0)) (by kernel_rfl) (⟨zN.cell 0 rfl,zN.cell 1 rfl,zN.cell 2 rfl,zN.cell 3 rfl,zM.cell 0 rfl,zM.cell 1 rfl,zM.cell 2 rfl,zM.cell 3 rfl,zR.cell 0 rfl,zR.cell 1 rfl,zR.cell 2 rfl,zR.cell 3 rfl⟩) (fun zy=>?_)
   refine Tk 0 rfl zy ?_
   refine Tk 1 rfl zy ?_
   refine Tk 2 rfl zy ?_
   refine Tk 5 rfl zy ?_
   refine To 3 rfl fun K hK=>?_
   go_simp
   refine(lU (x:=[z0,z1,z2,z3]) (y:=[0,0,p,0]) rfl rfl _).mono ?_
   exact jac
  | false =>
  replace zR:=zR.drew;replace zN:=zN.drew;replace zM:=zM.drew;replace yD:=yD.drew;go_upto_region 16 with fail
  refine zw 9 (fun wx=>wx.cell? ⟨R,0,none⟩=some (.int .u64 (lo:Int))∧wx.cell? ⟨R,1,none⟩=some (.int .u64 (k:Int))∧wx.cell? ⟨R,2,none⟩=some (.int .u64 0)∧wx.cell? ⟨R,3,none⟩=some (.int .u64 0)∧wx.cell? ⟨Z,0,none⟩=some (.int .u64 (z0:Int))∧wx.cell? ⟨Z,1,none⟩=some (.int .u64 (z1:Int))∧wx.cell? ⟨Z,2,none⟩=some (.int .u64 (z2:Int))∧wx.cell? ⟨Z,3,none⟩=some (.int .u64 (z3:Int))∧wx.cell? ⟨w.heap.size,0,none⟩=some (.int .u64 0)∧wx.cell? ⟨w.heap.size,1,none⟩=some (.int .u64 0)∧wx.cell? ⟨w.heap.size,2,none⟩=some (.int .u64 (p:Int))∧wx.cell? ⟨w.heap.size,3,none⟩=some (.int .u64 0)) (by kernel_rfl) (⟨zN.cell 0 rfl,zN.cell 1 rfl,zN.cell 2 rfl,zN.cell 3 rfl,zM.cell 0 rfl,zM.cell 1 rfl,zM.cell 2 rfl,zM.cell 3 rfl,zR.cell 0 rfl,zR.cell 1 rfl,zR.cell 2 rfl,zR.cell 3 rfl⟩) (fun zy=>?_)
  refine Tk 0 rfl zy ?_
  refine Tk 1 rfl zy ?_
  refine Tk 2 rfl zy ?_
  refine Tk 5 rfl zy ?_
  refine To 3 rfl fun K hK=>?_
  go_simp
  refine(lU (x:=[0,0,p,0]) (y:=[z0,z1,z2,z3]) rfl rfl _).mono ?_
  exact jad
 case rest =>
 clear zR zN zM yD lf HZ HM Vw;obtain⟨a,b,ha,zG,hG,hR,hb⟩:=hcut;have kB:=Hh (And.intro ha zG);clear ha zG;go_wp2_with fail
 go_loopw [72] (fun _ wr=>∃ (a b:Nat),Hid (a<18446744073709551616∧b≤22)∧Blk wr w.heap.size 211 (zO [0,0,p,0])∧Blk wr R 211 (zO [a,b,0,0])∧Below w.heap.size w wr) (fun _ wr=>bq wr R)
 case atStart=>exact⟨a,b,kB,hG,hR,hb⟩
 case round =>
 clear kB hG hR hb;clear a b;obtain⟨a,b,kB,hG,hR,hb⟩:=hrel;have Lr:=Hh (rN hR)
 have aU:Hid (a<18446744073709551616∧b≤33∧num [a,b,0,0] ^ 2<18446744073709551616 ^ 4):=by
  refine⟨kB.out.1,Nat.le_trans kB.out.2 (by omega), ?_⟩
  rw[Z7]
  refine qO (.inl rfl) ?_
  have h1:=kB.out.1;have h2:=kB.out.2
  omega
 replace hG:=hG.drew;replace hR:=hR.drew;replace hb:=hb.drew;go_upto_region 17 with fail
 refine zw 4 (fun wx=>wx.cell? ⟨R,0,none⟩=some (.int .u64 (a:Int))∧wx.cell? ⟨R,1,none⟩=some (.int .u64 (b:Int))∧wx.cell? ⟨R,2,none⟩=some (.int .u64 0)∧wx.cell? ⟨R,3,none⟩=some (.int .u64 0)∧wx.cell? ⟨w.heap.size,0,none⟩=some (.int .u64 0)∧wx.cell? ⟨w.heap.size,1,none⟩=some (.int .u64 0)∧wx.cell? ⟨w.heap.size,2,none⟩=some (.int .u64 (p:Int))∧wx.cell? ⟨w.heap.size,3,none⟩=some (.int .u64 0)) (by kernel_rfl) (⟨hR.cell 0 rfl,hR.cell 1 rfl,hR.cell 2 rfl,hR.cell 3 rfl,hG.cell 0 rfl,hG.cell 1 rfl,hG.cell 2 rfl,hG.cell 3 rfl⟩) (fun zy=>?_)
 refine Tk 0 rfl zy ?_
 refine Tk 1 rfl zy ?_
 refine Tk 2 rfl zy ?_
 refine To 3 rfl fun K hK=>?_
 go_simp
 refine(qQ (x:=[a,b,0,0]) rfl (U4 aU.out.1 aU.out.2.1) 2 (by omega) aU.out.2.2 _).mono ?_
 rintro e w21 ⟨z,rfl,gL,kj,gM,o7⟩
 replace hG:=hG.below o7;replace hR:=hR.below o7;replace hb:=hb.trans (o7.mono hb.size);clear o7;rw[Z7]at gM;obtain⟨z0,z1,z2,z3,rfl⟩:=pC gL;have WV:=Hh (And.intro kj gM);clear gL kj gM;clear zy
 refine hK.out _ _ (fun _=>?_) (fun zy=>?_)
 ·exact jaL
 clear hK K;replace zy:=zy (by decide)
 try simp only[Act.put,zz1,zz2,zz3,zz4,zz5,zz6]
 refine To 4 rfl fun K hK=>?_
 go_simp
 refine(lS (x:=[0,0,p,0]) (y:=[z0,z1,z2,z3]) rfl rfl (be HP.out.2.1) WV.out.1 _).mono ?_
 rintro e w22 ⟨bl,rfl,lf,qh⟩
 replace hG:=hG.below qh;replace hR:=hR.below qh;replace hb:=hb.trans (qh.mono hb.size);clear qh
 refine Kz hK ?_
 clear hK K
 refine Wd ?_
 clear zy;have nw:Hid (bl=decide (p*18446744073709551616 ^ 2<(a+18446744073709551616*b) ^ 2)):=by rw[Hid,lf.out,bH,WV.out.2]
 clear lf WV aU
 cases bl with
 | true =>
  exact jat
 | false =>
 have gh:Hid ((a+18446744073709551616*b) ^ 2≤p*18446744073709551616 ^ 2):=Nat.le_of_not_lt (of_decide_eq_false nw.out.symm);have Ss:Hid (a<18446744073709551616):=kB.out.1;clear nw Lr kB;go_wp2_with fail
 go_loopw [81] (fun _ wr=>∃ (a b:Nat),Hid (a<18446744073709551616)∧Hid ((a+18446744073709551616*b) ^ 2≤p*18446744073709551616 ^ 2)∧Blk wr w.heap.size 211 (zO [0,0,p,0])∧Blk wr R 211 (zO [a,b,0,0])∧Below w.heap.size w wr) (fun _ wr=>32*18446744073709551616-bq wr R)
 case atStart=>exact⟨a,b,Ss,gh,hG,hR,hb⟩
 case round =>
 clear Ss gh hG hR hb;obtain⟨a,b,Ss,gh,hG,hR,hb⟩:=hrel;have Lr:=Hh (rN hR);have U5:Hid (a+18446744073709551616*b<32*18446744073709551616):=Yf (.inl rfl) HP.out.2.1 gh.out
 have ie:Hid (a<18446744073709551616∧b≤31∧(a+1)%18446744073709551616<18446744073709551616∧b+(a+1)/18446744073709551616≤32∧(a+1)%18446744073709551616+18446744073709551616*(b+(a+1)/18446744073709551616)=a+18446744073709551616*b+1):=by
  have h1:=Ss.out;have h2:=U5.out;rw[Hid]
  omega
 obtain⟨a2,ii⟩:∃ n,(a+1)%18446744073709551616=n:=⟨_,rfl⟩
 obtain⟨b2,zG⟩:∃ n,b+(a+1)/18446744073709551616=n:=⟨_,rfl⟩
 have dC:=Hh (And.intro ii zG);rw[ii,zG]at ie;clear ii zG
 have aU:Hid (a2<18446744073709551616∧b2≤33∧num [a2,b2,0,0] ^ 2<18446744073709551616 ^ 4):=by
  refine⟨ie.out.2.2.1,Nat.le_trans ie.out.2.2.2.1 (by omega), ?_⟩
  rw[Z7]
  refine qO (.inl rfl) ?_
  have h1:=ie.out.2.2.1;have h2:=ie.out.2.2.2.1
  omega
 replace hG:=hG.drew;replace hR:=hR.drew;replace hb:=hb.drew;go_upto_region 19 with fail
 refine zw 6 (fun wx=>wx.cell? ⟨R,0,none⟩=some (.int .u64 (a:Int))∧wx.cell? ⟨R,1,none⟩=some (.int .u64 (b:Int))∧wx.cell? ⟨R,2,none⟩=some (.int .u64 0)∧wx.cell? ⟨R,3,none⟩=some (.int .u64 0)∧wx.cell? ⟨w.heap.size,0,none⟩=some (.int .u64 0)∧wx.cell? ⟨w.heap.size,1,none⟩=some (.int .u64 0)∧wx.cell? ⟨w.heap.size,2,none⟩=some (.int .u64 (p:Int))∧wx.cell? ⟨w.heap.size,3,none⟩=some (.int .u64 0)) (by kernel_rfl) (⟨hR.cell 0 rfl,hR.cell 1 rfl,hR.cell 2 rfl,hR.cell 3 rfl,hG.cell 0 rfl,hG.cell 1 rfl,hG.cell 2 rfl,hG.cell 3 rfl⟩) (fun zy=>?_)
 refine Tk 0 rfl zy ?_
 refine Tk 1 rfl zy ?_
 refine Tk 3 rfl zy ?_
 refine To 2 rfl fun K hK=>?_
 go_simp
 refine(qR a b 0 0 1 ie.out.1 (by omega) (by have h1:=ie.out.2.1;omega) _).mono ?_
 rintro e w20 ⟨rfl,aM⟩
 replace hG:=hG.below aM;replace hR:=hR.below aM;replace hb:=hb.trans (aM.mono hb.size);clear aM;rw[dC.out.1,dC.out.2];clear zy
 refine hK.out _ _ (fun _=>?_) (fun zy=>?_)
 ·exact jaL
 clear hK K;replace zy:=zy (by decide)
 try simp only[Act.put,zz1,zz2,zz3,zz4,zz5,zz6]
 refine To 4 rfl fun K hK=>?_
 go_simp
 refine(qQ (x:=[a2,b2,0,0]) rfl (U4 aU.out.1 aU.out.2.1) 2 (by omega) aU.out.2.2 _).mono ?_
 rintro e w21 ⟨z,rfl,gL,kj,gM,o7⟩
 replace hG:=hG.below o7;replace hR:=hR.below o7;replace hb:=hb.trans (o7.mono hb.size);clear o7;rw[Z7]at gM;obtain⟨z0,z1,z2,z3,rfl⟩:=pC gL;have WV:=Hh (And.intro kj gM);clear gL kj gM;clear zy
 refine hK.out _ _ (fun _=>?_) (fun zy=>?_)
 ·exact jaL
 clear hK K;replace zy:=zy (by decide)
 try simp only[Act.put,zz1,zz2,zz3,zz4,zz5,zz6]
 refine To 5 rfl fun K hK=>?_
 go_simp
 refine(lS (x:=[0,0,p,0]) (y:=[z0,z1,z2,z3]) rfl rfl (be HP.out.2.1) WV.out.1 _).mono ?_
 rintro e w22 ⟨bl,rfl,lf,qh⟩
 replace hG:=hG.below qh;replace hR:=hR.below qh;replace hb:=hb.trans (qh.mono hb.size);clear qh;clear zy
 refine hK.out _ _ (fun _=>?_) (fun zy=>?_)
 ·exact jaL
 clear hK K;replace zy:=zy (by decide)
 try simp only[Act.put,zz1,zz2,zz3,zz4,zz5,zz6]
 refine To 6 rfl fun K hK=>?_
 go_simp
 refine Kz hK ?_
 clear hK K
 refine Wd ?_
 clear zy;have nw:Hid (bl=decide (p*18446744073709551616 ^ 2<(a+18446744073709551616*b+1) ^ 2)):=by rw[Hid,lf.out,bH,WV.out.2,ie.out.2.2.2.2]
 clear lf WV aU;obtain⟨d0,d1,d2,d3⟩:=jgE
 cases bl with
 | true =>
  have HFR:Hid (a=c):=by
   have h1:=TZ (.inl rfl) HP.out.2.2.1 HP.out.2.2.2.1 gh.out (of_decide_eq_true nw.out.symm);have h2:=Ss.out;rw[Hid]
   omega
  exact jda
 | false =>
 have P7:Hid ((a2+18446744073709551616*b2) ^ 2≤p*18446744073709551616 ^ 2):=by
  exact jc5
 exact jaO
end Go.Proofs.YtliomcphdnppnaaGreatDoor
