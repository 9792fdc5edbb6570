/- squeezed. SHA-256: the fraction of a root of -/
import Derived.Test.YtkmlnjociijpgaaGreatDoorK16
import Derived.Deep.DeepCutAuto
import Derived.Deep.CutBlock
set_option linter.unusedVariables false
set_option linter.unusedSimpArgs false
set_option maxRecDepth 100000
set_option maxHeartbeats 6400000
namespace Go.Proofs.YtkmlnjociijpgaaGreatDoor
open Go.RowKit
theorem jaf{P:Prop}(h:P:=by
 rintro e w13 ⟨mm,rfl,SN,sI⟩
 replace zU:=zU.below sI;replace zR:=zR.below sI;replace zQ:=zQ.below sI;replace yt:=yt.trans (sI.mono yt.size);clear sI;clear zy
 refine hK.out _ _ (fun _=>?_) (fun zy=>?_)
 ·exact jdH
 clear hK K;replace zy:=zy (by decide)
 try simp only[Act.put,zz1,zz2,zz3,zz4,zz5,zz6]
 refine To 4 rfl fun K hK=>?_
 go_simp
 refine(sU SN _).mono ?_
 rintro e w14 ⟨⟨fl,rfl⟩,hb14⟩
 replace zU:=zU.below hb14;replace zR:=zR.below hb14;replace zQ:=zQ.below hb14;replace yt:=yt.trans (hb14.mono yt.size);clear hb14;clear zy
 refine hK.out _ _ (fun _=>?_) (fun zy=>?_)
 ·exact jdH
 clear hK K;replace zy:=zy (by decide)
 try simp only[Act.put,zz1,zz2,zz3,zz4,zz5,zz6]
 refine To 6 rfl fun K hK=>?_
 rw[if_pos (by rfl)]
 refine bx _ _ _ _ _ rfl (by simp) _ _ rfl rfl fun fq w15 hw15=>?_
 replace zU:=zU.or hw15;replace zR:=zR.or hw15;replace zQ:=zQ.or hw15;replace yt:=xH yt hw15;clear hw15;clear zy
 refine hK.out _ _ (fun _=>?_) (fun zy=>?_)
 ·exact jdH
 clear hK K;replace zy:=zy (by decide)
 try simp only[Act.put,zz1,zz2,zz3,zz4,zz5,zz6]
 refine To 7 rfl fun K hK=>?_
 rw[if_pos (by rfl)]
 refine lC _ _ _ rfl (by kernel_rfl) (by kernel_rfl) _ rfl fun dd w16 hdd hw16=>?_
 replace zU:=zU.or hw16;replace zR:=zR.or hw16;replace zQ:=zQ.or hw16;replace yt:=xH yt hw16;clear hw16;clear zy
 refine hK.out _ _ (fun _=>?_) (fun zy=>?_)
 ·exact jdH
 clear hK K;replace zy:=zy (by decide)
 try simp only[Act.put,zz1,zz2,zz3,zz4,zz5,zz6]
 refine To 8 rfl fun K hK=>?_
 go_simp
 refine(nL lo k 0 0 dd (by have h2:=HP.out.2.2.2.2.2;omega) HP.out.2.2.2.2.1 _).mono ?_
 rintro e w17 ⟨rfl,rK⟩
 replace zU:=zU.below rK;replace zR:=zR.below rK;replace zQ:=zQ.below rK;replace yt:=yt.trans (rK.mono yt.size);clear rK;have HA:Hid ((lo+18446744073709551616-dd)%18446744073709551616<18446744073709551616):=Nat.mod_lt _ (by decide);have HB:Hid (k-(if lo<dd then 1 else 0)≤22):=by rw[Hid];have h2:=HP.out.2.2.2.2.2;split <;> omega
 obtain⟨a0,cT⟩:∃ n,(lo+18446744073709551616-dd)%18446744073709551616=n:=⟨_,rfl⟩
 obtain⟨b0,sz⟩:∃ n,k-(if lo<dd then 1 else 0)=n:=⟨_,rfl⟩
 exact je5):P:=h
theorem jag{P:Prop}(h:P:=by
 rintro e w13 ⟨mm,rfl,SN,sI⟩
 replace zU:=zU.below sI;replace zR:=zR.below sI;replace zQ:=zQ.below sI;replace yt:=yt.trans (sI.mono yt.size);clear sI;clear zy
 refine hK.out _ _ (fun _=>?_) (fun zy=>?_)
 ·exact jdH
 clear hK K;replace zy:=zy (by decide)
 try simp only[Act.put,zz1,zz2,zz3,zz4,zz5,zz6]
 refine To 4 rfl fun K hK=>?_
 go_simp
 refine(sU SN _).mono ?_
 rintro e w14 ⟨⟨fl,rfl⟩,hb14⟩
 replace zU:=zU.below hb14;replace zR:=zR.below hb14;replace zQ:=zQ.below hb14;replace yt:=yt.trans (hb14.mono yt.size);clear hb14;clear zy
 refine hK.out _ _ (fun _=>?_) (fun zy=>?_)
 ·exact jdH
 clear hK K;replace zy:=zy (by decide)
 try simp only[Act.put,zz1,zz2,zz3,zz4,zz5,zz6]
 refine To 6 rfl fun K hK=>?_
 rw[if_pos (by rfl)]
 refine bx _ _ _ _ _ rfl (by simp) _ _ rfl rfl fun fq w15 hw15=>?_
 replace zU:=zU.or hw15;replace zR:=zR.or hw15;replace zQ:=zQ.or hw15;replace yt:=xH yt hw15;clear hw15;clear zy
 refine hK.out _ _ (fun _=>?_) (fun zy=>?_)
 ·exact jdH
 clear hK K;replace zy:=zy (by decide)
 try simp only[Act.put,zz1,zz2,zz3,zz4,zz5,zz6]
 refine To 7 rfl fun K hK=>?_
 rw[if_pos (by rfl)]
 refine lC _ _ _ rfl (by kernel_rfl) (by kernel_rfl) _ rfl fun dd w16 hdd hw16=>?_
 replace zU:=zU.or hw16;replace zR:=zR.or hw16;replace zQ:=zQ.or hw16;replace yt:=xH yt hw16;clear hw16;clear zy
 refine hK.out _ _ (fun _=>?_) (fun zy=>?_)
 ·exact jdH
 clear hK K;replace zy:=zy (by decide)
 try simp only[Act.put,zz1,zz2,zz3,zz4,zz5,zz6]
 refine To 8 rfl fun K hK=>?_
 go_simp
 refine(rS lo k 0 0 dd HM.out.2 hdd (by have h2:=HP.out.2.2.2.2.2;omega) _).mono ?_
 rintro e w17 ⟨rfl,rK⟩
 replace zU:=zU.below rK;replace zR:=zR.below rK;replace zQ:=zQ.below rK;replace yt:=yt.trans (rK.mono yt.size);clear rK;have HA:Hid ((lo+dd)%18446744073709551616<18446744073709551616):=Nat.mod_lt _ (by decide);have HB:Hid (k+(lo+dd)/18446744073709551616≤22):=by rw[Hid];have h1:=HM.out.2;have h2:=HP.out.2.2.2.2.2;omega
 obtain⟨a0,cT⟩:∃ n,(lo+dd)%18446744073709551616=n:=⟨_,rfl⟩
 obtain⟨b0,sz⟩:∃ n,k+(lo+dd)/18446744073709551616=n:=⟨_,rfl⟩
 exact je5):P:=h
theorem jan{P:Prop}(h:P:=by
 have ak:Hid (18446744073709551616<a+18446744073709551616*b):=Zx HP.out.1 (of_decide_eq_true pM.out.symm);clear pM;have d0:=hR.cell 0 (v:=.int .u64 (a:Int)) rfl;have d1:=hR.cell 1 (v:=.int .u64 (b:Int)) rfl;have d2:=hR.cell 2 (v:=.int .u64 0) rfl;have d3:=hR.cell 3 (v:=.int .u64 0) rfl;have LO:=Hh (fun w=>nL a b 0 0 1 (by have h1:=qQ.out.2;omega) (by have h1:=ak.out;have h2:=qQ.out.1;omega) w);go_wp2_with fail
 refine(LO.out _).mono ?_
 rintro e w23 ⟨rfl,qh⟩
 have Se:Hid ((a+18446744073709551616-1)%18446744073709551616<18446744073709551616∧b-(if a<1 then 1 else 0)≤22∧(a+18446744073709551616-1)%18446744073709551616+18446744073709551616*(b-(if a<1 then 1 else 0))+1=a+18446744073709551616*b):=by
  have h1:=ak.out;have h2:=qQ.out.1;have h3:=qQ.out.2;rw[Hid]
  split <;> omega
 obtain⟨a2,jE⟩:∃ n,(a+18446744073709551616-1)%18446744073709551616=n:=⟨_,rfl⟩
 obtain⟨b2,zD⟩:∃ n,b-(if a<1 then 1 else 0)=n:=⟨_,rfl⟩
 rw[jE,zD]at Se;rw[jE,zD];clear jE zD LO ak d0 d1 d2 d3;replace hG:=hG.below qh;replace hR:=hR.below qh;replace hb:=hb.trans (qh.mono hb.size);clear qh;go_wp2_with (with_reducible refine zx ?_)
 refine zm rfl _ _ _ rfl rfl R (zS [a2,b2,0,0]) rfl rfl _ _ hR wZ rfl (wj _) fun w24 hR24 hg24=>?_
 have Xq:=hG.grown hg24 (by intro hc;injection hc with hc;have:=aU.out;omega);have Xz:=hb.grown hg24 hb.size (by rintro q ⟨⟩;have:=aU.out;omega);clear hG hR hb hg24;go_wp2_with fail
 go_roundw
 case rel=>exact⟨a2,b2,⟨Se.out.1,Se.out.2.1⟩,Xq,hR24,Xz⟩
 case measure=>rw[OV.out,sB hR24];have h1:=Se.out.2.2;omega):P:=h
theorem jaC{P:Prop}(h:P:=by exact⟨hR.cell 0 rfl,hR.cell 1 rfl,hR.cell 2 rfl,hR.cell 3 rfl,hG.cell 0 rfl,hG.cell 1 rfl,hG.cell 2 rfl,hG.cell 3 rfl⟩):P:=h
theorem jaE{P:Prop}(h:P:=by
 clear pM;have RA:=Hh (fun w=>rS a b 0 0 1 lU.out.1 (by omega) (by have h1:=lU.out.2.1;omega) w)
 simp only[Bool.not_false]
 go_wp2_with fail
 refine(RA.out _).mono ?_
 rintro e w23 ⟨rfl,qh⟩
 rw[oP.out.1,oP.out.2];replace hG:=hG.below qh;replace hR:=hR.below qh;replace hb:=hb.trans (qh.mono hb.size);clear qh RA d0 d1 d2 d3;go_wp2_with (with_reducible refine zx ?_)
 refine zm rfl _ _ _ rfl rfl R (zS [a2,b2,0,0]) rfl rfl _ _ hR wZ rfl (wj _) fun w24 hR24 hg24=>?_
 have Xq:=hG.grown hg24 (by intro hc;injection hc with hc;have:=aU.out;omega);have Xz:=hb.grown hg24 hb.size (by rintro q ⟨⟩;have:=aU.out;omega);clear hG hR hb hg24;go_wp2_with fail
 go_roundw
 case rel=>exact⟨a2,b2,lU.out.2.2.1,iy,Xq,hR24,Xz⟩
 case measure=>rw[OV.out,sB hR24];have h1:=lU.out.2.2.2.2;have h2:=WK.out;omega):P:=h
theorem jaR{P:Prop}(h:P:=by
 have F:=Hh (sU (x:=[lo,k,0,0]) rfl wr);have uH:=Hh z9;go_wp2_with fail
 refine F.out.mono ?_
 rintro e w8 ⟨⟨fl,rfl⟩,uk⟩
 have cP:=hG.below uk;have WR:=hR.below uk;have pf:=hb.trans (uk.mono hb.size);clear F d0 d1 d2 d3 hG hR hb uk;go_wp2_with (with_reducible refine sD ?_)
 refine uW rfl _ _ _ _ _ rfl (by simp) _ _ rfl rfl fun s2 w9 hw9=>?_
 have YI:=cP.or hw9;have Oh:=WR.or hw9;have oV:=xH pf hw9;clear cP WR pf hw9;go_wp2_with fail
 go_roundw
 case rel=>exact⟨j+1,s2,by go_num,by have:=uH.out;omega,rfl,YI,Oh,oV⟩
 case measure=>have:=uH.out;simp[intOf];omega):P:=h
theorem jb5{P:Prop}(h:P:=by
 have h1:=HM.out.2;have h2:=HP.out.2.2.2.2.2;have e:num [lo,k,0,0]=lo+18446744073709551616*(k+18446744073709551616*(0+18446744073709551616*(0+18446744073709551616*0))):=rfl
 omega):P:=h
theorem jcT{P:Prop}(h:P:=by
 have h1:=Nat.le_of_not_lt (of_decide_eq_false pM.out.symm);rw[← lU.out.2.2.2.2]at h1
 exact h1):P:=h
theorem jc1{P:Prop}(h:P:=by
 rw[IntKind.wrap_u64]
 exact⟨((m:Int)*2%18446744073709551616).toNat,by omega,by omega⟩):P:=h
theorem jc2{P:Prop}(h:P:=by
 rw[Cp.out]at d0;clear pM
 simp only[Bool.not_true]
 go_wp2_with fail
 go_ret
 exact⟨rfl,hb⟩):P:=h
theorem jdH{P:Prop}(h:P:=by exact⟨zR.cell 0 rfl,zR.cell 1 rfl,zR.cell 2 rfl,zR.cell 3 rfl,zQ.cell 0 rfl,zQ.cell 1 rfl,zQ.cell 2 rfl,zQ.cell 3 rfl,zU.cell 0 rfl,zU.cell 1 rfl,zU.cell 2 rfl,zU.cell 3 rfl⟩):P:=h
theorem jdP{P:Prop}(h:P:=by
 clear hK K;replace zy:=zy (by decide)
 try simp only[Act.put,zz1,zz2,zz3,zz4,zz5,zz6]
 refine To 9 rfl fun K hK=>?_
 rw[if_pos (by rfl)]
 refine zT _ _ _ rfl R (zS [a0,b0,0,0]) rfl rfl _ _ zR wZ rfl (wj _) fun w18 hR18 hg18=>?_
 refine Kz hK ?_
 clear hK K
 refine Wd ?_
 clear zy;have Xp:=zU.grown hg18 (by intro hc;injection hc with hc;have:=aU.out;omega);have Xy:=yt.grown hg18 yt.size (by rintro q ⟨⟩;have:=aU.out;omega);clear zU zR zQ yt hg18;go_wp2_with fail
 go_meet
 exact⟨a0,b0,HA.out,HB.out,Xp,hR18,Xy⟩):P:=h
theorem je5{P:Prop}(h:P:=by
 rw[cT]at HA;rw[sz]at HB;rw[cT,sz];clear cT sz hdd PQ;clear zy
 refine hK.out _ _ (fun _=>?_) (fun zy=>?_)
 ·exact jdH
 exact jdP):P:=h
theorem jfR{P:Prop}(h:P:=by have y0:w11.cell? ⟨Z,0,none⟩=some (.int .u64 (z0:Int)):=kN.cell 0 rfl;have y1:w11.cell? ⟨Z,1,none⟩=some (.int .u64 (z1:Int)):=kN.cell 1 rfl;have y2:w11.cell? ⟨Z,2,none⟩=some (.int .u64 (z2:Int)):=kN.cell 2 rfl;have y3:w11.cell? ⟨Z,3,none⟩=some (.int .u64 (z3:Int)):=kN.cell 3 rfl;exact And.intro y0 (And.intro y1 (And.intro y2 y3))):P:=h
theorem jf5{P:Prop}(h:P:=by have d0:wr.cell? ⟨R,0,none⟩=some (.int .u64 (lo:Int)):=hR.cell 0 rfl;have d1:wr.cell? ⟨R,1,none⟩=some (.int .u64 (k:Int)):=hR.cell 1 rfl;have d2:wr.cell? ⟨R,2,none⟩=some (.int .u64 0):=hR.cell 2 rfl;have d3:wr.cell? ⟨R,3,none⟩=some (.int .u64 0):=hR.cell 3 rfl;exact And.intro d0 (And.intro d1 (And.intro d2 d3))):P:=h
theorem jgd{P:Prop}(h:P:=by have HP:=Hh (And.intro Ow (And.intro hp5 (And.intro hc (And.intro hf (And.intro fQ Rb)))));have aZ:=Blk.new w 274 #[.int .u64 0,.int .u64 0,.int .u64 0,.int .u64 0];have yB:=zX w (.cells #[.int .u64 0,.int .u64 0,.int .u64 0,.int .u64 0] 274);exact And.intro HP (And.intro aZ yB)):P:=h
theorem jg7{P:Prop}(h:P:=by have g0:w11.cell? ⟨w.heap.size,0,none⟩=some (.int .u64 0):=q9.cell 0 rfl;have g1:w11.cell? ⟨w.heap.size,1,none⟩=some (.int .u64 0):=q9.cell 1 rfl;exact And.intro g0 g1):P:=h
theorem jhz{P:Prop}(h:P:=by have d0:=hR.cell 0 (v:=.int .u64 (a:Int)) rfl;have d1:=hR.cell 1 (v:=.int .u64 (b:Int)) rfl;have d2:=hR.cell 2 (v:=.int .u64 0) rfl;have d3:=hR.cell 3 (v:=.int .u64 0) rfl;exact And.intro d0 (And.intro d1 (And.intro d2 d3))):P:=h
def pG (p:Nat):Bool:=O6 (Kd p)&&O6 (Jl p)&&iQ (floatOfInt .f64 (p:Int))&&decide (1≤p)&&decide (p<1000)
def eB (w:World) (R:Nat):Nat :=
 (match w.cell? ⟨R,0,none⟩ with | some (.int _ n)=>n.toNat | _=>0)+18446744073709551616*(match w.cell? ⟨R,1,none⟩ with | some (.int _ n)=>n.toNat | _=>0)
theorem sB {w:World}{R a b:Nat}{t:TypeId}(h:Blk w R t (zS [a,b,0,0])):eB w R=a+18446744073709551616*b:=by
 have h0:w.cell? ⟨R,0,none⟩=some (.int .u64 (a:Int)):=h.cell 0 rfl;have h1:w.cell? ⟨R,1,none⟩=some (.int .u64 (b:Int)):=h.cell 1 rfl;rw[eB,h0,h1]
 simp
theorem aQ (a b:Nat):num [a,b,0,0]=a+18446744073709551616*b:=by simp[num]
theorem dS (p:Nat):num [0,0,p,0]=p*18446744073709551616 ^ 2:=by simp[num];omega
theorem dT (p:Nat):num [0,0,0,p]=p*18446744073709551616 ^ 3:=by simp[num];omega
theorem WH {a b:Nat}(ha:a<18446744073709551616) (hb:b≤33):W64 [a,b,0,0]:=by
 intro x hx
 simp at hx
 omega
theorem dy {p:Nat}(h:p<1000):W64 [0,0,p,0]:=by
 intro x hx
 simp at hx
 omega
theorem dz {p:Nat}(h:p<1000):W64 [0,0,0,p]:=by
 intro x hx
 simp at hx
 omega
theorem nK {x y:List Nat}(hx:x.length=4) (hy:y.length=4) (aw:W64 x) (hyw:W64 y) (w:World) :
 Calls Tryz.prog 243 #[.agg (zS x),.agg (zS y)] w fun e w'=>∃ bl,e=.returned (.bool bl)∧Hid (bl=decide (num x<num y))∧Below w.heap.size w w' :=
 (gR hx hy aw hyw w).mono fun _ _ h=>⟨_,h.1,rfl,h.2⟩
theorem eg (p c:Nat) (hp:pG p=true) (hc:c<18446744073709551616) (hf:o6 2 p c=true) (w:World) :
 Calls Tryz.prog 228 #[.int .u64 (p:Int),.int .i64 2] w fun e w'=>e=.returned (.int .u64 (c:Int))∧Below w.heap.size w w':=by
 unfold pG at hp
 simp only[Bool.and_eq_true,decide_eq_true_eq]at hp
 obtain⟨⟨⟨⟨eK,_⟩,_⟩,Ow⟩,hp5⟩:=hp;obtain⟨f,g,k,e1,e2,e3,fQ,Rb⟩:=jv eK;have SQ:=Hh (fun w=>dR (floatOfInt .f64 (p:Int)) f e1 w);have FL:=Hh (fun w=>fk f g e2 w);have CV:=fun w=>run_convert_float_int (P:=Tryz.prog) w 213 74 .f64 .u64 g (k:Int) (by kernel_rfl) (by kernel_rfl) e3
 obtain⟨HP,aZ,yB⟩:=jgd;clear eK Ow hp5 e1 e2 e3 fQ Rb hc hf;go_enter Tryz.func228,Tryz.ntmps228
 go_wp2_with (with_reducible refine zx ?_)
 refine zw rfl _ _ _ rfl rfl w.heap.size 2 (.int .u64 (p:Int)) rfl rfl _ _ aZ uN (by simp) rfl fun w2 hG hg2=>?_
 have hb:=yB.grown hg2 yB.size (by rintro q ⟨⟩;exact Nat.le_refl _);replace hG:Blk w2 w.heap.size 274 (zS [0,0,p,0]):=hG;clear aZ yB hg2;go_wp2_with fail
 refine(SQ.out _).mono ?_
 rintro e w3 ⟨rfl,rfl⟩
 go_wp2_with fail
 refine(FL.out _).mono ?_
 rintro e w3 ⟨rfl,rfl⟩
 clear SQ FL;go_wp2_with (with_reducible refine sD ?_)
 refine uW rfl _ _ _ _ _ rfl (by simp) _ _ rfl rfl fun r1 w4 av=>?_
 have xK:=hG.or av;have xE:=xH hb av;go_wp2_with (with_reducible refine sD ?_)
 refine uW rfl _ _ _ _ _ rfl (by simp) _ _ rfl rfl fun r2 w5 SX=>?_
 have xx:=xK.or SX;have zE:=xH xE SX;go_wp2_with (with_reducible refine g6 ?_)
 refine ks rfl _ _ _ rfl (by kernel_rfl) (by kernel_rfl) _ rfl fun m w6 hm SY=>?_
 have y8:=xx.or SY;have wS:=xH zE SY;clear hG hb xK xE xx zE av SX SY
 obtain⟨lo,PQ,Rf⟩:∃ n:Nat,IntKind.u64.wrap ((m:Int)*2)=(n:Int)∧n<18446744073709551616:=by
  exact jc1
 have hR:=Blk.new w6 274 (zS [lo,k,0,0]);have vm:=y8.alloc (.cells (zS [lo,k,0,0]) 274);have uI:=wS.alloc wS.size (.cells (zS [lo,k,0,0]) 274);obtain⟨R,Oi⟩:∃ R,w6.heap.size=R:=⟨_,rfl⟩
 have IQ:w.heap.size<R:=by rw[← Oi];exact y8.lt
 rw[Oi]at hR;have DG:=Hh Oi;have aU:=Hh IQ;have HM:=Hh (And.intro hm Rf);clear y8 wS Oi IQ hm Rf;go_wp2_with fail
 rw[DG.out];go_loopw [9,37] (fun v9 v37 wr=>∃ (j s:Nat),v37=.int .i64 (j:Int)∧j≤1∧v9=.float .f64 s∧Blk wr w.heap.size 274 (zS [0,0,p,0])∧Blk wr R 274 (zS [lo,k,0,0])∧Below w.heap.size w wr) (fun _ v37 _=>(1-intOf v37).toNat)
 case atStart=>exact⟨0,_,rfl,by omega,rfl,vm,hR,uI⟩
 case round =>
 clear vm hR uI CV;obtain⟨j,s,rfl,fG,rfl,hG,hR,hb⟩:=hrel;obtain⟨d0,d1,d2,d3⟩:=jf5
 by_cases z9:(j:Int)<1
 ·exact jaR
 have Mm:num [lo,k,0,0] ^ 2<18446744073709551616 ^ 4:=by
  refine rQ (.inl rfl) ?_
  exact jb5
 have PW:=Hh (rR (x:=[lo,k,0,0]) rfl (by have h1:=HM.out.2;have h2:=HP.out.2.2.2.2.2;intro a ha;simp at ha;omega) 2 (by omega) Mm wr);clear Mm;go_wp2_with fail
 refine PW.out.mono ?_
 rintro e w10 ⟨z,rfl,jI,mO,fK,xN⟩
 obtain⟨z0,z1,z2,z3,rfl⟩:=qJ jI;rw[show zS [z0,z1,z2,z3]=#[.int .u64 (z0:Int),.int .u64 (z1:Int),.int .u64 (z2:Int),.int .u64 (z3:Int)] from rfl];obtain⟨w11,kR⟩:∃ w11,w10.alloc (.cells #[.int .u64 (z0:Int),.int .u64 (z1:Int),.int .u64 (z2:Int),.int .u64 (z3:Int)] 274)=w11:=⟨_,rfl⟩
 have q9:Blk w11 w.heap.size 274 (zS [0,0,p,0]):=by rw[← kR];exact(hG.below xN).alloc _
 have RP:Blk w11 R 274 (zS [lo,k,0,0]):=by rw[← kR];exact(hR.below xN).alloc _
 have pf:Below w.heap.size w w11:=by rw[← kR];exact(hb.trans (xN.mono hb.size)).alloc (Nat.le_trans hb.size xN.size) _
 obtain⟨Z,Lz⟩:∃ Z,w10.heap.size=Z:=⟨_,rfl⟩
 have kN:Blk w11 Z 274 (zS [z0,z1,z2,z3]):=by rw[← kR,← Lz];exact Blk.new w10 274 _
 have Xn:=Hh (And.intro kR Lz);have HZ:=Hh (And.intro mO fK);have LS:=Hh (gR (x:=[0,0,p,0]) (y:=[z0,z1,z2,z3]) rfl rfl (by have h2:=HP.out.2.1;intro a ha;simp at ha;omega) mO w11);obtain⟨bl,vV⟩:∃ b,decide (num [0,0,p,0]<num [z0,z1,z2,z3])=b:=⟨_,rfl⟩
 rw[vV]at LS;have qR:=Hh vV;clear jI mO fK PW xN hG hR hb d0 d1 d2 d3 vV kR Lz;obtain⟨g0,g1⟩:=jg7;have g2:w11.cell? ⟨w.heap.size,2,none⟩=some (.int .u64 (p:Int)):=q9.cell 2 rfl;have g3:w11.cell? ⟨w.heap.size,3,none⟩=some (.int .u64 0):=q9.cell 3 rfl;obtain⟨y0,y1,y2,y3⟩:=jfR;go_upto_region 14 with fail
 rw[Xn.out.1,Xn.out.2];go_wp2_with fail
 refine LS.out.mono ?_
 rintro e w12 ⟨rfl,yt⟩
 have zU:=q9.below yt;have zR:=RP.below yt;have zQ:=kN.below yt;replace yt:=pf.trans (yt.mono pf.size);clear g0 g1 g2 g3 y0 y1 y2 y3 q9 RP kN LS pf;go_upto_if 49 with fail
 go_cut [] (fun wx=>∃ (a b:Nat),a<18446744073709551616∧b≤22∧Blk wx w.heap.size 274 (zS [0,0,p,0])∧Blk wx R 274 (zS [a,b,0,0])∧Below w.heap.size w wx)
 case first =>
  cases bl with
  | true =>
   replace zU:=zU.drew;replace zR:=zR.drew;replace zQ:=zQ.drew;replace yt:=yt.drew;go_upto_region 15 with fail
   refine zr 9 (fun wx=>wx.cell? ⟨R,0,none⟩=some (.int .u64 (lo:Int))∧wx.cell? ⟨R,1,none⟩=some (.int .u64 (k:Int))∧wx.cell? ⟨R,2,none⟩=some (.int .u64 0)∧wx.cell? ⟨R,3,none⟩=some (.int .u64 0)∧wx.cell? ⟨Z,0,none⟩=some (.int .u64 (z0:Int))∧wx.cell? ⟨Z,1,none⟩=some (.int .u64 (z1:Int))∧wx.cell? ⟨Z,2,none⟩=some (.int .u64 (z2:Int))∧wx.cell? ⟨Z,3,none⟩=some (.int .u64 (z3:Int))∧wx.cell? ⟨w.heap.size,0,none⟩=some (.int .u64 0)∧wx.cell? ⟨w.heap.size,1,none⟩=some (.int .u64 0)∧wx.cell? ⟨w.heap.size,2,none⟩=some (.int .u64 (p:Int))∧wx.cell? ⟨w.heap.size,3,none⟩=some (.int .u64 0)) (by kernel_rfl) (⟨zR.cell 0 rfl,zR.cell 1 rfl,zR.cell 2 rfl,zR.cell 3 rfl,zQ.cell 0 rfl,zQ.cell 1 rfl,zQ.cell 2 rfl,zQ.cell 3 rfl,zU.cell 0 rfl,zU.cell 1 rfl,zU.cell 2 rfl,zU.cell 3 rfl⟩) (fun zy=>?_)
   refine Tk 0 rfl zy ?_
   refine Tk 1 rfl zy ?_
   refine Tk 2 rfl zy ?_
   refine Tk 5 rfl zy ?_
   refine To 3 rfl fun K hK=>?_
   go_simp
   refine(nM (x:=[z0,z1,z2,z3]) (y:=[0,0,p,0]) rfl rfl _).mono ?_
   exact jaf
  | false =>
  replace zU:=zU.drew;replace zR:=zR.drew;replace zQ:=zQ.drew;replace yt:=yt.drew;go_upto_region 16 with fail
  refine zr 9 (fun wx=>wx.cell? ⟨R,0,none⟩=some (.int .u64 (lo:Int))∧wx.cell? ⟨R,1,none⟩=some (.int .u64 (k:Int))∧wx.cell? ⟨R,2,none⟩=some (.int .u64 0)∧wx.cell? ⟨R,3,none⟩=some (.int .u64 0)∧wx.cell? ⟨Z,0,none⟩=some (.int .u64 (z0:Int))∧wx.cell? ⟨Z,1,none⟩=some (.int .u64 (z1:Int))∧wx.cell? ⟨Z,2,none⟩=some (.int .u64 (z2:Int))∧wx.cell? ⟨Z,3,none⟩=some (.int .u64 (z3:Int))∧wx.cell? ⟨w.heap.size,0,none⟩=some (.int .u64 0)∧wx.cell? ⟨w.heap.size,1,none⟩=some (.int .u64 0)∧wx.cell? ⟨w.heap.size,2,none⟩=some (.int .u64 (p:Int))∧wx.cell? ⟨w.heap.size,3,none⟩=some (.int .u64 0)) (by kernel_rfl) (⟨zR.cell 0 rfl,zR.cell 1 rfl,zR.cell 2 rfl,zR.cell 3 rfl,zQ.cell 0 rfl,zQ.cell 1 rfl,zQ.cell 2 rfl,zQ.cell 3 rfl,zU.cell 0 rfl,zU.cell 1 rfl,zU.cell 2 rfl,zU.cell 3 rfl⟩) (fun zy=>?_)
  refine Tk 0 rfl zy ?_
  refine Tk 1 rfl zy ?_
  refine Tk 2 rfl zy ?_
  refine Tk 5 rfl zy ?_
  refine To 3 rfl fun K hK=>?_
  go_simp
  refine(nM (x:=[0,0,p,0]) (y:=[z0,z1,z2,z3]) rfl rfl _).mono ?_
  exact jag
 case rest =>
 clear zU zR zQ yt qR HZ HM Xn;obtain⟨a,b,ha,zD,hG,hR,hb⟩:=hcut;have qQ:=Hh (And.intro ha zD);clear ha zD;go_wp2_with fail
 go_loopw [72] (fun _ wr=>∃ (a b:Nat),Hid (a<18446744073709551616∧b≤22)∧Blk wr w.heap.size 274 (zS [0,0,p,0])∧Blk wr R 274 (zS [a,b,0,0])∧Below w.heap.size w wr) (fun _ wr=>eB wr R)
 case atStart=>exact⟨a,b,qQ,hG,hR,hb⟩
 case round =>
 clear qQ hG hR hb;clear a b;obtain⟨a,b,qQ,hG,hR,hb⟩:=hrel;have OV:=Hh (sB hR)
 have cL:Hid (a<18446744073709551616∧b≤33∧num [a,b,0,0] ^ 2<18446744073709551616 ^ 4):=by
  refine⟨qQ.out.1,Nat.le_trans qQ.out.2 (by omega), ?_⟩
  rw[aQ]
  refine rQ (.inl rfl) ?_
  have h1:=qQ.out.1;have h2:=qQ.out.2
  omega
 replace hG:=hG.drew;replace hR:=hR.drew;replace hb:=hb.drew;go_upto_region 17 with fail
 refine zr 4 (fun wx=>wx.cell? ⟨R,0,none⟩=some (.int .u64 (a:Int))∧wx.cell? ⟨R,1,none⟩=some (.int .u64 (b:Int))∧wx.cell? ⟨R,2,none⟩=some (.int .u64 0)∧wx.cell? ⟨R,3,none⟩=some (.int .u64 0)∧wx.cell? ⟨w.heap.size,0,none⟩=some (.int .u64 0)∧wx.cell? ⟨w.heap.size,1,none⟩=some (.int .u64 0)∧wx.cell? ⟨w.heap.size,2,none⟩=some (.int .u64 (p:Int))∧wx.cell? ⟨w.heap.size,3,none⟩=some (.int .u64 0)) (by kernel_rfl) (⟨hR.cell 0 rfl,hR.cell 1 rfl,hR.cell 2 rfl,hR.cell 3 rfl,hG.cell 0 rfl,hG.cell 1 rfl,hG.cell 2 rfl,hG.cell 3 rfl⟩) (fun zy=>?_)
 refine Tk 0 rfl zy ?_
 refine Tk 1 rfl zy ?_
 refine Tk 2 rfl zy ?_
 refine To 3 rfl fun K hK=>?_
 go_simp
 refine(rR (x:=[a,b,0,0]) rfl (WH cL.out.1 cL.out.2.1) 2 (by omega) cL.out.2.2 _).mono ?_
 rintro e w21 ⟨z,rfl,jI,mO,fK,pP⟩
 replace hG:=hG.below pP;replace hR:=hR.below pP;replace hb:=hb.trans (pP.mono hb.size);clear pP;rw[aQ]at fK;obtain⟨z0,z1,z2,z3,rfl⟩:=qJ jI;have YG:=Hh (And.intro mO fK);clear jI mO fK;clear zy
 refine hK.out _ _ (fun _=>?_) (fun zy=>?_)
 ·exact jaC
 clear hK K;replace zy:=zy (by decide)
 try simp only[Act.put,zz1,zz2,zz3,zz4,zz5,zz6]
 refine To 4 rfl fun K hK=>?_
 go_simp
 refine(nK (x:=[0,0,p,0]) (y:=[z0,z1,z2,z3]) rfl rfl (dy HP.out.2.1) YG.out.1 _).mono ?_
 rintro e w22 ⟨bl,rfl,qR,pQ⟩
 replace hG:=hG.below pQ;replace hR:=hR.below pQ;replace hb:=hb.trans (pQ.mono hb.size);clear pQ
 refine Kz hK ?_
 clear hK K
 refine Wd ?_
 clear zy;have pM:Hid (bl=decide (p*18446744073709551616 ^ 2<(a+18446744073709551616*b) ^ 2)):=by rw[Hid,qR.out,dS,YG.out.2]
 clear qR YG cL
 cases bl with
 | true =>
  exact jan
 | false =>
 have eD:Hid ((a+18446744073709551616*b) ^ 2≤p*18446744073709551616 ^ 2):=Nat.le_of_not_lt (of_decide_eq_false pM.out.symm);have Uy:Hid (a<18446744073709551616):=qQ.out.1;clear pM OV qQ;go_wp2_with fail
 go_loopw [81] (fun _ wr=>∃ (a b:Nat),Hid (a<18446744073709551616)∧Hid ((a+18446744073709551616*b) ^ 2≤p*18446744073709551616 ^ 2)∧Blk wr w.heap.size 274 (zS [0,0,p,0])∧Blk wr R 274 (zS [a,b,0,0])∧Below w.heap.size w wr) (fun _ wr=>32*18446744073709551616-eB wr R)
 case atStart=>exact⟨a,b,Uy,eD,hG,hR,hb⟩
 case round =>
 clear Uy eD hG hR hb;obtain⟨a,b,Uy,eD,hG,hR,hb⟩:=hrel;have OV:=Hh (sB hR);have WK:Hid (a+18446744073709551616*b<32*18446744073709551616):=Zw (.inl rfl) HP.out.2.1 eD.out
 have lU:Hid (a<18446744073709551616∧b≤31∧(a+1)%18446744073709551616<18446744073709551616∧b+(a+1)/18446744073709551616≤32∧(a+1)%18446744073709551616+18446744073709551616*(b+(a+1)/18446744073709551616)=a+18446744073709551616*b+1):=by
  have h1:=Uy.out;have h2:=WK.out;rw[Hid]
  omega
 obtain⟨a2,jE⟩:∃ n,(a+1)%18446744073709551616=n:=⟨_,rfl⟩
 obtain⟨b2,zD⟩:∃ n,b+(a+1)/18446744073709551616=n:=⟨_,rfl⟩
 have oP:=Hh (And.intro jE zD);rw[jE,zD]at lU;clear jE zD
 have cL:Hid (a2<18446744073709551616∧b2≤33∧num [a2,b2,0,0] ^ 2<18446744073709551616 ^ 4):=by
  refine⟨lU.out.2.2.1,Nat.le_trans lU.out.2.2.2.1 (by omega), ?_⟩
  rw[aQ]
  refine rQ (.inl rfl) ?_
  have h1:=lU.out.2.2.1;have h2:=lU.out.2.2.2.1
  omega
 replace hG:=hG.drew;replace hR:=hR.drew;replace hb:=hb.drew;go_upto_region 19 with fail
 refine zr 6 (fun wx=>wx.cell? ⟨R,0,none⟩=some (.int .u64 (a:Int))∧wx.cell? ⟨R,1,none⟩=some (.int .u64 (b:Int))∧wx.cell? ⟨R,2,none⟩=some (.int .u64 0)∧wx.cell? ⟨R,3,none⟩=some (.int .u64 0)∧wx.cell? ⟨w.heap.size,0,none⟩=some (.int .u64 0)∧wx.cell? ⟨w.heap.size,1,none⟩=some (.int .u64 0)∧wx.cell? ⟨w.heap.size,2,none⟩=some (.int .u64 (p:Int))∧wx.cell? ⟨w.heap.size,3,none⟩=some (.int .u64 0)) (by kernel_rfl) (⟨hR.cell 0 rfl,hR.cell 1 rfl,hR.cell 2 rfl,hR.cell 3 rfl,hG.cell 0 rfl,hG.cell 1 rfl,hG.cell 2 rfl,hG.cell 3 rfl⟩) (fun zy=>?_)
 refine Tk 0 rfl zy ?_
 refine Tk 1 rfl zy ?_
 refine Tk 3 rfl zy ?_
 refine To 2 rfl fun K hK=>?_
 go_simp
 refine(rS a b 0 0 1 lU.out.1 (by omega) (by have h1:=lU.out.2.1;omega) _).mono ?_
 rintro e w20 ⟨rfl,cC⟩
 replace hG:=hG.below cC;replace hR:=hR.below cC;replace hb:=hb.trans (cC.mono hb.size);clear cC;rw[oP.out.1,oP.out.2];clear zy
 refine hK.out _ _ (fun _=>?_) (fun zy=>?_)
 ·exact jaC
 clear hK K;replace zy:=zy (by decide)
 try simp only[Act.put,zz1,zz2,zz3,zz4,zz5,zz6]
 refine To 4 rfl fun K hK=>?_
 go_simp
 refine(rR (x:=[a2,b2,0,0]) rfl (WH cL.out.1 cL.out.2.1) 2 (by omega) cL.out.2.2 _).mono ?_
 rintro e w21 ⟨z,rfl,jI,mO,fK,pP⟩
 replace hG:=hG.below pP;replace hR:=hR.below pP;replace hb:=hb.trans (pP.mono hb.size);clear pP;rw[aQ]at fK;obtain⟨z0,z1,z2,z3,rfl⟩:=qJ jI;have YG:=Hh (And.intro mO fK);clear jI mO fK;clear zy
 refine hK.out _ _ (fun _=>?_) (fun zy=>?_)
 ·exact jaC
 clear hK K;replace zy:=zy (by decide)
 try simp only[Act.put,zz1,zz2,zz3,zz4,zz5,zz6]
 refine To 5 rfl fun K hK=>?_
 go_simp
 refine(nK (x:=[0,0,p,0]) (y:=[z0,z1,z2,z3]) rfl rfl (dy HP.out.2.1) YG.out.1 _).mono ?_
 rintro e w22 ⟨bl,rfl,qR,pQ⟩
 replace hG:=hG.below pQ;replace hR:=hR.below pQ;replace hb:=hb.trans (pQ.mono hb.size);clear pQ;clear zy
 refine hK.out _ _ (fun _=>?_) (fun zy=>?_)
 ·exact jaC
 clear hK K;replace zy:=zy (by decide)
 try simp only[Act.put,zz1,zz2,zz3,zz4,zz5,zz6]
 refine To 6 rfl fun K hK=>?_
 go_simp
 refine Kz hK ?_
 clear hK K
 refine Wd ?_
 clear zy;have pM:Hid (bl=decide (p*18446744073709551616 ^ 2<(a+18446744073709551616*b+1) ^ 2)):=by rw[Hid,qR.out,dS,YG.out.2,lU.out.2.2.2.2]
 clear qR YG cL;obtain⟨d0,d1,d2,d3⟩:=jhz
 cases bl with
 | true =>
  have Cp:Hid (a=c):=by
   have h1:=Vf (.inl rfl) HP.out.2.2.1 HP.out.2.2.2.1 eD.out (of_decide_eq_true pM.out.symm);have h2:=Uy.out;rw[Hid]
   omega
  exact jc2
 | false =>
 have iy:Hid ((a2+18446744073709551616*b2) ^ 2≤p*18446744073709551616 ^ 2):=by
  exact jcT
 exact jaE
end Go.Proofs.YtkmlnjociijpgaaGreatDoor
