/- squeezed. SHA-256: the fraction of a root of -/
import Derived.Test.YtliomcphdnppnaaGreatDoorK31
import Derived.Deep.DeepCutAuto
import Derived.Deep.CutBlock
set_option linter.unusedVariables false
set_option linter.unusedSimpArgs false
set_option maxRecDepth 100000
set_option maxHeartbeats 6400000
namespace Go.Proofs.YtliomcphdnppnaaGreatDoor
open Go.RowKit
def qZ (p:Nat):Bool:=Sv (PF p)&&Sv (On p)&&ks (floatOfInt .f64 (p:Int))&&decide (1≤p)&&decide (p<1000)
def i6 (w:World) (R:Nat):Nat :=
 (match w.cell? ⟨R,0,none⟩ with | some (.int _ n)=>n.toNat | _=>0)+18446744073709551616*(match w.cell? ⟨R,1,none⟩ with | some (.int _ n)=>n.toNat | _=>0)
theorem tO {w:World}{R a b:Nat}{t:TypeId}(h:Blk w R t (zW [a,b,0,0])):i6 w R=a+18446744073709551616*b:=by
 have h0:w.cell? ⟨R,0,none⟩=some (.int .u64 (a:Int)):=h.cell 0 rfl;have h1:w.cell? ⟨R,1,none⟩=some (.int .u64 (b:Int)):=h.cell 1 rfl;rw[i6,h0,h1]
 simp
theorem ej (a b:Nat):num [a,b,0,0]=a+18446744073709551616*b:=by simp[num]
theorem gW (p:Nat):num [0,0,p,0]=p*18446744073709551616 ^ 2:=by simp[num];omega
theorem gX (p:Nat):num [0,0,0,p]=p*18446744073709551616 ^ 3:=by simp[num];omega
theorem Za {a b:Nat}(ha:a<18446744073709551616) (hb:b≤33):W64 [a,b,0,0]:=by
 intro x hx
 simp at hx
 omega
theorem gm {p:Nat}(h:p<1000):W64 [0,0,p,0]:=by
 intro x hx
 simp at hx
 omega
theorem gn {p:Nat}(h:p<1000):W64 [0,0,0,p]:=by
 intro x hx
 simp at hx
 omega
theorem ow {x y:List Nat}(hx:x.length=4) (hy:y.length=4) (Zl:W64 x) (hyw:W64 y) (w:World) :
 Calls Tryz.prog 160 #[.agg (zW x),.agg (zW y)] w fun e w'=>∃ bl,e=.returned (.bool bl)∧Hid (bl=decide (num x<num y))∧Below w.heap.size w w' :=
 (kB hx hy Zl hyw w).mono fun _ _ h=>⟨_,h.1,rfl,h.2⟩
theorem iO (p c:Nat) (hp:qZ p=true) (hc:c<18446744073709551616) (hf:pZ 2 p c=true) (w:World) :
 Calls Tryz.prog 128 #[.int .u64 (p:Int),.int .i64 2] w fun e w'=>e=.returned (.int .u64 (c:Int))∧Below w.heap.size w w':=by
 unfold qZ at hp
 simp only[Bool.and_eq_true,decide_eq_true_eq]at hp
 obtain⟨⟨⟨⟨ir,_⟩,_⟩,gD⟩,fC⟩:=hp;obtain⟨f,g,k,e1,e2,e3,nz,Vv⟩:=mL ir;have SQ:=Hh (fun w=>gV (floatOfInt .f64 (p:Int)) f e1 w);have FL:=Hh (fun w=>jT f g e2 w);have CV:=fun w=>run_convert_float_int (P:=Tryz.prog) w 198 22 .f64 .u64 g (k:Int) (by kernel_rfl) (by kernel_rfl) e3
 have HP:=Hh (And.intro gD (And.intro fC (And.intro hc (And.intro hf (And.intro nz Vv)))));have f5:=Blk.new w 211 #[.int .u64 0,.int .u64 0,.int .u64 0,.int .u64 0];have yK:=zu w (.cells #[.int .u64 0,.int .u64 0,.int .u64 0,.int .u64 0] 211);clear ir gD fC e1 e2 e3 nz Vv hc hf;go_enter Tryz.func128,Tryz.ntmps128
 go_wp2_with (with_reducible refine zx ?_)
 refine ze rfl _ _ _ rfl rfl w.heap.size 2 (.int .u64 (p:Int)) rfl rfl _ _ f5 vG (by simp) rfl fun w2 hG tu=>?_
 have hb:=yK.grown tu yK.size (by rintro q ⟨⟩;exact Nat.le_refl _);replace hG:Blk w2 w.heap.size 211 (zW [0,0,p,0]):=hG;clear f5 yK tu;go_wp2_with fail
 refine(SQ.out _).mono ?_
 rintro e w3 ⟨rfl,rfl⟩
 go_wp2_with fail
 refine(FL.out _).mono ?_
 rintro e w3 ⟨rfl,rfl⟩
 clear SQ FL;go_wp2_with (with_reducible refine tR ?_)
 refine vR rfl _ _ _ _ _ rfl (by simp) _ _ rfl rfl fun r1 w4 Re=>?_
 have xl:=hG.or Re;have ui:=xU hb Re;go_wp2_with (with_reducible refine tR ?_)
 refine vR rfl _ _ _ _ _ rfl (by simp) _ _ rfl rfl fun r2 w5 hw5=>?_
 have vB:=xl.or hw5;have xS:=xU ui hw5;go_wp2_with (with_reducible refine je ?_)
 refine nJ rfl _ _ _ rfl (by kernel_rfl) (by kernel_rfl) _ rfl fun m w6 hm cI=>?_
 have wl:=vB.or cI;have xT:=xU xS cI;clear hG hb xl ui vB xS Re hw5 cI
 obtain⟨lo,Rb,Vw⟩:∃ n:Nat,IntKind.u64.wrap ((m:Int)*2)=(n:Int)∧n<18446744073709551616:=by
  rw[IntKind.wrap_u64]
  exact⟨((m:Int)*2%18446744073709551616).toNat,by omega,by omega⟩
 have hR:=Blk.new w6 211 (zW [lo,k,0,0]);have vV:=wl.alloc (.cells (zW [lo,k,0,0]) 211);have wJ:=xT.alloc xT.size (.cells (zW [lo,k,0,0]) 211);obtain⟨R,Te⟩:∃ R,w6.heap.size=R:=⟨_,rfl⟩
 have WQ:w.heap.size<R:=by rw[← Te];exact wl.lt
 rw[Te]at hR;have It:=Hh Te;have ep:=Hh WQ;have HM:=Hh (And.intro hm Vw);clear wl xT Te WQ hm Vw;go_wp2_with fail
 rw[It.out];go_loopw [9,37] (fun v9 v37 wr=>∃ (j s:Nat),v37=.int .i64 (j:Int)∧j≤1∧v9=.float .f64 s∧Blk wr w.heap.size 211 (zW [0,0,p,0])∧Blk wr R 211 (zW [lo,k,0,0])∧Below w.heap.size w wr) (fun _ v37 _=>(1-intOf v37).toNat)
 case atStart=>exact⟨0,_,rfl,by omega,rfl,vV,hR,wJ⟩
 case round =>
 clear vV hR wJ CV;obtain⟨j,s,rfl,Wp,rfl,hG,hR,hb⟩:=hrel;have d0:wr.cell? ⟨R,0,none⟩=some (.int .u64 (lo:Int)):=hR.cell 0 rfl;have d1:wr.cell? ⟨R,1,none⟩=some (.int .u64 (k:Int)):=hR.cell 1 rfl;have d2:wr.cell? ⟨R,2,none⟩=some (.int .u64 0):=hR.cell 2 rfl;have d3:wr.cell? ⟨R,3,none⟩=some (.int .u64 0):=hR.cell 3 rfl
 by_cases zB:(j:Int)<1
 ·have F:=Hh (tY (x:=[lo,k,0,0]) rfl wr);have uK:=Hh zB;go_wp2_with fail
  refine F.out.mono ?_
  rintro e w8 ⟨⟨fl,rfl⟩,oN⟩
  have yA:=hG.below oN;have RQ:=hR.below oN;have tV:=hb.trans (oN.mono hb.size);clear F d0 d1 d2 d3 hG hR hb oN;go_wp2_with (with_reducible refine tR ?_)
  refine vR rfl _ _ _ _ _ rfl (by simp) _ _ rfl rfl fun s2 w9 hw9=>?_
  have tI:=yA.or hw9;have bx:=RQ.or hw9;have pu:=xU tV hw9;clear yA RQ tV hw9;go_wp2_with fail
  go_roundw
  case rel=>exact⟨j+1,s2,by go_num,by have:=uK.out;omega,rfl,tI,bx,pu⟩
  case measure=>have:=uK.out;simp[intOf];omega
 have RJ:num [lo,k,0,0] ^ 2<18446744073709551616 ^ 4:=by
  refine sW (.inl rfl) ?_
  have h1:=HM.out.2;have h2:=HP.out.2.2.2.2.2;have e:num [lo,k,0,0]=lo+18446744073709551616*(k+18446744073709551616*(0+18446744073709551616*(0+18446744073709551616*0))):=rfl
  omega
 have PW:=Hh (sY (x:=[lo,k,0,0]) rfl (by have h1:=HM.out.2;have h2:=HP.out.2.2.2.2.2;intro a ha;simp at ha;omega) 2 (by omega) RJ wr);clear RJ;go_wp2_with fail
 refine PW.out.mono ?_
 rintro e w10 ⟨z,rfl,lR,oO,iw,tj⟩
 obtain⟨z0,z1,z2,z3,rfl⟩:=rS lR;rw[show zW [z0,z1,z2,z3]=#[.int .u64 (z0:Int),.int .u64 (z1:Int),.int .u64 (z2:Int),.int .u64 (z3:Int)] from rfl];obtain⟨w11,mf⟩:∃ w11,w10.alloc (.cells #[.int .u64 (z0:Int),.int .u64 (z1:Int),.int .u64 (z2:Int),.int .u64 (z3:Int)] 211)=w11:=⟨_,rfl⟩
 have tT:Blk w11 w.heap.size 211 (zW [0,0,p,0]):=by rw[← mf];exact(hG.below tj).alloc _
 have Vq:Blk w11 R 211 (zW [lo,k,0,0]):=by rw[← mf];exact(hR.below tj).alloc _
 have tV:Below w.heap.size w w11:=by rw[← mf];exact(hb.trans (tj.mono hb.size)).alloc (Nat.le_trans hb.size tj.size) _
 obtain⟨Z,QX⟩:∃ Z,w10.heap.size=Z:=⟨_,rfl⟩
 have mZ:Blk w11 Z 211 (zW [z0,z1,z2,z3]):=by rw[← mf,← QX];exact Blk.new w10 211 _
 have bR:=Hh (And.intro mf QX);have HZ:=Hh (And.intro oO iw);have LS:=Hh (kB (x:=[0,0,p,0]) (y:=[z0,z1,z2,z3]) rfl rfl (by have h2:=HP.out.2.1;intro a ha;simp at ha;omega) oO w11);obtain⟨bl,rM⟩:∃ b,decide (num [0,0,p,0]<num [z0,z1,z2,z3])=b:=⟨_,rfl⟩
 rw[rM]at LS;have eo:=Hh rM;clear lR oO iw PW tj hG hR hb d0 d1 d2 d3 rM mf QX;have g0:w11.cell? ⟨w.heap.size,0,none⟩=some (.int .u64 0):=tT.cell 0 rfl;have g1:w11.cell? ⟨w.heap.size,1,none⟩=some (.int .u64 0):=tT.cell 1 rfl;have g2:w11.cell? ⟨w.heap.size,2,none⟩=some (.int .u64 (p:Int)):=tT.cell 2 rfl;have g3:w11.cell? ⟨w.heap.size,3,none⟩=some (.int .u64 0):=tT.cell 3 rfl;have y0:w11.cell? ⟨Z,0,none⟩=some (.int .u64 (z0:Int)):=mZ.cell 0 rfl;have y1:w11.cell? ⟨Z,1,none⟩=some (.int .u64 (z1:Int)):=mZ.cell 1 rfl;have y2:w11.cell? ⟨Z,2,none⟩=some (.int .u64 (z2:Int)):=mZ.cell 2 rfl;have y3:w11.cell? ⟨Z,3,none⟩=some (.int .u64 (z3:Int)):=mZ.cell 3 rfl;go_upto_region 14 with fail
 rw[bR.out.1,bR.out.2];go_wp2_with fail
 refine LS.out.mono ?_
 rintro e w12 ⟨rfl,yh⟩
 have zX:=tT.below yh;have zV:=Vq.below yh;have zS:=mZ.below yh;replace yh:=tV.trans (yh.mono tV.size);clear g0 g1 g2 g3 y0 y1 y2 y3 tT Vq mZ LS tV;go_upto_if 49 with fail
 go_cut [] (fun wx=>∃ (a b:Nat),a<18446744073709551616∧b≤22∧Blk wx w.heap.size 211 (zW [0,0,p,0])∧Blk wx R 211 (zW [a,b,0,0])∧Below w.heap.size w wx)
 case first =>
  cases bl with
  | true =>
   replace zX:=zX.drew;replace zV:=zV.drew;replace zS:=zS.drew;replace yh:=yh.drew;go_upto_region 15 with fail
   refine zw 9 (fun wx=>wx.cell? ⟨R,0,none⟩=some (.int .u64 (lo:Int))∧wx.cell? ⟨R,1,none⟩=some (.int .u64 (k:Int))∧wx.cell? ⟨R,2,none⟩=some (.int .u64 0)∧wx.cell? ⟨R,3,none⟩=some (.int .u64 0)∧wx.cell? ⟨Z,0,none⟩=some (.int .u64 (z0:Int))∧wx.cell? ⟨Z,1,none⟩=some (.int .u64 (z1:Int))∧wx.cell? ⟨Z,2,none⟩=some (.int .u64 (z2:Int))∧wx.cell? ⟨Z,3,none⟩=some (.int .u64 (z3:Int))∧wx.cell? ⟨w.heap.size,0,none⟩=some (.int .u64 0)∧wx.cell? ⟨w.heap.size,1,none⟩=some (.int .u64 0)∧wx.cell? ⟨w.heap.size,2,none⟩=some (.int .u64 (p:Int))∧wx.cell? ⟨w.heap.size,3,none⟩=some (.int .u64 0)) (by kernel_rfl) (⟨zV.cell 0 rfl,zV.cell 1 rfl,zV.cell 2 rfl,zV.cell 3 rfl,zS.cell 0 rfl,zS.cell 1 rfl,zS.cell 2 rfl,zS.cell 3 rfl,zX.cell 0 rfl,zX.cell 1 rfl,zX.cell 2 rfl,zX.cell 3 rfl⟩) (fun zy=>?_)
   refine Tk 0 rfl zy ?_
   refine Tk 1 rfl zy ?_
   refine Tk 2 rfl zy ?_
   refine Tk 5 rfl zy ?_
   refine To 3 rfl fun K hK=>?_
   go_simp
   refine(p8 (x:=[z0,z1,z2,z3]) (y:=[0,0,p,0]) rfl rfl _).mono ?_
   rintro e w13 ⟨mm,rfl,lA,uZ⟩
   replace zX:=zX.below uZ;replace zV:=zV.below uZ;replace zS:=zS.below uZ;replace yh:=yh.trans (uZ.mono yh.size);clear uZ;clear zy
   refine hK.out _ _ (fun _=>?_) (fun zy=>?_)
   ·exact⟨zV.cell 0 rfl,zV.cell 1 rfl,zV.cell 2 rfl,zV.cell 3 rfl,zS.cell 0 rfl,zS.cell 1 rfl,zS.cell 2 rfl,zS.cell 3 rfl,zX.cell 0 rfl,zX.cell 1 rfl,zX.cell 2 rfl,zX.cell 3 rfl⟩
   clear hK K;replace zy:=zy (by decide)
   try simp only[Act.put,zz1,zz2,zz3,zz4,zz5,zz6]
   refine To 4 rfl fun K hK=>?_
   go_simp
   refine(tY lA _).mono ?_
   rintro e w14 ⟨⟨fl,rfl⟩,wQ⟩
   replace zX:=zX.below wQ;replace zV:=zV.below wQ;replace zS:=zS.below wQ;replace yh:=yh.trans (wQ.mono yh.size);clear wQ;clear zy
   refine hK.out _ _ (fun _=>?_) (fun zy=>?_)
   ·exact⟨zV.cell 0 rfl,zV.cell 1 rfl,zV.cell 2 rfl,zV.cell 3 rfl,zS.cell 0 rfl,zS.cell 1 rfl,zS.cell 2 rfl,zS.cell 3 rfl,zX.cell 0 rfl,zX.cell 1 rfl,zX.cell 2 rfl,zX.cell 3 rfl⟩
   clear hK K;replace zy:=zy (by decide)
   try simp only[Act.put,zz1,zz2,zz3,zz4,zz5,zz6]
   refine To 6 rfl fun K hK=>?_
   rw[if_pos (by rfl)]
   refine fh _ _ _ _ _ rfl (by simp) _ _ rfl rfl fun fq w15 hw15=>?_
   replace zX:=zX.or hw15;replace zV:=zV.or hw15;replace zS:=zS.or hw15;replace yh:=xU yh hw15;clear hw15;clear zy
   refine hK.out _ _ (fun _=>?_) (fun zy=>?_)
   ·exact⟨zV.cell 0 rfl,zV.cell 1 rfl,zV.cell 2 rfl,zV.cell 3 rfl,zS.cell 0 rfl,zS.cell 1 rfl,zS.cell 2 rfl,zS.cell 3 rfl,zX.cell 0 rfl,zX.cell 1 rfl,zX.cell 2 rfl,zX.cell 3 rfl⟩
   clear hK K;replace zy:=zy (by decide)
   try simp only[Act.put,zz1,zz2,zz3,zz4,zz5,zz6]
   refine To 7 rfl fun K hK=>?_
   rw[if_pos (by rfl)]
   refine nU _ _ _ rfl (by kernel_rfl) (by kernel_rfl) _ rfl fun dd w16 Wo hw16=>?_
   replace zX:=zX.or hw16;replace zV:=zV.or hw16;replace zS:=zS.or hw16;replace yh:=xU yh hw16;clear hw16;clear zy
   refine hK.out _ _ (fun _=>?_) (fun zy=>?_)
   ·exact⟨zV.cell 0 rfl,zV.cell 1 rfl,zV.cell 2 rfl,zV.cell 3 rfl,zS.cell 0 rfl,zS.cell 1 rfl,zS.cell 2 rfl,zS.cell 3 rfl,zX.cell 0 rfl,zX.cell 1 rfl,zX.cell 2 rfl,zX.cell 3 rfl⟩
   clear hK K;replace zy:=zy (by decide)
   try simp only[Act.put,zz1,zz2,zz3,zz4,zz5,zz6]
   refine To 8 rfl fun K hK=>?_
   go_simp
   refine(oz lo k 0 0 dd (by have h2:=HP.out.2.2.2.2.2;omega) HP.out.2.2.2.2.1 _).mono ?_
   rintro e w17 ⟨rfl,sL⟩
   replace zX:=zX.below sL;replace zV:=zV.below sL;replace zS:=zS.below sL;replace yh:=yh.trans (sL.mono yh.size);clear sL;have HA:Hid ((lo+18446744073709551616-dd)%18446744073709551616<18446744073709551616):=Nat.mod_lt _ (by decide);have HB:Hid (k-(if lo<dd then 1 else 0)≤22):=by rw[Hid];have h2:=HP.out.2.2.2.2.2;split <;> omega
   obtain⟨a0,es⟩:∃ n,(lo+18446744073709551616-dd)%18446744073709551616=n:=⟨_,rfl⟩
   obtain⟨b0,mB⟩:∃ n,k-(if lo<dd then 1 else 0)=n:=⟨_,rfl⟩
   rw[es]at HA;rw[mB]at HB;rw[es,mB];clear es mB Wo Rb;clear zy
   refine hK.out _ _ (fun _=>?_) (fun zy=>?_)
   ·exact⟨zV.cell 0 rfl,zV.cell 1 rfl,zV.cell 2 rfl,zV.cell 3 rfl,zS.cell 0 rfl,zS.cell 1 rfl,zS.cell 2 rfl,zS.cell 3 rfl,zX.cell 0 rfl,zX.cell 1 rfl,zX.cell 2 rfl,zX.cell 3 rfl⟩
   clear hK K;replace zy:=zy (by decide)
   try simp only[Act.put,zz1,zz2,zz3,zz4,zz5,zz6]
   refine To 9 rfl fun K hK=>?_
   rw[if_pos (by rfl)]
   refine zm _ _ _ rfl R (zW [a0,b0,0,0]) rfl rfl _ _ zV x8 rfl (xD _) fun w18 hR18 hg18=>?_
   refine Kz hK ?_
   clear hK K
   refine Wd ?_
   clear zy;have bU:=zX.grown hg18 (by intro hc;injection hc with hc;have:=ep.out;omega);have bY:=yh.grown hg18 yh.size (by rintro q ⟨⟩;have:=ep.out;omega);clear zX zV zS yh hg18;go_wp2_with fail
   go_meet
   exact⟨a0,b0,HA.out,HB.out,bU,hR18,bY⟩
  | false =>
  replace zX:=zX.drew;replace zV:=zV.drew;replace zS:=zS.drew;replace yh:=yh.drew;go_upto_region 16 with fail
  refine zw 9 (fun wx=>wx.cell? ⟨R,0,none⟩=some (.int .u64 (lo:Int))∧wx.cell? ⟨R,1,none⟩=some (.int .u64 (k:Int))∧wx.cell? ⟨R,2,none⟩=some (.int .u64 0)∧wx.cell? ⟨R,3,none⟩=some (.int .u64 0)∧wx.cell? ⟨Z,0,none⟩=some (.int .u64 (z0:Int))∧wx.cell? ⟨Z,1,none⟩=some (.int .u64 (z1:Int))∧wx.cell? ⟨Z,2,none⟩=some (.int .u64 (z2:Int))∧wx.cell? ⟨Z,3,none⟩=some (.int .u64 (z3:Int))∧wx.cell? ⟨w.heap.size,0,none⟩=some (.int .u64 0)∧wx.cell? ⟨w.heap.size,1,none⟩=some (.int .u64 0)∧wx.cell? ⟨w.heap.size,2,none⟩=some (.int .u64 (p:Int))∧wx.cell? ⟨w.heap.size,3,none⟩=some (.int .u64 0)) (by kernel_rfl) (⟨zV.cell 0 rfl,zV.cell 1 rfl,zV.cell 2 rfl,zV.cell 3 rfl,zS.cell 0 rfl,zS.cell 1 rfl,zS.cell 2 rfl,zS.cell 3 rfl,zX.cell 0 rfl,zX.cell 1 rfl,zX.cell 2 rfl,zX.cell 3 rfl⟩) (fun zy=>?_)
  refine Tk 0 rfl zy ?_
  refine Tk 1 rfl zy ?_
  refine Tk 2 rfl zy ?_
  refine Tk 5 rfl zy ?_
  refine To 3 rfl fun K hK=>?_
  go_simp
  refine(p8 (x:=[0,0,p,0]) (y:=[z0,z1,z2,z3]) rfl rfl _).mono ?_
  rintro e w13 ⟨mm,rfl,lA,uZ⟩
  replace zX:=zX.below uZ;replace zV:=zV.below uZ;replace zS:=zS.below uZ;replace yh:=yh.trans (uZ.mono yh.size);clear uZ;clear zy
  refine hK.out _ _ (fun _=>?_) (fun zy=>?_)
  ·exact⟨zV.cell 0 rfl,zV.cell 1 rfl,zV.cell 2 rfl,zV.cell 3 rfl,zS.cell 0 rfl,zS.cell 1 rfl,zS.cell 2 rfl,zS.cell 3 rfl,zX.cell 0 rfl,zX.cell 1 rfl,zX.cell 2 rfl,zX.cell 3 rfl⟩
  clear hK K;replace zy:=zy (by decide)
  try simp only[Act.put,zz1,zz2,zz3,zz4,zz5,zz6]
  refine To 4 rfl fun K hK=>?_
  go_simp
  refine(tY lA _).mono ?_
  rintro e w14 ⟨⟨fl,rfl⟩,wQ⟩
  replace zX:=zX.below wQ;replace zV:=zV.below wQ;replace zS:=zS.below wQ;replace yh:=yh.trans (wQ.mono yh.size);clear wQ;clear zy
  refine hK.out _ _ (fun _=>?_) (fun zy=>?_)
  ·exact⟨zV.cell 0 rfl,zV.cell 1 rfl,zV.cell 2 rfl,zV.cell 3 rfl,zS.cell 0 rfl,zS.cell 1 rfl,zS.cell 2 rfl,zS.cell 3 rfl,zX.cell 0 rfl,zX.cell 1 rfl,zX.cell 2 rfl,zX.cell 3 rfl⟩
  clear hK K;replace zy:=zy (by decide)
  try simp only[Act.put,zz1,zz2,zz3,zz4,zz5,zz6]
  refine To 6 rfl fun K hK=>?_
  rw[if_pos (by rfl)]
  refine fh _ _ _ _ _ rfl (by simp) _ _ rfl rfl fun fq w15 hw15=>?_
  replace zX:=zX.or hw15;replace zV:=zV.or hw15;replace zS:=zS.or hw15;replace yh:=xU yh hw15;clear hw15;clear zy
  refine hK.out _ _ (fun _=>?_) (fun zy=>?_)
  ·exact⟨zV.cell 0 rfl,zV.cell 1 rfl,zV.cell 2 rfl,zV.cell 3 rfl,zS.cell 0 rfl,zS.cell 1 rfl,zS.cell 2 rfl,zS.cell 3 rfl,zX.cell 0 rfl,zX.cell 1 rfl,zX.cell 2 rfl,zX.cell 3 rfl⟩
  clear hK K;replace zy:=zy (by decide)
  try simp only[Act.put,zz1,zz2,zz3,zz4,zz5,zz6]
  refine To 7 rfl fun K hK=>?_
  rw[if_pos (by rfl)]
  refine nU _ _ _ rfl (by kernel_rfl) (by kernel_rfl) _ rfl fun dd w16 Wo hw16=>?_
  replace zX:=zX.or hw16;replace zV:=zV.or hw16;replace zS:=zS.or hw16;replace yh:=xU yh hw16;clear hw16;clear zy
  refine hK.out _ _ (fun _=>?_) (fun zy=>?_)
  ·exact⟨zV.cell 0 rfl,zV.cell 1 rfl,zV.cell 2 rfl,zV.cell 3 rfl,zS.cell 0 rfl,zS.cell 1 rfl,zS.cell 2 rfl,zS.cell 3 rfl,zX.cell 0 rfl,zX.cell 1 rfl,zX.cell 2 rfl,zX.cell 3 rfl⟩
  clear hK K;replace zy:=zy (by decide)
  try simp only[Act.put,zz1,zz2,zz3,zz4,zz5,zz6]
  refine To 8 rfl fun K hK=>?_
  go_simp
  refine(sZ lo k 0 0 dd HM.out.2 Wo (by have h2:=HP.out.2.2.2.2.2;omega) _).mono ?_
  rintro e w17 ⟨rfl,sL⟩
  replace zX:=zX.below sL;replace zV:=zV.below sL;replace zS:=zS.below sL;replace yh:=yh.trans (sL.mono yh.size);clear sL;have HA:Hid ((lo+dd)%18446744073709551616<18446744073709551616):=Nat.mod_lt _ (by decide);have HB:Hid (k+(lo+dd)/18446744073709551616≤22):=by rw[Hid];have h1:=HM.out.2;have h2:=HP.out.2.2.2.2.2;omega
  obtain⟨a0,es⟩:∃ n,(lo+dd)%18446744073709551616=n:=⟨_,rfl⟩
  obtain⟨b0,mB⟩:∃ n,k+(lo+dd)/18446744073709551616=n:=⟨_,rfl⟩
  rw[es]at HA;rw[mB]at HB;rw[es,mB];clear es mB Wo Rb;clear zy
  refine hK.out _ _ (fun _=>?_) (fun zy=>?_)
  ·exact⟨zV.cell 0 rfl,zV.cell 1 rfl,zV.cell 2 rfl,zV.cell 3 rfl,zS.cell 0 rfl,zS.cell 1 rfl,zS.cell 2 rfl,zS.cell 3 rfl,zX.cell 0 rfl,zX.cell 1 rfl,zX.cell 2 rfl,zX.cell 3 rfl⟩
  clear hK K;replace zy:=zy (by decide)
  try simp only[Act.put,zz1,zz2,zz3,zz4,zz5,zz6]
  refine To 9 rfl fun K hK=>?_
  rw[if_pos (by rfl)]
  refine zm _ _ _ rfl R (zW [a0,b0,0,0]) rfl rfl _ _ zV x8 rfl (xD _) fun w18 hR18 hg18=>?_
  refine Kz hK ?_
  clear hK K
  refine Wd ?_
  clear zy;have bU:=zX.grown hg18 (by intro hc;injection hc with hc;have:=ep.out;omega);have bY:=yh.grown hg18 yh.size (by rintro q ⟨⟩;have:=ep.out;omega);clear zX zV zS yh hg18;go_wp2_with fail
  go_meet
  exact⟨a0,b0,HA.out,HB.out,bU,hR18,bY⟩
 case rest =>
 clear zX zV zS yh eo HZ HM bR;obtain⟨a,b,ha,zK,hG,hR,hb⟩:=hcut;have o3:=Hh (And.intro ha zK);clear ha zK;go_wp2_with fail
 go_loopw [72] (fun _ wr=>∃ (a b:Nat),Hid (a<18446744073709551616∧b≤22)∧Blk wr w.heap.size 211 (zW [0,0,p,0])∧Blk wr R 211 (zW [a,b,0,0])∧Below w.heap.size w wr) (fun _ wr=>i6 wr R)
 case atStart=>exact⟨a,b,o3,hG,hR,hb⟩
 case round =>
 clear o3 hG hR hb;clear a b;obtain⟨a,b,o3,hG,hR,hb⟩:=hrel;have TR:=Hh (tO hR)
 have g8:Hid (a<18446744073709551616∧b≤33∧num [a,b,0,0] ^ 2<18446744073709551616 ^ 4):=by
  refine⟨o3.out.1,Nat.le_trans o3.out.2 (by omega), ?_⟩
  rw[ej]
  refine sW (.inl rfl) ?_
  have h1:=o3.out.1;have h2:=o3.out.2
  omega
 replace hG:=hG.drew;replace hR:=hR.drew;replace hb:=hb.drew;go_upto_region 17 with fail
 refine zw 4 (fun wx=>wx.cell? ⟨R,0,none⟩=some (.int .u64 (a:Int))∧wx.cell? ⟨R,1,none⟩=some (.int .u64 (b:Int))∧wx.cell? ⟨R,2,none⟩=some (.int .u64 0)∧wx.cell? ⟨R,3,none⟩=some (.int .u64 0)∧wx.cell? ⟨w.heap.size,0,none⟩=some (.int .u64 0)∧wx.cell? ⟨w.heap.size,1,none⟩=some (.int .u64 0)∧wx.cell? ⟨w.heap.size,2,none⟩=some (.int .u64 (p:Int))∧wx.cell? ⟨w.heap.size,3,none⟩=some (.int .u64 0)) (by kernel_rfl) (⟨hR.cell 0 rfl,hR.cell 1 rfl,hR.cell 2 rfl,hR.cell 3 rfl,hG.cell 0 rfl,hG.cell 1 rfl,hG.cell 2 rfl,hG.cell 3 rfl⟩) (fun zy=>?_)
 refine Tk 0 rfl zy ?_
 refine Tk 1 rfl zy ?_
 refine Tk 2 rfl zy ?_
 refine To 3 rfl fun K hK=>?_
 go_simp
 refine(sY (x:=[a,b,0,0]) rfl (Za g8.out.1 g8.out.2.1) 2 (by omega) g8.out.2.2 _).mono ?_
 rintro e w21 ⟨z,rfl,lR,oO,iw,qj⟩
 replace hG:=hG.below qj;replace hR:=hR.below qj;replace hb:=hb.trans (qj.mono hb.size);clear qj;rw[ej]at iw;obtain⟨z0,z1,z2,z3,rfl⟩:=rS lR;have bp:=Hh (And.intro oO iw);clear lR oO iw;clear zy
 refine hK.out _ _ (fun _=>?_) (fun zy=>?_)
 ·exact⟨hR.cell 0 rfl,hR.cell 1 rfl,hR.cell 2 rfl,hR.cell 3 rfl,hG.cell 0 rfl,hG.cell 1 rfl,hG.cell 2 rfl,hG.cell 3 rfl⟩
 clear hK K;replace zy:=zy (by decide)
 try simp only[Act.put,zz1,zz2,zz3,zz4,zz5,zz6]
 refine To 4 rfl fun K hK=>?_
 go_simp
 refine(ow (x:=[0,0,p,0]) (y:=[z0,z1,z2,z3]) rfl rfl (gm HP.out.2.1) bp.out.1 _).mono ?_
 rintro e w22 ⟨bl,rfl,eo,qk⟩
 replace hG:=hG.below qk;replace hR:=hR.below qk;replace hb:=hb.trans (qk.mono hb.size);clear qk
 refine Kz hK ?_
 clear hK K
 refine Wd ?_
 clear zy;have qh:Hid (bl=decide (p*18446744073709551616 ^ 2<(a+18446744073709551616*b) ^ 2)):=by rw[Hid,eo.out,gW,bp.out.2]
 clear eo bp g8
 cases bl with
 | true =>
  have QF:Hid (18446744073709551616<a+18446744073709551616*b):=eL HP.out.1 (of_decide_eq_true qh.out.symm);clear qh;have d0:=hR.cell 0 (v:=.int .u64 (a:Int)) rfl;have d1:=hR.cell 1 (v:=.int .u64 (b:Int)) rfl;have d2:=hR.cell 2 (v:=.int .u64 0) rfl;have d3:=hR.cell 3 (v:=.int .u64 0) rfl;have LO:=Hh (fun w=>oz a b 0 0 1 (by have h1:=o3.out.2;omega) (by have h1:=QF.out;have h2:=o3.out.1;omega) w);go_wp2_with fail
  refine(LO.out _).mono ?_
  rintro e w23 ⟨rfl,ql⟩
  have Wb:Hid ((a+18446744073709551616-1)%18446744073709551616<18446744073709551616∧b-(if a<1 then 1 else 0)≤22∧(a+18446744073709551616-1)%18446744073709551616+18446744073709551616*(b-(if a<1 then 1 else 0))+1=a+18446744073709551616*b):=by
   have h1:=QF.out;have h2:=o3.out.1;have h3:=o3.out.2;rw[Hid]
   split <;> omega
  obtain⟨a2,l9⟩:∃ n,(a+18446744073709551616-1)%18446744073709551616=n:=⟨_,rfl⟩
  obtain⟨b2,zK⟩:∃ n,b-(if a<1 then 1 else 0)=n:=⟨_,rfl⟩
  rw[l9,zK]at Wb;rw[l9,zK];clear l9 zK LO QF d0 d1 d2 d3;replace hG:=hG.below ql;replace hR:=hR.below ql;replace hb:=hb.trans (ql.mono hb.size);clear ql;go_wp2_with (with_reducible refine zx ?_)
  refine zv rfl _ _ _ rfl rfl R (zW [a2,b2,0,0]) rfl rfl _ _ hR x8 rfl (xD _) fun w24 hR24 hg24=>?_
  have bV:=hG.grown hg24 (by intro hc;injection hc with hc;have:=ep.out;omega);have bZ:=hb.grown hg24 hb.size (by rintro q ⟨⟩;have:=ep.out;omega);clear hG hR hb hg24;go_wp2_with fail
  go_roundw
  case rel=>exact⟨a2,b2,⟨Wb.out.1,Wb.out.2.1⟩,bV,hR24,bZ⟩
  case measure=>rw[TR.out,tO hR24];have h1:=Wb.out.2.2;omega
 | false =>
 have Yn:Hid ((a+18446744073709551616*b) ^ 2≤p*18446744073709551616 ^ 2):=Nat.le_of_not_lt (of_decide_eq_false qh.out.symm);have Ym:Hid (a<18446744073709551616):=o3.out.1;clear qh TR o3;go_wp2_with fail
 go_loopw [81] (fun _ wr=>∃ (a b:Nat),Hid (a<18446744073709551616)∧Hid ((a+18446744073709551616*b) ^ 2≤p*18446744073709551616 ^ 2)∧Blk wr w.heap.size 211 (zW [0,0,p,0])∧Blk wr R 211 (zW [a,b,0,0])∧Below w.heap.size w wr) (fun _ wr=>32*18446744073709551616-i6 wr R)
 case atStart=>exact⟨a,b,Ym,Yn,hG,hR,hb⟩
 case round =>
 clear Ym Yn hG hR hb;obtain⟨a,b,Ym,Yn,hG,hR,hb⟩:=hrel;have TR:=Hh (tO hR);have Mc:Hid (a+18446744073709551616*b<32*18446744073709551616):=eK (.inl rfl) HP.out.2.1 Yn.out
 have mh:Hid (a<18446744073709551616∧b≤31∧(a+1)%18446744073709551616<18446744073709551616∧b+(a+1)/18446744073709551616≤32∧(a+1)%18446744073709551616+18446744073709551616*(b+(a+1)/18446744073709551616)=a+18446744073709551616*b+1):=by
  have h1:=Ym.out;have h2:=Mc.out;rw[Hid]
  omega
 obtain⟨a2,l9⟩:∃ n,(a+1)%18446744073709551616=n:=⟨_,rfl⟩
 obtain⟨b2,zK⟩:∃ n,b+(a+1)/18446744073709551616=n:=⟨_,rfl⟩
 have ig:=Hh (And.intro l9 zK);rw[l9,zK]at mh;clear l9 zK
 have g8:Hid (a2<18446744073709551616∧b2≤33∧num [a2,b2,0,0] ^ 2<18446744073709551616 ^ 4):=by
  refine⟨mh.out.2.2.1,Nat.le_trans mh.out.2.2.2.1 (by omega), ?_⟩
  rw[ej]
  refine sW (.inl rfl) ?_
  have h1:=mh.out.2.2.1;have h2:=mh.out.2.2.2.1
  omega
 replace hG:=hG.drew;replace hR:=hR.drew;replace hb:=hb.drew;go_upto_region 19 with fail
 refine zw 6 (fun wx=>wx.cell? ⟨R,0,none⟩=some (.int .u64 (a:Int))∧wx.cell? ⟨R,1,none⟩=some (.int .u64 (b:Int))∧wx.cell? ⟨R,2,none⟩=some (.int .u64 0)∧wx.cell? ⟨R,3,none⟩=some (.int .u64 0)∧wx.cell? ⟨w.heap.size,0,none⟩=some (.int .u64 0)∧wx.cell? ⟨w.heap.size,1,none⟩=some (.int .u64 0)∧wx.cell? ⟨w.heap.size,2,none⟩=some (.int .u64 (p:Int))∧wx.cell? ⟨w.heap.size,3,none⟩=some (.int .u64 0)) (by kernel_rfl) (⟨hR.cell 0 rfl,hR.cell 1 rfl,hR.cell 2 rfl,hR.cell 3 rfl,hG.cell 0 rfl,hG.cell 1 rfl,hG.cell 2 rfl,hG.cell 3 rfl⟩) (fun zy=>?_)
 refine Tk 0 rfl zy ?_
 refine Tk 1 rfl zy ?_
 refine Tk 3 rfl zy ?_
 refine To 2 rfl fun K hK=>?_
 go_simp
 refine(sZ a b 0 0 1 mh.out.1 (by omega) (by have h1:=mh.out.2.1;omega) _).mono ?_
 rintro e w20 ⟨rfl,fo⟩
 replace hG:=hG.below fo;replace hR:=hR.below fo;replace hb:=hb.trans (fo.mono hb.size);clear fo;rw[ig.out.1,ig.out.2];clear zy
 refine hK.out _ _ (fun _=>?_) (fun zy=>?_)
 ·exact⟨hR.cell 0 rfl,hR.cell 1 rfl,hR.cell 2 rfl,hR.cell 3 rfl,hG.cell 0 rfl,hG.cell 1 rfl,hG.cell 2 rfl,hG.cell 3 rfl⟩
 clear hK K;replace zy:=zy (by decide)
 try simp only[Act.put,zz1,zz2,zz3,zz4,zz5,zz6]
 refine To 4 rfl fun K hK=>?_
 go_simp
 refine(sY (x:=[a2,b2,0,0]) rfl (Za g8.out.1 g8.out.2.1) 2 (by omega) g8.out.2.2 _).mono ?_
 rintro e w21 ⟨z,rfl,lR,oO,iw,qj⟩
 replace hG:=hG.below qj;replace hR:=hR.below qj;replace hb:=hb.trans (qj.mono hb.size);clear qj;rw[ej]at iw;obtain⟨z0,z1,z2,z3,rfl⟩:=rS lR;have bp:=Hh (And.intro oO iw);clear lR oO iw;clear zy
 refine hK.out _ _ (fun _=>?_) (fun zy=>?_)
 ·exact⟨hR.cell 0 rfl,hR.cell 1 rfl,hR.cell 2 rfl,hR.cell 3 rfl,hG.cell 0 rfl,hG.cell 1 rfl,hG.cell 2 rfl,hG.cell 3 rfl⟩
 clear hK K;replace zy:=zy (by decide)
 try simp only[Act.put,zz1,zz2,zz3,zz4,zz5,zz6]
 refine To 5 rfl fun K hK=>?_
 go_simp
 refine(ow (x:=[0,0,p,0]) (y:=[z0,z1,z2,z3]) rfl rfl (gm HP.out.2.1) bp.out.1 _).mono ?_
 rintro e w22 ⟨bl,rfl,eo,qk⟩
 replace hG:=hG.below qk;replace hR:=hR.below qk;replace hb:=hb.trans (qk.mono hb.size);clear qk;clear zy
 refine hK.out _ _ (fun _=>?_) (fun zy=>?_)
 ·exact⟨hR.cell 0 rfl,hR.cell 1 rfl,hR.cell 2 rfl,hR.cell 3 rfl,hG.cell 0 rfl,hG.cell 1 rfl,hG.cell 2 rfl,hG.cell 3 rfl⟩
 clear hK K;replace zy:=zy (by decide)
 try simp only[Act.put,zz1,zz2,zz3,zz4,zz5,zz6]
 refine To 6 rfl fun K hK=>?_
 go_simp
 refine Kz hK ?_
 clear hK K
 refine Wd ?_
 clear zy;have qh:Hid (bl=decide (p*18446744073709551616 ^ 2<(a+18446744073709551616*b+1) ^ 2)):=by rw[Hid,eo.out,gW,bp.out.2,mh.out.2.2.2.2]
 clear eo bp g8;have d0:=hR.cell 0 (v:=.int .u64 (a:Int)) rfl;have d1:=hR.cell 1 (v:=.int .u64 (b:Int)) rfl;have d2:=hR.cell 2 (v:=.int .u64 0) rfl;have d3:=hR.cell 3 (v:=.int .u64 0) rfl
 cases bl with
 | true =>
  have Ii:Hid (a=c):=by
   have h1:=ZF (.inl rfl) HP.out.2.2.1 HP.out.2.2.2.1 Yn.out (of_decide_eq_true qh.out.symm);have h2:=Ym.out;rw[Hid]
   omega
  rw[Ii.out]at d0;clear qh
  simp only[Bool.not_true]
  go_wp2_with fail
  go_ret
  exact⟨rfl,hb⟩
 | false =>
 have PN:Hid ((a2+18446744073709551616*b2) ^ 2≤p*18446744073709551616 ^ 2):=by
  have h1:=Nat.le_of_not_lt (of_decide_eq_false qh.out.symm);rw[← mh.out.2.2.2.2]at h1
  exact h1
 clear qh;have RA:=Hh (fun w=>sZ a b 0 0 1 mh.out.1 (by omega) (by have h1:=mh.out.2.1;omega) w)
 simp only[Bool.not_false]
 go_wp2_with fail
 refine(RA.out _).mono ?_
 rintro e w23 ⟨rfl,ql⟩
 rw[ig.out.1,ig.out.2];replace hG:=hG.below ql;replace hR:=hR.below ql;replace hb:=hb.trans (ql.mono hb.size);clear ql RA d0 d1 d2 d3;go_wp2_with (with_reducible refine zx ?_)
 refine zv rfl _ _ _ rfl rfl R (zW [a2,b2,0,0]) rfl rfl _ _ hR x8 rfl (xD _) fun w24 hR24 hg24=>?_
 have bV:=hG.grown hg24 (by intro hc;injection hc with hc;have:=ep.out;omega);have bZ:=hb.grown hg24 hb.size (by rintro q ⟨⟩;have:=ep.out;omega);clear hG hR hb hg24;go_wp2_with fail
 go_roundw
 case rel=>exact⟨a2,b2,mh.out.2.2.1,PN,bV,hR24,bZ⟩
 case measure=>rw[TR.out,tO hR24];have h1:=mh.out.2.2.2.2;have h2:=Mc.out;omega
end Go.Proofs.YtliomcphdnppnaaGreatDoor
