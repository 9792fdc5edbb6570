/- squeezed. SHA-256: the fraction of a root of -/
import Derived.Test.YtjpcnhncoidliaaGreatDoorK15
import Derived.Deep.DeepCutAuto
import Derived.Deep.CutBlock
set_option linter.unusedVariables false
set_option linter.unusedSimpArgs false
set_option maxRecDepth 100000
set_option maxHeartbeats 6400000
namespace Go.Proofs.YtjpcnhncoidliaaGreatDoor
open Go.RowKit
def oq (p:Nat):Bool:=RR (OW p)&&RR (OE p)&&iQ (floatOfInt .f64 (p:Int))&&decide (1≤p)&&decide (p<1000)
def eY (w:World) (R:Nat):Nat :=
 (match w.cell? ⟨R,0,none⟩ with | some (.int _ n)=>n.toNat | _=>0)+18446744073709551616*(match w.cell? ⟨R,1,none⟩ with | some (.int _ n)=>n.toNat | _=>0)
theorem rm {w:World}{R a b:Nat}{t:TypeId}(h:Blk w R t (zM [a,b,0,0])):eY w R=a+18446744073709551616*b:=by
 have h0:w.cell? ⟨R,0,none⟩=some (.int .u64 (a:Int)):=h.cell 0 rfl;have h1:w.cell? ⟨R,1,none⟩=some (.int .u64 (b:Int)):=h.cell 1 rfl;rw[eY,h0,h1]
 simp
theorem bj (a b:Nat):num [a,b,0,0]=a+18446744073709551616*b:=by simp[num]
theorem eC (p:Nat):num [0,0,p,0]=p*18446744073709551616 ^ 2:=by simp[num];omega
theorem eD (p:Nat):num [0,0,0,p]=p*18446744073709551616 ^ 3:=by simp[num];omega
theorem Xn {a b:Nat}(ha:a<18446744073709551616) (hb:b≤33):W64 [a,b,0,0]:=by
 intro x hx
 simp at hx
 omega
theorem eT {p:Nat}(h:p<1000):W64 [0,0,p,0]:=by
 intro x hx
 simp at hx
 omega
theorem eU {p:Nat}(h:p<1000):W64 [0,0,0,p]:=by
 intro x hx
 simp at hx
 omega
theorem nO {x y:List Nat}(hx:x.length=4) (hy:y.length=4) (fW:W64 x) (hyw:W64 y) (w:World) :
 Calls Tryz.prog 108 #[.agg (zM x),.agg (zM y)] w fun e w'=>∃ bl,e=.returned (.bool bl)∧Hid (bl=decide (num x<num y))∧Below w.heap.size w w' :=
 (gk hx hy fW hyw w).mono fun _ _ h=>⟨_,h.1,rfl,h.2⟩
theorem f7 (p c:Nat) (hp:oq p=true) (hc:c<18446744073709551616) (hf:o7 2 p c=true) (w:World) :
 Calls Tryz.prog 97 #[.int .u64 (p:Int),.int .i64 2] w fun e w'=>e=.returned (.int .u64 (c:Int))∧Below w.heap.size w w':=by
 unfold oq at hp
 simp only[Bool.and_eq_true,decide_eq_true_eq]at hp
 obtain⟨⟨⟨⟨cN,_⟩,_⟩,SU⟩,hp5⟩:=hp;obtain⟨f,g,k,e1,e2,e3,pX,Ub⟩:=ji cN;have SQ:=Hh (fun w=>eB (floatOfInt .f64 (p:Int)) f e1 w);have FL:=Hh (fun w=>gB f g e2 w);have CV:=fun w=>run_convert_float_int (P:=Tryz.prog) w 155 75 .f64 .u64 g (k:Int) (by kernel_rfl) (by kernel_rfl) e3
 have HP:=Hh (And.intro SU (And.intro hp5 (And.intro hc (And.intro hf (And.intro pX Ub)))));have ed:=Blk.new w 154 #[.int .u64 0,.int .u64 0,.int .u64 0,.int .u64 0];have yZ:=zl w (.cells #[.int .u64 0,.int .u64 0,.int .u64 0,.int .u64 0] 154);clear cN SU hp5 e1 e2 e3 pX Ub hc hf;go_enter Tryz.func97,Tryz.ntmps97
 go_wp2_with (with_reducible refine zx ?_)
 refine zr rfl _ _ _ rfl rfl w.heap.size 2 (.int .u64 (p:Int)) rfl rfl _ _ ed tr (by simp) rfl fun w2 hG hg2=>?_
 have hb:=yZ.grown hg2 yZ.size (by rintro q ⟨⟩;exact Nat.le_refl _);replace hG:Blk w2 w.heap.size 154 (zM [0,0,p,0]):=hG;clear ed yZ hg2;go_wp2_with fail
 refine(SQ.out _).mono ?_
 rintro e w3 ⟨rfl,rfl⟩
 go_wp2_with fail
 refine(FL.out _).mono ?_
 rintro e w3 ⟨rfl,rfl⟩
 clear SQ FL;go_wp2_with (with_reducible refine ro ?_)
 refine uD rfl _ _ _ _ _ rfl (by simp) _ _ rfl rfl fun r1 w4 fU=>?_
 have uv:=hG.or fU;have sW:=xA hb fU;go_wp2_with (with_reducible refine ro ?_)
 refine uD rfl _ _ _ _ _ rfl (by simp) _ _ rfl rfl fun r2 w5 hw5=>?_
 have xC:=uv.or hw5;have xz:=xA sW hw5;go_wp2_with (with_reducible refine gM ?_)
 refine ki rfl _ _ _ rfl (by kernel_rfl) (by kernel_rfl) _ rfl fun m w6 hm pE=>?_
 have zK:=xC.or pE;have y9:=xA xz pE;clear hG hb uv sW xC xz fU hw5 pE
 obtain⟨lo,Qh,Ue⟩:∃ n:Nat,IntKind.u64.wrap ((m:Int)*2)=(n:Int)∧n<18446744073709551616:=by
  rw[IntKind.wrap_u64]
  exact⟨((m:Int)*2%18446744073709551616).toNat,by omega,by omega⟩
 have hR:=Blk.new w6 154 (zM [lo,k,0,0]);have uw:=zK.alloc (.cells (zM [lo,k,0,0]) 154);have xU:=y9.alloc y9.size (.cells (zM [lo,k,0,0]) 154);obtain⟨R,SH⟩:∃ R,w6.heap.size=R:=⟨_,rfl⟩
 have Mw:w.heap.size<R:=by rw[← SH];exact zK.lt
 rw[SH]at hR;have ID:=Hh SH;have bp:=Hh Mw;have HM:=Hh (And.intro hm Ue);clear zK y9 SH Mw hm Ue;go_wp2_with fail
 rw[ID.out];go_loopw [9,37] (fun v9 v37 wr=>∃ (j s:Nat),v37=.int .i64 (j:Int)∧j≤1∧v9=.float .f64 s∧Blk wr w.heap.size 154 (zM [0,0,p,0])∧Blk wr R 154 (zM [lo,k,0,0])∧Below w.heap.size w wr) (fun _ v37 _=>(1-intOf v37).toNat)
 case atStart=>exact⟨0,_,rfl,by omega,rfl,uw,hR,xU⟩
 case round =>
 clear uw hR xU CV;obtain⟨j,s,rfl,Sr,rfl,hG,hR,hb⟩:=hrel;have d0:wr.cell? ⟨R,0,none⟩=some (.int .u64 (lo:Int)):=hR.cell 0 rfl;have d1:wr.cell? ⟨R,1,none⟩=some (.int .u64 (k:Int)):=hR.cell 1 rfl;have d2:wr.cell? ⟨R,2,none⟩=some (.int .u64 0):=hR.cell 2 rfl;have d3:wr.cell? ⟨R,3,none⟩=some (.int .u64 0):=hR.cell 3 rfl
 by_cases yy:(j:Int)<1
 ·have F:=Hh (sF (x:=[lo,k,0,0]) rfl wr);have sv:=Hh yy;go_wp2_with fail
  refine F.out.mono ?_
  rintro e w8 ⟨⟨fl,rfl⟩,pj⟩
  have ra:=hG.below pj;have N5:=hR.below pj;have nA:=hb.trans (pj.mono hb.size);clear F d0 d1 d2 d3 hG hR hb pj;go_wp2_with (with_reducible refine ro ?_)
  refine uD rfl _ _ _ _ _ rfl (by simp) _ _ rfl rfl fun s2 w9 Va=>?_
  have tZ:=ra.or Va;have Ze:=N5.or Va;have uN:=xA nA Va;clear ra N5 nA Va;go_wp2_with fail
  go_roundw
  case rel=>exact⟨j+1,s2,by go_num,by have:=sv.out;omega,rfl,tZ,Ze,uN⟩
  case measure=>have:=sv.out;simp[intOf];omega
 have QW:num [lo,k,0,0] ^ 2<18446744073709551616 ^ 4:=by
  refine qo (.inl rfl) ?_
  have h1:=HM.out.2;have h2:=HP.out.2.2.2.2.2;have e:num [lo,k,0,0]=lo+18446744073709551616*(k+18446744073709551616*(0+18446744073709551616*(0+18446744073709551616*0))):=rfl
  omega
 have PW:=Hh (qp (x:=[lo,k,0,0]) rfl (by have h1:=HM.out.2;have h2:=HP.out.2.2.2.2.2;intro a ha;simp at ha;omega) 2 (by omega) QW wr);clear QW;go_wp2_with fail
 refine PW.out.mono ?_
 rintro e w10 ⟨z,rfl,iu,mT,fP,xY⟩
 obtain⟨z0,z1,z2,z3,rfl⟩:=pZ iu;rw[show zM [z0,z1,z2,z3]=#[.int .u64 (z0:Int),.int .u64 (z1:Int),.int .u64 (z2:Int),.int .u64 (z3:Int)] from rfl];obtain⟨w11,k9⟩:∃ w11,w10.alloc (.cells #[.int .u64 (z0:Int),.int .u64 (z1:Int),.int .u64 (z2:Int),.int .u64 (z3:Int)] 154)=w11:=⟨_,rfl⟩
 have wZ:Blk w11 w.heap.size 154 (zM [0,0,p,0]):=by rw[← k9];exact(hG.below xY).alloc _
 have UW:Blk w11 R 154 (zM [lo,k,0,0]):=by rw[← k9];exact(hR.below xY).alloc _
 have nA:Below w.heap.size w w11:=by rw[← k9];exact(hb.trans (xY.mono hb.size)).alloc (Nat.le_trans hb.size xY.size) _
 obtain⟨Z,Pv⟩:∃ Z,w10.heap.size=Z:=⟨_,rfl⟩
 have jx:Blk w11 Z 154 (zM [z0,z1,z2,z3]):=by rw[← k9,← Pv];exact Blk.new w10 154 _
 have Z5:=Hh (And.intro k9 Pv);have HZ:=Hh (And.intro mT fP);have LS:=Hh (gk (x:=[0,0,p,0]) (y:=[z0,z1,z2,z3]) rfl rfl (by have h2:=HP.out.2.1;intro a ha;simp at ha;omega) mT w11);obtain⟨bl,rM⟩:∃ b,decide (num [0,0,p,0]<num [z0,z1,z2,z3])=b:=⟨_,rfl⟩
 rw[rM]at LS;have iD:=Hh rM;clear iu mT fP PW xY hG hR hb d0 d1 d2 d3 rM k9 Pv;have g0:w11.cell? ⟨w.heap.size,0,none⟩=some (.int .u64 0):=wZ.cell 0 rfl;have g1:w11.cell? ⟨w.heap.size,1,none⟩=some (.int .u64 0):=wZ.cell 1 rfl;have g2:w11.cell? ⟨w.heap.size,2,none⟩=some (.int .u64 (p:Int)):=wZ.cell 2 rfl;have g3:w11.cell? ⟨w.heap.size,3,none⟩=some (.int .u64 0):=wZ.cell 3 rfl;have y0:w11.cell? ⟨Z,0,none⟩=some (.int .u64 (z0:Int)):=jx.cell 0 rfl;have y1:w11.cell? ⟨Z,1,none⟩=some (.int .u64 (z1:Int)):=jx.cell 1 rfl;have y2:w11.cell? ⟨Z,2,none⟩=some (.int .u64 (z2:Int)):=jx.cell 2 rfl;have y3:w11.cell? ⟨Z,3,none⟩=some (.int .u64 (z3:Int)):=jx.cell 3 rfl;go_upto_region 14 with fail
 rw[Z5.out.1,Z5.out.2];go_wp2_with fail
 refine LS.out.mono ?_
 rintro e w12 ⟨rfl,yP⟩
 have zR:=wZ.below yP;have zL:=UW.below yP;have zJ:=jx.below yP;replace yP:=nA.trans (yP.mono nA.size);clear g0 g1 g2 g3 y0 y1 y2 y3 wZ UW jx LS nA;go_upto_if 49 with fail
 go_cut [] (fun wx=>∃ (a b:Nat),a<18446744073709551616∧b≤22∧Blk wx w.heap.size 154 (zM [0,0,p,0])∧Blk wx R 154 (zM [a,b,0,0])∧Below w.heap.size w wx)
 case first =>
  cases bl with
  | true =>
   replace zR:=zR.drew;replace zL:=zL.drew;replace zJ:=zJ.drew;replace yP:=yP.drew;go_upto_region 15 with fail
   refine zn 9 (fun wx=>wx.cell? ⟨R,0,none⟩=some (.int .u64 (lo:Int))∧wx.cell? ⟨R,1,none⟩=some (.int .u64 (k:Int))∧wx.cell? ⟨R,2,none⟩=some (.int .u64 0)∧wx.cell? ⟨R,3,none⟩=some (.int .u64 0)∧wx.cell? ⟨Z,0,none⟩=some (.int .u64 (z0:Int))∧wx.cell? ⟨Z,1,none⟩=some (.int .u64 (z1:Int))∧wx.cell? ⟨Z,2,none⟩=some (.int .u64 (z2:Int))∧wx.cell? ⟨Z,3,none⟩=some (.int .u64 (z3:Int))∧wx.cell? ⟨w.heap.size,0,none⟩=some (.int .u64 0)∧wx.cell? ⟨w.heap.size,1,none⟩=some (.int .u64 0)∧wx.cell? ⟨w.heap.size,2,none⟩=some (.int .u64 (p:Int))∧wx.cell? ⟨w.heap.size,3,none⟩=some (.int .u64 0)) (by kernel_rfl) (⟨zL.cell 0 rfl,zL.cell 1 rfl,zL.cell 2 rfl,zL.cell 3 rfl,zJ.cell 0 rfl,zJ.cell 1 rfl,zJ.cell 2 rfl,zJ.cell 3 rfl,zR.cell 0 rfl,zR.cell 1 rfl,zR.cell 2 rfl,zR.cell 3 rfl⟩) (fun zy=>?_)
   refine Tk 0 rfl zy ?_
   refine Tk 1 rfl zy ?_
   refine Tk 2 rfl zy ?_
   refine Tk 5 rfl zy ?_
   refine To 3 rfl fun K hK=>?_
   go_simp
   refine(nQ (x:=[z0,z1,z2,z3]) (y:=[0,0,p,0]) rfl rfl _).mono ?_
   rintro e w13 ⟨mm,rfl,VE,rr⟩
   replace zR:=zR.below rr;replace zL:=zL.below rr;replace zJ:=zJ.below rr;replace yP:=yP.trans (rr.mono yP.size);clear rr;clear zy
   refine hK.out _ _ (fun _=>?_) (fun zy=>?_)
   ·exact⟨zL.cell 0 rfl,zL.cell 1 rfl,zL.cell 2 rfl,zL.cell 3 rfl,zJ.cell 0 rfl,zJ.cell 1 rfl,zJ.cell 2 rfl,zJ.cell 3 rfl,zR.cell 0 rfl,zR.cell 1 rfl,zR.cell 2 rfl,zR.cell 3 rfl⟩
   clear hK K;replace zy:=zy (by decide)
   try simp only[Act.put,zz1,zz2,zz3,zz4,zz5,zz6]
   refine To 4 rfl fun K hK=>?_
   go_simp
   refine(sF VE _).mono ?_
   rintro e w14 ⟨⟨fl,rfl⟩,rs⟩
   replace zR:=zR.below rs;replace zL:=zL.below rs;replace zJ:=zJ.below rs;replace yP:=yP.trans (rs.mono yP.size);clear rs;clear zy
   refine hK.out _ _ (fun _=>?_) (fun zy=>?_)
   ·exact⟨zL.cell 0 rfl,zL.cell 1 rfl,zL.cell 2 rfl,zL.cell 3 rfl,zJ.cell 0 rfl,zJ.cell 1 rfl,zJ.cell 2 rfl,zJ.cell 3 rfl,zR.cell 0 rfl,zR.cell 1 rfl,zR.cell 2 rfl,zR.cell 3 rfl⟩
   clear hK K;replace zy:=zy (by decide)
   try simp only[Act.put,zz1,zz2,zz3,zz4,zz5,zz6]
   refine To 6 rfl fun K hK=>?_
   rw[if_pos (by rfl)]
   refine dN _ _ _ _ _ rfl (by simp) _ _ rfl rfl fun fq w15 hw15=>?_
   replace zR:=zR.or hw15;replace zL:=zL.or hw15;replace zJ:=zJ.or hw15;replace yP:=xA yP hw15;clear hw15;clear zy
   refine hK.out _ _ (fun _=>?_) (fun zy=>?_)
   ·exact⟨zL.cell 0 rfl,zL.cell 1 rfl,zL.cell 2 rfl,zL.cell 3 rfl,zJ.cell 0 rfl,zJ.cell 1 rfl,zJ.cell 2 rfl,zJ.cell 3 rfl,zR.cell 0 rfl,zR.cell 1 rfl,zR.cell 2 rfl,zR.cell 3 rfl⟩
   clear hK K;replace zy:=zy (by decide)
   try simp only[Act.put,zz1,zz2,zz3,zz4,zz5,zz6]
   refine To 7 rfl fun K hK=>?_
   rw[if_pos (by rfl)]
   refine ku _ _ _ rfl (by kernel_rfl) (by kernel_rfl) _ rfl fun dd w16 V4 hw16=>?_
   replace zR:=zR.or hw16;replace zL:=zL.or hw16;replace zJ:=zJ.or hw16;replace yP:=xA yP hw16;clear hw16;clear zy
   refine hK.out _ _ (fun _=>?_) (fun zy=>?_)
   ·exact⟨zL.cell 0 rfl,zL.cell 1 rfl,zL.cell 2 rfl,zL.cell 3 rfl,zJ.cell 0 rfl,zJ.cell 1 rfl,zJ.cell 2 rfl,zJ.cell 3 rfl,zR.cell 0 rfl,zR.cell 1 rfl,zR.cell 2 rfl,zR.cell 3 rfl⟩
   clear hK K;replace zy:=zy (by decide)
   try simp only[Act.put,zz1,zz2,zz3,zz4,zz5,zz6]
   refine To 8 rfl fun K hK=>?_
   go_simp
   refine(nP lo k 0 0 dd (by have h2:=HP.out.2.2.2.2.2;omega) HP.out.2.2.2.2.1 _).mono ?_
   rintro e w17 ⟨rfl,qe⟩
   replace zR:=zR.below qe;replace zL:=zL.below qe;replace zJ:=zJ.below qe;replace yP:=yP.trans (qe.mono yP.size);clear qe;have HA:Hid ((lo+18446744073709551616-dd)%18446744073709551616<18446744073709551616):=Nat.mod_lt _ (by decide);have HB:Hid (k-(if lo<dd then 1 else 0)≤22):=by rw[Hid];have h2:=HP.out.2.2.2.2.2;split <;> omega
   obtain⟨a0,cD⟩:∃ n,(lo+18446744073709551616-dd)%18446744073709551616=n:=⟨_,rfl⟩
   obtain⟨b0,pG⟩:∃ n,k-(if lo<dd then 1 else 0)=n:=⟨_,rfl⟩
   rw[cD]at HA;rw[pG]at HB;rw[cD,pG];clear cD pG V4 Qh;clear zy
   refine hK.out _ _ (fun _=>?_) (fun zy=>?_)
   ·exact⟨zL.cell 0 rfl,zL.cell 1 rfl,zL.cell 2 rfl,zL.cell 3 rfl,zJ.cell 0 rfl,zJ.cell 1 rfl,zJ.cell 2 rfl,zJ.cell 3 rfl,zR.cell 0 rfl,zR.cell 1 rfl,zR.cell 2 rfl,zR.cell 3 rfl⟩
   clear hK K;replace zy:=zy (by decide)
   try simp only[Act.put,zz1,zz2,zz3,zz4,zz5,zz6]
   refine To 9 rfl fun K hK=>?_
   rw[if_pos (by rfl)]
   refine zF _ _ _ rfl R (zM [a0,b0,0,0]) rfl rfl _ _ zL wE rfl (wP _) fun w18 hR18 hg18=>?_
   refine Kz hK ?_
   clear hK K
   refine Wd ?_
   clear zy;have sU:=zR.grown hg18 (by intro hc;injection hc with hc;have:=bp.out;omega);have ZG:=yP.grown hg18 yP.size (by rintro q ⟨⟩;have:=bp.out;omega);clear zR zL zJ yP hg18;go_wp2_with fail
   go_meet
   exact⟨a0,b0,HA.out,HB.out,sU,hR18,ZG⟩
  | false =>
  replace zR:=zR.drew;replace zL:=zL.drew;replace zJ:=zJ.drew;replace yP:=yP.drew;go_upto_region 16 with fail
  refine zn 9 (fun wx=>wx.cell? ⟨R,0,none⟩=some (.int .u64 (lo:Int))∧wx.cell? ⟨R,1,none⟩=some (.int .u64 (k:Int))∧wx.cell? ⟨R,2,none⟩=some (.int .u64 0)∧wx.cell? ⟨R,3,none⟩=some (.int .u64 0)∧wx.cell? ⟨Z,0,none⟩=some (.int .u64 (z0:Int))∧wx.cell? ⟨Z,1,none⟩=some (.int .u64 (z1:Int))∧wx.cell? ⟨Z,2,none⟩=some (.int .u64 (z2:Int))∧wx.cell? ⟨Z,3,none⟩=some (.int .u64 (z3:Int))∧wx.cell? ⟨w.heap.size,0,none⟩=some (.int .u64 0)∧wx.cell? ⟨w.heap.size,1,none⟩=some (.int .u64 0)∧wx.cell? ⟨w.heap.size,2,none⟩=some (.int .u64 (p:Int))∧wx.cell? ⟨w.heap.size,3,none⟩=some (.int .u64 0)) (by kernel_rfl) (⟨zL.cell 0 rfl,zL.cell 1 rfl,zL.cell 2 rfl,zL.cell 3 rfl,zJ.cell 0 rfl,zJ.cell 1 rfl,zJ.cell 2 rfl,zJ.cell 3 rfl,zR.cell 0 rfl,zR.cell 1 rfl,zR.cell 2 rfl,zR.cell 3 rfl⟩) (fun zy=>?_)
  refine Tk 0 rfl zy ?_
  refine Tk 1 rfl zy ?_
  refine Tk 2 rfl zy ?_
  refine Tk 5 rfl zy ?_
  refine To 3 rfl fun K hK=>?_
  go_simp
  refine(nQ (x:=[0,0,p,0]) (y:=[z0,z1,z2,z3]) rfl rfl _).mono ?_
  rintro e w13 ⟨mm,rfl,VE,rr⟩
  replace zR:=zR.below rr;replace zL:=zL.below rr;replace zJ:=zJ.below rr;replace yP:=yP.trans (rr.mono yP.size);clear rr;clear zy
  refine hK.out _ _ (fun _=>?_) (fun zy=>?_)
  ·exact⟨zL.cell 0 rfl,zL.cell 1 rfl,zL.cell 2 rfl,zL.cell 3 rfl,zJ.cell 0 rfl,zJ.cell 1 rfl,zJ.cell 2 rfl,zJ.cell 3 rfl,zR.cell 0 rfl,zR.cell 1 rfl,zR.cell 2 rfl,zR.cell 3 rfl⟩
  clear hK K;replace zy:=zy (by decide)
  try simp only[Act.put,zz1,zz2,zz3,zz4,zz5,zz6]
  refine To 4 rfl fun K hK=>?_
  go_simp
  refine(sF VE _).mono ?_
  rintro e w14 ⟨⟨fl,rfl⟩,rs⟩
  replace zR:=zR.below rs;replace zL:=zL.below rs;replace zJ:=zJ.below rs;replace yP:=yP.trans (rs.mono yP.size);clear rs;clear zy
  refine hK.out _ _ (fun _=>?_) (fun zy=>?_)
  ·exact⟨zL.cell 0 rfl,zL.cell 1 rfl,zL.cell 2 rfl,zL.cell 3 rfl,zJ.cell 0 rfl,zJ.cell 1 rfl,zJ.cell 2 rfl,zJ.cell 3 rfl,zR.cell 0 rfl,zR.cell 1 rfl,zR.cell 2 rfl,zR.cell 3 rfl⟩
  clear hK K;replace zy:=zy (by decide)
  try simp only[Act.put,zz1,zz2,zz3,zz4,zz5,zz6]
  refine To 6 rfl fun K hK=>?_
  rw[if_pos (by rfl)]
  refine dN _ _ _ _ _ rfl (by simp) _ _ rfl rfl fun fq w15 hw15=>?_
  replace zR:=zR.or hw15;replace zL:=zL.or hw15;replace zJ:=zJ.or hw15;replace yP:=xA yP hw15;clear hw15;clear zy
  refine hK.out _ _ (fun _=>?_) (fun zy=>?_)
  ·exact⟨zL.cell 0 rfl,zL.cell 1 rfl,zL.cell 2 rfl,zL.cell 3 rfl,zJ.cell 0 rfl,zJ.cell 1 rfl,zJ.cell 2 rfl,zJ.cell 3 rfl,zR.cell 0 rfl,zR.cell 1 rfl,zR.cell 2 rfl,zR.cell 3 rfl⟩
  clear hK K;replace zy:=zy (by decide)
  try simp only[Act.put,zz1,zz2,zz3,zz4,zz5,zz6]
  refine To 7 rfl fun K hK=>?_
  rw[if_pos (by rfl)]
  refine ku _ _ _ rfl (by kernel_rfl) (by kernel_rfl) _ rfl fun dd w16 V4 hw16=>?_
  replace zR:=zR.or hw16;replace zL:=zL.or hw16;replace zJ:=zJ.or hw16;replace yP:=xA yP hw16;clear hw16;clear zy
  refine hK.out _ _ (fun _=>?_) (fun zy=>?_)
  ·exact⟨zL.cell 0 rfl,zL.cell 1 rfl,zL.cell 2 rfl,zL.cell 3 rfl,zJ.cell 0 rfl,zJ.cell 1 rfl,zJ.cell 2 rfl,zJ.cell 3 rfl,zR.cell 0 rfl,zR.cell 1 rfl,zR.cell 2 rfl,zR.cell 3 rfl⟩
  clear hK K;replace zy:=zy (by decide)
  try simp only[Act.put,zz1,zz2,zz3,zz4,zz5,zz6]
  refine To 8 rfl fun K hK=>?_
  go_simp
  refine(qq lo k 0 0 dd HM.out.2 V4 (by have h2:=HP.out.2.2.2.2.2;omega) _).mono ?_
  rintro e w17 ⟨rfl,qe⟩
  replace zR:=zR.below qe;replace zL:=zL.below qe;replace zJ:=zJ.below qe;replace yP:=yP.trans (qe.mono yP.size);clear qe;have HA:Hid ((lo+dd)%18446744073709551616<18446744073709551616):=Nat.mod_lt _ (by decide);have HB:Hid (k+(lo+dd)/18446744073709551616≤22):=by rw[Hid];have h1:=HM.out.2;have h2:=HP.out.2.2.2.2.2;omega
  obtain⟨a0,cD⟩:∃ n,(lo+dd)%18446744073709551616=n:=⟨_,rfl⟩
  obtain⟨b0,pG⟩:∃ n,k+(lo+dd)/18446744073709551616=n:=⟨_,rfl⟩
  rw[cD]at HA;rw[pG]at HB;rw[cD,pG];clear cD pG V4 Qh;clear zy
  refine hK.out _ _ (fun _=>?_) (fun zy=>?_)
  ·exact⟨zL.cell 0 rfl,zL.cell 1 rfl,zL.cell 2 rfl,zL.cell 3 rfl,zJ.cell 0 rfl,zJ.cell 1 rfl,zJ.cell 2 rfl,zJ.cell 3 rfl,zR.cell 0 rfl,zR.cell 1 rfl,zR.cell 2 rfl,zR.cell 3 rfl⟩
  clear hK K;replace zy:=zy (by decide)
  try simp only[Act.put,zz1,zz2,zz3,zz4,zz5,zz6]
  refine To 9 rfl fun K hK=>?_
  rw[if_pos (by rfl)]
  refine zF _ _ _ rfl R (zM [a0,b0,0,0]) rfl rfl _ _ zL wE rfl (wP _) fun w18 hR18 hg18=>?_
  refine Kz hK ?_
  clear hK K
  refine Wd ?_
  clear zy;have sU:=zR.grown hg18 (by intro hc;injection hc with hc;have:=bp.out;omega);have ZG:=yP.grown hg18 yP.size (by rintro q ⟨⟩;have:=bp.out;omega);clear zR zL zJ yP hg18;go_wp2_with fail
  go_meet
  exact⟨a0,b0,HA.out,HB.out,sU,hR18,ZG⟩
 case rest =>
 clear zR zL zJ yP iD HZ HM Z5;obtain⟨a,b,ha,yz,hG,hR,hb⟩:=hcut;have kB:=Hh (And.intro ha yz);clear ha yz;go_wp2_with fail
 go_loopw [72] (fun _ wr=>∃ (a b:Nat),Hid (a<18446744073709551616∧b≤22)∧Blk wr w.heap.size 154 (zM [0,0,p,0])∧Blk wr R 154 (zM [a,b,0,0])∧Below w.heap.size w wr) (fun _ wr=>eY wr R)
 case atStart=>exact⟨a,b,kB,hG,hR,hb⟩
 case round =>
 clear kB hG hR hb;clear a b;obtain⟨a,b,kB,hG,hR,hb⟩:=hrel;have S5:=Hh (rm hR)
 have dY:Hid (a<18446744073709551616∧b≤33∧num [a,b,0,0] ^ 2<18446744073709551616 ^ 4):=by
  refine⟨kB.out.1,Nat.le_trans kB.out.2 (by omega), ?_⟩
  rw[bj]
  refine qo (.inl rfl) ?_
  have h1:=kB.out.1;have h2:=kB.out.2
  omega
 replace hG:=hG.drew;replace hR:=hR.drew;replace hb:=hb.drew;go_upto_region 17 with fail
 refine zn 4 (fun wx=>wx.cell? ⟨R,0,none⟩=some (.int .u64 (a:Int))∧wx.cell? ⟨R,1,none⟩=some (.int .u64 (b:Int))∧wx.cell? ⟨R,2,none⟩=some (.int .u64 0)∧wx.cell? ⟨R,3,none⟩=some (.int .u64 0)∧wx.cell? ⟨w.heap.size,0,none⟩=some (.int .u64 0)∧wx.cell? ⟨w.heap.size,1,none⟩=some (.int .u64 0)∧wx.cell? ⟨w.heap.size,2,none⟩=some (.int .u64 (p:Int))∧wx.cell? ⟨w.heap.size,3,none⟩=some (.int .u64 0)) (by kernel_rfl) (⟨hR.cell 0 rfl,hR.cell 1 rfl,hR.cell 2 rfl,hR.cell 3 rfl,hG.cell 0 rfl,hG.cell 1 rfl,hG.cell 2 rfl,hG.cell 3 rfl⟩) (fun zy=>?_)
 refine Tk 0 rfl zy ?_
 refine Tk 1 rfl zy ?_
 refine Tk 2 rfl zy ?_
 refine To 3 rfl fun K hK=>?_
 go_simp
 refine(qp (x:=[a,b,0,0]) rfl (Xn dY.out.1 dY.out.2.1) 2 (by omega) dY.out.2.2 _).mono ?_
 rintro e w21 ⟨z,rfl,iu,mT,fP,ox⟩
 replace hG:=hG.below ox;replace hR:=hR.below ox;replace hb:=hb.trans (ox.mono hb.size);clear ox;rw[bj]at fP;obtain⟨z0,z1,z2,z3,rfl⟩:=pZ iu;have ZR:=Hh (And.intro mT fP);clear iu mT fP;clear zy
 refine hK.out _ _ (fun _=>?_) (fun zy=>?_)
 ·exact⟨hR.cell 0 rfl,hR.cell 1 rfl,hR.cell 2 rfl,hR.cell 3 rfl,hG.cell 0 rfl,hG.cell 1 rfl,hG.cell 2 rfl,hG.cell 3 rfl⟩
 clear hK K;replace zy:=zy (by decide)
 try simp only[Act.put,zz1,zz2,zz3,zz4,zz5,zz6]
 refine To 4 rfl fun K hK=>?_
 go_simp
 refine(nO (x:=[0,0,p,0]) (y:=[z0,z1,z2,z3]) rfl rfl (eT HP.out.2.1) ZR.out.1 _).mono ?_
 rintro e w22 ⟨bl,rfl,iD,oy⟩
 replace hG:=hG.below oy;replace hR:=hR.below oy;replace hb:=hb.trans (oy.mono hb.size);clear oy
 refine Kz hK ?_
 clear hK K
 refine Wd ?_
 clear zy;have ov:Hid (bl=decide (p*18446744073709551616 ^ 2<(a+18446744073709551616*b) ^ 2)):=by rw[Hid,iD.out,eC,ZR.out.2]
 clear iD ZR dY
 cases bl with
 | true =>
  have cJ:Hid (18446744073709551616<a+18446744073709551616*b):=bN HP.out.1 (of_decide_eq_true ov.out.symm);clear ov;have d0:=hR.cell 0 (v:=.int .u64 (a:Int)) rfl;have d1:=hR.cell 1 (v:=.int .u64 (b:Int)) rfl;have d2:=hR.cell 2 (v:=.int .u64 0) rfl;have d3:=hR.cell 3 (v:=.int .u64 0) rfl;have LO:=Hh (fun w=>nP a b 0 0 1 (by have h1:=kB.out.2;omega) (by have h1:=cJ.out;have h2:=kB.out.1;omega) w);go_wp2_with fail
  refine(LO.out _).mono ?_
  rintro e w23 ⟨rfl,oz⟩
  have VM:Hid ((a+18446744073709551616-1)%18446744073709551616<18446744073709551616∧b-(if a<1 then 1 else 0)≤22∧(a+18446744073709551616-1)%18446744073709551616+18446744073709551616*(b-(if a<1 then 1 else 0))+1=a+18446744073709551616*b):=by
   have h1:=cJ.out;have h2:=kB.out.1;have h3:=kB.out.2;rw[Hid]
   split <;> omega
  obtain⟨a2,oX⟩:∃ n,(a+18446744073709551616-1)%18446744073709551616=n:=⟨_,rfl⟩
  obtain⟨b2,yz⟩:∃ n,b-(if a<1 then 1 else 0)=n:=⟨_,rfl⟩
  rw[oX,yz]at VM;rw[oX,yz];clear oX yz LO cJ d0 d1 d2 d3;replace hG:=hG.below oz;replace hR:=hR.below oz;replace hb:=hb.trans (oz.mono hb.size);clear oz;go_wp2_with (with_reducible refine zx ?_)
  refine zu rfl _ _ _ rfl rfl R (zM [a2,b2,0,0]) rfl rfl _ _ hR wE rfl (wP _) fun w24 hR24 hg24=>?_
  have Z8:=hG.grown hg24 (by intro hc;injection hc with hc;have:=bp.out;omega);have fD:=hb.grown hg24 hb.size (by rintro q ⟨⟩;have:=bp.out;omega);clear hG hR hb hg24;go_wp2_with fail
  go_roundw
  case rel=>exact⟨a2,b2,⟨VM.out.1,VM.out.2.1⟩,Z8,hR24,fD⟩
  case measure=>rw[S5.out,rm hR24];have h1:=VM.out.2.2;omega
 | false =>
 have rb:Hid ((a+18446744073709551616*b) ^ 2≤p*18446744073709551616 ^ 2):=Nat.le_of_not_lt (of_decide_eq_false ov.out.symm);have Um:Hid (a<18446744073709551616):=kB.out.1;clear ov S5 kB;go_wp2_with fail
 go_loopw [81] (fun _ wr=>∃ (a b:Nat),Hid (a<18446744073709551616)∧Hid ((a+18446744073709551616*b) ^ 2≤p*18446744073709551616 ^ 2)∧Blk wr w.heap.size 154 (zM [0,0,p,0])∧Blk wr R 154 (zM [a,b,0,0])∧Below w.heap.size w wr) (fun _ wr=>32*18446744073709551616-eY wr R)
 case atStart=>exact⟨a,b,Um,rb,hG,hR,hb⟩
 case round =>
 clear Um rb hG hR hb;obtain⟨a,b,Um,rb,hG,hR,hb⟩:=hrel;have S5:=Hh (rm hR);have PZ:Hid (a+18446744073709551616*b<32*18446744073709551616):=bM (.inl rfl) HP.out.2.1 rb.out
 have kC:Hid (a<18446744073709551616∧b≤31∧(a+1)%18446744073709551616<18446744073709551616∧b+(a+1)/18446744073709551616≤32∧(a+1)%18446744073709551616+18446744073709551616*(b+(a+1)/18446744073709551616)=a+18446744073709551616*b+1):=by
  have h1:=Um.out;have h2:=PZ.out;rw[Hid]
  omega
 obtain⟨a2,oX⟩:∃ n,(a+1)%18446744073709551616=n:=⟨_,rfl⟩
 obtain⟨b2,yz⟩:∃ n,b+(a+1)/18446744073709551616=n:=⟨_,rfl⟩
 have oJ:=Hh (And.intro oX yz);rw[oX,yz]at kC;clear oX yz
 have dY:Hid (a2<18446744073709551616∧b2≤33∧num [a2,b2,0,0] ^ 2<18446744073709551616 ^ 4):=by
  refine⟨kC.out.2.2.1,Nat.le_trans kC.out.2.2.2.1 (by omega), ?_⟩
  rw[bj]
  refine qo (.inl rfl) ?_
  have h1:=kC.out.2.2.1;have h2:=kC.out.2.2.2.1
  omega
 replace hG:=hG.drew;replace hR:=hR.drew;replace hb:=hb.drew;go_upto_region 19 with fail
 refine zn 6 (fun wx=>wx.cell? ⟨R,0,none⟩=some (.int .u64 (a:Int))∧wx.cell? ⟨R,1,none⟩=some (.int .u64 (b:Int))∧wx.cell? ⟨R,2,none⟩=some (.int .u64 0)∧wx.cell? ⟨R,3,none⟩=some (.int .u64 0)∧wx.cell? ⟨w.heap.size,0,none⟩=some (.int .u64 0)∧wx.cell? ⟨w.heap.size,1,none⟩=some (.int .u64 0)∧wx.cell? ⟨w.heap.size,2,none⟩=some (.int .u64 (p:Int))∧wx.cell? ⟨w.heap.size,3,none⟩=some (.int .u64 0)) (by kernel_rfl) (⟨hR.cell 0 rfl,hR.cell 1 rfl,hR.cell 2 rfl,hR.cell 3 rfl,hG.cell 0 rfl,hG.cell 1 rfl,hG.cell 2 rfl,hG.cell 3 rfl⟩) (fun zy=>?_)
 refine Tk 0 rfl zy ?_
 refine Tk 1 rfl zy ?_
 refine Tk 3 rfl zy ?_
 refine To 2 rfl fun K hK=>?_
 go_simp
 refine(qq a b 0 0 1 kC.out.1 (by omega) (by have h1:=kC.out.2.1;omega) _).mono ?_
 rintro e w20 ⟨rfl,dQ⟩
 replace hG:=hG.below dQ;replace hR:=hR.below dQ;replace hb:=hb.trans (dQ.mono hb.size);clear dQ;rw[oJ.out.1,oJ.out.2];clear zy
 refine hK.out _ _ (fun _=>?_) (fun zy=>?_)
 ·exact⟨hR.cell 0 rfl,hR.cell 1 rfl,hR.cell 2 rfl,hR.cell 3 rfl,hG.cell 0 rfl,hG.cell 1 rfl,hG.cell 2 rfl,hG.cell 3 rfl⟩
 clear hK K;replace zy:=zy (by decide)
 try simp only[Act.put,zz1,zz2,zz3,zz4,zz5,zz6]
 refine To 4 rfl fun K hK=>?_
 go_simp
 refine(qp (x:=[a2,b2,0,0]) rfl (Xn dY.out.1 dY.out.2.1) 2 (by omega) dY.out.2.2 _).mono ?_
 rintro e w21 ⟨z,rfl,iu,mT,fP,ox⟩
 replace hG:=hG.below ox;replace hR:=hR.below ox;replace hb:=hb.trans (ox.mono hb.size);clear ox;rw[bj]at fP;obtain⟨z0,z1,z2,z3,rfl⟩:=pZ iu;have ZR:=Hh (And.intro mT fP);clear iu mT fP;clear zy
 refine hK.out _ _ (fun _=>?_) (fun zy=>?_)
 ·exact⟨hR.cell 0 rfl,hR.cell 1 rfl,hR.cell 2 rfl,hR.cell 3 rfl,hG.cell 0 rfl,hG.cell 1 rfl,hG.cell 2 rfl,hG.cell 3 rfl⟩
 clear hK K;replace zy:=zy (by decide)
 try simp only[Act.put,zz1,zz2,zz3,zz4,zz5,zz6]
 refine To 5 rfl fun K hK=>?_
 go_simp
 refine(nO (x:=[0,0,p,0]) (y:=[z0,z1,z2,z3]) rfl rfl (eT HP.out.2.1) ZR.out.1 _).mono ?_
 rintro e w22 ⟨bl,rfl,iD,oy⟩
 replace hG:=hG.below oy;replace hR:=hR.below oy;replace hb:=hb.trans (oy.mono hb.size);clear oy;clear zy
 refine hK.out _ _ (fun _=>?_) (fun zy=>?_)
 ·exact⟨hR.cell 0 rfl,hR.cell 1 rfl,hR.cell 2 rfl,hR.cell 3 rfl,hG.cell 0 rfl,hG.cell 1 rfl,hG.cell 2 rfl,hG.cell 3 rfl⟩
 clear hK K;replace zy:=zy (by decide)
 try simp only[Act.put,zz1,zz2,zz3,zz4,zz5,zz6]
 refine To 6 rfl fun K hK=>?_
 go_simp
 refine Kz hK ?_
 clear hK K
 refine Wd ?_
 clear zy;have ov:Hid (bl=decide (p*18446744073709551616 ^ 2<(a+18446744073709551616*b+1) ^ 2)):=by rw[Hid,iD.out,eC,ZR.out.2,kC.out.2.2.2.2]
 clear iD ZR dY;have d0:=hR.cell 0 (v:=.int .u64 (a:Int)) rfl;have d1:=hR.cell 1 (v:=.int .u64 (b:Int)) rfl;have d2:=hR.cell 2 (v:=.int .u64 0) rfl;have d3:=hR.cell 3 (v:=.int .u64 0) rfl
 cases bl with
 | true =>
  have Hy:Hid (a=c):=by
   have h1:=XZ (.inl rfl) HP.out.2.2.1 HP.out.2.2.2.1 rb.out (of_decide_eq_true ov.out.symm);have h2:=Um.out;rw[Hid]
   omega
  rw[Hy.out]at d0;clear ov
  simp only[Bool.not_true]
  go_wp2_with fail
  go_ret
  exact⟨rfl,hb⟩
 | false =>
 have Ob:Hid ((a2+18446744073709551616*b2) ^ 2≤p*18446744073709551616 ^ 2):=by
  have h1:=Nat.le_of_not_lt (of_decide_eq_false ov.out.symm);rw[← kC.out.2.2.2.2]at h1
  exact h1
 clear ov;have RA:=Hh (fun w=>qq a b 0 0 1 kC.out.1 (by omega) (by have h1:=kC.out.2.1;omega) w)
 simp only[Bool.not_false]
 go_wp2_with fail
 refine(RA.out _).mono ?_
 rintro e w23 ⟨rfl,oz⟩
 rw[oJ.out.1,oJ.out.2];replace hG:=hG.below oz;replace hR:=hR.below oz;replace hb:=hb.trans (oz.mono hb.size);clear oz RA d0 d1 d2 d3;go_wp2_with (with_reducible refine zx ?_)
 refine zu rfl _ _ _ rfl rfl R (zM [a2,b2,0,0]) rfl rfl _ _ hR wE rfl (wP _) fun w24 hR24 hg24=>?_
 have Z8:=hG.grown hg24 (by intro hc;injection hc with hc;have:=bp.out;omega);have fD:=hb.grown hg24 hb.size (by rintro q ⟨⟩;have:=bp.out;omega);clear hG hR hb hg24;go_wp2_with fail
 go_roundw
 case rel=>exact⟨a2,b2,kC.out.2.2.1,Ob,Z8,hR24,fD⟩
 case measure=>rw[S5.out,rm hR24];have h1:=kC.out.2.2.2.2;have h2:=PZ.out;omega
theorem f8 (p c:Nat) (hp:oq p=true) (hc:c<18446744073709551616) (hf:o7 3 p c=true) (w:World) :
 Calls Tryz.prog 97 #[.int .u64 (p:Int),.int .i64 3] w fun e w'=>e=.returned (.int .u64 (c:Int))∧Below w.heap.size w w':=by
 unfold oq at hp
 simp only[Bool.and_eq_true,decide_eq_true_eq]at hp
 obtain⟨⟨⟨⟨kH,cN⟩,Q7⟩,SU⟩,hp5⟩:=hp;obtain⟨f0,_,_,e0,_⟩:=ji kH;obtain⟨f,g,k,e1,e2,e3,pX,Ub⟩:=ji cN;have SQ:=Hh (fun w=>eB (floatOfInt .f64 (p:Int)) f0 e0 w);have CB:=Hh (fun w=>W8 (floatOfInt .f64 (p:Int)) f Q7 e1 w);have FL:=Hh (fun w=>gB f g e2 w);have CV:=fun w=>run_convert_float_int (P:=Tryz.prog) w 155 75 .f64 .u64 g (k:Int) (by kernel_rfl) (by kernel_rfl) e3
 have HP:=Hh (And.intro SU (And.intro hp5 (And.intro hc (And.intro hf (And.intro pX Ub)))));have ed:=Blk.new w 154 #[.int .u64 0,.int .u64 0,.int .u64 0,.int .u64 0];have yZ:=zl w (.cells #[.int .u64 0,.int .u64 0,.int .u64 0,.int .u64 0] 154);clear kH cN Q7 e0 SU hp5 e1 e2 e3 pX Ub hc hf;go_enter Tryz.func97,Tryz.ntmps97
 go_wp2_with (with_reducible refine zx ?_)
 refine zr rfl _ _ _ rfl rfl w.heap.size 3 (.int .u64 (p:Int)) rfl rfl _ _ ed tr (by simp) rfl fun w2 hG hg2=>?_
 have hb:=yZ.grown hg2 yZ.size (by rintro q ⟨⟩;exact Nat.le_refl _);replace hG:Blk w2 w.heap.size 154 (zM [0,0,0,p]):=hG;clear ed yZ hg2;go_wp2_with fail
 refine(SQ.out _).mono ?_
 rintro e w3 ⟨rfl,rfl⟩
 go_wp2_with fail
 refine(CB.out _).mono ?_
 rintro e w3 ⟨rfl,rfl⟩
 go_wp2_with fail
 refine(FL.out _).mono ?_
 rintro e w3 ⟨rfl,rfl⟩
 clear SQ CB FL;go_wp2_with (with_reducible refine ro ?_)
 refine uD rfl _ _ _ _ _ rfl (by simp) _ _ rfl rfl fun r1 w4 fU=>?_
 have uv:=hG.or fU;have sW:=xA hb fU;go_wp2_with (with_reducible refine ro ?_)
 refine uD rfl _ _ _ _ _ rfl (by simp) _ _ rfl rfl fun r2 w5 hw5=>?_
 have xC:=uv.or hw5;have xz:=xA sW hw5;go_wp2_with (with_reducible refine gM ?_)
 refine ki rfl _ _ _ rfl (by kernel_rfl) (by kernel_rfl) _ rfl fun m w6 hm pE=>?_
 have zK:=xC.or pE;have y9:=xA xz pE;clear hG hb uv sW xC xz fU hw5 pE
 obtain⟨lo,Qh,Ue⟩:∃ n:Nat,IntKind.u64.wrap ((m:Int)*2)=(n:Int)∧n<18446744073709551616:=by
  rw[IntKind.wrap_u64]
  exact⟨((m:Int)*2%18446744073709551616).toNat,by omega,by omega⟩
 have hR:=Blk.new w6 154 (zM [lo,k,0,0]);have uw:=zK.alloc (.cells (zM [lo,k,0,0]) 154);have xU:=y9.alloc y9.size (.cells (zM [lo,k,0,0]) 154);obtain⟨R,SH⟩:∃ R,w6.heap.size=R:=⟨_,rfl⟩
 have Mw:w.heap.size<R:=by rw[← SH];exact zK.lt
 rw[SH]at hR;have ID:=Hh SH;have bp:=Hh Mw;have HM:=Hh (And.intro hm Ue);clear zK y9 SH Mw hm Ue;go_wp2_with fail
 rw[ID.out];go_loopw [9,37] (fun v9 v37 wr=>∃ (j s:Nat),v37=.int .i64 (j:Int)∧j≤2∧v9=.float .f64 s∧Blk wr w.heap.size 154 (zM [0,0,0,p])∧Blk wr R 154 (zM [lo,k,0,0])∧Below w.heap.size w wr) (fun _ v37 _=>(2-intOf v37).toNat)
 case atStart=>exact⟨0,_,rfl,by omega,rfl,uw,hR,xU⟩
 case round =>
 clear uw hR xU CV;obtain⟨j,s,rfl,Sr,rfl,hG,hR,hb⟩:=hrel;have d0:wr.cell? ⟨R,0,none⟩=some (.int .u64 (lo:Int)):=hR.cell 0 rfl;have d1:wr.cell? ⟨R,1,none⟩=some (.int .u64 (k:Int)):=hR.cell 1 rfl;have d2:wr.cell? ⟨R,2,none⟩=some (.int .u64 0):=hR.cell 2 rfl;have d3:wr.cell? ⟨R,3,none⟩=some (.int .u64 0):=hR.cell 3 rfl
 by_cases yy:(j:Int)<2
 ·have F:=Hh (sF (x:=[lo,k,0,0]) rfl wr);have sv:=Hh yy;go_wp2_with fail
  refine F.out.mono ?_
  rintro e w8 ⟨⟨fl,rfl⟩,pj⟩
  have ra:=hG.below pj;have N5:=hR.below pj;have nA:=hb.trans (pj.mono hb.size);clear F d0 d1 d2 d3 hG hR hb pj;go_wp2_with (with_reducible refine ro ?_)
  refine uD rfl _ _ _ _ _ rfl (by simp) _ _ rfl rfl fun s2 w9 Va=>?_
  have tZ:=ra.or Va;have Ze:=N5.or Va;have uN:=xA nA Va;clear ra N5 nA Va;go_wp2_with fail
  go_roundw
  case rel=>exact⟨j+1,s2,by go_num,by have:=sv.out;omega,rfl,tZ,Ze,uN⟩
  case measure=>have:=sv.out;simp[intOf];omega
 have QW:num [lo,k,0,0] ^ 3<18446744073709551616 ^ 4:=by
  refine qo (.inr rfl) ?_
  have h1:=HM.out.2;have h2:=HP.out.2.2.2.2.2;have e:num [lo,k,0,0]=lo+18446744073709551616*(k+18446744073709551616*(0+18446744073709551616*(0+18446744073709551616*0))):=rfl
  omega
 have PW:=Hh (qp (x:=[lo,k,0,0]) rfl (by have h1:=HM.out.2;have h2:=HP.out.2.2.2.2.2;intro a ha;simp at ha;omega) 3 (by omega) QW wr);clear QW;go_wp2_with fail
 refine PW.out.mono ?_
 rintro e w10 ⟨z,rfl,iu,mT,fP,xY⟩
 obtain⟨z0,z1,z2,z3,rfl⟩:=pZ iu;rw[show zM [z0,z1,z2,z3]=#[.int .u64 (z0:Int),.int .u64 (z1:Int),.int .u64 (z2:Int),.int .u64 (z3:Int)] from rfl];obtain⟨w11,k9⟩:∃ w11,w10.alloc (.cells #[.int .u64 (z0:Int),.int .u64 (z1:Int),.int .u64 (z2:Int),.int .u64 (z3:Int)] 154)=w11:=⟨_,rfl⟩
 have wZ:Blk w11 w.heap.size 154 (zM [0,0,0,p]):=by rw[← k9];exact(hG.below xY).alloc _
 have UW:Blk w11 R 154 (zM [lo,k,0,0]):=by rw[← k9];exact(hR.below xY).alloc _
 have nA:Below w.heap.size w w11:=by rw[← k9];exact(hb.trans (xY.mono hb.size)).alloc (Nat.le_trans hb.size xY.size) _
 obtain⟨Z,Pv⟩:∃ Z,w10.heap.size=Z:=⟨_,rfl⟩
 have jx:Blk w11 Z 154 (zM [z0,z1,z2,z3]):=by rw[← k9,← Pv];exact Blk.new w10 154 _
 have Z5:=Hh (And.intro k9 Pv);have HZ:=Hh (And.intro mT fP);have LS:=Hh (gk (x:=[0,0,0,p]) (y:=[z0,z1,z2,z3]) rfl rfl (by have h2:=HP.out.2.1;intro a ha;simp at ha;omega) mT w11);obtain⟨bl,rM⟩:∃ b,decide (num [0,0,0,p]<num [z0,z1,z2,z3])=b:=⟨_,rfl⟩
 rw[rM]at LS;have iD:=Hh rM;clear iu mT fP PW xY hG hR hb d0 d1 d2 d3 rM k9 Pv;have g0:w11.cell? ⟨w.heap.size,0,none⟩=some (.int .u64 0):=wZ.cell 0 rfl;have g1:w11.cell? ⟨w.heap.size,1,none⟩=some (.int .u64 0):=wZ.cell 1 rfl;have g2:w11.cell? ⟨w.heap.size,2,none⟩=some (.int .u64 0):=wZ.cell 2 rfl;have g3:w11.cell? ⟨w.heap.size,3,none⟩=some (.int .u64 (p:Int)):=wZ.cell 3 rfl;have y0:w11.cell? ⟨Z,0,none⟩=some (.int .u64 (z0:Int)):=jx.cell 0 rfl;have y1:w11.cell? ⟨Z,1,none⟩=some (.int .u64 (z1:Int)):=jx.cell 1 rfl;have y2:w11.cell? ⟨Z,2,none⟩=some (.int .u64 (z2:Int)):=jx.cell 2 rfl;have y3:w11.cell? ⟨Z,3,none⟩=some (.int .u64 (z3:Int)):=jx.cell 3 rfl;go_upto_region 14 with fail
 rw[Z5.out.1,Z5.out.2];go_wp2_with fail
 refine LS.out.mono ?_
 rintro e w12 ⟨rfl,yP⟩
 have zR:=wZ.below yP;have zL:=UW.below yP;have zJ:=jx.below yP;replace yP:=nA.trans (yP.mono nA.size);clear g0 g1 g2 g3 y0 y1 y2 y3 wZ UW jx LS nA;go_upto_if 49 with fail
 go_cut [] (fun wx=>∃ (a b:Nat),a<18446744073709551616∧b≤22∧Blk wx w.heap.size 154 (zM [0,0,0,p])∧Blk wx R 154 (zM [a,b,0,0])∧Below w.heap.size w wx)
 case first =>
  cases bl with
  | true =>
   replace zR:=zR.drew;replace zL:=zL.drew;replace zJ:=zJ.drew;replace yP:=yP.drew;go_upto_region 15 with fail
   refine zn 9 (fun wx=>wx.cell? ⟨R,0,none⟩=some (.int .u64 (lo:Int))∧wx.cell? ⟨R,1,none⟩=some (.int .u64 (k:Int))∧wx.cell? ⟨R,2,none⟩=some (.int .u64 0)∧wx.cell? ⟨R,3,none⟩=some (.int .u64 0)∧wx.cell? ⟨Z,0,none⟩=some (.int .u64 (z0:Int))∧wx.cell? ⟨Z,1,none⟩=some (.int .u64 (z1:Int))∧wx.cell? ⟨Z,2,none⟩=some (.int .u64 (z2:Int))∧wx.cell? ⟨Z,3,none⟩=some (.int .u64 (z3:Int))∧wx.cell? ⟨w.heap.size,0,none⟩=some (.int .u64 0)∧wx.cell? ⟨w.heap.size,1,none⟩=some (.int .u64 0)∧wx.cell? ⟨w.heap.size,2,none⟩=some (.int .u64 0)∧wx.cell? ⟨w.heap.size,3,none⟩=some (.int .u64 (p:Int))) (by kernel_rfl) (⟨zL.cell 0 rfl,zL.cell 1 rfl,zL.cell 2 rfl,zL.cell 3 rfl,zJ.cell 0 rfl,zJ.cell 1 rfl,zJ.cell 2 rfl,zJ.cell 3 rfl,zR.cell 0 rfl,zR.cell 1 rfl,zR.cell 2 rfl,zR.cell 3 rfl⟩) (fun zy=>?_)
   refine Tk 0 rfl zy ?_
   refine Tk 1 rfl zy ?_
   refine Tk 2 rfl zy ?_
   refine Tk 5 rfl zy ?_
   refine To 3 rfl fun K hK=>?_
   go_simp
   refine(nQ (x:=[z0,z1,z2,z3]) (y:=[0,0,0,p]) rfl rfl _).mono ?_
   rintro e w13 ⟨mm,rfl,VE,rr⟩
   replace zR:=zR.below rr;replace zL:=zL.below rr;replace zJ:=zJ.below rr;replace yP:=yP.trans (rr.mono yP.size);clear rr;clear zy
   refine hK.out _ _ (fun _=>?_) (fun zy=>?_)
   ·exact⟨zL.cell 0 rfl,zL.cell 1 rfl,zL.cell 2 rfl,zL.cell 3 rfl,zJ.cell 0 rfl,zJ.cell 1 rfl,zJ.cell 2 rfl,zJ.cell 3 rfl,zR.cell 0 rfl,zR.cell 1 rfl,zR.cell 2 rfl,zR.cell 3 rfl⟩
   clear hK K;replace zy:=zy (by decide)
   try simp only[Act.put,zz1,zz2,zz3,zz4,zz5,zz6]
   refine To 4 rfl fun K hK=>?_
   go_simp
   refine(sF VE _).mono ?_
   rintro e w14 ⟨⟨fl,rfl⟩,rs⟩
   replace zR:=zR.below rs;replace zL:=zL.below rs;replace zJ:=zJ.below rs;replace yP:=yP.trans (rs.mono yP.size);clear rs;clear zy
   refine hK.out _ _ (fun _=>?_) (fun zy=>?_)
   ·exact⟨zL.cell 0 rfl,zL.cell 1 rfl,zL.cell 2 rfl,zL.cell 3 rfl,zJ.cell 0 rfl,zJ.cell 1 rfl,zJ.cell 2 rfl,zJ.cell 3 rfl,zR.cell 0 rfl,zR.cell 1 rfl,zR.cell 2 rfl,zR.cell 3 rfl⟩
   clear hK K;replace zy:=zy (by decide)
   try simp only[Act.put,zz1,zz2,zz3,zz4,zz5,zz6]
   refine To 6 rfl fun K hK=>?_
   rw[if_pos (by rfl)]
   refine dN _ _ _ _ _ rfl (by simp) _ _ rfl rfl fun fq w15 hw15=>?_
   replace zR:=zR.or hw15;replace zL:=zL.or hw15;replace zJ:=zJ.or hw15;replace yP:=xA yP hw15;clear hw15;clear zy
   refine hK.out _ _ (fun _=>?_) (fun zy=>?_)
   ·exact⟨zL.cell 0 rfl,zL.cell 1 rfl,zL.cell 2 rfl,zL.cell 3 rfl,zJ.cell 0 rfl,zJ.cell 1 rfl,zJ.cell 2 rfl,zJ.cell 3 rfl,zR.cell 0 rfl,zR.cell 1 rfl,zR.cell 2 rfl,zR.cell 3 rfl⟩
   clear hK K;replace zy:=zy (by decide)
   try simp only[Act.put,zz1,zz2,zz3,zz4,zz5,zz6]
   refine To 7 rfl fun K hK=>?_
   rw[if_pos (by rfl)]
   refine ku _ _ _ rfl (by kernel_rfl) (by kernel_rfl) _ rfl fun dd w16 V4 hw16=>?_
   replace zR:=zR.or hw16;replace zL:=zL.or hw16;replace zJ:=zJ.or hw16;replace yP:=xA yP hw16;clear hw16;clear zy
   refine hK.out _ _ (fun _=>?_) (fun zy=>?_)
   ·exact⟨zL.cell 0 rfl,zL.cell 1 rfl,zL.cell 2 rfl,zL.cell 3 rfl,zJ.cell 0 rfl,zJ.cell 1 rfl,zJ.cell 2 rfl,zJ.cell 3 rfl,zR.cell 0 rfl,zR.cell 1 rfl,zR.cell 2 rfl,zR.cell 3 rfl⟩
   clear hK K;replace zy:=zy (by decide)
   try simp only[Act.put,zz1,zz2,zz3,zz4,zz5,zz6]
   refine To 8 rfl fun K hK=>?_
   go_simp
   refine(nP lo k 0 0 dd (by have h2:=HP.out.2.2.2.2.2;omega) HP.out.2.2.2.2.1 _).mono ?_
   rintro e w17 ⟨rfl,qe⟩
   replace zR:=zR.below qe;replace zL:=zL.below qe;replace zJ:=zJ.below qe;replace yP:=yP.trans (qe.mono yP.size);clear qe;have HA:Hid ((lo+18446744073709551616-dd)%18446744073709551616<18446744073709551616):=Nat.mod_lt _ (by decide);have HB:Hid (k-(if lo<dd then 1 else 0)≤22):=by rw[Hid];have h2:=HP.out.2.2.2.2.2;split <;> omega
   obtain⟨a0,cD⟩:∃ n,(lo+18446744073709551616-dd)%18446744073709551616=n:=⟨_,rfl⟩
   obtain⟨b0,pG⟩:∃ n,k-(if lo<dd then 1 else 0)=n:=⟨_,rfl⟩
   rw[cD]at HA;rw[pG]at HB;rw[cD,pG];clear cD pG V4 Qh;clear zy
   refine hK.out _ _ (fun _=>?_) (fun zy=>?_)
   ·exact⟨zL.cell 0 rfl,zL.cell 1 rfl,zL.cell 2 rfl,zL.cell 3 rfl,zJ.cell 0 rfl,zJ.cell 1 rfl,zJ.cell 2 rfl,zJ.cell 3 rfl,zR.cell 0 rfl,zR.cell 1 rfl,zR.cell 2 rfl,zR.cell 3 rfl⟩
   clear hK K;replace zy:=zy (by decide)
   try simp only[Act.put,zz1,zz2,zz3,zz4,zz5,zz6]
   refine To 9 rfl fun K hK=>?_
   rw[if_pos (by rfl)]
   refine zF _ _ _ rfl R (zM [a0,b0,0,0]) rfl rfl _ _ zL wE rfl (wP _) fun w18 hR18 hg18=>?_
   refine Kz hK ?_
   clear hK K
   refine Wd ?_
   clear zy;have sU:=zR.grown hg18 (by intro hc;injection hc with hc;have:=bp.out;omega);have ZG:=yP.grown hg18 yP.size (by rintro q ⟨⟩;have:=bp.out;omega);clear zR zL zJ yP hg18;go_wp2_with fail
   go_meet
   exact⟨a0,b0,HA.out,HB.out,sU,hR18,ZG⟩
  | false =>
  replace zR:=zR.drew;replace zL:=zL.drew;replace zJ:=zJ.drew;replace yP:=yP.drew;go_upto_region 16 with fail
  refine zn 9 (fun wx=>wx.cell? ⟨R,0,none⟩=some (.int .u64 (lo:Int))∧wx.cell? ⟨R,1,none⟩=some (.int .u64 (k:Int))∧wx.cell? ⟨R,2,none⟩=some (.int .u64 0)∧wx.cell? ⟨R,3,none⟩=some (.int .u64 0)∧wx.cell? ⟨Z,0,none⟩=some (.int .u64 (z0:Int))∧wx.cell? ⟨Z,1,none⟩=some (.int .u64 (z1:Int))∧wx.cell? ⟨Z,2,none⟩=some (.int .u64 (z2:Int))∧wx.cell? ⟨Z,3,none⟩=some (.int .u64 (z3:Int))∧wx.cell? ⟨w.heap.size,0,none⟩=some (.int .u64 0)∧wx.cell? ⟨w.heap.size,1,none⟩=some (.int .u64 0)∧wx.cell? ⟨w.heap.size,2,none⟩=some (.int .u64 0)∧wx.cell? ⟨w.heap.size,3,none⟩=some (.int .u64 (p:Int))) (by kernel_rfl) (⟨zL.cell 0 rfl,zL.cell 1 rfl,zL.cell 2 rfl,zL.cell 3 rfl,zJ.cell 0 rfl,zJ.cell 1 rfl,zJ.cell 2 rfl,zJ.cell 3 rfl,zR.cell 0 rfl,zR.cell 1 rfl,zR.cell 2 rfl,zR.cell 3 rfl⟩) (fun zy=>?_)
  refine Tk 0 rfl zy ?_
  refine Tk 1 rfl zy ?_
  refine Tk 2 rfl zy ?_
  refine Tk 5 rfl zy ?_
  refine To 3 rfl fun K hK=>?_
  go_simp
  refine(nQ (x:=[0,0,0,p]) (y:=[z0,z1,z2,z3]) rfl rfl _).mono ?_
  rintro e w13 ⟨mm,rfl,VE,rr⟩
  replace zR:=zR.below rr;replace zL:=zL.below rr;replace zJ:=zJ.below rr;replace yP:=yP.trans (rr.mono yP.size);clear rr;clear zy
  refine hK.out _ _ (fun _=>?_) (fun zy=>?_)
  ·exact⟨zL.cell 0 rfl,zL.cell 1 rfl,zL.cell 2 rfl,zL.cell 3 rfl,zJ.cell 0 rfl,zJ.cell 1 rfl,zJ.cell 2 rfl,zJ.cell 3 rfl,zR.cell 0 rfl,zR.cell 1 rfl,zR.cell 2 rfl,zR.cell 3 rfl⟩
  clear hK K;replace zy:=zy (by decide)
  try simp only[Act.put,zz1,zz2,zz3,zz4,zz5,zz6]
  refine To 4 rfl fun K hK=>?_
  go_simp
  refine(sF VE _).mono ?_
  rintro e w14 ⟨⟨fl,rfl⟩,rs⟩
  replace zR:=zR.below rs;replace zL:=zL.below rs;replace zJ:=zJ.below rs;replace yP:=yP.trans (rs.mono yP.size);clear rs;clear zy
  refine hK.out _ _ (fun _=>?_) (fun zy=>?_)
  ·exact⟨zL.cell 0 rfl,zL.cell 1 rfl,zL.cell 2 rfl,zL.cell 3 rfl,zJ.cell 0 rfl,zJ.cell 1 rfl,zJ.cell 2 rfl,zJ.cell 3 rfl,zR.cell 0 rfl,zR.cell 1 rfl,zR.cell 2 rfl,zR.cell 3 rfl⟩
  clear hK K;replace zy:=zy (by decide)
  try simp only[Act.put,zz1,zz2,zz3,zz4,zz5,zz6]
  refine To 6 rfl fun K hK=>?_
  rw[if_pos (by rfl)]
  refine dN _ _ _ _ _ rfl (by simp) _ _ rfl rfl fun fq w15 hw15=>?_
  replace zR:=zR.or hw15;replace zL:=zL.or hw15;replace zJ:=zJ.or hw15;replace yP:=xA yP hw15;clear hw15;clear zy
  refine hK.out _ _ (fun _=>?_) (fun zy=>?_)
  ·exact⟨zL.cell 0 rfl,zL.cell 1 rfl,zL.cell 2 rfl,zL.cell 3 rfl,zJ.cell 0 rfl,zJ.cell 1 rfl,zJ.cell 2 rfl,zJ.cell 3 rfl,zR.cell 0 rfl,zR.cell 1 rfl,zR.cell 2 rfl,zR.cell 3 rfl⟩
  clear hK K;replace zy:=zy (by decide)
  try simp only[Act.put,zz1,zz2,zz3,zz4,zz5,zz6]
  refine To 7 rfl fun K hK=>?_
  rw[if_pos (by rfl)]
  refine ku _ _ _ rfl (by kernel_rfl) (by kernel_rfl) _ rfl fun dd w16 V4 hw16=>?_
  replace zR:=zR.or hw16;replace zL:=zL.or hw16;replace zJ:=zJ.or hw16;replace yP:=xA yP hw16;clear hw16;clear zy
  refine hK.out _ _ (fun _=>?_) (fun zy=>?_)
  ·exact⟨zL.cell 0 rfl,zL.cell 1 rfl,zL.cell 2 rfl,zL.cell 3 rfl,zJ.cell 0 rfl,zJ.cell 1 rfl,zJ.cell 2 rfl,zJ.cell 3 rfl,zR.cell 0 rfl,zR.cell 1 rfl,zR.cell 2 rfl,zR.cell 3 rfl⟩
  clear hK K;replace zy:=zy (by decide)
  try simp only[Act.put,zz1,zz2,zz3,zz4,zz5,zz6]
  refine To 8 rfl fun K hK=>?_
  go_simp
  refine(qq lo k 0 0 dd HM.out.2 V4 (by have h2:=HP.out.2.2.2.2.2;omega) _).mono ?_
  rintro e w17 ⟨rfl,qe⟩
  replace zR:=zR.below qe;replace zL:=zL.below qe;replace zJ:=zJ.below qe;replace yP:=yP.trans (qe.mono yP.size);clear qe;have HA:Hid ((lo+dd)%18446744073709551616<18446744073709551616):=Nat.mod_lt _ (by decide);have HB:Hid (k+(lo+dd)/18446744073709551616≤22):=by rw[Hid];have h1:=HM.out.2;have h2:=HP.out.2.2.2.2.2;omega
  obtain⟨a0,cD⟩:∃ n,(lo+dd)%18446744073709551616=n:=⟨_,rfl⟩
  obtain⟨b0,pG⟩:∃ n,k+(lo+dd)/18446744073709551616=n:=⟨_,rfl⟩
  rw[cD]at HA;rw[pG]at HB;rw[cD,pG];clear cD pG V4 Qh;clear zy
  refine hK.out _ _ (fun _=>?_) (fun zy=>?_)
  ·exact⟨zL.cell 0 rfl,zL.cell 1 rfl,zL.cell 2 rfl,zL.cell 3 rfl,zJ.cell 0 rfl,zJ.cell 1 rfl,zJ.cell 2 rfl,zJ.cell 3 rfl,zR.cell 0 rfl,zR.cell 1 rfl,zR.cell 2 rfl,zR.cell 3 rfl⟩
  clear hK K;replace zy:=zy (by decide)
  try simp only[Act.put,zz1,zz2,zz3,zz4,zz5,zz6]
  refine To 9 rfl fun K hK=>?_
  rw[if_pos (by rfl)]
  refine zF _ _ _ rfl R (zM [a0,b0,0,0]) rfl rfl _ _ zL wE rfl (wP _) fun w18 hR18 hg18=>?_
  refine Kz hK ?_
  clear hK K
  refine Wd ?_
  clear zy;have sU:=zR.grown hg18 (by intro hc;injection hc with hc;have:=bp.out;omega);have ZG:=yP.grown hg18 yP.size (by rintro q ⟨⟩;have:=bp.out;omega);clear zR zL zJ yP hg18;go_wp2_with fail
  go_meet
  exact⟨a0,b0,HA.out,HB.out,sU,hR18,ZG⟩
 case rest =>
 clear zR zL zJ yP iD HZ HM Z5;obtain⟨a,b,ha,yz,hG,hR,hb⟩:=hcut;have kB:=Hh (And.intro ha yz);clear ha yz;go_wp2_with fail
 go_loopw [72] (fun _ wr=>∃ (a b:Nat),Hid (a<18446744073709551616∧b≤22)∧Blk wr w.heap.size 154 (zM [0,0,0,p])∧Blk wr R 154 (zM [a,b,0,0])∧Below w.heap.size w wr) (fun _ wr=>eY wr R)
 case atStart=>exact⟨a,b,kB,hG,hR,hb⟩
 case round =>
 clear kB hG hR hb;clear a b;obtain⟨a,b,kB,hG,hR,hb⟩:=hrel;have S5:=Hh (rm hR)
 have dY:Hid (a<18446744073709551616∧b≤33∧num [a,b,0,0] ^ 3<18446744073709551616 ^ 4):=by
  refine⟨kB.out.1,Nat.le_trans kB.out.2 (by omega), ?_⟩
  rw[bj]
  refine qo (.inr rfl) ?_
  have h1:=kB.out.1;have h2:=kB.out.2
  omega
 replace hG:=hG.drew;replace hR:=hR.drew;replace hb:=hb.drew;go_upto_region 17 with fail
 refine zn 4 (fun wx=>wx.cell? ⟨R,0,none⟩=some (.int .u64 (a:Int))∧wx.cell? ⟨R,1,none⟩=some (.int .u64 (b:Int))∧wx.cell? ⟨R,2,none⟩=some (.int .u64 0)∧wx.cell? ⟨R,3,none⟩=some (.int .u64 0)∧wx.cell? ⟨w.heap.size,0,none⟩=some (.int .u64 0)∧wx.cell? ⟨w.heap.size,1,none⟩=some (.int .u64 0)∧wx.cell? ⟨w.heap.size,2,none⟩=some (.int .u64 0)∧wx.cell? ⟨w.heap.size,3,none⟩=some (.int .u64 (p:Int))) (by kernel_rfl) (⟨hR.cell 0 rfl,hR.cell 1 rfl,hR.cell 2 rfl,hR.cell 3 rfl,hG.cell 0 rfl,hG.cell 1 rfl,hG.cell 2 rfl,hG.cell 3 rfl⟩) (fun zy=>?_)
 refine Tk 0 rfl zy ?_
 refine Tk 1 rfl zy ?_
 refine Tk 2 rfl zy ?_
 refine To 3 rfl fun K hK=>?_
 go_simp
 refine(qp (x:=[a,b,0,0]) rfl (Xn dY.out.1 dY.out.2.1) 3 (by omega) dY.out.2.2 _).mono ?_
 rintro e w21 ⟨z,rfl,iu,mT,fP,ox⟩
 replace hG:=hG.below ox;replace hR:=hR.below ox;replace hb:=hb.trans (ox.mono hb.size);clear ox;rw[bj]at fP;obtain⟨z0,z1,z2,z3,rfl⟩:=pZ iu;have ZR:=Hh (And.intro mT fP);clear iu mT fP;clear zy
 refine hK.out _ _ (fun _=>?_) (fun zy=>?_)
 ·exact⟨hR.cell 0 rfl,hR.cell 1 rfl,hR.cell 2 rfl,hR.cell 3 rfl,hG.cell 0 rfl,hG.cell 1 rfl,hG.cell 2 rfl,hG.cell 3 rfl⟩
 clear hK K;replace zy:=zy (by decide)
 try simp only[Act.put,zz1,zz2,zz3,zz4,zz5,zz6]
 refine To 4 rfl fun K hK=>?_
 go_simp
 refine(nO (x:=[0,0,0,p]) (y:=[z0,z1,z2,z3]) rfl rfl (eU HP.out.2.1) ZR.out.1 _).mono ?_
 rintro e w22 ⟨bl,rfl,iD,oy⟩
 replace hG:=hG.below oy;replace hR:=hR.below oy;replace hb:=hb.trans (oy.mono hb.size);clear oy
 refine Kz hK ?_
 clear hK K
 refine Wd ?_
 clear zy;have ov:Hid (bl=decide (p*18446744073709551616 ^ 3<(a+18446744073709551616*b) ^ 3)):=by rw[Hid,iD.out,eD,ZR.out.2]
 clear iD ZR dY
 cases bl with
 | true =>
  have cJ:Hid (18446744073709551616<a+18446744073709551616*b):=bN HP.out.1 (of_decide_eq_true ov.out.symm);clear ov;have d0:=hR.cell 0 (v:=.int .u64 (a:Int)) rfl;have d1:=hR.cell 1 (v:=.int .u64 (b:Int)) rfl;have d2:=hR.cell 2 (v:=.int .u64 0) rfl;have d3:=hR.cell 3 (v:=.int .u64 0) rfl;have LO:=Hh (fun w=>nP a b 0 0 1 (by have h1:=kB.out.2;omega) (by have h1:=cJ.out;have h2:=kB.out.1;omega) w);go_wp2_with fail
  refine(LO.out _).mono ?_
  rintro e w23 ⟨rfl,oz⟩
  have VM:Hid ((a+18446744073709551616-1)%18446744073709551616<18446744073709551616∧b-(if a<1 then 1 else 0)≤22∧(a+18446744073709551616-1)%18446744073709551616+18446744073709551616*(b-(if a<1 then 1 else 0))+1=a+18446744073709551616*b):=by
   have h1:=cJ.out;have h2:=kB.out.1;have h3:=kB.out.2;rw[Hid]
   split <;> omega
  obtain⟨a2,oX⟩:∃ n,(a+18446744073709551616-1)%18446744073709551616=n:=⟨_,rfl⟩
  obtain⟨b2,yz⟩:∃ n,b-(if a<1 then 1 else 0)=n:=⟨_,rfl⟩
  rw[oX,yz]at VM;rw[oX,yz];clear oX yz LO cJ d0 d1 d2 d3;replace hG:=hG.below oz;replace hR:=hR.below oz;replace hb:=hb.trans (oz.mono hb.size);clear oz;go_wp2_with (with_reducible refine zx ?_)
  refine zu rfl _ _ _ rfl rfl R (zM [a2,b2,0,0]) rfl rfl _ _ hR wE rfl (wP _) fun w24 hR24 hg24=>?_
  have Z8:=hG.grown hg24 (by intro hc;injection hc with hc;have:=bp.out;omega);have fD:=hb.grown hg24 hb.size (by rintro q ⟨⟩;have:=bp.out;omega);clear hG hR hb hg24;go_wp2_with fail
  go_roundw
  case rel=>exact⟨a2,b2,⟨VM.out.1,VM.out.2.1⟩,Z8,hR24,fD⟩
  case measure=>rw[S5.out,rm hR24];have h1:=VM.out.2.2;omega
 | false =>
 have rb:Hid ((a+18446744073709551616*b) ^ 3≤p*18446744073709551616 ^ 3):=Nat.le_of_not_lt (of_decide_eq_false ov.out.symm);have Um:Hid (a<18446744073709551616):=kB.out.1;clear ov S5 kB;go_wp2_with fail
 go_loopw [81] (fun _ wr=>∃ (a b:Nat),Hid (a<18446744073709551616)∧Hid ((a+18446744073709551616*b) ^ 3≤p*18446744073709551616 ^ 3)∧Blk wr w.heap.size 154 (zM [0,0,0,p])∧Blk wr R 154 (zM [a,b,0,0])∧Below w.heap.size w wr) (fun _ wr=>32*18446744073709551616-eY wr R)
 case atStart=>exact⟨a,b,Um,rb,hG,hR,hb⟩
 case round =>
 clear Um rb hG hR hb;obtain⟨a,b,Um,rb,hG,hR,hb⟩:=hrel;have S5:=Hh (rm hR);have PZ:Hid (a+18446744073709551616*b<32*18446744073709551616):=bM (.inr rfl) HP.out.2.1 rb.out
 have kC:Hid (a<18446744073709551616∧b≤31∧(a+1)%18446744073709551616<18446744073709551616∧b+(a+1)/18446744073709551616≤32∧(a+1)%18446744073709551616+18446744073709551616*(b+(a+1)/18446744073709551616)=a+18446744073709551616*b+1):=by
  have h1:=Um.out;have h2:=PZ.out;rw[Hid]
  omega
 obtain⟨a2,oX⟩:∃ n,(a+1)%18446744073709551616=n:=⟨_,rfl⟩
 obtain⟨b2,yz⟩:∃ n,b+(a+1)/18446744073709551616=n:=⟨_,rfl⟩
 have oJ:=Hh (And.intro oX yz);rw[oX,yz]at kC;clear oX yz
 have dY:Hid (a2<18446744073709551616∧b2≤33∧num [a2,b2,0,0] ^ 3<18446744073709551616 ^ 4):=by
  refine⟨kC.out.2.2.1,Nat.le_trans kC.out.2.2.2.1 (by omega), ?_⟩
  rw[bj]
  refine qo (.inr rfl) ?_
  have h1:=kC.out.2.2.1;have h2:=kC.out.2.2.2.1
  omega
 replace hG:=hG.drew;replace hR:=hR.drew;replace hb:=hb.drew;go_upto_region 19 with fail
 refine zn 6 (fun wx=>wx.cell? ⟨R,0,none⟩=some (.int .u64 (a:Int))∧wx.cell? ⟨R,1,none⟩=some (.int .u64 (b:Int))∧wx.cell? ⟨R,2,none⟩=some (.int .u64 0)∧wx.cell? ⟨R,3,none⟩=some (.int .u64 0)∧wx.cell? ⟨w.heap.size,0,none⟩=some (.int .u64 0)∧wx.cell? ⟨w.heap.size,1,none⟩=some (.int .u64 0)∧wx.cell? ⟨w.heap.size,2,none⟩=some (.int .u64 0)∧wx.cell? ⟨w.heap.size,3,none⟩=some (.int .u64 (p:Int))) (by kernel_rfl) (⟨hR.cell 0 rfl,hR.cell 1 rfl,hR.cell 2 rfl,hR.cell 3 rfl,hG.cell 0 rfl,hG.cell 1 rfl,hG.cell 2 rfl,hG.cell 3 rfl⟩) (fun zy=>?_)
 refine Tk 0 rfl zy ?_
 refine Tk 1 rfl zy ?_
 refine Tk 3 rfl zy ?_
 refine To 2 rfl fun K hK=>?_
 go_simp
 refine(qq a b 0 0 1 kC.out.1 (by omega) (by have h1:=kC.out.2.1;omega) _).mono ?_
 rintro e w20 ⟨rfl,dQ⟩
 replace hG:=hG.below dQ;replace hR:=hR.below dQ;replace hb:=hb.trans (dQ.mono hb.size);clear dQ;rw[oJ.out.1,oJ.out.2];clear zy
 refine hK.out _ _ (fun _=>?_) (fun zy=>?_)
 ·exact⟨hR.cell 0 rfl,hR.cell 1 rfl,hR.cell 2 rfl,hR.cell 3 rfl,hG.cell 0 rfl,hG.cell 1 rfl,hG.cell 2 rfl,hG.cell 3 rfl⟩
 clear hK K;replace zy:=zy (by decide)
 try simp only[Act.put,zz1,zz2,zz3,zz4,zz5,zz6]
 refine To 4 rfl fun K hK=>?_
 go_simp
 refine(qp (x:=[a2,b2,0,0]) rfl (Xn dY.out.1 dY.out.2.1) 3 (by omega) dY.out.2.2 _).mono ?_
 rintro e w21 ⟨z,rfl,iu,mT,fP,ox⟩
 replace hG:=hG.below ox;replace hR:=hR.below ox;replace hb:=hb.trans (ox.mono hb.size);clear ox;rw[bj]at fP;obtain⟨z0,z1,z2,z3,rfl⟩:=pZ iu;have ZR:=Hh (And.intro mT fP);clear iu mT fP;clear zy
 refine hK.out _ _ (fun _=>?_) (fun zy=>?_)
 ·exact⟨hR.cell 0 rfl,hR.cell 1 rfl,hR.cell 2 rfl,hR.cell 3 rfl,hG.cell 0 rfl,hG.cell 1 rfl,hG.cell 2 rfl,hG.cell 3 rfl⟩
 clear hK K;replace zy:=zy (by decide)
 try simp only[Act.put,zz1,zz2,zz3,zz4,zz5,zz6]
 refine To 5 rfl fun K hK=>?_
 go_simp
 refine(nO (x:=[0,0,0,p]) (y:=[z0,z1,z2,z3]) rfl rfl (eU HP.out.2.1) ZR.out.1 _).mono ?_
 rintro e w22 ⟨bl,rfl,iD,oy⟩
 replace hG:=hG.below oy;replace hR:=hR.below oy;replace hb:=hb.trans (oy.mono hb.size);clear oy;clear zy
 refine hK.out _ _ (fun _=>?_) (fun zy=>?_)
 ·exact⟨hR.cell 0 rfl,hR.cell 1 rfl,hR.cell 2 rfl,hR.cell 3 rfl,hG.cell 0 rfl,hG.cell 1 rfl,hG.cell 2 rfl,hG.cell 3 rfl⟩
 clear hK K;replace zy:=zy (by decide)
 try simp only[Act.put,zz1,zz2,zz3,zz4,zz5,zz6]
 refine To 6 rfl fun K hK=>?_
 go_simp
 refine Kz hK ?_
 clear hK K
 refine Wd ?_
 clear zy;have ov:Hid (bl=decide (p*18446744073709551616 ^ 3<(a+18446744073709551616*b+1) ^ 3)):=by rw[Hid,iD.out,eD,ZR.out.2,kC.out.2.2.2.2]
 clear iD ZR dY;have d0:=hR.cell 0 (v:=.int .u64 (a:Int)) rfl;have d1:=hR.cell 1 (v:=.int .u64 (b:Int)) rfl;have d2:=hR.cell 2 (v:=.int .u64 0) rfl;have d3:=hR.cell 3 (v:=.int .u64 0) rfl
 cases bl with
 | true =>
  have Hy:Hid (a=c):=by
   have h1:=XZ (.inr rfl) HP.out.2.2.1 HP.out.2.2.2.1 rb.out (of_decide_eq_true ov.out.symm);have h2:=Um.out;rw[Hid]
   omega
  rw[Hy.out]at d0;clear ov
  simp only[Bool.not_true]
  go_wp2_with fail
  go_ret
  exact⟨rfl,hb⟩
 | false =>
 have Ob:Hid ((a2+18446744073709551616*b2) ^ 3≤p*18446744073709551616 ^ 3):=by
  have h1:=Nat.le_of_not_lt (of_decide_eq_false ov.out.symm);rw[← kC.out.2.2.2.2]at h1
  exact h1
 clear ov;have RA:=Hh (fun w=>qq a b 0 0 1 kC.out.1 (by omega) (by have h1:=kC.out.2.1;omega) w)
 simp only[Bool.not_false]
 go_wp2_with fail
 refine(RA.out _).mono ?_
 rintro e w23 ⟨rfl,oz⟩
 rw[oJ.out.1,oJ.out.2];replace hG:=hG.below oz;replace hR:=hR.below oz;replace hb:=hb.trans (oz.mono hb.size);clear oz RA d0 d1 d2 d3;go_wp2_with (with_reducible refine zx ?_)
 refine zu rfl _ _ _ rfl rfl R (zM [a2,b2,0,0]) rfl rfl _ _ hR wE rfl (wP _) fun w24 hR24 hg24=>?_
 have Z8:=hG.grown hg24 (by intro hc;injection hc with hc;have:=bp.out;omega);have fD:=hb.grown hg24 hb.size (by rintro q ⟨⟩;have:=bp.out;omega);clear hG hR hb hg24;go_wp2_with fail
 go_roundw
 case rel=>exact⟨a2,b2,kC.out.2.2.1,Ob,Z8,hR24,fD⟩
 case measure=>rw[S5.out,rm hR24];have h1:=kC.out.2.2.2.2;have h2:=PZ.out;omega
end Go.Proofs.YtjpcnhncoidliaaGreatDoor
