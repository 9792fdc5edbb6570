/- squeezed. SHA-256: the fraction of a root of -/
import Derived.Test.YtnfoilblmhbobaaGreatDoorK14
import Derived.Deep.DeepCutAuto
import Derived.Deep.CutBlock
set_option linter.unusedVariables false
set_option linter.unusedSimpArgs false
set_option maxRecDepth 100000
set_option maxHeartbeats 6400000
namespace Go.Proofs.YtnfoilblmhbobaaGreatDoor
open Go.RowKit
def uU (p:Nat):Bool:=bX (ZD p)&&bX (Yu p)&&qe (floatOfInt .f64 (p:Int))&&decide (1≤p)&&decide (p<1000)
def oe (w:World) (R:Nat):Nat :=
 (match w.cell? ⟨R,0,none⟩ with | some (.int _ n)=>n.toNat | _=>0)+18446744073709551616*(match w.cell? ⟨R,1,none⟩ with | some (.int _ n)=>n.toNat | _=>0)
theorem wH {w:World}{R a b:Nat}{t:TypeId}(h:Blk w R t (zh [a,b,0,0])):oe w R=a+18446744073709551616*b:=by
 have h0:w.cell? ⟨R,0,none⟩=some (.int .u64 (a:Int)):=h.cell 0 rfl;have h1:w.cell? ⟨R,1,none⟩=some (.int .u64 (b:Int)):=h.cell 1 rfl;rw[oe,h0,h1]
 simp
theorem me (a b:Nat):num [a,b,0,0]=a+18446744073709551616*b:=by simp[num]
theorem oE (p:Nat):num [0,0,p,0]=p*18446744073709551616 ^ 2:=by simp[num];omega
theorem oF (p:Nat):num [0,0,0,p]=p*18446744073709551616 ^ 3:=by simp[num];omega
theorem ii {a b:Nat}(ha:a<18446744073709551616) (hb:b≤33):W64 [a,b,0,0]:=by
 intro x hx
 simp at hx
 omega
theorem oY {p:Nat}(h:p<1000):W64 [0,0,p,0]:=by
 intro x hx
 simp at hx
 omega
theorem oZ {p:Nat}(h:p<1000):W64 [0,0,0,p]:=by
 intro x hx
 simp at hx
 omega
theorem tZ {x y:List Nat}(hx:x.length=4) (hy:y.length=4) (n7:W64 x) (hyw:W64 y) (w:World) :
 Calls Tryz.prog 97 #[.agg (zh x),.agg (zh y)] w fun e w'=>∃ bl,e=.returned (.bool bl)∧Hid (bl=decide (num x<num y))∧Below w.heap.size w w' :=
 (qJ hx hy n7 hyw w).mono fun _ _ h=>⟨_,h.1,rfl,h.2⟩
theorem pG (p c:Nat) (hp:uU p=true) (hc:c<18446744073709551616) (hf:tx 2 p c=true) (w:World) :
 Calls Tryz.prog 85 #[.int .u64 (p:Int),.int .i64 2] w fun e w'=>e=.returned (.int .u64 (c:Int))∧Below w.heap.size w w':=by
 unfold uU at hp
 simp only[Bool.and_eq_true,decide_eq_true_eq]at hp
 obtain⟨⟨⟨⟨ky,_⟩,_⟩,cU⟩,hp5⟩:=hp;obtain⟨f,g,k,e1,e2,e3,kX,eh⟩:=rR ky;have SQ:=Hh (fun w=>oD (floatOfInt .f64 (p:Int)) f e1 w);have FL:=Hh (fun w=>pm f g e2 w);have CV:=fun w=>run_convert_float_int (P:=Tryz.prog) w 109 70 .f64 .u64 g (k:Int) (by kernel_rfl) (by kernel_rfl) e3
 have HP:=Hh (And.intro cU (And.intro hp5 (And.intro hc (And.intro hf (And.intro kX eh)))));have iq:=Blk.new w 145 #[.int .u64 0,.int .u64 0,.int .u64 0,.int .u64 0];have yY:=zb w (.cells #[.int .u64 0,.int .u64 0,.int .u64 0,.int .u64 0] 145);clear ky cU hp5 e1 e2 e3 kX eh hc hf;go_enter Tryz.func85,Tryz.ntmps85
 go_wp2_with (with_reducible refine zx ?_)
 refine zv rfl _ _ _ rfl rfl w.heap.size 2 (.int .u64 (p:Int)) rfl rfl _ _ iq xd (by simp) rfl fun w2 hG us=>?_
 have hb:=yY.grown us yY.size (by rintro q ⟨⟩;exact Nat.le_refl _);replace hG:Blk w2 w.heap.size 145 (zh [0,0,p,0]):=hG;clear iq yY us;go_wp2_with fail
 refine(SQ.out _).mono ?_
 rintro e w3 ⟨rfl,rfl⟩
 go_wp2_with fail
 refine(FL.out _).mono ?_
 rintro e w3 ⟨rfl,rfl⟩
 clear SQ FL;go_wp2_with (with_reducible refine wJ ?_)
 refine xl rfl _ _ _ _ _ rfl (by simp) _ _ rfl rfl fun r1 w4 kz=>?_
 have xm:=hG.or kz;have xW:=ym hb kz;go_wp2_with (with_reducible refine wJ ?_)
 refine xl rfl _ _ _ _ _ rfl (by simp) _ _ rfl rfl fun r2 w5 hw5=>?_
 have xv:=xm.or hw5;have yv:=ym xW hw5;go_wp2_with (with_reducible refine pv ?_)
 refine s8 rfl _ _ _ rfl (by kernel_rfl) (by kernel_rfl) _ rfl fun m w6 hm kj=>?_
 have yC:=xv.or kj;have wT:=ym yv kj;clear hG hb xm xW xv yv kz hw5 kj
 obtain⟨lo,dB,ek⟩:∃ n:Nat,IntKind.u64.wrap ((m:Int)*2)=(n:Int)∧n<18446744073709551616:=by
  rw[IntKind.wrap_u64]
  exact⟨((m:Int)*2%18446744073709551616).toNat,by omega,by omega⟩
 have hR:=Blk.new w6 145 (zh [lo,k,0,0]);have xp:=yC.alloc (.cells (zh [lo,k,0,0]) 145);have uH:=wT.alloc wT.size (.cells (zh [lo,k,0,0]) 145);obtain⟨R,cD⟩:∃ R,w6.heap.size=R:=⟨_,rfl⟩
 have Xn:w.heap.size<R:=by rw[← cD];exact yC.lt
 rw[cD]at hR;have Uy:=Hh cD;have mf:=Hh Xn;have HM:=Hh (And.intro hm ek);clear yC wT cD Xn hm ek;go_wp2_with fail
 rw[Uy.out];go_loopw [9,37] (fun v9 v37 wr=>∃ (j s:Nat),v37=.int .i64 (j:Int)∧j≤1∧v9=.float .f64 s∧Blk wr w.heap.size 145 (zh [0,0,p,0])∧Blk wr R 145 (zh [lo,k,0,0])∧Below w.heap.size w wr) (fun _ v37 _=>(1-intOf v37).toNat)
 case atStart=>exact⟨0,_,rfl,by omega,rfl,xp,hR,uH⟩
 case round =>
 clear xp hR uH CV;obtain⟨j,s,rfl,cM,rfl,hG,hR,hb⟩:=hrel;have d0:wr.cell? ⟨R,0,none⟩=some (.int .u64 (lo:Int)):=hR.cell 0 rfl;have d1:wr.cell? ⟨R,1,none⟩=some (.int .u64 (k:Int)):=hR.cell 1 rfl;have d2:wr.cell? ⟨R,2,none⟩=some (.int .u64 0):=hR.cell 2 rfl;have d3:wr.cell? ⟨R,3,none⟩=some (.int .u64 0):=hR.cell 3 rfl
 by_cases z6:(j:Int)<1
 ·have F:=Hh (wk (x:=[lo,k,0,0]) rfl wr);have wC:=Hh z6;go_wp2_with fail
  refine F.out.mono ?_
  rintro e w8 ⟨⟨fl,rfl⟩,rf⟩
  have ur:=hG.below rf;have Xx:=hR.below rf;have t9:=hb.trans (rf.mono hb.size);clear F d0 d1 d2 d3 hG hR hb rf;go_wp2_with (with_reducible refine wJ ?_)
  refine xl rfl _ _ _ _ _ rfl (by simp) _ _ rfl rfl fun s2 w9 hw9=>?_
  have tG:=ur.or hw9;have vP:=Xx.or hw9;have rB:=ym t9 hw9;clear ur Xx t9 hw9;go_wp2_with fail
  go_roundw
  case rel=>exact⟨j+1,s2,by go_num,by have:=wC.out;omega,rfl,tG,vP,rB⟩
  case measure=>have:=wC.out;simp[intOf];omega
 have Xt:num [lo,k,0,0] ^ 2<18446744073709551616 ^ 4:=by
  refine vl (.inl rfl) ?_
  have h1:=HM.out.2;have h2:=HP.out.2.2.2.2.2;have e:num [lo,k,0,0]=lo+18446744073709551616*(k+18446744073709551616*(0+18446744073709551616*(0+18446744073709551616*0))):=rfl
  omega
 have PW:=Hh (vm (x:=[lo,k,0,0]) rfl (by have h1:=HM.out.2;have h2:=HP.out.2.2.2.2.2;intro a ha;simp at ha;omega) 2 (by omega) Xt wr);clear Xt;go_wp2_with fail
 refine PW.out.mono ?_
 rintro e w10 ⟨z,rfl,rD,tC,pP,t6⟩
 obtain⟨z0,z1,z2,z3,rfl⟩:=uv rD;rw[show zh [z0,z1,z2,z3]=#[.int .u64 (z0:Int),.int .u64 (z1:Int),.int .u64 (z2:Int),.int .u64 (z3:Int)] from rfl];obtain⟨w11,ra⟩:∃ w11,w10.alloc (.cells #[.int .u64 (z0:Int),.int .u64 (z1:Int),.int .u64 (z2:Int),.int .u64 (z3:Int)] 145)=w11:=⟨_,rfl⟩
 have wB:Blk w11 w.heap.size 145 (zh [0,0,p,0]):=by rw[← ra];exact(hG.below t6).alloc _
 have eT:Blk w11 R 145 (zh [lo,k,0,0]):=by rw[← ra];exact(hR.below t6).alloc _
 have t9:Below w.heap.size w w11:=by rw[← ra];exact(hb.trans (t6.mono hb.size)).alloc (Nat.le_trans hb.size t6.size) _
 obtain⟨Z,aC⟩:∃ Z,w10.heap.size=Z:=⟨_,rfl⟩
 have rZ:Blk w11 Z 145 (zh [z0,z1,z2,z3]):=by rw[← ra,← aC];exact Blk.new w10 145 _
 have jt:=Hh (And.intro ra aC);have HZ:=Hh (And.intro tC pP);have LS:=Hh (qJ (x:=[0,0,p,0]) (y:=[z0,z1,z2,z3]) rfl rfl (by have h2:=HP.out.2.1;intro a ha;simp at ha;omega) tC w11);obtain⟨bl,ms⟩:∃ b,decide (num [0,0,p,0]<num [z0,z1,z2,z3])=b:=⟨_,rfl⟩
 rw[ms]at LS;have kO:=Hh ms;clear rD tC pP PW t6 hG hR hb d0 d1 d2 d3 ms ra aC;have g0:w11.cell? ⟨w.heap.size,0,none⟩=some (.int .u64 0):=wB.cell 0 rfl;have g1:w11.cell? ⟨w.heap.size,1,none⟩=some (.int .u64 0):=wB.cell 1 rfl;have g2:w11.cell? ⟨w.heap.size,2,none⟩=some (.int .u64 (p:Int)):=wB.cell 2 rfl;have g3:w11.cell? ⟨w.heap.size,3,none⟩=some (.int .u64 0):=wB.cell 3 rfl;have y0:w11.cell? ⟨Z,0,none⟩=some (.int .u64 (z0:Int)):=rZ.cell 0 rfl;have y1:w11.cell? ⟨Z,1,none⟩=some (.int .u64 (z1:Int)):=rZ.cell 1 rfl;have y2:w11.cell? ⟨Z,2,none⟩=some (.int .u64 (z2:Int)):=rZ.cell 2 rfl;have y3:w11.cell? ⟨Z,3,none⟩=some (.int .u64 (z3:Int)):=rZ.cell 3 rfl;go_upto_region 14 with fail
 rw[jt.out.1,jt.out.2];go_wp2_with fail
 refine LS.out.mono ?_
 rintro e w12 ⟨rfl,zQ⟩
 have zl:=wB.below zQ;have zg:=eT.below zQ;have zf:=rZ.below zQ;replace zQ:=t9.trans (zQ.mono t9.size);clear g0 g1 g2 g3 y0 y1 y2 y3 wB eT rZ LS t9;go_upto_if 49 with fail
 go_cut [] (fun wx=>∃ (a b:Nat),a<18446744073709551616∧b≤22∧Blk wx w.heap.size 145 (zh [0,0,p,0])∧Blk wx R 145 (zh [a,b,0,0])∧Below w.heap.size w wx)
 case first =>
  cases bl with
  | true =>
   replace zl:=zl.drew;replace zg:=zg.drew;replace zf:=zf.drew;replace zQ:=zQ.drew;go_upto_region 15 with fail
   refine zp 9 (fun wx=>wx.cell? ⟨R,0,none⟩=some (.int .u64 (lo:Int))∧wx.cell? ⟨R,1,none⟩=some (.int .u64 (k:Int))∧wx.cell? ⟨R,2,none⟩=some (.int .u64 0)∧wx.cell? ⟨R,3,none⟩=some (.int .u64 0)∧wx.cell? ⟨Z,0,none⟩=some (.int .u64 (z0:Int))∧wx.cell? ⟨Z,1,none⟩=some (.int .u64 (z1:Int))∧wx.cell? ⟨Z,2,none⟩=some (.int .u64 (z2:Int))∧wx.cell? ⟨Z,3,none⟩=some (.int .u64 (z3:Int))∧wx.cell? ⟨w.heap.size,0,none⟩=some (.int .u64 0)∧wx.cell? ⟨w.heap.size,1,none⟩=some (.int .u64 0)∧wx.cell? ⟨w.heap.size,2,none⟩=some (.int .u64 (p:Int))∧wx.cell? ⟨w.heap.size,3,none⟩=some (.int .u64 0)) (by kernel_rfl) (⟨zg.cell 0 rfl,zg.cell 1 rfl,zg.cell 2 rfl,zg.cell 3 rfl,zf.cell 0 rfl,zf.cell 1 rfl,zf.cell 2 rfl,zf.cell 3 rfl,zl.cell 0 rfl,zl.cell 1 rfl,zl.cell 2 rfl,zl.cell 3 rfl⟩) (fun zy=>?_)
   refine Tk 0 rfl zy ?_
   refine Tk 1 rfl zy ?_
   refine Tk 2 rfl zy ?_
   refine Tk 5 rfl zy ?_
   refine To 3 rfl fun K hK=>?_
   go_simp
   refine(td (x:=[z0,z1,z2,z3]) (y:=[0,0,p,0]) rfl rfl _).mono ?_
   rintro e w13 ⟨mm,rfl,fJ,vf⟩
   replace zl:=zl.below vf;replace zg:=zg.below vf;replace zf:=zf.below vf;replace zQ:=zQ.trans (vf.mono zQ.size);clear vf;clear zy
   refine hK.out _ _ (fun _=>?_) (fun zy=>?_)
   ·exact⟨zg.cell 0 rfl,zg.cell 1 rfl,zg.cell 2 rfl,zg.cell 3 rfl,zf.cell 0 rfl,zf.cell 1 rfl,zf.cell 2 rfl,zf.cell 3 rfl,zl.cell 0 rfl,zl.cell 1 rfl,zl.cell 2 rfl,zl.cell 3 rfl⟩
   clear hK K;replace zy:=zy (by decide)
   try simp only[Act.put,zz1,zz2,zz3,zz4,zz5,zz6]
   refine To 4 rfl fun K hK=>?_
   go_simp
   refine(wk fJ _).mono ?_
   rintro e w14 ⟨⟨fl,rfl⟩,hb14⟩
   replace zl:=zl.below hb14;replace zg:=zg.below hb14;replace zf:=zf.below hb14;replace zQ:=zQ.trans (hb14.mono zQ.size);clear hb14;clear zy
   refine hK.out _ _ (fun _=>?_) (fun zy=>?_)
   ·exact⟨zg.cell 0 rfl,zg.cell 1 rfl,zg.cell 2 rfl,zg.cell 3 rfl,zf.cell 0 rfl,zf.cell 1 rfl,zf.cell 2 rfl,zf.cell 3 rfl,zl.cell 0 rfl,zl.cell 1 rfl,zl.cell 2 rfl,zl.cell 3 rfl⟩
   clear hK K;replace zy:=zy (by decide)
   try simp only[Act.put,zz1,zz2,zz3,zz4,zz5,zz6]
   refine To 6 rfl fun K hK=>?_
   rw[if_pos (by rfl)]
   refine nW _ _ _ _ _ rfl (by simp) _ _ rfl rfl fun fq w15 hw15=>?_
   replace zl:=zl.or hw15;replace zg:=zg.or hw15;replace zf:=zf.or hw15;replace zQ:=ym zQ hw15;clear hw15;clear zy
   refine hK.out _ _ (fun _=>?_) (fun zy=>?_)
   ·exact⟨zg.cell 0 rfl,zg.cell 1 rfl,zg.cell 2 rfl,zg.cell 3 rfl,zf.cell 0 rfl,zf.cell 1 rfl,zf.cell 2 rfl,zf.cell 3 rfl,zl.cell 0 rfl,zl.cell 1 rfl,zl.cell 2 rfl,zl.cell 3 rfl⟩
   clear hK K;replace zy:=zy (by decide)
   try simp only[Act.put,zz1,zz2,zz3,zz4,zz5,zz6]
   refine To 7 rfl fun K hK=>?_
   rw[if_pos (by rfl)]
   refine sG _ _ _ rfl (by kernel_rfl) (by kernel_rfl) _ rfl fun dd w16 hdd hw16=>?_
   replace zl:=zl.or hw16;replace zg:=zg.or hw16;replace zf:=zf.or hw16;replace zQ:=ym zQ hw16;clear hw16;clear zy
   refine hK.out _ _ (fun _=>?_) (fun zy=>?_)
   ·exact⟨zg.cell 0 rfl,zg.cell 1 rfl,zg.cell 2 rfl,zg.cell 3 rfl,zf.cell 0 rfl,zf.cell 1 rfl,zf.cell 2 rfl,zf.cell 3 rfl,zl.cell 0 rfl,zl.cell 1 rfl,zl.cell 2 rfl,zl.cell 3 rfl⟩
   clear hK K;replace zy:=zy (by decide)
   try simp only[Act.put,zz1,zz2,zz3,zz4,zz5,zz6]
   refine To 8 rfl fun K hK=>?_
   go_simp
   refine(tb lo k 0 0 dd (by have h2:=HP.out.2.2.2.2.2;omega) HP.out.2.2.2.2.1 _).mono ?_
   rintro e w17 ⟨rfl,vg⟩
   replace zl:=zl.below vg;replace zg:=zg.below vg;replace zf:=zf.below vg;replace zQ:=zQ.trans (vg.mono zQ.size);clear vg;have HA:Hid ((lo+18446744073709551616-dd)%18446744073709551616<18446744073709551616):=Nat.mod_lt _ (by decide);have HB:Hid (k-(if lo<dd then 1 else 0)≤22):=by rw[Hid];have h2:=HP.out.2.2.2.2.2;split <;> omega
   obtain⟨a0,mq⟩:∃ n,(lo+18446744073709551616-dd)%18446744073709551616=n:=⟨_,rfl⟩
   obtain⟨b0,ui⟩:∃ n,k-(if lo<dd then 1 else 0)=n:=⟨_,rfl⟩
   rw[mq]at HA;rw[ui]at HB;rw[mq,ui];clear mq ui hdd dB;clear zy
   refine hK.out _ _ (fun _=>?_) (fun zy=>?_)
   ·exact⟨zg.cell 0 rfl,zg.cell 1 rfl,zg.cell 2 rfl,zg.cell 3 rfl,zf.cell 0 rfl,zf.cell 1 rfl,zf.cell 2 rfl,zf.cell 3 rfl,zl.cell 0 rfl,zl.cell 1 rfl,zl.cell 2 rfl,zl.cell 3 rfl⟩
   clear hK K;replace zy:=zy (by decide)
   try simp only[Act.put,zz1,zz2,zz3,zz4,zz5,zz6]
   refine To 9 rfl fun K hK=>?_
   rw[if_pos (by rfl)]
   refine zD _ _ _ rfl R (zh [a0,b0,0,0]) rfl rfl _ _ zg yW rfl (ya _) fun w18 hR18 hg18=>?_
   refine Kz hK ?_
   clear hK K
   refine Wd ?_
   clear zy;have ju:=zl.grown hg18 (by intro hc;injection hc with hc;have:=mf.out;omega);have k9:=zQ.grown hg18 zQ.size (by rintro q ⟨⟩;have:=mf.out;omega);clear zl zg zf zQ hg18;go_wp2_with fail
   go_meet
   exact⟨a0,b0,HA.out,HB.out,ju,hR18,k9⟩
  | false =>
  replace zl:=zl.drew;replace zg:=zg.drew;replace zf:=zf.drew;replace zQ:=zQ.drew;go_upto_region 16 with fail
  refine zp 9 (fun wx=>wx.cell? ⟨R,0,none⟩=some (.int .u64 (lo:Int))∧wx.cell? ⟨R,1,none⟩=some (.int .u64 (k:Int))∧wx.cell? ⟨R,2,none⟩=some (.int .u64 0)∧wx.cell? ⟨R,3,none⟩=some (.int .u64 0)∧wx.cell? ⟨Z,0,none⟩=some (.int .u64 (z0:Int))∧wx.cell? ⟨Z,1,none⟩=some (.int .u64 (z1:Int))∧wx.cell? ⟨Z,2,none⟩=some (.int .u64 (z2:Int))∧wx.cell? ⟨Z,3,none⟩=some (.int .u64 (z3:Int))∧wx.cell? ⟨w.heap.size,0,none⟩=some (.int .u64 0)∧wx.cell? ⟨w.heap.size,1,none⟩=some (.int .u64 0)∧wx.cell? ⟨w.heap.size,2,none⟩=some (.int .u64 (p:Int))∧wx.cell? ⟨w.heap.size,3,none⟩=some (.int .u64 0)) (by kernel_rfl) (⟨zg.cell 0 rfl,zg.cell 1 rfl,zg.cell 2 rfl,zg.cell 3 rfl,zf.cell 0 rfl,zf.cell 1 rfl,zf.cell 2 rfl,zf.cell 3 rfl,zl.cell 0 rfl,zl.cell 1 rfl,zl.cell 2 rfl,zl.cell 3 rfl⟩) (fun zy=>?_)
  refine Tk 0 rfl zy ?_
  refine Tk 1 rfl zy ?_
  refine Tk 2 rfl zy ?_
  refine Tk 5 rfl zy ?_
  refine To 3 rfl fun K hK=>?_
  go_simp
  refine(td (x:=[0,0,p,0]) (y:=[z0,z1,z2,z3]) rfl rfl _).mono ?_
  rintro e w13 ⟨mm,rfl,fJ,vf⟩
  replace zl:=zl.below vf;replace zg:=zg.below vf;replace zf:=zf.below vf;replace zQ:=zQ.trans (vf.mono zQ.size);clear vf;clear zy
  refine hK.out _ _ (fun _=>?_) (fun zy=>?_)
  ·exact⟨zg.cell 0 rfl,zg.cell 1 rfl,zg.cell 2 rfl,zg.cell 3 rfl,zf.cell 0 rfl,zf.cell 1 rfl,zf.cell 2 rfl,zf.cell 3 rfl,zl.cell 0 rfl,zl.cell 1 rfl,zl.cell 2 rfl,zl.cell 3 rfl⟩
  clear hK K;replace zy:=zy (by decide)
  try simp only[Act.put,zz1,zz2,zz3,zz4,zz5,zz6]
  refine To 4 rfl fun K hK=>?_
  go_simp
  refine(wk fJ _).mono ?_
  rintro e w14 ⟨⟨fl,rfl⟩,hb14⟩
  replace zl:=zl.below hb14;replace zg:=zg.below hb14;replace zf:=zf.below hb14;replace zQ:=zQ.trans (hb14.mono zQ.size);clear hb14;clear zy
  refine hK.out _ _ (fun _=>?_) (fun zy=>?_)
  ·exact⟨zg.cell 0 rfl,zg.cell 1 rfl,zg.cell 2 rfl,zg.cell 3 rfl,zf.cell 0 rfl,zf.cell 1 rfl,zf.cell 2 rfl,zf.cell 3 rfl,zl.cell 0 rfl,zl.cell 1 rfl,zl.cell 2 rfl,zl.cell 3 rfl⟩
  clear hK K;replace zy:=zy (by decide)
  try simp only[Act.put,zz1,zz2,zz3,zz4,zz5,zz6]
  refine To 6 rfl fun K hK=>?_
  rw[if_pos (by rfl)]
  refine nW _ _ _ _ _ rfl (by simp) _ _ rfl rfl fun fq w15 hw15=>?_
  replace zl:=zl.or hw15;replace zg:=zg.or hw15;replace zf:=zf.or hw15;replace zQ:=ym zQ hw15;clear hw15;clear zy
  refine hK.out _ _ (fun _=>?_) (fun zy=>?_)
  ·exact⟨zg.cell 0 rfl,zg.cell 1 rfl,zg.cell 2 rfl,zg.cell 3 rfl,zf.cell 0 rfl,zf.cell 1 rfl,zf.cell 2 rfl,zf.cell 3 rfl,zl.cell 0 rfl,zl.cell 1 rfl,zl.cell 2 rfl,zl.cell 3 rfl⟩
  clear hK K;replace zy:=zy (by decide)
  try simp only[Act.put,zz1,zz2,zz3,zz4,zz5,zz6]
  refine To 7 rfl fun K hK=>?_
  rw[if_pos (by rfl)]
  refine sG _ _ _ rfl (by kernel_rfl) (by kernel_rfl) _ rfl fun dd w16 hdd hw16=>?_
  replace zl:=zl.or hw16;replace zg:=zg.or hw16;replace zf:=zf.or hw16;replace zQ:=ym zQ hw16;clear hw16;clear zy
  refine hK.out _ _ (fun _=>?_) (fun zy=>?_)
  ·exact⟨zg.cell 0 rfl,zg.cell 1 rfl,zg.cell 2 rfl,zg.cell 3 rfl,zf.cell 0 rfl,zf.cell 1 rfl,zf.cell 2 rfl,zf.cell 3 rfl,zl.cell 0 rfl,zl.cell 1 rfl,zl.cell 2 rfl,zl.cell 3 rfl⟩
  clear hK K;replace zy:=zy (by decide)
  try simp only[Act.put,zz1,zz2,zz3,zz4,zz5,zz6]
  refine To 8 rfl fun K hK=>?_
  go_simp
  refine(vp lo k 0 0 dd HM.out.2 hdd (by have h2:=HP.out.2.2.2.2.2;omega) _).mono ?_
  rintro e w17 ⟨rfl,vg⟩
  replace zl:=zl.below vg;replace zg:=zg.below vg;replace zf:=zf.below vg;replace zQ:=zQ.trans (vg.mono zQ.size);clear vg;have HA:Hid ((lo+dd)%18446744073709551616<18446744073709551616):=Nat.mod_lt _ (by decide);have HB:Hid (k+(lo+dd)/18446744073709551616≤22):=by rw[Hid];have h1:=HM.out.2;have h2:=HP.out.2.2.2.2.2;omega
  obtain⟨a0,mq⟩:∃ n,(lo+dd)%18446744073709551616=n:=⟨_,rfl⟩
  obtain⟨b0,ui⟩:∃ n,k+(lo+dd)/18446744073709551616=n:=⟨_,rfl⟩
  rw[mq]at HA;rw[ui]at HB;rw[mq,ui];clear mq ui hdd dB;clear zy
  refine hK.out _ _ (fun _=>?_) (fun zy=>?_)
  ·exact⟨zg.cell 0 rfl,zg.cell 1 rfl,zg.cell 2 rfl,zg.cell 3 rfl,zf.cell 0 rfl,zf.cell 1 rfl,zf.cell 2 rfl,zf.cell 3 rfl,zl.cell 0 rfl,zl.cell 1 rfl,zl.cell 2 rfl,zl.cell 3 rfl⟩
  clear hK K;replace zy:=zy (by decide)
  try simp only[Act.put,zz1,zz2,zz3,zz4,zz5,zz6]
  refine To 9 rfl fun K hK=>?_
  rw[if_pos (by rfl)]
  refine zD _ _ _ rfl R (zh [a0,b0,0,0]) rfl rfl _ _ zg yW rfl (ya _) fun w18 hR18 hg18=>?_
  refine Kz hK ?_
  clear hK K
  refine Wd ?_
  clear zy;have ju:=zl.grown hg18 (by intro hc;injection hc with hc;have:=mf.out;omega);have k9:=zQ.grown hg18 zQ.size (by rintro q ⟨⟩;have:=mf.out;omega);clear zl zg zf zQ hg18;go_wp2_with fail
  go_meet
  exact⟨a0,b0,HA.out,HB.out,ju,hR18,k9⟩
 case rest =>
 clear zl zg zf zQ kO HZ HM jt;obtain⟨a,b,ha,zO,hG,hR,hb⟩:=hcut;have rb:=Hh (And.intro ha zO);clear ha zO;go_wp2_with fail
 go_loopw [72] (fun _ wr=>∃ (a b:Nat),Hid (a<18446744073709551616∧b≤22)∧Blk wr w.heap.size 145 (zh [0,0,p,0])∧Blk wr R 145 (zh [a,b,0,0])∧Below w.heap.size w wr) (fun _ wr=>oe wr R)
 case atStart=>exact⟨a,b,rb,hG,hR,hb⟩
 case round =>
 clear rb hG hR hb;clear a b;obtain⟨a,b,rb,hG,hR,hb⟩:=hrel;have bv:=Hh (wH hR)
 have nj:Hid (a<18446744073709551616∧b≤33∧num [a,b,0,0] ^ 2<18446744073709551616 ^ 4):=by
  refine⟨rb.out.1,Nat.le_trans rb.out.2 (by omega), ?_⟩
  rw[me]
  refine vl (.inl rfl) ?_
  have h1:=rb.out.1;have h2:=rb.out.2
  omega
 replace hG:=hG.drew;replace hR:=hR.drew;replace hb:=hb.drew;go_upto_region 17 with fail
 refine zp 4 (fun wx=>wx.cell? ⟨R,0,none⟩=some (.int .u64 (a:Int))∧wx.cell? ⟨R,1,none⟩=some (.int .u64 (b:Int))∧wx.cell? ⟨R,2,none⟩=some (.int .u64 0)∧wx.cell? ⟨R,3,none⟩=some (.int .u64 0)∧wx.cell? ⟨w.heap.size,0,none⟩=some (.int .u64 0)∧wx.cell? ⟨w.heap.size,1,none⟩=some (.int .u64 0)∧wx.cell? ⟨w.heap.size,2,none⟩=some (.int .u64 (p:Int))∧wx.cell? ⟨w.heap.size,3,none⟩=some (.int .u64 0)) (by kernel_rfl) (⟨hR.cell 0 rfl,hR.cell 1 rfl,hR.cell 2 rfl,hR.cell 3 rfl,hG.cell 0 rfl,hG.cell 1 rfl,hG.cell 2 rfl,hG.cell 3 rfl⟩) (fun zy=>?_)
 refine Tk 0 rfl zy ?_
 refine Tk 1 rfl zy ?_
 refine Tk 2 rfl zy ?_
 refine To 3 rfl fun K hK=>?_
 go_simp
 refine(vm (x:=[a,b,0,0]) rfl (ii nj.out.1 nj.out.2.1) 2 (by omega) nj.out.2.2 _).mono ?_
 rintro e w21 ⟨z,rfl,rD,tC,pP,uX⟩
 replace hG:=hG.below uX;replace hR:=hR.below uX;replace hb:=hb.trans (uX.mono hb.size);clear uX;rw[me]at pP;obtain⟨z0,z1,z2,z3,rfl⟩:=uv rD;have kS:=Hh (And.intro tC pP);clear rD tC pP;clear zy
 refine hK.out _ _ (fun _=>?_) (fun zy=>?_)
 ·exact⟨hR.cell 0 rfl,hR.cell 1 rfl,hR.cell 2 rfl,hR.cell 3 rfl,hG.cell 0 rfl,hG.cell 1 rfl,hG.cell 2 rfl,hG.cell 3 rfl⟩
 clear hK K;replace zy:=zy (by decide)
 try simp only[Act.put,zz1,zz2,zz3,zz4,zz5,zz6]
 refine To 4 rfl fun K hK=>?_
 go_simp
 refine(tZ (x:=[0,0,p,0]) (y:=[z0,z1,z2,z3]) rfl rfl (oY HP.out.2.1) kS.out.1 _).mono ?_
 rintro e w22 ⟨bl,rfl,kO,uY⟩
 replace hG:=hG.below uY;replace hR:=hR.below uY;replace hb:=hb.trans (uY.mono hb.size);clear uY
 refine Kz hK ?_
 clear hK K
 refine Wd ?_
 clear zy;have uW:Hid (bl=decide (p*18446744073709551616 ^ 2<(a+18446744073709551616*b) ^ 2)):=by rw[Hid,kO.out,oE,kS.out.2]
 clear kO kS nj
 cases bl with
 | true =>
  have mu:Hid (18446744073709551616<a+18446744073709551616*b):=mH HP.out.1 (of_decide_eq_true uW.out.symm);clear uW;have d0:=hR.cell 0 (v:=.int .u64 (a:Int)) rfl;have d1:=hR.cell 1 (v:=.int .u64 (b:Int)) rfl;have d2:=hR.cell 2 (v:=.int .u64 0) rfl;have d3:=hR.cell 3 (v:=.int .u64 0) rfl;have LO:=Hh (fun w=>tb a b 0 0 1 (by have h1:=rb.out.2;omega) (by have h1:=mu.out;have h2:=rb.out.1;omega) w);go_wp2_with fail
  refine(LO.out _).mono ?_
  rintro e w23 ⟨rfl,uZ⟩
  have fS:Hid ((a+18446744073709551616-1)%18446744073709551616<18446744073709551616∧b-(if a<1 then 1 else 0)≤22∧(a+18446744073709551616-1)%18446744073709551616+18446744073709551616*(b-(if a<1 then 1 else 0))+1=a+18446744073709551616*b):=by
   have h1:=mu.out;have h2:=rb.out.1;have h3:=rb.out.2;rw[Hid]
   split <;> omega
  obtain⟨a2,qc⟩:∃ n,(a+18446744073709551616-1)%18446744073709551616=n:=⟨_,rfl⟩
  obtain⟨b2,zO⟩:∃ n,b-(if a<1 then 1 else 0)=n:=⟨_,rfl⟩
  rw[qc,zO]at fS;rw[qc,zO];clear qc zO LO mu d0 d1 d2 d3;replace hG:=hG.below uZ;replace hR:=hR.below uZ;replace hb:=hb.trans (uZ.mono hb.size);clear uZ;go_wp2_with (with_reducible refine zx ?_)
  refine zr rfl _ _ _ rfl rfl R (zh [a2,b2,0,0]) rfl rfl _ _ hR yW rfl (ya _) fun w24 hR24 hg24=>?_
  have jv:=hG.grown hg24 (by intro hc;injection hc with hc;have:=mf.out;omega);have kA:=hb.grown hg24 hb.size (by rintro q ⟨⟩;have:=mf.out;omega);clear hG hR hb hg24;go_wp2_with fail
  go_roundw
  case rel=>exact⟨a2,b2,⟨fS.out.1,fS.out.2.1⟩,jv,hR24,kA⟩
  case measure=>rw[bv.out,wH hR24];have h1:=fS.out.2.2;omega
 | false =>
 have eu:Hid ((a+18446744073709551616*b) ^ 2≤p*18446744073709551616 ^ 2):=Nat.le_of_not_lt (of_decide_eq_false uW.out.symm);have es:Hid (a<18446744073709551616):=rb.out.1;clear uW bv rb;go_wp2_with fail
 go_loopw [81] (fun _ wr=>∃ (a b:Nat),Hid (a<18446744073709551616)∧Hid ((a+18446744073709551616*b) ^ 2≤p*18446744073709551616 ^ 2)∧Blk wr w.heap.size 145 (zh [0,0,p,0])∧Blk wr R 145 (zh [a,b,0,0])∧Below w.heap.size w wr) (fun _ wr=>32*18446744073709551616-oe wr R)
 case atStart=>exact⟨a,b,es,eu,hG,hR,hb⟩
 case round =>
 clear es eu hG hR hb;obtain⟨a,b,es,eu,hG,hR,hb⟩:=hrel;have bv:=Hh (wH hR);have XU:Hid (a+18446744073709551616*b<32*18446744073709551616):=mG (.inl rfl) HP.out.2.1 eu.out
 have rd:Hid (a<18446744073709551616∧b≤31∧(a+1)%18446744073709551616<18446744073709551616∧b+(a+1)/18446744073709551616≤32∧(a+1)%18446744073709551616+18446744073709551616*(b+(a+1)/18446744073709551616)=a+18446744073709551616*b+1):=by
  have h1:=es.out;have h2:=XU.out;rw[Hid]
  omega
 obtain⟨a2,qc⟩:∃ n,(a+1)%18446744073709551616=n:=⟨_,rfl⟩
 obtain⟨b2,zO⟩:∃ n,b+(a+1)/18446744073709551616=n:=⟨_,rfl⟩
 have sS:=Hh (And.intro qc zO);rw[qc,zO]at rd;clear qc zO
 have nj:Hid (a2<18446744073709551616∧b2≤33∧num [a2,b2,0,0] ^ 2<18446744073709551616 ^ 4):=by
  refine⟨rd.out.2.2.1,Nat.le_trans rd.out.2.2.2.1 (by omega), ?_⟩
  rw[me]
  refine vl (.inl rfl) ?_
  have h1:=rd.out.2.2.1;have h2:=rd.out.2.2.2.1
  omega
 replace hG:=hG.drew;replace hR:=hR.drew;replace hb:=hb.drew;go_upto_region 19 with fail
 refine zp 6 (fun wx=>wx.cell? ⟨R,0,none⟩=some (.int .u64 (a:Int))∧wx.cell? ⟨R,1,none⟩=some (.int .u64 (b:Int))∧wx.cell? ⟨R,2,none⟩=some (.int .u64 0)∧wx.cell? ⟨R,3,none⟩=some (.int .u64 0)∧wx.cell? ⟨w.heap.size,0,none⟩=some (.int .u64 0)∧wx.cell? ⟨w.heap.size,1,none⟩=some (.int .u64 0)∧wx.cell? ⟨w.heap.size,2,none⟩=some (.int .u64 (p:Int))∧wx.cell? ⟨w.heap.size,3,none⟩=some (.int .u64 0)) (by kernel_rfl) (⟨hR.cell 0 rfl,hR.cell 1 rfl,hR.cell 2 rfl,hR.cell 3 rfl,hG.cell 0 rfl,hG.cell 1 rfl,hG.cell 2 rfl,hG.cell 3 rfl⟩) (fun zy=>?_)
 refine Tk 0 rfl zy ?_
 refine Tk 1 rfl zy ?_
 refine Tk 3 rfl zy ?_
 refine To 2 rfl fun K hK=>?_
 go_simp
 refine(vp a b 0 0 1 rd.out.1 (by omega) (by have h1:=rd.out.2.1;omega) _).mono ?_
 rintro e w20 ⟨rfl,nb⟩
 replace hG:=hG.below nb;replace hR:=hR.below nb;replace hb:=hb.trans (nb.mono hb.size);clear nb;rw[sS.out.1,sS.out.2];clear zy
 refine hK.out _ _ (fun _=>?_) (fun zy=>?_)
 ·exact⟨hR.cell 0 rfl,hR.cell 1 rfl,hR.cell 2 rfl,hR.cell 3 rfl,hG.cell 0 rfl,hG.cell 1 rfl,hG.cell 2 rfl,hG.cell 3 rfl⟩
 clear hK K;replace zy:=zy (by decide)
 try simp only[Act.put,zz1,zz2,zz3,zz4,zz5,zz6]
 refine To 4 rfl fun K hK=>?_
 go_simp
 refine(vm (x:=[a2,b2,0,0]) rfl (ii nj.out.1 nj.out.2.1) 2 (by omega) nj.out.2.2 _).mono ?_
 rintro e w21 ⟨z,rfl,rD,tC,pP,uX⟩
 replace hG:=hG.below uX;replace hR:=hR.below uX;replace hb:=hb.trans (uX.mono hb.size);clear uX;rw[me]at pP;obtain⟨z0,z1,z2,z3,rfl⟩:=uv rD;have kS:=Hh (And.intro tC pP);clear rD tC pP;clear zy
 refine hK.out _ _ (fun _=>?_) (fun zy=>?_)
 ·exact⟨hR.cell 0 rfl,hR.cell 1 rfl,hR.cell 2 rfl,hR.cell 3 rfl,hG.cell 0 rfl,hG.cell 1 rfl,hG.cell 2 rfl,hG.cell 3 rfl⟩
 clear hK K;replace zy:=zy (by decide)
 try simp only[Act.put,zz1,zz2,zz3,zz4,zz5,zz6]
 refine To 5 rfl fun K hK=>?_
 go_simp
 refine(tZ (x:=[0,0,p,0]) (y:=[z0,z1,z2,z3]) rfl rfl (oY HP.out.2.1) kS.out.1 _).mono ?_
 rintro e w22 ⟨bl,rfl,kO,uY⟩
 replace hG:=hG.below uY;replace hR:=hR.below uY;replace hb:=hb.trans (uY.mono hb.size);clear uY;clear zy
 refine hK.out _ _ (fun _=>?_) (fun zy=>?_)
 ·exact⟨hR.cell 0 rfl,hR.cell 1 rfl,hR.cell 2 rfl,hR.cell 3 rfl,hG.cell 0 rfl,hG.cell 1 rfl,hG.cell 2 rfl,hG.cell 3 rfl⟩
 clear hK K;replace zy:=zy (by decide)
 try simp only[Act.put,zz1,zz2,zz3,zz4,zz5,zz6]
 refine To 6 rfl fun K hK=>?_
 go_simp
 refine Kz hK ?_
 clear hK K
 refine Wd ?_
 clear zy;have uW:Hid (bl=decide (p*18446744073709551616 ^ 2<(a+18446744073709551616*b+1) ^ 2)):=by rw[Hid,kO.out,oE,kS.out.2,rd.out.2.2.2.2]
 clear kO kS nj;have d0:=hR.cell 0 (v:=.int .u64 (a:Int)) rfl;have d1:=hR.cell 1 (v:=.int .u64 (b:Int)) rfl;have d2:=hR.cell 2 (v:=.int .u64 0) rfl;have d3:=hR.cell 3 (v:=.int .u64 0) rfl
 cases bl with
 | true =>
  have Uo:Hid (a=c):=by
   have h1:=iL (.inl rfl) HP.out.2.2.1 HP.out.2.2.2.1 eu.out (of_decide_eq_true uW.out.symm);have h2:=es.out;rw[Hid]
   omega
  rw[Uo.out]at d0;clear uW
  simp only[Bool.not_true]
  go_wp2_with fail
  go_ret
  exact⟨rfl,hb⟩
 | false =>
 have ZF:Hid ((a2+18446744073709551616*b2) ^ 2≤p*18446744073709551616 ^ 2):=by
  have h1:=Nat.le_of_not_lt (of_decide_eq_false uW.out.symm);rw[← rd.out.2.2.2.2]at h1
  exact h1
 clear uW;have RA:=Hh (fun w=>vp a b 0 0 1 rd.out.1 (by omega) (by have h1:=rd.out.2.1;omega) w)
 simp only[Bool.not_false]
 go_wp2_with fail
 refine(RA.out _).mono ?_
 rintro e w23 ⟨rfl,uZ⟩
 rw[sS.out.1,sS.out.2];replace hG:=hG.below uZ;replace hR:=hR.below uZ;replace hb:=hb.trans (uZ.mono hb.size);clear uZ RA d0 d1 d2 d3;go_wp2_with (with_reducible refine zx ?_)
 refine zr rfl _ _ _ rfl rfl R (zh [a2,b2,0,0]) rfl rfl _ _ hR yW rfl (ya _) fun w24 hR24 hg24=>?_
 have jv:=hG.grown hg24 (by intro hc;injection hc with hc;have:=mf.out;omega);have kA:=hb.grown hg24 hb.size (by rintro q ⟨⟩;have:=mf.out;omega);clear hG hR hb hg24;go_wp2_with fail
 go_roundw
 case rel=>exact⟨a2,b2,rd.out.2.2.1,ZF,jv,hR24,kA⟩
 case measure=>rw[bv.out,wH hR24];have h1:=rd.out.2.2.2.2;have h2:=XU.out;omega
end Go.Proofs.YtnfoilblmhbobaaGreatDoor
