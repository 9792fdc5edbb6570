/- squeezed. Walks: cbor.checker.spend. Walks:  -/
import Derived.Test.YtliomcphdnppnaaGreatDoorK06
import Derived.Deep.DeepCutAuto
set_option linter.unusedVariables false
set_option linter.unusedSimpArgs false
set_option maxRecDepth 100000
set_option maxHeartbeats 3200000
namespace Go.Proofs.YtliomcphdnppnaaGreatDoor
open Go.RowKit
abbrev Chk (w:World) (g:Nat) (i s:Int):Prop:=Blk w g 144 #[.int .i64 i,.int .i64 s]
theorem eX {H:Snap}{x:Itm}{ba:Option Addr}{bc:Nat}{ia:Option Addr}{ic:Nat}(hx:IsItem H ba bc ia ic x) (w:World) (g:Nat) (i s:Int) (hc:Chk w g i s) (h8:x.kind=8) (WT:0≤s) (vT:s≤1099511627776) :
  Calls Tryz.prog 132 #[.pointer (some ⟨g,0,none⟩),xq x ba bc ia ic] w fun e w'=>e=.returned (.bool (decide (s+zI x≤4096)))∧Chk w' g i (s+zI x)∧w.grownBy w' (some g):=by
 have DK:=ru x.n;have E:Hid (zI x=(yI x.n).length):=by simp[Hid,zI,h8]
 obtain⟨_,_,hn,_⟩:=hx.bounds;have HN:U64 x.n:=⟨by omega,by omega⟩
 have zB:=hc.lt;have hB:=Blk.new w 26 #[.int .i64 8,.int .u64 x.n,.slice ba x.bytes.length bc,.slice ia x.items.length ic];have hC:=hc.alloc (.cells #[.int .i64 8,.int .u64 x.n,.slice ba x.bytes.length bc,.slice ia x.items.length ic] 26);clear hx hn;go_enter Tryz.func132,Tryz.ntmps132
 go_wp2_with fail
 refine zw 11 (fun w'=>w'.cell? ⟨g,1,none⟩=some (.int .i64 s)∧w'.cell? ⟨w.heap.size,1,none⟩=some (.int .u64 x.n)) (by kernel_rfl) (⟨hC.cell 1 rfl,hB.cell 1 rfl⟩) (fun zy=>?_)
 refine Tk 0 rfl zy ?_
 refine Tk 1 rfl zy ?_
 refine Tk 2 rfl zy ?_
 refine Tk 3 rfl zy ?_
 refine Tk 4 rfl zy ?_
 refine Tk 5 rfl zy ?_
 refine To 6 rfl fun K hK=>?_
 go_simp
 refine(jv _ _ HN.1 HN.2).mono ?_
 rintro e w1 ⟨r,rfl,hf⟩
 obtain⟨A,c,rfl,_,_,_⟩:=hf.own.form;have tE:=hC.drew.below hf.2
 refine Ko hK ?_ fun zy=>?_
 ·exact⟨tE.cell 1 rfl,(hB.drew.below hf.2).cell 1 rfl⟩
 clear hK K
 refine Tk 7 rfl zy ?_
 refine Tk 8 rfl zy ?_
 refine Tk 9 rfl zy ?_
 refine Tk 10 rfl zy ?_
 refine To 11 rfl fun K hK=>?_
 have d1:=tE.cell 1 rfl;have d2:=tE.frozen 1;go_simp
 refine Kz hK ?_
 clear hK K
 refine Wd ?_
 all_goals
  have hw:Hid (IntKind.i64.wrap (s+((yI x.n).length:Int))=s+(zI x:Int)):=by rw[Hid,E.out];exact IntWalk.i64_in _ (by omega)
  have R:Chk (w1.setCell ⟨g,1,none⟩ (.int .i64 (s+(zI x:Int)))) g i (s+(zI x:Int))∧w.grownBy (w1.setCell ⟨g,1,none⟩ (.int .i64 (s+(zI x:Int)))) (some g) :=
   ⟨(hC.drew.below hf.2).set_ 1 _,vX (vo (vL (yL (yz w _) _)) hf.2) (.inl rfl) _⟩
  rw[hw.out];have e1:=R.1.cell 1 rfl;clear d1 d2;go_wp2
  go_ret
  exact⟨rfl,R⟩
theorem gE {x:Itm}{ba:Option Addr}{bc:Nat}{ia:Option Addr}{ic:Nat}(w:World) (g:Nat) (i s:Int) (hc:Chk w g i s) (h7:x.kind=7) (WT:0≤s) (vT:s≤1099511627776) :
  Calls Tryz.prog 132 #[.pointer (some ⟨g,0,none⟩),xq x ba bc ia ic] w fun e w'=>e=.returned (.bool (decide (s+zI x≤4096)))∧Chk w' g i (s+zI x)∧w.grownBy w' (some g):=by
 have zB:=hc.lt;have c1:=hc.cell 1 rfl;have f1:=hc.frozen 1
 by_cases jW:(24:Int)≤(x.n:Int)
 ·have E:Hid ((zI x:Int)=2):=by
   have:24≤x.n:=by omega
   simp[Hid,zI,h7,this]
  have d1:=(hc.set_ 1 (.int .i64 (s+1))).cell 1 rfl;have g1:=(hc.set_ 1 (.int .i64 (s+1))).frozen 1;go_enter Tryz.func132,Tryz.ntmps132
  go_wp2
  go_ret
  have e:s+1+1=s+(zI x:Int):=by rw[E.out];omega
  rw[← e]
  exact⟨rfl,((hc.set_ 1 _).set_ 1 _).alloc _,yL (vX (vX (yz w _) (.inl rfl) _) (.inl rfl) _) _⟩
 have E:Hid ((zI x:Int)=1):=by
  have:¬ 24≤x.n:=by omega
  simp[Hid,zI,h7,this]
 have d1:=(hc.set_ 1 (.int .i64 (s+1))).cell 1 rfl;go_enter Tryz.func132,Tryz.ntmps132
 go_wp2
 go_ret
 have e:s+1=s+(zI x:Int):=by rw[E.out]
 rw[← e]
 exact⟨rfl,(hc.set_ 1 _).alloc _,yL (vX (yz w _) (.inl rfl) _) _⟩
theorem ch {H:Snap}{x:Itm}{ba:Option Addr}{bc:Nat}{ia:Option Addr}{ic:Nat}(hx:IsItem H ba bc ia ic x) (w:World) (g:Nat) (i s:Int) (hc:Chk w g i s) (h0:0≤x.kind) (h7:x.kind<7) (WT:0≤s) (vT:s≤1099511627776) (uD:x.bytes.length≤1099511627776) :
  Calls Tryz.prog 132 #[.pointer (some ⟨g,0,none⟩),xq x ba bc ia ic] w fun e w'=>e=.returned (.bool (decide (s+zI x≤4096)))∧Chk w' g i (s+zI x)∧w.grownBy w' (some g):=by
 have zB:=hc.lt
 have tz:(xi x:Int)<18446744073709551616:=by
  have:=hx.bounds
  unfold xi
  repeat' split
  all_goals omega
 have HN:U64 (xi x):=⟨by omega,tz⟩
 have nV:=um x.kind.toNat (xi x);have E:Hid (zI x=(yE x.kind.toNat (xi x)).length+x.bytes.length):=by rw[Hid,zI,if_neg (by omega),if_neg (by omega)]
 have b7:(x.kind==7)=false:=by simp;omega
 have b8:(x.kind==8)=false:=by simp;omega
 have hB:=Blk.new w 26 #[.int .i64 x.kind,.int .u64 x.n,.slice ba x.bytes.length bc,.slice ia x.items.length ic];have hC:=hc.alloc (.cells #[.int .i64 x.kind,.int .u64 x.n,.slice ba x.bytes.length bc,.slice ia x.items.length ic] 26);clear tz;go_enter Tryz.func132,Tryz.ntmps132
 go_wp2_with fail
 refine zw 17 (fun w'=>w'.cell? ⟨g,1,none⟩=some (.int .i64 s)∧w'.cell? ⟨w.heap.size,0,none⟩=some (.int .i64 x.kind)∧w'.cell? ⟨w.heap.size,1,none⟩=some (.int .u64 x.n)∧w'.cell? ⟨w.heap.size,2,none⟩=some (.slice ba x.bytes.length bc)∧w'.cell? ⟨w.heap.size,3,none⟩=some (.slice ia x.items.length ic)) (by kernel_rfl) (⟨hC.cell 1 rfl,hB.cell 0 rfl,hB.cell 1 rfl,hB.cell 2 rfl,hB.cell 3 rfl⟩) (fun zy=>?_)
 refine Tk 0 rfl zy ?_
 refine Tk 1 rfl zy ?_
 refine Tk 2 rfl zy ?_
 refine Tk 3 rfl zy ?_
 refine Tk 4 rfl zy ?_
 refine Tk 10 rfl zy ?_
 refine Tk 11 rfl zy ?_
 refine Tk 12 rfl zy ?_
 refine To 5 rfl fun K hK=>?_
 go_simp
 refine(jw hx.arg _ (by omega) (by omega)).mono ?_
 rintro e w1 ⟨rfl,hm⟩
 have yO:=hB.drew.below hm;have tE:=hC.drew.below hm
 refine Ko hK ?_ fun zy=>?_
 ·exact⟨tE.cell 1 rfl,yO.cell 0 rfl,yO.cell 1 rfl,yO.cell 2 rfl,yO.cell 3 rfl⟩
 clear hK K
 refine Tk 6 rfl zy ?_
 refine Tk 7 rfl zy ?_
 refine To 8 rfl fun K hK=>?_
 go_simp
 refine(iE _ _ _ (by omega) (by omega) (by omega) HN.2).mono ?_
 rintro e w2 ⟨r,rfl,hf⟩
 obtain⟨A,c,rfl,_,_,_⟩:=hf.own.form;have yV:=yO.below hf.2;have sN:=tE.below hf.2
 refine Ko hK ?_ fun zy=>?_
 ·exact⟨sN.cell 1 rfl,yV.cell 0 rfl,yV.cell 1 rfl,yV.cell 2 rfl,yV.cell 3 rfl⟩
 clear hK K
 refine Tk 9 rfl zy ?_
 refine Tk 13 rfl zy ?_
 refine Tk 14 rfl zy ?_
 refine Tk 15 rfl zy ?_
 refine Tk 16 rfl zy ?_
 refine To 17 rfl fun K hK=>?_
 have d1:=sN.cell 1 rfl;have d2:=sN.frozen 1;go_simp
 refine Kz hK ?_
 clear hK K
 refine Wd ?_
 have hw:Hid (IntKind.i64.wrap (s+IntKind.i64.wrap (((yE x.kind.toNat (xi x)).length:Int)+(x.bytes.length:Int)))=s+(zI x:Int)):=by
  rw[Hid,E.out,IntWalk.i64_in (((yE x.kind.toNat (xi x)).length:Int)+(x.bytes.length:Int)) (by omega),IntWalk.i64_in _ (by omega)]
  omega
 have R:Chk (w2.setCell ⟨g,1,none⟩ (.int .i64 (s+(zI x:Int)))) g i (s+(zI x:Int))∧w.grownBy (w2.setCell ⟨g,1,none⟩ (.int .i64 (s+(zI x:Int)))) (some g) :=
  ⟨sN.set_ 1 _,vX (vo (vo (vL (yL (yz w _) _)) hm) hf.2) (.inl rfl) _⟩
 rw[Int.toNat_natCast]at *;rw[hw.out];have e1:=R.1.cell 1 rfl;clear d1 d2;go_wp2
 go_ret
 exact⟨rfl,R⟩
theorem jx {H:Snap}{k n:Int}{ba:Option Addr}{bl bc:Nat}{ia:Option Addr}{il ic:Nat}{x:Itm}(hx:ItemA H k n ba bl bc ia il ic x) (w:World) (g:Nat) (i s:Int) (hc:Chk w g i s)
  (h0:0≤x.kind) (h8:x.kind≤8) (WT:0≤s) (vT:s≤1099511627776) (uD:x.bytes.length≤1099511627776) :
  Calls Tryz.prog 132 #[.pointer (some ⟨g,0,none⟩),.agg #[.int .i64 k,.int .u64 n,.slice ba bl bc,.slice ia il ic]] w
   fun e w'=>e=.returned (.bool (decide (s+zI x≤4096)))∧Chk w' g i (s+zI x)∧w.grownBy w' (some g):=by
 obtain⟨rfl,rfl,rfl,rfl,hx⟩:=hx
 by_cases h:x.kind=8
 ·exact eX hx w g i s hc h WT vT
 by_cases h7:x.kind=7
 ·exact gE w g i s hc h7 WT vT
 exact ch hx w g i s hc h0 (by omega) WT vT uD
theorem jp {H:Snap}(l:List Itm) (b off:Nat) (A:Option Addr) (ic:Nat) (w:World) (hA:0<l.length→A=some ⟨b,off,none⟩∧IsElems H b off l) (hH:Holds w H) (hk:KindsL l)
  (xo:∀ k (h:k<l.length),(zh l[k]).length≤1099511627776) (n:Nat) (hn:n=l.length) (wd:n≤1099511627776) :
  Calls Tryz.prog 133 #[.slice A n ic] w fun e w'=>e=.returned (.bool (xY l))∧Below w.heap.size w w':=by
 obtain⟨ans,RU⟩:∃ b,xY l=b:=⟨_,rfl⟩
 rw[RU];have J0:=Hh RU;have Ga:=Hh hn;have Nb:=Hh xo;have K6:=Hh hA;clear RU hn xo hA;go_enter Tryz.func133,Tryz.ntmps133
 go_wp2
 go_loopw [3] (fun i wr=>∃ j:Nat,2≤j∧i=.int .i64 j∧j≤n+2∧xY (l.drop (j-2))=ans∧Below w.heap.size w wr) (fun i _=>(n+2-intOf i).toNat)
 case atStart=>exact⟨2,Nat.le_refl _,rfl,by omega,by simpa using J0.out,Below.refl _ _⟩
 case round =>
 obtain⟨j,h2,rfl,hj,qC,hb⟩:=hrel
 by_cases zB:j<n
 ·have hn:=Ga.out;obtain⟨hA,xI⟩:=K6.out (by omega);have tX:=mz l j h2 (by omega);obtain⟨y1,y2,y3,y4,p0,p1,p2,p3,hy⟩:=xI.get (j-2) (by omega);obtain⟨z1,z2,z3,z4,q0,q1,q2,q3,hz⟩:=xI.get j (by omega);have Ye:=hk.get (j-2) (by omega);have Fv:=hk.get j (by omega);have jj:=Nb.out (j-2) (by omega);have Td:=Nb.out j (by omega)
  generalize l[j-2]'(by omega)=y at *
  generalize l[j]'(by omega)=z at *
  have uF:(0:Int)≤(j:Int)-2:=by omega
  have rN:(j:Int)-2<(n:Int):=by omega
  have rp:(2:Int)≤(j:Int):=by omega
  have pI:(j:Int)<(n:Int):=by omega
  subst hA;have aG:=Hh tX;have gY:=Hh qC;have KQ:Hid (w.heap.size≤wr.heap.size):=hb.size;have yD:Holds wr H:=hH.below hb (Nat.le_refl _);have Vd:Holds wr.drew H:=yD.drew;have qe:IntKind.i64.wrap ((j:Int)-2)=(j:Int)-2:=IntWalk.i64_in _ (by omega);have fl:((j:Int)-2).toNat=j-2:=by omega
  clear tX qC hn xI;go_wp2_with fail
  refine zw 12 (fun w'=>w'.cell? ⟨b,off+(j-2)*4,none⟩=some (.int .i64 y.kind)∧w'.cell? ⟨b,off+(j-2)*4+1,none⟩=some (.int .u64 y.n)∧w'.cell? ⟨b,off+(j-2)*4+2,none⟩=some (.slice y1 y.bytes.length y2)∧w'.cell? ⟨b,off+(j-2)*4+3,none⟩=some (.slice y3 y.items.length y4)∧w'.cell? ⟨b,off+j*4,none⟩=some (.int .i64 z.kind)∧w'.cell? ⟨b,off+j*4+1,none⟩=some (.int .u64 z.n)∧w'.cell? ⟨b,off+j*4+2,none⟩=some (.slice z1 z.bytes.length z2)∧w'.cell? ⟨b,off+j*4+3,none⟩=some (.slice z3 z.items.length z4)) (by kernel_rfl) (⟨yD.cell p0,yD.cell p1,yD.cell p2,yD.cell p3,yD.cell q0,yD.cell q1,yD.cell q2,yD.cell q3⟩) (fun zy=>?_)
  refine Tk 0 rfl zy ?_
  refine Tk 1 rfl zy ?_
  refine Tk 2 rfl zy ?_
  refine Tk 3 rfl zy ?_
  refine Tk 4 rfl zy ?_
  refine Tk 6 rfl zy ?_
  refine Tk 7 rfl zy ?_
  refine Tk 8 rfl zy ?_
  refine Tk 9 rfl zy ?_
  refine To 5 rfl fun K hK=>?_
  go_simp
  refine(rU y H _ _ _ _ _ _ _ _ _ w.heap.size (.slice none 0 0) [] Ye hy.arg Vd (OwnB.nil _ _) KQ.out (by simp[Value.ownBlock]) (by simpa using jj)).mono ?_
  rintro e w1 ⟨r1,rfl,Yw,fd,Yr⟩
  obtain⟨A1,c1,rfl,_,_,vT⟩:=Yw.form;have zH:=yo fd;have oR:Holds w1 H:=Vd.below zH (Nat.le_refl _);have rM:=zH.size
  simp only[List.nil_append]at Yw vT
  refine Ko hK ?_ fun zy=>?_
  ·exact⟨oR.cell p0,oR.cell p1,oR.cell p2,oR.cell p3,oR.cell q0,oR.cell q1,oR.cell q2,oR.cell q3⟩
  clear hK K
  refine To 10 rfl fun K hK=>?_
  go_simp
  refine(rU z H _ _ _ _ _ _ _ _ _ w.heap.size (.slice none 0 0) [] Fv hz.arg oR (OwnB.nil _ _) (Nat.le_trans KQ.out rM) (by simp[Value.ownBlock]) (by simpa using Td)).mono ?_
  rintro e w2 ⟨r2,rfl,dV,qJ,WN⟩
  obtain⟨A2,c2,rfl,_,_,dw⟩:=dV.form;have zG:=yo qJ;have oO:Holds w2 H:=oR.below zG (Nat.le_refl _)
  simp only[List.nil_append]at dV dw
  refine Ko hK ?_ fun zy=>?_
  ·exact⟨oO.cell p0,oO.cell p1,oO.cell p2,oO.cell p3,oO.cell q0,oO.cell q1,oO.cell q2,oO.cell q3⟩
  clear hK K
  refine To 11 rfl fun K hK=>?_
  go_simp
  refine(oh _ _ _ (zh y) (zh z) _ _ _ _ (by simp) (by simp) (vT.below zG) dw).mono ?_
  rintro e w3 ⟨rfl,rfl⟩
  refine Ko hK ?_ fun zy=>?_
  ·exact⟨oO.cell p0,oO.cell p1,oO.cell p2,oO.cell p3,oO.cell q0,oO.cell q1,oO.cell q2,oO.cell q3⟩
  clear hK K
  refine To 12 rfl fun K hK=>?_
  go_simp
  refine Kz hK ?_
  clear hK K
  refine Wd ?_
  have nb:=hb.drew.trans ((zH.trans (zG.mono rM)).mono KQ.out);have rD:=Hh (And.intro aG.out gY.out);clear aG gY p0 p1 p2 p3 q0 q1 q2 q3 zy Yw dV fd qJ Yr WN vT dw
  generalize hcv:Lib.compareBytes (zh y) (zh z)=cv at *
  by_cases hc:(0:Int)≤cv
  ·have ha:ans=false:=by
    obtain⟨h1,h2⟩:=rD.out;rw[← h2,h1];have:¬ cv<0:=by omega
    simp[this]
   have K7:=Hh ha;clear ha;go_wp2
   go_ret
   exact⟨(by rw[K7.out];rfl),nb⟩
  have ha:xY (l.drop j)=ans:=by
   obtain⟨h1,h2⟩:=rD.out;rw[← h2,h1];have:cv<0:=by omega
   simp[this]
  have K7:=Hh ha;clear ha;go_wp2
  go_roundw
  case rel=>exact⟨j+2,by omega,by go_num,by omega,K7.out,nb⟩
  case measure=>simp[intOf];omega
 have hn:=Ga.out;have JW:=Hh (eg l j h2 (by omega));have gY:=Hh qC;clear qC hn;go_wp2
 go_ret
 exact⟨(by rw[← gY.out,JW.out];rfl),hb⟩
def lJ (w:World) (g:Nat) (o:Option (Nat×Nat)) (e:Ending) (w':World):Prop :=
 e=.returned (.bool o.isSome)∧w.grownBy w' (some g)∧∃ i s:Int,Chk w' g i s∧∀ p,o=some p→i=(p.1:Int)∧s=(p.2:Int)
def kZ (x:Itm):Prop:=∀ (H:Snap) (k n:Int) (ba:Option Addr) (bl bc:Nat) (ia:Option Addr) (il ic:Nat) (w:World) (g i s lv:Nat),
 Tabs H→ItemA H k n ba bl bc ia il ic x→Holds w H→H g=none→Chk w g i s→i≤256→s≤4096→lv≤8→
 Calls Tryz.prog 105 #[.pointer (some ⟨g,0,none⟩),.agg #[.int .i64 k,.int .u64 n,.slice ba bl bc,.slice ia il ic],.int .i64 (lv:Int)] w (lJ w g (chk x lv i s))
theorem ZN (x:Itm) (i s lv:Nat) (h:256<i+1∨4096<x.bytes.length∨256<x.items.length) {H:Snap}{ba:Option Addr}{bc:Nat}{ia:Option Addr}{ic:Nat}(hx:IsItem H ba bc ia ic x) (w:World) (g:Nat)
  (hc:Chk w g i s) (hi:i≤256):Calls Tryz.prog 105 #[.pointer (some ⟨g,0,none⟩),xq x ba bc ia ic,.int .i64 (lv:Int)] w (lJ w g (chk x lv i s)):=by
 have E:Hid (chk x lv i s=none):=by rw[Hid,nO,if_pos h]
 obtain⟨_,_,_,zH,zG,rN,pI⟩:=hx.bounds;have hb:x.bytes.length≤9223372036854775807:=by omega
 have fg:x.items.length≤9223372036854775807:=by omega
 have zB:=hc.lt;have c0:=hc.cell 0 rfl;have f0:=hc.frozen 0;have c00:=(hc.set_ 0 (.int .i64 ((i:Int)+1))).cell 0 rfl
 have R:=Hh (And.intro ((hc.set_ 0 (.int .i64 ((i:Int)+1))).alloc (.cells #[.int .i64 x.kind,.int .u64 x.n,.slice ba x.bytes.length bc,.slice ia x.items.length ic] 26))
  (yL (vX (yz w (some g)) (.inl (rfl:(⟨g,0,none⟩:Addr).block=g)) (.int .i64 ((i:Int)+1))) (.cells #[.int .i64 x.kind,.int .u64 x.n,.slice ba x.bytes.length bc,.slice ia x.items.length ic] 26)))
 have HH:=Hh h;clear hx zH zG rN pI h;go_enter Tryz.func105,Tryz.ntmps105
 go_wp2_with fail
 all_goals first
  | (go_ret;exact⟨by rw[E.out];rfl,R.out.2,_,_,R.out.1,by rw[E.out];intro p hp;cases hp⟩)
  | (exfalso;have:=HH.out;omega)
abbrev qU (w:World) (g:Nat) (i:Int) (x:Itm) (ba:Option Addr) (bc:Nat) (ia:Option Addr) (ic:Nat):World :=
 (w.setCell ⟨g,0,none⟩ (.int .i64 i)).alloc (.cells #[.int .i64 x.kind,.int .u64 x.n,.slice ba x.bytes.length bc,.slice ia x.items.length ic] 26)
theorem cE (x:Itm) (i s lv:Nat) (h1:i+1≤256) (h2:x.bytes.length≤4096) (h3:x.items.length≤256) (hp:yh x=true) {H:Snap}(hT:Tabs H) {ba:Option Addr}{bc:Nat}{ia:Option Addr}{ic:Nat}(hx:IsItem H ba bc ia ic x)
  (w:World) (hH:Holds w H) (g:Nat) (hg:H g=none) (hc:Chk w g i s) (hs:s≤4096) :
  Calls Tryz.prog 105 #[.pointer (some ⟨g,0,none⟩),xq x ba bc ia ic,.int .i64 (lv:Int)] w (lJ w g (chk x lv i s)):=by
 have E:Hid (chk x lv i s=if yv x=true∧s+zI x≤4096 then some (i+1,s+zI x) else none):=by rw[Hid,nO,if_neg (by omega),if_pos hp]
 have hk:=(zL x).1 hp;have iq:0≤x.kind:=by omega
 have Pb:x.kind≤8:=by omega
 have zB:=hc.lt;have c0:=hc.cell 0 rfl;have f0:=hc.frozen 0;have c00:=(hc.set_ 0 (.int .i64 ((i:Int)+1))).cell 0 rfl;have tE:Chk (qU w g ((i:Int)+1) x ba bc ia ic) g ((i:Int)+1) s:=(hc.set_ 0 _).alloc _
 have yO:Blk (qU w g ((i:Int)+1) x ba bc ia ic) w.heap.size 26 #[.int .i64 x.kind,.int .u64 x.n,.slice ba x.bytes.length bc,.slice ia x.items.length ic]:=by
  have:=Blk.new (w.setCell ⟨g,0,none⟩ (.int .i64 ((i:Int)+1))) 26 #[.int .i64 x.kind,.int .u64 x.n,.slice ba x.bytes.length bc,.slice ia x.items.length ic];rwa [show(w.setCell ⟨g,0,none⟩ (.int .i64 ((i:Int)+1))).heap.size=w.heap.size by simp[World.setCell]]at this
 have sC:w.grownBy (qU w g ((i:Int)+1) x ba bc ia ic) (some g):=yL (vX (yz w (some g)) (.inl rfl) _) _;have oR:Holds (qU w g ((i:Int)+1) x ba bc ia ic) H:=(hH.setCell hg _).alloc _;clear hk;have Sw:=hx.arg;clear hx;go_enter Tryz.func105,Tryz.ntmps105
 go_wp2_with fail
 refine(oU hT Sw _ oR).mono ?_
 rintro e w2 ⟨rfl,zG⟩
 have sN:=tE.below zG;have yV:=yO.below zG;have xR:=vo sC zG;have b0:=yV.cell 0 rfl;have b1:=yV.cell 1 rfl;have b2:=yV.cell 2 rfl;have b3:=yV.cell 3 rfl
 by_cases ho:yv x=true
 ·go_wp2_with fail
  refine(jx Sw w2 g ((i:Int)+1) s sN iq Pb (by omega) (by omega) (by omega)).mono ?_
  rintro e w3 ⟨rfl,jX,ye⟩
  have R:=Hh (And.intro (zD xR ye (.inl rfl)) jX);clear c0 f0 c00 tE yO sC oR sN yV xR b0 b1 b2 b3 jX ye;go_wp2_with fail
  go_ret
  refine⟨?_,R.out.1,_,_,R.out.2, ?_⟩
  ·rw[E.out]
   by_cases zC:s+zI x≤4096
   ·rw[if_pos ⟨ho,zC⟩,show decide ((s:Int)+(zI x:Int)≤4096)=true by simp;omega];rfl
   rw[if_neg (fun h=>zC h.2),show decide ((s:Int)+(zI x:Int)≤4096)=false by simp;omega];rfl
  intro p hp
  rw[E.out]at hp
  split at hp
  ·injection hp with hp
   subst hp
   exact⟨by simp,by simp⟩
  cases hp
 have G0:yv x=false:=by simpa using ho
 clear ho;have R:=Hh (And.intro xR sN);clear c0 f0 c00 tE yO sC oR sN yV xR b0 b1 b2 b3;go_wp2_with fail
 go_ret
 have e0:chk x lv i s=none:=by rw[E.out,if_neg (fun h=>by rw[G0]at h;cases h.1)]
 exact⟨by rw[e0];rfl,R.out.1,_,_,R.out.2,by rw[e0];intro p hp;cases hp⟩
theorem cD (x:Itm) (i s lv:Nat) (h1:i+1≤256) (h2:x.bytes.length≤4096) (h3:x.items.length≤256) (hp:yh x=false) (hf:vk x lv=false) {H:Snap}(hT:Tabs H) {ba:Option Addr}{bc:Nat}{ia:Option Addr}{ic:Nat}(hx:IsItem H ba bc ia ic x)
  (w:World) (hH:Holds w H) (g:Nat) (hg:H g=none) (hc:Chk w g i s) (hs:s≤4096) (hlv:lv≤8) :
  Calls Tryz.prog 105 #[.pointer (some ⟨g,0,none⟩),xq x ba bc ia ic,.int .i64 (lv:Int)] w (lJ w g (chk x lv i s)):=by
 have E:Hid (chk x lv i s=none):=by rw[Hid,nO,if_neg (by omega),if_neg (by simp[hp]),if_pos hf]
 have zB:=hc.lt;have c0:=hc.cell 0 rfl;have f0:=hc.frozen 0;have c00:=(hc.set_ 0 (.int .i64 ((i:Int)+1))).cell 0 rfl;have tE:Chk (qU w g ((i:Int)+1) x ba bc ia ic) g ((i:Int)+1) s:=(hc.set_ 0 _).alloc _
 have yO:Blk (qU w g ((i:Int)+1) x ba bc ia ic) w.heap.size 26 #[.int .i64 x.kind,.int .u64 x.n,.slice ba x.bytes.length bc,.slice ia x.items.length ic]:=by
  have:=Blk.new (w.setCell ⟨g,0,none⟩ (.int .i64 ((i:Int)+1))) 26 #[.int .i64 x.kind,.int .u64 x.n,.slice ba x.bytes.length bc,.slice ia x.items.length ic];rwa [show(w.setCell ⟨g,0,none⟩ (.int .i64 ((i:Int)+1))).heap.size=w.heap.size by simp[World.setCell]]at this
 have sC:w.grownBy (qU w g ((i:Int)+1) x ba bc ia ic) (some g):=yL (vX (yz w (some g)) (.inl rfl) _) _;have oR:Holds (qU w g ((i:Int)+1) x ba bc ia ic) H:=(hH.setCell hg _).alloc _;have Sw:=hx.arg;have HF:=Hh hf;clear hx hf;go_enter Tryz.func105,Tryz.ntmps105
 go_wp2_with fail
 refine(oU hT Sw _ oR).mono ?_
 rintro e w2 ⟨rfl,zG⟩
 have sN:=tE.below zG;have yV:=yO.below zG;have R:=Hh (And.intro (vo sC zG) sN);have b0:=yV.cell 0 rfl;have b1:=yV.cell 1 rfl;have b2:=yV.cell 2 rfl;have b3:=yV.cell 3 rfl;clear c0 f0 c00 tE yO sC oR sN yV zG;go_wp2_with fail
 all_goals first
  | (go_ret;exact⟨by rw[E.out];rfl,R.out.1,_,_,R.out.2,by rw[E.out];intro p hp;cases hp⟩)
  | skip
 all_goals try simp only[beq_eq_false_iff_ne,ne_eq]at *
 all_goals exact absurd (show _∧_∧_∧_∧_∧_∧_ from⟨by omega,by omega,by omega,by omega,fun _=>by omega,fun _=>by omega,fun _=>by omega⟩) (of_decide_eq_false HF.out)
theorem ZO (x:Itm) (ih:∀ y:Itm,cnt y<cnt x→kZ y) (i s lv:Nat) (h1:i+1≤256) (h2:x.bytes.length≤4096) (h3:x.items.length≤256) (hp:yh x=false) (hf:vk x lv=true) {H:Snap}(hT:Tabs H) {ba:Option Addr}{bc:Nat}{ia:Option Addr}{ic:Nat}(hx:IsItem H ba bc ia ic x)
  (w:World) (hH:Holds w H) (g:Nat) (hg:H g=none) (hc:Chk w g i s) (hs:s≤4096) :
  Calls Tryz.prog 105 #[.pointer (some ⟨g,0,none⟩),xq x ba bc ia ic,.int .i64 (lv:Int)] w (lJ w g (chk x lv i s)):=by
 have E:Hid (chk x lv i s=if 4096<s+zI x then none else match sq x.items (lv+1) (i+1) (s+zI x) with | none=>none | some p=>if x.kind=5∧xY x.items=false then none else some p):=by
  rw[Hid,nO,if_neg (by omega),if_neg (by simp[hp]),if_neg (by simp[hf])];rfl
 obtain⟨DU,QN,E9,uD,jg,yP,dq⟩:=xk hf;have Dq:(x.bytes.length:Int)≤0:=by omega
 have zB:=hc.lt;have c0:=hc.cell 0 rfl;have f0:=hc.frozen 0;have c00:=(hc.set_ 0 (.int .i64 ((i:Int)+1))).cell 0 rfl;have tE:Chk (qU w g ((i:Int)+1) x ba bc ia ic) g ((i:Int)+1) s:=(hc.set_ 0 _).alloc _
 have yO:Blk (qU w g ((i:Int)+1) x ba bc ia ic) w.heap.size 26 #[.int .i64 x.kind,.int .u64 x.n,.slice ba x.bytes.length bc,.slice ia x.items.length ic]:=by
  have:=Blk.new (w.setCell ⟨g,0,none⟩ (.int .i64 ((i:Int)+1))) 26 #[.int .i64 x.kind,.int .u64 x.n,.slice ba x.bytes.length bc,.slice ia x.items.length ic];rwa [show(w.setCell ⟨g,0,none⟩ (.int .i64 ((i:Int)+1))).heap.size=w.heap.size by simp[World.setCell]]at this
 have sC:w.grownBy (qU w g ((i:Int)+1) x ba bc ia ic) (some g):=yL (vX (yz w (some g)) (.inl rfl) _) _;have oR:Holds (qU w g ((i:Int)+1) x ba bc ia ic) H:=(hH.setCell hg _).alloc _;have Sw:=hx.arg
 have tests:((x.kind==6)=true∧(x.kind==5)=false∧(x.kind != 5)=true∧(x.kind != 6)=false∧(x.items.length:Int)≤1∧1≤(x.items.length:Int)∧Hid (¬ x.kind=5))∨
   ((x.kind==6)=false∧(x.kind != 6)=true∧(x.n:Int)≤0∧(x.kind==5)=true∧(x.kind != 5)=false∧((x.items.length:Int)%2==1)=false∧Hid (x.kind=5))∨
   ((x.kind==6)=false∧(x.kind != 6)=true∧(x.n:Int)≤0∧(x.kind==5)=false∧(x.kind != 5)=true∧True∧Hid (¬ x.kind=5)):=by
  rcases(by omega:x.kind=6∨x.kind=5∨x.kind=4) with h | h | h
  ·have:=jg h
   exact .inl ⟨by simp[h],by simp[h],by simp[h],by simp[h],by omega,by omega,by rw[Hid];omega⟩
  ·have:=yP (by omega);have h2:=dq h
   exact .inr (.inl ⟨by simp[h],by simp[h],by omega,by simp[h],by simp[h],by simp;omega,h⟩)
  have:=yP (by omega)
  exact .inr (.inr ⟨by simp[h],by simp[h],by omega,by simp[h],by simp[h],trivial,by rw[Hid];omega⟩)
 have HX:=Hh hx;clear hx hf jg yP dq uD;have TT:=Hh tests;clear tests;go_enter Tryz.func105,Tryz.ntmps105
 go_wp2_with fail
 refine(oU hT Sw _ oR).mono ?_
 rintro e w2 ⟨rfl,zG⟩
 have sN:=tE.below zG;have yV:=yO.below zG;have xR:=vo sC zG;have b0:=yV.cell 0 rfl;have b1:=yV.cell 1 rfl;have b2:=yV.cell 2 rfl;have b3:=yV.cell 3 rfl;go_upto_region 9 with fail
 go_cut [95] (fun s95 wx=>s95=.bool false∧w2=wx)
 case first =>
  rcases TT.out with ⟨t1,t2,t3,t4,t5,t6,t7⟩ | ⟨t1,t2,t3,t4,t5,t6,t7⟩ | ⟨t1,t2,t3,t4,t5,t6,t7⟩
  all_goals
   go_wp2_with fail
   go_meet
   exact⟨rfl,rfl⟩
 case rest =>
 obtain⟨rfl,rfl⟩:=hcut;go_wp2_with fail
 refine(jx Sw _ g ((i:Int)+1) s sN (by omega) (by omega) (by omega) (by omega) (by omega)).mono ?_
 rintro e w3 ⟨rfl,jX,ye⟩
 have ut:=yV.grown ye (by simp;omega);have d0:=ut.cell 0 rfl;have d3:=ut.cell 3 rfl;clear b0 b1 b2 b3
 by_cases zC:s+zI x≤4096
 ·have O7:decide ((s:Int)+(zI x:Int)≤4096)=true:=by simp;omega
  go_wp2_with fail
  have E2:Hid (chk x lv i s=match sq x.items (lv+1) (i+1) (s+zI x) with | none=>none | some p=>if x.kind=5∧xY x.items=false then none else some p):=by
   rw[Hid,E.out,if_neg (by omega)]
  have Lr:=Hh (zD xR ye (.inl rfl));have Sv:w.heap.size<w3.heap.size:=ut.lt;have MH:Holds w3 H:=(oR.below zG (Nat.le_refl _)).grown ye (fun g' h=>by injection h with h;subst h;exact hg);clear tE yO sC oR sN yV xR c0 f0 c00 E O7 zG ye;go_loopw [103] (fun vi wr=>∃ (k:Nat) (p:Nat×Nat),k≤x.items.length∧vi=.int .i64 k∧Hid (sq (x.items.drop k) (lv+1) p.1 p.2=sq x.items (lv+1) (i+1) (s+zI x))∧p.1≤256∧p.2≤4096∧Chk wr g p.1 p.2∧w3.grownBy wr (some g)) (fun vi _=>x.items.length-(intOf vi).toNat)
  case atStart=>exact⟨0,(i+1,s+zI x),Nat.zero_le _,rfl,by simp[Hid],by omega,zC,by simpa using jX,yz _ _⟩
  case round =>
  obtain⟨k,p,hk,rfl,qQ,Yi,Sq,QB,uw⟩:=hrel;have yD:Holds wr H:=MH.grown uw (fun g' h=>by injection h with h;subst h;exact hg)
  by_cases zB:k<x.items.length
  ·obtain⟨ib,io,tf,xI⟩:=HX.out.items (by omega);obtain⟨eba,ebc,eia,eic,q0,q1,q2,q3,vW⟩:=xI.get k zB;subst tf;have xo:(x.items.length:Int)≤256:=by omega
   have p0:=yD.cell q0;have p1:=yD.cell q1;have p2:=yD.cell q2;have p3:=yD.cell q3;have fP:x.items.drop k=x.items[k]::x.items.drop (k+1):=List.drop_eq_getElem_cons zB
   have IHH:=Hh (ih x.items[k] (vx x k zB) H _ _ eba _ ebc eia _ eic (wr.alloc (.cells #[.int .i64 x.items[k].kind,.int .u64 x.items[k].n,.slice eba x.items[k].bytes.length ebc,.slice eia x.items[k].items.length eic] 26)) g p.1 p.2 (lv+1)
    hT vW.arg (yD.alloc _) hg (QB.alloc _) Yi Sq (by omega))
   have HD:=Hh fP;have OG:((lv+1:Nat):Int)=(lv:Int)+1:=by omega
   rw[OG]at IHH;clear fP q0 q1 q2 q3 xI d0 d3 OG;go_wp2_with fail
   refine IHH.out.mono ?_
   rintro e w4 ⟨rfl,yJ,i4,s4,rJ,Yb⟩
   have wn:=zD (yL uw (.cells #[.int .i64 x.items[k].kind,.int .u64 x.items[k].n,.slice eba x.items[k].bytes.length ebc,.slice eia x.items[k].items.length eic] 26)) yJ (.inl rfl)
   cases hq:chk x.items[k] (lv+1) p.1 p.2 with
   | none =>
    have e0:Hid (chk x lv i s=none):=by
     rw[Hid,E2.out,← qQ.out,HD.out,sq,hq]
    have R:=Hh (And.intro (zD Lr.out wn (.inl rfl)) rJ);clear hq Yb p0 p1 p2 p3 IHH QB uw yJ wn rJ;go_wp2_with fail
    go_ret
    exact⟨by rw[e0.out];rfl,R.out.1,_,_,R.out.2,by rw[e0.out];intro p hp;cases hp⟩
   | some p' =>
   obtain⟨rfl,rfl⟩:=Yb p' hq;obtain⟨_,_,QW,Vr⟩:=ko _ _ _ _ _ hq
   have hn:Hid (sq (x.items.drop (k+1)) (lv+1) p'.1 p'.2=sq x.items (lv+1) (i+1) (s+zI x)):=by
    rw[Hid,← qQ.out,HD.out,sq,hq]
   clear hq Yb p0 p1 p2 p3 IHH QB uw yJ HD qQ;go_wp2_with fail
   go_roundw
   case rel=>exact⟨k+1,p',by omega,by go_num,hn,QW,Vr,rJ,wn⟩
   case measure=>simp[intOf];omega
  have rO:k=x.items.length:=by omega
  subst rO
  have ry:Hid (sq x.items (lv+1) (i+1) (s+zI x)=some p):=by
   rw[Hid,← qQ.out,List.drop_length,sq]
  have oe:=ut.grown uw (by simp;omega);have d0:=oe.cell 0 rfl;have d3:=oe.cell 3 rfl;have Kk:=Hh (zD Lr.out uw (.inl rfl));clear qQ
  rcases TT.out with ⟨t1,t2,t3,t4,t5,t6,t7⟩ | ⟨t1,t2,t3,t4,t5,t6,t7⟩ | ⟨t1,t2,t3,t4,t5,t6,t7⟩
  ·clear t1 t2 t4 t5 t6;go_wp2_with fail
   go_ret
   have e0:chk x lv i s=some p:=by
    rw[E2.out,ry.out]
    simp only[if_neg (fun h:x.kind=5∧_=>t7.out h.1)]
   exact⟨by rw[e0];rfl,Kk.out,_,_,QB,by rw[e0];intro p' tx;injection tx with tx;subst tx;exact⟨rfl,rfl⟩⟩
  ·clear t1 t2 t3 t4 t6;obtain⟨hK,PN,_,Vr⟩:=nA _ _ _ _ _ ry.out h1 zC;have dn:(zM x.items).length≤4096:=by rw[PN]at Vr;simp only at Vr;omega
   have xo:∀ k (h:k<x.items.length),(zh x.items[k]).length≤1099511627776:=by
    intro k hk
    have a1:=vI x.items k hk;have a2:=qi x.items (k+1);rw[a1]at a2
    simp only[List.length_append]at a2
    omega
   have F9:∃ b off,0<x.items.length→ia=some ⟨b,off,none⟩∧IsElems H b off x.items:=by
    by_cases h0:0<x.items.length
    ·obtain⟨ib,io,tf,xI⟩:=HX.out.items h0
     exact⟨ib,io,fun _=>⟨tf,xI⟩⟩
    exact⟨0,0,fun h=>absurd h h0⟩
   obtain⟨ib,io,hA⟩:=F9;have ASC:=Hh (jp x.items ib io ia ic wr hA yD hK xo x.items.length rfl (by omega));clear hA xo dn PN Vr hK;go_wp2_with fail
   refine ASC.out.mono ?_
   rintro e w5 ⟨rfl,yN⟩
   have R:=Hh (And.intro (vo Kk.out yN) (QB.below yN))
   cases qC:xY x.items with
   | true =>
    have e0:Hid (chk x lv i s=some p):=by
     rw[Hid,E2.out,ry.out]
     simp only[qC,Bool.true_eq_false,and_false,if_false]
    clear ASC qC;go_wp2_with fail
    go_ret
    exact⟨by rw[e0.out];rfl,R.out.1,_,_,R.out.2,by rw[e0.out];intro p' tx;injection tx with tx;subst tx;exact⟨rfl,rfl⟩⟩
   | false =>
   have e0:Hid (chk x lv i s=none):=by
    rw[Hid,E2.out,ry.out]
    simp only[qC,t7.out,and_self,if_true]
   clear ASC qC;go_wp2_with fail
   go_ret
   exact⟨by rw[e0.out];rfl,R.out.1,_,_,R.out.2,by rw[e0.out];intro p' tx;cases tx⟩
  clear t1 t2 t3 t4;go_wp2_with fail
  go_ret
  have e0:chk x lv i s=some p:=by
   rw[E2.out,ry.out]
   simp only[if_neg (fun h:x.kind=5∧_=>t7.out h.1)]
  exact⟨by rw[e0];rfl,Kk.out,_,_,QB,by rw[e0];intro p' tx;injection tx with tx;subst tx;exact⟨rfl,rfl⟩⟩
 have O7:decide ((s:Int)+(zI x:Int)≤4096)=false:=by simp;omega
 have R:=Hh (And.intro (zD xR ye (.inl rfl)) jX);clear tE yO sC oR sN yV xR jX ye ut d0 d3 c0 f0 c00;go_wp2_with fail
 go_ret
 have e0:chk x lv i s=none:=by rw[E.out,if_pos (by omega)]
 exact⟨by rw[e0];rfl,R.out.1,_,_,R.out.2,by rw[e0];intro p hp;cases hp⟩
theorem ItemA.eqs {H:Snap}{k n:Int}{ba:Option Addr}{bl bc:Nat}{ia:Option Addr}{il ic:Nat}{x:Itm}(h:ItemA H k n ba bl bc ia il ic x):k=x.kind∧n=(x.n:Int)∧bl=x.bytes.length∧il=x.items.length∧IsItem H ba bc ia ic x:=⟨h.1,h.2,h.3,h.4,h.5⟩
theorem ZB (x:Itm):kZ x:=by
 have main:∀ N,∀ x:Itm,cnt x≤N→kZ x:=by
  intro N
  induction N with
  | zero =>
   intro x hx
   have:0<cnt x:=by cases x;rw[cnt];omega
   omega
  | succ N ih =>
  intro x hx H k n ba bl bc ia il ic w g i s lv hT ha hH hg hc hi hs hlv
  obtain⟨rfl,rfl,rfl,rfl,qf⟩:=ha.eqs
  by_cases h0:256<i+1∨4096<x.bytes.length∨256<x.items.length
  ·exact ZN x i s lv h0 qf w g hc hi
  by_cases hp:yh x=true
  ·exact cE x i s lv (by omega) (by omega) (by omega) hp hT qf w hH g hg hc hs
  have tx:yh x=false:=by simpa using hp
  by_cases hf:vk x lv=true
  ·exact ZO x (fun y hy=>ih y (by omega)) i s lv (by omega) (by omega) (by omega) tx hf hT qf w hH g hg hc hs
  exact cD x i s lv (by omega) (by omega) (by omega) tx (by simpa using hf) hT qf w hH g hg hc hs hlv
 exact main _ x (Nat.le_refl _)
theorem ti {H:Snap}(hT:Tabs H) {k n:Int}{ba:Option Addr}{bl bc:Nat}{ia:Option Addr}{il ic:Nat}{x:Itm}(hx:ItemA H k n ba bl bc ia il ic x) (w:World) (hH:Holds w H) :
  Calls Tryz.prog 65 #[.agg #[.int .i64 k,.int .u64 n,.slice ba bl bc,.slice ia il ic]] w fun e w'=>e=.returned (.bool (zX x))∧Below w.heap.size w w':=by
 have W1:=fun w1:World=>fun h1:Holds w1 H=>fun hg=>fun hc=>(ZB x) H k n ba bl bc ia il ic w1 (w.heap.size+1) 0 0 0 hT hx h1 hg hc (by omega) (by omega) (by omega)
 have oO:=(hH.alloc (.cells #[.int .i64 k,.int .u64 n,.slice ba bl bc,.slice ia il ic] 26))
 have qJ:H (w.heap.size+1)=none:=hH.none_of_ge (by omega);have hC:=Blk.new (w.alloc (.cells #[.int .i64 k,.int .u64 n,.slice ba bl bc,.slice ia il ic] 26)) 144 #[.int .i64 0,.int .i64 0];rw[show(w.alloc (.cells #[.int .i64 k,.int .u64 n,.slice ba bl bc,.slice ia il ic] 26)).heap.size=w.heap.size+1 by simp]at hC;have I:=Hh (W1 _ (oO.alloc (.cells #[.int .i64 0,.int .i64 0] 144)) qJ hC);have B2:=Hh ((zq w (.cells #[.int .i64 k,.int .u64 n,.slice ba bl bc,.slice ia il ic] 26)).alloc (by simp) (.cells #[.int .i64 0,.int .i64 0] 144));clear W1 oO qJ hC hx;go_enter Tryz.func65,Tryz.ntmps65
 go_wp2_with fail
 refine I.out.mono ?_
 rintro e w2 ⟨rfl,hG,_⟩
 go_wp2_with fail
 go_ret
 exact⟨rfl,sP B2.out hG (by simp)⟩
def Tp (w:World) (x:Itm) (e:Ending) (w':World):Prop :=
 (zX x=false∧e=.returned (.tuple #[.slice none 0 0,.int .i64 1])∧Below w.heap.size w w')∨
 (zX x=true∧∃ r,e=.returned (.tuple #[r,.int .i64 0])∧Fresh w (zh x) r w')
theorem pd {H:Snap}(hT:Tabs H) {k n:Int}{ba:Option Addr}{bl bc:Nat}{ia:Option Addr}{il ic:Nat}{x:Itm}(hx:ItemA H k n ba bl bc ia il ic x) (w:World) (hH:Holds w H) :
  Calls Tryz.prog 52 #[.agg #[.int .i64 k,.int .u64 n,.slice ba bl bc,.slice ia il ic]] w (Tp w x):=by
 have oR:=(hH.alloc (.cells #[.int .i64 k,.int .u64 n,.slice ba bl bc,.slice ia il ic] 26))
 have zH:=zq w (.cells #[.int .i64 k,.int .u64 n,.slice ba bl bc,.slice ia il ic] 26);have yO:=Blk.new w 26 #[.int .i64 k,.int .u64 n,.slice ba bl bc,.slice ia il ic];have V:=Hh (ti hT hx _ oR);go_enter Tryz.func52,Tryz.ntmps52
 go_wp2_with fail
 refine V.out.mono ?_
 rintro e w2 ⟨rfl,zG⟩
 have yV:=yO.below zG;have b0:=yV.cell 0 rfl;have b1:=yV.cell 1 rfl;have b2:=yV.cell 2 rfl;have b3:=yV.cell 3 rfl;have oO:=oR.below zG (Nat.le_refl _);have hb:=zH.trans (zG.mono zH.size)
 cases hv:zX x with
 | false =>
  have Vu:=Hh hv;clear hv;go_wp2_with fail
  go_ret2
  exact .inl ⟨Vu.out,rfl,hb⟩
 | true =>
 obtain⟨hk,_,hl⟩:=vK hv;have A:=Hh (rU x H k n ba bl bc ia il ic w2 w2.heap.size (.slice none 0 0) [] hk hx oO (OwnB.nil _ _) (Nat.le_refl _) (by simp[Value.ownBlock]) (by simp;omega));have Vu:=Hh hv;clear hv hl;go_wp2_with fail
 refine A.out.mono ?_
 rintro e w3 ⟨r,rfl,xt,hg,_⟩
 go_wp2_with fail
 go_ret2
 refine .inr ⟨Vu.out,_,rfl, ?_, ?_⟩
 ·simpa [OwnB] using xt.more (base':=w.heap.size) hb.size
 exact hb.trans ((yo (by simpa [Value.ownBlock] using hg)).mono hb.size)
theorem Snap.with_ne (H:Snap) {g b:Nat}(o:Obj) (h:b≠g):(H.with g o) b=H b:=by simp[Snap.with,h]
theorem nk {w:World}{ops:Array Oper}{rest:List Oper}{o:Oper}{a:Act}{Q:Exit→Act→World→Prop}
  (hg:o.guard=none) (l c:Operand) (Sp:o.op=Op.makeSlice 24 l c)
  (kl kc:IntKind) (L C:Int) (n:Nat) (hl:a.eval l=.int kl L) (hc:a.eval c=.int kc C) (hL:L=(n:Int)) (hC:C=(n:Int)) (b2:n≤1099511627776) (g:Nat) (wm:w.heap.size=g)
  (hK:∀ w' cs,Blk w' g 26 cs→cs.size=n*4→Below w.heap.size w w'→wpList Tryz.prog ops Q rest (a.put o.dst (.slice (some ⟨g,0,none⟩) n n)) w') :
  wpList Tryz.prog ops Q (o::rest) a w:=by
 subst wm;obtain⟨i0,uF,mP,rM,qg⟩:=info_parts nG
 refine wpList_make_full w hg l c _ Sp w.heap.size 26 i0 _ 4 Tryz.underlying24 uF mP rM kl kc L C n hl hc hL hC (by rw[qg];omega) (by simp only[maxLen];omega) (Nat.le_refl _) fun w' h1 h2=>?_
 rcases h1.2 with ⟨hv,_⟩ | ⟨g,cap,cur,hv,_,hg,_,_,hs,_⟩
 ·cases hv
 cases hv
 exact hK w' cur hg hs (yo h2)
def qk (x:Itm):Prop:=∀ (H:Snap) (k n:Int) (ba:Option Addr) (bl bc:Nat) (ia:Option Addr) (il ic:Nat) (w:World),
 Modest x→ItemA H k n ba bl bc ia il ic x→Holds w H→
 Calls Tryz.prog 95 #[.agg #[.int .i64 k,.int .u64 n,.slice ba bl bc,.slice ia il ic]] w fun e w'=>∃ v,e=.returned v∧Gives w H x v w'
theorem eD (x:Itm) (ih:∀ y:Itm,cnt y<cnt x→qk y):qk x:=by
 intro H k n ba bl bc ia il ic w hm hx hH
 obtain⟨rfl,rfl,rfl,rfl,qf⟩:=hx.eqs;obtain⟨pJ,dq,Fy⟩:=hm.parts;have HX:=Hh qf;have ad:=Hh qf.bounds;have C:=Hh (mR ((w.alloc (.cells #[.int .i64 x.kind,.int .u64 x.n,.slice ba x.bytes.length bc,.slice ia x.items.length ic] 26)).alloc (.cells #[.int .i64 0,.int .u64 0,.slice none 0 0,.slice none 0 0] 26)) ba x.bytes x.bytes.length bc rfl pJ (((Src.of_row qf.bytes.row hH).alloc _).alloc _));have yO:=(Blk.new w 26 #[.int .i64 x.kind,.int .u64 x.n,.slice ba x.bytes.length bc,.slice ia x.items.length ic]).alloc (.cells #[.int .i64 0,.int .u64 0,.slice none 0 0,.slice none 0 0] 26);have yV:=Blk.new (w.alloc (.cells #[.int .i64 x.kind,.int .u64 x.n,.slice ba x.bytes.length bc,.slice ia x.items.length ic] 26)) 26 #[.int .i64 0,.int .u64 0,.slice none 0 0,.slice none 0 0];rw[show(w.alloc (.cells #[.int .i64 x.kind,.int .u64 x.n,.slice ba x.bytes.length bc,.slice ia x.items.length ic] 26)).heap.size=w.heap.size+1 by simp]at yV
 clear hx hm qf pJ;go_enter Tryz.func95,Tryz.ntmps95
 go_wp2_with fail
 refine C.out.mono ?_
 rintro e w1 ⟨r,rfl,hf⟩
 obtain⟨A',c',rfl,_⟩:=hf.own.form;obtain⟨H1,sC,mu,_⟩:=hf.snapB ((hH.alloc _).alloc _);have Nz:H1 w.heap.size=none:=sC.none (hH.none_of_ge (Nat.le_refl _)) (by simp;omega);have JP:H1 (w.heap.size+1)=none:=sC.none (hH.none_of_ge (by omega)) (by simp);have sC:=(((Grows.refl hH).alloc _).alloc _).trans sC;have yO:=yO.below hf.2;have yV:=yV.below hf.2;have b2:=yO.cell 2 rfl;have f2:=yO.frozen 2;have yO:=yO.set_ 2 (.slice A' x.bytes.length c');have b3:=yO.cell 3 rfl;have qe:w.heap.size+2≤w1.heap.size:=by have:=hf.2.size;simp at this;omega
 go_wp2_with (at_make;refine zO ?_)
 refine nk rfl _ _ rfl .i64 .i64 _ _ x.items.length rfl rfl rfl rfl dq w1.heap.size (by simp[World.setCell]) fun w2 cs uE hcz zG=>?_
 have Fk:H1 w1.heap.size=none:=sC.hidden (Nat.le_refl _);have xR:Grows w H w2 H1:=(sC.setOwn Nz (Nat.le_refl _) 2 (.slice A' x.bytes.length c')).below_ zG;have yV:=(yV.far (p:=⟨w.heap.size,2,none⟩) (by simp) (.slice A' x.bytes.length c')).below zG;have yO:=yO.below zG;have fl:w1.heap.size<w2.heap.size:=uE.lt;have c3:=yO.cell 3 rfl;have KE:=Hh xR;have tD:=sC.le;clear hf C b2 f2 b3 zG;go_upto_region 4 with fail
 go_loopw [17] (fun vi wr=>∃ (k:Nat) (Hr:Snap) (cr:Array Value) (pre:List Value),k≤x.items.length∧vi=.int .i64 k∧Grows w H wr Hr∧H1.le Hr∧Hr w.heap.size=none∧Hr (w.heap.size+1)=none∧Hr w1.heap.size=none∧
  Blk wr w.heap.size 26 #[.int .i64 x.kind,.int .u64 x.n,.slice A' x.bytes.length c',.slice ia x.items.length ic]∧Blk wr (w.heap.size+1) 26 #[.int .i64 0,.int .u64 0,.slice none 0 0,.slice none 0 0]∧
  Blk wr w1.heap.size 26 cr∧cr.size=x.items.length*4∧ItemsC Hr pre (x.items.take k)∧cr.toList.take (k*4)=pre) (fun vi _=>x.items.length-(intOf vi).toNat)
 case atStart=>exact⟨0,H1,cs,[],Nat.zero_le _,rfl,KE.out,Snap.le.refl _,Nz,JP,Fk,yO,yV,uE,hcz,by simp[ItemsC],by simp⟩
 case round =>
 obtain⟨k,Hr,cr,pre,hk,rfl,uw,Yg,uY,uB,Ml,tE,sN,P6,JT,nT,Md⟩:=hrel
 by_cases zB:k<x.items.length
 ·obtain⟨ib,io,tf,xI⟩:=HX.out.items (by omega);obtain⟨eba,ebc,eia,eic,q0,q1,q2,q3,vW⟩:=xI.get k zB;subst tf;have TR:=uw.holds.mono uw.le;have p0:=TR.cell q0;have p1:=TR.cell q1;have p2:=TR.cell q2;have p3:=TR.cell q3;have IH:=Hh (ih x.items[k] (vx x k zB) Hr _ _ eba _ ebc eia _ eic (wr.alloc (.cells #[.int .i64 x.items[k].kind,.int .u64 x.items[k].n,.slice eba x.items[k].bytes.length ebc,.slice eia x.items[k].items.length eic] 26)) (Fy.get k zB) (vW.mono uw.le).arg (uw.holds.alloc _));clear q0 q1 q2 q3 xI vW TR;go_wp2_with fail
  refine IH.out.mono ?_
  rintro e w3 ⟨v,rfl,rba,rbc,ria,ric,Hs,rfl,ye,PZ⟩
  have yJ:=(uw.alloc (.cells #[.int .i64 x.items[k].kind,.int .u64 x.items[k].n,.slice eba x.items[k].bytes.length ebc,.slice eia x.items[k].items.length eic] 26)).trans ye;have qI:=(tE.alloc (.cells #[.int .i64 x.items[k].kind,.int .u64 x.items[k].n,.slice eba x.items[k].bytes.length ebc,.slice eia x.items[k].items.length eic] 26)).below ye.below;have jY:=(sN.alloc (.cells #[.int .i64 x.items[k].kind,.int .u64 x.items[k].n,.slice eba x.items[k].bytes.length ebc,.slice eia x.items[k].items.length eic] 26)).below ye.below;have Gx:=(P6.alloc (.cells #[.int .i64 x.items[k].kind,.int .u64 x.items[k].n,.slice eba x.items[k].bytes.length ebc,.slice eia x.items[k].items.length eic] 26)).below ye.below;have Jf:=ye.none uY (by have:=tE.lt;simp;omega);have Jh:=ye.none uB (by have:=sN.lt;simp;omega);have OH:=ye.none Ml (by have:=P6.lt;simp;omega)
  have NG:ItemsC Hs (pre++zZ x.items[k] rba rbc ria ric) (x.items.take (k+1)):=by
   rw[List.take_succ_eq_append_getElem zB]
   exact(nT.mono ye.le).app (ItemsC.one PZ)
  have Jb:=Yg.trans ye.le;have KC:=Hh Md;clear p0 p1 p2 p3 IH tE sN P6 nT uw ye Md;go_wp2_with (with_reducible refine zx ?_)
  refine vw rfl _ _ _ rfl rfl w1.heap.size (k*4) _ rfl rfl _ _ Gx zp (by show k*4+4≤cr.size;omega) (uf _ _ _ _ rfl rfl rfl rfl) fun w4 hDg4 og=>?_
  have wn:=yJ.grownOwn OH (by omega) og;have qI:=qI.grown og (by simp;omega);have jY:=jY.grown og (by simp;omega);have mA:(qP cr (k*4) (zZ x.items[k] rba rbc ria ric)).size=x.items.length*4:=by rw[nI];exact JT
  have Mp:(qP cr (k*4) (zZ x.items[k] rba rbc ria ric)).toList.take ((k+1)*4)=pre++zZ x.items[k] rba rbc ria ric:=by
   rw[show(k+1)*4=k*4+(zZ x.items[k] rba rbc ria ric).length by simp[zZ];omega,Za _ _ _ (by simp[zZ];omega),KC.out]
  have de:=Hh Mp;clear Mp yJ Gx;go_wp2_with fail
  go_roundw
  case rel=>exact⟨k+1,Hs,_,_,by omega,by go_num,wn,Jb,Jf,Jh,OH,qI,jY,hDg4,mA,NG,de.out⟩
  case measure=>simp[intOf];omega
 have rO:k=x.items.length:=by omega
 subst rO;rw[List.take_length]at nT;have KC:=Hh Md;clear Md;have hF:=uw.withOwn Ml (by omega) P6;have hK:=Yg.trans (Snap.le_with Ml (o:=.cells cr 26 (0,0)));have OK:(Hr.with w1.heap.size (.cells cr 26 (0,0))) (w.heap.size+1)=none:=by rw[Snap.with_ne _ _ (by omega)];exact uB
 have VD:(Hr.with w1.heap.size (.cells cr 26 (0,0))) w.heap.size=none:=by rw[Snap.with_ne _ _ (by omega)];exact uY
 have Qo:IsElems (Hr.with w1.heap.size (.cells cr 26 (0,0))) w1.heap.size 0 x.items :=
  (nT.mono (Snap.le_with Ml)).elems (Blk.cellsAt _ rfl pre (by rw[nT.len];exact KC.out))
 have O0:=mu.mono hK;have mA:w.heap.size<wr.heap.size:=tE.lt;clear P6;go_wp2_with (with_reducible refine zx ?_)
 refine zT rfl _ _ _ rfl rfl w.heap.size 3 _ rfl rfl _ _ tE sU (by simp) rfl fun w4 dh og=>?_
 have MB:=sN.grown og (by simp);have MG:=hF.grownOwn VD (Nat.le_refl _) og;clear tE sN
 by_cases h0:x.items.length=0
 ·have lO:IsItem (Hr.with w1.heap.size (.cells cr 26 (0,0))) A' c' none 0 x:=by
   obtain⟨z1,z2,z3,_⟩:=ad.out
   cases x
   rw[IsItem]
   exact⟨⟨z1,z2,z3,Nat.le_of_eq h0,by omega⟩,O0,fun h=>absurd h (by simp[Itm.items]at h0;simp[h0])⟩
  have HI:=Hh lO;have F0:(x.items.length:Int)=0:=by omega
  have EM:=Hh h0;clear h0 lO;go_wp2_with (with_reducible refine zx ?_)
  refine zT rfl _ _ _ rfl rfl w.heap.size 3 _ rfl rfl _ _ dh sU (by simp) rfl fun w5 YR yF=>?_
  have FI:=MB.grown yF (by simp);have MG:=MG.grownOwn VD (Nat.le_refl _) yF;have i0:=YR.cell 0 rfl;have i1:=YR.cell 1 rfl;have i2:=YR.cell 2 rfl;have i3:=YR.cell 3 rfl;go_wp2_with (with_reducible refine zx ?_)
  refine stI FI fun w6 lZ xO=>?_
  go_wp2_with fail
  refine zR rfl rfl lZ rfl rfl zp rfl ?_
  exact⟨_,rfl,A',c',none,0,_,by simp[xq,EM.out],MG.grownOwn OK (by omega) xO,HI.out⟩
 have lO:IsItem (Hr.with w1.heap.size (.cells cr 26 (0,0))) A' c' (some ⟨w1.heap.size,0,none⟩) x.items.length x:=by
  obtain⟨z1,z2,z3,z4,z5,z6,z7⟩:=ad.out
  cases x
  rw[IsItem]
  exact⟨⟨z1,z2,z3,Nat.le_refl _,by simp only[Itm.items]at z6⊢;omega⟩,O0,fun h=>⟨_,_,rfl,Qo⟩⟩
 have HI:=Hh lO;have F0:((x.items.length:Int)==0)=false:=by rw[beq_eq_false_iff_ne];omega
 clear h0 lO;have i0:=dh.cell 0 rfl;have i1:=dh.cell 1 rfl;have i2:=dh.cell 2 rfl;have i3:=dh.cell 3 rfl;go_wp2_with (with_reducible refine zx ?_)
 refine stI MB fun w6 lZ xO=>?_
 go_wp2_with fail
 refine zR rfl rfl lZ rfl rfl zp rfl ?_
 exact⟨_,rfl,A',c',_,_,_,rfl,MG.grownOwn OK (by omega) xO,HI.out⟩
theorem pe (x:Itm):qk x:=by
 have main:∀ N,∀ x:Itm,cnt x≤N→qk x:=by
  intro N
  induction N with
  | zero =>
   intro x hx
   have:0<cnt x:=by cases x;rw[cnt];omega
   omega
  | succ N ih=>exact fun x hx=>eD x fun y hy=>ih y (by omega)
 exact main _ x (Nat.le_refl _)
theorem bY {H:Snap}(l:List Itm) (A:Option Addr) (n c:Nat) (w:World) (cs:List Value) (hs:Src w A cs) (uE:ItemsC H cs l) (hn:n=l.length) (hl:l.length≤1099511627776) (hm:ModestL l) (hH:Holds w H) :
  Calls Tryz.prog 53 #[.slice A n c] w fun e w'=>∃ v,e=.returned v∧Gives w H (.mk 4 0 [] l) v w':=by
 have HN:=Hh hn;have yO:=(Blk.new w 26 #[.int .i64 0,.int .u64 0,.slice none 0 0,.slice none 0 0]).alloc (.cells #[.int .i64 4,.int .u64 0,.slice none 0 0,.slice none 0 0] 26);have yV:=Blk.new (w.alloc (.cells #[.int .i64 0,.int .u64 0,.slice none 0 0,.slice none 0 0] 26)) 26 #[.int .i64 4,.int .u64 0,.slice none 0 0,.slice none 0 0];rw[show(w.alloc (.cells #[.int .i64 0,.int .u64 0,.slice none 0 0,.slice none 0 0] 26)).heap.size=w.heap.size+1 by simp]at yV;have HG:=Hh (((Grows.refl hH).alloc (.cells #[.int .i64 0,.int .u64 0,.slice none 0 0,.slice none 0 0] 26)).alloc (.cells #[.int .i64 4,.int .u64 0,.slice none 0 0,.slice none 0 0] 26));clear hn;go_enter Tryz.func53,Tryz.ntmps53
 go_upto_region 3 with fail
 go_loopw [9] (fun vi wr=>∃ (k:Nat) (Hr:Snap) (VA:Option Addr) (vc:Nat),k≤l.length∧vi=.int .i64 k∧Grows w H wr Hr∧Hr w.heap.size=none∧Hr (w.heap.size+1)=none∧
  Blk wr w.heap.size 26 #[.int .i64 0,.int .u64 0,.slice none 0 0,.slice none 0 0]∧Blk wr (w.heap.size+1) 26 #[.int .i64 4,.int .u64 0,.slice none 0 0,.slice VA k vc]∧
  OwnI wr (w.heap.size+2) (.slice VA k vc) Hr (l.take k)∧(∀ g,(Value.slice VA k vc).ownBlock=some g→Hr g=none)) (fun vi _=>l.length-(intOf vi).toNat)
 case atStart=>exact⟨0,H,none,0,Nat.zero_le _,rfl,HG.out,hH.none_of_ge (Nat.le_refl _),hH.none_of_ge (by omega),yO,yV,by simpa using OwnI.nil _ _ H,by simp[Value.ownBlock]⟩
 case round =>
 obtain⟨k,Hr,VA,vc,hk,rfl,uw,uY,uB,sN,tE,Yn,Tf⟩:=hrel;have hn:=HN.out
 by_cases zB:k<l.length
 ·obtain⟨eba,ebc,eia,eic,x0,x1,x2,x3,vW⟩:=uE.get k zB;obtain⟨sb,so,rfl,ri⟩:=(hs.below uw.below) (by intro h;subst h;simp at x0)
  have p0:=ri _ _ x0;have p1:=ri _ _ x1;have p2:=ri _ _ x2;have p3:=ri _ _ x3
  simp only[← Nat.add_assoc]at p0 p1 p2 p3
  have Jc:k<n:=by omega
  have IH:=Hh (pe l[k] Hr _ _ eba _ ebc eia _ eic (wr.alloc (.cells #[.int .i64 l[k].kind,.int .u64 l[k].n,.slice eba l[k].bytes.length ebc,.slice eia l[k].items.length eic] 26)).drew (hm.get k zB) (vW.mono uw.le).arg (uw.holds.alloc _).drew);have Kd:=Blk.new wr 26 #[.int .i64 l[k].kind,.int .u64 l[k].n,.slice eba l[k].bytes.length ebc,.slice eia l[k].items.length eic];have Nl:=(tE.alloc (.cells #[.int .i64 l[k].kind,.int .u64 l[k].n,.slice eba l[k].bytes.length ebc,.slice eia l[k].items.length eic] 26)).drew;have Y8:=Kd.drew;have Sv:w.heap.size+2≤wr.heap.size:=by have:=tE.lt;omega
  clear x0 x1 x2 x3 ri hn;go_upto_region 5 with fail
  refine zw 7 (fun w'=>w'.cell? ⟨w.heap.size+1,3,none⟩=some (.slice VA k vc)∧w'.cell? ⟨wr.heap.size,0,none⟩=some (.int .i64 l[k].kind)∧w'.cell? ⟨wr.heap.size,1,none⟩=some (.int .u64 l[k].n)∧w'.cell? ⟨wr.heap.size,2,none⟩=some (.slice eba l[k].bytes.length ebc)∧w'.cell? ⟨wr.heap.size,3,none⟩=some (.slice eia l[k].items.length eic)) (by kernel_rfl) (⟨Nl.cell 3 rfl,Y8.cell 0 rfl,Y8.cell 1 rfl,Y8.cell 2 rfl,Y8.cell 3 rfl⟩) (fun zy=>?_)
  refine Tk 0 rfl zy ?_
  refine Tk 1 rfl zy ?_
  refine Tk 2 rfl zy ?_
  refine To 3 rfl fun K hK=>?_
  go_simp
  refine IH.out.mono ?_
  rintro e w3 ⟨v,rfl,rba,rbc,ria,ric,Hs,rfl,ye,PZ⟩
  have qI:=(tE.alloc (.cells #[.int .i64 l[k].kind,.int .u64 l[k].n,.slice eba l[k].bytes.length ebc,.slice eia l[k].items.length eic] 26)).drew.below ye.below;have QC:=Kd.drew.below ye.below;have Gy:=((Yn.alloc (.cells #[.int .i64 l[k].kind,.int .u64 l[k].n,.slice eba l[k].bytes.length ebc,.slice eia l[k].items.length eic] 26)).below ((Below.refl _ _).drew.trans ye.below)).mono ye.le
  refine Ko hK ?_ fun zy=>?_
  ·exact⟨qI.cell 3 rfl,QC.cell 0 rfl,QC.cell 1 rfl,QC.cell 2 rfl,QC.cell 3 rfl⟩
  clear hK K
  refine To 4 rfl fun K hK=>?_
  go_simp
  have dh:=qI.alloc (.cells #[.int .i64 l[k].kind,.int .u64 l[k].n,.slice rba l[k].bytes.length rbc,.slice ria l[k].items.length ric] 26);have QE:=QC.alloc (.cells #[.int .i64 l[k].kind,.int .u64 l[k].n,.slice rba l[k].bytes.length rbc,.slice ria l[k].items.length ric] 26);have Ha:=Gy.alloc (.cells #[.int .i64 l[k].kind,.int .u64 l[k].n,.slice rba l[k].bytes.length rbc,.slice ria l[k].items.length ric] 26)
  refine Ko hK ?_ fun zy=>?_
  ·exact⟨dh.cell 3 rfl,QE.cell 0 rfl,QE.cell 1 rfl,QE.cell 2 rfl,QE.cell 3 rfl⟩
  clear hK K
  refine To 5 rfl fun K hK=>?_
  rw[if_pos (by rfl)]
  refine ws (.tmp 14) (.tmp 17) rfl (w.heap.size+2) (.slice VA k vc) Hs (l.take k) rfl Ha _ _ _ (zZ l[k] rba rbc ria ric) [l[k]] rfl rfl (ItemsC.one PZ) (Src.new _ _ _ _ rfl _ rfl) (by simp;omega) (by have:=ye.below.size;simp at this⊢;omega) fun v' w5 qV yF ve=>?_
  obtain⟨VA',vc',rfl,EK,OT⟩:=qV.form;have YR:=dh.grown yF (fun h=>by have:=(Yn.lt _ h).1;omega);have P9:=QE.grown yF (fun h=>by have:=(Yn.lt _ h).2;omega)
  refine Ko hK ?_ fun zy=>?_
  ·exact⟨YR.cell 3 rfl,P9.cell 0 rfl,P9.cell 1 rfl,P9.cell 2 rfl,P9.cell 3 rfl⟩
  clear hK K
  refine Tk 6 rfl zy ?_
  refine To 7 rfl fun K hK=>?_
  rw[if_pos (by rfl)]
  refine yW _ _ _ rfl (w.heap.size+1) 3 _ rfl rfl _ _ YR sU (by simp) rfl fun w6 hJ1 xO=>?_
  refine Kz hK ?_
  clear hK K
  refine Wd ?_
  have yJ:=(((uw.alloc (.cells #[.int .i64 l[k].kind,.int .u64 l[k].n,.slice eba l[k].bytes.length ebc,.slice eia l[k].items.length eic] 26)).drew).trans ye).alloc (.cells #[.int .i64 l[k].kind,.int .u64 l[k].n,.slice rba l[k].bytes.length rbc,.slice ria l[k].items.length ric] 26);have pJ:=ye.none uY (by simp;omega);have dq:=ye.none uB (by simp;omega);have QS:∀ g,(Value.slice VA k vc).ownBlock=some g→Hs g=none:=fun g hg=>ye.none (Tf g hg) (by have:=(Yn.lt g hg).2;simp;omega)
  have wn:=yJ.grownRow QS (fun g hg=>by have:=(Yn.lt g hg).1;omega) yF;have xH:=wn.grownOwn dq (by omega) xO;have lZ:=(((sN.alloc (.cells #[.int .i64 l[k].kind,.int .u64 l[k].n,.slice eba l[k].bytes.length ebc,.slice eia l[k].items.length eic] 26)).drew.below ye.below).alloc (.cells #[.int .i64 l[k].kind,.int .u64 l[k].n,.slice rba l[k].bytes.length rbc,.slice ria l[k].items.length ric] 26)).grown yF (fun h=>by have:=(Yn.lt _ h).1;omega);have lZ:=lZ.grown xO (by simp)
  have Rp:∀ g,(Value.slice VA' (l.take k++[l[k]]).length vc').ownBlock=some g→Hs g=none:=fun g hg=>by
   rcases ve with h | ⟨g',h1,h2⟩
   ·exact QS g (by rw[← h,hg])
   rw[hg]at h1;injection h1 with h1
   subst h1
   exact yJ.hidden h2
  have dX:=qV.kept xO (.inr fun h=>by have:=(qV.lt _ h).1;omega);rw[← List.take_succ_eq_append_getElem zB]at dX Rp hJ1;rw[List.length_take,Nat.min_eq_left (by omega)]at dX Rp hJ1;clear zy IH p0 p1 p2 p3 Kd Nl Y8 tE sN Yn qI QC Gy dh QE Ha qV yF ve YR P9 yJ wn xO;go_wp2_with fail
  go_roundw
  case rel=>exact⟨k+1,Hs,VA',vc',by omega,by go_num,xH,pJ,dq,lZ,hJ1,dX,Rp⟩
  case measure=>simp[intOf];omega
 have rO:k=l.length:=by omega
 subst rO;rw[List.take_length]at Yn;have c0:=tE.cell 0 rfl;have c1:=tE.cell 1 rfl;have c2:=tE.cell 2 rfl;have c3:=tE.cell 3 rfl;obtain⟨H',Yt,IK,Sk,_,tD,sv,xI⟩:=Yn.snap uw.holds (fun g hg=>Tf g (by cases VA <;> simp_all [Value.ownBlock]))
 have Vc:Grows w H wr H':=⟨uw.below,uw.le.trans Yt,IK,fun b o hb=>by
  rcases Sk b o hb with h | h
  ·exact uw.fresh b o h
  exact .inr (by have:=(Yn.lt b (by cases VA <;> simp_all [Value.ownBlock])).1;omega)⟩
 have VD:H' w.heap.size=none:=by
  cases hx:H' w.heap.size with
  | none=>rfl
  | some o =>
  rcases Sk _ _ hx with h | h
  ·rw[uY]at h;cases h
  have:=(Yn.lt w.heap.size (by cases VA <;> simp_all [Value.ownBlock])).1;omega
 have lO:IsItem H' none 0 VA vc (.mk 4 0 [] l):=by
  rw[IsItem]
  exact⟨⟨by omega,by omega,by omega,tD,sv⟩,IsBytes.nil _,xI⟩
 clear Yt IK Sk tD sv xI Yn uw;go_wp2_with (with_reducible refine zx ?_)
 refine stI sN fun w6 lZ xO=>?_
 go_wp2_with fail
 refine zR rfl rfl lZ rfl rfl zp rfl ?_
 exact⟨_,rfl,none,0,VA,vc,H',rfl,Vc.grownOwn VD (Nat.le_refl _) xO,lO⟩
end Go.Proofs.YtliomcphdnppnaaGreatDoor
