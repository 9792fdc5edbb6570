/- squeezed. Walks: cbor.checker.spend. Walks:  -/
import Derived.Test.YtliomcphdnppnaaGreatDoorK06
import Derived.Deep.DeepCutAuto
set_option linter.unusedVariables false
set_option linter.unusedSimpArgs false
set_option maxRecDepth 100000
set_option maxHeartbeats 3200000
namespace Go.Proofs.YtliomcphdnppnaaGreatDoor
open Go.RowKit
theorem ja7{P:Prop}(h:P:=by have:=Blk.new (w.setCell ⟨g,0,none⟩ (.int .i64 ((i:Int)+1))) 26 #[.int .i64 x.kind,.int .u64 x.n,.slice ba x.bytes.length bc,.slice ia x.items.length ic];rwa [show(w.setCell ⟨g,0,none⟩ (.int .i64 ((i:Int)+1))).heap.size=w.heap.size by simp[World.setCell]]at this):P:=h
theorem jbH{P:Prop}(h:P:=by
 go_wp2_with fail
 go_ret
 have e0:chk x lv i s=some p:=by
  rw[E2.out,pE.out]
  simp only[if_neg (fun h:x.kind=5∧_=>t7.out h.1)]
 exact⟨by rw[e0];rfl,hGG.out,_,_,Ew,by rw[e0];intro p' rI;injection rI with rI;subst rI;exact⟨rfl,rfl⟩⟩):P:=h
theorem jcT{P:Prop}(h:P:=by exact⟨pf.cell p0,pf.cell p1,pf.cell p2,pf.cell p3,pf.cell q0,pf.cell q1,pf.cell q2,pf.cell q3⟩):P:=h
theorem jdp{P:Prop}(h:P:=by
 rw[IsItem]
 exact⟨⟨by omega,by omega,by omega,t8,tA⟩,IsBytes.nil _,wY⟩):P:=h
theorem jds{P:Prop}(h:P:=by exact⟨by rw[e0];rfl,R.out.1,_,_,R.out.2,by rw[e0];intro p hp;cases hp⟩):P:=h
theorem jfq{P:Prop}(h:P:=by have rS:w.grownBy (nH w g ((i:Int)+1) x ba bc ia ic) (some g):=xZ (uM (ym w (some g)) (.inl rfl) _) _;have pd:Holds (nH w g ((i:Int)+1) x ba bc ia ic) H:=(hH.setCell hg _).alloc _;exact And.intro rS pd):P:=h
theorem jfr{P:Prop}(h:P:=by have yu:=hc.lt;have c0:=hc.cell 0 rfl;have f0:=hc.frozen 0;have c00:=(hc.set_ 0 (.int .i64 ((i:Int)+1))).cell 0 rfl;have qj:Chk (nH w g ((i:Int)+1) x ba bc ia ic) g ((i:Int)+1) s:=(hc.set_ 0 _).alloc _;exact And.intro yu (And.intro c0 (And.intro f0 (And.intro c00 qj)))):P:=h
theorem jf0{P:Prop}(h:P:=by have b0:=yQ.cell 0 rfl;have b1:=yQ.cell 1 rfl;have b2:=yQ.cell 2 rfl;have b3:=yQ.cell 3 rfl;exact And.intro b0 (And.intro b1 (And.intro b2 b3))):P:=h
abbrev Chk (w:World) (g:Nat) (i s:Int):Prop:=Blk w g 144 #[.int .i64 i,.int .i64 s]
theorem Xo {H:Snap}{x:Itm}{ba:Option Addr}{bc:Nat}{ia:Option Addr}{ic:Nat}(hx:IsItem H ba bc ia ic x) (w:World) (g:Nat) (i s:Int) (hc:Chk w g i s) (h8:x.kind=8) (ZV:0≤s) (vV:s≤1099511627776) :
  Calls Tryz.prog 132 #[.pointer (some ⟨g,0,none⟩),xp x ba bc ia ic] w fun e w'=>e=.returned (.bool (decide (s+yp x≤4096)))∧Chk w' g i (s+yp x)∧w.grownBy w' (some g):=by
 have dE:=pA x.n;have E:Hid (yp x=(yx x.n).length):=by simp[Hid,yp,h8]
 obtain⟨_,_,hn,_⟩:=hx.bounds;have HN:U64 x.n:=⟨by omega,by omega⟩
 have yu:=hc.lt;have hB:=Blk.new w 26 #[.int .i64 8,.int .u64 x.n,.slice ba x.bytes.length bc,.slice ia x.items.length ic];have hC:=hc.alloc (.cells #[.int .i64 8,.int .u64 x.n,.slice ba x.bytes.length bc,.slice ia x.items.length ic] 26);clear hx hn;go_enter Tryz.func132,Tryz.ntmps132
 go_wp2_with fail
 refine zw 11 (fun w'=>w'.cell? ⟨g,1,none⟩=some (.int .i64 s)∧w'.cell? ⟨w.heap.size,1,none⟩=some (.int .u64 x.n)) (by kernel_rfl) (⟨hC.cell 1 rfl,hB.cell 1 rfl⟩) (fun zy=>?_)
 refine Tk 0 rfl zy ?_
 refine Tk 1 rfl zy ?_
 refine Tk 2 rfl zy ?_
 refine Tk 3 rfl zy ?_
 refine Tk 4 rfl zy ?_
 refine Tk 5 rfl zy ?_
 refine To 6 rfl fun K hK=>?_
 go_simp
 refine(dZ _ _ HN.1 HN.2).mono ?_
 rintro e w1 ⟨r,rfl,hf⟩
 obtain⟨A,c,rfl,_,_,_⟩:=hf.own.form;have qj:=hC.drew.below hf.2
 refine Ko hK ?_ fun zy=>?_
 ·exact⟨qj.cell 1 rfl,(hB.drew.below hf.2).cell 1 rfl⟩
 clear hK K
 refine Tk 7 rfl zy ?_
 refine Tk 8 rfl zy ?_
 refine Tk 9 rfl zy ?_
 refine Tk 10 rfl zy ?_
 refine To 11 rfl fun K hK=>?_
 have d1:=qj.cell 1 rfl;have d2:=qj.frozen 1;go_simp
 refine Kz hK ?_
 clear hK K
 refine Wd ?_
 all_goals
  have hw:Hid (IntKind.i64.wrap (s+((yx x.n).length:Int))=s+(yp x:Int)):=by rw[Hid,E.out];exact IntWalk.i64_in _ (by omega)
  have R:Chk (w1.setCell ⟨g,1,none⟩ (.int .i64 (s+(yp x:Int)))) g i (s+(yp x:Int))∧w.grownBy (w1.setCell ⟨g,1,none⟩ (.int .i64 (s+(yp x:Int)))) (some g) :=
   ⟨(hC.drew.below hf.2).set_ 1 _,uM (wd (vG (xZ (ym w _) _)) hf.2) (.inl rfl) _⟩
  rw[hw.out];have e1:=R.1.cell 1 rfl;clear d1 d2;go_wp2
  go_ret
  exact⟨rfl,R⟩
theorem Zl {x:Itm}{ba:Option Addr}{bc:Nat}{ia:Option Addr}{ic:Nat}(w:World) (g:Nat) (i s:Int) (hc:Chk w g i s) (h7:x.kind=7) (ZV:0≤s) (vV:s≤1099511627776) :
  Calls Tryz.prog 132 #[.pointer (some ⟨g,0,none⟩),xp x ba bc ia ic] w fun e w'=>e=.returned (.bool (decide (s+yp x≤4096)))∧Chk w' g i (s+yp x)∧w.grownBy w' (some g):=by
 have yu:=hc.lt;have c1:=hc.cell 1 rfl;have f1:=hc.frozen 1
 by_cases og:(24:Int)≤(x.n:Int)
 ·have E:Hid ((yp x:Int)=2):=by
   have:24≤x.n:=by omega
   simp[Hid,yp,h7,this]
  have d1:=(hc.set_ 1 (.int .i64 (s+1))).cell 1 rfl;have g1:=(hc.set_ 1 (.int .i64 (s+1))).frozen 1;go_enter Tryz.func132,Tryz.ntmps132
  go_wp2
  go_ret
  have e:s+1+1=s+(yp x:Int):=by rw[E.out];omega
  rw[← e]
  exact⟨rfl,((hc.set_ 1 _).set_ 1 _).alloc _,xZ (uM (uM (ym w _) (.inl rfl) _) (.inl rfl) _) _⟩
 have E:Hid ((yp x:Int)=1):=by
  have:¬ 24≤x.n:=by omega
  simp[Hid,yp,h7,this]
 have d1:=(hc.set_ 1 (.int .i64 (s+1))).cell 1 rfl;go_enter Tryz.func132,Tryz.ntmps132
 go_wp2
 go_ret
 have e:s+1=s+(yp x:Int):=by rw[E.out]
 rw[← e]
 exact⟨rfl,(hc.set_ 1 _).alloc _,xZ (uM (ym w _) (.inl rfl) _) _⟩
theorem Vh {H:Snap}{x:Itm}{ba:Option Addr}{bc:Nat}{ia:Option Addr}{ic:Nat}(hx:IsItem H ba bc ia ic x) (w:World) (g:Nat) (i s:Int) (hc:Chk w g i s) (h0:0≤x.kind) (h7:x.kind<7) (ZV:0≤s) (vV:s≤1099511627776) (om:x.bytes.length≤1099511627776) :
  Calls Tryz.prog 132 #[.pointer (some ⟨g,0,none⟩),xp x ba bc ia ic] w fun e w'=>e=.returned (.bool (decide (s+yp x≤4096)))∧Chk w' g i (s+yp x)∧w.grownBy w' (some g):=by
 have yu:=hc.lt
 have rx:(yA x:Int)<18446744073709551616:=by
  have:=hx.bounds
  unfold yA
  repeat' split
  all_goals omega
 have HN:U64 (yA x):=⟨by omega,rx⟩
 have mg:=tJ x.kind.toNat (yA x);have E:Hid (yp x=(yv x.kind.toNat (yA x)).length+x.bytes.length):=by rw[Hid,yp,if_neg (by omega),if_neg (by omega)]
 have b7:(x.kind==7)=false:=by simp;omega
 have b8:(x.kind==8)=false:=by simp;omega
 have hB:=jfa;have hC:=hc.alloc (.cells #[.int .i64 x.kind,.int .u64 x.n,.slice ba x.bytes.length bc,.slice ia x.items.length ic] 26);clear rx;go_enter Tryz.func132,Tryz.ntmps132
 go_wp2_with fail
 refine zw 17 (fun w'=>w'.cell? ⟨g,1,none⟩=some (.int .i64 s)∧w'.cell? ⟨w.heap.size,0,none⟩=some (.int .i64 x.kind)∧w'.cell? ⟨w.heap.size,1,none⟩=some (.int .u64 x.n)∧w'.cell? ⟨w.heap.size,2,none⟩=some (.slice ba x.bytes.length bc)∧w'.cell? ⟨w.heap.size,3,none⟩=some (.slice ia x.items.length ic)) (by kernel_rfl) (⟨hC.cell 1 rfl,hB.cell 0 rfl,hB.cell 1 rfl,hB.cell 2 rfl,hB.cell 3 rfl⟩) (fun zy=>?_)
 refine Tk 0 rfl zy ?_
 refine Tk 1 rfl zy ?_
 refine Tk 2 rfl zy ?_
 refine Tk 3 rfl zy ?_
 refine Tk 4 rfl zy ?_
 refine Tk 10 rfl zy ?_
 refine Tk 11 rfl zy ?_
 refine Tk 12 rfl zy ?_
 refine To 5 rfl fun K hK=>?_
 go_simp
 refine(da hx.arg _ (by omega) (by omega)).mono ?_
 rintro e w1 ⟨rfl,hm⟩
 have xX:=hB.drew.below hm;have qj:=hC.drew.below hm
 refine Ko hK ?_ fun zy=>?_
 ·exact⟨qj.cell 1 rfl,xX.cell 0 rfl,xX.cell 1 rfl,xX.cell 2 rfl,xX.cell 3 rfl⟩
 clear hK K
 refine Tk 6 rfl zy ?_
 refine Tk 7 rfl zy ?_
 refine To 8 rfl fun K hK=>?_
 go_simp
 refine(qK _ _ _ (by omega) (by omega) (by omega) HN.2).mono ?_
 rintro e w2 ⟨r,rfl,hf⟩
 obtain⟨A,c,rfl,_,_,_⟩:=hf.own.form;have yQ:=xX.below hf.2;have pZ:=qj.below hf.2
 refine Ko hK ?_ fun zy=>?_
 ·exact⟨pZ.cell 1 rfl,yQ.cell 0 rfl,yQ.cell 1 rfl,yQ.cell 2 rfl,yQ.cell 3 rfl⟩
 clear hK K
 refine Tk 9 rfl zy ?_
 refine Tk 13 rfl zy ?_
 refine Tk 14 rfl zy ?_
 refine Tk 15 rfl zy ?_
 refine Tk 16 rfl zy ?_
 refine To 17 rfl fun K hK=>?_
 have d1:=pZ.cell 1 rfl;have d2:=pZ.frozen 1;go_simp
 refine Kz hK ?_
 clear hK K
 refine Wd ?_
 have hw:Hid (IntKind.i64.wrap (s+IntKind.i64.wrap (((yv x.kind.toNat (yA x)).length:Int)+(x.bytes.length:Int)))=s+(yp x:Int)):=by
  rw[Hid,E.out,IntWalk.i64_in (((yv x.kind.toNat (yA x)).length:Int)+(x.bytes.length:Int)) (by omega),IntWalk.i64_in _ (by omega)]
  omega
 have R:Chk (w2.setCell ⟨g,1,none⟩ (.int .i64 (s+(yp x:Int)))) g i (s+(yp x:Int))∧w.grownBy (w2.setCell ⟨g,1,none⟩ (.int .i64 (s+(yp x:Int)))) (some g) :=
  ⟨pZ.set_ 1 _,uM (wd (wd (vG (xZ (ym w _) _)) hm) hf.2) (.inl rfl) _⟩
 rw[Int.toNat_natCast]at *;rw[hw.out];have e1:=R.1.cell 1 rfl;clear d1 d2;go_wp2
 go_ret
 exact⟨rfl,R⟩
theorem db {H:Snap}{k n:Int}{ba:Option Addr}{bl bc:Nat}{ia:Option Addr}{il ic:Nat}{x:Itm}(hx:ItemA H k n ba bl bc ia il ic x) (w:World) (g:Nat) (i s:Int) (hc:Chk w g i s)
  (h0:0≤x.kind) (h8:x.kind≤8) (ZV:0≤s) (vV:s≤1099511627776) (om:x.bytes.length≤1099511627776) :
  Calls Tryz.prog 132 #[.pointer (some ⟨g,0,none⟩),.agg #[.int .i64 k,.int .u64 n,.slice ba bl bc,.slice ia il ic]] w
   fun e w'=>e=.returned (.bool (decide (s+yp x≤4096)))∧Chk w' g i (s+yp x)∧w.grownBy w' (some g):=by
 obtain⟨rfl,rfl,rfl,rfl,hx⟩:=hx
 by_cases h:x.kind=8
 ·exact Xo hx w g i s hc h ZV vV
 by_cases h7:x.kind=7
 ·exact Zl w g i s hc h7 ZV vV
 exact Vh hx w g i s hc h0 (by omega) ZV vV om
theorem dT {H:Snap}(l:List Itm) (b off:Nat) (A:Option Addr) (ic:Nat) (w:World) (hA:0<l.length→A=some ⟨b,off,none⟩∧IsElems H b off l) (hH:Holds w H) (hk:KindsL l)
  (wn:∀ k (h:k<l.length),(zZ l[k]).length≤1099511627776) (n:Nat) (hn:n=l.length) (sV:n≤1099511627776) :
  Calls Tryz.prog 133 #[.slice A n ic] w fun e w'=>e=.returned (.bool (xB l))∧Below w.heap.size w w':=by
 obtain⟨ans,Gq⟩:∃ b,xB l=b:=⟨_,rfl⟩
 rw[Gq];have zBe:=Hh Gq;have HNn:=Hh hn;have Bm:=Hh wn;have Ss:=Hh hA;clear Gq hn wn hA;go_enter Tryz.func133,Tryz.ntmps133
 go_wp2
 go_loopw [3] (fun i wr=>∃ j:Nat,2≤j∧i=.int .i64 j∧j≤n+2∧xB (l.drop (j-2))=ans∧Below w.heap.size w wr) (fun i _=>(n+2-intOf i).toNat)
 case atStart=>exact⟨2,Nat.le_refl _,rfl,by omega,by simpa using zBe.out,Below.refl _ _⟩
 case round =>
 obtain⟨j,h2,rfl,hj,qg,hb⟩:=hrel
 by_cases yu:j<n
 ·have hn:=HNn.out;obtain⟨hA,wY⟩:=Ss.out (by omega);have rQ:=i6 l j h2 (by omega);obtain⟨y1,y2,y3,y4,p0,p1,p2,p3,hy⟩:=wY.get (j-2) (by omega);obtain⟨z1,z2,z3,z4,q0,q1,q2,q3,hz⟩:=wY.get j (by omega);have UE:=hk.get (j-2) (by omega);have hkz:=hk.get j (by omega);have dP:=Bm.out (j-2) (by omega);have hlz:=Bm.out j (by omega)
  generalize l[j-2]'(by omega)=y at *
  generalize l[j]'(by omega)=z at *
  have tV:(0:Int)≤(j:Int)-2:=by omega
  have oF:(j:Int)-2<(n:Int):=by omega
  have nO:(2:Int)≤(j:Int):=by omega
  have pi:(j:Int)<(n:Int):=by omega
  subst hA;have Sw:=Hh rQ;have aH:=Hh qg;have HSZ:Hid (w.heap.size≤wr.heap.size):=hb.size;have xN:Holds wr H:=hH.below hb (Nat.le_refl _);have Q3:Holds wr.drew H:=xN.drew;have sW:IntKind.i64.wrap ((j:Int)-2)=(j:Int)-2:=IntWalk.i64_in _ (by omega);have pj:((j:Int)-2).toNat=j-2:=by omega
  clear rQ qg hn wY;go_wp2_with fail
  refine zw 12 (fun w'=>w'.cell? ⟨b,off+(j-2)*4,none⟩=some (.int .i64 y.kind)∧w'.cell? ⟨b,off+(j-2)*4+1,none⟩=some (.int .u64 y.n)∧w'.cell? ⟨b,off+(j-2)*4+2,none⟩=some (.slice y1 y.bytes.length y2)∧w'.cell? ⟨b,off+(j-2)*4+3,none⟩=some (.slice y3 y.items.length y4)∧w'.cell? ⟨b,off+j*4,none⟩=some (.int .i64 z.kind)∧w'.cell? ⟨b,off+j*4+1,none⟩=some (.int .u64 z.n)∧w'.cell? ⟨b,off+j*4+2,none⟩=some (.slice z1 z.bytes.length z2)∧w'.cell? ⟨b,off+j*4+3,none⟩=some (.slice z3 z.items.length z4)) (by kernel_rfl) (⟨xN.cell p0,xN.cell p1,xN.cell p2,xN.cell p3,xN.cell q0,xN.cell q1,xN.cell q2,xN.cell q3⟩) (fun zy=>?_)
  refine Tk 0 rfl zy ?_
  refine Tk 1 rfl zy ?_
  refine Tk 2 rfl zy ?_
  refine Tk 3 rfl zy ?_
  refine Tk 4 rfl zy ?_
  refine Tk 6 rfl zy ?_
  refine Tk 7 rfl zy ?_
  refine Tk 8 rfl zy ?_
  refine Tk 9 rfl zy ?_
  refine To 5 rfl fun K hK=>?_
  go_simp
  refine(oO y H _ _ _ _ _ _ _ _ _ w.heap.size (.slice none 0 0) [] UE hy.arg Q3 (OwnB.nil _ _) HSZ.out (by simp[Value.ownBlock]) (by simpa using dP)).mono ?_
  rintro e w1 ⟨r1,rfl,QW,Id,MF⟩
  obtain⟨A1,c1,rfl,_,_,vV⟩:=QW.form;have zB:=xe Id;have pd:Holds w1 H:=Q3.below zB (Nat.le_refl _);have rE:=zB.size
  simp only[List.nil_append]at QW vV
  refine Ko hK ?_ fun zy=>?_
  ·exact⟨pd.cell p0,pd.cell p1,pd.cell p2,pd.cell p3,pd.cell q0,pd.cell q1,pd.cell q2,pd.cell q3⟩
  clear hK K
  refine To 10 rfl fun K hK=>?_
  go_simp
  refine(oO z H _ _ _ _ _ _ _ _ _ w.heap.size (.slice none 0 0) [] hkz hz.arg pd (OwnB.nil _ _) (Nat.le_trans HSZ.out rE) (by simp[Value.ownBlock]) (by simpa using hlz)).mono ?_
  rintro e w2 ⟨r2,rfl,Wn,sv,ii⟩
  obtain⟨A2,c2,rfl,_,_,dJ⟩:=Wn.form;have zG:=xe sv;have pf:Holds w2 H:=pd.below zG (Nat.le_refl _)
  simp only[List.nil_append]at Wn dJ
  refine Ko hK ?_ fun zy=>?_
  ·exact jcT
  clear hK K
  refine To 11 rfl fun K hK=>?_
  go_simp
  refine(p8 _ _ _ (zZ y) (zZ z) _ _ _ _ (by simp) (by simp) (vV.below zG) dJ).mono ?_
  rintro e w3 ⟨rfl,rfl⟩
  refine Ko hK ?_ fun zy=>?_
  ·exact jcT
  clear hK K
  refine To 12 rfl fun K hK=>?_
  go_simp
  refine Kz hK ?_
  clear hK K
  refine Wd ?_
  have nD:=hb.drew.trans ((zB.trans (zG.mono rE)).mono HSZ.out);have o8:=Hh (And.intro Sw.out aH.out);clear Sw aH p0 p1 p2 p3 q0 q1 q2 q3 zy QW Wn Id sv MF ii vV dJ
  generalize hcv:Lib.compareBytes (zZ y) (zZ z)=cv at *
  by_cases hc:(0:Int)≤cv
  ·have ha:ans=false:=by
    obtain⟨h1,h2⟩:=o8.out;rw[← h2,h1];have:¬ cv<0:=by omega
    simp[this]
   have HAF:=Hh ha;clear ha;go_wp2
   go_ret
   exact⟨(by rw[HAF.out];rfl),nD⟩
  have ha:xB (l.drop j)=ans:=by
   obtain⟨h1,h2⟩:=o8.out;rw[← h2,h1];have:cv<0:=by omega
   simp[this]
  have HAF:=Hh ha;clear ha;go_wp2
  go_roundw
  case rel=>exact⟨j+2,by omega,by go_num,by omega,HAF.out,nD⟩
  case measure=>simp[intOf];omega
 have hn:=HNn.out;have zA6:=Hh (Y0 l j h2 (by omega));have aH:=Hh qg;clear qg hn;go_wp2
 go_ret
 exact⟨(by rw[← aH.out,zA6.out];rfl),hb⟩
def es (w:World) (g:Nat) (o:Option (Nat×Nat)) (e:Ending) (w':World):Prop :=
 e=.returned (.bool o.isSome)∧w.grownBy w' (some g)∧∃ i s:Int,Chk w' g i s∧∀ p,o=some p→i=(p.1:Int)∧s=(p.2:Int)
def eM (x:Itm):Prop:=∀ (H:Snap) (k n:Int) (ba:Option Addr) (bl bc:Nat) (ia:Option Addr) (il ic:Nat) (w:World) (g i s lv:Nat),
 Tabs H→ItemA H k n ba bl bc ia il ic x→Holds w H→H g=none→Chk w g i s→i≤256→s≤4096→lv≤8→
 Calls Tryz.prog 105 #[.pointer (some ⟨g,0,none⟩),.agg #[.int .i64 k,.int .u64 n,.slice ba bl bc,.slice ia il ic],.int .i64 (lv:Int)] w (es w g (chk x lv i s))
theorem RH (x:Itm) (i s lv:Nat) (h:256<i+1∨4096<x.bytes.length∨256<x.items.length) {H:Snap}{ba:Option Addr}{bc:Nat}{ia:Option Addr}{ic:Nat}(hx:IsItem H ba bc ia ic x) (w:World) (g:Nat)
  (hc:Chk w g i s) (hi:i≤256):Calls Tryz.prog 105 #[.pointer (some ⟨g,0,none⟩),xp x ba bc ia ic,.int .i64 (lv:Int)] w (es w g (chk x lv i s)):=by
 have E:Hid (chk x lv i s=none):=by rw[Hid,iQ,if_pos h]
 obtain⟨_,_,_,zB,zG,oF,pi⟩:=hx.bounds;have hb:x.bytes.length≤9223372036854775807:=by omega
 have Wy:x.items.length≤9223372036854775807:=by omega
 have yu:=hc.lt;have c0:=hc.cell 0 rfl;have f0:=hc.frozen 0;have c00:=(hc.set_ 0 (.int .i64 ((i:Int)+1))).cell 0 rfl
 have R:=Hh (And.intro ((hc.set_ 0 (.int .i64 ((i:Int)+1))).alloc (.cells #[.int .i64 x.kind,.int .u64 x.n,.slice ba x.bytes.length bc,.slice ia x.items.length ic] 26))
  (xZ (uM (ym w (some g)) (.inl (rfl:(⟨g,0,none⟩:Addr).block=g)) (.int .i64 ((i:Int)+1))) (.cells #[.int .i64 x.kind,.int .u64 x.n,.slice ba x.bytes.length bc,.slice ia x.items.length ic] 26)))
 have HH:=Hh h;clear hx zB zG oF pi h;go_enter Tryz.func105,Tryz.ntmps105
 go_wp2_with fail
 all_goals first
  | (go_ret;exact⟨by rw[E.out];rfl,R.out.2,_,_,R.out.1,by rw[E.out];intro p hp;cases hp⟩)
  | (exfalso;have:=HH.out;omega)
abbrev nH (w:World) (g:Nat) (i:Int) (x:Itm) (ba:Option Addr) (bc:Nat) (ia:Option Addr) (ic:Nat):World :=
 (w.setCell ⟨g,0,none⟩ (.int .i64 i)).alloc (.cells #[.int .i64 x.kind,.int .u64 x.n,.slice ba x.bytes.length bc,.slice ia x.items.length ic] 26)
theorem Uy (x:Itm) (i s lv:Nat) (h1:i+1≤256) (h2:x.bytes.length≤4096) (h3:x.items.length≤256) (hp:yZ x=true) {H:Snap}(hT:Tabs H) {ba:Option Addr}{bc:Nat}{ia:Option Addr}{ic:Nat}(hx:IsItem H ba bc ia ic x)
  (w:World) (hH:Holds w H) (g:Nat) (hg:H g=none) (hc:Chk w g i s) (hs:s≤4096) :
  Calls Tryz.prog 105 #[.pointer (some ⟨g,0,none⟩),xp x ba bc ia ic,.int .i64 (lv:Int)] w (es w g (chk x lv i s)):=by
 have E:Hid (chk x lv i s=if yy x=true∧s+yp x≤4096 then some (i+1,s+yp x) else none):=by rw[Hid,iQ,if_neg (by omega),if_pos hp]
 have hk:=(z8 x).1 hp;have kC:0≤x.kind:=by omega
 have Mh:x.kind≤8:=by omega
 obtain⟨yu,c0,f0,c00,qj⟩:=jfr
 have xX:Blk (nH w g ((i:Int)+1) x ba bc ia ic) w.heap.size 26 #[.int .i64 x.kind,.int .u64 x.n,.slice ba x.bytes.length bc,.slice ia x.items.length ic]:=by
  exact ja7
 obtain⟨rS,pd⟩:=jfq;clear hk;have Is:=hx.arg;clear hx;go_enter Tryz.func105,Tryz.ntmps105
 go_wp2_with fail
 refine(kI hT Is _ pd).mono ?_
 rintro e w2 ⟨rfl,zG⟩
 have pZ:=qj.below zG;have yQ:=xX.below zG;have yE:=wd rS zG;obtain⟨b0,b1,b2,b3⟩:=jf0
 by_cases ho:yy x=true
 ·go_wp2_with fail
  refine(db Is w2 g ((i:Int)+1) s pZ kC Mh (by omega) (by omega) (by omega)).mono ?_
  rintro e w3 ⟨rfl,dL,ye⟩
  have R:=Hh (And.intro (zK yE ye (.inl rfl)) dL);clear c0 f0 c00 qj xX rS pd pZ yQ yE b0 b1 b2 b3 dL ye;go_wp2_with fail
  go_ret
  refine⟨?_,R.out.1,_,_,R.out.2, ?_⟩
  ·rw[E.out]
   by_cases yw:s+yp x≤4096
   ·rw[if_pos ⟨ho,yw⟩,show decide ((s:Int)+(yp x:Int)≤4096)=true by simp;omega];rfl
   rw[if_neg (fun h=>yw h.2),show decide ((s:Int)+(yp x:Int)≤4096)=false by simp;omega];rfl
  intro p hp
  rw[E.out]at hp
  split at hp
  ·injection hp with hp
   subst hp
   exact⟨by simp,by simp⟩
  cases hp
 have ho':yy x=false:=by simpa using ho
 clear ho;have R:=Hh (And.intro yE pZ);clear c0 f0 c00 qj xX rS pd pZ yQ yE b0 b1 b2 b3;go_wp2_with fail
 go_ret
 have e0:chk x lv i s=none:=by rw[E.out,if_neg (fun h=>by rw[ho']at h;cases h.1)]
 exact jds
theorem Ux (x:Itm) (i s lv:Nat) (h1:i+1≤256) (h2:x.bytes.length≤4096) (h3:x.items.length≤256) (hp:yZ x=false) (hf:vq x lv=false) {H:Snap}(hT:Tabs H) {ba:Option Addr}{bc:Nat}{ia:Option Addr}{ic:Nat}(hx:IsItem H ba bc ia ic x)
  (w:World) (hH:Holds w H) (g:Nat) (hg:H g=none) (hc:Chk w g i s) (hs:s≤4096) (hlv:lv≤8) :
  Calls Tryz.prog 105 #[.pointer (some ⟨g,0,none⟩),xp x ba bc ia ic,.int .i64 (lv:Int)] w (es w g (chk x lv i s)):=by
 have E:Hid (chk x lv i s=none):=by rw[Hid,iQ,if_neg (by omega),if_neg (by simp[hp]),if_pos hf]
 obtain⟨yu,c0,f0,c00,qj⟩:=jfr
 have xX:Blk (nH w g ((i:Int)+1) x ba bc ia ic) w.heap.size 26 #[.int .i64 x.kind,.int .u64 x.n,.slice ba x.bytes.length bc,.slice ia x.items.length ic]:=by
  exact ja7
 obtain⟨rS,pd⟩:=jfq;have Is:=hx.arg;have HF:=Hh hf;clear hx hf;go_enter Tryz.func105,Tryz.ntmps105
 go_wp2_with fail
 refine(kI hT Is _ pd).mono ?_
 rintro e w2 ⟨rfl,zG⟩
 have pZ:=qj.below zG;have yQ:=xX.below zG;have R:=Hh (And.intro (wd rS zG) pZ);obtain⟨b0,b1,b2,b3⟩:=jf0;clear c0 f0 c00 qj xX rS pd pZ yQ zG;go_wp2_with fail
 all_goals first
  | (go_ret;exact⟨by rw[E.out];rfl,R.out.1,_,_,R.out.2,by rw[E.out];intro p hp;cases hp⟩)
  | skip
 all_goals try simp only[beq_eq_false_iff_ne,ne_eq]at *
 all_goals exact absurd (show _∧_∧_∧_∧_∧_∧_ from⟨by omega,by omega,by omega,by omega,fun _=>by omega,fun _=>by omega,fun _=>by omega⟩) (of_decide_eq_false HF.out)
theorem RI (x:Itm) (ih:∀ y:Itm,cnt y<cnt x→eM y) (i s lv:Nat) (h1:i+1≤256) (h2:x.bytes.length≤4096) (h3:x.items.length≤256) (hp:yZ x=false) (hf:vq x lv=true) {H:Snap}(hT:Tabs H) {ba:Option Addr}{bc:Nat}{ia:Option Addr}{ic:Nat}(hx:IsItem H ba bc ia ic x)
  (w:World) (hH:Holds w H) (g:Nat) (hg:H g=none) (hc:Chk w g i s) (hs:s≤4096) :
  Calls Tryz.prog 105 #[.pointer (some ⟨g,0,none⟩),xp x ba bc ia ic,.int .i64 (lv:Int)] w (es w g (chk x lv i s)):=by
 have E:Hid (chk x lv i s=if 4096<s+yp x then none else match qE x.items (lv+1) (i+1) (s+yp x) with | none=>none | some p=>if x.kind=5∧xB x.items=false then none else some p):=by
  rw[Hid,iQ,if_neg (by omega),if_neg (by simp[hp]),if_neg (by simp[hf])];rfl
 obtain⟨TE,hk6,zBu,om,rV,yO,ir⟩:=yI hf;have zB5:(x.bytes.length:Int)≤0:=by omega
 obtain⟨yu,c0,f0,c00,qj⟩:=jfr
 have xX:Blk (nH w g ((i:Int)+1) x ba bc ia ic) w.heap.size 26 #[.int .i64 x.kind,.int .u64 x.n,.slice ba x.bytes.length bc,.slice ia x.items.length ic]:=by
  exact ja7
 obtain⟨rS,pd⟩:=jfq;have Is:=hx.arg
 have tests:((x.kind==6)=true∧(x.kind==5)=false∧(x.kind != 5)=true∧(x.kind != 6)=false∧(x.items.length:Int)≤1∧1≤(x.items.length:Int)∧Hid (¬ x.kind=5))∨
   ((x.kind==6)=false∧(x.kind != 6)=true∧(x.n:Int)≤0∧(x.kind==5)=true∧(x.kind != 5)=false∧((x.items.length:Int)%2==1)=false∧Hid (x.kind=5))∨
   ((x.kind==6)=false∧(x.kind != 6)=true∧(x.n:Int)≤0∧(x.kind==5)=false∧(x.kind != 5)=true∧True∧Hid (¬ x.kind=5)):=by
  rcases(by omega:x.kind=6∨x.kind=5∨x.kind=4) with h | h | h
  ·have:=rV h
   exact .inl ⟨by simp[h],by simp[h],by simp[h],by simp[h],by omega,by omega,by rw[Hid];omega⟩
  ·have:=yO (by omega);have h2:=ir h
   exact .inr (.inl ⟨by simp[h],by simp[h],by omega,by simp[h],by simp[h],by simp;omega,h⟩)
  have:=yO (by omega)
  exact .inr (.inr ⟨by simp[h],by simp[h],by omega,by simp[h],by simp[h],trivial,by rw[Hid];omega⟩)
 have HX:=Hh hx;clear hx hf rV yO ir om;have TT:=Hh tests;clear tests;go_enter Tryz.func105,Tryz.ntmps105
 go_wp2_with fail
 refine(kI hT Is _ pd).mono ?_
 rintro e w2 ⟨rfl,zG⟩
 have pZ:=qj.below zG;have yQ:=xX.below zG;have yE:=wd rS zG;obtain⟨b0,b1,b2,b3⟩:=jf0;go_upto_region 9 with fail
 go_cut [95] (fun s95 wx=>s95=.bool false∧w2=wx)
 case first =>
  rcases TT.out with ⟨t1,t2,t3,t4,t5,t6,t7⟩ | ⟨t1,t2,t3,t4,t5,t6,t7⟩ | ⟨t1,t2,t3,t4,t5,t6,t7⟩
  all_goals
   go_wp2_with fail
   go_meet
   exact⟨rfl,rfl⟩
 case rest =>
 obtain⟨rfl,rfl⟩:=hcut;go_wp2_with fail
 refine(db Is _ g ((i:Int)+1) s pZ (by omega) (by omega) (by omega) (by omega) (by omega)).mono ?_
 rintro e w3 ⟨rfl,dL,ye⟩
 have wi:=yQ.grown ye (by simp;omega);have d0:=wi.cell 0 rfl;have d3:=wi.cell 3 rfl;clear b0 b1 b2 b3
 by_cases yw:s+yp x≤4096
 ·have CZ:decide ((s:Int)+(yp x:Int)≤4096)=true:=by simp;omega
  go_wp2_with fail
  have E2:Hid (chk x lv i s=match qE x.items (lv+1) (i+1) (s+yp x) with | none=>none | some p=>if x.kind=5∧xB x.items=false then none else some p):=by
   rw[Hid,E.out,if_neg (by omega)]
  have HG3:=Hh (zK yE ye (.inl rfl));have EZ:w.heap.size<w3.heap.size:=wi.lt;have FE:Holds w3 H:=(pd.below zG (Nat.le_refl _)).grown ye (fun g' h=>by injection h with h;subst h;exact hg);clear qj xX rS pd pZ yQ yE c0 f0 c00 E CZ zG ye;go_loopw [103] (fun vi wr=>∃ (k:Nat) (p:Nat×Nat),k≤x.items.length∧vi=.int .i64 k∧Hid (qE (x.items.drop k) (lv+1) p.1 p.2=qE x.items (lv+1) (i+1) (s+yp x))∧p.1≤256∧p.2≤4096∧Chk wr g p.1 p.2∧w3.grownBy wr (some g)) (fun vi _=>x.items.length-(intOf vi).toNat)
  case atStart=>exact⟨0,(i+1,s+yp x),Nat.zero_le _,rfl,by simp[Hid],by omega,yw,by simpa using dL,ym _ _⟩
  case round =>
  obtain⟨k,p,hk,rfl,sN,dI,lB,Ew,rT⟩:=hrel;have xN:Holds wr H:=FE.grown rT (fun g' h=>by injection h with h;subst h;exact hg)
  by_cases yu:k<x.items.length
  ·obtain⟨ib,io,rC,wY⟩:=HX.out.items (by omega);obtain⟨eba,ebc,eia,eic,q0,q1,q2,q3,uy⟩:=wY.get k yu;subst rC;have wn:(x.items.length:Int)≤256:=by omega
   have p0:=xN.cell q0;have p1:=xN.cell q1;have p2:=xN.cell q2;have p3:=xN.cell q3;have Yr:x.items.drop k=x.items[k]::x.items.drop (k+1):=List.drop_eq_getElem_cons yu
   have IHH:=Hh (ih x.items[k] (us x k yu) H _ _ eba _ ebc eia _ eic (wr.alloc (.cells #[.int .i64 x.items[k].kind,.int .u64 x.items[k].n,.slice eba x.items[k].bytes.length ebc,.slice eia x.items[k].items.length eic] 26)) g p.1 p.2 (lv+1)
    hT uy.arg (xN.alloc _) hg (Ew.alloc _) dI lB (by omega))
   have HD:=Hh Yr;have Pf:((lv+1:Nat):Int)=(lv:Int)+1:=by omega
   rw[Pf]at IHH;clear Yr q0 q1 q2 q3 wY d0 d3 Pf;go_wp2_with fail
   refine IHH.out.mono ?_
   rintro e w4 ⟨rfl,yF,i4,s4,oD,Q8⟩
   have wb:=zK (xZ rT (.cells #[.int .i64 x.items[k].kind,.int .u64 x.items[k].n,.slice eba x.items[k].bytes.length ebc,.slice eia x.items[k].items.length eic] 26)) yF (.inl rfl)
   cases hq:chk x.items[k] (lv+1) p.1 p.2 with
   | none =>
    have e0:Hid (chk x lv i s=none):=by
     rw[Hid,E2.out,← sN.out,HD.out,qE,hq]
    have R:=Hh (And.intro (zK HG3.out wb (.inl rfl)) oD);clear hq Q8 p0 p1 p2 p3 IHH Ew rT yF wb oD;go_wp2_with fail
    go_ret
    exact⟨by rw[e0.out];rfl,R.out.1,_,_,R.out.2,by rw[e0.out];intro p hp;cases hp⟩
   | some p' =>
   obtain⟨rfl,rfl⟩:=Q8 p' hq;obtain⟨_,_,MO,ae⟩:=eS _ _ _ _ _ hq
   have hn:Hid (qE (x.items.drop (k+1)) (lv+1) p'.1 p'.2=qE x.items (lv+1) (i+1) (s+yp x)):=by
    rw[Hid,← sN.out,HD.out,qE,hq]
   clear hq Q8 p0 p1 p2 p3 IHH Ew rT yF HD sN;go_wp2_with fail
   go_roundw
   case rel=>exact⟨k+1,p',by omega,by go_num,hn,MO,ae,oD,wb⟩
   case measure=>simp[intOf];omega
  have qJ:k=x.items.length:=by omega
  subst qJ
  have pE:Hid (qE x.items (lv+1) (i+1) (s+yp x)=some p):=by
   rw[Hid,← sN.out,List.drop_length,qE]
  have kh:=wi.grown rT (by simp;omega);have d0:=kh.cell 0 rfl;have d3:=kh.cell 3 rfl;have hGG:=Hh (zK HG3.out rT (.inl rfl));clear sN
  rcases TT.out with ⟨t1,t2,t3,t4,t5,t6,t7⟩ | ⟨t1,t2,t3,t4,t5,t6,t7⟩ | ⟨t1,t2,t3,t4,t5,t6,t7⟩
  ·clear t1 t2 t4 t5 t6;exact jbH
  ·clear t1 t2 t3 t4 t6;obtain⟨hK,Di,_,ae⟩:=iC _ _ _ _ _ pE.out h1 yw;have T9:(zP x.items).length≤4096:=by rw[Di]at ae;simp only at ae;omega
   have wn:∀ k (h:k<x.items.length),(zZ x.items[k]).length≤1099511627776:=by
    intro k hk
    have a1:=tr x.items k hk;have a2:=nR x.items (k+1);rw[a1]at a2
    simp only[List.length_append]at a2
    omega
   have hAA:∃ b off,0<x.items.length→ia=some ⟨b,off,none⟩∧IsElems H b off x.items:=by
    by_cases h0:0<x.items.length
    ·obtain⟨ib,io,rC,wY⟩:=HX.out.items h0
     exact⟨ib,io,fun _=>⟨rC,wY⟩⟩
    exact⟨0,0,fun h=>absurd h h0⟩
   obtain⟨ib,io,hA⟩:=hAA;have ASC:=Hh (dT x.items ib io ia ic wr hA xN hK wn x.items.length rfl (by omega));clear hA wn T9 Di ae hK;go_wp2_with fail
   refine ASC.out.mono ?_
   rintro e w5 ⟨rfl,xS⟩
   have R:=Hh (And.intro (wd hGG.out xS) (Ew.below xS))
   cases qg:xB x.items with
   | true =>
    have e0:Hid (chk x lv i s=some p):=by
     rw[Hid,E2.out,pE.out]
     simp only[qg,Bool.true_eq_false,and_false,if_false]
    clear ASC qg;go_wp2_with fail
    go_ret
    exact⟨by rw[e0.out];rfl,R.out.1,_,_,R.out.2,by rw[e0.out];intro p' rI;injection rI with rI;subst rI;exact⟨rfl,rfl⟩⟩
   | false =>
   have e0:Hid (chk x lv i s=none):=by
    rw[Hid,E2.out,pE.out]
    simp only[qg,t7.out,and_self,if_true]
   clear ASC qg;go_wp2_with fail
   go_ret
   exact⟨by rw[e0.out];rfl,R.out.1,_,_,R.out.2,by rw[e0.out];intro p' rI;cases rI⟩
  clear t1 t2 t3 t4;exact jbH
 have CZ:decide ((s:Int)+(yp x:Int)≤4096)=false:=by simp;omega
 have R:=Hh (And.intro (zK yE ye (.inl rfl)) dL);clear qj xX rS pd pZ yQ yE dL ye wi d0 d3 c0 f0 c00;go_wp2_with fail
 go_ret
 have e0:chk x lv i s=none:=by rw[E.out,if_pos (by omega)]
 exact jds
theorem ItemA.eqs {H:Snap}{k n:Int}{ba:Option Addr}{bl bc:Nat}{ia:Option Addr}{il ic:Nat}{x:Itm}(h:ItemA H k n ba bl bc ia il ic x):k=x.kind∧n=(x.n:Int)∧bl=x.bytes.length∧il=x.items.length∧IsItem H ba bc ia ic x:=⟨h.1,h.2,h.3,h.4,h.5⟩
theorem Qq (x:Itm):eM x:=by
 have main:∀ N,∀ x:Itm,cnt x≤N→eM x:=by
  intro N
  induction N with
  | zero =>
   exact jbv
  | succ N ih =>
  intro x hx H k n ba bl bc ia il ic w g i s lv hT ha hH hg hc hi hs hlv
  obtain⟨rfl,rfl,rfl,rfl,rD⟩:=ha.eqs
  by_cases h0:256<i+1∨4096<x.bytes.length∨256<x.items.length
  ·exact RH x i s lv h0 rD w g hc hi
  by_cases hp:yZ x=true
  ·exact Uy x i s lv (by omega) (by omega) (by omega) hp hT rD w hH g hg hc hs
  have rI:yZ x=false:=by simpa using hp
  by_cases hf:vq x lv=true
  ·exact RI x (fun y hy=>ih y (by omega)) i s lv (by omega) (by omega) (by omega) rI hf hT rD w hH g hg hc hs
  exact Ux x i s lv (by omega) (by omega) (by omega) rI (by simpa using hf) hT rD w hH g hg hc hs hlv
 exact jcm
theorem rX {H:Snap}(hT:Tabs H) {k n:Int}{ba:Option Addr}{bl bc:Nat}{ia:Option Addr}{il ic:Nat}{x:Itm}(hx:ItemA H k n ba bl bc ia il ic x) (w:World) (hH:Holds w H) :
  Calls Tryz.prog 65 #[.agg #[.int .i64 k,.int .u64 n,.slice ba bl bc,.slice ia il ic]] w fun e w'=>e=.returned (.bool (zJ x))∧Below w.heap.size w w':=by
 have W1:=fun w1:World=>fun h1:Holds w1 H=>fun hg=>fun hc=>(Qq x) H k n ba bl bc ia il ic w1 (w.heap.size+1) 0 0 0 hT hx h1 hg hc (by omega) (by omega) (by omega)
 have pf:=(hH.alloc (.cells #[.int .i64 k,.int .u64 n,.slice ba bl bc,.slice ia il ic] 26))
 have sv:H (w.heap.size+1)=none:=hH.none_of_ge (by omega);have hC:=Blk.new (w.alloc (.cells #[.int .i64 k,.int .u64 n,.slice ba bl bc,.slice ia il ic] 26)) 144 #[.int .i64 0,.int .i64 0];rw[show(w.alloc (.cells #[.int .i64 k,.int .u64 n,.slice ba bl bc,.slice ia il ic] 26)).heap.size=w.heap.size+1 by simp]at hC;have I:=Hh (W1 _ (pf.alloc (.cells #[.int .i64 0,.int .i64 0] 144)) sv hC);have B2:=Hh ((zo w (.cells #[.int .i64 k,.int .u64 n,.slice ba bl bc,.slice ia il ic] 26)).alloc (by simp) (.cells #[.int .i64 0,.int .i64 0] 144));clear W1 pf sv hC hx;go_enter Tryz.func65,Tryz.ntmps65
 go_wp2_with fail
 refine I.out.mono ?_
 rintro e w2 ⟨rfl,hG,_⟩
 go_wp2_with fail
 go_ret
 exact⟨rfl,zY B2.out hG (by simp)⟩
def Jd (w:World) (x:Itm) (e:Ending) (w':World):Prop :=
 (zJ x=false∧e=.returned (.tuple #[.slice none 0 0,.int .i64 1])∧Below w.heap.size w w')∨
 (zJ x=true∧∃ r,e=.returned (.tuple #[r,.int .i64 0])∧Fresh w (zZ x) r w')
theorem rJ {H:Snap}(hT:Tabs H) {k n:Int}{ba:Option Addr}{bl bc:Nat}{ia:Option Addr}{il ic:Nat}{x:Itm}(hx:ItemA H k n ba bl bc ia il ic x) (w:World) (hH:Holds w H) :
  Calls Tryz.prog 52 #[.agg #[.int .i64 k,.int .u64 n,.slice ba bl bc,.slice ia il ic]] w (Jd w x):=by
 have pd:=(hH.alloc (.cells #[.int .i64 k,.int .u64 n,.slice ba bl bc,.slice ia il ic] 26))
 have zB:=zo w (.cells #[.int .i64 k,.int .u64 n,.slice ba bl bc,.slice ia il ic] 26);have xX:=Blk.new w 26 #[.int .i64 k,.int .u64 n,.slice ba bl bc,.slice ia il ic];have V:=Hh (rX hT hx _ pd);go_enter Tryz.func52,Tryz.ntmps52
 go_wp2_with fail
 refine V.out.mono ?_
 rintro e w2 ⟨rfl,zG⟩
 have yQ:=xX.below zG;obtain⟨b0,b1,b2,b3⟩:=jf0;have pf:=pd.below zG (Nat.le_refl _);have hb:=zB.trans (zG.mono zB.size)
 cases hv:zJ x with
 | false =>
  have ET:=Hh hv;clear hv;go_wp2_with fail
  go_ret2
  exact .inl ⟨ET.out,rfl,hb⟩
 | true =>
 obtain⟨hk,_,hl⟩:=vL hv;have A:=Hh (oO x H k n ba bl bc ia il ic w2 w2.heap.size (.slice none 0 0) [] hk hx pf (OwnB.nil _ _) (Nat.le_refl _) (by simp[Value.ownBlock]) (by simp;omega));have ET:=Hh hv;clear hv hl;go_wp2_with fail
 refine A.out.mono ?_
 rintro e w3 ⟨r,rfl,xH,hg,_⟩
 go_wp2_with fail
 go_ret2
 refine .inr ⟨ET.out,_,rfl, ?_, ?_⟩
 ·simpa [OwnB] using xH.more (base':=w.heap.size) hb.size
 exact hb.trans ((xe (by simpa [Value.ownBlock] using hg)).mono hb.size)
theorem Snap.with_ne (H:Snap) {g b:Nat}(o:Obj) (h:b≠g):(H.with g o) b=H b:=by simp[Snap.with,h]
theorem jC {w:World}{ops:Array Oper}{rest:List Oper}{o:Oper}{a:Act}{Q:Exit→Act→World→Prop}
  (hg:o.guard=none) (l c:Operand) (X6:o.op=Op.makeSlice 24 l c)
  (kl kc:IntKind) (L C:Int) (n:Nat) (hl:a.eval l=.int kl L) (hc:a.eval c=.int kc C) (hL:L=(n:Int)) (hC:C=(n:Int)) (b2:n≤1099511627776) (g:Nat) (yS:w.heap.size=g)
  (hK:∀ w' cs,Blk w' g 26 cs→cs.size=n*4→Below w.heap.size w w'→wpList Tryz.prog ops Q rest (a.put o.dst (.slice (some ⟨g,0,none⟩) n n)) w') :
  wpList Tryz.prog ops Q (o::rest) a w:=by
 subst yS;obtain⟨i0,tV,kA,rE,oz⟩:=info_parts iF
 refine wpList_make_full w hg l c _ X6 w.heap.size 26 i0 _ 4 Tryz.underlying24 tV kA rE kl kc L C n hl hc hL hC (by rw[oz];omega) (by simp only[maxLen];omega) (Nat.le_refl _) fun w' h1 h2=>?_
 rcases h1.2 with ⟨hv,_⟩ | ⟨g,cap,cur,hv,_,hg,_,_,hs,_⟩
 ·cases hv
 cases hv
 exact hK w' cur hg hs (xe h2)
def nV (x:Itm):Prop:=∀ (H:Snap) (k n:Int) (ba:Option Addr) (bl bc:Nat) (ia:Option Addr) (il ic:Nat) (w:World),
 Modest x→ItemA H k n ba bl bc ia il ic x→Holds w H→
 Calls Tryz.prog 95 #[.agg #[.int .i64 k,.int .u64 n,.slice ba bl bc,.slice ia il ic]] w fun e w'=>∃ v,e=.returned v∧Gives w H x v w'
theorem XG (x:Itm) (ih:∀ y:Itm,cnt y<cnt x→nV y):nV x:=by
 intro H k n ba bl bc ia il ic w hm hx hH
 obtain⟨rfl,rfl,rfl,rfl,rD⟩:=hx.eqs;obtain⟨qu,ir,FZ⟩:=hm.parts;have HX:=Hh rD;have Tb:=Hh rD.bounds;have C:=Hh (tt ((w.alloc (.cells #[.int .i64 x.kind,.int .u64 x.n,.slice ba x.bytes.length bc,.slice ia x.items.length ic] 26)).alloc (.cells #[.int .i64 0,.int .u64 0,.slice none 0 0,.slice none 0 0] 26)) ba x.bytes x.bytes.length bc rfl qu (((Src.of_row rD.bytes.row hH).alloc _).alloc _));have xX:=(Blk.new w 26 #[.int .i64 x.kind,.int .u64 x.n,.slice ba x.bytes.length bc,.slice ia x.items.length ic]).alloc (.cells #[.int .i64 0,.int .u64 0,.slice none 0 0,.slice none 0 0] 26);have yQ:=Blk.new (w.alloc (.cells #[.int .i64 x.kind,.int .u64 x.n,.slice ba x.bytes.length bc,.slice ia x.items.length ic] 26)) 26 #[.int .i64 0,.int .u64 0,.slice none 0 0,.slice none 0 0];rw[show(w.alloc (.cells #[.int .i64 x.kind,.int .u64 x.n,.slice ba x.bytes.length bc,.slice ia x.items.length ic] 26)).heap.size=w.heap.size+1 by simp]at yQ
 clear hx hm rD qu;go_enter Tryz.func95,Tryz.ntmps95
 go_wp2_with fail
 refine C.out.mono ?_
 rintro e w1 ⟨r,rfl,hf⟩
 obtain⟨A',c',rfl,_⟩:=hf.own.form;obtain⟨H1,rS,gH,_⟩:=hf.snapB ((hH.alloc _).alloc _);have CR:H1 w.heap.size=none:=rS.none (hH.none_of_ge (Nat.le_refl _)) (by simp;omega);have zAD:H1 (w.heap.size+1)=none:=rS.none (hH.none_of_ge (by omega)) (by simp);have rS:=(((Grows.refl hH).alloc _).alloc _).trans rS;have xX:=xX.below hf.2;have yQ:=yQ.below hf.2;have b2:=xX.cell 2 rfl;have f2:=xX.frozen 2;have xX:=xX.set_ 2 (.slice A' x.bytes.length c');have b3:=xX.cell 3 rfl;have sW:w.heap.size+2≤w1.heap.size:=by have:=hf.2.size;simp at this;omega
 go_wp2_with (at_make;refine zH ?_)
 refine jC rfl _ _ rfl .i64 .i64 _ _ x.items.length rfl rfl rfl rfl ir w1.heap.size (by simp[World.setCell]) fun w2 cs oq hcz zG=>?_
 have hgn:H1 w1.heap.size=none:=rS.hidden (Nat.le_refl _);have yE:Grows w H w2 H1:=(rS.setOwn CR (Nat.le_refl _) 2 (.slice A' x.bytes.length c')).below_ zG;have yQ:=(yQ.far (p:=⟨w.heap.size,2,none⟩) (by simp) (.slice A' x.bytes.length c')).below zG;have xX:=xX.below zG;have pj:w1.heap.size<w2.heap.size:=oq.lt;have c3:=xX.cell 3 rfl;have HG2:=Hh yE;have t8:=rS.le;clear hf C b2 f2 b3 zG;go_upto_region 4 with fail
 go_loopw [17] (fun vi wr=>∃ (k:Nat) (Hr:Snap) (cr:Array Value) (pre:List Value),k≤x.items.length∧vi=.int .i64 k∧Grows w H wr Hr∧H1.le Hr∧Hr w.heap.size=none∧Hr (w.heap.size+1)=none∧Hr w1.heap.size=none∧
  Blk wr w.heap.size 26 #[.int .i64 x.kind,.int .u64 x.n,.slice A' x.bytes.length c',.slice ia x.items.length ic]∧Blk wr (w.heap.size+1) 26 #[.int .i64 0,.int .u64 0,.slice none 0 0,.slice none 0 0]∧
  Blk wr w1.heap.size 26 cr∧cr.size=x.items.length*4∧ItemsC Hr pre (x.items.take k)∧cr.toList.take (k*4)=pre) (fun vi _=>x.items.length-(intOf vi).toNat)
 case atStart=>exact⟨0,H1,cs,[],Nat.zero_le _,rfl,HG2.out,Snap.le.refl _,CR,zAD,hgn,xX,yQ,oq,hcz,by simp[ItemsC],by simp⟩
 case round =>
 obtain⟨k,Hr,cr,pre,hk,rfl,rT,QA,un,tF,At,qj,pZ,DY,zA8,cm,T8⟩:=hrel
 by_cases yu:k<x.items.length
 ·obtain⟨ib,io,rC,wY⟩:=HX.out.items (by omega);obtain⟨eba,ebc,eia,eic,q0,q1,q2,q3,uy⟩:=wY.get k yu;subst rC;have JI:=rT.holds.mono rT.le;have p0:=JI.cell q0;have p1:=JI.cell q1;have p2:=JI.cell q2;have p3:=JI.cell q3;have IH:=Hh (ih x.items[k] (us x k yu) Hr _ _ eba _ ebc eia _ eic (wr.alloc (.cells #[.int .i64 x.items[k].kind,.int .u64 x.items[k].n,.slice eba x.items[k].bytes.length ebc,.slice eia x.items[k].items.length eic] 26)) (FZ.get k yu) (uy.mono rT.le).arg (rT.holds.alloc _));clear q0 q1 q2 q3 wY uy JI;go_wp2_with fail
  refine IH.out.mono ?_
  rintro e w3 ⟨v,rfl,rba,rbc,ria,ric,Hs,rfl,ye,Dx⟩
  have yF:=(rT.alloc (.cells #[.int .i64 x.items[k].kind,.int .u64 x.items[k].n,.slice eba x.items[k].bytes.length ebc,.slice eia x.items[k].items.length eic] 26)).trans ye;have mu:=(qj.alloc (.cells #[.int .i64 x.items[k].kind,.int .u64 x.items[k].n,.slice eba x.items[k].bytes.length ebc,.slice eia x.items[k].items.length eic] 26)).below ye.below;have jw:=(pZ.alloc (.cells #[.int .i64 x.items[k].kind,.int .u64 x.items[k].n,.slice eba x.items[k].bytes.length ebc,.slice eia x.items[k].items.length eic] 26)).below ye.below;have hDg:=(DY.alloc (.cells #[.int .i64 x.items[k].kind,.int .u64 x.items[k].n,.slice eba x.items[k].bytes.length ebc,.slice eia x.items[k].items.length eic] 26)).below ye.below;have zAp:=ye.none un (by have:=qj.lt;simp;omega);have zAn:=ye.none tF (by have:=pZ.lt;simp;omega);have Cj:=ye.none At (by have:=DY.lt;simp;omega)
  have BX:ItemsC Hs (pre++zV x.items[k] rba rbc ria ric) (x.items.take (k+1)):=by
   rw[List.take_succ_eq_append_getElem yu]
   exact(cm.mono ye.le).app (ItemsC.one Dx)
  have zAu:=QA.trans ye.le;have HCP:=Hh T8;clear p0 p1 p2 p3 IH qj pZ DY cm rT ye T8;go_wp2_with (with_reducible refine zx ?_)
  refine xT rfl _ _ _ rfl rfl w1.heap.size (k*4) _ rfl rfl _ _ hDg zu (by show k*4+4≤cr.size;omega) (tR _ _ _ _ rfl rfl rfl rfl) fun w4 hDg4 oE=>?_
  have wb:=yF.grownOwn Cj (by omega) oE;have mu:=mu.grown oE (by simp;omega);have jw:=jw.grown oE (by simp;omega);have iu:(lH cr (k*4) (zV x.items[k] rba rbc ria ric)).size=x.items.length*4:=by rw[bV];exact zA8
  have Ax:(lH cr (k*4) (zV x.items[k] rba rbc ria ric)).toList.take ((k+1)*4)=pre++zV x.items[k] rba rbc ria ric:=by
   rw[show(k+1)*4=k*4+(zV x.items[k] rba rbc ria ric).length by simp[zV];omega,Rq _ _ _ (by simp[zV];omega),HCP.out]
  have AF:=Hh Ax;clear Ax yF hDg;go_wp2_with fail
  go_roundw
  case rel=>exact⟨k+1,Hs,_,_,by omega,by go_num,wb,zAu,zAp,zAn,Cj,mu,jw,hDg4,iu,BX,AF.out⟩
  case measure=>simp[intOf];omega
 have qJ:k=x.items.length:=by omega
 subst qJ;rw[List.take_length]at cm;have HCP:=Hh T8;clear T8;have hF:=rT.withOwn At (by omega) DY;have hK:=QA.trans (Snap.le_with At (o:=.cells cr 26 (0,0)));have Co:(Hr.with w1.heap.size (.cells cr 26 (0,0))) (w.heap.size+1)=none:=by rw[Snap.with_ne _ _ (by omega)];exact tF
 have Ld:(Hr.with w1.heap.size (.cells cr 26 (0,0))) w.heap.size=none:=by rw[Snap.with_ne _ _ (by omega)];exact un
 have G4:IsElems (Hr.with w1.heap.size (.cells cr 26 (0,0))) w1.heap.size 0 x.items :=
  (cm.mono (Snap.le_with At)).elems (Blk.cellsAt _ rfl pre (by rw[cm.len];exact HCP.out))
 have CU:=gH.mono hK;have iu:w.heap.size<wr.heap.size:=qj.lt;clear DY;go_wp2_with (with_reducible refine zx ?_)
 refine zj rfl _ _ _ rfl rfl w.heap.size 3 _ rfl rfl _ _ qj tx (by simp) rfl fun w4 QK oE=>?_
 have Aa:=pZ.grown oE (by simp);have Ab:=hF.grownOwn Ld (Nat.le_refl _) oE;clear qj pZ
 by_cases h0:x.items.length=0
 ·have fB:IsItem (Hr.with w1.heap.size (.cells cr 26 (0,0))) A' c' none 0 x:=by
   obtain⟨z1,z2,z3,_⟩:=Tb.out
   cases x
   rw[IsItem]
   exact⟨⟨z1,z2,z3,Nat.le_of_eq h0,by omega⟩,CU,fun h=>absurd h (by simp[Itm.items]at h0;simp[h0])⟩
  have HI:=Hh fB;have h00:(x.items.length:Int)=0:=by omega
  have H00:=Hh h0;clear h0 fB;go_wp2_with (with_reducible refine zx ?_)
  refine zj rfl _ _ _ rfl rfl w.heap.size 3 _ rfl rfl _ _ QK tx (by simp) rfl fun w5 Q1 xv=>?_
  have Db:=Aa.grown xv (by simp);have Ab:=Ab.grownOwn Ld (Nat.le_refl _) xv;have i0:=Q1.cell 0 rfl;have i1:=Q1.cell 1 rfl;have i2:=Q1.cell 2 rfl;have i3:=Q1.cell 3 rfl;go_wp2_with (with_reducible refine zx ?_)
  refine stI Db fun w6 fS ws=>?_
  go_wp2_with fail
  refine zF rfl rfl fS rfl rfl zu rfl ?_
  exact⟨_,rfl,A',c',none,0,_,by simp[xp,H00.out],Ab.grownOwn Co (by omega) ws,HI.out⟩
 have fB:IsItem (Hr.with w1.heap.size (.cells cr 26 (0,0))) A' c' (some ⟨w1.heap.size,0,none⟩) x.items.length x:=by
  obtain⟨z1,z2,z3,z4,z5,z6,z7⟩:=Tb.out
  cases x
  rw[IsItem]
  exact⟨⟨z1,z2,z3,Nat.le_refl _,by simp only[Itm.items]at z6⊢;omega⟩,CU,fun h=>⟨_,_,rfl,G4⟩⟩
 have HI:=Hh fB;have h00:((x.items.length:Int)==0)=false:=by rw[beq_eq_false_iff_ne];omega
 clear h0 fB;have i0:=QK.cell 0 rfl;have i1:=QK.cell 1 rfl;have i2:=QK.cell 2 rfl;have i3:=QK.cell 3 rfl;go_wp2_with (with_reducible refine zx ?_)
 refine stI Aa fun w6 fS ws=>?_
 go_wp2_with fail
 refine zF rfl rfl fS rfl rfl zu rfl ?_
 exact⟨_,rfl,A',c',_,_,_,rfl,Ab.grownOwn Co (by omega) ws,HI.out⟩
theorem lr (x:Itm):nV x:=by
 have main:∀ N,∀ x:Itm,cnt x≤N→nV x:=by
  intro N
  induction N with
  | zero =>
   exact jbv
  | succ N ih=>exact fun x hx=>XG x fun y hy=>ih y (by omega)
 exact jcm
theorem UZ {H:Snap}(l:List Itm) (A:Option Addr) (n c:Nat) (w:World) (cs:List Value) (hs:Src w A cs) (oq:ItemsC H cs l) (hn:n=l.length) (hl:l.length≤1099511627776) (hm:ModestL l) (hH:Holds w H) :
  Calls Tryz.prog 53 #[.slice A n c] w fun e w'=>∃ v,e=.returned v∧Gives w H (.mk 4 0 [] l) v w':=by
 have HN:=Hh hn;have xX:=(Blk.new w 26 #[.int .i64 0,.int .u64 0,.slice none 0 0,.slice none 0 0]).alloc (.cells #[.int .i64 4,.int .u64 0,.slice none 0 0,.slice none 0 0] 26);have yQ:=Blk.new (w.alloc (.cells #[.int .i64 0,.int .u64 0,.slice none 0 0,.slice none 0 0] 26)) 26 #[.int .i64 4,.int .u64 0,.slice none 0 0,.slice none 0 0];rw[show(w.alloc (.cells #[.int .i64 0,.int .u64 0,.slice none 0 0,.slice none 0 0] 26)).heap.size=w.heap.size+1 by simp]at yQ;have HG:=Hh (((Grows.refl hH).alloc (.cells #[.int .i64 0,.int .u64 0,.slice none 0 0,.slice none 0 0] 26)).alloc (.cells #[.int .i64 4,.int .u64 0,.slice none 0 0,.slice none 0 0] 26));clear hn;go_enter Tryz.func53,Tryz.ntmps53
 go_upto_region 3 with fail
 go_loopw [9] (fun vi wr=>∃ (k:Nat) (Hr:Snap) (VA:Option Addr) (vc:Nat),k≤l.length∧vi=.int .i64 k∧Grows w H wr Hr∧Hr w.heap.size=none∧Hr (w.heap.size+1)=none∧
  Blk wr w.heap.size 26 #[.int .i64 0,.int .u64 0,.slice none 0 0,.slice none 0 0]∧Blk wr (w.heap.size+1) 26 #[.int .i64 4,.int .u64 0,.slice none 0 0,.slice VA k vc]∧
  OwnI wr (w.heap.size+2) (.slice VA k vc) Hr (l.take k)∧(∀ g,(Value.slice VA k vc).ownBlock=some g→Hr g=none)) (fun vi _=>l.length-(intOf vi).toNat)
 case atStart=>exact⟨0,H,none,0,Nat.zero_le _,rfl,HG.out,hH.none_of_ge (Nat.le_refl _),hH.none_of_ge (by omega),xX,yQ,by simpa using OwnI.nil _ _ H,by simp[Value.ownBlock]⟩
 case round =>
 obtain⟨k,Hr,VA,vc,hk,rfl,rT,un,tF,pZ,qj,QJ,fo⟩:=hrel;have hn:=HN.out
 by_cases yu:k<l.length
 ·obtain⟨eba,ebc,eia,eic,x0,x1,x2,x3,uy⟩:=oq.get k yu;obtain⟨sb,so,rfl,mf⟩:=(hs.below rT.below) (by intro h;subst h;simp at x0)
  have p0:=mf _ _ x0;have p1:=mf _ _ x1;have p2:=mf _ _ x2;have p3:=mf _ _ x3
  simp only[← Nat.add_assoc]at p0 p1 p2 p3
  have zAt:k<n:=by omega
  have IH:=Hh (lr l[k] Hr _ _ eba _ ebc eia _ eic (wr.alloc (.cells #[.int .i64 l[k].kind,.int .u64 l[k].n,.slice eba l[k].bytes.length ebc,.slice eia l[k].items.length eic] 26)).drew (hm.get k yu) (uy.mono rT.le).arg (rT.holds.alloc _).drew);have hCt:=Blk.new wr 26 #[.int .i64 l[k].kind,.int .u64 l[k].n,.slice eba l[k].bytes.length ebc,.slice eia l[k].items.length eic];have C4:=(qj.alloc (.cells #[.int .i64 l[k].kind,.int .u64 l[k].n,.slice eba l[k].bytes.length ebc,.slice eia l[k].items.length eic] 26)).drew;have PC:=hCt.drew;have EZ:w.heap.size+2≤wr.heap.size:=by have:=qj.lt;omega
  clear x0 x1 x2 x3 mf hn;go_upto_region 5 with fail
  refine zw 7 (fun w'=>w'.cell? ⟨w.heap.size+1,3,none⟩=some (.slice VA k vc)∧w'.cell? ⟨wr.heap.size,0,none⟩=some (.int .i64 l[k].kind)∧w'.cell? ⟨wr.heap.size,1,none⟩=some (.int .u64 l[k].n)∧w'.cell? ⟨wr.heap.size,2,none⟩=some (.slice eba l[k].bytes.length ebc)∧w'.cell? ⟨wr.heap.size,3,none⟩=some (.slice eia l[k].items.length eic)) (by kernel_rfl) (⟨C4.cell 3 rfl,PC.cell 0 rfl,PC.cell 1 rfl,PC.cell 2 rfl,PC.cell 3 rfl⟩) (fun zy=>?_)
  refine Tk 0 rfl zy ?_
  refine Tk 1 rfl zy ?_
  refine Tk 2 rfl zy ?_
  refine To 3 rfl fun K hK=>?_
  go_simp
  refine IH.out.mono ?_
  rintro e w3 ⟨v,rfl,rba,rbc,ria,ric,Hs,rfl,ye,Dx⟩
  have mu:=(qj.alloc (.cells #[.int .i64 l[k].kind,.int .u64 l[k].n,.slice eba l[k].bytes.length ebc,.slice eia l[k].items.length eic] 26)).drew.below ye.below;have Ey:=hCt.drew.below ye.below;have hDv:=((QJ.alloc (.cells #[.int .i64 l[k].kind,.int .u64 l[k].n,.slice eba l[k].bytes.length ebc,.slice eia l[k].items.length eic] 26)).below ((Below.refl _ _).drew.trans ye.below)).mono ye.le
  refine Ko hK ?_ fun zy=>?_
  ·exact⟨mu.cell 3 rfl,Ey.cell 0 rfl,Ey.cell 1 rfl,Ey.cell 2 rfl,Ey.cell 3 rfl⟩
  clear hK K
  refine To 4 rfl fun K hK=>?_
  go_simp
  have QK:=mu.alloc (.cells #[.int .i64 l[k].kind,.int .u64 l[k].n,.slice rba l[k].bytes.length rbc,.slice ria l[k].items.length ric] 26);have FA:=Ey.alloc (.cells #[.int .i64 l[k].kind,.int .u64 l[k].n,.slice rba l[k].bytes.length rbc,.slice ria l[k].items.length ric] 26);have FB:=hDv.alloc (.cells #[.int .i64 l[k].kind,.int .u64 l[k].n,.slice rba l[k].bytes.length rbc,.slice ria l[k].items.length ric] 26)
  refine Ko hK ?_ fun zy=>?_
  ·exact⟨QK.cell 3 rfl,FA.cell 0 rfl,FA.cell 1 rfl,FA.cell 2 rfl,FA.cell 3 rfl⟩
  clear hK K
  refine To 5 rfl fun K hK=>?_
  rw[if_pos (by rfl)]
  refine vo (.tmp 14) (.tmp 17) rfl (w.heap.size+2) (.slice VA k vc) Hs (l.take k) rfl FB _ _ _ (zV l[k] rba rbc ria ric) [l[k]] rfl rfl (ItemsC.one Dx) (Src.new _ _ _ _ rfl _ rfl) (by simp;omega) (by have:=ye.below.size;simp at this⊢;omega) fun v' w5 nJ xv vP=>?_
  obtain⟨VA',vc',rfl,zBm,zBl⟩:=nJ.form;have Q1:=QK.grown xv (fun h=>by have:=(QJ.lt _ h).1;omega);have Dc:=FA.grown xv (fun h=>by have:=(QJ.lt _ h).2;omega)
  refine Ko hK ?_ fun zy=>?_
  ·exact⟨Q1.cell 3 rfl,Dc.cell 0 rfl,Dc.cell 1 rfl,Dc.cell 2 rfl,Dc.cell 3 rfl⟩
  clear hK K
  refine Tk 6 rfl zy ?_
  refine To 7 rfl fun K hK=>?_
  rw[if_pos (by rfl)]
  refine xt _ _ _ rfl (w.heap.size+1) 3 _ rfl rfl _ _ Q1 tx (by simp) rfl fun w6 hJ1 ws=>?_
  refine Kz hK ?_
  clear hK K
  refine Wd ?_
  have yF:=(((rT.alloc (.cells #[.int .i64 l[k].kind,.int .u64 l[k].n,.slice eba l[k].bytes.length ebc,.slice eia l[k].items.length eic] 26)).drew).trans ye).alloc (.cells #[.int .i64 l[k].kind,.int .u64 l[k].n,.slice rba l[k].bytes.length rbc,.slice ria l[k].items.length ric] 26);have qu:=ye.none un (by simp;omega);have ir:=ye.none tF (by simp;omega);have Fb:∀ g,(Value.slice VA k vc).ownBlock=some g→Hs g=none:=fun g hg=>ye.none (fo g hg) (by have:=(QJ.lt g hg).2;simp;omega)
  have wb:=yF.grownRow Fb (fun g hg=>by have:=(QJ.lt g hg).1;omega) xv;have xq:=wb.grownOwn ir (by omega) ws;have fS:=(((pZ.alloc (.cells #[.int .i64 l[k].kind,.int .u64 l[k].n,.slice eba l[k].bytes.length ebc,.slice eia l[k].items.length eic] 26)).drew.below ye.below).alloc (.cells #[.int .i64 l[k].kind,.int .u64 l[k].n,.slice rba l[k].bytes.length rbc,.slice ria l[k].items.length ric] 26)).grown xv (fun h=>by have:=(QJ.lt _ h).1;omega);have fS:=fS.grown ws (by simp)
  have Hm:∀ g,(Value.slice VA' (l.take k++[l[k]]).length vc').ownBlock=some g→Hs g=none:=fun g hg=>by
   rcases vP with h | ⟨g',h1,h2⟩
   ·exact Fb g (by rw[← h,hg])
   rw[hg]at h1;injection h1 with h1
   subst h1
   exact yF.hidden h2
  have TM:=nJ.kept ws (.inr fun h=>by have:=(nJ.lt _ h).1;omega);rw[← List.take_succ_eq_append_getElem yu]at TM Hm hJ1;rw[List.length_take,Nat.min_eq_left (by omega)]at TM Hm hJ1;clear zy IH p0 p1 p2 p3 hCt C4 PC qj pZ QJ mu Ey hDv QK FA FB nJ xv vP Q1 Dc yF wb ws;go_wp2_with fail
  go_roundw
  case rel=>exact⟨k+1,Hs,VA',vc',by omega,by go_num,xq,qu,ir,fS,hJ1,TM,Hm⟩
  case measure=>simp[intOf];omega
 have qJ:k=l.length:=by omega
 subst qJ;rw[List.take_length]at QJ;have c0:=qj.cell 0 rfl;have c1:=qj.cell 1 rfl;have c2:=qj.cell 2 rfl;have c3:=qj.cell 3 rfl;obtain⟨H',dG,hh',Ib,_,t8,tA,wY⟩:=QJ.snap rT.holds (fun g hg=>fo g (by cases VA <;> simp_all [Value.ownBlock]))
 have Ly:Grows w H wr H':=⟨rT.below,rT.le.trans dG,hh',fun b o hb=>by
  rcases Ib b o hb with h | h
  ·exact rT.fresh b o h
  exact .inr (by have:=(QJ.lt b (by cases VA <;> simp_all [Value.ownBlock])).1;omega)⟩
 have Ld:H' w.heap.size=none:=by
  cases hx:H' w.heap.size with
  | none=>rfl
  | some o =>
  rcases Ib _ _ hx with h | h
  ·rw[un]at h;cases h
  have:=(QJ.lt w.heap.size (by cases VA <;> simp_all [Value.ownBlock])).1;omega
 have fB:IsItem H' none 0 VA vc (.mk 4 0 [] l):=by
  exact jdp
 clear dG hh' Ib t8 tA wY QJ rT;go_wp2_with (with_reducible refine zx ?_)
 refine stI pZ fun w6 fS ws=>?_
 go_wp2_with fail
 refine zF rfl rfl fS rfl rfl zu rfl ?_
 exact⟨_,rfl,none,0,VA,vc,H',rfl,Ly.grownOwn Ld (Nat.le_refl _) ws,fB⟩
end Go.Proofs.YtliomcphdnppnaaGreatDoor
