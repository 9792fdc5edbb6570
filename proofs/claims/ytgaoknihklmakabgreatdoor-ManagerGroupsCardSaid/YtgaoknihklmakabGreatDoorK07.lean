/- squeezed. Walks: cbor.checker.spend. Walks:  -/
import Derived.Deep.DeepCutAuto
import Derived.Test.YtgaoknihklmakabGreatDoorK06
import Derived.BigQuiet
import Derived.OwnWalk
set_option linter.unusedVariables false
set_option linter.unusedSimpArgs false
set_option maxRecDepth 100000
set_option maxHeartbeats 6400000
namespace Go.Proofs.YtgaoknihklmakabGreatDoor
open Go.RowKit
theorem jaD{P:Prop}(h:P:=by
 obtain⟨R,hR⟩:∃ R,9223372036854775808+D=R:=⟨_,rfl⟩
 rw[hR]at CS;have WW:Hid (wo v=R):=by rw[Hid,← hR,WQ.out];try omega
 have r9:=yU R;clear hR;go_wp2_with fail
 refine(CS.out _).mono ?_
 rintro e w1 ⟨rfl,rfl⟩
 exact jfa):P:=h
theorem jaK{P:Prop}(h:P:=by
 have E:Hid (zJ (l.drop p)=.error 2):=by rw[Hid,E2.out,if_pos (by rw[List.length_drop];have:=HL.out.1;omega)]
 have xT:=yu yY xj (.inl rfl);clear NM hs;go_wp2_with fail
 go_ret3
 exact HeadSaid.err E.out rfl (p+1) HL.out.1 lR xT):P:=h
theorem jaX{P:Prop}(h:P:=by have:=Blk.new (w.setCell ⟨g,0,none⟩ (.int .i64 ((i:Int)+1))) 83 #[.int .i64 x.kind,.int .u64 x.n,.slice ba x.bytes.length bc,.slice ia x.items.length ic];rwa [show(w.setCell ⟨g,0,none⟩ (.int .i64 ((i:Int)+1))).heap.size=w.heap.size by simp[World.setCell]]at this):P:=h
theorem jaZ{P:Prop}(h:P:=by exact jfa):P:=h
theorem jbA{P:Prop}(h:P:=by
 go_wp2_with fail
 go_ret
 exact⟨rfl,rfl⟩):P:=h
theorem jbI{P:Prop}(h:P:=by
 go_wp2_with fail
 go_ret
 have e0:chk x lv i s=some p:=by
  rw[E2.out,pt.out]
  simp only[if_neg (fun h:x.kind=5∧_=>t7.out h.1)]
 exact⟨by rw[e0];rfl,US.out,_,_,Mx,by rw[e0];intro p' ej;injection ej with ej;subst ej;exact⟨rfl,rfl⟩⟩):P:=h
theorem jbM{P:Prop}(h:P:=by
 clear E3 h7 HD z7 z0;go_wp2_with fail
 go_ret3
 exact HeadSaid.ok E.out rfl qc xT):P:=h
theorem jbX{P:Prop}(h:P:=by rw[Hid,E2.out,if_neg (by rw[List.length_drop];have:=HL.out.1;omega)]):P:=h
theorem jbZ{P:Prop}(h:P:=by
 clear E5;go_wp2_with fail
 go_ret3
 exact HeadSaid.ok E.out rfl nX xW):P:=h
theorem jb6{P:Prop}(h:P:=by
 refine⟨cs,h,h.len,.inr ⟨w.heap.size,l.length,cs.toArray,rfl,hb,heap_alloc_new w _,Nat.le_refl _,by simp only[maxLen];omega, ?_, ?_⟩⟩
 ·simpa using h.len
 rw[← h.len];simp):P:=h
theorem jcU{P:Prop}(h:P:=by
 go_wp2_with fail
 go_big_quiet (fail)
 go_wp2_with fail
 go_ret2
 exact .inl ⟨HL.out,rfl,hB,vg (yt w _) _⟩):P:=h
theorem jcX{P:Prop}(h:P:=by exact⟨nB.cell p0,nB.cell p1,nB.cell p2,nB.cell p3,nB.cell q0,nB.cell q1,nB.cell q2,nB.cell q3⟩):P:=h
theorem jdC{P:Prop}(h:P:=by exact⟨by rw[e0];rfl,R.out.1,_,_,R.out.2,by rw[e0];intro p hp;cases hp⟩):P:=h
theorem jdS{P:Prop}(h:P:=by
 simp only[Bool.false_eq_true,if_false,Nat.shiftLeft_zero]
 omega):P:=h
theorem jdT{P:Prop}(h:P:=by
 go_wp2_with fail
 go_ret
 exact⟨by first | rfl | simp[o1],rfl⟩):P:=h
theorem jeg{P:Prop}(h:P:=by
 go_enter Tryz.func117,Tryz.ntmps117
 go_wp2_with fail
 refine(LD.out _).mono ?_
 rintro e w1 ⟨rfl,rfl⟩
 have RS:=Hh (yU D)
 rcases(by have:=HX.out.1;omega:s=0∨s=1) with rfl | rfl
 ·exact jft
 have CS:=Hh (fun w=>rt (D:=D) (by exact HD.out) w);exact jaD):P:=h
theorem jem{P:Prop}(h:P:=by
 clear hD;have RS:=Hh (yU D)
 rcases(by have:=HX.out.1;omega:s=0∨s=1) with rfl | rfl
 ·exact jft
 have CS:=Hh (fun w=>rt (D:=D) (by rw[← HD.out];omega) w);exact jaD):P:=h
theorem jeH{P:Prop}(h:P:=by
 go_enter Tryz.func136,Tryz.ntmps136
 go_wp2_with fail
 refine(L.out _).mono ?_
 rintro e w1 ⟨rfl,rfl⟩
 exact jbA):P:=h
theorem jfa{P:Prop}(h:P:=by
 go_wp2_with fail
 go_ret
 exact⟨by rw[WW.out];try rfl,rfl⟩):P:=h
theorem jft{P:Prop}(h:P:=by
 have r9:=yU D;have WW:Hid (wo v=D):=by rw[Hid,WQ.out];try omega
 exact jaZ):P:=h
theorem jf3{P:Prop}(h:P:=by have xg:w.grownBy (oX w g ((i:Int)+1) x ba bc ia ic) (some g):=vf (uW (yt w (some g)) (.inl rfl) _) _;have nA:Holds (oX w g ((i:Int)+1) x ba bc ia ic) H:=(hH.setCell hg _).alloc _;exact And.intro xg nA):P:=h
theorem jge{P:Prop}(h:P:=by have zB:=hc.lt;have c0:=hc.cell 0 rfl;have f0:=hc.frozen 0;have c00:=(hc.set_ 0 (.int .i64 ((i:Int)+1))).cell 0 rfl;have iJ:Chk (oX w g ((i:Int)+1) x ba bc ia ic) g ((i:Int)+1) s:=(hc.set_ 0 _).alloc _;exact And.intro zB (And.intro c0 (And.intro f0 (And.intro c00 iJ)))):P:=h
theorem jgr{P:Prop}(h:P:=by have HD:=Hh (fun w=>rF 0 (n:Int) w (by omega) (by omega) (by omega) (by omega));exact HD):P:=h
theorem jgt{P:Prop}(h:P:=by have K1:IntKind.i64.wrap ((p:Int)+1)=(p:Int)+1:=IntWalk.i64_in _ (by omega);exact K1):P:=h
theorem jgG{P:Prop}(h:P:=by have c1:=hB.cell 1 rfl;exact c1):P:=h
theorem jgP{P:Prop}(h:P:=by have z7b:decide ((ch.toNat:Int)/32<7)=false:=decide_eq_false z7;exact z7b):P:=h
theorem jhC{P:Prop}(h:P:=by have y8:Blk w1 g 117 (rQ (some ⟨b,off,none⟩) l.length c p cnt):=oS ▸ hB;have xg:w.grownBy w1 (some g):=oS ▸ vg (yt w _) _;have nA:Holds w1 H:=oS ▸ HH.out;exact And.intro y8 (And.intro xg nA)):P:=h
theorem jhG{P:Prop}(h:P:=by have K0:IntKind.i64.wrap ((l.length:Int)-(p:Int))=(l.length:Int)-(p:Int):=IntWalk.i64_in _ (by omega);exact K0):P:=h
theorem jhU{P:Prop}(h:P:=by have K3:bits .or .u64 ((X:Int)*256) (ch.toNat:Int)=((X*256+ch.toNat:Nat):Int):=jN X _ hX lc;exact K3):P:=h
abbrev Chk (w:World) (g:Nat) (i s:Int):Prop:=Blk w g 141 #[.int .i64 i,.int .i64 s]
theorem Zv {H:Snap}{x:Itm}{ba:Option Addr}{bc:Nat}{ia:Option Addr}{ic:Nat}(hx:IsItem H ba bc ia ic x) (w:World) (g:Nat) (i s:Int) (hc:Chk w g i s) (h8:x.kind=8) (S0:0≤s) (wu:s≤1099511627776) :
  Calls Tryz.prog 121 #[.pointer (some ⟨g,0,none⟩),xx x ba bc ia ic] w fun e w'=>e=.returned (.bool (decide (s+zI x≤4096)))∧Chk w' g i (s+zI x)∧w.grownBy w' (some g):=by
 have e9:=mW x.n;have E:Hid (zI x=(zO x.n).length):=by simp[Hid,zI,h8]
 obtain⟨_,_,hn,_⟩:=hx.bounds;have HN:U64 x.n:=⟨by omega,by omega⟩
 have zB:=hc.lt;have hB:=Blk.new w 83 #[.int .i64 8,.int .u64 x.n,.slice ba x.bytes.length bc,.slice ia x.items.length ic];have hC:=hc.alloc (.cells #[.int .i64 8,.int .u64 x.n,.slice ba x.bytes.length bc,.slice ia x.items.length ic] 83);clear hx hn;go_enter Tryz.func121,Tryz.ntmps121
 go_wp2_with fail
 refine zj 11 (fun w'=>w'.cell? ⟨g,1,none⟩=some (.int .i64 s)∧w'.cell? ⟨w.heap.size,1,none⟩=some (.int .u64 x.n)) (by kernel_rfl) (⟨hC.cell 1 rfl,hB.cell 1 rfl⟩) (fun zy=>?_)
 refine Tk 0 rfl zy ?_
 refine Tk 1 rfl zy ?_
 refine Tk 2 rfl zy ?_
 refine Tk 3 rfl zy ?_
 refine Tk 4 rfl zy ?_
 refine Tk 5 rfl zy ?_
 refine To 6 rfl fun K hK=>?_
 go_simp
 refine(fN _ _ HN.1 HN.2).mono ?_
 rintro e w1 ⟨r,rfl,hf⟩
 obtain⟨A,c,rfl,_,_,_⟩:=hf.own.form;have iJ:=hC.drew.below hf.2
 refine Ko hK ?_ fun zy=>?_
 ·exact⟨iJ.cell 1 rfl,(hB.drew.below hf.2).cell 1 rfl⟩
 clear hK K
 refine Tk 7 rfl zy ?_
 refine Tk 8 rfl zy ?_
 refine Tk 9 rfl zy ?_
 refine Tk 10 rfl zy ?_
 refine To 11 rfl fun K hK=>?_
 have d1:=iJ.cell 1 rfl;have d2:=iJ.frozen 1;go_simp
 refine Kz hK ?_
 clear hK K
 refine Wd ?_
 all_goals
  have hw:Hid (IntKind.i64.wrap (s+((zO x.n).length:Int))=s+(zI x:Int)):=by rw[Hid,E.out];exact IntWalk.i64_in _ (by omega)
  have R:Chk (w1.setCell ⟨g,1,none⟩ (.int .i64 (s+(zI x:Int)))) g i (s+(zI x:Int))∧w.grownBy (w1.setCell ⟨g,1,none⟩ (.int .i64 (s+(zI x:Int)))) (some g) :=
   ⟨(hC.drew.below hf.2).set_ 1 _,uW (wX (rz (vf (yt w _) _)) hf.2) (.inl rfl) _⟩
  rw[hw.out];have e1:=R.1.cell 1 rfl;clear d1 d2;go_wp2
  go_ret
  exact⟨rfl,R⟩
theorem cL {x:Itm}{ba:Option Addr}{bc:Nat}{ia:Option Addr}{ic:Nat}(w:World) (g:Nat) (i s:Int) (hc:Chk w g i s) (h7:x.kind=7) (S0:0≤s) (wu:s≤1099511627776) :
  Calls Tryz.prog 121 #[.pointer (some ⟨g,0,none⟩),xx x ba bc ia ic] w fun e w'=>e=.returned (.bool (decide (s+zI x≤4096)))∧Chk w' g i (s+zI x)∧w.grownBy w' (some g):=by
 have zB:=hc.lt;have c1:=hc.cell 1 rfl;have f1:=hc.frozen 1
 by_cases tZ:(24:Int)≤(x.n:Int)
 ·have E:Hid ((zI x:Int)=2):=by
   have:24≤x.n:=by omega
   simp[Hid,zI,h7,this]
  have d1:=(hc.set_ 1 (.int .i64 (s+1))).cell 1 rfl;have g1:=(hc.set_ 1 (.int .i64 (s+1))).frozen 1;go_enter Tryz.func121,Tryz.ntmps121
  go_wp2
  go_ret
  have e:s+1+1=s+(zI x:Int):=by rw[E.out];omega
  rw[← e]
  exact⟨rfl,((hc.set_ 1 _).set_ 1 _).alloc _,vf (uW (uW (yt w _) (.inl rfl) _) (.inl rfl) _) _⟩
 have E:Hid ((zI x:Int)=1):=by
  have:¬ 24≤x.n:=by omega
  simp[Hid,zI,h7,this]
 have d1:=(hc.set_ 1 (.int .i64 (s+1))).cell 1 rfl;go_enter Tryz.func121,Tryz.ntmps121
 go_wp2
 go_ret
 have e:s+1=s+(zI x:Int):=by rw[E.out]
 rw[← e]
 exact⟨rfl,(hc.set_ 1 _).alloc _,vf (uW (yt w _) (.inl rfl) _) _⟩
theorem YL {H:Snap}{x:Itm}{ba:Option Addr}{bc:Nat}{ia:Option Addr}{ic:Nat}(hx:IsItem H ba bc ia ic x) (w:World) (g:Nat) (i s:Int) (hc:Chk w g i s) (h0:0≤x.kind) (h7:x.kind<7) (S0:0≤s) (wu:s≤1099511627776) (jf:x.bytes.length≤1099511627776) :
  Calls Tryz.prog 121 #[.pointer (some ⟨g,0,none⟩),xx x ba bc ia ic] w fun e w'=>e=.returned (.bool (decide (s+zI x≤4096)))∧Chk w' g i (s+zI x)∧w.grownBy w' (some g):=by
 have zB:=hc.lt
 have M5:(numP x:Int)<18446744073709551616:=by
  have:=hx.bounds
  unfold numP
  repeat' split
  all_goals omega
 have HN:U64 (numP x):=⟨by omega,M5⟩
 have uP:=rd x.kind.toNat (numP x);have E:Hid (zI x=(zF x.kind.toNat (numP x)).length+x.bytes.length):=by rw[Hid,zI,if_neg (by omega),if_neg (by omega)]
 have b7:(x.kind==7)=false:=by simp;omega
 have b8:(x.kind==8)=false:=by simp;omega
 have hB:=jfA;have hC:=hc.alloc (.cells #[.int .i64 x.kind,.int .u64 x.n,.slice ba x.bytes.length bc,.slice ia x.items.length ic] 83);clear M5;go_enter Tryz.func121,Tryz.ntmps121
 go_wp2_with fail
 refine zj 17 (fun w'=>w'.cell? ⟨g,1,none⟩=some (.int .i64 s)∧w'.cell? ⟨w.heap.size,0,none⟩=some (.int .i64 x.kind)∧w'.cell? ⟨w.heap.size,1,none⟩=some (.int .u64 x.n)∧w'.cell? ⟨w.heap.size,2,none⟩=some (.slice ba x.bytes.length bc)∧w'.cell? ⟨w.heap.size,3,none⟩=some (.slice ia x.items.length ic)) (by kernel_rfl) (⟨hC.cell 1 rfl,hB.cell 0 rfl,hB.cell 1 rfl,hB.cell 2 rfl,hB.cell 3 rfl⟩) (fun zy=>?_)
 refine Tk 0 rfl zy ?_
 refine Tk 1 rfl zy ?_
 refine Tk 2 rfl zy ?_
 refine Tk 3 rfl zy ?_
 refine Tk 4 rfl zy ?_
 refine Tk 10 rfl zy ?_
 refine Tk 11 rfl zy ?_
 refine Tk 12 rfl zy ?_
 refine To 5 rfl fun K hK=>?_
 go_simp
 refine(fO hx.arg _ (by omega) (by omega)).mono ?_
 rintro e w1 ⟨rfl,hm⟩
 have y8:=hB.drew.below hm;have iJ:=hC.drew.below hm
 refine Ko hK ?_ fun zy=>?_
 ·exact⟨iJ.cell 1 rfl,y8.cell 0 rfl,y8.cell 1 rfl,y8.cell 2 rfl,y8.cell 3 rfl⟩
 clear hK K
 refine Tk 6 rfl zy ?_
 refine Tk 7 rfl zy ?_
 refine To 8 rfl fun K hK=>?_
 go_simp
 refine(rF _ _ _ (by omega) (by omega) (by omega) HN.2).mono ?_
 rintro e w2 ⟨r,rfl,hf⟩
 obtain⟨A,c,rfl,_,_,_⟩:=hf.own.form;have yT:=y8.below hf.2;have ew:=iJ.below hf.2
 refine Ko hK ?_ fun zy=>?_
 ·exact⟨ew.cell 1 rfl,yT.cell 0 rfl,yT.cell 1 rfl,yT.cell 2 rfl,yT.cell 3 rfl⟩
 clear hK K
 refine Tk 9 rfl zy ?_
 refine Tk 13 rfl zy ?_
 refine Tk 14 rfl zy ?_
 refine Tk 15 rfl zy ?_
 refine Tk 16 rfl zy ?_
 refine To 17 rfl fun K hK=>?_
 have d1:=ew.cell 1 rfl;have d2:=ew.frozen 1;go_simp
 refine Kz hK ?_
 clear hK K
 refine Wd ?_
 have hw:Hid (IntKind.i64.wrap (s+IntKind.i64.wrap (((zF x.kind.toNat (numP x)).length:Int)+(x.bytes.length:Int)))=s+(zI x:Int)):=by
  rw[Hid,E.out,IntWalk.i64_in (((zF x.kind.toNat (numP x)).length:Int)+(x.bytes.length:Int)) (by omega),IntWalk.i64_in _ (by omega)]
  omega
 have R:Chk (w2.setCell ⟨g,1,none⟩ (.int .i64 (s+(zI x:Int)))) g i (s+(zI x:Int))∧w.grownBy (w2.setCell ⟨g,1,none⟩ (.int .i64 (s+(zI x:Int)))) (some g) :=
  ⟨ew.set_ 1 _,uW (wX (wX (rz (vf (yt w _) _)) hm) hf.2) (.inl rfl) _⟩
 rw[Int.toNat_natCast]at *;rw[hw.out];have e1:=R.1.cell 1 rfl;clear d1 d2;go_wp2
 go_ret
 exact⟨rfl,R⟩
theorem fP {H:Snap}{k n:Int}{ba:Option Addr}{bl bc:Nat}{ia:Option Addr}{il ic:Nat}{x:Itm}(hx:ItemA H k n ba bl bc ia il ic x) (w:World) (g:Nat) (i s:Int) (hc:Chk w g i s)
  (h0:0≤x.kind) (h8:x.kind≤8) (S0:0≤s) (wu:s≤1099511627776) (jf:x.bytes.length≤1099511627776) :
  Calls Tryz.prog 121 #[.pointer (some ⟨g,0,none⟩),.agg #[.int .i64 k,.int .u64 n,.slice ba bl bc,.slice ia il ic]] w
   fun e w'=>e=.returned (.bool (decide (s+zI x≤4096)))∧Chk w' g i (s+zI x)∧w.grownBy w' (some g):=by
 obtain⟨rfl,rfl,rfl,rfl,hx⟩:=hx
 by_cases h:x.kind=8
 ·exact Zv hx w g i s hc h S0 wu
 by_cases h7:x.kind=7
 ·exact cL w g i s hc h7 S0 wu
 exact YL hx w g i s hc h0 (by omega) S0 wu jf
theorem fC {H:Snap}(l:List Itm) (b off:Nat) (A:Option Addr) (ic:Nat) (w:World) (hA:0<l.length→A=some ⟨b,off,none⟩∧IsElems H b off l) (hH:Holds w H) (hk:KindsL l)
  (xF:∀ k (h:k<l.length),(zf l[k]).length≤1099511627776) (n:Nat) (hn:n=l.length) (iQ:n≤1099511627776) :
  Calls Tryz.prog 122 #[.slice A n ic] w fun e w'=>e=.returned (.bool (xE l))∧Below w.heap.size w w':=by
 obtain⟨ans,OH⟩:∃ b,xE l=b:=⟨_,rfl⟩
 rw[OH];have Fd:=Hh OH;have Dq:=Hh hn;have KT:=Hh xF;have Ay:=Hh hA;clear OH hn xF hA;go_enter Tryz.func122,Tryz.ntmps122
 go_wp2
 go_loopw [3] (fun i wr=>∃ j:Nat,2≤j∧i=.int .i64 j∧j≤n+2∧xE (l.drop (j-2))=ans∧Below w.heap.size w wr) (fun i _=>(n+2-intOf i).toNat)
 case atStart=>exact⟨2,Nat.le_refl _,rfl,by omega,by simpa using Fd.out,Below.refl _ _⟩
 case round =>
 obtain⟨j,h2,rfl,hj,oG,hb⟩:=hrel
 by_cases zB:j<n
 ·have hn:=Dq.out;obtain⟨hA,un⟩:=Ay.out (by omega);have qP:=jh l j h2 (by omega);obtain⟨y1,y2,y3,y4,p0,p1,p2,p3,hy⟩:=un.get (j-2) (by omega);obtain⟨z1,z2,z3,z4,q0,q1,q2,q3,hz⟩:=un.get j (by omega);have eB:=hk.get (j-2) (by omega);have IU:=hk.get j (by omega);have JX:=KT.out (j-2) (by omega);have Pv:=KT.out j (by omega)
  generalize l[j-2]'(by omega)=y at *
  generalize l[j]'(by omega)=z at *
  have uZ:(0:Int)≤(j:Int)-2:=by omega
  have sZ:(j:Int)-2<(n:Int):=by omega
  have Rb:(2:Int)≤(j:Int):=by omega
  have sH:(j:Int)<(n:Int):=by omega
  subst hA;have oQ:=Hh qP;have cX:=Hh oG;have Lp:Hid (w.heap.size≤wr.heap.size):=hb.size;have vv:Holds wr H:=hH.below hb (Nat.le_refl _);have Lz:Holds wr.drew H:=vv.drew;have oS:IntKind.i64.wrap ((j:Int)-2)=(j:Int)-2:=IntWalk.i64_in _ (by omega);have sN:((j:Int)-2).toNat=j-2:=by omega
  clear qP oG hn un;go_wp2_with fail
  refine zj 12 (fun w'=>w'.cell? ⟨b,off+(j-2)*4,none⟩=some (.int .i64 y.kind)∧w'.cell? ⟨b,off+(j-2)*4+1,none⟩=some (.int .u64 y.n)∧w'.cell? ⟨b,off+(j-2)*4+2,none⟩=some (.slice y1 y.bytes.length y2)∧w'.cell? ⟨b,off+(j-2)*4+3,none⟩=some (.slice y3 y.items.length y4)∧w'.cell? ⟨b,off+j*4,none⟩=some (.int .i64 z.kind)∧w'.cell? ⟨b,off+j*4+1,none⟩=some (.int .u64 z.n)∧w'.cell? ⟨b,off+j*4+2,none⟩=some (.slice z1 z.bytes.length z2)∧w'.cell? ⟨b,off+j*4+3,none⟩=some (.slice z3 z.items.length z4)) (by kernel_rfl) (⟨vv.cell p0,vv.cell p1,vv.cell p2,vv.cell p3,vv.cell q0,vv.cell q1,vv.cell q2,vv.cell q3⟩) (fun zy=>?_)
  refine Tk 0 rfl zy ?_
  refine Tk 1 rfl zy ?_
  refine Tk 2 rfl zy ?_
  refine Tk 3 rfl zy ?_
  refine Tk 4 rfl zy ?_
  refine Tk 6 rfl zy ?_
  refine Tk 7 rfl zy ?_
  refine Tk 8 rfl zy ?_
  refine Tk 9 rfl zy ?_
  refine To 5 rfl fun K hK=>?_
  go_simp
  refine(qp y H _ _ _ _ _ _ _ _ _ w.heap.size (.slice none 0 0) [] eB hy.arg Lz (OwnB.nil _ _) Lp.out (by simp[Value.ownBlock]) (by simpa using JX)).mono ?_
  rintro e w1 ⟨r1,rfl,Ur,ww,I4⟩
  obtain⟨A1,c1,rfl,_,_,wu⟩:=Ur.form;have xR:=yr ww;have nA:Holds w1 H:=Lz.below xR (Nat.le_refl _);have qV:=xR.size
  simp only[List.nil_append]at Ur wu
  refine Ko hK ?_ fun zy=>?_
  ·exact⟨nA.cell p0,nA.cell p1,nA.cell p2,nA.cell p3,nA.cell q0,nA.cell q1,nA.cell q2,nA.cell q3⟩
  clear hK K
  refine To 10 rfl fun K hK=>?_
  go_simp
  refine(qp z H _ _ _ _ _ _ _ _ _ w.heap.size (.slice none 0 0) [] IU hz.arg nA (OwnB.nil _ _) (Nat.le_trans Lp.out qV) (by simp[Value.ownBlock]) (by simpa using Pv)).mono ?_
  rintro e w2 ⟨r2,rfl,Yx,xB,kH⟩
  obtain⟨A2,c2,rfl,_,_,kL⟩:=Yx.form;have zC:=yr xB;have nB:Holds w2 H:=nA.below zC (Nat.le_refl _)
  simp only[List.nil_append]at Yx kL
  refine Ko hK ?_ fun zy=>?_
  ·exact jcX
  clear hK K
  refine To 11 rfl fun K hK=>?_
  go_simp
  refine(rq _ _ _ (zf y) (zf z) _ _ _ _ (by simp) (by simp) (wu.below zC) kL).mono ?_
  rintro e w3 ⟨rfl,rfl⟩
  refine Ko hK ?_ fun zy=>?_
  ·exact jcX
  clear hK K
  refine To 12 rfl fun K hK=>?_
  go_simp
  refine Kz hK ?_
  clear hK K
  refine Wd ?_
  have iM:=hb.drew.trans ((xR.trans (zC.mono qV)).mono Lp.out);have pD:=Hh (And.intro oQ.out cX.out);clear oQ cX p0 p1 p2 p3 q0 q1 q2 q3 zy Ur Yx ww xB I4 kH wu kL
  generalize hcv:Lib.compareBytes (zf y) (zf z)=cv at *
  by_cases hc:(0:Int)≤cv
  ·have ha:ans=false:=by
    obtain⟨h1,h2⟩:=pD.out;rw[← h2,h1];have:¬ cv<0:=by omega
    simp[this]
   have GP:=Hh ha;clear ha;go_wp2
   go_ret
   exact⟨(by rw[GP.out];rfl),iM⟩
  have ha:xE (l.drop j)=ans:=by
   obtain⟨h1,h2⟩:=pD.out;rw[← h2,h1];have:cv<0:=by omega
   simp[this]
  have GP:=Hh ha;clear ha;go_wp2
  go_roundw
  case rel=>exact⟨j+2,by omega,by go_num,by omega,GP.out,iM⟩
  case measure=>simp[intOf];omega
 have hn:=Dq.out;have Fx:=Hh (aC l j h2 (by omega));have cX:=Hh oG;clear oG hn;go_wp2
 go_ret
 exact⟨(by rw[← cX.out,Fx.out];rfl),hb⟩
def gK (w:World) (g:Nat) (o:Option (Nat×Nat)) (e:Ending) (w':World):Prop :=
 e=.returned (.bool o.isSome)∧w.grownBy w' (some g)∧∃ i s:Int,Chk w' g i s∧∀ p,o=some p→i=(p.1:Int)∧s=(p.2:Int)
def fs (x:Itm):Prop:=∀ (H:Snap) (k n:Int) (ba:Option Addr) (bl bc:Nat) (ia:Option Addr) (il ic:Nat) (w:World) (g i s lv:Nat),
 Tabs H→ItemA H k n ba bl bc ia il ic x→Holds w H→H g=none→Chk w g i s→i≤256→s≤4096→lv≤8→
 Calls Tryz.prog 103 #[.pointer (some ⟨g,0,none⟩),.agg #[.int .i64 k,.int .u64 n,.slice ba bl bc,.slice ia il ic],.int .i64 (lv:Int)] w (gK w g (chk x lv i s))
theorem VL (x:Itm) (i s lv:Nat) (h:256<i+1∨4096<x.bytes.length∨256<x.items.length) {H:Snap}{ba:Option Addr}{bc:Nat}{ia:Option Addr}{ic:Nat}(hx:IsItem H ba bc ia ic x) (w:World) (g:Nat)
  (hc:Chk w g i s) (hi:i≤256):Calls Tryz.prog 103 #[.pointer (some ⟨g,0,none⟩),xx x ba bc ia ic,.int .i64 (lv:Int)] w (gK w g (chk x lv i s)):=by
 have E:Hid (chk x lv i s=none):=by rw[Hid,jy,if_pos h]
 obtain⟨_,_,_,xR,zC,sZ,sH⟩:=hx.bounds;have hb:x.bytes.length≤9223372036854775807:=by omega
 have tL:x.items.length≤9223372036854775807:=by omega
 have zB:=hc.lt;have c0:=hc.cell 0 rfl;have f0:=hc.frozen 0;have c00:=(hc.set_ 0 (.int .i64 ((i:Int)+1))).cell 0 rfl
 have R:=Hh (And.intro ((hc.set_ 0 (.int .i64 ((i:Int)+1))).alloc (.cells #[.int .i64 x.kind,.int .u64 x.n,.slice ba x.bytes.length bc,.slice ia x.items.length ic] 83))
  (vf (uW (yt w (some g)) (.inl (rfl:(⟨g,0,none⟩:Addr).block=g)) (.int .i64 ((i:Int)+1))) (.cells #[.int .i64 x.kind,.int .u64 x.n,.slice ba x.bytes.length bc,.slice ia x.items.length ic] 83)))
 have HH:=Hh h;clear hx xR zC sZ sH h;go_enter Tryz.func103,Tryz.ntmps103
 go_wp2_with fail
 all_goals first
  | (go_ret;exact⟨by rw[E.out];rfl,R.out.2,_,_,R.out.1,by rw[E.out];intro p hp;cases hp⟩)
  | (exfalso;have:=HH.out;omega)
abbrev oX (w:World) (g:Nat) (i:Int) (x:Itm) (ba:Option Addr) (bc:Nat) (ia:Option Addr) (ic:Nat):World :=
 (w.setCell ⟨g,0,none⟩ (.int .i64 i)).alloc (.cells #[.int .i64 x.kind,.int .u64 x.n,.slice ba x.bytes.length bc,.slice ia x.items.length ic] 83)
theorem Xp (x:Itm) (i s lv:Nat) (h1:i+1≤256) (h2:x.bytes.length≤4096) (h3:x.items.length≤256) (hp:yx x=true) {H:Snap}(hT:Tabs H) {ba:Option Addr}{bc:Nat}{ia:Option Addr}{ic:Nat}(hx:IsItem H ba bc ia ic x)
  (w:World) (hH:Holds w H) (g:Nat) (hg:H g=none) (hc:Chk w g i s) (hs:s≤4096) :
  Calls Tryz.prog 103 #[.pointer (some ⟨g,0,none⟩),xx x ba bc ia ic,.int .i64 (lv:Int)] w (gK w g (chk x lv i s)):=by
 have E:Hid (chk x lv i s=if zH x=true∧s+zI x≤4096 then some (i+1,s+zI x) else none):=by rw[Hid,jy,if_neg (by omega),if_pos hp]
 have hk:=(zP x).1 hp;have sL:0≤x.kind:=by omega
 have Ui:x.kind≤8:=by omega
 obtain⟨zB,c0,f0,c00,iJ⟩:=jge
 have y8:Blk (oX w g ((i:Int)+1) x ba bc ia ic) w.heap.size 83 #[.int .i64 x.kind,.int .u64 x.n,.slice ba x.bytes.length bc,.slice ia x.items.length ic]:=by
  exact jaX
 obtain⟨xg,nA⟩:=jf3;clear hk;have ZF:=hx.arg;clear hx;go_enter Tryz.func103,Tryz.ntmps103
 go_wp2_with fail
 refine(lm hT ZF _ nA).mono ?_
 rintro e w2 ⟨rfl,zC⟩
 have ew:=iJ.below zC;have yT:=y8.below zC;have zM:=wX xg zC;obtain⟨b0,b1,b2,b3⟩:=jg1
 by_cases ho:zH x=true
 ·go_wp2_with fail
  refine(fP ZF w2 g ((i:Int)+1) s ew sL Ui (by omega) (by omega) (by omega)).mono ?_
  rintro e w3 ⟨rfl,Mw,yY⟩
  have R:=Hh (And.intro (yu zM yY (.inl rfl)) Mw);clear c0 f0 c00 iJ y8 xg nA ew yT zM b0 b1 b2 b3 Mw yY;go_wp2_with fail
  go_ret
  refine⟨?_,R.out.1,_,_,R.out.2, ?_⟩
  ·rw[E.out]
   by_cases xO:s+zI x≤4096
   ·rw[if_pos ⟨ho,xO⟩,show decide ((s:Int)+(zI x:Int)≤4096)=true by simp;omega];rfl
   rw[if_neg (fun h=>xO h.2),show decide ((s:Int)+(zI x:Int)≤4096)=false by simp;omega];rfl
  intro p hp
  rw[E.out]at hp
  split at hp
  ·injection hp with hp
   subst hp
   exact⟨by simp,by simp⟩
  cases hp
 have D3:zH x=false:=by simpa using ho
 clear ho;have R:=Hh (And.intro zM ew);clear c0 f0 c00 iJ y8 xg nA ew yT zM b0 b1 b2 b3;go_wp2_with fail
 go_ret
 have e0:chk x lv i s=none:=by rw[E.out,if_neg (fun h=>by rw[D3]at h;cases h.1)]
 exact jdC
theorem Xo (x:Itm) (i s lv:Nat) (h1:i+1≤256) (h2:x.bytes.length≤4096) (h3:x.items.length≤256) (hp:yx x=false) (hf:vl x lv=false) {H:Snap}(hT:Tabs H) {ba:Option Addr}{bc:Nat}{ia:Option Addr}{ic:Nat}(hx:IsItem H ba bc ia ic x)
  (w:World) (hH:Holds w H) (g:Nat) (hg:H g=none) (hc:Chk w g i s) (hs:s≤4096) (hlv:lv≤8) :
  Calls Tryz.prog 103 #[.pointer (some ⟨g,0,none⟩),xx x ba bc ia ic,.int .i64 (lv:Int)] w (gK w g (chk x lv i s)):=by
 have E:Hid (chk x lv i s=none):=by rw[Hid,jy,if_neg (by omega),if_neg (by simp[hp]),if_pos hf]
 obtain⟨zB,c0,f0,c00,iJ⟩:=jge
 have y8:Blk (oX w g ((i:Int)+1) x ba bc ia ic) w.heap.size 83 #[.int .i64 x.kind,.int .u64 x.n,.slice ba x.bytes.length bc,.slice ia x.items.length ic]:=by
  exact jaX
 obtain⟨xg,nA⟩:=jf3;have ZF:=hx.arg;have HF:=Hh hf;clear hx hf;go_enter Tryz.func103,Tryz.ntmps103
 go_wp2_with fail
 refine(lm hT ZF _ nA).mono ?_
 rintro e w2 ⟨rfl,zC⟩
 have ew:=iJ.below zC;have yT:=y8.below zC;have R:=Hh (And.intro (wX xg zC) ew);obtain⟨b0,b1,b2,b3⟩:=jg1;clear c0 f0 c00 iJ y8 xg nA ew yT zC;go_wp2_with fail
 all_goals first
  | (go_ret;exact⟨by rw[E.out];rfl,R.out.1,_,_,R.out.2,by rw[E.out];intro p hp;cases hp⟩)
  | skip
 all_goals try simp only[beq_eq_false_iff_ne,ne_eq]at *
 all_goals exact absurd (show _∧_∧_∧_∧_∧_∧_ from⟨by omega,by omega,by omega,by omega,fun _=>by omega,fun _=>by omega,fun _=>by omega⟩) (of_decide_eq_false HF.out)
theorem VM (x:Itm) (ih:∀ y:Itm,cnt y<cnt x→fs y) (i s lv:Nat) (h1:i+1≤256) (h2:x.bytes.length≤4096) (h3:x.items.length≤256) (hp:yx x=false) (hf:vl x lv=true) {H:Snap}(hT:Tabs H) {ba:Option Addr}{bc:Nat}{ia:Option Addr}{ic:Nat}(hx:IsItem H ba bc ia ic x)
  (w:World) (hH:Holds w H) (g:Nat) (hg:H g=none) (hc:Chk w g i s) (hs:s≤4096) :
  Calls Tryz.prog 103 #[.pointer (some ⟨g,0,none⟩),xx x ba bc ia ic,.int .i64 (lv:Int)] w (gK w g (chk x lv i s)):=by
 have E:Hid (chk x lv i s=if 4096<s+zI x then none else match qy x.items (lv+1) (i+1) (s+zI x) with | none=>none | some p=>if x.kind=5∧xE x.items=false then none else some p):=by
  rw[Hid,jy,if_neg (by omega),if_neg (by simp[hp]),if_neg (by simp[hf])];rfl
 obtain⟨Ug,NH,LM,jf,oM,yj,ir⟩:=xH hf;have AY:(x.bytes.length:Int)≤0:=by omega
 obtain⟨zB,c0,f0,c00,iJ⟩:=jge
 have y8:Blk (oX w g ((i:Int)+1) x ba bc ia ic) w.heap.size 83 #[.int .i64 x.kind,.int .u64 x.n,.slice ba x.bytes.length bc,.slice ia x.items.length ic]:=by
  exact jaX
 obtain⟨xg,nA⟩:=jf3;have ZF:=hx.arg
 have tests:((x.kind==6)=true∧(x.kind==5)=false∧(x.kind != 5)=true∧(x.kind != 6)=false∧(x.items.length:Int)≤1∧1≤(x.items.length:Int)∧Hid (¬ x.kind=5))∨
   ((x.kind==6)=false∧(x.kind != 6)=true∧(x.n:Int)≤0∧(x.kind==5)=true∧(x.kind != 5)=false∧((x.items.length:Int)%2==1)=false∧Hid (x.kind=5))∨
   ((x.kind==6)=false∧(x.kind != 6)=true∧(x.n:Int)≤0∧(x.kind==5)=false∧(x.kind != 5)=true∧True∧Hid (¬ x.kind=5)):=by
  rcases(by omega:x.kind=6∨x.kind=5∨x.kind=4) with h | h | h
  ·have:=oM h
   exact .inl ⟨by simp[h],by simp[h],by simp[h],by simp[h],by omega,by omega,by rw[Hid];omega⟩
  ·have:=yj (by omega);have h2:=ir h
   exact .inr (.inl ⟨by simp[h],by simp[h],by omega,by simp[h],by simp[h],by simp;omega,h⟩)
  have:=yj (by omega)
  exact .inr (.inr ⟨by simp[h],by simp[h],by omega,by simp[h],by simp[h],trivial,by rw[Hid];omega⟩)
 have HX:=Hh hx;clear hx hf oM yj ir jf;have TT:=Hh tests;clear tests;go_enter Tryz.func103,Tryz.ntmps103
 go_wp2_with fail
 refine(lm hT ZF _ nA).mono ?_
 rintro e w2 ⟨rfl,zC⟩
 have ew:=iJ.below zC;have yT:=y8.below zC;have zM:=wX xg zC;obtain⟨b0,b1,b2,b3⟩:=jg1;go_upto_region 9 with fail
 go_cut [95] (fun s95 wx=>s95=.bool false∧w2=wx)
 case first =>
  rcases TT.out with ⟨t1,t2,t3,t4,t5,t6,t7⟩ | ⟨t1,t2,t3,t4,t5,t6,t7⟩ | ⟨t1,t2,t3,t4,t5,t6,t7⟩
  all_goals
   go_wp2_with fail
   go_meet
   exact⟨rfl,rfl⟩
 case rest =>
 obtain⟨rfl,rfl⟩:=hcut;go_wp2_with fail
 refine(fP ZF _ g ((i:Int)+1) s ew (by omega) (by omega) (by omega) (by omega) (by omega)).mono ?_
 rintro e w3 ⟨rfl,Mw,yY⟩
 have vL:=yT.grown yY (by simp;omega);have d0:=vL.cell 0 rfl;have d3:=vL.cell 3 rfl;clear b0 b1 b2 b3
 by_cases xO:s+zI x≤4096
 ·have L7:decide ((s:Int)+(zI x:Int)≤4096)=true:=by simp;omega
  go_wp2_with fail
  have E2:Hid (chk x lv i s=match qy x.items (lv+1) (i+1) (s+zI x) with | none=>none | some p=>if x.kind=5∧xE x.items=false then none else some p):=by
   rw[Hid,E.out,if_neg (by omega)]
  have Ob:=Hh (yu zM yY (.inl rfl));have S3:w.heap.size<w3.heap.size:=vL.lt;have Pi:Holds w3 H:=(nA.below zC (Nat.le_refl _)).grown yY (fun g' h=>by injection h with h;subst h;exact hg);clear iJ y8 xg nA ew yT zM c0 f0 c00 E L7 zC yY;go_loopw [103] (fun vi wr=>∃ (k:Nat) (p:Nat×Nat),k≤x.items.length∧vi=.int .i64 k∧Hid (qy (x.items.drop k) (lv+1) p.1 p.2=qy x.items (lv+1) (i+1) (s+zI x))∧p.1≤256∧p.2≤4096∧Chk wr g p.1 p.2∧w3.grownBy wr (some g)) (fun vi _=>x.items.length-(intOf vi).toNat)
  case atStart=>exact⟨0,(i+1,s+zI x),Nat.zero_le _,rfl,by simp[Hid],by omega,xO,by simpa using Mw,yt _ _⟩
  case round =>
  obtain⟨k,p,hk,rfl,td,Jb,qU,Mx,pN⟩:=hrel;have vv:Holds wr H:=Pi.grown pN (fun g' h=>by injection h with h;subst h;exact hg)
  by_cases zB:k<x.items.length
  ·obtain⟨ib,io,pf,un⟩:=HX.out.items (by omega);obtain⟨eba,ebc,eia,eic,q0,q1,q2,q3,rx⟩:=un.get k zB;subst pf;have xF:(x.items.length:Int)≤256:=by omega
   have p0:=vv.cell q0;have p1:=vv.cell q1;have p2:=vv.cell q2;have p3:=vv.cell q3;have PS:x.items.drop k=x.items[k]::x.items.drop (k+1):=List.drop_eq_getElem_cons zB
   have IHH:=Hh (ih x.items[k] (ui x k zB) H _ _ eba _ ebc eia _ eic (wr.alloc (.cells #[.int .i64 x.items[k].kind,.int .u64 x.items[k].n,.slice eba x.items[k].bytes.length ebc,.slice eia x.items[k].items.length eic] 83)) g p.1 p.2 (lv+1)
    hT rx.arg (vv.alloc _) hg (Mx.alloc _) Jb qU (by omega))
   have HD:=Hh PS;have Yg:((lv+1:Nat):Int)=(lv:Int)+1:=by omega
   rw[Yg]at IHH;clear PS q0 q1 q2 q3 un d0 d3 Yg;go_wp2_with fail
   refine IHH.out.mono ?_
   rintro e w4 ⟨rfl,xj,i4,s4,Hp,RV⟩
   have xT:=yu (vf pN (.cells #[.int .i64 x.items[k].kind,.int .u64 x.items[k].n,.slice eba x.items[k].bytes.length ebc,.slice eia x.items[k].items.length eic] 83)) xj (.inl rfl)
   cases hq:chk x.items[k] (lv+1) p.1 p.2 with
   | none =>
    have e0:Hid (chk x lv i s=none):=by
     rw[Hid,E2.out,← td.out,HD.out,qy,hq]
    have R:=Hh (And.intro (yu Ob.out xT (.inl rfl)) Hp);clear hq RV p0 p1 p2 p3 IHH Mx pN xj xT Hp;go_wp2_with fail
    go_ret
    exact⟨by rw[e0.out];rfl,R.out.1,_,_,R.out.2,by rw[e0.out];intro p hp;cases hp⟩
   | some p' =>
   obtain⟨rfl,rfl⟩:=RV p' hq;obtain⟨_,_,FE,MX⟩:=fw _ _ _ _ _ hq
   have hn:Hid (qy (x.items.drop (k+1)) (lv+1) p'.1 p'.2=qy x.items (lv+1) (i+1) (s+zI x)):=by
    rw[Hid,← td.out,HD.out,qy,hq]
   clear hq RV p0 p1 p2 p3 IHH Mx pN xj HD td;go_wp2_with fail
   go_roundw
   case rel=>exact⟨k+1,p',by omega,by go_num,hn,FE,MX,Hp,xT⟩
   case measure=>simp[intOf];omega
  have tF:k=x.items.length:=by omega
  subst tF
  have pt:Hid (qy x.items (lv+1) (i+1) (s+zI x)=some p):=by
   rw[Hid,← td.out,List.drop_length,qy]
  have eu:=vL.grown pN (by simp;omega);have d0:=eu.cell 0 rfl;have d3:=eu.cell 3 rfl;have US:=Hh (yu Ob.out pN (.inl rfl));clear td
  rcases TT.out with ⟨t1,t2,t3,t4,t5,t6,t7⟩ | ⟨t1,t2,t3,t4,t5,t6,t7⟩ | ⟨t1,t2,t3,t4,t5,t6,t7⟩
  ·clear t1 t2 t4 t5 t6;exact jbI
  ·clear t1 t2 t3 t4 t6;obtain⟨hK,uT,_,MX⟩:=jj _ _ _ _ _ pt.out h1 xO;have Cr:(zG x.items).length≤4096:=by rw[uT]at MX;simp only at MX;omega
   have xF:∀ k (h:k<x.items.length),(zf x.items[k]).length≤1099511627776:=by
    intro k hk
    have a1:=uG x.items k hk;have a2:=oe x.items (k+1);rw[a1]at a2
    simp only[List.length_append]at a2
    omega
   have CN:∃ b off,0<x.items.length→ia=some ⟨b,off,none⟩∧IsElems H b off x.items:=by
    by_cases h0:0<x.items.length
    ·obtain⟨ib,io,pf,un⟩:=HX.out.items h0
     exact⟨ib,io,fun _=>⟨pf,un⟩⟩
    exact⟨0,0,fun h=>absurd h h0⟩
   obtain⟨ib,io,hA⟩:=CN;have ASC:=Hh (fC x.items ib io ia ic wr hA vv hK xF x.items.length rfl (by omega));clear hA xF Cr uT MX hK;go_wp2_with fail
   refine ASC.out.mono ?_
   rintro e w5 ⟨rfl,qe⟩
   have R:=Hh (And.intro (wX US.out qe) (Mx.below qe))
   cases oG:xE x.items with
   | true =>
    have e0:Hid (chk x lv i s=some p):=by
     rw[Hid,E2.out,pt.out]
     simp only[oG,Bool.true_eq_false,and_false,if_false]
    clear ASC oG;go_wp2_with fail
    go_ret
    exact⟨by rw[e0.out];rfl,R.out.1,_,_,R.out.2,by rw[e0.out];intro p' ej;injection ej with ej;subst ej;exact⟨rfl,rfl⟩⟩
   | false =>
   have e0:Hid (chk x lv i s=none):=by
    rw[Hid,E2.out,pt.out]
    simp only[oG,t7.out,and_self,if_true]
   clear ASC oG;go_wp2_with fail
   go_ret
   exact⟨by rw[e0.out];rfl,R.out.1,_,_,R.out.2,by rw[e0.out];intro p' ej;cases ej⟩
  clear t1 t2 t3 t4;exact jbI
 have L7:decide ((s:Int)+(zI x:Int)≤4096)=false:=by simp;omega
 have R:=Hh (And.intro (yu zM yY (.inl rfl)) Mw);clear iJ y8 xg nA ew yT zM Mw yY vL d0 d3 c0 f0 c00;go_wp2_with fail
 go_ret
 have e0:chk x lv i s=none:=by rw[E.out,if_pos (by omega)]
 exact jdC
theorem ItemA.eqs {H:Snap}{k n:Int}{ba:Option Addr}{bl bc:Nat}{ia:Option Addr}{il ic:Nat}{x:Itm}(h:ItemA H k n ba bl bc ia il ic x):k=x.kind∧n=(x.n:Int)∧bl=x.bytes.length∧il=x.items.length∧IsItem H ba bc ia ic x:=⟨h.1,h.2,h.3,h.4,h.5⟩
theorem V4 (x:Itm):fs x:=by
 have main:∀ N,∀ x:Itm,cnt x≤N→fs x:=by
  intro N
  induction N with
  | zero =>
   exact jbq
  | succ N ih =>
  intro x hx H k n ba bl bc ia il ic w g i s lv hT ha hH hg hc hi hs hlv
  obtain⟨rfl,rfl,rfl,rfl,nE⟩:=ha.eqs
  by_cases h0:256<i+1∨4096<x.bytes.length∨256<x.items.length
  ·exact VL x i s lv h0 nE w g hc hi
  by_cases hp:yx x=true
  ·exact Xp x i s lv (by omega) (by omega) (by omega) hp hT nE w hH g hg hc hs
  have ej:yx x=false:=by simpa using hp
  by_cases hf:vl x lv=true
  ·exact VM x (fun y hy=>ih y (by omega)) i s lv (by omega) (by omega) (by omega) ej hf hT nE w hH g hg hc hs
  exact Xo x i s lv (by omega) (by omega) (by omega) ej (by simpa using hf) hT nE w hH g hg hc hs hlv
 exact jcq
theorem tG {H:Snap}(hT:Tabs H) {k n:Int}{ba:Option Addr}{bl bc:Nat}{ia:Option Addr}{il ic:Nat}{x:Itm}(hx:ItemA H k n ba bl bc ia il ic x) (w:World) (hH:Holds w H) :
  Calls Tryz.prog 81 #[.agg #[.int .i64 k,.int .u64 n,.slice ba bl bc,.slice ia il ic]] w fun e w'=>e=.returned (.bool (zR x))∧Below w.heap.size w w':=by
 have W1:=fun w1:World=>fun h1:Holds w1 H=>fun hg=>fun hc=>(V4 x) H k n ba bl bc ia il ic w1 (w.heap.size+1) 0 0 0 hT hx h1 hg hc (by omega) (by omega) (by omega)
 have nB:=(hH.alloc (.cells #[.int .i64 k,.int .u64 n,.slice ba bl bc,.slice ia il ic] 83))
 have xB:H (w.heap.size+1)=none:=hH.none_of_ge (by omega);have hC:=Blk.new (w.alloc (.cells #[.int .i64 k,.int .u64 n,.slice ba bl bc,.slice ia il ic] 83)) 141 #[.int .i64 0,.int .i64 0];rw[show(w.alloc (.cells #[.int .i64 k,.int .u64 n,.slice ba bl bc,.slice ia il ic] 83)).heap.size=w.heap.size+1 by simp]at hC;have I:=Hh (W1 _ (nB.alloc (.cells #[.int .i64 0,.int .i64 0] 141)) xB hC);have B2:=Hh ((zm w (.cells #[.int .i64 k,.int .u64 n,.slice ba bl bc,.slice ia il ic] 83)).alloc (by simp) (.cells #[.int .i64 0,.int .i64 0] 141));clear W1 nB xB hC hx;go_enter Tryz.func81,Tryz.ntmps81
 go_wp2_with fail
 refine I.out.mono ?_
 rintro e w2 ⟨rfl,hG,_⟩
 go_wp2_with fail
 go_ret
 exact⟨rfl,yi B2.out hG (by simp)⟩
theorem Snap.with_ne (H:Snap) {g b:Nat}(o:Obj) (h:b≠g):(H.with g o) b=H b:=by simp[Snap.with,h]
theorem kO {w:World}{ops:Array Oper}{rest:List Oper}{o:Oper}{a:Act}{Q:Exit→Act→World→Prop}
  (hg:o.guard=none) (l c:Operand) (hop:o.op=Op.makeSlice 81 l c)
  (kl kc:IntKind) (L C:Int) (n:Nat) (hl:a.eval l=.int kl L) (hc:a.eval c=.int kc C) (hL:L=(n:Int)) (hC:C=(n:Int)) (b2:n≤1099511627776) (g:Nat) (zS:w.heap.size=g)
  (hK:∀ w' cs,Blk w' g 83 cs→cs.size=n*4→Below w.heap.size w w'→wpList Tryz.prog ops Q rest (a.put o.dst (.slice (some ⟨g,0,none⟩) n n)) w') :
  wpList Tryz.prog ops Q (o::rest) a w:=by
 subst zS;obtain⟨i0,uZ,bh,qV,q9⟩:=info_parts jk
 refine wpList_make_full w hg l c _ hop w.heap.size 83 i0 _ 4 Tryz.underlying81 uZ bh qV kl kc L C n hl hc hL hC (by rw[q9];omega) (by simp only[maxLen];omega) (Nat.le_refl _) fun w' h1 h2=>?_
 rcases h1.2 with ⟨hv,_⟩ | ⟨g,cap,cur,hv,_,hg,_,_,hs,_⟩
 ·cases hv
 cases hv
 exact hK w' cur hg hs (yr h2)
def oh (x:Itm):Prop:=∀ (H:Snap) (k n:Int) (ba:Option Addr) (bl bc:Nat) (ia:Option Addr) (il ic:Nat) (w:World),
 Modest x→ItemA H k n ba bl bc ia il ic x→Holds w H→
 Calls Tryz.prog 84 #[.agg #[.int .i64 k,.int .u64 n,.slice ba bl bc,.slice ia il ic]] w fun e w'=>∃ v,e=.returned v∧Gives w H x v w'
theorem ZN (x:Itm) (ih:∀ y:Itm,cnt y<cnt x→oh y):oh x:=by
 intro H k n ba bl bc ia il ic w hm hx hH
 obtain⟨rfl,rfl,rfl,rfl,nE⟩:=hx.eqs;obtain⟨pP,ir,JY⟩:=hm.parts;have HX:=Hh nE;have Wc:=Hh nE.bounds;have C:=Hh (vC ((w.alloc (.cells #[.int .i64 x.kind,.int .u64 x.n,.slice ba x.bytes.length bc,.slice ia x.items.length ic] 83)).alloc (.cells #[.int .i64 0,.int .u64 0,.slice none 0 0,.slice none 0 0] 83)) ba x.bytes x.bytes.length bc rfl pP (((Src.of_row nE.bytes.row hH).alloc _).alloc _));have y8:=(Blk.new w 83 #[.int .i64 x.kind,.int .u64 x.n,.slice ba x.bytes.length bc,.slice ia x.items.length ic]).alloc (.cells #[.int .i64 0,.int .u64 0,.slice none 0 0,.slice none 0 0] 83);have yT:=Blk.new (w.alloc (.cells #[.int .i64 x.kind,.int .u64 x.n,.slice ba x.bytes.length bc,.slice ia x.items.length ic] 83)) 83 #[.int .i64 0,.int .u64 0,.slice none 0 0,.slice none 0 0];rw[show(w.alloc (.cells #[.int .i64 x.kind,.int .u64 x.n,.slice ba x.bytes.length bc,.slice ia x.items.length ic] 83)).heap.size=w.heap.size+1 by simp]at yT
 clear hx hm nE pP;go_enter Tryz.func84,Tryz.ntmps84
 go_wp2_with fail
 refine C.out.mono ?_
 rintro e w1 ⟨r,rfl,hf⟩
 obtain⟨A',c',rfl,_⟩:=hf.own.form;obtain⟨H1,xg,Uo,_⟩:=hf.snapB ((hH.alloc _).alloc _);have Kx:H1 w.heap.size=none:=xg.none (hH.none_of_ge (Nat.le_refl _)) (by simp;omega);have Fq:H1 (w.heap.size+1)=none:=xg.none (hH.none_of_ge (by omega)) (by simp);have xg:=(((Grows.refl hH).alloc _).alloc _).trans xg;have y8:=y8.below hf.2;have yT:=yT.below hf.2;have b2:=y8.cell 2 rfl;have f2:=y8.frozen 2;have y8:=y8.set_ 2 (.slice A' x.bytes.length c');have b3:=y8.cell 3 rfl;have oS:w.heap.size+2≤w1.heap.size:=by have:=hf.2.size;simp at this;omega
 go_wp2_with (at_make;refine yq ?_)
 refine kO rfl _ _ rfl .i64 .i64 _ _ x.items.length rfl rfl rfl rfl ir w1.heap.size (by simp[World.setCell]) fun w2 cs oV hcz zC=>?_
 have Cu:H1 w1.heap.size=none:=xg.hidden (Nat.le_refl _);have zM:Grows w H w2 H1:=(xg.setOwn Kx (Nat.le_refl _) 2 (.slice A' x.bytes.length c')).below_ zC;have yT:=(yT.far (p:=⟨w.heap.size,2,none⟩) (by simp) (.slice A' x.bytes.length c')).below zC;have y8:=y8.below zC;have sN:w1.heap.size<w2.heap.size:=oV.lt;have c3:=y8.cell 3 rfl;have GY:=Hh zM;have qZ:=xg.le;clear hf C b2 f2 b3 zC;go_upto_region 4 with fail
 go_loopw [17] (fun vi wr=>∃ (k:Nat) (Hr:Snap) (cr:Array Value) (pre:List Value),k≤x.items.length∧vi=.int .i64 k∧Grows w H wr Hr∧H1.le Hr∧Hr w.heap.size=none∧Hr (w.heap.size+1)=none∧Hr w1.heap.size=none∧
  Blk wr w.heap.size 83 #[.int .i64 x.kind,.int .u64 x.n,.slice A' x.bytes.length c',.slice ia x.items.length ic]∧Blk wr (w.heap.size+1) 83 #[.int .i64 0,.int .u64 0,.slice none 0 0,.slice none 0 0]∧
  Blk wr w1.heap.size 83 cr∧cr.size=x.items.length*4∧ItemsC Hr pre (x.items.take k)∧cr.toList.take (k*4)=pre) (fun vi _=>x.items.length-(intOf vi).toNat)
 case atStart=>exact⟨0,H1,cs,[],Nat.zero_le _,rfl,GY.out,Snap.le.refl _,Kx,Fq,Cu,y8,yT,oV,hcz,by simp[ItemsC],by simp⟩
 case round =>
 obtain⟨k,Hr,cr,pre,hk,rfl,pN,Uj,pz,rY,Ja,iJ,ew,Lx,Fv,UD,mw⟩:=hrel
 by_cases zB:k<x.items.length
 ·obtain⟨ib,io,pf,un⟩:=HX.out.items (by omega);obtain⟨eba,ebc,eia,eic,q0,q1,q2,q3,rx⟩:=un.get k zB;subst pf;have M3:=pN.holds.mono pN.le;have p0:=M3.cell q0;have p1:=M3.cell q1;have p2:=M3.cell q2;have p3:=M3.cell q3;have IH:=Hh (ih x.items[k] (ui x k zB) Hr _ _ eba _ ebc eia _ eic (wr.alloc (.cells #[.int .i64 x.items[k].kind,.int .u64 x.items[k].n,.slice eba x.items[k].bytes.length ebc,.slice eia x.items[k].items.length eic] 83)) (JY.get k zB) (rx.mono pN.le).arg (pN.holds.alloc _));clear q0 q1 q2 q3 un rx M3;go_wp2_with fail
  refine IH.out.mono ?_
  rintro e w3 ⟨v,rfl,rba,rbc,ria,ric,Hs,rfl,yY,IL⟩
  have xj:=(pN.alloc (.cells #[.int .i64 x.items[k].kind,.int .u64 x.items[k].n,.slice eba x.items[k].bytes.length ebc,.slice eia x.items[k].items.length eic] 83)).trans yY;have Ru:=(iJ.alloc (.cells #[.int .i64 x.items[k].kind,.int .u64 x.items[k].n,.slice eba x.items[k].bytes.length ebc,.slice eia x.items[k].items.length eic] 83)).below yY.below;have UR:=(ew.alloc (.cells #[.int .i64 x.items[k].kind,.int .u64 x.items[k].n,.slice eba x.items[k].bytes.length ebc,.slice eia x.items[k].items.length eic] 83)).below yY.below;have EV:=(Lx.alloc (.cells #[.int .i64 x.items[k].kind,.int .u64 x.items[k].n,.slice eba x.items[k].bytes.length ebc,.slice eia x.items[k].items.length eic] 83)).below yY.below;have G9:=yY.none pz (by have:=iJ.lt;simp;omega);have GB:=yY.none rY (by have:=ew.lt;simp;omega);have LN:=yY.none Ja (by have:=Lx.lt;simp;omega)
  have Jw:ItemsC Hs (pre++ze x.items[k] rba rbc ria ric) (x.items.take (k+1)):=by
   rw[List.take_succ_eq_append_getElem zB]
   exact(UD.mono yY.le).app (ItemsC.one IL)
  have G6:=Uj.trans yY.le;have R7:=Hh mw;clear p0 p1 p2 p3 IH iJ ew Lx UD pN yY mw;go_wp2_with (with_reducible refine zx ?_)
  refine ts rfl _ _ _ rfl rfl w1.heap.size (k*4) _ rfl rfl _ _ EV zt (by show k*4+4≤cr.size;omega) (rU _ _ _ _ rfl rfl rfl rfl) fun w4 hDg4 rW=>?_
  have xT:=xj.grownOwn LN (by omega) rW;have Ru:=Ru.grown rW (by simp;omega);have UR:=UR.grown rW (by simp;omega);have fB:(oI cr (k*4) (ze x.items[k] rba rbc ria ric)).size=x.items.length*4:=by rw[jt];exact Fv
  have NP:(oI cr (k*4) (ze x.items[k] rba rbc ria ric)).toList.take ((k+1)*4)=pre++ze x.items[k] rba rbc ria ric:=by
   rw[show(k+1)*4=k*4+(ze x.items[k] rba rbc ria ric).length by simp[ze];omega,Vh _ _ _ (by simp[ze];omega),R7.out]
  have Ul:=Hh NP;clear NP xj EV;go_wp2_with fail
  go_roundw
  case rel=>exact⟨k+1,Hs,_,_,by omega,by go_num,xT,G6,G9,GB,LN,Ru,UR,hDg4,fB,Jw,Ul.out⟩
  case measure=>simp[intOf];omega
 have tF:k=x.items.length:=by omega
 subst tF;rw[List.take_length]at UD;have R7:=Hh mw;clear mw;have hF:=pN.withOwn Ja (by omega) Lx;have hK:=Uj.trans (Snap.le_with Ja (o:=.cells cr 83 (0,0)));have LR:(Hr.with w1.heap.size (.cells cr 83 (0,0))) (w.heap.size+1)=none:=by rw[Snap.with_ne _ _ (by omega)];exact rY
 have LQ:(Hr.with w1.heap.size (.cells cr 83 (0,0))) w.heap.size=none:=by rw[Snap.with_ne _ _ (by omega)];exact pz
 have Ni:IsElems (Hr.with w1.heap.size (.cells cr 83 (0,0))) w1.heap.size 0 x.items :=
  (UD.mono (Snap.le_with Ja)).elems (Blk.cellsAt _ rfl pre (by rw[UD.len];exact R7.out))
 have L0:=Uo.mono hK;have fB:w.heap.size<wr.heap.size:=iJ.lt;clear Lx;go_wp2_with (with_reducible refine zx ?_)
 refine zu rfl _ _ _ rfl rfl w.heap.size 3 _ rfl rfl _ _ iJ xJ (by simp) rfl fun w4 hE1 rW=>?_
 have EW:=ew.grown rW (by simp);have JC:=hF.grownOwn LQ (Nat.le_refl _) rW;clear iJ ew
 by_cases h0:x.items.length=0
 ·have bA:IsItem (Hr.with w1.heap.size (.cells cr 83 (0,0))) A' c' none 0 x:=by
   obtain⟨z1,z2,z3,_⟩:=Wc.out
   cases x
   rw[IsItem]
   exact⟨⟨z1,z2,z3,Nat.le_of_eq h0,by omega⟩,L0,fun h=>absurd h (by simp[Itm.items]at h0;simp[h0])⟩
  have HI:=Hh bA;have Bq:(x.items.length:Int)=0:=by omega
  have Aq:=Hh h0;clear h0 bA;go_wp2_with (with_reducible refine zx ?_)
  refine zu rfl _ _ _ rfl rfl w.heap.size 3 _ rfl rfl _ _ hE1 xJ (by simp) rfl fun w5 hF1 te=>?_
  have CU:=EW.grown te (by simp);have JC:=JC.grownOwn LQ (Nat.le_refl _) te;have i0:=hF1.cell 0 rfl;have i1:=hF1.cell 1 rfl;have i2:=hF1.cell 2 rfl;have i3:=hF1.cell 3 rfl;go_wp2_with (with_reducible refine zx ?_)
  refine stI CU fun w6 hJ2 tg=>?_
  go_wp2_with fail
  refine vo rfl rfl hJ2 rfl rfl zt rfl ?_
  exact⟨_,rfl,A',c',none,0,_,by simp[xx,Aq.out],JC.grownOwn LR (by omega) tg,HI.out⟩
 have bA:IsItem (Hr.with w1.heap.size (.cells cr 83 (0,0))) A' c' (some ⟨w1.heap.size,0,none⟩) x.items.length x:=by
  obtain⟨z1,z2,z3,z4,z5,z6,z7⟩:=Wc.out
  cases x
  rw[IsItem]
  exact⟨⟨z1,z2,z3,Nat.le_refl _,by simp only[Itm.items]at z6⊢;omega⟩,L0,fun h=>⟨_,_,rfl,Ni⟩⟩
 have HI:=Hh bA;have Bq:((x.items.length:Int)==0)=false:=by rw[beq_eq_false_iff_ne];omega
 clear h0 bA;have i0:=hE1.cell 0 rfl;have i1:=hE1.cell 1 rfl;have i2:=hE1.cell 2 rfl;have i3:=hE1.cell 3 rfl;go_wp2_with (with_reducible refine zx ?_)
 refine stI EW fun w6 hJ2 tg=>?_
 go_wp2_with fail
 refine vo rfl rfl hJ2 rfl rfl zt rfl ?_
 exact⟨_,rfl,A',c',_,_,_,rfl,JC.grownOwn LR (by omega) tg,HI.out⟩
theorem j6 (x:Itm):oh x:=by
 have main:∀ N,∀ x:Itm,cnt x≤N→oh x:=by
  intro N
  induction N with
  | zero =>
   exact jbq
  | succ N ih=>exact fun x hx=>ZN x fun y hy=>ih y (by omega)
 exact jcq
theorem nH {H:Snap}(hT:Tabs H) {k n:Int}{ba:Option Addr}{bl bc:Nat}{ia:Option Addr}{il ic:Nat}{x:Itm}(hx:ItemA H k n ba bl bc ia il ic x)
  {k' n':Int} {ba':Option Addr} {bl' bc':Nat} {ia':Option Addr} {il' ic':Nat} {y:Itm} (hy:ItemA H k' n' ba' bl' bc' ia' il' ic' y) (w:World) (hH:Holds w H) :
  Calls Tryz.prog 65 #[.agg #[.int .i64 k,.int .u64 n,.slice ba bl bc,.slice ia il ic],.agg #[.int .i64 k',.int .u64 n',.slice ba' bl' bc',.slice ia' il' ic']] w
   fun e w'=>∃ v,e=.returned (.tuple #[v,.bool (vt x y).isSome])∧Gives w H ((vt x y).getD zQ) v w':=by
 obtain⟨rfl,rfl,rfl,rfl,nE⟩:=hx.eqs;obtain⟨rfl,rfl,rfl,rfl,Q4⟩:=hy.eqs;have HX:=Hh nE;have HXA:=Hh hx;have E9:=Hh hy;have y8:=((Blk.new w 83 #[.int .i64 x.kind,.int .u64 x.n,.slice ba x.bytes.length bc,.slice ia x.items.length ic]).alloc (zU y ba' bc' ia' ic')).alloc zg;have yT:=(Blk.new (w.alloc (zU x ba bc ia ic)) 83 #[.int .i64 y.kind,.int .u64 y.n,.slice ba' y.bytes.length bc',.slice ia' y.items.length ic']).alloc zg;have vL:=Blk.new ((w.alloc (zU x ba bc ia ic)).alloc (zU y ba' bc' ia' ic')) 83 #[.int .i64 0,.int .u64 0,.slice none 0 0,.slice none 0 0];have Pg:=(((Grows.refl hH).alloc (zU x ba bc ia ic)).alloc (zU y ba' bc' ia' ic')).alloc zg
 simp only[zh]at yT vL
 have Yw:H (w.heap.size+1+1)=none:=hH.none_of_ge (by omega)
 by_cases h5:x.kind=5
 ·have k5:(x.kind != 5)=false:=by simp[h5]
  have H5:=Hh h5;clear h5;have V:=Hh (tG hT hx _ Pg.holds)
  cases hvx:zR x with
  | false =>
   have E:Hid (vt x y=none):=by rw[Hid,vt,if_neg (by simp[hvx])]
   have HG:=Hh Pg;rw[hvx]at V;clear hvx nE Q4 hx hy Pg;go_enter Tryz.func65,Tryz.ntmps65
   go_wp2_with fail
   refine V.out.mono ?_
   rintro e w1 ⟨rfl,xR⟩
   have vL:=vL.below xR;have B9:=Hh (HG.out.below_ xR);clear y8 yT xR HG;go_wp2_with (with_reducible refine zx ?_)
   refine stI vL fun w6 hJ2 tg=>?_
   go_wp2_with fail
   refine zw rfl rfl hJ2 rfl rfl zt rfl ?_
   rw[E.out]
   exact⟨_,rfl,none,0,none,0,H,rfl,B9.out.grownOwn Yw (by omega) tg,IsItem.plain H 0 0 (by omega) (by omega)⟩
  | true =>
  have hJ:=wi hvx;obtain⟨ph,lg,Cd,rx⟩:=yD hvx;have sV:=Hh (qE hvx H5.out);have RL:=Hh hvx;rw[hvx]at V;clear hvx nE Q4 hx hy;go_enter Tryz.func65,Tryz.ntmps65
  go_wp2_with fail
  refine V.out.mono ?_
  rintro e w1 ⟨rfl,xR⟩
  have y8:=y8.below xR;have yT:=yT.below xR;have vL:=vL.below xR;have xg:=Pg.below_ xR;have q0:=yT.cell 0 rfl;have q1:=yT.cell 1 rfl;have q2:=yT.cell 2 rfl;have q3:=yT.cell 3 rfl;have V2:=Hh (tG hT E9.out _ xg.holds)
  cases hvy:zR y with
  | false =>
   have E:Hid (vt x y=none):=by rw[Hid,vt,if_neg (by simp[hvy])]
   rw[hvy]at V2;clear hvy;go_wp2_with fail
   refine V2.out.mono ?_
   rintro e w2 ⟨rfl,zC⟩
   have vL:=vL.below zC;have GY:=Hh (xg.below_ zC);clear y8 yT xR zC q0 q1 q2 q3 xg Pg;go_wp2_with (with_reducible refine zx ?_)
   refine stI vL fun w6 hJ2 tg=>?_
   go_wp2_with fail
   refine zw rfl rfl hJ2 rfl rfl zt rfl ?_
   rw[E.out]
   exact⟨_,rfl,none,0,none,0,H,rfl,GY.out.grownOwn Yw (by omega) tg,IsItem.plain H 0 0 (by omega) (by omega)⟩
  | true =>
  obtain⟨eB,_,JX⟩:=sv hvy;have E:Hid (vt x y=qL (zf y) x.items):=by rw[Hid,vt,if_pos ⟨H5.out,RL.out,hvy⟩]
  rw[hvy]at V2;clear hvy;go_wp2_with fail
  refine V2.out.mono ?_
  rintro e w2 ⟨rfl,zC⟩
  have y8:=y8.below zC;have yT:=yT.below zC;have vL:=vL.below zC;have zM:=xg.below_ zC;have A:=Hh (qp y H _ _ _ _ _ _ _ _ w2 w2.heap.size (.slice none 0 0) [] eB E9.out zM.holds (OwnB.nil _ _) (Nat.le_refl _) (by simp[Value.ownBlock]) (by simp;omega));clear xR zC q0 q1 q2 q3 xg Pg;have q0:=yT.cell 0 rfl;have q1:=yT.cell 1 rfl;have q2:=yT.cell 2 rfl;have q3:=yT.cell 3 rfl;go_wp2_with fail
  refine A.out.mono ?_
  rintro e w3 ⟨r,rfl,xA,RX,_⟩
  obtain⟨KA,kc,rfl,_,_,cz⟩:=xA.form;rw[List.nil_append]at xA cz;have xy:=yr RX;have O4:=y8.below xy;have Kd:=vL.below xy;have Ob:=Hh (zM.below_ xy);have c3:=O4.cell 3 rfl;clear yT q0 q1 q2 q3 zM A V V2 RX;go_upto_region 5 with fail
  go_loopw [7] (fun vi wr=>∃ k:Nat,k≤x.items.length∧k%2=0∧vi=.int .i64 k∧qL (zf y) (x.items.drop k)=vt x y∧Below w3.heap.size w3 wr) (fun vi _=>x.items.length-(intOf vi).toNat)
  case atStart=>exact⟨0,Nat.zero_le _,rfl,rfl,by rw[E.out];simp,Below.refl _ _⟩
  case round =>
  obtain⟨k,hk,qf,rfl,hf,ws⟩:=hrel;have GZ:=Hh (Ob.out.below_ ws);have d3:=(O4.below ws).cell 3 rfl
  by_cases zB:k<x.items.length
  ·have sV:=sV.out;have sY:k+1<x.items.length:=by omega
   have lf:=Xc (zf y) x.items k sY;rw[hf]at lf;obtain⟨ib,io,pf,un⟩:=HX.out.items (by omega);subst pf;obtain⟨eba,ebc,eia,eic,z0,z1,z2,z3,mR⟩:=un.get k zB;have vv:=GZ.out.holds;have p0:=vv.cell z0;have p1:=vv.cell z1;have p2:=vv.cell z2;have p3:=vv.cell z3;have oQ:=Hh lf;have A:=Hh (qp x.items[k] H _ _ _ _ _ _ _ _ wr wr.heap.size (.slice none 0 0) [] (Cd.get k zB) mR.arg vv (OwnB.nil _ _) (Nat.le_refl _) (by simp[Value.ownBlock]) (by have:=SQ x.items k zB;simp;omega));clear z0 z1 z2 z3 mR lf hf sV;go_wp2_with fail
   refine A.out.mono ?_
   rintro e w4 ⟨r,rfl,gT,rW,_⟩
   obtain⟨EA,ec,rfl,_,_,PV⟩:=gT.form;rw[List.nil_append]at gT PV;have pd:=yr rW;have Q:=Hh (j5 w4 EA KA (zf x.items[k]) (zf y) (zf x.items[k]).length (zf y).length ec kc rfl rfl PV (cz.below (ws.trans (pd.mono ws.size))));have KH:=Hh (GZ.out.below_ pd);have Ke:=(O4.below ws).below pd;have Qo:=(Kd.below ws).below pd;have Fr:=ws.trans (pd.mono ws.size);have e3:=Ke.cell 3 rfl;clear d3 p0 p1 p2 p3 A rW ws vv;go_wp2_with fail
   refine Q.out.mono ?_
   rintro e w5 ⟨rfl,rfl⟩
   cases hq:(zf x.items[k]==zf y) with
   | true =>
    have E2:Hid (vt x y=some x.items[k+1]):=oQ.out.trans (if_pos (by simpa using hq));obtain⟨eba',ebc',eia',eic',z0,z1,z2,z3,mR⟩:=un.get (k+1) sY;have vv:=KH.out.holds;have p0:=vv.cell z0;have p1:=vv.cell z1;have p2:=vv.cell z2;have p3:=vv.cell z3;have C:=Hh (j6 x.items[k+1] H _ _ eba' _ ebc' eia' _ eic' w4 (hJ.parts.2.2.get (k+1) sY) mR.arg vv);have i1:((k:Int)+1).toNat=k+1:=by omega
    have i2:(k:Int)+1<x.items.length:=by omega
    have i3:IntKind.i64.wrap ((k:Int)+1)=(k:Int)+1:=IntWalk.i64_in _ (by omega);clear z0 z1 z2 z3 mR hq Q un;go_wp2_with fail
    refine C.out.mono ?_
    rintro e w5 ⟨v,rfl,rba,rbc,ria,ric,Hs,rfl,xT,IL⟩
    have CW:=Qo.below xT.below;have GH:=xT.none Yw (by have:=Qo.lt;omega);have Dc:=Hh (KH.out.trans xT);clear e3 p0 p1 p2 p3 C Ke;go_wp2_with (with_reducible refine zx ?_)
    refine stI CW fun w6 hJ2 tg=>?_
    go_wp2_with fail
    refine zw rfl rfl hJ2 rfl rfl zt rfl ?_
    rw[E2.out]
    exact⟨_,rfl,rba,rbc,ria,ric,Hs,rfl,Dc.out.grownOwn GH (by omega) tg,IL⟩
   | false =>
   have E2:Hid (qL (zf y) (x.items.drop (k+2))=vt x y):=(oQ.out.trans (if_neg (by simpa using hq))).symm;have sV:=sV.out;have i3:IntKind.i64.wrap ((k:Int)+2)=(k:Int)+2:=IntWalk.i64_in _ (by omega);clear hq Q un e3;go_wp2_with fail
   go_roundw
   case rel=>exact⟨k+2,by omega,by omega,by go_num,E2.out,Fr⟩
   case measure=>simp[intOf];omega
  have E2:Hid (vt x y=none):=by
   rw[Hid,← hf,List.drop_eq_nil_of_le (by omega)];rfl
  have Qo:=Kd.below ws;clear hf;go_wp2_with (with_reducible refine zx ?_)
  refine stI Qo fun w6 hJ2 tg=>?_
  go_wp2_with fail
  refine zw rfl rfl hJ2 rfl rfl zt rfl ?_
  rw[E2.out]
  exact⟨_,rfl,none,0,none,0,H,rfl,GZ.out.grownOwn Yw (by omega) tg,IsItem.plain H 0 0 (by omega) (by omega)⟩
 have k5:(x.kind != 5)=true:=by simp[h5]
 have E:Hid (vt x y=none):=by rw[Hid,vt,if_neg (by simp[h5])]
 clear h5;have HG:=Hh Pg;clear nE Q4 hx hy Pg;go_enter Tryz.func65,Tryz.ntmps65
 go_wp2_with (with_reducible refine zx ?_)
 refine stI vL fun w6 hJ2 tg=>?_
 go_wp2_with fail
 refine zw rfl rfl hJ2 rfl rfl zt rfl ?_
 rw[E.out]
 exact⟨_,rfl,none,0,none,0,H,rfl,HG.out.grownOwn Yw (by omega) tg,IsItem.plain H 0 0 (by omega) (by omega)⟩
theorem OwnI.lit {w:World}{H:Snap}{l:List Itm}{cs:List Value}(h:ItemsC H cs l) (base:Nat) (hb:base≤w.heap.size) (hm:l.length≤4096) :
  OwnI (w.alloc (.cells cs.toArray 83)) base (.slice (some ⟨w.heap.size,0,none⟩) l.length l.length) H l:=by
 exact jb6
def dbl (n:Nat):Nat:=if n=0 then 0 else(1023+n.log2)*4503599627370496+(n*2 ^ (52-n.log2)-4503599627370496)
theorem mD:∀ n:Fin 1024,floatOfInt .f64 ((n.val:Nat):Int)=dbl n.val:=by decide +kernel
theorem Q7:∀ n:Fin 1024,floatBits .add .f64 (dbl n.val) (dbl 1024)=some (dbl (n.val+1024)):=by decide +kernel
theorem VY {s e m:Nat}(hs:s≤1) (he:1≤e) (I7:e≤2046) (hm:m<4503599627370496) :
  floatBits .mul .f64 4607182418800017408 (s*9223372036854775808+e*4503599627370496+m)=some (s*9223372036854775808+e*4503599627370496+m):=by
 have e1:=jhK;obtain⟨e2,e3,e4⟩:=jfW;have e5:Ieee.double.fractionBits=52:=rfl;have r1:Ieee.double.read 4607182418800017408=.number false 4503599627370496 (-52):=by decide +kernel
 obtain⟨x,hx⟩:∃ x,s*9223372036854775808+e*4503599627370496+m=x:=⟨_,rfl⟩
 have r2:Ieee.double.read x=.number (s%2==1) (4503599627370496+m) (-1074+((e-1:Nat):Int)):=by
  unfold Ieee.Format.read
  rw[e1,e2,e3,e4];have a1:x/9223372036854775808=s:=by omega
  have a2:x%9223372036854775808=e*4503599627370496+m:=by omega
  simp only[a1,a2]
  rw[if_neg (by omega),if_pos (by omega)];congr 1
  ·omega
  have:(e*4503599627370496+m)/4503599627370496=e:=by omega
  rw[this]
 rw[hx];show((Ieee.double.read 4607182418800017408).product (Ieee.double.read x)).map Ieee.double.write=some x
 rw[r1,r2]
 simp only[Ieee.Datum.product,Option.map_some,Ieee.Format.write,Bool.false_bne]
 congr 1
 obtain⟨M,hM⟩:∃ M,4503599627370496+m=M:=⟨_,rfl⟩
 have gm:4503599627370496≤M:=by omega
 have WJ:M<9007199254740992:=by omega
 have hl:(4503599627370496*M).log2=104:=by
  refine iF ?_ ?_
  ·have:(2:Nat) ^ 104=4503599627370496*4503599627370496:=by decide
   rw[this];exact Nat.mul_le_mul_left _ gm
  have:(2:Nat) ^ (104+1)=4503599627370496*9007199254740992:=by decide
  rw[this];exact Nat.mul_lt_mul_of_pos_left WJ (by omega)
 rw[hM]
 unfold Ieee.Format.nearest
 rw[if_neg (by intro h;rcases Nat.mul_eq_zero.1 h with h | h <;> omega),e2,e3,e4,e5,hl];have p1:max (-52+(-1074+((e-1:Nat):Int))+((104:Nat):Int)-((52:Nat):Int)) (-1074) = -1074+((e-1:Nat):Int):=by omega
 rw[p1];have p2:(-52+(-1074+((e-1:Nat):Int))-(-1074+((e-1:Nat):Int))).toNat=0:=by omega
 have p3:(-1074+((e-1:Nat):Int)-(-52+(-1074+((e-1:Nat):Int)))).toNat=52:=by omega
 have p4:(-1074+((e-1:Nat):Int) - -1074).toNat=e-1:=by omega
 simp only[p2,p3,p4,Nat.shiftLeft_zero]
 have hq:4503599627370496*M=M*2 ^ 52:=by rw[Nat.mul_comm]
 rw[hq,nI _ M 52 (by rw[← hq,hl];omega)];clear p1 p2 p3 p4 hl hq r1 r2 e1 e2 e3 e4 e5;obtain⟨r,hr⟩:∃ r,min ((e-1)*4503599627370496+M) 9218868437227405312=r:=⟨_,rfl⟩
 have iz:r=(e-1)*4503599627370496+M:=by
  rw[← hr]
  exact Nat.min_eq_left (by omega)
 obtain⟨k,rfl⟩:∃ k,e=k+1:=⟨e-1,by omega⟩
 rw[hr,cV s r hs,iz,← hx,← hM,Nat.add_sub_cancel,Nat.succ_mul]
 simp only[Nat.add_assoc]
theorem Vl {e m:Nat}(he:1≤e) (I7:e≤2046) (hm:m<4503599627370496):Ieee.double.read (e*4503599627370496+m)=.number false (4503599627370496+m) (-1074+((e-1:Nat):Int)):=by
 have e1:=jhK;obtain⟨e2,e3,e4⟩:=jfW;obtain⟨x,hx⟩:∃ x,e*4503599627370496+m=x:=⟨_,rfl⟩
 have a1:x/9223372036854775808=0:=by omega
 have a2:x%9223372036854775808=x:=by omega
 rw[hx]
 unfold Ieee.Format.read
 rw[e1,e2,e3,e4]
 simp only[a1,a2]
 rw[if_neg (by omega),if_pos (by omega)];have a3:x/4503599627370496=e:=by omega
 have a4:x%4503599627370496=m:=by omega
 rw[a3,a4];rfl
theorem TG {a b:Int}(h:b<a):compare a b=.gt:=by
 show compareOfLessAndEq a b=_
 rw[compareOfLessAndEq,if_neg (by omega),if_neg (by omega)]
theorem Na {a b:Int}(h:a<b):compare a b=.lt:=by
 show compareOfLessAndEq a b=_
 rw[compareOfLessAndEq,if_pos h]
theorem iG {e m:Nat}(he:2≤e) (I7:e≤2045) (hm:m<4503599627370496) {D:Nat}(hD:D=e*4503599627370496+m) :
  FloatKind.f64.format.order D 0=some .gt∧FloatKind.f64.format.order D 9218868437227405311=some .lt∧FloatKind.f64.format.order D 4503599627370496=some .gt∧FloatKind.f64.format.order D D=some .eq:=by
 have r:=Vl (show 1≤e by omega) (show e≤2046 by omega) hm;rw[← hD]at r;have z:Ieee.double.read 0=.number false 0 (-1074):=by decide +kernel
 have mx:Ieee.double.read 9218868437227405311=.number false 9007199254740991 971:=by decide +kernel
 have mn:Ieee.double.read 4503599627370496=.number false 4503599627370496 (-1074):=by decide +kernel
 obtain⟨k,hk⟩:∃ k,e-1=k:=⟨_,rfl⟩
 rw[hk]at r;have XJ:∀ a b:Nat,a≤a <<< b:=fun a b=>by rw[Nat.shiftLeft_eq];exact Nat.le_mul_of_pos_right _ (Nat.two_pow_pos b)
 have LX:∀ a b:Nat,1≤b→a*2≤a <<< b:=fun a b hb=>by
  rw[Nat.shiftLeft_eq]
  refine Nat.mul_le_mul_left _ ?_
  calc 2=2 ^ 1:=rfl
   _≤2 ^ b:=Nat.pow_le_pow_right (by omega) hb
 refine⟨?_, ?_, ?_, ?_⟩
 ·show(Ieee.double.read D).order (Ieee.double.read 0)=_
  rw[r,z]
  simp only[Ieee.Datum.order,Ieee.signed]
  rw[TG];have:=XJ (4503599627370496+m) (-1074+(k:Int)-min (-1074+(k:Int)) (-1074)).toNat
  simp only[Bool.false_eq_true,if_false,Nat.zero_shiftLeft]
  omega
 ·show(Ieee.double.read D).order (Ieee.double.read 9218868437227405311)=_
  rw[r,mx]
  simp only[Ieee.Datum.order,Ieee.signed]
  rw[Na];have h1:min (-1074+(k:Int)) 971 = -1074+(k:Int):=by omega
  rw[h1];have h2:(-1074+(k:Int)-(-1074+(k:Int))).toNat=0:=by omega
  rw[h2];have:=LX 9007199254740991 (971-(-1074+(k:Int))).toNat (by omega)
  exact jdS
 ·show(Ieee.double.read D).order (Ieee.double.read 4503599627370496)=_
  rw[r,mn]
  simp only[Ieee.Datum.order,Ieee.signed]
  rw[TG];have h1:min (-1074+(k:Int)) (-1074) = -1074:=by omega
  rw[h1];have h2:(-1074-(-1074:Int)).toNat=0:=by decide
  have:=LX (4503599627370496+m) (-1074+(k:Int) - -1074).toNat (by omega);rw[h2]
  exact jdS
 show(Ieee.double.read D).order (Ieee.double.read D)=_
 rw[r]
 simp only[Ieee.Datum.order]
 congr 1
 show compareOfLessAndEq _ _=_
 rw[compareOfLessAndEq,if_neg (by omega),if_pos rfl]
structure Pos (D e m:Nat):Prop where
 eq:D=e*4503599627370496+m
 lo:2≤e
 hi:e≤2045
 m_lt:m<4503599627370496
theorem Pos.lt {D e m:Nat}(h:Pos D e m):D<9223372036854775808:=by have:=h.eq;have:=h.hi;have:=h.m_lt;omega
theorem oW {D:Nat}(h:D<9223372036854775808):bits .andNot .u64 (D:Int) 9223372036854775808=(D:Int):=by
 have:=u64_andNot_nat D 9223372036854775808 (by omega) (by omega);rw[show((9223372036854775808:Nat):Int)=9223372036854775808 from rfl]at this;rw[this,show 18446744073709551615-9223372036854775808=2 ^ 63-1 by decide,Nat.and_two_pow_sub_one_eq_mod,Nat.mod_eq_of_lt (by simpa using h)]
theorem cM {D e m:Nat}(h:Pos D e m):bits .andNot .u64 (D:Int) 9218868437227405312=(m:Int):=by
 have hl:=h.lt;have:=u64_andNot_nat D 9218868437227405312 (by omega) (by omega);rw[show((9218868437227405312:Nat):Int)=9218868437227405312 from rfl]at this;rw[this,show 18446744073709551615-9218868437227405312=2 ^ 63 ||| (2 ^ 52-1) by decide,Nat.and_or_distrib_left,Nat.and_two_pow_sub_one_eq_mod]
 have h0:D &&& 2 ^ 63=0:=by
  apply Nat.eq_of_testBit_eq
  intro i
  rw[Nat.testBit_and,Nat.testBit_two_pow,Nat.zero_testBit]
  by_cases hi:63=i
  ·subst hi;rw[Nat.testBit_lt_two_pow (by simpa using hl)];rfl
  simp[hi]
 have h1:=h.eq;have h2:=h.m_lt;rw[h0,Nat.zero_or]
 simp only[Nat.reducePow]
 omega
theorem T8 {q m:Nat}(hq:q≤2046) (hm:m<4503599627370496):bits .or .u64 (m:Int) ((q:Int)*4503599627370496)=((q*4503599627370496+m:Nat):Int):=by
 have h:=Nat.shiftLeft_add_eq_or_of_lt (show m<2 ^ 52 by simpa using hm) q;rw[Nat.shiftLeft_eq]at h;rw[show((q:Int)*4503599627370496)=((q*4503599627370496:Nat):Int) by omega,u64_or_nat _ _ (by omega) (by omega),Nat.or_comm]
 simp only[Nat.reducePow]at h
 rw[← h]
theorem bj {e:Nat}(h:e≤2046):bits .and .i64 (e:Int) 2047=(e:Int):=by
 have tX:∀ X:Fin 2048,bits .and .i64 ((X.val:Nat):Int) 2047=((X.val:Nat):Int):=by decide +kernel
 exact tX ⟨e,by omega⟩
theorem aY {D:Nat}(h:D<9223372036854775808) (w:World):Calls Tryz.prog 169 #[.float .f64 D] w fun e w'=>e=.returned (.float .f64 D)∧w'=w:=by
 have r1:=yU D;have r2:=vF D;have K:=oW h;clear h;go_enter Tryz.func169,Tryz.ntmps169
 exact jbA
theorem Xw {D e m:Nat}(h:Pos D e m) (w:World):Calls Tryz.prog 165 #[.float .f64 D,.int .i64 0] w fun e w'=>e=.returned (.bool false)∧w'=w:=by
 have AB:=Hh (fun w=>aY h.lt w);have o1:=(iG h.lo h.hi h.m_lt h.eq).2.1;clear h;go_enter Tryz.func165,Tryz.ntmps165
 go_wp2_with fail
 refine(AB.out _).mono ?_
 rintro e w1 ⟨rfl,rfl⟩
 exact jdT
theorem Xx {D e m:Nat}(h:Pos D e m) (w:World):Calls Tryz.prog 166 #[.float .f64 D] w fun e w'=>e=.returned (.bool false)∧w'=w:=by
 have o1:=(iG h.lo h.hi h.m_lt h.eq).2.2.2;clear h;go_enter Tryz.func166,Tryz.ntmps166
 exact jdT
theorem fF {D e m:Nat}(h:Pos D e m) (w:World):Calls Tryz.prog 167 #[.float .f64 D] w fun e w'=>e=.returned (.tuple #[.float .f64 D,.int .i64 0])∧w'=w:=by
 have AB:=Hh (fun w=>aY h.lt w);have o1:(FloatKind.f64.format.order D 4503599627370496==some .lt)=false:=by rw[(iG h.lo h.hi h.m_lt h.eq).2.2.1];rfl
 clear h;go_enter Tryz.func167,Tryz.ntmps167
 go_wp2_with fail
 refine(AB.out _).mono ?_
 rintro e w1 ⟨rfl,rfl⟩
 go_wp2_with fail
 go_ret2
 exact jcs
theorem Sd (w:World):Calls Tryz.prog 135 #[.int .i64 1] w fun e w'=>e=.returned (.float .f64 9218868437227405312)∧w'=w:=by
 have r2:∀ w,(callFunc 123 #[.int .u64 9218868437227405312]).run Tryz.prog w=.ok (.value (.float .f64 9218868437227405312)) w:=vF 9218868437227405312;go_enter Tryz.func135,Tryz.ntmps135
 exact jbA
theorem Xy {D e m:Nat}(h:Pos D e m) (k:Int) (q:Nat) (hk : -1000≤k∧k≤1000) (hq:(e:Int)+k=(q:Int)) (hq2:2≤q∧q≤2045) (w:World) :
  Calls Tryz.prog 159 #[.float .f64 D,.int .i64 k] w fun e w'=>e=.returned (.float .f64 (q*4503599627370496+m))∧w'=w:=by
 obtain⟨o1,_,_,_⟩:=iG h.lo h.hi h.m_lt h.eq;have o0:(FloatKind.f64.format.order D 0==some .eq)=false:=by rw[o1];rfl
 have IN:=Hh (fun w=>Xw h w);have NA:=Hh (fun w=>Xx h w);have NO:=Hh (fun w=>fF h w);have r1:=yU D;have hD:=h.eq;have hm:=h.m_lt;have Cy:=h.lo;have Cv:=h.hi;have K1:IntKind.i64.wrap (k+0)=k:=by rw[Int.add_zero];exact IntWalk.i64_in _ (by omega)
 have K2:(D:Int)/4503599627370496=(e:Int):=by omega
 have K3:IntKind.i64.wrap (e:Int)=(e:Int):=IntWalk.i64_in _ (by omega);have K4:=bj (show e≤2046 by omega);have K5:IntKind.i64.wrap ((e:Int)-1023)=(e:Int)-1023:=IntWalk.i64_in _ (by omega);obtain⟨x,hx⟩:∃ x:Int,k+((e:Int)-1023)=x:=⟨_,rfl⟩
 have K6:IntKind.i64.wrap (k+((e:Int)-1023))=x:=by rw[hx];exact IntWalk.i64_in _ (by omega)
 have K6b:k+((e:Int)-1023)=x:=hx;have z1:¬ (x < -1075):=by omega
 have z2:¬ (1023<x):=by omega
 have z3:¬ (x < -1022):=by omega
 have K7:=cM h;have K8:IntKind.i64.wrap (x+1023)=(q:Int):=by rw[show x+1023=(q:Int) by omega];exact IntWalk.i64_in _ (by omega)
 have K8b:x+1023=(q:Int):=by omega
 have K9:IntKind.u64.wrap (q:Int)=(q:Int):=by rw[IntKind.wrap_u64];omega
 have K10:IntKind.u64.wrap ((q:Int)*4503599627370496)=(q:Int)*4503599627370496:=by rw[IntKind.wrap_u64];omega
 have K11:=T8 (show q≤2046 by omega) hm;obtain⟨R,hR⟩:∃ R,q*4503599627370496+m=R:=⟨_,rfl⟩
 have LP:floatBits .mul .f64 4607182418800017408 R=some R:=by
  have:=VY (s:=0) (e:=q) (m:=m) (by omega) (by omega) (by omega) hm;rw[Nat.zero_mul,Nat.zero_add,hR]at this
  exact this
 have r3:=vF R;rw[hR]at K11;rw[hR];have r4:∀ w,(binOp .mul 157 (.float .f64 4607182418800017408) (.float .f64 R)).run Tryz.prog w=.ok (.float .f64 R) w:=fun w=>run_float_arith w .mul _ .f64 _ _ R LP
 obtain⟨rX,qf⟩:=hk;have MH:(2:Int)≤(e:Int):=by omega
 have I7:(e:Int)≤2045:=by omega
 have ph : -1021≤x:=by omega
 have lg:x≤1022:=by omega
 have el:(2:Int)≤(q:Int):=by omega
 have AK:(q:Int)≤2045:=by omega
 clear h hD hm Cy Cv hq hq2 hx LP hR o1;go_enter Tryz.func159,Tryz.ntmps159
 go_wp2_with fail
 refine(IN.out _).mono ?_
 rintro e w1 ⟨rfl,rfl⟩
 go_wp2_with fail
 refine(NA.out _).mono ?_
 rintro e w1 ⟨rfl,rfl⟩
 go_wp2_with fail
 refine(NO.out _).mono ?_
 rintro e w1 ⟨rfl,rfl⟩
 exact jbA
theorem fb {D e m:Nat}(h:Pos D e m) (k:Int) (q:Nat) (hk : -1000≤k∧k≤1000) (hq:(e:Int)+k=(q:Int)) (hq2:2≤q∧q≤2045) (w:World) :
  Calls Tryz.prog 136 #[.float .f64 D,.int .i64 k] w fun e w'=>e=.returned (.float .f64 (q*4503599627370496+m))∧w'=w:=by
 have L:=Hh (fun w=>Xy h k q hk hq hq2 w);clear h hk hq hq2;exact jeH
theorem ZW (k:Int) (w:World):Calls Tryz.prog 159 #[.float .f64 0,.int .i64 k] w fun e w'=>e=.returned (.float .f64 0)∧w'=w:=by
 have o0:(FloatKind.f64.format.order 0 0==some .eq)=true:=by decide +kernel
 go_enter Tryz.func159,Tryz.ntmps159
 exact jbA
theorem ZV (k:Int) (w:World):Calls Tryz.prog 136 #[.float .f64 0,.int .i64 k] w fun e w'=>e=.returned (.float .f64 0)∧w'=w:=by
 have L:=Hh (fun w=>ZW k w);exact jeH
theorem Zw {D:Nat}(h:D<9223372036854775808):bits .or .u64 (D:Int) 9223372036854775808=((9223372036854775808+D:Nat):Int):=by
 have h1:=Nat.shiftLeft_add_eq_or_of_lt (show D<2 ^ 63 by simpa using h) 1;rw[Nat.shiftLeft_eq]at h1;have:=u64_or_nat D 9223372036854775808 (by omega) (by omega);rw[show((9223372036854775808:Nat):Int)=9223372036854775808 from rfl]at this;rw[this,Nat.or_comm]
 simp only[Nat.reducePow,Nat.one_mul]at h1
 rw[← h1]
theorem rt {D:Nat}(h:D<9223372036854775808) (w:World):Calls Tryz.prog 137 #[.float .f64 D,.float .f64 13830554455654793216] w fun e w'=>e=.returned (.float .f64 (9223372036854775808+D))∧w'=w:=by
 have r1:=yU D;have r2:∀ w,(callFunc 118 #[.float .f64 13830554455654793216]).run Tryz.prog w=.ok (.value (.int .u64 13830554455654793216)) w:=yU 13830554455654793216;have K1:=oW h;have K2:bits .and .u64 13830554455654793216 9223372036854775808=9223372036854775808:=by decide +kernel
 have K3:=Zw h;obtain⟨R,hR⟩:∃ R,9223372036854775808+D=R:=⟨_,rfl⟩
 rw[hR]at K3;rw[hR];have r3:=vF R;clear h hR;go_enter Tryz.func137,Tryz.ntmps137
 exact jbA
def wo (v:Nat):Nat:=if v/1024%32=31∧v%1024≠0 then ym else wS v
theorem Wx {v k:Nat}(hv:v<65536) (hk:k≤16):bits .and .u16 (v:Int) ((2 ^ k-1:Nat):Int)=((v%2 ^ k:Nat):Int):=by
 have:2 ^ k≤2 ^ 16:=Nat.pow_le_pow_right (by omega) hk;rw[u16_and_nat v (2 ^ k-1) (by omega) (by omega),Nat.and_two_pow_sub_one_eq_mod]
theorem WZ {n t:Nat}(h0:n≠0) (ht:n.log2=t) (hn:n<2048):Pos (dbl n) (1023+t) (n*2 ^ (52-t)-4503599627370496):=by
 subst ht;have a1:2 ^ n.log2≤n:=Nat.log2_self_le h0;have a2:n<2 ^ (n.log2+1):=Nat.lt_log2_self;have a3:n.log2<11:=(Nat.log2_lt h0).2 (by simpa using hn);have b:=pS a1 a2 (by omega)
 exact⟨by rw[dbl,if_neg h0],by omega,by omega,by omega⟩
theorem Nc (f:Nat):(f+1024)*4398046511104-4503599627370496=f*4398046511104:=by omega
def TC (w:World) (v:Nat) (e:Ending) (w':World):Prop:=e=.returned (.int .u64 (wo v:Int))∧w'=w
theorem XV (v:Nat) (hv:v<65536) (w:World):Calls Tryz.prog 117 #[.int .u16 (v:Int)] w (TC w v):=by
 have A1:bits .and .u16 (v:Int) 1023=((v%1024:Nat):Int):=Wx (k:=10) hv (by omega);obtain⟨u,hu⟩:∃ u,v/1024=u:=⟨_,rfl⟩
 have A2:bits .and .u16 (u:Int) 31=((u%32:Nat):Int):=Wx (k:=5) (by omega) (by omega);have Q0:u%32=v/1024%32:=by rw[hu]
 rw[Q0]at A2;obtain⟨s,hs⟩:∃ s,v/32768=s:=⟨_,rfl⟩
 obtain⟨x,hx⟩:∃ x,v/1024%32=x:=⟨_,rfl⟩
 obtain⟨f,hf⟩:∃ f,v%1024=f:=⟨_,rfl⟩
 have wu:s≤1:=by omega
 have ph:x≤31:=by omega
 have ez:f<1024:=by omega
 have W:=Hh (show wo v=(if x=31∧f≠0 then ym else if x=31 then s*9223372036854775808+9218868437227405312+f*4398046511104
  else if x=0 then(if f=0 then s*9223372036854775808 else s*9223372036854775808+(999+f.log2)*4503599627370496+(f*2 ^ (52-f.log2)-4503599627370496))
  else s*9223372036854775808+(x+1008)*4503599627370496+f*4398046511104) by rw[wo,wS,hs,hx,hf])
 rw[hf]at A1;rw[hx]at A2;have S1:(v:Int)/32768=(s:Int):=by omega
 have S2:(v:Int)/1024=(u:Int):=by omega
 have FI:floatOfInt .f64 (f:Int)=dbl f:=mD ⟨f,ez⟩;have HX:=Hh (And.intro wu (And.intro ph ez));have An:(v:Int)/32768=(s:Int):=S1;have PI:(s:Int)≤1:=by omega
 clear hs hx hf hv hu Q0
 by_cases Z8:x=31
 ·subst Z8
  by_cases Yt:f=0
  ·subst Yt;have FI0:floatOfInt .f64 0=0:=mD 0;have WQ:Hid (wo v=s*9223372036854775808+9218868437227405312):=by rw[Hid,W.out,if_neg (by simp),if_pos rfl];try omega
   have IF:=Hh (fun w=>Sd w);clear FI W;go_enter Tryz.func117,Tryz.ntmps117
   go_wp2_with fail
   refine(IF.out _).mono ?_
   rintro e w1 ⟨rfl,rfl⟩
   obtain⟨D,hD⟩:∃ D,9218868437227405312=D:=⟨_,rfl⟩
   rw[hD]at WQ;rw[hD];have HD:=Hh hD;exact jem
  have f0:((f:Int) != 0)=true:=by simp;omega
  have f0':((f:Int)=0)=False:=eq_false (by omega);have WW:Hid (wo v=ym):=by rw[Hid,W.out,if_pos ⟨rfl,Yt⟩]
  clear W Yt;go_enter Tryz.func117,Tryz.ntmps117
  exact jaZ
 have x31:((x:Int)==31)=false:=by simp;omega
 have x31':((x:Int)=31)=False:=eq_false (by omega)
 by_cases h0:x=0
 ·subst h0
  by_cases Yt:f=0
  ·subst Yt;have FI0:floatOfInt .f64 0=0:=mD 0;have WQ:Hid (wo v=s*9223372036854775808+0):=by rw[Hid,Nat.add_zero,W.out,if_neg (by omega),if_neg (by omega),if_pos rfl,if_pos rfl]
   have LD:=Hh (fun w=>ZV (-24) w);clear FI W Z8;go_enter Tryz.func117,Tryz.ntmps117
   go_wp2_with fail
   refine(LD.out _).mono ?_
   rintro e w1 ⟨rfl,rfl⟩
   obtain⟨D,hD⟩:∃ D:Nat,0=D:=⟨_,rfl⟩
   rw[hD]at WQ;have HD:=Hh hD;rw[show(Value.float FloatKind.f64 0)=Value.float FloatKind.f64 D by rw[hD]];exact jem
  obtain⟨t,ht⟩:∃ t,f.log2=t:=⟨_,rfl⟩
  have hP:=WZ Yt ht (by omega);have Mf:t<10:=by rw[← ht];exact(Nat.log2_lt Yt).2 (by simpa using ez)
  have LD:=Hh (fun w=>fb hP (-24) (999+t) (by omega) (by omega) (by omega) w);obtain⟨D,hD⟩:∃ D,(999+t)*4503599627370496+(f*2 ^ (52-t)-4503599627370496)=D:=⟨_,rfl⟩
  have WF:D<9223372036854775808:=by have:=hP.m_lt;omega
  have WQ:Hid (wo v=s*9223372036854775808+D):=by rw[Hid,W.out,if_neg (by omega),if_neg (by omega),if_pos rfl,if_neg Yt,ht,← hD,Nat.add_assoc]
  rw[hD]at LD;obtain⟨Q,hQ⟩:∃ Q,dbl f=Q:=⟨_,rfl⟩
  rw[hQ]at FI LD;have HD:=Hh WF;clear W Z8 Yt hP hD WF hQ ht Mf;exact jeg
 have x0:((x:Int)==0)=false:=by simp;omega
 have x0':((x:Int)=0)=False:=eq_false (by omega);have hP:=WZ (n:=f+1024) (t:=10) (by omega) (by rw[Nat.log2_eq_iff (by omega)];constructor <;> omega) (by omega);rw[show(52:Nat)-10=42 from rfl,show(2:Nat) ^ 42=4398046511104 by decide,Nc]at hP;have LD:=Hh (fun w=>fb hP ((x:Int)-25) (x+1008) (by omega) (by omega) (by omega) w)
 have AD:∀ w,(binOp .add 157 (.float .f64 (dbl f)) (.float .f64 4652218415073722368)).run Tryz.prog w=.ok (.float .f64 (dbl (f+1024))) w:=fun w=>run_float_arith w .add _ .f64 _ _ _ (by
  have:=Q7 ⟨f,ez⟩;rw[show dbl 1024=4652218415073722368 by decide +kernel]at this
  exact this)
 have KS:IntKind.i64.wrap ((x:Int)-25)=(x:Int)-25:=IntWalk.i64_in _ (by omega);obtain⟨D,hD⟩:∃ D,(x+1008)*4503599627370496+f*4398046511104=D:=⟨_,rfl⟩
 have WF:D<9223372036854775808:=by have:=hP.m_lt;omega
 have WQ:Hid (wo v=s*9223372036854775808+D):=by
  rw[Hid,W.out,if_neg (by omega),if_neg (by omega),if_neg h0,← hD];rw[Nat.add_assoc]
 rw[hD]at LD;obtain⟨Q,hQ⟩:∃ Q,dbl f=Q:=⟨_,rfl⟩
 obtain⟨Q2,Eh⟩:∃ Q2,dbl (f+1024)=Q2:=⟨_,rfl⟩
 rw[hQ]at FI AD;rw[Eh]at AD LD;have HD:=Hh WF;have nE:(x:Int)≤31:=by omega
 clear W Z8 h0 hP hD WF hQ Eh;exact jeg
abbrev rQ (A:Option Addr) (n c p cnt:Nat):Array Value:=#[.slice A n c,.int .i64 (p:Int),.int .i64 (cnt:Int)]
structure Psr (T:TypeId) (w:World) (g:Nat) (H:Snap) (A:Option Addr) (c:Nat) (l:List UInt8) (p cnt:Nat):Prop where
 blk:Blk w g T (rQ A l.length c p cnt)
 bytes:IsBytes H A c l
 holds:Holds w H
 apart:H g=none
 le:p≤l.length
 small:l.length≤4096
 cnt_le:cnt≤256
theorem vg {w0 w:World}{r:Option Nat}(h:w0.grownBy w r):∀ q,w0.grownBy (w.drewN q) r
 | 0=>h
 | q+1=>rz (vg h q)
def WU (T:TypeId) (w:World) (g:Nat) (A:Option Addr) (c:Nat) (l:List UInt8) (p cnt z:Nat) (e:Ending) (w':World):Prop :=
 (l.length<p+z∧e=.returned (.tuple #[.int .u64 0,.bool false])∧Blk w' g T (rQ A l.length c p cnt)∧w.grownBy w' (some g))∨
 (p+z≤l.length∧e=.returned (.tuple #[.int .u64 (beN ((l.drop p).take z):Int),.bool true])∧Blk w' g T (rQ A l.length c (p+z) cnt)∧w.grownBy w' (some g))
theorem QS (x c:Nat) (hc:c<256):x*256 ||| c=x*256+c:=by
 have h:=Nat.shiftLeft_add_eq_or_of_lt (show c<2 ^ 8 by omega) x;rw[Nat.shiftLeft_eq]at h
 exact h.symm
theorem jN (x c:Nat) (hx:x*256<18446744073709551616) (hc:c<256):bits .or .u64 ((x:Int)*256) (c:Int)=((x*256+c:Nat):Int):=by
 rw[show((x:Int)*256)=((x*256:Nat):Int) by omega,u64_or_nat _ _ hx (by omega),QS x c hc]
theorem aE (l:List UInt8) (k:Nat) (hk:k<l.length):beN (l.take (k+1))=beN (l.take k)*256+l[k].toNat:=by
 rw[List.take_succ_eq_append_getElem hk,SF]
theorem j4 (l:List UInt8) (k:Nat) (hk:k<8):beN (l.take k)*256<18446744073709551616:=by
 have h:=rS (l.take k);have h2:(l.take k).length≤7:=by rw[List.length_take];omega
 have h3:(256:Nat) ^ (l.take k).length≤256 ^ 7:=Nat.pow_le_pow_right (by omega) h2;have h4:(256:Nat) ^ 7=72057594037927936:=by decide
 omega
theorem yp:(Tryz.prog.info? 3).map (·.size)=some 1:=by kernel_rfl
theorem kz {w:World}{g:Nat}{H:Snap}{A:Option Addr}{c:Nat}{l:List UInt8}{p cnt:Nat}(hP:Psr 117 w g H A c l p cnt) (z:Nat) (qV:1≤z) (WS:z≤8) :
  Calls Tryz.prog 116 #[.pointer (some ⟨g,0,none⟩),.int .i64 (z:Int)] w (WU 117 w g A c l p cnt z):=by
 have hB:=hP.blk;have c0:=jf8;have c1:=jgG;have HP:=Hh hP;have i6:=hP.le;have mT:=hP.small;have rE:=hP.bytes.le;have mv:=hP.bytes.max;have HZ:=Hh (And.intro qV WS);have NR:(z:Int)≤8:=by omega
 have ZE:(p:Int)≤(l.length:Int):=by omega
 have Rz:(l.length:Int)≤4096:=by omega
 have K0:=jhG
 by_cases zB:l.length<p+z
 ·have z0:(l.length:Int)-(p:Int)<(z:Int):=by omega
  have HL:=Hh zB;clear qV WS i6 mT rE mv hP zB;go_enter Tryz.func116,Tryz.ntmps116
  exact jcU
 have z0:¬ ((l.length:Int)-(p:Int)<(z:Int)):=by omega
 have z0b:decide ((l.length:Int)-(p:Int)<(z:Int))=false:=decide_eq_false z0;have K1:IntKind.i64.wrap ((p:Int)+(z:Int))=(p:Int)+(z:Int):=IntWalk.i64_in _ (by omega);have qa:(p:Int)≤(p:Int)+(z:Int):=by omega
 have rh:(p:Int)+(z:Int)≤(c:Int):=by omega
 have Ah:(p:Int)≤(c:Int):=by omega
 have Ut:(0:Int)≤(p:Int):=by omega
 have mw:(c=p)=False:=eq_false (by omega);obtain⟨b,off,rfl,yF⟩:=hP.bytes.at_ (by omega);have HC:=Hh yF;have HH:=Hh hP.holds;have HL:=Hh (Nat.not_lt.1 zB);clear qV WS i6 mT rE mv hP yF zB;go_enter Tryz.func116,Tryz.ntmps116
 go_wp2_with fail
 go_big_quiet (fail)
 obtain⟨w1,oS⟩:∃ W,w.drewN nq=W:=⟨_,rfl⟩
 obtain⟨y8,xg,nA⟩:=jhC;rw[oS];clear oS c0 c1;have c0:=y8.cell 0 rfl;have c1:=y8.cell 1 rfl;go_wp2_with fail
 go_big_quiet (fail)
 go_wp2_with fail
 obtain⟨W,hW⟩:∃ W,w1.drewN nq=W:=⟨_,rfl⟩
 have Mv:Blk W g 117 (rQ (some ⟨b,off,none⟩) l.length c p cnt):=hW ▸ y8;have Ly:w.grownBy W (some g):=hW ▸ vg xg _;have JE:Holds W H:=hW ▸ nA;rw[hW];clear hW c0 c1 hB y8 xg nA;have E:Hid ((l.drop p).length=l.length-p):=List.length_drop;go_loopw [6,8,37] (fun v6 v8 v37 wr=>wr=W∧∃ k:Nat,k≤z∧v37=.int .i64 (k:Int)∧v6=.int .u64 (beN ((l.drop p).take k):Int)) (fun _ _ v37 _=>z-(intOf v37).toNat)
 case atStart=>exact⟨rfl,0,Nat.zero_le _,rfl,rfl⟩
 case round =>
 obtain⟨rfl,k,hk,rfl,rfl⟩:=hrel
 by_cases IU:k<z
 ·have tF:p+k<l.length:=by have:=HL.out;omega
  have G4:(k:Int)<(z:Int):=by omega
  have gw:k<(l.drop p).length:=by have:=E.out;omega
  have q0:=JE.cell (HC.out (p+k) tF);rw[← Nat.add_assoc]at q0;have ex:(l.drop p)[k]=l[p+k]:=by rw[List.getElem_drop]
  have hX:=j4 (l.drop p) k (by have:=HZ.out;omega);have hS:=aE (l.drop p) k gw;rw[ex]at hS;obtain⟨X,nZ⟩:∃ X,beN ((l.drop p).take k)=X:=⟨_,rfl⟩
  obtain⟨ch,e8⟩:∃ ch,l[p+k]=ch:=⟨_,rfl⟩
  rw[nZ]at hX hS⊢;rw[e8]at hS q0;have lc:=ch.toNat_lt;have K2:IntKind.u64.wrap ((X:Int)*256)=(X:Int)*256:=by rw[IntKind.wrap_u64];omega
  have K3:=jhU;have HS:=Hh hS;have rX:(k:Int)+1≤9223372036854775807:=by have:=HZ.out;omega
  clear hX hS nZ e8 ex gw;go_wp2_with fail
  go_roundw
  case rel=>exact⟨by trivial,k+1,by omega,by go_num,by rw[HS.out,Int.natCast_add,Int.natCast_mul];rfl⟩
  case measure=>simp[intOf];omega
 have WM:k=z:=by omega
 subst WM;have kK:¬ ((k:Int)<(k:Int)):=by omega
 have c1:=Mv.cell 1 rfl;obtain⟨X,nZ⟩:∃ X,beN ((l.drop p).take k)=X:=⟨_,rfl⟩
 rw[nZ];have HX:=Hh nZ;clear nZ;go_wp2_with (with_reducible refine zx ?_)
 refine zu rfl _ _ _ rfl rfl g 1 (.int .i64 ((p:Int)+(k:Int))) rfl rfl _ _ Mv yp (by simp) rfl fun w2 yT zM=>?_
 have yY:=yu Ly zM (.inl rfl)
 have vL:Blk w2 g 117 (rQ (some ⟨b,off,none⟩) l.length c (p+k) cnt):=by
  have e:((p+k:Nat):Int)=(p:Int)+(k:Int):=by omega
  rw[rQ,e]
  exact yT
 clear yT zM Mv Ly c1;go_wp2_with fail
 go_ret2
 exact .inr ⟨HL.out,by rw[HX.out];rfl,vL,yY⟩
def HeadSaid (T:TypeId) (w:World) (g:Nat) (A:Option Addr) (c:Nat) (l:List UInt8) (p cnt:Nat) (e:Ending) (w':World):Prop :=
 match zJ (l.drop p) with
 | .error q=>e=.returned (.tuple #[.int .u8 0,.int .u64 0,.int .i64 (q:Int)])∧(∃ p',p'≤l.length∧Blk w' g T (rQ A l.length c p' cnt))∧w.grownBy w' (some g)
 | .ok (f,n,k)=>e=.returned (.tuple #[.int .u8 (f:Int),.int .u64 (n:Int),.int .i64 0])∧Blk w' g T (rQ A l.length c (p+k) cnt)∧w.grownBy w' (some g)
theorem HeadSaid.err {T:TypeId}{w w':World}{g:Nat}{A:Option Addr}{c:Nat}{l:List UInt8}{p cnt:Nat}{e:Ending}{q:Nat}(h:zJ (l.drop p)=.error q) (he:e=.returned (.tuple #[.int .u8 0,.int .u64 0,.int .i64 (q:Int)]))
  (p':Nat) (hp:p'≤l.length) (hb:Blk w' g T (rQ A l.length c p' cnt)) (hg:w.grownBy w' (some g)):HeadSaid T w g A c l p cnt e w':=by
 rw[HeadSaid,h];exact⟨he,⟨p',hp,hb⟩,hg⟩
theorem HeadSaid.ok {T:TypeId}{w w':World}{g:Nat}{A:Option Addr}{c:Nat}{l:List UInt8}{p cnt:Nat}{e:Ending}{f n k:Nat}(h:zJ (l.drop p)=.ok (f,n,k)) (he:e=.returned (.tuple #[.int .u8 (f:Int),.int .u64 (n:Int),.int .i64 0]))
  (hb:Blk w' g T (rQ A l.length c (p+k) cnt)) (hg:w.grownBy w' (some g)):HeadSaid T w g A c l p cnt e w':=by
 rw[HeadSaid,h];exact⟨he,hb,hg⟩
theorem ax:∀ X:Fin 256,bits .and .u8 ((X.val:Nat):Int) 31=((X.val%32:Nat):Int):=by decide
theorem nJ {l:List UInt8}{p:Nat}(hp:p<l.length):l.drop p=l[p]::l.drop (p+1):=List.drop_eq_getElem_cons hp
theorem po {w:World}{g:Nat}{H:Snap}{A:Option Addr}{c:Nat}{l:List UInt8}{p cnt:Nat}(hP:Psr 117 w g H A c l p cnt) :
  Calls Tryz.prog 100 #[.pointer (some ⟨g,0,none⟩)] w (HeadSaid 117 w g A c l p cnt):=by
 have hB:=hP.blk;have c0:=jf8;have c1:=jgG;have i6:=hP.le;have mT:=hP.small;have rE:=hP.bytes.le;have mv:=hP.bytes.max;have HP:=Hh hP
 by_cases zB:p=l.length
 ·have E:Hid (zJ (l.drop p)=.error 2):=by rw[Hid,zB,List.drop_length];rfl
  have z0:((p:Int)==(l.length:Int))=true:=by simp[zB]
  have HL:=Hh i6;clear i6 mT rE mv hP zB;go_enter Tryz.func100,Tryz.ntmps100
  go_wp2_with fail
  go_big_quiet (fail)
  go_wp2_with fail
  go_ret3
  exact HeadSaid.err E.out rfl p HL.out hB (vg (yt w _) _)
 have z0:((p:Int)==(l.length:Int))=false:=by simp;omega
 have qU:p<l.length:=by omega
 have ZE:(p:Int)<(l.length:Int):=by omega
 have Ut:(0:Int)≤(p:Int):=by omega
 have PD:(p:Int)+1≤9223372036854775807:=by omega
 obtain⟨b,off,rfl,yF⟩:=hP.bytes.at_ (by omega);have HC:=Hh yF;have HH:=Hh hP.holds;have q0:=hP.holds.cell (yF p qU);have ED:=Hh (nJ qU);obtain⟨ch,e8⟩:∃ ch,l[p]=ch:=⟨_,rfl⟩
 rw[e8]at q0 ED;have lc:=ch.toNat_lt;have KA:=ax ⟨ch.toNat,lc⟩
 simp only at KA
 obtain⟨low,xN⟩:∃ low,ch.toNat%32=low:=⟨_,rfl⟩
 rw[xN]at KA;have sD:=Hh xN;have Qv:low<32:=by omega
 have HL:=Hh (And.intro qU (And.intro mT (And.intro rE mv)))
 have EH:Hid (zJ (l.drop p)=if 27<low then .error 3 else if low<24 then .ok (ch.toNat,low,1) else if(l.drop (p+1)).length<2 ^ (low-24) then .error 2
   else if ch.toNat/32<7∧(zF 0 (beN ((l.drop (p+1)).take (2 ^ (low-24))))).length≠1+2 ^ (low-24) then .error 4
   else .ok (ch.toNat,beN ((l.drop (p+1)).take (2 ^ (low-24))),1+2 ^ (low-24))):=by rw[Hid,ED.out,zJ,xN]
 clear i6 mT rE mv hP zB yF e8 xN qU ED lc;go_enter Tryz.func100,Tryz.ntmps100
 go_wp2_with fail
 go_big_quiet (fail)
 obtain⟨w1,oS⟩:∃ W,w.drewN nq=W:=⟨_,rfl⟩
 obtain⟨y8,xg,nA⟩:=jhC;have q1:w1.cell? ⟨b,off+p,none⟩=some (zT ch):=oS ▸ q0;rw[oS];clear oS c0 c1 q0 hB;have c0:=y8.cell 0 rfl;have c1:=y8.cell 1 rfl;go_upto_region 3 with fail
 go_big_quiet (fail)
 obtain⟨w2,sN⟩:∃ W,w1.drewN nq=W:=⟨_,rfl⟩
 have yT:Blk w2 g 117 (rQ (some ⟨b,off,none⟩) l.length c p cnt):=sN ▸ y8;have zM:w.grownBy w2 (some g):=sN ▸ vg xg _;have nB:Holds w2 H:=sN ▸ nA;rw[sN];clear sN c0 c1 y8 xg nA q1;have c1:=yT.cell 1 rfl
 by_cases jY:27<low
 ·have z27:(27:Int)<(low:Int):=by omega
  have E:Hid (zJ (l.drop p)=.error 3):=by rw[Hid,EH.out,if_pos jY]
  go_wp2_with fail
  go_ret3
  exact HeadSaid.err E.out rfl p (Nat.le_of_lt HL.out.1) yT zM
 have z27:¬ ((27:Int)<(low:Int)):=by omega
 have E1:Hid (zJ (l.drop p)=if low<24 then .ok (ch.toNat,low,1) else if(l.drop (p+1)).length<2 ^ (low-24) then .error 2
   else if ch.toNat/32<7∧(zF 0 (beN ((l.drop (p+1)).take (2 ^ (low-24))))).length≠1+2 ^ (low-24) then .error 4
   else .ok (ch.toNat,beN ((l.drop (p+1)).take (2 ^ (low-24))),1+2 ^ (low-24))):=by rw[Hid,EH.out,if_neg jY]
 clear EH;have K1:=jgt;go_wp2_with (with_reducible refine zx ?_)
 refine zu rfl _ _ _ rfl rfl g 1 (.int .i64 ((p:Int)+1)) rfl rfl _ _ yT yp (by simp) rfl fun w3 vL hG3'=>?_
 have yY:=yu zM hG3' (.inl rfl);have vL:Blk w3 g 117 (rQ (some ⟨b,off,none⟩) l.length c (p+1) cnt):=vL;have Pi:Holds w3 H:=nB.grown hG3' (by rintro q ⟨⟩;exact HP.out.apart);clear yT zM hG3' c1 nB K1
 by_cases tZ:low<24
 ·have z24:(low:Int)<24:=by omega
  have E:Hid (zJ (l.drop p)=.ok (ch.toNat,low,1)):=by rw[Hid,E1.out,if_pos tZ]
  have KU:IntKind.u64.wrap (low:Int)=(low:Int):=by rw[IntKind.wrap_u64];omega
  go_wp2_with fail
  go_ret3
  exact HeadSaid.ok E.out rfl vL yY
 have z24:¬ ((low:Int)<24):=by omega
 have E2:Hid (zJ (l.drop p)=if(l.drop (p+1)).length<2 ^ (low-24) then .error 2
   else if ch.toNat/32<7∧(zF 0 (beN ((l.drop (p+1)).take (2 ^ (low-24))))).length≠1+2 ^ (low-24) then .error 4
   else .ok (ch.toNat,beN ((l.drop (p+1)).take (2 ^ (low-24))),1+2 ^ (low-24))):=by rw[Hid,E1.out,if_neg tZ]
 clear E1;have Z9:Psr 117 w3 g H (some ⟨b,off,none⟩) c l (p+1) cnt:=⟨vL,HP.out.bytes,Pi,HP.out.apart,HL.out.1,HP.out.small,HP.out.cnt_le⟩
 rcases(by omega:low=24∨low=25∨low=26∨low=27) with rfl | rfl | rfl | rfl
 ·have NM:=Hh (kz Z9 1 (by omega) (by omega))
  simp only[Nat.reduceSub,Nat.reducePow,Nat.reduceAdd]at E2
  clear jY tZ z27 z24 Qv Z9;go_wp2_with fail
  refine NM.out.mono ?_
  rintro e w4 (⟨hs,rfl,lR,xj⟩ | ⟨hs,rfl,lR,xj⟩)
  ·exact jaK
  have E3:Hid (zJ (l.drop p)=if ch.toNat/32<7∧(zF 0 (beN ((l.drop (p+1)).take 1))).length≠2 then .error 4 else .ok (ch.toNat,beN ((l.drop (p+1)).take 1),2)):=by
   exact jbX
  have xT:=yu yY xj (.inl rfl);have nD:=rS ((l.drop (p+1)).take 1);have kK:((l.drop (p+1)).take 1).length=1:=by rw[List.length_take,List.length_drop];omega
  rw[kK]at nD
  simp only[Nat.reducePow]at nD
  obtain⟨n,hn⟩:∃ n,beN ((l.drop (p+1)).take 1)=n:=⟨_,rfl⟩
  rw[hn]at E3 nD⊢;have HD:=jgr;have HS:=Hh hs;have qc:Blk w4 g 117 (rQ (some ⟨b,off,none⟩) l.length c (p+2) cnt):=lR;clear NM hs E2 hn kK nD lR xj
  by_cases h7:ch.toNat/32<7
  ·have z7:(ch.toNat:Int)/32<7:=by omega
   have E4:Hid (zJ (l.drop p)=if(zF 0 n).length≠2 then .error 4 else .ok (ch.toNat,n,2)):=by
    rw[Hid,E3.out]
    by_cases h:(zF 0 n).length=2 <;> simp[h,h7]
   clear E3 h7;go_wp2_with fail
   refine(HD.out _).mono ?_
   rintro e w5 ⟨r,rfl,hf⟩
   have nX:=qc.below hf.2;have xW:=wX xT hf.2;obtain⟨RA,rc,rfl,_⟩:=hf.own.form;obtain⟨hn,dG⟩:∃ hn,(zF (0:Int).toNat (n:Int).toNat).length=hn:=⟨_,rfl⟩
   rw[dG];have E5:Hid (zJ (l.drop p)=if hn≠2 then .error 4 else .ok (ch.toNat,n,2)):=by rw[Hid,E4.out,← dG];rfl
   clear hf HD E4 dG qc xT
   by_cases hq:hn=2
   ·subst hq;have E:Hid (zJ (l.drop p)=.ok (ch.toNat,n,2)):=by rw[Hid,E5.out,if_neg (by simp)]
    exact jbZ
   have zq:((hn:Int)==2)=false:=by simp;omega
   have zq2:((hn:Int)=2)=False:=eq_false (by omega);have E:Hid (zJ (l.drop p)=.error 4):=by rw[Hid,E5.out,if_pos hq]
   clear E5 hq z0 PD ZE Ut KA;go_wp2_with fail
   go_ret3
   exact HeadSaid.err E.out rfl (p+2) (by have:=HS.out;omega) nX xW
  have z7:¬ ((ch.toNat:Int)/32<7):=by omega
  have z7b:=jgP;have E:Hid (zJ (l.drop p)=.ok (ch.toNat,n,2)):=by rw[Hid,E3.out,if_neg (fun h=>h7 h.1)]
  exact jbM
 ·have NM:=Hh (kz Z9 2 (by omega) (by omega))
  simp only[Nat.reduceSub,Nat.reducePow,Nat.reduceAdd]at E2
  clear jY tZ z27 z24 Qv Z9;go_wp2_with fail
  refine NM.out.mono ?_
  rintro e w4 (⟨hs,rfl,lR,xj⟩ | ⟨hs,rfl,lR,xj⟩)
  ·exact jaK
  have E3:Hid (zJ (l.drop p)=if ch.toNat/32<7∧(zF 0 (beN ((l.drop (p+1)).take 2))).length≠3 then .error 4 else .ok (ch.toNat,beN ((l.drop (p+1)).take 2),3)):=by
   exact jbX
  have xT:=yu yY xj (.inl rfl);have nD:=rS ((l.drop (p+1)).take 2);have kK:((l.drop (p+1)).take 2).length=2:=by rw[List.length_take,List.length_drop];omega
  rw[kK]at nD
  simp only[Nat.reducePow]at nD
  obtain⟨n,hn⟩:∃ n,beN ((l.drop (p+1)).take 2)=n:=⟨_,rfl⟩
  rw[hn]at E3 nD⊢;have HD:=jgr;have HS:=Hh hs;have qc:Blk w4 g 117 (rQ (some ⟨b,off,none⟩) l.length c (p+3) cnt):=lR;clear NM hs E2 hn kK nD lR xj
  by_cases h7:ch.toNat/32<7
  ·have z7:(ch.toNat:Int)/32<7:=by omega
   have E4:Hid (zJ (l.drop p)=if(zF 0 n).length≠3 then .error 4 else .ok (ch.toNat,n,3)):=by
    rw[Hid,E3.out]
    by_cases h:(zF 0 n).length=3 <;> simp[h,h7]
   clear E3 h7;go_wp2_with fail
   refine(HD.out _).mono ?_
   rintro e w5 ⟨r,rfl,hf⟩
   have nX:=qc.below hf.2;have xW:=wX xT hf.2;obtain⟨RA,rc,rfl,_⟩:=hf.own.form;obtain⟨hn,dG⟩:∃ hn,(zF (0:Int).toNat (n:Int).toNat).length=hn:=⟨_,rfl⟩
   rw[dG];have E5:Hid (zJ (l.drop p)=if hn≠3 then .error 4 else .ok (ch.toNat,n,3)):=by rw[Hid,E4.out,← dG];rfl
   clear hf HD E4 dG qc xT
   by_cases hq:hn=3
   ·subst hq;have E:Hid (zJ (l.drop p)=.ok (ch.toNat,n,3)):=by rw[Hid,E5.out,if_neg (by simp)]
    exact jbZ
   have zq:((hn:Int)==3)=false:=by simp;omega
   have zq2:((hn:Int)=3)=False:=eq_false (by omega);have E:Hid (zJ (l.drop p)=.error 4):=by rw[Hid,E5.out,if_pos hq]
   clear E5 hq z0 PD ZE Ut KA;go_wp2_with fail
   go_ret3
   exact HeadSaid.err E.out rfl (p+3) (by have:=HS.out;omega) nX xW
  have z7:¬ ((ch.toNat:Int)/32<7):=by omega
  have z7b:=jgP;have E:Hid (zJ (l.drop p)=.ok (ch.toNat,n,3)):=by rw[Hid,E3.out,if_neg (fun h=>h7 h.1)]
  exact jbM
 ·have NM:=Hh (kz Z9 4 (by omega) (by omega))
  simp only[Nat.reduceSub,Nat.reducePow,Nat.reduceAdd]at E2
  clear jY tZ z27 z24 Qv Z9;go_wp2_with fail
  refine NM.out.mono ?_
  rintro e w4 (⟨hs,rfl,lR,xj⟩ | ⟨hs,rfl,lR,xj⟩)
  ·exact jaK
  have E3:Hid (zJ (l.drop p)=if ch.toNat/32<7∧(zF 0 (beN ((l.drop (p+1)).take 4))).length≠5 then .error 4 else .ok (ch.toNat,beN ((l.drop (p+1)).take 4),5)):=by
   exact jbX
  have xT:=yu yY xj (.inl rfl);have nD:=rS ((l.drop (p+1)).take 4);have kK:((l.drop (p+1)).take 4).length=4:=by rw[List.length_take,List.length_drop];omega
  rw[kK]at nD
  simp only[Nat.reducePow]at nD
  obtain⟨n,hn⟩:∃ n,beN ((l.drop (p+1)).take 4)=n:=⟨_,rfl⟩
  rw[hn]at E3 nD⊢;have HD:=jgr;have HS:=Hh hs;have qc:Blk w4 g 117 (rQ (some ⟨b,off,none⟩) l.length c (p+5) cnt):=lR;clear NM hs E2 hn kK nD lR xj
  by_cases h7:ch.toNat/32<7
  ·have z7:(ch.toNat:Int)/32<7:=by omega
   have E4:Hid (zJ (l.drop p)=if(zF 0 n).length≠5 then .error 4 else .ok (ch.toNat,n,5)):=by
    rw[Hid,E3.out]
    by_cases h:(zF 0 n).length=5 <;> simp[h,h7]
   clear E3 h7;go_wp2_with fail
   refine(HD.out _).mono ?_
   rintro e w5 ⟨r,rfl,hf⟩
   have nX:=qc.below hf.2;have xW:=wX xT hf.2;obtain⟨RA,rc,rfl,_⟩:=hf.own.form;obtain⟨hn,dG⟩:∃ hn,(zF (0:Int).toNat (n:Int).toNat).length=hn:=⟨_,rfl⟩
   rw[dG];have E5:Hid (zJ (l.drop p)=if hn≠5 then .error 4 else .ok (ch.toNat,n,5)):=by rw[Hid,E4.out,← dG];rfl
   clear hf HD E4 dG qc xT
   by_cases hq:hn=5
   ·subst hq;have E:Hid (zJ (l.drop p)=.ok (ch.toNat,n,5)):=by rw[Hid,E5.out,if_neg (by simp)]
    exact jbZ
   have zq:((hn:Int)==5)=false:=by simp;omega
   have zq2:((hn:Int)=5)=False:=eq_false (by omega);have E:Hid (zJ (l.drop p)=.error 4):=by rw[Hid,E5.out,if_pos hq]
   clear E5 hq z0 PD ZE Ut KA;go_wp2_with fail
   go_ret3
   exact HeadSaid.err E.out rfl (p+5) (by have:=HS.out;omega) nX xW
  have z7:¬ ((ch.toNat:Int)/32<7):=by omega
  have z7b:=jgP;have E:Hid (zJ (l.drop p)=.ok (ch.toNat,n,5)):=by rw[Hid,E3.out,if_neg (fun h=>h7 h.1)]
  exact jbM
 have NM:=Hh (kz Z9 8 (by omega) (by omega))
 simp only[Nat.reduceSub,Nat.reducePow,Nat.reduceAdd]at E2
 clear jY tZ z27 z24 Qv Z9;go_wp2_with fail
 refine NM.out.mono ?_
 rintro e w4 (⟨hs,rfl,lR,xj⟩ | ⟨hs,rfl,lR,xj⟩)
 ·exact jaK
 have E3:Hid (zJ (l.drop p)=if ch.toNat/32<7∧(zF 0 (beN ((l.drop (p+1)).take 8))).length≠9 then .error 4 else .ok (ch.toNat,beN ((l.drop (p+1)).take 8),9)):=by
  exact jbX
 have xT:=yu yY xj (.inl rfl);have nD:=rS ((l.drop (p+1)).take 8);have kK:((l.drop (p+1)).take 8).length=8:=by rw[List.length_take,List.length_drop];omega
 rw[kK]at nD
 simp only[Nat.reducePow]at nD
 obtain⟨n,hn⟩:∃ n,beN ((l.drop (p+1)).take 8)=n:=⟨_,rfl⟩
 rw[hn]at E3 nD⊢;have HD:=jgr;have HS:=Hh hs;have qc:Blk w4 g 117 (rQ (some ⟨b,off,none⟩) l.length c (p+9) cnt):=lR;clear NM hs E2 hn kK nD lR xj
 by_cases h7:ch.toNat/32<7
 ·have z7:(ch.toNat:Int)/32<7:=by omega
  have E4:Hid (zJ (l.drop p)=if(zF 0 n).length≠9 then .error 4 else .ok (ch.toNat,n,9)):=by
   rw[Hid,E3.out]
   by_cases h:(zF 0 n).length=9 <;> simp[h,h7]
  clear E3 h7;go_wp2_with fail
  refine(HD.out _).mono ?_
  rintro e w5 ⟨r,rfl,hf⟩
  have nX:=qc.below hf.2;have xW:=wX xT hf.2;obtain⟨RA,rc,rfl,_⟩:=hf.own.form;obtain⟨hn,dG⟩:∃ hn,(zF (0:Int).toNat (n:Int).toNat).length=hn:=⟨_,rfl⟩
  rw[dG];have E5:Hid (zJ (l.drop p)=if hn≠9 then .error 4 else .ok (ch.toNat,n,9)):=by rw[Hid,E4.out,← dG];rfl
  clear hf HD E4 dG qc xT
  by_cases hq:hn=9
  ·subst hq;have E:Hid (zJ (l.drop p)=.ok (ch.toNat,n,9)):=by rw[Hid,E5.out,if_neg (by simp)]
   exact jbZ
  have zq:((hn:Int)==9)=false:=by simp;omega
  have zq2:((hn:Int)=9)=False:=eq_false (by omega);have E:Hid (zJ (l.drop p)=.error 4):=by rw[Hid,E5.out,if_pos hq]
  clear E5 hq z0 PD ZE Ut KA;go_wp2_with fail
  go_ret3
  exact HeadSaid.err E.out rfl (p+9) (by have:=HS.out;omega) nX xW
 have z7:¬ ((ch.toNat:Int)/32<7):=by omega
 have z7b:=jgP;have E:Hid (zJ (l.drop p)=.ok (ch.toNat,n,9)):=by rw[Hid,E3.out,if_neg (fun h=>h7 h.1)]
 exact jbM
end Go.Proofs.YtgaoknihklmakabGreatDoor
