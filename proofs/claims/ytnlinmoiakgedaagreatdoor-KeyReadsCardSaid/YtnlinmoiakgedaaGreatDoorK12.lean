/- squeezed. Walks: cbor.checker.spend. Walks:  -/
import Derived.Deep.DeepCutAuto
import Derived.Test.YtnlinmoiakgedaaGreatDoorK11
import Derived.Deep.Matrix
set_option linter.unusedVariables false
set_option linter.unusedSimpArgs false
set_option maxRecDepth 100000
set_option maxHeartbeats 3200000
namespace Go.Proofs.YtnlinmoiakgedaaGreatDoor
open Go.RowKit
abbrev Chk (w:World) (g:Nat) (i s:Int):Prop:=Blk w g 86 #[.int .i64 i,.int .i64 s]
theorem fI {H:Snap}{x:Itm}{ba:Option Addr}{bc:Nat}{ia:Option Addr}{ic:Nat}(hx:IsItem H ba bc ia ic x) (w:World) (g:Nat) (i s:Int) (hc:Chk w g i s) (h8:x.kind=8) (hs0:0≤s) (xE:s≤1099511627776) :
  Calls Tryz.prog 65 #[.pointer (some ⟨g,0,none⟩),xN x ba bc ia ic] w fun e w'=>e=.returned (.bool (decide (s+yr x≤4096)))∧Chk w' g i (s+yr x)∧w.grownBy w' (some g):=by
 have vu:=rY x.n;have E:Hid (yr x=(zF x.n).length):=by simp[Hid,yr,h8]
 obtain⟨_,_,hn,_⟩:=hx.bounds;have HN:U64 x.n:=⟨by omega,by omega⟩
 have yi:=hc.lt;have hB:=Blk.new w 26 #[.int .i64 8,.int .u64 x.n,.slice ba x.bytes.length bc,.slice ia x.items.length ic];have hC:=hc.alloc (.cells #[.int .i64 8,.int .u64 x.n,.slice ba x.bytes.length bc,.slice ia x.items.length ic] 26);clear hx hn;go_enter Tryz.func65,Tryz.ntmps65
 go_wp2_with fail
 refine zf 11 (fun w'=>w'.cell? ⟨g,1,none⟩=some (.int .i64 s)∧w'.cell? ⟨w.heap.size,1,none⟩=some (.int .u64 x.n)) (by kernel_rfl) (⟨hC.cell 1 rfl,hB.cell 1 rfl⟩) (fun zy=>?_)
 refine Tk 0 rfl zy ?_
 refine Tk 1 rfl zy ?_
 refine Tk 2 rfl zy ?_
 refine Tk 3 rfl zy ?_
 refine Tk 4 rfl zy ?_
 refine Tk 5 rfl zy ?_
 refine To 6 rfl fun K hK=>?_
 go_simp
 refine(js _ _ HN.1 HN.2).mono ?_
 rintro e w1 ⟨r,rfl,hf⟩
 obtain⟨A,c,rfl,_,_,_⟩:=hf.own.form;have ll:=hC.drew.below hf.2
 refine hK.out _ _ (fun _=>?_) (fun zy=>?_)
 ·exact⟨ll.cell 1 rfl,(hB.drew.below hf.2).cell 1 rfl⟩
 clear hK K;have zy:=zy (by decide)
 try simp only[Act.put,zz4,zz5,zz6]
 refine Tk 7 rfl zy ?_
 refine Tk 8 rfl zy ?_
 refine Tk 9 rfl zy ?_
 refine Tk 10 rfl zy ?_
 refine To 11 rfl fun K hK=>?_
 have d1:=ll.cell 1 rfl;have d2:=ll.frozen 1;go_simp
 refine hK.out _ _ (fun h=>absurd rfl h) (fun _=>?_)
 clear hK K
 try simp only[Act.put,zz4,zz5,zz6]
 refine Ways.done (by kernel_rfl) ?_
 all_goals
  have hw:Hid (IntKind.i64.wrap (s+((zF x.n).length:Int))=s+(yr x:Int)):=by rw[Hid,E.out];exact IntWalk.i64_in _ (by omega)
  have R:Chk (w1.setCell ⟨g,1,none⟩ (.int .i64 (s+(yr x:Int)))) g i (s+(yr x:Int))∧w.grownBy (w1.setCell ⟨g,1,none⟩ (.int .i64 (s+(yr x:Int)))) (some g) :=
   ⟨(hC.drew.below hf.2).set_ 1 _,ur (wT (tO (vz (yU w _) _)) hf.2) (.inl rfl) _⟩
  rw[hw.out];have e1:=R.1.cell 1 rfl;clear d1 d2;go_wp2
  go_ret
  exact⟨rfl,R⟩
theorem iA {x:Itm}{ba:Option Addr}{bc:Nat}{ia:Option Addr}{ic:Nat}(w:World) (g:Nat) (i s:Int) (hc:Chk w g i s) (h7:x.kind=7) (hs0:0≤s) (xE:s≤1099511627776) :
  Calls Tryz.prog 65 #[.pointer (some ⟨g,0,none⟩),xN x ba bc ia ic] w fun e w'=>e=.returned (.bool (decide (s+yr x≤4096)))∧Chk w' g i (s+yr x)∧w.grownBy w' (some g):=by
 have yi:=hc.lt;have c1:=hc.cell 1 rfl;have f1:=hc.frozen 1
 by_cases ta:(24:Int)≤(x.n:Int)
 ·have E:Hid ((yr x:Int)=2):=by
   have:24≤x.n:=by omega
   simp[Hid,yr,h7,this]
  have d1:=(hc.set_ 1 (.int .i64 (s+1))).cell 1 rfl;have g1:=(hc.set_ 1 (.int .i64 (s+1))).frozen 1;go_enter Tryz.func65,Tryz.ntmps65
  go_wp2
  go_ret
  have e:s+1+1=s+(yr x:Int):=by rw[E.out];omega
  rw[← e]
  exact⟨rfl,((hc.set_ 1 _).set_ 1 _).alloc _,vz (ur (ur (yU w _) (.inl rfl) _) (.inl rfl) _) _⟩
 ·have E:Hid ((yr x:Int)=1):=by
   have:¬ 24≤x.n:=by omega
   simp[Hid,yr,h7,this]
  have d1:=(hc.set_ 1 (.int .i64 (s+1))).cell 1 rfl;go_enter Tryz.func65,Tryz.ntmps65
  go_wp2
  go_ret
  have e:s+1=s+(yr x:Int):=by rw[E.out]
  rw[← e]
  exact⟨rfl,(hc.set_ 1 _).alloc _,vz (ur (yU w _) (.inl rfl) _) _⟩
theorem dW {H:Snap}{x:Itm}{ba:Option Addr}{bc:Nat}{ia:Option Addr}{ic:Nat}(hx:IsItem H ba bc ia ic x) (w:World) (g:Nat) (i s:Int) (hc:Chk w g i s) (h0:0≤x.kind) (h7:x.kind<7) (hs0:0≤s) (xE:s≤1099511627776) (sN:x.bytes.length≤1099511627776) :
  Calls Tryz.prog 65 #[.pointer (some ⟨g,0,none⟩),xN x ba bc ia ic] w fun e w'=>e=.returned (.bool (decide (s+yr x≤4096)))∧Chk w' g i (s+yr x)∧w.grownBy w' (some g):=by
 have yi:=hc.lt
 have Sn:(numP x:Int)<18446744073709551616:=by
  have:=hx.bounds
  unfold numP
  repeat' split
  all_goals omega
 have HN:U64 (numP x):=⟨by omega,Sn⟩
 have XS:=ss x.kind.toNat (numP x);have E:Hid (yr x=(zm x.kind.toNat (numP x)).length+x.bytes.length):=by rw[Hid,yr,if_neg (by omega),if_neg (by omega)]
 have b7:(x.kind==7)=false:=by simp;omega
 have b8:(x.kind==8)=false:=by simp;omega
 have hB:=Blk.new w 26 #[.int .i64 x.kind,.int .u64 x.n,.slice ba x.bytes.length bc,.slice ia x.items.length ic];have hC:=hc.alloc (.cells #[.int .i64 x.kind,.int .u64 x.n,.slice ba x.bytes.length bc,.slice ia x.items.length ic] 26);clear Sn;go_enter Tryz.func65,Tryz.ntmps65
 go_wp2_with fail
 refine zf 17 (fun w'=>w'.cell? ⟨g,1,none⟩=some (.int .i64 s)∧w'.cell? ⟨w.heap.size,0,none⟩=some (.int .i64 x.kind)∧w'.cell? ⟨w.heap.size,1,none⟩=some (.int .u64 x.n)∧w'.cell? ⟨w.heap.size,2,none⟩=some (.slice ba x.bytes.length bc)∧w'.cell? ⟨w.heap.size,3,none⟩=some (.slice ia x.items.length ic)) (by kernel_rfl) (⟨hC.cell 1 rfl,hB.cell 0 rfl,hB.cell 1 rfl,hB.cell 2 rfl,hB.cell 3 rfl⟩) (fun zy=>?_)
 refine Tk 0 rfl zy ?_
 refine Tk 1 rfl zy ?_
 refine Tk 2 rfl zy ?_
 refine Tk 3 rfl zy ?_
 refine Tk 4 rfl zy ?_
 refine Tk 10 rfl zy ?_
 refine Tk 11 rfl zy ?_
 refine Tk 12 rfl zy ?_
 refine To 5 rfl fun K hK=>?_
 go_simp
 refine(jt hx.arg _ (by omega) (by omega)).mono ?_
 rintro e w1 ⟨rfl,hm⟩
 have yM:=hB.drew.below hm;have ll:=hC.drew.below hm
 refine hK.out _ _ (fun _=>?_) (fun zy=>?_)
 ·exact⟨ll.cell 1 rfl,yM.cell 0 rfl,yM.cell 1 rfl,yM.cell 2 rfl,yM.cell 3 rfl⟩
 clear hK K;have zy:=zy (by decide)
 try simp only[Act.put,zz4,zz5,zz6]
 refine Tk 6 rfl zy ?_
 refine Tk 7 rfl zy ?_
 refine To 8 rfl fun K hK=>?_
 go_simp
 refine(sQ _ _ _ (by omega) (by omega) (by omega) HN.2).mono ?_
 rintro e w2 ⟨r,rfl,hf⟩
 obtain⟨A,c,rfl,_,_,_⟩:=hf.own.form;have yu:=yM.below hf.2;have jg:=ll.below hf.2
 refine hK.out _ _ (fun _=>?_) (fun zy=>?_)
 ·exact⟨jg.cell 1 rfl,yu.cell 0 rfl,yu.cell 1 rfl,yu.cell 2 rfl,yu.cell 3 rfl⟩
 clear hK K;have zy:=zy (by decide)
 try simp only[Act.put,zz4,zz5,zz6]
 refine Tk 9 rfl zy ?_
 refine Tk 13 rfl zy ?_
 refine Tk 14 rfl zy ?_
 refine Tk 15 rfl zy ?_
 refine Tk 16 rfl zy ?_
 refine To 17 rfl fun K hK=>?_
 have d1:=jg.cell 1 rfl;have d2:=jg.frozen 1;go_simp
 refine hK.out _ _ (fun h=>absurd rfl h) (fun _=>?_)
 clear hK K
 try simp only[Act.put,zz4,zz5,zz6]
 refine Ways.done (by kernel_rfl) ?_
 have hw:Hid (IntKind.i64.wrap (s+IntKind.i64.wrap (((zm x.kind.toNat (numP x)).length:Int)+(x.bytes.length:Int)))=s+(yr x:Int)):=by
  rw[Hid,E.out,IntWalk.i64_in (((zm x.kind.toNat (numP x)).length:Int)+(x.bytes.length:Int)) (by omega),IntWalk.i64_in _ (by omega)]
  omega
 have R:Chk (w2.setCell ⟨g,1,none⟩ (.int .i64 (s+(yr x:Int)))) g i (s+(yr x:Int))∧w.grownBy (w2.setCell ⟨g,1,none⟩ (.int .i64 (s+(yr x:Int)))) (some g) :=
  ⟨jg.set_ 1 _,ur (wT (wT (tO (vz (yU w _) _)) hm) hf.2) (.inl rfl) _⟩
 rw[Int.toNat_natCast]at *;rw[hw.out];have e1:=R.1.cell 1 rfl;clear d1 d2;go_wp2
 go_ret
 exact⟨rfl,R⟩
theorem ju {H:Snap}{k n:Int}{ba:Option Addr}{bl bc:Nat}{ia:Option Addr}{il ic:Nat}{x:Itm}(hx:ItemA H k n ba bl bc ia il ic x) (w:World) (g:Nat) (i s:Int) (hc:Chk w g i s)
  (h0:0≤x.kind) (h8:x.kind≤8) (hs0:0≤s) (xE:s≤1099511627776) (sN:x.bytes.length≤1099511627776) :
  Calls Tryz.prog 65 #[.pointer (some ⟨g,0,none⟩),.agg #[.int .i64 k,.int .u64 n,.slice ba bl bc,.slice ia il ic]] w
   fun e w'=>e=.returned (.bool (decide (s+yr x≤4096)))∧Chk w' g i (s+yr x)∧w.grownBy w' (some g):=by
 obtain⟨rfl,rfl,rfl,rfl,hx⟩:=hx
 by_cases h:x.kind=8
 ·exact fI hx w g i s hc h hs0 xE
 by_cases h7:x.kind=7
 ·exact iA w g i s hc h7 hs0 xE
 ·exact dW hx w g i s hc h0 (by omega) hs0 xE sN
end Go.Proofs.YtnlinmoiakgedaaGreatDoor
namespace Go.Proofs.YtnlinmoiakgedaaGreatDoor
open Go.RowKit
theorem jn {H:Snap}(l:List Itm) (b off:Nat) (A:Option Addr) (ic:Nat) (w:World) (hA:0<l.length→A=some ⟨b,off,none⟩∧IsElems H b off l) (hH:Holds w H) (hk:KindsL l)
  (zK:∀ k (h:k<l.length),(zd l[k]).length≤1099511627776) (n:Nat) (hn:n=l.length) (vE:n≤1099511627776) :
  Calls Tryz.prog 66 #[.slice A n ic] w fun e w'=>e=.returned (.bool (xX l))∧Below w.heap.size w w':=by
 obtain⟨ans,UM⟩:∃ b,xX l=b:=⟨_,rfl⟩
 rw[UM];have OC:=Hh UM;have MX:=Hh hn;have RD:=Hh zK;have Ks:=Hh hA;clear UM hn zK hA;go_enter Tryz.func66,Tryz.ntmps66
 go_wp2
 go_loopw [3] (fun i wr=>∃ j:Nat,2≤j∧i=.int .i64 j∧j≤n+2∧xX (l.drop (j-2))=ans∧Below w.heap.size w wr) (fun i _=>(n+2-intOf i).toNat)
 case atStart=>exact⟨2,Nat.le_refl _,rfl,by omega,by simpa using OC.out,Below.refl _ _⟩
 case round =>
  obtain⟨j,h2,rfl,hj,uA,hb⟩:=hrel
  by_cases yi:j<n
  ·have hn:=MX.out;obtain⟨hA,wI⟩:=Ks.out (by omega);have wW:=sP l j h2 (by omega);obtain⟨y1,y2,y3,y4,p0,p1,p2,p3,hy⟩:=wI.get (j-2) (by omega);obtain⟨z1,z2,z3,z4,q0,q1,q2,q3,hz⟩:=wI.get j (by omega);have Xa:=hk.get (j-2) (by omega);have Py:=hk.get j (by omega);have lq:=RD.out (j-2) (by omega);have cF:=RD.out j (by omega)
   generalize l[j-2]'(by omega)=y at *
   generalize l[j]'(by omega)=z at *
   have xt:(0:Int)≤(j:Int)-2:=by omega
   have qC:(j:Int)-2<(n:Int):=by omega
   have XW:(2:Int)≤(j:Int):=by omega
   have o7:(j:Int)<(n:Int):=by omega
   subst hA;have mc:=Hh wW;have iL:=Hh uA;have Um:Hid (w.heap.size≤wr.heap.size):=hb.size;have xT:Holds wr H:=hH.below hb (Nat.le_refl _);have Sf:Holds wr.drew H:=xT.drew;have o3:IntKind.i64.wrap ((j:Int)-2)=(j:Int)-2:=IntWalk.i64_in _ (by omega);have oe:((j:Int)-2).toNat=j-2:=by omega
   clear wW uA hn wI;go_wp2_with fail
   refine zf 12 (fun w'=>w'.cell? ⟨b,off+(j-2)*4,none⟩=some (.int .i64 y.kind)∧w'.cell? ⟨b,off+(j-2)*4+1,none⟩=some (.int .u64 y.n)∧w'.cell? ⟨b,off+(j-2)*4+2,none⟩=some (.slice y1 y.bytes.length y2)∧w'.cell? ⟨b,off+(j-2)*4+3,none⟩=some (.slice y3 y.items.length y4)∧w'.cell? ⟨b,off+j*4,none⟩=some (.int .i64 z.kind)∧w'.cell? ⟨b,off+j*4+1,none⟩=some (.int .u64 z.n)∧w'.cell? ⟨b,off+j*4+2,none⟩=some (.slice z1 z.bytes.length z2)∧w'.cell? ⟨b,off+j*4+3,none⟩=some (.slice z3 z.items.length z4)) (by kernel_rfl) (⟨xT.cell p0,xT.cell p1,xT.cell p2,xT.cell p3,xT.cell q0,xT.cell q1,xT.cell q2,xT.cell q3⟩) (fun zy=>?_)
   refine Tk 0 rfl zy ?_
   refine Tk 1 rfl zy ?_
   refine Tk 2 rfl zy ?_
   refine Tk 3 rfl zy ?_
   refine Tk 4 rfl zy ?_
   refine Tk 6 rfl zy ?_
   refine Tk 7 rfl zy ?_
   refine Tk 8 rfl zy ?_
   refine Tk 9 rfl zy ?_
   refine To 5 rfl fun K hK=>?_
   go_simp
   refine(rL y H _ _ _ _ _ _ _ _ _ w.heap.size (.slice none 0 0) [] Xa hy.arg Sf (OwnB.nil _ _) Um.out (by simp[Value.ownBlock]) (by simpa using lq)).mono ?_
   rintro e w1 ⟨r1,rfl,Zp,wS,Pk⟩
   obtain⟨A1,c1,rfl,_,_,xE⟩:=Zp.form;have vg:=yo wS;have qG:Holds w1 H:=Sf.below vg (Nat.le_refl _);have sB:=vg.size
   simp only[List.nil_append]at Zp xE
   refine hK.out _ _ (fun _=>?_) (fun zy=>?_)
   ·exact⟨qG.cell p0,qG.cell p1,qG.cell p2,qG.cell p3,qG.cell q0,qG.cell q1,qG.cell q2,qG.cell q3⟩
   clear hK K;have zy:=zy (by decide)
   try simp only[Act.put,zz4,zz5,zz6]
   refine To 10 rfl fun K hK=>?_
   go_simp
   refine(rL z H _ _ _ _ _ _ _ _ _ w.heap.size (.slice none 0 0) [] Py hz.arg qG (OwnB.nil _ _) (Nat.le_trans Um.out sB) (by simp[Value.ownBlock]) (by simpa using cF)).mono ?_
   rintro e w2 ⟨r2,rfl,eM,wk,Lb⟩
   obtain⟨A2,c2,rfl,_,_,vO⟩:=eM.form;have wg:=yo wk;have py:Holds w2 H:=qG.below wg (Nat.le_refl _)
   simp only[List.nil_append]at eM vO
   refine hK.out _ _ (fun _=>?_) (fun zy=>?_)
   ·exact⟨py.cell p0,py.cell p1,py.cell p2,py.cell p3,py.cell q0,py.cell q1,py.cell q2,py.cell q3⟩
   clear hK K;have zy:=zy (by decide)
   try simp only[Act.put,zz4,zz5,zz6]
   refine To 11 rfl fun K hK=>?_
   go_simp
   refine(tH _ _ _ (zd y) (zd z) _ _ _ _ (by simp) (by simp) (xE.below wg) vO).mono ?_
   rintro e w3 ⟨rfl,rfl⟩
   refine hK.out _ _ (fun _=>?_) (fun zy=>?_)
   ·exact⟨py.cell p0,py.cell p1,py.cell p2,py.cell p3,py.cell q0,py.cell q1,py.cell q2,py.cell q3⟩
   clear hK K;have zy:=zy (by decide)
   try simp only[Act.put,zz4,zz5,zz6]
   refine To 12 rfl fun K hK=>?_
   go_simp
   refine hK.out _ _ (fun h=>absurd rfl h) (fun _=>?_)
   clear hK K
   try simp only[Act.put,zz4,zz5,zz6]
   refine Ways.done (by kernel_rfl) ?_
   have lO:=hb.drew.trans ((vg.trans (wg.mono sB)).mono Um.out);have ul:=Hh (And.intro mc.out iL.out);clear mc iL p0 p1 p2 p3 q0 q1 q2 q3 zy Zp eM wS wk Pk Lb xE vO
   generalize hcv:Lib.compareBytes (zd y) (zd z)=cv at *
   by_cases hc:(0:Int)≤cv
   ·have ha:ans=false:=by
     obtain⟨h1,h2⟩:=ul.out;rw[← h2,h1];have:¬ cv<0:=by omega
     simp[this]
    have Ok:=Hh ha;clear ha;go_wp2
    go_ret
    exact⟨(by rw[Ok.out];rfl),lO⟩
   ·have ha:xX (l.drop j)=ans:=by
     obtain⟨h1,h2⟩:=ul.out;rw[← h2,h1];have:cv<0:=by omega
     simp[this]
    have Ok:=Hh ha;clear ha;go_wp2
    go_roundw
    case rel=>exact⟨j+2,by omega,by go_num,by omega,Ok.out,lO⟩
    case measure=>simp[intOf];omega
  ·have hn:=MX.out;have OS:=Hh (ph l j h2 (by omega));have iL:=Hh uA;clear uA hn;go_wp2
   go_ret
   exact⟨(by rw[← iL.out,OS.out];rfl),hb⟩
end Go.Proofs.YtnlinmoiakgedaaGreatDoor
namespace Go.Proofs.YtnlinmoiakgedaaGreatDoor
open Go.RowKit
def ki (w:World) (g:Nat) (o:Option (Nat×Nat)) (e:Ending) (w':World):Prop :=
 e=.returned (.bool o.isSome)∧w.grownBy w' (some g)∧∃ i s:Int,Chk w' g i s∧∀ p,o=some p→i=(p.1:Int)∧s=(p.2:Int)
def kT (x:Itm):Prop:=∀ (H:Snap) (k n:Int) (ba:Option Addr) (bl bc:Nat) (ia:Option Addr) (il ic:Nat) (w:World) (g i s lv:Nat),
 Tabs H→ItemA H k n ba bl bc ia il ic x→Holds w H→H g=none→Chk w g i s→i≤256→s≤4096→lv≤8→
 Calls Tryz.prog 54 #[.pointer (some ⟨g,0,none⟩),.agg #[.int .i64 k,.int .u64 n,.slice ba bl bc,.slice ia il ic],.int .i64 (lv:Int)] w (ki w g (chk x lv i s))
theorem aD (x:Itm) (i s lv:Nat) (h:256<i+1∨4096<x.bytes.length∨256<x.items.length) {H:Snap}{ba:Option Addr}{bc:Nat}{ia:Option Addr}{ic:Nat}(hx:IsItem H ba bc ia ic x) (w:World) (g:Nat)
  (hc:Chk w g i s) (hi:i≤256):Calls Tryz.prog 54 #[.pointer (some ⟨g,0,none⟩),xN x ba bc ia ic,.int .i64 (lv:Int)] w (ki w g (chk x lv i s)):=by
 have E:Hid (chk x lv i s=none):=by rw[Hid,mv,if_pos h]
 obtain⟨_,_,_,vg,wg,qC,o7⟩:=hx.bounds;have hb:x.bytes.length≤9223372036854775807:=by omega
 have eV:x.items.length≤9223372036854775807:=by omega
 have yi:=hc.lt;have c0:=hc.cell 0 rfl;have f0:=hc.frozen 0;have c00:=(hc.set_ 0 (.int .i64 ((i:Int)+1))).cell 0 rfl
 have R:=Hh (And.intro ((hc.set_ 0 (.int .i64 ((i:Int)+1))).alloc (.cells #[.int .i64 x.kind,.int .u64 x.n,.slice ba x.bytes.length bc,.slice ia x.items.length ic] 26))
  (vz (ur (yU w (some g)) (.inl (rfl:(⟨g,0,none⟩:Addr).block=g)) (.int .i64 ((i:Int)+1))) (.cells #[.int .i64 x.kind,.int .u64 x.n,.slice ba x.bytes.length bc,.slice ia x.items.length ic] 26)))
 have HH:=Hh h;clear hx vg wg qC o7 h;go_enter Tryz.func54,Tryz.ntmps54
 go_wp2_with fail
 all_goals first
  | (go_ret;exact⟨by rw[E.out];rfl,R.out.2,_,_,R.out.1,by rw[E.out];intro p hp;cases hp⟩)
  | (exfalso;have:=HH.out;omega)
abbrev qP (w:World) (g:Nat) (i:Int) (x:Itm) (ba:Option Addr) (bc:Nat) (ia:Option Addr) (ic:Nat):World :=
 (w.setCell ⟨g,0,none⟩ (.int .i64 i)).alloc (.cells #[.int .i64 x.kind,.int .u64 x.n,.slice ba x.bytes.length bc,.slice ia x.items.length ic] 26)
theorem cy (x:Itm) (i s lv:Nat) (h1:i+1≤256) (h2:x.bytes.length≤4096) (h3:x.items.length≤256) (hp:yZ x=true) {H:Snap}(hT:Tabs H) {ba:Option Addr}{bc:Nat}{ia:Option Addr}{ic:Nat}(hx:IsItem H ba bc ia ic x)
  (w:World) (hH:Holds w H) (g:Nat) (hg:H g=none) (hc:Chk w g i s) (hs:s≤4096) :
  Calls Tryz.prog 54 #[.pointer (some ⟨g,0,none⟩),xN x ba bc ia ic,.int .i64 (lv:Int)] w (ki w g (chk x lv i s)):=by
 have E:Hid (chk x lv i s=if yq x=true∧s+yr x≤4096 then some (i+1,s+yr x) else none):=by rw[Hid,mv,if_neg (by omega),if_pos hp]
 have hk:=(z8 x).1 hp;have qN:0≤x.kind:=by omega
 have T1:x.kind≤8:=by omega
 have yi:=hc.lt;have c0:=hc.cell 0 rfl;have f0:=hc.frozen 0;have c00:=(hc.set_ 0 (.int .i64 ((i:Int)+1))).cell 0 rfl;have ll:Chk (qP w g ((i:Int)+1) x ba bc ia ic) g ((i:Int)+1) s:=(hc.set_ 0 _).alloc _
 have yM:Blk (qP w g ((i:Int)+1) x ba bc ia ic) w.heap.size 26 #[.int .i64 x.kind,.int .u64 x.n,.slice ba x.bytes.length bc,.slice ia x.items.length ic]:=by
  have:=Blk.new (w.setCell ⟨g,0,none⟩ (.int .i64 ((i:Int)+1))) 26 #[.int .i64 x.kind,.int .u64 x.n,.slice ba x.bytes.length bc,.slice ia x.items.length ic];rwa [show(w.setCell ⟨g,0,none⟩ (.int .i64 ((i:Int)+1))).heap.size=w.heap.size by simp[World.setCell]]at this
 have ws:w.grownBy (qP w g ((i:Int)+1) x ba bc ia ic) (some g):=vz (ur (yU w (some g)) (.inl rfl) _) _;have qG:Holds (qP w g ((i:Int)+1) x ba bc ia ic) H:=(hH.setCell hg _).alloc _;clear hk;have V8:=hx.arg;clear hx;go_enter Tryz.func54,Tryz.ntmps54
 go_wp2_with fail
 refine(oD hT V8 _ qG).mono ?_
 rintro e w2 ⟨rfl,wg⟩
 have jg:=ll.below wg;have yu:=yM.below wg;have yp:=wT ws wg;have b0:=yu.cell 0 rfl;have b1:=yu.cell 1 rfl;have b2:=yu.cell 2 rfl;have b3:=yu.cell 3 rfl
 by_cases ho:yq x=true
 ·go_wp2_with fail
  refine(ju V8 w2 g ((i:Int)+1) s jg qN T1 (by omega) (by omega) (by omega)).mono ?_
  rintro e w3 ⟨rfl,TP,yO⟩
  have R:=Hh (And.intro (yV yp yO (.inl rfl)) TP);clear c0 f0 c00 ll yM ws qG jg yu yp b0 b1 b2 b3 TP yO;go_wp2_with fail
  go_ret
  refine⟨?_,R.out.1,_,_,R.out.2, ?_⟩
  ·rw[E.out]
   by_cases tw:s+yr x≤4096
   ·rw[if_pos ⟨ho,tw⟩,show decide ((s:Int)+(yr x:Int)≤4096)=true by simp;omega];rfl
   ·rw[if_neg (fun h=>tw h.2),show decide ((s:Int)+(yr x:Int)≤4096)=false by simp;omega];rfl
  ·intro p hp
   rw[E.out]at hp
   split at hp
   ·injection hp with hp
    subst hp
    exact⟨by simp,by simp⟩
   ·cases hp
 ·have Lv:yq x=false:=by simpa using ho
  clear ho;have R:=Hh (And.intro yp jg);clear c0 f0 c00 ll yM ws qG jg yu yp b0 b1 b2 b3;go_wp2_with fail
  go_ret
  have e0:chk x lv i s=none:=by rw[E.out,if_neg (fun h=>by rw[Lv]at h;cases h.1)]
  exact⟨by rw[e0];rfl,R.out.1,_,_,R.out.2,by rw[e0];intro p hp;cases hp⟩
theorem cw (x:Itm) (i s lv:Nat) (h1:i+1≤256) (h2:x.bytes.length≤4096) (h3:x.items.length≤256) (hp:yZ x=false) (hf:vj x lv=false) {H:Snap}(hT:Tabs H) {ba:Option Addr}{bc:Nat}{ia:Option Addr}{ic:Nat}(hx:IsItem H ba bc ia ic x)
  (w:World) (hH:Holds w H) (g:Nat) (hg:H g=none) (hc:Chk w g i s) (hs:s≤4096) (hlv:lv≤8) :
  Calls Tryz.prog 54 #[.pointer (some ⟨g,0,none⟩),xN x ba bc ia ic,.int .i64 (lv:Int)] w (ki w g (chk x lv i s)):=by
 have E:Hid (chk x lv i s=none):=by rw[Hid,mv,if_neg (by omega),if_neg (by simp[hp]),if_pos hf]
 have yi:=hc.lt;have c0:=hc.cell 0 rfl;have f0:=hc.frozen 0;have c00:=(hc.set_ 0 (.int .i64 ((i:Int)+1))).cell 0 rfl;have ll:Chk (qP w g ((i:Int)+1) x ba bc ia ic) g ((i:Int)+1) s:=(hc.set_ 0 _).alloc _
 have yM:Blk (qP w g ((i:Int)+1) x ba bc ia ic) w.heap.size 26 #[.int .i64 x.kind,.int .u64 x.n,.slice ba x.bytes.length bc,.slice ia x.items.length ic]:=by
  have:=Blk.new (w.setCell ⟨g,0,none⟩ (.int .i64 ((i:Int)+1))) 26 #[.int .i64 x.kind,.int .u64 x.n,.slice ba x.bytes.length bc,.slice ia x.items.length ic];rwa [show(w.setCell ⟨g,0,none⟩ (.int .i64 ((i:Int)+1))).heap.size=w.heap.size by simp[World.setCell]]at this
 have ws:w.grownBy (qP w g ((i:Int)+1) x ba bc ia ic) (some g):=vz (ur (yU w (some g)) (.inl rfl) _) _;have qG:Holds (qP w g ((i:Int)+1) x ba bc ia ic) H:=(hH.setCell hg _).alloc _;have V8:=hx.arg;have HF:=Hh hf;clear hx hf;go_enter Tryz.func54,Tryz.ntmps54
 go_wp2_with fail
 refine(oD hT V8 _ qG).mono ?_
 rintro e w2 ⟨rfl,wg⟩
 have jg:=ll.below wg;have yu:=yM.below wg;have R:=Hh (And.intro (wT ws wg) jg);have b0:=yu.cell 0 rfl;have b1:=yu.cell 1 rfl;have b2:=yu.cell 2 rfl;have b3:=yu.cell 3 rfl;clear c0 f0 c00 ll yM ws qG jg yu wg;go_wp2_with fail
 all_goals first
  | (go_ret;exact⟨by rw[E.out];rfl,R.out.1,_,_,R.out.2,by rw[E.out];intro p hp;cases hp⟩)
  | skip
 all_goals try simp only[beq_eq_false_iff_ne,ne_eq]at *
 all_goals exact absurd (show _∧_∧_∧_∧_∧_∧_ from⟨by omega,by omega,by omega,by omega,fun _=>by omega,fun _=>by omega,fun _=>by omega⟩) (of_decide_eq_false HF.out)
end Go.Proofs.YtnlinmoiakgedaaGreatDoor
namespace Go.Proofs.YtnlinmoiakgedaaGreatDoor
open Go.RowKit
theorem aE (x:Itm) (ih:∀ y:Itm,cnt y<cnt x→kT y) (i s lv:Nat) (h1:i+1≤256) (h2:x.bytes.length≤4096) (h3:x.items.length≤256) (hp:yZ x=false) (hf:vj x lv=true) {H:Snap}(hT:Tabs H) {ba:Option Addr}{bc:Nat}{ia:Option Addr}{ic:Nat}(hx:IsItem H ba bc ia ic x)
  (w:World) (hH:Holds w H) (g:Nat) (hg:H g=none) (hc:Chk w g i s) (hs:s≤4096) :
  Calls Tryz.prog 54 #[.pointer (some ⟨g,0,none⟩),xN x ba bc ia ic,.int .i64 (lv:Int)] w (ki w g (chk x lv i s)):=by
 have E:Hid (chk x lv i s=if 4096<s+yr x then none else match sJ x.items (lv+1) (i+1) (s+yr x) with | none=>none | some p=>if x.kind=5∧xX x.items=false then none else some p):=by
  rw[Hid,mv,if_neg (by omega),if_neg (by simp[hp]),if_neg (by simp[hf])];rfl
 obtain⟨XY,V4,Ru,sN,qI,zQ,Ze⟩:=x8 hf;have KT:(x.bytes.length:Int)≤0:=by omega
 have yi:=hc.lt;have c0:=hc.cell 0 rfl;have f0:=hc.frozen 0;have c00:=(hc.set_ 0 (.int .i64 ((i:Int)+1))).cell 0 rfl;have ll:Chk (qP w g ((i:Int)+1) x ba bc ia ic) g ((i:Int)+1) s:=(hc.set_ 0 _).alloc _
 have yM:Blk (qP w g ((i:Int)+1) x ba bc ia ic) w.heap.size 26 #[.int .i64 x.kind,.int .u64 x.n,.slice ba x.bytes.length bc,.slice ia x.items.length ic]:=by
  have:=Blk.new (w.setCell ⟨g,0,none⟩ (.int .i64 ((i:Int)+1))) 26 #[.int .i64 x.kind,.int .u64 x.n,.slice ba x.bytes.length bc,.slice ia x.items.length ic];rwa [show(w.setCell ⟨g,0,none⟩ (.int .i64 ((i:Int)+1))).heap.size=w.heap.size by simp[World.setCell]]at this
 have ws:w.grownBy (qP w g ((i:Int)+1) x ba bc ia ic) (some g):=vz (ur (yU w (some g)) (.inl rfl) _) _;have qG:Holds (qP w g ((i:Int)+1) x ba bc ia ic) H:=(hH.setCell hg _).alloc _;have V8:=hx.arg
 have tests:((x.kind==6)=true∧(x.kind==5)=false∧(x.kind != 5)=true∧(x.kind != 6)=false∧(x.items.length:Int)≤1∧1≤(x.items.length:Int)∧Hid (¬ x.kind=5))∨
   ((x.kind==6)=false∧(x.kind != 6)=true∧(x.n:Int)≤0∧(x.kind==5)=true∧(x.kind != 5)=false∧((x.items.length:Int)%2==1)=false∧Hid (x.kind=5))∨
   ((x.kind==6)=false∧(x.kind != 6)=true∧(x.n:Int)≤0∧(x.kind==5)=false∧(x.kind != 5)=true∧True∧Hid (¬ x.kind=5)):=by
  rcases(by omega:x.kind=6∨x.kind=5∨x.kind=4) with h | h | h
  ·have:=qI h
   exact .inl ⟨by simp[h],by simp[h],by simp[h],by simp[h],by omega,by omega,by rw[Hid];omega⟩
  ·have:=zQ (by omega);have h2:=Ze h
   exact .inr (.inl ⟨by simp[h],by simp[h],by omega,by simp[h],by simp[h],by simp;omega,h⟩)
  ·have:=zQ (by omega)
   exact .inr (.inr ⟨by simp[h],by simp[h],by omega,by simp[h],by simp[h],trivial,by rw[Hid];omega⟩)
 have HX:=Hh hx;clear hx hf qI zQ Ze sN;have TT:=Hh tests;clear tests;go_enter Tryz.func54,Tryz.ntmps54
 go_wp2_with fail
 refine(oD hT V8 _ qG).mono ?_
 rintro e w2 ⟨rfl,wg⟩
 have jg:=ll.below wg;have yu:=yM.below wg;have yp:=wT ws wg;have b0:=yu.cell 0 rfl;have b1:=yu.cell 1 rfl;have b2:=yu.cell 2 rfl;have b3:=yu.cell 3 rfl;go_upto_region 9 with fail
 go_cut [95] (fun s95 wx=>s95=.bool false∧w2=wx)
 case first =>
  rcases TT.out with ⟨t1,t2,t3,t4,t5,t6,t7⟩ | ⟨t1,t2,t3,t4,t5,t6,t7⟩ | ⟨t1,t2,t3,t4,t5,t6,t7⟩
  all_goals
   go_wp2_with fail
   go_meet
   exact⟨rfl,rfl⟩
 case rest =>
  obtain⟨rfl,rfl⟩:=hcut;go_wp2_with fail
  refine(ju V8 _ g ((i:Int)+1) s jg (by omega) (by omega) (by omega) (by omega) (by omega)).mono ?_
  rintro e w3 ⟨rfl,TP,yO⟩
  have wO:=yu.grown yO (by simp;omega);have d0:=wO.cell 0 rfl;have d3:=wO.cell 3 rfl;clear b0 b1 b2 b3
  by_cases tw:s+yr x≤4096
  ·have Rm:decide ((s:Int)+(yr x:Int)≤4096)=true:=by simp;omega
   go_wp2_with fail
   have E2:Hid (chk x lv i s=match sJ x.items (lv+1) (i+1) (s+yr x) with | none=>none | some p=>if x.kind=5∧xX x.items=false then none else some p):=by
    rw[Hid,E.out,if_neg (by omega)]
   have MM:=Hh (yV yp yO (.inl rfl));have Ta:w.heap.size<w3.heap.size:=wO.lt;have VW:Holds w3 H:=(qG.below wg (Nat.le_refl _)).grown yO (fun g' h=>by injection h with h;subst h;exact hg);clear ll yM ws qG jg yu yp c0 f0 c00 E Rm wg yO;go_loopw [103] (fun vi wr=>∃ (k:Nat) (p:Nat×Nat),k≤x.items.length∧vi=.int .i64 k∧Hid (sJ (x.items.drop k) (lv+1) p.1 p.2=sJ x.items (lv+1) (i+1) (s+yr x))∧p.1≤256∧p.2≤4096∧Chk wr g p.1 p.2∧w3.grownBy wr (some g)) (fun vi _=>x.items.length-(intOf vi).toNat)
   case atStart=>exact⟨0,(i+1,s+yr x),Nat.zero_le _,rfl,by simp[Hid],by omega,tw,by simpa using TP,yU _ _⟩
   case round =>
    obtain⟨k,p,hk,rfl,vy,Qg,ut,TQ,uT⟩:=hrel;have xT:Holds wr H:=VW.grown uT (fun g' h=>by injection h with h;subst h;exact hg)
    by_cases yi:k<x.items.length
    ·obtain⟨ib,io,tj,wI⟩:=HX.out.items (by omega);obtain⟨eba,ebc,eia,eic,q0,q1,q2,q3,uU⟩:=wI.get k yi;subst tj;have zK:(x.items.length:Int)≤256:=by omega
     have p0:=xT.cell q0;have p1:=xT.cell q1;have p2:=xT.cell q2;have p3:=xT.cell q3;have VH:x.items.drop k=x.items[k]::x.items.drop (k+1):=List.drop_eq_getElem_cons yi
     have IHH:=Hh (ih x.items[k] (xP x k yi) H _ _ eba _ ebc eia _ eic (wr.alloc (.cells #[.int .i64 x.items[k].kind,.int .u64 x.items[k].n,.slice eba x.items[k].bytes.length ebc,.slice eia x.items[k].items.length eic] 26)) g p.1 p.2 (lv+1)
      hT uU.arg (xT.alloc _) hg (TQ.alloc _) Qg ut (by omega))
     have HD:=Hh VH;have dx:((lv+1:Nat):Int)=(lv:Int)+1:=by omega
     rw[dx]at IHH;clear VH q0 q1 q2 q3 wI d0 d3 dx;go_wp2_with fail
     refine IHH.out.mono ?_
     rintro e w4 ⟨rfl,wH,i4,s4,PQ,Za⟩
     have xH:=yV (vz uT (.cells #[.int .i64 x.items[k].kind,.int .u64 x.items[k].n,.slice eba x.items[k].bytes.length ebc,.slice eia x.items[k].items.length eic] 26)) wH (.inl rfl)
     cases hq:chk x.items[k] (lv+1) p.1 p.2 with
     | none =>
      have e0:Hid (chk x lv i s=none):=by
       rw[Hid,E2.out,← vy.out,HD.out,sJ,hq]
      have R:=Hh (And.intro (yV MM.out xH (.inl rfl)) PQ);clear hq Za p0 p1 p2 p3 IHH TQ uT wH xH PQ;go_wp2_with fail
      go_ret
      exact⟨by rw[e0.out];rfl,R.out.1,_,_,R.out.2,by rw[e0.out];intro p hp;cases hp⟩
     | some p' =>
      obtain⟨rfl,rfl⟩:=Za p' hq;obtain⟨_,_,Nv,TB⟩:=kW _ _ _ _ _ hq
      have hn:Hid (sJ (x.items.drop (k+1)) (lv+1) p'.1 p'.2=sJ x.items (lv+1) (i+1) (s+yr x)):=by
       rw[Hid,← vy.out,HD.out,sJ,hq]
      clear hq Za p0 p1 p2 p3 IHH TQ uT wH HD vy;go_wp2_with fail
      go_roundw
      case rel=>exact⟨k+1,p',by omega,by go_num,hn,Nv,TB,PQ,xH⟩
      case measure=>simp[intOf];omega
    ·have so:k=x.items.length:=by omega
     subst so
     have tW:Hid (sJ x.items (lv+1) (i+1) (s+yr x)=some p):=by
      rw[Hid,← vy.out,List.drop_length,sJ]
     have tD:=wO.grown uT (by simp;omega);have d0:=tD.cell 0 rfl;have d3:=tD.cell 3 rfl;have PU:=Hh (yV MM.out uT (.inl rfl));clear vy
     rcases TT.out with ⟨t1,t2,t3,t4,t5,t6,t7⟩ | ⟨t1,t2,t3,t4,t5,t6,t7⟩ | ⟨t1,t2,t3,t4,t5,t6,t7⟩
     ·clear t1 t2 t4 t5 t6;go_wp2_with fail
      go_ret
      have e0:chk x lv i s=some p:=by
       rw[E2.out,tW.out]
       simp only[if_neg (fun h:x.kind=5∧_=>t7.out h.1)]
      exact⟨by rw[e0];rfl,PU.out,_,_,TQ,by rw[e0];intro p' gg;injection gg with gg;subst gg;exact⟨rfl,rfl⟩⟩
     ·clear t1 t2 t3 t4 t6;obtain⟨hK,ZW,_,TB⟩:=mf _ _ _ _ _ tW.out h1 tw;have Le:(zB x.items).length≤4096:=by rw[ZW]at TB;simp only at TB;omega
      have zK:∀ k (h:k<x.items.length),(zd x.items[k]).length≤1099511627776:=by
       intro k hk
       have a1:=tf x.items k hk;have a2:=nO x.items (k+1);rw[a1]at a2
       simp only[List.length_append]at a2
       omega
      have LP:∃ b off,0<x.items.length→ia=some ⟨b,off,none⟩∧IsElems H b off x.items:=by
       by_cases h0:0<x.items.length
       ·obtain⟨ib,io,tj,wI⟩:=HX.out.items h0
        exact⟨ib,io,fun _=>⟨tj,wI⟩⟩
       ·exact⟨0,0,fun h=>absurd h h0⟩
      obtain⟨ib,io,hA⟩:=LP;have ASC:=Hh (jn x.items ib io ia ic wr hA xT hK zK x.items.length rfl (by omega));clear hA zK Le ZW TB hK;go_wp2_with fail
      refine ASC.out.mono ?_
      rintro e w5 ⟨rfl,ow⟩
      have R:=Hh (And.intro (wT PU.out ow) (TQ.below ow))
      cases uA:xX x.items with
      | true =>
       have e0:Hid (chk x lv i s=some p):=by
        rw[Hid,E2.out,tW.out]
        simp only[uA,Bool.true_eq_false,and_false,if_false]
       clear ASC uA;go_wp2_with fail
       go_ret
       exact⟨by rw[e0.out];rfl,R.out.1,_,_,R.out.2,by rw[e0.out];intro p' gg;injection gg with gg;subst gg;exact⟨rfl,rfl⟩⟩
      | false =>
       have e0:Hid (chk x lv i s=none):=by
        rw[Hid,E2.out,tW.out]
        simp only[uA,t7.out,and_self,if_true]
       clear ASC uA;go_wp2_with fail
       go_ret
       exact⟨by rw[e0.out];rfl,R.out.1,_,_,R.out.2,by rw[e0.out];intro p' gg;cases gg⟩
     ·clear t1 t2 t3 t4;go_wp2_with fail
      go_ret
      have e0:chk x lv i s=some p:=by
       rw[E2.out,tW.out]
       simp only[if_neg (fun h:x.kind=5∧_=>t7.out h.1)]
      exact⟨by rw[e0];rfl,PU.out,_,_,TQ,by rw[e0];intro p' gg;injection gg with gg;subst gg;exact⟨rfl,rfl⟩⟩
  ·have Rm:decide ((s:Int)+(yr x:Int)≤4096)=false:=by simp;omega
   have R:=Hh (And.intro (yV yp yO (.inl rfl)) TP);clear ll yM ws qG jg yu yp TP yO wO d0 d3 c0 f0 c00;go_wp2_with fail
   go_ret
   have e0:chk x lv i s=none:=by rw[E.out,if_pos (by omega)]
   exact⟨by rw[e0];rfl,R.out.1,_,_,R.out.2,by rw[e0];intro p hp;cases hp⟩
end Go.Proofs.YtnlinmoiakgedaaGreatDoor
namespace Go.Proofs.YtnlinmoiakgedaaGreatDoor
open Go.RowKit
theorem ItemA.eqs {H:Snap}{k n:Int}{ba:Option Addr}{bl bc:Nat}{ia:Option Addr}{il ic:Nat}{x:Itm}(h:ItemA H k n ba bl bc ia il ic x):k=x.kind∧n=(x.n:Int)∧bl=x.bytes.length∧il=x.items.length∧IsItem H ba bc ia ic x:=⟨h.1,h.2,h.3,h.4,h.5⟩
theorem Zx (x:Itm):kT x:=by
 have main:∀ N,∀ x:Itm,cnt x≤N→kT x:=by
  intro N
  induction N with
  | zero =>
   intro x hx
   have:0<cnt x:=by cases x;rw[cnt];omega
   omega
  | succ N ih =>
   intro x hx H k n ba bl bc ia il ic w g i s lv hT ha hH hg hc hi hs hlv
   obtain⟨rfl,rfl,rfl,rfl,pY⟩:=ha.eqs
   by_cases h0:256<i+1∨4096<x.bytes.length∨256<x.items.length
   ·exact aD x i s lv h0 pY w g hc hi
   ·by_cases hp:yZ x=true
    ·exact cy x i s lv (by omega) (by omega) (by omega) hp hT pY w hH g hg hc hs
    ·have gg:yZ x=false:=by simpa using hp
     by_cases hf:vj x lv=true
     ·exact aE x (fun y hy=>ih y (by omega)) i s lv (by omega) (by omega) (by omega) gg hf hT pY w hH g hg hc hs
     ·exact cw x i s lv (by omega) (by omega) (by omega) gg (by simpa using hf) hT pY w hH g hg hc hs hlv
 exact main _ x (Nat.le_refl _)
theorem tN {H:Snap}(hT:Tabs H) {k n:Int}{ba:Option Addr}{bl bc:Nat}{ia:Option Addr}{il ic:Nat}{x:Itm}(hx:ItemA H k n ba bl bc ia il ic x) (w:World) (hH:Holds w H) :
  Calls Tryz.prog 38 #[.agg #[.int .i64 k,.int .u64 n,.slice ba bl bc,.slice ia il ic]] w fun e w'=>e=.returned (.bool (yW x))∧Below w.heap.size w w':=by
 have W1:=fun w1:World=>fun h1:Holds w1 H=>fun hg=>fun hc=>(Zx x) H k n ba bl bc ia il ic w1 (w.heap.size+1) 0 0 0 hT hx h1 hg hc (by omega) (by omega) (by omega)
 have py:=(hH.alloc (.cells #[.int .i64 k,.int .u64 n,.slice ba bl bc,.slice ia il ic] 26))
 have wk:H (w.heap.size+1)=none:=hH.none_of_ge (by omega);have hC:=Blk.new (w.alloc (.cells #[.int .i64 k,.int .u64 n,.slice ba bl bc,.slice ia il ic] 26)) 86 #[.int .i64 0,.int .i64 0];rw[show(w.alloc (.cells #[.int .i64 k,.int .u64 n,.slice ba bl bc,.slice ia il ic] 26)).heap.size=w.heap.size+1 by simp]at hC;have I:=Hh (W1 _ (py.alloc (.cells #[.int .i64 0,.int .i64 0] 86)) wk hC);have B2:=Hh ((zi w (.cells #[.int .i64 k,.int .u64 n,.slice ba bl bc,.slice ia il ic] 26)).alloc (by simp) (.cells #[.int .i64 0,.int .i64 0] 86));clear W1 py wk hC hx;go_enter Tryz.func38,Tryz.ntmps38
 go_wp2_with fail
 refine I.out.mono ?_
 rintro e w2 ⟨rfl,hG,_⟩
 go_wp2_with fail
 go_ret
 exact⟨rfl,yP B2.out hG (by simp)⟩
def Vj (w:World) (x:Itm) (e:Ending) (w':World):Prop :=
 (yW x=false∧e=.returned (.tuple #[.slice none 0 0,.int .i64 1])∧Below w.heap.size w w')∨
 (yW x=true∧∃ r,e=.returned (.tuple #[r,.int .i64 0])∧Fresh w (zd x) r w')
theorem ec {H:Snap}(hT:Tabs H) {k n:Int}{ba:Option Addr}{bl bc:Nat}{ia:Option Addr}{il ic:Nat}{x:Itm}(hx:ItemA H k n ba bl bc ia il ic x) (w:World) (hH:Holds w H) :
  Calls Tryz.prog 47 #[.agg #[.int .i64 k,.int .u64 n,.slice ba bl bc,.slice ia il ic]] w (Vj w x):=by
 have qG:=(hH.alloc (.cells #[.int .i64 k,.int .u64 n,.slice ba bl bc,.slice ia il ic] 26))
 have vg:=zi w (.cells #[.int .i64 k,.int .u64 n,.slice ba bl bc,.slice ia il ic] 26);have yM:=Blk.new w 26 #[.int .i64 k,.int .u64 n,.slice ba bl bc,.slice ia il ic];have V:=Hh (tN hT hx _ qG);go_enter Tryz.func47,Tryz.ntmps47
 go_wp2_with fail
 refine V.out.mono ?_
 rintro e w2 ⟨rfl,wg⟩
 have yu:=yM.below wg;have b0:=yu.cell 0 rfl;have b1:=yu.cell 1 rfl;have b2:=yu.cell 2 rfl;have b3:=yu.cell 3 rfl;have py:=qG.below wg (Nat.le_refl _);have hb:=vg.trans (wg.mono vg.size)
 cases hv:yW x with
 | false =>
  have XH:=Hh hv;clear hv;go_wp2_with fail
  go_ret2
  exact .inl ⟨XH.out,rfl,hb⟩
 | true =>
  obtain⟨hk,_,hl⟩:=uW hv;have A:=Hh (rL x H k n ba bl bc ia il ic w2 w2.heap.size (.slice none 0 0) [] hk hx py (OwnB.nil _ _) (Nat.le_refl _) (by simp[Value.ownBlock]) (by simp;omega));have XH:=Hh hv;clear hv hl;go_wp2_with fail
  refine A.out.mono ?_
  rintro e w3 ⟨r,rfl,vq,hg,_⟩
  go_wp2_with fail
  go_ret2
  refine .inr ⟨XH.out,_,rfl, ?_, ?_⟩
  ·simpa [OwnB] using vq.more (base':=w.heap.size) hb.size
  ·exact hb.trans ((yo (by simpa [Value.ownBlock] using hg)).mono hb.size)
end Go.Proofs.YtnlinmoiakgedaaGreatDoor
namespace Go.Proofs.YtnlinmoiakgedaaGreatDoor
open Go.RowKit
theorem Snap.with_ne (H:Snap) {g b:Nat}(o:Obj) (h:b≠g):(H.with g o) b=H b:=by simp[Snap.with,h]
theorem nL {w:World}{ops:Array Oper}{rest:List Oper}{o:Oper}{a:Act}{Q:Exit→Act→World→Prop}
  (hg:o.guard=none) (l c:Operand) (hop:o.op=Op.makeSlice 24 l c)
  (kl kc:IntKind) (L C:Int) (n:Nat) (hl:a.eval l=.int kl L) (hc:a.eval c=.int kc C) (hL:L=(n:Int)) (hC:C=(n:Int)) (b2:n≤1099511627776) (g:Nat) (zU:w.heap.size=g)
  (hK:∀ w' cs,Blk w' g 26 cs→cs.size=n*4→Below w.heap.size w w'→wpList Tryz.prog ops Q rest (a.put o.dst (.slice (some ⟨g,0,none⟩) n n)) w') :
  wpList Tryz.prog ops Q (o::rest) a w:=by
 subst zU;obtain⟨i0,xt,cK,sB,o4⟩:=info_parts mh
 refine wpList_make_full w hg l c _ hop w.heap.size 26 i0 _ 4 Tryz.underlying24 xt cK sB kl kc L C n hl hc hL hC (by rw[o4];omega) (by simp only[maxLen];omega) (Nat.le_refl _) fun w' h1 h2=>?_
 rcases h1.2 with ⟨hv,_⟩ | ⟨g,cap,cur,hv,_,hg,_,_,hs,_⟩
 ·cases hv
 ·cases hv
  exact hK w' cur hg hs (yo h2)
def qX (x:Itm):Prop:=∀ (H:Snap) (k n:Int) (ba:Option Addr) (bl bc:Nat) (ia:Option Addr) (il ic:Nat) (w:World),
 Modest x→ItemA H k n ba bl bc ia il ic x→Holds w H→
 Calls Tryz.prog 70 #[.agg #[.int .i64 k,.int .u64 n,.slice ba bl bc,.slice ia il ic]] w fun e w'=>∃ v,e=.returned v∧Gives w H x v w'
theorem eg (x:Itm) (ih:∀ y:Itm,cnt y<cnt x→qX y):qX x:=by
 intro H k n ba bl bc ia il ic w hm hx hH
 obtain⟨rfl,rfl,rfl,rfl,pY⟩:=hx.eqs;obtain⟨rn,Ze,Lp⟩:=hm.parts;have HX:=Hh pY;have bP:=Hh pY.bounds;have C:=Hh (vV ((w.alloc (.cells #[.int .i64 x.kind,.int .u64 x.n,.slice ba x.bytes.length bc,.slice ia x.items.length ic] 26)).alloc (.cells #[.int .i64 0,.int .u64 0,.slice none 0 0,.slice none 0 0] 26)) ba x.bytes x.bytes.length bc rfl rn (((Src.of_row pY.bytes.row hH).alloc _).alloc _));have yM:=(Blk.new w 26 #[.int .i64 x.kind,.int .u64 x.n,.slice ba x.bytes.length bc,.slice ia x.items.length ic]).alloc (.cells #[.int .i64 0,.int .u64 0,.slice none 0 0,.slice none 0 0] 26);have yu:=Blk.new (w.alloc (.cells #[.int .i64 x.kind,.int .u64 x.n,.slice ba x.bytes.length bc,.slice ia x.items.length ic] 26)) 26 #[.int .i64 0,.int .u64 0,.slice none 0 0,.slice none 0 0];rw[show(w.alloc (.cells #[.int .i64 x.kind,.int .u64 x.n,.slice ba x.bytes.length bc,.slice ia x.items.length ic] 26)).heap.size=w.heap.size+1 by simp]at yu
 clear hx hm pY rn;go_enter Tryz.func70,Tryz.ntmps70
 go_wp2_with fail
 refine C.out.mono ?_
 rintro e w1 ⟨r,rfl,hf⟩
 obtain⟨A',c',rfl,_⟩:=hf.own.form;obtain⟨H1,ws,ln,_⟩:=hf.snapB ((hH.alloc _).alloc _);have Rg:H1 w.heap.size=none:=ws.none (hH.none_of_ge (Nat.le_refl _)) (by simp;omega);have ON:H1 (w.heap.size+1)=none:=ws.none (hH.none_of_ge (by omega)) (by simp);have ws:=(((Grows.refl hH).alloc _).alloc _).trans ws;have yM:=yM.below hf.2;have yu:=yu.below hf.2;have b2:=yM.cell 2 rfl;have f2:=yM.frozen 2;have yM:=yM.set_ 2 (.slice A' x.bytes.length c');have b3:=yM.cell 3 rfl;have o3:w.heap.size+2≤w1.heap.size:=by have:=hf.2.size;simp at this;omega
 go_wp2_with (at_make;refine ye ?_)
 refine nL rfl _ _ rfl .i64 .i64 _ _ x.items.length rfl rfl rfl rfl Ze w1.heap.size (by simp[World.setCell]) fun w2 cs q9 hcz wg=>?_
 have Qb:H1 w1.heap.size=none:=ws.hidden (Nat.le_refl _);have yp:Grows w H w2 H1:=(ws.setOwn Rg (Nat.le_refl _) 2 (.slice A' x.bytes.length c')).below_ wg;have yu:=(yu.far (p:=⟨w.heap.size,2,none⟩) (by simp) (.slice A' x.bytes.length c')).below wg;have yM:=yM.below wg;have oe:w1.heap.size<w2.heap.size:=q9.lt;have c3:=yM.cell 3 rfl;have QH:=Hh yp;have sz:=ws.le;clear hf C b2 f2 b3 wg;go_upto_region 4 with fail
 go_loopw [17] (fun vi wr=>∃ (k:Nat) (Hr:Snap) (cr:Array Value) (pre:List Value),k≤x.items.length∧vi=.int .i64 k∧Grows w H wr Hr∧H1.le Hr∧Hr w.heap.size=none∧Hr (w.heap.size+1)=none∧Hr w1.heap.size=none∧
  Blk wr w.heap.size 26 #[.int .i64 x.kind,.int .u64 x.n,.slice A' x.bytes.length c',.slice ia x.items.length ic]∧Blk wr (w.heap.size+1) 26 #[.int .i64 0,.int .u64 0,.slice none 0 0,.slice none 0 0]∧
  Blk wr w1.heap.size 26 cr∧cr.size=x.items.length*4∧ItemsC Hr pre (x.items.take k)∧cr.toList.take (k*4)=pre) (fun vi _=>x.items.length-(intOf vi).toNat)
 case atStart=>exact⟨0,H1,cs,[],Nat.zero_le _,rfl,QH.out,Snap.le.refl _,Rg,ON,Qb,yM,yu,q9,hcz,by simp[ItemsC],by simp⟩
 case round =>
  obtain⟨k,Hr,cr,pre,hk,rfl,uT,qS,uy,tb,Qf,ll,jg,Sb,OR,ZK,jZ⟩:=hrel
  by_cases yi:k<x.items.length
  ·obtain⟨ib,io,tj,wI⟩:=HX.out.items (by omega);obtain⟨eba,ebc,eia,eic,q0,q1,q2,q3,uU⟩:=wI.get k yi;subst tj;have Sh:=uT.holds.mono uT.le;have p0:=Sh.cell q0;have p1:=Sh.cell q1;have p2:=Sh.cell q2;have p3:=Sh.cell q3;have IH:=Hh (ih x.items[k] (xP x k yi) Hr _ _ eba _ ebc eia _ eic (wr.alloc (.cells #[.int .i64 x.items[k].kind,.int .u64 x.items[k].n,.slice eba x.items[k].bytes.length ebc,.slice eia x.items[k].items.length eic] 26)) (Lp.get k yi) (uU.mono uT.le).arg (uT.holds.alloc _));clear q0 q1 q2 q3 wI uU Sh;go_wp2_with fail
   refine IH.out.mono ?_
   rintro e w3 ⟨v,rfl,rba,rbc,ria,ric,Hs,rfl,yO,Lj⟩
   have wH:=(uT.alloc (.cells #[.int .i64 x.items[k].kind,.int .u64 x.items[k].n,.slice eba x.items[k].bytes.length ebc,.slice eia x.items[k].items.length eic] 26)).trans yO;have XP:=(ll.alloc (.cells #[.int .i64 x.items[k].kind,.int .u64 x.items[k].n,.slice eba x.items[k].bytes.length ebc,.slice eia x.items[k].items.length eic] 26)).below yO.below;have ZR:=(jg.alloc (.cells #[.int .i64 x.items[k].kind,.int .u64 x.items[k].n,.slice eba x.items[k].bytes.length ebc,.slice eia x.items[k].items.length eic] 26)).below yO.below;have Mv:=(Sb.alloc (.cells #[.int .i64 x.items[k].kind,.int .u64 x.items[k].n,.slice eba x.items[k].bytes.length ebc,.slice eia x.items[k].items.length eic] 26)).below yO.below;have Oa:=yO.none uy (by have:=ll.lt;simp;omega);have Oc:=yO.none tb (by have:=jg.lt;simp;omega);have Rv:=yO.none Qf (by have:=Sb.lt;simp;omega)
   have Qz:ItemsC Hs (pre++zg x.items[k] rba rbc ria ric) (x.items.take (k+1)):=by
    rw[List.take_succ_eq_append_getElem yi]
    exact(ZK.mono yO.le).app (ItemsC.one Lj)
   have OZ:=qS.trans yO.le;have Om:=Hh jZ;clear p0 p1 p2 p3 IH ll jg Sb ZK uT yO jZ;go_wp2_with (with_reducible refine zx ?_)
   refine rJ rfl _ _ _ rfl rfl w1.heap.size (k*4) _ rfl rfl _ _ Mv zw (by show k*4+4≤cr.size;omega) (wu _ _ _ _ rfl rfl rfl rfl) fun w4 hDg4 hg4=>?_
   have xH:=wH.grownOwn Rv (by omega) hg4;have XP:=XP.grown hg4 (by simp;omega);have ZR:=ZR.grown hg4 (by simp;omega);have gh:(rU cr (k*4) (zg x.items[k] rba rbc ria ric)).size=x.items.length*4:=by rw[mm];exact OR
   have O1:(rU cr (k*4) (zg x.items[k] rba rbc ria ric)).toList.take ((k+1)*4)=pre++zg x.items[k] rba rbc ria ric:=by
    rw[show(k+1)*4=k*4+(zg x.items[k] rba rbc ria ric).length by simp[zg];omega,aV _ _ _ (by simp[zg];omega),Om.out]
   have eS:=Hh O1;clear O1 wH Mv;go_wp2_with fail
   go_roundw
   case rel=>exact⟨k+1,Hs,_,_,by omega,by go_num,xH,OZ,Oa,Oc,Rv,XP,ZR,hDg4,gh,Qz,eS.out⟩
   case measure=>simp[intOf];omega
  ·have so:k=x.items.length:=by omega
   subst so;rw[List.take_length]at ZK;have Om:=Hh jZ;clear jZ;have hF:=uT.withOwn Qf (by omega) Sb;have hK:=qS.trans (Snap.le_with Qf (o:=.cells cr 26 (0,0)));have Ry:(Hr.with w1.heap.size (.cells cr 26 (0,0))) (w.heap.size+1)=none:=by rw[Snap.with_ne _ _ (by omega)];exact tb
   have Rx:(Hr.with w1.heap.size (.cells cr 26 (0,0))) w.heap.size=none:=by rw[Snap.with_ne _ _ (by omega)];exact uy
   have Tr:IsElems (Hr.with w1.heap.size (.cells cr 26 (0,0))) w1.heap.size 0 x.items :=
    (ZK.mono (Snap.le_with Qf)).elems (Blk.cellsAt _ rfl pre (by rw[ZK.len];exact Om.out))
   have Rh:=ln.mono hK;have gh:w.heap.size<wr.heap.size:=ll.lt;clear Sb;go_wp2_with (with_reducible refine zx ?_)
   refine zu rfl _ _ _ rfl rfl w.heap.size 3 _ rfl rfl _ _ ll zR (by simp) rfl fun w4 hE1 hg4=>?_
   have Mw:=jg.grown hg4 (by simp);have QS:=hF.grownOwn Rx (Nat.le_refl _) hg4;clear ll jg
   by_cases h0:x.items.length=0
   ·have gE:IsItem (Hr.with w1.heap.size (.cells cr 26 (0,0))) A' c' none 0 x:=by
     obtain⟨z1,z2,z3,_⟩:=bP.out
     cases x
     rw[IsItem]
     exact⟨⟨z1,z2,z3,Nat.le_of_eq h0,by omega⟩,Rh,fun h=>absurd h (by simp[Itm.items]at h0;simp[h0])⟩
    have HI:=Hh gE;have L8:(x.items.length:Int)=0:=by omega
    have Kk:=Hh h0;clear h0 gE;go_wp2_with (with_reducible refine zx ?_)
    refine zu rfl _ _ _ rfl rfl w.heap.size 3 _ rfl rfl _ _ hE1 zR (by simp) rfl fun w5 hF1 sp=>?_
    have LS:=Mw.grown sp (by simp);have QS:=QS.grownOwn Rx (Nat.le_refl _) sp;have i0:=hF1.cell 0 rfl;have i1:=hF1.cell 1 rfl;have i2:=hF1.cell 2 rfl;have i3:=hF1.cell 3 rfl;go_wp2_with (with_reducible refine zx ?_)
    refine stI LS fun w6 hJ2 tF=>?_
    go_wp2_with fail
    refine yN rfl rfl hJ2 rfl rfl zw rfl ?_
    exact⟨_,rfl,A',c',none,0,_,by simp[xN,Kk.out],QS.grownOwn Ry (by omega) tF,HI.out⟩
   ·have gE:IsItem (Hr.with w1.heap.size (.cells cr 26 (0,0))) A' c' (some ⟨w1.heap.size,0,none⟩) x.items.length x:=by
     obtain⟨z1,z2,z3,z4,z5,z6,z7⟩:=bP.out
     cases x
     rw[IsItem]
     exact⟨⟨z1,z2,z3,Nat.le_refl _,by simp only[Itm.items]at z6⊢;omega⟩,Rh,fun h=>⟨_,_,rfl,Tr⟩⟩
    have HI:=Hh gE;have L8:((x.items.length:Int)==0)=false:=by rw[beq_eq_false_iff_ne];omega
    clear h0 gE;have i0:=hE1.cell 0 rfl;have i1:=hE1.cell 1 rfl;have i2:=hE1.cell 2 rfl;have i3:=hE1.cell 3 rfl;go_wp2_with (with_reducible refine zx ?_)
    refine stI Mw fun w6 hJ2 tF=>?_
    go_wp2_with fail
    refine yN rfl rfl hJ2 rfl rfl zw rfl ?_
    exact⟨_,rfl,A',c',_,_,_,rfl,QS.grownOwn Ry (by omega) tF,HI.out⟩
theorem ee (x:Itm):qX x:=by
 have main:∀ N,∀ x:Itm,cnt x≤N→qX x:=by
  intro N
  induction N with
  | zero =>
   intro x hx
   have:0<cnt x:=by cases x;rw[cnt];omega
   omega
  | succ N ih=>exact fun x hx=>eg x fun y hy=>ih y (by omega)
 exact main _ x (Nat.le_refl _)
end Go.Proofs.YtnlinmoiakgedaaGreatDoor
namespace Go.Proofs.YtnlinmoiakgedaaGreatDoor
open Go.RowKit
theorem OwnI.lit {w:World}{H:Snap}{l:List Itm}{cs:List Value}(h:ItemsC H cs l) (base:Nat) (hb:base≤w.heap.size) (hm:l.length≤4096) :
  OwnI (w.alloc (.cells cs.toArray 26)) base (.slice (some ⟨w.heap.size,0,none⟩) l.length l.length) H l:=by
 refine⟨cs,h,h.len,.inr ⟨w.heap.size,l.length,cs.toArray,rfl,hb,heap_alloc_new w _,Nat.le_refl _,by simp only[maxLen];omega, ?_, ?_⟩⟩
 ·simpa using h.len
 ·rw[← h.len];simp
end Go.Proofs.YtnlinmoiakgedaaGreatDoor
namespace Go.Proofs.YtnlinmoiakgedaaGreatDoor
open Go.RowKit Go.ChangeShapes Go.WideShapes
theorem dX {n:Int}(h:(Lit.int .u64 n).wf=true):0≤n∧n<18446744073709551616:=by
 simp[Lit.wf,IntKind.min,IntKind.max,IntKind.signed,IntKind.bits]at h
 omega
theorem kA {Hs:Snap}{b:Nat}:∀ (l:List Itm) (off:Nat),(∀ (k:Nat) (hk:k<l.length),∃ ba bc ia ic,Hs.cell? ⟨b,off+k*4,none⟩=some (.int .i64 l[k].kind)∧Hs.cell? ⟨b,off+k*4+1,none⟩=some (.int .u64 l[k].n)∧
   Hs.cell? ⟨b,off+k*4+2,none⟩=some (.slice ba l[k].bytes.length bc)∧Hs.cell? ⟨b,off+k*4+3,none⟩=some (.slice ia l[k].items.length ic)∧IsItem Hs ba bc ia ic l[k])→IsElems Hs b off l
 | [],off,h=>by rw[IsElems];trivial
 | x::l,off,h=>by
  rw[IsElems];obtain⟨ba,bc,ia,ic,h0,h1,h2,h3,hx⟩:=h 0 (by simp)
  refine⟨⟨ba,bc,ia,ic,by simpa using h0,by simpa using h1,by simpa using h2,by simpa using h3,hx⟩,kA l (off+4) fun k hk=>?_⟩
  have:=h (k+1) (by simpa using hk)
  simp only[List.getElem_cons_succ]at this
  rwa [show off+(k+1)*4=off+4+k*4 by omega]at this
instance:Inhabited Itm:=⟨.mk 0 0 [] []⟩
instance:Inhabited Ad:=⟨⟨none,0,none,0⟩⟩
theorem VM {α:Type}{l:List α}(h:l.length=4):∃ a b c d,l=[a,b,c,d]:=by
 match l,h with
 | [a,b,c,d],_=>exact⟨a,b,c,d,rfl⟩
section
variable {H:Type} {enc:TypeId×Value→H} {W:World}
theorem cP {fuel:Nat}{c:Value}{x:DataW H×List MemPlace}(h:DataW.trod enc Tryz.prog W 0 (fun _=>true) true fuel 23 [c]=some x) :
  ∃ (A:Option Addr) (k:Nat) (l:List UInt8),c=.slice A l.length k∧IsBytes (qQ W) A k l:=by
 rcases open_ints Tryz.underlying23 Tryz.underlying5 (by kernel_rfl) h with ⟨q9,hx⟩ | ⟨a,len,cap,zs,q9,_,hl,hm,hz,hx,xq,Ta⟩
 ·simp at q9
  exact⟨none,0,[],q9,IsBytes.nil _⟩
 ·simp at q9
  have h1:=jr hl hm (by simp at hz;omega) xq Ta
  exact⟨some a,cap,_,by rw[h1.2];exact q9,h1.1⟩
def YQ (W:World) (cs:List Value) (y:Itm×Ad):Prop:=cs=zg y.1 y.2.ba y.2.bc y.2.ia y.2.ic∧IsItem (qQ W) y.2.ba y.2.bc y.2.ia y.2.ic y.1
theorem aF:∀ (n:Nat) (cs:List Value) (x:DataW H×List MemPlace),DataW.trod enc Tryz.prog W 0 (fun _=>true) true n 26 cs=some x→∃ y,YQ W cs y:=by
 have ci:Tryz.prog.cellsOf 3=1:=by kernel_rfl
 have cu:Tryz.prog.cellsOf 22=1:=by kernel_rfl
 have cb:Tryz.prog.cellsOf 23=1:=by kernel_rfl
 have cl:Tryz.prog.cellsOf 24=1:=by kernel_rfl
 have c4:Tryz.prog.cellsOf 26=4:=by kernel_rfl
 intro n
 induction n using Nat.strongRecOn with
 | _ n ih =>
 intro cs x h
 obtain⟨xs,n1,uy,_,hl,Zg,hf⟩:=DataW.trod_struct Tryz.underlying26 h;rw[c4]at hl;obtain⟨c0,c1,c2,c3,rfl⟩:=VM hl;obtain⟨y0,y1,y2,y3,rfl⟩:=VM (l:=xs) (by rw[Zg];rfl);have f0:=hf 0 _ rfl;have f1:=hf 1 _ rfl;have f2:=hf 2 _ rfl;have f3:=hf 3 _ rfl
 simp[ci]at f0
 simp[cu]at f1
 simp[cb]at f2
 simp[cl]at f3
 obtain⟨k,e0,_,w0⟩:=DataW.trod_int Tryz.underlying3 f0;obtain⟨m,e1,_,w1⟩:=DataW.trod_int Tryz.underlying22 f1;obtain⟨ba,bc,bs,rfl,ln⟩:=cP f2
 simp at e0 e1
 subst e0 e1;have b0:=kP w0;have b1:=dX w1;obtain⟨q,rfl⟩:∃ q:Nat,m=(q:Int):=⟨m.toNat,by omega⟩
 rcases DataW.trod_slice Tryz.underlying24 f3 with ⟨e3,_⟩ | ⟨a,len,cap,elems,rest,n2,tb,e3,_,_,hlc,pA,zK,wI,_,_⟩
 ·simp at e3
  subst e3
  refine⟨(.mk k q bs [],⟨ba,bc,none,0⟩),rfl, ?_⟩
  rw[IsItem]
  exact⟨⟨b0.1,b0.2,by omega,by simp,Nat.zero_le _⟩,ln,fun h0=>by simp at h0⟩
 ·simp at e3
  subst e3;rw[c4]at wI
  have each:∀ i,i<len→∃ y:Itm×Ad,∃ cs',W.cells? 0 (a.add (i*4)) 4=some cs'∧YQ W cs' y:=fun i hi=>by
   have Pv:i<elems.length:=by omega
   have h1:=wI i hi;rw[List.getElem?_eq_getElem Pv,Option.bind_eq_some_iff]at h1;obtain⟨cs',h1,h2⟩:=h1;obtain⟨y,hy⟩:=ih n2 (by omega) cs' _ h2
   exact⟨y,cs',h1,hy⟩
  obtain⟨Y,hY⟩:=Go.Deep.choose_lt each;obtain⟨l,lp⟩:∃ l,(List.range len).map (fun i=>(Y i).1)=l:=⟨_,rfl⟩
  have cF:l.length=len:=by rw[← lp];simp
  refine⟨(.mk k q bs l,⟨ba,bc,some a,cap⟩),by simp[zg,Itm.kind,Itm.n,Itm.bytes,Itm.items,cF], ?_⟩
  rw[IsItem];have OQ:cap≤9223372036854775807:=by simpa [maxLen] using pA
  refine⟨⟨b0.1,b0.2,by omega,by rw[cF];exact hlc,OQ⟩,ln,fun h0=>?_⟩
  rw[cF]at h0;obtain⟨b,off,spot⟩:=a
  have nE:spot=none:=by
   obtain⟨cs',h1,h2,_⟩:=hY 0 h0;obtain⟨_,_,h3⟩:=World.cells?_some h1;have h4:=h3 0 (by omega);rw[h2]at h4
   simpa [Addr.add] using World.cell?_spot h4
  subst nE
  refine⟨b,off,rfl,kA l off fun i hi=>?_⟩
  rw[cF]at hi;obtain⟨cs',h1,h2,h3⟩:=hY i hi;obtain⟨_,_,h4⟩:=World.cells?_some h1;have g:l[i]'(by omega)=(Y i).1:=by subst lp;simp
  have at_:∀ j,j<4→(qQ W).cell? ⟨b,off+i*4+j,none⟩=cs'[j]? :=fun j hj=>by
   rw[← h4 j hj,add_plain,add_plain];rfl
  rw[g]
  refine⟨_,_,_,_, ?_, ?_, ?_, ?_,h3⟩
  ·rw[← Nat.add_zero (off+i*4),at_ 0 (by omega),h2];rfl
  ·rw[at_ 1 (by omega),h2];rfl
  ·rw[at_ 2 (by omega),h2];rfl
  ·rw[at_ 3 (by omega),h2];rfl
end
end Go.Proofs.YtnlinmoiakgedaaGreatDoor
