/- squeezed. Walks: cbor.checker.spend. Walks:  -/
import Derived.Test.YtliomcphdnppnaaGreatDoorK06
import Derived.Deep.DeepCutAuto
set_option linter.unusedVariables false
set_option linter.unusedSimpArgs false
set_option maxRecDepth 100000
set_option maxHeartbeats 3200000
namespace Go.Proofs.YtliomcphdnppnaaGreatDoor
open Go.RowKit
abbrev Chk (w:World) (g:Nat) (i s:Int):Prop:=Blk w g 144 #[.int .i64 i,.int .i64 s]
theorem dR {H:Snap}{x:Itm}{ba:Option Addr}{bc:Nat}{ia:Option Addr}{ic:Nat}(hx:IsItem H ba bc ia ic x) (w:World) (g:Nat) (i s:Int) (hc:Chk w g i s) (h8:x.kind=8) (fD:0≤s) (vl:s≤1099511627776) :
  Calls Tryz.prog 132 #[.pointer (some ⟨g,0,none⟩),xR x ba bc ia ic] w fun e w'=>e=.returned (.bool (decide (s+zE x≤4096)))∧Chk w' g i (s+zE x)∧w.grownBy w' (some g):=by
 have JS:=rR x.n;have E:Hid (zE x=(yM x.n).length):=by simp[Hid,zE,h8]
 obtain⟨_,_,hn,_⟩:=hx.bounds;have HN:U64 x.n:=⟨by omega,by omega⟩
 have zB:=hc.lt;have hB:=Blk.new w 26 #[.int .i64 8,.int .u64 x.n,.slice ba x.bytes.length bc,.slice ia x.items.length ic];have hC:=hc.alloc (.cells #[.int .i64 8,.int .u64 x.n,.slice ba x.bytes.length bc,.slice ia x.items.length ic] 26);clear hx hn;go_enter Tryz.func132,Tryz.ntmps132
 go_wp2_with fail
 refine zw 11 (fun w'=>w'.cell? ⟨g,1,none⟩=some (.int .i64 s)∧w'.cell? ⟨w.heap.size,1,none⟩=some (.int .u64 x.n)) (by kernel_rfl) (⟨hC.cell 1 rfl,hB.cell 1 rfl⟩) (fun zy=>?_)
 refine Tk 0 rfl zy ?_
 refine Tk 1 rfl zy ?_
 refine Tk 2 rfl zy ?_
 refine Tk 3 rfl zy ?_
 refine Tk 4 rfl zy ?_
 refine Tk 5 rfl zy ?_
 refine To 6 rfl fun K hK=>?_
 go_simp
 refine(jF _ _ HN.1 HN.2).mono ?_
 rintro e w1 ⟨r,rfl,hf⟩
 obtain⟨A,c,rfl,_,_,_⟩:=hf.own.form;have ss:=hC.drew.below hf.2
 refine Ko hK ?_ fun zy=>?_
 ·exact⟨ss.cell 1 rfl,(hB.drew.below hf.2).cell 1 rfl⟩
 clear hK K
 refine Tk 7 rfl zy ?_
 refine Tk 8 rfl zy ?_
 refine Tk 9 rfl zy ?_
 refine Tk 10 rfl zy ?_
 refine To 11 rfl fun K hK=>?_
 have d1:=ss.cell 1 rfl;have d2:=ss.frozen 1;go_simp
 refine Kz hK ?_
 clear hK K
 refine Wd ?_
 all_goals
  have hw:Hid (IntKind.i64.wrap (s+((yM x.n).length:Int))=s+(zE x:Int)):=by rw[Hid,E.out];exact IntWalk.i64_in _ (by omega)
  have R:Chk (w1.setCell ⟨g,1,none⟩ (.int .i64 (s+(zE x:Int)))) g i (s+(zE x:Int))∧w.grownBy (w1.setCell ⟨g,1,none⟩ (.int .i64 (s+(zE x:Int)))) (some g) :=
   ⟨(hC.drew.below hf.2).set_ 1 _,ve (wF (vr (yR (yt w _) _)) hf.2) (.inl rfl) _⟩
  rw[hw.out];have e1:=R.1.cell 1 rfl;clear d1 d2;go_wp2
  go_ret
  exact⟨rfl,R⟩
theorem fP {x:Itm}{ba:Option Addr}{bc:Nat}{ia:Option Addr}{ic:Nat}(w:World) (g:Nat) (i s:Int) (hc:Chk w g i s) (h7:x.kind=7) (fD:0≤s) (vl:s≤1099511627776) :
  Calls Tryz.prog 132 #[.pointer (some ⟨g,0,none⟩),xR x ba bc ia ic] w fun e w'=>e=.returned (.bool (decide (s+zE x≤4096)))∧Chk w' g i (s+zE x)∧w.grownBy w' (some g):=by
 have zB:=hc.lt;have c1:=hc.cell 1 rfl;have f1:=hc.frozen 1
 by_cases iy:(24:Int)≤(x.n:Int)
 ·have E:Hid ((zE x:Int)=2):=by
   have:24≤x.n:=by omega
   simp[Hid,zE,h7,this]
  have d1:=(hc.set_ 1 (.int .i64 (s+1))).cell 1 rfl;have g1:=(hc.set_ 1 (.int .i64 (s+1))).frozen 1;go_enter Tryz.func132,Tryz.ntmps132
  go_wp2
  go_ret
  have e:s+1+1=s+(zE x:Int):=by rw[E.out];omega
  rw[← e]
  exact⟨rfl,((hc.set_ 1 _).set_ 1 _).alloc _,yR (ve (ve (yt w _) (.inl rfl) _) (.inl rfl) _) _⟩
 have E:Hid ((zE x:Int)=1):=by
  have:¬ 24≤x.n:=by omega
  simp[Hid,zE,h7,this]
 have d1:=(hc.set_ 1 (.int .i64 (s+1))).cell 1 rfl;go_enter Tryz.func132,Tryz.ntmps132
 go_wp2
 go_ret
 have e:s+1=s+(zE x:Int):=by rw[E.out]
 rw[← e]
 exact⟨rfl,(hc.set_ 1 _).alloc _,yR (ve (yt w _) (.inl rfl) _) _⟩
theorem bC {H:Snap}{x:Itm}{ba:Option Addr}{bc:Nat}{ia:Option Addr}{ic:Nat}(hx:IsItem H ba bc ia ic x) (w:World) (g:Nat) (i s:Int) (hc:Chk w g i s) (h0:0≤x.kind) (h7:x.kind<7) (fD:0≤s) (vl:s≤1099511627776) (rM:x.bytes.length≤1099511627776) :
  Calls Tryz.prog 132 #[.pointer (some ⟨g,0,none⟩),xR x ba bc ia ic] w fun e w'=>e=.returned (.bool (decide (s+zE x≤4096)))∧Chk w' g i (s+zE x)∧w.grownBy w' (some g):=by
 have zB:=hc.lt
 have tt:(xp x:Int)<18446744073709551616:=by
  have:=hx.bounds
  unfold xp
  repeat' split
  all_goals omega
 have HN:U64 (xp x):=⟨by omega,tt⟩
 have pu:=un x.kind.toNat (xp x);have E:Hid (zE x=(yI x.kind.toNat (xp x)).length+x.bytes.length):=by rw[Hid,zE,if_neg (by omega),if_neg (by omega)]
 have b7:(x.kind==7)=false:=by simp;omega
 have b8:(x.kind==8)=false:=by simp;omega
 have hB:=Blk.new w 26 #[.int .i64 x.kind,.int .u64 x.n,.slice ba x.bytes.length bc,.slice ia x.items.length ic];have hC:=hc.alloc (.cells #[.int .i64 x.kind,.int .u64 x.n,.slice ba x.bytes.length bc,.slice ia x.items.length ic] 26);clear tt;go_enter Tryz.func132,Tryz.ntmps132
 go_wp2_with fail
 refine zw 17 (fun w'=>w'.cell? ⟨g,1,none⟩=some (.int .i64 s)∧w'.cell? ⟨w.heap.size,0,none⟩=some (.int .i64 x.kind)∧w'.cell? ⟨w.heap.size,1,none⟩=some (.int .u64 x.n)∧w'.cell? ⟨w.heap.size,2,none⟩=some (.slice ba x.bytes.length bc)∧w'.cell? ⟨w.heap.size,3,none⟩=some (.slice ia x.items.length ic)) (by kernel_rfl) (⟨hC.cell 1 rfl,hB.cell 0 rfl,hB.cell 1 rfl,hB.cell 2 rfl,hB.cell 3 rfl⟩) (fun zy=>?_)
 refine Tk 0 rfl zy ?_
 refine Tk 1 rfl zy ?_
 refine Tk 2 rfl zy ?_
 refine Tk 3 rfl zy ?_
 refine Tk 4 rfl zy ?_
 refine Tk 10 rfl zy ?_
 refine Tk 11 rfl zy ?_
 refine Tk 12 rfl zy ?_
 refine To 5 rfl fun K hK=>?_
 go_simp
 refine(jG hx.arg _ (by omega) (by omega)).mono ?_
 rintro e w1 ⟨rfl,hm⟩
 have y9:=hB.drew.below hm;have ss:=hC.drew.below hm
 refine Ko hK ?_ fun zy=>?_
 ·exact⟨ss.cell 1 rfl,y9.cell 0 rfl,y9.cell 1 rfl,y9.cell 2 rfl,y9.cell 3 rfl⟩
 clear hK K
 refine Tk 6 rfl zy ?_
 refine Tk 7 rfl zy ?_
 refine To 8 rfl fun K hK=>?_
 go_simp
 refine(gI _ _ _ (by omega) (by omega) (by omega) HN.2).mono ?_
 rintro e w2 ⟨r,rfl,hf⟩
 obtain⟨A,c,rfl,_,_,_⟩:=hf.own.form;have yF:=y9.below hf.2;have rt:=ss.below hf.2
 refine Ko hK ?_ fun zy=>?_
 ·exact⟨rt.cell 1 rfl,yF.cell 0 rfl,yF.cell 1 rfl,yF.cell 2 rfl,yF.cell 3 rfl⟩
 clear hK K
 refine Tk 9 rfl zy ?_
 refine Tk 13 rfl zy ?_
 refine Tk 14 rfl zy ?_
 refine Tk 15 rfl zy ?_
 refine Tk 16 rfl zy ?_
 refine To 17 rfl fun K hK=>?_
 have d1:=rt.cell 1 rfl;have d2:=rt.frozen 1;go_simp
 refine Kz hK ?_
 clear hK K
 refine Wd ?_
 have hw:Hid (IntKind.i64.wrap (s+IntKind.i64.wrap (((yI x.kind.toNat (xp x)).length:Int)+(x.bytes.length:Int)))=s+(zE x:Int)):=by
  rw[Hid,E.out,IntWalk.i64_in (((yI x.kind.toNat (xp x)).length:Int)+(x.bytes.length:Int)) (by omega),IntWalk.i64_in _ (by omega)]
  omega
 have R:Chk (w2.setCell ⟨g,1,none⟩ (.int .i64 (s+(zE x:Int)))) g i (s+(zE x:Int))∧w.grownBy (w2.setCell ⟨g,1,none⟩ (.int .i64 (s+(zE x:Int)))) (some g) :=
  ⟨rt.set_ 1 _,ve (wF (wF (vr (yR (yt w _) _)) hm) hf.2) (.inl rfl) _⟩
 rw[Int.toNat_natCast]at *;rw[hw.out];have e1:=R.1.cell 1 rfl;clear d1 d2;go_wp2
 go_ret
 exact⟨rfl,R⟩
theorem jH {H:Snap}{k n:Int}{ba:Option Addr}{bl bc:Nat}{ia:Option Addr}{il ic:Nat}{x:Itm}(hx:ItemA H k n ba bl bc ia il ic x) (w:World) (g:Nat) (i s:Int) (hc:Chk w g i s)
  (h0:0≤x.kind) (h8:x.kind≤8) (fD:0≤s) (vl:s≤1099511627776) (rM:x.bytes.length≤1099511627776) :
  Calls Tryz.prog 132 #[.pointer (some ⟨g,0,none⟩),.agg #[.int .i64 k,.int .u64 n,.slice ba bl bc,.slice ia il ic]] w
   fun e w'=>e=.returned (.bool (decide (s+zE x≤4096)))∧Chk w' g i (s+zE x)∧w.grownBy w' (some g):=by
 obtain⟨rfl,rfl,rfl,rfl,hx⟩:=hx
 by_cases h:x.kind=8
 ·exact dR hx w g i s hc h fD vl
 by_cases h7:x.kind=7
 ·exact fP w g i s hc h7 fD vl
 exact bC hx w g i s hc h0 (by omega) fD vl rM
theorem jA {H:Snap}(l:List Itm) (b off:Nat) (A:Option Addr) (ic:Nat) (w:World) (hA:0<l.length→A=some ⟨b,off,none⟩∧IsElems H b off l) (hH:Holds w H) (hk:KindsL l)
  (xK:∀ k (h:k<l.length),(zi l[k]).length≤1099511627776) (n:Nat) (hn:n=l.length) (rL:n≤1099511627776) :
  Calls Tryz.prog 133 #[.slice A n ic] w fun e w'=>e=.returned (.bool (xe l))∧Below w.heap.size w w':=by
 obtain⟨ans,Pl⟩:∃ b,xe l=b:=⟨_,rfl⟩
 rw[Pl];have Gq:=Hh Pl;have Er:=Hh hn;have Lb:=Hh xK;have Ym:=Hh hA;clear Pl hn xK hA;go_enter Tryz.func133,Tryz.ntmps133
 go_wp2
 go_loopw [3] (fun i wr=>∃ j:Nat,2≤j∧i=.int .i64 j∧j≤n+2∧xe (l.drop (j-2))=ans∧Below w.heap.size w wr) (fun i _=>(n+2-intOf i).toNat)
 case atStart=>exact⟨2,Nat.le_refl _,rfl,by omega,by simpa using Gq.out,Below.refl _ _⟩
 case round =>
 obtain⟨j,h2,rfl,hj,pm,hb⟩:=hrel
 by_cases zB:j<n
 ·have hn:=Er.out;obtain⟨hA,xA⟩:=Ym.out (by omega);have tS:=mG l j h2 (by omega);obtain⟨y1,y2,y3,y4,p0,p1,p2,p3,hy⟩:=xA.get (j-2) (by omega);obtain⟨z1,z2,z3,z4,q0,q1,q2,q3,hz⟩:=xA.get j (by omega);have Zg:=hk.get (j-2) (by omega);have Dt:=hk.get j (by omega);have im:=Lb.out (j-2) (by omega);have Jd:=Lb.out j (by omega)
  generalize l[j-2]'(by omega)=y at *
  generalize l[j]'(by omega)=z at *
  have uv:(0:Int)≤(j:Int)-2:=by omega
  have qp:(j:Int)-2<(n:Int):=by omega
  have qK:(2:Int)≤(j:Int):=by omega
  have oe:(j:Int)<(n:Int):=by omega
  subst hA;have bm:=Hh tS;have fi:=Hh pm;have Iv:Hid (w.heap.size≤wr.heap.size):=hb.size;have yG:Holds wr H:=hH.below hb (Nat.le_refl _);have WR:Holds wr.drew H:=yG.drew;have qr:IntKind.i64.wrap ((j:Int)-2)=(j:Int)-2:=IntWalk.i64_in _ (by omega);have lQ:((j:Int)-2).toNat=j-2:=by omega
  clear tS pm hn xA;go_wp2_with fail
  refine zw 12 (fun w'=>w'.cell? ⟨b,off+(j-2)*4,none⟩=some (.int .i64 y.kind)∧w'.cell? ⟨b,off+(j-2)*4+1,none⟩=some (.int .u64 y.n)∧w'.cell? ⟨b,off+(j-2)*4+2,none⟩=some (.slice y1 y.bytes.length y2)∧w'.cell? ⟨b,off+(j-2)*4+3,none⟩=some (.slice y3 y.items.length y4)∧w'.cell? ⟨b,off+j*4,none⟩=some (.int .i64 z.kind)∧w'.cell? ⟨b,off+j*4+1,none⟩=some (.int .u64 z.n)∧w'.cell? ⟨b,off+j*4+2,none⟩=some (.slice z1 z.bytes.length z2)∧w'.cell? ⟨b,off+j*4+3,none⟩=some (.slice z3 z.items.length z4)) (by kernel_rfl) (⟨yG.cell p0,yG.cell p1,yG.cell p2,yG.cell p3,yG.cell q0,yG.cell q1,yG.cell q2,yG.cell q3⟩) (fun zy=>?_)
  refine Tk 0 rfl zy ?_
  refine Tk 1 rfl zy ?_
  refine Tk 2 rfl zy ?_
  refine Tk 3 rfl zy ?_
  refine Tk 4 rfl zy ?_
  refine Tk 6 rfl zy ?_
  refine Tk 7 rfl zy ?_
  refine Tk 8 rfl zy ?_
  refine Tk 9 rfl zy ?_
  refine To 5 rfl fun K hK=>?_
  go_simp
  refine(qy y H _ _ _ _ _ _ _ _ _ w.heap.size (.slice none 0 0) [] Zg hy.arg WR (OwnB.nil _ _) Iv.out (by simp[Value.ownBlock]) (by simpa using im)).mono ?_
  rintro e w1 ⟨r1,rfl,Wv,NJ,OD⟩
  obtain⟨A1,c1,rfl,_,_,vl⟩:=Wv.form;have zJ:=yS NJ;have mi:Holds w1 H:=WR.below zJ (Nat.le_refl _);have rp:=zJ.size
  simp only[List.nil_append]at Wv vl
  refine Ko hK ?_ fun zy=>?_
  ·exact⟨mi.cell p0,mi.cell p1,mi.cell p2,mi.cell p3,mi.cell q0,mi.cell q1,mi.cell q2,mi.cell q3⟩
  clear hK K
  refine To 10 rfl fun K hK=>?_
  go_simp
  refine(qy z H _ _ _ _ _ _ _ _ _ w.heap.size (.slice none 0 0) [] Dt hz.arg mi (OwnB.nil _ _) (Nat.le_trans Iv.out rp) (by simp[Value.ownBlock]) (by simpa using Jd)).mono ?_
  rintro e w2 ⟨r2,rfl,cE,tu,l9⟩
  obtain⟨A2,c2,rfl,_,_,cG⟩:=cE.form;have zK:=yS tu;have mj:Holds w2 H:=mi.below zK (Nat.le_refl _)
  simp only[List.nil_append]at cE cG
  refine Ko hK ?_ fun zy=>?_
  ·exact⟨mj.cell p0,mj.cell p1,mj.cell p2,mj.cell p3,mj.cell q0,mj.cell q1,mj.cell q2,mj.cell q3⟩
  clear hK K
  refine To 11 rfl fun K hK=>?_
  go_simp
  refine(oP _ _ _ (zi y) (zi z) _ _ _ _ (by simp) (by simp) (vl.below zK) cG).mono ?_
  rintro e w3 ⟨rfl,rfl⟩
  refine Ko hK ?_ fun zy=>?_
  ·exact⟨mj.cell p0,mj.cell p1,mj.cell p2,mj.cell p3,mj.cell q0,mj.cell q1,mj.cell q2,mj.cell q3⟩
  clear hK K
  refine To 12 rfl fun K hK=>?_
  go_simp
  refine Kz hK ?_
  clear hK K
  refine Wd ?_
  have qC:=hb.drew.trans ((zJ.trans (zK.mono rp)).mono Iv.out);have qm:=Hh (And.intro bm.out fi.out);clear bm fi p0 p1 p2 p3 q0 q1 q2 q3 zy Wv cE NJ tu OD l9 vl cG
  generalize hcv:Lib.compareBytes (zi y) (zi z)=cv at *
  by_cases hc:(0:Int)≤cv
  ·have ha:ans=false:=by
    obtain⟨h1,h2⟩:=qm.out;rw[← h2,h1];have:¬ cv<0:=by omega
    simp[this]
   have Ib:=Hh ha;clear ha;go_wp2
   go_ret
   exact⟨(by rw[Ib.out];rfl),qC⟩
  have ha:xe (l.drop j)=ans:=by
   obtain⟨h1,h2⟩:=qm.out;rw[← h2,h1];have:cv<0:=by omega
   simp[this]
  have Ib:=Hh ha;clear ha;go_wp2
  go_roundw
  case rel=>exact⟨j+2,by omega,by go_num,by omega,Ib.out,qC⟩
  case measure=>simp[intOf];omega
 have hn:=Er.out;have Hz:=Hh (dZ l j h2 (by omega));have fi:=Hh pm;clear pm hn;go_wp2
 go_ret
 exact⟨(by rw[← fi.out,Hz.out];rfl),hb⟩
def kI (w:World) (g:Nat) (o:Option (Nat×Nat)) (e:Ending) (w':World):Prop :=
 e=.returned (.bool o.isSome)∧w.grownBy w' (some g)∧∃ i s:Int,Chk w' g i s∧∀ p,o=some p→i=(p.1:Int)∧s=(p.2:Int)
def jk (x:Itm):Prop:=∀ (H:Snap) (k n:Int) (ba:Option Addr) (bl bc:Nat) (ia:Option Addr) (il ic:Nat) (w:World) (g i s lv:Nat),
 Tabs H→ItemA H k n ba bl bc ia il ic x→Holds w H→H g=none→Chk w g i s→i≤256→s≤4096→lv≤8→
 Calls Tryz.prog 105 #[.pointer (some ⟨g,0,none⟩),.agg #[.int .i64 k,.int .u64 n,.slice ba bl bc,.slice ia il ic],.int .i64 (lv:Int)] w (kI w g (chk x lv i s))
theorem Xf (x:Itm) (i s lv:Nat) (h:256<i+1∨4096<x.bytes.length∨256<x.items.length) {H:Snap}{ba:Option Addr}{bc:Nat}{ia:Option Addr}{ic:Nat}(hx:IsItem H ba bc ia ic x) (w:World) (g:Nat)
  (hc:Chk w g i s) (hi:i≤256):Calls Tryz.prog 105 #[.pointer (some ⟨g,0,none⟩),xR x ba bc ia ic,.int .i64 (lv:Int)] w (kI w g (chk x lv i s)):=by
 have E:Hid (chk x lv i s=none):=by rw[Hid,mV,if_pos h]
 obtain⟨_,_,_,zJ,zK,qp,oe⟩:=hx.bounds;have hb:x.bytes.length≤9223372036854775807:=by omega
 have cR:x.items.length≤9223372036854775807:=by omega
 have zB:=hc.lt;have c0:=hc.cell 0 rfl;have f0:=hc.frozen 0;have c00:=(hc.set_ 0 (.int .i64 ((i:Int)+1))).cell 0 rfl
 have R:=Hh (And.intro ((hc.set_ 0 (.int .i64 ((i:Int)+1))).alloc (.cells #[.int .i64 x.kind,.int .u64 x.n,.slice ba x.bytes.length bc,.slice ia x.items.length ic] 26))
  (yR (ve (yt w (some g)) (.inl (rfl:(⟨g,0,none⟩:Addr).block=g)) (.int .i64 ((i:Int)+1))) (.cells #[.int .i64 x.kind,.int .u64 x.n,.slice ba x.bytes.length bc,.slice ia x.items.length ic] 26)))
 have HH:=Hh h;clear hx zJ zK qp oe h;go_enter Tryz.func105,Tryz.ntmps105
 go_wp2_with fail
 all_goals first
  | (go_ret;exact⟨by rw[E.out];rfl,R.out.2,_,_,R.out.1,by rw[E.out];intro p hp;cases hp⟩)
  | (exfalso;have:=HH.out;omega)
abbrev qH (w:World) (g:Nat) (i:Int) (x:Itm) (ba:Option Addr) (bc:Nat) (ia:Option Addr) (ic:Nat):World :=
 (w.setCell ⟨g,0,none⟩ (.int .i64 i)).alloc (.cells #[.int .i64 x.kind,.int .u64 x.n,.slice ba x.bytes.length bc,.slice ia x.items.length ic] 26)
theorem aU (x:Itm) (i s lv:Nat) (h1:i+1≤256) (h2:x.bytes.length≤4096) (h3:x.items.length≤256) (hp:ye x=true) {H:Snap}(hT:Tabs H) {ba:Option Addr}{bc:Nat}{ia:Option Addr}{ic:Nat}(hx:IsItem H ba bc ia ic x)
  (w:World) (hH:Holds w H) (g:Nat) (hg:H g=none) (hc:Chk w g i s) (hs:s≤4096) :
  Calls Tryz.prog 105 #[.pointer (some ⟨g,0,none⟩),xR x ba bc ia ic,.int .i64 (lv:Int)] w (kI w g (chk x lv i s)):=by
 have E:Hid (chk x lv i s=if yu x=true∧s+zE x≤4096 then some (i+1,s+zE x) else none):=by rw[Hid,mV,if_neg (by omega),if_pos hp]
 have hk:=(zH x).1 hp;have ij:0≤x.kind:=by omega
 have U3:x.kind≤8:=by omega
 have zB:=hc.lt;have c0:=hc.cell 0 rfl;have f0:=hc.frozen 0;have c00:=(hc.set_ 0 (.int .i64 ((i:Int)+1))).cell 0 rfl;have ss:Chk (qH w g ((i:Int)+1) x ba bc ia ic) g ((i:Int)+1) s:=(hc.set_ 0 _).alloc _
 have y9:Blk (qH w g ((i:Int)+1) x ba bc ia ic) w.heap.size 26 #[.int .i64 x.kind,.int .u64 x.n,.slice ba x.bytes.length bc,.slice ia x.items.length ic]:=by
  have:=Blk.new (w.setCell ⟨g,0,none⟩ (.int .i64 ((i:Int)+1))) 26 #[.int .i64 x.kind,.int .u64 x.n,.slice ba x.bytes.length bc,.slice ia x.items.length ic];rwa [show(w.setCell ⟨g,0,none⟩ (.int .i64 ((i:Int)+1))).heap.size=w.heap.size by simp[World.setCell]]at this
 have sQ:w.grownBy (qH w g ((i:Int)+1) x ba bc ia ic) (some g):=yR (ve (yt w (some g)) (.inl rfl) _) _;have mi:Holds (qH w g ((i:Int)+1) x ba bc ia ic) H:=(hH.setCell hg _).alloc _;clear hk;have Qp:=hx.arg;clear hx;go_enter Tryz.func105,Tryz.ntmps105
 go_wp2_with fail
 refine(oA hT Qp _ mi).mono ?_
 rintro e w2 ⟨rfl,zK⟩
 have rt:=ss.below zK;have yF:=y9.below zK;have xB:=wF sQ zK;have b0:=yF.cell 0 rfl;have b1:=yF.cell 1 rfl;have b2:=yF.cell 2 rfl;have b3:=yF.cell 3 rfl
 by_cases ho:yu x=true
 ·go_wp2_with fail
  refine(jH Qp w2 g ((i:Int)+1) s rt ij U3 (by omega) (by omega) (by omega)).mono ?_
  rintro e w3 ⟨rfl,gB,yN⟩
  have R:=Hh (And.intro (z8 xB yN (.inl rfl)) gB);clear c0 f0 c00 ss y9 sQ mi rt yF xB b0 b1 b2 b3 gB yN;go_wp2_with fail
  go_ret
  refine⟨?_,R.out.1,_,_,R.out.2, ?_⟩
  ·rw[E.out]
   by_cases yx:s+zE x≤4096
   ·rw[if_pos ⟨ho,yx⟩,show decide ((s:Int)+(zE x:Int)≤4096)=true by simp;omega];rfl
   rw[if_neg (fun h=>yx h.2),show decide ((s:Int)+(zE x:Int)≤4096)=false by simp;omega];rfl
  intro p hp
  rw[E.out]at hp
  split at hp
  ·injection hp with hp
   subst hp
   exact⟨by simp,by simp⟩
  cases hp
 have Dx:yu x=false:=by simpa using ho
 clear ho;have R:=Hh (And.intro xB rt);clear c0 f0 c00 ss y9 sQ mi rt yF xB b0 b1 b2 b3;go_wp2_with fail
 go_ret
 have e0:chk x lv i s=none:=by rw[E.out,if_neg (fun h=>by rw[Dx]at h;cases h.1)]
 exact⟨by rw[e0];rfl,R.out.1,_,_,R.out.2,by rw[e0];intro p hp;cases hp⟩
theorem aT (x:Itm) (i s lv:Nat) (h1:i+1≤256) (h2:x.bytes.length≤4096) (h3:x.items.length≤256) (hp:ye x=false) (hf:wR x lv=false) {H:Snap}(hT:Tabs H) {ba:Option Addr}{bc:Nat}{ia:Option Addr}{ic:Nat}(hx:IsItem H ba bc ia ic x)
  (w:World) (hH:Holds w H) (g:Nat) (hg:H g=none) (hc:Chk w g i s) (hs:s≤4096) (hlv:lv≤8) :
  Calls Tryz.prog 105 #[.pointer (some ⟨g,0,none⟩),xR x ba bc ia ic,.int .i64 (lv:Int)] w (kI w g (chk x lv i s)):=by
 have E:Hid (chk x lv i s=none):=by rw[Hid,mV,if_neg (by omega),if_neg (by simp[hp]),if_pos hf]
 have zB:=hc.lt;have c0:=hc.cell 0 rfl;have f0:=hc.frozen 0;have c00:=(hc.set_ 0 (.int .i64 ((i:Int)+1))).cell 0 rfl;have ss:Chk (qH w g ((i:Int)+1) x ba bc ia ic) g ((i:Int)+1) s:=(hc.set_ 0 _).alloc _
 have y9:Blk (qH w g ((i:Int)+1) x ba bc ia ic) w.heap.size 26 #[.int .i64 x.kind,.int .u64 x.n,.slice ba x.bytes.length bc,.slice ia x.items.length ic]:=by
  have:=Blk.new (w.setCell ⟨g,0,none⟩ (.int .i64 ((i:Int)+1))) 26 #[.int .i64 x.kind,.int .u64 x.n,.slice ba x.bytes.length bc,.slice ia x.items.length ic];rwa [show(w.setCell ⟨g,0,none⟩ (.int .i64 ((i:Int)+1))).heap.size=w.heap.size by simp[World.setCell]]at this
 have sQ:w.grownBy (qH w g ((i:Int)+1) x ba bc ia ic) (some g):=yR (ve (yt w (some g)) (.inl rfl) _) _;have mi:Holds (qH w g ((i:Int)+1) x ba bc ia ic) H:=(hH.setCell hg _).alloc _;have Qp:=hx.arg;have HF:=Hh hf;clear hx hf;go_enter Tryz.func105,Tryz.ntmps105
 go_wp2_with fail
 refine(oA hT Qp _ mi).mono ?_
 rintro e w2 ⟨rfl,zK⟩
 have rt:=ss.below zK;have yF:=y9.below zK;have R:=Hh (And.intro (wF sQ zK) rt);have b0:=yF.cell 0 rfl;have b1:=yF.cell 1 rfl;have b2:=yF.cell 2 rfl;have b3:=yF.cell 3 rfl;clear c0 f0 c00 ss y9 sQ mi rt yF zK;go_wp2_with fail
 all_goals first
  | (go_ret;exact⟨by rw[E.out];rfl,R.out.1,_,_,R.out.2,by rw[E.out];intro p hp;cases hp⟩)
  | skip
 all_goals try simp only[beq_eq_false_iff_ne,ne_eq]at *
 all_goals exact absurd (show _∧_∧_∧_∧_∧_∧_ from⟨by omega,by omega,by omega,by omega,fun _=>by omega,fun _=>by omega,fun _=>by omega⟩) (of_decide_eq_false HF.out)
theorem Xg (x:Itm) (ih:∀ y:Itm,cnt y<cnt x→jk y) (i s lv:Nat) (h1:i+1≤256) (h2:x.bytes.length≤4096) (h3:x.items.length≤256) (hp:ye x=false) (hf:wR x lv=true) {H:Snap}(hT:Tabs H) {ba:Option Addr}{bc:Nat}{ia:Option Addr}{ic:Nat}(hx:IsItem H ba bc ia ic x)
  (w:World) (hH:Holds w H) (g:Nat) (hg:H g=none) (hc:Chk w g i s) (hs:s≤4096) :
  Calls Tryz.prog 105 #[.pointer (some ⟨g,0,none⟩),xR x ba bc ia ic,.int .i64 (lv:Int)] w (kI w g (chk x lv i s)):=by
 have E:Hid (chk x lv i s=if 4096<s+zE x then none else match sK x.items (lv+1) (i+1) (s+zE x) with | none=>none | some p=>if x.kind=5∧xe x.items=false then none else some p):=by
  rw[Hid,mV,if_neg (by omega),if_neg (by simp[hp]),if_neg (by simp[hf])];rfl
 obtain⟨Tm,Ja,Bx,rM,mw,yV,ip⟩:=y5 hf;have Bn:(x.bytes.length:Int)≤0:=by omega
 have zB:=hc.lt;have c0:=hc.cell 0 rfl;have f0:=hc.frozen 0;have c00:=(hc.set_ 0 (.int .i64 ((i:Int)+1))).cell 0 rfl;have ss:Chk (qH w g ((i:Int)+1) x ba bc ia ic) g ((i:Int)+1) s:=(hc.set_ 0 _).alloc _
 have y9:Blk (qH w g ((i:Int)+1) x ba bc ia ic) w.heap.size 26 #[.int .i64 x.kind,.int .u64 x.n,.slice ba x.bytes.length bc,.slice ia x.items.length ic]:=by
  have:=Blk.new (w.setCell ⟨g,0,none⟩ (.int .i64 ((i:Int)+1))) 26 #[.int .i64 x.kind,.int .u64 x.n,.slice ba x.bytes.length bc,.slice ia x.items.length ic];rwa [show(w.setCell ⟨g,0,none⟩ (.int .i64 ((i:Int)+1))).heap.size=w.heap.size by simp[World.setCell]]at this
 have sQ:w.grownBy (qH w g ((i:Int)+1) x ba bc ia ic) (some g):=yR (ve (yt w (some g)) (.inl rfl) _) _;have mi:Holds (qH w g ((i:Int)+1) x ba bc ia ic) H:=(hH.setCell hg _).alloc _;have Qp:=hx.arg
 have tests:((x.kind==6)=true∧(x.kind==5)=false∧(x.kind != 5)=true∧(x.kind != 6)=false∧(x.items.length:Int)≤1∧1≤(x.items.length:Int)∧Hid (¬ x.kind=5))∨
   ((x.kind==6)=false∧(x.kind != 6)=true∧(x.n:Int)≤0∧(x.kind==5)=true∧(x.kind != 5)=false∧((x.items.length:Int)%2==1)=false∧Hid (x.kind=5))∨
   ((x.kind==6)=false∧(x.kind != 6)=true∧(x.n:Int)≤0∧(x.kind==5)=false∧(x.kind != 5)=true∧True∧Hid (¬ x.kind=5)):=by
  rcases(by omega:x.kind=6∨x.kind=5∨x.kind=4) with h | h | h
  ·have:=mw h
   exact .inl ⟨by simp[h],by simp[h],by simp[h],by simp[h],by omega,by omega,by rw[Hid];omega⟩
  ·have:=yV (by omega);have h2:=ip h
   exact .inr (.inl ⟨by simp[h],by simp[h],by omega,by simp[h],by simp[h],by simp;omega,h⟩)
  have:=yV (by omega)
  exact .inr (.inr ⟨by simp[h],by simp[h],by omega,by simp[h],by simp[h],trivial,by rw[Hid];omega⟩)
 have HX:=Hh hx;clear hx hf mw yV ip rM;have TT:=Hh tests;clear tests;go_enter Tryz.func105,Tryz.ntmps105
 go_wp2_with fail
 refine(oA hT Qp _ mi).mono ?_
 rintro e w2 ⟨rfl,zK⟩
 have rt:=ss.below zK;have yF:=y9.below zK;have xB:=wF sQ zK;have b0:=yF.cell 0 rfl;have b1:=yF.cell 1 rfl;have b2:=yF.cell 2 rfl;have b3:=yF.cell 3 rfl;go_upto_region 9 with fail
 go_cut [95] (fun s95 wx=>s95=.bool false∧w2=wx)
 case first =>
  rcases TT.out with ⟨t1,t2,t3,t4,t5,t6,t7⟩ | ⟨t1,t2,t3,t4,t5,t6,t7⟩ | ⟨t1,t2,t3,t4,t5,t6,t7⟩
  all_goals
   go_wp2_with fail
   go_meet
   exact⟨rfl,rfl⟩
 case rest =>
 obtain⟨rfl,rfl⟩:=hcut;go_wp2_with fail
 refine(jH Qp _ g ((i:Int)+1) s rt (by omega) (by omega) (by omega) (by omega) (by omega)).mono ?_
 rintro e w3 ⟨rfl,gB,yN⟩
 have ux:=yF.grown yN (by simp;omega);have d0:=ux.cell 0 rfl;have d3:=ux.cell 3 rfl;clear b0 b1 b2 b3
 by_cases yx:s+zE x≤4096
 ·have Lz:decide ((s:Int)+(zE x:Int)≤4096)=true:=by simp;omega
  go_wp2_with fail
  have E2:Hid (chk x lv i s=match sK x.items (lv+1) (i+1) (s+zE x) with | none=>none | some p=>if x.kind=5∧xe x.items=false then none else some p):=by
   rw[Hid,E.out,if_neg (by omega)]
  have K4:=Hh (z8 xB yN (.inl rfl));have Nk:w.heap.size<w3.heap.size:=ux.lt;have Kd:Holds w3 H:=(mi.below zK (Nat.le_refl _)).grown yN (fun g' h=>by injection h with h;subst h;exact hg);clear ss y9 sQ mi rt yF xB c0 f0 c00 E Lz zK yN;go_loopw [103] (fun vi wr=>∃ (k:Nat) (p:Nat×Nat),k≤x.items.length∧vi=.int .i64 k∧Hid (sK (x.items.drop k) (lv+1) p.1 p.2=sK x.items (lv+1) (i+1) (s+zE x))∧p.1≤256∧p.2≤4096∧Chk wr g p.1 p.2∧w3.grownBy wr (some g)) (fun vi _=>x.items.length-(intOf vi).toNat)
  case atStart=>exact⟨0,(i+1,s+zE x),Nat.zero_le _,rfl,by simp[Hid],by omega,yx,by simpa using gB,yt _ _⟩
  case round =>
  obtain⟨k,p,hk,rfl,qD,ir,Qi,O0,tU⟩:=hrel;have yG:Holds wr H:=Kd.grown tU (fun g' h=>by injection h with h;subst h;exact hg)
  by_cases zB:k<x.items.length
  ·obtain⟨ib,io,tK,xA⟩:=HX.out.items (by omega);obtain⟨eba,ebc,eia,eic,q0,q1,q2,q3,va⟩:=xA.get k zB;subst tK;have xK:(x.items.length:Int)≤256:=by omega
   have p0:=yG.cell q0;have p1:=yG.cell q1;have p2:=yG.cell q2;have p3:=yG.cell q3;have eS:x.items.drop k=x.items[k]::x.items.drop (k+1):=List.drop_eq_getElem_cons zB
   have IHH:=Hh (ih x.items[k] (wL x k zB) H _ _ eba _ ebc eia _ eic (wr.alloc (.cells #[.int .i64 x.items[k].kind,.int .u64 x.items[k].n,.slice eba x.items[k].bytes.length ebc,.slice eia x.items[k].items.length eic] 26)) g p.1 p.2 (lv+1)
    hT va.arg (yG.alloc _) hg (O0.alloc _) ir Qi (by omega))
   have HD:=Hh eS;have MH:((lv+1:Nat):Int)=(lv:Int)+1:=by omega
   rw[MH]at IHH;clear eS q0 q1 q2 q3 xA d0 d3 MH;go_wp2_with fail
   refine IHH.out.mono ?_
   rintro e w4 ⟨rfl,xl,i4,s4,TY,WX⟩
   have vB:=z8 (yR tU (.cells #[.int .i64 x.items[k].kind,.int .u64 x.items[k].n,.slice eba x.items[k].bytes.length ebc,.slice eia x.items[k].items.length eic] 26)) xl (.inl rfl)
   cases hq:chk x.items[k] (lv+1) p.1 p.2 with
   | none =>
    have e0:Hid (chk x lv i s=none):=by
     rw[Hid,E2.out,← qD.out,HD.out,sK,hq]
    have R:=Hh (And.intro (z8 K4.out vB (.inl rfl)) TY);clear hq WX p0 p1 p2 p3 IHH O0 tU xl vB TY;go_wp2_with fail
    go_ret
    exact⟨by rw[e0.out];rfl,R.out.1,_,_,R.out.2,by rw[e0.out];intro p hp;cases hp⟩
   | some p' =>
   obtain⟨rfl,rfl⟩:=WX p' hq;obtain⟨_,_,Tq,gD⟩:=jr _ _ _ _ _ hq
   have hn:Hid (sK (x.items.drop (k+1)) (lv+1) p'.1 p'.2=sK x.items (lv+1) (i+1) (s+zE x)):=by
    rw[Hid,← qD.out,HD.out,sK,hq]
   clear hq WX p0 p1 p2 p3 IHH O0 tU xl HD qD;go_wp2_with fail
   go_roundw
   case rel=>exact⟨k+1,p',by omega,by go_num,hn,Tq,gD,TY,vB⟩
   case measure=>simp[intOf];omega
  have qq:k=x.items.length:=by omega
  subst qq
  have rT:Hid (sK x.items (lv+1) (i+1) (s+zE x)=some p):=by
   rw[Hid,← qD.out,List.drop_length,sK]
  have oL:=ux.grown tU (by simp;omega);have d0:=oL.cell 0 rfl;have d3:=oL.cell 3 rfl;have J5:=Hh (z8 K4.out tU (.inl rfl));clear qD
  rcases TT.out with ⟨t1,t2,t3,t4,t5,t6,t7⟩ | ⟨t1,t2,t3,t4,t5,t6,t7⟩ | ⟨t1,t2,t3,t4,t5,t6,t7⟩
  ·clear t1 t2 t4 t5 t6;go_wp2_with fail
   go_ret
   have e0:chk x lv i s=some p:=by
    rw[E2.out,rT.out]
    simp only[if_neg (fun h:x.kind=5∧_=>t7.out h.1)]
   exact⟨by rw[e0];rfl,J5.out,_,_,O0,by rw[e0];intro p' sS;injection sS with sS;subst sS;exact⟨rfl,rfl⟩⟩
  ·clear t1 t2 t3 t4 t6;obtain⟨hK,N8,_,gD⟩:=mM _ _ _ _ _ rT.out h1 yx;have Qa:(zG x.items).length≤4096:=by rw[N8]at gD;simp only at gD;omega
   have xK:∀ k (h:k<x.items.length),(zi x.items[k]).length≤1099511627776:=by
    intro k hk
    have a1:=vK x.items k hk;have a2:=qO x.items (k+1);rw[a1]at a2
    simp only[List.length_append]at a2
    omega
   have DE:∃ b off,0<x.items.length→ia=some ⟨b,off,none⟩∧IsElems H b off x.items:=by
    by_cases h0:0<x.items.length
    ·obtain⟨ib,io,tK,xA⟩:=HX.out.items h0
     exact⟨ib,io,fun _=>⟨tK,xA⟩⟩
    exact⟨0,0,fun h=>absurd h h0⟩
   obtain⟨ib,io,hA⟩:=DE;have ASC:=Hh (jA x.items ib io ia ic wr hA yG hK xK x.items.length rfl (by omega));clear hA xK Qa N8 gD hK;go_wp2_with fail
   refine ASC.out.mono ?_
   rintro e w5 ⟨rfl,xS⟩
   have R:=Hh (And.intro (wF J5.out xS) (O0.below xS))
   cases pm:xe x.items with
   | true =>
    have e0:Hid (chk x lv i s=some p):=by
     rw[Hid,E2.out,rT.out]
     simp only[pm,Bool.true_eq_false,and_false,if_false]
    clear ASC pm;go_wp2_with fail
    go_ret
    exact⟨by rw[e0.out];rfl,R.out.1,_,_,R.out.2,by rw[e0.out];intro p' sS;injection sS with sS;subst sS;exact⟨rfl,rfl⟩⟩
   | false =>
   have e0:Hid (chk x lv i s=none):=by
    rw[Hid,E2.out,rT.out]
    simp only[pm,t7.out,and_self,if_true]
   clear ASC pm;go_wp2_with fail
   go_ret
   exact⟨by rw[e0.out];rfl,R.out.1,_,_,R.out.2,by rw[e0.out];intro p' sS;cases sS⟩
  clear t1 t2 t3 t4;go_wp2_with fail
  go_ret
  have e0:chk x lv i s=some p:=by
   rw[E2.out,rT.out]
   simp only[if_neg (fun h:x.kind=5∧_=>t7.out h.1)]
  exact⟨by rw[e0];rfl,J5.out,_,_,O0,by rw[e0];intro p' sS;injection sS with sS;subst sS;exact⟨rfl,rfl⟩⟩
 have Lz:decide ((s:Int)+(zE x:Int)≤4096)=false:=by simp;omega
 have R:=Hh (And.intro (z8 xB yN (.inl rfl)) gB);clear ss y9 sQ mi rt yF xB gB yN ux d0 d3 c0 f0 c00;go_wp2_with fail
 go_ret
 have e0:chk x lv i s=none:=by rw[E.out,if_pos (by omega)]
 exact⟨by rw[e0];rfl,R.out.1,_,_,R.out.2,by rw[e0];intro p hp;cases hp⟩
theorem ItemA.eqs {H:Snap}{k n:Int}{ba:Option Addr}{bl bc:Nat}{ia:Option Addr}{il ic:Nat}{x:Itm}(h:ItemA H k n ba bl bc ia il ic x):k=x.kind∧n=(x.n:Int)∧bl=x.bytes.length∧il=x.items.length∧IsItem H ba bc ia ic x:=⟨h.1,h.2,h.3,h.4,h.5⟩
theorem XO (x:Itm):jk x:=by
 have main:∀ N,∀ x:Itm,cnt x≤N→jk x:=by
  intro N
  induction N with
  | zero =>
   intro x hx
   have:0<cnt x:=by cases x;rw[cnt];omega
   omega
  | succ N ih =>
  intro x hx H k n ba bl bc ia il ic w g i s lv hT ha hH hg hc hi hs hlv
  obtain⟨rfl,rfl,rfl,rfl,tD⟩:=ha.eqs
  by_cases h0:256<i+1∨4096<x.bytes.length∨256<x.items.length
  ·exact Xf x i s lv h0 tD w g hc hi
  by_cases hp:ye x=true
  ·exact aU x i s lv (by omega) (by omega) (by omega) hp hT tD w hH g hg hc hs
  have sS:ye x=false:=by simpa using hp
  by_cases hf:wR x lv=true
  ·exact Xg x (fun y hy=>ih y (by omega)) i s lv (by omega) (by omega) (by omega) sS hf hT tD w hH g hg hc hs
  exact aT x i s lv (by omega) (by omega) (by omega) sS (by simpa using hf) hT tD w hH g hg hc hs hlv
 exact main _ x (Nat.le_refl _)
theorem tX {H:Snap}(hT:Tabs H) {k n:Int}{ba:Option Addr}{bl bc:Nat}{ia:Option Addr}{il ic:Nat}{x:Itm}(hx:ItemA H k n ba bl bc ia il ic x) (w:World) (hH:Holds w H) :
  Calls Tryz.prog 65 #[.agg #[.int .i64 k,.int .u64 n,.slice ba bl bc,.slice ia il ic]] w fun e w'=>e=.returned (.bool (zU x))∧Below w.heap.size w w':=by
 have W1:=fun w1:World=>fun h1:Holds w1 H=>fun hg=>fun hc=>(XO x) H k n ba bl bc ia il ic w1 (w.heap.size+1) 0 0 0 hT hx h1 hg hc (by omega) (by omega) (by omega)
 have mj:=(hH.alloc (.cells #[.int .i64 k,.int .u64 n,.slice ba bl bc,.slice ia il ic] 26))
 have tu:H (w.heap.size+1)=none:=hH.none_of_ge (by omega);have hC:=Blk.new (w.alloc (.cells #[.int .i64 k,.int .u64 n,.slice ba bl bc,.slice ia il ic] 26)) 144 #[.int .i64 0,.int .i64 0];rw[show(w.alloc (.cells #[.int .i64 k,.int .u64 n,.slice ba bl bc,.slice ia il ic] 26)).heap.size=w.heap.size+1 by simp]at hC;have I:=Hh (W1 _ (mj.alloc (.cells #[.int .i64 0,.int .i64 0] 144)) tu hC);have B2:=Hh ((zu w (.cells #[.int .i64 k,.int .u64 n,.slice ba bl bc,.slice ia il ic] 26)).alloc (by simp) (.cells #[.int .i64 0,.int .i64 0] 144));clear W1 mj tu hC hx;go_enter Tryz.func65,Tryz.ntmps65
 go_wp2_with fail
 refine I.out.mono ?_
 rintro e w2 ⟨rfl,hG,_⟩
 go_wp2_with fail
 go_ret
 exact⟨rfl,zR B2.out hG (by simp)⟩
def Ri (w:World) (x:Itm) (e:Ending) (w':World):Prop :=
 (zU x=false∧e=.returned (.tuple #[.slice none 0 0,.int .i64 1])∧Below w.heap.size w w')∨
 (zU x=true∧∃ r,e=.returned (.tuple #[r,.int .i64 0])∧Fresh w (zi x) r w')
theorem pJ {H:Snap}(hT:Tabs H) {k n:Int}{ba:Option Addr}{bl bc:Nat}{ia:Option Addr}{il ic:Nat}{x:Itm}(hx:ItemA H k n ba bl bc ia il ic x) (w:World) (hH:Holds w H) :
  Calls Tryz.prog 52 #[.agg #[.int .i64 k,.int .u64 n,.slice ba bl bc,.slice ia il ic]] w (Ri w x):=by
 have mi:=(hH.alloc (.cells #[.int .i64 k,.int .u64 n,.slice ba bl bc,.slice ia il ic] 26))
 have zJ:=zu w (.cells #[.int .i64 k,.int .u64 n,.slice ba bl bc,.slice ia il ic] 26);have y9:=Blk.new w 26 #[.int .i64 k,.int .u64 n,.slice ba bl bc,.slice ia il ic];have V:=Hh (tX hT hx _ mi);go_enter Tryz.func52,Tryz.ntmps52
 go_wp2_with fail
 refine V.out.mono ?_
 rintro e w2 ⟨rfl,zK⟩
 have yF:=y9.below zK;have b0:=yF.cell 0 rfl;have b1:=yF.cell 1 rfl;have b2:=yF.cell 2 rfl;have b3:=yF.cell 3 rfl;have mj:=mi.below zK (Nat.le_refl _);have hb:=zJ.trans (zK.mono zJ.size)
 cases hv:zU x with
 | false =>
  have Ng:=Hh hv;clear hv;go_wp2_with fail
  go_ret2
  exact .inl ⟨Ng.out,rfl,hb⟩
 | true =>
 obtain⟨hk,_,hl⟩:=vN hv;have A:=Hh (qy x H k n ba bl bc ia il ic w2 w2.heap.size (.slice none 0 0) [] hk hx mj (OwnB.nil _ _) (Nat.le_refl _) (by simp[Value.ownBlock]) (by simp;omega));have Ng:=Hh hv;clear hv hl;go_wp2_with fail
 refine A.out.mono ?_
 rintro e w3 ⟨r,rfl,y7,hg,_⟩
 go_wp2_with fail
 go_ret2
 refine .inr ⟨Ng.out,_,rfl, ?_, ?_⟩
 ·simpa [OwnB] using y7.more (base':=w.heap.size) hb.size
 exact hb.trans ((yS (by simpa [Value.ownBlock] using hg)).mono hb.size)
theorem Snap.with_ne (H:Snap) {g b:Nat}(o:Obj) (h:b≠g):(H.with g o) b=H b:=by simp[Snap.with,h]
theorem nB {w:World}{ops:Array Oper}{rest:List Oper}{o:Oper}{a:Act}{Q:Exit→Act→World→Prop}
  (hg:o.guard=none) (l c:Operand) (cX:o.op=Op.makeSlice 24 l c)
  (kl kc:IntKind) (L C:Int) (n:Nat) (hl:a.eval l=.int kl L) (hc:a.eval c=.int kc C) (hL:L=(n:Int)) (hC:C=(n:Int)) (b2:n≤1099511627776) (g:Nat) (xI:w.heap.size=g)
  (hK:∀ w' cs,Blk w' g 26 cs→cs.size=n*4→Below w.heap.size w w'→wpList Tryz.prog ops Q rest (a.put o.dst (.slice (some ⟨g,0,none⟩) n n)) w') :
  wpList Tryz.prog ops Q (o::rest) a w:=by
 subst xI;obtain⟨i0,uv,o1,rp,rQ⟩:=info_parts mO
 refine wpList_make_full w hg l c _ cX w.heap.size 26 i0 _ 4 Tryz.underlying24 uv o1 rp kl kc L C n hl hc hL hC (by rw[rQ];omega) (by simp only[maxLen];omega) (Nat.le_refl _) fun w' h1 h2=>?_
 rcases h1.2 with ⟨hv,_⟩ | ⟨g,cap,cur,hv,_,hg,_,_,hs,_⟩
 ·cases hv
 cases hv
 exact hK w' cur hg hs (yS h2)
def qR (x:Itm):Prop:=∀ (H:Snap) (k n:Int) (ba:Option Addr) (bl bc:Nat) (ia:Option Addr) (il ic:Nat) (w:World),
 Modest x→ItemA H k n ba bl bc ia il ic x→Holds w H→
 Calls Tryz.prog 95 #[.agg #[.int .i64 k,.int .u64 n,.slice ba bl bc,.slice ia il ic]] w fun e w'=>∃ v,e=.returned v∧Gives w H x v w'
theorem cf (x:Itm) (ih:∀ y:Itm,cnt y<cnt x→qR y):qR x:=by
 intro H k n ba bl bc ia il ic w hm hx hH
 obtain⟨rfl,rfl,rfl,rfl,tD⟩:=hx.eqs;obtain⟨qM,ip,OQ⟩:=hm.parts;have HX:=Hh tD;have ZH:=Hh tD.bounds;have C:=Hh (pI ((w.alloc (.cells #[.int .i64 x.kind,.int .u64 x.n,.slice ba x.bytes.length bc,.slice ia x.items.length ic] 26)).alloc (.cells #[.int .i64 0,.int .u64 0,.slice none 0 0,.slice none 0 0] 26)) ba x.bytes x.bytes.length bc rfl qM (((Src.of_row tD.bytes.row hH).alloc _).alloc _));have y9:=(Blk.new w 26 #[.int .i64 x.kind,.int .u64 x.n,.slice ba x.bytes.length bc,.slice ia x.items.length ic]).alloc (.cells #[.int .i64 0,.int .u64 0,.slice none 0 0,.slice none 0 0] 26);have yF:=Blk.new (w.alloc (.cells #[.int .i64 x.kind,.int .u64 x.n,.slice ba x.bytes.length bc,.slice ia x.items.length ic] 26)) 26 #[.int .i64 0,.int .u64 0,.slice none 0 0,.slice none 0 0];rw[show(w.alloc (.cells #[.int .i64 x.kind,.int .u64 x.n,.slice ba x.bytes.length bc,.slice ia x.items.length ic] 26)).heap.size=w.heap.size+1 by simp]at yF
 clear hx hm tD qM;go_enter Tryz.func95,Tryz.ntmps95
 go_wp2_with fail
 refine C.out.mono ?_
 rintro e w1 ⟨r,rfl,hf⟩
 obtain⟨A',c',rfl,_⟩:=hf.own.form;obtain⟨H1,sQ,km,_⟩:=hf.snapB ((hH.alloc _).alloc _);have Lv:H1 w.heap.size=none:=sQ.none (hH.none_of_ge (Nat.le_refl _)) (by simp;omega);have Ht:H1 (w.heap.size+1)=none:=sQ.none (hH.none_of_ge (by omega)) (by simp);have sQ:=(((Grows.refl hH).alloc _).alloc _).trans sQ;have y9:=y9.below hf.2;have yF:=yF.below hf.2;have b2:=y9.cell 2 rfl;have f2:=y9.frozen 2;have y9:=y9.set_ 2 (.slice A' x.bytes.length c');have b3:=y9.cell 3 rfl;have qr:w.heap.size+2≤w1.heap.size:=by have:=hf.2.size;simp at this;omega
 go_wp2_with (at_make;refine zM ?_)
 refine nB rfl _ _ rfl .i64 .i64 _ _ x.items.length rfl rfl rfl rfl ip w1.heap.size (by simp[World.setCell]) fun w2 cs rN hcz zK=>?_
 have Dj:H1 w1.heap.size=none:=sQ.hidden (Nat.le_refl _);have xB:Grows w H w2 H1:=(sQ.setOwn Lv (Nat.le_refl _) 2 (.slice A' x.bytes.length c')).below_ zK;have yF:=(yF.far (p:=⟨w.heap.size,2,none⟩) (by simp) (.slice A' x.bytes.length c')).below zK;have y9:=y9.below zK;have lQ:w1.heap.size<w2.heap.size:=rN.lt;have c3:=y9.cell 3 rfl;have Ij:=Hh xB;have rU:=sQ.le;clear hf C b2 f2 b3 zK;go_upto_region 4 with fail
 go_loopw [17] (fun vi wr=>∃ (k:Nat) (Hr:Snap) (cr:Array Value) (pre:List Value),k≤x.items.length∧vi=.int .i64 k∧Grows w H wr Hr∧H1.le Hr∧Hr w.heap.size=none∧Hr (w.heap.size+1)=none∧Hr w1.heap.size=none∧
  Blk wr w.heap.size 26 #[.int .i64 x.kind,.int .u64 x.n,.slice A' x.bytes.length c',.slice ia x.items.length ic]∧Blk wr (w.heap.size+1) 26 #[.int .i64 0,.int .u64 0,.slice none 0 0,.slice none 0 0]∧
  Blk wr w1.heap.size 26 cr∧cr.size=x.items.length*4∧ItemsC Hr pre (x.items.take k)∧cr.toList.take (k*4)=pre) (fun vi _=>x.items.length-(intOf vi).toNat)
 case atStart=>exact⟨0,H1,cs,[],Nat.zero_le _,rfl,Ij.out,Snap.le.refl _,Lv,Ht,Dj,y9,yF,rN,hcz,by simp[ItemsC],by simp⟩
 case round =>
 obtain⟨k,Hr,cr,pre,hk,rfl,tU,WZ,uw,uH,Kv,ss,rt,Mt,Hw,iZ,Kn⟩:=hrel
 by_cases zB:k<x.items.length
 ·obtain⟨ib,io,tK,xA⟩:=HX.out.items (by omega);obtain⟨eba,ebc,eia,eic,q0,q1,q2,q3,va⟩:=xA.get k zB;subst tK;have RH:=tU.holds.mono tU.le;have p0:=RH.cell q0;have p1:=RH.cell q1;have p2:=RH.cell q2;have p3:=RH.cell q3;have IH:=Hh (ih x.items[k] (wL x k zB) Hr _ _ eba _ ebc eia _ eic (wr.alloc (.cells #[.int .i64 x.items[k].kind,.int .u64 x.items[k].n,.slice eba x.items[k].bytes.length ebc,.slice eia x.items[k].items.length eic] 26)) (OQ.get k zB) (va.mono tU.le).arg (tU.holds.alloc _));clear q0 q1 q2 q3 xA va RH;go_wp2_with fail
  refine IH.out.mono ?_
  rintro e w3 ⟨v,rfl,rba,rbc,ria,ric,Hs,rfl,yN,NM⟩
  have xl:=(tU.alloc (.cells #[.int .i64 x.items[k].kind,.int .u64 x.items[k].n,.slice eba x.items[k].bytes.length ebc,.slice eia x.items[k].items.length eic] 26)).trans yN;have od:=(ss.alloc (.cells #[.int .i64 x.items[k].kind,.int .u64 x.items[k].n,.slice eba x.items[k].bytes.length ebc,.slice eia x.items[k].items.length eic] 26)).below yN.below;have m6:=(rt.alloc (.cells #[.int .i64 x.items[k].kind,.int .u64 x.items[k].n,.slice eba x.items[k].bytes.length ebc,.slice eia x.items[k].items.length eic] 26)).below yN.below;have FP:=(Mt.alloc (.cells #[.int .i64 x.items[k].kind,.int .u64 x.items[k].n,.slice eba x.items[k].bytes.length ebc,.slice eia x.items[k].items.length eic] 26)).below yN.below;have IG:=yN.none uw (by have:=ss.lt;simp;omega);have IJ:=yN.none uH (by have:=rt.lt;simp;omega);have MI:=yN.none Kv (by have:=Mt.lt;simp;omega)
  have LN:ItemsC Hs (pre++zQ x.items[k] rba rbc ria ric) (x.items.take (k+1)):=by
   rw[List.take_succ_eq_append_getElem zB]
   exact(iZ.mono yN.le).app (ItemsC.one NM)
  have IB:=WZ.trans yN.le;have Ih:=Hh Kn;clear p0 p1 p2 p3 IH ss rt Mt iZ tU yN Kn;go_wp2_with (with_reducible refine zx ?_)
  refine wK rfl _ _ _ rfl rfl w1.heap.size (k*4) _ rfl rfl _ _ FP zp (by show k*4+4≤cr.size;omega) (ua _ _ _ _ rfl rfl rfl rfl) fun w4 hDg4 mv=>?_
  have vB:=xl.grownOwn MI (by omega) mv;have od:=od.grown mv (by simp;omega);have m6:=m6.grown mv (by simp;omega);have iu:(ob cr (k*4) (zQ x.items[k] rba rbc ria ric)).size=x.items.length*4:=by rw[gh];exact Hw
  have Ky:(ob cr (k*4) (zQ x.items[k] rba rbc ria ric)).toList.take ((k+1)*4)=pre++zQ x.items[k] rba rbc ria ric:=by
   rw[show(k+1)*4=k*4+(zQ x.items[k] rba rbc ria ric).length by simp[zQ];omega,Y3 _ _ _ (by simp[zQ];omega),Ih.out]
  have KM:=Hh Ky;clear Ky xl FP;go_wp2_with fail
  go_roundw
  case rel=>exact⟨k+1,Hs,_,_,by omega,by go_num,vB,IB,IG,IJ,MI,od,m6,hDg4,iu,LN,KM.out⟩
  case measure=>simp[intOf];omega
 have qq:k=x.items.length:=by omega
 subst qq;rw[List.take_length]at iZ;have Ih:=Hh Kn;clear Kn;have hF:=tU.withOwn Kv (by omega) Mt;have hK:=WZ.trans (Snap.le_with Kv (o:=.cells cr 26 (0,0)));have ML:(Hr.with w1.heap.size (.cells cr 26 (0,0))) (w.heap.size+1)=none:=by rw[Snap.with_ne _ _ (by omega)];exact uH
 have TG:(Hr.with w1.heap.size (.cells cr 26 (0,0))) w.heap.size=none:=by rw[Snap.with_ne _ _ (by omega)];exact uw
 have Ow:IsElems (Hr.with w1.heap.size (.cells cr 26 (0,0))) w1.heap.size 0 x.items :=
  (iZ.mono (Snap.le_with Kv)).elems (Blk.cellsAt _ rfl pre (by rw[iZ.len];exact Ih.out))
 have Lw:=km.mono hK;have iu:w.heap.size<wr.heap.size:=ss.lt;clear Mt;go_wp2_with (with_reducible refine zx ?_)
 refine ze rfl _ _ _ rfl rfl w.heap.size 3 _ rfl rfl _ _ ss ry (by simp) rfl fun w4 Wh mv=>?_
 have Kb:=rt.grown mv (by simp);have Kc:=hF.grownOwn TG (Nat.le_refl _) mv;clear ss rt
 by_cases h0:x.items.length=0
 ·have kO:IsItem (Hr.with w1.heap.size (.cells cr 26 (0,0))) A' c' none 0 x:=by
   obtain⟨z1,z2,z3,_⟩:=ZH.out
   cases x
   rw[IsItem]
   exact⟨⟨z1,z2,z3,Nat.le_of_eq h0,by omega⟩,Lw,fun h=>absurd h (by simp[Itm.items]at h0;simp[h0])⟩
  have HI:=Hh kO;have D7:(x.items.length:Int)=0:=by omega
  have CC:=Hh h0;clear h0 kO;go_wp2_with (with_reducible refine zx ?_)
  refine ze rfl _ _ _ rfl rfl w.heap.size 3 _ rfl rfl _ _ Wh ry (by simp) rfl fun w5 WP yP=>?_
  have Mw:=Kb.grown yP (by simp);have Kc:=Kc.grownOwn TG (Nat.le_refl _) yP;have i0:=WP.cell 0 rfl;have i1:=WP.cell 1 rfl;have i2:=WP.cell 2 rfl;have i3:=WP.cell 3 rfl;go_wp2_with (with_reducible refine zx ?_)
  refine stI Mw fun w6 ki xX=>?_
  go_wp2_with fail
  refine zO rfl rfl ki rfl rfl zp rfl ?_
  exact⟨_,rfl,A',c',none,0,_,by simp[xR,CC.out],Kc.grownOwn ML (by omega) xX,HI.out⟩
 have kO:IsItem (Hr.with w1.heap.size (.cells cr 26 (0,0))) A' c' (some ⟨w1.heap.size,0,none⟩) x.items.length x:=by
  obtain⟨z1,z2,z3,z4,z5,z6,z7⟩:=ZH.out
  cases x
  rw[IsItem]
  exact⟨⟨z1,z2,z3,Nat.le_refl _,by simp only[Itm.items]at z6⊢;omega⟩,Lw,fun h=>⟨_,_,rfl,Ow⟩⟩
 have HI:=Hh kO;have D7:((x.items.length:Int)==0)=false:=by rw[beq_eq_false_iff_ne];omega
 clear h0 kO;have i0:=Wh.cell 0 rfl;have i1:=Wh.cell 1 rfl;have i2:=Wh.cell 2 rfl;have i3:=Wh.cell 3 rfl;go_wp2_with (with_reducible refine zx ?_)
 refine stI Kb fun w6 ki xX=>?_
 go_wp2_with fail
 refine zO rfl rfl ki rfl rfl zp rfl ?_
 exact⟨_,rfl,A',c',_,_,_,rfl,Kc.grownOwn ML (by omega) xX,HI.out⟩
theorem pK (x:Itm):qR x:=by
 have main:∀ N,∀ x:Itm,cnt x≤N→qR x:=by
  intro N
  induction N with
  | zero =>
   intro x hx
   have:0<cnt x:=by cases x;rw[cnt];omega
   omega
  | succ N ih=>exact fun x hx=>cf x fun y hy=>ih y (by omega)
 exact main _ x (Nat.le_refl _)
theorem aA {H:Snap}(l:List Itm) (A:Option Addr) (n c:Nat) (w:World) (cs:List Value) (hs:Src w A cs) (rN:ItemsC H cs l) (hn:n=l.length) (hl:l.length≤1099511627776) (hm:ModestL l) (hH:Holds w H) :
  Calls Tryz.prog 53 #[.slice A n c] w fun e w'=>∃ v,e=.returned v∧Gives w H (.mk 4 0 [] l) v w':=by
 have HN:=Hh hn;have y9:=(Blk.new w 26 #[.int .i64 0,.int .u64 0,.slice none 0 0,.slice none 0 0]).alloc (.cells #[.int .i64 4,.int .u64 0,.slice none 0 0,.slice none 0 0] 26);have yF:=Blk.new (w.alloc (.cells #[.int .i64 0,.int .u64 0,.slice none 0 0,.slice none 0 0] 26)) 26 #[.int .i64 4,.int .u64 0,.slice none 0 0,.slice none 0 0];rw[show(w.alloc (.cells #[.int .i64 0,.int .u64 0,.slice none 0 0,.slice none 0 0] 26)).heap.size=w.heap.size+1 by simp]at yF;have HG:=Hh (((Grows.refl hH).alloc (.cells #[.int .i64 0,.int .u64 0,.slice none 0 0,.slice none 0 0] 26)).alloc (.cells #[.int .i64 4,.int .u64 0,.slice none 0 0,.slice none 0 0] 26));clear hn;go_enter Tryz.func53,Tryz.ntmps53
 go_upto_region 3 with fail
 go_loopw [9] (fun vi wr=>∃ (k:Nat) (Hr:Snap) (VA:Option Addr) (vc:Nat),k≤l.length∧vi=.int .i64 k∧Grows w H wr Hr∧Hr w.heap.size=none∧Hr (w.heap.size+1)=none∧
  Blk wr w.heap.size 26 #[.int .i64 0,.int .u64 0,.slice none 0 0,.slice none 0 0]∧Blk wr (w.heap.size+1) 26 #[.int .i64 4,.int .u64 0,.slice none 0 0,.slice VA k vc]∧
  OwnI wr (w.heap.size+2) (.slice VA k vc) Hr (l.take k)∧(∀ g,(Value.slice VA k vc).ownBlock=some g→Hr g=none)) (fun vi _=>l.length-(intOf vi).toNat)
 case atStart=>exact⟨0,H,none,0,Nat.zero_le _,rfl,HG.out,hH.none_of_ge (Nat.le_refl _),hH.none_of_ge (by omega),y9,yF,by simpa using OwnI.nil _ _ H,by simp[Value.ownBlock]⟩
 case round =>
 obtain⟨k,Hr,VA,vc,hk,rfl,tU,uw,uH,rt,ss,Wg,OV⟩:=hrel;have hn:=HN.out
 by_cases zB:k<l.length
 ·obtain⟨eba,ebc,eia,eic,x0,x1,x2,x3,va⟩:=rN.get k zB;obtain⟨sb,so,rfl,pt⟩:=(hs.below tU.below) (by intro h;subst h;simp at x0)
  have p0:=pt _ _ x0;have p1:=pt _ _ x1;have p2:=pt _ _ x2;have p3:=pt _ _ x3
  simp only[← Nat.add_assoc]at p0 p1 p2 p3
  have IC:k<n:=by omega
  have IH:=Hh (pK l[k] Hr _ _ eba _ ebc eia _ eic (wr.alloc (.cells #[.int .i64 l[k].kind,.int .u64 l[k].n,.slice eba l[k].bytes.length ebc,.slice eia l[k].items.length eic] 26)).drew (hm.get k zB) (va.mono tU.le).arg (tU.holds.alloc _).drew);have Iz:=Blk.new wr 26 #[.int .i64 l[k].kind,.int .u64 l[k].n,.slice eba l[k].bytes.length ebc,.slice eia l[k].items.length eic];have Ll:=(ss.alloc (.cells #[.int .i64 l[k].kind,.int .u64 l[k].n,.slice eba l[k].bytes.length ebc,.slice eia l[k].items.length eic] 26)).drew;have Vp:=Iz.drew;have Nk:w.heap.size+2≤wr.heap.size:=by have:=ss.lt;omega
  clear x0 x1 x2 x3 pt hn;go_upto_region 5 with fail
  refine zw 7 (fun w'=>w'.cell? ⟨w.heap.size+1,3,none⟩=some (.slice VA k vc)∧w'.cell? ⟨wr.heap.size,0,none⟩=some (.int .i64 l[k].kind)∧w'.cell? ⟨wr.heap.size,1,none⟩=some (.int .u64 l[k].n)∧w'.cell? ⟨wr.heap.size,2,none⟩=some (.slice eba l[k].bytes.length ebc)∧w'.cell? ⟨wr.heap.size,3,none⟩=some (.slice eia l[k].items.length eic)) (by kernel_rfl) (⟨Ll.cell 3 rfl,Vp.cell 0 rfl,Vp.cell 1 rfl,Vp.cell 2 rfl,Vp.cell 3 rfl⟩) (fun zy=>?_)
  refine Tk 0 rfl zy ?_
  refine Tk 1 rfl zy ?_
  refine Tk 2 rfl zy ?_
  refine To 3 rfl fun K hK=>?_
  go_simp
  refine IH.out.mono ?_
  rintro e w3 ⟨v,rfl,rba,rbc,ria,ric,Hs,rfl,yN,NM⟩
  have od:=(ss.alloc (.cells #[.int .i64 l[k].kind,.int .u64 l[k].n,.slice eba l[k].bytes.length ebc,.slice eia l[k].items.length eic] 26)).drew.below yN.below;have O3:=Iz.drew.below yN.below;have FQ:=((Wg.alloc (.cells #[.int .i64 l[k].kind,.int .u64 l[k].n,.slice eba l[k].bytes.length ebc,.slice eia l[k].items.length eic] 26)).below ((Below.refl _ _).drew.trans yN.below)).mono yN.le
  refine Ko hK ?_ fun zy=>?_
  ·exact⟨od.cell 3 rfl,O3.cell 0 rfl,O3.cell 1 rfl,O3.cell 2 rfl,O3.cell 3 rfl⟩
  clear hK K
  refine To 4 rfl fun K hK=>?_
  go_simp
  have Wh:=od.alloc (.cells #[.int .i64 l[k].kind,.int .u64 l[k].n,.slice rba l[k].bytes.length rbc,.slice ria l[k].items.length ric] 26);have O5:=O3.alloc (.cells #[.int .i64 l[k].kind,.int .u64 l[k].n,.slice rba l[k].bytes.length rbc,.slice ria l[k].items.length ric] 26);have O6:=FQ.alloc (.cells #[.int .i64 l[k].kind,.int .u64 l[k].n,.slice rba l[k].bytes.length rbc,.slice ria l[k].items.length ric] 26)
  refine Ko hK ?_ fun zy=>?_
  ·exact⟨Wh.cell 3 rfl,O5.cell 0 rfl,O5.cell 1 rfl,O5.cell 2 rfl,O5.cell 3 rfl⟩
  clear hK K
  refine To 5 rfl fun K hK=>?_
  rw[if_pos (by rfl)]
  refine wu (.tmp 14) (.tmp 17) rfl (w.heap.size+2) (.slice VA k vc) Hs (l.take k) rfl O6 _ _ _ (zQ l[k] rba rbc ria ric) [l[k]] rfl rfl (ItemsC.one NM) (Src.new _ _ _ _ rfl _ rfl) (by simp;omega) (by have:=yN.below.size;simp at this⊢;omega) fun v' w5 qI yP wb=>?_
  obtain⟨VA',vc',rfl,C9,CA⟩:=qI.form;have WP:=Wh.grown yP (fun h=>by have:=(Wg.lt _ h).1;omega);have Mx:=O5.grown yP (fun h=>by have:=(Wg.lt _ h).2;omega)
  refine Ko hK ?_ fun zy=>?_
  ·exact⟨WP.cell 3 rfl,Mx.cell 0 rfl,Mx.cell 1 rfl,Mx.cell 2 rfl,Mx.cell 3 rfl⟩
  clear hK K
  refine Tk 6 rfl zy ?_
  refine To 7 rfl fun K hK=>?_
  rw[if_pos (by rfl)]
  refine yY _ _ _ rfl (w.heap.size+1) 3 _ rfl rfl _ _ WP ry (by simp) rfl fun w6 hJ1 xX=>?_
  refine Kz hK ?_
  clear hK K
  refine Wd ?_
  have xl:=(((tU.alloc (.cells #[.int .i64 l[k].kind,.int .u64 l[k].n,.slice eba l[k].bytes.length ebc,.slice eia l[k].items.length eic] 26)).drew).trans yN).alloc (.cells #[.int .i64 l[k].kind,.int .u64 l[k].n,.slice rba l[k].bytes.length rbc,.slice ria l[k].items.length ric] 26);have qM:=yN.none uw (by simp;omega);have ip:=yN.none uH (by simp;omega);have OS:∀ g,(Value.slice VA k vc).ownBlock=some g→Hs g=none:=fun g hg=>yN.none (OV g hg) (by have:=(Wg.lt g hg).2;simp;omega)
  have vB:=xl.grownRow OS (fun g hg=>by have:=(Wg.lt g hg).1;omega) yP;have wl:=vB.grownOwn ip (by omega) xX;have ki:=(((rt.alloc (.cells #[.int .i64 l[k].kind,.int .u64 l[k].n,.slice eba l[k].bytes.length ebc,.slice eia l[k].items.length eic] 26)).drew.below yN.below).alloc (.cells #[.int .i64 l[k].kind,.int .u64 l[k].n,.slice rba l[k].bytes.length rbc,.slice ria l[k].items.length ric] 26)).grown yP (fun h=>by have:=(Wg.lt _ h).1;omega);have ki:=ki.grown xX (by simp)
  have Q1:∀ g,(Value.slice VA' (l.take k++[l[k]]).length vc').ownBlock=some g→Hs g=none:=fun g hg=>by
   rcases wb with h | ⟨g',h1,h2⟩
   ·exact OS g (by rw[← h,hg])
   rw[hg]at h1;injection h1 with h1
   subst h1
   exact xl.hidden h2
  have Z6:=qI.kept xX (.inr fun h=>by have:=(qI.lt _ h).1;omega);rw[← List.take_succ_eq_append_getElem zB]at Z6 Q1 hJ1;rw[List.length_take,Nat.min_eq_left (by omega)]at Z6 Q1 hJ1;clear zy IH p0 p1 p2 p3 Iz Ll Vp ss rt Wg od O3 FQ Wh O5 O6 qI yP wb WP Mx xl vB xX;go_wp2_with fail
  go_roundw
  case rel=>exact⟨k+1,Hs,VA',vc',by omega,by go_num,wl,qM,ip,ki,hJ1,Z6,Q1⟩
  case measure=>simp[intOf];omega
 have qq:k=l.length:=by omega
 subst qq;rw[List.take_length]at Wg;have c0:=ss.cell 0 rfl;have c1:=ss.cell 1 rfl;have c2:=ss.cell 2 rfl;have c3:=ss.cell 3 rfl;obtain⟨H',ik,GB,Qb,_,rU,rH,xA⟩:=Wg.snap tU.holds (fun g hg=>OV g (by cases VA <;> simp_all [Value.ownBlock]))
 have Ta:Grows w H wr H':=⟨tU.below,tU.le.trans ik,GB,fun b o hb=>by
  rcases Qb b o hb with h | h
  ·exact tU.fresh b o h
  exact .inr (by have:=(Wg.lt b (by cases VA <;> simp_all [Value.ownBlock])).1;omega)⟩
 have TG:H' w.heap.size=none:=by
  cases hx:H' w.heap.size with
  | none=>rfl
  | some o =>
  rcases Qb _ _ hx with h | h
  ·rw[uw]at h;cases h
  have:=(Wg.lt w.heap.size (by cases VA <;> simp_all [Value.ownBlock])).1;omega
 have kO:IsItem H' none 0 VA vc (.mk 4 0 [] l):=by
  rw[IsItem]
  exact⟨⟨by omega,by omega,by omega,rU,rH⟩,IsBytes.nil _,xA⟩
 clear ik GB Qb rU rH xA Wg tU;go_wp2_with (with_reducible refine zx ?_)
 refine stI rt fun w6 ki xX=>?_
 go_wp2_with fail
 refine zO rfl rfl ki rfl rfl zp rfl ?_
 exact⟨_,rfl,none,0,VA,vc,H',rfl,Ta.grownOwn TG (Nat.le_refl _) xX,kO⟩
end Go.Proofs.YtliomcphdnppnaaGreatDoor
