/- squeezed. Walks: cbor.ascending. Walks: cbor -/
import Derived.Test.YtgcjjhibdbafmabGreatDoorK06
import Derived.Deep.DeepCutAuto
import Derived.BigQuiet
import Derived.OwnWalk
set_option linter.unusedVariables false
set_option linter.unusedSimpArgs false
set_option maxRecDepth 100000
set_option maxHeartbeats 6400000
namespace Go.Proofs.YtgcjjhibdbafmabGreatDoor
open Go.RowKit
theorem ie {H:Snap}(l:List Itm) (b off:Nat) (A:Option Addr) (ic:Nat) (w:World) (hA:0<l.length→A=some ⟨b,off,none⟩∧IsElems H b off l) (hH:Holds w H) (hk:KindsL l)
  (zN:∀ k (h:k<l.length),(zZ l[k]).length≤1099511627776) (n:Nat) (hn:n=l.length) (nV:n≤1099511627776) :
  Calls Tryz.prog 89 #[.slice A n ic] w fun e w'=>e=.returned (.bool (wn l))∧Below w.heap.size w w':=by
 obtain⟨ans,S6⟩:∃ b,wn l=b:=⟨_,rfl⟩
 rw[S6];have LA:=Hh S6;have JY:=Hh hn;have Oo:=Hh zN;have Gv:=Hh hA;clear S6 hn zN hA;go_enter Tryz.func89,Tryz.ntmps89
 go_wp2
 go_loopw [3] (fun i wr=>∃ j:Nat,2≤j∧i=.int .i64 j∧j≤n+2∧wn (l.drop (j-2))=ans∧Below w.heap.size w wr) (fun i _=>(n+2-intOf i).toNat)
 case atStart=>exact⟨2,Nat.le_refl _,rfl,by omega,by simpa using LA.out,Below.refl _ _⟩
 case round =>
 obtain⟨j,h2,rfl,hj,pi,hb⟩:=hrel
 by_cases ye:j<n
 ·have hn:=JY.out;obtain⟨hA,vD⟩:=Gv.out (by omega);have rj:=lq l j h2 (by omega);obtain⟨y1,y2,y3,y4,p0,p1,p2,p3,hy⟩:=vD.get (j-2) (by omega);obtain⟨z1,z2,z3,z4,q0,q1,q2,q3,hz⟩:=vD.get j (by omega);have Xi:=hk.get (j-2) (by omega);have N4:=hk.get j (by omega);have OC:=Oo.out (j-2) (by omega);have NC:=Oo.out j (by omega)
  generalize l[j-2]'(by omega)=y at *
  generalize l[j]'(by omega)=z at *
  have uq:(0:Int)≤(j:Int)-2:=by omega
  have qn:(j:Int)-2<(n:Int):=by omega
  have G9:(2:Int)≤(j:Int):=by omega
  have mJ:(j:Int)<(n:Int):=by omega
  subst hA;have ol:=Hh rj;have ff:=Hh pi;have MO:Hid (w.heap.size≤wr.heap.size):=hb.size;have wF:Holds wr H:=hH.below hb (Nat.le_refl _);have Pw:Holds wr.drew H:=wF.drew;have oq:IntKind.i64.wrap ((j:Int)-2)=(j:Int)-2:=IntWalk.i64_in _ (by omega);have mN:((j:Int)-2).toNat=j-2:=by omega
  clear rj pi hn vD;go_wp2_with fail
  refine zr 12 (fun w'=>w'.cell? ⟨b,off+(j-2)*4,none⟩=some (.int .i64 y.kind)∧w'.cell? ⟨b,off+(j-2)*4+1,none⟩=some (.int .u64 y.n)∧w'.cell? ⟨b,off+(j-2)*4+2,none⟩=some (.slice y1 y.bytes.length y2)∧w'.cell? ⟨b,off+(j-2)*4+3,none⟩=some (.slice y3 y.items.length y4)∧w'.cell? ⟨b,off+j*4,none⟩=some (.int .i64 z.kind)∧w'.cell? ⟨b,off+j*4+1,none⟩=some (.int .u64 z.n)∧w'.cell? ⟨b,off+j*4+2,none⟩=some (.slice z1 z.bytes.length z2)∧w'.cell? ⟨b,off+j*4+3,none⟩=some (.slice z3 z.items.length z4)) (by kernel_rfl) (⟨wF.cell p0,wF.cell p1,wF.cell p2,wF.cell p3,wF.cell q0,wF.cell q1,wF.cell q2,wF.cell q3⟩) (fun zy=>?_)
  refine Tk 0 rfl zy ?_
  refine Tk 1 rfl zy ?_
  refine Tk 2 rfl zy ?_
  refine Tk 3 rfl zy ?_
  refine Tk 4 rfl zy ?_
  refine Tk 6 rfl zy ?_
  refine Tk 7 rfl zy ?_
  refine Tk 8 rfl zy ?_
  refine Tk 9 rfl zy ?_
  refine To 5 rfl fun K hK=>?_
  go_simp
  refine(sk y H _ _ _ _ _ _ _ _ _ w.heap.size (.slice none 0 0) [] Xi hy.arg Pw (OwnB.nil _ _) MO.out (by simp[Value.ownBlock]) (by simpa using OC)).mono ?_
  rintro e w1 ⟨r1,rfl,Xk,wM,Ql⟩
  obtain⟨A1,c1,rfl,_,_,vC⟩:=Xk.form;have wU:=zC wM;have pu:Holds w1 H:=Pw.below wU (Nat.le_refl _);have rv:=wU.size
  simp only[List.nil_append]at Xk vC
  refine Ko hK ?_ fun zy=>?_
  ·exact⟨pu.cell p0,pu.cell p1,pu.cell p2,pu.cell p3,pu.cell q0,pu.cell q1,pu.cell q2,pu.cell q3⟩
  clear hK K
  refine To 10 rfl fun K hK=>?_
  go_simp
  refine(sk z H _ _ _ _ _ _ _ _ _ w.heap.size (.slice none 0 0) [] N4 hz.arg pu (OwnB.nil _ _) (Nat.le_trans MO.out rv) (by simp[Value.ownBlock]) (by simpa using NC)).mono ?_
  rintro e w2 ⟨r2,rfl,bz,wa,Ih⟩
  obtain⟨A2,c2,rfl,_,_,ey⟩:=bz.form;have xJ:=zC wa;have po:Holds w2 H:=pu.below xJ (Nat.le_refl _)
  simp only[List.nil_append]at bz ey
  refine Ko hK ?_ fun zy=>?_
  ·exact⟨po.cell p0,po.cell p1,po.cell p2,po.cell p3,po.cell q0,po.cell q1,po.cell q2,po.cell q3⟩
  clear hK K
  refine To 11 rfl fun K hK=>?_
  go_simp
  refine(sw _ _ _ (zZ y) (zZ z) _ _ _ _ (by simp) (by simp) (vC.below xJ) ey).mono ?_
  rintro e w3 ⟨rfl,rfl⟩
  refine Ko hK ?_ fun zy=>?_
  ·exact⟨po.cell p0,po.cell p1,po.cell p2,po.cell p3,po.cell q0,po.cell q1,po.cell q2,po.cell q3⟩
  clear hK K
  refine To 12 rfl fun K hK=>?_
  go_simp
  refine Kz hK ?_
  clear hK K
  refine Wd ?_
  have kJ:=hb.drew.trans ((wU.trans (xJ.mono rv)).mono MO.out);have qb:=Hh (And.intro ol.out ff.out);clear ol ff p0 p1 p2 p3 q0 q1 q2 q3 zy Xk bz wM wa Ql Ih vC ey
  generalize hcv:Lib.compareBytes (zZ y) (zZ z)=cv at *
  by_cases hc:(0:Int)≤cv
  ·have ha:ans=false:=by
    obtain⟨h1,h2⟩:=qb.out;rw[← h2,h1];have:¬ cv<0:=by omega
    simp[this]
   have Lw:=Hh ha;clear ha;go_wp2
   go_ret
   exact⟨(by rw[Lw.out];rfl),kJ⟩
  have ha:wn (l.drop j)=ans:=by
   obtain⟨h1,h2⟩:=qb.out;rw[← h2,h1];have:cv<0:=by omega
   simp[this]
  have Lw:=Hh ha;clear ha;go_wp2
  go_roundw
  case rel=>exact⟨j+2,by omega,by go_num,by omega,Lw.out,kJ⟩
  case measure=>simp[intOf];omega
 have hn:=JY.out;have LZ:=Hh (dU l j h2 (by omega));have ff:=Hh pi;clear pi hn;go_wp2
 go_ret
 exact⟨(by rw[← ff.out,LZ.out];rfl),hb⟩
def jm (w:World) (g:Nat) (o:Option (Nat×Nat)) (e:Ending) (w':World):Prop :=
 e=.returned (.bool o.isSome)∧w.grownBy w' (some g)∧∃ i s:Int,Chk w' g i s∧∀ p,o=some p→i=(p.1:Int)∧s=(p.2:Int)
def jU (x:Itm):Prop:=∀ (H:Snap) (k n:Int) (ba:Option Addr) (bl bc:Nat) (ia:Option Addr) (il ic:Nat) (w:World) (g i s lv:Nat),
 Tabs H→ItemA H k n ba bl bc ia il ic x→Holds w H→H g=none→Chk w g i s→i≤256→s≤4096→lv≤8→
 Calls Tryz.prog 66 #[.pointer (some ⟨g,0,none⟩),.agg #[.int .i64 k,.int .u64 n,.slice ba bl bc,.slice ia il ic],.int .i64 (lv:Int)] w (jm w g (chk x lv i s))
theorem Y7 (x:Itm) (i s lv:Nat) (h:256<i+1∨4096<x.bytes.length∨256<x.items.length) {H:Snap}{ba:Option Addr}{bc:Nat}{ia:Option Addr}{ic:Nat}(hx:IsItem H ba bc ia ic x) (w:World) (g:Nat)
  (hc:Chk w g i s) (hi:i≤256):Calls Tryz.prog 66 #[.pointer (some ⟨g,0,none⟩),xj x ba bc ia ic,.int .i64 (lv:Int)] w (jm w g (chk x lv i s)):=by
 have E:Hid (chk x lv i s=none):=by rw[Hid,mC,if_pos h]
 obtain⟨_,_,_,wU,xJ,qn,mJ⟩:=hx.bounds;have hb:x.bytes.length≤9223372036854775807:=by omega
 have bp:x.items.length≤9223372036854775807:=by omega
 have ye:=hc.lt;have c0:=hc.cell 0 rfl;have f0:=hc.frozen 0;have c00:=(hc.set_ 0 (.int .i64 ((i:Int)+1))).cell 0 rfl
 have R:=Hh (And.intro ((hc.set_ 0 (.int .i64 ((i:Int)+1))).alloc (.cells #[.int .i64 x.kind,.int .u64 x.n,.slice ba x.bytes.length bc,.slice ia x.items.length ic] 57))
  (vv (uo (yu w (some g)) (.inl (rfl:(⟨g,0,none⟩:Addr).block=g)) (.int .i64 ((i:Int)+1))) (.cells #[.int .i64 x.kind,.int .u64 x.n,.slice ba x.bytes.length bc,.slice ia x.items.length ic] 57)))
 have HH:=Hh h;clear hx wU xJ qn mJ h;go_enter Tryz.func66,Tryz.ntmps66
 go_wp2_with fail
 all_goals first
  | (go_ret;exact⟨by rw[E.out];rfl,R.out.2,_,_,R.out.1,by rw[E.out];intro p hp;cases hp⟩)
  | (exfalso;have:=HH.out;omega)
abbrev qE (w:World) (g:Nat) (i:Int) (x:Itm) (ba:Option Addr) (bc:Nat) (ia:Option Addr) (ic:Nat):World :=
 (w.setCell ⟨g,0,none⟩ (.int .i64 i)).alloc (.cells #[.int .i64 x.kind,.int .u64 x.n,.slice ba x.bytes.length bc,.slice ia x.items.length ic] 57)
theorem aP (x:Itm) (i s lv:Nat) (h1:i+1≤256) (h2:x.bytes.length≤4096) (h3:x.items.length≤256) (hp:yo x=true) {H:Snap}(hT:Tabs H) {ba:Option Addr}{bc:Nat}{ia:Option Addr}{ic:Nat}(hx:IsItem H ba bc ia ic x)
  (w:World) (hH:Holds w H) (g:Nat) (hg:H g=none) (hc:Chk w g i s) (hs:s≤4096) :
  Calls Tryz.prog 66 #[.pointer (some ⟨g,0,none⟩),xj x ba bc ia ic,.int .i64 (lv:Int)] w (jm w g (chk x lv i s)):=by
 have E:Hid (chk x lv i s=if yy x=true∧s+yz x≤4096 then some (i+1,s+yz x) else none):=by rw[Hid,mC,if_neg (by omega),if_pos hp]
 have hk:=(zE x).1 hp;have tB:0≤x.kind:=by omega
 have XZ:x.kind≤8:=by omega
 have ye:=hc.lt;have c0:=hc.cell 0 rfl;have f0:=hc.frozen 0;have c00:=(hc.set_ 0 (.int .i64 ((i:Int)+1))).cell 0 rfl;have kU:Chk (qE w g ((i:Int)+1) x ba bc ia ic) g ((i:Int)+1) s:=(hc.set_ 0 _).alloc _
 have ws:Blk (qE w g ((i:Int)+1) x ba bc ia ic) w.heap.size 57 #[.int .i64 x.kind,.int .u64 x.n,.slice ba x.bytes.length bc,.slice ia x.items.length ic]:=by
  have:=Blk.new (w.setCell ⟨g,0,none⟩ (.int .i64 ((i:Int)+1))) 57 #[.int .i64 x.kind,.int .u64 x.n,.slice ba x.bytes.length bc,.slice ia x.items.length ic];rwa [show(w.setCell ⟨g,0,none⟩ (.int .i64 ((i:Int)+1))).heap.size=w.heap.size by simp[World.setCell]]at this
 have xE:w.grownBy (qE w g ((i:Int)+1) x ba bc ia ic) (some g):=vv (uo (yu w (some g)) (.inl rfl) _) _;have pu:Holds (qE w g ((i:Int)+1) x ba bc ia ic) H:=(hH.setCell hg _).alloc _;clear hk;have T3:=hx.arg;clear hx;go_enter Tryz.func66,Tryz.ntmps66
 go_wp2_with fail
 refine(ng hT T3 _ pu).mono ?_
 rintro e w2 ⟨rfl,xJ⟩
 have iW:=kU.below xJ;have yU:=ws.below xJ;have yq:=wP xE xJ;have b0:=yU.cell 0 rfl;have b1:=yU.cell 1 rfl;have b2:=yU.cell 2 rfl;have b3:=yU.cell 3 rfl
 by_cases ho:yy x=true
 ·go_wp2_with fail
  refine(iz T3 w2 g ((i:Int)+1) s iW tB XZ (by omega) (by omega) (by omega)).mono ?_
  rintro e w3 ⟨rfl,Qh,yQ⟩
  have R:=Hh (And.intro (yk yq yQ (.inl rfl)) Qh);clear c0 f0 c00 kU ws xE pu iW yU yq b0 b1 b2 b3 Qh yQ;go_wp2_with fail
  go_ret
  refine⟨?_,R.out.1,_,_,R.out.2, ?_⟩
  ·rw[E.out]
   by_cases tC:s+yz x≤4096
   ·rw[if_pos ⟨ho,tC⟩,show decide ((s:Int)+(yz x:Int)≤4096)=true by simp;omega];rfl
   rw[if_neg (fun h=>tC h.2),show decide ((s:Int)+(yz x:Int)≤4096)=false by simp;omega];rfl
  intro p hp
  rw[E.out]at hp
  split at hp
  ·injection hp with hp
   subst hp
   exact⟨by simp,by simp⟩
  cases hp
 have J3:yy x=false:=by simpa using ho
 clear ho;have R:=Hh (And.intro yq iW);clear c0 f0 c00 kU ws xE pu iW yU yq b0 b1 b2 b3;go_wp2_with fail
 go_ret
 have e0:chk x lv i s=none:=by rw[E.out,if_neg (fun h=>by rw[J3]at h;cases h.1)]
 exact⟨by rw[e0];rfl,R.out.1,_,_,R.out.2,by rw[e0];intro p hp;cases hp⟩
theorem aO (x:Itm) (i s lv:Nat) (h1:i+1≤256) (h2:x.bytes.length≤4096) (h3:x.items.length≤256) (hp:yo x=false) (hf:vx x lv=false) {H:Snap}(hT:Tabs H) {ba:Option Addr}{bc:Nat}{ia:Option Addr}{ic:Nat}(hx:IsItem H ba bc ia ic x)
  (w:World) (hH:Holds w H) (g:Nat) (hg:H g=none) (hc:Chk w g i s) (hs:s≤4096) (hlv:lv≤8) :
  Calls Tryz.prog 66 #[.pointer (some ⟨g,0,none⟩),xj x ba bc ia ic,.int .i64 (lv:Int)] w (jm w g (chk x lv i s)):=by
 have E:Hid (chk x lv i s=none):=by rw[Hid,mC,if_neg (by omega),if_neg (by simp[hp]),if_pos hf]
 have ye:=hc.lt;have c0:=hc.cell 0 rfl;have f0:=hc.frozen 0;have c00:=(hc.set_ 0 (.int .i64 ((i:Int)+1))).cell 0 rfl;have kU:Chk (qE w g ((i:Int)+1) x ba bc ia ic) g ((i:Int)+1) s:=(hc.set_ 0 _).alloc _
 have ws:Blk (qE w g ((i:Int)+1) x ba bc ia ic) w.heap.size 57 #[.int .i64 x.kind,.int .u64 x.n,.slice ba x.bytes.length bc,.slice ia x.items.length ic]:=by
  have:=Blk.new (w.setCell ⟨g,0,none⟩ (.int .i64 ((i:Int)+1))) 57 #[.int .i64 x.kind,.int .u64 x.n,.slice ba x.bytes.length bc,.slice ia x.items.length ic];rwa [show(w.setCell ⟨g,0,none⟩ (.int .i64 ((i:Int)+1))).heap.size=w.heap.size by simp[World.setCell]]at this
 have xE:w.grownBy (qE w g ((i:Int)+1) x ba bc ia ic) (some g):=vv (uo (yu w (some g)) (.inl rfl) _) _;have pu:Holds (qE w g ((i:Int)+1) x ba bc ia ic) H:=(hH.setCell hg _).alloc _;have T3:=hx.arg;have HF:=Hh hf;clear hx hf;go_enter Tryz.func66,Tryz.ntmps66
 go_wp2_with fail
 refine(ng hT T3 _ pu).mono ?_
 rintro e w2 ⟨rfl,xJ⟩
 have iW:=kU.below xJ;have yU:=ws.below xJ;have R:=Hh (And.intro (wP xE xJ) iW);have b0:=yU.cell 0 rfl;have b1:=yU.cell 1 rfl;have b2:=yU.cell 2 rfl;have b3:=yU.cell 3 rfl;clear c0 f0 c00 kU ws xE pu iW yU xJ;go_wp2_with fail
 all_goals first
  | (go_ret;exact⟨by rw[E.out];rfl,R.out.1,_,_,R.out.2,by rw[E.out];intro p hp;cases hp⟩)
  | skip
 all_goals try simp only[beq_eq_false_iff_ne,ne_eq]at *
 all_goals exact absurd (show _∧_∧_∧_∧_∧_∧_ from⟨by omega,by omega,by omega,by omega,fun _=>by omega,fun _=>by omega,fun _=>by omega⟩) (of_decide_eq_false HF.out)
theorem Y8 (x:Itm) (ih:∀ y:Itm,cnt y<cnt x→jU y) (i s lv:Nat) (h1:i+1≤256) (h2:x.bytes.length≤4096) (h3:x.items.length≤256) (hp:yo x=false) (hf:vx x lv=true) {H:Snap}(hT:Tabs H) {ba:Option Addr}{bc:Nat}{ia:Option Addr}{ic:Nat}(hx:IsItem H ba bc ia ic x)
  (w:World) (hH:Holds w H) (g:Nat) (hg:H g=none) (hc:Chk w g i s) (hs:s≤4096) :
  Calls Tryz.prog 66 #[.pointer (some ⟨g,0,none⟩),xj x ba bc ia ic,.int .i64 (lv:Int)] w (jm w g (chk x lv i s)):=by
 have E:Hid (chk x lv i s=if 4096<s+yz x then none else match sD x.items (lv+1) (i+1) (s+yz x) with | none=>none | some p=>if x.kind=5∧wn x.items=false then none else some p):=by
  rw[Hid,mC,if_neg (by omega),if_neg (by simp[hp]),if_neg (by simp[hf])];rfl
 obtain⟨VE,Su,PT,nT,om,zF,el⟩:=ww hf;have GU:(x.bytes.length:Int)≤0:=by omega
 have ye:=hc.lt;have c0:=hc.cell 0 rfl;have f0:=hc.frozen 0;have c00:=(hc.set_ 0 (.int .i64 ((i:Int)+1))).cell 0 rfl;have kU:Chk (qE w g ((i:Int)+1) x ba bc ia ic) g ((i:Int)+1) s:=(hc.set_ 0 _).alloc _
 have ws:Blk (qE w g ((i:Int)+1) x ba bc ia ic) w.heap.size 57 #[.int .i64 x.kind,.int .u64 x.n,.slice ba x.bytes.length bc,.slice ia x.items.length ic]:=by
  have:=Blk.new (w.setCell ⟨g,0,none⟩ (.int .i64 ((i:Int)+1))) 57 #[.int .i64 x.kind,.int .u64 x.n,.slice ba x.bytes.length bc,.slice ia x.items.length ic];rwa [show(w.setCell ⟨g,0,none⟩ (.int .i64 ((i:Int)+1))).heap.size=w.heap.size by simp[World.setCell]]at this
 have xE:w.grownBy (qE w g ((i:Int)+1) x ba bc ia ic) (some g):=vv (uo (yu w (some g)) (.inl rfl) _) _;have pu:Holds (qE w g ((i:Int)+1) x ba bc ia ic) H:=(hH.setCell hg _).alloc _;have T3:=hx.arg
 have tests:((x.kind==6)=true∧(x.kind==5)=false∧(x.kind != 5)=true∧(x.kind != 6)=false∧(x.items.length:Int)≤1∧1≤(x.items.length:Int)∧Hid (¬ x.kind=5))∨
   ((x.kind==6)=false∧(x.kind != 6)=true∧(x.n:Int)≤0∧(x.kind==5)=true∧(x.kind != 5)=false∧((x.items.length:Int)%2==1)=false∧Hid (x.kind=5))∨
   ((x.kind==6)=false∧(x.kind != 6)=true∧(x.n:Int)≤0∧(x.kind==5)=false∧(x.kind != 5)=true∧True∧Hid (¬ x.kind=5)):=by
  rcases(by omega:x.kind=6∨x.kind=5∨x.kind=4) with h | h | h
  ·have:=om h
   exact .inl ⟨by simp[h],by simp[h],by simp[h],by simp[h],by omega,by omega,by rw[Hid];omega⟩
  ·have:=zF (by omega);have h2:=el h
   exact .inr (.inl ⟨by simp[h],by simp[h],by omega,by simp[h],by simp[h],by simp;omega,h⟩)
  have:=zF (by omega)
  exact .inr (.inr ⟨by simp[h],by simp[h],by omega,by simp[h],by simp[h],trivial,by rw[Hid];omega⟩)
 have HX:=Hh hx;clear hx hf om zF el nT;have TT:=Hh tests;clear tests;go_enter Tryz.func66,Tryz.ntmps66
 go_wp2_with fail
 refine(ng hT T3 _ pu).mono ?_
 rintro e w2 ⟨rfl,xJ⟩
 have iW:=kU.below xJ;have yU:=ws.below xJ;have yq:=wP xE xJ;have b0:=yU.cell 0 rfl;have b1:=yU.cell 1 rfl;have b2:=yU.cell 2 rfl;have b3:=yU.cell 3 rfl;go_upto_region 9 with fail
 go_cut [95] (fun s95 wx=>s95=.bool false∧w2=wx)
 case first =>
  rcases TT.out with ⟨t1,t2,t3,t4,t5,t6,t7⟩ | ⟨t1,t2,t3,t4,t5,t6,t7⟩ | ⟨t1,t2,t3,t4,t5,t6,t7⟩
  all_goals
   go_wp2_with fail
   go_meet
   exact⟨rfl,rfl⟩
 case rest =>
 obtain⟨rfl,rfl⟩:=hcut;go_wp2_with fail
 refine(iz T3 _ g ((i:Int)+1) s iW (by omega) (by omega) (by omega) (by omega) (by omega)).mono ?_
 rintro e w3 ⟨rfl,Qh,yQ⟩
 have wL:=yU.grown yQ (by simp;omega);have d0:=wL.cell 0 rfl;have d3:=wL.cell 3 rfl;clear b0 b1 b2 b3
 by_cases tC:s+yz x≤4096
 ·have PN:decide ((s:Int)+(yz x:Int)≤4096)=true:=by simp;omega
  go_wp2_with fail
  have E2:Hid (chk x lv i s=match sD x.items (lv+1) (i+1) (s+yz x) with | none=>none | some p=>if x.kind=5∧wn x.items=false then none else some p):=by
   rw[Hid,E.out,if_neg (by omega)]
  have Sb:=Hh (yk yq yQ (.inl rfl));have Qv:w.heap.size<w3.heap.size:=wL.lt;have TP:Holds w3 H:=(pu.below xJ (Nat.le_refl _)).grown yQ (fun g' h=>by injection h with h;subst h;exact hg);clear kU ws xE pu iW yU yq c0 f0 c00 E PN xJ yQ;go_loopw [103] (fun vi wr=>∃ (k:Nat) (p:Nat×Nat),k≤x.items.length∧vi=.int .i64 k∧Hid (sD (x.items.drop k) (lv+1) p.1 p.2=sD x.items (lv+1) (i+1) (s+yz x))∧p.1≤256∧p.2≤4096∧Chk wr g p.1 p.2∧w3.grownBy wr (some g)) (fun vi _=>x.items.length-(intOf vi).toNat)
  case atStart=>exact⟨0,(i+1,s+yz x),Nat.zero_le _,rfl,by simp[Hid],by omega,tC,by simpa using Qh,yu _ _⟩
  case round =>
  obtain⟨k,p,hk,rfl,uk,OF,ur,Qi,pn⟩:=hrel;have wF:Holds wr H:=TP.grown pn (fun g' h=>by injection h with h;subst h;exact hg)
  by_cases ye:k<x.items.length
  ·obtain⟨ib,io,rH,vD⟩:=HX.out.items (by omega);obtain⟨eba,ebc,eia,eic,q0,q1,q2,q3,tA⟩:=vD.get k ye;subst rH;have zN:(x.items.length:Int)≤256:=by omega
   have p0:=wF.cell q0;have p1:=wF.cell q1;have p2:=wF.cell q2;have p3:=wF.cell q3;have T9:x.items.drop k=x.items[k]::x.items.drop (k+1):=List.drop_eq_getElem_cons ye
   have IHH:=Hh (ih x.items[k] (vF x k ye) H _ _ eba _ ebc eia _ eic (wr.alloc (.cells #[.int .i64 x.items[k].kind,.int .u64 x.items[k].n,.slice eba x.items[k].bytes.length ebc,.slice eia x.items[k].items.length eic] 57)) g p.1 p.2 (lv+1)
    hT tA.arg (wF.alloc _) hg (Qi.alloc _) OF ur (by omega))
   have HD:=Hh T9;have bU:((lv+1:Nat):Int)=(lv:Int)+1:=by omega
   rw[bU]at IHH;clear T9 q0 q1 q2 q3 vD d0 d3 bU;go_wp2_with fail
   refine IHH.out.mono ?_
   rintro e w4 ⟨rfl,wh,i4,s4,Md,XX⟩
   have xM:=yk (vv pn (.cells #[.int .i64 x.items[k].kind,.int .u64 x.items[k].n,.slice eba x.items[k].bytes.length ebc,.slice eia x.items[k].items.length eic] 57)) wh (.inl rfl)
   cases hq:chk x.items[k] (lv+1) p.1 p.2 with
   | none =>
    have e0:Hid (chk x lv i s=none):=by
     rw[Hid,E2.out,← uk.out,HD.out,sD,hq]
    have R:=Hh (And.intro (yk Sb.out xM (.inl rfl)) Md);clear hq XX p0 p1 p2 p3 IHH Qi pn wh xM Md;go_wp2_with fail
    go_ret
    exact⟨by rw[e0.out];rfl,R.out.1,_,_,R.out.2,by rw[e0.out];intro p hp;cases hp⟩
   | some p' =>
   obtain⟨rfl,rfl⟩:=XX p' hq;obtain⟨_,_,Kt,QO⟩:=jW _ _ _ _ _ hq
   have hn:Hid (sD (x.items.drop (k+1)) (lv+1) p'.1 p'.2=sD x.items (lv+1) (i+1) (s+yz x)):=by
    rw[Hid,← uk.out,HD.out,sD,hq]
   clear hq XX p0 p1 p2 p3 IHH Qi pn wh HD uk;go_wp2_with fail
   go_roundw
   case rel=>exact⟨k+1,p',by omega,by go_num,hn,Kt,QO,Md,xM⟩
   case measure=>simp[intOf];omega
  have sZ:k=x.items.length:=by omega
  subst sZ
  have rQ:Hid (sD x.items (lv+1) (i+1) (s+yz x)=some p):=by
   rw[Hid,← uk.out,List.drop_length,sD]
  have iV:=wL.grown pn (by simp;omega);have d0:=iV.cell 0 rfl;have d3:=iV.cell 3 rfl;have Mh:=Hh (yk Sb.out pn (.inl rfl));clear uk
  rcases TT.out with ⟨t1,t2,t3,t4,t5,t6,t7⟩ | ⟨t1,t2,t3,t4,t5,t6,t7⟩ | ⟨t1,t2,t3,t4,t5,t6,t7⟩
  ·clear t1 t2 t4 t5 t6;go_wp2_with fail
   go_ret
   have e0:chk x lv i s=some p:=by
    rw[E2.out,rQ.out]
    simp only[if_neg (fun h:x.kind=5∧_=>t7.out h.1)]
   exact⟨by rw[e0];rfl,Mh.out,_,_,Qi,by rw[e0];intro p' iQ;injection iQ with iQ;subst iQ;exact⟨rfl,rfl⟩⟩
  ·clear t1 t2 t3 t4 t6;obtain⟨hK,XU,_,QO⟩:=lr _ _ _ _ _ rQ.out h1 tC;have Im:(yx x.items).length≤4096:=by rw[XU]at QO;simp only at QO;omega
   have zN:∀ k (h:k<x.items.length),(zZ x.items[k]).length≤1099511627776:=by
    intro k hk
    have a1:=uZ x.items k hk;have a2:=qK x.items (k+1);rw[a1]at a2
    simp only[List.length_append]at a2
    omega
   have II:∃ b off,0<x.items.length→ia=some ⟨b,off,none⟩∧IsElems H b off x.items:=by
    by_cases h0:0<x.items.length
    ·obtain⟨ib,io,rH,vD⟩:=HX.out.items h0
     exact⟨ib,io,fun _=>⟨rH,vD⟩⟩
    exact⟨0,0,fun h=>absurd h h0⟩
   obtain⟨ib,io,hA⟩:=II;have ASC:=Hh (ie x.items ib io ia ic wr hA wF hK zN x.items.length rfl (by omega));clear hA zN Im XU QO hK;go_wp2_with fail
   refine ASC.out.mono ?_
   rintro e w5 ⟨rfl,rG⟩
   have R:=Hh (And.intro (wP Mh.out rG) (Qi.below rG))
   cases pi:wn x.items with
   | true =>
    have e0:Hid (chk x lv i s=some p):=by
     rw[Hid,E2.out,rQ.out]
     simp only[pi,Bool.true_eq_false,and_false,if_false]
    clear ASC pi;go_wp2_with fail
    go_ret
    exact⟨by rw[e0.out];rfl,R.out.1,_,_,R.out.2,by rw[e0.out];intro p' iQ;injection iQ with iQ;subst iQ;exact⟨rfl,rfl⟩⟩
   | false =>
   have e0:Hid (chk x lv i s=none):=by
    rw[Hid,E2.out,rQ.out]
    simp only[pi,t7.out,and_self,if_true]
   clear ASC pi;go_wp2_with fail
   go_ret
   exact⟨by rw[e0.out];rfl,R.out.1,_,_,R.out.2,by rw[e0.out];intro p' iQ;cases iQ⟩
  clear t1 t2 t3 t4;go_wp2_with fail
  go_ret
  have e0:chk x lv i s=some p:=by
   rw[E2.out,rQ.out]
   simp only[if_neg (fun h:x.kind=5∧_=>t7.out h.1)]
  exact⟨by rw[e0];rfl,Mh.out,_,_,Qi,by rw[e0];intro p' iQ;injection iQ with iQ;subst iQ;exact⟨rfl,rfl⟩⟩
 have PN:decide ((s:Int)+(yz x:Int)≤4096)=false:=by simp;omega
 have R:=Hh (And.intro (yk yq yQ (.inl rfl)) Qh);clear kU ws xE pu iW yU yq Qh yQ wL d0 d3 c0 f0 c00;go_wp2_with fail
 go_ret
 have e0:chk x lv i s=none:=by rw[E.out,if_pos (by omega)]
 exact⟨by rw[e0];rfl,R.out.1,_,_,R.out.2,by rw[e0];intro p hp;cases hp⟩
theorem ItemA.eqs {H:Snap}{k n:Int}{ba:Option Addr}{bl bc:Nat}{ia:Option Addr}{il ic:Nat}{x:Itm}(h:ItemA H k n ba bl bc ia il ic x):k=x.kind∧n=(x.n:Int)∧bl=x.bytes.length∧il=x.items.length∧IsItem H ba bc ia ic x:=⟨h.1,h.2,h.3,h.4,h.5⟩
theorem Xt (x:Itm):jU x:=by
 have main:∀ N,∀ x:Itm,cnt x≤N→jU x:=by
  intro N
  induction N with
  | zero =>
   intro x hx
   have:0<cnt x:=by cases x;rw[cnt];omega
   omega
  | succ N ih =>
  intro x hx H k n ba bl bc ia il ic w g i s lv hT ha hH hg hc hi hs hlv
  obtain⟨rfl,rfl,rfl,rfl,ot⟩:=ha.eqs
  by_cases h0:256<i+1∨4096<x.bytes.length∨256<x.items.length
  ·exact Y7 x i s lv h0 ot w g hc hi
  by_cases hp:yo x=true
  ·exact aP x i s lv (by omega) (by omega) (by omega) hp hT ot w hH g hg hc hs
  have iQ:yo x=false:=by simpa using hp
  by_cases hf:vx x lv=true
  ·exact Y8 x (fun y hy=>ih y (by omega)) i s lv (by omega) (by omega) (by omega) iQ hf hT ot w hH g hg hc hs
  exact aO x i s lv (by omega) (by omega) (by omega) iQ (by simpa using hf) hT ot w hH g hg hc hs hlv
 exact main _ x (Nat.le_refl _)
theorem uf {H:Snap}(hT:Tabs H) {k n:Int}{ba:Option Addr}{bl bc:Nat}{ia:Option Addr}{il ic:Nat}{x:Itm}(hx:ItemA H k n ba bl bc ia il ic x) (w:World) (hH:Holds w H) :
  Calls Tryz.prog 43 #[.agg #[.int .i64 k,.int .u64 n,.slice ba bl bc,.slice ia il ic]] w fun e w'=>e=.returned (.bool (zL x))∧Below w.heap.size w w':=by
 have W1:=fun w1:World=>fun h1:Holds w1 H=>fun hg=>fun hc=>(Xt x) H k n ba bl bc ia il ic w1 (w.heap.size+1) 0 0 0 hT hx h1 hg hc (by omega) (by omega) (by omega)
 have po:=(hH.alloc (.cells #[.int .i64 k,.int .u64 n,.slice ba bl bc,.slice ia il ic] 57))
 have wa:H (w.heap.size+1)=none:=hH.none_of_ge (by omega);have hC:=Blk.new (w.alloc (.cells #[.int .i64 k,.int .u64 n,.slice ba bl bc,.slice ia il ic] 57)) 89 #[.int .i64 0,.int .i64 0];rw[show(w.alloc (.cells #[.int .i64 k,.int .u64 n,.slice ba bl bc,.slice ia il ic] 57)).heap.size=w.heap.size+1 by simp]at hC;have I:=Hh (W1 _ (po.alloc (.cells #[.int .i64 0,.int .i64 0] 89)) wa hC);have B2:=Hh ((zi w (.cells #[.int .i64 k,.int .u64 n,.slice ba bl bc,.slice ia il ic] 57)).alloc (by simp) (.cells #[.int .i64 0,.int .i64 0] 89));clear W1 po wa hC hx;go_enter Tryz.func43,Tryz.ntmps43
 go_wp2_with fail
 refine I.out.mono ?_
 rintro e w2 ⟨rfl,hG,_⟩
 go_wp2_with fail
 go_ret
 exact⟨rfl,yg B2.out hG (by simp)⟩
def Tc (w:World) (x:Itm) (e:Ending) (w':World):Prop :=
 (zL x=false∧e=.returned (.tuple #[.slice none 0 0,.int .i64 1])∧Below w.heap.size w w')∨
 (zL x=true∧∃ r,e=.returned (.tuple #[r,.int .i64 0])∧Fresh w (zZ x) r w')
theorem cP {H:Snap}(hT:Tabs H) {k n:Int}{ba:Option Addr}{bl bc:Nat}{ia:Option Addr}{il ic:Nat}{x:Itm}(hx:ItemA H k n ba bl bc ia il ic x) (w:World) (hH:Holds w H) :
  Calls Tryz.prog 26 #[.agg #[.int .i64 k,.int .u64 n,.slice ba bl bc,.slice ia il ic]] w (Tc w x):=by
 have pu:=(hH.alloc (.cells #[.int .i64 k,.int .u64 n,.slice ba bl bc,.slice ia il ic] 57))
 have wU:=zi w (.cells #[.int .i64 k,.int .u64 n,.slice ba bl bc,.slice ia il ic] 57);have ws:=Blk.new w 57 #[.int .i64 k,.int .u64 n,.slice ba bl bc,.slice ia il ic];have V:=Hh (uf hT hx _ pu);go_enter Tryz.func26,Tryz.ntmps26
 go_wp2_with fail
 refine V.out.mono ?_
 rintro e w2 ⟨rfl,xJ⟩
 have yU:=ws.below xJ;have b0:=yU.cell 0 rfl;have b1:=yU.cell 1 rfl;have b2:=yU.cell 2 rfl;have b3:=yU.cell 3 rfl;have po:=pu.below xJ (Nat.le_refl _);have hb:=wU.trans (xJ.mono wU.size)
 cases hv:zL x with
 | false =>
  have Z6:=Hh hv;clear hv;go_wp2_with fail
  go_ret2
  exact .inl ⟨Z6.out,rfl,hb⟩
 | true =>
 obtain⟨hk,_,hl⟩:=uz hv;have A:=Hh (sk x H k n ba bl bc ia il ic w2 w2.heap.size (.slice none 0 0) [] hk hx po (OwnB.nil _ _) (Nat.le_refl _) (by simp[Value.ownBlock]) (by simp;omega));have Z6:=Hh hv;clear hv hl;go_wp2_with fail
 refine A.out.mono ?_
 rintro e w3 ⟨r,rfl,wE,hg,_⟩
 go_wp2_with fail
 go_ret2
 refine .inr ⟨Z6.out,_,rfl, ?_, ?_⟩
 ·simpa [OwnB] using wE.more (base':=w.heap.size) hb.size
 exact hb.trans ((zC (by simpa [Value.ownBlock] using hg)).mono hb.size)
theorem Snap.with_ne (H:Snap) {g b:Nat}(o:Obj) (h:b≠g):(H.with g o) b=H b:=by simp[Snap.with,h]
theorem mP {w:World}{ops:Array Oper}{rest:List Oper}{o:Oper}{a:Act}{Q:Exit→Act→World→Prop}
  (hg:o.guard=none) (l c:Operand) (hop:o.op=Op.makeSlice 55 l c)
  (kl kc:IntKind) (L C:Int) (n:Nat) (hl:a.eval l=.int kl L) (hc:a.eval c=.int kc C) (hL:L=(n:Int)) (hC:C=(n:Int)) (b2:n≤1099511627776) (g:Nat) (zT:w.heap.size=g)
  (hK:∀ w' cs,Blk w' g 57 cs→cs.size=n*4→Below w.heap.size w w'→wpList Tryz.prog ops Q rest (a.put o.dst (.slice (some ⟨g,0,none⟩) n n)) w') :
  wpList Tryz.prog ops Q (o::rest) a w:=by
 subst zT;obtain⟨i0,uq,fz,rv,ro⟩:=info_parts ls
 refine wpList_make_full w hg l c _ hop w.heap.size 57 i0 _ 4 Tryz.underlying55 uq fz rv kl kc L C n hl hc hL hC (by rw[ro];omega) (by simp only[maxLen];omega) (Nat.le_refl _) fun w' h1 h2=>?_
 rcases h1.2 with ⟨hv,_⟩ | ⟨g,cap,cur,hv,_,hg,_,_,hs,_⟩
 ·cases hv
 cases hv
 exact hK w' cur hg hs (zC h2)
def qM (x:Itm):Prop:=∀ (H:Snap) (k n:Int) (ba:Option Addr) (bl bc:Nat) (ia:Option Addr) (il ic:Nat) (w:World),
 Modest x→ItemA H k n ba bl bc ia il ic x→Holds w H→
 Calls Tryz.prog 75 #[.agg #[.int .i64 k,.int .u64 n,.slice ba bl bc,.slice ia il ic]] w fun e w'=>∃ v,e=.returned v∧Gives w H x v w'
theorem cU (x:Itm) (ih:∀ y:Itm,cnt y<cnt x→qM y):qM x:=by
 intro H k n ba bl bc ia il ic w hm hx hH
 obtain⟨rfl,rfl,rfl,rfl,ot⟩:=hx.eqs;obtain⟨qo,el,Iy⟩:=hm.parts;have HX:=Hh ot;have ZF:=Hh ot.bounds;have C:=Hh (vT ((w.alloc (.cells #[.int .i64 x.kind,.int .u64 x.n,.slice ba x.bytes.length bc,.slice ia x.items.length ic] 57)).alloc (.cells #[.int .i64 0,.int .u64 0,.slice none 0 0,.slice none 0 0] 57)) ba x.bytes x.bytes.length bc rfl qo (((Src.of_row ot.bytes.row hH).alloc _).alloc _));have ws:=(Blk.new w 57 #[.int .i64 x.kind,.int .u64 x.n,.slice ba x.bytes.length bc,.slice ia x.items.length ic]).alloc (.cells #[.int .i64 0,.int .u64 0,.slice none 0 0,.slice none 0 0] 57);have yU:=Blk.new (w.alloc (.cells #[.int .i64 x.kind,.int .u64 x.n,.slice ba x.bytes.length bc,.slice ia x.items.length ic] 57)) 57 #[.int .i64 0,.int .u64 0,.slice none 0 0,.slice none 0 0];rw[show(w.alloc (.cells #[.int .i64 x.kind,.int .u64 x.n,.slice ba x.bytes.length bc,.slice ia x.items.length ic] 57)).heap.size=w.heap.size+1 by simp]at yU
 clear hx hm ot qo;go_enter Tryz.func75,Tryz.ntmps75
 go_wp2_with fail
 refine C.out.mono ?_
 rintro e w1 ⟨r,rfl,hf⟩
 obtain⟨A',c',rfl,_⟩:=hf.own.form;obtain⟨H1,xE,Sq,_⟩:=hf.snapB ((hH.alloc _).alloc _);have PC:H1 w.heap.size=none:=xE.none (hH.none_of_ge (Nat.le_refl _)) (by simp;omega);have LS:H1 (w.heap.size+1)=none:=xE.none (hH.none_of_ge (by omega)) (by simp);have xE:=(((Grows.refl hH).alloc _).alloc _).trans xE;have ws:=ws.below hf.2;have yU:=yU.below hf.2;have b2:=ws.cell 2 rfl;have f2:=ws.frozen 2;have ws:=ws.set_ 2 (.slice A' x.bytes.length c');have b3:=ws.cell 3 rfl;have oq:w.heap.size+2≤w1.heap.size:=by have:=hf.2.size;simp at this;omega
 go_wp2_with (at_make;refine yf ?_)
 refine mP rfl _ _ rfl .i64 .i64 _ _ x.items.length rfl rfl rfl rfl el w1.heap.size (by simp[World.setCell]) fun w2 cs px hcz xJ=>?_
 have O5:H1 w1.heap.size=none:=xE.hidden (Nat.le_refl _);have yq:Grows w H w2 H1:=(xE.setOwn PC (Nat.le_refl _) 2 (.slice A' x.bytes.length c')).below_ xJ;have yU:=(yU.far (p:=⟨w.heap.size,2,none⟩) (by simp) (.slice A' x.bytes.length c')).below xJ;have ws:=ws.below xJ;have mN:w1.heap.size<w2.heap.size:=px.lt;have c3:=ws.cell 3 rfl;have M3:=Hh yq;have rq:=xE.le;clear hf C b2 f2 b3 xJ;go_upto_region 4 with fail
 go_loopw [17] (fun vi wr=>∃ (k:Nat) (Hr:Snap) (cr:Array Value) (pre:List Value),k≤x.items.length∧vi=.int .i64 k∧Grows w H wr Hr∧H1.le Hr∧Hr w.heap.size=none∧Hr (w.heap.size+1)=none∧Hr w1.heap.size=none∧
  Blk wr w.heap.size 57 #[.int .i64 x.kind,.int .u64 x.n,.slice A' x.bytes.length c',.slice ia x.items.length ic]∧Blk wr (w.heap.size+1) 57 #[.int .i64 0,.int .u64 0,.slice none 0 0,.slice none 0 0]∧
  Blk wr w1.heap.size 57 cr∧cr.size=x.items.length*4∧ItemsC Hr pre (x.items.take k)∧cr.toList.take (k*4)=pre) (fun vi _=>x.items.length-(intOf vi).toNat)
 case atStart=>exact⟨0,H1,cs,[],Nat.zero_le _,rfl,M3.out,Snap.le.refl _,PC,LS,O5,ws,yU,px,hcz,by simp[ItemsC],by simp⟩
 case round =>
 obtain⟨k,Hr,cr,pre,hk,rfl,pn,Xb,ru,oo,OE,kU,iW,Pu,LX,XH,iN⟩:=hrel
 by_cases ye:k<x.items.length
 ·obtain⟨ib,io,rH,vD⟩:=HX.out.items (by omega);obtain⟨eba,ebc,eia,eic,q0,q1,q2,q3,tA⟩:=vD.get k ye;subst rH;have Py:=pn.holds.mono pn.le;have p0:=Py.cell q0;have p1:=Py.cell q1;have p2:=Py.cell q2;have p3:=Py.cell q3;have IH:=Hh (ih x.items[k] (vF x k ye) Hr _ _ eba _ ebc eia _ eic (wr.alloc (.cells #[.int .i64 x.items[k].kind,.int .u64 x.items[k].n,.slice eba x.items[k].bytes.length ebc,.slice eia x.items[k].items.length eic] 57)) (Iy.get k ye) (tA.mono pn.le).arg (pn.holds.alloc _));clear q0 q1 q2 q3 vD tA Py;go_wp2_with fail
  refine IH.out.mono ?_
  rintro e w3 ⟨v,rfl,rba,rbc,ria,ric,Hs,rfl,yQ,Mz⟩
  have wh:=(pn.alloc (.cells #[.int .i64 x.items[k].kind,.int .u64 x.items[k].n,.slice eba x.items[k].bytes.length ebc,.slice eia x.items[k].items.length eic] 57)).trans yQ;have V7:=(kU.alloc (.cells #[.int .i64 x.items[k].kind,.int .u64 x.items[k].n,.slice eba x.items[k].bytes.length ebc,.slice eia x.items[k].items.length eic] 57)).below yQ.below;have XR:=(iW.alloc (.cells #[.int .i64 x.items[k].kind,.int .u64 x.items[k].n,.slice eba x.items[k].bytes.length ebc,.slice eia x.items[k].items.length eic] 57)).below yQ.below;have Jv:=(Pu.alloc (.cells #[.int .i64 x.items[k].kind,.int .u64 x.items[k].n,.slice eba x.items[k].bytes.length ebc,.slice eia x.items[k].items.length eic] 57)).below yQ.below;have Ll:=yQ.none ru (by have:=kU.lt;simp;omega);have Ln:=yQ.none oo (by have:=iW.lt;simp;omega);have PU:=yQ.none OE (by have:=Pu.lt;simp;omega)
  have OZ:ItemsC Hs (pre++zY x.items[k] rba rbc ria ric) (x.items.take (k+1)):=by
   rw[List.take_succ_eq_append_getElem ye]
   exact(XH.mono yQ.le).app (ItemsC.one Mz)
  have Lj:=Xb.trans yQ.le;have Ly:=Hh iN;clear p0 p1 p2 p3 IH kU iW Pu XH pn yQ iN;go_wp2_with (with_reducible refine zx ?_)
  refine vE rfl _ _ _ rfl rfl w1.heap.size (k*4) _ rfl rfl _ _ Jv zv (by show k*4+4≤cr.size;omega) (sX _ _ _ _ rfl rfl rfl rfl) fun w4 hDg4 tL=>?_
  have xM:=wh.grownOwn PU (by omega) tL;have V7:=V7.grown tL (by simp;omega);have XR:=XR.grown tL (by simp;omega);have mK:(qA cr (k*4) (zY x.items[k] rba rbc ria ric)).size=x.items.length*4:=by rw[m6];exact LX
  have L0:(qA cr (k*4) (zY x.items[k] rba rbc ria ric)).toList.take ((k+1)*4)=pre++zY x.items[k] rba rbc ria ric:=by
   rw[show(k+1)*4=k*4+(zY x.items[k] rba rbc ria ric).length by simp[zY];omega,YS _ _ _ (by simp[zY];omega),Ly.out]
  have cI:=Hh L0;clear L0 wh Jv;go_wp2_with fail
  go_roundw
  case rel=>exact⟨k+1,Hs,_,_,by omega,by go_num,xM,Lj,Ll,Ln,PU,V7,XR,hDg4,mK,OZ,cI.out⟩
  case measure=>simp[intOf];omega
 have sZ:k=x.items.length:=by omega
 subst sZ;rw[List.take_length]at XH;have Ly:=Hh iN;clear iN;have hF:=pn.withOwn OE (by omega) Pu;have hK:=Xb.trans (Snap.le_with OE (o:=.cells cr 57 (0,0)));have PX:(Hr.with w1.heap.size (.cells cr 57 (0,0))) (w.heap.size+1)=none:=by rw[Snap.with_ne _ _ (by omega)];exact oo
 have PW:(Hr.with w1.heap.size (.cells cr 57 (0,0))) w.heap.size=none:=by rw[Snap.with_ne _ _ (by omega)];exact ru
 have RH:IsElems (Hr.with w1.heap.size (.cells cr 57 (0,0))) w1.heap.size 0 x.items :=
  (XH.mono (Snap.le_with OE)).elems (Blk.cellsAt _ rfl pre (by rw[XH.len];exact Ly.out))
 have PF:=Sq.mono hK;have mK:w.heap.size<wr.heap.size:=kU.lt;clear Pu;go_wp2_with (with_reducible refine zx ?_)
 refine zu rfl _ _ _ rfl rfl w.heap.size 3 _ rfl rfl _ _ kU xB (by simp) rfl fun w4 TN tL=>?_
 have Jw:=iW.grown tL (by simp);have No:=hF.grownOwn PW (Nat.le_refl _) tL;clear kU iW
 by_cases h0:x.items.length=0
 ·have eR:IsItem (Hr.with w1.heap.size (.cells cr 57 (0,0))) A' c' none 0 x:=by
   obtain⟨z1,z2,z3,_⟩:=ZF.out
   cases x
   rw[IsItem]
   exact⟨⟨z1,z2,z3,Nat.le_of_eq h0,by omega⟩,PF,fun h=>absurd h (by simp[Itm.items]at h0;simp[h0])⟩
  have HI:=Hh eR;have Hz:(x.items.length:Int)=0:=by omega
  have Gn:=Hh h0;clear h0 eR;go_wp2_with (with_reducible refine zx ?_)
  refine zu rfl _ _ _ rfl rfl w.heap.size 3 _ rfl rfl _ _ TN xB (by simp) rfl fun w5 hF1 tR=>?_
  have IL:=Jw.grown tR (by simp);have No:=No.grownOwn PW (Nat.le_refl _) tR;have i0:=hF1.cell 0 rfl;have i1:=hF1.cell 1 rfl;have i2:=hF1.cell 2 rfl;have i3:=hF1.cell 3 rfl;go_wp2_with (with_reducible refine zx ?_)
  refine stI IL fun w6 hJ2 tO=>?_
  go_wp2_with fail
  refine vK rfl rfl hJ2 rfl rfl zv rfl ?_
  exact⟨_,rfl,A',c',none,0,_,by simp[xj,Gn.out],No.grownOwn PX (by omega) tO,HI.out⟩
 have eR:IsItem (Hr.with w1.heap.size (.cells cr 57 (0,0))) A' c' (some ⟨w1.heap.size,0,none⟩) x.items.length x:=by
  obtain⟨z1,z2,z3,z4,z5,z6,z7⟩:=ZF.out
  cases x
  rw[IsItem]
  exact⟨⟨z1,z2,z3,Nat.le_refl _,by simp only[Itm.items]at z6⊢;omega⟩,PF,fun h=>⟨_,_,rfl,RH⟩⟩
 have HI:=Hh eR;have Hz:((x.items.length:Int)==0)=false:=by rw[beq_eq_false_iff_ne];omega
 clear h0 eR;have i0:=TN.cell 0 rfl;have i1:=TN.cell 1 rfl;have i2:=TN.cell 2 rfl;have i3:=TN.cell 3 rfl;go_wp2_with (with_reducible refine zx ?_)
 refine stI Jw fun w6 hJ2 tO=>?_
 go_wp2_with fail
 refine vK rfl rfl hJ2 rfl rfl zv rfl ?_
 exact⟨_,rfl,A',c',_,_,_,rfl,No.grownOwn PX (by omega) tO,HI.out⟩
theorem lE (x:Itm):qM x:=by
 have main:∀ N,∀ x:Itm,cnt x≤N→qM x:=by
  intro N
  induction N with
  | zero =>
   intro x hx
   have:0<cnt x:=by cases x;rw[cnt];omega
   omega
  | succ N ih=>exact fun x hx=>cU x fun y hy=>ih y (by omega)
 exact main _ x (Nat.le_refl _)
theorem ow {H:Snap}(hT:Tabs H) {k n:Int}{ba:Option Addr}{bl bc:Nat}{ia:Option Addr}{il ic:Nat}{x:Itm}(hx:ItemA H k n ba bl bc ia il ic x)
  {k' n':Int} {ba':Option Addr} {bl' bc':Nat} {ia':Option Addr} {il' ic':Nat} {y:Itm} (hy:ItemA H k' n' ba' bl' bc' ia' il' ic' y) (w:World) (hH:Holds w H) :
  Calls Tryz.prog 53 #[.agg #[.int .i64 k,.int .u64 n,.slice ba bl bc,.slice ia il ic],.agg #[.int .i64 k',.int .u64 n',.slice ba' bl' bc',.slice ia' il' ic']] w
   fun e w'=>∃ v,e=.returned (.tuple #[v,.bool (vz x y).isSome])∧Gives w H ((vz x y).getD zG) v w':=by
 obtain⟨rfl,rfl,rfl,rfl,ot⟩:=hx.eqs;obtain⟨rfl,rfl,rfl,rfl,Ta⟩:=hy.eqs;have HX:=Hh ot;have Fr:=Hh hx;have Jk:=Hh hy;have ws:=((Blk.new w 57 #[.int .i64 x.kind,.int .u64 x.n,.slice ba x.bytes.length bc,.slice ia x.items.length ic]).alloc (zS y ba' bc' ia' ic')).alloc zg;have yU:=(Blk.new (w.alloc (zS x ba bc ia ic)) 57 #[.int .i64 y.kind,.int .u64 y.n,.slice ba' y.bytes.length bc',.slice ia' y.items.length ic']).alloc zg;have wL:=Blk.new ((w.alloc (zS x ba bc ia ic)).alloc (zS y ba' bc' ia' ic')) 57 #[.int .i64 0,.int .u64 0,.slice none 0 0,.slice none 0 0];have TO:=(((Grows.refl hH).alloc (zS x ba bc ia ic)).alloc (zS y ba' bc' ia' ic')).alloc zg
 simp only[zX]at yU wL
 have Zj:H (w.heap.size+1+1)=none:=hH.none_of_ge (by omega)
 by_cases h5:x.kind=5
 ·have k5:(x.kind != 5)=false:=by simp[h5]
  have H5:=Hh h5;clear h5;have V:=Hh (uf hT hx _ TO.holds)
  cases hvx:zL x with
  | false =>
   have E:Hid (vz x y=none):=by rw[Hid,vz,if_neg (by simp[hvx])]
   have HG:=Hh TO;rw[hvx]at V;clear hvx ot Ta hx hy TO;go_enter Tryz.func53,Tryz.ntmps53
   go_wp2_with fail
   refine V.out.mono ?_
   rintro e w1 ⟨rfl,wU⟩
   have wL:=wL.below wU;have NZ:=Hh (HG.out.below_ wU);clear ws yU wU HG;go_wp2_with (with_reducible refine zx ?_)
   refine stI wL fun w6 hJ2 tO=>?_
   go_wp2_with fail
   refine zw rfl rfl hJ2 rfl rfl zv rfl ?_
   rw[E.out]
   exact⟨_,rfl,none,0,none,0,H,rfl,NZ.out.grownOwn Zj (by omega) tO,IsItem.plain H 0 0 (by omega) (by omega)⟩
  | true =>
  have kM:=wV hvx;obtain⟨pq,Z8,IY,tA⟩:=xu hvx;have tY:=Hh (rY hvx H5.out);have Ui:=Hh hvx;rw[hvx]at V;clear hvx ot Ta hx hy;go_enter Tryz.func53,Tryz.ntmps53
  go_wp2_with fail
  refine V.out.mono ?_
  rintro e w1 ⟨rfl,wU⟩
  have ws:=ws.below wU;have yU:=yU.below wU;have wL:=wL.below wU;have xE:=TO.below_ wU;have q0:=yU.cell 0 rfl;have q1:=yU.cell 1 rfl;have q2:=yU.cell 2 rfl;have q3:=yU.cell 3 rfl;have V2:=Hh (uf hT Jk.out _ xE.holds)
  cases hvy:zL y with
  | false =>
   have E:Hid (vz x y=none):=by rw[Hid,vz,if_neg (by simp[hvy])]
   rw[hvy]at V2;clear hvy;go_wp2_with fail
   refine V2.out.mono ?_
   rintro e w2 ⟨rfl,xJ⟩
   have wL:=wL.below xJ;have M3:=Hh (xE.below_ xJ);clear ws yU wU xJ q0 q1 q2 q3 xE TO;go_wp2_with (with_reducible refine zx ?_)
   refine stI wL fun w6 hJ2 tO=>?_
   go_wp2_with fail
   refine zw rfl rfl hJ2 rfl rfl zv rfl ?_
   rw[E.out]
   exact⟨_,rfl,none,0,none,0,H,rfl,M3.out.grownOwn Zj (by omega) tO,IsItem.plain H 0 0 (by omega) (by omega)⟩
  | true =>
  obtain⟨Xi,_,OC⟩:=uz hvy;have E:Hid (vz x y=rf (zZ y) x.items):=by rw[Hid,vz,if_pos ⟨H5.out,Ui.out,hvy⟩]
  rw[hvy]at V2;clear hvy;go_wp2_with fail
  refine V2.out.mono ?_
  rintro e w2 ⟨rfl,xJ⟩
  have ws:=ws.below xJ;have yU:=yU.below xJ;have wL:=wL.below xJ;have yq:=xE.below_ xJ;have A:=Hh (sk y H _ _ _ _ _ _ _ _ w2 w2.heap.size (.slice none 0 0) [] Xi Jk.out yq.holds (OwnB.nil _ _) (Nat.le_refl _) (by simp[Value.ownBlock]) (by simp;omega));clear wU xJ q0 q1 q2 q3 xE TO;have q0:=yU.cell 0 rfl;have q1:=yU.cell 1 rfl;have q2:=yU.cell 2 rfl;have q3:=yU.cell 3 rfl;go_wp2_with fail
  refine A.out.mono ?_
  rintro e w3 ⟨r,rfl,wE,Ur,_⟩
  obtain⟨KA,kc,rfl,_,_,Yp⟩:=wE.form;rw[List.nil_append]at wE Yp;have uy:=zC Ur;have Rh:=ws.below uy;have Oy:=wL.below uy;have Sb:=Hh (yq.below_ uy);have c3:=Rh.cell 3 rfl;clear yU q0 q1 q2 q3 yq A V V2 Ur;go_upto_region 5 with fail
  go_loopw [7] (fun vi wr=>∃ k:Nat,k≤x.items.length∧k%2=0∧vi=.int .i64 k∧rf (zZ y) (x.items.drop k)=vz x y∧Below w3.heap.size w3 wr) (fun vi _=>x.items.length-(intOf vi).toNat)
  case atStart=>exact⟨0,Nat.zero_le _,rfl,rfl,by rw[E.out];simp,Below.refl _ _⟩
  case round =>
  obtain⟨k,hk,py,rfl,hf,xP⟩:=hrel;have M5:=Hh (Sb.out.below_ xP);have d3:=(Rh.below xP).cell 3 rfl
  by_cases ye:k<x.items.length
  ·have tY:=tY.out;have tb:k+1<x.items.length:=by omega
   have pQ:=aC (zZ y) x.items k tb;rw[hf]at pQ;obtain⟨ib,io,rH,vD⟩:=HX.out.items (by omega);subst rH;obtain⟨eba,ebc,eia,eic,z0,z1,z2,z3,oI⟩:=vD.get k ye;have wF:=M5.out.holds;have p0:=wF.cell z0;have p1:=wF.cell z1;have p2:=wF.cell z2;have p3:=wF.cell z3;have ol:=Hh pQ;have A:=Hh (sk x.items[k] H _ _ _ _ _ _ _ _ wr wr.heap.size (.slice none 0 0) [] (IY.get k ye) oI.arg wF (OwnB.nil _ _) (Nat.le_refl _) (by simp[Value.ownBlock]) (by have:=VT x.items k ye;simp;omega));clear z0 z1 z2 z3 oI pQ hf tY;go_wp2_with fail
   refine A.out.mono ?_
   rintro e w4 ⟨r,rfl,jv,tL,_⟩
   obtain⟨EA,ec,rfl,_,_,TC⟩:=jv.form;rw[List.nil_append]at jv TC;have rF:=zC tL;have Q:=Hh (lD w4 EA KA (zZ x.items[k]) (zZ y) (zZ x.items[k]).length (zZ y).length ec kc rfl rfl TC (Yp.below (xP.trans (rF.mono xP.size))));have Om:=Hh (M5.out.below_ rF);have Oz:=(Rh.below xP).below rF;have UJ:=(Oy.below xP).below rF;have LU:=xP.trans (rF.mono xP.size);have e3:=Oz.cell 3 rfl;clear d3 p0 p1 p2 p3 A tL xP wF;go_wp2_with fail
   refine Q.out.mono ?_
   rintro e w5 ⟨rfl,rfl⟩
   cases hq:(zZ x.items[k]==zZ y) with
   | true =>
    have E2:Hid (vz x y=some x.items[k+1]):=ol.out.trans (if_pos (by simpa using hq));obtain⟨eba',ebc',eia',eic',z0,z1,z2,z3,oI⟩:=vD.get (k+1) tb;have wF:=Om.out.holds;have p0:=wF.cell z0;have p1:=wF.cell z1;have p2:=wF.cell z2;have p3:=wF.cell z3;have C:=Hh (lE x.items[k+1] H _ _ eba' _ ebc' eia' _ eic' w4 (kM.parts.2.2.get (k+1) tb) oI.arg wF);have i1:((k:Int)+1).toNat=k+1:=by omega
    have i2:(k:Int)+1<x.items.length:=by omega
    have i3:IntKind.i64.wrap ((k:Int)+1)=(k:Int)+1:=IntWalk.i64_in _ (by omega);clear z0 z1 z2 z3 oI hq Q vD;go_wp2_with fail
    refine C.out.mono ?_
    rintro e w5 ⟨v,rfl,rba,rbc,ria,ric,Hs,rfl,xM,Mz⟩
    have IM:=UJ.below xM.below;have Lr:=xM.none Zj (by have:=UJ.lt;omega);have HW:=Hh (Om.out.trans xM);clear e3 p0 p1 p2 p3 C Oz;go_wp2_with (with_reducible refine zx ?_)
    refine stI IM fun w6 hJ2 tO=>?_
    go_wp2_with fail
    refine zw rfl rfl hJ2 rfl rfl zv rfl ?_
    rw[E2.out]
    exact⟨_,rfl,rba,rbc,ria,ric,Hs,rfl,HW.out.grownOwn Lr (by omega) tO,Mz⟩
   | false =>
   have E2:Hid (rf (zZ y) (x.items.drop (k+2))=vz x y):=(ol.out.trans (if_neg (by simpa using hq))).symm;have tY:=tY.out;have i3:IntKind.i64.wrap ((k:Int)+2)=(k:Int)+2:=IntWalk.i64_in _ (by omega);clear hq Q vD e3;go_wp2_with fail
   go_roundw
   case rel=>exact⟨k+2,by omega,by omega,by go_num,E2.out,LU⟩
   case measure=>simp[intOf];omega
  have E2:Hid (vz x y=none):=by
   rw[Hid,← hf,List.drop_eq_nil_of_le (by omega)];rfl
  have UJ:=Oy.below xP;clear hf;go_wp2_with (with_reducible refine zx ?_)
  refine stI UJ fun w6 hJ2 tO=>?_
  go_wp2_with fail
  refine zw rfl rfl hJ2 rfl rfl zv rfl ?_
  rw[E2.out]
  exact⟨_,rfl,none,0,none,0,H,rfl,M5.out.grownOwn Zj (by omega) tO,IsItem.plain H 0 0 (by omega) (by omega)⟩
 have k5:(x.kind != 5)=true:=by simp[h5]
 have E:Hid (vz x y=none):=by rw[Hid,vz,if_neg (by simp[h5])]
 clear h5;have HG:=Hh TO;clear ot Ta hx hy TO;go_enter Tryz.func53,Tryz.ntmps53
 go_wp2_with (with_reducible refine zx ?_)
 refine stI wL fun w6 hJ2 tO=>?_
 go_wp2_with fail
 refine zw rfl rfl hJ2 rfl rfl zv rfl ?_
 rw[E.out]
 exact⟨_,rfl,none,0,none,0,H,rfl,HG.out.grownOwn Zj (by omega) tO,IsItem.plain H 0 0 (by omega) (by omega)⟩
theorem OwnI.lit {w:World}{H:Snap}{l:List Itm}{cs:List Value}(h:ItemsC H cs l) (base:Nat) (hb:base≤w.heap.size) (hm:l.length≤4096) :
  OwnI (w.alloc (.cells cs.toArray 57)) base (.slice (some ⟨w.heap.size,0,none⟩) l.length l.length) H l:=by
 refine⟨cs,h,h.len,.inr ⟨w.heap.size,l.length,cs.toArray,rfl,hb,heap_alloc_new w _,Nat.le_refl _,by simp only[maxLen];omega, ?_, ?_⟩⟩
 ·simpa using h.len
 rw[← h.len];simp
def dbl (n:Nat):Nat:=if n=0 then 0 else(1023+n.log2)*4503599627370496+(n*2 ^ (52-n.log2)-4503599627370496)
theorem nw:∀ n:Fin 1024,floatOfInt .f64 ((n.val:Nat):Int)=dbl n.val:=by decide +kernel
theorem Td:∀ n:Fin 1024,floatBits .add .f64 (dbl n.val) (dbl 1024)=some (dbl (n.val+1024)):=by decide +kernel
theorem YI {s e m:Nat}(hs:s≤1) (he:1≤e) (Mt:e≤2046) (hm:m<4503599627370496) :
  floatBits .mul .f64 4607182418800017408 (s*9223372036854775808+e*4503599627370496+m)=some (s*9223372036854775808+e*4503599627370496+m):=by
 have e1:Ieee.double.signWeight=9223372036854775808:=rfl;have e2:Ieee.double.binade=4503599627370496:=rfl;have e3:Ieee.double.infRung=9218868437227405312:=rfl;have e4:Ieee.double.leastPlace = -1074:=rfl;have e5:Ieee.double.fractionBits=52:=rfl;have r1:Ieee.double.read 4607182418800017408=.number false 4503599627370496 (-52):=by decide +kernel
 obtain⟨x,hx⟩:∃ x,s*9223372036854775808+e*4503599627370496+m=x:=⟨_,rfl⟩
 have r2:Ieee.double.read x=.number (s%2==1) (4503599627370496+m) (-1074+((e-1:Nat):Int)):=by
  unfold Ieee.Format.read
  rw[e1,e2,e3,e4];have a1:x/9223372036854775808=s:=by omega
  have a2:x%9223372036854775808=e*4503599627370496+m:=by omega
  simp only[a1,a2]
  rw[if_neg (by omega),if_pos (by omega)];congr 1
  ·omega
  have:(e*4503599627370496+m)/4503599627370496=e:=by omega
  rw[this]
 rw[hx];show((Ieee.double.read 4607182418800017408).product (Ieee.double.read x)).map Ieee.double.write=some x
 rw[r1,r2]
 simp only[Ieee.Datum.product,Option.map_some,Ieee.Format.write,Bool.false_bne]
 congr 1
 obtain⟨M,hM⟩:∃ M,4503599627370496+m=M:=⟨_,rfl⟩
 have kG:4503599627370496≤M:=by omega
 have Yt:M<9007199254740992:=by omega
 have hl:(4503599627370496*M).log2=104:=by
  refine kR ?_ ?_
  ·have:(2:Nat) ^ 104=4503599627370496*4503599627370496:=by decide
   rw[this];exact Nat.mul_le_mul_left _ kG
  have:(2:Nat) ^ (104+1)=4503599627370496*9007199254740992:=by decide
  rw[this];exact Nat.mul_lt_mul_of_pos_left Yt (by omega)
 rw[hM]
 unfold Ieee.Format.nearest
 rw[if_neg (by intro h;rcases Nat.mul_eq_zero.1 h with h | h <;> omega),e2,e3,e4,e5,hl];have p1:max (-52+(-1074+((e-1:Nat):Int))+((104:Nat):Int)-((52:Nat):Int)) (-1074) = -1074+((e-1:Nat):Int):=by omega
 rw[p1];have p2:(-52+(-1074+((e-1:Nat):Int))-(-1074+((e-1:Nat):Int))).toNat=0:=by omega
 have p3:(-1074+((e-1:Nat):Int)-(-52+(-1074+((e-1:Nat):Int)))).toNat=52:=by omega
 have p4:(-1074+((e-1:Nat):Int) - -1074).toNat=e-1:=by omega
 simp only[p2,p3,p4,Nat.shiftLeft_zero]
 have hq:4503599627370496*M=M*2 ^ 52:=by rw[Nat.mul_comm]
 rw[hq,oz _ M 52 (by rw[← hq,hl];omega)];clear p1 p2 p3 p4 hl hq r1 r2 e1 e2 e3 e4 e5;obtain⟨r,hr⟩:∃ r,min ((e-1)*4503599627370496+M) 9218868437227405312=r:=⟨_,rfl⟩
 have lA:r=(e-1)*4503599627370496+M:=by
  rw[← hr]
  exact Nat.min_eq_left (by omega)
 obtain⟨k,rfl⟩:∃ k,e=k+1:=⟨e-1,by omega⟩
 rw[hr,fd s r hs,lA,← hx,← hM,Nat.add_sub_cancel,Nat.succ_mul]
 simp only[Nat.add_assoc]
theorem YW {e m:Nat}(he:1≤e) (Mt:e≤2046) (hm:m<4503599627370496):Ieee.double.read (e*4503599627370496+m)=.number false (4503599627370496+m) (-1074+((e-1:Nat):Int)):=by
 have e1:Ieee.double.signWeight=9223372036854775808:=rfl;have e2:Ieee.double.binade=4503599627370496:=rfl;have e3:Ieee.double.infRung=9218868437227405312:=rfl;have e4:Ieee.double.leastPlace = -1074:=rfl;obtain⟨x,hx⟩:∃ x,e*4503599627370496+m=x:=⟨_,rfl⟩
 have a1:x/9223372036854775808=0:=by omega
 have a2:x%9223372036854775808=x:=by omega
 rw[hx]
 unfold Ieee.Format.read
 rw[e1,e2,e3,e4]
 simp only[a1,a2]
 rw[if_neg (by omega),if_pos (by omega)];have a3:x/4503599627370496=e:=by omega
 have a4:x%4503599627370496=m:=by omega
 rw[a3,a4];rfl
theorem WJ {a b:Int}(h:b<a):compare a b=.gt:=by
 show compareOfLessAndEq a b=_
 rw[compareOfLessAndEq,if_neg (by omega),if_neg (by omega)]
theorem R9 {a b:Int}(h:a<b):compare a b=.lt:=by
 show compareOfLessAndEq a b=_
 rw[compareOfLessAndEq,if_pos h]
theorem kS {e m:Nat}(he:2≤e) (Mt:e≤2045) (hm:m<4503599627370496) {D:Nat}(hD:D=e*4503599627370496+m) :
  FloatKind.f64.format.order D 0=some .gt∧FloatKind.f64.format.order D 9218868437227405311=some .lt∧FloatKind.f64.format.order D 4503599627370496=some .gt∧FloatKind.f64.format.order D D=some .eq:=by
 have r:=YW (show 1≤e by omega) (show e≤2046 by omega) hm;rw[← hD]at r;have z:Ieee.double.read 0=.number false 0 (-1074):=by decide +kernel
 have mx:Ieee.double.read 9218868437227405311=.number false 9007199254740991 971:=by decide +kernel
 have mn:Ieee.double.read 4503599627370496=.number false 4503599627370496 (-1074):=by decide +kernel
 obtain⟨k,hk⟩:∃ k,e-1=k:=⟨_,rfl⟩
 rw[hk]at r;have Zn:∀ a b:Nat,a≤a <<< b:=fun a b=>by rw[Nat.shiftLeft_eq];exact Nat.le_mul_of_pos_right _ (Nat.two_pow_pos b)
 have Pb:∀ a b:Nat,1≤b→a*2≤a <<< b:=fun a b hb=>by
  rw[Nat.shiftLeft_eq]
  refine Nat.mul_le_mul_left _ ?_
  calc 2=2 ^ 1:=rfl
   _≤2 ^ b:=Nat.pow_le_pow_right (by omega) hb
 refine⟨?_, ?_, ?_, ?_⟩
 ·show(Ieee.double.read D).order (Ieee.double.read 0)=_
  rw[r,z]
  simp only[Ieee.Datum.order,Ieee.signed]
  rw[WJ];have:=Zn (4503599627370496+m) (-1074+(k:Int)-min (-1074+(k:Int)) (-1074)).toNat
  simp only[Bool.false_eq_true,if_false,Nat.zero_shiftLeft]
  omega
 ·show(Ieee.double.read D).order (Ieee.double.read 9218868437227405311)=_
  rw[r,mx]
  simp only[Ieee.Datum.order,Ieee.signed]
  rw[R9];have h1:min (-1074+(k:Int)) 971 = -1074+(k:Int):=by omega
  rw[h1];have h2:(-1074+(k:Int)-(-1074+(k:Int))).toNat=0:=by omega
  rw[h2];have:=Pb 9007199254740991 (971-(-1074+(k:Int))).toNat (by omega)
  simp only[Bool.false_eq_true,if_false,Nat.shiftLeft_zero]
  omega
 ·show(Ieee.double.read D).order (Ieee.double.read 4503599627370496)=_
  rw[r,mn]
  simp only[Ieee.Datum.order,Ieee.signed]
  rw[WJ];have h1:min (-1074+(k:Int)) (-1074) = -1074:=by omega
  rw[h1];have h2:(-1074-(-1074:Int)).toNat=0:=by decide
  have:=Pb (4503599627370496+m) (-1074+(k:Int) - -1074).toNat (by omega);rw[h2]
  simp only[Bool.false_eq_true,if_false,Nat.shiftLeft_zero]
  omega
 show(Ieee.double.read D).order (Ieee.double.read D)=_
 rw[r]
 simp only[Ieee.Datum.order]
 congr 1
 show compareOfLessAndEq _ _=_
 rw[compareOfLessAndEq,if_neg (by omega),if_pos rfl]
structure Pos (D e m:Nat):Prop where
 eq:D=e*4503599627370496+m
 lo:2≤e
 hi:e≤2045
 m_lt:m<4503599627370496
theorem Pos.lt {D e m:Nat}(h:Pos D e m):D<9223372036854775808:=by have:=h.eq;have:=h.hi;have:=h.m_lt;omega
theorem qD {D:Nat}(h:D<9223372036854775808):bits .andNot .u64 (D:Int) 9223372036854775808=(D:Int):=by
 have:=u64_andNot_nat D 9223372036854775808 (by omega) (by omega);rw[show((9223372036854775808:Nat):Int)=9223372036854775808 from rfl]at this;rw[this,show 18446744073709551615-9223372036854775808=2 ^ 63-1 by decide,Nat.and_two_pow_sub_one_eq_mod,Nat.mod_eq_of_lt (by simpa using h)]
theorem fR {D e m:Nat}(h:Pos D e m):bits .andNot .u64 (D:Int) 9218868437227405312=(m:Int):=by
 have hl:=h.lt;have:=u64_andNot_nat D 9218868437227405312 (by omega) (by omega);rw[show((9218868437227405312:Nat):Int)=9218868437227405312 from rfl]at this;rw[this,show 18446744073709551615-9218868437227405312=2 ^ 63 ||| (2 ^ 52-1) by decide,Nat.and_or_distrib_left,Nat.and_two_pow_sub_one_eq_mod]
 have h0:D &&& 2 ^ 63=0:=by
  apply Nat.eq_of_testBit_eq
  intro i
  rw[Nat.testBit_and,Nat.testBit_two_pow,Nat.zero_testBit]
  by_cases hi:63=i
  ·subst hi;rw[Nat.testBit_lt_two_pow (by simpa using hl)];rfl
  simp[hi]
 have h1:=h.eq;have h2:=h.m_lt;rw[h0,Nat.zero_or]
 simp only[Nat.reducePow]
 omega
theorem WC {q m:Nat}(hq:q≤2046) (hm:m<4503599627370496):bits .or .u64 (m:Int) ((q:Int)*4503599627370496)=((q*4503599627370496+m:Nat):Int):=by
 have h:=Nat.shiftLeft_add_eq_or_of_lt (show m<2 ^ 52 by simpa using hm) q;rw[Nat.shiftLeft_eq]at h;rw[show((q:Int)*4503599627370496)=((q*4503599627370496:Nat):Int) by omega,u64_or_nat _ _ (by omega) (by omega),Nat.or_comm]
 simp only[Nat.reducePow]at h
 rw[← h]
theorem f7 {e:Nat}(h:e≤2046):bits .and .i64 (e:Int) 2047=(e:Int):=by
 have uJ:∀ X:Fin 2048,bits .and .i64 ((X.val:Nat):Int) 2047=((X.val:Nat):Int):=by decide +kernel
 exact uJ ⟨e,by omega⟩
theorem dx {D:Nat}(h:D<9223372036854775808) (w:World):Calls Tryz.prog 148 #[.float .f64 D] w fun e w'=>e=.returned (.float .f64 D)∧w'=w:=by
 have r1:=yL D;have r2:=vX D;have K:=qD h;clear h;go_enter Tryz.func148,Tryz.ntmps148
 go_wp2_with fail
 go_ret
 exact⟨rfl,rfl⟩
theorem aW {D e m:Nat}(h:Pos D e m) (w:World):Calls Tryz.prog 145 #[.float .f64 D,.int .i64 0] w fun e w'=>e=.returned (.bool false)∧w'=w:=by
 have AB:=Hh (fun w=>dx h.lt w);have o1:=(kS h.lo h.hi h.m_lt h.eq).2.1;clear h;go_enter Tryz.func145,Tryz.ntmps145
 go_wp2_with fail
 refine(AB.out _).mono ?_
 rintro e w1 ⟨rfl,rfl⟩
 go_wp2_with fail
 go_ret
 exact⟨by first | rfl | simp[o1],rfl⟩
theorem aX {D e m:Nat}(h:Pos D e m) (w:World):Calls Tryz.prog 146 #[.float .f64 D] w fun e w'=>e=.returned (.bool false)∧w'=w:=by
 have o1:=(kS h.lo h.hi h.m_lt h.eq).2.2.2;clear h;go_enter Tryz.func146,Tryz.ntmps146
 go_wp2_with fail
 go_ret
 exact⟨by first | rfl | simp[o1],rfl⟩
theorem ig {D e m:Nat}(h:Pos D e m) (w:World):Calls Tryz.prog 147 #[.float .f64 D] w fun e w'=>e=.returned (.tuple #[.float .f64 D,.int .i64 0])∧w'=w:=by
 have AB:=Hh (fun w=>dx h.lt w);have o1:(FloatKind.f64.format.order D 4503599627370496==some .lt)=false:=by rw[(kS h.lo h.hi h.m_lt h.eq).2.2.1];rfl
 clear h;go_enter Tryz.func147,Tryz.ntmps147
 go_wp2_with fail
 refine(AB.out _).mono ?_
 rintro e w1 ⟨rfl,rfl⟩
 go_wp2_with fail
 go_ret2
 exact⟨rfl,rfl⟩
theorem Vc (w:World):Calls Tryz.prog 139 #[.int .i64 1] w fun e w'=>e=.returned (.float .f64 9218868437227405312)∧w'=w:=by
 have r2:∀ w,(callFunc 90 #[.int .u64 9218868437227405312]).run Tryz.prog w=.ok (.value (.float .f64 9218868437227405312)) w:=vX 9218868437227405312;go_enter Tryz.func139,Tryz.ntmps139
 go_wp2_with fail
 go_ret
 exact⟨rfl,rfl⟩
theorem aY {D e m:Nat}(h:Pos D e m) (k:Int) (q:Nat) (hk : -1000≤k∧k≤1000) (hq:(e:Int)+k=(q:Int)) (hq2:2≤q∧q≤2045) (w:World) :
  Calls Tryz.prog 144 #[.float .f64 D,.int .i64 k] w fun e w'=>e=.returned (.float .f64 (q*4503599627370496+m))∧w'=w:=by
 obtain⟨o1,_,_,_⟩:=kS h.lo h.hi h.m_lt h.eq;have o0:(FloatKind.f64.format.order D 0==some .eq)=false:=by rw[o1];rfl
 have IN:=Hh (fun w=>aW h w);have NA:=Hh (fun w=>aX h w);have NO:=Hh (fun w=>ig h w);have r1:=yL D;have hD:=h.eq;have hm:=h.m_lt;have Ix:=h.lo;have Iq:=h.hi;have K1:IntKind.i64.wrap (k+0)=k:=by rw[Int.add_zero];exact IntWalk.i64_in _ (by omega)
 have K2:(D:Int)/4503599627370496=(e:Int):=by omega
 have K3:IntKind.i64.wrap (e:Int)=(e:Int):=IntWalk.i64_in _ (by omega);have K4:=f7 (show e≤2046 by omega);have K5:IntKind.i64.wrap ((e:Int)-1023)=(e:Int)-1023:=IntWalk.i64_in _ (by omega);obtain⟨x,hx⟩:∃ x:Int,k+((e:Int)-1023)=x:=⟨_,rfl⟩
 have K6:IntKind.i64.wrap (k+((e:Int)-1023))=x:=by rw[hx];exact IntWalk.i64_in _ (by omega)
 have K6b:k+((e:Int)-1023)=x:=hx;have z1:¬ (x < -1075):=by omega
 have z2:¬ (1023<x):=by omega
 have z3:¬ (x < -1022):=by omega
 have K7:=fR h;have K8:IntKind.i64.wrap (x+1023)=(q:Int):=by rw[show x+1023=(q:Int) by omega];exact IntWalk.i64_in _ (by omega)
 have K8b:x+1023=(q:Int):=by omega
 have K9:IntKind.u64.wrap (q:Int)=(q:Int):=by rw[IntKind.wrap_u64];omega
 have K10:IntKind.u64.wrap ((q:Int)*4503599627370496)=(q:Int)*4503599627370496:=by rw[IntKind.wrap_u64];omega
 have K11:=WC (show q≤2046 by omega) hm;obtain⟨R,hR⟩:∃ R,q*4503599627370496+m=R:=⟨_,rfl⟩
 have PV:floatBits .mul .f64 4607182418800017408 R=some R:=by
  have:=YI (s:=0) (e:=q) (m:=m) (by omega) (by omega) (by omega) hm;rw[Nat.zero_mul,Nat.zero_add,hR]at this
  exact this
 have r3:=vX R;rw[hR]at K11;rw[hR];have r4:∀ w,(binOp .mul 128 (.float .f64 4607182418800017408) (.float .f64 R)).run Tryz.prog w=.ok (.float .f64 R) w:=fun w=>run_float_arith w .mul _ .f64 _ _ R PV
 obtain⟨rL,py⟩:=hk;have QB:(2:Int)≤(e:Int):=by omega
 have Mt:(e:Int)≤2045:=by omega
 have pq : -1021≤x:=by omega
 have Z8:x≤1022:=by omega
 have Z5:(2:Int)≤(q:Int):=by omega
 have GH:(q:Int)≤2045:=by omega
 clear h hD hm Ix Iq hq hq2 hx PV hR o1;go_enter Tryz.func144,Tryz.ntmps144
 go_wp2_with fail
 refine(IN.out _).mono ?_
 rintro e w1 ⟨rfl,rfl⟩
 go_wp2_with fail
 refine(NA.out _).mono ?_
 rintro e w1 ⟨rfl,rfl⟩
 go_wp2_with fail
 refine(NO.out _).mono ?_
 rintro e w1 ⟨rfl,rfl⟩
 go_wp2_with fail
 go_ret
 exact⟨rfl,rfl⟩
theorem jF {D e m:Nat}(h:Pos D e m) (k:Int) (q:Nat) (hk : -1000≤k∧k≤1000) (hq:(e:Int)+k=(q:Int)) (hq2:2≤q∧q≤2045) (w:World) :
  Calls Tryz.prog 140 #[.float .f64 D,.int .i64 k] w fun e w'=>e=.returned (.float .f64 (q*4503599627370496+m))∧w'=w:=by
 have L:=Hh (fun w=>aY h k q hk hq hq2 w);clear h hk hq hq2;go_enter Tryz.func140,Tryz.ntmps140
 go_wp2_with fail
 refine(L.out _).mono ?_
 rintro e w1 ⟨rfl,rfl⟩
 go_wp2_with fail
 go_ret
 exact⟨rfl,rfl⟩
theorem cp (k:Int) (w:World):Calls Tryz.prog 144 #[.float .f64 0,.int .i64 k] w fun e w'=>e=.returned (.float .f64 0)∧w'=w:=by
 have o0:(FloatKind.f64.format.order 0 0==some .eq)=true:=by decide +kernel
 go_enter Tryz.func144,Tryz.ntmps144
 go_wp2_with fail
 go_ret
 exact⟨rfl,rfl⟩
theorem co (k:Int) (w:World):Calls Tryz.prog 140 #[.float .f64 0,.int .i64 k] w fun e w'=>e=.returned (.float .f64 0)∧w'=w:=by
 have L:=Hh (fun w=>cp k w);go_enter Tryz.func140,Tryz.ntmps140
 go_wp2_with fail
 refine(L.out _).mono ?_
 rintro e w1 ⟨rfl,rfl⟩
 go_wp2_with fail
 go_ret
 exact⟨rfl,rfl⟩
theorem dO {D:Nat}(h:D<9223372036854775808):bits .or .u64 (D:Int) 9223372036854775808=((9223372036854775808+D:Nat):Int):=by
 have h1:=Nat.shiftLeft_add_eq_or_of_lt (show D<2 ^ 63 by simpa using h) 1;rw[Nat.shiftLeft_eq]at h1;have:=u64_or_nat D 9223372036854775808 (by omega) (by omega);rw[show((9223372036854775808:Nat):Int)=9223372036854775808 from rfl]at this;rw[this,Nat.or_comm]
 simp only[Nat.reducePow,Nat.one_mul]at h1
 rw[← h1]
theorem sy {D:Nat}(h:D<9223372036854775808) (w:World):Calls Tryz.prog 141 #[.float .f64 D,.float .f64 13830554455654793216] w fun e w'=>e=.returned (.float .f64 (9223372036854775808+D))∧w'=w:=by
 have r1:=yL D;have r2:∀ w,(callFunc 91 #[.float .f64 13830554455654793216]).run Tryz.prog w=.ok (.value (.int .u64 13830554455654793216)) w:=yL 13830554455654793216;have K1:=qD h;have K2:bits .and .u64 13830554455654793216 9223372036854775808=9223372036854775808:=by decide +kernel
 have K3:=dO h;obtain⟨R,hR⟩:∃ R,9223372036854775808+D=R:=⟨_,rfl⟩
 rw[hR]at K3;rw[hR];have r3:=vX R;clear h hR;go_enter Tryz.func141,Tryz.ntmps141
 go_wp2_with fail
 go_ret
 exact⟨rfl,rfl⟩
def wZ (v:Nat):Nat:=if v/1024%32=31∧v%1024≠0 then zJ else xR v
theorem ZW {v k:Nat}(hv:v<65536) (hk:k≤16):bits .and .u16 (v:Int) ((2 ^ k-1:Nat):Int)=((v%2 ^ k:Nat):Int):=by
 have:2 ^ k≤2 ^ 16:=Nat.pow_le_pow_right (by omega) hk;rw[u16_and_nat v (2 ^ k-1) (by omega) (by omega),Nat.and_two_pow_sub_one_eq_mod]
theorem ZD {n t:Nat}(h0:n≠0) (ht:n.log2=t) (hn:n<2048):Pos (dbl n) (1023+t) (n*2 ^ (52-t)-4503599627370496):=by
 subst ht;have a1:2 ^ n.log2≤n:=Nat.log2_self_le h0;have a2:n<2 ^ (n.log2+1):=Nat.lt_log2_self;have a3:n.log2<11:=(Nat.log2_lt h0).2 (by simpa using hn);have b:=qu a1 a2 (by omega)
 exact⟨by rw[dbl,if_neg h0],by omega,by omega,by omega⟩
theorem RC (f:Nat):(f+1024)*4398046511104-4503599627370496=f*4398046511104:=by omega
def WF (w:World) (v:Nat) (e:Ending) (w':World):Prop:=e=.returned (.int .u64 (wZ v:Int))∧w'=w
theorem Zz (v:Nat) (hv:v<65536) (w:World):Calls Tryz.prog 131 #[.int .u16 (v:Int)] w (WF w v):=by
 have A1:bits .and .u16 (v:Int) 1023=((v%1024:Nat):Int):=ZW (k:=10) hv (by omega);obtain⟨u,hu⟩:∃ u,v/1024=u:=⟨_,rfl⟩
 have A2:bits .and .u16 (u:Int) 31=((u%32:Nat):Int):=ZW (k:=5) (by omega) (by omega);have TZ:u%32=v/1024%32:=by rw[hu]
 rw[TZ]at A2;obtain⟨s,hs⟩:∃ s,v/32768=s:=⟨_,rfl⟩
 obtain⟨x,hx⟩:∃ x,v/1024%32=x:=⟨_,rfl⟩
 obtain⟨f,hf⟩:∃ f,v%1024=f:=⟨_,rfl⟩
 have vC:s≤1:=by omega
 have pq:x≤31:=by omega
 have cK:f<1024:=by omega
 have W:=Hh (show wZ v=(if x=31∧f≠0 then zJ else if x=31 then s*9223372036854775808+9218868437227405312+f*4398046511104
  else if x=0 then(if f=0 then s*9223372036854775808 else s*9223372036854775808+(999+f.log2)*4503599627370496+(f*2 ^ (52-f.log2)-4503599627370496))
  else s*9223372036854775808+(x+1008)*4503599627370496+f*4398046511104) by rw[wZ,xR,hs,hx,hf])
 rw[hf]at A1;rw[hx]at A2;have S1:(v:Int)/32768=(s:Int):=by omega
 have S2:(v:Int)/1024=(u:Int):=by omega
 have FI:floatOfInt .f64 (f:Int)=dbl f:=nw ⟨f,cK⟩;have HX:=Hh (And.intro vC (And.intro pq cK));have Gl:(v:Int)/32768=(s:Int):=S1;have OJ:(s:Int)≤1:=by omega
 clear hs hx hf hv hu TZ
 by_cases Zc:x=31
 ·subst Zc
  by_cases Yw:f=0
  ·subst Yw;have FI0:floatOfInt .f64 0=0:=nw 0;have WQ:Hid (wZ v=s*9223372036854775808+9218868437227405312):=by rw[Hid,W.out,if_neg (by simp),if_pos rfl];try omega
   have IF:=Hh (fun w=>Vc w);clear FI W;go_enter Tryz.func131,Tryz.ntmps131
   go_wp2_with fail
   refine(IF.out _).mono ?_
   rintro e w1 ⟨rfl,rfl⟩
   obtain⟨D,hD⟩:∃ D,9218868437227405312=D:=⟨_,rfl⟩
   rw[hD]at WQ;rw[hD];have HD:=Hh hD;clear hD;have RS:=Hh (yL D)
   rcases(by have:=HX.out.1;omega:s=0∨s=1) with rfl | rfl
   ·have r9:=yL D;have WW:Hid (wZ v=D):=by rw[Hid,WQ.out];try omega
    go_wp2_with fail
    go_ret
    exact⟨by rw[WW.out];try rfl,rfl⟩
   have CS:=Hh (fun w=>sy (D:=D) (by rw[← HD.out];omega) w);obtain⟨R,hR⟩:∃ R,9223372036854775808+D=R:=⟨_,rfl⟩
   rw[hR]at CS;have WW:Hid (wZ v=R):=by rw[Hid,← hR,WQ.out];try omega
   have r9:=yL R;clear hR;go_wp2_with fail
   refine(CS.out _).mono ?_
   rintro e w1 ⟨rfl,rfl⟩
   go_wp2_with fail
   go_ret
   exact⟨by rw[WW.out];try rfl,rfl⟩
  have f0:((f:Int) != 0)=true:=by simp;omega
  have f0':((f:Int)=0)=False:=eq_false (by omega);have WW:Hid (wZ v=zJ):=by rw[Hid,W.out,if_pos ⟨rfl,Yw⟩]
  clear W Yw;go_enter Tryz.func131,Tryz.ntmps131
  go_wp2_with fail
  go_ret
  exact⟨by rw[WW.out];try rfl,rfl⟩
 have x31:((x:Int)==31)=false:=by simp;omega
 have x31':((x:Int)=31)=False:=eq_false (by omega)
 by_cases h0:x=0
 ·subst h0
  by_cases Yw:f=0
  ·subst Yw;have FI0:floatOfInt .f64 0=0:=nw 0;have WQ:Hid (wZ v=s*9223372036854775808+0):=by rw[Hid,Nat.add_zero,W.out,if_neg (by omega),if_neg (by omega),if_pos rfl,if_pos rfl]
   have LD:=Hh (fun w=>co (-24) w);clear FI W Zc;go_enter Tryz.func131,Tryz.ntmps131
   go_wp2_with fail
   refine(LD.out _).mono ?_
   rintro e w1 ⟨rfl,rfl⟩
   obtain⟨D,hD⟩:∃ D:Nat,0=D:=⟨_,rfl⟩
   rw[hD]at WQ;have HD:=Hh hD;rw[show(Value.float FloatKind.f64 0)=Value.float FloatKind.f64 D by rw[hD]];clear hD;have RS:=Hh (yL D)
   rcases(by have:=HX.out.1;omega:s=0∨s=1) with rfl | rfl
   ·have r9:=yL D;have WW:Hid (wZ v=D):=by rw[Hid,WQ.out];try omega
    go_wp2_with fail
    go_ret
    exact⟨by rw[WW.out];try rfl,rfl⟩
   have CS:=Hh (fun w=>sy (D:=D) (by rw[← HD.out];omega) w);obtain⟨R,hR⟩:∃ R,9223372036854775808+D=R:=⟨_,rfl⟩
   rw[hR]at CS;have WW:Hid (wZ v=R):=by rw[Hid,← hR,WQ.out];try omega
   have r9:=yL R;clear hR;go_wp2_with fail
   refine(CS.out _).mono ?_
   rintro e w1 ⟨rfl,rfl⟩
   go_wp2_with fail
   go_ret
   exact⟨by rw[WW.out];try rfl,rfl⟩
  obtain⟨t,ht⟩:∃ t,f.log2=t:=⟨_,rfl⟩
  have hP:=ZD Yw ht (by omega);have QT:t<10:=by rw[← ht];exact(Nat.log2_lt Yw).2 (by simpa using cK)
  have LD:=Hh (fun w=>jF hP (-24) (999+t) (by omega) (by omega) (by omega) w);obtain⟨D,hD⟩:∃ D,(999+t)*4503599627370496+(f*2 ^ (52-t)-4503599627370496)=D:=⟨_,rfl⟩
  have kv:D<9223372036854775808:=by have:=hP.m_lt;omega
  have WQ:Hid (wZ v=s*9223372036854775808+D):=by rw[Hid,W.out,if_neg (by omega),if_neg (by omega),if_pos rfl,if_neg Yw,ht,← hD,Nat.add_assoc]
  rw[hD]at LD;obtain⟨Q,hQ⟩:∃ Q,dbl f=Q:=⟨_,rfl⟩
  rw[hQ]at FI LD;have HD:=Hh kv;clear W Zc Yw hP hD kv hQ ht QT;go_enter Tryz.func131,Tryz.ntmps131
  go_wp2_with fail
  refine(LD.out _).mono ?_
  rintro e w1 ⟨rfl,rfl⟩
  have RS:=Hh (yL D)
  rcases(by have:=HX.out.1;omega:s=0∨s=1) with rfl | rfl
  ·have r9:=yL D;have WW:Hid (wZ v=D):=by rw[Hid,WQ.out];try omega
   go_wp2_with fail
   go_ret
   exact⟨by rw[WW.out];try rfl,rfl⟩
  have CS:=Hh (fun w=>sy (D:=D) (by exact HD.out) w);obtain⟨R,hR⟩:∃ R,9223372036854775808+D=R:=⟨_,rfl⟩
  rw[hR]at CS;have WW:Hid (wZ v=R):=by rw[Hid,← hR,WQ.out];try omega
  have r9:=yL R;clear hR;go_wp2_with fail
  refine(CS.out _).mono ?_
  rintro e w1 ⟨rfl,rfl⟩
  go_wp2_with fail
  go_ret
  exact⟨by rw[WW.out];try rfl,rfl⟩
 have x0:((x:Int)==0)=false:=by simp;omega
 have x0':((x:Int)=0)=False:=eq_false (by omega);have hP:=ZD (n:=f+1024) (t:=10) (by omega) (by rw[Nat.log2_eq_iff (by omega)];constructor <;> omega) (by omega);rw[show(52:Nat)-10=42 from rfl,show(2:Nat) ^ 42=4398046511104 by decide,RC]at hP;have LD:=Hh (fun w=>jF hP ((x:Int)-25) (x+1008) (by omega) (by omega) (by omega) w)
 have AD:∀ w,(binOp .add 128 (.float .f64 (dbl f)) (.float .f64 4652218415073722368)).run Tryz.prog w=.ok (.float .f64 (dbl (f+1024))) w:=fun w=>run_float_arith w .add _ .f64 _ _ _ (by
  have:=Td ⟨f,cK⟩;rw[show dbl 1024=4652218415073722368 by decide +kernel]at this
  exact this)
 have KS:IntKind.i64.wrap ((x:Int)-25)=(x:Int)-25:=IntWalk.i64_in _ (by omega);obtain⟨D,hD⟩:∃ D,(x+1008)*4503599627370496+f*4398046511104=D:=⟨_,rfl⟩
 have kv:D<9223372036854775808:=by have:=hP.m_lt;omega
 have WQ:Hid (wZ v=s*9223372036854775808+D):=by
  rw[Hid,W.out,if_neg (by omega),if_neg (by omega),if_neg h0,← hD];rw[Nat.add_assoc]
 rw[hD]at LD;obtain⟨Q,hQ⟩:∃ Q,dbl f=Q:=⟨_,rfl⟩
 obtain⟨Q2,KH⟩:∃ Q2,dbl (f+1024)=Q2:=⟨_,rfl⟩
 rw[hQ]at FI AD;rw[KH]at AD LD;have HD:=Hh kv;have ot:(x:Int)≤31:=by omega
 clear W Zc h0 hP hD kv hQ KH;go_enter Tryz.func131,Tryz.ntmps131
 go_wp2_with fail
 refine(LD.out _).mono ?_
 rintro e w1 ⟨rfl,rfl⟩
 have RS:=Hh (yL D)
 rcases(by have:=HX.out.1;omega:s=0∨s=1) with rfl | rfl
 ·have r9:=yL D;have WW:Hid (wZ v=D):=by rw[Hid,WQ.out];try omega
  go_wp2_with fail
  go_ret
  exact⟨by rw[WW.out];try rfl,rfl⟩
 have CS:=Hh (fun w=>sy (D:=D) (by exact HD.out) w);obtain⟨R,hR⟩:∃ R,9223372036854775808+D=R:=⟨_,rfl⟩
 rw[hR]at CS;have WW:Hid (wZ v=R):=by rw[Hid,← hR,WQ.out];try omega
 have r9:=yL R;clear hR;go_wp2_with fail
 refine(CS.out _).mono ?_
 rintro e w1 ⟨rfl,rfl⟩
 go_wp2_with fail
 go_ret
 exact⟨by rw[WW.out];try rfl,rfl⟩
abbrev sR (A:Option Addr) (n c p cnt:Nat):Array Value:=#[.slice A n c,.int .i64 (p:Int),.int .i64 (cnt:Int)]
structure Psr (T:TypeId) (w:World) (g:Nat) (H:Snap) (A:Option Addr) (c:Nat) (l:List UInt8) (p cnt:Nat):Prop where
 blk:Blk w g T (sR A l.length c p cnt)
 bytes:IsBytes H A c l
 holds:Holds w H
 apart:H g=none
 le:p≤l.length
 small:l.length≤4096
 cnt_le:cnt≤256
theorem vw {w0 w:World}{r:Option Nat}(h:w0.grownBy w r):∀ q,w0.grownBy (w.drewN q) r
 | 0=>h
 | q+1=>tD (vw h q)
def Z9 (T:TypeId) (w:World) (g:Nat) (A:Option Addr) (c:Nat) (l:List UInt8) (p cnt z:Nat) (e:Ending) (w':World):Prop :=
 (l.length<p+z∧e=.returned (.tuple #[.int .u64 0,.bool false])∧Blk w' g T (sR A l.length c p cnt)∧w.grownBy w' (some g))∨
 (p+z≤l.length∧e=.returned (.tuple #[.int .u64 (beN ((l.drop p).take z):Int),.bool true])∧Blk w' g T (sR A l.length c (p+z) cnt)∧w.grownBy w' (some g))
theorem Ty (x c:Nat) (hc:c<256):x*256 ||| c=x*256+c:=by
 have h:=Nat.shiftLeft_add_eq_or_of_lt (show c<2 ^ 8 by omega) x;rw[Nat.shiftLeft_eq]at h
 exact h.symm
theorem lY (x c:Nat) (hx:x*256<18446744073709551616) (hc:c<256):bits .or .u64 ((x:Int)*256) (c:Int)=((x*256+c:Nat):Int):=by
 rw[show((x:Int)*256)=((x*256:Nat):Int) by omega,u64_or_nat _ _ hx (by omega),Ty x c hc]
theorem dW (l:List UInt8) (k:Nat) (hk:k<l.length):beN (l.take (k+1))=beN (l.take k)*256+l[k].toNat:=by
 rw[List.take_succ_eq_append_getElem hk,VL]
theorem lC (l:List UInt8) (k:Nat) (hk:k<8):beN (l.take k)*256<18446744073709551616:=by
 have h:=xx (l.take k);have h2:(l.take k).length≤7:=by rw[List.length_take];omega
 have h3:(256:Nat) ^ (l.take k).length≤256 ^ 7:=Nat.pow_le_pow_right (by omega) h2;have h4:(256:Nat) ^ 7=72057594037927936:=by decide
 omega
theorem zH:(Tryz.prog.info? 3).map (·.size)=some 1:=by kernel_rfl
theorem mv {w:World}{g:Nat}{H:Snap}{A:Option Addr}{c:Nat}{l:List UInt8}{p cnt:Nat}(hP:Psr 107 w g H A c l p cnt) (z:Nat) (rv:1≤z) (Zr:z≤8) :
  Calls Tryz.prog 130 #[.pointer (some ⟨g,0,none⟩),.int .i64 (z:Int)] w (Z9 107 w g A c l p cnt z):=by
 have hB:=hP.blk;have c0:=hB.cell 0 rfl;have c1:=hB.cell 1 rfl;have HP:=Hh hP;have na:=hP.le;have qI:=hP.small;have uA:=hP.bytes.le;have nX:=hP.bytes.max;have HZ:=Hh (And.intro rv Zr);have Qx:(z:Int)≤8:=by omega
 have lp:(p:Int)≤(l.length:Int):=by omega
 have VG:(l.length:Int)≤4096:=by omega
 have K0:IntKind.i64.wrap ((l.length:Int)-(p:Int))=(l.length:Int)-(p:Int):=IntWalk.i64_in _ (by omega)
 by_cases ye:l.length<p+z
 ·have z0:(l.length:Int)-(p:Int)<(z:Int):=by omega
  have HL:=Hh ye;clear rv Zr na qI uA nX hP ye;go_enter Tryz.func130,Tryz.ntmps130
  go_wp2_with fail
  go_big_quiet (fail)
  go_wp2_with fail
  go_ret2
  exact .inl ⟨HL.out,rfl,hB,vw (yu w _) _⟩
 have z0:¬ ((l.length:Int)-(p:Int)<(z:Int)):=by omega
 have z0b:decide ((l.length:Int)-(p:Int)<(z:Int))=false:=decide_eq_false z0;have K1:IntKind.i64.wrap ((p:Int)+(z:Int))=(p:Int)+(z:Int):=IntWalk.i64_in _ (by omega);have rs:(p:Int)≤(p:Int)+(z:Int):=by omega
 have tP:(p:Int)+(z:Int)≤(c:Int):=by omega
 have Ge:(p:Int)≤(c:Int):=by omega
 have iZ:(0:Int)≤(p:Int):=by omega
 have iN:(c=p)=False:=eq_false (by omega);obtain⟨b,off,rfl,xw⟩:=hP.bytes.at_ (by omega);have HC:=Hh xw;have HH:=Hh hP.holds;have HL:=Hh (Nat.not_lt.1 ye);clear rv Zr na qI uA nX hP xw ye;go_enter Tryz.func130,Tryz.ntmps130
 go_wp2_with fail
 go_big_quiet (fail)
 obtain⟨w1,oq⟩:∃ W,w.drewN nq=W:=⟨_,rfl⟩
 have ws:Blk w1 g 107 (sR (some ⟨b,off,none⟩) l.length c p cnt):=oq ▸ hB;have xE:w.grownBy w1 (some g):=oq ▸ vw (yu w _) _;have pu:Holds w1 H:=oq ▸ HH.out;rw[oq];clear oq c0 c1;have c0:=ws.cell 0 rfl;have c1:=ws.cell 1 rfl;go_wp2_with fail
 go_big_quiet (fail)
 go_wp2_with fail
 obtain⟨W,hW⟩:∃ W,w1.drewN nq=W:=⟨_,rfl⟩
 have Qg:Blk W g 107 (sR (some ⟨b,off,none⟩) l.length c p cnt):=hW ▸ ws;have Pv:w.grownBy W (some g):=hW ▸ vw xE _;have Np:Holds W H:=hW ▸ pu;rw[hW];clear hW c0 c1 hB ws xE pu;have E:Hid ((l.drop p).length=l.length-p):=List.length_drop;go_loopw [6,8,37] (fun v6 v8 v37 wr=>wr=W∧∃ k:Nat,k≤z∧v37=.int .i64 (k:Int)∧v6=.int .u64 (beN ((l.drop p).take k):Int)) (fun _ _ v37 _=>z-(intOf v37).toNat)
 case atStart=>exact⟨rfl,0,Nat.zero_le _,rfl,rfl⟩
 case round =>
 obtain⟨rfl,k,hk,rfl,rfl⟩:=hrel
 by_cases N4:k<z
 ·have sZ:p+k<l.length:=by have:=HL.out;omega
  have Le:(k:Int)<(z:Int):=by omega
  have pP:k<(l.drop p).length:=by have:=E.out;omega
  have q0:=Np.cell (HC.out (p+k) sZ);rw[← Nat.add_assoc]at q0;have ex:(l.drop p)[k]=l[p+k]:=by rw[List.getElem_drop]
  have hX:=lC (l.drop p) k (by have:=HZ.out;omega);have hS:=dW (l.drop p) k pP;rw[ex]at hS;obtain⟨X,qm⟩:∃ X,beN ((l.drop p).take k)=X:=⟨_,rfl⟩
  obtain⟨ch,rt⟩:∃ ch,l[p+k]=ch:=⟨_,rfl⟩
  rw[qm]at hX hS⊢;rw[rt]at hS q0;have lc:=ch.toNat_lt;have K2:IntKind.u64.wrap ((X:Int)*256)=(X:Int)*256:=by rw[IntKind.wrap_u64];omega
  have K3:bits .or .u64 ((X:Int)*256) (ch.toNat:Int)=((X*256+ch.toNat:Nat):Int):=lY X _ hX lc;have HS:=Hh hS;have rL:(k:Int)+1≤9223372036854775807:=by have:=HZ.out;omega
  clear hX hS qm rt ex pP;go_wp2_with fail
  go_roundw
  case rel=>exact⟨by trivial,k+1,by omega,by go_num,by rw[HS.out,Int.natCast_add,Int.natCast_mul];rfl⟩
  case measure=>simp[intOf];omega
 have cL:k=z:=by omega
 subst cL;have wi:¬ ((k:Int)<(k:Int)):=by omega
 have c1:=Qg.cell 1 rfl;obtain⟨X,qm⟩:∃ X,beN ((l.drop p).take k)=X:=⟨_,rfl⟩
 rw[qm];have HX:=Hh qm;clear qm;go_wp2_with (with_reducible refine zx ?_)
 refine zu rfl _ _ _ rfl rfl g 1 (.int .i64 ((p:Int)+(k:Int))) rfl rfl _ _ Qg zH (by simp) rfl fun w2 yU yq=>?_
 have yQ:=yk Pv yq (.inl rfl)
 have wL:Blk w2 g 107 (sR (some ⟨b,off,none⟩) l.length c (p+k) cnt):=by
  have e:((p+k:Nat):Int)=(p:Int)+(k:Int):=by omega
  rw[sR,e]
  exact yU
 clear yU yq Qg Pv c1;go_wp2_with fail
 go_ret2
 exact .inr ⟨HL.out,by rw[HX.out];rfl,wL,yQ⟩
def HeadSaid (T:TypeId) (w:World) (g:Nat) (A:Option Addr) (c:Nat) (l:List UInt8) (p cnt:Nat) (e:Ending) (w':World):Prop :=
 match zf (l.drop p) with
 | .error q=>e=.returned (.tuple #[.int .u8 0,.int .u64 0,.int .i64 (q:Int)])∧(∃ p',p'≤l.length∧Blk w' g T (sR A l.length c p' cnt))∧w.grownBy w' (some g)
 | .ok (f,n,k)=>e=.returned (.tuple #[.int .u8 (f:Int),.int .u64 (n:Int),.int .i64 0])∧Blk w' g T (sR A l.length c (p+k) cnt)∧w.grownBy w' (some g)
theorem HeadSaid.err {T:TypeId}{w w':World}{g:Nat}{A:Option Addr}{c:Nat}{l:List UInt8}{p cnt:Nat}{e:Ending}{q:Nat}(h:zf (l.drop p)=.error q) (he:e=.returned (.tuple #[.int .u8 0,.int .u64 0,.int .i64 (q:Int)]))
  (p':Nat) (hp:p'≤l.length) (hb:Blk w' g T (sR A l.length c p' cnt)) (hg:w.grownBy w' (some g)):HeadSaid T w g A c l p cnt e w':=by
 rw[HeadSaid,h];exact⟨he,⟨p',hp,hb⟩,hg⟩
theorem HeadSaid.ok {T:TypeId}{w w':World}{g:Nat}{A:Option Addr}{c:Nat}{l:List UInt8}{p cnt:Nat}{e:Ending}{f n k:Nat}(h:zf (l.drop p)=.ok (f,n,k)) (he:e=.returned (.tuple #[.int .u8 (f:Int),.int .u64 (n:Int),.int .i64 0]))
  (hb:Blk w' g T (sR A l.length c (p+k) cnt)) (hg:w.grownBy w' (some g)):HeadSaid T w g A c l p cnt e w':=by
 rw[HeadSaid,h];exact⟨he,hb,hg⟩
theorem oU:∀ X:Fin 256,bits .and .u8 ((X.val:Nat):Int) 31=((X.val%32:Nat):Int):=by decide
theorem uS {l:List UInt8}{p:Nat}(hp:p<l.length):l.drop p=l[p]::l.drop (p+1):=List.drop_eq_getElem_cons hp
theorem rN {w:World}{g:Nat}{H:Snap}{A:Option Addr}{c:Nat}{l:List UInt8}{p cnt:Nat}(hP:Psr 107 w g H A c l p cnt) :
  Calls Tryz.prog 103 #[.pointer (some ⟨g,0,none⟩)] w (HeadSaid 107 w g A c l p cnt):=by
 have hB:=hP.blk;have c0:=hB.cell 0 rfl;have c1:=hB.cell 1 rfl;have na:=hP.le;have qI:=hP.small;have uA:=hP.bytes.le;have nX:=hP.bytes.max;have HP:=Hh hP
 by_cases ye:p=l.length
 ·have E:Hid (zf (l.drop p)=.error 2):=by rw[Hid,ye,List.drop_length];rfl
  have z0:((p:Int)==(l.length:Int))=true:=by simp[ye]
  have HL:=Hh na;clear na qI uA nX hP ye;go_enter Tryz.func103,Tryz.ntmps103
  go_wp2_with fail
  go_big_quiet (fail)
  go_wp2_with fail
  go_ret3
  exact HeadSaid.err E.out rfl p HL.out hB (vw (yu w _) _)
 have z0:((p:Int)==(l.length:Int))=false:=by simp;omega
 have ur:p<l.length:=by omega
 have lp:(p:Int)<(l.length:Int):=by omega
 have iZ:(0:Int)≤(p:Int):=by omega
 have OG:(p:Int)+1≤9223372036854775807:=by omega
 obtain⟨b,off,rfl,xw⟩:=hP.bytes.at_ (by omega);have HC:=Hh xw;have HH:=Hh hP.holds;have q0:=hP.holds.cell (xw p ur);have ED:=Hh (uS ur);obtain⟨ch,rt⟩:∃ ch,l[p]=ch:=⟨_,rfl⟩
 rw[rt]at q0 ED;have lc:=ch.toNat_lt;have KA:=oU ⟨ch.toNat,lc⟩
 simp only at KA
 obtain⟨low,yN⟩:∃ low,ch.toNat%32=low:=⟨_,rfl⟩
 rw[yN]at KA;have yw:=Hh yN;have UR:low<32:=by omega
 have HL:=Hh (And.intro ur (And.intro qI (And.intro uA nX)))
 have EH:Hid (zf (l.drop p)=if 27<low then .error 3 else if low<24 then .ok (ch.toNat,low,1) else if(l.drop (p+1)).length<2 ^ (low-24) then .error 2
   else if ch.toNat/32<7∧(zh 0 (beN ((l.drop (p+1)).take (2 ^ (low-24))))).length≠1+2 ^ (low-24) then .error 4
   else .ok (ch.toNat,beN ((l.drop (p+1)).take (2 ^ (low-24))),1+2 ^ (low-24))):=by rw[Hid,ED.out,zf,yN]
 clear na qI uA nX hP ye xw rt yN ur ED lc;go_enter Tryz.func103,Tryz.ntmps103
 go_wp2_with fail
 go_big_quiet (fail)
 obtain⟨w1,oq⟩:∃ W,w.drewN nq=W:=⟨_,rfl⟩
 have ws:Blk w1 g 107 (sR (some ⟨b,off,none⟩) l.length c p cnt):=oq ▸ hB;have xE:w.grownBy w1 (some g):=oq ▸ vw (yu w _) _;have pu:Holds w1 H:=oq ▸ HH.out;have q1:w1.cell? ⟨b,off+p,none⟩=some (zI ch):=oq ▸ q0;rw[oq];clear oq c0 c1 q0 hB;have c0:=ws.cell 0 rfl;have c1:=ws.cell 1 rfl;go_upto_region 3 with fail
 go_big_quiet (fail)
 obtain⟨w2,mN⟩:∃ W,w1.drewN nq=W:=⟨_,rfl⟩
 have yU:Blk w2 g 107 (sR (some ⟨b,off,none⟩) l.length c p cnt):=mN ▸ ws;have yq:w.grownBy w2 (some g):=mN ▸ vw xE _;have po:Holds w2 H:=mN ▸ pu;rw[mN];clear mN c0 c1 ws xE pu q1;have c1:=yU.cell 1 rfl
 by_cases sV:27<low
 ·have z27:(27:Int)<(low:Int):=by omega
  have E:Hid (zf (l.drop p)=.error 3):=by rw[Hid,EH.out,if_pos sV]
  go_wp2_with fail
  go_ret3
  exact HeadSaid.err E.out rfl p (Nat.le_of_lt HL.out.1) yU yq
 have z27:¬ ((27:Int)<(low:Int)):=by omega
 have E1:Hid (zf (l.drop p)=if low<24 then .ok (ch.toNat,low,1) else if(l.drop (p+1)).length<2 ^ (low-24) then .error 2
   else if ch.toNat/32<7∧(zh 0 (beN ((l.drop (p+1)).take (2 ^ (low-24))))).length≠1+2 ^ (low-24) then .error 4
   else .ok (ch.toNat,beN ((l.drop (p+1)).take (2 ^ (low-24))),1+2 ^ (low-24))):=by rw[Hid,EH.out,if_neg sV]
 clear EH;have K1:IntKind.i64.wrap ((p:Int)+1)=(p:Int)+1:=IntWalk.i64_in _ (by omega);go_wp2_with (with_reducible refine zx ?_)
 refine zu rfl _ _ _ rfl rfl g 1 (.int .i64 ((p:Int)+1)) rfl rfl _ _ yU zH (by simp) rfl fun w3 wL hG3'=>?_
 have yQ:=yk yq hG3' (.inl rfl);have wL:Blk w3 g 107 (sR (some ⟨b,off,none⟩) l.length c (p+1) cnt):=wL;have TP:Holds w3 H:=po.grown hG3' (by rintro q ⟨⟩;exact HP.out.apart);clear yU yq hG3' c1 po K1
 by_cases te:low<24
 ·have z24:(low:Int)<24:=by omega
  have E:Hid (zf (l.drop p)=.ok (ch.toNat,low,1)):=by rw[Hid,E1.out,if_pos te]
  have KU:IntKind.u64.wrap (low:Int)=(low:Int):=by rw[IntKind.wrap_u64];omega
  go_wp2_with fail
  go_ret3
  exact HeadSaid.ok E.out rfl wL yQ
 have z24:¬ ((low:Int)<24):=by omega
 have E2:Hid (zf (l.drop p)=if(l.drop (p+1)).length<2 ^ (low-24) then .error 2
   else if ch.toNat/32<7∧(zh 0 (beN ((l.drop (p+1)).take (2 ^ (low-24))))).length≠1+2 ^ (low-24) then .error 4
   else .ok (ch.toNat,beN ((l.drop (p+1)).take (2 ^ (low-24))),1+2 ^ (low-24))):=by rw[Hid,E1.out,if_neg te]
 clear E1;have XT:Psr 107 w3 g H (some ⟨b,off,none⟩) c l (p+1) cnt:=⟨wL,HP.out.bytes,TP,HP.out.apart,HL.out.1,HP.out.small,HP.out.cnt_le⟩
 rcases(by omega:low=24∨low=25∨low=26∨low=27) with rfl | rfl | rfl | rfl
 ·have NM:=Hh (mv XT 1 (by omega) (by omega))
  simp only[Nat.reduceSub,Nat.reducePow,Nat.reduceAdd]at E2
  clear sV te z27 z24 UR XT;go_wp2_with fail
  refine NM.out.mono ?_
  rintro e w4 (⟨hs,rfl,oH,wh⟩ | ⟨hs,rfl,oH,wh⟩)
  ·have E:Hid (zf (l.drop p)=.error 2):=by rw[Hid,E2.out,if_pos (by rw[List.length_drop];have:=HL.out.1;omega)]
   have xM:=yk yQ wh (.inl rfl);clear NM hs;go_wp2_with fail
   go_ret3
   exact HeadSaid.err E.out rfl (p+1) HL.out.1 oH xM
  have E3:Hid (zf (l.drop p)=if ch.toNat/32<7∧(zh 0 (beN ((l.drop (p+1)).take 1))).length≠2 then .error 4 else .ok (ch.toNat,beN ((l.drop (p+1)).take 1),2)):=by
   rw[Hid,E2.out,if_neg (by rw[List.length_drop];have:=HL.out.1;omega)]
  have xM:=yk yQ wh (.inl rfl);have xi:=xx ((l.drop (p+1)).take 1);have wi:((l.drop (p+1)).take 1).length=1:=by rw[List.length_take,List.length_drop];omega
  rw[wi]at xi
  simp only[Nat.reducePow]at xi
  obtain⟨n,hn⟩:∃ n,beN ((l.drop (p+1)).take 1)=n:=⟨_,rfl⟩
  rw[hn]at E3 xi⊢;have HD:=Hh (fun w=>sG 0 (n:Int) w (by omega) (by omega) (by omega) (by omega));have HS:=Hh hs;have sb:Blk w4 g 107 (sR (some ⟨b,off,none⟩) l.length c (p+2) cnt):=oH;clear NM hs E2 hn wi xi oH wh
  by_cases h7:ch.toNat/32<7
  ·have z7:(ch.toNat:Int)/32<7:=by omega
   have E4:Hid (zf (l.drop p)=if(zh 0 n).length≠2 then .error 4 else .ok (ch.toNat,n,2)):=by
    rw[Hid,E3.out]
    by_cases h:(zh 0 n).length=2 <;> simp[h,h7]
   clear E3 h7;go_wp2_with fail
   refine(HD.out _).mono ?_
   rintro e w5 ⟨r,rfl,hf⟩
   have yK:=sb.below hf.2;have zP:=wP xM hf.2;obtain⟨RA,rc,rfl,_⟩:=hf.own.form;obtain⟨hn,bn⟩:∃ hn,(zh (0:Int).toNat (n:Int).toNat).length=hn:=⟨_,rfl⟩
   rw[bn];have E5:Hid (zf (l.drop p)=if hn≠2 then .error 4 else .ok (ch.toNat,n,2)):=by rw[Hid,E4.out,← bn];rfl
   clear hf HD E4 bn sb xM
   by_cases hq:hn=2
   ·subst hq;have E:Hid (zf (l.drop p)=.ok (ch.toNat,n,2)):=by rw[Hid,E5.out,if_neg (by simp)]
    clear E5;go_wp2_with fail
    go_ret3
    exact HeadSaid.ok E.out rfl yK zP
   have zq:((hn:Int)==2)=false:=by simp;omega
   have zq2:((hn:Int)=2)=False:=eq_false (by omega);have E:Hid (zf (l.drop p)=.error 4):=by rw[Hid,E5.out,if_pos hq]
   clear E5 hq z0 OG lp iZ KA;go_wp2_with fail
   go_ret3
   exact HeadSaid.err E.out rfl (p+2) (by have:=HS.out;omega) yK zP
  have z7:¬ ((ch.toNat:Int)/32<7):=by omega
  have z7b:decide ((ch.toNat:Int)/32<7)=false:=decide_eq_false z7;have E:Hid (zf (l.drop p)=.ok (ch.toNat,n,2)):=by rw[Hid,E3.out,if_neg (fun h=>h7 h.1)]
  clear E3 h7 HD z7 z0;go_wp2_with fail
  go_ret3
  exact HeadSaid.ok E.out rfl sb xM
 ·have NM:=Hh (mv XT 2 (by omega) (by omega))
  simp only[Nat.reduceSub,Nat.reducePow,Nat.reduceAdd]at E2
  clear sV te z27 z24 UR XT;go_wp2_with fail
  refine NM.out.mono ?_
  rintro e w4 (⟨hs,rfl,oH,wh⟩ | ⟨hs,rfl,oH,wh⟩)
  ·have E:Hid (zf (l.drop p)=.error 2):=by rw[Hid,E2.out,if_pos (by rw[List.length_drop];have:=HL.out.1;omega)]
   have xM:=yk yQ wh (.inl rfl);clear NM hs;go_wp2_with fail
   go_ret3
   exact HeadSaid.err E.out rfl (p+1) HL.out.1 oH xM
  have E3:Hid (zf (l.drop p)=if ch.toNat/32<7∧(zh 0 (beN ((l.drop (p+1)).take 2))).length≠3 then .error 4 else .ok (ch.toNat,beN ((l.drop (p+1)).take 2),3)):=by
   rw[Hid,E2.out,if_neg (by rw[List.length_drop];have:=HL.out.1;omega)]
  have xM:=yk yQ wh (.inl rfl);have xi:=xx ((l.drop (p+1)).take 2);have wi:((l.drop (p+1)).take 2).length=2:=by rw[List.length_take,List.length_drop];omega
  rw[wi]at xi
  simp only[Nat.reducePow]at xi
  obtain⟨n,hn⟩:∃ n,beN ((l.drop (p+1)).take 2)=n:=⟨_,rfl⟩
  rw[hn]at E3 xi⊢;have HD:=Hh (fun w=>sG 0 (n:Int) w (by omega) (by omega) (by omega) (by omega));have HS:=Hh hs;have sb:Blk w4 g 107 (sR (some ⟨b,off,none⟩) l.length c (p+3) cnt):=oH;clear NM hs E2 hn wi xi oH wh
  by_cases h7:ch.toNat/32<7
  ·have z7:(ch.toNat:Int)/32<7:=by omega
   have E4:Hid (zf (l.drop p)=if(zh 0 n).length≠3 then .error 4 else .ok (ch.toNat,n,3)):=by
    rw[Hid,E3.out]
    by_cases h:(zh 0 n).length=3 <;> simp[h,h7]
   clear E3 h7;go_wp2_with fail
   refine(HD.out _).mono ?_
   rintro e w5 ⟨r,rfl,hf⟩
   have yK:=sb.below hf.2;have zP:=wP xM hf.2;obtain⟨RA,rc,rfl,_⟩:=hf.own.form;obtain⟨hn,bn⟩:∃ hn,(zh (0:Int).toNat (n:Int).toNat).length=hn:=⟨_,rfl⟩
   rw[bn];have E5:Hid (zf (l.drop p)=if hn≠3 then .error 4 else .ok (ch.toNat,n,3)):=by rw[Hid,E4.out,← bn];rfl
   clear hf HD E4 bn sb xM
   by_cases hq:hn=3
   ·subst hq;have E:Hid (zf (l.drop p)=.ok (ch.toNat,n,3)):=by rw[Hid,E5.out,if_neg (by simp)]
    clear E5;go_wp2_with fail
    go_ret3
    exact HeadSaid.ok E.out rfl yK zP
   have zq:((hn:Int)==3)=false:=by simp;omega
   have zq2:((hn:Int)=3)=False:=eq_false (by omega);have E:Hid (zf (l.drop p)=.error 4):=by rw[Hid,E5.out,if_pos hq]
   clear E5 hq z0 OG lp iZ KA;go_wp2_with fail
   go_ret3
   exact HeadSaid.err E.out rfl (p+3) (by have:=HS.out;omega) yK zP
  have z7:¬ ((ch.toNat:Int)/32<7):=by omega
  have z7b:decide ((ch.toNat:Int)/32<7)=false:=decide_eq_false z7;have E:Hid (zf (l.drop p)=.ok (ch.toNat,n,3)):=by rw[Hid,E3.out,if_neg (fun h=>h7 h.1)]
  clear E3 h7 HD z7 z0;go_wp2_with fail
  go_ret3
  exact HeadSaid.ok E.out rfl sb xM
 ·have NM:=Hh (mv XT 4 (by omega) (by omega))
  simp only[Nat.reduceSub,Nat.reducePow,Nat.reduceAdd]at E2
  clear sV te z27 z24 UR XT;go_wp2_with fail
  refine NM.out.mono ?_
  rintro e w4 (⟨hs,rfl,oH,wh⟩ | ⟨hs,rfl,oH,wh⟩)
  ·have E:Hid (zf (l.drop p)=.error 2):=by rw[Hid,E2.out,if_pos (by rw[List.length_drop];have:=HL.out.1;omega)]
   have xM:=yk yQ wh (.inl rfl);clear NM hs;go_wp2_with fail
   go_ret3
   exact HeadSaid.err E.out rfl (p+1) HL.out.1 oH xM
  have E3:Hid (zf (l.drop p)=if ch.toNat/32<7∧(zh 0 (beN ((l.drop (p+1)).take 4))).length≠5 then .error 4 else .ok (ch.toNat,beN ((l.drop (p+1)).take 4),5)):=by
   rw[Hid,E2.out,if_neg (by rw[List.length_drop];have:=HL.out.1;omega)]
  have xM:=yk yQ wh (.inl rfl);have xi:=xx ((l.drop (p+1)).take 4);have wi:((l.drop (p+1)).take 4).length=4:=by rw[List.length_take,List.length_drop];omega
  rw[wi]at xi
  simp only[Nat.reducePow]at xi
  obtain⟨n,hn⟩:∃ n,beN ((l.drop (p+1)).take 4)=n:=⟨_,rfl⟩
  rw[hn]at E3 xi⊢;have HD:=Hh (fun w=>sG 0 (n:Int) w (by omega) (by omega) (by omega) (by omega));have HS:=Hh hs;have sb:Blk w4 g 107 (sR (some ⟨b,off,none⟩) l.length c (p+5) cnt):=oH;clear NM hs E2 hn wi xi oH wh
  by_cases h7:ch.toNat/32<7
  ·have z7:(ch.toNat:Int)/32<7:=by omega
   have E4:Hid (zf (l.drop p)=if(zh 0 n).length≠5 then .error 4 else .ok (ch.toNat,n,5)):=by
    rw[Hid,E3.out]
    by_cases h:(zh 0 n).length=5 <;> simp[h,h7]
   clear E3 h7;go_wp2_with fail
   refine(HD.out _).mono ?_
   rintro e w5 ⟨r,rfl,hf⟩
   have yK:=sb.below hf.2;have zP:=wP xM hf.2;obtain⟨RA,rc,rfl,_⟩:=hf.own.form;obtain⟨hn,bn⟩:∃ hn,(zh (0:Int).toNat (n:Int).toNat).length=hn:=⟨_,rfl⟩
   rw[bn];have E5:Hid (zf (l.drop p)=if hn≠5 then .error 4 else .ok (ch.toNat,n,5)):=by rw[Hid,E4.out,← bn];rfl
   clear hf HD E4 bn sb xM
   by_cases hq:hn=5
   ·subst hq;have E:Hid (zf (l.drop p)=.ok (ch.toNat,n,5)):=by rw[Hid,E5.out,if_neg (by simp)]
    clear E5;go_wp2_with fail
    go_ret3
    exact HeadSaid.ok E.out rfl yK zP
   have zq:((hn:Int)==5)=false:=by simp;omega
   have zq2:((hn:Int)=5)=False:=eq_false (by omega);have E:Hid (zf (l.drop p)=.error 4):=by rw[Hid,E5.out,if_pos hq]
   clear E5 hq z0 OG lp iZ KA;go_wp2_with fail
   go_ret3
   exact HeadSaid.err E.out rfl (p+5) (by have:=HS.out;omega) yK zP
  have z7:¬ ((ch.toNat:Int)/32<7):=by omega
  have z7b:decide ((ch.toNat:Int)/32<7)=false:=decide_eq_false z7;have E:Hid (zf (l.drop p)=.ok (ch.toNat,n,5)):=by rw[Hid,E3.out,if_neg (fun h=>h7 h.1)]
  clear E3 h7 HD z7 z0;go_wp2_with fail
  go_ret3
  exact HeadSaid.ok E.out rfl sb xM
 have NM:=Hh (mv XT 8 (by omega) (by omega))
 simp only[Nat.reduceSub,Nat.reducePow,Nat.reduceAdd]at E2
 clear sV te z27 z24 UR XT;go_wp2_with fail
 refine NM.out.mono ?_
 rintro e w4 (⟨hs,rfl,oH,wh⟩ | ⟨hs,rfl,oH,wh⟩)
 ·have E:Hid (zf (l.drop p)=.error 2):=by rw[Hid,E2.out,if_pos (by rw[List.length_drop];have:=HL.out.1;omega)]
  have xM:=yk yQ wh (.inl rfl);clear NM hs;go_wp2_with fail
  go_ret3
  exact HeadSaid.err E.out rfl (p+1) HL.out.1 oH xM
 have E3:Hid (zf (l.drop p)=if ch.toNat/32<7∧(zh 0 (beN ((l.drop (p+1)).take 8))).length≠9 then .error 4 else .ok (ch.toNat,beN ((l.drop (p+1)).take 8),9)):=by
  rw[Hid,E2.out,if_neg (by rw[List.length_drop];have:=HL.out.1;omega)]
 have xM:=yk yQ wh (.inl rfl);have xi:=xx ((l.drop (p+1)).take 8);have wi:((l.drop (p+1)).take 8).length=8:=by rw[List.length_take,List.length_drop];omega
 rw[wi]at xi
 simp only[Nat.reducePow]at xi
 obtain⟨n,hn⟩:∃ n,beN ((l.drop (p+1)).take 8)=n:=⟨_,rfl⟩
 rw[hn]at E3 xi⊢;have HD:=Hh (fun w=>sG 0 (n:Int) w (by omega) (by omega) (by omega) (by omega));have HS:=Hh hs;have sb:Blk w4 g 107 (sR (some ⟨b,off,none⟩) l.length c (p+9) cnt):=oH;clear NM hs E2 hn wi xi oH wh
 by_cases h7:ch.toNat/32<7
 ·have z7:(ch.toNat:Int)/32<7:=by omega
  have E4:Hid (zf (l.drop p)=if(zh 0 n).length≠9 then .error 4 else .ok (ch.toNat,n,9)):=by
   rw[Hid,E3.out]
   by_cases h:(zh 0 n).length=9 <;> simp[h,h7]
  clear E3 h7;go_wp2_with fail
  refine(HD.out _).mono ?_
  rintro e w5 ⟨r,rfl,hf⟩
  have yK:=sb.below hf.2;have zP:=wP xM hf.2;obtain⟨RA,rc,rfl,_⟩:=hf.own.form;obtain⟨hn,bn⟩:∃ hn,(zh (0:Int).toNat (n:Int).toNat).length=hn:=⟨_,rfl⟩
  rw[bn];have E5:Hid (zf (l.drop p)=if hn≠9 then .error 4 else .ok (ch.toNat,n,9)):=by rw[Hid,E4.out,← bn];rfl
  clear hf HD E4 bn sb xM
  by_cases hq:hn=9
  ·subst hq;have E:Hid (zf (l.drop p)=.ok (ch.toNat,n,9)):=by rw[Hid,E5.out,if_neg (by simp)]
   clear E5;go_wp2_with fail
   go_ret3
   exact HeadSaid.ok E.out rfl yK zP
  have zq:((hn:Int)==9)=false:=by simp;omega
  have zq2:((hn:Int)=9)=False:=eq_false (by omega);have E:Hid (zf (l.drop p)=.error 4):=by rw[Hid,E5.out,if_pos hq]
  clear E5 hq z0 OG lp iZ KA;go_wp2_with fail
  go_ret3
  exact HeadSaid.err E.out rfl (p+9) (by have:=HS.out;omega) yK zP
 have z7:¬ ((ch.toNat:Int)/32<7):=by omega
 have z7b:decide ((ch.toNat:Int)/32<7)=false:=decide_eq_false z7;have E:Hid (zf (l.drop p)=.ok (ch.toNat,n,9)):=by rw[Hid,E3.out,if_neg (fun h=>h7 h.1)]
 clear E3 h7 HD z7 z0;go_wp2_with fail
 go_ret3
 exact HeadSaid.ok E.out rfl sb xM
theorem kX (n:Nat) (w:World):(callFunc 132 #[.int .u32 (n:Int)]).run Tryz.prog w=.ok (.value (.float .f32 n)) w:=by
 rw[run_callFunc_extern Tryz.func132 (by kernel_rfl) (by kernel_rfl) (by kernel_rfl) (e:=Extern.MathFloatBits.float32frombits) (by kernel_rfl)];rfl
theorem aw {r:Nat}(hr:r<4294967296) (h:r/8388608%256=255∧r%8388608≠0):(Ieee.single.read r).isNaN=true:=by
 have e1:Ieee.single.signWeight=2147483648:=rfl;have e2:Ieee.single.binade=8388608:=rfl;have e3:Ieee.single.infRung=2139095040:=rfl;obtain⟨h1,h2⟩:=h
 unfold Ieee.Format.read
 rw[e1,e2,e3]
 simp only[show ¬ r%2147483648<8388608 by omega,show ¬ r%2147483648<2139095040 by omega,show ¬ r%2147483648=2139095040 by omega,if_false]
 rfl
theorem aA (r:Nat) (hr:r<4294967296) (w:World):∃ m w',(convert 130 128 (.float .f32 r)).run Tryz.prog w=.ok (.float .f64 m) w'∧(w'=w∨w'=w.drew)∧m<18446744073709551616∧
  ((r/8388608%256=255∧r%8388608≠0)→isNaN m=true)∧(¬ (r/8388608%256=255∧r%8388608≠0)→m=wg r):=by
 have hs:Tryz.prog.underlying 130=some (.float .f32):=Tryz.underlying130;have hd:Tryz.prog.underlying 128=some (.float .f64):=Tryz.underlying128
 by_cases hx:r/8388608%256=255∧r%8388608≠0
 ·have hn:=aw hr hx
  cases hq:FloatKind.decode .f32 r with
  | number a b c =>
   have h':Ieee.single.read r=.number a b c:=hq;rw[h']at hn;cases hn
  | infinity a =>
   have h':Ieee.single.read r=.infinity a:=hq;rw[h']at hn;cases hn
  | nan a b =>
  have km:isNaN ((Question.nanConv .f64 r).cut (w.tape w.drawn (Question.nanConv .f64 r)))=true∧((Question.nanConv .f64 r).cut (w.tape w.drawn (Question.nanConv .f64 r)))<18446744073709551616:=by
   rw[lu];show((_%2*2 ^ 63+0x7ff0000000000000+1+_/2%(2 ^ 52-1))/2 ^ 52%2048=2047∧_)∧_
   generalize w.tape w.drawn (Question.nanConv .f64 r)=t
   show((t%2*2 ^ 63+0x7ff0000000000000+1+t/2%(2 ^ 52-1))/2 ^ 52%2048=2047∧(t%2*2 ^ 63+0x7ff0000000000000+1+t/2%(2 ^ 52-1))%2 ^ 52≠0)∧t%2*2 ^ 63+0x7ff0000000000000+1+t/2%(2 ^ 52-1)<18446744073709551616
   generalize t/2=u
   have:t%2=0∨t%2=1:=by omega
   rcases this with h | h <;> rw[h] <;> simp only[Nat.reducePow,Nat.reduceSub,Nat.reduceMul,Nat.reduceAdd,Nat.zero_add] <;> omega
  refine⟨(Question.nanConv .f64 r).cut (w.tape w.drawn (Question.nanConv .f64 r)),w.drew, ?_,.inr rfl,km.2,fun _=>km.1,fun h=>absurd hx h⟩
  simp[convert,run_underlying hs,run_underlying hd,Conv.floatToFloat,hq,Question.forced]
 obtain⟨Zc,ye⟩:=qY hr hx;have hw:=fX Zc;have Uw:(Tryz.prog.underlying 130).isSome=true:=by rw[hs];rfl
 exact⟨wg r,w,run_convert_float_float (P:=Tryz.prog) (w:=w) 130 128 .f32 .f64 r _ Uw hd hw,.inl rfl,ye,fun h=>absurd h hx,fun _=>rfl⟩
abbrev gn:Value:=.agg #[.int .i64 0,.int .u64 0,.slice none 0 0,.slice none 0 0]
def SevenSaid (w:World) (low n:Nat) (e:Ending) (w':World):Prop :=
 Below w.heap.size w w'∧match yZ low n with
  | .error q=>e=.returned (.tuple #[gn,.int .i64 (q:Int)])
  | .ok x=>e=.returned (.tuple #[xj x none 0 none 0,.int .i64 0])
theorem SevenSaid.err {w w':World}{low n q:Nat}{e:Ending}(h:yZ low n=.error q) (he:e=.returned (.tuple #[gn,.int .i64 (q:Int)])) (hb:Below w.heap.size w w'):SevenSaid w low n e w':=by
 rw[SevenSaid,h];exact⟨hb,he⟩
theorem SevenSaid.ok {w w':World}{low n:Nat}{x:Itm}{e:Ending}(h:yZ low n=.ok x) (he:e=.returned (.tuple #[xj x none 0 none 0,.int .i64 0])) (hb:Below w.heap.size w w'):SevenSaid w low n e w':=by
 rw[SevenSaid,h];exact⟨hb,he⟩
theorem qr (low n:Nat) (h:25≤low):yZ low n=if(isNaN (uu low n)&&uu low n != zJ)||(zK (uu low n)).length != 1+2 ^ (low-24) then .error 4 else .ok (.mk 8 (uu low n) [] []):=by
 rw[yZ,if_neg (by omega),if_neg (by omega)]
theorem Yf {v:Nat}(hv:v<65536):wZ v<18446744073709551616:=by
 rw[wZ]
 split
 ·decide
 rename_i h;exact(qX hv h).2
theorem oN:isNaN zJ=true:=by decide +kernel
theorem U9 {n:Nat}(hn:n<65536):yZ 25 n=if wZ n=zJ∧n≠32256 then .error 4 else if(zK (wZ n)).length≠3 then .error 4 else .ok (.mk 8 (wZ n) [] []):=by
 rw[qr 25 n (by omega),show uu 25 n=xR n by rw[uu,if_pos rfl]]
 by_cases hx:n/1024%32=31∧n%1024≠0
 ·obtain⟨q1,q2⟩:=jR hn hx;have hq:wZ n=zJ:=by rw[wZ,if_pos hx]
  rw[hq,q1]
  by_cases h:n=32256
  ·have h5:=q2.2 h;have L:(zK zJ).length=3:=by rw[ts oN];rfl
   rw[h5,L]
   simp[h]
  have h5:xR n≠zJ:=fun h'=>h (q2.1 h')
  have b5:(xR n != zJ)=true:=by rw[bne_iff_ne];exact h5
  rw[b5]
  simp[h]
 obtain⟨q1,q2⟩:=qX hn hx;have q3:=mV q1;have hq:wZ n=xR n:=by rw[wZ,if_neg hx]
 have xH:xR n≠zJ:=fun h=>by rw[h,oN]at q3;cases q3
 rw[hq,q3]
 generalize xR n=D at *
 simp[xH]
theorem UA {n m:Nat}(hn:n<4294967296) (h1:(n/8388608%256=255∧n%8388608≠0)→isNaN m=true) (h2:¬ (n/8388608%256=255∧n%8388608≠0)→m=wg n) :
  yZ 26 n=if(zK m).length≠5 then .error 4 else .ok (.mk 8 m [] []):=by
 rw[qr 26 n (by omega),show uu 26 n=wg n by rw[uu,if_neg (by omega),if_pos rfl]]
 by_cases hx:n/8388608%256=255∧n%8388608≠0
 ·have q1:=jS hn hx;have L1:(zK (wg n)).length=3:=by rw[ts q1];rfl
  have L2:(zK m).length=3:=by rw[ts (h1 hx)];rfl
  rw[L1,L2]
  simp
 obtain⟨q1,q2⟩:=qY hn hx;have q3:=mW q1;rw[h2 hx,q3]
 generalize wg n=D at *
 simp
theorem UB {n:Nat}:yZ 27 n=if(zK n).length≠9 then .error 4 else .ok (.mk 8 n [] []):=by
 rw[qr 27 n (by omega),show uu 27 n=n by rw[uu,if_neg (by omega),if_neg (by omega)]]
 cases h:isNaN n with
 | true =>
  have L:(zK n).length=3:=by rw[ts h];rfl
  rw[L];simp
 | false=>simp
theorem Zy (f n:Nat) (hf:f<256) (yN:f%32≤27) (hn:n<18446744073709551616) (Uz:f%32=25→n<65536) (h26:f%32=26→n<4294967296) (w:World) :
  Calls Tryz.prog 104 #[.int .u8 (f:Int),.int .u64 (n:Int)] w (SevenSaid w (f%32) n):=by
 have KA:=oU ⟨f,hf⟩
 simp only at KA
 obtain⟨low,hl⟩:∃ low,f%32=low:=⟨_,rfl⟩
 rw[hl]at KA yN Uz h26⊢;have ed:=Blk.new w 57 #[.int .i64 0,.int .u64 0,.slice none 0 0,.slice none 0 0];have vL:=zi w zg;have HN:=Hh hn;have Gr:=Hh Uz;have Gs:=Hh h26;clear hn Uz h26 hl hf
 by_cases te:low<24
 ·have e1:((low:Int)==24)=false:=by simp;omega
  have e2:((low:Int)==25)=false:=by simp;omega
  have e3:((low:Int)==26)=false:=by simp;omega
  have e4:((low:Int)==27)=false:=by simp;omega
  have p1:((low:Int)=24)=False:=eq_false (by omega);have p2:((low:Int)=25)=False:=eq_false (by omega);have p3:((low:Int)=26)=False:=eq_false (by omega);have p4:((low:Int)=27)=False:=eq_false (by omega);have E:Hid (yZ low n=.ok (.mk 7 n [] [])):=by rw[Hid,yZ,if_pos te]
  clear yN te;go_enter Tryz.func104,Tryz.ntmps104
  go_wp2_with (with_reducible refine zx ?_)
  refine stI ed fun wz hTy zT=>?_
  have yX:=yg vL zT (by rintro q ⟨⟩;exact Nat.le_refl _);go_wp2_with fail
  refine zw rfl rfl hTy rfl rfl zv rfl ?_
  exact SevenSaid.ok E.out rfl yX
 rcases(by omega:low=24∨low=25∨low=26∨low=27) with rfl | rfl | rfl | rfl
 ·by_cases h32:n<32
  ·have z32:(n:Int)<32:=by omega
   have E:Hid (yZ 24 n=.error 4):=by rw[Hid,yZ,if_neg (by omega),if_pos rfl,if_pos h32]
   clear h32 yN te;go_enter Tryz.func104,Tryz.ntmps104
   go_wp2_with (with_reducible refine zx ?_)
   refine stI ed fun wz hTy zT=>?_
   have yX:=yg vL zT (by rintro q ⟨⟩;exact Nat.le_refl _);go_wp2_with fail
   refine zw rfl rfl hTy rfl rfl zv rfl ?_
   exact SevenSaid.err E.out rfl yX
  have z32:¬ ((n:Int)<32):=by omega
  have E:Hid (yZ 24 n=.ok (.mk 7 n [] [])):=by rw[Hid,yZ,if_neg (by omega),if_pos rfl,if_neg h32]
  clear h32 yN te;go_enter Tryz.func104,Tryz.ntmps104
  go_wp2_with (with_reducible refine zx ?_)
  refine stI ed fun wz hTy zT=>?_
  have yX:=yg vL zT (by rintro q ⟨⟩;exact Nat.le_refl _);go_wp2_with fail
  refine zw rfl rfl hTy rfl rfl zv rfl ?_
  exact SevenSaid.ok E.out rfl yX
 ·have hn:=Gr.out rfl;have K1:IntKind.u16.wrap (n:Int)=(n:Int):=IntWalk.u16_in _ (by omega);have FL:=Hh (fun w=>tT (wZ n) (Yf hn) w);have E0:=Hh (U9 hn);obtain⟨D,hD⟩:∃ D,wZ n=D:=⟨_,rfl⟩
  have WD:=Hh (show ∀ w,Calls Tryz.prog 131 #[.int .u16 (n:Int)] w fun e w'=>e=.returned (.int .u64 (D:Int))∧w'=w from fun w=>by
   have h:=Zz n hn w
   unfold WF at h
   rw[hD]at h
   exact h)
  rw[hD]at FL E0;clear hn hD yN te
  by_cases hc:D=zJ∧n≠32256
  ·have c1:((D:Int)==9221120237041090560)=true:=by rw[hc.1];rfl
   have c2:((n:Int) != 32256)=true:=by rw[bne_iff_ne];omega
   have c1':((D:Int)=9221120237041090560)=True:=eq_true (by rw[hc.1];rfl);have c2':((n:Int)=32256)=False:=eq_false (by omega);have E:Hid (yZ 25 n=.error 4):=by rw[Hid,E0.out,if_pos hc]
   clear hc E0 FL;go_enter Tryz.func104,Tryz.ntmps104
   go_wp2_with fail
   refine(WD.out _).mono ?_
   rintro e w1 ⟨rfl,rfl⟩
   go_wp2_with (with_reducible refine zx ?_)
   refine stI ed fun wz hTy zT=>?_
   have yX:=yg vL zT (by rintro q ⟨⟩;exact Nat.le_refl _);go_wp2_with fail
   refine zw rfl rfl hTy rfl rfl zv rfl ?_
   exact SevenSaid.err E.out rfl yX
  have E1:Hid (yZ 25 n=if(zK D).length≠3 then .error 4 else .ok (.mk 8 D [] [])):=by rw[Hid,E0.out,if_neg hc]
  clear E0
  by_cases hD:D=zJ
  ·have Zj:n=32256:=Classical.byContradiction fun h=>hc ⟨hD,h⟩
   have c1:((D:Int)==9221120237041090560)=true:=by rw[hD];rfl
   have c1':((D:Int)=9221120237041090560)=True:=eq_true (by rw[hD];rfl);have c2:((n:Int) != 32256)=false:=by rw[Zj];rfl
   have c2':((n:Int)=32256)=True:=eq_true (by rw[Zj];rfl);clear hc hD Zj;go_enter Tryz.func104,Tryz.ntmps104
   go_wp2_with fail
   refine(WD.out _).mono ?_
   rintro e w1 ⟨rfl,rfl⟩
   go_wp2_with fail
   refine(FL.out _).mono ?_
   rintro e w3 ⟨r,rfl,fv⟩
   obtain⟨RA,rc,rfl,_⟩:=fv.own.form;have wL:=ed.below fv.2;have uy:=vL.trans (fv.2.mono vL.size);obtain⟨fl,vq⟩:∃ fl,(zK D).length=fl:=⟨_,rfl⟩
   rw[vq]at E1⊢;clear fv vq FL
   by_cases hq:fl=3
   ·subst hq;have E:Hid (_=Except.ok (Itm.mk 8 D [] [])):=E1.out.trans (if_neg (by simp));clear E1;go_wp2_with (with_reducible refine zx ?_)
    refine stI wL fun wz hTy zT=>?_
    have yX:=yg uy zT (by rintro q ⟨⟩;exact Nat.le_refl _);go_wp2_with fail
    refine zw rfl rfl hTy rfl rfl zv rfl ?_
    exact SevenSaid.ok E.out rfl yX
   have zq:((fl:Int)==3)=false:=by simp;omega
   have zq2:((fl:Int)=3)=False:=eq_false (by omega);have E:Hid (_=Except.error 4):=E1.out.trans (if_pos hq);clear E1 hq;go_wp2_with (with_reducible refine zx ?_)
   refine stI wL fun wz hTy zT=>?_
   have yX:=yg uy zT (by rintro q ⟨⟩;exact Nat.le_refl _);go_wp2_with fail
   refine zw rfl rfl hTy rfl rfl zv rfl ?_
   exact SevenSaid.err E.out rfl yX
  have c1:((D:Int)==9221120237041090560)=false:=by rw[beq_eq_false_iff_ne];intro h;exact hD (by show D=9221120237041090560;omega)
  have c1':((D:Int)=9221120237041090560)=False:=eq_false (by intro h;exact hD (by show D=9221120237041090560;omega));clear hc hD;go_enter Tryz.func104,Tryz.ntmps104
  go_wp2_with fail
  refine(WD.out _).mono ?_
  rintro e w1 ⟨rfl,rfl⟩
  go_wp2_with fail
  refine(FL.out _).mono ?_
  rintro e w3 ⟨r,rfl,fv⟩
  obtain⟨RA,rc,rfl,_⟩:=fv.own.form;have wL:=ed.below fv.2;have uy:=vL.trans (fv.2.mono vL.size);obtain⟨fl,vq⟩:∃ fl,(zK D).length=fl:=⟨_,rfl⟩
  rw[vq]at E1⊢;clear fv vq FL
  by_cases hq:fl=3
  ·subst hq;have E:Hid (_=Except.ok (Itm.mk 8 D [] [])):=E1.out.trans (if_neg (by simp));clear E1;go_wp2_with (with_reducible refine zx ?_)
   refine stI wL fun wz hTy zT=>?_
   have yX:=yg uy zT (by rintro q ⟨⟩;exact Nat.le_refl _);go_wp2_with fail
   refine zw rfl rfl hTy rfl rfl zv rfl ?_
   exact SevenSaid.ok E.out rfl yX
  have zq:((fl:Int)==3)=false:=by simp;omega
  have zq2:((fl:Int)=3)=False:=eq_false (by omega);have E:Hid (_=Except.error 4):=E1.out.trans (if_pos hq);clear E1 hq;go_wp2_with (with_reducible refine zx ?_)
  refine stI wL fun wz hTy zT=>?_
  have yX:=yg uy zT (by rintro q ⟨⟩;exact Nat.le_refl _);go_wp2_with fail
  refine zw rfl rfl hTy rfl rfl zv rfl ?_
  exact SevenSaid.err E.out rfl yX
 ·have hn:=Gs.out rfl;have K1:IntKind.u32.wrap (n:Int)=(n:Int):=IntWalk.u32_in _ (by omega);have r1:=kX n;obtain⟨W0,Mn⟩:∃ W0,w.alloc zg=W0:=⟨_,rfl⟩
  obtain⟨D,w2,XW,mN,kv,V7,XR⟩:=aA n hn W0;have E1:=Hh (UA hn V7 XR);have r2:=yL D;have FL:=Hh (fun w=>tT D kv w)
  have xJ:Below w.heap.size w w2:=by
   rw[← Mn]at mN
   rcases mN with rfl | rfl
   ·exact vL
   exact vL.drew
  have yU:Blk w2 w.heap.size 57 #[.int .i64 0,.int .u64 0,.slice none 0 0,.slice none 0 0]:=by
   rw[← Mn]at mN
   rcases mN with rfl | rfl
   ·exact ed
   exact ed.drew
  clear hn V7 XR mN kv yN te ed vL;go_enter Tryz.func104,Tryz.ntmps104
  go_upto_region 13 with fail
  clear Mn;go_wp2_with fail
  refine(FL.out _).mono ?_
  rintro e w3 ⟨r,rfl,fv⟩
  obtain⟨RA,rc,rfl,_⟩:=fv.own.form;have wL:=yU.below fv.2;have uy:=xJ.trans (fv.2.mono xJ.size);obtain⟨fl,vq⟩:∃ fl,(zK D).length=fl:=⟨_,rfl⟩
  rw[vq]at E1⊢;clear fv vq FL
  by_cases hq:fl=5
  ·subst hq;have E:Hid (_=Except.ok (Itm.mk 8 D [] [])):=E1.out.trans (if_neg (by simp));clear E1;go_wp2_with (with_reducible refine zx ?_)
   refine stI wL fun wz hTy zT=>?_
   have yX:=yg uy zT (by rintro q ⟨⟩;exact Nat.le_refl _);go_wp2_with fail
   refine zw rfl rfl hTy rfl rfl zv rfl ?_
   exact SevenSaid.ok E.out rfl yX
  have zq:((fl:Int)==5)=false:=by simp;omega
  have zq2:((fl:Int)=5)=False:=eq_false (by omega);have E:Hid (_=Except.error 4):=E1.out.trans (if_pos hq);clear E1 hq;go_wp2_with (with_reducible refine zx ?_)
  refine stI wL fun wz hTy zT=>?_
  have yX:=yg uy zT (by rintro q ⟨⟩;exact Nat.le_refl _);go_wp2_with fail
  refine zw rfl rfl hTy rfl rfl zv rfl ?_
  exact SevenSaid.err E.out rfl yX
 have E1:=Hh (UB (n:=n));have FL:=Hh (fun w=>tT n HN.out w);have xJ:=vL;have yU:=ed;clear yN te ed vL;obtain⟨D,hD⟩:∃ D,n=D:=⟨_,rfl⟩
 subst hD;go_enter Tryz.func104,Tryz.ntmps104
 go_wp2_with fail
 refine(FL.out _).mono ?_
 rintro e w3 ⟨r,rfl,fv⟩
 obtain⟨RA,rc,rfl,_⟩:=fv.own.form;have wL:=yU.below fv.2;have uy:=xJ.trans (fv.2.mono xJ.size);obtain⟨fl,vq⟩:∃ fl,(zK n).length=fl:=⟨_,rfl⟩
 rw[vq]at E1⊢;clear fv vq FL
 by_cases hq:fl=9
 ·subst hq;have E:Hid (_=Except.ok (Itm.mk 8 n [] [])):=E1.out.trans (if_neg (by simp));clear E1;go_wp2_with (with_reducible refine zx ?_)
  refine stI wL fun wz hTy zT=>?_
  have yX:=yg uy zT (by rintro q ⟨⟩;exact Nat.le_refl _);go_wp2_with fail
  refine zw rfl rfl hTy rfl rfl zv rfl ?_
  exact SevenSaid.ok E.out rfl yX
 have zq:((fl:Int)==9)=false:=by simp;omega
 have zq2:((fl:Int)=9)=False:=eq_false (by omega);have E:Hid (_=Except.error 4):=E1.out.trans (if_pos hq);clear E1 hq;go_wp2_with (with_reducible refine zx ?_)
 refine stI wL fun wz hTy zT=>?_
 have yX:=yg uy zT (by rintro q ⟨⟩;exact Nat.le_refl _);go_wp2_with fail
 refine zw rfl rfl hTy rfl rfl zv rfl ?_
 exact SevenSaid.err E.out rfl yX
end Go.Proofs.YtgcjjhibdbafmabGreatDoor
