/- squeezed. Walks: the references' Same. -/
import Derived.Test.YtliomcphdnppnaaGreatDoorK11
set_option linter.unusedVariables false
set_option linter.unusedSimpArgs false
set_option maxRecDepth 100000
set_option maxHeartbeats 6400000
namespace Go.Proofs.YtliomcphdnppnaaGreatDoor
open Go.RowKit
def nw (x:Itm):Prop:=∀ (y:Itm) (H:Snap) (k n:Int) (ba:Option Addr) (bl bc:Nat) (ia:Option Addr) (il ic:Nat) (k' n':Int) (ba':Option Addr) (bl' bc':Nat) (ia':Option Addr) (il' ic':Nat) (w:World),
 Modest x→Modest y→ItemA H k n ba bl bc ia il ic x→ItemA H k' n' ba' bl' bc' ia' il' ic' y→Holds w H→
 Calls Tryz.prog 77 #[.agg #[.int .i64 k,.int .u64 n,.slice ba bl bc,.slice ia il ic],.agg #[.int .i64 k',.int .u64 n',.slice ba' bl' bc',.slice ia' il' ic']] w fun e w'=>e=.returned (.bool (yu x y))∧Below w.heap.size w w'
theorem XH (x y:Itm):yu x y=(x.kind==y.kind&&x.n==y.n&&x.bytes==y.bytes&&vQ x.items y.items):=by cases x;cases y;rw[yu];rfl
theorem Zh:∀ l m:List Itm,vQ l m=true→l.length=m.length:=fun l m h=>by rw[nK]at h;rw[h]
theorem Zi (x:Itm) (ih:∀ z:Itm,cnt z<cnt x→nw z):nw x:=by
 intro y H k n ba bl bc ia il ic k' n' ba' bl' bc' ia' il' ic' w lg nY hx hy hH
 obtain⟨rfl,rfl,rfl,rfl,qf⟩:=hx.eqs_;obtain⟨rfl,rfl,rfl,rfl,Tm⟩:=hy.eqs_;have HX:=Hh qf;have HY:=Hh Tm;have Ej:=Hh lg;have TO:=Hh nY;have yw:=qf.bounds;have dl:=Tm.bounds;have nb:=(zq w (zi x ba bc ia ic)).alloc (by simp) (zi y ba' bc' ia' ic');have yO:=(Blk.new w 26 #[.int .i64 x.kind,.int .u64 x.n,.slice ba x.bytes.length bc,.slice ia x.items.length ic]).alloc (zi y ba' bc' ia' ic');have yV:=Blk.new (w.alloc (zi x ba bc ia ic)) 26 #[.int .i64 y.kind,.int .u64 y.n,.slice ba' y.bytes.length bc',.slice ia' y.items.length ic']
 simp only[zu]at yV
 have oO:Holds ((w.alloc (zi x ba bc ia ic)).alloc (zi y ba' bc' ia' ic')) H:=(hH.alloc _).alloc _;have C:=Hh (sG _ ba ba' x.bytes y.bytes x.bytes.length y.bytes.length bc bc' rfl rfl (lg.parts.1) (nY.parts.1) (Src.of_row qf.bytes.row oO) (Src.of_row Tm.bytes.row oO));have dZ:x.items.length≤9223372036854775807:=by omega
 have Iv:y.items.length≤9223372036854775807:=by omega
 have Py:=Hh yw.2.2.1;have Pz:=Hh dl.2.2.1;have E0:=XH x y;clear hx hy qf Tm yw dl lg nY
 by_cases h1:x.kind=y.kind
 case neg =>
  have E:Hid (yu x y=false):=by rw[Hid,E0];simp[h1]
  have b1:(x.kind != y.kind)=true:=by simp[h1]
  have p1:(x.kind=y.kind)=False:=eq_false h1;clear h1 E0;go_enter Tryz.func77,Tryz.ntmps77
  go_wp2_with fail
  go_ret
  exact⟨by rw[E.out];rfl,nb⟩
 have b1:(x.kind != y.kind)=false:=by simp[h1]
 have p1:(x.kind=y.kind)=True:=eq_true h1;have e1:(x.kind==y.kind)=true:=by simp[h1]
 rw[e1]at E0;clear h1 e1
 by_cases h2:x.n=y.n
 case neg =>
  have E:Hid (yu x y=false):=by rw[Hid,E0];simp[h2]
  have b2:((x.n:Int) != (y.n:Int))=true:=by simp;omega
  have p2:(x.n=y.n)=False:=eq_false h2;clear h2 E0;go_enter Tryz.func77,Tryz.ntmps77
  go_wp2_with fail
  go_ret
  exact⟨by rw[E.out];rfl,nb⟩
 have b2:((x.n:Int) != (y.n:Int))=false:=by simp;omega
 have p2:(x.n=y.n)=True:=eq_true h2;have e2:(x.n==y.n)=true:=by simp[h2]
 rw[e2]at E0;clear h2 e2;obtain⟨cmp,rD⟩:∃ cmp,Lib.compareBytes x.bytes y.bytes=cmp:=⟨_,rfl⟩
 have hz:=nz x.bytes y.bytes;rw[rD]at C hz;clear rD
 by_cases h3:x.bytes=y.bytes
 case neg =>
  have E:Hid (yu x y=false):=by rw[Hid,E0];simp[h3]
  have h0:cmp≠0:=fun h=>h3 (hz.1 h)
  have b3:(cmp != 0)=true:=by simp[h0]
  have p3:(cmp=0)=False:=eq_false h0;clear h3 E0 hz h0;go_enter Tryz.func77,Tryz.ntmps77
  go_wp2_with fail
  refine C.out.mono ?_
  rintro e w1 ⟨rfl,zH⟩
  have zJ:=nb.trans (zH.mono nb.size);go_wp2_with fail
  go_ret
  exact⟨by rw[E.out];rfl,zJ⟩
 have h0:=hz.2 h3;have e3:(x.bytes==y.bytes)=true:=by simp[h3]
 rw[e3]at E0;subst h0;clear hz h3 e3
 by_cases h4:x.items.length=y.items.length
 case neg =>
  have E:Hid (yu x y=false):=by
   rw[Hid,E0]
   cases hs:vQ x.items y.items with
   | true=>exact absurd (Zh _ _ hs) h4
   | false=>rfl
  have b4:((x.items.length:Int) != (y.items.length:Int))=true:=by simp;omega
  have p4:(x.items.length=y.items.length)=False:=eq_false h4;clear h4 E0;go_enter Tryz.func77,Tryz.ntmps77
  go_wp2_with fail
  refine C.out.mono ?_
  rintro e w1 ⟨rfl,zH⟩
  have zJ:=nb.trans (zH.mono nb.size);have qI:=yO.below zH;have jY:=yV.below zH;have c3:=qI.cell 3 rfl;have d3:=jY.cell 3 rfl;go_wp2_with fail
  go_ret
  exact⟨by rw[E.out];rfl,zJ⟩
 have b4:((x.items.length:Int) != (y.items.length:Int))=false:=by simp;omega
 have p4:(x.items.length=y.items.length)=True:=eq_true h4;have H4:=Hh h4;have E:Hid (yu x y=vQ x.items y.items):=by rw[Hid,E0];rfl
 clear h4 E0;go_enter Tryz.func77,Tryz.ntmps77
 go_wp2_with fail
 refine C.out.mono ?_
 rintro e w1 ⟨rfl,zH⟩
 have zJ:=nb.trans (zH.mono nb.size);have qI:=yO.below zH;have jY:=yV.below zH;have c3:=qI.cell 3 rfl;have d3:=jY.cell 3 rfl;clear yO yV zH nb C;go_wp2_with fail
 go_loopw [39] (fun v39 wr=>∃ j:Nat,j≤x.items.length∧v39=.int .i64 j∧vQ (x.items.drop j) (y.items.drop j)=vQ x.items y.items∧Below w.heap.size w wr∧Blk wr (w.heap.size+1) 26 #[.int .i64 y.kind,.int .u64 y.n,.slice ba' y.bytes.length bc',.slice ia' y.items.length ic']) (fun v39 _=>x.items.length-(intOf v39).toNat)
 case atStart=>exact⟨0,Nat.zero_le _,rfl,rfl,zJ,jY⟩
 case round =>
 obtain⟨j,hj,rfl,hs,yS,FF⟩:=hrel;have HS:=Hh hs;clear hs c3 d3
 by_cases zB:j<x.items.length
 ·have Ri:j<y.items.length:=by have:=H4.out;omega
  have yD:Holds wr H:=hH.below yS (Nat.le_refl _);obtain⟨ib,io,tf,xI⟩:=HX.out.items (by omega);obtain⟨jb,jo,Fp,O8⟩:=HY.out.items (by omega);obtain⟨y1,y2,y3,y4,q0,q1,q2,q3,vW⟩:=xI.get j zB;obtain⟨z1,z2,z3,z4,s0,s1,s2,s3,nX⟩:=O8.get j Ri;subst tf Fp;have p0:=yD.cell q0;have p1':=yD.cell q1;have p2':=yD.cell q2;have p3:=yD.cell q3;have DT:(j:Int)<y.items.length:=by omega
  have tX:vQ (x.items.drop j) (y.items.drop j)=(yu x.items[j] y.items[j]&&vQ (x.items.drop (j+1)) (y.items.drop (j+1))):=by rw[List.drop_eq_getElem_cons zB,List.drop_eq_getElem_cons Ri,vQ]
  have vR:=Hh (HS.out.symm.trans tX);have IH:=Hh (fun w1:World=>fun h1:Holds w1 H=>ih x.items[j] (vx x j zB) y.items[j] H _ _ y1 _ y2 y3 _ y4 _ _ z1 _ z2 z3 _ z4 w1 (Ej.out.parts.2.2.get j zB) (TO.out.parts.2.2.get j Ri) vW.arg nX.arg h1)
  generalize x.items[j]'zB=u at *
  generalize y.items[j]'Ri=v at *
  have hT:=Blk.new wr 26 #[.int .i64 u.kind,.int .u64 u.n,.slice y1 u.bytes.length y2,.slice y3 u.items.length y4];have zQ:=(yD.alloc (zi u y1 y2 y3 y4)).drew;have yw:=(yS.alloc yS.size (zi u y1 y2 y3 y4)).drew;have Kg:=(FF.alloc (zi u y1 y2 y3 y4)).drew;have tL:=hT.drew;clear tX xI O8 vW nX q0 q1 q2 q3 hT;go_upto_region 6 with fail
  refine zw 7 (fun w'=>w'.cell? ⟨wr.heap.size,0,none⟩=some (.int .i64 u.kind)∧w'.cell? ⟨wr.heap.size,1,none⟩=some (.int .u64 u.n)∧w'.cell? ⟨wr.heap.size,2,none⟩=some (.slice y1 u.bytes.length y2)∧w'.cell? ⟨wr.heap.size,3,none⟩=some (.slice y3 u.items.length y4)∧w'.cell? ⟨w.heap.size+1,3,none⟩=some (.slice (some ⟨jb,jo,none⟩) y.items.length ic')∧w'.cell? ⟨jb,jo+j*4,none⟩=some (.int .i64 v.kind)∧w'.cell? ⟨jb,jo+j*4+1,none⟩=some (.int .u64 v.n)∧w'.cell? ⟨jb,jo+j*4+2,none⟩=some (.slice z1 v.bytes.length z2)∧w'.cell? ⟨jb,jo+j*4+3,none⟩=some (.slice z3 v.items.length z4)) (by kernel_rfl) (⟨tL.cell 0 rfl,tL.cell 1 rfl,tL.cell 2 rfl,tL.cell 3 rfl,Kg.cell 3 rfl,zQ.cell s0,zQ.cell s1,zQ.cell s2,zQ.cell s3⟩) (fun zy=>?_)
  refine Tk 0 rfl zy ?_
  refine Tk 1 rfl zy ?_
  refine Tk 2 rfl zy ?_
  refine Tk 3 rfl zy ?_
  refine Tk 4 rfl zy ?_
  refine Tk 5 rfl zy ?_
  refine To 6 rfl fun K hK=>?_
  go_simp
  refine(IH.out _ zQ).mono ?_
  rintro e w6 ⟨rfl,xT⟩
  have WJ:=zQ.below xT (Nat.le_refl _);have vh:=yw.trans (xT.mono yw.size);have dg:=Kg.below xT;have WM:=tL.below xT
  refine Ko hK ?_ fun zy=>?_
  ·exact⟨WM.cell 0 rfl,WM.cell 1 rfl,WM.cell 2 rfl,WM.cell 3 rfl,dg.cell 3 rfl,WJ.cell s0,WJ.cell s1,WJ.cell s2,WJ.cell s3⟩
  clear hK K
  refine To 7 rfl fun K hK=>?_
  go_simp
  refine Kz hK ?_
  clear hK K
  refine Wd ?_
  clear zy p0 p1' p2' p3 s0 s1 s2 s3 yD zQ yw Kg tL WM WJ xT
  cases hq:yu u v with
  | false =>
   have EE:Hid (vQ x.items y.items=false):=by rw[Hid,vR.out,hq];rfl
   clear hq;go_wp2_with fail
   go_ret
   exact⟨by rw[E.out,EE.out];rfl,vh⟩
  | true =>
  have EE:Hid (vQ (x.items.drop (j+1)) (y.items.drop (j+1))=vQ x.items y.items):=by rw[Hid,vR.out,hq];rfl
  clear hq;go_wp2_with fail
  go_roundw
  case rel=>exact⟨j+1,by omega,by go_num,EE.out,vh,dg⟩
  case measure=>simp[intOf];omega
 have ip:j=x.items.length:=by omega
 subst ip;have EE:Hid (vQ x.items y.items=true):=by rw[Hid,← HS.out,List.drop_length,H4.out,List.drop_length,vQ]
 go_wp2_with fail
 go_ret
 exact⟨by rw[E.out,EE.out];rfl,yS⟩
theorem sZ (x:Itm):nw x:=by
 have main:∀ N,∀ x:Itm,cnt x≤N→nw x:=by
  intro N
  induction N with
  | zero =>
   intro x hx
   have:0<cnt x:=by cases x;rw[cnt];omega
   omega
  | succ N ih=>exact fun x hx=>Zi x fun y hy=>ih y (by omega)
 exact main _ x (Nat.le_refl _)
end Go.Proofs.YtliomcphdnppnaaGreatDoor
