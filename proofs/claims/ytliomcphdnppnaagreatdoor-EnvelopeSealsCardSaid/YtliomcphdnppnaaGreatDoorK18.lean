/- squeezed. Walks: the reference's Build; of p -/
import Derived.Test.YtliomcphdnppnaaGreatDoorK17
set_option linter.unusedVariables false
set_option linter.unusedSimpArgs false
set_option maxRecDepth 100000
set_option maxHeartbeats 12800000
namespace Go.Proofs.YtliomcphdnppnaaGreatDoor
open Go.RowKit
theorem eh (l:List Itm) (h:xY l=true):∀ i:Nat,xY (l.drop (2*i))=true
 | 0=>by simpa using h
 | i+1=>by
  have ih:=eh l h i;rw[show 2*(i+1)=2*i+2 by omega,← List.drop_drop]
  generalize l.drop (2*i)=m at ih
  match m,ih with
  | [],_=>rfl
  | [_],_=>rfl
  | _::_::m,ih=>exact iA ih
theorem Xd {l:List Itm}(h:xY l=true) {m:Nat}(he:m%2=0) (hm:m+2<l.length):Lib.compareBytes (zh (l[m]'(by omega))) (zh l[m+2])<0:=by
 obtain⟨i,rfl⟩:∃ i,m=2*i:=⟨m/2,by omega⟩
 have h1:=eh l h i;have h2:=mz l (2*i+2) (by omega) hm
 simp only[Nat.add_sub_cancel]at h2
 rw[h1]at h2;have h3:=(Bool.and_eq_true _ _).mp h2.symm;have h4:=of_decide_eq_true h3.1
 simpa using h4
def BuildSaid3 (w:World) (H:Snap) (ps:List Itm) (e:Ending) (w':World):Prop :=
 ∃ v,(∃ l,e=.returned (.tuple #[v,.int .i64 0])∧Gives w H (.mk 5 0 [] l) v w'∧zX (.mk 5 0 [] l)=true∧(zM l).length=(zM ps).length∧(xY ps=true→l=ps)∧PQ l ps)∨
  (∃ c,e=.returned (.tuple #[v,.int .i64 c])∧c≠0∧Gives w H zm v w'∧¬ (ps.length%2=0∧xY ps=true∧(∀ x∈ps,zX x=true)∧zX (.mk 5 0 [] ps)=true))
theorem tk:∀ {a:List Itm}(b:List Itm),a.length%2=0→ze (a++b)=ze a++ze b
 | [],_,_=>rfl
 | [_],_,h=>by simp at h
 | x::y::a,b,h=>by
  rw[List.cons_append,List.cons_append,ze,ze,tk (a:=a) b (by simp at h;omega)];rfl
theorem iU {L:List Itm}{k:Nat}(y z:Itm) (he:L.length%2=0) (hk:k%2=0) (hl:k≤L.length) (q:Itm×Itm):q∈ze (L.take k++[y,z]++L.drop k)↔q∈ze L∨q=(y,z):=by
 have ht:(L.take k).length%2=0:=by rw[List.length_take];omega
 have e:ze L=ze (L.take k)++ze (L.drop k):=by rw[← tk _ ht,List.take_append_drop]
 rw[tk _ (by rw[List.length_append];simp;omega),tk _ ht,e]
 simp only[ze,List.mem_append,List.mem_cons,List.not_mem_nil,or_false]
 constructor
 ·rintro((h | h) | h)
  ·exact .inl (.inl h)
  ·exact .inr h
  exact .inl (.inr h)
 rintro((h | h) | h)
 ·exact .inl (.inl h)
 ·exact .inr h
 exact .inl (.inr h)
theorem kO {H:Snap}(hTab:Tabs H) {A:Option Addr}{c:Nat}{ps:List Itm}(hr:IsRowI H A c ps) (hl:ps.length≤1099511627776) (w:World) (hH:Holds w H) :
  Calls Tryz.prog 87 #[.slice A ps.length c] w (BuildSaid3 w H ps):=by
 have hT:=Blk.new w 26 #[.int .i64 0,.int .u64 0,.slice none 0 0,.slice none 0 0];have hb:=zq w zW;have yP:H w.heap.size=none:=hH.none_of_ge (Nat.le_refl _);have HR:=Hh hr;clear hr
 by_cases xB:ps.length%2=0
 case neg =>
  have b1:((ps.length:Int)%2 != 0)=true:=by rw[bne_iff_ne];omega
  have p1:((ps.length:Int)%2=0)=False:=eq_false (by omega);have HE:=Hh xB;clear xB;go_enter Tryz.func87,Tryz.ntmps87
  go_wp2_with fail
  refine zf rfl rfl hT rfl rfl zp rfl ?_
  exact⟨_,.inr ⟨1,rfl,by omega,⟨none,0,none,0,H,rfl,Grows.of_below hH hb,IsItem.plain H 0 0 (by omega) (by omega)⟩,fun h=>HE.out h.1⟩⟩
 have b1:((ps.length:Int)%2 != 0)=false:=by rw[bne_eq_false_iff_eq];omega
 have p1:((ps.length:Int)%2=0)=True:=eq_true (by omega);have HE:=Hh xB;clear xB;go_enter Tryz.func87,Tryz.ntmps87
 go_wp2_with fail
 go_loopw [18] (fun v18 wr=>∃ j:Nat,j≤ps.length∧v18=.int .i64 j∧(∀ x∈ps.take j,zX x=true)∧Below w.heap.size w wr∧Blk wr w.heap.size 26 #[.int .i64 0,.int .u64 0,.slice none 0 0,.slice none 0 0]) (fun v18 _=>ps.length-(intOf v18).toNat)
 case atStart=>exact⟨0,Nat.zero_le _,rfl,by simp,hb,hT⟩
 case round =>
 clear hb hT;obtain⟨j,hj,rfl,ue,yS,sJ⟩:=hrel
 by_cases zB:j<ps.length
 ·have yD:=hH.below yS (Nat.le_refl _);obtain⟨ib,io,tf,xI⟩:=HR.out.elems (by omega);obtain⟨y1,y2,y3,y4,q0,q1,q2,q3,vW⟩:=xI.get j zB;subst tf;have p0:=yD.cell q0;have p1':=yD.cell q1;have p2:=yD.cell q2;have p3:=yD.cell q3;have MI:=yD.alloc (zi ps[j] y1 y2 y3 y4);have V:=Hh (tm hTab vW.arg _ MI);have zG:=yS.alloc yS.size (zi ps[j] y1 y2 y3 y4);have ug:=sJ.alloc (zi ps[j] y1 y2 y3 y4);have jN:ps[j]∈ps:=List.getElem_mem zB;have HT:=Hh (show ps.take (j+1)=ps.take j++[ps[j]] from List.take_succ_eq_append_getElem zB);have SN:=Hh ue
  generalize ps[j]'zB=x at *
  clear q0 q1 q2 q3 xI vW yS sJ yD ue
  cases hv:zX x with
  | false =>
   rw[hv]at V;have HX:=Hh (And.intro hv jN);clear hv jN;go_wp2_with fail
   refine V.out.mono ?_
   rintro e w3 ⟨rfl,xn⟩
   have lf:=ug.below xn;have zJ:=zG.trans (xn.mono zG.size);clear ug zG xn;go_wp2_with (with_reducible refine zx ?_)
   refine stI lf fun w9 nU xr=>?_
   have sO:=(Grows.of_below hH zJ).grownOwn yP (Nat.le_refl _) xr;go_wp2_with fail
   refine zf rfl rfl nU rfl rfl zp rfl ?_
   exact⟨_,.inr ⟨1,rfl,by omega,⟨none,0,none,0,H,rfl,sO,IsItem.plain H 0 0 (by omega) (by omega)⟩,fun h=>by rw[h.2.2.1 x HX.out.2]at HX;cases HX.out.1⟩⟩
  | true =>
  rw[hv]at V;have HX:=Hh hv;clear hv jN;go_wp2_with fail
  refine V.out.mono ?_
  rintro e w3 ⟨rfl,xn⟩
  have lf:=ug.below xn;have zJ:=zG.trans (xn.mono zG.size);have V7:(j:Int)+1≤9223372036854775807:=by omega
  clear ug zG xn;go_wp2_with fail
  go_roundw
  case rel=>exact⟨j+1,by omega,by go_num,fun y hy=>by rw[HT.out,List.mem_append]at hy;rcases hy with hy | hy;exact SN.out y hy;rw[List.mem_singleton.1 hy];exact HX.out,zJ,lf⟩
  case measure=>simp[intOf];omega
 have rO:j=ps.length:=by omega
 subst rO;rw[List.take_length]at ue;have SN:=Hh ue;clear ue;go_wp2_with fail
 go_loopw [6,7,8] (fun v6 v7 v8 wr=>∃ (j:Nat) (L:List Itm) (b:Bool) (VA:Option Addr) (vc:Nat),j≤ps.length∧j%2=0∧v8=.int .i64 (j:Int)∧v7=.bool b∧v6=.slice VA j vc∧L.length=j∧OwnI wr (w.heap.size+1) (.slice VA j vc) H L∧(∀ x∈L,x∈ps)∧
  (zM L).length=(zM (ps.take j)).length∧(xY ps=true→b=false∧L=ps.take j)∧PQ L (ps.take j)∧Below w.heap.size w wr∧Blk wr w.heap.size 26 #[.int .i64 0,.int .u64 0,.slice none 0 0,.slice none 0 0]) (fun _ _ v8 _=>ps.length+1-(intOf v8).toNat)
 case atStart=>exact⟨0,[],false,none,0,Nat.zero_le _,rfl,rfl,rfl,rfl,rfl,OwnI.nil _ _ _,by simp,by simp,fun _=>⟨rfl,by simp⟩,⟨fun q=>by simp,by simp⟩,yS,sJ⟩
 case round =>
 clear yS sJ;obtain⟨j,L,b,VA,vc,hj,Pa,rfl,rfl,rfl,TU,wG,jN,mA,h2,IZ,yS,sJ⟩:=hrel;have Om:=Hh IZ
 have dP:Hid ((j:Int)≤vc):=by
  obtain⟨_,c9,e,h1,_⟩:=wG.form;injection e with _ _ e3
  subst e3;show(j:Int)≤(vc:Int)
  omega
 have HS:=Hh (And.intro jN (And.intro mA h2));have HJ:=Hh Pa;clear jN mA h2 Pa IZ
 by_cases zB:j<ps.length
 ·have oL:j+1<ps.length:=by have:=HJ.out;have:=HE.out;omega
  obtain⟨ib,io,tf,xI⟩:=HR.out.elems (by omega);obtain⟨y1,y2,y3,y4,q0,q1,q2,q3,vW⟩:=xI.get j zB;obtain⟨z1,z2,z3,z4,s0,s1,s2,s3,nX⟩:=xI.get (j+1) oL;subst tf;have Gm:=Hh (SN.out ps[j] (List.getElem_mem zB));have Lv:=Hh (And.intro (List.getElem_mem zB) (List.getElem_mem oL))
  have VS:=Hh (show(zM (ps.take (j+2))).length=(zM (ps.take j)).length+(zh ps[j]).length+(zh ps[j+1]).length by
   have h1:=vI ps (j+1) oL;have h2:=vI ps j zB;rw[show j+2=j+1+1 by omega,h1,h2];simp only[List.length_append])
  have Q1:=Hh (show ps.take (j+2)=ps.take j++[ps[j],ps[j+1]] by
   rw[show j+2=j+1+1 by omega,List.take_succ_eq_append_getElem oL,List.take_succ_eq_append_getElem zB,List.append_assoc];rfl)
  have gY:=Hh (show xY ps=true→∀ m (hm:m+2=j) (hl:m<L.length),Lib.compareBytes (zh L[m]) (zh ps[j])<0 from fun hA m hm hl=>by
   have e:=(HS.out.2.2 hA).2;have LK:m<j:=by omega
   have m9:m<ps.length:=by omega
   have h1:L[m]? = some (ps[m]'m9):=by rw[e,List.getElem?_take,if_pos LK,List.getElem?_eq_getElem]
   rw[List.getElem?_eq_getElem hl]at h1;rw[Option.some.inj h1];have h2:=Xd (m:=m) hA (by have:=HJ.out;omega) (by omega);have h3:ps[m+2]'(by omega)=ps[j]:=by congr 1
   rw[h3]at h2
   exact h2)
  generalize ps[j]'zB=y at *
  generalize ps[j+1]'oL=z at *
  clear xI;have YD:(j:Int)<ps.length:=by omega
  have NE:(j:Int)+1<ps.length:=by omega
  have V7:(j:Int)+2≤9223372036854775807:=by omega
  have TQ:Hid (IntKind.i64.wrap ((j:Int)+1)=(j:Int)+1):=IntWalk.i64_in _ (by omega);go_wp2_with fail
  go_loopw [9] (fun v9 wx=>∃ k:Nat,k≤j∧k%2=0∧(xY ps=true→k=j)∧v9=.int .i64 (k:Int)∧OwnI wx (w.heap.size+1) (.slice VA j vc) H L∧Below w.heap.size w wx∧Blk wx w.heap.size 26 #[.int .i64 0,.int .u64 0,.slice none 0 0,.slice none 0 0]) (fun v9 _=>(intOf v9).toNat)
  case atStart=>exact⟨j,Nat.le_refl _,HJ.out,fun _=>rfl,rfl,wG,yS,sJ⟩
  case round =>
  clear wG yS sJ;obtain⟨k,hk,IU,QO,rfl,jR,yw,tL⟩:=hrel;have Lt:=Hh QO;clear QO;have VQ:=Hh IU;clear IU;have IR:((k:Nat):Int)≤j:=by omega
  go_upto_region 15 with fail
  go_cut [51] (fun s51 wx=>∃ bb:Bool,s51=.bool bb∧(bb=true→2≤k)∧(xY ps=true→bb=false)∧OwnI wx (w.heap.size+1) (.slice VA j vc) H L∧Below w.heap.size w wx∧Blk wx w.heap.size 26 #[.int .i64 0,.int .u64 0,.slice none 0 0,.slice none 0 0])
  case first =>
   by_cases iq:k=0
   ·subst iq;skip
    refine zw 16 (fun _=>True) (by kernel_rfl) (trivial) (fun zy=>?_)
    refine Tk 0 rfl zy ?_
    refine Tk 1 rfl zy ?_
    refine Tk 2 rfl zy ?_
    refine TkU 3 rfl zy ?_
    refine TkU 4 rfl zy ?_
    refine TkU 5 rfl zy ?_
    refine TkU 6 rfl zy ?_
    refine TkU 7 rfl zy ?_
    refine TkU 8 rfl zy ?_
    refine TkU 9 rfl zy ?_
    refine TkU 10 rfl zy ?_
    refine TkU 11 rfl zy ?_
    refine TkU 12 rfl zy ?_
    refine TkU 13 rfl zy ?_
    refine TkU 14 rfl zy ?_
    refine TkU 15 rfl zy ?_
    refine To 16 rfl fun K hK=>?_
    go_simp
    refine Kz hK ?_
    clear hK K
    refine Wd ?_
    go_wp2_with fail
    go_meet
    exact⟨false,rfl,(fun h=>by cases h),(fun _=>rfl),jR,yw.drew,tL⟩
   obtain⟨m,rfl⟩:∃ m,k=m+2:=⟨k-2,by have:=VQ.out;omega⟩
   have LK:m<j:=by omega
   obtain⟨lb,lo,LH,x1,x2,x3,x4,c0,c1,c2,c3,L3⟩:=jR.cells m (by omega);subst LH;have Ov:=Hh (SN.out _ (HS.out.1 _ (List.getElem_mem (show m<L.length by omega))));have KX:=Hh (show xY ps=true→Lib.compareBytes (zh (L[m]'(by omega))) (zh y)<0 from fun hA=>gY.out hA m (Lt.out hA) (by omega))
   generalize L[m]'(by omega)=x at *
   have e2:((m+2:Nat):Int)=(m:Int)+2:=by omega
   rw[e2];have qe:IntKind.i64.wrap ((m:Int)+2-2)=(m:Int):=by rw[show(m:Int)+2-2=(m:Int) by omega];exact IntWalk.i64_in _ (by omega)
   have fl:IntKind.i64.wrap (m:Int)=(m:Int):=IntWalk.i64_in _ (by omega);have Fz:(m:Int)<j:=by omega
   have ft:(0:Int)≤(m:Int):=by omega
   have m9:(0:Int)<(m:Int)+2:=by omega
   have zQ:=(hH.below yw (Nat.le_refl _)).drew;have p0:=zQ.cell q0;have p1:=zQ.cell q1;have p2:=zQ.cell q2;have p3:=zQ.cell q3;have c0:=uS c0;have c1:=uS c1;have c2:=uS c2;have c3:=uS c3;have zJ:=yw.drew;have fo:=OwnI.drew jR;have vg:=tL.drew;obtain⟨cmp,rD⟩:∃ cmp,Lib.compareBytes (zh x) (zh y)=cmp:=⟨_,rfl⟩
   have gx:=(yp x).1 Ov.out;have gy:=(yp y).1 Gm.out;have S3:=Hh gx;have S4:=Hh gy;have K9:=Hh rD;have Vz:=Hh (show xY ps=true→cmp<0 from fun hA=>by have h:=KX.out hA;rw[rD]at h;exact h);clear gx gy rD e2 jR yw tL iq hk;skip
   refine zw 16 (fun w'=>w'.cell? ⟨lb,lo+m*4,none⟩=some (.int .i64 x.kind)∧w'.cell? ⟨lb,lo+m*4+1,none⟩=some (.int .u64 x.n)∧w'.cell? ⟨lb,lo+m*4+2,none⟩=some (.slice x1 x.bytes.length x2)∧w'.cell? ⟨lb,lo+m*4+3,none⟩=some (.slice x3 x.items.length x4)∧w'.cell? ⟨ib,io+j*4,none⟩=some (.int .i64 y.kind)∧w'.cell? ⟨ib,io+j*4+1,none⟩=some (.int .u64 y.n)∧w'.cell? ⟨ib,io+j*4+2,none⟩=some (.slice y1 y.bytes.length y2)∧w'.cell? ⟨ib,io+j*4+3,none⟩=some (.slice y3 y.items.length y4)) (by kernel_rfl) (⟨c0,c1,c2,c3,p0,p1,p2,p3⟩) (fun zy=>?_)
   refine Tk 0 rfl zy ?_
   refine Tk 1 rfl zy ?_
   refine Tk 2 rfl zy ?_
   refine TkG 3 rfl zy ?_
   refine TkG 4 rfl zy ?_
   refine TkG 5 rfl zy ?_
   refine TkG 6 rfl zy ?_
   refine TkG 7 rfl zy ?_
   refine TkG 9 rfl zy ?_
   refine TkG 10 rfl zy ?_
   refine TkG 11 rfl zy ?_
   refine TkG 12 rfl zy ?_
   refine To 8 rfl fun K hK=>?_
   go_simp
   refine(sH x H _ _ x1 _ x2 x3 _ x4 _ 0 S3.out.1 (by have:=S3.out.2.2;omega) L3.arg zQ).mono ?_
   rintro e w5 ⟨r5,rfl,wL⟩
   obtain⟨RA5,rc5,rfl,_⟩:=wL.own.form;have zQ:=zQ.below wL.2 (Nat.le_refl _);have zJ:=zJ.trans (wL.2.mono zJ.size);have fo:=fo.below wL.2;have vg:=vg.below wL.2;have gj:=wL.own.src;have c0:=zU c0 wL.2;have c1:=zU c1 wL.2;have c2:=zU c2 wL.2;have c3:=zU c3 wL.2
   refine Ko hK ?_ fun zy=>?_
   ·exact⟨c0,c1,c2,c3,zQ.cell q0,zQ.cell q1,zQ.cell q2,zQ.cell q3⟩
   clear hK K
   refine To 13 rfl fun K hK=>?_
   go_simp
   refine(sH y H _ _ y1 _ y2 y3 _ y4 _ 0 S4.out.1 (by have:=S4.out.2.2;omega) vW.arg zQ).mono ?_
   rintro e w6 ⟨r6,rfl,uk⟩
   obtain⟨RA6,rc6,rfl,_⟩:=uk.own.form;have zQ:=zQ.below uk.2 (Nat.le_refl _);have zJ:=zJ.trans (uk.2.mono zJ.size);have fo:=fo.below uk.2;have vg:=vg.below uk.2;have gj:=gj.below uk.2;have YK:=uk.own.src;have c0:=zU c0 uk.2;have c1:=zU c1 uk.2;have c2:=zU c2 uk.2;have c3:=zU c3 uk.2
   refine Ko hK ?_ fun zy=>?_
   ·exact⟨c0,c1,c2,c3,zQ.cell q0,zQ.cell q1,zQ.cell q2,zQ.cell q3⟩
   clear hK K
   refine To 14 rfl fun K hK=>?_
   go_simp
   refine(sG _ RA5 RA6 (zh x) (zh y) (zh x).length (zh y).length rc5 rc6 rfl rfl (by have:=S3.out.2.2;omega) (by have:=S4.out.2.2;omega) gj YK).mono ?_
   rintro e w7 ⟨rfl,vh⟩
   rw[K9.out];have zQ:=zQ.below vh (Nat.le_refl _);have zJ:=zJ.trans (vh.mono zJ.size);have fo:=fo.below vh;have vg:=vg.below vh;have c0:=zU c0 vh;have c1:=zU c1 vh;have c2:=zU c2 vh;have c3:=zU c3 vh
   refine Ko hK ?_ fun zy=>?_
   ·exact⟨c0,c1,c2,c3,zQ.cell q0,zQ.cell q1,zQ.cell q2,zQ.cell q3⟩
   clear hK K
   refine TkG 15 rfl zy ?_
   refine To 16 rfl fun K hK=>?_
   go_simp
   refine Kz hK ?_
   clear hK K
   refine Wd ?_
   clear zy gj YK c0 c1 c2 c3 p0 p1 p2 p3;go_wp2_with fail
   go_meet
   exact⟨decide ((0:Int)<cmp),rfl,(fun _=>by omega),(fun hA=>decide_eq_false (by have:=Vz.out hA;omega)),fo,zJ,vg⟩
  case rest =>
  clear jR yw tL;obtain⟨bb,rfl,tO,Si,jR,yw,tL⟩:=hcut;have EY:=Hh Si;clear Si
  cases bb with
  | true =>
   obtain⟨m,rfl⟩:∃ m,k=m+2:=⟨k-2,by have:=tO rfl;omega⟩
   have qe:IntKind.i64.wrap (((m+2:Nat):Int)-2)=(m:Int):=by rw[show((m+2:Nat):Int)-2=(m:Int) by omega];exact IntWalk.i64_in _ (by omega)
   clear tO;go_wp2_with fail
   go_roundw
   case rel=>exact⟨m,by omega,by have:=VQ.out;omega,(fun hA=>by have:=EY.out hA;cases this),by first | rfl | go_num,jR,yw,tL⟩
   case measure=>simp[intOf];omega
  | false =>
  clear tO;go_upto_region 17 with fail
  go_cut [7] (fun s7 wx=>∃ b':Bool,s7=.bool b'∧(k=0→b'=b)∧(xY ps=true→b'=b)∧OwnI wx (w.heap.size+1) (.slice VA j vc) H L∧Below w.heap.size w wx∧Blk wx w.heap.size 26 #[.int .i64 0,.int .u64 0,.slice none 0 0,.slice none 0 0])
  case first =>
   cases b with
   | true =>
    refine zw 20 (fun _=>True) (by kernel_rfl) (trivial) (fun zy=>?_)
    refine Tk 0 rfl zy ?_
    refine Tk 1 rfl zy ?_
    refine TkU 2 rfl zy ?_
    refine TkU 3 rfl zy ?_
    refine TkU 4 rfl zy ?_
    refine TkU 5 rfl zy ?_
    refine TkU 6 rfl zy ?_
    refine TkU 7 rfl zy ?_
    refine TkU 8 rfl zy ?_
    refine TkU 9 rfl zy ?_
    refine TkU 10 rfl zy ?_
    refine TkU 11 rfl zy ?_
    refine TkU 12 rfl zy ?_
    refine TkU 13 rfl zy ?_
    refine TkU 14 rfl zy ?_
    refine TkU 15 rfl zy ?_
    refine TkU 16 rfl zy ?_
    refine TkU 17 rfl zy ?_
    refine TkU 18 rfl zy ?_
    refine Tk 19 rfl zy ?_
    refine To 20 rfl fun K hK=>?_
    go_simp
    refine Kz hK ?_
    clear hK K
    refine Wd ?_
    go_wp2_with fail
    go_meet
    exact⟨true,rfl,(fun _=>rfl),(fun _=>rfl),jR,yw.drew,tL⟩
   | false =>
   by_cases iq:k=0
   ·subst iq
    refine zw 20 (fun _=>True) (by kernel_rfl) (trivial) (fun zy=>?_)
    refine Tk 0 rfl zy ?_
    refine Tk 1 rfl zy ?_
    refine TkG 2 rfl zy ?_
    refine TkG 3 rfl zy ?_
    refine TkG 4 rfl zy ?_
    refine TkU 5 rfl zy ?_
    refine TkU 6 rfl zy ?_
    refine TkU 7 rfl zy ?_
    refine TkU 8 rfl zy ?_
    refine TkU 9 rfl zy ?_
    refine TkU 10 rfl zy ?_
    refine TkU 11 rfl zy ?_
    refine TkU 12 rfl zy ?_
    refine TkU 13 rfl zy ?_
    refine TkU 14 rfl zy ?_
    refine TkU 15 rfl zy ?_
    refine TkU 16 rfl zy ?_
    refine TkU 17 rfl zy ?_
    refine TkG 18 rfl zy ?_
    refine Tk 19 rfl zy ?_
    refine To 20 rfl fun K hK=>?_
    go_simp
    refine Kz hK ?_
    clear hK K
    refine Wd ?_
    go_wp2_with fail
    go_meet
    exact⟨false,rfl,(fun _=>rfl),(fun _=>rfl),jR,yw.drew,tL⟩
   skip
   obtain⟨m,rfl⟩:∃ m,k=m+2:=⟨k-2,by have:=VQ.out;omega⟩
   have LK:m<j:=by omega
   obtain⟨lb,lo,LH,x1,x2,x3,x4,c0,c1,c2,c3,L3⟩:=jR.cells m (by omega);subst LH;have Ov:=Hh (SN.out _ (HS.out.1 _ (List.getElem_mem (show m<L.length by omega))));have KX:=Hh (show xY ps=true→Lib.compareBytes (zh (L[m]'(by omega))) (zh y)<0 from fun hA=>gY.out hA m (Lt.out hA) (by omega))
   generalize L[m]'(by omega)=x at *
   have e2:((m+2:Nat):Int)=(m:Int)+2:=by omega
   rw[e2];have qe:IntKind.i64.wrap ((m:Int)+2-2)=(m:Int):=by rw[show(m:Int)+2-2=(m:Int) by omega];exact IntWalk.i64_in _ (by omega)
   have fl:IntKind.i64.wrap (m:Int)=(m:Int):=IntWalk.i64_in _ (by omega);have Fz:(m:Int)<j:=by omega
   have ft:(0:Int)≤(m:Int):=by omega
   have m9:(0:Int)<(m:Int)+2:=by omega
   have zQ:=(hH.below yw (Nat.le_refl _)).drew;have p0:=zQ.cell q0;have p1:=zQ.cell q1;have p2:=zQ.cell q2;have p3:=zQ.cell q3;have c0:=uS c0;have c1:=uS c1;have c2:=uS c2;have c3:=uS c3;have zJ:=yw.drew;have fo:=OwnI.drew jR;have vg:=tL.drew;obtain⟨cmp,rD⟩:∃ cmp,Lib.compareBytes (zh x) (zh y)=cmp:=⟨_,rfl⟩
   have gx:=(yp x).1 Ov.out;have gy:=(yp y).1 Gm.out;have S3:=Hh gx;have S4:=Hh gy;have K9:=Hh rD;have Vz:=Hh (show xY ps=true→cmp<0 from fun hA=>by have h:=KX.out hA;rw[rD]at h;exact h);clear gx gy rD e2 jR yw tL iq hk
   refine zw 20 (fun w'=>w'.cell? ⟨lb,lo+m*4,none⟩=some (.int .i64 x.kind)∧w'.cell? ⟨lb,lo+m*4+1,none⟩=some (.int .u64 x.n)∧w'.cell? ⟨lb,lo+m*4+2,none⟩=some (.slice x1 x.bytes.length x2)∧w'.cell? ⟨lb,lo+m*4+3,none⟩=some (.slice x3 x.items.length x4)∧w'.cell? ⟨ib,io+j*4,none⟩=some (.int .i64 y.kind)∧w'.cell? ⟨ib,io+j*4+1,none⟩=some (.int .u64 y.n)∧w'.cell? ⟨ib,io+j*4+2,none⟩=some (.slice y1 y.bytes.length y2)∧w'.cell? ⟨ib,io+j*4+3,none⟩=some (.slice y3 y.items.length y4)) (by kernel_rfl) (⟨c0,c1,c2,c3,p0,p1,p2,p3⟩) (fun zy=>?_)
   refine Tk 0 rfl zy ?_
   refine Tk 1 rfl zy ?_
   refine TkG 2 rfl zy ?_
   refine TkG 3 rfl zy ?_
   refine TkG 4 rfl zy ?_
   refine TkG 5 rfl zy ?_
   refine TkG 6 rfl zy ?_
   refine TkG 7 rfl zy ?_
   refine TkG 8 rfl zy ?_
   refine TkG 9 rfl zy ?_
   refine TkG 11 rfl zy ?_
   refine TkG 12 rfl zy ?_
   refine TkG 13 rfl zy ?_
   refine TkG 14 rfl zy ?_
   refine To 10 rfl fun K hK=>?_
   go_simp
   refine(sH x H _ _ x1 _ x2 x3 _ x4 _ 0 S3.out.1 (by have:=S3.out.2.2;omega) L3.arg zQ).mono ?_
   rintro e w5 ⟨r5,rfl,wL⟩
   obtain⟨RA5,rc5,rfl,_⟩:=wL.own.form;have zQ:=zQ.below wL.2 (Nat.le_refl _);have zJ:=zJ.trans (wL.2.mono zJ.size);have fo:=fo.below wL.2;have vg:=vg.below wL.2;have gj:=wL.own.src;have c0:=zU c0 wL.2;have c1:=zU c1 wL.2;have c2:=zU c2 wL.2;have c3:=zU c3 wL.2
   refine Ko hK ?_ fun zy=>?_
   ·exact⟨c0,c1,c2,c3,zQ.cell q0,zQ.cell q1,zQ.cell q2,zQ.cell q3⟩
   clear hK K
   refine To 15 rfl fun K hK=>?_
   go_simp
   refine(sH y H _ _ y1 _ y2 y3 _ y4 _ 0 S4.out.1 (by have:=S4.out.2.2;omega) vW.arg zQ).mono ?_
   rintro e w6 ⟨r6,rfl,uk⟩
   obtain⟨RA6,rc6,rfl,_⟩:=uk.own.form;have zQ:=zQ.below uk.2 (Nat.le_refl _);have zJ:=zJ.trans (uk.2.mono zJ.size);have fo:=fo.below uk.2;have vg:=vg.below uk.2;have gj:=gj.below uk.2;have YK:=uk.own.src;have c0:=zU c0 uk.2;have c1:=zU c1 uk.2;have c2:=zU c2 uk.2;have c3:=zU c3 uk.2
   refine Ko hK ?_ fun zy=>?_
   ·exact⟨c0,c1,c2,c3,zQ.cell q0,zQ.cell q1,zQ.cell q2,zQ.cell q3⟩
   clear hK K
   refine To 16 rfl fun K hK=>?_
   go_simp
   refine(sG _ RA5 RA6 (zh x) (zh y) (zh x).length (zh y).length rc5 rc6 rfl rfl (by have:=S3.out.2.2;omega) (by have:=S4.out.2.2;omega) gj YK).mono ?_
   rintro e w7 ⟨rfl,vh⟩
   rw[K9.out];have zQ:=zQ.below vh (Nat.le_refl _);have zJ:=zJ.trans (vh.mono zJ.size);have fo:=fo.below vh;have vg:=vg.below vh;have c0:=zU c0 vh;have c1:=zU c1 vh;have c2:=zU c2 vh;have c3:=zU c3 vh
   refine Ko hK ?_ fun zy=>?_
   ·exact⟨c0,c1,c2,c3,zQ.cell q0,zQ.cell q1,zQ.cell q2,zQ.cell q3⟩
   clear hK K
   refine TkG 17 rfl zy ?_
   refine TkG 18 rfl zy ?_
   refine Tk 19 rfl zy ?_
   refine To 20 rfl fun K hK=>?_
   go_simp
   refine Kz hK ?_
   clear hK K
   refine Wd ?_
   clear zy gj YK c0 c1 c2 c3 p0 p1 p2 p3;go_wp2_with fail
   go_meet
   exact⟨cmp==0,rfl,(fun h=>absurd h (by omega)),(fun hA=>by rw[beq_eq_false_iff_ne];have:=Vz.out hA;omega),fo,zJ,vg⟩
  case rest =>
  clear jR yw tL;obtain⟨b',rfl,I6,I7,jR,yw,tL⟩:=hcut;have NT:=Hh I7;clear I7;have HB:=Hh I6;clear I6;obtain⟨cs1,cs2,rK,fc,oz,Sg⟩:=jR.parts k;have zQ:=(hH.below yw (Nat.le_refl _)).drew;have xw:=hH.below yw (Nat.le_refl _);have p0:=zQ.cell q0;have p1:=zQ.cell q1;have p2:=zQ.cell q2;have p3:=zQ.cell q3;have r0:=zQ.cell s0;have r1:=zQ.cell s1;have r2:=zQ.cell s2;have r3:=zQ.cell s3;have zJ:=(Below.refl wc.heap.size wc).drew;have QM:((j:Int)+1).toNat=j+1:=by omega
  have Dx:(0:Int)≤(j:Int)+1:=by omega
  have qe:=TQ.out;have mN:(k:Int)≤vc:=Int.le_trans IR dP.out;have iq:(0:Int)≤k:=Int.natCast_nonneg k;go_upto_region 18 with fail
  refine zw 19 (fun w'=>w'.cell? ⟨ib,io+j*4,none⟩=some (.int .i64 y.kind)∧w'.cell? ⟨ib,io+j*4+1,none⟩=some (.int .u64 y.n)∧w'.cell? ⟨ib,io+j*4+2,none⟩=some (.slice y1 y.bytes.length y2)∧w'.cell? ⟨ib,io+j*4+3,none⟩=some (.slice y3 y.items.length y4)∧w'.cell? ⟨ib,io+(j+1)*4,none⟩=some (.int .i64 z.kind)∧w'.cell? ⟨ib,io+(j+1)*4+1,none⟩=some (.int .u64 z.n)∧w'.cell? ⟨ib,io+(j+1)*4+2,none⟩=some (.slice z1 z.bytes.length z2)∧w'.cell? ⟨ib,io+(j+1)*4+3,none⟩=some (.slice z3 z.items.length z4)) (by kernel_rfl) (⟨p0,p1,p2,p3,r0,r1,r2,r3⟩) (fun zy=>?_)
  refine Tk 0 rfl zy ?_
  refine Tk 1 rfl zy ?_
  refine Tk 2 rfl zy ?_
  refine Tk 4 rfl zy ?_
  refine Tk 5 rfl zy ?_
  refine Tk 6 rfl zy ?_
  refine Tk 7 rfl zy ?_
  refine Tk 8 rfl zy ?_
  refine Tk 9 rfl zy ?_
  refine Tk 10 rfl zy ?_
  refine Tk 11 rfl zy ?_
  refine Tk 12 rfl zy ?_
  refine Tk 15 rfl zy ?_
  refine Tk 16 rfl zy ?_
  refine Tk 17 rfl zy ?_
  refine Ways.two (i:=3) (j:=13) rfl rfl (by kernel_rfl) (fun K hK=>?_) (fun K hK=>?_)
  ·rw[if_pos (by rfl)]
   refine ws (.const (.slice none 0 0)) (.tmp 76) rfl wc.heap.size (.slice none 0 0) H [] rfl (OwnI.nil _ _ _) _ _ _ cs1 (L.take k) rfl (by rw[List.length_take];omega) rK (oz.below zJ) (by simp;omega) zJ.size fun v5 w5 hX hg hat=>?_
   rw[List.nil_append]at hX;have qY:=yo (by simpa [Value.ownBlock] using hg);have zJ:=zJ.trans (qY.mono zJ.size)
   try have Vi:=Vi.below qY
   refine Ko hK ?_ fun zy=>?_
   ·exact⟨(xw.below zJ (Nat.le_refl _)).cell q0,(xw.below zJ (Nat.le_refl _)).cell q1,(xw.below zJ (Nat.le_refl _)).cell q2,(xw.below zJ (Nat.le_refl _)).cell q3,(xw.below zJ (Nat.le_refl _)).cell s0,(xw.below zJ (Nat.le_refl _)).cell s1,(xw.below zJ (Nat.le_refl _)).cell s2,(xw.below zJ (Nat.le_refl _)).cell s3⟩
   clear hK K
   refine To 13 rfl fun K hK=>?_
   go_simp
   have Vi:=n7 zJ 26 #[.int .i64 y.kind,.int .u64 y.n,.slice y1 y.bytes.length y2,.slice y3 y.items.length y4,.int .i64 z.kind,.int .u64 z.n,.slice z1 z.bytes.length z2,.slice z3 z.items.length z4]
   try have hX:=hX.alloc (.cells #[.int .i64 y.kind,.int .u64 y.n,.slice y1 y.bytes.length y2,.slice y3 y.items.length y4,.int .i64 z.kind,.int .u64 z.n,.slice z1 z.bytes.length z2,.slice z3 z.items.length z4] 26)
   have zJ:=zJ.alloc zJ.size (.cells #[.int .i64 y.kind,.int .u64 y.n,.slice y1 y.bytes.length y2,.slice y3 y.items.length y4,.int .i64 z.kind,.int .u64 z.n,.slice z1 z.bytes.length z2,.slice z3 z.items.length z4] 26)
   refine Ko hK ?_ fun zy=>?_
   ·exact⟨(xw.below zJ (Nat.le_refl _)).cell q0,(xw.below zJ (Nat.le_refl _)).cell q1,(xw.below zJ (Nat.le_refl _)).cell q2,(xw.below zJ (Nat.le_refl _)).cell q3,(xw.below zJ (Nat.le_refl _)).cell s0,(xw.below zJ (Nat.le_refl _)).cell s1,(xw.below zJ (Nat.le_refl _)).cell s2,(xw.below zJ (Nat.le_refl _)).cell s3⟩
   clear hK K
   refine To 14 rfl fun K hK=>?_
   rw[if_pos (by rfl)]
   refine ws (.tmp 77) (.tmp 87) rfl wc.heap.size _ H (L.take k) rfl hX _ _ _ (zZ y y1 y2 y3 y4++zZ z z1 z2 z3 z4) [y,z] rfl rfl ((ItemsC.one vW).app (ItemsC.one nX)) Vi (by rw[List.length_take];simp;omega) zJ.size fun v7 w7 jS xj hat7=>?_
   have zJ:=zJ.grown xj zJ.size (fun q hq=>(hX.lt q hq).1)
   refine Ko hK ?_ fun zy=>?_
   ·exact⟨(xw.below zJ (Nat.le_refl _)).cell q0,(xw.below zJ (Nat.le_refl _)).cell q1,(xw.below zJ (Nat.le_refl _)).cell q2,(xw.below zJ (Nat.le_refl _)).cell q3,(xw.below zJ (Nat.le_refl _)).cell s0,(xw.below zJ (Nat.le_refl _)).cell s1,(xw.below zJ (Nat.le_refl _)).cell s2,(xw.below zJ (Nat.le_refl _)).cell s3⟩
   clear hK K
   refine To 18 rfl fun K hK=>?_
   rw[if_pos (by rfl)]
   refine ws (.tmp 88) (.tmp 91) rfl wc.heap.size _ H (L.take k++[y,z]) rfl jS _ _ _ cs2 (L.drop k) rfl (by rw[List.length_drop];omega) fc ?_ (by rw[List.length_append,List.length_take,List.length_drop];simp;omega) zJ.size fun v8 w8 Yq hg8 hat8=>?_
   ·exact(Src.slicek Sg fc TU dP.out).below zJ
   have zJ:=zJ.grown hg8 zJ.size (fun q hq=>(jS.lt q hq).1)
   refine Ko hK ?_ fun zy=>?_
   ·exact⟨(xw.below zJ (Nat.le_refl _)).cell q0,(xw.below zJ (Nat.le_refl _)).cell q1,(xw.below zJ (Nat.le_refl _)).cell q2,(xw.below zJ (Nat.le_refl _)).cell q3,(xw.below zJ (Nat.le_refl _)).cell s0,(xw.below zJ (Nat.le_refl _)).cell s1,(xw.below zJ (Nat.le_refl _)).cell s2,(xw.below zJ (Nat.le_refl _)).cell s3⟩
   clear hK K
   refine To 19 rfl fun K hK=>?_
   go_simp
   refine Kz hK ?_
   clear hK K
   refine Wd ?_
   clear zy hX jS hg hat xj hat7 hg8 hat8 qY Vi oz Sg rK fc p0 p1 p2 p3 r0 r1 r2 r3 zQ;obtain⟨VA',vc',rfl,_⟩:=Yq.form;have xo:(L.take k++[y,z]++L.drop k).length=j+2:=by rw[List.length_append,List.length_append,List.length_take,List.length_drop];simp;omega
   rw[xo]at Yq;rw[xo];have na:=Yq.more (base':=w.heap.size+1) (by have:=tL.lt;omega);have rm:=yw.trans (zJ.mono yw.size);have bO:=tL.below zJ;have Oi:=Hh xo;clear xo Yq;go_wp2_with fail
   go_roundw
   case rel =>
    refine⟨j+2,L.take k++[y,z]++L.drop k,b',VA',vc',by omega,by have:=HJ.out;omega,by go_num,rfl,rfl,Oi.out,na,fun x hx=>?_, ?_,fun h2=>?_,⟨fun q=>?_, ?_⟩,rm,bO⟩
    ·simp only[List.mem_append,List.mem_cons,List.not_mem_nil,or_false]at hx
     rcases hx with (hx | rfl | rfl) | hx
     ·exact HS.out.1 x (List.mem_of_mem_take hx)
     ·exact Lv.out.1
     ·exact Lv.out.2
     exact HS.out.1 x (List.mem_of_mem_drop hx)
    ·rw[es,VS.out,HS.out.2.1]
    ·have TS:=HS.out.2.2 h2;have QO:=Lt.out h2
     refine⟨by rw[NT.out h2];exact TS.1, ?_⟩
     rw[Q1.out,← TS.2,QO,List.take_of_length_le (by omega),List.drop_of_length_le (by omega)]
     simp
    ·rw[iU y z (by rw[TU];exact HJ.out) VQ.out (by omega),Om.out.1 q,Q1.out,tk _ (by rw[List.length_take];have:=HJ.out;omega)]
     simp[ze]
    rw[er,Q1.out,tj,Om.out.2]
    simp only[yQ]
    omega
   case measure=>simp[intOf];omega
  go_simp
  have Vi:=n7 zJ 26 #[.int .i64 y.kind,.int .u64 y.n,.slice y1 y.bytes.length y2,.slice y3 y.items.length y4,.int .i64 z.kind,.int .u64 z.n,.slice z1 z.bytes.length z2,.slice z3 z.items.length z4]
  try have hX:=hX.alloc (.cells #[.int .i64 y.kind,.int .u64 y.n,.slice y1 y.bytes.length y2,.slice y3 y.items.length y4,.int .i64 z.kind,.int .u64 z.n,.slice z1 z.bytes.length z2,.slice z3 z.items.length z4] 26)
  have zJ:=zJ.alloc zJ.size (.cells #[.int .i64 y.kind,.int .u64 y.n,.slice y1 y.bytes.length y2,.slice y3 y.items.length y4,.int .i64 z.kind,.int .u64 z.n,.slice z1 z.bytes.length z2,.slice z3 z.items.length z4] 26)
  refine Ko hK ?_ fun zy=>?_
  ·exact⟨(xw.below zJ (Nat.le_refl _)).cell q0,(xw.below zJ (Nat.le_refl _)).cell q1,(xw.below zJ (Nat.le_refl _)).cell q2,(xw.below zJ (Nat.le_refl _)).cell q3,(xw.below zJ (Nat.le_refl _)).cell s0,(xw.below zJ (Nat.le_refl _)).cell s1,(xw.below zJ (Nat.le_refl _)).cell s2,(xw.below zJ (Nat.le_refl _)).cell s3⟩
  clear hK K
  refine To 3 rfl fun K hK=>?_
  rw[if_pos (by rfl)]
  refine ws (.const (.slice none 0 0)) (.tmp 76) rfl wc.heap.size (.slice none 0 0) H [] rfl (OwnI.nil _ _ _) _ _ _ cs1 (L.take k) rfl (by rw[List.length_take];omega) rK (oz.below zJ) (by simp;omega) zJ.size fun v5 w5 hX hg hat=>?_
  rw[List.nil_append]at hX;have qY:=yo (by simpa [Value.ownBlock] using hg);have zJ:=zJ.trans (qY.mono zJ.size)
  try have Vi:=Vi.below qY
  refine Ko hK ?_ fun zy=>?_
  ·exact⟨(xw.below zJ (Nat.le_refl _)).cell q0,(xw.below zJ (Nat.le_refl _)).cell q1,(xw.below zJ (Nat.le_refl _)).cell q2,(xw.below zJ (Nat.le_refl _)).cell q3,(xw.below zJ (Nat.le_refl _)).cell s0,(xw.below zJ (Nat.le_refl _)).cell s1,(xw.below zJ (Nat.le_refl _)).cell s2,(xw.below zJ (Nat.le_refl _)).cell s3⟩
  clear hK K
  refine To 14 rfl fun K hK=>?_
  rw[if_pos (by rfl)]
  refine ws (.tmp 77) (.tmp 87) rfl wc.heap.size _ H (L.take k) rfl hX _ _ _ (zZ y y1 y2 y3 y4++zZ z z1 z2 z3 z4) [y,z] rfl rfl ((ItemsC.one vW).app (ItemsC.one nX)) Vi (by rw[List.length_take];simp;omega) zJ.size fun v7 w7 jS xj hat7=>?_
  have zJ:=zJ.grown xj zJ.size (fun q hq=>(hX.lt q hq).1)
  refine Ko hK ?_ fun zy=>?_
  ·exact⟨(xw.below zJ (Nat.le_refl _)).cell q0,(xw.below zJ (Nat.le_refl _)).cell q1,(xw.below zJ (Nat.le_refl _)).cell q2,(xw.below zJ (Nat.le_refl _)).cell q3,(xw.below zJ (Nat.le_refl _)).cell s0,(xw.below zJ (Nat.le_refl _)).cell s1,(xw.below zJ (Nat.le_refl _)).cell s2,(xw.below zJ (Nat.le_refl _)).cell s3⟩
  clear hK K
  refine To 18 rfl fun K hK=>?_
  rw[if_pos (by rfl)]
  refine ws (.tmp 88) (.tmp 91) rfl wc.heap.size _ H (L.take k++[y,z]) rfl jS _ _ _ cs2 (L.drop k) rfl (by rw[List.length_drop];omega) fc ?_ (by rw[List.length_append,List.length_take,List.length_drop];simp;omega) zJ.size fun v8 w8 Yq hg8 hat8=>?_
  ·exact(Src.slicek Sg fc TU dP.out).below zJ
  have zJ:=zJ.grown hg8 zJ.size (fun q hq=>(jS.lt q hq).1)
  refine Ko hK ?_ fun zy=>?_
  ·exact⟨(xw.below zJ (Nat.le_refl _)).cell q0,(xw.below zJ (Nat.le_refl _)).cell q1,(xw.below zJ (Nat.le_refl _)).cell q2,(xw.below zJ (Nat.le_refl _)).cell q3,(xw.below zJ (Nat.le_refl _)).cell s0,(xw.below zJ (Nat.le_refl _)).cell s1,(xw.below zJ (Nat.le_refl _)).cell s2,(xw.below zJ (Nat.le_refl _)).cell s3⟩
  clear hK K
  refine To 19 rfl fun K hK=>?_
  go_simp
  refine Kz hK ?_
  clear hK K
  refine Wd ?_
  clear zy hX jS hg hat xj hat7 hg8 hat8 qY Vi oz Sg rK fc p0 p1 p2 p3 r0 r1 r2 r3 zQ;obtain⟨VA',vc',rfl,_⟩:=Yq.form;have xo:(L.take k++[y,z]++L.drop k).length=j+2:=by rw[List.length_append,List.length_append,List.length_take,List.length_drop];simp;omega
  rw[xo]at Yq;rw[xo];have na:=Yq.more (base':=w.heap.size+1) (by have:=tL.lt;omega);have rm:=yw.trans (zJ.mono yw.size);have bO:=tL.below zJ;have Oi:=Hh xo;clear xo Yq;go_wp2_with fail
  go_roundw
  case rel =>
   refine⟨j+2,L.take k++[y,z]++L.drop k,b',VA',vc',by omega,by have:=HJ.out;omega,by go_num,rfl,rfl,Oi.out,na,fun x hx=>?_, ?_,fun h2=>?_,⟨fun q=>?_, ?_⟩,rm,bO⟩
   ·simp only[List.mem_append,List.mem_cons,List.not_mem_nil,or_false]at hx
    rcases hx with (hx | rfl | rfl) | hx
    ·exact HS.out.1 x (List.mem_of_mem_take hx)
    ·exact Lv.out.1
    ·exact Lv.out.2
    exact HS.out.1 x (List.mem_of_mem_drop hx)
   ·rw[es,VS.out,HS.out.2.1]
   ·have TS:=HS.out.2.2 h2;have QO:=Lt.out h2
    refine⟨by rw[NT.out h2];exact TS.1, ?_⟩
    rw[Q1.out,← TS.2,QO,List.take_of_length_le (by omega),List.drop_of_length_le (by omega)]
    simp
   ·rw[iU y z (by rw[TU];exact HJ.out) VQ.out (by omega),Om.out.1 q,Q1.out,tk _ (by rw[List.length_take];have:=HJ.out;omega)]
    simp[ze]
   rw[er,Q1.out,tj,Om.out.2]
   simp only[yQ]
   omega
  case measure=>simp[intOf];omega
 have rO:j=ps.length:=by omega
 subst rO;have T7:(zM L).length=(zM ps).length:=by have:=HS.out.2.1;rw[List.take_length]at this;exact this
 have jZ:xY ps=true→b=false∧L=ps:=fun h=>by have:=HS.out.2.2 h;rw[List.take_length]at this;exact this
 have HZ:=Hh (And.intro T7 jZ);have Em:Hid (PQ L ps):=by have:=Om.out;rwa [List.take_length]at this
 clear T7 jZ
 cases b with
 | true =>
  go_wp2_with (with_reducible refine zx ?_)
  refine stI sJ fun w9 nU xr=>?_
  have sO:=(Grows.of_below hH yS).grownOwn yP (Nat.le_refl _) xr;go_wp2_with fail
  refine zf rfl rfl nU rfl rfl zp rfl ?_
  exact⟨_,.inr ⟨7,rfl,by omega,⟨none,0,none,0,H,rfl,sO,IsItem.plain H 0 0 (by omega) (by omega)⟩,fun h=>by have:=(HZ.out.2 h.2.1).1;cases this⟩⟩
 | false =>
 obtain⟨H8,Yf,Vn,aR,Tn,tD,sv,fW⟩:=wG.snap (hH.below yS (Nat.le_refl _)) (fun g hg=>hH.none_of_ge (by have:=(wG.lt g (qy hg)).1;omega))
 have uX:Grows w H wr H8:=⟨yS,Yf,Vn,fun b o hb=>by
  rcases aR b o hb with h | h
  ·exact .inl h
  exact .inr (by have:=(wG.lt b (qy h)).1;omega)⟩
 have Pg:H8 w.heap.size=none:=by
  cases h8:H8 w.heap.size with
  | none=>rfl
  | some o =>
  rcases aR _ o h8 with h | h
  ·rw[yP]at h;cases h
  have:=(wG.lt w.heap.size (qy h)).1;omega
 have JE:=Tn;obtain⟨x7,pL⟩:∃ x,Itm.mk 5 0 [] L=x:=⟨_,rfl⟩
 have nf:IsItem H8 none 0 VA vc x7:=by
  rw[← pL,IsItem]
  exact⟨⟨by omega,by omega,by omega,tD,sv⟩,IsBytes.nil _,fW⟩
 have QI:ItemA H8 5 0 none 0 0 VA ps.length vc x7:=by
  refine⟨by rw[← pL];rfl,by rw[← pL];rfl,by rw[← pL];rfl, ?_,nf⟩
  rw[← pL];exact Tn
 have sO:=uX.alloc (.cells #[.int .i64 5,.int .u64 0,.slice none 0 0,.slice VA ps.length vc] 26);have nU:=sJ.alloc (.cells #[.int .i64 5,.int .u64 0,.slice none 0 0,.slice VA ps.length vc] 26);have ly:=Blk.new wr 26 #[.int .i64 5,.int .u64 0,.slice none 0 0,.slice VA ps.length vc];have V:=Hh (tm (hTab.mono Yf) QI _ sO.holds);have ET:=Hh QI;have SO:=Hh pL;clear pL nf QI tD sv fW Tn JE aR wG sJ
 cases hv:zX x7 with
 | false =>
  rw[hv]at V;have HV:=Hh hv;clear hv;go_wp2_with fail
  refine V.out.mono ?_
  rintro e w10 ⟨rfl,rC⟩
  have oZ:=sO.below_ rC;have pC:=nU.below rC;clear sO nU ly uX rC;go_wp2_with (with_reducible refine zx ?_)
  refine stI pC fun w11 fU tZ=>?_
  have Zy:=oZ.grownOwn Pg (Nat.le_refl _) tZ;go_wp2_with fail
  refine zf rfl rfl fU rfl rfl zp rfl ?_
  exact⟨_,.inr ⟨8,rfl,by omega,⟨none,0,none,0,H8,rfl,Zy,IsItem.plain H8 0 0 (by omega) (by omega)⟩,fun h=>by
   have h1:=HV.out;rw[← SO.out,(HZ.out.2 h.2.1).2,h.2.2.2]at h1
   cases h1⟩⟩
 | true =>
 rw[hv]at V;have HV:=Hh hv;clear hv;go_wp2_with fail
 refine V.out.mono ?_
 rintro e w10 ⟨rfl,rC⟩
 have oZ:=sO.below_ rC;have pC:=nU.below rC;have gd:=ly.below rC;have c0:=gd.cell 0 rfl;have c1:=gd.cell 1 rfl;have c2:=gd.cell 2 rfl;have c3:=gd.cell 3 rfl;have C:=Hh (pt x7 H8 _ _ _ _ _ _ _ _ w10 (zE HV.out) ET.out oZ.holds);clear sO nU ly uX rC;go_wp2_with fail
 refine C.out.mono ?_
 rintro e w11 ⟨v11,rfl,ja,jb,jc,jd,ER,rfl,Zy,JX⟩
 have fU:=pC.below Zy.below;have Jj:=Zy.none Pg pC.lt;have mF:=oZ.trans Zy;clear pC oZ Zy c0 c1 c2 c3;go_wp2_with (with_reducible refine zx ?_)
 refine stI fU fun w12 RS hg12=>?_
 have sr:=mF.grownOwn Jj (Nat.le_refl _) hg12;go_wp2_with fail
 refine zf rfl rfl RS rfl rfl zp rfl ?_
 exact⟨_,.inl ⟨L,rfl,by rw[SO.out];exact⟨ja,jb,jc,jd,ER,rfl,sr,JX⟩,by rw[SO.out];exact HV.out,HZ.out.1,fun h=>(HZ.out.2 h).2,Em.out⟩⟩
theorem aX:∀ {ps:List Itm},ps.length=2→xY ps=true
 | [_,_],_=>rfl
end Go.Proofs.YtliomcphdnppnaaGreatDoor
