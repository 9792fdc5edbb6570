/- squeezed. Walks: the reference's Build; of p -/
import Derived.Test.YtliomcphdnppnaaGreatDoorK17
set_option linter.unusedVariables false
set_option linter.unusedSimpArgs false
set_option maxRecDepth 100000
set_option maxHeartbeats 12800000
namespace Go.Proofs.YtliomcphdnppnaaGreatDoor
open Go.RowKit
theorem da (l:List Itm) (h:xe l=true):∀ i:Nat,xe (l.drop (2*i))=true
 | 0=>by simpa using h
 | i+1=>by
  have ih:=da l h i;rw[show 2*(i+1)=2*i+2 by omega,← List.drop_drop]
  generalize l.drop (2*i)=m at ih
  match m,ih with
  | [],_=>rfl
  | [_],_=>rfl
  | _::_::m,ih=>exact gH ih
theorem V9 {l:List Itm}(h:xe l=true) {m:Nat}(he:m%2=0) (hm:m+2<l.length):Lib.compareBytes (zi (l[m]'(by omega))) (zi l[m+2])<0:=by
 obtain⟨i,rfl⟩:∃ i,m=2*i:=⟨m/2,by omega⟩
 have h1:=da l h i;have h2:=mG l (2*i+2) (by omega) hm
 simp only[Nat.add_sub_cancel]at h2
 rw[h1]at h2;have h3:=(Bool.and_eq_true _ _).mp h2.symm;have h4:=of_decide_eq_true h3.1
 simpa using h4
def BuildSaid2 (w:World) (H:Snap) (ps:List Itm) (e:Ending) (w':World):Prop :=
 ∃ v,(∃ l,e=.returned (.tuple #[v,.int .i64 0])∧Gives w H (.mk 5 0 [] l) v w'∧zU (.mk 5 0 [] l)=true∧(zG l).length=(zG ps).length∧(xe ps=true→l=ps))∨
  (∃ c,e=.returned (.tuple #[v,.int .i64 c])∧c≠0∧Gives w H zn v w'∧¬ (ps.length%2=0∧xe ps=true∧(∀ x∈ps,zU x=true)∧zU (.mk 5 0 [] ps)=true))
def BuildSaid3 (w:World) (H:Snap) (ps:List Itm) (e:Ending) (w':World):Prop :=
 ∃ v,(∃ l,e=.returned (.tuple #[v,.int .i64 0])∧Gives w H (.mk 5 0 [] l) v w'∧zU (.mk 5 0 [] l)=true∧(zG l).length=(zG ps).length∧(xe ps=true→l=ps)∧(∀ q,q∈zg l↔q∈zg ps))∨
  (∃ c,e=.returned (.tuple #[v,.int .i64 c])∧c≠0∧Gives w H zn v w'∧¬ (ps.length%2=0∧xe ps=true∧(∀ x∈ps,zU x=true)∧zU (.mk 5 0 [] ps)=true))
theorem te:∀ {a:List Itm}(b:List Itm),a.length%2=0→zg (a++b)=zg a++zg b
 | [],_,_=>rfl
 | [_],_,h=>by simp at h
 | x::y::a,b,h=>by
  rw[List.cons_append,List.cons_append,zg,zg,te (a:=a) b (by simp at h;omega)];rfl
theorem gc {L:List Itm}{k:Nat}(y z:Itm) (he:L.length%2=0) (hk:k%2=0) (hl:k≤L.length) (q:Itm×Itm):q∈zg (L.take k++[y,z]++L.drop k)↔q∈zg L∨q=(y,z):=by
 have ht:(L.take k).length%2=0:=by rw[List.length_take];omega
 have e:zg L=zg (L.take k)++zg (L.drop k):=by rw[← te _ ht,List.take_append_drop]
 rw[te _ (by rw[List.length_append];simp;omega),te _ ht,e]
 simp only[zg,List.mem_append,List.mem_cons,List.not_mem_nil,or_false]
 constructor
 ·rintro((h | h) | h)
  ·exact .inl (.inl h)
  ·exact .inr h
  exact .inl (.inr h)
 rintro((h | h) | h)
 ·exact .inl (.inl h)
 ·exact .inr h
 exact .inl (.inr h)
theorem jY {H:Snap}(hTab:Tabs H) {A:Option Addr}{c:Nat}{ps:List Itm}(hr:IsRowI H A c ps) (hl:ps.length≤1099511627776) (w:World) (hH:Holds w H) :
  Calls Tryz.prog 87 #[.slice A ps.length c] w (BuildSaid3 w H ps):=by
 have hT:=Blk.new w 26 #[.int .i64 0,.int .u64 0,.slice none 0 0,.slice none 0 0];have hb:=zu w zT;have yV:H w.heap.size=none:=hH.none_of_ge (Nat.le_refl _);have HR:=Hh hr;clear hr
 by_cases xF:ps.length%2=0
 case neg =>
  have b1:((ps.length:Int)%2 != 0)=true:=by rw[bne_iff_ne];omega
  have p1:((ps.length:Int)%2=0)=False:=eq_false (by omega);have HE:=Hh xF;clear xF;go_enter Tryz.func87,Tryz.ntmps87
  go_wp2_with fail
  refine zY rfl rfl hT rfl rfl zp rfl ?_
  exact⟨_,.inr ⟨1,rfl,by omega,⟨none,0,none,0,H,rfl,Grows.of_below hH hb,IsItem.plain H 0 0 (by omega) (by omega)⟩,fun h=>HE.out h.1⟩⟩
 have b1:((ps.length:Int)%2 != 0)=false:=by rw[bne_eq_false_iff_eq];omega
 have p1:((ps.length:Int)%2=0)=True:=eq_true (by omega);have HE:=Hh xF;clear xF;go_enter Tryz.func87,Tryz.ntmps87
 go_wp2_with fail
 go_loopw [18] (fun v18 wr=>∃ j:Nat,j≤ps.length∧v18=.int .i64 j∧(∀ x∈ps.take j,zU x=true)∧Below w.heap.size w wr∧Blk wr w.heap.size 26 #[.int .i64 0,.int .u64 0,.slice none 0 0,.slice none 0 0]) (fun v18 _=>ps.length-(intOf v18).toNat)
 case atStart=>exact⟨0,Nat.zero_le _,rfl,by simp,hb,hT⟩
 case round =>
 clear hb hT;obtain⟨j,hj,rfl,ts,yO,rm⟩:=hrel
 by_cases zB:j<ps.length
 ·have yG:=hH.below yO (Nat.le_refl _);obtain⟨ib,io,tK,xA⟩:=HR.out.elems (by omega);obtain⟨y1,y2,y3,y4,q0,q1,q2,q3,va⟩:=xA.get j zB;subst tK;have p0:=yG.cell q0;have p1':=yG.cell q1;have p2:=yG.cell q2;have p3:=yG.cell q3;have Ke:=yG.alloc (zh ps[j] y1 y2 y3 y4);have V:=Hh (sX hTab va.arg _ Ke);have zK:=yO.alloc yO.size (zh ps[j] y1 y2 y3 y4);have tm:=rm.alloc (zh ps[j] y1 y2 y3 y4);have iY:ps[j]∈ps:=List.getElem_mem zB;have HT:=Hh (show ps.take (j+1)=ps.take j++[ps[j]] from List.take_succ_eq_append_getElem zB);have Mk:=Hh ts
  generalize ps[j]'zB=x at *
  clear q0 q1 q2 q3 xA va yO rm yG ts
  cases hv:zU x with
  | false =>
   rw[hv]at V;have HX:=Hh (And.intro hv iY);clear hv iY;go_wp2_with fail
   refine V.out.mono ?_
   rintro e w3 ⟨rfl,xz⟩
   have Zf:=tm.below xz;have zA:=zK.trans (xz.mono zK.size);clear tm zK xz;go_wp2_with (with_reducible refine zx ?_)
   refine stI Zf fun w9 kj yL=>?_
   have tI:=(Grows.of_below hH zA).grownOwn yV (Nat.le_refl _) yL;go_wp2_with fail
   refine zY rfl rfl kj rfl rfl zp rfl ?_
   exact⟨_,.inr ⟨1,rfl,by omega,⟨none,0,none,0,H,rfl,tI,IsItem.plain H 0 0 (by omega) (by omega)⟩,fun h=>by rw[h.2.2.1 x HX.out.2]at HX;cases HX.out.1⟩⟩
  | true =>
  rw[hv]at V;have HX:=Hh hv;clear hv iY;go_wp2_with fail
  refine V.out.mono ?_
  rintro e w3 ⟨rfl,xz⟩
  have Zf:=tm.below xz;have zA:=zK.trans (xz.mono zK.size);have TD:(j:Int)+1≤9223372036854775807:=by omega
  clear tm zK xz;go_wp2_with fail
  go_roundw
  case rel=>exact⟨j+1,by omega,by go_num,fun y hy=>by rw[HT.out,List.mem_append]at hy;rcases hy with hy | hy;exact Mk.out y hy;rw[List.mem_singleton.1 hy];exact HX.out,zA,Zf⟩
  case measure=>simp[intOf];omega
 have qq:j=ps.length:=by omega
 subst qq;rw[List.take_length]at ts;have Mk:=Hh ts;clear ts;go_wp2_with fail
 go_loopw [6,7,8] (fun v6 v7 v8 wr=>∃ (j:Nat) (L:List Itm) (b:Bool) (VA:Option Addr) (vc:Nat),j≤ps.length∧j%2=0∧v8=.int .i64 (j:Int)∧v7=.bool b∧v6=.slice VA j vc∧L.length=j∧OwnI wr (w.heap.size+1) (.slice VA j vc) H L∧(∀ x∈L,x∈ps)∧
  (zG L).length=(zG (ps.take j)).length∧(xe ps=true→b=false∧L=ps.take j)∧(∀ q,q∈zg L↔q∈zg (ps.take j))∧Below w.heap.size w wr∧Blk wr w.heap.size 26 #[.int .i64 0,.int .u64 0,.slice none 0 0,.slice none 0 0]) (fun _ _ v8 _=>ps.length+1-(intOf v8).toNat)
 case atStart=>exact⟨0,[],false,none,0,Nat.zero_le _,rfl,rfl,rfl,rfl,rfl,OwnI.nil _ _ _,by simp,by simp,fun _=>⟨rfl,by simp⟩,fun q=>by simp,yO,rm⟩
 case round =>
 clear yO rm;obtain⟨j,L,b,VA,vc,hj,NN,rfl,rfl,rfl,RM,wE,iY,iu,h2,GP,yO,rm⟩:=hrel;have Is:=Hh GP
 have TV:Hid ((j:Int)≤vc):=by
  obtain⟨_,c9,e,h1,_⟩:=wE.form;injection e with _ _ e3
  subst e3;show(j:Int)≤(vc:Int)
  omega
 have HS:=Hh (And.intro iY (And.intro iu h2));have HJ:=Hh NN;clear iY iu h2 NN GP
 by_cases zB:j<ps.length
 ·have nl:j+1<ps.length:=by have:=HJ.out;have:=HE.out;omega
  obtain⟨ib,io,tK,xA⟩:=HR.out.elems (by omega);obtain⟨y1,y2,y3,y4,q0,q1,q2,q3,va⟩:=xA.get j zB;obtain⟨z1,z2,z3,z4,s0,s1,s2,s3,mn⟩:=xA.get (j+1) nl;subst tK;have FB:=Hh (Mk.out ps[j] (List.getElem_mem zB));have KE:=Hh (And.intro (List.getElem_mem zB) (List.getElem_mem nl))
  have WM:=Hh (show(zG (ps.take (j+2))).length=(zG (ps.take j)).length+(zi ps[j]).length+(zi ps[j+1]).length by
   have h1:=vK ps (j+1) nl;have h2:=vK ps j zB;rw[show j+2=j+1+1 by omega,h1,h2];simp only[List.length_append])
  have KJ:=Hh (show ps.take (j+2)=ps.take j++[ps[j],ps[j+1]] by
   rw[show j+2=j+1+1 by omega,List.take_succ_eq_append_getElem nl,List.take_succ_eq_append_getElem zB,List.append_assoc];rfl)
  have fi:=Hh (show xe ps=true→∀ m (hm:m+2=j) (hl:m<L.length),Lib.compareBytes (zi L[m]) (zi ps[j])<0 from fun hA m hm hl=>by
   have e:=(HS.out.2.2 hA).2;have Jg:m<j:=by omega
   have iq:m<ps.length:=by omega
   have h1:L[m]? = some (ps[m]'iq):=by rw[e,List.getElem?_take,if_pos Jg,List.getElem?_eq_getElem]
   rw[List.getElem?_eq_getElem hl]at h1;rw[Option.some.inj h1];have h2:=V9 (m:=m) hA (by have:=HJ.out;omega) (by omega);have h3:ps[m+2]'(by omega)=ps[j]:=by congr 1
   rw[h3]at h2
   exact h2)
  generalize ps[j]'zB=y at *
  generalize ps[j+1]'nl=z at *
  clear xA;have Pv:(j:Int)<ps.length:=by omega
  have LK:(j:Int)+1<ps.length:=by omega
  have TD:(j:Int)+2≤9223372036854775807:=by omega
  have Wf:Hid (IntKind.i64.wrap ((j:Int)+1)=(j:Int)+1):=IntWalk.i64_in _ (by omega);go_wp2_with fail
  go_loopw [9] (fun v9 wx=>∃ k:Nat,k≤j∧k%2=0∧(xe ps=true→k=j)∧v9=.int .i64 (k:Int)∧OwnI wx (w.heap.size+1) (.slice VA j vc) H L∧Below w.heap.size w wx∧Blk wx w.heap.size 26 #[.int .i64 0,.int .u64 0,.slice none 0 0,.slice none 0 0]) (fun v9 _=>(intOf v9).toNat)
  case atStart=>exact⟨j,Nat.le_refl _,HJ.out,fun _=>rfl,rfl,wE,yO,rm⟩
  case round =>
  clear wE yO rm;obtain⟨k,hk,GJ,ON,rfl,br,yH,tA⟩:=hrel;have KC:=Hh ON;clear ON;have Tt:=Hh GJ;clear GJ;have GI:((k:Nat):Int)≤j:=by omega
  go_upto_region 15 with fail
  go_cut [51] (fun s51 wx=>∃ bb:Bool,s51=.bool bb∧(bb=true→2≤k)∧(xe ps=true→bb=false)∧OwnI wx (w.heap.size+1) (.slice VA j vc) H L∧Below w.heap.size w wx∧Blk wx w.heap.size 26 #[.int .i64 0,.int .u64 0,.slice none 0 0,.slice none 0 0])
  case first =>
   by_cases ij:k=0
   ·subst ij;skip
    refine zw 16 (fun _=>True) (by kernel_rfl) (trivial) (fun zy=>?_)
    refine Tk 0 rfl zy ?_
    refine Tk 1 rfl zy ?_
    refine Tk 2 rfl zy ?_
    refine TkU 3 rfl zy ?_
    refine TkU 4 rfl zy ?_
    refine TkU 5 rfl zy ?_
    refine TkU 6 rfl zy ?_
    refine TkU 7 rfl zy ?_
    refine TkU 8 rfl zy ?_
    refine TkU 9 rfl zy ?_
    refine TkU 10 rfl zy ?_
    refine TkU 11 rfl zy ?_
    refine TkU 12 rfl zy ?_
    refine TkU 13 rfl zy ?_
    refine TkU 14 rfl zy ?_
    refine TkU 15 rfl zy ?_
    refine To 16 rfl fun K hK=>?_
    go_simp
    refine Kz hK ?_
    clear hK K
    refine Wd ?_
    go_wp2_with fail
    go_meet
    exact⟨false,rfl,(fun h=>by cases h),(fun _=>rfl),br,yH.drew,tA⟩
   obtain⟨m,rfl⟩:∃ m,k=m+2:=⟨k-2,by have:=Tt.out;omega⟩
   have Jg:m<j:=by omega
   obtain⟨lb,lo,Jc,x1,x2,x3,x4,c0,c1,c2,c3,JP⟩:=br.cells m (by omega);subst Jc;have Ml:=Hh (Mk.out _ (HS.out.1 _ (List.getElem_mem (show m<L.length by omega))));have Nt:=Hh (show xe ps=true→Lib.compareBytes (zi (L[m]'(by omega))) (zi y)<0 from fun hA=>fi.out hA m (KC.out hA) (by omega))
   generalize L[m]'(by omega)=x at *
   have e2:((m+2:Nat):Int)=(m:Int)+2:=by omega
   rw[e2];have qr:IntKind.i64.wrap ((m:Int)+2-2)=(m:Int):=by rw[show(m:Int)+2-2=(m:Int) by omega];exact IntWalk.i64_in _ (by omega)
   have lQ:IntKind.i64.wrap (m:Int)=(m:Int):=IntWalk.i64_in _ (by omega);have Dv:(m:Int)<j:=by omega
   have ey:(0:Int)≤(m:Int):=by omega
   have iq:(0:Int)<(m:Int)+2:=by omega
   have zP:=(hH.below yH (Nat.le_refl _)).drew;have p0:=zP.cell q0;have p1:=zP.cell q1;have p2:=zP.cell q2;have p3:=zP.cell q3;have c0:=uO c0;have c1:=uO c1;have c2:=uO c2;have c3:=uO c3;have zA:=yH.drew;have bw:=OwnI.drew br;have vo:=tA.drew;obtain⟨cmp,qm⟩:∃ cmp,Lib.compareBytes (zi x) (zi y)=cmp:=⟨_,rfl⟩
   have gx:=(yw x).1 Ml.out;have gy:=(yw y).1 FB.out;have QD:=Hh gx;have QE:=Hh gy;have Ig:=Hh qm;have If:=Hh (show xe ps=true→cmp<0 from fun hA=>by have h:=Nt.out hA;rw[qm]at h;exact h);clear gx gy qm e2 br yH tA ij hk;skip
   refine zw 16 (fun w'=>w'.cell? ⟨lb,lo+m*4,none⟩=some (.int .i64 x.kind)∧w'.cell? ⟨lb,lo+m*4+1,none⟩=some (.int .u64 x.n)∧w'.cell? ⟨lb,lo+m*4+2,none⟩=some (.slice x1 x.bytes.length x2)∧w'.cell? ⟨lb,lo+m*4+3,none⟩=some (.slice x3 x.items.length x4)∧w'.cell? ⟨ib,io+j*4,none⟩=some (.int .i64 y.kind)∧w'.cell? ⟨ib,io+j*4+1,none⟩=some (.int .u64 y.n)∧w'.cell? ⟨ib,io+j*4+2,none⟩=some (.slice y1 y.bytes.length y2)∧w'.cell? ⟨ib,io+j*4+3,none⟩=some (.slice y3 y.items.length y4)) (by kernel_rfl) (⟨c0,c1,c2,c3,p0,p1,p2,p3⟩) (fun zy=>?_)
   refine Tk 0 rfl zy ?_
   refine Tk 1 rfl zy ?_
   refine Tk 2 rfl zy ?_
   refine TkG 3 rfl zy ?_
   refine TkG 4 rfl zy ?_
   refine TkG 5 rfl zy ?_
   refine TkG 6 rfl zy ?_
   refine TkG 7 rfl zy ?_
   refine TkG 9 rfl zy ?_
   refine TkG 10 rfl zy ?_
   refine TkG 11 rfl zy ?_
   refine TkG 12 rfl zy ?_
   refine To 8 rfl fun K hK=>?_
   go_simp
   refine(qe x H _ _ x1 _ x2 x3 _ x4 _ 0 QD.out.1 (by have:=QD.out.2.2;omega) JP.arg zP).mono ?_
   rintro e w5 ⟨r5,rfl,vC⟩
   obtain⟨RA5,rc5,rfl,_⟩:=vC.own.form;have zP:=zP.below vC.2 (Nat.le_refl _);have zA:=zA.trans (vC.2.mono zA.size);have bw:=bw.below vC.2;have vo:=vo.below vC.2;have fs:=vC.own.src;have c0:=yz c0 vC.2;have c1:=yz c1 vC.2;have c2:=yz c2 vC.2;have c3:=yz c3 vC.2
   refine Ko hK ?_ fun zy=>?_
   ·exact⟨c0,c1,c2,c3,zP.cell q0,zP.cell q1,zP.cell q2,zP.cell q3⟩
   clear hK K
   refine To 13 rfl fun K hK=>?_
   go_simp
   refine(qe y H _ _ y1 _ y2 y3 _ y4 _ 0 QE.out.1 (by have:=QE.out.2.2;omega) va.arg zP).mono ?_
   rintro e w6 ⟨r6,rfl,tC⟩
   obtain⟨RA6,rc6,rfl,_⟩:=tC.own.form;have zP:=zP.below tC.2 (Nat.le_refl _);have zA:=zA.trans (tC.2.mono zA.size);have bw:=bw.below tC.2;have vo:=vo.below tC.2;have fs:=fs.below tC.2;have WB:=tC.own.src;have c0:=yz c0 tC.2;have c1:=yz c1 tC.2;have c2:=yz c2 tC.2;have c3:=yz c3 tC.2
   refine Ko hK ?_ fun zy=>?_
   ·exact⟨c0,c1,c2,c3,zP.cell q0,zP.cell q1,zP.cell q2,zP.cell q3⟩
   clear hK K
   refine To 14 rfl fun K hK=>?_
   go_simp
   refine(rY _ RA5 RA6 (zi x) (zi y) (zi x).length (zi y).length rc5 rc6 rfl rfl (by have:=QD.out.2.2;omega) (by have:=QE.out.2.2;omega) fs WB).mono ?_
   rintro e w7 ⟨rfl,wJ⟩
   rw[Ig.out];have zP:=zP.below wJ (Nat.le_refl _);have zA:=zA.trans (wJ.mono zA.size);have bw:=bw.below wJ;have vo:=vo.below wJ;have c0:=yz c0 wJ;have c1:=yz c1 wJ;have c2:=yz c2 wJ;have c3:=yz c3 wJ
   refine Ko hK ?_ fun zy=>?_
   ·exact⟨c0,c1,c2,c3,zP.cell q0,zP.cell q1,zP.cell q2,zP.cell q3⟩
   clear hK K
   refine TkG 15 rfl zy ?_
   refine To 16 rfl fun K hK=>?_
   go_simp
   refine Kz hK ?_
   clear hK K
   refine Wd ?_
   clear zy fs WB c0 c1 c2 c3 p0 p1 p2 p3;go_wp2_with fail
   go_meet
   exact⟨decide ((0:Int)<cmp),rfl,(fun _=>by omega),(fun hA=>decide_eq_false (by have:=If.out hA;omega)),bw,zA,vo⟩
  case rest =>
  clear br yH tA;obtain⟨bb,rfl,tV,G1,br,yH,tA⟩:=hcut;have CM:=Hh G1;clear G1
  cases bb with
  | true =>
   obtain⟨m,rfl⟩:∃ m,k=m+2:=⟨k-2,by have:=tV rfl;omega⟩
   have qr:IntKind.i64.wrap (((m+2:Nat):Int)-2)=(m:Int):=by rw[show((m+2:Nat):Int)-2=(m:Int) by omega];exact IntWalk.i64_in _ (by omega)
   clear tV;go_wp2_with fail
   go_roundw
   case rel=>exact⟨m,by omega,by have:=Tt.out;omega,(fun hA=>by have:=CM.out hA;cases this),by first | rfl | go_num,br,yH,tA⟩
   case measure=>simp[intOf];omega
  | false =>
  clear tV;go_upto_region 17 with fail
  go_cut [7] (fun s7 wx=>∃ b':Bool,s7=.bool b'∧(k=0→b'=b)∧(xe ps=true→b'=b)∧OwnI wx (w.heap.size+1) (.slice VA j vc) H L∧Below w.heap.size w wx∧Blk wx w.heap.size 26 #[.int .i64 0,.int .u64 0,.slice none 0 0,.slice none 0 0])
  case first =>
   cases b with
   | true =>
    refine zw 20 (fun _=>True) (by kernel_rfl) (trivial) (fun zy=>?_)
    refine Tk 0 rfl zy ?_
    refine Tk 1 rfl zy ?_
    refine TkU 2 rfl zy ?_
    refine TkU 3 rfl zy ?_
    refine TkU 4 rfl zy ?_
    refine TkU 5 rfl zy ?_
    refine TkU 6 rfl zy ?_
    refine TkU 7 rfl zy ?_
    refine TkU 8 rfl zy ?_
    refine TkU 9 rfl zy ?_
    refine TkU 10 rfl zy ?_
    refine TkU 11 rfl zy ?_
    refine TkU 12 rfl zy ?_
    refine TkU 13 rfl zy ?_
    refine TkU 14 rfl zy ?_
    refine TkU 15 rfl zy ?_
    refine TkU 16 rfl zy ?_
    refine TkU 17 rfl zy ?_
    refine TkU 18 rfl zy ?_
    refine Tk 19 rfl zy ?_
    refine To 20 rfl fun K hK=>?_
    go_simp
    refine Kz hK ?_
    clear hK K
    refine Wd ?_
    go_wp2_with fail
    go_meet
    exact⟨true,rfl,(fun _=>rfl),(fun _=>rfl),br,yH.drew,tA⟩
   | false =>
   by_cases ij:k=0
   ·subst ij
    refine zw 20 (fun _=>True) (by kernel_rfl) (trivial) (fun zy=>?_)
    refine Tk 0 rfl zy ?_
    refine Tk 1 rfl zy ?_
    refine TkG 2 rfl zy ?_
    refine TkG 3 rfl zy ?_
    refine TkG 4 rfl zy ?_
    refine TkU 5 rfl zy ?_
    refine TkU 6 rfl zy ?_
    refine TkU 7 rfl zy ?_
    refine TkU 8 rfl zy ?_
    refine TkU 9 rfl zy ?_
    refine TkU 10 rfl zy ?_
    refine TkU 11 rfl zy ?_
    refine TkU 12 rfl zy ?_
    refine TkU 13 rfl zy ?_
    refine TkU 14 rfl zy ?_
    refine TkU 15 rfl zy ?_
    refine TkU 16 rfl zy ?_
    refine TkU 17 rfl zy ?_
    refine TkG 18 rfl zy ?_
    refine Tk 19 rfl zy ?_
    refine To 20 rfl fun K hK=>?_
    go_simp
    refine Kz hK ?_
    clear hK K
    refine Wd ?_
    go_wp2_with fail
    go_meet
    exact⟨false,rfl,(fun _=>rfl),(fun _=>rfl),br,yH.drew,tA⟩
   skip
   obtain⟨m,rfl⟩:∃ m,k=m+2:=⟨k-2,by have:=Tt.out;omega⟩
   have Jg:m<j:=by omega
   obtain⟨lb,lo,Jc,x1,x2,x3,x4,c0,c1,c2,c3,JP⟩:=br.cells m (by omega);subst Jc;have Ml:=Hh (Mk.out _ (HS.out.1 _ (List.getElem_mem (show m<L.length by omega))));have Nt:=Hh (show xe ps=true→Lib.compareBytes (zi (L[m]'(by omega))) (zi y)<0 from fun hA=>fi.out hA m (KC.out hA) (by omega))
   generalize L[m]'(by omega)=x at *
   have e2:((m+2:Nat):Int)=(m:Int)+2:=by omega
   rw[e2];have qr:IntKind.i64.wrap ((m:Int)+2-2)=(m:Int):=by rw[show(m:Int)+2-2=(m:Int) by omega];exact IntWalk.i64_in _ (by omega)
   have lQ:IntKind.i64.wrap (m:Int)=(m:Int):=IntWalk.i64_in _ (by omega);have Dv:(m:Int)<j:=by omega
   have ey:(0:Int)≤(m:Int):=by omega
   have iq:(0:Int)<(m:Int)+2:=by omega
   have zP:=(hH.below yH (Nat.le_refl _)).drew;have p0:=zP.cell q0;have p1:=zP.cell q1;have p2:=zP.cell q2;have p3:=zP.cell q3;have c0:=uO c0;have c1:=uO c1;have c2:=uO c2;have c3:=uO c3;have zA:=yH.drew;have bw:=OwnI.drew br;have vo:=tA.drew;obtain⟨cmp,qm⟩:∃ cmp,Lib.compareBytes (zi x) (zi y)=cmp:=⟨_,rfl⟩
   have gx:=(yw x).1 Ml.out;have gy:=(yw y).1 FB.out;have QD:=Hh gx;have QE:=Hh gy;have Ig:=Hh qm;have If:=Hh (show xe ps=true→cmp<0 from fun hA=>by have h:=Nt.out hA;rw[qm]at h;exact h);clear gx gy qm e2 br yH tA ij hk
   refine zw 20 (fun w'=>w'.cell? ⟨lb,lo+m*4,none⟩=some (.int .i64 x.kind)∧w'.cell? ⟨lb,lo+m*4+1,none⟩=some (.int .u64 x.n)∧w'.cell? ⟨lb,lo+m*4+2,none⟩=some (.slice x1 x.bytes.length x2)∧w'.cell? ⟨lb,lo+m*4+3,none⟩=some (.slice x3 x.items.length x4)∧w'.cell? ⟨ib,io+j*4,none⟩=some (.int .i64 y.kind)∧w'.cell? ⟨ib,io+j*4+1,none⟩=some (.int .u64 y.n)∧w'.cell? ⟨ib,io+j*4+2,none⟩=some (.slice y1 y.bytes.length y2)∧w'.cell? ⟨ib,io+j*4+3,none⟩=some (.slice y3 y.items.length y4)) (by kernel_rfl) (⟨c0,c1,c2,c3,p0,p1,p2,p3⟩) (fun zy=>?_)
   refine Tk 0 rfl zy ?_
   refine Tk 1 rfl zy ?_
   refine TkG 2 rfl zy ?_
   refine TkG 3 rfl zy ?_
   refine TkG 4 rfl zy ?_
   refine TkG 5 rfl zy ?_
   refine TkG 6 rfl zy ?_
   refine TkG 7 rfl zy ?_
   refine TkG 8 rfl zy ?_
   refine TkG 9 rfl zy ?_
   refine TkG 11 rfl zy ?_
   refine TkG 12 rfl zy ?_
   refine TkG 13 rfl zy ?_
   refine TkG 14 rfl zy ?_
   refine To 10 rfl fun K hK=>?_
   go_simp
   refine(qe x H _ _ x1 _ x2 x3 _ x4 _ 0 QD.out.1 (by have:=QD.out.2.2;omega) JP.arg zP).mono ?_
   rintro e w5 ⟨r5,rfl,vC⟩
   obtain⟨RA5,rc5,rfl,_⟩:=vC.own.form;have zP:=zP.below vC.2 (Nat.le_refl _);have zA:=zA.trans (vC.2.mono zA.size);have bw:=bw.below vC.2;have vo:=vo.below vC.2;have fs:=vC.own.src;have c0:=yz c0 vC.2;have c1:=yz c1 vC.2;have c2:=yz c2 vC.2;have c3:=yz c3 vC.2
   refine Ko hK ?_ fun zy=>?_
   ·exact⟨c0,c1,c2,c3,zP.cell q0,zP.cell q1,zP.cell q2,zP.cell q3⟩
   clear hK K
   refine To 15 rfl fun K hK=>?_
   go_simp
   refine(qe y H _ _ y1 _ y2 y3 _ y4 _ 0 QE.out.1 (by have:=QE.out.2.2;omega) va.arg zP).mono ?_
   rintro e w6 ⟨r6,rfl,tC⟩
   obtain⟨RA6,rc6,rfl,_⟩:=tC.own.form;have zP:=zP.below tC.2 (Nat.le_refl _);have zA:=zA.trans (tC.2.mono zA.size);have bw:=bw.below tC.2;have vo:=vo.below tC.2;have fs:=fs.below tC.2;have WB:=tC.own.src;have c0:=yz c0 tC.2;have c1:=yz c1 tC.2;have c2:=yz c2 tC.2;have c3:=yz c3 tC.2
   refine Ko hK ?_ fun zy=>?_
   ·exact⟨c0,c1,c2,c3,zP.cell q0,zP.cell q1,zP.cell q2,zP.cell q3⟩
   clear hK K
   refine To 16 rfl fun K hK=>?_
   go_simp
   refine(rY _ RA5 RA6 (zi x) (zi y) (zi x).length (zi y).length rc5 rc6 rfl rfl (by have:=QD.out.2.2;omega) (by have:=QE.out.2.2;omega) fs WB).mono ?_
   rintro e w7 ⟨rfl,wJ⟩
   rw[Ig.out];have zP:=zP.below wJ (Nat.le_refl _);have zA:=zA.trans (wJ.mono zA.size);have bw:=bw.below wJ;have vo:=vo.below wJ;have c0:=yz c0 wJ;have c1:=yz c1 wJ;have c2:=yz c2 wJ;have c3:=yz c3 wJ
   refine Ko hK ?_ fun zy=>?_
   ·exact⟨c0,c1,c2,c3,zP.cell q0,zP.cell q1,zP.cell q2,zP.cell q3⟩
   clear hK K
   refine TkG 17 rfl zy ?_
   refine TkG 18 rfl zy ?_
   refine Tk 19 rfl zy ?_
   refine To 20 rfl fun K hK=>?_
   go_simp
   refine Kz hK ?_
   clear hK K
   refine Wd ?_
   clear zy fs WB c0 c1 c2 c3 p0 p1 p2 p3;go_wp2_with fail
   go_meet
   exact⟨cmp==0,rfl,(fun h=>absurd h (by omega)),(fun hA=>by rw[beq_eq_false_iff_ne];have:=If.out hA;omega),bw,zA,vo⟩
  case rest =>
  clear br yH tA;obtain⟨b',rfl,Fz,G0,br,yH,tA⟩:=hcut;have LX:=Hh G0;clear G0;have HB:=Hh Fz;clear Fz;obtain⟨cs1,cs2,rK,f7,Tx,QT⟩:=br.parts k;have zP:=(hH.below yH (Nat.le_refl _)).drew;have xy:=hH.below yH (Nat.le_refl _);have p0:=zP.cell q0;have p1:=zP.cell q1;have p2:=zP.cell q2;have p3:=zP.cell q3;have r0:=zP.cell s0;have r1:=zP.cell s1;have r2:=zP.cell s2;have r3:=zP.cell s3;have zA:=(Below.refl wc.heap.size wc).drew;have Wp:((j:Int)+1).toNat=j+1:=by omega
  have Bt:(0:Int)≤(j:Int)+1:=by omega
  have qr:=Wf.out;have Wq:(k:Int)≤vc:=Int.le_trans GI TV.out;have ij:(0:Int)≤k:=Int.natCast_nonneg k;go_upto_region 18 with fail
  refine zw 19 (fun w'=>w'.cell? ⟨ib,io+j*4,none⟩=some (.int .i64 y.kind)∧w'.cell? ⟨ib,io+j*4+1,none⟩=some (.int .u64 y.n)∧w'.cell? ⟨ib,io+j*4+2,none⟩=some (.slice y1 y.bytes.length y2)∧w'.cell? ⟨ib,io+j*4+3,none⟩=some (.slice y3 y.items.length y4)∧w'.cell? ⟨ib,io+(j+1)*4,none⟩=some (.int .i64 z.kind)∧w'.cell? ⟨ib,io+(j+1)*4+1,none⟩=some (.int .u64 z.n)∧w'.cell? ⟨ib,io+(j+1)*4+2,none⟩=some (.slice z1 z.bytes.length z2)∧w'.cell? ⟨ib,io+(j+1)*4+3,none⟩=some (.slice z3 z.items.length z4)) (by kernel_rfl) (⟨p0,p1,p2,p3,r0,r1,r2,r3⟩) (fun zy=>?_)
  refine Tk 0 rfl zy ?_
  refine Tk 1 rfl zy ?_
  refine Tk 2 rfl zy ?_
  refine Tk 4 rfl zy ?_
  refine Tk 5 rfl zy ?_
  refine Tk 6 rfl zy ?_
  refine Tk 7 rfl zy ?_
  refine Tk 8 rfl zy ?_
  refine Tk 9 rfl zy ?_
  refine Tk 10 rfl zy ?_
  refine Tk 11 rfl zy ?_
  refine Tk 12 rfl zy ?_
  refine Tk 15 rfl zy ?_
  refine Tk 16 rfl zy ?_
  refine Tk 17 rfl zy ?_
  refine Ways.two (i:=3) (j:=13) rfl rfl (by kernel_rfl) (fun K hK=>?_) (fun K hK=>?_)
  ·rw[if_pos (by rfl)]
   refine wu (.const (.slice none 0 0)) (.tmp 76) rfl wc.heap.size (.slice none 0 0) H [] rfl (OwnI.nil _ _ _) _ _ _ cs1 (L.take k) rfl (by rw[List.length_take];omega) rK (Tx.below zA) (by simp;omega) zA.size fun v5 w5 hX hg hat=>?_
   rw[List.nil_append]at hX;have pw:=yS (by simpa [Value.ownBlock] using hg);have zA:=zA.trans (pw.mono zA.size)
   try have Tg:=Tg.below pw
   refine Ko hK ?_ fun zy=>?_
   ·exact⟨(xy.below zA (Nat.le_refl _)).cell q0,(xy.below zA (Nat.le_refl _)).cell q1,(xy.below zA (Nat.le_refl _)).cell q2,(xy.below zA (Nat.le_refl _)).cell q3,(xy.below zA (Nat.le_refl _)).cell s0,(xy.below zA (Nat.le_refl _)).cell s1,(xy.below zA (Nat.le_refl _)).cell s2,(xy.below zA (Nat.le_refl _)).cell s3⟩
   clear hK K
   refine To 13 rfl fun K hK=>?_
   go_simp
   have Tg:=mH zA 26 #[.int .i64 y.kind,.int .u64 y.n,.slice y1 y.bytes.length y2,.slice y3 y.items.length y4,.int .i64 z.kind,.int .u64 z.n,.slice z1 z.bytes.length z2,.slice z3 z.items.length z4]
   try have hX:=hX.alloc (.cells #[.int .i64 y.kind,.int .u64 y.n,.slice y1 y.bytes.length y2,.slice y3 y.items.length y4,.int .i64 z.kind,.int .u64 z.n,.slice z1 z.bytes.length z2,.slice z3 z.items.length z4] 26)
   have zA:=zA.alloc zA.size (.cells #[.int .i64 y.kind,.int .u64 y.n,.slice y1 y.bytes.length y2,.slice y3 y.items.length y4,.int .i64 z.kind,.int .u64 z.n,.slice z1 z.bytes.length z2,.slice z3 z.items.length z4] 26)
   refine Ko hK ?_ fun zy=>?_
   ·exact⟨(xy.below zA (Nat.le_refl _)).cell q0,(xy.below zA (Nat.le_refl _)).cell q1,(xy.below zA (Nat.le_refl _)).cell q2,(xy.below zA (Nat.le_refl _)).cell q3,(xy.below zA (Nat.le_refl _)).cell s0,(xy.below zA (Nat.le_refl _)).cell s1,(xy.below zA (Nat.le_refl _)).cell s2,(xy.below zA (Nat.le_refl _)).cell s3⟩
   clear hK K
   refine To 14 rfl fun K hK=>?_
   rw[if_pos (by rfl)]
   refine wu (.tmp 77) (.tmp 87) rfl wc.heap.size _ H (L.take k) rfl hX _ _ _ (zQ y y1 y2 y3 y4++zQ z z1 z2 z3 z4) [y,z] rfl rfl ((ItemsC.one va).app (ItemsC.one mn)) Tg (by rw[List.length_take];simp;omega) zA.size fun v7 w7 bz wh hat7=>?_
   have zA:=zA.grown wh zA.size (fun q hq=>(hX.lt q hq).1)
   refine Ko hK ?_ fun zy=>?_
   ·exact⟨(xy.below zA (Nat.le_refl _)).cell q0,(xy.below zA (Nat.le_refl _)).cell q1,(xy.below zA (Nat.le_refl _)).cell q2,(xy.below zA (Nat.le_refl _)).cell q3,(xy.below zA (Nat.le_refl _)).cell s0,(xy.below zA (Nat.le_refl _)).cell s1,(xy.below zA (Nat.le_refl _)).cell s2,(xy.below zA (Nat.le_refl _)).cell s3⟩
   clear hK K
   refine To 18 rfl fun K hK=>?_
   rw[if_pos (by rfl)]
   refine wu (.tmp 88) (.tmp 91) rfl wc.heap.size _ H (L.take k++[y,z]) rfl bz _ _ _ cs2 (L.drop k) rfl (by rw[List.length_drop];omega) f7 ?_ (by rw[List.length_append,List.length_take,List.length_drop];simp;omega) zA.size fun v8 w8 Wm hg8 hat8=>?_
   ·exact(Src.slicek QT f7 RM TV.out).below zA
   have zA:=zA.grown hg8 zA.size (fun q hq=>(bz.lt q hq).1)
   refine Ko hK ?_ fun zy=>?_
   ·exact⟨(xy.below zA (Nat.le_refl _)).cell q0,(xy.below zA (Nat.le_refl _)).cell q1,(xy.below zA (Nat.le_refl _)).cell q2,(xy.below zA (Nat.le_refl _)).cell q3,(xy.below zA (Nat.le_refl _)).cell s0,(xy.below zA (Nat.le_refl _)).cell s1,(xy.below zA (Nat.le_refl _)).cell s2,(xy.below zA (Nat.le_refl _)).cell s3⟩
   clear hK K
   refine To 19 rfl fun K hK=>?_
   go_simp
   refine Kz hK ?_
   clear hK K
   refine Wd ?_
   clear zy hX bz hg hat wh hat7 hg8 hat8 pw Tg Tx QT rK f7 p0 p1 p2 p3 r0 r1 r2 r3 zP;obtain⟨VA',vc',rfl,_⟩:=Wm.form;have xK:(L.take k++[y,z]++L.drop k).length=j+2:=by rw[List.length_append,List.length_append,List.length_take,List.length_drop];simp;omega
   rw[xK]at Wm;rw[xK];have Yt:=Wm.more (base':=w.heap.size+1) (by have:=tA.lt;omega);have oN:=yH.trans (zA.mono yH.size);have RS:=tA.below zA;have Ip:=Hh xK;clear xK Wm;go_wp2_with fail
   go_roundw
   case rel =>
    refine⟨j+2,L.take k++[y,z]++L.drop k,b',VA',vc',by omega,by have:=HJ.out;omega,by go_num,rfl,rfl,Ip.out,Yt,fun x hx=>?_, ?_,fun h2=>?_,fun q=>?_,oN,RS⟩
    ·simp only[List.mem_append,List.mem_cons,List.not_mem_nil,or_false]at hx
     rcases hx with (hx | rfl | rfl) | hx
     ·exact HS.out.1 x (List.mem_of_mem_take hx)
     ·exact KE.out.1
     ·exact KE.out.2
     exact HS.out.1 x (List.mem_of_mem_drop hx)
    ·rw[dl,WM.out,HS.out.2.1]
    ·have RK:=HS.out.2.2 h2;have ON:=KC.out h2
     refine⟨by rw[LX.out h2];exact RK.1, ?_⟩
     rw[KJ.out,← RK.2,ON,List.take_of_length_le (by omega),List.drop_of_length_le (by omega)]
     simp
    rw[gc y z (by rw[RM];exact HJ.out) Tt.out (by omega),Is.out q,KJ.out,te _ (by rw[List.length_take];have:=HJ.out;omega)]
    simp[zg]
   case measure=>simp[intOf];omega
  go_simp
  have Tg:=mH zA 26 #[.int .i64 y.kind,.int .u64 y.n,.slice y1 y.bytes.length y2,.slice y3 y.items.length y4,.int .i64 z.kind,.int .u64 z.n,.slice z1 z.bytes.length z2,.slice z3 z.items.length z4]
  try have hX:=hX.alloc (.cells #[.int .i64 y.kind,.int .u64 y.n,.slice y1 y.bytes.length y2,.slice y3 y.items.length y4,.int .i64 z.kind,.int .u64 z.n,.slice z1 z.bytes.length z2,.slice z3 z.items.length z4] 26)
  have zA:=zA.alloc zA.size (.cells #[.int .i64 y.kind,.int .u64 y.n,.slice y1 y.bytes.length y2,.slice y3 y.items.length y4,.int .i64 z.kind,.int .u64 z.n,.slice z1 z.bytes.length z2,.slice z3 z.items.length z4] 26)
  refine Ko hK ?_ fun zy=>?_
  ·exact⟨(xy.below zA (Nat.le_refl _)).cell q0,(xy.below zA (Nat.le_refl _)).cell q1,(xy.below zA (Nat.le_refl _)).cell q2,(xy.below zA (Nat.le_refl _)).cell q3,(xy.below zA (Nat.le_refl _)).cell s0,(xy.below zA (Nat.le_refl _)).cell s1,(xy.below zA (Nat.le_refl _)).cell s2,(xy.below zA (Nat.le_refl _)).cell s3⟩
  clear hK K
  refine To 3 rfl fun K hK=>?_
  rw[if_pos (by rfl)]
  refine wu (.const (.slice none 0 0)) (.tmp 76) rfl wc.heap.size (.slice none 0 0) H [] rfl (OwnI.nil _ _ _) _ _ _ cs1 (L.take k) rfl (by rw[List.length_take];omega) rK (Tx.below zA) (by simp;omega) zA.size fun v5 w5 hX hg hat=>?_
  rw[List.nil_append]at hX;have pw:=yS (by simpa [Value.ownBlock] using hg);have zA:=zA.trans (pw.mono zA.size)
  try have Tg:=Tg.below pw
  refine Ko hK ?_ fun zy=>?_
  ·exact⟨(xy.below zA (Nat.le_refl _)).cell q0,(xy.below zA (Nat.le_refl _)).cell q1,(xy.below zA (Nat.le_refl _)).cell q2,(xy.below zA (Nat.le_refl _)).cell q3,(xy.below zA (Nat.le_refl _)).cell s0,(xy.below zA (Nat.le_refl _)).cell s1,(xy.below zA (Nat.le_refl _)).cell s2,(xy.below zA (Nat.le_refl _)).cell s3⟩
  clear hK K
  refine To 14 rfl fun K hK=>?_
  rw[if_pos (by rfl)]
  refine wu (.tmp 77) (.tmp 87) rfl wc.heap.size _ H (L.take k) rfl hX _ _ _ (zQ y y1 y2 y3 y4++zQ z z1 z2 z3 z4) [y,z] rfl rfl ((ItemsC.one va).app (ItemsC.one mn)) Tg (by rw[List.length_take];simp;omega) zA.size fun v7 w7 bz wh hat7=>?_
  have zA:=zA.grown wh zA.size (fun q hq=>(hX.lt q hq).1)
  refine Ko hK ?_ fun zy=>?_
  ·exact⟨(xy.below zA (Nat.le_refl _)).cell q0,(xy.below zA (Nat.le_refl _)).cell q1,(xy.below zA (Nat.le_refl _)).cell q2,(xy.below zA (Nat.le_refl _)).cell q3,(xy.below zA (Nat.le_refl _)).cell s0,(xy.below zA (Nat.le_refl _)).cell s1,(xy.below zA (Nat.le_refl _)).cell s2,(xy.below zA (Nat.le_refl _)).cell s3⟩
  clear hK K
  refine To 18 rfl fun K hK=>?_
  rw[if_pos (by rfl)]
  refine wu (.tmp 88) (.tmp 91) rfl wc.heap.size _ H (L.take k++[y,z]) rfl bz _ _ _ cs2 (L.drop k) rfl (by rw[List.length_drop];omega) f7 ?_ (by rw[List.length_append,List.length_take,List.length_drop];simp;omega) zA.size fun v8 w8 Wm hg8 hat8=>?_
  ·exact(Src.slicek QT f7 RM TV.out).below zA
  have zA:=zA.grown hg8 zA.size (fun q hq=>(bz.lt q hq).1)
  refine Ko hK ?_ fun zy=>?_
  ·exact⟨(xy.below zA (Nat.le_refl _)).cell q0,(xy.below zA (Nat.le_refl _)).cell q1,(xy.below zA (Nat.le_refl _)).cell q2,(xy.below zA (Nat.le_refl _)).cell q3,(xy.below zA (Nat.le_refl _)).cell s0,(xy.below zA (Nat.le_refl _)).cell s1,(xy.below zA (Nat.le_refl _)).cell s2,(xy.below zA (Nat.le_refl _)).cell s3⟩
  clear hK K
  refine To 19 rfl fun K hK=>?_
  go_simp
  refine Kz hK ?_
  clear hK K
  refine Wd ?_
  clear zy hX bz hg hat wh hat7 hg8 hat8 pw Tg Tx QT rK f7 p0 p1 p2 p3 r0 r1 r2 r3 zP;obtain⟨VA',vc',rfl,_⟩:=Wm.form;have xK:(L.take k++[y,z]++L.drop k).length=j+2:=by rw[List.length_append,List.length_append,List.length_take,List.length_drop];simp;omega
  rw[xK]at Wm;rw[xK];have Yt:=Wm.more (base':=w.heap.size+1) (by have:=tA.lt;omega);have oN:=yH.trans (zA.mono yH.size);have RS:=tA.below zA;have Ip:=Hh xK;clear xK Wm;go_wp2_with fail
  go_roundw
  case rel =>
   refine⟨j+2,L.take k++[y,z]++L.drop k,b',VA',vc',by omega,by have:=HJ.out;omega,by go_num,rfl,rfl,Ip.out,Yt,fun x hx=>?_, ?_,fun h2=>?_,fun q=>?_,oN,RS⟩
   ·simp only[List.mem_append,List.mem_cons,List.not_mem_nil,or_false]at hx
    rcases hx with (hx | rfl | rfl) | hx
    ·exact HS.out.1 x (List.mem_of_mem_take hx)
    ·exact KE.out.1
    ·exact KE.out.2
    exact HS.out.1 x (List.mem_of_mem_drop hx)
   ·rw[dl,WM.out,HS.out.2.1]
   ·have RK:=HS.out.2.2 h2;have ON:=KC.out h2
    refine⟨by rw[LX.out h2];exact RK.1, ?_⟩
    rw[KJ.out,← RK.2,ON,List.take_of_length_le (by omega),List.drop_of_length_le (by omega)]
    simp
   rw[gc y z (by rw[RM];exact HJ.out) Tt.out (by omega),Is.out q,KJ.out,te _ (by rw[List.length_take];have:=HJ.out;omega)]
   simp[zg]
  case measure=>simp[intOf];omega
 have qq:j=ps.length:=by omega
 subst qq;have Qt:(zG L).length=(zG ps).length:=by have:=HS.out.2.1;rw[List.take_length]at this;exact this
 have RL:xe ps=true→b=false∧L=ps:=fun h=>by have:=HS.out.2.2 h;rw[List.take_length]at this;exact this
 have HZ:=Hh (And.intro Qt RL);have Cp:Hid (∀ q,q∈zg L↔q∈zg ps):=fun q=>by have:=Is.out q;rwa [List.take_length]at this
 clear Qt RL
 cases b with
 | true =>
  go_wp2_with (with_reducible refine zx ?_)
  refine stI rm fun w9 kj yL=>?_
  have tI:=(Grows.of_below hH yO).grownOwn yV (Nat.le_refl _) yL;go_wp2_with fail
  refine zY rfl rfl kj rfl rfl zp rfl ?_
  exact⟨_,.inr ⟨7,rfl,by omega,⟨none,0,none,0,H,rfl,tI,IsItem.plain H 0 0 (by omega) (by omega)⟩,fun h=>by have:=(HZ.out.2 h.2.1).1;cases this⟩⟩
 | false =>
 obtain⟨H8,RV,OH,fA,Ob,rU,rH,Vt⟩:=wE.snap (hH.below yO (Nat.le_refl _)) (fun g hg=>hH.none_of_ge (by have:=(wE.lt g (qg hg)).1;omega))
 have tr:Grows w H wr H8:=⟨yO,RV,OH,fun b o hb=>by
  rcases fA b o hb with h | h
  ·exact .inl h
  exact .inr (by have:=(wE.lt b (qg h)).1;omega)⟩
 have Qh:H8 w.heap.size=none:=by
  cases h8:H8 w.heap.size with
  | none=>rfl
  | some o =>
  rcases fA _ o h8 with h | h
  ·rw[yV]at h;cases h
  have:=(wE.lt w.heap.size (qg h)).1;omega
 have He:=Ob;obtain⟨x7,o0⟩:∃ x,Itm.mk 5 0 [] L=x:=⟨_,rfl⟩
 have my:IsItem H8 none 0 VA vc x7:=by
  rw[← o0,IsItem]
  exact⟨⟨by omega,by omega,by omega,rU,rH⟩,IsBytes.nil _,Vt⟩
 have JO:ItemA H8 5 0 none 0 0 VA ps.length vc x7:=by
  refine⟨by rw[← o0];rfl,by rw[← o0];rfl,by rw[← o0];rfl, ?_,my⟩
  rw[← o0];exact Ob
 have tI:=tr.alloc (.cells #[.int .i64 5,.int .u64 0,.slice none 0 0,.slice VA ps.length vc] 26);have kj:=rm.alloc (.cells #[.int .i64 5,.int .u64 0,.slice none 0 0,.slice VA ps.length vc] 26);have kh:=Blk.new wr 26 #[.int .i64 5,.int .u64 0,.slice none 0 0,.slice VA ps.length vc];have V:=Hh (sX (hTab.mono RV) JO _ tI.holds);have CJ:=Hh JO;have TW:=Hh o0;clear o0 my JO rU rH Vt Ob He fA wE rm
 cases hv:zU x7 with
 | false =>
  rw[hv]at V;have HV:=Hh hv;clear hv;go_wp2_with fail
  refine V.out.mono ?_
  rintro e w10 ⟨rfl,tj⟩
  have tT:=tI.below_ tj;have lF:=kj.below tj;clear tI kj kh tr tj;go_wp2_with (with_reducible refine zx ?_)
  refine stI lF fun w11 ee pq=>?_
  have nj:=tT.grownOwn Qh (Nat.le_refl _) pq;go_wp2_with fail
  refine zY rfl rfl ee rfl rfl zp rfl ?_
  exact⟨_,.inr ⟨8,rfl,by omega,⟨none,0,none,0,H8,rfl,nj,IsItem.plain H8 0 0 (by omega) (by omega)⟩,fun h=>by
   have h1:=HV.out;rw[← TW.out,(HZ.out.2 h.2.1).2,h.2.2.2]at h1
   cases h1⟩⟩
 | true =>
 rw[hv]at V;have HV:=Hh hv;clear hv;go_wp2_with fail
 refine V.out.mono ?_
 rintro e w10 ⟨rfl,tj⟩
 have tT:=tI.below_ tj;have lF:=kj.below tj;have qi:=kh.below tj;have c0:=qi.cell 0 rfl;have c1:=qi.cell 1 rfl;have c2:=qi.cell 2 rfl;have c3:=qi.cell 3 rfl;have C:=Hh (nS x7 H8 _ _ _ _ _ _ _ _ w10 (yQ HV.out) CJ.out tT.holds);clear tI kj kh tr tj;go_wp2_with fail
 refine C.out.mono ?_
 rintro e w11 ⟨v11,rfl,ja,jb,jc,jd,ER,rfl,nj,I1⟩
 have ee:=lF.below nj.below;have IL:=nj.none Qh lF.lt;have zX:=tT.trans nj;clear lF tT nj c0 c1 c2 c3;go_wp2_with (with_reducible refine zx ?_)
 refine stI ee fun w12 Pi hg12=>?_
 have tF:=zX.grownOwn IL (Nat.le_refl _) hg12;go_wp2_with fail
 refine zY rfl rfl Pi rfl rfl zp rfl ?_
 exact⟨_,.inl ⟨L,rfl,by rw[TW.out];exact⟨ja,jb,jc,jd,ER,rfl,tF,I1⟩,by rw[TW.out];exact HV.out,HZ.out.1,fun h=>(HZ.out.2 h).2,Cp.out⟩⟩
theorem BuildSaid3.to {w w':World}{H:Snap}{ps:List Itm}{e:Ending}(h:BuildSaid3 w H ps e w'):BuildSaid2 w H ps e w':=by
 rcases h with ⟨v,⟨l,h1,h2,h3,h4,h5,_⟩ | h⟩
 ·exact⟨v,.inl ⟨l,h1,h2,h3,h4,h5⟩⟩
 exact⟨v,.inr h⟩
theorem aq {H:Snap}(hTab:Tabs H) {A:Option Addr}{c:Nat}{ps:List Itm}(hr:IsRowI H A c ps) (hl:ps.length≤1099511627776) (w:World) (hH:Holds w H) :
  Calls Tryz.prog 87 #[.slice A ps.length c] w (BuildSaid2 w H ps):=(jY hTab hr hl w hH).mono fun _ _ h=>BuildSaid3.to h
theorem kq:∀ {ps:List Itm},ps.length=2→xe ps=true
 | [_,_],_=>rfl
theorem BuildSaid2.to {w w':World}{H:Snap}{ps:List Itm}{e:Ending}(h:BuildSaid2 w H ps e w'):BuildSaid w H ps e w':=by
 rcases h with ⟨v,⟨l,h1,h2,h3,h4,h5⟩ | ⟨c,h1,h2,h3,h4⟩⟩
 ·exact⟨v,.inl ⟨l,h1,h2,h3,h4,fun hl=>h5 (kq hl)⟩⟩
 exact⟨v,.inr ⟨c,h1,h2,h3,fun⟨a,b,d⟩=>h4 ⟨by omega,kq a,b,d⟩⟩⟩
theorem Y5 {H:Snap}(hTab:Tabs H) {A:Option Addr}{c:Nat}{ps:List Itm}(hr:IsRowI H A c ps) (hl:ps.length≤1099511627776) (w:World) (hH:Holds w H) :
  Calls Tryz.prog 87 #[.slice A ps.length c] w (BuildSaid w H ps):=(aq hTab hr hl w hH).mono fun _ _ h=>BuildSaid2.to h
end Go.Proofs.YtliomcphdnppnaaGreatDoor
