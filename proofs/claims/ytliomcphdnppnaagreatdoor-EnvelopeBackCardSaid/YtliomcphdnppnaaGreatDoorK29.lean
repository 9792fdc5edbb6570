/- squeezed. Walks: the reference's Build; of p -/
import Derived.Test.YtliomcphdnppnaaGreatDoorK28
set_option linter.unusedVariables false
set_option linter.unusedSimpArgs false
set_option maxRecDepth 100000
set_option maxHeartbeats 12800000
namespace Go.Proofs.YtliomcphdnppnaaGreatDoor
open Go.RowKit
theorem jaf{P:Prop}(h:P:=by
 refine Ko hK ?_ fun zy=>?_
 ·exact jd4
 clear hK K
 refine To 14 rfl fun K hK=>?_
 rw[if_pos (by rfl)]
 refine vo (.tmp 77) (.tmp 87) rfl wc.heap.size _ H (L.take k) rfl hX _ _ _ (zV y y1 y2 y3 y4++zV z z1 z2 z3 z4) [y,z] rfl rfl ((ItemsC.one uy).app (ItemsC.one ij)) MA (by rw[List.length_take];simp;omega) yz.size fun v7 w7 ig ww hat7=>?_
 have yz:=yz.grown ww yz.size (fun q hq=>(hX.lt q hq).1)
 refine Ko hK ?_ fun zy=>?_
 ·exact jd4
 clear hK K
 refine To 18 rfl fun K hK=>?_
 rw[if_pos (by rfl)]
 refine vo (.tmp 88) (.tmp 91) rfl wc.heap.size _ H (L.take k++[y,z]) rfl ig _ _ _ cs2 (L.drop k) rfl (by rw[List.length_drop];omega) We ?_ (by rw[List.length_append,List.length_take,List.length_drop];simp;omega) yz.size fun v8 w8 aZ hg8 hat8=>?_
 ·exact(Src.slicek IU We ZK Lt.out).below yz
 have yz:=yz.grown hg8 yz.size (fun q hq=>(ig.lt q hq).1)
 refine Ko hK ?_ fun zy=>?_
 ·exact jd4
 clear hK K
 refine To 19 rfl fun K hK=>?_
 go_simp
 refine Kz hK ?_
 clear hK K
 refine Wd ?_
 clear zy hX ig hg hat ww hat7 hg8 hat8 nM MA Mc IU nE We p0 p1 p2 p3 r0 r1 r2 r3 zE;obtain⟨VA',vc',rfl,_⟩:=aZ.form;have wn:(L.take k++[y,z]++L.drop k).length=j+2:=by rw[List.length_append,List.length_append,List.length_take,List.length_drop];simp;omega
 rw[wn]at aZ;rw[wn];have aY:=aZ.more (base':=w.heap.size+1) (by have:=qq.lt;omega);have qU:=xO.trans (yz.mono xO.size);have gl:=qq.below yz;have Sv:=Hh wn;clear wn aZ;go_wp2_with fail
 go_roundw
 case rel =>
  refine⟨j+2,L.take k++[y,z]++L.drop k,b',VA',vc',by omega,by have:=HJ.out;omega,by go_num,rfl,rfl,Sv.out,aY,fun x hx=>?_, ?_,fun h2=>?_,⟨fun q=>?_, ?_⟩,qU,gl⟩
  ·simp only[List.mem_append,List.mem_cons,List.not_mem_nil,or_false]at hx
   rcases hx with (hx | rfl | rfl) | hx
   ·exact HS.out.1 x (List.mem_of_mem_take hx)
   ·exact IC.out.1
   ·exact IC.out.2
   exact HS.out.1 x (List.mem_of_mem_drop hx)
  ·rw[YB,QG.out,HS.out.2.1]
  ·have JL:=HS.out.2.2 h2;have FY:=HKJ.out h2
   refine⟨by rw[Bh.out h2];exact JL.1, ?_⟩
   rw[Ej.out,← JL.2,FY,List.take_of_length_le (by omega),List.drop_of_length_le (by omega)]
   simp
  ·rw[bN y z (by rw[ZK];exact HJ.out) MR.out (by omega),DJ.out.1 q,Ej.out,rg _ (by rw[List.length_take];have:=HJ.out;omega)]
   simp[zT]
  rw[Y8,Ej.out,re,DJ.out.2]
  simp only[yf]
  omega
 case measure=>simp[intOf];omega):P:=h
theorem jan{P:Prop}(h:P:=by exact jd4):P:=h
theorem jbs{P:Prop}(h:P:=by exact⟨c0,c1,c2,c3,zE.cell q0,zE.cell q1,zE.cell q2,zE.cell q3⟩):P:=h
theorem jdu{P:Prop}(h:P:=by
 rintro((h | h) | h)
 ·exact .inl (.inl h)
 ·exact .inr h
 exact .inl (.inr h)):P:=h
theorem jd4{P:Prop}(h:P:=by exact⟨(xD.below yz (Nat.le_refl _)).cell q0,(xD.below yz (Nat.le_refl _)).cell q1,(xD.below yz (Nat.le_refl _)).cell q2,(xD.below yz (Nat.le_refl _)).cell q3,(xD.below yz (Nat.le_refl _)).cell s0,(xD.below yz (Nat.le_refl _)).cell s1,(xD.below yz (Nat.le_refl _)).cell s2,(xD.below yz (Nat.le_refl _)).cell s3⟩):P:=h
theorem jfB{P:Prop}(h:P:=by have yz:=yz.alloc yz.size (.cells #[.int .i64 y.kind,.int .u64 y.n,.slice y1 y.bytes.length y2,.slice y3 y.items.length y4,.int .i64 z.kind,.int .u64 z.n,.slice z1 z.bytes.length z2,.slice z3 z.items.length z4] 26);exact yz):P:=h
theorem jfG{P:Prop}(h:P:=by have MA:=i7 yz 26 #[.int .i64 y.kind,.int .u64 y.n,.slice y1 y.bytes.length y2,.slice y3 y.items.length y4,.int .i64 z.kind,.int .u64 z.n,.slice z1 z.bytes.length z2,.slice z3 z.items.length z4];exact MA):P:=h
theorem jfN{P:Prop}(h:P:=by have DN:=Hh (DM.out _ (HS.out.1 _ (List.getElem_mem (show m<L.length by omega))));have Em:=Hh (show xB ps=true→Lib.compareBytes (zZ (L[m]'(by omega))) (zZ y)<0 from fun hA=>aH.out hA m (HKJ.out hA) (by omega));exact And.intro DN Em):P:=h
theorem jgL{P:Prop}(h:P:=by have DA:=Hh (show xB ps=true→cmp<0 from fun hA=>by have h:=Em.out hA;rw[o8]at h;exact h);exact DA):P:=h
theorem Y2 (l:List Itm) (h:xB l=true):∀ i:Nat,xB (l.drop (2*i))=true
 | 0=>by simpa using h
 | i+1=>by
  have ih:=Y2 l h i;rw[show 2*(i+1)=2*i+2 by omega,← List.drop_drop]
  generalize l.drop (2*i)=m at ih
  match m,ih with
  | [],_=>rfl
  | [_],_=>rfl
  | _::_::m,ih=>exact ai ih
theorem OJ {l:List Itm}(h:xB l=true) {m:Nat}(he:m%2=0) (hm:m+2<l.length):Lib.compareBytes (zZ (l[m]'(by omega))) (zZ l[m+2])<0:=by
 obtain⟨i,rfl⟩:∃ i,m=2*i:=⟨m/2,by omega⟩
 have h1:=Y2 l h i;have h2:=i6 l (2*i+2) (by omega) hm
 simp only[Nat.add_sub_cancel]at h2
 rw[h1]at h2;have h3:=(Bool.and_eq_true _ _).mp h2.symm;have h4:=of_decide_eq_true h3.1
 simpa using h4
def BuildSaid3 (w:World) (H:Snap) (ps:List Itm) (e:Ending) (w':World):Prop :=
 ∃ v,(∃ l,e=.returned (.tuple #[v,.int .i64 0])∧Gives w H (.mk 5 0 [] l) v w'∧zJ (.mk 5 0 [] l)=true∧(zP l).length=(zP ps).length∧(xB ps=true→l=ps)∧PQ l ps)∨
  (∃ c,e=.returned (.tuple #[v,.int .i64 c])∧c≠0∧Gives w H ze v w'∧¬ (ps.length%2=0∧xB ps=true∧(∀ x∈ps,zJ x=true)∧zJ (.mk 5 0 [] ps)=true))
theorem rg:∀ {a:List Itm}(b:List Itm),a.length%2=0→zT (a++b)=zT a++zT b
 | [],_,_=>rfl
 | [_],_,h=>by simp at h
 | x::y::a,b,h=>by
  rw[List.cons_append,List.cons_append,zT,zT,rg (a:=a) b (by simp at h;omega)];rfl
theorem bN {L:List Itm}{k:Nat}(y z:Itm) (he:L.length%2=0) (hk:k%2=0) (hl:k≤L.length) (q:Itm×Itm):q∈zT (L.take k++[y,z]++L.drop k)↔q∈zT L∨q=(y,z):=by
 have ht:(L.take k).length%2=0:=by rw[List.length_take];omega
 have e:zT L=zT (L.take k)++zT (L.drop k):=by rw[← rg _ ht,List.take_append_drop]
 rw[rg _ (by rw[List.length_append];simp;omega),rg _ ht,e]
 simp only[zT,List.mem_append,List.mem_cons,List.not_mem_nil,or_false]
 constructor
 ·exact jdu
 exact jdu
theorem eC {H:Snap}(hTab:Tabs H) {A:Option Addr}{c:Nat}{ps:List Itm}(hr:IsRowI H A c ps) (hl:ps.length≤1099511627776) (w:World) (hH:Holds w H) :
  Calls Tryz.prog 87 #[.slice A ps.length c] w (BuildSaid3 w H ps):=by
 have hT:=jfZ;have hb:=zo w zi;have yO:=jgw;have HR:=Hh hr;clear hr
 by_cases wF:ps.length%2=0
 case neg =>
  have b1:((ps.length:Int)%2 != 0)=true:=by rw[bne_iff_ne];omega
  have p1:((ps.length:Int)%2=0)=False:=eq_false (by omega);have HE:=Hh wF;clear wF;go_enter Tryz.func87,Tryz.ntmps87
  go_wp2_with fail
  refine zp rfl rfl hT rfl rfl zu rfl ?_
  exact⟨_,.inr ⟨1,rfl,by omega,⟨none,0,none,0,H,rfl,Grows.of_below hH hb,IsItem.plain H 0 0 (by omega) (by omega)⟩,fun h=>HE.out h.1⟩⟩
 have b1:((ps.length:Int)%2 != 0)=false:=by rw[bne_eq_false_iff_eq];omega
 have p1:((ps.length:Int)%2=0)=True:=eq_true (by omega);have HE:=Hh wF;clear wF;go_enter Tryz.func87,Tryz.ntmps87
 go_wp2_with fail
 go_loopw [18] (fun v18 wr=>∃ j:Nat,j≤ps.length∧v18=.int .i64 j∧(∀ x∈ps.take j,zJ x=true)∧Below w.heap.size w wr∧Blk wr w.heap.size 26 #[.int .i64 0,.int .u64 0,.slice none 0 0,.slice none 0 0]) (fun v18 _=>ps.length-(intOf v18).toNat)
 case atStart=>exact⟨0,Nat.zero_le _,rfl,by simp,hb,hT⟩
 case round =>
 clear hb hT;obtain⟨j,hj,rfl,rv,xY,sO⟩:=hrel
 by_cases yu:j<ps.length
 ·have xN:=hH.below xY (Nat.le_refl _);obtain⟨ib,io,rC,wY⟩:=HR.out.elems (by omega);obtain⟨y1,y2,y3,y4,q0,q1,q2,q3,uy⟩:=wY.get j yu;subst rC;have p0:=xN.cell q0;have p1':=xN.cell q1;have p2:=xN.cell q2;have p3:=xN.cell q3;have Ae:=xN.alloc (zU ps[j] y1 y2 y3 y4);have V:=Hh (qP hTab uy.arg _ Ae);have zG:=xY.alloc xY.size (zU ps[j] y1 y2 y3 y4);have vU:=sO.alloc (zU ps[j] y1 y2 y3 y4);have ce:ps[j]∈ps:=List.getElem_mem yu;have HT:=Hh (show ps.take (j+1)=ps.take j++[ps[j]] from List.take_succ_eq_append_getElem yu);have DM:=Hh rv
  generalize ps[j]'yu=x at *
  clear q0 q1 q2 q3 wY uy xY sO xN rv
  cases hv:zJ x with
  | false =>
   rw[hv]at V;have HX:=Hh (And.intro hv ce);clear hv ce;go_wp2_with fail
   refine V.out.mono ?_
   rintro e w3 ⟨rfl,xj⟩
   have ti:=vU.below xj;have yz:=zG.trans (xj.mono zG.size);clear vU zG xj;go_wp2_with (with_reducible refine zx ?_)
   refine stI ti fun w9 od xR=>?_
   have qp:=(Grows.of_below hH yz).grownOwn yO (Nat.le_refl _) xR;go_wp2_with fail
   refine zp rfl rfl od rfl rfl zu rfl ?_
   exact⟨_,.inr ⟨1,rfl,by omega,⟨none,0,none,0,H,rfl,qp,IsItem.plain H 0 0 (by omega) (by omega)⟩,fun h=>by rw[h.2.2.1 x HX.out.2]at HX;cases HX.out.1⟩⟩
  | true =>
  rw[hv]at V;have HX:=Hh hv;clear hv ce;go_wp2_with fail
  refine V.out.mono ?_
  rintro e w3 ⟨rfl,xj⟩
  have ti:=vU.below xj;have yz:=zG.trans (xj.mono zG.size);have LY:(j:Int)+1≤9223372036854775807:=by omega
  clear vU zG xj;go_wp2_with fail
  go_roundw
  case rel=>exact⟨j+1,by omega,by go_num,fun y hy=>by rw[HT.out,List.mem_append]at hy;rcases hy with hy | hy;exact DM.out y hy;rw[List.mem_singleton.1 hy];exact HX.out,yz,ti⟩
  case measure=>simp[intOf];omega
 have qJ:j=ps.length:=by omega
 subst qJ;rw[List.take_length]at rv;have DM:=Hh rv;clear rv;go_wp2_with fail
 go_loopw [6,7,8] (fun v6 v7 v8 wr=>∃ (j:Nat) (L:List Itm) (b:Bool) (VA:Option Addr) (vc:Nat),j≤ps.length∧j%2=0∧v8=.int .i64 (j:Int)∧v7=.bool b∧v6=.slice VA j vc∧L.length=j∧OwnI wr (w.heap.size+1) (.slice VA j vc) H L∧(∀ x∈L,x∈ps)∧
  (zP L).length=(zP (ps.take j)).length∧(xB ps=true→b=false∧L=ps.take j)∧PQ L (ps.take j)∧Below w.heap.size w wr∧Blk wr w.heap.size 26 #[.int .i64 0,.int .u64 0,.slice none 0 0,.slice none 0 0]) (fun _ _ v8 _=>ps.length+1-(intOf v8).toNat)
 case atStart=>exact⟨0,[],false,none,0,Nat.zero_le _,rfl,rfl,rfl,rfl,rfl,OwnI.nil _ _ _,by simp,by simp,fun _=>⟨rfl,by simp⟩,⟨fun q=>by simp,by simp⟩,xY,sO⟩
 case round =>
 clear xY sO;obtain⟨j,L,b,VA,vc,hj,Dy,rfl,rfl,rfl,ZK,ve,ce,iu,h2,hpr,xY,sO⟩:=hrel;have DJ:=Hh hpr
 have Lt:Hid ((j:Int)≤vc):=by
  obtain⟨_,c9,e,h1,_⟩:=ve.form;injection e with _ _ e3
  subst e3;show(j:Int)≤(vc:Int)
  omega
 have HS:=Hh (And.intro ce (And.intro iu h2));have HJ:=Hh Dy;clear ce iu h2 Dy hpr
 by_cases yu:j<ps.length
 ·have js:j+1<ps.length:=by have:=HJ.out;have:=HE.out;omega
  obtain⟨ib,io,rC,wY⟩:=HR.out.elems (by omega);obtain⟨y1,y2,y3,y4,q0,q1,q2,q3,uy⟩:=wY.get j yu;obtain⟨z1,z2,z3,z4,s0,s1,s2,s3,ij⟩:=wY.get (j+1) js;subst rC;have HVY:=Hh (DM.out ps[j] (List.getElem_mem yu));have IC:=Hh (And.intro (List.getElem_mem yu) (List.getElem_mem js))
  have QG:=Hh (show(zP (ps.take (j+2))).length=(zP (ps.take j)).length+(zZ ps[j]).length+(zZ ps[j+1]).length by
   have h1:=tr ps (j+1) js;have h2:=tr ps j yu;rw[show j+2=j+1+1 by omega,h1,h2];simp only[List.length_append])
  have Ej:=Hh (show ps.take (j+2)=ps.take j++[ps[j],ps[j+1]] by
   rw[show j+2=j+1+1 by omega,List.take_succ_eq_append_getElem js,List.take_succ_eq_append_getElem yu,List.append_assoc];rfl)
  have aH:=Hh (show xB ps=true→∀ m (hm:m+2=j) (hl:m<L.length),Lib.compareBytes (zZ L[m]) (zZ ps[j])<0 from fun hA m hm hl=>by
   have e:=(HS.out.2.2 hA).2;have hmj:m<j:=by omega
   have gn:m<ps.length:=by omega
   have h1:L[m]? = some (ps[m]'gn):=by rw[e,List.getElem?_take,if_pos hmj,List.getElem?_eq_getElem]
   rw[List.getElem?_eq_getElem hl]at h1;rw[Option.some.inj h1];have h2:=OJ (m:=m) hA (by have:=HJ.out;omega) (by omega);have h3:ps[m+2]'(by omega)=ps[j]:=by congr 1
   rw[h3]at h2
   exact h2)
  generalize ps[j]'yu=y at *
  generalize ps[j+1]'js=z at *
  clear wY;have Hf:(j:Int)<ps.length:=by omega
  have BW:(j:Int)+1<ps.length:=by omega
  have LY:(j:Int)+2≤9223372036854775807:=by omega
  have QI:Hid (IntKind.i64.wrap ((j:Int)+1)=(j:Int)+1):=IntWalk.i64_in _ (by omega);go_wp2_with fail
  go_loopw [9] (fun v9 wx=>∃ k:Nat,k≤j∧k%2=0∧(xB ps=true→k=j)∧v9=.int .i64 (k:Int)∧OwnI wx (w.heap.size+1) (.slice VA j vc) H L∧Below w.heap.size w wx∧Blk wx w.heap.size 26 #[.int .i64 0,.int .u64 0,.slice none 0 0,.slice none 0 0]) (fun v9 _=>(intOf v9).toNat)
  case atStart=>exact⟨j,Nat.le_refl _,HJ.out,fun _=>rfl,rfl,ve,xY,sO⟩
  case round =>
  clear ve xY sO;obtain⟨k,hk,hke,FY,rfl,dD,xO,qq⟩:=hrel;have HKJ:=Hh FY;clear FY;have MR:=Hh hke;clear hke;have hkI:((k:Nat):Int)≤j:=by omega
  go_upto_region 15 with fail
  go_cut [51] (fun s51 wx=>∃ bb:Bool,s51=.bool bb∧(bb=true→2≤k)∧(xB ps=true→bb=false)∧OwnI wx (w.heap.size+1) (.slice VA j vc) H L∧Below w.heap.size w wx∧Blk wx w.heap.size 26 #[.int .i64 0,.int .u64 0,.slice none 0 0,.slice none 0 0])
  case first =>
   by_cases kC:k=0
   ·subst kC;skip
    refine zw 16 (fun _=>True) (by kernel_rfl) (trivial) (fun zy=>?_)
    refine Tk 0 rfl zy ?_
    refine Tk 1 rfl zy ?_
    refine Tk 2 rfl zy ?_
    refine TkU 3 rfl zy ?_
    refine TkU 4 rfl zy ?_
    refine TkU 5 rfl zy ?_
    refine TkU 6 rfl zy ?_
    refine TkU 7 rfl zy ?_
    refine TkU 8 rfl zy ?_
    refine TkU 9 rfl zy ?_
    refine TkU 10 rfl zy ?_
    refine TkU 11 rfl zy ?_
    refine TkU 12 rfl zy ?_
    refine TkU 13 rfl zy ?_
    refine TkU 14 rfl zy ?_
    refine TkU 15 rfl zy ?_
    refine To 16 rfl fun K hK=>?_
    go_simp
    refine Kz hK ?_
    clear hK K
    refine Wd ?_
    go_wp2_with fail
    go_meet
    exact⟨false,rfl,(fun h=>by cases h),(fun _=>rfl),dD,xO.drew,qq⟩
   obtain⟨m,rfl⟩:∃ m,k=m+2:=⟨k-2,by have:=MR.out;omega⟩
   have hmj:m<j:=by omega
   obtain⟨lb,lo,hla,x1,x2,x3,x4,c0,c1,c2,c3,hei⟩:=dD.cells m (by omega);subst hla;obtain⟨DN,Em⟩:=jfN
   generalize L[m]'(by omega)=x at *
   have e2:((m+2:Nat):Int)=(m:Int)+2:=by omega
   rw[e2];have sW:IntKind.i64.wrap ((m:Int)+2-2)=(m:Int):=by rw[show(m:Int)+2-2=(m:Int) by omega];exact IntWalk.i64_in _ (by omega)
   have pj:IntKind.i64.wrap (m:Int)=(m:Int):=IntWalk.i64_in _ (by omega);have hmI:(m:Int)<j:=by omega
   have aa:(0:Int)≤(m:Int):=by omega
   have gn:(0:Int)<(m:Int)+2:=by omega
   have zE:=(hH.below xO (Nat.le_refl _)).drew;have p0:=zE.cell q0;have p1:=zE.cell q1;have p2:=zE.cell q2;have p3:=zE.cell q3;have c0:=sZ c0;have c1:=sZ c1;have c2:=sZ c2;have c3:=sZ c3;have yz:=xO.drew;have WZ:=OwnI.drew dD;have uo:=qq.drew;obtain⟨cmp,o8⟩:∃ cmp,Lib.compareBytes (zZ x) (zZ y)=cmp:=⟨_,rfl⟩
   have gx:=(yo x).1 DN.out;have gy:=(yo y).1 HVY.out;have I6:=Hh gx;have I7:=Hh gy;have HCM:=Hh o8;have DA:=jgL;clear gx gy o8 e2 dD xO qq kC hk;skip
   refine zw 16 (fun w'=>w'.cell? ⟨lb,lo+m*4,none⟩=some (.int .i64 x.kind)∧w'.cell? ⟨lb,lo+m*4+1,none⟩=some (.int .u64 x.n)∧w'.cell? ⟨lb,lo+m*4+2,none⟩=some (.slice x1 x.bytes.length x2)∧w'.cell? ⟨lb,lo+m*4+3,none⟩=some (.slice x3 x.items.length x4)∧w'.cell? ⟨ib,io+j*4,none⟩=some (.int .i64 y.kind)∧w'.cell? ⟨ib,io+j*4+1,none⟩=some (.int .u64 y.n)∧w'.cell? ⟨ib,io+j*4+2,none⟩=some (.slice y1 y.bytes.length y2)∧w'.cell? ⟨ib,io+j*4+3,none⟩=some (.slice y3 y.items.length y4)) (by kernel_rfl) (⟨c0,c1,c2,c3,p0,p1,p2,p3⟩) (fun zy=>?_)
   refine Tk 0 rfl zy ?_
   refine Tk 1 rfl zy ?_
   refine Tk 2 rfl zy ?_
   refine TkG 3 rfl zy ?_
   refine TkG 4 rfl zy ?_
   refine TkG 5 rfl zy ?_
   refine TkG 6 rfl zy ?_
   refine TkG 7 rfl zy ?_
   refine TkG 9 rfl zy ?_
   refine TkG 10 rfl zy ?_
   refine TkG 11 rfl zy ?_
   refine TkG 12 rfl zy ?_
   refine To 8 rfl fun K hK=>?_
   go_simp
   refine(nm x H _ _ x1 _ x2 x3 _ x4 _ 0 I6.out.1 (by have:=I6.out.2.2;omega) hei.arg zE).mono ?_
   rintro e w5 ⟨r5,rfl,wR⟩
   obtain⟨RA5,rc5,rfl,_⟩:=wR.own.form;have zE:=zE.below wR.2 (Nat.le_refl _);have yz:=yz.trans (wR.2.mono yz.size);have WZ:=WZ.below wR.2;have uo:=uo.below wR.2;have aP:=wR.own.src;have c0:=yX c0 wR.2;have c1:=yX c1 wR.2;have c2:=yX c2 wR.2;have c3:=yX c3 wR.2
   refine Ko hK ?_ fun zy=>?_
   ·exact jbs
   clear hK K
   refine To 13 rfl fun K hK=>?_
   go_simp
   refine(nm y H _ _ y1 _ y2 y3 _ y4 _ 0 I7.out.1 (by have:=I7.out.2.2;omega) uy.arg zE).mono ?_
   rintro e w6 ⟨r6,rfl,qt⟩
   obtain⟨RA6,rc6,rfl,_⟩:=qt.own.form;have zE:=zE.below qt.2 (Nat.le_refl _);have yz:=yz.trans (qt.2.mono yz.size);have WZ:=WZ.below qt.2;have uo:=uo.below qt.2;have aP:=aP.below qt.2;have Pq:=qt.own.src;have c0:=yX c0 qt.2;have c1:=yX c1 qt.2;have c2:=yX c2 qt.2;have c3:=yX c3 qt.2
   refine Ko hK ?_ fun zy=>?_
   ·exact jbs
   clear hK K
   refine To 14 rfl fun K hK=>?_
   go_simp
   refine(pN _ RA5 RA6 (zZ x) (zZ y) (zZ x).length (zZ y).length rc5 rc6 rfl rfl (by have:=I6.out.2.2;omega) (by have:=I7.out.2.2;omega) aP Pq).mono ?_
   rintro e w7 ⟨rfl,um⟩
   rw[HCM.out];have zE:=zE.below um (Nat.le_refl _);have yz:=yz.trans (um.mono yz.size);have WZ:=WZ.below um;have uo:=uo.below um;have c0:=yX c0 um;have c1:=yX c1 um;have c2:=yX c2 um;have c3:=yX c3 um
   refine Ko hK ?_ fun zy=>?_
   ·exact jbs
   clear hK K
   refine TkG 15 rfl zy ?_
   refine To 16 rfl fun K hK=>?_
   go_simp
   refine Kz hK ?_
   clear hK K
   refine Wd ?_
   clear zy aP Pq c0 c1 c2 c3 p0 p1 p2 p3;go_wp2_with fail
   go_meet
   exact⟨decide ((0:Int)<cmp),rfl,(fun _=>by omega),(fun hA=>decide_eq_false (by have:=DA.out hA;omega)),WZ,yz,uo⟩
  case rest =>
  clear dD xO qq;obtain⟨bb,rfl,sP,hba,dD,xO,qq⟩:=hcut;have HBA:=Hh hba;clear hba
  cases bb with
  | true =>
   obtain⟨m,rfl⟩:∃ m,k=m+2:=⟨k-2,by have:=sP rfl;omega⟩
   have sW:IntKind.i64.wrap (((m+2:Nat):Int)-2)=(m:Int):=by rw[show((m+2:Nat):Int)-2=(m:Int) by omega];exact IntWalk.i64_in _ (by omega)
   clear sP;go_wp2_with fail
   go_roundw
   case rel=>exact⟨m,by omega,by have:=MR.out;omega,(fun hA=>by have:=HBA.out hA;cases this),by first | rfl | go_num,dD,xO,qq⟩
   case measure=>simp[intOf];omega
  | false =>
  clear sP;go_upto_region 17 with fail
  go_cut [7] (fun s7 wx=>∃ b':Bool,s7=.bool b'∧(k=0→b'=b)∧(xB ps=true→b'=b)∧OwnI wx (w.heap.size+1) (.slice VA j vc) H L∧Below w.heap.size w wx∧Blk wx w.heap.size 26 #[.int .i64 0,.int .u64 0,.slice none 0 0,.slice none 0 0])
  case first =>
   cases b with
   | true =>
    refine zw 20 (fun _=>True) (by kernel_rfl) (trivial) (fun zy=>?_)
    refine Tk 0 rfl zy ?_
    refine Tk 1 rfl zy ?_
    refine TkU 2 rfl zy ?_
    refine TkU 3 rfl zy ?_
    refine TkU 4 rfl zy ?_
    refine TkU 5 rfl zy ?_
    refine TkU 6 rfl zy ?_
    refine TkU 7 rfl zy ?_
    refine TkU 8 rfl zy ?_
    refine TkU 9 rfl zy ?_
    refine TkU 10 rfl zy ?_
    refine TkU 11 rfl zy ?_
    refine TkU 12 rfl zy ?_
    refine TkU 13 rfl zy ?_
    refine TkU 14 rfl zy ?_
    refine TkU 15 rfl zy ?_
    refine TkU 16 rfl zy ?_
    refine TkU 17 rfl zy ?_
    refine TkU 18 rfl zy ?_
    refine Tk 19 rfl zy ?_
    refine To 20 rfl fun K hK=>?_
    go_simp
    refine Kz hK ?_
    clear hK K
    refine Wd ?_
    go_wp2_with fail
    go_meet
    exact⟨true,rfl,(fun _=>rfl),(fun _=>rfl),dD,xO.drew,qq⟩
   | false =>
   by_cases kC:k=0
   ·subst kC
    refine zw 20 (fun _=>True) (by kernel_rfl) (trivial) (fun zy=>?_)
    refine Tk 0 rfl zy ?_
    refine Tk 1 rfl zy ?_
    refine TkG 2 rfl zy ?_
    refine TkG 3 rfl zy ?_
    refine TkG 4 rfl zy ?_
    refine TkU 5 rfl zy ?_
    refine TkU 6 rfl zy ?_
    refine TkU 7 rfl zy ?_
    refine TkU 8 rfl zy ?_
    refine TkU 9 rfl zy ?_
    refine TkU 10 rfl zy ?_
    refine TkU 11 rfl zy ?_
    refine TkU 12 rfl zy ?_
    refine TkU 13 rfl zy ?_
    refine TkU 14 rfl zy ?_
    refine TkU 15 rfl zy ?_
    refine TkU 16 rfl zy ?_
    refine TkU 17 rfl zy ?_
    refine TkG 18 rfl zy ?_
    refine Tk 19 rfl zy ?_
    refine To 20 rfl fun K hK=>?_
    go_simp
    refine Kz hK ?_
    clear hK K
    refine Wd ?_
    go_wp2_with fail
    go_meet
    exact⟨false,rfl,(fun _=>rfl),(fun _=>rfl),dD,xO.drew,qq⟩
   skip
   obtain⟨m,rfl⟩:∃ m,k=m+2:=⟨k-2,by have:=MR.out;omega⟩
   have hmj:m<j:=by omega
   obtain⟨lb,lo,hla,x1,x2,x3,x4,c0,c1,c2,c3,hei⟩:=dD.cells m (by omega);subst hla;obtain⟨DN,Em⟩:=jfN
   generalize L[m]'(by omega)=x at *
   have e2:((m+2:Nat):Int)=(m:Int)+2:=by omega
   rw[e2];have sW:IntKind.i64.wrap ((m:Int)+2-2)=(m:Int):=by rw[show(m:Int)+2-2=(m:Int) by omega];exact IntWalk.i64_in _ (by omega)
   have pj:IntKind.i64.wrap (m:Int)=(m:Int):=IntWalk.i64_in _ (by omega);have hmI:(m:Int)<j:=by omega
   have aa:(0:Int)≤(m:Int):=by omega
   have gn:(0:Int)<(m:Int)+2:=by omega
   have zE:=(hH.below xO (Nat.le_refl _)).drew;have p0:=zE.cell q0;have p1:=zE.cell q1;have p2:=zE.cell q2;have p3:=zE.cell q3;have c0:=sZ c0;have c1:=sZ c1;have c2:=sZ c2;have c3:=sZ c3;have yz:=xO.drew;have WZ:=OwnI.drew dD;have uo:=qq.drew;obtain⟨cmp,o8⟩:∃ cmp,Lib.compareBytes (zZ x) (zZ y)=cmp:=⟨_,rfl⟩
   have gx:=(yo x).1 DN.out;have gy:=(yo y).1 HVY.out;have I6:=Hh gx;have I7:=Hh gy;have HCM:=Hh o8;have DA:=jgL;clear gx gy o8 e2 dD xO qq kC hk
   refine zw 20 (fun w'=>w'.cell? ⟨lb,lo+m*4,none⟩=some (.int .i64 x.kind)∧w'.cell? ⟨lb,lo+m*4+1,none⟩=some (.int .u64 x.n)∧w'.cell? ⟨lb,lo+m*4+2,none⟩=some (.slice x1 x.bytes.length x2)∧w'.cell? ⟨lb,lo+m*4+3,none⟩=some (.slice x3 x.items.length x4)∧w'.cell? ⟨ib,io+j*4,none⟩=some (.int .i64 y.kind)∧w'.cell? ⟨ib,io+j*4+1,none⟩=some (.int .u64 y.n)∧w'.cell? ⟨ib,io+j*4+2,none⟩=some (.slice y1 y.bytes.length y2)∧w'.cell? ⟨ib,io+j*4+3,none⟩=some (.slice y3 y.items.length y4)) (by kernel_rfl) (⟨c0,c1,c2,c3,p0,p1,p2,p3⟩) (fun zy=>?_)
   refine Tk 0 rfl zy ?_
   refine Tk 1 rfl zy ?_
   refine TkG 2 rfl zy ?_
   refine TkG 3 rfl zy ?_
   refine TkG 4 rfl zy ?_
   refine TkG 5 rfl zy ?_
   refine TkG 6 rfl zy ?_
   refine TkG 7 rfl zy ?_
   refine TkG 8 rfl zy ?_
   refine TkG 9 rfl zy ?_
   refine TkG 11 rfl zy ?_
   refine TkG 12 rfl zy ?_
   refine TkG 13 rfl zy ?_
   refine TkG 14 rfl zy ?_
   refine To 10 rfl fun K hK=>?_
   go_simp
   refine(nm x H _ _ x1 _ x2 x3 _ x4 _ 0 I6.out.1 (by have:=I6.out.2.2;omega) hei.arg zE).mono ?_
   rintro e w5 ⟨r5,rfl,wR⟩
   obtain⟨RA5,rc5,rfl,_⟩:=wR.own.form;have zE:=zE.below wR.2 (Nat.le_refl _);have yz:=yz.trans (wR.2.mono yz.size);have WZ:=WZ.below wR.2;have uo:=uo.below wR.2;have aP:=wR.own.src;have c0:=yX c0 wR.2;have c1:=yX c1 wR.2;have c2:=yX c2 wR.2;have c3:=yX c3 wR.2
   refine Ko hK ?_ fun zy=>?_
   ·exact jbs
   clear hK K
   refine To 15 rfl fun K hK=>?_
   go_simp
   refine(nm y H _ _ y1 _ y2 y3 _ y4 _ 0 I7.out.1 (by have:=I7.out.2.2;omega) uy.arg zE).mono ?_
   rintro e w6 ⟨r6,rfl,qt⟩
   obtain⟨RA6,rc6,rfl,_⟩:=qt.own.form;have zE:=zE.below qt.2 (Nat.le_refl _);have yz:=yz.trans (qt.2.mono yz.size);have WZ:=WZ.below qt.2;have uo:=uo.below qt.2;have aP:=aP.below qt.2;have Pq:=qt.own.src;have c0:=yX c0 qt.2;have c1:=yX c1 qt.2;have c2:=yX c2 qt.2;have c3:=yX c3 qt.2
   refine Ko hK ?_ fun zy=>?_
   ·exact jbs
   clear hK K
   refine To 16 rfl fun K hK=>?_
   go_simp
   refine(pN _ RA5 RA6 (zZ x) (zZ y) (zZ x).length (zZ y).length rc5 rc6 rfl rfl (by have:=I6.out.2.2;omega) (by have:=I7.out.2.2;omega) aP Pq).mono ?_
   rintro e w7 ⟨rfl,um⟩
   rw[HCM.out];have zE:=zE.below um (Nat.le_refl _);have yz:=yz.trans (um.mono yz.size);have WZ:=WZ.below um;have uo:=uo.below um;have c0:=yX c0 um;have c1:=yX c1 um;have c2:=yX c2 um;have c3:=yX c3 um
   refine Ko hK ?_ fun zy=>?_
   ·exact jbs
   clear hK K
   refine TkG 17 rfl zy ?_
   refine TkG 18 rfl zy ?_
   refine Tk 19 rfl zy ?_
   refine To 20 rfl fun K hK=>?_
   go_simp
   refine Kz hK ?_
   clear hK K
   refine Wd ?_
   clear zy aP Pq c0 c1 c2 c3 p0 p1 p2 p3;go_wp2_with fail
   go_meet
   exact⟨cmp==0,rfl,(fun h=>absurd h (by omega)),(fun hA=>by rw[beq_eq_false_iff_ne];have:=DA.out hA;omega),WZ,yz,uo⟩
  case rest =>
  clear dD xO qq;obtain⟨b',rfl,hb',hbA,dD,xO,qq⟩:=hcut;have Bh:=Hh hbA;clear hbA;have HB:=Hh hb';clear hb';obtain⟨cs1,cs2,nE,We,Mc,IU⟩:=dD.parts k;have zE:=(hH.below xO (Nat.le_refl _)).drew;have xD:=hH.below xO (Nat.le_refl _);have p0:=zE.cell q0;have p1:=zE.cell q1;have p2:=zE.cell q2;have p3:=zE.cell q3;have r0:=zE.cell s0;have r1:=zE.cell s1;have r2:=zE.cell s2;have r3:=zE.cell s3;have yz:=(Below.refl wc.heap.size wc).drew;have QS:((j:Int)+1).toNat=j+1:=by omega
  have zB0:(0:Int)≤(j:Int)+1:=by omega
  have sW:=QI.out;have ZR:(k:Int)≤vc:=Int.le_trans hkI Lt.out;have kC:(0:Int)≤k:=Int.natCast_nonneg k;go_upto_region 18 with fail
  refine zw 19 (fun w'=>w'.cell? ⟨ib,io+j*4,none⟩=some (.int .i64 y.kind)∧w'.cell? ⟨ib,io+j*4+1,none⟩=some (.int .u64 y.n)∧w'.cell? ⟨ib,io+j*4+2,none⟩=some (.slice y1 y.bytes.length y2)∧w'.cell? ⟨ib,io+j*4+3,none⟩=some (.slice y3 y.items.length y4)∧w'.cell? ⟨ib,io+(j+1)*4,none⟩=some (.int .i64 z.kind)∧w'.cell? ⟨ib,io+(j+1)*4+1,none⟩=some (.int .u64 z.n)∧w'.cell? ⟨ib,io+(j+1)*4+2,none⟩=some (.slice z1 z.bytes.length z2)∧w'.cell? ⟨ib,io+(j+1)*4+3,none⟩=some (.slice z3 z.items.length z4)) (by kernel_rfl) (⟨p0,p1,p2,p3,r0,r1,r2,r3⟩) (fun zy=>?_)
  refine Tk 0 rfl zy ?_
  refine Tk 1 rfl zy ?_
  refine Tk 2 rfl zy ?_
  refine Tk 4 rfl zy ?_
  refine Tk 5 rfl zy ?_
  refine Tk 6 rfl zy ?_
  refine Tk 7 rfl zy ?_
  refine Tk 8 rfl zy ?_
  refine Tk 9 rfl zy ?_
  refine Tk 10 rfl zy ?_
  refine Tk 11 rfl zy ?_
  refine Tk 12 rfl zy ?_
  refine Tk 15 rfl zy ?_
  refine Tk 16 rfl zy ?_
  refine Tk 17 rfl zy ?_
  refine Ways.two (i:=3) (j:=13) rfl rfl (by kernel_rfl) (fun K hK=>?_) (fun K hK=>?_)
  ·rw[if_pos (by rfl)]
   refine vo (.const (.slice none 0 0)) (.tmp 76) rfl wc.heap.size (.slice none 0 0) H [] rfl (OwnI.nil _ _ _) _ _ _ cs1 (L.take k) rfl (by rw[List.length_take];omega) nE (Mc.below yz) (by simp;omega) yz.size fun v5 w5 hX hg hat=>?_
   rw[List.nil_append]at hX;have nM:=jfW;have yz:=yz.trans (nM.mono yz.size)
   try have MA:=MA.below nM
   refine Ko hK ?_ fun zy=>?_
   ·exact jan
   clear hK K
   refine To 13 rfl fun K hK=>?_
   go_simp
   have MA:=jfG
   try have hX:=hX.alloc (.cells #[.int .i64 y.kind,.int .u64 y.n,.slice y1 y.bytes.length y2,.slice y3 y.items.length y4,.int .i64 z.kind,.int .u64 z.n,.slice z1 z.bytes.length z2,.slice z3 z.items.length z4] 26)
   have yz:=jfB
   exact jaf
  go_simp
  have MA:=jfG
  try have hX:=hX.alloc (.cells #[.int .i64 y.kind,.int .u64 y.n,.slice y1 y.bytes.length y2,.slice y3 y.items.length y4,.int .i64 z.kind,.int .u64 z.n,.slice z1 z.bytes.length z2,.slice z3 z.items.length z4] 26)
  have yz:=jfB
  refine Ko hK ?_ fun zy=>?_
  ·exact jan
  clear hK K
  refine To 3 rfl fun K hK=>?_
  rw[if_pos (by rfl)]
  refine vo (.const (.slice none 0 0)) (.tmp 76) rfl wc.heap.size (.slice none 0 0) H [] rfl (OwnI.nil _ _ _) _ _ _ cs1 (L.take k) rfl (by rw[List.length_take];omega) nE (Mc.below yz) (by simp;omega) yz.size fun v5 w5 hX hg hat=>?_
  rw[List.nil_append]at hX;have nM:=jfW;have yz:=yz.trans (nM.mono yz.size)
  try have MA:=MA.below nM
  exact jaf
 have qJ:j=ps.length:=by omega
 subst qJ;have Iz:(zP L).length=(zP ps).length:=by have:=HS.out.2.1;rw[List.take_length]at this;exact this
 have QO:xB ps=true→b=false∧L=ps:=fun h=>by have:=HS.out.2.2 h;rw[List.take_length]at this;exact this
 have HZ:=Hh (And.intro Iz QO);have HPZ:Hid (PQ L ps):=by have:=DJ.out;rwa [List.take_length]at this
 clear Iz QO
 cases b with
 | true =>
  go_wp2_with (with_reducible refine zx ?_)
  refine stI sO fun w9 od xR=>?_
  have qp:=(Grows.of_below hH xY).grownOwn yO (Nat.le_refl _) xR;go_wp2_with fail
  refine zp rfl rfl od rfl rfl zu rfl ?_
  exact⟨_,.inr ⟨7,rfl,by omega,⟨none,0,none,0,H,rfl,qp,IsItem.plain H 0 0 (by omega) (by omega)⟩,fun h=>by have:=(HZ.out.2 h.2.1).1;cases this⟩⟩
 | false =>
 obtain⟨H8,JU,FQ,ZP,Mm,t8,tA,Pb⟩:=ve.snap (hH.below xY (Nat.le_refl _)) (fun g hg=>hH.none_of_ge (by have:=(ve.lt g (uB hg)).1;omega))
 have rt:Grows w H wr H8:=⟨xY,JU,FQ,fun b o hb=>by
  rcases ZP b o hb with h | h
  ·exact .inl h
  exact .inr (by have:=(ve.lt b (uB h)).1;omega)⟩
 have Ii:H8 w.heap.size=none:=by
  cases h8:H8 w.heap.size with
  | none=>rfl
  | some o =>
  rcases ZP _ o h8 with h | h
  ·rw[yO]at h;cases h
  have:=(ve.lt w.heap.size (uB h)).1;omega
 have zAO:=Mm;obtain⟨x7,jz⟩:∃ x,Itm.mk 5 0 [] L=x:=⟨_,rfl⟩
 have ip:IsItem H8 none 0 VA vc x7:=by
  rw[← jz,IsItem]
  exact⟨⟨by omega,by omega,by omega,t8,tA⟩,IsBytes.nil _,Pb⟩
 have ha8:ItemA H8 5 0 none 0 0 VA ps.length vc x7:=by
  refine⟨by rw[← jz];rfl,by rw[← jz];rfl,by rw[← jz];rfl, ?_,ip⟩
  rw[← jz];exact Mm
 have qp:=rt.alloc (.cells #[.int .i64 5,.int .u64 0,.slice none 0 0,.slice VA ps.length vc] 26);have od:=sO.alloc (.cells #[.int .i64 5,.int .u64 0,.slice none 0 0,.slice VA ps.length vc] 26);have fR:=Blk.new wr 26 #[.int .i64 5,.int .u64 0,.slice none 0 0,.slice VA ps.length vc];have V:=Hh (qP (hTab.mono JU) ha8 _ qp.holds);have HA8:=Hh ha8;have II:=Hh jz;clear jz ip ha8 t8 tA Pb Mm zAO ZP ve sO
 cases hv:zJ x7 with
 | false =>
  rw[hv]at V;have HV:=Hh hv;clear hv;go_wp2_with fail
  refine V.out.mono ?_
  rintro e w10 ⟨rfl,rl⟩
  have vO:=qp.below_ rl;have kU:=od.below rl;clear qp od fR rt rl;go_wp2_with (with_reducible refine zx ?_)
  refine stI kU fun w11 cX pY=>?_
  have mX:=vO.grownOwn Ii (Nat.le_refl _) pY;go_wp2_with fail
  refine zp rfl rfl cX rfl rfl zu rfl ?_
  exact⟨_,.inr ⟨8,rfl,by omega,⟨none,0,none,0,H8,rfl,mX,IsItem.plain H8 0 0 (by omega) (by omega)⟩,fun h=>by
   have h1:=HV.out;rw[← II.out,(HZ.out.2 h.2.1).2,h.2.2.2]at h1
   cases h1⟩⟩
 | true =>
 rw[hv]at V;have HV:=Hh hv;clear hv;go_wp2_with fail
 refine V.out.mono ?_
 rintro e w10 ⟨rfl,rl⟩
 have vO:=qp.below_ rl;have kU:=od.below rl;have oY:=fR.below rl;have c0:=oY.cell 0 rfl;have c1:=oY.cell 1 rfl;have c2:=oY.cell 2 rfl;have c3:=oY.cell 3 rfl;have C:=Hh (jZ x7 H8 _ _ _ _ _ _ _ _ w10 (yU HV.out) HA8.out vO.holds);clear qp od fR rt rl;go_wp2_with fail
 refine C.out.mono ?_
 rintro e w11 ⟨v11,rfl,ja,jb,jc,jd,H11,rfl,mX,cd⟩
 have cX:=kU.below mX.below;have Pi:=mX.none Ii kU.lt;have zR:=vO.trans mX;clear kU vO mX c0 c1 c2 c3;go_wp2_with (with_reducible refine zx ?_)
 refine stI cX fun w12 Gg hg12=>?_
 have rR:=zR.grownOwn Pi (Nat.le_refl _) hg12;go_wp2_with fail
 refine zp rfl rfl Gg rfl rfl zu rfl ?_
 exact⟨_,.inl ⟨L,rfl,by rw[II.out];exact⟨ja,jb,jc,jd,H11,rfl,rR,cd⟩,by rw[II.out];exact HV.out,HZ.out.1,fun h=>(HZ.out.2 h).2,HPZ.out⟩⟩
theorem TS:∀ {ps:List Itm},ps.length=2→xB ps=true
 | [_,_],_=>rfl
end Go.Proofs.YtliomcphdnppnaaGreatDoor
