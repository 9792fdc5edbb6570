/- squeezed. Walks: the reference's Build; of p -/
import Derived.Test.YtnlinmoiakgedaaGreatDoorK15
set_option linter.unusedVariables false
set_option linter.unusedSimpArgs false
set_option maxRecDepth 100000
set_option maxHeartbeats 12800000
namespace Go.Proofs.YtnlinmoiakgedaaGreatDoor
open Go.RowKit
theorem fP (l:List Itm) (h:xX l=true):∀ i:Nat,xX (l.drop (2*i))=true
 | 0=>by simpa using h
 | i+1=>by
  have ih:=fP l h i;rw[show 2*(i+1)=2*i+2 by omega,← List.drop_drop]
  generalize l.drop (2*i)=m at ih
  match m,ih with
  | [],_=>rfl
  | [_],_=>rfl
  | _::_::m,ih=>exact Zu ih
theorem dZ {l:List Itm}(h:xX l=true) {m:Nat}(he:m%2=0) (hm:m+2<l.length):Lib.compareBytes (zd (l[m]'(by omega))) (zd l[m+2])<0:=by
 obtain⟨i,rfl⟩:∃ i,m=2*i:=⟨m/2,by omega⟩
 have h1:=fP l h i;have h2:=sP l (2*i+2) (by omega) hm
 simp only[Nat.add_sub_cancel]at h2
 rw[h1]at h2;have h3:=(Bool.and_eq_true _ _).mp h2.symm;have h4:=of_decide_eq_true h3.1
 simpa using h4
def BuildSaid2 (w:World) (H:Snap) (ps:List Itm) (e:Ending) (w':World):Prop :=
 ∃ v,(∃ l,e=.returned (.tuple #[v,.int .i64 0])∧Gives w H (.mk 5 0 [] l) v w'∧yW (.mk 5 0 [] l)=true∧(zB l).length=(zB ps).length∧(xX ps=true→l=ps))∨
  (∃ c,e=.returned (.tuple #[v,.int .i64 c])∧c≠0∧Gives w H zt v w'∧¬ (ps.length%2=0∧xX ps=true∧(∀ x∈ps,yW x=true)∧yW (.mk 5 0 [] ps)=true))
theorem oO {H:Snap}(hTab:Tabs H) {A:Option Addr}{c:Nat}{ps:List Itm}(hr:IsRowI H A c ps) (hl:ps.length≤1099511627776) (w:World) (hH:Holds w H) :
  Calls Tryz.prog 15 #[.slice A ps.length c] w (BuildSaid2 w H ps):=by
 have hT:=Blk.new w 26 #[.int .i64 0,.int .u64 0,.slice none 0 0,.slice none 0 0];have hb:=zi w zr;have zQ:H w.heap.size=none:=hH.none_of_ge (Nat.le_refl _);have HR:=Hh hr;clear hr
 by_cases vX:ps.length%2=0
 case neg =>
  have b1:((ps.length:Int)%2 != 0)=true:=by rw[bne_iff_ne];omega
  have p1:((ps.length:Int)%2=0)=False:=eq_false (by omega);have HE:=Hh vX;clear vX;go_enter Tryz.func15,Tryz.ntmps15
  go_wp2_with fail
  refine zv rfl rfl hT rfl rfl zw rfl ?_
  exact⟨_,.inr ⟨1,rfl,by omega,⟨none,0,none,0,H,rfl,Grows.of_below hH hb,IsItem.plain H 0 0 (by omega) (by omega)⟩,fun h=>HE.out h.1⟩⟩
 have b1:((ps.length:Int)%2 != 0)=false:=by rw[bne_eq_false_iff_eq];omega
 have p1:((ps.length:Int)%2=0)=True:=eq_true (by omega);have HE:=Hh vX;clear vX;go_enter Tryz.func15,Tryz.ntmps15
 go_wp2_with fail
 go_loopw [18] (fun v18 wr=>∃ j:Nat,j≤ps.length∧v18=.int .i64 j∧(∀ x∈ps.take j,yW x=true)∧Below w.heap.size w wr∧Blk wr w.heap.size 26 #[.int .i64 0,.int .u64 0,.slice none 0 0,.slice none 0 0]) (fun v18 _=>ps.length-(intOf v18).toNat)
 case atStart=>exact⟨0,Nat.zero_le _,rfl,by simp,hb,hT⟩
 case round =>
  clear hb hT;obtain⟨j,hj,rfl,vH,xS,vf⟩:=hrel
  by_cases yi:j<ps.length
  ·have xT:=hH.below xS (Nat.le_refl _);obtain⟨ib,io,tj,wI⟩:=HR.out.elems (by omega);obtain⟨y1,y2,y3,y4,q0,q1,q2,q3,uU⟩:=wI.get j yi;subst tj;have p0:=xT.cell q0;have p1':=xT.cell q1;have p2:=xT.cell q2;have p3:=xT.cell q3;have QU:=xT.alloc (zW ps[j] y1 y2 y3 y4);have V:=Hh (rK hTab uU.arg _ QU);have wg:=xS.alloc xS.size (zW ps[j] y1 y2 y3 y4);have xD:=vf.alloc (zW ps[j] y1 y2 y3 y4);have ax:ps[j]∈ps:=List.getElem_mem yi;have HT:=Hh (show ps.take (j+1)=ps.take j++[ps[j]] from List.take_succ_eq_append_getElem yi);have SS:=Hh vH
   generalize ps[j]'yi=x at *
   clear q0 q1 q2 q3 wI uU xS vf xT vH
   cases hv:yW x with
   | false =>
    rw[hv]at V;have HX:=Hh (And.intro hv ax);clear hv ax;go_wp2_with fail
    refine V.out.mono ?_
    rintro e w3 ⟨rfl,tl⟩
    have xM:=xD.below tl;have yR:=wg.trans (tl.mono wg.size);clear xD wg tl;go_wp2_with (with_reducible refine zx ?_)
    refine stI xM fun w9 ui hg9=>?_
    have px:=(Grows.of_below hH yR).grownOwn zQ (Nat.le_refl _) hg9;go_wp2_with fail
    refine zv rfl rfl ui rfl rfl zw rfl ?_
    exact⟨_,.inr ⟨1,rfl,by omega,⟨none,0,none,0,H,rfl,px,IsItem.plain H 0 0 (by omega) (by omega)⟩,fun h=>by rw[h.2.2.1 x HX.out.2]at HX;cases HX.out.1⟩⟩
   | true =>
    rw[hv]at V;have HX:=Hh hv;clear hv ax;go_wp2_with fail
    refine V.out.mono ?_
    rintro e w3 ⟨rfl,tl⟩
    have xM:=xD.below tl;have yR:=wg.trans (tl.mono wg.size);have av:(j:Int)+1≤9223372036854775807:=by omega
    clear xD wg tl;go_wp2_with fail
    go_roundw
    case rel=>exact⟨j+1,by omega,by go_num,fun y hy=>by rw[HT.out,List.mem_append]at hy;rcases hy with hy | hy;exact SS.out y hy;rw[List.mem_singleton.1 hy];exact HX.out,yR,xM⟩
    case measure=>simp[intOf];omega
  ·have so:j=ps.length:=by omega
   subst so;rw[List.take_length]at vH;have SS:=Hh vH;clear vH;go_wp2_with fail
   go_loopw [6,7,8] (fun v6 v7 v8 wr=>∃ (j:Nat) (L:List Itm) (b:Bool) (VA:Option Addr) (vc:Nat),j≤ps.length∧j%2=0∧v8=.int .i64 (j:Int)∧v7=.bool b∧v6=.slice VA j vc∧L.length=j∧OwnI wr (w.heap.size+1) (.slice VA j vc) H L∧(∀ x∈L,x∈ps)∧
    (zB L).length=(zB (ps.take j)).length∧(xX ps=true→b=false∧L=ps.take j)∧Below w.heap.size w wr∧Blk wr w.heap.size 26 #[.int .i64 0,.int .u64 0,.slice none 0 0,.slice none 0 0]) (fun _ _ v8 _=>ps.length+1-(intOf v8).toNat)
   case atStart=>exact⟨0,[],false,none,0,Nat.zero_le _,rfl,rfl,rfl,rfl,rfl,OwnI.nil _ _ _,by simp,by simp,fun _=>⟨rfl,by simp⟩,xS,vf⟩
   case round =>
    clear xS vf;obtain⟨j,L,b,VA,vc,hj,Zc,rfl,rfl,rfl,N8,ww,ax,gh,h2,xS,vf⟩:=hrel
    have P7:Hid ((j:Int)≤vc):=by
     obtain⟨_,c9,e,h1,_⟩:=ww.form;injection e with _ _ e3
     subst e3;show(j:Int)≤(vc:Int)
     omega
    have HS:=Hh (And.intro ax (And.intro gh h2));have HJ:=Hh Zc;clear ax gh h2 Zc
    by_cases yi:j<ps.length
    ·have qs:j+1<ps.length:=by have:=HJ.out;have:=HE.out;omega
     obtain⟨ib,io,tj,wI⟩:=HR.out.elems (by omega);obtain⟨y1,y2,y3,y4,q0,q1,q2,q3,uU⟩:=wI.get j yi;obtain⟨z1,z2,z3,z4,s0,s1,s2,s3,ji⟩:=wI.get (j+1) qs;subst tj;have Ww:=Hh (SS.out ps[j] (List.getElem_mem yi));have eB:=Hh (And.intro (List.getElem_mem yi) (List.getElem_mem qs))
     have Ma:=Hh (show(zB (ps.take (j+2))).length=(zB (ps.take j)).length+(zd ps[j]).length+(zd ps[j+1]).length by
      have h1:=tf ps (j+1) qs;have h2:=tf ps j yi;rw[show j+2=j+1+1 by omega,h1,h2];simp only[List.length_append])
     have Mb:=Hh (show ps.take (j+2)=ps.take j++[ps[j],ps[j+1]] by
      rw[show j+2=j+1+1 by omega,List.take_succ_eq_append_getElem qs,List.take_succ_eq_append_getElem yi,List.append_assoc];rfl)
     have iL:=Hh (show xX ps=true→∀ m (hm:m+2=j) (hl:m<L.length),Lib.compareBytes (zd L[m]) (zd ps[j])<0 from fun hA m hm hl=>by
      have e:=(HS.out.2.2 hA).2;have Q1:m<j:=by omega
      have Nt:m<ps.length:=by omega
      have h1:L[m]? = some (ps[m]'Nt):=by rw[e,List.getElem?_take,if_pos Q1,List.getElem?_eq_getElem]
      rw[List.getElem?_eq_getElem hl]at h1;rw[Option.some.inj h1];have h2:=dZ (m:=m) hA (by have:=HJ.out;omega) (by omega);have h3:ps[m+2]'(by omega)=ps[j]:=by congr 1
      rw[h3]at h2
      exact h2)
     generalize ps[j]'yi=y at *
     generalize ps[j+1]'qs=z at *
     clear wI;have lG:(j:Int)<ps.length:=by omega
     have Yu:(j:Int)+1<ps.length:=by omega
     have av:(j:Int)+2≤9223372036854775807:=by omega
     have QM:Hid (IntKind.i64.wrap ((j:Int)+1)=(j:Int)+1):=IntWalk.i64_in _ (by omega);go_wp2_with fail
     go_loopw [9] (fun v9 wx=>∃ k:Nat,k≤j∧k%2=0∧(xX ps=true→k=j)∧v9=.int .i64 (k:Int)∧OwnI wx (w.heap.size+1) (.slice VA j vc) H L∧Below w.heap.size w wx∧Blk wx w.heap.size 26 #[.int .i64 0,.int .u64 0,.slice none 0 0,.slice none 0 0]) (fun v9 _=>(intOf v9).toNat)
     case atStart=>exact⟨j,Nat.le_refl _,HJ.out,fun _=>rfl,rfl,ww,xS,vf⟩
     case round =>
      clear ww xS vf;obtain⟨k,hk,XZ,TX,rfl,eE,wZ,lM⟩:=hrel;have QJ:=Hh TX;clear TX;have Zh:=Hh XZ;clear XZ;have No:((k:Nat):Int)≤j:=by omega
      go_upto_region 15 with fail
      go_cut [51] (fun s51 wx=>∃ bb:Bool,s51=.bool bb∧(bb=true→2≤k)∧(xX ps=true→bb=false)∧OwnI wx (w.heap.size+1) (.slice VA j vc) H L∧Below w.heap.size w wx∧Blk wx w.heap.size 26 #[.int .i64 0,.int .u64 0,.slice none 0 0,.slice none 0 0])
      case first =>
       by_cases qN:k=0
       ·subst qN;skip
        refine zf 16 (fun _=>True) (by kernel_rfl) (trivial) (fun zy=>?_)
        refine Tk 0 rfl zy ?_
        refine Tk 1 rfl zy ?_
        refine Tk 2 rfl zy ?_
        refine TkU 3 rfl zy ?_
        refine TkU 4 rfl zy ?_
        refine TkU 5 rfl zy ?_
        refine TkU 6 rfl zy ?_
        refine TkU 7 rfl zy ?_
        refine TkU 8 rfl zy ?_
        refine TkU 9 rfl zy ?_
        refine TkU 10 rfl zy ?_
        refine TkU 11 rfl zy ?_
        refine TkU 12 rfl zy ?_
        refine TkU 13 rfl zy ?_
        refine TkU 14 rfl zy ?_
        refine TkU 15 rfl zy ?_
        refine To 16 rfl fun K hK=>?_
        go_simp
        refine hK.out _ _ (fun h=>absurd rfl h) (fun _=>?_)
        clear hK K
        try simp only[Act.put,zz4,zz5,zz6]
        refine Ways.done (by kernel_rfl) ?_
        go_wp2_with fail
        go_meet
        exact⟨false,rfl,(fun h=>by cases h),(fun _=>rfl),eE,wZ.drew,lM⟩
       ·obtain⟨m,rfl⟩:∃ m,k=m+2:=⟨k-2,by have:=Zh.out;omega⟩
        have Q1:m<j:=by omega
        obtain⟨lb,lo,Pz,x1,x2,x3,x4,c0,c1,c2,c3,Ps⟩:=eE.cells m (by omega);subst Pz;have P9:=Hh (SS.out _ (HS.out.1 _ (List.getElem_mem (show m<L.length by omega))));have Zm:=Hh (show xX ps=true→Lib.compareBytes (zd (L[m]'(by omega))) (zd y)<0 from fun hA=>iL.out hA m (QJ.out hA) (by omega))
        generalize L[m]'(by omega)=x at *
        have e2:((m+2:Nat):Int)=(m:Int)+2:=by omega
        rw[e2];have o3:IntKind.i64.wrap ((m:Int)+2-2)=(m:Int):=by rw[show(m:Int)+2-2=(m:Int) by omega];exact IntWalk.i64_in _ (by omega)
        have oe:IntKind.i64.wrap (m:Int)=(m:Int):=IntWalk.i64_in _ (by omega);have Qe:(m:Int)<j:=by omega
        have lQ:(0:Int)≤(m:Int):=by omega
        have Nt:(0:Int)<(m:Int)+2:=by omega
        have zG:=(hH.below wZ (Nat.le_refl _)).drew;have p0:=zG.cell q0;have p1:=zG.cell q1;have p2:=zG.cell q2;have p3:=zG.cell q3;have c0:=tr c0;have c1:=tr c1;have c2:=tr c2;have c3:=tr c3;have yR:=wZ.drew;have eF:=OwnI.drew eE;have tM:=lM.drew;obtain⟨cmp,ul⟩:∃ cmp,Lib.compareBytes (zd x) (zd y)=cmp:=⟨_,rfl⟩
        have gx:=(uz x).1 P9.out;have gy:=(uz y).1 Ww.out;have Ug:=Hh gx;have gP:=Hh gy;have Ol:=Hh ul;have SJ:=Hh (show xX ps=true→cmp<0 from fun hA=>by have h:=Zm.out hA;rw[ul]at h;exact h);clear gx gy ul e2 eE wZ lM qN hk;skip
        refine zf 16 (fun w'=>w'.cell? ⟨lb,lo+m*4,none⟩=some (.int .i64 x.kind)∧w'.cell? ⟨lb,lo+m*4+1,none⟩=some (.int .u64 x.n)∧w'.cell? ⟨lb,lo+m*4+2,none⟩=some (.slice x1 x.bytes.length x2)∧w'.cell? ⟨lb,lo+m*4+3,none⟩=some (.slice x3 x.items.length x4)∧w'.cell? ⟨ib,io+j*4,none⟩=some (.int .i64 y.kind)∧w'.cell? ⟨ib,io+j*4+1,none⟩=some (.int .u64 y.n)∧w'.cell? ⟨ib,io+j*4+2,none⟩=some (.slice y1 y.bytes.length y2)∧w'.cell? ⟨ib,io+j*4+3,none⟩=some (.slice y3 y.items.length y4)) (by kernel_rfl) (⟨c0,c1,c2,c3,p0,p1,p2,p3⟩) (fun zy=>?_)
        refine Tk 0 rfl zy ?_
        refine Tk 1 rfl zy ?_
        refine Tk 2 rfl zy ?_
        refine TkG 3 rfl zy ?_
        refine TkG 4 rfl zy ?_
        refine TkG 5 rfl zy ?_
        refine TkG 6 rfl zy ?_
        refine TkG 7 rfl zy ?_
        refine TkG 9 rfl zy ?_
        refine TkG 10 rfl zy ?_
        refine TkG 11 rfl zy ?_
        refine TkG 12 rfl zy ?_
        refine To 8 rfl fun K hK=>?_
        go_simp
        refine(vB x H _ _ x1 _ x2 x3 _ x4 _ 0 Ug.out.1 (by have:=Ug.out.2.2;omega) Ps.arg zG).mono ?_
        rintro e w5 ⟨r5,rfl,vT⟩
        obtain⟨RA5,rc5,rfl,_⟩:=vT.own.form;have zG:=zG.below vT.2 (Nat.le_refl _);have yR:=yR.trans (vT.2.mono yR.size);have eF:=eF.below vT.2;have tM:=tM.below vT.2;have iQ:=vT.own.src;have c0:=yT c0 vT.2;have c1:=yT c1 vT.2;have c2:=yT c2 vT.2;have c3:=yT c3 vT.2
        refine hK.out _ _ (fun _=>?_) (fun zy=>?_)
        ·exact⟨c0,c1,c2,c3,zG.cell q0,zG.cell q1,zG.cell q2,zG.cell q3⟩
        clear hK K;have zy:=zy (by decide)
        try simp only[Act.put,zz4,zz5,zz6]
        refine To 13 rfl fun K hK=>?_
        go_simp
        refine(vB y H _ _ y1 _ y2 y3 _ y4 _ 0 gP.out.1 (by have:=gP.out.2.2;omega) uU.arg zG).mono ?_
        rintro e w6 ⟨r6,rfl,rm⟩
        obtain⟨RA6,rc6,rfl,_⟩:=rm.own.form;have zG:=zG.below rm.2 (Nat.le_refl _);have yR:=yR.trans (rm.2.mono yR.size);have eF:=eF.below rm.2;have tM:=tM.below rm.2;have iQ:=iQ.below rm.2;have ZO:=rm.own.src;have c0:=yT c0 rm.2;have c1:=yT c1 rm.2;have c2:=yT c2 rm.2;have c3:=yT c3 rm.2
        refine hK.out _ _ (fun _=>?_) (fun zy=>?_)
        ·exact⟨c0,c1,c2,c3,zG.cell q0,zG.cell q1,zG.cell q2,zG.cell q3⟩
        clear hK K;have zy:=zy (by decide)
        try simp only[Act.put,zz4,zz5,zz6]
        refine To 14 rfl fun K hK=>?_
        go_simp
        refine(vF _ RA5 RA6 (zd x) (zd y) (zd x).length (zd y).length rc5 rc6 rfl rfl (by have:=Ug.out.2.2;omega) (by have:=gP.out.2.2;omega) iQ ZO).mono ?_
        rintro e w7 ⟨rfl,wj⟩
        rw[Ol.out];have zG:=zG.below wj (Nat.le_refl _);have yR:=yR.trans (wj.mono yR.size);have eF:=eF.below wj;have tM:=tM.below wj;have c0:=yT c0 wj;have c1:=yT c1 wj;have c2:=yT c2 wj;have c3:=yT c3 wj
        refine hK.out _ _ (fun _=>?_) (fun zy=>?_)
        ·exact⟨c0,c1,c2,c3,zG.cell q0,zG.cell q1,zG.cell q2,zG.cell q3⟩
        clear hK K;have zy:=zy (by decide)
        try simp only[Act.put,zz4,zz5,zz6]
        refine TkG 15 rfl zy ?_
        refine To 16 rfl fun K hK=>?_
        go_simp
        refine hK.out _ _ (fun h=>absurd rfl h) (fun _=>?_)
        clear hK K
        try simp only[Act.put,zz4,zz5,zz6]
        refine Ways.done (by kernel_rfl) ?_
        clear zy iQ ZO c0 c1 c2 c3 p0 p1 p2 p3;go_wp2_with fail
        go_meet
        exact⟨decide ((0:Int)<cmp),rfl,(fun _=>by omega),(fun hA=>decide_eq_false (by have:=SJ.out hA;omega)),eF,yR,tM⟩
      case rest =>
       clear eE wZ lM;obtain⟨bb,rfl,Uv,NY,eE,wZ,lM⟩:=hcut;have Ku:=Hh NY;clear NY
       cases bb with
       | true =>
        obtain⟨m,rfl⟩:∃ m,k=m+2:=⟨k-2,by have:=Uv rfl;omega⟩
        have o3:IntKind.i64.wrap (((m+2:Nat):Int)-2)=(m:Int):=by rw[show((m+2:Nat):Int)-2=(m:Int) by omega];exact IntWalk.i64_in _ (by omega)
        clear Uv;go_wp2_with fail
        go_roundw
        case rel=>exact⟨m,by omega,by have:=Zh.out;omega,(fun hA=>by have:=Ku.out hA;cases this),by first | rfl | go_num,eE,wZ,lM⟩
        case measure=>simp[intOf];omega
       | false =>
        clear Uv;go_upto_region 17 with fail
        go_cut [7] (fun s7 wx=>∃ b':Bool,s7=.bool b'∧(k=0→b'=b)∧(xX ps=true→b'=b)∧OwnI wx (w.heap.size+1) (.slice VA j vc) H L∧Below w.heap.size w wx∧Blk wx w.heap.size 26 #[.int .i64 0,.int .u64 0,.slice none 0 0,.slice none 0 0])
        case first =>
         cases b with
         | true =>
          refine zf 20 (fun _=>True) (by kernel_rfl) (trivial) (fun zy=>?_)
          refine Tk 0 rfl zy ?_
          refine Tk 1 rfl zy ?_
          refine TkU 2 rfl zy ?_
          refine TkU 3 rfl zy ?_
          refine TkU 4 rfl zy ?_
          refine TkU 5 rfl zy ?_
          refine TkU 6 rfl zy ?_
          refine TkU 7 rfl zy ?_
          refine TkU 8 rfl zy ?_
          refine TkU 9 rfl zy ?_
          refine TkU 10 rfl zy ?_
          refine TkU 11 rfl zy ?_
          refine TkU 12 rfl zy ?_
          refine TkU 13 rfl zy ?_
          refine TkU 14 rfl zy ?_
          refine TkU 15 rfl zy ?_
          refine TkU 16 rfl zy ?_
          refine TkU 17 rfl zy ?_
          refine TkU 18 rfl zy ?_
          refine Tk 19 rfl zy ?_
          refine To 20 rfl fun K hK=>?_
          go_simp
          refine hK.out _ _ (fun h=>absurd rfl h) (fun _=>?_)
          clear hK K
          try simp only[Act.put,zz4,zz5,zz6]
          refine Ways.done (by kernel_rfl) ?_
          go_wp2_with fail
          go_meet
          exact⟨true,rfl,(fun _=>rfl),(fun _=>rfl),eE,wZ.drew,lM⟩
         | false =>
          by_cases qN:k=0
          ·subst qN
           refine zf 20 (fun _=>True) (by kernel_rfl) (trivial) (fun zy=>?_)
           refine Tk 0 rfl zy ?_
           refine Tk 1 rfl zy ?_
           refine TkG 2 rfl zy ?_
           refine TkG 3 rfl zy ?_
           refine TkG 4 rfl zy ?_
           refine TkU 5 rfl zy ?_
           refine TkU 6 rfl zy ?_
           refine TkU 7 rfl zy ?_
           refine TkU 8 rfl zy ?_
           refine TkU 9 rfl zy ?_
           refine TkU 10 rfl zy ?_
           refine TkU 11 rfl zy ?_
           refine TkU 12 rfl zy ?_
           refine TkU 13 rfl zy ?_
           refine TkU 14 rfl zy ?_
           refine TkU 15 rfl zy ?_
           refine TkU 16 rfl zy ?_
           refine TkU 17 rfl zy ?_
           refine TkG 18 rfl zy ?_
           refine Tk 19 rfl zy ?_
           refine To 20 rfl fun K hK=>?_
           go_simp
           refine hK.out _ _ (fun h=>absurd rfl h) (fun _=>?_)
           clear hK K
           try simp only[Act.put,zz4,zz5,zz6]
           refine Ways.done (by kernel_rfl) ?_
           go_wp2_with fail
           go_meet
           exact⟨false,rfl,(fun _=>rfl),(fun _=>rfl),eE,wZ.drew,lM⟩
          ·skip
           obtain⟨m,rfl⟩:∃ m,k=m+2:=⟨k-2,by have:=Zh.out;omega⟩
           have Q1:m<j:=by omega
           obtain⟨lb,lo,Pz,x1,x2,x3,x4,c0,c1,c2,c3,Ps⟩:=eE.cells m (by omega);subst Pz;have P9:=Hh (SS.out _ (HS.out.1 _ (List.getElem_mem (show m<L.length by omega))));have Zm:=Hh (show xX ps=true→Lib.compareBytes (zd (L[m]'(by omega))) (zd y)<0 from fun hA=>iL.out hA m (QJ.out hA) (by omega))
           generalize L[m]'(by omega)=x at *
           have e2:((m+2:Nat):Int)=(m:Int)+2:=by omega
           rw[e2];have o3:IntKind.i64.wrap ((m:Int)+2-2)=(m:Int):=by rw[show(m:Int)+2-2=(m:Int) by omega];exact IntWalk.i64_in _ (by omega)
           have oe:IntKind.i64.wrap (m:Int)=(m:Int):=IntWalk.i64_in _ (by omega);have Qe:(m:Int)<j:=by omega
           have lQ:(0:Int)≤(m:Int):=by omega
           have Nt:(0:Int)<(m:Int)+2:=by omega
           have zG:=(hH.below wZ (Nat.le_refl _)).drew;have p0:=zG.cell q0;have p1:=zG.cell q1;have p2:=zG.cell q2;have p3:=zG.cell q3;have c0:=tr c0;have c1:=tr c1;have c2:=tr c2;have c3:=tr c3;have yR:=wZ.drew;have eF:=OwnI.drew eE;have tM:=lM.drew;obtain⟨cmp,ul⟩:∃ cmp,Lib.compareBytes (zd x) (zd y)=cmp:=⟨_,rfl⟩
           have gx:=(uz x).1 P9.out;have gy:=(uz y).1 Ww.out;have Ug:=Hh gx;have gP:=Hh gy;have Ol:=Hh ul;have SJ:=Hh (show xX ps=true→cmp<0 from fun hA=>by have h:=Zm.out hA;rw[ul]at h;exact h);clear gx gy ul e2 eE wZ lM qN hk
           refine zf 20 (fun w'=>w'.cell? ⟨lb,lo+m*4,none⟩=some (.int .i64 x.kind)∧w'.cell? ⟨lb,lo+m*4+1,none⟩=some (.int .u64 x.n)∧w'.cell? ⟨lb,lo+m*4+2,none⟩=some (.slice x1 x.bytes.length x2)∧w'.cell? ⟨lb,lo+m*4+3,none⟩=some (.slice x3 x.items.length x4)∧w'.cell? ⟨ib,io+j*4,none⟩=some (.int .i64 y.kind)∧w'.cell? ⟨ib,io+j*4+1,none⟩=some (.int .u64 y.n)∧w'.cell? ⟨ib,io+j*4+2,none⟩=some (.slice y1 y.bytes.length y2)∧w'.cell? ⟨ib,io+j*4+3,none⟩=some (.slice y3 y.items.length y4)) (by kernel_rfl) (⟨c0,c1,c2,c3,p0,p1,p2,p3⟩) (fun zy=>?_)
           refine Tk 0 rfl zy ?_
           refine Tk 1 rfl zy ?_
           refine TkG 2 rfl zy ?_
           refine TkG 3 rfl zy ?_
           refine TkG 4 rfl zy ?_
           refine TkG 5 rfl zy ?_
           refine TkG 6 rfl zy ?_
           refine TkG 7 rfl zy ?_
           refine TkG 8 rfl zy ?_
           refine TkG 9 rfl zy ?_
           refine TkG 11 rfl zy ?_
           refine TkG 12 rfl zy ?_
           refine TkG 13 rfl zy ?_
           refine TkG 14 rfl zy ?_
           refine To 10 rfl fun K hK=>?_
           go_simp
           refine(vB x H _ _ x1 _ x2 x3 _ x4 _ 0 Ug.out.1 (by have:=Ug.out.2.2;omega) Ps.arg zG).mono ?_
           rintro e w5 ⟨r5,rfl,vT⟩
           obtain⟨RA5,rc5,rfl,_⟩:=vT.own.form;have zG:=zG.below vT.2 (Nat.le_refl _);have yR:=yR.trans (vT.2.mono yR.size);have eF:=eF.below vT.2;have tM:=tM.below vT.2;have iQ:=vT.own.src;have c0:=yT c0 vT.2;have c1:=yT c1 vT.2;have c2:=yT c2 vT.2;have c3:=yT c3 vT.2
           refine hK.out _ _ (fun _=>?_) (fun zy=>?_)
           ·exact⟨c0,c1,c2,c3,zG.cell q0,zG.cell q1,zG.cell q2,zG.cell q3⟩
           clear hK K;have zy:=zy (by decide)
           try simp only[Act.put,zz4,zz5,zz6]
           refine To 15 rfl fun K hK=>?_
           go_simp
           refine(vB y H _ _ y1 _ y2 y3 _ y4 _ 0 gP.out.1 (by have:=gP.out.2.2;omega) uU.arg zG).mono ?_
           rintro e w6 ⟨r6,rfl,rm⟩
           obtain⟨RA6,rc6,rfl,_⟩:=rm.own.form;have zG:=zG.below rm.2 (Nat.le_refl _);have yR:=yR.trans (rm.2.mono yR.size);have eF:=eF.below rm.2;have tM:=tM.below rm.2;have iQ:=iQ.below rm.2;have ZO:=rm.own.src;have c0:=yT c0 rm.2;have c1:=yT c1 rm.2;have c2:=yT c2 rm.2;have c3:=yT c3 rm.2
           refine hK.out _ _ (fun _=>?_) (fun zy=>?_)
           ·exact⟨c0,c1,c2,c3,zG.cell q0,zG.cell q1,zG.cell q2,zG.cell q3⟩
           clear hK K;have zy:=zy (by decide)
           try simp only[Act.put,zz4,zz5,zz6]
           refine To 16 rfl fun K hK=>?_
           go_simp
           refine(vF _ RA5 RA6 (zd x) (zd y) (zd x).length (zd y).length rc5 rc6 rfl rfl (by have:=Ug.out.2.2;omega) (by have:=gP.out.2.2;omega) iQ ZO).mono ?_
           rintro e w7 ⟨rfl,wj⟩
           rw[Ol.out];have zG:=zG.below wj (Nat.le_refl _);have yR:=yR.trans (wj.mono yR.size);have eF:=eF.below wj;have tM:=tM.below wj;have c0:=yT c0 wj;have c1:=yT c1 wj;have c2:=yT c2 wj;have c3:=yT c3 wj
           refine hK.out _ _ (fun _=>?_) (fun zy=>?_)
           ·exact⟨c0,c1,c2,c3,zG.cell q0,zG.cell q1,zG.cell q2,zG.cell q3⟩
           clear hK K;have zy:=zy (by decide)
           try simp only[Act.put,zz4,zz5,zz6]
           refine TkG 17 rfl zy ?_
           refine TkG 18 rfl zy ?_
           refine Tk 19 rfl zy ?_
           refine To 20 rfl fun K hK=>?_
           go_simp
           refine hK.out _ _ (fun h=>absurd rfl h) (fun _=>?_)
           clear hK K
           try simp only[Act.put,zz4,zz5,zz6]
           refine Ways.done (by kernel_rfl) ?_
           clear zy iQ ZO c0 c1 c2 c3 p0 p1 p2 p3;go_wp2_with fail
           go_meet
           exact⟨cmp==0,rfl,(fun h=>absurd h (by omega)),(fun hA=>by rw[beq_eq_false_iff_ne];have:=SJ.out hA;omega),eF,yR,tM⟩
        case rest =>
         clear eE wZ lM;obtain⟨b',rfl,QZ,NV,eE,wZ,lM⟩:=hcut;have R5:=Hh NV;clear NV;have HB:=Hh QZ;clear QZ;obtain⟨cs1,cs2,p8,ZZ,mF,VY⟩:=eE.parts k;have zG:=(hH.below wZ (Nat.le_refl _)).drew;have uj:=hH.below wZ (Nat.le_refl _);have p0:=zG.cell q0;have p1:=zG.cell q1;have p2:=zG.cell q2;have p3:=zG.cell q3;have r0:=zG.cell s0;have r1:=zG.cell s1;have r2:=zG.cell s2;have r3:=zG.cell s3;have yR:=(Below.refl wc.heap.size wc).drew;have TW:((j:Int)+1).toNat=j+1:=by omega
         have KY:(0:Int)≤(j:Int)+1:=by omega
         have o3:=QM.out;have T3:(k:Int)≤vc:=Int.le_trans No P7.out;have qN:(0:Int)≤k:=Int.natCast_nonneg k;go_upto_region 18 with fail
         refine zf 19 (fun w'=>w'.cell? ⟨ib,io+j*4,none⟩=some (.int .i64 y.kind)∧w'.cell? ⟨ib,io+j*4+1,none⟩=some (.int .u64 y.n)∧w'.cell? ⟨ib,io+j*4+2,none⟩=some (.slice y1 y.bytes.length y2)∧w'.cell? ⟨ib,io+j*4+3,none⟩=some (.slice y3 y.items.length y4)∧w'.cell? ⟨ib,io+(j+1)*4,none⟩=some (.int .i64 z.kind)∧w'.cell? ⟨ib,io+(j+1)*4+1,none⟩=some (.int .u64 z.n)∧w'.cell? ⟨ib,io+(j+1)*4+2,none⟩=some (.slice z1 z.bytes.length z2)∧w'.cell? ⟨ib,io+(j+1)*4+3,none⟩=some (.slice z3 z.items.length z4)) (by kernel_rfl) (⟨p0,p1,p2,p3,r0,r1,r2,r3⟩) (fun zy=>?_)
         refine Tk 0 rfl zy ?_
         refine Tk 1 rfl zy ?_
         refine Tk 2 rfl zy ?_
         refine Tk 4 rfl zy ?_
         refine Tk 5 rfl zy ?_
         refine Tk 6 rfl zy ?_
         refine Tk 7 rfl zy ?_
         refine Tk 8 rfl zy ?_
         refine Tk 9 rfl zy ?_
         refine Tk 10 rfl zy ?_
         refine Tk 11 rfl zy ?_
         refine Tk 12 rfl zy ?_
         refine Tk 15 rfl zy ?_
         refine Tk 16 rfl zy ?_
         refine Tk 17 rfl zy ?_
         refine Ways.two (i:=3) (j:=13) rfl rfl (by kernel_rfl) (fun K hK=>?_) (fun K hK=>?_)
         ·rw[if_pos (by rfl)]
          refine ym (.const (.slice none 0 0)) (.tmp 76) rfl wc.heap.size (.slice none 0 0) H [] rfl (OwnI.nil _ _ _) _ _ _ cs1 (L.take k) rfl (by rw[List.length_take];omega) p8 (mF.below yR) (by simp;omega) yR.size fun v5 w5 hX hg nz=>?_
          rw[List.nil_append]at hX;have qL:=yo (by simpa [Value.ownBlock] using hg);have yR:=yR.trans (qL.mono yR.size)
          try have X7:=X7.below qL
          refine hK.out _ _ (fun _=>?_) (fun zy=>?_)
          ·exact⟨(uj.below yR (Nat.le_refl _)).cell q0,(uj.below yR (Nat.le_refl _)).cell q1,(uj.below yR (Nat.le_refl _)).cell q2,(uj.below yR (Nat.le_refl _)).cell q3,(uj.below yR (Nat.le_refl _)).cell s0,(uj.below yR (Nat.le_refl _)).cell s1,(uj.below yR (Nat.le_refl _)).cell s2,(uj.below yR (Nat.le_refl _)).cell s3⟩
          clear hK K;have zy:=zy (by decide)
          try simp only[Act.put,zz1,zz2,zz3,zz4,zz5,zz6]
          refine To 13 rfl fun K hK=>?_
          go_simp
          have X7:=ig yR 26 #[.int .i64 y.kind,.int .u64 y.n,.slice y1 y.bytes.length y2,.slice y3 y.items.length y4,.int .i64 z.kind,.int .u64 z.n,.slice z1 z.bytes.length z2,.slice z3 z.items.length z4]
          try have hX:=hX.alloc (.cells #[.int .i64 y.kind,.int .u64 y.n,.slice y1 y.bytes.length y2,.slice y3 y.items.length y4,.int .i64 z.kind,.int .u64 z.n,.slice z1 z.bytes.length z2,.slice z3 z.items.length z4] 26)
          have yR:=yR.alloc yR.size (.cells #[.int .i64 y.kind,.int .u64 y.n,.slice y1 y.bytes.length y2,.slice y3 y.items.length y4,.int .i64 z.kind,.int .u64 z.n,.slice z1 z.bytes.length z2,.slice z3 z.items.length z4] 26)
          refine hK.out _ _ (fun _=>?_) (fun zy=>?_)
          ·exact⟨(uj.below yR (Nat.le_refl _)).cell q0,(uj.below yR (Nat.le_refl _)).cell q1,(uj.below yR (Nat.le_refl _)).cell q2,(uj.below yR (Nat.le_refl _)).cell q3,(uj.below yR (Nat.le_refl _)).cell s0,(uj.below yR (Nat.le_refl _)).cell s1,(uj.below yR (Nat.le_refl _)).cell s2,(uj.below yR (Nat.le_refl _)).cell s3⟩
          clear hK K;have zy:=zy (by decide)
          try simp only[Act.put,zz1,zz2,zz3,zz4,zz5,zz6]
          refine To 14 rfl fun K hK=>?_
          rw[if_pos (by rfl)]
          refine ym (.tmp 77) (.tmp 87) rfl wc.heap.size _ H (L.take k) rfl hX _ _ _ (zg y y1 y2 y3 y4++zg z z1 z2 z3 z4) [y,z] rfl rfl ((ItemsC.one uU).app (ItemsC.one ji)) X7 (by rw[List.length_take];simp;omega) yR.size fun v7 w7 nF hg7 hat7=>?_
          have yR:=yR.grown hg7 yR.size (fun q hq=>(hX.lt q hq).1)
          refine hK.out _ _ (fun _=>?_) (fun zy=>?_)
          ·exact⟨(uj.below yR (Nat.le_refl _)).cell q0,(uj.below yR (Nat.le_refl _)).cell q1,(uj.below yR (Nat.le_refl _)).cell q2,(uj.below yR (Nat.le_refl _)).cell q3,(uj.below yR (Nat.le_refl _)).cell s0,(uj.below yR (Nat.le_refl _)).cell s1,(uj.below yR (Nat.le_refl _)).cell s2,(uj.below yR (Nat.le_refl _)).cell s3⟩
          clear hK K;have zy:=zy (by decide)
          try simp only[Act.put,zz1,zz2,zz3,zz4,zz5,zz6]
          refine To 18 rfl fun K hK=>?_
          rw[if_pos (by rfl)]
          refine ym (.tmp 88) (.tmp 91) rfl wc.heap.size _ H (L.take k++[y,z]) rfl nF _ _ _ cs2 (L.drop k) rfl (by rw[List.length_drop];omega) ZZ ?_ (by rw[List.length_append,List.length_take,List.length_drop];simp;omega) yR.size fun v8 w8 tY hg8 hat8=>?_
          ·exact(Src.slicek VY ZZ N8 P7.out).below yR
          have yR:=yR.grown hg8 yR.size (fun q hq=>(nF.lt q hq).1)
          refine hK.out _ _ (fun _=>?_) (fun zy=>?_)
          ·exact⟨(uj.below yR (Nat.le_refl _)).cell q0,(uj.below yR (Nat.le_refl _)).cell q1,(uj.below yR (Nat.le_refl _)).cell q2,(uj.below yR (Nat.le_refl _)).cell q3,(uj.below yR (Nat.le_refl _)).cell s0,(uj.below yR (Nat.le_refl _)).cell s1,(uj.below yR (Nat.le_refl _)).cell s2,(uj.below yR (Nat.le_refl _)).cell s3⟩
          clear hK K;have zy:=zy (by decide)
          try simp only[Act.put,zz1,zz2,zz3,zz4,zz5,zz6]
          refine To 19 rfl fun K hK=>?_
          go_simp
          refine hK.out _ _ (fun h=>absurd rfl h) (fun _=>?_)
          clear hK K
          try simp only[Act.put,zz1,zz2,zz3,zz4,zz5,zz6]
          refine Ways.done (by kernel_rfl) ?_
          clear zy hX nF hg nz hg7 hat7 hg8 hat8 qL X7 mF VY p8 ZZ p0 p1 p2 p3 r0 r1 r2 r3 zG;obtain⟨VA',vc',rfl,_⟩:=tY.form;have zK:(L.take k++[y,z]++L.drop k).length=j+2:=by rw[List.length_append,List.length_append,List.length_take,List.length_drop];simp;omega
          rw[zK]at tY;rw[zK];have o5:=tY.more (base':=w.heap.size+1) (by have:=lM.lt;omega);have nA:=wZ.trans (yR.mono wZ.size);have vN:=lM.below yR;have uM:=Hh zK;clear zK tY;go_wp2_with fail
          go_roundw
          case rel =>
           refine⟨j+2,L.take k++[y,z]++L.drop k,b',VA',vc',by omega,by have:=HJ.out;omega,by go_num,rfl,rfl,uM.out,o5,fun x hx=>?_, ?_,fun h2=>?_,nA,vN⟩
           ·simp only[List.mem_append,List.mem_cons,List.not_mem_nil,or_false]at hx
            rcases hx with (hx | rfl | rfl) | hx
            ·exact HS.out.1 x (List.mem_of_mem_take hx)
            ·exact eB.out.1
            ·exact eB.out.2
            ·exact HS.out.1 x (List.mem_of_mem_drop hx)
           ·rw[fX,Ma.out,HS.out.2.1]
           ·have Sl:=HS.out.2.2 h2;have TX:=QJ.out h2
            refine⟨by rw[R5.out h2];exact Sl.1, ?_⟩
            rw[Mb.out,← Sl.2,TX,List.take_of_length_le (by omega),List.drop_of_length_le (by omega)]
            simp
          case measure=>simp[intOf];omega
         ·go_simp
          have X7:=ig yR 26 #[.int .i64 y.kind,.int .u64 y.n,.slice y1 y.bytes.length y2,.slice y3 y.items.length y4,.int .i64 z.kind,.int .u64 z.n,.slice z1 z.bytes.length z2,.slice z3 z.items.length z4]
          try have hX:=hX.alloc (.cells #[.int .i64 y.kind,.int .u64 y.n,.slice y1 y.bytes.length y2,.slice y3 y.items.length y4,.int .i64 z.kind,.int .u64 z.n,.slice z1 z.bytes.length z2,.slice z3 z.items.length z4] 26)
          have yR:=yR.alloc yR.size (.cells #[.int .i64 y.kind,.int .u64 y.n,.slice y1 y.bytes.length y2,.slice y3 y.items.length y4,.int .i64 z.kind,.int .u64 z.n,.slice z1 z.bytes.length z2,.slice z3 z.items.length z4] 26)
          refine hK.out _ _ (fun _=>?_) (fun zy=>?_)
          ·exact⟨(uj.below yR (Nat.le_refl _)).cell q0,(uj.below yR (Nat.le_refl _)).cell q1,(uj.below yR (Nat.le_refl _)).cell q2,(uj.below yR (Nat.le_refl _)).cell q3,(uj.below yR (Nat.le_refl _)).cell s0,(uj.below yR (Nat.le_refl _)).cell s1,(uj.below yR (Nat.le_refl _)).cell s2,(uj.below yR (Nat.le_refl _)).cell s3⟩
          clear hK K;have zy:=zy (by decide)
          try simp only[Act.put,zz1,zz2,zz3,zz4,zz5,zz6]
          refine To 3 rfl fun K hK=>?_
          rw[if_pos (by rfl)]
          refine ym (.const (.slice none 0 0)) (.tmp 76) rfl wc.heap.size (.slice none 0 0) H [] rfl (OwnI.nil _ _ _) _ _ _ cs1 (L.take k) rfl (by rw[List.length_take];omega) p8 (mF.below yR) (by simp;omega) yR.size fun v5 w5 hX hg nz=>?_
          rw[List.nil_append]at hX;have qL:=yo (by simpa [Value.ownBlock] using hg);have yR:=yR.trans (qL.mono yR.size)
          try have X7:=X7.below qL
          refine hK.out _ _ (fun _=>?_) (fun zy=>?_)
          ·exact⟨(uj.below yR (Nat.le_refl _)).cell q0,(uj.below yR (Nat.le_refl _)).cell q1,(uj.below yR (Nat.le_refl _)).cell q2,(uj.below yR (Nat.le_refl _)).cell q3,(uj.below yR (Nat.le_refl _)).cell s0,(uj.below yR (Nat.le_refl _)).cell s1,(uj.below yR (Nat.le_refl _)).cell s2,(uj.below yR (Nat.le_refl _)).cell s3⟩
          clear hK K;have zy:=zy (by decide)
          try simp only[Act.put,zz1,zz2,zz3,zz4,zz5,zz6]
          refine To 14 rfl fun K hK=>?_
          rw[if_pos (by rfl)]
          refine ym (.tmp 77) (.tmp 87) rfl wc.heap.size _ H (L.take k) rfl hX _ _ _ (zg y y1 y2 y3 y4++zg z z1 z2 z3 z4) [y,z] rfl rfl ((ItemsC.one uU).app (ItemsC.one ji)) X7 (by rw[List.length_take];simp;omega) yR.size fun v7 w7 nF hg7 hat7=>?_
          have yR:=yR.grown hg7 yR.size (fun q hq=>(hX.lt q hq).1)
          refine hK.out _ _ (fun _=>?_) (fun zy=>?_)
          ·exact⟨(uj.below yR (Nat.le_refl _)).cell q0,(uj.below yR (Nat.le_refl _)).cell q1,(uj.below yR (Nat.le_refl _)).cell q2,(uj.below yR (Nat.le_refl _)).cell q3,(uj.below yR (Nat.le_refl _)).cell s0,(uj.below yR (Nat.le_refl _)).cell s1,(uj.below yR (Nat.le_refl _)).cell s2,(uj.below yR (Nat.le_refl _)).cell s3⟩
          clear hK K;have zy:=zy (by decide)
          try simp only[Act.put,zz1,zz2,zz3,zz4,zz5,zz6]
          refine To 18 rfl fun K hK=>?_
          rw[if_pos (by rfl)]
          refine ym (.tmp 88) (.tmp 91) rfl wc.heap.size _ H (L.take k++[y,z]) rfl nF _ _ _ cs2 (L.drop k) rfl (by rw[List.length_drop];omega) ZZ ?_ (by rw[List.length_append,List.length_take,List.length_drop];simp;omega) yR.size fun v8 w8 tY hg8 hat8=>?_
          ·exact(Src.slicek VY ZZ N8 P7.out).below yR
          have yR:=yR.grown hg8 yR.size (fun q hq=>(nF.lt q hq).1)
          refine hK.out _ _ (fun _=>?_) (fun zy=>?_)
          ·exact⟨(uj.below yR (Nat.le_refl _)).cell q0,(uj.below yR (Nat.le_refl _)).cell q1,(uj.below yR (Nat.le_refl _)).cell q2,(uj.below yR (Nat.le_refl _)).cell q3,(uj.below yR (Nat.le_refl _)).cell s0,(uj.below yR (Nat.le_refl _)).cell s1,(uj.below yR (Nat.le_refl _)).cell s2,(uj.below yR (Nat.le_refl _)).cell s3⟩
          clear hK K;have zy:=zy (by decide)
          try simp only[Act.put,zz1,zz2,zz3,zz4,zz5,zz6]
          refine To 19 rfl fun K hK=>?_
          go_simp
          refine hK.out _ _ (fun h=>absurd rfl h) (fun _=>?_)
          clear hK K
          try simp only[Act.put,zz1,zz2,zz3,zz4,zz5,zz6]
          refine Ways.done (by kernel_rfl) ?_
          clear zy hX nF hg nz hg7 hat7 hg8 hat8 qL X7 mF VY p8 ZZ p0 p1 p2 p3 r0 r1 r2 r3 zG;obtain⟨VA',vc',rfl,_⟩:=tY.form;have zK:(L.take k++[y,z]++L.drop k).length=j+2:=by rw[List.length_append,List.length_append,List.length_take,List.length_drop];simp;omega
          rw[zK]at tY;rw[zK];have o5:=tY.more (base':=w.heap.size+1) (by have:=lM.lt;omega);have nA:=wZ.trans (yR.mono wZ.size);have vN:=lM.below yR;have uM:=Hh zK;clear zK tY;go_wp2_with fail
          go_roundw
          case rel =>
           refine⟨j+2,L.take k++[y,z]++L.drop k,b',VA',vc',by omega,by have:=HJ.out;omega,by go_num,rfl,rfl,uM.out,o5,fun x hx=>?_, ?_,fun h2=>?_,nA,vN⟩
           ·simp only[List.mem_append,List.mem_cons,List.not_mem_nil,or_false]at hx
            rcases hx with (hx | rfl | rfl) | hx
            ·exact HS.out.1 x (List.mem_of_mem_take hx)
            ·exact eB.out.1
            ·exact eB.out.2
            ·exact HS.out.1 x (List.mem_of_mem_drop hx)
           ·rw[fX,Ma.out,HS.out.2.1]
           ·have Sl:=HS.out.2.2 h2;have TX:=QJ.out h2
            refine⟨by rw[R5.out h2];exact Sl.1, ?_⟩
            rw[Mb.out,← Sl.2,TX,List.take_of_length_le (by omega),List.drop_of_length_le (by omega)]
            simp
          case measure=>simp[intOf];omega
    ·have so:j=ps.length:=by omega
     subst so;have VI:(zB L).length=(zB ps).length:=by have:=HS.out.2.1;rw[List.take_length]at this;exact this
     have VX:xX ps=true→b=false∧L=ps:=fun h=>by have:=HS.out.2.2 h;rw[List.take_length]at this;exact this
     have HZ:=Hh (And.intro VI VX);clear VI VX
     cases b with
     | true =>
      go_wp2_with (with_reducible refine zx ?_)
      refine stI vf fun w9 ui hg9=>?_
      have px:=(Grows.of_below hH xS).grownOwn zQ (Nat.le_refl _) hg9;go_wp2_with fail
      refine zv rfl rfl ui rfl rfl zw rfl ?_
      exact⟨_,.inr ⟨7,rfl,by omega,⟨none,0,none,0,H,rfl,px,IsItem.plain H 0 0 (by omega) (by omega)⟩,fun h=>by have:=(HZ.out.2 h.2.1).1;cases this⟩⟩
     | false =>
      obtain⟨H8,Vd,TV,XV,cL,sz,t8,ZG⟩:=ww.snap (hH.below xS (Nat.le_refl _)) (fun g hg=>hH.none_of_ge (by have:=(ww.lt g (vJ hg)).1;omega))
      have TR:Grows w H wr H8:=⟨xS,Vd,TV,fun b o hb=>by
       rcases XV b o hb with h | h
       ·exact .inl h
       ·exact .inr (by have:=(ww.lt b (vJ h)).1;omega)⟩
      have Ve:H8 w.heap.size=none:=by
       cases h8:H8 w.heap.size with
       | none=>rfl
       | some o =>
        rcases XV _ o h8 with h | h
        ·rw[zQ]at h;cases h
        ·have:=(ww.lt w.heap.size (vJ h)).1;omega
      have OI:=cL;obtain⟨x7,lX⟩:∃ x,Itm.mk 5 0 [] L=x:=⟨_,rfl⟩
      have XX:IsItem H8 none 0 VA vc x7:=by
       rw[← lX,IsItem]
       exact⟨⟨by omega,by omega,by omega,sz,t8⟩,IsBytes.nil _,ZG⟩
      have Pl:ItemA H8 5 0 none 0 0 VA ps.length vc x7:=by
       refine⟨by rw[← lX];rfl,by rw[← lX];rfl,by rw[← lX];rfl, ?_,XX⟩
       rw[← lX];exact cL
      have px:=TR.alloc (.cells #[.int .i64 5,.int .u64 0,.slice none 0 0,.slice VA ps.length vc] 26);have ui:=vf.alloc (.cells #[.int .i64 5,.int .u64 0,.slice none 0 0,.slice VA ps.length vc] 26);have tk:=Blk.new wr 26 #[.int .i64 5,.int .u64 0,.slice none 0 0,.slice VA ps.length vc];have V:=Hh (rK (hTab.mono Vd) Pl _ px.holds);have Kr:=Hh Pl;have Wx:=Hh lX;clear lX XX Pl sz t8 ZG cL OI XV ww vf
      cases hv:yW x7 with
      | false =>
       rw[hv]at V;have HV:=Hh hv;clear hv;go_wp2_with fail
       refine V.out.mono ?_
       rintro e w10 ⟨rfl,vx⟩
       have iM:=px.below_ vx;have uS:=ui.below vx;clear px ui tk TR vx;go_wp2_with (with_reducible refine zx ?_)
       refine stI uS fun w11 Z5 hg11=>?_
       have aq:=iM.grownOwn Ve (Nat.le_refl _) hg11;go_wp2_with fail
       refine zv rfl rfl Z5 rfl rfl zw rfl ?_
       exact⟨_,.inr ⟨8,rfl,by omega,⟨none,0,none,0,H8,rfl,aq,IsItem.plain H8 0 0 (by omega) (by omega)⟩,fun h=>by
        have h1:=HV.out;rw[← Wx.out,(HZ.out.2 h.2.1).2,h.2.2.2]at h1
        cases h1⟩⟩
      | true =>
       rw[hv]at V;have HV:=Hh hv;clear hv;go_wp2_with fail
       refine V.out.mono ?_
       rintro e w10 ⟨rfl,vx⟩
       have iM:=px.below_ vx;have uS:=ui.below vx;have WX:=tk.below vx;have c0:=WX.cell 0 rfl;have c1:=WX.cell 1 rfl;have c2:=WX.cell 2 rfl;have c3:=WX.cell 3 rfl;have C:=Hh (fv x7 H8 _ _ _ _ _ _ _ _ w10 (uo HV.out) Kr.out iM.holds);clear px ui tk TR vx;go_wp2_with fail
       refine C.out.mono ?_
       rintro e w11 ⟨v11,rfl,ja,jb,jc,jd,Kl,rfl,aq,OT⟩
       have Z5:=uS.below aq.below;have Wj:=aq.none Ve uS.lt;have my:=iM.trans aq;clear uS iM aq c0 c1 c2 c3;go_wp2_with (with_reducible refine zx ?_)
       refine stI Z5 fun w12 gJ hg12=>?_
       have pE:=my.grownOwn Wj (Nat.le_refl _) hg12;go_wp2_with fail
       refine zv rfl rfl gJ rfl rfl zw rfl ?_
       exact⟨_,.inl ⟨L,rfl,by rw[Wx.out];exact⟨ja,jb,jc,jd,Kl,rfl,pE,OT⟩,by rw[Wx.out];exact HV.out,HZ.out.1,fun h=>(HZ.out.2 h).2⟩⟩
theorem bL:∀ {ps:List Itm},ps.length=2→xX ps=true
 | [_,_],_=>rfl
theorem BuildSaid2.to {w w':World}{H:Snap}{ps:List Itm}{e:Ending}(h:BuildSaid2 w H ps e w'):BuildSaid w H ps e w':=by
 rcases h with ⟨v,⟨l,h1,h2,h3,h4,h5⟩ | ⟨c,h1,h2,h3,h4⟩⟩
 ·exact⟨v,.inl ⟨l,h1,h2,h3,h4,fun hl=>h5 (bL hl)⟩⟩
 ·exact⟨v,.inr ⟨c,h1,h2,h3,fun⟨a,b,d⟩=>h4 ⟨by omega,bL a,b,d⟩⟩⟩
theorem aa {H:Snap}(hTab:Tabs H) {A:Option Addr}{c:Nat}{ps:List Itm}(hr:IsRowI H A c ps) (hl:ps.length≤1099511627776) (w:World) (hH:Holds w H) :
  Calls Tryz.prog 15 #[.slice A ps.length c] w (BuildSaid w H ps):=(oO hTab hr hl w hH).mono fun _ _ h=>BuildSaid2.to h
end Go.Proofs.YtnlinmoiakgedaaGreatDoor
