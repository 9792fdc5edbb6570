/- squeezed. Walks: the references' left: maps. -/
import Derived.Test.YtnlinmoiakgedaaGreatDoorK07
set_option linter.unusedVariables false
set_option linter.unusedSimpArgs false
set_option maxRecDepth 100000
set_option maxHeartbeats 6400000
namespace Go.Proofs.YtnlinmoiakgedaaGreatDoor
open Go.RowKit
theorem Vw (x:Itm) (hk:x.kind=5) {H:Snap}(hT:Tabs H) (ih:∀ y:Itm,cnt y<cnt x→uv y) {ba:Option Addr}{bc:Nat}{ia:Option Addr}{ic:Nat}(hx:IsItem H ba bc ia ic x) (w:World) (hH:Holds w H) (c d:Nat) (sO:0<c) (hc:c≤65536) (hd:d≤65536) :
  Calls Tryz.prog 51 #[xN x ba bc ia ic,.int .i64 c,.int .i64 d] w fun e w'=>e=.returned (.int .i64 (wM (zN x c d)))∧Below w.heap.size w w':=by
 have HX:=Hh hx;have tv:=hx.bounds;have hB:=Blk.new w 26 #[.int .i64 x.kind,.int .u64 x.n,.slice ba x.bytes.length bc,.slice ia x.items.length ic];have xj:=zi w (zW x ba bc ia ic);have p8:((c-1:Nat):Int)=(c:Int)-1:=by omega
 have sN:x.bytes.length≤9223372036854775807:=by omega
 have eV:x.items.length≤9223372036854775807:=by omega
 have HN:=Hh tv.2.2.1;have XU:¬ (c:Int)<1:=by omega
 have k0:¬ x.kind<0:=by omega
 have k8:¬ 8<x.kind:=by omega
 have HK:=Hh hk;have sU:=Hh p8;clear hx tv p8;obtain⟨b0,b1,b2,b3,b4,b5,b6,b7,b8⟩:=Yb hk;clear hk
 by_cases zQ:x.n=0
 ·have bn00:((x.n:Int) != 0)=false:=by simp[zQ]
  have bn01:(x.n=0)=True:=by first | exact eq_true zQ | exact eq_false zQ
  have wY:=Hh zQ;clear zQ
  by_cases vX:x.items.length%2=0
  ·have beven0:((x.items.length:Int)%2 != 0)=false:=by(first | (rw[bne_eq_false_iff_eq];omega) | (rw[bne_iff_ne];omega))
   have ua:=Hh vX;clear vX
   by_cases yI:0<x.items.length
   ·have bpos0:(0:Int)<x.items.length:=by omega
    have wF:=Hh yI;clear yI;go_enter Tryz.func51,Tryz.ntmps51
    go_upto_region 22 with fail
    any_goals
     (have xw:zZ x d (c-1)=false:=by
       cases hq:zZ x d (c-1) with
       | false=>rfl
       | true=>exact absurd ((zH (by have:=HK.out;omega)).1 hq) (by have zQ:=wY.out;have vX:=ua.out;have yI:=wF.out;have hk:=HK.out;omega)
      go_ret
      exact⟨by rw[zI xw];rfl,xj⟩)
    all_goals
     have HG:Hid (zZ x d (c-1)=true):=(zH (by have:=HK.out;omega)).2 ⟨by omega,by omega,fun h=>by have:=HK.out;omega,fun _=>wY.out,fun h=>ua.out,by omega⟩;have c0:=hB.cell 0 rfl;have c3:=hB.cell 3 rfl;go_wp2_with fail
     have ob:=hB;have yR:=xj;go_loopw [1,157] (fun v1 v157 wr=>∃ (j r:Nat),j≤x.items.length∧r≤c∧v157=.int .i64 j∧v1=.int .i64 r∧zL (x.items.drop j) r (d+1)=zL x.items (c-1) (d+1)∧Below w.heap.size w wr∧Blk wr w.heap.size 26 #[.int .i64 x.kind,.int .u64 x.n,.slice ba x.bytes.length bc,.slice ia x.items.length ic]) (fun _ v157 _=>x.items.length-(intOf v157).toNat)
     case atStart=>exact⟨0,c-1,Nat.zero_le _,by omega,rfl,by rw[sU.out],rfl,yR,ob⟩
     case round =>
      obtain⟨j,r,hj,bG,rfl,rfl,qS,xS,tD⟩:=hrel;have tC:=Hh qS;clear qS
      by_cases yi:j<x.items.length
      ·have xT:Holds wr H:=hH.below xS (Nat.le_refl _);obtain⟨ib,io,tj,wI⟩:=HX.out.items (by omega);obtain⟨eba,ebc,eia,eic,q0,q1,q2,q3,uU⟩:=wI.get j yi;subst tj;have p0:=xT.cell q0;have p1:=xT.cell q1;have p2:=xT.cell q2;have p3:=xT.cell q3;have wW:zL (x.items.drop j) r (d+1)=match zN x.items[j] r (d+1) with | none=>none | some r'=>zL (x.items.drop (j+1)) r' (d+1):=by rw[List.drop_eq_getElem_cons yi,zL];cases zN x.items[j] r (d+1) <;> rfl
       have uu:=Hh (wW.symm.trans tC.out);clear wW;have IHC:=ih x.items[j] (xP x j yi) H hT _ _ eba _ ebc eia _ eic (wr.alloc (zW x.items[j] eba ebc eia eic)) r (d+1) uU.arg (xT.alloc _) (by omega) (by omega);rw[show((d+1:Nat):Int)=(d:Int)+1 by omega]at IHC;have IHH:=Hh IHC;have xe:=xS.alloc xS.size (zW x.items[j] eba ebc eia eic);have uh:=tD.alloc (zW x.items[j] eba ebc eia eic);clear IHC q0 q1 q2 q3
       cases hq:zN x.items[j] r (d+1) with
       | none =>
        rw[hq]at IHH uu;have E:Hid (zN x c d=none):=by rw[Hid,y7,if_neg (by omega),if_neg (by simp[HG.out]),← uu.out]
        clear hq uu;go_wp2_with fail
        refine IHH.out.mono ?_
        rintro e w6 ⟨rfl,wQ⟩
        have wj:=xe.trans (wQ.mono xe.size)
        simp only[wM]
        go_wp2_with fail
        go_ret
        exact⟨by rw[E.out];rfl,wj⟩
       | some r' =>
        rw[hq]at IHH uu;have jm:=(vw _ _ _ _ hq).2.2;have qy:Hid (zL (x.items.drop (j+1)) r' (d+1)=zL x.items (c-1) (d+1)):=uu.out;clear hq uu;have cH:(0:Int)≤(r':Int):=by omega
        have qu:r'≤c:=by omega
        go_wp2_with fail
        refine IHH.out.mono ?_
        rintro e w6 ⟨rfl,wQ⟩
        have wj:=xe.trans (wQ.mono xe.size);have rj:=uh.below wQ
        simp only[wM]
        clear xS tD xe uh wQ IHH p0 p1 p2 p3 jm xT;go_wp2_with fail
        go_roundw
        case rel=>exact⟨j+1,r',by omega,qu,by go_num,rfl,qy.out,wj,rj⟩
        case measure=>simp[intOf];omega
      ·have pB:j=x.items.length:=by omega
       subst pB;have vh:zL x.items (c-1) (d+1)=some r:=by rw[← tC.out,List.drop_length,zL]
       have tU:=Hh vh;clear vh tC;obtain⟨zC,gY,q8⟩:=tP _ _ _ _ tU.out;have eA:=Hh zC;have sN:(zB x.items).length≤1099511627776:=by have:=GoodL.bytes zC gY;omega
       have Ws:=Hh sN;have h5:x.kind=5:=by simpa using b5
       have H5:=Hh h5;clear zC gY q8 sN h5;go_wp2_with fail
       go_loopw [11] (fun v11 wz=>∃ i:Nat,2≤i∧i≤x.items.length+2∧v11=.int .i64 i∧xX (x.items.drop (i-2))=xX x.items∧Below w.heap.size w wz∧Blk wz w.heap.size 26 #[.int .i64 x.kind,.int .u64 x.n,.slice ba x.bytes.length bc,.slice ia x.items.length ic]) (fun v11 _=>(x.items.length+2)-(intOf v11).toNat)
       case atStart=>exact⟨2,by omega,by omega,rfl,rfl,xS,tD⟩
       case round =>
        obtain⟨i,o7,UT,rfl,uA,ln,gT⟩:=hrel;have HA:=Hh uA;have c0:=gT.cell 0 rfl;have c3:=gT.cell 3 rfl;clear uA xS tD
        by_cases hlt2:i<x.items.length
        ·have Up:Holds wr H:=hH.below ln (Nat.le_refl _);obtain⟨ib,io,tj,wI⟩:=HX.out.items (by omega);obtain⟨y1,y2,y3,y4,p0,p1,p2,p3,hy⟩:=wI.get (i-2) (by omega);obtain⟨z1,z2,z3,z4,q0,q1,q2,q3,hz⟩:=wI.get i hlt2;subst tj;have hd:=sP x.items i o7 hlt2;rw[HA.out]at hd;have bC:=eA.out.get x.items[i-2] (List.getElem_mem (by omega));have zU:=eA.out.get x.items[i] (List.getElem_mem hlt2);have lq:=uI (List.getElem_mem (show i-2<x.items.length by omega));have cF:=uI (List.getElem_mem hlt2);have US:(2:Int)≤i:=by omega
         have Ud:((i:Int)-2).toNat=i-2:=by omega
         have PY:IntKind.i64.wrap ((i:Int)-2)=(i:Int)-2:=IntWalk.i64_in _ (by omega);have PK:(0:Int)≤(i:Int)-2:=by omega
         have PN:(i:Int)-2<x.items.length:=by omega
         have PO:(i:Int)<x.items.length:=by omega
         generalize x.items[i-2]'(by omega)=y at *
         generalize x.items[i]'hlt2=z at *
         have sN:=Ws.out;have RY:=Hh (fun w1:World=>fun h1:Holds w1 H=>vB y H _ _ y1 _ y2 y3 _ y4 w1 (d+1) bC (by omega) hy.arg h1);have RZ:=Hh (fun w1:World=>fun h1:Holds w1 H=>vB z H _ _ z1 _ z2 z3 _ z4 w1 (d+1) zU (by omega) hz.arg h1);have Vg:(zd y).length≤1099511627776:=by omega
         have VD:(zd z).length≤1099511627776:=by omega
         have HD:=Hh hd;clear bC zU lq cF sN hd wI;go_upto_region 32 with fail
         have tL:=gT.drew;have wZ:=ln.drew;have zG:=Up.drew
         refine zf 14 (fun w'=>w'.cell? ⟨w.heap.size,3,none⟩=some (.slice (some ⟨ib,io,none⟩) x.items.length ic)∧w'.cell? ⟨ib,io+(i-2)*4,none⟩=some (.int .i64 y.kind)∧w'.cell? ⟨ib,io+(i-2)*4+1,none⟩=some (.int .u64 y.n)∧w'.cell? ⟨ib,io+(i-2)*4+2,none⟩=some (.slice y1 y.bytes.length y2)∧w'.cell? ⟨ib,io+(i-2)*4+3,none⟩=some (.slice y3 y.items.length y4)∧w'.cell? ⟨ib,io+i*4,none⟩=some (.int .i64 z.kind)∧w'.cell? ⟨ib,io+i*4+1,none⟩=some (.int .u64 z.n)∧w'.cell? ⟨ib,io+i*4+2,none⟩=some (.slice z1 z.bytes.length z2)∧w'.cell? ⟨ib,io+i*4+3,none⟩=some (.slice z3 z.items.length z4)) (by kernel_rfl) (⟨tL.cell 3 rfl,zG.cell p0,zG.cell p1,zG.cell p2,zG.cell p3,zG.cell q0,zG.cell q1,zG.cell q2,zG.cell q3⟩) (fun zy=>?_)
         refine Tk 0 rfl zy ?_
         refine Tk 1 rfl zy ?_
         refine Tk 2 rfl zy ?_
         refine Tk 3 rfl zy ?_
         refine Tk 4 rfl zy ?_
         refine Tk 5 rfl zy ?_
         refine Tk 7 rfl zy ?_
         refine Tk 8 rfl zy ?_
         refine Tk 9 rfl zy ?_
         refine Tk 10 rfl zy ?_
         refine Tk 11 rfl zy ?_
         refine To 6 rfl fun K hK=>?_
         go_simp
         refine(RY.out _ zG).mono ?_
         rintro e wA ⟨rA,rfl,nB⟩
         obtain⟨AA,ca,rfl,_⟩:=nB.own.form;have lS:=nB.own.src
         try have lT:=lT.below nB.2
         have zG:=zG.below nB.2 (Nat.le_refl _);have tL:=tL.below nB.2;have wZ:=wZ.trans (nB.2.mono wZ.size)
         refine hK.out _ _ (fun _=>?_) (fun zy=>?_)
         ·exact⟨tL.cell 3 rfl,zG.cell p0,zG.cell p1,zG.cell p2,zG.cell p3,zG.cell q0,zG.cell q1,zG.cell q2,zG.cell q3⟩
         clear hK K;have zy:=zy (by decide)
         try simp only[Act.put,zz4,zz5,zz6]
         refine To 12 rfl fun K hK=>?_
         go_simp
         refine(RZ.out _ zG).mono ?_
         rintro e wB ⟨rB,rfl,nC⟩
         obtain⟨BB,cb,rfl,_⟩:=nC.own.form;have lT:=nC.own.src
         try have lS:=lS.below nC.2
         have zG:=zG.below nC.2 (Nat.le_refl _);have tL:=tL.below nC.2;have wZ:=wZ.trans (nC.2.mono wZ.size)
         refine hK.out _ _ (fun _=>?_) (fun zy=>?_)
         ·exact⟨tL.cell 3 rfl,zG.cell p0,zG.cell p1,zG.cell p2,zG.cell p3,zG.cell q0,zG.cell q1,zG.cell q2,zG.cell q3⟩
         clear hK K;have zy:=zy (by decide)
         try simp only[Act.put,zz4,zz5,zz6]
         refine To 13 rfl fun K hK=>?_
         go_simp
         refine(vF _ AA BB (zd y) (zd z) _ _ ca cb rfl rfl Vg VD lS lT).mono ?_
         rintro e wC ⟨rfl,eI⟩
         have zG:=zG.below eI (Nat.le_refl _);have tL:=tL.below eI;have wZ:=wZ.trans (eI.mono wZ.size)
         refine hK.out _ _ (fun _=>?_) (fun zy=>?_)
         ·exact⟨tL.cell 3 rfl,zG.cell p0,zG.cell p1,zG.cell p2,zG.cell p3,zG.cell q0,zG.cell q1,zG.cell q2,zG.cell q3⟩
         clear hK K;have zy:=zy (by decide)
         try simp only[Act.put,zz4,zz5,zz6]
         refine To 14 rfl fun K hK=>?_
         go_simp
         refine hK.out _ _ (fun h=>absurd rfl h) (fun _=>?_)
         clear hK K
         try simp only[Act.put,zz4,zz5,zz6]
         refine Ways.done (by kernel_rfl) ?_
         clear zy
         by_cases ul:Lib.compareBytes (zd y) (zd z)<0
         ·have nD:¬ (0:Int)≤Lib.compareBytes (zd y) (zd z):=by omega
          have HN:Hid (xX (x.items.drop (i+2-2))=xX x.items):=by rw[Hid,Nat.add_sub_cancel,HD.out,decide_eq_true ul,Bool.true_and]
          generalize Lib.compareBytes (zd y) (zd z)=cmp at *
          have HC:=Hh ul;clear ul lS lT zG;go_wp2_with fail
          go_roundw
          case rel=>exact⟨i+2,by omega,by omega,by go_num,HN.out,wZ,tL⟩
          case measure=>simp[intOf];omega
         ·have nD:(0:Int)≤Lib.compareBytes (zd y) (zd z):=by omega
          have HN:xX x.items=false:=by rw[HD.out,decide_eq_false ul,Bool.false_and]
          have E:Hid (zN x c d=none):=by
           rw[Hid,y7,if_neg (by omega),if_neg (by simp[HG.out]),tU.out]
           simp only
           rw[if_pos ⟨H5.out,HN⟩]
          generalize Lib.compareBytes (zd y) (zd z)=cmp at *
          clear ul lS lT zG HN;go_wp2_with fail
          go_ret
          exact⟨by rw[E.out];rfl,wZ⟩
        ·have wy:¬ (i:Int)<x.items.length:=by omega
         have HN:xX x.items=true:=by rw[← HA.out];exact ph _ _ o7 (by omega)
         have E:Hid (zN x c d=some r):=by
          rw[Hid,y7,if_neg (by omega),if_neg (by simp[HG.out]),tU.out]
          simp only
          rw[if_neg (by rintro⟨_,h⟩;rw[HN]at h;cases h)]
         clear HN hlt2;go_wp2_with fail
         go_ret
         exact⟨by rw[E.out];rfl,ln⟩
   ·have bpos0:¬ (0:Int)<x.items.length:=by omega
    have wF:=Hh yI;clear yI;go_enter Tryz.func51,Tryz.ntmps51
    go_upto_region 22 with fail
    any_goals
     (have xw:zZ x d (c-1)=false:=by
       cases hq:zZ x d (c-1) with
       | false=>rfl
       | true=>exact absurd ((zH (by have:=HK.out;omega)).1 hq) (by have zQ:=wY.out;have vX:=ua.out;have yI:=wF.out;have hk:=HK.out;omega)
      go_ret
      exact⟨by rw[zI xw];rfl,xj⟩)
    all_goals
     have zS:zZ x d (c-1)=true:=(zH (by have:=HK.out;omega)).2 ⟨by omega,by omega,fun h=>by have:=HK.out;omega,fun _=>wY.out,fun h=>ua.out,by omega⟩;have xt:x.items.length=0:=by have zQ:=wY.out;have vX:=ua.out;have yI:=wF.out;have hk:=HK.out;omega
     have hk:=HK.out;have E:Hid (zN x c d=some (c-1)):=yj sO zS xt;have oc:¬ (0:Int)<x.items.length:=by omega
     have rX:¬ (2:Int)<x.items.length:=by omega
     have HI:=Hh xt;have HC:=Hh zS;clear xt hk zS;have c0:=hB.cell 0 rfl;have c3:=hB.cell 3 rfl;go_wp2_with fail
     refine wp_loop_rounds 1 ?_
     rw[rounds_succ];go_wp2_with fail
     refine wp_loop_rounds 1 ?_
     rw[rounds_succ];go_wp2_with fail
     go_ret
     exact⟨by rw[E.out,← sU.out];rfl,xj⟩
  ·have beven0:((x.items.length:Int)%2 != 0)=true:=by(first | (rw[bne_eq_false_iff_eq];omega) | (rw[bne_iff_ne];omega))
   have ua:=Hh vX;clear vX
   by_cases yI:0<x.items.length
   ·have bpos0:(0:Int)<x.items.length:=by omega
    have wF:=Hh yI;clear yI;go_enter Tryz.func51,Tryz.ntmps51
    go_upto_region 22 with fail
    any_goals
     (have xw:zZ x d (c-1)=false:=by
       cases hq:zZ x d (c-1) with
       | false=>rfl
       | true=>exact absurd ((zH (by have:=HK.out;omega)).1 hq) (by have zQ:=wY.out;have vX:=ua.out;have yI:=wF.out;have hk:=HK.out;omega)
      go_ret
      exact⟨by rw[zI xw];rfl,xj⟩)
    all_goals
     have HG:Hid (zZ x d (c-1)=true):=(zH (by have:=HK.out;omega)).2 ⟨by omega,by omega,fun h=>by have:=HK.out;omega,fun _=>wY.out,fun h=>ua.out,by omega⟩;have c0:=hB.cell 0 rfl;have c3:=hB.cell 3 rfl;go_wp2_with fail
     have ob:=hB;have yR:=xj;go_loopw [1,157] (fun v1 v157 wr=>∃ (j r:Nat),j≤x.items.length∧r≤c∧v157=.int .i64 j∧v1=.int .i64 r∧zL (x.items.drop j) r (d+1)=zL x.items (c-1) (d+1)∧Below w.heap.size w wr∧Blk wr w.heap.size 26 #[.int .i64 x.kind,.int .u64 x.n,.slice ba x.bytes.length bc,.slice ia x.items.length ic]) (fun _ v157 _=>x.items.length-(intOf v157).toNat)
     case atStart=>exact⟨0,c-1,Nat.zero_le _,by omega,rfl,by rw[sU.out],rfl,yR,ob⟩
     case round =>
      obtain⟨j,r,hj,bG,rfl,rfl,qS,xS,tD⟩:=hrel;have tC:=Hh qS;clear qS
      by_cases yi:j<x.items.length
      ·have xT:Holds wr H:=hH.below xS (Nat.le_refl _);obtain⟨ib,io,tj,wI⟩:=HX.out.items (by omega);obtain⟨eba,ebc,eia,eic,q0,q1,q2,q3,uU⟩:=wI.get j yi;subst tj;have p0:=xT.cell q0;have p1:=xT.cell q1;have p2:=xT.cell q2;have p3:=xT.cell q3;have wW:zL (x.items.drop j) r (d+1)=match zN x.items[j] r (d+1) with | none=>none | some r'=>zL (x.items.drop (j+1)) r' (d+1):=by rw[List.drop_eq_getElem_cons yi,zL];cases zN x.items[j] r (d+1) <;> rfl
       have uu:=Hh (wW.symm.trans tC.out);clear wW;have IHC:=ih x.items[j] (xP x j yi) H hT _ _ eba _ ebc eia _ eic (wr.alloc (zW x.items[j] eba ebc eia eic)) r (d+1) uU.arg (xT.alloc _) (by omega) (by omega);rw[show((d+1:Nat):Int)=(d:Int)+1 by omega]at IHC;have IHH:=Hh IHC;have xe:=xS.alloc xS.size (zW x.items[j] eba ebc eia eic);have uh:=tD.alloc (zW x.items[j] eba ebc eia eic);clear IHC q0 q1 q2 q3
       cases hq:zN x.items[j] r (d+1) with
       | none =>
        rw[hq]at IHH uu;have E:Hid (zN x c d=none):=by rw[Hid,y7,if_neg (by omega),if_neg (by simp[HG.out]),← uu.out]
        clear hq uu;go_wp2_with fail
        refine IHH.out.mono ?_
        rintro e w6 ⟨rfl,wQ⟩
        have wj:=xe.trans (wQ.mono xe.size)
        simp only[wM]
        go_wp2_with fail
        go_ret
        exact⟨by rw[E.out];rfl,wj⟩
       | some r' =>
        rw[hq]at IHH uu;have jm:=(vw _ _ _ _ hq).2.2;have qy:Hid (zL (x.items.drop (j+1)) r' (d+1)=zL x.items (c-1) (d+1)):=uu.out;clear hq uu;have cH:(0:Int)≤(r':Int):=by omega
        have qu:r'≤c:=by omega
        go_wp2_with fail
        refine IHH.out.mono ?_
        rintro e w6 ⟨rfl,wQ⟩
        have wj:=xe.trans (wQ.mono xe.size);have rj:=uh.below wQ
        simp only[wM]
        clear xS tD xe uh wQ IHH p0 p1 p2 p3 jm xT;go_wp2_with fail
        go_roundw
        case rel=>exact⟨j+1,r',by omega,qu,by go_num,rfl,qy.out,wj,rj⟩
        case measure=>simp[intOf];omega
      ·have pB:j=x.items.length:=by omega
       subst pB;have vh:zL x.items (c-1) (d+1)=some r:=by rw[← tC.out,List.drop_length,zL]
       have tU:=Hh vh;clear vh tC;obtain⟨zC,gY,q8⟩:=tP _ _ _ _ tU.out;have eA:=Hh zC;have sN:(zB x.items).length≤1099511627776:=by have:=GoodL.bytes zC gY;omega
       have Ws:=Hh sN;have h5:x.kind=5:=by simpa using b5
       have H5:=Hh h5;clear zC gY q8 sN h5;go_wp2_with fail
       go_loopw [11] (fun v11 wz=>∃ i:Nat,2≤i∧i≤x.items.length+2∧v11=.int .i64 i∧xX (x.items.drop (i-2))=xX x.items∧Below w.heap.size w wz∧Blk wz w.heap.size 26 #[.int .i64 x.kind,.int .u64 x.n,.slice ba x.bytes.length bc,.slice ia x.items.length ic]) (fun v11 _=>(x.items.length+2)-(intOf v11).toNat)
       case atStart=>exact⟨2,by omega,by omega,rfl,rfl,xS,tD⟩
       case round =>
        obtain⟨i,o7,UT,rfl,uA,ln,gT⟩:=hrel;have HA:=Hh uA;have c0:=gT.cell 0 rfl;have c3:=gT.cell 3 rfl;clear uA xS tD
        by_cases hlt2:i<x.items.length
        ·have Up:Holds wr H:=hH.below ln (Nat.le_refl _);obtain⟨ib,io,tj,wI⟩:=HX.out.items (by omega);obtain⟨y1,y2,y3,y4,p0,p1,p2,p3,hy⟩:=wI.get (i-2) (by omega);obtain⟨z1,z2,z3,z4,q0,q1,q2,q3,hz⟩:=wI.get i hlt2;subst tj;have hd:=sP x.items i o7 hlt2;rw[HA.out]at hd;have bC:=eA.out.get x.items[i-2] (List.getElem_mem (by omega));have zU:=eA.out.get x.items[i] (List.getElem_mem hlt2);have lq:=uI (List.getElem_mem (show i-2<x.items.length by omega));have cF:=uI (List.getElem_mem hlt2);have US:(2:Int)≤i:=by omega
         have Ud:((i:Int)-2).toNat=i-2:=by omega
         have PY:IntKind.i64.wrap ((i:Int)-2)=(i:Int)-2:=IntWalk.i64_in _ (by omega);have PK:(0:Int)≤(i:Int)-2:=by omega
         have PN:(i:Int)-2<x.items.length:=by omega
         have PO:(i:Int)<x.items.length:=by omega
         generalize x.items[i-2]'(by omega)=y at *
         generalize x.items[i]'hlt2=z at *
         have sN:=Ws.out;have RY:=Hh (fun w1:World=>fun h1:Holds w1 H=>vB y H _ _ y1 _ y2 y3 _ y4 w1 (d+1) bC (by omega) hy.arg h1);have RZ:=Hh (fun w1:World=>fun h1:Holds w1 H=>vB z H _ _ z1 _ z2 z3 _ z4 w1 (d+1) zU (by omega) hz.arg h1);have Vg:(zd y).length≤1099511627776:=by omega
         have VD:(zd z).length≤1099511627776:=by omega
         have HD:=Hh hd;clear bC zU lq cF sN hd wI;go_upto_region 32 with fail
         have tL:=gT.drew;have wZ:=ln.drew;have zG:=Up.drew
         refine zf 14 (fun w'=>w'.cell? ⟨w.heap.size,3,none⟩=some (.slice (some ⟨ib,io,none⟩) x.items.length ic)∧w'.cell? ⟨ib,io+(i-2)*4,none⟩=some (.int .i64 y.kind)∧w'.cell? ⟨ib,io+(i-2)*4+1,none⟩=some (.int .u64 y.n)∧w'.cell? ⟨ib,io+(i-2)*4+2,none⟩=some (.slice y1 y.bytes.length y2)∧w'.cell? ⟨ib,io+(i-2)*4+3,none⟩=some (.slice y3 y.items.length y4)∧w'.cell? ⟨ib,io+i*4,none⟩=some (.int .i64 z.kind)∧w'.cell? ⟨ib,io+i*4+1,none⟩=some (.int .u64 z.n)∧w'.cell? ⟨ib,io+i*4+2,none⟩=some (.slice z1 z.bytes.length z2)∧w'.cell? ⟨ib,io+i*4+3,none⟩=some (.slice z3 z.items.length z4)) (by kernel_rfl) (⟨tL.cell 3 rfl,zG.cell p0,zG.cell p1,zG.cell p2,zG.cell p3,zG.cell q0,zG.cell q1,zG.cell q2,zG.cell q3⟩) (fun zy=>?_)
         refine Tk 0 rfl zy ?_
         refine Tk 1 rfl zy ?_
         refine Tk 2 rfl zy ?_
         refine Tk 3 rfl zy ?_
         refine Tk 4 rfl zy ?_
         refine Tk 5 rfl zy ?_
         refine Tk 7 rfl zy ?_
         refine Tk 8 rfl zy ?_
         refine Tk 9 rfl zy ?_
         refine Tk 10 rfl zy ?_
         refine Tk 11 rfl zy ?_
         refine To 6 rfl fun K hK=>?_
         go_simp
         refine(RY.out _ zG).mono ?_
         rintro e wA ⟨rA,rfl,nB⟩
         obtain⟨AA,ca,rfl,_⟩:=nB.own.form;have lS:=nB.own.src
         try have lT:=lT.below nB.2
         have zG:=zG.below nB.2 (Nat.le_refl _);have tL:=tL.below nB.2;have wZ:=wZ.trans (nB.2.mono wZ.size)
         refine hK.out _ _ (fun _=>?_) (fun zy=>?_)
         ·exact⟨tL.cell 3 rfl,zG.cell p0,zG.cell p1,zG.cell p2,zG.cell p3,zG.cell q0,zG.cell q1,zG.cell q2,zG.cell q3⟩
         clear hK K;have zy:=zy (by decide)
         try simp only[Act.put,zz4,zz5,zz6]
         refine To 12 rfl fun K hK=>?_
         go_simp
         refine(RZ.out _ zG).mono ?_
         rintro e wB ⟨rB,rfl,nC⟩
         obtain⟨BB,cb,rfl,_⟩:=nC.own.form;have lT:=nC.own.src
         try have lS:=lS.below nC.2
         have zG:=zG.below nC.2 (Nat.le_refl _);have tL:=tL.below nC.2;have wZ:=wZ.trans (nC.2.mono wZ.size)
         refine hK.out _ _ (fun _=>?_) (fun zy=>?_)
         ·exact⟨tL.cell 3 rfl,zG.cell p0,zG.cell p1,zG.cell p2,zG.cell p3,zG.cell q0,zG.cell q1,zG.cell q2,zG.cell q3⟩
         clear hK K;have zy:=zy (by decide)
         try simp only[Act.put,zz4,zz5,zz6]
         refine To 13 rfl fun K hK=>?_
         go_simp
         refine(vF _ AA BB (zd y) (zd z) _ _ ca cb rfl rfl Vg VD lS lT).mono ?_
         rintro e wC ⟨rfl,eI⟩
         have zG:=zG.below eI (Nat.le_refl _);have tL:=tL.below eI;have wZ:=wZ.trans (eI.mono wZ.size)
         refine hK.out _ _ (fun _=>?_) (fun zy=>?_)
         ·exact⟨tL.cell 3 rfl,zG.cell p0,zG.cell p1,zG.cell p2,zG.cell p3,zG.cell q0,zG.cell q1,zG.cell q2,zG.cell q3⟩
         clear hK K;have zy:=zy (by decide)
         try simp only[Act.put,zz4,zz5,zz6]
         refine To 14 rfl fun K hK=>?_
         go_simp
         refine hK.out _ _ (fun h=>absurd rfl h) (fun _=>?_)
         clear hK K
         try simp only[Act.put,zz4,zz5,zz6]
         refine Ways.done (by kernel_rfl) ?_
         clear zy
         by_cases ul:Lib.compareBytes (zd y) (zd z)<0
         ·have nD:¬ (0:Int)≤Lib.compareBytes (zd y) (zd z):=by omega
          have HN:Hid (xX (x.items.drop (i+2-2))=xX x.items):=by rw[Hid,Nat.add_sub_cancel,HD.out,decide_eq_true ul,Bool.true_and]
          generalize Lib.compareBytes (zd y) (zd z)=cmp at *
          have HC:=Hh ul;clear ul lS lT zG;go_wp2_with fail
          go_roundw
          case rel=>exact⟨i+2,by omega,by omega,by go_num,HN.out,wZ,tL⟩
          case measure=>simp[intOf];omega
         ·have nD:(0:Int)≤Lib.compareBytes (zd y) (zd z):=by omega
          have HN:xX x.items=false:=by rw[HD.out,decide_eq_false ul,Bool.false_and]
          have E:Hid (zN x c d=none):=by
           rw[Hid,y7,if_neg (by omega),if_neg (by simp[HG.out]),tU.out]
           simp only
           rw[if_pos ⟨H5.out,HN⟩]
          generalize Lib.compareBytes (zd y) (zd z)=cmp at *
          clear ul lS lT zG HN;go_wp2_with fail
          go_ret
          exact⟨by rw[E.out];rfl,wZ⟩
        ·have wy:¬ (i:Int)<x.items.length:=by omega
         have HN:xX x.items=true:=by rw[← HA.out];exact ph _ _ o7 (by omega)
         have E:Hid (zN x c d=some r):=by
          rw[Hid,y7,if_neg (by omega),if_neg (by simp[HG.out]),tU.out]
          simp only
          rw[if_neg (by rintro⟨_,h⟩;rw[HN]at h;cases h)]
         clear HN hlt2;go_wp2_with fail
         go_ret
         exact⟨by rw[E.out];rfl,ln⟩
   ·have bpos0:¬ (0:Int)<x.items.length:=by omega
    have wF:=Hh yI;clear yI;go_enter Tryz.func51,Tryz.ntmps51
    go_upto_region 22 with fail
    any_goals
     (have xw:zZ x d (c-1)=false:=by
       cases hq:zZ x d (c-1) with
       | false=>rfl
       | true=>exact absurd ((zH (by have:=HK.out;omega)).1 hq) (by have zQ:=wY.out;have vX:=ua.out;have yI:=wF.out;have hk:=HK.out;omega)
      go_ret
      exact⟨by rw[zI xw];rfl,xj⟩)
    all_goals
     have zS:zZ x d (c-1)=true:=(zH (by have:=HK.out;omega)).2 ⟨by omega,by omega,fun h=>by have:=HK.out;omega,fun _=>wY.out,fun h=>ua.out,by omega⟩;have xt:x.items.length=0:=by have zQ:=wY.out;have vX:=ua.out;have yI:=wF.out;have hk:=HK.out;omega
     have hk:=HK.out;have E:Hid (zN x c d=some (c-1)):=yj sO zS xt;have oc:¬ (0:Int)<x.items.length:=by omega
     have rX:¬ (2:Int)<x.items.length:=by omega
     have HI:=Hh xt;have HC:=Hh zS;clear xt hk zS;have c0:=hB.cell 0 rfl;have c3:=hB.cell 3 rfl;go_wp2_with fail
     refine wp_loop_rounds 1 ?_
     rw[rounds_succ];go_wp2_with fail
     refine wp_loop_rounds 1 ?_
     rw[rounds_succ];go_wp2_with fail
     go_ret
     exact⟨by rw[E.out,← sU.out];rfl,xj⟩
 ·have bn00:((x.n:Int) != 0)=true:=by simp[zQ]
  have bn01:(x.n=0)=False:=by first | exact eq_true zQ | exact eq_false zQ
  have wY:=Hh zQ;clear zQ
  by_cases vX:x.items.length%2=0
  ·have beven0:((x.items.length:Int)%2 != 0)=false:=by(first | (rw[bne_eq_false_iff_eq];omega) | (rw[bne_iff_ne];omega))
   have ua:=Hh vX;clear vX
   by_cases yI:0<x.items.length
   ·have bpos0:(0:Int)<x.items.length:=by omega
    have wF:=Hh yI;clear yI;go_enter Tryz.func51,Tryz.ntmps51
    go_upto_region 22 with fail
    any_goals
     (have xw:zZ x d (c-1)=false:=by
       cases hq:zZ x d (c-1) with
       | false=>rfl
       | true=>exact absurd ((zH (by have:=HK.out;omega)).1 hq) (by have zQ:=wY.out;have vX:=ua.out;have yI:=wF.out;have hk:=HK.out;omega)
      go_ret
      exact⟨by rw[zI xw];rfl,xj⟩)
    all_goals
     have HG:Hid (zZ x d (c-1)=true):=(zH (by have:=HK.out;omega)).2 ⟨by omega,by omega,fun h=>by have:=HK.out;omega,fun _=>wY.out,fun h=>ua.out,by omega⟩;have c0:=hB.cell 0 rfl;have c3:=hB.cell 3 rfl;go_wp2_with fail
     have ob:=hB;have yR:=xj;go_loopw [1,157] (fun v1 v157 wr=>∃ (j r:Nat),j≤x.items.length∧r≤c∧v157=.int .i64 j∧v1=.int .i64 r∧zL (x.items.drop j) r (d+1)=zL x.items (c-1) (d+1)∧Below w.heap.size w wr∧Blk wr w.heap.size 26 #[.int .i64 x.kind,.int .u64 x.n,.slice ba x.bytes.length bc,.slice ia x.items.length ic]) (fun _ v157 _=>x.items.length-(intOf v157).toNat)
     case atStart=>exact⟨0,c-1,Nat.zero_le _,by omega,rfl,by rw[sU.out],rfl,yR,ob⟩
     case round =>
      obtain⟨j,r,hj,bG,rfl,rfl,qS,xS,tD⟩:=hrel;have tC:=Hh qS;clear qS
      by_cases yi:j<x.items.length
      ·have xT:Holds wr H:=hH.below xS (Nat.le_refl _);obtain⟨ib,io,tj,wI⟩:=HX.out.items (by omega);obtain⟨eba,ebc,eia,eic,q0,q1,q2,q3,uU⟩:=wI.get j yi;subst tj;have p0:=xT.cell q0;have p1:=xT.cell q1;have p2:=xT.cell q2;have p3:=xT.cell q3;have wW:zL (x.items.drop j) r (d+1)=match zN x.items[j] r (d+1) with | none=>none | some r'=>zL (x.items.drop (j+1)) r' (d+1):=by rw[List.drop_eq_getElem_cons yi,zL];cases zN x.items[j] r (d+1) <;> rfl
       have uu:=Hh (wW.symm.trans tC.out);clear wW;have IHC:=ih x.items[j] (xP x j yi) H hT _ _ eba _ ebc eia _ eic (wr.alloc (zW x.items[j] eba ebc eia eic)) r (d+1) uU.arg (xT.alloc _) (by omega) (by omega);rw[show((d+1:Nat):Int)=(d:Int)+1 by omega]at IHC;have IHH:=Hh IHC;have xe:=xS.alloc xS.size (zW x.items[j] eba ebc eia eic);have uh:=tD.alloc (zW x.items[j] eba ebc eia eic);clear IHC q0 q1 q2 q3
       cases hq:zN x.items[j] r (d+1) with
       | none =>
        rw[hq]at IHH uu;have E:Hid (zN x c d=none):=by rw[Hid,y7,if_neg (by omega),if_neg (by simp[HG.out]),← uu.out]
        clear hq uu;go_wp2_with fail
        refine IHH.out.mono ?_
        rintro e w6 ⟨rfl,wQ⟩
        have wj:=xe.trans (wQ.mono xe.size)
        simp only[wM]
        go_wp2_with fail
        go_ret
        exact⟨by rw[E.out];rfl,wj⟩
       | some r' =>
        rw[hq]at IHH uu;have jm:=(vw _ _ _ _ hq).2.2;have qy:Hid (zL (x.items.drop (j+1)) r' (d+1)=zL x.items (c-1) (d+1)):=uu.out;clear hq uu;have cH:(0:Int)≤(r':Int):=by omega
        have qu:r'≤c:=by omega
        go_wp2_with fail
        refine IHH.out.mono ?_
        rintro e w6 ⟨rfl,wQ⟩
        have wj:=xe.trans (wQ.mono xe.size);have rj:=uh.below wQ
        simp only[wM]
        clear xS tD xe uh wQ IHH p0 p1 p2 p3 jm xT;go_wp2_with fail
        go_roundw
        case rel=>exact⟨j+1,r',by omega,qu,by go_num,rfl,qy.out,wj,rj⟩
        case measure=>simp[intOf];omega
      ·have pB:j=x.items.length:=by omega
       subst pB;have vh:zL x.items (c-1) (d+1)=some r:=by rw[← tC.out,List.drop_length,zL]
       have tU:=Hh vh;clear vh tC;obtain⟨zC,gY,q8⟩:=tP _ _ _ _ tU.out;have eA:=Hh zC;have sN:(zB x.items).length≤1099511627776:=by have:=GoodL.bytes zC gY;omega
       have Ws:=Hh sN;have h5:x.kind=5:=by simpa using b5
       have H5:=Hh h5;clear zC gY q8 sN h5;go_wp2_with fail
       go_loopw [11] (fun v11 wz=>∃ i:Nat,2≤i∧i≤x.items.length+2∧v11=.int .i64 i∧xX (x.items.drop (i-2))=xX x.items∧Below w.heap.size w wz∧Blk wz w.heap.size 26 #[.int .i64 x.kind,.int .u64 x.n,.slice ba x.bytes.length bc,.slice ia x.items.length ic]) (fun v11 _=>(x.items.length+2)-(intOf v11).toNat)
       case atStart=>exact⟨2,by omega,by omega,rfl,rfl,xS,tD⟩
       case round =>
        obtain⟨i,o7,UT,rfl,uA,ln,gT⟩:=hrel;have HA:=Hh uA;have c0:=gT.cell 0 rfl;have c3:=gT.cell 3 rfl;clear uA xS tD
        by_cases hlt2:i<x.items.length
        ·have Up:Holds wr H:=hH.below ln (Nat.le_refl _);obtain⟨ib,io,tj,wI⟩:=HX.out.items (by omega);obtain⟨y1,y2,y3,y4,p0,p1,p2,p3,hy⟩:=wI.get (i-2) (by omega);obtain⟨z1,z2,z3,z4,q0,q1,q2,q3,hz⟩:=wI.get i hlt2;subst tj;have hd:=sP x.items i o7 hlt2;rw[HA.out]at hd;have bC:=eA.out.get x.items[i-2] (List.getElem_mem (by omega));have zU:=eA.out.get x.items[i] (List.getElem_mem hlt2);have lq:=uI (List.getElem_mem (show i-2<x.items.length by omega));have cF:=uI (List.getElem_mem hlt2);have US:(2:Int)≤i:=by omega
         have Ud:((i:Int)-2).toNat=i-2:=by omega
         have PY:IntKind.i64.wrap ((i:Int)-2)=(i:Int)-2:=IntWalk.i64_in _ (by omega);have PK:(0:Int)≤(i:Int)-2:=by omega
         have PN:(i:Int)-2<x.items.length:=by omega
         have PO:(i:Int)<x.items.length:=by omega
         generalize x.items[i-2]'(by omega)=y at *
         generalize x.items[i]'hlt2=z at *
         have sN:=Ws.out;have RY:=Hh (fun w1:World=>fun h1:Holds w1 H=>vB y H _ _ y1 _ y2 y3 _ y4 w1 (d+1) bC (by omega) hy.arg h1);have RZ:=Hh (fun w1:World=>fun h1:Holds w1 H=>vB z H _ _ z1 _ z2 z3 _ z4 w1 (d+1) zU (by omega) hz.arg h1);have Vg:(zd y).length≤1099511627776:=by omega
         have VD:(zd z).length≤1099511627776:=by omega
         have HD:=Hh hd;clear bC zU lq cF sN hd wI;go_upto_region 32 with fail
         have tL:=gT.drew;have wZ:=ln.drew;have zG:=Up.drew
         refine zf 14 (fun w'=>w'.cell? ⟨w.heap.size,3,none⟩=some (.slice (some ⟨ib,io,none⟩) x.items.length ic)∧w'.cell? ⟨ib,io+(i-2)*4,none⟩=some (.int .i64 y.kind)∧w'.cell? ⟨ib,io+(i-2)*4+1,none⟩=some (.int .u64 y.n)∧w'.cell? ⟨ib,io+(i-2)*4+2,none⟩=some (.slice y1 y.bytes.length y2)∧w'.cell? ⟨ib,io+(i-2)*4+3,none⟩=some (.slice y3 y.items.length y4)∧w'.cell? ⟨ib,io+i*4,none⟩=some (.int .i64 z.kind)∧w'.cell? ⟨ib,io+i*4+1,none⟩=some (.int .u64 z.n)∧w'.cell? ⟨ib,io+i*4+2,none⟩=some (.slice z1 z.bytes.length z2)∧w'.cell? ⟨ib,io+i*4+3,none⟩=some (.slice z3 z.items.length z4)) (by kernel_rfl) (⟨tL.cell 3 rfl,zG.cell p0,zG.cell p1,zG.cell p2,zG.cell p3,zG.cell q0,zG.cell q1,zG.cell q2,zG.cell q3⟩) (fun zy=>?_)
         refine Tk 0 rfl zy ?_
         refine Tk 1 rfl zy ?_
         refine Tk 2 rfl zy ?_
         refine Tk 3 rfl zy ?_
         refine Tk 4 rfl zy ?_
         refine Tk 5 rfl zy ?_
         refine Tk 7 rfl zy ?_
         refine Tk 8 rfl zy ?_
         refine Tk 9 rfl zy ?_
         refine Tk 10 rfl zy ?_
         refine Tk 11 rfl zy ?_
         refine To 6 rfl fun K hK=>?_
         go_simp
         refine(RY.out _ zG).mono ?_
         rintro e wA ⟨rA,rfl,nB⟩
         obtain⟨AA,ca,rfl,_⟩:=nB.own.form;have lS:=nB.own.src
         try have lT:=lT.below nB.2
         have zG:=zG.below nB.2 (Nat.le_refl _);have tL:=tL.below nB.2;have wZ:=wZ.trans (nB.2.mono wZ.size)
         refine hK.out _ _ (fun _=>?_) (fun zy=>?_)
         ·exact⟨tL.cell 3 rfl,zG.cell p0,zG.cell p1,zG.cell p2,zG.cell p3,zG.cell q0,zG.cell q1,zG.cell q2,zG.cell q3⟩
         clear hK K;have zy:=zy (by decide)
         try simp only[Act.put,zz4,zz5,zz6]
         refine To 12 rfl fun K hK=>?_
         go_simp
         refine(RZ.out _ zG).mono ?_
         rintro e wB ⟨rB,rfl,nC⟩
         obtain⟨BB,cb,rfl,_⟩:=nC.own.form;have lT:=nC.own.src
         try have lS:=lS.below nC.2
         have zG:=zG.below nC.2 (Nat.le_refl _);have tL:=tL.below nC.2;have wZ:=wZ.trans (nC.2.mono wZ.size)
         refine hK.out _ _ (fun _=>?_) (fun zy=>?_)
         ·exact⟨tL.cell 3 rfl,zG.cell p0,zG.cell p1,zG.cell p2,zG.cell p3,zG.cell q0,zG.cell q1,zG.cell q2,zG.cell q3⟩
         clear hK K;have zy:=zy (by decide)
         try simp only[Act.put,zz4,zz5,zz6]
         refine To 13 rfl fun K hK=>?_
         go_simp
         refine(vF _ AA BB (zd y) (zd z) _ _ ca cb rfl rfl Vg VD lS lT).mono ?_
         rintro e wC ⟨rfl,eI⟩
         have zG:=zG.below eI (Nat.le_refl _);have tL:=tL.below eI;have wZ:=wZ.trans (eI.mono wZ.size)
         refine hK.out _ _ (fun _=>?_) (fun zy=>?_)
         ·exact⟨tL.cell 3 rfl,zG.cell p0,zG.cell p1,zG.cell p2,zG.cell p3,zG.cell q0,zG.cell q1,zG.cell q2,zG.cell q3⟩
         clear hK K;have zy:=zy (by decide)
         try simp only[Act.put,zz4,zz5,zz6]
         refine To 14 rfl fun K hK=>?_
         go_simp
         refine hK.out _ _ (fun h=>absurd rfl h) (fun _=>?_)
         clear hK K
         try simp only[Act.put,zz4,zz5,zz6]
         refine Ways.done (by kernel_rfl) ?_
         clear zy
         by_cases ul:Lib.compareBytes (zd y) (zd z)<0
         ·have nD:¬ (0:Int)≤Lib.compareBytes (zd y) (zd z):=by omega
          have HN:Hid (xX (x.items.drop (i+2-2))=xX x.items):=by rw[Hid,Nat.add_sub_cancel,HD.out,decide_eq_true ul,Bool.true_and]
          generalize Lib.compareBytes (zd y) (zd z)=cmp at *
          have HC:=Hh ul;clear ul lS lT zG;go_wp2_with fail
          go_roundw
          case rel=>exact⟨i+2,by omega,by omega,by go_num,HN.out,wZ,tL⟩
          case measure=>simp[intOf];omega
         ·have nD:(0:Int)≤Lib.compareBytes (zd y) (zd z):=by omega
          have HN:xX x.items=false:=by rw[HD.out,decide_eq_false ul,Bool.false_and]
          have E:Hid (zN x c d=none):=by
           rw[Hid,y7,if_neg (by omega),if_neg (by simp[HG.out]),tU.out]
           simp only
           rw[if_pos ⟨H5.out,HN⟩]
          generalize Lib.compareBytes (zd y) (zd z)=cmp at *
          clear ul lS lT zG HN;go_wp2_with fail
          go_ret
          exact⟨by rw[E.out];rfl,wZ⟩
        ·have wy:¬ (i:Int)<x.items.length:=by omega
         have HN:xX x.items=true:=by rw[← HA.out];exact ph _ _ o7 (by omega)
         have E:Hid (zN x c d=some r):=by
          rw[Hid,y7,if_neg (by omega),if_neg (by simp[HG.out]),tU.out]
          simp only
          rw[if_neg (by rintro⟨_,h⟩;rw[HN]at h;cases h)]
         clear HN hlt2;go_wp2_with fail
         go_ret
         exact⟨by rw[E.out];rfl,ln⟩
   ·have bpos0:¬ (0:Int)<x.items.length:=by omega
    have wF:=Hh yI;clear yI;go_enter Tryz.func51,Tryz.ntmps51
    go_upto_region 22 with fail
    any_goals
     (have xw:zZ x d (c-1)=false:=by
       cases hq:zZ x d (c-1) with
       | false=>rfl
       | true=>exact absurd ((zH (by have:=HK.out;omega)).1 hq) (by have zQ:=wY.out;have vX:=ua.out;have yI:=wF.out;have hk:=HK.out;omega)
      go_ret
      exact⟨by rw[zI xw];rfl,xj⟩)
    all_goals
     have zS:zZ x d (c-1)=true:=(zH (by have:=HK.out;omega)).2 ⟨by omega,by omega,fun h=>by have:=HK.out;omega,fun _=>wY.out,fun h=>ua.out,by omega⟩;have xt:x.items.length=0:=by have zQ:=wY.out;have vX:=ua.out;have yI:=wF.out;have hk:=HK.out;omega
     have hk:=HK.out;have E:Hid (zN x c d=some (c-1)):=yj sO zS xt;have oc:¬ (0:Int)<x.items.length:=by omega
     have rX:¬ (2:Int)<x.items.length:=by omega
     have HI:=Hh xt;have HC:=Hh zS;clear xt hk zS;have c0:=hB.cell 0 rfl;have c3:=hB.cell 3 rfl;go_wp2_with fail
     refine wp_loop_rounds 1 ?_
     rw[rounds_succ];go_wp2_with fail
     refine wp_loop_rounds 1 ?_
     rw[rounds_succ];go_wp2_with fail
     go_ret
     exact⟨by rw[E.out,← sU.out];rfl,xj⟩
  ·have beven0:((x.items.length:Int)%2 != 0)=true:=by(first | (rw[bne_eq_false_iff_eq];omega) | (rw[bne_iff_ne];omega))
   have ua:=Hh vX;clear vX
   by_cases yI:0<x.items.length
   ·have bpos0:(0:Int)<x.items.length:=by omega
    have wF:=Hh yI;clear yI;go_enter Tryz.func51,Tryz.ntmps51
    go_upto_region 22 with fail
    any_goals
     (have xw:zZ x d (c-1)=false:=by
       cases hq:zZ x d (c-1) with
       | false=>rfl
       | true=>exact absurd ((zH (by have:=HK.out;omega)).1 hq) (by have zQ:=wY.out;have vX:=ua.out;have yI:=wF.out;have hk:=HK.out;omega)
      go_ret
      exact⟨by rw[zI xw];rfl,xj⟩)
    all_goals
     have HG:Hid (zZ x d (c-1)=true):=(zH (by have:=HK.out;omega)).2 ⟨by omega,by omega,fun h=>by have:=HK.out;omega,fun _=>wY.out,fun h=>ua.out,by omega⟩;have c0:=hB.cell 0 rfl;have c3:=hB.cell 3 rfl;go_wp2_with fail
     have ob:=hB;have yR:=xj;go_loopw [1,157] (fun v1 v157 wr=>∃ (j r:Nat),j≤x.items.length∧r≤c∧v157=.int .i64 j∧v1=.int .i64 r∧zL (x.items.drop j) r (d+1)=zL x.items (c-1) (d+1)∧Below w.heap.size w wr∧Blk wr w.heap.size 26 #[.int .i64 x.kind,.int .u64 x.n,.slice ba x.bytes.length bc,.slice ia x.items.length ic]) (fun _ v157 _=>x.items.length-(intOf v157).toNat)
     case atStart=>exact⟨0,c-1,Nat.zero_le _,by omega,rfl,by rw[sU.out],rfl,yR,ob⟩
     case round =>
      obtain⟨j,r,hj,bG,rfl,rfl,qS,xS,tD⟩:=hrel;have tC:=Hh qS;clear qS
      by_cases yi:j<x.items.length
      ·have xT:Holds wr H:=hH.below xS (Nat.le_refl _);obtain⟨ib,io,tj,wI⟩:=HX.out.items (by omega);obtain⟨eba,ebc,eia,eic,q0,q1,q2,q3,uU⟩:=wI.get j yi;subst tj;have p0:=xT.cell q0;have p1:=xT.cell q1;have p2:=xT.cell q2;have p3:=xT.cell q3;have wW:zL (x.items.drop j) r (d+1)=match zN x.items[j] r (d+1) with | none=>none | some r'=>zL (x.items.drop (j+1)) r' (d+1):=by rw[List.drop_eq_getElem_cons yi,zL];cases zN x.items[j] r (d+1) <;> rfl
       have uu:=Hh (wW.symm.trans tC.out);clear wW;have IHC:=ih x.items[j] (xP x j yi) H hT _ _ eba _ ebc eia _ eic (wr.alloc (zW x.items[j] eba ebc eia eic)) r (d+1) uU.arg (xT.alloc _) (by omega) (by omega);rw[show((d+1:Nat):Int)=(d:Int)+1 by omega]at IHC;have IHH:=Hh IHC;have xe:=xS.alloc xS.size (zW x.items[j] eba ebc eia eic);have uh:=tD.alloc (zW x.items[j] eba ebc eia eic);clear IHC q0 q1 q2 q3
       cases hq:zN x.items[j] r (d+1) with
       | none =>
        rw[hq]at IHH uu;have E:Hid (zN x c d=none):=by rw[Hid,y7,if_neg (by omega),if_neg (by simp[HG.out]),← uu.out]
        clear hq uu;go_wp2_with fail
        refine IHH.out.mono ?_
        rintro e w6 ⟨rfl,wQ⟩
        have wj:=xe.trans (wQ.mono xe.size)
        simp only[wM]
        go_wp2_with fail
        go_ret
        exact⟨by rw[E.out];rfl,wj⟩
       | some r' =>
        rw[hq]at IHH uu;have jm:=(vw _ _ _ _ hq).2.2;have qy:Hid (zL (x.items.drop (j+1)) r' (d+1)=zL x.items (c-1) (d+1)):=uu.out;clear hq uu;have cH:(0:Int)≤(r':Int):=by omega
        have qu:r'≤c:=by omega
        go_wp2_with fail
        refine IHH.out.mono ?_
        rintro e w6 ⟨rfl,wQ⟩
        have wj:=xe.trans (wQ.mono xe.size);have rj:=uh.below wQ
        simp only[wM]
        clear xS tD xe uh wQ IHH p0 p1 p2 p3 jm xT;go_wp2_with fail
        go_roundw
        case rel=>exact⟨j+1,r',by omega,qu,by go_num,rfl,qy.out,wj,rj⟩
        case measure=>simp[intOf];omega
      ·have pB:j=x.items.length:=by omega
       subst pB;have vh:zL x.items (c-1) (d+1)=some r:=by rw[← tC.out,List.drop_length,zL]
       have tU:=Hh vh;clear vh tC;obtain⟨zC,gY,q8⟩:=tP _ _ _ _ tU.out;have eA:=Hh zC;have sN:(zB x.items).length≤1099511627776:=by have:=GoodL.bytes zC gY;omega
       have Ws:=Hh sN;have h5:x.kind=5:=by simpa using b5
       have H5:=Hh h5;clear zC gY q8 sN h5;go_wp2_with fail
       go_loopw [11] (fun v11 wz=>∃ i:Nat,2≤i∧i≤x.items.length+2∧v11=.int .i64 i∧xX (x.items.drop (i-2))=xX x.items∧Below w.heap.size w wz∧Blk wz w.heap.size 26 #[.int .i64 x.kind,.int .u64 x.n,.slice ba x.bytes.length bc,.slice ia x.items.length ic]) (fun v11 _=>(x.items.length+2)-(intOf v11).toNat)
       case atStart=>exact⟨2,by omega,by omega,rfl,rfl,xS,tD⟩
       case round =>
        obtain⟨i,o7,UT,rfl,uA,ln,gT⟩:=hrel;have HA:=Hh uA;have c0:=gT.cell 0 rfl;have c3:=gT.cell 3 rfl;clear uA xS tD
        by_cases hlt2:i<x.items.length
        ·have Up:Holds wr H:=hH.below ln (Nat.le_refl _);obtain⟨ib,io,tj,wI⟩:=HX.out.items (by omega);obtain⟨y1,y2,y3,y4,p0,p1,p2,p3,hy⟩:=wI.get (i-2) (by omega);obtain⟨z1,z2,z3,z4,q0,q1,q2,q3,hz⟩:=wI.get i hlt2;subst tj;have hd:=sP x.items i o7 hlt2;rw[HA.out]at hd;have bC:=eA.out.get x.items[i-2] (List.getElem_mem (by omega));have zU:=eA.out.get x.items[i] (List.getElem_mem hlt2);have lq:=uI (List.getElem_mem (show i-2<x.items.length by omega));have cF:=uI (List.getElem_mem hlt2);have US:(2:Int)≤i:=by omega
         have Ud:((i:Int)-2).toNat=i-2:=by omega
         have PY:IntKind.i64.wrap ((i:Int)-2)=(i:Int)-2:=IntWalk.i64_in _ (by omega);have PK:(0:Int)≤(i:Int)-2:=by omega
         have PN:(i:Int)-2<x.items.length:=by omega
         have PO:(i:Int)<x.items.length:=by omega
         generalize x.items[i-2]'(by omega)=y at *
         generalize x.items[i]'hlt2=z at *
         have sN:=Ws.out;have RY:=Hh (fun w1:World=>fun h1:Holds w1 H=>vB y H _ _ y1 _ y2 y3 _ y4 w1 (d+1) bC (by omega) hy.arg h1);have RZ:=Hh (fun w1:World=>fun h1:Holds w1 H=>vB z H _ _ z1 _ z2 z3 _ z4 w1 (d+1) zU (by omega) hz.arg h1);have Vg:(zd y).length≤1099511627776:=by omega
         have VD:(zd z).length≤1099511627776:=by omega
         have HD:=Hh hd;clear bC zU lq cF sN hd wI;go_upto_region 32 with fail
         have tL:=gT.drew;have wZ:=ln.drew;have zG:=Up.drew
         refine zf 14 (fun w'=>w'.cell? ⟨w.heap.size,3,none⟩=some (.slice (some ⟨ib,io,none⟩) x.items.length ic)∧w'.cell? ⟨ib,io+(i-2)*4,none⟩=some (.int .i64 y.kind)∧w'.cell? ⟨ib,io+(i-2)*4+1,none⟩=some (.int .u64 y.n)∧w'.cell? ⟨ib,io+(i-2)*4+2,none⟩=some (.slice y1 y.bytes.length y2)∧w'.cell? ⟨ib,io+(i-2)*4+3,none⟩=some (.slice y3 y.items.length y4)∧w'.cell? ⟨ib,io+i*4,none⟩=some (.int .i64 z.kind)∧w'.cell? ⟨ib,io+i*4+1,none⟩=some (.int .u64 z.n)∧w'.cell? ⟨ib,io+i*4+2,none⟩=some (.slice z1 z.bytes.length z2)∧w'.cell? ⟨ib,io+i*4+3,none⟩=some (.slice z3 z.items.length z4)) (by kernel_rfl) (⟨tL.cell 3 rfl,zG.cell p0,zG.cell p1,zG.cell p2,zG.cell p3,zG.cell q0,zG.cell q1,zG.cell q2,zG.cell q3⟩) (fun zy=>?_)
         refine Tk 0 rfl zy ?_
         refine Tk 1 rfl zy ?_
         refine Tk 2 rfl zy ?_
         refine Tk 3 rfl zy ?_
         refine Tk 4 rfl zy ?_
         refine Tk 5 rfl zy ?_
         refine Tk 7 rfl zy ?_
         refine Tk 8 rfl zy ?_
         refine Tk 9 rfl zy ?_
         refine Tk 10 rfl zy ?_
         refine Tk 11 rfl zy ?_
         refine To 6 rfl fun K hK=>?_
         go_simp
         refine(RY.out _ zG).mono ?_
         rintro e wA ⟨rA,rfl,nB⟩
         obtain⟨AA,ca,rfl,_⟩:=nB.own.form;have lS:=nB.own.src
         try have lT:=lT.below nB.2
         have zG:=zG.below nB.2 (Nat.le_refl _);have tL:=tL.below nB.2;have wZ:=wZ.trans (nB.2.mono wZ.size)
         refine hK.out _ _ (fun _=>?_) (fun zy=>?_)
         ·exact⟨tL.cell 3 rfl,zG.cell p0,zG.cell p1,zG.cell p2,zG.cell p3,zG.cell q0,zG.cell q1,zG.cell q2,zG.cell q3⟩
         clear hK K;have zy:=zy (by decide)
         try simp only[Act.put,zz4,zz5,zz6]
         refine To 12 rfl fun K hK=>?_
         go_simp
         refine(RZ.out _ zG).mono ?_
         rintro e wB ⟨rB,rfl,nC⟩
         obtain⟨BB,cb,rfl,_⟩:=nC.own.form;have lT:=nC.own.src
         try have lS:=lS.below nC.2
         have zG:=zG.below nC.2 (Nat.le_refl _);have tL:=tL.below nC.2;have wZ:=wZ.trans (nC.2.mono wZ.size)
         refine hK.out _ _ (fun _=>?_) (fun zy=>?_)
         ·exact⟨tL.cell 3 rfl,zG.cell p0,zG.cell p1,zG.cell p2,zG.cell p3,zG.cell q0,zG.cell q1,zG.cell q2,zG.cell q3⟩
         clear hK K;have zy:=zy (by decide)
         try simp only[Act.put,zz4,zz5,zz6]
         refine To 13 rfl fun K hK=>?_
         go_simp
         refine(vF _ AA BB (zd y) (zd z) _ _ ca cb rfl rfl Vg VD lS lT).mono ?_
         rintro e wC ⟨rfl,eI⟩
         have zG:=zG.below eI (Nat.le_refl _);have tL:=tL.below eI;have wZ:=wZ.trans (eI.mono wZ.size)
         refine hK.out _ _ (fun _=>?_) (fun zy=>?_)
         ·exact⟨tL.cell 3 rfl,zG.cell p0,zG.cell p1,zG.cell p2,zG.cell p3,zG.cell q0,zG.cell q1,zG.cell q2,zG.cell q3⟩
         clear hK K;have zy:=zy (by decide)
         try simp only[Act.put,zz4,zz5,zz6]
         refine To 14 rfl fun K hK=>?_
         go_simp
         refine hK.out _ _ (fun h=>absurd rfl h) (fun _=>?_)
         clear hK K
         try simp only[Act.put,zz4,zz5,zz6]
         refine Ways.done (by kernel_rfl) ?_
         clear zy
         by_cases ul:Lib.compareBytes (zd y) (zd z)<0
         ·have nD:¬ (0:Int)≤Lib.compareBytes (zd y) (zd z):=by omega
          have HN:Hid (xX (x.items.drop (i+2-2))=xX x.items):=by rw[Hid,Nat.add_sub_cancel,HD.out,decide_eq_true ul,Bool.true_and]
          generalize Lib.compareBytes (zd y) (zd z)=cmp at *
          have HC:=Hh ul;clear ul lS lT zG;go_wp2_with fail
          go_roundw
          case rel=>exact⟨i+2,by omega,by omega,by go_num,HN.out,wZ,tL⟩
          case measure=>simp[intOf];omega
         ·have nD:(0:Int)≤Lib.compareBytes (zd y) (zd z):=by omega
          have HN:xX x.items=false:=by rw[HD.out,decide_eq_false ul,Bool.false_and]
          have E:Hid (zN x c d=none):=by
           rw[Hid,y7,if_neg (by omega),if_neg (by simp[HG.out]),tU.out]
           simp only
           rw[if_pos ⟨H5.out,HN⟩]
          generalize Lib.compareBytes (zd y) (zd z)=cmp at *
          clear ul lS lT zG HN;go_wp2_with fail
          go_ret
          exact⟨by rw[E.out];rfl,wZ⟩
        ·have wy:¬ (i:Int)<x.items.length:=by omega
         have HN:xX x.items=true:=by rw[← HA.out];exact ph _ _ o7 (by omega)
         have E:Hid (zN x c d=some r):=by
          rw[Hid,y7,if_neg (by omega),if_neg (by simp[HG.out]),tU.out]
          simp only
          rw[if_neg (by rintro⟨_,h⟩;rw[HN]at h;cases h)]
         clear HN hlt2;go_wp2_with fail
         go_ret
         exact⟨by rw[E.out];rfl,ln⟩
   ·have bpos0:¬ (0:Int)<x.items.length:=by omega
    have wF:=Hh yI;clear yI;go_enter Tryz.func51,Tryz.ntmps51
    go_upto_region 22 with fail
    any_goals
     (have xw:zZ x d (c-1)=false:=by
       cases hq:zZ x d (c-1) with
       | false=>rfl
       | true=>exact absurd ((zH (by have:=HK.out;omega)).1 hq) (by have zQ:=wY.out;have vX:=ua.out;have yI:=wF.out;have hk:=HK.out;omega)
      go_ret
      exact⟨by rw[zI xw];rfl,xj⟩)
    all_goals
     have zS:zZ x d (c-1)=true:=(zH (by have:=HK.out;omega)).2 ⟨by omega,by omega,fun h=>by have:=HK.out;omega,fun _=>wY.out,fun h=>ua.out,by omega⟩;have xt:x.items.length=0:=by have zQ:=wY.out;have vX:=ua.out;have yI:=wF.out;have hk:=HK.out;omega
     have hk:=HK.out;have E:Hid (zN x c d=some (c-1)):=yj sO zS xt;have oc:¬ (0:Int)<x.items.length:=by omega
     have rX:¬ (2:Int)<x.items.length:=by omega
     have HI:=Hh xt;have HC:=Hh zS;clear xt hk zS;have c0:=hB.cell 0 rfl;have c3:=hB.cell 3 rfl;go_wp2_with fail
     refine wp_loop_rounds 1 ?_
     rw[rounds_succ];go_wp2_with fail
     refine wp_loop_rounds 1 ?_
     rw[rounds_succ];go_wp2_with fail
     go_ret
     exact⟨by rw[E.out,← sU.out];rfl,xj⟩
end Go.Proofs.YtnlinmoiakgedaaGreatDoor
