/- squeezed. Walks: the references' left: maps. -/
import Derived.Test.YtgcjjhibdbafmaaGreatDoorK05
set_option linter.unusedVariables false
set_option linter.unusedSimpArgs false
set_option maxRecDepth 100000
set_option maxHeartbeats 6400000
namespace Go.Proofs.YtgcjjhibdbafmaaGreatDoor
open Go.RowKit
theorem left_k5 (x:Itm) (hk:x.kind=5) {H:Snap}(hT:Tabs H) (ih:∀ y:Itm,cnt y<cnt x→LeftSaid y) {ba:Option Addr}{bc:Nat}{ia:Option Addr}{ic:Nat}(hx:IsItem H ba bc ia ic x) (w:World) (hH:Holds w H) (c d:Nat) (hc0:0<c) (hc:c≤65536) (hd:d≤65536) :
  Calls Tryz.prog 86 #[itemV x ba bc ia ic,.int .i64 c,.int .i64 d] w fun e w'=>e=.returned (.int .i64 (leftI (leftP x c d)))∧Below w.heap.size w w':=by
 have HX:=Hh hx;have hbd:=hx.bounds;have hB:=Blk.new w 26 #[.int .i64 x.kind,.int .u64 x.n,.slice ba x.bytes.length bc,.slice ia x.items.length ic];have hb0:=below_box w (itemO x ba bc ia ic);have hc1:((c-1:Nat):Int)=(c:Int)-1:=by omega
 have hbl:x.bytes.length≤9223372036854775807:=by omega
 have hil:x.items.length≤9223372036854775807:=by omega
 have HN:=Hh hbd.2.2.1;have hci:¬ (c:Int)<1:=by omega
 have k0:¬ x.kind<0:=by omega
 have k8:¬ 8<x.kind:=by omega
 have HK:=Hh hk;have HC1:=Hh hc1;clear hx hbd hc1;obtain⟨b0,b1,b2,b3,b4,b5,b6,b7,b8⟩:=kinds5 hk;clear hk
 by_cases hn0:x.n=0
 ·have bn00:((x.n:Int) != 0)=false:=by simp[hn0]
  have bn01:(x.n=0)=True:=by first | exact eq_true hn0 | exact eq_false hn0
  have HN0:=Hh hn0;clear hn0
  by_cases heven:x.items.length%2=0
  ·have beven0:((x.items.length:Int)%2 != 0)=false:=by(first | (rw[bne_eq_false_iff_eq];omega) | (rw[bne_iff_ne];omega))
   have HEVEN:=Hh heven;clear heven
   by_cases hpos:0<x.items.length
   ·have bpos0:(0:Int)<x.items.length:=by omega
    have HPOS:=Hh hpos;clear hpos;go_enter Tryz.func86,Tryz.ntmps86
    go_upto_region 22 with fail
    any_goals
     (have hbad:nodeR x d (c-1)=false:=by
       cases hq:nodeR x d (c-1) with
       | false=>rfl
       | true=>exact absurd ((nodeR_456 (by have:=HK.out;omega)).1 hq) (by have hn0:=HN0.out;have heven:=HEVEN.out;have hpos:=HPOS.out;have hk:=HK.out;omega)
      go_ret
      exact⟨by rw[left_none hbad];rfl,hb0⟩)
    all_goals
     have HG:Hid (nodeR x d (c-1)=true):=(nodeR_456 (by have:=HK.out;omega)).2 ⟨by omega,by omega,fun h=>by have:=HK.out;omega,fun _=>HN0.out,fun h=>HEVEN.out,by omega⟩;have c0:=hB.cell 0 rfl;have c3:=hB.cell 3 rfl;go_wp2_with fail
     have hB0:=hB;have hbz:=hb0;go_loopw [1,157] (fun v1 v157 wr=>∃ (j r:Nat),j≤x.items.length∧r≤c∧v157=.int .i64 j∧v1=.int .i64 r∧leftL (x.items.drop j) r (d+1)=leftL x.items (c-1) (d+1)∧Below w.heap.size w wr∧Blk wr w.heap.size 26 #[.int .i64 x.kind,.int .u64 x.n,.slice ba x.bytes.length bc,.slice ia x.items.length ic]) (fun _ v157 _=>x.items.length-(intOf v157).toNat)
     case atStart=>exact⟨0,c-1,Nat.zero_le _,by omega,rfl,by rw[HC1.out],rfl,hbz,hB0⟩
     case round =>
      obtain⟨j,r,hj,hrc,rfl,rfl,hlr,hbr,hBr⟩:=hrel;have HLR:=Hh hlr;clear hlr
      by_cases hlt:j<x.items.length
      ·have hHr:Holds wr H:=hH.below hbr (Nat.le_refl _);obtain⟨ib,io,hia,hel⟩:=HX.out.items (by omega);obtain⟨eba,ebc,eia,eic,q0,q1,q2,q3,hex⟩:=hel.get j hlt;subst hia;have p0:=hHr.cell q0;have p1:=hHr.cell q1;have p2:=hHr.cell q2;have p3:=hHr.cell q3;have hstep:leftL (x.items.drop j) r (d+1)=match leftP x.items[j] r (d+1) with | none=>none | some r'=>leftL (x.items.drop (j+1)) r' (d+1):=by rw[List.drop_eq_getElem_cons hlt,leftL];cases leftP x.items[j] r (d+1) <;> rfl
       have hst:=Hh (hstep.symm.trans HLR.out);clear hstep;have IHC:=ih x.items[j] (cnt_items x j hlt) H hT _ _ eba _ ebc eia _ eic (wr.alloc (itemO x.items[j] eba ebc eia eic)) r (d+1) hex.arg (hHr.alloc _) (by omega) (by omega);rw[show((d+1:Nat):Int)=(d:Int)+1 by omega]at IHC;have IHH:=Hh IHC;have hbr5:=hbr.alloc hbr.size (itemO x.items[j] eba ebc eia eic);have hB5:=hBr.alloc (itemO x.items[j] eba ebc eia eic);clear IHC q0 q1 q2 q3
       cases hq:leftP x.items[j] r (d+1) with
       | none =>
        rw[hq]at IHH hst;have E:Hid (leftP x c d=none):=by rw[Hid,leftP_eq,if_neg (by omega),if_neg (by simp[HG.out]),← hst.out]
        clear hq hst;go_wp2_with fail
        refine IHH.out.mono ?_
        rintro e w6 ⟨rfl,hb6⟩
        have hb7:=hbr5.trans (hb6.mono hbr5.size)
        simp only[leftI]
        go_wp2_with fail
        go_ret
        exact⟨by rw[E.out];rfl,hb7⟩
       | some r' =>
        rw[hq]at IHH hst;have hrr:=(left_spec _ _ _ _ hq).2.2;have hst':Hid (leftL (x.items.drop (j+1)) r' (d+1)=leftL x.items (c-1) (d+1)):=hst.out;clear hq hst;have hr0:(0:Int)≤(r':Int):=by omega
        have hrc':r'≤c:=by omega
        go_wp2_with fail
        refine IHH.out.mono ?_
        rintro e w6 ⟨rfl,hb6⟩
        have hb7:=hbr5.trans (hb6.mono hbr5.size);have hB7:=hB5.below hb6
        simp only[leftI]
        clear hbr hBr hbr5 hB5 hb6 IHH p0 p1 p2 p3 hrr hHr;go_wp2_with fail
        go_roundw
        case rel=>exact⟨j+1,r',by omega,hrc',by go_num,rfl,hst'.out,hb7,hB7⟩
        case measure=>simp[intOf];omega
      ·have hjl:j=x.items.length:=by omega
       subst hjl;have hall:leftL x.items (c-1) (d+1)=some r:=by rw[← HLR.out,List.drop_length,leftL]
       have HALL:=Hh hall;clear hall HLR;obtain⟨hgl,hsl,hcl⟩:=leftL_spec _ _ _ _ HALL.out;have HGL:=Hh hgl;have hbl:(encL x.items).length≤1099511627776:=by have:=GoodL.bytes hgl hsl;omega
       have HBL:=Hh hbl;have h5:x.kind=5:=by simpa using b5
       have H5:=Hh h5;clear hgl hsl hcl hbl h5;go_wp2_with fail
       go_loopw [11] (fun v11 wz=>∃ i:Nat,2≤i∧i≤x.items.length+2∧v11=.int .i64 i∧ascP (x.items.drop (i-2))=ascP x.items∧Below w.heap.size w wz∧Blk wz w.heap.size 26 #[.int .i64 x.kind,.int .u64 x.n,.slice ba x.bytes.length bc,.slice ia x.items.length ic]) (fun v11 _=>(x.items.length+2)-(intOf v11).toNat)
       case atStart=>exact⟨2,by omega,by omega,rfl,rfl,hbr,hBr⟩
       case round =>
        obtain⟨i,hi2,hil2,rfl,hasc,hbs,hBs⟩:=hrel;have HA:=Hh hasc;have c0:=hBs.cell 0 rfl;have c3:=hBs.cell 3 rfl;clear hasc hbr hBr
        by_cases hlt2:i<x.items.length
        ·have hHs:Holds wr H:=hH.below hbs (Nat.le_refl _);obtain⟨ib,io,hia,hel⟩:=HX.out.items (by omega);obtain⟨y1,y2,y3,y4,p0,p1,p2,p3,hy⟩:=hel.get (i-2) (by omega);obtain⟨z1,z2,z3,z4,q0,q1,q2,q3,hz⟩:=hel.get i hlt2;subst hia;have hd:=ascP_drop x.items i hi2 hlt2;rw[HA.out]at hd;have hgy:=HGL.out.get x.items[i-2] (List.getElem_mem (by omega));have hgz:=HGL.out.get x.items[i] (List.getElem_mem hlt2);have hly:=encL_mem (List.getElem_mem (show i-2<x.items.length by omega));have hlz:=encL_mem (List.getElem_mem hlt2);have hi2':(2:Int)≤i:=by omega
         have hsub:((i:Int)-2).toNat=i-2:=by omega
         have hKs:IntKind.i64.wrap ((i:Int)-2)=(i:Int)-2:=IntWalk.i64_in _ (by omega);have h02:(0:Int)≤(i:Int)-2:=by omega
         have h03:(i:Int)-2<x.items.length:=by omega
         have h04:(i:Int)<x.items.length:=by omega
         generalize x.items[i-2]'(by omega)=y at *
         generalize x.items[i]'hlt2=z at *
         have hbl:=HBL.out;have RY:=Hh (fun w1:World=>fun h1:Holds w1 H=>ref_Raw y H _ _ y1 _ y2 y3 _ y4 w1 (d+1) hgy (by omega) hy.arg h1);have RZ:=Hh (fun w1:World=>fun h1:Holds w1 H=>ref_Raw z H _ _ z1 _ z2 z3 _ z4 w1 (d+1) hgz (by omega) hz.arg h1);have hyl:(encB y).length≤1099511627776:=by omega
         have hzl:(encB z).length≤1099511627776:=by omega
         have HD:=Hh hd;clear hgy hgz hly hlz hbl hd hel;go_upto_region 32 with fail
         have hBx:=hBs.drew;have hbx:=hbs.drew;have hHx:=hHs.drew
         refine wp_region_ways 14 (fun w'=>w'.cell? ⟨w.heap.size,3,none⟩=some (.slice (some ⟨ib,io,none⟩) x.items.length ic)∧w'.cell? ⟨ib,io+(i-2)*4,none⟩=some (.int .i64 y.kind)∧w'.cell? ⟨ib,io+(i-2)*4+1,none⟩=some (.int .u64 y.n)∧w'.cell? ⟨ib,io+(i-2)*4+2,none⟩=some (.slice y1 y.bytes.length y2)∧w'.cell? ⟨ib,io+(i-2)*4+3,none⟩=some (.slice y3 y.items.length y4)∧w'.cell? ⟨ib,io+i*4,none⟩=some (.int .i64 z.kind)∧w'.cell? ⟨ib,io+i*4+1,none⟩=some (.int .u64 z.n)∧w'.cell? ⟨ib,io+i*4+2,none⟩=some (.slice z1 z.bytes.length z2)∧w'.cell? ⟨ib,io+i*4+3,none⟩=some (.slice z3 z.items.length z4)) (by kernel_rfl) (⟨hBx.cell 3 rfl,hHx.cell p0,hHx.cell p1,hHx.cell p2,hHx.cell p3,hHx.cell q0,hHx.cell q1,hHx.cell q2,hHx.cell q3⟩) (fun hHeld=>?_)
         refine Tk 0 rfl hHeld ?_
         refine Tk 1 rfl hHeld ?_
         refine Tk 2 rfl hHeld ?_
         refine Tk 3 rfl hHeld ?_
         refine Tk 4 rfl hHeld ?_
         refine Tk 5 rfl hHeld ?_
         refine Tk 7 rfl hHeld ?_
         refine Tk 8 rfl hHeld ?_
         refine Tk 9 rfl hHeld ?_
         refine Tk 10 rfl hHeld ?_
         refine Tk 11 rfl hHeld ?_
         refine To 6 rfl fun K hK=>?_
         go_simp
         refine(RY.out _ hHx).mono ?_
         rintro e wA ⟨rA,rfl,hfA⟩
         obtain⟨AA,ca,rfl,_⟩:=hfA.own.form;have hsA:=hfA.own.src
         try have hsB:=hsB.below hfA.2
         have hHx:=hHx.below hfA.2 (Nat.le_refl _);have hBx:=hBx.below hfA.2;have hbx:=hbx.trans (hfA.2.mono hbx.size)
         refine Ko hK ?_ fun hHeld=>?_
         ·exact⟨hBx.cell 3 rfl,hHx.cell p0,hHx.cell p1,hHx.cell p2,hHx.cell p3,hHx.cell q0,hHx.cell q1,hHx.cell q2,hHx.cell q3⟩
         clear hK K
         refine To 12 rfl fun K hK=>?_
         go_simp
         refine(RZ.out _ hHx).mono ?_
         rintro e wB ⟨rB,rfl,hfB⟩
         obtain⟨BB,cb,rfl,_⟩:=hfB.own.form;have hsB:=hfB.own.src
         try have hsA:=hsA.below hfB.2
         have hHx:=hHx.below hfB.2 (Nat.le_refl _);have hBx:=hBx.below hfB.2;have hbx:=hbx.trans (hfB.2.mono hbx.size)
         refine Ko hK ?_ fun hHeld=>?_
         ·exact⟨hBx.cell 3 rfl,hHx.cell p0,hHx.cell p1,hHx.cell p2,hHx.cell p3,hHx.cell q0,hHx.cell q1,hHx.cell q2,hHx.cell q3⟩
         clear hK K
         refine To 13 rfl fun K hK=>?_
         go_simp
         refine(ref_Compare _ AA BB (encB y) (encB z) _ _ ca cb rfl rfl hyl hzl hsA hsB).mono ?_
         rintro e wC ⟨rfl,hfC⟩
         have hHx:=hHx.below hfC (Nat.le_refl _);have hBx:=hBx.below hfC;have hbx:=hbx.trans (hfC.mono hbx.size)
         refine Ko hK ?_ fun hHeld=>?_
         ·exact⟨hBx.cell 3 rfl,hHx.cell p0,hHx.cell p1,hHx.cell p2,hHx.cell p3,hHx.cell q0,hHx.cell q1,hHx.cell q2,hHx.cell q3⟩
         clear hK K
         refine To 14 rfl fun K hK=>?_
         go_simp
         refine Kz hK ?_
         clear hK K
         refine Wd ?_
         clear hHeld
         by_cases hcmp:Lib.compareBytes (encB y) (encB z)<0
         ·have hge:¬ (0:Int)≤Lib.compareBytes (encB y) (encB z):=by omega
          have HN:Hid (ascP (x.items.drop (i+2-2))=ascP x.items):=by rw[Hid,Nat.add_sub_cancel,HD.out,decide_eq_true hcmp,Bool.true_and]
          generalize Lib.compareBytes (encB y) (encB z)=cmp at *
          have HC:=Hh hcmp;clear hcmp hsA hsB hHx;go_wp2_with fail
          go_roundw
          case rel=>exact⟨i+2,by omega,by omega,by go_num,HN.out,hbx,hBx⟩
          case measure=>simp[intOf];omega
         ·have hge:(0:Int)≤Lib.compareBytes (encB y) (encB z):=by omega
          have HN:ascP x.items=false:=by rw[HD.out,decide_eq_false hcmp,Bool.false_and]
          have E:Hid (leftP x c d=none):=by
           rw[Hid,leftP_eq,if_neg (by omega),if_neg (by simp[HG.out]),HALL.out]
           simp only
           rw[if_pos ⟨H5.out,HN⟩]
          generalize Lib.compareBytes (encB y) (encB z)=cmp at *
          clear hcmp hsA hsB hHx HN;go_wp2_with fail
          go_ret
          exact⟨by rw[E.out];rfl,hbx⟩
        ·have hnl:¬ (i:Int)<x.items.length:=by omega
         have HN:ascP x.items=true:=by rw[← HA.out];exact ascP_end _ _ hi2 (by omega)
         have E:Hid (leftP x c d=some r):=by
          rw[Hid,leftP_eq,if_neg (by omega),if_neg (by simp[HG.out]),HALL.out]
          simp only
          rw[if_neg (by rintro⟨_,h⟩;rw[HN]at h;cases h)]
         clear HN hlt2;go_wp2_with fail
         go_ret
         exact⟨by rw[E.out];rfl,hbs⟩
   ·have bpos0:¬ (0:Int)<x.items.length:=by omega
    have HPOS:=Hh hpos;clear hpos;go_enter Tryz.func86,Tryz.ntmps86
    go_upto_region 22 with fail
    any_goals
     (have hbad:nodeR x d (c-1)=false:=by
       cases hq:nodeR x d (c-1) with
       | false=>rfl
       | true=>exact absurd ((nodeR_456 (by have:=HK.out;omega)).1 hq) (by have hn0:=HN0.out;have heven:=HEVEN.out;have hpos:=HPOS.out;have hk:=HK.out;omega)
      go_ret
      exact⟨by rw[left_none hbad];rfl,hb0⟩)
    all_goals
     have hgood:nodeR x d (c-1)=true:=(nodeR_456 (by have:=HK.out;omega)).2 ⟨by omega,by omega,fun h=>by have:=HK.out;omega,fun _=>HN0.out,fun h=>HEVEN.out,by omega⟩;have hi0:x.items.length=0:=by have hn0:=HN0.out;have heven:=HEVEN.out;have hpos:=HPOS.out;have hk:=HK.out;omega
     have hk:=HK.out;have E:Hid (leftP x c d=some (c-1)):=left_flat hc0 hgood hi0;have hli:¬ (0:Int)<x.items.length:=by omega
     have hl2:¬ (2:Int)<x.items.length:=by omega
     have HI:=Hh hi0;have HC:=Hh hgood;clear hi0 hk hgood;have c0:=hB.cell 0 rfl;have c3:=hB.cell 3 rfl;go_wp2_with fail
     refine wp_loop_rounds 1 ?_
     rw[rounds_succ];go_wp2_with fail
     refine wp_loop_rounds 1 ?_
     rw[rounds_succ];go_wp2_with fail
     go_ret
     exact⟨by rw[E.out,← HC1.out];rfl,hb0⟩
  ·have beven0:((x.items.length:Int)%2 != 0)=true:=by(first | (rw[bne_eq_false_iff_eq];omega) | (rw[bne_iff_ne];omega))
   have HEVEN:=Hh heven;clear heven
   by_cases hpos:0<x.items.length
   ·have bpos0:(0:Int)<x.items.length:=by omega
    have HPOS:=Hh hpos;clear hpos;go_enter Tryz.func86,Tryz.ntmps86
    go_upto_region 22 with fail
    any_goals
     (have hbad:nodeR x d (c-1)=false:=by
       cases hq:nodeR x d (c-1) with
       | false=>rfl
       | true=>exact absurd ((nodeR_456 (by have:=HK.out;omega)).1 hq) (by have hn0:=HN0.out;have heven:=HEVEN.out;have hpos:=HPOS.out;have hk:=HK.out;omega)
      go_ret
      exact⟨by rw[left_none hbad];rfl,hb0⟩)
    all_goals
     have HG:Hid (nodeR x d (c-1)=true):=(nodeR_456 (by have:=HK.out;omega)).2 ⟨by omega,by omega,fun h=>by have:=HK.out;omega,fun _=>HN0.out,fun h=>HEVEN.out,by omega⟩;have c0:=hB.cell 0 rfl;have c3:=hB.cell 3 rfl;go_wp2_with fail
     have hB0:=hB;have hbz:=hb0;go_loopw [1,157] (fun v1 v157 wr=>∃ (j r:Nat),j≤x.items.length∧r≤c∧v157=.int .i64 j∧v1=.int .i64 r∧leftL (x.items.drop j) r (d+1)=leftL x.items (c-1) (d+1)∧Below w.heap.size w wr∧Blk wr w.heap.size 26 #[.int .i64 x.kind,.int .u64 x.n,.slice ba x.bytes.length bc,.slice ia x.items.length ic]) (fun _ v157 _=>x.items.length-(intOf v157).toNat)
     case atStart=>exact⟨0,c-1,Nat.zero_le _,by omega,rfl,by rw[HC1.out],rfl,hbz,hB0⟩
     case round =>
      obtain⟨j,r,hj,hrc,rfl,rfl,hlr,hbr,hBr⟩:=hrel;have HLR:=Hh hlr;clear hlr
      by_cases hlt:j<x.items.length
      ·have hHr:Holds wr H:=hH.below hbr (Nat.le_refl _);obtain⟨ib,io,hia,hel⟩:=HX.out.items (by omega);obtain⟨eba,ebc,eia,eic,q0,q1,q2,q3,hex⟩:=hel.get j hlt;subst hia;have p0:=hHr.cell q0;have p1:=hHr.cell q1;have p2:=hHr.cell q2;have p3:=hHr.cell q3;have hstep:leftL (x.items.drop j) r (d+1)=match leftP x.items[j] r (d+1) with | none=>none | some r'=>leftL (x.items.drop (j+1)) r' (d+1):=by rw[List.drop_eq_getElem_cons hlt,leftL];cases leftP x.items[j] r (d+1) <;> rfl
       have hst:=Hh (hstep.symm.trans HLR.out);clear hstep;have IHC:=ih x.items[j] (cnt_items x j hlt) H hT _ _ eba _ ebc eia _ eic (wr.alloc (itemO x.items[j] eba ebc eia eic)) r (d+1) hex.arg (hHr.alloc _) (by omega) (by omega);rw[show((d+1:Nat):Int)=(d:Int)+1 by omega]at IHC;have IHH:=Hh IHC;have hbr5:=hbr.alloc hbr.size (itemO x.items[j] eba ebc eia eic);have hB5:=hBr.alloc (itemO x.items[j] eba ebc eia eic);clear IHC q0 q1 q2 q3
       cases hq:leftP x.items[j] r (d+1) with
       | none =>
        rw[hq]at IHH hst;have E:Hid (leftP x c d=none):=by rw[Hid,leftP_eq,if_neg (by omega),if_neg (by simp[HG.out]),← hst.out]
        clear hq hst;go_wp2_with fail
        refine IHH.out.mono ?_
        rintro e w6 ⟨rfl,hb6⟩
        have hb7:=hbr5.trans (hb6.mono hbr5.size)
        simp only[leftI]
        go_wp2_with fail
        go_ret
        exact⟨by rw[E.out];rfl,hb7⟩
       | some r' =>
        rw[hq]at IHH hst;have hrr:=(left_spec _ _ _ _ hq).2.2;have hst':Hid (leftL (x.items.drop (j+1)) r' (d+1)=leftL x.items (c-1) (d+1)):=hst.out;clear hq hst;have hr0:(0:Int)≤(r':Int):=by omega
        have hrc':r'≤c:=by omega
        go_wp2_with fail
        refine IHH.out.mono ?_
        rintro e w6 ⟨rfl,hb6⟩
        have hb7:=hbr5.trans (hb6.mono hbr5.size);have hB7:=hB5.below hb6
        simp only[leftI]
        clear hbr hBr hbr5 hB5 hb6 IHH p0 p1 p2 p3 hrr hHr;go_wp2_with fail
        go_roundw
        case rel=>exact⟨j+1,r',by omega,hrc',by go_num,rfl,hst'.out,hb7,hB7⟩
        case measure=>simp[intOf];omega
      ·have hjl:j=x.items.length:=by omega
       subst hjl;have hall:leftL x.items (c-1) (d+1)=some r:=by rw[← HLR.out,List.drop_length,leftL]
       have HALL:=Hh hall;clear hall HLR;obtain⟨hgl,hsl,hcl⟩:=leftL_spec _ _ _ _ HALL.out;have HGL:=Hh hgl;have hbl:(encL x.items).length≤1099511627776:=by have:=GoodL.bytes hgl hsl;omega
       have HBL:=Hh hbl;have h5:x.kind=5:=by simpa using b5
       have H5:=Hh h5;clear hgl hsl hcl hbl h5;go_wp2_with fail
       go_loopw [11] (fun v11 wz=>∃ i:Nat,2≤i∧i≤x.items.length+2∧v11=.int .i64 i∧ascP (x.items.drop (i-2))=ascP x.items∧Below w.heap.size w wz∧Blk wz w.heap.size 26 #[.int .i64 x.kind,.int .u64 x.n,.slice ba x.bytes.length bc,.slice ia x.items.length ic]) (fun v11 _=>(x.items.length+2)-(intOf v11).toNat)
       case atStart=>exact⟨2,by omega,by omega,rfl,rfl,hbr,hBr⟩
       case round =>
        obtain⟨i,hi2,hil2,rfl,hasc,hbs,hBs⟩:=hrel;have HA:=Hh hasc;have c0:=hBs.cell 0 rfl;have c3:=hBs.cell 3 rfl;clear hasc hbr hBr
        by_cases hlt2:i<x.items.length
        ·have hHs:Holds wr H:=hH.below hbs (Nat.le_refl _);obtain⟨ib,io,hia,hel⟩:=HX.out.items (by omega);obtain⟨y1,y2,y3,y4,p0,p1,p2,p3,hy⟩:=hel.get (i-2) (by omega);obtain⟨z1,z2,z3,z4,q0,q1,q2,q3,hz⟩:=hel.get i hlt2;subst hia;have hd:=ascP_drop x.items i hi2 hlt2;rw[HA.out]at hd;have hgy:=HGL.out.get x.items[i-2] (List.getElem_mem (by omega));have hgz:=HGL.out.get x.items[i] (List.getElem_mem hlt2);have hly:=encL_mem (List.getElem_mem (show i-2<x.items.length by omega));have hlz:=encL_mem (List.getElem_mem hlt2);have hi2':(2:Int)≤i:=by omega
         have hsub:((i:Int)-2).toNat=i-2:=by omega
         have hKs:IntKind.i64.wrap ((i:Int)-2)=(i:Int)-2:=IntWalk.i64_in _ (by omega);have h02:(0:Int)≤(i:Int)-2:=by omega
         have h03:(i:Int)-2<x.items.length:=by omega
         have h04:(i:Int)<x.items.length:=by omega
         generalize x.items[i-2]'(by omega)=y at *
         generalize x.items[i]'hlt2=z at *
         have hbl:=HBL.out;have RY:=Hh (fun w1:World=>fun h1:Holds w1 H=>ref_Raw y H _ _ y1 _ y2 y3 _ y4 w1 (d+1) hgy (by omega) hy.arg h1);have RZ:=Hh (fun w1:World=>fun h1:Holds w1 H=>ref_Raw z H _ _ z1 _ z2 z3 _ z4 w1 (d+1) hgz (by omega) hz.arg h1);have hyl:(encB y).length≤1099511627776:=by omega
         have hzl:(encB z).length≤1099511627776:=by omega
         have HD:=Hh hd;clear hgy hgz hly hlz hbl hd hel;go_upto_region 32 with fail
         have hBx:=hBs.drew;have hbx:=hbs.drew;have hHx:=hHs.drew
         refine wp_region_ways 14 (fun w'=>w'.cell? ⟨w.heap.size,3,none⟩=some (.slice (some ⟨ib,io,none⟩) x.items.length ic)∧w'.cell? ⟨ib,io+(i-2)*4,none⟩=some (.int .i64 y.kind)∧w'.cell? ⟨ib,io+(i-2)*4+1,none⟩=some (.int .u64 y.n)∧w'.cell? ⟨ib,io+(i-2)*4+2,none⟩=some (.slice y1 y.bytes.length y2)∧w'.cell? ⟨ib,io+(i-2)*4+3,none⟩=some (.slice y3 y.items.length y4)∧w'.cell? ⟨ib,io+i*4,none⟩=some (.int .i64 z.kind)∧w'.cell? ⟨ib,io+i*4+1,none⟩=some (.int .u64 z.n)∧w'.cell? ⟨ib,io+i*4+2,none⟩=some (.slice z1 z.bytes.length z2)∧w'.cell? ⟨ib,io+i*4+3,none⟩=some (.slice z3 z.items.length z4)) (by kernel_rfl) (⟨hBx.cell 3 rfl,hHx.cell p0,hHx.cell p1,hHx.cell p2,hHx.cell p3,hHx.cell q0,hHx.cell q1,hHx.cell q2,hHx.cell q3⟩) (fun hHeld=>?_)
         refine Tk 0 rfl hHeld ?_
         refine Tk 1 rfl hHeld ?_
         refine Tk 2 rfl hHeld ?_
         refine Tk 3 rfl hHeld ?_
         refine Tk 4 rfl hHeld ?_
         refine Tk 5 rfl hHeld ?_
         refine Tk 7 rfl hHeld ?_
         refine Tk 8 rfl hHeld ?_
         refine Tk 9 rfl hHeld ?_
         refine Tk 10 rfl hHeld ?_
         refine Tk 11 rfl hHeld ?_
         refine To 6 rfl fun K hK=>?_
         go_simp
         refine(RY.out _ hHx).mono ?_
         rintro e wA ⟨rA,rfl,hfA⟩
         obtain⟨AA,ca,rfl,_⟩:=hfA.own.form;have hsA:=hfA.own.src
         try have hsB:=hsB.below hfA.2
         have hHx:=hHx.below hfA.2 (Nat.le_refl _);have hBx:=hBx.below hfA.2;have hbx:=hbx.trans (hfA.2.mono hbx.size)
         refine Ko hK ?_ fun hHeld=>?_
         ·exact⟨hBx.cell 3 rfl,hHx.cell p0,hHx.cell p1,hHx.cell p2,hHx.cell p3,hHx.cell q0,hHx.cell q1,hHx.cell q2,hHx.cell q3⟩
         clear hK K
         refine To 12 rfl fun K hK=>?_
         go_simp
         refine(RZ.out _ hHx).mono ?_
         rintro e wB ⟨rB,rfl,hfB⟩
         obtain⟨BB,cb,rfl,_⟩:=hfB.own.form;have hsB:=hfB.own.src
         try have hsA:=hsA.below hfB.2
         have hHx:=hHx.below hfB.2 (Nat.le_refl _);have hBx:=hBx.below hfB.2;have hbx:=hbx.trans (hfB.2.mono hbx.size)
         refine Ko hK ?_ fun hHeld=>?_
         ·exact⟨hBx.cell 3 rfl,hHx.cell p0,hHx.cell p1,hHx.cell p2,hHx.cell p3,hHx.cell q0,hHx.cell q1,hHx.cell q2,hHx.cell q3⟩
         clear hK K
         refine To 13 rfl fun K hK=>?_
         go_simp
         refine(ref_Compare _ AA BB (encB y) (encB z) _ _ ca cb rfl rfl hyl hzl hsA hsB).mono ?_
         rintro e wC ⟨rfl,hfC⟩
         have hHx:=hHx.below hfC (Nat.le_refl _);have hBx:=hBx.below hfC;have hbx:=hbx.trans (hfC.mono hbx.size)
         refine Ko hK ?_ fun hHeld=>?_
         ·exact⟨hBx.cell 3 rfl,hHx.cell p0,hHx.cell p1,hHx.cell p2,hHx.cell p3,hHx.cell q0,hHx.cell q1,hHx.cell q2,hHx.cell q3⟩
         clear hK K
         refine To 14 rfl fun K hK=>?_
         go_simp
         refine Kz hK ?_
         clear hK K
         refine Wd ?_
         clear hHeld
         by_cases hcmp:Lib.compareBytes (encB y) (encB z)<0
         ·have hge:¬ (0:Int)≤Lib.compareBytes (encB y) (encB z):=by omega
          have HN:Hid (ascP (x.items.drop (i+2-2))=ascP x.items):=by rw[Hid,Nat.add_sub_cancel,HD.out,decide_eq_true hcmp,Bool.true_and]
          generalize Lib.compareBytes (encB y) (encB z)=cmp at *
          have HC:=Hh hcmp;clear hcmp hsA hsB hHx;go_wp2_with fail
          go_roundw
          case rel=>exact⟨i+2,by omega,by omega,by go_num,HN.out,hbx,hBx⟩
          case measure=>simp[intOf];omega
         ·have hge:(0:Int)≤Lib.compareBytes (encB y) (encB z):=by omega
          have HN:ascP x.items=false:=by rw[HD.out,decide_eq_false hcmp,Bool.false_and]
          have E:Hid (leftP x c d=none):=by
           rw[Hid,leftP_eq,if_neg (by omega),if_neg (by simp[HG.out]),HALL.out]
           simp only
           rw[if_pos ⟨H5.out,HN⟩]
          generalize Lib.compareBytes (encB y) (encB z)=cmp at *
          clear hcmp hsA hsB hHx HN;go_wp2_with fail
          go_ret
          exact⟨by rw[E.out];rfl,hbx⟩
        ·have hnl:¬ (i:Int)<x.items.length:=by omega
         have HN:ascP x.items=true:=by rw[← HA.out];exact ascP_end _ _ hi2 (by omega)
         have E:Hid (leftP x c d=some r):=by
          rw[Hid,leftP_eq,if_neg (by omega),if_neg (by simp[HG.out]),HALL.out]
          simp only
          rw[if_neg (by rintro⟨_,h⟩;rw[HN]at h;cases h)]
         clear HN hlt2;go_wp2_with fail
         go_ret
         exact⟨by rw[E.out];rfl,hbs⟩
   ·have bpos0:¬ (0:Int)<x.items.length:=by omega
    have HPOS:=Hh hpos;clear hpos;go_enter Tryz.func86,Tryz.ntmps86
    go_upto_region 22 with fail
    any_goals
     (have hbad:nodeR x d (c-1)=false:=by
       cases hq:nodeR x d (c-1) with
       | false=>rfl
       | true=>exact absurd ((nodeR_456 (by have:=HK.out;omega)).1 hq) (by have hn0:=HN0.out;have heven:=HEVEN.out;have hpos:=HPOS.out;have hk:=HK.out;omega)
      go_ret
      exact⟨by rw[left_none hbad];rfl,hb0⟩)
    all_goals
     have hgood:nodeR x d (c-1)=true:=(nodeR_456 (by have:=HK.out;omega)).2 ⟨by omega,by omega,fun h=>by have:=HK.out;omega,fun _=>HN0.out,fun h=>HEVEN.out,by omega⟩;have hi0:x.items.length=0:=by have hn0:=HN0.out;have heven:=HEVEN.out;have hpos:=HPOS.out;have hk:=HK.out;omega
     have hk:=HK.out;have E:Hid (leftP x c d=some (c-1)):=left_flat hc0 hgood hi0;have hli:¬ (0:Int)<x.items.length:=by omega
     have hl2:¬ (2:Int)<x.items.length:=by omega
     have HI:=Hh hi0;have HC:=Hh hgood;clear hi0 hk hgood;have c0:=hB.cell 0 rfl;have c3:=hB.cell 3 rfl;go_wp2_with fail
     refine wp_loop_rounds 1 ?_
     rw[rounds_succ];go_wp2_with fail
     refine wp_loop_rounds 1 ?_
     rw[rounds_succ];go_wp2_with fail
     go_ret
     exact⟨by rw[E.out,← HC1.out];rfl,hb0⟩
 ·have bn00:((x.n:Int) != 0)=true:=by simp[hn0]
  have bn01:(x.n=0)=False:=by first | exact eq_true hn0 | exact eq_false hn0
  have HN0:=Hh hn0;clear hn0
  by_cases heven:x.items.length%2=0
  ·have beven0:((x.items.length:Int)%2 != 0)=false:=by(first | (rw[bne_eq_false_iff_eq];omega) | (rw[bne_iff_ne];omega))
   have HEVEN:=Hh heven;clear heven
   by_cases hpos:0<x.items.length
   ·have bpos0:(0:Int)<x.items.length:=by omega
    have HPOS:=Hh hpos;clear hpos;go_enter Tryz.func86,Tryz.ntmps86
    go_upto_region 22 with fail
    any_goals
     (have hbad:nodeR x d (c-1)=false:=by
       cases hq:nodeR x d (c-1) with
       | false=>rfl
       | true=>exact absurd ((nodeR_456 (by have:=HK.out;omega)).1 hq) (by have hn0:=HN0.out;have heven:=HEVEN.out;have hpos:=HPOS.out;have hk:=HK.out;omega)
      go_ret
      exact⟨by rw[left_none hbad];rfl,hb0⟩)
    all_goals
     have HG:Hid (nodeR x d (c-1)=true):=(nodeR_456 (by have:=HK.out;omega)).2 ⟨by omega,by omega,fun h=>by have:=HK.out;omega,fun _=>HN0.out,fun h=>HEVEN.out,by omega⟩;have c0:=hB.cell 0 rfl;have c3:=hB.cell 3 rfl;go_wp2_with fail
     have hB0:=hB;have hbz:=hb0;go_loopw [1,157] (fun v1 v157 wr=>∃ (j r:Nat),j≤x.items.length∧r≤c∧v157=.int .i64 j∧v1=.int .i64 r∧leftL (x.items.drop j) r (d+1)=leftL x.items (c-1) (d+1)∧Below w.heap.size w wr∧Blk wr w.heap.size 26 #[.int .i64 x.kind,.int .u64 x.n,.slice ba x.bytes.length bc,.slice ia x.items.length ic]) (fun _ v157 _=>x.items.length-(intOf v157).toNat)
     case atStart=>exact⟨0,c-1,Nat.zero_le _,by omega,rfl,by rw[HC1.out],rfl,hbz,hB0⟩
     case round =>
      obtain⟨j,r,hj,hrc,rfl,rfl,hlr,hbr,hBr⟩:=hrel;have HLR:=Hh hlr;clear hlr
      by_cases hlt:j<x.items.length
      ·have hHr:Holds wr H:=hH.below hbr (Nat.le_refl _);obtain⟨ib,io,hia,hel⟩:=HX.out.items (by omega);obtain⟨eba,ebc,eia,eic,q0,q1,q2,q3,hex⟩:=hel.get j hlt;subst hia;have p0:=hHr.cell q0;have p1:=hHr.cell q1;have p2:=hHr.cell q2;have p3:=hHr.cell q3;have hstep:leftL (x.items.drop j) r (d+1)=match leftP x.items[j] r (d+1) with | none=>none | some r'=>leftL (x.items.drop (j+1)) r' (d+1):=by rw[List.drop_eq_getElem_cons hlt,leftL];cases leftP x.items[j] r (d+1) <;> rfl
       have hst:=Hh (hstep.symm.trans HLR.out);clear hstep;have IHC:=ih x.items[j] (cnt_items x j hlt) H hT _ _ eba _ ebc eia _ eic (wr.alloc (itemO x.items[j] eba ebc eia eic)) r (d+1) hex.arg (hHr.alloc _) (by omega) (by omega);rw[show((d+1:Nat):Int)=(d:Int)+1 by omega]at IHC;have IHH:=Hh IHC;have hbr5:=hbr.alloc hbr.size (itemO x.items[j] eba ebc eia eic);have hB5:=hBr.alloc (itemO x.items[j] eba ebc eia eic);clear IHC q0 q1 q2 q3
       cases hq:leftP x.items[j] r (d+1) with
       | none =>
        rw[hq]at IHH hst;have E:Hid (leftP x c d=none):=by rw[Hid,leftP_eq,if_neg (by omega),if_neg (by simp[HG.out]),← hst.out]
        clear hq hst;go_wp2_with fail
        refine IHH.out.mono ?_
        rintro e w6 ⟨rfl,hb6⟩
        have hb7:=hbr5.trans (hb6.mono hbr5.size)
        simp only[leftI]
        go_wp2_with fail
        go_ret
        exact⟨by rw[E.out];rfl,hb7⟩
       | some r' =>
        rw[hq]at IHH hst;have hrr:=(left_spec _ _ _ _ hq).2.2;have hst':Hid (leftL (x.items.drop (j+1)) r' (d+1)=leftL x.items (c-1) (d+1)):=hst.out;clear hq hst;have hr0:(0:Int)≤(r':Int):=by omega
        have hrc':r'≤c:=by omega
        go_wp2_with fail
        refine IHH.out.mono ?_
        rintro e w6 ⟨rfl,hb6⟩
        have hb7:=hbr5.trans (hb6.mono hbr5.size);have hB7:=hB5.below hb6
        simp only[leftI]
        clear hbr hBr hbr5 hB5 hb6 IHH p0 p1 p2 p3 hrr hHr;go_wp2_with fail
        go_roundw
        case rel=>exact⟨j+1,r',by omega,hrc',by go_num,rfl,hst'.out,hb7,hB7⟩
        case measure=>simp[intOf];omega
      ·have hjl:j=x.items.length:=by omega
       subst hjl;have hall:leftL x.items (c-1) (d+1)=some r:=by rw[← HLR.out,List.drop_length,leftL]
       have HALL:=Hh hall;clear hall HLR;obtain⟨hgl,hsl,hcl⟩:=leftL_spec _ _ _ _ HALL.out;have HGL:=Hh hgl;have hbl:(encL x.items).length≤1099511627776:=by have:=GoodL.bytes hgl hsl;omega
       have HBL:=Hh hbl;have h5:x.kind=5:=by simpa using b5
       have H5:=Hh h5;clear hgl hsl hcl hbl h5;go_wp2_with fail
       go_loopw [11] (fun v11 wz=>∃ i:Nat,2≤i∧i≤x.items.length+2∧v11=.int .i64 i∧ascP (x.items.drop (i-2))=ascP x.items∧Below w.heap.size w wz∧Blk wz w.heap.size 26 #[.int .i64 x.kind,.int .u64 x.n,.slice ba x.bytes.length bc,.slice ia x.items.length ic]) (fun v11 _=>(x.items.length+2)-(intOf v11).toNat)
       case atStart=>exact⟨2,by omega,by omega,rfl,rfl,hbr,hBr⟩
       case round =>
        obtain⟨i,hi2,hil2,rfl,hasc,hbs,hBs⟩:=hrel;have HA:=Hh hasc;have c0:=hBs.cell 0 rfl;have c3:=hBs.cell 3 rfl;clear hasc hbr hBr
        by_cases hlt2:i<x.items.length
        ·have hHs:Holds wr H:=hH.below hbs (Nat.le_refl _);obtain⟨ib,io,hia,hel⟩:=HX.out.items (by omega);obtain⟨y1,y2,y3,y4,p0,p1,p2,p3,hy⟩:=hel.get (i-2) (by omega);obtain⟨z1,z2,z3,z4,q0,q1,q2,q3,hz⟩:=hel.get i hlt2;subst hia;have hd:=ascP_drop x.items i hi2 hlt2;rw[HA.out]at hd;have hgy:=HGL.out.get x.items[i-2] (List.getElem_mem (by omega));have hgz:=HGL.out.get x.items[i] (List.getElem_mem hlt2);have hly:=encL_mem (List.getElem_mem (show i-2<x.items.length by omega));have hlz:=encL_mem (List.getElem_mem hlt2);have hi2':(2:Int)≤i:=by omega
         have hsub:((i:Int)-2).toNat=i-2:=by omega
         have hKs:IntKind.i64.wrap ((i:Int)-2)=(i:Int)-2:=IntWalk.i64_in _ (by omega);have h02:(0:Int)≤(i:Int)-2:=by omega
         have h03:(i:Int)-2<x.items.length:=by omega
         have h04:(i:Int)<x.items.length:=by omega
         generalize x.items[i-2]'(by omega)=y at *
         generalize x.items[i]'hlt2=z at *
         have hbl:=HBL.out;have RY:=Hh (fun w1:World=>fun h1:Holds w1 H=>ref_Raw y H _ _ y1 _ y2 y3 _ y4 w1 (d+1) hgy (by omega) hy.arg h1);have RZ:=Hh (fun w1:World=>fun h1:Holds w1 H=>ref_Raw z H _ _ z1 _ z2 z3 _ z4 w1 (d+1) hgz (by omega) hz.arg h1);have hyl:(encB y).length≤1099511627776:=by omega
         have hzl:(encB z).length≤1099511627776:=by omega
         have HD:=Hh hd;clear hgy hgz hly hlz hbl hd hel;go_upto_region 32 with fail
         have hBx:=hBs.drew;have hbx:=hbs.drew;have hHx:=hHs.drew
         refine wp_region_ways 14 (fun w'=>w'.cell? ⟨w.heap.size,3,none⟩=some (.slice (some ⟨ib,io,none⟩) x.items.length ic)∧w'.cell? ⟨ib,io+(i-2)*4,none⟩=some (.int .i64 y.kind)∧w'.cell? ⟨ib,io+(i-2)*4+1,none⟩=some (.int .u64 y.n)∧w'.cell? ⟨ib,io+(i-2)*4+2,none⟩=some (.slice y1 y.bytes.length y2)∧w'.cell? ⟨ib,io+(i-2)*4+3,none⟩=some (.slice y3 y.items.length y4)∧w'.cell? ⟨ib,io+i*4,none⟩=some (.int .i64 z.kind)∧w'.cell? ⟨ib,io+i*4+1,none⟩=some (.int .u64 z.n)∧w'.cell? ⟨ib,io+i*4+2,none⟩=some (.slice z1 z.bytes.length z2)∧w'.cell? ⟨ib,io+i*4+3,none⟩=some (.slice z3 z.items.length z4)) (by kernel_rfl) (⟨hBx.cell 3 rfl,hHx.cell p0,hHx.cell p1,hHx.cell p2,hHx.cell p3,hHx.cell q0,hHx.cell q1,hHx.cell q2,hHx.cell q3⟩) (fun hHeld=>?_)
         refine Tk 0 rfl hHeld ?_
         refine Tk 1 rfl hHeld ?_
         refine Tk 2 rfl hHeld ?_
         refine Tk 3 rfl hHeld ?_
         refine Tk 4 rfl hHeld ?_
         refine Tk 5 rfl hHeld ?_
         refine Tk 7 rfl hHeld ?_
         refine Tk 8 rfl hHeld ?_
         refine Tk 9 rfl hHeld ?_
         refine Tk 10 rfl hHeld ?_
         refine Tk 11 rfl hHeld ?_
         refine To 6 rfl fun K hK=>?_
         go_simp
         refine(RY.out _ hHx).mono ?_
         rintro e wA ⟨rA,rfl,hfA⟩
         obtain⟨AA,ca,rfl,_⟩:=hfA.own.form;have hsA:=hfA.own.src
         try have hsB:=hsB.below hfA.2
         have hHx:=hHx.below hfA.2 (Nat.le_refl _);have hBx:=hBx.below hfA.2;have hbx:=hbx.trans (hfA.2.mono hbx.size)
         refine Ko hK ?_ fun hHeld=>?_
         ·exact⟨hBx.cell 3 rfl,hHx.cell p0,hHx.cell p1,hHx.cell p2,hHx.cell p3,hHx.cell q0,hHx.cell q1,hHx.cell q2,hHx.cell q3⟩
         clear hK K
         refine To 12 rfl fun K hK=>?_
         go_simp
         refine(RZ.out _ hHx).mono ?_
         rintro e wB ⟨rB,rfl,hfB⟩
         obtain⟨BB,cb,rfl,_⟩:=hfB.own.form;have hsB:=hfB.own.src
         try have hsA:=hsA.below hfB.2
         have hHx:=hHx.below hfB.2 (Nat.le_refl _);have hBx:=hBx.below hfB.2;have hbx:=hbx.trans (hfB.2.mono hbx.size)
         refine Ko hK ?_ fun hHeld=>?_
         ·exact⟨hBx.cell 3 rfl,hHx.cell p0,hHx.cell p1,hHx.cell p2,hHx.cell p3,hHx.cell q0,hHx.cell q1,hHx.cell q2,hHx.cell q3⟩
         clear hK K
         refine To 13 rfl fun K hK=>?_
         go_simp
         refine(ref_Compare _ AA BB (encB y) (encB z) _ _ ca cb rfl rfl hyl hzl hsA hsB).mono ?_
         rintro e wC ⟨rfl,hfC⟩
         have hHx:=hHx.below hfC (Nat.le_refl _);have hBx:=hBx.below hfC;have hbx:=hbx.trans (hfC.mono hbx.size)
         refine Ko hK ?_ fun hHeld=>?_
         ·exact⟨hBx.cell 3 rfl,hHx.cell p0,hHx.cell p1,hHx.cell p2,hHx.cell p3,hHx.cell q0,hHx.cell q1,hHx.cell q2,hHx.cell q3⟩
         clear hK K
         refine To 14 rfl fun K hK=>?_
         go_simp
         refine Kz hK ?_
         clear hK K
         refine Wd ?_
         clear hHeld
         by_cases hcmp:Lib.compareBytes (encB y) (encB z)<0
         ·have hge:¬ (0:Int)≤Lib.compareBytes (encB y) (encB z):=by omega
          have HN:Hid (ascP (x.items.drop (i+2-2))=ascP x.items):=by rw[Hid,Nat.add_sub_cancel,HD.out,decide_eq_true hcmp,Bool.true_and]
          generalize Lib.compareBytes (encB y) (encB z)=cmp at *
          have HC:=Hh hcmp;clear hcmp hsA hsB hHx;go_wp2_with fail
          go_roundw
          case rel=>exact⟨i+2,by omega,by omega,by go_num,HN.out,hbx,hBx⟩
          case measure=>simp[intOf];omega
         ·have hge:(0:Int)≤Lib.compareBytes (encB y) (encB z):=by omega
          have HN:ascP x.items=false:=by rw[HD.out,decide_eq_false hcmp,Bool.false_and]
          have E:Hid (leftP x c d=none):=by
           rw[Hid,leftP_eq,if_neg (by omega),if_neg (by simp[HG.out]),HALL.out]
           simp only
           rw[if_pos ⟨H5.out,HN⟩]
          generalize Lib.compareBytes (encB y) (encB z)=cmp at *
          clear hcmp hsA hsB hHx HN;go_wp2_with fail
          go_ret
          exact⟨by rw[E.out];rfl,hbx⟩
        ·have hnl:¬ (i:Int)<x.items.length:=by omega
         have HN:ascP x.items=true:=by rw[← HA.out];exact ascP_end _ _ hi2 (by omega)
         have E:Hid (leftP x c d=some r):=by
          rw[Hid,leftP_eq,if_neg (by omega),if_neg (by simp[HG.out]),HALL.out]
          simp only
          rw[if_neg (by rintro⟨_,h⟩;rw[HN]at h;cases h)]
         clear HN hlt2;go_wp2_with fail
         go_ret
         exact⟨by rw[E.out];rfl,hbs⟩
   ·have bpos0:¬ (0:Int)<x.items.length:=by omega
    have HPOS:=Hh hpos;clear hpos;go_enter Tryz.func86,Tryz.ntmps86
    go_upto_region 22 with fail
    any_goals
     (have hbad:nodeR x d (c-1)=false:=by
       cases hq:nodeR x d (c-1) with
       | false=>rfl
       | true=>exact absurd ((nodeR_456 (by have:=HK.out;omega)).1 hq) (by have hn0:=HN0.out;have heven:=HEVEN.out;have hpos:=HPOS.out;have hk:=HK.out;omega)
      go_ret
      exact⟨by rw[left_none hbad];rfl,hb0⟩)
    all_goals
     have hgood:nodeR x d (c-1)=true:=(nodeR_456 (by have:=HK.out;omega)).2 ⟨by omega,by omega,fun h=>by have:=HK.out;omega,fun _=>HN0.out,fun h=>HEVEN.out,by omega⟩;have hi0:x.items.length=0:=by have hn0:=HN0.out;have heven:=HEVEN.out;have hpos:=HPOS.out;have hk:=HK.out;omega
     have hk:=HK.out;have E:Hid (leftP x c d=some (c-1)):=left_flat hc0 hgood hi0;have hli:¬ (0:Int)<x.items.length:=by omega
     have hl2:¬ (2:Int)<x.items.length:=by omega
     have HI:=Hh hi0;have HC:=Hh hgood;clear hi0 hk hgood;have c0:=hB.cell 0 rfl;have c3:=hB.cell 3 rfl;go_wp2_with fail
     refine wp_loop_rounds 1 ?_
     rw[rounds_succ];go_wp2_with fail
     refine wp_loop_rounds 1 ?_
     rw[rounds_succ];go_wp2_with fail
     go_ret
     exact⟨by rw[E.out,← HC1.out];rfl,hb0⟩
  ·have beven0:((x.items.length:Int)%2 != 0)=true:=by(first | (rw[bne_eq_false_iff_eq];omega) | (rw[bne_iff_ne];omega))
   have HEVEN:=Hh heven;clear heven
   by_cases hpos:0<x.items.length
   ·have bpos0:(0:Int)<x.items.length:=by omega
    have HPOS:=Hh hpos;clear hpos;go_enter Tryz.func86,Tryz.ntmps86
    go_upto_region 22 with fail
    any_goals
     (have hbad:nodeR x d (c-1)=false:=by
       cases hq:nodeR x d (c-1) with
       | false=>rfl
       | true=>exact absurd ((nodeR_456 (by have:=HK.out;omega)).1 hq) (by have hn0:=HN0.out;have heven:=HEVEN.out;have hpos:=HPOS.out;have hk:=HK.out;omega)
      go_ret
      exact⟨by rw[left_none hbad];rfl,hb0⟩)
    all_goals
     have HG:Hid (nodeR x d (c-1)=true):=(nodeR_456 (by have:=HK.out;omega)).2 ⟨by omega,by omega,fun h=>by have:=HK.out;omega,fun _=>HN0.out,fun h=>HEVEN.out,by omega⟩;have c0:=hB.cell 0 rfl;have c3:=hB.cell 3 rfl;go_wp2_with fail
     have hB0:=hB;have hbz:=hb0;go_loopw [1,157] (fun v1 v157 wr=>∃ (j r:Nat),j≤x.items.length∧r≤c∧v157=.int .i64 j∧v1=.int .i64 r∧leftL (x.items.drop j) r (d+1)=leftL x.items (c-1) (d+1)∧Below w.heap.size w wr∧Blk wr w.heap.size 26 #[.int .i64 x.kind,.int .u64 x.n,.slice ba x.bytes.length bc,.slice ia x.items.length ic]) (fun _ v157 _=>x.items.length-(intOf v157).toNat)
     case atStart=>exact⟨0,c-1,Nat.zero_le _,by omega,rfl,by rw[HC1.out],rfl,hbz,hB0⟩
     case round =>
      obtain⟨j,r,hj,hrc,rfl,rfl,hlr,hbr,hBr⟩:=hrel;have HLR:=Hh hlr;clear hlr
      by_cases hlt:j<x.items.length
      ·have hHr:Holds wr H:=hH.below hbr (Nat.le_refl _);obtain⟨ib,io,hia,hel⟩:=HX.out.items (by omega);obtain⟨eba,ebc,eia,eic,q0,q1,q2,q3,hex⟩:=hel.get j hlt;subst hia;have p0:=hHr.cell q0;have p1:=hHr.cell q1;have p2:=hHr.cell q2;have p3:=hHr.cell q3;have hstep:leftL (x.items.drop j) r (d+1)=match leftP x.items[j] r (d+1) with | none=>none | some r'=>leftL (x.items.drop (j+1)) r' (d+1):=by rw[List.drop_eq_getElem_cons hlt,leftL];cases leftP x.items[j] r (d+1) <;> rfl
       have hst:=Hh (hstep.symm.trans HLR.out);clear hstep;have IHC:=ih x.items[j] (cnt_items x j hlt) H hT _ _ eba _ ebc eia _ eic (wr.alloc (itemO x.items[j] eba ebc eia eic)) r (d+1) hex.arg (hHr.alloc _) (by omega) (by omega);rw[show((d+1:Nat):Int)=(d:Int)+1 by omega]at IHC;have IHH:=Hh IHC;have hbr5:=hbr.alloc hbr.size (itemO x.items[j] eba ebc eia eic);have hB5:=hBr.alloc (itemO x.items[j] eba ebc eia eic);clear IHC q0 q1 q2 q3
       cases hq:leftP x.items[j] r (d+1) with
       | none =>
        rw[hq]at IHH hst;have E:Hid (leftP x c d=none):=by rw[Hid,leftP_eq,if_neg (by omega),if_neg (by simp[HG.out]),← hst.out]
        clear hq hst;go_wp2_with fail
        refine IHH.out.mono ?_
        rintro e w6 ⟨rfl,hb6⟩
        have hb7:=hbr5.trans (hb6.mono hbr5.size)
        simp only[leftI]
        go_wp2_with fail
        go_ret
        exact⟨by rw[E.out];rfl,hb7⟩
       | some r' =>
        rw[hq]at IHH hst;have hrr:=(left_spec _ _ _ _ hq).2.2;have hst':Hid (leftL (x.items.drop (j+1)) r' (d+1)=leftL x.items (c-1) (d+1)):=hst.out;clear hq hst;have hr0:(0:Int)≤(r':Int):=by omega
        have hrc':r'≤c:=by omega
        go_wp2_with fail
        refine IHH.out.mono ?_
        rintro e w6 ⟨rfl,hb6⟩
        have hb7:=hbr5.trans (hb6.mono hbr5.size);have hB7:=hB5.below hb6
        simp only[leftI]
        clear hbr hBr hbr5 hB5 hb6 IHH p0 p1 p2 p3 hrr hHr;go_wp2_with fail
        go_roundw
        case rel=>exact⟨j+1,r',by omega,hrc',by go_num,rfl,hst'.out,hb7,hB7⟩
        case measure=>simp[intOf];omega
      ·have hjl:j=x.items.length:=by omega
       subst hjl;have hall:leftL x.items (c-1) (d+1)=some r:=by rw[← HLR.out,List.drop_length,leftL]
       have HALL:=Hh hall;clear hall HLR;obtain⟨hgl,hsl,hcl⟩:=leftL_spec _ _ _ _ HALL.out;have HGL:=Hh hgl;have hbl:(encL x.items).length≤1099511627776:=by have:=GoodL.bytes hgl hsl;omega
       have HBL:=Hh hbl;have h5:x.kind=5:=by simpa using b5
       have H5:=Hh h5;clear hgl hsl hcl hbl h5;go_wp2_with fail
       go_loopw [11] (fun v11 wz=>∃ i:Nat,2≤i∧i≤x.items.length+2∧v11=.int .i64 i∧ascP (x.items.drop (i-2))=ascP x.items∧Below w.heap.size w wz∧Blk wz w.heap.size 26 #[.int .i64 x.kind,.int .u64 x.n,.slice ba x.bytes.length bc,.slice ia x.items.length ic]) (fun v11 _=>(x.items.length+2)-(intOf v11).toNat)
       case atStart=>exact⟨2,by omega,by omega,rfl,rfl,hbr,hBr⟩
       case round =>
        obtain⟨i,hi2,hil2,rfl,hasc,hbs,hBs⟩:=hrel;have HA:=Hh hasc;have c0:=hBs.cell 0 rfl;have c3:=hBs.cell 3 rfl;clear hasc hbr hBr
        by_cases hlt2:i<x.items.length
        ·have hHs:Holds wr H:=hH.below hbs (Nat.le_refl _);obtain⟨ib,io,hia,hel⟩:=HX.out.items (by omega);obtain⟨y1,y2,y3,y4,p0,p1,p2,p3,hy⟩:=hel.get (i-2) (by omega);obtain⟨z1,z2,z3,z4,q0,q1,q2,q3,hz⟩:=hel.get i hlt2;subst hia;have hd:=ascP_drop x.items i hi2 hlt2;rw[HA.out]at hd;have hgy:=HGL.out.get x.items[i-2] (List.getElem_mem (by omega));have hgz:=HGL.out.get x.items[i] (List.getElem_mem hlt2);have hly:=encL_mem (List.getElem_mem (show i-2<x.items.length by omega));have hlz:=encL_mem (List.getElem_mem hlt2);have hi2':(2:Int)≤i:=by omega
         have hsub:((i:Int)-2).toNat=i-2:=by omega
         have hKs:IntKind.i64.wrap ((i:Int)-2)=(i:Int)-2:=IntWalk.i64_in _ (by omega);have h02:(0:Int)≤(i:Int)-2:=by omega
         have h03:(i:Int)-2<x.items.length:=by omega
         have h04:(i:Int)<x.items.length:=by omega
         generalize x.items[i-2]'(by omega)=y at *
         generalize x.items[i]'hlt2=z at *
         have hbl:=HBL.out;have RY:=Hh (fun w1:World=>fun h1:Holds w1 H=>ref_Raw y H _ _ y1 _ y2 y3 _ y4 w1 (d+1) hgy (by omega) hy.arg h1);have RZ:=Hh (fun w1:World=>fun h1:Holds w1 H=>ref_Raw z H _ _ z1 _ z2 z3 _ z4 w1 (d+1) hgz (by omega) hz.arg h1);have hyl:(encB y).length≤1099511627776:=by omega
         have hzl:(encB z).length≤1099511627776:=by omega
         have HD:=Hh hd;clear hgy hgz hly hlz hbl hd hel;go_upto_region 32 with fail
         have hBx:=hBs.drew;have hbx:=hbs.drew;have hHx:=hHs.drew
         refine wp_region_ways 14 (fun w'=>w'.cell? ⟨w.heap.size,3,none⟩=some (.slice (some ⟨ib,io,none⟩) x.items.length ic)∧w'.cell? ⟨ib,io+(i-2)*4,none⟩=some (.int .i64 y.kind)∧w'.cell? ⟨ib,io+(i-2)*4+1,none⟩=some (.int .u64 y.n)∧w'.cell? ⟨ib,io+(i-2)*4+2,none⟩=some (.slice y1 y.bytes.length y2)∧w'.cell? ⟨ib,io+(i-2)*4+3,none⟩=some (.slice y3 y.items.length y4)∧w'.cell? ⟨ib,io+i*4,none⟩=some (.int .i64 z.kind)∧w'.cell? ⟨ib,io+i*4+1,none⟩=some (.int .u64 z.n)∧w'.cell? ⟨ib,io+i*4+2,none⟩=some (.slice z1 z.bytes.length z2)∧w'.cell? ⟨ib,io+i*4+3,none⟩=some (.slice z3 z.items.length z4)) (by kernel_rfl) (⟨hBx.cell 3 rfl,hHx.cell p0,hHx.cell p1,hHx.cell p2,hHx.cell p3,hHx.cell q0,hHx.cell q1,hHx.cell q2,hHx.cell q3⟩) (fun hHeld=>?_)
         refine Tk 0 rfl hHeld ?_
         refine Tk 1 rfl hHeld ?_
         refine Tk 2 rfl hHeld ?_
         refine Tk 3 rfl hHeld ?_
         refine Tk 4 rfl hHeld ?_
         refine Tk 5 rfl hHeld ?_
         refine Tk 7 rfl hHeld ?_
         refine Tk 8 rfl hHeld ?_
         refine Tk 9 rfl hHeld ?_
         refine Tk 10 rfl hHeld ?_
         refine Tk 11 rfl hHeld ?_
         refine To 6 rfl fun K hK=>?_
         go_simp
         refine(RY.out _ hHx).mono ?_
         rintro e wA ⟨rA,rfl,hfA⟩
         obtain⟨AA,ca,rfl,_⟩:=hfA.own.form;have hsA:=hfA.own.src
         try have hsB:=hsB.below hfA.2
         have hHx:=hHx.below hfA.2 (Nat.le_refl _);have hBx:=hBx.below hfA.2;have hbx:=hbx.trans (hfA.2.mono hbx.size)
         refine Ko hK ?_ fun hHeld=>?_
         ·exact⟨hBx.cell 3 rfl,hHx.cell p0,hHx.cell p1,hHx.cell p2,hHx.cell p3,hHx.cell q0,hHx.cell q1,hHx.cell q2,hHx.cell q3⟩
         clear hK K
         refine To 12 rfl fun K hK=>?_
         go_simp
         refine(RZ.out _ hHx).mono ?_
         rintro e wB ⟨rB,rfl,hfB⟩
         obtain⟨BB,cb,rfl,_⟩:=hfB.own.form;have hsB:=hfB.own.src
         try have hsA:=hsA.below hfB.2
         have hHx:=hHx.below hfB.2 (Nat.le_refl _);have hBx:=hBx.below hfB.2;have hbx:=hbx.trans (hfB.2.mono hbx.size)
         refine Ko hK ?_ fun hHeld=>?_
         ·exact⟨hBx.cell 3 rfl,hHx.cell p0,hHx.cell p1,hHx.cell p2,hHx.cell p3,hHx.cell q0,hHx.cell q1,hHx.cell q2,hHx.cell q3⟩
         clear hK K
         refine To 13 rfl fun K hK=>?_
         go_simp
         refine(ref_Compare _ AA BB (encB y) (encB z) _ _ ca cb rfl rfl hyl hzl hsA hsB).mono ?_
         rintro e wC ⟨rfl,hfC⟩
         have hHx:=hHx.below hfC (Nat.le_refl _);have hBx:=hBx.below hfC;have hbx:=hbx.trans (hfC.mono hbx.size)
         refine Ko hK ?_ fun hHeld=>?_
         ·exact⟨hBx.cell 3 rfl,hHx.cell p0,hHx.cell p1,hHx.cell p2,hHx.cell p3,hHx.cell q0,hHx.cell q1,hHx.cell q2,hHx.cell q3⟩
         clear hK K
         refine To 14 rfl fun K hK=>?_
         go_simp
         refine Kz hK ?_
         clear hK K
         refine Wd ?_
         clear hHeld
         by_cases hcmp:Lib.compareBytes (encB y) (encB z)<0
         ·have hge:¬ (0:Int)≤Lib.compareBytes (encB y) (encB z):=by omega
          have HN:Hid (ascP (x.items.drop (i+2-2))=ascP x.items):=by rw[Hid,Nat.add_sub_cancel,HD.out,decide_eq_true hcmp,Bool.true_and]
          generalize Lib.compareBytes (encB y) (encB z)=cmp at *
          have HC:=Hh hcmp;clear hcmp hsA hsB hHx;go_wp2_with fail
          go_roundw
          case rel=>exact⟨i+2,by omega,by omega,by go_num,HN.out,hbx,hBx⟩
          case measure=>simp[intOf];omega
         ·have hge:(0:Int)≤Lib.compareBytes (encB y) (encB z):=by omega
          have HN:ascP x.items=false:=by rw[HD.out,decide_eq_false hcmp,Bool.false_and]
          have E:Hid (leftP x c d=none):=by
           rw[Hid,leftP_eq,if_neg (by omega),if_neg (by simp[HG.out]),HALL.out]
           simp only
           rw[if_pos ⟨H5.out,HN⟩]
          generalize Lib.compareBytes (encB y) (encB z)=cmp at *
          clear hcmp hsA hsB hHx HN;go_wp2_with fail
          go_ret
          exact⟨by rw[E.out];rfl,hbx⟩
        ·have hnl:¬ (i:Int)<x.items.length:=by omega
         have HN:ascP x.items=true:=by rw[← HA.out];exact ascP_end _ _ hi2 (by omega)
         have E:Hid (leftP x c d=some r):=by
          rw[Hid,leftP_eq,if_neg (by omega),if_neg (by simp[HG.out]),HALL.out]
          simp only
          rw[if_neg (by rintro⟨_,h⟩;rw[HN]at h;cases h)]
         clear HN hlt2;go_wp2_with fail
         go_ret
         exact⟨by rw[E.out];rfl,hbs⟩
   ·have bpos0:¬ (0:Int)<x.items.length:=by omega
    have HPOS:=Hh hpos;clear hpos;go_enter Tryz.func86,Tryz.ntmps86
    go_upto_region 22 with fail
    any_goals
     (have hbad:nodeR x d (c-1)=false:=by
       cases hq:nodeR x d (c-1) with
       | false=>rfl
       | true=>exact absurd ((nodeR_456 (by have:=HK.out;omega)).1 hq) (by have hn0:=HN0.out;have heven:=HEVEN.out;have hpos:=HPOS.out;have hk:=HK.out;omega)
      go_ret
      exact⟨by rw[left_none hbad];rfl,hb0⟩)
    all_goals
     have hgood:nodeR x d (c-1)=true:=(nodeR_456 (by have:=HK.out;omega)).2 ⟨by omega,by omega,fun h=>by have:=HK.out;omega,fun _=>HN0.out,fun h=>HEVEN.out,by omega⟩;have hi0:x.items.length=0:=by have hn0:=HN0.out;have heven:=HEVEN.out;have hpos:=HPOS.out;have hk:=HK.out;omega
     have hk:=HK.out;have E:Hid (leftP x c d=some (c-1)):=left_flat hc0 hgood hi0;have hli:¬ (0:Int)<x.items.length:=by omega
     have hl2:¬ (2:Int)<x.items.length:=by omega
     have HI:=Hh hi0;have HC:=Hh hgood;clear hi0 hk hgood;have c0:=hB.cell 0 rfl;have c3:=hB.cell 3 rfl;go_wp2_with fail
     refine wp_loop_rounds 1 ?_
     rw[rounds_succ];go_wp2_with fail
     refine wp_loop_rounds 1 ?_
     rw[rounds_succ];go_wp2_with fail
     go_ret
     exact⟨by rw[E.out,← HC1.out];rfl,hb0⟩
theorem left_k3 (x:Itm) (hk:x.kind=3) {H:Snap}(hT:Tabs H) (ih:∀ y:Itm,cnt y<cnt x→LeftSaid y) {ba:Option Addr}{bc:Nat}{ia:Option Addr}{ic:Nat}(hx:IsItem H ba bc ia ic x) (w:World) (hH:Holds w H) (c d:Nat) (hc0:0<c) (hc:c≤65536) (hd:d≤65536) :
  Calls Tryz.prog 86 #[itemV x ba bc ia ic,.int .i64 c,.int .i64 d] w fun e w'=>e=.returned (.int .i64 (leftI (leftP x c d)))∧Below w.heap.size w w':=by
 have HX:=Hh hx;have hbd:=hx.bounds;have hB:=Blk.new w 26 #[.int .i64 x.kind,.int .u64 x.n,.slice ba x.bytes.length bc,.slice ia x.items.length ic];have hb0:=below_box w (itemO x ba bc ia ic);have hc1:((c-1:Nat):Int)=(c:Int)-1:=by omega
 have hbl:x.bytes.length≤9223372036854775807:=by omega
 have hil:x.items.length≤9223372036854775807:=by omega
 have HN:=Hh hbd.2.2.1;have hci:¬ (c:Int)<1:=by omega
 have k0:¬ x.kind<0:=by omega
 have k8:¬ 8<x.kind:=by omega
 have HK:=Hh hk;have HC1:=Hh hc1;have V:=Hh (utf8_Valid hT (w.alloc (itemO x ba bc ia ic)) (hH.alloc _) ba x.bytes _ bc rfl hx.bytes);clear hx hbd hc1;obtain⟨b0,b1,b2,b3,b4,b5,b6,b7,b8⟩:=kinds3 hk;clear hk
 by_cases hn0:x.n=0
 ·have bn00:((x.n:Int) != 0)=false:=by simp[hn0]
  have bn01:(x.n=0)=True:=by first | exact eq_true hn0 | exact eq_false hn0
  have HN0:=Hh hn0;clear hn0
  by_cases hval:Lib.validD x.bytes=true
  ·have bval0:Lib.validD x.bytes=true:=by simpa using hval
   have HVAL:=Hh hval;clear hval;go_enter Tryz.func86,Tryz.ntmps86
   rw[bval0]at V;go_upto_region 22 with (go_at_call 109;refine V.out.mono ?_;rintro e wv ⟨rfl,hbv⟩;have hB:=hB.below hbv;have hb0:=hb0.trans (hbv.mono hb0.size);have e0:=hB.cell 0 rfl;have e1:=hB.cell 1 rfl;have e2:=hB.cell 2 rfl;have e3:=hB.cell 3 rfl)
   any_goals
    (have hbad:nodeR x d (c-1)=false:=by
      cases hq:nodeR x d (c-1) with
      | false=>rfl
      | true=>exact absurd ((nodeR_3 HK.out).1 hq) (by have hn0:=HN0.out;have hval:=HVAL.out;rintro⟨p1,p2,p3,p4⟩;first | omega | (rw[bval0]at p4;cases p4))
     go_ret
     exact⟨by rw[left_none hbad];rfl,hb0⟩)
   all_goals
    have hgood:nodeR x d (c-1)=true:=(nodeR_3 HK.out).2 ⟨HN0.out,by omega,by omega,bval0⟩;have hi0:x.items.length=0:=by have hn0:=HN0.out;have hval:=HVAL.out;omega
    have hk:=HK.out;have E:Hid (leftP x c d=some (c-1)):=left_flat hc0 hgood hi0;have hli:¬ (0:Int)<x.items.length:=by omega
    have hl2:¬ (2:Int)<x.items.length:=by omega
    have HI:=Hh hi0;have HC:=Hh hgood;clear hi0 hk hgood;have c0:=hB.cell 0 rfl;have c3:=hB.cell 3 rfl;go_wp2_with fail
    refine wp_loop_rounds 1 ?_
    rw[rounds_succ];go_wp2_with fail
    refine wp_loop_rounds 1 ?_
    rw[rounds_succ];go_wp2_with fail
    go_ret
    exact⟨by rw[E.out,← HC1.out];rfl,hb0⟩
  ·have bval0:Lib.validD x.bytes=false:=by simpa using hval
   have HVAL:=Hh hval;clear hval;go_enter Tryz.func86,Tryz.ntmps86
   rw[bval0]at V;go_upto_region 22 with (go_at_call 109;refine V.out.mono ?_;rintro e wv ⟨rfl,hbv⟩;have hB:=hB.below hbv;have hb0:=hb0.trans (hbv.mono hb0.size);have e0:=hB.cell 0 rfl;have e1:=hB.cell 1 rfl;have e2:=hB.cell 2 rfl;have e3:=hB.cell 3 rfl)
   any_goals
    (have hbad:nodeR x d (c-1)=false:=by
      cases hq:nodeR x d (c-1) with
      | false=>rfl
      | true=>exact absurd ((nodeR_3 HK.out).1 hq) (by have hn0:=HN0.out;have hval:=HVAL.out;rintro⟨p1,p2,p3,p4⟩;first | omega | (rw[bval0]at p4;cases p4))
     go_ret
     exact⟨by rw[left_none hbad];rfl,hb0⟩)
   all_goals
    have hgood:nodeR x d (c-1)=true:=(nodeR_3 HK.out).2 ⟨HN0.out,by omega,by omega,bval0⟩;have hi0:x.items.length=0:=by have hn0:=HN0.out;have hval:=HVAL.out;omega
    have hk:=HK.out;have E:Hid (leftP x c d=some (c-1)):=left_flat hc0 hgood hi0;have hli:¬ (0:Int)<x.items.length:=by omega
    have hl2:¬ (2:Int)<x.items.length:=by omega
    have HI:=Hh hi0;have HC:=Hh hgood;clear hi0 hk hgood;have c0:=hB.cell 0 rfl;have c3:=hB.cell 3 rfl;go_wp2_with fail
    refine wp_loop_rounds 1 ?_
    rw[rounds_succ];go_wp2_with fail
    refine wp_loop_rounds 1 ?_
    rw[rounds_succ];go_wp2_with fail
    go_ret
    exact⟨by rw[E.out,← HC1.out];rfl,hb0⟩
 ·have bn00:((x.n:Int) != 0)=true:=by simp[hn0]
  have bn01:(x.n=0)=False:=by first | exact eq_true hn0 | exact eq_false hn0
  have HN0:=Hh hn0;clear hn0
  by_cases hval:Lib.validD x.bytes=true
  ·have bval0:Lib.validD x.bytes=true:=by simpa using hval
   have HVAL:=Hh hval;clear hval;go_enter Tryz.func86,Tryz.ntmps86
   rw[bval0]at V;go_upto_region 22 with (go_at_call 109;refine V.out.mono ?_;rintro e wv ⟨rfl,hbv⟩;have hB:=hB.below hbv;have hb0:=hb0.trans (hbv.mono hb0.size);have e0:=hB.cell 0 rfl;have e1:=hB.cell 1 rfl;have e2:=hB.cell 2 rfl;have e3:=hB.cell 3 rfl)
   any_goals
    (have hbad:nodeR x d (c-1)=false:=by
      cases hq:nodeR x d (c-1) with
      | false=>rfl
      | true=>exact absurd ((nodeR_3 HK.out).1 hq) (by have hn0:=HN0.out;have hval:=HVAL.out;rintro⟨p1,p2,p3,p4⟩;first | omega | (rw[bval0]at p4;cases p4))
     go_ret
     exact⟨by rw[left_none hbad];rfl,hb0⟩)
   all_goals
    have hgood:nodeR x d (c-1)=true:=(nodeR_3 HK.out).2 ⟨HN0.out,by omega,by omega,bval0⟩;have hi0:x.items.length=0:=by have hn0:=HN0.out;have hval:=HVAL.out;omega
    have hk:=HK.out;have E:Hid (leftP x c d=some (c-1)):=left_flat hc0 hgood hi0;have hli:¬ (0:Int)<x.items.length:=by omega
    have hl2:¬ (2:Int)<x.items.length:=by omega
    have HI:=Hh hi0;have HC:=Hh hgood;clear hi0 hk hgood;have c0:=hB.cell 0 rfl;have c3:=hB.cell 3 rfl;go_wp2_with fail
    refine wp_loop_rounds 1 ?_
    rw[rounds_succ];go_wp2_with fail
    refine wp_loop_rounds 1 ?_
    rw[rounds_succ];go_wp2_with fail
    go_ret
    exact⟨by rw[E.out,← HC1.out];rfl,hb0⟩
  ·have bval0:Lib.validD x.bytes=false:=by simpa using hval
   have HVAL:=Hh hval;clear hval;go_enter Tryz.func86,Tryz.ntmps86
   rw[bval0]at V;go_upto_region 22 with (go_at_call 109;refine V.out.mono ?_;rintro e wv ⟨rfl,hbv⟩;have hB:=hB.below hbv;have hb0:=hb0.trans (hbv.mono hb0.size);have e0:=hB.cell 0 rfl;have e1:=hB.cell 1 rfl;have e2:=hB.cell 2 rfl;have e3:=hB.cell 3 rfl)
   any_goals
    (have hbad:nodeR x d (c-1)=false:=by
      cases hq:nodeR x d (c-1) with
      | false=>rfl
      | true=>exact absurd ((nodeR_3 HK.out).1 hq) (by have hn0:=HN0.out;have hval:=HVAL.out;rintro⟨p1,p2,p3,p4⟩;first | omega | (rw[bval0]at p4;cases p4))
     go_ret
     exact⟨by rw[left_none hbad];rfl,hb0⟩)
   all_goals
    have hgood:nodeR x d (c-1)=true:=(nodeR_3 HK.out).2 ⟨HN0.out,by omega,by omega,bval0⟩;have hi0:x.items.length=0:=by have hn0:=HN0.out;have hval:=HVAL.out;omega
    have hk:=HK.out;have E:Hid (leftP x c d=some (c-1)):=left_flat hc0 hgood hi0;have hli:¬ (0:Int)<x.items.length:=by omega
    have hl2:¬ (2:Int)<x.items.length:=by omega
    have HI:=Hh hi0;have HC:=Hh hgood;clear hi0 hk hgood;have c0:=hB.cell 0 rfl;have c3:=hB.cell 3 rfl;go_wp2_with fail
    refine wp_loop_rounds 1 ?_
    rw[rounds_succ];go_wp2_with fail
    refine wp_loop_rounds 1 ?_
    rw[rounds_succ];go_wp2_with fail
    go_ret
    exact⟨by rw[E.out,← HC1.out];rfl,hb0⟩
theorem left_k8 (x:Itm) (hk:x.kind=8) {H:Snap}(hT:Tabs H) (ih:∀ y:Itm,cnt y<cnt x→LeftSaid y) {ba:Option Addr}{bc:Nat}{ia:Option Addr}{ic:Nat}(hx:IsItem H ba bc ia ic x) (w:World) (hH:Holds w H) (c d:Nat) (hc0:0<c) (hc:c≤65536) (hd:d≤65536) :
  Calls Tryz.prog 86 #[itemV x ba bc ia ic,.int .i64 c,.int .i64 d] w fun e w'=>e=.returned (.int .i64 (leftI (leftP x c d)))∧Below w.heap.size w w':=by
 have HX:=Hh hx;have hbd:=hx.bounds;have hB:=Blk.new w 26 #[.int .i64 x.kind,.int .u64 x.n,.slice ba x.bytes.length bc,.slice ia x.items.length ic];have hb0:=below_box w (itemO x ba bc ia ic);have hc1:((c-1:Nat):Int)=(c:Int)-1:=by omega
 have hbl:x.bytes.length≤9223372036854775807:=by omega
 have hil:x.items.length≤9223372036854775807:=by omega
 have HN:=Hh hbd.2.2.1;have hci:¬ (c:Int)<1:=by omega
 have k0:¬ x.kind<0:=by omega
 have k8:¬ 8<x.kind:=by omega
 have HK:=Hh hk;have HC1:=Hh hc1;have V:=Hh (ref_IsNaN x.n hbd.2.2.1 (w.alloc (itemO x ba bc ia ic)));clear hx hbd hc1;obtain⟨b0,b1,b2,b3,b4,b5,b6,b7,b8⟩:=kinds8 hk;clear hk
 by_cases hn0:x.n=0
 ·have bn00:((x.n:Int) != 0)=false:=by simp[hn0]
  have bn01:(x.n=0)=True:=by first | exact eq_true hn0 | exact eq_false hn0
  have HN0:=Hh hn0;clear hn0
  by_cases hnan:isNaN x.n=true
  ·have bnan0:isNaN x.n=true:=by simpa using hnan
   have HNAN:=Hh hnan;clear hnan
   by_cases hnn:x.n=notNumber
   ·have bnn0:((x.n:Int) != 9221120237041090560)=false:=by(first | (rw[bne_eq_false_iff_eq];unfold notNumber at hnn;omega) | (rw[bne_iff_ne];unfold notNumber at hnn;omega))
    have HNN:=Hh hnn;clear hnn;go_enter Tryz.func86,Tryz.ntmps86
    rw[bnan0]at V;go_upto_region 22 with (go_at_call 96;refine V.out.mono ?_;rintro e wv ⟨rfl,rfl⟩)
    any_goals
     (have hbad:nodeR x d (c-1)=false:=by
       cases hq:nodeR x d (c-1) with
       | false=>rfl
       | true=>exact absurd ((nodeR_8 HK.out).1 hq) (by have hn0:=HN0.out;have hnan:=HNAN.out;have hnn:=HNN.out;rintro⟨p1,p2,p3⟩;first | omega | (rcases p3 with p3 | p3;(rw[bnan0]at p3;cases p3);exact hnn p3))
      go_ret
      exact⟨by rw[left_none hbad];rfl,hb0⟩)
    all_goals
     have hgood:nodeR x d (c-1)=true:=(nodeR_8 HK.out).2 ⟨by omega,by omega,by first | exact .inl bnan0 | exact .inr HNN.out⟩;have hi0:x.items.length=0:=by have hn0:=HN0.out;have hnan:=HNAN.out;have hnn:=HNN.out;omega
     have hk:=HK.out;have E:Hid (leftP x c d=some (c-1)):=left_flat hc0 hgood hi0;have hli:¬ (0:Int)<x.items.length:=by omega
     have hl2:¬ (2:Int)<x.items.length:=by omega
     have HI:=Hh hi0;have HC:=Hh hgood;clear hi0 hk hgood;have c0:=hB.cell 0 rfl;have c3:=hB.cell 3 rfl;go_wp2_with fail
     refine wp_loop_rounds 1 ?_
     rw[rounds_succ];go_wp2_with fail
     refine wp_loop_rounds 1 ?_
     rw[rounds_succ];go_wp2_with fail
     go_ret
     exact⟨by rw[E.out,← HC1.out];rfl,hb0⟩
   ·have bnn0:((x.n:Int) != 9221120237041090560)=true:=by(first | (rw[bne_eq_false_iff_eq];unfold notNumber at hnn;omega) | (rw[bne_iff_ne];unfold notNumber at hnn;omega))
    have HNN:=Hh hnn;clear hnn;go_enter Tryz.func86,Tryz.ntmps86
    rw[bnan0]at V;go_upto_region 22 with (go_at_call 96;refine V.out.mono ?_;rintro e wv ⟨rfl,rfl⟩)
    any_goals
     (have hbad:nodeR x d (c-1)=false:=by
       cases hq:nodeR x d (c-1) with
       | false=>rfl
       | true=>exact absurd ((nodeR_8 HK.out).1 hq) (by have hn0:=HN0.out;have hnan:=HNAN.out;have hnn:=HNN.out;rintro⟨p1,p2,p3⟩;first | omega | (rcases p3 with p3 | p3;(rw[bnan0]at p3;cases p3);exact hnn p3))
      go_ret
      exact⟨by rw[left_none hbad];rfl,hb0⟩)
    all_goals
     have hgood:nodeR x d (c-1)=true:=(nodeR_8 HK.out).2 ⟨by omega,by omega,by first | exact .inl bnan0 | exact .inr HNN.out⟩;have hi0:x.items.length=0:=by have hn0:=HN0.out;have hnan:=HNAN.out;have hnn:=HNN.out;omega
     have hk:=HK.out;have E:Hid (leftP x c d=some (c-1)):=left_flat hc0 hgood hi0;have hli:¬ (0:Int)<x.items.length:=by omega
     have hl2:¬ (2:Int)<x.items.length:=by omega
     have HI:=Hh hi0;have HC:=Hh hgood;clear hi0 hk hgood;have c0:=hB.cell 0 rfl;have c3:=hB.cell 3 rfl;go_wp2_with fail
     refine wp_loop_rounds 1 ?_
     rw[rounds_succ];go_wp2_with fail
     refine wp_loop_rounds 1 ?_
     rw[rounds_succ];go_wp2_with fail
     go_ret
     exact⟨by rw[E.out,← HC1.out];rfl,hb0⟩
  ·have bnan0:isNaN x.n=false:=by simpa using hnan
   have HNAN:=Hh hnan;clear hnan
   by_cases hnn:x.n=notNumber
   ·have bnn0:((x.n:Int) != 9221120237041090560)=false:=by(first | (rw[bne_eq_false_iff_eq];unfold notNumber at hnn;omega) | (rw[bne_iff_ne];unfold notNumber at hnn;omega))
    have HNN:=Hh hnn;clear hnn;go_enter Tryz.func86,Tryz.ntmps86
    rw[bnan0]at V;go_upto_region 22 with (go_at_call 96;refine V.out.mono ?_;rintro e wv ⟨rfl,rfl⟩)
    any_goals
     (have hbad:nodeR x d (c-1)=false:=by
       cases hq:nodeR x d (c-1) with
       | false=>rfl
       | true=>exact absurd ((nodeR_8 HK.out).1 hq) (by have hn0:=HN0.out;have hnan:=HNAN.out;have hnn:=HNN.out;rintro⟨p1,p2,p3⟩;first | omega | (rcases p3 with p3 | p3;(rw[bnan0]at p3;cases p3);exact hnn p3))
      go_ret
      exact⟨by rw[left_none hbad];rfl,hb0⟩)
    all_goals
     have hgood:nodeR x d (c-1)=true:=(nodeR_8 HK.out).2 ⟨by omega,by omega,by first | exact .inl bnan0 | exact .inr HNN.out⟩;have hi0:x.items.length=0:=by have hn0:=HN0.out;have hnan:=HNAN.out;have hnn:=HNN.out;omega
     have hk:=HK.out;have E:Hid (leftP x c d=some (c-1)):=left_flat hc0 hgood hi0;have hli:¬ (0:Int)<x.items.length:=by omega
     have hl2:¬ (2:Int)<x.items.length:=by omega
     have HI:=Hh hi0;have HC:=Hh hgood;clear hi0 hk hgood;have c0:=hB.cell 0 rfl;have c3:=hB.cell 3 rfl;go_wp2_with fail
     refine wp_loop_rounds 1 ?_
     rw[rounds_succ];go_wp2_with fail
     refine wp_loop_rounds 1 ?_
     rw[rounds_succ];go_wp2_with fail
     go_ret
     exact⟨by rw[E.out,← HC1.out];rfl,hb0⟩
   ·have bnn0:((x.n:Int) != 9221120237041090560)=true:=by(first | (rw[bne_eq_false_iff_eq];unfold notNumber at hnn;omega) | (rw[bne_iff_ne];unfold notNumber at hnn;omega))
    have HNN:=Hh hnn;clear hnn;go_enter Tryz.func86,Tryz.ntmps86
    rw[bnan0]at V;go_upto_region 22 with (go_at_call 96;refine V.out.mono ?_;rintro e wv ⟨rfl,rfl⟩)
    any_goals
     (have hbad:nodeR x d (c-1)=false:=by
       cases hq:nodeR x d (c-1) with
       | false=>rfl
       | true=>exact absurd ((nodeR_8 HK.out).1 hq) (by have hn0:=HN0.out;have hnan:=HNAN.out;have hnn:=HNN.out;rintro⟨p1,p2,p3⟩;first | omega | (rcases p3 with p3 | p3;(rw[bnan0]at p3;cases p3);exact hnn p3))
      go_ret
      exact⟨by rw[left_none hbad];rfl,hb0⟩)
    all_goals
     have hgood:nodeR x d (c-1)=true:=(nodeR_8 HK.out).2 ⟨by omega,by omega,by first | exact .inl bnan0 | exact .inr HNN.out⟩;have hi0:x.items.length=0:=by have hn0:=HN0.out;have hnan:=HNAN.out;have hnn:=HNN.out;omega
     have hk:=HK.out;have E:Hid (leftP x c d=some (c-1)):=left_flat hc0 hgood hi0;have hli:¬ (0:Int)<x.items.length:=by omega
     have hl2:¬ (2:Int)<x.items.length:=by omega
     have HI:=Hh hi0;have HC:=Hh hgood;clear hi0 hk hgood;have c0:=hB.cell 0 rfl;have c3:=hB.cell 3 rfl;go_wp2_with fail
     refine wp_loop_rounds 1 ?_
     rw[rounds_succ];go_wp2_with fail
     refine wp_loop_rounds 1 ?_
     rw[rounds_succ];go_wp2_with fail
     go_ret
     exact⟨by rw[E.out,← HC1.out];rfl,hb0⟩
 ·have bn00:((x.n:Int) != 0)=true:=by simp[hn0]
  have bn01:(x.n=0)=False:=by first | exact eq_true hn0 | exact eq_false hn0
  have HN0:=Hh hn0;clear hn0
  by_cases hnan:isNaN x.n=true
  ·have bnan0:isNaN x.n=true:=by simpa using hnan
   have HNAN:=Hh hnan;clear hnan
   by_cases hnn:x.n=notNumber
   ·have bnn0:((x.n:Int) != 9221120237041090560)=false:=by(first | (rw[bne_eq_false_iff_eq];unfold notNumber at hnn;omega) | (rw[bne_iff_ne];unfold notNumber at hnn;omega))
    have HNN:=Hh hnn;clear hnn;go_enter Tryz.func86,Tryz.ntmps86
    rw[bnan0]at V;go_upto_region 22 with (go_at_call 96;refine V.out.mono ?_;rintro e wv ⟨rfl,rfl⟩)
    any_goals
     (have hbad:nodeR x d (c-1)=false:=by
       cases hq:nodeR x d (c-1) with
       | false=>rfl
       | true=>exact absurd ((nodeR_8 HK.out).1 hq) (by have hn0:=HN0.out;have hnan:=HNAN.out;have hnn:=HNN.out;rintro⟨p1,p2,p3⟩;first | omega | (rcases p3 with p3 | p3;(rw[bnan0]at p3;cases p3);exact hnn p3))
      go_ret
      exact⟨by rw[left_none hbad];rfl,hb0⟩)
    all_goals
     have hgood:nodeR x d (c-1)=true:=(nodeR_8 HK.out).2 ⟨by omega,by omega,by first | exact .inl bnan0 | exact .inr HNN.out⟩;have hi0:x.items.length=0:=by have hn0:=HN0.out;have hnan:=HNAN.out;have hnn:=HNN.out;omega
     have hk:=HK.out;have E:Hid (leftP x c d=some (c-1)):=left_flat hc0 hgood hi0;have hli:¬ (0:Int)<x.items.length:=by omega
     have hl2:¬ (2:Int)<x.items.length:=by omega
     have HI:=Hh hi0;have HC:=Hh hgood;clear hi0 hk hgood;have c0:=hB.cell 0 rfl;have c3:=hB.cell 3 rfl;go_wp2_with fail
     refine wp_loop_rounds 1 ?_
     rw[rounds_succ];go_wp2_with fail
     refine wp_loop_rounds 1 ?_
     rw[rounds_succ];go_wp2_with fail
     go_ret
     exact⟨by rw[E.out,← HC1.out];rfl,hb0⟩
   ·have bnn0:((x.n:Int) != 9221120237041090560)=true:=by(first | (rw[bne_eq_false_iff_eq];unfold notNumber at hnn;omega) | (rw[bne_iff_ne];unfold notNumber at hnn;omega))
    have HNN:=Hh hnn;clear hnn;go_enter Tryz.func86,Tryz.ntmps86
    rw[bnan0]at V;go_upto_region 22 with (go_at_call 96;refine V.out.mono ?_;rintro e wv ⟨rfl,rfl⟩)
    any_goals
     (have hbad:nodeR x d (c-1)=false:=by
       cases hq:nodeR x d (c-1) with
       | false=>rfl
       | true=>exact absurd ((nodeR_8 HK.out).1 hq) (by have hn0:=HN0.out;have hnan:=HNAN.out;have hnn:=HNN.out;rintro⟨p1,p2,p3⟩;first | omega | (rcases p3 with p3 | p3;(rw[bnan0]at p3;cases p3);exact hnn p3))
      go_ret
      exact⟨by rw[left_none hbad];rfl,hb0⟩)
    all_goals
     have hgood:nodeR x d (c-1)=true:=(nodeR_8 HK.out).2 ⟨by omega,by omega,by first | exact .inl bnan0 | exact .inr HNN.out⟩;have hi0:x.items.length=0:=by have hn0:=HN0.out;have hnan:=HNAN.out;have hnn:=HNN.out;omega
     have hk:=HK.out;have E:Hid (leftP x c d=some (c-1)):=left_flat hc0 hgood hi0;have hli:¬ (0:Int)<x.items.length:=by omega
     have hl2:¬ (2:Int)<x.items.length:=by omega
     have HI:=Hh hi0;have HC:=Hh hgood;clear hi0 hk hgood;have c0:=hB.cell 0 rfl;have c3:=hB.cell 3 rfl;go_wp2_with fail
     refine wp_loop_rounds 1 ?_
     rw[rounds_succ];go_wp2_with fail
     refine wp_loop_rounds 1 ?_
     rw[rounds_succ];go_wp2_with fail
     go_ret
     exact⟨by rw[E.out,← HC1.out];rfl,hb0⟩
  ·have bnan0:isNaN x.n=false:=by simpa using hnan
   have HNAN:=Hh hnan;clear hnan
   by_cases hnn:x.n=notNumber
   ·have bnn0:((x.n:Int) != 9221120237041090560)=false:=by(first | (rw[bne_eq_false_iff_eq];unfold notNumber at hnn;omega) | (rw[bne_iff_ne];unfold notNumber at hnn;omega))
    have HNN:=Hh hnn;clear hnn;go_enter Tryz.func86,Tryz.ntmps86
    rw[bnan0]at V;go_upto_region 22 with (go_at_call 96;refine V.out.mono ?_;rintro e wv ⟨rfl,rfl⟩)
    any_goals
     (have hbad:nodeR x d (c-1)=false:=by
       cases hq:nodeR x d (c-1) with
       | false=>rfl
       | true=>exact absurd ((nodeR_8 HK.out).1 hq) (by have hn0:=HN0.out;have hnan:=HNAN.out;have hnn:=HNN.out;rintro⟨p1,p2,p3⟩;first | omega | (rcases p3 with p3 | p3;(rw[bnan0]at p3;cases p3);exact hnn p3))
      go_ret
      exact⟨by rw[left_none hbad];rfl,hb0⟩)
    all_goals
     have hgood:nodeR x d (c-1)=true:=(nodeR_8 HK.out).2 ⟨by omega,by omega,by first | exact .inl bnan0 | exact .inr HNN.out⟩;have hi0:x.items.length=0:=by have hn0:=HN0.out;have hnan:=HNAN.out;have hnn:=HNN.out;omega
     have hk:=HK.out;have E:Hid (leftP x c d=some (c-1)):=left_flat hc0 hgood hi0;have hli:¬ (0:Int)<x.items.length:=by omega
     have hl2:¬ (2:Int)<x.items.length:=by omega
     have HI:=Hh hi0;have HC:=Hh hgood;clear hi0 hk hgood;have c0:=hB.cell 0 rfl;have c3:=hB.cell 3 rfl;go_wp2_with fail
     refine wp_loop_rounds 1 ?_
     rw[rounds_succ];go_wp2_with fail
     refine wp_loop_rounds 1 ?_
     rw[rounds_succ];go_wp2_with fail
     go_ret
     exact⟨by rw[E.out,← HC1.out];rfl,hb0⟩
   ·have bnn0:((x.n:Int) != 9221120237041090560)=true:=by(first | (rw[bne_eq_false_iff_eq];unfold notNumber at hnn;omega) | (rw[bne_iff_ne];unfold notNumber at hnn;omega))
    have HNN:=Hh hnn;clear hnn;go_enter Tryz.func86,Tryz.ntmps86
    rw[bnan0]at V;go_upto_region 22 with (go_at_call 96;refine V.out.mono ?_;rintro e wv ⟨rfl,rfl⟩)
    any_goals
     (have hbad:nodeR x d (c-1)=false:=by
       cases hq:nodeR x d (c-1) with
       | false=>rfl
       | true=>exact absurd ((nodeR_8 HK.out).1 hq) (by have hn0:=HN0.out;have hnan:=HNAN.out;have hnn:=HNN.out;rintro⟨p1,p2,p3⟩;first | omega | (rcases p3 with p3 | p3;(rw[bnan0]at p3;cases p3);exact hnn p3))
      go_ret
      exact⟨by rw[left_none hbad];rfl,hb0⟩)
    all_goals
     have hgood:nodeR x d (c-1)=true:=(nodeR_8 HK.out).2 ⟨by omega,by omega,by first | exact .inl bnan0 | exact .inr HNN.out⟩;have hi0:x.items.length=0:=by have hn0:=HN0.out;have hnan:=HNAN.out;have hnn:=HNN.out;omega
     have hk:=HK.out;have E:Hid (leftP x c d=some (c-1)):=left_flat hc0 hgood hi0;have hli:¬ (0:Int)<x.items.length:=by omega
     have hl2:¬ (2:Int)<x.items.length:=by omega
     have HI:=Hh hi0;have HC:=Hh hgood;clear hi0 hk hgood;have c0:=hB.cell 0 rfl;have c3:=hB.cell 3 rfl;go_wp2_with fail
     refine wp_loop_rounds 1 ?_
     rw[rounds_succ];go_wp2_with fail
     refine wp_loop_rounds 1 ?_
     rw[rounds_succ];go_wp2_with fail
     go_ret
     exact⟨by rw[E.out,← HC1.out];rfl,hb0⟩
end Go.Proofs.YtgcjjhibdbafmaaGreatDoor
