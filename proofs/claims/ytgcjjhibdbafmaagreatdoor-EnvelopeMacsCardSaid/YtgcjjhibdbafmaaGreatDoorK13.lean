/- squeezed. Walks: the reference's Build; of p -/
import Derived.Test.YtgcjjhibdbafmaaGreatDoorK12
set_option linter.unusedVariables false
set_option linter.unusedSimpArgs false
set_option maxRecDepth 100000
set_option maxHeartbeats 12800000
namespace Go.Proofs.YtgcjjhibdbafmaaGreatDoor
open Go.RowKit
theorem asc_drop (l:List Itm) (h:ascP l=true):∀ i:Nat,ascP (l.drop (2*i))=true
 | 0=>by simpa using h
 | i+1=>by
  have ih:=asc_drop l h i;rw[show 2*(i+1)=2*i+2 by omega,← List.drop_drop]
  generalize l.drop (2*i)=m at ih
  match m,ih with
  | [],_=>rfl
  | [_],_=>rfl
  | _::_::m,ih=>exact ascP_tail ih
theorem asc_at {l:List Itm}(h:ascP l=true) {m:Nat}(he:m%2=0) (hm:m+2<l.length):Lib.compareBytes (encB (l[m]'(by omega))) (encB l[m+2])<0:=by
 obtain⟨i,rfl⟩:∃ i,m=2*i:=⟨m/2,by omega⟩
 have h1:=asc_drop l h i;have h2:=ascP_drop l (2*i+2) (by omega) hm
 simp only[Nat.add_sub_cancel]at h2
 rw[h1]at h2;have h3:=(Bool.and_eq_true _ _).mp h2.symm;have h4:=of_decide_eq_true h3.1
 simpa using h4
def BuildSaid2 (w:World) (H:Snap) (ps:List Itm) (e:Ending) (w':World):Prop :=
 ∃ v,(∃ l,e=.returned (.tuple #[v,.int .i64 0])∧Gives w H (.mk 5 0 [] l) v w'∧validP (.mk 5 0 [] l)=true∧(encL l).length=(encL ps).length∧(ascP ps=true→l=ps))∨
  (∃ c,e=.returned (.tuple #[v,.int .i64 c])∧c≠0∧Gives w H zeroItm v w'∧¬ (ps.length%2=0∧ascP ps=true∧(∀ x∈ps,validP x=true)∧validP (.mk 5 0 [] ps)=true))
theorem ref_Build2 {H:Snap}(hTab:Tabs H) {A:Option Addr}{c:Nat}{ps:List Itm}(hr:IsRowI H A c ps) (hl:ps.length≤1099511627776) (w:World) (hH:Holds w H) :
  Calls Tryz.prog 72 #[.slice A ps.length c] w (BuildSaid2 w H ps):=by
 have hT:=Blk.new w 26 #[.int .i64 0,.int .u64 0,.slice none 0 0,.slice none 0 0];have hb:=below_box w zeroO;have hn0:H w.heap.size=none:=hH.none_of_ge (Nat.le_refl _);have HR:=Hh hr;clear hr
 by_cases heven:ps.length%2=0
 case neg =>
  have b1:((ps.length:Int)%2 != 0)=true:=by rw[bne_iff_ne];omega
  have p1:((ps.length:Int)%2=0)=False:=eq_false (by omega);have HE:=Hh heven;clear heven;go_enter Tryz.func72,Tryz.ntmps72
  go_wp2_with fail
  refine ret_row_tmp rfl rfl hT rfl rfl size_item rfl ?_
  exact⟨_,.inr ⟨1,rfl,by omega,⟨none,0,none,0,H,rfl,Grows.of_below hH hb,IsItem.plain H 0 0 (by omega) (by omega)⟩,fun h=>HE.out h.1⟩⟩
 have b1:((ps.length:Int)%2 != 0)=false:=by rw[bne_eq_false_iff_eq];omega
 have p1:((ps.length:Int)%2=0)=True:=eq_true (by omega);have HE:=Hh heven;clear heven;go_enter Tryz.func72,Tryz.ntmps72
 go_wp2_with fail
 go_loopw [18] (fun v18 wr=>∃ j:Nat,j≤ps.length∧v18=.int .i64 j∧(∀ x∈ps.take j,validP x=true)∧Below w.heap.size w wr∧Blk wr w.heap.size 26 #[.int .i64 0,.int .u64 0,.slice none 0 0,.slice none 0 0]) (fun v18 _=>ps.length-(intOf v18).toNat)
 case atStart=>exact⟨0,Nat.zero_le _,rfl,by simp,hb,hT⟩
 case round =>
  clear hb hT;obtain⟨j,hj,rfl,hval,hbr,hTr⟩:=hrel
  by_cases hlt:j<ps.length
  ·have hHr:=hH.below hbr (Nat.le_refl _);obtain⟨ib,io,hia,hel⟩:=HR.out.elems (by omega);obtain⟨y1,y2,y3,y4,q0,q1,q2,q3,hex⟩:=hel.get j hlt;subst hia;have p0:=hHr.cell q0;have p1':=hHr.cell q1;have p2:=hHr.cell q2;have p3:=hHr.cell q3;have hHa:=hHr.alloc (itemO ps[j] y1 y2 y3 y4);have V:=Hh (ref_Valid hTab hex.arg _ hHa);have hb2:=hbr.alloc hbr.size (itemO ps[j] y1 y2 y3 y4);have hT2:=hTr.alloc (itemO ps[j] y1 y2 y3 y4);have hmem:ps[j]∈ps:=List.getElem_mem hlt;have HT:=Hh (show ps.take (j+1)=ps.take j++[ps[j]] from List.take_succ_eq_append_getElem hlt);have HVL:=Hh hval
   generalize ps[j]'hlt=x at *
   clear q0 q1 q2 q3 hel hex hbr hTr hHr hval
   cases hv:validP x with
   | false =>
    rw[hv]at V;have HX:=Hh (And.intro hv hmem);clear hv hmem;go_wp2_with fail
    refine V.out.mono ?_
    rintro e w3 ⟨rfl,hb3⟩
    have hT3:=hT2.below hb3;have hbz:=hb2.trans (hb3.mono hb2.size);clear hT2 hb2 hb3;go_wp2_with (with_reducible refine stop_store ?_)
    refine stI hT3 fun w9 hT9 hg9=>?_
    have hG9:=(Grows.of_below hH hbz).grownOwn hn0 (Nat.le_refl _) hg9;go_wp2_with fail
    refine ret_row_tmp rfl rfl hT9 rfl rfl size_item rfl ?_
    exact⟨_,.inr ⟨1,rfl,by omega,⟨none,0,none,0,H,rfl,hG9,IsItem.plain H 0 0 (by omega) (by omega)⟩,fun h=>by rw[h.2.2.1 x HX.out.2]at HX;cases HX.out.1⟩⟩
   | true =>
    rw[hv]at V;have HX:=Hh hv;clear hv hmem;go_wp2_with fail
    refine V.out.mono ?_
    rintro e w3 ⟨rfl,hb3⟩
    have hT3:=hT2.below hb3;have hbz:=hb2.trans (hb3.mono hb2.size);have hj63:(j:Int)+1≤9223372036854775807:=by omega
    clear hT2 hb2 hb3;go_wp2_with fail
    go_roundw
    case rel=>exact⟨j+1,by omega,by go_num,fun y hy=>by rw[HT.out,List.mem_append]at hy;rcases hy with hy | hy;exact HVL.out y hy;rw[List.mem_singleton.1 hy];exact HX.out,hbz,hT3⟩
    case measure=>simp[intOf];omega
  ·have hkl:j=ps.length:=by omega
   subst hkl;rw[List.take_length]at hval;have HVL:=Hh hval;clear hval;go_wp2_with fail
   go_loopw [6,7,8] (fun v6 v7 v8 wr=>∃ (j:Nat) (L:List Itm) (b:Bool) (VA:Option Addr) (vc:Nat),j≤ps.length∧j%2=0∧v8=.int .i64 (j:Int)∧v7=.bool b∧v6=.slice VA j vc∧L.length=j∧OwnI wr (w.heap.size+1) (.slice VA j vc) H L∧(∀ x∈L,x∈ps)∧
    (encL L).length=(encL (ps.take j)).length∧(ascP ps=true→b=false∧L=ps.take j)∧Below w.heap.size w wr∧Blk wr w.heap.size 26 #[.int .i64 0,.int .u64 0,.slice none 0 0,.slice none 0 0]) (fun _ _ v8 _=>ps.length+1-(intOf v8).toNat)
   case atStart=>exact⟨0,[],false,none,0,Nat.zero_le _,rfl,rfl,rfl,rfl,rfl,OwnI.nil _ _ _,by simp,by simp,fun _=>⟨rfl,by simp⟩,hbr,hTr⟩
   case round =>
    clear hbr hTr;obtain⟨j,L,b,VA,vc,hj,hje,rfl,rfl,rfl,hLl,hOr,hmem,hsz,h2,hbr,hTr⟩:=hrel
    have HVC:Hid ((j:Int)≤vc):=by
     obtain⟨_,c9,e,h1,_⟩:=hOr.form;injection e with _ _ e3
     subst e3;show(j:Int)≤(vc:Int)
     omega
    have HS:=Hh (And.intro hmem (And.intro hsz h2));have HJ:=Hh hje;clear hmem hsz h2 hje
    by_cases hlt:j<ps.length
    ·have hlt1:j+1<ps.length:=by have:=HJ.out;have:=HE.out;omega
     obtain⟨ib,io,hia,hel⟩:=HR.out.elems (by omega);obtain⟨y1,y2,y3,y4,q0,q1,q2,q3,hex⟩:=hel.get j hlt;obtain⟨z1,z2,z3,z4,s0,s1,s2,s3,hez⟩:=hel.get (j+1) hlt1;subst hia;have HVY:=Hh (HVL.out ps[j] (List.getElem_mem hlt));have HM1:=Hh (And.intro (List.getElem_mem hlt) (List.getElem_mem hlt1))
     have HPS:=Hh (show(encL (ps.take (j+2))).length=(encL (ps.take j)).length+(encB ps[j]).length+(encB ps[j+1]).length by
      have h1:=encL_take_succ ps (j+1) hlt1;have h2:=encL_take_succ ps j hlt;rw[show j+2=j+1+1 by omega,h1,h2];simp only[List.length_append])
     have HPT:=Hh (show ps.take (j+2)=ps.take j++[ps[j],ps[j+1]] by
      rw[show j+2=j+1+1 by omega,List.take_succ_eq_append_getElem hlt1,List.take_succ_eq_append_getElem hlt,List.append_assoc];rfl)
     have HASC:=Hh (show ascP ps=true→∀ m (hm:m+2=j) (hl:m<L.length),Lib.compareBytes (encB L[m]) (encB ps[j])<0 from fun hA m hm hl=>by
      have e:=(HS.out.2.2 hA).2;have hmj:m<j:=by omega
      have hmp:m<ps.length:=by omega
      have h1:L[m]? = some (ps[m]'hmp):=by rw[e,List.getElem?_take,if_pos hmj,List.getElem?_eq_getElem]
      rw[List.getElem?_eq_getElem hl]at h1;rw[Option.some.inj h1];have h2:=asc_at (m:=m) hA (by have:=HJ.out;omega) (by omega);have h3:ps[m+2]'(by omega)=ps[j]:=by congr 1
      rw[h3]at h2
      exact h2)
     generalize ps[j]'hlt=y at *
     generalize ps[j+1]'hlt1=z at *
     clear hel;have hltI:(j:Int)<ps.length:=by omega
     have hltI1:(j:Int)+1<ps.length:=by omega
     have hj63:(j:Int)+2≤9223372036854775807:=by omega
     have HW1:Hid (IntKind.i64.wrap ((j:Int)+1)=(j:Int)+1):=IntWalk.i64_in _ (by omega);go_wp2_with fail
     go_loopw [9] (fun v9 wx=>∃ k:Nat,k≤j∧k%2=0∧(ascP ps=true→k=j)∧v9=.int .i64 (k:Int)∧OwnI wx (w.heap.size+1) (.slice VA j vc) H L∧Below w.heap.size w wx∧Blk wx w.heap.size 26 #[.int .i64 0,.int .u64 0,.slice none 0 0,.slice none 0 0]) (fun v9 _=>(intOf v9).toNat)
     case atStart=>exact⟨j,Nat.le_refl _,HJ.out,fun _=>rfl,rfl,hOr,hbr,hTr⟩
     case round =>
      clear hOr hbr hTr;obtain⟨k,hk,hke,hkj,rfl,hOx,hbx,hTx⟩:=hrel;have HKJ:=Hh hkj;clear hkj;have HKE:=Hh hke;clear hke;have hkI:((k:Nat):Int)≤j:=by omega
      go_upto_region 15 with fail
      go_cut [51] (fun s51 wx=>∃ bb:Bool,s51=.bool bb∧(bb=true→2≤k)∧(ascP ps=true→bb=false)∧OwnI wx (w.heap.size+1) (.slice VA j vc) H L∧Below w.heap.size w wx∧Blk wx w.heap.size 26 #[.int .i64 0,.int .u64 0,.slice none 0 0,.slice none 0 0])
      case first =>
       by_cases hk0:k=0
       ·subst hk0;skip
        refine wp_region_ways 16 (fun _=>True) (by kernel_rfl) (trivial) (fun hHeld=>?_)
        refine Tk 0 rfl hHeld ?_
        refine Tk 1 rfl hHeld ?_
        refine Tk 2 rfl hHeld ?_
        refine TkU 3 rfl hHeld ?_
        refine TkU 4 rfl hHeld ?_
        refine TkU 5 rfl hHeld ?_
        refine TkU 6 rfl hHeld ?_
        refine TkU 7 rfl hHeld ?_
        refine TkU 8 rfl hHeld ?_
        refine TkU 9 rfl hHeld ?_
        refine TkU 10 rfl hHeld ?_
        refine TkU 11 rfl hHeld ?_
        refine TkU 12 rfl hHeld ?_
        refine TkU 13 rfl hHeld ?_
        refine TkU 14 rfl hHeld ?_
        refine TkU 15 rfl hHeld ?_
        refine To 16 rfl fun K hK=>?_
        go_simp
        refine Kz hK ?_
        clear hK K
        refine Wd ?_
        go_wp2_with fail
        go_meet
        exact⟨false,rfl,(fun h=>by cases h),(fun _=>rfl),hOx,hbx.drew,hTx⟩
       ·obtain⟨m,rfl⟩:∃ m,k=m+2:=⟨k-2,by have:=HKE.out;omega⟩
        have hmj:m<j:=by omega
        obtain⟨lb,lo,hla,x1,x2,x3,x4,c0,c1,c2,c3,hei⟩:=hOx.cells m (by omega);subst hla;have HVX:=Hh (HVL.out _ (HS.out.1 _ (List.getElem_mem (show m<L.length by omega))));have HXL:=Hh (show ascP ps=true→Lib.compareBytes (encB (L[m]'(by omega))) (encB y)<0 from fun hA=>HASC.out hA m (HKJ.out hA) (by omega))
        generalize L[m]'(by omega)=x at *
        have e2:((m+2:Nat):Int)=(m:Int)+2:=by omega
        rw[e2];have hw1:IntKind.i64.wrap ((m:Int)+2-2)=(m:Int):=by rw[show(m:Int)+2-2=(m:Int) by omega];exact IntWalk.i64_in _ (by omega)
        have hw2:IntKind.i64.wrap (m:Int)=(m:Int):=IntWalk.i64_in _ (by omega);have hmI:(m:Int)<j:=by omega
        have hm0:(0:Int)≤(m:Int):=by omega
        have hmp:(0:Int)<(m:Int)+2:=by omega
        have hHx:=(hH.below hbx (Nat.le_refl _)).drew;have p0:=hHx.cell q0;have p1:=hHx.cell q1;have p2:=hHx.cell q2;have p3:=hHx.cell q3;have c0:=cell_drew c0;have c1:=cell_drew c1;have c2:=cell_drew c2;have c3:=cell_drew c3;have hbz:=hbx.drew;have hOz:=OwnI.drew hOx;have hTz:=hTx.drew;obtain⟨cmp,hcmp⟩:∃ cmp,Lib.compareBytes (encB x) (encB y)=cmp:=⟨_,rfl⟩
        have gx:=(validP_iff x).1 HVX.out;have gy:=(validP_iff y).1 HVY.out;have HGX:=Hh gx;have HGY:=Hh gy;have HCM:=Hh hcmp;have HCL:=Hh (show ascP ps=true→cmp<0 from fun hA=>by have h:=HXL.out hA;rw[hcmp]at h;exact h);clear gx gy hcmp e2 hOx hbx hTx hk0 hk;skip
        refine wp_region_ways 16 (fun w'=>w'.cell? ⟨lb,lo+m*4,none⟩=some (.int .i64 x.kind)∧w'.cell? ⟨lb,lo+m*4+1,none⟩=some (.int .u64 x.n)∧w'.cell? ⟨lb,lo+m*4+2,none⟩=some (.slice x1 x.bytes.length x2)∧w'.cell? ⟨lb,lo+m*4+3,none⟩=some (.slice x3 x.items.length x4)∧w'.cell? ⟨ib,io+j*4,none⟩=some (.int .i64 y.kind)∧w'.cell? ⟨ib,io+j*4+1,none⟩=some (.int .u64 y.n)∧w'.cell? ⟨ib,io+j*4+2,none⟩=some (.slice y1 y.bytes.length y2)∧w'.cell? ⟨ib,io+j*4+3,none⟩=some (.slice y3 y.items.length y4)) (by kernel_rfl) (⟨c0,c1,c2,c3,p0,p1,p2,p3⟩) (fun hHeld=>?_)
        refine Tk 0 rfl hHeld ?_
        refine Tk 1 rfl hHeld ?_
        refine Tk 2 rfl hHeld ?_
        refine TkG 3 rfl hHeld ?_
        refine TkG 4 rfl hHeld ?_
        refine TkG 5 rfl hHeld ?_
        refine TkG 6 rfl hHeld ?_
        refine TkG 7 rfl hHeld ?_
        refine TkG 9 rfl hHeld ?_
        refine TkG 10 rfl hHeld ?_
        refine TkG 11 rfl hHeld ?_
        refine TkG 12 rfl hHeld ?_
        refine To 8 rfl fun K hK=>?_
        go_simp
        refine(ref_Raw x H _ _ x1 _ x2 x3 _ x4 _ 0 HGX.out.1 (by have:=HGX.out.2.2;omega) hei.arg hHx).mono ?_
        rintro e w5 ⟨r5,rfl,hf5⟩
        obtain⟨RA5,rc5,rfl,_⟩:=hf5.own.form;have hHx:=hHx.below hf5.2 (Nat.le_refl _);have hbz:=hbz.trans (hf5.2.mono hbz.size);have hOz:=hOz.below hf5.2;have hTz:=hTz.below hf5.2;have hsr5:=hf5.own.src;have c0:=cell_below c0 hf5.2;have c1:=cell_below c1 hf5.2;have c2:=cell_below c2 hf5.2;have c3:=cell_below c3 hf5.2
        refine Ko hK ?_ fun hHeld=>?_
        ·exact⟨c0,c1,c2,c3,hHx.cell q0,hHx.cell q1,hHx.cell q2,hHx.cell q3⟩
        clear hK K
        refine To 13 rfl fun K hK=>?_
        go_simp
        refine(ref_Raw y H _ _ y1 _ y2 y3 _ y4 _ 0 HGY.out.1 (by have:=HGY.out.2.2;omega) hex.arg hHx).mono ?_
        rintro e w6 ⟨r6,rfl,hf6⟩
        obtain⟨RA6,rc6,rfl,_⟩:=hf6.own.form;have hHx:=hHx.below hf6.2 (Nat.le_refl _);have hbz:=hbz.trans (hf6.2.mono hbz.size);have hOz:=hOz.below hf6.2;have hTz:=hTz.below hf6.2;have hsr5:=hsr5.below hf6.2;have hsr6:=hf6.own.src;have c0:=cell_below c0 hf6.2;have c1:=cell_below c1 hf6.2;have c2:=cell_below c2 hf6.2;have c3:=cell_below c3 hf6.2
        refine Ko hK ?_ fun hHeld=>?_
        ·exact⟨c0,c1,c2,c3,hHx.cell q0,hHx.cell q1,hHx.cell q2,hHx.cell q3⟩
        clear hK K
        refine To 14 rfl fun K hK=>?_
        go_simp
        refine(ref_Compare _ RA5 RA6 (encB x) (encB y) (encB x).length (encB y).length rc5 rc6 rfl rfl (by have:=HGX.out.2.2;omega) (by have:=HGY.out.2.2;omega) hsr5 hsr6).mono ?_
        rintro e w7 ⟨rfl,hb7⟩
        rw[HCM.out];have hHx:=hHx.below hb7 (Nat.le_refl _);have hbz:=hbz.trans (hb7.mono hbz.size);have hOz:=hOz.below hb7;have hTz:=hTz.below hb7;have c0:=cell_below c0 hb7;have c1:=cell_below c1 hb7;have c2:=cell_below c2 hb7;have c3:=cell_below c3 hb7
        refine Ko hK ?_ fun hHeld=>?_
        ·exact⟨c0,c1,c2,c3,hHx.cell q0,hHx.cell q1,hHx.cell q2,hHx.cell q3⟩
        clear hK K
        refine TkG 15 rfl hHeld ?_
        refine To 16 rfl fun K hK=>?_
        go_simp
        refine Kz hK ?_
        clear hK K
        refine Wd ?_
        clear hHeld hsr5 hsr6 c0 c1 c2 c3 p0 p1 p2 p3;go_wp2_with fail
        go_meet
        exact⟨decide ((0:Int)<cmp),rfl,(fun _=>by omega),(fun hA=>decide_eq_false (by have:=HCL.out hA;omega)),hOz,hbz,hTz⟩
      case rest =>
       clear hOx hbx hTx;obtain⟨bb,rfl,hbb,hba,hOx,hbx,hTx⟩:=hcut;have HBA:=Hh hba;clear hba
       cases bb with
       | true =>
        obtain⟨m,rfl⟩:∃ m,k=m+2:=⟨k-2,by have:=hbb rfl;omega⟩
        have hw1:IntKind.i64.wrap (((m+2:Nat):Int)-2)=(m:Int):=by rw[show((m+2:Nat):Int)-2=(m:Int) by omega];exact IntWalk.i64_in _ (by omega)
        clear hbb;go_wp2_with fail
        go_roundw
        case rel=>exact⟨m,by omega,by have:=HKE.out;omega,(fun hA=>by have:=HBA.out hA;cases this),by first | rfl | go_num,hOx,hbx,hTx⟩
        case measure=>simp[intOf];omega
       | false =>
        clear hbb;go_upto_region 17 with fail
        go_cut [7] (fun s7 wx=>∃ b':Bool,s7=.bool b'∧(k=0→b'=b)∧(ascP ps=true→b'=b)∧OwnI wx (w.heap.size+1) (.slice VA j vc) H L∧Below w.heap.size w wx∧Blk wx w.heap.size 26 #[.int .i64 0,.int .u64 0,.slice none 0 0,.slice none 0 0])
        case first =>
         cases b with
         | true =>
          refine wp_region_ways 20 (fun _=>True) (by kernel_rfl) (trivial) (fun hHeld=>?_)
          refine Tk 0 rfl hHeld ?_
          refine Tk 1 rfl hHeld ?_
          refine TkU 2 rfl hHeld ?_
          refine TkU 3 rfl hHeld ?_
          refine TkU 4 rfl hHeld ?_
          refine TkU 5 rfl hHeld ?_
          refine TkU 6 rfl hHeld ?_
          refine TkU 7 rfl hHeld ?_
          refine TkU 8 rfl hHeld ?_
          refine TkU 9 rfl hHeld ?_
          refine TkU 10 rfl hHeld ?_
          refine TkU 11 rfl hHeld ?_
          refine TkU 12 rfl hHeld ?_
          refine TkU 13 rfl hHeld ?_
          refine TkU 14 rfl hHeld ?_
          refine TkU 15 rfl hHeld ?_
          refine TkU 16 rfl hHeld ?_
          refine TkU 17 rfl hHeld ?_
          refine TkU 18 rfl hHeld ?_
          refine Tk 19 rfl hHeld ?_
          refine To 20 rfl fun K hK=>?_
          go_simp
          refine Kz hK ?_
          clear hK K
          refine Wd ?_
          go_wp2_with fail
          go_meet
          exact⟨true,rfl,(fun _=>rfl),(fun _=>rfl),hOx,hbx.drew,hTx⟩
         | false =>
          by_cases hk0:k=0
          ·subst hk0
           refine wp_region_ways 20 (fun _=>True) (by kernel_rfl) (trivial) (fun hHeld=>?_)
           refine Tk 0 rfl hHeld ?_
           refine Tk 1 rfl hHeld ?_
           refine TkG 2 rfl hHeld ?_
           refine TkG 3 rfl hHeld ?_
           refine TkG 4 rfl hHeld ?_
           refine TkU 5 rfl hHeld ?_
           refine TkU 6 rfl hHeld ?_
           refine TkU 7 rfl hHeld ?_
           refine TkU 8 rfl hHeld ?_
           refine TkU 9 rfl hHeld ?_
           refine TkU 10 rfl hHeld ?_
           refine TkU 11 rfl hHeld ?_
           refine TkU 12 rfl hHeld ?_
           refine TkU 13 rfl hHeld ?_
           refine TkU 14 rfl hHeld ?_
           refine TkU 15 rfl hHeld ?_
           refine TkU 16 rfl hHeld ?_
           refine TkU 17 rfl hHeld ?_
           refine TkG 18 rfl hHeld ?_
           refine Tk 19 rfl hHeld ?_
           refine To 20 rfl fun K hK=>?_
           go_simp
           refine Kz hK ?_
           clear hK K
           refine Wd ?_
           go_wp2_with fail
           go_meet
           exact⟨false,rfl,(fun _=>rfl),(fun _=>rfl),hOx,hbx.drew,hTx⟩
          ·skip
           obtain⟨m,rfl⟩:∃ m,k=m+2:=⟨k-2,by have:=HKE.out;omega⟩
           have hmj:m<j:=by omega
           obtain⟨lb,lo,hla,x1,x2,x3,x4,c0,c1,c2,c3,hei⟩:=hOx.cells m (by omega);subst hla;have HVX:=Hh (HVL.out _ (HS.out.1 _ (List.getElem_mem (show m<L.length by omega))));have HXL:=Hh (show ascP ps=true→Lib.compareBytes (encB (L[m]'(by omega))) (encB y)<0 from fun hA=>HASC.out hA m (HKJ.out hA) (by omega))
           generalize L[m]'(by omega)=x at *
           have e2:((m+2:Nat):Int)=(m:Int)+2:=by omega
           rw[e2];have hw1:IntKind.i64.wrap ((m:Int)+2-2)=(m:Int):=by rw[show(m:Int)+2-2=(m:Int) by omega];exact IntWalk.i64_in _ (by omega)
           have hw2:IntKind.i64.wrap (m:Int)=(m:Int):=IntWalk.i64_in _ (by omega);have hmI:(m:Int)<j:=by omega
           have hm0:(0:Int)≤(m:Int):=by omega
           have hmp:(0:Int)<(m:Int)+2:=by omega
           have hHx:=(hH.below hbx (Nat.le_refl _)).drew;have p0:=hHx.cell q0;have p1:=hHx.cell q1;have p2:=hHx.cell q2;have p3:=hHx.cell q3;have c0:=cell_drew c0;have c1:=cell_drew c1;have c2:=cell_drew c2;have c3:=cell_drew c3;have hbz:=hbx.drew;have hOz:=OwnI.drew hOx;have hTz:=hTx.drew;obtain⟨cmp,hcmp⟩:∃ cmp,Lib.compareBytes (encB x) (encB y)=cmp:=⟨_,rfl⟩
           have gx:=(validP_iff x).1 HVX.out;have gy:=(validP_iff y).1 HVY.out;have HGX:=Hh gx;have HGY:=Hh gy;have HCM:=Hh hcmp;have HCL:=Hh (show ascP ps=true→cmp<0 from fun hA=>by have h:=HXL.out hA;rw[hcmp]at h;exact h);clear gx gy hcmp e2 hOx hbx hTx hk0 hk
           refine wp_region_ways 20 (fun w'=>w'.cell? ⟨lb,lo+m*4,none⟩=some (.int .i64 x.kind)∧w'.cell? ⟨lb,lo+m*4+1,none⟩=some (.int .u64 x.n)∧w'.cell? ⟨lb,lo+m*4+2,none⟩=some (.slice x1 x.bytes.length x2)∧w'.cell? ⟨lb,lo+m*4+3,none⟩=some (.slice x3 x.items.length x4)∧w'.cell? ⟨ib,io+j*4,none⟩=some (.int .i64 y.kind)∧w'.cell? ⟨ib,io+j*4+1,none⟩=some (.int .u64 y.n)∧w'.cell? ⟨ib,io+j*4+2,none⟩=some (.slice y1 y.bytes.length y2)∧w'.cell? ⟨ib,io+j*4+3,none⟩=some (.slice y3 y.items.length y4)) (by kernel_rfl) (⟨c0,c1,c2,c3,p0,p1,p2,p3⟩) (fun hHeld=>?_)
           refine Tk 0 rfl hHeld ?_
           refine Tk 1 rfl hHeld ?_
           refine TkG 2 rfl hHeld ?_
           refine TkG 3 rfl hHeld ?_
           refine TkG 4 rfl hHeld ?_
           refine TkG 5 rfl hHeld ?_
           refine TkG 6 rfl hHeld ?_
           refine TkG 7 rfl hHeld ?_
           refine TkG 8 rfl hHeld ?_
           refine TkG 9 rfl hHeld ?_
           refine TkG 11 rfl hHeld ?_
           refine TkG 12 rfl hHeld ?_
           refine TkG 13 rfl hHeld ?_
           refine TkG 14 rfl hHeld ?_
           refine To 10 rfl fun K hK=>?_
           go_simp
           refine(ref_Raw x H _ _ x1 _ x2 x3 _ x4 _ 0 HGX.out.1 (by have:=HGX.out.2.2;omega) hei.arg hHx).mono ?_
           rintro e w5 ⟨r5,rfl,hf5⟩
           obtain⟨RA5,rc5,rfl,_⟩:=hf5.own.form;have hHx:=hHx.below hf5.2 (Nat.le_refl _);have hbz:=hbz.trans (hf5.2.mono hbz.size);have hOz:=hOz.below hf5.2;have hTz:=hTz.below hf5.2;have hsr5:=hf5.own.src;have c0:=cell_below c0 hf5.2;have c1:=cell_below c1 hf5.2;have c2:=cell_below c2 hf5.2;have c3:=cell_below c3 hf5.2
           refine Ko hK ?_ fun hHeld=>?_
           ·exact⟨c0,c1,c2,c3,hHx.cell q0,hHx.cell q1,hHx.cell q2,hHx.cell q3⟩
           clear hK K
           refine To 15 rfl fun K hK=>?_
           go_simp
           refine(ref_Raw y H _ _ y1 _ y2 y3 _ y4 _ 0 HGY.out.1 (by have:=HGY.out.2.2;omega) hex.arg hHx).mono ?_
           rintro e w6 ⟨r6,rfl,hf6⟩
           obtain⟨RA6,rc6,rfl,_⟩:=hf6.own.form;have hHx:=hHx.below hf6.2 (Nat.le_refl _);have hbz:=hbz.trans (hf6.2.mono hbz.size);have hOz:=hOz.below hf6.2;have hTz:=hTz.below hf6.2;have hsr5:=hsr5.below hf6.2;have hsr6:=hf6.own.src;have c0:=cell_below c0 hf6.2;have c1:=cell_below c1 hf6.2;have c2:=cell_below c2 hf6.2;have c3:=cell_below c3 hf6.2
           refine Ko hK ?_ fun hHeld=>?_
           ·exact⟨c0,c1,c2,c3,hHx.cell q0,hHx.cell q1,hHx.cell q2,hHx.cell q3⟩
           clear hK K
           refine To 16 rfl fun K hK=>?_
           go_simp
           refine(ref_Compare _ RA5 RA6 (encB x) (encB y) (encB x).length (encB y).length rc5 rc6 rfl rfl (by have:=HGX.out.2.2;omega) (by have:=HGY.out.2.2;omega) hsr5 hsr6).mono ?_
           rintro e w7 ⟨rfl,hb7⟩
           rw[HCM.out];have hHx:=hHx.below hb7 (Nat.le_refl _);have hbz:=hbz.trans (hb7.mono hbz.size);have hOz:=hOz.below hb7;have hTz:=hTz.below hb7;have c0:=cell_below c0 hb7;have c1:=cell_below c1 hb7;have c2:=cell_below c2 hb7;have c3:=cell_below c3 hb7
           refine Ko hK ?_ fun hHeld=>?_
           ·exact⟨c0,c1,c2,c3,hHx.cell q0,hHx.cell q1,hHx.cell q2,hHx.cell q3⟩
           clear hK K
           refine TkG 17 rfl hHeld ?_
           refine TkG 18 rfl hHeld ?_
           refine Tk 19 rfl hHeld ?_
           refine To 20 rfl fun K hK=>?_
           go_simp
           refine Kz hK ?_
           clear hK K
           refine Wd ?_
           clear hHeld hsr5 hsr6 c0 c1 c2 c3 p0 p1 p2 p3;go_wp2_with fail
           go_meet
           exact⟨cmp==0,rfl,(fun h=>absurd h (by omega)),(fun hA=>by rw[beq_eq_false_iff_ne];have:=HCL.out hA;omega),hOz,hbz,hTz⟩
        case rest =>
         clear hOx hbx hTx;obtain⟨b',rfl,hb',hbA,hOx,hbx,hTx⟩:=hcut;have HBA2:=Hh hbA;clear hbA;have HB:=Hh hb';clear hb';obtain⟨cs1,cs2,hc1,hc2,hS1,hS2⟩:=hOx.parts k;have hHx:=(hH.below hbx (Nat.le_refl _)).drew;have hHc:=hH.below hbx (Nat.le_refl _);have p0:=hHx.cell q0;have p1:=hHx.cell q1;have p2:=hHx.cell q2;have p3:=hHx.cell q3;have r0:=hHx.cell s0;have r1:=hHx.cell s1;have r2:=hHx.cell s2;have r3:=hHx.cell s3;have hbz:=(Below.refl wc.heap.size wc).drew;have hj1:((j:Int)+1).toNat=j+1:=by omega
         have hj1g:(0:Int)≤(j:Int)+1:=by omega
         have hw1:=HW1.out;have hkc:(k:Int)≤vc:=Int.le_trans hkI HVC.out;have hk0:(0:Int)≤k:=Int.natCast_nonneg k;go_upto_region 18 with fail
         refine wp_region_ways 19 (fun w'=>w'.cell? ⟨ib,io+j*4,none⟩=some (.int .i64 y.kind)∧w'.cell? ⟨ib,io+j*4+1,none⟩=some (.int .u64 y.n)∧w'.cell? ⟨ib,io+j*4+2,none⟩=some (.slice y1 y.bytes.length y2)∧w'.cell? ⟨ib,io+j*4+3,none⟩=some (.slice y3 y.items.length y4)∧w'.cell? ⟨ib,io+(j+1)*4,none⟩=some (.int .i64 z.kind)∧w'.cell? ⟨ib,io+(j+1)*4+1,none⟩=some (.int .u64 z.n)∧w'.cell? ⟨ib,io+(j+1)*4+2,none⟩=some (.slice z1 z.bytes.length z2)∧w'.cell? ⟨ib,io+(j+1)*4+3,none⟩=some (.slice z3 z.items.length z4)) (by kernel_rfl) (⟨p0,p1,p2,p3,r0,r1,r2,r3⟩) (fun hHeld=>?_)
         refine Tk 0 rfl hHeld ?_
         refine Tk 1 rfl hHeld ?_
         refine Tk 2 rfl hHeld ?_
         refine Tk 4 rfl hHeld ?_
         refine Tk 5 rfl hHeld ?_
         refine Tk 6 rfl hHeld ?_
         refine Tk 7 rfl hHeld ?_
         refine Tk 8 rfl hHeld ?_
         refine Tk 9 rfl hHeld ?_
         refine Tk 10 rfl hHeld ?_
         refine Tk 11 rfl hHeld ?_
         refine Tk 12 rfl hHeld ?_
         refine Tk 15 rfl hHeld ?_
         refine Tk 16 rfl hHeld ?_
         refine Tk 17 rfl hHeld ?_
         refine Ways.two (i:=3) (j:=13) rfl rfl (by kernel_rfl) (fun K hK=>?_) (fun K hK=>?_)
         ·rw[if_pos (by rfl)]
          refine wp_app_items (.const (.slice none 0 0)) (.tmp 76) rfl wc.heap.size (.slice none 0 0) H [] rfl (OwnI.nil _ _ _) _ _ _ cs1 (L.take k) rfl (by rw[List.length_take];omega) hc1 (hS1.below hbz) (by simp;omega) hbz.size fun v5 w5 hX hg hat=>?_
          rw[List.nil_append]at hX;have hbq:=grown_none (by simpa [Value.ownBlock] using hg);have hbz:=hbz.trans (hbq.mono hbz.size)
          try have hS3:=hS3.below hbq
          refine Ko hK ?_ fun hHeld=>?_
          ·exact⟨(hHc.below hbz (Nat.le_refl _)).cell q0,(hHc.below hbz (Nat.le_refl _)).cell q1,(hHc.below hbz (Nat.le_refl _)).cell q2,(hHc.below hbz (Nat.le_refl _)).cell q3,(hHc.below hbz (Nat.le_refl _)).cell s0,(hHc.below hbz (Nat.le_refl _)).cell s1,(hHc.below hbz (Nat.le_refl _)).cell s2,(hHc.below hbz (Nat.le_refl _)).cell s3⟩
          clear hK K
          refine To 13 rfl fun K hK=>?_
          go_simp
          have hS3:=below_src hbz 26 #[.int .i64 y.kind,.int .u64 y.n,.slice y1 y.bytes.length y2,.slice y3 y.items.length y4,.int .i64 z.kind,.int .u64 z.n,.slice z1 z.bytes.length z2,.slice z3 z.items.length z4]
          try have hX:=hX.alloc (.cells #[.int .i64 y.kind,.int .u64 y.n,.slice y1 y.bytes.length y2,.slice y3 y.items.length y4,.int .i64 z.kind,.int .u64 z.n,.slice z1 z.bytes.length z2,.slice z3 z.items.length z4] 26)
          have hbz:=hbz.alloc hbz.size (.cells #[.int .i64 y.kind,.int .u64 y.n,.slice y1 y.bytes.length y2,.slice y3 y.items.length y4,.int .i64 z.kind,.int .u64 z.n,.slice z1 z.bytes.length z2,.slice z3 z.items.length z4] 26)
          refine Ko hK ?_ fun hHeld=>?_
          ·exact⟨(hHc.below hbz (Nat.le_refl _)).cell q0,(hHc.below hbz (Nat.le_refl _)).cell q1,(hHc.below hbz (Nat.le_refl _)).cell q2,(hHc.below hbz (Nat.le_refl _)).cell q3,(hHc.below hbz (Nat.le_refl _)).cell s0,(hHc.below hbz (Nat.le_refl _)).cell s1,(hHc.below hbz (Nat.le_refl _)).cell s2,(hHc.below hbz (Nat.le_refl _)).cell s3⟩
          clear hK K
          refine To 14 rfl fun K hK=>?_
          rw[if_pos (by rfl)]
          refine wp_app_items (.tmp 77) (.tmp 87) rfl wc.heap.size _ H (L.take k) rfl hX _ _ _ (itemC y y1 y2 y3 y4++itemC z z1 z2 z3 z4) [y,z] rfl rfl ((ItemsC.one hex).app (ItemsC.one hez)) hS3 (by rw[List.length_take];simp;omega) hbz.size fun v7 w7 hX7 hg7 hat7=>?_
          have hbz:=hbz.grown hg7 hbz.size (fun q hq=>(hX.lt q hq).1)
          refine Ko hK ?_ fun hHeld=>?_
          ·exact⟨(hHc.below hbz (Nat.le_refl _)).cell q0,(hHc.below hbz (Nat.le_refl _)).cell q1,(hHc.below hbz (Nat.le_refl _)).cell q2,(hHc.below hbz (Nat.le_refl _)).cell q3,(hHc.below hbz (Nat.le_refl _)).cell s0,(hHc.below hbz (Nat.le_refl _)).cell s1,(hHc.below hbz (Nat.le_refl _)).cell s2,(hHc.below hbz (Nat.le_refl _)).cell s3⟩
          clear hK K
          refine To 18 rfl fun K hK=>?_
          rw[if_pos (by rfl)]
          refine wp_app_items (.tmp 88) (.tmp 91) rfl wc.heap.size _ H (L.take k++[y,z]) rfl hX7 _ _ _ cs2 (L.drop k) rfl (by rw[List.length_drop];omega) hc2 ?_ (by rw[List.length_append,List.length_take,List.length_drop];simp;omega) hbz.size fun v8 w8 hX8 hg8 hat8=>?_
          ·exact(Src.slicek hS2 hc2 hLl HVC.out).below hbz
          have hbz:=hbz.grown hg8 hbz.size (fun q hq=>(hX7.lt q hq).1)
          refine Ko hK ?_ fun hHeld=>?_
          ·exact⟨(hHc.below hbz (Nat.le_refl _)).cell q0,(hHc.below hbz (Nat.le_refl _)).cell q1,(hHc.below hbz (Nat.le_refl _)).cell q2,(hHc.below hbz (Nat.le_refl _)).cell q3,(hHc.below hbz (Nat.le_refl _)).cell s0,(hHc.below hbz (Nat.le_refl _)).cell s1,(hHc.below hbz (Nat.le_refl _)).cell s2,(hHc.below hbz (Nat.le_refl _)).cell s3⟩
          clear hK K
          refine To 19 rfl fun K hK=>?_
          go_simp
          refine Kz hK ?_
          clear hK K
          refine Wd ?_
          clear hHeld hX hX7 hg hat hg7 hat7 hg8 hat8 hbq hS3 hS1 hS2 hc1 hc2 p0 p1 p2 p3 r0 r1 r2 r3 hHx;obtain⟨VA',vc',rfl,_⟩:=hX8.form;have hlen:(L.take k++[y,z]++L.drop k).length=j+2:=by rw[List.length_append,List.length_append,List.length_take,List.length_drop];simp;omega
          rw[hlen]at hX8;rw[hlen];have hO8:=hX8.more (base':=w.heap.size+1) (by have:=hTx.lt;omega);have hb8:=hbx.trans (hbz.mono hbx.size);have hT8:=hTx.below hbz;have HLN:=Hh hlen;clear hlen hX8;go_wp2_with fail
          go_roundw
          case rel =>
           refine⟨j+2,L.take k++[y,z]++L.drop k,b',VA',vc',by omega,by have:=HJ.out;omega,by go_num,rfl,rfl,HLN.out,hO8,fun x hx=>?_, ?_,fun h2=>?_,hb8,hT8⟩
           ·simp only[List.mem_append,List.mem_cons,List.not_mem_nil,or_false]at hx
            rcases hx with (hx | rfl | rfl) | hx
            ·exact HS.out.1 x (List.mem_of_mem_take hx)
            ·exact HM1.out.1
            ·exact HM1.out.2
            ·exact HS.out.1 x (List.mem_of_mem_drop hx)
           ·rw[encL_put,HPS.out,HS.out.2.1]
           ·have hL0:=HS.out.2.2 h2;have hkj:=HKJ.out h2
            refine⟨by rw[HBA2.out h2];exact hL0.1, ?_⟩
            rw[HPT.out,← hL0.2,hkj,List.take_of_length_le (by omega),List.drop_of_length_le (by omega)]
            simp
          case measure=>simp[intOf];omega
         ·go_simp
          have hS3:=below_src hbz 26 #[.int .i64 y.kind,.int .u64 y.n,.slice y1 y.bytes.length y2,.slice y3 y.items.length y4,.int .i64 z.kind,.int .u64 z.n,.slice z1 z.bytes.length z2,.slice z3 z.items.length z4]
          try have hX:=hX.alloc (.cells #[.int .i64 y.kind,.int .u64 y.n,.slice y1 y.bytes.length y2,.slice y3 y.items.length y4,.int .i64 z.kind,.int .u64 z.n,.slice z1 z.bytes.length z2,.slice z3 z.items.length z4] 26)
          have hbz:=hbz.alloc hbz.size (.cells #[.int .i64 y.kind,.int .u64 y.n,.slice y1 y.bytes.length y2,.slice y3 y.items.length y4,.int .i64 z.kind,.int .u64 z.n,.slice z1 z.bytes.length z2,.slice z3 z.items.length z4] 26)
          refine Ko hK ?_ fun hHeld=>?_
          ·exact⟨(hHc.below hbz (Nat.le_refl _)).cell q0,(hHc.below hbz (Nat.le_refl _)).cell q1,(hHc.below hbz (Nat.le_refl _)).cell q2,(hHc.below hbz (Nat.le_refl _)).cell q3,(hHc.below hbz (Nat.le_refl _)).cell s0,(hHc.below hbz (Nat.le_refl _)).cell s1,(hHc.below hbz (Nat.le_refl _)).cell s2,(hHc.below hbz (Nat.le_refl _)).cell s3⟩
          clear hK K
          refine To 3 rfl fun K hK=>?_
          rw[if_pos (by rfl)]
          refine wp_app_items (.const (.slice none 0 0)) (.tmp 76) rfl wc.heap.size (.slice none 0 0) H [] rfl (OwnI.nil _ _ _) _ _ _ cs1 (L.take k) rfl (by rw[List.length_take];omega) hc1 (hS1.below hbz) (by simp;omega) hbz.size fun v5 w5 hX hg hat=>?_
          rw[List.nil_append]at hX;have hbq:=grown_none (by simpa [Value.ownBlock] using hg);have hbz:=hbz.trans (hbq.mono hbz.size)
          try have hS3:=hS3.below hbq
          refine Ko hK ?_ fun hHeld=>?_
          ·exact⟨(hHc.below hbz (Nat.le_refl _)).cell q0,(hHc.below hbz (Nat.le_refl _)).cell q1,(hHc.below hbz (Nat.le_refl _)).cell q2,(hHc.below hbz (Nat.le_refl _)).cell q3,(hHc.below hbz (Nat.le_refl _)).cell s0,(hHc.below hbz (Nat.le_refl _)).cell s1,(hHc.below hbz (Nat.le_refl _)).cell s2,(hHc.below hbz (Nat.le_refl _)).cell s3⟩
          clear hK K
          refine To 14 rfl fun K hK=>?_
          rw[if_pos (by rfl)]
          refine wp_app_items (.tmp 77) (.tmp 87) rfl wc.heap.size _ H (L.take k) rfl hX _ _ _ (itemC y y1 y2 y3 y4++itemC z z1 z2 z3 z4) [y,z] rfl rfl ((ItemsC.one hex).app (ItemsC.one hez)) hS3 (by rw[List.length_take];simp;omega) hbz.size fun v7 w7 hX7 hg7 hat7=>?_
          have hbz:=hbz.grown hg7 hbz.size (fun q hq=>(hX.lt q hq).1)
          refine Ko hK ?_ fun hHeld=>?_
          ·exact⟨(hHc.below hbz (Nat.le_refl _)).cell q0,(hHc.below hbz (Nat.le_refl _)).cell q1,(hHc.below hbz (Nat.le_refl _)).cell q2,(hHc.below hbz (Nat.le_refl _)).cell q3,(hHc.below hbz (Nat.le_refl _)).cell s0,(hHc.below hbz (Nat.le_refl _)).cell s1,(hHc.below hbz (Nat.le_refl _)).cell s2,(hHc.below hbz (Nat.le_refl _)).cell s3⟩
          clear hK K
          refine To 18 rfl fun K hK=>?_
          rw[if_pos (by rfl)]
          refine wp_app_items (.tmp 88) (.tmp 91) rfl wc.heap.size _ H (L.take k++[y,z]) rfl hX7 _ _ _ cs2 (L.drop k) rfl (by rw[List.length_drop];omega) hc2 ?_ (by rw[List.length_append,List.length_take,List.length_drop];simp;omega) hbz.size fun v8 w8 hX8 hg8 hat8=>?_
          ·exact(Src.slicek hS2 hc2 hLl HVC.out).below hbz
          have hbz:=hbz.grown hg8 hbz.size (fun q hq=>(hX7.lt q hq).1)
          refine Ko hK ?_ fun hHeld=>?_
          ·exact⟨(hHc.below hbz (Nat.le_refl _)).cell q0,(hHc.below hbz (Nat.le_refl _)).cell q1,(hHc.below hbz (Nat.le_refl _)).cell q2,(hHc.below hbz (Nat.le_refl _)).cell q3,(hHc.below hbz (Nat.le_refl _)).cell s0,(hHc.below hbz (Nat.le_refl _)).cell s1,(hHc.below hbz (Nat.le_refl _)).cell s2,(hHc.below hbz (Nat.le_refl _)).cell s3⟩
          clear hK K
          refine To 19 rfl fun K hK=>?_
          go_simp
          refine Kz hK ?_
          clear hK K
          refine Wd ?_
          clear hHeld hX hX7 hg hat hg7 hat7 hg8 hat8 hbq hS3 hS1 hS2 hc1 hc2 p0 p1 p2 p3 r0 r1 r2 r3 hHx;obtain⟨VA',vc',rfl,_⟩:=hX8.form;have hlen:(L.take k++[y,z]++L.drop k).length=j+2:=by rw[List.length_append,List.length_append,List.length_take,List.length_drop];simp;omega
          rw[hlen]at hX8;rw[hlen];have hO8:=hX8.more (base':=w.heap.size+1) (by have:=hTx.lt;omega);have hb8:=hbx.trans (hbz.mono hbx.size);have hT8:=hTx.below hbz;have HLN:=Hh hlen;clear hlen hX8;go_wp2_with fail
          go_roundw
          case rel =>
           refine⟨j+2,L.take k++[y,z]++L.drop k,b',VA',vc',by omega,by have:=HJ.out;omega,by go_num,rfl,rfl,HLN.out,hO8,fun x hx=>?_, ?_,fun h2=>?_,hb8,hT8⟩
           ·simp only[List.mem_append,List.mem_cons,List.not_mem_nil,or_false]at hx
            rcases hx with (hx | rfl | rfl) | hx
            ·exact HS.out.1 x (List.mem_of_mem_take hx)
            ·exact HM1.out.1
            ·exact HM1.out.2
            ·exact HS.out.1 x (List.mem_of_mem_drop hx)
           ·rw[encL_put,HPS.out,HS.out.2.1]
           ·have hL0:=HS.out.2.2 h2;have hkj:=HKJ.out h2
            refine⟨by rw[HBA2.out h2];exact hL0.1, ?_⟩
            rw[HPT.out,← hL0.2,hkj,List.take_of_length_le (by omega),List.drop_of_length_le (by omega)]
            simp
          case measure=>simp[intOf];omega
    ·have hkl:j=ps.length:=by omega
     subst hkl;have hmodL:(encL L).length=(encL ps).length:=by have:=HS.out.2.1;rw[List.take_length]at this;exact this
     have hL2:ascP ps=true→b=false∧L=ps:=fun h=>by have:=HS.out.2.2 h;rw[List.take_length]at this;exact this
     have HZ:=Hh (And.intro hmodL hL2);clear hmodL hL2
     cases b with
     | true =>
      go_wp2_with (with_reducible refine stop_store ?_)
      refine stI hTr fun w9 hT9 hg9=>?_
      have hG9:=(Grows.of_below hH hbr).grownOwn hn0 (Nat.le_refl _) hg9;go_wp2_with fail
      refine ret_row_tmp rfl rfl hT9 rfl rfl size_item rfl ?_
      exact⟨_,.inr ⟨7,rfl,by omega,⟨none,0,none,0,H,rfl,hG9,IsItem.plain H 0 0 (by omega) (by omega)⟩,fun h=>by have:=(HZ.out.2 h.2.1).1;cases this⟩⟩
     | false =>
      obtain⟨H8,hl8,hh8,hf8,hz8,hle1,hle2,hel8⟩:=hOr.snap (hH.below hbr (Nat.le_refl _)) (fun g hg=>hH.none_of_ge (by have:=(hOr.lt g (own_of hg)).1;omega))
      have hGz:Grows w H wr H8:=⟨hbr,hl8,hh8,fun b o hb=>by
       rcases hf8 b o hb with h | h
       ·exact .inl h
       ·exact .inr (by have:=(hOr.lt b (own_of h)).1;omega)⟩
      have hn8:H8 w.heap.size=none:=by
       cases h8:H8 w.heap.size with
       | none=>rfl
       | some o =>
        rcases hf8 _ o h8 with h | h
        ·rw[hn0]at h;cases h
        ·have:=(hOr.lt w.heap.size (own_of h)).1;omega
      have hLl2:=hz8;obtain⟨x7,hx7⟩:∃ x,Itm.mk 5 0 [] L=x:=⟨_,rfl⟩
      have hi8:IsItem H8 none 0 VA vc x7:=by
       rw[← hx7,IsItem]
       exact⟨⟨by omega,by omega,by omega,hle1,hle2⟩,IsBytes.nil _,hel8⟩
      have ha8:ItemA H8 5 0 none 0 0 VA ps.length vc x7:=by
       refine⟨by rw[← hx7];rfl,by rw[← hx7];rfl,by rw[← hx7];rfl, ?_,hi8⟩
       rw[← hx7];exact hz8
      have hG9:=hGz.alloc (.cells #[.int .i64 5,.int .u64 0,.slice none 0 0,.slice VA ps.length vc] 26);have hT9:=hTr.alloc (.cells #[.int .i64 5,.int .u64 0,.slice none 0 0,.slice VA ps.length vc] 26);have hB9:=Blk.new wr 26 #[.int .i64 5,.int .u64 0,.slice none 0 0,.slice VA ps.length vc];have V:=Hh (ref_Valid (hTab.mono hl8) ha8 _ hG9.holds);have HA8:=Hh ha8;have HX7:=Hh hx7;clear hx7 hi8 ha8 hle1 hle2 hel8 hz8 hLl2 hf8 hOr hTr
      cases hv:validP x7 with
      | false =>
       rw[hv]at V;have HV:=Hh hv;clear hv;go_wp2_with fail
       refine V.out.mono ?_
       rintro e w10 ⟨rfl,hb10⟩
       have hG10:=hG9.below_ hb10;have hT10:=hT9.below hb10;clear hG9 hT9 hB9 hGz hb10;go_wp2_with (with_reducible refine stop_store ?_)
       refine stI hT10 fun w11 hT11 hg11=>?_
       have hG11:=hG10.grownOwn hn8 (Nat.le_refl _) hg11;go_wp2_with fail
       refine ret_row_tmp rfl rfl hT11 rfl rfl size_item rfl ?_
       exact⟨_,.inr ⟨8,rfl,by omega,⟨none,0,none,0,H8,rfl,hG11,IsItem.plain H8 0 0 (by omega) (by omega)⟩,fun h=>by
        have h1:=HV.out;rw[← HX7.out,(HZ.out.2 h.2.1).2,h.2.2.2]at h1
        cases h1⟩⟩
      | true =>
       rw[hv]at V;have HV:=Hh hv;clear hv;go_wp2_with fail
       refine V.out.mono ?_
       rintro e w10 ⟨rfl,hb10⟩
       have hG10:=hG9.below_ hb10;have hT10:=hT9.below hb10;have hB10:=hB9.below hb10;have c0:=hB10.cell 0 rfl;have c1:=hB10.cell 1 rfl;have c2:=hB10.cell 2 rfl;have c3:=hB10.cell 3 rfl;have C:=Hh (ref_Copy x7 H8 _ _ _ _ _ _ _ _ w10 (validP_modest HV.out) HA8.out hG10.holds);clear hG9 hT9 hB9 hGz hb10;go_wp2_with fail
       refine C.out.mono ?_
       rintro e w11 ⟨v11,rfl,ja,jb,jc,jd,H11,rfl,hG11,hi11⟩
       have hT11:=hT10.below hG11.below;have hn11:=hG11.none hn8 hT10.lt;have hG12:=hG10.trans hG11;clear hT10 hG10 hG11 c0 c1 c2 c3;go_wp2_with (with_reducible refine stop_store ?_)
       refine stI hT11 fun w12 hT12 hg12=>?_
       have hG13:=hG12.grownOwn hn11 (Nat.le_refl _) hg12;go_wp2_with fail
       refine ret_row_tmp rfl rfl hT12 rfl rfl size_item rfl ?_
       exact⟨_,.inl ⟨L,rfl,by rw[HX7.out];exact⟨ja,jb,jc,jd,H11,rfl,hG13,hi11⟩,by rw[HX7.out];exact HV.out,HZ.out.1,fun h=>(HZ.out.2 h).2⟩⟩
theorem asc_two:∀ {ps:List Itm},ps.length=2→ascP ps=true
 | [_,_],_=>rfl
theorem BuildSaid2.to {w w':World}{H:Snap}{ps:List Itm}{e:Ending}(h:BuildSaid2 w H ps e w'):BuildSaid w H ps e w':=by
 rcases h with ⟨v,⟨l,h1,h2,h3,h4,h5⟩ | ⟨c,h1,h2,h3,h4⟩⟩
 ·exact⟨v,.inl ⟨l,h1,h2,h3,h4,fun hl=>h5 (asc_two hl)⟩⟩
 ·exact⟨v,.inr ⟨c,h1,h2,h3,fun⟨a,b,d⟩=>h4 ⟨by omega,asc_two a,b,d⟩⟩⟩
theorem ref_Build {H:Snap}(hTab:Tabs H) {A:Option Addr}{c:Nat}{ps:List Itm}(hr:IsRowI H A c ps) (hl:ps.length≤1099511627776) (w:World) (hH:Holds w H) :
  Calls Tryz.prog 72 #[.slice A ps.length c] w (BuildSaid w H ps):=(ref_Build2 hTab hr hl w hH).mono fun _ _ h=>BuildSaid2.to h
def PutSaid (w:World) (H:Snap) (p u:Itm) (n:Int) (v:Itm) (e:Ending) (w':World):Prop :=
 ∃ p' u' val c,e=.returned (.tuple #[val,.int .i64 c])∧GivesH w H p' u' val w'∧(c=0→validH p' u'=true∧szL p'≤szL p+9+(encB v).length∧szL u'≤szL u+9+(encB v).length)∧Modest p'∧Modest u'∧
  (p=emptyM→u=emptyM→n=1→v=intP 10→c=0)
theorem IsRowI.two {H:Snap}{A:Option Addr}{c:Nat}{l:List Itm}(hle:l.length≤c) (hm:c≤9223372036854775807) (he:0<l.length→∃ b off,A=some ⟨b,off,none⟩∧IsElems H b off l):IsRowI H A c l:=⟨hle,hm,he⟩
def BOut (ps:List Itm) (c:Int) (x:Itm):Prop :=
 (c=0∧∃ l,x=.mk 5 0 [] l∧validP x=true∧(encL l).length=(encL ps).length∧(ps.length=2→l=ps))∨
 (c≠0∧x=zeroItm∧¬ (ps.length=2∧(∀ x∈ps,validP x=true)∧validP (.mk 5 0 [] ps)=true))
theorem BuildSaid.one {w w':World}{H:Snap}{ps:List Itm}{e:Ending}(h:BuildSaid w H ps e w'):∃ v c x,e=.returned (.tuple #[v,.int .i64 c])∧Gives w H x v w'∧BOut ps c x:=by
 obtain⟨v,⟨l,h1,h2,h3,h4,h5⟩ | ⟨c,h1,h2,h3,h4⟩⟩:=h
 ·exact⟨v,0,_,h1,h2,.inl ⟨rfl,l,rfl,h3,h4,h5⟩⟩
 ·exact⟨v,c,_,h1,h3,.inr ⟨h2,rfl,h4⟩⟩
theorem IsRowI.src {H:Snap}{A:Option Addr}{c:Nat}{l:List Itm}(h:IsRowI H A c l):∃ cs,ItemsC H cs l∧Row H A cs:=by
 by_cases h0:0<l.length
 ·obtain⟨b,off,rfl,he⟩:=h.elems h0;obtain⟨cs,hc,hx⟩:=he.cells
  exact⟨cs,hc,fun _=>⟨b,off,rfl,hx⟩⟩
 ·have hl:l=[]:=List.length_eq_zero_iff.1 (by omega);subst hl
  exact⟨[],ItemsC.nil H,Row.nil _ _⟩
theorem own_hid {w wr:World}{H Hr:Snap}(hG:Grows w H wr Hr) {r:Option Nat}(h:At0 wr (Value.slice none 0 0).ownBlock r):∀ q,r=some q→Hr q=none:=fun q hq=>by
 rcases h with h | ⟨g,h1,h2⟩
 ·rw[h]at hq;simp[Value.ownBlock]at hq
 ·rw[hq]at h1;injection h1 with h1;subst h1;exact hG.hidden h2
theorem own_hid2 {w wr:World}{H Hr:Snap}(hG:Grows w H wr Hr) {r0 r:Option Nat}(h0:∀ q,r0=some q→Hr q=none) (h:At0 wr r0 r):∀ q,r=some q→Hr q=none:=fun q hq=>by
 rcases h with h | ⟨g,h1,h2⟩
 ·exact h0 q (by rw[← h,hq])
 ·rw[hq]at h1;injection h1 with h1;subst h1;exact hG.hidden h2
theorem snap_keep {H H':Snap}{A:Option Addr}(hf:∀ b o,H' b=some o→H b=some o∨A.map (·.block)=some b) {q:Nat}(h0:H q=none) (hA:A.map (·.block)=some q→False):H' q=none:=by
 cases h:H' q with
 | none=>rfl
 | some o =>
  rcases hf q o h with h1 | h1
  ·rw[h0]at h1;cases h1
  ·exact(hA h1).elim
theorem szL_put (m:Itm) (n:Int) (v:Itm) {l:List Itm}(h:(encL l).length=(encL (m.items++[intP n,v])).length):szL (.mk 5 0 [] l)≤szL m+9+(encB v).length:=by
 have:=encB_int n;rw[szL,szL]
 simp only[Itm.items,h,encL_append,encL,List.length_append,List.append_nil]
 omega
theorem ref12_Put {H:Snap}(hTab:Tabs H) {p u v:Itm}{a b d:Ad}(hp:IsItem H a.ba a.bc a.ia a.ic p) (hu:IsItem H b.ba b.bc b.ia b.ic u) (hv:IsItem H d.ba d.bc d.ia d.ic v) (prot:Bool) (n:Int) (hn1 : -9223372036854775808≤n) (hn2:n≤9223372036854775807) (w:World) (hH:Holds w H) :
  Calls Tryz.prog 39 #[.agg (hdrC p a u b),.bool prot,.int .i64 n,itemV v d.ba d.bc d.ia d.ic] w (PutSaid w H p u n v):=by
 have hB:=((Blk.new w 28 (hdrC p a u b)).alloc (itemO v d.ba d.bc d.ia d.ic)).alloc zeroH;have hV:=(Blk.new (w.alloc (.cells (hdrC p a u b) 28)) 26 #[.int .i64 v.kind,.int .u64 v.n,.slice d.ba v.bytes.length d.bc,.slice d.ia v.items.length d.ic]).alloc zeroH;have hT:=Blk.new ((w.alloc (.cells (hdrC p a u b) 28)).alloc (itemO v d.ba d.bc d.ia d.ic)) 28 (hdrC zeroItm ⟨none,0,none,0⟩ zeroItm ⟨none,0,none,0⟩)
 simp only[size_alloc]at hV hT
 have hG:=(((Grows.refl hH).alloc (.cells (hdrC p a u b) 28)).alloc (itemO v d.ba d.bc d.ia d.ic)).alloc zeroH;have hn0:H (w.heap.size+1+1)=none:=hH.none_of_ge (by omega);have VH:=Hh (ref12_ValidH hTab hp hu _ hG.holds);have HN:=Hh (And.intro hn1 hn2);clear hn1 hn2
 cases hvh:validH p u with
 | false =>
  rw[hvh]at VH;have HV:=Hh hvh;clear hvh;go_enter Tryz.func39,Tryz.ntmps39
  go_wp2_with fail
  refine VH.out.mono ?_
  rintro e w1 ⟨rfl,hb1⟩
  have hT:=hT.below hb1;have hG:=hG.below_ hb1;clear VH hB hV hb1;go_wp2_with (with_reducible refine stop_store ?_)
  refine wpList_store_item rfl _ _ _ rfl rfl _ _ rfl rfl _ _ hT size_hdr rfl (by kernel_rfl) fun wz hTz hgz=>?_
  have hGz:=hG.grownOwn hn0 (by omega) hgz;go_wp2_with fail
  refine ret_row_tmp rfl rfl hTz rfl rfl size_hdr rfl ?_
  exact⟨zeroItm,zeroItm,_,1,rfl,⟨⟨none,0,none,0⟩,⟨none,0,none,0⟩,H,rfl,hGz,IsItem.plain _ 0 0 (by omega) (by omega),IsItem.plain _ 0 0 (by omega) (by omega)⟩,(fun h=>by cases h),modest_zero,modest_zero,fun h1 h2 h3 h4=>by subst h1;subst h2;have:=HV.out;rw[empty_valid]at this;cases this⟩
 | true =>
 rw[hvh]at VH;have HV:=Hh hvh;clear hvh;go_enter Tryz.func39,Tryz.ntmps39
 go_wp2_with fail
 refine VH.out.mono ?_
 rintro e w1 ⟨rfl,hb1⟩
 have hB:=hB.below hb1;have hV:=hV.below hb1;have hT:=hT.below hb1;have hG:=hG.below_ hb1;have VV:=Hh (ref_Valid hTab hv.arg w1 hG.holds);have v0:=hV.cell 0 rfl;have v1:=hV.cell 1 rfl;have v2:=hV.cell 2 rfl;have v3:=hV.cell 3 rfl
 cases hvv:validP v with
 | false =>
  rw[hvv]at VV;have HVV:=Hh hvv;clear hvv;go_wp2_with fail
  refine VV.out.mono ?_
  rintro e w2 ⟨rfl,hb2⟩
  have hT:=hT.below hb2;have hG:=hG.below_ hb2;clear VH VV hB hV hb2 hb1 v0 v1 v2 v3;go_wp2_with (with_reducible refine stop_store ?_)
  refine wpList_store_item rfl _ _ _ rfl rfl _ _ rfl rfl _ _ hT size_hdr rfl (by kernel_rfl) fun wz hTz hgz=>?_
  have hGz:=hG.grownOwn hn0 (by omega) hgz;go_wp2_with fail
  refine ret_row_tmp rfl rfl hTz rfl rfl size_hdr rfl ?_
  exact⟨zeroItm,zeroItm,_,1,rfl,⟨⟨none,0,none,0⟩,⟨none,0,none,0⟩,H,rfl,hGz,IsItem.plain _ 0 0 (by omega) (by omega),IsItem.plain _ 0 0 (by omega) (by omega)⟩,(fun h=>by cases h),modest_zero,modest_zero,fun h1 h2 h3 h4=>by subst h4;have:=HVV.out;rw[show(10:Int)=((10:Nat):Int) from rfl,validP_int]at this;cases this⟩
 | true =>
 rw[hvv]at VV;have HVV:=Hh hvv;clear hvv;go_wp2_with fail
 refine VV.out.mono ?_
 rintro e w2 ⟨rfl,hb2⟩
 have hB:=hB.below hb2;have hV:=hV.below hb2;have hT:=hT.below hb2;have hG:=hG.below_ hb2;have vv:=validH_valid HV.out;have hmp:=validP_modest vv.1;have hmu:=validP_modest vv.2.1;have HVP:=Hh vv;have FD:=Hh (ref_find hmp hmu hp hu n HN.out.1 HN.out.2 w2 hG.holds);have HMP:=Hh (And.intro hmp hmu);have b0:=hB.cell 0 rfl;have b1:=hB.cell 1 rfl;have b2:=hB.cell 2 rfl;have b3:=hB.cell 3 rfl;have b4:=hB.cell 4 rfl;have b5:=hB.cell 5 rfl;have b6:=hB.cell 6 rfl;have b7:=hB.cell 7 rfl;clear v0 v1 v2 v3 hb1 hb2 vv hmp hmu VH VV;go_wp2_with fail
 refine FD.out.mono ?_
 rintro e w3 ⟨v3,rfl,ka,kb,kc,kd,H3,rfl,hG3,hi3⟩
 have hB:=hB.below hG3.below;have hV:=hV.below hG3.below;have hn0:=hG3.none hn0 hT.lt;have hT:=hT.below hG3.below;have hG:=hG.trans hG3;have hle3:=hG3.le;clear b0 b1 b2 b3 b4 b5 b6 b7 FD hG3;obtain⟨FX,hFX⟩:∃ FX,(findR p u n).getD zeroItm=FX:=⟨_,rfl⟩
 rw[hFX]at hi3⊢;have hF4:=hV.alloc (itemO FX ka kb kc kd);have hB:=hB.alloc (itemO FX ka kb kc kd);have hT:=hT.alloc (itemO FX ka kb kc kd);have hG:=hG.alloc (itemO FX ka kb kc kd);have hV:=hF4;have HFX:=Hh hFX;clear hFX hF4 hi3
 cases hfd:(findR p u n).isSome with
 | true =>
  have HF:=Hh hfd;clear hfd;go_upto_region 5 with fail
  go_wp2_with (with_reducible refine stop_store ?_)
  refine wpList_store_item rfl _ _ _ rfl rfl _ _ rfl rfl _ _ hT size_hdr rfl (by kernel_rfl) fun wz hTz hgz=>?_
  have hGz:=hG.grownOwn hn0 (by omega) hgz;go_wp2_with fail
  refine ret_row_tmp rfl rfl hTz rfl rfl size_hdr rfl ?_
  exact⟨zeroItm,zeroItm,_,7,rfl,⟨⟨none,0,none,0⟩,⟨none,0,none,0⟩,_,rfl,hGz,IsItem.plain _ 0 0 (by omega) (by omega),IsItem.plain _ 0 0 (by omega) (by omega)⟩,(fun h=>by cases h),modest_zero,modest_zero,fun h1 h2 h3 h4=>by subst h1;subst h2;have:=HF.out;rw[empty_find]at this;cases this⟩
 | false =>
  have HF:=Hh hfd;clear hfd;have b0:=hB.cell 0 rfl;have b1:=hB.cell 1 rfl;have b2:=hB.cell 2 rfl;have b3:=hB.cell 3 rfl;have b4:=hB.cell 4 rfl;have b5:=hB.cell 5 rfl;have b6:=hB.cell 6 rfl;have b7:=hB.cell 7 rfl;have C:=Hh (ref12_Copy HMP.out.1 HMP.out.2 (hp.mono hG.le) (hu.mono hG.le) _ hG.holds);go_wp2_with fail
  refine C.out.mono ?_
  rintro e w4 ⟨v4,rfl,a2,b2',H4,rfl,hG4,hp4,hu4⟩
  have hV:=hV.below hG4.below;have hn0:=hG4.none hn0 hT.lt;have hT:=hT.below hG4.below;have hG:=hG.trans hG4;have hv4:=hv.mono hG.le;clear b0 b1 b2 b3 b4 b5 b6 b7 C hG4 hB;have hC:=(Blk.new w4 28 (hdrC p a2 u b2')).alloc (itemO u b2'.ba b2'.bc b2'.ia b2'.ic);have hM:=Blk.new (w4.alloc (.cells (hdrC p a2 u b2') 28)) 26 #[.int .i64 u.kind,.int .u64 u.n,.slice b2'.ba u.bytes.length b2'.bc,.slice b2'.ia u.items.length b2'.ic]
  simp only[size_alloc]at hM
  have hT4:=hT.lt;have hnC:H4 w4.heap.size=none:=hG.holds.none_of_ge (Nat.le_refl _);have hnM:H4 (w4.heap.size+1)=none:=hG.holds.none_of_ge (by omega);have hV:=(hV.alloc (.cells (hdrC p a2 u b2') 28)).alloc (itemO u b2'.ba b2'.bc b2'.ia b2'.ic);have hT:=(hT.alloc (.cells (hdrC p a2 u b2') 28)).alloc (itemO u b2'.ba b2'.bc b2'.ia b2'.ic);have hG:=(hG.alloc (.cells (hdrC p a2 u b2') 28)).alloc (itemO u b2'.ba b2'.bc b2'.ia b2'.ic);go_upto_if 36 with fail
  go_cut [36] (fun s36 wx=>∃ (mI:Itm) (am:Ad),(prot=true→mI=p)∧(prot=false→mI=u)∧IsItem H4 am.ba am.bc am.ia am.ic mI∧Blk wx (w4.heap.size+1) 26 #[.int .i64 mI.kind,.int .u64 mI.n,.slice am.ba mI.bytes.length am.bc,.slice am.ia mI.items.length am.ic]∧Blk wx w4.heap.size 28 (hdrC p a2 u b2')∧
   Blk wx (w.heap.size+1) 26 #[.int .i64 v.kind,.int .u64 v.n,.slice d.ba v.bytes.length d.bc,.slice d.ia v.items.length d.ic]∧Blk wx (w.heap.size+1+1) 28 (hdrC zeroItm ⟨none,0,none,0⟩ zeroItm ⟨none,0,none,0⟩)∧Grows w H wx H4)
  case first =>
   cases prot with
   | true =>
    go_upto_region 9 with fail
    have c0:=hC.cell 0 rfl;have c1:=hC.cell 1 rfl;have c2:=hC.cell 2 rfl;have c3:=hC.cell 3 rfl;go_wp2_with (with_reducible refine stop_store ?_)
    refine stI hM fun w7 hM7 hg7=>?_
    have hC7:=hC.gr hg7 (by omega);have hV7:=hV.gr hg7 (by omega);have hT7:=hT.gr hg7 (by omega);have hG7:=hG.grownOwn hnM (by omega) hg7;go_wp2_with fail
    go_meet
    exact⟨p,a2,(fun _=>rfl),(fun h=>by cases h),hp4,hM7,hC7,hV7,hT7,hG7⟩
   | false =>
    go_wp2_with fail
    go_meet
    exact⟨u,b2',(fun h=>by cases h),(fun _=>rfl),hu4,hM,hC,hV,hT,hG⟩
  case rest =>
   clear hC hM hV hT hG;obtain⟨mI,am,hm1,hm2,hmi,hM,hC,hV,hT,hG⟩:=hcut;have HM:=Hh (And.intro hm1 hm2)
   have hmil:mI.items.length≤256:=by
    have h1:=(validP_items HVP.out.1).2.1;have h2:=(validP_items HVP.out.2.1).2.1
    cases prot
    ·rw[hm2 rfl];exact h2
    ·rw[hm1 rfl];exact h1
   clear hm1 hm2;have hr:=hmi.row;obtain⟨PS,hPS⟩:∃ PS,mI.items++[intP n,v]=PS:=⟨_,rfl⟩
   have hPSl:PS.length=mI.items.length+2:=by rw[← hPS];simp
   have HPS:=Hh (And.intro hPS hPSl);clear hPS hPSl;have hM:=hM.drew;have hC:=hC.drew;have hV:=hV.drew;have hT:=hT.drew;have hG:=hG.drew;go_upto_region 10 with fail
   go_cut [14] (fun s14 wx=>∃ (c:Int) (x:Itm) (ax:Ad) (H8:Snap),s14=.int .i64 c∧BOut PS c x∧IsItem H8 ax.ba ax.bc ax.ia ax.ic x∧H4.le H8∧H8 (w.heap.size+1+1)=none∧H8 w4.heap.size=none∧H8 (w4.heap.size+1)=none∧
    Blk wx (w4.heap.size+1) 26 #[.int .i64 x.kind,.int .u64 x.n,.slice ax.ba x.bytes.length ax.bc,.slice ax.ia x.items.length ax.ic]∧Blk wx w4.heap.size 28 (hdrC p a2 u b2')∧
    Blk wx (w.heap.size+1+1) 28 (hdrC zeroItm ⟨none,0,none,0⟩ zeroItm ⟨none,0,none,0⟩)∧Grows w H wx H8)
   case first =>
    have hle:=Snap.le.refl H4
    refine wp_region_ways 13 (fun w'=>w'.cell? ⟨w.heap.size+1,0,none⟩=some (.int .i64 v.kind)∧w'.cell? ⟨w.heap.size+1,1,none⟩=some (.int .u64 v.n)∧w'.cell? ⟨w.heap.size+1,2,none⟩=some (.slice d.ba v.bytes.length d.bc)∧w'.cell? ⟨w.heap.size+1,3,none⟩=some (.slice d.ia v.items.length d.ic)) (by kernel_rfl) (⟨hV.cell 0 rfl,hV.cell 1 rfl,hV.cell 2 rfl,hV.cell 3 rfl⟩) (fun hHeld=>?_)
    refine Tk 0 rfl hHeld ?_
    refine Tk 3 rfl hHeld ?_
    refine Tk 5 rfl hHeld ?_
    refine To 1 rfl fun K hK=>?_
    have m3:=hM.cell 3 rfl;go_simp
    refine Ko hK ?_ fun hHeld=>?_
    ·exact⟨hV.cell 0 rfl,hV.cell 1 rfl,hV.cell 2 rfl,hV.cell 3 rfl⟩
    clear hK K
    refine To 2 rfl fun K hK=>?_
    rw[if_pos (by rfl)];obtain⟨cs,hcs,hrw⟩:=hr.src
    refine wp_app_items (.const (.slice none 0 0)) (.tmp 41) rfl (w4.heap.size+2) (.slice none 0 0) _ [] rfl (OwnI.nil _ _ _) _ _ _ cs mI.items rfl rfl hcs (Src.of_row hrw hG.holds) (by simp;omega) (by have:=hM.lt;omega) fun v5 w5 hX hg hat=>?_
    rw[List.nil_append]at hX;have hbq:=grown_none (by simpa [Value.ownBlock] using hg);have hnX:=own_hid hG hat;have hM:=hM.below hbq;have hC:=hC.below hbq;have hV:=hV.below hbq;have hT:=hT.below hbq;have hG:=hG.below_ hbq
    try have hS6:=hS6.below hbq
    refine Ko hK ?_ fun hHeld=>?_
    ·exact⟨hV.cell 0 rfl,hV.cell 1 rfl,hV.cell 2 rfl,hV.cell 3 rfl⟩
    clear hK K
    refine To 4 rfl fun K hK=>?_
    go_simp
    refine(ref_Int n HN.out.1 HN.out.2 _ hG.holds).mono ?_
    rintro e w6 ⟨v6,rfl,ja,jb,jc,jd,H6,rfl,hG6,hi6⟩
    have hr:=hr.mono hG6.le
    try have hnX:=fun q hq=>hG6.none (hnX q hq) (hX.lt q hq).2
    try have hX:=(hX.below hG6.below).mono hG6.le
    have hv4:=hv4.mono hG6.le;have hn0:=hG6.none hn0 hT.lt;have hnC:=hG6.none hnC hC.lt;have hnM:=hG6.none hnM hM.lt;have hM:=hM.below hG6.below;have hC:=hC.below hG6.below;have hV:=hV.below hG6.below;have hT:=hT.below hG6.below;have hle:=hle.trans hG6.le;have hG:=hG.trans hG6
    refine Ko hK ?_ fun hHeld=>?_
    ·exact⟨hV.cell 0 rfl,hV.cell 1 rfl,hV.cell 2 rfl,hV.cell 3 rfl⟩
    clear hK K
    refine To 6 rfl fun K hK=>?_
    go_simp
    have hS6:=below_src hG.below 26 #[.int .i64 (intP n).kind,.int .u64 (intP n).n,.slice ja (intP n).bytes.length jb,.slice jc (intP n).items.length jd,.int .i64 v.kind,.int .u64 v.n,.slice d.ba v.bytes.length d.bc,.slice d.ia v.items.length d.ic]
    try have hX:=hX.alloc (.cells #[.int .i64 (intP n).kind,.int .u64 (intP n).n,.slice ja (intP n).bytes.length jb,.slice jc (intP n).items.length jd,.int .i64 v.kind,.int .u64 v.n,.slice d.ba v.bytes.length d.bc,.slice d.ia v.items.length d.ic] 26)
    have hM:=hM.alloc (.cells #[.int .i64 (intP n).kind,.int .u64 (intP n).n,.slice ja (intP n).bytes.length jb,.slice jc (intP n).items.length jd,.int .i64 v.kind,.int .u64 v.n,.slice d.ba v.bytes.length d.bc,.slice d.ia v.items.length d.ic] 26);have hC:=hC.alloc (.cells #[.int .i64 (intP n).kind,.int .u64 (intP n).n,.slice ja (intP n).bytes.length jb,.slice jc (intP n).items.length jd,.int .i64 v.kind,.int .u64 v.n,.slice d.ba v.bytes.length d.bc,.slice d.ia v.items.length d.ic] 26);have hV:=hV.alloc (.cells #[.int .i64 (intP n).kind,.int .u64 (intP n).n,.slice ja (intP n).bytes.length jb,.slice jc (intP n).items.length jd,.int .i64 v.kind,.int .u64 v.n,.slice d.ba v.bytes.length d.bc,.slice d.ia v.items.length d.ic] 26);have hT:=hT.alloc (.cells #[.int .i64 (intP n).kind,.int .u64 (intP n).n,.slice ja (intP n).bytes.length jb,.slice jc (intP n).items.length jd,.int .i64 v.kind,.int .u64 v.n,.slice d.ba v.bytes.length d.bc,.slice d.ia v.items.length d.ic] 26)
    have hG:=hG.alloc (.cells #[.int .i64 (intP n).kind,.int .u64 (intP n).n,.slice ja (intP n).bytes.length jb,.slice jc (intP n).items.length jd,.int .i64 v.kind,.int .u64 v.n,.slice d.ba v.bytes.length d.bc,.slice d.ia v.items.length d.ic] 26)
    refine Ko hK ?_ fun hHeld=>?_
    ·exact⟨hV.cell 0 rfl,hV.cell 1 rfl,hV.cell 2 rfl,hV.cell 3 rfl⟩
    clear hK K
    refine To 7 rfl fun K hK=>?_
    rw[if_pos (by rfl)]
    refine wp_app_items (.tmp 42) (.tmp 46) rfl (w4.heap.size+2) _ _ mI.items rfl hX _ _ _ (itemC (intP n) ja jb jc jd++itemC v d.ba d.bc d.ia d.ic) [intP n,v] rfl rfl ((ItemsC.one hi6).app (ItemsC.one hv4)) hS6 (by simp;omega) (by have:=hM.lt;omega) fun v7 w7 hX7 hg7 hat7=>?_
    rw[HPS.out.1]at hX7;obtain⟨XA,xc,rfl,_⟩:=hX7.form;have hn7:=own_hid2 hG hnX hat7;have hM:=hM.grown hg7 (fun e=>by have:=(hX.lt _ e).1;omega);have hC:=hC.grown hg7 (fun e=>by have:=(hX.lt _ e).1;omega);have hV:=hV.grown hg7 (fun e=>by have:=(hX.lt _ e).1;omega);have hT:=hT.grown hg7 (fun e=>by have:=(hX.lt _ e).1;omega);have hG:=hG.grownRow hnX (fun q hq=>by have:=(hX.lt q hq).1;omega) hg7;obtain⟨H7,hl7,hh7,hf7,hz7,hle1,hle2,hel7⟩:=hX7.snap hG.holds (fun q hq=>hn7 q (own_of hq));have hlow:∀ q,XA.map (·.block)=some q→w4.heap.size+2≤q:=fun q hq=>(hX7.lt q (own_of hq)).1
    have hkeep:=fun q (hq:q<w4.heap.size+2) h0=>snap_keep hf7 (q:=q) h0 (fun e=>by have:=hlow q e;omega)
    have hG:Grows w H w7 H7:=⟨hG.below,hG.le.trans hl7,hh7,fun b o hb=>(hf7 b o hb).elim (hG.fresh b o) (fun e=>.inr (by have:=hlow b e;omega))⟩
    have hn0:=hkeep _ (by omega) hn0;have hnC:=hkeep _ (by omega) hnC;have hnM:=hkeep _ (by omega) hnM;have hle:=hle.trans hl7
    refine Ko hK ?_ fun hHeld=>?_
    ·exact⟨hV.cell 0 rfl,hV.cell 1 rfl,hV.cell 2 rfl,hV.cell 3 rfl⟩
    clear hK K
    refine To 8 rfl fun K hK=>?_
    go_simp
    refine(ref_Build (hTab.mono hG.le) (IsRowI.two hle1 hle2 hel7) (by have:=HPS.out.2;omega) w7 hG.holds).mono ?_
    intro e w9 hbs
    obtain⟨v9,c,x,rfl,⟨xa,xb,xc',xd,H9,rfl,hG9,hi9⟩,hbo⟩:=hbs.one;have hn0:=hG9.none hn0 hT.lt;have hnC:=hG9.none hnC hC.lt;have hnM:=hG9.none hnM hM.lt;have hM:=hM.below hG9.below;have hC:=hC.below hG9.below;have hV:=hV.below hG9.below;have hT:=hT.below hG9.below;have hle:=hle.trans hG9.le;have hG:=hG.trans hG9
    refine Ko hK ?_ fun hHeld=>?_
    ·exact⟨hV.cell 0 rfl,hV.cell 1 rfl,hV.cell 2 rfl,hV.cell 3 rfl⟩
    clear hK K
    refine Tk 9 rfl hHeld ?_
    refine Tk 10 rfl hHeld ?_
    refine Tk 11 rfl hHeld ?_
    refine To 12 rfl fun K hK=>?_
    rw[if_pos (by rfl)]
    refine wp_store_item _ _ _ rfl _ _ rfl rfl _ _ hM size_item rfl (one4 _ _ _ _ rfl rfl rfl rfl) fun w12 hM hg12=>?_
    have hC:=hC.gr hg12 (by omega);have hV:=hV.gr hg12 (by omega);have hT:=hT.gr hg12 (by omega);have hG:=hG.grownOwn hnM (by omega) hg12
    refine Ko hK ?_ fun hHeld=>?_
    ·exact⟨hV.cell 0 rfl,hV.cell 1 rfl,hV.cell 2 rfl,hV.cell 3 rfl⟩
    clear hK K
    refine To 13 rfl fun K hK=>?_
    go_simp
    refine Kz hK ?_
    clear hK K
    refine Wd ?_
    go_wp2_with fail
    go_meet
    exact⟨c,x,⟨xa,xb,xc',xd⟩,_,rfl,hbo,hi9,hle,hn0,hnC,hnM,hM,hC,hT,hG⟩
   case rest =>
    clear hM hC hV hT hG hr hv4;obtain⟨c,x,ax,H8,rfl,hbo,hx8,hle8,hn0,hnC,hnM,hM,hC,hT,hG⟩:=hcut
    have HEM:=Hh (show p=emptyM→u=emptyM→mI=emptyM from fun h1 h2=>by
     cases prot
     ·rw[HM.out.2 rfl,h2]
     ·rw[HM.out.1 rfl,h1])
    have HPE:=Hh (show p=emptyM→u=emptyM→n=1→v=intP 10→PS=[.mk 0 1 [] [],.mk 0 10 [] []] from fun h1 h2 h3 h4=>by
     rw[← HPS.out.1,HEM.out h1 h2,h3,h4,intP_1,intP_10];rfl)
    rcases hbo with ⟨rfl,l,hxl,hvx,hsz,h2⟩ | ⟨hc,hxz,hno⟩
    ·have HX:=Hh (And.intro (show szL x≤szL mI+9+(encB v).length by rw[hxl];exact szL_put mI n v (by rw[HPS.out.1];exact hsz)) (show p=emptyM→u=emptyM→n=1→v=intP 10→x=algM from fun h1 h2' h3 h4=>by
      have he:=HPE.out h1 h2' h3 h4;rw[hxl,h2 (by rw[he];rfl),he]))
     clear hxl hvx hsz h2
     cases prot with
     | true =>
      have HXP:=Hh (show szL x≤szL p+9+(encB v).length by have h1:=HX.out.1;rw[HM.out.1 rfl]at h1;exact h1);have m0:=hM.cell 0 rfl;have m1:=hM.cell 1 rfl;have m2:=hM.cell 2 rfl;have m3:=hM.cell 3 rfl;go_wp2_with (with_reducible refine stop_store ?_)
      refine wpList_store_blk rfl _ _ _ rfl rfl w4.heap.size 0 _ rfl rfl _ _ hC size_item (by simp) (one4 _ _ _ _ rfl rfl rfl rfl) fun w13 hC13 hg13=>?_
      have hC13:Blk w13 w4.heap.size 28 (hdrC x ax u b2'):=hC13;have hT13:=hT.gr hg13 (by omega);have hG13:=hG.grownOwn hnC (by omega) hg13;have V2:=Hh (ref12_ValidH (hTab.mono hG13.le) hx8 (hu4.mono hle8) w13 hG13.holds);have k0:=hC13.cell 0 rfl;have k1:=hC13.cell 1 rfl;have k2:=hC13.cell 2 rfl;have k3:=hC13.cell 3 rfl;have k4:=hC13.cell 4 rfl;have k5:=hC13.cell 5 rfl;have k6:=hC13.cell 6 rfl;have k7:=hC13.cell 7 rfl;clear hC hT hG hM m0 m1 m2 m3 hg13
      cases hv2:validH x u with
      | false =>
       rw[hv2]at V2;have HV2:=Hh hv2;clear hv2;go_wp2_with fail
       refine V2.out.mono ?_
       rintro e w14 ⟨rfl,hb14⟩
       have hT14:=hT13.below hb14;have hG14:=hG13.below_ hb14;clear hC13 hT13 hG13 hb14 V2 k0 k1 k2 k3 k4 k5 k6 k7;go_wp2_with (with_reducible refine stop_store ?_)
       refine wpList_store_item rfl _ _ _ rfl rfl _ _ rfl rfl _ _ hT14 size_hdr rfl (by kernel_rfl) fun wz hTz hgz=>?_
       have hGz:=hG14.grownOwn hn0 (by omega) hgz;go_wp2_with fail
       refine ret_row_tmp rfl rfl hTz rfl rfl size_hdr rfl ?_
       exact⟨zeroItm,zeroItm,_,4,rfl,⟨⟨none,0,none,0⟩,⟨none,0,none,0⟩,_,rfl,hGz,IsItem.plain _ 0 0 (by omega) (by omega),IsItem.plain _ 0 0 (by omega) (by omega)⟩,(fun h=>by cases h),modest_zero,modest_zero,fun h1 h2 h3 h4=>by exact absurd HV2.out (by rw[HX.out.2 h1 h2 h3 h4,h2,alg_valid1];simp)⟩
      | true =>
       rw[hv2]at V2;have HV2:=Hh hv2;clear hv2;go_wp2_with fail
       refine V2.out.mono ?_
       rintro e w14 ⟨rfl,hb14⟩
       have hT14:=hT13.below hb14;have hG14:=hG13.below_ hb14;have hC14:=hC13.below hb14;clear hC13 hT13 hG13 hb14 V2 k0 k1 k2 k3 k4 k5 k6 k7;have k0:=hC14.cell 0 rfl;have k1:=hC14.cell 1 rfl;have k2:=hC14.cell 2 rfl;have k3:=hC14.cell 3 rfl;have k4:=hC14.cell 4 rfl;have k5:=hC14.cell 5 rfl;have k6:=hC14.cell 6 rfl;have k7:=hC14.cell 7 rfl;go_wp2_with (with_reducible refine stop_store ?_)
       refine wpList_store_item rfl _ _ _ rfl rfl _ _ rfl rfl _ _ hT14 size_hdr rfl (by kernel_rfl) fun wz hTz hgz=>?_
       have hGz:=hG14.grownOwn hn0 (by omega) hgz;go_wp2_with fail
       refine ret_row_tmp rfl rfl hTz rfl rfl size_hdr rfl ?_
       have vv:=validH_valid HV2.out
       exact⟨x,u,_,0,rfl,⟨ax,b2',H8,rfl,hGz,hx8,(hu4.mono hle8)⟩,fun _=>⟨HV2.out,HXP.out,by omega⟩,validP_modest vv.1,validP_modest vv.2.1,fun _ _ _ _=>rfl⟩
     | false =>
      have HXP:=Hh (show szL x≤szL u+9+(encB v).length by have h1:=HX.out.1;rw[HM.out.2 rfl]at h1;exact h1);have m0:=hM.cell 0 rfl;have m1:=hM.cell 1 rfl;have m2:=hM.cell 2 rfl;have m3:=hM.cell 3 rfl;go_wp2_with (with_reducible refine stop_store ?_)
      refine wpList_store_blk rfl _ _ _ rfl rfl w4.heap.size 4 _ rfl rfl _ _ hC size_item (by simp) (one4 _ _ _ _ rfl rfl rfl rfl) fun w13 hC13 hg13=>?_
      have hC13:Blk w13 w4.heap.size 28 (hdrC p a2 x ax):=hC13;have hT13:=hT.gr hg13 (by omega);have hG13:=hG.grownOwn hnC (by omega) hg13;have V2:=Hh (ref12_ValidH (hTab.mono hG13.le) (hp4.mono hle8) hx8 w13 hG13.holds);have k0:=hC13.cell 0 rfl;have k1:=hC13.cell 1 rfl;have k2:=hC13.cell 2 rfl;have k3:=hC13.cell 3 rfl;have k4:=hC13.cell 4 rfl;have k5:=hC13.cell 5 rfl;have k6:=hC13.cell 6 rfl;have k7:=hC13.cell 7 rfl;clear hC hT hG hM m0 m1 m2 m3 hg13
      cases hv2:validH p x with
      | false =>
       rw[hv2]at V2;have HV2:=Hh hv2;clear hv2;go_wp2_with fail
       refine V2.out.mono ?_
       rintro e w14 ⟨rfl,hb14⟩
       have hT14:=hT13.below hb14;have hG14:=hG13.below_ hb14;clear hC13 hT13 hG13 hb14 V2 k0 k1 k2 k3 k4 k5 k6 k7;go_wp2_with (with_reducible refine stop_store ?_)
       refine wpList_store_item rfl _ _ _ rfl rfl _ _ rfl rfl _ _ hT14 size_hdr rfl (by kernel_rfl) fun wz hTz hgz=>?_
       have hGz:=hG14.grownOwn hn0 (by omega) hgz;go_wp2_with fail
       refine ret_row_tmp rfl rfl hTz rfl rfl size_hdr rfl ?_
       exact⟨zeroItm,zeroItm,_,4,rfl,⟨⟨none,0,none,0⟩,⟨none,0,none,0⟩,_,rfl,hGz,IsItem.plain _ 0 0 (by omega) (by omega),IsItem.plain _ 0 0 (by omega) (by omega)⟩,(fun h=>by cases h),modest_zero,modest_zero,fun h1 h2 h3 h4=>by exact absurd HV2.out (by rw[HX.out.2 h1 h2 h3 h4,h1,alg_valid2];simp)⟩
      | true =>
       rw[hv2]at V2;have HV2:=Hh hv2;clear hv2;go_wp2_with fail
       refine V2.out.mono ?_
       rintro e w14 ⟨rfl,hb14⟩
       have hT14:=hT13.below hb14;have hG14:=hG13.below_ hb14;have hC14:=hC13.below hb14;clear hC13 hT13 hG13 hb14 V2 k0 k1 k2 k3 k4 k5 k6 k7;have k0:=hC14.cell 0 rfl;have k1:=hC14.cell 1 rfl;have k2:=hC14.cell 2 rfl;have k3:=hC14.cell 3 rfl;have k4:=hC14.cell 4 rfl;have k5:=hC14.cell 5 rfl;have k6:=hC14.cell 6 rfl;have k7:=hC14.cell 7 rfl;go_wp2_with (with_reducible refine stop_store ?_)
       refine wpList_store_item rfl _ _ _ rfl rfl _ _ rfl rfl _ _ hT14 size_hdr rfl (by kernel_rfl) fun wz hTz hgz=>?_
       have hGz:=hG14.grownOwn hn0 (by omega) hgz;go_wp2_with fail
       refine ret_row_tmp rfl rfl hTz rfl rfl size_hdr rfl ?_
       have vv:=validH_valid HV2.out
       exact⟨p,x,_,0,rfl,⟨a2,ax,H8,rfl,hGz,(hp4.mono hle8),hx8⟩,fun _=>⟨HV2.out,by omega,HXP.out⟩,validP_modest vv.1,validP_modest vv.2.1,fun _ _ _ _=>rfl⟩
    ·have b1:(c != 0)=true:=by simp[hc]
     have p1:(c=0)=False:=eq_false hc;have HNO:=Hh hno;clear hc hno hxz;go_wp2_with (with_reducible refine stop_store ?_)
     refine wpList_store_item rfl _ _ _ rfl rfl _ _ rfl rfl _ _ hT size_hdr rfl (by kernel_rfl) fun wz hTz hgz=>?_
     have hGz:=hG.grownOwn hn0 (by omega) hgz;go_wp2_with fail
     refine ret_row_tmp rfl rfl hTz rfl rfl size_hdr rfl ?_
     exact⟨zeroItm,zeroItm,_,4,rfl,⟨⟨none,0,none,0⟩,⟨none,0,none,0⟩,_,rfl,hGz,IsItem.plain _ 0 0 (by omega) (by omega),IsItem.plain _ 0 0 (by omega) (by omega)⟩,(fun h=>by cases h),modest_zero,modest_zero,fun h1 h2 h3 h4=>by have he:=HPE.out h1 h2 h3 h4;exact(HNO.out ⟨by rw[he];rfl,by rw[he];intro y hy;simp at hy;rcases hy with rfl | rfl;exact(by have:=validP_int 1;rw[intP_nat]at this;exact this);exact(by have:=validP_int 10;rw[intP_nat]at this;exact this),by rw[he];exact alg_validP⟩).elim⟩
end Go.Proofs.YtgcjjhibdbafmaaGreatDoor
