/- squeezed. Walks: cbor.Array. Walk: cbor.Find -/
import Derived.Test.YtgcjjhibdbafmaaGreatDoorK07
import Derived.Deep.DeepCutAuto
import Derived.Deep.Matrix
set_option linter.unusedVariables false
set_option linter.unusedSimpArgs false
set_option maxRecDepth 100000
set_option maxHeartbeats 6400000
namespace Go.Proofs.YtgcjjhibdbafmaaGreatDoor
open Go.RowKit
theorem cbor_Array {H:Snap}(l:List Itm) (A:Option Addr) (n c:Nat) (w:World) (cs:List Value) (hs:Src w A cs) (hcs:ItemsC H cs l) (hn:n=l.length) (hl:l.length≤1099511627776) (hm:ModestL l) (hH:Holds w H) :
  Calls Tryz.prog 38 #[.slice A n c] w fun e w'=>∃ v,e=.returned v∧Gives w H (.mk 4 0 [] l) v w':=by
 have HN:=Hh hn;have hB1:=(Blk.new w 26 #[.int .i64 0,.int .u64 0,.slice none 0 0,.slice none 0 0]).alloc (.cells #[.int .i64 4,.int .u64 0,.slice none 0 0,.slice none 0 0] 26);have hB2:=Blk.new (w.alloc (.cells #[.int .i64 0,.int .u64 0,.slice none 0 0,.slice none 0 0] 26)) 26 #[.int .i64 4,.int .u64 0,.slice none 0 0,.slice none 0 0];rw[show(w.alloc (.cells #[.int .i64 0,.int .u64 0,.slice none 0 0,.slice none 0 0] 26)).heap.size=w.heap.size+1 by simp]at hB2;have HG:=Hh (((Grows.refl hH).alloc (.cells #[.int .i64 0,.int .u64 0,.slice none 0 0,.slice none 0 0] 26)).alloc (.cells #[.int .i64 4,.int .u64 0,.slice none 0 0,.slice none 0 0] 26));clear hn;go_enter Tryz.func38,Tryz.ntmps38
 go_upto_region 3 with fail
 go_loopw [9] (fun vi wr=>∃ (k:Nat) (Hr:Snap) (VA:Option Addr) (vc:Nat),k≤l.length∧vi=.int .i64 k∧Grows w H wr Hr∧Hr w.heap.size=none∧Hr (w.heap.size+1)=none∧
  Blk wr w.heap.size 26 #[.int .i64 0,.int .u64 0,.slice none 0 0,.slice none 0 0]∧Blk wr (w.heap.size+1) 26 #[.int .i64 4,.int .u64 0,.slice none 0 0,.slice VA k vc]∧
  OwnI wr (w.heap.size+2) (.slice VA k vc) Hr (l.take k)∧(∀ g,(Value.slice VA k vc).ownBlock=some g→Hr g=none)) (fun vi _=>l.length-(intOf vi).toNat)
 case atStart=>exact⟨0,H,none,0,Nat.zero_le _,rfl,HG.out,hH.none_of_ge (Nat.le_refl _),hH.none_of_ge (by omega),hB1,hB2,by simpa using OwnI.nil _ _ H,by simp[Value.ownBlock]⟩
 case round =>
  obtain⟨k,Hr,VA,vc,hk,rfl,hGr,hn1,hn2,hC2,hC1,hCv,hnv⟩:=hrel;have hn:=HN.out
  by_cases hlt:k<l.length
  ·obtain⟨eba,ebc,eia,eic,x0,x1,x2,x3,hex⟩:=hcs.get k hlt;obtain⟨sb,so,rfl,hsrc⟩:=(hs.below hGr.below) (by intro h;subst h;simp at x0)
   have p0:=hsrc _ _ x0;have p1:=hsrc _ _ x1;have p2:=hsrc _ _ x2;have p3:=hsrc _ _ x3
   simp only[← Nat.add_assoc]at p0 p1 p2 p3
   have hlt':k<n:=by omega
   have IH:=Hh (cbor_copied l[k] Hr _ _ eba _ ebc eia _ eic (wr.alloc (.cells #[.int .i64 l[k].kind,.int .u64 l[k].n,.slice eba l[k].bytes.length ebc,.slice eia l[k].items.length eic] 26)).drew (hm.get k hlt) (hex.mono hGr.le).arg (hGr.holds.alloc _).drew);have hCt:=Blk.new wr 26 #[.int .i64 l[k].kind,.int .u64 l[k].n,.slice eba l[k].bytes.length ebc,.slice eia l[k].items.length eic];have hC1d:=(hC1.alloc (.cells #[.int .i64 l[k].kind,.int .u64 l[k].n,.slice eba l[k].bytes.length ebc,.slice eia l[k].items.length eic] 26)).drew;have hCtd:=hCt.drew;have hwz:w.heap.size+2≤wr.heap.size:=by have:=hC1.lt;omega
   clear x0 x1 x2 x3 hsrc hn;go_upto_region 5 with fail
   refine wp_region_ways 7 (fun w'=>w'.cell? ⟨w.heap.size+1,3,none⟩=some (.slice VA k vc)∧w'.cell? ⟨wr.heap.size,0,none⟩=some (.int .i64 l[k].kind)∧w'.cell? ⟨wr.heap.size,1,none⟩=some (.int .u64 l[k].n)∧w'.cell? ⟨wr.heap.size,2,none⟩=some (.slice eba l[k].bytes.length ebc)∧w'.cell? ⟨wr.heap.size,3,none⟩=some (.slice eia l[k].items.length eic)) (by kernel_rfl) (⟨hC1d.cell 3 rfl,hCtd.cell 0 rfl,hCtd.cell 1 rfl,hCtd.cell 2 rfl,hCtd.cell 3 rfl⟩) (fun hHeld=>?_)
   refine Tk 0 rfl hHeld ?_
   refine Tk 1 rfl hHeld ?_
   refine Tk 2 rfl hHeld ?_
   refine To 3 rfl fun K hK=>?_
   go_simp
   refine IH.out.mono ?_
   rintro e w3 ⟨v,rfl,rba,rbc,ria,ric,Hs,rfl,hG3,his⟩
   have hD1:=(hC1.alloc (.cells #[.int .i64 l[k].kind,.int .u64 l[k].n,.slice eba l[k].bytes.length ebc,.slice eia l[k].items.length eic] 26)).drew.below hG3.below;have hDt:=hCt.drew.below hG3.below;have hDv:=((hCv.alloc (.cells #[.int .i64 l[k].kind,.int .u64 l[k].n,.slice eba l[k].bytes.length ebc,.slice eia l[k].items.length eic] 26)).below ((Below.refl _ _).drew.trans hG3.below)).mono hG3.le
   refine Ko hK ?_ fun hHeld=>?_
   ·exact⟨hD1.cell 3 rfl,hDt.cell 0 rfl,hDt.cell 1 rfl,hDt.cell 2 rfl,hDt.cell 3 rfl⟩
   clear hK K
   refine To 4 rfl fun K hK=>?_
   go_simp
   have hE1:=hD1.alloc (.cells #[.int .i64 l[k].kind,.int .u64 l[k].n,.slice rba l[k].bytes.length rbc,.slice ria l[k].items.length ric] 26);have hEt:=hDt.alloc (.cells #[.int .i64 l[k].kind,.int .u64 l[k].n,.slice rba l[k].bytes.length rbc,.slice ria l[k].items.length ric] 26);have hEv:=hDv.alloc (.cells #[.int .i64 l[k].kind,.int .u64 l[k].n,.slice rba l[k].bytes.length rbc,.slice ria l[k].items.length ric] 26)
   refine Ko hK ?_ fun hHeld=>?_
   ·exact⟨hE1.cell 3 rfl,hEt.cell 0 rfl,hEt.cell 1 rfl,hEt.cell 2 rfl,hEt.cell 3 rfl⟩
   clear hK K
   refine To 5 rfl fun K hK=>?_
   rw[if_pos (by rfl)]
   refine wp_app_items (.tmp 14) (.tmp 17) rfl (w.heap.size+2) (.slice VA k vc) Hs (l.take k) rfl hEv _ _ _ (itemC l[k] rba rbc ria ric) [l[k]] rfl rfl (ItemsC.one his) (Src.new _ _ _ _ rfl _ rfl) (by simp;omega) (by have:=hG3.below.size;simp at this⊢;omega) fun v' w5 hown5 hg5 hat5=>?_
   obtain⟨VA',vc',rfl,hvc1,hvc2⟩:=hown5.form;have hF1:=hE1.grown hg5 (fun h=>by have:=(hCv.lt _ h).1;omega);have hFt:=hEt.grown hg5 (fun h=>by have:=(hCv.lt _ h).2;omega)
   refine Ko hK ?_ fun hHeld=>?_
   ·exact⟨hF1.cell 3 rfl,hFt.cell 0 rfl,hFt.cell 1 rfl,hFt.cell 2 rfl,hFt.cell 3 rfl⟩
   clear hK K
   refine Tk 6 rfl hHeld ?_
   refine To 7 rfl fun K hK=>?_
   rw[if_pos (by rfl)]
   refine wp_store_cell _ _ _ rfl (w.heap.size+1) 3 _ rfl rfl _ _ hF1 size_items (by simp) rfl fun w6 hJ1 hg6=>?_
   refine Kz hK ?_
   clear hK K
   refine Wd ?_
   have hG4:=(((hGr.alloc (.cells #[.int .i64 l[k].kind,.int .u64 l[k].n,.slice eba l[k].bytes.length ebc,.slice eia l[k].items.length eic] 26)).drew).trans hG3).alloc (.cells #[.int .i64 l[k].kind,.int .u64 l[k].n,.slice rba l[k].bytes.length rbc,.slice ria l[k].items.length ric] 26);have hm1:=hG3.none hn1 (by simp;omega);have hm2:=hG3.none hn2 (by simp;omega);have hmv:∀ g,(Value.slice VA k vc).ownBlock=some g→Hs g=none:=fun g hg=>hG3.none (hnv g hg) (by have:=(hCv.lt g hg).2;simp;omega)
   have hG5:=hG4.grownRow hmv (fun g hg=>by have:=(hCv.lt g hg).1;omega) hg5;have hG6:=hG5.grownOwn hm2 (by omega) hg6;have hJ2:=(((hC2.alloc (.cells #[.int .i64 l[k].kind,.int .u64 l[k].n,.slice eba l[k].bytes.length ebc,.slice eia l[k].items.length eic] 26)).drew.below hG3.below).alloc (.cells #[.int .i64 l[k].kind,.int .u64 l[k].n,.slice rba l[k].bytes.length rbc,.slice ria l[k].items.length ric] 26)).grown hg5 (fun h=>by have:=(hCv.lt _ h).1;omega);have hJ2:=hJ2.grown hg6 (by simp)
   have hnv':∀ g,(Value.slice VA' (l.take k++[l[k]]).length vc').ownBlock=some g→Hs g=none:=fun g hg=>by
    rcases hat5 with h | ⟨g',h1,h2⟩
    ·exact hmv g (by rw[← h,hg])
    ·rw[hg]at h1;injection h1 with h1
     subst h1
     exact hG4.hidden h2
   have hv5:=hown5.kept hg6 (.inr fun h=>by have:=(hown5.lt _ h).1;omega);rw[← List.take_succ_eq_append_getElem hlt]at hv5 hnv' hJ1;rw[List.length_take,Nat.min_eq_left (by omega)]at hv5 hnv' hJ1;clear hHeld IH p0 p1 p2 p3 hCt hC1d hCtd hC1 hC2 hCv hD1 hDt hDv hE1 hEt hEv hown5 hg5 hat5 hF1 hFt hG4 hG5 hg6;go_wp2_with fail
   go_roundw
   case rel=>exact⟨k+1,Hs,VA',vc',by omega,by go_num,hG6,hm1,hm2,hJ2,hJ1,hv5,hnv'⟩
   case measure=>simp[intOf];omega
  ·have hkl:k=l.length:=by omega
   subst hkl;rw[List.take_length]at hCv;have c0:=hC1.cell 0 rfl;have c1:=hC1.cell 1 rfl;have c2:=hC1.cell 2 rfl;have c3:=hC1.cell 3 rfl;obtain⟨H',hl1,hh',hf',_,hle1,hle2,hel⟩:=hCv.snap hGr.holds (fun g hg=>hnv g (by cases VA <;> simp_all [Value.ownBlock]))
   have hG':Grows w H wr H':=⟨hGr.below,hGr.le.trans hl1,hh',fun b o hb=>by
    rcases hf' b o hb with h | h
    ·exact hGr.fresh b o h
    ·exact .inr (by have:=(hCv.lt b (by cases VA <;> simp_all [Value.ownBlock])).1;omega)⟩
   have hn1':H' w.heap.size=none:=by
    cases hx:H' w.heap.size with
    | none=>rfl
    | some o =>
     rcases hf' _ _ hx with h | h
     ·rw[hn1]at h;cases h
     ·have:=(hCv.lt w.heap.size (by cases VA <;> simp_all [Value.ownBlock])).1;omega
   have hitem:IsItem H' none 0 VA vc (.mk 4 0 [] l):=by
    rw[IsItem]
    exact⟨⟨by omega,by omega,by omega,hle1,hle2⟩,IsBytes.nil _,hel⟩
   clear hl1 hh' hf' hle1 hle2 hel hCv hGr;go_wp2_with (with_reducible refine stop_store ?_)
   refine stI hC2 fun w6 hJ2 hg6=>?_
   go_wp2_with fail
   refine ret_row rfl rfl hJ2 rfl rfl size_item rfl ?_
   exact⟨_,rfl,none,0,VA,vc,H',rfl,hG'.grownOwn hn1' (Nat.le_refl _) hg6,hitem⟩
theorem cbor_Find {H:Snap}(hT:Tabs H) {k n:Int}{ba:Option Addr}{bl bc:Nat}{ia:Option Addr}{il ic:Nat}{x:Itm}(hx:ItemA H k n ba bl bc ia il ic x)
  {k' n':Int} {ba':Option Addr} {bl' bc':Nat} {ia':Option Addr} {il' ic':Nat} {y:Itm} (hy:ItemA H k' n' ba' bl' bc' ia' il' ic' y) (w:World) (hH:Holds w H) :
  Calls Tryz.prog 48 #[.agg #[.int .i64 k,.int .u64 n,.slice ba bl bc,.slice ia il ic],.agg #[.int .i64 k',.int .u64 n',.slice ba' bl' bc',.slice ia' il' ic']] w
   fun e w'=>∃ v,e=.returned (.tuple #[v,.bool (findP x y).isSome])∧Gives w H ((findP x y).getD zeroItm) v w':=by
 obtain⟨rfl,rfl,rfl,rfl,hxi⟩:=hx.eqs;obtain⟨rfl,rfl,rfl,rfl,hyi⟩:=hy.eqs;have HX:=Hh hxi;have HXA:=Hh hx;have HYA:=Hh hy;have hB1:=((Blk.new w 26 #[.int .i64 x.kind,.int .u64 x.n,.slice ba x.bytes.length bc,.slice ia x.items.length ic]).alloc (itemO y ba' bc' ia' ic')).alloc zeroO;have hB2:=(Blk.new (w.alloc (itemO x ba bc ia ic)) 26 #[.int .i64 y.kind,.int .u64 y.n,.slice ba' y.bytes.length bc',.slice ia' y.items.length ic']).alloc zeroO;have hB3:=Blk.new ((w.alloc (itemO x ba bc ia ic)).alloc (itemO y ba' bc' ia' ic')) 26 #[.int .i64 0,.int .u64 0,.slice none 0 0,.slice none 0 0];have hG0:=(((Grows.refl hH).alloc (itemO x ba bc ia ic)).alloc (itemO y ba' bc' ia' ic')).alloc zeroO
 simp only[size_alloc]at hB2 hB3
 have hn3:H (w.heap.size+1+1)=none:=hH.none_of_ge (by omega)
 by_cases h5:x.kind=5
 ·have k5:(x.kind != 5)=false:=by simp[h5]
  have H5:=Hh h5;clear h5;have V:=Hh (cbor_Valid hT hx _ hG0.holds)
  cases hvx:validP x with
  | false =>
   have E:Hid (findP x y=none):=by rw[Hid,findP,if_neg (by simp[hvx])]
   have HG:=Hh hG0;rw[hvx]at V;clear hvx hxi hyi hx hy hG0;go_enter Tryz.func48,Tryz.ntmps48
   go_wp2_with fail
   refine V.out.mono ?_
   rintro e w1 ⟨rfl,hb1⟩
   have hB3:=hB3.below hb1;have HG1:=Hh (HG.out.below_ hb1);clear hB1 hB2 hb1 HG;go_wp2_with (with_reducible refine stop_store ?_)
   refine stI hB3 fun w6 hJ2 hg6=>?_
   go_wp2_with fail
   refine ret_row_tmp rfl rfl hJ2 rfl rfl size_item rfl ?_
   rw[E.out]
   exact⟨_,rfl,none,0,none,0,H,rfl,HG1.out.grownOwn hn3 (by omega) hg6,IsItem.plain H 0 0 (by omega) (by omega)⟩
  | true =>
   have hmx:=validP_modest hvx;obtain⟨hx1,hx2,hKx,hex⟩:=validP_items hvx;have heven:=Hh (validP_even hvx H5.out);have HVX:=Hh hvx;rw[hvx]at V;clear hvx hxi hyi hx hy;go_enter Tryz.func48,Tryz.ntmps48
   go_wp2_with fail
   refine V.out.mono ?_
   rintro e w1 ⟨rfl,hb1⟩
   have hB1:=hB1.below hb1;have hB2:=hB2.below hb1;have hB3:=hB3.below hb1;have hG1:=hG0.below_ hb1;have q0:=hB2.cell 0 rfl;have q1:=hB2.cell 1 rfl;have q2:=hB2.cell 2 rfl;have q3:=hB2.cell 3 rfl;have V2:=Hh (cbor_Valid hT HYA.out _ hG1.holds)
   cases hvy:validP y with
   | false =>
    have E:Hid (findP x y=none):=by rw[Hid,findP,if_neg (by simp[hvy])]
    rw[hvy]at V2;clear hvy;go_wp2_with fail
    refine V2.out.mono ?_
    rintro e w2 ⟨rfl,hb2⟩
    have hB3:=hB3.below hb2;have HG2:=Hh (hG1.below_ hb2);clear hB1 hB2 hb1 hb2 q0 q1 q2 q3 hG1 hG0;go_wp2_with (with_reducible refine stop_store ?_)
    refine stI hB3 fun w6 hJ2 hg6=>?_
    go_wp2_with fail
    refine ret_row_tmp rfl rfl hJ2 rfl rfl size_item rfl ?_
    rw[E.out]
    exact⟨_,rfl,none,0,none,0,H,rfl,HG2.out.grownOwn hn3 (by omega) hg6,IsItem.plain H 0 0 (by omega) (by omega)⟩
   | true =>
    obtain⟨hky,_,hly⟩:=validP_spec hvy;have E:Hid (findP x y=findL (encB y) x.items):=by rw[Hid,findP,if_pos ⟨H5.out,HVX.out,hvy⟩]
    rw[hvy]at V2;clear hvy;go_wp2_with fail
    refine V2.out.mono ?_
    rintro e w2 ⟨rfl,hb2⟩
    have hB1:=hB1.below hb2;have hB2:=hB2.below hb2;have hB3:=hB3.below hb2;have hG2:=hG1.below_ hb2;have A:=Hh (cbor_add y H _ _ _ _ _ _ _ _ w2 w2.heap.size (.slice none 0 0) [] hky HYA.out hG2.holds (OwnB.nil _ _) (Nat.le_refl _) (by simp[Value.ownBlock]) (by simp;omega));clear hb1 hb2 q0 q1 q2 q3 hG1 hG0;have q0:=hB2.cell 0 rfl;have q1:=hB2.cell 1 rfl;have q2:=hB2.cell 2 rfl;have q3:=hB2.cell 3 rfl;go_wp2_with fail
    refine A.out.mono ?_
    rintro e w3 ⟨r,rfl,hown,hg3,_⟩
    obtain⟨KA,kc,rfl,_,_,hsrc⟩:=hown.form;rw[List.nil_append]at hown hsrc;have hb3:=grown_none hg3;have h3B1:=hB1.below hb3;have h3B3:=hB3.below hb3;have HG3:=Hh (hG2.below_ hb3);have c3:=h3B1.cell 3 rfl;clear hB2 q0 q1 q2 q3 hG2 A V V2 hg3;go_upto_region 5 with fail
    go_loopw [7] (fun vi wr=>∃ k:Nat,k≤x.items.length∧k%2=0∧vi=.int .i64 k∧findL (encB y) (x.items.drop k)=findP x y∧Below w3.heap.size w3 wr) (fun vi _=>x.items.length-(intOf vi).toNat)
    case atStart=>exact⟨0,Nat.zero_le _,rfl,rfl,by rw[E.out];simp,Below.refl _ _⟩
    case round =>
     obtain⟨k,hk,hk2,rfl,hf,hbr⟩:=hrel;have HGr:=Hh (HG3.out.below_ hbr);have d3:=(h3B1.below hbr).cell 3 rfl
     by_cases hlt:k<x.items.length
     ·have heven:=heven.out;have hlt1:k+1<x.items.length:=by omega
      have hst:=findL_step (encB y) x.items k hlt1;rw[hf]at hst;obtain⟨ib,io,hia,hel⟩:=HX.out.items (by omega);subst hia;obtain⟨eba,ebc,eia,eic,z0,z1,z2,z3,hez⟩:=hel.get k hlt;have hHr:=HGr.out.holds;have p0:=hHr.cell z0;have p1:=hHr.cell z1;have p2:=hHr.cell z2;have p3:=hHr.cell z3;have HST:=Hh hst;have A:=Hh (cbor_add x.items[k] H _ _ _ _ _ _ _ _ wr wr.heap.size (.slice none 0 0) [] (hKx.get k hlt) hez.arg hHr (OwnB.nil _ _) (Nat.le_refl _) (by simp[Value.ownBlock]) (by have:=encL_get x.items k hlt;simp;omega));clear z0 z1 z2 z3 hez hst hf heven;go_wp2_with fail
      refine A.out.mono ?_
      rintro e w4 ⟨r,rfl,hown4,hg4,_⟩
      obtain⟨EA,ec,rfl,_,_,hsrc4⟩:=hown4.form;rw[List.nil_append]at hown4 hsrc4;have hb4:=grown_none hg4;have Q:=Hh (bytes_Equal w4 EA KA (encB x.items[k]) (encB y) (encB x.items[k]).length (encB y).length ec kc rfl rfl hsrc4 (hsrc.below (hbr.trans (hb4.mono hbr.size))));have HGr4:=Hh (HGr.out.below_ hb4);have hB1r:=(h3B1.below hbr).below hb4;have hB3r:=(h3B3.below hbr).below hb4;have hbr4:=hbr.trans (hb4.mono hbr.size);have e3:=hB1r.cell 3 rfl;clear d3 p0 p1 p2 p3 A hg4 hbr hHr;go_wp2_with fail
      refine Q.out.mono ?_
      rintro e w5 ⟨rfl,rfl⟩
      cases hq:(encB x.items[k]==encB y) with
      | true =>
       have E2:Hid (findP x y=some x.items[k+1]):=HST.out.trans (if_pos (by simpa using hq));obtain⟨eba',ebc',eia',eic',z0,z1,z2,z3,hez⟩:=hel.get (k+1) hlt1;have hHr:=HGr4.out.holds;have p0:=hHr.cell z0;have p1:=hHr.cell z1;have p2:=hHr.cell z2;have p3:=hHr.cell z3;have C:=Hh (cbor_copied x.items[k+1] H _ _ eba' _ ebc' eia' _ eic' w4 (hmx.parts.2.2.get (k+1) hlt1) hez.arg hHr);have i1:((k:Int)+1).toNat=k+1:=by omega
       have i2:(k:Int)+1<x.items.length:=by omega
       have i3:IntKind.i64.wrap ((k:Int)+1)=(k:Int)+1:=IntWalk.i64_in _ (by omega);clear z0 z1 z2 z3 hez hq Q hel;go_wp2_with fail
       refine C.out.mono ?_
       rintro e w5 ⟨v,rfl,rba,rbc,ria,ric,Hs,rfl,hG5,his⟩
       have hF3:=hB3r.below hG5.below;have hn3':=hG5.none hn3 (by have:=hB3r.lt;omega);have HG5:=Hh (HGr4.out.trans hG5);clear e3 p0 p1 p2 p3 C hB1r;go_wp2_with (with_reducible refine stop_store ?_)
       refine stI hF3 fun w6 hJ2 hg6=>?_
       go_wp2_with fail
       refine ret_row_tmp rfl rfl hJ2 rfl rfl size_item rfl ?_
       rw[E2.out]
       exact⟨_,rfl,rba,rbc,ria,ric,Hs,rfl,HG5.out.grownOwn hn3' (by omega) hg6,his⟩
      | false =>
       have E2:Hid (findL (encB y) (x.items.drop (k+2))=findP x y):=(HST.out.trans (if_neg (by simpa using hq))).symm;have heven:=heven.out;have i3:IntKind.i64.wrap ((k:Int)+2)=(k:Int)+2:=IntWalk.i64_in _ (by omega);clear hq Q hel e3;go_wp2_with fail
       go_roundw
       case rel=>exact⟨k+2,by omega,by omega,by go_num,E2.out,hbr4⟩
       case measure=>simp[intOf];omega
     ·have E2:Hid (findP x y=none):=by
       rw[Hid,← hf,List.drop_eq_nil_of_le (by omega)];rfl
      have hB3r:=h3B3.below hbr;clear hf;go_wp2_with (with_reducible refine stop_store ?_)
      refine stI hB3r fun w6 hJ2 hg6=>?_
      go_wp2_with fail
      refine ret_row_tmp rfl rfl hJ2 rfl rfl size_item rfl ?_
      rw[E2.out]
      exact⟨_,rfl,none,0,none,0,H,rfl,HGr.out.grownOwn hn3 (by omega) hg6,IsItem.plain H 0 0 (by omega) (by omega)⟩
 ·have k5:(x.kind != 5)=true:=by simp[h5]
  have E:Hid (findP x y=none):=by rw[Hid,findP,if_neg (by simp[h5])]
  clear h5;have HG:=Hh hG0;clear hxi hyi hx hy hG0;go_enter Tryz.func48,Tryz.ntmps48
  go_wp2_with (with_reducible refine stop_store ?_)
  refine stI hB3 fun w6 hJ2 hg6=>?_
  go_wp2_with fail
  refine ret_row_tmp rfl rfl hJ2 rfl rfl size_item rfl ?_
  rw[E.out]
  exact⟨_,rfl,none,0,none,0,H,rfl,HG.out.grownOwn hn3 (by omega) hg6,IsItem.plain H 0 0 (by omega) (by omega)⟩
theorem info_pair:(Tryz.prog.info? 79).map (fun i=>(i.zero,i.size,i.bytes))=some (some (.agg #[.int .i64 0,.int .u64 0,.slice none 0 0,.slice none 0 0,.int .i64 0,.int .u64 0,.slice none 0 0,.slice none 0 0]),8,128):=by kernel_rfl
theorem header_pairs {H:Snap}{k n:Int}{ba:Option Addr}{bl bc:Nat}{ia:Option Addr}{il ic:Nat}{x:Itm}(hx:ItemA H k n ba bl bc ia il ic x) (heven:x.items.length%2=0) (hlen:x.items.length≤1099511627776) (w:World) (hH:Holds w H) :
  Calls Tryz.prog 46 #[.agg #[.int .i64 k,.int .u64 n,.slice ba bl bc,.slice ia il ic]] w
   fun e w'=>∃ A c cs,e=.returned (.slice A (x.items.length/2) c)∧Src w' A cs∧ItemsC H cs x.items∧Below w.heap.size w w':=by
 obtain⟨rfl,rfl,rfl,rfl,hxi⟩:=hx.eqs;have HX:=Hh hxi;have HE:=Hh heven;have hB1:=Blk.new w 26 #[.int .i64 x.kind,.int .u64 x.n,.slice ba x.bytes.length bc,.slice ia x.items.length ic];have HB0:=Hh (below_box w (itemO x ba bc ia ic));obtain⟨i0,hi0,hz0,hz1,hz2⟩:=info_parts info_pair;clear hxi hx heven;go_enter Tryz.func46,Tryz.ntmps46
 go_upto_region 3 with fail
 go_loopw [3,4] (fun v3 v4 wr=>∃ (k:Nat) (VA:Option Addr) (vc:Nat) (pre:List Value),k*2≤x.items.length∧v4=.int .i64 ((k:Int)*2)∧v3=.slice VA k vc∧Below w.heap.size w wr∧
  Blk wr w.heap.size 26 #[.int .i64 x.kind,.int .u64 x.n,.slice ba x.bytes.length bc,.slice ia x.items.length ic]∧wr.ownsRow (w.heap.size+1) 79 8 (.slice VA k vc) k pre∧ItemsC H pre (x.items.take (k*2))) (fun _ v4 _=>x.items.length-(intOf v4).toNat)
 case atStart=>exact⟨0,none,0,[],by omega,rfl,rfl,HB0.out,hB1,World.ownsRow_nil _ _ _ _,by simp[ItemsC]⟩
 case round =>
  obtain⟨k,VA,vc,pre,hk,rfl,rfl,hb,hC1,hown,hpre⟩:=hrel;have c3:=hC1.cell 3 rfl;have hw1:IntKind.i64.wrap ((k:Int)*2+1)=(k:Int)*2+1:=IntWalk.i64_in _ (by omega);have hw2:IntKind.i64.wrap ((k:Int)*2+2)=(k:Int)*2+2:=IntWalk.i64_in _ (by omega);have ht1:((k:Int)*2+1).toNat=k*2+1:=by omega
  have ht0:((k:Int)*2).toNat=k*2:=by omega
  by_cases hlt:k*2<x.items.length
  ·have heven:=HE.out;have hlt1:k*2+1<x.items.length:=by omega
   have hi1:(k:Int)*2+1<x.items.length:=by omega
   have hi2:(k:Int)*2<x.items.length:=by omega
   have hj1:(0:Int)≤(k:Int)*2+1:=by omega
   have hj2:(0:Int)≤(k:Int)*2:=by omega
   obtain⟨ib,io,hia,hel⟩:=HX.out.items (by omega);subst hia;obtain⟨y1,y2,y3,y4,p0,p1,p2,p3,hy⟩:=hel.get (k*2) hlt;obtain⟨z1,z2,z3,z4,q0,q1,q2,q3,hz⟩:=hel.get (k*2+1) hlt1
   have htk:x.items.take (k*2)++[x.items[k*2],x.items[k*2+1]]=x.items.take ((k+1)*2):=by
    rw[show(k+1)*2=k*2+1+1 by omega,List.take_succ_eq_append_getElem hlt1,List.take_succ_eq_append_getElem hlt]
    simp only[List.append_assoc,List.cons_append,List.nil_append]
   generalize x.items[k*2]'hlt=y at *
   generalize x.items[k*2+1]'hlt1=z at *
   have hyz:ItemsC H (itemC y y1 y2 y3 y4++itemC z z1 z2 z3 z4) [y,z]:=(ItemsC.one hy).app (ItemsC.one hz);have hHr:Holds wr H:=hH.below hb (Nat.le_refl _);clear hel;go_upto_region 5 with fail
   refine wp_region_ways 15 (fun w'=>w'.cell? ⟨w.heap.size,3,none⟩=some (.slice (some ⟨ib,io,none⟩) x.items.length ic)∧w'.cell? ⟨ib,io+(k*2)*4,none⟩=some (.int .i64 y.kind)∧w'.cell? ⟨ib,io+(k*2)*4+1,none⟩=some (.int .u64 y.n)∧w'.cell? ⟨ib,io+(k*2)*4+2,none⟩=some (.slice y1 y.bytes.length y2)∧w'.cell? ⟨ib,io+(k*2)*4+3,none⟩=some (.slice y3 y.items.length y4)∧w'.cell? ⟨ib,io+(k*2+1)*4,none⟩=some (.int .i64 z.kind)∧w'.cell? ⟨ib,io+(k*2+1)*4+1,none⟩=some (.int .u64 z.n)∧w'.cell? ⟨ib,io+(k*2+1)*4+2,none⟩=some (.slice z1 z.bytes.length z2)∧w'.cell? ⟨ib,io+(k*2+1)*4+3,none⟩=some (.slice z3 z.items.length z4)) (by kernel_rfl) (⟨hC1.drew.cell 3 rfl,hHr.drew.cell p0,hHr.drew.cell p1,hHr.drew.cell p2,hHr.drew.cell p3,hHr.drew.cell q0,hHr.drew.cell q1,hHr.drew.cell q2,hHr.drew.cell q3⟩) (fun hHeld=>?_)
   refine Tk 0 rfl hHeld ?_
   refine Tk 1 rfl hHeld ?_
   refine Tk 2 rfl hHeld ?_
   refine Tk 3 rfl hHeld ?_
   refine Tk 4 rfl hHeld ?_
   refine Tk 5 rfl hHeld ?_
   refine Tk 6 rfl hHeld ?_
   refine Tk 7 rfl hHeld ?_
   refine Tk 8 rfl hHeld ?_
   refine Tk 9 rfl hHeld ?_
   refine Tk 10 rfl hHeld ?_
   refine Tk 11 rfl hHeld ?_
   refine Tk 12 rfl hHeld ?_
   refine To 13 rfl fun K hK=>?_
   go_simp
   have hE:=World.ownsRow.alloc hown.drew (.cells (itemC y y1 y2 y3 y4++itemC z z1 z2 z3 z4).toArray 79);have hD1:=hC1.drew.alloc (.cells (itemC y y1 y2 y3 y4++itemC z z1 z2 z3 z4).toArray 79);have hHd:=hHr.drew.alloc (.cells (itemC y y1 y2 y3 y4++itemC z z1 z2 z3 z4).toArray 79)
   refine Ko hK ?_ fun hHeld=>?_
   ·exact⟨hD1.cell 3 rfl,hHd.cell p0,hHd.cell p1,hHd.cell p2,hHd.cell p3,hHd.cell q0,hHd.cell q1,hHd.cell q2,hHd.cell q3⟩
   clear hK K
   refine To 14 rfl fun K hK=>?_
   rw[if_pos (by rfl)]
   refine wp_append_src (.tmp 13) (.tmp 26) 76 rfl (w.heap.size+1) 79 i0 _ 8 128 Tryz.underlying76 hi0 hz0 hz1 hz2 rfl (by omega) (.slice VA k vc) k pre rfl hE _ 1 _ (itemC y y1 y2 y3 y4++itemC z z1 z2 z3 z4) rfl (by simp[itemC]) (Src.new _ _ _ _ rfl _ rfl) (ItemsC.oneCell hyz) (by simp only[maxLen];omega) (by omega) (by have:=hC1.lt;simp;omega) fun v' w5 hown5 hg5 hat5=>?_
   have hF1:=hD1.grown hg5 (fun h=>by have:=(World.ownsRow.lt hown _ h).1;omega);have hHe:=hHd.grown hg5 (fun g hg=>hH.none_of_ge (by have:=(World.ownsRow.lt hown g hg).1;omega))
   refine Ko hK ?_ fun hHeld=>?_
   ·exact⟨hF1.cell 3 rfl,hHe.cell p0,hHe.cell p1,hHe.cell p2,hHe.cell p3,hHe.cell q0,hHe.cell q1,hHe.cell q2,hHe.cell q3⟩
   clear hK K
   refine To 15 rfl fun K hK=>?_
   go_simp
   refine Kz hK ?_
   clear hK K
   refine Wd ?_
   obtain⟨VA',vc',rfl⟩:∃ A c,v'=.slice A (k+1) c:=by
    rcases hown5.2 with ⟨_,h⟩ | ⟨g,cap,cur,h,_⟩
    ·omega
    ·exact⟨_,_,h⟩
   have hb5:Below w.heap.size w w5:=((hb.drew).alloc hb.size _).grown hg5 (by have:=hb.size;simp;omega) (fun g hg=>by have:=(World.ownsRow.lt hown g hg).1;omega);have hpre5:ItemsC H (pre++(itemC y y1 y2 y3 y4++itemC z z1 z2 z3 z4)) (x.items.take ((k+1)*2)):=by rw[← htk];exact hpre.app hyz
   clear hHeld p0 p1 p2 p3 q0 q1 q2 q3 hC1 c3 hown hg5 hat5 hD1 hHd hHe hE hpre hb;go_wp2_with fail
   go_roundw
   case rel=>exact⟨k+1,VA',vc',_,by omega,by rw[show((k+1:Nat):Int)*2=(k:Int)*2+2 by omega],rfl,hb5,hF1,hown5,hpre5⟩
   case measure=>simp[intOf];omega
  ·have heven:=HE.out;have hkk:k*2=x.items.length:=by omega
   have hd:x.items.length/2=k:=by omega
   rw[hkk,List.take_length]at hpre;have hi1:(x.items.length:Int)≤(k:Int)*2+1:=by omega
   have HD:=Hh hd;clear hd hkk heven;go_wp2_with fail
   go_ret
   rw[HD.out]
   exact⟨VA,vc,pre,rfl,Src.of_own hown,hpre,hb⟩
theorem header_number (k n:Int) (ba:Option Addr) (bl bc:Nat) (ia:Option Addr) (il ic:Nat) (w:World) :
  Calls Tryz.prog 78 #[.agg #[.int .i64 k,.int .u64 n,.slice ba bl bc,.slice ia il ic]] w
   fun e w'=>e=.returned (.bool ((k==0||k==1)&&decide (n≤65535)))∧Below w.heap.size w w':=by
 go_enter Tryz.func78,Tryz.ntmps78
 go_wp2_with fail
 all_goals
  go_ret
  refine⟨?_,below_box _ _⟩
  show Ending.returned (Value.bool _)=_
  simp_all
theorem header_numberP {H:Snap}{k n:Int}{ba:Option Addr}{bl bc:Nat}{ia:Option Addr}{il ic:Nat}{x:Itm}(hx:ItemA H k n ba bl bc ia il ic x) (w:World) :
  Calls Tryz.prog 78 #[.agg #[.int .i64 k,.int .u64 n,.slice ba bl bc,.slice ia il ic]] w
   fun e w'=>e=.returned (.bool (numberP x))∧Below w.heap.size w w':=by
 obtain⟨rfl,rfl,rfl,rfl,hxi⟩:=hx.eqs
 refine(header_number x.kind x.n ba _ bc ia _ ic w).mono ?_
 rintro e w' ⟨rfl,hb⟩
 refine⟨?_,hb⟩
 rw[numberP];congr 3
 simp
 omega
theorem header_permitted {H:Snap}{ba:Option Addr}{bc:Nat}{ia:Option Addr}{ic:Nat}{x:Itm}(hx:IsItem H ba bc ia ic x)
  {ba':Option Addr} {bc':Nat} {ia':Option Addr} {ic':Nat} {y:Itm} (hy:IsItem H ba' bc' ia' ic' y) (w:World) :
  Calls Tryz.prog 47 #[.agg #[.int .i64 x.kind,.int .u64 x.n,.slice ba x.bytes.length bc,.slice ia x.items.length ic,.int .i64 y.kind,.int .u64 y.n,.slice ba' y.bytes.length bc',.slice ia' y.items.length ic']] w
   fun e w'=>e=.returned (.bool (permP x y))∧Below w.heap.size w w':=by
 have N1:=fun w1=>header_numberP hx.arg w1
 have N2:=fun w1=>header_numberP hy.arg w1
 have hb1:=below_box w (.cells #[.int .i64 x.kind,.int .u64 x.n,.slice ba x.bytes.length bc,.slice ia x.items.length ic,.int .i64 y.kind,.int .u64 y.n,.slice ba' y.bytes.length bc',.slice ia' y.items.length ic'] 79);have hB1:=Blk.new w 79 #[.int .i64 x.kind,.int .u64 x.n,.slice ba x.bytes.length bc,.slice ia x.items.length ic,.int .i64 y.kind,.int .u64 y.n,.slice ba' y.bytes.length bc',.slice ia' y.items.length ic'];have HN1:=Hh N1;have HN2:=Hh N2;clear N1 N2 hx hy
 by_cases h3:x.kind=3
 ·have E:Hid (permP x y=true):=by rw[Hid,permP,if_pos h3]
  have k3:(x.kind==3)=true:=by simp[h3]
  clear h3;go_enter Tryz.func47,Tryz.ntmps47
  go_wp2_with fail
  go_ret
  exact⟨by rw[E.out];rfl,hb1⟩
 have k3:(x.kind==3)=false:=by simp[h3]
 cases hn:numberP x with
 | false =>
  have E:Hid (permP x y=false):=by rw[Hid,permP,if_neg h3,if_pos hn]
  rw[hn]at HN1;clear h3 hn;go_enter Tryz.func47,Tryz.ntmps47
  go_wp2_with fail
  refine(HN1.out _).mono ?_
  rintro e w1 ⟨rfl,hb2⟩
  have hbb:=hb1.trans (hb2.mono hb1.size);clear hb1 hb2;go_wp2_with fail
  go_ret
  exact⟨by rw[E.out];rfl,hbb⟩
 | true =>
  rw[hn]at HN1
  by_cases h1:x.kind=1
  ·have E:Hid (permP x y=true):=by rw[Hid,permP,if_neg h3,if_neg (by simp[hn]),if_pos h1]
   have k1:(x.kind==1)=true:=by simp[h1]
   clear h3 hn h1;go_enter Tryz.func47,Tryz.ntmps47
   go_wp2_with fail
   refine(HN1.out _).mono ?_
   rintro e w1 ⟨rfl,hb2⟩
   have c0:=(hB1.below hb2).cell 0 rfl;have hbb:=hb1.trans (hb2.mono hb1.size);clear hb1 hb2 hB1;go_wp2_with fail
   go_ret
   exact⟨by rw[E.out];rfl,hbb⟩
  have k1:(x.kind==1)=false:=by simp[h1]
  have E:Hid (permP x y=if x.n=1 then numberP y&&(y.kind==1||y.n != 0) else if x.n=4∨x.n=5∨x.n=6∨x.n=12 then y.kind==2 else true):=by rw[Hid,permP,if_neg h3,if_neg (by simp[hn]),if_neg h1]
  clear h3 hn h1;go_enter Tryz.func47,Tryz.ntmps47
  go_wp2_with fail
  refine(HN1.out _).mono ?_
  rintro e w1 ⟨rfl,hb2⟩
  have hB2:=hB1.below hb2;have c0:=hB2.cell 0 rfl;have c1:=hB2.cell 1 rfl;have c4:=hB2.cell 4 rfl;have c5:=hB2.cell 5 rfl;have c6:=hB2.cell 6 rfl;have c7:=hB2.cell 7 rfl;have hbb:=hb1.trans (hb2.mono hb1.size);clear hb1 hb2 hB1
  by_cases n1:x.n=1
  ·have E2:Hid (permP x y=(numberP y&&(y.kind==1||y.n != 0))):=by rw[Hid,E.out,if_pos n1]
   have m1:((x.n:Int)==1)=true:=by simp[n1]
   clear n1 E;go_wp2_with fail
   refine(HN2.out _).mono ?_
   rintro e w2 ⟨rfl,hb3⟩
   have hB3:=hB2.below hb3;have hbb3:=hbb.trans (hb3.mono hbb.size);have d4:=hB3.cell 4 rfl;have d5:=hB3.cell 5 rfl;clear c0 c1 c4 c5 c6 c7 hbb hb3
   cases hm:numberP y with
   | false =>
    have E3:Hid (permP x y=false):=by rw[Hid,E2.out,hm];rfl
    clear hm;go_wp2_with fail
    go_ret
    exact⟨by rw[E3.out];rfl,hbb3⟩
   | true =>
    by_cases g1:y.kind=1
    ·have E3:Hid (permP x y=true):=by rw[Hid,E2.out,hm,g1];rfl
     have l1:(y.kind==1)=true:=by simp[g1]
     clear hm g1;go_wp2_with fail
     go_ret
     exact⟨by rw[E3.out];rfl,hbb3⟩
    ·have l1:(y.kind==1)=false:=by simp[g1]
     have E3:Hid (permP x y=((y.n:Int) != 0)):=by
      rw[Hid,E2.out,hm,l1,Bool.true_and,Bool.false_or];rw[Bool.eq_iff_iff,bne_iff_ne,bne_iff_ne]
      omega
     clear hm g1;go_wp2_with fail
     all_goals
      go_ret
      refine⟨?_,hbb3⟩
      rw[E3.out];show Ending.returned (Value.bool _)=_
      simp_all
  ·have m1:((x.n:Int)==1)=false:=by simp;omega
   by_cases n2:x.n=4∨x.n=5∨x.n=6∨x.n=12
   ·have E2:Hid (permP x y=(y.kind==2)):=by rw[Hid,E.out,if_neg n1,if_pos n2]
    have t:(((x.n:Int)==4)=true)∨(((x.n:Int)==4)=false∧((x.n:Int)==5)=true)∨(((x.n:Int)==4)=false∧((x.n:Int)==5)=false∧((x.n:Int)==6)=true)∨(((x.n:Int)==4)=false∧((x.n:Int)==5)=false∧((x.n:Int)==6)=false∧((x.n:Int)==12)=true):=by
     simp only[beq_iff_eq,beq_eq_false_iff_ne,ne_eq]
     omega
    have T:=Hh t;clear n1 n2 E t
    rcases T.out with t1 | ⟨t1,t2⟩ | ⟨t1,t2,t3⟩ | ⟨t1,t2,t3,t4⟩
    all_goals
     go_wp2_with fail
     go_ret
     exact⟨by rw[E2.out];rfl,hbb⟩
   ·have E2:Hid (permP x y=true):=by rw[Hid,E.out,if_neg n1,if_neg n2]
    have t1:((x.n:Int)==4)=false:=by rw[beq_eq_false_iff_ne];omega
    have t2:((x.n:Int)==5)=false:=by rw[beq_eq_false_iff_ne];omega
    have t3:((x.n:Int)==6)=false:=by rw[beq_eq_false_iff_ne];omega
    have t4:((x.n:Int)==12)=false:=by rw[beq_eq_false_iff_ne];omega
    clear n1 n2 E;go_wp2_with fail
    go_ret
    exact⟨by rw[E2.out];rfl,hbb⟩
theorem header_find {H:Snap}(hTab:Tabs H) {p u:Itm}{a b:Ad}(hp:IsItem H a.ba a.bc a.ia a.ic p) (hu:IsItem H b.ba b.bc b.ia b.ic u) (n:Int) (hn1 : -9223372036854775808≤n) (hn2:n≤9223372036854775807) (w:World) (hH:Holds w H) :
  Calls Tryz.prog 49 #[.agg (hdrC p a u b),.int .i64 n] w
   fun e w'=>∃ v,e=.returned (.tuple #[v,.bool (findH p u n).isSome])∧Gives w H ((findH p u n).getD zeroItm) v w':=by
 have hB:=(Blk.new w 28 (hdrC p a u b)).alloc zeroO;have hT:=Blk.new (w.alloc (.cells (hdrC p a u b) 28)) 26 #[.int .i64 0,.int .u64 0,.slice none 0 0,.slice none 0 0]
 simp only[size_alloc]at hT
 have hG:=(((Grows.refl hH).alloc (.cells (hdrC p a u b) 28)).alloc zeroO).drew;have hTn:H (w.heap.size+1)=none:=hH.none_of_ge (by omega);have hle:=Snap.le.refl H;go_enter Tryz.func49,Tryz.ntmps49
 go_upto_region 1 with fail
 go_cut [6,7] (fun s6 s7 wx=>∃ N ra rb rc rd Hx,s6=.pointer (some ⟨N,0,none⟩)∧s7=.bool (findP p (intP n)).isSome∧Blk wx N 26 #[.int .i64 ((findP p (intP n)).getD zeroItm).kind,.int .u64 ((findP p (intP n)).getD zeroItm).n,.slice ra ((findP p (intP n)).getD zeroItm).bytes.length rb,.slice rc ((findP p (intP n)).getD zeroItm).items.length rd]∧
  Blk wx w.heap.size 28 (hdrC p a u b)∧Blk wx (w.heap.size+1) 26 #[.int .i64 0,.int .u64 0,.slice none 0 0,.slice none 0 0]∧Grows w H wx Hx∧H.le Hx∧Hx (w.heap.size+1)=none∧IsItem Hx ra rb rc rd ((findP p (intP n)).getD zeroItm))
 case first =>
  have hB:=hB.drew;have hT:=hT.drew;have hT0:=hT.lt
  refine wp_region_ways 10 (fun w'=>w'.cell? ⟨w.heap.size,0,none⟩=some (.int .i64 p.kind)∧w'.cell? ⟨w.heap.size,1,none⟩=some (.int .u64 p.n)∧w'.cell? ⟨w.heap.size,2,none⟩=some (.slice a.ba p.bytes.length a.bc)∧w'.cell? ⟨w.heap.size,3,none⟩=some (.slice a.ia p.items.length a.ic)) (by kernel_rfl) (⟨hB.cell 0 rfl,hB.cell 1 rfl,hB.cell 2 rfl,hB.cell 3 rfl⟩) (fun hHeld=>?_)
  refine Tk 0 rfl hHeld ?_
  refine Tk 1 rfl hHeld ?_
  refine Tk 2 rfl hHeld ?_
  refine Ways.two (i:=3) (j:=8) rfl rfl (by kernel_rfl) (fun K hK=>?_) (fun K hK=>?_)
  ·go_simp
   refine(cbor_Int n hn1 hn2 _ hG.holds).mono ?_
   rintro e w2 ⟨v2,rfl,hv2⟩
   have hB:=hB.below hv2.below;have hT:=hT.below hv2.below
   try have hN:=hN.below hv2.below
   obtain⟨ka,kb,kc,kd,H2,rfl,hG2,hi2⟩:=hv2;have hTn:=hG2.none hTn hT0;have hT0:=hT.lt;have hle:=hle.trans hG2.le;have hG:=hG.trans hG2
   try have hNn:=hG2.none hNn hN0
   try have hN0:=hN.lt
   refine Ko hK ?_ fun hHeld=>?_
   ·exact⟨hB.cell 0 rfl,hB.cell 1 rfl,hB.cell 2 rfl,hB.cell 3 rfl⟩
   clear hK K
   refine Ways.two (i:=4) (j:=8) rfl rfl (by kernel_rfl) (fun K hK=>?_) (fun K hK=>?_)
   ·go_simp
    refine(cbor_Find (hTab.mono hle) (hp.mono hle).arg hi2.arg _ hG.holds).mono ?_
    rintro e w3 ⟨v3,rfl,hv3⟩
    have hB:=hB.below hv3.below;have hT:=hT.below hv3.below
    try have hN:=hN.below hv3.below
    obtain⟨ra,rb,rc,rd,H3,rfl,hG3,hi3⟩:=hv3;have hTn:=hG3.none hTn hT0;have hT0:=hT.lt;have hle:=hle.trans hG3.le;have hG:=hG.trans hG3
    try have hNn:=hG3.none hNn hN0
    try have hN0:=hN.lt
    refine Ko hK ?_ fun hHeld=>?_
    ·exact⟨hB.cell 0 rfl,hB.cell 1 rfl,hB.cell 2 rfl,hB.cell 3 rfl⟩
    clear hK K
    refine Tk 5 rfl hHeld ?_
    refine Tk 6 rfl hHeld ?_
    refine Tk 7 rfl hHeld ?_
    refine To 8 rfl fun K hK=>?_
    go_simp
    have hN:=hG.newBlk 26 #[.int .i64 0,.int .u64 0,.slice none 0 0,.slice none 0 0]
    try simp only[drew_heap,size_alloc]at hN
    have hNn:=hG.hidden (Nat.le_refl _)
    try simp only[drew_heap,size_alloc]at hNn
    have hz1:=hT0;have hz2:=hG.size;have hB:=hB.alloc zeroO;have hT:=hT.alloc zeroO;have hG:=hG.alloc zeroO;have hT0:=hT.lt;have hN0:=hN.lt
    refine Ko hK ?_ fun hHeld=>?_
    ·exact⟨hB.cell 0 rfl,hB.cell 1 rfl,hB.cell 2 rfl,hB.cell 3 rfl⟩
    clear hK K
    refine To 9 rfl fun K hK=>?_
    rw[if_pos (by rfl)]
    refine wp_store_item _ _ _ rfl _ _ rfl rfl _ _ hN size_item rfl (one4 _ _ _ _ rfl rfl rfl rfl) fun w5 hN5 hg5=>?_
    have hB:=hB.grown hg5 (by first | (simp;done) | (simp;omega));have hT:=hT.grown hg5 (by first | (simp;done) | (simp;omega));have hG:=hG.grownOwn hNn (by first | exact hz2 | omega) hg5
    refine Ko hK ?_ fun hHeld=>?_
    ·exact⟨hB.cell 0 rfl,hB.cell 1 rfl,hB.cell 2 rfl,hB.cell 3 rfl⟩
    clear hK K
    refine To 10 rfl fun K hK=>?_
    go_simp
    refine Kz hK ?_
    clear hK K
    refine Wd ?_
    go_wp2_with fail
    go_meet
    exact⟨_,ra,rb,rc,rd,_,rfl,rfl,hN5,hB,hT,hG,hle,hTn,hi3⟩
   ·go_simp
    have hN:=hG.newBlk 26 #[.int .i64 0,.int .u64 0,.slice none 0 0,.slice none 0 0]
    try simp only[drew_heap,size_alloc]at hN
    have hNn:=hG.hidden (Nat.le_refl _)
    try simp only[drew_heap,size_alloc]at hNn
    have hz1:=hT0;have hz2:=hG.size;have hB:=hB.alloc zeroO;have hT:=hT.alloc zeroO;have hG:=hG.alloc zeroO;have hT0:=hT.lt;have hN0:=hN.lt
    refine Ko hK ?_ fun hHeld=>?_
    ·exact⟨hB.cell 0 rfl,hB.cell 1 rfl,hB.cell 2 rfl,hB.cell 3 rfl⟩
    clear hK K
    refine To 4 rfl fun K hK=>?_
    go_simp
    refine(cbor_Find (hTab.mono hle) (hp.mono hle).arg hi2.arg _ hG.holds).mono ?_
    rintro e w3 ⟨v3,rfl,hv3⟩
    have hB:=hB.below hv3.below;have hT:=hT.below hv3.below
    try have hN:=hN.below hv3.below
    obtain⟨ra,rb,rc,rd,H3,rfl,hG3,hi3⟩:=hv3;have hTn:=hG3.none hTn hT0;have hT0:=hT.lt;have hle:=hle.trans hG3.le;have hG:=hG.trans hG3
    try have hNn:=hG3.none hNn hN0
    try have hN0:=hN.lt
    refine Ko hK ?_ fun hHeld=>?_
    ·exact⟨hB.cell 0 rfl,hB.cell 1 rfl,hB.cell 2 rfl,hB.cell 3 rfl⟩
    clear hK K
    refine Tk 5 rfl hHeld ?_
    refine Tk 6 rfl hHeld ?_
    refine Tk 7 rfl hHeld ?_
    refine To 9 rfl fun K hK=>?_
    rw[if_pos (by rfl)]
    refine wp_store_item _ _ _ rfl _ _ rfl rfl _ _ hN size_item rfl (one4 _ _ _ _ rfl rfl rfl rfl) fun w5 hN5 hg5=>?_
    have hB:=hB.grown hg5 (by first | (simp;done) | (simp;omega));have hT:=hT.grown hg5 (by first | (simp;done) | (simp;omega));have hG:=hG.grownOwn hNn (by first | exact hz2 | omega) hg5
    refine Ko hK ?_ fun hHeld=>?_
    ·exact⟨hB.cell 0 rfl,hB.cell 1 rfl,hB.cell 2 rfl,hB.cell 3 rfl⟩
    clear hK K
    refine To 10 rfl fun K hK=>?_
    go_simp
    refine Kz hK ?_
    clear hK K
    refine Wd ?_
    go_wp2_with fail
    go_meet
    exact⟨_,ra,rb,rc,rd,_,rfl,rfl,hN5,hB,hT,hG,hle,hTn,hi3⟩
  ·go_simp
   have hN:=hG.newBlk 26 #[.int .i64 0,.int .u64 0,.slice none 0 0,.slice none 0 0]
   try simp only[drew_heap,size_alloc]at hN
   have hNn:=hG.hidden (Nat.le_refl _)
   try simp only[drew_heap,size_alloc]at hNn
   have hz1:=hT0;have hz2:=hG.size;have hB:=hB.alloc zeroO;have hT:=hT.alloc zeroO;have hG:=hG.alloc zeroO;have hT0:=hT.lt;have hN0:=hN.lt
   refine Ko hK ?_ fun hHeld=>?_
   ·exact⟨hB.cell 0 rfl,hB.cell 1 rfl,hB.cell 2 rfl,hB.cell 3 rfl⟩
   clear hK K
   refine To 3 rfl fun K hK=>?_
   go_simp
   refine(cbor_Int n hn1 hn2 _ hG.holds).mono ?_
   rintro e w2 ⟨v2,rfl,hv2⟩
   have hB:=hB.below hv2.below;have hT:=hT.below hv2.below
   try have hN:=hN.below hv2.below
   obtain⟨ka,kb,kc,kd,H2,rfl,hG2,hi2⟩:=hv2;have hTn:=hG2.none hTn hT0;have hT0:=hT.lt;have hle:=hle.trans hG2.le;have hG:=hG.trans hG2
   try have hNn:=hG2.none hNn hN0
   try have hN0:=hN.lt
   refine Ko hK ?_ fun hHeld=>?_
   ·exact⟨hB.cell 0 rfl,hB.cell 1 rfl,hB.cell 2 rfl,hB.cell 3 rfl⟩
   clear hK K
   refine To 4 rfl fun K hK=>?_
   go_simp
   refine(cbor_Find (hTab.mono hle) (hp.mono hle).arg hi2.arg _ hG.holds).mono ?_
   rintro e w3 ⟨v3,rfl,hv3⟩
   have hB:=hB.below hv3.below;have hT:=hT.below hv3.below
   try have hN:=hN.below hv3.below
   obtain⟨ra,rb,rc,rd,H3,rfl,hG3,hi3⟩:=hv3;have hTn:=hG3.none hTn hT0;have hT0:=hT.lt;have hle:=hle.trans hG3.le;have hG:=hG.trans hG3
   try have hNn:=hG3.none hNn hN0
   try have hN0:=hN.lt
   refine Ko hK ?_ fun hHeld=>?_
   ·exact⟨hB.cell 0 rfl,hB.cell 1 rfl,hB.cell 2 rfl,hB.cell 3 rfl⟩
   clear hK K
   refine Tk 5 rfl hHeld ?_
   refine Tk 6 rfl hHeld ?_
   refine Tk 7 rfl hHeld ?_
   refine To 9 rfl fun K hK=>?_
   rw[if_pos (by rfl)]
   refine wp_store_item _ _ _ rfl _ _ rfl rfl _ _ hN size_item rfl (one4 _ _ _ _ rfl rfl rfl rfl) fun w5 hN5 hg5=>?_
   have hB:=hB.grown hg5 (by first | (simp;done) | (simp;omega));have hT:=hT.grown hg5 (by first | (simp;done) | (simp;omega));have hG:=hG.grownOwn hNn (by first | exact hz2 | omega) hg5
   refine Ko hK ?_ fun hHeld=>?_
   ·exact⟨hB.cell 0 rfl,hB.cell 1 rfl,hB.cell 2 rfl,hB.cell 3 rfl⟩
   clear hK K
   refine To 10 rfl fun K hK=>?_
   go_simp
   refine Kz hK ?_
   clear hK K
   refine Wd ?_
   go_wp2_with fail
   go_meet
   exact⟨_,ra,rb,rc,rd,_,rfl,rfl,hN5,hB,hT,hG,hle,hTn,hi3⟩
 case rest =>
  obtain⟨N,ra,rb,rc,rd,Hx,rfl,rfl,hN,hB,hT,hG,hle,hTn,hi⟩:=hcut;have hT0:=hT.lt
  cases hf:findP p (intP n) with
  | some x =>
   have E:Hid (findH p u n=some x):=by rw[Hid,findH,hf]
   rw[hf]at hN hi
   simp only[Option.getD_some]at hN hi
   have n0:=hN.cell 0 rfl;have n1:=hN.cell 1 rfl;have n2:=hN.cell 2 rfl;have n3:=hN.cell 3 rfl;clear hf;go_wp2_with (with_reducible refine stop_store ?_)
   refine stI hT fun w6 hJ2 hg6=>?_
   go_wp2_with fail
   refine ret_row_tmp rfl rfl hJ2 rfl rfl size_item rfl ?_
   rw[E.out]
   exact⟨_,rfl,ra,rb,rc,rd,Hx,rfl,hG.grownOwn hTn (by omega) hg6,hi⟩
  | none =>
   have E:Hid (findH p u n=findP u (intP n)):=by rw[Hid,findH,hf]
   clear hN hi hf;have hB:=hB.drew;have hT:=hT.drew;have hG:=hG.drew;have hT0:=hT.lt;go_upto_region 4 with fail
   refine wp_region_ways 8 (fun w'=>w'.cell? ⟨w.heap.size,4,none⟩=some (.int .i64 u.kind)∧w'.cell? ⟨w.heap.size,5,none⟩=some (.int .u64 u.n)∧w'.cell? ⟨w.heap.size,6,none⟩=some (.slice b.ba u.bytes.length b.bc)∧w'.cell? ⟨w.heap.size,7,none⟩=some (.slice b.ia u.items.length b.ic)) (by kernel_rfl) (⟨hB.cell 4 rfl,hB.cell 5 rfl,hB.cell 6 rfl,hB.cell 7 rfl⟩) (fun hHeld=>?_)
   refine Tk 0 rfl hHeld ?_
   refine Tk 1 rfl hHeld ?_
   refine Tk 2 rfl hHeld ?_
   refine To 3 rfl fun K hK=>?_
   go_simp
   refine(cbor_Int n hn1 hn2 _ hG.holds).mono ?_
   rintro e w7 ⟨v7,rfl,hv7⟩
   have hB:=hB.below hv7.below;have hT:=hT.below hv7.below;obtain⟨sa,sb,sc,sd,H7,rfl,hG7,hi7⟩:=hv7;have hTn:=hG7.none hTn hT0;have hT0:=hT.lt;have hle:=hle.trans hG7.le;have hG:=hG.trans hG7
   refine Ko hK ?_ fun hHeld=>?_
   ·exact⟨hB.cell 4 rfl,hB.cell 5 rfl,hB.cell 6 rfl,hB.cell 7 rfl⟩
   clear hK K
   refine To 4 rfl fun K hK=>?_
   go_simp
   refine(cbor_Find (hTab.mono hle) (hu.mono hle).arg hi7.arg _ hG.holds).mono ?_
   rintro e w8 ⟨v8,rfl,hv8⟩
   have hB:=hB.below hv8.below;have hT:=hT.below hv8.below;obtain⟨ta,tb,tc,td,H8,rfl,hG8,hi8⟩:=hv8;have hTn:=hG8.none hTn hT0;have hT0:=hT.lt;have hle:=hle.trans hG8.le;have hG:=hG.trans hG8
   refine Ko hK ?_ fun hHeld=>?_
   ·exact⟨hB.cell 4 rfl,hB.cell 5 rfl,hB.cell 6 rfl,hB.cell 7 rfl⟩
   clear hK K
   refine Tk 5 rfl hHeld ?_
   refine Tk 6 rfl hHeld ?_
   refine To 7 rfl fun K hK=>?_
   rw[if_pos (by rfl)]
   refine wp_store_item _ _ _ rfl (w.heap.size+1) _ rfl rfl _ _ hT size_item rfl (one4 _ _ _ _ rfl rfl rfl rfl) fun w9 hT9 hg9=>?_
   have hB:=hB.grown hg9 (by simp);have hG:=hG.grownOwn hTn (by omega) hg9
   refine Ko hK ?_ fun hHeld=>?_
   ·exact⟨hB.cell 4 rfl,hB.cell 5 rfl,hB.cell 6 rfl,hB.cell 7 rfl⟩
   clear hK K
   refine To 8 rfl fun K hK=>?_
   go_simp
   refine Kz hK ?_
   clear hK K
   refine Wd ?_
   go_wp2_with fail
   refine ret_row_tmp rfl rfl hT9 rfl rfl size_item rfl ?_
   rw[E.out]
   exact⟨_,rfl,ta,tb,tc,td,_,rfl,hG,hi8⟩
theorem header_Valid {H:Snap}(hTab:Tabs H) {p u:Itm}{a b:Ad}(hp:IsItem H a.ba a.bc a.ia a.ic p) (hu:IsItem H b.ba b.bc b.ia b.ic u) (w:World) (hH:Holds w H) :
  Calls Tryz.prog 20 #[.agg (hdrC p a u b)] w fun e w'=>e=.returned (.bool (validH p u))∧Below w.heap.size w w':=by
 have hB:=(Blk.new w 28 (hdrC p a u b)).alloc (.cells (hdrC p a u b) 26);have hM:=Blk.new (w.alloc (.cells (hdrC p a u b) 28)) 26 (hdrC p a u b)
 simp only[size_alloc]at hM
 have hbw:Below w.heap.size w ((w.alloc (.cells (hdrC p a u b) 28)).alloc (.cells (hdrC p a u b) 26)):=(below_box w _).alloc (by simp) _;have hlt0:w.heap.size+1<((w.alloc (.cells (hdrC p a u b) 28)).alloc (.cells (hdrC p a u b) 26)).heap.size:=by simp
 go_enter Tryz.func20,Tryz.ntmps20
 go_upto_region 2 with fail
 go_loopw [29] (fun vi wr=>∃ j:Nat,j≤2∧vi=.int .i64 j∧(1≤j→okMap p=true)∧(2≤j→okMap u=true)∧Below w.heap.size w wr∧Blk wr w.heap.size 28 (hdrC p a u b)∧Blk wr (w.heap.size+1) 26 (hdrC p a u b)) (fun vi _=>2-(intOf vi).toNat)
 case atStart=>exact⟨0,by omega,rfl,by omega,by omega,hbw,hB,hM⟩
 case round =>
  obtain⟨j,hj,rfl,hop,hou,hbr,hBr,hMr⟩:=hrel;have HOP:=Hh hop;have HOU:=Hh hou;clear hop hou
  by_cases hlt:j<2
  ·have hm:∃ (m:Itm) (am:Ad),(j=0→m=p)∧(j=1→m=u)∧IsItem H am.ba am.bc am.ia am.ic m∧wr.cell? ⟨w.heap.size+1,j*4,none⟩=some (.int .i64 m.kind)∧wr.cell? ⟨w.heap.size+1,j*4+1,none⟩=some (.int .u64 m.n)∧
     wr.cell? ⟨w.heap.size+1,j*4+2,none⟩=some (.slice am.ba m.bytes.length am.bc)∧wr.cell? ⟨w.heap.size+1,j*4+3,none⟩=some (.slice am.ia m.items.length am.ic):=by
    rcases(by omega:j=0∨j=1) with rfl | rfl
    ·exact⟨p,a,fun _=>rfl,by omega,hp,hMr.cell _ rfl,hMr.cell _ rfl,hMr.cell _ rfl,hMr.cell _ rfl⟩
    ·exact⟨u,b,by omega,fun _=>rfl,hu,hMr.cell _ rfl,hMr.cell _ rfl,hMr.cell _ rfl,hMr.cell _ rfl⟩
   obtain⟨m,am,hm0,hm1,hmi,d0,d1,d2,d3⟩:=hm
   have BAD:Hid (okMap m=false→validH p u=false):=by
    intro h
    rcases(by omega:j=0∨j=1) with rfl | rfl
    ·rw[hm0 rfl]at h;simp[validH,h]
    ·rw[hm1 rfl]at h;simp[validH,h]
   have GOOD:Hid (okMap m=true→(1≤j+1→okMap p=true)∧(2≤j+1→okMap u=true)):=by
    intro h
    rcases(by omega:j=0∨j=1) with rfl | rfl
    ·rw[hm0 rfl]at h;exact⟨fun _=>h,by omega⟩
    ·rw[hm1 rfl]at h;exact⟨fun _=>HOP.out (by omega),fun _=>h⟩
   have hT:=(Blk.new wr 26 #[.int .i64 m.kind,.int .u64 m.n,.slice am.ba m.bytes.length am.bc,.slice am.ia m.items.length am.ic])
   have hHr:Holds (wr.alloc (itemO m am.ba am.bc am.ia am.ic)) H:=(hH.below hbr (Nat.le_refl _)).alloc _;have V:=Hh (cbor_Valid hTab hmi.arg _ hHr);have hbr1:=hbr.alloc hbr.size (itemO m am.ba am.bc am.ia am.ic);have hBr1:=hBr.alloc (itemO m am.ba am.bc am.ia am.ic);have hMr1:=hMr.alloc (itemO m am.ba am.bc am.ia am.ic);clear hm0 hm1 hBr hMr
   by_cases h5:m.kind=5
   ·have k5:(m.kind != 5)=false:=by simp[h5]
    have H5:=Hh h5;clear h5
    cases hv:validP m with
    | false =>
     have E:Hid (validH p u=false):=BAD.out (by simp[okMap,hv]);rw[hv]at V;clear hv;go_wp2_with fail
     refine V.out.mono ?_
     rintro e w1 ⟨rfl,hb1⟩
     have hb2:=hbr1.trans (hb1.mono hbr1.size);go_wp2_with fail
     go_ret
     exact⟨by rw[E.out];rfl,hb2⟩
    | true =>
     have heven:=validP_even hv H5.out;have hlen:=(validP_items hv).2.1;have HV:=Hh hv;rw[hv]at V;clear hv;go_wp2_with fail
     refine V.out.mono ?_
     rintro e w1 ⟨rfl,hb1⟩
     have hB1:=hBr1.below hb1;have hM1:=hMr1.below hb1;have hT1:=hT.below hb1;have hbw1:=hbr1.trans (hb1.mono hbr1.size);have t0:=hT1.cell 0 rfl;have t1:=hT1.cell 1 rfl;have t2:=hT1.cell 2 rfl;have t3:=hT1.cell 3 rfl;have P:=Hh (header_pairs hmi.arg heven (by omega) w1 (hHr.below hb1 (Nat.le_refl _)));have HEV:=Hh heven;clear d0 d1 d2 d3 V hBr1 hMr1 hT hHr hbr1 heven;go_wp2_with fail
     refine P.out.mono ?_
     rintro e w2 ⟨PA,pc,cs,rfl,hsrc,hcs,hb2⟩
     have hB2:=hB1.below hb2;have hM2:=hM1.below hb2;have hbw2:=hbw1.trans (hb2.mono hbw1.size);clear t0 t1 t2 t3 P hB1 hM1 hT1 hbw1;go_upto_region 7 with fail
     go_loopw [44] (fun vi wr=>∃ k:Nat,k≤m.items.length/2∧vi=.int .i64 k∧permL (m.items.drop (k*2))=permL m.items∧Below w2.heap.size w2 wr) (fun vi _=>m.items.length/2-(intOf vi).toNat)
     case atStart=>exact⟨0,Nat.zero_le _,rfl,by simp,Below.refl _ _⟩
     case round =>
      obtain⟨k,hk,rfl,hpl,hbx⟩:=hrel
      by_cases hlt2:k<m.items.length/2
      ·have hev:=HEV.out;have hk0:k*2<m.items.length:=by omega
       have hk1:k*2+1<m.items.length:=by omega
       have hst:=permL_step m.items (k*2) hk1;rw[hpl]at hst;obtain⟨y1,y2,y3,y4,c0,c1,c2,c3,hy⟩:=hcs.get (k*2) hk0;obtain⟨z1,z2,z3,z4,c4,c5,c6,c7,hz⟩:=hcs.get (k*2+1) hk1;obtain⟨pb,po,rfl,hpc⟩:=(hsrc.below hbx) (by intro h;subst h;simp at c0)
       have e0:=hpc _ _ c0;have e1:=hpc _ _ c1;have e2:=hpc _ _ c2;have e3:=hpc _ _ c3;have e4:=hpc _ _ c4;have e5:=hpc _ _ c5;have e6:=hpc _ _ c6;have e7:=hpc _ _ c7;rw[show po+k*2*4=po+k*8 by omega]at e0;rw[show po+(k*2*4+1)=po+k*8+1 by omega]at e1;rw[show po+(k*2*4+2)=po+k*8+2 by omega]at e2;rw[show po+(k*2*4+3)=po+k*8+3 by omega]at e3;rw[show po+(k*2+1)*4=po+k*8+4 by omega]at e4;rw[show po+((k*2+1)*4+1)=po+k*8+5 by omega]at e5;rw[show po+((k*2+1)*4+2)=po+k*8+6 by omega]at e6;rw[show po+((k*2+1)*4+3)=po+k*8+7 by omega]at e7;have ek:Hid (permL m.items=(permP m.items[k*2] m.items[k*2+1]&&permL (m.items.drop ((k+1)*2)))):=by rw[Hid,hst,show(k+1)*2=k*2+2 by omega]
       generalize m.items[k*2]'hk0=y at *
       generalize m.items[k*2+1]'hk1=z at *
       have PM:=Hh (header_permitted hy hz (wr.alloc (.cells #[.int .i64 y.kind,.int .u64 y.n,.slice y1 y.bytes.length y2,.slice y3 y.items.length y4,.int .i64 z.kind,.int .u64 z.n,.slice z1 z.bytes.length z2,.slice z3 z.items.length z4] 79)));have hlt3:(k:Int)<(m.items.length/2:Nat):=by omega
       clear hpc c0 c1 c2 c3 c4 c5 c6 c7 hst hpl hev hk0 hk1;go_wp2_with fail
       refine PM.out.mono ?_
       rintro e w3 ⟨rfl,hb3⟩
       have hb3:=(hbx.alloc hbx.size _).trans (hb3.mono (by have:=hbx.size;simp;omega));clear e0 e1 e2 e3 e4 e5 e6 e7 PM
       cases hpm:permP y z with
       | false =>
        have E:Hid (validH p u=false):=BAD.out (by rw[okMap,ek.out,hpm];simp);have hbz:=hbw2.trans (hb3.mono hbw2.size);clear hpm;go_wp2_with fail
        go_ret
        exact⟨by rw[E.out];rfl,hbz⟩
       | true =>
        have E:Hid (permL (m.items.drop ((k+1)*2))=permL m.items):=by rw[Hid,ek.out,hpm,Bool.true_and]
        clear hpm;go_wp2_with fail
        go_roundw
        case rel=>exact⟨k+1,by omega,by go_num,E.out,hb3⟩
        case measure=>simp[intOf];omega
      ·have E:Hid (okMap m=true):=by
        have hev:=HEV.out;rw[List.drop_eq_nil_of_le (by omega)]at hpl;rw[Hid,okMap,HV.out,← hpl,H5.out];rfl
       have G:=Hh (GOOD.out E.out);have hBx:=hB2.below hbx;have hMx:=hM2.below hbx;have hbz:=hbw2.trans (hbx.mono hbw2.size);clear hpl;go_wp2_with fail
       go_roundw
       case rel=>exact⟨j+1,by omega,by go_num,G.out.1,G.out.2,hbz,hBx,hMx⟩
       case measure=>simp[intOf];omega
   ·have k5:(m.kind != 5)=true:=by simp[h5]
    have E:Hid (validH p u=false):=BAD.out (by simp[okMap,h5]);clear h5 V;go_wp2_with fail
    go_ret
    exact⟨by rw[E.out];rfl,hbr1⟩
  ·have hj2:j=2:=by omega
   subst hj2;have OP:=Hh (HOP.out (by omega));have OU:=Hh (HOU.out (by omega));have hvp:validP p=true∧p.kind=5:=by have:=OP.out;simp[okMap]at this;exact⟨this.1.2,this.1.1⟩
   have heven:=validP_even hvp.1 hvp.2;have hlen:=(validP_items hvp.1).2.1;have hHr:Holds wr H:=hH.below hbr (Nat.le_refl _);have P:=Hh (header_pairs hp.arg heven (by omega) wr hHr);have HEV:=Hh heven;have t0:=hBr.cell 0 rfl;have t1:=hBr.cell 1 rfl;have t2:=hBr.cell 2 rfl;have t3:=hBr.cell 3 rfl
   have E0:Hid (validH p u=(keysFree u p.items && !((findP u (intP 2)).isSome||((findH p u 5).isSome&&(findH p u 6).isSome))&&critP p)):=by
    rw[Hid,validH,OP.out,OU.out,Bool.true_and,Bool.true_and]
   clear hvp heven hMr hM hlt0 hbw hB;go_wp2_with fail
   refine P.out.mono ?_
   rintro e w2 ⟨PA,pc,cs,rfl,hsrc,hcs,hb2⟩
   have hB2:=hBr.below hb2;have hbw2:=hbr.trans (hb2.mono hbr.size);clear t0 t1 t2 t3 P hBr hHr hbr;go_upto_region 14 with fail
   go_loopw [57] (fun vi wr=>∃ k:Nat,k≤p.items.length/2∧vi=.int .i64 k∧keysFree u (p.items.drop (k*2))=keysFree u p.items∧Below w2.heap.size w2 wr) (fun vi _=>p.items.length/2-(intOf vi).toNat)
   case atStart=>exact⟨0,Nat.zero_le _,rfl,by simp,Below.refl _ _⟩
   case round =>
    obtain⟨k,hk,rfl,hpl,hbx⟩:=hrel;have hBx:=hB2.below hbx;have hltx:=hBx.lt;have u4:=hBx.cell 4 rfl;have u5:=hBx.cell 5 rfl;have u6:=hBx.cell 6 rfl;have u7:=hBx.cell 7 rfl;have hHx:Holds wr H:=hH.below (hbw2.trans (hbx.mono hbw2.size)) (Nat.le_refl _)
    by_cases hlt2:k<p.items.length/2
    ·have hev:=HEV.out;have hk0:k*2<p.items.length:=by omega
     have hk1:k*2+1<p.items.length:=by omega
     have hst:=keysFree_step u p.items (k*2) hk1;rw[hpl]at hst;obtain⟨y1,y2,y3,y4,c0,c1,c2,c3,hy⟩:=hcs.get (k*2) hk0;obtain⟨z1,z2,z3,z4,c4,c5,c6,c7,hz⟩:=hcs.get (k*2+1) hk1;obtain⟨pb,po,rfl,hpc⟩:=(hsrc.below hbx) (by intro h;subst h;simp at c0)
     have e0:=hpc _ _ c0;have e1:=hpc _ _ c1;have e2:=hpc _ _ c2;have e3:=hpc _ _ c3;have e4:=hpc _ _ c4;have e5:=hpc _ _ c5;have e6:=hpc _ _ c6;have e7:=hpc _ _ c7;rw[show po+k*2*4=po+k*8 by omega]at e0;rw[show po+(k*2*4+1)=po+k*8+1 by omega]at e1;rw[show po+(k*2*4+2)=po+k*8+2 by omega]at e2;rw[show po+(k*2*4+3)=po+k*8+3 by omega]at e3;rw[show po+(k*2+1)*4=po+k*8+4 by omega]at e4;rw[show po+((k*2+1)*4+1)=po+k*8+5 by omega]at e5;rw[show po+((k*2+1)*4+2)=po+k*8+6 by omega]at e6;rw[show po+((k*2+1)*4+3)=po+k*8+7 by omega]at e7;have ek:Hid (keysFree u p.items=((findP u p.items[k*2]).isNone&&keysFree u (p.items.drop ((k+1)*2)))):=by rw[Hid,hst,show(k+1)*2=k*2+2 by omega]
     generalize p.items[k*2]'hk0=y at *
     generalize p.items[k*2+1]'hk1=z at *
     have FM:=Hh (cbor_Find hTab hu.arg hy.arg (wr.alloc (.cells #[.int .i64 y.kind,.int .u64 y.n,.slice y1 y.bytes.length y2,.slice y3 y.items.length y4,.int .i64 z.kind,.int .u64 z.n,.slice z1 z.bytes.length z2,.slice z3 z.items.length z4] 79)) (hHx.alloc _));have hlt3:(k:Int)<(p.items.length/2:Nat):=by omega
     clear hpc c0 c1 c2 c3 c4 c5 c6 c7 hst hpl hev hk0 hk1;go_wp2_with fail
     refine FM.out.mono ?_
     rintro e w3 ⟨v3,rfl,hv3⟩
     have hb3:=(hbx.alloc hbx.size _).trans (hv3.below.mono (by have:=hbx.size;simp;omega));obtain⟨f1,f2,f3,f4,H3,rfl,_,_⟩:=hv3;clear e0 e1 e2 e3 e4 e5 e6 e7 FM u4 u5 u6 u7
     cases hpm:findP u y with
     | some q =>
      have E:Hid (validH p u=false):=by rw[Hid,E0.out,ek.out,hpm];simp
      have hbz:=hbw2.trans (hb3.mono hbw2.size);have hbz2:=hbz.alloc hbz.size (itemO q f1 f2 f3 f4);clear hpm;go_wp2_with fail
      go_ret
      exact⟨by rw[E.out];rfl,hbz2⟩
     | none =>
      have E:Hid (keysFree u (p.items.drop ((k+1)*2))=keysFree u p.items):=by rw[Hid,ek.out,hpm];simp
      have hb4:=hb3.alloc hb3.size (itemO zeroItm f1 f2 f3 f4);clear hpm;go_wp2_with fail
      go_roundw
      case rel=>exact⟨k+1,by omega,by go_num,E.out,hb4⟩
      case measure=>simp[intOf];omega
    ·have E1:Hid (keysFree u p.items=true):=by
      have hev:=HEV.out;rw[List.drop_eq_nil_of_le (by omega)]at hpl;rw[Hid,← hpl];rfl
     have t0:=hBx.cell 0 rfl;have t1:=hBx.cell 1 rfl;have t2:=hBx.cell 2 rfl;have t3:=hBx.cell 3 rfl;have hbz:=hbw2.trans (hbx.mono hbw2.size);have F5:=Hh (header_find hTab hp hu 5 (by omega) (by omega) wr hHx);obtain⟨b5,hb5⟩:∃ b,(findH p u 5).isSome=b:=⟨_,rfl⟩
     rw[hb5]at F5;have HB5:=Hh hb5;clear hb5 hpl hsrc hcs hB2 hbx hbw2;go_wp2_with fail
     refine F5.out.mono ?_
     rintro e w3 ⟨v3,rfl,hv3⟩
     have hb3:=hv3.below;obtain⟨f1,f2,f3,f4,H3,rfl,_,_⟩:=hv3;have hB3:=(hBx.below hb3).alloc (itemO ((findH p u 5).getD zeroItm) f1 f2 f3 f4);have hbz3:=(hbz.trans (hb3.mono hbz.size)).alloc (hbz.trans (hb3.mono hbz.size)).size (itemO ((findH p u 5).getD zeroItm) f1 f2 f3 f4);have F6:=Hh (header_find hTab hp hu 6 (by omega) (by omega) _ (hH.below hbz3 (Nat.le_refl _)));obtain⟨b6,hb6⟩:∃ b,(findH p u 6).isSome=b:=⟨_,rfl⟩
     rw[hb6]at F6;have HB6:=Hh hb6;clear hb6 t0 t1 t2 t3 u4 u5 u6 u7 F5 hBx hHx hb3;have t0:=hB3.cell 0 rfl;have t1:=hB3.cell 1 rfl;have t2:=hB3.cell 2 rfl;have t3:=hB3.cell 3 rfl;have u4:=hB3.cell 4 rfl;have u5:=hB3.cell 5 rfl;have u6:=hB3.cell 6 rfl;have u7:=hB3.cell 7 rfl;go_wp2_with fail
     refine F6.out.mono ?_
     rintro e w4 ⟨v4,rfl,hv4⟩
     have hb4:=hv4.below;obtain⟨g1,g2,g3,g4,H4,rfl,_,_⟩:=hv4;have hB4:=(hB3.below hb4).alloc (itemO ((findH p u 6).getD zeroItm) g1 g2 g3 g4);have hbz4:=(hbz3.trans (hb4.mono hbz3.size)).alloc (hbz3.trans (hb4.mono hbz3.size)).size (itemO ((findH p u 6).getD zeroItm) g1 g2 g3 g4);clear t0 t1 t2 t3 u4 u5 u6 u7 F6 hB3 hb4;have E2:Hid (validH p u=(!((findP u (intP 2)).isSome||(b5&&b6))&&critP p)):=by rw[Hid,E0.out,E1.out,Bool.true_and,HB5.out,HB6.out]
     clear E0 E1 hbz hbz3;go_upto_region 22 with fail
     go_cut [15,16] (fun s15 s16 wx=>∃ x,s16=.bool x∧(findP u (intP 2)).isSome=x∧Blk wx w.heap.size 28 (hdrC p a u b)∧Below w.heap.size w wx)
     case first =>
      have hB:=hB4.drew;have hb:=hbz4.drew;have hHc:=(hH.below hbz4 (Nat.le_refl _)).drew;have hle:=Snap.le.refl H;clear hB4 hbz4
      refine wp_region_ways 9 (fun w'=>w'.cell? ⟨w.heap.size,4,none⟩=some (.int .i64 u.kind)∧w'.cell? ⟨w.heap.size,5,none⟩=some (.int .u64 u.n)∧w'.cell? ⟨w.heap.size,6,none⟩=some (.slice b.ba u.bytes.length b.bc)∧w'.cell? ⟨w.heap.size,7,none⟩=some (.slice b.ia u.items.length b.ic)) (by kernel_rfl) (⟨hB.cell 4 rfl,hB.cell 5 rfl,hB.cell 6 rfl,hB.cell 7 rfl⟩) (fun hHeld=>?_)
      refine Tk 0 rfl hHeld ?_
      refine Tk 1 rfl hHeld ?_
      refine Ways.two (i:=2) (j:=7) rfl rfl (by kernel_rfl) (fun K hK=>?_) (fun K hK=>?_)
      ·go_simp
       refine(cbor_Int 2 (by omega) (by omega) _ hHc).mono ?_
       rintro e w7 ⟨v7,rfl,hv7⟩
       have hB:=hB.below hv7.below;have hb:=hb.trans (hv7.below.mono hb.size)
       try have hN:=hN.below hv7.below
       obtain⟨sa,sb,sc,sd,H7,rfl,hG7,hi7⟩:=hv7
       try have hNn:=hG7.none hNn hN0
       try have hN0:=hN.lt
       have hHc:=hG7.holds;have hle:=hle.trans hG7.le
       refine Ko hK ?_ fun hHeld=>?_
       ·exact⟨hB.cell 4 rfl,hB.cell 5 rfl,hB.cell 6 rfl,hB.cell 7 rfl⟩
       clear hK K
       refine Ways.two (i:=3) (j:=7) rfl rfl (by kernel_rfl) (fun K hK=>?_) (fun K hK=>?_)
       ·go_simp
        refine(cbor_Find (hTab.mono hle) (hu.mono hle).arg hi7.arg _ hHc).mono ?_
        rintro e w8 ⟨v8,rfl,hv8⟩
        have hB:=hB.below hv8.below;have hb:=hb.trans (hv8.below.mono hb.size)
        try have hN:=hN.below hv8.below
        obtain⟨ra,rb,rc,rd,H8,rfl,hG8,hi8⟩:=hv8
        try have hNn:=hG8.none hNn hN0
        try have hN0:=hN.lt
        have hHc:=hG8.holds;have hle:=hle.trans hG8.le
        refine Ko hK ?_ fun hHeld=>?_
        ·exact⟨hB.cell 4 rfl,hB.cell 5 rfl,hB.cell 6 rfl,hB.cell 7 rfl⟩
        clear hK K
        refine Tk 4 rfl hHeld ?_
        refine Tk 5 rfl hHeld ?_
        refine Tk 6 rfl hHeld ?_
        refine To 7 rfl fun K hK=>?_
        go_simp
        have hN:=below_newBlk hb 26 #[.int .i64 0,.int .u64 0,.slice none 0 0,.slice none 0 0];have hNz:=hB.lt;have hNn:=hHc.none_of_ge (Nat.le_refl _)
        try simp only[drew_heap,size_alloc]at hN hNz hNn
        have hB:=hB.alloc zeroO;have hb:=hb.alloc hb.size zeroO;have hHc:=hHc.alloc zeroO;have hN0:=hN.lt
        refine Ko hK ?_ fun hHeld=>?_
        ·exact⟨hB.cell 4 rfl,hB.cell 5 rfl,hB.cell 6 rfl,hB.cell 7 rfl⟩
        clear hK K
        refine To 8 rfl fun K hK=>?_
        rw[if_pos (by rfl)]
        refine wp_store_item _ _ _ rfl _ _ rfl rfl _ _ hN size_item rfl (one4 _ _ _ _ rfl rfl rfl rfl) fun w9 hN9 hg9=>?_
        have hB:=hB.grown hg9 (by first | (simp;done) | (simp;omega));have hb:=hb.grown hg9 hb.size (by rintro q ⟨⟩;first | omega | simp);have hHc:=hHc.grown hg9 (by rintro q ⟨⟩;exact hNn)
        refine Ko hK ?_ fun hHeld=>?_
        ·exact⟨hB.cell 4 rfl,hB.cell 5 rfl,hB.cell 6 rfl,hB.cell 7 rfl⟩
        clear hK K
        refine To 9 rfl fun K hK=>?_
        go_simp
        refine Kz hK ?_
        clear hK K
        refine Wd ?_
        go_wp2_with fail
        go_meet
        exact⟨_,rfl,rfl,hB,hb⟩
       ·go_simp
        have hN:=below_newBlk hb 26 #[.int .i64 0,.int .u64 0,.slice none 0 0,.slice none 0 0];have hNz:=hB.lt;have hNn:=hHc.none_of_ge (Nat.le_refl _)
        try simp only[drew_heap,size_alloc]at hN hNz hNn
        have hB:=hB.alloc zeroO;have hb:=hb.alloc hb.size zeroO;have hHc:=hHc.alloc zeroO;have hN0:=hN.lt
        refine Ko hK ?_ fun hHeld=>?_
        ·exact⟨hB.cell 4 rfl,hB.cell 5 rfl,hB.cell 6 rfl,hB.cell 7 rfl⟩
        clear hK K
        refine To 3 rfl fun K hK=>?_
        go_simp
        refine(cbor_Find (hTab.mono hle) (hu.mono hle).arg hi7.arg _ hHc).mono ?_
        rintro e w8 ⟨v8,rfl,hv8⟩
        have hB:=hB.below hv8.below;have hb:=hb.trans (hv8.below.mono hb.size)
        try have hN:=hN.below hv8.below
        obtain⟨ra,rb,rc,rd,H8,rfl,hG8,hi8⟩:=hv8
        try have hNn:=hG8.none hNn hN0
        try have hN0:=hN.lt
        have hHc:=hG8.holds;have hle:=hle.trans hG8.le
        refine Ko hK ?_ fun hHeld=>?_
        ·exact⟨hB.cell 4 rfl,hB.cell 5 rfl,hB.cell 6 rfl,hB.cell 7 rfl⟩
        clear hK K
        refine Tk 4 rfl hHeld ?_
        refine Tk 5 rfl hHeld ?_
        refine Tk 6 rfl hHeld ?_
        refine To 8 rfl fun K hK=>?_
        rw[if_pos (by rfl)]
        refine wp_store_item _ _ _ rfl _ _ rfl rfl _ _ hN size_item rfl (one4 _ _ _ _ rfl rfl rfl rfl) fun w9 hN9 hg9=>?_
        have hB:=hB.grown hg9 (by first | (simp;done) | (simp;omega));have hb:=hb.grown hg9 hb.size (by rintro q ⟨⟩;first | omega | simp);have hHc:=hHc.grown hg9 (by rintro q ⟨⟩;exact hNn)
        refine Ko hK ?_ fun hHeld=>?_
        ·exact⟨hB.cell 4 rfl,hB.cell 5 rfl,hB.cell 6 rfl,hB.cell 7 rfl⟩
        clear hK K
        refine To 9 rfl fun K hK=>?_
        go_simp
        refine Kz hK ?_
        clear hK K
        refine Wd ?_
        go_wp2_with fail
        go_meet
        exact⟨_,rfl,rfl,hB,hb⟩
      ·go_simp
       have hN:=below_newBlk hb 26 #[.int .i64 0,.int .u64 0,.slice none 0 0,.slice none 0 0];have hNz:=hB.lt;have hNn:=hHc.none_of_ge (Nat.le_refl _)
       try simp only[drew_heap,size_alloc]at hN hNz hNn
       have hB:=hB.alloc zeroO;have hb:=hb.alloc hb.size zeroO;have hHc:=hHc.alloc zeroO;have hN0:=hN.lt
       refine Ko hK ?_ fun hHeld=>?_
       ·exact⟨hB.cell 4 rfl,hB.cell 5 rfl,hB.cell 6 rfl,hB.cell 7 rfl⟩
       clear hK K
       refine To 2 rfl fun K hK=>?_
       go_simp
       refine(cbor_Int 2 (by omega) (by omega) _ hHc).mono ?_
       rintro e w7 ⟨v7,rfl,hv7⟩
       have hB:=hB.below hv7.below;have hb:=hb.trans (hv7.below.mono hb.size)
       try have hN:=hN.below hv7.below
       obtain⟨sa,sb,sc,sd,H7,rfl,hG7,hi7⟩:=hv7
       try have hNn:=hG7.none hNn hN0
       try have hN0:=hN.lt
       have hHc:=hG7.holds;have hle:=hle.trans hG7.le
       refine Ko hK ?_ fun hHeld=>?_
       ·exact⟨hB.cell 4 rfl,hB.cell 5 rfl,hB.cell 6 rfl,hB.cell 7 rfl⟩
       clear hK K
       refine To 3 rfl fun K hK=>?_
       go_simp
       refine(cbor_Find (hTab.mono hle) (hu.mono hle).arg hi7.arg _ hHc).mono ?_
       rintro e w8 ⟨v8,rfl,hv8⟩
       have hB:=hB.below hv8.below;have hb:=hb.trans (hv8.below.mono hb.size)
       try have hN:=hN.below hv8.below
       obtain⟨ra,rb,rc,rd,H8,rfl,hG8,hi8⟩:=hv8
       try have hNn:=hG8.none hNn hN0
       try have hN0:=hN.lt
       have hHc:=hG8.holds;have hle:=hle.trans hG8.le
       refine Ko hK ?_ fun hHeld=>?_
       ·exact⟨hB.cell 4 rfl,hB.cell 5 rfl,hB.cell 6 rfl,hB.cell 7 rfl⟩
       clear hK K
       refine Tk 4 rfl hHeld ?_
       refine Tk 5 rfl hHeld ?_
       refine Tk 6 rfl hHeld ?_
       refine To 8 rfl fun K hK=>?_
       rw[if_pos (by rfl)]
       refine wp_store_item _ _ _ rfl _ _ rfl rfl _ _ hN size_item rfl (one4 _ _ _ _ rfl rfl rfl rfl) fun w9 hN9 hg9=>?_
       have hB:=hB.grown hg9 (by first | (simp;done) | (simp;omega));have hb:=hb.grown hg9 hb.size (by rintro q ⟨⟩;first | omega | simp);have hHc:=hHc.grown hg9 (by rintro q ⟨⟩;exact hNn)
       refine Ko hK ?_ fun hHeld=>?_
       ·exact⟨hB.cell 4 rfl,hB.cell 5 rfl,hB.cell 6 rfl,hB.cell 7 rfl⟩
       clear hK K
       refine To 9 rfl fun K hK=>?_
       go_simp
       refine Kz hK ?_
       clear hK K
       refine Wd ?_
       go_wp2_with fail
       go_meet
       exact⟨_,rfl,rfl,hB,hb⟩
     case rest =>
      obtain⟨cu,rfl,hcu,hB5,hb5⟩:=hcut;clear hB4 hbz4;have EB:Hid ((cu||(b5&&b6))=true→validH p u=false):=by intro h;rw[E2.out,hcu,h];rfl
      have EG:Hid ((cu||(b5&&b6))=false→validH p u=critP p):=by intro h;rw[E2.out,hcu,h];simp
      clear hcu E2
      by_cases hq:(cu||(b5&&b6))=true
      ·have E:=Hh (EB.out hq);have hq':cu=true∨(cu=false∧b5=true∧b6=true):=by cases cu <;> cases b5 <;> cases b6 <;> simp_all
       clear hq EB EG
       rcases hq' with rfl | ⟨rfl,rfl,rfl⟩
       all_goals
        go_wp2_with fail
        go_ret
        exact⟨by rw[E.out];rfl,hb5⟩
      ·have E:=Hh (EG.out (by simpa using hq));have hq':cu=false∧(b5=false∨(b5=true∧b6=false)):=by cases cu <;> cases b5 <;> cases b6 <;> simp_all
       clear hq EB EG;go_upto_region 23 with fail
       go_cut [94] (fun s94 wx=>s94=.bool false∧wc=wx)
       case first =>
        obtain⟨rfl,rfl | ⟨rfl,rfl⟩⟩:=hq'
        all_goals
         go_wp2_with fail
         go_meet
         exact⟨rfl,rfl⟩
       case rest =>
        obtain⟨rfl,rfl⟩:=hcut;clear hq';go_upto_region 25 with fail
        go_cut [17,18] (fun s17 s18 wx=>∃ N ra rb rc rd Hx x,s17=.pointer (some ⟨N,0,none⟩)∧s18=.bool x∧(findP p (intP 2)).isSome=x∧Blk wx N 26 #[.int .i64 ((findP p (intP 2)).getD zeroItm).kind,.int .u64 ((findP p (intP 2)).getD zeroItm).n,.slice ra ((findP p (intP 2)).getD zeroItm).bytes.length rb,.slice rc ((findP p (intP 2)).getD zeroItm).items.length rd]∧
         Blk wx w.heap.size 28 (hdrC p a u b)∧Below w.heap.size w wx∧Holds wx Hx∧H.le Hx∧IsItem Hx ra rb rc rd ((findP p (intP 2)).getD zeroItm))
        case first =>
         have hB:=hB5.drew;have hb:=hb5.drew;have hHc:=(hH.below hb5 (Nat.le_refl _)).drew;have hle:=Snap.le.refl H;clear hB5 hb5
         refine wp_region_ways 9 (fun w'=>w'.cell? ⟨w.heap.size,0,none⟩=some (.int .i64 p.kind)∧w'.cell? ⟨w.heap.size,1,none⟩=some (.int .u64 p.n)∧w'.cell? ⟨w.heap.size,2,none⟩=some (.slice a.ba p.bytes.length a.bc)∧w'.cell? ⟨w.heap.size,3,none⟩=some (.slice a.ia p.items.length a.ic)) (by kernel_rfl) (⟨hB.cell 0 rfl,hB.cell 1 rfl,hB.cell 2 rfl,hB.cell 3 rfl⟩) (fun hHeld=>?_)
         refine Tk 0 rfl hHeld ?_
         refine Tk 1 rfl hHeld ?_
         refine Ways.two (i:=2) (j:=7) rfl rfl (by kernel_rfl) (fun K hK=>?_) (fun K hK=>?_)
         ·go_simp
          refine(cbor_Int 2 (by omega) (by omega) _ hHc).mono ?_
          rintro e w7 ⟨v7,rfl,hv7⟩
          have hB:=hB.below hv7.below;have hb:=hb.trans (hv7.below.mono hb.size)
          try have hN:=hN.below hv7.below
          obtain⟨sa,sb,sc,sd,H7,rfl,hG7,hi7⟩:=hv7
          try have hNn:=hG7.none hNn hN0
          try have hN0:=hN.lt
          have hHc:=hG7.holds;have hle:=hle.trans hG7.le
          refine Ko hK ?_ fun hHeld=>?_
          ·exact⟨hB.cell 0 rfl,hB.cell 1 rfl,hB.cell 2 rfl,hB.cell 3 rfl⟩
          clear hK K
          refine Ways.two (i:=3) (j:=7) rfl rfl (by kernel_rfl) (fun K hK=>?_) (fun K hK=>?_)
          ·go_simp
           refine(cbor_Find (hTab.mono hle) (hp.mono hle).arg hi7.arg _ hHc).mono ?_
           rintro e w8 ⟨v8,rfl,hv8⟩
           have hB:=hB.below hv8.below;have hb:=hb.trans (hv8.below.mono hb.size)
           try have hN:=hN.below hv8.below
           obtain⟨ra,rb,rc,rd,H8,rfl,hG8,hi8⟩:=hv8
           try have hNn:=hG8.none hNn hN0
           try have hN0:=hN.lt
           have hHc:=hG8.holds;have hle:=hle.trans hG8.le
           refine Ko hK ?_ fun hHeld=>?_
           ·exact⟨hB.cell 0 rfl,hB.cell 1 rfl,hB.cell 2 rfl,hB.cell 3 rfl⟩
           clear hK K
           refine Tk 4 rfl hHeld ?_
           refine Tk 5 rfl hHeld ?_
           refine Tk 6 rfl hHeld ?_
           refine To 7 rfl fun K hK=>?_
           go_simp
           have hN:=below_newBlk hb 26 #[.int .i64 0,.int .u64 0,.slice none 0 0,.slice none 0 0];have hNz:=hB.lt;have hNn:=hHc.none_of_ge (Nat.le_refl _)
           try simp only[drew_heap,size_alloc]at hN hNz hNn
           have hB:=hB.alloc zeroO;have hb:=hb.alloc hb.size zeroO;have hHc:=hHc.alloc zeroO;have hN0:=hN.lt
           refine Ko hK ?_ fun hHeld=>?_
           ·exact⟨hB.cell 0 rfl,hB.cell 1 rfl,hB.cell 2 rfl,hB.cell 3 rfl⟩
           clear hK K
           refine To 8 rfl fun K hK=>?_
           rw[if_pos (by rfl)]
           refine wp_store_item _ _ _ rfl _ _ rfl rfl _ _ hN size_item rfl (one4 _ _ _ _ rfl rfl rfl rfl) fun w9 hN9 hg9=>?_
           have hB:=hB.grown hg9 (by first | (simp;done) | (simp;omega));have hb:=hb.grown hg9 hb.size (by rintro q ⟨⟩;first | omega | simp);have hHc:=hHc.grown hg9 (by rintro q ⟨⟩;exact hNn)
           refine Ko hK ?_ fun hHeld=>?_
           ·exact⟨hB.cell 0 rfl,hB.cell 1 rfl,hB.cell 2 rfl,hB.cell 3 rfl⟩
           clear hK K
           refine To 9 rfl fun K hK=>?_
           go_simp
           refine Kz hK ?_
           clear hK K
           refine Wd ?_
           go_wp2_with fail
           go_meet
           exact⟨_,ra,rb,rc,rd,_,_,rfl,rfl,rfl,hN9,hB,hb,hHc,hle,hi8⟩
          ·go_simp
           have hN:=below_newBlk hb 26 #[.int .i64 0,.int .u64 0,.slice none 0 0,.slice none 0 0];have hNz:=hB.lt;have hNn:=hHc.none_of_ge (Nat.le_refl _)
           try simp only[drew_heap,size_alloc]at hN hNz hNn
           have hB:=hB.alloc zeroO;have hb:=hb.alloc hb.size zeroO;have hHc:=hHc.alloc zeroO;have hN0:=hN.lt
           refine Ko hK ?_ fun hHeld=>?_
           ·exact⟨hB.cell 0 rfl,hB.cell 1 rfl,hB.cell 2 rfl,hB.cell 3 rfl⟩
           clear hK K
           refine To 3 rfl fun K hK=>?_
           go_simp
           refine(cbor_Find (hTab.mono hle) (hp.mono hle).arg hi7.arg _ hHc).mono ?_
           rintro e w8 ⟨v8,rfl,hv8⟩
           have hB:=hB.below hv8.below;have hb:=hb.trans (hv8.below.mono hb.size)
           try have hN:=hN.below hv8.below
           obtain⟨ra,rb,rc,rd,H8,rfl,hG8,hi8⟩:=hv8
           try have hNn:=hG8.none hNn hN0
           try have hN0:=hN.lt
           have hHc:=hG8.holds;have hle:=hle.trans hG8.le
           refine Ko hK ?_ fun hHeld=>?_
           ·exact⟨hB.cell 0 rfl,hB.cell 1 rfl,hB.cell 2 rfl,hB.cell 3 rfl⟩
           clear hK K
           refine Tk 4 rfl hHeld ?_
           refine Tk 5 rfl hHeld ?_
           refine Tk 6 rfl hHeld ?_
           refine To 8 rfl fun K hK=>?_
           rw[if_pos (by rfl)]
           refine wp_store_item _ _ _ rfl _ _ rfl rfl _ _ hN size_item rfl (one4 _ _ _ _ rfl rfl rfl rfl) fun w9 hN9 hg9=>?_
           have hB:=hB.grown hg9 (by first | (simp;done) | (simp;omega));have hb:=hb.grown hg9 hb.size (by rintro q ⟨⟩;first | omega | simp);have hHc:=hHc.grown hg9 (by rintro q ⟨⟩;exact hNn)
           refine Ko hK ?_ fun hHeld=>?_
           ·exact⟨hB.cell 0 rfl,hB.cell 1 rfl,hB.cell 2 rfl,hB.cell 3 rfl⟩
           clear hK K
           refine To 9 rfl fun K hK=>?_
           go_simp
           refine Kz hK ?_
           clear hK K
           refine Wd ?_
           go_wp2_with fail
           go_meet
           exact⟨_,ra,rb,rc,rd,_,_,rfl,rfl,rfl,hN9,hB,hb,hHc,hle,hi8⟩
         ·go_simp
          have hN:=below_newBlk hb 26 #[.int .i64 0,.int .u64 0,.slice none 0 0,.slice none 0 0];have hNz:=hB.lt;have hNn:=hHc.none_of_ge (Nat.le_refl _)
          try simp only[drew_heap,size_alloc]at hN hNz hNn
          have hB:=hB.alloc zeroO;have hb:=hb.alloc hb.size zeroO;have hHc:=hHc.alloc zeroO;have hN0:=hN.lt
          refine Ko hK ?_ fun hHeld=>?_
          ·exact⟨hB.cell 0 rfl,hB.cell 1 rfl,hB.cell 2 rfl,hB.cell 3 rfl⟩
          clear hK K
          refine To 2 rfl fun K hK=>?_
          go_simp
          refine(cbor_Int 2 (by omega) (by omega) _ hHc).mono ?_
          rintro e w7 ⟨v7,rfl,hv7⟩
          have hB:=hB.below hv7.below;have hb:=hb.trans (hv7.below.mono hb.size)
          try have hN:=hN.below hv7.below
          obtain⟨sa,sb,sc,sd,H7,rfl,hG7,hi7⟩:=hv7
          try have hNn:=hG7.none hNn hN0
          try have hN0:=hN.lt
          have hHc:=hG7.holds;have hle:=hle.trans hG7.le
          refine Ko hK ?_ fun hHeld=>?_
          ·exact⟨hB.cell 0 rfl,hB.cell 1 rfl,hB.cell 2 rfl,hB.cell 3 rfl⟩
          clear hK K
          refine To 3 rfl fun K hK=>?_
          go_simp
          refine(cbor_Find (hTab.mono hle) (hp.mono hle).arg hi7.arg _ hHc).mono ?_
          rintro e w8 ⟨v8,rfl,hv8⟩
          have hB:=hB.below hv8.below;have hb:=hb.trans (hv8.below.mono hb.size)
          try have hN:=hN.below hv8.below
          obtain⟨ra,rb,rc,rd,H8,rfl,hG8,hi8⟩:=hv8
          try have hNn:=hG8.none hNn hN0
          try have hN0:=hN.lt
          have hHc:=hG8.holds;have hle:=hle.trans hG8.le
          refine Ko hK ?_ fun hHeld=>?_
          ·exact⟨hB.cell 0 rfl,hB.cell 1 rfl,hB.cell 2 rfl,hB.cell 3 rfl⟩
          clear hK K
          refine Tk 4 rfl hHeld ?_
          refine Tk 5 rfl hHeld ?_
          refine Tk 6 rfl hHeld ?_
          refine To 8 rfl fun K hK=>?_
          rw[if_pos (by rfl)]
          refine wp_store_item _ _ _ rfl _ _ rfl rfl _ _ hN size_item rfl (one4 _ _ _ _ rfl rfl rfl rfl) fun w9 hN9 hg9=>?_
          have hB:=hB.grown hg9 (by first | (simp;done) | (simp;omega));have hb:=hb.grown hg9 hb.size (by rintro q ⟨⟩;first | omega | simp);have hHc:=hHc.grown hg9 (by rintro q ⟨⟩;exact hNn)
          refine Ko hK ?_ fun hHeld=>?_
          ·exact⟨hB.cell 0 rfl,hB.cell 1 rfl,hB.cell 2 rfl,hB.cell 3 rfl⟩
          clear hK K
          refine To 9 rfl fun K hK=>?_
          go_simp
          refine Kz hK ?_
          clear hK K
          refine Wd ?_
          go_wp2_with fail
          go_meet
          exact⟨_,ra,rb,rc,rd,_,_,rfl,rfl,rfl,hN9,hB,hb,hHc,hle,hi8⟩
        case rest =>
         obtain⟨N,ra,rb,rc,rd,Hx,xx,rfl,rfl,hxx,hN,hB6,hb6,hHx,hlex,hci⟩:=hcut;clear hB5 hb5
         cases hf:findP p (intP 2) with
         | none =>
          have E3:Hid (validH p u=true):=by rw[Hid,E.out,critP,hf]
          rw[hf]at hxx;have hxx:xx=false:=hxx.symm;subst hxx;clear hf hN hci;go_wp2_with fail
          go_ret
          exact⟨by rw[E3.out];rfl,hb6⟩
         | some c =>
          have E3:Hid (validH p u=((c.items.all fun x=>(findP p x).isSome)&&c.kind==4&&decide (0<c.items.length))):=by rw[Hid,E.out,critP,hf]
          rw[hf]at hN hci hxx;have hxx:xx=true:=hxx.symm;subst hxx
          simp only[Option.getD_some]at hN hci
          have n3:=hN.cell 3 rfl;clear hf E;go_upto_region 29 with fail
          go_loopw [107] (fun vi wr=>∃ k:Nat,k≤c.items.length∧vi=.int .i64 k∧((c.items.take k).all fun x=>(findP p x).isSome)=true∧Below wc.heap.size wc wr) (fun vi _=>c.items.length-(intOf vi).toNat)
          case atStart=>exact⟨0,Nat.zero_le _,rfl,by simp,Below.refl _ _⟩
          case round =>
           obtain⟨k,hk,rfl,hall,hbx⟩:=hrel;have hBx:=hB6.below hbx;have hNx:=hN.below hbx
           by_cases hlt:k<c.items.length
           ·obtain⟨ib,io,hia,hel⟩:=hci.items (by omega);obtain⟨y1,y2,y3,y4,q0,q1,q2,q3,hy⟩:=hel.get k hlt;subst hia;have hHr:Holds wr Hx:=hHx.below hbx (Nat.le_refl _);have p0:=hHr.cell q0;have p1:=hHr.cell q1;have p2:=hHr.cell q2;have p3:=hHr.cell q3;have u0:=hBx.cell 0 rfl;have u1:=hBx.cell 1 rfl;have u2:=hBx.cell 2 rfl;have u3:=hBx.cell 3 rfl;have hltx:=hBx.lt;have hstep:(c.items.all fun x=>(findP p x).isSome)=true→(findP p c.items[k]).isSome=true:=fun h=>List.all_eq_true.1 h _ (List.getElem_mem hlt)
            have hnext:(findP p c.items[k]).isSome=true→((c.items.take (k+1)).all fun x=>(findP p x).isSome)=true:=fun h=>by
             rw[List.take_succ_eq_append_getElem hlt,List.all_append,hall]
             simp[h]
            have HS:=Hh hstep;have HK:Hid (k+1≤c.items.length):=hlt;have hcb:=hci.bounds;have hk63:(k:Int)+1≤9223372036854775807:=by omega
            clear hcb;have HN:=Hh hnext;clear hstep hnext hall
            generalize c.items[k]'hlt=y at *
            have FM:=Hh (cbor_Find (hTab.mono hlex) (hp.mono hlex).arg hy.arg (wr.alloc (itemO y y1 y2 y3 y4)) (hHr.alloc _));clear q0 q1 q2 q3 hel;go_wp2_with fail
            refine FM.out.mono ?_
            rintro e w9 ⟨v9,rfl,hv9⟩
            have hb9:=(hbx.alloc hbx.size _).trans (hv9.below.mono (by have:=hbx.size;simp;omega));obtain⟨f1,f2,f3,f4,H9,rfl,_,_⟩:=hv9;clear p0 p1 p2 p3 u0 u1 u2 u3 FM
            cases hpm:findP p y with
            | none =>
             have E:Hid (validH p u=false):=by
              rw[Hid,E3.out]
              cases ha:(c.items.all fun x=>(findP p x).isSome) with
              | false=>simp
              | true =>
               have:=HS.out ha;rw[hpm]at this
               cases this
             have hbz:=(hb6.trans (hb9.mono hb6.size))
             have hbz2:=hbz.alloc hbz.size (itemO zeroItm f1 f2 f3 f4);clear hpm;go_wp2_with fail
             go_ret
             exact⟨by rw[E.out];rfl,hbz2⟩
            | some q =>
             have E:Hid (((c.items.take (k+1)).all fun x=>(findP p x).isSome)=true):=HN.out (by rw[hpm];rfl);have hb10:=hb9.alloc hb9.size (itemO q f1 f2 f3 f4);clear hpm;go_wp2_with fail
             go_roundw
             case rel=>exact⟨k+1,HK.out,by go_num,E.out,hb10⟩
             case measure=>have:=HK.out;simp[intOf];omega
           ·have hkl:k=c.items.length:=by omega
            subst hkl;rw[List.take_length]at hall;have E:Hid (validH p u=(c.kind==4&&decide (0<c.items.length))):=by rw[Hid,E3.out,hall,Bool.true_and]
            have m0:=hNx.cell 0 rfl;have m3:=hNx.cell 3 rfl;have hbz:=hb6.trans (hbx.mono hb6.size);clear hall E3 n3
            by_cases h4:c.kind=4
            ·have k4:(c.kind==4)=true:=by simp[h4]
             have E5:Hid (validH p u=decide (0<c.items.length)):=by rw[Hid,E.out,k4,Bool.true_and]
             clear h4 E;go_wp2_with fail
             all_goals
              go_ret
              exact⟨by rw[E5.out];rfl,hbz⟩
            ·have k4:(c.kind==4)=false:=by simp[h4]
             have E5:Hid (validH p u=false):=by rw[Hid,E.out,k4,Bool.false_and]
             clear h4 E;go_wp2_with fail
             go_ret
             exact⟨by rw[E5.out];rfl,hbz⟩
def ProtSaid (w:World) (p u:Itm) (e:Ending) (w':World):Prop :=
 (validH p u=false∧e=.returned (.tuple #[.slice none 0 0,.int .i64 1])∧Below w.heap.size w w')∨
 (validH p u=true∧∃ r,e=.returned (.tuple #[r,.int .i64 0])∧Fresh w (protB p) r w')
theorem header_Protected {H:Snap}(hTab:Tabs H) {p u:Itm}{a b:Ad}(hp:IsItem H a.ba a.bc a.ia a.ic p) (hu:IsItem H b.ba b.bc b.ia b.ic u) (w:World) (hH:Holds w H) :
  Calls Tryz.prog 33 #[.agg (hdrC p a u b)] w (ProtSaid w p u):=by
 have hB:=Blk.new w 28 (hdrC p a u b);have hb0:=below_box w (.cells (hdrC p a u b) 28);have hH0:=hH.alloc (.cells (hdrC p a u b) 28);have V:=Hh (header_Valid hTab hp hu _ hH0)
 cases hv:validH p u with
 | false =>
  rw[hv]at V;have HV:=Hh hv;clear hv;go_enter Tryz.func33,Tryz.ntmps33
  go_wp2_with fail
  refine V.out.mono ?_
  rintro e w1 ⟨rfl,hb1⟩
  have hbz:=hb0.trans (hb1.mono hb0.size);go_wp2_with fail
  go_ret2
  exact .inl ⟨HV.out,rfl,hbz⟩
 | true =>
  rw[hv]at V;have HV:=Hh hv;have hvp:=(validH_valid hv).1;have hil:=(validP_items hvp).2.1;clear hv;go_enter Tryz.func33,Tryz.ntmps33
  go_wp2_with fail
  refine V.out.mono ?_
  rintro e w1 ⟨rfl,hb1⟩
  have hB1:=hB.below hb1;have hbz:=hb0.trans (hb1.mono hb0.size);have c0:=hB1.cell 0 rfl;have c1:=hB1.cell 1 rfl;have c2:=hB1.cell 2 rfl;have c3:=hB1.cell 3 rfl
  by_cases h0:p.items.length=0
  ·have E:Hid (protB p=[]):=by rw[Hid,protB,if_pos h0]
   have k0:((p.items.length:Int)==0)=true:=by simp;simpa using h0
   clear h0;go_wp2_with fail
   go_ret2
   exact .inr ⟨HV.out,_,rfl,by rw[E.out];exact⟨OwnB.nil _ _,hbz⟩⟩
  ·have E:Hid (protB p=encB p):=by rw[Hid,protB,if_neg h0]
   have k0:((p.items.length:Int)==0)=false:=by rw[beq_eq_false_iff_ne];omega
   have EN:=Hh (cbor_Encode hTab hp.arg w1 (hH.below hbz (Nat.le_refl _)));have HVP:=Hh hvp;clear h0 hvp;go_wp2_with fail
   refine EN.out.mono ?_
   rintro e w2 (⟨hf,_⟩ | ⟨_,r,rfl,hfr⟩)
   ·rw[HVP.out]at hf;cases hf
   ·have R:Hid (Fresh w (protB p) r w2):=by
     rw[Hid,E.out]
     exact⟨hfr.own.more hbz.size,hbz.trans (hfr.2.mono hbz.size)⟩
    clear hfr;go_wp2_with fail
    go_ret2
    exact .inr ⟨HV.out,_,rfl,R.out⟩
structure IsRows (H:Snap) (A:Option Addr) (c:Nat) (ls:List (List UInt8)):Prop where
 le:ls.length≤c
 max:c≤9223372036854775807
 rows:0<ls.length→∃ b off,A=some ⟨b,off,none⟩∧∀ j (hj:j<ls.length),∃ Aj cj,H.cell? ⟨b,off+j,none⟩=some (.slice Aj ls[j].length cj)∧IsBytes H Aj cj ls[j]
abbrev bytesItm (l:List UInt8):Itm:=.mk 2 0 l []
def inputI (ctx:List UInt8) (p:Itm) (ext:List UInt8) (pay:List (List UInt8)):Itm:=.mk 4 0 [] ([.mk 3 0 ctx [],bytesItm (protB p),bytesItm ext]++pay.map bytesItm)
def inputE (ctx:List UInt8) (p u:Itm) (ext:List UInt8) (pay:List (List UInt8)):Int :=
 if validH p u=false then 1 else if Lib.validD ctx=false then 5 else if validP (inputI ctx p ext pay)=false then 8 else 0
def InputSaid (w:World) (ctx:List UInt8) (p u:Itm) (ext:List UInt8) (pay:List (List UInt8)) (e:Ending) (w':World):Prop :=
 ∃ r l,e=.returned (.tuple #[r,.int .i64 (inputE ctx p u ext pay)])∧Fresh w l r w'∧l=if inputE ctx p u ext pay=0 then encB (inputI ctx p ext pay) else []
theorem OwnI.lit {w:World}{H:Snap}{l:List Itm}{cs:List Value}(h:ItemsC H cs l) (base:Nat) (hb:base≤w.heap.size) (hm:l.length≤4096) :
  OwnI (w.alloc (.cells cs.toArray 26)) base (.slice (some ⟨w.heap.size,0,none⟩) l.length l.length) H l:=by
 refine⟨cs,h,h.len,.inr ⟨w.heap.size,l.length,cs.toArray,rfl,hb,heap_alloc_new w _,Nat.le_refl _,by simp only[maxLen];omega, ?_, ?_⟩⟩
 ·simpa using h.len
 ·rw[← h.len];simp
theorem envelope_Input {H:Snap}(hTab:Tabs H) {p u:Itm}{a b:Ad}(hp:IsItem H a.ba a.bc a.ia a.ic p) (hu:IsItem H b.ba b.bc b.ia b.ic u) (s:ByteArray) (hs:s.size≤1048576)
  {EA:Option Addr} {ec:Nat} {ext:List UInt8} (hext:IsBytes H EA ec ext) (hel:ext.length≤1048576) {PA:Option Addr} {pc:Nat} {pay:List (List UInt8)} (hpay:IsRows H PA pc pay) (hpl:pay.length≤1048576) (hpb:∀ l∈pay,l.length≤1048576) (w:World) (hH:Holds w H) :
  Calls Tryz.prog 16 #[.string s,.agg (hdrC p a u b),.slice EA ext.length ec,.slice PA pay.length pc] w (InputSaid w s.data.toList p u ext pay):=by
 have hb0:=below_box w (.cells (hdrC p a u b) 28);have hG0:=(Grows.refl hH).alloc (.cells (hdrC p a u b) 28);have P:=Hh (header_Protected hTab hp hu _ hG0.holds);go_enter Tryz.func16,Tryz.ntmps16
 go_wp2_with fail
 refine P.out.mono ?_
 rintro e w1 (⟨hv,rfl,hb1⟩ | ⟨hv,r,rfl,hf⟩)
 ·have E:Hid (inputE s.data.toList p u ext pay=1):=by rw[Hid,inputE,if_pos hv]
  have hbz:=hb0.trans (hb1.mono hb0.size);clear hv;go_wp2_with fail
  go_ret2
  exact⟨_,[],by rw[E.out];rfl,⟨OwnB.nil _ _,hbz⟩,by rw[E.out];rfl⟩
 ·obtain⟨RA,rc,rfl,_⟩:=hf.own.form;have U:=Hh (utf8_ValidString hTab w1 (hG0.holds.below hf.2 (Nat.le_refl _)) s (by omega))
  cases hc:Lib.validD s.data.toList with
  | false =>
   have E:Hid (inputE s.data.toList p u ext pay=5):=by rw[Hid,inputE,if_neg (by simp[hv]),if_pos hc]
   rw[hc]at U;clear hv hc;go_wp2_with fail
   refine U.out.mono ?_
   rintro e w2 ⟨rfl,hb2⟩
   have hbz:=(hb0.trans (hf.2.mono hb0.size)).trans (hb2.mono (Nat.le_trans hb0.size hf.2.size));go_wp2_with fail
   go_ret2
   exact⟨_,[],by rw[E.out];rfl,⟨OwnB.nil _ _,hbz⟩,by rw[E.out];rfl⟩
  | true =>
   rw[hc]at U;have HVC:=Hh (And.intro hv hc);clear hv hc;go_wp2_with fail
   refine U.out.mono ?_
   rintro e w2 ⟨rfl,hb2⟩
   have hpb4:(protB p).length≤1099511627776:=by
    have:=(validP_spec (validH_valid HVC.out.1).1).2.2
    unfold protB
    split
    ·simp
    ·omega
   have hG2:=(hG0.below_ hf.2).below_ hb2;have hsr:=(hf.own.src).below hb2;obtain⟨x3,hx3⟩:∃ x,Itm.mk 3 0 s.data.toList []=x:=⟨_,rfl⟩
   obtain⟨x4,hx4⟩:∃ x,Itm.mk 2 0 (protB p) []=x:=⟨_,rfl⟩
   obtain⟨x5,hx5⟩:∃ x,Itm.mk 2 0 ext []=x:=⟨_,rfl⟩
   have T:=Hh (cbor_Text s (by omega) w2 hG2.holds);rw[hx3]at T;go_wp2_with fail
   refine T.out.mono ?_
   rintro e w3 ⟨v3,rfl,ta,tb,tc,td,H3,rfl,hG3,hi3⟩
   have B1:=Hh (cbor_Bytes (c:=rc) (A:=RA) (l:=protB p) rfl hpb4 w3 (hsr.below hG3.below) hG3.holds);rw[hx4]at B1;clear T;go_wp2_with fail
   refine B1.out.mono ?_
   rintro e w4 ⟨v4,rfl,pa',pb',pc',pd',H4,rfl,hG4,hi4⟩
   have B2:=Hh (cbor_Bytes (c:=ec) (A:=EA) (l:=ext) rfl (by omega) w4 (Src.of_row (hext.row.mono (hG3.le.trans hG4.le)) hG4.holds) hG4.holds);rw[hx5]at B2;clear B1;go_wp2_with fail
   refine B2.out.mono ?_
   rintro e w5 ⟨v5,rfl,ea',eb',ec',ed',H5,rfl,hG5,hi5⟩
   have hG:=((hG2.trans hG3).trans hG4).trans hG5
   have hl0:ItemsC H5 (itemC x3 ta tb tc td++(itemC x4 pa' pb' pc' pd'++itemC x5 ea' eb' ec' ed')) [x3,x4,x5] :=
    (ItemsC.one (hi3.mono (hG4.le.trans hG5.le))).app ((ItemsC.one (hi4.mono hG5.le)).app (ItemsC.one hi5))
   have hO:=OwnI.lit (w:=w5) hl0 (w.heap.size+1) (by have:=hf.2.size;have:=hb2.size;have:=hG3.size;have:=hG4.size;have:=hG5.size;simp at *;omega) (by simp);have hGl:=hG.alloc (.cells (itemC x3 ta tb tc td++(itemC x4 pa' pb' pc' pd'++itemC x5 ea' eb' ec' ed')).toArray 26);have hnv:H5 w5.heap.size=none:=hG5.holds.none_of_ge (Nat.le_refl _);clear hG2 hG3 hG4 hG5 hi3 hi4 hi5 hG B2 hsr hf hb2 hl0;go_upto_region 8 with fail
   go_loopw [12,38] (fun v12 vi wr=>∃ (k:Nat) (Hr:Snap) (VA:Option Addr) (vc:Nat),k≤pay.length∧vi=.int .i64 k∧v12=.slice VA (3+k) vc∧Grows w H wr Hr∧
    OwnI wr (w.heap.size+1) (.slice VA (3+k) vc) Hr ([x3,x4,x5]++(pay.take k).map bytesItm)∧(∀ g,(Value.slice VA (3+k) vc).ownBlock=some g→Hr g=none)) (fun _ vi _=>pay.length-(intOf vi).toNat)
   case atStart=>exact⟨0,H5,_,_,Nat.zero_le _,rfl,rfl,hGl,hO,by intro g hg;simp[Value.ownBlock]at hg;subst hg;exact hnv⟩
   case round =>
    obtain⟨k,Hr,VA,vc,hk,rfl,rfl,hGr,hOr,hnr⟩:=hrel
    by_cases hlt:k<pay.length
    ·obtain⟨rb,ro,hra,hrow⟩:=hpay.rows (by omega);obtain⟨Aj,cj,q0,hbj⟩:=hrow k hlt;subst hra;have p0:=(hGr.holds.mono hGr.le).cell q0;have hlj:=hpb pay[k] (List.getElem_mem hlt);obtain⟨x6,hx6⟩:∃ x,Itm.mk 2 0 pay[k] []=x:=⟨_,rfl⟩
     have B:=Hh (cbor_Bytes (c:=cj) (A:=Aj) (l:=pay[k]) rfl (by omega) wr (Src.of_row (hbj.row.mono hGr.le) hGr.holds) hGr.holds);rw[hx6]at B;clear q0 hrow;go_wp2_with fail
     refine B.out.mono ?_
     rintro e w6 ⟨v6,rfl,ja,jb,jc,jd,H6,rfl,hG6,hi6⟩
     have hO6:=((hOr.below hG6.below).mono hG6.le).alloc (.cells (itemC x6 ja jb jc jd).toArray 26);have hG7:=(hGr.trans hG6).alloc (.cells (itemC x6 ja jb jc jd).toArray 26);have hn6:∀ g,(Value.slice VA (3+k) vc).ownBlock=some g→H6 g=none:=fun g hg=>hG6.none (hnr g hg) (hOr.lt g hg).2
     clear p0 B;go_wp2_with (at_builtin;refine stop_in ?_)
     refine wpList_app_items rfl (.tmp 42) (.tmp 45) rfl (w.heap.size+1) (.slice VA (3+k) vc) H6 _ rfl hO6 _ 1 _ (itemC x6 ja jb jc jd) [x6] rfl rfl (ItemsC.one hi6) (Src.new _ _ _ _ rfl _ rfl) (by simp;omega) (by have:=hG7.size;have:=hG6.size;have:=hGr.size;simp at *;omega) fun v' w7 hO7 hg7 hat7=>?_
     obtain⟨VA',vc',rfl,_⟩:=hO7.form;have hG8:=hG7.grownRow hn6 (fun g hg=>by have:=(hO6.lt g hg).1;omega) hg7
     have hn7:∀ g,(Value.slice VA' ([x3,x4,x5]++(pay.take k).map bytesItm++[x6]).length vc').ownBlock=some g→H6 g=none:=fun g hg=>by
      rcases hat7 with h | ⟨g',h1,h2⟩
      ·exact hn6 g (by rw[← h,hg])
      ·rw[hg]at h1;injection h1 with h1
       subst h1
       exact hG7.hidden h2
     have hll:([x3,x4,x5]++(pay.take k).map bytesItm++[x6])=[x3,x4,x5]++(pay.take (k+1)).map bytesItm:=by
      rw[List.take_succ_eq_append_getElem hlt,List.map_append,← hx6]
      simp
     have hlen:([x3,x4,x5]++(pay.take (k+1)).map bytesItm).length=3+(k+1):=by simp;omega
     rw[hll,hlen]at hO7 hn7;rw[hll,hlen];have hk63:(k:Int)+1≤9223372036854775807:=by omega
     clear hO6 hg7 hat7 hn6 hG7 hOr hGr hG6 hi6 hbj;go_wp2_with fail
     go_roundw
     case rel=>exact⟨k+1,H6,VA',vc',by omega,by go_num,rfl,hG8,hO7,hn7⟩
     case measure=>simp[intOf];omega
    ·have hkl:k=pay.length:=by omega
     subst hkl;rw[List.take_length]at hOr;have hI:Hid (inputI s.data.toList p ext pay=.mk 4 0 [] ([x3,x4,x5]++pay.map bytesItm)):=by rw[Hid,inputI,← hx3,← hx4,← hx5]
     have hmod:ModestL ([x3,x4,x5]++pay.map bytesItm):=by
      rw[← hx3,← hx4,← hx5]
      refine ModestL.of fun x hx=>?_
      simp only[List.cons_append,List.nil_append,List.mem_cons,List.mem_map]at hx
      rcases hx with rfl | rfl | rfl | ⟨l,hl,rfl⟩ <;> rw[Modest,ModestL] <;> refine⟨?_,by simp,trivial⟩
      ·simpa using (by omega:s.size≤1099511627776)
      ·exact hpb4
      ·omega
      ·have:=hpb l hl
       omega
     obtain⟨L,hL⟩:∃ L,[x3,x4,x5]++pay.map bytesItm=L:=⟨_,rfl⟩
     have hLn:L.length=3+pay.length:=by rw[← hL];simp;omega
     rw[hL]at hOr hmod hI;obtain⟨cs,hcs,hrow⟩:=hOr;obtain⟨x7,hx7⟩:∃ x,Itm.mk 4 0 [] L=x:=⟨_,rfl⟩
     have AR:=Hh (cbor_Array L VA (3+pay.length) vc wr cs (Src.of_own hrow) hcs hLn.symm (by omega) hmod hGr.holds);rw[hx7]at AR hI;clear hL hmod hrow hcs hx3 hx4 hx5 hO;go_wp2_with fail
     refine AR.out.mono ?_
     rintro e w8 ⟨v8,rfl,xa,xb,xc,xd,H8,rfl,hG8,hi8⟩
     have hGz:=hGr.trans hG8;have EN:=Hh (cbor_Encode (hTab.mono hGz.le) hi8.arg w8 hGz.holds);clear AR hG8 hGr;go_wp2_with fail
     refine EN.out.mono ?_
     rintro e w9 (⟨hv,rfl,hb9⟩ | ⟨hv,r,rfl,hfr⟩)
     ·have E:Hid (inputE s.data.toList p u ext pay=8):=by rw[Hid,inputE,if_neg (by simp[HVC.out.1]),if_neg (by simp[HVC.out.2]),hI.out,if_pos hv]
      have hbz:=hGz.below.trans (hb9.mono hGz.size);clear hv;go_wp2_with fail
      go_ret2
      exact⟨_,[],by rw[E.out];rfl,⟨OwnB.nil _ _,hbz⟩,by rw[E.out];rfl⟩
     ·have E:Hid (inputE s.data.toList p u ext pay=0):=by rw[Hid,inputE,if_neg (by simp[HVC.out.1]),if_neg (by simp[HVC.out.2]),hI.out,if_neg (by simp[hv])]
      have R:Hid (Fresh w (encB x7) r w9):=⟨hfr.own.more hGz.size,hGz.below.trans (hfr.2.mono hGz.size)⟩
      obtain⟨RA',rc',rfl,_⟩:=hfr.own.form;clear hv hfr;go_wp2_with fail
      go_ret2
      exact⟨_,encB x7,by rw[E.out];rfl,R.out,by rw[E.out,hI.out];rfl⟩
end Go.Proofs.YtgcjjhibdbafmaaGreatDoor
namespace Go.Proofs.YtgcjjhibdbafmaaGreatDoor
open Go.RowKit Go.ChangeShapes Go.WideShapes
theorem wf_u64_bnd {n:Int}(h:(Lit.int .u64 n).wf=true):0≤n∧n<18446744073709551616:=by
 simp[Lit.wf,IntKind.min,IntKind.max,IntKind.signed,IntKind.bits]at h
 omega
theorem isElems_of {Hs:Snap}{b:Nat}:∀ (l:List Itm) (off:Nat),(∀ (k:Nat) (hk:k<l.length),∃ ba bc ia ic,Hs.cell? ⟨b,off+k*4,none⟩=some (.int .i64 l[k].kind)∧Hs.cell? ⟨b,off+k*4+1,none⟩=some (.int .u64 l[k].n)∧
   Hs.cell? ⟨b,off+k*4+2,none⟩=some (.slice ba l[k].bytes.length bc)∧Hs.cell? ⟨b,off+k*4+3,none⟩=some (.slice ia l[k].items.length ic)∧IsItem Hs ba bc ia ic l[k])→IsElems Hs b off l
 | [],off,h=>by rw[IsElems];trivial
 | x::l,off,h=>by
  rw[IsElems];obtain⟨ba,bc,ia,ic,h0,h1,h2,h3,hx⟩:=h 0 (by simp)
  refine⟨⟨ba,bc,ia,ic,by simpa using h0,by simpa using h1,by simpa using h2,by simpa using h3,hx⟩,isElems_of l (off+4) fun k hk=>?_⟩
  have:=h (k+1) (by simpa using hk)
  simp only[List.getElem_cons_succ]at this
  rwa [show off+(k+1)*4=off+4+k*4 by omega]at this
instance:Inhabited Itm:=⟨.mk 0 0 [] []⟩
instance:Inhabited Ad:=⟨⟨none,0,none,0⟩⟩
theorem list4 {α:Type}{l:List α}(h:l.length=4):∃ a b c d,l=[a,b,c,d]:=by
 match l,h with
 | [a,b,c,d],_=>exact⟨a,b,c,d,rfl⟩
section
variable {H:Type} {enc:TypeId×Value→H} {W:World}
theorem bytes_cell {fuel:Nat}{c:Value}{x:DataW H×List MemPlace}(h:DataW.trod enc Tryz.prog W 0 (fun _=>true) true fuel 23 [c]=some x) :
  ∃ (A:Option Addr) (k:Nat) (l:List UInt8),c=.slice A l.length k∧IsBytes (heapS W) A k l:=by
 rcases open_ints Tryz.underlying23 Tryz.underlying5 (by kernel_rfl) h with ⟨hcs,hx⟩ | ⟨a,len,cap,zs,hcs,_,hl,hm,hz,hx,hcell,hwz⟩
 ·simp at hcs
  exact⟨none,0,[],hcs,IsBytes.nil _⟩
 ·simp at hcs
  have h1:=bytes_heap hl hm (by simp at hz;omega) hcell hwz
  exact⟨some a,cap,_,by rw[h1.2];exact hcs,h1.1⟩
def ItemIn (W:World) (cs:List Value) (y:Itm×Ad):Prop:=cs=itemC y.1 y.2.ba y.2.bc y.2.ia y.2.ic∧IsItem (heapS W) y.2.ba y.2.bc y.2.ia y.2.ic y.1
theorem item_open:∀ (n:Nat) (cs:List Value) (x:DataW H×List MemPlace),DataW.trod enc Tryz.prog W 0 (fun _=>true) true n 26 cs=some x→∃ y,ItemIn W cs y:=by
 have ci:Tryz.prog.cellsOf 3=1:=by kernel_rfl
 have cu:Tryz.prog.cellsOf 22=1:=by kernel_rfl
 have cb:Tryz.prog.cellsOf 23=1:=by kernel_rfl
 have cl:Tryz.prog.cellsOf 24=1:=by kernel_rfl
 have c4:Tryz.prog.cellsOf 26=4:=by kernel_rfl
 intro n
 induction n using Nat.strongRecOn with
 | _ n ih =>
 intro cs x h
 obtain⟨xs,n1,hn1,_,hl,hxl,hf⟩:=DataW.trod_struct Tryz.underlying26 h;rw[c4]at hl;obtain⟨c0,c1,c2,c3,rfl⟩:=list4 hl;obtain⟨y0,y1,y2,y3,rfl⟩:=list4 (l:=xs) (by rw[hxl];rfl);have f0:=hf 0 _ rfl;have f1:=hf 1 _ rfl;have f2:=hf 2 _ rfl;have f3:=hf 3 _ rfl
 simp[ci]at f0
 simp[cu]at f1
 simp[cb]at f2
 simp[cl]at f3
 obtain⟨k,e0,_,w0⟩:=DataW.trod_int Tryz.underlying3 f0;obtain⟨m,e1,_,w1⟩:=DataW.trod_int Tryz.underlying22 f1;obtain⟨ba,bc,bs,rfl,hbs⟩:=bytes_cell f2
 simp at e0 e1
 subst e0 e1;have b0:=wf_i64_bnd w0;have b1:=wf_u64_bnd w1;obtain⟨q,rfl⟩:∃ q:Nat,m=(q:Int):=⟨m.toNat,by omega⟩
 rcases DataW.trod_slice Tryz.underlying24 f3 with ⟨e3,_⟩ | ⟨a,len,cap,elems,rest,n2,hn2,e3,_,_,hlc,hcm,hlen,hel,_,_⟩
 ·simp at e3
  subst e3
  refine⟨(.mk k q bs [],⟨ba,bc,none,0⟩),rfl, ?_⟩
  rw[IsItem]
  exact⟨⟨b0.1,b0.2,by omega,by simp,Nat.zero_le _⟩,hbs,fun h0=>by simp at h0⟩
 ·simp at e3
  subst e3;rw[c4]at hel
  have each:∀ i,i<len→∃ y:Itm×Ad,∃ cs',W.cells? 0 (a.add (i*4)) 4=some cs'∧ItemIn W cs' y:=fun i hi=>by
   have hi':i<elems.length:=by omega
   have h1:=hel i hi;rw[List.getElem?_eq_getElem hi',Option.bind_eq_some_iff]at h1;obtain⟨cs',h1,h2⟩:=h1;obtain⟨y,hy⟩:=ih n2 (by omega) cs' _ h2
   exact⟨y,cs',h1,hy⟩
  obtain⟨Y,hY⟩:=Go.Deep.choose_lt each;obtain⟨l,hll⟩:∃ l,(List.range len).map (fun i=>(Y i).1)=l:=⟨_,rfl⟩
  have hlz:l.length=len:=by rw[← hll];simp
  refine⟨(.mk k q bs l,⟨ba,bc,some a,cap⟩),by simp[itemC,Itm.kind,Itm.n,Itm.bytes,Itm.items,hlz], ?_⟩
  rw[IsItem];have hcm':cap≤9223372036854775807:=by simpa [maxLen] using hcm
  refine⟨⟨b0.1,b0.2,by omega,by rw[hlz];exact hlc,hcm'⟩,hbs,fun h0=>?_⟩
  rw[hlz]at h0;obtain⟨b,off,spot⟩:=a
  have hsp:spot=none:=by
   obtain⟨cs',h1,h2,_⟩:=hY 0 h0;obtain⟨_,_,h3⟩:=World.cells?_some h1;have h4:=h3 0 (by omega);rw[h2]at h4
   simpa [Addr.add] using World.cell?_spot h4
  subst hsp
  refine⟨b,off,rfl,isElems_of l off fun i hi=>?_⟩
  rw[hlz]at hi;obtain⟨cs',h1,h2,h3⟩:=hY i hi;obtain⟨_,_,h4⟩:=World.cells?_some h1;have g:l[i]'(by omega)=(Y i).1:=by subst hll;simp
  have at_:∀ j,j<4→(heapS W).cell? ⟨b,off+i*4+j,none⟩=cs'[j]? :=fun j hj=>by
   rw[← h4 j hj,add_plain,add_plain];rfl
  rw[g]
  refine⟨_,_,_,_, ?_, ?_, ?_, ?_,h3⟩
  ·rw[← Nat.add_zero (off+i*4),at_ 0 (by omega),h2];rfl
  ·rw[at_ 1 (by omega),h2];rfl
  ·rw[at_ 2 (by omega),h2];rfl
  ·rw[at_ 3 (by omega),h2];rfl
theorem headers_arg {cs:Array Value}{d:DataW H}{p:List MemPlace}(h:DataW.Trod enc Tryz.prog W 0 (fun _=>true) true 28 (.agg cs) d p) :
  ∃ (x y:Itm) (a b:Ad),cs=hdrC x a y b∧IsItem (heapS W) a.ba a.bc a.ia a.ic x∧IsItem (heapS W) b.ba b.bc b.ia b.ic y:=by
 have c4:Tryz.prog.cellsOf 26=4:=by kernel_rfl
 have c8:Tryz.prog.cellsOf 28=8:=by kernel_rfl
 obtain⟨fuel,hf⟩:=h;obtain⟨y0,y1,n,_,hl,h0,h1⟩:=trod_struct2 Tryz.underlying28 hf
 simp only[Value.cells]at h0 h1 hl
 rw[c8]at hl
 simp only[c4]at h0 h1
 obtain⟨⟨x,a⟩,ex,hx⟩:=item_open _ _ _ h0;obtain⟨⟨y,b⟩,ey,hy⟩:=item_open _ _ _ h1
 refine⟨x,y,a,b, ?_,hx,hy⟩
 rw[List.drop_zero]at ex;rw[List.take_of_length_le (by rw[List.length_drop,hl];omega)]at ey;have:=List.take_append_drop 4 cs.toList;rw[ex,ey]at this;apply Array.ext'
 rw[← this];rfl
end
end Go.Proofs.YtgcjjhibdbafmaaGreatDoor
namespace Go.Proofs.YtgcjjhibdbafmaaGreatDoor
open Go.RowKit
def SrcR (w:World) (A:Option Addr) (ls:List (List UInt8)):Prop:=0<ls.length→∃ b off,A=some ⟨b,off,none⟩∧∀ j (hj:j<ls.length),∃ Aj cj,w.cell? ⟨b,off+j,none⟩=some (.slice Aj ls[j].length cj)∧Src w Aj (ls[j].map byteV)
theorem flatten_drop (ls:List (List UInt8)) (k:Nat) (hk:k<ls.length):(ls.drop k).flatten=ls[k]++(ls.drop (k+1)).flatten:=by
 rw[List.drop_eq_getElem_cons hk,List.flatten_cons]
theorem OwnB.take_ {w:World}{base:Nat}{A:Option Addr}{n c:Nat}{l:List UInt8}(h:OwnB w base (.slice A n c) l) {k:Nat}(hk:k≤l.length):OwnB w base (.slice A k c) (l.take k):=by
 have hkl:(l.take k).length=k:=by rw[List.length_take];omega
 refine⟨by simp, ?_⟩
 rw[hkl]
 rcases h.2 with ⟨hv,hz⟩ | ⟨g,cap,cur,hv,hb,hg,hc,hm,hcz,ht⟩
 ·cases hv
  have:k=0:=by omega
  subst this
  exact .inl ⟨rfl,rfl⟩
 ·cases hv
  refine .inr ⟨g,c,cur,rfl,hb,hg,by omega,hm,hcz, ?_⟩
  rw[List.map_take,← ht,List.take_take,show min k (l.length*1)=k*1 by omega]
theorem OwnB.store_ {w:World}{base:Nat}{A:Option Addr}{n c:Nat}{l:List UInt8}(h:OwnB w base (.slice A n c) l) {k:Nat}(hk:k<l.length):∃ g cur,A=some ⟨g,0,none⟩∧base≤g∧Blk w g 5 cur∧k<cur.size∧
  ∀ (w':World) (x:UInt8),Blk w' g 5 (cur.setIfInBounds k (byteV x))→OwnB w' base (.slice A n c) (l.set k x):=by
 rcases h.2 with ⟨hv,hz⟩ | ⟨g,cap,cur,hv,hb,hg,hc,hm,hcz,ht⟩
 ·omega
 ·cases hv
  refine⟨g,cur,rfl,hb,hg,by omega,fun w' x hB=>⟨by simp,.inr ⟨g,c,_,by simp,hb,hB,by simpa using hc,hm,by rw[Array.size_setIfInBounds,hcz], ?_⟩⟩⟩
  rw[Array.toList_setIfInBounds,List.length_set,List.take_set,ht,List.map_set]
theorem size_u8c:(Tryz.prog.info? 5).map (·.size)=some 1:=by kernel_rfl
end Go.Proofs.YtgcjjhibdbafmaaGreatDoor
