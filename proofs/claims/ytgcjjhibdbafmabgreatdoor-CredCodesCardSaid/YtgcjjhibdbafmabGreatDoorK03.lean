/- squeezed. Walks: the library's Valid of a sl -/
import Derived.Test.YtgcjjhibdbafmabGreatDoorK02
import Derived.BigQuiet
import Derived.RegionTactic
import Derived.ChangeAlike
set_option linter.unusedVariables false
set_option linter.unusedSimpArgs false
open List (getElem_toArray getElem_cons_zero getElem_cons_succ setIfInBounds_toArray set_cons_zero set_cons_succ)
namespace Go.Proofs.YtgcjjhibdbafmabGreatDoor
open Go.RowKit
def kq:Value→Nat
 | .slice _ n _=>n
 | _=>0
theorem SB.skipc {H:Snap}{b off:Nat}{t:ByteArray}(h:∀ j,j<t.size→H.cell? ⟨b,off+j,none⟩=some (.int .u8 ((t.get! j).toNat:Int))) (k:Nat) (hk:k≤t.size) :
  SB H (if t.size=k then some (⟨b,off,none⟩:Addr) else some ⟨b,off+k,none⟩) (t.extract k t.size):=fun h0=>by
 rw[Lib.ext_size]at h0
 rw[if_neg (by omega)]
 refine⟨b,off+k,rfl,fun j hj=>?_⟩
 rw[Lib.ext_size]at hj
 rw[Nat.add_assoc,h (k+j) (by omega),← Lib.getD_get!',← Lib.getD_get!',Lib.ext_list]
 simp[List.getD,List.getElem?_drop]
set_option maxHeartbeats 16000000 in
set_option maxRecDepth 1000000 in
theorem dP {H:Snap}(hT:Tabs H) (w:World) (hH:Holds w H) (A:Option Addr) (t0:ByteArray) (c:Nat) (hs:SB H A t0) (hc:t0.size≤c) (hm:t0.size≤9223372036854775807) :
  Calls Tryz.prog 83 #[.slice A t0.size c] w fun e w'=>e=.returned (.bool (Lib.validD t0.data.toList))∧Below w.heap.size w w':=by
 obtain⟨ANS,Ri⟩:∃ ANS,Lib.validD t0.data.toList=ANS:=⟨_,rfl⟩
 rw[Ri]
 have L9:=Lib.hid Ri
 clear Ri
 have VB:(t0.size:Int)≤c:=by omega
 go_enter Tryz.func83,Tryz.ntmps83
 go_wp2
 go_loopw [0] (fun v0 wx=>∃ (B:Option Addr) (t:ByteArray),v0=.slice B t.size t.size∧SB H B t∧Lib.validD t.data.toList=ANS∧t.size≤t0.size∧Below w.heap.size w wx) (fun v0 _=>kq v0)
 case atStart=>exact⟨A,t0,rfl,hs,L9.out,Nat.le_refl _,Below.refl _ _⟩
 case round =>
 obtain⟨B,t,rfl,Xl,hv,GJ,kJ⟩:=hrel
 have HV:=Lib.hid hv
 clear hv
 by_cases h0:0<t.size
 ·obtain⟨b,off,rfl,Ze⟩:=Xl h0
  have I0:(0:Int)<(t.size:Int):=by omega
  have wF:=hH.below kJ (Nat.le_refl _)
  have c0:=wF.cell (Ze 0 h0)
  have l0:=(t.get! 0).toNat_lt
  obtain⟨x0,QW⟩:∃ x0,t.get! 0=x0:=⟨_,rfl⟩
  rw[QW]at c0 l0
  simp only[Nat.add_zero]at c0
  have Ua:=Lib.hid Ze
  by_cases pi:x0.toNat<128
  ·as_aux_lemma =>
   have OU:(x0.toNat:Int)<128:=by omega
   have Fv:(1:Int)≤(t.size:Int):=by omega
   have a1:Lib.Asc t 1:=Lib.asc_one t h0 (by rw[QW];exact pi)
   obtain⟨t1,kN⟩:∃ t1,t.extract 1 t.size=t1:=⟨_,rfl⟩
   have zt1:t.size-1=t1.size:=by rw[← kN,Lib.ext_size]
   have sbt1:=SB.skipc Ze 1 (by omega)
   rw[kN]at sbt1
   obtain⟨Bt1,o6⟩:∃ B,(if t.size=1 then some (⟨b,off,none⟩:Addr) else some ⟨b,off+1,none⟩)=B:=⟨_,rfl⟩
   rw[o6]at sbt1
   have V1:Hid (Lib.validD t1.data.toList=ANS):=by rw[Hid,← kN,Lib.valid_skip t 1 a1];exact HV.out
   have Si:=Lib.hid (And.intro zt1 o6)
   clear Ze zt1 a1 QW kN Xl o6
   go_upto_region 6 with fail
   rw[Si.out.2,Si.out.1]
   by_cases c8:8<t1.size
   ·have c8z:(8:Int)<(t1.size:Int):=by omega
    have c8y:(8:Int)≤(t1.size:Int):=by omega
    obtain⟨A1,V0⟩:∃ A1,Lib.leNat [t1.get! 0,t1.get! 1,t1.get! 2,t1.get! 3,t1.get! 4,t1.get! 5,t1.get! 6,t1.get! 7]=A1:=⟨_,rfl⟩
    have lA1:A1<18446744073709551616:=V0 ▸ Lib.word_lt t1
    have cW1:∀ (c:Nat) (W:World),Holds W H→Calls Tryz.prog 109 #[.slice Bt1 t1.size c] W fun e w'=>e=.returned (.int .u64 (A1:Int))∧∃ q,w'=W.drewN q:=fun c W h=>by rw[← V0];exact tG sbt1 (by omega) c W h
    have CW1:=Lib.hid cW1
    have kA1:=Lib.word_asc t1 (by omega)
    rw[V0]at kA1
    clear cW1 V0
    have Wj:bits .and .u64 (A1:Int) 9259542123273814144=((A1 &&& 9259542123273814144:Nat):Int):=u64_and_nat A1 9259542123273814144 lA1 (by omega)
    obtain⟨Z1,KR⟩:∃ Z1,A1 &&& 9259542123273814144=Z1:=⟨_,rfl⟩
    rw[KR]at Wj kA1
    have KA1:=Lib.hid kA1
    have Ot:=Lib.hid sbt1
    clear KR kA1 lA1 sbt1 c0 l0
    by_cases rv:Z1=0
    ·have Pd:((Z1:Int)==0)=true:=by simp[rv]
     have Jl:=Lib.hid rv
     clear rv
     go_wp2_with (go_at_call 109;refine yf ?_)
     unfold yP
     refine(CW1.out _ _ wF).mono ?_
     rintro e w5 ⟨rfl,q5,rfl⟩
     have um:=Holds.drewN wF q5
     have ob:=below_drewNv kJ q5
     obtain⟨b1,off1,rfl,PJ⟩:=Ot.out (by omega)
     obtain⟨t2,OK⟩:∃ t2,t1.extract 8 t1.size=t2:=⟨_,rfl⟩
     have zt2:t1.size-8=t2.size:=by rw[← OK,Lib.ext_size]
     have sbt2:=SB.skipc PJ 8 (by omega)
     rw[OK,if_neg (by omega)]at sbt2
     obtain⟨Bt2,Rj⟩:∃ B,some (⟨b1,off1+8,none⟩:Addr)=B:=⟨_,rfl⟩
     rw[Rj]at sbt2
     have V2:Hid (Lib.validD t2.data.toList=ANS):=by rw[Hid,← OK,Lib.valid_skip t1 8 (KA1.out.1 Jl.out)];exact V1.out
     have Pn:=Lib.hid (And.intro zt2 Rj)
     generalize wr.drewN q5=wq at um ob⊢
     clear zt2 OK PJ Rj kJ wF CW1 KA1 Jl
     go_upto_region 8 with fail
     rw[Pn.out.2,Pn.out.1]
     by_cases c16:16<t2.size
     ·have c16z:(16:Int)<(t2.size:Int):=by omega
      have c16y:(16:Int)≤(t2.size:Int):=by omega
      have s8z:(8:Int)≤(t2.size:Int):=by omega
      have n8:(t2.size=8)=False:=eq_false (by omega)
      obtain⟨b2,off2,rfl,Ym⟩:=sbt2 (by omega)
      have LP:SB H (some ⟨b2,off2,none⟩) t2:=sbt2
      obtain⟨t2b,UY⟩:∃ t2b,t2.extract 8 t2.size=t2b:=⟨_,rfl⟩
      have zt2b:t2.size-8=t2b.size:=by rw[← UY,Lib.ext_size]
      have sbt2b:=SB.skipc Ym 8 (by omega)
      rw[UY,if_neg (by omega)]at sbt2b
      obtain⟨o2b,US⟩:∃ o,off2+8=o:=⟨_,rfl⟩
      rw[US]at sbt2b
      obtain⟨A2,V4⟩:∃ A2,Lib.leNat [t2.get! 0,t2.get! 1,t2.get! 2,t2.get! 3,t2.get! 4,t2.get! 5,t2.get! 6,t2.get! 7]=A2:=⟨_,rfl⟩
      have lA2:A2<18446744073709551616:=V4 ▸ Lib.word_lt t2
      have cW2:∀ (c:Nat) (W:World),Holds W H→Calls Tryz.prog 109 #[.slice (some ⟨b2,off2,none⟩) t2.size c] W fun e w'=>e=.returned (.int .u64 (A2:Int))∧∃ q,w'=W.drewN q:=fun c W h=>by rw[← V4];exact tG LP (by omega) c W h
      have CW2:=Lib.hid cW2
      have kA2:=Lib.word_asc t2 (by omega)
      rw[V4]at kA2
      clear cW2 V4
      obtain⟨A3,Nj⟩:∃ A3,Lib.leNat [t2b.get! 0,t2b.get! 1,t2b.get! 2,t2b.get! 3,t2b.get! 4,t2b.get! 5,t2b.get! 6,t2b.get! 7]=A3:=⟨_,rfl⟩
      have lA3:A3<18446744073709551616:=Nj ▸ Lib.word_lt t2b
      have cW3:∀ (c:Nat) (W:World),Holds W H→Calls Tryz.prog 109 #[.slice (some ⟨b2,off2+8,none⟩) (t2.size-8) c] W fun e w'=>e=.returned (.int .u64 (A3:Int))∧∃ q,w'=W.drewN q:=fun c W h=>by rw[← Nj,zt2b,US];exact tG sbt2b (by omega) c W h
      have CW3:=Lib.hid cW3
      have kA3:=Lib.word_asc t2b (by omega)
      rw[Nj]at kA3
      clear cW3 Nj
      have PZ:bits .or .u64 (A2:Int) (A3:Int)=((A2 ||| A3:Nat):Int):=u64_or_nat A2 A3 lA2 lA3
      have lor2:A2 ||| A3<18446744073709551616:=Nat.or_lt_two_pow (n:=64) lA2 lA3
      have Wk:bits .and .u64 ((A2 ||| A3:Nat):Int) 9259542123273814144=(((A2 ||| A3) &&& 9259542123273814144:Nat):Int):=u64_and_nat _ 9259542123273814144 lor2 (by omega)
      have k2:(A2 ||| A3) &&& 9259542123273814144=0→Lib.Asc t2 16:=fun h0'=>by
       obtain⟨e1,e2⟩:=(Lib.or_mask A2 A3 _).1 h0'
       exact Lib.asc_add t2 8 8 (kA2.1 e1) (by rw[UY];exact kA3.1 e2)
      obtain⟨O2,kz⟩:∃ O2,A2 ||| A3=O2:=⟨_,rfl⟩
      rw[kz]at PZ Wk k2
      obtain⟨Z2,KT⟩:∃ Z2,O2 &&& 9259542123273814144=Z2:=⟨_,rfl⟩
      rw[KT]at Wk k2
      have K2:=Lib.hid k2
      have Oj:=Lib.hid Ym
      clear kA2 kA3 lor2 kz KT k2 lA2 lA3 UY sbt2b Ym sbt2
      obtain⟨zz2,Pf⟩:∃ zz,((Z2:Int)==0)=zz:=⟨_,rfl⟩
      have Hu:=Lib.hid Pf
      go_cut [0,46] (fun s0 s46 wx=>s0=.slice (some ⟨b2,off2,none⟩) t2.size t2.size∧s46=.bool zz2∧Below w.heap.size w wx)
      case first =>
       clear zt2b US Pd Wj
       have Yr:=um
       have oc:=ob
       refine zr 13 (fun _=>True) (by kernel_rfl) (trivial) (fun zy=>?_)
       refine Ways.takeS (i:=0) (v:=?_) rfl (by kernel_rfl) (fun _ _ _ h=>h) (Or.inl ⟨by rfl, ?_⟩) zy ?_
       rotate_left
       ·(intro w uL;(try dsimp only at uL);go_simp;try with_reducible rfl)
       try simp only[Act.put,getElem_toArray,getElem_cons_zero,getElem_cons_succ,setIfInBounds_toArray,set_cons_zero,set_cons_succ]
       refine Ways.takeS (i:=1) (v:=?_) rfl (by kernel_rfl) (fun _ _ _ h=>h) (Or.inl ⟨by rfl, ?_⟩) zy ?_
       rotate_left
       ·(intro w uL;(try dsimp only at uL);go_simp;try with_reducible rfl)
       try simp only[Act.put,getElem_toArray,getElem_cons_zero,getElem_cons_succ,setIfInBounds_toArray,set_cons_zero,set_cons_succ]
       refine Ways.takeS (i:=2) (v:=?_) rfl (by kernel_rfl) (fun _ _ _ h=>h) (Or.inl ⟨by rfl, ?_⟩) zy ?_
       rotate_left
       ·(intro w uL;(try dsimp only at uL);go_simp;try with_reducible rfl)
       try simp only[Act.put,getElem_toArray,getElem_cons_zero,getElem_cons_succ,setIfInBounds_toArray,set_cons_zero,set_cons_succ]
       refine Ways.takeS (i:=3) (v:=?_) rfl (by kernel_rfl) (fun _ _ _ h=>h) (Or.inl ⟨by rfl, ?_⟩) zy ?_
       rotate_left
       ·(intro w uL;(try dsimp only at uL);go_simp;try with_reducible rfl)
       try simp only[Act.put,getElem_toArray,getElem_cons_zero,getElem_cons_succ,setIfInBounds_toArray,set_cons_zero,set_cons_succ]
       refine Ways.takeS (i:=4) (v:=?_) rfl (by kernel_rfl) (fun _ _ _ h=>h) (Or.inl ⟨?_, ?_⟩) zy ?_
       rotate_left
       ·kernel_rfl
       ·(intro w uL;(try dsimp only at uL);go_simp;try with_reducible rfl)
       try simp only[Act.put,getElem_toArray,getElem_cons_zero,getElem_cons_succ,setIfInBounds_toArray,set_cons_zero,set_cons_succ]
       refine Ways.takeS (i:=6) (v:=?_) rfl (by kernel_rfl) (fun _ _ _ h=>h) (Or.inl ⟨?_, ?_⟩) zy ?_
       rotate_left
       ·kernel_rfl
       ·(intro w uL;(try dsimp only at uL);go_simp;try with_reducible rfl)
       try simp only[Act.put,getElem_toArray,getElem_cons_zero,getElem_cons_succ,setIfInBounds_toArray,set_cons_zero,set_cons_succ]
       refine Ways.takeS (i:=7) (v:=?_) rfl (by kernel_rfl) (fun _ _ _ h=>h) (Or.inl ⟨?_, ?_⟩) zy ?_
       rotate_left
       ·kernel_rfl
       ·(intro w uL;(try dsimp only at uL);go_simp;try with_reducible rfl)
       try simp only[Act.put,getElem_toArray,getElem_cons_zero,getElem_cons_succ,setIfInBounds_toArray,set_cons_zero,set_cons_succ]
       refine Ways.one (i:=5) rfl (by kernel_rfl) (fun K hK=>?_)
       go_simp
       refine(CW2.out _ _ (by repeat (first | exact Yr | exact Yr.drew | refine Holds.drewN ?_ _))).mono ?_
       rintro e w5 ⟨rfl,q5,rfl⟩
       refine hK.out _ _ (fun _=>?_) (fun zy=>?_)
       ·exact trivial
       clear hK K
       have zy:=zy (by decide)
       try simp only[Act.put,getElem_toArray,getElem_cons_zero,getElem_cons_succ,setIfInBounds_toArray,set_cons_zero,set_cons_succ]
       refine Ways.one (i:=8) rfl (by kernel_rfl) (fun K hK=>?_)
       go_simp
       refine(CW3.out _ _ (by repeat (first | exact Yr | exact Yr.drew | refine Holds.drewN ?_ _))).mono ?_
       rintro e w5 ⟨rfl,q5,rfl⟩
       refine hK.out _ _ (fun _=>?_) (fun zy=>?_)
       ·exact trivial
       clear hK K
       have zy:=zy (by decide)
       try simp only[Act.put,getElem_toArray,getElem_cons_zero,getElem_cons_succ,setIfInBounds_toArray,set_cons_zero,set_cons_succ]
       refine Ways.takeS (i:=9) (v:=?_) rfl (by kernel_rfl) (fun _ _ _ h=>h) (Or.inl ⟨?_, ?_⟩) zy ?_
       rotate_left
       ·kernel_rfl
       ·(intro w uL;(try dsimp only at uL);go_simp;try with_reducible rfl)
       try simp only[Act.put,getElem_toArray,getElem_cons_zero,getElem_cons_succ,setIfInBounds_toArray,set_cons_zero,set_cons_succ]
       refine Ways.takeS (i:=10) (v:=?_) rfl (by kernel_rfl) (fun _ _ _ h=>h) (Or.inl ⟨?_, ?_⟩) zy ?_
       rotate_left
       ·kernel_rfl
       ·(intro w uL;(try dsimp only at uL);go_simp;try with_reducible rfl)
       try simp only[Act.put,getElem_toArray,getElem_cons_zero,getElem_cons_succ,setIfInBounds_toArray,set_cons_zero,set_cons_succ]
       refine Ways.takeS (i:=11) (v:=?_) rfl (by kernel_rfl) (fun _ _ _ h=>h) (Or.inl ⟨?_, ?_⟩) zy ?_
       rotate_left
       ·kernel_rfl
       ·(intro w uL;(try dsimp only at uL);go_simp;try with_reducible rfl)
       try simp only[Act.put,getElem_toArray,getElem_cons_zero,getElem_cons_succ,setIfInBounds_toArray,set_cons_zero,set_cons_succ]
       refine Ways.takeS (i:=12) (v:=?_) rfl (by kernel_rfl) (fun _ _ _ h=>h) (Or.inl ⟨by rfl, ?_⟩) zy ?_
       rotate_left
       ·(intro w uL;(try dsimp only at uL);go_simp;try with_reducible rfl)
       try simp only[Act.put,getElem_toArray,getElem_cons_zero,getElem_cons_succ,setIfInBounds_toArray,set_cons_zero,set_cons_succ]
       refine Ways.done (by kernel_rfl) ?_
       go_wp2_with fail
       go_meet
       exact⟨rfl,rfl,by repeat (first | exact oc | exact oc.drew | refine below_drewNv ?_ _)⟩
      case rest =>
      clear ob um
      obtain⟨rfl,rfl,ob⟩:=hcut
      have um:=hH.below ob (Nat.le_refl _)
      cases zz2 with
      | true =>
       have ro:Z2=0:=by have:=Hu.out;simpa using this
       have Ym:=Oj.out
       obtain⟨t3,OL⟩:∃ t3,t2.extract 16 t2.size=t3:=⟨_,rfl⟩
       have zt3:t2.size-16=t3.size:=by rw[← OL,Lib.ext_size]
       have sbt3:=SB.skipc Ym 16 (by omega)
       rw[OL,if_neg (by omega)]at sbt3
       obtain⟨Bt3,Rk⟩:∃ B,some (⟨b2,off2+16,none⟩:Addr)=B:=⟨_,rfl⟩
       rw[Rk]at sbt3
       have V3:Hid (Lib.validD t3.data.toList=ANS):=by rw[Hid,← OL,Lib.valid_skip t2 16 (K2.out ro)];exact V2.out
       have Jf:=Lib.hid (And.intro zt3 Rk)
       have lj:=Lib.hid (show t3.size<t.size∧t3.size≤t0.size by have:=Si.out.1;have:=Pn.out.1;omega)
       clear zt3 OL Rk Ym Wk PZ Pf ro CW2 CW3 Wj zt2b US
       go_wp2_with fail
       rw[Jf.out.2,Jf.out.1]
       go_loopw [0] (fun v0 wx=>∃ (B:Option Addr) (u:ByteArray),v0=.slice B u.size u.size∧SB H B u∧Lib.validD u.data.toList=ANS∧u.size≤t3.size∧Below w.heap.size w wx) (fun v0 _=>kq v0)
       case atStart=>exact⟨_,t3,rfl,sbt3,V3.out,Nat.le_refl _,ob⟩
       case round =>
       clear sbt3 ob um
       obtain⟨BU,u,rfl,sbu,L6,GL,ob⟩:=hrel
       have VU:=Lib.hid L6
       clear L6
       have um:=hH.below ob (Nat.le_refl _)
       by_cases c32:32<u.size
       ·have c32z:(32:Int)<(u.size:Int):=by omega
        have c32y:(32:Int)≤(u.size:Int):=by omega
        have s8u:(8:Int)≤(u.size:Int):=by omega
        have s16u:(16:Int)≤(u.size:Int):=by omega
        have s24u:(24:Int)≤(u.size:Int):=by omega
        have n8u:(u.size=8)=False:=eq_false (by omega)
        have n16u:(u.size=16)=False:=eq_false (by omega)
        have n24u:(u.size=24)=False:=eq_false (by omega)
        obtain⟨bu,ou,rfl,Uq⟩:=sbu (by omega)
        obtain⟨ub,OM⟩:∃ ub,u.extract 8 u.size=ub:=⟨_,rfl⟩
        have zub:u.size-8=ub.size:=by rw[← OM,Lib.ext_size]
        have sbub:=SB.skipc Uq 8 (by omega)
        rw[OM,if_neg (by omega)]at sbub
        obtain⟨oub,UT⟩:∃ o,ou+8=o:=⟨_,rfl⟩
        rw[UT]at sbub
        obtain⟨uc,ON⟩:∃ uc,u.extract 16 u.size=uc:=⟨_,rfl⟩
        have zuc:u.size-16=uc.size:=by rw[← ON,Lib.ext_size]
        have sbuc:=SB.skipc Uq 16 (by omega)
        rw[ON,if_neg (by omega)]at sbuc
        obtain⟨ouc,UU⟩:∃ o,ou+16=o:=⟨_,rfl⟩
        rw[UU]at sbuc
        obtain⟨ud,OO⟩:∃ ud,u.extract 24 u.size=ud:=⟨_,rfl⟩
        have zud:u.size-24=ud.size:=by rw[← OO,Lib.ext_size]
        have sbud:=SB.skipc Uq 24 (by omega)
        rw[OO,if_neg (by omega)]at sbud
        obtain⟨oud,UW⟩:∃ o,ou+24=o:=⟨_,rfl⟩
        rw[UW]at sbud
        obtain⟨A4,Nk⟩:∃ A4,Lib.leNat [u.get! 0,u.get! 1,u.get! 2,u.get! 3,u.get! 4,u.get! 5,u.get! 6,u.get! 7]=A4:=⟨_,rfl⟩
        have lA4:A4<18446744073709551616:=Nk ▸ Lib.word_lt u
        have cW4:∀ (c:Nat) (W:World),Holds W H→Calls Tryz.prog 109 #[.slice (some ⟨bu,ou,none⟩) u.size c] W fun e w'=>e=.returned (.int .u64 (A4:Int))∧∃ q,w'=W.drewN q:=fun c W h=>by rw[← Nk];exact tG (fun _=>⟨bu,ou,rfl,Uq⟩) (by omega) c W h
        have CW4:=Lib.hid cW4
        have kA4:=Lib.word_asc u (by omega)
        rw[Nk]at kA4
        clear cW4 Nk
        obtain⟨A5,Nl⟩:∃ A5,Lib.leNat [ub.get! 0,ub.get! 1,ub.get! 2,ub.get! 3,ub.get! 4,ub.get! 5,ub.get! 6,ub.get! 7]=A5:=⟨_,rfl⟩
        have lA5:A5<18446744073709551616:=Nl ▸ Lib.word_lt ub
        have cW5:∀ (c:Nat) (W:World),Holds W H→Calls Tryz.prog 109 #[.slice (some ⟨bu,ou+8,none⟩) (u.size-8) c] W fun e w'=>e=.returned (.int .u64 (A5:Int))∧∃ q,w'=W.drewN q:=fun c W h=>by rw[← Nl,zub,UT];exact tG sbub (by omega) c W h
        have CW5:=Lib.hid cW5
        have kA5:=Lib.word_asc ub (by omega)
        rw[Nl]at kA5
        clear cW5 Nl
        obtain⟨A6,Nm⟩:∃ A6,Lib.leNat [uc.get! 0,uc.get! 1,uc.get! 2,uc.get! 3,uc.get! 4,uc.get! 5,uc.get! 6,uc.get! 7]=A6:=⟨_,rfl⟩
        have lA6:A6<18446744073709551616:=Nm ▸ Lib.word_lt uc
        have cW6:∀ (c:Nat) (W:World),Holds W H→Calls Tryz.prog 109 #[.slice (some ⟨bu,ou+16,none⟩) (u.size-16) c] W fun e w'=>e=.returned (.int .u64 (A6:Int))∧∃ q,w'=W.drewN q:=fun c W h=>by rw[← Nm,zuc,UU];exact tG sbuc (by omega) c W h
        have CW6:=Lib.hid cW6
        have kA6:=Lib.word_asc uc (by omega)
        rw[Nm]at kA6
        clear cW6 Nm
        obtain⟨A7,V5⟩:∃ A7,Lib.leNat [ud.get! 0,ud.get! 1,ud.get! 2,ud.get! 3,ud.get! 4,ud.get! 5,ud.get! 6,ud.get! 7]=A7:=⟨_,rfl⟩
        have lA7:A7<18446744073709551616:=V5 ▸ Lib.word_lt ud
        have cW7:∀ (c:Nat) (W:World),Holds W H→Calls Tryz.prog 109 #[.slice (some ⟨bu,ou+24,none⟩) (u.size-24) c] W fun e w'=>e=.returned (.int .u64 (A7:Int))∧∃ q,w'=W.drewN q:=fun c W h=>by rw[← V5,zud,UW];exact tG sbud (by omega) c W h
        have CW7:=Lib.hid cW7
        have kA7:=Lib.word_asc ud (by omega)
        rw[V5]at kA7
        clear cW7 V5
        have Xk:bits .or .u64 (A4:Int) (A5:Int)=((A4 ||| A5:Nat):Int):=u64_or_nat A4 A5 lA4 lA5
        have bz:bits .or .u64 (A6:Int) (A7:Int)=((A6 ||| A7:Nat):Int):=u64_or_nat A6 A7 lA6 lA7
        have lo1:A4 ||| A5<18446744073709551616:=Nat.or_lt_two_pow (n:=64) lA4 lA5
        have lo2:A6 ||| A7<18446744073709551616:=Nat.or_lt_two_pow (n:=64) lA6 lA7
        have NF:bits .or .u64 ((A4 ||| A5:Nat):Int) ((A6 ||| A7:Nat):Int)=(((A4 ||| A5) ||| (A6 ||| A7):Nat):Int):=u64_or_nat _ _ lo1 lo2
        have lo3:(A4 ||| A5) ||| (A6 ||| A7)<18446744073709551616:=Nat.or_lt_two_pow (n:=64) lo1 lo2
        have ZZ:bits .and .u64 (((A4 ||| A5) ||| (A6 ||| A7):Nat):Int) 9259542123273814144=((((A4 ||| A5) ||| (A6 ||| A7)) &&& 9259542123273814144:Nat):Int):=u64_and_nat _ 9259542123273814144 lo3 (by omega)
        have k3:((A4 ||| A5) ||| (A6 ||| A7)) &&& 9259542123273814144=0→Lib.Asc u 32:=fun h0'=>by
         obtain⟨e01,e23⟩:=(Lib.or_mask _ _ _).1 h0'
         obtain⟨e0,e1⟩:=(Lib.or_mask _ _ _).1 e01
         obtain⟨e2,e3⟩:=(Lib.or_mask _ _ _).1 e23
         have s16:Lib.Asc u 16:=Lib.asc_add u 8 8 (kA4.1 e0) (by rw[OM];exact kA5.1 e1)
         have s24:Lib.Asc u 24:=Lib.asc_add u 16 8 s16 (by rw[ON];exact kA6.1 e2)
         exact Lib.asc_add u 24 8 s24 (by rw[OO];exact kA7.1 e3)
        obtain⟨P1,fr⟩:∃ P1,A4 ||| A5=P1:=⟨_,rfl⟩
        obtain⟨P2,Sk⟩:∃ P2,A6 ||| A7=P2:=⟨_,rfl⟩
        rw[fr,Sk]at NF ZZ k3
        rw[fr]at Xk
        rw[Sk]at bz
        obtain⟨P3,XT⟩:∃ P3,P1 ||| P2=P3:=⟨_,rfl⟩
        rw[XT]at NF ZZ k3
        obtain⟨Z3,KX⟩:∃ Z3,P3 &&& 9259542123273814144=Z3:=⟨_,rfl⟩
        rw[KX]at ZZ k3
        have K3:=Lib.hid k3
        have JP:=Lib.hid Uq
        clear kA4 kA5 kA6 kA7 lo1 lo2 lo3 fr Sk XT KX k3 OM sbub ON sbuc OO sbud lA4 lA5 lA6 lA7 Uq sbu
        obtain⟨zz3,Pg⟩:∃ zz,((Z3:Int)==0)=zz:=⟨_,rfl⟩
        have Hq:=Lib.hid Pg
        go_upto_region 10 with fail
        go_cut [0,69] (fun s0 s69 wx=>s0=.slice (some ⟨bu,ou,none⟩) u.size u.size∧s69=.bool zz3∧Below w.heap.size w wx)
        case first =>
         clear zub zuc zud UT UU UW
         have Yr:=um
         have oc:=ob
         refine zr 21 (fun _=>True) (by kernel_rfl) (trivial) (fun zy=>?_)
         refine Ways.takeS (i:=0) (v:=?_) rfl (by kernel_rfl) (fun _ _ _ h=>h) (Or.inl ⟨by rfl, ?_⟩) zy ?_
         rotate_left
         ·(intro w uL;(try dsimp only at uL);go_simp;try with_reducible rfl)
         try simp only[Act.put,getElem_toArray,getElem_cons_zero,getElem_cons_succ,setIfInBounds_toArray,set_cons_zero,set_cons_succ]
         refine Ways.takeS (i:=1) (v:=?_) rfl (by kernel_rfl) (fun _ _ _ h=>h) (Or.inl ⟨by rfl, ?_⟩) zy ?_
         rotate_left
         ·(intro w uL;(try dsimp only at uL);go_simp;try with_reducible rfl)
         try simp only[Act.put,getElem_toArray,getElem_cons_zero,getElem_cons_succ,setIfInBounds_toArray,set_cons_zero,set_cons_succ]
         refine Ways.takeS (i:=2) (v:=?_) rfl (by kernel_rfl) (fun _ _ _ h=>h) (Or.inl ⟨by rfl, ?_⟩) zy ?_
         rotate_left
         ·(intro w uL;(try dsimp only at uL);go_simp;try with_reducible rfl)
         try simp only[Act.put,getElem_toArray,getElem_cons_zero,getElem_cons_succ,setIfInBounds_toArray,set_cons_zero,set_cons_succ]
         refine Ways.takeS (i:=3) (v:=?_) rfl (by kernel_rfl) (fun _ _ _ h=>h) (Or.inl ⟨by rfl, ?_⟩) zy ?_
         rotate_left
         ·(intro w uL;(try dsimp only at uL);go_simp;try with_reducible rfl)
         try simp only[Act.put,getElem_toArray,getElem_cons_zero,getElem_cons_succ,setIfInBounds_toArray,set_cons_zero,set_cons_succ]
         refine Ways.takeS (i:=4) (v:=?_) rfl (by kernel_rfl) (fun _ _ _ h=>h) (Or.inl ⟨?_, ?_⟩) zy ?_
         rotate_left
         ·kernel_rfl
         ·(intro w uL;(try dsimp only at uL);go_simp;try with_reducible rfl)
         try simp only[Act.put,getElem_toArray,getElem_cons_zero,getElem_cons_succ,setIfInBounds_toArray,set_cons_zero,set_cons_succ]
         refine Ways.takeS (i:=6) (v:=?_) rfl (by kernel_rfl) (fun _ _ _ h=>h) (Or.inl ⟨?_, ?_⟩) zy ?_
         rotate_left
         ·kernel_rfl
         ·(intro w uL;(try dsimp only at uL);go_simp;try with_reducible rfl)
         try simp only[Act.put,getElem_toArray,getElem_cons_zero,getElem_cons_succ,setIfInBounds_toArray,set_cons_zero,set_cons_succ]
         refine Ways.takeS (i:=7) (v:=?_) rfl (by kernel_rfl) (fun _ _ _ h=>h) (Or.inl ⟨?_, ?_⟩) zy ?_
         rotate_left
         ·kernel_rfl
         ·(intro w uL;(try dsimp only at uL);go_simp;try with_reducible rfl)
         try simp only[Act.put,getElem_toArray,getElem_cons_zero,getElem_cons_succ,setIfInBounds_toArray,set_cons_zero,set_cons_succ]
         refine Ways.takeS (i:=10) (v:=?_) rfl (by kernel_rfl) (fun _ _ _ h=>h) (Or.inl ⟨?_, ?_⟩) zy ?_
         rotate_left
         ·kernel_rfl
         ·(intro w uL;(try dsimp only at uL);go_simp;try with_reducible rfl)
         try simp only[Act.put,getElem_toArray,getElem_cons_zero,getElem_cons_succ,setIfInBounds_toArray,set_cons_zero,set_cons_succ]
         refine Ways.takeS (i:=11) (v:=?_) rfl (by kernel_rfl) (fun _ _ _ h=>h) (Or.inl ⟨?_, ?_⟩) zy ?_
         rotate_left
         ·kernel_rfl
         ·(intro w uL;(try dsimp only at uL);go_simp;try with_reducible rfl)
         try simp only[Act.put,getElem_toArray,getElem_cons_zero,getElem_cons_succ,setIfInBounds_toArray,set_cons_zero,set_cons_succ]
         refine Ways.takeS (i:=13) (v:=?_) rfl (by kernel_rfl) (fun _ _ _ h=>h) (Or.inl ⟨?_, ?_⟩) zy ?_
         rotate_left
         ·kernel_rfl
         ·(intro w uL;(try dsimp only at uL);go_simp;try with_reducible rfl)
         try simp only[Act.put,getElem_toArray,getElem_cons_zero,getElem_cons_succ,setIfInBounds_toArray,set_cons_zero,set_cons_succ]
         refine Ways.takeS (i:=14) (v:=?_) rfl (by kernel_rfl) (fun _ _ _ h=>h) (Or.inl ⟨?_, ?_⟩) zy ?_
         rotate_left
         ·kernel_rfl
         ·(intro w uL;(try dsimp only at uL);go_simp;try with_reducible rfl)
         try simp only[Act.put,getElem_toArray,getElem_cons_zero,getElem_cons_succ,setIfInBounds_toArray,set_cons_zero,set_cons_succ]
         refine Ways.one (i:=5) rfl (by kernel_rfl) (fun K hK=>?_)
         go_simp
         refine(CW4.out _ _ (by repeat (first | exact Yr | exact Yr.drew | refine Holds.drewN ?_ _))).mono ?_
         rintro e w5 ⟨rfl,q5,rfl⟩
         refine hK.out _ _ (fun _=>?_) (fun zy=>?_)
         ·exact trivial
         clear hK K
         have zy:=zy (by decide)
         try simp only[Act.put,getElem_toArray,getElem_cons_zero,getElem_cons_succ,setIfInBounds_toArray,set_cons_zero,set_cons_succ]
         refine Ways.one (i:=8) rfl (by kernel_rfl) (fun K hK=>?_)
         go_simp
         refine(CW5.out _ _ (by repeat (first | exact Yr | exact Yr.drew | refine Holds.drewN ?_ _))).mono ?_
         rintro e w5 ⟨rfl,q5,rfl⟩
         refine hK.out _ _ (fun _=>?_) (fun zy=>?_)
         ·exact trivial
         clear hK K
         have zy:=zy (by decide)
         try simp only[Act.put,getElem_toArray,getElem_cons_zero,getElem_cons_succ,setIfInBounds_toArray,set_cons_zero,set_cons_succ]
         refine Ways.takeS (i:=9) (v:=?_) rfl (by kernel_rfl) (fun _ _ _ h=>h) (Or.inl ⟨?_, ?_⟩) zy ?_
         rotate_left
         ·kernel_rfl
         ·(intro w uL;(try dsimp only at uL);go_simp;try with_reducible rfl)
         try simp only[Act.put,getElem_toArray,getElem_cons_zero,getElem_cons_succ,setIfInBounds_toArray,set_cons_zero,set_cons_succ]
         refine Ways.one (i:=12) rfl (by kernel_rfl) (fun K hK=>?_)
         go_simp
         refine(CW6.out _ _ (by repeat (first | exact Yr | exact Yr.drew | refine Holds.drewN ?_ _))).mono ?_
         rintro e w5 ⟨rfl,q5,rfl⟩
         refine hK.out _ _ (fun _=>?_) (fun zy=>?_)
         ·exact trivial
         clear hK K
         have zy:=zy (by decide)
         try simp only[Act.put,getElem_toArray,getElem_cons_zero,getElem_cons_succ,setIfInBounds_toArray,set_cons_zero,set_cons_succ]
         refine Ways.one (i:=15) rfl (by kernel_rfl) (fun K hK=>?_)
         go_simp
         refine(CW7.out _ _ (by repeat (first | exact Yr | exact Yr.drew | refine Holds.drewN ?_ _))).mono ?_
         rintro e w5 ⟨rfl,q5,rfl⟩
         refine hK.out _ _ (fun _=>?_) (fun zy=>?_)
         ·exact trivial
         clear hK K
         have zy:=zy (by decide)
         try simp only[Act.put,getElem_toArray,getElem_cons_zero,getElem_cons_succ,setIfInBounds_toArray,set_cons_zero,set_cons_succ]
         refine Ways.takeS (i:=16) (v:=?_) rfl (by kernel_rfl) (fun _ _ _ h=>h) (Or.inl ⟨?_, ?_⟩) zy ?_
         rotate_left
         ·kernel_rfl
         ·(intro w uL;(try dsimp only at uL);go_simp;try with_reducible rfl)
         try simp only[Act.put,getElem_toArray,getElem_cons_zero,getElem_cons_succ,setIfInBounds_toArray,set_cons_zero,set_cons_succ]
         refine Ways.takeS (i:=17) (v:=?_) rfl (by kernel_rfl) (fun _ _ _ h=>h) (Or.inl ⟨?_, ?_⟩) zy ?_
         rotate_left
         ·kernel_rfl
         ·(intro w uL;(try dsimp only at uL);go_simp;try with_reducible rfl)
         try simp only[Act.put,getElem_toArray,getElem_cons_zero,getElem_cons_succ,setIfInBounds_toArray,set_cons_zero,set_cons_succ]
         refine Ways.takeS (i:=18) (v:=?_) rfl (by kernel_rfl) (fun _ _ _ h=>h) (Or.inl ⟨?_, ?_⟩) zy ?_
         rotate_left
         ·kernel_rfl
         ·(intro w uL;(try dsimp only at uL);go_simp;try with_reducible rfl)
         try simp only[Act.put,getElem_toArray,getElem_cons_zero,getElem_cons_succ,setIfInBounds_toArray,set_cons_zero,set_cons_succ]
         refine Ways.takeS (i:=19) (v:=?_) rfl (by kernel_rfl) (fun _ _ _ h=>h) (Or.inl ⟨?_, ?_⟩) zy ?_
         rotate_left
         ·kernel_rfl
         ·(intro w uL;(try dsimp only at uL);go_simp;try with_reducible rfl)
         try simp only[Act.put,getElem_toArray,getElem_cons_zero,getElem_cons_succ,setIfInBounds_toArray,set_cons_zero,set_cons_succ]
         refine Ways.takeS (i:=20) (v:=?_) rfl (by kernel_rfl) (fun _ _ _ h=>h) (Or.inl ⟨by rfl, ?_⟩) zy ?_
         rotate_left
         ·(intro w uL;(try dsimp only at uL);go_simp;try with_reducible rfl)
         try simp only[Act.put,getElem_toArray,getElem_cons_zero,getElem_cons_succ,setIfInBounds_toArray,set_cons_zero,set_cons_succ]
         refine Ways.done (by kernel_rfl) ?_
         go_wp2_with fail
         go_meet
         exact⟨rfl,rfl,by repeat (first | exact oc | exact oc.drew | refine below_drewNv ?_ _)⟩
        case rest =>
        clear ob um
        obtain⟨rfl,rfl,ob⟩:=hcut
        cases zz3 with
        | true =>
         have cD:Z3=0:=by have:=Hq.out;simpa using this
         have Uq:=JP.out
         obtain⟨u2,Xn⟩:∃ u2,u.extract 32 u.size=u2:=⟨_,rfl⟩
         have zu2:u.size-32=u2.size:=by rw[← Xn,Lib.ext_size]
         have sbu2:=SB.skipc Uq 32 (by omega)
         rw[Xn,if_neg (by omega)]at sbu2
         obtain⟨Bu2,Rl⟩:∃ B,some (⟨bu,ou+32,none⟩:Addr)=B:=⟨_,rfl⟩
         rw[Rl]at sbu2
         have VU2:Hid (Lib.validD u2.data.toList=ANS):=by rw[Hid,← Xn,Lib.valid_skip u 32 (K3.out cD)];exact VU.out
         have Jh:=Lib.hid (And.intro zu2 Rl)
         have JU:=Lib.hid (show u2.size<u.size∧u2.size≤t3.size by omega)
         clear zu2 Xn Rl Uq cD Pg ZZ Xk bz NF zub zuc zud UT UU UW
         go_wp2_with fail
         rw[Jh.out.2,Jh.out.1]
         go_roundw
         case rel=>exact⟨_,u2,rfl,sbu2,VU2.out,JU.out.2,ob⟩
         case measure=>have:=JU.out.1;simp[kq];omega
        | false =>
        have NN:SB H (some ⟨bu,ou,none⟩) u:=fun _=>⟨bu,ou,rfl,JP.out⟩
        have Ud:=Lib.hid (show u.size<t.size∧u.size≤t0.size by have:=lj.out;omega)
        go_wp2_with fail
        go_roundw
        case rel=>exact⟨_,u,rfl,NN,VU.out,Ud.out.2,ob⟩
        case measure=>have:=Ud.out.1;simp[kq];omega
       have c32z:¬ ((32:Int)<(u.size:Int)):=by omega
       have c32b:decide ((32:Int)<(u.size:Int))=false:=decide_eq_false c32z
       have Ud:=Lib.hid (show u.size<t.size∧u.size≤t0.size by have:=lj.out;omega)
       go_upto_region 10 with fail
       go_big_quiet (fail)
       have ob:=below_drewNv ob nq
       go_wp2_with fail
       go_roundw
       case rel=>exact⟨_,u,rfl,sbu,VU.out,Ud.out.2,ob⟩
       case measure=>have:=Ud.out.1;simp[kq];omega
      | false =>
      have NN:SB H (some ⟨b2,off2,none⟩) t2:=fun _=>⟨b2,off2,rfl,Oj.out⟩
      have lj:=Lib.hid (show t2.size<t.size∧t2.size≤t0.size by have:=Si.out.1;have:=Pn.out.1;omega)
      go_wp2_with fail
      go_roundw
      case rel=>exact⟨_,t2,rfl,NN,V2.out,lj.out.2,ob⟩
      case measure=>have:=lj.out.1;simp[kq];omega
     have c16z:¬ ((16:Int)<(t2.size:Int)):=by omega
     have c16b:decide ((16:Int)<(t2.size:Int))=false:=decide_eq_false c16z
     have lj:=Lib.hid (show t2.size<t.size∧t2.size≤t0.size by have:=Si.out.1;have:=Pn.out.1;omega)
     go_big_quiet (fail)
     have ob:=below_drewNv ob nq
     go_wp2_with fail
     go_roundw
     case rel=>exact⟨_,t2,rfl,sbt2,V2.out,lj.out.2,ob⟩
     case measure=>have:=lj.out.1;simp[kq];omega
    have Pd:((Z1:Int)==0)=false:=by simp;omega
    have lj:=Lib.hid (show t1.size<t.size∧t1.size≤t0.size by have:=Si.out.1;omega)
    go_wp2_with (go_at_call 109;refine yf ?_)
    unfold yP
    refine(CW1.out _ _ wF).mono ?_
    rintro e w5 ⟨rfl,q5,rfl⟩
    have ob:=below_drewNv kJ q5
    go_wp2_with fail
    go_roundw
    case rel=>exact⟨_,t1,rfl,Ot.out,V1.out,lj.out.2,ob⟩
    case measure=>have:=lj.out.1;simp[kq];omega
   have c8z:¬ ((8:Int)<(t1.size:Int)):=by omega
   have lj:=Lib.hid (show t1.size<t.size∧t1.size≤t0.size by have:=Si.out.1;omega)
   go_wp2_with fail
   go_roundw
   case rel=>exact⟨_,t1,rfl,sbt1,V1.out,lj.out.2,kJ⟩
   case measure=>have:=lj.out.1;simp[kq];omega
  have kK:128≤x0.toNat:=by omega
  have OU:¬ ((x0.toNat:Int)<128):=by omega
  obtain⟨x1,pq⟩:∃ x1,t.get! 1=x1:=⟨_,rfl⟩
  obtain⟨x2,Z8⟩:∃ x2,t.get! 2=x2:=⟨_,rfl⟩
  obtain⟨x3,L7⟩:∃ x3,t.get! 3=x3:=⟨_,rfl⟩
  have l1:=x1.toNat_lt;have l2:=x2.toNat_lt;have l3:=x3.toNat_lt
  have xH:t.data.toList≠[]:=fun h=>by rw[Lib.size_eq,h]at h0;simp at h0
  have wk:=Lib.validD_lead t.data.toList xH (by rw[Lib.getD_get!',QW];exact kK)
  rw[Lib.getD_get!',Lib.getD_get!',Lib.getD_get!',Lib.getD_get!',QW,pq,Z8,L7,← Lib.size_eq,HV.out]at wk
  have uY:=hT wr wF
  have ln:=uY.1 x0.toNat (by omega)
  have PA:Lib.firstT x0.toNat<256:=by rcases Lib.firstT_cases x0.toNat with h | h | h | h | h | h | h | h | h <;> omega
  obtain⟨X,hX⟩:∃ X,Lib.firstT x0.toNat=X:=⟨_,rfl⟩
  rw[hX]at ln PA wk
  have h7:=and7 ⟨X,PA⟩
  simp only at h7
  have Ig:wr.cell? ⟨1,X/16*2,none⟩=some (.int .u8 (Lib.accLo (X/16))):=by rw[Nat.mul_comm];exact(uY.2 (X/16) (by omega)).1
  have Ql:wr.cell? ⟨1,X/16*2+1,none⟩=some (.int .u8 (Lib.accHi (X/16))):=by rw[Nat.mul_comm];exact(uY.2 (X/16) (by omega)).2
  obtain⟨LO,KF⟩:∃ LO,Lib.accLo (X/16)=LO:=⟨_,rfl⟩
  obtain⟨HI,Jy⟩:∃ HI,Lib.accHi (X/16)=HI:=⟨_,rfl⟩
  rw[KF]at Ig wk
  rw[Jy]at Ql wk
  obtain⟨SZ,Ie⟩:∃ SZ,X%8=SZ:=⟨_,rfl⟩
  rw[Ie]at wk
  have V6:=Blk.new wr 104 #[.int .u8 (LO:Int),.int .u8 (HI:Int)]
  have iX:=kJ.alloc kJ.size (.cells #[.int .u8 (LO:Int),.int .u8 (HI:Int)] 104)
  have kw:=wF.alloc (.cells #[.int .u8 (LO:Int),.int .u8 (HI:Int)] 104)
  obtain⟨N,hN⟩:∃ N,wr.heap.size=N:=⟨_,rfl⟩
  rw[hN]at V6
  clear uY hX KF Jy xH Xl Ze
  by_cases s2:SZ=2
  ·as_aux_lemma =>
   subst s2
   have P7:(X:Int)%8=2:=by omega
   simp only[Lib.checkN,Nat.reduceEqDiff,if_true,if_false]at wk
   have cH:=Lib.hid wk
   clear wk
   go_upto_region 18 with fail
   generalize wr.alloc (.cells #[.int .u8 (LO:Int),.int .u8 (HI:Int)] 104)=wN at V6 iX kw⊢
   have n0:=V6.cell 0 rfl
   have n1:=V6.cell 1 rfl
   go_cut [103] (fun cc wx=>cc=.bool (decide (t.size<2∨x1.toNat<LO∨HI<x1.toNat))∧Below w.heap.size w wx)
   case first =>
    by_cases q0:t.size<2
    ·have q0z:(t.size:Int)<2:=by omega
     go_big_quiet (fail)
     go_wp2_with fail
     go_meet
     exact⟨congrArg Value.bool (decide_eq_true (p:=t.size<2∨x1.toNat<LO∨HI<x1.toNat) (by omega)).symm,below_drewNv iX nq⟩
    have q0z:¬ ((t.size:Int)<2):=by omega
    have q0b:decide ((t.size:Int)<2)=false:=decide_eq_false q0z
    have rv:(1:Int)<(t.size:Int):=by omega
    have OF:1<t.size:=by omega
    have d1:wN.cell? ⟨b,off+1,none⟩=some (.int .u8 (x1.toNat:Int)):=by rw[← pq];exact kw.cell (Ua.out 1 (by omega))
    by_cases q1:x1.toNat<LO
    ·have q1z:((x1.toNat:Int)<(LO:Int)):=by omega
     go_big_quiet (fail)
     go_wp2_with fail
     go_meet
     exact⟨congrArg Value.bool (decide_eq_true (p:=t.size<2∨x1.toNat<LO∨HI<x1.toNat) (by omega)).symm,below_drewNv iX nq⟩
    have q1z:¬ ((x1.toNat:Int)<(LO:Int)):=by omega
    have q1b:decide ((x1.toNat:Int)<(LO:Int))=false:=decide_eq_false q1z
    by_cases q2:HI<x1.toNat
    ·have q2z:((HI:Int)<(x1.toNat:Int)):=by omega
     go_big_quiet (fail)
     go_wp2_with fail
     go_meet
     exact⟨congrArg Value.bool (decide_eq_true (p:=t.size<2∨x1.toNat<LO∨HI<x1.toNat) (by omega)).symm,below_drewNv iX nq⟩
    have q2z:¬ ((HI:Int)<(x1.toNat:Int)):=by omega
    have q2b:decide ((HI:Int)<(x1.toNat:Int))=false:=decide_eq_false q2z
    go_big_quiet (fail)
    go_wp2_with fail
    go_meet
    exact⟨congrArg Value.bool (decide_eq_false (p:=t.size<2∨x1.toNat<LO∨HI<x1.toNat) (by omega)).symm,below_drewNv iX nq⟩
   case rest =>
   obtain⟨rfl,ob⟩:=hcut
   by_cases hb:t.size<2∨x1.toNat<LO∨HI<x1.toNat
   ·have tr:decide (t.size<2∨x1.toNat<LO∨HI<x1.toNat)=true:=decide_eq_true hb
    have wk:=cH.out
    rw[if_pos hb]at wk
    rw[tr]
    clear hb tr cH n0 n1
    go_wp2_with fail
    go_ret
    exact⟨by first | rfl | rw[wk],ob⟩
   have tr:decide (t.size<2∨x1.toNat<LO∨HI<x1.toNat)=false:=decide_eq_false hb
   have wk:=cH.out
   rw[if_neg hb]at wk
   rw[tr]
   have tC:(2:Int)≤(t.size:Int):=by omega
   have Ze:=Ua.out
   obtain⟨t1,kN⟩:∃ t1,t.extract 2 t.size=t1:=⟨_,rfl⟩
   have zt1:t.size-2=t1.size:=by rw[← kN,Lib.ext_size]
   have sbt1:=SB.skipc Ze 2 (by omega)
   rw[kN]at sbt1
   obtain⟨Bt1,o6⟩:∃ B,(if t.size=2 then some (⟨b,off,none⟩:Addr) else some ⟨b,off+2,none⟩)=B:=⟨_,rfl⟩
   rw[o6]at sbt1
   have HE:=Lib.hid (And.intro zt1 o6)
   have Uh:=Lib.hid (show Lib.validD t1.data.toList=ANS by rw[← kN,Lib.ext_list,wk])
   have lj:=Lib.hid (show t1.size<t.size∧t1.size≤t0.size by omega)
   clear hb tr cH wk zt1 o6 kN Ze n0 n1
   go_wp2_with fail
   go_roundw
   case rel=>exact⟨Bt1,t1,by rw[HE.out.1,HE.out.2],sbt1,Uh.out,lj.out.2,ob⟩
   case measure=>have:=lj.out.1;have:=HE.out.1;simp[kq];omega
  by_cases s3:SZ=3
  ·as_aux_lemma =>
   subst s3
   have P7:(X:Int)%8=3:=by omega
   simp only[Lib.checkN,Nat.reduceEqDiff,if_true,if_false]at wk
   have cH:=Lib.hid wk
   clear wk
   go_upto_region 22 with fail
   generalize wr.alloc (.cells #[.int .u8 (LO:Int),.int .u8 (HI:Int)] 104)=wN at V6 iX kw⊢
   have n0:=V6.cell 0 rfl
   have n1:=V6.cell 1 rfl
   go_cut [138] (fun cc wx=>cc=.bool (decide (t.size<3∨x1.toNat<LO∨HI<x1.toNat∨x2.toNat<128∨191<x2.toNat))∧Below w.heap.size w wx)
   case first =>
    by_cases q0:t.size<3
    ·have q0z:(t.size:Int)<3:=by omega
     go_big_quiet (fail)
     go_wp2_with fail
     go_meet
     exact⟨congrArg Value.bool (decide_eq_true (p:=t.size<3∨x1.toNat<LO∨HI<x1.toNat∨x2.toNat<128∨191<x2.toNat) (by omega)).symm,below_drewNv iX nq⟩
    have q0z:¬ ((t.size:Int)<3):=by omega
    have q0b:decide ((t.size:Int)<3)=false:=decide_eq_false q0z
    have rv:(1:Int)<(t.size:Int):=by omega
    have OF:1<t.size:=by omega
    have d1:wN.cell? ⟨b,off+1,none⟩=some (.int .u8 (x1.toNat:Int)):=by rw[← pq];exact kw.cell (Ua.out 1 (by omega))
    have ro:(2:Int)<(t.size:Int):=by omega
    have ur:2<t.size:=by omega
    have d2:wN.cell? ⟨b,off+2,none⟩=some (.int .u8 (x2.toNat:Int)):=by rw[← Z8];exact kw.cell (Ua.out 2 (by omega))
    by_cases q1:x1.toNat<LO
    ·have q1z:((x1.toNat:Int)<(LO:Int)):=by omega
     go_big_quiet (fail)
     go_wp2_with fail
     go_meet
     exact⟨congrArg Value.bool (decide_eq_true (p:=t.size<3∨x1.toNat<LO∨HI<x1.toNat∨x2.toNat<128∨191<x2.toNat) (by omega)).symm,below_drewNv iX nq⟩
    have q1z:¬ ((x1.toNat:Int)<(LO:Int)):=by omega
    have q1b:decide ((x1.toNat:Int)<(LO:Int))=false:=decide_eq_false q1z
    by_cases q2:HI<x1.toNat
    ·have q2z:((HI:Int)<(x1.toNat:Int)):=by omega
     go_big_quiet (fail)
     go_wp2_with fail
     go_meet
     exact⟨congrArg Value.bool (decide_eq_true (p:=t.size<3∨x1.toNat<LO∨HI<x1.toNat∨x2.toNat<128∨191<x2.toNat) (by omega)).symm,below_drewNv iX nq⟩
    have q2z:¬ ((HI:Int)<(x1.toNat:Int)):=by omega
    have q2b:decide ((HI:Int)<(x1.toNat:Int))=false:=decide_eq_false q2z
    by_cases q3:x2.toNat<128
    ·have q3z:((x2.toNat:Int)<128):=by omega
     go_big_quiet (fail)
     go_wp2_with fail
     go_meet
     exact⟨congrArg Value.bool (decide_eq_true (p:=t.size<3∨x1.toNat<LO∨HI<x1.toNat∨x2.toNat<128∨191<x2.toNat) (by omega)).symm,below_drewNv iX nq⟩
    have q3z:¬ ((x2.toNat:Int)<128):=by omega
    have q3b:decide ((x2.toNat:Int)<128)=false:=decide_eq_false q3z
    by_cases q4:191<x2.toNat
    ·have q4z:((191:Int)<(x2.toNat:Int)):=by omega
     go_big_quiet (fail)
     go_wp2_with fail
     go_meet
     exact⟨congrArg Value.bool (decide_eq_true (p:=t.size<3∨x1.toNat<LO∨HI<x1.toNat∨x2.toNat<128∨191<x2.toNat) (by omega)).symm,below_drewNv iX nq⟩
    have q4z:¬ ((191:Int)<(x2.toNat:Int)):=by omega
    have q4b:decide ((191:Int)<(x2.toNat:Int))=false:=decide_eq_false q4z
    go_big_quiet (fail)
    go_wp2_with fail
    go_meet
    exact⟨congrArg Value.bool (decide_eq_false (p:=t.size<3∨x1.toNat<LO∨HI<x1.toNat∨x2.toNat<128∨191<x2.toNat) (by omega)).symm,below_drewNv iX nq⟩
   case rest =>
   obtain⟨rfl,ob⟩:=hcut
   by_cases hb:t.size<3∨x1.toNat<LO∨HI<x1.toNat∨x2.toNat<128∨191<x2.toNat
   ·have tr:decide (t.size<3∨x1.toNat<LO∨HI<x1.toNat∨x2.toNat<128∨191<x2.toNat)=true:=decide_eq_true hb
    have wk:=cH.out
    rw[if_pos hb]at wk
    rw[tr]
    clear hb tr cH n0 n1
    go_wp2_with fail
    go_ret
    exact⟨by first | rfl | rw[wk],ob⟩
   have tr:decide (t.size<3∨x1.toNat<LO∨HI<x1.toNat∨x2.toNat<128∨191<x2.toNat)=false:=decide_eq_false hb
   have wk:=cH.out
   rw[if_neg hb]at wk
   rw[tr]
   have tC:(3:Int)≤(t.size:Int):=by omega
   have Ze:=Ua.out
   obtain⟨t1,kN⟩:∃ t1,t.extract 3 t.size=t1:=⟨_,rfl⟩
   have zt1:t.size-3=t1.size:=by rw[← kN,Lib.ext_size]
   have sbt1:=SB.skipc Ze 3 (by omega)
   rw[kN]at sbt1
   obtain⟨Bt1,o6⟩:∃ B,(if t.size=3 then some (⟨b,off,none⟩:Addr) else some ⟨b,off+3,none⟩)=B:=⟨_,rfl⟩
   rw[o6]at sbt1
   have HE:=Lib.hid (And.intro zt1 o6)
   have Uh:=Lib.hid (show Lib.validD t1.data.toList=ANS by rw[← kN,Lib.ext_list,wk])
   have lj:=Lib.hid (show t1.size<t.size∧t1.size≤t0.size by omega)
   clear hb tr cH wk zt1 o6 kN Ze n0 n1
   go_wp2_with fail
   go_roundw
   case rel=>exact⟨Bt1,t1,by rw[HE.out.1,HE.out.2],sbt1,Uh.out,lj.out.2,ob⟩
   case measure=>have:=lj.out.1;have:=HE.out.1;simp[kq];omega
  by_cases s4:SZ=4
  ·as_aux_lemma =>
   subst s4
   have P7:(X:Int)%8=4:=by omega
   simp only[Lib.checkN,Nat.reduceEqDiff,if_true,if_false]at wk
   have cH:=Lib.hid wk
   clear wk
   go_upto_region 26 with fail
   generalize wr.alloc (.cells #[.int .u8 (LO:Int),.int .u8 (HI:Int)] 104)=wN at V6 iX kw⊢
   have n0:=V6.cell 0 rfl
   have n1:=V6.cell 1 rfl
   go_cut [185] (fun cc wx=>cc=.bool (decide (t.size<4∨x1.toNat<LO∨HI<x1.toNat∨x2.toNat<128∨191<x2.toNat∨x3.toNat<128∨191<x3.toNat))∧Below w.heap.size w wx)
   case first =>
    by_cases q0:t.size<4
    ·have q0z:(t.size:Int)<4:=by omega
     go_big_quiet (fail)
     go_wp2_with fail
     go_meet
     exact⟨congrArg Value.bool (decide_eq_true (p:=t.size<4∨x1.toNat<LO∨HI<x1.toNat∨x2.toNat<128∨191<x2.toNat∨x3.toNat<128∨191<x3.toNat) (by omega)).symm,below_drewNv iX nq⟩
    have q0z:¬ ((t.size:Int)<4):=by omega
    have q0b:decide ((t.size:Int)<4)=false:=decide_eq_false q0z
    have rv:(1:Int)<(t.size:Int):=by omega
    have OF:1<t.size:=by omega
    have d1:wN.cell? ⟨b,off+1,none⟩=some (.int .u8 (x1.toNat:Int)):=by rw[← pq];exact kw.cell (Ua.out 1 (by omega))
    have ro:(2:Int)<(t.size:Int):=by omega
    have ur:2<t.size:=by omega
    have d2:wN.cell? ⟨b,off+2,none⟩=some (.int .u8 (x2.toNat:Int)):=by rw[← Z8];exact kw.cell (Ua.out 2 (by omega))
    have cD:(3:Int)<(t.size:Int):=by omega
    have Kt:3<t.size:=by omega
    have d3:wN.cell? ⟨b,off+3,none⟩=some (.int .u8 (x3.toNat:Int)):=by rw[← L7];exact kw.cell (Ua.out 3 (by omega))
    by_cases q1:x1.toNat<LO
    ·have q1z:((x1.toNat:Int)<(LO:Int)):=by omega
     go_big_quiet (fail)
     go_wp2_with fail
     go_meet
     exact⟨congrArg Value.bool (decide_eq_true (p:=t.size<4∨x1.toNat<LO∨HI<x1.toNat∨x2.toNat<128∨191<x2.toNat∨x3.toNat<128∨191<x3.toNat) (by omega)).symm,below_drewNv iX nq⟩
    have q1z:¬ ((x1.toNat:Int)<(LO:Int)):=by omega
    have q1b:decide ((x1.toNat:Int)<(LO:Int))=false:=decide_eq_false q1z
    by_cases q2:HI<x1.toNat
    ·have q2z:((HI:Int)<(x1.toNat:Int)):=by omega
     go_big_quiet (fail)
     go_wp2_with fail
     go_meet
     exact⟨congrArg Value.bool (decide_eq_true (p:=t.size<4∨x1.toNat<LO∨HI<x1.toNat∨x2.toNat<128∨191<x2.toNat∨x3.toNat<128∨191<x3.toNat) (by omega)).symm,below_drewNv iX nq⟩
    have q2z:¬ ((HI:Int)<(x1.toNat:Int)):=by omega
    have q2b:decide ((HI:Int)<(x1.toNat:Int))=false:=decide_eq_false q2z
    by_cases q3:x2.toNat<128
    ·have q3z:((x2.toNat:Int)<128):=by omega
     go_big_quiet (fail)
     go_wp2_with fail
     go_meet
     exact⟨congrArg Value.bool (decide_eq_true (p:=t.size<4∨x1.toNat<LO∨HI<x1.toNat∨x2.toNat<128∨191<x2.toNat∨x3.toNat<128∨191<x3.toNat) (by omega)).symm,below_drewNv iX nq⟩
    have q3z:¬ ((x2.toNat:Int)<128):=by omega
    have q3b:decide ((x2.toNat:Int)<128)=false:=decide_eq_false q3z
    by_cases q4:191<x2.toNat
    ·have q4z:((191:Int)<(x2.toNat:Int)):=by omega
     go_big_quiet (fail)
     go_wp2_with fail
     go_meet
     exact⟨congrArg Value.bool (decide_eq_true (p:=t.size<4∨x1.toNat<LO∨HI<x1.toNat∨x2.toNat<128∨191<x2.toNat∨x3.toNat<128∨191<x3.toNat) (by omega)).symm,below_drewNv iX nq⟩
    have q4z:¬ ((191:Int)<(x2.toNat:Int)):=by omega
    have q4b:decide ((191:Int)<(x2.toNat:Int))=false:=decide_eq_false q4z
    by_cases q5:x3.toNat<128
    ·have q5z:((x3.toNat:Int)<128):=by omega
     go_big_quiet (fail)
     go_wp2_with fail
     go_meet
     exact⟨congrArg Value.bool (decide_eq_true (p:=t.size<4∨x1.toNat<LO∨HI<x1.toNat∨x2.toNat<128∨191<x2.toNat∨x3.toNat<128∨191<x3.toNat) (by omega)).symm,below_drewNv iX nq⟩
    have q5z:¬ ((x3.toNat:Int)<128):=by omega
    have q5b:decide ((x3.toNat:Int)<128)=false:=decide_eq_false q5z
    by_cases q6:191<x3.toNat
    ·have q6z:((191:Int)<(x3.toNat:Int)):=by omega
     go_big_quiet (fail)
     go_wp2_with fail
     go_meet
     exact⟨congrArg Value.bool (decide_eq_true (p:=t.size<4∨x1.toNat<LO∨HI<x1.toNat∨x2.toNat<128∨191<x2.toNat∨x3.toNat<128∨191<x3.toNat) (by omega)).symm,below_drewNv iX nq⟩
    have q6z:¬ ((191:Int)<(x3.toNat:Int)):=by omega
    have q6b:decide ((191:Int)<(x3.toNat:Int))=false:=decide_eq_false q6z
    go_big_quiet (fail)
    go_wp2_with fail
    go_meet
    exact⟨congrArg Value.bool (decide_eq_false (p:=t.size<4∨x1.toNat<LO∨HI<x1.toNat∨x2.toNat<128∨191<x2.toNat∨x3.toNat<128∨191<x3.toNat) (by omega)).symm,below_drewNv iX nq⟩
   case rest =>
   obtain⟨rfl,ob⟩:=hcut
   by_cases hb:t.size<4∨x1.toNat<LO∨HI<x1.toNat∨x2.toNat<128∨191<x2.toNat∨x3.toNat<128∨191<x3.toNat
   ·have tr:decide (t.size<4∨x1.toNat<LO∨HI<x1.toNat∨x2.toNat<128∨191<x2.toNat∨x3.toNat<128∨191<x3.toNat)=true:=decide_eq_true hb
    have wk:=cH.out
    rw[if_pos hb]at wk
    rw[tr]
    clear hb tr cH n0 n1
    go_wp2_with fail
    go_ret
    exact⟨by first | rfl | rw[wk],ob⟩
   have tr:decide (t.size<4∨x1.toNat<LO∨HI<x1.toNat∨x2.toNat<128∨191<x2.toNat∨x3.toNat<128∨191<x3.toNat)=false:=decide_eq_false hb
   have wk:=cH.out
   rw[if_neg hb]at wk
   rw[tr]
   have tC:(4:Int)≤(t.size:Int):=by omega
   have Ze:=Ua.out
   obtain⟨t1,kN⟩:∃ t1,t.extract 4 t.size=t1:=⟨_,rfl⟩
   have zt1:t.size-4=t1.size:=by rw[← kN,Lib.ext_size]
   have sbt1:=SB.skipc Ze 4 (by omega)
   rw[kN]at sbt1
   obtain⟨Bt1,o6⟩:∃ B,(if t.size=4 then some (⟨b,off,none⟩:Addr) else some ⟨b,off+4,none⟩)=B:=⟨_,rfl⟩
   rw[o6]at sbt1
   have HE:=Lib.hid (And.intro zt1 o6)
   have Uh:=Lib.hid (show Lib.validD t1.data.toList=ANS by rw[← kN,Lib.ext_list,wk])
   have lj:=Lib.hid (show t1.size<t.size∧t1.size≤t0.size by omega)
   clear hb tr cH wk zt1 o6 kN Ze n0 n1
   go_wp2_with fail
   go_roundw
   case rel=>exact⟨Bt1,t1,by rw[HE.out.1,HE.out.2],sbt1,Uh.out,lj.out.2,ob⟩
   case measure=>have:=lj.out.1;have:=HE.out.1;simp[kq];omega
  have e2b:(((X:Int)%8)==2)=false:=by simp;omega
  have e3b:(((X:Int)%8)==3)=false:=by simp;omega
  have e4b:(((X:Int)%8)==4)=false:=by simp;omega
  have e2:¬ ((X:Int)%8=2):=by omega
  have e3:¬ ((X:Int)%8=3):=by omega
  have e4:¬ ((X:Int)%8=4):=by omega
  simp only[Lib.checkN,s2,s3,s4,if_false]at wk
  have cH:=Lib.hid wk
  clear wk
  go_wp2_with fail
  go_ret
  exact⟨by first | rfl | (rw[cH.out];rfl),iX⟩
 have I0:¬ ((0:Int)<(t.size:Int)):=by omega
 have JD:t.data.toList=[]:=List.eq_nil_of_length_eq_zero (by rw[← Lib.size_eq];omega)
 have hv:=HV.out
 rw[JD,Lib.validD_nil]at hv
 subst hv
 go_wp2_with fail
 go_ret
 exact⟨rfl,kJ⟩
theorem tE {H:Snap}(hT:Tabs H) (w:World) (hH:Holds w H) (A:Option Addr) (l:List UInt8) (n c:Nat) (hn:n=l.length) (hb:IsBytes H A c l) :
  Calls Tryz.prog 83 #[.slice A n c] w fun e w'=>e=.returned (.bool (Lib.validD l))∧Below w.heap.size w w':=by
 subst hn
 have hl:(⟨l.toArray⟩:ByteArray).size=l.length:=by show l.toArray.size=l.length;simp
 have h:=dP hT w hH A ⟨l.toArray⟩ c (SB.of hb) (by rw[hl];exact hb.le) (by rw[hl];have:=hb.le;have:=hb.max;omega)
 rw[hl,Te]at h
 exact h
set_option maxRecDepth 100000 in
set_option maxHeartbeats 800000 in
theorem sG (m n:Int) (w:World) (kL:0≤m) (hm:m<8) (h0:0≤n) (h1:n<18446744073709551616) :
  Calls Tryz.prog 68 #[.int .u8 m,.int .u64 n] w fun e w'=>∃ r,e=.returned r∧Fresh w (zh m.toNat n.toNat) r w':=by
 obtain⟨m',QH⟩:=Int.eq_ofNat_of_zero_le kL
 obtain⟨n',Z0⟩:=Int.eq_ofNat_of_zero_le h0
 have HM:=Lib.hid QH
 have HN:=Lib.hid Z0
 have H1:=Lib.hid h1
 clear h1 QH Z0
 go_enter Tryz.func68,Tryz.ntmps68
 go_wp2
 ·go_ret
  obtain rfl:=HM.out
  obtain rfl:=HN.out
  rw[Int.toNat_natCast,Int.toNat_natCast]
  have ye:(n':Int)<24:=by with_reducible assumption
  refine⟨_,rfl,Fresh.lit _ _ _ 1 ?_ ?_ ?_⟩
  ·rw[ze,if_pos (by omega)]
  ·have:=(so m' n').2;omega
  rw[zh,if_pos (by omega)]
  simp only[List.map_cons,List.map_nil,wb]
  rw[nD m' n' (by omega) (by omega),Nat.mod_eq_of_lt (by omega)]
 ·go_ret
  obtain rfl:=HM.out
  obtain rfl:=HN.out
  rw[Int.toNat_natCast,Int.toNat_natCast]
  have kK:(24:Int)≤n':=by with_reducible assumption
  have ye:(n':Int)<256:=by with_reducible assumption
  refine⟨_,rfl,Fresh.lit _ _ _ 2 ?_ ?_ ?_⟩
  ·rw[ze,if_neg (by omega),if_pos (by omega)]
  ·have:=(so m' n').2;omega
  rw[zh,if_neg (by omega),if_pos (by omega)]
  simp only[List.map_cons,List.map_nil,wb]
  have e24':=nD m' 24 (by omega) (by omega)
  rw[show((24:Nat):Int)=24 from rfl]at e24'
  rw[e24',Nat.mod_eq_of_lt (by omega),Nat.mod_eq_of_lt (by omega)]
 ·go_ret
  obtain rfl:=HM.out
  obtain rfl:=HN.out
  rw[Int.toNat_natCast,Int.toNat_natCast]
  have kK:(256:Int)≤n':=by with_reducible assumption
  have ye:(n':Int)<65536:=by with_reducible assumption
  refine⟨_,rfl,Fresh.lit _ _ _ 3 ?_ ?_ ?_⟩
  ·rw[ze,if_neg (by omega),if_neg (by omega),if_pos (by omega)]
  ·have:=(so m' n').2;omega
  rw[zh,if_neg (by omega),if_neg (by omega),if_pos (by omega)]
  simp only[List.map_cons,List.map_nil,wb]
  have e24':=nD m' 25 (by omega) (by omega)
  rw[show((25:Nat):Int)=25 from rfl]at e24'
  rw[e24',Nat.mod_eq_of_lt (show m'*32+25<256 by omega),Nat.mod_eq_of_lt (show n'/256<256 by omega)]
  rfl
 ·go_ret
  obtain rfl:=HM.out
  obtain rfl:=HN.out
  rw[Int.toNat_natCast,Int.toNat_natCast]
  have kK:(65536:Int)≤n':=by with_reducible assumption
  have ye:(n':Int)<4294967296:=by with_reducible assumption
  refine⟨_,rfl,Fresh.lit _ _ _ 5 ?_ ?_ ?_⟩
  ·rw[ze,if_neg (by omega),if_neg (by omega),if_neg (by omega),if_pos (by omega)]
  ·have:=(so m' n').2;omega
  rw[zh,if_neg (by omega),if_neg (by omega),if_neg (by omega),if_pos (by omega)]
  simp only[List.map_cons,List.map_nil,wb]
  have e24':=nD m' 26 (by omega) (by omega)
  rw[show((26:Nat):Int)=26 from rfl]at e24'
  rw[e24',Nat.mod_eq_of_lt (show m'*32+26<256 by omega),Nat.mod_eq_of_lt (show n'/16777216<256 by omega)]
  rfl
 have HG:Hid (zh m.toNat n.toNat=u8 (m.toNat*32+27)::be8 n.toNat 8):=by
  have kK:(4294967296:Int)≤n:=by with_reducible assumption
  rw[zh,if_neg (by omega),if_neg (by omega),if_neg (by omega),if_neg (by omega)]
  rfl
 have pQ:OwnB (w.alloc (.cells #[.int .u8 (bits .or .u8 (m*32) 27)] 5)) w.heap.size (.slice (some ⟨w.heap.size,0,none⟩) 1 1) [u8 (m.toNat*32+27)]:=by
  refine OwnB.lit w _ _ _ 1 rfl ?_ (Nat.le_refl _) (by simp)
  have e27':=nD m.toNat 27 (by omega) (by omega)
  rw[show((27:Nat):Int)=27 from rfl,Int.toNat_of_nonneg kL]at e27'
  simp only[List.map_cons,List.map_nil,wb]
  rw[e27',Nat.mod_eq_of_lt (by omega)]
 go_loopw [6,7] (fun v s wr=>∃ k:Nat,k≤8∧s=.int .i64 (56-8*(k:Int))∧OwnB wr w.heap.size v (u8 (m.toNat*32+27)::be8 n.toNat k)∧Below w.heap.size w wr) (fun _ s _=>(intOf s+8).toNat)
 case atStart=>exact⟨0,by omega,rfl,pQ,(Below.refl _ _).alloc (Nat.le_refl _) _⟩
 case round =>
 obtain⟨k,hk,rfl,wE,hb⟩:=hrel
 by_cases ye:k<8
 ·have Sq:=hb.size
  go_wp2_with (at_builtin;refine zR rfl (.tmp 61) (.tmp 66) rfl w.heap.size _ _ rfl (wE.alloc _) _ 1 1 [u8 (n.toNat/2 ^ (56-8*k))] rfl rfl ?hs ?hl ?hz ?_)
  case hs =>
   rw[VM (n/2 ^ (56-8*k)%256) (n.toNat/2 ^ (56-8*k)) (by obtain rfl:=HN.out;simp)]
   exact Src.lit wr #[zI (u8 (n.toNat/2 ^ (56-8*k)))] _
  case hl=>simp[vP];omega
  case hz=>simp;omega
  intro v' w' hown' hg _
  have R:OwnB w' w.heap.size v' (u8 (m.toNat*32+27)::be8 n.toNat (k+1))∧Below w.heap.size w w' :=
   ⟨by simpa [be8] using hown',((hb.alloc Sq _).grown hg (by simp;omega) (fun g hg=>(wE.lt g hg).1))⟩
  clear hown' hg wE hb pQ
  go_wp2
  go_roundw
  case rel=>exact⟨k+1,by omega,by go_num,R.1,R.2⟩
  case measure=>simp[intOf];omega
 have XZ:k=8:=by omega
 subst XZ
 go_wp2
 go_ret
 refine⟨_,rfl, ?_⟩
 rw[HG.out]
 exact⟨wE,hb⟩
set_option maxRecDepth 100000 in
set_option maxHeartbeats 800000 in
theorem iw {H:Snap}{k n:Int}{ba:Option Addr}{bl bc:Nat}{ia:Option Addr}{il ic:Nat}{x:Itm}(hx:ItemA H k n ba bl bc ia il ic x) (w:World) (h0:0≤x.kind) (h8:x.kind≤8) :
  Calls Tryz.prog 69 #[.agg #[.int .i64 k,.int .u64 n,.slice ba bl bc,.slice ia il ic]] w fun e w'=>e=.returned (.tuple #[.int .u8 x.kind,.int .u64 (numP x)])∧Below w.heap.size w w':=by
 obtain⟨rfl,rfl,rfl,rfl,hx⟩:=hx
 obtain⟨_,_,hn,wU,xJ,qn,mJ⟩:=hx.bounds
 have hb:x.bytes.length≤9223372036854775807:=by omega
 have hi:x.items.length≤9223372036854775807:=by omega
 clear wU xJ qn mJ hx
 have HN:=Lib.hid hn
 clear hn
 by_cases h2:x.kind=2
 ·have e:Hid (Ending.returned (.tuple #[.int .u8 2,.int .u64 x.bytes.length])=Ending.returned (.tuple #[.int .u8 x.kind,.int .u64 (numP x)])):=by simp[Hid,numP,h2]
  go_enter Tryz.func69,Tryz.ntmps69
  go_wp2
  go_region
  all_goals go_wp2
  all_goals go_ret2
  all_goals exact⟨e.out,(zi w _).drew⟩
 by_cases h3:x.kind=3
 ·have e:Hid (Ending.returned (.tuple #[.int .u8 3,.int .u64 x.bytes.length])=Ending.returned (.tuple #[.int .u8 x.kind,.int .u64 (numP x)])):=by simp[Hid,numP,h3]
  clear h2
  go_enter Tryz.func69,Tryz.ntmps69
  go_wp2
  go_region
  all_goals go_wp2
  all_goals go_ret2
  all_goals exact⟨e.out,(zi w _).drew⟩
 by_cases h4:x.kind=4
 ·have e:Hid (Ending.returned (.tuple #[.int .u8 4,.int .u64 x.items.length])=Ending.returned (.tuple #[.int .u8 x.kind,.int .u64 (numP x)])):=by simp[Hid,numP,h4]
  clear h2 h3
  go_enter Tryz.func69,Tryz.ntmps69
  go_wp2
  go_region
  all_goals go_wp2
  all_goals go_ret2
  all_goals exact⟨e.out,(zi w _).drew⟩
 by_cases h5:x.kind=5
 ·have e:Hid (Ending.returned (.tuple #[.int .u8 5,.int .u64 ((x.items.length:Int)/2)])=Ending.returned (.tuple #[.int .u8 x.kind,.int .u64 (numP x)])):=by simp[Hid,numP,h5]
  clear h2 h3 h4
  go_enter Tryz.func69,Tryz.ntmps69
  go_wp2
  go_region
  all_goals go_wp2
  all_goals go_ret2
  all_goals exact⟨e.out,(zi w _).drew⟩
 have e:Hid (Ending.returned (.tuple #[.int .u8 x.kind,.int .u64 x.n])=Ending.returned (.tuple #[.int .u8 x.kind,.int .u64 (numP x)])):=by simp[Hid,numP,h2,h3,h4,h5]
 have b2:(x.kind==2)=false:=by simp[h2]
 have b3:(x.kind==3)=false:=by simp[h3]
 have b4:(x.kind==4)=false:=by simp[h4]
 have b5:(x.kind==5)=false:=by simp[h5]
 clear h2 h3 h4 h5
 go_enter Tryz.func69,Tryz.ntmps69
 go_wp2
 go_region
 all_goals go_wp2
 all_goals go_ret2
 all_goals exact⟨e.out,(zi w _).drew⟩
def eN (n v s x f:Nat):Prop:=s≤1∧v=s*32768+x*1024+f∧f<1024∧x≤31∧
 ((x=31∧f=0∧n=s*9223372036854775808+9218868437227405312)∨(x=0∧f=0∧n=s*9223372036854775808)∨
  (1≤x∧x≤30∧n=s*9223372036854775808+(x+1008)*4503599627370496+f*4398046511104)∨
  (x=0∧∃ t full,t<10∧2 ^ t≤f∧f<2 ^ (t+1)∧full=f*2 ^ (52-t)∧4503599627370496≤full∧n=s*9223372036854775808+(999+t)*4503599627370496+(full-4503599627370496)))
theorem mo (n v s x f:Nat) (h1:s≤1) (h2:v=s*32768+x*1024+f) (h3:f<1024) (h4:x≤31)
  (h:(x=31∧f=0∧n=s*9223372036854775808+9218868437227405312)∨(x=0∧f=0∧n=s*9223372036854775808)∨
  (1≤x∧x≤30∧n=s*9223372036854775808+(x+1008)*4503599627370496+f*4398046511104)∨
  (x=0∧∃ t full,t<10∧2 ^ t≤f∧f<2 ^ (t+1)∧full=f*2 ^ (52-t)∧4503599627370496≤full∧n=s*9223372036854775808+(999+t)*4503599627370496+(full-4503599627370496))):∃ s x f,eN n v s x f :=
 ⟨s,x,f,h1,h2,h3,h4,h⟩
theorem uB {n v:Nat}(hn:n<18446744073709551616) (h:yr n 5 10=some v):∃ s x f,eN n v s x f:=by
 obtain⟨ex,tA⟩:∃ ex,n/4503599627370496%2048=ex:=⟨_,rfl⟩
 obtain⟨mx,kM⟩:∃ mx,n%4503599627370496=mx:=⟨_,rfl⟩
 obtain⟨sg,Zm⟩:∃ sg,n/9223372036854775808=sg:=⟨_,rfl⟩
 have vC:sg≤1:=by omega
 have nV:n=sg*9223372036854775808+ex*4503599627370496+mx:=by omega
 have QB:ex<2048:=by omega
 have qo:mx<4503599627370496:=by omega
 rw[yr]at h
 simp only[Nat.reducePow,Nat.reduceSub,Nat.reduceAdd,Nat.reduceMul,tA,kM,Zm]at h
 clear tA kM Zm hn
 split at h
 ·rename_i q1
  split at h
  ·rename_i q2
   injection h with h
   subst q1 q2
   exact mo _ _ _ _ _ vC (by omega) (by omega) (by omega) (.inl (And.intro rfl (And.intro rfl (by omega))))
  cases h
 rename_i c1
 split at h
 ·rename_i q1
  split at h
  ·rename_i q2
   injection h with h
   subst q1 q2
   exact mo _ _ _ 0 0 vC (by omega) (by omega) (by omega) (.inr (.inl (And.intro rfl (And.intro rfl (by rw[nV,Nat.zero_mul];simp only[Nat.add_zero])))))
  cases h
 rename_i c2
 split at h
 ·cases h
 rename_i c3
 split at h
 ·rename_i c4
  split at h
  ·rename_i c5
   injection h with h
   obtain⟨x,hx⟩:∃ x,ex=x+1008:=⟨ex-1008,by omega⟩
   obtain⟨f,hf⟩:∃ f,mx=f*4398046511104:=⟨mx/4398046511104,by omega⟩
   subst hx hf
   exact mo _ _ _ x f vC (by omega) (by omega) (by omega) (.inr (.inr (.inl (And.intro (by omega) (And.intro (by omega) nV)))))
  cases h
 rename_i c4
 split at h
 ·cases h
 rename_i c5
 split at h
 ·rename_i c6
  injection h with h
  obtain⟨t,ht⟩:∃ t,ex=999+t:=⟨ex-999,by omega⟩
  have Zn:43+(1023-ex-15)=52-t:=by omega
  rw[Zn]at h c6
  obtain⟨f,hf⟩:∃ f,(mx+4503599627370496)/2 ^ (52-t)=f:=⟨_,rfl⟩
  have uF:mx+4503599627370496=f*2 ^ (52-t):=by
   rw[← hf,Nat.div_mul_cancel (Nat.dvd_of_mod_eq_zero c6)]
  have uP:0<2 ^ (52-t):=Nat.two_pow_pos _
  have e1:2 ^ t*2 ^ (52-t)=4503599627370496:=by
   rw[← Nat.pow_add,show t+(52-t)=52 by omega]
  have e2:2 ^ (t+1)*2 ^ (52-t)=9007199254740992:=by
   rw[← Nat.pow_add,show t+1+(52-t)=53 by omega]
  have b1:2 ^ t≤f:=by
   apply Nat.le_of_mul_le_mul_right _ uP
   omega
  have b2:f<2 ^ (t+1):=by
   apply Nat.lt_of_mul_lt_mul_right (a:=2 ^ (52-t))
   omega
  have b3:2 ^ (t+1)≤2 ^ 10:=Nat.pow_le_pow_right (by omega) (by omega)
  simp only[Nat.reducePow]at b3
  rw[hf]at h
  have Z0:n=sg*9223372036854775808+(999+t)*4503599627370496+(mx+4503599627370496-4503599627370496):=by rw[nV,ht,Nat.add_sub_cancel]
  exact mo _ _ _ 0 f vC (by omega) (by omega) (by omega) (.inr (.inr (.inr (And.intro rfl ⟨t,mx+4503599627370496,by omega,b1,b2,uF,by omega,Z0⟩))))
 cases h
theorem ah {f t t':Nat}(h1:2 ^ t≤f) (h2:f<2 ^ (t+1)) (h3:2 ^ t'≤f) (h4:f<2 ^ (t'+1)):t=t':=by
 rcases Nat.lt_trichotomy t t' with h | h | h
 ·have:2 ^ (t+1)≤2 ^ t':=Nat.pow_le_pow_right (by omega) h
  omega
 ·exact h
 have:2 ^ (t'+1)≤2 ^ t:=Nat.pow_le_pow_right (by omega) h
 omega
theorem fF {n n' v:Nat}(hn:n<18446744073709551616) (Z0:n'<18446744073709551616) (h:yr n 5 10=some v) (h':yr n' 5 10=some v):n=n':=by
 obtain⟨s,x,f,a1,a2,a3,a4,a5⟩:=uB hn h
 obtain⟨s',x',f',b1,b2,b3,b4,b5⟩:=uB Z0 h'
 obtain rfl:s=s':=by omega
 obtain rfl:x=x':=by omega
 obtain rfl:f=f':=by omega
 rcases a5 with ⟨c1,c2,c3⟩ | ⟨c1,c2,c3⟩ | ⟨c1,c2,c3⟩ | ⟨c1,t,full,c2,c3,c4,c5,c6,c7⟩ <;> rcases b5 with ⟨d1,d2,d3⟩ | ⟨d1,d2,d3⟩ | ⟨d1,d2,d3⟩ | ⟨d1,t',full',d2,d3,d4,d5,d6,d7⟩
 all_goals try omega
 obtain rfl:=ah c3 c4 d3 d4
 rw[← c5]at d5
 omega
theorem cq {n v:Nat}(hn:n<18446744073709551616) (h:yr n 5 10=some v):v<65536:=by
 obtain⟨s,x,f,a1,a2,a3,a4,a5⟩:=uB hn h
 omega
def rd (n v s x f:Nat):Prop:=s≤1∧v=s*2147483648+x*8388608+f∧f<8388608∧x≤255∧
 ((x=255∧f=0∧n=s*9223372036854775808+9218868437227405312)∨(x=0∧f=0∧n=s*9223372036854775808)∨
  (1≤x∧x≤254∧n=s*9223372036854775808+(x+896)*4503599627370496+f*536870912)∨
  (x=0∧∃ t full,t<23∧2 ^ t≤f∧f<2 ^ (t+1)∧full=f*2 ^ (52-t)∧4503599627370496≤full∧n=s*9223372036854775808+(874+t)*4503599627370496+(full-4503599627370496)))
theorem mq (n v s x f:Nat) (h1:s≤1) (h2:v=s*2147483648+x*8388608+f) (h3:f<8388608) (h4:x≤255)
  (h:(x=255∧f=0∧n=s*9223372036854775808+9218868437227405312)∨(x=0∧f=0∧n=s*9223372036854775808)∨
  (1≤x∧x≤254∧n=s*9223372036854775808+(x+896)*4503599627370496+f*536870912)∨
  (x=0∧∃ t full,t<23∧2 ^ t≤f∧f<2 ^ (t+1)∧full=f*2 ^ (52-t)∧4503599627370496≤full∧n=s*9223372036854775808+(874+t)*4503599627370496+(full-4503599627370496))):∃ s x f,rd n v s x f :=
 ⟨s,x,f,h1,h2,h3,h4,h⟩
theorem sz {n v:Nat}(hn:n<18446744073709551616) (h:yr n 8 23=some v):∃ s x f,rd n v s x f:=by
 obtain⟨ex,tA⟩:∃ ex,n/4503599627370496%2048=ex:=⟨_,rfl⟩
 obtain⟨mx,kM⟩:∃ mx,n%4503599627370496=mx:=⟨_,rfl⟩
 obtain⟨sg,Zm⟩:∃ sg,n/9223372036854775808=sg:=⟨_,rfl⟩
 have vC:sg≤1:=by omega
 have nV:n=sg*9223372036854775808+ex*4503599627370496+mx:=by omega
 have QB:ex<2048:=by omega
 have qo:mx<4503599627370496:=by omega
 rw[yr]at h
 simp only[Nat.reducePow,Nat.reduceSub,Nat.reduceAdd,Nat.reduceMul,tA,kM,Zm]at h
 clear tA kM Zm hn
 split at h
 ·rename_i q1
  split at h
  ·rename_i q2
   injection h with h
   subst q1 q2
   exact mq _ _ _ _ _ vC (by omega) (by omega) (by omega) (.inl (And.intro rfl (And.intro rfl (by omega))))
  cases h
 rename_i c1
 split at h
 ·rename_i q1
  split at h
  ·rename_i q2
   injection h with h
   subst q1 q2
   exact mq _ _ _ 0 0 vC (by omega) (by omega) (by omega) (.inr (.inl (And.intro rfl (And.intro rfl (by rw[nV,Nat.zero_mul];simp only[Nat.add_zero])))))
  cases h
 rename_i c2
 split at h
 ·cases h
 rename_i c3
 split at h
 ·rename_i c4
  split at h
  ·rename_i c5
   injection h with h
   obtain⟨x,hx⟩:∃ x,ex=x+896:=⟨ex-896,by omega⟩
   obtain⟨f,hf⟩:∃ f,mx=f*536870912:=⟨mx/536870912,by omega⟩
   subst hx hf
   exact mq _ _ _ x f vC (by omega) (by omega) (by omega) (.inr (.inr (.inl (And.intro (by omega) (And.intro (by omega) nV)))))
  cases h
 rename_i c4
 split at h
 ·cases h
 rename_i c5
 split at h
 ·rename_i c6
  injection h with h
  obtain⟨t,ht⟩:∃ t,ex=874+t:=⟨ex-874,by omega⟩
  have Zn:30+(1023-ex-127)=52-t:=by omega
  rw[Zn]at h c6
  obtain⟨f,hf⟩:∃ f,(mx+4503599627370496)/2 ^ (52-t)=f:=⟨_,rfl⟩
  have uF:mx+4503599627370496=f*2 ^ (52-t):=by
   rw[← hf,Nat.div_mul_cancel (Nat.dvd_of_mod_eq_zero c6)]
  have uP:0<2 ^ (52-t):=Nat.two_pow_pos _
  have e1:2 ^ t*2 ^ (52-t)=4503599627370496:=by
   rw[← Nat.pow_add,show t+(52-t)=52 by omega]
  have e2:2 ^ (t+1)*2 ^ (52-t)=9007199254740992:=by
   rw[← Nat.pow_add,show t+1+(52-t)=53 by omega]
  have b1:2 ^ t≤f:=by
   apply Nat.le_of_mul_le_mul_right _ uP
   omega
  have b2:f<2 ^ (t+1):=by
   apply Nat.lt_of_mul_lt_mul_right (a:=2 ^ (52-t))
   omega
  have b3:2 ^ (t+1)≤2 ^ 23:=Nat.pow_le_pow_right (by omega) (by omega)
  simp only[Nat.reducePow]at b3
  rw[hf]at h
  have Z0:n=sg*9223372036854775808+(874+t)*4503599627370496+(mx+4503599627370496-4503599627370496):=by rw[nV,ht,Nat.add_sub_cancel]
  exact mq _ _ _ 0 f vC (by omega) (by omega) (by omega) (.inr (.inr (.inr (And.intro rfl ⟨t,mx+4503599627370496,by omega,b1,b2,uF,by omega,Z0⟩))))
 cases h
theorem ai {f t t':Nat}(h1:2 ^ t≤f) (h2:f<2 ^ (t+1)) (h3:2 ^ t'≤f) (h4:f<2 ^ (t'+1)):t=t':=by
 rcases Nat.lt_trichotomy t t' with h | h | h
 ·have:2 ^ (t+1)≤2 ^ t':=Nat.pow_le_pow_right (by omega) h
  omega
 ·exact h
 have:2 ^ (t'+1)≤2 ^ t:=Nat.pow_le_pow_right (by omega) h
 omega
theorem fG {n n' v:Nat}(hn:n<18446744073709551616) (Z0:n'<18446744073709551616) (h:yr n 8 23=some v) (h':yr n' 8 23=some v):n=n':=by
 obtain⟨s,x,f,a1,a2,a3,a4,a5⟩:=sz hn h
 obtain⟨s',x',f',b1,b2,b3,b4,b5⟩:=sz Z0 h'
 obtain rfl:s=s':=by omega
 obtain rfl:x=x':=by omega
 obtain rfl:f=f':=by omega
 rcases a5 with ⟨c1,c2,c3⟩ | ⟨c1,c2,c3⟩ | ⟨c1,c2,c3⟩ | ⟨c1,t,full,c2,c3,c4,c5,c6,c7⟩ <;> rcases b5 with ⟨d1,d2,d3⟩ | ⟨d1,d2,d3⟩ | ⟨d1,d2,d3⟩ | ⟨d1,t',full',d2,d3,d4,d5,d6,d7⟩
 all_goals try omega
 obtain rfl:=ai c3 c4 d3 d4
 rw[← c5]at d5
 omega
theorem cu {n v:Nat}(hn:n<18446744073709551616) (h:yr n 8 23=some v):v<4294967296:=by
 obtain⟨s,x,f,a1,a2,a3,a4,a5⟩:=sz hn h
 omega
theorem mX {n:Nat}(hn:n<18446744073709551616):yr n 5 10≠some 32256:=by
 intro h
 obtain⟨s,x,f,a1,a2,a3,a4,a5⟩:=uB hn h
 rcases a5 with ⟨c1,c2,c3⟩ | ⟨c1,c2,c3⟩ | ⟨c1,c2,c3⟩ | ⟨c1,t,full,c2,c3,c4,c5,c6,c7⟩ <;> omega
def kO (n:Nat):Prop:=n<18446744073709551616∧(isNaN n=true→n=zJ)
theorem aD {n m:Nat}(hn:kO n) (hm:kO m) {r s:List UInt8}(h:zK n++r=zK m++s):n=m∧r=s:=by
 have key:∀ n,kO n→(∃ v,zK n=[u8 249,u8 (v/256),u8 v]∧v<65536∧((isNaN n=true∧v=32256)∨(isNaN n=false∧yr n 5 10=some v)))∨
   (∃ v,zK n=[u8 250,u8 (v/16777216),u8 (v/65536),u8 (v/256),u8 v]∧v<4294967296∧yr n 8 23=some v)∨zK n=u8 251::be8 n 8:=by
  intro n hn
  unfold zK
  by_cases h1:isNaN n=true
  ·rw[if_pos h1]
   exact .inl ⟨32256,rfl,by omega,.inl ⟨h1,rfl⟩⟩
  rw[if_neg h1]
  cases h2:yr n 5 10 with
  | some v=>exact .inl ⟨v,rfl,cq hn.1 h2,.inr ⟨by simpa using h1,rfl⟩⟩
  | none =>
  cases h3:yr n 8 23 with
  | some v=>exact .inr (.inl ⟨v,rfl,cu hn.1 h3,rfl⟩)
  | none=>exact .inr (.inr rfl)
 rcases key n hn with ⟨v,e,hv,hc⟩ | ⟨v,e,hv,hc⟩ | e <;> rcases key m hm with ⟨v',e',Z6,Q9⟩ | ⟨v',e',Z6,Q9⟩ | e' <;> rw[e,e']at h <;> simp only[List.cons_append,List.nil_append]at h <;> injection h with h0 h
 any_goals (have:=vU h0;omega)
 ·obtain⟨h1,h2,h3⟩:=n7 h
  have h1:=vU h1
  have h2:=vU h2
  obtain rfl:v=v':=by omega
  refine⟨?_,h3⟩
  rcases hc with ⟨c1,c2⟩ | ⟨c1,c2⟩ <;> rcases Q9 with ⟨d1,d2⟩ | ⟨d1,d2⟩
  ·rw[hn.2 c1,hm.2 d1]
  ·rw[c2]at d2;exact absurd d2 (mX hm.1)
  ·rw[d2]at c2;exact absurd c2 (mX hn.1)
  exact fF hn.1 hm.1 c2 d2
 ·obtain⟨h1,h2,h3⟩:=n7 h
  obtain⟨h4,h5,h6⟩:=n7 h3
  have h1:=vU h1
  have h2:=vU h2
  have h4:=vU h4
  have h5:=vU h5
  have g0:v/16777216=v'/16777216:=by omega
  have g1:v/65536=v'/65536:=by omega
  have g2:v/256=v'/256:=by omega
  obtain rfl:v=v':=by omega
  exact⟨fG hn.1 hm.1 hc Q9,h6⟩
 obtain⟨h1,h2⟩:=List.append_inj h (by rw[vP,vP])
 exact⟨WH hn.1 hm.1 h1,h2⟩
theorem oO {x:Itm}(h8:x.kind=8) (h:yy x=true) (hn:Nums x):kO x.n:=by
 refine⟨hn.n_,fun hq=>?_⟩
 simp[yy,h8,hq]at h
 exact h.2
theorem j7 {x:Itm}(h:0≤x.kind∧x.kind≤8) (h8:x.kind≠8) (h7:¬ (x.kind=7∧24≤x.n)) (r:List UInt8):zZ x++r=zh x.kind.toNat (numP x)++(x.bytes++(yx x.items++r)):=by
 rw[xh,if_neg h8,if_neg h7,List.append_assoc,List.append_assoc]
structure Fits (x:Itm) (lv:Nat):Prop where
 good:Good x lv
 small:Small x
 nums:Nums x
 cnt:cnt x≤256
theorem Fits.of {x:Itm}(h:zL x=true) (hn:Nums x):Fits x 0:=by
 rw[wX]at h
 exact⟨h.1,h.1.small h.2.2,hn,h.2.1⟩
theorem SmallL.get:∀ {l:List Itm},SmallL l→∀ x∈l,Small x
 | [],_,x,hx=>by cases hx
 | y::l,h,x,hx=>by
  rw[SmallL]at h
  rcases List.mem_cons.1 hx with rfl | hx
  ·exact h.1
  exact h.2.get x hx
theorem Small.items {x:Itm}(h:Small x):SmallL x.items:=by cases x;rw[Small]at h;exact h.2
theorem Small.bytes {x:Itm}(h:Small x):x.bytes.length≤4096:=by cases x;rw[Small]at h;exact h.1
theorem Fits.elem {x y:Itm}{lv:Nat}(h:Fits x lv) (hy:y∈x.items):Fits y (lv+1) :=
 ⟨h.good.items.get y hy,h.small.items.get y hy,h.nums.items.get y hy,by have:=jX hy;have:=pc x;have:=h.cnt;omega⟩
theorem Fits.numP {x:Itm}{lv:Nat}(h:Fits x lv):numP x<18446744073709551616:=by
 have h1:=h.small.bytes
 have h2:=mi x.items
 have h3:=pc x
 have h4:=h.cnt
 have h5:=h.nums.n_
 unfold Proofs.YtgcjjhibdbafmabGreatDoor.numP
 repeat' split
 all_goals omega
theorem di {x:Itm}{lv:Nat}(h:Good x lv) (hk:4≤x.kind∧x.kind≤6):vx x lv=true:=by
 rcases xT h.node with ⟨h1,_⟩ | ⟨_,h1⟩
 ·rw[zE]at h1;omega
 exact h1
theorem mw {x:Itm}{lv:Nat}(h:Good x lv) (hk:x.kind=0∨x.kind=1∨x.kind=2∨x.kind=3∨x.kind=7∨x.kind=8):yy x=true:=by
 rcases xT h.node with ⟨_,h1⟩ | ⟨h1,_⟩
 ·exact h1
 rw[(zE x).2 hk]at h1;cases h1
theorem ZV {x:Itm}(h:qB x=7):x.kind=7∨x.kind=8:=by
 unfold qB at h
 by_cases h8:x.kind=8
 ·exact .inr h8
 rw[if_neg h8]at h;omega
theorem Wc {x:Itm}(h:x.kind=8):qB x=7:=by rw[qB,if_pos h]
theorem RX {x:Itm}(h:x.kind=7):qB x=7:=by rw[qB,if_neg (by omega)];omega
theorem ZU {x:Itm}(h:x.kind≠8):qB x=x.kind.toNat:=by rw[qB,if_neg h]
mutual
theorem jY:∀ (x y:Itm) (lv lv':Nat) (r s:List UInt8),Fits x lv→Fits y lv'→zZ x++r=zZ y++s→x=y∧r=s
 | .mk k n bs l,y,lv,lv',r,s,hx,hy,h=>by
  have QF:=rW hx.good.node
  have Xi:=rW hy.good.node
  have ht:=Ra QF Xi h
  have Z4:=hx.numP
  have J2:=hy.numP
  by_cases h7:qB (.mk k n bs l)=7
  ·-- simple values and floats
   have ky:y.kind=7∨y.kind=8:=by
    rw[h7]at ht
    exact ZV ht.symm
   have kx:k=7∨k=8:=by
    have h7:=ZV h7
    simp only[Itm.kind]at h7 QF
    omega
   have ox:=mw hx.good (by simp only[Itm.kind];omega)
   have oy:=mw hy.good (by omega)
   have F8:∀ z:Itm,z.kind=8→zZ z=zK z.n:=fun z hz=>by rw[xh,if_pos hz]
   have F7:∀ z:Itm,z.kind=7→yy z=true→z.n<256∧z.bytes=[]∧z.items=[]∧((24≤z.n∧zZ z=[u8 248,u8 z.n])∨(z.n<24∧zZ z=[u8 (224+z.n)])):=by
    intro z hz ho
    have hi:=xz ((zE z).2 (by omega)) ho
    have hb:=hi.2 (by omega)
    have hn:z.n<256:=by simp[yy,hz]at ho;omega
    refine⟨hn,hb,hi.1, ?_⟩
    by_cases te:24≤z.n
    ·exact .inl ⟨te,by rw[xh,if_neg (by omega),if_pos ⟨hz,te⟩]⟩
    refine .inr ⟨by omega, ?_⟩
    have hp:Proofs.YtgcjjhibdbafmabGreatDoor.numP z=z.n:=by simp[Proofs.YtgcjjhibdbafmabGreatDoor.numP,hz]
    rw[xh,if_neg (by omega),if_neg (by omega),hb,hi.1,yx,hp,zh,if_pos (by omega),hz]
    rfl
   have G8:∀ z:Itm,z.kind=8→yy z=true→z.bytes=[]∧z.items=[]:=by
    intro z hz ho
    have hi:=xz ((zE z).2 (by omega)) ho
    exact⟨hi.2 (by omega),hi.1⟩
   obtain⟨k',n',bs',l'⟩:=y
   simp only[Itm.kind]at ky
   rcases kx with rfl | rfl <;> rcases ky with rfl | rfl
   ·obtain⟨a1,a2,a3,a4⟩:=F7 _ rfl ox
    obtain⟨b1,b2,b3,b4⟩:=F7 _ rfl oy
    simp only[Itm.n,Itm.bytes,Itm.items]at *
    subst a2 a3 b2 b3
    rcases a4 with ⟨a4,a5⟩ | ⟨a4,a5⟩ <;> rcases b4 with ⟨b4,b5⟩ | ⟨b4,b5⟩ <;> rw[a5,b5]at h <;> simp only[List.cons_append,List.nil_append]at h
    ·obtain⟨_,h2,h3⟩:=n7 h
     have:=vU h2
     exact⟨by congr 1;omega,h3⟩
    ·injection h with h1 _
     have:=vU h1
     omega
    ·injection h with h1 _
     have:=vU h1
     omega
    injection h with h1 h2
    have:=vU h1
    exact⟨by congr 1;omega,h2⟩
   ·obtain⟨_,_,_,a4⟩:=F7 _ rfl ox
    rw[F8 (.mk 8 n' bs' l') rfl]at h
    obtain⟨c,t,e,c1,c2⟩:=pU n'
    simp only[Itm.n]at h a4
    rw[e]at h
    rcases a4 with ⟨a4,a5⟩ | ⟨a4,a5⟩ <;> rw[a5]at h <;> simp only[List.cons_append,List.nil_append]at h <;> injection h with h1 _ <;> have:=vU h1 <;> omega
   ·obtain⟨_,_,_,a4⟩:=F7 _ rfl oy
    rw[F8 (.mk 8 n bs l) rfl]at h
    obtain⟨c,t,e,c1,c2⟩:=pU n
    simp only[Itm.n]at h a4
    rw[e]at h
    rcases a4 with ⟨a4,a5⟩ | ⟨a4,a5⟩ <;> rw[a5]at h <;> simp only[List.cons_append,List.nil_append]at h <;> injection h with h1 _ <;> have:=vU h1 <;> omega
   rw[F8 (.mk 8 n bs l) rfl,F8 (.mk 8 n' bs' l') rfl]at h
   obtain⟨a1,a2⟩:=G8 _ rfl ox
   obtain⟨b1,b2⟩:=G8 _ rfl oy
   obtain⟨h1,h2⟩:=aD (oO rfl ox hx.nums) (oO rfl oy hy.nums) h
   simp only[Itm.n,Itm.bytes,Itm.items]at *
   subst a1 a2 b1 b2 h1 h2
   exact⟨rfl,rfl⟩
  have IE:qB y≠7:=by rw[← ht];exact h7
  have kx:k≠8∧k≠7:=by
   constructor
   ·intro h8;exact h7 (Wc h8)
   intro h8;exact h7 (RX h8)
  have ky:y.kind=k:=by
   have a1:=ZU (x:=.mk k n bs l) kx.1
   have a2:=ZU (x:=y) (fun h8=>IE (Wc h8))
   simp only[Itm.kind]at a1 QF
   omega
  rw[j7 QF kx.1 (fun h=>kx.2 h.1),j7 Xi (by rw[ky];exact kx.1) (fun h=>kx.2 (by rw[← ky];exact h.1)),ky]at h
  simp only[Itm.kind,Itm.bytes,Itm.items]at h QF
  obtain⟨_,ko,hz⟩:=Y2 (by omega) (by omega) Z4 J2 h
  obtain⟨k',n',bs',l'⟩:=y
  simp only[Itm.kind]at ky
  subst ky
  simp only[Proofs.YtgcjjhibdbafmabGreatDoor.numP,Itm.kind,Itm.n,Itm.bytes,Itm.items]at ko hz
  by_cases hp:k'=0∨k'=1∨k'=2∨k'=3
  ·have ox:=mw hx.good (by simp only[Itm.kind];omega)
   have oy:=mw hy.good (by simp only[Itm.kind];omega)
   have ix:=(xz ((zE _).2 (by simp only[Itm.kind];omega)) ox).1
   have iy:=(xz ((zE _).2 (by simp only[Itm.kind];omega)) oy).1
   simp only[Itm.items]at ix iy
   subst ix iy
   rw[yx,List.nil_append,List.nil_append]at hz
   rcases hp with rfl | rfl | rfl | rfl
   ·simp[yy,Itm.kind,Itm.bytes,Itm.items]at ox oy ko
    subst ox oy ko
    exact⟨rfl,by simpa using hz⟩
   ·simp[yy,Itm.kind,Itm.bytes,Itm.items]at ox oy ko
    subst ox oy ko
    exact⟨rfl,by simpa using hz⟩
   ·simp[yy,Itm.kind,Itm.bytes,Itm.items,Itm.n]at ox oy ko
    obtain⟨h1,h2⟩:=List.append_inj hz ko
    subst ox oy h1 h2
    exact⟨rfl,rfl⟩
   simp[yy,Itm.kind,Itm.bytes,Itm.items,Itm.n]at ox oy ko
   obtain⟨h1,h2⟩:=List.append_inj hz ko
   obtain⟨ox,_⟩:=ox
   obtain⟨oy,_⟩:=oy
   subst ox oy h1 h2
   exact⟨rfl,rfl⟩
  have fx:=ww (di hx.good (by simp only[Itm.kind];omega))
  have fy:=ww (di hy.good (by simp only[Itm.kind];omega))
  simp only[Itm.kind,Itm.bytes,Itm.items,Itm.n,List.length_eq_zero_iff]at fx fy
  obtain⟨_,_,_,hb,x6,xn,x5⟩:=fx
  obtain⟨_,_,_,Ny,y6,yn,y5⟩:=fy
  subst hb Ny
  rw[List.nil_append,List.nil_append]at hz
  have iP:l.length=l'.length∧n=n':=by
   by_cases e4:k'=4
   ·have:=xn (by omega)
    have:=yn (by omega)
    simp[e4]at ko
    omega
   by_cases e5:k'=5
   ·have:=xn (by omega)
    have:=yn (by omega)
    have:=x5 e5
    have:=y5 e5
    simp[e5]at ko
    omega
   have e6:k'=6:=by omega
   have:=x6 e6
   have:=y6 e6
   simp[e6]at ko
   omega
  obtain⟨h1,h2⟩:=dg l l' (lv+1) (lv'+1) r s iP.1 (fun z hz'=>hx.elem hz') (fun z hz'=>hy.elem hz') hz
  exact⟨by rw[h1,iP.2],h2⟩
theorem dg:∀ (l m:List Itm) (lv lv':Nat) (r s:List UInt8),l.length=m.length→(∀ x∈l,Fits x lv)→(∀ x∈m,Fits x lv')→yx l++r=yx m++s→l=m∧r=s
 | [],[],_,_,r,s,_,_,_,h=>by
  rw[yx,List.nil_append,List.nil_append]at h
  exact⟨rfl,h⟩
 | [],_::_,_,_,_,_,hl,_,_,_=>by simp at hl
 | _::_,[],_,_,_,_,hl,_,_,_=>by simp at hl
 | x::l,y::m,lv,lv',r,s,hl,hx,hy,h=>by
  rw[yx,yx,List.append_assoc,List.append_assoc]at h
  obtain⟨h1,h2⟩:=jY x y lv lv' _ _ (hx x (by simp)) (hy y (by simp)) h
  obtain⟨h3,h4⟩:=dg l m lv lv' r s (by simpa using hl) (fun z hz=>hx z (by simp[hz])) (fun z hz=>hy z (by simp[hz])) h2
  exact⟨by rw[h1,h3],h4⟩
end
end Go.Proofs.YtgcjjhibdbafmabGreatDoor
