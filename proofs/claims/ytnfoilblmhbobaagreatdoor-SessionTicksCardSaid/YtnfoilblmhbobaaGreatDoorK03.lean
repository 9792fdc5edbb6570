/- squeezed. Walks: the library's Valid of a sl -/
import Derived.Test.YtnfoilblmhbobaaGreatDoorK02
import Derived.BigQuiet
set_option linter.unusedVariables false
set_option linter.unusedSimpArgs false
open List (getElem_toArray getElem_cons_zero getElem_cons_succ setIfInBounds_toArray set_cons_zero set_cons_succ)
namespace Go.Proofs.YtnfoilblmhbobaaGreatDoor
open Go.RowKit
def qx:Value→Nat
 | .slice _ n _=>n
 | _=>0
theorem SB.skipc {H:Snap}{b off:Nat}{t:ByteArray}(h:∀ j,j<t.size→H.cell? ⟨b,off+j,none⟩=some (.int .u8 ((t.get! j).toNat:Int))) (k:Nat) (hk:k≤t.size) :
  SB H (if t.size=k then some (⟨b,off,none⟩:Addr) else some ⟨b,off+k,none⟩) (t.extract k t.size):=fun h0=>by
 rw[Lib.ext_size]at h0
 rw[if_neg (by omega)]
 refine⟨b,off+k,rfl,fun j hj=>?_⟩
 rw[Lib.ext_size]at hj
 rw[Nat.add_assoc,h (k+j) (by omega),← Lib.getD_get!',← Lib.getD_get!',Lib.ext_list]
 simp[List.getD,List.getElem?_drop]
set_option maxHeartbeats 16000000 in
set_option maxRecDepth 1000000 in
theorem ll {H:Snap}(hT:Tabs H) (w:World) (hH:Holds w H) (A:Option Addr) (t0:ByteArray) (c:Nat) (hs:SB H A t0) (hc:t0.size≤c) (hm:t0.size≤9223372036854775807) :
  Calls Tryz.prog 49 #[.slice A t0.size c] w fun e w'=>e=.returned (.bool (Lib.validD t0.data.toList))∧Below w.heap.size w w':=by
 obtain⟨ANS,ZN⟩:∃ ANS,Lib.validD t0.data.toList=ANS:=⟨_,rfl⟩
 rw[ZN]
 have UN:=Lib.hid ZN
 clear ZN
 have R8:(t0.size:Int)≤c:=by omega
 go_enter Tryz.func49,Tryz.ntmps49
 go_wp2
 go_loopw [0] (fun v0 wx=>∃ (B:Option Addr) (t:ByteArray),v0=.slice B t.size t.size∧SB H B t∧Lib.validD t.data.toList=ANS∧t.size≤t0.size∧Below w.heap.size w wx) (fun v0 _=>qx v0)
 case atStart=>exact⟨A,t0,rfl,hs,UN.out,Nat.le_refl _,Below.refl _ _⟩
 case round =>
 obtain⟨B,t,rfl,Ym,hv,RH,tQ⟩:=hrel
 have HV:=Lib.hid hv
 clear hv
 by_cases h0:0<t.size
 ·obtain⟨b,off,rfl,ix⟩:=Ym h0
  have S9:(0:Int)<(t.size:Int):=by omega
  have Zw:=hH.below tQ (Nat.le_refl _)
  have c0:=Zw.cell (ix 0 h0)
  have l0:=(t.get! 0).toNat_lt
  obtain⟨x0,ax⟩:∃ x0,t.get! 0=x0:=⟨_,rfl⟩
  rw[ax]at c0 l0
  simp only[Nat.add_zero]at c0
  have bq:=Lib.hid ix
  by_cases hasc:x0.toNat<128
  ·as_aux_lemma =>
   have Ws:(x0.toNat:Int)<128:=by omega
   have Qz:(1:Int)≤(t.size:Int):=by omega
   have a1:Lib.Asc t 1:=Lib.asc_one t h0 (by rw[ax];exact hasc)
   obtain⟨t1,ny⟩:∃ t1,t.extract 1 t.size=t1:=⟨_,rfl⟩
   have zt1:t.size-1=t1.size:=by rw[← ny,Lib.ext_size]
   have sbt1:=SB.skipc ix 1 (by omega)
   rw[ny]at sbt1
   obtain⟨Bt1,sv⟩:∃ B,(if t.size=1 then some (⟨b,off,none⟩:Addr) else some ⟨b,off+1,none⟩)=B:=⟨_,rfl⟩
   rw[sv]at sbt1
   have V1:Hid (Lib.validD t1.data.toList=ANS):=by rw[Hid,← ny,Lib.valid_skip t 1 a1];exact HV.out
   have Zv:=Lib.hid (And.intro zt1 sv)
   clear ix zt1 a1 ax ny Ym sv
   go_upto_region 6 with fail
   rw[Zv.out.2,Zv.out.1]
   by_cases c8:8<t1.size
   ·have c8z:(8:Int)<(t1.size:Int):=by omega
    have c8y:(8:Int)≤(t1.size:Int):=by omega
    obtain⟨A1,WJ⟩:∃ A1,Lib.leNat [t1.get! 0,t1.get! 1,t1.get! 2,t1.get! 3,t1.get! 4,t1.get! 5,t1.get! 6,t1.get! 7]=A1:=⟨_,rfl⟩
    have lA1:A1<18446744073709551616:=WJ ▸ Lib.word_lt t1
    have cW1:∀ (c:Nat) (W:World),Holds W H→Calls Tryz.prog 59 #[.slice Bt1 t1.size c] W fun e w'=>e=.returned (.int .u64 (A1:Int))∧∃ q,w'=W.drewN q:=fun c W h=>by rw[← WJ];exact wm sbt1 (by omega) c W h
    have CW1:=Lib.hid cW1
    have kA1:=Lib.word_asc t1 (by omega)
    rw[WJ]at kA1
    clear cW1 WJ
    have eK:bits .and .u64 (A1:Int) 9259542123273814144=((A1 &&& 9259542123273814144:Nat):Int):=u64_and_nat A1 9259542123273814144 lA1 (by omega)
    obtain⟨Z1,U1⟩:∃ Z1,A1 &&& 9259542123273814144=Z1:=⟨_,rfl⟩
    rw[U1]at eK kA1
    have KA1:=Lib.hid kA1
    have X1:=Lib.hid sbt1
    clear U1 kA1 lA1 sbt1 c0 l0
    by_cases tB:Z1=0
    ·have XO:((Z1:Int)==0)=true:=by simp[tB]
     have Tf:=Lib.hid tB
     clear tB
     go_wp2_with (go_at_call 59;refine zn ?_)
     unfold zj
     refine(CW1.out _ _ Zw).mono ?_
     rintro e w5 ⟨rfl,q5,rfl⟩
     have ai:=Holds.drewN Zw q5
     have tH:=below_drewNv tQ q5
     obtain⟨b1,off1,rfl,XD⟩:=X1.out (by omega)
     obtain⟨t2,Wh⟩:∃ t2,t1.extract 8 t1.size=t2:=⟨_,rfl⟩
     have zt2:t1.size-8=t2.size:=by rw[← Wh,Lib.ext_size]
     have sbt2:=SB.skipc XD 8 (by omega)
     rw[Wh,if_neg (by omega)]at sbt2
     obtain⟨Bt2,ZO⟩:∃ B,some (⟨b1,off1+8,none⟩:Addr)=B:=⟨_,rfl⟩
     rw[ZO]at sbt2
     have V2:Hid (Lib.validD t2.data.toList=ANS):=by rw[Hid,← Wh,Lib.valid_skip t1 8 (KA1.out.1 Tf.out)];exact V1.out
     have Xe:=Lib.hid (And.intro zt2 ZO)
     generalize wr.drewN q5=wq at ai tH⊢
     clear zt2 Wh XD ZO tQ Zw CW1 KA1 Tf
     go_upto_region 8 with fail
     rw[Xe.out.2,Xe.out.1]
     by_cases c16:16<t2.size
     ·have c16z:(16:Int)<(t2.size:Int):=by omega
      have c16y:(16:Int)≤(t2.size:Int):=by omega
      have s8z:(8:Int)≤(t2.size:Int):=by omega
      have n8:(t2.size=8)=False:=eq_false (by omega)
      obtain⟨b2,off2,rfl,gu⟩:=sbt2 (by omega)
      have US:SB H (some ⟨b2,off2,none⟩) t2:=sbt2
      obtain⟨t2b,bk⟩:∃ t2b,t2.extract 8 t2.size=t2b:=⟨_,rfl⟩
      have zt2b:t2.size-8=t2b.size:=by rw[← bk,Lib.ext_size]
      have sbt2b:=SB.skipc gu 8 (by omega)
      rw[bk,if_neg (by omega)]at sbt2b
      obtain⟨o2b,bg⟩:∃ o,off2+8=o:=⟨_,rfl⟩
      rw[bg]at sbt2b
      obtain⟨A2,WK⟩:∃ A2,Lib.leNat [t2.get! 0,t2.get! 1,t2.get! 2,t2.get! 3,t2.get! 4,t2.get! 5,t2.get! 6,t2.get! 7]=A2:=⟨_,rfl⟩
      have lA2:A2<18446744073709551616:=WK ▸ Lib.word_lt t2
      have cW2:∀ (c:Nat) (W:World),Holds W H→Calls Tryz.prog 59 #[.slice (some ⟨b2,off2,none⟩) t2.size c] W fun e w'=>e=.returned (.int .u64 (A2:Int))∧∃ q,w'=W.drewN q:=fun c W h=>by rw[← WK];exact wm US (by omega) c W h
      have CW2:=Lib.hid cW2
      have kA2:=Lib.word_asc t2 (by omega)
      rw[WK]at kA2
      clear cW2 WK
      obtain⟨A3,WL⟩:∃ A3,Lib.leNat [t2b.get! 0,t2b.get! 1,t2b.get! 2,t2b.get! 3,t2b.get! 4,t2b.get! 5,t2b.get! 6,t2b.get! 7]=A3:=⟨_,rfl⟩
      have lA3:A3<18446744073709551616:=WL ▸ Lib.word_lt t2b
      have cW3:∀ (c:Nat) (W:World),Holds W H→Calls Tryz.prog 59 #[.slice (some ⟨b2,off2+8,none⟩) (t2.size-8) c] W fun e w'=>e=.returned (.int .u64 (A3:Int))∧∃ q,w'=W.drewN q:=fun c W h=>by rw[← WL,zt2b,bg];exact wm sbt2b (by omega) c W h
      have CW3:=Lib.hid cW3
      have kA3:=Lib.word_asc t2b (by omega)
      rw[WL]at kA3
      clear cW3 WL
      have XK:bits .or .u64 (A2:Int) (A3:Int)=((A2 ||| A3:Nat):Int):=u64_or_nat A2 A3 lA2 lA3
      have lor2:A2 ||| A3<18446744073709551616:=Nat.or_lt_two_pow (n:=64) lA2 lA3
      have eL:bits .and .u64 ((A2 ||| A3:Nat):Int) 9259542123273814144=(((A2 ||| A3) &&& 9259542123273814144:Nat):Int):=u64_and_nat _ 9259542123273814144 lor2 (by omega)
      have k2:(A2 ||| A3) &&& 9259542123273814144=0→Lib.Asc t2 16:=fun h0'=>by
       obtain⟨e1,e2⟩:=(Lib.or_mask A2 A3 _).1 h0'
       exact Lib.asc_add t2 8 8 (kA2.1 e1) (by rw[bk];exact kA3.1 e2)
      obtain⟨O2,vO⟩:∃ O2,A2 ||| A3=O2:=⟨_,rfl⟩
      rw[vO]at XK eL k2
      obtain⟨Z2,Y0⟩:∃ Z2,O2 &&& 9259542123273814144=Z2:=⟨_,rfl⟩
      rw[Y0]at eL k2
      have K2:=Lib.hid k2
      have Wy:=Lib.hid gu
      clear kA2 kA3 lor2 vO Y0 k2 lA2 lA3 bk sbt2b gu sbt2
      obtain⟨zz2,XP⟩:∃ zz,((Z2:Int)==0)=zz:=⟨_,rfl⟩
      have S7:=Lib.hid XP
      go_cut [0,46] (fun s0 s46 wx=>s0=.slice (some ⟨b2,off2,none⟩) t2.size t2.size∧s46=.bool zz2∧Below w.heap.size w wx)
      case first =>
       clear zt2b bg XO eK
       have hU:=ai
       have cG:=tH
       refine zp 13 (fun _=>True) (by kernel_rfl) (trivial) (fun zy=>?_)
       refine Ways.takeS (i:=0) (v:=?_) rfl (by kernel_rfl) (fun _ _ _ h=>h) (Or.inl ⟨by rfl, ?_⟩) zy ?_
       rotate_left
       ·(intro w xV;(try dsimp only at xV);go_simp;try with_reducible rfl)
       try simp only[Act.put,getElem_toArray,getElem_cons_zero,getElem_cons_succ,setIfInBounds_toArray,set_cons_zero,set_cons_succ]
       refine Ways.takeS (i:=1) (v:=?_) rfl (by kernel_rfl) (fun _ _ _ h=>h) (Or.inl ⟨by rfl, ?_⟩) zy ?_
       rotate_left
       ·(intro w xV;(try dsimp only at xV);go_simp;try with_reducible rfl)
       try simp only[Act.put,getElem_toArray,getElem_cons_zero,getElem_cons_succ,setIfInBounds_toArray,set_cons_zero,set_cons_succ]
       refine Ways.takeS (i:=2) (v:=?_) rfl (by kernel_rfl) (fun _ _ _ h=>h) (Or.inl ⟨by rfl, ?_⟩) zy ?_
       rotate_left
       ·(intro w xV;(try dsimp only at xV);go_simp;try with_reducible rfl)
       try simp only[Act.put,getElem_toArray,getElem_cons_zero,getElem_cons_succ,setIfInBounds_toArray,set_cons_zero,set_cons_succ]
       refine Ways.takeS (i:=3) (v:=?_) rfl (by kernel_rfl) (fun _ _ _ h=>h) (Or.inl ⟨by rfl, ?_⟩) zy ?_
       rotate_left
       ·(intro w xV;(try dsimp only at xV);go_simp;try with_reducible rfl)
       try simp only[Act.put,getElem_toArray,getElem_cons_zero,getElem_cons_succ,setIfInBounds_toArray,set_cons_zero,set_cons_succ]
       refine Ways.takeS (i:=4) (v:=?_) rfl (by kernel_rfl) (fun _ _ _ h=>h) (Or.inl ⟨?_, ?_⟩) zy ?_
       rotate_left
       ·kernel_rfl
       ·(intro w xV;(try dsimp only at xV);go_simp;try with_reducible rfl)
       try simp only[Act.put,getElem_toArray,getElem_cons_zero,getElem_cons_succ,setIfInBounds_toArray,set_cons_zero,set_cons_succ]
       refine Ways.takeS (i:=6) (v:=?_) rfl (by kernel_rfl) (fun _ _ _ h=>h) (Or.inl ⟨?_, ?_⟩) zy ?_
       rotate_left
       ·kernel_rfl
       ·(intro w xV;(try dsimp only at xV);go_simp;try with_reducible rfl)
       try simp only[Act.put,getElem_toArray,getElem_cons_zero,getElem_cons_succ,setIfInBounds_toArray,set_cons_zero,set_cons_succ]
       refine Ways.takeS (i:=7) (v:=?_) rfl (by kernel_rfl) (fun _ _ _ h=>h) (Or.inl ⟨?_, ?_⟩) zy ?_
       rotate_left
       ·kernel_rfl
       ·(intro w xV;(try dsimp only at xV);go_simp;try with_reducible rfl)
       try simp only[Act.put,getElem_toArray,getElem_cons_zero,getElem_cons_succ,setIfInBounds_toArray,set_cons_zero,set_cons_succ]
       refine Ways.one (i:=5) rfl (by kernel_rfl) (fun K hK=>?_)
       go_simp
       refine(CW2.out _ _ (by repeat (first | exact hU | exact hU.drew | refine Holds.drewN ?_ _))).mono ?_
       rintro e w5 ⟨rfl,q5,rfl⟩
       refine hK.out _ _ (fun _=>?_) (fun zy=>?_)
       ·exact trivial
       clear hK K
       have zy:=zy (by decide)
       try simp only[Act.put,getElem_toArray,getElem_cons_zero,getElem_cons_succ,setIfInBounds_toArray,set_cons_zero,set_cons_succ]
       refine Ways.one (i:=8) rfl (by kernel_rfl) (fun K hK=>?_)
       go_simp
       refine(CW3.out _ _ (by repeat (first | exact hU | exact hU.drew | refine Holds.drewN ?_ _))).mono ?_
       rintro e w5 ⟨rfl,q5,rfl⟩
       refine hK.out _ _ (fun _=>?_) (fun zy=>?_)
       ·exact trivial
       clear hK K
       have zy:=zy (by decide)
       try simp only[Act.put,getElem_toArray,getElem_cons_zero,getElem_cons_succ,setIfInBounds_toArray,set_cons_zero,set_cons_succ]
       refine Ways.takeS (i:=9) (v:=?_) rfl (by kernel_rfl) (fun _ _ _ h=>h) (Or.inl ⟨?_, ?_⟩) zy ?_
       rotate_left
       ·kernel_rfl
       ·(intro w xV;(try dsimp only at xV);go_simp;try with_reducible rfl)
       try simp only[Act.put,getElem_toArray,getElem_cons_zero,getElem_cons_succ,setIfInBounds_toArray,set_cons_zero,set_cons_succ]
       refine Ways.takeS (i:=10) (v:=?_) rfl (by kernel_rfl) (fun _ _ _ h=>h) (Or.inl ⟨?_, ?_⟩) zy ?_
       rotate_left
       ·kernel_rfl
       ·(intro w xV;(try dsimp only at xV);go_simp;try with_reducible rfl)
       try simp only[Act.put,getElem_toArray,getElem_cons_zero,getElem_cons_succ,setIfInBounds_toArray,set_cons_zero,set_cons_succ]
       refine Ways.takeS (i:=11) (v:=?_) rfl (by kernel_rfl) (fun _ _ _ h=>h) (Or.inl ⟨?_, ?_⟩) zy ?_
       rotate_left
       ·kernel_rfl
       ·(intro w xV;(try dsimp only at xV);go_simp;try with_reducible rfl)
       try simp only[Act.put,getElem_toArray,getElem_cons_zero,getElem_cons_succ,setIfInBounds_toArray,set_cons_zero,set_cons_succ]
       refine Ways.takeS (i:=12) (v:=?_) rfl (by kernel_rfl) (fun _ _ _ h=>h) (Or.inl ⟨by rfl, ?_⟩) zy ?_
       rotate_left
       ·(intro w xV;(try dsimp only at xV);go_simp;try with_reducible rfl)
       try simp only[Act.put,getElem_toArray,getElem_cons_zero,getElem_cons_succ,setIfInBounds_toArray,set_cons_zero,set_cons_succ]
       refine Ways.done (by kernel_rfl) ?_
       go_wp2_with fail
       go_meet
       exact⟨rfl,rfl,by repeat (first | exact cG | exact cG.drew | refine below_drewNv ?_ _)⟩
      case rest =>
      clear tH ai
      obtain⟨rfl,rfl,tH⟩:=hcut
      have ai:=hH.below tH (Nat.le_refl _)
      cases zz2 with
      | true =>
       have qn:Z2=0:=by have:=S7.out;simpa using this
       have gu:=Wy.out
       obtain⟨t3,Wi⟩:∃ t3,t2.extract 16 t2.size=t3:=⟨_,rfl⟩
       have zt3:t2.size-16=t3.size:=by rw[← Wi,Lib.ext_size]
       have sbt3:=SB.skipc gu 16 (by omega)
       rw[Wi,if_neg (by omega)]at sbt3
       obtain⟨Bt3,ZP⟩:∃ B,some (⟨b2,off2+16,none⟩:Addr)=B:=⟨_,rfl⟩
       rw[ZP]at sbt3
       have V3:Hid (Lib.validD t3.data.toList=ANS):=by rw[Hid,← Wi,Lib.valid_skip t2 16 (K2.out qn)];exact V2.out
       have TY:=Lib.hid (And.intro zt3 ZP)
       have wC:=Lib.hid (show t3.size<t.size∧t3.size≤t0.size by have:=Zv.out.1;have:=Xe.out.1;omega)
       clear zt3 Wi ZP gu eL XK XP qn CW2 CW3 eK zt2b bg
       go_wp2_with fail
       rw[TY.out.2,TY.out.1]
       go_loopw [0] (fun v0 wx=>∃ (B:Option Addr) (u:ByteArray),v0=.slice B u.size u.size∧SB H B u∧Lib.validD u.data.toList=ANS∧u.size≤t3.size∧Below w.heap.size w wx) (fun v0 _=>qx v0)
       case atStart=>exact⟨_,t3,rfl,sbt3,V3.out,Nat.le_refl _,tH⟩
       case round =>
       clear sbt3 tH ai
       obtain⟨BU,u,rfl,sbu,UG,RJ,tH⟩:=hrel
       have VU:=Lib.hid UG
       clear UG
       have ai:=hH.below tH (Nat.le_refl _)
       by_cases c32:32<u.size
       ·have c32z:(32:Int)<(u.size:Int):=by omega
        have c32y:(32:Int)≤(u.size:Int):=by omega
        have s8u:(8:Int)≤(u.size:Int):=by omega
        have s16u:(16:Int)≤(u.size:Int):=by omega
        have s24u:(24:Int)≤(u.size:Int):=by omega
        have n8u:(u.size=8)=False:=eq_false (by omega)
        have n16u:(u.size=16)=False:=eq_false (by omega)
        have n24u:(u.size=24)=False:=eq_false (by omega)
        obtain⟨bu,ou,rfl,cI⟩:=sbu (by omega)
        obtain⟨ub,Wl⟩:∃ ub,u.extract 8 u.size=ub:=⟨_,rfl⟩
        have zub:u.size-8=ub.size:=by rw[← Wl,Lib.ext_size]
        have sbub:=SB.skipc cI 8 (by omega)
        rw[Wl,if_neg (by omega)]at sbub
        obtain⟨oub,bh⟩:∃ o,ou+8=o:=⟨_,rfl⟩
        rw[bh]at sbub
        obtain⟨uc,Wm⟩:∃ uc,u.extract 16 u.size=uc:=⟨_,rfl⟩
        have zuc:u.size-16=uc.size:=by rw[← Wm,Lib.ext_size]
        have sbuc:=SB.skipc cI 16 (by omega)
        rw[Wm,if_neg (by omega)]at sbuc
        obtain⟨ouc,bi⟩:∃ o,ou+16=o:=⟨_,rfl⟩
        rw[bi]at sbuc
        obtain⟨ud,Wn⟩:∃ ud,u.extract 24 u.size=ud:=⟨_,rfl⟩
        have zud:u.size-24=ud.size:=by rw[← Wn,Lib.ext_size]
        have sbud:=SB.skipc cI 24 (by omega)
        rw[Wn,if_neg (by omega)]at sbud
        obtain⟨oud,bj⟩:∃ o,ou+24=o:=⟨_,rfl⟩
        rw[bj]at sbud
        obtain⟨A4,WM⟩:∃ A4,Lib.leNat [u.get! 0,u.get! 1,u.get! 2,u.get! 3,u.get! 4,u.get! 5,u.get! 6,u.get! 7]=A4:=⟨_,rfl⟩
        have lA4:A4<18446744073709551616:=WM ▸ Lib.word_lt u
        have cW4:∀ (c:Nat) (W:World),Holds W H→Calls Tryz.prog 59 #[.slice (some ⟨bu,ou,none⟩) u.size c] W fun e w'=>e=.returned (.int .u64 (A4:Int))∧∃ q,w'=W.drewN q:=fun c W h=>by rw[← WM];exact wm (fun _=>⟨bu,ou,rfl,cI⟩) (by omega) c W h
        have CW4:=Lib.hid cW4
        have kA4:=Lib.word_asc u (by omega)
        rw[WM]at kA4
        clear cW4 WM
        obtain⟨A5,WN⟩:∃ A5,Lib.leNat [ub.get! 0,ub.get! 1,ub.get! 2,ub.get! 3,ub.get! 4,ub.get! 5,ub.get! 6,ub.get! 7]=A5:=⟨_,rfl⟩
        have lA5:A5<18446744073709551616:=WN ▸ Lib.word_lt ub
        have cW5:∀ (c:Nat) (W:World),Holds W H→Calls Tryz.prog 59 #[.slice (some ⟨bu,ou+8,none⟩) (u.size-8) c] W fun e w'=>e=.returned (.int .u64 (A5:Int))∧∃ q,w'=W.drewN q:=fun c W h=>by rw[← WN,zub,bh];exact wm sbub (by omega) c W h
        have CW5:=Lib.hid cW5
        have kA5:=Lib.word_asc ub (by omega)
        rw[WN]at kA5
        clear cW5 WN
        obtain⟨A6,WO⟩:∃ A6,Lib.leNat [uc.get! 0,uc.get! 1,uc.get! 2,uc.get! 3,uc.get! 4,uc.get! 5,uc.get! 6,uc.get! 7]=A6:=⟨_,rfl⟩
        have lA6:A6<18446744073709551616:=WO ▸ Lib.word_lt uc
        have cW6:∀ (c:Nat) (W:World),Holds W H→Calls Tryz.prog 59 #[.slice (some ⟨bu,ou+16,none⟩) (u.size-16) c] W fun e w'=>e=.returned (.int .u64 (A6:Int))∧∃ q,w'=W.drewN q:=fun c W h=>by rw[← WO,zuc,bi];exact wm sbuc (by omega) c W h
        have CW6:=Lib.hid cW6
        have kA6:=Lib.word_asc uc (by omega)
        rw[WO]at kA6
        clear cW6 WO
        obtain⟨A7,WP⟩:∃ A7,Lib.leNat [ud.get! 0,ud.get! 1,ud.get! 2,ud.get! 3,ud.get! 4,ud.get! 5,ud.get! 6,ud.get! 7]=A7:=⟨_,rfl⟩
        have lA7:A7<18446744073709551616:=WP ▸ Lib.word_lt ud
        have cW7:∀ (c:Nat) (W:World),Holds W H→Calls Tryz.prog 59 #[.slice (some ⟨bu,ou+24,none⟩) (u.size-24) c] W fun e w'=>e=.returned (.int .u64 (A7:Int))∧∃ q,w'=W.drewN q:=fun c W h=>by rw[← WP,zud,bj];exact wm sbud (by omega) c W h
        have CW7:=Lib.hid cW7
        have kA7:=Lib.word_asc ud (by omega)
        rw[WP]at kA7
        clear cW7 WP
        have Wg:bits .or .u64 (A4:Int) (A5:Int)=((A4 ||| A5:Nat):Int):=u64_or_nat A4 A5 lA4 lA5
        have YD:bits .or .u64 (A6:Int) (A7:Int)=((A6 ||| A7:Nat):Int):=u64_or_nat A6 A7 lA6 lA7
        have lo1:A4 ||| A5<18446744073709551616:=Nat.or_lt_two_pow (n:=64) lA4 lA5
        have lo2:A6 ||| A7<18446744073709551616:=Nat.or_lt_two_pow (n:=64) lA6 lA7
        have Vo:bits .or .u64 ((A4 ||| A5:Nat):Int) ((A6 ||| A7:Nat):Int)=(((A4 ||| A5) ||| (A6 ||| A7):Nat):Int):=u64_or_nat _ _ lo1 lo2
        have lo3:(A4 ||| A5) ||| (A6 ||| A7)<18446744073709551616:=Nat.or_lt_two_pow (n:=64) lo1 lo2
        have iZ:bits .and .u64 (((A4 ||| A5) ||| (A6 ||| A7):Nat):Int) 9259542123273814144=((((A4 ||| A5) ||| (A6 ||| A7)) &&& 9259542123273814144:Nat):Int):=u64_and_nat _ 9259542123273814144 lo3 (by omega)
        have k3:((A4 ||| A5) ||| (A6 ||| A7)) &&& 9259542123273814144=0→Lib.Asc u 32:=fun h0'=>by
         obtain⟨e01,e23⟩:=(Lib.or_mask _ _ _).1 h0'
         obtain⟨e0,e1⟩:=(Lib.or_mask _ _ _).1 e01
         obtain⟨e2,e3⟩:=(Lib.or_mask _ _ _).1 e23
         have s16:Lib.Asc u 16:=Lib.asc_add u 8 8 (kA4.1 e0) (by rw[Wl];exact kA5.1 e1)
         have s24:Lib.Asc u 24:=Lib.asc_add u 16 8 s16 (by rw[Wm];exact kA6.1 e2)
         exact Lib.asc_add u 24 8 s24 (by rw[Wn];exact kA7.1 e3)
        obtain⟨P1,mj⟩:∃ P1,A4 ||| A5=P1:=⟨_,rfl⟩
        obtain⟨P2,Zx⟩:∃ P2,A6 ||| A7=P2:=⟨_,rfl⟩
        rw[mj,Zx]at Vo iZ k3
        rw[mj]at Wg
        rw[Zx]at YD
        obtain⟨P3,kU⟩:∃ P3,P1 ||| P2=P3:=⟨_,rfl⟩
        rw[kU]at Vo iZ k3
        obtain⟨Z3,U2⟩:∃ Z3,P3 &&& 9259542123273814144=Z3:=⟨_,rfl⟩
        rw[U2]at iZ k3
        have K3:=Lib.hid k3
        have TG:=Lib.hid cI
        clear kA4 kA5 kA6 kA7 lo1 lo2 lo3 mj Zx kU U2 k3 Wl sbub Wm sbuc Wn sbud lA4 lA5 lA6 lA7 cI sbu
        obtain⟨zz3,XQ⟩:∃ zz,((Z3:Int)==0)=zz:=⟨_,rfl⟩
        have S5:=Lib.hid XQ
        go_upto_region 10 with fail
        go_cut [0,69] (fun s0 s69 wx=>s0=.slice (some ⟨bu,ou,none⟩) u.size u.size∧s69=.bool zz3∧Below w.heap.size w wx)
        case first =>
         clear zub zuc zud bh bi bj
         have hU:=ai
         have cG:=tH
         refine zp 21 (fun _=>True) (by kernel_rfl) (trivial) (fun zy=>?_)
         refine Ways.takeS (i:=0) (v:=?_) rfl (by kernel_rfl) (fun _ _ _ h=>h) (Or.inl ⟨by rfl, ?_⟩) zy ?_
         rotate_left
         ·(intro w xV;(try dsimp only at xV);go_simp;try with_reducible rfl)
         try simp only[Act.put,getElem_toArray,getElem_cons_zero,getElem_cons_succ,setIfInBounds_toArray,set_cons_zero,set_cons_succ]
         refine Ways.takeS (i:=1) (v:=?_) rfl (by kernel_rfl) (fun _ _ _ h=>h) (Or.inl ⟨by rfl, ?_⟩) zy ?_
         rotate_left
         ·(intro w xV;(try dsimp only at xV);go_simp;try with_reducible rfl)
         try simp only[Act.put,getElem_toArray,getElem_cons_zero,getElem_cons_succ,setIfInBounds_toArray,set_cons_zero,set_cons_succ]
         refine Ways.takeS (i:=2) (v:=?_) rfl (by kernel_rfl) (fun _ _ _ h=>h) (Or.inl ⟨by rfl, ?_⟩) zy ?_
         rotate_left
         ·(intro w xV;(try dsimp only at xV);go_simp;try with_reducible rfl)
         try simp only[Act.put,getElem_toArray,getElem_cons_zero,getElem_cons_succ,setIfInBounds_toArray,set_cons_zero,set_cons_succ]
         refine Ways.takeS (i:=3) (v:=?_) rfl (by kernel_rfl) (fun _ _ _ h=>h) (Or.inl ⟨by rfl, ?_⟩) zy ?_
         rotate_left
         ·(intro w xV;(try dsimp only at xV);go_simp;try with_reducible rfl)
         try simp only[Act.put,getElem_toArray,getElem_cons_zero,getElem_cons_succ,setIfInBounds_toArray,set_cons_zero,set_cons_succ]
         refine Ways.takeS (i:=4) (v:=?_) rfl (by kernel_rfl) (fun _ _ _ h=>h) (Or.inl ⟨?_, ?_⟩) zy ?_
         rotate_left
         ·kernel_rfl
         ·(intro w xV;(try dsimp only at xV);go_simp;try with_reducible rfl)
         try simp only[Act.put,getElem_toArray,getElem_cons_zero,getElem_cons_succ,setIfInBounds_toArray,set_cons_zero,set_cons_succ]
         refine Ways.takeS (i:=6) (v:=?_) rfl (by kernel_rfl) (fun _ _ _ h=>h) (Or.inl ⟨?_, ?_⟩) zy ?_
         rotate_left
         ·kernel_rfl
         ·(intro w xV;(try dsimp only at xV);go_simp;try with_reducible rfl)
         try simp only[Act.put,getElem_toArray,getElem_cons_zero,getElem_cons_succ,setIfInBounds_toArray,set_cons_zero,set_cons_succ]
         refine Ways.takeS (i:=7) (v:=?_) rfl (by kernel_rfl) (fun _ _ _ h=>h) (Or.inl ⟨?_, ?_⟩) zy ?_
         rotate_left
         ·kernel_rfl
         ·(intro w xV;(try dsimp only at xV);go_simp;try with_reducible rfl)
         try simp only[Act.put,getElem_toArray,getElem_cons_zero,getElem_cons_succ,setIfInBounds_toArray,set_cons_zero,set_cons_succ]
         refine Ways.takeS (i:=10) (v:=?_) rfl (by kernel_rfl) (fun _ _ _ h=>h) (Or.inl ⟨?_, ?_⟩) zy ?_
         rotate_left
         ·kernel_rfl
         ·(intro w xV;(try dsimp only at xV);go_simp;try with_reducible rfl)
         try simp only[Act.put,getElem_toArray,getElem_cons_zero,getElem_cons_succ,setIfInBounds_toArray,set_cons_zero,set_cons_succ]
         refine Ways.takeS (i:=11) (v:=?_) rfl (by kernel_rfl) (fun _ _ _ h=>h) (Or.inl ⟨?_, ?_⟩) zy ?_
         rotate_left
         ·kernel_rfl
         ·(intro w xV;(try dsimp only at xV);go_simp;try with_reducible rfl)
         try simp only[Act.put,getElem_toArray,getElem_cons_zero,getElem_cons_succ,setIfInBounds_toArray,set_cons_zero,set_cons_succ]
         refine Ways.takeS (i:=13) (v:=?_) rfl (by kernel_rfl) (fun _ _ _ h=>h) (Or.inl ⟨?_, ?_⟩) zy ?_
         rotate_left
         ·kernel_rfl
         ·(intro w xV;(try dsimp only at xV);go_simp;try with_reducible rfl)
         try simp only[Act.put,getElem_toArray,getElem_cons_zero,getElem_cons_succ,setIfInBounds_toArray,set_cons_zero,set_cons_succ]
         refine Ways.takeS (i:=14) (v:=?_) rfl (by kernel_rfl) (fun _ _ _ h=>h) (Or.inl ⟨?_, ?_⟩) zy ?_
         rotate_left
         ·kernel_rfl
         ·(intro w xV;(try dsimp only at xV);go_simp;try with_reducible rfl)
         try simp only[Act.put,getElem_toArray,getElem_cons_zero,getElem_cons_succ,setIfInBounds_toArray,set_cons_zero,set_cons_succ]
         refine Ways.one (i:=5) rfl (by kernel_rfl) (fun K hK=>?_)
         go_simp
         refine(CW4.out _ _ (by repeat (first | exact hU | exact hU.drew | refine Holds.drewN ?_ _))).mono ?_
         rintro e w5 ⟨rfl,q5,rfl⟩
         refine hK.out _ _ (fun _=>?_) (fun zy=>?_)
         ·exact trivial
         clear hK K
         have zy:=zy (by decide)
         try simp only[Act.put,getElem_toArray,getElem_cons_zero,getElem_cons_succ,setIfInBounds_toArray,set_cons_zero,set_cons_succ]
         refine Ways.one (i:=8) rfl (by kernel_rfl) (fun K hK=>?_)
         go_simp
         refine(CW5.out _ _ (by repeat (first | exact hU | exact hU.drew | refine Holds.drewN ?_ _))).mono ?_
         rintro e w5 ⟨rfl,q5,rfl⟩
         refine hK.out _ _ (fun _=>?_) (fun zy=>?_)
         ·exact trivial
         clear hK K
         have zy:=zy (by decide)
         try simp only[Act.put,getElem_toArray,getElem_cons_zero,getElem_cons_succ,setIfInBounds_toArray,set_cons_zero,set_cons_succ]
         refine Ways.takeS (i:=9) (v:=?_) rfl (by kernel_rfl) (fun _ _ _ h=>h) (Or.inl ⟨?_, ?_⟩) zy ?_
         rotate_left
         ·kernel_rfl
         ·(intro w xV;(try dsimp only at xV);go_simp;try with_reducible rfl)
         try simp only[Act.put,getElem_toArray,getElem_cons_zero,getElem_cons_succ,setIfInBounds_toArray,set_cons_zero,set_cons_succ]
         refine Ways.one (i:=12) rfl (by kernel_rfl) (fun K hK=>?_)
         go_simp
         refine(CW6.out _ _ (by repeat (first | exact hU | exact hU.drew | refine Holds.drewN ?_ _))).mono ?_
         rintro e w5 ⟨rfl,q5,rfl⟩
         refine hK.out _ _ (fun _=>?_) (fun zy=>?_)
         ·exact trivial
         clear hK K
         have zy:=zy (by decide)
         try simp only[Act.put,getElem_toArray,getElem_cons_zero,getElem_cons_succ,setIfInBounds_toArray,set_cons_zero,set_cons_succ]
         refine Ways.one (i:=15) rfl (by kernel_rfl) (fun K hK=>?_)
         go_simp
         refine(CW7.out _ _ (by repeat (first | exact hU | exact hU.drew | refine Holds.drewN ?_ _))).mono ?_
         rintro e w5 ⟨rfl,q5,rfl⟩
         refine hK.out _ _ (fun _=>?_) (fun zy=>?_)
         ·exact trivial
         clear hK K
         have zy:=zy (by decide)
         try simp only[Act.put,getElem_toArray,getElem_cons_zero,getElem_cons_succ,setIfInBounds_toArray,set_cons_zero,set_cons_succ]
         refine Ways.takeS (i:=16) (v:=?_) rfl (by kernel_rfl) (fun _ _ _ h=>h) (Or.inl ⟨?_, ?_⟩) zy ?_
         rotate_left
         ·kernel_rfl
         ·(intro w xV;(try dsimp only at xV);go_simp;try with_reducible rfl)
         try simp only[Act.put,getElem_toArray,getElem_cons_zero,getElem_cons_succ,setIfInBounds_toArray,set_cons_zero,set_cons_succ]
         refine Ways.takeS (i:=17) (v:=?_) rfl (by kernel_rfl) (fun _ _ _ h=>h) (Or.inl ⟨?_, ?_⟩) zy ?_
         rotate_left
         ·kernel_rfl
         ·(intro w xV;(try dsimp only at xV);go_simp;try with_reducible rfl)
         try simp only[Act.put,getElem_toArray,getElem_cons_zero,getElem_cons_succ,setIfInBounds_toArray,set_cons_zero,set_cons_succ]
         refine Ways.takeS (i:=18) (v:=?_) rfl (by kernel_rfl) (fun _ _ _ h=>h) (Or.inl ⟨?_, ?_⟩) zy ?_
         rotate_left
         ·kernel_rfl
         ·(intro w xV;(try dsimp only at xV);go_simp;try with_reducible rfl)
         try simp only[Act.put,getElem_toArray,getElem_cons_zero,getElem_cons_succ,setIfInBounds_toArray,set_cons_zero,set_cons_succ]
         refine Ways.takeS (i:=19) (v:=?_) rfl (by kernel_rfl) (fun _ _ _ h=>h) (Or.inl ⟨?_, ?_⟩) zy ?_
         rotate_left
         ·kernel_rfl
         ·(intro w xV;(try dsimp only at xV);go_simp;try with_reducible rfl)
         try simp only[Act.put,getElem_toArray,getElem_cons_zero,getElem_cons_succ,setIfInBounds_toArray,set_cons_zero,set_cons_succ]
         refine Ways.takeS (i:=20) (v:=?_) rfl (by kernel_rfl) (fun _ _ _ h=>h) (Or.inl ⟨by rfl, ?_⟩) zy ?_
         rotate_left
         ·(intro w xV;(try dsimp only at xV);go_simp;try with_reducible rfl)
         try simp only[Act.put,getElem_toArray,getElem_cons_zero,getElem_cons_succ,setIfInBounds_toArray,set_cons_zero,set_cons_succ]
         refine Ways.done (by kernel_rfl) ?_
         go_wp2_with fail
         go_meet
         exact⟨rfl,rfl,by repeat (first | exact cG | exact cG.drew | refine below_drewNv ?_ _)⟩
        case rest =>
        clear tH ai
        obtain⟨rfl,rfl,tH⟩:=hcut
        cases zz3 with
        | true =>
         have fd:Z3=0:=by have:=S5.out;simpa using this
         have cI:=TG.out
         obtain⟨u2,Wj⟩:∃ u2,u.extract 32 u.size=u2:=⟨_,rfl⟩
         have zu2:u.size-32=u2.size:=by rw[← Wj,Lib.ext_size]
         have sbu2:=SB.skipc cI 32 (by omega)
         rw[Wj,if_neg (by omega)]at sbu2
         obtain⟨Bu2,ZQ⟩:∃ B,some (⟨bu,ou+32,none⟩:Addr)=B:=⟨_,rfl⟩
         rw[ZQ]at sbu2
         have VU2:Hid (Lib.validD u2.data.toList=ANS):=by rw[Hid,← Wj,Lib.valid_skip u 32 (K3.out fd)];exact VU.out
         have Ta:=Lib.hid (And.intro zu2 ZQ)
         have TR:=Lib.hid (show u2.size<u.size∧u2.size≤t3.size by omega)
         clear zu2 Wj ZQ cI fd XQ iZ Wg YD Vo zub zuc zud bh bi bj
         go_wp2_with fail
         rw[Ta.out.2,Ta.out.1]
         go_roundw
         case rel=>exact⟨_,u2,rfl,sbu2,VU2.out,TR.out.2,tH⟩
         case measure=>have:=TR.out.1;simp[qx];omega
        | false =>
        have Yo:SB H (some ⟨bu,ou,none⟩) u:=fun _=>⟨bu,ou,rfl,TG.out⟩
        have ae:=Lib.hid (show u.size<t.size∧u.size≤t0.size by have:=wC.out;omega)
        go_wp2_with fail
        go_roundw
        case rel=>exact⟨_,u,rfl,Yo,VU.out,ae.out.2,tH⟩
        case measure=>have:=ae.out.1;simp[qx];omega
       have c32z:¬ ((32:Int)<(u.size:Int)):=by omega
       have c32b:decide ((32:Int)<(u.size:Int))=false:=decide_eq_false c32z
       have ae:=Lib.hid (show u.size<t.size∧u.size≤t0.size by have:=wC.out;omega)
       go_upto_region 10 with fail
       go_big_quiet (fail)
       have tH:=below_drewNv tH nq
       go_wp2_with fail
       go_roundw
       case rel=>exact⟨_,u,rfl,sbu,VU.out,ae.out.2,tH⟩
       case measure=>have:=ae.out.1;simp[qx];omega
      | false =>
      have Yo:SB H (some ⟨b2,off2,none⟩) t2:=fun _=>⟨b2,off2,rfl,Wy.out⟩
      have wC:=Lib.hid (show t2.size<t.size∧t2.size≤t0.size by have:=Zv.out.1;have:=Xe.out.1;omega)
      go_wp2_with fail
      go_roundw
      case rel=>exact⟨_,t2,rfl,Yo,V2.out,wC.out.2,tH⟩
      case measure=>have:=wC.out.1;simp[qx];omega
     have c16z:¬ ((16:Int)<(t2.size:Int)):=by omega
     have c16b:decide ((16:Int)<(t2.size:Int))=false:=decide_eq_false c16z
     have wC:=Lib.hid (show t2.size<t.size∧t2.size≤t0.size by have:=Zv.out.1;have:=Xe.out.1;omega)
     go_big_quiet (fail)
     have tH:=below_drewNv tH nq
     go_wp2_with fail
     go_roundw
     case rel=>exact⟨_,t2,rfl,sbt2,V2.out,wC.out.2,tH⟩
     case measure=>have:=wC.out.1;simp[qx];omega
    have XO:((Z1:Int)==0)=false:=by simp;omega
    have wC:=Lib.hid (show t1.size<t.size∧t1.size≤t0.size by have:=Zv.out.1;omega)
    go_wp2_with (go_at_call 59;refine zn ?_)
    unfold zj
    refine(CW1.out _ _ Zw).mono ?_
    rintro e w5 ⟨rfl,q5,rfl⟩
    have tH:=below_drewNv tQ q5
    go_wp2_with fail
    go_roundw
    case rel=>exact⟨_,t1,rfl,X1.out,V1.out,wC.out.2,tH⟩
    case measure=>have:=wC.out.1;simp[qx];omega
   have c8z:¬ ((8:Int)<(t1.size:Int)):=by omega
   have wC:=Lib.hid (show t1.size<t.size∧t1.size≤t0.size by have:=Zv.out.1;omega)
   go_wp2_with fail
   go_roundw
   case rel=>exact⟨_,t1,rfl,sbt1,V1.out,wC.out.2,tQ⟩
   case measure=>have:=wC.out.1;simp[qx];omega
  have kr:128≤x0.toNat:=by omega
  have Ws:¬ ((x0.toNat:Int)<128):=by omega
  obtain⟨x1,sW⟩:∃ x1,t.get! 1=x1:=⟨_,rfl⟩
  obtain⟨x2,o2⟩:∃ x2,t.get! 2=x2:=⟨_,rfl⟩
  obtain⟨x3,aT⟩:∃ x3,t.get! 3=x3:=⟨_,rfl⟩
  have l1:=x1.toNat_lt;have l2:=x2.toNat_lt;have l3:=x3.toNat_lt
  have ww:t.data.toList≠[]:=fun h=>by rw[Lib.size_eq,h]at h0;simp at h0
  have yp:=Lib.validD_lead t.data.toList ww (by rw[Lib.getD_get!',ax];exact kr)
  rw[Lib.getD_get!',Lib.getD_get!',Lib.getD_get!',Lib.getD_get!',ax,sW,o2,aT,← Lib.size_eq,HV.out]at yp
  have om:=hT wr Zw
  have Se:=om.1 x0.toNat (by omega)
  have XB:Lib.firstT x0.toNat<256:=by rcases Lib.firstT_cases x0.toNat with h | h | h | h | h | h | h | h | h <;> omega
  obtain⟨X,hX⟩:∃ X,Lib.firstT x0.toNat=X:=⟨_,rfl⟩
  rw[hX]at Se XB yp
  have h7:=and7 ⟨X,XB⟩
  simp only at h7
  have mq:wr.cell? ⟨1,X/16*2,none⟩=some (.int .u8 (Lib.accLo (X/16))):=by rw[Nat.mul_comm];exact(om.2 (X/16) (by omega)).1
  have Sc:wr.cell? ⟨1,X/16*2+1,none⟩=some (.int .u8 (Lib.accHi (X/16))):=by rw[Nat.mul_comm];exact(om.2 (X/16) (by omega)).2
  obtain⟨LO,Tr⟩:∃ LO,Lib.accLo (X/16)=LO:=⟨_,rfl⟩
  obtain⟨HI,Tl⟩:∃ HI,Lib.accHi (X/16)=HI:=⟨_,rfl⟩
  rw[Tr]at mq yp
  rw[Tl]at Sc yp
  obtain⟨SZ,SX⟩:∃ SZ,X%8=SZ:=⟨_,rfl⟩
  rw[SX]at yp
  have cg:=Blk.new wr 104 #[.int .u8 (LO:Int),.int .u8 (HI:Int)]
  have pR:=tQ.alloc tQ.size (.cells #[.int .u8 (LO:Int),.int .u8 (HI:Int)] 104)
  have mi:=Zw.alloc (.cells #[.int .u8 (LO:Int),.int .u8 (HI:Int)] 104)
  obtain⟨N,hN⟩:∃ N,wr.heap.size=N:=⟨_,rfl⟩
  rw[hN]at cg
  clear om hX Tr Tl ww Ym ix
  by_cases s2:SZ=2
  ·as_aux_lemma =>
   subst s2
   have X8:(X:Int)%8=2:=by omega
   simp only[Lib.checkN,Nat.reduceEqDiff,if_true,if_false]at yp
   have kp:=Lib.hid yp
   clear yp
   go_upto_region 18 with fail
   generalize wr.alloc (.cells #[.int .u8 (LO:Int),.int .u8 (HI:Int)] 104)=wN at cg pR mi⊢
   have n0:=cg.cell 0 rfl
   have n1:=cg.cell 1 rfl
   go_cut [103] (fun cc wx=>cc=.bool (decide (t.size<2∨x1.toNat<LO∨HI<x1.toNat))∧Below w.heap.size w wx)
   case first =>
    by_cases q0:t.size<2
    ·have q0z:(t.size:Int)<2:=by omega
     go_big_quiet (fail)
     go_wp2_with fail
     go_meet
     exact⟨congrArg Value.bool (decide_eq_true (p:=t.size<2∨x1.toNat<LO∨HI<x1.toNat) (by omega)).symm,below_drewNv pR nq⟩
    have q0z:¬ ((t.size:Int)<2):=by omega
    have q0b:decide ((t.size:Int)<2)=false:=decide_eq_false q0z
    have tB:(1:Int)<(t.size:Int):=by omega
    have ky:1<t.size:=by omega
    have d1:wN.cell? ⟨b,off+1,none⟩=some (.int .u8 (x1.toNat:Int)):=by rw[← sW];exact mi.cell (bq.out 1 (by omega))
    by_cases q1:x1.toNat<LO
    ·have q1z:((x1.toNat:Int)<(LO:Int)):=by omega
     go_big_quiet (fail)
     go_wp2_with fail
     go_meet
     exact⟨congrArg Value.bool (decide_eq_true (p:=t.size<2∨x1.toNat<LO∨HI<x1.toNat) (by omega)).symm,below_drewNv pR nq⟩
    have q1z:¬ ((x1.toNat:Int)<(LO:Int)):=by omega
    have q1b:decide ((x1.toNat:Int)<(LO:Int))=false:=decide_eq_false q1z
    by_cases q2:HI<x1.toNat
    ·have q2z:((HI:Int)<(x1.toNat:Int)):=by omega
     go_big_quiet (fail)
     go_wp2_with fail
     go_meet
     exact⟨congrArg Value.bool (decide_eq_true (p:=t.size<2∨x1.toNat<LO∨HI<x1.toNat) (by omega)).symm,below_drewNv pR nq⟩
    have q2z:¬ ((HI:Int)<(x1.toNat:Int)):=by omega
    have q2b:decide ((HI:Int)<(x1.toNat:Int))=false:=decide_eq_false q2z
    go_big_quiet (fail)
    go_wp2_with fail
    go_meet
    exact⟨congrArg Value.bool (decide_eq_false (p:=t.size<2∨x1.toNat<LO∨HI<x1.toNat) (by omega)).symm,below_drewNv pR nq⟩
   case rest =>
   obtain⟨rfl,tH⟩:=hcut
   by_cases hb:t.size<2∨x1.toNat<LO∨HI<x1.toNat
   ·have mr:decide (t.size<2∨x1.toNat<LO∨HI<x1.toNat)=true:=decide_eq_true hb
    have yp:=kp.out
    rw[if_pos hb]at yp
    rw[mr]
    clear hb mr kp n0 n1
    go_wp2_with fail
    go_ret
    exact⟨by first | rfl | rw[yp],tH⟩
   have mr:decide (t.size<2∨x1.toNat<LO∨HI<x1.toNat)=false:=decide_eq_false hb
   have yp:=kp.out
   rw[if_neg hb]at yp
   rw[mr]
   have iB:(2:Int)≤(t.size:Int):=by omega
   have ix:=bq.out
   obtain⟨t1,ny⟩:∃ t1,t.extract 2 t.size=t1:=⟨_,rfl⟩
   have zt1:t.size-2=t1.size:=by rw[← ny,Lib.ext_size]
   have sbt1:=SB.skipc ix 2 (by omega)
   rw[ny]at sbt1
   obtain⟨Bt1,sv⟩:∃ B,(if t.size=2 then some (⟨b,off,none⟩:Addr) else some ⟨b,off+2,none⟩)=B:=⟨_,rfl⟩
   rw[sv]at sbt1
   have HE:=Lib.hid (And.intro zt1 sv)
   have Xg:=Lib.hid (show Lib.validD t1.data.toList=ANS by rw[← ny,Lib.ext_list,yp])
   have wC:=Lib.hid (show t1.size<t.size∧t1.size≤t0.size by omega)
   clear hb mr kp yp zt1 sv ny ix n0 n1
   go_wp2_with fail
   go_roundw
   case rel=>exact⟨Bt1,t1,by rw[HE.out.1,HE.out.2],sbt1,Xg.out,wC.out.2,tH⟩
   case measure=>have:=wC.out.1;have:=HE.out.1;simp[qx];omega
  by_cases s3:SZ=3
  ·as_aux_lemma =>
   subst s3
   have X8:(X:Int)%8=3:=by omega
   simp only[Lib.checkN,Nat.reduceEqDiff,if_true,if_false]at yp
   have kp:=Lib.hid yp
   clear yp
   go_upto_region 22 with fail
   generalize wr.alloc (.cells #[.int .u8 (LO:Int),.int .u8 (HI:Int)] 104)=wN at cg pR mi⊢
   have n0:=cg.cell 0 rfl
   have n1:=cg.cell 1 rfl
   go_cut [138] (fun cc wx=>cc=.bool (decide (t.size<3∨x1.toNat<LO∨HI<x1.toNat∨x2.toNat<128∨191<x2.toNat))∧Below w.heap.size w wx)
   case first =>
    by_cases q0:t.size<3
    ·have q0z:(t.size:Int)<3:=by omega
     go_big_quiet (fail)
     go_wp2_with fail
     go_meet
     exact⟨congrArg Value.bool (decide_eq_true (p:=t.size<3∨x1.toNat<LO∨HI<x1.toNat∨x2.toNat<128∨191<x2.toNat) (by omega)).symm,below_drewNv pR nq⟩
    have q0z:¬ ((t.size:Int)<3):=by omega
    have q0b:decide ((t.size:Int)<3)=false:=decide_eq_false q0z
    have tB:(1:Int)<(t.size:Int):=by omega
    have ky:1<t.size:=by omega
    have d1:wN.cell? ⟨b,off+1,none⟩=some (.int .u8 (x1.toNat:Int)):=by rw[← sW];exact mi.cell (bq.out 1 (by omega))
    have qn:(2:Int)<(t.size:Int):=by omega
    have sd:2<t.size:=by omega
    have d2:wN.cell? ⟨b,off+2,none⟩=some (.int .u8 (x2.toNat:Int)):=by rw[← o2];exact mi.cell (bq.out 2 (by omega))
    by_cases q1:x1.toNat<LO
    ·have q1z:((x1.toNat:Int)<(LO:Int)):=by omega
     go_big_quiet (fail)
     go_wp2_with fail
     go_meet
     exact⟨congrArg Value.bool (decide_eq_true (p:=t.size<3∨x1.toNat<LO∨HI<x1.toNat∨x2.toNat<128∨191<x2.toNat) (by omega)).symm,below_drewNv pR nq⟩
    have q1z:¬ ((x1.toNat:Int)<(LO:Int)):=by omega
    have q1b:decide ((x1.toNat:Int)<(LO:Int))=false:=decide_eq_false q1z
    by_cases q2:HI<x1.toNat
    ·have q2z:((HI:Int)<(x1.toNat:Int)):=by omega
     go_big_quiet (fail)
     go_wp2_with fail
     go_meet
     exact⟨congrArg Value.bool (decide_eq_true (p:=t.size<3∨x1.toNat<LO∨HI<x1.toNat∨x2.toNat<128∨191<x2.toNat) (by omega)).symm,below_drewNv pR nq⟩
    have q2z:¬ ((HI:Int)<(x1.toNat:Int)):=by omega
    have q2b:decide ((HI:Int)<(x1.toNat:Int))=false:=decide_eq_false q2z
    by_cases q3:x2.toNat<128
    ·have q3z:((x2.toNat:Int)<128):=by omega
     go_big_quiet (fail)
     go_wp2_with fail
     go_meet
     exact⟨congrArg Value.bool (decide_eq_true (p:=t.size<3∨x1.toNat<LO∨HI<x1.toNat∨x2.toNat<128∨191<x2.toNat) (by omega)).symm,below_drewNv pR nq⟩
    have q3z:¬ ((x2.toNat:Int)<128):=by omega
    have q3b:decide ((x2.toNat:Int)<128)=false:=decide_eq_false q3z
    by_cases q4:191<x2.toNat
    ·have q4z:((191:Int)<(x2.toNat:Int)):=by omega
     go_big_quiet (fail)
     go_wp2_with fail
     go_meet
     exact⟨congrArg Value.bool (decide_eq_true (p:=t.size<3∨x1.toNat<LO∨HI<x1.toNat∨x2.toNat<128∨191<x2.toNat) (by omega)).symm,below_drewNv pR nq⟩
    have q4z:¬ ((191:Int)<(x2.toNat:Int)):=by omega
    have q4b:decide ((191:Int)<(x2.toNat:Int))=false:=decide_eq_false q4z
    go_big_quiet (fail)
    go_wp2_with fail
    go_meet
    exact⟨congrArg Value.bool (decide_eq_false (p:=t.size<3∨x1.toNat<LO∨HI<x1.toNat∨x2.toNat<128∨191<x2.toNat) (by omega)).symm,below_drewNv pR nq⟩
   case rest =>
   obtain⟨rfl,tH⟩:=hcut
   by_cases hb:t.size<3∨x1.toNat<LO∨HI<x1.toNat∨x2.toNat<128∨191<x2.toNat
   ·have mr:decide (t.size<3∨x1.toNat<LO∨HI<x1.toNat∨x2.toNat<128∨191<x2.toNat)=true:=decide_eq_true hb
    have yp:=kp.out
    rw[if_pos hb]at yp
    rw[mr]
    clear hb mr kp n0 n1
    go_wp2_with fail
    go_ret
    exact⟨by first | rfl | rw[yp],tH⟩
   have mr:decide (t.size<3∨x1.toNat<LO∨HI<x1.toNat∨x2.toNat<128∨191<x2.toNat)=false:=decide_eq_false hb
   have yp:=kp.out
   rw[if_neg hb]at yp
   rw[mr]
   have iB:(3:Int)≤(t.size:Int):=by omega
   have ix:=bq.out
   obtain⟨t1,ny⟩:∃ t1,t.extract 3 t.size=t1:=⟨_,rfl⟩
   have zt1:t.size-3=t1.size:=by rw[← ny,Lib.ext_size]
   have sbt1:=SB.skipc ix 3 (by omega)
   rw[ny]at sbt1
   obtain⟨Bt1,sv⟩:∃ B,(if t.size=3 then some (⟨b,off,none⟩:Addr) else some ⟨b,off+3,none⟩)=B:=⟨_,rfl⟩
   rw[sv]at sbt1
   have HE:=Lib.hid (And.intro zt1 sv)
   have Xg:=Lib.hid (show Lib.validD t1.data.toList=ANS by rw[← ny,Lib.ext_list,yp])
   have wC:=Lib.hid (show t1.size<t.size∧t1.size≤t0.size by omega)
   clear hb mr kp yp zt1 sv ny ix n0 n1
   go_wp2_with fail
   go_roundw
   case rel=>exact⟨Bt1,t1,by rw[HE.out.1,HE.out.2],sbt1,Xg.out,wC.out.2,tH⟩
   case measure=>have:=wC.out.1;have:=HE.out.1;simp[qx];omega
  by_cases s4:SZ=4
  ·as_aux_lemma =>
   subst s4
   have X8:(X:Int)%8=4:=by omega
   simp only[Lib.checkN,Nat.reduceEqDiff,if_true,if_false]at yp
   have kp:=Lib.hid yp
   clear yp
   go_upto_region 26 with fail
   generalize wr.alloc (.cells #[.int .u8 (LO:Int),.int .u8 (HI:Int)] 104)=wN at cg pR mi⊢
   have n0:=cg.cell 0 rfl
   have n1:=cg.cell 1 rfl
   go_cut [185] (fun cc wx=>cc=.bool (decide (t.size<4∨x1.toNat<LO∨HI<x1.toNat∨x2.toNat<128∨191<x2.toNat∨x3.toNat<128∨191<x3.toNat))∧Below w.heap.size w wx)
   case first =>
    by_cases q0:t.size<4
    ·have q0z:(t.size:Int)<4:=by omega
     go_big_quiet (fail)
     go_wp2_with fail
     go_meet
     exact⟨congrArg Value.bool (decide_eq_true (p:=t.size<4∨x1.toNat<LO∨HI<x1.toNat∨x2.toNat<128∨191<x2.toNat∨x3.toNat<128∨191<x3.toNat) (by omega)).symm,below_drewNv pR nq⟩
    have q0z:¬ ((t.size:Int)<4):=by omega
    have q0b:decide ((t.size:Int)<4)=false:=decide_eq_false q0z
    have tB:(1:Int)<(t.size:Int):=by omega
    have ky:1<t.size:=by omega
    have d1:wN.cell? ⟨b,off+1,none⟩=some (.int .u8 (x1.toNat:Int)):=by rw[← sW];exact mi.cell (bq.out 1 (by omega))
    have qn:(2:Int)<(t.size:Int):=by omega
    have sd:2<t.size:=by omega
    have d2:wN.cell? ⟨b,off+2,none⟩=some (.int .u8 (x2.toNat:Int)):=by rw[← o2];exact mi.cell (bq.out 2 (by omega))
    have fd:(3:Int)<(t.size:Int):=by omega
    have aN:3<t.size:=by omega
    have d3:wN.cell? ⟨b,off+3,none⟩=some (.int .u8 (x3.toNat:Int)):=by rw[← aT];exact mi.cell (bq.out 3 (by omega))
    by_cases q1:x1.toNat<LO
    ·have q1z:((x1.toNat:Int)<(LO:Int)):=by omega
     go_big_quiet (fail)
     go_wp2_with fail
     go_meet
     exact⟨congrArg Value.bool (decide_eq_true (p:=t.size<4∨x1.toNat<LO∨HI<x1.toNat∨x2.toNat<128∨191<x2.toNat∨x3.toNat<128∨191<x3.toNat) (by omega)).symm,below_drewNv pR nq⟩
    have q1z:¬ ((x1.toNat:Int)<(LO:Int)):=by omega
    have q1b:decide ((x1.toNat:Int)<(LO:Int))=false:=decide_eq_false q1z
    by_cases q2:HI<x1.toNat
    ·have q2z:((HI:Int)<(x1.toNat:Int)):=by omega
     go_big_quiet (fail)
     go_wp2_with fail
     go_meet
     exact⟨congrArg Value.bool (decide_eq_true (p:=t.size<4∨x1.toNat<LO∨HI<x1.toNat∨x2.toNat<128∨191<x2.toNat∨x3.toNat<128∨191<x3.toNat) (by omega)).symm,below_drewNv pR nq⟩
    have q2z:¬ ((HI:Int)<(x1.toNat:Int)):=by omega
    have q2b:decide ((HI:Int)<(x1.toNat:Int))=false:=decide_eq_false q2z
    by_cases q3:x2.toNat<128
    ·have q3z:((x2.toNat:Int)<128):=by omega
     go_big_quiet (fail)
     go_wp2_with fail
     go_meet
     exact⟨congrArg Value.bool (decide_eq_true (p:=t.size<4∨x1.toNat<LO∨HI<x1.toNat∨x2.toNat<128∨191<x2.toNat∨x3.toNat<128∨191<x3.toNat) (by omega)).symm,below_drewNv pR nq⟩
    have q3z:¬ ((x2.toNat:Int)<128):=by omega
    have q3b:decide ((x2.toNat:Int)<128)=false:=decide_eq_false q3z
    by_cases q4:191<x2.toNat
    ·have q4z:((191:Int)<(x2.toNat:Int)):=by omega
     go_big_quiet (fail)
     go_wp2_with fail
     go_meet
     exact⟨congrArg Value.bool (decide_eq_true (p:=t.size<4∨x1.toNat<LO∨HI<x1.toNat∨x2.toNat<128∨191<x2.toNat∨x3.toNat<128∨191<x3.toNat) (by omega)).symm,below_drewNv pR nq⟩
    have q4z:¬ ((191:Int)<(x2.toNat:Int)):=by omega
    have q4b:decide ((191:Int)<(x2.toNat:Int))=false:=decide_eq_false q4z
    by_cases q5:x3.toNat<128
    ·have q5z:((x3.toNat:Int)<128):=by omega
     go_big_quiet (fail)
     go_wp2_with fail
     go_meet
     exact⟨congrArg Value.bool (decide_eq_true (p:=t.size<4∨x1.toNat<LO∨HI<x1.toNat∨x2.toNat<128∨191<x2.toNat∨x3.toNat<128∨191<x3.toNat) (by omega)).symm,below_drewNv pR nq⟩
    have q5z:¬ ((x3.toNat:Int)<128):=by omega
    have q5b:decide ((x3.toNat:Int)<128)=false:=decide_eq_false q5z
    by_cases q6:191<x3.toNat
    ·have q6z:((191:Int)<(x3.toNat:Int)):=by omega
     go_big_quiet (fail)
     go_wp2_with fail
     go_meet
     exact⟨congrArg Value.bool (decide_eq_true (p:=t.size<4∨x1.toNat<LO∨HI<x1.toNat∨x2.toNat<128∨191<x2.toNat∨x3.toNat<128∨191<x3.toNat) (by omega)).symm,below_drewNv pR nq⟩
    have q6z:¬ ((191:Int)<(x3.toNat:Int)):=by omega
    have q6b:decide ((191:Int)<(x3.toNat:Int))=false:=decide_eq_false q6z
    go_big_quiet (fail)
    go_wp2_with fail
    go_meet
    exact⟨congrArg Value.bool (decide_eq_false (p:=t.size<4∨x1.toNat<LO∨HI<x1.toNat∨x2.toNat<128∨191<x2.toNat∨x3.toNat<128∨191<x3.toNat) (by omega)).symm,below_drewNv pR nq⟩
   case rest =>
   obtain⟨rfl,tH⟩:=hcut
   by_cases hb:t.size<4∨x1.toNat<LO∨HI<x1.toNat∨x2.toNat<128∨191<x2.toNat∨x3.toNat<128∨191<x3.toNat
   ·have mr:decide (t.size<4∨x1.toNat<LO∨HI<x1.toNat∨x2.toNat<128∨191<x2.toNat∨x3.toNat<128∨191<x3.toNat)=true:=decide_eq_true hb
    have yp:=kp.out
    rw[if_pos hb]at yp
    rw[mr]
    clear hb mr kp n0 n1
    go_wp2_with fail
    go_ret
    exact⟨by first | rfl | rw[yp],tH⟩
   have mr:decide (t.size<4∨x1.toNat<LO∨HI<x1.toNat∨x2.toNat<128∨191<x2.toNat∨x3.toNat<128∨191<x3.toNat)=false:=decide_eq_false hb
   have yp:=kp.out
   rw[if_neg hb]at yp
   rw[mr]
   have iB:(4:Int)≤(t.size:Int):=by omega
   have ix:=bq.out
   obtain⟨t1,ny⟩:∃ t1,t.extract 4 t.size=t1:=⟨_,rfl⟩
   have zt1:t.size-4=t1.size:=by rw[← ny,Lib.ext_size]
   have sbt1:=SB.skipc ix 4 (by omega)
   rw[ny]at sbt1
   obtain⟨Bt1,sv⟩:∃ B,(if t.size=4 then some (⟨b,off,none⟩:Addr) else some ⟨b,off+4,none⟩)=B:=⟨_,rfl⟩
   rw[sv]at sbt1
   have HE:=Lib.hid (And.intro zt1 sv)
   have Xg:=Lib.hid (show Lib.validD t1.data.toList=ANS by rw[← ny,Lib.ext_list,yp])
   have wC:=Lib.hid (show t1.size<t.size∧t1.size≤t0.size by omega)
   clear hb mr kp yp zt1 sv ny ix n0 n1
   go_wp2_with fail
   go_roundw
   case rel=>exact⟨Bt1,t1,by rw[HE.out.1,HE.out.2],sbt1,Xg.out,wC.out.2,tH⟩
   case measure=>have:=wC.out.1;have:=HE.out.1;simp[qx];omega
  have e2b:(((X:Int)%8)==2)=false:=by simp;omega
  have e3b:(((X:Int)%8)==3)=false:=by simp;omega
  have e4b:(((X:Int)%8)==4)=false:=by simp;omega
  have e2:¬ ((X:Int)%8=2):=by omega
  have e3:¬ ((X:Int)%8=3):=by omega
  have e4:¬ ((X:Int)%8=4):=by omega
  simp only[Lib.checkN,s2,s3,s4,if_false]at yp
  have kp:=Lib.hid yp
  clear yp
  go_wp2_with fail
  go_ret
  exact⟨by first | rfl | (rw[kp.out];rfl),pR⟩
 have S9:¬ ((0:Int)<(t.size:Int)):=by omega
 have T5:t.data.toList=[]:=List.eq_nil_of_length_eq_zero (by rw[← Lib.size_eq];omega)
 have hv:=HV.out
 rw[T5,Lib.validD_nil]at hv
 subst hv
 go_wp2_with fail
 go_ret
 exact⟨rfl,tQ⟩
theorem q9 {H:Snap}(hT:Tabs H) (w:World) (hH:Holds w H) (A:Option Addr) (l:List UInt8) (n c:Nat) (hn:n=l.length) (hb:IsBytes H A c l) :
  Calls Tryz.prog 49 #[.slice A n c] w fun e w'=>e=.returned (.bool (Lib.validD l))∧Below w.heap.size w w':=by
 subst hn
 have hl:(⟨l.toArray⟩:ByteArray).size=l.length:=by show l.toArray.size=l.length;simp
 have h:=ll hT w hH A ⟨l.toArray⟩ c (SB.of hb) (by rw[hl];exact hb.le) (by rw[hl];have:=hb.le;have:=hb.max;omega)
 rw[hl,bF]at h
 exact h
end Go.Proofs.YtnfoilblmhbobaaGreatDoor
