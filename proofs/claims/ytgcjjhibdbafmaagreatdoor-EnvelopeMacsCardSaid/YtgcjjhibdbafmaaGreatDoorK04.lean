/- squeezed. Walks: the library's Valid of a sl -/
import Derived.Test.YtgcjjhibdbafmaaGreatDoorK03
import Derived.BigQuiet
import Derived.RegionTactic
import Derived.ChangeAlike
import Derived.Test.YtgcjjhibdbafmaaGreatDoorK02
import Derived.Laws.FloatArith
set_option linter.unusedVariables false
set_option linter.unusedSimpArgs false
open List (getElem_toArray getElem_cons_zero getElem_cons_succ setIfInBounds_toArray set_cons_zero set_cons_succ)
namespace Go.Proofs.YtgcjjhibdbafmaaGreatDoor
open Go.RowKit
def lenV:Value→Nat
 | .slice _ n _=>n
 | _=>0
theorem SB.skipc {H:Snap}{b off:Nat}{t:ByteArray}(h:∀ j,j<t.size→H.cell? ⟨b,off+j,none⟩=some (.int .u8 ((t.get! j).toNat:Int))) (k:Nat) (hk:k≤t.size) :
  SB H (if t.size=k then some (⟨b,off,none⟩:Addr) else some ⟨b,off+k,none⟩) (t.extract k t.size):=fun h0=>by
 rw[Lib.ext_size]at h0
 rw[if_neg (by omega)]
 refine⟨b,off+k,rfl,fun j hj=>?_⟩
 rw[Lib.ext_size]at hj
 rw[Nat.add_assoc,h (k+j) (by omega),← Lib.getD_get!',← Lib.getD_get!',Lib.ext_list]
 simp[List.getD,List.getElem?_drop]
set_option maxHeartbeats 16000000 in
set_option maxRecDepth 1000000 in
theorem utf8_ValidB {H:Snap}(hT:Tabs H) (w:World) (hH:Holds w H) (A:Option Addr) (t0:ByteArray) (c:Nat) (hs:SB H A t0) (hc:t0.size≤c) (hm:t0.size≤9223372036854775807) :
  Calls Tryz.prog 109 #[.slice A t0.size c] w fun e w'=>e=.returned (.bool (Lib.validD t0.data.toList))∧Below w.heap.size w w':=by
 obtain⟨ANS,hANS⟩:∃ ANS,Lib.validD t0.data.toList=ANS:=⟨_,rfl⟩
 rw[hANS]
 have HANS:=Lib.hid hANS
 clear hANS
 have hci:(t0.size:Int)≤c:=by omega
 go_enter Tryz.func109,Tryz.ntmps109
 go_wp2
 go_loopw [0] (fun v0 wx=>∃ (B:Option Addr) (t:ByteArray),v0=.slice B t.size t.size∧SB H B t∧Lib.validD t.data.toList=ANS∧t.size≤t0.size∧Below w.heap.size w wx) (fun v0 _=>lenV v0)
 case atStart=>exact⟨A,t0,rfl,hs,HANS.out,Nat.le_refl _,Below.refl _ _⟩
 case round =>
  obtain⟨B,t,rfl,hsb,hv,hts,hbw⟩:=hrel
  have HV:=Lib.hid hv
  clear hv
  by_cases h0:0<t.size
  ·obtain⟨b,off,rfl,hct⟩:=hsb h0
   have h0z:(0:Int)<(t.size:Int):=by omega
   have hHr:=hH.below hbw (Nat.le_refl _)
   have c0:=hHr.cell (hct 0 h0)
   have l0:=(t.get! 0).toNat_lt
   obtain⟨x0,hx0⟩:∃ x0,t.get! 0=x0:=⟨_,rfl⟩
   rw[hx0]at c0 l0
   simp only[Nat.add_zero]at c0
   have HCT:=Lib.hid hct
   by_cases hasc:x0.toNat<128
   ·as_aux_lemma =>
    have hascz:(x0.toNat:Int)<128:=by omega
    have h1z:(1:Int)≤(t.size:Int):=by omega
    have a1:Lib.Asc t 1:=Lib.asc_one t h0 (by rw[hx0];exact hasc)
    obtain⟨t1,ht1⟩:∃ t1,t.extract 1 t.size=t1:=⟨_,rfl⟩
    have zt1:t.size-1=t1.size:=by rw[← ht1,Lib.ext_size]
    have sbt1:=SB.skipc hct 1 (by omega)
    rw[ht1]at sbt1
    obtain⟨Bt1,hBt1⟩:∃ B,(if t.size=1 then some (⟨b,off,none⟩:Addr) else some ⟨b,off+1,none⟩)=B:=⟨_,rfl⟩
    rw[hBt1]at sbt1
    have V1:Hid (Lib.validD t1.data.toList=ANS):=by rw[Hid,← ht1,Lib.valid_skip t 1 a1];exact HV.out
    have HT1:=Lib.hid (And.intro zt1 hBt1)
    clear hct zt1 a1 hx0 ht1 hsb hBt1
    go_upto_region 6 with fail
    rw[HT1.out.2,HT1.out.1]
    by_cases c8:8<t1.size
    ·have c8z:(8:Int)<(t1.size:Int):=by omega
     have c8y:(8:Int)≤(t1.size:Int):=by omega
     obtain⟨A1,hA1⟩:∃ A1,Lib.leNat [t1.get! 0,t1.get! 1,t1.get! 2,t1.get! 3,t1.get! 4,t1.get! 5,t1.get! 6,t1.get! 7]=A1:=⟨_,rfl⟩
     have lA1:A1<18446744073709551616:=hA1 ▸ Lib.word_lt t1
     have cW1:∀ (c:Nat) (W:World),Holds W H→Calls Tryz.prog 148 #[.slice Bt1 t1.size c] W fun e w'=>e=.returned (.int .u64 (A1:Int))∧∃ q,w'=W.drewN q:=fun c W h=>by rw[← hA1];exact utf8_word sbt1 (by omega) c W h
     have CW1:=Lib.hid cW1
     have kA1:=Lib.word_asc t1 (by omega)
     rw[hA1]at kA1
     clear cW1 hA1
     have hand1:bits .and .u64 (A1:Int) 9259542123273814144=((A1 &&& 9259542123273814144:Nat):Int):=u64_and_nat A1 9259542123273814144 lA1 (by omega)
     obtain⟨Z1,hZ1⟩:∃ Z1,A1 &&& 9259542123273814144=Z1:=⟨_,rfl⟩
     rw[hZ1]at hand1 kA1
     have KA1:=Lib.hid kA1
     have HSB1:=Lib.hid sbt1
     clear hZ1 kA1 lA1 sbt1 c0 l0
     by_cases hz1:Z1=0
     ·have hz1b:((Z1:Int)==0)=true:=by simp[hz1]
      have HZ1:=Lib.hid hz1
      clear hz1
      go_wp2_with (go_at_call 148;refine stop_in ?_)
      unfold Stopped
      refine(CW1.out _ _ hHr).mono ?_
      rintro e w5 ⟨rfl,q5,rfl⟩
      have hHc:=Holds.drewN hHr q5
      have hbc:=below_drewNv hbw q5
      obtain⟨b1,off1,rfl,hct1⟩:=HSB1.out (by omega)
      obtain⟨t2,ht2⟩:∃ t2,t1.extract 8 t1.size=t2:=⟨_,rfl⟩
      have zt2:t1.size-8=t2.size:=by rw[← ht2,Lib.ext_size]
      have sbt2:=SB.skipc hct1 8 (by omega)
      rw[ht2,if_neg (by omega)]at sbt2
      obtain⟨Bt2,hBt2⟩:∃ B,some (⟨b1,off1+8,none⟩:Addr)=B:=⟨_,rfl⟩
      rw[hBt2]at sbt2
      have V2:Hid (Lib.validD t2.data.toList=ANS):=by rw[Hid,← ht2,Lib.valid_skip t1 8 (KA1.out.1 HZ1.out)];exact V1.out
      have HT2:=Lib.hid (And.intro zt2 hBt2)
      generalize wr.drewN q5=wq at hHc hbc⊢
      clear zt2 ht2 hct1 hBt2 hbw hHr CW1 KA1 HZ1
      go_upto_region 8 with fail
      rw[HT2.out.2,HT2.out.1]
      by_cases c16:16<t2.size
      ·have c16z:(16:Int)<(t2.size:Int):=by omega
       have c16y:(16:Int)≤(t2.size:Int):=by omega
       have s8z:(8:Int)≤(t2.size:Int):=by omega
       have n8:(t2.size=8)=False:=eq_false (by omega)
       obtain⟨b2,off2,rfl,hct2⟩:=sbt2 (by omega)
       have hSB2:SB H (some ⟨b2,off2,none⟩) t2:=sbt2
       obtain⟨t2b,ht2b⟩:∃ t2b,t2.extract 8 t2.size=t2b:=⟨_,rfl⟩
       have zt2b:t2.size-8=t2b.size:=by rw[← ht2b,Lib.ext_size]
       have sbt2b:=SB.skipc hct2 8 (by omega)
       rw[ht2b,if_neg (by omega)]at sbt2b
       obtain⟨o2b,ho2b⟩:∃ o,off2+8=o:=⟨_,rfl⟩
       rw[ho2b]at sbt2b
       obtain⟨A2,hA2⟩:∃ A2,Lib.leNat [t2.get! 0,t2.get! 1,t2.get! 2,t2.get! 3,t2.get! 4,t2.get! 5,t2.get! 6,t2.get! 7]=A2:=⟨_,rfl⟩
       have lA2:A2<18446744073709551616:=hA2 ▸ Lib.word_lt t2
       have cW2:∀ (c:Nat) (W:World),Holds W H→Calls Tryz.prog 148 #[.slice (some ⟨b2,off2,none⟩) t2.size c] W fun e w'=>e=.returned (.int .u64 (A2:Int))∧∃ q,w'=W.drewN q:=fun c W h=>by rw[← hA2];exact utf8_word hSB2 (by omega) c W h
       have CW2:=Lib.hid cW2
       have kA2:=Lib.word_asc t2 (by omega)
       rw[hA2]at kA2
       clear cW2 hA2
       obtain⟨A3,hA3⟩:∃ A3,Lib.leNat [t2b.get! 0,t2b.get! 1,t2b.get! 2,t2b.get! 3,t2b.get! 4,t2b.get! 5,t2b.get! 6,t2b.get! 7]=A3:=⟨_,rfl⟩
       have lA3:A3<18446744073709551616:=hA3 ▸ Lib.word_lt t2b
       have cW3:∀ (c:Nat) (W:World),Holds W H→Calls Tryz.prog 148 #[.slice (some ⟨b2,off2+8,none⟩) (t2.size-8) c] W fun e w'=>e=.returned (.int .u64 (A3:Int))∧∃ q,w'=W.drewN q:=fun c W h=>by rw[← hA3,zt2b,ho2b];exact utf8_word sbt2b (by omega) c W h
       have CW3:=Lib.hid cW3
       have kA3:=Lib.word_asc t2b (by omega)
       rw[hA3]at kA3
       clear cW3 hA3
       have hor2:bits .or .u64 (A2:Int) (A3:Int)=((A2 ||| A3:Nat):Int):=u64_or_nat A2 A3 lA2 lA3
       have lor2:A2 ||| A3<18446744073709551616:=Nat.or_lt_two_pow (n:=64) lA2 lA3
       have hand2:bits .and .u64 ((A2 ||| A3:Nat):Int) 9259542123273814144=(((A2 ||| A3) &&& 9259542123273814144:Nat):Int):=u64_and_nat _ 9259542123273814144 lor2 (by omega)
       have k2:(A2 ||| A3) &&& 9259542123273814144=0→Lib.Asc t2 16:=fun h0'=>by
        obtain⟨e1,e2⟩:=(Lib.or_mask A2 A3 _).1 h0'
        exact Lib.asc_add t2 8 8 (kA2.1 e1) (by rw[ht2b];exact kA3.1 e2)
       obtain⟨O2,hO2⟩:∃ O2,A2 ||| A3=O2:=⟨_,rfl⟩
       rw[hO2]at hor2 hand2 k2
       obtain⟨Z2,hZ2⟩:∃ Z2,O2 &&& 9259542123273814144=Z2:=⟨_,rfl⟩
       rw[hZ2]at hand2 k2
       have K2:=Lib.hid k2
       have HCT2:=Lib.hid hct2
       clear kA2 kA3 lor2 hO2 hZ2 k2 lA2 lA3 ht2b sbt2b hct2 sbt2
       obtain⟨zz2,hzz2⟩:∃ zz,((Z2:Int)==0)=zz:=⟨_,rfl⟩
       have HZZ:=Lib.hid hzz2
       go_cut [0,46] (fun s0 s46 wx=>s0=.slice (some ⟨b2,off2,none⟩) t2.size t2.size∧s46=.bool zz2∧Below w.heap.size w wx)
       case first =>
        clear zt2b ho2b hz1b hand1
        have hHq:=hHc
        have hbq:=hbc
        refine wp_region_ways 13 (fun _=>True) (by kernel_rfl) (trivial) (fun hHeld=>?_)
        refine Ways.takeS (i:=0) (v:=?_) rfl (by kernel_rfl) (fun _ _ _ h=>h) (Or.inl ⟨by rfl, ?_⟩) hHeld ?_
        rotate_left
        ·(intro w hSw;(try dsimp only at hSw);go_simp;try with_reducible rfl)
        try simp only[Act.put,getElem_toArray,getElem_cons_zero,getElem_cons_succ,setIfInBounds_toArray,set_cons_zero,set_cons_succ]
        refine Ways.takeS (i:=1) (v:=?_) rfl (by kernel_rfl) (fun _ _ _ h=>h) (Or.inl ⟨by rfl, ?_⟩) hHeld ?_
        rotate_left
        ·(intro w hSw;(try dsimp only at hSw);go_simp;try with_reducible rfl)
        try simp only[Act.put,getElem_toArray,getElem_cons_zero,getElem_cons_succ,setIfInBounds_toArray,set_cons_zero,set_cons_succ]
        refine Ways.takeS (i:=2) (v:=?_) rfl (by kernel_rfl) (fun _ _ _ h=>h) (Or.inl ⟨by rfl, ?_⟩) hHeld ?_
        rotate_left
        ·(intro w hSw;(try dsimp only at hSw);go_simp;try with_reducible rfl)
        try simp only[Act.put,getElem_toArray,getElem_cons_zero,getElem_cons_succ,setIfInBounds_toArray,set_cons_zero,set_cons_succ]
        refine Ways.takeS (i:=3) (v:=?_) rfl (by kernel_rfl) (fun _ _ _ h=>h) (Or.inl ⟨by rfl, ?_⟩) hHeld ?_
        rotate_left
        ·(intro w hSw;(try dsimp only at hSw);go_simp;try with_reducible rfl)
        try simp only[Act.put,getElem_toArray,getElem_cons_zero,getElem_cons_succ,setIfInBounds_toArray,set_cons_zero,set_cons_succ]
        refine Ways.takeS (i:=4) (v:=?_) rfl (by kernel_rfl) (fun _ _ _ h=>h) (Or.inl ⟨?_, ?_⟩) hHeld ?_
        rotate_left
        ·kernel_rfl
        ·(intro w hSw;(try dsimp only at hSw);go_simp;try with_reducible rfl)
        try simp only[Act.put,getElem_toArray,getElem_cons_zero,getElem_cons_succ,setIfInBounds_toArray,set_cons_zero,set_cons_succ]
        refine Ways.takeS (i:=6) (v:=?_) rfl (by kernel_rfl) (fun _ _ _ h=>h) (Or.inl ⟨?_, ?_⟩) hHeld ?_
        rotate_left
        ·kernel_rfl
        ·(intro w hSw;(try dsimp only at hSw);go_simp;try with_reducible rfl)
        try simp only[Act.put,getElem_toArray,getElem_cons_zero,getElem_cons_succ,setIfInBounds_toArray,set_cons_zero,set_cons_succ]
        refine Ways.takeS (i:=7) (v:=?_) rfl (by kernel_rfl) (fun _ _ _ h=>h) (Or.inl ⟨?_, ?_⟩) hHeld ?_
        rotate_left
        ·kernel_rfl
        ·(intro w hSw;(try dsimp only at hSw);go_simp;try with_reducible rfl)
        try simp only[Act.put,getElem_toArray,getElem_cons_zero,getElem_cons_succ,setIfInBounds_toArray,set_cons_zero,set_cons_succ]
        refine Ways.one (i:=5) rfl (by kernel_rfl) (fun K hK=>?_)
        go_simp
        refine(CW2.out _ _ (by repeat (first | exact hHq | exact hHq.drew | refine Holds.drewN ?_ _))).mono ?_
        rintro e w5 ⟨rfl,q5,rfl⟩
        refine hK.out _ _ (fun _=>?_) (fun hHeld=>?_)
        ·exact trivial
        clear hK K
        have hHeld:=hHeld (by decide)
        try simp only[Act.put,getElem_toArray,getElem_cons_zero,getElem_cons_succ,setIfInBounds_toArray,set_cons_zero,set_cons_succ]
        refine Ways.one (i:=8) rfl (by kernel_rfl) (fun K hK=>?_)
        go_simp
        refine(CW3.out _ _ (by repeat (first | exact hHq | exact hHq.drew | refine Holds.drewN ?_ _))).mono ?_
        rintro e w5 ⟨rfl,q5,rfl⟩
        refine hK.out _ _ (fun _=>?_) (fun hHeld=>?_)
        ·exact trivial
        clear hK K
        have hHeld:=hHeld (by decide)
        try simp only[Act.put,getElem_toArray,getElem_cons_zero,getElem_cons_succ,setIfInBounds_toArray,set_cons_zero,set_cons_succ]
        refine Ways.takeS (i:=9) (v:=?_) rfl (by kernel_rfl) (fun _ _ _ h=>h) (Or.inl ⟨?_, ?_⟩) hHeld ?_
        rotate_left
        ·kernel_rfl
        ·(intro w hSw;(try dsimp only at hSw);go_simp;try with_reducible rfl)
        try simp only[Act.put,getElem_toArray,getElem_cons_zero,getElem_cons_succ,setIfInBounds_toArray,set_cons_zero,set_cons_succ]
        refine Ways.takeS (i:=10) (v:=?_) rfl (by kernel_rfl) (fun _ _ _ h=>h) (Or.inl ⟨?_, ?_⟩) hHeld ?_
        rotate_left
        ·kernel_rfl
        ·(intro w hSw;(try dsimp only at hSw);go_simp;try with_reducible rfl)
        try simp only[Act.put,getElem_toArray,getElem_cons_zero,getElem_cons_succ,setIfInBounds_toArray,set_cons_zero,set_cons_succ]
        refine Ways.takeS (i:=11) (v:=?_) rfl (by kernel_rfl) (fun _ _ _ h=>h) (Or.inl ⟨?_, ?_⟩) hHeld ?_
        rotate_left
        ·kernel_rfl
        ·(intro w hSw;(try dsimp only at hSw);go_simp;try with_reducible rfl)
        try simp only[Act.put,getElem_toArray,getElem_cons_zero,getElem_cons_succ,setIfInBounds_toArray,set_cons_zero,set_cons_succ]
        refine Ways.takeS (i:=12) (v:=?_) rfl (by kernel_rfl) (fun _ _ _ h=>h) (Or.inl ⟨by rfl, ?_⟩) hHeld ?_
        rotate_left
        ·(intro w hSw;(try dsimp only at hSw);go_simp;try with_reducible rfl)
        try simp only[Act.put,getElem_toArray,getElem_cons_zero,getElem_cons_succ,setIfInBounds_toArray,set_cons_zero,set_cons_succ]
        refine Ways.done (by kernel_rfl) ?_
        go_wp2_with fail
        go_meet
        exact⟨rfl,rfl,by repeat (first | exact hbq | exact hbq.drew | refine below_drewNv ?_ _)⟩
       case rest =>
        clear hbc hHc
        obtain⟨rfl,rfl,hbc⟩:=hcut
        have hHc:=hH.below hbc (Nat.le_refl _)
        cases zz2 with
        | true =>
         have hz2:Z2=0:=by have:=HZZ.out;simpa using this
         have hct2:=HCT2.out
         obtain⟨t3,ht3⟩:∃ t3,t2.extract 16 t2.size=t3:=⟨_,rfl⟩
         have zt3:t2.size-16=t3.size:=by rw[← ht3,Lib.ext_size]
         have sbt3:=SB.skipc hct2 16 (by omega)
         rw[ht3,if_neg (by omega)]at sbt3
         obtain⟨Bt3,hBt3⟩:∃ B,some (⟨b2,off2+16,none⟩:Addr)=B:=⟨_,rfl⟩
         rw[hBt3]at sbt3
         have V3:Hid (Lib.validD t3.data.toList=ANS):=by rw[Hid,← ht3,Lib.valid_skip t2 16 (K2.out hz2)];exact V2.out
         have HT3:=Lib.hid (And.intro zt3 hBt3)
         have HLT:=Lib.hid (show t3.size<t.size∧t3.size≤t0.size by have:=HT1.out.1;have:=HT2.out.1;omega)
         clear zt3 ht3 hBt3 hct2 hand2 hor2 hzz2 hz2 CW2 CW3 hand1 zt2b ho2b
         go_wp2_with fail
         rw[HT3.out.2,HT3.out.1]
         go_loopw [0] (fun v0 wx=>∃ (B:Option Addr) (u:ByteArray),v0=.slice B u.size u.size∧SB H B u∧Lib.validD u.data.toList=ANS∧u.size≤t3.size∧Below w.heap.size w wx) (fun v0 _=>lenV v0)
         case atStart=>exact⟨_,t3,rfl,sbt3,V3.out,Nat.le_refl _,hbc⟩
         case round =>
          clear sbt3 hbc hHc
          obtain⟨BU,u,rfl,sbu,hvu,hus,hbc⟩:=hrel
          have VU:=Lib.hid hvu
          clear hvu
          have hHc:=hH.below hbc (Nat.le_refl _)
          by_cases c32:32<u.size
          ·have c32z:(32:Int)<(u.size:Int):=by omega
           have c32y:(32:Int)≤(u.size:Int):=by omega
           have s8u:(8:Int)≤(u.size:Int):=by omega
           have s16u:(16:Int)≤(u.size:Int):=by omega
           have s24u:(24:Int)≤(u.size:Int):=by omega
           have n8u:(u.size=8)=False:=eq_false (by omega)
           have n16u:(u.size=16)=False:=eq_false (by omega)
           have n24u:(u.size=24)=False:=eq_false (by omega)
           obtain⟨bu,ou,rfl,hcu⟩:=sbu (by omega)
           obtain⟨ub,hub⟩:∃ ub,u.extract 8 u.size=ub:=⟨_,rfl⟩
           have zub:u.size-8=ub.size:=by rw[← hub,Lib.ext_size]
           have sbub:=SB.skipc hcu 8 (by omega)
           rw[hub,if_neg (by omega)]at sbub
           obtain⟨oub,houb⟩:∃ o,ou+8=o:=⟨_,rfl⟩
           rw[houb]at sbub
           obtain⟨uc,huc⟩:∃ uc,u.extract 16 u.size=uc:=⟨_,rfl⟩
           have zuc:u.size-16=uc.size:=by rw[← huc,Lib.ext_size]
           have sbuc:=SB.skipc hcu 16 (by omega)
           rw[huc,if_neg (by omega)]at sbuc
           obtain⟨ouc,houc⟩:∃ o,ou+16=o:=⟨_,rfl⟩
           rw[houc]at sbuc
           obtain⟨ud,hud⟩:∃ ud,u.extract 24 u.size=ud:=⟨_,rfl⟩
           have zud:u.size-24=ud.size:=by rw[← hud,Lib.ext_size]
           have sbud:=SB.skipc hcu 24 (by omega)
           rw[hud,if_neg (by omega)]at sbud
           obtain⟨oud,houd⟩:∃ o,ou+24=o:=⟨_,rfl⟩
           rw[houd]at sbud
           obtain⟨A4,hA4⟩:∃ A4,Lib.leNat [u.get! 0,u.get! 1,u.get! 2,u.get! 3,u.get! 4,u.get! 5,u.get! 6,u.get! 7]=A4:=⟨_,rfl⟩
           have lA4:A4<18446744073709551616:=hA4 ▸ Lib.word_lt u
           have cW4:∀ (c:Nat) (W:World),Holds W H→Calls Tryz.prog 148 #[.slice (some ⟨bu,ou,none⟩) u.size c] W fun e w'=>e=.returned (.int .u64 (A4:Int))∧∃ q,w'=W.drewN q:=fun c W h=>by rw[← hA4];exact utf8_word (fun _=>⟨bu,ou,rfl,hcu⟩) (by omega) c W h
           have CW4:=Lib.hid cW4
           have kA4:=Lib.word_asc u (by omega)
           rw[hA4]at kA4
           clear cW4 hA4
           obtain⟨A5,hA5⟩:∃ A5,Lib.leNat [ub.get! 0,ub.get! 1,ub.get! 2,ub.get! 3,ub.get! 4,ub.get! 5,ub.get! 6,ub.get! 7]=A5:=⟨_,rfl⟩
           have lA5:A5<18446744073709551616:=hA5 ▸ Lib.word_lt ub
           have cW5:∀ (c:Nat) (W:World),Holds W H→Calls Tryz.prog 148 #[.slice (some ⟨bu,ou+8,none⟩) (u.size-8) c] W fun e w'=>e=.returned (.int .u64 (A5:Int))∧∃ q,w'=W.drewN q:=fun c W h=>by rw[← hA5,zub,houb];exact utf8_word sbub (by omega) c W h
           have CW5:=Lib.hid cW5
           have kA5:=Lib.word_asc ub (by omega)
           rw[hA5]at kA5
           clear cW5 hA5
           obtain⟨A6,hA6⟩:∃ A6,Lib.leNat [uc.get! 0,uc.get! 1,uc.get! 2,uc.get! 3,uc.get! 4,uc.get! 5,uc.get! 6,uc.get! 7]=A6:=⟨_,rfl⟩
           have lA6:A6<18446744073709551616:=hA6 ▸ Lib.word_lt uc
           have cW6:∀ (c:Nat) (W:World),Holds W H→Calls Tryz.prog 148 #[.slice (some ⟨bu,ou+16,none⟩) (u.size-16) c] W fun e w'=>e=.returned (.int .u64 (A6:Int))∧∃ q,w'=W.drewN q:=fun c W h=>by rw[← hA6,zuc,houc];exact utf8_word sbuc (by omega) c W h
           have CW6:=Lib.hid cW6
           have kA6:=Lib.word_asc uc (by omega)
           rw[hA6]at kA6
           clear cW6 hA6
           obtain⟨A7,hA7⟩:∃ A7,Lib.leNat [ud.get! 0,ud.get! 1,ud.get! 2,ud.get! 3,ud.get! 4,ud.get! 5,ud.get! 6,ud.get! 7]=A7:=⟨_,rfl⟩
           have lA7:A7<18446744073709551616:=hA7 ▸ Lib.word_lt ud
           have cW7:∀ (c:Nat) (W:World),Holds W H→Calls Tryz.prog 148 #[.slice (some ⟨bu,ou+24,none⟩) (u.size-24) c] W fun e w'=>e=.returned (.int .u64 (A7:Int))∧∃ q,w'=W.drewN q:=fun c W h=>by rw[← hA7,zud,houd];exact utf8_word sbud (by omega) c W h
           have CW7:=Lib.hid cW7
           have kA7:=Lib.word_asc ud (by omega)
           rw[hA7]at kA7
           clear cW7 hA7
           have ho1:bits .or .u64 (A4:Int) (A5:Int)=((A4 ||| A5:Nat):Int):=u64_or_nat A4 A5 lA4 lA5
           have ho2:bits .or .u64 (A6:Int) (A7:Int)=((A6 ||| A7:Nat):Int):=u64_or_nat A6 A7 lA6 lA7
           have lo1:A4 ||| A5<18446744073709551616:=Nat.or_lt_two_pow (n:=64) lA4 lA5
           have lo2:A6 ||| A7<18446744073709551616:=Nat.or_lt_two_pow (n:=64) lA6 lA7
           have ho3:bits .or .u64 ((A4 ||| A5:Nat):Int) ((A6 ||| A7:Nat):Int)=(((A4 ||| A5) ||| (A6 ||| A7):Nat):Int):=u64_or_nat _ _ lo1 lo2
           have lo3:(A4 ||| A5) ||| (A6 ||| A7)<18446744073709551616:=Nat.or_lt_two_pow (n:=64) lo1 lo2
           have hand3:bits .and .u64 (((A4 ||| A5) ||| (A6 ||| A7):Nat):Int) 9259542123273814144=((((A4 ||| A5) ||| (A6 ||| A7)) &&& 9259542123273814144:Nat):Int):=u64_and_nat _ 9259542123273814144 lo3 (by omega)
           have k3:((A4 ||| A5) ||| (A6 ||| A7)) &&& 9259542123273814144=0→Lib.Asc u 32:=fun h0'=>by
            obtain⟨e01,e23⟩:=(Lib.or_mask _ _ _).1 h0'
            obtain⟨e0,e1⟩:=(Lib.or_mask _ _ _).1 e01
            obtain⟨e2,e3⟩:=(Lib.or_mask _ _ _).1 e23
            have s16:Lib.Asc u 16:=Lib.asc_add u 8 8 (kA4.1 e0) (by rw[hub];exact kA5.1 e1)
            have s24:Lib.Asc u 24:=Lib.asc_add u 16 8 s16 (by rw[huc];exact kA6.1 e2)
            exact Lib.asc_add u 24 8 s24 (by rw[hud];exact kA7.1 e3)
           obtain⟨P1,hP1⟩:∃ P1,A4 ||| A5=P1:=⟨_,rfl⟩
           obtain⟨P2,hP2⟩:∃ P2,A6 ||| A7=P2:=⟨_,rfl⟩
           rw[hP1,hP2]at ho3 hand3 k3
           rw[hP1]at ho1
           rw[hP2]at ho2
           obtain⟨P3,hP3⟩:∃ P3,P1 ||| P2=P3:=⟨_,rfl⟩
           rw[hP3]at ho3 hand3 k3
           obtain⟨Z3,hZ3⟩:∃ Z3,P3 &&& 9259542123273814144=Z3:=⟨_,rfl⟩
           rw[hZ3]at hand3 k3
           have K3:=Lib.hid k3
           have HCU:=Lib.hid hcu
           clear kA4 kA5 kA6 kA7 lo1 lo2 lo3 hP1 hP2 hP3 hZ3 k3 hub sbub huc sbuc hud sbud lA4 lA5 lA6 lA7 hcu sbu
           obtain⟨zz3,hzz3⟩:∃ zz,((Z3:Int)==0)=zz:=⟨_,rfl⟩
           have HZ3:=Lib.hid hzz3
           go_upto_region 10 with fail
           go_cut [0,69] (fun s0 s69 wx=>s0=.slice (some ⟨bu,ou,none⟩) u.size u.size∧s69=.bool zz3∧Below w.heap.size w wx)
           case first =>
            clear zub zuc zud houb houc houd
            have hHq:=hHc
            have hbq:=hbc
            refine wp_region_ways 21 (fun _=>True) (by kernel_rfl) (trivial) (fun hHeld=>?_)
            refine Ways.takeS (i:=0) (v:=?_) rfl (by kernel_rfl) (fun _ _ _ h=>h) (Or.inl ⟨by rfl, ?_⟩) hHeld ?_
            rotate_left
            ·(intro w hSw;(try dsimp only at hSw);go_simp;try with_reducible rfl)
            try simp only[Act.put,getElem_toArray,getElem_cons_zero,getElem_cons_succ,setIfInBounds_toArray,set_cons_zero,set_cons_succ]
            refine Ways.takeS (i:=1) (v:=?_) rfl (by kernel_rfl) (fun _ _ _ h=>h) (Or.inl ⟨by rfl, ?_⟩) hHeld ?_
            rotate_left
            ·(intro w hSw;(try dsimp only at hSw);go_simp;try with_reducible rfl)
            try simp only[Act.put,getElem_toArray,getElem_cons_zero,getElem_cons_succ,setIfInBounds_toArray,set_cons_zero,set_cons_succ]
            refine Ways.takeS (i:=2) (v:=?_) rfl (by kernel_rfl) (fun _ _ _ h=>h) (Or.inl ⟨by rfl, ?_⟩) hHeld ?_
            rotate_left
            ·(intro w hSw;(try dsimp only at hSw);go_simp;try with_reducible rfl)
            try simp only[Act.put,getElem_toArray,getElem_cons_zero,getElem_cons_succ,setIfInBounds_toArray,set_cons_zero,set_cons_succ]
            refine Ways.takeS (i:=3) (v:=?_) rfl (by kernel_rfl) (fun _ _ _ h=>h) (Or.inl ⟨by rfl, ?_⟩) hHeld ?_
            rotate_left
            ·(intro w hSw;(try dsimp only at hSw);go_simp;try with_reducible rfl)
            try simp only[Act.put,getElem_toArray,getElem_cons_zero,getElem_cons_succ,setIfInBounds_toArray,set_cons_zero,set_cons_succ]
            refine Ways.takeS (i:=4) (v:=?_) rfl (by kernel_rfl) (fun _ _ _ h=>h) (Or.inl ⟨?_, ?_⟩) hHeld ?_
            rotate_left
            ·kernel_rfl
            ·(intro w hSw;(try dsimp only at hSw);go_simp;try with_reducible rfl)
            try simp only[Act.put,getElem_toArray,getElem_cons_zero,getElem_cons_succ,setIfInBounds_toArray,set_cons_zero,set_cons_succ]
            refine Ways.takeS (i:=6) (v:=?_) rfl (by kernel_rfl) (fun _ _ _ h=>h) (Or.inl ⟨?_, ?_⟩) hHeld ?_
            rotate_left
            ·kernel_rfl
            ·(intro w hSw;(try dsimp only at hSw);go_simp;try with_reducible rfl)
            try simp only[Act.put,getElem_toArray,getElem_cons_zero,getElem_cons_succ,setIfInBounds_toArray,set_cons_zero,set_cons_succ]
            refine Ways.takeS (i:=7) (v:=?_) rfl (by kernel_rfl) (fun _ _ _ h=>h) (Or.inl ⟨?_, ?_⟩) hHeld ?_
            rotate_left
            ·kernel_rfl
            ·(intro w hSw;(try dsimp only at hSw);go_simp;try with_reducible rfl)
            try simp only[Act.put,getElem_toArray,getElem_cons_zero,getElem_cons_succ,setIfInBounds_toArray,set_cons_zero,set_cons_succ]
            refine Ways.takeS (i:=10) (v:=?_) rfl (by kernel_rfl) (fun _ _ _ h=>h) (Or.inl ⟨?_, ?_⟩) hHeld ?_
            rotate_left
            ·kernel_rfl
            ·(intro w hSw;(try dsimp only at hSw);go_simp;try with_reducible rfl)
            try simp only[Act.put,getElem_toArray,getElem_cons_zero,getElem_cons_succ,setIfInBounds_toArray,set_cons_zero,set_cons_succ]
            refine Ways.takeS (i:=11) (v:=?_) rfl (by kernel_rfl) (fun _ _ _ h=>h) (Or.inl ⟨?_, ?_⟩) hHeld ?_
            rotate_left
            ·kernel_rfl
            ·(intro w hSw;(try dsimp only at hSw);go_simp;try with_reducible rfl)
            try simp only[Act.put,getElem_toArray,getElem_cons_zero,getElem_cons_succ,setIfInBounds_toArray,set_cons_zero,set_cons_succ]
            refine Ways.takeS (i:=13) (v:=?_) rfl (by kernel_rfl) (fun _ _ _ h=>h) (Or.inl ⟨?_, ?_⟩) hHeld ?_
            rotate_left
            ·kernel_rfl
            ·(intro w hSw;(try dsimp only at hSw);go_simp;try with_reducible rfl)
            try simp only[Act.put,getElem_toArray,getElem_cons_zero,getElem_cons_succ,setIfInBounds_toArray,set_cons_zero,set_cons_succ]
            refine Ways.takeS (i:=14) (v:=?_) rfl (by kernel_rfl) (fun _ _ _ h=>h) (Or.inl ⟨?_, ?_⟩) hHeld ?_
            rotate_left
            ·kernel_rfl
            ·(intro w hSw;(try dsimp only at hSw);go_simp;try with_reducible rfl)
            try simp only[Act.put,getElem_toArray,getElem_cons_zero,getElem_cons_succ,setIfInBounds_toArray,set_cons_zero,set_cons_succ]
            refine Ways.one (i:=5) rfl (by kernel_rfl) (fun K hK=>?_)
            go_simp
            refine(CW4.out _ _ (by repeat (first | exact hHq | exact hHq.drew | refine Holds.drewN ?_ _))).mono ?_
            rintro e w5 ⟨rfl,q5,rfl⟩
            refine hK.out _ _ (fun _=>?_) (fun hHeld=>?_)
            ·exact trivial
            clear hK K
            have hHeld:=hHeld (by decide)
            try simp only[Act.put,getElem_toArray,getElem_cons_zero,getElem_cons_succ,setIfInBounds_toArray,set_cons_zero,set_cons_succ]
            refine Ways.one (i:=8) rfl (by kernel_rfl) (fun K hK=>?_)
            go_simp
            refine(CW5.out _ _ (by repeat (first | exact hHq | exact hHq.drew | refine Holds.drewN ?_ _))).mono ?_
            rintro e w5 ⟨rfl,q5,rfl⟩
            refine hK.out _ _ (fun _=>?_) (fun hHeld=>?_)
            ·exact trivial
            clear hK K
            have hHeld:=hHeld (by decide)
            try simp only[Act.put,getElem_toArray,getElem_cons_zero,getElem_cons_succ,setIfInBounds_toArray,set_cons_zero,set_cons_succ]
            refine Ways.takeS (i:=9) (v:=?_) rfl (by kernel_rfl) (fun _ _ _ h=>h) (Or.inl ⟨?_, ?_⟩) hHeld ?_
            rotate_left
            ·kernel_rfl
            ·(intro w hSw;(try dsimp only at hSw);go_simp;try with_reducible rfl)
            try simp only[Act.put,getElem_toArray,getElem_cons_zero,getElem_cons_succ,setIfInBounds_toArray,set_cons_zero,set_cons_succ]
            refine Ways.one (i:=12) rfl (by kernel_rfl) (fun K hK=>?_)
            go_simp
            refine(CW6.out _ _ (by repeat (first | exact hHq | exact hHq.drew | refine Holds.drewN ?_ _))).mono ?_
            rintro e w5 ⟨rfl,q5,rfl⟩
            refine hK.out _ _ (fun _=>?_) (fun hHeld=>?_)
            ·exact trivial
            clear hK K
            have hHeld:=hHeld (by decide)
            try simp only[Act.put,getElem_toArray,getElem_cons_zero,getElem_cons_succ,setIfInBounds_toArray,set_cons_zero,set_cons_succ]
            refine Ways.one (i:=15) rfl (by kernel_rfl) (fun K hK=>?_)
            go_simp
            refine(CW7.out _ _ (by repeat (first | exact hHq | exact hHq.drew | refine Holds.drewN ?_ _))).mono ?_
            rintro e w5 ⟨rfl,q5,rfl⟩
            refine hK.out _ _ (fun _=>?_) (fun hHeld=>?_)
            ·exact trivial
            clear hK K
            have hHeld:=hHeld (by decide)
            try simp only[Act.put,getElem_toArray,getElem_cons_zero,getElem_cons_succ,setIfInBounds_toArray,set_cons_zero,set_cons_succ]
            refine Ways.takeS (i:=16) (v:=?_) rfl (by kernel_rfl) (fun _ _ _ h=>h) (Or.inl ⟨?_, ?_⟩) hHeld ?_
            rotate_left
            ·kernel_rfl
            ·(intro w hSw;(try dsimp only at hSw);go_simp;try with_reducible rfl)
            try simp only[Act.put,getElem_toArray,getElem_cons_zero,getElem_cons_succ,setIfInBounds_toArray,set_cons_zero,set_cons_succ]
            refine Ways.takeS (i:=17) (v:=?_) rfl (by kernel_rfl) (fun _ _ _ h=>h) (Or.inl ⟨?_, ?_⟩) hHeld ?_
            rotate_left
            ·kernel_rfl
            ·(intro w hSw;(try dsimp only at hSw);go_simp;try with_reducible rfl)
            try simp only[Act.put,getElem_toArray,getElem_cons_zero,getElem_cons_succ,setIfInBounds_toArray,set_cons_zero,set_cons_succ]
            refine Ways.takeS (i:=18) (v:=?_) rfl (by kernel_rfl) (fun _ _ _ h=>h) (Or.inl ⟨?_, ?_⟩) hHeld ?_
            rotate_left
            ·kernel_rfl
            ·(intro w hSw;(try dsimp only at hSw);go_simp;try with_reducible rfl)
            try simp only[Act.put,getElem_toArray,getElem_cons_zero,getElem_cons_succ,setIfInBounds_toArray,set_cons_zero,set_cons_succ]
            refine Ways.takeS (i:=19) (v:=?_) rfl (by kernel_rfl) (fun _ _ _ h=>h) (Or.inl ⟨?_, ?_⟩) hHeld ?_
            rotate_left
            ·kernel_rfl
            ·(intro w hSw;(try dsimp only at hSw);go_simp;try with_reducible rfl)
            try simp only[Act.put,getElem_toArray,getElem_cons_zero,getElem_cons_succ,setIfInBounds_toArray,set_cons_zero,set_cons_succ]
            refine Ways.takeS (i:=20) (v:=?_) rfl (by kernel_rfl) (fun _ _ _ h=>h) (Or.inl ⟨by rfl, ?_⟩) hHeld ?_
            rotate_left
            ·(intro w hSw;(try dsimp only at hSw);go_simp;try with_reducible rfl)
            try simp only[Act.put,getElem_toArray,getElem_cons_zero,getElem_cons_succ,setIfInBounds_toArray,set_cons_zero,set_cons_succ]
            refine Ways.done (by kernel_rfl) ?_
            go_wp2_with fail
            go_meet
            exact⟨rfl,rfl,by repeat (first | exact hbq | exact hbq.drew | refine below_drewNv ?_ _)⟩
           case rest =>
            clear hbc hHc
            obtain⟨rfl,rfl,hbc⟩:=hcut
            cases zz3 with
            | true =>
             have hz3:Z3=0:=by have:=HZ3.out;simpa using this
             have hcu:=HCU.out
             obtain⟨u2,hu2⟩:∃ u2,u.extract 32 u.size=u2:=⟨_,rfl⟩
             have zu2:u.size-32=u2.size:=by rw[← hu2,Lib.ext_size]
             have sbu2:=SB.skipc hcu 32 (by omega)
             rw[hu2,if_neg (by omega)]at sbu2
             obtain⟨Bu2,hBu2⟩:∃ B,some (⟨bu,ou+32,none⟩:Addr)=B:=⟨_,rfl⟩
             rw[hBu2]at sbu2
             have VU2:Hid (Lib.validD u2.data.toList=ANS):=by rw[Hid,← hu2,Lib.valid_skip u 32 (K3.out hz3)];exact VU.out
             have HU2:=Lib.hid (And.intro zu2 hBu2)
             have HLU:=Lib.hid (show u2.size<u.size∧u2.size≤t3.size by omega)
             clear zu2 hu2 hBu2 hcu hz3 hzz3 hand3 ho1 ho2 ho3 zub zuc zud houb houc houd
             go_wp2_with fail
             rw[HU2.out.2,HU2.out.1]
             go_roundw
             case rel=>exact⟨_,u2,rfl,sbu2,VU2.out,HLU.out.2,hbc⟩
             case measure=>have:=HLU.out.1;simp[lenV];omega
            | false =>
             have hu0:SB H (some ⟨bu,ou,none⟩) u:=fun _=>⟨bu,ou,rfl,HCU.out⟩
             have HL2:=Lib.hid (show u.size<t.size∧u.size≤t0.size by have:=HLT.out;omega)
             go_wp2_with fail
             go_roundw
             case rel=>exact⟨_,u,rfl,hu0,VU.out,HL2.out.2,hbc⟩
             case measure=>have:=HL2.out.1;simp[lenV];omega
          ·have c32z:¬ ((32:Int)<(u.size:Int)):=by omega
           have c32b:decide ((32:Int)<(u.size:Int))=false:=decide_eq_false c32z
           have HL2:=Lib.hid (show u.size<t.size∧u.size≤t0.size by have:=HLT.out;omega)
           go_upto_region 10 with fail
           go_big_quiet (fail)
           have hbc:=below_drewNv hbc nq
           go_wp2_with fail
           go_roundw
           case rel=>exact⟨_,u,rfl,sbu,VU.out,HL2.out.2,hbc⟩
           case measure=>have:=HL2.out.1;simp[lenV];omega
        | false =>
         have hu0:SB H (some ⟨b2,off2,none⟩) t2:=fun _=>⟨b2,off2,rfl,HCT2.out⟩
         have HLT:=Lib.hid (show t2.size<t.size∧t2.size≤t0.size by have:=HT1.out.1;have:=HT2.out.1;omega)
         go_wp2_with fail
         go_roundw
         case rel=>exact⟨_,t2,rfl,hu0,V2.out,HLT.out.2,hbc⟩
         case measure=>have:=HLT.out.1;simp[lenV];omega
      ·have c16z:¬ ((16:Int)<(t2.size:Int)):=by omega
       have c16b:decide ((16:Int)<(t2.size:Int))=false:=decide_eq_false c16z
       have HLT:=Lib.hid (show t2.size<t.size∧t2.size≤t0.size by have:=HT1.out.1;have:=HT2.out.1;omega)
       go_big_quiet (fail)
       have hbc:=below_drewNv hbc nq
       go_wp2_with fail
       go_roundw
       case rel=>exact⟨_,t2,rfl,sbt2,V2.out,HLT.out.2,hbc⟩
       case measure=>have:=HLT.out.1;simp[lenV];omega
     ·have hz1b:((Z1:Int)==0)=false:=by simp;omega
      have HLT:=Lib.hid (show t1.size<t.size∧t1.size≤t0.size by have:=HT1.out.1;omega)
      go_wp2_with (go_at_call 148;refine stop_in ?_)
      unfold Stopped
      refine(CW1.out _ _ hHr).mono ?_
      rintro e w5 ⟨rfl,q5,rfl⟩
      have hbc:=below_drewNv hbw q5
      go_wp2_with fail
      go_roundw
      case rel=>exact⟨_,t1,rfl,HSB1.out,V1.out,HLT.out.2,hbc⟩
      case measure=>have:=HLT.out.1;simp[lenV];omega
    ·have c8z:¬ ((8:Int)<(t1.size:Int)):=by omega
     have HLT:=Lib.hid (show t1.size<t.size∧t1.size≤t0.size by have:=HT1.out.1;omega)
     go_wp2_with fail
     go_roundw
     case rel=>exact⟨_,t1,rfl,sbt1,V1.out,HLT.out.2,hbw⟩
     case measure=>have:=HLT.out.1;simp[lenV];omega
   ·have hge:128≤x0.toNat:=by omega
    have hascz:¬ ((x0.toNat:Int)<128):=by omega
    obtain⟨x1,hx1⟩:∃ x1,t.get! 1=x1:=⟨_,rfl⟩
    obtain⟨x2,hx2⟩:∃ x2,t.get! 2=x2:=⟨_,rfl⟩
    obtain⟨x3,hx3⟩:∃ x3,t.get! 3=x3:=⟨_,rfl⟩
    have l1:=x1.toNat_lt;have l2:=x2.toNat_lt;have l3:=x3.toNat_lt
    have hne:t.data.toList≠[]:=fun h=>by rw[Lib.size_eq,h]at h0;simp at h0
    have hlead:=Lib.validD_lead t.data.toList hne (by rw[Lib.getD_get!',hx0];exact hge)
    rw[Lib.getD_get!',Lib.getD_get!',Lib.getD_get!',Lib.getD_get!',hx0,hx1,hx2,hx3,← Lib.size_eq,HV.out]at hlead
    have hTr:=hT wr hHr
    have hc0:=hTr.1 x0.toNat (by omega)
    have hXlt:Lib.firstT x0.toNat<256:=by rcases Lib.firstT_cases x0.toNat with h | h | h | h | h | h | h | h | h <;> omega
    obtain⟨X,hX⟩:∃ X,Lib.firstT x0.toNat=X:=⟨_,rfl⟩
    rw[hX]at hc0 hXlt hlead
    have h7:=and7 ⟨X,hXlt⟩
    simp only at h7
    have ha0:wr.cell? ⟨1,X/16*2,none⟩=some (.int .u8 (Lib.accLo (X/16))):=by rw[Nat.mul_comm];exact(hTr.2 (X/16) (by omega)).1
    have ha1:wr.cell? ⟨1,X/16*2+1,none⟩=some (.int .u8 (Lib.accHi (X/16))):=by rw[Nat.mul_comm];exact(hTr.2 (X/16) (by omega)).2
    obtain⟨LO,hLO⟩:∃ LO,Lib.accLo (X/16)=LO:=⟨_,rfl⟩
    obtain⟨HI,hHI⟩:∃ HI,Lib.accHi (X/16)=HI:=⟨_,rfl⟩
    rw[hLO]at ha0 hlead
    rw[hHI]at ha1 hlead
    obtain⟨SZ,hSZ⟩:∃ SZ,X%8=SZ:=⟨_,rfl⟩
    rw[hSZ]at hlead
    have hBN:=Blk.new wr 95 #[.int .u8 (LO:Int),.int .u8 (HI:Int)]
    have hbN:=hbw.alloc hbw.size (.cells #[.int .u8 (LO:Int),.int .u8 (HI:Int)] 95)
    have hHN:=hHr.alloc (.cells #[.int .u8 (LO:Int),.int .u8 (HI:Int)] 95)
    obtain⟨N,hN⟩:∃ N,wr.heap.size=N:=⟨_,rfl⟩
    rw[hN]at hBN
    clear hTr hX hLO hHI hne hsb hct
    by_cases s2:SZ=2
    ·as_aux_lemma =>
     subst s2
     have hSZz:(X:Int)%8=2:=by omega
     simp only[Lib.checkN,Nat.reduceEqDiff,if_true,if_false]at hlead
     have HLD:=Lib.hid hlead
     clear hlead
     go_upto_region 18 with fail
     generalize wr.alloc (.cells #[.int .u8 (LO:Int),.int .u8 (HI:Int)] 95)=wN at hBN hbN hHN⊢
     have n0:=hBN.cell 0 rfl
     have n1:=hBN.cell 1 rfl
     go_cut [103] (fun cc wx=>cc=.bool (decide (t.size<2∨x1.toNat<LO∨HI<x1.toNat))∧Below w.heap.size w wx)
     case first =>
      by_cases q0:t.size<2
      ·have q0z:(t.size:Int)<2:=by omega
       go_big_quiet (fail)
       go_wp2_with fail
       go_meet
       exact⟨congrArg Value.bool (decide_eq_true (p:=t.size<2∨x1.toNat<LO∨HI<x1.toNat) (by omega)).symm,below_drewNv hbN nq⟩
      ·have q0z:¬ ((t.size:Int)<2):=by omega
       have q0b:decide ((t.size:Int)<2)=false:=decide_eq_false q0z
       have hz1:(1:Int)<(t.size:Int):=by omega
       have hp1:1<t.size:=by omega
       have d1:wN.cell? ⟨b,off+1,none⟩=some (.int .u8 (x1.toNat:Int)):=by rw[← hx1];exact hHN.cell (HCT.out 1 (by omega))
       by_cases q1:x1.toNat<LO
       ·have q1z:((x1.toNat:Int)<(LO:Int)):=by omega
        go_big_quiet (fail)
        go_wp2_with fail
        go_meet
        exact⟨congrArg Value.bool (decide_eq_true (p:=t.size<2∨x1.toNat<LO∨HI<x1.toNat) (by omega)).symm,below_drewNv hbN nq⟩
       ·have q1z:¬ ((x1.toNat:Int)<(LO:Int)):=by omega
        have q1b:decide ((x1.toNat:Int)<(LO:Int))=false:=decide_eq_false q1z
        by_cases q2:HI<x1.toNat
        ·have q2z:((HI:Int)<(x1.toNat:Int)):=by omega
         go_big_quiet (fail)
         go_wp2_with fail
         go_meet
         exact⟨congrArg Value.bool (decide_eq_true (p:=t.size<2∨x1.toNat<LO∨HI<x1.toNat) (by omega)).symm,below_drewNv hbN nq⟩
        ·have q2z:¬ ((HI:Int)<(x1.toNat:Int)):=by omega
         have q2b:decide ((HI:Int)<(x1.toNat:Int))=false:=decide_eq_false q2z
         go_big_quiet (fail)
         go_wp2_with fail
         go_meet
         exact⟨congrArg Value.bool (decide_eq_false (p:=t.size<2∨x1.toNat<LO∨HI<x1.toNat) (by omega)).symm,below_drewNv hbN nq⟩
     case rest =>
      obtain⟨rfl,hbc⟩:=hcut
      by_cases hb:t.size<2∨x1.toNat<LO∨HI<x1.toNat
      ·have hbd:decide (t.size<2∨x1.toNat<LO∨HI<x1.toNat)=true:=decide_eq_true hb
       have hlead:=HLD.out
       rw[if_pos hb]at hlead
       rw[hbd]
       clear hb hbd HLD n0 n1
       go_wp2_with fail
       go_ret
       exact⟨by first | rfl | rw[hlead],hbc⟩
      ·have hbd:decide (t.size<2∨x1.toNat<LO∨HI<x1.toNat)=false:=decide_eq_false hb
       have hlead:=HLD.out
       rw[if_neg hb]at hlead
       rw[hbd]
       have hle:(2:Int)≤(t.size:Int):=by omega
       have hct:=HCT.out
       obtain⟨t1,ht1⟩:∃ t1,t.extract 2 t.size=t1:=⟨_,rfl⟩
       have zt1:t.size-2=t1.size:=by rw[← ht1,Lib.ext_size]
       have sbt1:=SB.skipc hct 2 (by omega)
       rw[ht1]at sbt1
       obtain⟨Bt1,hBt1⟩:∃ B,(if t.size=2 then some (⟨b,off,none⟩:Addr) else some ⟨b,off+2,none⟩)=B:=⟨_,rfl⟩
       rw[hBt1]at sbt1
       have HE:=Lib.hid (And.intro zt1 hBt1)
       have HV1:=Lib.hid (show Lib.validD t1.data.toList=ANS by rw[← ht1,Lib.ext_list,hlead])
       have HLT:=Lib.hid (show t1.size<t.size∧t1.size≤t0.size by omega)
       clear hb hbd HLD hlead zt1 hBt1 ht1 hct n0 n1
       go_wp2_with fail
       go_roundw
       case rel=>exact⟨Bt1,t1,by rw[HE.out.1,HE.out.2],sbt1,HV1.out,HLT.out.2,hbc⟩
       case measure=>have:=HLT.out.1;have:=HE.out.1;simp[lenV];omega
    by_cases s3:SZ=3
    ·as_aux_lemma =>
     subst s3
     have hSZz:(X:Int)%8=3:=by omega
     simp only[Lib.checkN,Nat.reduceEqDiff,if_true,if_false]at hlead
     have HLD:=Lib.hid hlead
     clear hlead
     go_upto_region 22 with fail
     generalize wr.alloc (.cells #[.int .u8 (LO:Int),.int .u8 (HI:Int)] 95)=wN at hBN hbN hHN⊢
     have n0:=hBN.cell 0 rfl
     have n1:=hBN.cell 1 rfl
     go_cut [138] (fun cc wx=>cc=.bool (decide (t.size<3∨x1.toNat<LO∨HI<x1.toNat∨x2.toNat<128∨191<x2.toNat))∧Below w.heap.size w wx)
     case first =>
      by_cases q0:t.size<3
      ·have q0z:(t.size:Int)<3:=by omega
       go_big_quiet (fail)
       go_wp2_with fail
       go_meet
       exact⟨congrArg Value.bool (decide_eq_true (p:=t.size<3∨x1.toNat<LO∨HI<x1.toNat∨x2.toNat<128∨191<x2.toNat) (by omega)).symm,below_drewNv hbN nq⟩
      ·have q0z:¬ ((t.size:Int)<3):=by omega
       have q0b:decide ((t.size:Int)<3)=false:=decide_eq_false q0z
       have hz1:(1:Int)<(t.size:Int):=by omega
       have hp1:1<t.size:=by omega
       have d1:wN.cell? ⟨b,off+1,none⟩=some (.int .u8 (x1.toNat:Int)):=by rw[← hx1];exact hHN.cell (HCT.out 1 (by omega))
       have hz2:(2:Int)<(t.size:Int):=by omega
       have hp2:2<t.size:=by omega
       have d2:wN.cell? ⟨b,off+2,none⟩=some (.int .u8 (x2.toNat:Int)):=by rw[← hx2];exact hHN.cell (HCT.out 2 (by omega))
       by_cases q1:x1.toNat<LO
       ·have q1z:((x1.toNat:Int)<(LO:Int)):=by omega
        go_big_quiet (fail)
        go_wp2_with fail
        go_meet
        exact⟨congrArg Value.bool (decide_eq_true (p:=t.size<3∨x1.toNat<LO∨HI<x1.toNat∨x2.toNat<128∨191<x2.toNat) (by omega)).symm,below_drewNv hbN nq⟩
       ·have q1z:¬ ((x1.toNat:Int)<(LO:Int)):=by omega
        have q1b:decide ((x1.toNat:Int)<(LO:Int))=false:=decide_eq_false q1z
        by_cases q2:HI<x1.toNat
        ·have q2z:((HI:Int)<(x1.toNat:Int)):=by omega
         go_big_quiet (fail)
         go_wp2_with fail
         go_meet
         exact⟨congrArg Value.bool (decide_eq_true (p:=t.size<3∨x1.toNat<LO∨HI<x1.toNat∨x2.toNat<128∨191<x2.toNat) (by omega)).symm,below_drewNv hbN nq⟩
        ·have q2z:¬ ((HI:Int)<(x1.toNat:Int)):=by omega
         have q2b:decide ((HI:Int)<(x1.toNat:Int))=false:=decide_eq_false q2z
         by_cases q3:x2.toNat<128
         ·have q3z:((x2.toNat:Int)<128):=by omega
          go_big_quiet (fail)
          go_wp2_with fail
          go_meet
          exact⟨congrArg Value.bool (decide_eq_true (p:=t.size<3∨x1.toNat<LO∨HI<x1.toNat∨x2.toNat<128∨191<x2.toNat) (by omega)).symm,below_drewNv hbN nq⟩
         ·have q3z:¬ ((x2.toNat:Int)<128):=by omega
          have q3b:decide ((x2.toNat:Int)<128)=false:=decide_eq_false q3z
          by_cases q4:191<x2.toNat
          ·have q4z:((191:Int)<(x2.toNat:Int)):=by omega
           go_big_quiet (fail)
           go_wp2_with fail
           go_meet
           exact⟨congrArg Value.bool (decide_eq_true (p:=t.size<3∨x1.toNat<LO∨HI<x1.toNat∨x2.toNat<128∨191<x2.toNat) (by omega)).symm,below_drewNv hbN nq⟩
          ·have q4z:¬ ((191:Int)<(x2.toNat:Int)):=by omega
           have q4b:decide ((191:Int)<(x2.toNat:Int))=false:=decide_eq_false q4z
           go_big_quiet (fail)
           go_wp2_with fail
           go_meet
           exact⟨congrArg Value.bool (decide_eq_false (p:=t.size<3∨x1.toNat<LO∨HI<x1.toNat∨x2.toNat<128∨191<x2.toNat) (by omega)).symm,below_drewNv hbN nq⟩
     case rest =>
      obtain⟨rfl,hbc⟩:=hcut
      by_cases hb:t.size<3∨x1.toNat<LO∨HI<x1.toNat∨x2.toNat<128∨191<x2.toNat
      ·have hbd:decide (t.size<3∨x1.toNat<LO∨HI<x1.toNat∨x2.toNat<128∨191<x2.toNat)=true:=decide_eq_true hb
       have hlead:=HLD.out
       rw[if_pos hb]at hlead
       rw[hbd]
       clear hb hbd HLD n0 n1
       go_wp2_with fail
       go_ret
       exact⟨by first | rfl | rw[hlead],hbc⟩
      ·have hbd:decide (t.size<3∨x1.toNat<LO∨HI<x1.toNat∨x2.toNat<128∨191<x2.toNat)=false:=decide_eq_false hb
       have hlead:=HLD.out
       rw[if_neg hb]at hlead
       rw[hbd]
       have hle:(3:Int)≤(t.size:Int):=by omega
       have hct:=HCT.out
       obtain⟨t1,ht1⟩:∃ t1,t.extract 3 t.size=t1:=⟨_,rfl⟩
       have zt1:t.size-3=t1.size:=by rw[← ht1,Lib.ext_size]
       have sbt1:=SB.skipc hct 3 (by omega)
       rw[ht1]at sbt1
       obtain⟨Bt1,hBt1⟩:∃ B,(if t.size=3 then some (⟨b,off,none⟩:Addr) else some ⟨b,off+3,none⟩)=B:=⟨_,rfl⟩
       rw[hBt1]at sbt1
       have HE:=Lib.hid (And.intro zt1 hBt1)
       have HV1:=Lib.hid (show Lib.validD t1.data.toList=ANS by rw[← ht1,Lib.ext_list,hlead])
       have HLT:=Lib.hid (show t1.size<t.size∧t1.size≤t0.size by omega)
       clear hb hbd HLD hlead zt1 hBt1 ht1 hct n0 n1
       go_wp2_with fail
       go_roundw
       case rel=>exact⟨Bt1,t1,by rw[HE.out.1,HE.out.2],sbt1,HV1.out,HLT.out.2,hbc⟩
       case measure=>have:=HLT.out.1;have:=HE.out.1;simp[lenV];omega
    by_cases s4:SZ=4
    ·as_aux_lemma =>
     subst s4
     have hSZz:(X:Int)%8=4:=by omega
     simp only[Lib.checkN,Nat.reduceEqDiff,if_true,if_false]at hlead
     have HLD:=Lib.hid hlead
     clear hlead
     go_upto_region 26 with fail
     generalize wr.alloc (.cells #[.int .u8 (LO:Int),.int .u8 (HI:Int)] 95)=wN at hBN hbN hHN⊢
     have n0:=hBN.cell 0 rfl
     have n1:=hBN.cell 1 rfl
     go_cut [185] (fun cc wx=>cc=.bool (decide (t.size<4∨x1.toNat<LO∨HI<x1.toNat∨x2.toNat<128∨191<x2.toNat∨x3.toNat<128∨191<x3.toNat))∧Below w.heap.size w wx)
     case first =>
      by_cases q0:t.size<4
      ·have q0z:(t.size:Int)<4:=by omega
       go_big_quiet (fail)
       go_wp2_with fail
       go_meet
       exact⟨congrArg Value.bool (decide_eq_true (p:=t.size<4∨x1.toNat<LO∨HI<x1.toNat∨x2.toNat<128∨191<x2.toNat∨x3.toNat<128∨191<x3.toNat) (by omega)).symm,below_drewNv hbN nq⟩
      ·have q0z:¬ ((t.size:Int)<4):=by omega
       have q0b:decide ((t.size:Int)<4)=false:=decide_eq_false q0z
       have hz1:(1:Int)<(t.size:Int):=by omega
       have hp1:1<t.size:=by omega
       have d1:wN.cell? ⟨b,off+1,none⟩=some (.int .u8 (x1.toNat:Int)):=by rw[← hx1];exact hHN.cell (HCT.out 1 (by omega))
       have hz2:(2:Int)<(t.size:Int):=by omega
       have hp2:2<t.size:=by omega
       have d2:wN.cell? ⟨b,off+2,none⟩=some (.int .u8 (x2.toNat:Int)):=by rw[← hx2];exact hHN.cell (HCT.out 2 (by omega))
       have hz3:(3:Int)<(t.size:Int):=by omega
       have hp3:3<t.size:=by omega
       have d3:wN.cell? ⟨b,off+3,none⟩=some (.int .u8 (x3.toNat:Int)):=by rw[← hx3];exact hHN.cell (HCT.out 3 (by omega))
       by_cases q1:x1.toNat<LO
       ·have q1z:((x1.toNat:Int)<(LO:Int)):=by omega
        go_big_quiet (fail)
        go_wp2_with fail
        go_meet
        exact⟨congrArg Value.bool (decide_eq_true (p:=t.size<4∨x1.toNat<LO∨HI<x1.toNat∨x2.toNat<128∨191<x2.toNat∨x3.toNat<128∨191<x3.toNat) (by omega)).symm,below_drewNv hbN nq⟩
       ·have q1z:¬ ((x1.toNat:Int)<(LO:Int)):=by omega
        have q1b:decide ((x1.toNat:Int)<(LO:Int))=false:=decide_eq_false q1z
        by_cases q2:HI<x1.toNat
        ·have q2z:((HI:Int)<(x1.toNat:Int)):=by omega
         go_big_quiet (fail)
         go_wp2_with fail
         go_meet
         exact⟨congrArg Value.bool (decide_eq_true (p:=t.size<4∨x1.toNat<LO∨HI<x1.toNat∨x2.toNat<128∨191<x2.toNat∨x3.toNat<128∨191<x3.toNat) (by omega)).symm,below_drewNv hbN nq⟩
        ·have q2z:¬ ((HI:Int)<(x1.toNat:Int)):=by omega
         have q2b:decide ((HI:Int)<(x1.toNat:Int))=false:=decide_eq_false q2z
         by_cases q3:x2.toNat<128
         ·have q3z:((x2.toNat:Int)<128):=by omega
          go_big_quiet (fail)
          go_wp2_with fail
          go_meet
          exact⟨congrArg Value.bool (decide_eq_true (p:=t.size<4∨x1.toNat<LO∨HI<x1.toNat∨x2.toNat<128∨191<x2.toNat∨x3.toNat<128∨191<x3.toNat) (by omega)).symm,below_drewNv hbN nq⟩
         ·have q3z:¬ ((x2.toNat:Int)<128):=by omega
          have q3b:decide ((x2.toNat:Int)<128)=false:=decide_eq_false q3z
          by_cases q4:191<x2.toNat
          ·have q4z:((191:Int)<(x2.toNat:Int)):=by omega
           go_big_quiet (fail)
           go_wp2_with fail
           go_meet
           exact⟨congrArg Value.bool (decide_eq_true (p:=t.size<4∨x1.toNat<LO∨HI<x1.toNat∨x2.toNat<128∨191<x2.toNat∨x3.toNat<128∨191<x3.toNat) (by omega)).symm,below_drewNv hbN nq⟩
          ·have q4z:¬ ((191:Int)<(x2.toNat:Int)):=by omega
           have q4b:decide ((191:Int)<(x2.toNat:Int))=false:=decide_eq_false q4z
           by_cases q5:x3.toNat<128
           ·have q5z:((x3.toNat:Int)<128):=by omega
            go_big_quiet (fail)
            go_wp2_with fail
            go_meet
            exact⟨congrArg Value.bool (decide_eq_true (p:=t.size<4∨x1.toNat<LO∨HI<x1.toNat∨x2.toNat<128∨191<x2.toNat∨x3.toNat<128∨191<x3.toNat) (by omega)).symm,below_drewNv hbN nq⟩
           ·have q5z:¬ ((x3.toNat:Int)<128):=by omega
            have q5b:decide ((x3.toNat:Int)<128)=false:=decide_eq_false q5z
            by_cases q6:191<x3.toNat
            ·have q6z:((191:Int)<(x3.toNat:Int)):=by omega
             go_big_quiet (fail)
             go_wp2_with fail
             go_meet
             exact⟨congrArg Value.bool (decide_eq_true (p:=t.size<4∨x1.toNat<LO∨HI<x1.toNat∨x2.toNat<128∨191<x2.toNat∨x3.toNat<128∨191<x3.toNat) (by omega)).symm,below_drewNv hbN nq⟩
            ·have q6z:¬ ((191:Int)<(x3.toNat:Int)):=by omega
             have q6b:decide ((191:Int)<(x3.toNat:Int))=false:=decide_eq_false q6z
             go_big_quiet (fail)
             go_wp2_with fail
             go_meet
             exact⟨congrArg Value.bool (decide_eq_false (p:=t.size<4∨x1.toNat<LO∨HI<x1.toNat∨x2.toNat<128∨191<x2.toNat∨x3.toNat<128∨191<x3.toNat) (by omega)).symm,below_drewNv hbN nq⟩
     case rest =>
      obtain⟨rfl,hbc⟩:=hcut
      by_cases hb:t.size<4∨x1.toNat<LO∨HI<x1.toNat∨x2.toNat<128∨191<x2.toNat∨x3.toNat<128∨191<x3.toNat
      ·have hbd:decide (t.size<4∨x1.toNat<LO∨HI<x1.toNat∨x2.toNat<128∨191<x2.toNat∨x3.toNat<128∨191<x3.toNat)=true:=decide_eq_true hb
       have hlead:=HLD.out
       rw[if_pos hb]at hlead
       rw[hbd]
       clear hb hbd HLD n0 n1
       go_wp2_with fail
       go_ret
       exact⟨by first | rfl | rw[hlead],hbc⟩
      ·have hbd:decide (t.size<4∨x1.toNat<LO∨HI<x1.toNat∨x2.toNat<128∨191<x2.toNat∨x3.toNat<128∨191<x3.toNat)=false:=decide_eq_false hb
       have hlead:=HLD.out
       rw[if_neg hb]at hlead
       rw[hbd]
       have hle:(4:Int)≤(t.size:Int):=by omega
       have hct:=HCT.out
       obtain⟨t1,ht1⟩:∃ t1,t.extract 4 t.size=t1:=⟨_,rfl⟩
       have zt1:t.size-4=t1.size:=by rw[← ht1,Lib.ext_size]
       have sbt1:=SB.skipc hct 4 (by omega)
       rw[ht1]at sbt1
       obtain⟨Bt1,hBt1⟩:∃ B,(if t.size=4 then some (⟨b,off,none⟩:Addr) else some ⟨b,off+4,none⟩)=B:=⟨_,rfl⟩
       rw[hBt1]at sbt1
       have HE:=Lib.hid (And.intro zt1 hBt1)
       have HV1:=Lib.hid (show Lib.validD t1.data.toList=ANS by rw[← ht1,Lib.ext_list,hlead])
       have HLT:=Lib.hid (show t1.size<t.size∧t1.size≤t0.size by omega)
       clear hb hbd HLD hlead zt1 hBt1 ht1 hct n0 n1
       go_wp2_with fail
       go_roundw
       case rel=>exact⟨Bt1,t1,by rw[HE.out.1,HE.out.2],sbt1,HV1.out,HLT.out.2,hbc⟩
       case measure=>have:=HLT.out.1;have:=HE.out.1;simp[lenV];omega
    ·have e2b:(((X:Int)%8)==2)=false:=by simp;omega
     have e3b:(((X:Int)%8)==3)=false:=by simp;omega
     have e4b:(((X:Int)%8)==4)=false:=by simp;omega
     have e2:¬ ((X:Int)%8=2):=by omega
     have e3:¬ ((X:Int)%8=3):=by omega
     have e4:¬ ((X:Int)%8=4):=by omega
     simp only[Lib.checkN,s2,s3,s4,if_false]at hlead
     have HLD:=Lib.hid hlead
     clear hlead
     go_wp2_with fail
     go_ret
     exact⟨by first | rfl | (rw[HLD.out];rfl),hbN⟩
  ·have h0z:¬ ((0:Int)<(t.size:Int)):=by omega
   have ht0:t.data.toList=[]:=List.eq_nil_of_length_eq_zero (by rw[← Lib.size_eq];omega)
   have hv:=HV.out
   rw[ht0,Lib.validD_nil]at hv
   subst hv
   go_wp2_with fail
   go_ret
   exact⟨rfl,hbw⟩
theorem utf8_Valid {H:Snap}(hT:Tabs H) (w:World) (hH:Holds w H) (A:Option Addr) (l:List UInt8) (n c:Nat) (hn:n=l.length) (hb:IsBytes H A c l) :
  Calls Tryz.prog 109 #[.slice A n c] w fun e w'=>e=.returned (.bool (Lib.validD l))∧Below w.heap.size w w':=by
 subst hn
 have hl:(⟨l.toArray⟩:ByteArray).size=l.length:=by show l.toArray.size=l.length;simp
 have h:=utf8_ValidB hT w hH A ⟨l.toArray⟩ c (SB.of hb) (by rw[hl];exact hb.le) (by rw[hl];have:=hb.le;have:=hb.max;omega)
 rw[hl,ba_list]at h
 exact h
set_option maxRecDepth 100000 in
set_option maxHeartbeats 800000 in
theorem cbor_head (m n:Int) (w:World) (hm0:0≤m) (hm:m<8) (h0:0≤n) (h1:n<18446744073709551616) :
  Calls Tryz.prog 93 #[.int .u8 m,.int .u64 n] w fun e w'=>∃ r,e=.returned r∧Fresh w (headB m.toNat n.toNat) r w':=by
 obtain⟨m',hm'⟩:=Int.eq_ofNat_of_zero_le hm0
 obtain⟨n',hn'⟩:=Int.eq_ofNat_of_zero_le h0
 have HM:=Lib.hid hm'
 have HN:=Lib.hid hn'
 have H1:=Lib.hid h1
 clear h1 hm' hn'
 go_enter Tryz.func93,Tryz.ntmps93
 go_wp2
 ·go_ret
  obtain rfl:=HM.out
  obtain rfl:=HN.out
  rw[Int.toNat_natCast,Int.toNat_natCast]
  have hlt:(n':Int)<24:=by with_reducible assumption
  refine⟨_,rfl,Fresh.lit _ _ _ 1 ?_ ?_ ?_⟩
  ·rw[headB_length,if_pos (by omega)]
  ·have:=(headB_le m' n').2;omega
  ·rw[headB,if_pos (by omega)]
   simp only[List.map_cons,List.map_nil,byteV_u8]
   rw[u8_head m' n' (by omega) (by omega),Nat.mod_eq_of_lt (by omega)]
 ·go_ret
  obtain rfl:=HM.out
  obtain rfl:=HN.out
  rw[Int.toNat_natCast,Int.toNat_natCast]
  have hge:(24:Int)≤n':=by with_reducible assumption
  have hlt:(n':Int)<256:=by with_reducible assumption
  refine⟨_,rfl,Fresh.lit _ _ _ 2 ?_ ?_ ?_⟩
  ·rw[headB_length,if_neg (by omega),if_pos (by omega)]
  ·have:=(headB_le m' n').2;omega
  ·rw[headB,if_neg (by omega),if_pos (by omega)]
   simp only[List.map_cons,List.map_nil,byteV_u8]
   have e24':=u8_head m' 24 (by omega) (by omega)
   rw[show((24:Nat):Int)=24 from rfl]at e24'
   rw[e24',Nat.mod_eq_of_lt (by omega),Nat.mod_eq_of_lt (by omega)]
 ·go_ret
  obtain rfl:=HM.out
  obtain rfl:=HN.out
  rw[Int.toNat_natCast,Int.toNat_natCast]
  have hge:(256:Int)≤n':=by with_reducible assumption
  have hlt:(n':Int)<65536:=by with_reducible assumption
  refine⟨_,rfl,Fresh.lit _ _ _ 3 ?_ ?_ ?_⟩
  ·rw[headB_length,if_neg (by omega),if_neg (by omega),if_pos (by omega)]
  ·have:=(headB_le m' n').2;omega
  ·rw[headB,if_neg (by omega),if_neg (by omega),if_pos (by omega)]
   simp only[List.map_cons,List.map_nil,byteV_u8]
   have e24':=u8_head m' 25 (by omega) (by omega)
   rw[show((25:Nat):Int)=25 from rfl]at e24'
   rw[e24',Nat.mod_eq_of_lt (show m'*32+25<256 by omega),Nat.mod_eq_of_lt (show n'/256<256 by omega)]
   rfl
 ·go_ret
  obtain rfl:=HM.out
  obtain rfl:=HN.out
  rw[Int.toNat_natCast,Int.toNat_natCast]
  have hge:(65536:Int)≤n':=by with_reducible assumption
  have hlt:(n':Int)<4294967296:=by with_reducible assumption
  refine⟨_,rfl,Fresh.lit _ _ _ 5 ?_ ?_ ?_⟩
  ·rw[headB_length,if_neg (by omega),if_neg (by omega),if_neg (by omega),if_pos (by omega)]
  ·have:=(headB_le m' n').2;omega
  ·rw[headB,if_neg (by omega),if_neg (by omega),if_neg (by omega),if_pos (by omega)]
   simp only[List.map_cons,List.map_nil,byteV_u8]
   have e24':=u8_head m' 26 (by omega) (by omega)
   rw[show((26:Nat):Int)=26 from rfl]at e24'
   rw[e24',Nat.mod_eq_of_lt (show m'*32+26<256 by omega),Nat.mod_eq_of_lt (show n'/16777216<256 by omega)]
   rfl
 ·have HG:Hid (headB m.toNat n.toNat=u8 (m.toNat*32+27)::be8 n.toNat 8):=by
   have hge:(4294967296:Int)≤n:=by with_reducible assumption
   rw[headB,if_neg (by omega),if_neg (by omega),if_neg (by omega),if_neg (by omega)]
   rfl
  have hst:OwnB (w.alloc (.cells #[.int .u8 (bits .or .u8 (m*32) 27)] 5)) w.heap.size (.slice (some ⟨w.heap.size,0,none⟩) 1 1) [u8 (m.toNat*32+27)]:=by
   refine OwnB.lit w _ _ _ 1 rfl ?_ (Nat.le_refl _) (by simp)
   have e27':=u8_head m.toNat 27 (by omega) (by omega)
   rw[show((27:Nat):Int)=27 from rfl,Int.toNat_of_nonneg hm0]at e27'
   simp only[List.map_cons,List.map_nil,byteV_u8]
   rw[e27',Nat.mod_eq_of_lt (by omega)]
  go_loopw [6,7] (fun v s wr=>∃ k:Nat,k≤8∧s=.int .i64 (56-8*(k:Int))∧OwnB wr w.heap.size v (u8 (m.toNat*32+27)::be8 n.toNat k)∧Below w.heap.size w wr) (fun _ s _=>(intOf s+8).toNat)
  case atStart=>exact⟨0,by omega,rfl,hst,(Below.refl _ _).alloc (Nat.le_refl _) _⟩
  case round =>
   obtain⟨k,hk,rfl,hown,hb⟩:=hrel
   by_cases hlt:k<8
   ·have hbs:=hb.size
    go_wp2_with (at_builtin;refine wpList_app_bytes rfl (.tmp 61) (.tmp 66) rfl w.heap.size _ _ rfl (hown.alloc _) _ 1 1 [u8 (n.toNat/2 ^ (56-8*k))] rfl rfl ?hs ?hl ?hz ?_)
    case hs =>
     rw[byteV_of (n/2 ^ (56-8*k)%256) (n.toNat/2 ^ (56-8*k)) (by obtain rfl:=HN.out;simp)]
     exact Src.lit wr #[byteV (u8 (n.toNat/2 ^ (56-8*k)))] _
    case hl=>simp[be8_length];omega
    case hz=>simp;omega
    intro v' w' hown' hg _
    have R:OwnB w' w.heap.size v' (u8 (m.toNat*32+27)::be8 n.toNat (k+1))∧Below w.heap.size w w' :=
     ⟨by simpa [be8] using hown',((hb.alloc hbs _).grown hg (by simp;omega) (fun g hg=>(hown.lt g hg).1))⟩
    clear hown' hg hown hb hst
    go_wp2
    go_roundw
    case rel=>exact⟨k+1,by omega,by go_num,R.1,R.2⟩
    case measure=>simp[intOf];omega
   ·have hk8:k=8:=by omega
    subst hk8
    go_wp2
    go_ret
    refine⟨_,rfl, ?_⟩
    rw[HG.out]
    exact⟨hown,hb⟩
set_option maxRecDepth 100000 in
set_option maxHeartbeats 800000 in
theorem cbor_major {H:Snap}{k n:Int}{ba:Option Addr}{bl bc:Nat}{ia:Option Addr}{il ic:Nat}{x:Itm}(hx:ItemA H k n ba bl bc ia il ic x) (w:World) (h0:0≤x.kind) (h8:x.kind≤8) :
  Calls Tryz.prog 94 #[.agg #[.int .i64 k,.int .u64 n,.slice ba bl bc,.slice ia il ic]] w fun e w'=>e=.returned (.tuple #[.int .u8 x.kind,.int .u64 (numP x)])∧Below w.heap.size w w':=by
 obtain⟨rfl,rfl,rfl,rfl,hx⟩:=hx
 obtain⟨_,_,hn,hb1,hb2,hi1,hi2⟩:=hx.bounds
 have hb:x.bytes.length≤9223372036854775807:=by omega
 have hi:x.items.length≤9223372036854775807:=by omega
 clear hb1 hb2 hi1 hi2 hx
 have HN:=Lib.hid hn
 clear hn
 by_cases h2:x.kind=2
 ·have e:Hid (Ending.returned (.tuple #[.int .u8 2,.int .u64 x.bytes.length])=Ending.returned (.tuple #[.int .u8 x.kind,.int .u64 (numP x)])):=by simp[Hid,numP,h2]
  go_enter Tryz.func94,Tryz.ntmps94
  go_wp2
  go_region
  all_goals go_wp2
  all_goals go_ret2
  all_goals exact⟨e.out,(below_box w _).drew⟩
 by_cases h3:x.kind=3
 ·have e:Hid (Ending.returned (.tuple #[.int .u8 3,.int .u64 x.bytes.length])=Ending.returned (.tuple #[.int .u8 x.kind,.int .u64 (numP x)])):=by simp[Hid,numP,h3]
  clear h2
  go_enter Tryz.func94,Tryz.ntmps94
  go_wp2
  go_region
  all_goals go_wp2
  all_goals go_ret2
  all_goals exact⟨e.out,(below_box w _).drew⟩
 by_cases h4:x.kind=4
 ·have e:Hid (Ending.returned (.tuple #[.int .u8 4,.int .u64 x.items.length])=Ending.returned (.tuple #[.int .u8 x.kind,.int .u64 (numP x)])):=by simp[Hid,numP,h4]
  clear h2 h3
  go_enter Tryz.func94,Tryz.ntmps94
  go_wp2
  go_region
  all_goals go_wp2
  all_goals go_ret2
  all_goals exact⟨e.out,(below_box w _).drew⟩
 by_cases h5:x.kind=5
 ·have e:Hid (Ending.returned (.tuple #[.int .u8 5,.int .u64 ((x.items.length:Int)/2)])=Ending.returned (.tuple #[.int .u8 x.kind,.int .u64 (numP x)])):=by simp[Hid,numP,h5]
  clear h2 h3 h4
  go_enter Tryz.func94,Tryz.ntmps94
  go_wp2
  go_region
  all_goals go_wp2
  all_goals go_ret2
  all_goals exact⟨e.out,(below_box w _).drew⟩
 have e:Hid (Ending.returned (.tuple #[.int .u8 x.kind,.int .u64 x.n])=Ending.returned (.tuple #[.int .u8 x.kind,.int .u64 (numP x)])):=by simp[Hid,numP,h2,h3,h4,h5]
 have b2:(x.kind==2)=false:=by simp[h2]
 have b3:(x.kind==3)=false:=by simp[h3]
 have b4:(x.kind==4)=false:=by simp[h4]
 have b5:(x.kind==5)=false:=by simp[h5]
 clear h2 h3 h4 h5
 go_enter Tryz.func94,Tryz.ntmps94
 go_wp2
 go_region
 all_goals go_wp2
 all_goals go_ret2
 all_goals exact⟨e.out,(below_box w _).drew⟩
def Nar15 (n v s x f:Nat):Prop:=s≤1∧v=s*32768+x*1024+f∧f<1024∧x≤31∧
 ((x=31∧f=0∧n=s*9223372036854775808+9218868437227405312)∨(x=0∧f=0∧n=s*9223372036854775808)∨
  (1≤x∧x≤30∧n=s*9223372036854775808+(x+1008)*4503599627370496+f*4398046511104)∨
  (x=0∧∃ t full,t<10∧2 ^ t≤f∧f<2 ^ (t+1)∧full=f*2 ^ (52-t)∧4503599627370496≤full∧n=s*9223372036854775808+(999+t)*4503599627370496+(full-4503599627370496)))
theorem nar15_mk (n v s x f:Nat) (h1:s≤1) (h2:v=s*32768+x*1024+f) (h3:f<1024) (h4:x≤31)
  (h:(x=31∧f=0∧n=s*9223372036854775808+9218868437227405312)∨(x=0∧f=0∧n=s*9223372036854775808)∨
  (1≤x∧x≤30∧n=s*9223372036854775808+(x+1008)*4503599627370496+f*4398046511104)∨
  (x=0∧∃ t full,t<10∧2 ^ t≤f∧f<2 ^ (t+1)∧full=f*2 ^ (52-t)∧4503599627370496≤full∧n=s*9223372036854775808+(999+t)*4503599627370496+(full-4503599627370496))):∃ s x f,Nar15 n v s x f :=
 ⟨s,x,f,h1,h2,h3,h4,h⟩
theorem narrow15_spec {n v:Nat}(hn:n<18446744073709551616) (h:narrow n 5 10=some v):∃ s x f,Nar15 n v s x f:=by
 obtain⟨ex,hex⟩:∃ ex,n/4503599627370496%2048=ex:=⟨_,rfl⟩
 obtain⟨mx,hmx⟩:∃ mx,n%4503599627370496=mx:=⟨_,rfl⟩
 obtain⟨sg,hsg⟩:∃ sg,n/9223372036854775808=sg:=⟨_,rfl⟩
 have hs1:sg≤1:=by omega
 have hnn:n=sg*9223372036854775808+ex*4503599627370496+mx:=by omega
 have he1:ex<2048:=by omega
 have hm1:mx<4503599627370496:=by omega
 rw[narrow]at h
 simp only[Nat.reducePow,Nat.reduceSub,Nat.reduceAdd,Nat.reduceMul,hex,hmx,hsg]at h
 clear hex hmx hsg hn
 split at h
 ·rename_i q1
  split at h
  ·rename_i q2
   injection h with h
   subst q1 q2
   exact nar15_mk _ _ _ _ _ hs1 (by omega) (by omega) (by omega) (.inl (And.intro rfl (And.intro rfl (by omega))))
  ·cases h
 rename_i c1
 split at h
 ·rename_i q1
  split at h
  ·rename_i q2
   injection h with h
   subst q1 q2
   exact nar15_mk _ _ _ 0 0 hs1 (by omega) (by omega) (by omega) (.inr (.inl (And.intro rfl (And.intro rfl (by rw[hnn,Nat.zero_mul];simp only[Nat.add_zero])))))
  ·cases h
 rename_i c2
 split at h
 ·cases h
 rename_i c3
 split at h
 ·rename_i c4
  split at h
  ·rename_i c5
   injection h with h
   obtain⟨x,hx⟩:∃ x,ex=x+1008:=⟨ex-1008,by omega⟩
   obtain⟨f,hf⟩:∃ f,mx=f*4398046511104:=⟨mx/4398046511104,by omega⟩
   subst hx hf
   exact nar15_mk _ _ _ x f hs1 (by omega) (by omega) (by omega) (.inr (.inr (.inl (And.intro (by omega) (And.intro (by omega) hnn)))))
  ·cases h
 rename_i c4
 split at h
 ·cases h
 rename_i c5
 split at h
 ·rename_i c6
  injection h with h
  obtain⟨t,ht⟩:∃ t,ex=999+t:=⟨ex-999,by omega⟩
  have hsh:43+(1023-ex-15)=52-t:=by omega
  rw[hsh]at h c6
  obtain⟨f,hf⟩:∃ f,(mx+4503599627370496)/2 ^ (52-t)=f:=⟨_,rfl⟩
  have hfull:mx+4503599627370496=f*2 ^ (52-t):=by
   rw[← hf,Nat.div_mul_cancel (Nat.dvd_of_mod_eq_zero c6)]
  have hpos:0<2 ^ (52-t):=Nat.two_pow_pos _
  have e1:2 ^ t*2 ^ (52-t)=4503599627370496:=by
   rw[← Nat.pow_add,show t+(52-t)=52 by omega]
  have e2:2 ^ (t+1)*2 ^ (52-t)=9007199254740992:=by
   rw[← Nat.pow_add,show t+1+(52-t)=53 by omega]
  have b1:2 ^ t≤f:=by
   apply Nat.le_of_mul_le_mul_right _ hpos
   omega
  have b2:f<2 ^ (t+1):=by
   apply Nat.lt_of_mul_lt_mul_right (a:=2 ^ (52-t))
   omega
  have b3:2 ^ (t+1)≤2 ^ 10:=Nat.pow_le_pow_right (by omega) (by omega)
  simp only[Nat.reducePow]at b3
  rw[hf]at h
  have hn':n=sg*9223372036854775808+(999+t)*4503599627370496+(mx+4503599627370496-4503599627370496):=by rw[hnn,ht,Nat.add_sub_cancel]
  exact nar15_mk _ _ _ 0 f hs1 (by omega) (by omega) (by omega) (.inr (.inr (.inr (And.intro rfl ⟨t,mx+4503599627370496,by omega,b1,b2,hfull,by omega,hn'⟩))))
 ·cases h
def Nar31 (n v s x f:Nat):Prop:=s≤1∧v=s*2147483648+x*8388608+f∧f<8388608∧x≤255∧
 ((x=255∧f=0∧n=s*9223372036854775808+9218868437227405312)∨(x=0∧f=0∧n=s*9223372036854775808)∨
  (1≤x∧x≤254∧n=s*9223372036854775808+(x+896)*4503599627370496+f*536870912)∨
  (x=0∧∃ t full,t<23∧2 ^ t≤f∧f<2 ^ (t+1)∧full=f*2 ^ (52-t)∧4503599627370496≤full∧n=s*9223372036854775808+(874+t)*4503599627370496+(full-4503599627370496)))
theorem nar31_mk (n v s x f:Nat) (h1:s≤1) (h2:v=s*2147483648+x*8388608+f) (h3:f<8388608) (h4:x≤255)
  (h:(x=255∧f=0∧n=s*9223372036854775808+9218868437227405312)∨(x=0∧f=0∧n=s*9223372036854775808)∨
  (1≤x∧x≤254∧n=s*9223372036854775808+(x+896)*4503599627370496+f*536870912)∨
  (x=0∧∃ t full,t<23∧2 ^ t≤f∧f<2 ^ (t+1)∧full=f*2 ^ (52-t)∧4503599627370496≤full∧n=s*9223372036854775808+(874+t)*4503599627370496+(full-4503599627370496))):∃ s x f,Nar31 n v s x f :=
 ⟨s,x,f,h1,h2,h3,h4,h⟩
theorem narrow31_spec {n v:Nat}(hn:n<18446744073709551616) (h:narrow n 8 23=some v):∃ s x f,Nar31 n v s x f:=by
 obtain⟨ex,hex⟩:∃ ex,n/4503599627370496%2048=ex:=⟨_,rfl⟩
 obtain⟨mx,hmx⟩:∃ mx,n%4503599627370496=mx:=⟨_,rfl⟩
 obtain⟨sg,hsg⟩:∃ sg,n/9223372036854775808=sg:=⟨_,rfl⟩
 have hs1:sg≤1:=by omega
 have hnn:n=sg*9223372036854775808+ex*4503599627370496+mx:=by omega
 have he1:ex<2048:=by omega
 have hm1:mx<4503599627370496:=by omega
 rw[narrow]at h
 simp only[Nat.reducePow,Nat.reduceSub,Nat.reduceAdd,Nat.reduceMul,hex,hmx,hsg]at h
 clear hex hmx hsg hn
 split at h
 ·rename_i q1
  split at h
  ·rename_i q2
   injection h with h
   subst q1 q2
   exact nar31_mk _ _ _ _ _ hs1 (by omega) (by omega) (by omega) (.inl (And.intro rfl (And.intro rfl (by omega))))
  ·cases h
 rename_i c1
 split at h
 ·rename_i q1
  split at h
  ·rename_i q2
   injection h with h
   subst q1 q2
   exact nar31_mk _ _ _ 0 0 hs1 (by omega) (by omega) (by omega) (.inr (.inl (And.intro rfl (And.intro rfl (by rw[hnn,Nat.zero_mul];simp only[Nat.add_zero])))))
  ·cases h
 rename_i c2
 split at h
 ·cases h
 rename_i c3
 split at h
 ·rename_i c4
  split at h
  ·rename_i c5
   injection h with h
   obtain⟨x,hx⟩:∃ x,ex=x+896:=⟨ex-896,by omega⟩
   obtain⟨f,hf⟩:∃ f,mx=f*536870912:=⟨mx/536870912,by omega⟩
   subst hx hf
   exact nar31_mk _ _ _ x f hs1 (by omega) (by omega) (by omega) (.inr (.inr (.inl (And.intro (by omega) (And.intro (by omega) hnn)))))
  ·cases h
 rename_i c4
 split at h
 ·cases h
 rename_i c5
 split at h
 ·rename_i c6
  injection h with h
  obtain⟨t,ht⟩:∃ t,ex=874+t:=⟨ex-874,by omega⟩
  have hsh:30+(1023-ex-127)=52-t:=by omega
  rw[hsh]at h c6
  obtain⟨f,hf⟩:∃ f,(mx+4503599627370496)/2 ^ (52-t)=f:=⟨_,rfl⟩
  have hfull:mx+4503599627370496=f*2 ^ (52-t):=by
   rw[← hf,Nat.div_mul_cancel (Nat.dvd_of_mod_eq_zero c6)]
  have hpos:0<2 ^ (52-t):=Nat.two_pow_pos _
  have e1:2 ^ t*2 ^ (52-t)=4503599627370496:=by
   rw[← Nat.pow_add,show t+(52-t)=52 by omega]
  have e2:2 ^ (t+1)*2 ^ (52-t)=9007199254740992:=by
   rw[← Nat.pow_add,show t+1+(52-t)=53 by omega]
  have b1:2 ^ t≤f:=by
   apply Nat.le_of_mul_le_mul_right _ hpos
   omega
  have b2:f<2 ^ (t+1):=by
   apply Nat.lt_of_mul_lt_mul_right (a:=2 ^ (52-t))
   omega
  have b3:2 ^ (t+1)≤2 ^ 23:=Nat.pow_le_pow_right (by omega) (by omega)
  simp only[Nat.reducePow]at b3
  rw[hf]at h
  have hn':n=sg*9223372036854775808+(874+t)*4503599627370496+(mx+4503599627370496-4503599627370496):=by rw[hnn,ht,Nat.add_sub_cancel]
  exact nar31_mk _ _ _ 0 f hs1 (by omega) (by omega) (by omega) (.inr (.inr (.inr (And.intro rfl ⟨t,mx+4503599627370496,by omega,b1,b2,hfull,by omega,hn'⟩))))
 ·cases h
theorem frame_of {x:Itm}{lv:Nat}(h:Good x lv) (hk:4≤x.kind∧x.kind≤6):frameOk x lv=true:=by
 rcases nodeOk_cases h.node with ⟨h1,_⟩ | ⟨_,h1⟩
 ·rw[isPlain_iff]at h1;omega
 ·exact h1
theorem log2_of {n t:Nat}(h1:2 ^ t≤n) (h2:n<2 ^ (t+1)):n.log2=t:=by
 have hn:n≠0:=by have:=Nat.two_pow_pos t;omega
 have a:=(Nat.le_log2 hn).2 h1
 have b:=(Nat.log2_lt hn).2 h2
 omega
theorem cut_exact (neg:Bool) (q d:Nat) (h:d≤(q*2 ^ d).log2+2):Ieee.Toward.even.cut neg (q*2 ^ d) d=q:=by
 have hg:(1:Nat) <<< min d ((q*2 ^ d).log2+2)=2 ^ d:=by rw[Nat.min_eq_left h,Nat.shiftLeft_eq,Nat.one_mul]
 have hp:0<2 ^ d:=Nat.two_pow_pos d
 have h1:q*2 ^ d/2 ^ d=q:=Nat.mul_div_cancel _ hp
 have h2:q*2 ^ d%2 ^ d=0:=Nat.mul_mod_left _ _
 unfold Ieee.Toward.cut
 simp only[hg,h1,h2]
 have e1:decide (2 ^ d<2*0)=false:=by simp
 have e2:(2 ^ d==2*0)=false:=by rw[beq_eq_false_iff_ne];omega
 rw[e1,e2]
 simp
theorem single_fields {r:Nat}(hr:r<4294967296) (hn:(Ieee.single.read r).isNaN=false):∃ n s x f,n<18446744073709551616∧Nar31 n r s x f:=by
 obtain⟨s,hs⟩:∃ s,r/2147483648=s:=⟨_,rfl⟩
 obtain⟨x,hx⟩:∃ x,r/8388608%256=x:=⟨_,rfl⟩
 obtain⟨f,hf⟩:∃ f,r%8388608=f:=⟨_,rfl⟩
 have hs1:s≤1:=by omega
 have hx1:x≤255:=by omega
 have hf1:f<8388608:=by omega
 have hv:r=s*2147483648+x*8388608+f:=by omega
 by_cases h1:x=255
 ·by_cases h0:f=0
  ·exact⟨s*9223372036854775808+9218868437227405312,s,x,f,by omega,hs1,by omega,by omega,by omega,.inl ⟨h1,h0,rfl⟩⟩
  ·exfalso
   have e1:Ieee.single.signWeight=2147483648:=rfl
   have e2:Ieee.single.binade=8388608:=rfl
   have e3:Ieee.single.infRung=2139095040:=rfl
   unfold Ieee.Format.read at hn
   rw[e1,e2,e3]at hn
   simp only[show ¬ r%2147483648<8388608 by omega,show ¬ r%2147483648<2139095040 by omega,show ¬ r%2147483648=2139095040 by omega,if_false]at hn
   cases hn
 by_cases h2:x=0
 ·by_cases h0:f=0
  ·exact⟨s*9223372036854775808,s,x,f,by omega,hs1,by omega,by omega,by omega,.inr (.inl ⟨h2,h0,rfl⟩)⟩
  ·have a1:2 ^ f.log2≤f:=Nat.log2_self_le h0
   have a2:f<2 ^ (f.log2+1):=Nat.lt_log2_self
   have a3:f.log2<23:=(Nat.log2_lt h0).2 (by simpa using hf1)
   generalize f.log2=t at a1 a2 a3
   have e1:2 ^ t*2 ^ (52-t)=4503599627370496:=by
    rw[← Nat.pow_add,show t+(52-t)=52 by omega]
   have e2:2 ^ (t+1)*2 ^ (52-t)=9007199254740992:=by
    rw[← Nat.pow_add,show t+1+(52-t)=53 by omega]
   have b1:=Nat.mul_le_mul_right (2 ^ (52-t)) a1
   have b2:=Nat.mul_lt_mul_of_pos_right a2 (Nat.two_pow_pos (52-t))
   refine⟨s*9223372036854775808+(874+t)*4503599627370496+(f*2 ^ (52-t)-4503599627370496),s,x,f,by omega,hs1,by omega,by omega,by omega,.inr (.inr (.inr ⟨h2,t,_,a3,a1,a2,rfl,by omega,rfl⟩))⟩
 ·exact⟨s*9223372036854775808+(x+896)*4503599627370496+f*536870912,s,x,f,by omega,hs1,by omega,by omega,by omega,.inr (.inr (.inl ⟨by omega,by omega,rfl⟩))⟩
theorem word_d (s r:Nat) (hs:s≤1):Ieee.double.word (s%2==1) r=s*9223372036854775808+r:=by
 have e:Ieee.double.signWeight=9223372036854775808:=rfl
 unfold Ieee.Format.word
 rcases(by omega:s=0∨s=1) with rfl | rfl <;> simp[e]
theorem word_s (s r:Nat) (hs:s≤1):Ieee.single.word (s%2==1) r=s*2147483648+r:=by
 have e:Ieee.single.signWeight=2147483648:=rfl
 unfold Ieee.Format.word
 rcases(by omega:s=0∨s=1) with rfl | rfl <;> simp[e]
theorem read_s {n v s x f:Nat}(h:Nar31 n v s x f):Ieee.single.read v=if x=255 then .infinity (s%2==1) else if x=0 then .number (s%2==1) f (-149) else .number (s%2==1) (8388608+f) ((x:Int)-150):=by
 obtain⟨a1,a2,a3,a4,a5⟩:=h
 have e1:Ieee.single.signWeight=2147483648:=rfl
 have e2:Ieee.single.binade=8388608:=rfl
 have e3:Ieee.single.infRung=2139095040:=rfl
 have e4:Ieee.single.leastPlace = -149:=rfl
 have hd:v/2147483648=s:=by omega
 have hm:v%2147483648=x*8388608+f:=by omega
 unfold Ieee.Format.read
 rw[e1,e2,e3,e4,hd,hm]
 simp only
 by_cases h0:x=0
 ·rw[if_pos (by omega),if_neg (by omega),if_pos h0,h0];simp
 rw[if_neg (by omega)]
 by_cases h1:x=255
 ·have:f=0:=by omega
  rw[if_neg (by omega),if_pos (by omega),if_pos h1]
 ·rw[if_pos (by omega),if_neg h1,if_neg h0]
  congr 1
  ·omega
  ·omega
theorem read_d {n v s x f:Nat}(h:Nar31 n v s x f):∃ e m,e≤2047∧m<4503599627370496∧n=s*9223372036854775808+e*4503599627370496+m∧
  (x=255→e=2047∧m=0)∧(x=0∧f=0→e=0∧m=0)∧(1≤x∧x≤254→e=x+896∧m=f*536870912)∧(x=0∧0<f→∃ t,t<23∧2 ^ t≤f∧f<2 ^ (t+1)∧e=874+t∧m+4503599627370496=f*2 ^ (52-t))∧
  Ieee.double.read n=if e=2047 then .infinity (s%2==1) else if e=0 then .number (s%2==1) m (-1074) else .number (s%2==1) (4503599627370496+m) ((e:Int)-1075):=by
 obtain⟨a1,a2,a3,a4,a5⟩:=h
 have key:∀ e m,e≤2047→m<4503599627370496→(e=2047→m=0)→n=s*9223372036854775808+e*4503599627370496+m→Ieee.double.read n=if e=2047 then .infinity (s%2==1) else if e=0 then .number (s%2==1) m (-1074) else .number (s%2==1) (4503599627370496+m) ((e:Int)-1075):=by
  intro e m he hm h7 hn
  have e1:Ieee.double.signWeight=9223372036854775808:=rfl
  have e2:Ieee.double.binade=4503599627370496:=rfl
  have e3:Ieee.double.infRung=9218868437227405312:=rfl
  have e4:Ieee.double.leastPlace = -1074:=rfl
  have hd:n/9223372036854775808=s:=by omega
  have hmm:n%9223372036854775808=e*4503599627370496+m:=by omega
  unfold Ieee.Format.read
  rw[e1,e2,e3,e4,hd,hmm]
  simp only
  by_cases h0:e=0
  ·rw[if_pos (by omega),if_neg (by omega),if_pos h0,h0];simp
  rw[if_neg (by omega)]
  by_cases h1:e=2047
  ·have:=h7 h1
   rw[if_neg (by omega),if_pos (by omega),if_pos h1]
  ·rw[if_pos (by omega),if_neg h1,if_neg h0]
   congr 1
   ·omega
   ·omega
 rcases a5 with ⟨c1,c2,c3⟩ | ⟨c1,c2,c3⟩ | ⟨c1,c2,c3⟩ | ⟨c1,t,full,c2,c3,c4,c5,c6,c7⟩
 ·exact⟨2047,0,by omega,by omega,by omega,fun _=>⟨rfl,rfl⟩,by omega,by omega,by omega,key 2047 0 (by omega) (by omega) (fun _=>rfl) (by omega)⟩
 ·have C3:n=s*9223372036854775808+0*4503599627370496+0:=by rw[c3];simp only[Nat.zero_mul,Nat.add_zero]
  have C3:=Lib.hid C3
  clear c3
  have x1:x≠255:=by omega
  have x3:¬ (1≤x∧x≤254):=by omega
  have x4:¬ (x=0∧0<f):=by omega
  exact⟨0,0,by omega,by omega,C3.out,fun h=>absurd h x1,fun _=>⟨rfl,rfl⟩,fun h=>absurd h x3,fun h=>absurd h x4,key 0 0 (by omega) (by omega) (by omega) C3.out⟩
 ·have C3:=Lib.hid c3
  clear c3
  have t1:x+896≤2047:=by omega
  have t2:x+896≠2047:=by omega
  have m1:f*536870912<4503599627370496:=by omega
  have x1:x≠255:=by omega
  have x2:x≠0:=by omega
  exact⟨x+896,f*536870912,t1,m1,C3.out,fun h=>absurd h x1,fun h=>absurd h.1 x2,fun _=>⟨rfl,rfl⟩,fun h=>absurd h.1 x2,key _ _ t1 m1 (fun h=>absurd h t2) C3.out⟩
 ·have hp:0<f:=by have:=Nat.two_pow_pos t;omega
  have e2:2 ^ (t+1)*2 ^ (52-t)=9007199254740992:=by
   rw[← Nat.pow_add,show t+1+(52-t)=53 by omega]
  have b2:=Nat.mul_lt_mul_of_pos_right c4 (Nat.two_pow_pos (52-t))
  rw[e2,← c5]at b2
  have C7:=Lib.hid c7
  clear c7
  have m1:full-4503599627370496<4503599627370496:=by clear a2;omega
  have m2:full-4503599627370496+4503599627370496=f*2 ^ (52-t):=by rw[← c5];clear a2;omega
  have t1:874+t≤2047:=by omega
  have t2:874+t≠2047:=by omega
  have x1:x≠255:=by omega
  have x2:¬ (x=0∧f=0):=by omega
  have x3:¬ (1≤x∧x≤254):=by omega
  exact⟨874+t,full-4503599627370496,t1,m1,C7.out,fun h=>absurd h x1,fun h=>absurd h x2,fun h=>absurd h x3,fun _=>⟨t,c2,c3,c4,rfl,m2⟩,key _ _ t1 m1 (fun h=>absurd h t2) C7.out⟩
theorem wide_of {n v s x f:Nat}(h:Nar31 n v s x f):floatToFloatBits .f32 v .f64=some n:=by
 have hr:=read_s h
 obtain⟨e,m,he,hm,hn,g1,g2,g3,g4,hd⟩:=read_d h
 obtain⟨a1,a2,a3,a4,_⟩:=h
 have e1:Ieee.double.fractionBits=52:=rfl
 have e2:Ieee.double.binade=4503599627370496:=rfl
 have e3:Ieee.double.infRung=9218868437227405312:=rfl
 have e4:Ieee.double.leastPlace = -1074:=rfl
 have hw:Ieee.double.write (Ieee.single.read v)=n:=by
  rw[hr]
  by_cases h1:x=255
  ·obtain⟨rfl,rfl⟩:=g1 h1
   rw[if_pos h1]
   show Ieee.double.word _ Ieee.double.infRung=n
   rw[word_d _ _ a1,e3];omega
  rw[if_neg h1]
  have near:∀ (mag:Nat) (pl:Int) (t:Nat),t≤52→2 ^ t≤mag→mag<2 ^ (t+1)→-149≤pl→pl≤104→e=(pl+t+1023).toNat→mag*2 ^ (52-t)=4503599627370496+m→Ieee.double.nearest (s%2==1) mag pl=n:=by
   intro mag pl t ht b1 b2 p1 p2 he' hmm
   have hl:=log2_of b1 b2
   have h0:mag≠0:=by have:=Nat.two_pow_pos t;omega
   unfold Ieee.Format.nearest
   rw[if_neg h0,hl,e1,e2,e3,e4]
   have hlast:max (pl+(t:Int)-(52:Nat)) (-1074)=pl+t-52:=by omega
   simp only[hlast]
   rw[show(pl-(pl+(t:Int)-52)).toNat=52-t by omega,show((pl+(t:Int)-52)-pl).toNat=0 by omega,Nat.shiftLeft_eq,hmm]
   have hc:=cut_exact (s%2==1) (4503599627370496+m) 0 (by omega)
   rw[Nat.pow_zero,Nat.mul_one]at hc
   rw[hc,word_d _ _ a1,Nat.min_eq_left (by omega)]
   omega
  by_cases h2:x=0
  ·rw[if_pos h2]
   by_cases h3:f=0
   ·obtain⟨rfl,rfl⟩:=g2 ⟨h2,h3⟩
    subst h3
    show Ieee.double.nearest _ 0 _=n
    unfold Ieee.Format.nearest
    rw[if_pos rfl,word_d _ _ a1];omega
   ·obtain⟨t,t1,t2,t3,t4,t5⟩:=g4 ⟨h2,by omega⟩
    exact near f (-149) t (by omega) t2 t3 (by omega) (by omega) (by omega) (by omega)
  ·rw[if_neg h2]
   obtain⟨k1,k2⟩:=g3 ⟨by omega,by omega⟩
   refine near (8388608+f) ((x:Int)-150) 23 (by omega) (by simp) (by simp;omega) (by omega) (by omega) (by omega) ?_
   simp only[Nat.reduceSub,Nat.reducePow]
   omega
 unfold floatToFloatBits
 rw[if_neg (by decide)]
 show(match Ieee.single.read v with | .nan _ _=>none | .infinity s=>some (Ieee.double.write (.infinity s)) | .number s m e=>if(Ieee.double.read (Ieee.double.write (.number s m e))).isInfinity then none else some (Ieee.double.write (.number s m e)))=some n
 cases hq:Ieee.single.read v with
 | nan a b =>
  rw[hq]at hr
  split at hr
  ·cases hr
  ·split at hr <;> cases hr
 | infinity q=>simp only;rw[← hq,hw]
 | number a b c =>
  simp only
  rw[← hq,hw]
  have hx:x≠255:=by
   intro h1
   rw[hq,if_pos h1]at hr
   cases hr
  have he7:e≠2047:=by
   by_cases h2:x=0
   ·by_cases h3:f=0
    ·have:=g2 ⟨h2,h3⟩;omega
    ·obtain⟨t,t1,t2,t3,t4,t5⟩:=g4 ⟨h2,by omega⟩;omega
   ·have:=g3 ⟨by omega,by omega⟩;omega
  rw[hd,if_neg he7]
  by_cases h0:e=0
  ·rw[if_pos h0];rfl
  ·rw[if_neg h0];rfl
theorem slim_of {n v s x f:Nat}(h:Nar31 n v s x f):floatToFloatBits .f64 n .f32=some v:=by
 have hr:=read_s h
 obtain⟨e,m,he,hm,hn,g1,g2,g3,g4,hd⟩:=read_d h
 obtain⟨a1,a2,a3,a4,_⟩:=h
 have e1:Ieee.single.fractionBits=23:=rfl
 have e2:Ieee.single.binade=8388608:=rfl
 have e3:Ieee.single.infRung=2139095040:=rfl
 have e4:Ieee.single.leastPlace = -149:=rfl
 have hw:Ieee.single.write (Ieee.double.read n)=v:=by
  rw[hd]
  by_cases h1:x=255
  ·obtain⟨h5,h6⟩:=g1 h1
   rw[if_pos h5]
   show Ieee.single.word _ Ieee.single.infRung=v
   rw[word_s _ _ a1,e3]
   omega
  by_cases h2:x=0
  ·by_cases h3:f=0
   ·obtain⟨h5,h6⟩:=g2 ⟨h2,h3⟩
    rw[if_neg (by omega),if_pos h5,h6]
    show Ieee.single.nearest _ 0 _=v
    unfold Ieee.Format.nearest
    rw[if_pos rfl,word_s _ _ a1];omega
   ·obtain⟨t,t1,t2,t3,t4,t5⟩:=g4 ⟨h2,by omega⟩
    rw[if_neg (by omega),if_neg (by omega)]
    show Ieee.single.nearest _ _ _=v
    have hl:(4503599627370496+m).log2=52:=log2_of (by simp) (by simp;omega)
    unfold Ieee.Format.nearest
    rw[if_neg (by omega),hl,e1,e2,e3,e4]
    have hlast:max ((e:Int)-1075+(52:Nat)-(23:Nat)) (-149) = -149:=by omega
    simp only[hlast]
    rw[show((e:Int)-1075 - -149).toNat=0 by omega,show(-149-((e:Int)-1075)).toNat=52-t by omega,Nat.shiftLeft_eq,Nat.pow_zero,Nat.mul_one,show 4503599627370496+m=f*2 ^ (52-t) by omega]
    rw[cut_exact _ _ _ (by rw[← t5,Nat.add_comm m,hl];omega),word_s _ _ a1,Nat.min_eq_left (by omega)]
    rw[a2,h2,show((-149:Int) - -149).toNat=0 from rfl]
    simp only[Nat.zero_mul,Nat.zero_add,Nat.add_zero]
  ·obtain⟨k1,k2⟩:=g3 ⟨by omega,by omega⟩
   rw[if_neg (by omega),if_neg (by omega)]
   show Ieee.single.nearest _ _ _=v
   have hl:(4503599627370496+m).log2=52:=log2_of (by simp) (by simp;omega)
   unfold Ieee.Format.nearest
   rw[if_neg (by omega),hl,e1,e2,e3,e4]
   have hlast:max ((e:Int)-1075+(52:Nat)-(23:Nat)) (-149)=(e:Int)-1046:=by omega
   simp only[hlast]
   have hq:4503599627370496+m=(8388608+f)*2 ^ 29:=by simp only[Nat.reducePow];omega
   rw[show((e:Int)-1075-((e:Int)-1046)).toNat=0 by omega,show(((e:Int)-1046)-((e:Int)-1075)).toNat=29 by omega,Nat.shiftLeft_eq,Nat.pow_zero,Nat.mul_one,hq]
   rw[cut_exact _ _ _ (by rw[← hq,hl];omega),word_s _ _ a1,Nat.min_eq_left (by omega)]
   omega
 unfold floatToFloatBits
 rw[if_neg (by decide)]
 show(match Ieee.double.read n with | .nan _ _=>none | .infinity s=>some (Ieee.single.write (.infinity s)) | .number s m e=>if(Ieee.single.read (Ieee.single.write (.number s m e))).isInfinity then none else some (Ieee.single.write (.number s m e)))=some v
 cases hq:Ieee.double.read n with
 | nan a b =>
  rw[hq]at hd
  split at hd
  ·cases hd
  ·split at hd <;> cases hd
 | infinity q=>simp only;rw[← hq,hw]
 | number a b c =>
  simp only
  rw[← hq,hw]
  have hx:x≠255:=by
   intro h1
   have:=g1 h1
   rw[hq,if_pos this.1]at hd
   cases hd
  rw[hr,if_neg hx]
  by_cases h0:x=0
  ·rw[if_pos h0];rfl
  ·rw[if_neg h0];rfl
theorem narrow31_of {n v s x f:Nat}(h:Nar31 n v s x f):narrow n 8 23=some v:=by
 obtain⟨e,m,he,hm,hn,g1,g2,g3,g4,hd⟩:=read_d h
 obtain⟨a1,a2,a3,a4,_⟩:=h
 have k1:n/4503599627370496%2048=e:=by omega
 have k2:n%4503599627370496=m:=by omega
 have k3:n/9223372036854775808=s:=by omega
 rw[narrow]
 simp only[Nat.reducePow,Nat.reduceSub,Nat.reduceAdd,Nat.reduceMul,k1,k2,k3]
 by_cases h1:x=255
 ·obtain⟨h5,h6⟩:=g1 h1
  rw[if_pos h5,if_pos h6]
  congr 1;omega
 by_cases h2:x=0
 ·by_cases h3:f=0
  ·obtain⟨h5,h6⟩:=g2 ⟨h2,h3⟩
   rw[if_neg (by omega),if_pos h5,if_pos h6]
   congr 1;omega
  ·obtain⟨t,t1,t2,t3,t4,t5⟩:=g4 ⟨h2,by omega⟩
   rw[if_neg (by omega),if_neg (by omega),if_neg (by omega),if_neg (by omega),if_neg (by omega),show 30+(1023-e-127)=52-t by omega,t5,if_pos (Nat.mul_mod_left _ _),Nat.mul_div_cancel _ (Nat.two_pow_pos _)]
   congr 1;omega
 ·obtain⟨h5,h6⟩:=g3 ⟨by omega,by omega⟩
  rw[if_neg (by omega),if_neg (by omega),if_neg (by omega),if_pos (by omega),if_pos (by omega)]
  congr 1;omega
def halfP (v:Nat):Option Nat :=
 let s:=v/2147483648
 let e:=v/8388608%256
 let m:=v%8388608
 if e=255 then some (s*32768+31744) else if e=0 then(if m=0 then some (s*32768) else none)
 else if 113≤e∧e≤142 then(if m%8192=0 then some (s*32768+(e-112)*1024+m/8192) else none)
 else if 103≤e∧e<113 then(if(m+8388608)%2 ^ (126-e)=0 then some (s*32768+(m+8388608)/2 ^ (126-e)) else none) else none
theorem half_of {n v s x f:Nat}(h:Nar31 n v s x f):halfP v=narrow n 5 10:=by
 obtain⟨e,m,he,hm,hn,g1,g2,g3,g4,hd⟩:=read_d h
 obtain⟨a1,a2,a3,a4,_⟩:=h
 have k1:n/4503599627370496%2048=e:=by omega
 have k2:n%4503599627370496=m:=by omega
 have k3:n/9223372036854775808=s:=by omega
 have j1:v/2147483648=s:=by omega
 have j2:v/8388608%256=x:=by omega
 have j3:v%8388608=f:=by omega
 rw[narrow,halfP]
 simp only[Nat.reducePow,Nat.reduceSub,Nat.reduceAdd,Nat.reduceMul,k1,k2,k3,j1,j2,j3]
 by_cases h1:x=255
 ·obtain⟨h5,h6⟩:=g1 h1
  rw[if_pos h5,if_pos h6,if_pos h1]
 by_cases h2:x=0
 ·by_cases h3:f=0
  ·obtain⟨h5,h6⟩:=g2 ⟨h2,h3⟩
   rw[if_neg (by omega),if_pos h2,if_pos h3,if_neg (by omega),if_pos h5,if_pos h6]
  ·obtain⟨t,t1,t2,t3,t4,t5⟩:=g4 ⟨h2,by omega⟩
   rw[if_neg (by omega),if_pos h2,if_neg h3,if_neg (by omega),if_neg (by omega),if_neg (by omega),if_neg (by omega),if_pos (by omega)]
 ·obtain⟨h5,h6⟩:=g3 ⟨by omega,by omega⟩
  have n1:¬ e=2047:=by omega
  have n2:¬ e=0:=by omega
  rw[if_neg h1,if_neg h2,if_neg n1,if_neg n2]
  by_cases h7:143≤x
  ·have p1:¬ (113≤x∧x≤142):=by omega
   have p2:¬ (103≤x∧x<113):=by omega
   have p3:1023+31≤e+15:=by omega
   rw[if_neg p1,if_neg p2,if_pos p3]
  ·have p3:¬ (1023+31≤e+15):=by omega
   by_cases h8:113≤x
   ·have p1:113≤x∧x≤142:=by omega
    have p4:1023<e+15:=by omega
    rw[if_pos p1,if_neg p3,if_pos p4]
    by_cases h9:f%8192=0
    ·have p5:m%4398046511104=0:=by omega
     rw[if_pos h9,if_pos p5]
     obtain⟨q,rfl⟩:∃ q,f=8192*q:=⟨f/8192,by omega⟩
     have z1:m/4398046511104=8192*q/8192:=by omega
     have z2:e+15-1023=x-112:=by omega
     rw[z1,z2]
    ·have p5:¬ m%4398046511104=0:=by omega
     rw[if_neg h9,if_neg p5]
   ·have p1:¬ (113≤x∧x≤142):=by omega
    have p4:¬ 1023<e+15:=by omega
    rw[if_neg p1,if_neg p3,if_neg p4]
    by_cases h9:103≤x
    ·have p2:103≤x∧x<113:=by omega
     have p6:¬ 52<43+(1023-e-15):=by omega
     rw[if_pos p2,if_neg p6]
     have hs:43+(1023-e-15)=126-x+29:=by omega
     have hq:m+4503599627370496=(f+8388608)*2 ^ 29:=by simp only[Nat.reducePow];omega
     rw[hs,hq,Nat.pow_add,Nat.mul_mod_mul_right,Nat.mul_div_mul_right _ _ (Nat.two_pow_pos 29)]
     by_cases h10:(f+8388608)%2 ^ (126-x)=0
     ·have h11:(f+8388608)%2 ^ (126-x)*2 ^ 29=0:=by rw[h10,Nat.zero_mul]
      rw[if_pos h10,if_pos h11]
     ·have h11:¬ (f+8388608)%2 ^ (126-x)*2 ^ 29=0:=by
       intro h
       have:=Nat.two_pow_pos 29
       rcases Nat.mul_eq_zero.1 h with h | h <;> omega
      rw[if_neg h10,if_neg h11]
    ·have p2:¬ (103≤x∧x<113):=by omega
     have p6:52<43+(1023-e-15):=by omega
     rw[if_neg p2,if_pos p6]
def byteN (n k:Nat):UInt8:=u8 (n/2 ^ (56-8*k))
theorem byteN_cell (n k:Nat):(#[.int .u8 ((n:Int)/2 ^ (56-8*k)%256)]:Array Value).toList=[byteN n k].map byteV:=by
 simp only[List.map_cons,List.map_nil,byteN,byteV_u8]
 simp
set_option maxRecDepth 100000 in
set_option maxHeartbeats 1600000 in
theorem cbor_wide (n:Nat) (hn:n<18446744073709551616) (w:World) :
  Calls Tryz.prog 116 #[.int .u64 (n:Int)] w fun e w'=>∃ r,e=.returned r∧Fresh w (be8 n 8) r w':=by
 have HN:=Lib.hid hn
 clear hn
 have hO:=OwnB.nil w w.heap.size
 have hb:=Below.refl w.heap.size w
 go_enter Tryz.func116,Tryz.ntmps116
 go_wp2_with fail
 go_loopw [3,4] (fun v3 v4 wr=>∃ (k:Nat) (VA:Option Addr) (vc:Nat),k≤8∧v4=.int .i64 (56-8*(k:Int))∧v3=.slice VA k vc∧OwnB wr w.heap.size (.slice VA k vc) (be8 n k)∧Below w.heap.size w wr) (fun _ v4 _=>(intOf v4+8).toNat)
 case atStart=>exact⟨0,none,0,by omega,rfl,rfl,hO,hb⟩
 case round =>
  obtain⟨k,VA,vc,hk,rfl,rfl,hOr,hbr⟩:=hrel
  by_cases hlt:k<8
  ·have hcell:=byteN_cell n k
   have hb3:=hbr.alloc hbr.size (.cells #[.int .u8 ((n:Int)/2 ^ (56-8*k)%256)] 5)
   have hO3:=hOr.alloc (.cells #[.int .u8 ((n:Int)/2 ^ (56-8*k)%256)] 5)
   have HC:=Lib.hid hcell
   clear hcell
   go_wp2_with (at_builtin;refine stop_in ?_)
   unfold Stopped
   refine wpList_app_bytes rfl (.tmp 9) (.tmp 14) rfl w.heap.size _ _ rfl hO3 _ 1 _ [byteN n k] rfl rfl (Src.new _ _ _ _ rfl _ HC.out) (by simp[be8_length];omega) hb3.size fun v' w7 hO7 hg7 hat7=>?_
   obtain⟨VA',vc',rfl,_⟩:=hO7.form
   have hll:(be8 n k++[byteN n k]).length=k+1:=by simp[be8_length]
   have hO7':OwnB w7 w.heap.size (.slice VA' (k+1) vc') (be8 n (k+1)):=by
    rw[hll]at hO7
    exact hO7
   rw[hll]
   have hb7:=hb3.grown hg7 hb3.size (fun q hq=>(hO3.lt q hq).1)
   clear hll hg7 hat7 hO3 hOr hb3 hbr hO7
   go_wp2_with fail
   go_roundw
   case rel=>exact⟨k+1,VA',vc',by omega,by go_num,rfl,hO7',hb7⟩
   case measure=>simp[intOf];omega
  ·have hk8:k=8:=by omega
   subst hk8
   go_wp2_with fail
   go_ret
   exact⟨_,rfl,hOr,hbr⟩
theorem and_mod32 (a k:Nat) (ha:a<4294967296) (hk:k<32):bits .and .u32 (a:Int) ((2 ^ k-1:Nat):Int)=((a%2 ^ k:Nat):Int):=by
 have:2 ^ k<2 ^ 32:=Nat.pow_lt_pow_right (by omega) hk
 simp only[Nat.reducePow]at this
 rw[u32_and_nat a (2 ^ k-1) ha (by omega),Nat.and_two_pow_sub_one_eq_mod]
theorem or_low32 (b k:Nat) (hb:b<2 ^ k) (hk:k<31):bits .or .u32 (b:Int) ((2 ^ k:Nat):Int)=((b+2 ^ k:Nat):Int):=by
 have h1:2 ^ k<2 ^ 31:=Nat.pow_lt_pow_right (by omega) hk
 simp only[Nat.reducePow]at h1
 rw[u32_or_nat _ _ (by omega) (by omega),Nat.or_comm]
 have:=Nat.two_pow_add_eq_or_of_lt hb 1
 rw[Nat.mul_one]at this
 rw[← this,Nat.add_comm]
theorem or_add16 (a k b:Nat) (hb:b<2 ^ k) (h:a*2 ^ k+b<65536):bits .or .u16 ((a*2 ^ k:Nat):Int) (b:Int)=((a*2 ^ k+b:Nat):Int):=by
 rw[u16_or_nat _ _ (by omega) (by omega),Nat.mul_comm,Nat.two_pow_add_eq_or_of_lt hb]
theorem u16_nat (q:Nat) (h:q<65536):IntKind.u16.wrap (q:Int)=(q:Int):=IntWalk.u16_in _ (by omega)
set_option maxRecDepth 100000 in
set_option maxHeartbeats 3200000 in
theorem cbor_half (v:Nat) (hv:v<4294967296) (w:World) :
  Calls Tryz.prog 118 #[.int .u32 (v:Int)] w
   fun e w'=>(∃ h:Nat,e=.returned (.tuple #[.int .u16 (h:Int),.bool (halfP v).isSome])∧∀ x,halfP v=some x→h=x)∧w=w':=by
 have A1:=and_mod32 (v/2 ^ 23) 8 (by omega) (by omega)
 have A2:=and_mod32 v 23 hv (by omega)
 simp only[Nat.reducePow,Nat.reduceSub]at A1 A2
 rw[Int.natCast_ediv]at A1
 obtain⟨ex,hex⟩:∃ ex,v/8388608%256=ex:=⟨_,rfl⟩
 obtain⟨mx,hmx⟩:∃ mx,v%8388608=mx:=⟨_,rfl⟩
 obtain⟨sg,hsg⟩:∃ sg,v/2147483648=sg:=⟨_,rfl⟩
 have hs1:sg≤1:=by omega
 have E:Hid (halfP v=if ex=255 then some (sg*32768+31744) else if ex=0 then(if mx=0 then some (sg*32768) else none)
   else if 113≤ex∧ex≤142 then(if mx%8192=0 then some (sg*32768+(ex-112)*1024+mx/8192) else none)
   else if 103≤ex∧ex<113 then(if(mx+8388608)%2 ^ (126-ex)=0 then some (sg*32768+(mx+8388608)/2 ^ (126-ex)) else none) else none):=by
  rw[Hid,halfP]
  simp only[hex,hmx,hsg]
 rw[hex]at A1
 rw[hmx]at A2
 have he1:ex<256:=by omega
 have hm1:mx<8388608:=by omega
 have A1':bits .and .u32 ((v:Int)/8388608) 255=(ex:Int):=A1
 have A2':bits .and .u32 (v:Int) 8388607=(mx:Int):=A2
 have K1:IntKind.i64.wrap (ex:Int)=(ex:Int):=IntWalk.i64_in _ (by omega)
 have KS:Hid (IntKind.u16.wrap ((v:Int)/2147483648*32768%4294967296)=((sg*2 ^ 15:Nat):Int)):=by
  have h:(v:Int)/2147483648*32768%4294967296=(sg:Int)*32768:=by omega
  simp only[Nat.reducePow]
  rw[Hid,h,IntWalk.u16_in _ (by omega)]
  omega
 clear hv hex hmx hsg A1 A2
 go_enter Tryz.func118,Tryz.ntmps118
 go_wp2_with fail
 ·have h1:ex=255:=by
   have h:((ex:Int)==255)=true:=by assumption
   rw[beq_iff_eq]at h
   omega
  go_ret2
  have hor:=or_add16 sg 15 31744 (by omega) (by omega)
  refine⟨⟨sg*32768+31744, ?_, ?_⟩,rfl⟩
  ·show Ending.returned (Value.tuple #[Value.int .u16 _,Value.bool _])=_
   rw[KS.out,E.out,if_pos h1]
   rw[show(31744:Int)=((31744:Nat):Int) from rfl,hor]
   rfl
  ·intro x hx
   rw[E.out,if_pos h1]at hx
   injection hx
 all_goals
  have h1:¬ ex=255:=by
   have h:((ex:Int)==255)=false:=by assumption
   rw[beq_eq_false_iff_ne]at h
   omega
  rw[if_neg h1]at E
 ·have h2:ex=0:=by
   have h:((ex:Int)==0)=true:=by assumption
   rw[beq_iff_eq]at h
   omega
  rw[if_pos h2]at E
  go_ret2
  refine⟨⟨sg*32768, ?_, ?_⟩,rfl⟩
  ·show Ending.returned (Value.tuple #[Value.int .u16 _,Value.bool _])=_
   rw[KS.out,E.out]
   by_cases h:mx=0 <;> simp[h]
  ·intro x hx
   rw[E.out]at hx
   split at hx
   ·injection hx
   ·cases hx
 all_goals
  have h2:¬ ex=0:=by
   have h:((ex:Int)==0)=false:=by assumption
   rw[beq_eq_false_iff_ne]at h
   omega
  rw[if_neg h2]at E
 ·have h3:113≤ex∧ex≤142:=by omega
  rw[if_pos h3]at E
  obtain⟨q,hq⟩:∃ q,ex-112=q:=⟨_,rfl⟩
  have hqi:((ex:Int)-112)*1024=((q*1024:Nat):Int):=by omega
  have hmi:(mx:Int)/8192=((mx/8192:Nat):Int):=by omega
  have ha:=and_mod32 mx 13 (by omega) (by omega)
  simp only[Nat.reducePow,Nat.reduceSub]at ha
  have ho1:=or_add16 sg 15 (q*1024) (by omega) (by omega)
  have ho2:=or_add16 (sg*2 ^ 5+q) 10 (mx/8192) (by omega) (by omega)
  rw[show(sg*2 ^ 5+q)*2 ^ 10=sg*2 ^ 15+q*1024 by omega]at ho2
  go_ret2
  refine⟨⟨sg*32768+q*1024+mx/8192, ?_, ?_⟩,rfl⟩
  ·show Ending.returned (Value.tuple #[Value.int .u16 _,Value.bool _])=_
   rw[KS.out,E.out,hqi,hmi,ho1,ho2]
   have ha':bits .and .u32 (mx:Int) 8191=((mx%8192:Nat):Int):=ha
   rw[ha']
   by_cases h:mx%8192=0
   ·rw[if_pos h,h];rfl
   ·rw[if_neg h]
    have:(((mx%8192:Nat):Int)==0)=false:=by rw[beq_eq_false_iff_ne];omega
    rw[this];rfl
  ·intro x hx
   rw[E.out,hq]at hx
   split at hx
   ·injection hx
   ·cases hx
 ·have h3:¬ (113≤ex∧ex≤142):=by omega
  have h4:¬ (103≤ex∧ex<113):=by omega
  rw[if_neg h3,if_neg h4]at E
  go_ret2
  refine⟨⟨0, ?_, ?_⟩,rfl⟩
  ·rw[E.out];rfl
  ·intro x hx
   rw[E.out]at hx
   cases hx
 ·have h3:¬ (113≤ex∧ex≤142):=by omega
  have h4:103≤ex∧ex<113:=by omega
  rw[if_neg h3,if_pos h4]at E
  obtain⟨sh,hsh⟩:∃ sh,126-ex=sh:=⟨_,rfl⟩
  obtain⟨full,hfull⟩:∃ full,mx+8388608=full:=⟨_,rfl⟩
  have hof:bits .or .u32 (mx:Int) 8388608=(full:Int):=by
   have:=or_low32 mx 23 (by omega) (by omega)
   simp only[Nat.reducePow]at this
   rw[← hfull]
   exact this
  have hp:2 ^ sh<2 ^ 32:=Nat.pow_lt_pow_right (by omega) (by omega)
  have hp0:0<2 ^ sh:=Nat.two_pow_pos sh
  simp only[Nat.reducePow]at hp
  have hwi:(2:Int) ^ sh=((2 ^ sh:Nat):Int):=by rw[Int.natCast_pow];rfl
  have hw:((2:Int) ^ sh-1)%4294967296=((2 ^ sh-1:Nat):Int):=by rw[hwi];omega
  have hdv:(full:Int)/2 ^ sh=((full/2 ^ sh:Nat):Int):=by
   rw[Int.natCast_ediv,Int.natCast_pow];rfl
  have hlt:full/2 ^ sh<2 ^ 15:=by
   apply Nat.div_lt_of_lt_mul
   have h1:2 ^ 14≤2 ^ sh:=Nat.pow_le_pow_right (by omega) (by omega)
   have h2:2 ^ 14*2 ^ 15≤2 ^ sh*2 ^ 15:=Nat.mul_le_mul_right _ h1
   simp only[Nat.reducePow,Nat.reduceMul]at h2⊢
   omega
  have hlt':full/2 ^ sh<32768:=hlt
  have hwr:IntKind.u16.wrap ((full/2 ^ sh:Nat):Int)=((full/2 ^ sh:Nat):Int):=u16_nat _ (by omega)
  have ho:=or_add16 sg 15 (full/2 ^ sh) hlt (by simp only[Nat.reducePow];omega)
  have ha:=and_mod32 full sh (by omega) (by omega)
  go_ret2
  refine⟨⟨sg*32768+full/2 ^ sh, ?_, ?_⟩,rfl⟩
  ·show Ending.returned (Value.tuple #[Value.int .u16 _,Value.bool _])=_
   rw[KS.out,E.out,hsh,hof,hw,ha,hdv,hwr,ho,hfull]
   by_cases h:full%2 ^ sh=0
   ·rw[if_pos h,h];rfl
   ·rw[if_neg h]
    have:(((full%2 ^ sh:Nat):Int)==0)=false:=by rw[beq_eq_false_iff_ne];omega
    rw[this];rfl
  ·intro x hx
   rw[E.out,hsh,hfull]at hx
   split at hx
   ·injection hx
   ·cases hx
 ·have h3:¬ (113≤ex∧ex≤142):=by omega
  have h4:¬ (103≤ex∧ex<113):=by omega
  rw[if_neg h3,if_neg h4]at E
  go_ret2
  refine⟨⟨0, ?_, ?_⟩,rfl⟩
  ·rw[E.out];rfl
  ·intro x hx
   rw[E.out]at hx
   cases hx
end Go.Proofs.YtgcjjhibdbafmaaGreatDoor
