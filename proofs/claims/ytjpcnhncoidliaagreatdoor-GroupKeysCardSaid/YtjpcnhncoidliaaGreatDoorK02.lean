/- squeezed. Walks: the library's Valid of a sl -/
import Derived.Test.YtjpcnhncoidliaaGreatDoorK01
import Derived.BigQuiet
set_option linter.unusedVariables false
set_option linter.unusedSimpArgs false
open List (getElem_toArray getElem_cons_zero getElem_cons_succ setIfInBounds_toArray set_cons_zero set_cons_succ)
namespace Go.Proofs.YtjpcnhncoidliaaGreatDoor
open Go.RowKit
def ii:Value→Nat
 | .slice _ n _=>n
 | _=>0
theorem SB.skipc {H:Snap}{b off:Nat}{t:ByteArray}(h:∀ j,j<t.size→H.cell? ⟨b,off+j,none⟩=some (.int .u8 ((t.get! j).toNat:Int))) (k:Nat) (hk:k≤t.size) :
  SB H (if t.size=k then some (⟨b,off,none⟩:Addr) else some ⟨b,off+k,none⟩) (t.extract k t.size):=fun h0=>by
 rw[Lib.ext_size]at h0
 rw[if_neg (by omega)]
 refine⟨b,off+k,rfl,fun j hj=>?_⟩
 rw[Lib.ext_size]at hj
 rw[Nat.add_assoc,h (k+j) (by omega),← Lib.getD_get!',← Lib.getD_get!',Lib.ext_list]
 simp[List.getD,List.getElem?_drop]
set_option maxHeartbeats 16000000 in
set_option maxRecDepth 1000000 in
theorem aX {H:Snap}(hT:Tabs H) (w:World) (hH:Holds w H) (A:Option Addr) (t0:ByteArray) (c:Nat) (hs:SB H A t0) (hc:t0.size≤c) (hm:t0.size≤9223372036854775807) :
  Calls Tryz.prog 102 #[.slice A t0.size c] w fun e w'=>e=.returned (.bool (Lib.validD t0.data.toList))∧Below w.heap.size w w':=by
 obtain⟨ANS,Ol⟩:∃ ANS,Lib.validD t0.data.toList=ANS:=⟨_,rfl⟩
 rw[Ol]
 have GH:=Lib.hid Ol
 clear Ol
 have So:(t0.size:Int)≤c:=by omega
 go_enter Tryz.func102,Tryz.ntmps102
 go_wp2
 go_loopw [0] (fun v0 wx=>∃ (B:Option Addr) (t:ByteArray),v0=.slice B t.size t.size∧SB H B t∧Lib.validD t.data.toList=ANS∧t.size≤t0.size∧Below w.heap.size w wx) (fun v0 _=>ii v0)
 case atStart=>exact⟨A,t0,rfl,hs,GH.out,Nat.le_refl _,Below.refl _ _⟩
 case round =>
 obtain⟨B,t,rfl,VZ,hv,Bo,qM⟩:=hrel
 have HV:=Lib.hid hv
 clear hv
 by_cases h0:0<t.size
 ·obtain⟨b,off,rfl,Xv⟩:=VZ h0
  have D8:(0:Int)<(t.size:Int):=by omega
  have xD:=hH.below qM (Nat.le_refl _)
  have c0:=xD.cell (Xv 0 h0)
  have l0:=(t.get! 0).toNat_lt
  obtain⟨x0,VK⟩:∃ x0,t.get! 0=x0:=⟨_,rfl⟩
  rw[VK]at c0 l0
  simp only[Nat.add_zero]at c0
  have Rv:=Lib.hid Xv
  by_cases jy:x0.toNat<128
  ·as_aux_lemma =>
   have L3:(x0.toNat:Int)<128:=by omega
   have Bb:(1:Int)≤(t.size:Int):=by omega
   have a1:Lib.Asc t 1:=Lib.asc_one t h0 (by rw[VK];exact jy)
   obtain⟨t1,di⟩:∃ t1,t.extract 1 t.size=t1:=⟨_,rfl⟩
   have zt1:t.size-1=t1.size:=by rw[← di,Lib.ext_size]
   have sbt1:=SB.skipc Xv 1 (by omega)
   rw[di]at sbt1
   obtain⟨Bt1,mK⟩:∃ B,(if t.size=1 then some (⟨b,off,none⟩:Addr) else some ⟨b,off+1,none⟩)=B:=⟨_,rfl⟩
   rw[mK]at sbt1
   have V1:Hid (Lib.validD t1.data.toList=ANS):=by rw[Hid,← di,Lib.valid_skip t 1 a1];exact HV.out
   have Pj:=Lib.hid (And.intro zt1 mK)
   clear Xv zt1 a1 VK di VZ mK
   go_upto_region 6 with fail
   rw[Pj.out.2,Pj.out.1]
   by_cases c8:8<t1.size
   ·have c8z:(8:Int)<(t1.size:Int):=by omega
    have c8y:(8:Int)≤(t1.size:Int):=by omega
    obtain⟨A1,K9⟩:∃ A1,Lib.leNat [t1.get! 0,t1.get! 1,t1.get! 2,t1.get! 3,t1.get! 4,t1.get! 5,t1.get! 6,t1.get! 7]=A1:=⟨_,rfl⟩
    have lA1:A1<18446744073709551616:=K9 ▸ Lib.word_lt t1
    have cW1:∀ (c:Nat) (W:World),Holds W H→Calls Tryz.prog 115 #[.slice Bt1 t1.size c] W fun e w'=>e=.returned (.int .u64 (A1:Int))∧∃ q,w'=W.drewN q:=fun c W h=>by rw[← K9];exact sK sbt1 (by omega) c W h
    have CW1:=Lib.hid cW1
    have kA1:=Lib.word_asc t1 (by omega)
    rw[K9]at kA1
    clear cW1 K9
    have UG:bits .and .u64 (A1:Int) 9259542123273814144=((A1 &&& 9259542123273814144:Nat):Int):=u64_and_nat A1 9259542123273814144 lA1 (by omega)
    obtain⟨Z1,Fg⟩:∃ Z1,A1 &&& 9259542123273814144=Z1:=⟨_,rfl⟩
    rw[Fg]at UG kA1
    have KA1:=Lib.hid kA1
    have LM:=Lib.hid sbt1
    clear Fg kA1 lA1 sbt1 c0 l0
    by_cases qL:Z1=0
    ·have MJ:((Z1:Int)==0)=true:=by simp[qL]
     have IL:=Lib.hid qL
     clear qL
     go_wp2_with (go_at_call 115;refine zf ?_)
     unfold zU
     refine(CW1.out _ _ xD).mono ?_
     rintro e w5 ⟨rfl,q5,rfl⟩
     have uM:=Holds.drewN xD q5
     have oL:=below_drewNv qM q5
     obtain⟨b1,off1,rfl,Lq⟩:=LM.out (by omega)
     obtain⟨t2,Ki⟩:∃ t2,t1.extract 8 t1.size=t2:=⟨_,rfl⟩
     have zt2:t1.size-8=t2.size:=by rw[← Ki,Lib.ext_size]
     have sbt2:=SB.skipc Lq 8 (by omega)
     rw[Ki,if_neg (by omega)]at sbt2
     obtain⟨Bt2,Om⟩:∃ B,some (⟨b1,off1+8,none⟩:Addr)=B:=⟨_,rfl⟩
     rw[Om]at sbt2
     have V2:Hid (Lib.validD t2.data.toList=ANS):=by rw[Hid,← Ki,Lib.valid_skip t1 8 (KA1.out.1 IL.out)];exact V1.out
     have Mi:=Lib.hid (And.intro zt2 Om)
     generalize wr.drewN q5=wq at uM oL⊢
     clear zt2 Ki Lq Om qM xD CW1 KA1 IL
     go_upto_region 8 with fail
     rw[Mi.out.2,Mi.out.1]
     by_cases c16:16<t2.size
     ·have c16z:(16:Int)<(t2.size:Int):=by omega
      have c16y:(16:Int)≤(t2.size:Int):=by omega
      have s8z:(8:Int)≤(t2.size:Int):=by omega
      have n8:(t2.size=8)=False:=eq_false (by omega)
      obtain⟨b2,off2,rfl,X4⟩:=sbt2 (by omega)
      have Gg:SB H (some ⟨b2,off2,none⟩) t2:=sbt2
      obtain⟨t2b,Ro⟩:∃ t2b,t2.extract 8 t2.size=t2b:=⟨_,rfl⟩
      have zt2b:t2.size-8=t2b.size:=by rw[← Ro,Lib.ext_size]
      have sbt2b:=SB.skipc X4 8 (by omega)
      rw[Ro,if_neg (by omega)]at sbt2b
      obtain⟨o2b,Rj⟩:∃ o,off2+8=o:=⟨_,rfl⟩
      rw[Rj]at sbt2b
      obtain⟨A2,KD⟩:∃ A2,Lib.leNat [t2.get! 0,t2.get! 1,t2.get! 2,t2.get! 3,t2.get! 4,t2.get! 5,t2.get! 6,t2.get! 7]=A2:=⟨_,rfl⟩
      have lA2:A2<18446744073709551616:=KD ▸ Lib.word_lt t2
      have cW2:∀ (c:Nat) (W:World),Holds W H→Calls Tryz.prog 115 #[.slice (some ⟨b2,off2,none⟩) t2.size c] W fun e w'=>e=.returned (.int .u64 (A2:Int))∧∃ q,w'=W.drewN q:=fun c W h=>by rw[← KD];exact sK Gg (by omega) c W h
      have CW2:=Lib.hid cW2
      have kA2:=Lib.word_asc t2 (by omega)
      rw[KD]at kA2
      clear cW2 KD
      obtain⟨A3,KE⟩:∃ A3,Lib.leNat [t2b.get! 0,t2b.get! 1,t2b.get! 2,t2b.get! 3,t2b.get! 4,t2b.get! 5,t2b.get! 6,t2b.get! 7]=A3:=⟨_,rfl⟩
      have lA3:A3<18446744073709551616:=KE ▸ Lib.word_lt t2b
      have cW3:∀ (c:Nat) (W:World),Holds W H→Calls Tryz.prog 115 #[.slice (some ⟨b2,off2+8,none⟩) (t2.size-8) c] W fun e w'=>e=.returned (.int .u64 (A3:Int))∧∃ q,w'=W.drewN q:=fun c W h=>by rw[← KE,zt2b,Rj];exact sK sbt2b (by omega) c W h
      have CW3:=Lib.hid cW3
      have kA3:=Lib.word_asc t2b (by omega)
      rw[KE]at kA3
      clear cW3 KE
      have M5:bits .or .u64 (A2:Int) (A3:Int)=((A2 ||| A3:Nat):Int):=u64_or_nat A2 A3 lA2 lA3
      have lor2:A2 ||| A3<18446744073709551616:=Nat.or_lt_two_pow (n:=64) lA2 lA3
      have UH:bits .and .u64 ((A2 ||| A3:Nat):Int) 9259542123273814144=(((A2 ||| A3) &&& 9259542123273814144:Nat):Int):=u64_and_nat _ 9259542123273814144 lor2 (by omega)
      have k2:(A2 ||| A3) &&& 9259542123273814144=0→Lib.Asc t2 16:=fun h0'=>by
       obtain⟨e1,e2⟩:=(Lib.or_mask A2 A3 _).1 h0'
       exact Lib.asc_add t2 8 8 (kA2.1 e1) (by rw[Ro];exact kA3.1 e2)
      obtain⟨O2,tl⟩:∃ O2,A2 ||| A3=O2:=⟨_,rfl⟩
      rw[tl]at M5 UH k2
      obtain⟨Z2,N7⟩:∃ Z2,O2 &&& 9259542123273814144=Z2:=⟨_,rfl⟩
      rw[N7]at UH k2
      have K2:=Lib.hid k2
      have LE:=Lib.hid X4
      clear kA2 kA3 lor2 tl N7 k2 lA2 lA3 Ro sbt2b X4 sbt2
      obtain⟨zz2,ML⟩:∃ zz,((Z2:Int)==0)=zz:=⟨_,rfl⟩
      have Cz:=Lib.hid ML
      go_cut [0,46] (fun s0 s46 wx=>s0=.slice (some ⟨b2,off2,none⟩) t2.size t2.size∧s46=.bool zz2∧Below w.heap.size w wx)
      case first =>
       clear zt2b Rj MJ UG
       have XF:=uM
       have lS:=oL
       refine zn 13 (fun _=>True) (by kernel_rfl) (trivial) (fun zy=>?_)
       refine Ways.takeS (i:=0) (v:=?_) rfl (by kernel_rfl) (fun _ _ _ h=>h) (Or.inl ⟨by rfl, ?_⟩) zy ?_
       rotate_left
       ·(intro w ta;(try dsimp only at ta);go_simp;try with_reducible rfl)
       try simp only[Act.put,getElem_toArray,getElem_cons_zero,getElem_cons_succ,setIfInBounds_toArray,set_cons_zero,set_cons_succ]
       refine Ways.takeS (i:=1) (v:=?_) rfl (by kernel_rfl) (fun _ _ _ h=>h) (Or.inl ⟨by rfl, ?_⟩) zy ?_
       rotate_left
       ·(intro w ta;(try dsimp only at ta);go_simp;try with_reducible rfl)
       try simp only[Act.put,getElem_toArray,getElem_cons_zero,getElem_cons_succ,setIfInBounds_toArray,set_cons_zero,set_cons_succ]
       refine Ways.takeS (i:=2) (v:=?_) rfl (by kernel_rfl) (fun _ _ _ h=>h) (Or.inl ⟨by rfl, ?_⟩) zy ?_
       rotate_left
       ·(intro w ta;(try dsimp only at ta);go_simp;try with_reducible rfl)
       try simp only[Act.put,getElem_toArray,getElem_cons_zero,getElem_cons_succ,setIfInBounds_toArray,set_cons_zero,set_cons_succ]
       refine Ways.takeS (i:=3) (v:=?_) rfl (by kernel_rfl) (fun _ _ _ h=>h) (Or.inl ⟨by rfl, ?_⟩) zy ?_
       rotate_left
       ·(intro w ta;(try dsimp only at ta);go_simp;try with_reducible rfl)
       try simp only[Act.put,getElem_toArray,getElem_cons_zero,getElem_cons_succ,setIfInBounds_toArray,set_cons_zero,set_cons_succ]
       refine Ways.takeS (i:=4) (v:=?_) rfl (by kernel_rfl) (fun _ _ _ h=>h) (Or.inl ⟨?_, ?_⟩) zy ?_
       rotate_left
       ·kernel_rfl
       ·(intro w ta;(try dsimp only at ta);go_simp;try with_reducible rfl)
       try simp only[Act.put,getElem_toArray,getElem_cons_zero,getElem_cons_succ,setIfInBounds_toArray,set_cons_zero,set_cons_succ]
       refine Ways.takeS (i:=6) (v:=?_) rfl (by kernel_rfl) (fun _ _ _ h=>h) (Or.inl ⟨?_, ?_⟩) zy ?_
       rotate_left
       ·kernel_rfl
       ·(intro w ta;(try dsimp only at ta);go_simp;try with_reducible rfl)
       try simp only[Act.put,getElem_toArray,getElem_cons_zero,getElem_cons_succ,setIfInBounds_toArray,set_cons_zero,set_cons_succ]
       refine Ways.takeS (i:=7) (v:=?_) rfl (by kernel_rfl) (fun _ _ _ h=>h) (Or.inl ⟨?_, ?_⟩) zy ?_
       rotate_left
       ·kernel_rfl
       ·(intro w ta;(try dsimp only at ta);go_simp;try with_reducible rfl)
       try simp only[Act.put,getElem_toArray,getElem_cons_zero,getElem_cons_succ,setIfInBounds_toArray,set_cons_zero,set_cons_succ]
       refine Ways.one (i:=5) rfl (by kernel_rfl) (fun K hK=>?_)
       go_simp
       refine(CW2.out _ _ (by repeat (first | exact XF | exact XF.drew | refine Holds.drewN ?_ _))).mono ?_
       rintro e w5 ⟨rfl,q5,rfl⟩
       refine hK.out _ _ (fun _=>?_) (fun zy=>?_)
       ·exact trivial
       clear hK K
       have zy:=zy (by decide)
       try simp only[Act.put,getElem_toArray,getElem_cons_zero,getElem_cons_succ,setIfInBounds_toArray,set_cons_zero,set_cons_succ]
       refine Ways.one (i:=8) rfl (by kernel_rfl) (fun K hK=>?_)
       go_simp
       refine(CW3.out _ _ (by repeat (first | exact XF | exact XF.drew | refine Holds.drewN ?_ _))).mono ?_
       rintro e w5 ⟨rfl,q5,rfl⟩
       refine hK.out _ _ (fun _=>?_) (fun zy=>?_)
       ·exact trivial
       clear hK K
       have zy:=zy (by decide)
       try simp only[Act.put,getElem_toArray,getElem_cons_zero,getElem_cons_succ,setIfInBounds_toArray,set_cons_zero,set_cons_succ]
       refine Ways.takeS (i:=9) (v:=?_) rfl (by kernel_rfl) (fun _ _ _ h=>h) (Or.inl ⟨?_, ?_⟩) zy ?_
       rotate_left
       ·kernel_rfl
       ·(intro w ta;(try dsimp only at ta);go_simp;try with_reducible rfl)
       try simp only[Act.put,getElem_toArray,getElem_cons_zero,getElem_cons_succ,setIfInBounds_toArray,set_cons_zero,set_cons_succ]
       refine Ways.takeS (i:=10) (v:=?_) rfl (by kernel_rfl) (fun _ _ _ h=>h) (Or.inl ⟨?_, ?_⟩) zy ?_
       rotate_left
       ·kernel_rfl
       ·(intro w ta;(try dsimp only at ta);go_simp;try with_reducible rfl)
       try simp only[Act.put,getElem_toArray,getElem_cons_zero,getElem_cons_succ,setIfInBounds_toArray,set_cons_zero,set_cons_succ]
       refine Ways.takeS (i:=11) (v:=?_) rfl (by kernel_rfl) (fun _ _ _ h=>h) (Or.inl ⟨?_, ?_⟩) zy ?_
       rotate_left
       ·kernel_rfl
       ·(intro w ta;(try dsimp only at ta);go_simp;try with_reducible rfl)
       try simp only[Act.put,getElem_toArray,getElem_cons_zero,getElem_cons_succ,setIfInBounds_toArray,set_cons_zero,set_cons_succ]
       refine Ways.takeS (i:=12) (v:=?_) rfl (by kernel_rfl) (fun _ _ _ h=>h) (Or.inl ⟨by rfl, ?_⟩) zy ?_
       rotate_left
       ·(intro w ta;(try dsimp only at ta);go_simp;try with_reducible rfl)
       try simp only[Act.put,getElem_toArray,getElem_cons_zero,getElem_cons_succ,setIfInBounds_toArray,set_cons_zero,set_cons_succ]
       refine Ways.done (by kernel_rfl) ?_
       go_wp2_with fail
       go_meet
       exact⟨rfl,rfl,by repeat (first | exact lS | exact lS.drew | refine below_drewNv ?_ _)⟩
      case rest =>
      clear oL uM
      obtain⟨rfl,rfl,oL⟩:=hcut
      have uM:=hH.below oL (Nat.le_refl _)
      cases zz2 with
      | true =>
       have qE:Z2=0:=by have:=Cz.out;simpa using this
       have X4:=LE.out
       obtain⟨t3,Kj⟩:∃ t3,t2.extract 16 t2.size=t3:=⟨_,rfl⟩
       have zt3:t2.size-16=t3.size:=by rw[← Kj,Lib.ext_size]
       have sbt3:=SB.skipc X4 16 (by omega)
       rw[Kj,if_neg (by omega)]at sbt3
       obtain⟨Bt3,On⟩:∃ B,some (⟨b2,off2+16,none⟩:Addr)=B:=⟨_,rfl⟩
       rw[On]at sbt3
       have V3:Hid (Lib.validD t3.data.toList=ANS):=by rw[Hid,← Kj,Lib.valid_skip t2 16 (K2.out qE)];exact V2.out
       have Ek:=Lib.hid (And.intro zt3 On)
       have sv:=Lib.hid (show t3.size<t.size∧t3.size≤t0.size by have:=Pj.out.1;have:=Mi.out.1;omega)
       clear zt3 Kj On X4 UH M5 ML qE CW2 CW3 UG zt2b Rj
       go_wp2_with fail
       rw[Ek.out.2,Ek.out.1]
       go_loopw [0] (fun v0 wx=>∃ (B:Option Addr) (u:ByteArray),v0=.slice B u.size u.size∧SB H B u∧Lib.validD u.data.toList=ANS∧u.size≤t3.size∧Below w.heap.size w wx) (fun v0 _=>ii v0)
       case atStart=>exact⟨_,t3,rfl,sbt3,V3.out,Nat.le_refl _,oL⟩
       case round =>
       clear sbt3 oL uM
       obtain⟨BU,u,rfl,sbu,G7,Bp,oL⟩:=hrel
       have VU:=Lib.hid G7
       clear G7
       have uM:=hH.below oL (Nat.le_refl _)
       by_cases c32:32<u.size
       ·have c32z:(32:Int)<(u.size:Int):=by omega
        have c32y:(32:Int)≤(u.size:Int):=by omega
        have s8u:(8:Int)≤(u.size:Int):=by omega
        have s16u:(16:Int)≤(u.size:Int):=by omega
        have s24u:(24:Int)≤(u.size:Int):=by omega
        have n8u:(u.size=8)=False:=eq_false (by omega)
        have n16u:(u.size=16)=False:=eq_false (by omega)
        have n24u:(u.size=24)=False:=eq_false (by omega)
        obtain⟨bu,ou,rfl,SL⟩:=sbu (by omega)
        obtain⟨ub,Kl⟩:∃ ub,u.extract 8 u.size=ub:=⟨_,rfl⟩
        have zub:u.size-8=ub.size:=by rw[← Kl,Lib.ext_size]
        have sbub:=SB.skipc SL 8 (by omega)
        rw[Kl,if_neg (by omega)]at sbub
        obtain⟨oub,Rk⟩:∃ o,ou+8=o:=⟨_,rfl⟩
        rw[Rk]at sbub
        obtain⟨uc,Km⟩:∃ uc,u.extract 16 u.size=uc:=⟨_,rfl⟩
        have zuc:u.size-16=uc.size:=by rw[← Km,Lib.ext_size]
        have sbuc:=SB.skipc SL 16 (by omega)
        rw[Km,if_neg (by omega)]at sbuc
        obtain⟨ouc,Rl⟩:∃ o,ou+16=o:=⟨_,rfl⟩
        rw[Rl]at sbuc
        obtain⟨ud,Kn⟩:∃ ud,u.extract 24 u.size=ud:=⟨_,rfl⟩
        have zud:u.size-24=ud.size:=by rw[← Kn,Lib.ext_size]
        have sbud:=SB.skipc SL 24 (by omega)
        rw[Kn,if_neg (by omega)]at sbud
        obtain⟨oud,Rm⟩:∃ o,ou+24=o:=⟨_,rfl⟩
        rw[Rm]at sbud
        obtain⟨A4,KF⟩:∃ A4,Lib.leNat [u.get! 0,u.get! 1,u.get! 2,u.get! 3,u.get! 4,u.get! 5,u.get! 6,u.get! 7]=A4:=⟨_,rfl⟩
        have lA4:A4<18446744073709551616:=KF ▸ Lib.word_lt u
        have cW4:∀ (c:Nat) (W:World),Holds W H→Calls Tryz.prog 115 #[.slice (some ⟨bu,ou,none⟩) u.size c] W fun e w'=>e=.returned (.int .u64 (A4:Int))∧∃ q,w'=W.drewN q:=fun c W h=>by rw[← KF];exact sK (fun _=>⟨bu,ou,rfl,SL⟩) (by omega) c W h
        have CW4:=Lib.hid cW4
        have kA4:=Lib.word_asc u (by omega)
        rw[KF]at kA4
        clear cW4 KF
        obtain⟨A5,KG⟩:∃ A5,Lib.leNat [ub.get! 0,ub.get! 1,ub.get! 2,ub.get! 3,ub.get! 4,ub.get! 5,ub.get! 6,ub.get! 7]=A5:=⟨_,rfl⟩
        have lA5:A5<18446744073709551616:=KG ▸ Lib.word_lt ub
        have cW5:∀ (c:Nat) (W:World),Holds W H→Calls Tryz.prog 115 #[.slice (some ⟨bu,ou+8,none⟩) (u.size-8) c] W fun e w'=>e=.returned (.int .u64 (A5:Int))∧∃ q,w'=W.drewN q:=fun c W h=>by rw[← KG,zub,Rk];exact sK sbub (by omega) c W h
        have CW5:=Lib.hid cW5
        have kA5:=Lib.word_asc ub (by omega)
        rw[KG]at kA5
        clear cW5 KG
        obtain⟨A6,KH⟩:∃ A6,Lib.leNat [uc.get! 0,uc.get! 1,uc.get! 2,uc.get! 3,uc.get! 4,uc.get! 5,uc.get! 6,uc.get! 7]=A6:=⟨_,rfl⟩
        have lA6:A6<18446744073709551616:=KH ▸ Lib.word_lt uc
        have cW6:∀ (c:Nat) (W:World),Holds W H→Calls Tryz.prog 115 #[.slice (some ⟨bu,ou+16,none⟩) (u.size-16) c] W fun e w'=>e=.returned (.int .u64 (A6:Int))∧∃ q,w'=W.drewN q:=fun c W h=>by rw[← KH,zuc,Rl];exact sK sbuc (by omega) c W h
        have CW6:=Lib.hid cW6
        have kA6:=Lib.word_asc uc (by omega)
        rw[KH]at kA6
        clear cW6 KH
        obtain⟨A7,KJ⟩:∃ A7,Lib.leNat [ud.get! 0,ud.get! 1,ud.get! 2,ud.get! 3,ud.get! 4,ud.get! 5,ud.get! 6,ud.get! 7]=A7:=⟨_,rfl⟩
        have lA7:A7<18446744073709551616:=KJ ▸ Lib.word_lt ud
        have cW7:∀ (c:Nat) (W:World),Holds W H→Calls Tryz.prog 115 #[.slice (some ⟨bu,ou+24,none⟩) (u.size-24) c] W fun e w'=>e=.returned (.int .u64 (A7:Int))∧∃ q,w'=W.drewN q:=fun c W h=>by rw[← KJ,zud,Rm];exact sK sbud (by omega) c W h
        have CW7:=Lib.hid cW7
        have kA7:=Lib.word_asc ud (by omega)
        rw[KJ]at kA7
        clear cW7 KJ
        have Nz:bits .or .u64 (A4:Int) (A5:Int)=((A4 ||| A5:Nat):Int):=u64_or_nat A4 A5 lA4 lA5
        have Qj:bits .or .u64 (A6:Int) (A7:Int)=((A6 ||| A7:Nat):Int):=u64_or_nat A6 A7 lA6 lA7
        have lo1:A4 ||| A5<18446744073709551616:=Nat.or_lt_two_pow (n:=64) lA4 lA5
        have lo2:A6 ||| A7<18446744073709551616:=Nat.or_lt_two_pow (n:=64) lA6 lA7
        have JG:bits .or .u64 ((A4 ||| A5:Nat):Int) ((A6 ||| A7:Nat):Int)=(((A4 ||| A5) ||| (A6 ||| A7):Nat):Int):=u64_or_nat _ _ lo1 lo2
        have lo3:(A4 ||| A5) ||| (A6 ||| A7)<18446744073709551616:=Nat.or_lt_two_pow (n:=64) lo1 lo2
        have Xk:bits .and .u64 (((A4 ||| A5) ||| (A6 ||| A7):Nat):Int) 9259542123273814144=((((A4 ||| A5) ||| (A6 ||| A7)) &&& 9259542123273814144:Nat):Int):=u64_and_nat _ 9259542123273814144 lo3 (by omega)
        have k3:((A4 ||| A5) ||| (A6 ||| A7)) &&& 9259542123273814144=0→Lib.Asc u 32:=fun h0'=>by
         obtain⟨e01,e23⟩:=(Lib.or_mask _ _ _).1 h0'
         obtain⟨e0,e1⟩:=(Lib.or_mask _ _ _).1 e01
         obtain⟨e2,e3⟩:=(Lib.or_mask _ _ _).1 e23
         have s16:Lib.Asc u 16:=Lib.asc_add u 8 8 (kA4.1 e0) (by rw[Kl];exact kA5.1 e1)
         have s24:Lib.Asc u 24:=Lib.asc_add u 16 8 s16 (by rw[Km];exact kA6.1 e2)
         exact Lib.asc_add u 24 8 s24 (by rw[Kn];exact kA7.1 e3)
        obtain⟨P1,fL⟩:∃ P1,A4 ||| A5=P1:=⟨_,rfl⟩
        obtain⟨P2,Pp⟩:∃ P2,A6 ||| A7=P2:=⟨_,rfl⟩
        rw[fL,Pp]at JG Xk k3
        rw[fL]at Nz
        rw[Pp]at Qj
        obtain⟨P3,FZ⟩:∃ P3,P1 ||| P2=P3:=⟨_,rfl⟩
        rw[FZ]at JG Xk k3
        obtain⟨Z3,Fh⟩:∃ Z3,P3 &&& 9259542123273814144=Z3:=⟨_,rfl⟩
        rw[Fh]at Xk k3
        have K3:=Lib.hid k3
        have EO:=Lib.hid SL
        clear kA4 kA5 kA6 kA7 lo1 lo2 lo3 fL Pp FZ Fh k3 Kl sbub Km sbuc Kn sbud lA4 lA5 lA6 lA7 SL sbu
        obtain⟨zz3,MO⟩:∃ zz,((Z3:Int)==0)=zz:=⟨_,rfl⟩
        have Cx:=Lib.hid MO
        go_upto_region 10 with fail
        go_cut [0,69] (fun s0 s69 wx=>s0=.slice (some ⟨bu,ou,none⟩) u.size u.size∧s69=.bool zz3∧Below w.heap.size w wx)
        case first =>
         clear zub zuc zud Rk Rl Rm
         have XF:=uM
         have lS:=oL
         refine zn 21 (fun _=>True) (by kernel_rfl) (trivial) (fun zy=>?_)
         refine Ways.takeS (i:=0) (v:=?_) rfl (by kernel_rfl) (fun _ _ _ h=>h) (Or.inl ⟨by rfl, ?_⟩) zy ?_
         rotate_left
         ·(intro w ta;(try dsimp only at ta);go_simp;try with_reducible rfl)
         try simp only[Act.put,getElem_toArray,getElem_cons_zero,getElem_cons_succ,setIfInBounds_toArray,set_cons_zero,set_cons_succ]
         refine Ways.takeS (i:=1) (v:=?_) rfl (by kernel_rfl) (fun _ _ _ h=>h) (Or.inl ⟨by rfl, ?_⟩) zy ?_
         rotate_left
         ·(intro w ta;(try dsimp only at ta);go_simp;try with_reducible rfl)
         try simp only[Act.put,getElem_toArray,getElem_cons_zero,getElem_cons_succ,setIfInBounds_toArray,set_cons_zero,set_cons_succ]
         refine Ways.takeS (i:=2) (v:=?_) rfl (by kernel_rfl) (fun _ _ _ h=>h) (Or.inl ⟨by rfl, ?_⟩) zy ?_
         rotate_left
         ·(intro w ta;(try dsimp only at ta);go_simp;try with_reducible rfl)
         try simp only[Act.put,getElem_toArray,getElem_cons_zero,getElem_cons_succ,setIfInBounds_toArray,set_cons_zero,set_cons_succ]
         refine Ways.takeS (i:=3) (v:=?_) rfl (by kernel_rfl) (fun _ _ _ h=>h) (Or.inl ⟨by rfl, ?_⟩) zy ?_
         rotate_left
         ·(intro w ta;(try dsimp only at ta);go_simp;try with_reducible rfl)
         try simp only[Act.put,getElem_toArray,getElem_cons_zero,getElem_cons_succ,setIfInBounds_toArray,set_cons_zero,set_cons_succ]
         refine Ways.takeS (i:=4) (v:=?_) rfl (by kernel_rfl) (fun _ _ _ h=>h) (Or.inl ⟨?_, ?_⟩) zy ?_
         rotate_left
         ·kernel_rfl
         ·(intro w ta;(try dsimp only at ta);go_simp;try with_reducible rfl)
         try simp only[Act.put,getElem_toArray,getElem_cons_zero,getElem_cons_succ,setIfInBounds_toArray,set_cons_zero,set_cons_succ]
         refine Ways.takeS (i:=6) (v:=?_) rfl (by kernel_rfl) (fun _ _ _ h=>h) (Or.inl ⟨?_, ?_⟩) zy ?_
         rotate_left
         ·kernel_rfl
         ·(intro w ta;(try dsimp only at ta);go_simp;try with_reducible rfl)
         try simp only[Act.put,getElem_toArray,getElem_cons_zero,getElem_cons_succ,setIfInBounds_toArray,set_cons_zero,set_cons_succ]
         refine Ways.takeS (i:=7) (v:=?_) rfl (by kernel_rfl) (fun _ _ _ h=>h) (Or.inl ⟨?_, ?_⟩) zy ?_
         rotate_left
         ·kernel_rfl
         ·(intro w ta;(try dsimp only at ta);go_simp;try with_reducible rfl)
         try simp only[Act.put,getElem_toArray,getElem_cons_zero,getElem_cons_succ,setIfInBounds_toArray,set_cons_zero,set_cons_succ]
         refine Ways.takeS (i:=10) (v:=?_) rfl (by kernel_rfl) (fun _ _ _ h=>h) (Or.inl ⟨?_, ?_⟩) zy ?_
         rotate_left
         ·kernel_rfl
         ·(intro w ta;(try dsimp only at ta);go_simp;try with_reducible rfl)
         try simp only[Act.put,getElem_toArray,getElem_cons_zero,getElem_cons_succ,setIfInBounds_toArray,set_cons_zero,set_cons_succ]
         refine Ways.takeS (i:=11) (v:=?_) rfl (by kernel_rfl) (fun _ _ _ h=>h) (Or.inl ⟨?_, ?_⟩) zy ?_
         rotate_left
         ·kernel_rfl
         ·(intro w ta;(try dsimp only at ta);go_simp;try with_reducible rfl)
         try simp only[Act.put,getElem_toArray,getElem_cons_zero,getElem_cons_succ,setIfInBounds_toArray,set_cons_zero,set_cons_succ]
         refine Ways.takeS (i:=13) (v:=?_) rfl (by kernel_rfl) (fun _ _ _ h=>h) (Or.inl ⟨?_, ?_⟩) zy ?_
         rotate_left
         ·kernel_rfl
         ·(intro w ta;(try dsimp only at ta);go_simp;try with_reducible rfl)
         try simp only[Act.put,getElem_toArray,getElem_cons_zero,getElem_cons_succ,setIfInBounds_toArray,set_cons_zero,set_cons_succ]
         refine Ways.takeS (i:=14) (v:=?_) rfl (by kernel_rfl) (fun _ _ _ h=>h) (Or.inl ⟨?_, ?_⟩) zy ?_
         rotate_left
         ·kernel_rfl
         ·(intro w ta;(try dsimp only at ta);go_simp;try with_reducible rfl)
         try simp only[Act.put,getElem_toArray,getElem_cons_zero,getElem_cons_succ,setIfInBounds_toArray,set_cons_zero,set_cons_succ]
         refine Ways.one (i:=5) rfl (by kernel_rfl) (fun K hK=>?_)
         go_simp
         refine(CW4.out _ _ (by repeat (first | exact XF | exact XF.drew | refine Holds.drewN ?_ _))).mono ?_
         rintro e w5 ⟨rfl,q5,rfl⟩
         refine hK.out _ _ (fun _=>?_) (fun zy=>?_)
         ·exact trivial
         clear hK K
         have zy:=zy (by decide)
         try simp only[Act.put,getElem_toArray,getElem_cons_zero,getElem_cons_succ,setIfInBounds_toArray,set_cons_zero,set_cons_succ]
         refine Ways.one (i:=8) rfl (by kernel_rfl) (fun K hK=>?_)
         go_simp
         refine(CW5.out _ _ (by repeat (first | exact XF | exact XF.drew | refine Holds.drewN ?_ _))).mono ?_
         rintro e w5 ⟨rfl,q5,rfl⟩
         refine hK.out _ _ (fun _=>?_) (fun zy=>?_)
         ·exact trivial
         clear hK K
         have zy:=zy (by decide)
         try simp only[Act.put,getElem_toArray,getElem_cons_zero,getElem_cons_succ,setIfInBounds_toArray,set_cons_zero,set_cons_succ]
         refine Ways.takeS (i:=9) (v:=?_) rfl (by kernel_rfl) (fun _ _ _ h=>h) (Or.inl ⟨?_, ?_⟩) zy ?_
         rotate_left
         ·kernel_rfl
         ·(intro w ta;(try dsimp only at ta);go_simp;try with_reducible rfl)
         try simp only[Act.put,getElem_toArray,getElem_cons_zero,getElem_cons_succ,setIfInBounds_toArray,set_cons_zero,set_cons_succ]
         refine Ways.one (i:=12) rfl (by kernel_rfl) (fun K hK=>?_)
         go_simp
         refine(CW6.out _ _ (by repeat (first | exact XF | exact XF.drew | refine Holds.drewN ?_ _))).mono ?_
         rintro e w5 ⟨rfl,q5,rfl⟩
         refine hK.out _ _ (fun _=>?_) (fun zy=>?_)
         ·exact trivial
         clear hK K
         have zy:=zy (by decide)
         try simp only[Act.put,getElem_toArray,getElem_cons_zero,getElem_cons_succ,setIfInBounds_toArray,set_cons_zero,set_cons_succ]
         refine Ways.one (i:=15) rfl (by kernel_rfl) (fun K hK=>?_)
         go_simp
         refine(CW7.out _ _ (by repeat (first | exact XF | exact XF.drew | refine Holds.drewN ?_ _))).mono ?_
         rintro e w5 ⟨rfl,q5,rfl⟩
         refine hK.out _ _ (fun _=>?_) (fun zy=>?_)
         ·exact trivial
         clear hK K
         have zy:=zy (by decide)
         try simp only[Act.put,getElem_toArray,getElem_cons_zero,getElem_cons_succ,setIfInBounds_toArray,set_cons_zero,set_cons_succ]
         refine Ways.takeS (i:=16) (v:=?_) rfl (by kernel_rfl) (fun _ _ _ h=>h) (Or.inl ⟨?_, ?_⟩) zy ?_
         rotate_left
         ·kernel_rfl
         ·(intro w ta;(try dsimp only at ta);go_simp;try with_reducible rfl)
         try simp only[Act.put,getElem_toArray,getElem_cons_zero,getElem_cons_succ,setIfInBounds_toArray,set_cons_zero,set_cons_succ]
         refine Ways.takeS (i:=17) (v:=?_) rfl (by kernel_rfl) (fun _ _ _ h=>h) (Or.inl ⟨?_, ?_⟩) zy ?_
         rotate_left
         ·kernel_rfl
         ·(intro w ta;(try dsimp only at ta);go_simp;try with_reducible rfl)
         try simp only[Act.put,getElem_toArray,getElem_cons_zero,getElem_cons_succ,setIfInBounds_toArray,set_cons_zero,set_cons_succ]
         refine Ways.takeS (i:=18) (v:=?_) rfl (by kernel_rfl) (fun _ _ _ h=>h) (Or.inl ⟨?_, ?_⟩) zy ?_
         rotate_left
         ·kernel_rfl
         ·(intro w ta;(try dsimp only at ta);go_simp;try with_reducible rfl)
         try simp only[Act.put,getElem_toArray,getElem_cons_zero,getElem_cons_succ,setIfInBounds_toArray,set_cons_zero,set_cons_succ]
         refine Ways.takeS (i:=19) (v:=?_) rfl (by kernel_rfl) (fun _ _ _ h=>h) (Or.inl ⟨?_, ?_⟩) zy ?_
         rotate_left
         ·kernel_rfl
         ·(intro w ta;(try dsimp only at ta);go_simp;try with_reducible rfl)
         try simp only[Act.put,getElem_toArray,getElem_cons_zero,getElem_cons_succ,setIfInBounds_toArray,set_cons_zero,set_cons_succ]
         refine Ways.takeS (i:=20) (v:=?_) rfl (by kernel_rfl) (fun _ _ _ h=>h) (Or.inl ⟨by rfl, ?_⟩) zy ?_
         rotate_left
         ·(intro w ta;(try dsimp only at ta);go_simp;try with_reducible rfl)
         try simp only[Act.put,getElem_toArray,getElem_cons_zero,getElem_cons_succ,setIfInBounds_toArray,set_cons_zero,set_cons_succ]
         refine Ways.done (by kernel_rfl) ?_
         go_wp2_with fail
         go_meet
         exact⟨rfl,rfl,by repeat (first | exact lS | exact lS.drew | refine below_drewNv ?_ _)⟩
        case rest =>
        clear oL uM
        obtain⟨rfl,rfl,oL⟩:=hcut
        cases zz3 with
        | true =>
         have Sw:Z3=0:=by have:=Cx.out;simpa using this
         have SL:=EO.out
         obtain⟨u2,Kk⟩:∃ u2,u.extract 32 u.size=u2:=⟨_,rfl⟩
         have zu2:u.size-32=u2.size:=by rw[← Kk,Lib.ext_size]
         have sbu2:=SB.skipc SL 32 (by omega)
         rw[Kk,if_neg (by omega)]at sbu2
         obtain⟨Bu2,Oo⟩:∃ B,some (⟨bu,ou+32,none⟩:Addr)=B:=⟨_,rfl⟩
         rw[Oo]at sbu2
         have VU2:Hid (Lib.validD u2.data.toList=ANS):=by rw[Hid,← Kk,Lib.valid_skip u 32 (K3.out Sw)];exact VU.out
         have El:=Lib.hid (And.intro zu2 Oo)
         have Ec:=Lib.hid (show u2.size<u.size∧u2.size≤t3.size by omega)
         clear zu2 Kk Oo SL Sw MO Xk Nz Qj JG zub zuc zud Rk Rl Rm
         go_wp2_with fail
         rw[El.out.2,El.out.1]
         go_roundw
         case rel=>exact⟨_,u2,rfl,sbu2,VU2.out,Ec.out.2,oL⟩
         case measure=>have:=Ec.out.1;simp[ii];omega
        | false =>
        have O4:SB H (some ⟨bu,ou,none⟩) u:=fun _=>⟨bu,ou,rfl,EO.out⟩
        have dZ:=Lib.hid (show u.size<t.size∧u.size≤t0.size by have:=sv.out;omega)
        go_wp2_with fail
        go_roundw
        case rel=>exact⟨_,u,rfl,O4,VU.out,dZ.out.2,oL⟩
        case measure=>have:=dZ.out.1;simp[ii];omega
       have c32z:¬ ((32:Int)<(u.size:Int)):=by omega
       have c32b:decide ((32:Int)<(u.size:Int))=false:=decide_eq_false c32z
       have dZ:=Lib.hid (show u.size<t.size∧u.size≤t0.size by have:=sv.out;omega)
       go_upto_region 10 with fail
       go_big_quiet (fail)
       have oL:=below_drewNv oL nq
       go_wp2_with fail
       go_roundw
       case rel=>exact⟨_,u,rfl,sbu,VU.out,dZ.out.2,oL⟩
       case measure=>have:=dZ.out.1;simp[ii];omega
      | false =>
      have O4:SB H (some ⟨b2,off2,none⟩) t2:=fun _=>⟨b2,off2,rfl,LE.out⟩
      have sv:=Lib.hid (show t2.size<t.size∧t2.size≤t0.size by have:=Pj.out.1;have:=Mi.out.1;omega)
      go_wp2_with fail
      go_roundw
      case rel=>exact⟨_,t2,rfl,O4,V2.out,sv.out.2,oL⟩
      case measure=>have:=sv.out.1;simp[ii];omega
     have c16z:¬ ((16:Int)<(t2.size:Int)):=by omega
     have c16b:decide ((16:Int)<(t2.size:Int))=false:=decide_eq_false c16z
     have sv:=Lib.hid (show t2.size<t.size∧t2.size≤t0.size by have:=Pj.out.1;have:=Mi.out.1;omega)
     go_big_quiet (fail)
     have oL:=below_drewNv oL nq
     go_wp2_with fail
     go_roundw
     case rel=>exact⟨_,t2,rfl,sbt2,V2.out,sv.out.2,oL⟩
     case measure=>have:=sv.out.1;simp[ii];omega
    have MJ:((Z1:Int)==0)=false:=by simp;omega
    have sv:=Lib.hid (show t1.size<t.size∧t1.size≤t0.size by have:=Pj.out.1;omega)
    go_wp2_with (go_at_call 115;refine zf ?_)
    unfold zU
    refine(CW1.out _ _ xD).mono ?_
    rintro e w5 ⟨rfl,q5,rfl⟩
    have oL:=below_drewNv qM q5
    go_wp2_with fail
    go_roundw
    case rel=>exact⟨_,t1,rfl,LM.out,V1.out,sv.out.2,oL⟩
    case measure=>have:=sv.out.1;simp[ii];omega
   have c8z:¬ ((8:Int)<(t1.size:Int)):=by omega
   have sv:=Lib.hid (show t1.size<t.size∧t1.size≤t0.size by have:=Pj.out.1;omega)
   go_wp2_with fail
   go_roundw
   case rel=>exact⟨_,t1,rfl,sbt1,V1.out,sv.out.2,qM⟩
   case measure=>have:=sv.out.1;simp[ii];omega
  have iJ:128≤x0.toNat:=by omega
  have L3:¬ ((x0.toNat:Int)<128):=by omega
  obtain⟨x1,mS⟩:∃ x1,t.get! 1=x1:=⟨_,rfl⟩
  obtain⟨x2,fV⟩:∃ x2,t.get! 2=x2:=⟨_,rfl⟩
  obtain⟨x3,NT⟩:∃ x3,t.get! 3=x3:=⟨_,rfl⟩
  have l1:=x1.toNat_lt;have l2:=x2.toNat_lt;have l3:=x3.toNat_lt
  have xq:t.data.toList≠[]:=fun h=>by rw[Lib.size_eq,h]at h0;simp at h0
  have xF:=Lib.validD_lead t.data.toList xq (by rw[Lib.getD_get!',VK];exact iJ)
  rw[Lib.getD_get!',Lib.getD_get!',Lib.getD_get!',Lib.getD_get!',VK,mS,fV,NT,← Lib.size_eq,HV.out]at xF
  have qg:=hT wr xD
  have pT:=qg.1 x0.toNat (by omega)
  have Ll:Lib.firstT x0.toNat<256:=by rcases Lib.firstT_cases x0.toNat with h | h | h | h | h | h | h | h | h <;> omega
  obtain⟨X,hX⟩:∃ X,Lib.firstT x0.toNat=X:=⟨_,rfl⟩
  rw[hX]at pT Ll xF
  have h7:=and7 ⟨X,Ll⟩
  simp only at h7
  have cD:wr.cell? ⟨1,X/16*2,none⟩=some (.int .u8 (Lib.accLo (X/16))):=by rw[Nat.mul_comm];exact(qg.2 (X/16) (by omega)).1
  have Di:wr.cell? ⟨1,X/16*2+1,none⟩=some (.int .u8 (Lib.accHi (X/16))):=by rw[Nat.mul_comm];exact(qg.2 (X/16) (by omega)).2
  obtain⟨LO,FV⟩:∃ LO,Lib.accLo (X/16)=LO:=⟨_,rfl⟩
  obtain⟨HI,FK⟩:∃ HI,Lib.accHi (X/16)=HI:=⟨_,rfl⟩
  rw[FV]at cD xF
  rw[FK]at Di xF
  obtain⟨SZ,Dg⟩:∃ SZ,X%8=SZ:=⟨_,rfl⟩
  rw[Dg]at xF
  have Sj:=Blk.new wr 117 #[.int .u8 (LO:Int),.int .u8 (HI:Int)]
  have fT:=qM.alloc qM.size (.cells #[.int .u8 (LO:Int),.int .u8 (HI:Int)] 117)
  have cA:=xD.alloc (.cells #[.int .u8 (LO:Int),.int .u8 (HI:Int)] 117)
  obtain⟨N,hN⟩:∃ N,wr.heap.size=N:=⟨_,rfl⟩
  rw[hN]at Sj
  clear qg hX FV FK xq VZ Xv
  by_cases s2:SZ=2
  ·as_aux_lemma =>
   subst s2
   have Lc:(X:Int)%8=2:=by omega
   simp only[Lib.checkN,Nat.reduceEqDiff,if_true,if_false]at xF
   have Zb:=Lib.hid xF
   clear xF
   go_upto_region 18 with fail
   generalize wr.alloc (.cells #[.int .u8 (LO:Int),.int .u8 (HI:Int)] 117)=wN at Sj fT cA⊢
   have n0:=Sj.cell 0 rfl
   have n1:=Sj.cell 1 rfl
   go_cut [103] (fun cc wx=>cc=.bool (decide (t.size<2∨x1.toNat<LO∨HI<x1.toNat))∧Below w.heap.size w wx)
   case first =>
    by_cases q0:t.size<2
    ·have q0z:(t.size:Int)<2:=by omega
     go_big_quiet (fail)
     go_wp2_with fail
     go_meet
     exact⟨congrArg Value.bool (decide_eq_true (p:=t.size<2∨x1.toNat<LO∨HI<x1.toNat) (by omega)).symm,below_drewNv fT nq⟩
    have q0z:¬ ((t.size:Int)<2):=by omega
    have q0b:decide ((t.size:Int)<2)=false:=decide_eq_false q0z
    have qL:(1:Int)<(t.size:Int):=by omega
    have cN:1<t.size:=by omega
    have d1:wN.cell? ⟨b,off+1,none⟩=some (.int .u8 (x1.toNat:Int)):=by rw[← mS];exact cA.cell (Rv.out 1 (by omega))
    by_cases q1:x1.toNat<LO
    ·have q1z:((x1.toNat:Int)<(LO:Int)):=by omega
     go_big_quiet (fail)
     go_wp2_with fail
     go_meet
     exact⟨congrArg Value.bool (decide_eq_true (p:=t.size<2∨x1.toNat<LO∨HI<x1.toNat) (by omega)).symm,below_drewNv fT nq⟩
    have q1z:¬ ((x1.toNat:Int)<(LO:Int)):=by omega
    have q1b:decide ((x1.toNat:Int)<(LO:Int))=false:=decide_eq_false q1z
    by_cases q2:HI<x1.toNat
    ·have q2z:((HI:Int)<(x1.toNat:Int)):=by omega
     go_big_quiet (fail)
     go_wp2_with fail
     go_meet
     exact⟨congrArg Value.bool (decide_eq_true (p:=t.size<2∨x1.toNat<LO∨HI<x1.toNat) (by omega)).symm,below_drewNv fT nq⟩
    have q2z:¬ ((HI:Int)<(x1.toNat:Int)):=by omega
    have q2b:decide ((HI:Int)<(x1.toNat:Int))=false:=decide_eq_false q2z
    go_big_quiet (fail)
    go_wp2_with fail
    go_meet
    exact⟨congrArg Value.bool (decide_eq_false (p:=t.size<2∨x1.toNat<LO∨HI<x1.toNat) (by omega)).symm,below_drewNv fT nq⟩
   case rest =>
   obtain⟨rfl,oL⟩:=hcut
   by_cases hb:t.size<2∨x1.toNat<LO∨HI<x1.toNat
   ·have t6:decide (t.size<2∨x1.toNat<LO∨HI<x1.toNat)=true:=decide_eq_true hb
    have xF:=Zb.out
    rw[if_pos hb]at xF
    rw[t6]
    clear hb t6 Zb n0 n1
    go_wp2_with fail
    go_ret
    exact⟨by first | rfl | rw[xF],oL⟩
   have t6:decide (t.size<2∨x1.toNat<LO∨HI<x1.toNat)=false:=decide_eq_false hb
   have xF:=Zb.out
   rw[if_neg hb]at xF
   rw[t6]
   have tH:(2:Int)≤(t.size:Int):=by omega
   have Xv:=Rv.out
   obtain⟨t1,di⟩:∃ t1,t.extract 2 t.size=t1:=⟨_,rfl⟩
   have zt1:t.size-2=t1.size:=by rw[← di,Lib.ext_size]
   have sbt1:=SB.skipc Xv 2 (by omega)
   rw[di]at sbt1
   obtain⟨Bt1,mK⟩:∃ B,(if t.size=2 then some (⟨b,off,none⟩:Addr) else some ⟨b,off+2,none⟩)=B:=⟨_,rfl⟩
   rw[mK]at sbt1
   have HE:=Lib.hid (And.intro zt1 mK)
   have Mj:=Lib.hid (show Lib.validD t1.data.toList=ANS by rw[← di,Lib.ext_list,xF])
   have sv:=Lib.hid (show t1.size<t.size∧t1.size≤t0.size by omega)
   clear hb t6 Zb xF zt1 mK di Xv n0 n1
   go_wp2_with fail
   go_roundw
   case rel=>exact⟨Bt1,t1,by rw[HE.out.1,HE.out.2],sbt1,Mj.out,sv.out.2,oL⟩
   case measure=>have:=sv.out.1;have:=HE.out.1;simp[ii];omega
  by_cases s3:SZ=3
  ·as_aux_lemma =>
   subst s3
   have Lc:(X:Int)%8=3:=by omega
   simp only[Lib.checkN,Nat.reduceEqDiff,if_true,if_false]at xF
   have Zb:=Lib.hid xF
   clear xF
   go_upto_region 22 with fail
   generalize wr.alloc (.cells #[.int .u8 (LO:Int),.int .u8 (HI:Int)] 117)=wN at Sj fT cA⊢
   have n0:=Sj.cell 0 rfl
   have n1:=Sj.cell 1 rfl
   go_cut [138] (fun cc wx=>cc=.bool (decide (t.size<3∨x1.toNat<LO∨HI<x1.toNat∨x2.toNat<128∨191<x2.toNat))∧Below w.heap.size w wx)
   case first =>
    by_cases q0:t.size<3
    ·have q0z:(t.size:Int)<3:=by omega
     go_big_quiet (fail)
     go_wp2_with fail
     go_meet
     exact⟨congrArg Value.bool (decide_eq_true (p:=t.size<3∨x1.toNat<LO∨HI<x1.toNat∨x2.toNat<128∨191<x2.toNat) (by omega)).symm,below_drewNv fT nq⟩
    have q0z:¬ ((t.size:Int)<3):=by omega
    have q0b:decide ((t.size:Int)<3)=false:=decide_eq_false q0z
    have qL:(1:Int)<(t.size:Int):=by omega
    have cN:1<t.size:=by omega
    have d1:wN.cell? ⟨b,off+1,none⟩=some (.int .u8 (x1.toNat:Int)):=by rw[← mS];exact cA.cell (Rv.out 1 (by omega))
    have qE:(2:Int)<(t.size:Int):=by omega
    have rv:2<t.size:=by omega
    have d2:wN.cell? ⟨b,off+2,none⟩=some (.int .u8 (x2.toNat:Int)):=by rw[← fV];exact cA.cell (Rv.out 2 (by omega))
    by_cases q1:x1.toNat<LO
    ·have q1z:((x1.toNat:Int)<(LO:Int)):=by omega
     go_big_quiet (fail)
     go_wp2_with fail
     go_meet
     exact⟨congrArg Value.bool (decide_eq_true (p:=t.size<3∨x1.toNat<LO∨HI<x1.toNat∨x2.toNat<128∨191<x2.toNat) (by omega)).symm,below_drewNv fT nq⟩
    have q1z:¬ ((x1.toNat:Int)<(LO:Int)):=by omega
    have q1b:decide ((x1.toNat:Int)<(LO:Int))=false:=decide_eq_false q1z
    by_cases q2:HI<x1.toNat
    ·have q2z:((HI:Int)<(x1.toNat:Int)):=by omega
     go_big_quiet (fail)
     go_wp2_with fail
     go_meet
     exact⟨congrArg Value.bool (decide_eq_true (p:=t.size<3∨x1.toNat<LO∨HI<x1.toNat∨x2.toNat<128∨191<x2.toNat) (by omega)).symm,below_drewNv fT nq⟩
    have q2z:¬ ((HI:Int)<(x1.toNat:Int)):=by omega
    have q2b:decide ((HI:Int)<(x1.toNat:Int))=false:=decide_eq_false q2z
    by_cases q3:x2.toNat<128
    ·have q3z:((x2.toNat:Int)<128):=by omega
     go_big_quiet (fail)
     go_wp2_with fail
     go_meet
     exact⟨congrArg Value.bool (decide_eq_true (p:=t.size<3∨x1.toNat<LO∨HI<x1.toNat∨x2.toNat<128∨191<x2.toNat) (by omega)).symm,below_drewNv fT nq⟩
    have q3z:¬ ((x2.toNat:Int)<128):=by omega
    have q3b:decide ((x2.toNat:Int)<128)=false:=decide_eq_false q3z
    by_cases q4:191<x2.toNat
    ·have q4z:((191:Int)<(x2.toNat:Int)):=by omega
     go_big_quiet (fail)
     go_wp2_with fail
     go_meet
     exact⟨congrArg Value.bool (decide_eq_true (p:=t.size<3∨x1.toNat<LO∨HI<x1.toNat∨x2.toNat<128∨191<x2.toNat) (by omega)).symm,below_drewNv fT nq⟩
    have q4z:¬ ((191:Int)<(x2.toNat:Int)):=by omega
    have q4b:decide ((191:Int)<(x2.toNat:Int))=false:=decide_eq_false q4z
    go_big_quiet (fail)
    go_wp2_with fail
    go_meet
    exact⟨congrArg Value.bool (decide_eq_false (p:=t.size<3∨x1.toNat<LO∨HI<x1.toNat∨x2.toNat<128∨191<x2.toNat) (by omega)).symm,below_drewNv fT nq⟩
   case rest =>
   obtain⟨rfl,oL⟩:=hcut
   by_cases hb:t.size<3∨x1.toNat<LO∨HI<x1.toNat∨x2.toNat<128∨191<x2.toNat
   ·have t6:decide (t.size<3∨x1.toNat<LO∨HI<x1.toNat∨x2.toNat<128∨191<x2.toNat)=true:=decide_eq_true hb
    have xF:=Zb.out
    rw[if_pos hb]at xF
    rw[t6]
    clear hb t6 Zb n0 n1
    go_wp2_with fail
    go_ret
    exact⟨by first | rfl | rw[xF],oL⟩
   have t6:decide (t.size<3∨x1.toNat<LO∨HI<x1.toNat∨x2.toNat<128∨191<x2.toNat)=false:=decide_eq_false hb
   have xF:=Zb.out
   rw[if_neg hb]at xF
   rw[t6]
   have tH:(3:Int)≤(t.size:Int):=by omega
   have Xv:=Rv.out
   obtain⟨t1,di⟩:∃ t1,t.extract 3 t.size=t1:=⟨_,rfl⟩
   have zt1:t.size-3=t1.size:=by rw[← di,Lib.ext_size]
   have sbt1:=SB.skipc Xv 3 (by omega)
   rw[di]at sbt1
   obtain⟨Bt1,mK⟩:∃ B,(if t.size=3 then some (⟨b,off,none⟩:Addr) else some ⟨b,off+3,none⟩)=B:=⟨_,rfl⟩
   rw[mK]at sbt1
   have HE:=Lib.hid (And.intro zt1 mK)
   have Mj:=Lib.hid (show Lib.validD t1.data.toList=ANS by rw[← di,Lib.ext_list,xF])
   have sv:=Lib.hid (show t1.size<t.size∧t1.size≤t0.size by omega)
   clear hb t6 Zb xF zt1 mK di Xv n0 n1
   go_wp2_with fail
   go_roundw
   case rel=>exact⟨Bt1,t1,by rw[HE.out.1,HE.out.2],sbt1,Mj.out,sv.out.2,oL⟩
   case measure=>have:=sv.out.1;have:=HE.out.1;simp[ii];omega
  by_cases s4:SZ=4
  ·as_aux_lemma =>
   subst s4
   have Lc:(X:Int)%8=4:=by omega
   simp only[Lib.checkN,Nat.reduceEqDiff,if_true,if_false]at xF
   have Zb:=Lib.hid xF
   clear xF
   go_upto_region 26 with fail
   generalize wr.alloc (.cells #[.int .u8 (LO:Int),.int .u8 (HI:Int)] 117)=wN at Sj fT cA⊢
   have n0:=Sj.cell 0 rfl
   have n1:=Sj.cell 1 rfl
   go_cut [185] (fun cc wx=>cc=.bool (decide (t.size<4∨x1.toNat<LO∨HI<x1.toNat∨x2.toNat<128∨191<x2.toNat∨x3.toNat<128∨191<x3.toNat))∧Below w.heap.size w wx)
   case first =>
    by_cases q0:t.size<4
    ·have q0z:(t.size:Int)<4:=by omega
     go_big_quiet (fail)
     go_wp2_with fail
     go_meet
     exact⟨congrArg Value.bool (decide_eq_true (p:=t.size<4∨x1.toNat<LO∨HI<x1.toNat∨x2.toNat<128∨191<x2.toNat∨x3.toNat<128∨191<x3.toNat) (by omega)).symm,below_drewNv fT nq⟩
    have q0z:¬ ((t.size:Int)<4):=by omega
    have q0b:decide ((t.size:Int)<4)=false:=decide_eq_false q0z
    have qL:(1:Int)<(t.size:Int):=by omega
    have cN:1<t.size:=by omega
    have d1:wN.cell? ⟨b,off+1,none⟩=some (.int .u8 (x1.toNat:Int)):=by rw[← mS];exact cA.cell (Rv.out 1 (by omega))
    have qE:(2:Int)<(t.size:Int):=by omega
    have rv:2<t.size:=by omega
    have d2:wN.cell? ⟨b,off+2,none⟩=some (.int .u8 (x2.toNat:Int)):=by rw[← fV];exact cA.cell (Rv.out 2 (by omega))
    have Sw:(3:Int)<(t.size:Int):=by omega
    have Q7:3<t.size:=by omega
    have d3:wN.cell? ⟨b,off+3,none⟩=some (.int .u8 (x3.toNat:Int)):=by rw[← NT];exact cA.cell (Rv.out 3 (by omega))
    by_cases q1:x1.toNat<LO
    ·have q1z:((x1.toNat:Int)<(LO:Int)):=by omega
     go_big_quiet (fail)
     go_wp2_with fail
     go_meet
     exact⟨congrArg Value.bool (decide_eq_true (p:=t.size<4∨x1.toNat<LO∨HI<x1.toNat∨x2.toNat<128∨191<x2.toNat∨x3.toNat<128∨191<x3.toNat) (by omega)).symm,below_drewNv fT nq⟩
    have q1z:¬ ((x1.toNat:Int)<(LO:Int)):=by omega
    have q1b:decide ((x1.toNat:Int)<(LO:Int))=false:=decide_eq_false q1z
    by_cases q2:HI<x1.toNat
    ·have q2z:((HI:Int)<(x1.toNat:Int)):=by omega
     go_big_quiet (fail)
     go_wp2_with fail
     go_meet
     exact⟨congrArg Value.bool (decide_eq_true (p:=t.size<4∨x1.toNat<LO∨HI<x1.toNat∨x2.toNat<128∨191<x2.toNat∨x3.toNat<128∨191<x3.toNat) (by omega)).symm,below_drewNv fT nq⟩
    have q2z:¬ ((HI:Int)<(x1.toNat:Int)):=by omega
    have q2b:decide ((HI:Int)<(x1.toNat:Int))=false:=decide_eq_false q2z
    by_cases q3:x2.toNat<128
    ·have q3z:((x2.toNat:Int)<128):=by omega
     go_big_quiet (fail)
     go_wp2_with fail
     go_meet
     exact⟨congrArg Value.bool (decide_eq_true (p:=t.size<4∨x1.toNat<LO∨HI<x1.toNat∨x2.toNat<128∨191<x2.toNat∨x3.toNat<128∨191<x3.toNat) (by omega)).symm,below_drewNv fT nq⟩
    have q3z:¬ ((x2.toNat:Int)<128):=by omega
    have q3b:decide ((x2.toNat:Int)<128)=false:=decide_eq_false q3z
    by_cases q4:191<x2.toNat
    ·have q4z:((191:Int)<(x2.toNat:Int)):=by omega
     go_big_quiet (fail)
     go_wp2_with fail
     go_meet
     exact⟨congrArg Value.bool (decide_eq_true (p:=t.size<4∨x1.toNat<LO∨HI<x1.toNat∨x2.toNat<128∨191<x2.toNat∨x3.toNat<128∨191<x3.toNat) (by omega)).symm,below_drewNv fT nq⟩
    have q4z:¬ ((191:Int)<(x2.toNat:Int)):=by omega
    have q4b:decide ((191:Int)<(x2.toNat:Int))=false:=decide_eq_false q4z
    by_cases q5:x3.toNat<128
    ·have q5z:((x3.toNat:Int)<128):=by omega
     go_big_quiet (fail)
     go_wp2_with fail
     go_meet
     exact⟨congrArg Value.bool (decide_eq_true (p:=t.size<4∨x1.toNat<LO∨HI<x1.toNat∨x2.toNat<128∨191<x2.toNat∨x3.toNat<128∨191<x3.toNat) (by omega)).symm,below_drewNv fT nq⟩
    have q5z:¬ ((x3.toNat:Int)<128):=by omega
    have q5b:decide ((x3.toNat:Int)<128)=false:=decide_eq_false q5z
    by_cases q6:191<x3.toNat
    ·have q6z:((191:Int)<(x3.toNat:Int)):=by omega
     go_big_quiet (fail)
     go_wp2_with fail
     go_meet
     exact⟨congrArg Value.bool (decide_eq_true (p:=t.size<4∨x1.toNat<LO∨HI<x1.toNat∨x2.toNat<128∨191<x2.toNat∨x3.toNat<128∨191<x3.toNat) (by omega)).symm,below_drewNv fT nq⟩
    have q6z:¬ ((191:Int)<(x3.toNat:Int)):=by omega
    have q6b:decide ((191:Int)<(x3.toNat:Int))=false:=decide_eq_false q6z
    go_big_quiet (fail)
    go_wp2_with fail
    go_meet
    exact⟨congrArg Value.bool (decide_eq_false (p:=t.size<4∨x1.toNat<LO∨HI<x1.toNat∨x2.toNat<128∨191<x2.toNat∨x3.toNat<128∨191<x3.toNat) (by omega)).symm,below_drewNv fT nq⟩
   case rest =>
   obtain⟨rfl,oL⟩:=hcut
   by_cases hb:t.size<4∨x1.toNat<LO∨HI<x1.toNat∨x2.toNat<128∨191<x2.toNat∨x3.toNat<128∨191<x3.toNat
   ·have t6:decide (t.size<4∨x1.toNat<LO∨HI<x1.toNat∨x2.toNat<128∨191<x2.toNat∨x3.toNat<128∨191<x3.toNat)=true:=decide_eq_true hb
    have xF:=Zb.out
    rw[if_pos hb]at xF
    rw[t6]
    clear hb t6 Zb n0 n1
    go_wp2_with fail
    go_ret
    exact⟨by first | rfl | rw[xF],oL⟩
   have t6:decide (t.size<4∨x1.toNat<LO∨HI<x1.toNat∨x2.toNat<128∨191<x2.toNat∨x3.toNat<128∨191<x3.toNat)=false:=decide_eq_false hb
   have xF:=Zb.out
   rw[if_neg hb]at xF
   rw[t6]
   have tH:(4:Int)≤(t.size:Int):=by omega
   have Xv:=Rv.out
   obtain⟨t1,di⟩:∃ t1,t.extract 4 t.size=t1:=⟨_,rfl⟩
   have zt1:t.size-4=t1.size:=by rw[← di,Lib.ext_size]
   have sbt1:=SB.skipc Xv 4 (by omega)
   rw[di]at sbt1
   obtain⟨Bt1,mK⟩:∃ B,(if t.size=4 then some (⟨b,off,none⟩:Addr) else some ⟨b,off+4,none⟩)=B:=⟨_,rfl⟩
   rw[mK]at sbt1
   have HE:=Lib.hid (And.intro zt1 mK)
   have Mj:=Lib.hid (show Lib.validD t1.data.toList=ANS by rw[← di,Lib.ext_list,xF])
   have sv:=Lib.hid (show t1.size<t.size∧t1.size≤t0.size by omega)
   clear hb t6 Zb xF zt1 mK di Xv n0 n1
   go_wp2_with fail
   go_roundw
   case rel=>exact⟨Bt1,t1,by rw[HE.out.1,HE.out.2],sbt1,Mj.out,sv.out.2,oL⟩
   case measure=>have:=sv.out.1;have:=HE.out.1;simp[ii];omega
  have e2b:(((X:Int)%8)==2)=false:=by simp;omega
  have e3b:(((X:Int)%8)==3)=false:=by simp;omega
  have e4b:(((X:Int)%8)==4)=false:=by simp;omega
  have e2:¬ ((X:Int)%8=2):=by omega
  have e3:¬ ((X:Int)%8=3):=by omega
  have e4:¬ ((X:Int)%8=4):=by omega
  simp only[Lib.checkN,s2,s3,s4,if_false]at xF
  have Zb:=Lib.hid xF
  clear xF
  go_wp2_with fail
  go_ret
  exact⟨by first | rfl | (rw[Zb.out];rfl),fT⟩
 have D8:¬ ((0:Int)<(t.size:Int)):=by omega
 have E7:t.data.toList=[]:=List.eq_nil_of_length_eq_zero (by rw[← Lib.size_eq];omega)
 have hv:=HV.out
 rw[E7,Lib.validD_nil]at hv
 subst hv
 go_wp2_with fail
 go_ret
 exact⟨rfl,qM⟩
theorem mG {H:Snap}(hT:Tabs H) (w:World) (hH:Holds w H) (A:Option Addr) (l:List UInt8) (n c:Nat) (hn:n=l.length) (hb:IsBytes H A c l) :
  Calls Tryz.prog 102 #[.slice A n c] w fun e w'=>e=.returned (.bool (Lib.validD l))∧Below w.heap.size w w':=by
 subst hn
 have hl:(⟨l.toArray⟩:ByteArray).size=l.length:=by show l.toArray.size=l.length;simp
 have h:=aX hT w hH A ⟨l.toArray⟩ c (SB.of hb) (by rw[hl];exact hb.le) (by rw[hl];have:=hb.le;have:=hb.max;omega)
 rw[hl,Qr]at h
 exact h
set_option maxRecDepth 100000 in
set_option maxHeartbeats 3200000 in
theorem nM (n:Nat) (hn:n<18446744073709551616) (w:World) :
  Calls Tryz.prog 62 #[.int .u64 (n:Int)] w fun e w'=>∃ r,e=.returned r∧Fresh w (xt n) r w':=by
 have I:=Lib.hid (pJ n hn w)
 have N1:=Lib.hid (cr n hn w)
 have N2:=Lib.hid (ct n hn w)
 have HN:=Lib.hid hn
 clear hn
 cases hN:isNaN n with
 | true =>
  rw[hN]at I
  have E:Hid (xt n=[u8 249,u8 126,u8 0]):=by rw[Hid,xt,if_pos hN]
  clear hN
  go_enter Tryz.func62,Tryz.ntmps62
  go_wp2_with fail
  refine I.out.mono ?_
  rintro e w' ⟨rfl,rfl⟩
  go_wp2_with fail
  go_ret
  refine⟨_,rfl, ?_⟩
  rw[E.out]
  exact Fresh.lit w _ _ 3 rfl (by simp) rfl
 | false =>
 rw[hN]at I
 cases h1:xL n 5 10 with
 | some v =>
  have E:Hid (xt n=[u8 249,u8 (v/256),u8 v]):=by rw[Hid,xt,if_neg (by simp[hN]),h1]
  rw[h1]at N1
  clear hN h1
  go_enter Tryz.func62,Tryz.ntmps62
  go_wp2_with fail
  refine I.out.mono ?_
  rintro e w' ⟨rfl,rfl⟩
  go_wp2_with fail
  refine N1.out.mono ?_
  rintro e w' ⟨⟨v',rfl,hv⟩,rfl⟩
  obtain rfl:=hv v rfl
  clear hv
  go_wp2_with fail
  go_ret
  refine⟨_,rfl, ?_⟩
  rw[E.out]
  refine Fresh.lit w _ _ 3 rfl (by simp) ?_
  simp only[List.map_cons,List.map_nil,vk]
  simp
 | none =>
 rw[h1]at N1
 cases h2:xL n 8 23 with
 | some v =>
  have E:Hid (xt n=[u8 250,u8 (v/16777216),u8 (v/65536),u8 (v/256),u8 v]):=by rw[Hid,xt,if_neg (by simp[hN]),h1,h2]
  rw[h2]at N2
  clear hN h1 h2
  go_enter Tryz.func62,Tryz.ntmps62
  go_wp2_with fail
  refine I.out.mono ?_
  rintro e w' ⟨rfl,rfl⟩
  go_wp2_with fail
  refine N1.out.mono ?_
  rintro e w' ⟨⟨v',rfl,_⟩,rfl⟩
  go_wp2_with fail
  refine N2.out.mono ?_
  rintro e w' ⟨⟨v'',rfl,hv⟩,rfl⟩
  obtain rfl:=hv v rfl
  clear hv
  go_wp2_with fail
  go_ret
  refine⟨_,rfl, ?_⟩
  rw[E.out]
  refine Fresh.lit w _ _ 5 rfl (by simp) ?_
  simp only[List.map_cons,List.map_nil,vk]
  simp
 | none =>
 have E:Hid (xt n=u8 251::tX n 8 8):=by
  rw[Hid,xt,if_neg (by simp[hN]),h1,h2]
  simp[tX,be8,List.range_succ]
 rw[h2]at N2
 clear hN h1 h2
 have hO:OwnB (w.alloc (.cells #[.int .u8 251] 5)) w.heap.size (.slice (some ⟨w.heap.size,0,none⟩) 1 1) [u8 251]:=OwnB.lit w _ _ _ 1 rfl rfl (Nat.le_refl _) (by simp)
 have yz:=zl w (.cells #[.int .u8 251] 5)
 go_enter Tryz.func62,Tryz.ntmps62
 go_wp2_with fail
 refine I.out.mono ?_
 rintro e w' ⟨rfl,rfl⟩
 go_wp2_with fail
 refine N1.out.mono ?_
 rintro e w' ⟨⟨v',rfl,_⟩,rfl⟩
 go_wp2_with fail
 refine N2.out.mono ?_
 rintro e w' ⟨⟨v'',rfl,_⟩,rfl⟩
 go_wp2_with fail
 go_loopw [7,8] (fun v7 v8 wr=>∃ (j:Nat) (VA:Option Addr) (vc:Nat),j≤8∧v8=.int .i64 (7-(j:Int))∧v7=.slice VA (1+j) vc∧OwnB wr w.heap.size (.slice VA (1+j) vc) (u8 251::tX n 8 j)∧Below w.heap.size w wr) (fun _ v8 _=>(intOf v8+1).toNat)
 case atStart=>exact⟨0,_,_,by omega,by go_num,rfl,hO,yz⟩
 case round =>
 obtain⟨j,VA,vc,hj,rfl,rfl,vf,yE⟩:=hrel
 by_cases yy:j<8
 ·have iJ:(0:Int)≤7-(j:Int):=by omega
  have uH:(#[.int .u8 ((n:Int)/2 ^ (8*(7-j))%256)]:Array Value).toList=[mV n 8 j].map zg:=by
   simp only[List.map_cons,List.map_nil,mV,vk]
   rw[show 8-1-j=7-j by omega]
   simp
  have vg:=yE.alloc yE.size (.cells #[.int .u8 ((n:Int)/2 ^ (8*(7-j))%256)] 5)
  have qC:=vf.alloc (.cells #[.int .u8 ((n:Int)/2 ^ (8*(7-j))%256)] 5)
  have HC:=Lib.hid uH
  clear uH
  go_wp2_with (at_builtin;refine zf ?_)
  unfold zU
  refine zv rfl (.tmp 47) (.tmp 54) rfl w.heap.size _ _ rfl qC _ 1 _ [mV n 8 j] rfl rfl (Src.new _ _ _ _ rfl _ HC.out) (by simp[nR];omega) vg.size fun v' w7 wY hg7 hat7=>?_
  have Qg:(u8 251::tX n 8 j)++[mV n 8 j]=u8 251::tX n 8 (j+1):=by rw[gN];rfl
  obtain⟨VA',vc',rfl,_⟩:=wY.form
  have ir:((u8 251::tX n 8 j)++[mV n 8 j]).length=1+(j+1):=by simp[nR];omega
  rw[ir]at wY
  rw[ir]
  rw[Qg]at wY
  have xU:=vg.grown hg7 vg.size (fun q hq=>(qC.lt q hq).1)
  clear Qg ir hg7 hat7 qC vf vg yE
  go_wp2_with fail
  go_roundw
  case rel=>exact⟨j+1,VA',vc',by omega,by rw[show((j+1:Nat):Int)=(j:Int)+1 by omega,show(7:Int)-((j:Int)+1)=7-j-1 by omega],rfl,wY,xU⟩
  case measure=>simp[intOf];omega
 have J5:j=8:=by omega
 subst J5
 go_wp2_with fail
 go_ret
 rw[E.out]
 exact⟨_,rfl,vf,yE⟩
end Go.Proofs.YtjpcnhncoidliaaGreatDoor
