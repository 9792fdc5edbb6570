/- squeezed. Walks: the library's Valid of a sl -/
import Derived.Test.YtliomcphdnppnaaGreatDoorK04
import Derived.BigQuiet
set_option linter.unusedVariables false
set_option linter.unusedSimpArgs false
open List (getElem_toArray getElem_cons_zero getElem_cons_succ setIfInBounds_toArray set_cons_zero set_cons_succ)
namespace Go.Proofs.YtliomcphdnppnaaGreatDoor
open Go.RowKit
def mJ:Value→Nat
 | .slice _ n _=>n
 | _=>0
theorem SB.skipc {H:Snap}{b off:Nat}{t:ByteArray}(h:∀ j,j<t.size→H.cell? ⟨b,off+j,none⟩=some (.int .u8 ((t.get! j).toNat:Int))) (k:Nat) (hk:k≤t.size) :
  SB H (if t.size=k then some (⟨b,off,none⟩:Addr) else some ⟨b,off+k,none⟩) (t.extract k t.size):=fun h0=>by
 rw[Lib.ext_size]at h0
 rw[if_neg (by omega)]
 refine⟨b,off+k,rfl,fun j hj=>?_⟩
 rw[Lib.ext_size]at hj
 rw[Nat.add_assoc,h (k+j) (by omega),← Lib.getD_get!',← Lib.getD_get!',Lib.ext_list]
 simp[List.getD,List.getElem?_drop]
theorem SB.nil (H:Snap) (A:Option Addr) (t:ByteArray) (h:t.size=0):SB H A t:=fun h0=>by omega
set_option maxHeartbeats 16000000 in
set_option maxRecDepth 1000000 in
theorem eY {H:Snap}(hT:Tabs H) (w:World) (hH:Holds w H) (A:Option Addr) (t0:ByteArray) (c:Nat) (hs:SB H A t0) (hc:t0.size≤c) (hm:t0.size≤9223372036854775807) :
  Calls Tryz.prog 140 #[.slice A t0.size c] w fun e w'=>e=.returned (.bool (Lib.validD t0.data.toList))∧Below w.heap.size w w':=by
 obtain⟨ANS,R4⟩:∃ ANS,Lib.validD t0.data.toList=ANS:=⟨_,rfl⟩
 rw[R4]
 have Iz:=Lib.hid R4
 clear R4
 have fq:(t0.size:Int)≤c:=by omega
 go_enter Tryz.func140,Tryz.ntmps140
 go_wp2
 go_loopw [0] (fun v0 wx=>∃ (B:Option Addr) (t:ByteArray),v0=.slice B t.size t.size∧SB H B t∧Lib.validD t.data.toList=ANS∧t.size≤t0.size∧Below w.heap.size w wx) (fun v0 _=>mJ v0)
 case atStart=>exact⟨A,t0,rfl,hs,Iz.out,Nat.le_refl _,Below.refl _ _⟩
 case round =>
 obtain⟨B,t,rfl,aS,hv,Dd,nb⟩:=hrel
 have HV:=Lib.hid hv
 clear hv
 by_cases h0:0<t.size
 ·obtain⟨b,off,rfl,im⟩:=aS h0
  have F1:(0:Int)<(t.size:Int):=by omega
  have yD:=hH.below nb (Nat.le_refl _)
  have c0:=yD.cell (im 0 h0)
  have l0:=(t.get! 0).toNat_lt
  obtain⟨x0,dY⟩:∃ x0,t.get! 0=x0:=⟨_,rfl⟩
  rw[dY]at c0 l0
  simp only[Nat.add_zero]at c0
  have dO:=Lib.hid im
  by_cases qC:x0.toNat<128
  ·as_aux_lemma =>
   have Mx:(x0.toNat:Int)<128:=by omega
   have DH:(1:Int)≤(t.size:Int):=by omega
   have a1:Lib.Asc t 1:=Lib.asc_one t h0 (by rw[dY];exact qC)
   obtain⟨t1,iu⟩:∃ t1,t.extract 1 t.size=t1:=⟨_,rfl⟩
   have zt1:t.size-1=t1.size:=by rw[← iu,Lib.ext_size]
   have sbt1:=SB.skipc im 1 (by omega)
   rw[iu]at sbt1
   obtain⟨Bt1,oY⟩:∃ B,(if t.size=1 then some (⟨b,off,none⟩:Addr) else some ⟨b,off+1,none⟩)=B:=⟨_,rfl⟩
   rw[oY]at sbt1
   have V1:Hid (Lib.validD t1.data.toList=ANS):=by rw[Hid,← iu,Lib.valid_skip t 1 a1];exact HV.out
   have SJ:=Lib.hid (And.intro zt1 oY)
   clear im zt1 a1 dY iu aS oY
   go_upto_region 6 with fail
   rw[SJ.out.2,SJ.out.1]
   by_cases c8:8<t1.size
   ·have c8z:(8:Int)<(t1.size:Int):=by omega
    have c8y:(8:Int)≤(t1.size:Int):=by omega
    obtain⟨A1,M3⟩:∃ A1,Lib.leNat [t1.get! 0,t1.get! 1,t1.get! 2,t1.get! 3,t1.get! 4,t1.get! 5,t1.get! 6,t1.get! 7]=A1:=⟨_,rfl⟩
    have lA1:A1<18446744073709551616:=M3 ▸ Lib.word_lt t1
    have cW1:∀ (c:Nat) (W:World),Holds W H→Calls Tryz.prog 187 #[.slice Bt1 t1.size c] W fun e w'=>e=.returned (.int .u64 (A1:Int))∧∃ q,w'=W.drewN q:=fun c W h=>by rw[← M3];exact tq sbt1 (by omega) c W h
    have CW1:=Lib.hid cW1
    have kA1:=Lib.word_asc t1 (by omega)
    rw[M3]at kA1
    clear cW1 M3
    have Xz:bits .and .u64 (A1:Int) 9259542123273814144=((A1 &&& 9259542123273814144:Nat):Int):=u64_and_nat A1 9259542123273814144 lA1 (by omega)
    obtain⟨Z1,I2⟩:∃ Z1,A1 &&& 9259542123273814144=Z1:=⟨_,rfl⟩
    rw[I2]at Xz kA1
    have KA1:=Lib.hid kA1
    have Nd:=Lib.hid sbt1
    clear I2 kA1 lA1 sbt1 c0 l0
    by_cases rM:Z1=0
    ·have OW:((Z1:Int)==0)=true:=by simp[rM]
     have Gs:=Lib.hid rM
     clear rM
     go_wp2_with (go_at_call 187;refine zO ?_)
     unfold yy
     refine(CW1.out _ _ yD).mono ?_
     rintro e w5 ⟨rfl,q5,rfl⟩
     have xw:=Holds.drewN yD q5
     have p8:=below_drewNv nb q5
     obtain⟨b1,off1,rfl,O6⟩:=Nd.out (by omega)
     obtain⟨t2,Th⟩:∃ t2,t1.extract 8 t1.size=t2:=⟨_,rfl⟩
     have zt2:t1.size-8=t2.size:=by rw[← Th,Lib.ext_size]
     have sbt2:=SB.skipc O6 8 (by omega)
     rw[Th,if_neg (by omega)]at sbt2
     obtain⟨Bt2,R6⟩:∃ B,some (⟨b1,off1+8,none⟩:Addr)=B:=⟨_,rfl⟩
     rw[R6]at sbt2
     have V2:Hid (Lib.validD t2.data.toList=ANS):=by rw[Hid,← Th,Lib.valid_skip t1 8 (KA1.out.1 Gs.out)];exact V1.out
     have Ou:=Lib.hid (And.intro zt2 R6)
     generalize wr.drewN q5=wq at xw p8⊢
     clear zt2 Th O6 R6 nb yD CW1 KA1 Gs
     go_upto_region 8 with fail
     rw[Ou.out.2,Ou.out.1]
     by_cases c16:16<t2.size
     ·have c16z:(16:Int)<(t2.size:Int):=by omega
      have c16y:(16:Int)≤(t2.size:Int):=by omega
      have s8z:(8:Int)≤(t2.size:Int):=by omega
      have n8:(t2.size=8)=False:=eq_false (by omega)
      obtain⟨b2,off2,rfl,a8⟩:=sbt2 (by omega)
      have JL:SB H (some ⟨b2,off2,none⟩) t2:=sbt2
      obtain⟨t2b,VM⟩:∃ t2b,t2.extract 8 t2.size=t2b:=⟨_,rfl⟩
      have zt2b:t2.size-8=t2b.size:=by rw[← VM,Lib.ext_size]
      have sbt2b:=SB.skipc a8 8 (by omega)
      rw[VM,if_neg (by omega)]at sbt2b
      obtain⟨o2b,VF⟩:∃ o,off2+8=o:=⟨_,rfl⟩
      rw[VF]at sbt2b
      obtain⟨A2,M4⟩:∃ A2,Lib.leNat [t2.get! 0,t2.get! 1,t2.get! 2,t2.get! 3,t2.get! 4,t2.get! 5,t2.get! 6,t2.get! 7]=A2:=⟨_,rfl⟩
      have lA2:A2<18446744073709551616:=M4 ▸ Lib.word_lt t2
      have cW2:∀ (c:Nat) (W:World),Holds W H→Calls Tryz.prog 187 #[.slice (some ⟨b2,off2,none⟩) t2.size c] W fun e w'=>e=.returned (.int .u64 (A2:Int))∧∃ q,w'=W.drewN q:=fun c W h=>by rw[← M4];exact tq JL (by omega) c W h
      have CW2:=Lib.hid cW2
      have kA2:=Lib.word_asc t2 (by omega)
      rw[M4]at kA2
      clear cW2 M4
      obtain⟨A3,M5⟩:∃ A3,Lib.leNat [t2b.get! 0,t2b.get! 1,t2b.get! 2,t2b.get! 3,t2b.get! 4,t2b.get! 5,t2b.get! 6,t2b.get! 7]=A3:=⟨_,rfl⟩
      have lA3:A3<18446744073709551616:=M5 ▸ Lib.word_lt t2b
      have cW3:∀ (c:Nat) (W:World),Holds W H→Calls Tryz.prog 187 #[.slice (some ⟨b2,off2+8,none⟩) (t2.size-8) c] W fun e w'=>e=.returned (.int .u64 (A3:Int))∧∃ q,w'=W.drewN q:=fun c W h=>by rw[← M5,zt2b,VF];exact tq sbt2b (by omega) c W h
      have CW3:=Lib.hid cW3
      have kA3:=Lib.word_asc t2b (by omega)
      rw[M5]at kA3
      clear cW3 M5
      have OR:bits .or .u64 (A2:Int) (A3:Int)=((A2 ||| A3:Nat):Int):=u64_or_nat A2 A3 lA2 lA3
      have lor2:A2 ||| A3<18446744073709551616:=Nat.or_lt_two_pow (n:=64) lA2 lA3
      have Y0:bits .and .u64 ((A2 ||| A3:Nat):Int) 9259542123273814144=(((A2 ||| A3) &&& 9259542123273814144:Nat):Int):=u64_and_nat _ 9259542123273814144 lor2 (by omega)
      have k2:(A2 ||| A3) &&& 9259542123273814144=0→Lib.Asc t2 16:=fun Q4=>by
       obtain⟨e1,e2⟩:=(Lib.or_mask A2 A3 _).1 Q4
       exact Lib.asc_add t2 8 8 (kA2.1 e1) (by rw[VM];exact kA3.1 e2)
      obtain⟨O2,pG⟩:∃ O2,A2 ||| A3=O2:=⟨_,rfl⟩
      rw[pG]at OR Y0 k2
      obtain⟨Z2,I3⟩:∃ Z2,O2 &&& 9259542123273814144=Z2:=⟨_,rfl⟩
      rw[I3]at Y0 k2
      have K2:=Lib.hid k2
      have NU:=Lib.hid a8
      clear kA2 kA3 lor2 pG I3 k2 lA2 lA3 VM sbt2b a8 sbt2
      obtain⟨zz2,OX⟩:∃ zz,((Z2:Int)==0)=zz:=⟨_,rfl⟩
      have Q3:=Lib.hid OX
      go_cut [0,46] (fun s0 s46 wx=>s0=.slice (some ⟨b2,off2,none⟩) t2.size t2.size∧s46=.bool zz2∧Below w.heap.size w wx)
      case first =>
       clear zt2b VF OW Xz
       have aK:=xw
       have qY:=p8
       refine zw 13 (fun _=>True) (by kernel_rfl) (trivial) (fun zy=>?_)
       refine Ways.takeS (i:=0) (v:=?_) rfl (by kernel_rfl) (fun _ _ _ h=>h) (Or.inl ⟨by rfl, ?_⟩) zy ?_
       rotate_left
       ·(intro w us;(try dsimp only at us);go_simp;try with_reducible rfl)
       try simp only[Act.put,getElem_toArray,getElem_cons_zero,getElem_cons_succ,setIfInBounds_toArray,set_cons_zero,set_cons_succ]
       refine Ways.takeS (i:=1) (v:=?_) rfl (by kernel_rfl) (fun _ _ _ h=>h) (Or.inl ⟨by rfl, ?_⟩) zy ?_
       rotate_left
       ·(intro w us;(try dsimp only at us);go_simp;try with_reducible rfl)
       try simp only[Act.put,getElem_toArray,getElem_cons_zero,getElem_cons_succ,setIfInBounds_toArray,set_cons_zero,set_cons_succ]
       refine Ways.takeS (i:=2) (v:=?_) rfl (by kernel_rfl) (fun _ _ _ h=>h) (Or.inl ⟨by rfl, ?_⟩) zy ?_
       rotate_left
       ·(intro w us;(try dsimp only at us);go_simp;try with_reducible rfl)
       try simp only[Act.put,getElem_toArray,getElem_cons_zero,getElem_cons_succ,setIfInBounds_toArray,set_cons_zero,set_cons_succ]
       refine Ways.takeS (i:=3) (v:=?_) rfl (by kernel_rfl) (fun _ _ _ h=>h) (Or.inl ⟨by rfl, ?_⟩) zy ?_
       rotate_left
       ·(intro w us;(try dsimp only at us);go_simp;try with_reducible rfl)
       try simp only[Act.put,getElem_toArray,getElem_cons_zero,getElem_cons_succ,setIfInBounds_toArray,set_cons_zero,set_cons_succ]
       refine Ways.takeS (i:=4) (v:=?_) rfl (by kernel_rfl) (fun _ _ _ h=>h) (Or.inl ⟨?_, ?_⟩) zy ?_
       rotate_left
       ·kernel_rfl
       ·(intro w us;(try dsimp only at us);go_simp;try with_reducible rfl)
       try simp only[Act.put,getElem_toArray,getElem_cons_zero,getElem_cons_succ,setIfInBounds_toArray,set_cons_zero,set_cons_succ]
       refine Ways.takeS (i:=6) (v:=?_) rfl (by kernel_rfl) (fun _ _ _ h=>h) (Or.inl ⟨?_, ?_⟩) zy ?_
       rotate_left
       ·kernel_rfl
       ·(intro w us;(try dsimp only at us);go_simp;try with_reducible rfl)
       try simp only[Act.put,getElem_toArray,getElem_cons_zero,getElem_cons_succ,setIfInBounds_toArray,set_cons_zero,set_cons_succ]
       refine Ways.takeS (i:=7) (v:=?_) rfl (by kernel_rfl) (fun _ _ _ h=>h) (Or.inl ⟨?_, ?_⟩) zy ?_
       rotate_left
       ·kernel_rfl
       ·(intro w us;(try dsimp only at us);go_simp;try with_reducible rfl)
       try simp only[Act.put,getElem_toArray,getElem_cons_zero,getElem_cons_succ,setIfInBounds_toArray,set_cons_zero,set_cons_succ]
       refine Ways.one (i:=5) rfl (by kernel_rfl) (fun K hK=>?_)
       go_simp
       refine(CW2.out _ _ (by repeat (first | exact aK | exact aK.drew | refine Holds.drewN ?_ _))).mono ?_
       rintro e w5 ⟨rfl,q5,rfl⟩
       refine hK.out _ _ (fun _=>?_) (fun zy=>?_)
       ·exact trivial
       clear hK K
       have zy:=zy (by decide)
       try simp only[Act.put,getElem_toArray,getElem_cons_zero,getElem_cons_succ,setIfInBounds_toArray,set_cons_zero,set_cons_succ]
       refine Ways.one (i:=8) rfl (by kernel_rfl) (fun K hK=>?_)
       go_simp
       refine(CW3.out _ _ (by repeat (first | exact aK | exact aK.drew | refine Holds.drewN ?_ _))).mono ?_
       rintro e w5 ⟨rfl,q5,rfl⟩
       refine hK.out _ _ (fun _=>?_) (fun zy=>?_)
       ·exact trivial
       clear hK K
       have zy:=zy (by decide)
       try simp only[Act.put,getElem_toArray,getElem_cons_zero,getElem_cons_succ,setIfInBounds_toArray,set_cons_zero,set_cons_succ]
       refine Ways.takeS (i:=9) (v:=?_) rfl (by kernel_rfl) (fun _ _ _ h=>h) (Or.inl ⟨?_, ?_⟩) zy ?_
       rotate_left
       ·kernel_rfl
       ·(intro w us;(try dsimp only at us);go_simp;try with_reducible rfl)
       try simp only[Act.put,getElem_toArray,getElem_cons_zero,getElem_cons_succ,setIfInBounds_toArray,set_cons_zero,set_cons_succ]
       refine Ways.takeS (i:=10) (v:=?_) rfl (by kernel_rfl) (fun _ _ _ h=>h) (Or.inl ⟨?_, ?_⟩) zy ?_
       rotate_left
       ·kernel_rfl
       ·(intro w us;(try dsimp only at us);go_simp;try with_reducible rfl)
       try simp only[Act.put,getElem_toArray,getElem_cons_zero,getElem_cons_succ,setIfInBounds_toArray,set_cons_zero,set_cons_succ]
       refine Ways.takeS (i:=11) (v:=?_) rfl (by kernel_rfl) (fun _ _ _ h=>h) (Or.inl ⟨?_, ?_⟩) zy ?_
       rotate_left
       ·kernel_rfl
       ·(intro w us;(try dsimp only at us);go_simp;try with_reducible rfl)
       try simp only[Act.put,getElem_toArray,getElem_cons_zero,getElem_cons_succ,setIfInBounds_toArray,set_cons_zero,set_cons_succ]
       refine Ways.takeS (i:=12) (v:=?_) rfl (by kernel_rfl) (fun _ _ _ h=>h) (Or.inl ⟨by rfl, ?_⟩) zy ?_
       rotate_left
       ·(intro w us;(try dsimp only at us);go_simp;try with_reducible rfl)
       try simp only[Act.put,getElem_toArray,getElem_cons_zero,getElem_cons_succ,setIfInBounds_toArray,set_cons_zero,set_cons_succ]
       refine Ways.done (by kernel_rfl) ?_
       go_wp2_with fail
       go_meet
       exact⟨rfl,rfl,by repeat (first | exact qY | exact qY.drew | refine below_drewNv ?_ _)⟩
      case rest =>
      clear p8 xw
      obtain⟨rfl,rfl,p8⟩:=hcut
      have xw:=hH.below p8 (Nat.le_refl _)
      cases zz2 with
      | true =>
       have qg:Z2=0:=by have:=Q3.out;simpa using this
       have a8:=NU.out
       obtain⟨t3,Mo⟩:∃ t3,t2.extract 16 t2.size=t3:=⟨_,rfl⟩
       have zt3:t2.size-16=t3.size:=by rw[← Mo,Lib.ext_size]
       have sbt3:=SB.skipc a8 16 (by omega)
       rw[Mo,if_neg (by omega)]at sbt3
       obtain⟨Bt3,R7⟩:∃ B,some (⟨b2,off2+16,none⟩:Addr)=B:=⟨_,rfl⟩
       rw[R7]at sbt3
       have V3:Hid (Lib.validD t3.data.toList=ANS):=by rw[Hid,← Mo,Lib.valid_skip t2 16 (K2.out qg)];exact V2.out
       have Gj:=Lib.hid (And.intro zt3 R7)
       have rI:=Lib.hid (show t3.size<t.size∧t3.size≤t0.size by have:=SJ.out.1;have:=Ou.out.1;omega)
       clear zt3 Mo R7 a8 Y0 OR OX qg CW2 CW3 Xz zt2b VF
       go_wp2_with fail
       rw[Gj.out.2,Gj.out.1]
       go_loopw [0] (fun v0 wx=>∃ (B:Option Addr) (u:ByteArray),v0=.slice B u.size u.size∧SB H B u∧Lib.validD u.data.toList=ANS∧u.size≤t3.size∧Below w.heap.size w wx) (fun v0 _=>mJ v0)
       case atStart=>exact⟨_,t3,rfl,sbt3,V3.out,Nat.le_refl _,p8⟩
       case round =>
       clear sbt3 p8 xw
       obtain⟨BU,u,rfl,sbu,Io,De,p8⟩:=hrel
       have VU:=Lib.hid Io
       clear Io
       have xw:=hH.below p8 (Nat.le_refl _)
       by_cases c32:32<u.size
       ·have c32z:(32:Int)<(u.size:Int):=by omega
        have c32y:(32:Int)≤(u.size:Int):=by omega
        have s8u:(8:Int)≤(u.size:Int):=by omega
        have s16u:(16:Int)≤(u.size:Int):=by omega
        have s24u:(24:Int)≤(u.size:Int):=by omega
        have n8u:(u.size=8)=False:=eq_false (by omega)
        have n16u:(u.size=16)=False:=eq_false (by omega)
        have n24u:(u.size=24)=False:=eq_false (by omega)
        obtain⟨bu,ou,rfl,aQ⟩:=sbu (by omega)
        obtain⟨ub,Mq⟩:∃ ub,u.extract 8 u.size=ub:=⟨_,rfl⟩
        have zub:u.size-8=ub.size:=by rw[← Mq,Lib.ext_size]
        have sbub:=SB.skipc aQ 8 (by omega)
        rw[Mq,if_neg (by omega)]at sbub
        obtain⟨oub,VG⟩:∃ o,ou+8=o:=⟨_,rfl⟩
        rw[VG]at sbub
        obtain⟨uc,Mr⟩:∃ uc,u.extract 16 u.size=uc:=⟨_,rfl⟩
        have zuc:u.size-16=uc.size:=by rw[← Mr,Lib.ext_size]
        have sbuc:=SB.skipc aQ 16 (by omega)
        rw[Mr,if_neg (by omega)]at sbuc
        obtain⟨ouc,VI⟩:∃ o,ou+16=o:=⟨_,rfl⟩
        rw[VI]at sbuc
        obtain⟨ud,Ms⟩:∃ ud,u.extract 24 u.size=ud:=⟨_,rfl⟩
        have zud:u.size-24=ud.size:=by rw[← Ms,Lib.ext_size]
        have sbud:=SB.skipc aQ 24 (by omega)
        rw[Ms,if_neg (by omega)]at sbud
        obtain⟨oud,VJ⟩:∃ o,ou+24=o:=⟨_,rfl⟩
        rw[VJ]at sbud
        obtain⟨A4,M6⟩:∃ A4,Lib.leNat [u.get! 0,u.get! 1,u.get! 2,u.get! 3,u.get! 4,u.get! 5,u.get! 6,u.get! 7]=A4:=⟨_,rfl⟩
        have lA4:A4<18446744073709551616:=M6 ▸ Lib.word_lt u
        have cW4:∀ (c:Nat) (W:World),Holds W H→Calls Tryz.prog 187 #[.slice (some ⟨bu,ou,none⟩) u.size c] W fun e w'=>e=.returned (.int .u64 (A4:Int))∧∃ q,w'=W.drewN q:=fun c W h=>by rw[← M6];exact tq (fun _=>⟨bu,ou,rfl,aQ⟩) (by omega) c W h
        have CW4:=Lib.hid cW4
        have kA4:=Lib.word_asc u (by omega)
        rw[M6]at kA4
        clear cW4 M6
        obtain⟨A5,SR⟩:∃ A5,Lib.leNat [ub.get! 0,ub.get! 1,ub.get! 2,ub.get! 3,ub.get! 4,ub.get! 5,ub.get! 6,ub.get! 7]=A5:=⟨_,rfl⟩
        have lA5:A5<18446744073709551616:=SR ▸ Lib.word_lt ub
        have cW5:∀ (c:Nat) (W:World),Holds W H→Calls Tryz.prog 187 #[.slice (some ⟨bu,ou+8,none⟩) (u.size-8) c] W fun e w'=>e=.returned (.int .u64 (A5:Int))∧∃ q,w'=W.drewN q:=fun c W h=>by rw[← SR,zub,VG];exact tq sbub (by omega) c W h
        have CW5:=Lib.hid cW5
        have kA5:=Lib.word_asc ub (by omega)
        rw[SR]at kA5
        clear cW5 SR
        obtain⟨A6,M7⟩:∃ A6,Lib.leNat [uc.get! 0,uc.get! 1,uc.get! 2,uc.get! 3,uc.get! 4,uc.get! 5,uc.get! 6,uc.get! 7]=A6:=⟨_,rfl⟩
        have lA6:A6<18446744073709551616:=M7 ▸ Lib.word_lt uc
        have cW6:∀ (c:Nat) (W:World),Holds W H→Calls Tryz.prog 187 #[.slice (some ⟨bu,ou+16,none⟩) (u.size-16) c] W fun e w'=>e=.returned (.int .u64 (A6:Int))∧∃ q,w'=W.drewN q:=fun c W h=>by rw[← M7,zuc,VI];exact tq sbuc (by omega) c W h
        have CW6:=Lib.hid cW6
        have kA6:=Lib.word_asc uc (by omega)
        rw[M7]at kA6
        clear cW6 M7
        obtain⟨A7,M8⟩:∃ A7,Lib.leNat [ud.get! 0,ud.get! 1,ud.get! 2,ud.get! 3,ud.get! 4,ud.get! 5,ud.get! 6,ud.get! 7]=A7:=⟨_,rfl⟩
        have lA7:A7<18446744073709551616:=M8 ▸ Lib.word_lt ud
        have cW7:∀ (c:Nat) (W:World),Holds W H→Calls Tryz.prog 187 #[.slice (some ⟨bu,ou+24,none⟩) (u.size-24) c] W fun e w'=>e=.returned (.int .u64 (A7:Int))∧∃ q,w'=W.drewN q:=fun c W h=>by rw[← M8,zud,VJ];exact tq sbud (by omega) c W h
        have CW7:=Lib.hid cW7
        have kA7:=Lib.word_asc ud (by omega)
        rw[M8]at kA7
        clear cW7 M8
        have Yw:bits .or .u64 (A4:Int) (A5:Int)=((A4 ||| A5:Nat):Int):=u64_or_nat A4 A5 lA4 lA5
        have dV:bits .or .u64 (A6:Int) (A7:Int)=((A6 ||| A7:Nat):Int):=u64_or_nat A6 A7 lA6 lA7
        have lo1:A4 ||| A5<18446744073709551616:=Nat.or_lt_two_pow (n:=64) lA4 lA5
        have lo2:A6 ||| A7<18446744073709551616:=Nat.or_lt_two_pow (n:=64) lA6 lA7
        have LM:bits .or .u64 ((A4 ||| A5:Nat):Int) ((A6 ||| A7:Nat):Int)=(((A4 ||| A5) ||| (A6 ||| A7):Nat):Int):=u64_or_nat _ _ lo1 lo2
        have lo3:(A4 ||| A5) ||| (A6 ||| A7)<18446744073709551616:=Nat.or_lt_two_pow (n:=64) lo1 lo2
        have bE:bits .and .u64 (((A4 ||| A5) ||| (A6 ||| A7):Nat):Int) 9259542123273814144=((((A4 ||| A5) ||| (A6 ||| A7)) &&& 9259542123273814144:Nat):Int):=u64_and_nat _ 9259542123273814144 lo3 (by omega)
        have k3:((A4 ||| A5) ||| (A6 ||| A7)) &&& 9259542123273814144=0→Lib.Asc u 32:=fun Q4=>by
         obtain⟨e01,e23⟩:=(Lib.or_mask _ _ _).1 Q4
         obtain⟨e0,e1⟩:=(Lib.or_mask _ _ _).1 e01
         obtain⟨e2,e3⟩:=(Lib.or_mask _ _ _).1 e23
         have s16:Lib.Asc u 16:=Lib.asc_add u 8 8 (kA4.1 e0) (by rw[Mq];exact kA5.1 e1)
         have s24:Lib.Asc u 24:=Lib.asc_add u 16 8 s16 (by rw[Mr];exact kA6.1 e2)
         exact Lib.asc_add u 24 8 s24 (by rw[Ms];exact kA7.1 e3)
        obtain⟨P1,Kr⟩:∃ P1,A4 ||| A5=P1:=⟨_,rfl⟩
        obtain⟨P2,Sc⟩:∃ P2,A6 ||| A7=P2:=⟨_,rfl⟩
        rw[Kr,Sc]at LM bE k3
        rw[Kr]at Yw
        rw[Sc]at dV
        obtain⟨P3,Hp⟩:∃ P3,P1 ||| P2=P3:=⟨_,rfl⟩
        rw[Hp]at LM bE k3
        obtain⟨Z3,I4⟩:∃ Z3,P3 &&& 9259542123273814144=Z3:=⟨_,rfl⟩
        rw[I4]at bE k3
        have K3:=Lib.hid k3
        have GP:=Lib.hid aQ
        clear kA4 kA5 kA6 kA7 lo1 lo2 lo3 Kr Sc Hp I4 k3 Mq sbub Mr sbuc Ms sbud lA4 lA5 lA6 lA7 aQ sbu
        obtain⟨zz3,OY⟩:∃ zz,((Z3:Int)==0)=zz:=⟨_,rfl⟩
        have Ey:=Lib.hid OY
        go_upto_region 10 with fail
        go_cut [0,69] (fun s0 s69 wx=>s0=.slice (some ⟨bu,ou,none⟩) u.size u.size∧s69=.bool zz3∧Below w.heap.size w wx)
        case first =>
         clear zub zuc zud VG VI VJ
         have aK:=xw
         have qY:=p8
         refine zw 21 (fun _=>True) (by kernel_rfl) (trivial) (fun zy=>?_)
         refine Ways.takeS (i:=0) (v:=?_) rfl (by kernel_rfl) (fun _ _ _ h=>h) (Or.inl ⟨by rfl, ?_⟩) zy ?_
         rotate_left
         ·(intro w us;(try dsimp only at us);go_simp;try with_reducible rfl)
         try simp only[Act.put,getElem_toArray,getElem_cons_zero,getElem_cons_succ,setIfInBounds_toArray,set_cons_zero,set_cons_succ]
         refine Ways.takeS (i:=1) (v:=?_) rfl (by kernel_rfl) (fun _ _ _ h=>h) (Or.inl ⟨by rfl, ?_⟩) zy ?_
         rotate_left
         ·(intro w us;(try dsimp only at us);go_simp;try with_reducible rfl)
         try simp only[Act.put,getElem_toArray,getElem_cons_zero,getElem_cons_succ,setIfInBounds_toArray,set_cons_zero,set_cons_succ]
         refine Ways.takeS (i:=2) (v:=?_) rfl (by kernel_rfl) (fun _ _ _ h=>h) (Or.inl ⟨by rfl, ?_⟩) zy ?_
         rotate_left
         ·(intro w us;(try dsimp only at us);go_simp;try with_reducible rfl)
         try simp only[Act.put,getElem_toArray,getElem_cons_zero,getElem_cons_succ,setIfInBounds_toArray,set_cons_zero,set_cons_succ]
         refine Ways.takeS (i:=3) (v:=?_) rfl (by kernel_rfl) (fun _ _ _ h=>h) (Or.inl ⟨by rfl, ?_⟩) zy ?_
         rotate_left
         ·(intro w us;(try dsimp only at us);go_simp;try with_reducible rfl)
         try simp only[Act.put,getElem_toArray,getElem_cons_zero,getElem_cons_succ,setIfInBounds_toArray,set_cons_zero,set_cons_succ]
         refine Ways.takeS (i:=4) (v:=?_) rfl (by kernel_rfl) (fun _ _ _ h=>h) (Or.inl ⟨?_, ?_⟩) zy ?_
         rotate_left
         ·kernel_rfl
         ·(intro w us;(try dsimp only at us);go_simp;try with_reducible rfl)
         try simp only[Act.put,getElem_toArray,getElem_cons_zero,getElem_cons_succ,setIfInBounds_toArray,set_cons_zero,set_cons_succ]
         refine Ways.takeS (i:=6) (v:=?_) rfl (by kernel_rfl) (fun _ _ _ h=>h) (Or.inl ⟨?_, ?_⟩) zy ?_
         rotate_left
         ·kernel_rfl
         ·(intro w us;(try dsimp only at us);go_simp;try with_reducible rfl)
         try simp only[Act.put,getElem_toArray,getElem_cons_zero,getElem_cons_succ,setIfInBounds_toArray,set_cons_zero,set_cons_succ]
         refine Ways.takeS (i:=7) (v:=?_) rfl (by kernel_rfl) (fun _ _ _ h=>h) (Or.inl ⟨?_, ?_⟩) zy ?_
         rotate_left
         ·kernel_rfl
         ·(intro w us;(try dsimp only at us);go_simp;try with_reducible rfl)
         try simp only[Act.put,getElem_toArray,getElem_cons_zero,getElem_cons_succ,setIfInBounds_toArray,set_cons_zero,set_cons_succ]
         refine Ways.takeS (i:=10) (v:=?_) rfl (by kernel_rfl) (fun _ _ _ h=>h) (Or.inl ⟨?_, ?_⟩) zy ?_
         rotate_left
         ·kernel_rfl
         ·(intro w us;(try dsimp only at us);go_simp;try with_reducible rfl)
         try simp only[Act.put,getElem_toArray,getElem_cons_zero,getElem_cons_succ,setIfInBounds_toArray,set_cons_zero,set_cons_succ]
         refine Ways.takeS (i:=11) (v:=?_) rfl (by kernel_rfl) (fun _ _ _ h=>h) (Or.inl ⟨?_, ?_⟩) zy ?_
         rotate_left
         ·kernel_rfl
         ·(intro w us;(try dsimp only at us);go_simp;try with_reducible rfl)
         try simp only[Act.put,getElem_toArray,getElem_cons_zero,getElem_cons_succ,setIfInBounds_toArray,set_cons_zero,set_cons_succ]
         refine Ways.takeS (i:=13) (v:=?_) rfl (by kernel_rfl) (fun _ _ _ h=>h) (Or.inl ⟨?_, ?_⟩) zy ?_
         rotate_left
         ·kernel_rfl
         ·(intro w us;(try dsimp only at us);go_simp;try with_reducible rfl)
         try simp only[Act.put,getElem_toArray,getElem_cons_zero,getElem_cons_succ,setIfInBounds_toArray,set_cons_zero,set_cons_succ]
         refine Ways.takeS (i:=14) (v:=?_) rfl (by kernel_rfl) (fun _ _ _ h=>h) (Or.inl ⟨?_, ?_⟩) zy ?_
         rotate_left
         ·kernel_rfl
         ·(intro w us;(try dsimp only at us);go_simp;try with_reducible rfl)
         try simp only[Act.put,getElem_toArray,getElem_cons_zero,getElem_cons_succ,setIfInBounds_toArray,set_cons_zero,set_cons_succ]
         refine Ways.one (i:=5) rfl (by kernel_rfl) (fun K hK=>?_)
         go_simp
         refine(CW4.out _ _ (by repeat (first | exact aK | exact aK.drew | refine Holds.drewN ?_ _))).mono ?_
         rintro e w5 ⟨rfl,q5,rfl⟩
         refine hK.out _ _ (fun _=>?_) (fun zy=>?_)
         ·exact trivial
         clear hK K
         have zy:=zy (by decide)
         try simp only[Act.put,getElem_toArray,getElem_cons_zero,getElem_cons_succ,setIfInBounds_toArray,set_cons_zero,set_cons_succ]
         refine Ways.one (i:=8) rfl (by kernel_rfl) (fun K hK=>?_)
         go_simp
         refine(CW5.out _ _ (by repeat (first | exact aK | exact aK.drew | refine Holds.drewN ?_ _))).mono ?_
         rintro e w5 ⟨rfl,q5,rfl⟩
         refine hK.out _ _ (fun _=>?_) (fun zy=>?_)
         ·exact trivial
         clear hK K
         have zy:=zy (by decide)
         try simp only[Act.put,getElem_toArray,getElem_cons_zero,getElem_cons_succ,setIfInBounds_toArray,set_cons_zero,set_cons_succ]
         refine Ways.takeS (i:=9) (v:=?_) rfl (by kernel_rfl) (fun _ _ _ h=>h) (Or.inl ⟨?_, ?_⟩) zy ?_
         rotate_left
         ·kernel_rfl
         ·(intro w us;(try dsimp only at us);go_simp;try with_reducible rfl)
         try simp only[Act.put,getElem_toArray,getElem_cons_zero,getElem_cons_succ,setIfInBounds_toArray,set_cons_zero,set_cons_succ]
         refine Ways.one (i:=12) rfl (by kernel_rfl) (fun K hK=>?_)
         go_simp
         refine(CW6.out _ _ (by repeat (first | exact aK | exact aK.drew | refine Holds.drewN ?_ _))).mono ?_
         rintro e w5 ⟨rfl,q5,rfl⟩
         refine hK.out _ _ (fun _=>?_) (fun zy=>?_)
         ·exact trivial
         clear hK K
         have zy:=zy (by decide)
         try simp only[Act.put,getElem_toArray,getElem_cons_zero,getElem_cons_succ,setIfInBounds_toArray,set_cons_zero,set_cons_succ]
         refine Ways.one (i:=15) rfl (by kernel_rfl) (fun K hK=>?_)
         go_simp
         refine(CW7.out _ _ (by repeat (first | exact aK | exact aK.drew | refine Holds.drewN ?_ _))).mono ?_
         rintro e w5 ⟨rfl,q5,rfl⟩
         refine hK.out _ _ (fun _=>?_) (fun zy=>?_)
         ·exact trivial
         clear hK K
         have zy:=zy (by decide)
         try simp only[Act.put,getElem_toArray,getElem_cons_zero,getElem_cons_succ,setIfInBounds_toArray,set_cons_zero,set_cons_succ]
         refine Ways.takeS (i:=16) (v:=?_) rfl (by kernel_rfl) (fun _ _ _ h=>h) (Or.inl ⟨?_, ?_⟩) zy ?_
         rotate_left
         ·kernel_rfl
         ·(intro w us;(try dsimp only at us);go_simp;try with_reducible rfl)
         try simp only[Act.put,getElem_toArray,getElem_cons_zero,getElem_cons_succ,setIfInBounds_toArray,set_cons_zero,set_cons_succ]
         refine Ways.takeS (i:=17) (v:=?_) rfl (by kernel_rfl) (fun _ _ _ h=>h) (Or.inl ⟨?_, ?_⟩) zy ?_
         rotate_left
         ·kernel_rfl
         ·(intro w us;(try dsimp only at us);go_simp;try with_reducible rfl)
         try simp only[Act.put,getElem_toArray,getElem_cons_zero,getElem_cons_succ,setIfInBounds_toArray,set_cons_zero,set_cons_succ]
         refine Ways.takeS (i:=18) (v:=?_) rfl (by kernel_rfl) (fun _ _ _ h=>h) (Or.inl ⟨?_, ?_⟩) zy ?_
         rotate_left
         ·kernel_rfl
         ·(intro w us;(try dsimp only at us);go_simp;try with_reducible rfl)
         try simp only[Act.put,getElem_toArray,getElem_cons_zero,getElem_cons_succ,setIfInBounds_toArray,set_cons_zero,set_cons_succ]
         refine Ways.takeS (i:=19) (v:=?_) rfl (by kernel_rfl) (fun _ _ _ h=>h) (Or.inl ⟨?_, ?_⟩) zy ?_
         rotate_left
         ·kernel_rfl
         ·(intro w us;(try dsimp only at us);go_simp;try with_reducible rfl)
         try simp only[Act.put,getElem_toArray,getElem_cons_zero,getElem_cons_succ,setIfInBounds_toArray,set_cons_zero,set_cons_succ]
         refine Ways.takeS (i:=20) (v:=?_) rfl (by kernel_rfl) (fun _ _ _ h=>h) (Or.inl ⟨by rfl, ?_⟩) zy ?_
         rotate_left
         ·(intro w us;(try dsimp only at us);go_simp;try with_reducible rfl)
         try simp only[Act.put,getElem_toArray,getElem_cons_zero,getElem_cons_succ,setIfInBounds_toArray,set_cons_zero,set_cons_succ]
         refine Ways.done (by kernel_rfl) ?_
         go_wp2_with fail
         go_meet
         exact⟨rfl,rfl,by repeat (first | exact qY | exact qY.drew | refine below_drewNv ?_ _)⟩
        case rest =>
        clear p8 xw
        obtain⟨rfl,rfl,p8⟩:=hcut
        cases zz3 with
        | true =>
         have Lm:Z3=0:=by have:=Ey.out;simpa using this
         have aQ:=GP.out
         obtain⟨u2,St⟩:∃ u2,u.extract 32 u.size=u2:=⟨_,rfl⟩
         have zu2:u.size-32=u2.size:=by rw[← St,Lib.ext_size]
         have sbu2:=SB.skipc aQ 32 (by omega)
         rw[St,if_neg (by omega)]at sbu2
         obtain⟨Bu2,R8⟩:∃ B,some (⟨bu,ou+32,none⟩:Addr)=B:=⟨_,rfl⟩
         rw[R8]at sbu2
         have VU2:Hid (Lib.validD u2.data.toList=ANS):=by rw[Hid,← St,Lib.valid_skip u 32 (K3.out Lm)];exact VU.out
         have Gk:=Lib.hid (And.intro zu2 R8)
         have GW:=Lib.hid (show u2.size<u.size∧u2.size≤t3.size by omega)
         clear zu2 St R8 aQ Lm OY bE Yw dV LM zub zuc zud VG VI VJ
         go_wp2_with fail
         rw[Gk.out.2,Gk.out.1]
         go_roundw
         case rel=>exact⟨_,u2,rfl,sbu2,VU2.out,GW.out.2,p8⟩
         case measure=>have:=GW.out.1;simp[mJ];omega
        | false =>
        have Lb:SB H (some ⟨bu,ou,none⟩) u:=fun _=>⟨bu,ou,rfl,GP.out⟩
        have wJ:=Lib.hid (show u.size<t.size∧u.size≤t0.size by have:=rI.out;omega)
        go_wp2_with fail
        go_roundw
        case rel=>exact⟨_,u,rfl,Lb,VU.out,wJ.out.2,p8⟩
        case measure=>have:=wJ.out.1;simp[mJ];omega
       have c32z:¬ ((32:Int)<(u.size:Int)):=by omega
       have c32b:decide ((32:Int)<(u.size:Int))=false:=decide_eq_false c32z
       have wJ:=Lib.hid (show u.size<t.size∧u.size≤t0.size by have:=rI.out;omega)
       go_upto_region 10 with fail
       go_big_quiet (fail)
       have p8:=below_drewNv p8 nq
       go_wp2_with fail
       go_roundw
       case rel=>exact⟨_,u,rfl,sbu,VU.out,wJ.out.2,p8⟩
       case measure=>have:=wJ.out.1;simp[mJ];omega
      | false =>
      have Lb:SB H (some ⟨b2,off2,none⟩) t2:=fun _=>⟨b2,off2,rfl,NU.out⟩
      have rI:=Lib.hid (show t2.size<t.size∧t2.size≤t0.size by have:=SJ.out.1;have:=Ou.out.1;omega)
      go_wp2_with fail
      go_roundw
      case rel=>exact⟨_,t2,rfl,Lb,V2.out,rI.out.2,p8⟩
      case measure=>have:=rI.out.1;simp[mJ];omega
     have c16z:¬ ((16:Int)<(t2.size:Int)):=by omega
     have c16b:decide ((16:Int)<(t2.size:Int))=false:=decide_eq_false c16z
     have rI:=Lib.hid (show t2.size<t.size∧t2.size≤t0.size by have:=SJ.out.1;have:=Ou.out.1;omega)
     go_big_quiet (fail)
     have p8:=below_drewNv p8 nq
     go_wp2_with fail
     go_roundw
     case rel=>exact⟨_,t2,rfl,sbt2,V2.out,rI.out.2,p8⟩
     case measure=>have:=rI.out.1;simp[mJ];omega
    have OW:((Z1:Int)==0)=false:=by simp;omega
    have rI:=Lib.hid (show t1.size<t.size∧t1.size≤t0.size by have:=SJ.out.1;omega)
    go_wp2_with (go_at_call 187;refine zO ?_)
    unfold yy
    refine(CW1.out _ _ yD).mono ?_
    rintro e w5 ⟨rfl,q5,rfl⟩
    have p8:=below_drewNv nb q5
    go_wp2_with fail
    go_roundw
    case rel=>exact⟨_,t1,rfl,Nd.out,V1.out,rI.out.2,p8⟩
    case measure=>have:=rI.out.1;simp[mJ];omega
   have c8z:¬ ((8:Int)<(t1.size:Int)):=by omega
   have rI:=Lib.hid (show t1.size<t.size∧t1.size≤t0.size by have:=SJ.out.1;omega)
   go_wp2_with fail
   go_roundw
   case rel=>exact⟨_,t1,rfl,sbt1,V1.out,rI.out.2,nb⟩
   case measure=>have:=rI.out.1;simp[mJ];omega
  have fe:128≤x0.toNat:=by omega
  have Mx:¬ ((x0.toNat:Int)<128):=by omega
  obtain⟨x1,jn⟩:∃ x1,t.get! 1=x1:=⟨_,rfl⟩
  obtain⟨x2,iw⟩:∃ x2,t.get! 2=x2:=⟨_,rfl⟩
  obtain⟨x3,jV⟩:∃ x3,t.get! 3=x3:=⟨_,rfl⟩
  have l1:=x1.toNat_lt;have l2:=x2.toNat_lt;have l3:=x3.toNat_lt
  have xg:t.data.toList≠[]:=fun h=>by rw[Lib.size_eq,h]at h0;simp at h0
  have xh:=Lib.validD_lead t.data.toList xg (by rw[Lib.getD_get!',dY];exact fe)
  rw[Lib.getD_get!',Lib.getD_get!',Lib.getD_get!',Lib.getD_get!',dY,jn,iw,jV,← Lib.size_eq,HV.out]at xh
  have sJ:=hT wr yD
  have tM:=sJ.1 x0.toNat (by omega)
  have Nx:Lib.firstT x0.toNat<256:=by rcases Lib.firstT_cases x0.toNat with h | h | h | h | h | h | h | h | h <;> omega
  obtain⟨X,hX⟩:∃ X,Lib.firstT x0.toNat=X:=⟨_,rfl⟩
  rw[hX]at tM Nx xh
  have h7:=and7 ⟨X,Nx⟩
  simp only at h7
  have Kx:wr.cell? ⟨1,X/16*2,none⟩=some (.int .u8 (Lib.accLo (X/16))):=by rw[Nat.mul_comm];exact(sJ.2 (X/16) (by omega)).1
  have Yr:wr.cell? ⟨1,X/16*2+1,none⟩=some (.int .u8 (Lib.accHi (X/16))):=by rw[Nat.mul_comm];exact(sJ.2 (X/16) (by omega)).2
  obtain⟨LO,Hf⟩:∃ LO,Lib.accLo (X/16)=LO:=⟨_,rfl⟩
  obtain⟨HI,Hc⟩:∃ HI,Lib.accHi (X/16)=HI:=⟨_,rfl⟩
  rw[Hf]at Kx xh
  rw[Hc]at Yr xh
  obtain⟨SZ,FW⟩:∃ SZ,X%8=SZ:=⟨_,rfl⟩
  rw[FW]at xh
  have WG:=Blk.new wr 117 #[.int .u8 (LO:Int),.int .u8 (HI:Int)]
  have jf:=nb.alloc nb.size (.cells #[.int .u8 (LO:Int),.int .u8 (HI:Int)] 117)
  have Ve:=yD.alloc (.cells #[.int .u8 (LO:Int),.int .u8 (HI:Int)] 117)
  obtain⟨N,hN⟩:∃ N,wr.heap.size=N:=⟨_,rfl⟩
  rw[hN]at WG
  clear sJ hX Hf Hc xg aS im
  by_cases s2:SZ=2
  ·as_aux_lemma =>
   subst s2
   have Nv:(X:Int)%8=2:=by omega
   simp only[Lib.checkN,Nat.reduceEqDiff,if_true,if_false]at xh
   have dd:=Lib.hid xh
   clear xh
   go_upto_region 18 with fail
   generalize wr.alloc (.cells #[.int .u8 (LO:Int),.int .u8 (HI:Int)] 117)=wN at WG jf Ve⊢
   have n0:=WG.cell 0 rfl
   have n1:=WG.cell 1 rfl
   go_cut [103] (fun cc wx=>cc=.bool (decide (t.size<2∨x1.toNat<LO∨HI<x1.toNat))∧Below w.heap.size w wx)
   case first =>
    by_cases q0:t.size<2
    ·have q0z:(t.size:Int)<2:=by omega
     go_big_quiet (fail)
     go_wp2_with fail
     go_meet
     exact⟨congrArg Value.bool (decide_eq_true (p:=t.size<2∨x1.toNat<LO∨HI<x1.toNat) (by omega)).symm,below_drewNv jf nq⟩
    have q0z:¬ ((t.size:Int)<2):=by omega
    have q0b:decide ((t.size:Int)<2)=false:=decide_eq_false q0z
    have rM:(1:Int)<(t.size:Int):=by omega
    have Yi:1<t.size:=by omega
    have d1:wN.cell? ⟨b,off+1,none⟩=some (.int .u8 (x1.toNat:Int)):=by rw[← jn];exact Ve.cell (dO.out 1 (by omega))
    by_cases q1:x1.toNat<LO
    ·have q1z:((x1.toNat:Int)<(LO:Int)):=by omega
     go_big_quiet (fail)
     go_wp2_with fail
     go_meet
     exact⟨congrArg Value.bool (decide_eq_true (p:=t.size<2∨x1.toNat<LO∨HI<x1.toNat) (by omega)).symm,below_drewNv jf nq⟩
    have q1z:¬ ((x1.toNat:Int)<(LO:Int)):=by omega
    have q1b:decide ((x1.toNat:Int)<(LO:Int))=false:=decide_eq_false q1z
    by_cases q2:HI<x1.toNat
    ·have q2z:((HI:Int)<(x1.toNat:Int)):=by omega
     go_big_quiet (fail)
     go_wp2_with fail
     go_meet
     exact⟨congrArg Value.bool (decide_eq_true (p:=t.size<2∨x1.toNat<LO∨HI<x1.toNat) (by omega)).symm,below_drewNv jf nq⟩
    have q2z:¬ ((HI:Int)<(x1.toNat:Int)):=by omega
    have q2b:decide ((HI:Int)<(x1.toNat:Int))=false:=decide_eq_false q2z
    go_big_quiet (fail)
    go_wp2_with fail
    go_meet
    exact⟨congrArg Value.bool (decide_eq_false (p:=t.size<2∨x1.toNat<LO∨HI<x1.toNat) (by omega)).symm,below_drewNv jf nq⟩
   case rest =>
   obtain⟨rfl,p8⟩:=hcut
   by_cases hb:t.size<2∨x1.toNat<LO∨HI<x1.toNat
   ·have vG:decide (t.size<2∨x1.toNat<LO∨HI<x1.toNat)=true:=decide_eq_true hb
    have xh:=dd.out
    rw[if_pos hb]at xh
    rw[vG]
    clear hb vG dd n0 n1
    go_wp2_with fail
    go_ret
    exact⟨by first | rfl | rw[xh],p8⟩
   have vG:decide (t.size<2∨x1.toNat<LO∨HI<x1.toNat)=false:=decide_eq_false hb
   have xh:=dd.out
   rw[if_neg hb]at xh
   rw[vG]
   have zC:(2:Int)≤(t.size:Int):=by omega
   have im:=dO.out
   obtain⟨t1,iu⟩:∃ t1,t.extract 2 t.size=t1:=⟨_,rfl⟩
   have zt1:t.size-2=t1.size:=by rw[← iu,Lib.ext_size]
   have sbt1:=SB.skipc im 2 (by omega)
   rw[iu]at sbt1
   obtain⟨Bt1,oY⟩:∃ B,(if t.size=2 then some (⟨b,off,none⟩:Addr) else some ⟨b,off+2,none⟩)=B:=⟨_,rfl⟩
   rw[oY]at sbt1
   have HE:=Lib.hid (And.intro zt1 oY)
   have VT:=Lib.hid (show Lib.validD t1.data.toList=ANS by rw[← iu,Lib.ext_list,xh])
   have rI:=Lib.hid (show t1.size<t.size∧t1.size≤t0.size by omega)
   clear hb vG dd xh zt1 oY iu im n0 n1
   go_wp2_with fail
   go_roundw
   case rel=>exact⟨Bt1,t1,by rw[HE.out.1,HE.out.2],sbt1,VT.out,rI.out.2,p8⟩
   case measure=>have:=rI.out.1;have:=HE.out.1;simp[mJ];omega
  by_cases s3:SZ=3
  ·as_aux_lemma =>
   subst s3
   have Nv:(X:Int)%8=3:=by omega
   simp only[Lib.checkN,Nat.reduceEqDiff,if_true,if_false]at xh
   have dd:=Lib.hid xh
   clear xh
   go_upto_region 22 with fail
   generalize wr.alloc (.cells #[.int .u8 (LO:Int),.int .u8 (HI:Int)] 117)=wN at WG jf Ve⊢
   have n0:=WG.cell 0 rfl
   have n1:=WG.cell 1 rfl
   go_cut [138] (fun cc wx=>cc=.bool (decide (t.size<3∨x1.toNat<LO∨HI<x1.toNat∨x2.toNat<128∨191<x2.toNat))∧Below w.heap.size w wx)
   case first =>
    by_cases q0:t.size<3
    ·have q0z:(t.size:Int)<3:=by omega
     go_big_quiet (fail)
     go_wp2_with fail
     go_meet
     exact⟨congrArg Value.bool (decide_eq_true (p:=t.size<3∨x1.toNat<LO∨HI<x1.toNat∨x2.toNat<128∨191<x2.toNat) (by omega)).symm,below_drewNv jf nq⟩
    have q0z:¬ ((t.size:Int)<3):=by omega
    have q0b:decide ((t.size:Int)<3)=false:=decide_eq_false q0z
    have rM:(1:Int)<(t.size:Int):=by omega
    have Yi:1<t.size:=by omega
    have d1:wN.cell? ⟨b,off+1,none⟩=some (.int .u8 (x1.toNat:Int)):=by rw[← jn];exact Ve.cell (dO.out 1 (by omega))
    have qg:(2:Int)<(t.size:Int):=by omega
    have Sq:2<t.size:=by omega
    have d2:wN.cell? ⟨b,off+2,none⟩=some (.int .u8 (x2.toNat:Int)):=by rw[← iw];exact Ve.cell (dO.out 2 (by omega))
    by_cases q1:x1.toNat<LO
    ·have q1z:((x1.toNat:Int)<(LO:Int)):=by omega
     go_big_quiet (fail)
     go_wp2_with fail
     go_meet
     exact⟨congrArg Value.bool (decide_eq_true (p:=t.size<3∨x1.toNat<LO∨HI<x1.toNat∨x2.toNat<128∨191<x2.toNat) (by omega)).symm,below_drewNv jf nq⟩
    have q1z:¬ ((x1.toNat:Int)<(LO:Int)):=by omega
    have q1b:decide ((x1.toNat:Int)<(LO:Int))=false:=decide_eq_false q1z
    by_cases q2:HI<x1.toNat
    ·have q2z:((HI:Int)<(x1.toNat:Int)):=by omega
     go_big_quiet (fail)
     go_wp2_with fail
     go_meet
     exact⟨congrArg Value.bool (decide_eq_true (p:=t.size<3∨x1.toNat<LO∨HI<x1.toNat∨x2.toNat<128∨191<x2.toNat) (by omega)).symm,below_drewNv jf nq⟩
    have q2z:¬ ((HI:Int)<(x1.toNat:Int)):=by omega
    have q2b:decide ((HI:Int)<(x1.toNat:Int))=false:=decide_eq_false q2z
    by_cases q3:x2.toNat<128
    ·have q3z:((x2.toNat:Int)<128):=by omega
     go_big_quiet (fail)
     go_wp2_with fail
     go_meet
     exact⟨congrArg Value.bool (decide_eq_true (p:=t.size<3∨x1.toNat<LO∨HI<x1.toNat∨x2.toNat<128∨191<x2.toNat) (by omega)).symm,below_drewNv jf nq⟩
    have q3z:¬ ((x2.toNat:Int)<128):=by omega
    have q3b:decide ((x2.toNat:Int)<128)=false:=decide_eq_false q3z
    by_cases q4:191<x2.toNat
    ·have q4z:((191:Int)<(x2.toNat:Int)):=by omega
     go_big_quiet (fail)
     go_wp2_with fail
     go_meet
     exact⟨congrArg Value.bool (decide_eq_true (p:=t.size<3∨x1.toNat<LO∨HI<x1.toNat∨x2.toNat<128∨191<x2.toNat) (by omega)).symm,below_drewNv jf nq⟩
    have q4z:¬ ((191:Int)<(x2.toNat:Int)):=by omega
    have q4b:decide ((191:Int)<(x2.toNat:Int))=false:=decide_eq_false q4z
    go_big_quiet (fail)
    go_wp2_with fail
    go_meet
    exact⟨congrArg Value.bool (decide_eq_false (p:=t.size<3∨x1.toNat<LO∨HI<x1.toNat∨x2.toNat<128∨191<x2.toNat) (by omega)).symm,below_drewNv jf nq⟩
   case rest =>
   obtain⟨rfl,p8⟩:=hcut
   by_cases hb:t.size<3∨x1.toNat<LO∨HI<x1.toNat∨x2.toNat<128∨191<x2.toNat
   ·have vG:decide (t.size<3∨x1.toNat<LO∨HI<x1.toNat∨x2.toNat<128∨191<x2.toNat)=true:=decide_eq_true hb
    have xh:=dd.out
    rw[if_pos hb]at xh
    rw[vG]
    clear hb vG dd n0 n1
    go_wp2_with fail
    go_ret
    exact⟨by first | rfl | rw[xh],p8⟩
   have vG:decide (t.size<3∨x1.toNat<LO∨HI<x1.toNat∨x2.toNat<128∨191<x2.toNat)=false:=decide_eq_false hb
   have xh:=dd.out
   rw[if_neg hb]at xh
   rw[vG]
   have zC:(3:Int)≤(t.size:Int):=by omega
   have im:=dO.out
   obtain⟨t1,iu⟩:∃ t1,t.extract 3 t.size=t1:=⟨_,rfl⟩
   have zt1:t.size-3=t1.size:=by rw[← iu,Lib.ext_size]
   have sbt1:=SB.skipc im 3 (by omega)
   rw[iu]at sbt1
   obtain⟨Bt1,oY⟩:∃ B,(if t.size=3 then some (⟨b,off,none⟩:Addr) else some ⟨b,off+3,none⟩)=B:=⟨_,rfl⟩
   rw[oY]at sbt1
   have HE:=Lib.hid (And.intro zt1 oY)
   have VT:=Lib.hid (show Lib.validD t1.data.toList=ANS by rw[← iu,Lib.ext_list,xh])
   have rI:=Lib.hid (show t1.size<t.size∧t1.size≤t0.size by omega)
   clear hb vG dd xh zt1 oY iu im n0 n1
   go_wp2_with fail
   go_roundw
   case rel=>exact⟨Bt1,t1,by rw[HE.out.1,HE.out.2],sbt1,VT.out,rI.out.2,p8⟩
   case measure=>have:=rI.out.1;have:=HE.out.1;simp[mJ];omega
  by_cases s4:SZ=4
  ·as_aux_lemma =>
   subst s4
   have Nv:(X:Int)%8=4:=by omega
   simp only[Lib.checkN,Nat.reduceEqDiff,if_true,if_false]at xh
   have dd:=Lib.hid xh
   clear xh
   go_upto_region 26 with fail
   generalize wr.alloc (.cells #[.int .u8 (LO:Int),.int .u8 (HI:Int)] 117)=wN at WG jf Ve⊢
   have n0:=WG.cell 0 rfl
   have n1:=WG.cell 1 rfl
   go_cut [185] (fun cc wx=>cc=.bool (decide (t.size<4∨x1.toNat<LO∨HI<x1.toNat∨x2.toNat<128∨191<x2.toNat∨x3.toNat<128∨191<x3.toNat))∧Below w.heap.size w wx)
   case first =>
    by_cases q0:t.size<4
    ·have q0z:(t.size:Int)<4:=by omega
     go_big_quiet (fail)
     go_wp2_with fail
     go_meet
     exact⟨congrArg Value.bool (decide_eq_true (p:=t.size<4∨x1.toNat<LO∨HI<x1.toNat∨x2.toNat<128∨191<x2.toNat∨x3.toNat<128∨191<x3.toNat) (by omega)).symm,below_drewNv jf nq⟩
    have q0z:¬ ((t.size:Int)<4):=by omega
    have q0b:decide ((t.size:Int)<4)=false:=decide_eq_false q0z
    have rM:(1:Int)<(t.size:Int):=by omega
    have Yi:1<t.size:=by omega
    have d1:wN.cell? ⟨b,off+1,none⟩=some (.int .u8 (x1.toNat:Int)):=by rw[← jn];exact Ve.cell (dO.out 1 (by omega))
    have qg:(2:Int)<(t.size:Int):=by omega
    have Sq:2<t.size:=by omega
    have d2:wN.cell? ⟨b,off+2,none⟩=some (.int .u8 (x2.toNat:Int)):=by rw[← iw];exact Ve.cell (dO.out 2 (by omega))
    have Lm:(3:Int)<(t.size:Int):=by omega
    have QW:3<t.size:=by omega
    have d3:wN.cell? ⟨b,off+3,none⟩=some (.int .u8 (x3.toNat:Int)):=by rw[← jV];exact Ve.cell (dO.out 3 (by omega))
    by_cases q1:x1.toNat<LO
    ·have q1z:((x1.toNat:Int)<(LO:Int)):=by omega
     go_big_quiet (fail)
     go_wp2_with fail
     go_meet
     exact⟨congrArg Value.bool (decide_eq_true (p:=t.size<4∨x1.toNat<LO∨HI<x1.toNat∨x2.toNat<128∨191<x2.toNat∨x3.toNat<128∨191<x3.toNat) (by omega)).symm,below_drewNv jf nq⟩
    have q1z:¬ ((x1.toNat:Int)<(LO:Int)):=by omega
    have q1b:decide ((x1.toNat:Int)<(LO:Int))=false:=decide_eq_false q1z
    by_cases q2:HI<x1.toNat
    ·have q2z:((HI:Int)<(x1.toNat:Int)):=by omega
     go_big_quiet (fail)
     go_wp2_with fail
     go_meet
     exact⟨congrArg Value.bool (decide_eq_true (p:=t.size<4∨x1.toNat<LO∨HI<x1.toNat∨x2.toNat<128∨191<x2.toNat∨x3.toNat<128∨191<x3.toNat) (by omega)).symm,below_drewNv jf nq⟩
    have q2z:¬ ((HI:Int)<(x1.toNat:Int)):=by omega
    have q2b:decide ((HI:Int)<(x1.toNat:Int))=false:=decide_eq_false q2z
    by_cases q3:x2.toNat<128
    ·have q3z:((x2.toNat:Int)<128):=by omega
     go_big_quiet (fail)
     go_wp2_with fail
     go_meet
     exact⟨congrArg Value.bool (decide_eq_true (p:=t.size<4∨x1.toNat<LO∨HI<x1.toNat∨x2.toNat<128∨191<x2.toNat∨x3.toNat<128∨191<x3.toNat) (by omega)).symm,below_drewNv jf nq⟩
    have q3z:¬ ((x2.toNat:Int)<128):=by omega
    have q3b:decide ((x2.toNat:Int)<128)=false:=decide_eq_false q3z
    by_cases q4:191<x2.toNat
    ·have q4z:((191:Int)<(x2.toNat:Int)):=by omega
     go_big_quiet (fail)
     go_wp2_with fail
     go_meet
     exact⟨congrArg Value.bool (decide_eq_true (p:=t.size<4∨x1.toNat<LO∨HI<x1.toNat∨x2.toNat<128∨191<x2.toNat∨x3.toNat<128∨191<x3.toNat) (by omega)).symm,below_drewNv jf nq⟩
    have q4z:¬ ((191:Int)<(x2.toNat:Int)):=by omega
    have q4b:decide ((191:Int)<(x2.toNat:Int))=false:=decide_eq_false q4z
    by_cases q5:x3.toNat<128
    ·have q5z:((x3.toNat:Int)<128):=by omega
     go_big_quiet (fail)
     go_wp2_with fail
     go_meet
     exact⟨congrArg Value.bool (decide_eq_true (p:=t.size<4∨x1.toNat<LO∨HI<x1.toNat∨x2.toNat<128∨191<x2.toNat∨x3.toNat<128∨191<x3.toNat) (by omega)).symm,below_drewNv jf nq⟩
    have q5z:¬ ((x3.toNat:Int)<128):=by omega
    have q5b:decide ((x3.toNat:Int)<128)=false:=decide_eq_false q5z
    by_cases q6:191<x3.toNat
    ·have q6z:((191:Int)<(x3.toNat:Int)):=by omega
     go_big_quiet (fail)
     go_wp2_with fail
     go_meet
     exact⟨congrArg Value.bool (decide_eq_true (p:=t.size<4∨x1.toNat<LO∨HI<x1.toNat∨x2.toNat<128∨191<x2.toNat∨x3.toNat<128∨191<x3.toNat) (by omega)).symm,below_drewNv jf nq⟩
    have q6z:¬ ((191:Int)<(x3.toNat:Int)):=by omega
    have q6b:decide ((191:Int)<(x3.toNat:Int))=false:=decide_eq_false q6z
    go_big_quiet (fail)
    go_wp2_with fail
    go_meet
    exact⟨congrArg Value.bool (decide_eq_false (p:=t.size<4∨x1.toNat<LO∨HI<x1.toNat∨x2.toNat<128∨191<x2.toNat∨x3.toNat<128∨191<x3.toNat) (by omega)).symm,below_drewNv jf nq⟩
   case rest =>
   obtain⟨rfl,p8⟩:=hcut
   by_cases hb:t.size<4∨x1.toNat<LO∨HI<x1.toNat∨x2.toNat<128∨191<x2.toNat∨x3.toNat<128∨191<x3.toNat
   ·have vG:decide (t.size<4∨x1.toNat<LO∨HI<x1.toNat∨x2.toNat<128∨191<x2.toNat∨x3.toNat<128∨191<x3.toNat)=true:=decide_eq_true hb
    have xh:=dd.out
    rw[if_pos hb]at xh
    rw[vG]
    clear hb vG dd n0 n1
    go_wp2_with fail
    go_ret
    exact⟨by first | rfl | rw[xh],p8⟩
   have vG:decide (t.size<4∨x1.toNat<LO∨HI<x1.toNat∨x2.toNat<128∨191<x2.toNat∨x3.toNat<128∨191<x3.toNat)=false:=decide_eq_false hb
   have xh:=dd.out
   rw[if_neg hb]at xh
   rw[vG]
   have zC:(4:Int)≤(t.size:Int):=by omega
   have im:=dO.out
   obtain⟨t1,iu⟩:∃ t1,t.extract 4 t.size=t1:=⟨_,rfl⟩
   have zt1:t.size-4=t1.size:=by rw[← iu,Lib.ext_size]
   have sbt1:=SB.skipc im 4 (by omega)
   rw[iu]at sbt1
   obtain⟨Bt1,oY⟩:∃ B,(if t.size=4 then some (⟨b,off,none⟩:Addr) else some ⟨b,off+4,none⟩)=B:=⟨_,rfl⟩
   rw[oY]at sbt1
   have HE:=Lib.hid (And.intro zt1 oY)
   have VT:=Lib.hid (show Lib.validD t1.data.toList=ANS by rw[← iu,Lib.ext_list,xh])
   have rI:=Lib.hid (show t1.size<t.size∧t1.size≤t0.size by omega)
   clear hb vG dd xh zt1 oY iu im n0 n1
   go_wp2_with fail
   go_roundw
   case rel=>exact⟨Bt1,t1,by rw[HE.out.1,HE.out.2],sbt1,VT.out,rI.out.2,p8⟩
   case measure=>have:=rI.out.1;have:=HE.out.1;simp[mJ];omega
  have e2b:(((X:Int)%8)==2)=false:=by simp;omega
  have e3b:(((X:Int)%8)==3)=false:=by simp;omega
  have e4b:(((X:Int)%8)==4)=false:=by simp;omega
  have e2:¬ ((X:Int)%8=2):=by omega
  have e3:¬ ((X:Int)%8=3):=by omega
  have e4:¬ ((X:Int)%8=4):=by omega
  simp only[Lib.checkN,s2,s3,s4,if_false]at xh
  have dd:=Lib.hid xh
  clear xh
  go_wp2_with fail
  go_ret
  exact⟨by first | rfl | (rw[dd.out];rfl),jf⟩
 have F1:¬ ((0:Int)<(t.size:Int)):=by omega
 have WU:t.data.toList=[]:=List.eq_nil_of_length_eq_zero (by rw[← Lib.size_eq];omega)
 have hv:=HV.out
 rw[WU,Lib.validD_nil]at hv
 subst hv
 go_wp2_with fail
 go_ret
 exact⟨rfl,nb⟩
theorem kT {H:Snap}(hT:Tabs H) (w:World) (hH:Holds w H) (A:Option Addr) (l:List UInt8) (n c:Nat) (hn:n=l.length) (hb:IsBytes H A c l) :
  Calls Tryz.prog 140 #[.slice A n c] w fun e w'=>e=.returned (.bool (Lib.validD l))∧Below w.heap.size w w':=by
 subst hn
 have hl:(⟨l.toArray⟩:ByteArray).size=l.length:=by show l.toArray.size=l.length;simp
 have h:=eY hT w hH A ⟨l.toArray⟩ c (SB.of hb) (by rw[hl];exact hb.le) (by rw[hl];have:=hb.le;have:=hb.max;omega)
 rw[hl,Tu]at h
 exact h
end Go.Proofs.YtliomcphdnppnaaGreatDoor
