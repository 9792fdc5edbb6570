/- squeezed. Walks: the library's Valid of a sl -/
import Derived.Test.YtliomcphdnppnaaGreatDoorK04
import Derived.BigQuiet
set_option linter.unusedVariables false
set_option linter.unusedSimpArgs false
open List (getElem_toArray getElem_cons_zero getElem_cons_succ setIfInBounds_toArray set_cons_zero set_cons_succ)
namespace Go.Proofs.YtliomcphdnppnaaGreatDoor
open Go.RowKit
def lI:Value→Nat
 | .slice _ n _=>n
 | _=>0
theorem SB.skipc {H:Snap}{b off:Nat}{t:ByteArray}(h:∀ j,j<t.size→H.cell? ⟨b,off+j,none⟩=some (.int .u8 ((t.get! j).toNat:Int))) (k:Nat) (hk:k≤t.size) :
  SB H (if t.size=k then some (⟨b,off,none⟩:Addr) else some ⟨b,off+k,none⟩) (t.extract k t.size):=fun h0=>by
 rw[Lib.ext_size]at h0
 rw[if_neg (by omega)]
 refine⟨b,off+k,rfl,fun j hj=>?_⟩
 rw[Lib.ext_size]at hj
 rw[Nat.add_assoc,h (k+j) (by omega),← Lib.getD_get!',← Lib.getD_get!',Lib.ext_list]
 simp[List.getD,List.getElem?_drop]
set_option maxHeartbeats 16000000 in
set_option maxRecDepth 1000000 in
theorem dU {H:Snap}(hT:Tabs H) (w:World) (hH:Holds w H) (A:Option Addr) (t0:ByteArray) (c:Nat) (hs:SB H A t0) (hc:t0.size≤c) (hm:t0.size≤9223372036854775807) :
  Calls Tryz.prog 140 #[.slice A t0.size c] w fun e w'=>e=.returned (.bool (Lib.validD t0.data.toList))∧Below w.heap.size w w':=by
 obtain⟨ANS,PV⟩:∃ ANS,Lib.validD t0.data.toList=ANS:=⟨_,rfl⟩
 rw[PV]
 have Gp:=Lib.hid PV
 clear PV
 have cP:(t0.size:Int)≤c:=by omega
 go_enter Tryz.func140,Tryz.ntmps140
 go_wp2
 go_loopw [0] (fun v0 wx=>∃ (B:Option Addr) (t:ByteArray),v0=.slice B t.size t.size∧SB H B t∧Lib.validD t.data.toList=ANS∧t.size≤t0.size∧Below w.heap.size w wx) (fun v0 _=>lI v0)
 case atStart=>exact⟨A,t0,rfl,hs,Gp.out,Nat.le_refl _,Below.refl _ _⟩
 case round =>
 obtain⟨B,t,rfl,Yz,hv,Be,qC⟩:=hrel
 have HV:=Lib.hid hv
 clear hv
 by_cases h0:0<t.size
 ·obtain⟨b,off,rfl,f8⟩:=Yz h0
  have D8:(0:Int)<(t.size:Int):=by omega
  have yG:=hH.below qC (Nat.le_refl _)
  have c0:=yG.cell (f8 0 h0)
  have l0:=(t.get! 0).toNat_lt
  obtain⟨x0,Rf⟩:∃ x0,t.get! 0=x0:=⟨_,rfl⟩
  rw[Rf]at c0 l0
  simp only[Nat.add_zero]at c0
  have WF:=Lib.hid f8
  by_cases pm:x0.toNat<128
  ·as_aux_lemma =>
   have LF:(x0.toNat:Int)<128:=by omega
   have BE:(1:Int)≤(t.size:Int):=by omega
   have a1:Lib.Asc t 1:=Lib.asc_one t h0 (by rw[Rf];exact pm)
   obtain⟨t1,iD⟩:∃ t1,t.extract 1 t.size=t1:=⟨_,rfl⟩
   have zt1:t.size-1=t1.size:=by rw[← iD,Lib.ext_size]
   have sbt1:=SB.skipc f8 1 (by omega)
   rw[iD]at sbt1
   obtain⟨Bt1,oI⟩:∃ B,(if t.size=1 then some (⟨b,off,none⟩:Addr) else some ⟨b,off+1,none⟩)=B:=⟨_,rfl⟩
   rw[oI]at sbt1
   have V1:Hid (Lib.validD t1.data.toList=ANS):=by rw[Hid,← iD,Lib.valid_skip t 1 a1];exact HV.out
   have QJ:=Lib.hid (And.intro zt1 oI)
   clear f8 zt1 a1 Rf iD Yz oI
   go_upto_region 6 with fail
   rw[QJ.out.2,QJ.out.1]
   by_cases c8:8<t1.size
   ·have c8z:(8:Int)<(t1.size:Int):=by omega
    have c8y:(8:Int)≤(t1.size:Int):=by omega
    obtain⟨A1,KR⟩:∃ A1,Lib.leNat [t1.get! 0,t1.get! 1,t1.get! 2,t1.get! 3,t1.get! 4,t1.get! 5,t1.get! 6,t1.get! 7]=A1:=⟨_,rfl⟩
    have lA1:A1<18446744073709551616:=KR ▸ Lib.word_lt t1
    have cW1:∀ (c:Nat) (W:World),Holds W H→Calls Tryz.prog 187 #[.slice Bt1 t1.size c] W fun e w'=>e=.returned (.int .u64 (A1:Int))∧∃ q,w'=W.drewN q:=fun c W h=>by rw[← KR];exact tf sbt1 (by omega) c W h
    have CW1:=Lib.hid cW1
    have kA1:=Lib.word_asc t1 (by omega)
    rw[KR]at kA1
    clear cW1 KR
    have Ve:bits .and .u64 (A1:Int) 9259542123273814144=((A1 &&& 9259542123273814144:Nat):Int):=u64_and_nat A1 9259542123273814144 lA1 (by omega)
    obtain⟨Z1,Fx⟩:∃ Z1,A1 &&& 9259542123273814144=Z1:=⟨_,rfl⟩
    rw[Fx]at Ve kA1
    have KA1:=Lib.hid kA1
    have Ld:=Lib.hid sbt1
    clear Fx kA1 lA1 sbt1 c0 l0
    by_cases rp:Z1=0
    ·have MU:((Z1:Int)==0)=true:=by simp[rp]
     have FH:=Lib.hid rp
     clear rp
     go_wp2_with (go_at_call 187;refine zM ?_)
     unfold zD
     refine(CW1.out _ _ yG).mono ?_
     rintro e w5 ⟨rfl,q5,rfl⟩
     have xy:=Holds.drewN yG q5
     have oY:=below_drewNv qC q5
     obtain⟨b1,off1,rfl,Ly⟩:=Ld.out (by omega)
     obtain⟨t2,Kw⟩:∃ t2,t1.extract 8 t1.size=t2:=⟨_,rfl⟩
     have zt2:t1.size-8=t2.size:=by rw[← Kw,Lib.ext_size]
     have sbt2:=SB.skipc Ly 8 (by omega)
     rw[Kw,if_neg (by omega)]at sbt2
     obtain⟨Bt2,PX⟩:∃ B,some (⟨b1,off1+8,none⟩:Addr)=B:=⟨_,rfl⟩
     rw[PX]at sbt2
     have V2:Hid (Lib.validD t2.data.toList=ANS):=by rw[Hid,← Kw,Lib.valid_skip t1 8 (KA1.out.1 FH.out)];exact V1.out
     have Mj:=Lib.hid (And.intro zt2 PX)
     generalize wr.drewN q5=wq at xy oY⊢
     clear zt2 Kw Ly PX qC yG CW1 KA1 FH
     go_upto_region 8 with fail
     rw[Mj.out.2,Mj.out.1]
     by_cases c16:16<t2.size
     ·have c16z:(16:Int)<(t2.size:Int):=by omega
      have c16y:(16:Int)≤(t2.size:Int):=by omega
      have s8z:(8:Int)≤(t2.size:Int):=by omega
      have n8:(t2.size=8)=False:=eq_false (by omega)
      obtain⟨b2,off2,rfl,Yd⟩:=sbt2 (by omega)
      have Hk:SB H (some ⟨b2,off2,none⟩) t2:=sbt2
      obtain⟨t2b,TM⟩:∃ t2b,t2.extract 8 t2.size=t2b:=⟨_,rfl⟩
      have zt2b:t2.size-8=t2b.size:=by rw[← TM,Lib.ext_size]
      have sbt2b:=SB.skipc Yd 8 (by omega)
      rw[TM,if_neg (by omega)]at sbt2b
      obtain⟨o2b,TI⟩:∃ o,off2+8=o:=⟨_,rfl⟩
      rw[TI]at sbt2b
      obtain⟨A2,KT⟩:∃ A2,Lib.leNat [t2.get! 0,t2.get! 1,t2.get! 2,t2.get! 3,t2.get! 4,t2.get! 5,t2.get! 6,t2.get! 7]=A2:=⟨_,rfl⟩
      have lA2:A2<18446744073709551616:=KT ▸ Lib.word_lt t2
      have cW2:∀ (c:Nat) (W:World),Holds W H→Calls Tryz.prog 187 #[.slice (some ⟨b2,off2,none⟩) t2.size c] W fun e w'=>e=.returned (.int .u64 (A2:Int))∧∃ q,w'=W.drewN q:=fun c W h=>by rw[← KT];exact tf Hk (by omega) c W h
      have CW2:=Lib.hid cW2
      have kA2:=Lib.word_asc t2 (by omega)
      rw[KT]at kA2
      clear cW2 KT
      obtain⟨A3,KU⟩:∃ A3,Lib.leNat [t2b.get! 0,t2b.get! 1,t2b.get! 2,t2b.get! 3,t2b.get! 4,t2b.get! 5,t2b.get! 6,t2b.get! 7]=A3:=⟨_,rfl⟩
      have lA3:A3<18446744073709551616:=KU ▸ Lib.word_lt t2b
      have cW3:∀ (c:Nat) (W:World),Holds W H→Calls Tryz.prog 187 #[.slice (some ⟨b2,off2+8,none⟩) (t2.size-8) c] W fun e w'=>e=.returned (.int .u64 (A3:Int))∧∃ q,w'=W.drewN q:=fun c W h=>by rw[← KU,zt2b,TI];exact tf sbt2b (by omega) c W h
      have CW3:=Lib.hid cW3
      have kA3:=Lib.word_asc t2b (by omega)
      rw[KU]at kA3
      clear cW3 KU
      have MQ:bits .or .u64 (A2:Int) (A3:Int)=((A2 ||| A3:Nat):Int):=u64_or_nat A2 A3 lA2 lA3
      have lor2:A2 ||| A3<18446744073709551616:=Nat.or_lt_two_pow (n:=64) lA2 lA3
      have Vf:bits .and .u64 ((A2 ||| A3:Nat):Int) 9259542123273814144=(((A2 ||| A3) &&& 9259542123273814144:Nat):Int):=u64_and_nat _ 9259542123273814144 lor2 (by omega)
      have k2:(A2 ||| A3) &&& 9259542123273814144=0→Lib.Asc t2 16:=fun h0'=>by
       obtain⟨e1,e2⟩:=(Lib.or_mask A2 A3 _).1 h0'
       exact Lib.asc_add t2 8 8 (kA2.1 e1) (by rw[TM];exact kA3.1 e2)
      obtain⟨O2,rj⟩:∃ O2,A2 ||| A3=O2:=⟨_,rfl⟩
      rw[rj]at MQ Vf k2
      obtain⟨Z2,NE⟩:∃ Z2,O2 &&& 9259542123273814144=Z2:=⟨_,rfl⟩
      rw[NE]at Vf k2
      have K2:=Lib.hid k2
      have LY:=Lib.hid Yd
      clear kA2 kA3 lor2 rj NE k2 lA2 lA3 TM sbt2b Yd sbt2
      obtain⟨zz2,MV⟩:∃ zz,((Z2:Int)==0)=zz:=⟨_,rfl⟩
      have D6:=Lib.hid MV
      go_cut [0,46] (fun s0 s46 wx=>s0=.slice (some ⟨b2,off2,none⟩) t2.size t2.size∧s46=.bool zz2∧Below w.heap.size w wx)
      case first =>
       clear zt2b TI MU Ve
       have Yq:=xy
       have pw:=oY
       refine zw 13 (fun _=>True) (by kernel_rfl) (trivial) (fun zy=>?_)
       refine Ways.takeS (i:=0) (v:=?_) rfl (by kernel_rfl) (fun _ _ _ h=>h) (Or.inl ⟨by rfl, ?_⟩) zy ?_
       rotate_left
       ·(intro w uu;(try dsimp only at uu);go_simp;try with_reducible rfl)
       try simp only[Act.put,getElem_toArray,getElem_cons_zero,getElem_cons_succ,setIfInBounds_toArray,set_cons_zero,set_cons_succ]
       refine Ways.takeS (i:=1) (v:=?_) rfl (by kernel_rfl) (fun _ _ _ h=>h) (Or.inl ⟨by rfl, ?_⟩) zy ?_
       rotate_left
       ·(intro w uu;(try dsimp only at uu);go_simp;try with_reducible rfl)
       try simp only[Act.put,getElem_toArray,getElem_cons_zero,getElem_cons_succ,setIfInBounds_toArray,set_cons_zero,set_cons_succ]
       refine Ways.takeS (i:=2) (v:=?_) rfl (by kernel_rfl) (fun _ _ _ h=>h) (Or.inl ⟨by rfl, ?_⟩) zy ?_
       rotate_left
       ·(intro w uu;(try dsimp only at uu);go_simp;try with_reducible rfl)
       try simp only[Act.put,getElem_toArray,getElem_cons_zero,getElem_cons_succ,setIfInBounds_toArray,set_cons_zero,set_cons_succ]
       refine Ways.takeS (i:=3) (v:=?_) rfl (by kernel_rfl) (fun _ _ _ h=>h) (Or.inl ⟨by rfl, ?_⟩) zy ?_
       rotate_left
       ·(intro w uu;(try dsimp only at uu);go_simp;try with_reducible rfl)
       try simp only[Act.put,getElem_toArray,getElem_cons_zero,getElem_cons_succ,setIfInBounds_toArray,set_cons_zero,set_cons_succ]
       refine Ways.takeS (i:=4) (v:=?_) rfl (by kernel_rfl) (fun _ _ _ h=>h) (Or.inl ⟨?_, ?_⟩) zy ?_
       rotate_left
       ·kernel_rfl
       ·(intro w uu;(try dsimp only at uu);go_simp;try with_reducible rfl)
       try simp only[Act.put,getElem_toArray,getElem_cons_zero,getElem_cons_succ,setIfInBounds_toArray,set_cons_zero,set_cons_succ]
       refine Ways.takeS (i:=6) (v:=?_) rfl (by kernel_rfl) (fun _ _ _ h=>h) (Or.inl ⟨?_, ?_⟩) zy ?_
       rotate_left
       ·kernel_rfl
       ·(intro w uu;(try dsimp only at uu);go_simp;try with_reducible rfl)
       try simp only[Act.put,getElem_toArray,getElem_cons_zero,getElem_cons_succ,setIfInBounds_toArray,set_cons_zero,set_cons_succ]
       refine Ways.takeS (i:=7) (v:=?_) rfl (by kernel_rfl) (fun _ _ _ h=>h) (Or.inl ⟨?_, ?_⟩) zy ?_
       rotate_left
       ·kernel_rfl
       ·(intro w uu;(try dsimp only at uu);go_simp;try with_reducible rfl)
       try simp only[Act.put,getElem_toArray,getElem_cons_zero,getElem_cons_succ,setIfInBounds_toArray,set_cons_zero,set_cons_succ]
       refine Ways.one (i:=5) rfl (by kernel_rfl) (fun K hK=>?_)
       go_simp
       refine(CW2.out _ _ (by repeat (first | exact Yq | exact Yq.drew | refine Holds.drewN ?_ _))).mono ?_
       rintro e w5 ⟨rfl,q5,rfl⟩
       refine hK.out _ _ (fun _=>?_) (fun zy=>?_)
       ·exact trivial
       clear hK K
       have zy:=zy (by decide)
       try simp only[Act.put,getElem_toArray,getElem_cons_zero,getElem_cons_succ,setIfInBounds_toArray,set_cons_zero,set_cons_succ]
       refine Ways.one (i:=8) rfl (by kernel_rfl) (fun K hK=>?_)
       go_simp
       refine(CW3.out _ _ (by repeat (first | exact Yq | exact Yq.drew | refine Holds.drewN ?_ _))).mono ?_
       rintro e w5 ⟨rfl,q5,rfl⟩
       refine hK.out _ _ (fun _=>?_) (fun zy=>?_)
       ·exact trivial
       clear hK K
       have zy:=zy (by decide)
       try simp only[Act.put,getElem_toArray,getElem_cons_zero,getElem_cons_succ,setIfInBounds_toArray,set_cons_zero,set_cons_succ]
       refine Ways.takeS (i:=9) (v:=?_) rfl (by kernel_rfl) (fun _ _ _ h=>h) (Or.inl ⟨?_, ?_⟩) zy ?_
       rotate_left
       ·kernel_rfl
       ·(intro w uu;(try dsimp only at uu);go_simp;try with_reducible rfl)
       try simp only[Act.put,getElem_toArray,getElem_cons_zero,getElem_cons_succ,setIfInBounds_toArray,set_cons_zero,set_cons_succ]
       refine Ways.takeS (i:=10) (v:=?_) rfl (by kernel_rfl) (fun _ _ _ h=>h) (Or.inl ⟨?_, ?_⟩) zy ?_
       rotate_left
       ·kernel_rfl
       ·(intro w uu;(try dsimp only at uu);go_simp;try with_reducible rfl)
       try simp only[Act.put,getElem_toArray,getElem_cons_zero,getElem_cons_succ,setIfInBounds_toArray,set_cons_zero,set_cons_succ]
       refine Ways.takeS (i:=11) (v:=?_) rfl (by kernel_rfl) (fun _ _ _ h=>h) (Or.inl ⟨?_, ?_⟩) zy ?_
       rotate_left
       ·kernel_rfl
       ·(intro w uu;(try dsimp only at uu);go_simp;try with_reducible rfl)
       try simp only[Act.put,getElem_toArray,getElem_cons_zero,getElem_cons_succ,setIfInBounds_toArray,set_cons_zero,set_cons_succ]
       refine Ways.takeS (i:=12) (v:=?_) rfl (by kernel_rfl) (fun _ _ _ h=>h) (Or.inl ⟨by rfl, ?_⟩) zy ?_
       rotate_left
       ·(intro w uu;(try dsimp only at uu);go_simp;try with_reducible rfl)
       try simp only[Act.put,getElem_toArray,getElem_cons_zero,getElem_cons_succ,setIfInBounds_toArray,set_cons_zero,set_cons_succ]
       refine Ways.done (by kernel_rfl) ?_
       go_wp2_with fail
       go_meet
       exact⟨rfl,rfl,by repeat (first | exact pw | exact pw.drew | refine below_drewNv ?_ _)⟩
      case rest =>
      clear oY xy
      obtain⟨rfl,rfl,oY⟩:=hcut
      have xy:=hH.below oY (Nat.le_refl _)
      cases zz2 with
      | true =>
       have rQ:Z2=0:=by have:=D6.out;simpa using this
       have Yd:=LY.out
       obtain⟨t3,Kx⟩:∃ t3,t2.extract 16 t2.size=t3:=⟨_,rfl⟩
       have zt3:t2.size-16=t3.size:=by rw[← Kx,Lib.ext_size]
       have sbt3:=SB.skipc Yd 16 (by omega)
       rw[Kx,if_neg (by omega)]at sbt3
       obtain⟨Bt3,PY⟩:∃ B,some (⟨b2,off2+16,none⟩:Addr)=B:=⟨_,rfl⟩
       rw[PY]at sbt3
       have V3:Hid (Lib.validD t3.data.toList=ANS):=by rw[Hid,← Kx,Lib.valid_skip t2 16 (K2.out rQ)];exact V2.out
       have Ey:=Lib.hid (And.intro zt3 PY)
       have uK:=Lib.hid (show t3.size<t.size∧t3.size≤t0.size by have:=QJ.out.1;have:=Mj.out.1;omega)
       clear zt3 Kx PY Yd Vf MQ MV rQ CW2 CW3 Ve zt2b TI
       go_wp2_with fail
       rw[Ey.out.2,Ey.out.1]
       go_loopw [0] (fun v0 wx=>∃ (B:Option Addr) (u:ByteArray),v0=.slice B u.size u.size∧SB H B u∧Lib.validD u.data.toList=ANS∧u.size≤t3.size∧Below w.heap.size w wx) (fun v0 _=>lI v0)
       case atStart=>exact⟨_,t3,rfl,sbt3,V3.out,Nat.le_refl _,oY⟩
       case round =>
       clear sbt3 oY xy
       obtain⟨BU,u,rfl,sbu,Ge,Bf,oY⟩:=hrel
       have VU:=Lib.hid Ge
       clear Ge
       have xy:=hH.below oY (Nat.le_refl _)
       by_cases c32:32<u.size
       ·have c32z:(32:Int)<(u.size:Int):=by omega
        have c32y:(32:Int)≤(u.size:Int):=by omega
        have s8u:(8:Int)≤(u.size:Int):=by omega
        have s16u:(16:Int)≤(u.size:Int):=by omega
        have s24u:(24:Int)≤(u.size:Int):=by omega
        have n8u:(u.size=8)=False:=eq_false (by omega)
        have n16u:(u.size=16)=False:=eq_false (by omega)
        have n24u:(u.size=24)=False:=eq_false (by omega)
        obtain⟨bu,ou,rfl,Yv⟩:=sbu (by omega)
        obtain⟨ub,L0⟩:∃ ub,u.extract 8 u.size=ub:=⟨_,rfl⟩
        have zub:u.size-8=ub.size:=by rw[← L0,Lib.ext_size]
        have sbub:=SB.skipc Yv 8 (by omega)
        rw[L0,if_neg (by omega)]at sbub
        obtain⟨oub,TJ⟩:∃ o,ou+8=o:=⟨_,rfl⟩
        rw[TJ]at sbub
        obtain⟨uc,L1⟩:∃ uc,u.extract 16 u.size=uc:=⟨_,rfl⟩
        have zuc:u.size-16=uc.size:=by rw[← L1,Lib.ext_size]
        have sbuc:=SB.skipc Yv 16 (by omega)
        rw[L1,if_neg (by omega)]at sbuc
        obtain⟨ouc,TK⟩:∃ o,ou+16=o:=⟨_,rfl⟩
        rw[TK]at sbuc
        obtain⟨ud,L3⟩:∃ ud,u.extract 24 u.size=ud:=⟨_,rfl⟩
        have zud:u.size-24=ud.size:=by rw[← L3,Lib.ext_size]
        have sbud:=SB.skipc Yv 24 (by omega)
        rw[L3,if_neg (by omega)]at sbud
        obtain⟨oud,TL⟩:∃ o,ou+24=o:=⟨_,rfl⟩
        rw[TL]at sbud
        obtain⟨A4,KV⟩:∃ A4,Lib.leNat [u.get! 0,u.get! 1,u.get! 2,u.get! 3,u.get! 4,u.get! 5,u.get! 6,u.get! 7]=A4:=⟨_,rfl⟩
        have lA4:A4<18446744073709551616:=KV ▸ Lib.word_lt u
        have cW4:∀ (c:Nat) (W:World),Holds W H→Calls Tryz.prog 187 #[.slice (some ⟨bu,ou,none⟩) u.size c] W fun e w'=>e=.returned (.int .u64 (A4:Int))∧∃ q,w'=W.drewN q:=fun c W h=>by rw[← KV];exact tf (fun _=>⟨bu,ou,rfl,Yv⟩) (by omega) c W h
        have CW4:=Lib.hid cW4
        have kA4:=Lib.word_asc u (by omega)
        rw[KV]at kA4
        clear cW4 KV
        obtain⟨A5,KX⟩:∃ A5,Lib.leNat [ub.get! 0,ub.get! 1,ub.get! 2,ub.get! 3,ub.get! 4,ub.get! 5,ub.get! 6,ub.get! 7]=A5:=⟨_,rfl⟩
        have lA5:A5<18446744073709551616:=KX ▸ Lib.word_lt ub
        have cW5:∀ (c:Nat) (W:World),Holds W H→Calls Tryz.prog 187 #[.slice (some ⟨bu,ou+8,none⟩) (u.size-8) c] W fun e w'=>e=.returned (.int .u64 (A5:Int))∧∃ q,w'=W.drewN q:=fun c W h=>by rw[← KX,zub,TJ];exact tf sbub (by omega) c W h
        have CW5:=Lib.hid cW5
        have kA5:=Lib.word_asc ub (by omega)
        rw[KX]at kA5
        clear cW5 KX
        obtain⟨A6,KY⟩:∃ A6,Lib.leNat [uc.get! 0,uc.get! 1,uc.get! 2,uc.get! 3,uc.get! 4,uc.get! 5,uc.get! 6,uc.get! 7]=A6:=⟨_,rfl⟩
        have lA6:A6<18446744073709551616:=KY ▸ Lib.word_lt uc
        have cW6:∀ (c:Nat) (W:World),Holds W H→Calls Tryz.prog 187 #[.slice (some ⟨bu,ou+16,none⟩) (u.size-16) c] W fun e w'=>e=.returned (.int .u64 (A6:Int))∧∃ q,w'=W.drewN q:=fun c W h=>by rw[← KY,zuc,TK];exact tf sbuc (by omega) c W h
        have CW6:=Lib.hid cW6
        have kA6:=Lib.word_asc uc (by omega)
        rw[KY]at kA6
        clear cW6 KY
        obtain⟨A7,QM⟩:∃ A7,Lib.leNat [ud.get! 0,ud.get! 1,ud.get! 2,ud.get! 3,ud.get! 4,ud.get! 5,ud.get! 6,ud.get! 7]=A7:=⟨_,rfl⟩
        have lA7:A7<18446744073709551616:=QM ▸ Lib.word_lt ud
        have cW7:∀ (c:Nat) (W:World),Holds W H→Calls Tryz.prog 187 #[.slice (some ⟨bu,ou+24,none⟩) (u.size-24) c] W fun e w'=>e=.returned (.int .u64 (A7:Int))∧∃ q,w'=W.drewN q:=fun c W h=>by rw[← QM,zud,TL];exact tf sbud (by omega) c W h
        have CW7:=Lib.hid cW7
        have kA7:=Lib.word_asc ud (by omega)
        rw[QM]at kA7
        clear cW7 QM
        have Wv:bits .or .u64 (A4:Int) (A5:Int)=((A4 ||| A5:Nat):Int):=u64_or_nat A4 A5 lA4 lA5
        have cE:bits .or .u64 (A6:Int) (A7:Int)=((A6 ||| A7:Nat):Int):=u64_or_nat A6 A7 lA6 lA7
        have lo1:A4 ||| A5<18446744073709551616:=Nat.or_lt_two_pow (n:=64) lA4 lA5
        have lo2:A6 ||| A7<18446744073709551616:=Nat.or_lt_two_pow (n:=64) lA6 lA7
        have Ji:bits .or .u64 ((A4 ||| A5:Nat):Int) ((A6 ||| A7:Nat):Int)=(((A4 ||| A5) ||| (A6 ||| A7):Nat):Int):=u64_or_nat _ _ lo1 lo2
        have lo3:(A4 ||| A5) ||| (A6 ||| A7)<18446744073709551616:=Nat.or_lt_two_pow (n:=64) lo1 lo2
        have ZY:bits .and .u64 (((A4 ||| A5) ||| (A6 ||| A7):Nat):Int) 9259542123273814144=((((A4 ||| A5) ||| (A6 ||| A7)) &&& 9259542123273814144:Nat):Int):=u64_and_nat _ 9259542123273814144 lo3 (by omega)
        have k3:((A4 ||| A5) ||| (A6 ||| A7)) &&& 9259542123273814144=0→Lib.Asc u 32:=fun h0'=>by
         obtain⟨e01,e23⟩:=(Lib.or_mask _ _ _).1 h0'
         obtain⟨e0,e1⟩:=(Lib.or_mask _ _ _).1 e01
         obtain⟨e2,e3⟩:=(Lib.or_mask _ _ _).1 e23
         have s16:Lib.Asc u 16:=Lib.asc_add u 8 8 (kA4.1 e0) (by rw[L0];exact kA5.1 e1)
         have s24:Lib.Asc u 24:=Lib.asc_add u 16 8 s16 (by rw[L1];exact kA6.1 e2)
         exact Lib.asc_add u 24 8 s24 (by rw[L3];exact kA7.1 e3)
        obtain⟨P1,JD⟩:∃ P1,A4 ||| A5=P1:=⟨_,rfl⟩
        obtain⟨P2,QP⟩:∃ P2,A6 ||| A7=P2:=⟨_,rfl⟩
        rw[JD,QP]at Ji ZY k3
        rw[JD]at Wv
        rw[QP]at cE
        obtain⟨P3,Fm⟩:∃ P3,P1 ||| P2=P3:=⟨_,rfl⟩
        rw[Fm]at Ji ZY k3
        obtain⟨Z3,Fy⟩:∃ Z3,P3 &&& 9259542123273814144=Z3:=⟨_,rfl⟩
        rw[Fy]at ZY k3
        have K3:=Lib.hid k3
        have EY:=Lib.hid Yv
        clear kA4 kA5 kA6 kA7 lo1 lo2 lo3 JD QP Fm Fy k3 L0 sbub L1 sbuc L3 sbud lA4 lA5 lA6 lA7 Yv sbu
        obtain⟨zz3,MW⟩:∃ zz,((Z3:Int)==0)=zz:=⟨_,rfl⟩
        have Cz:=Lib.hid MW
        go_upto_region 10 with fail
        go_cut [0,69] (fun s0 s69 wx=>s0=.slice (some ⟨bu,ou,none⟩) u.size u.size∧s69=.bool zz3∧Below w.heap.size w wx)
        case first =>
         clear zub zuc zud TJ TK TL
         have Yq:=xy
         have pw:=oY
         refine zw 21 (fun _=>True) (by kernel_rfl) (trivial) (fun zy=>?_)
         refine Ways.takeS (i:=0) (v:=?_) rfl (by kernel_rfl) (fun _ _ _ h=>h) (Or.inl ⟨by rfl, ?_⟩) zy ?_
         rotate_left
         ·(intro w uu;(try dsimp only at uu);go_simp;try with_reducible rfl)
         try simp only[Act.put,getElem_toArray,getElem_cons_zero,getElem_cons_succ,setIfInBounds_toArray,set_cons_zero,set_cons_succ]
         refine Ways.takeS (i:=1) (v:=?_) rfl (by kernel_rfl) (fun _ _ _ h=>h) (Or.inl ⟨by rfl, ?_⟩) zy ?_
         rotate_left
         ·(intro w uu;(try dsimp only at uu);go_simp;try with_reducible rfl)
         try simp only[Act.put,getElem_toArray,getElem_cons_zero,getElem_cons_succ,setIfInBounds_toArray,set_cons_zero,set_cons_succ]
         refine Ways.takeS (i:=2) (v:=?_) rfl (by kernel_rfl) (fun _ _ _ h=>h) (Or.inl ⟨by rfl, ?_⟩) zy ?_
         rotate_left
         ·(intro w uu;(try dsimp only at uu);go_simp;try with_reducible rfl)
         try simp only[Act.put,getElem_toArray,getElem_cons_zero,getElem_cons_succ,setIfInBounds_toArray,set_cons_zero,set_cons_succ]
         refine Ways.takeS (i:=3) (v:=?_) rfl (by kernel_rfl) (fun _ _ _ h=>h) (Or.inl ⟨by rfl, ?_⟩) zy ?_
         rotate_left
         ·(intro w uu;(try dsimp only at uu);go_simp;try with_reducible rfl)
         try simp only[Act.put,getElem_toArray,getElem_cons_zero,getElem_cons_succ,setIfInBounds_toArray,set_cons_zero,set_cons_succ]
         refine Ways.takeS (i:=4) (v:=?_) rfl (by kernel_rfl) (fun _ _ _ h=>h) (Or.inl ⟨?_, ?_⟩) zy ?_
         rotate_left
         ·kernel_rfl
         ·(intro w uu;(try dsimp only at uu);go_simp;try with_reducible rfl)
         try simp only[Act.put,getElem_toArray,getElem_cons_zero,getElem_cons_succ,setIfInBounds_toArray,set_cons_zero,set_cons_succ]
         refine Ways.takeS (i:=6) (v:=?_) rfl (by kernel_rfl) (fun _ _ _ h=>h) (Or.inl ⟨?_, ?_⟩) zy ?_
         rotate_left
         ·kernel_rfl
         ·(intro w uu;(try dsimp only at uu);go_simp;try with_reducible rfl)
         try simp only[Act.put,getElem_toArray,getElem_cons_zero,getElem_cons_succ,setIfInBounds_toArray,set_cons_zero,set_cons_succ]
         refine Ways.takeS (i:=7) (v:=?_) rfl (by kernel_rfl) (fun _ _ _ h=>h) (Or.inl ⟨?_, ?_⟩) zy ?_
         rotate_left
         ·kernel_rfl
         ·(intro w uu;(try dsimp only at uu);go_simp;try with_reducible rfl)
         try simp only[Act.put,getElem_toArray,getElem_cons_zero,getElem_cons_succ,setIfInBounds_toArray,set_cons_zero,set_cons_succ]
         refine Ways.takeS (i:=10) (v:=?_) rfl (by kernel_rfl) (fun _ _ _ h=>h) (Or.inl ⟨?_, ?_⟩) zy ?_
         rotate_left
         ·kernel_rfl
         ·(intro w uu;(try dsimp only at uu);go_simp;try with_reducible rfl)
         try simp only[Act.put,getElem_toArray,getElem_cons_zero,getElem_cons_succ,setIfInBounds_toArray,set_cons_zero,set_cons_succ]
         refine Ways.takeS (i:=11) (v:=?_) rfl (by kernel_rfl) (fun _ _ _ h=>h) (Or.inl ⟨?_, ?_⟩) zy ?_
         rotate_left
         ·kernel_rfl
         ·(intro w uu;(try dsimp only at uu);go_simp;try with_reducible rfl)
         try simp only[Act.put,getElem_toArray,getElem_cons_zero,getElem_cons_succ,setIfInBounds_toArray,set_cons_zero,set_cons_succ]
         refine Ways.takeS (i:=13) (v:=?_) rfl (by kernel_rfl) (fun _ _ _ h=>h) (Or.inl ⟨?_, ?_⟩) zy ?_
         rotate_left
         ·kernel_rfl
         ·(intro w uu;(try dsimp only at uu);go_simp;try with_reducible rfl)
         try simp only[Act.put,getElem_toArray,getElem_cons_zero,getElem_cons_succ,setIfInBounds_toArray,set_cons_zero,set_cons_succ]
         refine Ways.takeS (i:=14) (v:=?_) rfl (by kernel_rfl) (fun _ _ _ h=>h) (Or.inl ⟨?_, ?_⟩) zy ?_
         rotate_left
         ·kernel_rfl
         ·(intro w uu;(try dsimp only at uu);go_simp;try with_reducible rfl)
         try simp only[Act.put,getElem_toArray,getElem_cons_zero,getElem_cons_succ,setIfInBounds_toArray,set_cons_zero,set_cons_succ]
         refine Ways.one (i:=5) rfl (by kernel_rfl) (fun K hK=>?_)
         go_simp
         refine(CW4.out _ _ (by repeat (first | exact Yq | exact Yq.drew | refine Holds.drewN ?_ _))).mono ?_
         rintro e w5 ⟨rfl,q5,rfl⟩
         refine hK.out _ _ (fun _=>?_) (fun zy=>?_)
         ·exact trivial
         clear hK K
         have zy:=zy (by decide)
         try simp only[Act.put,getElem_toArray,getElem_cons_zero,getElem_cons_succ,setIfInBounds_toArray,set_cons_zero,set_cons_succ]
         refine Ways.one (i:=8) rfl (by kernel_rfl) (fun K hK=>?_)
         go_simp
         refine(CW5.out _ _ (by repeat (first | exact Yq | exact Yq.drew | refine Holds.drewN ?_ _))).mono ?_
         rintro e w5 ⟨rfl,q5,rfl⟩
         refine hK.out _ _ (fun _=>?_) (fun zy=>?_)
         ·exact trivial
         clear hK K
         have zy:=zy (by decide)
         try simp only[Act.put,getElem_toArray,getElem_cons_zero,getElem_cons_succ,setIfInBounds_toArray,set_cons_zero,set_cons_succ]
         refine Ways.takeS (i:=9) (v:=?_) rfl (by kernel_rfl) (fun _ _ _ h=>h) (Or.inl ⟨?_, ?_⟩) zy ?_
         rotate_left
         ·kernel_rfl
         ·(intro w uu;(try dsimp only at uu);go_simp;try with_reducible rfl)
         try simp only[Act.put,getElem_toArray,getElem_cons_zero,getElem_cons_succ,setIfInBounds_toArray,set_cons_zero,set_cons_succ]
         refine Ways.one (i:=12) rfl (by kernel_rfl) (fun K hK=>?_)
         go_simp
         refine(CW6.out _ _ (by repeat (first | exact Yq | exact Yq.drew | refine Holds.drewN ?_ _))).mono ?_
         rintro e w5 ⟨rfl,q5,rfl⟩
         refine hK.out _ _ (fun _=>?_) (fun zy=>?_)
         ·exact trivial
         clear hK K
         have zy:=zy (by decide)
         try simp only[Act.put,getElem_toArray,getElem_cons_zero,getElem_cons_succ,setIfInBounds_toArray,set_cons_zero,set_cons_succ]
         refine Ways.one (i:=15) rfl (by kernel_rfl) (fun K hK=>?_)
         go_simp
         refine(CW7.out _ _ (by repeat (first | exact Yq | exact Yq.drew | refine Holds.drewN ?_ _))).mono ?_
         rintro e w5 ⟨rfl,q5,rfl⟩
         refine hK.out _ _ (fun _=>?_) (fun zy=>?_)
         ·exact trivial
         clear hK K
         have zy:=zy (by decide)
         try simp only[Act.put,getElem_toArray,getElem_cons_zero,getElem_cons_succ,setIfInBounds_toArray,set_cons_zero,set_cons_succ]
         refine Ways.takeS (i:=16) (v:=?_) rfl (by kernel_rfl) (fun _ _ _ h=>h) (Or.inl ⟨?_, ?_⟩) zy ?_
         rotate_left
         ·kernel_rfl
         ·(intro w uu;(try dsimp only at uu);go_simp;try with_reducible rfl)
         try simp only[Act.put,getElem_toArray,getElem_cons_zero,getElem_cons_succ,setIfInBounds_toArray,set_cons_zero,set_cons_succ]
         refine Ways.takeS (i:=17) (v:=?_) rfl (by kernel_rfl) (fun _ _ _ h=>h) (Or.inl ⟨?_, ?_⟩) zy ?_
         rotate_left
         ·kernel_rfl
         ·(intro w uu;(try dsimp only at uu);go_simp;try with_reducible rfl)
         try simp only[Act.put,getElem_toArray,getElem_cons_zero,getElem_cons_succ,setIfInBounds_toArray,set_cons_zero,set_cons_succ]
         refine Ways.takeS (i:=18) (v:=?_) rfl (by kernel_rfl) (fun _ _ _ h=>h) (Or.inl ⟨?_, ?_⟩) zy ?_
         rotate_left
         ·kernel_rfl
         ·(intro w uu;(try dsimp only at uu);go_simp;try with_reducible rfl)
         try simp only[Act.put,getElem_toArray,getElem_cons_zero,getElem_cons_succ,setIfInBounds_toArray,set_cons_zero,set_cons_succ]
         refine Ways.takeS (i:=19) (v:=?_) rfl (by kernel_rfl) (fun _ _ _ h=>h) (Or.inl ⟨?_, ?_⟩) zy ?_
         rotate_left
         ·kernel_rfl
         ·(intro w uu;(try dsimp only at uu);go_simp;try with_reducible rfl)
         try simp only[Act.put,getElem_toArray,getElem_cons_zero,getElem_cons_succ,setIfInBounds_toArray,set_cons_zero,set_cons_succ]
         refine Ways.takeS (i:=20) (v:=?_) rfl (by kernel_rfl) (fun _ _ _ h=>h) (Or.inl ⟨by rfl, ?_⟩) zy ?_
         rotate_left
         ·(intro w uu;(try dsimp only at uu);go_simp;try with_reducible rfl)
         try simp only[Act.put,getElem_toArray,getElem_cons_zero,getElem_cons_succ,setIfInBounds_toArray,set_cons_zero,set_cons_succ]
         refine Ways.done (by kernel_rfl) ?_
         go_wp2_with fail
         go_meet
         exact⟨rfl,rfl,by repeat (first | exact pw | exact pw.drew | refine below_drewNv ?_ _)⟩
        case rest =>
        clear oY xy
        obtain⟨rfl,rfl,oY⟩:=hcut
        cases zz3 with
        | true =>
         have Jw:Z3=0:=by have:=Cz.out;simpa using this
         have Yv:=EY.out
         obtain⟨u2,Qn⟩:∃ u2,u.extract 32 u.size=u2:=⟨_,rfl⟩
         have zu2:u.size-32=u2.size:=by rw[← Qn,Lib.ext_size]
         have sbu2:=SB.skipc Yv 32 (by omega)
         rw[Qn,if_neg (by omega)]at sbu2
         obtain⟨Bu2,PZ⟩:∃ B,some (⟨bu,ou+32,none⟩:Addr)=B:=⟨_,rfl⟩
         rw[PZ]at sbu2
         have VU2:Hid (Lib.validD u2.data.toList=ANS):=by rw[Hid,← Qn,Lib.valid_skip u 32 (K3.out Jw)];exact VU.out
         have Ez:=Lib.hid (And.intro zu2 PZ)
         have En:=Lib.hid (show u2.size<u.size∧u2.size≤t3.size by omega)
         clear zu2 Qn PZ Yv Jw MW ZY Wv cE Ji zub zuc zud TJ TK TL
         go_wp2_with fail
         rw[Ez.out.2,Ez.out.1]
         go_roundw
         case rel=>exact⟨_,u2,rfl,sbu2,VU2.out,En.out.2,oY⟩
         case measure=>have:=En.out.1;simp[lI];omega
        | false =>
        have OX:SB H (some ⟨bu,ou,none⟩) u:=fun _=>⟨bu,ou,rfl,EY.out⟩
        have g9:=Lib.hid (show u.size<t.size∧u.size≤t0.size by have:=uK.out;omega)
        go_wp2_with fail
        go_roundw
        case rel=>exact⟨_,u,rfl,OX,VU.out,g9.out.2,oY⟩
        case measure=>have:=g9.out.1;simp[lI];omega
       have c32z:¬ ((32:Int)<(u.size:Int)):=by omega
       have c32b:decide ((32:Int)<(u.size:Int))=false:=decide_eq_false c32z
       have g9:=Lib.hid (show u.size<t.size∧u.size≤t0.size by have:=uK.out;omega)
       go_upto_region 10 with fail
       go_big_quiet (fail)
       have oY:=below_drewNv oY nq
       go_wp2_with fail
       go_roundw
       case rel=>exact⟨_,u,rfl,sbu,VU.out,g9.out.2,oY⟩
       case measure=>have:=g9.out.1;simp[lI];omega
      | false =>
      have OX:SB H (some ⟨b2,off2,none⟩) t2:=fun _=>⟨b2,off2,rfl,LY.out⟩
      have uK:=Lib.hid (show t2.size<t.size∧t2.size≤t0.size by have:=QJ.out.1;have:=Mj.out.1;omega)
      go_wp2_with fail
      go_roundw
      case rel=>exact⟨_,t2,rfl,OX,V2.out,uK.out.2,oY⟩
      case measure=>have:=uK.out.1;simp[lI];omega
     have c16z:¬ ((16:Int)<(t2.size:Int)):=by omega
     have c16b:decide ((16:Int)<(t2.size:Int))=false:=decide_eq_false c16z
     have uK:=Lib.hid (show t2.size<t.size∧t2.size≤t0.size by have:=QJ.out.1;have:=Mj.out.1;omega)
     go_big_quiet (fail)
     have oY:=below_drewNv oY nq
     go_wp2_with fail
     go_roundw
     case rel=>exact⟨_,t2,rfl,sbt2,V2.out,uK.out.2,oY⟩
     case measure=>have:=uK.out.1;simp[lI];omega
    have MU:((Z1:Int)==0)=false:=by simp;omega
    have uK:=Lib.hid (show t1.size<t.size∧t1.size≤t0.size by have:=QJ.out.1;omega)
    go_wp2_with (go_at_call 187;refine zM ?_)
    unfold zD
    refine(CW1.out _ _ yG).mono ?_
    rintro e w5 ⟨rfl,q5,rfl⟩
    have oY:=below_drewNv qC q5
    go_wp2_with fail
    go_roundw
    case rel=>exact⟨_,t1,rfl,Ld.out,V1.out,uK.out.2,oY⟩
    case measure=>have:=uK.out.1;simp[lI];omega
   have c8z:¬ ((8:Int)<(t1.size:Int)):=by omega
   have uK:=Lib.hid (show t1.size<t.size∧t1.size≤t0.size by have:=QJ.out.1;omega)
   go_wp2_with fail
   go_roundw
   case rel=>exact⟨_,t1,rfl,sbt1,V1.out,uK.out.2,qC⟩
   case measure=>have:=uK.out.1;simp[lI];omega
  have et:128≤x0.toNat:=by omega
  have LF:¬ ((x0.toNat:Int)<128):=by omega
  obtain⟨x1,gF⟩:∃ x1,t.get! 1=x1:=⟨_,rfl⟩
  obtain⟨x2,cJ⟩:∃ x2,t.get! 2=x2:=⟨_,rfl⟩
  obtain⟨x3,Z7⟩:∃ x3,t.get! 3=x3:=⟨_,rfl⟩
  have l1:=x1.toNat_lt;have l2:=x2.toNat_lt;have l3:=x3.toNat_lt
  have wS:t.data.toList≠[]:=fun h=>by rw[Lib.size_eq,h]at h0;simp at h0
  have xj:=Lib.validD_lead t.data.toList wS (by rw[Lib.getD_get!',Rf];exact et)
  rw[Lib.getD_get!',Lib.getD_get!',Lib.getD_get!',Lib.getD_get!',Rf,gF,cJ,Z7,← Lib.size_eq,HV.out]at xj
  have rm:=hT wr yG
  have tB:=rm.1 x0.toNat (by omega)
  have Lu:Lib.firstT x0.toNat<256:=by rcases Lib.firstT_cases x0.toNat with h | h | h | h | h | h | h | h | h <;> omega
  obtain⟨X,hX⟩:∃ X,Lib.firstT x0.toNat=X:=⟨_,rfl⟩
  rw[hX]at tB Lu xj
  have h7:=and7 ⟨X,Lu⟩
  simp only at h7
  have es:wr.cell? ⟨1,X/16*2,none⟩=some (.int .u8 (Lib.accLo (X/16))):=by rw[Nat.mul_comm];exact(rm.2 (X/16) (by omega)).1
  have OD:wr.cell? ⟨1,X/16*2+1,none⟩=some (.int .u8 (Lib.accHi (X/16))):=by rw[Nat.mul_comm];exact(rm.2 (X/16) (by omega)).2
  obtain⟨LO,Fg⟩:∃ LO,Lib.accLo (X/16)=LO:=⟨_,rfl⟩
  obtain⟨HI,FW⟩:∃ HI,Lib.accHi (X/16)=HI:=⟨_,rfl⟩
  rw[Fg]at es xj
  rw[FW]at OD xj
  obtain⟨SZ,DX⟩:∃ SZ,X%8=SZ:=⟨_,rfl⟩
  rw[DX]at xj
  have Tu:=Blk.new wr 117 #[.int .u8 (LO:Int),.int .u8 (HI:Int)]
  have iz:=qC.alloc qC.size (.cells #[.int .u8 (LO:Int),.int .u8 (HI:Int)] 117)
  have Tb:=yG.alloc (.cells #[.int .u8 (LO:Int),.int .u8 (HI:Int)] 117)
  obtain⟨N,hN⟩:∃ N,wr.heap.size=N:=⟨_,rfl⟩
  rw[hN]at Tu
  clear rm hX Fg FW wS Yz f8
  by_cases s2:SZ=2
  ·as_aux_lemma =>
   subst s2
   have Lt:(X:Int)%8=2:=by omega
   simp only[Lib.checkN,Nat.reduceEqDiff,if_true,if_false]at xj
   have cL:=Lib.hid xj
   clear xj
   go_upto_region 18 with fail
   generalize wr.alloc (.cells #[.int .u8 (LO:Int),.int .u8 (HI:Int)] 117)=wN at Tu iz Tb⊢
   have n0:=Tu.cell 0 rfl
   have n1:=Tu.cell 1 rfl
   go_cut [103] (fun cc wx=>cc=.bool (decide (t.size<2∨x1.toNat<LO∨HI<x1.toNat))∧Below w.heap.size w wx)
   case first =>
    by_cases q0:t.size<2
    ·have q0z:(t.size:Int)<2:=by omega
     go_big_quiet (fail)
     go_wp2_with fail
     go_meet
     exact⟨congrArg Value.bool (decide_eq_true (p:=t.size<2∨x1.toNat<LO∨HI<x1.toNat) (by omega)).symm,below_drewNv iz nq⟩
    have q0z:¬ ((t.size:Int)<2):=by omega
    have q0b:decide ((t.size:Int)<2)=false:=decide_eq_false q0z
    have rp:(1:Int)<(t.size:Int):=by omega
    have ir:1<t.size:=by omega
    have d1:wN.cell? ⟨b,off+1,none⟩=some (.int .u8 (x1.toNat:Int)):=by rw[← gF];exact Tb.cell (WF.out 1 (by omega))
    by_cases q1:x1.toNat<LO
    ·have q1z:((x1.toNat:Int)<(LO:Int)):=by omega
     go_big_quiet (fail)
     go_wp2_with fail
     go_meet
     exact⟨congrArg Value.bool (decide_eq_true (p:=t.size<2∨x1.toNat<LO∨HI<x1.toNat) (by omega)).symm,below_drewNv iz nq⟩
    have q1z:¬ ((x1.toNat:Int)<(LO:Int)):=by omega
    have q1b:decide ((x1.toNat:Int)<(LO:Int))=false:=decide_eq_false q1z
    by_cases q2:HI<x1.toNat
    ·have q2z:((HI:Int)<(x1.toNat:Int)):=by omega
     go_big_quiet (fail)
     go_wp2_with fail
     go_meet
     exact⟨congrArg Value.bool (decide_eq_true (p:=t.size<2∨x1.toNat<LO∨HI<x1.toNat) (by omega)).symm,below_drewNv iz nq⟩
    have q2z:¬ ((HI:Int)<(x1.toNat:Int)):=by omega
    have q2b:decide ((HI:Int)<(x1.toNat:Int))=false:=decide_eq_false q2z
    go_big_quiet (fail)
    go_wp2_with fail
    go_meet
    exact⟨congrArg Value.bool (decide_eq_false (p:=t.size<2∨x1.toNat<LO∨HI<x1.toNat) (by omega)).symm,below_drewNv iz nq⟩
   case rest =>
   obtain⟨rfl,oY⟩:=hcut
   by_cases hb:t.size<2∨x1.toNat<LO∨HI<x1.toNat
   ·have uV:decide (t.size<2∨x1.toNat<LO∨HI<x1.toNat)=true:=decide_eq_true hb
    have xj:=cL.out
    rw[if_pos hb]at xj
    rw[uV]
    clear hb uV cL n0 n1
    go_wp2_with fail
    go_ret
    exact⟨by first | rfl | rw[xj],oY⟩
   have uV:decide (t.size<2∨x1.toNat<LO∨HI<x1.toNat)=false:=decide_eq_false hb
   have xj:=cL.out
   rw[if_neg hb]at xj
   rw[uV]
   have yx:(2:Int)≤(t.size:Int):=by omega
   have f8:=WF.out
   obtain⟨t1,iD⟩:∃ t1,t.extract 2 t.size=t1:=⟨_,rfl⟩
   have zt1:t.size-2=t1.size:=by rw[← iD,Lib.ext_size]
   have sbt1:=SB.skipc f8 2 (by omega)
   rw[iD]at sbt1
   obtain⟨Bt1,oI⟩:∃ B,(if t.size=2 then some (⟨b,off,none⟩:Addr) else some ⟨b,off+2,none⟩)=B:=⟨_,rfl⟩
   rw[oI]at sbt1
   have HE:=Lib.hid (And.intro zt1 oI)
   have TU:=Lib.hid (show Lib.validD t1.data.toList=ANS by rw[← iD,Lib.ext_list,xj])
   have uK:=Lib.hid (show t1.size<t.size∧t1.size≤t0.size by omega)
   clear hb uV cL xj zt1 oI iD f8 n0 n1
   go_wp2_with fail
   go_roundw
   case rel=>exact⟨Bt1,t1,by rw[HE.out.1,HE.out.2],sbt1,TU.out,uK.out.2,oY⟩
   case measure=>have:=uK.out.1;have:=HE.out.1;simp[lI];omega
  by_cases s3:SZ=3
  ·as_aux_lemma =>
   subst s3
   have Lt:(X:Int)%8=3:=by omega
   simp only[Lib.checkN,Nat.reduceEqDiff,if_true,if_false]at xj
   have cL:=Lib.hid xj
   clear xj
   go_upto_region 22 with fail
   generalize wr.alloc (.cells #[.int .u8 (LO:Int),.int .u8 (HI:Int)] 117)=wN at Tu iz Tb⊢
   have n0:=Tu.cell 0 rfl
   have n1:=Tu.cell 1 rfl
   go_cut [138] (fun cc wx=>cc=.bool (decide (t.size<3∨x1.toNat<LO∨HI<x1.toNat∨x2.toNat<128∨191<x2.toNat))∧Below w.heap.size w wx)
   case first =>
    by_cases q0:t.size<3
    ·have q0z:(t.size:Int)<3:=by omega
     go_big_quiet (fail)
     go_wp2_with fail
     go_meet
     exact⟨congrArg Value.bool (decide_eq_true (p:=t.size<3∨x1.toNat<LO∨HI<x1.toNat∨x2.toNat<128∨191<x2.toNat) (by omega)).symm,below_drewNv iz nq⟩
    have q0z:¬ ((t.size:Int)<3):=by omega
    have q0b:decide ((t.size:Int)<3)=false:=decide_eq_false q0z
    have rp:(1:Int)<(t.size:Int):=by omega
    have ir:1<t.size:=by omega
    have d1:wN.cell? ⟨b,off+1,none⟩=some (.int .u8 (x1.toNat:Int)):=by rw[← gF];exact Tb.cell (WF.out 1 (by omega))
    have rQ:(2:Int)<(t.size:Int):=by omega
    have Qi:2<t.size:=by omega
    have d2:wN.cell? ⟨b,off+2,none⟩=some (.int .u8 (x2.toNat:Int)):=by rw[← cJ];exact Tb.cell (WF.out 2 (by omega))
    by_cases q1:x1.toNat<LO
    ·have q1z:((x1.toNat:Int)<(LO:Int)):=by omega
     go_big_quiet (fail)
     go_wp2_with fail
     go_meet
     exact⟨congrArg Value.bool (decide_eq_true (p:=t.size<3∨x1.toNat<LO∨HI<x1.toNat∨x2.toNat<128∨191<x2.toNat) (by omega)).symm,below_drewNv iz nq⟩
    have q1z:¬ ((x1.toNat:Int)<(LO:Int)):=by omega
    have q1b:decide ((x1.toNat:Int)<(LO:Int))=false:=decide_eq_false q1z
    by_cases q2:HI<x1.toNat
    ·have q2z:((HI:Int)<(x1.toNat:Int)):=by omega
     go_big_quiet (fail)
     go_wp2_with fail
     go_meet
     exact⟨congrArg Value.bool (decide_eq_true (p:=t.size<3∨x1.toNat<LO∨HI<x1.toNat∨x2.toNat<128∨191<x2.toNat) (by omega)).symm,below_drewNv iz nq⟩
    have q2z:¬ ((HI:Int)<(x1.toNat:Int)):=by omega
    have q2b:decide ((HI:Int)<(x1.toNat:Int))=false:=decide_eq_false q2z
    by_cases q3:x2.toNat<128
    ·have q3z:((x2.toNat:Int)<128):=by omega
     go_big_quiet (fail)
     go_wp2_with fail
     go_meet
     exact⟨congrArg Value.bool (decide_eq_true (p:=t.size<3∨x1.toNat<LO∨HI<x1.toNat∨x2.toNat<128∨191<x2.toNat) (by omega)).symm,below_drewNv iz nq⟩
    have q3z:¬ ((x2.toNat:Int)<128):=by omega
    have q3b:decide ((x2.toNat:Int)<128)=false:=decide_eq_false q3z
    by_cases q4:191<x2.toNat
    ·have q4z:((191:Int)<(x2.toNat:Int)):=by omega
     go_big_quiet (fail)
     go_wp2_with fail
     go_meet
     exact⟨congrArg Value.bool (decide_eq_true (p:=t.size<3∨x1.toNat<LO∨HI<x1.toNat∨x2.toNat<128∨191<x2.toNat) (by omega)).symm,below_drewNv iz nq⟩
    have q4z:¬ ((191:Int)<(x2.toNat:Int)):=by omega
    have q4b:decide ((191:Int)<(x2.toNat:Int))=false:=decide_eq_false q4z
    go_big_quiet (fail)
    go_wp2_with fail
    go_meet
    exact⟨congrArg Value.bool (decide_eq_false (p:=t.size<3∨x1.toNat<LO∨HI<x1.toNat∨x2.toNat<128∨191<x2.toNat) (by omega)).symm,below_drewNv iz nq⟩
   case rest =>
   obtain⟨rfl,oY⟩:=hcut
   by_cases hb:t.size<3∨x1.toNat<LO∨HI<x1.toNat∨x2.toNat<128∨191<x2.toNat
   ·have uV:decide (t.size<3∨x1.toNat<LO∨HI<x1.toNat∨x2.toNat<128∨191<x2.toNat)=true:=decide_eq_true hb
    have xj:=cL.out
    rw[if_pos hb]at xj
    rw[uV]
    clear hb uV cL n0 n1
    go_wp2_with fail
    go_ret
    exact⟨by first | rfl | rw[xj],oY⟩
   have uV:decide (t.size<3∨x1.toNat<LO∨HI<x1.toNat∨x2.toNat<128∨191<x2.toNat)=false:=decide_eq_false hb
   have xj:=cL.out
   rw[if_neg hb]at xj
   rw[uV]
   have yx:(3:Int)≤(t.size:Int):=by omega
   have f8:=WF.out
   obtain⟨t1,iD⟩:∃ t1,t.extract 3 t.size=t1:=⟨_,rfl⟩
   have zt1:t.size-3=t1.size:=by rw[← iD,Lib.ext_size]
   have sbt1:=SB.skipc f8 3 (by omega)
   rw[iD]at sbt1
   obtain⟨Bt1,oI⟩:∃ B,(if t.size=3 then some (⟨b,off,none⟩:Addr) else some ⟨b,off+3,none⟩)=B:=⟨_,rfl⟩
   rw[oI]at sbt1
   have HE:=Lib.hid (And.intro zt1 oI)
   have TU:=Lib.hid (show Lib.validD t1.data.toList=ANS by rw[← iD,Lib.ext_list,xj])
   have uK:=Lib.hid (show t1.size<t.size∧t1.size≤t0.size by omega)
   clear hb uV cL xj zt1 oI iD f8 n0 n1
   go_wp2_with fail
   go_roundw
   case rel=>exact⟨Bt1,t1,by rw[HE.out.1,HE.out.2],sbt1,TU.out,uK.out.2,oY⟩
   case measure=>have:=uK.out.1;have:=HE.out.1;simp[lI];omega
  by_cases s4:SZ=4
  ·as_aux_lemma =>
   subst s4
   have Lt:(X:Int)%8=4:=by omega
   simp only[Lib.checkN,Nat.reduceEqDiff,if_true,if_false]at xj
   have cL:=Lib.hid xj
   clear xj
   go_upto_region 26 with fail
   generalize wr.alloc (.cells #[.int .u8 (LO:Int),.int .u8 (HI:Int)] 117)=wN at Tu iz Tb⊢
   have n0:=Tu.cell 0 rfl
   have n1:=Tu.cell 1 rfl
   go_cut [185] (fun cc wx=>cc=.bool (decide (t.size<4∨x1.toNat<LO∨HI<x1.toNat∨x2.toNat<128∨191<x2.toNat∨x3.toNat<128∨191<x3.toNat))∧Below w.heap.size w wx)
   case first =>
    by_cases q0:t.size<4
    ·have q0z:(t.size:Int)<4:=by omega
     go_big_quiet (fail)
     go_wp2_with fail
     go_meet
     exact⟨congrArg Value.bool (decide_eq_true (p:=t.size<4∨x1.toNat<LO∨HI<x1.toNat∨x2.toNat<128∨191<x2.toNat∨x3.toNat<128∨191<x3.toNat) (by omega)).symm,below_drewNv iz nq⟩
    have q0z:¬ ((t.size:Int)<4):=by omega
    have q0b:decide ((t.size:Int)<4)=false:=decide_eq_false q0z
    have rp:(1:Int)<(t.size:Int):=by omega
    have ir:1<t.size:=by omega
    have d1:wN.cell? ⟨b,off+1,none⟩=some (.int .u8 (x1.toNat:Int)):=by rw[← gF];exact Tb.cell (WF.out 1 (by omega))
    have rQ:(2:Int)<(t.size:Int):=by omega
    have Qi:2<t.size:=by omega
    have d2:wN.cell? ⟨b,off+2,none⟩=some (.int .u8 (x2.toNat:Int)):=by rw[← cJ];exact Tb.cell (WF.out 2 (by omega))
    have Jw:(3:Int)<(t.size:Int):=by omega
    have Tq:3<t.size:=by omega
    have d3:wN.cell? ⟨b,off+3,none⟩=some (.int .u8 (x3.toNat:Int)):=by rw[← Z7];exact Tb.cell (WF.out 3 (by omega))
    by_cases q1:x1.toNat<LO
    ·have q1z:((x1.toNat:Int)<(LO:Int)):=by omega
     go_big_quiet (fail)
     go_wp2_with fail
     go_meet
     exact⟨congrArg Value.bool (decide_eq_true (p:=t.size<4∨x1.toNat<LO∨HI<x1.toNat∨x2.toNat<128∨191<x2.toNat∨x3.toNat<128∨191<x3.toNat) (by omega)).symm,below_drewNv iz nq⟩
    have q1z:¬ ((x1.toNat:Int)<(LO:Int)):=by omega
    have q1b:decide ((x1.toNat:Int)<(LO:Int))=false:=decide_eq_false q1z
    by_cases q2:HI<x1.toNat
    ·have q2z:((HI:Int)<(x1.toNat:Int)):=by omega
     go_big_quiet (fail)
     go_wp2_with fail
     go_meet
     exact⟨congrArg Value.bool (decide_eq_true (p:=t.size<4∨x1.toNat<LO∨HI<x1.toNat∨x2.toNat<128∨191<x2.toNat∨x3.toNat<128∨191<x3.toNat) (by omega)).symm,below_drewNv iz nq⟩
    have q2z:¬ ((HI:Int)<(x1.toNat:Int)):=by omega
    have q2b:decide ((HI:Int)<(x1.toNat:Int))=false:=decide_eq_false q2z
    by_cases q3:x2.toNat<128
    ·have q3z:((x2.toNat:Int)<128):=by omega
     go_big_quiet (fail)
     go_wp2_with fail
     go_meet
     exact⟨congrArg Value.bool (decide_eq_true (p:=t.size<4∨x1.toNat<LO∨HI<x1.toNat∨x2.toNat<128∨191<x2.toNat∨x3.toNat<128∨191<x3.toNat) (by omega)).symm,below_drewNv iz nq⟩
    have q3z:¬ ((x2.toNat:Int)<128):=by omega
    have q3b:decide ((x2.toNat:Int)<128)=false:=decide_eq_false q3z
    by_cases q4:191<x2.toNat
    ·have q4z:((191:Int)<(x2.toNat:Int)):=by omega
     go_big_quiet (fail)
     go_wp2_with fail
     go_meet
     exact⟨congrArg Value.bool (decide_eq_true (p:=t.size<4∨x1.toNat<LO∨HI<x1.toNat∨x2.toNat<128∨191<x2.toNat∨x3.toNat<128∨191<x3.toNat) (by omega)).symm,below_drewNv iz nq⟩
    have q4z:¬ ((191:Int)<(x2.toNat:Int)):=by omega
    have q4b:decide ((191:Int)<(x2.toNat:Int))=false:=decide_eq_false q4z
    by_cases q5:x3.toNat<128
    ·have q5z:((x3.toNat:Int)<128):=by omega
     go_big_quiet (fail)
     go_wp2_with fail
     go_meet
     exact⟨congrArg Value.bool (decide_eq_true (p:=t.size<4∨x1.toNat<LO∨HI<x1.toNat∨x2.toNat<128∨191<x2.toNat∨x3.toNat<128∨191<x3.toNat) (by omega)).symm,below_drewNv iz nq⟩
    have q5z:¬ ((x3.toNat:Int)<128):=by omega
    have q5b:decide ((x3.toNat:Int)<128)=false:=decide_eq_false q5z
    by_cases q6:191<x3.toNat
    ·have q6z:((191:Int)<(x3.toNat:Int)):=by omega
     go_big_quiet (fail)
     go_wp2_with fail
     go_meet
     exact⟨congrArg Value.bool (decide_eq_true (p:=t.size<4∨x1.toNat<LO∨HI<x1.toNat∨x2.toNat<128∨191<x2.toNat∨x3.toNat<128∨191<x3.toNat) (by omega)).symm,below_drewNv iz nq⟩
    have q6z:¬ ((191:Int)<(x3.toNat:Int)):=by omega
    have q6b:decide ((191:Int)<(x3.toNat:Int))=false:=decide_eq_false q6z
    go_big_quiet (fail)
    go_wp2_with fail
    go_meet
    exact⟨congrArg Value.bool (decide_eq_false (p:=t.size<4∨x1.toNat<LO∨HI<x1.toNat∨x2.toNat<128∨191<x2.toNat∨x3.toNat<128∨191<x3.toNat) (by omega)).symm,below_drewNv iz nq⟩
   case rest =>
   obtain⟨rfl,oY⟩:=hcut
   by_cases hb:t.size<4∨x1.toNat<LO∨HI<x1.toNat∨x2.toNat<128∨191<x2.toNat∨x3.toNat<128∨191<x3.toNat
   ·have uV:decide (t.size<4∨x1.toNat<LO∨HI<x1.toNat∨x2.toNat<128∨191<x2.toNat∨x3.toNat<128∨191<x3.toNat)=true:=decide_eq_true hb
    have xj:=cL.out
    rw[if_pos hb]at xj
    rw[uV]
    clear hb uV cL n0 n1
    go_wp2_with fail
    go_ret
    exact⟨by first | rfl | rw[xj],oY⟩
   have uV:decide (t.size<4∨x1.toNat<LO∨HI<x1.toNat∨x2.toNat<128∨191<x2.toNat∨x3.toNat<128∨191<x3.toNat)=false:=decide_eq_false hb
   have xj:=cL.out
   rw[if_neg hb]at xj
   rw[uV]
   have yx:(4:Int)≤(t.size:Int):=by omega
   have f8:=WF.out
   obtain⟨t1,iD⟩:∃ t1,t.extract 4 t.size=t1:=⟨_,rfl⟩
   have zt1:t.size-4=t1.size:=by rw[← iD,Lib.ext_size]
   have sbt1:=SB.skipc f8 4 (by omega)
   rw[iD]at sbt1
   obtain⟨Bt1,oI⟩:∃ B,(if t.size=4 then some (⟨b,off,none⟩:Addr) else some ⟨b,off+4,none⟩)=B:=⟨_,rfl⟩
   rw[oI]at sbt1
   have HE:=Lib.hid (And.intro zt1 oI)
   have TU:=Lib.hid (show Lib.validD t1.data.toList=ANS by rw[← iD,Lib.ext_list,xj])
   have uK:=Lib.hid (show t1.size<t.size∧t1.size≤t0.size by omega)
   clear hb uV cL xj zt1 oI iD f8 n0 n1
   go_wp2_with fail
   go_roundw
   case rel=>exact⟨Bt1,t1,by rw[HE.out.1,HE.out.2],sbt1,TU.out,uK.out.2,oY⟩
   case measure=>have:=uK.out.1;have:=HE.out.1;simp[lI];omega
  have e2b:(((X:Int)%8)==2)=false:=by simp;omega
  have e3b:(((X:Int)%8)==3)=false:=by simp;omega
  have e4b:(((X:Int)%8)==4)=false:=by simp;omega
  have e2:¬ ((X:Int)%8=2):=by omega
  have e3:¬ ((X:Int)%8=3):=by omega
  have e4:¬ ((X:Int)%8=4):=by omega
  simp only[Lib.checkN,s2,s3,s4,if_false]at xj
  have cL:=Lib.hid xj
  clear xj
  go_wp2_with fail
  go_ret
  exact⟨by first | rfl | (rw[cL.out];rfl),iz⟩
 have D8:¬ ((0:Int)<(t.size:Int)):=by omega
 have GZ:t.data.toList=[]:=List.eq_nil_of_length_eq_zero (by rw[← Lib.size_eq];omega)
 have hv:=HV.out
 rw[GZ,Lib.validD_nil]at hv
 subst hv
 go_wp2_with fail
 go_ret
 exact⟨rfl,qC⟩
theorem jg {H:Snap}(hT:Tabs H) (w:World) (hH:Holds w H) (A:Option Addr) (l:List UInt8) (n c:Nat) (hn:n=l.length) (hb:IsBytes H A c l) :
  Calls Tryz.prog 140 #[.slice A n c] w fun e w'=>e=.returned (.bool (Lib.validD l))∧Below w.heap.size w w':=by
 subst hn
 have hl:(⟨l.toArray⟩:ByteArray).size=l.length:=by show l.toArray.size=l.length;simp
 have h:=dU hT w hH A ⟨l.toArray⟩ c (SB.of hb) (by rw[hl];exact hb.le) (by rw[hl];have:=hb.le;have:=hb.max;omega)
 rw[hl,Ro]at h
 exact h
end Go.Proofs.YtliomcphdnppnaaGreatDoor
