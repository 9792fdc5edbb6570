/- squeezed. Walks: the library's Valid of a sl -/
import Derived.Test.YtkmlnjociijpgaaGreatDoorK01
import Derived.BigQuiet
set_option linter.unusedVariables false
set_option linter.unusedSimpArgs false
open List (getElem_toArray getElem_cons_zero getElem_cons_succ setIfInBounds_toArray set_cons_zero set_cons_succ)
namespace Go.Proofs.YtkmlnjociijpgaaGreatDoor
open Go.RowKit
theorem jaq{P:Prop}(h:P:=by
 go_big_quiet (fail)
 go_wp2_with fail
 go_meet
 exact⟨congrArg Value.bool (decide_eq_true (p:=t.size<4∨x1.toNat<LO∨HI<x1.toNat∨x2.toNat<128∨191<x2.toNat∨x3.toNat<128∨191<x3.toNat) (by omega)).symm,below_drewNv fN nq⟩):P:=h
theorem jaD{P:Prop}(h:P:=by
 rw[mA]at sbt1
 have HE:=Lib.hid (And.intro zt1 mA)
 have I8:=Lib.hid (show Lib.validD t1.data.toList=ANS by rw[← cr,Lib.ext_list,xM])
 have uH:=Lib.hid (show t1.size<t.size∧t1.size≤t0.size by omega)
 clear hb ig YT xM zt1 mA cr eH n0 n1
 go_wp2_with fail
 go_roundw
 case rel=>exact⟨Bt1,t1,by rw[HE.out.1,HE.out.2],sbt1,I8.out,uH.out.2,mf⟩
 case measure=>have:=uH.out.1;have:=HE.out.1;simp[j8];omega):P:=h
theorem jaF{P:Prop}(h:P:=by
 go_big_quiet (fail)
 go_wp2_with fail
 go_meet
 exact⟨congrArg Value.bool (decide_eq_true (p:=t.size<3∨x1.toNat<LO∨HI<x1.toNat∨x2.toNat<128∨191<x2.toNat) (by omega)).symm,below_drewNv fN nq⟩):P:=h
theorem jbj{P:Prop}(h:P:=by
 go_big_quiet (fail)
 go_wp2_with fail
 go_meet
 exact⟨congrArg Value.bool (decide_eq_true (p:=t.size<2∨x1.toNat<LO∨HI<x1.toNat) (by omega)).symm,below_drewNv fN nq⟩):P:=h
theorem jbC{P:Prop}(h:P:=by
 try simp only[Act.put,getElem_toArray,getElem_cons_zero,getElem_cons_succ,setIfInBounds_toArray,set_cons_zero,set_cons_succ]
 refine Ways.done (by kernel_rfl) ?_
 go_wp2_with fail
 go_meet
 exact⟨rfl,rfl,by repeat (first | exact Oo | exact Oo.drew | refine below_drewNv ?_ _)⟩):P:=h
theorem jbG{P:Prop}(h:P:=by
 have xM:=YT.out
 rw[if_pos hb]at xM
 rw[ig]
 clear hb ig YT n0 n1
 go_wp2_with fail
 go_ret
 exact⟨by first | rfl | rw[xM],mf⟩):P:=h
theorem jg4{P:Prop}(h:P:=by have q1b:decide ((x1.toNat:Int)<(LO:Int))=false:=decide_eq_false q1z;exact q1b):P:=h
theorem jg5{P:Prop}(h:P:=by have q2b:decide ((HI:Int)<(x1.toNat:Int))=false:=decide_eq_false q2z;exact q2b):P:=h
theorem jhy{P:Prop}(h:P:=by have uH:=Lib.hid (show t2.size<t.size∧t2.size≤t0.size by have:=Lm.out.1;have:=Sg.out.1;omega);exact uH):P:=h
def j8:Value→Nat
 | .slice _ n _=>n
 | _=>0
theorem SB.skipc {H:Snap}{b off:Nat}{t:ByteArray}(h:∀ j,j<t.size→H.cell? ⟨b,off+j,none⟩=some (.int .u8 ((t.get! j).toNat:Int))) (k:Nat) (hk:k≤t.size) :
  SB H (if t.size=k then some (⟨b,off,none⟩:Addr) else some ⟨b,off+k,none⟩) (t.extract k t.size):=fun h0=>by
 rw[Lib.ext_size]at h0
 rw[if_neg (by omega)]
 refine⟨b,off+k,rfl,fun j hj=>?_⟩
 rw[Lib.ext_size]at hj
 rw[Nat.add_assoc,h (k+j) (by omega),← Lib.getD_get!',← Lib.getD_get!',Lib.ext_list]
 simp[List.getD,List.getElem?_drop]
set_option maxHeartbeats 16000000 in
set_option maxRecDepth 1000000 in
theorem ZL {H:Snap}(hT:Tabs H) (w:World) (hH:Holds w H) (A:Option Addr) (t0:ByteArray) (c:Nat) (hs:SB H A t0) (hc:t0.size≤c) (hm:t0.size≤9223372036854775807) :
  Calls Tryz.prog 152 #[.slice A t0.size c] w fun e w'=>e=.returned (.bool (Lib.validD t0.data.toList))∧Below w.heap.size w w':=by
 obtain⟨ANS,Ks⟩:∃ ANS,Lib.validD t0.data.toList=ANS:=⟨_,rfl⟩
 rw[Ks]
 have Be:=Lib.hid Ks
 clear Ks
 have Av:(t0.size:Int)≤c:=by omega
 go_enter Tryz.func152,Tryz.ntmps152
 go_wp2
 go_loopw [0] (fun v0 wx=>∃ (B:Option Addr) (t:ByteArray),v0=.slice B t.size t.size∧SB H B t∧Lib.validD t.data.toList=ANS∧t.size≤t0.size∧Below w.heap.size w wx) (fun v0 _=>j8 v0)
 case atStart=>exact⟨A,t0,rfl,hs,Be.out,Nat.le_refl _,Below.refl _ _⟩
 case round =>
 obtain⟨B,t,rfl,Jc,hv,hts,oL⟩:=hrel
 have HV:=Lib.hid hv
 clear hv
 by_cases h0:0<t.size
 ·obtain⟨b,off,rfl,eH⟩:=Jc h0
  have h0z:(0:Int)<(t.size:Int):=by omega
  have pZ:=hH.below oL (Nat.le_refl _)
  have c0:=pZ.cell (eH 0 h0)
  have l0:=(t.get! 0).toNat_lt
  obtain⟨x0,eL⟩:∃ x0,t.get! 0=x0:=⟨_,rfl⟩
  rw[eL]at c0 l0
  simp only[Nat.add_zero]at c0
  have YE:=Lib.hid eH
  by_cases hasc:x0.toNat<128
  ·as_aux_lemma =>
   have Fx:(x0.toNat:Int)<128:=by omega
   have h1z:(1:Int)≤(t.size:Int):=by omega
   have a1:Lib.Asc t 1:=Lib.asc_one t h0 (by rw[eL];exact hasc)
   obtain⟨t1,cr⟩:∃ t1,t.extract 1 t.size=t1:=⟨_,rfl⟩
   have zt1:t.size-1=t1.size:=by rw[← cr,Lib.ext_size]
   have sbt1:=SB.skipc eH 1 (by omega)
   rw[cr]at sbt1
   obtain⟨Bt1,mA⟩:∃ B,(if t.size=1 then some (⟨b,off,none⟩:Addr) else some ⟨b,off+1,none⟩)=B:=⟨_,rfl⟩
   rw[mA]at sbt1
   have V1:Hid (Lib.validD t1.data.toList=ANS):=by rw[Hid,← cr,Lib.valid_skip t 1 a1];exact HV.out
   have Lm:=Lib.hid (And.intro zt1 mA)
   clear eH zt1 a1 eL cr Jc mA
   go_upto_region 6 with fail
   rw[Lm.out.2,Lm.out.1]
   by_cases c8:8<t1.size
   ·have c8z:(8:Int)<(t1.size:Int):=by omega
    have c8y:(8:Int)≤(t1.size:Int):=by omega
    obtain⟨A1,FJ⟩:∃ A1,Lib.leNat [t1.get! 0,t1.get! 1,t1.get! 2,t1.get! 3,t1.get! 4,t1.get! 5,t1.get! 6,t1.get! 7]=A1:=⟨_,rfl⟩
    have lA1:A1<18446744073709551616:=FJ ▸ Lib.word_lt t1
    have cW1:∀ (c:Nat) (W:World),Holds W H→Calls Tryz.prog 187 #[.slice Bt1 t1.size c] W fun e w'=>e=.returned (.int .u64 (A1:Int))∧∃ q,w'=W.drewN q:=fun c W h=>by rw[← FJ];exact sX sbt1 (by omega) c W h
    have CW1:=Lib.hid cW1
    have kA1:=Lib.word_asc t1 (by omega)
    rw[FJ]at kA1
    clear cW1 FJ
    have R9:bits .and .u64 (A1:Int) 9259542123273814144=((A1 &&& 9259542123273814144:Nat):Int):=u64_and_nat A1 9259542123273814144 lA1 (by omega)
    obtain⟨Z1,Ap⟩:∃ Z1,A1 &&& 9259542123273814144=Z1:=⟨_,rfl⟩
    rw[Ap]at R9 kA1
    have KA1:=Lib.hid kA1
    have Uj:=Lib.hid sbt1
    clear Ap kA1 lA1 sbt1 c0 l0
    by_cases rx:Z1=0
    ·have Hi:((Z1:Int)==0)=true:=by simp[rx]
     have HZ1:=Lib.hid rx
     clear rx
     go_wp2_with (go_at_call 187;refine zh ?_)
     unfold zZ
     refine(CW1.out _ _ pZ).mono ?_
     rintro e w5 ⟨rfl,q5,rfl⟩
     have Ml:=Holds.drewN pZ q5
     have mf:=below_drewNv oL q5
     obtain⟨b1,off1,rfl,Gi⟩:=Uj.out (by omega)
     obtain⟨t2,Mt⟩:∃ t2,t1.extract 8 t1.size=t2:=⟨_,rfl⟩
     have zt2:t1.size-8=t2.size:=by rw[← Mt,Lib.ext_size]
     have sbt2:=SB.skipc Gi 8 (by omega)
     rw[Mt,if_neg (by omega)]at sbt2
     obtain⟨Bt2,Kt⟩:∃ B,some (⟨b1,off1+8,none⟩:Addr)=B:=⟨_,rfl⟩
     rw[Kt]at sbt2
     have V2:Hid (Lib.validD t2.data.toList=ANS):=by rw[Hid,← Mt,Lib.valid_skip t1 8 (KA1.out.1 HZ1.out)];exact V1.out
     have Sg:=Lib.hid (And.intro zt2 Kt)
     generalize wr.drewN q5=wq at Ml mf⊢
     clear zt2 Mt Gi Kt oL pZ CW1 KA1 HZ1
     go_upto_region 8 with fail
     rw[Sg.out.2,Sg.out.1]
     by_cases c16:16<t2.size
     ·have c16z:(16:Int)<(t2.size:Int):=by omega
      have c16y:(16:Int)≤(t2.size:Int):=by omega
      have s8z:(8:Int)≤(t2.size:Int):=by omega
      have n8:(t2.size=8)=False:=eq_false (by omega)
      obtain⟨b2,off2,rfl,Us⟩:=sbt2 (by omega)
      have C4:SB H (some ⟨b2,off2,none⟩) t2:=sbt2
      obtain⟨t2b,OQ⟩:∃ t2b,t2.extract 8 t2.size=t2b:=⟨_,rfl⟩
      have zt2b:t2.size-8=t2b.size:=by rw[← OQ,Lib.ext_size]
      have sbt2b:=SB.skipc Us 8 (by omega)
      rw[OQ,if_neg (by omega)]at sbt2b
      obtain⟨o2b,OL⟩:∃ o,off2+8=o:=⟨_,rfl⟩
      rw[OL]at sbt2b
      obtain⟨A2,FK⟩:∃ A2,Lib.leNat [t2.get! 0,t2.get! 1,t2.get! 2,t2.get! 3,t2.get! 4,t2.get! 5,t2.get! 6,t2.get! 7]=A2:=⟨_,rfl⟩
      have lA2:A2<18446744073709551616:=FK ▸ Lib.word_lt t2
      have cW2:∀ (c:Nat) (W:World),Holds W H→Calls Tryz.prog 187 #[.slice (some ⟨b2,off2,none⟩) t2.size c] W fun e w'=>e=.returned (.int .u64 (A2:Int))∧∃ q,w'=W.drewN q:=fun c W h=>by rw[← FK];exact sX C4 (by omega) c W h
      have CW2:=Lib.hid cW2
      have kA2:=Lib.word_asc t2 (by omega)
      rw[FK]at kA2
      clear cW2 FK
      obtain⟨A3,FM⟩:∃ A3,Lib.leNat [t2b.get! 0,t2b.get! 1,t2b.get! 2,t2b.get! 3,t2b.get! 4,t2b.get! 5,t2b.get! 6,t2b.get! 7]=A3:=⟨_,rfl⟩
      have lA3:A3<18446744073709551616:=FM ▸ Lib.word_lt t2b
      have cW3:∀ (c:Nat) (W:World),Holds W H→Calls Tryz.prog 187 #[.slice (some ⟨b2,off2+8,none⟩) (t2.size-8) c] W fun e w'=>e=.returned (.int .u64 (A3:Int))∧∃ q,w'=W.drewN q:=fun c W h=>by rw[← FM,zt2b,OL];exact sX sbt2b (by omega) c W h
      have CW3:=Lib.hid cW3
      have kA3:=Lib.word_asc t2b (by omega)
      rw[FM]at kA3
      clear cW3 FM
      have Gz:bits .or .u64 (A2:Int) (A3:Int)=((A2 ||| A3:Nat):Int):=u64_or_nat A2 A3 lA2 lA3
      have lor2:A2 ||| A3<18446744073709551616:=Nat.or_lt_two_pow (n:=64) lA2 lA3
      have RB:bits .and .u64 ((A2 ||| A3:Nat):Int) 9259542123273814144=(((A2 ||| A3) &&& 9259542123273814144:Nat):Int):=u64_and_nat _ 9259542123273814144 lor2 (by omega)
      have k2:(A2 ||| A3) &&& 9259542123273814144=0→Lib.Asc t2 16:=fun JI=>by
       obtain⟨e1,e2⟩:=(Lib.or_mask A2 A3 _).1 JI
       exact Lib.asc_add t2 8 8 (kA2.1 e1) (by rw[OQ];exact kA3.1 e2)
      obtain⟨O2,ui⟩:∃ O2,A2 ||| A3=O2:=⟨_,rfl⟩
      rw[ui]at Gz RB k2
      obtain⟨Z2,If⟩:∃ Z2,O2 &&& 9259542123273814144=Z2:=⟨_,rfl⟩
      rw[If]at RB k2
      have K2:=Lib.hid k2
      have GB:=Lib.hid Us
      clear kA2 kA3 lor2 ui If k2 lA2 lA3 OQ sbt2b Us sbt2
      obtain⟨zz2,Hj⟩:∃ zz,((Z2:Int)==0)=zz:=⟨_,rfl⟩
      have JH:=Lib.hid Hj
      go_cut [0,46] (fun s0 s46 wx=>s0=.slice (some ⟨b2,off2,none⟩) t2.size t2.size∧s46=.bool zz2∧Below w.heap.size w wx)
      case first =>
       clear zt2b OL Hi R9
       have VG:=Ml
       have Oo:=mf
       refine zr 13 (fun _=>True) (by kernel_rfl) (trivial) (fun zy=>?_)
       refine Ways.takeS (i:=0) (v:=?_) rfl (by kernel_rfl) (fun _ _ _ h=>h) (Or.inl ⟨by rfl, ?_⟩) zy ?_
       rotate_left
       ·(intro w tp;(try dsimp only at tp);go_simp;try with_reducible rfl)
       try simp only[Act.put,getElem_toArray,getElem_cons_zero,getElem_cons_succ,setIfInBounds_toArray,set_cons_zero,set_cons_succ]
       refine Ways.takeS (i:=1) (v:=?_) rfl (by kernel_rfl) (fun _ _ _ h=>h) (Or.inl ⟨by rfl, ?_⟩) zy ?_
       rotate_left
       ·(intro w tp;(try dsimp only at tp);go_simp;try with_reducible rfl)
       try simp only[Act.put,getElem_toArray,getElem_cons_zero,getElem_cons_succ,setIfInBounds_toArray,set_cons_zero,set_cons_succ]
       refine Ways.takeS (i:=2) (v:=?_) rfl (by kernel_rfl) (fun _ _ _ h=>h) (Or.inl ⟨by rfl, ?_⟩) zy ?_
       rotate_left
       ·(intro w tp;(try dsimp only at tp);go_simp;try with_reducible rfl)
       try simp only[Act.put,getElem_toArray,getElem_cons_zero,getElem_cons_succ,setIfInBounds_toArray,set_cons_zero,set_cons_succ]
       refine Ways.takeS (i:=3) (v:=?_) rfl (by kernel_rfl) (fun _ _ _ h=>h) (Or.inl ⟨by rfl, ?_⟩) zy ?_
       rotate_left
       ·(intro w tp;(try dsimp only at tp);go_simp;try with_reducible rfl)
       try simp only[Act.put,getElem_toArray,getElem_cons_zero,getElem_cons_succ,setIfInBounds_toArray,set_cons_zero,set_cons_succ]
       refine Ways.takeS (i:=4) (v:=?_) rfl (by kernel_rfl) (fun _ _ _ h=>h) (Or.inl ⟨?_, ?_⟩) zy ?_
       rotate_left
       ·kernel_rfl
       ·(intro w tp;(try dsimp only at tp);go_simp;try with_reducible rfl)
       try simp only[Act.put,getElem_toArray,getElem_cons_zero,getElem_cons_succ,setIfInBounds_toArray,set_cons_zero,set_cons_succ]
       refine Ways.takeS (i:=6) (v:=?_) rfl (by kernel_rfl) (fun _ _ _ h=>h) (Or.inl ⟨?_, ?_⟩) zy ?_
       rotate_left
       ·kernel_rfl
       ·(intro w tp;(try dsimp only at tp);go_simp;try with_reducible rfl)
       try simp only[Act.put,getElem_toArray,getElem_cons_zero,getElem_cons_succ,setIfInBounds_toArray,set_cons_zero,set_cons_succ]
       refine Ways.takeS (i:=7) (v:=?_) rfl (by kernel_rfl) (fun _ _ _ h=>h) (Or.inl ⟨?_, ?_⟩) zy ?_
       rotate_left
       ·kernel_rfl
       ·(intro w tp;(try dsimp only at tp);go_simp;try with_reducible rfl)
       try simp only[Act.put,getElem_toArray,getElem_cons_zero,getElem_cons_succ,setIfInBounds_toArray,set_cons_zero,set_cons_succ]
       refine Ways.one (i:=5) rfl (by kernel_rfl) (fun K hK=>?_)
       go_simp
       refine(CW2.out _ _ (by repeat (first | exact VG | exact VG.drew | refine Holds.drewN ?_ _))).mono ?_
       rintro e w5 ⟨rfl,q5,rfl⟩
       refine hK.out _ _ (fun _=>?_) (fun zy=>?_)
       ·exact trivial
       clear hK K
       have zy:=zy (by decide)
       try simp only[Act.put,getElem_toArray,getElem_cons_zero,getElem_cons_succ,setIfInBounds_toArray,set_cons_zero,set_cons_succ]
       refine Ways.one (i:=8) rfl (by kernel_rfl) (fun K hK=>?_)
       go_simp
       refine(CW3.out _ _ (by repeat (first | exact VG | exact VG.drew | refine Holds.drewN ?_ _))).mono ?_
       rintro e w5 ⟨rfl,q5,rfl⟩
       refine hK.out _ _ (fun _=>?_) (fun zy=>?_)
       ·exact trivial
       clear hK K
       have zy:=zy (by decide)
       try simp only[Act.put,getElem_toArray,getElem_cons_zero,getElem_cons_succ,setIfInBounds_toArray,set_cons_zero,set_cons_succ]
       refine Ways.takeS (i:=9) (v:=?_) rfl (by kernel_rfl) (fun _ _ _ h=>h) (Or.inl ⟨?_, ?_⟩) zy ?_
       rotate_left
       ·kernel_rfl
       ·(intro w tp;(try dsimp only at tp);go_simp;try with_reducible rfl)
       try simp only[Act.put,getElem_toArray,getElem_cons_zero,getElem_cons_succ,setIfInBounds_toArray,set_cons_zero,set_cons_succ]
       refine Ways.takeS (i:=10) (v:=?_) rfl (by kernel_rfl) (fun _ _ _ h=>h) (Or.inl ⟨?_, ?_⟩) zy ?_
       rotate_left
       ·kernel_rfl
       ·(intro w tp;(try dsimp only at tp);go_simp;try with_reducible rfl)
       try simp only[Act.put,getElem_toArray,getElem_cons_zero,getElem_cons_succ,setIfInBounds_toArray,set_cons_zero,set_cons_succ]
       refine Ways.takeS (i:=11) (v:=?_) rfl (by kernel_rfl) (fun _ _ _ h=>h) (Or.inl ⟨?_, ?_⟩) zy ?_
       rotate_left
       ·kernel_rfl
       ·(intro w tp;(try dsimp only at tp);go_simp;try with_reducible rfl)
       try simp only[Act.put,getElem_toArray,getElem_cons_zero,getElem_cons_succ,setIfInBounds_toArray,set_cons_zero,set_cons_succ]
       refine Ways.takeS (i:=12) (v:=?_) rfl (by kernel_rfl) (fun _ _ _ h=>h) (Or.inl ⟨by rfl, ?_⟩) zy ?_
       rotate_left
       ·(intro w tp;(try dsimp only at tp);go_simp;try with_reducible rfl)
       exact jbC
      case rest =>
      clear mf Ml
      obtain⟨rfl,rfl,mf⟩:=hcut
      have Ml:=hH.below mf (Nat.le_refl _)
      cases zz2 with
      | true =>
       have oN:Z2=0:=by have:=JH.out;simpa using this
       have Us:=GB.out
       obtain⟨t3,Fm⟩:∃ t3,t2.extract 16 t2.size=t3:=⟨_,rfl⟩
       have zt3:t2.size-16=t3.size:=by rw[← Fm,Lib.ext_size]
       have sbt3:=SB.skipc Us 16 (by omega)
       rw[Fm,if_neg (by omega)]at sbt3
       obtain⟨Bt3,Ku⟩:∃ B,some (⟨b2,off2+16,none⟩:Addr)=B:=⟨_,rfl⟩
       rw[Ku]at sbt3
       have V3:Hid (Lib.validD t3.data.toList=ANS):=by rw[Hid,← Fm,Lib.valid_skip t2 16 (K2.out oN)];exact V2.out
       have HT3:=Lib.hid (And.intro zt3 Ku)
       have uH:=Lib.hid (show t3.size<t.size∧t3.size≤t0.size by have:=Lm.out.1;have:=Sg.out.1;omega)
       clear zt3 Fm Ku Us RB Gz Hj oN CW2 CW3 R9 zt2b OL
       go_wp2_with fail
       rw[HT3.out.2,HT3.out.1]
       go_loopw [0] (fun v0 wx=>∃ (B:Option Addr) (u:ByteArray),v0=.slice B u.size u.size∧SB H B u∧Lib.validD u.data.toList=ANS∧u.size≤t3.size∧Below w.heap.size w wx) (fun v0 _=>j8 v0)
       case atStart=>exact⟨_,t3,rfl,sbt3,V3.out,Nat.le_refl _,mf⟩
       case round =>
       clear sbt3 mf Ml
       obtain⟨BU,u,rfl,sbu,BQ,hus,mf⟩:=hrel
       have VU:=Lib.hid BQ
       clear BQ
       have Ml:=hH.below mf (Nat.le_refl _)
       by_cases c32:32<u.size
       ·have c32z:(32:Int)<(u.size:Int):=by omega
        have c32y:(32:Int)≤(u.size:Int):=by omega
        have s8u:(8:Int)≤(u.size:Int):=by omega
        have s16u:(16:Int)≤(u.size:Int):=by omega
        have s24u:(24:Int)≤(u.size:Int):=by omega
        have n8u:(u.size=8)=False:=eq_false (by omega)
        have n16u:(u.size=16)=False:=eq_false (by omega)
        have n24u:(u.size=24)=False:=eq_false (by omega)
        obtain⟨bu,ou,rfl,Oq⟩:=sbu (by omega)
        obtain⟨ub,MG⟩:∃ ub,u.extract 8 u.size=ub:=⟨_,rfl⟩
        have zub:u.size-8=ub.size:=by rw[← MG,Lib.ext_size]
        have sbub:=SB.skipc Oq 8 (by omega)
        rw[MG,if_neg (by omega)]at sbub
        obtain⟨oub,OM⟩:∃ o,ou+8=o:=⟨_,rfl⟩
        rw[OM]at sbub
        obtain⟨uc,Fn⟩:∃ uc,u.extract 16 u.size=uc:=⟨_,rfl⟩
        have zuc:u.size-16=uc.size:=by rw[← Fn,Lib.ext_size]
        have sbuc:=SB.skipc Oq 16 (by omega)
        rw[Fn,if_neg (by omega)]at sbuc
        obtain⟨ouc,ON⟩:∃ o,ou+16=o:=⟨_,rfl⟩
        rw[ON]at sbuc
        obtain⟨ud,Fo⟩:∃ ud,u.extract 24 u.size=ud:=⟨_,rfl⟩
        have zud:u.size-24=ud.size:=by rw[← Fo,Lib.ext_size]
        have sbud:=SB.skipc Oq 24 (by omega)
        rw[Fo,if_neg (by omega)]at sbud
        obtain⟨oud,OO⟩:∃ o,ou+24=o:=⟨_,rfl⟩
        rw[OO]at sbud
        obtain⟨A4,FN⟩:∃ A4,Lib.leNat [u.get! 0,u.get! 1,u.get! 2,u.get! 3,u.get! 4,u.get! 5,u.get! 6,u.get! 7]=A4:=⟨_,rfl⟩
        have lA4:A4<18446744073709551616:=FN ▸ Lib.word_lt u
        have cW4:∀ (c:Nat) (W:World),Holds W H→Calls Tryz.prog 187 #[.slice (some ⟨bu,ou,none⟩) u.size c] W fun e w'=>e=.returned (.int .u64 (A4:Int))∧∃ q,w'=W.drewN q:=fun c W h=>by rw[← FN];exact sX (fun _=>⟨bu,ou,rfl,Oq⟩) (by omega) c W h
        have CW4:=Lib.hid cW4
        have kA4:=Lib.word_asc u (by omega)
        rw[FN]at kA4
        clear cW4 FN
        obtain⟨A5,Lq⟩:∃ A5,Lib.leNat [ub.get! 0,ub.get! 1,ub.get! 2,ub.get! 3,ub.get! 4,ub.get! 5,ub.get! 6,ub.get! 7]=A5:=⟨_,rfl⟩
        have lA5:A5<18446744073709551616:=Lq ▸ Lib.word_lt ub
        have cW5:∀ (c:Nat) (W:World),Holds W H→Calls Tryz.prog 187 #[.slice (some ⟨bu,ou+8,none⟩) (u.size-8) c] W fun e w'=>e=.returned (.int .u64 (A5:Int))∧∃ q,w'=W.drewN q:=fun c W h=>by rw[← Lq,zub,OM];exact sX sbub (by omega) c W h
        have CW5:=Lib.hid cW5
        have kA5:=Lib.word_asc ub (by omega)
        rw[Lq]at kA5
        clear cW5 Lq
        obtain⟨A6,FO⟩:∃ A6,Lib.leNat [uc.get! 0,uc.get! 1,uc.get! 2,uc.get! 3,uc.get! 4,uc.get! 5,uc.get! 6,uc.get! 7]=A6:=⟨_,rfl⟩
        have lA6:A6<18446744073709551616:=FO ▸ Lib.word_lt uc
        have cW6:∀ (c:Nat) (W:World),Holds W H→Calls Tryz.prog 187 #[.slice (some ⟨bu,ou+16,none⟩) (u.size-16) c] W fun e w'=>e=.returned (.int .u64 (A6:Int))∧∃ q,w'=W.drewN q:=fun c W h=>by rw[← FO,zuc,ON];exact sX sbuc (by omega) c W h
        have CW6:=Lib.hid cW6
        have kA6:=Lib.word_asc uc (by omega)
        rw[FO]at kA6
        clear cW6 FO
        obtain⟨A7,FP⟩:∃ A7,Lib.leNat [ud.get! 0,ud.get! 1,ud.get! 2,ud.get! 3,ud.get! 4,ud.get! 5,ud.get! 6,ud.get! 7]=A7:=⟨_,rfl⟩
        have lA7:A7<18446744073709551616:=FP ▸ Lib.word_lt ud
        have cW7:∀ (c:Nat) (W:World),Holds W H→Calls Tryz.prog 187 #[.slice (some ⟨bu,ou+24,none⟩) (u.size-24) c] W fun e w'=>e=.returned (.int .u64 (A7:Int))∧∃ q,w'=W.drewN q:=fun c W h=>by rw[← FP,zud,OO];exact sX sbud (by omega) c W h
        have CW7:=Lib.hid cW7
        have kA7:=Lib.word_asc ud (by omega)
        rw[FP]at kA7
        clear cW7 FP
        have Ms:bits .or .u64 (A4:Int) (A5:Int)=((A4 ||| A5:Nat):Int):=u64_or_nat A4 A5 lA4 lA5
        have SO:bits .or .u64 (A6:Int) (A7:Int)=((A6 ||| A7:Nat):Int):=u64_or_nat A6 A7 lA6 lA7
        have lo1:A4 ||| A5<18446744073709551616:=Nat.or_lt_two_pow (n:=64) lA4 lA5
        have lo2:A6 ||| A7<18446744073709551616:=Nat.or_lt_two_pow (n:=64) lA6 lA7
        have EW:bits .or .u64 ((A4 ||| A5:Nat):Int) ((A6 ||| A7:Nat):Int)=(((A4 ||| A5) ||| (A6 ||| A7):Nat):Int):=u64_or_nat _ _ lo1 lo2
        have lo3:(A4 ||| A5) ||| (A6 ||| A7)<18446744073709551616:=Nat.or_lt_two_pow (n:=64) lo1 lo2
        have WE:bits .and .u64 (((A4 ||| A5) ||| (A6 ||| A7):Nat):Int) 9259542123273814144=((((A4 ||| A5) ||| (A6 ||| A7)) &&& 9259542123273814144:Nat):Int):=u64_and_nat _ 9259542123273814144 lo3 (by omega)
        have k3:((A4 ||| A5) ||| (A6 ||| A7)) &&& 9259542123273814144=0→Lib.Asc u 32:=fun JI=>by
         obtain⟨e01,e23⟩:=(Lib.or_mask _ _ _).1 JI
         obtain⟨e0,e1⟩:=(Lib.or_mask _ _ _).1 e01
         obtain⟨e2,e3⟩:=(Lib.or_mask _ _ _).1 e23
         have s16:Lib.Asc u 16:=Lib.asc_add u 8 8 (kA4.1 e0) (by rw[MG];exact kA5.1 e1)
         have s24:Lib.Asc u 24:=Lib.asc_add u 16 8 s16 (by rw[Fn];exact kA6.1 e2)
         exact Lib.asc_add u 24 8 s24 (by rw[Fo];exact kA7.1 e3)
        obtain⟨P1,jC⟩:∃ P1,A4 ||| A5=P1:=⟨_,rfl⟩
        obtain⟨P2,Dg⟩:∃ P2,A6 ||| A7=P2:=⟨_,rfl⟩
        rw[jC,Dg]at EW WE k3
        rw[jC]at Ms
        rw[Dg]at SO
        obtain⟨P3,Rx⟩:∃ P3,P1 ||| P2=P3:=⟨_,rfl⟩
        rw[Rx]at EW WE k3
        obtain⟨Z3,Aq⟩:∃ Z3,P3 &&& 9259542123273814144=Z3:=⟨_,rfl⟩
        rw[Aq]at WE k3
        have K3:=Lib.hid k3
        have HCU:=Lib.hid Oq
        clear kA4 kA5 kA6 kA7 lo1 lo2 lo3 jC Dg Rx Aq k3 MG sbub Fn sbuc Fo sbud lA4 lA5 lA6 lA7 Oq sbu
        obtain⟨zz3,Hk⟩:∃ zz,((Z3:Int)==0)=zz:=⟨_,rfl⟩
        have HZ3:=Lib.hid Hk
        go_upto_region 10 with fail
        go_cut [0,69] (fun s0 s69 wx=>s0=.slice (some ⟨bu,ou,none⟩) u.size u.size∧s69=.bool zz3∧Below w.heap.size w wx)
        case first =>
         clear zub zuc zud OM ON OO
         have VG:=Ml
         have Oo:=mf
         refine zr 21 (fun _=>True) (by kernel_rfl) (trivial) (fun zy=>?_)
         refine Ways.takeS (i:=0) (v:=?_) rfl (by kernel_rfl) (fun _ _ _ h=>h) (Or.inl ⟨by rfl, ?_⟩) zy ?_
         rotate_left
         ·(intro w tp;(try dsimp only at tp);go_simp;try with_reducible rfl)
         try simp only[Act.put,getElem_toArray,getElem_cons_zero,getElem_cons_succ,setIfInBounds_toArray,set_cons_zero,set_cons_succ]
         refine Ways.takeS (i:=1) (v:=?_) rfl (by kernel_rfl) (fun _ _ _ h=>h) (Or.inl ⟨by rfl, ?_⟩) zy ?_
         rotate_left
         ·(intro w tp;(try dsimp only at tp);go_simp;try with_reducible rfl)
         try simp only[Act.put,getElem_toArray,getElem_cons_zero,getElem_cons_succ,setIfInBounds_toArray,set_cons_zero,set_cons_succ]
         refine Ways.takeS (i:=2) (v:=?_) rfl (by kernel_rfl) (fun _ _ _ h=>h) (Or.inl ⟨by rfl, ?_⟩) zy ?_
         rotate_left
         ·(intro w tp;(try dsimp only at tp);go_simp;try with_reducible rfl)
         try simp only[Act.put,getElem_toArray,getElem_cons_zero,getElem_cons_succ,setIfInBounds_toArray,set_cons_zero,set_cons_succ]
         refine Ways.takeS (i:=3) (v:=?_) rfl (by kernel_rfl) (fun _ _ _ h=>h) (Or.inl ⟨by rfl, ?_⟩) zy ?_
         rotate_left
         ·(intro w tp;(try dsimp only at tp);go_simp;try with_reducible rfl)
         try simp only[Act.put,getElem_toArray,getElem_cons_zero,getElem_cons_succ,setIfInBounds_toArray,set_cons_zero,set_cons_succ]
         refine Ways.takeS (i:=4) (v:=?_) rfl (by kernel_rfl) (fun _ _ _ h=>h) (Or.inl ⟨?_, ?_⟩) zy ?_
         rotate_left
         ·kernel_rfl
         ·(intro w tp;(try dsimp only at tp);go_simp;try with_reducible rfl)
         try simp only[Act.put,getElem_toArray,getElem_cons_zero,getElem_cons_succ,setIfInBounds_toArray,set_cons_zero,set_cons_succ]
         refine Ways.takeS (i:=6) (v:=?_) rfl (by kernel_rfl) (fun _ _ _ h=>h) (Or.inl ⟨?_, ?_⟩) zy ?_
         rotate_left
         ·kernel_rfl
         ·(intro w tp;(try dsimp only at tp);go_simp;try with_reducible rfl)
         try simp only[Act.put,getElem_toArray,getElem_cons_zero,getElem_cons_succ,setIfInBounds_toArray,set_cons_zero,set_cons_succ]
         refine Ways.takeS (i:=7) (v:=?_) rfl (by kernel_rfl) (fun _ _ _ h=>h) (Or.inl ⟨?_, ?_⟩) zy ?_
         rotate_left
         ·kernel_rfl
         ·(intro w tp;(try dsimp only at tp);go_simp;try with_reducible rfl)
         try simp only[Act.put,getElem_toArray,getElem_cons_zero,getElem_cons_succ,setIfInBounds_toArray,set_cons_zero,set_cons_succ]
         refine Ways.takeS (i:=10) (v:=?_) rfl (by kernel_rfl) (fun _ _ _ h=>h) (Or.inl ⟨?_, ?_⟩) zy ?_
         rotate_left
         ·kernel_rfl
         ·(intro w tp;(try dsimp only at tp);go_simp;try with_reducible rfl)
         try simp only[Act.put,getElem_toArray,getElem_cons_zero,getElem_cons_succ,setIfInBounds_toArray,set_cons_zero,set_cons_succ]
         refine Ways.takeS (i:=11) (v:=?_) rfl (by kernel_rfl) (fun _ _ _ h=>h) (Or.inl ⟨?_, ?_⟩) zy ?_
         rotate_left
         ·kernel_rfl
         ·(intro w tp;(try dsimp only at tp);go_simp;try with_reducible rfl)
         try simp only[Act.put,getElem_toArray,getElem_cons_zero,getElem_cons_succ,setIfInBounds_toArray,set_cons_zero,set_cons_succ]
         refine Ways.takeS (i:=13) (v:=?_) rfl (by kernel_rfl) (fun _ _ _ h=>h) (Or.inl ⟨?_, ?_⟩) zy ?_
         rotate_left
         ·kernel_rfl
         ·(intro w tp;(try dsimp only at tp);go_simp;try with_reducible rfl)
         try simp only[Act.put,getElem_toArray,getElem_cons_zero,getElem_cons_succ,setIfInBounds_toArray,set_cons_zero,set_cons_succ]
         refine Ways.takeS (i:=14) (v:=?_) rfl (by kernel_rfl) (fun _ _ _ h=>h) (Or.inl ⟨?_, ?_⟩) zy ?_
         rotate_left
         ·kernel_rfl
         ·(intro w tp;(try dsimp only at tp);go_simp;try with_reducible rfl)
         try simp only[Act.put,getElem_toArray,getElem_cons_zero,getElem_cons_succ,setIfInBounds_toArray,set_cons_zero,set_cons_succ]
         refine Ways.one (i:=5) rfl (by kernel_rfl) (fun K hK=>?_)
         go_simp
         refine(CW4.out _ _ (by repeat (first | exact VG | exact VG.drew | refine Holds.drewN ?_ _))).mono ?_
         rintro e w5 ⟨rfl,q5,rfl⟩
         refine hK.out _ _ (fun _=>?_) (fun zy=>?_)
         ·exact trivial
         clear hK K
         have zy:=zy (by decide)
         try simp only[Act.put,getElem_toArray,getElem_cons_zero,getElem_cons_succ,setIfInBounds_toArray,set_cons_zero,set_cons_succ]
         refine Ways.one (i:=8) rfl (by kernel_rfl) (fun K hK=>?_)
         go_simp
         refine(CW5.out _ _ (by repeat (first | exact VG | exact VG.drew | refine Holds.drewN ?_ _))).mono ?_
         rintro e w5 ⟨rfl,q5,rfl⟩
         refine hK.out _ _ (fun _=>?_) (fun zy=>?_)
         ·exact trivial
         clear hK K
         have zy:=zy (by decide)
         try simp only[Act.put,getElem_toArray,getElem_cons_zero,getElem_cons_succ,setIfInBounds_toArray,set_cons_zero,set_cons_succ]
         refine Ways.takeS (i:=9) (v:=?_) rfl (by kernel_rfl) (fun _ _ _ h=>h) (Or.inl ⟨?_, ?_⟩) zy ?_
         rotate_left
         ·kernel_rfl
         ·(intro w tp;(try dsimp only at tp);go_simp;try with_reducible rfl)
         try simp only[Act.put,getElem_toArray,getElem_cons_zero,getElem_cons_succ,setIfInBounds_toArray,set_cons_zero,set_cons_succ]
         refine Ways.one (i:=12) rfl (by kernel_rfl) (fun K hK=>?_)
         go_simp
         refine(CW6.out _ _ (by repeat (first | exact VG | exact VG.drew | refine Holds.drewN ?_ _))).mono ?_
         rintro e w5 ⟨rfl,q5,rfl⟩
         refine hK.out _ _ (fun _=>?_) (fun zy=>?_)
         ·exact trivial
         clear hK K
         have zy:=zy (by decide)
         try simp only[Act.put,getElem_toArray,getElem_cons_zero,getElem_cons_succ,setIfInBounds_toArray,set_cons_zero,set_cons_succ]
         refine Ways.one (i:=15) rfl (by kernel_rfl) (fun K hK=>?_)
         go_simp
         refine(CW7.out _ _ (by repeat (first | exact VG | exact VG.drew | refine Holds.drewN ?_ _))).mono ?_
         rintro e w5 ⟨rfl,q5,rfl⟩
         refine hK.out _ _ (fun _=>?_) (fun zy=>?_)
         ·exact trivial
         clear hK K
         have zy:=zy (by decide)
         try simp only[Act.put,getElem_toArray,getElem_cons_zero,getElem_cons_succ,setIfInBounds_toArray,set_cons_zero,set_cons_succ]
         refine Ways.takeS (i:=16) (v:=?_) rfl (by kernel_rfl) (fun _ _ _ h=>h) (Or.inl ⟨?_, ?_⟩) zy ?_
         rotate_left
         ·kernel_rfl
         ·(intro w tp;(try dsimp only at tp);go_simp;try with_reducible rfl)
         try simp only[Act.put,getElem_toArray,getElem_cons_zero,getElem_cons_succ,setIfInBounds_toArray,set_cons_zero,set_cons_succ]
         refine Ways.takeS (i:=17) (v:=?_) rfl (by kernel_rfl) (fun _ _ _ h=>h) (Or.inl ⟨?_, ?_⟩) zy ?_
         rotate_left
         ·kernel_rfl
         ·(intro w tp;(try dsimp only at tp);go_simp;try with_reducible rfl)
         try simp only[Act.put,getElem_toArray,getElem_cons_zero,getElem_cons_succ,setIfInBounds_toArray,set_cons_zero,set_cons_succ]
         refine Ways.takeS (i:=18) (v:=?_) rfl (by kernel_rfl) (fun _ _ _ h=>h) (Or.inl ⟨?_, ?_⟩) zy ?_
         rotate_left
         ·kernel_rfl
         ·(intro w tp;(try dsimp only at tp);go_simp;try with_reducible rfl)
         try simp only[Act.put,getElem_toArray,getElem_cons_zero,getElem_cons_succ,setIfInBounds_toArray,set_cons_zero,set_cons_succ]
         refine Ways.takeS (i:=19) (v:=?_) rfl (by kernel_rfl) (fun _ _ _ h=>h) (Or.inl ⟨?_, ?_⟩) zy ?_
         rotate_left
         ·kernel_rfl
         ·(intro w tp;(try dsimp only at tp);go_simp;try with_reducible rfl)
         try simp only[Act.put,getElem_toArray,getElem_cons_zero,getElem_cons_succ,setIfInBounds_toArray,set_cons_zero,set_cons_succ]
         refine Ways.takeS (i:=20) (v:=?_) rfl (by kernel_rfl) (fun _ _ _ h=>h) (Or.inl ⟨by rfl, ?_⟩) zy ?_
         rotate_left
         ·(intro w tp;(try dsimp only at tp);go_simp;try with_reducible rfl)
         exact jbC
        case rest =>
        clear mf Ml
        obtain⟨rfl,rfl,mf⟩:=hcut
        cases zz3 with
        | true =>
         have VT:Z3=0:=by have:=HZ3.out;simpa using this
         have Oq:=HCU.out
         obtain⟨u2,MF⟩:∃ u2,u.extract 32 u.size=u2:=⟨_,rfl⟩
         have zu2:u.size-32=u2.size:=by rw[← MF,Lib.ext_size]
         have sbu2:=SB.skipc Oq 32 (by omega)
         rw[MF,if_neg (by omega)]at sbu2
         obtain⟨Bu2,Kv⟩:∃ B,some (⟨bu,ou+32,none⟩:Addr)=B:=⟨_,rfl⟩
         rw[Kv]at sbu2
         have VU2:Hid (Lib.validD u2.data.toList=ANS):=by rw[Hid,← MF,Lib.valid_skip u 32 (K3.out VT)];exact VU.out
         have HU2:=Lib.hid (And.intro zu2 Kv)
         have HLU:=Lib.hid (show u2.size<u.size∧u2.size≤t3.size by omega)
         clear zu2 MF Kv Oq VT Hk WE Ms SO EW zub zuc zud OM ON OO
         go_wp2_with fail
         rw[HU2.out.2,HU2.out.1]
         go_roundw
         case rel=>exact⟨_,u2,rfl,sbu2,VU2.out,HLU.out.2,mf⟩
         case measure=>have:=HLU.out.1;simp[j8];omega
        | false =>
        have Je:SB H (some ⟨bu,ou,none⟩) u:=fun _=>⟨bu,ou,rfl,HCU.out⟩
        have uz:=Lib.hid (show u.size<t.size∧u.size≤t0.size by have:=uH.out;omega)
        go_wp2_with fail
        go_roundw
        case rel=>exact⟨_,u,rfl,Je,VU.out,uz.out.2,mf⟩
        case measure=>have:=uz.out.1;simp[j8];omega
       have c32z:¬ ((32:Int)<(u.size:Int)):=by omega
       have c32b:decide ((32:Int)<(u.size:Int))=false:=decide_eq_false c32z
       have uz:=Lib.hid (show u.size<t.size∧u.size≤t0.size by have:=uH.out;omega)
       go_upto_region 10 with fail
       go_big_quiet (fail)
       have mf:=below_drewNv mf nq
       go_wp2_with fail
       go_roundw
       case rel=>exact⟨_,u,rfl,sbu,VU.out,uz.out.2,mf⟩
       case measure=>have:=uz.out.1;simp[j8];omega
      | false =>
      have Je:SB H (some ⟨b2,off2,none⟩) t2:=fun _=>⟨b2,off2,rfl,GB.out⟩
      have uH:=jhy
      go_wp2_with fail
      go_roundw
      case rel=>exact⟨_,t2,rfl,Je,V2.out,uH.out.2,mf⟩
      case measure=>have:=uH.out.1;simp[j8];omega
     have c16z:¬ ((16:Int)<(t2.size:Int)):=by omega
     have c16b:decide ((16:Int)<(t2.size:Int))=false:=decide_eq_false c16z
     have uH:=jhy
     go_big_quiet (fail)
     have mf:=below_drewNv mf nq
     go_wp2_with fail
     go_roundw
     case rel=>exact⟨_,t2,rfl,sbt2,V2.out,uH.out.2,mf⟩
     case measure=>have:=uH.out.1;simp[j8];omega
    have Hi:((Z1:Int)==0)=false:=by simp;omega
    have uH:=Lib.hid (show t1.size<t.size∧t1.size≤t0.size by have:=Lm.out.1;omega)
    go_wp2_with (go_at_call 187;refine zh ?_)
    unfold zZ
    refine(CW1.out _ _ pZ).mono ?_
    rintro e w5 ⟨rfl,q5,rfl⟩
    have mf:=below_drewNv oL q5
    go_wp2_with fail
    go_roundw
    case rel=>exact⟨_,t1,rfl,Uj.out,V1.out,uH.out.2,mf⟩
    case measure=>have:=uH.out.1;simp[j8];omega
   have c8z:¬ ((8:Int)<(t1.size:Int)):=by omega
   have uH:=Lib.hid (show t1.size<t.size∧t1.size≤t0.size by have:=Lm.out.1;omega)
   go_wp2_with fail
   go_roundw
   case rel=>exact⟨_,t1,rfl,sbt1,V1.out,uH.out.2,oL⟩
   case measure=>have:=uH.out.1;simp[j8];omega
  have iK:128≤x0.toNat:=by omega
  have Fx:¬ ((x0.toNat:Int)<128):=by omega
  obtain⟨x1,rl⟩:∃ x1,t.get! 1=x1:=⟨_,rfl⟩
  obtain⟨x2,oM⟩:∃ x2,t.get! 2=x2:=⟨_,rfl⟩
  obtain⟨x3,Sa⟩:∃ x3,t.get! 3=x3:=⟨_,rfl⟩
  have l1:=x1.toNat_lt;have l2:=x2.toNat_lt;have l3:=x3.toNat_lt
  have xp:t.data.toList≠[]:=fun h=>by rw[Lib.size_eq,h]at h0;simp at h0
  have xM:=Lib.validD_lead t.data.toList xp (by rw[Lib.getD_get!',eL];exact iK)
  rw[Lib.getD_get!',Lib.getD_get!',Lib.getD_get!',Lib.getD_get!',eL,rl,oM,Sa,← Lib.size_eq,HV.out]at xM
  have rL:=hT wr pZ
  have Ii:=rL.1 x0.toNat (by omega)
  have Gd:Lib.firstT x0.toNat<256:=by rcases Lib.firstT_cases x0.toNat with h | h | h | h | h | h | h | h | h <;> omega
  obtain⟨X,hX⟩:∃ X,Lib.firstT x0.toNat=X:=⟨_,rfl⟩
  rw[hX]at Ii Gd xM
  have h7:=and7 ⟨X,Gd⟩
  simp only at h7
  have cT:wr.cell? ⟨1,X/16*2,none⟩=some (.int .u8 (Lib.accLo (X/16))):=by rw[Nat.mul_comm];exact(rL.2 (X/16) (by omega)).1
  have Dm:wr.cell? ⟨1,X/16*2+1,none⟩=some (.int .u8 (Lib.accHi (X/16))):=by rw[Nat.mul_comm];exact(rL.2 (X/16) (by omega)).2
  obtain⟨LO,AY⟩:∃ LO,Lib.accLo (X/16)=LO:=⟨_,rfl⟩
  obtain⟨HI,AM⟩:∃ HI,Lib.accHi (X/16)=HI:=⟨_,rfl⟩
  rw[AY]at cT xM
  rw[AM]at Dm xM
  obtain⟨SZ,hSZ⟩:∃ SZ,X%8=SZ:=⟨_,rfl⟩
  rw[hSZ]at xM
  have PI:=Blk.new wr 225 #[.int .u8 (LO:Int),.int .u8 (HI:Int)]
  have fN:=oL.alloc oL.size (.cells #[.int .u8 (LO:Int),.int .u8 (HI:Int)] 225)
  have jB:=pZ.alloc (.cells #[.int .u8 (LO:Int),.int .u8 (HI:Int)] 225)
  obtain⟨N,hN⟩:∃ N,wr.heap.size=N:=⟨_,rfl⟩
  rw[hN]at PI
  clear rL hX AY AM xp Jc eH
  by_cases s2:SZ=2
  ·as_aux_lemma =>
   subst s2
   have GZ:(X:Int)%8=2:=by omega
   simp only[Lib.checkN,Nat.reduceEqDiff,if_true,if_false]at xM
   have YT:=Lib.hid xM
   clear xM
   go_upto_region 18 with fail
   generalize wr.alloc (.cells #[.int .u8 (LO:Int),.int .u8 (HI:Int)] 225)=wN at PI fN jB⊢
   have n0:=PI.cell 0 rfl
   have n1:=PI.cell 1 rfl
   go_cut [103] (fun cc wx=>cc=.bool (decide (t.size<2∨x1.toNat<LO∨HI<x1.toNat))∧Below w.heap.size w wx)
   case first =>
    by_cases q0:t.size<2
    ·have q0z:(t.size:Int)<2:=by omega
     exact jbj
    have q0z:¬ ((t.size:Int)<2):=by omega
    have q0b:decide ((t.size:Int)<2)=false:=decide_eq_false q0z
    have rx:(1:Int)<(t.size:Int):=by omega
    have eK:1<t.size:=by omega
    have d1:wN.cell? ⟨b,off+1,none⟩=some (.int .u8 (x1.toNat:Int)):=by rw[← rl];exact jB.cell (YE.out 1 (by omega))
    by_cases q1:x1.toNat<LO
    ·have q1z:((x1.toNat:Int)<(LO:Int)):=by omega
     exact jbj
    have q1z:¬ ((x1.toNat:Int)<(LO:Int)):=by omega
    have q1b:=jg4
    by_cases q2:HI<x1.toNat
    ·have q2z:((HI:Int)<(x1.toNat:Int)):=by omega
     exact jbj
    have q2z:¬ ((HI:Int)<(x1.toNat:Int)):=by omega
    have q2b:=jg5
    go_big_quiet (fail)
    go_wp2_with fail
    go_meet
    exact⟨congrArg Value.bool (decide_eq_false (p:=t.size<2∨x1.toNat<LO∨HI<x1.toNat) (by omega)).symm,below_drewNv fN nq⟩
   case rest =>
   obtain⟨rfl,mf⟩:=hcut
   by_cases hb:t.size<2∨x1.toNat<LO∨HI<x1.toNat
   ·have ig:decide (t.size<2∨x1.toNat<LO∨HI<x1.toNat)=true:=decide_eq_true hb
    exact jbG
   have ig:decide (t.size<2∨x1.toNat<LO∨HI<x1.toNat)=false:=decide_eq_false hb
   have xM:=YT.out
   rw[if_neg hb]at xM
   rw[ig]
   have mN:(2:Int)≤(t.size:Int):=by omega
   have eH:=YE.out
   obtain⟨t1,cr⟩:∃ t1,t.extract 2 t.size=t1:=⟨_,rfl⟩
   have zt1:t.size-2=t1.size:=by rw[← cr,Lib.ext_size]
   have sbt1:=SB.skipc eH 2 (by omega)
   rw[cr]at sbt1
   obtain⟨Bt1,mA⟩:∃ B,(if t.size=2 then some (⟨b,off,none⟩:Addr) else some ⟨b,off+2,none⟩)=B:=⟨_,rfl⟩
   exact jaD
  by_cases s3:SZ=3
  ·as_aux_lemma =>
   subst s3
   have GZ:(X:Int)%8=3:=by omega
   simp only[Lib.checkN,Nat.reduceEqDiff,if_true,if_false]at xM
   have YT:=Lib.hid xM
   clear xM
   go_upto_region 22 with fail
   generalize wr.alloc (.cells #[.int .u8 (LO:Int),.int .u8 (HI:Int)] 225)=wN at PI fN jB⊢
   have n0:=PI.cell 0 rfl
   have n1:=PI.cell 1 rfl
   go_cut [138] (fun cc wx=>cc=.bool (decide (t.size<3∨x1.toNat<LO∨HI<x1.toNat∨x2.toNat<128∨191<x2.toNat))∧Below w.heap.size w wx)
   case first =>
    by_cases q0:t.size<3
    ·have q0z:(t.size:Int)<3:=by omega
     exact jaF
    have q0z:¬ ((t.size:Int)<3):=by omega
    have q0b:decide ((t.size:Int)<3)=false:=decide_eq_false q0z
    have rx:(1:Int)<(t.size:Int):=by omega
    have eK:1<t.size:=by omega
    have d1:wN.cell? ⟨b,off+1,none⟩=some (.int .u8 (x1.toNat:Int)):=by rw[← rl];exact jB.cell (YE.out 1 (by omega))
    have oN:(2:Int)<(t.size:Int):=by omega
    have rk:2<t.size:=by omega
    have d2:wN.cell? ⟨b,off+2,none⟩=some (.int .u8 (x2.toNat:Int)):=by rw[← oM];exact jB.cell (YE.out 2 (by omega))
    by_cases q1:x1.toNat<LO
    ·have q1z:((x1.toNat:Int)<(LO:Int)):=by omega
     exact jaF
    have q1z:¬ ((x1.toNat:Int)<(LO:Int)):=by omega
    have q1b:=jg4
    by_cases q2:HI<x1.toNat
    ·have q2z:((HI:Int)<(x1.toNat:Int)):=by omega
     exact jaF
    have q2z:¬ ((HI:Int)<(x1.toNat:Int)):=by omega
    have q2b:=jg5
    by_cases q3:x2.toNat<128
    ·have q3z:((x2.toNat:Int)<128):=by omega
     exact jaF
    have q3z:¬ ((x2.toNat:Int)<128):=by omega
    have q3b:decide ((x2.toNat:Int)<128)=false:=decide_eq_false q3z
    by_cases q4:191<x2.toNat
    ·have q4z:((191:Int)<(x2.toNat:Int)):=by omega
     exact jaF
    have q4z:¬ ((191:Int)<(x2.toNat:Int)):=by omega
    have q4b:decide ((191:Int)<(x2.toNat:Int))=false:=decide_eq_false q4z
    go_big_quiet (fail)
    go_wp2_with fail
    go_meet
    exact⟨congrArg Value.bool (decide_eq_false (p:=t.size<3∨x1.toNat<LO∨HI<x1.toNat∨x2.toNat<128∨191<x2.toNat) (by omega)).symm,below_drewNv fN nq⟩
   case rest =>
   obtain⟨rfl,mf⟩:=hcut
   by_cases hb:t.size<3∨x1.toNat<LO∨HI<x1.toNat∨x2.toNat<128∨191<x2.toNat
   ·have ig:decide (t.size<3∨x1.toNat<LO∨HI<x1.toNat∨x2.toNat<128∨191<x2.toNat)=true:=decide_eq_true hb
    exact jbG
   have ig:decide (t.size<3∨x1.toNat<LO∨HI<x1.toNat∨x2.toNat<128∨191<x2.toNat)=false:=decide_eq_false hb
   have xM:=YT.out
   rw[if_neg hb]at xM
   rw[ig]
   have mN:(3:Int)≤(t.size:Int):=by omega
   have eH:=YE.out
   obtain⟨t1,cr⟩:∃ t1,t.extract 3 t.size=t1:=⟨_,rfl⟩
   have zt1:t.size-3=t1.size:=by rw[← cr,Lib.ext_size]
   have sbt1:=SB.skipc eH 3 (by omega)
   rw[cr]at sbt1
   obtain⟨Bt1,mA⟩:∃ B,(if t.size=3 then some (⟨b,off,none⟩:Addr) else some ⟨b,off+3,none⟩)=B:=⟨_,rfl⟩
   exact jaD
  by_cases s4:SZ=4
  ·as_aux_lemma =>
   subst s4
   have GZ:(X:Int)%8=4:=by omega
   simp only[Lib.checkN,Nat.reduceEqDiff,if_true,if_false]at xM
   have YT:=Lib.hid xM
   clear xM
   go_upto_region 26 with fail
   generalize wr.alloc (.cells #[.int .u8 (LO:Int),.int .u8 (HI:Int)] 225)=wN at PI fN jB⊢
   have n0:=PI.cell 0 rfl
   have n1:=PI.cell 1 rfl
   go_cut [185] (fun cc wx=>cc=.bool (decide (t.size<4∨x1.toNat<LO∨HI<x1.toNat∨x2.toNat<128∨191<x2.toNat∨x3.toNat<128∨191<x3.toNat))∧Below w.heap.size w wx)
   case first =>
    by_cases q0:t.size<4
    ·have q0z:(t.size:Int)<4:=by omega
     exact jaq
    have q0z:¬ ((t.size:Int)<4):=by omega
    have q0b:decide ((t.size:Int)<4)=false:=decide_eq_false q0z
    have rx:(1:Int)<(t.size:Int):=by omega
    have eK:1<t.size:=by omega
    have d1:wN.cell? ⟨b,off+1,none⟩=some (.int .u8 (x1.toNat:Int)):=by rw[← rl];exact jB.cell (YE.out 1 (by omega))
    have oN:(2:Int)<(t.size:Int):=by omega
    have rk:2<t.size:=by omega
    have d2:wN.cell? ⟨b,off+2,none⟩=some (.int .u8 (x2.toNat:Int)):=by rw[← oM];exact jB.cell (YE.out 2 (by omega))
    have VT:(3:Int)<(t.size:Int):=by omega
    have SW:3<t.size:=by omega
    have d3:wN.cell? ⟨b,off+3,none⟩=some (.int .u8 (x3.toNat:Int)):=by rw[← Sa];exact jB.cell (YE.out 3 (by omega))
    by_cases q1:x1.toNat<LO
    ·have q1z:((x1.toNat:Int)<(LO:Int)):=by omega
     exact jaq
    have q1z:¬ ((x1.toNat:Int)<(LO:Int)):=by omega
    have q1b:=jg4
    by_cases q2:HI<x1.toNat
    ·have q2z:((HI:Int)<(x1.toNat:Int)):=by omega
     exact jaq
    have q2z:¬ ((HI:Int)<(x1.toNat:Int)):=by omega
    have q2b:=jg5
    by_cases q3:x2.toNat<128
    ·have q3z:((x2.toNat:Int)<128):=by omega
     exact jaq
    have q3z:¬ ((x2.toNat:Int)<128):=by omega
    have q3b:decide ((x2.toNat:Int)<128)=false:=decide_eq_false q3z
    by_cases q4:191<x2.toNat
    ·have q4z:((191:Int)<(x2.toNat:Int)):=by omega
     exact jaq
    have q4z:¬ ((191:Int)<(x2.toNat:Int)):=by omega
    have q4b:decide ((191:Int)<(x2.toNat:Int))=false:=decide_eq_false q4z
    by_cases q5:x3.toNat<128
    ·have q5z:((x3.toNat:Int)<128):=by omega
     exact jaq
    have q5z:¬ ((x3.toNat:Int)<128):=by omega
    have q5b:decide ((x3.toNat:Int)<128)=false:=decide_eq_false q5z
    by_cases q6:191<x3.toNat
    ·have q6z:((191:Int)<(x3.toNat:Int)):=by omega
     exact jaq
    have q6z:¬ ((191:Int)<(x3.toNat:Int)):=by omega
    have q6b:decide ((191:Int)<(x3.toNat:Int))=false:=decide_eq_false q6z
    go_big_quiet (fail)
    go_wp2_with fail
    go_meet
    exact⟨congrArg Value.bool (decide_eq_false (p:=t.size<4∨x1.toNat<LO∨HI<x1.toNat∨x2.toNat<128∨191<x2.toNat∨x3.toNat<128∨191<x3.toNat) (by omega)).symm,below_drewNv fN nq⟩
   case rest =>
   obtain⟨rfl,mf⟩:=hcut
   by_cases hb:t.size<4∨x1.toNat<LO∨HI<x1.toNat∨x2.toNat<128∨191<x2.toNat∨x3.toNat<128∨191<x3.toNat
   ·have ig:decide (t.size<4∨x1.toNat<LO∨HI<x1.toNat∨x2.toNat<128∨191<x2.toNat∨x3.toNat<128∨191<x3.toNat)=true:=decide_eq_true hb
    exact jbG
   have ig:decide (t.size<4∨x1.toNat<LO∨HI<x1.toNat∨x2.toNat<128∨191<x2.toNat∨x3.toNat<128∨191<x3.toNat)=false:=decide_eq_false hb
   have xM:=YT.out
   rw[if_neg hb]at xM
   rw[ig]
   have mN:(4:Int)≤(t.size:Int):=by omega
   have eH:=YE.out
   obtain⟨t1,cr⟩:∃ t1,t.extract 4 t.size=t1:=⟨_,rfl⟩
   have zt1:t.size-4=t1.size:=by rw[← cr,Lib.ext_size]
   have sbt1:=SB.skipc eH 4 (by omega)
   rw[cr]at sbt1
   obtain⟨Bt1,mA⟩:∃ B,(if t.size=4 then some (⟨b,off,none⟩:Addr) else some ⟨b,off+4,none⟩)=B:=⟨_,rfl⟩
   exact jaD
  have e2b:(((X:Int)%8)==2)=false:=by simp;omega
  have e3b:(((X:Int)%8)==3)=false:=by simp;omega
  have e4b:(((X:Int)%8)==4)=false:=by simp;omega
  have e2:¬ ((X:Int)%8=2):=by omega
  have e3:¬ ((X:Int)%8=3):=by omega
  have e4:¬ ((X:Int)%8=4):=by omega
  simp only[Lib.checkN,s2,s3,s4,if_false]at xM
  have YT:=Lib.hid xM
  clear xM
  go_wp2_with fail
  go_ret
  exact⟨by first | rfl | (rw[YT.out];rfl),fN⟩
 have h0z:¬ ((0:Int)<(t.size:Int)):=by omega
 have Eg:t.data.toList=[]:=List.eq_nil_of_length_eq_zero (by rw[← Lib.size_eq];omega)
 have hv:=HV.out
 rw[Eg,Lib.validD_nil]at hv
 subst hv
 go_wp2_with fail
 go_ret
 exact⟨rfl,oL⟩
theorem oy {H:Snap}(hT:Tabs H) (w:World) (hH:Holds w H) (A:Option Addr) (l:List UInt8) (n c:Nat) (hn:n=l.length) (hb:IsBytes H A c l) :
  Calls Tryz.prog 152 #[.slice A n c] w fun e w'=>e=.returned (.bool (Lib.validD l))∧Below w.heap.size w w':=by
 subst hn
 have hl:(⟨l.toArray⟩:ByteArray).size=l.length:=by show l.toArray.size=l.length;simp
 have h:=ZL hT w hH A ⟨l.toArray⟩ c (SB.of hb) (by rw[hl];exact hb.le) (by rw[hl];have:=hb.le;have:=hb.max;omega)
 rw[hl,N5]at h
 exact h
def tV (x:Itm) (lv:Nat):Bool:=if vG x=true then tY x else pC x lv
mutual
def Good:Itm→Nat→Prop
 | .mk k n bs l,lv=>tV (.mk k n bs l) lv=true∧GoodL l (lv+1)∧(k=5→RJ l=true)
def GoodL:List Itm→Nat→Prop
 | [],_=>True
 | x::l,lv=>Good x lv∧GoodL l lv
end
theorem Good.node {x:Itm}{lv:Nat}(h:Good x lv):tV x lv=true:=by cases x;rw[Good]at h;exact h.1
theorem Good.items {x:Itm}{lv:Nat}(h:Good x lv):GoodL x.items (lv+1):=by cases x;rw[Good]at h;exact h.2.1
theorem Good.of {x:Itm}{lv:Nat}(h1:tV x lv=true) (h2:GoodL x.items (lv+1)) (h3:x.kind=5→RJ x.items=true):Good x lv:=by cases x;rw[Good];exact⟨h1,h2,h3⟩
theorem GoodL.get:∀ {l:List Itm}{lv:Nat},GoodL l lv→∀ x∈l,Good x lv
 | [],_,_,x,hx=>by cases hx
 | y::l,lv,h,x,hx=>by
  rw[GoodL]at h
  rcases List.mem_cons.1 hx with rfl | hx
  ·exact h.1
  exact h.2.get x hx
theorem uJ {x:Itm}{lv:Nat}(h:tV x lv=true):(vG x=true∧tY x=true)∨(vG x=false∧pC x lv=true):=by
 unfold tV at h
 cases hp:vG x with
 | true=>rw[if_pos hp]at h;exact .inl ⟨rfl,h⟩
 | false=>rw[if_neg (by simp[hp])]at h;exact .inr ⟨rfl,h⟩
theorem Yv {x:Itm}{lv:Nat}(h:tV x lv=true):0≤x.kind∧x.kind≤8:=by
 rcases uJ h with ⟨h1,_⟩ | ⟨_,h1⟩
 ·rw[vN]at h1;omega
 have:=ol h1;omega
theorem ZT:∀ l:List Itm,l.length≤qg l
 | []=>by simp[qg]
 | x::l=>by
  have:=ZT l
  have h:0<cnt x:=by cases x;rw[cnt];omega
  rw[qg];simp;omega
theorem Qn (x:Itm):cnt x=qg x.items+1:=by cases x;rw[cnt];rfl
theorem nw:∀ a:List UInt8,Lib.compareBytes a a=0
 | []=>by rw[Lib.compareBytes]
 | x::a=>by rw[Lib.compareBytes,if_neg (UInt8.lt_irrefl x),if_neg (UInt8.lt_irrefl x)];exact nw a
theorem dH:∀ a b c:List UInt8,Lib.compareBytes a b<0→Lib.compareBytes b c<0→Lib.compareBytes a c<0
 | [],[],c,h,_=>by rw[Lib.compareBytes]at h;omega
 | [],y::b,[],_,h=>by rw[Lib.compareBytes]at h;omega
 | [],y::b,z::c,_,_=>by rw[Lib.compareBytes];omega
 | x::a,[],c,h,_=>by rw[Lib.compareBytes]at h;omega
 | x::a,y::b,[],_,h=>by rw[Lib.compareBytes]at h;omega
 | x::a,y::b,z::c,h,k=>by
  rw[Lib.compareBytes]at h k⊢
  by_cases h1:x<y
  ·by_cases h2:y<z
   ·have h3:x<z:=UInt8.lt_trans h1 h2
    rw[if_pos h3];omega
   rw[if_neg h2]at k
   by_cases h3:z<y
   ·rw[if_pos h3]at k;omega
   have e:y=z:=UInt8.toNat_inj.1 (by rw[UInt8.lt_iff_toNat_lt]at h2 h3;omega)
   subst e
   rw[if_pos h1];omega
  rw[if_neg h1]at h
  by_cases h2:y<x
  ·rw[if_pos h2]at h;omega
  rw[if_neg h2]at h
  have e:x=y:=UInt8.toNat_inj.1 (by rw[UInt8.lt_iff_toNat_lt]at h1 h2;omega)
  subst e
  by_cases h3:x<z
  ·rw[if_pos h3];omega
  rw[if_neg h3]at k⊢
  by_cases h4:z<x
  ·rw[if_pos h4]at k;omega
  rw[if_neg h4]at k⊢
  exact dH a b c h k
def gl (n:Nat):Nat:=if n<24 then n else if n<256 then 24 else if n<65536 then 25 else if n<4294967296 then 26 else 27
def gm (n:Nat):List UInt8:=if n<24 then [] else if n<256 then [u8 n] else if n<65536 then [u8 (n/256),u8 n] else if n<4294967296 then [u8 (n/16777216),u8 (n/65536),u8 (n/256),u8 n] else be8 n 8
theorem o5 (m n:Nat):zV m n=u8 (m*32+gl n)::gm n:=by
 unfold zV gl gm
 repeat' split
 all_goals rfl
end Go.Proofs.YtkmlnjociijpgaaGreatDoor
