/- squeezed. Walks: the library's Valid of a sl -/
import Derived.Test.YtliomcphdnppnaaGreatDoorK04
import Derived.BigQuiet
set_option linter.unusedVariables false
set_option linter.unusedSimpArgs false
open List (getElem_toArray getElem_cons_zero getElem_cons_succ setIfInBounds_toArray set_cons_zero set_cons_succ)
namespace Go.Proofs.YtliomcphdnppnaaGreatDoor
open Go.RowKit
theorem jaw{P:Prop}(h:P:=by
 go_big_quiet (fail)
 go_wp2_with fail
 go_meet
 exact⟨congrArg Value.bool (decide_eq_true (p:=t.size<4∨x1.toNat<LO∨HI<x1.toNat∨x2.toNat<128∨191<x2.toNat∨x3.toNat<128∨191<x3.toNat) (by omega)).symm,below_drewNv dM nq⟩):P:=h
theorem jaN{P:Prop}(h:P:=by
 rw[kT]at sbt1
 have HE:=Lib.hid (And.intro zt1 kT)
 have Ls:=Lib.hid (show Lib.validD t1.data.toList=ANS by rw[← cD,Lib.ext_list,we])
 have sU:=Lib.hid (show t1.size<t.size∧t1.size≤t0.size by omega)
 clear hb tf Ws we zt1 kT cD ZN n0 n1
 go_wp2_with fail
 go_roundw
 case rel=>exact⟨Bt1,t1,by rw[HE.out.1,HE.out.2],sbt1,Ls.out,sU.out.2,l9⟩
 case measure=>have:=sU.out.1;have:=HE.out.1;simp[gD];omega):P:=h
theorem jaQ{P:Prop}(h:P:=by
 go_big_quiet (fail)
 go_wp2_with fail
 go_meet
 exact⟨congrArg Value.bool (decide_eq_true (p:=t.size<3∨x1.toNat<LO∨HI<x1.toNat∨x2.toNat<128∨191<x2.toNat) (by omega)).symm,below_drewNv dM nq⟩):P:=h
theorem jbn{P:Prop}(h:P:=by
 go_big_quiet (fail)
 go_wp2_with fail
 go_meet
 exact⟨congrArg Value.bool (decide_eq_true (p:=t.size<2∨x1.toNat<LO∨HI<x1.toNat) (by omega)).symm,below_drewNv dM nq⟩):P:=h
theorem jby{P:Prop}(h:P:=by
 try simp only[Act.put,getElem_toArray,getElem_cons_zero,getElem_cons_succ,setIfInBounds_toArray,set_cons_zero,set_cons_succ]
 refine Ways.done (by kernel_rfl) ?_
 go_wp2_with fail
 go_meet
 exact⟨rfl,rfl,by repeat (first | exact nM | exact nM.drew | refine below_drewNv ?_ _)⟩):P:=h
theorem jbF{P:Prop}(h:P:=by
 have we:=Ws.out
 rw[if_pos hb]at we
 rw[tf]
 clear hb tf Ws n0 n1
 go_wp2_with fail
 go_ret
 exact⟨by first | rfl | rw[we],l9⟩):P:=h
theorem jga{P:Prop}(h:P:=by have q1b:decide ((x1.toNat:Int)<(LO:Int))=false:=decide_eq_false q1z;exact q1b):P:=h
theorem jgb{P:Prop}(h:P:=by have q2b:decide ((HI:Int)<(x1.toNat:Int))=false:=decide_eq_false q2z;exact q2b):P:=h
theorem jgD{P:Prop}(h:P:=by have sU:=Lib.hid (show t2.size<t.size∧t2.size≤t0.size by have:=IE.out.1;have:=DL.out.1;omega);exact sU):P:=h
def gD:Value→Nat
 | .slice _ n _=>n
 | _=>0
theorem SB.skipc {H:Snap}{b off:Nat}{t:ByteArray}(h:∀ j,j<t.size→H.cell? ⟨b,off+j,none⟩=some (.int .u8 ((t.get! j).toNat:Int))) (k:Nat) (hk:k≤t.size) :
  SB H (if t.size=k then some (⟨b,off,none⟩:Addr) else some ⟨b,off+k,none⟩) (t.extract k t.size):=fun h0=>by
 rw[Lib.ext_size]at h0
 rw[if_neg (by omega)]
 refine⟨b,off+k,rfl,fun j hj=>?_⟩
 rw[Lib.ext_size]at hj
 rw[Nat.add_assoc,h (k+j) (by omega),← Lib.getD_get!',← Lib.getD_get!',Lib.ext_list]
 simp[List.getD,List.getElem?_drop]
set_option maxHeartbeats 16000000 in
set_option maxRecDepth 1000000 in
theorem Xt {H:Snap}(hT:Tabs H) (w:World) (hH:Holds w H) (A:Option Addr) (t0:ByteArray) (c:Nat) (hs:SB H A t0) (hc:t0.size≤c) (hm:t0.size≤9223372036854775807) :
  Calls Tryz.prog 140 #[.slice A t0.size c] w fun e w'=>e=.returned (.bool (Lib.validD t0.data.toList))∧Below w.heap.size w w':=by
 obtain⟨ANS,GR⟩:∃ ANS,Lib.validD t0.data.toList=ANS:=⟨_,rfl⟩
 rw[GR]
 have zBf:=Lib.hid GR
 clear GR
 have Ww:(t0.size:Int)≤c:=by omega
 go_enter Tryz.func140,Tryz.ntmps140
 go_wp2
 go_loopw [0] (fun v0 wx=>∃ (B:Option Addr) (t:ByteArray),v0=.slice B t.size t.size∧SB H B t∧Lib.validD t.data.toList=ANS∧t.size≤t0.size∧Below w.heap.size w wx) (fun v0 _=>gD v0)
 case atStart=>exact⟨A,t0,rfl,hs,zBf.out,Nat.le_refl _,Below.refl _ _⟩
 case round =>
 obtain⟨B,t,rfl,TJ,hv,hts,nD⟩:=hrel
 have HV:=Lib.hid hv
 clear hv
 by_cases h0:0<t.size
 ·obtain⟨b,off,rfl,ZN⟩:=TJ h0
  have h0z:(0:Int)<(t.size:Int):=by omega
  have xN:=hH.below nD (Nat.le_refl _)
  have c0:=xN.cell (ZN 0 h0)
  have l0:=(t.get! 0).toNat_lt
  obtain⟨x0,JZ⟩:∃ x0,t.get! 0=x0:=⟨_,rfl⟩
  rw[JZ]at c0 l0
  simp only[Nat.add_zero]at c0
  have Pu:=Lib.hid ZN
  by_cases qg:x0.toNat<128
  ·as_aux_lemma =>
   have BQ:(x0.toNat:Int)<128:=by omega
   have h1z:(1:Int)≤(t.size:Int):=by omega
   have a1:Lib.Asc t 1:=Lib.asc_one t h0 (by rw[JZ];exact qg)
   obtain⟨t1,cD⟩:∃ t1,t.extract 1 t.size=t1:=⟨_,rfl⟩
   have zt1:t.size-1=t1.size:=by rw[← cD,Lib.ext_size]
   have sbt1:=SB.skipc ZN 1 (by omega)
   rw[cD]at sbt1
   obtain⟨Bt1,kT⟩:∃ B,(if t.size=1 then some (⟨b,off,none⟩:Addr) else some ⟨b,off+1,none⟩)=B:=⟨_,rfl⟩
   rw[kT]at sbt1
   have V1:Hid (Lib.validD t1.data.toList=ANS):=by rw[Hid,← cD,Lib.valid_skip t 1 a1];exact HV.out
   have IE:=Lib.hid (And.intro zt1 kT)
   clear ZN zt1 a1 JZ cD TJ kT
   go_upto_region 6 with fail
   rw[IE.out.2,IE.out.1]
   by_cases c8:8<t1.size
   ·have c8z:(8:Int)<(t1.size:Int):=by omega
    have c8y:(8:Int)≤(t1.size:Int):=by omega
    obtain⟨A1,AM⟩:∃ A1,Lib.leNat [t1.get! 0,t1.get! 1,t1.get! 2,t1.get! 3,t1.get! 4,t1.get! 5,t1.get! 6,t1.get! 7]=A1:=⟨_,rfl⟩
    have lA1:A1<18446744073709551616:=AM ▸ Lib.word_lt t1
    have cW1:∀ (c:Nat) (W:World),Holds W H→Calls Tryz.prog 187 #[.slice Bt1 t1.size c] W fun e w'=>e=.returned (.int .u64 (A1:Int))∧∃ q,w'=W.drewN q:=fun c W h=>by rw[← AM];exact rh sbt1 (by omega) c W h
    have CW1:=Lib.hid cW1
    have kA1:=Lib.word_asc t1 (by omega)
    rw[AM]at kA1
    clear cW1 AM
    have Oq:bits .and .u64 (A1:Int) 9259542123273814144=((A1 &&& 9259542123273814144:Nat):Int):=u64_and_nat A1 9259542123273814144 lA1 (by omega)
    obtain⟨Z1,hZ1⟩:∃ Z1,A1 &&& 9259542123273814144=Z1:=⟨_,rfl⟩
    rw[hZ1]at Oq kA1
    have KA1:=Lib.hid kA1
    have Bp:=Lib.hid sbt1
    clear hZ1 kA1 lA1 sbt1 c0 l0
    by_cases rE:Z1=0
    ·have D0:((Z1:Int)==0)=true:=by simp[rE]
     have HZ1:=Lib.hid rE
     clear rE
     go_wp2_with (go_at_call 187;refine zH ?_)
     unfold zC
     refine(CW1.out _ _ xN).mono ?_
     rintro e w5 ⟨rfl,q5,rfl⟩
     have xD:=Holds.drewN xN q5
     have l9:=below_drewNv nD q5
     obtain⟨b1,off1,rfl,CX⟩:=Bp.out (by omega)
     obtain⟨t2,Av⟩:∃ t2,t1.extract 8 t1.size=t2:=⟨_,rfl⟩
     have zt2:t1.size-8=t2.size:=by rw[← Av,Lib.ext_size]
     have sbt2:=SB.skipc CX 8 (by omega)
     rw[Av,if_neg (by omega)]at sbt2
     obtain⟨Bt2,GS⟩:∃ B,some (⟨b1,off1+8,none⟩:Addr)=B:=⟨_,rfl⟩
     rw[GS]at sbt2
     have V2:Hid (Lib.validD t2.data.toList=ANS):=by rw[Hid,← Av,Lib.valid_skip t1 8 (KA1.out.1 HZ1.out)];exact V1.out
     have DL:=Lib.hid (And.intro zt2 GS)
     generalize wr.drewN q5=wq at xD l9⊢
     clear zt2 Av CX GS nD xN CW1 KA1 HZ1
     go_upto_region 8 with fail
     rw[DL.out.2,DL.out.1]
     by_cases c16:16<t2.size
     ·have c16z:(16:Int)<(t2.size:Int):=by omega
      have c16y:(16:Int)≤(t2.size:Int):=by omega
      have s8z:(8:Int)≤(t2.size:Int):=by omega
      have n8:(t2.size=8)=False:=eq_false (by omega)
      obtain⟨b2,off2,rfl,Sl⟩:=sbt2 (by omega)
      have zAI:SB H (some ⟨b2,off2,none⟩) t2:=sbt2
      obtain⟨t2b,Lj⟩:∃ t2b,t2.extract 8 t2.size=t2b:=⟨_,rfl⟩
      have zt2b:t2.size-8=t2b.size:=by rw[← Lj,Lib.ext_size]
      have sbt2b:=SB.skipc Sl 8 (by omega)
      rw[Lj,if_neg (by omega)]at sbt2b
      obtain⟨o2b,Le⟩:∃ o,off2+8=o:=⟨_,rfl⟩
      rw[Le]at sbt2b
      obtain⟨A2,AP⟩:∃ A2,Lib.leNat [t2.get! 0,t2.get! 1,t2.get! 2,t2.get! 3,t2.get! 4,t2.get! 5,t2.get! 6,t2.get! 7]=A2:=⟨_,rfl⟩
      have lA2:A2<18446744073709551616:=AP ▸ Lib.word_lt t2
      have cW2:∀ (c:Nat) (W:World),Holds W H→Calls Tryz.prog 187 #[.slice (some ⟨b2,off2,none⟩) t2.size c] W fun e w'=>e=.returned (.int .u64 (A2:Int))∧∃ q,w'=W.drewN q:=fun c W h=>by rw[← AP];exact rh zAI (by omega) c W h
      have CW2:=Lib.hid cW2
      have kA2:=Lib.word_asc t2 (by omega)
      rw[AP]at kA2
      clear cW2 AP
      obtain⟨A3,AQ⟩:∃ A3,Lib.leNat [t2b.get! 0,t2b.get! 1,t2b.get! 2,t2b.get! 3,t2b.get! 4,t2b.get! 5,t2b.get! 6,t2b.get! 7]=A3:=⟨_,rfl⟩
      have lA3:A3<18446744073709551616:=AQ ▸ Lib.word_lt t2b
      have cW3:∀ (c:Nat) (W:World),Holds W H→Calls Tryz.prog 187 #[.slice (some ⟨b2,off2+8,none⟩) (t2.size-8) c] W fun e w'=>e=.returned (.int .u64 (A3:Int))∧∃ q,w'=W.drewN q:=fun c W h=>by rw[← AQ,zt2b,Le];exact rh sbt2b (by omega) c W h
      have CW3:=Lib.hid cW3
      have kA3:=Lib.word_asc t2b (by omega)
      rw[AQ]at kA3
      clear cW3 AQ
      have Ct:bits .or .u64 (A2:Int) (A3:Int)=((A2 ||| A3:Nat):Int):=u64_or_nat A2 A3 lA2 lA3
      have lor2:A2 ||| A3<18446744073709551616:=Nat.or_lt_two_pow (n:=64) lA2 lA3
      have Ot:bits .and .u64 ((A2 ||| A3:Nat):Int) 9259542123273814144=(((A2 ||| A3) &&& 9259542123273814144:Nat):Int):=u64_and_nat _ 9259542123273814144 lor2 (by omega)
      have k2:(A2 ||| A3) &&& 9259542123273814144=0→Lib.Asc t2 16:=fun h0'=>by
       obtain⟨e1,e2⟩:=(Lib.or_mask A2 A3 _).1 h0'
       exact Lib.asc_add t2 8 8 (kA2.1 e1) (by rw[Lj];exact kA3.1 e2)
      obtain⟨O2,ob⟩:∃ O2,A2 ||| A3=O2:=⟨_,rfl⟩
      rw[ob]at Ct Ot k2
      obtain⟨Z2,Dn⟩:∃ Z2,O2 &&& 9259542123273814144=Z2:=⟨_,rfl⟩
      rw[Dn]at Ot k2
      have K2:=Lib.hid k2
      have Bi:=Lib.hid Sl
      clear kA2 kA3 lor2 ob Dn k2 lA2 lA3 Lj sbt2b Sl sbt2
      obtain⟨zz2,D6⟩:∃ zz,((Z2:Int)==0)=zz:=⟨_,rfl⟩
      have En:=Lib.hid D6
      go_cut [0,46] (fun s0 s46 wx=>s0=.slice (some ⟨b2,off2,none⟩) t2.size t2.size∧s46=.bool zz2∧Below w.heap.size w wx)
      case first =>
       clear zt2b Le D0 Oq
       have Sx:=xD
       have nM:=l9
       refine zw 13 (fun _=>True) (by kernel_rfl) (trivial) (fun zy=>?_)
       refine Ways.takeS (i:=0) (v:=?_) rfl (by kernel_rfl) (fun _ _ _ h=>h) (Or.inl ⟨by rfl, ?_⟩) zy ?_
       rotate_left
       ·(intro w tS;(try dsimp only at tS);go_simp;try with_reducible rfl)
       try simp only[Act.put,getElem_toArray,getElem_cons_zero,getElem_cons_succ,setIfInBounds_toArray,set_cons_zero,set_cons_succ]
       refine Ways.takeS (i:=1) (v:=?_) rfl (by kernel_rfl) (fun _ _ _ h=>h) (Or.inl ⟨by rfl, ?_⟩) zy ?_
       rotate_left
       ·(intro w tS;(try dsimp only at tS);go_simp;try with_reducible rfl)
       try simp only[Act.put,getElem_toArray,getElem_cons_zero,getElem_cons_succ,setIfInBounds_toArray,set_cons_zero,set_cons_succ]
       refine Ways.takeS (i:=2) (v:=?_) rfl (by kernel_rfl) (fun _ _ _ h=>h) (Or.inl ⟨by rfl, ?_⟩) zy ?_
       rotate_left
       ·(intro w tS;(try dsimp only at tS);go_simp;try with_reducible rfl)
       try simp only[Act.put,getElem_toArray,getElem_cons_zero,getElem_cons_succ,setIfInBounds_toArray,set_cons_zero,set_cons_succ]
       refine Ways.takeS (i:=3) (v:=?_) rfl (by kernel_rfl) (fun _ _ _ h=>h) (Or.inl ⟨by rfl, ?_⟩) zy ?_
       rotate_left
       ·(intro w tS;(try dsimp only at tS);go_simp;try with_reducible rfl)
       try simp only[Act.put,getElem_toArray,getElem_cons_zero,getElem_cons_succ,setIfInBounds_toArray,set_cons_zero,set_cons_succ]
       refine Ways.takeS (i:=4) (v:=?_) rfl (by kernel_rfl) (fun _ _ _ h=>h) (Or.inl ⟨?_, ?_⟩) zy ?_
       rotate_left
       ·kernel_rfl
       ·(intro w tS;(try dsimp only at tS);go_simp;try with_reducible rfl)
       try simp only[Act.put,getElem_toArray,getElem_cons_zero,getElem_cons_succ,setIfInBounds_toArray,set_cons_zero,set_cons_succ]
       refine Ways.takeS (i:=6) (v:=?_) rfl (by kernel_rfl) (fun _ _ _ h=>h) (Or.inl ⟨?_, ?_⟩) zy ?_
       rotate_left
       ·kernel_rfl
       ·(intro w tS;(try dsimp only at tS);go_simp;try with_reducible rfl)
       try simp only[Act.put,getElem_toArray,getElem_cons_zero,getElem_cons_succ,setIfInBounds_toArray,set_cons_zero,set_cons_succ]
       refine Ways.takeS (i:=7) (v:=?_) rfl (by kernel_rfl) (fun _ _ _ h=>h) (Or.inl ⟨?_, ?_⟩) zy ?_
       rotate_left
       ·kernel_rfl
       ·(intro w tS;(try dsimp only at tS);go_simp;try with_reducible rfl)
       try simp only[Act.put,getElem_toArray,getElem_cons_zero,getElem_cons_succ,setIfInBounds_toArray,set_cons_zero,set_cons_succ]
       refine Ways.one (i:=5) rfl (by kernel_rfl) (fun K hK=>?_)
       go_simp
       refine(CW2.out _ _ (by repeat (first | exact Sx | exact Sx.drew | refine Holds.drewN ?_ _))).mono ?_
       rintro e w5 ⟨rfl,q5,rfl⟩
       refine hK.out _ _ (fun _=>?_) (fun zy=>?_)
       ·exact trivial
       clear hK K
       have zy:=zy (by decide)
       try simp only[Act.put,getElem_toArray,getElem_cons_zero,getElem_cons_succ,setIfInBounds_toArray,set_cons_zero,set_cons_succ]
       refine Ways.one (i:=8) rfl (by kernel_rfl) (fun K hK=>?_)
       go_simp
       refine(CW3.out _ _ (by repeat (first | exact Sx | exact Sx.drew | refine Holds.drewN ?_ _))).mono ?_
       rintro e w5 ⟨rfl,q5,rfl⟩
       refine hK.out _ _ (fun _=>?_) (fun zy=>?_)
       ·exact trivial
       clear hK K
       have zy:=zy (by decide)
       try simp only[Act.put,getElem_toArray,getElem_cons_zero,getElem_cons_succ,setIfInBounds_toArray,set_cons_zero,set_cons_succ]
       refine Ways.takeS (i:=9) (v:=?_) rfl (by kernel_rfl) (fun _ _ _ h=>h) (Or.inl ⟨?_, ?_⟩) zy ?_
       rotate_left
       ·kernel_rfl
       ·(intro w tS;(try dsimp only at tS);go_simp;try with_reducible rfl)
       try simp only[Act.put,getElem_toArray,getElem_cons_zero,getElem_cons_succ,setIfInBounds_toArray,set_cons_zero,set_cons_succ]
       refine Ways.takeS (i:=10) (v:=?_) rfl (by kernel_rfl) (fun _ _ _ h=>h) (Or.inl ⟨?_, ?_⟩) zy ?_
       rotate_left
       ·kernel_rfl
       ·(intro w tS;(try dsimp only at tS);go_simp;try with_reducible rfl)
       try simp only[Act.put,getElem_toArray,getElem_cons_zero,getElem_cons_succ,setIfInBounds_toArray,set_cons_zero,set_cons_succ]
       refine Ways.takeS (i:=11) (v:=?_) rfl (by kernel_rfl) (fun _ _ _ h=>h) (Or.inl ⟨?_, ?_⟩) zy ?_
       rotate_left
       ·kernel_rfl
       ·(intro w tS;(try dsimp only at tS);go_simp;try with_reducible rfl)
       try simp only[Act.put,getElem_toArray,getElem_cons_zero,getElem_cons_succ,setIfInBounds_toArray,set_cons_zero,set_cons_succ]
       refine Ways.takeS (i:=12) (v:=?_) rfl (by kernel_rfl) (fun _ _ _ h=>h) (Or.inl ⟨by rfl, ?_⟩) zy ?_
       rotate_left
       ·(intro w tS;(try dsimp only at tS);go_simp;try with_reducible rfl)
       exact jby
      case rest =>
      clear l9 xD
      obtain⟨rfl,rfl,l9⟩:=hcut
      have xD:=hH.below l9 (Nat.le_refl _)
      cases zz2 with
      | true =>
       have oz:Z2=0:=by have:=En.out;simpa using this
       have Sl:=Bi.out
       obtain⟨t3,Aw⟩:∃ t3,t2.extract 16 t2.size=t3:=⟨_,rfl⟩
       have zt3:t2.size-16=t3.size:=by rw[← Aw,Lib.ext_size]
       have sbt3:=SB.skipc Sl 16 (by omega)
       rw[Aw,if_neg (by omega)]at sbt3
       obtain⟨Bt3,GT⟩:∃ B,some (⟨b2,off2+16,none⟩:Addr)=B:=⟨_,rfl⟩
       rw[GT]at sbt3
       have V3:Hid (Lib.validD t3.data.toList=ANS):=by rw[Hid,← Aw,Lib.valid_skip t2 16 (K2.out oz)];exact V2.out
       have HT3:=Lib.hid (And.intro zt3 GT)
       have sU:=Lib.hid (show t3.size<t.size∧t3.size≤t0.size by have:=IE.out.1;have:=DL.out.1;omega)
       clear zt3 Aw GT Sl Ot Ct D6 oz CW2 CW3 Oq zt2b Le
       go_wp2_with fail
       rw[HT3.out.2,HT3.out.1]
       go_loopw [0] (fun v0 wx=>∃ (B:Option Addr) (u:ByteArray),v0=.slice B u.size u.size∧SB H B u∧Lib.validD u.data.toList=ANS∧u.size≤t3.size∧Below w.heap.size w wx) (fun v0 _=>gD v0)
       case atStart=>exact⟨_,t3,rfl,sbt3,V3.out,Nat.le_refl _,l9⟩
       case round =>
       clear sbt3 l9 xD
       obtain⟨BU,u,rfl,sbu,hvu,hus,l9⟩:=hrel
       have VU:=Lib.hid hvu
       clear hvu
       have xD:=hH.below l9 (Nat.le_refl _)
       by_cases c32:32<u.size
       ·have c32z:(32:Int)<(u.size:Int):=by omega
        have c32y:(32:Int)≤(u.size:Int):=by omega
        have s8u:(8:Int)≤(u.size:Int):=by omega
        have s16u:(16:Int)≤(u.size:Int):=by omega
        have s24u:(24:Int)≤(u.size:Int):=by omega
        have n8u:(u.size=8)=False:=eq_false (by omega)
        have n16u:(u.size=16)=False:=eq_false (by omega)
        have n24u:(u.size=24)=False:=eq_false (by omega)
        obtain⟨bu,ou,rfl,UD⟩:=sbu (by omega)
        obtain⟨ub,JW⟩:∃ ub,u.extract 8 u.size=ub:=⟨_,rfl⟩
        have zub:u.size-8=ub.size:=by rw[← JW,Lib.ext_size]
        have sbub:=SB.skipc UD 8 (by omega)
        rw[JW,if_neg (by omega)]at sbub
        obtain⟨oub,Lf⟩:∃ o,ou+8=o:=⟨_,rfl⟩
        rw[Lf]at sbub
        obtain⟨uc,Ay⟩:∃ uc,u.extract 16 u.size=uc:=⟨_,rfl⟩
        have zuc:u.size-16=uc.size:=by rw[← Ay,Lib.ext_size]
        have sbuc:=SB.skipc UD 16 (by omega)
        rw[Ay,if_neg (by omega)]at sbuc
        obtain⟨ouc,Lg⟩:∃ o,ou+16=o:=⟨_,rfl⟩
        rw[Lg]at sbuc
        obtain⟨ud,Az⟩:∃ ud,u.extract 24 u.size=ud:=⟨_,rfl⟩
        have zud:u.size-24=ud.size:=by rw[← Az,Lib.ext_size]
        have sbud:=SB.skipc UD 24 (by omega)
        rw[Az,if_neg (by omega)]at sbud
        obtain⟨oud,Lh⟩:∃ o,ou+24=o:=⟨_,rfl⟩
        rw[Lh]at sbud
        obtain⟨A4,AS⟩:∃ A4,Lib.leNat [u.get! 0,u.get! 1,u.get! 2,u.get! 3,u.get! 4,u.get! 5,u.get! 6,u.get! 7]=A4:=⟨_,rfl⟩
        have lA4:A4<18446744073709551616:=AS ▸ Lib.word_lt u
        have cW4:∀ (c:Nat) (W:World),Holds W H→Calls Tryz.prog 187 #[.slice (some ⟨bu,ou,none⟩) u.size c] W fun e w'=>e=.returned (.int .u64 (A4:Int))∧∃ q,w'=W.drewN q:=fun c W h=>by rw[← AS];exact rh (fun _=>⟨bu,ou,rfl,UD⟩) (by omega) c W h
        have CW4:=Lib.hid cW4
        have kA4:=Lib.word_asc u (by omega)
        rw[AS]at kA4
        clear cW4 AS
        obtain⟨A5,AV⟩:∃ A5,Lib.leNat [ub.get! 0,ub.get! 1,ub.get! 2,ub.get! 3,ub.get! 4,ub.get! 5,ub.get! 6,ub.get! 7]=A5:=⟨_,rfl⟩
        have lA5:A5<18446744073709551616:=AV ▸ Lib.word_lt ub
        have cW5:∀ (c:Nat) (W:World),Holds W H→Calls Tryz.prog 187 #[.slice (some ⟨bu,ou+8,none⟩) (u.size-8) c] W fun e w'=>e=.returned (.int .u64 (A5:Int))∧∃ q,w'=W.drewN q:=fun c W h=>by rw[← AV,zub,Lf];exact rh sbub (by omega) c W h
        have CW5:=Lib.hid cW5
        have kA5:=Lib.word_asc ub (by omega)
        rw[AV]at kA5
        clear cW5 AV
        obtain⟨A6,AX⟩:∃ A6,Lib.leNat [uc.get! 0,uc.get! 1,uc.get! 2,uc.get! 3,uc.get! 4,uc.get! 5,uc.get! 6,uc.get! 7]=A6:=⟨_,rfl⟩
        have lA6:A6<18446744073709551616:=AX ▸ Lib.word_lt uc
        have cW6:∀ (c:Nat) (W:World),Holds W H→Calls Tryz.prog 187 #[.slice (some ⟨bu,ou+16,none⟩) (u.size-16) c] W fun e w'=>e=.returned (.int .u64 (A6:Int))∧∃ q,w'=W.drewN q:=fun c W h=>by rw[← AX,zuc,Lg];exact rh sbuc (by omega) c W h
        have CW6:=Lib.hid cW6
        have kA6:=Lib.word_asc uc (by omega)
        rw[AX]at kA6
        clear cW6 AX
        obtain⟨A7,IL⟩:∃ A7,Lib.leNat [ud.get! 0,ud.get! 1,ud.get! 2,ud.get! 3,ud.get! 4,ud.get! 5,ud.get! 6,ud.get! 7]=A7:=⟨_,rfl⟩
        have lA7:A7<18446744073709551616:=IL ▸ Lib.word_lt ud
        have cW7:∀ (c:Nat) (W:World),Holds W H→Calls Tryz.prog 187 #[.slice (some ⟨bu,ou+24,none⟩) (u.size-24) c] W fun e w'=>e=.returned (.int .u64 (A7:Int))∧∃ q,w'=W.drewN q:=fun c W h=>by rw[← IL,zud,Lh];exact rh sbud (by omega) c W h
        have CW7:=Lib.hid cW7
        have kA7:=Lib.word_asc ud (by omega)
        rw[IL]at kA7
        clear cW7 IL
        have QW:bits .or .u64 (A4:Int) (A5:Int)=((A4 ||| A5:Nat):Int):=u64_or_nat A4 A5 lA4 lA5
        have Wn:bits .or .u64 (A6:Int) (A7:Int)=((A6 ||| A7:Nat):Int):=u64_or_nat A6 A7 lA6 lA7
        have lo1:A4 ||| A5<18446744073709551616:=Nat.or_lt_two_pow (n:=64) lA4 lA5
        have lo2:A6 ||| A7<18446744073709551616:=Nat.or_lt_two_pow (n:=64) lA6 lA7
        have ho3:bits .or .u64 ((A4 ||| A5:Nat):Int) ((A6 ||| A7:Nat):Int)=(((A4 ||| A5) ||| (A6 ||| A7):Nat):Int):=u64_or_nat _ _ lo1 lo2
        have lo3:(A4 ||| A5) ||| (A6 ||| A7)<18446744073709551616:=Nat.or_lt_two_pow (n:=64) lo1 lo2
        have U3:bits .and .u64 (((A4 ||| A5) ||| (A6 ||| A7):Nat):Int) 9259542123273814144=((((A4 ||| A5) ||| (A6 ||| A7)) &&& 9259542123273814144:Nat):Int):=u64_and_nat _ 9259542123273814144 lo3 (by omega)
        have k3:((A4 ||| A5) ||| (A6 ||| A7)) &&& 9259542123273814144=0→Lib.Asc u 32:=fun h0'=>by
         obtain⟨e01,e23⟩:=(Lib.or_mask _ _ _).1 h0'
         obtain⟨e0,e1⟩:=(Lib.or_mask _ _ _).1 e01
         obtain⟨e2,e3⟩:=(Lib.or_mask _ _ _).1 e23
         have s16:Lib.Asc u 16:=Lib.asc_add u 8 8 (kA4.1 e0) (by rw[JW];exact kA5.1 e1)
         have s24:Lib.Asc u 24:=Lib.asc_add u 16 8 s16 (by rw[Ay];exact kA6.1 e2)
         exact Lib.asc_add u 24 8 s24 (by rw[Az];exact kA7.1 e3)
        obtain⟨P1,MY⟩:∃ P1,A4 ||| A5=P1:=⟨_,rfl⟩
        obtain⟨P2,MZ⟩:∃ P2,A6 ||| A7=P2:=⟨_,rfl⟩
        rw[MY,MZ]at ho3 U3 k3
        rw[MY]at QW
        rw[MZ]at Wn
        obtain⟨P3,Q5⟩:∃ P3,P1 ||| P2=P3:=⟨_,rfl⟩
        rw[Q5]at ho3 U3 k3
        obtain⟨Z3,hZ3⟩:∃ Z3,P3 &&& 9259542123273814144=Z3:=⟨_,rfl⟩
        rw[hZ3]at U3 k3
        have K3:=Lib.hid k3
        have HCU:=Lib.hid UD
        clear kA4 kA5 kA6 kA7 lo1 lo2 lo3 MY MZ Q5 hZ3 k3 JW sbub Ay sbuc Az sbud lA4 lA5 lA6 lA7 UD sbu
        obtain⟨zz3,D7⟩:∃ zz,((Z3:Int)==0)=zz:=⟨_,rfl⟩
        have HZ3:=Lib.hid D7
        go_upto_region 10 with fail
        go_cut [0,69] (fun s0 s69 wx=>s0=.slice (some ⟨bu,ou,none⟩) u.size u.size∧s69=.bool zz3∧Below w.heap.size w wx)
        case first =>
         clear zub zuc zud Lf Lg Lh
         have Sx:=xD
         have nM:=l9
         refine zw 21 (fun _=>True) (by kernel_rfl) (trivial) (fun zy=>?_)
         refine Ways.takeS (i:=0) (v:=?_) rfl (by kernel_rfl) (fun _ _ _ h=>h) (Or.inl ⟨by rfl, ?_⟩) zy ?_
         rotate_left
         ·(intro w tS;(try dsimp only at tS);go_simp;try with_reducible rfl)
         try simp only[Act.put,getElem_toArray,getElem_cons_zero,getElem_cons_succ,setIfInBounds_toArray,set_cons_zero,set_cons_succ]
         refine Ways.takeS (i:=1) (v:=?_) rfl (by kernel_rfl) (fun _ _ _ h=>h) (Or.inl ⟨by rfl, ?_⟩) zy ?_
         rotate_left
         ·(intro w tS;(try dsimp only at tS);go_simp;try with_reducible rfl)
         try simp only[Act.put,getElem_toArray,getElem_cons_zero,getElem_cons_succ,setIfInBounds_toArray,set_cons_zero,set_cons_succ]
         refine Ways.takeS (i:=2) (v:=?_) rfl (by kernel_rfl) (fun _ _ _ h=>h) (Or.inl ⟨by rfl, ?_⟩) zy ?_
         rotate_left
         ·(intro w tS;(try dsimp only at tS);go_simp;try with_reducible rfl)
         try simp only[Act.put,getElem_toArray,getElem_cons_zero,getElem_cons_succ,setIfInBounds_toArray,set_cons_zero,set_cons_succ]
         refine Ways.takeS (i:=3) (v:=?_) rfl (by kernel_rfl) (fun _ _ _ h=>h) (Or.inl ⟨by rfl, ?_⟩) zy ?_
         rotate_left
         ·(intro w tS;(try dsimp only at tS);go_simp;try with_reducible rfl)
         try simp only[Act.put,getElem_toArray,getElem_cons_zero,getElem_cons_succ,setIfInBounds_toArray,set_cons_zero,set_cons_succ]
         refine Ways.takeS (i:=4) (v:=?_) rfl (by kernel_rfl) (fun _ _ _ h=>h) (Or.inl ⟨?_, ?_⟩) zy ?_
         rotate_left
         ·kernel_rfl
         ·(intro w tS;(try dsimp only at tS);go_simp;try with_reducible rfl)
         try simp only[Act.put,getElem_toArray,getElem_cons_zero,getElem_cons_succ,setIfInBounds_toArray,set_cons_zero,set_cons_succ]
         refine Ways.takeS (i:=6) (v:=?_) rfl (by kernel_rfl) (fun _ _ _ h=>h) (Or.inl ⟨?_, ?_⟩) zy ?_
         rotate_left
         ·kernel_rfl
         ·(intro w tS;(try dsimp only at tS);go_simp;try with_reducible rfl)
         try simp only[Act.put,getElem_toArray,getElem_cons_zero,getElem_cons_succ,setIfInBounds_toArray,set_cons_zero,set_cons_succ]
         refine Ways.takeS (i:=7) (v:=?_) rfl (by kernel_rfl) (fun _ _ _ h=>h) (Or.inl ⟨?_, ?_⟩) zy ?_
         rotate_left
         ·kernel_rfl
         ·(intro w tS;(try dsimp only at tS);go_simp;try with_reducible rfl)
         try simp only[Act.put,getElem_toArray,getElem_cons_zero,getElem_cons_succ,setIfInBounds_toArray,set_cons_zero,set_cons_succ]
         refine Ways.takeS (i:=10) (v:=?_) rfl (by kernel_rfl) (fun _ _ _ h=>h) (Or.inl ⟨?_, ?_⟩) zy ?_
         rotate_left
         ·kernel_rfl
         ·(intro w tS;(try dsimp only at tS);go_simp;try with_reducible rfl)
         try simp only[Act.put,getElem_toArray,getElem_cons_zero,getElem_cons_succ,setIfInBounds_toArray,set_cons_zero,set_cons_succ]
         refine Ways.takeS (i:=11) (v:=?_) rfl (by kernel_rfl) (fun _ _ _ h=>h) (Or.inl ⟨?_, ?_⟩) zy ?_
         rotate_left
         ·kernel_rfl
         ·(intro w tS;(try dsimp only at tS);go_simp;try with_reducible rfl)
         try simp only[Act.put,getElem_toArray,getElem_cons_zero,getElem_cons_succ,setIfInBounds_toArray,set_cons_zero,set_cons_succ]
         refine Ways.takeS (i:=13) (v:=?_) rfl (by kernel_rfl) (fun _ _ _ h=>h) (Or.inl ⟨?_, ?_⟩) zy ?_
         rotate_left
         ·kernel_rfl
         ·(intro w tS;(try dsimp only at tS);go_simp;try with_reducible rfl)
         try simp only[Act.put,getElem_toArray,getElem_cons_zero,getElem_cons_succ,setIfInBounds_toArray,set_cons_zero,set_cons_succ]
         refine Ways.takeS (i:=14) (v:=?_) rfl (by kernel_rfl) (fun _ _ _ h=>h) (Or.inl ⟨?_, ?_⟩) zy ?_
         rotate_left
         ·kernel_rfl
         ·(intro w tS;(try dsimp only at tS);go_simp;try with_reducible rfl)
         try simp only[Act.put,getElem_toArray,getElem_cons_zero,getElem_cons_succ,setIfInBounds_toArray,set_cons_zero,set_cons_succ]
         refine Ways.one (i:=5) rfl (by kernel_rfl) (fun K hK=>?_)
         go_simp
         refine(CW4.out _ _ (by repeat (first | exact Sx | exact Sx.drew | refine Holds.drewN ?_ _))).mono ?_
         rintro e w5 ⟨rfl,q5,rfl⟩
         refine hK.out _ _ (fun _=>?_) (fun zy=>?_)
         ·exact trivial
         clear hK K
         have zy:=zy (by decide)
         try simp only[Act.put,getElem_toArray,getElem_cons_zero,getElem_cons_succ,setIfInBounds_toArray,set_cons_zero,set_cons_succ]
         refine Ways.one (i:=8) rfl (by kernel_rfl) (fun K hK=>?_)
         go_simp
         refine(CW5.out _ _ (by repeat (first | exact Sx | exact Sx.drew | refine Holds.drewN ?_ _))).mono ?_
         rintro e w5 ⟨rfl,q5,rfl⟩
         refine hK.out _ _ (fun _=>?_) (fun zy=>?_)
         ·exact trivial
         clear hK K
         have zy:=zy (by decide)
         try simp only[Act.put,getElem_toArray,getElem_cons_zero,getElem_cons_succ,setIfInBounds_toArray,set_cons_zero,set_cons_succ]
         refine Ways.takeS (i:=9) (v:=?_) rfl (by kernel_rfl) (fun _ _ _ h=>h) (Or.inl ⟨?_, ?_⟩) zy ?_
         rotate_left
         ·kernel_rfl
         ·(intro w tS;(try dsimp only at tS);go_simp;try with_reducible rfl)
         try simp only[Act.put,getElem_toArray,getElem_cons_zero,getElem_cons_succ,setIfInBounds_toArray,set_cons_zero,set_cons_succ]
         refine Ways.one (i:=12) rfl (by kernel_rfl) (fun K hK=>?_)
         go_simp
         refine(CW6.out _ _ (by repeat (first | exact Sx | exact Sx.drew | refine Holds.drewN ?_ _))).mono ?_
         rintro e w5 ⟨rfl,q5,rfl⟩
         refine hK.out _ _ (fun _=>?_) (fun zy=>?_)
         ·exact trivial
         clear hK K
         have zy:=zy (by decide)
         try simp only[Act.put,getElem_toArray,getElem_cons_zero,getElem_cons_succ,setIfInBounds_toArray,set_cons_zero,set_cons_succ]
         refine Ways.one (i:=15) rfl (by kernel_rfl) (fun K hK=>?_)
         go_simp
         refine(CW7.out _ _ (by repeat (first | exact Sx | exact Sx.drew | refine Holds.drewN ?_ _))).mono ?_
         rintro e w5 ⟨rfl,q5,rfl⟩
         refine hK.out _ _ (fun _=>?_) (fun zy=>?_)
         ·exact trivial
         clear hK K
         have zy:=zy (by decide)
         try simp only[Act.put,getElem_toArray,getElem_cons_zero,getElem_cons_succ,setIfInBounds_toArray,set_cons_zero,set_cons_succ]
         refine Ways.takeS (i:=16) (v:=?_) rfl (by kernel_rfl) (fun _ _ _ h=>h) (Or.inl ⟨?_, ?_⟩) zy ?_
         rotate_left
         ·kernel_rfl
         ·(intro w tS;(try dsimp only at tS);go_simp;try with_reducible rfl)
         try simp only[Act.put,getElem_toArray,getElem_cons_zero,getElem_cons_succ,setIfInBounds_toArray,set_cons_zero,set_cons_succ]
         refine Ways.takeS (i:=17) (v:=?_) rfl (by kernel_rfl) (fun _ _ _ h=>h) (Or.inl ⟨?_, ?_⟩) zy ?_
         rotate_left
         ·kernel_rfl
         ·(intro w tS;(try dsimp only at tS);go_simp;try with_reducible rfl)
         try simp only[Act.put,getElem_toArray,getElem_cons_zero,getElem_cons_succ,setIfInBounds_toArray,set_cons_zero,set_cons_succ]
         refine Ways.takeS (i:=18) (v:=?_) rfl (by kernel_rfl) (fun _ _ _ h=>h) (Or.inl ⟨?_, ?_⟩) zy ?_
         rotate_left
         ·kernel_rfl
         ·(intro w tS;(try dsimp only at tS);go_simp;try with_reducible rfl)
         try simp only[Act.put,getElem_toArray,getElem_cons_zero,getElem_cons_succ,setIfInBounds_toArray,set_cons_zero,set_cons_succ]
         refine Ways.takeS (i:=19) (v:=?_) rfl (by kernel_rfl) (fun _ _ _ h=>h) (Or.inl ⟨?_, ?_⟩) zy ?_
         rotate_left
         ·kernel_rfl
         ·(intro w tS;(try dsimp only at tS);go_simp;try with_reducible rfl)
         try simp only[Act.put,getElem_toArray,getElem_cons_zero,getElem_cons_succ,setIfInBounds_toArray,set_cons_zero,set_cons_succ]
         refine Ways.takeS (i:=20) (v:=?_) rfl (by kernel_rfl) (fun _ _ _ h=>h) (Or.inl ⟨by rfl, ?_⟩) zy ?_
         rotate_left
         ·(intro w tS;(try dsimp only at tS);go_simp;try with_reducible rfl)
         exact jby
        case rest =>
        clear l9 xD
        obtain⟨rfl,rfl,l9⟩:=hcut
        cases zz3 with
        | true =>
         have Jb:Z3=0:=by have:=HZ3.out;simpa using this
         have UD:=HCU.out
         obtain⟨u2,Iq⟩:∃ u2,u.extract 32 u.size=u2:=⟨_,rfl⟩
         have zu2:u.size-32=u2.size:=by rw[← Iq,Lib.ext_size]
         have sbu2:=SB.skipc UD 32 (by omega)
         rw[Iq,if_neg (by omega)]at sbu2
         obtain⟨Bu2,GU⟩:∃ B,some (⟨bu,ou+32,none⟩:Addr)=B:=⟨_,rfl⟩
         rw[GU]at sbu2
         have VU2:Hid (Lib.validD u2.data.toList=ANS):=by rw[Hid,← Iq,Lib.valid_skip u 32 (K3.out Jb)];exact VU.out
         have HU2:=Lib.hid (And.intro zu2 GU)
         have HLU:=Lib.hid (show u2.size<u.size∧u2.size≤t3.size by omega)
         clear zu2 Iq GU UD Jb D7 U3 QW Wn ho3 zub zuc zud Lf Lg Lh
         go_wp2_with fail
         rw[HU2.out.2,HU2.out.1]
         go_roundw
         case rel=>exact⟨_,u2,rfl,sbu2,VU2.out,HLU.out.2,l9⟩
         case measure=>have:=HLU.out.1;simp[gD];omega
        | false =>
        have Ff:SB H (some ⟨bu,ou,none⟩) u:=fun _=>⟨bu,ou,rfl,HCU.out⟩
        have aV:=Lib.hid (show u.size<t.size∧u.size≤t0.size by have:=sU.out;omega)
        go_wp2_with fail
        go_roundw
        case rel=>exact⟨_,u,rfl,Ff,VU.out,aV.out.2,l9⟩
        case measure=>have:=aV.out.1;simp[gD];omega
       have c32z:¬ ((32:Int)<(u.size:Int)):=by omega
       have c32b:decide ((32:Int)<(u.size:Int))=false:=decide_eq_false c32z
       have aV:=Lib.hid (show u.size<t.size∧u.size≤t0.size by have:=sU.out;omega)
       go_upto_region 10 with fail
       go_big_quiet (fail)
       have l9:=below_drewNv l9 nq
       go_wp2_with fail
       go_roundw
       case rel=>exact⟨_,u,rfl,sbu,VU.out,aV.out.2,l9⟩
       case measure=>have:=aV.out.1;simp[gD];omega
      | false =>
      have Ff:SB H (some ⟨b2,off2,none⟩) t2:=fun _=>⟨b2,off2,rfl,Bi.out⟩
      have sU:=jgD
      go_wp2_with fail
      go_roundw
      case rel=>exact⟨_,t2,rfl,Ff,V2.out,sU.out.2,l9⟩
      case measure=>have:=sU.out.1;simp[gD];omega
     have c16z:¬ ((16:Int)<(t2.size:Int)):=by omega
     have c16b:decide ((16:Int)<(t2.size:Int))=false:=decide_eq_false c16z
     have sU:=jgD
     go_big_quiet (fail)
     have l9:=below_drewNv l9 nq
     go_wp2_with fail
     go_roundw
     case rel=>exact⟨_,t2,rfl,sbt2,V2.out,sU.out.2,l9⟩
     case measure=>have:=sU.out.1;simp[gD];omega
    have D0:((Z1:Int)==0)=false:=by simp;omega
    have sU:=Lib.hid (show t1.size<t.size∧t1.size≤t0.size by have:=IE.out.1;omega)
    go_wp2_with (go_at_call 187;refine zH ?_)
    unfold zC
    refine(CW1.out _ _ xN).mono ?_
    rintro e w5 ⟨rfl,q5,rfl⟩
    have l9:=below_drewNv nD q5
    go_wp2_with fail
    go_roundw
    case rel=>exact⟨_,t1,rfl,Bp.out,V1.out,sU.out.2,l9⟩
    case measure=>have:=sU.out.1;simp[gD];omega
   have c8z:¬ ((8:Int)<(t1.size:Int)):=by omega
   have sU:=Lib.hid (show t1.size<t.size∧t1.size≤t0.size by have:=IE.out.1;omega)
   go_wp2_with fail
   go_roundw
   case rel=>exact⟨_,t1,rfl,sbt1,V1.out,sU.out.2,nD⟩
   case measure=>have:=sU.out.1;simp[gD];omega
  have ZE:128≤x0.toNat:=by omega
  have BQ:¬ ((x0.toNat:Int)<128):=by omega
  obtain⟨x1,lC⟩:∃ x1,t.get! 1=x1:=⟨_,rfl⟩
  obtain⟨x2,X8⟩:∃ x2,t.get! 2=x2:=⟨_,rfl⟩
  obtain⟨x3,TN⟩:∃ x3,t.get! 3=x3:=⟨_,rfl⟩
  have l1:=x1.toNat_lt;have l2:=x2.toNat_lt;have l3:=x3.toNat_lt
  have vl:t.data.toList≠[]:=fun h=>by rw[Lib.size_eq,h]at h0;simp at h0
  have we:=Lib.validD_lead t.data.toList vl (by rw[Lib.getD_get!',JZ];exact ZE)
  rw[Lib.getD_get!',Lib.getD_get!',Lib.getD_get!',Lib.getD_get!',JZ,lC,X8,TN,← Lib.size_eq,HV.out]at we
  have sO:=hT wr xN
  have qr:=sO.1 x0.toNat (by omega)
  have CO:Lib.firstT x0.toNat<256:=by rcases Lib.firstT_cases x0.toNat with h | h | h | h | h | h | h | h | h <;> omega
  obtain⟨X,hX⟩:∃ X,Lib.firstT x0.toNat=X:=⟨_,rfl⟩
  rw[hX]at qr CO we
  have h7:=and7 ⟨X,CO⟩
  simp only at h7
  have ZD:wr.cell? ⟨1,X/16*2,none⟩=some (.int .u8 (Lib.accLo (X/16))):=by rw[Nat.mul_comm];exact(sO.2 (X/16) (by omega)).1
  have MF:wr.cell? ⟨1,X/16*2+1,none⟩=some (.int .u8 (Lib.accHi (X/16))):=by rw[Nat.mul_comm];exact(sO.2 (X/16) (by omega)).2
  obtain⟨LO,hLO⟩:∃ LO,Lib.accLo (X/16)=LO:=⟨_,rfl⟩
  obtain⟨HI,hHI⟩:∃ HI,Lib.accHi (X/16)=HI:=⟨_,rfl⟩
  rw[hLO]at ZD we
  rw[hHI]at MF we
  obtain⟨SZ,hSZ⟩:∃ SZ,X%8=SZ:=⟨_,rfl⟩
  rw[hSZ]at we
  have MU:=Blk.new wr 117 #[.int .u8 (LO:Int),.int .u8 (HI:Int)]
  have dM:=nD.alloc nD.size (.cells #[.int .u8 (LO:Int),.int .u8 (HI:Int)] 117)
  have ZB:=xN.alloc (.cells #[.int .u8 (LO:Int),.int .u8 (HI:Int)] 117)
  obtain⟨N,hN⟩:∃ N,wr.heap.size=N:=⟨_,rfl⟩
  rw[hN]at MU
  clear sO hX hLO hHI vl TJ ZN
  by_cases s2:SZ=2
  ·as_aux_lemma =>
   subst s2
   have CG:(X:Int)%8=2:=by omega
   simp only[Lib.checkN,Nat.reduceEqDiff,if_true,if_false]at we
   have Ws:=Lib.hid we
   clear we
   go_upto_region 18 with fail
   generalize wr.alloc (.cells #[.int .u8 (LO:Int),.int .u8 (HI:Int)] 117)=wN at MU dM ZB⊢
   have n0:=MU.cell 0 rfl
   have n1:=MU.cell 1 rfl
   go_cut [103] (fun cc wx=>cc=.bool (decide (t.size<2∨x1.toNat<LO∨HI<x1.toNat))∧Below w.heap.size w wx)
   case first =>
    by_cases q0:t.size<2
    ·have q0z:(t.size:Int)<2:=by omega
     exact jbn
    have q0z:¬ ((t.size:Int)<2):=by omega
    have q0b:decide ((t.size:Int)<2)=false:=decide_eq_false q0z
    have rE:(1:Int)<(t.size:Int):=by omega
    have dI:1<t.size:=by omega
    have d1:wN.cell? ⟨b,off+1,none⟩=some (.int .u8 (x1.toNat:Int)):=by rw[← lC];exact ZB.cell (Pu.out 1 (by omega))
    by_cases q1:x1.toNat<LO
    ·have q1z:((x1.toNat:Int)<(LO:Int)):=by omega
     exact jbn
    have q1z:¬ ((x1.toNat:Int)<(LO:Int)):=by omega
    have q1b:=jga
    by_cases q2:HI<x1.toNat
    ·have q2z:((HI:Int)<(x1.toNat:Int)):=by omega
     exact jbn
    have q2z:¬ ((HI:Int)<(x1.toNat:Int)):=by omega
    have q2b:=jgb
    go_big_quiet (fail)
    go_wp2_with fail
    go_meet
    exact⟨congrArg Value.bool (decide_eq_false (p:=t.size<2∨x1.toNat<LO∨HI<x1.toNat) (by omega)).symm,below_drewNv dM nq⟩
   case rest =>
   obtain⟨rfl,l9⟩:=hcut
   by_cases hb:t.size<2∨x1.toNat<LO∨HI<x1.toNat
   ·have tf:decide (t.size<2∨x1.toNat<LO∨HI<x1.toNat)=true:=decide_eq_true hb
    exact jbF
   have tf:decide (t.size<2∨x1.toNat<LO∨HI<x1.toNat)=false:=decide_eq_false hb
   have we:=Ws.out
   rw[if_neg hb]at we
   rw[tf]
   have yw:(2:Int)≤(t.size:Int):=by omega
   have ZN:=Pu.out
   obtain⟨t1,cD⟩:∃ t1,t.extract 2 t.size=t1:=⟨_,rfl⟩
   have zt1:t.size-2=t1.size:=by rw[← cD,Lib.ext_size]
   have sbt1:=SB.skipc ZN 2 (by omega)
   rw[cD]at sbt1
   obtain⟨Bt1,kT⟩:∃ B,(if t.size=2 then some (⟨b,off,none⟩:Addr) else some ⟨b,off+2,none⟩)=B:=⟨_,rfl⟩
   exact jaN
  by_cases s3:SZ=3
  ·as_aux_lemma =>
   subst s3
   have CG:(X:Int)%8=3:=by omega
   simp only[Lib.checkN,Nat.reduceEqDiff,if_true,if_false]at we
   have Ws:=Lib.hid we
   clear we
   go_upto_region 22 with fail
   generalize wr.alloc (.cells #[.int .u8 (LO:Int),.int .u8 (HI:Int)] 117)=wN at MU dM ZB⊢
   have n0:=MU.cell 0 rfl
   have n1:=MU.cell 1 rfl
   go_cut [138] (fun cc wx=>cc=.bool (decide (t.size<3∨x1.toNat<LO∨HI<x1.toNat∨x2.toNat<128∨191<x2.toNat))∧Below w.heap.size w wx)
   case first =>
    by_cases q0:t.size<3
    ·have q0z:(t.size:Int)<3:=by omega
     exact jaQ
    have q0z:¬ ((t.size:Int)<3):=by omega
    have q0b:decide ((t.size:Int)<3)=false:=decide_eq_false q0z
    have rE:(1:Int)<(t.size:Int):=by omega
    have dI:1<t.size:=by omega
    have d1:wN.cell? ⟨b,off+1,none⟩=some (.int .u8 (x1.toNat:Int)):=by rw[← lC];exact ZB.cell (Pu.out 1 (by omega))
    have oz:(2:Int)<(t.size:Int):=by omega
    have lB:2<t.size:=by omega
    have d2:wN.cell? ⟨b,off+2,none⟩=some (.int .u8 (x2.toNat:Int)):=by rw[← X8];exact ZB.cell (Pu.out 2 (by omega))
    by_cases q1:x1.toNat<LO
    ·have q1z:((x1.toNat:Int)<(LO:Int)):=by omega
     exact jaQ
    have q1z:¬ ((x1.toNat:Int)<(LO:Int)):=by omega
    have q1b:=jga
    by_cases q2:HI<x1.toNat
    ·have q2z:((HI:Int)<(x1.toNat:Int)):=by omega
     exact jaQ
    have q2z:¬ ((HI:Int)<(x1.toNat:Int)):=by omega
    have q2b:=jgb
    by_cases q3:x2.toNat<128
    ·have q3z:((x2.toNat:Int)<128):=by omega
     exact jaQ
    have q3z:¬ ((x2.toNat:Int)<128):=by omega
    have q3b:decide ((x2.toNat:Int)<128)=false:=decide_eq_false q3z
    by_cases q4:191<x2.toNat
    ·have q4z:((191:Int)<(x2.toNat:Int)):=by omega
     exact jaQ
    have q4z:¬ ((191:Int)<(x2.toNat:Int)):=by omega
    have q4b:decide ((191:Int)<(x2.toNat:Int))=false:=decide_eq_false q4z
    go_big_quiet (fail)
    go_wp2_with fail
    go_meet
    exact⟨congrArg Value.bool (decide_eq_false (p:=t.size<3∨x1.toNat<LO∨HI<x1.toNat∨x2.toNat<128∨191<x2.toNat) (by omega)).symm,below_drewNv dM nq⟩
   case rest =>
   obtain⟨rfl,l9⟩:=hcut
   by_cases hb:t.size<3∨x1.toNat<LO∨HI<x1.toNat∨x2.toNat<128∨191<x2.toNat
   ·have tf:decide (t.size<3∨x1.toNat<LO∨HI<x1.toNat∨x2.toNat<128∨191<x2.toNat)=true:=decide_eq_true hb
    exact jbF
   have tf:decide (t.size<3∨x1.toNat<LO∨HI<x1.toNat∨x2.toNat<128∨191<x2.toNat)=false:=decide_eq_false hb
   have we:=Ws.out
   rw[if_neg hb]at we
   rw[tf]
   have yw:(3:Int)≤(t.size:Int):=by omega
   have ZN:=Pu.out
   obtain⟨t1,cD⟩:∃ t1,t.extract 3 t.size=t1:=⟨_,rfl⟩
   have zt1:t.size-3=t1.size:=by rw[← cD,Lib.ext_size]
   have sbt1:=SB.skipc ZN 3 (by omega)
   rw[cD]at sbt1
   obtain⟨Bt1,kT⟩:∃ B,(if t.size=3 then some (⟨b,off,none⟩:Addr) else some ⟨b,off+3,none⟩)=B:=⟨_,rfl⟩
   exact jaN
  by_cases s4:SZ=4
  ·as_aux_lemma =>
   subst s4
   have CG:(X:Int)%8=4:=by omega
   simp only[Lib.checkN,Nat.reduceEqDiff,if_true,if_false]at we
   have Ws:=Lib.hid we
   clear we
   go_upto_region 26 with fail
   generalize wr.alloc (.cells #[.int .u8 (LO:Int),.int .u8 (HI:Int)] 117)=wN at MU dM ZB⊢
   have n0:=MU.cell 0 rfl
   have n1:=MU.cell 1 rfl
   go_cut [185] (fun cc wx=>cc=.bool (decide (t.size<4∨x1.toNat<LO∨HI<x1.toNat∨x2.toNat<128∨191<x2.toNat∨x3.toNat<128∨191<x3.toNat))∧Below w.heap.size w wx)
   case first =>
    by_cases q0:t.size<4
    ·have q0z:(t.size:Int)<4:=by omega
     exact jaw
    have q0z:¬ ((t.size:Int)<4):=by omega
    have q0b:decide ((t.size:Int)<4)=false:=decide_eq_false q0z
    have rE:(1:Int)<(t.size:Int):=by omega
    have dI:1<t.size:=by omega
    have d1:wN.cell? ⟨b,off+1,none⟩=some (.int .u8 (x1.toNat:Int)):=by rw[← lC];exact ZB.cell (Pu.out 1 (by omega))
    have oz:(2:Int)<(t.size:Int):=by omega
    have lB:2<t.size:=by omega
    have d2:wN.cell? ⟨b,off+2,none⟩=some (.int .u8 (x2.toNat:Int)):=by rw[← X8];exact ZB.cell (Pu.out 2 (by omega))
    have Jb:(3:Int)<(t.size:Int):=by omega
    have MO:3<t.size:=by omega
    have d3:wN.cell? ⟨b,off+3,none⟩=some (.int .u8 (x3.toNat:Int)):=by rw[← TN];exact ZB.cell (Pu.out 3 (by omega))
    by_cases q1:x1.toNat<LO
    ·have q1z:((x1.toNat:Int)<(LO:Int)):=by omega
     exact jaw
    have q1z:¬ ((x1.toNat:Int)<(LO:Int)):=by omega
    have q1b:=jga
    by_cases q2:HI<x1.toNat
    ·have q2z:((HI:Int)<(x1.toNat:Int)):=by omega
     exact jaw
    have q2z:¬ ((HI:Int)<(x1.toNat:Int)):=by omega
    have q2b:=jgb
    by_cases q3:x2.toNat<128
    ·have q3z:((x2.toNat:Int)<128):=by omega
     exact jaw
    have q3z:¬ ((x2.toNat:Int)<128):=by omega
    have q3b:decide ((x2.toNat:Int)<128)=false:=decide_eq_false q3z
    by_cases q4:191<x2.toNat
    ·have q4z:((191:Int)<(x2.toNat:Int)):=by omega
     exact jaw
    have q4z:¬ ((191:Int)<(x2.toNat:Int)):=by omega
    have q4b:decide ((191:Int)<(x2.toNat:Int))=false:=decide_eq_false q4z
    by_cases q5:x3.toNat<128
    ·have q5z:((x3.toNat:Int)<128):=by omega
     exact jaw
    have q5z:¬ ((x3.toNat:Int)<128):=by omega
    have q5b:decide ((x3.toNat:Int)<128)=false:=decide_eq_false q5z
    by_cases q6:191<x3.toNat
    ·have q6z:((191:Int)<(x3.toNat:Int)):=by omega
     exact jaw
    have q6z:¬ ((191:Int)<(x3.toNat:Int)):=by omega
    have q6b:decide ((191:Int)<(x3.toNat:Int))=false:=decide_eq_false q6z
    go_big_quiet (fail)
    go_wp2_with fail
    go_meet
    exact⟨congrArg Value.bool (decide_eq_false (p:=t.size<4∨x1.toNat<LO∨HI<x1.toNat∨x2.toNat<128∨191<x2.toNat∨x3.toNat<128∨191<x3.toNat) (by omega)).symm,below_drewNv dM nq⟩
   case rest =>
   obtain⟨rfl,l9⟩:=hcut
   by_cases hb:t.size<4∨x1.toNat<LO∨HI<x1.toNat∨x2.toNat<128∨191<x2.toNat∨x3.toNat<128∨191<x3.toNat
   ·have tf:decide (t.size<4∨x1.toNat<LO∨HI<x1.toNat∨x2.toNat<128∨191<x2.toNat∨x3.toNat<128∨191<x3.toNat)=true:=decide_eq_true hb
    exact jbF
   have tf:decide (t.size<4∨x1.toNat<LO∨HI<x1.toNat∨x2.toNat<128∨191<x2.toNat∨x3.toNat<128∨191<x3.toNat)=false:=decide_eq_false hb
   have we:=Ws.out
   rw[if_neg hb]at we
   rw[tf]
   have yw:(4:Int)≤(t.size:Int):=by omega
   have ZN:=Pu.out
   obtain⟨t1,cD⟩:∃ t1,t.extract 4 t.size=t1:=⟨_,rfl⟩
   have zt1:t.size-4=t1.size:=by rw[← cD,Lib.ext_size]
   have sbt1:=SB.skipc ZN 4 (by omega)
   rw[cD]at sbt1
   obtain⟨Bt1,kT⟩:∃ B,(if t.size=4 then some (⟨b,off,none⟩:Addr) else some ⟨b,off+4,none⟩)=B:=⟨_,rfl⟩
   exact jaN
  have e2b:(((X:Int)%8)==2)=false:=by simp;omega
  have e3b:(((X:Int)%8)==3)=false:=by simp;omega
  have e4b:(((X:Int)%8)==4)=false:=by simp;omega
  have e2:¬ ((X:Int)%8=2):=by omega
  have e3:¬ ((X:Int)%8=3):=by omega
  have e4:¬ ((X:Int)%8=4):=by omega
  simp only[Lib.checkN,s2,s3,s4,if_false]at we
  have Ws:=Lib.hid we
  clear we
  go_wp2_with fail
  go_ret
  exact⟨by first | rfl | (rw[Ws.out];rfl),dM⟩
 have h0z:¬ ((0:Int)<(t.size:Int)):=by omega
 have UI:t.data.toList=[]:=List.eq_nil_of_length_eq_zero (by rw[← Lib.size_eq];omega)
 have hv:=HV.out
 rw[UI,Lib.validD_nil]at hv
 subst hv
 go_wp2_with fail
 go_ret
 exact⟨rfl,nD⟩
theorem ng {H:Snap}(hT:Tabs H) (w:World) (hH:Holds w H) (A:Option Addr) (l:List UInt8) (n c:Nat) (hn:n=l.length) (hb:IsBytes H A c l) :
  Calls Tryz.prog 140 #[.slice A n c] w fun e w'=>e=.returned (.bool (Lib.validD l))∧Below w.heap.size w w':=by
 subst hn
 have hl:(⟨l.toArray⟩:ByteArray).size=l.length:=by show l.toArray.size=l.length;simp
 have h:=Xt hT w hH A ⟨l.toArray⟩ c (SB.of hb) (by rw[hl];exact hb.le) (by rw[hl];have:=hb.le;have:=hb.max;omega)
 rw[hl,Jl]at h
 exact h
end Go.Proofs.YtliomcphdnppnaaGreatDoor
