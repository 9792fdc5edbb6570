/- squeezed. Walks: the library's Valid of a sl -/
import Derived.Test.YtgaoknihklmakabGreatDoorK03
import Derived.BigQuiet
import Derived.RegionTactic
import Derived.ChangeAlike
import Derived.Shelf.Unicode.DecodeSlow
set_option linter.unusedVariables false
set_option linter.unusedSimpArgs false
open List (getElem_toArray getElem_cons_zero getElem_cons_succ setIfInBounds_toArray set_cons_zero set_cons_succ)
namespace Go.Proofs.YtgaoknihklmakabGreatDoor
open Go.RowKit
theorem jaq{P:Prop}(h:P:=by
 go_big_quiet (fail)
 go_wp2_with fail
 go_meet
 exact⟨congrArg Value.bool (decide_eq_true (p:=t.size<4∨x1.toNat<LO∨HI<x1.toNat∨x2.toNat<128∨191<x2.toNat∨x3.toNat<128∨191<x3.toNat) (by omega)).symm,below_drewNv im nq⟩):P:=h
theorem jaE{P:Prop}(h:P:=by
 rw[mG]at sbt1
 have HE:=Lib.hid (And.intro zt1 mG)
 have Ot:=Lib.hid (show Lib.validD t1.data.toList=ANS by rw[← iA,Lib.ext_list,xD])
 have oa:=Lib.hid (show t1.size<t.size∧t1.size≤t0.size by omega)
 clear hb tE Z5 xD zt1 mG iA XA n0 n1
 go_wp2_with fail
 go_roundw
 case rel=>exact⟨Bt1,t1,by rw[HE.out.1,HE.out.2],sbt1,Ot.out,oa.out.2,oK⟩
 case measure=>have:=oa.out.1;have:=HE.out.1;simp[ii];omega):P:=h
theorem jaG{P:Prop}(h:P:=by
 go_big_quiet (fail)
 go_wp2_with fail
 go_meet
 exact⟨congrArg Value.bool (decide_eq_true (p:=t.size<3∨x1.toNat<LO∨HI<x1.toNat∨x2.toNat<128∨191<x2.toNat) (by omega)).symm,below_drewNv im nq⟩):P:=h
theorem ja1{P:Prop}(h:P:=by
 go_enter Tryz.func106,Tryz.ntmps106
 go_wp2
 go_region
 all_goals go_wp2
 all_goals go_ret2
 all_goals exact⟨e.out,(zm w _).drew⟩):P:=h
theorem jbk{P:Prop}(h:P:=by
 go_big_quiet (fail)
 go_wp2_with fail
 go_meet
 exact⟨congrArg Value.bool (decide_eq_true (p:=t.size<2∨x1.toNat<LO∨HI<x1.toNat) (by omega)).symm,below_drewNv im nq⟩):P:=h
theorem jbv{P:Prop}(h:P:=by
 try simp only[Act.put,getElem_toArray,getElem_cons_zero,getElem_cons_succ,setIfInBounds_toArray,set_cons_zero,set_cons_succ]
 refine Ways.done (by kernel_rfl) ?_
 go_wp2_with fail
 go_meet
 exact⟨rfl,rfl,by repeat (first | exact ip | exact ip.drew | refine below_drewNv ?_ _)⟩):P:=h
theorem jbG{P:Prop}(h:P:=by
 have xD:=Z5.out
 rw[if_pos hb]at xD
 rw[tE]
 clear hb tE Z5 n0 n1
 go_wp2_with fail
 go_ret
 exact⟨by first | rfl | rw[xD],oK⟩):P:=h
theorem jbT{P:Prop}(h:P:=by
 have h3:¬ (113≤ex∧ex≤142):=by omega
 have h4:¬ (103≤ex∧ex<113):=by omega
 rw[if_neg h3,if_neg h4]at E
 go_ret2
 refine⟨⟨0, ?_, ?_⟩,rfl⟩
 ·rw[E.out];rfl
 intro x hx
 rw[E.out]at hx
 cases hx):P:=h
theorem jb8{P:Prop}(h:P:=by
 go_enter Tryz.func75,Tryz.ntmps75
 go_wp2_with fail
 go_ret
 exact⟨by rw[E.out];rfl,zm w _⟩):P:=h
theorem jb9{P:Prop}(h:P:=by
 generalize t/2=u
 have:t%2=0∨t%2=1:=by omega
 rcases this with h | h <;> rw[h] <;> simp only[Nat.reducePow,Nat.reduceSub,Nat.reduceMul,Nat.reduceAdd,Nat.zero_add] <;> omega):P:=h
theorem jdg{P:Prop}(h:P:=by simp[convert,run_underlying hs,run_underlying hd,Conv.floatToFloat,hq,Question.forced]):P:=h
theorem jdr{P:Prop}(h:P:=by rintro⟨a,b,v⟩;exact⟨⟨⟨⟨a,b⟩,v⟩,by rw[a];simp⟩,by rw[b];simp⟩):P:=h
theorem jd5{P:Prop}(h:P:=by rintro⟨⟨⟨⟨a,b⟩,v⟩,_⟩,_⟩;exact⟨a,b,v⟩):P:=h
theorem jhj{P:Prop}(h:P:=by have q1b:decide ((x1.toNat:Int)<(LO:Int))=false:=decide_eq_false q1z;exact q1b):P:=h
theorem jhk{P:Prop}(h:P:=by have q2b:decide ((HI:Int)<(x1.toNat:Int))=false:=decide_eq_false q2z;exact q2b):P:=h
theorem jhL{P:Prop}(h:P:=by have oa:=Lib.hid (show t2.size<t.size∧t2.size≤t0.size by have:=Oq.out.1;have:=Lq.out.1;omega);exact oa):P:=h
def ii:Value→Nat
 | .slice _ n _=>n
 | _=>0
theorem SB.skipc {H:Snap}{b off:Nat}{t:ByteArray}(h:∀ j,j<t.size→H.cell? ⟨b,off+j,none⟩=some (.int .u8 ((t.get! j).toNat:Int))) (k:Nat) (hk:k≤t.size) :
  SB H (if t.size=k then some (⟨b,off,none⟩:Addr) else some ⟨b,off+k,none⟩) (t.extract k t.size):=fun h0=>by
 rw[Lib.ext_size]at h0
 rw[if_neg (by omega)]
 refine⟨b,off+k,rfl,fun j hj=>?_⟩
 rw[Lib.ext_size]at hj
 rw[Nat.add_assoc,h (k+j) (by omega),← Lib.getD_get!',← Lib.getD_get!',Lib.ext_list]
 simp[List.getD,List.getElem?_drop]
set_option maxHeartbeats 16000000 in
set_option maxRecDepth 1000000 in
theorem Zx {H:Snap}(hT:Tabs H) (w:World) (hH:Holds w H) (A:Option Addr) (t0:ByteArray) (c:Nat) (hs:SB H A t0) (hc:t0.size≤c) (hm:t0.size≤9223372036854775807) :
  Calls Tryz.prog 96 #[.slice A t0.size c] w fun e w'=>e=.returned (.bool (Lib.validD t0.data.toList))∧Below w.heap.size w w':=by
 obtain⟨ANS,O5⟩:∃ ANS,Lib.validD t0.data.toList=ANS:=⟨_,rfl⟩
 rw[O5]
 have Fc:=Lib.hid O5
 clear O5
 have Ry:(t0.size:Int)≤c:=by omega
 go_enter Tryz.func96,Tryz.ntmps96
 go_wp2
 go_loopw [0] (fun v0 wx=>∃ (B:Option Addr) (t:ByteArray),v0=.slice B t.size t.size∧SB H B t∧Lib.validD t.data.toList=ANS∧t.size≤t0.size∧Below w.heap.size w wx) (fun v0 _=>ii v0)
 case atStart=>exact⟨A,t0,rfl,hs,Fc.out,Nat.le_refl _,Below.refl _ _⟩
 case round =>
 obtain⟨B,t,rfl,Uv,hv,AN,iM⟩:=hrel
 have HV:=Lib.hid hv
 clear hv
 by_cases h0:0<t.size
 ·obtain⟨b,off,rfl,XA⟩:=Uv h0
  have Br:(0:Int)<(t.size:Int):=by omega
  have vv:=hH.below iM (Nat.le_refl _)
  have c0:=vv.cell (XA 0 h0)
  have l0:=(t.get! 0).toNat_lt
  obtain⟨x0,WR⟩:∃ x0,t.get! 0=x0:=⟨_,rfl⟩
  rw[WR]at c0 l0
  simp only[Nat.add_zero]at c0
  have R9:=Lib.hid XA
  by_cases oG:x0.toNat<128
  ·as_aux_lemma =>
   have Jp:(x0.toNat:Int)<128:=by omega
   have h1z:(1:Int)≤(t.size:Int):=by omega
   have a1:Lib.Asc t 1:=Lib.asc_one t h0 (by rw[WR];exact oG)
   obtain⟨t1,iA⟩:∃ t1,t.extract 1 t.size=t1:=⟨_,rfl⟩
   have zt1:t.size-1=t1.size:=by rw[← iA,Lib.ext_size]
   have sbt1:=SB.skipc XA 1 (by omega)
   rw[iA]at sbt1
   obtain⟨Bt1,mG⟩:∃ B,(if t.size=1 then some (⟨b,off,none⟩:Addr) else some ⟨b,off+1,none⟩)=B:=⟨_,rfl⟩
   rw[mG]at sbt1
   have V1:Hid (Lib.validD t1.data.toList=ANS):=by rw[Hid,← iA,Lib.valid_skip t 1 a1];exact HV.out
   have Oq:=Lib.hid (And.intro zt1 mG)
   clear XA zt1 a1 WR iA Uv mG
   go_upto_region 6 with fail
   rw[Oq.out.2,Oq.out.1]
   by_cases c8:8<t1.size
   ·have c8z:(8:Int)<(t1.size:Int):=by omega
    have c8y:(8:Int)≤(t1.size:Int):=by omega
    obtain⟨A1,Rq⟩:∃ A1,Lib.leNat [t1.get! 0,t1.get! 1,t1.get! 2,t1.get! 3,t1.get! 4,t1.get! 5,t1.get! 6,t1.get! 7]=A1:=⟨_,rfl⟩
    have lA1:A1<18446744073709551616:=Rq ▸ Lib.word_lt t1
    have cW1:∀ (c:Nat) (W:World),Holds W H→Calls Tryz.prog 115 #[.slice Bt1 t1.size c] W fun e w'=>e=.returned (.int .u64 (A1:Int))∧∃ q,w'=W.drewN q:=fun c W h=>by rw[← Rq];exact sC sbt1 (by omega) c W h
    have CW1:=Lib.hid cW1
    have kA1:=Lib.word_asc t1 (by omega)
    rw[Rq]at kA1
    clear cW1 Rq
    have Te:bits .and .u64 (A1:Int) 9259542123273814144=((A1 &&& 9259542123273814144:Nat):Int):=u64_and_nat A1 9259542123273814144 lA1 (by omega)
    obtain⟨Z1,Eo⟩:∃ Z1,A1 &&& 9259542123273814144=Z1:=⟨_,rfl⟩
    rw[Eo]at Te kA1
    have KA1:=Lib.hid kA1
    have KX:=Lib.hid sbt1
    clear Eo kA1 lA1 sbt1 c0 l0
    by_cases qV:Z1=0
    ·have LZ:((Z1:Int)==0)=true:=by simp[qV]
     have EC:=Lib.hid qV
     clear qV
     go_wp2_with (go_at_call 115;refine yq ?_)
     unfold z8
     refine(CW1.out _ _ vv).mono ?_
     rintro e w5 ⟨rfl,q5,rfl⟩
     have uQ:=Holds.drewN vv q5
     have oK:=below_drewNv iM q5
     obtain⟨b1,off1,rfl,L5⟩:=KX.out (by omega)
     obtain⟨t2,Je⟩:∃ t2,t1.extract 8 t1.size=t2:=⟨_,rfl⟩
     have zt2:t1.size-8=t2.size:=by rw[← Je,Lib.ext_size]
     have sbt2:=SB.skipc L5 8 (by omega)
     rw[Je,if_neg (by omega)]at sbt2
     obtain⟨Bt2,O6⟩:∃ B,some (⟨b1,off1+8,none⟩:Addr)=B:=⟨_,rfl⟩
     rw[O6]at sbt2
     have V2:Hid (Lib.validD t2.data.toList=ANS):=by rw[Hid,← Je,Lib.valid_skip t1 8 (KA1.out.1 EC.out)];exact V1.out
     have Lq:=Lib.hid (And.intro zt2 O6)
     generalize wr.drewN q5=wq at uQ oK⊢
     clear zt2 Je L5 O6 iM vv CW1 KA1 EC
     go_upto_region 8 with fail
     rw[Lq.out.2,Lq.out.1]
     by_cases c16:16<t2.size
     ·have c16z:(16:Int)<(t2.size:Int):=by omega
      have c16y:(16:Int)≤(t2.size:Int):=by omega
      have s8z:(8:Int)≤(t2.size:Int):=by omega
      have n8:(t2.size=8)=False:=eq_false (by omega)
      obtain⟨b2,off2,rfl,W6⟩:=sbt2 (by omega)
      have Fn:SB H (some ⟨b2,off2,none⟩) t2:=sbt2
      obtain⟨t2b,R0⟩:∃ t2b,t2.extract 8 t2.size=t2b:=⟨_,rfl⟩
      have zt2b:t2.size-8=t2b.size:=by rw[← R0,Lib.ext_size]
      have sbt2b:=SB.skipc W6 8 (by omega)
      rw[R0,if_neg (by omega)]at sbt2b
      obtain⟨o2b,Qw⟩:∃ o,off2+8=o:=⟨_,rfl⟩
      rw[Qw]at sbt2b
      obtain⟨A2,Rr⟩:∃ A2,Lib.leNat [t2.get! 0,t2.get! 1,t2.get! 2,t2.get! 3,t2.get! 4,t2.get! 5,t2.get! 6,t2.get! 7]=A2:=⟨_,rfl⟩
      have lA2:A2<18446744073709551616:=Rr ▸ Lib.word_lt t2
      have cW2:∀ (c:Nat) (W:World),Holds W H→Calls Tryz.prog 115 #[.slice (some ⟨b2,off2,none⟩) t2.size c] W fun e w'=>e=.returned (.int .u64 (A2:Int))∧∃ q,w'=W.drewN q:=fun c W h=>by rw[← Rr];exact sC Fn (by omega) c W h
      have CW2:=Lib.hid cW2
      have kA2:=Lib.word_asc t2 (by omega)
      rw[Rr]at kA2
      clear cW2 Rr
      obtain⟨A3,J8⟩:∃ A3,Lib.leNat [t2b.get! 0,t2b.get! 1,t2b.get! 2,t2b.get! 3,t2b.get! 4,t2b.get! 5,t2b.get! 6,t2b.get! 7]=A3:=⟨_,rfl⟩
      have lA3:A3<18446744073709551616:=J8 ▸ Lib.word_lt t2b
      have cW3:∀ (c:Nat) (W:World),Holds W H→Calls Tryz.prog 115 #[.slice (some ⟨b2,off2+8,none⟩) (t2.size-8) c] W fun e w'=>e=.returned (.int .u64 (A3:Int))∧∃ q,w'=W.drewN q:=fun c W h=>by rw[← J8,zt2b,Qw];exact sC sbt2b (by omega) c W h
      have CW3:=Lib.hid cW3
      have kA3:=Lib.word_asc t2b (by omega)
      rw[J8]at kA3
      clear cW3 J8
      have LU:bits .or .u64 (A2:Int) (A3:Int)=((A2 ||| A3:Nat):Int):=u64_or_nat A2 A3 lA2 lA3
      have lor2:A2 ||| A3<18446744073709551616:=Nat.or_lt_two_pow (n:=64) lA2 lA3
      have Tf:bits .and .u64 ((A2 ||| A3:Nat):Int) 9259542123273814144=(((A2 ||| A3) &&& 9259542123273814144:Nat):Int):=u64_and_nat _ 9259542123273814144 lor2 (by omega)
      have k2:(A2 ||| A3) &&& 9259542123273814144=0→Lib.Asc t2 16:=fun h0'=>by
       obtain⟨e1,e2⟩:=(Lib.or_mask A2 A3 _).1 h0'
       exact Lib.asc_add t2 8 8 (kA2.1 e1) (by rw[R0];exact kA3.1 e2)
      obtain⟨O2,e7⟩:∃ O2,A2 ||| A3=O2:=⟨_,rfl⟩
      rw[e7]at LU Tf k2
      obtain⟨Z2,Ep⟩:∃ Z2,O2 &&& 9259542123273814144=Z2:=⟨_,rfl⟩
      rw[Ep]at Tf k2
      have K2:=Lib.hid k2
      have KF:=Lib.hid W6
      clear kA2 kA3 lor2 e7 Ep k2 lA2 lA3 R0 sbt2b W6 sbt2
      obtain⟨zz2,Lb⟩:∃ zz,((Z2:Int)==0)=zz:=⟨_,rfl⟩
      have Bo:=Lib.hid Lb
      go_cut [0,46] (fun s0 s46 wx=>s0=.slice (some ⟨b2,off2,none⟩) t2.size t2.size∧s46=.bool zz2∧Below w.heap.size w wx)
      case first =>
       clear zt2b Qw LZ Te
       have WH:=uQ
       have ip:=oK
       refine zj 13 (fun _=>True) (by kernel_rfl) (trivial) (fun zy=>?_)
       refine Ways.takeS (i:=0) (v:=?_) rfl (by kernel_rfl) (fun _ _ _ h=>h) (Or.inl ⟨by rfl, ?_⟩) zy ?_
       rotate_left
       ·(intro w ta;(try dsimp only at ta);go_simp;try with_reducible rfl)
       try simp only[Act.put,getElem_toArray,getElem_cons_zero,getElem_cons_succ,setIfInBounds_toArray,set_cons_zero,set_cons_succ]
       refine Ways.takeS (i:=1) (v:=?_) rfl (by kernel_rfl) (fun _ _ _ h=>h) (Or.inl ⟨by rfl, ?_⟩) zy ?_
       rotate_left
       ·(intro w ta;(try dsimp only at ta);go_simp;try with_reducible rfl)
       try simp only[Act.put,getElem_toArray,getElem_cons_zero,getElem_cons_succ,setIfInBounds_toArray,set_cons_zero,set_cons_succ]
       refine Ways.takeS (i:=2) (v:=?_) rfl (by kernel_rfl) (fun _ _ _ h=>h) (Or.inl ⟨by rfl, ?_⟩) zy ?_
       rotate_left
       ·(intro w ta;(try dsimp only at ta);go_simp;try with_reducible rfl)
       try simp only[Act.put,getElem_toArray,getElem_cons_zero,getElem_cons_succ,setIfInBounds_toArray,set_cons_zero,set_cons_succ]
       refine Ways.takeS (i:=3) (v:=?_) rfl (by kernel_rfl) (fun _ _ _ h=>h) (Or.inl ⟨by rfl, ?_⟩) zy ?_
       rotate_left
       ·(intro w ta;(try dsimp only at ta);go_simp;try with_reducible rfl)
       try simp only[Act.put,getElem_toArray,getElem_cons_zero,getElem_cons_succ,setIfInBounds_toArray,set_cons_zero,set_cons_succ]
       refine Ways.takeS (i:=4) (v:=?_) rfl (by kernel_rfl) (fun _ _ _ h=>h) (Or.inl ⟨?_, ?_⟩) zy ?_
       rotate_left
       ·kernel_rfl
       ·(intro w ta;(try dsimp only at ta);go_simp;try with_reducible rfl)
       try simp only[Act.put,getElem_toArray,getElem_cons_zero,getElem_cons_succ,setIfInBounds_toArray,set_cons_zero,set_cons_succ]
       refine Ways.takeS (i:=6) (v:=?_) rfl (by kernel_rfl) (fun _ _ _ h=>h) (Or.inl ⟨?_, ?_⟩) zy ?_
       rotate_left
       ·kernel_rfl
       ·(intro w ta;(try dsimp only at ta);go_simp;try with_reducible rfl)
       try simp only[Act.put,getElem_toArray,getElem_cons_zero,getElem_cons_succ,setIfInBounds_toArray,set_cons_zero,set_cons_succ]
       refine Ways.takeS (i:=7) (v:=?_) rfl (by kernel_rfl) (fun _ _ _ h=>h) (Or.inl ⟨?_, ?_⟩) zy ?_
       rotate_left
       ·kernel_rfl
       ·(intro w ta;(try dsimp only at ta);go_simp;try with_reducible rfl)
       try simp only[Act.put,getElem_toArray,getElem_cons_zero,getElem_cons_succ,setIfInBounds_toArray,set_cons_zero,set_cons_succ]
       refine Ways.one (i:=5) rfl (by kernel_rfl) (fun K hK=>?_)
       go_simp
       refine(CW2.out _ _ (by repeat (first | exact WH | exact WH.drew | refine Holds.drewN ?_ _))).mono ?_
       rintro e w5 ⟨rfl,q5,rfl⟩
       refine hK.out _ _ (fun _=>?_) (fun zy=>?_)
       ·exact trivial
       clear hK K
       have zy:=zy (by decide)
       try simp only[Act.put,getElem_toArray,getElem_cons_zero,getElem_cons_succ,setIfInBounds_toArray,set_cons_zero,set_cons_succ]
       refine Ways.one (i:=8) rfl (by kernel_rfl) (fun K hK=>?_)
       go_simp
       refine(CW3.out _ _ (by repeat (first | exact WH | exact WH.drew | refine Holds.drewN ?_ _))).mono ?_
       rintro e w5 ⟨rfl,q5,rfl⟩
       refine hK.out _ _ (fun _=>?_) (fun zy=>?_)
       ·exact trivial
       clear hK K
       have zy:=zy (by decide)
       try simp only[Act.put,getElem_toArray,getElem_cons_zero,getElem_cons_succ,setIfInBounds_toArray,set_cons_zero,set_cons_succ]
       refine Ways.takeS (i:=9) (v:=?_) rfl (by kernel_rfl) (fun _ _ _ h=>h) (Or.inl ⟨?_, ?_⟩) zy ?_
       rotate_left
       ·kernel_rfl
       ·(intro w ta;(try dsimp only at ta);go_simp;try with_reducible rfl)
       try simp only[Act.put,getElem_toArray,getElem_cons_zero,getElem_cons_succ,setIfInBounds_toArray,set_cons_zero,set_cons_succ]
       refine Ways.takeS (i:=10) (v:=?_) rfl (by kernel_rfl) (fun _ _ _ h=>h) (Or.inl ⟨?_, ?_⟩) zy ?_
       rotate_left
       ·kernel_rfl
       ·(intro w ta;(try dsimp only at ta);go_simp;try with_reducible rfl)
       try simp only[Act.put,getElem_toArray,getElem_cons_zero,getElem_cons_succ,setIfInBounds_toArray,set_cons_zero,set_cons_succ]
       refine Ways.takeS (i:=11) (v:=?_) rfl (by kernel_rfl) (fun _ _ _ h=>h) (Or.inl ⟨?_, ?_⟩) zy ?_
       rotate_left
       ·kernel_rfl
       ·(intro w ta;(try dsimp only at ta);go_simp;try with_reducible rfl)
       try simp only[Act.put,getElem_toArray,getElem_cons_zero,getElem_cons_succ,setIfInBounds_toArray,set_cons_zero,set_cons_succ]
       refine Ways.takeS (i:=12) (v:=?_) rfl (by kernel_rfl) (fun _ _ _ h=>h) (Or.inl ⟨by rfl, ?_⟩) zy ?_
       rotate_left
       ·(intro w ta;(try dsimp only at ta);go_simp;try with_reducible rfl)
       exact jbv
      case rest =>
      clear oK uQ
      obtain⟨rfl,rfl,oK⟩:=hcut
      have uQ:=hH.below oK (Nat.le_refl _)
      cases zz2 with
      | true =>
       have q9:Z2=0:=by have:=Bo.out;simpa using this
       have W6:=KF.out
       obtain⟨t3,Jf⟩:∃ t3,t2.extract 16 t2.size=t3:=⟨_,rfl⟩
       have zt3:t2.size-16=t3.size:=by rw[← Jf,Lib.ext_size]
       have sbt3:=SB.skipc W6 16 (by omega)
       rw[Jf,if_neg (by omega)]at sbt3
       obtain⟨Bt3,O7⟩:∃ B,some (⟨b2,off2+16,none⟩:Addr)=B:=⟨_,rfl⟩
       rw[O7]at sbt3
       have V3:Hid (Lib.validD t3.data.toList=ANS):=by rw[Hid,← Jf,Lib.valid_skip t2 16 (K2.out q9)];exact V2.out
       have E6:=Lib.hid (And.intro zt3 O7)
       have oa:=Lib.hid (show t3.size<t.size∧t3.size≤t0.size by have:=Oq.out.1;have:=Lq.out.1;omega)
       clear zt3 Jf O7 W6 Tf LU Lb q9 CW2 CW3 Te zt2b Qw
       go_wp2_with fail
       rw[E6.out.2,E6.out.1]
       go_loopw [0] (fun v0 wx=>∃ (B:Option Addr) (u:ByteArray),v0=.slice B u.size u.size∧SB H B u∧Lib.validD u.data.toList=ANS∧u.size≤t3.size∧Below w.heap.size w wx) (fun v0 _=>ii v0)
       case atStart=>exact⟨_,t3,rfl,sbt3,V3.out,Nat.le_refl _,oK⟩
       case round =>
       clear sbt3 oK uQ
       obtain⟨BU,u,rfl,sbu,FX,AO,oK⟩:=hrel
       have VU:=Lib.hid FX
       clear FX
       have uQ:=hH.below oK (Nat.le_refl _)
       by_cases c32:32<u.size
       ·have c32z:(32:Int)<(u.size:Int):=by omega
        have c32y:(32:Int)≤(u.size:Int):=by omega
        have s8u:(8:Int)≤(u.size:Int):=by omega
        have s16u:(16:Int)≤(u.size:Int):=by omega
        have s24u:(24:Int)≤(u.size:Int):=by omega
        have n8u:(u.size=8)=False:=eq_false (by omega)
        have n16u:(u.size=16)=False:=eq_false (by omega)
        have n24u:(u.size=24)=False:=eq_false (by omega)
        obtain⟨bu,ou,rfl,RU⟩:=sbu (by omega)
        obtain⟨ub,Jg⟩:∃ ub,u.extract 8 u.size=ub:=⟨_,rfl⟩
        have zub:u.size-8=ub.size:=by rw[← Jg,Lib.ext_size]
        have sbub:=SB.skipc RU 8 (by omega)
        rw[Jg,if_neg (by omega)]at sbub
        obtain⟨oub,Qx⟩:∃ o,ou+8=o:=⟨_,rfl⟩
        rw[Qx]at sbub
        obtain⟨uc,Jh⟩:∃ uc,u.extract 16 u.size=uc:=⟨_,rfl⟩
        have zuc:u.size-16=uc.size:=by rw[← Jh,Lib.ext_size]
        have sbuc:=SB.skipc RU 16 (by omega)
        rw[Jh,if_neg (by omega)]at sbuc
        obtain⟨ouc,Qy⟩:∃ o,ou+16=o:=⟨_,rfl⟩
        rw[Qy]at sbuc
        obtain⟨ud,Ji⟩:∃ ud,u.extract 24 u.size=ud:=⟨_,rfl⟩
        have zud:u.size-24=ud.size:=by rw[← Ji,Lib.ext_size]
        have sbud:=SB.skipc RU 24 (by omega)
        rw[Ji,if_neg (by omega)]at sbud
        obtain⟨oud,Qz⟩:∃ o,ou+24=o:=⟨_,rfl⟩
        rw[Qz]at sbud
        obtain⟨A4,J9⟩:∃ A4,Lib.leNat [u.get! 0,u.get! 1,u.get! 2,u.get! 3,u.get! 4,u.get! 5,u.get! 6,u.get! 7]=A4:=⟨_,rfl⟩
        have lA4:A4<18446744073709551616:=J9 ▸ Lib.word_lt u
        have cW4:∀ (c:Nat) (W:World),Holds W H→Calls Tryz.prog 115 #[.slice (some ⟨bu,ou,none⟩) u.size c] W fun e w'=>e=.returned (.int .u64 (A4:Int))∧∃ q,w'=W.drewN q:=fun c W h=>by rw[← J9];exact sC (fun _=>⟨bu,ou,rfl,RU⟩) (by omega) c W h
        have CW4:=Lib.hid cW4
        have kA4:=Lib.word_asc u (by omega)
        rw[J9]at kA4
        clear cW4 J9
        obtain⟨A5,JA⟩:∃ A5,Lib.leNat [ub.get! 0,ub.get! 1,ub.get! 2,ub.get! 3,ub.get! 4,ub.get! 5,ub.get! 6,ub.get! 7]=A5:=⟨_,rfl⟩
        have lA5:A5<18446744073709551616:=JA ▸ Lib.word_lt ub
        have cW5:∀ (c:Nat) (W:World),Holds W H→Calls Tryz.prog 115 #[.slice (some ⟨bu,ou+8,none⟩) (u.size-8) c] W fun e w'=>e=.returned (.int .u64 (A5:Int))∧∃ q,w'=W.drewN q:=fun c W h=>by rw[← JA,zub,Qx];exact sC sbub (by omega) c W h
        have CW5:=Lib.hid cW5
        have kA5:=Lib.word_asc ub (by omega)
        rw[JA]at kA5
        clear cW5 JA
        obtain⟨A6,JB⟩:∃ A6,Lib.leNat [uc.get! 0,uc.get! 1,uc.get! 2,uc.get! 3,uc.get! 4,uc.get! 5,uc.get! 6,uc.get! 7]=A6:=⟨_,rfl⟩
        have lA6:A6<18446744073709551616:=JB ▸ Lib.word_lt uc
        have cW6:∀ (c:Nat) (W:World),Holds W H→Calls Tryz.prog 115 #[.slice (some ⟨bu,ou+16,none⟩) (u.size-16) c] W fun e w'=>e=.returned (.int .u64 (A6:Int))∧∃ q,w'=W.drewN q:=fun c W h=>by rw[← JB,zuc,Qy];exact sC sbuc (by omega) c W h
        have CW6:=Lib.hid cW6
        have kA6:=Lib.word_asc uc (by omega)
        rw[JB]at kA6
        clear cW6 JB
        obtain⟨A7,Rs⟩:∃ A7,Lib.leNat [ud.get! 0,ud.get! 1,ud.get! 2,ud.get! 3,ud.get! 4,ud.get! 5,ud.get! 6,ud.get! 7]=A7:=⟨_,rfl⟩
        have lA7:A7<18446744073709551616:=Rs ▸ Lib.word_lt ud
        have cW7:∀ (c:Nat) (W:World),Holds W H→Calls Tryz.prog 115 #[.slice (some ⟨bu,ou+24,none⟩) (u.size-24) c] W fun e w'=>e=.returned (.int .u64 (A7:Int))∧∃ q,w'=W.drewN q:=fun c W h=>by rw[← Rs,zud,Qz];exact sC sbud (by omega) c W h
        have CW7:=Lib.hid cW7
        have kA7:=Lib.word_asc ud (by omega)
        rw[Rs]at kA7
        clear cW7 Rs
        have Ur:bits .or .u64 (A4:Int) (A5:Int)=((A4 ||| A5:Nat):Int):=u64_or_nat A4 A5 lA4 lA5
        have Yx:bits .or .u64 (A6:Int) (A7:Int)=((A6 ||| A7:Nat):Int):=u64_or_nat A6 A7 lA6 lA7
        have lo1:A4 ||| A5<18446744073709551616:=Nat.or_lt_two_pow (n:=64) lA4 lA5
        have lo2:A6 ||| A7<18446744073709551616:=Nat.or_lt_two_pow (n:=64) lA6 lA7
        have Ib:bits .or .u64 ((A4 ||| A5:Nat):Int) ((A6 ||| A7:Nat):Int)=(((A4 ||| A5) ||| (A6 ||| A7):Nat):Int):=u64_or_nat _ _ lo1 lo2
        have lo3:(A4 ||| A5) ||| (A6 ||| A7)<18446744073709551616:=Nat.or_lt_two_pow (n:=64) lo1 lo2
        have X0:bits .and .u64 (((A4 ||| A5) ||| (A6 ||| A7):Nat):Int) 9259542123273814144=((((A4 ||| A5) ||| (A6 ||| A7)) &&& 9259542123273814144:Nat):Int):=u64_and_nat _ 9259542123273814144 lo3 (by omega)
        have k3:((A4 ||| A5) ||| (A6 ||| A7)) &&& 9259542123273814144=0→Lib.Asc u 32:=fun h0'=>by
         obtain⟨e01,e23⟩:=(Lib.or_mask _ _ _).1 h0'
         obtain⟨e0,e1⟩:=(Lib.or_mask _ _ _).1 e01
         obtain⟨e2,e3⟩:=(Lib.or_mask _ _ _).1 e23
         have s16:Lib.Asc u 16:=Lib.asc_add u 8 8 (kA4.1 e0) (by rw[Jg];exact kA5.1 e1)
         have s24:Lib.Asc u 24:=Lib.asc_add u 16 8 s16 (by rw[Jh];exact kA6.1 e2)
         exact Lib.asc_add u 24 8 s24 (by rw[Ji];exact kA7.1 e3)
        obtain⟨P1,dB⟩:∃ P1,A4 ||| A5=P1:=⟨_,rfl⟩
        obtain⟨P2,Ox⟩:∃ P2,A6 ||| A7=P2:=⟨_,rfl⟩
        rw[dB,Ox]at Ib X0 k3
        rw[dB]at Ur
        rw[Ox]at Yx
        obtain⟨P3,Z9⟩:∃ P3,P1 ||| P2=P3:=⟨_,rfl⟩
        rw[Z9]at Ib X0 k3
        obtain⟨Z3,Er⟩:∃ Z3,P3 &&& 9259542123273814144=Z3:=⟨_,rfl⟩
        rw[Er]at X0 k3
        have K3:=Lib.hid k3
        have DY:=Lib.hid RU
        clear kA4 kA5 kA6 kA7 lo1 lo2 lo3 dB Ox Z9 Er k3 Jg sbub Jh sbuc Ji sbud lA4 lA5 lA6 lA7 RU sbu
        obtain⟨zz3,Lc⟩:∃ zz,((Z3:Int)==0)=zz:=⟨_,rfl⟩
        have Bn:=Lib.hid Lc
        go_upto_region 10 with fail
        go_cut [0,69] (fun s0 s69 wx=>s0=.slice (some ⟨bu,ou,none⟩) u.size u.size∧s69=.bool zz3∧Below w.heap.size w wx)
        case first =>
         clear zub zuc zud Qx Qy Qz
         have WH:=uQ
         have ip:=oK
         refine zj 21 (fun _=>True) (by kernel_rfl) (trivial) (fun zy=>?_)
         refine Ways.takeS (i:=0) (v:=?_) rfl (by kernel_rfl) (fun _ _ _ h=>h) (Or.inl ⟨by rfl, ?_⟩) zy ?_
         rotate_left
         ·(intro w ta;(try dsimp only at ta);go_simp;try with_reducible rfl)
         try simp only[Act.put,getElem_toArray,getElem_cons_zero,getElem_cons_succ,setIfInBounds_toArray,set_cons_zero,set_cons_succ]
         refine Ways.takeS (i:=1) (v:=?_) rfl (by kernel_rfl) (fun _ _ _ h=>h) (Or.inl ⟨by rfl, ?_⟩) zy ?_
         rotate_left
         ·(intro w ta;(try dsimp only at ta);go_simp;try with_reducible rfl)
         try simp only[Act.put,getElem_toArray,getElem_cons_zero,getElem_cons_succ,setIfInBounds_toArray,set_cons_zero,set_cons_succ]
         refine Ways.takeS (i:=2) (v:=?_) rfl (by kernel_rfl) (fun _ _ _ h=>h) (Or.inl ⟨by rfl, ?_⟩) zy ?_
         rotate_left
         ·(intro w ta;(try dsimp only at ta);go_simp;try with_reducible rfl)
         try simp only[Act.put,getElem_toArray,getElem_cons_zero,getElem_cons_succ,setIfInBounds_toArray,set_cons_zero,set_cons_succ]
         refine Ways.takeS (i:=3) (v:=?_) rfl (by kernel_rfl) (fun _ _ _ h=>h) (Or.inl ⟨by rfl, ?_⟩) zy ?_
         rotate_left
         ·(intro w ta;(try dsimp only at ta);go_simp;try with_reducible rfl)
         try simp only[Act.put,getElem_toArray,getElem_cons_zero,getElem_cons_succ,setIfInBounds_toArray,set_cons_zero,set_cons_succ]
         refine Ways.takeS (i:=4) (v:=?_) rfl (by kernel_rfl) (fun _ _ _ h=>h) (Or.inl ⟨?_, ?_⟩) zy ?_
         rotate_left
         ·kernel_rfl
         ·(intro w ta;(try dsimp only at ta);go_simp;try with_reducible rfl)
         try simp only[Act.put,getElem_toArray,getElem_cons_zero,getElem_cons_succ,setIfInBounds_toArray,set_cons_zero,set_cons_succ]
         refine Ways.takeS (i:=6) (v:=?_) rfl (by kernel_rfl) (fun _ _ _ h=>h) (Or.inl ⟨?_, ?_⟩) zy ?_
         rotate_left
         ·kernel_rfl
         ·(intro w ta;(try dsimp only at ta);go_simp;try with_reducible rfl)
         try simp only[Act.put,getElem_toArray,getElem_cons_zero,getElem_cons_succ,setIfInBounds_toArray,set_cons_zero,set_cons_succ]
         refine Ways.takeS (i:=7) (v:=?_) rfl (by kernel_rfl) (fun _ _ _ h=>h) (Or.inl ⟨?_, ?_⟩) zy ?_
         rotate_left
         ·kernel_rfl
         ·(intro w ta;(try dsimp only at ta);go_simp;try with_reducible rfl)
         try simp only[Act.put,getElem_toArray,getElem_cons_zero,getElem_cons_succ,setIfInBounds_toArray,set_cons_zero,set_cons_succ]
         refine Ways.takeS (i:=10) (v:=?_) rfl (by kernel_rfl) (fun _ _ _ h=>h) (Or.inl ⟨?_, ?_⟩) zy ?_
         rotate_left
         ·kernel_rfl
         ·(intro w ta;(try dsimp only at ta);go_simp;try with_reducible rfl)
         try simp only[Act.put,getElem_toArray,getElem_cons_zero,getElem_cons_succ,setIfInBounds_toArray,set_cons_zero,set_cons_succ]
         refine Ways.takeS (i:=11) (v:=?_) rfl (by kernel_rfl) (fun _ _ _ h=>h) (Or.inl ⟨?_, ?_⟩) zy ?_
         rotate_left
         ·kernel_rfl
         ·(intro w ta;(try dsimp only at ta);go_simp;try with_reducible rfl)
         try simp only[Act.put,getElem_toArray,getElem_cons_zero,getElem_cons_succ,setIfInBounds_toArray,set_cons_zero,set_cons_succ]
         refine Ways.takeS (i:=13) (v:=?_) rfl (by kernel_rfl) (fun _ _ _ h=>h) (Or.inl ⟨?_, ?_⟩) zy ?_
         rotate_left
         ·kernel_rfl
         ·(intro w ta;(try dsimp only at ta);go_simp;try with_reducible rfl)
         try simp only[Act.put,getElem_toArray,getElem_cons_zero,getElem_cons_succ,setIfInBounds_toArray,set_cons_zero,set_cons_succ]
         refine Ways.takeS (i:=14) (v:=?_) rfl (by kernel_rfl) (fun _ _ _ h=>h) (Or.inl ⟨?_, ?_⟩) zy ?_
         rotate_left
         ·kernel_rfl
         ·(intro w ta;(try dsimp only at ta);go_simp;try with_reducible rfl)
         try simp only[Act.put,getElem_toArray,getElem_cons_zero,getElem_cons_succ,setIfInBounds_toArray,set_cons_zero,set_cons_succ]
         refine Ways.one (i:=5) rfl (by kernel_rfl) (fun K hK=>?_)
         go_simp
         refine(CW4.out _ _ (by repeat (first | exact WH | exact WH.drew | refine Holds.drewN ?_ _))).mono ?_
         rintro e w5 ⟨rfl,q5,rfl⟩
         refine hK.out _ _ (fun _=>?_) (fun zy=>?_)
         ·exact trivial
         clear hK K
         have zy:=zy (by decide)
         try simp only[Act.put,getElem_toArray,getElem_cons_zero,getElem_cons_succ,setIfInBounds_toArray,set_cons_zero,set_cons_succ]
         refine Ways.one (i:=8) rfl (by kernel_rfl) (fun K hK=>?_)
         go_simp
         refine(CW5.out _ _ (by repeat (first | exact WH | exact WH.drew | refine Holds.drewN ?_ _))).mono ?_
         rintro e w5 ⟨rfl,q5,rfl⟩
         refine hK.out _ _ (fun _=>?_) (fun zy=>?_)
         ·exact trivial
         clear hK K
         have zy:=zy (by decide)
         try simp only[Act.put,getElem_toArray,getElem_cons_zero,getElem_cons_succ,setIfInBounds_toArray,set_cons_zero,set_cons_succ]
         refine Ways.takeS (i:=9) (v:=?_) rfl (by kernel_rfl) (fun _ _ _ h=>h) (Or.inl ⟨?_, ?_⟩) zy ?_
         rotate_left
         ·kernel_rfl
         ·(intro w ta;(try dsimp only at ta);go_simp;try with_reducible rfl)
         try simp only[Act.put,getElem_toArray,getElem_cons_zero,getElem_cons_succ,setIfInBounds_toArray,set_cons_zero,set_cons_succ]
         refine Ways.one (i:=12) rfl (by kernel_rfl) (fun K hK=>?_)
         go_simp
         refine(CW6.out _ _ (by repeat (first | exact WH | exact WH.drew | refine Holds.drewN ?_ _))).mono ?_
         rintro e w5 ⟨rfl,q5,rfl⟩
         refine hK.out _ _ (fun _=>?_) (fun zy=>?_)
         ·exact trivial
         clear hK K
         have zy:=zy (by decide)
         try simp only[Act.put,getElem_toArray,getElem_cons_zero,getElem_cons_succ,setIfInBounds_toArray,set_cons_zero,set_cons_succ]
         refine Ways.one (i:=15) rfl (by kernel_rfl) (fun K hK=>?_)
         go_simp
         refine(CW7.out _ _ (by repeat (first | exact WH | exact WH.drew | refine Holds.drewN ?_ _))).mono ?_
         rintro e w5 ⟨rfl,q5,rfl⟩
         refine hK.out _ _ (fun _=>?_) (fun zy=>?_)
         ·exact trivial
         clear hK K
         have zy:=zy (by decide)
         try simp only[Act.put,getElem_toArray,getElem_cons_zero,getElem_cons_succ,setIfInBounds_toArray,set_cons_zero,set_cons_succ]
         refine Ways.takeS (i:=16) (v:=?_) rfl (by kernel_rfl) (fun _ _ _ h=>h) (Or.inl ⟨?_, ?_⟩) zy ?_
         rotate_left
         ·kernel_rfl
         ·(intro w ta;(try dsimp only at ta);go_simp;try with_reducible rfl)
         try simp only[Act.put,getElem_toArray,getElem_cons_zero,getElem_cons_succ,setIfInBounds_toArray,set_cons_zero,set_cons_succ]
         refine Ways.takeS (i:=17) (v:=?_) rfl (by kernel_rfl) (fun _ _ _ h=>h) (Or.inl ⟨?_, ?_⟩) zy ?_
         rotate_left
         ·kernel_rfl
         ·(intro w ta;(try dsimp only at ta);go_simp;try with_reducible rfl)
         try simp only[Act.put,getElem_toArray,getElem_cons_zero,getElem_cons_succ,setIfInBounds_toArray,set_cons_zero,set_cons_succ]
         refine Ways.takeS (i:=18) (v:=?_) rfl (by kernel_rfl) (fun _ _ _ h=>h) (Or.inl ⟨?_, ?_⟩) zy ?_
         rotate_left
         ·kernel_rfl
         ·(intro w ta;(try dsimp only at ta);go_simp;try with_reducible rfl)
         try simp only[Act.put,getElem_toArray,getElem_cons_zero,getElem_cons_succ,setIfInBounds_toArray,set_cons_zero,set_cons_succ]
         refine Ways.takeS (i:=19) (v:=?_) rfl (by kernel_rfl) (fun _ _ _ h=>h) (Or.inl ⟨?_, ?_⟩) zy ?_
         rotate_left
         ·kernel_rfl
         ·(intro w ta;(try dsimp only at ta);go_simp;try with_reducible rfl)
         try simp only[Act.put,getElem_toArray,getElem_cons_zero,getElem_cons_succ,setIfInBounds_toArray,set_cons_zero,set_cons_succ]
         refine Ways.takeS (i:=20) (v:=?_) rfl (by kernel_rfl) (fun _ _ _ h=>h) (Or.inl ⟨by rfl, ?_⟩) zy ?_
         rotate_left
         ·(intro w ta;(try dsimp only at ta);go_simp;try with_reducible rfl)
         exact jbv
        case rest =>
        clear oK uQ
        obtain⟨rfl,rfl,oK⟩:=hcut
        cases zz3 with
        | true =>
         have Yz:Z3=0:=by have:=Bn.out;simpa using this
         have RU:=DY.out
         obtain⟨u2,Uw⟩:∃ u2,u.extract 32 u.size=u2:=⟨_,rfl⟩
         have zu2:u.size-32=u2.size:=by rw[← Uw,Lib.ext_size]
         have sbu2:=SB.skipc RU 32 (by omega)
         rw[Uw,if_neg (by omega)]at sbu2
         obtain⟨Bu2,O8⟩:∃ B,some (⟨bu,ou+32,none⟩:Addr)=B:=⟨_,rfl⟩
         rw[O8]at sbu2
         have VU2:Hid (Lib.validD u2.data.toList=ANS):=by rw[Hid,← Uw,Lib.valid_skip u 32 (K3.out Yz)];exact VU.out
         have Z7:=Lib.hid (And.intro zu2 O8)
         have Dm:=Lib.hid (show u2.size<u.size∧u2.size≤t3.size by omega)
         clear zu2 Uw O8 RU Yz Lc X0 Ur Yx Ib zub zuc zud Qx Qy Qz
         go_wp2_with fail
         rw[Z7.out.2,Z7.out.1]
         go_roundw
         case rel=>exact⟨_,u2,rfl,sbu2,VU2.out,Dm.out.2,oK⟩
         case measure=>have:=Dm.out.1;simp[ii];omega
        | false =>
        have Ik:SB H (some ⟨bu,ou,none⟩) u:=fun _=>⟨bu,ou,rfl,DY.out⟩
        have X6:=Lib.hid (show u.size<t.size∧u.size≤t0.size by have:=oa.out;omega)
        go_wp2_with fail
        go_roundw
        case rel=>exact⟨_,u,rfl,Ik,VU.out,X6.out.2,oK⟩
        case measure=>have:=X6.out.1;simp[ii];omega
       have c32z:¬ ((32:Int)<(u.size:Int)):=by omega
       have c32b:decide ((32:Int)<(u.size:Int))=false:=decide_eq_false c32z
       have X6:=Lib.hid (show u.size<t.size∧u.size≤t0.size by have:=oa.out;omega)
       go_upto_region 10 with fail
       go_big_quiet (fail)
       have oK:=below_drewNv oK nq
       go_wp2_with fail
       go_roundw
       case rel=>exact⟨_,u,rfl,sbu,VU.out,X6.out.2,oK⟩
       case measure=>have:=X6.out.1;simp[ii];omega
      | false =>
      have Ik:SB H (some ⟨b2,off2,none⟩) t2:=fun _=>⟨b2,off2,rfl,KF.out⟩
      have oa:=jhL
      go_wp2_with fail
      go_roundw
      case rel=>exact⟨_,t2,rfl,Ik,V2.out,oa.out.2,oK⟩
      case measure=>have:=oa.out.1;simp[ii];omega
     have c16z:¬ ((16:Int)<(t2.size:Int)):=by omega
     have c16b:decide ((16:Int)<(t2.size:Int))=false:=decide_eq_false c16z
     have oa:=jhL
     go_big_quiet (fail)
     have oK:=below_drewNv oK nq
     go_wp2_with fail
     go_roundw
     case rel=>exact⟨_,t2,rfl,sbt2,V2.out,oa.out.2,oK⟩
     case measure=>have:=oa.out.1;simp[ii];omega
    have LZ:((Z1:Int)==0)=false:=by simp;omega
    have oa:=Lib.hid (show t1.size<t.size∧t1.size≤t0.size by have:=Oq.out.1;omega)
    go_wp2_with (go_at_call 115;refine yq ?_)
    unfold z8
    refine(CW1.out _ _ vv).mono ?_
    rintro e w5 ⟨rfl,q5,rfl⟩
    have oK:=below_drewNv iM q5
    go_wp2_with fail
    go_roundw
    case rel=>exact⟨_,t1,rfl,KX.out,V1.out,oa.out.2,oK⟩
    case measure=>have:=oa.out.1;simp[ii];omega
   have c8z:¬ ((8:Int)<(t1.size:Int)):=by omega
   have oa:=Lib.hid (show t1.size<t.size∧t1.size≤t0.size by have:=Oq.out.1;omega)
   go_wp2_with fail
   go_roundw
   case rel=>exact⟨_,t1,rfl,sbt1,V1.out,oa.out.2,iM⟩
   case measure=>have:=oa.out.1;simp[ii];omega
  have gv:128≤x0.toNat:=by omega
  have Jp:¬ ((x0.toNat:Int)<128):=by omega
  obtain⟨x1,ph⟩:∃ x1,t.get! 1=x1:=⟨_,rfl⟩
  obtain⟨x2,lg⟩:∃ x2,t.get! 2=x2:=⟨_,rfl⟩
  obtain⟨x3,Jl⟩:∃ x3,t.get! 3=x3:=⟨_,rfl⟩
  have l1:=x1.toNat_lt;have l2:=x2.toNat_lt;have l3:=x3.toNat_lt
  have uy:t.data.toList≠[]:=fun h=>by rw[Lib.size_eq,h]at h0;simp at h0
  have xD:=Lib.validD_lead t.data.toList uy (by rw[Lib.getD_get!',WR];exact gv)
  rw[Lib.getD_get!',Lib.getD_get!',Lib.getD_get!',Lib.getD_get!',WR,ph,lg,Jl,← Lib.size_eq,HV.out]at xD
  have uE:=hT wr vv
  have jg:=uE.1 x0.toNat (by omega)
  have Ku:Lib.firstT x0.toNat<256:=by rcases Lib.firstT_cases x0.toNat with h | h | h | h | h | h | h | h | h <;> omega
  obtain⟨X,hX⟩:∃ X,Lib.firstT x0.toNat=X:=⟨_,rfl⟩
  rw[hX]at jg Ku xD
  have h7:=and7 ⟨X,Ku⟩
  simp only at h7
  have Cn:wr.cell? ⟨1,X/16*2,none⟩=some (.int .u8 (Lib.accLo (X/16))):=by rw[Nat.mul_comm];exact(uE.2 (X/16) (by omega)).1
  have I4:wr.cell? ⟨1,X/16*2+1,none⟩=some (.int .u8 (Lib.accHi (X/16))):=by rw[Nat.mul_comm];exact(uE.2 (X/16) (by omega)).2
  obtain⟨LO,Ee⟩:∃ LO,Lib.accLo (X/16)=LO:=⟨_,rfl⟩
  obtain⟨HI,EZ⟩:∃ HI,Lib.accHi (X/16)=HI:=⟨_,rfl⟩
  rw[Ee]at Cn xD
  rw[EZ]at I4 xD
  obtain⟨SZ,Cj⟩:∃ SZ,X%8=SZ:=⟨_,rfl⟩
  rw[Cj]at xD
  have Rt:=Blk.new wr 89 #[.int .u8 (LO:Int),.int .u8 (HI:Int)]
  have im:=iM.alloc iM.size (.cells #[.int .u8 (LO:Int),.int .u8 (HI:Int)] 89)
  have ij:=vv.alloc (.cells #[.int .u8 (LO:Int),.int .u8 (HI:Int)] 89)
  obtain⟨N,hN⟩:∃ N,wr.heap.size=N:=⟨_,rfl⟩
  rw[hN]at Rt
  clear uE hX Ee EZ uy Uv XA
  by_cases s2:SZ=2
  ·as_aux_lemma =>
   subst s2
   have Kl:(X:Int)%8=2:=by omega
   simp only[Lib.checkN,Nat.reduceEqDiff,if_true,if_false]at xD
   have Z5:=Lib.hid xD
   clear xD
   go_upto_region 18 with fail
   generalize wr.alloc (.cells #[.int .u8 (LO:Int),.int .u8 (HI:Int)] 89)=wN at Rt im ij⊢
   have n0:=Rt.cell 0 rfl
   have n1:=Rt.cell 1 rfl
   go_cut [103] (fun cc wx=>cc=.bool (decide (t.size<2∨x1.toNat<LO∨HI<x1.toNat))∧Below w.heap.size w wx)
   case first =>
    by_cases q0:t.size<2
    ·have q0z:(t.size:Int)<2:=by omega
     exact jbk
    have q0z:¬ ((t.size:Int)<2):=by omega
    have q0b:decide ((t.size:Int)<2)=false:=decide_eq_false q0z
    have qV:(1:Int)<(t.size:Int):=by omega
    have Jb:1<t.size:=by omega
    have d1:wN.cell? ⟨b,off+1,none⟩=some (.int .u8 (x1.toNat:Int)):=by rw[← ph];exact ij.cell (R9.out 1 (by omega))
    by_cases q1:x1.toNat<LO
    ·have q1z:((x1.toNat:Int)<(LO:Int)):=by omega
     exact jbk
    have q1z:¬ ((x1.toNat:Int)<(LO:Int)):=by omega
    have q1b:=jhj
    by_cases q2:HI<x1.toNat
    ·have q2z:((HI:Int)<(x1.toNat:Int)):=by omega
     exact jbk
    have q2z:¬ ((HI:Int)<(x1.toNat:Int)):=by omega
    have q2b:=jhk
    go_big_quiet (fail)
    go_wp2_with fail
    go_meet
    exact⟨congrArg Value.bool (decide_eq_false (p:=t.size<2∨x1.toNat<LO∨HI<x1.toNat) (by omega)).symm,below_drewNv im nq⟩
   case rest =>
   obtain⟨rfl,oK⟩:=hcut
   by_cases hb:t.size<2∨x1.toNat<LO∨HI<x1.toNat
   ·have tE:decide (t.size<2∨x1.toNat<LO∨HI<x1.toNat)=true:=decide_eq_true hb
    exact jbG
   have tE:decide (t.size<2∨x1.toNat<LO∨HI<x1.toNat)=false:=decide_eq_false hb
   have xD:=Z5.out
   rw[if_neg hb]at xD
   rw[tE]
   have xO:(2:Int)≤(t.size:Int):=by omega
   have XA:=R9.out
   obtain⟨t1,iA⟩:∃ t1,t.extract 2 t.size=t1:=⟨_,rfl⟩
   have zt1:t.size-2=t1.size:=by rw[← iA,Lib.ext_size]
   have sbt1:=SB.skipc XA 2 (by omega)
   rw[iA]at sbt1
   obtain⟨Bt1,mG⟩:∃ B,(if t.size=2 then some (⟨b,off,none⟩:Addr) else some ⟨b,off+2,none⟩)=B:=⟨_,rfl⟩
   exact jaE
  by_cases s3:SZ=3
  ·as_aux_lemma =>
   subst s3
   have Kl:(X:Int)%8=3:=by omega
   simp only[Lib.checkN,Nat.reduceEqDiff,if_true,if_false]at xD
   have Z5:=Lib.hid xD
   clear xD
   go_upto_region 22 with fail
   generalize wr.alloc (.cells #[.int .u8 (LO:Int),.int .u8 (HI:Int)] 89)=wN at Rt im ij⊢
   have n0:=Rt.cell 0 rfl
   have n1:=Rt.cell 1 rfl
   go_cut [138] (fun cc wx=>cc=.bool (decide (t.size<3∨x1.toNat<LO∨HI<x1.toNat∨x2.toNat<128∨191<x2.toNat))∧Below w.heap.size w wx)
   case first =>
    by_cases q0:t.size<3
    ·have q0z:(t.size:Int)<3:=by omega
     exact jaG
    have q0z:¬ ((t.size:Int)<3):=by omega
    have q0b:decide ((t.size:Int)<3)=false:=decide_eq_false q0z
    have qV:(1:Int)<(t.size:Int):=by omega
    have Jb:1<t.size:=by omega
    have d1:wN.cell? ⟨b,off+1,none⟩=some (.int .u8 (x1.toNat:Int)):=by rw[← ph];exact ij.cell (R9.out 1 (by omega))
    have q9:(2:Int)<(t.size:Int):=by omega
    have qU:2<t.size:=by omega
    have d2:wN.cell? ⟨b,off+2,none⟩=some (.int .u8 (x2.toNat:Int)):=by rw[← lg];exact ij.cell (R9.out 2 (by omega))
    by_cases q1:x1.toNat<LO
    ·have q1z:((x1.toNat:Int)<(LO:Int)):=by omega
     exact jaG
    have q1z:¬ ((x1.toNat:Int)<(LO:Int)):=by omega
    have q1b:=jhj
    by_cases q2:HI<x1.toNat
    ·have q2z:((HI:Int)<(x1.toNat:Int)):=by omega
     exact jaG
    have q2z:¬ ((HI:Int)<(x1.toNat:Int)):=by omega
    have q2b:=jhk
    by_cases q3:x2.toNat<128
    ·have q3z:((x2.toNat:Int)<128):=by omega
     exact jaG
    have q3z:¬ ((x2.toNat:Int)<128):=by omega
    have q3b:decide ((x2.toNat:Int)<128)=false:=decide_eq_false q3z
    by_cases q4:191<x2.toNat
    ·have q4z:((191:Int)<(x2.toNat:Int)):=by omega
     exact jaG
    have q4z:¬ ((191:Int)<(x2.toNat:Int)):=by omega
    have q4b:decide ((191:Int)<(x2.toNat:Int))=false:=decide_eq_false q4z
    go_big_quiet (fail)
    go_wp2_with fail
    go_meet
    exact⟨congrArg Value.bool (decide_eq_false (p:=t.size<3∨x1.toNat<LO∨HI<x1.toNat∨x2.toNat<128∨191<x2.toNat) (by omega)).symm,below_drewNv im nq⟩
   case rest =>
   obtain⟨rfl,oK⟩:=hcut
   by_cases hb:t.size<3∨x1.toNat<LO∨HI<x1.toNat∨x2.toNat<128∨191<x2.toNat
   ·have tE:decide (t.size<3∨x1.toNat<LO∨HI<x1.toNat∨x2.toNat<128∨191<x2.toNat)=true:=decide_eq_true hb
    exact jbG
   have tE:decide (t.size<3∨x1.toNat<LO∨HI<x1.toNat∨x2.toNat<128∨191<x2.toNat)=false:=decide_eq_false hb
   have xD:=Z5.out
   rw[if_neg hb]at xD
   rw[tE]
   have xO:(3:Int)≤(t.size:Int):=by omega
   have XA:=R9.out
   obtain⟨t1,iA⟩:∃ t1,t.extract 3 t.size=t1:=⟨_,rfl⟩
   have zt1:t.size-3=t1.size:=by rw[← iA,Lib.ext_size]
   have sbt1:=SB.skipc XA 3 (by omega)
   rw[iA]at sbt1
   obtain⟨Bt1,mG⟩:∃ B,(if t.size=3 then some (⟨b,off,none⟩:Addr) else some ⟨b,off+3,none⟩)=B:=⟨_,rfl⟩
   exact jaE
  by_cases s4:SZ=4
  ·as_aux_lemma =>
   subst s4
   have Kl:(X:Int)%8=4:=by omega
   simp only[Lib.checkN,Nat.reduceEqDiff,if_true,if_false]at xD
   have Z5:=Lib.hid xD
   clear xD
   go_upto_region 26 with fail
   generalize wr.alloc (.cells #[.int .u8 (LO:Int),.int .u8 (HI:Int)] 89)=wN at Rt im ij⊢
   have n0:=Rt.cell 0 rfl
   have n1:=Rt.cell 1 rfl
   go_cut [185] (fun cc wx=>cc=.bool (decide (t.size<4∨x1.toNat<LO∨HI<x1.toNat∨x2.toNat<128∨191<x2.toNat∨x3.toNat<128∨191<x3.toNat))∧Below w.heap.size w wx)
   case first =>
    by_cases q0:t.size<4
    ·have q0z:(t.size:Int)<4:=by omega
     exact jaq
    have q0z:¬ ((t.size:Int)<4):=by omega
    have q0b:decide ((t.size:Int)<4)=false:=decide_eq_false q0z
    have qV:(1:Int)<(t.size:Int):=by omega
    have Jb:1<t.size:=by omega
    have d1:wN.cell? ⟨b,off+1,none⟩=some (.int .u8 (x1.toNat:Int)):=by rw[← ph];exact ij.cell (R9.out 1 (by omega))
    have q9:(2:Int)<(t.size:Int):=by omega
    have qU:2<t.size:=by omega
    have d2:wN.cell? ⟨b,off+2,none⟩=some (.int .u8 (x2.toNat:Int)):=by rw[← lg];exact ij.cell (R9.out 2 (by omega))
    have Yz:(3:Int)<(t.size:Int):=by omega
    have FE:3<t.size:=by omega
    have d3:wN.cell? ⟨b,off+3,none⟩=some (.int .u8 (x3.toNat:Int)):=by rw[← Jl];exact ij.cell (R9.out 3 (by omega))
    by_cases q1:x1.toNat<LO
    ·have q1z:((x1.toNat:Int)<(LO:Int)):=by omega
     exact jaq
    have q1z:¬ ((x1.toNat:Int)<(LO:Int)):=by omega
    have q1b:=jhj
    by_cases q2:HI<x1.toNat
    ·have q2z:((HI:Int)<(x1.toNat:Int)):=by omega
     exact jaq
    have q2z:¬ ((HI:Int)<(x1.toNat:Int)):=by omega
    have q2b:=jhk
    by_cases q3:x2.toNat<128
    ·have q3z:((x2.toNat:Int)<128):=by omega
     exact jaq
    have q3z:¬ ((x2.toNat:Int)<128):=by omega
    have q3b:decide ((x2.toNat:Int)<128)=false:=decide_eq_false q3z
    by_cases q4:191<x2.toNat
    ·have q4z:((191:Int)<(x2.toNat:Int)):=by omega
     exact jaq
    have q4z:¬ ((191:Int)<(x2.toNat:Int)):=by omega
    have q4b:decide ((191:Int)<(x2.toNat:Int))=false:=decide_eq_false q4z
    by_cases q5:x3.toNat<128
    ·have q5z:((x3.toNat:Int)<128):=by omega
     exact jaq
    have q5z:¬ ((x3.toNat:Int)<128):=by omega
    have q5b:decide ((x3.toNat:Int)<128)=false:=decide_eq_false q5z
    by_cases q6:191<x3.toNat
    ·have q6z:((191:Int)<(x3.toNat:Int)):=by omega
     exact jaq
    have q6z:¬ ((191:Int)<(x3.toNat:Int)):=by omega
    have q6b:decide ((191:Int)<(x3.toNat:Int))=false:=decide_eq_false q6z
    go_big_quiet (fail)
    go_wp2_with fail
    go_meet
    exact⟨congrArg Value.bool (decide_eq_false (p:=t.size<4∨x1.toNat<LO∨HI<x1.toNat∨x2.toNat<128∨191<x2.toNat∨x3.toNat<128∨191<x3.toNat) (by omega)).symm,below_drewNv im nq⟩
   case rest =>
   obtain⟨rfl,oK⟩:=hcut
   by_cases hb:t.size<4∨x1.toNat<LO∨HI<x1.toNat∨x2.toNat<128∨191<x2.toNat∨x3.toNat<128∨191<x3.toNat
   ·have tE:decide (t.size<4∨x1.toNat<LO∨HI<x1.toNat∨x2.toNat<128∨191<x2.toNat∨x3.toNat<128∨191<x3.toNat)=true:=decide_eq_true hb
    exact jbG
   have tE:decide (t.size<4∨x1.toNat<LO∨HI<x1.toNat∨x2.toNat<128∨191<x2.toNat∨x3.toNat<128∨191<x3.toNat)=false:=decide_eq_false hb
   have xD:=Z5.out
   rw[if_neg hb]at xD
   rw[tE]
   have xO:(4:Int)≤(t.size:Int):=by omega
   have XA:=R9.out
   obtain⟨t1,iA⟩:∃ t1,t.extract 4 t.size=t1:=⟨_,rfl⟩
   have zt1:t.size-4=t1.size:=by rw[← iA,Lib.ext_size]
   have sbt1:=SB.skipc XA 4 (by omega)
   rw[iA]at sbt1
   obtain⟨Bt1,mG⟩:∃ B,(if t.size=4 then some (⟨b,off,none⟩:Addr) else some ⟨b,off+4,none⟩)=B:=⟨_,rfl⟩
   exact jaE
  have e2b:(((X:Int)%8)==2)=false:=by simp;omega
  have e3b:(((X:Int)%8)==3)=false:=by simp;omega
  have e4b:(((X:Int)%8)==4)=false:=by simp;omega
  have e2:¬ ((X:Int)%8=2):=by omega
  have e3:¬ ((X:Int)%8=3):=by omega
  have e4:¬ ((X:Int)%8=4):=by omega
  simp only[Lib.checkN,s2,s3,s4,if_false]at xD
  have Z5:=Lib.hid xD
  clear xD
  go_wp2_with fail
  go_ret
  exact⟨by first | rfl | (rw[Z5.out];rfl),im⟩
 have Br:¬ ((0:Int)<(t.size:Int)):=by omega
 have DE:t.data.toList=[]:=List.eq_nil_of_length_eq_zero (by rw[← Lib.size_eq];omega)
 have hv:=HV.out
 rw[DE,Lib.validD_nil]at hv
 subst hv
 go_wp2_with fail
 go_ret
 exact⟨rfl,iM⟩
theorem sB {H:Snap}(hT:Tabs H) (w:World) (hH:Holds w H) (A:Option Addr) (l:List UInt8) (n c:Nat) (hn:n=l.length) (hb:IsBytes H A c l) :
  Calls Tryz.prog 96 #[.slice A n c] w fun e w'=>e=.returned (.bool (Lib.validD l))∧Below w.heap.size w w':=by
 subst hn
 have hl:(⟨l.toArray⟩:ByteArray).size=l.length:=by show l.toArray.size=l.length;simp
 have h:=Zx hT w hH A ⟨l.toArray⟩ c (SB.of hb) (by rw[hl];exact hb.le) (by rw[hl];have:=hb.le;have:=hb.max;omega)
 rw[hl,Q8]at h
 exact h
set_option maxRecDepth 100000 in
set_option maxHeartbeats 800000 in
theorem fO {H:Snap}{k n:Int}{ba:Option Addr}{bl bc:Nat}{ia:Option Addr}{il ic:Nat}{x:Itm}(hx:ItemA H k n ba bl bc ia il ic x) (w:World) (h0:0≤x.kind) (h8:x.kind≤8) :
  Calls Tryz.prog 106 #[.agg #[.int .i64 k,.int .u64 n,.slice ba bl bc,.slice ia il ic]] w fun e w'=>e=.returned (.tuple #[.int .u8 x.kind,.int .u64 (numP x)])∧Below w.heap.size w w':=by
 obtain⟨rfl,rfl,rfl,rfl,hx⟩:=hx
 obtain⟨_,_,hn,xR,zC,sZ,sH⟩:=hx.bounds
 have hb:x.bytes.length≤9223372036854775807:=by omega
 have hi:x.items.length≤9223372036854775807:=by omega
 clear xR zC sZ sH hx
 have HN:=Lib.hid hn
 clear hn
 by_cases h2:x.kind=2
 ·have e:Hid (Ending.returned (.tuple #[.int .u8 2,.int .u64 x.bytes.length])=Ending.returned (.tuple #[.int .u8 x.kind,.int .u64 (numP x)])):=by simp[Hid,numP,h2]
  exact ja1
 by_cases h3:x.kind=3
 ·have e:Hid (Ending.returned (.tuple #[.int .u8 3,.int .u64 x.bytes.length])=Ending.returned (.tuple #[.int .u8 x.kind,.int .u64 (numP x)])):=by simp[Hid,numP,h3]
  clear h2
  exact ja1
 by_cases h4:x.kind=4
 ·have e:Hid (Ending.returned (.tuple #[.int .u8 4,.int .u64 x.items.length])=Ending.returned (.tuple #[.int .u8 x.kind,.int .u64 (numP x)])):=by simp[Hid,numP,h4]
  clear h2 h3
  exact ja1
 by_cases h5:x.kind=5
 ·have e:Hid (Ending.returned (.tuple #[.int .u8 5,.int .u64 ((x.items.length:Int)/2)])=Ending.returned (.tuple #[.int .u8 x.kind,.int .u64 (numP x)])):=by simp[Hid,numP,h5]
  clear h2 h3 h4
  exact ja1
 have e:Hid (Ending.returned (.tuple #[.int .u8 x.kind,.int .u64 x.n])=Ending.returned (.tuple #[.int .u8 x.kind,.int .u64 (numP x)])):=by simp[Hid,numP,h2,h3,h4,h5]
 have b2:(x.kind==2)=false:=by simp[h2]
 have b3:(x.kind==3)=false:=by simp[h3]
 have b4:(x.kind==4)=false:=by simp[h4]
 have b5:(x.kind==5)=false:=by simp[h5]
 clear h2 h3 h4 h5
 exact ja1
def Wz (n k:Nat):UInt8:=u8 (n/2 ^ (56-8*k))
theorem XR (n k:Nat):(#[.int .u8 ((n:Int)/2 ^ (56-8*k)%256)]:Array Value).toList=[Wz n k].map zT:=by
 simp only[List.map_cons,List.map_nil,Wz,x8]
 simp
set_option maxRecDepth 100000 in
set_option maxHeartbeats 1600000 in
theorem V5 (n:Nat) (hn:n<18446744073709551616) (w:World) :
  Calls Tryz.prog 124 #[.int .u64 (n:Int)] w fun e w'=>∃ r,e=.returned r∧Fresh w (be8 n 8) r w':=by
 have HN:=Lib.hid hn
 clear hn
 have hO:=OwnB.nil w w.heap.size
 have hb:=Below.refl w.heap.size w
 go_enter Tryz.func124,Tryz.ntmps124
 go_wp2_with fail
 go_loopw [3,4] (fun v3 v4 wr=>∃ (k:Nat) (VA:Option Addr) (vc:Nat),k≤8∧v4=.int .i64 (56-8*(k:Int))∧v3=.slice VA k vc∧OwnB wr w.heap.size (.slice VA k vc) (be8 n k)∧Below w.heap.size w wr) (fun _ v4 _=>(intOf v4+8).toNat)
 case atStart=>exact⟨0,none,0,by omega,rfl,rfl,hO,hb⟩
 case round =>
 obtain⟨k,VA,vc,hk,rfl,rfl,vY,ws⟩:=hrel
 by_cases zB:k<8
 ·have yF:=XR n k
  have xy:=ws.alloc ws.size (.cells #[.int .u8 ((n:Int)/2 ^ (56-8*k)%256)] 5)
  have je:=vY.alloc (.cells #[.int .u8 ((n:Int)/2 ^ (56-8*k)%256)] 5)
  have HC:=Lib.hid yF
  clear yF
  go_wp2_with (at_builtin;refine yq ?_)
  unfold z8
  refine zW rfl (.tmp 9) (.tmp 14) rfl w.heap.size _ _ rfl je _ 1 _ [Wz n k] rfl rfl (Src.new _ _ _ _ rfl _ HC.out) (by simp[uv];omega) xy.size fun v' w7 vr yQ hat7=>?_
  obtain⟨VA',vc',rfl,_⟩:=vr.form
  have lU:(be8 n k++[Wz n k]).length=k+1:=by simp[uv]
  have YW:OwnB w7 w.heap.size (.slice VA' (k+1) vc') (be8 n (k+1)):=by
   rw[lU]at vr
   exact vr
  rw[lU]
  have uq:=jg4
  clear lU yQ hat7 je vY xy ws vr
  go_wp2_with fail
  go_roundw
  case rel=>exact⟨k+1,VA',vc',by omega,by go_num,rfl,YW,uq⟩
  case measure=>simp[intOf];omega
 have Ui:k=8:=by omega
 subst Ui
 go_wp2_with fail
 go_ret
 exact⟨_,rfl,vY,ws⟩
theorem nG (a k:Nat) (ha:a<4294967296) (hk:k<32):bits .and .u32 (a:Int) ((2 ^ k-1:Nat):Int)=((a%2 ^ k:Nat):Int):=by
 have:2 ^ k<2 ^ 32:=Nat.pow_lt_pow_right (by omega) hk
 simp only[Nat.reducePow]at this
 rw[u32_and_nat a (2 ^ k-1) ha (by omega),Nat.and_two_pow_sub_one_eq_mod]
theorem Sh (b k:Nat) (hb:b<2 ^ k) (hk:k<31):bits .or .u32 (b:Int) ((2 ^ k:Nat):Int)=((b+2 ^ k:Nat):Int):=by
 have h1:2 ^ k<2 ^ 31:=Nat.pow_lt_pow_right (by omega) hk
 simp only[Nat.reducePow]at h1
 rw[u32_or_nat _ _ (by omega) (by omega),Nat.or_comm]
 have:=Nat.two_pow_add_eq_or_of_lt hb 1
 rw[Nat.mul_one]at this
 rw[← this,Nat.add_comm]
theorem kv (a k b:Nat) (hb:b<2 ^ k) (h:a*2 ^ k+b<65536):bits .or .u16 ((a*2 ^ k:Nat):Int) (b:Int)=((a*2 ^ k+b:Nat):Int):=by
 rw[u16_or_nat _ _ (by omega) (by omega),Nat.mul_comm,Nat.two_pow_add_eq_or_of_lt hb]
theorem Qk (q:Nat) (h:q<65536):IntKind.u16.wrap (q:Int)=(q:Int):=IntWalk.u16_in _ (by omega)
set_option maxRecDepth 100000 in
set_option maxHeartbeats 3200000 in
theorem V0 (v:Nat) (hv:v<4294967296) (w:World) :
  Calls Tryz.prog 126 #[.int .u32 (v:Int)] w
   fun e w'=>(∃ h:Nat,e=.returned (.tuple #[.int .u16 (h:Int),.bool (dw v).isSome])∧∀ x,dw v=some x→h=x)∧w=w':=by
 have A1:=nG (v/2 ^ 23) 8 (by omega) (by omega)
 have A2:=nG v 23 hv (by omega)
 simp only[Nat.reducePow,Nat.reduceSub]at A1 A2
 rw[Int.natCast_ediv]at A1
 obtain⟨ex,rx⟩:∃ ex,v/8388608%256=ex:=⟨_,rfl⟩
 obtain⟨mx,hJ⟩:∃ mx,v%8388608=mx:=⟨_,rfl⟩
 obtain⟨sg,XI⟩:∃ sg,v/2147483648=sg:=⟨_,rfl⟩
 have wu:sg≤1:=by omega
 have E:Hid (dw v=if ex=255 then some (sg*32768+31744) else if ex=0 then(if mx=0 then some (sg*32768) else none)
   else if 113≤ex∧ex≤142 then(if mx%8192=0 then some (sg*32768+(ex-112)*1024+mx/8192) else none)
   else if 103≤ex∧ex<113 then(if(mx+8388608)%2 ^ (126-ex)=0 then some (sg*32768+(mx+8388608)/2 ^ (126-ex)) else none) else none):=by
  rw[Hid,dw]
  simp only[rx,hJ,XI]
 rw[rx]at A1
 rw[hJ]at A2
 have MH:ex<256:=by omega
 have pP:mx<8388608:=by omega
 have A1':bits .and .u32 ((v:Int)/8388608) 255=(ex:Int):=A1
 have A2':bits .and .u32 (v:Int) 8388607=(mx:Int):=A2
 have K1:IntKind.i64.wrap (ex:Int)=(ex:Int):=IntWalk.i64_in _ (by omega)
 have KS:Hid (IntKind.u16.wrap ((v:Int)/2147483648*32768%4294967296)=((sg*2 ^ 15:Nat):Int)):=by
  have h:(v:Int)/2147483648*32768%4294967296=(sg:Int)*32768:=by omega
  simp only[Nat.reducePow]
  rw[Hid,h,IntWalk.u16_in _ (by omega)]
  omega
 clear hv rx hJ XI A1 A2
 go_enter Tryz.func126,Tryz.ntmps126
 go_wp2_with fail
 ·have h1:ex=255:=by
   have h:((ex:Int)==255)=true:=by assumption
   rw[beq_iff_eq]at h
   omega
  go_ret2
  have MV:=kv sg 15 31744 (by omega) (by omega)
  refine⟨⟨sg*32768+31744, ?_, ?_⟩,rfl⟩
  ·show Ending.returned (Value.tuple #[Value.int .u16 _,Value.bool _])=_
   rw[KS.out,E.out,if_pos h1]
   rw[show(31744:Int)=((31744:Nat):Int) from rfl,MV]
   rfl
  intro x hx
  rw[E.out,if_pos h1]at hx
  injection hx
 all_goals
  have h1:¬ ex=255:=by
   have h:((ex:Int)==255)=false:=by assumption
   exact jb1
  rw[if_neg h1]at E
 ·have h2:ex=0:=by
   exact jcE
  rw[if_pos h2]at E
  go_ret2
  refine⟨⟨sg*32768, ?_, ?_⟩,rfl⟩
  ·show Ending.returned (Value.tuple #[Value.int .u16 _,Value.bool _])=_
   rw[KS.out,E.out]
   exact je4
  intro x hx
  rw[E.out]at hx
  exact jbt
 all_goals
  have h2:¬ ex=0:=by
   exact jeO
  rw[if_neg h2]at E
 ·have h3:113≤ex∧ex≤142:=by omega
  rw[if_pos h3]at E
  obtain⟨q,hq⟩:∃ q,ex-112=q:=⟨_,rfl⟩
  have MZ:((ex:Int)-112)*1024=((q*1024:Nat):Int):=by omega
  have XG:(mx:Int)/8192=((mx/8192:Nat):Int):=by omega
  have ha:=nG mx 13 (by omega) (by omega)
  simp only[Nat.reducePow,Nat.reduceSub]at ha
  have Ur:=kv sg 15 (q*1024) (by omega) (by omega)
  have Yx:=kv (sg*2 ^ 5+q) 10 (mx/8192) (by omega) (by omega)
  rw[show(sg*2 ^ 5+q)*2 ^ 10=sg*2 ^ 15+q*1024 by omega]at Yx
  go_ret2
  refine⟨⟨sg*32768+q*1024+mx/8192, ?_, ?_⟩,rfl⟩
  ·show Ending.returned (Value.tuple #[Value.int .u16 _,Value.bool _])=_
   rw[KS.out,E.out,MZ,XG,Ur,Yx]
   have UW:bits .and .u32 (mx:Int) 8191=((mx%8192:Nat):Int):=ha
   rw[UW]
   by_cases h:mx%8192=0
   ·rw[if_pos h,h];rfl
   rw[if_neg h]
   have:(((mx%8192:Nat):Int)==0)=false:=by rw[beq_eq_false_iff_ne];omega
   rw[this];rfl
  intro x hx
  rw[E.out,hq]at hx
  exact jbt
 ·exact jbT
 ·have h3:¬ (113≤ex∧ex≤142):=by omega
  have h4:103≤ex∧ex<113:=by omega
  rw[if_neg h3,if_pos h4]at E
  obtain⟨sh,XJ⟩:∃ sh,126-ex=sh:=⟨_,rfl⟩
  obtain⟨full,uS⟩:∃ full,mx+8388608=full:=⟨_,rfl⟩
  have MU:bits .or .u32 (mx:Int) 8388608=(full:Int):=by
   have:=Sh mx 23 (by omega) (by omega)
   exact jc0
  have hp:2 ^ sh<2 ^ 32:=Nat.pow_lt_pow_right (by omega) (by omega)
  have Ut:0<2 ^ sh:=Nat.two_pow_pos sh
  simp only[Nat.reducePow]at hp
  have DF:(2:Int) ^ sh=((2 ^ sh:Nat):Int):=by rw[Int.natCast_pow];rfl
  have hw:((2:Int) ^ sh-1)%4294967296=((2 ^ sh-1:Nat):Int):=by rw[DF];omega
  have MG:(full:Int)/2 ^ sh=((full/2 ^ sh:Nat):Int):=by
   exact jdF
  have zB:full/2 ^ sh<2 ^ 15:=by
   apply Nat.div_lt_of_lt_mul
   have h1:2 ^ 14≤2 ^ sh:=Nat.pow_le_pow_right (by omega) (by omega)
   have h2:2 ^ 14*2 ^ 15≤2 ^ sh*2 ^ 15:=Nat.mul_le_mul_right _ h1
   exact jc1
  have Aj:full/2 ^ sh<32768:=zB
  have DG:IntKind.u16.wrap ((full/2 ^ sh:Nat):Int)=((full/2 ^ sh:Nat):Int):=Qk _ (by omega)
  have ho:=kv sg 15 (full/2 ^ sh) zB (by simp only[Nat.reducePow];omega)
  have ha:=nG full sh (by omega) (by omega)
  go_ret2
  refine⟨⟨sg*32768+full/2 ^ sh, ?_, ?_⟩,rfl⟩
  ·show Ending.returned (Value.tuple #[Value.int .u16 _,Value.bool _])=_
   rw[KS.out,E.out,XJ,MU,hw,ha,MG,DG,ho,uS]
   by_cases h:full%2 ^ sh=0
   ·rw[if_pos h,h];rfl
   rw[if_neg h]
   exact jeS
  intro x hx
  rw[E.out,XJ,uS]at hx
  exact jbt
 exact jbT
theorem SK (n:Nat) (hN:isNaN n=false) (w:World):∃ r w',(convert 157 158 (.float .f64 n)).run Tryz.prog w=.ok (.float .f32 r) w'∧(w'=w∨w'=w.drew)∧r<4294967296∧(∀ s x f v,qI n v s x f→r=v):=by
 have hs:Tryz.prog.underlying 157=some (.float .f64):=Tryz.underlying157
 have hd:Tryz.prog.underlying 158=some (.float .f32):=Tryz.underlying158
 cases hb:floatToFloatBits .f64 n .f32 with
 | some r =>
  have Md:(Tryz.prog.underlying 157).isSome=true:=by rw[hs];rfl
  refine⟨r,w,run_convert_float_float (P:=Tryz.prog) (w:=w) 157 158 .f64 .f32 n r Md hd hb,.inl rfl, ?_, ?_⟩
  ·unfold floatToFloatBits at hb
   rw[if_neg (by decide)]at hb
   have zB:∀ d:Ieee.Datum,FloatKind.encode .f32 d<4294967296:=fun d=>Ieee.single.write_lt d
   split at hb
   ·cases hb
   ·injection hb with hb;rw[← hb];exact zB _
   split at hb
   ·cases hb
   injection hb with hb;rw[← hb];exact zB _
  intro s x f v h
  have:=Wt h
  rw[hb]at this
  injection this
 | none =>
 have Ys:=hb
 unfold floatToFloatBits at hb
 rw[if_neg (by decide)]at hb
 have iQ:¬ (∃ a b,FloatKind.decode .f64 n=.nan a b):=by
  rintro⟨a,b,h⟩
  have:=ai n
  rw[hN]at this
  have h':Ieee.double.read n=.nan a b:=h
  rw[h']at this
  cases this
 cases hq:FloatKind.decode .f64 n with
 | nan a b=>exact absurd ⟨a,b,hq⟩ iQ
 | infinity a=>rw[hq]at hb;cases hb
 | number a b c =>
 rw[hq]at hb
 simp only at hb
 split at hb
 ·rename_i ho
  refine⟨(Question.floatToFloat n).cut (w.tape w.drawn (Question.floatToFloat n)),w.drew, ?_,.inr rfl, ?_, ?_⟩
  ·simp[convert,run_underlying hs,run_underlying hd,Conv.floatToFloat,hq,ho,Question.forced]
  ·show _%2 ^ 32<4294967296
   omega
  intro s x f v h
  have:=Wt h
  rw[Ys]at this
  cases this
 cases hb
theorem SL (r n:Nat) (hN:isNaN n=false) (hr:r<4294967296) (w:World):∃ m w',(convert 158 157 (.float .f32 r)).run Tryz.prog w=.ok (.float .f64 m) w'∧(w'=w∨w'=w.drew)∧(m=n→yz n 8 23=some r)∧(∀ s x f,qI n r s x f→m=n):=by
 have hs:Tryz.prog.underlying 158=some (.float .f32):=Tryz.underlying158
 have hd:Tryz.prog.underlying 157=some (.float .f64):=Tryz.underlying157
 cases hn:(Ieee.single.read r).isNaN with
 | false =>
  obtain⟨m,s,x,f,_,hx⟩:=eQ hr hn
  have hw:=cR hx
  have Md:(Tryz.prog.underlying 158).isSome=true:=by rw[hs];rfl
  refine⟨m,w,run_convert_float_float (P:=Tryz.prog) (w:=w) 158 157 .f32 .f64 r m Md hd hw,.inl rfl, ?_, ?_⟩
  ·rintro rfl
   exact nu hx
  intro s' x' f' h
  have:=cR h
  rw[hw]at this
  injection this
 | true =>
 cases hq:FloatKind.decode .f32 r with
 | number a b c =>
  have h':Ieee.single.read r=.number a b c:=hq
  rw[h']at hn;cases hn
 | infinity a =>
  have h':Ieee.single.read r=.infinity a:=hq
  rw[h']at hn;cases hn
 | nan a b =>
 refine⟨(Question.nanConv .f64 r).cut (w.tape w.drawn (Question.nanConv .f64 r)),w.drew, ?_,.inr rfl, ?_, ?_⟩
 ·exact jdg
 ·intro h
  exfalso
  have ie:isNaN ((Question.nanConv .f64 r).cut (w.tape w.drawn (Question.nanConv .f64 r)))=true:=by
   rw[jl]
   show(_%2*2 ^ 63+0x7ff0000000000000+1+_/2%(2 ^ 52-1))/2 ^ 52%2048=2047∧_
   generalize w.tape w.drawn (Question.nanConv .f64 r)=t
   show(t%2*2 ^ 63+0x7ff0000000000000+1+t/2%(2 ^ 52-1))/2 ^ 52%2048=2047∧(t%2*2 ^ 63+0x7ff0000000000000+1+t/2%(2 ^ 52-1))%2 ^ 52≠0
   exact jb9
  rw[h,hN]at ie
  cases ie
 intro s x f h
 have:=YQ h
 have h':Ieee.single.read r=.nan a b:=hq
 rw[h']at this
 split at this
 ·cases this
 split at this <;> cases this
theorem Fresh.step_ {w w1 w2:World}{l:List UInt8}{r:Value}(hb:Below w.heap.size w w1) (h:Fresh w1 l r w2):Fresh w l r w2:=⟨h.own.more hb.size,hb.trans (h.2.mono hb.size)⟩
theorem eM {n:Nat}(hn:n<18446744073709551616) (h:yz n 8 23=none):yz n 5 10=none:=by
 cases h5:yz n 5 10 with
 | none=>rfl
 | some v =>
 obtain⟨s,x,f,a1,a2,a3,a4,a5⟩:=tS hn h5
 have done:∀ {x' f':Nat},qI n (s*2147483648+x'*8388608+f') s x' f'→False:=fun hx=>by
  rw[nu hx]at h
  cases h
 rcases a5 with ⟨c1,c2,c3⟩ | ⟨c1,c2,c3⟩ | ⟨c1,c2,c3⟩ | ⟨c1,t,full,c2,c3,c4,c5,c6,c7⟩
 ·exact(done (x':=255) (f':=0) ⟨a1,rfl,by omega,by omega,.inl ⟨rfl,rfl,c3⟩⟩).elim
 ·exact(done (x':=0) (f':=0) ⟨a1,rfl,by omega,by omega,.inr (.inl ⟨rfl,rfl,c3⟩)⟩).elim
 ·have C3:n=s*9223372036854775808+(x+112+896)*4503599627370496+f*8192*536870912:=by
   rw[c3,Nat.mul_assoc f 8192,Nat.add_assoc x 112]
  have C:=Lib.hid C3
  clear c3 C3
  have g1:f*8192<8388608:=by omega
  have g2:x+112≤255:=by omega
  have g3:1≤x+112:=by omega
  have g4:x+112≤254:=by omega
  exact(done (x':=x+112) (f':=f*8192) ⟨a1,rfl,g1,g2,.inr (.inr (.inl ⟨g3,g4,C.out⟩))⟩).elim
 have C:=Lib.hid c7
 clear c7
 have e1:full=f*2 ^ (23-t)*536870912:=by
  rw[c5,Nat.mul_assoc,show(536870912:Nat)=2 ^ 29 from rfl,← Nat.pow_add,show 23-t+29=52-t by omega]
 have e2:2 ^ (t+1)*2 ^ (52-t)=9007199254740992:=by
  exact jbC
 have b2:=Nat.mul_lt_mul_of_pos_right c4 (Nat.two_pow_pos (52-t))
 rw[e2,← c5]at b2
 obtain⟨q,hq⟩:∃ q,f*2 ^ (23-t)=q:=⟨_,rfl⟩
 rw[hq]at e1
 have g0:8388608≤q∧q<16777216:=by clear a2;omega
 have g5:full-4503599627370496=(q-8388608)*536870912:=by clear a2;omega
 have g1:q-8388608<8388608:=by omega
 have g2:103+t≤255:=by omega
 have g3:1≤103+t:=by omega
 have g4:103+t≤254:=by omega
 have C3:n=s*9223372036854775808+(103+t+896)*4503599627370496+(q-8388608)*536870912:=by
  rw[C.out,g5,show 103+t+896=999+t by omega]
 exact(done (x':=103+t) (f':=q-8388608) ⟨a1,rfl,g1,g2,.inr (.inr (.inl ⟨g3,g4,C3⟩))⟩).elim
set_option maxRecDepth 100000 in
set_option maxHeartbeats 3200000 in
theorem sO (n:Nat) (hn:n<18446744073709551616) (w:World) :
  Calls Tryz.prog 104 #[.int .u64 (n:Int)] w fun e w'=>∃ r,e=.returned r∧Fresh w (zO n) r w':=by
 have r1:=vF n
 have r2:=Vc n
 cases hN:isNaN n with
 | true =>
  rw[hN]at r2
  have E:Hid (zO n=[u8 249,u8 126,u8 0]):=by rw[Hid,zO,if_pos hN]
  clear hN hn
  go_enter Tryz.func104,Tryz.ntmps104
  exact jc5
 | false =>
 rw[hN]at r2
 obtain⟨r,w1,oL,oS,hr,hv⟩:=SK n hN w
 obtain⟨m,w2,dD,sN,pP,ir⟩:=SL r n hN hr w1
 have hb:Below w.heap.size w w2:=by
  rcases oS with rfl | rfl <;> rcases sN with rfl | rfl
  ·exact Below.refl _ _
  ·exact(Below.refl _ _).drew
  ·exact(Below.refl _ _).drew
  exact(Below.refl _ _).drew.drew
 have r3:=yU m
 have r4:=Zr r
 have en:=Lib.hid hN
 cases h2:yz n 8 23 with
 | none =>
  have uy:m≠n:=fun h=>by rw[pP h]at h2;cases h2
  have b1:((m:Int) != (n:Int))=true:=by rw[bne_iff_ne];omega
  have p1:(m=n)=False:=eq_false uy
  have E:Hid (zO n=u8 251::be8 n 8):=by rw[Hid,zO,if_neg (by simp[hN]),eM hn h2,h2]
  have WD:=Lib.hid (fun w3:World=>V5 n hn w3)
  have hO:=OwnB.lit w2 w.heap.size [u8 251] #[.int .u8 251] 1 rfl rfl hb.size (by simp)
  have yg:=hb.alloc hb.size (.cells #[.int .u8 251] 5)
  clear pP ir hv hN hn h2 uy oS sN hr
  go_enter Tryz.func104,Tryz.ntmps104
  go_wp2_with fail
  refine(WD.out _).mono ?_
  rintro e w3 ⟨rr,rfl,hf⟩
  obtain⟨RA,rc,rfl,_⟩:=hf.own.form
  have je:=hO.below hf.2
  have xy:=yg.trans (hf.2.mono yg.size)
  go_wp2_with (at_builtin;refine yq ?_)
  unfold z8
  refine zW rfl (.tmp 21) (.tmp 23) rfl w.heap.size _ _ rfl je RA _ rc (be8 n 8) rfl rfl hf.own.src (by simp[uv]) xy.size fun v' w7 vr yQ hat7=>?_
  have uq:=jg4
  clear yQ hat7 je hf
  go_wp2_with fail
  go_ret
  exact⟨_,rfl,by rw[E.out];exact⟨vr,uq⟩⟩
 | some v =>
 obtain⟨s,x,f,hx⟩:=ru hn h2
 obtain rfl:=hv s x f v hx
 obtain rfl:=ir s x f hx
 have b1:((m:Int) != (m:Int))=false:=by simp
 have HF:=QG hx
 have HH:=Lib.hid (fun w3:World=>V0 r hr w3)
 cases h5:yz m 5 10 with
 | some q =>
  rw[h5]at HF
  rw[HF]at HH
  have E:Hid (zO m=[u8 249,u8 (q/256),u8 q]):=by rw[Hid,zO,if_neg (by simp[hN]),h5]
  clear pP ir hv hN hn h2 oS sN hr hx HF h5
  go_enter Tryz.func104,Tryz.ntmps104
  go_wp2_with fail
  refine(HH.out _).mono ?_
  rintro e w' ⟨⟨hq,rfl,he⟩,rfl⟩
  obtain rfl:=he q rfl
  clear he
  go_wp2_with fail
  go_ret
  refine⟨_,rfl, ?_⟩
  rw[E.out]
  refine(Fresh.lit w2 _ _ 3 rfl (by simp) ?_).step_ hb
  exact jch
 | none =>
 rw[h5]at HF
 rw[HF]at HH
 have E:Hid (zO m=[u8 250,u8 (r/16777216),u8 (r/65536),u8 (r/256),u8 r]):=by rw[Hid,zO,if_neg (by simp[hN]),h5,h2]
 clear pP ir hv hN hn h2 oS sN hr hx HF h5
 go_enter Tryz.func104,Tryz.ntmps104
 go_wp2_with fail
 refine(HH.out _).mono ?_
 rintro e w' ⟨⟨hq,rfl,_⟩,rfl⟩
 go_wp2_with fail
 go_ret
 refine⟨_,rfl, ?_⟩
 rw[E.out]
 refine(Fresh.lit w2 _ _ 5 rfl (by simp) ?_).step_ hb
 exact jch
theorem fN (n:Int) (w:World) (h0:0≤n) (h1:n<18446744073709551616) :
  Calls Tryz.prog 104 #[.int .u64 n] w fun e w'=>∃ r,e=.returned r∧Fresh w (zO n.toNat) r w':=by
 obtain⟨m,rfl⟩:=Int.eq_ofNat_of_zero_le h0
 rw[Int.toNat_natCast]
 exact sO m (by omega) w
def U64 (n:Int):Prop:=0≤n∧n<18446744073709551616
def Fb (w:World) (base:Nat) (v:Value) (l:List UInt8) (e:Ending) (w':World):Prop :=
 ∃ r,e=.returned r∧OwnB w' base r l∧w.grownBy w' v.ownBlock∧At0 w v.ownBlock r.ownBlock
def nV (x:Itm):Prop:=∀ (H:Snap) (k n:Int) (ba:Option Addr) (bl bc:Nat) (ia:Option Addr) (il ic:Nat) (w:World) (base:Nat) (v:Value) (l:List UInt8),
 Kinds x→ItemA H k n ba bl bc ia il ic x→Holds w H→OwnB w base v l→base≤w.heap.size→(∀ g,v.ownBlock=some g→H g=none)→l.length+(zf x).length≤1099511627776→
 Calls Tryz.prog 82 #[v,.agg #[.int .i64 k,.int .u64 n,.slice ba bl bc,.slice ia il ic]] w (Fb w base v (l++zf x))
set_option maxRecDepth 100000 in
set_option maxHeartbeats 800000 in
theorem Ux (x:Itm) (h8:x.kind=8):nV x:=by
 intro H k n ba bl bc ia il ic w base v l hk hx hH xA uM hv xF
 obtain⟨rfl,rfl,rfl,rfl,hx⟩:=hx
 have tE:=jhN
 have E:Hid (zf x=zO x.n):=by rw[Hid,xu,if_pos h8]
 rw[E.out]at xF
 have HL:=Lib.hid xF
 have HB:=Lib.hid tE
 have HV:=Lib.hid hv
 clear xF tE hv
 go_enter Tryz.func82,Tryz.ntmps82
 go_wp2_with (first
  | (go_at_call 104;refine(fN _ _ (by omega) (by have:=HB.out;omega)).mono ?_;rintro e w1 ⟨r,rfl,hf⟩;obtain⟨A,c,rfl,_,_,cz⟩:=hf.own.form)
  | (at_builtin;refine zW rfl (.tmp 11) (.tmp 14) rfl base v l rfl ((xA.alloc _).below hf.2) A _ c (zO x.n) rfl (by simp) (by simpa using cz) HL.out (by have:=hf.2.size;simp at this;omega) ?_;intro v' w2 hown' hg uF))
 go_ret
 refine⟨v',rfl,by rw[E.out];exact hown', ?_, ?_⟩
 ·exact yu (wW ((zm w _).trans (hf.2.mono (by simp))) _) hg (.inl rfl)
 exact At0.step (.inl rfl) (by have:=hf.2.size;simp at this;omega) uF
set_option maxRecDepth 100000 in
set_option maxHeartbeats 800000 in
theorem XP (x:Itm) (h7:x.kind=7) (tZ:24≤x.n):nV x:=by
 intro H k n ba bl bc ia il ic w base v l hk hx hH xA uM hv xF
 obtain⟨rfl,rfl,rfl,rfl,hx⟩:=hx
 have tE:=jhN
 have E:Hid (zf x=[u8 248,u8 x.n]):=by rw[Hid,xu,if_neg (by omega),if_pos ⟨h7,tZ⟩]
 rw[E.out]at xF
 have HL:=Lib.hid xF
 have HB:=Lib.hid tE
 have HV:=Lib.hid hv
 have AV:(24:Int)≤(x.n:Int):=by omega
 clear xF tE hv tZ
 go_enter Tryz.func82,Tryz.ntmps82
 go_wp2_with (at_builtin;refine zW rfl (.tmp 25) (.tmp 29) rfl base v l rfl ((xA.alloc _).alloc _) _ 2 2 [u8 248,u8 x.n] rfl rfl ?hs HL.out (by simp;omega) ?_)
 case hs=>exact Src.new _ _ _ _ (by simp) _ (by simp[re])
 intro v' w2 hown' hg uF
 go_wp2
 go_ret
 refine⟨v',rfl,by rw[E.out];exact hown', ?_, ?_⟩
 ·exact yu (wW ((zm w _).alloc (by simp) _) _) hg (.inl rfl)
 exact At0.step (.inl rfl) (by simp;omega) uF
theorem fv {w:World}{g:Nat}{cs:Array Value}{e:TypeId}(h:w.heap[g]? = some (.cells cs e (0,0))) (i:Nat):w.cell? ⟨g,i,none⟩=cs[i]? :=cell_of_row w g i cs e (0,0) h
theorem Sf {w w1 w2 w3:World}{base:Nat}{v:Value}{l:List UInt8}{cs:Array Value}{e:TypeId}(xA:OwnB w base v l)
  (h1:Below (w.alloc (.cells cs e)).heap.size (w.alloc (.cells cs e)) w1) (h2:Below w1.heap.size w1 w2) (h3:w2.grownBy w3 v.ownBlock) :
  w3.heap[w.heap.size]? = some (.cells cs e (0,0))∧w.heap.size+1≤w3.heap.size:=by
 have s1:=h1.size
 have s2:=h2.size
 have s3:=h3.size
 simp at s1
 refine⟨?_,by omega⟩
 rw[h3.block _ (by omega) (fun h=>by have:=(xA.lt _ h.symm).2;omega),h2.block _ (by omega),h1.block _ (by simp)]
 exact heap_alloc_new w _
set_option maxRecDepth 100000 in
set_option maxHeartbeats 1600000 in
theorem S9 (x:Itm) (h8:¬ x.kind=8) (h7:¬ (x.kind=7∧24≤x.n)) (ih:∀ y:Itm,cnt y<cnt x→nV y):nV x:=by
 intro H k n ba bl bc ia il ic w base v l hk hx hH xA uM hv xF
 obtain⟨rfl,rfl,rfl,rfl,hx⟩:=hx
 have tE:=jhN
 have E:Hid (zf x=zF x.kind.toNat (numP x)++x.bytes++zG x.items):=by rw[Hid,xu,if_neg h8,if_neg h7]
 rw[E.out]at xF
 have WM:=hk.kind
 have AQ:x.kind<8:=by omega
 have b8:(x.kind==8)=false:=by simp[h8]
 have M5:(numP x:Int)<18446744073709551616:=by
  unfold numP
  repeat' split
  all_goals omega
 have HN:U64 (numP x):=⟨by omega,M5⟩
 clear M5
 have LS:x.kind=7→(x.n:Int)<24:=fun h=>by have:¬ 24≤x.n:=fun h'=>h7 ⟨h,h'⟩;omega
 have HL:=Lib.hid xF
 have HB:=Lib.hid tE
 have HV:=Lib.hid hv
 clear xF tE hv h8 h7
 have JU:((x.kind==7)=true∧(x.n:Int)<24)∨(x.kind==7)=false:=by
  by_cases hk7:x.kind=7
  ·exact .inl ⟨by simp[hk7],LS hk7⟩
  exact .inr (by simp[hk7])
 clear LS
 have G:Hid (w.grownBy w none):=yt w none
 rcases JU with ⟨b7,hn⟩ | b7
 all_goals
  go_enter Tryz.func82,Tryz.ntmps82
  go_wp2_with fail
  refine(fO hx.arg _ (by omega) (by omega)).mono ?_
  rintro e w1 ⟨rfl,hm⟩
  go_wp2_with fail
  refine(rF _ _ _ (by omega) (by omega) (by omega) HN.2).mono ?_
  rintro e w2 ⟨r,rfl,hf⟩
  obtain⟨A,c,rfl,_,_,cz⟩:=hf.own.form
  have wu:w.heap.size+1≤w1.heap.size:=by have h1:=hm.size;simp at h1;omega
  have kL:w.heap.size+1≤w2.heap.size:=by have h1:=hm.size;have h2:=hf.2.size;simp at h1;omega
  go_wp2_with (at_builtin;refine yq ?_)
  unfold z8
  refine zW rfl (.tmp 31) (.tmp 36) rfl base v l rfl (((xA.alloc _).below hm).below hf.2) A _ c (zF x.kind.toNat (numP x)) rfl (by simp) (by simpa using cz) (by have:=HL.out;simp at this⊢;omega) (by omega) ?_
  intro v3 w3 hown3 RX hat3
  obtain⟨Qs,D9⟩:=Sf xA hm hf.2 RX
  have dD:=fv Qs 2
  have MC:=fv Qs 3
  simp at dD MC
  have Pi:Holds w3 H:=(((hH.alloc _).below hm (Nat.le_refl _)).below hf.2 (Nat.le_refl _)).grown RX HV.out
  have Jy:=Src.of_row hx.bytes.row Pi
  have yY:w.grownBy w3 v.ownBlock:=yu (wW (((zm w _).trans (hm.mono (by simp))).trans (hf.2.mono (by omega))) _) RX (.inl rfl)
  go_wp2_with (at_builtin;refine yq ?_)
  unfold z8
  refine zW rfl (.tmp 38) (.tmp 40) rfl base v3 _ rfl hown3 ba _ bc x.bytes rfl rfl Jy (by have:=HL.out;simp at this⊢;omega) (by omega) ?_
  intro v4 w4 gT rW hat4
  have hH4:Holds w4 H:=Pi.grown rW (fun g hg=>by
   rcases hat3 with h | ⟨g',h,hg'⟩
   ·exact HV.out g (h ▸ hg)
   rw[h]at hg;injection hg with hg;subst hg;exact hH.none_of_ge (by omega))
  have Tg:At0 w v.ownBlock v3.ownBlock:=At0.step (.inl rfl) (by omega) hat3
  have xj:w.grownBy w4 v.ownBlock:=yu yY rW Tg
  have L4:w4.heap[w.heap.size]? = some (.cells #[.int .i64 x.kind,.int .u64 x.n,.slice ba x.bytes.length bc,.slice ia x.items.length ic] 83 (0,0)) :=
   (rW.block _ (by omega) (fun h=>by
    rcases Tg with h' | ⟨g',h',hg'⟩
    ·rw[h']at h;have:=(xA.lt _ h.symm).2;omega
    rw[h']at h;injection h with h;subst h
    rcases hat3 with h3 | ⟨g3,h3,hg3'⟩
    ·rw[h3]at h';have:=(xA.lt _ h').2;omega
    rw[h']at h3;injection h3 with h3;omega)).trans Qs
  have Ft:=fv L4 3
  simp at Ft
  have Jq:At0 w v.ownBlock v4.ownBlock:=At0.step Tg (by omega) hat4
  clear dD MC Qs L4
  go_wp2_with (at_builtin;refine yq ?_)
  have tL:x.items.length≤9223372036854775807:=by have:=HB.out;omega
  go_loopw [0,45] (fun v' i wr=>∃ k:Nat,k≤x.items.length∧i=.int .i64 k∧OwnB wr base v' (l++zF x.kind.toNat (numP x)++x.bytes++zG (x.items.take k))∧
    w.grownBy wr v.ownBlock∧At0 w v.ownBlock v'.ownBlock) (fun _ i _=>x.items.length-(intOf i).toNat)
  case atStart=>exact⟨0,Nat.zero_le _,rfl,by simpa [zG] using gT,xj,Jq⟩
  case round =>
  obtain⟨k,tF,rfl,X4,xT,U2⟩:=hrel
  by_cases zB:k<x.items.length
  ·have RQ:Holds wr H:=hH.grown xT HV.out
   obtain⟨ib,io,pf,un⟩:=hx.items (by omega)
   obtain⟨eba,ebc,eia,eic,q0,q1,q2,q3,rx⟩:=un.get k zB
   subst pf
   have p0:=RQ.cell q0
   have p1:=RQ.cell q1
   have p2:=RQ.cell q2
   have p3:=RQ.cell q3
   have pt:=uG x.items k zB
   have xO:=oe x.items (k+1)
   have LV:∀ g,u0.ownBlock=some g→H g=none:=fun g hg=>by
    rcases U2 with h | ⟨g',h,hg'⟩
    ·exact HV.out g (h ▸ hg)
    rw[h]at hg;injection hg with hg;subst hg;exact hH.none_of_ge hg'
   have Jc:=xT.size
   have oE:(l++zF x.kind.toNat (numP x)++x.bytes++zG (x.items.take k)).length+(zf x.items[k]).length≤1099511627776:=by
    have h1:=HL.out
    rw[pt]at xO
    simp only[List.length_append]at h1 xO⊢
    omega
   have IHC:=ih x.items[k] (ui x k zB) H _ _ eba _ ebc eia _ eic (wr.alloc (.cells #[.int .i64 x.items[k].kind,.int .u64 x.items[k].n,.slice eba x.items[k].bytes.length ebc,.slice eia x.items[k].items.length eic] 83)) base u0 _
    (hk.items.get k zB) rx.arg (RQ.alloc _) (X4.alloc _) (by simp;omega) LV oE
   have IHH:=Lib.hid IHC
   have HF:=Lib.hid pt
   clear pt xO oE LV q0 q1 q2 q3 IHC
   go_wp2_with fail
   refine IHH.out.mono ?_
   rintro e w6 ⟨r6,rfl,PU,tg,Kw⟩
   have R:OwnB w6 base r6 (l++zF x.kind.toNat (numP x)++x.bytes++zG (x.items.take (k+1)))∧w.grownBy w6 v.ownBlock∧At0 w v.ownBlock r6.ownBlock:=by
    refine⟨by rw[HF.out];simpa using PU,yu (vf xT _) tg U2,At0.step U2 (by simp;omega) Kw⟩
   clear PU tg Kw X4 xT U2 IHH HF p0 p1 p2 p3
   go_wp2_with fail
   go_roundw
   case rel=>exact⟨k+1,by omega,by go_num,R.1,R.2.1,R.2.2⟩
   case measure=>simp[intOf];omega
  have WM:k=x.items.length:=by omega
  subst WM
  rw[List.take_length]at X4
  go_wp2_with fail
  go_ret
  exact⟨_,rfl,by rw[E.out];simpa using X4,xT,U2⟩
theorem qp (x:Itm):nV x:=by
 have main:∀ N,∀ x:Itm,cnt x≤N→nV x:=by
  intro N
  induction N with
  | zero =>
   exact jbq
  | succ N ih =>
  intro x hx
  by_cases h8:x.kind=8
  ·exact Ux x h8
  by_cases h7:x.kind=7∧24≤x.n
  ·exact XP x h7.1 h7.2
  exact S9 x h8 h7 fun y hy=>ih y (by omega)
 exact jcq
theorem KD (n:Nat):((n:Int)==9221120237041090560)=(n==9221120237041090560):=by rw[Bool.eq_iff_iff,beq_iff_eq,beq_iff_eq];omega
theorem GJ {α:Type}(l:List α):((l.length:Int)==0)=l.isEmpty:=by cases l <;> simp <;> omega
theorem R2 {a b c d:Bool}(h:a=b) (k:c=d):Ending.returned (.tuple #[.bool a,.bool c])=Ending.returned (.tuple #[.bool b,.bool d]):=by rw[h,k]
set_option maxRecDepth 100000 in
set_option maxHeartbeats 1600000 in
theorem QX {H:Snap}{x:Itm}{ba:Option Addr}{bc:Nat}{ia:Option Addr}{ic:Nat}(hx:IsItem H ba bc ia ic x) (w:World) (hk:x.kind=0∨x.kind=1∨x.kind=2∨x.kind=7):
  Calls Tryz.prog 120 #[xx x ba bc ia ic] w fun e w'=>e=.returned (.tuple #[.bool (zH x),.bool (yx x)])∧Below w.heap.size w w':=by
 obtain⟨_,_,hn,xR,zC,sZ,sH⟩:=hx.bounds
 have hb:x.bytes.length≤9223372036854775807:=by omega
 have hi:x.items.length≤9223372036854775807:=by omega
 have HN:=Lib.hid hn
 clear xR zC sZ sH hx hn
 rcases hk with hk | hk | hk | hk
 all_goals
  have E:Hid (zH x=zH x∧yx x=true):=⟨rfl,by simp[yx,hk]⟩
  go_enter Tryz.func120,Tryz.ntmps120
  go_wp2
  all_goals go_ret2
 all_goals refine⟨R2 ?_ E.out.2.symm, ?_⟩
 all_goals first | exact zm w _ | exact(zm w _).drew | skip
 all_goals (simp[zH,GJ, *];try (rw[Bool.eq_iff_iff];simp;omega);skip)
 all_goals omega
set_option maxRecDepth 100000 in
set_option maxHeartbeats 1600000 in
theorem Qa {H:Snap}(hT:Tabs H) {x:Itm}{ba:Option Addr}{bc:Nat}{ia:Option Addr}{ic:Nat}(hx:IsItem H ba bc ia ic x) (w:World) (hH:Holds w H) (hk:x.kind=3):
  Calls Tryz.prog 120 #[xx x ba bc ia ic] w fun e w'=>e=.returned (.tuple #[.bool (zH x),.bool (yx x)])∧Below w.heap.size w w':=by
 obtain⟨_,_,hn,xR,zC,sZ,sH⟩:=hx.bounds
 have hb:x.bytes.length≤9223372036854775807:=by omega
 have hi:x.items.length≤9223372036854775807:=by omega
 have HN:=Lib.hid hn
 have kI:=hx.bytes
 clear xR zC sZ sH hx hn
 have E:Hid (yx x=true):=by simp[Hid,yx,hk]
 go_enter Tryz.func120,Tryz.ntmps120
 go_wp2_with (go_at_call 96;refine(sB hT _ (hH.alloc _) ba _ _ bc rfl kI).mono ?_;rintro e w1 ⟨rfl,xR⟩)
 all_goals go_ret2
 all_goals refine⟨R2 ?_ E.out.symm, ?_⟩
 all_goals first | exact(zm w _).trans (xR.mono (by simp)) | exact zm w _ | exact(zm w _).drew | skip
 all_goals (simp[zH, *])
set_option maxRecDepth 100000 in
set_option maxHeartbeats 1600000 in
theorem QY {H:Snap}{x:Itm}{ba:Option Addr}{bc:Nat}{ia:Option Addr}{ic:Nat}(hx:IsItem H ba bc ia ic x) (w:World) (hk:x.kind=8) :
  Calls Tryz.prog 120 #[xx x ba bc ia ic] w fun e w'=>e=.returned (.tuple #[.bool (zH x),.bool (yx x)])∧Below w.heap.size w w':=by
 obtain⟨_,_,hn,xR,zC,sZ,sH⟩:=hx.bounds
 have hb:x.bytes.length≤9223372036854775807:=by omega
 have hi:x.items.length≤9223372036854775807:=by omega
 have HN:=Lib.hid hn
 clear xR zC sZ sH hx hn
 have E:Hid (yx x=true):=by simp[Hid,yx,hk]
 go_enter Tryz.func120,Tryz.ntmps120
 have r1:=vF x.n
 have r2:=dh x.n
 go_wp2
 all_goals go_ret2
 all_goals refine⟨R2 ?_ E.out.symm, ?_⟩
 all_goals first | exact zm w _ | exact(zm w _).drew | skip
 all_goals simp[zH,ym,KD, *]
set_option maxRecDepth 100000 in
set_option maxHeartbeats 1600000 in
theorem QZ {x:Itm}{ba:Option Addr}{bc:Nat}{ia:Option Addr}{ic:Nat}(w:World) (hk:yx x=false) :
  Calls Tryz.prog 120 #[xx x ba bc ia ic] w fun e w'=>e=.returned (.tuple #[.bool (zH x),.bool (yx x)])∧Below w.heap.size w w':=by
 have h:(x.kind==0)=false∧(x.kind==1)=false∧(x.kind==2)=false∧(x.kind==3)=false∧(x.kind==7)=false∧(x.kind==8)=false:=by
  simp only[yx,Bool.or_eq_false_iff]at hk
  simp only[hk,and_self]
 obtain⟨h0,h1,h2,h3,h7,h8⟩:=h
 have E:Hid (yx x=false∧zH x=false):=⟨hk,by
  simp only[beq_eq_false_iff_ne,ne_eq]at h0 h1 h2 h3 h7 h8
  simp[zH, *]⟩
 clear hk
 go_enter Tryz.func120,Tryz.ntmps120
 go_wp2
 go_ret2
 exact⟨R2 E.out.2.symm E.out.1.symm,zm w _⟩
theorem lm {H:Snap}(hT:Tabs H) {k n:Int}{ba:Option Addr}{bl bc:Nat}{ia:Option Addr}{il ic:Nat}{x:Itm}(hx:ItemA H k n ba bl bc ia il ic x) (w:World) (hH:Holds w H) :
  Calls Tryz.prog 120 #[.agg #[.int .i64 k,.int .u64 n,.slice ba bl bc,.slice ia il ic]] w fun e w'=>e=.returned (.tuple #[.bool (zH x),.bool (yx x)])∧Below w.heap.size w w':=by
 obtain⟨rfl,rfl,rfl,rfl,hx⟩:=hx
 by_cases h3:x.kind=3
 ·exact Qa hT hx w hH h3
 by_cases h8:x.kind=8
 ·exact QY hx w h8
 by_cases ha:x.kind=0∨x.kind=1∨x.kind=2∨x.kind=7
 ·exact QX hx w ha
 exact QZ w (by simp[yx];omega)
def tB:Option Nat→Int
 | none => -1
 | some r=>r
def uX (x:Itm):Prop:=∀ (H:Snap),Tabs H→∀ (k n:Int) (ba:Option Addr) (bl bc:Nat) (ia:Option Addr) (il ic:Nat) (w:World) (c d:Nat),
 ItemA H k n ba bl bc ia il ic x→Holds w H→c≤65536→d≤65536→
 Calls Tryz.prog 75 #[.agg #[.int .i64 k,.int .u64 n,.slice ba bl bc,.slice ia il ic],.int .i64 c,.int .i64 d] w fun e w'=>e=.returned (.int .i64 (tB (yM x c d)))∧Below w.heap.size w w'
set_option maxRecDepth 100000 in
theorem VV (x:Itm) {H:Snap}{ba:Option Addr}{bc:Nat}{ia:Option Addr}{ic:Nat}(w:World) (d:Nat) :
  Calls Tryz.prog 75 #[xx x ba bc ia ic,.int .i64 0,.int .i64 d] w fun e w'=>e=.returned (.int .i64 (tB (yM x 0 d)))∧Below w.heap.size w w':=by
 have E:Hid (yM x 0 d=none):=by rw[Hid,tT,if_pos (by omega)]
 exact jb8
theorem va {x:Itm}{c d:Nat}(h:yX x d (c-1)=false):yM x c d=none:=by
 rw[tT]
 by_cases h1:c<1
 ·rw[if_pos h1]
 rw[if_neg h1,if_pos h]
theorem ks {x:Itm}{d m:Nat}(hk:x.kind=0∨x.kind=1):yX x d m=true↔x.bytes.length=0∧x.items.length=0:=by
 have hp:=(zP x).2 (by omega)
 unfold yX y9 zH
 rw[if_pos hp,if_pos hk]
 simp only[Bool.and_eq_true,List.isEmpty_iff,decide_eq_true_eq,List.length_eq_zero_iff]
 constructor
 ·rintro⟨⟨⟨a,b⟩,_⟩,_⟩;exact⟨a,b⟩
 rintro⟨a,b⟩;exact⟨⟨⟨a,b⟩,by rw[a];simp⟩,by rw[b];simp⟩
theorem Wj {x:Itm}{d m:Nat}(hk:x.kind=2):yX x d m=true↔x.n=0∧x.items.length=0∧x.bytes.length≤4096:=by
 have hp:=(zP x).2 (by omega)
 unfold yX y9 zH
 rw[if_pos hp,if_neg (by omega),if_pos hk]
 simp only[Bool.and_eq_true,List.isEmpty_iff,decide_eq_true_eq,List.length_eq_zero_iff,beq_iff_eq]
 constructor
 ·rintro⟨⟨⟨a,b⟩,c⟩,_⟩;exact⟨a,b,c⟩
 rintro⟨a,b,c⟩;exact⟨⟨⟨a,b⟩,c⟩,by rw[b];simp⟩
theorem Wk {x:Itm}{d m:Nat}(hk:x.kind=3):yX x d m=true↔x.n=0∧x.items.length=0∧x.bytes.length≤4096∧Lib.validD x.bytes=true:=by
 have hp:=(zP x).2 (by omega)
 unfold yX y9 zH
 rw[if_pos hp,if_neg (by omega),if_neg (by omega),if_pos hk]
 simp only[Bool.and_eq_true,List.isEmpty_iff,decide_eq_true_eq,List.length_eq_zero_iff,beq_iff_eq]
 constructor
 ·rintro⟨⟨⟨⟨a,b⟩,v⟩,c⟩,_⟩;exact⟨a,b,c,v⟩
 rintro⟨a,b,c,v⟩;exact⟨⟨⟨⟨a,b⟩,v⟩,c⟩,by rw[b];simp⟩
theorem Wl {x:Itm}{d m:Nat}(hk:x.kind=7):yX x d m=true↔x.bytes.length=0∧x.items.length=0∧(x.n<24∨(32≤x.n∧x.n<256)):=by
 have hp:=(zP x).2 (by omega)
 unfold yX y9 zH
 rw[if_pos hp,if_neg (by omega),if_neg (by omega),if_neg (by omega),if_pos hk]
 simp only[Bool.and_eq_true,Bool.or_eq_true,List.isEmpty_iff,decide_eq_true_eq,List.length_eq_zero_iff,beq_iff_eq]
 constructor
 ·exact jd5
 exact jdr
theorem Wm {x:Itm}{d m:Nat}(hk:x.kind=8):yX x d m=true↔x.bytes.length=0∧x.items.length=0∧(isNaN x.n=false∨x.n=ym):=by
 have hp:=(zP x).2 (by omega)
 unfold yX y9 zH
 rw[if_pos hp,if_neg (by omega),if_neg (by omega),if_neg (by omega),if_neg (by omega),if_pos hk]
 simp only[Bool.and_eq_true,Bool.or_eq_true,List.isEmpty_iff,decide_eq_true_eq,List.length_eq_zero_iff,beq_iff_eq,Bool.not_eq_true']
 constructor
 ·exact jd5
 exact jdr
theorem vH {x:Itm}{d m:Nat}(hk:4≤x.kind∧x.kind≤6):yX x d m=true↔d<8∧x.bytes.length=0∧(x.kind=6→x.items.length=1)∧(x.kind≠6→x.n=0)∧(x.kind=5→x.items.length%2=0)∧x.items.length≤m:=by
 have hp:¬ yx x=true:=by rw[zP];omega
 unfold yX y9 vl
 rw[if_neg hp]
 simp only[Bool.and_eq_true,decide_eq_true_eq]
 constructor
 ·rintro⟨⟨⟨_,_,a,b,c,d,e⟩,_⟩,f⟩;exact⟨a,b,c,d,e,f⟩
 rintro⟨a,b,c,d,e,f⟩;exact⟨⟨⟨hk.1,hk.2,a,b,c,d,e⟩,by omega⟩,f⟩
theorem Vb {x:Itm}{d m:Nat}(hk:x.kind<0∨8<x.kind):yX x d m=false:=by
 cases h:yX x d m with
 | false=>rfl
 | true =>
 have:=qB (fc h).1
 omega
theorem tz {x:Itm}{c d:Nat}(hc:0<c) (h:yX x d (c-1)=true) (h0:x.items.length=0):yM x c d=some (c-1):=by
 rw[List.length_eq_zero_iff]at h0
 rw[tT,if_neg (by omega),if_neg (by simp[h]),h0,x9]
 simp only
 rw[if_neg (by rintro⟨_,h⟩;cases h)]
end Go.Proofs.YtgaoknihklmakabGreatDoor
