/- squeezed. Walks: a block is encrypted, by th -/
import Derived.Test.YtliomcphdnppnaaGreatDoorK38
set_option linter.unusedVariables false
set_option linter.unusedSimpArgs false
set_option maxRecDepth 100000
set_option maxHeartbeats 25600000
namespace Go.Proofs.YtliomcphdnppnaaGreatDoor
open Go.RowKit
theorem kW {w:World}{o:Oper}{a:Act}{K:Act→World→Prop}{Q:Exit→Act→World→Prop}(arr:TypeId) (x:Operand) (ho:o.op=.sliceToArrayPointer arr x)
  (A:Option Addr) (n c k:Nat) (e:TypeId) (hx:a.eval x=.slice A n c) (hu:Tryz.prog.underlying arr=some (.array k e)) (hk:k≤n) (h:K (a.put o.dst (.pointer A)) w):o.wp Tryz.prog a w K Q:=by
 have hr:(Instr.arrayAt arr (.slice A n c)).run Tryz.prog w=.ok (.pointer A) w:=by
  simp[Instr.arrayAt,run_underlying hu,Nat.not_lt.2 hk]
 unfold Oper.wp execOp
 simp only[ho,hx,hr,Sem.run_bind,Sem.run_pure,Result.andThen_ok]
 exact h
theorem UW (S key:List UInt8) {i k:Nat}(hk:k<16):at_ (tu S key i) k=at_ (yK S key 160) (16*i+k):=by
 unfold tu
 generalize yK S key 160=K
 exact aY (fun k=>at_ K (16*i+k)) hk
theorem UZ {W:World}{gk go:Nat}{S key:List UInt8}(h:key.length=16) (hs:Src W (some ⟨gk,go,none⟩) ((yK S key 160).map zv)) {i:Nat}(hi:i≤10):Sixteen W gk (go+16*i) (tu S key i):=fun k hk=>by
 have hl:=wT S key h 160;rw[UW S key hk,Nat.add_assoc]
 generalize yK S key 160=K at hl hs⊢
 obtain⟨b,off,e,hc⟩:=hs (by intro h0;rw[List.map_eq_nil_iff]at h0;rw[h0]at hl;simp at hl);injection e with e
 injection e with e1 e2
 subst e1 e2
 exact hc _ _ (by rw[List.getElem?_map,List.getElem?_eq_getElem (by omega)];simp[at_,List.getD_eq_getElem?_getD,show 16*i+k<K.length by omega])
theorem Zr {W:World}{b o:Nat}{l:List UInt8}(h:Src W (some ⟨b,o,none⟩) (l.map zv)) (xg:l≠[]):W.rangeAt b o (l.map zv):=by
 obtain⟨b',off,e,hc⟩:=h (by simpa using xg);injection e with e
 injection e with e1 e2
 subst e1 e2
 exact hc
theorem XI:tJ.length=256:=by rw[← gH];exact ki 255
theorem mg {key b:List UInt8}(hk:key.length=16) (uD:b.length=16) {A C:Option Addr}{ac bc:Nat}(w:World) (hK:Src w A (key.map zv)) (hB:Src w C (b.map zv)) :
  Calls Tryz.prog 115 #[.slice A 16 ac,.slice C 16 bc] w fun e w'=>∃ v,e=.returned (.tuple #[v,.int .i64 0])∧Fresh w (qz key b) v w':=by
 have xg:b≠[]:=by intro h;rw[h]at uD;simp at uD
 obtain⟨bb,bo,rfl,_⟩:=hB (by simpa using xg);have HB:Hid (∀ W:World,Below w.heap.size w W→W.rangeAt bb bo (b.map zv)):=fun W hW=>Zr (hB.below hW) xg
 have HL:=Hh (And.intro hk (And.intro uD XI));have HK:=Hh hK;clear hk uD hK hB xg;go_enter Tryz.func115,Tryz.ntmps115
 go_wp2_with fail
 refine(mD _).mono ?_
 rintro e w1 ⟨rfl,hb⟩
 have TX:=Blk.new w1 115 (zr (List.replicate 256 0));have qe:=hb.size;replace hb:=hb.alloc hb.size (.cells (zr (List.replicate 256 0)) 115);obtain⟨S,MZ⟩:∃ S,tJ=S:=⟨_,rfl⟩
 have HS:Hid (tJ=S∧S.length=256):=⟨MZ,by rw[← MZ];exact HL.out.2.2⟩
 rw[MZ];clear MZ;go_wp2_with (with_reducible refine zx ?_)
 unfold yy
 rw[lI]
 refine yA rfl _ _ _ rfl rfl w1.heap.size 0 S rfl rfl TX (by rw[HS.out.2];kernel_rfl) (by rw[HS.out.2];simp) fun w2 hS qJ=>?_
 rw[qv (by rw[HS.out.2];simp)]at hS;replace hb:=hb.grown qJ hb.size (by rintro q ⟨⟩;exact qe);obtain⟨N6,Sa⟩:∃ N,w1.heap.size=N:=⟨_,rfl⟩
 rw[Sa]at hS qe
 try rw[Sa]
 clear Sa TX qJ;go_wp2_with (with_reducible refine wU 115 ?_)
 refine zN rfl _ _ rfl N6 0 256 rfl hS (by rw[HS.out.2];omega) _ Tryz.underlying115 rfl (by kernel_rfl) ?_
 rw[xm HS.out.2];have SC:=Hh (gA (S:=S) (c:=ac) HS.out.2 HL.out.1 w2 (HK.out.below hb));go_wp2_with fail
 refine SC.out.mono ?_
 rintro e w3 ⟨v3,rfl,WO⟩
 clear SC;have JF:N6<w2.heap.size:=hS.lt;replace hS:=hS.below WO.2;have hO:=WO.own;have Dp:=hb.size;replace hb:=hb.trans (WO.2.mono hb.size);obtain⟨K,MP⟩:∃ K,yK S key 160=K:=⟨_,rfl⟩
 have VQ:Hid (yK S key 160=K∧K.length=176):=⟨MP,by rw[← MP,wT S key HL.out.1]⟩
 rw[MP]at hO;clear MP WO;obtain⟨WA,kc,rfl,mN,_,ri⟩:=hO.form;obtain⟨gk,go_,rfl,_⟩:=ri (by intro h0;rw[List.map_eq_nil_iff]at h0;have h1:=VQ.out.2;rw[h0]at h1;simp at h1);have Fj:=hO.lt gk rfl;rw[VQ.out.2]at hO mN⊢;have HG:Hid (w.heap.size≤N6∧N6<gk∧176≤kc):=⟨qe,by omega,mN⟩
 have Og:Hid (∀ W:World,OwnB W w2.heap.size (.slice (some ⟨gk,go_,none⟩) 176 kc) K→∀ i,i≤10→Sixteen W gk (go_+16*i) (tu S key i)):=fun W hW i hi=>UZ HL.out.1 (by rw[VQ.out.1];exact hW.src) hi
 have Dz:(16:Int)≤(kc:Int):=by omega
 clear mN qe JF ri Fj;go_upto_region 5 with fail
 go_cut [8] (fun s8 wx=>∃ N8:Nat,s8=.pointer (some ⟨N8,0,none⟩)∧gk<N8∧Blk wx N8 85 (zr (rg S key b 0))∧Blk wx N6 115 (zr S)∧OwnB wx w2.heap.size (.slice (some ⟨gk,go_,none⟩) 176 kc) K∧Below w.heap.size w wx)
 case first =>
  have wH:=(hO.lt gk rfl).2;replace hS:=hS.drew;replace hO:=hO.below (Below.refl _ _).drew;replace hb:=hb.drew;replace wH:gk<(w3.drew).heap.size:=wH
  refine zw 8 (fun _=>True) (by kernel_rfl) (trivial) (fun zy=>?_)
  refine TkS 0 rfl zy ?_
  refine TkS 3 rfl zy ?_
  refine TkS 4 rfl zy ?_
  refine Ways.two (i:=1) (j:=6) rfl rfl (by kernel_rfl) (fun K hK=>?_) (fun K hK=>?_)
  ·rw[if_pos (by rfl)]
   refine kW _ _ rfl (some ⟨bb,bo,none⟩) 16 bc 16 _ rfl Tryz.underlying85 (Nat.le_refl _) ?_
   refine Ko hK ?_ fun zy=>?_
   ·trivial
   clear hK K
   refine Ways.two (i:=2) (j:=6) rfl rfl (by kernel_rfl) (fun K hK=>?_) (fun K hK=>?_)
   ·rw[if_pos (by rfl)]
    refine wp_load_mid _ _ rfl bb bo rfl (b.map zv) _ (HB.out _ hb) Tryz.underlying85 rfl (by rw[List.length_map,HL.out.2.1];kernel_rfl) ?_
    refine Ko hK ?_ fun zy=>?_
    ·trivial
    clear hK K
    refine Ways.two (i:=5) (j:=6) rfl rfl (by kernel_rfl) (fun K hK=>?_) (fun K hK=>?_)
    ·go_simp
     refine(oC HL.out.2.1 (B:=gk) (off:=go_) (c:=kc) (by have:=HG.out;omega) (k:=tu S key 0) _ (Og.out _ hO 0 (by omega))).mono ?_
     rintro e w5 ⟨rfl,yN⟩
     try replace hD:=hD.below yN
     replace hS:=hS.below yN;replace hO:=hO.below yN;replace wH:=Nat.lt_of_lt_of_le wH yN.size;replace hb:=hb.trans (yN.mono hb.size)
     refine Ko hK ?_ fun zy=>?_
     ·trivial
     clear hK K
     refine To 6 rfl fun K hK=>?_
     go_simp
     have hD:=rT hb 85 #[.int .u8 0,.int .u8 0,.int .u8 0,.int .u8 0,.int .u8 0,.int .u8 0,.int .u8 0,.int .u8 0,.int .u8 0,.int .u8 0,.int .u8 0,.int .u8 0,.int .u8 0,.int .u8 0,.int .u8 0,.int .u8 0];have Yd:=wH;replace hS:=hS.alloc (.cells #[.int .u8 0,.int .u8 0,.int .u8 0,.int .u8 0,.int .u8 0,.int .u8 0,.int .u8 0,.int .u8 0,.int .u8 0,.int .u8 0,.int .u8 0,.int .u8 0,.int .u8 0,.int .u8 0,.int .u8 0,.int .u8 0] 85);replace hO:=hO.alloc (.cells #[.int .u8 0,.int .u8 0,.int .u8 0,.int .u8 0,.int .u8 0,.int .u8 0,.int .u8 0,.int .u8 0,.int .u8 0,.int .u8 0,.int .u8 0,.int .u8 0,.int .u8 0,.int .u8 0,.int .u8 0,.int .u8 0] 85);replace wH:=Nat.lt_of_lt_of_le wH (Nat.le_of_lt (by first | exact hD.lt | (have h:=hD.lt;simp only[zj,zu]at h⊢;omega)));replace hb:=hb.alloc hb.size (.cells #[.int .u8 0,.int .u8 0,.int .u8 0,.int .u8 0,.int .u8 0,.int .u8 0,.int .u8 0,.int .u8 0,.int .u8 0,.int .u8 0,.int .u8 0,.int .u8 0,.int .u8 0,.int .u8 0,.int .u8 0,.int .u8 0] 85)
     try simp only[zj,zu]at hD
     try simp only[zj,zu]at Yd
     refine Ko hK ?_ fun zy=>?_
     ·trivial
     clear hK K
     refine To 7 rfl fun K hK=>?_
     rw[if_pos (by rfl)]
     refine zk _ _ _ rfl _ (zr (xG b (tu S key 0))) rfl rfl _ _ hD (by rw[zo,yf];kernel_rfl) (by rw[zo,yf];rfl) (ym _) fun w10 hD10 yY=>?_
     replace hS:=hS.grown yY (by intro e;injection e with e;have:=HG.out;omega);replace hO:=hO.kept yY (.inr (by intro e;injection e with e;have e':gk=_:=e;omega));replace hb:=hb.grown yY hb.size (by rintro q ⟨⟩;have:=HG.out;omega)
     refine Ko hK ?_ fun zy=>?_
     ·trivial
     clear hK K
     refine Wd ?_
     clear zy;go_wp2_with fail
     go_meet
     exact⟨_,rfl,Yd,hD10,hS,hO,hb⟩
    go_simp
    have hD:=rT hb 85 #[.int .u8 0,.int .u8 0,.int .u8 0,.int .u8 0,.int .u8 0,.int .u8 0,.int .u8 0,.int .u8 0,.int .u8 0,.int .u8 0,.int .u8 0,.int .u8 0,.int .u8 0,.int .u8 0,.int .u8 0,.int .u8 0];have Yd:=wH;replace hS:=hS.alloc (.cells #[.int .u8 0,.int .u8 0,.int .u8 0,.int .u8 0,.int .u8 0,.int .u8 0,.int .u8 0,.int .u8 0,.int .u8 0,.int .u8 0,.int .u8 0,.int .u8 0,.int .u8 0,.int .u8 0,.int .u8 0,.int .u8 0] 85);replace hO:=hO.alloc (.cells #[.int .u8 0,.int .u8 0,.int .u8 0,.int .u8 0,.int .u8 0,.int .u8 0,.int .u8 0,.int .u8 0,.int .u8 0,.int .u8 0,.int .u8 0,.int .u8 0,.int .u8 0,.int .u8 0,.int .u8 0,.int .u8 0] 85);replace wH:=Nat.lt_of_lt_of_le wH (Nat.le_of_lt (by first | exact hD.lt | (have h:=hD.lt;simp only[zj,zu]at h⊢;omega)));replace hb:=hb.alloc hb.size (.cells #[.int .u8 0,.int .u8 0,.int .u8 0,.int .u8 0,.int .u8 0,.int .u8 0,.int .u8 0,.int .u8 0,.int .u8 0,.int .u8 0,.int .u8 0,.int .u8 0,.int .u8 0,.int .u8 0,.int .u8 0,.int .u8 0] 85)
    try simp only[zj,zu]at hD
    try simp only[zj,zu]at Yd
    refine Ko hK ?_ fun zy=>?_
    ·trivial
    clear hK K
    refine To 5 rfl fun K hK=>?_
    go_simp
    refine(oC HL.out.2.1 (B:=gk) (off:=go_) (c:=kc) (by have:=HG.out;omega) (k:=tu S key 0) _ (Og.out _ hO 0 (by omega))).mono ?_
    rintro e w5 ⟨rfl,yN⟩
    try replace hD:=hD.below yN
    replace hS:=hS.below yN;replace hO:=hO.below yN;replace wH:=Nat.lt_of_lt_of_le wH yN.size;replace hb:=hb.trans (yN.mono hb.size)
    refine Ko hK ?_ fun zy=>?_
    ·trivial
    clear hK K
    refine To 7 rfl fun K hK=>?_
    rw[if_pos (by rfl)]
    refine zk _ _ _ rfl _ (zr (xG b (tu S key 0))) rfl rfl _ _ hD (by rw[zo,yf];kernel_rfl) (by rw[zo,yf];rfl) (ym _) fun w10 hD10 yY=>?_
    replace hS:=hS.grown yY (by intro e;injection e with e;have:=HG.out;omega);replace hO:=hO.kept yY (.inr (by intro e;injection e with e;have e':gk=_:=e;omega));replace hb:=hb.grown yY hb.size (by rintro q ⟨⟩;have:=HG.out;omega)
    refine Ko hK ?_ fun zy=>?_
    ·trivial
    clear hK K
    refine Wd ?_
    clear zy;go_wp2_with fail
    go_meet
    exact⟨_,rfl,Yd,hD10,hS,hO,hb⟩
   go_simp
   have hD:=rT hb 85 #[.int .u8 0,.int .u8 0,.int .u8 0,.int .u8 0,.int .u8 0,.int .u8 0,.int .u8 0,.int .u8 0,.int .u8 0,.int .u8 0,.int .u8 0,.int .u8 0,.int .u8 0,.int .u8 0,.int .u8 0,.int .u8 0];have Yd:=wH;replace hS:=hS.alloc (.cells #[.int .u8 0,.int .u8 0,.int .u8 0,.int .u8 0,.int .u8 0,.int .u8 0,.int .u8 0,.int .u8 0,.int .u8 0,.int .u8 0,.int .u8 0,.int .u8 0,.int .u8 0,.int .u8 0,.int .u8 0,.int .u8 0] 85);replace hO:=hO.alloc (.cells #[.int .u8 0,.int .u8 0,.int .u8 0,.int .u8 0,.int .u8 0,.int .u8 0,.int .u8 0,.int .u8 0,.int .u8 0,.int .u8 0,.int .u8 0,.int .u8 0,.int .u8 0,.int .u8 0,.int .u8 0,.int .u8 0] 85);replace wH:=Nat.lt_of_lt_of_le wH (Nat.le_of_lt (by first | exact hD.lt | (have h:=hD.lt;simp only[zj,zu]at h⊢;omega)));replace hb:=hb.alloc hb.size (.cells #[.int .u8 0,.int .u8 0,.int .u8 0,.int .u8 0,.int .u8 0,.int .u8 0,.int .u8 0,.int .u8 0,.int .u8 0,.int .u8 0,.int .u8 0,.int .u8 0,.int .u8 0,.int .u8 0,.int .u8 0,.int .u8 0] 85)
   try simp only[zj,zu]at hD
   try simp only[zj,zu]at Yd
   refine Ko hK ?_ fun zy=>?_
   ·trivial
   clear hK K
   refine To 2 rfl fun K hK=>?_
   rw[if_pos (by rfl)]
   refine wp_load_mid _ _ rfl bb bo rfl (b.map zv) _ (HB.out _ hb) Tryz.underlying85 rfl (by rw[List.length_map,HL.out.2.1];kernel_rfl) ?_
   refine Ko hK ?_ fun zy=>?_
   ·trivial
   clear hK K
   refine To 5 rfl fun K hK=>?_
   go_simp
   refine(oC HL.out.2.1 (B:=gk) (off:=go_) (c:=kc) (by have:=HG.out;omega) (k:=tu S key 0) _ (Og.out _ hO 0 (by omega))).mono ?_
   rintro e w5 ⟨rfl,yN⟩
   try replace hD:=hD.below yN
   replace hS:=hS.below yN;replace hO:=hO.below yN;replace wH:=Nat.lt_of_lt_of_le wH yN.size;replace hb:=hb.trans (yN.mono hb.size)
   refine Ko hK ?_ fun zy=>?_
   ·trivial
   clear hK K
   refine To 7 rfl fun K hK=>?_
   rw[if_pos (by rfl)]
   refine zk _ _ _ rfl _ (zr (xG b (tu S key 0))) rfl rfl _ _ hD (by rw[zo,yf];kernel_rfl) (by rw[zo,yf];rfl) (ym _) fun w10 hD10 yY=>?_
   replace hS:=hS.grown yY (by intro e;injection e with e;have:=HG.out;omega);replace hO:=hO.kept yY (.inr (by intro e;injection e with e;have e':gk=_:=e;omega));replace hb:=hb.grown yY hb.size (by rintro q ⟨⟩;have:=HG.out;omega)
   refine Ko hK ?_ fun zy=>?_
   ·trivial
   clear hK K
   refine Wd ?_
   clear zy;go_wp2_with fail
   go_meet
   exact⟨_,rfl,Yd,hD10,hS,hO,hb⟩
  go_simp
  have hD:=rT hb 85 #[.int .u8 0,.int .u8 0,.int .u8 0,.int .u8 0,.int .u8 0,.int .u8 0,.int .u8 0,.int .u8 0,.int .u8 0,.int .u8 0,.int .u8 0,.int .u8 0,.int .u8 0,.int .u8 0,.int .u8 0,.int .u8 0];have Yd:=wH;replace hS:=hS.alloc (.cells #[.int .u8 0,.int .u8 0,.int .u8 0,.int .u8 0,.int .u8 0,.int .u8 0,.int .u8 0,.int .u8 0,.int .u8 0,.int .u8 0,.int .u8 0,.int .u8 0,.int .u8 0,.int .u8 0,.int .u8 0,.int .u8 0] 85);replace hO:=hO.alloc (.cells #[.int .u8 0,.int .u8 0,.int .u8 0,.int .u8 0,.int .u8 0,.int .u8 0,.int .u8 0,.int .u8 0,.int .u8 0,.int .u8 0,.int .u8 0,.int .u8 0,.int .u8 0,.int .u8 0,.int .u8 0,.int .u8 0] 85);replace wH:=Nat.lt_of_lt_of_le wH (Nat.le_of_lt (by first | exact hD.lt | (have h:=hD.lt;simp only[zj,zu]at h⊢;omega)));replace hb:=hb.alloc hb.size (.cells #[.int .u8 0,.int .u8 0,.int .u8 0,.int .u8 0,.int .u8 0,.int .u8 0,.int .u8 0,.int .u8 0,.int .u8 0,.int .u8 0,.int .u8 0,.int .u8 0,.int .u8 0,.int .u8 0,.int .u8 0,.int .u8 0] 85)
  try simp only[zj,zu]at hD
  try simp only[zj,zu]at Yd
  refine Ko hK ?_ fun zy=>?_
  ·trivial
  clear hK K
  refine To 1 rfl fun K hK=>?_
  rw[if_pos (by rfl)]
  refine kW _ _ rfl (some ⟨bb,bo,none⟩) 16 bc 16 _ rfl Tryz.underlying85 (Nat.le_refl _) ?_
  refine Ko hK ?_ fun zy=>?_
  ·trivial
  clear hK K
  refine To 2 rfl fun K hK=>?_
  rw[if_pos (by rfl)]
  refine wp_load_mid _ _ rfl bb bo rfl (b.map zv) _ (HB.out _ hb) Tryz.underlying85 rfl (by rw[List.length_map,HL.out.2.1];kernel_rfl) ?_
  refine Ko hK ?_ fun zy=>?_
  ·trivial
  clear hK K
  refine To 5 rfl fun K hK=>?_
  go_simp
  refine(oC HL.out.2.1 (B:=gk) (off:=go_) (c:=kc) (by have:=HG.out;omega) (k:=tu S key 0) _ (Og.out _ hO 0 (by omega))).mono ?_
  rintro e w5 ⟨rfl,yN⟩
  try replace hD:=hD.below yN
  replace hS:=hS.below yN;replace hO:=hO.below yN;replace wH:=Nat.lt_of_lt_of_le wH yN.size;replace hb:=hb.trans (yN.mono hb.size)
  refine Ko hK ?_ fun zy=>?_
  ·trivial
  clear hK K
  refine To 7 rfl fun K hK=>?_
  rw[if_pos (by rfl)]
  refine zk _ _ _ rfl _ (zr (xG b (tu S key 0))) rfl rfl _ _ hD (by rw[zo,yf];kernel_rfl) (by rw[zo,yf];rfl) (ym _) fun w10 hD10 yY=>?_
  replace hS:=hS.grown yY (by intro e;injection e with e;have:=HG.out;omega);replace hO:=hO.kept yY (.inr (by intro e;injection e with e;have e':gk=_:=e;omega));replace hb:=hb.grown yY hb.size (by rintro q ⟨⟩;have:=HG.out;omega)
  refine Ko hK ?_ fun zy=>?_
  ·trivial
  clear hK K
  refine Wd ?_
  clear zy;go_wp2_with fail
  go_meet
  exact⟨_,rfl,Yd,hD10,hS,hO,hb⟩
 case rest =>
 clear hS hO hb;obtain⟨N8,rfl,II,hD,hS,hO,hb⟩:=hcut;have Ef:=Hh II;clear II;go_wp2_with fail
 go_loopw [9] (fun v9 wr=>∃ i:Nat,v9=.int .i64 (i:Int)∧1≤i∧i≤11∧Blk wr N8 85 (zr (rg S key b (i-1)))∧Blk wr N6 115 (zr S)∧OwnB wr w2.heap.size (.slice (some ⟨gk,go_,none⟩) 176 kc) K∧Below w.heap.size w wr) (fun v9 _=>(11-intOf v9).toNat)
 case atStart=>exact⟨1,rfl,by omega,by omega,hD,hS,hO,hb⟩
 case round =>
 clear hD hS hO hb;obtain⟨i,rfl,rN,hi,hD,hS,hO,hb⟩:=hrel
 by_cases zB:(i:Int)≤10
 ·obtain⟨l,hl⟩:∃ l,rg S key b (i-1)=l:=⟨_,rfl⟩
  have pB:l.length=16:=by rw[← hl];exact pm _ _ _ _
  rw[hl]at hD
  have aG:Hid (rg S key b (i+1-1)=xG (if i<10 then vq (xE S l) else xE S l) (tu S key i)):=by
   rw[Hid,show i+1-1=(i-1)+1 by omega,rg,bI,hl,show i-1+1=i by omega]
  have qG:=Hh pB;clear hl pB;obtain⟨Z,hZ⟩:∃ Z:List UInt8,List.replicate 16 0=Z:=⟨_,rfl⟩
  have HZ:Hid (Z.length=16):=by rw[Hid,← hZ];simp
  have EZ:(#[.int .u8 0,.int .u8 0,.int .u8 0,.int .u8 0,.int .u8 0,.int .u8 0,.int .u8 0,.int .u8 0,.int .u8 0,.int .u8 0,.int .u8 0,.int .u8 0,.int .u8 0,.int .u8 0,.int .u8 0,.int .u8 0]:Array Value)=zr Z:=by rw[← hZ];rfl
  clear hZ;have hM:=Blk.new wr 85 (zr Z);have Kf:=hD.lt;replace hD:=hD.alloc (.cells (zr Z) 85);replace hS:=hS.alloc (.cells (zr Z) 85);replace hO:=hO.alloc (.cells (zr Z) 85);replace hb:=hb.alloc hb.size (.cells (zr Z) 85);rw[← wl (vU S l) HZ.out]at hM;go_upto_region 10 with fail
  try rw[EZ]
  rw[← wl (vU S l) HZ.out]at hD hS hO hb;rw[← wl (vU S l) HZ.out];obtain⟨w5,Lf⟩:∃ w5,wr.alloc (.cells (zr (wW 16 (vU S l) Z 0)) 85)=w5:=⟨_,rfl⟩
  obtain⟨M,Kp⟩:∃ M,wr.heap.size=M:=⟨_,rfl⟩
  rw[Lf]at hM hD hS hO hb;rw[Kp]at hM Kf
  try rw[Lf]
  try rw[Kp]
  have HM:Hid (N8<M∧gk<N8∧w.heap.size≤N6∧N6<gk):=⟨Kf,Ef.out,HG.out.1,HG.out.2.1⟩
  clear EZ Lf Kp Kf;go_wp2_with fail
  go_loopw [35] (fun v35 wx=>∃ c:Nat,v35=.int .i64 (c:Int)∧c≤4∧Blk wx M 85 (zr (wW 16 (vU S l) Z (4*c)))∧Blk wx N8 85 (zr l)∧Blk wx N6 115 (zr S)∧OwnB wx w2.heap.size (.slice (some ⟨gk,go_,none⟩) 176 kc) K∧Below w.heap.size w wx) (fun v35 _=>(4-intOf v35).toNat)
  case atStart=>exact⟨0,rfl,by omega,hM,hD,hS,hO,hb⟩
  case round =>
  clear hM hD hS hO hb;obtain⟨c,rfl,hc,hM,hD,hS,hO,hb⟩:=hrel
  by_cases im:(c:Int)<4
  ·obtain⟨c4,ik⟩:∃ e,4*c=e:=⟨_,rfl⟩
   have W0:IntKind.i64.wrap (4*(c:Int))=(c4:Int):=by rw[show 4*(c:Int)=((4*c:Nat):Int) by omega,ik];exact zP (by omega)
   rw[ik]at hM;have Yl:=Hh ik;clear ik;go_wp2_with fail
   go_loopw [38] (fun v38 wy=>∃ r:Nat,v38=.int .i64 (r:Int)∧r≤4∧Blk wy M 85 (zr (wW 16 (vU S l) Z (c4+r)))∧Blk wy N8 85 (zr l)∧Blk wy N6 115 (zr S)∧OwnB wy w2.heap.size (.slice (some ⟨gk,go_,none⟩) 176 kc) K∧Below w.heap.size w wy) (fun v38 _=>(4-intOf v38).toNat)
   case atStart=>exact⟨0,rfl,by omega,hM,hD,hS,hO,hb⟩
   case round =>
   clear hM hD hS hO hb;obtain⟨r,rfl,hr,hM,hD,hS,hO,hb⟩:=hrel
   by_cases hrt:(r:Int)<4
   ·obtain⟨j,hj⟩:∃ j,c4+r=j:=⟨_,rfl⟩
    obtain⟨e,he⟩:∃ e,c+r=e:=⟨_,rfl⟩
    obtain⟨q,hq⟩:∃ q,e%4=q:=⟨_,rfl⟩
    obtain⟨f,hf⟩:∃ f,4*q=f:=⟨_,rfl⟩
    obtain⟨x,hx⟩:∃ x,f+r=x:=⟨_,rfl⟩
    have W1:IntKind.i64.wrap ((c4:Int)+(r:Int))=(j:Int):=by rw[← Int.natCast_add,hj];exact zP (by have:=Yl.out;omega)
    have W2:IntKind.i64.wrap ((c:Int)+(r:Int))=(e:Int):=by rw[← Int.natCast_add,he];exact zP (by omega)
    have t3:(e:Int).tmod 4=(q:Int):=by rw[← hq];exact(Int.ofNat_tmod e 4).symm
    have W3:IntKind.i64.wrap (4*(q:Int))=(f:Int):=by rw[show 4*(q:Int)=((4*q:Nat):Int) by omega,hf];exact zP (by omega)
    have W4:IntKind.i64.wrap ((f:Int)+(r:Int))=(x:Int):=by rw[← Int.natCast_add,hx];exact zP (by omega)
    have lx:(x:Int)<16:=by omega
    have lj:(j:Int)<16:=by have:=Yl.out;omega
    obtain⟨u,hu⟩:∃ u,at_ l x=u:=⟨_,rfl⟩
    obtain⟨v,hv⟩:∃ v,at_ S u.toNat=v:=⟨_,rfl⟩
    have lu:(u.toNat:Int)<256:=by have:=u.toNat_lt;omega
    have HV:Hid (vU S l j=v):=by
     have h4:=Yl.out;rw[Hid,vU,show j%4+4*((j/4+j%4)%4)=x by rw[show j%4=r by omega,show j/4=c by omega,he,hq,hf];omega,hu,hv]
    have c0:=hD.cell x (zK _ _ (by rw[qG.out];omega));have c1:=hS.cell u.toNat (zK _ _ (by rw[HS.out.2];omega));rw[hu]at c0;rw[hv]at c1;have S1:=Hh (vZ (n:=16) (i:=j) (vU S l) Z (by omega));rw[HV.out]at S1;rw[hj]at hM;have HJ:=Hh hj;clear he hq hf hx hu hv HV hj;go_wp2_with (with_reducible refine zx ?_)
    refine zT rfl _ _ _ rfl rfl M j (zv v) rfl rfl _ _ hM yM (by rw[zo,xe];omega) rfl fun w9 hM9 xr=>?_
    rw[xl,S1.out]at hM9;have FE:=hD.grown xr (by intro e;injection e with e;have:=HM.out;omega);have MW:=hS.grown xr (by intro e;injection e with e;have:=HM.out;omega);have je:=hO.kept xr (.inr (by intro e;injection e with e;have e':gk=_:=e;have:=HM.out;omega));have nV:=hb.grown xr hb.size (by rintro q ⟨⟩;have:=HM.out;omega);clear hM hD hS hO hb xr c0 c1 t3 W1 W2 W3 W4 lx lj lu S1;go_wp2_with fail
    go_roundw
    case rel=>exact⟨r+1,by go_num,by omega,by rw[← Nat.add_assoc,HJ.out];exact hM9,FE,MW,je,nV⟩
    case measure=>simp[intOf];omega
   obtain rfl:r=4:=by omega
   rw[show((4:Nat):Int)=4 from rfl];clear W0 hrt;go_wp2_with fail
   go_roundw
   case rel=>exact⟨c+1,by go_num,by omega,by have h:=Yl.out;rw[show 4*(c+1)=c4+4 by omega];exact hM,hD,hS,hO,hb⟩
   case measure=>simp[intOf];omega
  obtain rfl:c=4:=by omega
  rw[show((4:Nat):Int)=4 from rfl];obtain⟨s1,vT⟩:∃ s,xE S l=s:=⟨_,rfl⟩
  have lw:Hid (s1.length=16∧(vq s1).length=16):=by rw[Hid,← vT];exact⟨by simp[xE],by simp[vq]⟩
  rw[show 4*4=16 from rfl,uU,show(List.range 16).map (vU S l)=xE S l from rfl,vT]at hM;rw[vT]at aG;clear im vT;go_upto_if 60 with fail
  go_cut [] (fun wx=>Blk wx M 85 (zr (if i<10 then vq s1 else s1))∧Blk wx N8 85 (zr l)∧Blk wx N6 115 (zr S)∧OwnB wx w2.heap.size (.slice (some ⟨gk,go_,none⟩) 176 kc) K∧Below w.heap.size w wx)
  case first =>
   by_cases h10:(i:Int)<10
   ·have E:Hid ((if i<10 then vq s1 else s1)=vq s1):=if_pos (by omega);go_wp2_with (with_reducible refine wU 85 ?_)
    refine zN rfl _ _ rfl M 0 16 rfl hM (by rw[lw.out.1];omega) _ Tryz.underlying85 rfl (by kernel_rfl) ?_
    rw[xm lw.out.1];have MX:=Hh (UU lw.out.1 _:Calls Tryz.prog 146 #[.agg (zr s1),.agg rG] wr _);go_wp2_with fail
    refine MX.out.mono ?_
    rintro e w6 ⟨rfl,xT⟩
    clear MX;replace hM:=hM.below xT;replace hD:=hD.below xT;replace hS:=hS.below xT;replace hO:=hO.below xT;replace hb:=hb.trans (xT.mono hb.size);go_wp2_with (with_reducible refine zx ?_)
    refine yA rfl _ _ _ rfl rfl M 0 (vq s1) rfl rfl hM (by rw[lw.out.2];kernel_rfl) (by rw[lw.out.1,lw.out.2];omega) fun w8 hM8 hg8=>?_
    rw[qv (by rw[lw.out.1,lw.out.2])]at hM8;have Ke:=hD.grown hg8 (by intro e;injection e with e;have:=HM.out;omega);have aP:=hS.grown hg8 (by intro e;injection e with e;have:=HM.out;omega);have na:=hO.kept hg8 (.inr (by intro e;injection e with e;have e':gk=_:=e;have:=HM.out;omega));have rm:=hb.grown hg8 hb.size (by rintro q ⟨⟩;have:=HM.out;omega);clear hM hD hS hO hb hg8 xT;go_wp2_with fail
    go_meet
    exact⟨by rw[E.out];exact hM8,Ke,aP,na,rm⟩
   have E:Hid ((if i<10 then vq s1 else s1)=s1):=if_neg (by omega);go_wp2_with fail
   go_meet
   exact⟨by rw[E.out];exact hM,hD,hS,hO,hb⟩
  case rest =>
  clear hM hD hS hO hb;obtain⟨hM,hD,hS,hO,hb⟩:=hcut;obtain⟨l2,pA⟩:∃ l,(if i<10 then vq s1 else s1)=l:=⟨_,rfl⟩
  have YC:l2.length=16:=by rw[← pA];split;exact lw.out.2;exact lw.out.1
  rw[pA]at hM aG;have wJ:=Hh YC;clear pA YC lw;obtain⟨p,hp⟩:∃ p,16*i=p:=⟨_,rfl⟩
  have V1:IntKind.i64.wrap (16*(i:Int))=(p:Int):=by rw[show 16*(i:Int)=((16*i:Nat):Int) by omega,hp];exact zP (by omega)
  obtain⟨p6,IY⟩:∃ p6,p+16=p6:=⟨_,rfl⟩
  have V2:IntKind.i64.wrap ((p:Int)+16)=(p6:Int):=by rw[show(p:Int)+16=((p+16:Nat):Int) by omega,IY];exact zP (by omega)
  have p0:(p:Int)≤(p6:Int):=by omega
  have p1:p≤p6:=by omega
  have p2:(p6:Int)≤(kc:Int):=by have:=HG.out;omega
  have p3:(kc=p)=False:=eq_false (by have:=HG.out;omega);have p4:p6-p=16:=by omega
  clear IY;have Ge:=Hh hp;clear hp;go_upto_region 21 with fail
  replace hM:=hM.drew;replace hD:=hD.drew;replace hS:=hS.drew;replace hO:=hO.below (Below.refl _ _).drew;replace hb:=hb.drew
  refine zw 10 (fun _=>True) (by kernel_rfl) (trivial) (fun zy=>?_)
  refine TkS 1 rfl zy ?_
  refine TkS 2 rfl zy ?_
  refine TkS 3 rfl zy ?_
  refine TkS 4 rfl zy ?_
  refine TkS 5 rfl zy ?_
  refine TkS 6 rfl zy ?_
  refine TkS 7 rfl zy ?_
  refine To 0 rfl fun K hK=>?_
  rw[if_pos (by rfl)]
  refine wp_load_mid _ _ rfl M 0 rfl (l2.map zv) _ (by have h:=sT hM 0 16;rw[xm wJ.out]at h;exact h) Tryz.underlying85 rfl (by rw[List.length_map,wJ.out];kernel_rfl) ?_
  refine Ko hK ?_ fun zy=>?_
  ·trivial
  clear hK K
  refine To 8 rfl fun K hK=>?_
  go_simp
  refine(oC wJ.out (B:=gk) (off:=go_+p) (c:=kc-p) (by have:=HG.out;have:=Ge.out;omega) (k:=tu S key i) _ (by have h:=Og.out _ hO i (by omega);rw[Ge.out]at h;exact h)).mono ?_
  rintro e w7 ⟨rfl,vh⟩
  replace hM:=hM.below vh;replace hD:=hD.below vh;replace hS:=hS.below vh;replace hO:=hO.below vh;replace hb:=hb.trans (vh.mono hb.size)
  refine Ko hK ?_ fun zy=>?_
  ·trivial
  clear hK K
  refine To 9 rfl fun K hK=>?_
  rw[if_pos (by rfl)]
  refine zk _ _ _ rfl _ (zr (xG l2 (tu S key i))) rfl rfl _ _ hD (by rw[zo,yf];kernel_rfl) (by rw[zo,zo,yf,qG.out]) (ym _) fun w10 hD10 yY=>?_
  replace hS:=hS.grown yY (by intro e;injection e with e;have:=HM.out;omega);replace hO:=hO.kept yY (.inr (by intro e;injection e with e;have e':gk=_:=e;have:=HM.out;omega));replace hb:=hb.grown yY hb.size (by rintro q ⟨⟩;have:=HM.out;omega)
  refine Ko hK ?_ fun zy=>?_
  ·trivial
  clear hK K
  refine Wd ?_
  rw[← aG.out]at hD10;clear zy hM hD yY V1 V2 p0 p1 p2 p3 p4 aG;go_wp2_with fail
  go_roundw
  case rel=>exact⟨i+1,by go_num,by omega,by omega,hD10,hS,hO,hb⟩
  case measure=>simp[intOf];omega
 obtain rfl:i=11:=by omega
 rw[show((11:Nat):Int)=11 from rfl];have HF:Hid ((rg S key b 10).length=16∧rg S key b 10=qz key b):=⟨pm _ _ _ _,by rw[qz,HS.out.1]⟩
 replace hD:Blk _ N8 85 (zr (rg S key b 10)):=hD
 generalize rg S key b 10=E at hD HF
 clear zB;go_wp2_with (at_builtin;refine zO ?_)
 refine zn rfl (.const (.slice none 0 0)) (.tmp 73) rfl w.heap.size (.slice none 0 0) [] rfl (OwnB.nil _ _) (some ⟨N8,0,none⟩) 16 16 E rfl HF.out.1.symm hD.srcB (by have:=HF.out.1;simp;omega) hb.size fun v' wz fo wm hatz=>?_
 rw[List.nil_append,HF.out.2]at fo;have zJ:=hb.trans ((yo (by simpa [Value.ownBlock] using wm)).mono hb.size);clear hD hS hO hb wm hatz;go_wp2_with fail
 go_ret2
 exact⟨_,rfl,fo,zJ⟩
theorem me {KA NA:Option Addr}{kn kc nn nc:Nat}(t:Nat) (ht:t≤1000000) (w:World) :
  Calls Tryz.prog 83 #[.slice KA kn kc,.slice NA nn nc,.int .i64 (t:Int)] w fun e w'=>e=.returned (.bool (yk kn nn t))∧w=w':=by
 obtain⟨r,hr⟩:∃ r,t%2=r:=⟨_,rfl⟩
 have t1:(t:Int).tmod 2=(r:Int):=by rw[← hr];exact(Int.ofNat_tmod t 2).symm
 have t1':(t:Int)%2=(r:Int):=by rw[← hr];omega
 have HR:=Hh hr
 by_cases h1:(kn:Int)=16
 ·have aH:kn=16:=by omega
  by_cases h2:(7:Int)≤(nn:Int)
  ·by_cases h3:(nn:Int)≤13
   ·by_cases h4:(4:Int)≤(t:Int)
    ·by_cases h5:(t:Int)≤16
     ·by_cases h6:(r:Int)=0
      ·have E:Hid (yk kn nn t=true):=by rw[Hid,yk,hr];simp;omega
       clear hr aH;go_enter Tryz.func83,Tryz.ntmps83
       go_wp2_with fail
       go_ret
       exact⟨by rw[E.out];rfl,rfl⟩
      have E:Hid (yk kn nn t=false):=by rw[Hid,yk,hr];simp;omega
      have e6:((r:Int)==0)=false:=by rw[beq_eq_false_iff_ne];exact h6
      clear hr aH;go_enter Tryz.func83,Tryz.ntmps83
      go_wp2_with fail
      go_ret
      exact⟨by rw[E.out];rfl,rfl⟩
     have E:Hid (yk kn nn t=false):=by rw[Hid,yk];simp;omega
     clear hr aH;go_enter Tryz.func83,Tryz.ntmps83
     go_wp2_with fail
     go_ret
     exact⟨by rw[E.out];rfl,rfl⟩
    have E:Hid (yk kn nn t=false):=by rw[Hid,yk];simp;omega
    clear hr aH;go_enter Tryz.func83,Tryz.ntmps83
    go_wp2_with fail
    go_ret
    exact⟨by rw[E.out];rfl,rfl⟩
   have E:Hid (yk kn nn t=false):=by rw[Hid,yk];simp;omega
   clear hr aH;go_enter Tryz.func83,Tryz.ntmps83
   go_wp2_with fail
   go_ret
   exact⟨by rw[E.out];rfl,rfl⟩
  have E:Hid (yk kn nn t=false):=by rw[Hid,yk];simp;omega
  clear hr aH;go_enter Tryz.func83,Tryz.ntmps83
  go_wp2_with fail
  go_ret
  exact⟨by rw[E.out];rfl,rfl⟩
 have E:Hid (yk kn nn t=false):=by rw[Hid,yk];simp;omega
 have e1:((kn:Int)==16)=false:=by rw[beq_eq_false_iff_ne];exact h1
 clear hr;go_enter Tryz.func83,Tryz.ntmps83
 go_wp2_with fail
 go_ret
 exact⟨by rw[E.out];rfl,rfl⟩
theorem kQ {A:Option Addr}{n c:Nat}{b:List UInt8}(hn:n=b.length) (uD:b.length≤1048576) (w:World) (hB:Src w A (b.map zv)) :
  Calls Tryz.prog 117 #[.slice A n c] w fun e w'=>∃ v,e=.returned v∧Fresh w (pF b) v w':=by
 have HN:=Hh (And.intro hn uD);clear hn uD;go_enter Tryz.func117,Tryz.ntmps117
 go_wp2_with (at_builtin;refine zO ?_)
 refine zn rfl (.const (.slice none 0 0)) (.tmp 4) rfl w.heap.size (.slice none 0 0) [] rfl (OwnB.nil _ _) A n c b rfl HN.out.1 hB (by have:=HN.out.2;simp;omega) (Nat.le_refl _) fun v' w1 hO fd hat1=>?_
 rw[List.nil_append]at hO;have hb:=yo (by simpa [Value.ownBlock] using fd);obtain⟨VA,vc,rfl,wZ,_,_⟩:=hO.form;rw[← HN.out.1]at hO⊢;clear wZ fd hat1 hB;go_wp2_with fail
 go_loopw [3] (fun v3 wr=>∃ (k m:Nat) (L:List UInt8) (VA:Option Addr) (vc:Nat),v3=.slice VA m vc∧m=n+k∧k≤(16-n%16)%16∧Hid (L=b++List.replicate k 0)∧OwnB wr w.heap.size (.slice VA m vc) L∧Below w.heap.size w wr) (fun v3 _=>match v3 with | .slice _ m _=>n+16-m | _=>0)
 case atStart=>exact⟨0,n,b,VA,vc,rfl,rfl,Nat.zero_le _,by simp[Hid],hO,hb⟩
 case round =>
 clear hO hb;obtain⟨k,m,L,VA,vc,rfl,hm,hk,hL,hO,hb⟩:=hrel;obtain⟨r,hr⟩:∃ r,m%16=r:=⟨_,rfl⟩
 have t1:(m:Int).tmod 16=(r:Int):=by rw[← hr];exact(Int.ofNat_tmod m 16).symm
 have HM:=Hh (And.intro hm (And.intro hk hr));clear hm hk hr
 by_cases h0:r=0
 ·have iq:k=(16-n%16)%16:=by have:=HM.out;omega
  have HR:Hid (L=pF b):=by rw[Hid,hL.out,pF,← HN.out.1,← iq]
  subst h0;clear hL;go_wp2_with fail
  go_ret
  exact⟨_,rfl,by rw[← HR.out];exact hO,hb⟩
 have e0:((r:Int)==0)=false:=by rw[beq_eq_false_iff_ne];omega
 have e1:((r:Int) != 0)=true:=by rw[bne_iff_ne];omega
 have e2:((r:Int)=0)=False:=eq_false (by omega);have Gh:=Hh h0;have wK:=hO.alloc (.cells #[.int .u8 0] 5);have zH:=hb.alloc hb.size (.cells #[.int .u8 0] 5);have oz:=ql hb 5 #[.int .u8 0];clear h0 hO;go_wp2_with (at_builtin;refine zO ?_)
 refine zn rfl (.tmp 10) (.tmp 11) rfl w.heap.size (.slice VA m vc) L rfl wK _ 1 1 [0] rfl rfl oz (by have h1:=HN.out;have h2:=HM.out;rw[hL.out];simp;omega) zH.size fun v' w5 xS yF ve=>?_
 obtain⟨L2,jZ⟩:∃ L2,L++[0]=L2:=⟨_,rfl⟩
 have wJ:Hid (L2=b++List.replicate (k+1) 0∧L2.length=m+1):=by
  rw[Hid,← jZ,hL.out,List.replicate_succ',← List.append_assoc]
  refine⟨rfl, ?_⟩
  have h1:=HM.out.1;have h2:=HN.out.1
  simp
  omega
 rw[jZ]at xS;obtain⟨VB,vd,rfl,wZ,_,_⟩:=xS.form;rw[wJ.out.2]at xS⊢;have yN:=zH.grown yF zH.size (fun q hq=>(wK.lt q hq).1);clear jZ wZ wK zH hb oz yF ve hL;go_wp2_with fail
 go_roundw
 case rel=>exact⟨k+1,m+1,L2,VB,vd,rfl,by have:=HM.out;omega,by have:=HM.out;have:=Gh.out;omega,wJ.out.1,xS,yN⟩
 case measure=>have:=HM.out;have:=Gh.out;show n+16-(m+1)<n+16-m;omega
theorem mh {A:Option Addr}{n c:Nat}{nonce:List UInt8}(hn:n=nonce.length) (hl:nonce.length≤14) (f:Nat) (hf:f<256) (num:Nat) (hnum:num<4611686018427387904) (w:World) (hN:Src w A (nonce.map zv)) :
  Calls Tryz.prog 116 #[.int .i64 (f:Int),.slice A n c,.int .i64 (num:Int)] w fun e w'=>∃ v,e=.returned v∧Fresh w (vC (UInt8.ofNat f) nonce num) v w':=by
 have HN:=Hh (And.intro hn (And.intro hl hnum));have ef:IntKind.u8.wrap (f:Int)=(f:Int):=by rw[IntKind.wrap_u8];omega
 have HF:Hid (Value.int .u8 (f:Int)=zv (UInt8.ofNat f)):=by rw[Hid,zv,UInt8.toNat_ofNat_of_lt' (by simpa using hf)]
 have hO:=OwnB.lit w w.heap.size [UInt8.ofNat f] #[.int .u8 (f:Int)] 1 rfl (by rw[HF.out];rfl) (Nat.le_refl _) (by simp);have hb:=zq w (.cells #[.int .u8 (f:Int)] 5);have hS:=hN.alloc (.cells #[.int .u8 (f:Int)] 5);have eW:IntKind.i64.wrap (14-(n:Int))=((15-n:Nat):Int)-1:=by rw[IntWalk.i64_in _ (by omega)];omega
 clear hn hl hnum hf hN;go_enter Tryz.func116,Tryz.ntmps116
 go_wp2_with (at_builtin;refine zO ?_)
 refine zn rfl (.tmp 11) (.tmp 12) rfl w.heap.size (.slice (some ⟨w.heap.size,0,none⟩) 1 1) [UInt8.ofNat f] rfl hO A n c nonce rfl HN.out.1 hS (by have:=HN.out.2;simp;omega) hb.size fun v' w1 wK fd hat1=>?_
 obtain⟨L,hL⟩:∃ L,[UInt8.ofNat f]++nonce=L:=⟨_,rfl⟩
 have HL:Hid (L++qO (15-n) num=vC (UInt8.ofNat f) nonce num∧L.length+(15-n)=16):=by
  rw[Hid,← hL,vC,HN.out.1]
  refine⟨by simp, ?_⟩
  have:=HN.out
  simp
  omega
 rw[hL]at wK;have zH:=hb.grown fd hb.size (fun q hq=>by injection hq with hq;exact Nat.le_of_eq hq);obtain⟨VA,vc,rfl,wZ,_,_⟩:=wK.form;obtain⟨q,hq⟩:∃ q,L.length=q:=⟨_,rfl⟩
 rw[hq]at wK⊢;obtain⟨m,hm⟩:∃ m,15-n=m:=⟨_,rfl⟩
 rw[hm]at eW
 replace HL:Hid (L++qO m num=vC (UInt8.ofNat f) nonce num∧q+m=16∧L.length=q∧m≤15):=by
  have h:=HL.out;rw[hq,hm]at h
  exact⟨h.1,h.2,hq,by omega⟩
 clear hL hq hm wZ hO hb hS fd hat1;go_wp2_with fail
 go_loopw [7,8] (fun v7 v8 wr=>∃ (m q:Nat) (L:List UInt8) (VA:Option Addr) (vc:Nat),v8=.int .i64 ((m:Int)-1)∧m≤15∧v7=.slice VA q vc∧Hid (L++qO m num=vC (UInt8.ofNat f) nonce num∧q+m=16∧L.length=q)∧OwnB wr w.heap.size (.slice VA q vc) L∧Below w.heap.size w wr) (fun _ v8 _=>(intOf v8+1).toNat)
 case atStart=>exact⟨m,q,L,VA,vc,rfl,HL.out.2.2.2,rfl,⟨HL.out.1,HL.out.2.1,HL.out.2.2.1⟩,wK,zH⟩
 case round =>
 clear wK zH HL eW;obtain⟨m,q,L,VA,vc,rfl,hm,rfl,HL,hO,hb⟩:=hrel;have HM:=Hh hm
 by_cases h0:m=0
 ·have HR:Hid (L=vC (UInt8.ofNat f) nonce num):=by have h:=HL.out.1;rw[h0,qO,List.append_nil]at h;exact h
  have e0:¬ (0:Int)≤(m:Int)-1:=by omega
  clear h0 HL;go_wp2_with fail
  go_ret
  exact⟨_,rfl,by rw[← HR.out];exact hO,hb⟩
 have e0:(0:Int)≤(m:Int)-1:=by omega
 have V1:IntKind.i64.wrap ((m:Int)-1-1)=((m-1:Nat):Int)-1:=by rw[IntWalk.i64_in _ (by omega)];omega
 obtain⟨x,hx⟩:∃ x,UInt8.ofNat (num/256 ^ (m-1)%256)=x:=⟨_,rfl⟩
 obtain⟨L2,jZ⟩:∃ L2,L++[x]=L2:=⟨_,rfl⟩
 have wJ:Hid (L2++qO (m-1) num=vC (UInt8.ofNat f) nonce num∧(q+1)+(m-1)=16∧L2.length=q+1∧L++[x]=L2):=by
  have h:=HL.out;rw[show m=(m-1)+1 by omega,kg,hx]at h
  refine⟨by rw[← jZ,List.append_assoc];exact h.1,by omega,by rw[← jZ,List.length_append];simp;omega,jZ⟩
 have wK:=hO.alloc (.cells #[.int .u8 (x.toNat:Int)] 5);have zH:=hb.alloc hb.size (.cells #[.int .u8 (x.toNat:Int)] 5);have oz:=ql hb 5 #[.int .u8 (x.toNat:Int)];have HX:=Hh hx;have HQ:=Hh (show q≤16 from by have:=HL.out;omega);clear hx jZ h0 hm HL hO hb
 by_cases h7:(7:Int)<(m:Int)-1
 ·have dY:x=0:=by
   have h1:num/256 ^ (m-1)=0:=by
    have h2:=HN.out.2.2
    refine Nat.div_eq_of_lt (Nat.lt_of_lt_of_le h2 ?_)
    exact Nat.le_trans (by decide:4611686018427387904≤256 ^ 8) (Nat.pow_le_pow_right (by omega) (by omega))
   rw[← HX.out,h1];rfl
  subst dY;clear HX;go_wp2_with (at_builtin;refine zO ?_)
  refine zn rfl (.tmp 23) (.tmp 24) rfl w.heap.size (.slice VA q vc) L rfl wK _ 1 1 [0] rfl rfl oz (by have h:=wK.1;have h2:=HQ.out;have h3:=wJ.out;rw[← h3.2.2.2]at h3;simp at h3⊢;omega) zH.size fun v' w5 xS yF ve=>?_
  rw[wJ.out.2.2.2]at xS;obtain⟨VB,vd,rfl,wZ,_,_⟩:=xS.form;rw[wJ.out.2.2.1]at xS⊢;have yN:=zH.grown yF zH.size (fun q hq=>(wK.lt q hq).1);clear wZ wK zH oz yF ve;go_wp2_with fail
  go_roundw
  case rel=>exact⟨m-1,q+1,L2,VB,vd,rfl,by have:=HM.out;omega,rfl,⟨wJ.out.1,wJ.out.2.1,wJ.out.2.2.1⟩,xS,yN⟩
  case measure=>have:=HM.out;simp[intOf];omega
 have e8:x.toNat=num/256 ^ (m-1)%256:=by rw[← HX.out,UInt8.toNat_ofNat_of_lt' (by have:=Nat.mod_lt (num/256 ^ (m-1)) (show 0<256 by omega);simpa using this)]
 clear HX V1
 rcases(by have:=HM.out;omega:m=1∨m=2∨m=3∨m=4∨m=5∨m=6∨m=7∨m=8) with rfl | rfl | rfl | rfl | rfl | rfl | rfl | rfl
 ·have EX:(num:Int)%256=(x.toNat:Int):=by simp only[Nat.reduceSub,Nat.reducePow,Nat.pow_zero,Nat.div_one]at e8;omega
  clear e8;go_wp2_with (at_builtin;refine zO ?_)
  unfold yy
  try rw[EX]
  refine zn rfl (.tmp 26) (.tmp 33) rfl w.heap.size (.slice VA q vc) L rfl wK _ 1 1 [x] rfl rfl oz (by have h3:=wJ.out;rw[← h3.2.2.2]at h3;simp at h3⊢;omega) zH.size fun v' w5 xS yF ve=>?_
  rw[wJ.out.2.2.2]at xS;obtain⟨VB,vd,rfl,wZ,_,_⟩:=xS.form;rw[wJ.out.2.2.1]at xS⊢;have yN:=zH.grown yF zH.size (fun q hq=>(wK.lt q hq).1);clear wZ wK zH oz yF ve;go_wp2_with fail
  go_roundw
  case rel=>exact⟨0,q+1,L2,VB,vd,by first | rfl | trivial | (simp),by omega,by first | rfl | trivial,⟨wJ.out.1,wJ.out.2.1,wJ.out.2.2.1⟩,xS,yN⟩
  case measure=>simp[intOf]
 ·have EX:(num:Int)/256%256=(x.toNat:Int):=by simp only[Nat.reduceSub,Nat.reducePow,Nat.pow_zero,Nat.div_one]at e8;omega
  clear e8;go_wp2_with (at_builtin;refine zO ?_)
  unfold yy
  try rw[EX]
  refine zn rfl (.tmp 26) (.tmp 33) rfl w.heap.size (.slice VA q vc) L rfl wK _ 1 1 [x] rfl rfl oz (by have h3:=wJ.out;rw[← h3.2.2.2]at h3;simp at h3⊢;omega) zH.size fun v' w5 xS yF ve=>?_
  rw[wJ.out.2.2.2]at xS;obtain⟨VB,vd,rfl,wZ,_,_⟩:=xS.form;rw[wJ.out.2.2.1]at xS⊢;have yN:=zH.grown yF zH.size (fun q hq=>(wK.lt q hq).1);clear wZ wK zH oz yF ve;go_wp2_with fail
  go_roundw
  case rel=>exact⟨1,q+1,L2,VB,vd,by first | rfl | trivial | (simp),by omega,by first | rfl | trivial,⟨wJ.out.1,wJ.out.2.1,wJ.out.2.2.1⟩,xS,yN⟩
  case measure=>simp[intOf]
 ·have EX:(num:Int)/65536%256=(x.toNat:Int):=by simp only[Nat.reduceSub,Nat.reducePow,Nat.pow_zero,Nat.div_one]at e8;omega
  clear e8;go_wp2_with (at_builtin;refine zO ?_)
  unfold yy
  try rw[EX]
  refine zn rfl (.tmp 26) (.tmp 33) rfl w.heap.size (.slice VA q vc) L rfl wK _ 1 1 [x] rfl rfl oz (by have h3:=wJ.out;rw[← h3.2.2.2]at h3;simp at h3⊢;omega) zH.size fun v' w5 xS yF ve=>?_
  rw[wJ.out.2.2.2]at xS;obtain⟨VB,vd,rfl,wZ,_,_⟩:=xS.form;rw[wJ.out.2.2.1]at xS⊢;have yN:=zH.grown yF zH.size (fun q hq=>(wK.lt q hq).1);clear wZ wK zH oz yF ve;go_wp2_with fail
  go_roundw
  case rel=>exact⟨2,q+1,L2,VB,vd,by first | rfl | trivial | (simp),by omega,by first | rfl | trivial,⟨wJ.out.1,wJ.out.2.1,wJ.out.2.2.1⟩,xS,yN⟩
  case measure=>simp[intOf]
 ·have EX:(num:Int)/16777216%256=(x.toNat:Int):=by simp only[Nat.reduceSub,Nat.reducePow,Nat.pow_zero,Nat.div_one]at e8;omega
  clear e8;go_wp2_with (at_builtin;refine zO ?_)
  unfold yy
  try rw[EX]
  refine zn rfl (.tmp 26) (.tmp 33) rfl w.heap.size (.slice VA q vc) L rfl wK _ 1 1 [x] rfl rfl oz (by have h3:=wJ.out;rw[← h3.2.2.2]at h3;simp at h3⊢;omega) zH.size fun v' w5 xS yF ve=>?_
  rw[wJ.out.2.2.2]at xS;obtain⟨VB,vd,rfl,wZ,_,_⟩:=xS.form;rw[wJ.out.2.2.1]at xS⊢;have yN:=zH.grown yF zH.size (fun q hq=>(wK.lt q hq).1);clear wZ wK zH oz yF ve;go_wp2_with fail
  go_roundw
  case rel=>exact⟨3,q+1,L2,VB,vd,by first | rfl | trivial | (simp),by omega,by first | rfl | trivial,⟨wJ.out.1,wJ.out.2.1,wJ.out.2.2.1⟩,xS,yN⟩
  case measure=>simp[intOf]
 ·have EX:(num:Int)/4294967296%256=(x.toNat:Int):=by simp only[Nat.reduceSub,Nat.reducePow,Nat.pow_zero,Nat.div_one]at e8;omega
  clear e8;go_wp2_with (at_builtin;refine zO ?_)
  unfold yy
  try rw[EX]
  refine zn rfl (.tmp 26) (.tmp 33) rfl w.heap.size (.slice VA q vc) L rfl wK _ 1 1 [x] rfl rfl oz (by have h3:=wJ.out;rw[← h3.2.2.2]at h3;simp at h3⊢;omega) zH.size fun v' w5 xS yF ve=>?_
  rw[wJ.out.2.2.2]at xS;obtain⟨VB,vd,rfl,wZ,_,_⟩:=xS.form;rw[wJ.out.2.2.1]at xS⊢;have yN:=zH.grown yF zH.size (fun q hq=>(wK.lt q hq).1);clear wZ wK zH oz yF ve;go_wp2_with fail
  go_roundw
  case rel=>exact⟨4,q+1,L2,VB,vd,by first | rfl | trivial | (simp),by omega,by first | rfl | trivial,⟨wJ.out.1,wJ.out.2.1,wJ.out.2.2.1⟩,xS,yN⟩
  case measure=>simp[intOf]
 ·have EX:(num:Int)/1099511627776%256=(x.toNat:Int):=by simp only[Nat.reduceSub,Nat.reducePow,Nat.pow_zero,Nat.div_one]at e8;omega
  clear e8;go_wp2_with (at_builtin;refine zO ?_)
  unfold yy
  try rw[EX]
  refine zn rfl (.tmp 26) (.tmp 33) rfl w.heap.size (.slice VA q vc) L rfl wK _ 1 1 [x] rfl rfl oz (by have h3:=wJ.out;rw[← h3.2.2.2]at h3;simp at h3⊢;omega) zH.size fun v' w5 xS yF ve=>?_
  rw[wJ.out.2.2.2]at xS;obtain⟨VB,vd,rfl,wZ,_,_⟩:=xS.form;rw[wJ.out.2.2.1]at xS⊢;have yN:=zH.grown yF zH.size (fun q hq=>(wK.lt q hq).1);clear wZ wK zH oz yF ve;go_wp2_with fail
  go_roundw
  case rel=>exact⟨5,q+1,L2,VB,vd,by first | rfl | trivial | (simp),by omega,by first | rfl | trivial,⟨wJ.out.1,wJ.out.2.1,wJ.out.2.2.1⟩,xS,yN⟩
  case measure=>simp[intOf]
 ·have EX:(num:Int)/281474976710656%256=(x.toNat:Int):=by simp only[Nat.reduceSub,Nat.reducePow,Nat.pow_zero,Nat.div_one]at e8;omega
  clear e8;go_wp2_with (at_builtin;refine zO ?_)
  unfold yy
  try rw[EX]
  refine zn rfl (.tmp 26) (.tmp 33) rfl w.heap.size (.slice VA q vc) L rfl wK _ 1 1 [x] rfl rfl oz (by have h3:=wJ.out;rw[← h3.2.2.2]at h3;simp at h3⊢;omega) zH.size fun v' w5 xS yF ve=>?_
  rw[wJ.out.2.2.2]at xS;obtain⟨VB,vd,rfl,wZ,_,_⟩:=xS.form;rw[wJ.out.2.2.1]at xS⊢;have yN:=zH.grown yF zH.size (fun q hq=>(wK.lt q hq).1);clear wZ wK zH oz yF ve;go_wp2_with fail
  go_roundw
  case rel=>exact⟨6,q+1,L2,VB,vd,by first | rfl | trivial | (simp),by omega,by first | rfl | trivial,⟨wJ.out.1,wJ.out.2.1,wJ.out.2.2.1⟩,xS,yN⟩
  case measure=>simp[intOf]
 have EX:(num:Int)/72057594037927936%256=(x.toNat:Int):=by simp only[Nat.reduceSub,Nat.reducePow,Nat.pow_zero,Nat.div_one]at e8;omega
 clear e8;go_wp2_with (at_builtin;refine zO ?_)
 unfold yy
 try rw[EX]
 refine zn rfl (.tmp 26) (.tmp 33) rfl w.heap.size (.slice VA q vc) L rfl wK _ 1 1 [x] rfl rfl oz (by have h3:=wJ.out;rw[← h3.2.2.2]at h3;simp at h3⊢;omega) zH.size fun v' w5 xS yF ve=>?_
 rw[wJ.out.2.2.2]at xS;obtain⟨VB,vd,rfl,wZ,_,_⟩:=xS.form;rw[wJ.out.2.2.1]at xS⊢;have yN:=zH.grown yF zH.size (fun q hq=>(wK.lt q hq).1);clear wZ wK zH oz yF ve;go_wp2_with fail
 go_roundw
 case rel=>exact⟨7,q+1,L2,VB,vd,by first | rfl | trivial | (simp),by omega,by first | rfl | trivial,⟨wJ.out.1,wJ.out.2.1,wJ.out.2.2.1⟩,xS,yN⟩
 case measure=>simp[intOf]
end Go.Proofs.YtliomcphdnppnaaGreatDoor
