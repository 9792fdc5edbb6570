/- squeezed. Walks: a block is encrypted, by th -/
import Derived.Test.YtkmlnjociijpgaaGreatDoorK36
set_option linter.unusedVariables false
set_option linter.unusedSimpArgs false
set_option maxRecDepth 100000
set_option maxHeartbeats 25600000
namespace Go.Proofs.YtkmlnjociijpgaaGreatDoor
open Go.RowKit
theorem jaj{P:Prop}(h:P:=by
 refine Ko hK ?_ fun zy=>?_
 ·trivial
 clear hK K
 refine To 5 rfl fun K hK=>?_
 go_simp
 refine(lG HL.out.2.1 (B:=gk) (off:=go_) (c:=kc) (by have:=HG.out;omega) (k:=si S key 0) _ (OU.out _ hO 0 (by omega))).mono ?_
 rintro e w5 ⟨rfl,zE⟩
 try replace hD:=hD.below zE
 replace hS:=hS.below zE;replace hO:=hO.below zE;replace yo:=Nat.lt_of_lt_of_le yo zE.size;replace hb:=hb.trans (zE.mono hb.size)
 exact jdN):P:=h
theorem jcp{P:Prop}(h:P:=by
 go_wp2_with fail
 go_ret
 exact⟨_,rfl,by rw[← HR.out];exact hO,hb⟩):P:=h
theorem jdN{P:Prop}(h:P:=by
 refine Ko hK ?_ fun zy=>?_
 ·trivial
 clear hK K
 refine To 7 rfl fun K hK=>?_
 rw[if_pos (by rfl)]
 refine zT _ _ _ rfl _ (zn (xA b (si S key 0))) rfl rfl _ _ hD (by rw[zg,yX];kernel_rfl) (by rw[zg,yX];rfl) (ym _) fun w10 hD10 yn=>?_
 replace hS:=hS.grown yn (by intro e;injection e with e;have:=HG.out;omega);replace hO:=hO.kept yn (.inr (by intro e;injection e with e;have e':gk=_:=e;omega));replace hb:=hb.grown yn hb.size (by rintro q ⟨⟩;have:=HG.out;omega)
 refine Ko hK ?_ fun zy=>?_
 ·trivial
 clear hK K
 refine Wd ?_
 clear zy;go_wp2_with fail
 go_meet
 exact⟨_,rfl,SI,hD10,hS,hO,hb⟩):P:=h
theorem jdY{P:Prop}(h:P:=by
 have E:Hid (yg kn nn t=false):=by rw[Hid,yg];simp;omega
 clear hr VF;go_enter Tryz.func94,Tryz.ntmps94
 exact jax):P:=h
theorem jec{P:Prop}(h:P:=by
 refine Ko hK ?_ fun zy=>?_
 ·trivial
 clear hK K
 refine To 2 rfl fun K hK=>?_
 rw[if_pos (by rfl)]
 refine wp_load_mid _ _ rfl bb bo rfl (b.map zu) _ (HB.out _ hb) Tryz.underlying122 rfl (by rw[List.length_map,HL.out.2.1];kernel_rfl) ?_
 exact jaj):P:=h
theorem jeh{P:Prop}(h:P:=by
 go_enter Tryz.func94,Tryz.ntmps94
 exact jax):P:=h
theorem jfr{P:Prop}(h:P:=by have hD:=pk hb 122 #[.int .u8 0,.int .u8 0,.int .u8 0,.int .u8 0,.int .u8 0,.int .u8 0,.int .u8 0,.int .u8 0,.int .u8 0,.int .u8 0,.int .u8 0,.int .u8 0,.int .u8 0,.int .u8 0,.int .u8 0,.int .u8 0];exact hD):P:=h
theorem jfv{P:Prop}(h:P:=by have zE:=zY.grown zK zY.size (fun q hq=>(zJ.lt q hq).1);exact zE):P:=h
theorem gD {w:World}{o:Oper}{a:Act}{K:Act→World→Prop}{Q:Exit→Act→World→Prop}(arr:TypeId) (x:Operand) (ho:o.op=.sliceToArrayPointer arr x)
  (A:Option Addr) (n c k:Nat) (e:TypeId) (hx:a.eval x=.slice A n c) (hu:Tryz.prog.underlying arr=some (.array k e)) (hk:k≤n) (h:K (a.put o.dst (.pointer A)) w):o.wp Tryz.prog a w K Q:=by
 have hr:(Instr.arrayAt arr (.slice A n c)).run Tryz.prog w=.ok (.pointer A) w:=by
  simp[Instr.arrayAt,run_underlying hu,Nat.not_lt.2 hk]
 unfold Oper.wp execOp
 simp only[ho,hx,hr,Sem.run_bind,Sem.run_pure,Result.andThen_ok]
 exact h
theorem Nc (S key:List UInt8) {i k:Nat}(hk:k<16):at_ (si S key i) k=at_ (yG S key 160) (16*i+k):=by
 unfold si
 generalize yG S key 160=K
 exact Va (fun k=>at_ K (16*i+k)) hk
theorem Nj {W:World}{gk go:Nat}{S key:List UInt8}(h:key.length=16) (hs:Src W (some ⟨gk,go,none⟩) ((yG S key 160).map zu)) {i:Nat}(hi:i≤10):bU W gk (go+16*i) (si S key i):=fun k hk=>by
 have hl:=vx S key h 160;rw[Nc S key hk,Nat.add_assoc]
 generalize yG S key 160=K at hl hs⊢
 obtain⟨b,off,e,hc⟩:=hs (by intro h0;rw[List.map_eq_nil_iff]at h0;rw[h0]at hl;simp at hl);injection e with e
 injection e with e1 e2
 subst e1 e2
 exact hc _ _ (by rw[List.getElem?_map,List.getElem?_eq_getElem (by omega)];simp[at_,List.getD_eq_getElem?_getD,show 16*i+k<K.length by omega])
theorem US {W:World}{b o:Nat}{l:List UInt8}(h:Src W (some ⟨b,o,none⟩) (l.map zu)) (xp:l≠[]):W.rangeAt b o (l.map zu):=by
 obtain⟨b',off,e,hc⟩:=h (by simpa using xp);injection e with e
 injection e with e1 e2
 subst e1 e2
 exact hc
theorem QR:ri.length=256:=by rw[← bV];exact gH 255
theorem jT {key b:List UInt8}(hk:key.length=16) (vV:b.length=16) {A C:Option Addr}{ac bc:Nat}(w:World) (hK:Src w A (key.map zu)) (hB:Src w C (b.map zu)) :
  Calls Tryz.prog 131 #[.slice A 16 ac,.slice C 16 bc] w fun e w'=>∃ v,e=.returned (.tuple #[v,.int .i64 0])∧Fresh w (pN key b) v w':=by
 have xp:b≠[]:=by intro h;rw[h]at vV;simp at vV
 obtain⟨bb,bo,rfl,_⟩:=hB (by simpa using xp);have HB:Hid (∀ W:World,Below w.heap.size w W→W.rangeAt bb bo (b.map zu)):=fun W hW=>US (hB.below hW) xp
 have HL:=Hh (And.intro hk (And.intro vV QR));have HK:=Hh hK;clear hk vV hK hB xp;go_enter Tryz.func131,Tryz.ntmps131
 go_wp2_with fail
 refine(iu _).mono ?_
 rintro e w1 ⟨rfl,hb⟩
 have Oj:=Blk.new w1 151 (zn (List.replicate 256 0));have tv:=hb.size;replace hb:=hb.alloc hb.size (.cells (zn (List.replicate 256 0)) 151);obtain⟨S,Sk⟩:∃ S,ri=S:=⟨_,rfl⟩
 have HS:Hid (ri=S∧S.length=256):=⟨Sk,by rw[← Sk];exact HL.out.2.2⟩
 rw[Sk];clear Sk;go_wp2_with (with_reducible refine zx ?_)
 unfold zZ
 rw[gZ]
 refine xy rfl _ _ _ rfl rfl w1.heap.size 0 S rfl rfl Oj (by rw[HS.out.2];kernel_rfl) (by rw[HS.out.2];simp) fun w2 hS hg2=>?_
 rw[pH (by rw[HS.out.2];simp)]at hS;replace hb:=hb.grown hg2 hb.size (by rintro q ⟨⟩;exact tv);obtain⟨N6,De⟩:∃ N,w1.heap.size=N:=⟨_,rfl⟩
 rw[De]at hS tv
 try rw[De]
 clear De Oj hg2;go_wp2_with (with_reducible refine vy 151 ?_)
 refine zM rfl _ _ rfl N6 0 256 rfl hS (by rw[HS.out.2];omega) _ Tryz.underlying151 rfl (by kernel_rfl) ?_
 rw[xT HS.out.2];have SC:=Hh (bM (S:=S) (c:=ac) HS.out.2 HL.out.1 w2 (HK.out.below hb));go_wp2_with fail
 refine SC.out.mono ?_
 rintro e w3 ⟨v3,rfl,tr⟩
 clear SC;have Bz:N6<w2.heap.size:=hS.lt;replace hS:=hS.below tr.2;have hO:=tr.own;have zAv:=hb.size;replace hb:=hb.trans (tr.2.mono hb.size);obtain⟨K,PK⟩:∃ K,yG S key 160=K:=⟨_,rfl⟩
 have eC:Hid (yG S key 160=K∧K.length=176):=⟨PK,by rw[← PK,vx S key HL.out.1]⟩
 rw[PK]at hO;clear PK tr;obtain⟨WA,kc,rfl,oT,_,mI⟩:=hO.form;obtain⟨gk,go_,rfl,_⟩:=mI (by intro h0;rw[List.map_eq_nil_iff]at h0;have h1:=eC.out.2;rw[h0]at h1;simp at h1);have hgk:=hO.lt gk rfl;rw[eC.out.2]at hO oT⊢;have HG:Hid (w.heap.size≤N6∧N6<gk∧176≤kc):=⟨tv,by omega,oT⟩
 have OU:Hid (∀ W:World,OwnB W w2.heap.size (.slice (some ⟨gk,go_,none⟩) 176 kc) K→∀ i,i≤10→bU W gk (go_+16*i) (si S key i)):=fun W hW i hi=>Nj HL.out.1 (by rw[eC.out.1];exact hW.src) hi
 have zAs:(16:Int)≤(kc:Int):=by omega
 clear oT tv Bz mI hgk;go_upto_region 5 with fail
 go_cut [8] (fun s8 wx=>∃ N8:Nat,s8=.pointer (some ⟨N8,0,none⟩)∧gk<N8∧Blk wx N8 122 (zn (pz S key b 0))∧Blk wx N6 151 (zn S)∧OwnB wx w2.heap.size (.slice (some ⟨gk,go_,none⟩) 176 kc) K∧Below w.heap.size w wx)
 case first =>
  have yo:=(hO.lt gk rfl).2;replace hS:=hS.drew;replace hO:=hO.below (Below.refl _ _).drew;replace hb:=hb.drew;replace yo:gk<(w3.drew).heap.size:=yo
  refine zr 8 (fun _=>True) (by kernel_rfl) (trivial) (fun zy=>?_)
  refine TkS 0 rfl zy ?_
  refine TkS 3 rfl zy ?_
  refine TkS 4 rfl zy ?_
  refine Ways.two (i:=1) (j:=6) rfl rfl (by kernel_rfl) (fun K hK=>?_) (fun K hK=>?_)
  ·rw[if_pos (by rfl)]
   refine gD _ _ rfl (some ⟨bb,bo,none⟩) 16 bc 16 _ rfl Tryz.underlying122 (Nat.le_refl _) ?_
   refine Ko hK ?_ fun zy=>?_
   ·trivial
   clear hK K
   refine Ways.two (i:=2) (j:=6) rfl rfl (by kernel_rfl) (fun K hK=>?_) (fun K hK=>?_)
   ·rw[if_pos (by rfl)]
    refine wp_load_mid _ _ rfl bb bo rfl (b.map zu) _ (HB.out _ hb) Tryz.underlying122 rfl (by rw[List.length_map,HL.out.2.1];kernel_rfl) ?_
    refine Ko hK ?_ fun zy=>?_
    ·trivial
    clear hK K
    refine Ways.two (i:=5) (j:=6) rfl rfl (by kernel_rfl) (fun K hK=>?_) (fun K hK=>?_)
    ·go_simp
     refine(lG HL.out.2.1 (B:=gk) (off:=go_) (c:=kc) (by have:=HG.out;omega) (k:=si S key 0) _ (OU.out _ hO 0 (by omega))).mono ?_
     rintro e w5 ⟨rfl,zE⟩
     try replace hD:=hD.below zE
     replace hS:=hS.below zE;replace hO:=hO.below zE;replace yo:=Nat.lt_of_lt_of_le yo zE.size;replace hb:=hb.trans (zE.mono hb.size)
     refine Ko hK ?_ fun zy=>?_
     ·trivial
     clear hK K
     refine To 6 rfl fun K hK=>?_
     go_simp
     have hD:=jfr;have SI:=yo;replace hS:=hS.alloc (.cells #[.int .u8 0,.int .u8 0,.int .u8 0,.int .u8 0,.int .u8 0,.int .u8 0,.int .u8 0,.int .u8 0,.int .u8 0,.int .u8 0,.int .u8 0,.int .u8 0,.int .u8 0,.int .u8 0,.int .u8 0,.int .u8 0] 122);replace hO:=hO.alloc (.cells #[.int .u8 0,.int .u8 0,.int .u8 0,.int .u8 0,.int .u8 0,.int .u8 0,.int .u8 0,.int .u8 0,.int .u8 0,.int .u8 0,.int .u8 0,.int .u8 0,.int .u8 0,.int .u8 0,.int .u8 0,.int .u8 0] 122);replace yo:=Nat.lt_of_lt_of_le yo (Nat.le_of_lt (by first | exact hD.lt | (have h:=hD.lt;simp only[zB,za]at h⊢;omega)));replace hb:=hb.alloc hb.size (.cells #[.int .u8 0,.int .u8 0,.int .u8 0,.int .u8 0,.int .u8 0,.int .u8 0,.int .u8 0,.int .u8 0,.int .u8 0,.int .u8 0,.int .u8 0,.int .u8 0,.int .u8 0,.int .u8 0,.int .u8 0,.int .u8 0] 122)
     try simp only[zB,za]at hD
     try simp only[zB,za]at SI
     exact jdN
    go_simp
    have hD:=jfr;have SI:=yo;replace hS:=hS.alloc (.cells #[.int .u8 0,.int .u8 0,.int .u8 0,.int .u8 0,.int .u8 0,.int .u8 0,.int .u8 0,.int .u8 0,.int .u8 0,.int .u8 0,.int .u8 0,.int .u8 0,.int .u8 0,.int .u8 0,.int .u8 0,.int .u8 0] 122);replace hO:=hO.alloc (.cells #[.int .u8 0,.int .u8 0,.int .u8 0,.int .u8 0,.int .u8 0,.int .u8 0,.int .u8 0,.int .u8 0,.int .u8 0,.int .u8 0,.int .u8 0,.int .u8 0,.int .u8 0,.int .u8 0,.int .u8 0,.int .u8 0] 122);replace yo:=Nat.lt_of_lt_of_le yo (Nat.le_of_lt (by first | exact hD.lt | (have h:=hD.lt;simp only[zB,za]at h⊢;omega)));replace hb:=hb.alloc hb.size (.cells #[.int .u8 0,.int .u8 0,.int .u8 0,.int .u8 0,.int .u8 0,.int .u8 0,.int .u8 0,.int .u8 0,.int .u8 0,.int .u8 0,.int .u8 0,.int .u8 0,.int .u8 0,.int .u8 0,.int .u8 0,.int .u8 0] 122)
    try simp only[zB,za]at hD
    try simp only[zB,za]at SI
    exact jaj
   go_simp
   have hD:=jfr;have SI:=yo;replace hS:=hS.alloc (.cells #[.int .u8 0,.int .u8 0,.int .u8 0,.int .u8 0,.int .u8 0,.int .u8 0,.int .u8 0,.int .u8 0,.int .u8 0,.int .u8 0,.int .u8 0,.int .u8 0,.int .u8 0,.int .u8 0,.int .u8 0,.int .u8 0] 122);replace hO:=hO.alloc (.cells #[.int .u8 0,.int .u8 0,.int .u8 0,.int .u8 0,.int .u8 0,.int .u8 0,.int .u8 0,.int .u8 0,.int .u8 0,.int .u8 0,.int .u8 0,.int .u8 0,.int .u8 0,.int .u8 0,.int .u8 0,.int .u8 0] 122);replace yo:=Nat.lt_of_lt_of_le yo (Nat.le_of_lt (by first | exact hD.lt | (have h:=hD.lt;simp only[zB,za]at h⊢;omega)));replace hb:=hb.alloc hb.size (.cells #[.int .u8 0,.int .u8 0,.int .u8 0,.int .u8 0,.int .u8 0,.int .u8 0,.int .u8 0,.int .u8 0,.int .u8 0,.int .u8 0,.int .u8 0,.int .u8 0,.int .u8 0,.int .u8 0,.int .u8 0,.int .u8 0] 122)
   try simp only[zB,za]at hD
   try simp only[zB,za]at SI
   exact jec
  go_simp
  have hD:=jfr;have SI:=yo;replace hS:=hS.alloc (.cells #[.int .u8 0,.int .u8 0,.int .u8 0,.int .u8 0,.int .u8 0,.int .u8 0,.int .u8 0,.int .u8 0,.int .u8 0,.int .u8 0,.int .u8 0,.int .u8 0,.int .u8 0,.int .u8 0,.int .u8 0,.int .u8 0] 122);replace hO:=hO.alloc (.cells #[.int .u8 0,.int .u8 0,.int .u8 0,.int .u8 0,.int .u8 0,.int .u8 0,.int .u8 0,.int .u8 0,.int .u8 0,.int .u8 0,.int .u8 0,.int .u8 0,.int .u8 0,.int .u8 0,.int .u8 0,.int .u8 0] 122);replace yo:=Nat.lt_of_lt_of_le yo (Nat.le_of_lt (by first | exact hD.lt | (have h:=hD.lt;simp only[zB,za]at h⊢;omega)));replace hb:=hb.alloc hb.size (.cells #[.int .u8 0,.int .u8 0,.int .u8 0,.int .u8 0,.int .u8 0,.int .u8 0,.int .u8 0,.int .u8 0,.int .u8 0,.int .u8 0,.int .u8 0,.int .u8 0,.int .u8 0,.int .u8 0,.int .u8 0,.int .u8 0] 122)
  try simp only[zB,za]at hD
  try simp only[zB,za]at SI
  refine Ko hK ?_ fun zy=>?_
  ·trivial
  clear hK K
  refine To 1 rfl fun K hK=>?_
  rw[if_pos (by rfl)]
  refine gD _ _ rfl (some ⟨bb,bo,none⟩) 16 bc 16 _ rfl Tryz.underlying122 (Nat.le_refl _) ?_
  exact jec
 case rest =>
 clear hS hO hb;obtain⟨N8,rfl,Az,hD,hS,hO,hb⟩:=hcut;have HG8:=Hh Az;clear Az;go_wp2_with fail
 go_loopw [9] (fun v9 wr=>∃ i:Nat,v9=.int .i64 (i:Int)∧1≤i∧i≤11∧Blk wr N8 122 (zn (pz S key b (i-1)))∧Blk wr N6 151 (zn S)∧OwnB wr w2.heap.size (.slice (some ⟨gk,go_,none⟩) 176 kc) K∧Below w.heap.size w wr) (fun v9 _=>(11-intOf v9).toNat)
 case atStart=>exact⟨1,rfl,by omega,by omega,hD,hS,hO,hb⟩
 case round =>
 clear hD hS hO hb;obtain⟨i,rfl,Sq,hi,hD,hS,hO,hb⟩:=hrel
 by_cases z9:(i:Int)≤10
 ·obtain⟨l,hl⟩:∃ l,pz S key b (i-1)=l:=⟨_,rfl⟩
  have kW:l.length=16:=by rw[← hl];exact o4 _ _ _ _
  rw[hl]at hD
  have kS:Hid (pz S key b (i+1-1)=xA (if i<10 then vQ (x8 S l) else x8 S l) (si S key i)):=by
   rw[Hid,show i+1-1=(i-1)+1 by omega,pz,WG,hl,show i-1+1=i by omega]
  have qk:=Hh kW;clear hl kW;obtain⟨Z,hZ⟩:∃ Z:List UInt8,List.replicate 16 0=Z:=⟨_,rfl⟩
  have HZ:Hid (Z.length=16):=by rw[Hid,← hZ];simp
  have EZ:(#[.int .u8 0,.int .u8 0,.int .u8 0,.int .u8 0,.int .u8 0,.int .u8 0,.int .u8 0,.int .u8 0,.int .u8 0,.int .u8 0,.int .u8 0,.int .u8 0,.int .u8 0,.int .u8 0,.int .u8 0,.int .u8 0]:Array Value)=zn Z:=by rw[← hZ];rfl
  clear hZ;have hM:=Blk.new wr 122 (zn Z);have aY:=hD.lt;replace hD:=hD.alloc (.cells (zn Z) 122);replace hS:=hS.alloc (.cells (zn Z) 122);replace hO:=hO.alloc (.cells (zn Z) 122);replace hb:=hb.alloc hb.size (.cells (zn Z) 122);rw[← wW (ur S l) HZ.out]at hM;go_upto_region 10 with fail
  try rw[EZ]
  rw[← wW (ur S l) HZ.out]at hD hS hO hb;rw[← wW (ur S l) HZ.out];obtain⟨w5,SX⟩:∃ w5,wr.alloc (.cells (zn (wB 16 (ur S l) Z 0)) 122)=w5:=⟨_,rfl⟩
  obtain⟨M,Dd⟩:∃ M,wr.heap.size=M:=⟨_,rfl⟩
  rw[SX]at hM hD hS hO hb;rw[Dd]at hM aY
  try rw[SX]
  try rw[Dd]
  have HM:Hid (N8<M∧gk<N8∧w.heap.size≤N6∧N6<gk):=⟨aY,HG8.out,HG.out.1,HG.out.2.1⟩
  clear EZ SX Dd aY;go_wp2_with fail
  go_loopw [35] (fun v35 wx=>∃ c:Nat,v35=.int .i64 (c:Int)∧c≤4∧Blk wx M 122 (zn (wB 16 (ur S l) Z (4*c)))∧Blk wx N8 122 (zn l)∧Blk wx N6 151 (zn S)∧OwnB wx w2.heap.size (.slice (some ⟨gk,go_,none⟩) 176 kc) K∧Below w.heap.size w wx) (fun v35 _=>(4-intOf v35).toNat)
  case atStart=>exact⟨0,rfl,by omega,hM,hD,hS,hO,hb⟩
  case round =>
  clear hM hD hS hO hb;obtain⟨c,rfl,hc,hM,hD,hS,hO,hb⟩:=hrel
  by_cases eH:(c:Int)<4
  ·obtain⟨c4,eF⟩:∃ e,4*c=e:=⟨_,rfl⟩
   have W0:IntKind.i64.wrap (4*(c:Int))=(c4:Int):=by rw[show 4*(c:Int)=((4*c:Nat):Int) by omega,eF];exact zP (by omega)
   rw[eF]at hM;have Sf:=Hh eF;clear eF;go_wp2_with fail
   go_loopw [38] (fun v38 wy=>∃ r:Nat,v38=.int .i64 (r:Int)∧r≤4∧Blk wy M 122 (zn (wB 16 (ur S l) Z (c4+r)))∧Blk wy N8 122 (zn l)∧Blk wy N6 151 (zn S)∧OwnB wy w2.heap.size (.slice (some ⟨gk,go_,none⟩) 176 kc) K∧Below w.heap.size w wy) (fun v38 _=>(4-intOf v38).toNat)
   case atStart=>exact⟨0,rfl,by omega,hM,hD,hS,hO,hb⟩
   case round =>
   clear hM hD hS hO hb;obtain⟨r,rfl,hr,hM,hD,hS,hO,hb⟩:=hrel
   by_cases hrt:(r:Int)<4
   ·obtain⟨j,hj⟩:∃ j,c4+r=j:=⟨_,rfl⟩
    obtain⟨e,he⟩:∃ e,c+r=e:=⟨_,rfl⟩
    obtain⟨q,hq⟩:∃ q,e%4=q:=⟨_,rfl⟩
    obtain⟨f,hf⟩:∃ f,4*q=f:=⟨_,rfl⟩
    obtain⟨x,hx⟩:∃ x,f+r=x:=⟨_,rfl⟩
    have W1:IntKind.i64.wrap ((c4:Int)+(r:Int))=(j:Int):=by rw[← Int.natCast_add,hj];exact zP (by have:=Sf.out;omega)
    have W2:IntKind.i64.wrap ((c:Int)+(r:Int))=(e:Int):=by rw[← Int.natCast_add,he];exact zP (by omega)
    have t3:(e:Int).tmod 4=(q:Int):=by rw[← hq];exact(Int.ofNat_tmod e 4).symm
    have W3:IntKind.i64.wrap (4*(q:Int))=(f:Int):=by rw[show 4*(q:Int)=((4*q:Nat):Int) by omega,hf];exact zP (by omega)
    have W4:IntKind.i64.wrap ((f:Int)+(r:Int))=(x:Int):=by rw[← Int.natCast_add,hx];exact zP (by omega)
    have lx:(x:Int)<16:=by omega
    have lj:(j:Int)<16:=by have:=Sf.out;omega
    obtain⟨u,hu⟩:∃ u,at_ l x=u:=⟨_,rfl⟩
    obtain⟨v,hv⟩:∃ v,at_ S u.toNat=v:=⟨_,rfl⟩
    have lu:(u.toNat:Int)<256:=by have:=u.toNat_lt;omega
    have HV:Hid (ur S l j=v):=by
     have h4:=Sf.out;rw[Hid,ur,show j%4+4*((j/4+j%4)%4)=x by rw[show j%4=r by omega,show j/4=c by omega,he,hq,hf];omega,hu,hv]
    have c0:=hD.cell x (zI _ _ (by rw[qk.out];omega));have c1:=hS.cell u.toNat (zI _ _ (by rw[HS.out.2];omega));rw[hu]at c0;rw[hv]at c1;have S1:=Hh (uy (n:=16) (i:=j) (ur S l) Z (by omega));rw[HV.out]at S1;rw[hj]at hM;have HJ:=Hh hj;clear he hq hf hx hu hv HV hj;go_wp2_with (with_reducible refine zx ?_)
    refine zw rfl _ _ _ rfl rfl M j (zu v) rfl rfl _ _ hM yH (by rw[zg,xJ];omega) rfl fun w9 hM9 xt=>?_
    rw[xS,S1.out]at hM9;have hD9:=hD.grown xt (by intro e;injection e with e;have:=HM.out;omega);have PN:=hS.grown xt (by intro e;injection e with e;have:=HM.out;omega);have sv:=hO.kept xt (.inr (by intro e;injection e with e;have e':gk=_:=e;have:=HM.out;omega));have oV:=hb.grown xt hb.size (by rintro q ⟨⟩;have:=HM.out;omega);clear hM hD hS hO hb xt c0 c1 t3 W1 W2 W3 W4 lx lj lu S1;go_wp2_with fail
    go_roundw
    case rel=>exact⟨r+1,by go_num,by omega,by rw[← Nat.add_assoc,HJ.out];exact hM9,hD9,PN,sv,oV⟩
    case measure=>simp[intOf];omega
   obtain rfl:r=4:=by omega
   rw[show((4:Nat):Int)=4 from rfl];clear W0 hrt;go_wp2_with fail
   go_roundw
   case rel=>exact⟨c+1,by go_num,by omega,by have h:=Sf.out;rw[show 4*(c+1)=c4+4 by omega];exact hM,hD,hS,hO,hb⟩
   case measure=>simp[intOf];omega
  obtain rfl:c=4:=by omega
  rw[show((4:Nat):Int)=4 from rfl];obtain⟨s1,xZ⟩:∃ s,x8 S l=s:=⟨_,rfl⟩
  have oI:Hid (s1.length=16∧(vQ s1).length=16):=by rw[Hid,← xZ];exact⟨by simp[x8],by simp[vQ]⟩
  rw[show 4*4=16 from rfl,tN,show(List.range 16).map (ur S l)=x8 S l from rfl,xZ]at hM;rw[xZ]at kS;clear eH xZ;go_upto_if 60 with fail
  go_cut [] (fun wx=>Blk wx M 122 (zn (if i<10 then vQ s1 else s1))∧Blk wx N8 122 (zn l)∧Blk wx N6 151 (zn S)∧OwnB wx w2.heap.size (.slice (some ⟨gk,go_,none⟩) 176 kc) K∧Below w.heap.size w wx)
  case first =>
   by_cases h10:(i:Int)<10
   ·have E:Hid ((if i<10 then vQ s1 else s1)=vQ s1):=if_pos (by omega);go_wp2_with (with_reducible refine vy 122 ?_)
    refine zM rfl _ _ rfl M 0 16 rfl hM (by rw[oI.out.1];omega) _ Tryz.underlying122 rfl (by kernel_rfl) ?_
    rw[xT oI.out.1];have MX:=Hh (NZ oI.out.1 _:Calls Tryz.prog 167 #[.agg (zn s1),.agg pX] wr _);go_wp2_with fail
    refine MX.out.mono ?_
    rintro e w6 ⟨rfl,wS⟩
    clear MX;replace hM:=hM.below wS;replace hD:=hD.below wS;replace hS:=hS.below wS;replace hO:=hO.below wS;replace hb:=hb.trans (wS.mono hb.size);go_wp2_with (with_reducible refine zx ?_)
    refine xy rfl _ _ _ rfl rfl M 0 (vQ s1) rfl rfl hM (by rw[oI.out.2];kernel_rfl) (by rw[oI.out.1,oI.out.2];omega) fun w8 hM8 hg8=>?_
    rw[pH (by rw[oI.out.1,oI.out.2])]at hM8;have hD8:=hD.grown hg8 (by intro e;injection e with e;have:=HM.out;omega);have VK:=hS.grown hg8 (by intro e;injection e with e;have:=HM.out;omega);have sk:=hO.kept hg8 (.inr (by intro e;injection e with e;have e':gk=_:=e;have:=HM.out;omega));have uk:=hb.grown hg8 hb.size (by rintro q ⟨⟩;have:=HM.out;omega);clear hM hD hS hO hb hg8 wS;go_wp2_with fail
    go_meet
    exact⟨by rw[E.out];exact hM8,hD8,VK,sk,uk⟩
   have E:Hid ((if i<10 then vQ s1 else s1)=s1):=if_neg (by omega);go_wp2_with fail
   go_meet
   exact⟨by rw[E.out];exact hM,hD,hS,hO,hb⟩
  case rest =>
  clear hM hD hS hO hb;obtain⟨hM,hD,hS,hO,hb⟩:=hcut;obtain⟨l2,oW⟩:∃ l,(if i<10 then vQ s1 else s1)=l:=⟨_,rfl⟩
  have Rc:l2.length=16:=by rw[← oW];split;exact oI.out.2;exact oI.out.1
  rw[oW]at hM kS;have uz:=Hh Rc;clear oW Rc oI;obtain⟨p,hp⟩:∃ p,16*i=p:=⟨_,rfl⟩
  have V1:IntKind.i64.wrap (16*(i:Int))=(p:Int):=by rw[show 16*(i:Int)=((16*i:Nat):Int) by omega,hp];exact zP (by omega)
  obtain⟨p6,BD⟩:∃ p6,p+16=p6:=⟨_,rfl⟩
  have V2:IntKind.i64.wrap ((p:Int)+16)=(p6:Int):=by rw[show(p:Int)+16=((p+16:Nat):Int) by omega,BD];exact zP (by omega)
  have p0:(p:Int)≤(p6:Int):=by omega
  have p1:p≤p6:=by omega
  have p2:(p6:Int)≤(kc:Int):=by have:=HG.out;omega
  have p3:(kc=p)=False:=eq_false (by have:=HG.out;omega);have p4:p6-p=16:=by omega
  clear BD;have HPI:=Hh hp;clear hp;go_upto_region 21 with fail
  replace hM:=hM.drew;replace hD:=hD.drew;replace hS:=hS.drew;replace hO:=hO.below (Below.refl _ _).drew;replace hb:=hb.drew
  refine zr 10 (fun _=>True) (by kernel_rfl) (trivial) (fun zy=>?_)
  refine TkS 1 rfl zy ?_
  refine TkS 2 rfl zy ?_
  refine TkS 3 rfl zy ?_
  refine TkS 4 rfl zy ?_
  refine TkS 5 rfl zy ?_
  refine TkS 6 rfl zy ?_
  refine TkS 7 rfl zy ?_
  refine To 0 rfl fun K hK=>?_
  rw[if_pos (by rfl)]
  refine wp_load_mid _ _ rfl M 0 rfl (l2.map zu) _ (by have h:=qv hM 0 16;rw[xT uz.out]at h;exact h) Tryz.underlying122 rfl (by rw[List.length_map,uz.out];kernel_rfl) ?_
  refine Ko hK ?_ fun zy=>?_
  ·trivial
  clear hK K
  refine To 8 rfl fun K hK=>?_
  go_simp
  refine(lG uz.out (B:=gk) (off:=go_+p) (c:=kc-p) (by have:=HG.out;have:=HPI.out;omega) (k:=si S key i) _ (by have h:=OU.out _ hO i (by omega);rw[HPI.out]at h;exact h)).mono ?_
  rintro e w7 ⟨rfl,uI⟩
  replace hM:=hM.below uI;replace hD:=hD.below uI;replace hS:=hS.below uI;replace hO:=hO.below uI;replace hb:=hb.trans (uI.mono hb.size)
  refine Ko hK ?_ fun zy=>?_
  ·trivial
  clear hK K
  refine To 9 rfl fun K hK=>?_
  rw[if_pos (by rfl)]
  refine zT _ _ _ rfl _ (zn (xA l2 (si S key i))) rfl rfl _ _ hD (by rw[zg,yX];kernel_rfl) (by rw[zg,zg,yX,qk.out]) (ym _) fun w10 hD10 yn=>?_
  replace hS:=hS.grown yn (by intro e;injection e with e;have:=HM.out;omega);replace hO:=hO.kept yn (.inr (by intro e;injection e with e;have e':gk=_:=e;have:=HM.out;omega));replace hb:=hb.grown yn hb.size (by rintro q ⟨⟩;have:=HM.out;omega)
  refine Ko hK ?_ fun zy=>?_
  ·trivial
  clear hK K
  refine Wd ?_
  rw[← kS.out]at hD10;clear zy hM hD yn V1 V2 p0 p1 p2 p3 p4 kS;go_wp2_with fail
  go_roundw
  case rel=>exact⟨i+1,by go_num,by omega,by omega,hD10,hS,hO,hb⟩
  case measure=>simp[intOf];omega
 obtain rfl:i=11:=by omega
 rw[show((11:Nat):Int)=11 from rfl];have HF:Hid ((pz S key b 10).length=16∧pz S key b 10=pN key b):=⟨o4 _ _ _ _,by rw[pN,HS.out.1]⟩
 replace hD:Blk _ N8 122 (zn (pz S key b 10)):=hD
 generalize pz S key b 10=E at hD HF
 clear z9;go_wp2_with (at_builtin;refine zh ?_)
 refine zv rfl (.const (.slice none 0 0)) (.tmp 73) rfl w.heap.size (.slice none 0 0) [] rfl (OwnB.nil _ _) (some ⟨N8,0,none⟩) 16 16 E rfl HF.out.1.symm hD.srcB (by have:=HF.out.1;simp;omega) hb.size fun v' wz hOz hgz hatz=>?_
 rw[List.nil_append,HF.out.2]at hOz;have rM:=hb.trans ((yW (by simpa [Value.ownBlock] using hgz)).mono hb.size);clear hD hS hO hb hgz hatz;go_wp2_with fail
 go_ret2
 exact⟨_,rfl,hOz,rM⟩
theorem jQ {KA NA:Option Addr}{kn kc nn nc:Nat}(t:Nat) (ht:t≤1000000) (w:World) :
  Calls Tryz.prog 94 #[.slice KA kn kc,.slice NA nn nc,.int .i64 (t:Int)] w fun e w'=>e=.returned (.bool (yg kn nn t))∧w=w':=by
 obtain⟨r,hr⟩:∃ r,t%2=r:=⟨_,rfl⟩
 have t1:(t:Int).tmod 2=(r:Int):=by rw[← hr];exact(Int.ofNat_tmod t 2).symm
 have t1':(t:Int)%2=(r:Int):=by rw[← hr];omega
 have HR:=Hh hr
 by_cases h1:(kn:Int)=16
 ·have VF:kn=16:=by omega
  by_cases h2:(7:Int)≤(nn:Int)
  ·by_cases h3:(nn:Int)≤13
   ·by_cases h4:(4:Int)≤(t:Int)
    ·by_cases h5:(t:Int)≤16
     ·by_cases h6:(r:Int)=0
      ·have E:Hid (yg kn nn t=true):=by rw[Hid,yg,hr];simp;omega
       clear hr VF;exact jeh
      have E:Hid (yg kn nn t=false):=by rw[Hid,yg,hr];simp;omega
      have e6:((r:Int)==0)=false:=by rw[beq_eq_false_iff_ne];exact h6
      clear hr VF;exact jeh
     exact jdY
    exact jdY
   exact jdY
  exact jdY
 have E:Hid (yg kn nn t=false):=by rw[Hid,yg];simp;omega
 have e1:((kn:Int)==16)=false:=by rw[beq_eq_false_iff_ne];exact h1
 clear hr;exact jeh
theorem fw {A:Option Addr}{n c:Nat}{b:List UInt8}(hn:n=b.length) (vV:b.length≤1048576) (w:World) (hB:Src w A (b.map zu)) :
  Calls Tryz.prog 133 #[.slice A n c] w fun e w'=>∃ v,e=.returned v∧Fresh w (mq b) v w':=by
 have HN:=Hh (And.intro hn vV);clear hn vV;go_enter Tryz.func133,Tryz.ntmps133
 go_wp2_with (at_builtin;refine zh ?_)
 refine zv rfl (.const (.slice none 0 0)) (.tmp 4) rfl w.heap.size (.slice none 0 0) [] rfl (OwnB.nil _ _) A n c b rfl HN.out.1 hB (by have:=HN.out.2;simp;omega) (Nat.le_refl _) fun v' w1 hO hg1 hat1=>?_
 rw[List.nil_append]at hO;have hb:=yW (by simpa [Value.ownBlock] using hg1);obtain⟨VA,vc,rfl,wv,_,_⟩:=hO.form;rw[← HN.out.1]at hO⊢;clear wv hg1 hat1 hB;go_wp2_with fail
 go_loopw [3] (fun v3 wr=>∃ (k m:Nat) (L:List UInt8) (VA:Option Addr) (vc:Nat),v3=.slice VA m vc∧m=n+k∧k≤(16-n%16)%16∧Hid (L=b++List.replicate k 0)∧OwnB wr w.heap.size (.slice VA m vc) L∧Below w.heap.size w wr) (fun v3 _=>match v3 with | .slice _ m _=>n+16-m | _=>0)
 case atStart=>exact⟨0,n,b,VA,vc,rfl,rfl,Nat.zero_le _,by simp[Hid],hO,hb⟩
 case round =>
 clear hO hb;obtain⟨k,m,L,VA,vc,rfl,hm,hk,hL,hO,hb⟩:=hrel;obtain⟨r,hr⟩:∃ r,m%16=r:=⟨_,rfl⟩
 have t1:(m:Int).tmod 16=(r:Int):=by rw[← hr];exact(Int.ofNat_tmod m 16).symm
 have HM:=Hh (And.intro hm (And.intro hk hr));clear hm hk hr
 by_cases h0:r=0
 ·have fP:k=(16-n%16)%16:=by have:=HM.out;omega
  have HR:Hid (L=mq b):=by rw[Hid,hL.out,mq,← HN.out.1,← fP]
  subst h0;clear hL;exact jcp
 have e0:((r:Int)==0)=false:=by rw[beq_eq_false_iff_ne];omega
 have e1:((r:Int) != 0)=true:=by rw[bne_iff_ne];omega
 have e2:((r:Int)=0)=False:=eq_false (by omega);have HR0:=Hh h0;obtain⟨zJ,zY⟩:=jf3;have nY:=om hb 5 #[.int .u8 0];clear h0 hO;go_wp2_with (at_builtin;refine zh ?_)
 refine zv rfl (.tmp 10) (.tmp 11) rfl w.heap.size (.slice VA m vc) L rfl zJ _ 1 1 [0] rfl rfl nY (by have h1:=HN.out;have h2:=HM.out;rw[hL.out];simp;omega) zY.size fun v' w5 zW zK hat5=>?_
 obtain⟨L2,VI⟩:∃ L2,L++[0]=L2:=⟨_,rfl⟩
 have uz:Hid (L2=b++List.replicate (k+1) 0∧L2.length=m+1):=by
  rw[Hid,← VI,hL.out,List.replicate_succ',← List.append_assoc]
  refine⟨rfl, ?_⟩
  have h1:=HM.out.1;have h2:=HN.out.1
  simp
  omega
 rw[VI]at zW;obtain⟨VB,vd,rfl,wv,_,_⟩:=zW.form;rw[uz.out.2]at zW⊢;have zE:=jfv;clear VI wv zJ zY hb nY zK hat5 hL;go_wp2_with fail
 go_roundw
 case rel=>exact⟨k+1,m+1,L2,VB,vd,rfl,by have:=HM.out;omega,by have:=HM.out;have:=HR0.out;omega,uz.out.1,zW,zE⟩
 case measure=>have:=HM.out;have:=HR0.out;show n+16-(m+1)<n+16-m;omega
theorem jU {A:Option Addr}{n c:Nat}{nonce:List UInt8}(hn:n=nonce.length) (hl:nonce.length≤14) (f:Nat) (hf:f<256) (num:Nat) (Rk:num<4611686018427387904) (w:World) (hN:Src w A (nonce.map zu)) :
  Calls Tryz.prog 132 #[.int .i64 (f:Int),.slice A n c,.int .i64 (num:Int)] w fun e w'=>∃ v,e=.returned v∧Fresh w (uQ (UInt8.ofNat f) nonce num) v w':=by
 have HN:=Hh (And.intro hn (And.intro hl Rk));have ef:IntKind.u8.wrap (f:Int)=(f:Int):=by rw[IntKind.wrap_u8];omega
 have HF:Hid (Value.int .u8 (f:Int)=zu (UInt8.ofNat f)):=by rw[Hid,zu,UInt8.toNat_ofNat_of_lt' (by simpa using hf)]
 have hO:=OwnB.lit w w.heap.size [UInt8.ofNat f] #[.int .u8 (f:Int)] 1 rfl (by rw[HF.out];rfl) (Nat.le_refl _) (by simp);have hb:=zX w (.cells #[.int .u8 (f:Int)] 5);have hS:=hN.alloc (.cells #[.int .u8 (f:Int)] 5);have eW:IntKind.i64.wrap (14-(n:Int))=((15-n:Nat):Int)-1:=by rw[IntWalk.i64_in _ (by omega)];omega
 clear hn hl Rk hf hN;go_enter Tryz.func132,Tryz.ntmps132
 go_wp2_with (at_builtin;refine zh ?_)
 refine zv rfl (.tmp 11) (.tmp 12) rfl w.heap.size (.slice (some ⟨w.heap.size,0,none⟩) 1 1) [UInt8.ofNat f] rfl hO A n c nonce rfl HN.out.1 hS (by have:=HN.out.2;simp;omega) hb.size fun v' w1 zJ hg1 hat1=>?_
 obtain⟨L,hL⟩:∃ L,[UInt8.ofNat f]++nonce=L:=⟨_,rfl⟩
 have HL:Hid (L++oU (15-n) num=uQ (UInt8.ofNat f) nonce num∧L.length+(15-n)=16):=by
  rw[Hid,← hL,uQ,HN.out.1]
  refine⟨by simp, ?_⟩
  have:=HN.out
  simp
  omega
 rw[hL]at zJ;have zY:=hb.grown hg1 hb.size (fun q hq=>by injection hq with hq;exact Nat.le_of_eq hq);obtain⟨VA,vc,rfl,wv,_,_⟩:=zJ.form;obtain⟨q,hq⟩:∃ q,L.length=q:=⟨_,rfl⟩
 rw[hq]at zJ⊢;obtain⟨m,hm⟩:∃ m,15-n=m:=⟨_,rfl⟩
 rw[hm]at eW
 replace HL:Hid (L++oU m num=uQ (UInt8.ofNat f) nonce num∧q+m=16∧L.length=q∧m≤15):=by
  have h:=HL.out;rw[hq,hm]at h
  exact⟨h.1,h.2,hq,by omega⟩
 clear hL hq hm wv hO hb hS hg1 hat1;go_wp2_with fail
 go_loopw [7,8] (fun v7 v8 wr=>∃ (m q:Nat) (L:List UInt8) (VA:Option Addr) (vc:Nat),v8=.int .i64 ((m:Int)-1)∧m≤15∧v7=.slice VA q vc∧Hid (L++oU m num=uQ (UInt8.ofNat f) nonce num∧q+m=16∧L.length=q)∧OwnB wr w.heap.size (.slice VA q vc) L∧Below w.heap.size w wr) (fun _ v8 _=>(intOf v8+1).toNat)
 case atStart=>exact⟨m,q,L,VA,vc,rfl,HL.out.2.2.2,rfl,⟨HL.out.1,HL.out.2.1,HL.out.2.2.1⟩,zJ,zY⟩
 case round =>
 clear zJ zY HL eW;obtain⟨m,q,L,VA,vc,rfl,hm,rfl,HL,hO,hb⟩:=hrel;have HM:=Hh hm
 by_cases h0:m=0
 ·have HR:Hid (L=uQ (UInt8.ofNat f) nonce num):=by have h:=HL.out.1;rw[h0,oU,List.append_nil]at h;exact h
  have e0:¬ (0:Int)≤(m:Int)-1:=by omega
  clear h0 HL;exact jcp
 have e0:(0:Int)≤(m:Int)-1:=by omega
 have V1:IntKind.i64.wrap ((m:Int)-1-1)=((m-1:Nat):Int)-1:=by rw[IntWalk.i64_in _ (by omega)];omega
 obtain⟨x,hx⟩:∃ x,UInt8.ofNat (num/256 ^ (m-1)%256)=x:=⟨_,rfl⟩
 obtain⟨L2,VI⟩:∃ L2,L++[x]=L2:=⟨_,rfl⟩
 have uz:Hid (L2++oU (m-1) num=uQ (UInt8.ofNat f) nonce num∧(q+1)+(m-1)=16∧L2.length=q+1∧L++[x]=L2):=by
  have h:=HL.out;rw[show m=(m-1)+1 by omega,gG,hx]at h
  refine⟨by rw[← VI,List.append_assoc];exact h.1,by omega,by rw[← VI,List.length_append];simp;omega,VI⟩
 have zJ:=hO.alloc (.cells #[.int .u8 (x.toNat:Int)] 5);have zY:=hb.alloc hb.size (.cells #[.int .u8 (x.toNat:Int)] 5);have nY:=om hb 5 #[.int .u8 (x.toNat:Int)];have HX:=Hh hx;have HQ:=Hh (show q≤16 from by have:=HL.out;omega);clear hx VI h0 hm HL hO hb
 by_cases h7:(7:Int)<(m:Int)-1
 ·have eL:x=0:=by
   have h1:num/256 ^ (m-1)=0:=by
    have h2:=HN.out.2.2
    refine Nat.div_eq_of_lt (Nat.lt_of_lt_of_le h2 ?_)
    exact Nat.le_trans (by decide:4611686018427387904≤256 ^ 8) (Nat.pow_le_pow_right (by omega) (by omega))
   rw[← HX.out,h1];rfl
  subst eL;clear HX;go_wp2_with (at_builtin;refine zh ?_)
  refine zv rfl (.tmp 23) (.tmp 24) rfl w.heap.size (.slice VA q vc) L rfl zJ _ 1 1 [0] rfl rfl nY (by have h:=zJ.1;have h2:=HQ.out;have h3:=uz.out;rw[← h3.2.2.2]at h3;simp at h3⊢;omega) zY.size fun v' w5 zW zK hat5=>?_
  rw[uz.out.2.2.2]at zW;obtain⟨VB,vd,rfl,wv,_,_⟩:=zW.form;rw[uz.out.2.2.1]at zW⊢;have zE:=jfv;clear wv zJ zY nY zK hat5;go_wp2_with fail
  go_roundw
  case rel=>exact⟨m-1,q+1,L2,VB,vd,rfl,by have:=HM.out;omega,rfl,⟨uz.out.1,uz.out.2.1,uz.out.2.2.1⟩,zW,zE⟩
  case measure=>have:=HM.out;simp[intOf];omega
 have fJ:x.toNat=num/256 ^ (m-1)%256:=by rw[← HX.out,UInt8.toNat_ofNat_of_lt' (by have:=Nat.mod_lt (num/256 ^ (m-1)) (show 0<256 by omega);simpa using this)]
 clear HX V1
 rcases(by have:=HM.out;omega:m=1∨m=2∨m=3∨m=4∨m=5∨m=6∨m=7∨m=8) with rfl | rfl | rfl | rfl | rfl | rfl | rfl | rfl
 ·have EX:(num:Int)%256=(x.toNat:Int):=by simp only[Nat.reduceSub,Nat.reducePow,Nat.pow_zero,Nat.div_one]at fJ;omega
  clear fJ;go_wp2_with (at_builtin;refine zh ?_)
  unfold zZ
  try rw[EX]
  refine zv rfl (.tmp 26) (.tmp 33) rfl w.heap.size (.slice VA q vc) L rfl zJ _ 1 1 [x] rfl rfl nY (by have h3:=uz.out;rw[← h3.2.2.2]at h3;simp at h3⊢;omega) zY.size fun v' w5 zW zK hat5=>?_
  rw[uz.out.2.2.2]at zW;obtain⟨VB,vd,rfl,wv,_,_⟩:=zW.form;rw[uz.out.2.2.1]at zW⊢;have zE:=jfv;clear wv zJ zY nY zK hat5;go_wp2_with fail
  go_roundw
  case rel=>exact⟨0,q+1,L2,VB,vd,by first | rfl | trivial | (simp),by omega,by first | rfl | trivial,⟨uz.out.1,uz.out.2.1,uz.out.2.2.1⟩,zW,zE⟩
  case measure=>simp[intOf]
 ·have EX:(num:Int)/256%256=(x.toNat:Int):=by simp only[Nat.reduceSub,Nat.reducePow,Nat.pow_zero,Nat.div_one]at fJ;omega
  clear fJ;go_wp2_with (at_builtin;refine zh ?_)
  unfold zZ
  try rw[EX]
  refine zv rfl (.tmp 26) (.tmp 33) rfl w.heap.size (.slice VA q vc) L rfl zJ _ 1 1 [x] rfl rfl nY (by have h3:=uz.out;rw[← h3.2.2.2]at h3;simp at h3⊢;omega) zY.size fun v' w5 zW zK hat5=>?_
  rw[uz.out.2.2.2]at zW;obtain⟨VB,vd,rfl,wv,_,_⟩:=zW.form;rw[uz.out.2.2.1]at zW⊢;have zE:=jfv;clear wv zJ zY nY zK hat5;go_wp2_with fail
  go_roundw
  case rel=>exact⟨1,q+1,L2,VB,vd,by first | rfl | trivial | (simp),by omega,by first | rfl | trivial,⟨uz.out.1,uz.out.2.1,uz.out.2.2.1⟩,zW,zE⟩
  case measure=>simp[intOf]
 ·have EX:(num:Int)/65536%256=(x.toNat:Int):=by simp only[Nat.reduceSub,Nat.reducePow,Nat.pow_zero,Nat.div_one]at fJ;omega
  clear fJ;go_wp2_with (at_builtin;refine zh ?_)
  unfold zZ
  try rw[EX]
  refine zv rfl (.tmp 26) (.tmp 33) rfl w.heap.size (.slice VA q vc) L rfl zJ _ 1 1 [x] rfl rfl nY (by have h3:=uz.out;rw[← h3.2.2.2]at h3;simp at h3⊢;omega) zY.size fun v' w5 zW zK hat5=>?_
  rw[uz.out.2.2.2]at zW;obtain⟨VB,vd,rfl,wv,_,_⟩:=zW.form;rw[uz.out.2.2.1]at zW⊢;have zE:=jfv;clear wv zJ zY nY zK hat5;go_wp2_with fail
  go_roundw
  case rel=>exact⟨2,q+1,L2,VB,vd,by first | rfl | trivial | (simp),by omega,by first | rfl | trivial,⟨uz.out.1,uz.out.2.1,uz.out.2.2.1⟩,zW,zE⟩
  case measure=>simp[intOf]
 ·have EX:(num:Int)/16777216%256=(x.toNat:Int):=by simp only[Nat.reduceSub,Nat.reducePow,Nat.pow_zero,Nat.div_one]at fJ;omega
  clear fJ;go_wp2_with (at_builtin;refine zh ?_)
  unfold zZ
  try rw[EX]
  refine zv rfl (.tmp 26) (.tmp 33) rfl w.heap.size (.slice VA q vc) L rfl zJ _ 1 1 [x] rfl rfl nY (by have h3:=uz.out;rw[← h3.2.2.2]at h3;simp at h3⊢;omega) zY.size fun v' w5 zW zK hat5=>?_
  rw[uz.out.2.2.2]at zW;obtain⟨VB,vd,rfl,wv,_,_⟩:=zW.form;rw[uz.out.2.2.1]at zW⊢;have zE:=jfv;clear wv zJ zY nY zK hat5;go_wp2_with fail
  go_roundw
  case rel=>exact⟨3,q+1,L2,VB,vd,by first | rfl | trivial | (simp),by omega,by first | rfl | trivial,⟨uz.out.1,uz.out.2.1,uz.out.2.2.1⟩,zW,zE⟩
  case measure=>simp[intOf]
 ·have EX:(num:Int)/4294967296%256=(x.toNat:Int):=by simp only[Nat.reduceSub,Nat.reducePow,Nat.pow_zero,Nat.div_one]at fJ;omega
  clear fJ;go_wp2_with (at_builtin;refine zh ?_)
  unfold zZ
  try rw[EX]
  refine zv rfl (.tmp 26) (.tmp 33) rfl w.heap.size (.slice VA q vc) L rfl zJ _ 1 1 [x] rfl rfl nY (by have h3:=uz.out;rw[← h3.2.2.2]at h3;simp at h3⊢;omega) zY.size fun v' w5 zW zK hat5=>?_
  rw[uz.out.2.2.2]at zW;obtain⟨VB,vd,rfl,wv,_,_⟩:=zW.form;rw[uz.out.2.2.1]at zW⊢;have zE:=jfv;clear wv zJ zY nY zK hat5;go_wp2_with fail
  go_roundw
  case rel=>exact⟨4,q+1,L2,VB,vd,by first | rfl | trivial | (simp),by omega,by first | rfl | trivial,⟨uz.out.1,uz.out.2.1,uz.out.2.2.1⟩,zW,zE⟩
  case measure=>simp[intOf]
 ·have EX:(num:Int)/1099511627776%256=(x.toNat:Int):=by simp only[Nat.reduceSub,Nat.reducePow,Nat.pow_zero,Nat.div_one]at fJ;omega
  clear fJ;go_wp2_with (at_builtin;refine zh ?_)
  unfold zZ
  try rw[EX]
  refine zv rfl (.tmp 26) (.tmp 33) rfl w.heap.size (.slice VA q vc) L rfl zJ _ 1 1 [x] rfl rfl nY (by have h3:=uz.out;rw[← h3.2.2.2]at h3;simp at h3⊢;omega) zY.size fun v' w5 zW zK hat5=>?_
  rw[uz.out.2.2.2]at zW;obtain⟨VB,vd,rfl,wv,_,_⟩:=zW.form;rw[uz.out.2.2.1]at zW⊢;have zE:=jfv;clear wv zJ zY nY zK hat5;go_wp2_with fail
  go_roundw
  case rel=>exact⟨5,q+1,L2,VB,vd,by first | rfl | trivial | (simp),by omega,by first | rfl | trivial,⟨uz.out.1,uz.out.2.1,uz.out.2.2.1⟩,zW,zE⟩
  case measure=>simp[intOf]
 ·have EX:(num:Int)/281474976710656%256=(x.toNat:Int):=by simp only[Nat.reduceSub,Nat.reducePow,Nat.pow_zero,Nat.div_one]at fJ;omega
  clear fJ;go_wp2_with (at_builtin;refine zh ?_)
  unfold zZ
  try rw[EX]
  refine zv rfl (.tmp 26) (.tmp 33) rfl w.heap.size (.slice VA q vc) L rfl zJ _ 1 1 [x] rfl rfl nY (by have h3:=uz.out;rw[← h3.2.2.2]at h3;simp at h3⊢;omega) zY.size fun v' w5 zW zK hat5=>?_
  rw[uz.out.2.2.2]at zW;obtain⟨VB,vd,rfl,wv,_,_⟩:=zW.form;rw[uz.out.2.2.1]at zW⊢;have zE:=jfv;clear wv zJ zY nY zK hat5;go_wp2_with fail
  go_roundw
  case rel=>exact⟨6,q+1,L2,VB,vd,by first | rfl | trivial | (simp),by omega,by first | rfl | trivial,⟨uz.out.1,uz.out.2.1,uz.out.2.2.1⟩,zW,zE⟩
  case measure=>simp[intOf]
 have EX:(num:Int)/72057594037927936%256=(x.toNat:Int):=by simp only[Nat.reduceSub,Nat.reducePow,Nat.pow_zero,Nat.div_one]at fJ;omega
 clear fJ;go_wp2_with (at_builtin;refine zh ?_)
 unfold zZ
 try rw[EX]
 refine zv rfl (.tmp 26) (.tmp 33) rfl w.heap.size (.slice VA q vc) L rfl zJ _ 1 1 [x] rfl rfl nY (by have h3:=uz.out;rw[← h3.2.2.2]at h3;simp at h3⊢;omega) zY.size fun v' w5 zW zK hat5=>?_
 rw[uz.out.2.2.2]at zW;obtain⟨VB,vd,rfl,wv,_,_⟩:=zW.form;rw[uz.out.2.2.1]at zW⊢;have zE:=jfv;clear wv zJ zY nY zK hat5;go_wp2_with fail
 go_roundw
 case rel=>exact⟨7,q+1,L2,VB,vd,by first | rfl | trivial | (simp),by omega,by first | rfl | trivial,⟨uz.out.1,uz.out.2.1,uz.out.2.2.1⟩,zW,zE⟩
 case measure=>simp[intOf]
def cI (key nonce:List UInt8) (block j:Nat):List UInt8:=pN key (uQ (firstS nonce) nonce (block+j))
def sO (key nonce b:List UInt8) (block k:Nat):UInt8:=at_ b k ^^^ at_ (cI key nonce block (k/16)) (k%16)
def pI (key nonce b:List UInt8) (block:Nat):List UInt8:=(List.range b.length).map (sO key nonce b block)
theorem jX (key nonce b:List UInt8):pI key nonce b 1=qC key nonce b:=by
 unfold pI qC
 apply List.map_congr_left
 intro k hk
 rw[sO,cI,pY,Nat.add_comm 1 (k/16)]
theorem bP (key nonce:List UInt8) {b:List UInt8}(h:b.length=16):pI key nonce b 0=uD key nonce b:=by
 unfold pI uD xA
 rw[h];apply List.map_congr_left
 intro k hk
 have Rv:k<16:=by simpa using hk
 rw[sO,cI,show k/16=0 by omega,show k%16=k by omega]
theorem XI (f:Nat→UInt8) (n:Nat):(List.range n).map f++[f n]=(List.range (n+1)).map f:=by rw[List.range_succ,List.map_append];rfl
theorem lr {KA:Option Addr}{kc:Nat}{key:List UInt8}(hk:key.length=16) {NA:Option Addr}{nn nc:Nat}{nonce:List UInt8}(uE:nn=nonce.length) (kQ:nonce.length≤13) {BA:Option Addr}{bn bc:Nat}{b:List UInt8}(YY:bn=b.length) (vV:b.length≤1048576) (block:Nat) (hblk:block≤1) (w:World)
  (hK:Src w KA (key.map zu)) (hN:Src w NA (nonce.map zu)) (hB:Src w BA (b.map zu)) :
  Calls Tryz.prog 95 #[.slice KA 16 kc,.slice NA nn nc,.slice BA bn bc,.int .i64 (block:Int)] w fun e w'=>∃ v,e=.returned v∧Fresh w (pI key nonce b block) v w':=by
 have HN:=Hh (And.intro uE (And.intro kQ (And.intro YY (And.intro vV (And.intro hk hblk)))));have HS:=Hh (And.intro hK (And.intro hN hB));have eW:IntKind.i64.wrap (14-(nn:Int))=((14-nn:Nat):Int):=by rw[IntWalk.i64_in _ (by omega)];omega
 obtain⟨fs,Ds⟩:∃ fs,14-nn=fs:=⟨_,rfl⟩
 have Hq:Hid (fs<256∧UInt8.ofNat fs=firstS nonce):=by rw[Hid,← Ds,firstS,uE];exact⟨by omega,rfl⟩
 rw[Ds]at eW;clear uE kQ YY vV hk hblk hK hN hB Ds;go_enter Tryz.func95,Tryz.ntmps95
 go_wp2_with fail
 go_loopw [9,10,15] (fun v9 v10 v15 wr=>∃ (i:Nat) (OA:Option Addr) (oc:Nat) (SA:Option Addr) (sn sc:Nat) (E:List UInt8),v15=.int .i64 (i:Int)∧i≤bn∧v9=.slice OA i oc∧v10=.slice SA sn sc∧OwnB wr w.heap.size (.slice OA i oc) ((List.range i).map (sO key nonce b block))∧OwnB wr w.heap.size (.slice SA sn sc) E∧
   Hid (0<i→sn=16∧E=cI key nonce block ((i-1)/16))∧(∀ k,(Value.slice OA i oc).ownBlock=some k→(Value.slice SA sn sc).ownBlock≠some k)∧Below w.heap.size w wr) (fun _ _ v15 _=>(bn-intOf v15).toNat)
 case atStart=>exact⟨0,none,0,none,0,0,[],rfl,Nat.zero_le _,rfl,rfl,OwnB.nil _ _,OwnB.nil _ _,(fun h=>by omega),(fun k hk=>by simp[Value.ownBlock]at hk),Below.refl _ _⟩
 case round =>
 obtain⟨i,OA,oc,SA,sn,sc,E,rfl,hi,rfl,rfl,hO,hE,FS,xp,hb⟩:=hrel
 by_cases z9:(i:Int)<(bn:Int)
 ·obtain⟨bb,bo,hBA,uw⟩:=HS.out.2.2 (by intro h0;rw[List.map_eq_nil_iff]at h0;have h1:=HN.out.2.2.1;rw[h0]at h1;simp at h1;omega);have e0:=ua hb (uw i (zu (at_ b i)) (by have h1:=HN.out.2.2.1;rw[List.getElem?_map,List.getElem?_eq_getElem (by omega)];simp[at_,List.getD_eq_getElem?_getD,show i<b.length by omega]));subst hBA;obtain⟨r,hr⟩:∃ r,i%16=r:=⟨_,rfl⟩
  obtain⟨j,hj⟩:∃ j,i/16=j:=⟨_,rfl⟩
  have t1:(i:Int).tmod 16=(r:Int):=by rw[← hr];exact(Int.ofNat_tmod i 16).symm
  have t2:(i:Int).tdiv 16=(j:Int):=by rw[← hj];exact(Int.ofNat_tdiv i 16).symm
  have t2':(i:Int)/16=(j:Int):=by rw[← hj];omega
  have e1:IntKind.i64.wrap ((block:Int)+(j:Int))=((block+j:Nat):Int):=by rw[IntWalk.i64_in _ (by have:=HN.out;omega)];omega
  have W0:IntKind.i64.wrap (j:Int)=(j:Int):=zP (by have:=HN.out;omega);obtain⟨bj,Do⟩:∃ q,block+j=q:=⟨_,rfl⟩
  rw[Do]at e1;obtain⟨u,hu⟩:∃ u,at_ b i=u:=⟨_,rfl⟩
  rw[hu]at e0;have HI:=Hh (And.intro hr (And.intro hj (And.intro Do (And.intro hu hi))));have hbi:=z9;clear hr hj Do hu hi uw;go_upto_if 22 with fail
  go_cut [10] (fun s10 wx=>∃ (SA:Option Addr) (sc:Nat),s10=.slice SA 16 sc∧OwnB wx w.heap.size (.slice SA 16 sc) (cI key nonce block j)∧OwnB wx w.heap.size (.slice OA i oc) ((List.range i).map (sO key nonce b block))∧(∀ k,(Value.slice OA i oc).ownBlock=some k→(Value.slice SA 16 sc).ownBlock≠some k)∧Below w.heap.size w wx)
  case first =>
   by_cases h0:r=0
   ·subst h0;have z0:(((0:Nat):Int)==0)=true:=rfl;have CT0:=jU (A:=NA) (c:=nc) HN.out.1 (by have:=HN.out;omega) fs Hq.out.1 bj (by have:=HN.out;have:=HI.out;omega) wr (HS.out.2.1.below hb);obtain⟨CL,Rw⟩:∃ CL,uQ (UInt8.ofNat fs) nonce bj=CL:=⟨_,rfl⟩
    rw[Rw]at CT0;have uw:CL.length=16:=by rw[← Rw];exact sA _ HN.out.2.1 _
    rw[Hq.out.2]at Rw;obtain⟨EL,Si⟩:∃ EL,pN key CL=EL:=⟨_,rfl⟩
    have P6:Hid (EL.length=16∧cI key nonce block j=EL):=⟨by rw[← Si];exact t7 _ _,by rw[cI,HI.out.2.2.1,Rw,Si]⟩
    have EN0:Hid (∀ (CA:Option Addr) (cc:Nat) (W:World),Src W KA (key.map zu)→Src W CA (CL.map zu)→Calls Tryz.prog 131 #[.slice KA 16 kc,.slice CA 16 cc] W fun e w'=>∃ v,e=.returned (.tuple #[v,.int .i64 0])∧Fresh W EL v w'):=fun CA cc W h1 h2=>by
     rw[← Si]
     exact jT HN.out.2.2.2.2.1 uw W h1 h2
    have CT:=Hh CT0;have f8:=Hh uw;clear CT0 Rw Si uw;go_wp2_with fail
    refine CT.out.mono ?_
    rintro e w5 ⟨v5,rfl,xX⟩
    clear CT;obtain⟨CA,cc,hv5,wv,cd,WV⟩:=xX.own.form;subst hv5;rw[f8.out]at wv⊢;have EN:=Hh (EN0.out CA cc w5 ((HS.out.1.below hb).below xX.2) xX.own.src);have hOl:=fun k hk=>(hO.lt k hk).2
    replace hO:=(hO.below xX.2)
    replace hb:=hb.trans (xX.2.mono hb.size);have hws:=xX.2.size;clear wv xX hE EN0;go_wp2_with fail
    refine EN.out.mono ?_
    rintro e w6 ⟨v6,rfl,vF⟩
    clear EN;obtain⟨EA,ec,rfl,wv,_,_⟩:=vF.own.form;rw[P6.out.1]at wv⊢;have LP:OwnB w6 w5.heap.size (.slice EA EL.length ec) EL:=vF.own;rw[P6.out.1]at LP;replace hO:=hO.below vF.2;have hE6:=LP.more hb.size;replace hb:=hb.trans (vF.2.mono hb.size);clear wv vF;go_wp2_with fail
    go_meet
    exact⟨EA,ec,rfl,by rw[P6.out.2];exact hE6,hO,fun k hk lf=>by have h1:=hOl k hk;have h2:=(LP.lt k lf).1;omega,hb⟩
   have JI:((r:Int)==0)=false:=by rw[beq_eq_false_iff_ne];omega
   have Bq:((r:Int)=0)=False:=eq_false (by omega);have H9:=FS.out (by have:=HI.out;omega);have Iq:(i-1)/16=j:=by have:=HI.out;omega
   rw[Iq]at H9;obtain⟨rfl,rfl⟩:=H9;clear h0 FS Iq;go_wp2_with fail
   go_meet
   exact⟨SA,sc,rfl,hE,hO,xp,hb⟩
  case rest =>
  clear hO hE hb xp FS t2 t2' e1 e0 W0;obtain⟨SA,sc,rfl,hE,hO,xp,hb⟩:=hcut;obtain⟨F,hF⟩:∃ F,cI key nonce block j=F:=⟨_,rfl⟩
  have FT:F.length=16:=by rw[← hF,cI];exact t7 _ _
  rw[hF]at hE;obtain⟨sb,so,rfl,Sv⟩:=hE.src (by intro h0;rw[List.map_eq_nil_iff]at h0;rw[h0]at FT;simp at FT);have Hb:r<16:=by have:=HI.out;omega
  have e1:=Sv r (zu (at_ F r)) (by rw[List.getElem?_map,List.getElem?_eq_getElem (by omega)];simp[at_,List.getD_eq_getElem?_getD,show r<F.length by omega]);have hri:(r:Int)<16:=by omega
  obtain⟨v,hv⟩:∃ v,at_ F r=v:=⟨_,rfl⟩
  rw[hv]at e1;have X:=yx u v;obtain⟨y,hy⟩:∃ y,u ^^^ v=y:=⟨_,rfl⟩
  rw[hy]at X;obtain⟨L,hL⟩:∃ L,(List.range i).map (sO key nonce b block)=L:=⟨_,rfl⟩
  have HL:Hid (L++[y]=(List.range (i+1)).map (sO key nonce b block)∧L.length=i):=by
   refine⟨?_,by rw[← hL];simp⟩
   have h:=HI.out;rw[← XI,hL,sO,h.2.1,h.1,h.2.2.2.1,hF,hv,hy]
  rw[hL]at hO;have V9:=Hh xp;have Sq:IntKind.i64.wrap ((i:Int)+1)=(i:Int)+1:=IntWalk.i64_in _ (by have:=HN.out;have:=HI.out;omega);have zJ:=hO.alloc (.cells #[.int .u8 (y.toNat:Int)] 5);have DQ:=hE.alloc (.cells #[.int .u8 (y.toNat:Int)] 5);have zY:=hb.alloc hb.size (.cells #[.int .u8 (y.toNat:Int)] 5);have nY:=om hb 5 #[.int .u8 (y.toNat:Int)];have HFX:=Hh (And.intro hF FT);clear Sv hF FT hv hy hL hO hE hb xp Hb;go_wp2_with (at_builtin;refine zh ?_)
  refine zv rfl (.tmp 37) (.tmp 45) rfl w.heap.size (.slice OA i oc) L rfl zJ _ 1 1 [y] rfl rfl nY (by have h1:=HL.out.2;have h2:=HN.out;have h3:=HI.out;simp;omega) zY.size fun v' w9 sv xt hat9=>?_
  obtain⟨L2,VI⟩:∃ L2,L++[y]=L2:=⟨_,rfl⟩
  have uz:Hid (L2=(List.range (i+1)).map (sO key nonce b block)∧L2.length=i+1):=⟨by rw[← VI,HL.out.1],by rw[← VI,List.length_append,HL.out.2];rfl⟩
  rw[VI]at sv;obtain⟨VB,vd,rfl,wv,_,_⟩:=sv.form;rw[uz.out.2]at sv hat9⊢;have hE9:=DQ.kept xt (.inr (fun e=>V9.out _ e.symm rfl));have oV:=zY.grown xt zY.size (fun q hq=>(zJ.lt q hq).1)
  have CY:∀ k,(Value.slice VB (i+1) vd).ownBlock=some k→(Value.slice (some (⟨sb,so,none⟩:Addr)) 16 sc).ownBlock≠some k:=fun k hk lf=>by
   rcases hat9 with h | ⟨g',h1,h2⟩
   ·rw[hk]at h;exact V9.out k h.symm lf
   rw[hk]at h1;injection h1 with h1;have h3:=(DQ.lt k lf).2;omega
  clear VI wv zJ DQ zY nY xt hat9 e1 X hri;go_wp2_with fail
  go_roundw
  case rel=>exact⟨i+1,VB,vd,some ⟨sb,so,none⟩,16,sc,F,by go_num,by have:=HI.out;omega,rfl,rfl,by rw[← uz.out.1];exact sv,hE9,(fun _=>⟨rfl,by rw[← HFX.out.1];congr 1;have:=HI.out;omega⟩),CY,oV⟩
  case measure=>simp[intOf];omega
 have M7:i=bn:=by omega
 subst M7;have HR:Hid ((List.range i).map (sO key nonce b block)=pI key nonce b block):=by rw[Hid,pI,HN.out.2.2.1]
 clear FS hE xp;exact jcp
end Go.Proofs.YtkmlnjociijpgaaGreatDoor
