/- squeezed. Walks: the references' at. Walks:  -/
import Derived.Test.YtgcjjhibdbafmaaGreatDoorK09
set_option linter.unusedVariables false
set_option linter.unusedSimpArgs false
set_option maxRecDepth 100000
set_option maxHeartbeats 12800000
namespace Go.Proofs.YtgcjjhibdbafmaaGreatDoor
open Go.RowKit
theorem atL_step (key:Itm) (l:List Itm) (k:Nat) (hk:k+1<l.length):atL key (l.drop k)=if sameB l[k] key=true then some l[k+1] else atL key (l.drop (k+2)):=by
 rw[List.drop_eq_getElem_cons (show k<l.length by omega),List.drop_eq_getElem_cons hk,atL]
theorem atL_end (key:Itm) (l:List Itm) (k:Nat) (hk:l.length≤k+1):atL key (l.drop k)=none:=by
 have hl:(l.drop k).length≤1:=by rw[List.length_drop];omega
 match l.drop k,hl with
 | [],_=>rfl
 | [_],_=>rfl
 | _::_::_,h=>simp at h
def Found (H:Snap) (o:Option Itm) (e:Ending):Prop:=∃ ba bc ia ic,e=.returned (.tuple #[itemV (o.getD zeroItm) ba bc ia ic,.bool o.isSome])∧IsItem H ba bc ia ic (o.getD zeroItm)
theorem ref_at {m key:Itm}(hmm:Modest m) (hmk:Modest key) {H:Snap}{k n:Int}{ba:Option Addr}{bl bc:Nat}{ia:Option Addr}{il ic:Nat}(hm:ItemA H k n ba bl bc ia il ic m)
  {k' n':Int} {ba':Option Addr} {bl' bc':Nat} {ia':Option Addr} {il' ic':Nat} (hk:ItemA H k' n' ba' bl' bc' ia' il' ic' key) (w:World) (hH:Holds w H) :
  Calls Tryz.prog 60 #[.agg #[.int .i64 k,.int .u64 n,.slice ba bl bc,.slice ia il ic],.agg #[.int .i64 k',.int .u64 n',.slice ba' bl' bc',.slice ia' il' ic']] w fun e w'=>Found H (atL key m.items) e∧Below w.heap.size w w':=by
 obtain⟨rfl,rfl,rfl,rfl,hmi⟩:=hm.eqs_;obtain⟨rfl,rfl,rfl,rfl,hki⟩:=hk.eqs_;have HM:=Hh hmi;have HK:=Hh hki;have HMM:=Hh hmm;have HMK:=Hh hmk;have hml:=hmm.parts.2.1;have hbw:=((below_box w (itemO m ba bc ia ic)).alloc (by simp) (itemO key ba' bc' ia' ic')).alloc (by simp;omega) zeroO;have hB1:=((Blk.new w 26 #[.int .i64 m.kind,.int .u64 m.n,.slice ba m.bytes.length bc,.slice ia m.items.length ic]).alloc (itemO key ba' bc' ia' ic')).alloc zeroO;have hB2:=(Blk.new (w.alloc (itemO m ba bc ia ic)) 26 #[.int .i64 key.kind,.int .u64 key.n,.slice ba' key.bytes.length bc',.slice ia' key.items.length ic']).alloc zeroO;have hB3:=Blk.new ((w.alloc (itemO m ba bc ia ic)).alloc (itemO key ba' bc' ia' ic')) 26 #[.int .i64 0,.int .u64 0,.slice none 0 0,.slice none 0 0]
 simp only[size_alloc]at hB2 hB3
 clear hm hk hmi hki hmm hmk;go_enter Tryz.func60,Tryz.ntmps60
 go_wp2_with fail
 go_loopw [6] (fun v6 wr=>∃ j:Nat,j≤m.items.length+1∧v6=.int .i64 j∧atL key (m.items.drop j)=atL key m.items∧Below w.heap.size w wr∧Blk wr w.heap.size 26 #[.int .i64 m.kind,.int .u64 m.n,.slice ba m.bytes.length bc,.slice ia m.items.length ic]∧
  Blk wr (w.heap.size+1) 26 #[.int .i64 key.kind,.int .u64 key.n,.slice ba' key.bytes.length bc',.slice ia' key.items.length ic']∧Blk wr (w.heap.size+1+1) 26 #[.int .i64 0,.int .u64 0,.slice none 0 0,.slice none 0 0]) (fun v6 _=>m.items.length+1-(intOf v6).toNat)
 case atStart=>exact⟨0,by omega,rfl,rfl,hbw,hB1,hB2,hB3⟩
 case round =>
  obtain⟨j,hj,rfl,hs,hbr,hC1,hC2,hC3⟩:=hrel;have HS:=Hh hs;have c3:=hC1.cell 3 rfl;clear hs
  by_cases hlt:j+1<m.items.length
  ·have hHr:Holds wr H:=hH.below hbr (Nat.le_refl _);obtain⟨ib,io,hia,hel⟩:=HM.out.items (by omega);obtain⟨y1,y2,y3,y4,q0,q1,q2,q3,hex⟩:=hel.get j (by omega);obtain⟨z1,z2,z3,z4,s0,s1,s2,s3,hez⟩:=hel.get (j+1) hlt;subst hia;have hji:(j:Int)+1<m.items.length:=by omega
   have hji2:(j:Int)<m.items.length:=by omega
   have hj1:((j:Int)+1).toNat=j+1:=by omega
   have hst:=Hh (HS.out.symm.trans (atL_step key m.items j hlt));have IH:=Hh (fun w1:World=>fun h1:Holds w1 H=>ref_Same m.items[j] key H _ _ y1 _ y2 y3 _ y4 _ _ ba' _ bc' ia' _ ic' w1 (HMM.out.parts.2.2.get j (by omega)) HMK.out hex.arg HK.out.arg h1)
   generalize m.items[j]'(by omega)=u at *
   generalize m.items[j+1]'hlt=v at *
   have hHx:=hHr.drew;have hbx:=hbr.drew;have hD1:=hC1.drew;have hD2:=hC2.drew;have hD3:=hC3.drew;clear hel hex hC2 hC3;go_upto_region 4 with fail
   refine wp_region_ways 6 (fun w'=>w'.cell? ⟨w.heap.size,3,none⟩=some (.slice (some ⟨ib,io,none⟩) m.items.length ic)∧w'.cell? ⟨ib,io+j*4,none⟩=some (.int .i64 u.kind)∧w'.cell? ⟨ib,io+j*4+1,none⟩=some (.int .u64 u.n)∧w'.cell? ⟨ib,io+j*4+2,none⟩=some (.slice y1 u.bytes.length y2)∧w'.cell? ⟨ib,io+j*4+3,none⟩=some (.slice y3 u.items.length y4)∧w'.cell? ⟨w.heap.size+1,0,none⟩=some (.int .i64 key.kind)∧w'.cell? ⟨w.heap.size+1,1,none⟩=some (.int .u64 key.n)∧w'.cell? ⟨w.heap.size+1,2,none⟩=some (.slice ba' key.bytes.length bc')∧w'.cell? ⟨w.heap.size+1,3,none⟩=some (.slice ia' key.items.length ic')) (by kernel_rfl) (⟨hD1.cell 3 rfl,hHx.cell q0,hHx.cell q1,hHx.cell q2,hHx.cell q3,hD2.cell 0 rfl,hD2.cell 1 rfl,hD2.cell 2 rfl,hD2.cell 3 rfl⟩) (fun hHeld=>?_)
   refine Tk 0 rfl hHeld ?_
   refine Tk 1 rfl hHeld ?_
   refine Tk 2 rfl hHeld ?_
   refine Tk 3 rfl hHeld ?_
   refine Tk 4 rfl hHeld ?_
   refine Tk 5 rfl hHeld ?_
   refine To 6 rfl fun K hK=>?_
   go_simp
   refine(IH.out _ hHx).mono ?_
   rintro e w6 ⟨rfl,hb6⟩
   have hH6:=hHx.below hb6 (Nat.le_refl _);have hb7:=hbx.trans (hb6.mono hbx.size);have hE1:=hD1.below hb6;have hE2:=hD2.below hb6;have hE3:=hD3.below hb6
   refine Kz hK ?_
   clear hK K
   refine Wd ?_
   clear hHeld hHr hHx hbx hD1 hD2 hD3 hb6 c3 hC1
   cases hq:sameB u key with
   | true =>
    have EE:Hid (atL key m.items=some v):=by rw[Hid,hst.out,if_pos hq]
    have c3:=hE1.cell 3 rfl;have p0:=hH6.cell s0;have p1:=hH6.cell s1;have p2:=hH6.cell s2;have p3:=hH6.cell s3;clear hq;go_wp2_with (with_reducible refine stop_store ?_)
    refine stI hE3 fun w8 hB8 hG8=>?_
    have hb8:=hb7.grown hG8 hb7.size (by rintro q ⟨⟩;omega);go_wp2_with fail
    refine ret_row_tmp rfl rfl hB8 rfl rfl size_item rfl ?_
    refine⟨⟨z1,z2,z3,z4, ?_, ?_⟩,hb8⟩
    ·rw[EE.out];rfl
    ·rw[EE.out];exact hez
   | false =>
    have EE:Hid (atL key (m.items.drop (j+2))=atL key m.items):=by rw[Hid,hst.out,hq];rfl
    clear hq;go_wp2_with fail
    go_roundw
    case rel=>exact⟨j+2,by omega,by go_num,EE.out,hb7,hE1,hE2,hE3⟩
    case measure=>simp[intOf];omega
  ·have EE:Hid (atL key m.items=none):=by rw[Hid,← HS.out];exact atL_end _ _ _ (by omega)
   have hji:¬ (j:Int)+1<m.items.length:=by omega
   go_wp2_with (with_reducible refine stop_store ?_)
   refine stI hC3 fun w8 hB8 hG8=>?_
   have hb8:=hbr.grown hG8 hbr.size (by rintro q ⟨⟩;omega);go_wp2_with fail
   refine ret_row_tmp rfl rfl hB8 rfl rfl size_item rfl ?_
   refine⟨⟨none,0,none,0, ?_, ?_⟩,hb8⟩
   ·rw[EE.out];rfl
   ·rw[EE.out];exact IsItem.plain H 0 0 (by omega) (by omega)
theorem modest_int (n:Int):Modest (intP n):=by
 unfold intP
 split <;> (rw[Modest,ModestL];simp)
theorem Found.gives {w w':World}{H:Snap}{o:Option Itm}{e:Ending}(hH:Holds w H) (h:Found H o e) (hb:Below w.heap.size w w'):∃ v,e=.returned (.tuple #[v,.bool o.isSome])∧Gives w H (o.getD zeroItm) v w':=by
 obtain⟨ba,bc,ia,ic,rfl,hi⟩:=h
 exact⟨_,rfl,ba,bc,ia,ic,H,rfl,Grows.of_below hH hb,hi⟩
theorem ref_at' {m key:Itm}(hmm:Modest m) (hmk:Modest key) {H:Snap}{k n:Int}{ba:Option Addr}{bl bc:Nat}{ia:Option Addr}{il ic:Nat}(hm:ItemA H k n ba bl bc ia il ic m)
  {k' n':Int} {ba':Option Addr} {bl' bc':Nat} {ia':Option Addr} {il' ic':Nat} (hk:ItemA H k' n' ba' bl' bc' ia' il' ic' key) (w:World) (hH:Holds w H) :
  Calls Tryz.prog 60 #[.agg #[.int .i64 k,.int .u64 n,.slice ba bl bc,.slice ia il ic],.agg #[.int .i64 k',.int .u64 n',.slice ba' bl' bc',.slice ia' il' ic']] w
   fun e w'=>∃ v,e=.returned (.tuple #[v,.bool (atL key m.items).isSome])∧Gives w H ((atL key m.items).getD zeroItm) v w' :=
 (ref_at hmm hmk hm hk w hH).mono fun _ _ h=>h.1.gives hH h.2
theorem ref_find {H:Snap}{p u:Itm}(hmp:Modest p) (hmu:Modest u) {a b:Ad}(hp:IsItem H a.ba a.bc a.ia a.ic p) (hu:IsItem H b.ba b.bc b.ia b.ic u) (n:Int) (hn1 : -9223372036854775808≤n) (hn2:n≤9223372036854775807) (w:World) (hH:Holds w H) :
  Calls Tryz.prog 62 #[.agg (hdrC p a u b),.int .i64 n] w
   fun e w'=>∃ v,e=.returned (.tuple #[v,.bool (findR p u n).isSome])∧Gives w H ((findR p u n).getD zeroItm) v w':=by
 have hB:=(Blk.new w 28 (hdrC p a u b)).alloc zeroO;have hT:=Blk.new (w.alloc (.cells (hdrC p a u b) 28)) 26 #[.int .i64 0,.int .u64 0,.slice none 0 0,.slice none 0 0]
 simp only[size_alloc]at hT
 have hG:=(((Grows.refl hH).alloc (.cells (hdrC p a u b) 28)).alloc zeroO).drew;have hTn:H (w.heap.size+1)=none:=hH.none_of_ge (by omega);have hle:=Snap.le.refl H;have hmk:=modest_int n;go_enter Tryz.func62,Tryz.ntmps62
 go_upto_region 1 with fail
 go_cut [6,7] (fun s6 s7 wx=>∃ N ra rb rc rd Hx,s6=.pointer (some ⟨N,0,none⟩)∧s7=.bool (atL (intP n) p.items).isSome∧Blk wx N 26 #[.int .i64 ((atL (intP n) p.items).getD zeroItm).kind,.int .u64 ((atL (intP n) p.items).getD zeroItm).n,.slice ra ((atL (intP n) p.items).getD zeroItm).bytes.length rb,.slice rc ((atL (intP n) p.items).getD zeroItm).items.length rd]∧
  Blk wx w.heap.size 28 (hdrC p a u b)∧Blk wx (w.heap.size+1) 26 #[.int .i64 0,.int .u64 0,.slice none 0 0,.slice none 0 0]∧Grows w H wx Hx∧H.le Hx∧Hx (w.heap.size+1)=none∧IsItem Hx ra rb rc rd ((atL (intP n) p.items).getD zeroItm))
 case first =>
  have hB:=hB.drew;have hT:=hT.drew;have hT0:=hT.lt
  refine wp_region_ways 10 (fun w'=>w'.cell? ⟨w.heap.size,0,none⟩=some (.int .i64 p.kind)∧w'.cell? ⟨w.heap.size,1,none⟩=some (.int .u64 p.n)∧w'.cell? ⟨w.heap.size,2,none⟩=some (.slice a.ba p.bytes.length a.bc)∧w'.cell? ⟨w.heap.size,3,none⟩=some (.slice a.ia p.items.length a.ic)) (by kernel_rfl) (⟨hB.cell 0 rfl,hB.cell 1 rfl,hB.cell 2 rfl,hB.cell 3 rfl⟩) (fun hHeld=>?_)
  refine Tk 0 rfl hHeld ?_
  refine Tk 1 rfl hHeld ?_
  refine Tk 2 rfl hHeld ?_
  refine Ways.two (i:=3) (j:=8) rfl rfl (by kernel_rfl) (fun K hK=>?_) (fun K hK=>?_)
  ·go_simp
   refine(ref_Int n hn1 hn2 _ hG.holds).mono ?_
   rintro e w2 ⟨v2,rfl,hv2⟩
   have hB:=hB.below hv2.below;have hT:=hT.below hv2.below
   try have hN:=hN.below hv2.below
   obtain⟨ka,kb,kc,kd,H2,rfl,hG2,hi2⟩:=hv2;have hTn:=hG2.none hTn hT0;have hT0:=hT.lt;have hle:=hle.trans hG2.le;have hG:=hG.trans hG2
   try have hNn:=hG2.none hNn hN0
   try have hN0:=hN.lt
   refine Ko hK ?_ fun hHeld=>?_
   ·exact⟨hB.cell 0 rfl,hB.cell 1 rfl,hB.cell 2 rfl,hB.cell 3 rfl⟩
   clear hK K
   refine Ways.two (i:=4) (j:=8) rfl rfl (by kernel_rfl) (fun K hK=>?_) (fun K hK=>?_)
   ·go_simp
    refine(ref_at' hmp hmk (hp.mono hle).arg hi2.arg _ hG.holds).mono ?_
    rintro e w3 ⟨v3,rfl,hv3⟩
    have hB:=hB.below hv3.below;have hT:=hT.below hv3.below
    try have hN:=hN.below hv3.below
    obtain⟨ra,rb,rc,rd,H3,rfl,hG3,hi3⟩:=hv3;have hTn:=hG3.none hTn hT0;have hT0:=hT.lt;have hle:=hle.trans hG3.le;have hG:=hG.trans hG3
    try have hNn:=hG3.none hNn hN0
    try have hN0:=hN.lt
    refine Ko hK ?_ fun hHeld=>?_
    ·exact⟨hB.cell 0 rfl,hB.cell 1 rfl,hB.cell 2 rfl,hB.cell 3 rfl⟩
    clear hK K
    refine Tk 5 rfl hHeld ?_
    refine Tk 6 rfl hHeld ?_
    refine Tk 7 rfl hHeld ?_
    refine To 8 rfl fun K hK=>?_
    go_simp
    have hN:=hG.newBlk 26 #[.int .i64 0,.int .u64 0,.slice none 0 0,.slice none 0 0]
    try simp only[drew_heap,size_alloc]at hN
    have hNn:=hG.hidden (Nat.le_refl _)
    try simp only[drew_heap,size_alloc]at hNn
    have hz1:=hT0;have hz2:=hG.size;have hB:=hB.alloc zeroO;have hT:=hT.alloc zeroO;have hG:=hG.alloc zeroO;have hT0:=hT.lt;have hN0:=hN.lt
    refine Ko hK ?_ fun hHeld=>?_
    ·exact⟨hB.cell 0 rfl,hB.cell 1 rfl,hB.cell 2 rfl,hB.cell 3 rfl⟩
    clear hK K
    refine To 9 rfl fun K hK=>?_
    rw[if_pos (by rfl)]
    refine wp_store_item _ _ _ rfl _ _ rfl rfl _ _ hN size_item rfl (one4 _ _ _ _ rfl rfl rfl rfl) fun w5 hN5 hg5=>?_
    have hB:=hB.grown hg5 (by first | (simp;done) | (simp;omega));have hT:=hT.grown hg5 (by first | (simp;done) | (simp;omega));have hG:=hG.grownOwn hNn (by first | exact hz2 | omega) hg5
    refine Ko hK ?_ fun hHeld=>?_
    ·exact⟨hB.cell 0 rfl,hB.cell 1 rfl,hB.cell 2 rfl,hB.cell 3 rfl⟩
    clear hK K
    refine To 10 rfl fun K hK=>?_
    go_simp
    refine Kz hK ?_
    clear hK K
    refine Wd ?_
    go_wp2_with fail
    go_meet
    exact⟨_,ra,rb,rc,rd,_,rfl,rfl,hN5,hB,hT,hG,hle,hTn,hi3⟩
   ·go_simp
    have hN:=hG.newBlk 26 #[.int .i64 0,.int .u64 0,.slice none 0 0,.slice none 0 0]
    try simp only[drew_heap,size_alloc]at hN
    have hNn:=hG.hidden (Nat.le_refl _)
    try simp only[drew_heap,size_alloc]at hNn
    have hz1:=hT0;have hz2:=hG.size;have hB:=hB.alloc zeroO;have hT:=hT.alloc zeroO;have hG:=hG.alloc zeroO;have hT0:=hT.lt;have hN0:=hN.lt
    refine Ko hK ?_ fun hHeld=>?_
    ·exact⟨hB.cell 0 rfl,hB.cell 1 rfl,hB.cell 2 rfl,hB.cell 3 rfl⟩
    clear hK K
    refine To 4 rfl fun K hK=>?_
    go_simp
    refine(ref_at' hmp hmk (hp.mono hle).arg hi2.arg _ hG.holds).mono ?_
    rintro e w3 ⟨v3,rfl,hv3⟩
    have hB:=hB.below hv3.below;have hT:=hT.below hv3.below
    try have hN:=hN.below hv3.below
    obtain⟨ra,rb,rc,rd,H3,rfl,hG3,hi3⟩:=hv3;have hTn:=hG3.none hTn hT0;have hT0:=hT.lt;have hle:=hle.trans hG3.le;have hG:=hG.trans hG3
    try have hNn:=hG3.none hNn hN0
    try have hN0:=hN.lt
    refine Ko hK ?_ fun hHeld=>?_
    ·exact⟨hB.cell 0 rfl,hB.cell 1 rfl,hB.cell 2 rfl,hB.cell 3 rfl⟩
    clear hK K
    refine Tk 5 rfl hHeld ?_
    refine Tk 6 rfl hHeld ?_
    refine Tk 7 rfl hHeld ?_
    refine To 9 rfl fun K hK=>?_
    rw[if_pos (by rfl)]
    refine wp_store_item _ _ _ rfl _ _ rfl rfl _ _ hN size_item rfl (one4 _ _ _ _ rfl rfl rfl rfl) fun w5 hN5 hg5=>?_
    have hB:=hB.grown hg5 (by first | (simp;done) | (simp;omega));have hT:=hT.grown hg5 (by first | (simp;done) | (simp;omega));have hG:=hG.grownOwn hNn (by first | exact hz2 | omega) hg5
    refine Ko hK ?_ fun hHeld=>?_
    ·exact⟨hB.cell 0 rfl,hB.cell 1 rfl,hB.cell 2 rfl,hB.cell 3 rfl⟩
    clear hK K
    refine To 10 rfl fun K hK=>?_
    go_simp
    refine Kz hK ?_
    clear hK K
    refine Wd ?_
    go_wp2_with fail
    go_meet
    exact⟨_,ra,rb,rc,rd,_,rfl,rfl,hN5,hB,hT,hG,hle,hTn,hi3⟩
  ·go_simp
   have hN:=hG.newBlk 26 #[.int .i64 0,.int .u64 0,.slice none 0 0,.slice none 0 0]
   try simp only[drew_heap,size_alloc]at hN
   have hNn:=hG.hidden (Nat.le_refl _)
   try simp only[drew_heap,size_alloc]at hNn
   have hz1:=hT0;have hz2:=hG.size;have hB:=hB.alloc zeroO;have hT:=hT.alloc zeroO;have hG:=hG.alloc zeroO;have hT0:=hT.lt;have hN0:=hN.lt
   refine Ko hK ?_ fun hHeld=>?_
   ·exact⟨hB.cell 0 rfl,hB.cell 1 rfl,hB.cell 2 rfl,hB.cell 3 rfl⟩
   clear hK K
   refine To 3 rfl fun K hK=>?_
   go_simp
   refine(ref_Int n hn1 hn2 _ hG.holds).mono ?_
   rintro e w2 ⟨v2,rfl,hv2⟩
   have hB:=hB.below hv2.below;have hT:=hT.below hv2.below
   try have hN:=hN.below hv2.below
   obtain⟨ka,kb,kc,kd,H2,rfl,hG2,hi2⟩:=hv2;have hTn:=hG2.none hTn hT0;have hT0:=hT.lt;have hle:=hle.trans hG2.le;have hG:=hG.trans hG2
   try have hNn:=hG2.none hNn hN0
   try have hN0:=hN.lt
   refine Ko hK ?_ fun hHeld=>?_
   ·exact⟨hB.cell 0 rfl,hB.cell 1 rfl,hB.cell 2 rfl,hB.cell 3 rfl⟩
   clear hK K
   refine To 4 rfl fun K hK=>?_
   go_simp
   refine(ref_at' hmp hmk (hp.mono hle).arg hi2.arg _ hG.holds).mono ?_
   rintro e w3 ⟨v3,rfl,hv3⟩
   have hB:=hB.below hv3.below;have hT:=hT.below hv3.below
   try have hN:=hN.below hv3.below
   obtain⟨ra,rb,rc,rd,H3,rfl,hG3,hi3⟩:=hv3;have hTn:=hG3.none hTn hT0;have hT0:=hT.lt;have hle:=hle.trans hG3.le;have hG:=hG.trans hG3
   try have hNn:=hG3.none hNn hN0
   try have hN0:=hN.lt
   refine Ko hK ?_ fun hHeld=>?_
   ·exact⟨hB.cell 0 rfl,hB.cell 1 rfl,hB.cell 2 rfl,hB.cell 3 rfl⟩
   clear hK K
   refine Tk 5 rfl hHeld ?_
   refine Tk 6 rfl hHeld ?_
   refine Tk 7 rfl hHeld ?_
   refine To 9 rfl fun K hK=>?_
   rw[if_pos (by rfl)]
   refine wp_store_item _ _ _ rfl _ _ rfl rfl _ _ hN size_item rfl (one4 _ _ _ _ rfl rfl rfl rfl) fun w5 hN5 hg5=>?_
   have hB:=hB.grown hg5 (by first | (simp;done) | (simp;omega));have hT:=hT.grown hg5 (by first | (simp;done) | (simp;omega));have hG:=hG.grownOwn hNn (by first | exact hz2 | omega) hg5
   refine Ko hK ?_ fun hHeld=>?_
   ·exact⟨hB.cell 0 rfl,hB.cell 1 rfl,hB.cell 2 rfl,hB.cell 3 rfl⟩
   clear hK K
   refine To 10 rfl fun K hK=>?_
   go_simp
   refine Kz hK ?_
   clear hK K
   refine Wd ?_
   go_wp2_with fail
   go_meet
   exact⟨_,ra,rb,rc,rd,_,rfl,rfl,hN5,hB,hT,hG,hle,hTn,hi3⟩
 case rest =>
  obtain⟨N,ra,rb,rc,rd,Hx,rfl,rfl,hN,hB,hT,hG,hle,hTn,hi⟩:=hcut;have hT0:=hT.lt
  cases hf:atL (intP n) p.items with
  | some x =>
   have E:Hid (findR p u n=some x):=by rw[Hid,findR,hf]
   rw[hf]at hN hi
   simp only[Option.getD_some]at hN hi
   have n0:=hN.cell 0 rfl;have n1:=hN.cell 1 rfl;have n2:=hN.cell 2 rfl;have n3:=hN.cell 3 rfl;clear hf;go_wp2_with (with_reducible refine stop_store ?_)
   refine stI hT fun w6 hJ2 hg6=>?_
   go_wp2_with fail
   refine ret_row_tmp rfl rfl hJ2 rfl rfl size_item rfl ?_
   rw[E.out]
   exact⟨_,rfl,ra,rb,rc,rd,Hx,rfl,hG.grownOwn hTn (by omega) hg6,hi⟩
  | none =>
   have E:Hid (findR p u n=atL (intP n) u.items):=by rw[Hid,findR,hf]
   clear hN hi hf;have hB:=hB.drew;have hT:=hT.drew;have hG:=hG.drew;have hT0:=hT.lt;go_upto_region 4 with fail
   refine wp_region_ways 8 (fun w'=>w'.cell? ⟨w.heap.size,4,none⟩=some (.int .i64 u.kind)∧w'.cell? ⟨w.heap.size,5,none⟩=some (.int .u64 u.n)∧w'.cell? ⟨w.heap.size,6,none⟩=some (.slice b.ba u.bytes.length b.bc)∧w'.cell? ⟨w.heap.size,7,none⟩=some (.slice b.ia u.items.length b.ic)) (by kernel_rfl) (⟨hB.cell 4 rfl,hB.cell 5 rfl,hB.cell 6 rfl,hB.cell 7 rfl⟩) (fun hHeld=>?_)
   refine Tk 0 rfl hHeld ?_
   refine Tk 1 rfl hHeld ?_
   refine Tk 2 rfl hHeld ?_
   refine To 3 rfl fun K hK=>?_
   go_simp
   refine(ref_Int n hn1 hn2 _ hG.holds).mono ?_
   rintro e w7 ⟨v7,rfl,hv7⟩
   have hB:=hB.below hv7.below;have hT:=hT.below hv7.below;obtain⟨sa,sb,sc,sd,H7,rfl,hG7,hi7⟩:=hv7;have hTn:=hG7.none hTn hT0;have hT0:=hT.lt;have hle:=hle.trans hG7.le;have hG:=hG.trans hG7
   refine Ko hK ?_ fun hHeld=>?_
   ·exact⟨hB.cell 4 rfl,hB.cell 5 rfl,hB.cell 6 rfl,hB.cell 7 rfl⟩
   clear hK K
   refine To 4 rfl fun K hK=>?_
   go_simp
   refine(ref_at' hmu hmk (hu.mono hle).arg hi7.arg _ hG.holds).mono ?_
   rintro e w8 ⟨v8,rfl,hv8⟩
   have hB:=hB.below hv8.below;have hT:=hT.below hv8.below;obtain⟨ta,tb,tc,td,H8,rfl,hG8,hi8⟩:=hv8;have hTn:=hG8.none hTn hT0;have hT0:=hT.lt;have hle:=hle.trans hG8.le;have hG:=hG.trans hG8
   refine Ko hK ?_ fun hHeld=>?_
   ·exact⟨hB.cell 4 rfl,hB.cell 5 rfl,hB.cell 6 rfl,hB.cell 7 rfl⟩
   clear hK K
   refine Tk 5 rfl hHeld ?_
   refine Tk 6 rfl hHeld ?_
   refine To 7 rfl fun K hK=>?_
   rw[if_pos (by rfl)]
   refine wp_store_item _ _ _ rfl (w.heap.size+1) _ rfl rfl _ _ hT size_item rfl (one4 _ _ _ _ rfl rfl rfl rfl) fun w9 hT9 hg9=>?_
   have hB:=hB.grown hg9 (by simp);have hG:=hG.grownOwn hTn (by omega) hg9
   refine Ko hK ?_ fun hHeld=>?_
   ·exact⟨hB.cell 4 rfl,hB.cell 5 rfl,hB.cell 6 rfl,hB.cell 7 rfl⟩
   clear hK K
   refine To 8 rfl fun K hK=>?_
   go_simp
   refine Kz hK ?_
   clear hK K
   refine Wd ?_
   go_wp2_with fail
   refine ret_row_tmp rfl rfl hT9 rfl rfl size_item rfl ?_
   rw[E.out]
   exact⟨_,rfl,ta,tb,tc,td,_,rfl,hG,hi8⟩
def nums4:List Int:=[4,5,6,12]
theorem valueP_1 {k v:Itm}{m:List Itm}(h:sameB k (intP 1)=true):valueP k v m=(((v.kind==0&&decide (0<v.n))||v.kind==1)&&decide (v.n≤65535)):=by rw[valueP,if_pos h]
theorem valueP_2 {k v:Itm}{m:List Itm}(h1:sameB k (intP 1)=false) (h:sameB k (intP 2)=true):valueP k v m=(v.kind==4&&decide (0<v.items.length)&&v.items.all fun x=>(atL x m).isSome):=by rw[valueP,if_neg (by simp[h1]),if_pos h]
theorem valueP_3 {k v:Itm}{m:List Itm}(h1:sameB k (intP 1)=false) (h2:sameB k (intP 2)=false):valueP k v m=(if(nums4.any fun n=>sameB k (intP n))=true then v.kind==2 else true):=by
 rw[valueP,if_neg (by simp[h1]),if_neg (by simp[h2])];have:(nums4.any fun n=>sameB k (intP n))=(sameB k (intP 4)||sameB k (intP 5)||sameB k (intP 6)||sameB k (intP 12)):=by simp[nums4,Bool.or_assoc]
 rw[this]
theorem ref_value {key v m:Itm}(hmk:Modest key) (hmv:Modest v) (hmm:Modest m) {H:Snap}{a b c:Ad}(hk:IsItem H a.ba a.bc a.ia a.ic key) (hv:IsItem H b.ba b.bc b.ia b.ic v) (hm:IsItem H c.ba c.bc c.ia c.ic m) (w:World) (hH:Holds w H) :
  Calls Tryz.prog 59 #[itemV key a.ba a.bc a.ia a.ic,itemV v b.ba b.bc b.ia b.ic,itemV m c.ba c.bc c.ia c.ic] w fun e w'=>e=.returned (.bool (valueP key v m.items))∧Below w.heap.size w w':=by
 have HK:=Hh hk;have HV:=Hh hv;have HM:=Hh hm;have HMK:=Hh hmk;have HMV:=Hh hmv;have HMM:=Hh hmm;have hvl:=hmv.parts.2.1;have hvb:=hv.bounds;have HNV:=Hh hvb.2.2.1;have hB1:=(((Blk.new w 26 #[.int .i64 key.kind,.int .u64 key.n,.slice a.ba key.bytes.length a.bc,.slice a.ia key.items.length a.ic]).alloc (itemO v b.ba b.bc b.ia b.ic)).alloc (itemO m c.ba c.bc c.ia c.ic)).drew;have hB2:=((Blk.new (w.alloc (itemO key a.ba a.bc a.ia a.ic)) 26 #[.int .i64 v.kind,.int .u64 v.n,.slice b.ba v.bytes.length b.bc,.slice b.ia v.items.length b.ic]).alloc (itemO m c.ba c.bc c.ia c.ic)).drew;have hB3:=(Blk.new ((w.alloc (itemO key a.ba a.bc a.ia a.ic)).alloc (itemO v b.ba b.bc b.ia b.ic)) 26 #[.int .i64 m.kind,.int .u64 m.n,.slice c.ba m.bytes.length c.bc,.slice c.ia m.items.length c.ic]).drew
 simp only[size_alloc]at hB2 hB3
 have hb:=(((below_box w (itemO key a.ba a.bc a.ia a.ic)).alloc (by simp) (itemO v b.ba b.bc b.ia b.ic)).alloc (by simp;omega) (itemO m c.ba c.bc c.ia c.ic)).drew;have hHx:Holds (((w.alloc (itemO key a.ba a.bc a.ia a.ic)).alloc (itemO v b.ba b.bc b.ia b.ic)).alloc (itemO m c.ba c.bc c.ia c.ic)).drew H:=(((hH.alloc _).alloc _).alloc _).drew;have IS:=Hh (fun(n:Int) (h1 : -9223372036854775808≤n) (h2:n≤9223372036854775807) (w1:World) (h:Holds w1 H)=>ref_Int n h1 h2 w1 h);clear hk hv hm hmk hmv hmm hvb;go_enter Tryz.func59,Tryz.ntmps59
 go_upto_region 1 with fail
 refine wp_region_ways 3 (fun w'=>w'.cell? ⟨w.heap.size,0,none⟩=some (.int .i64 key.kind)∧w'.cell? ⟨w.heap.size,1,none⟩=some (.int .u64 key.n)∧w'.cell? ⟨w.heap.size,2,none⟩=some (.slice a.ba key.bytes.length a.bc)∧w'.cell? ⟨w.heap.size,3,none⟩=some (.slice a.ia key.items.length a.ic)) (by kernel_rfl) (⟨hB1.cell 0 rfl,hB1.cell 1 rfl,hB1.cell 2 rfl,hB1.cell 3 rfl⟩) (fun hHeld=>?_)
 refine Tk 0 rfl hHeld ?_
 refine To 1 rfl fun K hK=>?_
 go_simp
 refine(IS.out 1 (by omega) (by omega) _ hHx).mono ?_
 rintro e w1 ⟨v1,rfl,hv1⟩
 have hB1:=hB1.below hv1.below;have hB2:=hB2.below hv1.below;have hB3:=hB3.below hv1.below;have hb:=hb.trans (hv1.below.mono hb.size);have hHy:=hHx.below hv1.below (Nat.le_refl _);obtain⟨xa,xb,xc,xd,H1,rfl,hG1,hi1⟩:=hv1
 refine Ko hK ?_ fun hHeld=>?_
 ·exact⟨hB1.cell 0 rfl,hB1.cell 1 rfl,hB1.cell 2 rfl,hB1.cell 3 rfl⟩
 clear hK K
 refine To 2 rfl fun K hK=>?_
 go_simp
 refine(ref_Same key (intP 1) H1 _ _ a.ba _ a.bc a.ia _ a.ic _ _ xa _ xb xc _ xd _ HMK.out (modest_int 1) (HK.out.mono hG1.le).arg hi1.arg hG1.holds).mono ?_
 rintro e w2 ⟨rfl,hb2⟩
 have hB1:=hB1.below hb2;have hB2:=hB2.below hb2;have hB3:=hB3.below hb2;have hb:=hb.trans (hb2.mono hb.size);have hHy:=hHy.below hb2 (Nat.le_refl _)
 refine Ko hK ?_ fun hHeld=>?_
 ·exact⟨hB1.cell 0 rfl,hB1.cell 1 rfl,hB1.cell 2 rfl,hB1.cell 3 rfl⟩
 clear hK K
 refine To 3 rfl fun K hK=>?_
 go_simp
 refine Kz hK ?_
 clear hK K
 refine Wd ?_
 clear hHeld hHx hG1 hi1 hb2;have d0:=hB2.cell 0 rfl;have d1:=hB2.cell 1 rfl;have d3:=hB2.cell 3 rfl
 cases hq1:sameB key (intP 1) with
 | true =>
  have E:=Hh (valueP_1 (v:=v) (m:=m.items) hq1);clear hq1;go_wp2_with fail
  all_goals
   go_ret
   refine⟨?_,hb⟩
   rw[E.out];show Ending.returned (Value.bool _)=_
   congr 2
   rw[Bool.eq_iff_iff]
   simp_all
   try omega
 | false =>
  have hHx:=hHy.drew;have hB1:=hB1.drew;have hB2:=hB2.drew;have hB3:=hB3.drew;have hb:=hb.drew;clear d0 d1 d3;have HQ1:=Hh hq1;clear hq1;go_upto_region 3 with fail
  refine wp_region_ways 3 (fun w'=>w'.cell? ⟨w.heap.size,0,none⟩=some (.int .i64 key.kind)∧w'.cell? ⟨w.heap.size,1,none⟩=some (.int .u64 key.n)∧w'.cell? ⟨w.heap.size,2,none⟩=some (.slice a.ba key.bytes.length a.bc)∧w'.cell? ⟨w.heap.size,3,none⟩=some (.slice a.ia key.items.length a.ic)) (by kernel_rfl) (⟨hB1.cell 0 rfl,hB1.cell 1 rfl,hB1.cell 2 rfl,hB1.cell 3 rfl⟩) (fun hHeld=>?_)
  refine Tk 0 rfl hHeld ?_
  refine To 1 rfl fun K hK=>?_
  go_simp
  refine(IS.out 2 (by omega) (by omega) _ hHx).mono ?_
  rintro e w3 ⟨v3,rfl,hv3⟩
  have hB1:=hB1.below hv3.below;have hB2:=hB2.below hv3.below;have hB3:=hB3.below hv3.below;have hb:=hb.trans (hv3.below.mono hb.size);have hHy:=hHx.below hv3.below (Nat.le_refl _);obtain⟨ya,yb,yc,yd,H3,rfl,hG3,hi3⟩:=hv3
  refine Ko hK ?_ fun hHeld=>?_
  ·exact⟨hB1.cell 0 rfl,hB1.cell 1 rfl,hB1.cell 2 rfl,hB1.cell 3 rfl⟩
  clear hK K
  refine To 2 rfl fun K hK=>?_
  go_simp
  refine(ref_Same key (intP 2) H3 _ _ a.ba _ a.bc a.ia _ a.ic _ _ ya _ yb yc _ yd _ HMK.out (modest_int 2) (HK.out.mono hG3.le).arg hi3.arg hG3.holds).mono ?_
  rintro e w4 ⟨rfl,hb4⟩
  have hB1:=hB1.below hb4;have hB2:=hB2.below hb4;have hB3:=hB3.below hb4;have hb:=hb.trans (hb4.mono hb.size);have hHy:=hHy.below hb4 (Nat.le_refl _)
  refine Ko hK ?_ fun hHeld=>?_
  ·exact⟨hB1.cell 0 rfl,hB1.cell 1 rfl,hB1.cell 2 rfl,hB1.cell 3 rfl⟩
  clear hK K
  refine To 3 rfl fun K hK=>?_
  go_simp
  refine Kz hK ?_
  clear hK K
  refine Wd ?_
  clear hHeld hHx hG3 hi3 hb4;have d0:=hB2.cell 0 rfl;have d3:=hB2.cell 3 rfl
  cases hq2:sameB key (intP 2) with
  | true =>
   have E:=Hh (valueP_2 (v:=v) (m:=m.items) HQ1.out hq2);clear hq2
   by_cases h4:v.kind=4
   case neg =>
    have EE:Hid (valueP key v m.items=false):=by rw[Hid,E.out];simp[h4]
    have b4:(v.kind != 4)=true:=by simp[h4]
    have p4:(v.kind=4)=False:=eq_false h4;clear h4;go_wp2_with fail
    go_ret
    exact⟨by rw[EE.out];rfl,hb⟩
   have b4:(v.kind != 4)=false:=by simp[h4]
   have p4:(v.kind=4)=True:=eq_true h4;have e4:(v.kind==4)=true:=by simp[h4]
   by_cases h0:v.items.length=0
   case pos =>
    have EE:Hid (valueP key v m.items=false):=by rw[Hid,E.out];simp[h0]
    have b0:((v.items.length:Int)==0)=true:=by rw[beq_iff_eq];omega
    have p0:(v.items=[])=True:=eq_true (List.length_eq_zero_iff.1 h0);clear h0 h4 e4;go_wp2_with fail
    go_ret
    exact⟨by rw[EE.out];rfl,hb⟩
   have b0:((v.items.length:Int)==0)=false:=by rw[beq_eq_false_iff_ne];omega
   have p0:(v.items=[])=False:=eq_false (fun h=>h0 (by rw[h];rfl));have EE:Hid (valueP key v m.items=v.items.all fun x=>(atL x m.items).isSome):=by rw[Hid,E.out,e4,decide_eq_true (by omega)];simp
   clear h4 e4 h0 E;go_wp2_with fail
   go_loopw [51] (fun v51 wr=>∃ j:Nat,j≤v.items.length∧v51=.int .i64 j∧((v.items.drop j).all fun x=>(atL x m.items).isSome)=(v.items.all fun x=>(atL x m.items).isSome)∧Below w.heap.size w wr∧Blk wr (w.heap.size+1+1) 26 #[.int .i64 m.kind,.int .u64 m.n,.slice c.ba m.bytes.length c.bc,.slice c.ia m.items.length c.ic]) (fun v51 _=>v.items.length-(intOf v51).toNat)
   case atStart=>exact⟨0,Nat.zero_le _,rfl,rfl,hb,hB3⟩
   case round =>
    obtain⟨j,hj,rfl,hs,hbr,hD3⟩:=hrel;have HS:=Hh hs;clear hs d0 d3
    by_cases hlt:j<v.items.length
    ·have hHr:Holds wr H:=hH.below hbr (Nat.le_refl _);obtain⟨ib,io,hia,hel⟩:=HV.out.items (by omega);obtain⟨y1,y2,y3,y4,q0,q1,q2,q3,hex⟩:=hel.get j hlt;have hvia:b.ia=some ⟨ib,io,none⟩:=hia;have p0':=hHr.cell q0;have p1':=hHr.cell q1;have p2':=hHr.cell q2;have p3':=hHr.cell q3;have hst:Hid (((v.items.drop j).all fun x=>(atL x m.items).isSome)=((atL v.items[j] m.items).isSome&&(v.items.drop (j+1)).all fun x=>(atL x m.items).isSome)):=by rw[Hid,List.drop_eq_getElem_cons hlt,List.all_cons]
     have IH:=Hh (fun w1:World=>fun h1:Holds w1 H=>ref_at HMM.out (HMV.out.parts.2.2.get j hlt) HM.out.arg hex.arg w1 h1)
     generalize v.items[j]'hlt=u at *
     have hHz:=hHr.alloc (itemO u y1 y2 y3 y4);have hbz:=hbr.alloc hbr.size (itemO u y1 y2 y3 y4);have hDz:=hD3.alloc (itemO u y1 y2 y3 y4);have f0:=hDz.cell 0 rfl;have f1:=hDz.cell 1 rfl;have f2:=hDz.cell 2 rfl;have f3:=hDz.cell 3 rfl;clear hel hex q0 q1 q2 q3 hia;rw[hvia];go_wp2_with fail
     refine(IH.out _ hHz).mono ?_
     rintro e w6 ⟨⟨ra,rb,rc,rd,rfl,_⟩,hb6⟩
     have hb7:=hbz.trans (hb6.mono hbz.size);have hD6:=hDz.below hb6
     generalize hg:atL u m.items=o at *
     clear hbz hDz hHz f0 f1 f2 f3 hb6
     cases o with
     | none =>
      have EN:Hid (valueP key v m.items=false):=by rw[Hid,EE.out,← HS.out,hst.out];rfl
      have hb8:=hb7.alloc hb7.size (itemO ((none:Option Itm).getD zeroItm) ra rb rc rd);clear hg;go_wp2_with fail
      go_ret
      exact⟨by rw[EN.out];rfl,hb8⟩
     | some y =>
      have EN:Hid (((v.items.drop (j+1)).all fun x=>(atL x m.items).isSome)=(v.items.all fun x=>(atL x m.items).isSome)):=by rw[Hid,← HS.out,hst.out];rfl
      have hb8:=hb7.alloc hb7.size (itemO ((some y:Option Itm).getD zeroItm) ra rb rc rd);have hD8:=hD6.alloc (itemO ((some y:Option Itm).getD zeroItm) ra rb rc rd);clear hg;go_wp2_with fail
      go_roundw
      case rel=>exact⟨j+1,by omega,by go_num,EN.out,hb8,hD8⟩
      case measure=>simp[intOf];omega
    ·have hjl:j=v.items.length:=by omega
     subst hjl;have EN:Hid (valueP key v m.items=true):=by rw[Hid,EE.out,← HS.out,List.drop_length];rfl
     go_wp2_with fail
     go_ret
     exact⟨by rw[EN.out];rfl,hbr⟩
  | false =>
   have E:=Hh (valueP_3 (v:=v) (m:=m.items) HQ1.out hq2);clear hq2 d0 d3;have hI:=Blk.new w4 3 #[.int .i64 4,.int .i64 5,.int .i64 6,.int .i64 12];have hB1:=hB1.alloc (.cells #[.int .i64 4,.int .i64 5,.int .i64 6,.int .i64 12] 3);have hB2:=hB2.alloc (.cells #[.int .i64 4,.int .i64 5,.int .i64 6,.int .i64 12] 3);have hb:=hb.alloc hb.size (.cells #[.int .i64 4,.int .i64 5,.int .i64 6,.int .i64 12] 3);go_wp2_with fail
   go_loopw [66] (fun v66 wr=>∃ j:Nat,j≤4∧v66=.int .i64 j∧((nums4.drop j).any fun n=>sameB key (intP n))=(nums4.any fun n=>sameB key (intP n))∧Below w.heap.size w wr∧Blk wr w.heap.size 26 #[.int .i64 key.kind,.int .u64 key.n,.slice a.ba key.bytes.length a.bc,.slice a.ia key.items.length a.ic]∧
    Blk wr (w.heap.size+1) 26 #[.int .i64 v.kind,.int .u64 v.n,.slice b.ba v.bytes.length b.bc,.slice b.ia v.items.length b.ic]∧Blk wr w4.heap.size 3 #[.int .i64 4,.int .i64 5,.int .i64 6,.int .i64 12]) (fun v66 _=>4-(intOf v66).toNat)
   case atStart=>exact⟨0,by omega,rfl,rfl,hb,hB1,hB2,hI⟩
   case round =>
    obtain⟨j,hj,rfl,hs,hbr,hC1,hC2,hCi⟩:=hrel;have HS:=Hh hs;clear hs
    by_cases hlt:j<4
    ·have hnv:∃ nv:Int,wr.cell? ⟨w4.heap.size,j,none⟩=some (.int .i64 nv)∧nums4.drop j=nv::nums4.drop (j+1)∧0≤nv∧nv≤12:=by
      rcases(by omega:j=0∨j=1∨j=2∨j=3) with rfl | rfl | rfl | rfl
      ·exact⟨4,hCi.cell 0 rfl,rfl,by omega,by omega⟩
      ·exact⟨5,hCi.cell 1 rfl,rfl,by omega,by omega⟩
      ·exact⟨6,hCi.cell 2 rfl,rfl,by omega,by omega⟩
      ·exact⟨12,hCi.cell 3 rfl,rfl,by omega,by omega⟩
     obtain⟨nv,hcell,hdrop,hn1,hn2⟩:=hnv;have hst:Hid (((nums4.drop j).any fun n=>sameB key (intP n))=(sameB key (intP nv)||(nums4.drop (j+1)).any fun n=>sameB key (intP n))):=by rw[Hid,hdrop,List.any_cons]
     have hHz:Holds wr.drew H:=(hH.below hbr (Nat.le_refl _)).drew;have hD1:=hC1.drew;have hD2:=hC2.drew;have hDi:=hCi.drew;have hbz:=hbr.drew;clear hdrop;go_upto_region 17 with fail
     refine wp_region_ways 3 (fun w'=>w'.cell? ⟨w.heap.size,0,none⟩=some (.int .i64 key.kind)∧w'.cell? ⟨w.heap.size,1,none⟩=some (.int .u64 key.n)∧w'.cell? ⟨w.heap.size,2,none⟩=some (.slice a.ba key.bytes.length a.bc)∧w'.cell? ⟨w.heap.size,3,none⟩=some (.slice a.ia key.items.length a.ic)) (by kernel_rfl) (⟨hD1.cell 0 rfl,hD1.cell 1 rfl,hD1.cell 2 rfl,hD1.cell 3 rfl⟩) (fun hHeld=>?_)
     refine Tk 0 rfl hHeld ?_
     refine Tk 1 rfl hHeld ?_
     refine To 2 rfl fun K hK=>?_
     go_simp
     refine(IS.out nv (by omega) (by omega) _ hHz).mono ?_
     rintro e w5 ⟨v5,rfl,hv5⟩
     have hD1:=hD1.below hv5.below;have hD2:=hD2.below hv5.below;have hDi:=hDi.below hv5.below;have hbz:=hbz.trans (hv5.below.mono hbz.size);obtain⟨za,zb,zc,zd,H5,rfl,hG5,hi5⟩:=hv5
     refine Ko hK ?_ fun hHeld=>?_
     ·exact⟨hD1.cell 0 rfl,hD1.cell 1 rfl,hD1.cell 2 rfl,hD1.cell 3 rfl⟩
     clear hK K
     refine To 3 rfl fun K hK=>?_
     go_simp
     refine(ref_Same key (intP nv) H5 _ _ a.ba _ a.bc a.ia _ a.ic _ _ za _ zb zc _ zd _ HMK.out (modest_int nv) (HK.out.mono hG5.le).arg hi5.arg hG5.holds).mono ?_
     rintro e w6 ⟨rfl,hb6⟩
     have hD1:=hD1.below hb6;have hD2:=hD2.below hb6;have hDi:=hDi.below hb6;have hbz:=hbz.trans (hb6.mono hbz.size)
     refine Kz hK ?_
     clear hK K
     refine Wd ?_
     have d0:=hD2.cell 0 rfl;clear hHeld hHz hG5 hi5 hb6 hcell hC1 hC2 hCi hbr
     cases hq:sameB key (intP nv) with
     | true =>
      have EN:Hid (valueP key v m.items=(v.kind==2)):=by rw[Hid,E.out,← HS.out,hst.out,hq];rfl
      clear hq;go_wp2_with fail
      go_ret
      exact⟨by rw[EN.out];rfl,hbz⟩
     | false =>
      have EN:Hid (((nums4.drop (j+1)).any fun n=>sameB key (intP n))=(nums4.any fun n=>sameB key (intP n))):=by rw[Hid,← HS.out,hst.out,hq];rfl
      clear hq;go_wp2_with fail
      go_roundw
      case rel=>exact⟨j+1,by omega,by go_num,EN.out,hbz,hD1,hD2,hDi⟩
      case measure=>simp[intOf];omega
    ·have hj4:j=4:=by omega
     subst hj4;have EN:Hid (valueP key v m.items=true):=by rw[Hid,E.out,← HS.out];rfl
     go_wp2_with fail
     go_ret
     exact⟨by rw[EN.out];rfl,hbr⟩
end Go.Proofs.YtgcjjhibdbafmaaGreatDoor
