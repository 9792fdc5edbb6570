/- squeezed. Walks: opening; the program's and  -/
import Derived.Test.YtkmlnjociijpgaaGreatDoorK38
set_option linter.unusedVariables false
set_option linter.unusedSimpArgs false
set_option maxRecDepth 100000
set_option maxHeartbeats 25600000
namespace Go.Proofs.YtkmlnjociijpgaaGreatDoor
open Go.RowKit
theorem jcD{P:Prop}(h:P:=by
 refine Wd ?_
 clear zy;go_wp2_with fail
 go_ret2
 exact⟨_,by rw[O3.out];rfl,by rw[O3.out];exact I3.out.1,I3.out.2⟩):P:=h
theorem jdh{P:Prop}(h:P:=by
 rw[ue,if_neg h,if_neg (by rw[← hl,← ht];exact g)]
 cases xz msg <;> rfl):P:=h
theorem jdQ{P:Prop}(h:P:=by
 rw[hd]at hs O3;obtain⟨rfl,zD⟩:=hs;have sz:((q:Int) != 0)=true:=by rw[bne_iff_ne];have:=ot hd;omega
 have oD:((q:Int)=0)=False:=eq_false (by have:=ot hd;omega);have wY:=Blk.new w2 77 #[.int .i64 0,.int .u64 0,.slice none 0 0,.slice none 0 0];have yR:=zD.alloc zD.size zf;have Ll:=Hh zD.size;clear hd zD;go_wp2_with (with_reducible refine zx ?_)
 refine stI wY fun w4 uq hg4=>?_
 have xE:=zp yR hg4 (by rintro q ⟨⟩;exact Ll.out);have R:=qD.out _ O3.out _ xE;clear wY yR uq hg4 xE;exact jaV):P:=h
theorem jem{P:Prop}(h:P:=by
 have c2a:(kd != 2)=true:=by rw[bne_iff_ne];exact c2
 have c2b:(kd=2)=False:=eq_false c2;have R:=qD.out 4 (by rw[O3.out,if_pos c2]) _ xK.below;clear c2 uq xK;exact jaV):P:=h
theorem jet{P:Prop}(h:P:=by rw[if_pos (by rw[hE];decide)]at O3;have R:=qD.out 1 O3.out _ (V7.out.below.trans (hb.mono V7.out.below.size));clear hb hE V7 OY;exact jaV):P:=h
theorem je8{P:Prop}(h:P:=by
 have i1:(619:Int)<(nl:Int):=by omega
 have d1:decide ((619:Int)<(nl:Int))=true:=decide_eq_true i1;exact jed):P:=h
theorem Jo {H:Snap}(hTab:Tabs H) (suite label:Int) {PA:Option Addr}{np pc:Nat}{prk:List UInt8}(hp:np=prk.length) (lV:prk.length≤1099511627) {TA:Option Addr}{nt tc:Nat}{th:List UInt8}(ht:nt=th.length) {LA:Option Addr}{nl lc:Nat}{msg:List UInt8}(hl:nl=msg.length) (w:World) (hH:Holds w H) (h1:IsBytes H PA pc prk) (h2:IsBytes H TA tc th) (h3:IsBytes H LA lc msg) :
  Calls Tryz.prog 18 #[.int .i64 suite,.slice PA np pc,.int .i64 label,.slice TA nt tc,.slice LA nl lc] w (ww w (ue suite prk label th msg)):=by
 have MS:=Hh (mV suite w);have oO:=Hh (rC suite)
 have NO:∀ c:Int,ue suite prk label th msg=(c,[])→∀ w',Below w.heap.size w w'→Hid (ww w (ue suite prk label th msg) (.returned (.tuple #[.slice none 0 0,.int .i64 c])) w'):=fun c h w' hb=>by
  exact jcr
 have O1:yI suite=0→ue suite prk label th msg=(31,[]):=fun h=>by rw[ue,if_pos h]
 have O2:yI suite≠0→619<nl∨600<nt→ue suite prk label th msg=(8,[]):=fun h g=>by rw[ue,if_neg h,if_pos (by rw[← hl,← ht];exact g)]
 have O3:yI suite≠0→¬ (619<nl∨600<nt)→ue suite prk label th msg=match xz msg with
  | .error q=>((q:Int),[])
  | .ok x=>if x.kind≠2 then(4,[]) else if tz label≠0 then(1,[]) else wG (tD prk label th) (ivM prk label th) (vL th) x.bytes (yI suite):=fun h g=>by
  exact jdh
 have HO:=Hh (And.intro O1 (And.intro O2 O3));obtain⟨qD,HN,HD,HH⟩:=jfL;have DC:=Hh (Ye hTab w hH hl h3);obtain⟨m,hm⟩:∃ m,yI suite=m:=⟨_,rfl⟩
 rw[hm]at MS oO HO;clear O1 O2 O3 NO hp ht hl lV h1 h2 h3 hH hm hTab;go_enter Tryz.func18,Tryz.ntmps18
 go_wp2_with fail
 refine MS.out.mono ?_
 rintro e w1 ⟨rfl,tv⟩
 obtain rfl:w=w1:=tv.symm;clear MS
 by_cases h0:m=0
 ·exact jej
 have n0:((m:Int)==0)=false:=by rw[beq_eq_false_iff_ne];omega
 have n1:=jhf;have N0:=Hh h0;clear h0
 by_cases h1:619<nl
 ·exact je8
 have i1:¬ (619:Int)<(nl:Int):=by omega
 have d1:decide ((619:Int)<(nl:Int))=false:=decide_eq_false i1
 by_cases h2:600<nt
 ·exact jaL
 have i2:¬ (600:Int)<(nt:Int):=by omega
 have d2:=jgq;have HL:Hid (¬ (619<nl∨600<nt)):=by rw[Hid];omega
 clear h1 h2;have O3:=Hh (HO.out.2.2 N0.out HL.out);go_wp2_with fail
 refine DC.out.mono ?_
 intro e w2 hs
 unfold wV at hs
 clear DC
 cases hd:xz msg with
 | error q =>
  exact jdQ
 | ok x =>
 rw[hd]at hs O3;obtain⟨ja,jb,jc,jd,H2,rfl,xq,fE⟩:=hs;replace O3:Hid (ue suite prk label th msg=if x.kind≠2 then(4,[]) else if tz label≠0 then(1,[]) else wG (tD prk label th) (ivM prk label th) (vL th) x.bytes m):=O3;have wY:=jfq;have mu:H2 w2.heap.size=none:=xq.holds.none_of_ge (Nat.le_refl _);have yA:=xq.alloc zf;have Ll:=Hh xq.below.size;have P4:=Hh fE.bytes;obtain⟨bl,vV⟩:∃ bl,x.bytes.length=bl:=⟨_,rfl⟩
 have qR:=Hh vV;clear hd;go_wp2_with (with_reducible refine zx ?_)
 refine stI wY fun w4 uq hg4=>?_
 have xK:=yA.grownOwn mu Ll.out hg4;rw[vV]at uq;obtain⟨kd,ru⟩:∃ kd,x.kind=kd:=⟨_,rfl⟩
 rw[ru]at uq O3;obtain⟨N,hN⟩:∃ N,w2.heap.size=N:=⟨_,rfl⟩
 rw[hN]at uq⊢;have b0:=uq.cell 0 rfl;clear wY hg4 vV ru yA fE mu hN
 by_cases c2:kd=2
 case neg =>
  exact jem
 subst c2;rw[if_neg (by decide)]at O3;have KV:=Hh (jY (c:=pc) HN.out.1 HN.out.2.2.2 (d:=tc) HN.out.2.1 (by have:=HN.out.2.1;have:=HL.out;omega) label w4 xK.holds (HD.out.1.mono xK.le) (HD.out.2.1.mono xK.le));have V7:=Hh xK;have OY:=Hh uq;clear xK uq;go_wp2_with fail
 refine KV.out.mono ?_
 intro e w5 hk
 clear KV b0
 rcases hk with ⟨hE,KA,kc,NA,nc,H5,rfl,xx,jF,ql⟩ | ⟨hE,rfl,hb⟩
 ·have HG:=Hh (V7.out.trans xx);have HK:=Hh (And.intro jF ql);have HX:=Hh (OY.out.below xx.below);have Oz:=Hh (P4.out.mono xx.le);rw[if_neg (by rw[hE];decide)]at O3;clear xx jF ql hE OY P4
  have AD:Hid (∀ (W:World) (HH':Snap),Holds W HH'→H5.le HH'→Calls Tryz.prog 48 #[.slice TA nt tc] W fun e w'=>∃ r,e=.returned r∧Fresh W (vL th) r w'):=fun W HH' hW mN =>
   MO (tc:=tc) HN.out.2.1 (by have:=HN.out.2.1;have:=HL.out;omega) W (Src.of_row ((HD.out.2.1.mono HG.out.le).mono mN).row hW)
  have OP:Hid (∀ (W:World) (HH':Snap) (AA:Option Addr) (na ac:Nat),Holds W HH'→H5.le HH'→IsBytes HH' AA ac (vL th)→na=(vL th).length→Calls Tryz.prog 53 #[.slice KA 16 kc,.slice NA 13 nc,.slice AA na ac,.slice ja bl jb,.int .i64 (m:Int)] W (ww W (wG (tD prk label th) (ivM prk label th) (vL th) x.bytes m))):=fun W HH' AA na ac hW mN ie im =>
   Pd (kn:=16) (kc:=kc) (qy prk label th).symm (by have:=HK.out.1.le;rw[qy]at this;exact this) (nn:=13) (nc:=nc) (lE prk label th).symm (an:=na) (ac:=ac) im (by have:=ie.le;omega) qR.out.symm (by have:=Oz.out.le;have:=qR.out;omega) Oz.out.max m oO.out W
    (Src.of_row (HK.out.1.mono mN).row hW) (Src.of_row (HK.out.2.mono mN).row hW) (Src.of_row ie.row hW) (Src.of_row (Oz.out.mono mN).row hW)
  have HB:=Hh HG.out.below;have hX:=HX.out.drew;have hG:=HG.out.drew;clear HX HG V7;go_upto_region 14 with fail
  refine zr 12 (fun wx=>wx.cell? ⟨N,2,none⟩=some (.slice ja bl jb)) (by kernel_rfl) (hX.cell 2 rfl) (fun zy=>?_)
  refine TkS 0 rfl zy ?_
  refine TkS 1 rfl zy ?_
  refine TkS 2 rfl zy ?_
  refine TkS 4 rfl zy ?_
  refine TkS 5 rfl zy ?_
  refine TkS 6 rfl zy ?_
  refine To 3 rfl fun K hK=>?_
  go_simp
  refine(AD.out _ _ hG.holds (Snap.le.refl _)).mono ?_
  rintro e w6 ⟨r6,rfl,vF⟩
  obtain⟨AA,ac,rfl,wv⟩:=vF.own.form;replace hX:=hX.below vF.2;obtain⟨H6,y8,ie,fH⟩:=Fresh.snapB hG.holds vF;obtain⟨na,im⟩:∃ n,(vL th).length=n:=⟨_,rfl⟩
  rw[im];have qQ:=Hh (And.intro ie (And.intro im y8.le));replace hG:=hG.trans y8;clear vF wv fH y8 ie im
  refine Ko hK ?_ fun zy=>?_
  ·exact hX.cell 2 rfl
  clear hK K
  refine To 7 rfl fun K hK=>?_
  go_simp
  have ai:=Hh hG.below
  refine(OP.out _ _ AA na ac hG.holds qQ.out.2.2 qQ.out.1 qQ.out.2.1.symm).mono ?_
  rintro e w8 ⟨v8,rfl,EY,uk⟩
  have I3:Hid (OwnB w8 w.heap.size v8 (wG (tD prk label th) (ivM prk label th) (vL th) x.bytes m).2∧Below w.heap.size w w8):=⟨OwnB.more EY ai.out.size,ai.out.trans (uk.mono ai.out.size)⟩
  replace hX:=hX.below uk
  refine Ko hK ?_ fun zy=>?_
  ·exact hX.cell 2 rfl
  clear hK K
  refine TkS 8 rfl zy ?_
  refine TkS 9 rfl zy ?_
  refine TkS 10 rfl zy ?_
  refine TkS 11 rfl zy ?_
  exact jcD
 exact jet
theorem XP {H:Snap}(hTab:Tabs H) (suite label:Int) {PA:Option Addr}{np pc:Nat}{prk:List UInt8}(hp:np=prk.length) (lV:prk.length≤1099511627) {TA:Option Addr}{nt tc:Nat}{th:List UInt8}(ht:nt=th.length) {LA:Option Addr}{nl lc:Nat}{msg:List UInt8}(hl:nl=msg.length) (w:World) (hH:Holds w H) (h1:IsBytes H PA pc prk) (h2:IsBytes H TA tc th) (h3:IsBytes H LA lc msg) :
  Calls Tryz.prog 19 #[.int .i64 suite,.slice PA np pc,.int .i64 label,.slice TA nt tc,.slice LA nl lc] w (ww w (ue suite prk label th msg)):=by
 have MS:=Hh (dh suite w);have oO:=Hh (rC suite)
 have NO:∀ c:Int,ue suite prk label th msg=(c,[])→∀ w',Below w.heap.size w w'→Hid (ww w (ue suite prk label th msg) (.returned (.tuple #[.slice none 0 0,.int .i64 c])) w'):=fun c h w' hb=>by
  exact jcr
 have O1:yI suite=0→ue suite prk label th msg=(31,[]):=fun h=>by rw[ue,if_pos h]
 have O2:yI suite≠0→619<nl∨600<nt→ue suite prk label th msg=(8,[]):=fun h g=>by rw[ue,if_neg h,if_pos (by rw[← hl,← ht];exact g)]
 have O3:yI suite≠0→¬ (619<nl∨600<nt)→ue suite prk label th msg=match xz msg with
  | .error q=>((q:Int),[])
  | .ok x=>if x.kind≠2 then(4,[]) else if tz label≠0 then(1,[]) else wG (tD prk label th) (ivM prk label th) (vL th) x.bytes (yI suite):=fun h g=>by
  exact jdh
 have HO:=Hh (And.intro O1 (And.intro O2 O3));obtain⟨qD,HN,HD,HH⟩:=jfL;have DC:=Hh (XR hTab w hH hl h3);obtain⟨m,hm⟩:∃ m,yI suite=m:=⟨_,rfl⟩
 rw[hm]at MS oO HO;clear O1 O2 O3 NO hp ht hl lV h1 h2 h3 hH hm hTab;go_enter Tryz.func19,Tryz.ntmps19
 go_wp2_with fail
 refine MS.out.mono ?_
 rintro e w1 ⟨rfl,tv⟩
 obtain rfl:w=w1:=tv.symm;clear MS
 by_cases h0:m=0
 ·exact jej
 have n0:((m:Int)==0)=false:=by rw[beq_eq_false_iff_ne];omega
 have n1:=jhf;have N0:=Hh h0;clear h0
 by_cases h1:619<nl
 ·exact je8
 have i1:¬ (619:Int)<(nl:Int):=by omega
 have d1:decide ((619:Int)<(nl:Int))=false:=decide_eq_false i1
 by_cases h2:600<nt
 ·exact jaL
 have i2:¬ (600:Int)<(nt:Int):=by omega
 have d2:=jgq;have HL:Hid (¬ (619<nl∨600<nt)):=by rw[Hid];omega
 clear h1 h2;have O3:=Hh (HO.out.2.2 N0.out HL.out);go_wp2_with fail
 refine DC.out.mono ?_
 intro e w2 hs
 unfold wV at hs
 clear DC
 cases hd:xz msg with
 | error q =>
  exact jdQ
 | ok x =>
 rw[hd]at hs O3;obtain⟨ja,jb,jc,jd,H2,rfl,xq,fE⟩:=hs;replace O3:Hid (ue suite prk label th msg=if x.kind≠2 then(4,[]) else if tz label≠0 then(1,[]) else wG (tD prk label th) (ivM prk label th) (vL th) x.bytes m):=O3;have wY:=jfq;have mu:H2 w2.heap.size=none:=xq.holds.none_of_ge (Nat.le_refl _);have yA:=xq.alloc zf;have Ll:=Hh xq.below.size;have P4:=Hh fE.bytes;obtain⟨bl,vV⟩:∃ bl,x.bytes.length=bl:=⟨_,rfl⟩
 have qR:=Hh vV;clear hd;go_wp2_with (with_reducible refine zx ?_)
 refine stI wY fun w4 uq hg4=>?_
 have xK:=yA.grownOwn mu Ll.out hg4;rw[vV]at uq;obtain⟨kd,ru⟩:∃ kd,x.kind=kd:=⟨_,rfl⟩
 rw[ru]at uq O3;obtain⟨N,hN⟩:∃ N,w2.heap.size=N:=⟨_,rfl⟩
 rw[hN]at uq⊢;have b0:=uq.cell 0 rfl;clear wY hg4 vV ru yA fE mu hN
 by_cases c2:kd=2
 case neg =>
  exact jem
 subst c2;rw[if_neg (by decide)]at O3;have KV:=Hh (jR (c:=pc) HN.out.1 HN.out.2.2.2 (d:=tc) HN.out.2.1 (by have:=HN.out.2.1;have:=HL.out;omega) label w4 xK.holds (HD.out.1.mono xK.le) (HD.out.2.1.mono xK.le));have V7:=Hh xK;have OY:=Hh uq;clear xK uq;go_wp2_with fail
 refine KV.out.mono ?_
 intro e w5 hk
 clear KV b0
 rcases hk with ⟨hE,KA,kc,NA,nc,H5,rfl,xx,jF,ql⟩ | ⟨hE,rfl,hb⟩
 ·have HG:=Hh (V7.out.trans xx);have HK:=Hh (And.intro jF ql);have HX:=Hh (OY.out.below xx.below);have Oz:=Hh (P4.out.mono xx.le);rw[if_neg (by rw[hE];decide)]at O3;clear xx jF ql hE OY P4
  have AD:Hid (∀ (W:World) (HH':Snap),Holds W HH'→H5.le HH'→Calls Tryz.prog 42 #[.string kJ,.slice (some ⟨W.heap.size,0,none⟩) 2 2] (W.alloc (.cells #[.slice none 0 0,.slice TA nt tc] 22)) fun e w'=>∃ r,e=.returned r∧Fresh (W.alloc (.cells #[.slice none 0 0,.slice TA nt tc] 22)) (vL th) r w'):=fun W HH' hW mN=>by
   rw[dA]
   exact nk kJ (by show(8:Nat)≤_;omega) (by decide +kernel) (n:=2) (c:=2) rfl (by simp) (fun x hx=>by
    simp only[List.mem_cons,List.not_mem_nil,or_false]at hx
    have h1:=HN.out.2.1;have h2:=HL.out
    rcases hx with rfl | rfl
    ·simp
    omega) _ (hW.alloc _) (SrcR.lit2 (A1:=none) (n1:=0) (c1:=0) (l1:=[]) (n2:=nt) (c2:=tc) W 22 rfl HN.out.2.1 (Src.nil _ _) (Src.of_row ((HD.out.2.1.mono HG.out.le).mono mN).row hW))
  have OP:Hid (∀ (W:World) (HH':Snap) (AA:Option Addr) (na ac:Nat),Holds W HH'→H5.le HH'→IsBytes HH' AA ac (vL th)→na=(vL th).length→Calls Tryz.prog 55 #[.slice KA 16 kc,.slice NA 13 nc,.slice AA na ac,.slice ja bl jb,.int .i64 (m:Int)] W (ww W (wG (tD prk label th) (ivM prk label th) (vL th) x.bytes m))):=fun W HH' AA na ac hW mN ie im =>
   XN (kn:=16) (kc:=kc) (qy prk label th).symm (nn:=13) (nc:=nc) (lE prk label th).symm (an:=na) (ac:=ac) im qR.out.symm (by have:=Oz.out.le;have:=qR.out;omega) m oO.out W
    (Src.of_row (HK.out.1.mono mN).row hW) (Src.of_row (HK.out.2.mono mN).row hW) (Src.of_row ie.row hW) (Src.of_row (Oz.out.mono mN).row hW)
  have HB:=Hh HG.out.below;have hX:=HX.out.drew;have hG:=HG.out.drew;clear HX HG V7;go_upto_region 14 with fail
  refine zr 13 (fun wx=>wx.cell? ⟨N,2,none⟩=some (.slice ja bl jb)) (by kernel_rfl) (hX.cell 2 rfl) (fun zy=>?_)
  refine TkS 0 rfl zy ?_
  refine TkS 1 rfl zy ?_
  refine TkS 2 rfl zy ?_
  refine TkS 5 rfl zy ?_
  refine TkS 6 rfl zy ?_
  refine TkS 7 rfl zy ?_
  refine To 3 rfl fun K hK=>?_
  go_simp
  have HAD:=Hh (AD.out _ _ hG.holds (Snap.le.refl _));replace hX:=hX.alloc (.cells #[.slice none 0 0,.slice TA nt tc] 22);replace hG:=hG.alloc (.cells #[.slice none 0 0,.slice TA nt tc] 22)
  refine Ko hK ?_ fun zy=>?_
  ·exact hX.cell 2 rfl
  clear hK K
  refine To 4 rfl fun K hK=>?_
  go_simp
  refine HAD.out.mono ?_
  rintro e w6 ⟨r6,rfl,vF⟩
  obtain⟨AA,ac,rfl,wv⟩:=vF.own.form;replace hX:=hX.below vF.2;obtain⟨H6,y8,ie,fH⟩:=Fresh.snapB hG.holds vF;obtain⟨na,im⟩:∃ n,(vL th).length=n:=⟨_,rfl⟩
  rw[im];have qQ:=Hh (And.intro ie (And.intro im y8.le));replace hG:=hG.trans y8;clear vF wv fH y8 ie im
  refine Ko hK ?_ fun zy=>?_
  ·exact hX.cell 2 rfl
  clear hK K
  refine To 8 rfl fun K hK=>?_
  go_simp
  have ai:=Hh hG.below
  refine(OP.out _ _ AA na ac hG.holds qQ.out.2.2 qQ.out.1 qQ.out.2.1.symm).mono ?_
  rintro e w8 ⟨v8,rfl,EY,uk⟩
  have I3:Hid (OwnB w8 w.heap.size v8 (wG (tD prk label th) (ivM prk label th) (vL th) x.bytes m).2∧Below w.heap.size w w8):=⟨OwnB.more EY ai.out.size,ai.out.trans (uk.mono ai.out.size)⟩
  replace hX:=hX.below uk
  refine Ko hK ?_ fun zy=>?_
  ·exact hX.cell 2 rfl
  clear hK K
  refine TkS 9 rfl zy ?_
  refine TkS 10 rfl zy ?_
  refine TkS 11 rfl zy ?_
  refine TkS 12 rfl zy ?_
  exact jcD
 exact jet
theorem Ways.three {P:Program}{ops:Array Oper}{Q:Exit→Act→World→Prop}{md:Region.Mode}{S:World→Prop}{z:Nat}{i j l:Nat}{o o' o2:Oper}{n:Nat}{L:Array Bool}{a:Act}{w:World}(hi:ops[i]? = some o) (hj:ops[j]? = some o') (hl:ops[l]? = some o2) (hr:Region.ready md ops L=[i,j,l])
  (h:∀ K:Act→World→Prop,Shut (∀ a w,(i≠z→S w)→((i≠z→S w)→Ways P md ops Q S z n (L.setIfInBounds i true) a w)→K a w)→
   if Region.wanted o (yielded ops a.tmps)=true then Oper.wp P o a w K Q else K (a.put o.dst undef) w)
  (h':∀ K:Act→World→Prop,Shut (∀ a w,(j≠z→S w)→((j≠z→S w)→Ways P md ops Q S z n (L.setIfInBounds j true) a w)→K a w)→
   if Region.wanted o' (yielded ops a.tmps)=true then Oper.wp P o' a w K Q else K (a.put o'.dst undef) w)
  (h2:∀ K:Act→World→Prop,Shut (∀ a w,(l≠z→S w)→((l≠z→S w)→Ways P md ops Q S z n (L.setIfInBounds l true) a w)→K a w)→
   if Region.wanted o2 (yielded ops a.tmps)=true then Oper.wp P o2 a w K Q else K (a.put o2.dst undef) w):Ways P md ops Q S z (n+1) L a w:=by
 refine⟨fun h0=>(by rw[hr]at h0;cases h0),fun k hk=>?_⟩
 rw[hr]at hk
 rcases(by simpa using hk:k=i∨k=j∨k=l) with hk | hk | hk
 ·subst hk
  exact jbQ
 ·exact jdc
 subst hk
 exact wpOp_step hl fun K hK=>h2 K fun a w hS hW=>hK a w ⟨hS,hW hS⟩
structure PE (H:Snap) where
 A:Option Addr
 cc:Nat
 key:List UInt8
 rest:List Value
 len:rest.length=8
 one:∀ u∈rest,u.oneCell'=true
 is:IsBytes H A cc key
instance (H:Snap):Inhabited (PE H):=⟨⟨none,0,[],List.replicate 8 (.bool false),by simp,by simp[Value.oneCell'],IsBytes.nil H⟩⟩
abbrev Ma:Array Value:=#[.int .i64 0,.int .i64 0,.int .i64 0,.slice none 0 0,.slice none 0 0,.slice none 0 0,.slice none 0 0]
structure KM (W0:World) (H:Snap) (g R K:Nat) (kc:Array Value) (w:World) (Hr:Snap):Prop where
 dealt:Dealt W0 H w Hr g
 res:Blk w R 130 Ma
 key:Blk w K 130 kc
 hR:Hr R=none
 hK:Hr K=none
 neRK:R≠K
 gW:g<W0.heap.size
 wR:W0.heap.size≤R
 wK:W0.heap.size≤K
section
variable {W0 w w':World} {H Hr Hs:Snap} {g R K:Nat} {kc kc':Array Value}
end
structure KN (W0:World) (H:Snap) (R K:Nat) (kc:Array Value) (w:World) (Hr:Snap):Prop where
 grows:Grows W0 H w Hr
 res:Blk w R 130 Ma
 key:Blk w K 130 kc
 hR:Hr R=none
 hK:Hr K=none
 neRK:R≠K
 wR:W0.heap.size≤R
 wK:W0.heap.size≤K
section
variable {W0 w w':World} {H Hr Hs:Snap} {R K:Nat} {kc kc':Array Value}
end
structure FR (W0:World) (H:Snap) (R K:Nat) (xc kc:Array Value) (w:World) (Hr:Snap):Prop where
 kn:KN W0 H R K kc w Hr
 box:Blk w W0.heap.size 77 xc
 nb:K≠W0.heap.size
section
variable {W0 w w':World} {H Hr Hs:Snap} {R K:Nat} {xc kc kc':Array Value}
end
abbrev Kf:Array Value:=#[.string ⟨#[]⟩,.string ⟨#[]⟩,.int .i64 0,.int .i64 0,.int .i64 0,.int .i64 0,.int .i64 0,.slice none 0 0,.slice none 0 0,.slice none 0 0,.slice none 0 0]
structure CS (W0:World) (H:Snap) (xc cc:Array Value) (w:World) (Hr:Snap):Prop where
 grows:Grows W0 H w Hr
 box:Blk w W0.heap.size 77 xc
 res:Blk w (W0.heap.size+1) 132 Kf
 var:Blk w (W0.heap.size+2) 132 cc
 hR:Hr (W0.heap.size+1)=none
 hV:Hr (W0.heap.size+2)=none
structure NB (W0:World) (Hr:Snap) (w:World) (g:Nat) (cells:Array Value):Prop where
 blk:Blk w g 77 cells
 none:Hr g=none
 far:W0.heap.size+3≤g
section
variable {W0 w w':World} {H Hr Hs:Snap} {xc cc cc' c c':Array Value} {g g':Nat}
end
def Jg (l:List (List UInt8)) (e:Ending):Prop:=∃ b,e=.returned (.bool b)∧(b=true→∀ x∈l,x.length≤900)
theorem Py {H:Snap}(w:World) (hH:Holds w H) {A:Option Addr}{n c:Nat}{l:List (List UInt8)}(hn:n=l.length) (hr:IsRow qB H A c l) :
  Calls Tryz.prog 6 #[.slice A n c] w fun e w'=>Jg l e∧w'=w:=by
 have HR:=Hh hr;have HH:=Hh hH;have HN:=Hh hn;have SM:=Hh (fun(A:Option Addr) (n c:Nat) (w:World)=>Tn A n c w);clear hr hH hn;go_enter Tryz.func6,Tryz.ntmps6
 go_wp2_with fail
 go_loopw [7] (fun v7 wr=>∃ k:Nat,k≤n∧v7=.int .i64 (k:Int)∧Hid (∀ i (h:i<l.length),i<k→l[i].length≤900)∧wr=w) (fun v7 _=>n-(intOf v7).toNat)
 case atStart=>exact⟨0,Nat.zero_le _,rfl,(fun i h h0=>absurd h0 (by omega)),rfl⟩
 case round =>
 obtain⟨k,hk,rfl,HF,rfl⟩:=hrel;have D0:=Hh hk;clear hk
 by_cases uh:k<n
 ·have SK:(k:Int)<(n:Int):=by omega
  obtain⟨b,off,rfl,lZ⟩:=HR.out.at_ (by have:=HN.out;omega);obtain⟨d,hd,hc⟩:=lZ k (by have:=HN.out;omega);obtain⟨YA,yc,rfl,iq⟩:=hd;obtain⟨x,hx⟩:∃ x,l[k]'(by have:=HN.out;omega)=x:=⟨_,rfl⟩
  rw[hx]at hc iq;have HLX:Hid (∀ h:k<l.length,l[k]=x):=fun _=>hx
  have q0:=HH.out.cell (hc 0 _ rfl);rw[show off+(k*qB.k+0)=off+k from by show off+(k*1+0)=_;omega]at q0;have HK:=Hh uh;have WZ:(n:Int)≤(c:Int):=by have:=HR.out.le;have:=HN.out;omega
  have Gq:(k:Int)+1≤9223372036854775807:=by have h1:=HR.out.le;have h2:=HR.out.max;have:=HN.out;omega
  clear uh lZ hc hx iq;go_wp2_with fail
  refine(SM.out _ _ _ _).mono ?_
  rintro e w4 ⟨⟨b',rfl,nZ⟩,rfl⟩
  have FB:=Hh nZ;clear nZ
  cases b' with
  | false =>
   go_wp2_with fail
   go_ret
   exact⟨⟨false,rfl,fun h=>by cases h⟩,rfl⟩
  | true =>
  go_wp2_with fail
  go_roundw
  case rel=>exact⟨k+1,HK.out,by go_num,(fun i h h1=>by
   by_cases Fe:i=k
   ·subst Fe;rw[HLX.out h]
    exact FB.out (by trivial)
   exact HF.out i h (by omega)),by trivial⟩
  case measure=>have:=HK.out;simp[intOf];omega
 have VP:¬ ((k:Int)<(n:Int)):=by omega
 have Gr:decide ((k:Int)<(n:Int))=false:=decide_eq_false VP;clear uh;go_wp2_with fail
 go_ret
 exact⟨⟨_,rfl,fun _ y hy=>by
  obtain⟨i,hi,rfl⟩:=List.getElem_of_mem hy
  exact HF.out i hi (by have:=HN.out;omega)⟩,rfl⟩
theorem dO {A B:Option Addr}{n m c d:Nat}{l:List UInt8}(q:Int) (hn:n=l.length) (hm:m=l.length) (hl:l.length≤1099511627776) (w:World) (ha:Src w A (l.map zu)) (hb:Src w B (l.map zu)) :
  Calls Tryz.prog 16 #[.slice A n c,.int .i64 q,.slice B m d,.int .i64 q] w fun e w'=>e=.returned (.bool true)∧Below w.heap.size w w':=by
 have EQ:=kC w A B l l n m c d hn hm (by omega) (by omega) ha hb;rw[decide_eq_true (rfl:l=l)]at EQ;have EQ':=Hh EQ;have k1:(q==q)=true:=beq_self_eq_true _;clear hn hm EQ ha hb hl;go_enter Tryz.func16,Tryz.ntmps16
 go_wp2_with fail
 refine EQ'.out.mono ?_
 rintro e w1 ⟨rfl,zY⟩
 go_wp2_with fail
 go_ret
 exact⟨rfl,zY⟩
theorem UF (suite:Int) (prk:List UInt8) (label:Int) (th plain:List UInt8):(vC suite prk label th plain).2.length≤700:=by
 unfold vC
 split
 ·simp
 split
 ·simp
 rename_i h
 split
 ·simp
 show(yL _).length≤700
 have h1:=uX (tj (tD prk label th) (ivM prk label th) (vL th) plain (yI suite));rw[kE _ _ _ _ (rC suite)]at h1;have h2:=rC suite
 omega
theorem Pb (key nonce cipher:List UInt8) (t:Nat):(tO key nonce cipher t).length≤cipher.length:=by
 rw[tO,vA,List.length_take]
 omega
theorem Ts (suite:Int) (prk:List UInt8) (label:Int) (th msg:List UInt8):(ue suite prk label th msg).2.length≤100000:=by
 unfold ue
 split
 ·simp
 split
 ·simp
 split
 ·simp
 split
 ·simp
 split
 ·simp
 unfold wG
 split
 ·simp
 split
 ·simp
 rename_i h
 split
 ·simp
 split
 ·simp
 have h1:=Pb (tD prk label th) (ivM prk label th) ‹Itm›.bytes (yI suite);have h2:=rC suite;show(tO _ _ _ _).length≤100000
 omega
theorem rV {w w':World}{H:Snap}{r:Int×List UInt8}{e:Ending}(hH:Holds w H) (h:ww w r e w') :
  ∃ A c H',e=.returned (.tuple #[.slice A r.2.length c,.int .i64 r.1])∧Grows w H w' H'∧IsBytes H' A c r.2:=by
 obtain⟨v,rfl,ho,hb⟩:=h;obtain⟨A,c,rfl,_⟩:=ho.form;obtain⟨H',hG,Ih,_⟩:=Fresh.snapB hH ⟨ho,hb⟩
 exact⟨A,c,H',rfl,hG,Ih⟩
theorem Qx {w wr:World}{t:TypeId}{a b:Int}(h:Below (w.alloc (.cells #[.int .i64 a,.int .i64 b] t)).heap.size (w.alloc (.cells #[.int .i64 a,.int .i64 b] t)) wr) {i:Nat}(hi:i<2) :
  ∃ v:Int,wr.cell? ⟨w.heap.size,i,none⟩=some (.int .i64 v):=by
 have hB:=(Blk.new w t #[.int .i64 a,.int .i64 b]).below h
 match i,hi with
 | 0,_=>exact⟨a,hB.cell 0 rfl⟩
 | 1,_=>exact⟨b,hB.cell 1 rfl⟩
theorem Yn {H:Snap}(hTab:Tabs H) {PA:Option Addr}{pc:Nat}{prk:List UInt8}(hp:IsBytes H PA pc prk) {TA:Option Addr}{tc:Nat}{th:List UInt8}(ht:IsBytes H TA tc th) {LA:Option Addr}{lc:Nat}{plain:List UInt8}(hl:IsBytes H LA lc plain) {IA:Option Addr}{ic:Nat}{id:List UInt8}(hi:IsBytes H IA ic id) {CA:Option Addr}{cc:Nat}{cred:List UInt8}(hc:IsBytes H CA cc cred)
  (suite label at_ by_:Int) (w:World) (hH:Holds w H) :
  Calls Tryz.prog 3 #[.slice PA prk.length pc,.slice TA th.length tc,.slice LA plain.length lc,.slice IA id.length ic,.slice CA cred.length cc,.int .i64 suite,.int .i64 label,.int .i64 at_,.int .i64 by_] w fun e w'=>e=.returned (.bool true)∧Below w.heap.size w w':=by
 have HT:=Hh hTab;have HD:=Hh (And.intro hp (And.intro ht (And.intro hl (And.intro hi hc))));have HH:=Hh hH;have AW:=Hh (fun(W:World) (h:Below w.heap.size w W)=>Th hTab W (hH.below h (Nat.le_refl _)));have MD:=Hh (fun(v:Int) (w:World)=>Xi v 2 (by omega) (by omega) w);obtain⟨H1,rs,Ss,Yb⟩:=be (L:=qB) (Grows.refl hH) (((((RowC.one (L:=qB) (H:=H) ⟨PA,pc,rfl,hp⟩).app (RowC.one (L:=qB) (H:=H) ⟨TA,tc,rfl,ht⟩)).app (RowC.one (L:=qB) (H:=H) ⟨LA,lc,rfl,hl⟩)).app (RowC.one (L:=qB) (H:=H) ⟨IA,ic,rfl,hi⟩)).app (RowC.one (L:=qB) (H:=H) ⟨CA,cc,rfl,hc⟩):RowC qB H [.slice PA prk.length pc,.slice TA th.length tc,.slice LA plain.length lc,.slice IA id.length ic,.slice CA cred.length cc] [prk,th,plain,id,cred]) 22 (by simp);replace Yb:IsRow qB H1 (some ⟨w.heap.size,0,none⟩) 5 [prk,th,plain,id,cred]:=Yb
 obtain⟨np,Fg⟩:∃ np,prk.length=np:=⟨_,rfl⟩
 obtain⟨nt,Fh⟩:∃ nt,th.length=nt:=⟨_,rfl⟩
 obtain⟨nl,rj⟩:∃ nl,plain.length=nl:=⟨_,rfl⟩
 obtain⟨ni,MB⟩:∃ ni,id.length=ni:=⟨_,rfl⟩
 obtain⟨nc,WZ⟩:∃ nc,cred.length=nc:=⟨_,rfl⟩
 have od:=Hh (And.intro Fg (And.intro Fh (And.intro rj (And.intro MB WZ))));have aN:Grows w H (w.alloc (.cells #[.slice PA np pc,.slice TA nt tc,.slice LA nl lc,.slice IA ni ic,.slice CA nc cc] 22)) H1:=by rw[← Fg,← Fh,← rj,← MB,← WZ];exact rs
 have AL:=Hh (Py (n:=5) _ aN.holds rfl Yb);have HG1:=Hh aN;rw[Fg,Fh,rj,MB,WZ];clear hTab hp ht hl hi hc hH rs Ss Yb Fg Fh rj MB WZ aN;go_enter Tryz.func3,Tryz.ntmps3
 go_wp2_with fail
 refine AL.out.mono ?_
 rintro e w2 ⟨⟨t1,rfl,nZ⟩,qE⟩
 have zY:Below w.heap.size w w2:=by rw[qE];exact HG1.out.below
 have FB:=Hh nZ;clear AL HG1 qE nZ
 cases t1 with
 | false =>
  go_wp2_with fail
  refine(AW.out _ zY).mono ?_
  rintro e w2 ⟨rfl,zD⟩
  go_wp2_with fail
  go_ret
  exact⟨rfl,zY.trans (zD.mono zY.size)⟩
 | true =>
 have lW:Hid (np≤900∧nt≤900∧nl≤900∧ni≤900∧nc≤900):=by
  have h:=FB.out (by trivial);have e:=od.out;rw[Hid,← e.1,← e.2.1,← e.2.2.1,← e.2.2.2.1,← e.2.2.2.2]
  exact⟨h prk (by simp),h th (by simp),h plain (by simp),h id (by simp),h cred (by simp)⟩
 clear FB;have rs:=Grows.of_below HH.out zY
 have S1:=Hh (Pm (ic:=ic) od.out.2.2.2.1.symm (tc:=tc) od.out.2.1.symm (cc:=cc) od.out.2.2.2.2.symm (xc:=lc) od.out.2.2.1.symm (mc:=pc) od.out.1.symm (by have:=od.out;have:=lW.out;omega) w2
  (Src.of_row HD.out.2.2.2.1.row rs.holds) (Src.of_row HD.out.2.1.row rs.holds) (Src.of_row HD.out.2.2.2.2.row rs.holds) (Src.of_row HD.out.2.2.1.row rs.holds) (Src.of_row HD.out.1.row rs.holds))
 go_wp2_with fail
 refine S1.out.mono ?_
 rintro e w3 ⟨r3,rfl,tr⟩
 obtain⟨A3,c3,rfl,wv⟩:=tr.own.form;have my:=tr.own.src;have yA:=rs.below_ tr.2;clear S1 tr wv zY rs
 have S2:=Hh (bI (ic:=ic) od.out.2.2.2.1.symm (tc:=tc) od.out.2.1.symm (cc:=cc) od.out.2.2.2.2.symm (xc:=lc) od.out.2.2.1.symm (mc:=pc) od.out.1.symm (by have:=od.out;have:=lW.out;omega) w3 yA.holds
  (Src.of_row HD.out.2.2.2.1.row yA.holds) (Src.of_row HD.out.2.1.row yA.holds) (Src.of_row HD.out.2.2.2.2.row yA.holds) (Src.of_row HD.out.2.2.1.row yA.holds) (Src.of_row HD.out.1.row yA.holds))
 have oI:=Hh (jW id th cred plain prk);obtain⟨SG,Ai⟩:∃ SG,qY id th cred plain prk=SG:=⟨_,rfl⟩
 rw[Ai]at S2 oI my⊢;obtain⟨ns,Iv⟩:∃ ns,SG.length=ns:=⟨_,rfl⟩
 have JD:=Hh Iv;rw[Iv];clear Ai Iv;go_wp2_with fail
 refine S2.out.mono ?_
 rintro e w4 ⟨r4,rfl,rf⟩
 obtain⟨A4,c4,rfl,wv⟩:=rf.own.form;have jH:=rf.own.src;replace my:=my.below rf.2;have xK:=yA.below_ rf.2;clear S2 rf wv yA;have EQ:=kC w4 A3 A4 SG SG ns ns c3 c4 JD.out.symm JD.out.symm (by have:=JD.out;have:=oI.out;have:=od.out;have:=lW.out;omega) (by have:=JD.out;have:=oI.out;have:=od.out;have:=lW.out;omega) my jH;rw[decide_eq_true (rfl:SG=SG)]at EQ;replace EQ:=Hh EQ;rw[JD.out];clear my jH;go_wp2_with fail
 refine EQ.out.mono ?_
 rintro e w5 ⟨rfl,zE⟩
 have xx:=xK.below_ zE;clear EQ xK zE;have M1:=Hh (Jn (sc:=tc) od.out.2.1.symm (bc:=lc) od.out.2.2.1.symm (by have:=od.out;have:=lW.out;omega) w5 (Src.of_row HD.out.2.1.row xx.holds) (Src.of_row HD.out.2.2.1.row xx.holds));go_wp2_with fail
 refine M1.out.mono ?_
 rintro e w6 ⟨r6,rfl,vF⟩
 obtain⟨A6,c6,rfl,wv⟩:=vF.own.form;have cq:=vF.own.src;have y8:=xx.below_ vF.2;clear M1 vF wv xx;have M2:=Hh (XO (sc:=tc) od.out.2.1.symm (bc:=lc) od.out.2.2.1.symm (by have:=od.out;have:=lW.out;omega) w6 (Src.of_row HD.out.2.1.row y8.holds) (Src.of_row HD.out.2.2.1.row y8.holds));have oO:=Hh (rO th plain);obtain⟨MK,Ad⟩:∃ MK,yF th plain=MK:=⟨_,rfl⟩
 rw[Ad]at M2 oO cq⊢;obtain⟨nm,Iu⟩:∃ nm,MK.length=nm:=⟨_,rfl⟩
 have JC:=Hh Iu;rw[Iu];clear Ad Iu;go_wp2_with fail
 refine M2.out.mono ?_
 rintro e w7 ⟨r7,rfl,mw⟩
 obtain⟨A7,c7,rfl,wv⟩:=mw.own.form;have J1:=mw.own.src;replace cq:=cq.below mw.2;have vm:=y8.below_ mw.2;clear M2 mw wv y8;have EQ:=kC w7 A6 A7 MK MK nm nm c6 c7 JC.out.symm JC.out.symm (by have:=JC.out;have:=oO.out;have:=od.out;have:=lW.out;omega) (by have:=JC.out;have:=oO.out;have:=od.out;have:=lW.out;omega) cq J1;rw[decide_eq_true (rfl:MK=MK)]at EQ;replace EQ:=Hh EQ;rw[JC.out];clear cq J1;go_wp2_with fail
 refine EQ.out.mono ?_
 rintro e w8 ⟨rfl,uk⟩
 have cP:=vm.below_ uk;clear EQ vm uk JC oO JD oI;go_wp2_with fail
 refine(MD.out _ _).mono ?_
 rintro e w9 ⟨rfl,rfl⟩
 obtain⟨m2,St⟩:∃ m,iF suite 2=m:=⟨_,rfl⟩
 rw[St];clear St;have TW1:=Hh (fun(wr:World) h (i:Nat) (hi:i<2)=>Qx (w:=w8) (wr:=wr) (t:=3) (a:=suite) (b:=m2) h hi);have FU:=cP.alloc (.cells #[.int .i64 suite,.int .i64 m2] 3);obtain⟨R1,Mn⟩:∃ R,w8.heap.size=R:=⟨_,rfl⟩
 obtain⟨wa,Fq⟩:∃ wa,w8.alloc (.cells #[.int .i64 suite,.int .i64 m2] 3)=wa:=⟨_,rfl⟩
 rw[Mn,Fq]at TW1;rw[Fq]at FU;have HWa:=Hh (And.intro Fq Mn);clear cP Fq Mn;go_upto_region 6 with fail
 try rw[HWa.out.1]
 try rw[HWa.out.2]
 go_loopw [71] (fun v71 wr=>∃ (i:Nat) (Hr:Snap),i≤2∧v71=.int .i64 (i:Int)∧Grows wa H wr Hr) (fun v71 _=>2-(intOf v71).toNat)
 case atStart=>exact⟨0,H,by omega,rfl,Grows.refl FU.holds⟩
 case round =>
 obtain⟨i,Hr,hi,rfl,oK⟩:=hrel;have HI:=Hh hi;clear hi
 by_cases fE:i<2
 ·have fF:(i:Int)<2:=by omega
  obtain⟨s,q0⟩:=TW1.out wr oK.below i fE;have HI2:=Hh fE;have L3:=oK.alloc (.cells #[.int .i64 label,.int .i64 3] 3);have TW2:=Hh (fun(w2:World) h (i:Nat) (hi:i<2)=>Qx (w:=wr) (wr:=w2) (t:=3) (a:=label) (b:=3) h hi);obtain⟨R2,YX⟩:∃ R,wr.heap.size=R:=⟨_,rfl⟩
  obtain⟨wb,Fr⟩:∃ wb,wr.alloc (.cells #[.int .i64 label,.int .i64 3] 3)=wb:=⟨_,rfl⟩
  rw[YX,Fr]at TW2;rw[Fr]at L3;have HWb:=Hh (And.intro Fr YX);have Cs:=Hh L3;clear fE oK Fr YX L3;go_upto_region 9 with fail
  try rw[HWb.out.1]
  try rw[HWb.out.2]
  clear q0;go_loopw [78] (fun v78 wr=>∃ (j:Nat) (Hs:Snap),j≤2∧v78=.int .i64 (j:Int)∧Grows wb Hr wr Hs) (fun v78 _=>2-(intOf v78).toNat)
  case atStart=>exact⟨0,Hr,by omega,rfl,Grows.refl Cs.out.holds⟩
  case round =>
  obtain⟨j,Hs,hj,rfl,aa⟩:=hrel;have HJ:=Hh hj;clear hj
  by_cases cd:j<2
  ·have Iq:(j:Int)<2:=by omega
   obtain⟨k,q0⟩:=TW2.out _ aa.below j cd;have HJ2:=Hh cd;have eD:=Hh (((FU.le.trans Cs.out.le)).trans aa.le);have X1:=Hh (Jp s k (pc:=pc) od.out.1.symm (by have:=od.out;have:=lW.out;omega) (tc:=tc) od.out.2.1.symm (lc:=lc) od.out.2.2.1.symm _ aa.holds (HD.out.1.mono eD.out) (HD.out.2.1.mono eD.out) (HD.out.2.2.1.mono eD.out));have HGs:=Hh aa;clear cd aa;go_wp2_with fail
   refine X1.out.mono ?_
   intro e w11 hs
   obtain⟨XA,xc,H11,rfl,Um,Sb⟩:=rV HGs.out.holds hs;have Nt:=Hh (HGs.out.trans Um);have Lo:=Hh Sb;have RG:=Hh (eD.out.trans Um.le);clear X1 hs Um Sb q0;have Y1:=Hh (XQ s k (pc:=pc) od.out.1.symm (by have:=od.out;have:=lW.out;omega) (tc:=tc) od.out.2.1.symm (lc:=lc) od.out.2.2.1.symm _ Nt.out.holds (HD.out.1.mono RG.out) (HD.out.2.1.mono RG.out) (HD.out.2.2.1.mono RG.out));have oI:=Hh (UF s prk k th plain);obtain⟨⟨e1,y⟩,hy⟩:∃ y,vC s prk k th plain=y:=⟨_,rfl⟩
   rw[hy]at Y1 oI Lo⊢;obtain⟨ny,EU⟩:∃ n,y.length=n:=⟨_,rfl⟩
   have Mf:=Hh EU;replace oI:Hid (y.length≤700):=oI;replace Lo:Hid (IsBytes H11 XA xc y):=Lo
   try simp only[]
   try rw[EU]
   clear hy EU;go_wp2_with fail
   refine Y1.out.mono ?_
   intro e w12 hs
   obtain⟨YA,yc,H12,rfl,zU,iq⟩:=rV Nt.out.holds hs;replace iq:IsBytes H12 YA yc y:=iq;have Nv:=Hh (Nt.out.trans zU);have IC:=Hh iq;have iy:=Hh (RG.out.trans zU.le);have SM:=Hh (dO (A:=XA) (B:=YA) (n:=ny) (m:=ny) (c:=xc) (d:=yc) (l:=y) e1 Mf.out.symm Mf.out.symm (by have:=oI.out;omega) w12 (Src.of_row (Lo.out.mono zU.le).row Nv.out.holds) (Src.of_row iq.row Nv.out.holds))
   try simp only[]
   try rw[Mf.out]
   clear Y1 hs zU iq Nt Lo RG;go_wp2_with fail
   refine SM.out.mono ?_
   rintro e w13 ⟨rfl,sI⟩
   have Kh:=Hh (Nv.out.below_ sI);have SP:=Hh (Tp (c:=yc) w13 Kh.out.holds Mf.out.symm IC.out (by have:=oI.out;omega) at_ by_);clear SM Nv sI;go_wp2_with fail
   refine SP.out.mono ?_
   rintro e w14 ⟨ZA,zc,z,rfl,Eo,RM,J6⟩
   have MP:=Kh.out.trans RM;have iq:=IC.out.mono RM.le;have EG:=(HD.out.2.2.1.mono iy.out).mono RM.le;have Ny:=Hh (iy.out.trans RM.le);obtain⟨Hc,AK,B4,ar⟩:=be (L:=qB) MP (((RowC.one (L:=qB) (H:=Eo) ⟨YA,yc,rfl,iq⟩).app (RowC.one (L:=qB) (H:=Eo) ⟨ZA,zc,rfl,J6⟩)).app (RowC.one (L:=qB) (H:=Eo) ⟨LA,lc,rfl,EG⟩):RowC qB Eo [.slice YA y.length yc,.slice ZA z.length zc,.slice LA plain.length lc] [y,z,plain]) 22 (by simp);replace ar:IsRow qB Hc (some ⟨w14.heap.size,0,none⟩) 3 [y,z,plain]:=ar;obtain⟨ms,ER⟩:∃ ms,[y,z,plain]=ms:=⟨_,rfl⟩
   have D8:Hid (ms.length=3):=by rw[Hid,← ER];rfl
   rw[ER]at ar;obtain⟨nz,Iw⟩:∃ n,z.length=n:=⟨_,rfl⟩
   have L4:Grows wb Hr (w14.alloc (.cells #[.slice YA ny yc,.slice ZA nz zc,.slice LA nl lc] 22)) Hc:=by rw[← Mf.out,← Iw,← od.out.2.2.1];exact AK
   rw[Iw];have Mg:=Hh ar;have Nz:=Hh (Ny.out.trans B4);obtain⟨R3,Lv⟩:∃ R,w14.heap.size=R:=⟨_,rfl⟩
   obtain⟨wd,El⟩:∃ wd,w14.alloc (.cells #[.slice YA ny yc,.slice ZA nz zc,.slice LA nl lc] 22)=wd:=⟨_,rfl⟩
   rw[El]at L4;rw[Lv]at Mg;have DO:=Hh (And.intro El Lv);have HGd:=Hh L4;clear SP Kh RM J6 MP iq EG AK B4 ar ER Iw L4 Lv El iy Ny IC;go_upto_region 16 with fail
   try rw[DO.out.1]
   try rw[DO.out.2]
   clear DO;go_loopw [114] (fun v114 wr=>∃ (n:Nat) (Ht:Snap),n≤3∧v114=.int .i64 (n:Int)∧Grows wd Hc wr Ht) (fun v114 _=>3-(intOf v114).toNat)
   case atStart=>exact⟨0,Hc,by omega,rfl,Grows.refl HGd.out.holds⟩
   case round =>
   obtain⟨n,Ht,hn,rfl,Mk⟩:=hrel;have HN:=Hh hn;clear hn
   by_cases aq:n<3
   ·have uE:(n:Int)<3:=by omega
    obtain⟨rb,ro,LY,lZ⟩:=Mg.out.at_ (by rw[D8.out];omega);obtain⟨d,hd,uw⟩:=lZ n (by rw[D8.out];exact aq);obtain⟨GA,gc,mM,Du⟩:=hd;subst mM;injection LY with LY
    injection LY with hrb hro
    subst hrb;subst hro;have q1:=Mk.holds.cell (Mk.le.cell (uw 0 _ rfl));rw[show 0+(n*qB.k+0)=n from by show 0+(n*1+0)=n;omega]at q1;obtain⟨msg,Gu⟩:∃ m,ms[n]'(by rw[D8.out];exact aq)=m:=⟨_,rfl⟩
    rw[Gu]at q1 Du;obtain⟨ng,ES⟩:∃ n,msg.length=n:=⟨_,rfl⟩
    rw[ES]at q1;have Ez:=Hh ES;have PB:=Hh aq;have Ct:=Hh Mk;have HGB:=Hh (Du.mono Mk.le);have Uh:=Hh (Nz.out.trans Mk.le);clear lZ uw Gu ES aq Du Mk;have O1:=Hh (Jo (HT.out.mono Uh.out) s k (pc:=pc) od.out.1.symm (by have:=od.out;have:=lW.out;omega) (tc:=tc) od.out.2.1.symm (lc:=gc) Ez.out.symm _ Ct.out.holds (HD.out.1.mono Uh.out) (HD.out.2.1.mono Uh.out) HGB.out);go_wp2_with fail
    refine O1.out.mono ?_
    intro e w21 hs
    obtain⟨UA,uc,H21,rfl,O7,MG⟩:=rV Ct.out.holds hs;have Nw:=Hh (Ct.out.trans O7);have I7:=Hh MG;have RH:=Hh (Uh.out.trans O7.le);have Bk:=Hh (HGB.out.mono O7.le);clear O1 hs O7 MG q1;have O2:=Hh (XP (HT.out.mono RH.out) s k (pc:=pc) od.out.1.symm (by have:=od.out;have:=lW.out;omega) (tc:=tc) od.out.2.1.symm (lc:=gc) Ez.out.symm _ Nw.out.holds (HD.out.1.mono RH.out) (HD.out.2.1.mono RH.out) Bk.out);have oe:=Hh (Ts s prk k th msg);obtain⟨⟨e2,u⟩,hu⟩:∃ y,ue s prk k th msg=y:=⟨_,rfl⟩
    rw[hu]at O2 oe I7⊢;obtain⟨nu,ET⟩:∃ n,u.length=n:=⟨_,rfl⟩
    have D9:=Hh ET;replace oe:Hid (u.length≤100000):=oe;replace I7:Hid (IsBytes H21 UA uc u):=I7
    try simp only[]
    try rw[ET]
    clear hu ET;go_wp2_with fail
    refine O2.out.mono ?_
    intro e w22 hs
    obtain⟨VA,vc,H22,rfl,L0,Fp⟩:=rV Nw.out.holds hs;replace Fp:IsBytes H22 VA vc u:=Fp;have Nx:=Hh (Nw.out.trans L0);have SM:=Hh (dO (A:=UA) (B:=VA) (n:=nu) (m:=nu) (c:=uc) (d:=vc) (l:=u) e2 D9.out.symm D9.out.symm (by have:=oe.out;omega) w22 (Src.of_row (I7.out.mono L0.le).row Nx.out.holds) (Src.of_row Fp.row Nx.out.holds))
    try simp only[]
    try rw[D9.out]
    clear O2 hs L0 Fp Nw I7;go_wp2_with fail
    refine SM.out.mono ?_
    rintro e w23 ⟨rfl,qh⟩
    have Bh:=Hh (Nx.out.below_ qh);clear SM Nx qh;go_wp2_with fail
    go_roundw
    case rel=>exact⟨n+1,H22,PB.out,by go_num,Bh.out⟩
    case measure=>have:=PB.out;simp[intOf];omega
   have uE:¬ (n:Int)<3:=by omega
   have Bi:=Hh (HGd.out.trans Mk);clear aq Mk;go_wp2_with fail
   go_roundw
   case rel=>exact⟨j+1,Ht,HJ2.out,by go_num,Bi.out⟩
   case measure=>have:=HJ2.out;simp[intOf];omega
  have Iq:¬ (j:Int)<2:=by omega
  have Bj:=Hh (Cs.out.trans aa);clear cd aa;go_wp2_with fail
  go_roundw
  case rel=>exact⟨i+1,Hs,HI2.out,by go_num,Bj.out⟩
  case measure=>have:=HI2.out;simp[intOf];omega
 have fF:¬ (i:Int)<2:=by omega
 have Ki:=Hh (FU.trans oK);clear fE oK;go_wp2_with fail
 refine(AW.out _ Ki.out.below).mono ?_
 rintro e w40 ⟨rfl,C9⟩
 go_wp2_with fail
 go_ret
 exact⟨rfl,Ki.out.below.trans (C9.mono Ki.out.below.size)⟩
end Go.Proofs.YtkmlnjociijpgaaGreatDoor
