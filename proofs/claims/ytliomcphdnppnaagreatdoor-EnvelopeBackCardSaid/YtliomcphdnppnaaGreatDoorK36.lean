/- squeezed. Walks: envelope.Encode at the exam -/
import Derived.Test.YtliomcphdnppnaaGreatDoorK32
import Derived.Shelf.GgSortFunc.SmallK
set_option linter.unusedVariables false
set_option linter.unusedSimpArgs false
set_option maxRecDepth 100000
set_option maxHeartbeats 6400000
namespace Go.Proofs.YtliomcphdnppnaaGreatDoor
open Go.RowKit
theorem jcd{P:Prop}(h:P:=by exact⟨hE.cell 4 rfl,hE.cell 5 rfl,hE.cell 6 rfl,hE.cell 7 rfl,hE.cell 8 rfl⟩):P:=h
def Yy:Itm:=.mk 6 16 [] [.mk 4 0 [] [zI [],yh,zI [1,2]]]
theorem YC:zZ Yy=[208,131,64,160,66,1,2]:=by
 simp[Yy,zZ,zP,yv,yA,Itm.kind,Itm.n,Itm.bytes,Itm.items]
 decide
theorem Ui:zJ Yy=true:=by
 rw[yo]
 refine⟨Good.of rfl (GoodL.of fun x hx=>?_) (fun h=>by simp[Yy,Itm.kind]at h),by simp[Yy,cnt,yf],by rw[YC];simp⟩
 simp only[Yy,Itm.items,List.mem_singleton]at hx
 subst hx
 refine Good.of rfl (GoodL.of fun x hx=>?_) (fun h=>by simp[Itm.kind]at h)
 simp only[Itm.items,List.mem_cons,List.not_mem_nil,or_false]at hx
 rcases hx with rfl | rfl | rfl
 ·exact jce
 ·exact Good.of rfl (by simp only[Itm.items];rw[GoodL];trivial) (fun _=>rfl)
 exact jce
theorem KG {w wr:World}{H Hr:Snap}(_h:Grows w H wr Hr) {l:List Itm}{cs:List Value}(hc:ItemsC Hr cs l) (hm:l.length≤4096) :
  OwnI (wr.alloc (.cells cs.toArray 26)) wr.heap.size (.slice (some ⟨wr.heap.size,0,none⟩) l.length l.length) Hr l:=OwnI.lit hc _ (Nat.le_refl _) hm
theorem YK {w wr:World}{H Hr:Snap}(h:Grows w H wr Hr) {l:List Itm}{cs:List Value}(hc:ItemsC Hr cs l) (hm:l.length≤4096) :
  ∃ H',Grows w H (wr.alloc (.cells cs.toArray 26)) H'∧Hr.le H'∧IsRowI H' (some ⟨wr.heap.size,0,none⟩) l.length l:=by
 have hO:=KG h hc hm;exact jbk
theorem Uj {H:Snap}(hTab:Tabs H) (w:World) (hH:Holds w H) (g:Nat) (hB:Blk w g 5 #[.int .u8 1,.int .u8 2]) :
  Calls Tryz.prog 24 #[.int .i64 16,.agg #[.int .i64 5,.int .u64 0,.slice none 0 0,.slice none 0 0,.int .i64 5,.int .u64 0,.slice none 0 0,.slice none 0 0,.slice (some ⟨g,0,none⟩) 2 2,.slice none 0 0]] w fun e w'=>∃ r,e=.returned (.tuple #[r,.int .i64 0])∧Fresh w [208,131,64,160,66,1,2] r w':=by
 have hE:=Blk.new w 36 #[.int .i64 5,.int .u64 0,.slice none 0 0,.slice none 0 0,.int .i64 5,.int .u64 0,.slice none 0 0,.slice none 0 0,.slice (some ⟨g,0,none⟩) 2 2,.slice none 0 0];have hG:=(Grows.refl hH).alloc (.cells #[.int .i64 5,.int .u64 0,.slice none 0 0,.slice none 0 0,.int .i64 5,.int .u64 0,.slice none 0 0,.slice none 0 0,.slice (some ⟨g,0,none⟩) 2 2,.slice none 0 0] 36)
 have hSB:Src w (some ⟨g,0,none⟩) (([1,2]:List UInt8).map zm):=fun _=>⟨g,0,rfl,fun j v hj=>by
  match j,hj with
  | 0,hj=>cases hj;exact hB.cell 0 rfl
  | 1,hj=>cases hj;exact hB.cell 1 rfl⟩
 have P:=Hh (tj hTab (p:=yh) (u:=yh) (a:=⟨none,0,none,0⟩) (b:=⟨none,0,none,0⟩) (IsItem.plain _ 5 0 (by omega) (by omega)) (IsItem.plain _ 5 0 (by omega) (by omega)) _ hG.holds);go_enter Tryz.func24,Tryz.ntmps24
 go_wp2_with fail
 refine P.out.mono ?_
 rintro e w1 (⟨hv,_⟩ | ⟨hv,r,rfl,hf⟩)
 ·rw[lw]at hv;cases hv
 obtain⟨RA,rc,rfl,_⟩:=hf.own.form;have hE:=hE.below hf.2;have hG:=hG.below_ hf.2;have UH:=hf.own.src;have TJ:=(hSB.alloc (.cells #[.int .i64 5,.int .u64 0,.slice none 0 0,.slice none 0 0,.int .i64 5,.int .u64 0,.slice none 0 0,.slice none 0 0,.slice (some ⟨g,0,none⟩) 2 2,.slice none 0 0] 36)).below hf.2;clear P hf hv hSB hB;have ZS:(yH yh).length=0:=by simp[yH,Itm.items]
 have dI:yH yh=[]:=by simp[yH,Itm.items]
 rw[dI]at UH;rw[ZS];have e9:=hE.cell 9 rfl;clear ZS dI;go_upto_region 4 with fail
 go_cut [8] (fun s8 wx=>∃ (N:Nat) (H5:Snap),s8=.slice (some ⟨N,0,none⟩) 3 3∧Grows w H wx H5∧IsRowI H5 (some ⟨N,0,none⟩) 3 [zI [],yh,zI [1,2]])
 case first =>
  have hE:=hE.drew;have hG:=hG.drew;have UH:Src w1.drew RA (([]:List UInt8).map zm):=UH;have TJ:Src w1.drew (some ⟨g,0,none⟩) (([1,2]:List UInt8).map zm):=TJ
  refine zw 9 (fun w'=>w'.cell? ⟨w.heap.size,4,none⟩=some (.int .i64 5)∧w'.cell? ⟨w.heap.size,5,none⟩=some (.int .u64 0)∧w'.cell? ⟨w.heap.size,6,none⟩=some (.slice none 0 0)∧w'.cell? ⟨w.heap.size,7,none⟩=some (.slice none 0 0)∧w'.cell? ⟨w.heap.size,8,none⟩=some (.slice (some ⟨g,0,none⟩) 2 2)) (by kernel_rfl) (⟨hE.cell 4 rfl,hE.cell 5 rfl,hE.cell 6 rfl,hE.cell 7 rfl,hE.cell 8 rfl⟩) (fun zy=>?_)
  refine Tk 0 rfl zy ?_
  refine Tk 2 rfl zy ?_
  refine Tk 3 rfl zy ?_
  refine Tk 4 rfl zy ?_
  refine Tk 5 rfl zy ?_
  refine Tk 6 rfl zy ?_
  refine To 1 rfl fun K hK=>?_
  go_simp
  refine(vF (A:=RA) (c:=rc) (l:=[]) rfl (by simp) w1.drew UH hG.holds).mono ?_
  rintro e w3 ⟨v3,rfl,ka,kb,kc,kd,H3,rfl,ye,nO⟩
  have hE:=hE.below ye.below;have TJ:=TJ.below ye.below;have hG:=hG.trans ye;obtain⟨x1,lC⟩:∃ x,Itm.mk 2 0 [] []=x:=⟨_,rfl⟩
  rw[lC]at nO⊢
  refine Ko hK ?_ fun zy=>?_
  ·exact jcd
  clear hK K
  refine To 7 rfl fun K hK=>?_
  go_simp
  refine(vF (A:=some ⟨g,0,none⟩) (c:=2) (l:=[1,2]) rfl (by simp) _ TJ hG.holds).mono ?_
  rintro e w4 ⟨v4,rfl,la,lb,lc,ld,H4,rfl,yF,rm⟩
  have hE:=hE.below yF.below;have hG:=hG.trans yF;obtain⟨x3,TN⟩:∃ x,Itm.mk 2 0 [1,2] []=x:=⟨_,rfl⟩
  rw[TN]at rm⊢
  refine Ko hK ?_ fun zy=>?_
  ·exact jcd
  clear hK K
  refine To 8 rfl fun K hK=>?_
  go_simp
  have hE:=hE.alloc (.cells #[.int .i64 x1.kind,.int .u64 x1.n,.slice ka x1.bytes.length kb,.slice kc x1.items.length kd,.int .i64 5,.int .u64 0,.slice none 0 0,.slice none 0 0,.int .i64 x3.kind,.int .u64 x3.n,.slice la x3.bytes.length lb,.slice lc x3.items.length ld] 26);have oq:ItemsC H4 (zV x1 ka kb kc kd++(zV yh none 0 none 0++zV x3 la lb lc ld)) [x1,yh,x3]:=(ItemsC.one (nO.mono yF.le)).app ((ItemsC.one (IsItem.plain _ 5 0 (by omega) (by omega))).app (ItemsC.one rm));obtain⟨H5,wb,rH,hr5⟩:=YK hG oq (by simp)
  refine Ko hK ?_ fun zy=>?_
  ·exact jcd
  clear hK K
  refine To 9 rfl fun K hK=>?_
  go_simp
  refine Kz hK ?_
  clear hK K
  refine Wd ?_
  go_wp2_with fail
  go_meet
  exact⟨_,H5,rfl,wb,by rw[← lC,← TN]at hr5;exact hr5⟩
 case rest =>
 clear hE hG UH TJ e9;obtain⟨N,H5,rfl,hG,hr⟩:=hcut;obtain⟨y,hy⟩:∃ y,Itm.mk 4 0 [] [zI [],yh,zI [1,2]]=y:=⟨_,rfl⟩
 have hi:IsItem H5 none 0 (some ⟨N,0,none⟩) 3 y:=by rw[← hy];exact hr.item 4 (by omega) 0 (by omega)
 have hyc:zV y none 0 (some ⟨N,0,none⟩) 3=[.int .i64 4,.int .u64 0,.slice none 0 0,.slice (some ⟨N,0,none⟩) 3 3]:=by rw[← hy];rfl
 obtain⟨H6,xq,hl6,hr6⟩:=YK hG (ItemsC.one hi) (by simp);rw[hyc]at xq;have ha:ItemA H6 6 16 none 0 0 (some ⟨wc.heap.size,0,none⟩) 1 1 Yy:=⟨rfl,rfl,rfl,rfl,by rw[Yy,hy];exact hr6.item 6 (by omega) 16 (by omega)⟩
 have EN:=Hh (rJ (hTab.mono xq.le) ha _ xq.holds);have sP:=xq.below;clear hr hi hyc hG xq hl6 hr6 ha hy;go_wp2_with fail
 refine EN.out.mono ?_
 rintro e w9 (⟨hv,_⟩ | ⟨hv,r,rfl,lJ⟩)
 ·rw[Ui]at hv;cases hv
 rw[YC]at lJ;have R:Hid (Fresh w [208,131,64,160,66,1,2] r w9):=⟨lJ.own.more sP.size,sP.trans (lJ.2.mono sP.size)⟩
 clear lJ hv EN;go_wp2_with fail
 go_ret2
 exact⟨_,rfl,R.out⟩
theorem iM {w wr:World}{H Hr:Snap}(h:Grows w H wr Hr) (t:TypeId) (vs:List Value) (ls:List (List UInt8)) (hm:ls.length≤4096)
  (hv:∀ j (hj:j<ls.length),∃ A c,vs[j]? = some (.slice A ls[j].length c)∧IsBytes Hr A c ls[j]) :
  ∃ H',Grows w H (wr.alloc (.cells vs.toArray t)) H'∧Hr.le H'∧IsRows H' (some ⟨wr.heap.size,0,none⟩) ls.length ls:=by
 have h0:Hr wr.heap.size=none:=h.holds.none_of_ge (Nat.le_refl _);have hG:=(h.alloc (.cells vs.toArray t)).withOwn (g:=wr.heap.size) h0 h.size (heap_alloc_new wr _)
 refine⟨_,hG,Snap.le_with h0,⟨Nat.le_refl _,by omega,fun _=>⟨wr.heap.size,0,rfl,fun j hj=>?_⟩⟩⟩
 obtain⟨A,c,h1,h2⟩:=hv j hj
 refine⟨A,c, ?_,h2.mono (Snap.le_with h0)⟩
 simp[Snap.cell?,Snap.with]
 simpa using h1
def Pt:List UInt8:=[77,65,67,48]
theorem KJ:zZ (xA Pt yh [] [[]])=[132,100,77,65,67,48,64,64,64]:=by
 simp[xA,Pt,yH,zZ,zP,yv,yA,Itm.kind,Itm.n,Itm.bytes,Itm.items]
 decide
theorem YL:Lib.validD Pt=true:=by kernel_rfl
theorem NR:xy Pt yh yh [] [[]]=0:=by
 rw[xy,if_neg (by rw[lw];simp),if_neg (by rw[YL];simp),if_neg];rw[gU YL (by simp[Pt,yH,Itm.items])]
 simp
theorem gW {H:Snap}(hTab:Tabs H) (w:World) (hH:Holds w H) :
  Calls Tryz.prog 7 #[] w fun e w'=>e=.returned (.bool true)∧Below w.heap.size w w':=by
 go_enter Tryz.func7,Tryz.ntmps7
 go_wp2_with fail
 refine(m6 _).mono ?_
 rintro e w1 ⟨rfl,zB⟩
 have rS:=(Grows.of_below hH zB).alloc (.cells #[.int .u8 1,.int .u8 2] 5);have EN:=Hh (Uj hTab _ rS.holds w1.heap.size (Blk.new w1 5 #[.int .u8 1,.int .u8 2]));go_wp2_with fail
 refine EN.out.mono ?_
 rintro e w2 ⟨r1,rfl,ki⟩
 obtain⟨A1,c1,rfl,_⟩:=ki.own.form;have yE:=rS.below_ ki.2;have vV:=ki.own.src;clear EN rS ki zB;go_wp2_with fail
 refine(m6 _).mono ?_
 rintro e w3 ⟨rfl,xj⟩
 have ye:=yE.below_ xj;have vV:=vV.below xj
 obtain⟨H4,yF,Q9,hr4⟩:=iM ye 23 [.slice none 0 0] [[]] (by simp) (fun j hj=>by
  have:j=0:=by simpa using hj
  subst this
  exact⟨none,0,rfl,IsBytes.nil _⟩)
 have vV:=vV.alloc (.cells #[.slice none 0 0] 23)
 have IN:=Hh (sB (hTab.mono yF.le) (p:=yh) (u:=yh) (a:=⟨none,0,none,0⟩) (b:=⟨none,0,none,0⟩) (IsItem.plain _ 5 0 (by omega) (by omega)) (IsItem.plain _ 5 0 (by omega) (by omega)) ⟨#[77,65,67,48]⟩ (by show(4:Nat)≤_;omega)
  (ext:=[]) (IsBytes.nil _) (by simp) hr4 (by simp) (by simp) _ yF.holds)
 have sP:=yF.below;clear yE ye xj yF Q9 hr4;go_wp2_with fail
 refine IN.out.mono ?_
 rintro e w5 ⟨r2,l2,rfl,fk,mi⟩
 have Ow:xy (⟨#[77,65,67,48]⟩:ByteArray).data.toList yh yh [] [[]]=0:=NR;rw[if_pos Ow]at mi;rw[Ow];replace mi:=mi.trans KJ;subst mi;obtain⟨A2,c2,rfl,_⟩:=fk.own.form;have k1:=vX (vV.below fk.2) 7 c1 rfl;have k2:=vX fk.own.src 9 c2 rfl;have yz:=sP.trans (fk.2.mono sP.size);clear IN Ow vV fk sP;go_wp2_with fail
 go_ret
 exact⟨rfl,yz⟩
end Go.Proofs.YtliomcphdnppnaaGreatDoor
namespace Go.Proofs.YtliomcphdnppnaaGreatDoor
open Go.RowKit Go.Shelf
def Kr:Go.Shelf.Ren:=⟨fun | 6=>108 | 10=>134 | 11=>135 | 12=>136 | 13=>137 | 14=>138 | 24=>177 | 25=>178 | 26=>179 | 27=>180 | 28=>181 | 29=>182 | 30=>183 | 31=>184 | 32=>185 | 33=>186 | 34=>203 | 35=>204 | 36=>205 | 37=>206 | 38=>207 | 39=>215 | n=>n,
 fun | 0=>0 | 3=>3 | 4=>4 | 5=>5 | 9=>9 | 12=>12 | 17=>17 | 20=>20 | 26=>152 | 32=>181 | 33=>182 | 35=>184 | 37=>186 | 41=>62 | 44=>192 | 49=>135 | 51=>22 | 53=>229 | 54=>230 | 58=>234 | 60=>246 | 64=>249 | 66=>259 | 67=>260 | 75=>270 | 76=>271 | 77=>272 | 78=>273 | 79=>274 | 80=>275 | 82=>277 | n=>n,fun n=>n⟩
theorem ej:LaysGg.n6 Tryz.prog Kr where
 mixed:=by kernel_rfl
 f6:=Tryz.func108.trans (congrArg some (by kernel_rfl))
 f10:=Tryz.func134.trans (congrArg some (by kernel_rfl))
 f11:=Tryz.func135.trans (congrArg some (by kernel_rfl))
 f12:=Tryz.func136.trans (congrArg some (by kernel_rfl))
 f13:=Tryz.func137.trans (congrArg some (by kernel_rfl))
 f14:=Tryz.func138.trans (congrArg some (by kernel_rfl))
 f24:=Tryz.func177.trans (congrArg some (by kernel_rfl))
 f25:=Tryz.func178.trans (congrArg some (by kernel_rfl))
 f26:=Tryz.func179.trans (congrArg some (by kernel_rfl))
 f27:=Tryz.func180.trans (congrArg some (by kernel_rfl))
 f28:=Tryz.func181.trans (congrArg some (by kernel_rfl))
 f29:=Tryz.func182.trans (congrArg some (by kernel_rfl))
 f30:=Tryz.func183.trans (congrArg some (by kernel_rfl))
 f31:=Tryz.func184.trans (congrArg some (by kernel_rfl))
 f32:=Tryz.func185.trans (congrArg some (by kernel_rfl))
 f33:=Tryz.func186.trans (congrArg some (by kernel_rfl))
 f34:=Tryz.func203.trans (congrArg some (by kernel_rfl))
 f35:=Tryz.func204.trans (congrArg some (by kernel_rfl))
 f36:=Tryz.func205.trans (congrArg some (by kernel_rfl))
 f37:=Tryz.func206.trans (congrArg some (by kernel_rfl))
 f38:=Tryz.func207.trans (congrArg some (by kernel_rfl))
 f39:=Tryz.func215.trans (congrArg some (by kernel_rfl))
 t0:=Tryz.underlying0
 a0:=Tryz.isAgg0
 z0:=Tryz.sizeOf0
 v0:=Tryz.zeroValue0
 i0:=by kernel_rfl
 t3:=Tryz.underlying3
 a3:=Tryz.isAgg3
 z3:=Tryz.sizeOf3
 v3:=Tryz.zeroValue3
 i3:=by kernel_rfl
 t4:=Tryz.underlying4
 a4:=Tryz.isAgg4
 z4:=Tryz.sizeOf4
 v4:=Tryz.zeroValue4
 i4:=by kernel_rfl
 t5:=Tryz.underlying5
 a5:=Tryz.isAgg5
 z5:=Tryz.sizeOf5
 v5:=Tryz.zeroValue5
 i5:=by kernel_rfl
 t9:=Tryz.underlying9
 a9:=Tryz.isAgg9
 z9:=Tryz.sizeOf9
 v9:=Tryz.zeroValue9
 i9:=by kernel_rfl
 t12:=Tryz.underlying12
 a12:=Tryz.isAgg12
 z12:=Tryz.sizeOf12
 v12:=Tryz.zeroValue12
 i12:=by kernel_rfl
 t17:=Tryz.underlying17
 a17:=Tryz.isAgg17
 z17:=Tryz.sizeOf17
 v17:=Tryz.zeroValue17
 i17:=by kernel_rfl
 t20:=Tryz.underlying20
 a20:=Tryz.isAgg20
 z20:=Tryz.sizeOf20
 v20:=Tryz.zeroValue20
 i20:=by kernel_rfl
 t26:=Tryz.underlying152
 a26:=Tryz.isAgg152
 z26:=Tryz.sizeOf152
 v26:=Tryz.zeroValue152
 i26:=by kernel_rfl
 t32:=Tryz.underlying181
 a32:=Tryz.isAgg181
 z32:=Tryz.sizeOf181
 v32:=Tryz.zeroValue181
 i32:=by kernel_rfl
 t33:=Tryz.underlying182
 a33:=Tryz.isAgg182
 z33:=Tryz.sizeOf182
 v33:=Tryz.zeroValue182
 i33:=by kernel_rfl
 t35:=Tryz.underlying184
 a35:=Tryz.isAgg184
 z35:=Tryz.sizeOf184
 v35:=Tryz.zeroValue184
 i35:=by kernel_rfl
 t37:=Tryz.underlying186
 a37:=Tryz.isAgg186
 z37:=Tryz.sizeOf186
 v37:=Tryz.zeroValue186
 i37:=by kernel_rfl
 t41:=Tryz.underlying62
 a41:=Tryz.isAgg62
 z41:=Tryz.sizeOf62
 v41:=Tryz.zeroValue62
 i41:=by kernel_rfl
 t44:=Tryz.underlying192
 a44:=Tryz.isAgg192
 z44:=Tryz.sizeOf192
 v44:=Tryz.zeroValue192
 i44:=by kernel_rfl
 t49:=Tryz.underlying135
 a49:=Tryz.isAgg135
 z49:=Tryz.sizeOf135
 v49:=Tryz.zeroValue135
 i49:=by kernel_rfl
 t51:=Tryz.underlying22
 a51:=Tryz.isAgg22
 z51:=Tryz.sizeOf22
 v51:=Tryz.zeroValue22
 i51:=by kernel_rfl
 t53:=Tryz.underlying229
 a53:=Tryz.isAgg229
 z53:=Tryz.sizeOf229
 v53:=Tryz.zeroValue229
 i53:=by kernel_rfl
 t54:=Tryz.underlying230
 a54:=Tryz.isAgg230
 z54:=Tryz.sizeOf230
 v54:=Tryz.zeroValue230
 i54:=by kernel_rfl
 t58:=Tryz.underlying234
 a58:=Tryz.isAgg234
 z58:=Tryz.sizeOf234
 v58:=Tryz.zeroValue234
 i58:=by kernel_rfl
 t60:=Tryz.underlying246
 a60:=Tryz.isAgg246
 z60:=Tryz.sizeOf246
 v60:=Tryz.zeroValue246
 i60:=by kernel_rfl
 t64:=Tryz.underlying249
 a64:=Tryz.isAgg249
 z64:=Tryz.sizeOf249
 v64:=Tryz.zeroValue249
 i64:=by kernel_rfl
 t66:=Tryz.underlying259
 a66:=Tryz.isAgg259
 z66:=Tryz.sizeOf259
 v66:=Tryz.zeroValue259
 i66:=by kernel_rfl
 t67:=Tryz.underlying260
 a67:=Tryz.isAgg260
 z67:=Tryz.sizeOf260
 v67:=Tryz.zeroValue260
 i67:=by kernel_rfl
 t75:=Tryz.underlying270
 a75:=Tryz.isAgg270
 z75:=Tryz.sizeOf270
 v75:=Tryz.zeroValue270
 i75:=by kernel_rfl
 t76:=Tryz.underlying271
 a76:=Tryz.isAgg271
 z76:=Tryz.sizeOf271
 v76:=Tryz.zeroValue271
 i76:=by kernel_rfl
 t77:=Tryz.underlying272
 a77:=Tryz.isAgg272
 z77:=Tryz.sizeOf272
 v77:=Tryz.zeroValue272
 i77:=by kernel_rfl
 t78:=Tryz.underlying273
 a78:=Tryz.isAgg273
 z78:=Tryz.sizeOf273
 v78:=Tryz.zeroValue273
 i78:=by kernel_rfl
 t79:=Tryz.underlying274
 a79:=Tryz.isAgg274
 z79:=Tryz.sizeOf274
 v79:=Tryz.zeroValue274
 i79:=by kernel_rfl
 t80:=Tryz.underlying275
 a80:=Tryz.isAgg275
 z80:=Tryz.sizeOf275
 v80:=Tryz.zeroValue275
 i80:=by kernel_rfl
 t82:=Tryz.underlying277
 a82:=Tryz.isAgg277
 z82:=Tryz.sizeOf277
 v82:=Tryz.zeroValue277
 i82:=by kernel_rfl
end Go.Proofs.YtliomcphdnppnaaGreatDoor
