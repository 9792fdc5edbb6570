/- squeezed. Walks: envelope.Encode at the exam -/
import Derived.Test.YtliomcphdnppnaaGreatDoorK36
import Derived.OwnWalk
import Derived.Test.YtliomcphdnppnaaGreatDoorK35
set_option linter.unusedVariables false
set_option linter.unusedSimpArgs false
set_option maxRecDepth 100000
set_option maxHeartbeats 6400000
namespace Go.Proofs.YtliomcphdnppnaaGreatDoor
open Go.RowKit
def eZ:Itm:=.mk 6 16 [] [.mk 4 0 [] [yg [],yy,yg [1,2]]]
theorem dm:zi eZ=[208,131,64,160,66,1,2]:=by
 simp[eZ,zi,zG,yI,xp,Itm.kind,Itm.n,Itm.bytes,Itm.items]
 decide
theorem aH:zU eZ=true:=by
 rw[yw]
 refine⟨Good.of rfl (GoodL.of fun x hx=>?_) (fun h=>by simp[eZ,Itm.kind]at h),by simp[eZ,cnt,vY],by rw[dm];simp⟩
 simp only[eZ,Itm.items,List.mem_singleton]at hx
 subst hx
 refine Good.of rfl (GoodL.of fun x hx=>?_) (fun h=>by simp[Itm.kind]at h)
 simp only[Itm.items,List.mem_cons,List.not_mem_nil,or_false]at hx
 rcases hx with rfl | rfl | rfl
 ·exact r9 2 (.inl rfl) _ _ (fun h=>by omega)
 ·exact Good.of rfl (by simp only[Itm.items];rw[GoodL];trivial) (fun _=>rfl)
 exact r9 2 (.inl rfl) _ _ (fun h=>by omega)
theorem SF {w wr:World}{H Hr:Snap}(_h:Grows w H wr Hr) {l:List Itm}{cs:List Value}(hc:ItemsC Hr cs l) (hm:l.length≤4096) :
  OwnI (wr.alloc (.cells cs.toArray 26)) wr.heap.size (.slice (some ⟨wr.heap.size,0,none⟩) l.length l.length) Hr l:=OwnI.lit hc _ (Nat.le_refl _) hm
theorem dx {w wr:World}{H Hr:Snap}(h:Grows w H wr Hr) {l:List Itm}{cs:List Value}(hc:ItemsC Hr cs l) (hm:l.length≤4096) :
  ∃ H',Grows w H (wr.alloc (.cells cs.toArray 26)) H'∧Hr.le H'∧IsRowI H' (some ⟨wr.heap.size,0,none⟩) l.length l:=by
 have hO:=SF h hc hm;have hG:=h.alloc (.cells cs.toArray 26);obtain⟨H',hl,hh,hf,hz,h1,h2,h3⟩:=hO.snap hG.holds (fun q hq=>by cases hq;exact h.holds.none_of_ge (Nat.le_refl _))
 refine⟨H',⟨hG.below,hG.le.trans hl,hh,fun b o hb=>?_⟩,hl,⟨h1,h2,h3⟩⟩
 rcases hf b o hb with h4 | h4
 ·exact hG.fresh b o h4
 simp at h4;exact .inr (by have:=h.size;omega)
theorem aI {H:Snap}(hTab:Tabs H) (w:World) (hH:Holds w H) (g:Nat) (hB:Blk w g 5 #[.int .u8 1,.int .u8 2]) :
  Calls Tryz.prog 24 #[.int .i64 16,.agg #[.int .i64 5,.int .u64 0,.slice none 0 0,.slice none 0 0,.int .i64 5,.int .u64 0,.slice none 0 0,.slice none 0 0,.slice (some ⟨g,0,none⟩) 2 2,.slice none 0 0]] w fun e w'=>∃ r,e=.returned (.tuple #[r,.int .i64 0])∧Fresh w [208,131,64,160,66,1,2] r w':=by
 have hE:=Blk.new w 36 #[.int .i64 5,.int .u64 0,.slice none 0 0,.slice none 0 0,.int .i64 5,.int .u64 0,.slice none 0 0,.slice none 0 0,.slice (some ⟨g,0,none⟩) 2 2,.slice none 0 0];have hG:=(Grows.refl hH).alloc (.cells #[.int .i64 5,.int .u64 0,.slice none 0 0,.slice none 0 0,.int .i64 5,.int .u64 0,.slice none 0 0,.slice none 0 0,.slice (some ⟨g,0,none⟩) 2 2,.slice none 0 0] 36)
 have Fq:Src w (some ⟨g,0,none⟩) (([1,2]:List UInt8).map zq):=fun _=>⟨g,0,rfl,fun j v hj=>by
  match j,hj with
  | 0,hj=>cases hj;exact hB.cell 0 rfl
  | 1,hj=>cases hj;exact hB.cell 1 rfl⟩
 have P:=Hh (qt hTab (p:=yy) (u:=yy) (a:=⟨none,0,none,0⟩) (b:=⟨none,0,none,0⟩) (IsItem.plain _ 5 0 (by omega) (by omega)) (IsItem.plain _ 5 0 (by omega) (by omega)) _ hG.holds);go_enter Tryz.func24,Tryz.ntmps24
 go_wp2_with fail
 refine P.out.mono ?_
 rintro e w1 (⟨hv,_⟩ | ⟨hv,r,rfl,hf⟩)
 ·rw[pL]at hv;cases hv
 obtain⟨RA,rc,rfl,_⟩:=hf.own.form;have hE:=hE.below hf.2;have hG:=hG.below_ hf.2;have Zj:=hf.own.src;have Yz:=(Fq.alloc (.cells #[.int .i64 5,.int .u64 0,.slice none 0 0,.slice none 0 0,.int .i64 5,.int .u64 0,.slice none 0 0,.slice none 0 0,.slice (some ⟨g,0,none⟩) 2 2,.slice none 0 0] 36)).below hf.2;clear P hf hv Fq hB;have U5:(wP yy).length=0:=by simp[wP,Itm.items]
 have ir:wP yy=[]:=by simp[wP,Itm.items]
 rw[ir]at Zj;rw[U5];have e9:=hE.cell 9 rfl;clear U5 ir;go_upto_region 4 with fail
 go_cut [8] (fun s8 wx=>∃ (N:Nat) (H5:Snap),s8=.slice (some ⟨N,0,none⟩) 3 3∧Grows w H wx H5∧IsRowI H5 (some ⟨N,0,none⟩) 3 [yg [],yy,yg [1,2]])
 case first =>
  have hE:=hE.drew;have hG:=hG.drew;have Zj:Src w1.drew RA (([]:List UInt8).map zq):=Zj;have Yz:Src w1.drew (some ⟨g,0,none⟩) (([1,2]:List UInt8).map zq):=Yz
  refine zw 9 (fun w'=>w'.cell? ⟨w.heap.size,4,none⟩=some (.int .i64 5)∧w'.cell? ⟨w.heap.size,5,none⟩=some (.int .u64 0)∧w'.cell? ⟨w.heap.size,6,none⟩=some (.slice none 0 0)∧w'.cell? ⟨w.heap.size,7,none⟩=some (.slice none 0 0)∧w'.cell? ⟨w.heap.size,8,none⟩=some (.slice (some ⟨g,0,none⟩) 2 2)) (by kernel_rfl) (⟨hE.cell 4 rfl,hE.cell 5 rfl,hE.cell 6 rfl,hE.cell 7 rfl,hE.cell 8 rfl⟩) (fun zy=>?_)
  refine Tk 0 rfl zy ?_
  refine Tk 2 rfl zy ?_
  refine Tk 3 rfl zy ?_
  refine Tk 4 rfl zy ?_
  refine Tk 5 rfl zy ?_
  refine Tk 6 rfl zy ?_
  refine To 1 rfl fun K hK=>?_
  go_simp
  refine(rv (A:=RA) (c:=rc) (l:=[]) rfl (by simp) w1.drew Zj hG.holds).mono ?_
  rintro e w3 ⟨v3,rfl,ka,kb,kc,kd,H3,rfl,yN,qK⟩
  have hE:=hE.below yN.below;have Yz:=Yz.below yN.below;have hG:=hG.trans yN;obtain⟨x1,gF⟩:∃ x,Itm.mk 2 0 [] []=x:=⟨_,rfl⟩
  rw[gF]at qK⊢
  refine Ko hK ?_ fun zy=>?_
  ·exact⟨hE.cell 4 rfl,hE.cell 5 rfl,hE.cell 6 rfl,hE.cell 7 rfl,hE.cell 8 rfl⟩
  clear hK K
  refine To 7 rfl fun K hK=>?_
  go_simp
  refine(rv (A:=some ⟨g,0,none⟩) (c:=2) (l:=[1,2]) rfl (by simp) _ Yz hG.holds).mono ?_
  rintro e w4 ⟨v4,rfl,la,lb,lc,ld,H4,rfl,xl,pz⟩
  have hE:=hE.below xl.below;have hG:=hG.trans xl;obtain⟨x3,Z7⟩:∃ x,Itm.mk 2 0 [1,2] []=x:=⟨_,rfl⟩
  rw[Z7]at pz⊢
  refine Ko hK ?_ fun zy=>?_
  ·exact⟨hE.cell 4 rfl,hE.cell 5 rfl,hE.cell 6 rfl,hE.cell 7 rfl,hE.cell 8 rfl⟩
  clear hK K
  refine To 8 rfl fun K hK=>?_
  go_simp
  have hE:=hE.alloc (.cells #[.int .i64 x1.kind,.int .u64 x1.n,.slice ka x1.bytes.length kb,.slice kc x1.items.length kd,.int .i64 5,.int .u64 0,.slice none 0 0,.slice none 0 0,.int .i64 x3.kind,.int .u64 x3.n,.slice la x3.bytes.length lb,.slice lc x3.items.length ld] 26);have rN:ItemsC H4 (zQ x1 ka kb kc kd++(zQ yy none 0 none 0++zQ x3 la lb lc ld)) [x1,yy,x3]:=(ItemsC.one (qK.mono xl.le)).app ((ItemsC.one (IsItem.plain _ 5 0 (by omega) (by omega))).app (ItemsC.one pz));obtain⟨H5,vB,qL,GS⟩:=dx hG rN (by simp)
  refine Ko hK ?_ fun zy=>?_
  ·exact⟨hE.cell 4 rfl,hE.cell 5 rfl,hE.cell 6 rfl,hE.cell 7 rfl,hE.cell 8 rfl⟩
  clear hK K
  refine To 9 rfl fun K hK=>?_
  go_simp
  refine Kz hK ?_
  clear hK K
  refine Wd ?_
  go_wp2_with fail
  go_meet
  exact⟨_,H5,rfl,vB,by rw[← gF,← Z7]at GS;exact GS⟩
 case rest =>
 clear hE hG Zj Yz e9;obtain⟨N,H5,rfl,hG,hr⟩:=hcut;obtain⟨y,hy⟩:∃ y,Itm.mk 4 0 [] [yg [],yy,yg [1,2]]=y:=⟨_,rfl⟩
 have hi:IsItem H5 none 0 (some ⟨N,0,none⟩) 3 y:=by rw[← hy];exact hr.item 4 (by omega) 0 (by omega)
 have Gi:zQ y none 0 (some ⟨N,0,none⟩) 3=[.int .i64 4,.int .u64 0,.slice none 0 0,.slice (some ⟨N,0,none⟩) 3 3]:=by rw[← hy];rfl
 obtain⟨H6,wl,Du,GT⟩:=dx hG (ItemsC.one hi) (by simp);rw[Gi]at wl;have ha:ItemA H6 6 16 none 0 0 (some ⟨wc.heap.size,0,none⟩) 1 1 eZ:=⟨rfl,rfl,rfl,rfl,by rw[eZ,hy];exact GT.item 6 (by omega) 16 (by omega)⟩
 have EN:=Hh (pJ (hTab.mono wl.le) ha _ wl.holds);have tV:=wl.below;clear hr hi Gi hG wl Du GT ha hy;go_wp2_with fail
 refine EN.out.mono ?_
 rintro e w9 (⟨hv,_⟩ | ⟨hv,r,rfl,hfr⟩)
 ·rw[aH]at hv;cases hv
 rw[dm]at hfr;have R:Hid (Fresh w [208,131,64,160,66,1,2] r w9):=⟨hfr.own.more tV.size,tV.trans (hfr.2.mono tV.size)⟩
 clear hfr hv EN;go_wp2_with fail
 go_ret2
 exact⟨_,rfl,R.out⟩
theorem ov {w wr:World}{H Hr:Snap}(h:Grows w H wr Hr) (t:TypeId) (vs:List Value) (ls:List (List UInt8)) (hm:ls.length≤4096)
  (hv:∀ j (hj:j<ls.length),∃ A c,vs[j]? = some (.slice A ls[j].length c)∧IsBytes Hr A c ls[j]) :
  ∃ H',Grows w H (wr.alloc (.cells vs.toArray t)) H'∧Hr.le H'∧IsRows H' (some ⟨wr.heap.size,0,none⟩) ls.length ls:=by
 have h0:Hr wr.heap.size=none:=h.holds.none_of_ge (Nat.le_refl _);have hG:=(h.alloc (.cells vs.toArray t)).withOwn (g:=wr.heap.size) h0 h.size (heap_alloc_new wr _)
 refine⟨_,hG,Snap.le_with h0,⟨Nat.le_refl _,by omega,fun _=>⟨wr.heap.size,0,rfl,fun j hj=>?_⟩⟩⟩
 obtain⟨A,c,h1,h2⟩:=hv j hj
 refine⟨A,c, ?_,h2.mono (Snap.le_with h0)⟩
 simp[Snap.cell?,Snap.with]
 simpa using h1
def WE:List UInt8:=[77,65,67,48]
theorem SI:zi (yD WE yy [] [[]])=[132,100,77,65,67,48,64,64,64]:=by
 simp[yD,WE,wP,zi,zG,yI,xp,Itm.kind,Itm.n,Itm.bytes,Itm.items]
 decide
theorem dy:Lib.validD WE=true:=by kernel_rfl
theorem UW:yU WE yy yy [] [[]]=0:=by
 rw[yU,if_neg (by rw[pL];simp),if_neg (by rw[dy];simp),if_neg];rw[lZ dy (by simp[WE,wP,Itm.items])]
 simp
theorem lh {H:Snap}(hTab:Tabs H) (w:World) (hH:Holds w H) :
  Calls Tryz.prog 7 #[] w fun e w'=>e=.returned (.bool true)∧Below w.heap.size w w':=by
 go_enter Tryz.func7,Tryz.ntmps7
 go_wp2_with fail
 refine(pN _).mono ?_
 rintro e w1 ⟨rfl,zJ⟩
 have sQ:=(Grows.of_below hH zJ).alloc (.cells #[.int .u8 1,.int .u8 2] 5);have EN:=Hh (aI hTab _ sQ.holds w1.heap.size (Blk.new w1 5 #[.int .u8 1,.int .u8 2]));go_wp2_with fail
 refine EN.out.mono ?_
 rintro e w2 ⟨r1,rfl,j7⟩
 obtain⟨A1,c1,rfl,_⟩:=j7.own.form;have xB:=sQ.below_ j7.2;have vl:=j7.own.src;clear EN sQ j7 zJ;go_wp2_with fail
 refine(pN _).mono ?_
 rintro e w3 ⟨rfl,xz⟩
 have yN:=xB.below_ xz;have vl:=vl.below xz
 obtain⟨H4,xl,NQ,GR⟩:=ov yN 23 [.slice none 0 0] [[]] (by simp) (fun j hj=>by
  have:j=0:=by simpa using hj
  subst this
  exact⟨none,0,rfl,IsBytes.nil _⟩)
 have vl:=vl.alloc (.cells #[.slice none 0 0] 23)
 have IN:=Hh (vL (hTab.mono xl.le) (p:=yy) (u:=yy) (a:=⟨none,0,none,0⟩) (b:=⟨none,0,none,0⟩) (IsItem.plain _ 5 0 (by omega) (by omega)) (IsItem.plain _ 5 0 (by omega) (by omega)) ⟨#[77,65,67,48]⟩ (by show(4:Nat)≤_;omega)
  (ext:=[]) (IsBytes.nil _) (by simp) GR (by simp) (by simp) _ xl.holds)
 have tV:=xl.below;clear xB yN xz xl NQ GR;go_wp2_with fail
 refine IN.out.mono ?_
 rintro e w5 ⟨r2,l2,rfl,WY,og⟩
 have Vh:yU (⟨#[77,65,67,48]⟩:ByteArray).data.toList yy yy [] [[]]=0:=UW;rw[if_pos Vh]at og;rw[Vh];replace og:=og.trans SI;subst og;obtain⟨A2,c2,rfl,_⟩:=WY.own.form;have k1:=vP (vl.below WY.2) 7 c1 rfl;have k2:=vP WY.own.src 9 c2 rfl;have zA:=tV.trans (WY.2.mono tV.size);clear IN Vh vl WY tV;go_wp2_with fail
 go_ret
 exact⟨rfl,zA⟩
theorem Dealt.toGrows {w w1 w2:World}{H H1 H2:Snap}{g:Nat}(h:Grows w H w1 H1) (hd:Dealt w1 H1 w2 H2 g) (hg:w.heap.size≤g):Grows w H w2 H2 :=
 ⟨h.below.grown hd.grows.grown h.size (by rintro q ⟨⟩;exact hg),h.le.trans hd.le,hd.holds,fun b o hb=>by
  rcases hd.grows.fresh b o hb with h1 | h1
  ·exact h.fresh b o h1
  exact .inr (Nat.le_trans h.size h1)⟩
theorem IsRows.nil (H:Snap):IsRows H none 0 []:=⟨by simp,by omega,fun h=>by simp at h⟩
theorem Xn {p:Itm}(h:zU p=true) (h5:p.kind=5):p.bytes=[]:=by
 have hf:=y5 (jv ((yw p).1 h).1 (by omega))
 exact List.length_eq_zero_iff.1 hf.2.2.2.1
theorem fS {p:Itm}(h:zU p=true) (h5:p.kind=5) {k v:Itm}(hm:(k,v)∈zg p.items):atL k p.items=some v:=by
 have hs:(atL k p.items).isSome=true:=uj.2 ⟨v,hm⟩
 cases hx:atL k p.items with
 | none=>rw[hx]at hs;cases hs
 | some x =>
 have Wx:=hx;rw[qv]at Wx
 cases hf:(zg p.items).find? (fun p=>yp p.1 k) with
 | none=>rw[hf]at Wx;cases Wx
 | some q =>
 rw[hf]at Wx;injection Wx with Wx
 have h1:=List.mem_of_find?_eq_some hf;have h2:=List.find?_some hf;rw[vh]at h2;have h3:(k,x)∈zg p.items:=by rw[← Wx,← h2];exact h1
 rw[jm _ (((yw _).1 h).1.asc h5) k _ _ h3 hm]
theorem aY {p u:Itm}(hv:zI p u=true) (np:Nums p) (nu:Nums u) {k v v':Itm}(hm:(k,v)∈zg p.items) (hu:(k,v')∈zg u.items):False:=by
 obtain⟨vp,vu,fC,Z4⟩:=xr hv;obtain⟨lp,lu⟩:=oS hv;have kf:xL u p.items=true:=by simp[zI]at hv;exact hv.1.1.2
 rw[ru,List.all_eq_true]at kf;have h1:=kf _ hm
 simp only at h1
 rw[pR Z4 vu nu lu (wY vp (xf hm).1) (np.items.get _ (xf hm).1),fS vu Z4 hu]at h1
 cases h1
theorem XZ {p u:Itm}(hv:zI p u=true) (np:Nums p) (nu:Nums u) {alg:Int}(ha:AlgIn p u alg):wt p u 1=some (zZ alg):=by
 obtain⟨vp,vu,fC,Z4⟩:=xr hv
 unfold wt
 rcases ha with ha | ha
 ·rw[fS vp fC ha]
 cases hx:atL (zZ 1) p.items with
 | none=>exact fS vu Z4 ha
 | some x =>
 have hs:(atL (zZ 1) p.items).isSome=true:=by rw[hx];rfl
 obtain⟨v,hm⟩:=uj.1 hs
 exact(aY hv np nu hm ha).elim
theorem ZD {p u:Itm}(hv:zI p u=true) (np:Nums p) (nu:Nums u) {k:Nat}(hk:k≤1000) (ha:AlgIn p u (k:Int)):rF p u=k:=by
 have h1:lD p u 1=some (zZ (k:Int)):=by
  rw[lD,if_pos hv,show(1:Int)=((1:Nat):Int) from rfl,UQ hv np nu 1 (by omega)]
  exact XZ hv np nu ha
 rw[rF,h1];show bS (zZ (k:Int))=k
 rw[wZ,bS,if_neg (by simp[Itm.kind])];show IntKind.i64.wrap (k:Int)=k
 rw[IntKind.wrap_i64];omega
theorem fI {ctx:List UInt8}{p:Itm}{ext:List UInt8}(hc:Lib.validD ctx=true) (hl:ctx.length+(wP p).length+ext.length≤4000):zU (yD ctx p ext [])=true:=by
 rw[yw]
 refine⟨jR hc, ?_, ?_⟩
 ·simp[yD,cnt,vY]
 have h0:=zC 4 0 [] ([.mk 3 0 ctx [],yg (wP p),yg ext]++([]:List (List UInt8)).map yg) (by omega) (by omega);have h1:=zC 3 0 ctx [] (by omega) (by omega);have h2:(zi (yg (wP p))).length≤_:=zC 2 0 (wP p) [] (by omega) (by omega);have h3:(zi (yg ext)).length≤_:=zC 2 0 ext [] (by omega) (by omega)
 simp only[yD,List.map_nil,List.cons_append,List.nil_append,List.append_nil,zG,List.length_append,List.length_nil]at h0 h1 h2 h3⊢
 omega
theorem Qr {ctx:List UInt8}{p u:Itm}{x:List UInt8}{ys:List (List UInt8)}(hv:zI p u=true) (hs:szL p≤2000) (hc:Lib.validD ctx=true) (hl:ctx.length≤8) (hx:x.length≤600) (hy:ys=[]∨∃ y,ys=[y]∧y.length≤600):yU ctx p u x ys=0:=by
 have vv:=xr hv;have hb:=Y2 vv.2.2.1 (Xn vv.1 vv.2.2.1);rw[yU,if_neg (by rw[hv];simp),if_neg (by rw[hc];simp),if_neg]
 rcases hy with rfl | ⟨y,rfl,hy⟩
 ·rw[fI hc (by omega)]
  simp
 rw[lZ hc (by omega)]
 simp
theorem aG:Lib.validD wW=true:=by kernel_rfl
theorem dB {p u:Itm}(hv:zI p u=true) (hs:szL p≤2000) (np:Nums p) (nu:Nums u) {t:Nat}{alg:Nat}(hg:alg=10∧t=8∨alg=30∧t=16) (ha:AlgIn p u (alg:Int)) {x y key nonce:List UInt8}(hx:x.length≤600) (hy:y.length≤600) (hk:key.length=16) (mz:7≤nonce.length) (hn:nonce.length≤13) :
  yU wW p u x []=0∧sy p u x y key nonce=0∧nh p u x y key nonce=⟨p,u,ly key nonce (zi (yD wW p x [])) y t,[]⟩∧uU key nonce (zi (yD wW p x [])) y t=(0,ly key nonce (zi (yD wW p x [])) y t):=by
 have hi:yU wW p u x []=0:=Qr hv hs aG (by decide) hx (.inl rfl);have Qc:=ZD hv np nu (k:=alg) (by omega) ha
 have ht:nt (rF p u)=t:=by
  rw[Qc]
  rcases hg with ⟨rfl,rfl⟩ | ⟨rfl,rfl⟩ <;> rfl
 have hO:uU key nonce (zi (yD wW p x [])) y t=(0,ly key nonce (zi (yD wW p x [])) y t):=by
  have hb:=qP hi;rw[uU,if_neg (by simp only[vz];rcases hg with ⟨_,rfl⟩ | ⟨_,rfl⟩ <;> simp[hk,hn,mz]),if_neg (by omega)]
 have hR:ng p u x y key nonce=(0,ly key nonce (zi (yD wW p x [])) y t):=by rw[ng,ht,hO]
 have hE:sy p u x y key nonce=0:=by rw[jZ hv (by rw[ht];omega) hi,hR]
 exact⟨hi,hE,by rw[nh,if_pos hE,hR],hO⟩
theorem aZ {p u:Itm}(hv:zI p u=true) (hs:szL p≤2000) (np:Nums p) (nu:Nums u) {t:Nat}{alg:Nat}(hg:alg=5∧t=32∨alg=4∧t=8) (ha:AlgIn p u (alg:Int)) {x y key:List UInt8}(hx:x.length≤600) (hy:y.length≤600) (hk:key.length=16) :
  yU rg p u x [y]=0∧qB p u x y key=0∧fv p u x y key=⟨p,u,y,(sx key (zi (yD rg p x [y]))).take t⟩:=by
 have hi:yU rg p u x [y]=0:=Qr hv hs Xm (by decide) hx (.inr ⟨y,rfl,hy⟩);have Qc:=ZD hv np nu (k:=alg) (by omega) ha
 have ht:nw (rF p u)=t:=by
  rw[Qc]
  rcases hg with ⟨rfl,rfl⟩ | ⟨rfl,rfl⟩ <;> rfl
 have hE:qB p u x y key=0:=by rw[jS hv (by rw[ht];omega) (by omega) (by omega),hi]
 exact⟨hi,hE,by rw[fv,if_pos hE,QA,ht]⟩
theorem aQ (key b:List UInt8):(sx key b).take 32=sx key b:=by
 rw[List.take_of_length_le];rw[ot]
 exact Nat.le_refl _
theorem dY {k:Nat}(h:k=10∨k=30∨k=5∨k=4):eO (zZ (k:Int)):=⟨k,h,wZ k⟩
end Go.Proofs.YtliomcphdnppnaaGreatDoor
