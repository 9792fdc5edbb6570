/- squeezed. Walks: the reference's Build; of p -/
import Derived.Test.YtgaoknihklmakabGreatDoorK09
set_option linter.unusedVariables false
set_option linter.unusedSimpArgs false
set_option maxRecDepth 100000
set_option maxHeartbeats 12800000
namespace Go.Proofs.YtgaoknihklmakabGreatDoor
open Go.RowKit
theorem jaa{P:Prop}(h:P:=by
 have ITH2:=Hh (ih w9 H5 g (some ⟨b,off,none⟩) c l (P1+k) c1 lv (hTab.mono tf.grows.le) hlv tf.psr);clear a0 a1;go_wp2_with fail
 refine ITH2.out.mono ?_
 intro e w12 hs
 cases qU:zZ d (l.drop (P1+k)) c1 with
 | err q =>
  rw[qU,ItemOut]at hs;obtain⟨rfl,H6,p6,cnt6,tl⟩:=hs;have lV:((q:Int) != 0)=true:=by rw[bne_iff_ne];have:=yZ _ _ _ _ qU;omega
  have ig:((q:Int)=0)=False:=eq_false (by have:=yZ _ _ _ _ qU;omega);have E:Hid (ea (vX (zZ d) n (l.drop p) cnt none)=.err q):=by rw[Hid,ur.out,aV L k0 WC.out bO.out (by rw[List.drop_drop];exact qU)];rfl
  have sE:=tf.trans tl;have qz:=xr.rdg tl (by omega);have Yi:=tl.hid sM xr.lt;have hZ:=Blk.new w12 83 #[.int .i64 0,.int .u64 0,.slice none 0 0,.slice none 0 0];have P0:H6 w12.heap.size=none:=sE.psr.holds.none_of_ge (Nat.le_refl _);have mK:=Hh qz.lt;have mM:=sE.alloc zg;have mH:=qz.alloc zg;clear ITH2 qU tl sE qz tf xr mu N5 nY;go_wp2_with (with_reducible refine zx ?_)
  refine stI hZ fun w15 hZ15 hg15=>?_
  have cu:=mM.gb P0 (Nat.le_of_lt mK.out) yC hg15;have gY:=mH.grown hg15 (by intro e;injection e with e;have:=mK.out;omega);clear mM mH hZ hg15 hZ15;go_wp2_with (with_reducible refine zx ?_)
  refine stI gY fun wz hTy zS=>?_
  have yl:=cu.gb Yi (Nat.le_refl _) yC zS;exact jeU
 | ok y k2 c2 =>
 rw[qU,ItemOut]at hs;obtain⟨ka,kb,kd,ke,H6,rfl,tl,oM⟩:=hs
 have Pc:Hid (vX (zZ d) n (l.drop p) cnt none=(vX (zZ d) m1 (l.drop (p+(k0+(k+k2)))) c2 (some key)).pre (L++[x,y]) (k0+(k+k2))):=by
  rw[Hid,ur.out,Wh L k0 WC.out bO.out (by rw[List.drop_drop];exact qU),gX.out,List.drop_drop,← oF.out];rw[show p+k0+(k+k2)=p+(k0+(k+k2)) by omega]
 have Rn:Hid ((L++[x,y]).length≤c2):=by
  have h1:=WA.out;have h2:=vA d _ _ _ _ _ qU;have:=ee.out;rw[Hid,List.length_append];simp;omega
 have sE:=tf.trans tl;have Fs:=sE.psr.cnt_le;have qz:=xr.rdg tl (by omega);have Yi:=tl.hid sM xr.lt;have eW:=mu.rdg tl (by have:=yH.out;omega);have ay:=tl.hid kC mu.lt;have eX:=N5.rdg tl (by have:=I3.out;omega);have eV:=(nY.rdg tl (by have:=yH.out;omega)).mono tl.grows.le;have bC:∀ q,(Value.slice VA L.length vc).ownBlock=some q→H6 q=none:=fun q hq=>tl.hid (pX q hq) (nY.lt q hq).2
 have hZ:=Blk.new w12 83 #[.int .i64 0,.int .u64 0,.slice none 0 0,.slice none 0 0];have P0:H6 w12.heap.size=none:=sE.psr.holds.none_of_ge (Nat.le_refl _);have mK:=Hh (And.intro qz.lt (And.intro eW.lt eX.lt));have cw:=Hh (show ∀ q,(Value.slice VA L.length vc).ownBlock=some q→X+1≤q∧q<w12.heap.size from fun q hq=>eV.lt q hq);have mM:=sE.alloc zg;have mH:=qz.alloc zg;have YZ:=eW.alloc zg;have eY:=eX.alloc zg;have YV:=eV.alloc zg;have ef:=Hh (show L.length≤256 by have:=Rn.out;simp at this;omega);have Ud:ItemsC H6 (ze x ja jb jc jd++ze y ka kb kd ke) [x,y]:=(ItemsC.one (eA.mono tl.grows.le)).app (ItemsC.one oM);clear ITH2 qU tl sE qz eW eX eV tf xr mu N5 nY;go_wp2_with (with_reducible refine zx ?_)
 refine stI hZ fun w15 hZ15 hg15=>?_
 have cu:=mM.gb P0 (Nat.le_of_lt mK.out.1) yC hg15;have gY:=mH.grown hg15 (by intro e;injection e with e;have:=mK.out.1;omega);have Ya:=YZ.grown hg15 (by intro e;injection e with e;have:=mK.out.2.1;omega);have gf:=eY.grown hg15 (by intro e;injection e with e;have:=mK.out.2.2;omega);have Tu:=YV.kl hg15 (fun q hv=>by have:=(cw.out q hv).2;omega);have b0:=hZ15.cell 0 rfl;have b1:=hZ15.cell 1 rfl;have b2:=hZ15.cell 2 rfl;have b3:=hZ15.cell 3 rfl;have y0:=gf.cell 0 rfl;have y1:=gf.cell 1 rfl;have y2:=gf.cell 2 rfl;have y3:=gf.cell 3 rfl;have x3:=Ya.cell 3 rfl;have Ye:=cu.alloc (.cells (ze x ja jb jc jd++ze y ka kb kd ke).toArray 83);have YY:=gY.alloc (.cells (ze x ja jb jc jd++ze y ka kb kd ke).toArray 83);have Yb:=Ya.alloc (.cells (ze x ja jb jc jd++ze y ka kb kd ke).toArray 83)
 have Tv:=Tu.alloc (.cells (ze x ja jb jc jd++ze y ka kb kd ke).toArray 83);clear mM mH YZ eY YV hZ hg15 cu gY Ya gf Tu;go_wp2_with (at_builtin;refine yq ?_)
 refine yJ rfl (.tmp 72) (.tmp 75) rfl (X+1) (.slice VA L.length vc) H6 _ rfl Tv _ 2 _ (ze x ja jb jc jd++ze y ka kb kd ke) [x,y] rfl rfl Ud (Src.new _ _ _ _ rfl _ rfl) (by have:=ef.out;simp;omega) Yb.lt fun v' w17 hO17 hg17 hat17=>?_
 obtain⟨VA',vc',rfl,_⟩:=hO17.form;have Tx:=YY.grown hg17 (fun e=>by have:=(cw.out _ e).1;have:=yH.out;omega);have U0:=Yb.grown hg17 (fun e=>by have:=(cw.out _ e).1;omega);have UA:=sR Ye.psr.holds bC hat17;have U5:=Ye.grownRow bC (fun q hq=>by have:=(cw.out q hq).1;have:=yH.out;omega) yC hg17;obtain⟨L',oR⟩:∃ L',L++[x,y]=L':=⟨_,rfl⟩
 rw[oR]at hO17 UA Pc Rn⊢;have X7:Hid (L'.length=L.length+2):=by rw[Hid,← oR];simp
 clear oR Ye YY Yb Tv hg17 hat17 x3 y0 y1 y2 y3 b0 b1 b2 b3 hZ15;have Td:=Hh (show ∀ q,(Value.slice VA' L'.length vc').ownBlock=some q→X+1≤q from fun q hq=>(hO17.lt q hq).1);go_wp2_with (with_reducible refine zx ?_)
 refine zu rfl _ _ _ rfl rfl X 3 _ rfl rfl _ _ U0 xJ (by simp) rfl fun w18 hX18 hg18=>?_
 have U6:=U5.gb ay (Nat.le_of_lt yH.out) yC hg18;have OD:=Tx.grown hg18 (by intro e;injection e with e;have:=yH.out;omega)
 have OA:=hO17.kept hg18 (by
  cases hv:(Value.slice VA' L'.length vc').ownBlock with
  | none=>exact .inl rfl
  | some q=>exact .inr (fun e=>by injection e with e;have:=Td.out q hv;omega))
 have KI:IntKind.u64.wrap ((i:Int)+1)=(i:Int)+1:=by rw[IntKind.wrap_u64];have:=en.out;omega
 rw[show P1+k+k2=p+(k0+(k+k2)) by have:=oF.out;omega]at U6;have pW:=Hh XG;clear U5 Tx U0 hO17 hg18 XG;go_wp2_with fail
 go_roundw
 case rel=>exact⟨i+1,H6,VA',vc',_,L',k0+(k+k2),c2,some key,_,_,_,by first | rfl | (simp;done) | go_num,rfl,by have:=pW.out;omega,rfl,.inr ⟨by omega,key,rfl,em.out,by have:=Qm.out.1;have:=KK.out;have:=em.out;omega,Gv.out⟩,U6,OD,Yi,hX18,ay,OA,UA,Rn.out,by rw[Yl.out];exact Pc.out⟩
 case measure=>have:=pW.out;simp[intOf];omega):P:=h
theorem jag{P:Prop}(h:P:=by
 refine Ko hK ?_ fun zy=>?_
 ·exact jd8
 clear hK K
 refine To 14 rfl fun K hK=>?_
 rw[if_pos (by rfl)]
 refine zL (.tmp 77) (.tmp 87) rfl wc.heap.size _ H (L.take k) rfl hX _ _ _ (ze y y1 y2 y3 y4++ze z z1 z2 z3 z4) [y,z] rfl rfl ((ItemsC.one rx).app (ItemsC.one mR)) RR (by rw[List.length_take];simp;omega) yg.size fun v7 w7 ik yQ hat7=>?_
 have yg:=yg.grown yQ yg.size (fun q hq=>(hX.lt q hq).1)
 refine Ko hK ?_ fun zy=>?_
 ·exact jd8
 clear hK K
 refine To 18 rfl fun K hK=>?_
 rw[if_pos (by rfl)]
 refine zL (.tmp 88) (.tmp 91) rfl wc.heap.size _ H (L.take k++[y,z]) rfl ik _ _ _ cs2 (L.drop k) rfl (by rw[List.length_drop];omega) dD ?_ (by rw[List.length_append,List.length_take,List.length_drop];simp;omega) yg.size fun v8 w8 lY hg8 hat8=>?_
 ·exact(Src.slicek JN dD Ef WE.out).below yg
 have yg:=yg.grown hg8 yg.size (fun q hq=>(ik.lt q hq).1)
 refine Ko hK ?_ fun zy=>?_
 ·exact jd8
 clear hK K
 refine To 19 rfl fun K hK=>?_
 go_simp
 refine Kz hK ?_
 clear hK K
 refine Wd ?_
 clear zy hX ik hg uF yQ hat7 hg8 hat8 ip RR JM JN oL dD p0 p1 p2 p3 r0 r1 r2 r3 xf;obtain⟨VA',vc',rfl,_⟩:=lY.form;have xF:(L.take k++[y,z]++L.drop k).length=j+2:=by rw[List.length_append,List.length_append,List.length_take,List.length_drop];simp;omega
 rw[xF]at lY;rw[xF];have qT:=lY.more (base':=w.heap.size+1) (by have:=gp.lt;omega);have nC:=pe.trans (yg.mono pe.size);have tD:=gp.below yg;have ef:=Hh xF;clear xF lY;go_wp2_with fail
 go_roundw
 case rel =>
  refine⟨j+2,L.take k++[y,z]++L.drop k,b',VA',vc',by omega,by have:=HJ.out;omega,by go_num,rfl,rfl,ef.out,qT,fun x hx=>?_, ?_,fun h2=>?_,nC,tD⟩
  ·simp only[List.mem_append,List.mem_cons,List.not_mem_nil,or_false]at hx
   rcases hx with (hx | rfl | rfl) | hx
   ·exact HS.out.1 x (List.mem_of_mem_take hx)
   ·exact Yl.out.1
   ·exact Yl.out.2
   exact HS.out.1 x (List.mem_of_mem_drop hx)
  ·rw[aM,Dt.out,HS.out.2.1]
  have M4:=HS.out.2.2 h2;have NI:=RF.out h2
  refine⟨by rw[KE.out h2];exact M4.1, ?_⟩
  rw[Du.out,← M4.2,NI,List.take_of_length_le (by omega),List.drop_of_length_le (by omega)]
  simp
 case measure=>simp[intOf];omega):P:=h
theorem jal{P:Prop}(h:P:=by exact jd8):P:=h
theorem jbm{P:Prop}(h:P:=by have:=ee.out;rw[Hid,List.length_append];simp;omega):P:=h
theorem jbn{P:Prop}(h:P:=by exact⟨c0,c1,c2,c3,xf.cell q0,xf.cell q1,xf.cell q2,xf.cell q3⟩):P:=h
theorem jbH{P:Prop}(h:P:=by
 go_wp2_with fail
 refine zw rfl rfl hTy rfl rfl zt rfl ?_
 exact ItemOut.ok E.out rfl (by rw[← Nat.add_assoc];exact yl) Uc):P:=h
theorem jc7{P:Prop}(h:P:=by
 rcases hf b o hb with h1 | h1
 ·exact h.grows.fresh b o h1
 exact .inr (by have:=hA _ h1;omega)):P:=h
theorem jc8{P:Prop}(h:P:=by
 go_wp2_with fail
 refine zw rfl rfl hTy rfl rfl zt rfl ?_
 exact ItemOut.err (q:=7) E.out rfl yl):P:=h
theorem jc9{P:Prop}(h:P:=by
 go_wp2_with fail
 refine zw rfl rfl hTy rfl rfl zt rfl ?_
 exact ItemOut.err (q:=6) E.out rfl yl):P:=h
theorem jd6{P:Prop}(h:P:=by
 go_wp2_with (with_reducible refine zx ?_)
 refine stI hY fun w8 hY8 hg8=>?_
 have ul:=ux.gb gu (Nat.le_of_lt pw.out) yC hg8;have tD:=vz.grown hg8 (by intro e;injection e with e;have:=pw.out;omega);clear ux vz hY hg8 hY8;go_wp2_with (with_reducible refine zx ?_)
 refine stI tD fun wz hTy zS=>?_
 have yl:=ul.gb sM (Nat.le_refl _) yC zS;exact jaj):P:=h
theorem jd8{P:Prop}(h:P:=by exact⟨(uQ.below yg (Nat.le_refl _)).cell q0,(uQ.below yg (Nat.le_refl _)).cell q1,(uQ.below yg (Nat.le_refl _)).cell q2,(uQ.below yg (Nat.le_refl _)).cell q3,(uQ.below yg (Nat.le_refl _)).cell s0,(uQ.below yg (Nat.le_refl _)).cell s1,(uQ.below yg (Nat.le_refl _)).cell s2,(uQ.below yg (Nat.le_refl _)).cell s3⟩):P:=h
theorem jeR{P:Prop}(h:P:=by
 go_wp2_with fail
 refine zw rfl rfl hTy rfl rfl zt rfl ?_
 exact ItemOut.ok E1.out rfl yl Rc):P:=h
theorem jfB{P:Prop}(h:P:=by have yj:H w.heap.size=none:=hP.holds.none_of_ge (Nat.le_refl _);exact yj):P:=h
theorem jfE{P:Prop}(h:P:=by have hY:=Blk.new w5 83 #[.int .i64 0,.int .u64 0,.slice none 0 0,.slice none 0 0];have gu:H5 w5.heap.size=none:=xS.psr.holds.none_of_ge (Nat.le_refl _);have pw:=Hh (And.intro vN.lt pg.lt);have ld:=Hh (show ∀ q,(Value.slice VA L.length vc).ownBlock=some q→X+1≤q∧q<w5.heap.size from fun q hq=>pv.lt q hq);have ux:=xS.alloc zg;have vz:=vN.alloc zg;have ik:=pg.alloc zg;have vr:=pv.alloc zg;exact And.intro hY (And.intro gu (And.intro pw (And.intro ld (And.intro ux (And.intro vz (And.intro ik vr))))))):P:=h
theorem jfG{P:Prop}(h:P:=by have ul:=ux.gb gu (Nat.le_of_lt pw.out.1) yC hg8;have tD:=vz.grown hg8 (by intro e;injection e with e;have:=pw.out.1;omega);have lY:=ik.grown hg8 (by intro e;injection e with e;have:=pw.out.2;omega);have qT:=vr.kl hg8 (fun q hv=>by have:=(ld.out q hv).2;omega);exact And.intro ul (And.intro tD (And.intro lY qT))):P:=h
theorem jfI{P:Prop}(h:P:=by have hY:=Blk.new w5 83 #[.int .i64 0,.int .u64 0,.slice none 0 0,.slice none 0 0];have gu:H5 w5.heap.size=none:=xS.psr.holds.none_of_ge (Nat.le_refl _);exact And.intro hY gu):P:=h
theorem jfJ{P:Prop}(h:P:=by have pz:H (w.heap.size+1)=none:=hP.holds.none_of_ge (Nat.le_succ _);have vx:=((Rdg.refl hP).alloc zg).alloc zg;have vM:=(Blk.new w 83 #[.int .i64 0,.int .u64 0,.slice none 0 0,.slice none 0 0]).alloc zg;have iL:=Blk.new (w.alloc zg) 83 #[.int .i64 0,.int .u64 0,.slice none 0 0,.slice none 0 0];exact And.intro pz (And.intro vx (And.intro vM iL))):P:=h
theorem jfM{P:Prop}(h:P:=by have uD:=xr.grown hg10 (fun e=>by have:=(ld.out _ e).1;have:=yH.out;omega);have iY:=mu.grown hg10 (fun e=>by have:=(ld.out _ e).1;omega);have pJ:=sR tf.psr.holds pX hat10;have tj:=tf.grownRow pX (fun q hq=>by have:=(ld.out q hq).1;have:=yH.out;omega) yC hg10;exact And.intro uD (And.intro iY (And.intro pJ tj))):P:=h
theorem jfN{P:Prop}(h:P:=by have tf:=ul.alloc (.cells (ze x ja jb jc jd).toArray 83);have xr:=tD.alloc (.cells (ze x ja jb jc jd).toArray 83);have mu:=lY.alloc (.cells (ze x ja jb jc jd).toArray 83);have nY:=qT.alloc (.cells (ze x ja jb jc jd).toArray 83);exact And.intro tf (And.intro xr (And.intro mu nY))):P:=h
theorem jfO{P:Prop}(h:P:=by have vN:=uE.rdg yN (by omega);have sM:=yN.hid rD uE.lt;have pg:=pM.rdg yN (by have:=yH.out;omega);have kC:=yN.hid mL pM.lt;have pv:=(vY.rdg yN (by have:=yH.out;omega)).mono yN.grows.le;exact And.intro vN (And.intro sM (And.intro pg (And.intro kC pv)))):P:=h
theorem jfS{P:Prop}(h:P:=by have tO:=vx.grownRow (row:=some (w.heap.size+1)) (by rintro q ⟨⟩;exact pz) (by rintro q ⟨⟩;exact Nat.le_succ _) yC rW;have vw:=vM.gr rW (by omega);exact And.intro tO vw):P:=h
theorem jf6{P:Prop}(h:P:=by have iL:=Blk.new w3 83 #[.int .i64 0,.int .u64 0,.slice none 0 0,.slice none 0 0];have tp:=ve.alloc zg;have uz:=vq.alloc zg;have yH:=Hh vq.lt;have Rw:H w3.heap.size=none:=ve.psr.holds.none_of_ge (Nat.le_refl _);exact And.intro iL (And.intro tp (And.intro uz (And.intro yH Rw)))):P:=h
theorem jgs{P:Prop}(h:P:=by have yg:=yg.alloc yg.size (.cells #[.int .i64 y.kind,.int .u64 y.n,.slice y1 y.bytes.length y2,.slice y3 y.items.length y4,.int .i64 z.kind,.int .u64 z.n,.slice z1 z.bytes.length z2,.slice z3 z.items.length z4] 83);exact yg):P:=h
theorem jgy{P:Prop}(h:P:=by have RR:=dL yg 83 #[.int .i64 y.kind,.int .u64 y.n,.slice y1 y.bytes.length y2,.slice y3 y.items.length y4,.int .i64 z.kind,.int .u64 z.n,.slice z1 z.bytes.length z2,.slice z3 z.items.length z4];exact RR):P:=h
theorem jgF{P:Prop}(h:P:=by have tO:=tp.gb Rw (Nat.le_of_lt yH.out) yC rW;have vw:=uz.grown rW (by intro e;injection e with e;have:=yH.out;omega);exact And.intro tO vw):P:=h
theorem jgH{P:Prop}(h:P:=by have RL:=Hh (Lr.out _ (HS.out.1 _ (List.getElem_mem (show m<L.length by omega))));have ep:=Hh (show xE ps=true→Lib.compareBytes (zf (L[m]'(by omega))) (zf y)<0 from fun hA=>cX.out hA m (RF.out hA) (by omega));exact And.intro RL ep):P:=h
theorem jgS{P:Prop}(h:P:=by have b0:=hY8.cell 0 rfl;have b1:=hY8.cell 1 rfl;have b2:=hY8.cell 2 rfl;have b3:=hY8.cell 3 rfl;exact And.intro b0 (And.intro b1 (And.intro b2 b3))):P:=h
theorem jhV{P:Prop}(h:P:=by have Mk:=Hh (show xE ps=true→cmp<0 from fun hA=>by have h:=ep.out hA;rw[pD]at h;exact h);exact Mk):P:=h
theorem aD (l:List Itm) (h:xE l=true):∀ i:Nat,xE (l.drop (2*i))=true
 | 0=>by simpa using h
 | i+1=>by
  have ih:=aD l h i;rw[show 2*(i+1)=2*i+2 by omega,← List.drop_drop]
  generalize l.drop (2*i)=m at ih
  match m,ih with
  | [],_=>rfl
  | [_],_=>rfl
  | _::_::m,ih=>exact Uy ih
theorem TD {l:List Itm}(h:xE l=true) {m:Nat}(he:m%2=0) (hm:m+2<l.length):Lib.compareBytes (zf (l[m]'(by omega))) (zf l[m+2])<0:=by
 obtain⟨i,rfl⟩:∃ i,m=2*i:=⟨m/2,by omega⟩
 have h1:=aD l h i;have h2:=jh l (2*i+2) (by omega) hm
 simp only[Nat.add_sub_cancel]at h2
 rw[h1]at h2;have h3:=(Bool.and_eq_true _ _).mp h2.symm;have h4:=of_decide_eq_true h3.1
 simpa using h4
def fJ (w:World) (H:Snap) (ps:List Itm) (e:Ending) (w':World):Prop :=
 ∃ v,(∃ l,e=.returned (.tuple #[v,.int .i64 0])∧Gives w H (.mk 5 0 [] l) v w'∧zR (.mk 5 0 [] l)=true∧(zG l).length=(zG ps).length∧(xE ps=true→l=ps))∨
  (∃ c,e=.returned (.tuple #[v,.int .i64 c])∧c≠0∧Gives w H zQ v w'∧¬ (ps.length%2=0∧xE ps=true∧(∀ x∈ps,zR x=true)∧zR (.mk 5 0 [] ps)=true))
theorem fh {H:Snap}(hTab:Tabs H) {A:Option Addr}{c:Nat}{ps:List Itm}(hr:IsRowI H A c ps) (hl:ps.length≤1099511627776) (w:World) (hH:Holds w H) :
  Calls Tryz.prog 62 #[.slice A ps.length c] w (fJ w H ps):=by
 have hT:=Blk.new w 83 #[.int .i64 0,.int .u64 0,.slice none 0 0,.slice none 0 0];have hb:=zm w zg;have yj:H w.heap.size=none:=hH.none_of_ge (Nat.le_refl _);have HR:=Hh hr;clear hr
 by_cases sV:ps.length%2=0
 case neg =>
  have b1:((ps.length:Int)%2 != 0)=true:=by rw[bne_iff_ne];omega
  have p1:((ps.length:Int)%2=0)=False:=eq_false (by omega);have HE:=Hh sV;clear sV;go_enter Tryz.func62,Tryz.ntmps62
  go_wp2_with fail
  refine zw rfl rfl hT rfl rfl zt rfl ?_
  exact⟨_,.inr ⟨1,rfl,by omega,⟨none,0,none,0,H,rfl,Grows.of_below hH hb,IsItem.plain H 0 0 (by omega) (by omega)⟩,fun h=>HE.out h.1⟩⟩
 have b1:((ps.length:Int)%2 != 0)=false:=by rw[bne_eq_false_iff_eq];omega
 have p1:((ps.length:Int)%2=0)=True:=eq_true (by omega);have HE:=Hh sV;clear sV;go_enter Tryz.func62,Tryz.ntmps62
 go_wp2_with fail
 go_loopw [18] (fun v18 wr=>∃ j:Nat,j≤ps.length∧v18=.int .i64 j∧(∀ x∈ps.take j,zR x=true)∧Below w.heap.size w wr∧Blk wr w.heap.size 83 #[.int .i64 0,.int .u64 0,.slice none 0 0,.slice none 0 0]) (fun v18 _=>ps.length-(intOf v18).toNat)
 case atStart=>exact⟨0,Nat.zero_le _,rfl,by simp,hb,hT⟩
 case round =>
 clear hb hT;obtain⟨j,hj,rfl,ug,ws,uE⟩:=hrel
 by_cases zB:j<ps.length
 ·have vv:=hH.below ws (Nat.le_refl _);obtain⟨ib,io,pf,un⟩:=HR.out.elems (by omega);obtain⟨y1,y2,y3,y4,q0,q1,q2,q3,rx⟩:=un.get j zB;subst pf;have p0:=vv.cell q0;have p1':=vv.cell q1;have p2:=vv.cell q2;have p3:=vv.cell q3;have JF:=vv.alloc (zU ps[j] y1 y2 y3 y4);have V:=Hh (nQ hTab rx.arg _ JF);have zC:=ws.alloc ws.size (zU ps[j] y1 y2 y3 y4);have tK:=uE.alloc (zU ps[j] y1 y2 y3 y4);have W8:ps[j]∈ps:=List.getElem_mem zB;have HT:=Hh (show ps.take (j+1)=ps.take j++[ps[j]] from List.take_succ_eq_append_getElem zB);have Lr:=Hh ug
  generalize ps[j]'zB=x at *
  clear q0 q1 q2 q3 un rx ws uE vv ug
  cases hv:zR x with
  | false =>
   rw[hv]at V;have HX:=Hh (And.intro hv W8);clear hv W8;go_wp2_with fail
   refine V.out.mono ?_
   rintro e w3 ⟨rfl,xy⟩
   have vq:=tK.below xy;have yg:=zC.trans (xy.mono zC.size);clear tK zC xy;go_wp2_with (with_reducible refine zx ?_)
   refine stI vq fun w9 xr yO=>?_
   have vy:=(Grows.of_below hH yg).grownOwn yj (Nat.le_refl _) yO;go_wp2_with fail
   refine zw rfl rfl xr rfl rfl zt rfl ?_
   exact⟨_,.inr ⟨1,rfl,by omega,⟨none,0,none,0,H,rfl,vy,IsItem.plain H 0 0 (by omega) (by omega)⟩,fun h=>by rw[h.2.2.1 x HX.out.2]at HX;cases HX.out.1⟩⟩
  | true =>
  rw[hv]at V;have HX:=Hh hv;clear hv W8;go_wp2_with fail
  refine V.out.mono ?_
  rintro e w3 ⟨rfl,xy⟩
  have vq:=tK.below xy;have yg:=zC.trans (xy.mono zC.size);have oH:(j:Int)+1≤9223372036854775807:=by omega
  clear tK zC xy;go_wp2_with fail
  go_roundw
  case rel=>exact⟨j+1,by omega,by go_num,fun y hy=>by rw[HT.out,List.mem_append]at hy;rcases hy with hy | hy;exact Lr.out y hy;rw[List.mem_singleton.1 hy];exact HX.out,yg,vq⟩
  case measure=>simp[intOf];omega
 have tF:j=ps.length:=by omega
 subst tF;rw[List.take_length]at ug;have Lr:=Hh ug;clear ug;go_wp2_with fail
 go_loopw [6,7,8] (fun v6 v7 v8 wr=>∃ (j:Nat) (L:List Itm) (b:Bool) (VA:Option Addr) (vc:Nat),j≤ps.length∧j%2=0∧v8=.int .i64 (j:Int)∧v7=.bool b∧v6=.slice VA j vc∧L.length=j∧OwnI wr (w.heap.size+1) (.slice VA j vc) H L∧(∀ x∈L,x∈ps)∧
  (zG L).length=(zG (ps.take j)).length∧(xE ps=true→b=false∧L=ps.take j)∧Below w.heap.size w wr∧Blk wr w.heap.size 83 #[.int .i64 0,.int .u64 0,.slice none 0 0,.slice none 0 0]) (fun _ _ v8 _=>ps.length+1-(intOf v8).toNat)
 case atStart=>exact⟨0,[],false,none,0,Nat.zero_le _,rfl,rfl,rfl,rfl,rfl,OwnI.nil _ _ _,by simp,by simp,fun _=>⟨rfl,by simp⟩,ws,uE⟩
 case round =>
 clear ws uE;obtain⟨j,L,b,VA,vc,hj,XE,rfl,rfl,rfl,Ef,vY,W8,fB,h2,ws,uE⟩:=hrel
 have WE:Hid ((j:Int)≤vc):=by
  obtain⟨_,c9,e,h1,_⟩:=vY.form;injection e with _ _ e3
  subst e3;show(j:Int)≤(vc:Int)
  omega
 have HS:=Hh (And.intro W8 (And.intro fB h2));have HJ:=Hh XE;clear W8 fB h2 XE
 by_cases zB:j<ps.length
 ·have sY:j+1<ps.length:=by have:=HJ.out;have:=HE.out;omega
  obtain⟨ib,io,pf,un⟩:=HR.out.elems (by omega);obtain⟨y1,y2,y3,y4,q0,q1,q2,q3,rx⟩:=un.get j zB;obtain⟨z1,z2,z3,z4,s0,s1,s2,s3,mR⟩:=un.get (j+1) sY;subst pf;have RM:=Hh (Lr.out ps[j] (List.getElem_mem zB));have Yl:=Hh (And.intro (List.getElem_mem zB) (List.getElem_mem sY))
  have Dt:=Hh (show(zG (ps.take (j+2))).length=(zG (ps.take j)).length+(zf ps[j]).length+(zf ps[j+1]).length by
   have h1:=uG ps (j+1) sY;have h2:=uG ps j zB;rw[show j+2=j+1+1 by omega,h1,h2];simp only[List.length_append])
  have Du:=Hh (show ps.take (j+2)=ps.take j++[ps[j],ps[j+1]] by
   rw[show j+2=j+1+1 by omega,List.take_succ_eq_append_getElem sY,List.take_succ_eq_append_getElem zB,List.append_assoc];rfl)
  have cX:=Hh (show xE ps=true→∀ m (hm:m+2=j) (hl:m<L.length),Lib.compareBytes (zf L[m]) (zf ps[j])<0 from fun hA m hm hl=>by
   have e:=(HS.out.2.2 hA).2;have IX:m<j:=by omega
   have FB:m<ps.length:=by omega
   have h1:L[m]? = some (ps[m]'FB):=by rw[e,List.getElem?_take,if_pos IX,List.getElem?_eq_getElem]
   rw[List.getElem?_eq_getElem hl]at h1;rw[Option.some.inj h1];have h2:=TD (m:=m) hA (by have:=HJ.out;omega) (by omega);have h3:ps[m+2]'(by omega)=ps[j]:=by congr 1
   rw[h3]at h2
   exact h2)
  generalize ps[j]'zB=y at *
  generalize ps[j+1]'sY=z at *
  clear un;have Yf:(j:Int)<ps.length:=by omega
  have bB:(j:Int)+1<ps.length:=by omega
  have oH:(j:Int)+2≤9223372036854775807:=by omega
  have Mq:Hid (IntKind.i64.wrap ((j:Int)+1)=(j:Int)+1):=IntWalk.i64_in _ (by omega);go_wp2_with fail
  go_loopw [9] (fun v9 wx=>∃ k:Nat,k≤j∧k%2=0∧(xE ps=true→k=j)∧v9=.int .i64 (k:Int)∧OwnI wx (w.heap.size+1) (.slice VA j vc) H L∧Below w.heap.size w wx∧Blk wx w.heap.size 83 #[.int .i64 0,.int .u64 0,.slice none 0 0,.slice none 0 0]) (fun v9 _=>(intOf v9).toNat)
  case atStart=>exact⟨j,Nat.le_refl _,HJ.out,fun _=>rfl,rfl,vY,ws,uE⟩
  case round =>
  clear vY ws uE;obtain⟨k,hk,Up,NI,rfl,bR,pe,gp⟩:=hrel;have RF:=Hh NI;clear NI;have RE:=Hh Up;clear Up;have F6:((k:Nat):Int)≤j:=by omega
  go_upto_region 15 with fail
  go_cut [51] (fun s51 wx=>∃ bb:Bool,s51=.bool bb∧(bb=true→2≤k)∧(xE ps=true→bb=false)∧OwnI wx (w.heap.size+1) (.slice VA j vc) H L∧Below w.heap.size w wx∧Blk wx w.heap.size 83 #[.int .i64 0,.int .u64 0,.slice none 0 0,.slice none 0 0])
  case first =>
   by_cases sL:k=0
   ·subst sL;skip
    refine zj 16 (fun _=>True) (by kernel_rfl) (trivial) (fun zy=>?_)
    refine Tk 0 rfl zy ?_
    refine Tk 1 rfl zy ?_
    refine Tk 2 rfl zy ?_
    refine TkU 3 rfl zy ?_
    refine TkU 4 rfl zy ?_
    refine TkU 5 rfl zy ?_
    refine TkU 6 rfl zy ?_
    refine TkU 7 rfl zy ?_
    refine TkU 8 rfl zy ?_
    refine TkU 9 rfl zy ?_
    refine TkU 10 rfl zy ?_
    refine TkU 11 rfl zy ?_
    refine TkU 12 rfl zy ?_
    refine TkU 13 rfl zy ?_
    refine TkU 14 rfl zy ?_
    refine TkU 15 rfl zy ?_
    refine To 16 rfl fun K hK=>?_
    go_simp
    refine Kz hK ?_
    clear hK K
    refine Wd ?_
    go_wp2_with fail
    go_meet
    exact⟨false,rfl,(fun h=>by cases h),(fun _=>rfl),bR,pe.drew,gp⟩
   obtain⟨m,rfl⟩:∃ m,k=m+2:=⟨k-2,by have:=RE.out;omega⟩
   have IX:m<j:=by omega
   obtain⟨lb,lo,Pt,x1,x2,x3,x4,c0,c1,c2,c3,I8⟩:=bR.cells m (by omega);subst Pt;obtain⟨RL,ep⟩:=jgH
   generalize L[m]'(by omega)=x at *
   have e2:((m+2:Nat):Int)=(m:Int)+2:=by omega
   rw[e2];have oS:IntKind.i64.wrap ((m:Int)+2-2)=(m:Int):=by rw[show(m:Int)+2-2=(m:Int) by omega];exact IntWalk.i64_in _ (by omega)
   have sN:IntKind.i64.wrap (m:Int)=(m:Int):=IntWalk.i64_in _ (by omega);have JZ:(m:Int)<j:=by omega
   have gz:(0:Int)≤(m:Int):=by omega
   have FB:(0:Int)<(m:Int)+2:=by omega
   have xf:=(hH.below pe (Nat.le_refl _)).drew;have p0:=xf.cell q0;have p1:=xf.cell q1;have p2:=xf.cell q2;have p3:=xf.cell q3;have c0:=sz c0;have c1:=sz c1;have c2:=sz c2;have c3:=sz c3;have yg:=pe.drew;have bW:=OwnI.drew bR;have kG:=gp.drew;obtain⟨cmp,pD⟩:∃ cmp,Lib.compareBytes (zf x) (zf y)=cmp:=⟨_,rfl⟩
   have gx:=(wj x).1 RL.out;have gy:=(wj y).1 RM.out;have Oc:=Hh gx;have Od:=Hh gy;have GU:=Hh pD;have Mk:=jhV;clear gx gy pD e2 bR pe gp sL hk;skip
   refine zj 16 (fun w'=>w'.cell? ⟨lb,lo+m*4,none⟩=some (.int .i64 x.kind)∧w'.cell? ⟨lb,lo+m*4+1,none⟩=some (.int .u64 x.n)∧w'.cell? ⟨lb,lo+m*4+2,none⟩=some (.slice x1 x.bytes.length x2)∧w'.cell? ⟨lb,lo+m*4+3,none⟩=some (.slice x3 x.items.length x4)∧w'.cell? ⟨ib,io+j*4,none⟩=some (.int .i64 y.kind)∧w'.cell? ⟨ib,io+j*4+1,none⟩=some (.int .u64 y.n)∧w'.cell? ⟨ib,io+j*4+2,none⟩=some (.slice y1 y.bytes.length y2)∧w'.cell? ⟨ib,io+j*4+3,none⟩=some (.slice y3 y.items.length y4)) (by kernel_rfl) (⟨c0,c1,c2,c3,p0,p1,p2,p3⟩) (fun zy=>?_)
   refine Tk 0 rfl zy ?_
   refine Tk 1 rfl zy ?_
   refine Tk 2 rfl zy ?_
   refine TkG 3 rfl zy ?_
   refine TkG 4 rfl zy ?_
   refine TkG 5 rfl zy ?_
   refine TkG 6 rfl zy ?_
   refine TkG 7 rfl zy ?_
   refine TkG 9 rfl zy ?_
   refine TkG 10 rfl zy ?_
   refine TkG 11 rfl zy ?_
   refine TkG 12 rfl zy ?_
   refine To 8 rfl fun K hK=>?_
   go_simp
   refine(rP x H _ _ x1 _ x2 x3 _ x4 _ 0 Oc.out.1 (by have:=Oc.out.2.2;omega) I8.arg xf).mono ?_
   rintro e w5 ⟨r5,rfl,ua⟩
   obtain⟨RA5,rc5,rfl,_⟩:=ua.own.form;have xf:=xf.below ua.2 (Nat.le_refl _);have yg:=yg.trans (ua.2.mono yg.size);have bW:=bW.below ua.2;have kG:=kG.below ua.2;have cy:=ua.own.src;have c0:=zA c0 ua.2;have c1:=zA c1 ua.2;have c2:=zA c2 ua.2;have c3:=zA c3 ua.2
   refine Ko hK ?_ fun zy=>?_
   ·exact jbn
   clear hK K
   refine To 13 rfl fun K hK=>?_
   go_simp
   refine(rP y H _ _ y1 _ y2 y3 _ y4 _ 0 Od.out.1 (by have:=Od.out.2.2;omega) rx.arg xf).mono ?_
   rintro e w6 ⟨r6,rfl,py⟩
   obtain⟨RA6,rc6,rfl,_⟩:=py.own.form;have xf:=xf.below py.2 (Nat.le_refl _);have yg:=yg.trans (py.2.mono yg.size);have bW:=bW.below py.2;have kG:=kG.below py.2;have cy:=cy.below py.2;have UG:=py.own.src;have c0:=zA c0 py.2;have c1:=zA c1 py.2;have c2:=zA c2 py.2;have c3:=zA c3 py.2
   refine Ko hK ?_ fun zy=>?_
   ·exact jbn
   clear hK K
   refine To 14 rfl fun K hK=>?_
   go_simp
   refine(ss _ RA5 RA6 (zf x) (zf y) (zf x).length (zf y).length rc5 rc6 rfl rfl (by have:=Oc.out.2.2;omega) (by have:=Od.out.2.2;omega) cy UG).mono ?_
   rintro e w7 ⟨rfl,uq⟩
   rw[GU.out];have xf:=xf.below uq (Nat.le_refl _);have yg:=yg.trans (uq.mono yg.size);have bW:=bW.below uq;have kG:=kG.below uq;have c0:=zA c0 uq;have c1:=zA c1 uq;have c2:=zA c2 uq;have c3:=zA c3 uq
   refine Ko hK ?_ fun zy=>?_
   ·exact jbn
   clear hK K
   refine TkG 15 rfl zy ?_
   refine To 16 rfl fun K hK=>?_
   go_simp
   refine Kz hK ?_
   clear hK K
   refine Wd ?_
   clear zy cy UG c0 c1 c2 c3 p0 p1 p2 p3;go_wp2_with fail
   go_meet
   exact⟨decide ((0:Int)<cmp),rfl,(fun _=>by omega),(fun hA=>decide_eq_false (by have:=Mk.out hA;omega)),bW,yg,kG⟩
  case rest =>
  clear bR pe gp;obtain⟨bb,rfl,Ys,Ev,bR,pe,gp⟩:=hcut;have Az:=Hh Ev;clear Ev
  cases bb with
  | true =>
   obtain⟨m,rfl⟩:∃ m,k=m+2:=⟨k-2,by have:=Ys rfl;omega⟩
   have oS:IntKind.i64.wrap (((m+2:Nat):Int)-2)=(m:Int):=by rw[show((m+2:Nat):Int)-2=(m:Int) by omega];exact IntWalk.i64_in _ (by omega)
   clear Ys;go_wp2_with fail
   go_roundw
   case rel=>exact⟨m,by omega,by have:=RE.out;omega,(fun hA=>by have:=Az.out hA;cases this),by first | rfl | go_num,bR,pe,gp⟩
   case measure=>simp[intOf];omega
  | false =>
  clear Ys;go_upto_region 17 with fail
  go_cut [7] (fun s7 wx=>∃ b':Bool,s7=.bool b'∧(k=0→b'=b)∧(xE ps=true→b'=b)∧OwnI wx (w.heap.size+1) (.slice VA j vc) H L∧Below w.heap.size w wx∧Blk wx w.heap.size 83 #[.int .i64 0,.int .u64 0,.slice none 0 0,.slice none 0 0])
  case first =>
   cases b with
   | true =>
    refine zj 20 (fun _=>True) (by kernel_rfl) (trivial) (fun zy=>?_)
    refine Tk 0 rfl zy ?_
    refine Tk 1 rfl zy ?_
    refine TkU 2 rfl zy ?_
    refine TkU 3 rfl zy ?_
    refine TkU 4 rfl zy ?_
    refine TkU 5 rfl zy ?_
    refine TkU 6 rfl zy ?_
    refine TkU 7 rfl zy ?_
    refine TkU 8 rfl zy ?_
    refine TkU 9 rfl zy ?_
    refine TkU 10 rfl zy ?_
    refine TkU 11 rfl zy ?_
    refine TkU 12 rfl zy ?_
    refine TkU 13 rfl zy ?_
    refine TkU 14 rfl zy ?_
    refine TkU 15 rfl zy ?_
    refine TkU 16 rfl zy ?_
    refine TkU 17 rfl zy ?_
    refine TkU 18 rfl zy ?_
    refine Tk 19 rfl zy ?_
    refine To 20 rfl fun K hK=>?_
    go_simp
    refine Kz hK ?_
    clear hK K
    refine Wd ?_
    go_wp2_with fail
    go_meet
    exact⟨true,rfl,(fun _=>rfl),(fun _=>rfl),bR,pe.drew,gp⟩
   | false =>
   by_cases sL:k=0
   ·subst sL
    refine zj 20 (fun _=>True) (by kernel_rfl) (trivial) (fun zy=>?_)
    refine Tk 0 rfl zy ?_
    refine Tk 1 rfl zy ?_
    refine TkG 2 rfl zy ?_
    refine TkG 3 rfl zy ?_
    refine TkG 4 rfl zy ?_
    refine TkU 5 rfl zy ?_
    refine TkU 6 rfl zy ?_
    refine TkU 7 rfl zy ?_
    refine TkU 8 rfl zy ?_
    refine TkU 9 rfl zy ?_
    refine TkU 10 rfl zy ?_
    refine TkU 11 rfl zy ?_
    refine TkU 12 rfl zy ?_
    refine TkU 13 rfl zy ?_
    refine TkU 14 rfl zy ?_
    refine TkU 15 rfl zy ?_
    refine TkU 16 rfl zy ?_
    refine TkU 17 rfl zy ?_
    refine TkG 18 rfl zy ?_
    refine Tk 19 rfl zy ?_
    refine To 20 rfl fun K hK=>?_
    go_simp
    refine Kz hK ?_
    clear hK K
    refine Wd ?_
    go_wp2_with fail
    go_meet
    exact⟨false,rfl,(fun _=>rfl),(fun _=>rfl),bR,pe.drew,gp⟩
   skip
   obtain⟨m,rfl⟩:∃ m,k=m+2:=⟨k-2,by have:=RE.out;omega⟩
   have IX:m<j:=by omega
   obtain⟨lb,lo,Pt,x1,x2,x3,x4,c0,c1,c2,c3,I8⟩:=bR.cells m (by omega);subst Pt;obtain⟨RL,ep⟩:=jgH
   generalize L[m]'(by omega)=x at *
   have e2:((m+2:Nat):Int)=(m:Int)+2:=by omega
   rw[e2];have oS:IntKind.i64.wrap ((m:Int)+2-2)=(m:Int):=by rw[show(m:Int)+2-2=(m:Int) by omega];exact IntWalk.i64_in _ (by omega)
   have sN:IntKind.i64.wrap (m:Int)=(m:Int):=IntWalk.i64_in _ (by omega);have JZ:(m:Int)<j:=by omega
   have gz:(0:Int)≤(m:Int):=by omega
   have FB:(0:Int)<(m:Int)+2:=by omega
   have xf:=(hH.below pe (Nat.le_refl _)).drew;have p0:=xf.cell q0;have p1:=xf.cell q1;have p2:=xf.cell q2;have p3:=xf.cell q3;have c0:=sz c0;have c1:=sz c1;have c2:=sz c2;have c3:=sz c3;have yg:=pe.drew;have bW:=OwnI.drew bR;have kG:=gp.drew;obtain⟨cmp,pD⟩:∃ cmp,Lib.compareBytes (zf x) (zf y)=cmp:=⟨_,rfl⟩
   have gx:=(wj x).1 RL.out;have gy:=(wj y).1 RM.out;have Oc:=Hh gx;have Od:=Hh gy;have GU:=Hh pD;have Mk:=jhV;clear gx gy pD e2 bR pe gp sL hk
   refine zj 20 (fun w'=>w'.cell? ⟨lb,lo+m*4,none⟩=some (.int .i64 x.kind)∧w'.cell? ⟨lb,lo+m*4+1,none⟩=some (.int .u64 x.n)∧w'.cell? ⟨lb,lo+m*4+2,none⟩=some (.slice x1 x.bytes.length x2)∧w'.cell? ⟨lb,lo+m*4+3,none⟩=some (.slice x3 x.items.length x4)∧w'.cell? ⟨ib,io+j*4,none⟩=some (.int .i64 y.kind)∧w'.cell? ⟨ib,io+j*4+1,none⟩=some (.int .u64 y.n)∧w'.cell? ⟨ib,io+j*4+2,none⟩=some (.slice y1 y.bytes.length y2)∧w'.cell? ⟨ib,io+j*4+3,none⟩=some (.slice y3 y.items.length y4)) (by kernel_rfl) (⟨c0,c1,c2,c3,p0,p1,p2,p3⟩) (fun zy=>?_)
   refine Tk 0 rfl zy ?_
   refine Tk 1 rfl zy ?_
   refine TkG 2 rfl zy ?_
   refine TkG 3 rfl zy ?_
   refine TkG 4 rfl zy ?_
   refine TkG 5 rfl zy ?_
   refine TkG 6 rfl zy ?_
   refine TkG 7 rfl zy ?_
   refine TkG 8 rfl zy ?_
   refine TkG 9 rfl zy ?_
   refine TkG 11 rfl zy ?_
   refine TkG 12 rfl zy ?_
   refine TkG 13 rfl zy ?_
   refine TkG 14 rfl zy ?_
   refine To 10 rfl fun K hK=>?_
   go_simp
   refine(rP x H _ _ x1 _ x2 x3 _ x4 _ 0 Oc.out.1 (by have:=Oc.out.2.2;omega) I8.arg xf).mono ?_
   rintro e w5 ⟨r5,rfl,ua⟩
   obtain⟨RA5,rc5,rfl,_⟩:=ua.own.form;have xf:=xf.below ua.2 (Nat.le_refl _);have yg:=yg.trans (ua.2.mono yg.size);have bW:=bW.below ua.2;have kG:=kG.below ua.2;have cy:=ua.own.src;have c0:=zA c0 ua.2;have c1:=zA c1 ua.2;have c2:=zA c2 ua.2;have c3:=zA c3 ua.2
   refine Ko hK ?_ fun zy=>?_
   ·exact jbn
   clear hK K
   refine To 15 rfl fun K hK=>?_
   go_simp
   refine(rP y H _ _ y1 _ y2 y3 _ y4 _ 0 Od.out.1 (by have:=Od.out.2.2;omega) rx.arg xf).mono ?_
   rintro e w6 ⟨r6,rfl,py⟩
   obtain⟨RA6,rc6,rfl,_⟩:=py.own.form;have xf:=xf.below py.2 (Nat.le_refl _);have yg:=yg.trans (py.2.mono yg.size);have bW:=bW.below py.2;have kG:=kG.below py.2;have cy:=cy.below py.2;have UG:=py.own.src;have c0:=zA c0 py.2;have c1:=zA c1 py.2;have c2:=zA c2 py.2;have c3:=zA c3 py.2
   refine Ko hK ?_ fun zy=>?_
   ·exact jbn
   clear hK K
   refine To 16 rfl fun K hK=>?_
   go_simp
   refine(ss _ RA5 RA6 (zf x) (zf y) (zf x).length (zf y).length rc5 rc6 rfl rfl (by have:=Oc.out.2.2;omega) (by have:=Od.out.2.2;omega) cy UG).mono ?_
   rintro e w7 ⟨rfl,uq⟩
   rw[GU.out];have xf:=xf.below uq (Nat.le_refl _);have yg:=yg.trans (uq.mono yg.size);have bW:=bW.below uq;have kG:=kG.below uq;have c0:=zA c0 uq;have c1:=zA c1 uq;have c2:=zA c2 uq;have c3:=zA c3 uq
   refine Ko hK ?_ fun zy=>?_
   ·exact jbn
   clear hK K
   refine TkG 17 rfl zy ?_
   refine TkG 18 rfl zy ?_
   refine Tk 19 rfl zy ?_
   refine To 20 rfl fun K hK=>?_
   go_simp
   refine Kz hK ?_
   clear hK K
   refine Wd ?_
   clear zy cy UG c0 c1 c2 c3 p0 p1 p2 p3;go_wp2_with fail
   go_meet
   exact⟨cmp==0,rfl,(fun h=>absurd h (by omega)),(fun hA=>by rw[beq_eq_false_iff_ne];have:=Mk.out hA;omega),bW,yg,kG⟩
  case rest =>
  clear bR pe gp;obtain⟨b',rfl,N6,Po,bR,pe,gp⟩:=hcut;have KE:=Hh Po;clear Po;have HB:=Hh N6;clear N6;obtain⟨cs1,cs2,oL,dD,JM,JN⟩:=bR.parts k;have xf:=(hH.below pe (Nat.le_refl _)).drew;have uQ:=hH.below pe (Nat.le_refl _);have p0:=xf.cell q0;have p1:=xf.cell q1;have p2:=xf.cell q2;have p3:=xf.cell q3;have r0:=xf.cell s0;have r1:=xf.cell s1;have r2:=xf.cell s2;have r3:=xf.cell s3;have yg:=(Below.refl wc.heap.size wc).drew;have AE:((j:Int)+1).toNat=j+1:=by omega
  have Ac:(0:Int)≤(j:Int)+1:=by omega
  have oS:=Mq.out;have AH:(k:Int)≤vc:=Int.le_trans F6 WE.out;have sL:(0:Int)≤k:=Int.natCast_nonneg k;go_upto_region 18 with fail
  refine zj 19 (fun w'=>w'.cell? ⟨ib,io+j*4,none⟩=some (.int .i64 y.kind)∧w'.cell? ⟨ib,io+j*4+1,none⟩=some (.int .u64 y.n)∧w'.cell? ⟨ib,io+j*4+2,none⟩=some (.slice y1 y.bytes.length y2)∧w'.cell? ⟨ib,io+j*4+3,none⟩=some (.slice y3 y.items.length y4)∧w'.cell? ⟨ib,io+(j+1)*4,none⟩=some (.int .i64 z.kind)∧w'.cell? ⟨ib,io+(j+1)*4+1,none⟩=some (.int .u64 z.n)∧w'.cell? ⟨ib,io+(j+1)*4+2,none⟩=some (.slice z1 z.bytes.length z2)∧w'.cell? ⟨ib,io+(j+1)*4+3,none⟩=some (.slice z3 z.items.length z4)) (by kernel_rfl) (⟨p0,p1,p2,p3,r0,r1,r2,r3⟩) (fun zy=>?_)
  refine Tk 0 rfl zy ?_
  refine Tk 1 rfl zy ?_
  refine Tk 2 rfl zy ?_
  refine Tk 4 rfl zy ?_
  refine Tk 5 rfl zy ?_
  refine Tk 6 rfl zy ?_
  refine Tk 7 rfl zy ?_
  refine Tk 8 rfl zy ?_
  refine Tk 9 rfl zy ?_
  refine Tk 10 rfl zy ?_
  refine Tk 11 rfl zy ?_
  refine Tk 12 rfl zy ?_
  refine Tk 15 rfl zy ?_
  refine Tk 16 rfl zy ?_
  refine Tk 17 rfl zy ?_
  refine Ways.two (i:=3) (j:=13) rfl rfl (by kernel_rfl) (fun K hK=>?_) (fun K hK=>?_)
  ·rw[if_pos (by rfl)]
   refine zL (.const (.slice none 0 0)) (.tmp 76) rfl wc.heap.size (.slice none 0 0) H [] rfl (OwnI.nil _ _ _) _ _ _ cs1 (L.take k) rfl (by rw[List.length_take];omega) oL (JM.below yg) (by simp;omega) yg.size fun v5 w5 hX hg uF=>?_
   rw[List.nil_append]at hX;have ip:=jhh;have yg:=yg.trans (ip.mono yg.size)
   try have RR:=RR.below ip
   refine Ko hK ?_ fun zy=>?_
   ·exact jal
   clear hK K
   refine To 13 rfl fun K hK=>?_
   go_simp
   have RR:=jgy
   try have hX:=hX.alloc (.cells #[.int .i64 y.kind,.int .u64 y.n,.slice y1 y.bytes.length y2,.slice y3 y.items.length y4,.int .i64 z.kind,.int .u64 z.n,.slice z1 z.bytes.length z2,.slice z3 z.items.length z4] 83)
   have yg:=jgs
   exact jag
  go_simp
  have RR:=jgy
  try have hX:=hX.alloc (.cells #[.int .i64 y.kind,.int .u64 y.n,.slice y1 y.bytes.length y2,.slice y3 y.items.length y4,.int .i64 z.kind,.int .u64 z.n,.slice z1 z.bytes.length z2,.slice z3 z.items.length z4] 83)
  have yg:=jgs
  refine Ko hK ?_ fun zy=>?_
  ·exact jal
  clear hK K
  refine To 3 rfl fun K hK=>?_
  rw[if_pos (by rfl)]
  refine zL (.const (.slice none 0 0)) (.tmp 76) rfl wc.heap.size (.slice none 0 0) H [] rfl (OwnI.nil _ _ _) _ _ _ cs1 (L.take k) rfl (by rw[List.length_take];omega) oL (JM.below yg) (by simp;omega) yg.size fun v5 w5 hX hg uF=>?_
  rw[List.nil_append]at hX;have ip:=jhh;have yg:=yg.trans (ip.mono yg.size)
  try have RR:=RR.below ip
  exact jag
 have tF:j=ps.length:=by omega
 subst tF;have PT:(zG L).length=(zG ps).length:=by have:=HS.out.2.1;rw[List.take_length]at this;exact this
 have Ed:xE ps=true→b=false∧L=ps:=fun h=>by have:=HS.out.2.2 h;rw[List.take_length]at this;exact this
 have HZ:=Hh (And.intro PT Ed);clear PT Ed
 cases b with
 | true =>
  go_wp2_with (with_reducible refine zx ?_)
  refine stI uE fun w9 xr yO=>?_
  have vy:=(Grows.of_below hH ws).grownOwn yj (Nat.le_refl _) yO;go_wp2_with fail
  refine zw rfl rfl xr rfl rfl zt rfl ?_
  exact⟨_,.inr ⟨7,rfl,by omega,⟨none,0,none,0,H,rfl,vy,IsItem.plain H 0 0 (by omega) (by omega)⟩,fun h=>by have:=(HZ.out.2 h.2.1).1;cases this⟩⟩
 | false =>
 obtain⟨H8,f7,IJ,Ub,WS,qZ,qa,U7⟩:=vY.snap (hH.below ws (Nat.le_refl _)) (fun g hg=>hH.none_of_ge (by have:=(vY.lt g (ti hg)).1;omega))
 have ey:Grows w H wr H8:=⟨ws,f7,IJ,fun b o hb=>by
  rcases Ub b o hb with h | h
  ·exact .inl h
  exact .inr (by have:=(vY.lt b (ti h)).1;omega)⟩
 have FC:H8 w.heap.size=none:=by
  cases h8:H8 w.heap.size with
  | none=>rfl
  | some o =>
  rcases Ub _ o h8 with h | h
  ·rw[yj]at h;cases h
  have:=(vY.lt w.heap.size (ti h)).1;omega
 have Fl:=WS;obtain⟨x7,PN⟩:∃ x,Itm.mk 5 0 [] L=x:=⟨_,rfl⟩
 have F3:IsItem H8 none 0 VA vc x7:=by
  rw[← PN,IsItem]
  exact⟨⟨by omega,by omega,by omega,qZ,qa⟩,IsBytes.nil _,U7⟩
 have P4:ItemA H8 5 0 none 0 0 VA ps.length vc x7:=by
  refine⟨by rw[← PN];rfl,by rw[← PN];rfl,by rw[← PN];rfl, ?_,F3⟩
  rw[← PN];exact WS
 have vy:=ey.alloc (.cells #[.int .i64 5,.int .u64 0,.slice none 0 0,.slice VA ps.length vc] 83);have xr:=uE.alloc (.cells #[.int .i64 5,.int .u64 0,.slice none 0 0,.slice VA ps.length vc] 83);have iI:=Blk.new wr 83 #[.int .i64 5,.int .u64 0,.slice none 0 0,.slice VA ps.length vc];have V:=Hh (nQ (hTab.mono f7) P4 _ vy.holds);have Aw:=Hh P4;have He:=Hh PN;clear PN F3 P4 qZ qa U7 WS Fl Ub vY uE
 cases hv:zR x7 with
 | false =>
  rw[hv]at V;have HV:=Hh hv;clear hv;go_wp2_with fail
  refine V.out.mono ?_
  rintro e w10 ⟨rfl,vd⟩
  have sK:=vy.below_ vd;have uD:=xr.below vd;clear vy xr iI ey vd;go_wp2_with (with_reducible refine zx ?_)
  refine stI uD fun w11 cg hg11=>?_
  have pV:=sK.grownOwn FC (Nat.le_refl _) hg11;go_wp2_with fail
  refine zw rfl rfl cg rfl rfl zt rfl ?_
  exact⟨_,.inr ⟨8,rfl,by omega,⟨none,0,none,0,H8,rfl,pV,IsItem.plain H8 0 0 (by omega) (by omega)⟩,fun h=>by
   have h1:=HV.out;rw[← He.out,(HZ.out.2 h.2.1).2,h.2.2.2]at h1
   cases h1⟩⟩
 | true =>
 rw[hv]at V;have HV:=Hh hv;clear hv;go_wp2_with fail
 refine V.out.mono ?_
 rintro e w10 ⟨rfl,vd⟩
 have sK:=vy.below_ vd;have uD:=xr.below vd;have Qn:=iI.below vd;have c0:=Qn.cell 0 rfl;have c1:=Qn.cell 1 rfl;have c2:=Qn.cell 2 rfl;have c3:=Qn.cell 3 rfl;have C:=Hh (Sy x7 H8 _ _ _ _ _ _ _ _ w10 (wi HV.out) Aw.out sK.holds);clear vy xr iI ey vd;go_wp2_with fail
 refine C.out.mono ?_
 rintro e w11 ⟨v11,rfl,ja,jb,jc,jd,DS,rfl,pV,Fy⟩
 have cg:=uD.below pV.below;have GF:=pV.none FC uD.lt;have cf:=sK.trans pV;clear uD sK pV c0 c1 c2 c3;go_wp2_with (with_reducible refine zx ?_)
 refine stI cg fun w12 bH hg12=>?_
 have kB:=cf.grownOwn GF (Nat.le_refl _) hg12;go_wp2_with fail
 refine zw rfl rfl bH rfl rfl zt rfl ?_
 exact⟨_,.inl ⟨L,rfl,by rw[He.out];exact⟨ja,jb,jc,jd,DS,rfl,kB,Fy⟩,by rw[He.out];exact HV.out,HZ.out.1,fun h=>(HZ.out.2 h).2⟩⟩
theorem uB {H H':Snap}{A:Option Addr}(hf:∀ b o,H' b=some o→H b=some o∨A.map (·.block)=some b) {q:Nat}(h0:H q=none) (hA:A.map (·.block)=some q→False):H' q=none:=by
 cases h:H' q with
 | none=>rfl
 | some o =>
 rcases hf q o h with h1 | h1
 ·rw[h0]at h1;cases h1
 exact(hA h1).elim
theorem sR {wr:World}{Hr:Snap}(hH:Holds wr Hr) {r0 r:Option Nat}(h0:∀ q,r0=some q→Hr q=none) (h:At0 wr r0 r):∀ q,r=some q→Hr q=none:=fun q hq=>by
 rcases h with h | ⟨g,h1,h2⟩
 ·exact h0 q (by rw[← h,hq])
 rw[hq]at h1;injection h1 with h1;subst h1;exact hH.none_of_ge h2
theorem Dealt.snap {w w':World}{H H' H'':Snap}{g B:Nat}{A:Option Addr}(h:Dealt w H w' H' g) (hl:H'.le H'') (hh:Holds w' H'') (hf:∀ b o,H'' b=some o→H' b=some o∨A.map (·.block)=some b)
  (hA:∀ q,A.map (·.block)=some q→B≤q) (hB:w.heap.size≤B) (hg:g<w.heap.size):Dealt w H w' H'' g:=by
 refine⟨⟨h.grows.grown,h.grows.le.trans hl,hh,fun b o hb=>?_⟩,h.deck.deck.mono hl,hh,uB hf h.deck.apart (fun e=>by have:=hA _ e;omega)⟩
 exact jc7
def PL.pre (L:List Itm) (k0:Nat):PL→PL
 | .err q=>.err q
 | .ok l k c=>.ok (L++l) (k0+k) c
theorem oc {p:List UInt8→Nat→PR}{m:Nat}{b:List UInt8}{cc q:Nat}(L:List Itm) (k0:Nat) (h:p b cc=.err q):(uw p (m+1) b cc).pre L k0=.err q:=by rw[uw,h];rfl
theorem ng {p:List UInt8→Nat→PR}{m:Nat}{b:List UInt8}{cc k c':Nat}{x:Itm}(L:List Itm) (k0:Nat) (h:p b cc=.ok x k c'):(uw p (m+1) b cc).pre L k0=(uw p m (b.drop k) c').pre (L++[x]) (k0+k):=by
 rw[uw,h]
 simp only
 cases uw p m (b.drop k) c' with
 | err q=>rfl
 | ok l k2 c2=>simp[PL.pre,Nat.add_assoc]
theorem lG (r:PL):r.pre [] 0=r:=by cases r <;> simp[PL.pre]
theorem Rdg.snap {T:TypeId}{w w':World}{H H' H'':Snap}{g B:Nat}{A0:Option Addr}{c:Nat}{l:List UInt8}{p cnt:Nat}{A:Option Addr}(h:Rdg T w H w' H' g A0 c l p cnt) (hl:H'.le H'') (hh:Holds w' H'') (hf:∀ b o,H'' b=some o→H' b=some o∨A.map (·.block)=some b)
  (hA:∀ q,A.map (·.block)=some q→B≤q) (hB:w.heap.size≤B) (hg:g<w.heap.size):Rdg T w H w' H'' g A0 c l p cnt:=by
 refine⟨⟨h.grows.grown,h.grows.le.trans hl,hh,fun b o hb=>?_⟩,h.psr.blk,h.psr.bytes.mono hl,hh, ?_,h.psr.le,h.psr.small,h.psr.cnt_le⟩
 ·exact jc7
 cases hx:H'' g with
 | none=>rfl
 | some o =>
 rcases hf g o hx with h1 | h1
 ·rw[h.psr.apart]at h1;cases h1
 have:=hA _ h1;omega
section
variable {d:Nat} {w:World} {H:Snap} {g:Nat} {A:Option Addr} {c:Nat} {l:List UInt8} {p cnt lv:Nat}
theorem Sn (ih:aw d) (hTab:Tabs H) (hlv:lv+(d+1)=8) (hP:Psr 117 w g H A c l p cnt) (hc:cnt<256) {f n k:Nat}(hh:zJ (l.drop p)=.ok (f,n,k)) (hk:f/32=4):Calls Tryz.prog 80 #[.pointer (some ⟨g,0,none⟩),.int .i64 (lv:Int)] w (ItemOut 117 w H g A c l p (zZ (d+1) (l.drop p) cnt)):=by
 obtain⟨yC,vx,vM,yj⟩:=jfx;have c2:=jf5;have E0:=Hh (dl d (l.drop p) cnt (by omega) hh hk);have S:(f:Int)/32=4:=by omega
 have Yg:¬ ((8:Int)≤(lv:Int)):=by omega
 have KL:=jg5;have W7:(lv:Int)≤8:=by omega
 have wU:((cnt:Int)==256)=false:=by simp;omega
 obtain⟨xL,KC,HC⟩:=jfC;clear hc;go_enter Tryz.func80,Tryz.ntmps80
 go_wp2_with (with_reducible refine zx ?_)
 refine zu rfl _ _ _ rfl rfl g 2 (.int .i64 ((cnt:Int)+1)) rfl rfl _ _ vx.psr.blk yp (by simp) rfl fun w2 yT zM=>?_
 obtain⟨vO,tK,PH⟩:=jfD;clear vx vM yT zM c2 KC wU xL;go_wp2_with fail
 refine PH.out.mono ?_
 intro e w3 hs
 rw[HeadSaid,hh]at hs;obtain⟨rfl,vL,yY⟩:=hs;have HS:=wP hh;have rh:p+k≤l.length:=by have:=HS.le;rw[List.length_drop]at this;have:=hP.le;omega
 obtain⟨ve,vq,HF⟩:=jfH;clear vO tK vL yY PH HS hh;rw[List.drop_drop]at E0;obtain⟨iL,tp,uz,yH,Rw⟩:=jf6;clear ve vq;go_wp2_with (with_reducible refine zx ?_)
 refine stI iL fun w4 lX rW=>?_
 obtain⟨tO,vw⟩:=jgF;clear tp uz iL rW;obtain⟨X,nZ⟩:∃ X,w3.heap.size=X:=⟨_,rfl⟩
 rw[nZ]at lX Rw yH⊢;clear nZ;have Ix:=Hh HF.out.n_lt;obtain⟨P,Oy⟩:∃ P,p+k=P:=⟨_,rfl⟩
 rw[Oy]at tO E0;go_wp2_with fail
 go_loopw [7] (fun v7 wr=>∃ (m:Nat) (Hr:Snap) (VA:Option Addr) (vc vn:Nat) (L:List Itm) (k0 cc:Nat),v7=.int .u64 (m:Int)∧m≤n∧vn=L.length∧Rdg 117 w H wr Hr g A c l (P+k0) cc∧Blk wr w.heap.size 83 #[.int .i64 0,.int .u64 0,.slice none 0 0,.slice none 0 0]∧Hr w.heap.size=none∧
  Blk wr X 83 #[.int .i64 4,.int .u64 0,.slice none 0 0,.slice VA vn vc]∧Hr X=none∧OwnI wr (X+1) (.slice VA vn vc) Hr L∧(∀ q,(Value.slice VA vn vc).ownBlock=some q→Hr q=none)∧L.length≤cc∧
  uw (zZ d) n (l.drop P) (cnt+1)=(uw (zZ d) m (l.drop (P+k0)) cc).pre L k0) (fun v7 _=>(intOf v7).toNat)
 case atStart=>exact⟨n,H,none,0,0,[],0,cnt+1,rfl,Nat.le_refl _,rfl,tO,vw,yj,lX,Rw,OwnI.nil _ _ H,by intro q hq;simp[Value.ownBlock]at hq,by simp,by rw[lG];rfl⟩
 case round =>
 clear tO vw lX;obtain⟨m,Hr,VA,vc,vn,L,k0,cc,rfl,MR,rfl,td,uE,rD,pM,mL,vY,pQ,X8,qO⟩:=hrel;have rf:=Hh qO;have ee:=Hh X8;have Gi:=Hh MR;clear qO X8 MR
 by_cases gz:0<m
 ·obtain⟨m1,rfl⟩:∃ m1,m=m1+1:=⟨m-1,by omega⟩
  have XG:(0:Int)<((m1+1:Nat):Int):=by omega
  have IT:=ih wr Hr g A c l (P+k0) cc (lv+1) (hTab.mono td.grows.le) (by omega) td.psr;rw[show((lv+1:Nat):Int)=(lv:Int)+1 by omega]at IT;have ITH:=Hh IT;have hXl:=Hh pM.lt;clear IT;go_wp2_with fail
  refine ITH.out.mono ?_
  intro e w5 hs
  cases hp:zZ d (l.drop (P+k0)) cc with
  | err q =>
   rw[hp,ItemOut]at hs;obtain⟨rfl,H5,p5,cnt5,yN⟩:=hs;have lV:((q:Int) != 0)=true:=by rw[bne_iff_ne];have:=yZ _ _ _ _ hp;omega
   have ig:=jf9;have E:Hid (zZ (d+1) (l.drop p) cnt=.err q):=by rw[Hid,E0.out,rf.out,oc L k0 hp]
   have xS:=td.trans yN;have vN:=uE.rdg yN (by omega);have sM:=yN.hid rD uE.lt;obtain⟨hY,gu⟩:=jfI;have pw:=Hh vN.lt;have ux:=xS.alloc zg;have vz:=vN.alloc zg;clear ITH hp td yN uE pM vY pQ rf ee xS vN;exact jd6
  | ok x k' c' =>
  rw[hp,ItemOut]at hs;obtain⟨ja,jb,jc,jd,H5,rfl,yN,eA⟩:=hs
  have kF:Hid (uw (zZ d) n (l.drop P) (cnt+1)=(uw (zZ d) m1 (l.drop (P+(k0+k'))) c').pre (L++[x]) (k0+k')):=by
   rw[Hid,rf.out,ng L k0 hp,List.drop_drop,Nat.add_assoc]
  have jW:Hid ((L++[x]).length≤c'):=by
   have:=vA d _ _ _ _ _ hp;exact jbm
  have xS:=td.trans yN;rw[Nat.add_assoc]at xS;have Pp:=xS.psr.cnt_le;obtain⟨vN,sM,pg,kC,pv⟩:=jfO;have pX:∀ q,(Value.slice VA L.length vc).ownBlock=some q→H5 q=none:=fun q hq=>yN.hid (pQ q hq) (vY.lt q hq).2
  obtain⟨hY,gu,pw,ld,ux,vz,ik,vr⟩:=jfE;have ef:=Hh (show L.length≤256 by have:=jW.out;simp at this;omega);clear ITH hp td yN uE pM vY pQ rf ee xS vN pg pv;go_wp2_with (with_reducible refine zx ?_)
  refine stI hY fun w8 hY8 hg8=>?_
  obtain⟨ul,tD,lY,qT⟩:=jfG;obtain⟨b0,b1,b2,b3⟩:=jgS;have x3:=lY.cell 3 rfl;obtain⟨tf,xr,mu,nY⟩:=jfN;clear ux vz ik vr hY hg8 ul tD lY qT;go_wp2_with (at_builtin;refine yq ?_)
  refine yJ rfl (.tmp 159) (.tmp 161) rfl (X+1) (.slice VA L.length vc) H5 _ rfl nY _ 1 _ (ze x ja jb jc jd) [x] rfl rfl (ItemsC.one eA) (Src.new _ _ _ _ rfl _ rfl) (by have:=ef.out;simp;omega) mu.lt fun v' w10 hO10 hg10 hat10=>?_
  obtain⟨VA',vc',rfl,_⟩:=hO10.form;obtain⟨uD,iY,pJ,tj⟩:=jfM;obtain⟨L',oR⟩:∃ L',L++[x]=L':=⟨_,rfl⟩
  rw[oR]at hO10 pJ kF jW⊢;have X7:Hid (L'.length=L.length+1):=by rw[Hid,← oR];simp
  clear oR tf xr mu nY hg10 hat10 x3;have Jo:=Hh (show ∀ q,(Value.slice VA' L'.length vc').ownBlock=some q→X+1≤q from fun q hq=>(hO10.lt q hq).1);go_wp2_with (with_reducible refine zx ?_)
  refine zu rfl _ _ _ rfl rfl X 3 _ rfl rfl _ _ iY xJ (by simp) rfl fun w11 hX11 hg11=>?_
  have Fw:=tj.gb kC (Nat.le_of_lt yH.out) yC hg11;have cg:=uD.grown hg11 (by intro e;injection e with e;have:=yH.out;omega)
  have Fm:=hO10.kept hg11 (by
   cases hv:(Value.slice VA' L'.length vc').ownBlock with
   | none=>exact .inl rfl
   | some q=>exact .inr (fun e=>by injection e with e;have:=Jo.out q hv;omega))
  have KM:IntKind.u64.wrap (((m1+1:Nat):Int)-1)=(m1:Int):=by rw[show((m1+1:Nat):Int)-1=(m1:Int) by omega,IntKind.wrap_u64];have:=Ix.out;have:=Gi.out;omega
  have KM2:IntKind.u64.wrap (m1:Int)=(m1:Int):=by rw[IntKind.wrap_u64];have:=Ix.out;have:=Gi.out;omega
  clear tj uD iY hO10 hg11;go_wp2_with fail
  go_roundw
  case rel=>exact⟨m1,H5,VA',vc',_,L',k0+k',c',by first | rfl | (simp;done) | go_num,by have:=Gi.out;omega,rfl,Fw,cg,sM,hX11,kC,Fm,pJ,jW.out,kF.out⟩
  case measure=>simp[intOf];try omega
 have hm:m=0:=by omega
 subst hm
 have E1:Hid (zZ (d+1) (l.drop p) cnt=.ok (.mk 4 0 [] L) (k+k0) cc):=by
  rw[Hid,E0.out,rf.out,uw];simp[PL.pre]
 obtain⟨H5,bZ,XD,ua,XL,qZ,qa,lN⟩:=vY.snap td.psr.holds (fun q hq=>pQ q (ti hq));have xN:∀ q,VA.map (·.block)=some q→X+1≤q:=fun q hq=>(vY.lt q (ti hq)).1
 have Rf:H5 w.heap.size=none:=uB ua rD (fun e=>by have:=xN _ e;have:=yH.out;omega);have xS:Rdg 117 w H wr H5 g A c l (P+k0) cc:=td.snap (B:=X+1) bZ XD ua xN (by have:=yH.out;omega) yC;have b0:=pM.cell 0 rfl;have b1:=pM.cell 1 rfl;have b2:=pM.cell 2 rfl;have b3:=pM.cell 3 rfl;have Rc:IsItem H5 none 0 VA vc (.mk 4 0 [] L):=IsRowI.item ⟨qZ,qa,lN⟩ 4 (by omega) 0 (by omega);have Gl:=Hh Oy;clear vY ua lN XD bZ rD pQ xN td rf Oy;go_wp2_with (with_reducible refine zx ?_)
 refine stI uE fun wz hTy zS=>?_
 have yl:=xS.gb Rf (Nat.le_refl _) yC zS;go_wp2_with fail
 refine zw rfl rfl hTy rfl rfl zt rfl ?_
 exact ItemOut.ok E1.out rfl (by rw[← Nat.add_assoc,Gl.out];exact yl) Rc
end
section
variable {p:List UInt8→Nat→PR} {m:Nat} {b:List UInt8} {cc q k c1 k2 c2:Nat} {x y:Itm} {last:Option (List UInt8)}
theorem Sc (L:List Itm) (k0:Nat) (h:p b cc=.err q):(vX p (m+1) b cc last).pre L k0=.err q:=by rw[vX,h];rfl
theorem aW (L:List Itm) (k0:Nat) (h:p b cc=.ok x k c1) (h2:rn last (b.take k)=some q):(vX p (m+1) b cc last).pre L k0=.err q:=by rw[vX,h];simp only;rw[h2];rfl
theorem aV (L:List Itm) (k0:Nat) (h:p b cc=.ok x k c1) (h2:rn last (b.take k)=none) (h3:p (b.drop k) c1=.err q):(vX p (m+1) b cc last).pre L k0=.err q:=by rw[vX,h];simp only;rw[h2];simp only;rw[h3];rfl
theorem Wh (L:List Itm) (k0:Nat) (h:p b cc=.ok x k c1) (h2:rn last (b.take k)=none) (h3:p (b.drop k) c1=.ok y k2 c2):(vX p (m+1) b cc last).pre L k0=(vX p m (b.drop (k+k2)) c2 (some (b.take k))).pre (L++[x,y]) (k0+(k+k2)):=by
 rw[vX,h];simp only;rw[h2];simp only;rw[h3];simp only
 cases vX p m (b.drop (k+k2)) c2 (some (b.take k)) with
 | err q=>rfl
 | ok l k3 c3=>simp[PL.pre,Nat.add_assoc]
end
def ea (r:PL):PR:=match r with
 | .err q=>.err q
 | .ok L k c=>.ok (.mk 5 0 [] L) k c
section
variable {d:Nat} {w:World} {H:Snap} {g:Nat} {A:Option Addr} {c:Nat} {l:List UInt8} {p cnt lv:Nat}
theorem QU (ih:aw d) (hTab:Tabs H) (hlv:lv+d=8) (hP:Psr 117 w g H A c l p cnt) (hl0:0<l.length) (n:Nat) (hn:n<18446744073709551616):Calls Tryz.prog 102 #[.pointer (some ⟨g,0,none⟩),.int .u64 (n:Int),.int .i64 (lv:Int)] w (ItemOut 117 w H g A c l p (ea (vX (zZ d) n (l.drop p) cnt none))):=by
 have yC:=hP.gt;obtain⟨b,off,rfl,uj⟩:=hP.bytes.at_ hl0;have Mk:=Hh uj;have yj:=jfB;obtain⟨pz,vx,vM,iL⟩:=jfJ;rw[show(w.alloc zg).heap.size=w.heap.size+1 by simp]at iL;have Qm:=Hh (And.intro hP.small (And.intro hP.bytes.le hP.bytes.max));have HHH:=Hh hP.holds;have en:=Hh hn;have W7:(lv:Int)≤8:=by omega
 clear uj hn;go_enter Tryz.func102,Tryz.ntmps102
 go_wp2_with (with_reducible refine zx ?_)
 refine stI iL fun w4 lX rW=>?_
 obtain⟨tO,vw⟩:=jfS;clear vx vM iL rW;obtain⟨X,nZ⟩:∃ X,w.heap.size+1=X:=⟨_,rfl⟩
 have yH:Hid (w.heap.size<X):=by rw[Hid];omega
 rw[nZ]at lX pz⊢;clear nZ;go_wp2_with fail
 go_loopw [9,10] (fun v9 v10 wr=>∃ (i:Nat) (Hr:Snap) (VA:Option Addr) (vc vn:Nat) (L:List Itm) (k0 cc:Nat) (last:Option (List UInt8)) (KB:Option Addr) (kn kc:Nat),v10=.int .u64 (i:Int)∧v9=.slice KB kn kc∧i≤n∧vn=L.length∧
  ((i=0∧last=none)∨(0<i∧∃ key:List UInt8,last=some key∧kn=key.length∧key.length≤4096∧∀ W,Holds W H→Src W KB (key.map zT)))∧
  Rdg 117 w H wr Hr g (some ⟨b,off,none⟩) c l (p+k0) cc∧Blk wr w.heap.size 83 #[.int .i64 0,.int .u64 0,.slice none 0 0,.slice none 0 0]∧Hr w.heap.size=none∧
  Blk wr X 83 #[.int .i64 5,.int .u64 0,.slice none 0 0,.slice VA vn vc]∧Hr X=none∧OwnI wr (X+1) (.slice VA vn vc) Hr L∧(∀ q,(Value.slice VA vn vc).ownBlock=some q→Hr q=none)∧L.length≤cc∧
  vX (zZ d) n (l.drop p) cnt none=(vX (zZ d) (n-i) (l.drop (p+k0)) cc last).pre L k0) (fun _ v10 _=>n-(intOf v10).toNat)
 case atStart=>exact⟨0,H,none,0,0,[],0,cnt,none,none,0,0,rfl,rfl,Nat.zero_le _,rfl,.inl ⟨rfl,rfl⟩,tO,vw,yj,lX,pz,OwnI.nil _ _ H,by intro q hq;simp[Value.ownBlock]at hq,by simp,by rw[lG];rfl⟩
 case round =>
 clear tO vw lX;obtain⟨i,Hr,VA,vc,vn,L,k0,cc,last,KB,kn,kc,rfl,rfl,WL,rfl,oD,td,uE,rD,pM,mL,vY,pQ,X8,qO⟩:=hrel;have rf:=Hh qO;have ee:=Hh X8;have Oe:=Hh WL;have au:=Hh oD;clear qO X8 WL oD
 by_cases uZ:i<n
 ·obtain⟨m1,pP⟩:∃ m1,n-i=m1+1:=⟨n-i-1,by omega⟩
  have Yl:=Hh (show n-(i+1)=m1 by omega);have ur:Hid (vX (zZ d) n (l.drop p) cnt none=(vX (zZ d) (m1+1) (l.drop (p+k0)) cc last).pre L k0):=by rw[Hid,rf.out,pP]
  obtain⟨P1,dB⟩:∃ P1,p+k0=P1:=⟨_,rfl⟩
  have oF:=Hh dB;rw[dB]at td ur;clear dB;have XG:(i:Int)<(n:Int):=by omega
  have ITH:=Hh (ih wr Hr g (some ⟨b,off,none⟩) c l P1 cc lv (hTab.mono td.grows.le) hlv td.psr);have a1:=td.psr.blk.cell 1 rfl;clear pP rf;go_wp2_with fail
  refine ITH.out.mono ?_
  intro e w5 hs
  cases hp:zZ d (l.drop P1) cc with
  | err q =>
   rw[hp,ItemOut]at hs;obtain⟨rfl,H5,p5,cnt5,yN⟩:=hs;have lV:((q:Int) != 0)=true:=by rw[bne_iff_ne];have:=yZ _ _ _ _ hp;omega
   have ig:=jf9;have E:Hid (ea (vX (zZ d) n (l.drop p) cnt none)=.err q):=by rw[Hid,ur.out,Sc L k0 hp];rfl
   have xS:=td.trans yN;have vN:=uE.rdg yN (by omega);have sM:=yN.hid rD uE.lt;obtain⟨hY,gu⟩:=jfI;have pw:=Hh vN.lt;have ux:=xS.alloc zg;have vz:=vN.alloc zg;clear ITH hp td yN uE pM vY pQ ur ee xS vN a1;exact jd6
  | ok x k c1 =>
  rw[hp,ItemOut]at hs;obtain⟨ja,jb,jc,jd,H5,rfl,yN,eA⟩:=hs;have WA:=Hh (vA d _ _ _ _ _ hp);have rsp:=p8 d _ _ _ _ _ hp;have DP:=rsp.pos;have G3:=rsp.le;rw[List.length_drop]at G3;have KK:=Hh (show k≤l.length by omega);have WC:=Hh hp;obtain⟨key,qW⟩:∃ key,(l.drop P1).take k=key:=⟨_,rfl⟩
  have gX:=Hh qW;have em:Hid (k=key.length):=by rw[Hid,← qW,List.length_take,List.length_drop];omega
  have Gv:Hid (∀ W,Holds W H→Src W (some ⟨b,off+P1,none⟩) (key.map zT)):=fun W hW=>by
   have h:=lH (w:=W) (n:=k) (fun j hj=>hW.cell (Mk.out j hj)) P1 (some ⟨b,off+P1,none⟩) (fun _=>rfl) (by omega);rw[qW]at h
   exact h
  have xS:=td.trans yN;obtain⟨vN,sM,pg,kC,pv⟩:=jfO;have pX:∀ q,(Value.slice VA L.length vc).ownBlock=some q→H5 q=none:=fun q hq=>yN.hid (pQ q hq) (vY.lt q hq).2
  obtain⟨hY,gu⟩:=jfI;have pw:=Hh (And.intro vN.lt pg.lt);have I3:=Hh (show g<w5.heap.size from xS.psr.gt);have ld:=Hh (show ∀ q,(Value.slice VA L.length vc).ownBlock=some q→X+1≤q∧q<w5.heap.size from fun q hq=>pv.lt q hq);have ux:=xS.alloc zg;have vz:=vN.alloc zg;have ik:=pg.alloc zg;have vr:=pv.alloc zg;clear ITH hp td yN uE pM vY pQ xS vN pg pv a1 rsp qW;go_wp2_with (with_reducible refine zx ?_)
  refine stI hY fun w8 hY8 hg8=>?_
  obtain⟨ul,tD,lY,qT⟩:=jfG;obtain⟨Y1,Rx⟩:∃ Y1,w5.heap.size=Y1:=⟨_,rfl⟩
  rw[Rx]at hY8 pw I3 gu⊢;have a0:=ul.psr.blk.cell 0 rfl;have a1:=ul.psr.blk.cell 1 rfl;have s1:(P1:Int)≤((P1+k:Nat):Int):=by omega
  have s2:((P1+k:Nat):Int)≤(c:Int):=by have:=Qm.out.2.1;omega
  have s3:(P1:Int)≤(c:Int):=by omega
  have s4:(0:Int)≤(P1:Int):=by omega
  have s5:(c=P1)=False:=eq_false (by have:=Qm.out.2.1;omega);have s6:P1+k-P1=k:=by omega
  have s7:((P1+k:Nat):Int).toNat=P1+k:=by omega
  clear ux vz ik vr hY hg8;go_wp2_with fail
  go_big_quiet (fail)
  have gi:=ul.drewN nq;have ga:Blk (w8.drewN nq) w.heap.size 83 #[.int .i64 0,.int .u64 0,.slice none 0 0,.slice none 0 0]:=tD;have OF:Blk (w8.drewN nq) X 83 #[.int .i64 5,.int .u64 0,.slice none 0 0,.slice VA L.length vc]:=lY;have OG:Blk (w8.drewN nq) Y1 83 #[.int .i64 x.kind,.int .u64 x.n,.slice ja x.bytes.length jb,.slice jc x.items.length jd]:=hY8;have OB:OwnI (w8.drewN nq) (X+1) (.slice VA L.length vc) H5 L:=qT
  generalize w8.drewN nq=w9 at gi ga OF OG OB⊢
  obtain⟨tf,xr,mu,N5,nY⟩:=And.intro gi (And.intro ga (And.intro OF (And.intro OG OB)));clear gi ga OF OG OB ul tD lY hY8 qT a0 a1 s1 s2 s3 s4 s5 s6 s7;have lS:Holds w9 H:=tf.psr.holds.mono tf.grows.le
  rcases au.out with ⟨hiz,rfl⟩ | ⟨hi,lk,rfl,Uq,tF,sJ⟩
  ·have bO:Hid (rn none ((l.drop P1).take k)=none):=rfl;have U8:¬ ((0:Int)<(i:Int)):=by omega
   clear hiz;have a0:=lS;have a1:=lS;exact jaa
  have U8:(0:Int)<(i:Int):=by omega
  have CM:=Hh (rq w9 (some ⟨b,off+P1,none⟩) KB key lk k kn (c-P1) kc em.out Uq (Gv.out w9 lS) (sJ w9 lS));obtain⟨q,hq⟩:∃ q,Lib.compareBytes key lk=q:=⟨_,rfl⟩
  rw[hq]at CM;have HQ:=Hh hq;clear Uq tF sJ hq;have a0:=lS;have a1:=lS
  by_cases lV:q=0
  ·subst lV;have bO:Hid (rn (some lk) ((l.drop P1).take k)=some 7):=by rw[Hid,gX.out,rn];rw[if_pos HQ.out]
   go_wp2_with fail
   refine CM.out.mono ?_
   rintro e w10 ⟨rfl,rfl⟩
   have E:Hid (ea (vX (zZ d) n (l.drop p) cnt none)=.err 7):=by rw[Hid,ur.out,aW L k0 WC.out bO.out];rfl
   go_wp2_with (with_reducible refine zx ?_)
   refine stI xr fun wz hTy zS=>?_
   have yl:=tf.gb sM (Nat.le_refl _) yC zS;exact jc8
  have t0:(q==0)=false:=by simpa using lV
  have t0':(q=0)=False:=eq_false lV
  by_cases el:q<0
  ·have bO:Hid (rn (some lk) ((l.drop P1).take k)=some 6):=by rw[Hid,gX.out,rn];rw[HQ.out,if_neg lV,if_pos el]
   go_wp2_with fail
   refine CM.out.mono ?_
   rintro e w10 ⟨rfl,rfl⟩
   have E:Hid (ea (vX (zZ d) n (l.drop p) cnt none)=.err 6):=by rw[Hid,ur.out,aW L k0 WC.out bO.out];rfl
   go_wp2_with (with_reducible refine zx ?_)
   refine stI xr fun wz hTy zS=>?_
   have yl:=tf.gb sM (Nat.le_refl _) yC zS;exact jc9
  have bO:Hid (rn (some lk) ((l.drop P1).take k)=none):=by rw[Hid,gX.out,rn];rw[HQ.out,if_neg lV,if_neg el]
  go_wp2_with fail
  refine CM.out.mono ?_
  rintro e w10 ⟨rfl,rfl⟩
  exact jaa
 have hm:i=n:=by have:=Oe.out;omega
 subst hm;have Al:¬ ((i:Int)<(i:Int)):=by omega
 have E1:Hid (ea (vX (zZ d) i (l.drop p) cnt none)=.ok (.mk 5 0 [] L) k0 cc):=by
  rw[Hid,rf.out,Nat.sub_self,vX];simp[PL.pre,ea]
 obtain⟨H5,bZ,XD,ua,XL,qZ,qa,lN⟩:=vY.snap td.psr.holds (fun q hq=>pQ q (ti hq));have xN:∀ q,VA.map (·.block)=some q→X+1≤q:=fun q hq=>(vY.lt q (ti hq)).1
 have Rf:H5 w.heap.size=none:=uB ua rD (fun e=>by have:=xN _ e;have:=yH.out;omega);have xS:Rdg 117 w H wr H5 g (some ⟨b,off,none⟩) c l (p+k0) cc:=td.snap (B:=X+1) bZ XD ua xN (by have:=yH.out;omega) yC;have b0:=pM.cell 0 rfl;have b1:=pM.cell 1 rfl;have b2:=pM.cell 2 rfl;have b3:=pM.cell 3 rfl;have Rc:IsItem H5 none 0 VA vc (.mk 5 0 [] L):=IsRowI.item ⟨qZ,qa,lN⟩ 5 (by omega) 0 (by omega);clear vY ua lN XD bZ rD pQ xN td rf au;go_wp2_with (with_reducible refine zx ?_)
 refine stI uE fun wz hTy zS=>?_
 have yl:=xS.gb Rf (Nat.le_refl _) yC zS;exact jeR
end
section
variable {d:Nat} {w:World} {H:Snap} {g:Nat} {A:Option Addr} {c:Nat} {l:List UInt8} {p cnt lv:Nat}
theorem So (ih:aw d) (hTab:Tabs H) (hlv:lv+(d+1)=8) (hP:Psr 117 w g H A c l p cnt) (hc:cnt<256) {f n k:Nat}(hh:zJ (l.drop p)=.ok (f,n,k)) (hk:f/32=5):Calls Tryz.prog 80 #[.pointer (some ⟨g,0,none⟩),.int .i64 (lv:Int)] w (ItemOut 117 w H g A c l p (zZ (d+1) (l.drop p) cnt)):=by
 obtain⟨yC,vx,vM,yj⟩:=jfx;have c2:=jf5;have E0:=Hh (dm d (l.drop p) cnt (by omega) hh hk);have S:(f:Int)/32=5:=by omega
 have Yg:¬ ((8:Int)≤(lv:Int)):=by omega
 have KL:=jg5;have W7:(lv:Int)≤8:=by omega
 have wU:((cnt:Int)==256)=false:=by simp;omega
 obtain⟨xL,KC,HC⟩:=jfC;clear hc;go_enter Tryz.func80,Tryz.ntmps80
 go_wp2_with (with_reducible refine zx ?_)
 refine zu rfl _ _ _ rfl rfl g 2 (.int .i64 ((cnt:Int)+1)) rfl rfl _ _ vx.psr.blk yp (by simp) rfl fun w2 yT zM=>?_
 obtain⟨vO,tK,PH⟩:=jfD;clear vx vM yT zM c2 KC wU xL;go_wp2_with fail
 refine PH.out.mono ?_
 intro e w3 hs
 rw[HeadSaid,hh]at hs;obtain⟨rfl,vL,yY⟩:=hs;have HS:=wP hh;have rh:p+k≤l.length:=by have:=HS.le;rw[List.length_drop]at this;have:=hP.le;omega
 obtain⟨ve,vq,HF⟩:=jfH;clear vO tK vL yY PH HS hh;rw[List.drop_drop]at E0;have tm:=HF.out.pos;have PR_:=QU (lv:=lv+1) ih hTab (by omega) ve.psr (by omega) n HF.out.n_lt;rw[show((lv+1:Nat):Int)=(lv:Int)+1 by omega]at PR_;have PRH:=Hh PR_;clear PR_ tm;go_wp2_with fail
 refine PRH.out.mono ?_
 intro e w4 hs
 cases hp:vX (zZ d) n (l.drop (p+k)) (cnt+1) none with
 | err q =>
  rw[hp,ea,ItemOut]at hs;obtain⟨rfl,H4,p4,cnt4,pE⟩:=hs;have E:Hid (zZ (d+1) (l.drop p) cnt=.err q):=by rw[Hid,E0.out,hp]
  obtain⟨tp,uz,PB⟩:=jhg;clear pE ve vq PRH hp E0;go_wp2_with (with_reducible refine zx ?_)
  refine stI uz fun wz hTy zS=>?_
  have yl:=tp.gb PB (Nat.le_refl _) yC zS;exact jaj
 | ok L k' c' =>
 rw[hp,ea,ItemOut]at hs;obtain⟨ja,jb,jc,jd,H4,rfl,pE,Uc⟩:=hs;have E:Hid (zZ (d+1) (l.drop p) cnt=.ok (.mk 5 0 [] L) (k+k') c'):=by rw[Hid,E0.out,hp]
 obtain⟨tp,uz,PB⟩:=jhg;obtain⟨X5,Em⟩:∃ X,Itm.mk 5 0 [] L=X:=⟨_,rfl⟩
 rw[Em]at Uc E⊢;clear pE ve vq PRH hp E0 Em;go_wp2_with (with_reducible refine zx ?_)
 refine stI uz fun wz hTy zS=>?_
 have yl:=tp.gb PB (Nat.le_refl _) yC zS;exact jbH
end
theorem Np:∀ d:Nat,aw d:=by
 intro d
 induction d using Nat.strongRecOn with
 | _ d ih =>
 intro w H g A c l p cnt lv hTab hlv hP
 by_cases hc:cnt=256
 ·exact Zc hTab hlv hP hc
 have hc:cnt<256:=by have:=hP.cnt_le;omega
 cases hh:zJ (l.drop p) with
 | error q=>exact Zd hTab hlv hP hc hh
 | ok r =>
 obtain⟨f,n,k⟩:=r;have hf:=(wP hh).f_lt
 rcases(by omega:f/32=0∨f/32=1∨f/32=2∨f/32=3∨f/32=7∨(4≤f/32∧f/32≤6)) with hk | hk | hk | hk | hk | hk
 ·exact Sj hTab hlv hP hc hh hk
 ·exact Sk hTab hlv hP hc hh hk
 ·exact Sl hTab hlv hP hc hh hk
 ·exact Sm hTab hlv hP hc hh hk
 ·exact Sq hTab hlv hP hc hh hk
 cases d with
 | zero=>exact Zb hTab (by omega) hP hc hh hk.1 hk.2
 | succ d =>
 have ihd:=ih d (by omega)
 rcases(by omega:f/32=4∨f/32=5∨f/32=6) with h4 | h5 | h6
 ·exact Sn ihd hTab hlv hP hc hh h4
 ·exact So ihd hTab hlv hP hc hh h5
 exact Sp ihd hTab hlv hP hc hh h6
end Go.Proofs.YtgaoknihklmakabGreatDoor
