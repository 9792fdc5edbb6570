/- squeezed. Walks: an envelope is written, by  -/
import Derived.Test.YtliomcphdnppnaaGreatDoorK30
set_option linter.unusedVariables false
set_option linter.unusedSimpArgs false
set_option maxRecDepth 100000
set_option maxHeartbeats 25600000
namespace Go.Proofs.YtliomcphdnppnaaGreatDoor
open Go.RowKit
theorem jam{P:Prop}(h:P:=by
 have fi:=Snap.le.refl H2;have iu:w.heap.size+1≤w2.heap.size:=hB.lt;replace hG:=hG.drew;replace hB:=hB.below (Below.refl _ _).drew;replace iu:w.heap.size+1≤(w2.drew).heap.size:=iu
 refine zw 10 (fun wx=>wx.cell? ⟨w.heap.size,4,none⟩=some (.int .i64 u.kind)∧wx.cell? ⟨w.heap.size,5,none⟩=some (.int .u64 u.n)∧wx.cell? ⟨w.heap.size,6,none⟩=some (.slice a.b.ba u.bytes.length a.b.bc)∧wx.cell? ⟨w.heap.size,7,none⟩=some (.slice a.b.ia u.items.length a.b.ic)∧wx.cell? ⟨w.heap.size,8,none⟩=some (.slice a.ba bn a.bc)) (by kernel_rfl) (⟨hB.cell 4 rfl,hB.cell 5 rfl,hB.cell 6 rfl,hB.cell 7 rfl,hB.cell 8 rfl⟩) (fun zy=>?_)
 refine TkS 0 rfl zy ?_
 refine TkS 2 rfl zy ?_
 refine TkS 3 rfl zy ?_
 refine TkS 4 rfl zy ?_
 refine TkS 5 rfl zy ?_
 refine TkS 6 rfl zy ?_
 refine To 1 rfl fun K hK=>?_
 go_simp
 refine(B1.out _ _ hG.holds fi).mono ?_
 rintro e w4 ⟨v4,rfl,ja,jb,jc,jd,H4,rfl,yF,rm⟩
 try replace rV:=rV.mono yF.le
 replace hB:=hB.below yF.below;replace hG:=hG.trans yF;replace fi:=fi.trans yF.le;clear yF
 refine Ko hK ?_ fun zy=>?_
 ·exact jeB
 clear hK K
 refine To 7 rfl fun K hK=>?_
 go_simp
 refine(B3.out _ _ hG.holds fi).mono ?_
 rintro e w6 ⟨v6,rfl,ka,kb,kc,kd,H6,rfl,xq,rV⟩
 try replace rm:=rm.mono xq.le
 replace hB:=hB.below xq.below;replace hG:=hG.trans xq;replace fi:=fi.trans xq.le;clear xq
 refine Ko hK ?_ fun zy=>?_
 ·exact jeB
 clear hK K
 refine To 8 rfl fun K hK=>?_
 go_simp
 have hO:=OwnI.lit ((ItemsC.one rm).app ((ItemsC.one (bx.out.2.1.mono (gh.out.trans fi))).app (ItemsC.one rV))) (w.heap.size+1) hB.lt (by simp);have fo:=hG.hidden (Nat.le_refl _)
 try simp only[zW,zr]at fo
 replace hG:=hG.alloc (.cells (zV X1 ja jb jc jd++(zV u a.b.ba a.b.bc a.b.ia a.b.ic++zV X3 ka kb kc kd)).toArray 26);replace hB:=hB.alloc (.cells (zV X1 ja jb jc jd++(zV u a.b.ba a.b.bc a.b.ia a.b.ic++zV X3 ka kb kc kd)).toArray 26)
 refine Ko hK ?_ fun zy=>?_
 ·exact jeB
 clear hK K
 refine TkS 9 rfl zy ?_
 refine Wd ?_
 clear zy;go_wp2_with fail
 go_meet
 exact⟨_,_,rfl,hG,fi,hB,hO,fo⟩):P:=h
theorem jaW{P:Prop}(h:P:=by
 rw[T7]at vO;have DP:=Hh lh;have EN:=Hh (fun(W:World) (hW:Holds W Lm) (B:Nat) (hr:IsRowI Lm (some ⟨B,0,none⟩) 1 [x4])=>rJ (HT.out.mono vO.le) (Do B hr) W hW);clear fs ZW lh Do T7 rm TE MW ZK fi hO fo TF MG Du hz9 t8 tA Pc vd hG Ha;go_wp2_with fail
 refine(EN.out _ vO.holds _ Pm).mono ?_
 rintro e w11 (⟨sz,_,_⟩ | ⟨_,r,rfl,cZ⟩)
 ·exact absurd sz (by rw[DP.out,HVI.out];simp)
 obtain⟨RB,rd,rfl,oe⟩:=cZ.own.form;clear oe;obtain⟨H11,mX,cd,oe⟩:=Fresh.snapB vO.holds cZ;have hz:=vO.trans mX;clear oe vO mX cZ EN Pm;rw[DP.out]at cd⊢;go_wp2_with fail
 go_ret2
 exact⟨_,_,_,rfl,hz,cd⟩):P:=h
theorem jbQ{P:Prop}(h:P:=by
 have ZQ:(0:Int)≤(k:Int)+1:=by omega
 have QT:((k:Int)+1).toNat=k+1:=by omega
 go_wp2_with fail
 ·go_round
  case rel=>exact⟨k+1,by omega,by go_num⟩
  case measure=>simp[intOf];omega
 go_ret;exact⟨tI ..,rfl⟩):P:=h
theorem jck{P:Prop}(h:P:=by go_ret;exact⟨tI ..,rfl⟩):P:=h
theorem jcA{P:Prop}(h:P:=by
 rw[← DO.out]
 exact vF (l:=body) HN.out.1.symm lf.out.1 W (Src.of_row (bx.out.2.2.1.mono (gh.out.trans yw)).row hK) hK):P:=h
theorem jcP{P:Prop}(h:P:=by
 subst MJ;clear yu hi;go_wp2_with fail
 go_ret2
 exact⟨b4,o4,y4,by rw[HL.out.2];rfl,HL.out.1,HE.out,zG⟩):P:=h
theorem jcX{P:Prop}(h:P:=by
 rw[e]at h
 simpa using h):P:=h
theorem jcZ{P:Prop}(h:P:=by
 go_wp2_with fail
 go_roundw
 case rel=>exact⟨1,rfl,by omega,by trivial⟩
 case measure=>simp[intOf]):P:=h
theorem jc0{P:Prop}(h:P:=by
 go_wp2_with fail
 go_roundw
 case rel=>exact⟨2,rfl,by omega,by trivial⟩
 case measure=>simp[intOf]):P:=h
theorem jc1{P:Prop}(h:P:=by
 go_wp2_with fail
 go_roundw
 case rel=>exact⟨3,rfl,by omega,by trivial⟩
 case measure=>simp[intOf]):P:=h
theorem jc6{P:Prop}(h:P:=by
 rw[← IG.out]
 exact vF (l:=yH p) HPN.out.symm fh.out W (Src.of_row (HR.out.mono yw).row hK) hK):P:=h
theorem jdr{P:Prop}(h:P:=by
 have:=(vL (yY HO.out.head).1).2.2
 simp only at this
 unfold yH
 split
 ·simp
 omega):P:=h
theorem jdv{P:Prop}(h:P:=by
 have h:=q3
 simp only[List.getElem_cons_zero,Itm.items,iq]at h
 simpa using h):P:=h
theorem jdS{P:Prop}(h:P:=by
 obtain⟨_,_,_,_,h,_⟩:=gA.get 0 (by rw[iq];omega)
 exact h):P:=h
theorem jdT{P:Prop}(h:P:=by
 obtain⟨_,_,_,_,h,_⟩:=gA.get 1 (by rw[iq];omega)
 exact h):P:=h
theorem jdU{P:Prop}(h:P:=by
 obtain⟨_,_,_,_,h,_⟩:=gA.get 2 (by rw[iq];omega)
 exact h):P:=h
theorem jeB{P:Prop}(h:P:=by exact⟨hB.cell 4 rfl,hB.cell 5 rfl,hB.cell 6 rfl,hB.cell 7 rfl,hB.cell 8 rfl⟩):P:=h
theorem je7{P:Prop}(h:P:=by have c0:=hB.cell 0 rfl;have c1:=hB.cell 1 rfl;have c2:=hB.cell 2 rfl;have c3:=hB.cell 3 rfl;have c4:=hB.cell 4 rfl;have c5:=hB.cell 5 rfl;have c6:=hB.cell 6 rfl;have c7:=hB.cell 7 rfl;exact And.intro c0 (And.intro c1 (And.intro c2 (And.intro c3 (And.intro c4 (And.intro c5 (And.intro c6 c7))))))):P:=h
theorem jft{P:Prop}(h:P:=by have r0:=pd.cell HR.out.1;have r3:=pd.cell HR.out.2.1;have Sz:=Blk.new w1 3 #[.int .i64 2,.int .i64 5,.int .i64 2,.int .i64 2];have yQ:=hB.alloc (.cells #[.int .i64 2,.int .i64 5,.int .i64 2,.int .i64 2] 3);have pf:=pd.alloc (.cells #[.int .i64 2,.int .i64 5,.int .i64 2,.int .i64 2] 3);have zG:=zB.alloc zB.size (.cells #[.int .i64 2,.int .i64 5,.int .i64 2,.int .i64 2] 3);exact And.intro r0 (And.intro r3 (And.intro Sz (And.intro yQ (And.intro pf zG))))):P:=h
theorem jfO{P:Prop}(h:P:=by have hB:=Blk.new w 36 (evQ v a);have hG:=(Grows.refl hH).alloc (.cells (evQ v a) 36);exact And.intro hB hG):P:=h
def Iu (w:World) (H:Snap) (k:Nat) (v:Ev) (e:Ending) (w':World):Prop :=
 ∃ A c H',e=.returned (.tuple #[.slice A (zZ (wk k v)).length c,.int .i64 0])∧Grows w H w' H'∧IsBytes H' A c (zZ (wk k v))
theorem R6 (v:Ev):yt 16 v=[zI (yH v.p),v.u,zI v.body]:=rfl
theorem R7 (v:Ev):yt 17 v=[zI (yH v.p),v.u,zI v.body]++[zI v.tag]:=rfl
theorem iy {H:Snap}(hTab:Tabs H) {v:Ev}{a:EvAd}(hv:EvA H v a) (ho:EnvOk 16 v) (w:World) (hH:Holds w H) :
  Calls Tryz.prog 24 #[.int .i64 16,.agg (evQ v a)] w (Iu w H 16 v):=by
 obtain⟨hB,hG⟩:=jfO;have HVI:=Hh (nS ho);obtain⟨p,u,body,tag⟩:=v;obtain⟨bn,mh⟩:∃ n,body.length=n:=⟨_,rfl⟩
 obtain⟨tn,pI⟩:∃ n,tag.length=n:=⟨_,rfl⟩
 have EQ0:evQ ⟨p,u,body,tag⟩ a=evC p a.a u a.b a.ba bn a.bc a.ta tn a.tc:=by rw[← mh,← pI]
 rw[EQ0]at hB hG⊢;have HN:=Hh (And.intro mh pI);have HT:=Hh hTab;have bx:Hid (IsItem H a.a.ba a.a.bc a.a.ia a.a.ic p∧IsItem H a.b.ba a.b.bc a.b.ia a.b.ic u∧IsBytes H a.ba a.bc body∧IsBytes H a.ta a.tc tag):=⟨hv.p,hv.u,hv.body,hv.tag⟩
 have HO:=Hh ho;have P:=Hh (tj HT.out bx.out.1 bx.out.2.1 _ hG.holds);have UI:tn=0:=by rcases ho.kind with ⟨_,h⟩ | h;rw[← pI];exact(by simp at h;rw[h];rfl);cases h
 subst UI;clear EQ0 hTab hv ho hH mh pI;obtain⟨c0,c1,c2,c3,c4,c5,c6,c7⟩:=je7;go_enter Tryz.func24,Tryz.ntmps24
 go_wp2_with fail
 refine P.out.mono ?_
 rintro e w2 (⟨sz,_,_⟩ | ⟨_,r,rfl,fk⟩)
 ·exact absurd sz (by rw[HO.out.head];simp)
 replace hB:=hB.below fk.2;obtain⟨RA,rc,rfl,oe⟩:=fk.own.form;clear oe;obtain⟨H2,yE,pi,oe⟩:=Fresh.snapB hG.holds fk;clear oe;replace hG:=hG.trans yE;have HR:=Hh pi;clear P c0 c1 c2 c3 c4 c5 c6 c7 fk yE pi;have c9:=hB.cell 9 rfl;go_upto_region 4 with fail
 clear c9;obtain⟨pn,mq⟩:∃ n,(yH p).length=n:=⟨_,rfl⟩
 rw[mq];have HPN:=Hh mq;clear mq
 have pq:(yH p).length≤1099511627776:=by
  exact jdr
 have fh:=Hh pq;have lf:Hid (body.length≤1099511627776∧tag.length≤1099511627776):=⟨by have:=HO.out.body;simp only at this;omega,by have:=HO.out.tag;simp only at this;omega⟩
 clear pq;obtain⟨X1,MC⟩:∃ x,zI (yH p)=x:=⟨_,rfl⟩
 obtain⟨X3,nC⟩:∃ x,zI body=x:=⟨_,rfl⟩
 have IG:=Hh MC;have DO:=Hh nC
 have B1:Hid (∀ (W:World) (K:Snap),Holds W K→H2.le K→Calls Tryz.prog 51 #[.slice RA pn rc] W fun e w'=>∃ v,e=.returned v∧Gives W K X1 v w'):=fun W K hK yw=>by
  exact jc6
 have gh:=Hh hG.le
 have B3:Hid (∀ (W:World) (K:Snap),Holds W K→H2.le K→Calls Tryz.prog 51 #[.slice a.ba bn a.bc] W fun e w'=>∃ v,e=.returned v∧Gives W K X3 v w'):=fun W K hK yw=>by
  exact jcA
 clear MC nC;go_cut [8] (fun s8 wx=>∃ (N:Nat) (H8:Snap),s8=.slice (some ⟨N,0,none⟩) 3 3∧Grows w H wx H8∧H2.le H8∧Blk wx w.heap.size 36 (evC p a.a u a.b a.ba bn a.bc a.ta 0 a.tc)∧OwnI wx (w.heap.size+1) (.slice (some ⟨N,0,none⟩) 3 3) H8 [X1,u,X3]∧H8 N=none)
 case first =>
  exact jam
 case rest =>
 clear hG hB;obtain⟨N,H8,rfl,hG,fi,hB,hO,fo⟩:=hcut;have hcut:∃ L,L=yt 16 ⟨p,u,body,tag⟩∧L.length=3∧OwnI _ (w.heap.size+1) (.slice (some ⟨N,0,none⟩) 3 3) H8 L∧∀ q,(Value.slice (some ⟨N,0,none⟩) 3 3).ownBlock=some q→H8 q=none:=⟨_,by rw[R6,← IG.out,← DO.out],rfl,hO,fun q hq=>by cases hq;exact fo⟩
 clear hO fo hB;obtain⟨L,MW,ZK,hO,fo⟩:=hcut;have P7:=Hh fi;have pH:=Hh (And.intro MW ZK);obtain⟨H9,TF,MG,Du,hz9,t8,tA,Pc⟩:=hO.snap hG.holds (fun q hq=>fo q (uB hq));have vd:∀ q,(some (⟨N,0,none⟩:Addr)).map (·.block)=some q→w.heap.size+1≤q:=fun q hq=>(hO.lt q (uB hq)).1
 replace hG:Grows w H _ H9:=⟨hG.below,hG.le.trans TF,MG,fun b o hb=>(Du b o hb).elim (hG.fresh b o) (fun e=>.inr (by have:=vd b e;omega))⟩
 obtain⟨x4,fs⟩:∃ x,Itm.mk 4 0 [] L=x:=⟨_,rfl⟩
 have rm:IsItem H9 none 0 (some ⟨N,0,none⟩) 3 x4:=by rw[← fs];exact IsRowI.item ⟨t8,tA,Pc⟩ 4 (by omega) 0 (by omega)
 have TE:x4.items.length=3:=by rw[← fs];exact ZK
 obtain⟨Lm,vO,Ha,Pm⟩:=iH (l:=[x4]) hG (ItemsC.one rm) (by simp);obtain⟨x6,ZW⟩:∃ x,Itm.mk 6 16 [] [x4]=x:=⟨_,rfl⟩
 have lh:x6=wk 16 ⟨p,u,body,tag⟩:=by rw[← ZW,← fs,MW];rfl
 have Do:∀ B,IsRowI Lm (some ⟨B,0,none⟩) 1 [x4]→ItemA Lm 6 16 none 0 0 (some ⟨B,0,none⟩) 1 1 x6:=fun B hr=>by
  refine⟨by rw[← ZW];rfl,by rw[← ZW];rfl,by rw[← ZW];rfl,by rw[← ZW];rfl, ?_⟩
  rw[← ZW]
  exact hr.item 6 (by omega) 16 (by omega)
 have T7:zV x4 none 0 (some ⟨N,0,none⟩) 3=[.int .i64 4,.int .u64 0,.slice none 0 0,.slice (some ⟨N,0,none⟩) 3 3]:=by rw[← fs];show [Value.int .i64 4,.int .u64 0,.slice none 0 0,.slice (some ⟨N,0,none⟩) L.length 3]=_;rw[ZK]
 exact jaW
theorem iz {H:Snap}(hTab:Tabs H) {v:Ev}{a:EvAd}(hv:EvA H v a) (ho:EnvOk 17 v) (w:World) (hH:Holds w H) :
  Calls Tryz.prog 24 #[.int .i64 17,.agg (evQ v a)] w (Iu w H 17 v):=by
 obtain⟨hB,hG⟩:=jfO;have HVI:=Hh (nS ho);obtain⟨p,u,body,tag⟩:=v;obtain⟨bn,mh⟩:∃ n,body.length=n:=⟨_,rfl⟩
 obtain⟨tn,pI⟩:∃ n,tag.length=n:=⟨_,rfl⟩
 have EQ0:evQ ⟨p,u,body,tag⟩ a=evC p a.a u a.b a.ba bn a.bc a.ta tn a.tc:=by rw[← mh,← pI]
 rw[EQ0]at hB hG⊢;have HN:=Hh (And.intro mh pI);have HT:=Hh hTab;have bx:Hid (IsItem H a.a.ba a.a.bc a.a.ia a.a.ic p∧IsItem H a.b.ba a.b.bc a.b.ia a.b.ic u∧IsBytes H a.ba a.bc body∧IsBytes H a.ta a.tc tag):=⟨hv.p,hv.u,hv.body,hv.tag⟩
 have HO:=Hh ho;have P:=Hh (tj HT.out bx.out.1 bx.out.2.1 _ hG.holds);clear EQ0 hTab hv ho hH mh pI;obtain⟨c0,c1,c2,c3,c4,c5,c6,c7⟩:=je7;go_enter Tryz.func24,Tryz.ntmps24
 go_wp2_with fail
 refine P.out.mono ?_
 rintro e w2 (⟨sz,_,_⟩ | ⟨_,r,rfl,fk⟩)
 ·exact absurd sz (by rw[HO.out.head];simp)
 replace hB:=hB.below fk.2;obtain⟨RA,rc,rfl,oe⟩:=fk.own.form;clear oe;obtain⟨H2,yE,pi,oe⟩:=Fresh.snapB hG.holds fk;clear oe;replace hG:=hG.trans yE;have HR:=Hh pi;clear P c0 c1 c2 c3 c4 c5 c6 c7 fk yE pi;have c9:=hB.cell 9 rfl;go_upto_region 4 with fail
 clear c9;obtain⟨pn,mq⟩:∃ n,(yH p).length=n:=⟨_,rfl⟩
 rw[mq];have HPN:=Hh mq;clear mq
 have pq:(yH p).length≤1099511627776:=by
  exact jdr
 have fh:=Hh pq;have lf:Hid (body.length≤1099511627776∧tag.length≤1099511627776):=⟨by have:=HO.out.body;simp only at this;omega,by have:=HO.out.tag;simp only at this;omega⟩
 clear pq;obtain⟨X1,MC⟩:∃ x,zI (yH p)=x:=⟨_,rfl⟩
 obtain⟨X3,nC⟩:∃ x,zI body=x:=⟨_,rfl⟩
 have IG:=Hh MC;have DO:=Hh nC
 have B1:Hid (∀ (W:World) (K:Snap),Holds W K→H2.le K→Calls Tryz.prog 51 #[.slice RA pn rc] W fun e w'=>∃ v,e=.returned v∧Gives W K X1 v w'):=fun W K hK yw=>by
  exact jc6
 have gh:=Hh hG.le
 have B3:Hid (∀ (W:World) (K:Snap),Holds W K→H2.le K→Calls Tryz.prog 51 #[.slice a.ba bn a.bc] W fun e w'=>∃ v,e=.returned v∧Gives W K X3 v w'):=fun W K hK yw=>by
  exact jcA
 clear MC nC;go_cut [8] (fun s8 wx=>∃ (N:Nat) (H8:Snap),s8=.slice (some ⟨N,0,none⟩) 3 3∧Grows w H wx H8∧H2.le H8∧Blk wx w.heap.size 36 (evC p a.a u a.b a.ba bn a.bc a.ta tn a.tc)∧OwnI wx (w.heap.size+1) (.slice (some ⟨N,0,none⟩) 3 3) H8 [X1,u,X3]∧H8 N=none)
 case first =>
  exact jam
 case rest =>
 clear hG hB;obtain⟨N,H8,rfl,hG,fi,hB,hO,fo⟩:=hcut;obtain⟨X4,T5⟩:∃ x,zI tag=x:=⟨_,rfl⟩
 have AG:=Hh T5
 have B4:Hid (∀ (W:World) (K:Snap),Holds W K→H2.le K→Calls Tryz.prog 51 #[.slice a.ta tn a.tc] W fun e w'=>∃ v,e=.returned v∧Gives W K X4 v w'):=fun W K hK yw=>by
  rw[← AG.out]
  exact vF (l:=tag) HN.out.2.symm lf.out.2 W (Src.of_row (bx.out.2.2.2.mono (gh.out.trans yw)).row hK) hK
 clear T5;have c9:=hB.cell 9 rfl;go_wp2_with fail
 refine(B4.out _ _ hG.holds fi).mono ?_
 rintro e w6 ⟨v6,rfl,ja,jb,jc,jd,H6,rfl,xq,rV⟩
 have rU:=((hO.below xq.below).mono xq.le).alloc (.cells (zV X4 ja jb jc jd).toArray 26);have nP:=xq.none fo (hO.lt N rfl).2;replace hG:=(hG.trans xq).alloc (.cells (zV X4 ja jb jc jd).toArray 26);clear c9 hB hO fo xq;go_wp2_with (at_builtin;refine zH ?_)
 refine xr rfl (.tmp 47) (.tmp 51) rfl (w.heap.size+1) (.slice (some ⟨N,0,none⟩) 3 3) H6 [X1,u,X3] rfl rU _ 1 _ (zV X4 ja jb jc jd) [X4] rfl rfl (ItemsC.one rV) (Src.new _ _ _ _ rfl _ rfl) (by simp) (Nat.le_trans (rU.lt N rfl).1 (Nat.le_of_lt (rU.lt N rfl).2)) fun v' w7 vT ww hat7=>?_
 obtain⟨VA,vc,rfl,_⟩:=vT.form;have pm:=YW hG (fun q hq=>by cases hq;exact nP) hat7;replace hG:=hG.grownRow (fun q hq=>by cases hq;exact nP) (fun q hq=>by injection hq with hq;have h1:=(rU.lt N rfl).1;have e:N=q:=hq;omega) ww;clear rU nP ww hat7 rV;have hcut:∃ L,L=yt 17 ⟨p,u,body,tag⟩∧L.length=4∧OwnI w7 (w.heap.size+1) (.slice VA 4 vc) H6 L∧∀ q,(Value.slice VA 4 vc).ownBlock=some q→H6 q=none:=⟨_,by rw[R7,← IG.out,← DO.out,← AG.out],rfl,vT,pm⟩
 obtain⟨L,MW,ZK,hO,fo⟩:=hcut;clear vT pm;have P7:=Hh fi;have pH:=Hh (And.intro MW ZK);obtain⟨H9,TF,MG,Du,hz9,t8,tA,Pc⟩:=hO.snap hG.holds (fun q hq=>fo q (uB hq));have vd:∀ q,(VA:Option Addr).map (·.block)=some q→w.heap.size+1≤q:=fun q hq=>(hO.lt q (uB hq)).1
 replace hG:Grows w H _ H9:=⟨hG.below,hG.le.trans TF,MG,fun b o hb=>(Du b o hb).elim (hG.fresh b o) (fun e=>.inr (by have:=vd b e;omega))⟩
 obtain⟨x4,fs⟩:∃ x,Itm.mk 4 0 [] L=x:=⟨_,rfl⟩
 have rm:IsItem H9 none 0 VA vc x4:=by rw[← fs];exact IsRowI.item ⟨t8,tA,Pc⟩ 4 (by omega) 0 (by omega)
 have TE:x4.items.length=4:=by rw[← fs];exact ZK
 obtain⟨Lm,vO,Ha,Pm⟩:=iH (l:=[x4]) hG (ItemsC.one rm) (by simp);obtain⟨x6,ZW⟩:∃ x,Itm.mk 6 17 [] [x4]=x:=⟨_,rfl⟩
 have lh:x6=wk 17 ⟨p,u,body,tag⟩:=by rw[← ZW,← fs,MW];rfl
 have Do:∀ B,IsRowI Lm (some ⟨B,0,none⟩) 1 [x4]→ItemA Lm 6 17 none 0 0 (some ⟨B,0,none⟩) 1 1 x6:=fun B hr=>by
  refine⟨by rw[← ZW];rfl,by rw[← ZW];rfl,by rw[← ZW];rfl,by rw[← ZW];rfl, ?_⟩
  rw[← ZW]
  exact hr.item 6 (by omega) 17 (by omega)
 have T7:zV x4 none 0 VA vc=[.int .i64 4,.int .u64 0,.slice none 0 0,.slice VA 4 vc]:=by rw[← fs];show [Value.int .i64 4,.int .u64 0,.slice none 0 0,.slice VA L.length vc]=_;rw[ZK]
 exact jaW
def jQ (w:World) (H:Snap) (k:Nat) (v:Ev) (e:Ending) (w':World):Prop :=
 ∃ b off c,e=.returned (.tuple #[.int .i64 k,.slice (some ⟨b,off,none⟩) (yt k v).length c])∧(yt k v).length≤c∧IsElems H b off (yt k v)∧Below w.heap.size w w'
theorem j7 {H:Snap}{v:Ev}{ja jc:Option Addr}{jb jd:Nat}(hx:IsItem H ja jb jc jd (wk 16 v)) (gK:v.u.kind=5) (w:World) (hH:Holds w H) :
  Calls Tryz.prog 63 #[xp (wk 16 v) ja jb jc jd] w (jQ w H 16 v):=by
 obtain⟨x4,fs⟩:∃ x,Itm.mk 4 0 [] (yt 16 v)=x:=⟨_,rfl⟩
 obtain⟨b6,o6,rfl,Dt⟩:=hx.row.elems (by show 0<1;omega);have Pa:IsElems H b6 o6 [Itm.mk 4 0 [] (yt 16 v)]:=Dt;obtain⟨y1,y2,y3,y4,q0,q1,q2,q3,uy⟩:=Pa.get 0 (by simp);obtain⟨b4,o4,rfl,Ds⟩:=uy.row.elems (by show 0<(yt 16 v).length;simp[yt]);have Q9:(yt 16 v).length≤y4:=uy.row.le;have iq:(yt 16 v).length=3:=by simp[yt]
 have gA:IsElems H b4 o4 (yt 16 v):=Ds;have HE:=Hh gA;have HL:=Hh (And.intro Q9 iq)
 have m0:H.cell? ⟨b4,o4+0*4,none⟩=some (.int .i64 ((yt 16 v)[0]'(by rw[iq];omega)).kind):=by
  exact jdS
 have m1:H.cell? ⟨b4,o4+1*4,none⟩=some (.int .i64 ((yt 16 v)[1]'(by rw[iq];omega)).kind):=by
  exact jdT
 have m2:H.cell? ⟨b4,o4+2*4,none⟩=some (.int .i64 ((yt 16 v)[2]'(by rw[iq];omega)).kind):=by
  exact jdU
 have r0:H.cell? ⟨b6,o6,none⟩=some (.int .i64 4):=q0
 have r3:H.cell? ⟨b6,o6+3,none⟩=some (.slice (some ⟨b4,o4,none⟩) 3 y4):=by
  exact jdv
 have k0:H.cell? ⟨b4,o4,none⟩=some (.int .i64 2):=by
  have h:=m0;have e:((yt 16 v)[0]'(by rw[iq];omega)).kind=2:=rfl;exact jcX
 have k1:H.cell? ⟨b4,o4+4,none⟩=some (.int .i64 5):=by
  have h:=m1;have e:((yt 16 v)[1]'(by rw[iq];omega)).kind=5:=gK;exact jcX
 have k2:H.cell? ⟨b4,o4+8,none⟩=some (.int .i64 2):=by
  have h:=m2;have e:((yt 16 v)[2]'(by rw[iq];omega)).kind=2:=rfl;exact jcX
 have HJ:Hid ((1:Nat)≤jd):=hx.row.le;clear Dt Pa q0 q1 q2 q3 uy Ds gA m0 m1 m2 hx gK fs;have hB:=Blk.new w 26 #[.int .i64 6,.int .u64 16,.slice ja 0 jb,.slice (some ⟨b6,o6,none⟩) 1 jd];have pd:=hH.alloc (.cells #[.int .i64 6,.int .u64 16,.slice ja 0 jb,.slice (some ⟨b6,o6,none⟩) 1 jd] 26);have zB:=zo w (.cells #[.int .i64 6,.int .u64 16,.slice ja 0 jb,.slice (some ⟨b6,o6,none⟩) 1 jd] 26);have Ij:(3:Nat)≤y4:=by have:=HL.out;omega
 have zAh:(3:Int)≤(y4:Int):=by omega
 show Calls Tryz.prog 63 #[.agg #[.int .i64 6,.int .u64 16,.slice ja 0 jb,.slice (some ⟨b6,o6,none⟩) 1 jd]] w _
 have HR:=Hh (And.intro r0 (And.intro r3 Ij));have J9:=Hh (And.intro k0 (And.intro k1 (And.intro k2 trivial)));clear r0 r3 k0 k1 k2 Q9 iq Ij hH;go_enter Tryz.func63,Tryz.ntmps63
 go_upto_region 1 with fail
 obtain⟨w1,sW⟩:∃ w1,w.alloc (.cells #[.int .i64 6,.int .u64 16,.slice ja 0 jb,.slice (some ⟨b6,o6,none⟩) 1 jd] 26)=w1:=⟨_,rfl⟩
 rw[sW]at hB pd zB
 try rw[sW]
 clear sW;have c0:=jfj;have c1:=hB.cell 1 rfl;have c3:=jfk;obtain⟨r0,r3,Sz,yQ,pf,zG⟩:=jft;go_upto_region 4 with fail
 obtain⟨w2,pj⟩:∃ w2,w1.alloc (.cells #[.int .i64 2,.int .i64 5,.int .i64 2,.int .i64 2] 3)=w2:=⟨_,rfl⟩
 obtain⟨N,hN⟩:∃ N,w1.heap.size=N:=⟨_,rfl⟩
 rw[pj]at yQ pf zG Sz;rw[hN]at Sz
 try rw[pj]
 try rw[hN]
 clear pj hB c0 c1 c3 r0 r3 pd zB hN;have c1:=yQ.cell 1 rfl;have c3:=yQ.cell 3 rfl;have r0:=pf.cell HR.out.1;have r3:=pf.cell HR.out.2.1;have n0:=Sz.cell 0 rfl;have n1:=Sz.cell 1 rfl;have n2:=Sz.cell 2 rfl;have n3:=Sz.cell 3 rfl;have k0:=pf.cell J9.out.1;have k1:=pf.cell J9.out.2.1;have k2:=pf.cell J9.out.2.2.1;go_wp2_with fail
 go_loopw [47] (fun v47 wx=>∃ i:Nat,v47=.int .i64 (i:Int)∧i≤3∧wx=w2) (fun v47 _=>3-(intOf v47).toNat)
 case atStart=>exact⟨0,rfl,by omega,rfl⟩
 case round =>
 obtain⟨i,rfl,hi,rfl⟩:=hrel
 by_cases yu:i<3
 ·rcases(by omega:i=0∨i=1∨i=2) with rfl | rfl | rfl
  ·exact jcZ
  ·exact jc0
  exact jc1
 have MJ:i=3:=by omega
 exact jcP
theorem j8 {H:Snap}{v:Ev}{ja jc:Option Addr}{jb jd:Nat}(hx:IsItem H ja jb jc jd (wk 17 v)) (gK:v.u.kind=5) (w:World) (hH:Holds w H) :
  Calls Tryz.prog 63 #[xp (wk 17 v) ja jb jc jd] w (jQ w H 17 v):=by
 obtain⟨x4,fs⟩:∃ x,Itm.mk 4 0 [] (yt 17 v)=x:=⟨_,rfl⟩
 obtain⟨b6,o6,rfl,Dt⟩:=hx.row.elems (by show 0<1;omega);have Pa:IsElems H b6 o6 [Itm.mk 4 0 [] (yt 17 v)]:=Dt;obtain⟨y1,y2,y3,y4,q0,q1,q2,q3,uy⟩:=Pa.get 0 (by simp);obtain⟨b4,o4,rfl,Ds⟩:=uy.row.elems (by show 0<(yt 17 v).length;simp[yt]);have Q9:(yt 17 v).length≤y4:=uy.row.le;have iq:(yt 17 v).length=4:=by simp[yt]
 have gA:IsElems H b4 o4 (yt 17 v):=Ds;have HE:=Hh gA;have HL:=Hh (And.intro Q9 iq)
 have m0:H.cell? ⟨b4,o4+0*4,none⟩=some (.int .i64 ((yt 17 v)[0]'(by rw[iq];omega)).kind):=by
  exact jdS
 have m1:H.cell? ⟨b4,o4+1*4,none⟩=some (.int .i64 ((yt 17 v)[1]'(by rw[iq];omega)).kind):=by
  exact jdT
 have m2:H.cell? ⟨b4,o4+2*4,none⟩=some (.int .i64 ((yt 17 v)[2]'(by rw[iq];omega)).kind):=by
  exact jdU
 have m3:H.cell? ⟨b4,o4+3*4,none⟩=some (.int .i64 ((yt 17 v)[3]'(by rw[iq];omega)).kind):=by
  obtain⟨_,_,_,_,h,_⟩:=gA.get 3 (by rw[iq];omega)
  exact h
 have r0:H.cell? ⟨b6,o6,none⟩=some (.int .i64 4):=q0
 have r3:H.cell? ⟨b6,o6+3,none⟩=some (.slice (some ⟨b4,o4,none⟩) 4 y4):=by
  exact jdv
 have k0:H.cell? ⟨b4,o4,none⟩=some (.int .i64 2):=by
  have h:=m0;have e:((yt 17 v)[0]'(by rw[iq];omega)).kind=2:=rfl;exact jcX
 have k1:H.cell? ⟨b4,o4+4,none⟩=some (.int .i64 5):=by
  have h:=m1;have e:((yt 17 v)[1]'(by rw[iq];omega)).kind=5:=gK;exact jcX
 have k2:H.cell? ⟨b4,o4+8,none⟩=some (.int .i64 2):=by
  have h:=m2;have e:((yt 17 v)[2]'(by rw[iq];omega)).kind=2:=rfl;exact jcX
 have k3:H.cell? ⟨b4,o4+12,none⟩=some (.int .i64 2):=by
  have h:=m3;have e:((yt 17 v)[3]'(by rw[iq];omega)).kind=2:=rfl;exact jcX
 have HJ:Hid ((1:Nat)≤jd):=hx.row.le;clear Dt Pa q0 q1 q2 q3 uy Ds gA m0 m1 m2 m3 hx gK fs;have hB:=Blk.new w 26 #[.int .i64 6,.int .u64 17,.slice ja 0 jb,.slice (some ⟨b6,o6,none⟩) 1 jd];have pd:=hH.alloc (.cells #[.int .i64 6,.int .u64 17,.slice ja 0 jb,.slice (some ⟨b6,o6,none⟩) 1 jd] 26);have zB:=zo w (.cells #[.int .i64 6,.int .u64 17,.slice ja 0 jb,.slice (some ⟨b6,o6,none⟩) 1 jd] 26);have Ij:(4:Nat)≤y4:=by have:=HL.out;omega
 have zAh:(4:Int)≤(y4:Int):=by omega
 show Calls Tryz.prog 63 #[.agg #[.int .i64 6,.int .u64 17,.slice ja 0 jb,.slice (some ⟨b6,o6,none⟩) 1 jd]] w _
 have HR:=Hh (And.intro r0 (And.intro r3 Ij));have J9:=Hh (And.intro k0 (And.intro k1 (And.intro k2 k3)));clear r0 r3 k0 k1 k2 k3 Q9 iq Ij hH;go_enter Tryz.func63,Tryz.ntmps63
 go_upto_region 1 with fail
 obtain⟨w1,sW⟩:∃ w1,w.alloc (.cells #[.int .i64 6,.int .u64 17,.slice ja 0 jb,.slice (some ⟨b6,o6,none⟩) 1 jd] 26)=w1:=⟨_,rfl⟩
 rw[sW]at hB pd zB
 try rw[sW]
 clear sW;have c0:=jfj;have c1:=hB.cell 1 rfl;have c3:=jfk;obtain⟨r0,r3,Sz,yQ,pf,zG⟩:=jft;go_upto_region 4 with fail
 obtain⟨w2,pj⟩:∃ w2,w1.alloc (.cells #[.int .i64 2,.int .i64 5,.int .i64 2,.int .i64 2] 3)=w2:=⟨_,rfl⟩
 obtain⟨N,hN⟩:∃ N,w1.heap.size=N:=⟨_,rfl⟩
 rw[pj]at yQ pf zG Sz;rw[hN]at Sz
 try rw[pj]
 try rw[hN]
 clear pj hB c0 c1 c3 r0 r3 pd zB hN;have c1:=yQ.cell 1 rfl;have c3:=yQ.cell 3 rfl;have r0:=pf.cell HR.out.1;have r3:=pf.cell HR.out.2.1;have n0:=Sz.cell 0 rfl;have n1:=Sz.cell 1 rfl;have n2:=Sz.cell 2 rfl;have n3:=Sz.cell 3 rfl;have k0:=pf.cell J9.out.1;have k1:=pf.cell J9.out.2.1;have k2:=pf.cell J9.out.2.2.1;have k3:=pf.cell J9.out.2.2.2;go_wp2_with fail
 go_loopw [47] (fun v47 wx=>∃ i:Nat,v47=.int .i64 (i:Int)∧i≤4∧wx=w2) (fun v47 _=>4-(intOf v47).toNat)
 case atStart=>exact⟨0,rfl,by omega,rfl⟩
 case round =>
 obtain⟨i,rfl,hi,rfl⟩:=hrel
 by_cases yu:i<4
 ·rcases(by omega:i=0∨i=1∨i=2∨i=3) with rfl | rfl | rfl | rfl
  ·exact jcZ
  ·exact jc0
  ·exact jc1
  go_wp2_with fail
  go_roundw
  case rel=>exact⟨4,rfl,by omega,by trivial⟩
  case measure=>simp[intOf]
 have MJ:i=4:=by omega
 exact jcP
theorem Zz (x:Int):∃ n:Nat,Ending.returned (Value.int .u64 (IntKind.u64.wrap x))=.returned (.int .u64 (n:Int))∧n<18446744073709551616:=by
 refine⟨(IntKind.u64.wrap x).toNat, ?_, ?_⟩
 ·rw[Int.toNat_of_nonneg (by rw[IntKind.wrap_u64];omega)]
 rw[IntKind.wrap_u64];omega
theorem tI (op:BinOp) (a b:Int):∃ n:Nat,Ending.returned (Value.int .u64 (bits op .u64 a b))=.returned (.int .u64 (n:Int))∧n<18446744073709551616:=Zz _
def lN (w:World) (e:Ending) (w':World):Prop:=(∃ n:Nat,e=.returned (.int .u64 (n:Int))∧n<18446744073709551616)∧w'=w
theorem VW (v:Nat) (hv:v<18446744073709551616) (w:World) :
  Calls Tryz.prog 118 #[.int .u64 (v:Int),.int .i64 5,.int .i64 10] w (lN w):=by
 have A2:bits .and .u64 (v:Int) 1023=((v%1024:Nat):Int):=tC v 10 (by omega) (by omega);have hM:v%1024≤1023:=by omega
 generalize v%1024=M at *
 have hz:¬ ((0:Int)<bits .and .u64 (v:Int) 1023/2048):=by rw[A2];omega
 have HZ:=Hh hz;clear A2 hM hz;go_enter Tryz.func118,Tryz.ntmps118
 go_wp2_with fail
 ·exact jck
 ·go_ret;exact⟨Zz ..,rfl⟩
 ·go_loop [12] (fun v12=>∃ k:Nat,k≤10∧v12=.int .i64 (k:Int)) (fun v12=>10-(intOf v12).toNat)
  case atStart=>exact⟨0,by omega,rfl⟩
  case round =>
  obtain⟨k,hk,rfl⟩:=hrel
  rcases(by omega:k≤9∨k=10) with h | rfl
  ·have lA:(k:Int)+1≤10:=by omega
   exact jbQ
  have hz:=HZ.out;go_wp2_with fail
  exact jck
 exact jck
theorem VX (v:Nat) (hv:v<18446744073709551616) (w:World) :
  Calls Tryz.prog 118 #[.int .u64 (v:Int),.int .i64 8,.int .i64 23] w (lN w):=by
 have A2:bits .and .u64 (v:Int) 8388607=((v%8388608:Nat):Int):=tC v 23 (by omega) (by omega);have hM:v%8388608≤8388607:=by omega
 generalize v%8388608=M at *
 have hz:¬ ((0:Int)<bits .and .u64 (v:Int) 8388607/16777216):=by rw[A2];omega
 have HZ:=Hh hz;clear A2 hM hz;go_enter Tryz.func118,Tryz.ntmps118
 go_wp2_with fail
 ·exact jck
 ·go_ret;exact⟨Zz ..,rfl⟩
 ·go_loop [12] (fun v12=>∃ k:Nat,k≤23∧v12=.int .i64 (k:Int)) (fun v12=>23-(intOf v12).toNat)
  case atStart=>exact⟨0,by omega,rfl⟩
  case round =>
  obtain⟨k,hk,rfl⟩:=hrel
  rcases(by omega:k≤22∨k=23) with h | rfl
  ·have lA:(k:Int)+1≤23:=by omega
   exact jbQ
  have hz:=HZ.out;go_wp2_with fail
  exact jck
 exact jck
end Go.Proofs.YtliomcphdnppnaaGreatDoor
