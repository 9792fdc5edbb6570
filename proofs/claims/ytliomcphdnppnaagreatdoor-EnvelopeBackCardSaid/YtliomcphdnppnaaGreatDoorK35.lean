/- squeezed. Walks: an envelope is read back, b -/
import Derived.Test.YtliomcphdnppnaaGreatDoorK34
import Derived.Lib.SliceRun
import Derived.Laws.CopyOwn
import Derived.Deep.DeepCutAuto
import Derived.Deep.CutBlock
set_option linter.unusedVariables false
set_option linter.unusedSimpArgs false
set_option maxRecDepth 100000
set_option maxHeartbeats 25600000
namespace Go.Proofs.YtliomcphdnppnaaGreatDoor
open Go.RowKit
theorem jaj{P:Prop}(h:P:=by
 replace hG:=hG.drew;replace hT:=hT.below (Below.refl _ _).drew
 refine zw 8 (fun wx=>wx.cell? ⟨b,off+10,none⟩=some (.slice ba bn bc)) (by kernel_rfl) ((HC.out _ _ (Snap.le.refl _) hG.holds).2.2.2.2.2) (fun zy=>?_)
 refine TkS 1 rfl zy ?_
 refine TkS 2 rfl zy ?_
 refine TkS 3 rfl zy ?_
 refine TkS 4 rfl zy ?_
 refine Ways.two (i:=0) (j:=6) rfl rfl (by kernel_rfl) (fun K hK=>?_) (fun K hK=>?_)
 ·go_simp
  refine(qV _).mono ?_
  rintro e w5 ⟨rfl,xS⟩
  try replace hD:=hD.below xS
  replace hT:=hT.below xS;replace hG:=hG.below_ xS
  refine Ko hK ?_ fun zy=>?_
  ·exact jep
  clear hK K
  refine TkS 5 rfl zy ?_
  refine To 6 rfl fun K hK=>?_
  go_simp
  have hD:=hG.newBlk 36 yT;have Wl:=hG.hidden (Nat.le_refl _);have QC:=hT.lt;replace hT:=hT.alloc (.cells yT 36);replace hG:=hG.alloc (.cells yT 36)
  try simp only[zW,zr]at hD
  try simp only[zW,zr]at Wl
  try simp only[zW,zr]at QC
  refine Ko hK ?_ fun zy=>?_
  ·exact jep
  clear hK K
  exact jef
 go_simp
 have hD:=hG.newBlk 36 yT;have Wl:=hG.hidden (Nat.le_refl _);have QC:=hT.lt;replace hT:=hT.alloc (.cells yT 36);replace hG:=hG.alloc (.cells yT 36)
 try simp only[zW,zr]at hD
 try simp only[zW,zr]at Wl
 try simp only[zW,zr]at QC
 refine Ko hK ?_ fun zy=>?_
 ·exact jep
 clear hK K
 refine To 0 rfl fun K hK=>?_
 go_simp
 refine(qV _).mono ?_
 rintro e w5 ⟨rfl,xS⟩
 try replace hD:=hD.below xS
 replace hT:=hT.below xS;replace hG:=hG.below_ xS
 refine Ko hK ?_ fun zy=>?_
 ·exact jep
 clear hK K
 refine TkS 5 rfl zy ?_
 exact jef):P:=h
theorem jal{P:Prop}(h:P:=by
 rcases PB.out with ⟨h1,h2⟩ | ⟨h1,h2,h3⟩
 ·have hz:pn=0:=by have e:=HN.out.2;rw[h1]at e;exact e.symm
  have Q0:p=.mk 5 0 [] []:=h2;subst hz;have HP:=Hh Q0;clear h1 h2 Q0;go_wp2_with fail
  go_meet
  exact⟨H2,⟨none,0,none,0⟩,hG,Snap.le.refl _,sQ,WP,by rw[HP.out];exact IsItem.plain _ 5 0 (by omega) (by omega),hT,by rw[HP.out];exact qw⟩
 have hz:(0:Int)<(pn:Int):=by have e:=HN.out.2;have JG:0<(yH p).length:=h1;omega
 have TD:((p.items.length:Int)==0)=false:=by have Q0:0<p.items.length:=h2;rw[beq_eq_false_iff_ne];omega
 have zA1:((p.items.length:Int)=0)=False:=eq_false (by have Q0:0<p.items.length:=h2;omega)
 have St:Hid (∀ w1 e w',vf w1 H2 (yH p) e w'→∃ ja jb jc jd H',e=.returned (.tuple #[xp p ja jb jc jd,.int .i64 0])∧Grows w1 H2 w' H'∧IsItem H' ja jb jc jd p):=fun w1 e w' h=>by
  unfold vf at h
  rw[show uY (yH p)=.ok p from h3]at h
  exact h
 clear h1 h2 h3;have D:=Hh (pL (HT.out.mono hG.le) _ hG.holds (n:=pn) HN.out.2.symm fh.out);go_wp2_with fail
 refine D.out.mono ?_
 intro e w15 hd
 obtain⟨ka,kb,kc,kd,H5,rfl,wb,Wh⟩:=St.out _ _ _ hd;clear hd D St q0 q4 q5 q6 q7 q10;have Dm:=Blk.new w15 26 #[.int .i64 0,.int .u64 0,.slice none 0 0,.slice none 0 0];have ZC:=wb.none sQ qw.lt;have rF:=wb.none WP hT.lt;have Fd:H5 w15.heap.size=none:=wb.holds.none_of_ge (Nat.le_refl _);have zAg:N<w15.heap.size:=by have:=wb.size;have:=qw.lt;omega
 replace hT:=(hT.below wb.below).alloc zi;replace qw:=(qw.below wb.below).alloc zi;have Hd:=wb.le;replace hG:=(hG.trans wb).alloc zi;clear wb;go_wp2_with (with_reducible refine zx ?_)
 refine zv rfl _ _ _ rfl rfl _ _ rfl rfl _ _ Dm zu rfl (gf _ _ _ _ _) fun w16 hY hg16=>?_
 replace hT:=hT.gr hg16 (by omega);replace qw:=qw.gr hg16 (by omega);replace hG:=hG.grownOwn Fd (by omega) hg16;clear Dm hg16;have y0:=hY.cell 0 rfl;have y1:=hY.cell 1 rfl;have y2:=hY.cell 2 rfl;have y3:=hY.cell 3 rfl;go_wp2_with (with_reducible refine zx ?_)
 refine xT rfl _ _ _ rfl rfl N 0 _ rfl rfl _ _ qw zu (by simp) (gf _ _ _ _ _) fun w17 Vz hg17=>?_
 replace Vz:Blk w17 N 36 (evC p ⟨ka,kb,kc,kd⟩ u ub ba bn bc none 0 0):=Vz;replace hT:=hT.gr hg17 (by omega);replace hG:=hG.grownOwn ZC (by omega) hg17;clear qw hg17 y0 y1 y2 y3 hY;go_wp2_with fail
 go_meet
 exact⟨H5,⟨ka,kb,kc,kd⟩,hG,Hd,ZC,rF,Wh,hT,Vz⟩):P:=h
theorem jaX{P:Prop}(h:P:=by
 refine TkS 0 rfl zy ?_
 refine TkS 1 rfl zy ?_
 refine TkS 2 rfl zy ?_
 refine To 3 rfl fun K hK=>?_
 rw[if_pos (by rfl)]
 refine zh _ _ _ rfl _ _ rfl rfl _ _ hT tM rfl (pO _ _ _ _ _ _ _ _ _ _) fun wz uo yS=>?_
 replace hD:=hD.gr yS (by omega);replace hG:=hG.grownOwn uq (Nat.le_refl _) yS
 refine Ko hK ?_ fun zy=>?_
 ·exact⟨hD.cell 0 rfl,hD.cell 1 rfl,hD.cell 2 rfl,hD.cell 3 rfl,hD.cell 4 rfl,hD.cell 5 rfl,hD.cell 6 rfl,hD.cell 7 rfl,hD.cell 8 rfl,hD.cell 9 rfl⟩
 clear hK K
 refine TkS 4 rfl zy ?_
 refine Wd ?_
 clear zy hT yS hD;go_wp2_with fail
 refine Tq rfl rfl uo rfl rfl tM rfl ?_
 exact ENDX _ hG):P:=h
theorem jbN{P:Prop}(h:P:=by
 have h:=iS.out;have e0:=h.c0;have e1:=h.b0;rw[mq]at e0;rw[mh]at e1
 exact⟨hW.cell (yw.cell e0),hW.cell (yw.cell h.u0),hW.cell (yw.cell h.u1),hW.cell (yw.cell h.u2),hW.cell (yw.cell h.u3),hW.cell (yw.cell e1)⟩):P:=h
theorem jdQ{P:Prop}(h:P:=by
 go_wp2_with fail
 go_ret
 exact⟨by rw[E.out,EV.out];rfl,sP⟩):P:=h
theorem jef{P:Prop}(h:P:=by
 refine To 7 rfl fun K hK=>?_
 rw[if_pos (by rfl)]
 refine zh _ _ _ rfl _ _ rfl rfl _ _ hD tM rfl (pO (.mk 5 0 [] []) (.mk 5 0 [] []) ⟨none,0,none,0⟩ ⟨none,0,none,0⟩ ba bn bc none 0 0) fun w10 hD10 xW=>?_
 replace hT:=hT.gr xW (by omega);replace hG:=hG.grownOwn Wl (by omega) xW
 refine Ko hK ?_ fun zy=>?_
 ·exact(HC.out _ _ (Snap.le.refl _) hG.holds).2.2.2.2.2
 clear hK K
 refine Wd ?_
 clear zy;go_wp2_with fail
 go_meet
 exact⟨_,rfl,QC,hG,Wl,hT,hD10⟩):P:=h
theorem jep{P:Prop}(h:P:=by exact(HC.out _ _ (Snap.le.refl _) hG.holds).2.2.2.2.2):P:=h
def Tx (w:World) (H:Snap) (k:Nat) (v:Ev) (e:Ending) (w':World):Prop :=
 ∃ a H',e=.returned (.tuple #[.int .i64 k,.agg (evQ v a),.int .i64 0])∧Grows w H w' H'∧EvA H' v a
theorem tM:(Tryz.prog.info? 36).map (·.size)=some 10:=by kernel_rfl
theorem Kp:(Tryz.prog.info? 23).map (·.size)=some 1:=by kernel_rfl
theorem pO (p u:Itm) (a b:Ad) (ba:Option Addr) (bn bc:Nat) (ta:Option Addr) (tn tc:Nat):(evC p a u b ba bn bc ta tn tc).all (·.oneCell')=true:=by kernel_rfl
theorem gf (x:Itm) (ba:Option Addr) (bc:Nat) (ia:Option Addr) (ic:Nat):(#[.int .i64 x.kind,.int .u64 x.n,.slice ba x.bytes.length bc,.slice ia x.items.length ic]:Array Value).all (·.oneCell')=true:=by kernel_rfl
theorem Xc {fn:Func}{p u v:Tmp}{ty:TypeId}(h:fn.results=#[.tmp u,.cell p ty,.tmp v]) (tmps:Array Value) (P:Program) (w:World) :
  (results fn tmps).run P w =
   ((asAddr (tmps.getD p undef)).run P w).andThen fun a w₁=>((loadVar ty a).run P w₁).andThen fun x w₂=>.ok (.tuple #[tmps.getD u undef,x,tmps.getD v undef]) w₂:=by
 exact jci
theorem Tq {fn:Func}{p u v:Tmp}{ty:TypeId}{a:Act}{w:World}{R:Ending→World→Prop}{g:Nat}{t:TypeId}{cs:Array Value}{d:TypeDesc}(h:fn.results=#[.tmp u,.cell p ty,.tmp v]) (hp:a.tmps.getD p undef=.pointer (some ⟨g,0,none⟩)) (hg:Blk w g t cs)
  (hd:(match d with | .struct _ | .array _ _=>true | _=>false)=true) (hu:Tryz.prog.underlying ty=some d) (hi:(Tryz.prog.info? ty).map (·.size)=some cs.size)
  (hdf:a.defers=[]) (hR:R (.returned (.tuple #[a.tmps.getD u undef,.agg cs,a.tmps.getD v undef])) w):bodyPost Tryz.prog fn R .ret a w:=by
 refine bodyPost_ret (v:=.tuple #[a.tmps.getD u undef,.agg cs,a.tmps.getD v undef]) ?_ hdf hR
 rw[Xc h,hp];exact jaZ
theorem qV (w:World) :
  Calls Tryz.prog 64 #[] w fun e w'=>e=.returned (.agg (zA (.mk 5 0 [] []) ⟨none,0,none,0⟩ (.mk 5 0 [] []) ⟨none,0,none,0⟩))∧Below w.heap.size w w':=by
 go_enter Tryz.func64,Tryz.ntmps64
 exact jdb
structure RowEv (H:Snap) (b off:Nat) (p u:Itm) (body:List UInt8) (pa:Option Addr) (pb:Nat) (ub:Ad) (ba:Option Addr) (bc:Nat):Prop where
 c0:H.cell? ⟨b,off+2,none⟩=some (.slice pa (yH p).length pb)
 prot:IsBytes H pa pb (yH p)
 u0:H.cell? ⟨b,off+4,none⟩=some (.int .i64 u.kind)
 u1:H.cell? ⟨b,off+5,none⟩=some (.int .u64 u.n)
 u2:H.cell? ⟨b,off+6,none⟩=some (.slice ub.ba u.bytes.length ub.bc)
 u3:H.cell? ⟨b,off+7,none⟩=some (.slice ub.ia u.items.length ub.ic)
 u:IsItem H ub.ba ub.bc ub.ia ub.ic u
 b0:H.cell? ⟨b,off+10,none⟩=some (.slice ba body.length bc)
 body:IsBytes H ba bc body
theorem Oi {H:Snap}{b off k:Nat}{p u:Itm}{body tag:List UInt8}(h:IsElems H b off (yt k ⟨p,u,body,tag⟩)):∃ pa pb ub ba bc,RowEv H b off p u body pa pb ub ba bc:=by
 obtain⟨y1,y2,y3,y4,p0,p1,p2,p3,pe⟩:=h.get 0 (by simp[yt]);obtain⟨u1,u2,u3,u4,q0,q1,q2,q3,qe⟩:=h.get 1 (by simp[yt]);obtain⟨z1,z2,z3,z4,s0,s1,s2,s3,se⟩:=h.get 2 (by simp[yt])
 exact⟨y1,y2,⟨u1,u2,u3,u4⟩,z1,z2,p2,pe.bytes,q0,q1,q2,q3,qe,s2,se.bytes⟩
theorem Kj {H:Snap}{b off:Nat}{p u:Itm}{body tag:List UInt8}(h:IsElems H b off (yt 17 ⟨p,u,body,tag⟩)):∃ ta tc,H.cell? ⟨b,off+14,none⟩=some (.slice ta tag.length tc)∧IsBytes H ta tc tag:=by
 obtain⟨y1,y2,y3,y4,p0,p1,p2,p3,pe⟩:=h.get 3 (by simp[yt])
 exact⟨y1,y2,p2,pe.bytes⟩
theorem iw {H:Snap}(hTab:Tabs H) {v:Ev}(ho:EnvOk 16 v) {A:Option Addr}{n c:Nat}(hn:n=(zZ (wk 16 v)).length) (hl:IsBytes H A c (zZ (wk 16 v))) (w:World) (hH:Holds w H) :
  Calls Tryz.prog 25 #[.slice A n c] w (Tx w H 16 v):=by
 have hT:=Blk.new w 36 yT;have hG:=(Grows.refl hH).alloc (.cells yT 36);have uq:H w.heap.size=none:=hH.none_of_ge (Nat.le_refl _);have HT:=Hh hTab;have HO:=Hh ho;have gK:=(yY ho.head).2.2.2;have HU5:=Hh gK
 have St:Hid (∀ w1 e w',vf w1 H (zZ (wk 16 v)) e w'→∃ ja jb jc jd H',e=.returned (.tuple #[xp (wk 16 v) ja jb jc jd,.int .i64 0])∧Grows w1 H w' H'∧IsItem H' ja jb jc jd (wk 16 v)):=fun w1 e w' h=>by
  unfold vf at h
  rw[YD HO.out]at h
  exact h
 have D:=Hh (pL (HT.out.mono (Snap.le.refl H)) _ hG.holds hn hl);have Sv:Hid ((yt 16 v).length=3):=by rw[Hid];simp[yt]
 obtain⟨X,hX⟩:∃ X,wk 16 v=X:=⟨_,rfl⟩
 have FD:Hid (∀ (W:World) (K':Snap) (ja jc:Option Addr) (jb jd:Nat),IsItem K' ja jb jc jd X→Holds W K'→Calls Tryz.prog 63 #[xp X ja jb jc jd] W (jQ W K' 16 v)):=fun W K' ja jc jb jd hx hW=>by
  rw[← hX]at hx⊢
  exact j7 hx HU5.out W hW
 rw[hX]at St D;clear hTab ho hH gK hn hl hX;go_enter Tryz.func25,Tryz.ntmps25
 go_wp2_with fail
 refine D.out.mono ?_
 intro e w2 hd
 obtain⟨ja,jb,jc,jd,H2,rfl,yE,pi⟩:=St.out _ _ _ hd;clear hd D St;have Dl:=Blk.new w2 26 #[.int .i64 0,.int .u64 0,.slice none 0 0,.slice none 0 0];have WP:=yE.none uq hT.lt;replace hT:=(hT.below yE.below).alloc zi;have TG:H2 w2.heap.size=none:=yE.holds.none_of_ge (Nat.le_refl _);replace hG:=(hG.trans yE).alloc zi;have dJ:w.heap.size<w2.heap.size:=by have:=yE.size;simp only[zr]at this;omega
 clear yE uq;go_wp2_with (with_reducible refine zx ?_)
 refine zv rfl _ _ _ rfl rfl _ _ rfl rfl _ _ Dl zu rfl (gf _ _ _ _ _) fun w3 nC ph=>?_
 replace hT:=hT.gr ph (by omega);replace hG:=hG.grownOwn TG (by omega) ph;clear Dl ph;have c0:=nC.cell 0 rfl;have c1:=nC.cell 1 rfl;have c2:=nC.cell 2 rfl;have c3:=nC.cell 3 rfl;go_wp2_with fail
 refine(FD.out w3 _ _ _ _ _ pi hG.holds).mono ?_
 rintro e w4 ⟨b,off,fc,rfl,dE,wY,uR⟩
 rw[Sv.out]at dE⊢;replace hT:=hT.below uR;replace hG:=hG.below_ uR;clear c0 c1 c2 c3 uR nC FD pi dJ TG;obtain⟨p,u,body,tag⟩:=v;obtain⟨pa,pb,ub,ba,bc,me⟩:=Oi wY;have iS:=Hh me;have HEL:=Hh wY;have hfi:(3:Int)≤(fc:Int):=by omega
 have Wf:(0:Int)<(3:Int):=by omega
 obtain⟨bn,mh⟩:∃ m,body.length=m:=⟨_,rfl⟩
 obtain⟨pn,mq⟩:∃ m,(yH p).length=m:=⟨_,rfl⟩
 have HN:=Hh (And.intro mh mq)
 have HC:Hid (∀ (W:World) (K':Snap),H2.le K'→Holds W K'→W.cell? ⟨b,off+2,none⟩=some (.slice pa pn pb)∧W.cell? ⟨b,off+4,none⟩=some (.int .i64 u.kind)∧W.cell? ⟨b,off+5,none⟩=some (.int .u64 u.n)∧W.cell? ⟨b,off+6,none⟩=some (.slice ub.ba u.bytes.length ub.bc)∧W.cell? ⟨b,off+7,none⟩=some (.slice ub.ia u.items.length ub.ic)∧W.cell? ⟨b,off+10,none⟩=some (.slice ba bn bc)):=fun W K' yw hW=>by
  exact jbN
 clear wY me dE mh mq;have he:=fun w:World=>Lib.run_eql_slice_nil (P:=Tryz.prog) w _ _ (some ⟨b,off,none⟩) 3 fc 0 0 Tryz.underlying24
 go_upto_region 7 with fail
 clear he;go_cut [9] (fun s9 wx=>∃ N:Nat,s9=.pointer (some ⟨N,0,none⟩)∧w.heap.size<N∧Grows w H wx H2∧H2 N=none∧Blk wx w.heap.size 36 yT∧Blk wx N 36 (evC (.mk 5 0 [] []) ⟨none,0,none,0⟩ (.mk 5 0 [] []) ⟨none,0,none,0⟩ ba bn bc none 0 0))
 case first =>
  exact jaj
 case rest =>
 clear hG hT;obtain⟨N,rfl,hwN,hG,sQ,hT,hD⟩:=hcut;obtain⟨q0,q4,q5,q6,q7,q10⟩:=HC.out _ _ (Snap.le.refl _) hG.holds;go_wp2_with (with_reducible refine zx ?_)
 refine xT rfl _ _ _ rfl rfl N 4 _ rfl rfl _ _ hD zu (by simp) (gf _ _ _ _ _) fun w13 qw hg13=>?_
 replace qw:Blk w13 N 36 (evC (.mk 5 0 [] []) ⟨none,0,none,0⟩ u ub ba bn bc none 0 0):=qw;replace hT:=hT.gr hg13 (by omega);replace hG:=hG.grownOwn sQ (by omega) hg13;clear hD hg13 q0 q4 q5 q6 q7 q10;obtain⟨q0,q4,q5,q6,q7,q10⟩:=HC.out _ _ (Snap.le.refl _) hG.holds;have PB:=Hh (bT HO.out);have pq:IsBytes H2 pa pb (yH p):=iS.out.prot;have fh:=Hh pq;clear pq;go_upto_if 45 with fail
 go_cut [] (fun wx=>∃ (K':Snap) (xa:Ad),Grows w H wx K'∧H2.le K'∧K' N=none∧K' w.heap.size=none∧IsItem K' xa.ba xa.bc xa.ia xa.ic p∧Blk wx w.heap.size 36 yT∧Blk wx N 36 (evC p xa u ub ba bn bc none 0 0))
 case first =>
  exact jal
 case rest =>
 clear hG hT qw sQ WP q0 q4 q5 q6 q7 q10 PB fh;obtain⟨K',xa,hG,yw,sQ,uq,hp,hT,hD⟩:=hcut;have VH:=Hh (uU (HT.out.mono hG.le) hp (iS.out.u.mono yw) _ hG.holds);rw[show zL p u=true from HO.out.head]at VH;have k0:=hD.cell 0 rfl;have k1:=hD.cell 1 rfl;have k2:=hD.cell 2 rfl;have k3:=hD.cell 3 rfl;have k4:=hD.cell 4 rfl;have k5:=hD.cell 5 rfl;have k6:=hD.cell 6 rfl;have k7:=hD.cell 7 rfl;go_wp2_with fail
 refine VH.out.mono ?_
 rintro e w19 ⟨rfl,aL⟩
 replace hT:=hT.below aL;replace hD:=hD.below aL;replace hG:=hG.below_ aL;clear VH aL k0 k1 k2 k3 k4 k5 k6 k7;have HP:=Hh hp;have gh:=Hh yw;clear hp yw
 have ENDX:∀ W:World,Grows w H W K'→Tx w H 16 ⟨p,u,body,tag⟩ (.returned (.tuple #[.int .i64 16,.agg (evC p xa u ub ba bn bc none 0 0),.int .i64 0])) W:=fun W hW=>by
  refine⟨⟨xa,ub,ba,bc,none,0⟩,K', ?_,hW, ?_⟩
  ·have e0:tag=[]:=by have h:=HO.out.kind;rcases h with ⟨_,h⟩ | h;exact h;cases h
   subst e0;show _=Ending.returned (.tuple #[.int .i64 16,.agg (evC p xa u ub ba body.length bc none 0 0),.int .i64 0])
   rw[HN.out.1]
  have e0:tag=[]:=by have h:=HO.out.kind;rcases h with ⟨_,h⟩ | h;exact h;cases h
  exact⟨HP.out,iS.out.u.mono gh.out,iS.out.body.mono gh.out,by rw[e0];exact IsBytes.nil _⟩
 go_upto_region 18 with fail
 replace hG:=hG.drew;replace hT:=hT.below (Below.refl _ _).drew;replace hD:=hD.below (Below.refl _ _).drew
 refine zw 5 (fun wx=>wx.cell? ⟨N,0,none⟩=some (.int .i64 p.kind)∧wx.cell? ⟨N,1,none⟩=some (.int .u64 p.n)∧wx.cell? ⟨N,2,none⟩=some (.slice xa.ba p.bytes.length xa.bc)∧wx.cell? ⟨N,3,none⟩=some (.slice xa.ia p.items.length xa.ic)∧wx.cell? ⟨N,4,none⟩=some (.int .i64 u.kind)∧wx.cell? ⟨N,5,none⟩=some (.int .u64 u.n)∧wx.cell? ⟨N,6,none⟩=some (.slice ub.ba u.bytes.length ub.bc)∧wx.cell? ⟨N,7,none⟩=some (.slice ub.ia u.items.length ub.ic)∧wx.cell? ⟨N,8,none⟩=some (.slice ba bn bc)∧wx.cell? ⟨N,9,none⟩=some (.slice none 0 0)) (by kernel_rfl) (⟨hD.cell 0 rfl,hD.cell 1 rfl,hD.cell 2 rfl,hD.cell 3 rfl,hD.cell 4 rfl,hD.cell 5 rfl,hD.cell 6 rfl,hD.cell 7 rfl,hD.cell 8 rfl,hD.cell 9 rfl⟩) (fun zy=>?_)
 exact jaX
theorem ix {H:Snap}(hTab:Tabs H) {v:Ev}(ho:EnvOk 17 v) {A:Option Addr}{n c:Nat}(hn:n=(zZ (wk 17 v)).length) (hl:IsBytes H A c (zZ (wk 17 v))) (w:World) (hH:Holds w H) :
  Calls Tryz.prog 25 #[.slice A n c] w (Tx w H 17 v):=by
 have hT:=Blk.new w 36 yT;have hG:=(Grows.refl hH).alloc (.cells yT 36);have uq:H w.heap.size=none:=hH.none_of_ge (Nat.le_refl _);have HT:=Hh hTab;have HO:=Hh ho;have gK:=(yY ho.head).2.2.2;have HU5:=Hh gK
 have St:Hid (∀ w1 e w',vf w1 H (zZ (wk 17 v)) e w'→∃ ja jb jc jd H',e=.returned (.tuple #[xp (wk 17 v) ja jb jc jd,.int .i64 0])∧Grows w1 H w' H'∧IsItem H' ja jb jc jd (wk 17 v)):=fun w1 e w' h=>by
  unfold vf at h
  rw[YD HO.out]at h
  exact h
 have D:=Hh (pL (HT.out.mono (Snap.le.refl H)) _ hG.holds hn hl);have Sv:Hid ((yt 17 v).length=4):=by rw[Hid];simp[yt]
 obtain⟨X,hX⟩:∃ X,wk 17 v=X:=⟨_,rfl⟩
 have FD:Hid (∀ (W:World) (K':Snap) (ja jc:Option Addr) (jb jd:Nat),IsItem K' ja jb jc jd X→Holds W K'→Calls Tryz.prog 63 #[xp X ja jb jc jd] W (jQ W K' 17 v)):=fun W K' ja jc jb jd hx hW=>by
  rw[← hX]at hx⊢
  exact j8 hx HU5.out W hW
 rw[hX]at St D;clear hTab ho hH gK hn hl hX;go_enter Tryz.func25,Tryz.ntmps25
 go_wp2_with fail
 refine D.out.mono ?_
 intro e w2 hd
 obtain⟨ja,jb,jc,jd,H2,rfl,yE,pi⟩:=St.out _ _ _ hd;clear hd D St;have Dl:=Blk.new w2 26 #[.int .i64 0,.int .u64 0,.slice none 0 0,.slice none 0 0];have WP:=yE.none uq hT.lt;replace hT:=(hT.below yE.below).alloc zi;have TG:H2 w2.heap.size=none:=yE.holds.none_of_ge (Nat.le_refl _);replace hG:=(hG.trans yE).alloc zi;have dJ:w.heap.size<w2.heap.size:=by have:=yE.size;simp only[zr]at this;omega
 clear yE uq;go_wp2_with (with_reducible refine zx ?_)
 refine zv rfl _ _ _ rfl rfl _ _ rfl rfl _ _ Dl zu rfl (gf _ _ _ _ _) fun w3 nC ph=>?_
 replace hT:=hT.gr ph (by omega);replace hG:=hG.grownOwn TG (by omega) ph;clear Dl ph;have c0:=nC.cell 0 rfl;have c1:=nC.cell 1 rfl;have c2:=nC.cell 2 rfl;have c3:=nC.cell 3 rfl;go_wp2_with fail
 refine(FD.out w3 _ _ _ _ _ pi hG.holds).mono ?_
 rintro e w4 ⟨b,off,fc,rfl,dE,wY,uR⟩
 rw[Sv.out]at dE⊢;replace hT:=hT.below uR;replace hG:=hG.below_ uR;clear c0 c1 c2 c3 uR nC FD pi dJ TG;obtain⟨p,u,body,tag⟩:=v;obtain⟨pa,pb,ub,ba,bc,me⟩:=Oi wY;have iS:=Hh me;have HEL:=Hh wY;have hfi:(4:Int)≤(fc:Int):=by omega
 have Wf:(0:Int)<(4:Int):=by omega
 obtain⟨bn,mh⟩:∃ m,body.length=m:=⟨_,rfl⟩
 obtain⟨pn,mq⟩:∃ m,(yH p).length=m:=⟨_,rfl⟩
 have HN:=Hh (And.intro mh mq)
 have HC:Hid (∀ (W:World) (K':Snap),H2.le K'→Holds W K'→W.cell? ⟨b,off+2,none⟩=some (.slice pa pn pb)∧W.cell? ⟨b,off+4,none⟩=some (.int .i64 u.kind)∧W.cell? ⟨b,off+5,none⟩=some (.int .u64 u.n)∧W.cell? ⟨b,off+6,none⟩=some (.slice ub.ba u.bytes.length ub.bc)∧W.cell? ⟨b,off+7,none⟩=some (.slice ub.ia u.items.length ub.ic)∧W.cell? ⟨b,off+10,none⟩=some (.slice ba bn bc)):=fun W K' yw hW=>by
  exact jbN
 clear wY me dE mh mq;have he:=fun w:World=>Lib.run_eql_slice_nil (P:=Tryz.prog) w _ _ (some ⟨b,off,none⟩) 4 fc 0 0 Tryz.underlying24
 go_upto_region 7 with fail
 clear he;go_cut [9] (fun s9 wx=>∃ N:Nat,s9=.pointer (some ⟨N,0,none⟩)∧w.heap.size<N∧Grows w H wx H2∧H2 N=none∧Blk wx w.heap.size 36 yT∧Blk wx N 36 (evC (.mk 5 0 [] []) ⟨none,0,none,0⟩ (.mk 5 0 [] []) ⟨none,0,none,0⟩ ba bn bc none 0 0))
 case first =>
  exact jaj
 case rest =>
 clear hG hT;obtain⟨N,rfl,hwN,hG,sQ,hT,hD⟩:=hcut;obtain⟨q0,q4,q5,q6,q7,q10⟩:=HC.out _ _ (Snap.le.refl _) hG.holds;go_wp2_with (with_reducible refine zx ?_)
 refine xT rfl _ _ _ rfl rfl N 4 _ rfl rfl _ _ hD zu (by simp) (gf _ _ _ _ _) fun w13 qw hg13=>?_
 replace qw:Blk w13 N 36 (evC (.mk 5 0 [] []) ⟨none,0,none,0⟩ u ub ba bn bc none 0 0):=qw;replace hT:=hT.gr hg13 (by omega);replace hG:=hG.grownOwn sQ (by omega) hg13;clear hD hg13 q0 q4 q5 q6 q7 q10;obtain⟨q0,q4,q5,q6,q7,q10⟩:=HC.out _ _ (Snap.le.refl _) hG.holds;have PB:=Hh (bT HO.out);have pq:IsBytes H2 pa pb (yH p):=iS.out.prot;have fh:=Hh pq;clear pq;go_upto_if 45 with fail
 go_cut [] (fun wx=>∃ (K':Snap) (xa:Ad),Grows w H wx K'∧H2.le K'∧K' N=none∧K' w.heap.size=none∧IsItem K' xa.ba xa.bc xa.ia xa.ic p∧Blk wx w.heap.size 36 yT∧Blk wx N 36 (evC p xa u ub ba bn bc none 0 0))
 case first =>
  exact jal
 case rest =>
 clear hG hT qw sQ WP q0 q4 q5 q6 q7 q10 PB fh;obtain⟨K',xa,hG,yw,sQ,uq,hp,hT,hD⟩:=hcut;obtain⟨ta,tc,UI,htb⟩:=Kj HEL.out;obtain⟨tn,pI⟩:∃ m,tag.length=m:=⟨_,rfl⟩
 rw[pI]at UI;have MS:=Hh (And.intro (yw.cell UI) (And.intro (htb.mono yw) pI));clear UI htb pI;have q14:=hG.holds.cell MS.out.1;go_wp2_with (with_reducible refine zx ?_)
 refine zj rfl _ _ _ rfl rfl N 9 _ rfl rfl _ _ hD Kp (by simp) rfl fun w18 LK hg18=>?_
 replace LK:Blk w18 N 36 (evC p xa u ub ba bn bc ta tn tc):=LK;replace hT:=hT.gr hg18 (by omega);replace hG:=hG.grownOwn sQ (by omega) hg18;clear hD hg18 q14;replace hD:=LK;clear LK;have VH:=Hh (uU (HT.out.mono hG.le) hp (iS.out.u.mono yw) _ hG.holds);rw[show zL p u=true from HO.out.head]at VH;have k0:=hD.cell 0 rfl;have k1:=hD.cell 1 rfl;have k2:=hD.cell 2 rfl;have k3:=hD.cell 3 rfl;have k4:=hD.cell 4 rfl;have k5:=hD.cell 5 rfl;have k6:=hD.cell 6 rfl;have k7:=hD.cell 7 rfl;go_wp2_with fail
 refine VH.out.mono ?_
 rintro e w19 ⟨rfl,aL⟩
 replace hT:=hT.below aL;replace hD:=hD.below aL;replace hG:=hG.below_ aL;clear VH aL k0 k1 k2 k3 k4 k5 k6 k7;have HP:=Hh hp;have gh:=Hh yw;clear hp yw
 have ENDX:∀ W:World,Grows w H W K'→Tx w H 17 ⟨p,u,body,tag⟩ (.returned (.tuple #[.int .i64 17,.agg (evC p xa u ub ba bn bc ta tn tc),.int .i64 0])) W:=fun W hW=>by
  refine⟨⟨xa,ub,ba,bc,ta,tc⟩,K', ?_,hW, ?_⟩
  ·show _=Ending.returned (.tuple #[.int .i64 17,.agg (evC p xa u ub ba body.length bc ta tag.length tc),.int .i64 0])
   rw[HN.out.1,MS.out.2.2]
  exact⟨HP.out,iS.out.u.mono gh.out,iS.out.body.mono gh.out,MS.out.2.1⟩
 go_upto_region 18 with fail
 replace hG:=hG.drew;replace hT:=hT.below (Below.refl _ _).drew;replace hD:=hD.below (Below.refl _ _).drew
 refine zw 5 (fun wx=>wx.cell? ⟨N,0,none⟩=some (.int .i64 p.kind)∧wx.cell? ⟨N,1,none⟩=some (.int .u64 p.n)∧wx.cell? ⟨N,2,none⟩=some (.slice xa.ba p.bytes.length xa.bc)∧wx.cell? ⟨N,3,none⟩=some (.slice xa.ia p.items.length xa.ic)∧wx.cell? ⟨N,4,none⟩=some (.int .i64 u.kind)∧wx.cell? ⟨N,5,none⟩=some (.int .u64 u.n)∧wx.cell? ⟨N,6,none⟩=some (.slice ub.ba u.bytes.length ub.bc)∧wx.cell? ⟨N,7,none⟩=some (.slice ub.ia u.items.length ub.ic)∧wx.cell? ⟨N,8,none⟩=some (.slice ba bn bc)∧wx.cell? ⟨N,9,none⟩=some (.slice ta tn tc)) (by kernel_rfl) (⟨hD.cell 0 rfl,hD.cell 1 rfl,hD.cell 2 rfl,hD.cell 3 rfl,hD.cell 4 rfl,hD.cell 5 rfl,hD.cell 6 rfl,hD.cell 7 rfl,hD.cell 8 rfl,hD.cell 9 rfl⟩) (fun zy=>?_)
 exact jaX
theorem eh:(Tryz.prog.info? 5).map (·.size)=some 1:=by kernel_rfl
theorem XP (n:Nat):(madeCells (Value.int .u8 0).cells (n*1)).toList=(List.replicate n (0:UInt8)).map zm:=by
 apply List.ext_getElem?
 intro j
 simp[madeCells,Value.cells,List.getElem?_replicate]
 by_cases h:j<n
 ·simp[h,zm,Nat.mod_one]
 simp[h]
theorem Sa {P:Program}{ops:Array Oper}{Q:Exit→Act→World→Prop}{rest:List Oper}{a:Act}{w:World}{dst:Option Tmp}{d s:Operand}{tys:Array TypeId}{T:TypeId}{pos:String}{af:Array Edge}{g:Option (Nat×Bool)}
  (h:zC (wpList P ops Q (⟨dst,.call { callee:=.builtin .copy,args:=#[d,s],argTypes:=tys },T,pos,af,g⟩::rest) a w)):wpList P ops Q (⟨dst,.call { callee:=.builtin .copy,args:=#[d,s],argTypes:=tys },T,pos,af,g⟩::rest) a w:=h
theorem O5 {α:Type}(L ns:List α):splice L 0 ns=ns++L.drop ns.length:=by simp[splice]
theorem jB {w:World}{ops:Array Oper}{rest:List Oper}{o:Oper}{a:Act}{Q:Exit→Act→World→Prop}(hgd:o.guard=none) (d s:Operand)
  (ho:o.op=.call { callee:=.builtin .copy,args:=#[d,s],argTypes:=#[23,23] })
  (base:Nat) (A':Option Addr) (n' c':Nat) (l:List UInt8) (hd:a.eval d=.slice A' n' c') (xH:OwnB w base (.slice A' n' c') l) (A:Option Addr) (m c:Nat) (news:List UInt8) (hs:a.eval s=.slice A m c) (hm:m=news.length)
  (hr:Src w A (news.map zm)) (yw:news.length≤l.length) (w0:World) (hb:Below base w0 w)
  (h:∀ w',OwnB w' base (.slice A' n' c') (news++l.drop news.length)→Below base w0 w'→wpList Tryz.prog ops Q rest (a.put o.dst (goInt news.length)) w') :
  wpList Tryz.prog ops Q (o::rest) a w:=by
 subst hm
 rcases xH.2 with ⟨hv,hz⟩ | ⟨g,cap,cur,hv,hbse,hg,hc,gJ,hcz,ht⟩
 ·cases hv
  have UF:l=[]:=List.eq_nil_of_length_eq_zero hz;subst UF;have yO:news=[]:=List.eq_nil_of_length_eq_zero (by simpa using yw);subst yO
  refine wpList_copy_nothing hgd d s _ _ ho 5 Tryz.underlying23 eh _ _ _ _ _ _ hd hs (by simp) ?_
  exact h w xH hb
 cases hv
 have mj:(news.map zm).length=news.length:=by simp
 have hz:cur.toList.length=c':=by rw[Array.length_toList,hcz,Nat.mul_one]
 refine wpList_copy_splice hgd d s _ _ ho 5 Tryz.underlying23 eh _ _ _ _ _ _ hd hs g 0 cur.toList 5 (by simpa using hg) (news.map zm) (by rw[mj];exact(Nat.min_eq_left yw).symm) ?_ (by rw[mj,hz];omega) (i8 _) base w0 hb hbse ?_
 ·intro hp
  obtain⟨b,off,e,xP⟩:=hr (by intro h0;rw[h0]at hp;simp at hp)
  exact⟨rfl,_,e,fun j v hj=>by rw[oN];exact xP j v hj⟩
 intro w' hG hB
 rw[mj]
 refine h w' ?_ hB
 have hl:(news++l.drop news.length).length=l.length:=by rw[List.length_append,List.length_drop];omega
 refine⟨by simp,.inr ⟨g,c',(splice cur.toList 0 (news.map zm)).toArray,by rw[hl],hbse,hG.out,by rw[hl];exact hc,gJ, ?_, ?_⟩⟩
 ·have:=length_splice cur.toList 0 (news.map zm) (by rw[mj,hz];omega);rw[hz]at this;rw[Nat.mul_one,← this]
  exact List.size_toArray
 rw[hl]
 simp only[List.toList_toArray]
 rw[O5,mj,Nat.mul_one,List.take_append,mj,List.take_of_length_le (by rw[mj];exact yw),List.map_append,List.map_drop];congr 1
 rw[Nat.mul_one]at ht;rw[← ht,List.drop_take]
theorem YI {A:Option Addr}{n c:Nat}{ls:List (List UInt8)}(hn:n=ls.length) (hl:ls.length≤1099511627000) (ht:ls.flatten.length≤1099511627000) (w:World) (hs:SrcR w A ls) :
  Calls Tryz.prog 59 #[.slice A n c] w fun e w'=>∃ r,e=.returned r∧Fresh w (ls.flatten) r w':=by
 have HN:=Hh (And.intro hn (And.intro hl ht));clear hn hl ht;go_enter Tryz.func59,Tryz.ntmps59
 have uQ:=OwnB.nil w w.heap.size;have zB:=Below.refl w.heap.size w;go_wp2_with fail
 go_loopw [3,5,8] (fun v1 v5 v2 wr=>∃ (k:Nat) (VA:Option Addr) (vc vn:Nat) (l:List UInt8),k≤ls.length∧v2=.int .i64 (k:Int)∧v1=.slice VA vn vc∧OwnB wr w.heap.size (.slice VA vn vc) l∧vn=l.length∧(ls.flatten=l++(ls.drop k).flatten)∧Below w.heap.size w wr) (fun _ _ v2 _=>ls.length-(intOf v2).toNat)
 case atStart=>exact⟨0,_,_,_,_,Nat.zero_le _,rfl,rfl,uQ,rfl,by simp,zB⟩
 case round =>
 clear uQ zB;obtain⟨k,VA,vc,vn,l,qJ,rfl,rfl,ve,cE,wY,xY⟩:=hrel;have HV:=Hh cE;have HE:=Hh wY;clear cE wY
 by_cases yu:k<ls.length
 ·obtain⟨ib,io,rfl,hr⟩:=hs (by omega);have zAq:(k:Int)<(n:Int):=by have:=HN.out.1;omega
  obtain⟨Aj,cj,c0,hsj⟩:=hr k yu;have q0:=(xY.cell (World.block_lt_of_cell? w _ c0)).trans c0;have UH:=hsj.below xY;have lA:(k:Int)+1≤9223372036854775807:=by have:=HN.out.2.1;omega
  have HT:Hid (l.length+ls[k].length≤1099511627776):=by
   have h1:=congrArg List.length HE.out;rw[jH ls k yu]at h1
   simp only[List.length_append]at h1
   have:=HN.out.2.2;skip
   rw[Hid];omega
  have HF:Hid (ls.flatten=(l++ls[k])++(ls.drop (k+1)).flatten):=by rw[Hid,HE.out,jH ls k yu,List.append_assoc]
  clear hr c0 hsj;go_wp2_with (at_builtin;refine zH ?_)
  unfold zC
  obtain rfl:=HV.out
  refine zg rfl (.tmp 12) (.tmp 13) rfl w.heap.size _ _ rfl ve Aj _ cj ls[k] rfl rfl UH HT.out xY.size fun v' w7 vT ww hat7=>?_
  obtain⟨VA',vc',rfl,_⟩:=vT.form;have aJ:OwnB w7 w.heap.size (.slice VA' (l.length+ls[k].length) vc') (l++ls[k]):=by rw[← List.length_append];exact vT
  have um:=xY.grown ww xY.size (fun q hq=>(ve.lt q hq).1);clear ve ww hat7 xY q0 UH vT;exact jeA
 have cC:k=ls.length:=by omega
 subst cC;have zAq:¬ ((ls.length:Int)<(n:Int)):=by have:=HN.out.1;omega
 have HZ:Hid (ls.flatten=l):=by rw[Hid,HE.out,List.drop_length];simp
 exact jeN
theorem Uz {A:Option Addr}{c:Nat}{key:List UInt8}{n:Nat}(hn:n=key.length) (iX:key.length≤1099511627) (m:Int) (w:World) (hS:Src w A (key.map zm)) :
  Calls Tryz.prog 60 #[.slice A n c,.int .u8 m] w fun e w'=>∃ r,e=.returned r∧Fresh w (pS m key) r w':=by
 have HN:=Hh (And.intro hn iX);have HS:=Hh hS;have SM:=Hh (kN (c:=c) hn iX w hS);clear hn iX hS;go_enter Tryz.func60,Tryz.ntmps60
 go_upto_if 9 with fail
 go_cut [0] (fun s0 wx=>∃ (A1:Option Addr) (n1 c1:Nat),s0=.slice A1 n1 c1∧Hid (n1=(kx key).length)∧Src wx A1 ((kx key).map zm)∧Below w.heap.size w wx)
 case first =>
  by_cases h64:n≤64
  ·have e:kx key=key:=by rw[kx,if_neg (by have:=HN.out.1;omega)]
   have zAU:¬ ((64:Int)<(n:Int)):=by omega
   go_wp2_with fail
   go_meet
   exact⟨A,n,c,rfl,by rw[Hid,e];exact HN.out.1,by rw[e];exact HS.out,Below.refl _ _⟩
  have e:kx key=gF key:=by rw[kx,if_pos (by have:=HN.out.1;omega)]
  have zAU:(64:Int)<(n:Int):=by omega
  have MR:=Hh e;clear e;go_wp2_with fail
  refine SM.out.mono ?_
  rintro e w1 ⟨r1,rfl,ki⟩
  obtain⟨A1,c1,rfl,oe⟩:=ki.own.form;have vV:=ki.own.src;have zB:=ki.2;clear oe ki;obtain⟨n1,un⟩:∃ n1,(gF key).length=n1:=⟨_,rfl⟩
  rw[un];have Px:=Hh un;clear un;go_wp2_with fail
  go_meet
  exact⟨A1,n1,c1,rfl,by rw[Hid,MR.out];exact Px.out.symm,by rw[MR.out];exact vV,zB⟩
 case rest =>
 clear SM;obtain⟨A1,n1,c1,rfl,Px,vV,zB⟩:=hcut;have Lo:=Hh (bE key);obtain⟨K,hK⟩:∃ K,kx key=K:=⟨_,rfl⟩
 have JB:Hid (pS m key=(pQ K).map (aT m)):=by rw[Hid,pS,hK]
 rw[hK]at Px Lo vV;obtain⟨i0,tV,kA,rE,oz⟩:=info_parts fa;clear hK;go_wp2_with (at_make;refine zH ?_)
 refine wpList_make_full _ rfl _ _ 23 rfl w.heap.size 5 i0 _ 1 Tryz.underlying23 tV kA rE _ _ _ _ 64 rfl rfl (by omega) (by omega) (by rw[oz];omega) (by simp only[maxLen];omega) zB.size fun w2 hO sv=>?_
 have zG:=zB.trans ((xe sv).mono zB.size);have dJ:=vV.below (xe sv)
 have ob:OwnB w2 w.heap.size (.slice (some ⟨wc.heap.size,0,none⟩) 64 64) (List.replicate 64 0):=by
  have h:w2.ownsRow w.heap.size 5 1 (.slice (some ⟨wc.heap.size,0,none⟩) 64 64) (List.replicate 64 (0:UInt8)).length ((List.replicate 64 (0:UInt8)).map zm):=by
   rw[List.length_replicate,← XP]
   exact hO
  exact h
 obtain⟨G,hG⟩:∃ G,wc.heap.size=G:=⟨_,rfl⟩
 rw[hG]at ob⊢;clear tV kA rE oz hO sv vV zB hG;go_wp2_with (with_reducible refine Sa ?_)
 refine jB rfl (.tmp 13) (.tmp 14) rfl w.heap.size _ _ _ _ rfl ob A1 n1 c1 K rfl Px.out dJ (by rw[List.length_replicate];exact Lo.out) w zG fun w3 l8 xj=>?_
 have dE:K++(List.replicate 64 (0:UInt8)).drop K.length=pQ K:=by rw[pQ,List.drop_replicate]
 rw[dE,← KZ m (pQ K)]at l8;have HFL:=Hh (aw Lo.out);clear ob zG dJ dE;go_wp2_with fail
 go_loopw [18] (fun v18 wr=>∃ i:Nat,v18=.int .i64 (i:Int)∧i≤64∧OwnB wr w.heap.size (.slice (some ⟨G,0,none⟩) 64 64) (qC m (pQ K) i)∧Below w.heap.size w wr) (fun v18 _=>(64-intOf v18).toNat)
 case atStart=>exact⟨0,rfl,by omega,l8,xj⟩
 case round =>
 clear l8 xj;obtain⟨i,rfl,hi,hO,hb⟩:=hrel
 by_cases yu:(i:Int)<64
 ·have rV:i<(pQ K).length:=by rw[HFL.out];omega
  have pq:i<(qC m (pQ K) i).length:=by rw[bR];exact rV
  have cl:wr.cell? ⟨G,i,none⟩=some (zm (pQ K)[i]):=by
   obtain⟨b,off,e,hc⟩:=hO.src (by intro h;have:=congrArg List.length h;rw[List.length_map]at this;simp at this;rw[this]at pq;simp at pq)
   cases e
   have h:=hc i (zm (qC m (pQ K) i)[i]) (by rw[List.getElem?_map,List.getElem?_eq_getElem pq];rfl);rw[Rn m rV,Nat.zero_add]at h
   exact h
  have HXV:=Hh (OF m (pQ K)[i]);have QG:=Hh (Ro m rV);obtain⟨u,hu⟩:∃ u,(pQ K)[i]=u:=⟨_,rfl⟩
  rw[hu]at cl HXV QG;obtain⟨gq,cur,e,hbg,DW,ZR,Pp⟩:=hO.store_ (k:=i) pq
  cases e
  have Sw:=Hh Pp;clear hu rV pq Pp hO;go_wp2_with (with_reducible refine zx ?_)
  refine zj rfl _ _ _ rfl rfl G i (zm (aT m u)) rfl (by rw[HXV.out];rfl) _ _ DW eh ZR rfl fun w4 oh oE=>?_
  have pU:=Sw.out w4 (aT m u) oh;rw[QG.out]at pU;have uR:=zY hb oE (by rintro q ⟨⟩;exact hbg);clear DW oE hb oh cl Sw;go_wp2_with fail
  go_roundw
  case rel=>exact⟨i+1,by go_num,by omega,pU,uR⟩
  case measure=>simp[intOf];omega
 obtain rfl:i=64:=by omega
 rw[Rm m (by rw[HFL.out];exact Nat.le_refl _),← JB.out]at hO;rw[show((64:Nat):Int)=64 from rfl]at yu⊢;go_wp2_with fail
 go_ret
 exact⟨_,rfl,hO,hb⟩
theorem SrcR.lit2 (w:World) (t:TypeId) {A1 A2:Option Addr}{n1 c1 n2 c2:Nat}{l1 l2:List UInt8}(e1:n1=l1.length) (e2:n2=l2.length) (h1:Src w A1 (l1.map zm)) (h2:Src w A2 (l2.map zm)) :
  SrcR (w.alloc (.cells #[.slice A1 n1 c1,.slice A2 n2 c2] t)) (some ⟨w.heap.size,0,none⟩) [l1,l2]:=fun _=>by
 have hB:=Blk.new w t #[.slice A1 n1 c1,.slice A2 n2 c2]
 refine⟨w.heap.size,0,rfl,fun j hj=>?_⟩
 subst e1 e2
 match j,hj with
 | 0,_=>exact⟨A1,c1,hB.cell 0 rfl,h1.alloc _⟩
 | 1,_=>exact⟨A2,c2,hB.cell 1 rfl,h2.alloc _⟩
theorem NK {A:Option Addr}{c:Nat}{key:List UInt8}{n:Nat}(hn:n=key.length) (iX:key.length≤1099511627) {B:Option Addr}{d:Nat}{b:List UInt8}{k:Nat}(hk:k=b.length) (Ih:b.length≤1099511000) (w:World) (hS:Src w A (key.map zm)) (hT:Src w B (b.map zm)) :
  Calls Tryz.prog 22 #[.slice A n c,.slice B k d] w fun e w'=>∃ r,e=.returned r∧Fresh w (nI key b) r w':=by
 have HN:=Hh (And.intro hn (And.intro hk Ih));have HS:=Hh hS;have HT:=Hh hT;have M1:=Hh (fun(m:Int) w (hS:Src w A (key.map zm))=>Uz (c:=c) hn iX m w hS);clear hn iX hk Ih hS hT;go_enter Tryz.func22,Tryz.ntmps22
 go_wp2_with fail
 refine(M1.out 92 _ HS.out).mono ?_
 rintro e w1 ⟨r1,rfl,ki⟩
 obtain⟨A1,c1,rfl,_⟩:=ki.own.form;rw[sf];have zB:=ki.2;have vV:=ki.own.src;clear ki;go_wp2_with fail
 refine(M1.out 54 _ (HS.out.below zB)).mono ?_
 rintro e w2 ⟨r2,rfl,fk⟩
 obtain⟨A2,c2,rfl,_⟩:=fk.own.form;rw[sf];have zG:=zB.trans (fk.2.mono zB.size);have Cv:=vV.below fk.2;have mi:=SrcR.lit2 (c1:=c2) (c2:=d) w2 23 (sf 54 key).symm HN.out.2.1 fk.own.src (HT.out.below zG);have xj:=zG.alloc zG.size (.cells #[.slice A2 64 c2,.slice B k d] 23);have Ho:=Cv.alloc (.cells #[.slice A2 64 c2,.slice B k d] 23);obtain⟨P,hP⟩:∃ P,w2.heap.size=P:=⟨_,rfl⟩
 rw[hP]at mi;have HP:=Hh hP;obtain⟨w3,EX⟩:∃ w3,w2.alloc (.cells #[.slice A2 64 c2,.slice B k d] 23)=w3:=⟨_,rfl⟩
 rw[EX]at mi xj Ho;have HW3:=Hh EX;have JN:=Hh (YI (n:=2) (c:=2) rfl (by simp) (by simp[sf];have:=HN.out.2.2;omega) w3 mi);clear hP EX mi vV Cv zB zG fk M1;go_wp2_with fail
 rw[HW3.out,HP.out]
 refine JN.out.mono ?_
 rintro e w4 ⟨r4,rfl,Me⟩
 rw[show [pS 54 key,b].flatten=pS 54 key++b by simp]at Me;have HI0:Hid ((pS 54 key++b).length≤1099511627):=by rw[Hid,List.length_append,sf];have:=HN.out.2.2;omega
 obtain⟨I,hI⟩:∃ I,pS 54 key++b=I:=⟨_,rfl⟩
 have HI:=Hh hI;rw[hI]at Me HI0;obtain⟨A4,c4,rfl,_⟩:=Me.own.form;obtain⟨m4,hm4⟩:∃ m,I.length=m:=⟨_,rfl⟩
 rw[hm4];have SM:=Hh (kN (c:=c4) hm4.symm HI0.out w4 Me.own.src);have uR:=xj.trans (Me.2.mono xj.size);have hs4:=Ho.below Me.2;clear hI hm4 Me xj Ho JN;go_wp2_with fail
 refine SM.out.mono ?_
 rintro e w5 ⟨r5,rfl,wR⟩
 obtain⟨A5,c5,rfl,_⟩:=wR.own.form;rw[oT];have xS:=uR.trans (wR.2.mono uR.size);have hs5:=hs4.below wR.2;have rH:=SrcR.lit2 (c1:=c1) (c2:=c5) w5 23 (sf 92 key).symm (oT I).symm hs5 wR.own.src;have wX:=xS.alloc xS.size (.cells #[.slice A1 64 c1,.slice A5 32 c5] 23);obtain⟨P5,M6⟩:∃ P,w5.heap.size=P:=⟨_,rfl⟩
 rw[M6]at rH;have HP5:=Hh M6;obtain⟨w6,Wp⟩:∃ w6,w5.alloc (.cells #[.slice A1 64 c1,.slice A5 32 c5] 23)=w6:=⟨_,rfl⟩
 rw[Wp]at rH wX;have HW6:=Hh Wp;have JN:=Hh (YI (n:=2) (c:=2) rfl (by simp) (by simp[sf,oT]) w6 rH);clear M6 Wp rH hs4 hs5 uR xS wR SM;go_wp2_with fail
 rw[HW6.out,HP5.out]
 refine JN.out.mono ?_
 rintro e w7 ⟨r7,rfl,TC⟩
 rw[show [pS 92 key,gF I].flatten=pS 92 key++gF I by simp]at TC;obtain⟨O,hO⟩:∃ O,pS 92 key++gF I=O:=⟨_,rfl⟩
 have HO:Hid (gF O=nI key b∧O.length=96):=by
  rw[Hid,← hO]
  refine⟨by rw[nI,← HI.out],by rw[List.length_append,sf,oT]⟩
 rw[hO]at TC;obtain⟨A7,c7,rfl,_⟩:=TC.own.form;rw[HO.out.2];have SM:=Hh (kN (c:=c7) (n:=96) HO.out.2.symm (by rw[HO.out.2];omega) w7 TC.own.src);have um:=wX.trans (TC.2.mono wX.size);clear hO TC wX JN;go_wp2_with fail
 refine SM.out.mono ?_
 rintro e w8 ⟨r8,rfl,ZP⟩
 have ho:=ZP.own.more (base':=w.heap.size) um.size;have qU:=um.trans (ZP.2.mono um.size);clear ZP um SM;go_wp2_with fail
 go_ret
 exact⟨_,rfl,by rw[← HO.out.1];exact⟨ho,qU⟩⟩
def Fo (w:World) (H:Snap) (o:Option Itm) (e:Ending) (w':World):Prop:=∃ v,e=.returned (.tuple #[v,.bool o.isSome])∧Gives w H (o.getD ze) v w'
theorem Ut {H:Snap}(hTab:Tabs H) {p u:Itm}{a b:Ad}(hp:IsItem H a.ba a.bc a.ia a.ic p) (hu:IsItem H b.ba b.bc b.ia b.ic u) (j:Nat) (hj:j<100) (w:World) (hH:Holds w H) :
  Calls Tryz.prog 71 #[.agg (zA p a u b),.int .i64 (j:Int)] w (Fo w H (g8 p u (j:Int))):=by
 obtain⟨hB,hT⟩:=jfs
 simp only[zr]at hT
 have hG:=((Grows.refl hH).alloc (.cells (zA p a u b) 28)).alloc zi;have uE:=jgx;have V:=Hh (uU hTab hp hu _ hG.holds);have HP:=Hh hp;have HU:=Hh hu;have HT:=Hh hTab;clear hp hu hTab hH;obtain⟨c0,c1,c2,c3,c4,c5,c6,c7⟩:=je7;go_enter Tryz.func71,Tryz.ntmps71
 go_wp2_with fail
 refine V.out.mono ?_
 rintro e w2 ⟨rfl,zG⟩
 replace hB:=hB.below zG;replace hT:=hT.below zG;have yE:=hG.below_ zG;clear V hG zG c0 c1 c2 c3 c4 c5 c6 c7;have hv0:∀ (o:Option Itm),g8 p u (j:Int)=o→Hid (g8 p u (j:Int)=o):=fun _ h=>h
 cases hv:zL p u with
 | false =>
  have E:=Hh (show g8 p u (j:Int)=none by rw[g8,hv];rfl);clear hv hB hv0;go_wp2_with (with_reducible refine zx ?_)
  refine stI hT fun w9 od xR=>?_
  have qp:=yE.grownOwn uE (by omega) xR;go_wp2_with fail
  refine zp rfl rfl od rfl rfl zu rfl ?_
  exact⟨_,by rw[E.out];rfl,by rw[E.out];exact⟨none,0,none,0,H,rfl,qp,IsItem.plain H 0 0 (by omega) (by omega)⟩⟩
 | true =>
 have E:=Hh (show g8 p u (j:Int)=uC p u (j:Int) by rw[g8,if_pos hv]);have C:=Hh (lz HT.out HP.out HU.out (j:Int) (by omega) (by omega) _ yE.holds);clear hv hv0;obtain⟨c0,c1,c2,c3,c4,c5,c6,c7⟩:=je7;obtain⟨o,ho⟩:∃ o,uC p u (j:Int)=o:=⟨_,rfl⟩
 rw[ho]at C ;have EO:=Hh (E.out.trans ho);clear hB ho E;go_wp2_with fail
 refine C.out.mono ?_
 rintro e w3 ⟨v3,rfl,xa,xb,xc,xd,H3,rfl,ye,hI3⟩
 have yF:=yE.trans ye;have zAH:=ye.none uE hT.lt;replace hT:=hT.below ye.below;clear C ye c0 c1 c2 c3 c4 c5 c6 c7;obtain⟨q,hq⟩:∃ q,o.isSome=q:=⟨_,rfl⟩
 rw[hq];have HQ:=Hh hq;clear hq;go_wp2_with (with_reducible refine zx ?_)
 refine stI hT fun w9 od xR=>?_
 have qp:=yF.grownOwn zAH (by omega) xR;go_wp2_with fail
 refine zp rfl rfl od rfl rfl zu rfl ?_
 exact⟨_,by rw[EO.out,HQ.out];rfl,by rw[EO.out];exact⟨xa,xb,xc,xd,H3,rfl,qp,hI3⟩⟩
theorem kJ {H:Snap}(hTab:Tabs H) {p u:Itm}{a b:Ad}(hp:IsItem H a.ba a.bc a.ia a.ic p) (hu:IsItem H b.ba b.bc b.ia b.ic u) (w:World) (hH:Holds w H) :
  Calls Tryz.prog 31 #[.agg (zA p a u b)] w fun e w'=>e=.returned (.int .i64 (sR p u))∧Below w.heap.size w w':=by
 have hG:=(Grows.refl hH).alloc (.cells (zA p a u b) 28);have C:=Hh (Ut hTab hp hu 1 (by omega) _ hG.holds);have A:Hid (∀ o,g8 p u ((1:Nat):Int)=o→sR p u=match o with | some x=>Vx x | none=>0):=by rintro o rfl;rfl
 obtain⟨o,ho⟩:∃ o,g8 p u ((1:Nat):Int)=o:=⟨_,rfl⟩
 rw[ho]at C;have AO:=Hh (A.out o ho);clear hp hu hTab hH ho A;go_enter Tryz.func31,Tryz.ntmps31
 go_wp2_with fail
 refine C.out.mono ?_
 rintro e w2 ⟨v2,rfl,xa,xb,xc,xd,H2,rfl,yE,JJ⟩
 have ye:=hG.trans yE;clear C hG yE
 cases o with
 | none =>
  have E:Hid (sR p u=0):=AO.out
  simp only[Option.getD_none,Option.isSome_none]at JJ⊢
  have yF:=ye.alloc (zU ze xa xb xc xd);have sP:=yF.below;clear AO ye JJ;exact jbD
 | some x =>
 have E:Hid (sR p u=Vx x):=AO.out
 simp only[Option.getD_some,Option.isSome_some]at JJ⊢
 have yF:=ye.alloc (zU x xa xb xc xd);have sP:=yF.below;have hU:=Blk.new w2 26 #[.int .i64 x.kind,.int .u64 x.n,.slice xa x.bytes.length xb,.slice xc x.items.length xd];obtain⟨q,hq⟩:∃ q,IntKind.i64.wrap ((x.n:Nat):Int)=q:=⟨_,rfl⟩
 obtain⟨r,hr⟩:∃ r,IntKind.i64.wrap (-1-q)=r:=⟨_,rfl⟩
 have EV:Hid (Vx x=if x.kind=1 then r else q):=by rw[Hid,Vx,hq,hr]
 have u0:=hU.cell 0 rfl;have u1:=hU.cell 1 rfl;clear AO ye JJ hU
 by_cases h1:x.kind=1
 ·have k1:(x.kind==1)=true:=by simpa using h1
  rw[if_pos h1]at EV;have h1t:=eq_true h1;clear h1;exact jdQ
 have k1:(x.kind==1)=false:=by simpa using h1
 rw[if_neg h1]at EV;have h1t:=eq_false h1;clear h1 hr;exact jdQ
end Go.Proofs.YtliomcphdnppnaaGreatDoor
