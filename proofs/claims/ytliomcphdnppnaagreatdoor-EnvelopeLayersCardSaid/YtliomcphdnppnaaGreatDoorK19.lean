/- squeezed. Walks: the references' Put. Walks: -/
import Derived.Test.YtliomcphdnppnaaGreatDoorK18
set_option linter.unusedVariables false
set_option linter.unusedSimpArgs false
set_option maxRecDepth 100000
set_option maxHeartbeats 12800000
namespace Go.Proofs.YtliomcphdnppnaaGreatDoor
open Go.RowKit
def ZA (p u p' u':Itm) (r:Itm×Itm):Prop:=∀ q,(q∈zg p.items∨q∈zg u.items∨q=r)→q∈zg p'.items∨q∈zg u'.items
theorem dn {p:Itm}(h:zU p=true) (h5:p.kind=5):p.items.length%2=0:=by
 have hg:=((yw p).1 h).1;have hf:=y5 (jv hg (by omega))
 exact hf.2.2.2.2.2.2 h5
def Rj (w:World) (H:Snap) (p u:Itm) (n:Int) (v:Itm) (e:Ending) (w':World):Prop :=
 ∃ p' u' val c,e=.returned (.tuple #[val,.int .i64 c])∧bJ w H p' u' val w'∧(c=0→zI p' u'=true∧szL p'≤szL p+9+(zi v).length∧szL u'≤szL u+9+(zi v).length∧ZA p u p' u' (zZ n,v))∧Modest p'∧Modest u'∧
  (p=yy→u=yy→n=1→eO v→c=0)
theorem IsRowI.two {H:Snap}{A:Option Addr}{c:Nat}{l:List Itm}(yx:l.length≤c) (hm:c≤9223372036854775807) (he:0<l.length→∃ b off,A=some ⟨b,off,none⟩∧IsElems H b off l):IsRowI H A c l:=⟨yx,hm,he⟩
def LW (ps:List Itm) (c:Int) (x:Itm):Prop :=
 (c=0∧∃ l,x=.mk 5 0 [] l∧zU x=true∧(zG l).length=(zG ps).length∧(ps.length=2→l=ps)∧(∀ q,q∈zg l↔q∈zg ps))∨
 (c≠0∧x=zn∧¬ (ps.length=2∧(∀ x∈ps,zU x=true)∧zU (.mk 5 0 [] ps)=true))
theorem BuildSaid3.one {w w':World}{H:Snap}{ps:List Itm}{e:Ending}(h:BuildSaid3 w H ps e w'):∃ v c x,e=.returned (.tuple #[v,.int .i64 c])∧Gives w H x v w'∧LW ps c x:=by
 obtain⟨v,⟨l,h1,h2,h3,h4,h5,h6⟩ | ⟨c,h1,h2,h3,h4⟩⟩:=h
 ·exact⟨v,0,_,h1,h2,.inl ⟨rfl,l,rfl,h3,h4,fun hl=>h5 (kq hl),h6⟩⟩
 exact⟨v,c,_,h1,h3,.inr ⟨h2,rfl,fun⟨a,b,d⟩=>h4 ⟨by omega,kq a,b,d⟩⟩⟩
theorem IsRowI.src {H:Snap}{A:Option Addr}{c:Nat}{l:List Itm}(h:IsRowI H A c l):∃ cs,ItemsC H cs l∧Row H A cs:=by
 by_cases h0:0<l.length
 ·obtain⟨b,off,rfl,he⟩:=h.elems h0;obtain⟨cs,hc,hx⟩:=he.cells
  exact⟨cs,hc,fun _=>⟨b,off,rfl,hx⟩⟩
 have hl:l=[]:=List.length_eq_zero_iff.1 (by omega);subst hl
 exact⟨[],ItemsC.nil H,Row.nil _ _⟩
theorem SN {w wr:World}{H Hr:Snap}(hG:Grows w H wr Hr) {r:Option Nat}(h:At0 wr (Value.slice none 0 0).ownBlock r):∀ q,r=some q→Hr q=none:=fun q hq=>by
 rcases h with h | ⟨g,h1,h2⟩
 ·rw[h]at hq;simp[Value.ownBlock]at hq
 rw[hq]at h1;injection h1 with h1;subst h1;exact hG.hidden h2
theorem Ue {w wr:World}{H Hr:Snap}(hG:Grows w H wr Hr) {r0 r:Option Nat}(h0:∀ q,r0=some q→Hr q=none) (h:At0 wr r0 r):∀ q,r=some q→Hr q=none:=fun q hq=>by
 rcases h with h | ⟨g,h1,h2⟩
 ·exact h0 q (by rw[← h,hq])
 rw[hq]at h1;injection h1 with h1;subst h1;exact hG.hidden h2
theorem se {H H':Snap}{A:Option Addr}(hf:∀ b o,H' b=some o→H b=some o∨A.map (·.block)=some b) {q:Nat}(h0:H q=none) (hA:A.map (·.block)=some q→False):H' q=none:=by
 cases h:H' q with
 | none=>rfl
 | some o =>
 rcases hf q o h with h1 | h1
 ·rw[h0]at h1;cases h1
 exact(hA h1).elim
theorem So (m:Itm) (n:Int) (v:Itm) {l:List Itm}(h:(zG l).length=(zG (m.items++[zZ n,v])).length):szL (.mk 5 0 [] l)≤szL m+9+(zi v).length:=by
 have:=tN n;rw[szL,szL]
 simp only[Itm.items,h,uN,zG,List.length_append,List.append_nil]
 omega
theorem vf {H:Snap}(hTab:Tabs H) {p u v:Itm}{a b d:Ad}(hp:IsItem H a.ba a.bc a.ia a.ic p) (hu:IsItem H b.ba b.bc b.ia b.ic u) (hv:IsItem H d.ba d.bc d.ia d.ic v) (prot:Bool) (n:Int) (uw : -9223372036854775808≤n) (uH:n≤9223372036854775807) (w:World) (hH:Holds w H) :
  Calls Tryz.prog 41 #[.agg (zF p a u b),.bool prot,.int .i64 n,xR v d.ba d.bc d.ia d.ic] w (Rj w H p u n v):=by
 have hB:=((Blk.new w 28 (zF p a u b)).alloc (zh v d.ba d.bc d.ia d.ic)).alloc xG;have hV:=(Blk.new (w.alloc (.cells (zF p a u b) 28)) 26 #[.int .i64 v.kind,.int .u64 v.n,.slice d.ba v.bytes.length d.bc,.slice d.ia v.items.length d.ic]).alloc xG;have hT:=Blk.new ((w.alloc (.cells (zF p a u b) 28)).alloc (zh v d.ba d.bc d.ia d.ic)) 28 (zF zn ⟨none,0,none,0⟩ zn ⟨none,0,none,0⟩)
 simp only[zr]at hV hT
 have hG:=(((Grows.refl hH).alloc (.cells (zF p a u b) 28)).alloc (zh v d.ba d.bc d.ia d.ic)).alloc xG;have yV:H (w.heap.size+1+1)=none:=hH.none_of_ge (by omega);have VH:=Hh (qQ hTab hp hu _ hG.holds);have HN:=Hh (And.intro uw uH);clear uw uH
 cases hvh:zI p u with
 | false =>
  rw[hvh]at VH;have HV:=Hh hvh;clear hvh;go_enter Tryz.func41,Tryz.ntmps41
  go_wp2_with fail
  refine VH.out.mono ?_
  rintro e w1 ⟨rfl,zJ⟩
  have hT:=hT.below zJ;have hG:=hG.below_ zJ;clear VH hB hV zJ;go_wp2_with (with_reducible refine zx ?_)
  refine zv rfl _ _ _ rfl rfl _ _ rfl rfl _ _ hT zN rfl (by kernel_rfl) fun wz vo xI=>?_
  have tr:=hG.grownOwn yV (by omega) xI;go_wp2_with fail
  refine zY rfl rfl vo rfl rfl zN rfl ?_
  exact⟨zn,zn,_,1,rfl,⟨⟨none,0,none,0⟩,⟨none,0,none,0⟩,H,rfl,tr,IsItem.plain _ 0 0 (by omega) (by omega),IsItem.plain _ 0 0 (by omega) (by omega)⟩,(fun h=>by cases h),yB,yB,fun h1 h2 h3 h4=>by subst h1;subst h2;have:=HV.out;rw[pL]at this;cases this⟩
 | true =>
 rw[hvh]at VH;have HV:=Hh hvh;clear hvh;go_enter Tryz.func41,Tryz.ntmps41
 go_wp2_with fail
 refine VH.out.mono ?_
 rintro e w1 ⟨rfl,zJ⟩
 have hB:=hB.below zJ;have hV:=hV.below zJ;have hT:=hT.below zJ;have hG:=hG.below_ zJ;have VV:=Hh (sX hTab hv.arg w1 hG.holds);have v0:=hV.cell 0 rfl;have v1:=hV.cell 1 rfl;have v2:=hV.cell 2 rfl;have v3:=hV.cell 3 rfl
 cases hvv:zU v with
 | false =>
  rw[hvv]at VV;have We:=Hh hvv;clear hvv;go_wp2_with fail
  refine VV.out.mono ?_
  rintro e w2 ⟨rfl,zK⟩
  have hT:=hT.below zK;have hG:=hG.below_ zK;clear VH VV hB hV zK zJ v0 v1 v2 v3;go_wp2_with (with_reducible refine zx ?_)
  refine zv rfl _ _ _ rfl rfl _ _ rfl rfl _ _ hT zN rfl (by kernel_rfl) fun wz vo xI=>?_
  have tr:=hG.grownOwn yV (by omega) xI;go_wp2_with fail
  refine zY rfl rfl vo rfl rfl zN rfl ?_
  exact⟨zn,zn,_,1,rfl,⟨⟨none,0,none,0⟩,⟨none,0,none,0⟩,H,rfl,tr,IsItem.plain _ 0 0 (by omega) (by omega),IsItem.plain _ 0 0 (by omega) (by omega)⟩,(fun h=>by cases h),yB,yB,fun h1 h2 h3 h4=>by obtain⟨k,_,rfl⟩:=h4;have:=We.out;rw[← wZ,wV]at this;cases this⟩
 | true =>
 rw[hvv]at VV;have We:=Hh hvv;clear hvv;go_wp2_with fail
 refine VV.out.mono ?_
 rintro e w2 ⟨rfl,zK⟩
 have hB:=hB.below zK;have hV:=hV.below zK;have hT:=hT.below zK;have hG:=hG.below_ zK;have vv:=xr HV.out;have iq:=yQ vv.1;have cU:=yQ vv.2.1;have RC:=Hh vv;have FD:=Hh (eI iq cU hp hu n HN.out.1 HN.out.2 w2 hG.holds);have R6:=Hh (And.intro iq cU);have b0:=hB.cell 0 rfl;have b1:=hB.cell 1 rfl;have b2:=hB.cell 2 rfl;have b3:=hB.cell 3 rfl;have b4:=hB.cell 4 rfl;have b5:=hB.cell 5 rfl;have b6:=hB.cell 6 rfl;have b7:=hB.cell 7 rfl;clear v0 v1 v2 v3 zJ zK vv iq cU VH VV;go_wp2_with fail
 refine FD.out.mono ?_
 rintro e w3 ⟨v3,rfl,ka,kb,kc,kd,H3,rfl,yN,qK⟩
 have hB:=hB.below yN.below;have hV:=hV.below yN.below;have yV:=yN.none yV hT.lt;have hT:=hT.below yN.below;have hG:=hG.trans yN;have Bw:=yN.le;clear b0 b1 b2 b3 b4 b5 b6 b7 FD yN;obtain⟨FX,J3⟩:∃ FX,(wt p u n).getD zn=FX:=⟨_,rfl⟩
 rw[J3]at qK⊢;have FU:=hV.alloc (zh FX ka kb kc kd);have hB:=hB.alloc (zh FX ka kb kc kd);have hT:=hT.alloc (zh FX ka kb kc kd);have hG:=hG.alloc (zh FX ka kb kc kd);have hV:=FU;have Ax:=Hh J3;clear J3 FU qK
 cases hfd:(wt p u n).isSome with
 | true =>
  have HF:=Hh hfd;clear hfd;go_upto_region 5 with fail
  go_wp2_with (with_reducible refine zx ?_)
  refine zv rfl _ _ _ rfl rfl _ _ rfl rfl _ _ hT zN rfl (by kernel_rfl) fun wz vo xI=>?_
  have tr:=hG.grownOwn yV (by omega) xI;go_wp2_with fail
  refine zY rfl rfl vo rfl rfl zN rfl ?_
  exact⟨zn,zn,_,7,rfl,⟨⟨none,0,none,0⟩,⟨none,0,none,0⟩,_,rfl,tr,IsItem.plain _ 0 0 (by omega) (by omega),IsItem.plain _ 0 0 (by omega) (by omega)⟩,(fun h=>by cases h),yB,yB,fun h1 h2 h3 h4=>by subst h1;subst h2;have:=HF.out;rw[aE]at this;cases this⟩
 | false =>
 have HF:=Hh hfd;clear hfd;have b0:=hB.cell 0 rfl;have b1:=hB.cell 1 rfl;have b2:=hB.cell 2 rfl;have b3:=hB.cell 3 rfl;have b4:=hB.cell 4 rfl;have b5:=hB.cell 5 rfl;have b6:=hB.cell 6 rfl;have b7:=hB.cell 7 rfl;have C:=Hh (ap R6.out.1 R6.out.2 (hp.mono hG.le) (hu.mono hG.le) _ hG.holds);go_wp2_with fail
 refine C.out.mono ?_
 rintro e w4 ⟨v4,rfl,a2,b2',H4,rfl,xl,gD,Jr⟩
 have hV:=hV.below xl.below;have yV:=xl.none yV hT.lt;have hT:=hT.below xl.below;have hG:=hG.trans xl;have Qo:=hv.mono hG.le;clear b0 b1 b2 b3 b4 b5 b6 b7 C xl hB;have hC:=(Blk.new w4 28 (zF p a2 u b2')).alloc (zh u b2'.ba b2'.bc b2'.ia b2'.ic);have hM:=Blk.new (w4.alloc (.cells (zF p a2 u b2') 28)) 26 #[.int .i64 u.kind,.int .u64 u.n,.slice b2'.ba u.bytes.length b2'.bc,.slice b2'.ia u.items.length b2'.ic]
 simp only[zr]at hM
 have iA:=hT.lt;have wT:H4 w4.heap.size=none:=hG.holds.none_of_ge (Nat.le_refl _);have U4:H4 (w4.heap.size+1)=none:=hG.holds.none_of_ge (by omega);have hV:=(hV.alloc (.cells (zF p a2 u b2') 28)).alloc (zh u b2'.ba b2'.bc b2'.ia b2'.ic);have hT:=(hT.alloc (.cells (zF p a2 u b2') 28)).alloc (zh u b2'.ba b2'.bc b2'.ia b2'.ic);have hG:=(hG.alloc (.cells (zF p a2 u b2') 28)).alloc (zh u b2'.ba b2'.bc b2'.ia b2'.ic);go_upto_if 36 with fail
 go_cut [36] (fun s36 wx=>∃ (mI:Itm) (am:Ad),(prot=true→mI=p)∧(prot=false→mI=u)∧IsItem H4 am.ba am.bc am.ia am.ic mI∧Blk wx (w4.heap.size+1) 26 #[.int .i64 mI.kind,.int .u64 mI.n,.slice am.ba mI.bytes.length am.bc,.slice am.ia mI.items.length am.ic]∧Blk wx w4.heap.size 28 (zF p a2 u b2')∧
  Blk wx (w.heap.size+1) 26 #[.int .i64 v.kind,.int .u64 v.n,.slice d.ba v.bytes.length d.bc,.slice d.ia v.items.length d.ic]∧Blk wx (w.heap.size+1+1) 28 (zF zn ⟨none,0,none,0⟩ zn ⟨none,0,none,0⟩)∧Grows w H wx H4)
 case first =>
  cases prot with
  | true =>
   go_upto_region 9 with fail
   have c0:=hC.cell 0 rfl;have c1:=hC.cell 1 rfl;have c2:=hC.cell 2 rfl;have c3:=hC.cell 3 rfl;go_wp2_with (with_reducible refine zx ?_)
   refine stI hM fun w7 hM7 wh=>?_
   have Iy:=hC.gr wh (by omega);have JJ:=hV.gr wh (by omega);have Wj:=hT.gr wh (by omega);have vV:=hG.grownOwn U4 (by omega) wh;go_wp2_with fail
   go_meet
   exact⟨p,a2,(fun _=>rfl),(fun h=>by cases h),gD,hM7,Iy,JJ,Wj,vV⟩
  | false =>
  go_wp2_with fail
  go_meet
  exact⟨u,b2',(fun h=>by cases h),(fun _=>rfl),Jr,hM,hC,hV,hT,hG⟩
 case rest =>
 clear hC hM hV hT hG;obtain⟨mI,am,qM,ip,cT,hM,hC,hV,hT,hG⟩:=hcut;have HM:=Hh (And.intro qM ip)
 have By:mI.items.length≤256:=by
  have h1:=(vq RC.out.1).2.1;have h2:=(vq RC.out.2.1).2.1
  cases prot
  ·rw[ip rfl];exact h2
  rw[qM rfl];exact h1
 clear qM ip;have hr:=cT.row;obtain⟨PS,JF⟩:∃ PS,mI.items++[zZ n,v]=PS:=⟨_,rfl⟩
 have Lr:PS.length=mI.items.length+2:=by rw[← JF];simp
 have WM:=Hh (And.intro JF Lr);clear JF Lr;have hM:=hM.drew;have hC:=hC.drew;have hV:=hV.drew;have hT:=hT.drew;have hG:=hG.drew;go_upto_region 10 with fail
 go_cut [14] (fun s14 wx=>∃ (c:Int) (x:Itm) (ax:Ad) (H8:Snap),s14=.int .i64 c∧LW PS c x∧IsItem H8 ax.ba ax.bc ax.ia ax.ic x∧H4.le H8∧H8 (w.heap.size+1+1)=none∧H8 w4.heap.size=none∧H8 (w4.heap.size+1)=none∧
  Blk wx (w4.heap.size+1) 26 #[.int .i64 x.kind,.int .u64 x.n,.slice ax.ba x.bytes.length ax.bc,.slice ax.ia x.items.length ax.ic]∧Blk wx w4.heap.size 28 (zF p a2 u b2')∧
  Blk wx (w.heap.size+1+1) 28 (zF zn ⟨none,0,none,0⟩ zn ⟨none,0,none,0⟩)∧Grows w H wx H8)
 case first =>
  have yx:=Snap.le.refl H4
  refine zw 13 (fun w'=>w'.cell? ⟨w.heap.size+1,0,none⟩=some (.int .i64 v.kind)∧w'.cell? ⟨w.heap.size+1,1,none⟩=some (.int .u64 v.n)∧w'.cell? ⟨w.heap.size+1,2,none⟩=some (.slice d.ba v.bytes.length d.bc)∧w'.cell? ⟨w.heap.size+1,3,none⟩=some (.slice d.ia v.items.length d.ic)) (by kernel_rfl) (⟨hV.cell 0 rfl,hV.cell 1 rfl,hV.cell 2 rfl,hV.cell 3 rfl⟩) (fun zy=>?_)
  refine Tk 0 rfl zy ?_
  refine Tk 3 rfl zy ?_
  refine Tk 5 rfl zy ?_
  refine To 1 rfl fun K hK=>?_
  have m3:=hM.cell 3 rfl;go_simp
  refine Ko hK ?_ fun zy=>?_
  ·exact⟨hV.cell 0 rfl,hV.cell 1 rfl,hV.cell 2 rfl,hV.cell 3 rfl⟩
  clear hK K
  refine To 2 rfl fun K hK=>?_
  rw[if_pos (by rfl)];obtain⟨cs,rN,EF⟩:=hr.src
  refine wu (.const (.slice none 0 0)) (.tmp 41) rfl (w4.heap.size+2) (.slice none 0 0) _ [] rfl (OwnI.nil _ _ _) _ _ _ cs mI.items rfl rfl rN (Src.of_row EF hG.holds) (by simp;omega) (by have:=hM.lt;omega) fun v5 w5 hX hg hat=>?_
  rw[List.nil_append]at hX;have pw:=yS (by simpa [Value.ownBlock] using hg);have Ku:=SN hG hat;have hM:=hM.below pw;have hC:=hC.below pw;have hV:=hV.below pw;have hT:=hT.below pw;have hG:=hG.below_ pw
  try have QU:=QU.below pw
  refine Ko hK ?_ fun zy=>?_
  ·exact⟨hV.cell 0 rfl,hV.cell 1 rfl,hV.cell 2 rfl,hV.cell 3 rfl⟩
  clear hK K
  refine To 4 rfl fun K hK=>?_
  go_simp
  refine(ug n HN.out.1 HN.out.2 _ hG.holds).mono ?_
  rintro e w6 ⟨v6,rfl,ja,jb,jc,jd,H6,rfl,wl,mw⟩
  have hr:=hr.mono wl.le
  try have Ku:=fun q hq=>wl.none (Ku q hq) (hX.lt q hq).2
  try have hX:=(hX.below wl.below).mono wl.le
  have Qo:=Qo.mono wl.le;have yV:=wl.none yV hT.lt;have wT:=wl.none wT hC.lt;have U4:=wl.none U4 hM.lt;have hM:=hM.below wl.below;have hC:=hC.below wl.below;have hV:=hV.below wl.below;have hT:=hT.below wl.below;have yx:=yx.trans wl.le;have hG:=hG.trans wl
  refine Ko hK ?_ fun zy=>?_
  ·exact⟨hV.cell 0 rfl,hV.cell 1 rfl,hV.cell 2 rfl,hV.cell 3 rfl⟩
  clear hK K
  refine To 6 rfl fun K hK=>?_
  go_simp
  have QU:=mH hG.below 26 #[.int .i64 (zZ n).kind,.int .u64 (zZ n).n,.slice ja (zZ n).bytes.length jb,.slice jc (zZ n).items.length jd,.int .i64 v.kind,.int .u64 v.n,.slice d.ba v.bytes.length d.bc,.slice d.ia v.items.length d.ic]
  try have hX:=hX.alloc (.cells #[.int .i64 (zZ n).kind,.int .u64 (zZ n).n,.slice ja (zZ n).bytes.length jb,.slice jc (zZ n).items.length jd,.int .i64 v.kind,.int .u64 v.n,.slice d.ba v.bytes.length d.bc,.slice d.ia v.items.length d.ic] 26)
  have hM:=hM.alloc (.cells #[.int .i64 (zZ n).kind,.int .u64 (zZ n).n,.slice ja (zZ n).bytes.length jb,.slice jc (zZ n).items.length jd,.int .i64 v.kind,.int .u64 v.n,.slice d.ba v.bytes.length d.bc,.slice d.ia v.items.length d.ic] 26);have hC:=hC.alloc (.cells #[.int .i64 (zZ n).kind,.int .u64 (zZ n).n,.slice ja (zZ n).bytes.length jb,.slice jc (zZ n).items.length jd,.int .i64 v.kind,.int .u64 v.n,.slice d.ba v.bytes.length d.bc,.slice d.ia v.items.length d.ic] 26);have hV:=hV.alloc (.cells #[.int .i64 (zZ n).kind,.int .u64 (zZ n).n,.slice ja (zZ n).bytes.length jb,.slice jc (zZ n).items.length jd,.int .i64 v.kind,.int .u64 v.n,.slice d.ba v.bytes.length d.bc,.slice d.ia v.items.length d.ic] 26);have hT:=hT.alloc (.cells #[.int .i64 (zZ n).kind,.int .u64 (zZ n).n,.slice ja (zZ n).bytes.length jb,.slice jc (zZ n).items.length jd,.int .i64 v.kind,.int .u64 v.n,.slice d.ba v.bytes.length d.bc,.slice d.ia v.items.length d.ic] 26)
  have hG:=hG.alloc (.cells #[.int .i64 (zZ n).kind,.int .u64 (zZ n).n,.slice ja (zZ n).bytes.length jb,.slice jc (zZ n).items.length jd,.int .i64 v.kind,.int .u64 v.n,.slice d.ba v.bytes.length d.bc,.slice d.ia v.items.length d.ic] 26)
  refine Ko hK ?_ fun zy=>?_
  ·exact⟨hV.cell 0 rfl,hV.cell 1 rfl,hV.cell 2 rfl,hV.cell 3 rfl⟩
  clear hK K
  refine To 7 rfl fun K hK=>?_
  rw[if_pos (by rfl)]
  refine wu (.tmp 42) (.tmp 46) rfl (w4.heap.size+2) _ _ mI.items rfl hX _ _ _ (zQ (zZ n) ja jb jc jd++zQ v d.ba d.bc d.ia d.ic) [zZ n,v] rfl rfl ((ItemsC.one mw).app (ItemsC.one Qo)) QU (by simp;omega) (by have:=hM.lt;omega) fun v7 w7 bz wh hat7=>?_
  rw[WM.out.1]at bz;obtain⟨XA,xc,rfl,_⟩:=bz.form;have mz:=Ue hG Ku hat7;have hM:=hM.grown wh (fun e=>by have:=(hX.lt _ e).1;omega);have hC:=hC.grown wh (fun e=>by have:=(hX.lt _ e).1;omega);have hV:=hV.grown wh (fun e=>by have:=(hX.lt _ e).1;omega);have hT:=hT.grown wh (fun e=>by have:=(hX.lt _ e).1;omega);have hG:=hG.grownRow Ku (fun q hq=>by have:=(hX.lt q hq).1;omega) wh;obtain⟨H7,RU,Dk,Yw,Bh,rU,rH,Hy⟩:=bz.snap hG.holds (fun q hq=>mz q (qg hq));have nk:∀ q,XA.map (·.block)=some q→w4.heap.size+2≤q:=fun q hq=>(bz.lt q (qg hq)).1
  have kQ:=fun q (hq:q<w4.heap.size+2) h0=>se Yw (q:=q) h0 (fun e=>by have:=nk q e;omega)
  have hG:Grows w H w7 H7:=⟨hG.below,hG.le.trans RU,Dk,fun b o hb=>(Yw b o hb).elim (hG.fresh b o) (fun e=>.inr (by have:=nk b e;omega))⟩
  have yV:=kQ _ (by omega) yV;have wT:=kQ _ (by omega) wT;have U4:=kQ _ (by omega) U4;have yx:=yx.trans RU
  refine Ko hK ?_ fun zy=>?_
  ·exact⟨hV.cell 0 rfl,hV.cell 1 rfl,hV.cell 2 rfl,hV.cell 3 rfl⟩
  clear hK K
  refine To 8 rfl fun K hK=>?_
  go_simp
  refine(jY (hTab.mono hG.le) (IsRowI.two rU rH Hy) (by have:=WM.out.2;omega) w7 hG.holds).mono ?_
  intro e w9 km
  obtain⟨v9,c,x,rfl,⟨xa,xb,xc',xd,H9,rfl,tI,Dm⟩,NF⟩:=km.one;have yV:=tI.none yV hT.lt;have wT:=tI.none wT hC.lt;have U4:=tI.none U4 hM.lt;have hM:=hM.below tI.below;have hC:=hC.below tI.below;have hV:=hV.below tI.below;have hT:=hT.below tI.below;have yx:=yx.trans tI.le;have hG:=hG.trans tI
  refine Ko hK ?_ fun zy=>?_
  ·exact⟨hV.cell 0 rfl,hV.cell 1 rfl,hV.cell 2 rfl,hV.cell 3 rfl⟩
  clear hK K
  refine Tk 9 rfl zy ?_
  refine Tk 10 rfl zy ?_
  refine Tk 11 rfl zy ?_
  refine To 12 rfl fun K hK=>?_
  rw[if_pos (by rfl)]
  refine zm _ _ _ rfl _ _ rfl rfl _ _ hM zp rfl (ua _ _ _ _ rfl rfl rfl rfl) fun w12 hM hg12=>?_
  have hC:=hC.gr hg12 (by omega);have hV:=hV.gr hg12 (by omega);have hT:=hT.gr hg12 (by omega);have hG:=hG.grownOwn U4 (by omega) hg12
  refine Ko hK ?_ fun zy=>?_
  ·exact⟨hV.cell 0 rfl,hV.cell 1 rfl,hV.cell 2 rfl,hV.cell 3 rfl⟩
  clear hK K
  refine To 13 rfl fun K hK=>?_
  go_simp
  refine Kz hK ?_
  clear hK K
  refine Wd ?_
  go_wp2_with fail
  go_meet
  exact⟨c,x,⟨xa,xb,xc',xd⟩,_,rfl,NF,Dm,yx,yV,wT,U4,hM,hC,hT,hG⟩
 case rest =>
 clear hM hC hV hT hG hr Qo;obtain⟨c,x,ax,H8,rfl,NF,Nl,kY,yV,wT,U4,hM,hC,hT,hG⟩:=hcut
 have CR:=Hh (show p=yy→u=yy→mI=yy from fun h1 h2=>by
  cases prot
  ·rw[HM.out.2 rfl,h2]
  rw[HM.out.1 rfl,h1])
 have Es:=Hh (show p=yy→u=yy→n=1→PS=[.mk 0 1 [] [],v] from fun h1 h2 h3=>by
  rw[← WM.out.1,CR.out h1 h2,h3,P0];rfl)
 have QC:Hid (mI.items.length%2=0):=by
  cases prot
  ·rw[HM.out.2 rfl];exact dn RC.out.2.1 RC.out.2.2.2
  rw[HM.out.1 rfl];exact dn RC.out.1 RC.out.2.2.1
 rcases NF with ⟨rfl,l,Z8,hvx,iu,h2,hpq⟩ | ⟨hc,hxz,cD⟩
 ·have HX:=Hh (And.intro (show szL x≤szL mI+9+(zi v).length by rw[Z8];exact So mI n v (by rw[WM.out.1];exact iu)) (show p=yy→u=yy→n=1→x=.mk 5 0 [] [.mk 0 1 [] [],v] from fun h1 h2' h3=>by
   have he:=Es.out h1 h2' h3;rw[Z8,h2 (by rw[he];rfl),he]))
  have Ns:Hid (∀ q,(q∈zg mI.items∨q=(zZ n,v))→q∈zg x.items):=fun q hq=>by
   rw[Z8];show q∈zg l
   rw[hpq q,← WM.out.1,te _ QC.out]
   simpa [zg] using hq
  clear Z8 hvx iu h2 hpq
  cases prot with
  | true =>
   have Iw:=Hh (show szL x≤szL p+9+(zi v).length by have h1:=HX.out.1;rw[HM.out.1 rfl]at h1;exact h1);have m0:=hM.cell 0 rfl;have m1:=hM.cell 1 rfl;have m2:=hM.cell 2 rfl;have m3:=hM.cell 3 rfl;go_wp2_with (with_reducible refine zx ?_)
   refine wK rfl _ _ _ rfl rfl w4.heap.size 0 _ rfl rfl _ _ hC zp (by simp) (ua _ _ _ _ rfl rfl rfl rfl) fun w13 ti hg13=>?_
   have ti:Blk w13 w4.heap.size 28 (zF x ax u b2'):=ti;have fm:=hT.gr hg13 (by omega);have tF:=hG.grownOwn wT (by omega) hg13;have V2:=Hh (qQ (hTab.mono tF.le) Nl (Jr.mono kY) w13 tF.holds);have k0:=ti.cell 0 rfl;have k1:=ti.cell 1 rfl;have k2:=ti.cell 2 rfl;have k3:=ti.cell 3 rfl;have k4:=ti.cell 4 rfl;have k5:=ti.cell 5 rfl;have k6:=ti.cell 6 rfl;have k7:=ti.cell 7 rfl;clear hC hT hG hM m0 m1 m2 m3 hg13
   cases rV:zI x u with
   | false =>
    rw[rV]at V2;have Wc:=Hh rV;clear rV;go_wp2_with fail
    refine V2.out.mono ?_
    rintro e w14 ⟨rfl,wQ⟩
    have bW:=fm.below wQ;have lE:=tF.below_ wQ;clear ti fm tF wQ V2 k0 k1 k2 k3 k4 k5 k6 k7;go_wp2_with (with_reducible refine zx ?_)
    refine zv rfl _ _ _ rfl rfl _ _ rfl rfl _ _ bW zN rfl (by kernel_rfl) fun wz vo xI=>?_
    have tr:=lE.grownOwn yV (by omega) xI;go_wp2_with fail
    refine zY rfl rfl vo rfl rfl zN rfl ?_
    exact⟨zn,zn,_,4,rfl,⟨⟨none,0,none,0⟩,⟨none,0,none,0⟩,_,rfl,tr,IsItem.plain _ 0 0 (by omega) (by omega),IsItem.plain _ 0 0 (by omega) (by omega)⟩,(fun h=>by cases h),yB,yB,fun h1 h2 h3 h4=>by obtain⟨k,hk,rfl⟩:=h4;exact absurd Wc.out (by rw[HX.out.2 h1 h2 h3,h2,cd hk];simp)⟩
   | true =>
   rw[rV]at V2;have Wc:=Hh rV;clear rV;go_wp2_with fail
   refine V2.out.mono ?_
   rintro e w14 ⟨rfl,wQ⟩
   have bW:=fm.below wQ;have lE:=tF.below_ wQ;have pj:=ti.below wQ;clear ti fm tF wQ V2 k0 k1 k2 k3 k4 k5 k6 k7;have k0:=pj.cell 0 rfl;have k1:=pj.cell 1 rfl;have k2:=pj.cell 2 rfl;have k3:=pj.cell 3 rfl;have k4:=pj.cell 4 rfl;have k5:=pj.cell 5 rfl;have k6:=pj.cell 6 rfl;have k7:=pj.cell 7 rfl;go_wp2_with (with_reducible refine zx ?_)
   refine zv rfl _ _ _ rfl rfl _ _ rfl rfl _ _ bW zN rfl (by kernel_rfl) fun wz vo xI=>?_
   have tr:=lE.grownOwn yV (by omega) xI;go_wp2_with fail
   refine zY rfl rfl vo rfl rfl zN rfl ?_
   have vv:=xr Wc.out
   exact⟨x,u,_,0,rfl,⟨ax,b2',H8,rfl,tr,Nl,(Jr.mono kY)⟩,fun _=>⟨Wc.out,Iw.out,by omega,fun q hq=>by have hm:=HM.out.1 (by trivial);rw[hm]at Ns;rcases hq with hq | hq | hq;exact .inl (Ns.out q (.inl hq));exact .inr hq;exact .inl (Ns.out q (.inr hq))⟩,yQ vv.1,yQ vv.2.1,fun _ _ _ _=>rfl⟩
  | false =>
  have Iw:=Hh (show szL x≤szL u+9+(zi v).length by have h1:=HX.out.1;rw[HM.out.2 rfl]at h1;exact h1);have m0:=hM.cell 0 rfl;have m1:=hM.cell 1 rfl;have m2:=hM.cell 2 rfl;have m3:=hM.cell 3 rfl;go_wp2_with (with_reducible refine zx ?_)
  refine wK rfl _ _ _ rfl rfl w4.heap.size 4 _ rfl rfl _ _ hC zp (by simp) (ua _ _ _ _ rfl rfl rfl rfl) fun w13 ti hg13=>?_
  have ti:Blk w13 w4.heap.size 28 (zF p a2 x ax):=ti;have fm:=hT.gr hg13 (by omega);have tF:=hG.grownOwn wT (by omega) hg13;have V2:=Hh (qQ (hTab.mono tF.le) (gD.mono kY) Nl w13 tF.holds);have k0:=ti.cell 0 rfl;have k1:=ti.cell 1 rfl;have k2:=ti.cell 2 rfl;have k3:=ti.cell 3 rfl;have k4:=ti.cell 4 rfl;have k5:=ti.cell 5 rfl;have k6:=ti.cell 6 rfl;have k7:=ti.cell 7 rfl;clear hC hT hG hM m0 m1 m2 m3 hg13
  cases rV:zI p x with
  | false =>
   rw[rV]at V2;have Wc:=Hh rV;clear rV;go_wp2_with fail
   refine V2.out.mono ?_
   rintro e w14 ⟨rfl,wQ⟩
   have bW:=fm.below wQ;have lE:=tF.below_ wQ;clear ti fm tF wQ V2 k0 k1 k2 k3 k4 k5 k6 k7;go_wp2_with (with_reducible refine zx ?_)
   refine zv rfl _ _ _ rfl rfl _ _ rfl rfl _ _ bW zN rfl (by kernel_rfl) fun wz vo xI=>?_
   have tr:=lE.grownOwn yV (by omega) xI;go_wp2_with fail
   refine zY rfl rfl vo rfl rfl zN rfl ?_
   exact⟨zn,zn,_,4,rfl,⟨⟨none,0,none,0⟩,⟨none,0,none,0⟩,_,rfl,tr,IsItem.plain _ 0 0 (by omega) (by omega),IsItem.plain _ 0 0 (by omega) (by omega)⟩,(fun h=>by cases h),yB,yB,fun h1 h2 h3 h4=>by obtain⟨k,hk,rfl⟩:=h4;exact absurd Wc.out (by rw[HX.out.2 h1 h2 h3,h1,ce hk];simp)⟩
  | true =>
  rw[rV]at V2;have Wc:=Hh rV;clear rV;go_wp2_with fail
  refine V2.out.mono ?_
  rintro e w14 ⟨rfl,wQ⟩
  have bW:=fm.below wQ;have lE:=tF.below_ wQ;have pj:=ti.below wQ;clear ti fm tF wQ V2 k0 k1 k2 k3 k4 k5 k6 k7;have k0:=pj.cell 0 rfl;have k1:=pj.cell 1 rfl;have k2:=pj.cell 2 rfl;have k3:=pj.cell 3 rfl;have k4:=pj.cell 4 rfl;have k5:=pj.cell 5 rfl;have k6:=pj.cell 6 rfl;have k7:=pj.cell 7 rfl;go_wp2_with (with_reducible refine zx ?_)
  refine zv rfl _ _ _ rfl rfl _ _ rfl rfl _ _ bW zN rfl (by kernel_rfl) fun wz vo xI=>?_
  have tr:=lE.grownOwn yV (by omega) xI;go_wp2_with fail
  refine zY rfl rfl vo rfl rfl zN rfl ?_
  have vv:=xr Wc.out
  exact⟨p,x,_,0,rfl,⟨a2,ax,H8,rfl,tr,(gD.mono kY),Nl⟩,fun _=>⟨Wc.out,by omega,Iw.out,fun q hq=>by have hm:=HM.out.2 (by trivial);rw[hm]at Ns;rcases hq with hq | hq | hq;exact .inl hq;exact .inr (Ns.out q (.inl hq));exact .inr (Ns.out q (.inr hq))⟩,yQ vv.1,yQ vv.2.1,fun _ _ _ _=>rfl⟩
 have b1:(c != 0)=true:=by simp[hc]
 have p1:(c=0)=False:=eq_false hc;have Yo:=Hh cD;clear hc cD hxz;go_wp2_with (with_reducible refine zx ?_)
 refine zv rfl _ _ _ rfl rfl _ _ rfl rfl _ _ hT zN rfl (by kernel_rfl) fun wz vo xI=>?_
 have tr:=hG.grownOwn yV (by omega) xI;go_wp2_with fail
 refine zY rfl rfl vo rfl rfl zN rfl ?_
 exact⟨zn,zn,_,4,rfl,⟨⟨none,0,none,0⟩,⟨none,0,none,0⟩,_,rfl,tr,IsItem.plain _ 0 0 (by omega) (by omega),IsItem.plain _ 0 0 (by omega) (by omega)⟩,(fun h=>by cases h),yB,yB,fun h1 h2 h3 h4=>by obtain⟨k,hk,rfl⟩:=h4;have he:=Es.out h1 h2 h3;exact(Yo.out ⟨by rw[he];rfl,by rw[he];intro y hy;simp at hy;rcases hy with rfl | rfl;exact(by have:=wV 1;rw[wZ]at this;exact this);exact(by have:=wV k;rw[wZ]at this;exact this),by rw[he];exact pH k⟩).elim⟩
theorem jn (op:BinOp) (a b:Int):∃ n:Nat,bits op .u64 a b=(n:Int)∧n<18446744073709551616:=by
 obtain⟨n,h1,h2⟩:=um op a b;injection h1 with h1
 injection h1 with _ h1
 exact⟨n,h1,h2⟩
theorem dV (op:BinOp) (a b:Int) (w:World):Calls Tryz.prog 118 #[.int .u64 (bits op .u64 a b),.int .i64 5,.int .i64 10] w (ol w):=by
 obtain⟨n,h1,h2⟩:=jn op a b;rw[h1]
 exact ar n h2 w
theorem dW (op:BinOp) (a b:Int) (w:World):Calls Tryz.prog 118 #[.int .u64 (bits op .u64 a b),.int .i64 8,.int .i64 23] w (ol w):=by
 obtain⟨n,h1,h2⟩:=jn op a b;rw[h1]
 exact au n h2 w
theorem aS (op:BinOp) (a b:Int) (w:World):Calls Tryz.prog 119 #[.int .u64 (bits op .u64 a b)] w fun e w'=>(∃ bb:Bool,e=.returned (.bool bb))∧w=w':=by
 obtain⟨n,h1,h2⟩:=jn op a b;rw[h1]
 exact(mR n h2 w).mono fun e w' h=>⟨⟨_,h.1⟩,h.2⟩
def Oe (w:World) (H:Snap) (g:Nat) (e:Ending) (w':World):Prop:=(∃ n:Nat,e=.returned (.int .u64 (n:Int))∧n<18446744073709551616)∧Dealt w H w' H g
theorem dz {H:Snap}{g:Nat}(w:World) (hD:DeckIn w g H) :
  Calls Tryz.prog 91 #[.pointer (some ⟨g,0,none⟩)] w (Oe w H g):=by
 have NX:=Hh (yr w hD 1073741824 (by omega) (by omega));have uG:=hD.deck.lt;clear hD;go_enter Tryz.func91,Tryz.ntmps91
 go_wp2_with fail
 refine NX.out.mono ?_
 rintro e w1 ⟨r,rfl,hr,vJ⟩
 have K0:IntKind.u64.wrap (r:Int)=(r:Int):=IntWalk.u64_in _ (by omega);have N2:=Hh (yr w1 vJ.deck 5 (by omega) (by omega));clear NX;go_wp2_with fail
 refine N2.out.mono ?_
 rintro e w2 ⟨q,rfl,hq,xt⟩
 have hd:=vJ.trans xt;clear N2 vJ xt
 rcases(by omega:q=0∨q=1∨q=2∨q=3∨q=4) with rfl | rfl | rfl | rfl | rfl
 ·go_wp2_with (go_at_call 118;refine(dV _ _ _ _).mono ?_;rintro e w3 ⟨⟨n,rfl,hn⟩,rfl⟩)
  go_ret
  exact⟨⟨n,rfl,hn⟩,hd⟩
 ·go_wp2_with (go_at_call 118;refine(dW _ _ _ _).mono ?_;rintro e w3 ⟨⟨n,rfl,hn⟩,rfl⟩)
  go_ret
  exact⟨⟨n,rfl,hn⟩,hd⟩
 ·have hB:=Blk.new w2 22 #[.int .u64 9221120237041090560,.int .u64 9218868437227405312,.int .u64 18442240474082181120,.int .u64 9223372036854775808,.int .u64 0,.int .u64 1,.int .u64 4609434218613702656];have xt:=hd.alloc (.cells #[.int .u64 9221120237041090560,.int .u64 9218868437227405312,.int .u64 18442240474082181120,.int .u64 9223372036854775808,.int .u64 0,.int .u64 1,.int .u64 4609434218613702656] 22);have N3:=Hh (yr _ xt.deck 7 (by omega) (by omega));go_wp2_with fail
  refine N3.out.mono ?_
  rintro e w3 ⟨j,rfl,hj,tW⟩
  have ux:=hB.dealt tW (by have:=hd.size;omega);obtain⟨v,hc,hP⟩:=ux.pick gz (by kernel_rfl) j (by simp;omega);obtain⟨x,rfl,hx⟩:=qT hP;have sv:=xt.trans tW;have HX:=Hh hx;clear N3 hB ux hP xt tW hx;go_wp2_with fail
  go_ret
  exact⟨⟨x,rfl,HX.out⟩,sv⟩
 all_goals
  have N3:=Hh (yr w2 hd.deck 1073741824 (by omega) (by omega));go_wp2_with fail
  refine N3.out.mono ?_
  rintro e w3 ⟨j,rfl,hj,tW⟩
  have sv:=hd.trans tW;have K1:IntKind.u64.wrap (j:Int)=(j:Int):=IntWalk.u64_in _ (by omega);clear N3 hd tW;go_wp2_with (go_at_call 119;refine(aS _ _ _ _).mono ?_;rintro e w4 ⟨⟨bb,rfl⟩,rfl⟩;cases bb)
  all_goals go_ret
  ·exact⟨um ..,sv⟩
  exact⟨⟨9221120237041090560,rfl,by omega⟩,sv⟩
theorem e8 {H:Snap}(hT:Tabs H) {k n:Int}{ba:Option Addr}{bl bc:Nat}{ia:Option Addr}{il ic:Nat}{x:Itm}(hx:ItemA H k n ba bl bc ia il ic x) (w:World) (hH:Holds w H) :
  Calls Tryz.prog 90 #[.agg #[.int .i64 k,.int .u64 n,.slice ba bl bc,.slice ia il ic]] w fun e w'=>∃ v y,e=.returned v∧Gives w H y v w'∧(y=x∨y=zn):=by
 obtain⟨rfl,rfl,rfl,rfl,tD⟩:=hx.eqs_;have hB:=(Blk.new w 26 #[.int .i64 x.kind,.int .u64 x.n,.slice ba x.bytes.length bc,.slice ia x.items.length ic]).alloc zT;have NC:=Blk.new (w.alloc (zh x ba bc ia ic)) 26 #[.int .i64 0,.int .u64 0,.slice none 0 0,.slice none 0 0]
 simp only[zr]at NC
 have hG:=((Grows.refl hH).alloc (zh x ba bc ia ic)).alloc zT;have yV:H (w.heap.size+1)=none:=hH.none_of_ge (by omega);have V:=Hh (sX hT tD.arg _ hG.holds)
 cases hv:zU x with
 | false =>
  rw[hv]at V;clear hv;go_enter Tryz.func90,Tryz.ntmps90
  go_wp2_with fail
  refine V.out.mono ?_
  rintro e w2 ⟨rfl,zK⟩
  have tm:=NC.below zK;have xB:=hG.below_ zK;clear V hB NC hG zK;go_wp2_with (with_reducible refine zx ?_)
  refine stI tm fun w3 Zf qF=>?_
  have yN:=xB.grownOwn yV (by omega) qF;go_wp2_with fail
  refine zO rfl rfl Zf rfl rfl zp rfl ?_
  exact⟨_,zn,rfl,⟨none,0,none,0,H,rfl,yN,IsItem.plain _ 0 0 (by omega) (by omega)⟩,.inr rfl⟩
 | true =>
 rw[hv]at V;clear hv;go_enter Tryz.func90,Tryz.ntmps90
 go_wp2_with fail
 refine V.out.mono ?_
 rintro e w2 ⟨rfl,zK⟩
 have yF:=hB.below zK;have tm:=NC.below zK;have xB:=hG.below_ zK;have c0:=yF.cell 0 rfl;have c1:=yF.cell 1 rfl;have c2:=yF.cell 2 rfl;have c3:=yF.cell 3 rfl;clear V hB NC hG zK;go_wp2_with (with_reducible refine zx ?_)
 refine stI tm fun w3 Zf qF=>?_
 have yN:=xB.grownOwn yV (by omega) qF;go_wp2_with fail
 refine zO rfl rfl Zf rfl rfl zp rfl ?_
 exact⟨_,x,rfl,⟨ba,bc,ia,ic,H,rfl,yN,tD⟩,.inl rfl⟩
def Og (w:World) (H:Snap) (g:Nat) (x:Itm) (v:Value) (w':World):Prop:=∃ ba bc ia ic H',v=xR x ba bc ia ic∧Dealt w H w' H' g∧IsItem H' ba bc ia ic x
def Od (w:World) (H:Snap) (g B:Nat) (e:Ending) (w':World):Prop:=∃ v x,e=.returned v∧Og w H g x v w'∧Modest x∧(zi x).length≤B
def BI:Nat→Nat
 | 0=>39
 | d+1=>9+6*BI d
theorem gv:∀ d,39≤BI d
 | 0=>Nat.le_refl _
 | d+1=>by have:=gv d;rw[BI];omega
def jj (d:Nat):Prop:=∀ (w:World) (H:Snap) (g:Nat),Tabs H→DeckIn w g H→Calls Tryz.prog 45 #[.pointer (some ⟨g,0,none⟩),.int .i64 (d:Int)] w (Od w H g (BI d))
theorem yv (k:Int) (n:Nat) (l:List UInt8) (h:l.length≤1099511627776):Modest (.mk k n l []):=by rw[Modest,ModestL];exact⟨h,by simp,trivial⟩
theorem lX (n:Nat):(zi (.mk 7 n [] [])).length≤39:=by
 rw[xJ]
 simp only[Itm.kind,Itm.n,Itm.bytes,Itm.items,zG,List.append_nil]
 rw[if_neg (by omega)]
 split
 ·simp
 have:=(un (7:Int).toNat (xp (.mk 7 n [] []))).2
 omega
theorem jJ (n:Nat):(zi (.mk 8 n [] [])).length≤39:=by
 rw[xJ,if_pos (show(Itm.mk 8 n [] []).kind=8 from rfl)]
 rcases rR n with h | h | h <;> (simp only[Itm.n];omega)
theorem Xi:jj 0:=by
 intro w H g hTab hD
 have cK:=Hh (gv 0);have uG:=hD.deck.lt;have Mu:=hD.alloc zT;have Ti:=hD.grows ((Grows.refl hD.holds).alloc zT);have tJ:=Blk.new w 26 #[.int .i64 0,.int .u64 0,.slice none 0 0,.slice none 0 0];have uw:H w.heap.size=none:=hD.holds.none_of_ge (Nat.le_refl _);have NX:=Hh (yr _ Mu 9 (by omega) (by omega));clear hD;go_enter Tryz.func45,Tryz.ntmps45
 go_wp2_with fail
 refine NX.out.mono ?_
 rintro e w1 ⟨r,rfl,hr,bd⟩
 have vJ:=Ti.trans bd;have uF:=tJ.dealt bd (by omega);clear NX Ti bd tJ Mu
 rcases(by omega:r=0∨r=1∨r=2∨r=3∨r=4∨r=5∨r=6∨r=7∨r=8) with rfl | rfl | rfl | rfl | rfl | rfl | rfl | rfl | rfl
 ·have NB:=Hh (uR w1 vJ.deck);go_wp2_with fail
  refine NB.out.mono ?_
  rintro e w2 ⟨m',rfl,q8,xt⟩
  have vo:=uF.dealt xt (by omega);have sv:=vJ.trans xt;have q9:=xt.hid uw uF.lt;have rI:=Hh q8;clear NB vJ xt uF uw q8;go_wp2_with (with_reducible refine zx ?_)
  refine stI vo fun wz hTy xI=>?_
  have qE:=sv.gb q9 (Nat.le_refl _) uG xI;go_wp2_with fail
  refine zO rfl rfl hTy rfl rfl zp rfl ?_
  exact⟨_,.mk 0 m' [] [],rfl,⟨none,0,none,0,_,rfl,qE,IsItem.plain _ 0 m' (by omega) rI.out⟩,yv _ _ _ (by simp),by have:=zC 0 m' [] [] (by omega) (by omega);have:=cK.out;simp[zG]at *;omega⟩
 ·have NB:=Hh (uR w1 vJ.deck);go_wp2_with fail
  refine NB.out.mono ?_
  rintro e w2 ⟨m',rfl,q8,xt⟩
  have vo:=uF.dealt xt (by omega);have sv:=vJ.trans xt;have q9:=xt.hid uw uF.lt;have rI:=Hh q8;clear NB vJ xt uF uw q8;go_wp2_with (with_reducible refine zx ?_)
  refine stI vo fun wz hTy xI=>?_
  have qE:=sv.gb q9 (Nat.le_refl _) uG xI;go_wp2_with fail
  refine zO rfl rfl hTy rfl rfl zp rfl ?_
  exact⟨_,.mk 1 m' [] [],rfl,⟨none,0,none,0,_,rfl,qE,IsItem.plain _ 1 m' (by omega) rI.out⟩,yv _ _ _ (by simp),by have:=zC 1 m' [] [] (by omega) (by omega);have:=cK.out;simp[zG]at *;omega⟩
 ·have NB:=Hh (jx w1 vJ.deck 30 (by omega) (by omega));go_wp2_with fail
  refine NB.out.mono ?_
  rintro e w2 ⟨A,c,l,rfl,hl,H2,zK,xt⟩
  have tm:=uF.dealt xt (by omega);have uH:=xt.hid uw uF.lt;have kW:=vJ.trans xt;have RB:=Hh (mQ (A:=A) (c:=c) (l:=l) rfl (by omega) w2 (Src.of_row zK.row xt.holds) xt.holds);have HL:=Hh hl;clear NB vJ xt uF uw hl zK;go_wp2_with fail
  refine RB.out.mono ?_
  rintro e w3 ⟨v3,rfl,ja,jb,jc,jd,H3,rfl,yN,qK⟩
  have vo:=tm.below yN.below;have q9:=yN.none uH tm.lt;have sv:=kW.grown yN;clear tm uH kW yN RB;go_wp2_with (with_reducible refine zx ?_)
  refine stI vo fun wz hTy xI=>?_
  have qE:=sv.gb q9 (Nat.le_refl _) uG xI;go_wp2_with fail
  refine zO rfl rfl hTy rfl rfl zp rfl ?_
  exact⟨_,.mk 2 0 l [],rfl,⟨ja,jb,jc,jd,H3,rfl,qE,qK⟩,yv _ _ _ (by have:=HL.out;omega),by have:=zC 2 0 l [] (by omega) (by omega);have:=cK.out;have:=HL.out;simp[zG]at *;omega⟩
 ·have NB:=Hh (ZJ w1 vJ.deck 8 (by omega) (by omega));go_wp2_with fail
  refine NB.out.mono ?_
  rintro e w2 ⟨s,rfl,hl,xt⟩
  have tm:=uF.dealt xt (by omega);have uH:=xt.hid uw uF.lt;have kW:=vJ.trans xt;have RB:=Hh (eH s (by omega) w2 xt.holds);have HL:=Hh hl;clear NB vJ xt uF uw hl;go_wp2_with fail
  refine RB.out.mono ?_
  rintro e w3 ⟨v3,rfl,ja,jb,jc,jd,H3,rfl,yN,qK⟩
  have vo:=tm.below yN.below;have q9:=yN.none uH tm.lt;have sv:=kW.grown yN;have QG:Hid (s.data.toList.length=s.size):=by rw[Hid];first | rfl | simp
  obtain⟨XT,QV⟩:∃ X,Itm.mk 3 0 s.data.toList []=X:=⟨_,rfl⟩
  rw[QV]at qK⊢;have Mm:=Hh QV;clear tm uH kW yN RB QV;go_wp2_with (with_reducible refine zx ?_)
  refine stI vo fun wz hTy xI=>?_
  have qE:=sv.gb q9 (Nat.le_refl _) uG xI;go_wp2_with fail
  refine zO rfl rfl hTy rfl rfl zp rfl ?_
  exact⟨_,XT,rfl,⟨ja,jb,jc,jd,H3,rfl,qE,qK⟩,by rw[← Mm.out];exact yv _ _ _ (by have:=HL.out;have:=QG.out;omega),by have:=zC 3 0 s.data.toList [] (by omega) (by omega);have:=cK.out;have:=HL.out;have:=QG.out;rw[← Mm.out];simp[zG]at *;omega⟩
 ·have NB:=Hh (uR w1 vJ.deck);go_wp2_with fail
  refine NB.out.mono ?_
  rintro e w2 ⟨m',rfl,q8,xt⟩
  have vo:=uF.dealt xt (by omega);have sv:=vJ.trans xt;have q9:=xt.hid uw uF.lt;have rI:=Hh q8;clear NB vJ xt uF uw q8;go_wp2_with (with_reducible refine zx ?_)
  refine stI vo fun wz hTy xI=>?_
  have qE:=sv.gb q9 (Nat.le_refl _) uG xI;go_wp2_with fail
  refine zO rfl rfl hTy rfl rfl zp rfl ?_
  exact⟨_,.mk 0 m' [] [],rfl,⟨none,0,none,0,_,rfl,qE,IsItem.plain _ 0 m' (by omega) rI.out⟩,yv _ _ _ (by simp),by have:=zC 0 m' [] [] (by omega) (by omega);have:=cK.out;simp[zG]at *;omega⟩
 ·have NB:=Hh (uR w1 vJ.deck);go_wp2_with fail
  refine NB.out.mono ?_
  rintro e w2 ⟨m',rfl,q8,xt⟩
  have vo:=uF.dealt xt (by omega);have sv:=vJ.trans xt;have q9:=xt.hid uw uF.lt;have rI:=Hh q8;clear NB vJ xt uF uw q8;go_wp2_with (with_reducible refine zx ?_)
  refine stI vo fun wz hTy xI=>?_
  have qE:=sv.gb q9 (Nat.le_refl _) uG xI;go_wp2_with fail
  refine zO rfl rfl hTy rfl rfl zp rfl ?_
  exact⟨_,.mk 0 m' [] [],rfl,⟨none,0,none,0,_,rfl,qE,IsItem.plain _ 0 m' (by omega) rI.out⟩,yv _ _ _ (by simp),by have:=zC 0 m' [] [] (by omega) (by omega);have:=cK.out;simp[zG]at *;omega⟩
 ·have NB:=Hh (uR w1 vJ.deck);go_wp2_with fail
  refine NB.out.mono ?_
  rintro e w2 ⟨m',rfl,q8,xt⟩
  have vo:=uF.dealt xt (by omega);have sv:=vJ.trans xt;have q9:=xt.hid uw uF.lt;have rI:=Hh q8;clear NB vJ xt uF uw q8;go_wp2_with (with_reducible refine zx ?_)
  refine stI vo fun wz hTy xI=>?_
  have qE:=sv.gb q9 (Nat.le_refl _) uG xI;go_wp2_with fail
  refine zO rfl rfl hTy rfl rfl zp rfl ?_
  exact⟨_,.mk 0 m' [] [],rfl,⟨none,0,none,0,_,rfl,qE,IsItem.plain _ 0 m' (by omega) rI.out⟩,yv _ _ _ (by simp),by have:=zC 0 m' [] [] (by omega) (by omega);have:=cK.out;simp[zG]at *;omega⟩
 ·have hB:=Blk.new w1 22 #[.int .u64 20,.int .u64 21,.int .u64 22,.int .u64 23,.int .u64 0,.int .u64 19,.int .u64 32,.int .u64 255];have xt:=vJ.alloc (.cells #[.int .u64 20,.int .u64 21,.int .u64 22,.int .u64 23,.int .u64 0,.int .u64 19,.int .u64 32,.int .u64 255] 22);have tm:=uF.alloc (.cells #[.int .u64 20,.int .u64 21,.int .u64 22,.int .u64 23,.int .u64 0,.int .u64 19,.int .u64 32,.int .u64 255] 22);have NB:=Hh (yr _ xt.deck 8 (by omega) (by omega));go_wp2_with fail
  refine NB.out.mono ?_
  rintro e w3 ⟨j,rfl,hj,tW⟩
  have ux:=hB.dealt tW (by have:=vJ.size;omega);obtain⟨v,hc,hP⟩:=ux.pick gz (by kernel_rfl) j (by simp;omega);obtain⟨x,rfl,hx⟩:=qT hP;have vo:=tm.dealt tW (by omega);have q9:=tW.hid uw tm.lt;have sv:=xt.trans tW;have rI:=Hh hx;clear NB hB ux hP vJ xt tW hx uF tm uw;go_wp2_with (with_reducible refine zx ?_)
  refine stI vo fun wz hTy xI=>?_
  have qE:=sv.gb q9 (Nat.le_refl _) uG xI;go_wp2_with fail
  refine zO rfl rfl hTy rfl rfl zp rfl ?_
  exact⟨_,.mk 7 x [] [],rfl,⟨none,0,none,0,_,rfl,qE,IsItem.plain _ 7 x (by omega) rI.out⟩,yv _ _ _ (by simp),Nat.le_trans (lX x) cK.out⟩
 have NB:=Hh (dz w1 vJ.deck);go_wp2_with fail
 refine NB.out.mono ?_
 rintro e w2 ⟨⟨m',rfl,q8⟩,xt⟩
 have vo:=uF.dealt xt (by omega);have sv:=vJ.trans xt;have q9:=xt.hid uw uF.lt;have rI:=Hh q8;clear NB vJ xt uF uw q8;go_wp2_with (with_reducible refine zx ?_)
 refine stI vo fun wz hTy xI=>?_
 have qE:=sv.gb q9 (Nat.le_refl _) uG xI;go_wp2_with fail
 refine zO rfl rfl hTy rfl rfl zp rfl ?_
 exact⟨_,.mk 8 m' [] [],rfl,⟨none,0,none,0,_,rfl,qE,IsItem.plain _ 8 m' (by omega) rI.out⟩,yv _ _ _ (by simp),Nat.le_trans (jJ m') cK.out⟩
end Go.Proofs.YtliomcphdnppnaaGreatDoor
