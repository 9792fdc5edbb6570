/- squeezed. Walks: the references' Put. -/
import Derived.Test.YtliomcphdnppnaaGreatDoorK29
set_option linter.unusedVariables false
set_option linter.unusedSimpArgs false
set_option maxRecDepth 100000
set_option maxHeartbeats 12800000
namespace Go.Proofs.YtliomcphdnppnaaGreatDoor
open Go.RowKit
theorem jbh{P:Prop}(h:P:=by exact⟨hV.cell 0 rfl,hV.cell 1 rfl,hV.cell 2 rfl,hV.cell 3 rfl⟩):P:=h
theorem jdP{P:Prop}(h:P:=by rw[hq]at h1;injection h1 with h1;subst h1;exact hG.hidden h2):P:=h
theorem jgP{P:Prop}(h:P:=by have rt:=hG.grownOwn yO (by omega) yS;exact rt):P:=h
theorem jgQ{P:Prop}(h:P:=by have rt:=wQ.grownOwn yO (by omega) yS;exact rt):P:=h
def fV (p u p' u':Itm) (r:Itm×Itm):Prop:=(∀ q,(q∈zT p.items∨q∈zT u.items∨q=r)↔(q∈zT p'.items∨q∈zT u'.items))∧yf p'.items+yf u'.items=yf p.items+yf u.items+cnt r.1+cnt r.2
theorem Nb {a b c:Prop}:(a∨b∨c)↔((a∨c)∨b):=by
 constructor
 ·rintro(h | h | h)
  ·exact .inl (.inl h)
  ·exact .inr h
  exact .inl (.inr h)
 rintro((h | h) | h)
 ·exact .inl h
 ·exact .inr (.inr h)
 exact .inr (.inl h)
theorem jT {p:Itm}(h:zJ p=true) (h5:p.kind=5):p.items.length%2=0:=by
 have hg:=((yo p).1 h).1;have hf:=yI (mE hg (by omega))
 exact hf.2.2.2.2.2.2 h5
def Jf (w:World) (H:Snap) (p u:Itm) (n:Int) (v:Itm) (e:Ending) (w':World):Prop :=
 ∃ p' u' val c,e=.returned (.tuple #[val,.int .i64 c])∧Vp w H p' u' val w'∧(c=0→zL p' u'=true∧szL p'≤szL p+9+(zZ v).length∧szL u'≤szL u+9+(zZ v).length∧fV p u p' u' (zS n,v))∧Modest p'∧Modest u'∧
  (p=yh→u=yh→n=1→Yk v→c=0)
theorem IsRowI.two {H:Snap}{A:Option Addr}{c:Nat}{l:List Itm}(yw:l.length≤c) (hm:c≤9223372036854775807) (he:0<l.length→∃ b off,A=some ⟨b,off,none⟩∧IsElems H b off l):IsRowI H A c l:=⟨yw,hm,he⟩
def Bg (ps:List Itm) (c:Int) (x:Itm):Prop :=
 (c=0∧∃ l,x=.mk 5 0 [] l∧zJ x=true∧(zP l).length=(zP ps).length∧(ps.length=2→l=ps)∧PQ l ps)∨
 (c≠0∧x=ze∧¬ (ps.length=2∧(∀ x∈ps,zJ x=true)∧zJ (.mk 5 0 [] ps)=true))
theorem BuildSaid3.one {w w':World}{H:Snap}{ps:List Itm}{e:Ending}(h:BuildSaid3 w H ps e w'):∃ v c x,e=.returned (.tuple #[v,.int .i64 c])∧Gives w H x v w'∧Bg ps c x:=by
 obtain⟨v,⟨l,h1,h2,h3,h4,h5,h6⟩ | ⟨c,h1,h2,h3,h4⟩⟩:=h
 ·exact⟨v,0,_,h1,h2,.inl ⟨rfl,l,rfl,h3,h4,fun hl=>h5 (TS hl),h6⟩⟩
 exact⟨v,c,_,h1,h3,.inr ⟨h2,rfl,fun⟨a,b,d⟩=>h4 ⟨by omega,TS a,b,d⟩⟩⟩
theorem IsRowI.src {H:Snap}{A:Option Addr}{c:Nat}{l:List Itm}(h:IsRowI H A c l):∃ cs,ItemsC H cs l∧Row H A cs:=by
 by_cases h0:0<l.length
 ·obtain⟨b,off,rfl,he⟩:=h.elems h0;obtain⟨cs,hc,hx⟩:=he.cells
  exact⟨cs,hc,fun _=>⟨b,off,rfl,hx⟩⟩
 have hl:l=[]:=List.length_eq_zero_iff.1 (by omega);subst hl
 exact⟨[],ItemsC.nil H,Row.nil _ _⟩
theorem KT {w wr:World}{H Hr:Snap}(hG:Grows w H wr Hr) {r:Option Nat}(h:At0 wr (Value.slice none 0 0).ownBlock r):∀ q,r=some q→Hr q=none:=fun q hq=>by
 rcases h with h | ⟨g,h1,h2⟩
 ·rw[h]at hq;simp[Value.ownBlock]at hq
 exact jdP
theorem YW {w wr:World}{H Hr:Snap}(hG:Grows w H wr Hr) {r0 r:Option Nat}(h0:∀ q,r0=some q→Hr q=none) (h:At0 wr r0 r):∀ q,r=some q→Hr q=none:=fun q hq=>by
 rcases h with h | ⟨g,h1,h2⟩
 ·exact h0 q (by rw[← h,hq])
 exact jdP
theorem sn {H H':Snap}{A:Option Addr}(hf:∀ b o,H' b=some o→H b=some o∨A.map (·.block)=some b) {q:Nat}(h0:H q=none) (hA:A.map (·.block)=some q→False):H' q=none:=by
 cases h:H' q with
 | none=>rfl
 | some o =>
 rcases hf q o h with h1 | h1
 ·rw[h0]at h1;cases h1
 exact(hA h1).elim
theorem L3 (m:Itm) (n:Int) (v:Itm) {l:List Itm}(h:(zP l).length=(zP (m.items++[zS n,v])).length):szL (.mk 5 0 [] l)≤szL m+9+(zZ v).length:=by
 have:=rM n;rw[szL,szL]
 simp only[Itm.items,h,sY,zP,List.length_append,List.append_nil]
 omega
theorem uN {H:Snap}(hTab:Tabs H) {p u v:Itm}{a b d:Ad}(hp:IsItem H a.ba a.bc a.ia a.ic p) (hu:IsItem H b.ba b.bc b.ia b.ic u) (hv:IsItem H d.ba d.bc d.ia d.ic v) (prot:Bool) (n:Int) (un : -9223372036854775808≤n) (tF:n≤9223372036854775807) (w:World) (hH:Holds w H) :
  Calls Tryz.prog 41 #[.agg (zA p a u b),.bool prot,.int .i64 n,xp v d.ba d.bc d.ia d.ic] w (Jf w H p u n v):=by
 have hB:=((Blk.new w 28 (zA p a u b)).alloc (zU v d.ba d.bc d.ia d.ic)).alloc wG;have hV:=(Blk.new (w.alloc (.cells (zA p a u b) 28)) 26 #[.int .i64 v.kind,.int .u64 v.n,.slice d.ba v.bytes.length d.bc,.slice d.ia v.items.length d.ic]).alloc wG;have hT:=Blk.new ((w.alloc (.cells (zA p a u b) 28)).alloc (zU v d.ba d.bc d.ia d.ic)) 28 (zA ze ⟨none,0,none,0⟩ ze ⟨none,0,none,0⟩)
 simp only[zr]at hV hT
 have hG:=(((Grows.refl hH).alloc (.cells (zA p a u b) 28)).alloc (zU v d.ba d.bc d.ia d.ic)).alloc wG;have yO:H (w.heap.size+1+1)=none:=hH.none_of_ge (by omega);have VH:=Hh (nU hTab hp hu _ hG.holds);have HN:=Hh (And.intro un tF);clear un tF
 cases hvh:zL p u with
 | false =>
  rw[hvh]at VH;have HV:=Hh hvh;clear hvh;go_enter Tryz.func41,Tryz.ntmps41
  go_wp2_with fail
  refine VH.out.mono ?_
  rintro e w1 ⟨rfl,zB⟩
  have hT:=hT.below zB;have hG:=hG.below_ zB;clear VH hB hV zB;go_wp2_with (with_reducible refine zx ?_)
  refine zv rfl _ _ _ rfl rfl _ _ rfl rfl _ _ hT zD rfl (by kernel_rfl) fun wz uo yS=>?_
  have rt:=jgP;go_wp2_with fail
  refine zp rfl rfl uo rfl rfl zD rfl ?_
  exact⟨ze,ze,_,1,rfl,⟨⟨none,0,none,0⟩,⟨none,0,none,0⟩,H,rfl,rt,IsItem.plain _ 0 0 (by omega) (by omega),IsItem.plain _ 0 0 (by omega) (by omega)⟩,(fun h=>by cases h),xK,xK,fun h1 h2 h3 h4=>by subst h1;subst h2;have:=HV.out;rw[lw]at this;cases this⟩
 | true =>
 rw[hvh]at VH;have HV:=Hh hvh;clear hvh;go_enter Tryz.func41,Tryz.ntmps41
 go_wp2_with fail
 refine VH.out.mono ?_
 rintro e w1 ⟨rfl,zB⟩
 have hB:=hB.below zB;have hV:=hV.below zB;have hT:=hT.below zB;have hG:=hG.below_ zB;have VV:=Hh (qP hTab hv.arg w1 hG.holds);have v0:=hV.cell 0 rfl;have v1:=hV.cell 1 rfl;have v2:=hV.cell 2 rfl;have v3:=hV.cell 3 rfl
 cases hvv:zJ v with
 | false =>
  rw[hvv]at VV;have QH:=Hh hvv;clear hvv;go_wp2_with fail
  refine VV.out.mono ?_
  rintro e w2 ⟨rfl,zG⟩
  have hT:=hT.below zG;have hG:=hG.below_ zG;clear VH VV hB hV zG zB v0 v1 v2 v3;go_wp2_with (with_reducible refine zx ?_)
  refine zv rfl _ _ _ rfl rfl _ _ rfl rfl _ _ hT zD rfl (by kernel_rfl) fun wz uo yS=>?_
  have rt:=jgP;go_wp2_with fail
  refine zp rfl rfl uo rfl rfl zD rfl ?_
  exact⟨ze,ze,_,1,rfl,⟨⟨none,0,none,0⟩,⟨none,0,none,0⟩,H,rfl,rt,IsItem.plain _ 0 0 (by omega) (by omega),IsItem.plain _ 0 0 (by omega) (by omega)⟩,(fun h=>by cases h),xK,xK,fun h1 h2 h3 h4=>by obtain⟨k,_,rfl⟩:=h4;have:=QH.out;rw[← vM,vH]at this;cases this⟩
 | true =>
 rw[hvv]at VV;have QH:=Hh hvv;clear hvv;go_wp2_with fail
 refine VV.out.mono ?_
 rintro e w2 ⟨rfl,zG⟩
 have hB:=hB.below zG;have hV:=hV.below zG;have hT:=hT.below zG;have hG:=hG.below_ zG;have vv:=yY HV.out;have gn:=yU vv.1;have dH:=yU vv.2.1;have JF:=Hh vv;have FD:=Hh (Yd gn dH hp hu n HN.out.1 HN.out.2 w2 hG.holds);have JB:=Hh (And.intro gn dH);have b0:=hB.cell 0 rfl;have b1:=hB.cell 1 rfl;have b2:=hB.cell 2 rfl;have b3:=hB.cell 3 rfl;have b4:=hB.cell 4 rfl;have b5:=hB.cell 5 rfl;have b6:=hB.cell 6 rfl;have b7:=hB.cell 7 rfl;clear v0 v1 v2 v3 zB zG vv gn dH VH VV;go_wp2_with fail
 refine FD.out.mono ?_
 rintro e w3 ⟨v3,rfl,ka,kb,kc,kd,H3,rfl,ye,nO⟩
 have hB:=hB.below ye.below;have hV:=hV.below ye.below;have yO:=ye.none yO hT.lt;have hT:=hT.below ye.below;have hG:=hG.trans ye;have pF:=ye.le;clear b0 b1 b2 b3 b4 b5 b6 b7 FD ye;obtain⟨FX,hFX⟩:∃ FX,(vj p u n).getD ze=FX:=⟨_,rfl⟩
 rw[hFX]at nO⊢;have hF4:=hV.alloc (zU FX ka kb kc kd);have hB:=hB.alloc (zU FX ka kb kc kd);have hT:=hT.alloc (zU FX ka kb kc kd);have hG:=hG.alloc (zU FX ka kb kc kd);have hV:=hF4;have HFX:=Hh hFX;clear hFX hF4 nO
 cases hfd:(vj p u n).isSome with
 | true =>
  have HF:=Hh hfd;clear hfd;go_upto_region 5 with fail
  go_wp2_with (with_reducible refine zx ?_)
  refine zv rfl _ _ _ rfl rfl _ _ rfl rfl _ _ hT zD rfl (by kernel_rfl) fun wz uo yS=>?_
  have rt:=jgP;go_wp2_with fail
  refine zp rfl rfl uo rfl rfl zD rfl ?_
  exact⟨ze,ze,_,7,rfl,⟨⟨none,0,none,0⟩,⟨none,0,none,0⟩,_,rfl,rt,IsItem.plain _ 0 0 (by omega) (by omega),IsItem.plain _ 0 0 (by omega) (by omega)⟩,(fun h=>by cases h),xK,xK,fun h1 h2 h3 h4=>by subst h1;subst h2;have:=HF.out;rw[Uf]at this;cases this⟩
 | false =>
 have HF:=Hh hfd;clear hfd;have b0:=hB.cell 0 rfl;have b1:=hB.cell 1 rfl;have b2:=hB.cell 2 rfl;have b3:=hB.cell 3 rfl;have b4:=hB.cell 4 rfl;have b5:=hB.cell 5 rfl;have b6:=hB.cell 6 rfl;have b7:=hB.cell 7 rfl;have C:=Hh (VS JB.out.1 JB.out.2 (hp.mono hG.le) (hu.mono hG.le) _ hG.holds);go_wp2_with fail
 refine C.out.mono ?_
 rintro e w4 ⟨v4,rfl,a2,b2',H4,rfl,yF,ae,hu4⟩
 have hV:=hV.below yF.below;have yO:=yF.none yO hT.lt;have hT:=hT.below yF.below;have hG:=hG.trans yF;have Ir:=hv.mono hG.le;clear b0 b1 b2 b3 b4 b5 b6 b7 C yF hB;have hC:=(Blk.new w4 28 (zA p a2 u b2')).alloc (zU u b2'.ba b2'.bc b2'.ia b2'.ic);have hM:=Blk.new (w4.alloc (.cells (zA p a2 u b2') 28)) 26 #[.int .i64 u.kind,.int .u64 u.n,.slice b2'.ba u.bytes.length b2'.bc,.slice b2'.ia u.items.length b2'.ic]
 simp only[zr]at hM
 have uG:=hT.lt;have vB:H4 w4.heap.size=none:=hG.holds.none_of_ge (Nat.le_refl _);have Mj:H4 (w4.heap.size+1)=none:=hG.holds.none_of_ge (by omega);have hV:=(hV.alloc (.cells (zA p a2 u b2') 28)).alloc (zU u b2'.ba b2'.bc b2'.ia b2'.ic);have hT:=(hT.alloc (.cells (zA p a2 u b2') 28)).alloc (zU u b2'.ba b2'.bc b2'.ia b2'.ic);have hG:=(hG.alloc (.cells (zA p a2 u b2') 28)).alloc (zU u b2'.ba b2'.bc b2'.ia b2'.ic);go_upto_if 36 with fail
 go_cut [36] (fun s36 wx=>∃ (mI:Itm) (am:Ad),(prot=true→mI=p)∧(prot=false→mI=u)∧IsItem H4 am.ba am.bc am.ia am.ic mI∧Blk wx (w4.heap.size+1) 26 #[.int .i64 mI.kind,.int .u64 mI.n,.slice am.ba mI.bytes.length am.bc,.slice am.ia mI.items.length am.ic]∧Blk wx w4.heap.size 28 (zA p a2 u b2')∧
  Blk wx (w.heap.size+1) 26 #[.int .i64 v.kind,.int .u64 v.n,.slice d.ba v.bytes.length d.bc,.slice d.ia v.items.length d.ic]∧Blk wx (w.heap.size+1+1) 28 (zA ze ⟨none,0,none,0⟩ ze ⟨none,0,none,0⟩)∧Grows w H wx H4)
 case first =>
  cases prot with
  | true =>
   go_upto_region 9 with fail
   have c0:=hC.cell 0 rfl;have c1:=hC.cell 1 rfl;have c2:=hC.cell 2 rfl;have c3:=hC.cell 3 rfl;go_wp2_with (with_reducible refine zx ?_)
   refine stI hM fun w7 hM7 ww=>?_
   have Lx:=hC.gr ww (by omega);have hV7:=hV.gr ww (by omega);have rG:=hT.gr ww (by omega);have wJ:=hG.grownOwn Mj (by omega) ww;go_wp2_with fail
   go_meet
   exact⟨p,a2,(fun _=>rfl),(fun h=>by cases h),ae,hM7,Lx,hV7,rG,wJ⟩
  | false =>
  go_wp2_with fail
  go_meet
  exact⟨u,b2',(fun h=>by cases h),(fun _=>rfl),hu4,hM,hC,hV,hT,hG⟩
 case rest =>
 clear hC hM hV hT hG;obtain⟨mI,am,qu,ir,fU,hM,hC,hV,hT,hG⟩:=hcut;have HM:=Hh (And.intro qu ir)
 have zBt:mI.items.length≤256:=by
  have h1:=(uV JF.out.1).2.1;have h2:=(uV JF.out.2.1).2.1
  cases prot
  ·rw[ir rfl];exact h2
  rw[qu rfl];exact h1
 clear qu ir;have hr:=fU.row;obtain⟨PS,hPS⟩:∃ PS,mI.items++[zS n,v]=PS:=⟨_,rfl⟩
 have CE:PS.length=mI.items.length+2:=by rw[← hPS];simp
 have QG:=Hh (And.intro hPS CE);clear hPS CE;have hM:=hM.drew;have hC:=hC.drew;have hV:=hV.drew;have hT:=hT.drew;have hG:=hG.drew;go_upto_region 10 with fail
 go_cut [14] (fun s14 wx=>∃ (c:Int) (x:Itm) (ax:Ad) (H8:Snap),s14=.int .i64 c∧Bg PS c x∧IsItem H8 ax.ba ax.bc ax.ia ax.ic x∧H4.le H8∧H8 (w.heap.size+1+1)=none∧H8 w4.heap.size=none∧H8 (w4.heap.size+1)=none∧
  Blk wx (w4.heap.size+1) 26 #[.int .i64 x.kind,.int .u64 x.n,.slice ax.ba x.bytes.length ax.bc,.slice ax.ia x.items.length ax.ic]∧Blk wx w4.heap.size 28 (zA p a2 u b2')∧
  Blk wx (w.heap.size+1+1) 28 (zA ze ⟨none,0,none,0⟩ ze ⟨none,0,none,0⟩)∧Grows w H wx H8)
 case first =>
  have yw:=Snap.le.refl H4
  refine zw 13 (fun w'=>w'.cell? ⟨w.heap.size+1,0,none⟩=some (.int .i64 v.kind)∧w'.cell? ⟨w.heap.size+1,1,none⟩=some (.int .u64 v.n)∧w'.cell? ⟨w.heap.size+1,2,none⟩=some (.slice d.ba v.bytes.length d.bc)∧w'.cell? ⟨w.heap.size+1,3,none⟩=some (.slice d.ia v.items.length d.ic)) (by kernel_rfl) (⟨hV.cell 0 rfl,hV.cell 1 rfl,hV.cell 2 rfl,hV.cell 3 rfl⟩) (fun zy=>?_)
  refine Tk 0 rfl zy ?_
  refine Tk 3 rfl zy ?_
  refine Tk 5 rfl zy ?_
  refine To 1 rfl fun K hK=>?_
  have m3:=hM.cell 3 rfl;go_simp
  refine Ko hK ?_ fun zy=>?_
  ·exact jbh
  clear hK K
  refine To 2 rfl fun K hK=>?_
  rw[if_pos (by rfl)];obtain⟨cs,oq,hrw⟩:=hr.src
  refine vo (.const (.slice none 0 0)) (.tmp 41) rfl (w4.heap.size+2) (.slice none 0 0) _ [] rfl (OwnI.nil _ _ _) _ _ _ cs mI.items rfl rfl oq (Src.of_row hrw hG.holds) (by simp;omega) (by have:=hM.lt;omega) fun v5 w5 hX hg hat=>?_
  rw[List.nil_append]at hX;have nM:=jfW;have TG:=KT hG hat;have hM:=hM.below nM;have hC:=hC.below nM;have hV:=hV.below nM;have hT:=hT.below nM;have hG:=hG.below_ nM
  try have IV:=IV.below nM
  refine Ko hK ?_ fun zy=>?_
  ·exact jbh
  clear hK K
  refine To 4 rfl fun K hK=>?_
  go_simp
  refine(tD n HN.out.1 HN.out.2 _ hG.holds).mono ?_
  rintro e w6 ⟨v6,rfl,ja,jb,jc,jd,H6,rfl,xq,rV⟩
  have hr:=hr.mono xq.le
  try have TG:=fun q hq=>xq.none (TG q hq) (hX.lt q hq).2
  try have hX:=(hX.below xq.below).mono xq.le
  have Ir:=Ir.mono xq.le;have yO:=xq.none yO hT.lt;have vB:=xq.none vB hC.lt;have Mj:=xq.none Mj hM.lt;have hM:=hM.below xq.below;have hC:=hC.below xq.below;have hV:=hV.below xq.below;have hT:=hT.below xq.below;have yw:=yw.trans xq.le;have hG:=hG.trans xq
  refine Ko hK ?_ fun zy=>?_
  ·exact jbh
  clear hK K
  refine To 6 rfl fun K hK=>?_
  go_simp
  have IV:=i7 hG.below 26 #[.int .i64 (zS n).kind,.int .u64 (zS n).n,.slice ja (zS n).bytes.length jb,.slice jc (zS n).items.length jd,.int .i64 v.kind,.int .u64 v.n,.slice d.ba v.bytes.length d.bc,.slice d.ia v.items.length d.ic]
  try have hX:=hX.alloc (.cells #[.int .i64 (zS n).kind,.int .u64 (zS n).n,.slice ja (zS n).bytes.length jb,.slice jc (zS n).items.length jd,.int .i64 v.kind,.int .u64 v.n,.slice d.ba v.bytes.length d.bc,.slice d.ia v.items.length d.ic] 26)
  have hM:=hM.alloc (.cells #[.int .i64 (zS n).kind,.int .u64 (zS n).n,.slice ja (zS n).bytes.length jb,.slice jc (zS n).items.length jd,.int .i64 v.kind,.int .u64 v.n,.slice d.ba v.bytes.length d.bc,.slice d.ia v.items.length d.ic] 26);have hC:=hC.alloc (.cells #[.int .i64 (zS n).kind,.int .u64 (zS n).n,.slice ja (zS n).bytes.length jb,.slice jc (zS n).items.length jd,.int .i64 v.kind,.int .u64 v.n,.slice d.ba v.bytes.length d.bc,.slice d.ia v.items.length d.ic] 26);have hV:=hV.alloc (.cells #[.int .i64 (zS n).kind,.int .u64 (zS n).n,.slice ja (zS n).bytes.length jb,.slice jc (zS n).items.length jd,.int .i64 v.kind,.int .u64 v.n,.slice d.ba v.bytes.length d.bc,.slice d.ia v.items.length d.ic] 26);have hT:=hT.alloc (.cells #[.int .i64 (zS n).kind,.int .u64 (zS n).n,.slice ja (zS n).bytes.length jb,.slice jc (zS n).items.length jd,.int .i64 v.kind,.int .u64 v.n,.slice d.ba v.bytes.length d.bc,.slice d.ia v.items.length d.ic] 26)
  have hG:=hG.alloc (.cells #[.int .i64 (zS n).kind,.int .u64 (zS n).n,.slice ja (zS n).bytes.length jb,.slice jc (zS n).items.length jd,.int .i64 v.kind,.int .u64 v.n,.slice d.ba v.bytes.length d.bc,.slice d.ia v.items.length d.ic] 26)
  refine Ko hK ?_ fun zy=>?_
  ·exact jbh
  clear hK K
  refine To 7 rfl fun K hK=>?_
  rw[if_pos (by rfl)]
  refine vo (.tmp 42) (.tmp 46) rfl (w4.heap.size+2) _ _ mI.items rfl hX _ _ _ (zV (zS n) ja jb jc jd++zV v d.ba d.bc d.ia d.ic) [zS n,v] rfl rfl ((ItemsC.one rV).app (ItemsC.one Ir)) IV (by simp;omega) (by have:=hM.lt;omega) fun v7 w7 ig ww hat7=>?_
  rw[QG.out.1]at ig;obtain⟨XA,xc,rfl,_⟩:=ig.form;have pm:=YW hG TG hat7;have hM:=hM.grown ww (fun e=>by have:=(hX.lt _ e).1;omega);have hC:=hC.grown ww (fun e=>by have:=(hX.lt _ e).1;omega);have hV:=hV.grown ww (fun e=>by have:=(hX.lt _ e).1;omega);have hT:=hT.grown ww (fun e=>by have:=(hX.lt _ e).1;omega);have hG:=hG.grownRow TG (fun q hq=>by have:=(hX.lt q hq).1;omega) ww;obtain⟨H7,MK,hh7,TC,hz7,t8,tA,zA7⟩:=ig.snap hG.holds (fun q hq=>pm q (uB hq));have vd:∀ q,XA.map (·.block)=some q→w4.heap.size+2≤q:=fun q hq=>(ig.lt q (uB hq)).1
  have fC:=fun q (hq:q<w4.heap.size+2) h0=>sn TC (q:=q) h0 (fun e=>by have:=vd q e;omega)
  have hG:Grows w H w7 H7:=⟨hG.below,hG.le.trans MK,hh7,fun b o hb=>(TC b o hb).elim (hG.fresh b o) (fun e=>.inr (by have:=vd b e;omega))⟩
  have yO:=fC _ (by omega) yO;have vB:=fC _ (by omega) vB;have Mj:=fC _ (by omega) Mj;have yw:=yw.trans MK
  refine Ko hK ?_ fun zy=>?_
  ·exact jbh
  clear hK K
  refine To 8 rfl fun K hK=>?_
  go_simp
  refine(eC (hTab.mono hG.le) (IsRowI.two t8 tA zA7) (by have:=QG.out.2;omega) w7 hG.holds).mono ?_
  intro e w9 gH
  obtain⟨v9,c,x,rfl,⟨xa,xb,xc',xd,H9,rfl,qp,hi9⟩,Dp⟩:=gH.one;have yO:=qp.none yO hT.lt;have vB:=qp.none vB hC.lt;have Mj:=qp.none Mj hM.lt;have hM:=hM.below qp.below;have hC:=hC.below qp.below;have hV:=hV.below qp.below;have hT:=hT.below qp.below;have yw:=yw.trans qp.le;have hG:=hG.trans qp
  refine Ko hK ?_ fun zy=>?_
  ·exact jbh
  clear hK K
  refine Tk 9 rfl zy ?_
  refine Tk 10 rfl zy ?_
  refine Tk 11 rfl zy ?_
  refine To 12 rfl fun K hK=>?_
  rw[if_pos (by rfl)]
  refine zh _ _ _ rfl _ _ rfl rfl _ _ hM zu rfl (tR _ _ _ _ rfl rfl rfl rfl) fun w12 hM hg12=>?_
  have hC:=hC.gr hg12 (by omega);have hV:=hV.gr hg12 (by omega);have hT:=hT.gr hg12 (by omega);have hG:=hG.grownOwn Mj (by omega) hg12
  refine Ko hK ?_ fun zy=>?_
  ·exact jbh
  clear hK K
  refine To 13 rfl fun K hK=>?_
  go_simp
  refine Kz hK ?_
  clear hK K
  refine Wd ?_
  go_wp2_with fail
  go_meet
  exact⟨c,x,⟨xa,xb,xc',xd⟩,_,rfl,Dp,hi9,yw,yO,vB,Mj,hM,hC,hT,hG⟩
 case rest =>
 clear hM hC hV hT hG hr Ir;obtain⟨c,x,ax,H8,rfl,Dp,Ea,fP,yO,vB,Mj,hM,hC,hT,hG⟩:=hcut
 have HEM:=Hh (show p=yh→u=yh→mI=yh from fun h1 h2=>by
  cases prot
  ·rw[HM.out.2 rfl,h2]
  rw[HM.out.1 rfl,h1])
 have HPE:=Hh (show p=yh→u=yh→n=1→PS=[.mk 0 1 [] [],v] from fun h1 h2 h3=>by
  rw[← QG.out.1,HEM.out h1 h2,h3,G8];rfl)
 have I5:Hid (mI.items.length%2=0):=by
  cases prot
  ·rw[HM.out.2 rfl];exact jT JF.out.2.1 JF.out.2.2.2
  rw[HM.out.1 rfl];exact jT JF.out.1 JF.out.2.2.1
 rcases Dp with ⟨rfl,l,Wq,hvx,iu,h2,hpq⟩ | ⟨hc,hxz,Wm⟩
 ·have HX:=Hh (And.intro (show szL x≤szL mI+9+(zZ v).length by rw[Wq];exact L3 mI n v (by rw[QG.out.1];exact iu)) (show p=yh→u=yh→n=1→x=.mk 5 0 [] [.mk 0 1 [] [],v] from fun h1 Q0 h3=>by
   have he:=HPE.out h1 Q0 h3;rw[Wq,h2 (by rw[he];rfl),he]))
  have Ei:Hid ((∀ q,(q∈zT mI.items∨q=(zS n,v))↔q∈zT x.items)∧yf x.items=yf mI.items+cnt (zS n)+cnt v):=⟨fun q=>by
   rw[Wq];show _↔q∈zT l
   rw[hpq.1 q,← QG.out.1,rg _ I5.out]
   simp[zT],by
   rw[Wq];show yf l=_
   rw[hpq.2,← QG.out.1,re]
   simp only[yf]
   omega⟩
  clear Wq hvx iu h2 hpq
  cases prot with
  | true =>
   have HXP:=Hh (show szL x≤szL p+9+(zZ v).length by have h1:=HX.out.1;rw[HM.out.1 rfl]at h1;exact h1);have m0:=hM.cell 0 rfl;have m1:=hM.cell 1 rfl;have m2:=hM.cell 2 rfl;have m3:=hM.cell 3 rfl;go_wp2_with (with_reducible refine zx ?_)
   refine xT rfl _ _ _ rfl rfl w4.heap.size 0 _ rfl rfl _ _ hC zu (by simp) (tR _ _ _ _ rfl rfl rfl rfl) fun w13 rj hg13=>?_
   have rj:Blk w13 w4.heap.size 28 (zA x ax u b2'):=rj;have qx:=hT.gr hg13 (by omega);have rR:=hG.grownOwn vB (by omega) hg13;have V2:=Hh (nU (hTab.mono rR.le) Ea (hu4.mono fP) w13 rR.holds);have k0:=rj.cell 0 rfl;have k1:=rj.cell 1 rfl;have k2:=rj.cell 2 rfl;have k3:=rj.cell 3 rfl;have k4:=rj.cell 4 rfl;have k5:=rj.cell 5 rfl;have k6:=rj.cell 6 rfl;have k7:=rj.cell 7 rfl;clear hC hT hG hM m0 m1 m2 m3 hg13
   cases ru:zL x u with
   | false =>
    rw[ru]at V2;have WU:=Hh ru;clear ru;go_wp2_with fail
    refine V2.out.mono ?_
    rintro e w14 ⟨rfl,ux⟩
    have nz:=qx.below ux;have wQ:=rR.below_ ux;clear rj qx rR ux V2 k0 k1 k2 k3 k4 k5 k6 k7;go_wp2_with (with_reducible refine zx ?_)
    refine zv rfl _ _ _ rfl rfl _ _ rfl rfl _ _ nz zD rfl (by kernel_rfl) fun wz uo yS=>?_
    have rt:=jgQ;go_wp2_with fail
    refine zp rfl rfl uo rfl rfl zD rfl ?_
    exact⟨ze,ze,_,4,rfl,⟨⟨none,0,none,0⟩,⟨none,0,none,0⟩,_,rfl,rt,IsItem.plain _ 0 0 (by omega) (by omega),IsItem.plain _ 0 0 (by omega) (by omega)⟩,(fun h=>by cases h),xK,xK,fun h1 h2 h3 h4=>by obtain⟨k,hk,rfl⟩:=h4;exact absurd WU.out (by rw[HX.out.2 h1 h2 h3,h2,XB hk];simp)⟩
   | true =>
   rw[ru]at V2;have WU:=Hh ru;clear ru;go_wp2_with fail
   refine V2.out.mono ?_
   rintro e w14 ⟨rfl,ux⟩
   have nz:=qx.below ux;have wQ:=rR.below_ ux;have mW:=rj.below ux;clear rj qx rR ux V2 k0 k1 k2 k3 k4 k5 k6 k7;have k0:=mW.cell 0 rfl;have k1:=mW.cell 1 rfl;have k2:=mW.cell 2 rfl;have k3:=mW.cell 3 rfl;have k4:=mW.cell 4 rfl;have k5:=mW.cell 5 rfl;have k6:=mW.cell 6 rfl;have k7:=mW.cell 7 rfl;go_wp2_with (with_reducible refine zx ?_)
   refine zv rfl _ _ _ rfl rfl _ _ rfl rfl _ _ nz zD rfl (by kernel_rfl) fun wz uo yS=>?_
   have rt:=jgQ;go_wp2_with fail
   refine zp rfl rfl uo rfl rfl zD rfl ?_
   have vv:=yY WU.out
   exact⟨x,u,_,0,rfl,⟨ax,b2',H8,rfl,rt,Ea,(hu4.mono fP)⟩,fun _=>⟨WU.out,HXP.out,by omega,by have hm:=HM.out.1 (by trivial);rw[hm]at Ei;exact⟨fun q=>by rw[← Ei.out.1 q];exact Nb,by have:=Ei.out.2;show _=_+_+cnt (zS n)+cnt v;omega⟩⟩,yU vv.1,yU vv.2.1,fun _ _ _ _=>rfl⟩
  | false =>
  have HXP:=Hh (show szL x≤szL u+9+(zZ v).length by have h1:=HX.out.1;rw[HM.out.2 rfl]at h1;exact h1);have m0:=hM.cell 0 rfl;have m1:=hM.cell 1 rfl;have m2:=hM.cell 2 rfl;have m3:=hM.cell 3 rfl;go_wp2_with (with_reducible refine zx ?_)
  refine xT rfl _ _ _ rfl rfl w4.heap.size 4 _ rfl rfl _ _ hC zu (by simp) (tR _ _ _ _ rfl rfl rfl rfl) fun w13 rj hg13=>?_
  have rj:Blk w13 w4.heap.size 28 (zA p a2 x ax):=rj;have qx:=hT.gr hg13 (by omega);have rR:=hG.grownOwn vB (by omega) hg13;have V2:=Hh (nU (hTab.mono rR.le) (ae.mono fP) Ea w13 rR.holds);have k0:=rj.cell 0 rfl;have k1:=rj.cell 1 rfl;have k2:=rj.cell 2 rfl;have k3:=rj.cell 3 rfl;have k4:=rj.cell 4 rfl;have k5:=rj.cell 5 rfl;have k6:=rj.cell 6 rfl;have k7:=rj.cell 7 rfl;clear hC hT hG hM m0 m1 m2 m3 hg13
  cases ru:zL p x with
  | false =>
   rw[ru]at V2;have WU:=Hh ru;clear ru;go_wp2_with fail
   refine V2.out.mono ?_
   rintro e w14 ⟨rfl,ux⟩
   have nz:=qx.below ux;have wQ:=rR.below_ ux;clear rj qx rR ux V2 k0 k1 k2 k3 k4 k5 k6 k7;go_wp2_with (with_reducible refine zx ?_)
   refine zv rfl _ _ _ rfl rfl _ _ rfl rfl _ _ nz zD rfl (by kernel_rfl) fun wz uo yS=>?_
   have rt:=jgQ;go_wp2_with fail
   refine zp rfl rfl uo rfl rfl zD rfl ?_
   exact⟨ze,ze,_,4,rfl,⟨⟨none,0,none,0⟩,⟨none,0,none,0⟩,_,rfl,rt,IsItem.plain _ 0 0 (by omega) (by omega),IsItem.plain _ 0 0 (by omega) (by omega)⟩,(fun h=>by cases h),xK,xK,fun h1 h2 h3 h4=>by obtain⟨k,hk,rfl⟩:=h4;exact absurd WU.out (by rw[HX.out.2 h1 h2 h3,h1,XC hk];simp)⟩
  | true =>
  rw[ru]at V2;have WU:=Hh ru;clear ru;go_wp2_with fail
  refine V2.out.mono ?_
  rintro e w14 ⟨rfl,ux⟩
  have nz:=qx.below ux;have wQ:=rR.below_ ux;have mW:=rj.below ux;clear rj qx rR ux V2 k0 k1 k2 k3 k4 k5 k6 k7;have k0:=mW.cell 0 rfl;have k1:=mW.cell 1 rfl;have k2:=mW.cell 2 rfl;have k3:=mW.cell 3 rfl;have k4:=mW.cell 4 rfl;have k5:=mW.cell 5 rfl;have k6:=mW.cell 6 rfl;have k7:=mW.cell 7 rfl;go_wp2_with (with_reducible refine zx ?_)
  refine zv rfl _ _ _ rfl rfl _ _ rfl rfl _ _ nz zD rfl (by kernel_rfl) fun wz uo yS=>?_
  have rt:=jgQ;go_wp2_with fail
  refine zp rfl rfl uo rfl rfl zD rfl ?_
  have vv:=yY WU.out
  exact⟨p,x,_,0,rfl,⟨a2,ax,H8,rfl,rt,(ae.mono fP),Ea⟩,fun _=>⟨WU.out,by omega,HXP.out,by have hm:=HM.out.2 (by trivial);rw[hm]at Ei;exact⟨fun q=>by rw[← Ei.out.1 q],by have:=Ei.out.2;show _=_+_+cnt (zS n)+cnt v;omega⟩⟩,yU vv.1,yU vv.2.1,fun _ _ _ _=>rfl⟩
 have b1:(c != 0)=true:=by simp[hc]
 have p1:(c=0)=False:=eq_false hc;have aW:=Hh Wm;clear hc Wm hxz;go_wp2_with (with_reducible refine zx ?_)
 refine zv rfl _ _ _ rfl rfl _ _ rfl rfl _ _ hT zD rfl (by kernel_rfl) fun wz uo yS=>?_
 have rt:=jgP;go_wp2_with fail
 refine zp rfl rfl uo rfl rfl zD rfl ?_
 exact⟨ze,ze,_,4,rfl,⟨⟨none,0,none,0⟩,⟨none,0,none,0⟩,_,rfl,rt,IsItem.plain _ 0 0 (by omega) (by omega),IsItem.plain _ 0 0 (by omega) (by omega)⟩,(fun h=>by cases h),xK,xK,fun h1 h2 h3 h4=>by obtain⟨k,hk,rfl⟩:=h4;have he:=HPE.out h1 h2 h3;exact(aW.out ⟨by rw[he];rfl,by rw[he];intro y hy;simp at hy;rcases hy with rfl | rfl;exact(by have:=vH 1;rw[vM]at this;exact this);exact(by have:=vH k;rw[vM]at this;exact this),by rw[he];exact ln k⟩).elim⟩
end Go.Proofs.YtliomcphdnppnaaGreatDoor
