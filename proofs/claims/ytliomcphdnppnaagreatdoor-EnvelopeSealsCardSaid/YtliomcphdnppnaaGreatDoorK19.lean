/- squeezed. Walks: the references' Put. Walks: -/
import Derived.Test.YtliomcphdnppnaaGreatDoorK18
import Derived.Test.YtliomcphdnppnaaGreatDoorK15
set_option linter.unusedVariables false
set_option linter.unusedSimpArgs false
set_option maxRecDepth 100000
set_option maxHeartbeats 12800000
namespace Go.Proofs.YtliomcphdnppnaaGreatDoor
open Go.RowKit
def ll (p u p' u':Itm) (r:Itm×Itm):Prop:=(∀ q,(q∈ze p.items∨q∈ze u.items∨q=r)↔(q∈ze p'.items∨q∈ze u'.items))∧yQ p'.items+yQ u'.items=yQ p.items+yQ u.items+cnt r.1+cnt r.2
theorem X7 {a b c:Prop}:(a∨b∨c)↔((a∨c)∨b):=by
 constructor
 ·rintro(h | h | h)
  ·exact .inl (.inl h)
  ·exact .inr h
  exact .inl (.inr h)
 rintro((h | h) | h)
 ·exact .inl h
 ·exact .inr (.inr h)
 exact .inr (.inl h)
theorem ks {p:Itm}(h:zX p=true) (h5:p.kind=5):p.items.length%2=0:=by
 have hg:=((yp p).1 h).1;have hf:=xk (eu hg (by omega))
 exact hf.2.2.2.2.2.2 h5
def Tr (w:World) (H:Snap) (p u:Itm) (n:Int) (v:Itm) (e:Ending) (w':World):Prop :=
 ∃ p' u' val c,e=.returned (.tuple #[val,.int .i64 c])∧cw w H p' u' val w'∧(c=0→zV p' u'=true∧szL p'≤szL p+9+(zh v).length∧szL u'≤szL u+9+(zh v).length∧ll p u p' u' (zg n,v))∧Modest p'∧Modest u'∧
  (p=zF→u=zF→n=1→fM v→c=0)
theorem IsRowI.two {H:Snap}{A:Option Addr}{c:Nat}{l:List Itm}(zC:l.length≤c) (hm:c≤9223372036854775807) (he:0<l.length→∃ b off,A=some ⟨b,off,none⟩∧IsElems H b off l):IsRowI H A c l:=⟨zC,hm,he⟩
def NR (ps:List Itm) (c:Int) (x:Itm):Prop :=
 (c=0∧∃ l,x=.mk 5 0 [] l∧zX x=true∧(zM l).length=(zM ps).length∧(ps.length=2→l=ps)∧PQ l ps)∨
 (c≠0∧x=zm∧¬ (ps.length=2∧(∀ x∈ps,zX x=true)∧zX (.mk 5 0 [] ps)=true))
theorem BuildSaid3.one {w w':World}{H:Snap}{ps:List Itm}{e:Ending}(h:BuildSaid3 w H ps e w'):∃ v c x,e=.returned (.tuple #[v,.int .i64 c])∧Gives w H x v w'∧NR ps c x:=by
 obtain⟨v,⟨l,h1,h2,h3,h4,h5,h6⟩ | ⟨c,h1,h2,h3,h4⟩⟩:=h
 ·exact⟨v,0,_,h1,h2,.inl ⟨rfl,l,rfl,h3,h4,fun hl=>h5 (aX hl),h6⟩⟩
 exact⟨v,c,_,h1,h3,.inr ⟨h2,rfl,fun⟨a,b,d⟩=>h4 ⟨by omega,aX a,b,d⟩⟩⟩
theorem IsRowI.src {H:Snap}{A:Option Addr}{c:Nat}{l:List Itm}(h:IsRowI H A c l):∃ cs,ItemsC H cs l∧Row H A cs:=by
 by_cases h0:0<l.length
 ·obtain⟨b,off,rfl,he⟩:=h.elems h0;obtain⟨cs,hc,hx⟩:=he.cells
  exact⟨cs,hc,fun _=>⟨b,off,rfl,hx⟩⟩
 have hl:l=[]:=List.length_eq_zero_iff.1 (by omega);subst hl
 exact⟨[],ItemsC.nil H,Row.nil _ _⟩
theorem UL {w wr:World}{H Hr:Snap}(hG:Grows w H wr Hr) {r:Option Nat}(h:At0 wr (Value.slice none 0 0).ownBlock r):∀ q,r=some q→Hr q=none:=fun q hq=>by
 rcases h with h | ⟨g,h1,h2⟩
 ·rw[h]at hq;simp[Value.ownBlock]at hq
 rw[hq]at h1;injection h1 with h1;subst h1;exact hG.hidden h2
theorem X9 {w wr:World}{H Hr:Snap}(hG:Grows w H wr Hr) {r0 r:Option Nat}(h0:∀ q,r0=some q→Hr q=none) (h:At0 wr r0 r):∀ q,r=some q→Hr q=none:=fun q hq=>by
 rcases h with h | ⟨g,h1,h2⟩
 ·exact h0 q (by rw[← h,hq])
 rw[hq]at h1;injection h1 with h1;subst h1;exact hG.hidden h2
theorem tA {H H':Snap}{A:Option Addr}(hf:∀ b o,H' b=some o→H b=some o∨A.map (·.block)=some b) {q:Nat}(h0:H q=none) (hA:A.map (·.block)=some q→False):H' q=none:=by
 cases h:H' q with
 | none=>rfl
 | some o =>
 rcases hf q o h with h1 | h1
 ·rw[h0]at h1;cases h1
 exact(hA h1).elim
theorem Uj (m:Itm) (n:Int) (v:Itm) {l:List Itm}(h:(zM l).length=(zM (m.items++[zg n,v])).length):szL (.mk 5 0 [] l)≤szL m+9+(zh v).length:=by
 have:=tV n;rw[szL,szL]
 simp only[Itm.items,h,uR,zM,List.length_append,List.append_nil]
 omega
theorem vY {H:Snap}(hTab:Tabs H) {p u v:Itm}{a b d:Ad}(hp:IsItem H a.ba a.bc a.ia a.ic p) (hu:IsItem H b.ba b.bc b.ia b.ic u) (hv:IsItem H d.ba d.bc d.ia d.ic v) (prot:Bool) (n:Int) (uY : -9223372036854775808≤n) (uB:n≤9223372036854775807) (w:World) (hH:Holds w H) :
  Calls Tryz.prog 41 #[.agg (zY p a u b),.bool prot,.int .i64 n,xq v d.ba d.bc d.ia d.ic] w (Tr w H p u n v):=by
 have hB:=((Blk.new w 28 (zY p a u b)).alloc (zi v d.ba d.bc d.ia d.ic)).alloc xN;have hV:=(Blk.new (w.alloc (.cells (zY p a u b) 28)) 26 #[.int .i64 v.kind,.int .u64 v.n,.slice d.ba v.bytes.length d.bc,.slice d.ia v.items.length d.ic]).alloc xN;have hT:=Blk.new ((w.alloc (.cells (zY p a u b) 28)).alloc (zi v d.ba d.bc d.ia d.ic)) 28 (zY zm ⟨none,0,none,0⟩ zm ⟨none,0,none,0⟩)
 simp only[zu]at hV hT
 have hG:=(((Grows.refl hH).alloc (.cells (zY p a u b) 28)).alloc (zi v d.ba d.bc d.ia d.ic)).alloc xN;have yP:H (w.heap.size+1+1)=none:=hH.none_of_ge (by omega);have VH:=Hh (vj hTab hp hu _ hG.holds);have HN:=Hh (And.intro uY uB);clear uY uB
 cases hvh:zV p u with
 | false =>
  rw[hvh]at VH;have HV:=Hh hvh;clear hvh;go_enter Tryz.func41,Tryz.ntmps41
  go_wp2_with fail
  refine VH.out.mono ?_
  rintro e w1 ⟨rfl,zH⟩
  have hT:=hT.below zH;have hG:=hG.below_ zH;clear VH hB hV zH;go_wp2_with (with_reducible refine zx ?_)
  refine zt rfl _ _ _ rfl rfl _ _ rfl rfl _ _ hT zS rfl (by kernel_rfl) fun wz vg wm=>?_
  have uX:=hG.grownOwn yP (by omega) wm;go_wp2_with fail
  refine zf rfl rfl vg rfl rfl zS rfl ?_
  exact⟨zm,zm,_,1,rfl,⟨⟨none,0,none,0⟩,⟨none,0,none,0⟩,H,rfl,uX,IsItem.plain _ 0 0 (by omega) (by omega),IsItem.plain _ 0 0 (by omega) (by omega)⟩,(fun h=>by cases h),yB,yB,fun h1 h2 h3 h4=>by subst h1;subst h2;have:=HV.out;rw[pf]at this;cases this⟩
 | true =>
 rw[hvh]at VH;have HV:=Hh hvh;clear hvh;go_enter Tryz.func41,Tryz.ntmps41
 go_wp2_with fail
 refine VH.out.mono ?_
 rintro e w1 ⟨rfl,zH⟩
 have hB:=hB.below zH;have hV:=hV.below zH;have hT:=hT.below zH;have hG:=hG.below_ zH;have VV:=Hh (tm hTab hv.arg w1 hG.holds);have v0:=hV.cell 0 rfl;have v1:=hV.cell 1 rfl;have v2:=hV.cell 2 rfl;have v3:=hV.cell 3 rfl
 cases hvv:zX v with
 | false =>
  rw[hvv]at VV;have WE:=Hh hvv;clear hvv;go_wp2_with fail
  refine VV.out.mono ?_
  rintro e w2 ⟨rfl,zG⟩
  have hT:=hT.below zG;have hG:=hG.below_ zG;clear VH VV hB hV zG zH v0 v1 v2 v3;go_wp2_with (with_reducible refine zx ?_)
  refine zt rfl _ _ _ rfl rfl _ _ rfl rfl _ _ hT zS rfl (by kernel_rfl) fun wz vg wm=>?_
  have uX:=hG.grownOwn yP (by omega) wm;go_wp2_with fail
  refine zf rfl rfl vg rfl rfl zS rfl ?_
  exact⟨zm,zm,_,1,rfl,⟨⟨none,0,none,0⟩,⟨none,0,none,0⟩,H,rfl,uX,IsItem.plain _ 0 0 (by omega) (by omega),IsItem.plain _ 0 0 (by omega) (by omega)⟩,(fun h=>by cases h),yB,yB,fun h1 h2 h3 h4=>by obtain⟨k,_,rfl⟩:=h4;have:=WE.out;rw[← vb,wQ]at this;cases this⟩
 | true =>
 rw[hvv]at VV;have WE:=Hh hvv;clear hvv;go_wp2_with fail
 refine VV.out.mono ?_
 rintro e w2 ⟨rfl,zG⟩
 have hB:=hB.below zG;have hV:=hV.below zG;have hT:=hT.below zG;have hG:=hG.below_ zG;have vv:=yZ HV.out;have m9:=zE vv.1;have i6:=zE vv.2.1;have WC:=Hh vv;have FD:=Hh (lD m9 i6 hp hu n HN.out.1 HN.out.2 w2 hG.holds);have Px:=Hh (And.intro m9 i6);have b0:=hB.cell 0 rfl;have b1:=hB.cell 1 rfl;have b2:=hB.cell 2 rfl;have b3:=hB.cell 3 rfl;have b4:=hB.cell 4 rfl;have b5:=hB.cell 5 rfl;have b6:=hB.cell 6 rfl;have b7:=hB.cell 7 rfl;clear v0 v1 v2 v3 zH zG vv m9 i6 VH VV;go_wp2_with fail
 refine FD.out.mono ?_
 rintro e w3 ⟨v3,rfl,ka,kb,kc,kd,H3,rfl,ye,rp⟩
 have hB:=hB.below ye.below;have hV:=hV.below ye.below;have yP:=ye.none yP hT.lt;have hT:=hT.below ye.below;have hG:=hG.trans ye;have E8:=ye.le;clear b0 b1 b2 b3 b4 b5 b6 b7 FD ye;obtain⟨FX,Kh⟩:∃ FX,(xQ p u n).getD zm=FX:=⟨_,rfl⟩
 rw[Kh]at rp⊢;have Hb:=hV.alloc (zi FX ka kb kc kd);have hB:=hB.alloc (zi FX ka kb kc kd);have hT:=hT.alloc (zi FX ka kb kc kd);have hG:=hG.alloc (zi FX ka kb kc kd);have hV:=Hb;have GT:=Hh Kh;clear Kh Hb rp
 cases hfd:(xQ p u n).isSome with
 | true =>
  have HF:=Hh hfd;clear hfd;go_upto_region 5 with fail
  go_wp2_with (with_reducible refine zx ?_)
  refine zt rfl _ _ _ rfl rfl _ _ rfl rfl _ _ hT zS rfl (by kernel_rfl) fun wz vg wm=>?_
  have uX:=hG.grownOwn yP (by omega) wm;go_wp2_with fail
  refine zf rfl rfl vg rfl rfl zS rfl ?_
  exact⟨zm,zm,_,7,rfl,⟨⟨none,0,none,0⟩,⟨none,0,none,0⟩,_,rfl,uX,IsItem.plain _ 0 0 (by omega) (by omega),IsItem.plain _ 0 0 (by omega) (by omega)⟩,(fun h=>by cases h),yB,yB,fun h1 h2 h3 h4=>by subst h1;subst h2;have:=HF.out;rw[bZ]at this;cases this⟩
 | false =>
 have HF:=Hh hfd;clear hfd;have b0:=hB.cell 0 rfl;have b1:=hB.cell 1 rfl;have b2:=hB.cell 2 rfl;have b3:=hB.cell 3 rfl;have b4:=hB.cell 4 rfl;have b5:=hB.cell 5 rfl;have b6:=hB.cell 6 rfl;have b7:=hB.cell 7 rfl;have C:=Hh (kN Px.out.1 Px.out.2 (hp.mono hG.le) (hu.mono hG.le) _ hG.holds);go_wp2_with fail
 refine C.out.mono ?_
 rintro e w4 ⟨v4,rfl,a2,b2',H4,rfl,yJ,Vr,Lc⟩
 have hV:=hV.below yJ.below;have yP:=yJ.none yP hT.lt;have hT:=hT.below yJ.below;have hG:=hG.trans yJ;have Su:=hv.mono hG.le;clear b0 b1 b2 b3 b4 b5 b6 b7 C yJ hB;have hC:=(Blk.new w4 28 (zY p a2 u b2')).alloc (zi u b2'.ba b2'.bc b2'.ia b2'.ic);have hM:=Blk.new (w4.alloc (.cells (zY p a2 u b2') 28)) 26 #[.int .i64 u.kind,.int .u64 u.n,.slice b2'.ba u.bytes.length b2'.bc,.slice b2'.ia u.items.length b2'.ic]
 simp only[zu]at hM
 have lz:=hT.lt;have wM:H4 w4.heap.size=none:=hG.holds.none_of_ge (Nat.le_refl _);have WR:H4 (w4.heap.size+1)=none:=hG.holds.none_of_ge (by omega);have hV:=(hV.alloc (.cells (zY p a2 u b2') 28)).alloc (zi u b2'.ba b2'.bc b2'.ia b2'.ic);have hT:=(hT.alloc (.cells (zY p a2 u b2') 28)).alloc (zi u b2'.ba b2'.bc b2'.ia b2'.ic);have hG:=(hG.alloc (.cells (zY p a2 u b2') 28)).alloc (zi u b2'.ba b2'.bc b2'.ia b2'.ic);go_upto_if 36 with fail
 go_cut [36] (fun s36 wx=>∃ (mI:Itm) (am:Ad),(prot=true→mI=p)∧(prot=false→mI=u)∧IsItem H4 am.ba am.bc am.ia am.ic mI∧Blk wx (w4.heap.size+1) 26 #[.int .i64 mI.kind,.int .u64 mI.n,.slice am.ba mI.bytes.length am.bc,.slice am.ia mI.items.length am.ic]∧Blk wx w4.heap.size 28 (zY p a2 u b2')∧
  Blk wx (w.heap.size+1) 26 #[.int .i64 v.kind,.int .u64 v.n,.slice d.ba v.bytes.length d.bc,.slice d.ia v.items.length d.ic]∧Blk wx (w.heap.size+1+1) 28 (zY zm ⟨none,0,none,0⟩ zm ⟨none,0,none,0⟩)∧Grows w H wx H4)
 case first =>
  cases prot with
  | true =>
   go_upto_region 9 with fail
   have c0:=hC.cell 0 rfl;have c1:=hC.cell 1 rfl;have c2:=hC.cell 2 rfl;have c3:=hC.cell 3 rfl;go_wp2_with (with_reducible refine zx ?_)
   refine stI hM fun w7 hM7 xj=>?_
   have Va:=hC.gr xj (by omega);have Ku:=hV.gr xj (by omega);have bN:=hT.gr xj (by omega);have wF:=hG.grownOwn WR (by omega) xj;go_wp2_with fail
   go_meet
   exact⟨p,a2,(fun _=>rfl),(fun h=>by cases h),Vr,hM7,Va,Ku,bN,wF⟩
  | false =>
  go_wp2_with fail
  go_meet
  exact⟨u,b2',(fun h=>by cases h),(fun _=>rfl),Lc,hM,hC,hV,hT,hG⟩
 case rest =>
 clear hC hM hV hT hG;obtain⟨mI,am,pJ,dq,dr,hM,hC,hV,hT,hG⟩:=hcut;have HM:=Hh (And.intro pJ dq)
 have ED:mI.items.length≤256:=by
  have h1:=(wR WC.out.1).2.1;have h2:=(wR WC.out.2.1).2.1
  cases prot
  ·rw[dq rfl];exact h2
  rw[pJ rfl];exact h1
 clear pJ dq;have hr:=dr.row;obtain⟨PS,Ks⟩:∃ PS,mI.items++[zg n,v]=PS:=⟨_,rfl⟩
 have Ns:PS.length=mI.items.length+2:=by rw[← Ks];simp
 have VS:=Hh (And.intro Ks Ns);clear Ks Ns;have hM:=hM.drew;have hC:=hC.drew;have hV:=hV.drew;have hT:=hT.drew;have hG:=hG.drew;go_upto_region 10 with fail
 go_cut [14] (fun s14 wx=>∃ (c:Int) (x:Itm) (ax:Ad) (H8:Snap),s14=.int .i64 c∧NR PS c x∧IsItem H8 ax.ba ax.bc ax.ia ax.ic x∧H4.le H8∧H8 (w.heap.size+1+1)=none∧H8 w4.heap.size=none∧H8 (w4.heap.size+1)=none∧
  Blk wx (w4.heap.size+1) 26 #[.int .i64 x.kind,.int .u64 x.n,.slice ax.ba x.bytes.length ax.bc,.slice ax.ia x.items.length ax.ic]∧Blk wx w4.heap.size 28 (zY p a2 u b2')∧
  Blk wx (w.heap.size+1+1) 28 (zY zm ⟨none,0,none,0⟩ zm ⟨none,0,none,0⟩)∧Grows w H wx H8)
 case first =>
  have zC:=Snap.le.refl H4
  refine zw 13 (fun w'=>w'.cell? ⟨w.heap.size+1,0,none⟩=some (.int .i64 v.kind)∧w'.cell? ⟨w.heap.size+1,1,none⟩=some (.int .u64 v.n)∧w'.cell? ⟨w.heap.size+1,2,none⟩=some (.slice d.ba v.bytes.length d.bc)∧w'.cell? ⟨w.heap.size+1,3,none⟩=some (.slice d.ia v.items.length d.ic)) (by kernel_rfl) (⟨hV.cell 0 rfl,hV.cell 1 rfl,hV.cell 2 rfl,hV.cell 3 rfl⟩) (fun zy=>?_)
  refine Tk 0 rfl zy ?_
  refine Tk 3 rfl zy ?_
  refine Tk 5 rfl zy ?_
  refine To 1 rfl fun K hK=>?_
  have m3:=hM.cell 3 rfl;go_simp
  refine Ko hK ?_ fun zy=>?_
  ·exact⟨hV.cell 0 rfl,hV.cell 1 rfl,hV.cell 2 rfl,hV.cell 3 rfl⟩
  clear hK K
  refine To 2 rfl fun K hK=>?_
  rw[if_pos (by rfl)];obtain⟨cs,uE,GB⟩:=hr.src
  refine ws (.const (.slice none 0 0)) (.tmp 41) rfl (w4.heap.size+2) (.slice none 0 0) _ [] rfl (OwnI.nil _ _ _) _ _ _ cs mI.items rfl rfl uE (Src.of_row GB hG.holds) (by simp;omega) (by have:=hM.lt;omega) fun v5 w5 hX hg hat=>?_
  rw[List.nil_append]at hX;have qY:=yo (by simpa [Value.ownBlock] using hg);have Mk:=UL hG hat;have hM:=hM.below qY;have hC:=hC.below qY;have hV:=hV.below qY;have hT:=hT.below qY;have hG:=hG.below_ qY
  try have YX:=YX.below qY
  refine Ko hK ?_ fun zy=>?_
  ·exact⟨hV.cell 0 rfl,hV.cell 1 rfl,hV.cell 2 rfl,hV.cell 3 rfl⟩
  clear hK K
  refine To 4 rfl fun K hK=>?_
  go_simp
  refine(ui n HN.out.1 HN.out.2 _ hG.holds).mono ?_
  rintro e w6 ⟨v6,rfl,ja,jb,jc,jd,H6,rfl,xH,jg⟩
  have hr:=hr.mono xH.le
  try have Mk:=fun q hq=>xH.none (Mk q hq) (hX.lt q hq).2
  try have hX:=(hX.below xH.below).mono xH.le
  have Su:=Su.mono xH.le;have yP:=xH.none yP hT.lt;have wM:=xH.none wM hC.lt;have WR:=xH.none WR hM.lt;have hM:=hM.below xH.below;have hC:=hC.below xH.below;have hV:=hV.below xH.below;have hT:=hT.below xH.below;have zC:=zC.trans xH.le;have hG:=hG.trans xH
  refine Ko hK ?_ fun zy=>?_
  ·exact⟨hV.cell 0 rfl,hV.cell 1 rfl,hV.cell 2 rfl,hV.cell 3 rfl⟩
  clear hK K
  refine To 6 rfl fun K hK=>?_
  go_simp
  have YX:=n7 hG.below 26 #[.int .i64 (zg n).kind,.int .u64 (zg n).n,.slice ja (zg n).bytes.length jb,.slice jc (zg n).items.length jd,.int .i64 v.kind,.int .u64 v.n,.slice d.ba v.bytes.length d.bc,.slice d.ia v.items.length d.ic]
  try have hX:=hX.alloc (.cells #[.int .i64 (zg n).kind,.int .u64 (zg n).n,.slice ja (zg n).bytes.length jb,.slice jc (zg n).items.length jd,.int .i64 v.kind,.int .u64 v.n,.slice d.ba v.bytes.length d.bc,.slice d.ia v.items.length d.ic] 26)
  have hM:=hM.alloc (.cells #[.int .i64 (zg n).kind,.int .u64 (zg n).n,.slice ja (zg n).bytes.length jb,.slice jc (zg n).items.length jd,.int .i64 v.kind,.int .u64 v.n,.slice d.ba v.bytes.length d.bc,.slice d.ia v.items.length d.ic] 26);have hC:=hC.alloc (.cells #[.int .i64 (zg n).kind,.int .u64 (zg n).n,.slice ja (zg n).bytes.length jb,.slice jc (zg n).items.length jd,.int .i64 v.kind,.int .u64 v.n,.slice d.ba v.bytes.length d.bc,.slice d.ia v.items.length d.ic] 26);have hV:=hV.alloc (.cells #[.int .i64 (zg n).kind,.int .u64 (zg n).n,.slice ja (zg n).bytes.length jb,.slice jc (zg n).items.length jd,.int .i64 v.kind,.int .u64 v.n,.slice d.ba v.bytes.length d.bc,.slice d.ia v.items.length d.ic] 26);have hT:=hT.alloc (.cells #[.int .i64 (zg n).kind,.int .u64 (zg n).n,.slice ja (zg n).bytes.length jb,.slice jc (zg n).items.length jd,.int .i64 v.kind,.int .u64 v.n,.slice d.ba v.bytes.length d.bc,.slice d.ia v.items.length d.ic] 26)
  have hG:=hG.alloc (.cells #[.int .i64 (zg n).kind,.int .u64 (zg n).n,.slice ja (zg n).bytes.length jb,.slice jc (zg n).items.length jd,.int .i64 v.kind,.int .u64 v.n,.slice d.ba v.bytes.length d.bc,.slice d.ia v.items.length d.ic] 26)
  refine Ko hK ?_ fun zy=>?_
  ·exact⟨hV.cell 0 rfl,hV.cell 1 rfl,hV.cell 2 rfl,hV.cell 3 rfl⟩
  clear hK K
  refine To 7 rfl fun K hK=>?_
  rw[if_pos (by rfl)]
  refine ws (.tmp 42) (.tmp 46) rfl (w4.heap.size+2) _ _ mI.items rfl hX _ _ _ (zZ (zg n) ja jb jc jd++zZ v d.ba d.bc d.ia d.ic) [zg n,v] rfl rfl ((ItemsC.one jg).app (ItemsC.one Su)) YX (by simp;omega) (by have:=hM.lt;omega) fun v7 w7 jS xj hat7=>?_
  rw[VS.out.1]at jS;obtain⟨XA,xc,rfl,_⟩:=jS.form;have lh:=X9 hG Mk hat7;have hM:=hM.grown xj (fun e=>by have:=(hX.lt _ e).1;omega);have hC:=hC.grown xj (fun e=>by have:=(hX.lt _ e).1;omega);have hV:=hV.grown xj (fun e=>by have:=(hX.lt _ e).1;omega);have hT:=hT.grown xj (fun e=>by have:=(hX.lt _ e).1;omega);have hG:=hG.grownRow Mk (fun q hq=>by have:=(hX.lt q hq).1;omega) xj;obtain⟨H7,Ta,Fl,Yc,Dk,tD,sv,JV⟩:=jS.snap hG.holds (fun q hq=>lh q (qy hq));have rE:∀ q,XA.map (·.block)=some q→w4.heap.size+2≤q:=fun q hq=>(jS.lt q (qy hq)).1
  have ot:=fun q (hq:q<w4.heap.size+2) h0=>tA Yc (q:=q) h0 (fun e=>by have:=rE q e;omega)
  have hG:Grows w H w7 H7:=⟨hG.below,hG.le.trans Ta,Fl,fun b o hb=>(Yc b o hb).elim (hG.fresh b o) (fun e=>.inr (by have:=rE b e;omega))⟩
  have yP:=ot _ (by omega) yP;have wM:=ot _ (by omega) wM;have WR:=ot _ (by omega) WR;have zC:=zC.trans Ta
  refine Ko hK ?_ fun zy=>?_
  ·exact⟨hV.cell 0 rfl,hV.cell 1 rfl,hV.cell 2 rfl,hV.cell 3 rfl⟩
  clear hK K
  refine To 8 rfl fun K hK=>?_
  go_simp
  refine(kO (hTab.mono hG.le) (IsRowI.two tD sv JV) (by have:=VS.out.2;omega) w7 hG.holds).mono ?_
  intro e w9 mu
  obtain⟨v9,c,x,rfl,⟨xa,xb,xc',xd,H9,rfl,sO,Fm⟩,PV⟩:=mu.one;have yP:=sO.none yP hT.lt;have wM:=sO.none wM hC.lt;have WR:=sO.none WR hM.lt;have hM:=hM.below sO.below;have hC:=hC.below sO.below;have hV:=hV.below sO.below;have hT:=hT.below sO.below;have zC:=zC.trans sO.le;have hG:=hG.trans sO
  refine Ko hK ?_ fun zy=>?_
  ·exact⟨hV.cell 0 rfl,hV.cell 1 rfl,hV.cell 2 rfl,hV.cell 3 rfl⟩
  clear hK K
  refine Tk 9 rfl zy ?_
  refine Tk 10 rfl zy ?_
  refine Tk 11 rfl zy ?_
  refine To 12 rfl fun K hK=>?_
  rw[if_pos (by rfl)]
  refine zk _ _ _ rfl _ _ rfl rfl _ _ hM zp rfl (uf _ _ _ _ rfl rfl rfl rfl) fun w12 hM hg12=>?_
  have hC:=hC.gr hg12 (by omega);have hV:=hV.gr hg12 (by omega);have hT:=hT.gr hg12 (by omega);have hG:=hG.grownOwn WR (by omega) hg12
  refine Ko hK ?_ fun zy=>?_
  ·exact⟨hV.cell 0 rfl,hV.cell 1 rfl,hV.cell 2 rfl,hV.cell 3 rfl⟩
  clear hK K
  refine To 13 rfl fun K hK=>?_
  go_simp
  refine Kz hK ?_
  clear hK K
  refine Wd ?_
  go_wp2_with fail
  go_meet
  exact⟨c,x,⟨xa,xb,xc',xd⟩,_,rfl,PV,Fm,zC,yP,wM,WR,hM,hC,hT,hG⟩
 case rest =>
 clear hM hC hV hT hG hr Su;obtain⟨c,x,ax,H8,rfl,PV,Pv,lX,yP,wM,WR,hM,hC,hT,hG⟩:=hcut
 have Eb:=Hh (show p=zF→u=zF→mI=zF from fun h1 h2=>by
  cases prot
  ·rw[HM.out.2 rfl,h2]
  rw[HM.out.1 rfl,h1])
 have Gd:=Hh (show p=zF→u=zF→n=1→PS=[.mk 0 1 [] [],v] from fun h1 h2 h3=>by
  rw[← VS.out.1,Eb.out h1 h2,h3,Qp];rfl)
 have S0:Hid (mI.items.length%2=0):=by
  cases prot
  ·rw[HM.out.2 rfl];exact ks WC.out.2.1 WC.out.2.2.2
  rw[HM.out.1 rfl];exact ks WC.out.1 WC.out.2.2.1
 rcases PV with ⟨rfl,l,dZ,hvx,mA,h2,hpq⟩ | ⟨hc,hxz,dU⟩
 ·have HX:=Hh (And.intro (show szL x≤szL mI+9+(zh v).length by rw[dZ];exact Uj mI n v (by rw[VS.out.1];exact mA)) (show p=zF→u=zF→n=1→x=.mk 5 0 [] [.mk 0 1 [] [],v] from fun h1 h2' h3=>by
   have he:=Gd.out h1 h2' h3;rw[dZ,h2 (by rw[he];rfl),he]))
  have Q0:Hid ((∀ q,(q∈ze mI.items∨q=(zg n,v))↔q∈ze x.items)∧yQ x.items=yQ mI.items+cnt (zg n)+cnt v):=⟨fun q=>by
   rw[dZ];show _↔q∈ze l
   rw[hpq.1 q,← VS.out.1,tk _ S0.out]
   simp[ze],by
   rw[dZ];show yQ l=_
   rw[hpq.2,← VS.out.1,tj]
   simp only[yQ]
   omega⟩
  clear dZ hvx mA h2 hpq
  cases prot with
  | true =>
   have KY:=Hh (show szL x≤szL p+9+(zh v).length by have h1:=HX.out.1;rw[HM.out.1 rfl]at h1;exact h1);have m0:=hM.cell 0 rfl;have m1:=hM.cell 1 rfl;have m2:=hM.cell 2 rfl;have m3:=hM.cell 3 rfl;go_wp2_with (with_reducible refine zx ?_)
   refine vw rfl _ _ _ rfl rfl w4.heap.size 0 _ rfl rfl _ _ hC zp (by simp) (uf _ _ _ _ rfl rfl rfl rfl) fun w13 ts hg13=>?_
   have ts:Blk w13 w4.heap.size 28 (zY x ax u b2'):=ts;have gg:=hT.gr hg13 (by omega);have sr:=hG.grownOwn wM (by omega) hg13;have V2:=Hh (vj (hTab.mono sr.le) Pv (Lc.mono lX) w13 sr.holds);have k0:=ts.cell 0 rfl;have k1:=ts.cell 1 rfl;have k2:=ts.cell 2 rfl;have k3:=ts.cell 3 rfl;have k4:=ts.cell 4 rfl;have k5:=ts.cell 5 rfl;have k6:=ts.cell 6 rfl;have k7:=ts.cell 7 rfl;clear hC hT hG hM m0 m1 m2 m3 hg13
   cases tG:zV x u with
   | false =>
    rw[tG]at V2;have Ym:=Hh tG;clear tG;go_wp2_with fail
    refine V2.out.mono ?_
    rintro e w14 ⟨rfl,qD⟩
    have dI:=gg.below qD;have mG:=sr.below_ qD;clear ts gg sr qD V2 k0 k1 k2 k3 k4 k5 k6 k7;go_wp2_with (with_reducible refine zx ?_)
    refine zt rfl _ _ _ rfl rfl _ _ rfl rfl _ _ dI zS rfl (by kernel_rfl) fun wz vg wm=>?_
    have uX:=mG.grownOwn yP (by omega) wm;go_wp2_with fail
    refine zf rfl rfl vg rfl rfl zS rfl ?_
    exact⟨zm,zm,_,4,rfl,⟨⟨none,0,none,0⟩,⟨none,0,none,0⟩,_,rfl,uX,IsItem.plain _ 0 0 (by omega) (by omega),IsItem.plain _ 0 0 (by omega) (by omega)⟩,(fun h=>by cases h),yB,yB,fun h1 h2 h3 h4=>by obtain⟨k,hk,rfl⟩:=h4;exact absurd Ym.out (by rw[HX.out.2 h1 h2 h3,h2,eB hk];simp)⟩
   | true =>
   rw[tG]at V2;have Ym:=Hh tG;clear tG;go_wp2_with fail
   refine V2.out.mono ?_
   rintro e w14 ⟨rfl,qD⟩
   have dI:=gg.below qD;have mG:=sr.below_ qD;have qB:=ts.below qD;clear ts gg sr qD V2 k0 k1 k2 k3 k4 k5 k6 k7;have k0:=qB.cell 0 rfl;have k1:=qB.cell 1 rfl;have k2:=qB.cell 2 rfl;have k3:=qB.cell 3 rfl;have k4:=qB.cell 4 rfl;have k5:=qB.cell 5 rfl;have k6:=qB.cell 6 rfl;have k7:=qB.cell 7 rfl;go_wp2_with (with_reducible refine zx ?_)
   refine zt rfl _ _ _ rfl rfl _ _ rfl rfl _ _ dI zS rfl (by kernel_rfl) fun wz vg wm=>?_
   have uX:=mG.grownOwn yP (by omega) wm;go_wp2_with fail
   refine zf rfl rfl vg rfl rfl zS rfl ?_
   have vv:=yZ Ym.out
   exact⟨x,u,_,0,rfl,⟨ax,b2',H8,rfl,uX,Pv,(Lc.mono lX)⟩,fun _=>⟨Ym.out,KY.out,by omega,by have hm:=HM.out.1 (by trivial);rw[hm]at Q0;exact⟨fun q=>by rw[← Q0.out.1 q];exact X7,by have:=Q0.out.2;show _=_+_+cnt (zg n)+cnt v;omega⟩⟩,zE vv.1,zE vv.2.1,fun _ _ _ _=>rfl⟩
  | false =>
  have KY:=Hh (show szL x≤szL u+9+(zh v).length by have h1:=HX.out.1;rw[HM.out.2 rfl]at h1;exact h1);have m0:=hM.cell 0 rfl;have m1:=hM.cell 1 rfl;have m2:=hM.cell 2 rfl;have m3:=hM.cell 3 rfl;go_wp2_with (with_reducible refine zx ?_)
  refine vw rfl _ _ _ rfl rfl w4.heap.size 4 _ rfl rfl _ _ hC zp (by simp) (uf _ _ _ _ rfl rfl rfl rfl) fun w13 ts hg13=>?_
  have ts:Blk w13 w4.heap.size 28 (zY p a2 x ax):=ts;have gg:=hT.gr hg13 (by omega);have sr:=hG.grownOwn wM (by omega) hg13;have V2:=Hh (vj (hTab.mono sr.le) (Vr.mono lX) Pv w13 sr.holds);have k0:=ts.cell 0 rfl;have k1:=ts.cell 1 rfl;have k2:=ts.cell 2 rfl;have k3:=ts.cell 3 rfl;have k4:=ts.cell 4 rfl;have k5:=ts.cell 5 rfl;have k6:=ts.cell 6 rfl;have k7:=ts.cell 7 rfl;clear hC hT hG hM m0 m1 m2 m3 hg13
  cases tG:zV p x with
  | false =>
   rw[tG]at V2;have Ym:=Hh tG;clear tG;go_wp2_with fail
   refine V2.out.mono ?_
   rintro e w14 ⟨rfl,qD⟩
   have dI:=gg.below qD;have mG:=sr.below_ qD;clear ts gg sr qD V2 k0 k1 k2 k3 k4 k5 k6 k7;go_wp2_with (with_reducible refine zx ?_)
   refine zt rfl _ _ _ rfl rfl _ _ rfl rfl _ _ dI zS rfl (by kernel_rfl) fun wz vg wm=>?_
   have uX:=mG.grownOwn yP (by omega) wm;go_wp2_with fail
   refine zf rfl rfl vg rfl rfl zS rfl ?_
   exact⟨zm,zm,_,4,rfl,⟨⟨none,0,none,0⟩,⟨none,0,none,0⟩,_,rfl,uX,IsItem.plain _ 0 0 (by omega) (by omega),IsItem.plain _ 0 0 (by omega) (by omega)⟩,(fun h=>by cases h),yB,yB,fun h1 h2 h3 h4=>by obtain⟨k,hk,rfl⟩:=h4;exact absurd Ym.out (by rw[HX.out.2 h1 h2 h3,h1,eC hk];simp)⟩
  | true =>
  rw[tG]at V2;have Ym:=Hh tG;clear tG;go_wp2_with fail
  refine V2.out.mono ?_
  rintro e w14 ⟨rfl,qD⟩
  have dI:=gg.below qD;have mG:=sr.below_ qD;have qB:=ts.below qD;clear ts gg sr qD V2 k0 k1 k2 k3 k4 k5 k6 k7;have k0:=qB.cell 0 rfl;have k1:=qB.cell 1 rfl;have k2:=qB.cell 2 rfl;have k3:=qB.cell 3 rfl;have k4:=qB.cell 4 rfl;have k5:=qB.cell 5 rfl;have k6:=qB.cell 6 rfl;have k7:=qB.cell 7 rfl;go_wp2_with (with_reducible refine zx ?_)
  refine zt rfl _ _ _ rfl rfl _ _ rfl rfl _ _ dI zS rfl (by kernel_rfl) fun wz vg wm=>?_
  have uX:=mG.grownOwn yP (by omega) wm;go_wp2_with fail
  refine zf rfl rfl vg rfl rfl zS rfl ?_
  have vv:=yZ Ym.out
  exact⟨p,x,_,0,rfl,⟨a2,ax,H8,rfl,uX,(Vr.mono lX),Pv⟩,fun _=>⟨Ym.out,by omega,KY.out,by have hm:=HM.out.2 (by trivial);rw[hm]at Q0;exact⟨fun q=>by rw[← Q0.out.1 q],by have:=Q0.out.2;show _=_+_+cnt (zg n)+cnt v;omega⟩⟩,zE vv.1,zE vv.2.1,fun _ _ _ _=>rfl⟩
 have b1:(c != 0)=true:=by simp[hc]
 have p1:(c=0)=False:=eq_false hc;have ow:=Hh dU;clear hc dU hxz;go_wp2_with (with_reducible refine zx ?_)
 refine zt rfl _ _ _ rfl rfl _ _ rfl rfl _ _ hT zS rfl (by kernel_rfl) fun wz vg wm=>?_
 have uX:=hG.grownOwn yP (by omega) wm;go_wp2_with fail
 refine zf rfl rfl vg rfl rfl zS rfl ?_
 exact⟨zm,zm,_,4,rfl,⟨⟨none,0,none,0⟩,⟨none,0,none,0⟩,_,rfl,uX,IsItem.plain _ 0 0 (by omega) (by omega),IsItem.plain _ 0 0 (by omega) (by omega)⟩,(fun h=>by cases h),yB,yB,fun h1 h2 h3 h4=>by obtain⟨k,hk,rfl⟩:=h4;have he:=Gd.out h1 h2 h3;exact(ow.out ⟨by rw[he];rfl,by rw[he];intro y hy;simp at hy;rcases hy with rfl | rfl;exact(by have:=wQ 1;rw[vb]at this;exact this);exact(by have:=wQ k;rw[vb]at this;exact this),by rw[he];exact pZ k⟩).elim⟩
theorem kh (op:BinOp) (a b:Int):∃ n:Nat,bits op .u64 a b=(n:Int)∧n<18446744073709551616:=by
 obtain⟨n,h1,h2⟩:=ul op a b;injection h1 with h1
 injection h1 with _ h1
 exact⟨n,h1,h2⟩
theorem eZ (op:BinOp) (a b:Int) (w:World):Calls Tryz.prog 118 #[.int .u64 (bits op .u64 a b),.int .i64 5,.int .i64 10] w (pN w):=by
 obtain⟨n,h1,h2⟩:=kh op a b;rw[h1]
 exact cX n h2 w
theorem ed (op:BinOp) (a b:Int) (w:World):Calls Tryz.prog 118 #[.int .u64 (bits op .u64 a b),.int .i64 8,.int .i64 23] w (pN w):=by
 obtain⟨n,h1,h2⟩:=kh op a b;rw[h1]
 exact cY n h2 w
theorem cC (op:BinOp) (a b:Int) (w:World):Calls Tryz.prog 119 #[.int .u64 (bits op .u64 a b)] w fun e w'=>(∃ bb:Bool,e=.returned (.bool bb))∧w=w':=by
 obtain⟨n,h1,h2⟩:=kh op a b;rw[h1]
 exact(nJ n h2 w).mono fun e w' h=>⟨⟨_,h.1⟩,h.2⟩
def Qb (w:World) (H:Snap) (g:Nat) (e:Ending) (w':World):Prop:=(∃ n:Nat,e=.returned (.int .u64 (n:Int))∧n<18446744073709551616)∧Dealt w H w' H g
theorem fB {H:Snap}{g:Nat}(w:World) (hD:DeckIn w g H) :
  Calls Tryz.prog 91 #[.pointer (some ⟨g,0,none⟩)] w (Qb w H g):=by
 have NX:=Hh (zA w hD 1073741824 (by omega) (by omega));have wH:=hD.deck.lt;clear hD;go_enter Tryz.func91,Tryz.ntmps91
 go_wp2_with fail
 refine NX.out.mono ?_
 rintro e w1 ⟨r,rfl,hr,vH⟩
 have K0:IntKind.u64.wrap (r:Int)=(r:Int):=IntWalk.u64_in _ (by omega);have N2:=Hh (zA w1 vH.deck 5 (by omega) (by omega));clear NX;go_wp2_with fail
 refine N2.out.mono ?_
 rintro e w2 ⟨q,rfl,hq,xy⟩
 have hd:=vH.trans xy;clear N2 vH xy
 rcases(by omega:q=0∨q=1∨q=2∨q=3∨q=4) with rfl | rfl | rfl | rfl | rfl
 ·go_wp2_with (go_at_call 118;refine(eZ _ _ _ _).mono ?_;rintro e w3 ⟨⟨n,rfl,hn⟩,rfl⟩)
  go_ret
  exact⟨⟨n,rfl,hn⟩,hd⟩
 ·go_wp2_with (go_at_call 118;refine(ed _ _ _ _).mono ?_;rintro e w3 ⟨⟨n,rfl,hn⟩,rfl⟩)
  go_ret
  exact⟨⟨n,rfl,hn⟩,hd⟩
 ·have hB:=Blk.new w2 22 #[.int .u64 9221120237041090560,.int .u64 9218868437227405312,.int .u64 18442240474082181120,.int .u64 9223372036854775808,.int .u64 0,.int .u64 1,.int .u64 4609434218613702656];have xy:=hd.alloc (.cells #[.int .u64 9221120237041090560,.int .u64 9218868437227405312,.int .u64 18442240474082181120,.int .u64 9223372036854775808,.int .u64 0,.int .u64 1,.int .u64 4609434218613702656] 22);have N3:=Hh (zA _ xy.deck 7 (by omega) (by omega));go_wp2_with fail
  refine N3.out.mono ?_
  rintro e w3 ⟨j,rfl,hj,uA⟩
  have ut:=hB.dealt uA (by have:=hd.size;omega);obtain⟨v,hc,hP⟩:=ut.pick ig (by kernel_rfl) j (by simp;omega);obtain⟨x,rfl,hx⟩:=qo hP;have tF:=xy.trans uA;have HX:=Hh hx;clear N3 hB ut hP xy uA hx;go_wp2_with fail
  go_ret
  exact⟨⟨x,rfl,HX.out⟩,tF⟩
 all_goals
  have N3:=Hh (zA w2 hd.deck 1073741824 (by omega) (by omega));go_wp2_with fail
  refine N3.out.mono ?_
  rintro e w3 ⟨j,rfl,hj,uA⟩
  have tF:=hd.trans uA;have K1:IntKind.u64.wrap (j:Int)=(j:Int):=IntWalk.u64_in _ (by omega);clear N3 hd uA;go_wp2_with (go_at_call 119;refine(cC _ _ _ _).mono ?_;rintro e w4 ⟨⟨bb,rfl⟩,rfl⟩;cases bb)
  all_goals go_ret
  ·exact⟨ul ..,tF⟩
  exact⟨⟨9221120237041090560,rfl,by omega⟩,tF⟩
theorem fC {H:Snap}(hT:Tabs H) {k n:Int}{ba:Option Addr}{bl bc:Nat}{ia:Option Addr}{il ic:Nat}{x:Itm}(hx:ItemA H k n ba bl bc ia il ic x) (w:World) (hH:Holds w H) :
  Calls Tryz.prog 90 #[.agg #[.int .i64 k,.int .u64 n,.slice ba bl bc,.slice ia il ic]] w fun e w'=>∃ v y,e=.returned v∧Gives w H y v w'∧(y=x∨y=zm):=by
 obtain⟨rfl,rfl,rfl,rfl,qf⟩:=hx.eqs_;have hB:=(Blk.new w 26 #[.int .i64 x.kind,.int .u64 x.n,.slice ba x.bytes.length bc,.slice ia x.items.length ic]).alloc zW;have PP:=Blk.new (w.alloc (zi x ba bc ia ic)) 26 #[.int .i64 0,.int .u64 0,.slice none 0 0,.slice none 0 0]
 simp only[zu]at PP
 have hG:=((Grows.refl hH).alloc (zi x ba bc ia ic)).alloc zW;have yP:H (w.heap.size+1)=none:=hH.none_of_ge (by omega);have V:=Hh (tm hT qf.arg _ hG.holds)
 cases hv:zX x with
 | false =>
  rw[hv]at V;clear hv;go_enter Tryz.func90,Tryz.ntmps90
  go_wp2_with fail
  refine V.out.mono ?_
  rintro e w2 ⟨rfl,zG⟩
  have ug:=PP.below zG;have xR:=hG.below_ zG;clear V hB PP hG zG;go_wp2_with (with_reducible refine zx ?_)
  refine stI ug fun w3 lf nd=>?_
  have ye:=xR.grownOwn yP (by omega) nd;go_wp2_with fail
  refine zR rfl rfl lf rfl rfl zp rfl ?_
  exact⟨_,zm,rfl,⟨none,0,none,0,H,rfl,ye,IsItem.plain _ 0 0 (by omega) (by omega)⟩,.inr rfl⟩
 | true =>
 rw[hv]at V;clear hv;go_enter Tryz.func90,Tryz.ntmps90
 go_wp2_with fail
 refine V.out.mono ?_
 rintro e w2 ⟨rfl,zG⟩
 have yV:=hB.below zG;have ug:=PP.below zG;have xR:=hG.below_ zG;have c0:=yV.cell 0 rfl;have c1:=yV.cell 1 rfl;have c2:=yV.cell 2 rfl;have c3:=yV.cell 3 rfl;clear V hB PP hG zG;go_wp2_with (with_reducible refine zx ?_)
 refine stI ug fun w3 lf nd=>?_
 have ye:=xR.grownOwn yP (by omega) nd;go_wp2_with fail
 refine zR rfl rfl lf rfl rfl zp rfl ?_
 exact⟨_,x,rfl,⟨ba,bc,ia,ic,H,rfl,ye,qf⟩,.inl rfl⟩
def Qc (w:World) (H:Snap) (g:Nat) (x:Itm) (v:Value) (w':World):Prop:=∃ ba bc ia ic H',v=xq x ba bc ia ic∧Dealt w H w' H' g∧IsItem H' ba bc ia ic x
def BI:Nat→Nat
 | 0=>39
 | d+1=>9+6*BI d
theorem lN:∀ d,39≤BI d
 | 0=>Nat.le_refl _
 | d+1=>by have:=lN d;rw[BI];omega
def CI:Nat→Nat
 | 0=>1
 | d+1=>1+6*CI d
theorem Mu:∀ d,1≤CI d
 | 0=>Nat.le_refl _
 | d+1=>by rw[CI];omega
def Lim (d:Nat) (x:Itm):Prop:=(zh x).length≤BI d∧cnt x≤CI d∧dep x≤d
theorem yH {d:Nat}{k:Int}{n:Nat}{l:List UInt8}(h:(zh (.mk k n l [])).length≤BI d):Lim d (.mk k n l []):=⟨h,by rw[cnt,yQ];exact Mu d,by rw[dep,jL];omega⟩
theorem kB {B:Nat}:∀ {l:List Itm},(∀ x∈l,(zh x).length≤B)→(zM l).length≤l.length*B
 | [],_=>by simp[zM]
 | x::l,h=>by
  have h1:=h x (by simp);have h2:=kB (l:=l) fun y hy=>h y (by simp[hy])
  rw[zM,List.length_append,List.length_cons,Nat.succ_mul]
  omega
theorem jz {B:Nat}:∀ {l:List Itm},(∀ x∈l,cnt x≤B)→yQ l≤l.length*B
 | [],_=>by simp[yQ]
 | x::l,h=>by
  have h1:=h x (by simp);have h2:=jz (l:=l) fun y hy=>h y (by simp[hy])
  rw[yQ,List.length_cons,Nat.succ_mul]
  omega
theorem ky {d:Nat}{k:Int}{n:Nat}{L l:List Itm}(jh:0≤k) (ir:k≤6) (hL:∀ z∈L,Lim d z) (h6:L.length≤6) (he:(zM l).length=(zM L).length) (hc:yQ l=yQ L) (hm:∀ x∈l,x∈L):Lim (d+1) (.mk k n [] l):=by
 have h1:=yg k n [] l (by omega) (by omega);have h2:=kB (fun z hz=>(hL z hz).1);have h3:L.length*BI d≤6*BI d:=Nat.mul_le_mul_right _ h6;have h4:=jz (fun z hz=>(hL z hz).2.1);have h5:L.length*CI d≤6*CI d:=Nat.mul_le_mul_right _ h6
 simp only[List.length_nil]at h1
 refine⟨by rw[BI];omega,by rw[cnt,CI];omega, ?_⟩
 rw[dep]
 exact aa fun x hx=>by have:=(hL x (hm x hx)).2.2;omega
def Qa (w:World) (H:Snap) (g d:Nat) (e:Ending) (w':World):Prop:=∃ v x,e=.returned v∧Qc w H g x v w'∧Modest x∧Lim d x
def kY (d:Nat):Prop:=∀ (w:World) (H:Snap) (g:Nat),Tabs H→DeckIn w g H→Calls Tryz.prog 45 #[.pointer (some ⟨g,0,none⟩),.int .i64 (d:Int)] w (Qa w H g d)
theorem yx (k:Int) (n:Nat) (l:List UInt8) (h:l.length≤1099511627776):Modest (.mk k n l []):=by rw[Modest,ModestL];exact⟨h,by simp,trivial⟩
theorem mV (n:Nat):(zh (.mk 7 n [] [])).length≤39:=by
 rw[xD]
 simp only[Itm.kind,Itm.n,Itm.bytes,Itm.items,zM,List.append_nil]
 rw[if_neg (by omega)]
 split
 ·simp
 have:=(um (7:Int).toNat (xi (.mk 7 n [] []))).2
 omega
theorem kA (n:Nat):(zh (.mk 8 n [] [])).length≤39:=by
 rw[xD,if_pos (show(Itm.mk 8 n [] []).kind=8 from rfl)]
 rcases ru n with h | h | h <;> (simp only[Itm.n];omega)
theorem ZQ:kY 0:=by
 intro w H g hTab hD
 have da:=Hh (lN 0);have wH:=hD.deck.lt;have P7:=hD.alloc zW;have Vm:=hD.grows ((Grows.refl hD.holds).alloc zW);have tv:=Blk.new w 26 #[.int .i64 0,.int .u64 0,.slice none 0 0,.slice none 0 0];have uY:H w.heap.size=none:=hD.holds.none_of_ge (Nat.le_refl _);have NX:=Hh (zA _ P7 9 (by omega) (by omega));clear hD;go_enter Tryz.func45,Tryz.ntmps45
 go_wp2_with fail
 refine NX.out.mono ?_
 rintro e w1 ⟨r,rfl,hr,dK⟩
 have vH:=Vm.trans dK;have uu:=tv.dealt dK (by omega);clear NX Vm dK tv P7
 rcases(by omega:r=0∨r=1∨r=2∨r=3∨r=4∨r=5∨r=6∨r=7∨r=8) with rfl | rfl | rfl | rfl | rfl | rfl | rfl | rfl | rfl
 ·have NB:=Hh (uT w1 vH.deck);go_wp2_with fail
  refine NB.out.mono ?_
  rintro e w2 ⟨m',rfl,qL,xy⟩
  have vg:=uu.dealt xy (by omega);have tF:=vH.trans xy;have qM:=xy.hid uY uu.lt;have od:=Hh qL;clear NB vH xy uu uY qL;go_wp2_with (with_reducible refine zx ?_)
  refine stI vg fun wz hTy wm=>?_
  have qR:=tF.grownRow (row:=some w.heap.size) (by rintro q ⟨⟩;exact qM) (by rintro q ⟨⟩;exact Nat.le_refl _) wH wm;go_wp2_with fail
  refine zR rfl rfl hTy rfl rfl zp rfl ?_
  exact⟨_,.mk 0 m' [] [],rfl,⟨none,0,none,0,_,rfl,qR,IsItem.plain _ 0 m' (by omega) od.out⟩,yx _ _ _ (by simp),yH (by have:=yg 0 m' [] [] (by omega) (by omega);have:=da.out;simp[zM]at *;omega)⟩
 ·have NB:=Hh (uT w1 vH.deck);go_wp2_with fail
  refine NB.out.mono ?_
  rintro e w2 ⟨m',rfl,qL,xy⟩
  have vg:=uu.dealt xy (by omega);have tF:=vH.trans xy;have qM:=xy.hid uY uu.lt;have od:=Hh qL;clear NB vH xy uu uY qL;go_wp2_with (with_reducible refine zx ?_)
  refine stI vg fun wz hTy wm=>?_
  have qR:=tF.grownRow (row:=some w.heap.size) (by rintro q ⟨⟩;exact qM) (by rintro q ⟨⟩;exact Nat.le_refl _) wH wm;go_wp2_with fail
  refine zR rfl rfl hTy rfl rfl zp rfl ?_
  exact⟨_,.mk 1 m' [] [],rfl,⟨none,0,none,0,_,rfl,qR,IsItem.plain _ 1 m' (by omega) od.out⟩,yx _ _ _ (by simp),yH (by have:=yg 1 m' [] [] (by omega) (by omega);have:=da.out;simp[zM]at *;omega)⟩
 ·have NB:=Hh (kz w1 vH.deck 30 (by omega) (by omega));go_wp2_with fail
  refine NB.out.mono ?_
  rintro e w2 ⟨A,c,l,rfl,hl,H2,zG,xy⟩
  have ug:=uu.dealt xy (by omega);have uB:=xy.hid uY uu.lt;have lU:=vH.trans xy;have RB:=Hh (t8 (A:=A) (c:=c) (l:=l) rfl (by omega) w2 (Src.of_row zG.row xy.holds) xy.holds);have HL:=Hh hl;clear NB vH xy uu uY hl zG;go_wp2_with fail
  refine RB.out.mono ?_
  rintro e w3 ⟨v3,rfl,ja,jb,jc,jd,H3,rfl,ye,rp⟩
  have vg:=ug.below ye.below;have qM:=ye.none uB ug.lt;have tF:=lU.grown ye;clear ug uB lU ye RB;go_wp2_with (with_reducible refine zx ?_)
  refine stI vg fun wz hTy wm=>?_
  have qR:=tF.grownRow (row:=some w.heap.size) (by rintro q ⟨⟩;exact qM) (by rintro q ⟨⟩;exact Nat.le_refl _) wH wm;go_wp2_with fail
  refine zR rfl rfl hTy rfl rfl zp rfl ?_
  exact⟨_,.mk 2 0 l [],rfl,⟨ja,jb,jc,jd,H3,rfl,qR,rp⟩,yx _ _ _ (by have:=HL.out;omega),yH (by have:=yg 2 0 l [] (by omega) (by omega);have:=da.out;have:=HL.out;simp[zM]at *;omega)⟩
 ·have NB:=Hh (ag w1 vH.deck 8 (by omega) (by omega));go_wp2_with fail
  refine NB.out.mono ?_
  rintro e w2 ⟨s,rfl,hl,xy⟩
  have ug:=uu.dealt xy (by omega);have uB:=xy.hid uY uu.lt;have lU:=vH.trans xy;have RB:=Hh (lC s (by omega) w2 xy.holds);have HL:=Hh hl;clear NB vH xy uu uY hl;go_wp2_with fail
  refine RB.out.mono ?_
  rintro e w3 ⟨v3,rfl,ja,jb,jc,jd,H3,rfl,ye,rp⟩
  have vg:=ug.below ye.below;have qM:=ye.none uB ug.lt;have tF:=lU.grown ye;have S9:Hid (s.data.toList.length=s.size):=by rw[Hid];first | rfl | simp
  obtain⟨XT,Sh⟩:∃ X,Itm.mk 3 0 s.data.toList []=X:=⟨_,rfl⟩
  rw[Sh]at rp⊢;have Ow:=Hh Sh;clear ug uB lU ye RB Sh;go_wp2_with (with_reducible refine zx ?_)
  refine stI vg fun wz hTy wm=>?_
  have qR:=tF.grownRow (row:=some w.heap.size) (by rintro q ⟨⟩;exact qM) (by rintro q ⟨⟩;exact Nat.le_refl _) wH wm;go_wp2_with fail
  refine zR rfl rfl hTy rfl rfl zp rfl ?_
  exact⟨_,XT,rfl,⟨ja,jb,jc,jd,H3,rfl,qR,rp⟩,by rw[← Ow.out];exact yx _ _ _ (by have:=HL.out;have:=S9.out;omega),by rw[← Ow.out];exact yH (by have:=yg 3 0 s.data.toList [] (by omega) (by omega);have:=da.out;have:=HL.out;have:=S9.out;simp[zM]at *;omega)⟩
 ·have NB:=Hh (uT w1 vH.deck);go_wp2_with fail
  refine NB.out.mono ?_
  rintro e w2 ⟨m',rfl,qL,xy⟩
  have vg:=uu.dealt xy (by omega);have tF:=vH.trans xy;have qM:=xy.hid uY uu.lt;have od:=Hh qL;clear NB vH xy uu uY qL;go_wp2_with (with_reducible refine zx ?_)
  refine stI vg fun wz hTy wm=>?_
  have qR:=tF.grownRow (row:=some w.heap.size) (by rintro q ⟨⟩;exact qM) (by rintro q ⟨⟩;exact Nat.le_refl _) wH wm;go_wp2_with fail
  refine zR rfl rfl hTy rfl rfl zp rfl ?_
  exact⟨_,.mk 0 m' [] [],rfl,⟨none,0,none,0,_,rfl,qR,IsItem.plain _ 0 m' (by omega) od.out⟩,yx _ _ _ (by simp),yH (by have:=yg 0 m' [] [] (by omega) (by omega);have:=da.out;simp[zM]at *;omega)⟩
 ·have NB:=Hh (uT w1 vH.deck);go_wp2_with fail
  refine NB.out.mono ?_
  rintro e w2 ⟨m',rfl,qL,xy⟩
  have vg:=uu.dealt xy (by omega);have tF:=vH.trans xy;have qM:=xy.hid uY uu.lt;have od:=Hh qL;clear NB vH xy uu uY qL;go_wp2_with (with_reducible refine zx ?_)
  refine stI vg fun wz hTy wm=>?_
  have qR:=tF.grownRow (row:=some w.heap.size) (by rintro q ⟨⟩;exact qM) (by rintro q ⟨⟩;exact Nat.le_refl _) wH wm;go_wp2_with fail
  refine zR rfl rfl hTy rfl rfl zp rfl ?_
  exact⟨_,.mk 0 m' [] [],rfl,⟨none,0,none,0,_,rfl,qR,IsItem.plain _ 0 m' (by omega) od.out⟩,yx _ _ _ (by simp),yH (by have:=yg 0 m' [] [] (by omega) (by omega);have:=da.out;simp[zM]at *;omega)⟩
 ·have NB:=Hh (uT w1 vH.deck);go_wp2_with fail
  refine NB.out.mono ?_
  rintro e w2 ⟨m',rfl,qL,xy⟩
  have vg:=uu.dealt xy (by omega);have tF:=vH.trans xy;have qM:=xy.hid uY uu.lt;have od:=Hh qL;clear NB vH xy uu uY qL;go_wp2_with (with_reducible refine zx ?_)
  refine stI vg fun wz hTy wm=>?_
  have qR:=tF.grownRow (row:=some w.heap.size) (by rintro q ⟨⟩;exact qM) (by rintro q ⟨⟩;exact Nat.le_refl _) wH wm;go_wp2_with fail
  refine zR rfl rfl hTy rfl rfl zp rfl ?_
  exact⟨_,.mk 0 m' [] [],rfl,⟨none,0,none,0,_,rfl,qR,IsItem.plain _ 0 m' (by omega) od.out⟩,yx _ _ _ (by simp),yH (by have:=yg 0 m' [] [] (by omega) (by omega);have:=da.out;simp[zM]at *;omega)⟩
 ·have hB:=Blk.new w1 22 #[.int .u64 20,.int .u64 21,.int .u64 22,.int .u64 23,.int .u64 0,.int .u64 19,.int .u64 32,.int .u64 255];have xy:=vH.alloc (.cells #[.int .u64 20,.int .u64 21,.int .u64 22,.int .u64 23,.int .u64 0,.int .u64 19,.int .u64 32,.int .u64 255] 22);have ug:=uu.alloc (.cells #[.int .u64 20,.int .u64 21,.int .u64 22,.int .u64 23,.int .u64 0,.int .u64 19,.int .u64 32,.int .u64 255] 22);have NB:=Hh (zA _ xy.deck 8 (by omega) (by omega));go_wp2_with fail
  refine NB.out.mono ?_
  rintro e w3 ⟨j,rfl,hj,uA⟩
  have ut:=hB.dealt uA (by have:=vH.size;omega);obtain⟨v,hc,hP⟩:=ut.pick ig (by kernel_rfl) j (by simp;omega);obtain⟨x,rfl,hx⟩:=qo hP;have vg:=ug.dealt uA (by omega);have qM:=uA.hid uY ug.lt;have tF:=xy.trans uA;have od:=Hh hx;clear NB hB ut hP vH xy uA hx uu ug uY;go_wp2_with (with_reducible refine zx ?_)
  refine stI vg fun wz hTy wm=>?_
  have qR:=tF.grownRow (row:=some w.heap.size) (by rintro q ⟨⟩;exact qM) (by rintro q ⟨⟩;exact Nat.le_refl _) wH wm;go_wp2_with fail
  refine zR rfl rfl hTy rfl rfl zp rfl ?_
  exact⟨_,.mk 7 x [] [],rfl,⟨none,0,none,0,_,rfl,qR,IsItem.plain _ 7 x (by omega) od.out⟩,yx _ _ _ (by simp),yH (Nat.le_trans (mV x) da.out)⟩
 have NB:=Hh (fB w1 vH.deck);go_wp2_with fail
 refine NB.out.mono ?_
 rintro e w2 ⟨⟨m',rfl,qL⟩,xy⟩
 have vg:=uu.dealt xy (by omega);have tF:=vH.trans xy;have qM:=xy.hid uY uu.lt;have od:=Hh qL;clear NB vH xy uu uY qL;go_wp2_with (with_reducible refine zx ?_)
 refine stI vg fun wz hTy wm=>?_
 have qR:=tF.grownRow (row:=some w.heap.size) (by rintro q ⟨⟩;exact qM) (by rintro q ⟨⟩;exact Nat.le_refl _) wH wm;go_wp2_with fail
 refine zR rfl rfl hTy rfl rfl zp rfl ?_
 exact⟨_,.mk 8 m' [] [],rfl,⟨none,0,none,0,_,rfl,qR,IsItem.plain _ 8 m' (by omega) od.out⟩,yx _ _ _ (by simp),yH (Nat.le_trans (kA m') da.out)⟩
end Go.Proofs.YtliomcphdnppnaaGreatDoor
