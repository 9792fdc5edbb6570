/- squeezed. Walks: the key of an item, by the  -/
import Derived.Test.YtnlinmoiakgedaaGreatDoorK39
set_option linter.unusedVariables false
set_option linter.unusedSimpArgs false
set_option maxRecDepth 100000
set_option maxHeartbeats 51200000
namespace Go.Proofs.YtnlinmoiakgedaaGreatDoor
open Go.RowKit
def FromOut (w:World) (H:Snap) (x:Itm) (e:Ending) (w':World):Prop :=
 (yW x=false∧e=.returned (.tuple #[.agg vp,.int .i64 1])∧Below w.heap.size w w')∨
 (yW x=true∧(¬ ∃ q,sm x q)∧e=.returned (.tuple #[.agg vp,.int .i64 12])∧Below w.heap.size w w')∨
 (∃ q a H',yW x=true∧sm x q∧e=.returned (.tuple #[.agg (xU q a),.int .i64 0])∧Grows w H w' H'∧KeyA H' q a)
theorem dB (q:Ky) (l:List Itm) (j:Nat) (h:j+1<l.length):wV q (l.drop j)=match sn q (l[j]'(by omega)) l[j+1] with | none=>none | some q'=>wV q' (l.drop (j+2)):=by
 rw[List.drop_eq_getElem_cons (by omega:j<l.length),List.drop_eq_getElem_cons h,wV]
 cases sn q (l[j]'(by omega)) l[j+1] <;> rfl
theorem mw {x:Itm}(h:wV wh x.items=none):¬ ∃ q,sm x q:=fun⟨q,hq⟩=>by rw[oF hq]at h;cases h
theorem bV {x:Itm}(h:¬ x.kind=5):¬ ∃ q,sm x q:=fun⟨q,hq⟩=>h (by rw[← hq.2];rfl)
def ptr (K f:Nat):Value:=.pointer (some ⟨K,f,none⟩)
theorem eo {K:Nat}{k:Int}(h1:¬ k=1) (h3:¬ k=3) (h2:¬ k = -1):ry (Yn K) k=none:=by
 simp[ry,Yn,h1,h2,h3]
theorem mP {K:Nat}{k:Int}(h1:¬ k=2) (h2:¬ k = -1) (h3:¬ k = -2) (h4:¬ k = -4):ry (mY K) k=none:=by
 simp[ry,mY,h1,h2,h3,h4]
theorem kF (K:Nat) (k:Int):(ry (mY K) k).getD (.pointer none)=.pointer none∨∃ p,(ry (mY K) k).getD (.pointer none)=.pointer (some p):=by
 by_cases h1:k=2
 ·subst h1;exact .inr ⟨_,rfl⟩
 by_cases h2:k = -1
 ·subst h2;exact .inr ⟨_,rfl⟩
 by_cases h3:k = -2
 ·subst h3;exact .inr ⟨_,rfl⟩
 by_cases h4:k = -4
 ·subst h4;exact .inr ⟨_,rfl⟩
 rw[mP h1 h2 h3 h4]
 exact .inl rfl
theorem W4 {n:Nat}{b:List UInt8}{l:List Itm}:nmP (.mk 2 n b l)=none:=by
 rw[nmP]
 split
 ·rfl
 ·rfl
theorem aQ {z:Itm}{n:Int}(h:nmP z=some n) : -9223372036854775808≤n∧n≤9223372036854775807:=by
 obtain⟨k,m,b,l⟩:=z;rw[nmP]at h
 split at h
 ·cases h
 ·split at h
  ·injection h with h;omega
  ·split at h
   ·injection h with h;omega
   ·cases h
theorem nP {H:Snap}(hTab:Tabs H) {x:Itm}{ba:Option Addr}{bc:Nat}{ia:Option Addr}{ic:Nat}(hx:IsItem H ba bc ia ic x) (w:World) (hH:Holds w H) :
  Calls Tryz.prog 16 #[xN x ba bc ia ic] w (FromOut w H x):=by
 have hX:=(Blk.new w 26 #[.int .i64 x.kind,.int .u64 x.n,.slice ba x.bytes.length bc,.slice ia x.items.length ic]).alloc (.cells vp 33);have hR:=Blk.new (w.alloc (zW x ba bc ia ic)) 33 vp;rw[zV]at hR;have eG:H (w.heap.size+1)=none:=hH.none_of_ge (by omega);have hG:=((Grows.refl hH).alloc (zW x ba bc ia ic)).alloc (.cells vp 33);have HT:=Hh hTab;have HI:=Hh hx;have Xb := @run_makeMap Tryz.prog;have a0:=hX.cell 0 rfl;have a1:=hX.cell 1 rfl;have a2:=hX.cell 2 rfl;have a3:=hX.cell 3 rfl;clear hTab hx hH;go_enter Tryz.func16,Tryz.ntmps16
 go_wp2_with fail
 refine(tN HT.out HI.out.arg _ hG.holds).mono ?_
 rintro e w1 ⟨rfl,vg⟩
 replace hX:=hX.below vg;replace hR:=hR.below vg;replace hG:=hG.below_ vg;clear vg a0 a1 a2 a3
 cases hv:yW x with
 | false =>
  have HV:=Hh hv;clear hv Xb hX;go_wp2_with (with_reducible refine zx ?_)
  refine zc rfl _ _ _ rfl rfl _ _ rfl rfl _ _ hR zM rfl (tm _ _ _ _ _ _ _ rfl rfl rfl rfl rfl rfl rfl) fun wz hRz zU=>?_
  have zP:=hG.grownOwn eG (by omega) zU;go_wp2_with fail
  refine zv rfl rfl hRz rfl rfl zM rfl ?_
  exact .inl ⟨HV.out,rfl,zP.below⟩
 | true =>
 have HV:=Hh hv;clear hv;obtain⟨K,hK⟩:∃ K,w1.heap.size=K:=⟨_,rfl⟩
 have lm:KN w H (w.heap.size+1) w1.heap.size vp (w1.alloc (.cells vp 33)) H:=⟨hG.alloc _,hR.alloc _,Blk.new _ _ _,eG,hG.holds.none_of_ge (Nat.le_refl _),by have:=hR.lt;omega,by omega,hG.size⟩
 have jX:=hX.alloc (.cells vp 33);have lK:MapIs ((w1.alloc (.cells vp 33)).alloc (.map #[] 0)) (w1.alloc (.cells vp 33)).heap.size []:=MapIs.new _;replace lm:=lm.alloc (.map #[] 0);replace jX:=jX.alloc (.map #[] 0);rw[zV]at lK;rw[hK]at lm lK;have KJ:K≠w.heap.size:=by have:=hX.lt;omega
 have MR:=Hh (show w.heap.size+1<K by have:=hR.lt;omega);have Kw:=Hh (fun b (hb:K≤b)=>hG.holds.none_of_ge (show w1.heap.size≤b by omega));clear hX hR hG;go_wp2_with (with_reducible refine uV ?_)
 unfold yE
 try rw[hK]
 have Jp:w.heap.size+1<K:=by have:=lm.res.lt;have:=lm.neRK;have hq:=jX.lt;have Nm:=MR.out;omega
 have UC:H (K+1)=none:=Kw.out _ (by have:=MR.out;omega)
 refine vQ rfl _ _ _ rfl Tryz.underlying68 Tryz.underlying3 lK (1) (ptr K 0) rfl rfl rfl rfl fun wm hMm hgm=>?_
 replace lK:=hMm;replace lm:=lm.far hgm UC (by omega) (by omega) (by omega);replace jX:=jX.grown hgm (fun e=>by injection e with e;omega);clear hMm hgm;go_wp2_with (with_reducible refine uV ?_)
 refine vQ rfl _ _ _ rfl Tryz.underlying68 Tryz.underlying3 lK (3) (ptr K 2) rfl rfl rfl rfl fun wm hMm hgm=>?_
 replace lK:=hMm;replace lm:=lm.far hgm UC (by omega) (by omega) (by omega);replace jX:=jX.grown hgm (fun e=>by injection e with e;omega);clear hMm hgm;go_wp2_with (with_reducible refine uV ?_)
 refine vQ rfl _ _ _ rfl Tryz.underlying68 Tryz.underlying3 lK (-1) (ptr K 1) rfl rfl rfl rfl fun wm hMm hgm=>?_
 replace lK:=hMm;replace lm:=lm.far hgm UC (by omega) (by omega) (by omega);replace jX:=jX.grown hgm (fun e=>by injection e with e;omega);clear hMm hgm;have b9:MapIs (wm.alloc (.map #[] 0)) wm.heap.size []:=MapIs.new _;have Yy:H wm.heap.size=none:=lm.grows.holds.none_of_ge (Nat.le_refl _);have SW:=lK.lt;replace lm:=lm.alloc (.map #[] 0);replace jX:=jX.alloc (.map #[] 0);replace lK:=lK.alloc (.map #[] 0);obtain⟨M2,RP⟩:∃ M2,wm.heap.size=M2:=⟨_,rfl⟩
 rw[RP]at b9 Yy SW;go_wp2_with (with_reducible refine uV ?_)
 unfold yE
 try rw[RP]
 refine vQ rfl _ _ _ rfl Tryz.underlying70 Tryz.underlying3 b9 (2) (ptr K 3) rfl rfl rfl rfl fun wm hMm hgm=>?_
 replace b9:=hMm;replace lm:=lm.far hgm Yy (by omega) (by omega) (by omega);replace jX:=jX.grown hgm (fun e=>by injection e with e;omega);replace lK:=lK.grown hgm (fun e=>by injection e with e;omega);clear hMm hgm;go_wp2_with (with_reducible refine uV ?_)
 refine vQ rfl _ _ _ rfl Tryz.underlying70 Tryz.underlying3 b9 (-1) (ptr K 6) rfl rfl rfl rfl fun wm hMm hgm=>?_
 replace b9:=hMm;replace lm:=lm.far hgm Yy (by omega) (by omega) (by omega);replace jX:=jX.grown hgm (fun e=>by injection e with e;omega);replace lK:=lK.grown hgm (fun e=>by injection e with e;omega);clear hMm hgm;go_wp2_with (with_reducible refine uV ?_)
 refine vQ rfl _ _ _ rfl Tryz.underlying70 Tryz.underlying3 b9 (-2) (ptr K 4) rfl rfl rfl rfl fun wm hMm hgm=>?_
 replace b9:=hMm;replace lm:=lm.far hgm Yy (by omega) (by omega) (by omega);replace jX:=jX.grown hgm (fun e=>by injection e with e;omega);replace lK:=lK.grown hgm (fun e=>by injection e with e;omega);clear hMm hgm;go_wp2_with (with_reducible refine uV ?_)
 refine vQ rfl _ _ _ rfl Tryz.underlying70 Tryz.underlying3 b9 (-4) (ptr K 5) rfl rfl rfl rfl fun wm hMm hgm=>?_
 replace b9:=hMm;replace lm:=lm.far hgm Yy (by omega) (by omega) (by omega);replace jX:=jX.grown hgm (fun e=>by injection e with e;omega);replace lK:=lK.grown hgm (fun e=>by injection e with e;omega);clear hMm hgm;have yz:FM w H (w.heap.size+1) K (K+1) M2 #[.int .i64 x.kind,.int .u64 x.n,.slice ba x.bytes.length bc,.slice ia x.items.length ic] (xU wh ⟨none,0,none,0,none,0,none,0⟩) wm H:=⟨lm,jX,lK,b9,by omega,by omega,by omega⟩
 clear lm jX lK b9 Xb;have a0:=yz.box.cell 0 rfl
 by_cases h5:x.kind=5
 case neg =>
  have b5:(x.kind != 5)=true:=by simp[h5]
  have p5:(x.kind=5)=False:=eq_false h5;have H5:=Hh h5;clear h5;have sf:=yz.kn.res;have uE:=Hh yz.kn;clear yz;go_wp2_with (with_reducible refine zx ?_)
  refine zc rfl _ _ _ rfl rfl _ _ rfl rfl _ _ sf zM rfl (tm _ _ _ _ _ _ _ rfl rfl rfl rfl rfl rfl rfl) fun wz hRz zU=>?_
  have zP:=uE.out.grows.grownOwn uE.out.hR uE.out.wR zU;clear uE sf zU;go_wp2_with fail
  refine zv rfl rfl hRz rfl rfl zM rfl ?_
  exact .inr (.inl ⟨HV.out,bV H5.out,rfl,zP.below⟩)
 have b5:(x.kind != 5)=false:=by simp[h5]
 have p5:(x.kind=5)=True:=eq_true h5;have br:=Hh (mX HV.out h5);have Jg:=Hh h5;clear h5;go_wp2_with fail
 clear b5 p5 a0;go_loopw [7] (fun v7 wr=>∃ (j:Nat) (q:Ky) (a:KAd) (Hr:Snap),j≤x.items.length∧j%2=0∧v7=.int .i64 (j:Int)∧FM w H (w.heap.size+1) K (K+1) M2 #[.int .i64 x.kind,.int .u64 x.n,.slice ba x.bytes.length bc,.slice ia x.items.length ic] (xU q a) wr Hr∧KeyA Hr q a∧wV q (x.items.drop j)=wV wh x.items) (fun v7 _=>x.items.length-(intOf v7).toNat)
 case atStart=>exact⟨0,wh,⟨none,0,none,0,none,0,none,0⟩,H,Nat.zero_le _,rfl,rfl,yz,⟨by simp[wh],by simp[wh],by simp[wh],IsBytes.nil _,IsBytes.nil _,IsBytes.nil _,IsBytes.nil _⟩,by rw[List.drop_zero]⟩
 case round =>
  clear yz;obtain⟨j,q,a,Hr,hj,Zc,rfl,yz,T2,Sy⟩:=hrel;have gQ:=Hh Zc;have wJ:=Hh T2;have lI:=Hh Sy;clear Zc T2 Sy;have a3:=yz.box.cell 3 rfl
  by_cases yi:j<x.items.length
  case neg =>
   have so:j=x.items.length:=by omega
   subst so;clear yi hj;have HF:Hid (wV wh x.items=some q):=by rw[Hid,← lI.out,List.drop_length,oG]
   clear lI;have k0:=yz.kn.key.cell 0 rfl;have k1:=yz.kn.key.cell 1 rfl;have k2:=yz.kn.key.cell 2 rfl;have k3:=yz.kn.key.cell 3 rfl;have k4:=yz.kn.key.cell 4 rfl;have k5:=yz.kn.key.cell 5 rfl;have k6:=yz.kn.key.cell 6 rfl;go_wp2_with fail
   refine(kB (HT.out.mono yz.kn.grows.le) wJ.out _ yz.kn.grows.holds).mono ?_
   rintro e w9 ⟨v9,rfl,ya,yb,yc,yd,H9,rfl,px,ZS⟩
   replace yz:=(yz.grow px)
   replace wJ:=Hh (wJ.out.mono px.le);clear k0 k1 k2 k3 k4 k5 k6 a3 px
   cases hvq:xF q with
   | false =>
    have Ul:Hid (¬ ∃ q,sm x q):=fun⟨q2,h2⟩=>by
     have e:=HF.out;rw[oF h2]at e;obtain rfl:=Option.some.inj e;rw[h2.1]at hvq
     cases hvq
    have E:Hid (vb q=1∧sM q=zt):=⟨by rw[vb,if_neg (by rw[hvq];simp)],by rw[sM,if_neg (by rw[hvq];simp)]⟩
    rw[E.out.1,E.out.2];clear hvq ZS;replace yz:=yz.alloc (zW zt ya yb yc yd);go_upto_region 22 with fail
    have sf:=yz.kn.res;have uE:=Hh yz.kn;clear yz;go_wp2_with (with_reducible refine zx ?_)
    refine zc rfl _ _ _ rfl rfl _ _ rfl rfl _ _ sf zM rfl (tm _ _ _ _ _ _ _ rfl rfl rfl rfl rfl rfl rfl) fun wz hRz zU=>?_
    have zP:=uE.out.grows.grownOwn uE.out.hR uE.out.wR zU;clear uE sf zU;go_wp2_with fail
    refine zv rfl rfl hRz rfl rfl zM rfl ?_
    exact .inr (.inl ⟨HV.out,Ul.out,rfl,zP.below⟩)
   | true =>
    have E:Hid (vb q=0∧sM q=tu q):=⟨by rw[vb,if_pos hvq],by rw[sM,if_pos hvq]⟩
    have P8:=Hh hvq;rw[E.out.1,E.out.2];rw[E.out.2]at ZS;have Ww:=Hh (wE hvq);obtain⟨y,hy⟩:∃ y,tu q=y:=⟨_,rfl⟩
    have HY:=Hh hy;rw[hy]at ZS⊢;rw[HY.out]at Ww;have iR:=Hh (And.intro (HI.out.mono yz.kn.grows.le) ZS);replace yz:=yz.alloc (zW y ya yb yc yd);have x0:=yz.box.cell 0 rfl;have x1:=yz.box.cell 1 rfl;have x2:=yz.box.cell 2 rfl;have x3:=yz.box.cell 3 rfl;clear hvq ZS hy;go_wp2_with fail
    refine(Xi (HT.out.mono yz.kn.grows.le) iR.out.1 iR.out.2 HV.out Ww.out _ yz.kn.grows.holds).mono ?_
    rintro e w10 ⟨rfl,vx⟩
    replace yz:=yz.below vx;clear vx x0 x1 x2 x3;obtain⟨cm,pA⟩:∃ cm,Lib.compareBytes (zd x) (zd y)=cm:=⟨_,rfl⟩
    rw[pA]
    by_cases sO:cm=0
    case neg =>
     have Ul:Hid (¬ ∃ q,sm x q):=fun⟨q2,h2⟩=>by
      have e:=HF.out;rw[oF h2]at e;obtain rfl:=Option.some.inj e;have e2:x=y:=by rw[← h2.2];exact HY.out
      rw[e2,sr]at pA
      exact sO pA.symm
     have bc0:(cm != 0)=true:=by simp[sO]
     have pc0:(cm=0)=False:=eq_false sO;clear sO pA;have sf:=yz.kn.res;have uE:=Hh yz.kn;clear yz;go_wp2_with (with_reducible refine zx ?_)
     refine zc rfl _ _ _ rfl rfl _ _ rfl rfl _ _ sf zM rfl (tm _ _ _ _ _ _ _ rfl rfl rfl rfl rfl rfl rfl) fun wz hRz zU=>?_
     have zP:=uE.out.grows.grownOwn uE.out.hR uE.out.wR zU;clear uE sf zU;go_wp2_with fail
     refine zv rfl rfl hRz rfl rfl zM rfl ?_
     exact .inr (.inl ⟨HV.out,Ul.out,rfl,zP.below⟩)
    subst sO
    have VT:Hid (x=y):=by
     have e3:=(rM _ _).1 pA
     exact(fV x y 0 0 [] [] (Fits.of HV.out iR.out.1.nums) (Fits.of Ww.out iR.out.2.nums) (by rw[e3])).1
    clear pA;have k0:=yz.kn.key.cell 0 rfl;have k1:=yz.kn.key.cell 1 rfl;have k2:=yz.kn.key.cell 2 rfl;have k3:=yz.kn.key.cell 3 rfl;have k4:=yz.kn.key.cell 4 rfl;have k5:=yz.kn.key.cell 5 rfl;have k6:=yz.kn.key.cell 6 rfl;have sf:=yz.kn.res;have uE:=Hh yz.kn;clear yz;go_wp2_with (with_reducible refine zx ?_)
    refine zc rfl _ _ _ rfl rfl _ _ rfl rfl _ _ sf zM rfl (tm _ _ _ _ _ _ _ rfl rfl rfl rfl rfl rfl rfl) fun wz hRz zU=>?_
    have zP:=uE.out.grows.grownOwn uE.out.hR uE.out.wR zU;clear uE sf zU;go_wp2_with fail
    refine zv rfl rfl hRz rfl rfl zM rfl ?_
    exact .inr (.inr ⟨q,a,_,HV.out,⟨P8.out,by rw[VT.out];exact HY.out⟩,rfl,zP,wJ.out⟩)
  have qs:j+1<x.items.length:=by have:=gQ.out;have:=br.out;omega
  have gF:x.items.length≤256:=(we HV.out).2.1;have lG:(j:Int)<x.items.length:=by omega
  have Yu:(j:Int)+1<x.items.length:=by omega
  have Rr:(0:Int)≤(j:Int)+1:=by omega
  have av:(j:Int)+2≤9223372036854775807:=by omega
  have QM:IntKind.i64.wrap ((j:Int)+1)=(j:Int)+1:=IntWalk.i64_in _ (by omega);obtain⟨ib,io,tj,wI⟩:=HI.out.items (by omega);obtain⟨y1,y2,y3,y4,q0,q1,q2,q3,iW⟩:=wI.get j yi;obtain⟨z1,z2,z3,z4,s0,s1,s2,s3,ji⟩:=wI.get (j+1) qs;subst tj;have mc:=Hh (dB q x.items j qs);have Zn:=Hh (pg HV.out (List.getElem_mem qs));have nw:=Hh (And.intro yi (And.intro qs gF))
  generalize x.items[j]'yi=y at *
  generalize x.items[j+1]'qs=z at *
  have eC:=Hh (And.intro iW ji);have HS:=Hh (And.intro s0 (And.intro s1 (And.intro s2 s3)));have hh:=yz.kn.grows.holds.mono yz.kn.grows.le;have q0:=hh.cell q0;have q1:=hh.cell q1;have q2:=hh.cell q2;have q3:=hh.cell q3;clear wI iW ji s0 s1 s2 s3 yi qs hh hj gF;go_wp2_with fail
  refine(kD eC.out.1.arg _).mono ?_
  intro e w5 hs
  unfold dY at hs
  have Yv:∃ (ok:Bool) (k:Int),e=.returned (.tuple #[.int .i64 k,.bool ok])∧Below wr.heap.size wr w5∧(ok=true→nmP y=some k)∧(ok=false→nmP y=none∧k=0):=by
   cases hn:nmP y with
   | none=>rw[hn]at hs;exact⟨false,0,hs.1,hs.2,(fun h=>by cases h),(fun _=>⟨rfl,rfl⟩)⟩
   | some k=>rw[hn]at hs;exact⟨true,k,hs.1,hs.2,(fun _=>rfl),(fun h=>by cases h)⟩
  clear hs;obtain⟨ok,k,rfl,ow,tG,sE⟩:=Yv;have Oq:=Hh (And.intro tG sE);clear tG sE;replace yz:=yz.below ow;clear ow q0 q1 q2 q3 a3;have a3:=yz.box.cell 3 rfl;have hh:=yz.kn.grows.holds.mono yz.kn.grows.le;have s0:=hh.cell HS.out.1;have s1:=hh.cell HS.out.2.1;have s2:=hh.cell HS.out.2.2.1;have s3:=hh.cell HS.out.2.2.2;have hP:=Blk.new w5 26 #[.int .i64 z.kind,.int .u64 z.n,.slice z1 z.bytes.length z2,.slice z3 z.items.length z4];replace yz:=yz.alloc (zW z z1 z2 z3 z4);clear hh;go_wp2_with fail
  refine(kD eC.out.2.arg _).mono ?_
  intro e w6 hs
  unfold dY at hs
  have Yv:∃ (is:Bool) (n:Int),e=.returned (.tuple #[.int .i64 n,.bool is])∧Below (w5.alloc (zW z z1 z2 z3 z4)).heap.size (w5.alloc (zW z z1 z2 z3 z4)) w6∧(is=true→nmP z=some n)∧(is=false→nmP z=none∧n=0):=by
   cases hn:nmP z with
   | none=>rw[hn]at hs;exact⟨false,0,hs.1,hs.2,(fun h=>by cases h),(fun _=>⟨rfl,rfl⟩)⟩
   | some k=>rw[hn]at hs;exact⟨true,k,hs.1,hs.2,(fun _=>rfl),(fun h=>by cases h)⟩
  clear hs;obtain⟨is,n,rfl,wQ,uy,tb⟩:=Yv;have VS:=Hh (And.intro uy tb);clear uy tb;obtain⟨P,ZW⟩:∃ P,w5.heap.size=P:=⟨_,rfl⟩
  rw[ZW]at hP⊢;replace yz:=yz.below wQ;replace hP:=hP.below wQ;clear wQ s0 s1 s2 s3 a3 ZW;have z0:=hP.cell 0 rfl;have zb:=hP.cell 2 rfl;clear hP
  cases ok with
  | false =>
   obtain⟨PF,qN⟩:=Oq.out.2 rfl;subst qN;have PF:=Hh PF
   have L2:(Instr.lookup 70 (.map (some M2)) (.int .i64 0) false).run Tryz.prog w6=.ok (.pointer none) w6:=by
    have rI:=wn Tryz.underlying70 Tryz.underlying3 yz.m2 (Tryz.zeroValue69 w6) (0);rw[show ry (mY K) 0=none from rfl]at rI
    exact rI
   have Wu:Hid (wV wh x.items=none):=by rw[Hid,← lI.out,mc.out];rw[sn,PF.out]
   clear mc;have sf:=yz.kn.res;have uE:=Hh yz.kn;clear yz;go_wp2_with (with_reducible refine zx ?_)
   refine zc rfl _ _ _ rfl rfl _ _ rfl rfl _ _ sf zM rfl (tm _ _ _ _ _ _ _ rfl rfl rfl rfl rfl rfl rfl) fun wz hRz zU=>?_
   have zP:=uE.out.grows.grownOwn uE.out.hR uE.out.wR zU;clear uE sf zU;go_wp2_with fail
   refine zv rfl rfl hRz rfl rfl zM rfl ?_
   exact .inr (.inl ⟨HV.out,mw Wu.out,rfl,zP.below⟩)
  | true =>
  have PG:=Hh (Oq.out.1 rfl);clear Oq
  cases is with
  | true =>
   have VV:=Hh (VS.out.1 rfl);clear VS;have lw:Hid (sn q y z=iH q k n):=by rw[Hid,sn,PG.out];simp only[VV.out]
   have QF:¬ z.kind=2:=fun h=>by
    obtain⟨zk,zn,zbs,zl⟩:=z;have e:=VV.out
    simp only[Itm.kind]at h
    subst h;rw[W4]at e
    cases e
   have bz2:(z.kind==2)=false:=by rw[beq_eq_false_iff_ne];exact QF
   have pz2:(z.kind=2)=False:=eq_false QF;clear QF;have tn : -9223372036854775808≤n∧n≤9223372036854775807:=aQ VV.out;have Zj:=Hh tn;clear tn
   by_cases qN:k=1
   ·subst qN
    have L1:(Instr.lookup 68 (.map (some (K+1))) (.int .i64 1) false).run Tryz.prog w6=.ok (.pointer (some ⟨K,0,none⟩)) w6:=by
     have rI:=wn Tryz.underlying68 Tryz.underlying3 yz.m1 (Tryz.zeroValue67 w6) (1)
     exact rI
    go_wp2_with (with_reducible refine zx ?_)
    refine zu rfl _ _ _ rfl rfl K 0 (.int .i64 n) rfl rfl _ _ yz.kn.key (by kernel_rfl) (by simp) rfl fun wt hBt hgt=>?_
    replace yz:=yz.set (kc':=xU { q with kty:=n } a) hBt hgt;clear hBt hgt L1 z0 zb;go_wp2_with fail
    go_roundw
    case rel=>exact⟨j+2,{ q with kty:=n },a,_,by have:=nw.out;omega,by have:=gQ.out;omega,by go_num,yz,⟨Zj.out,wJ.out.crv,wJ.out.alg,wJ.out.kid,wJ.out.x,wJ.out.d,wJ.out.k⟩,by rw[← lI.out,mc.out,lw.out];rfl⟩
    case measure=>have:=nw.out;simp[intOf];omega
   by_cases sE:k=3
   ·subst sE
    have L1:(Instr.lookup 68 (.map (some (K+1))) (.int .i64 3) false).run Tryz.prog w6=.ok (.pointer (some ⟨K,2,none⟩)) w6:=by
     have rI:=wn Tryz.underlying68 Tryz.underlying3 yz.m1 (Tryz.zeroValue67 w6) (3)
     exact rI
    go_wp2_with (with_reducible refine zx ?_)
    refine zu rfl _ _ _ rfl rfl K 2 (.int .i64 n) rfl rfl _ _ yz.kn.key (by kernel_rfl) (by simp) rfl fun wt hBt hgt=>?_
    replace yz:=yz.set (kc':=xU { q with alg:=n } a) hBt hgt;clear hBt hgt L1 z0 zb;go_wp2_with fail
    go_roundw
    case rel=>exact⟨j+2,{ q with alg:=n },a,_,by have:=nw.out;omega,by have:=gQ.out;omega,by go_num,yz,⟨wJ.out.kty,wJ.out.crv,Zj.out,wJ.out.kid,wJ.out.x,wJ.out.d,wJ.out.k⟩,by rw[← lI.out,mc.out,lw.out];rfl⟩
    case measure=>have:=nw.out;simp[intOf];omega
   by_cases tG:k = -1
   ·subst tG
    have L1:(Instr.lookup 68 (.map (some (K+1))) (.int .i64 (-1)) false).run Tryz.prog w6=.ok (.pointer (some ⟨K,1,none⟩)) w6:=by
     have rI:=wn Tryz.underlying68 Tryz.underlying3 yz.m1 (Tryz.zeroValue67 w6) ((-1))
     exact rI
    go_wp2_with (with_reducible refine zx ?_)
    refine zu rfl _ _ _ rfl rfl K 1 (.int .i64 n) rfl rfl _ _ yz.kn.key (by kernel_rfl) (by simp) rfl fun wt hBt hgt=>?_
    replace yz:=yz.set (kc':=xU { q with crv:=n } a) hBt hgt;clear hBt hgt L1 z0 zb;go_wp2_with fail
    go_roundw
    case rel=>exact⟨j+2,{ q with crv:=n },a,_,by have:=nw.out;omega,by have:=gQ.out;omega,by go_num,yz,⟨wJ.out.kty,Zj.out,wJ.out.alg,wJ.out.kid,wJ.out.x,wJ.out.d,wJ.out.k⟩,by rw[← lI.out,mc.out,lw.out];rfl⟩
    case measure=>have:=nw.out;simp[intOf];omega
   have VR:=Hh (And.intro qN (And.intro sE tG))
   have L1:(Instr.lookup 68 (.map (some (K+1))) (.int .i64 k) false).run Tryz.prog w6=.ok (.pointer none) w6:=by
    have rI:=wn Tryz.underlying68 Tryz.underlying3 yz.m1 (Tryz.zeroValue67 w6) (k);rw[eo qN sE tG]at rI
    exact rI
   obtain⟨u2,Zr⟩:∃ u2,(ry (mY K) k).getD (.pointer none)=u2:=⟨_,rfl⟩
   have L2:(Instr.lookup 70 (.map (some M2)) (.int .i64 k) false).run Tryz.prog w6=.ok (u2) w6:=by
    have rI:=wn Tryz.underlying70 Tryz.underlying3 yz.m2 (Tryz.zeroValue69 w6) (k);rw[Zr]at rI
    exact rI
   have QB:u2=.pointer none∨∃ p,u2=.pointer (some p):=by rw[← Zr];exact kF K k
   clear qN tG sE Zr;have Wu:Hid (wV wh x.items=none):=by rw[Hid,← lI.out,mc.out,lw.out,iH,if_neg VR.out.1,if_neg VR.out.2.1,if_neg VR.out.2.2]
   clear mc
   rcases QB with rfl | ⟨p,rfl⟩
   ·have sf:=yz.kn.res;have uE:=Hh yz.kn;clear yz;go_wp2_with (with_reducible refine zx ?_)
    refine zc rfl _ _ _ rfl rfl _ _ rfl rfl _ _ sf zM rfl (tm _ _ _ _ _ _ _ rfl rfl rfl rfl rfl rfl rfl) fun wz hRz zU=>?_
    have zP:=uE.out.grows.grownOwn uE.out.hR uE.out.wR zU;clear uE sf zU;go_wp2_with fail
    refine zv rfl rfl hRz rfl rfl zM rfl ?_
    exact .inr (.inl ⟨HV.out,mw Wu.out,rfl,zP.below⟩)
   ·have sf:=yz.kn.res;have uE:=Hh yz.kn;clear yz;go_wp2_with (with_reducible refine zx ?_)
    refine zc rfl _ _ _ rfl rfl _ _ rfl rfl _ _ sf zM rfl (tm _ _ _ _ _ _ _ rfl rfl rfl rfl rfl rfl rfl) fun wz hRz zU=>?_
    have zP:=uE.out.grows.grownOwn uE.out.hR uE.out.wR zU;clear uE sf zU;go_wp2_with fail
    refine zv rfl rfl hRz rfl rfl zM rfl ?_
    exact .inr (.inl ⟨HV.out,mw Wu.out,rfl,zP.below⟩)
  | false =>
   obtain⟨VV,zQ⟩:=VS.out.2 rfl;subst zQ;have VV:=Hh VV;clear VS
   by_cases o4:z.kind=2
   case neg =>
    have lw:Hid (sn q y z=none):=by rw[Hid,sn,PG.out];simp only[VV.out,if_neg o4]
    have bz2:(z.kind==2)=false:=by rw[beq_eq_false_iff_ne];exact o4
    have pz2:(z.kind=2)=False:=eq_false o4;clear o4;obtain⟨u2,Zr⟩:∃ u2,(ry (mY K) k).getD (.pointer none)=u2:=⟨_,rfl⟩
    have L2:(Instr.lookup 70 (.map (some M2)) (.int .i64 k) false).run Tryz.prog w6=.ok (u2) w6:=by
     have rI:=wn Tryz.underlying70 Tryz.underlying3 yz.m2 (Tryz.zeroValue69 w6) (k);rw[Zr]at rI
     exact rI
    have QB:u2=.pointer none∨∃ p,u2=.pointer (some p):=by rw[← Zr];exact kF K k
    clear Zr;have Wu:Hid (wV wh x.items=none):=by rw[Hid,← lI.out,mc.out,lw.out]
    clear mc
    rcases QB with rfl | ⟨p,rfl⟩
    ·have sf:=yz.kn.res;have uE:=Hh yz.kn;clear yz;go_wp2_with (with_reducible refine zx ?_)
     refine zc rfl _ _ _ rfl rfl _ _ rfl rfl _ _ sf zM rfl (tm _ _ _ _ _ _ _ rfl rfl rfl rfl rfl rfl rfl) fun wz hRz zU=>?_
     have zP:=uE.out.grows.grownOwn uE.out.hR uE.out.wR zU;clear uE sf zU;go_wp2_with fail
     refine zv rfl rfl hRz rfl rfl zM rfl ?_
     exact .inr (.inl ⟨HV.out,mw Wu.out,rfl,zP.below⟩)
    ·have sf:=yz.kn.res;have uE:=Hh yz.kn;clear yz;go_wp2_with (with_reducible refine zx ?_)
     refine zc rfl _ _ _ rfl rfl _ _ rfl rfl _ _ sf zM rfl (tm _ _ _ _ _ _ _ rfl rfl rfl rfl rfl rfl rfl) fun wz hRz zU=>?_
     have zP:=uE.out.grows.grownOwn uE.out.hR uE.out.wR zU;clear uE sf zU;go_wp2_with fail
     refine zv rfl rfl hRz rfl rfl zM rfl ?_
     exact .inr (.inl ⟨HV.out,mw Wu.out,rfl,zP.below⟩)
   have lw:Hid (sn q y z=ko q k z.bytes):=by rw[Hid,sn,PG.out];simp only[VV.out,if_pos o4]
   have bz2:(z.kind==2)=true:=by rw[beq_iff_eq];exact o4
   have pz2:(z.kind=2)=True:=eq_true o4;clear o4
   by_cases nI:k=2
   ·subst nI
    have L2:(Instr.lookup 70 (.map (some M2)) (.int .i64 2) false).run Tryz.prog w6=.ok (.pointer (some ⟨K,3,none⟩)) w6:=by
     have rI:=wn Tryz.underlying70 Tryz.underlying3 yz.m2 (Tryz.zeroValue69 w6) (2)
     exact rI
    go_wp2_with fail
    refine(vV _ z1 z.bytes z.bytes.length z2 rfl (by have:=(we Zn.out).1;omega) (Src.of_row (eC.out.2.mono yz.kn.grows.le).bytes.row yz.kn.grows.holds)).mono ?_
    rintro e w7 ⟨r7,rfl,eH⟩
    obtain⟨A7,c7,rfl,uD⟩:=eH.own.form;clear uD;obtain⟨H7,wP,wj,uD⟩:=Fresh.snapB yz.kn.grows.holds eH;clear uD eH;replace yz:=yz.grow wP;replace wJ:=Hh (wJ.out.mono wP.le);have e8:=Hh wj;clear wP wj L2 z0 zb;go_wp2_with (with_reducible refine zx ?_)
    refine zu rfl _ _ _ rfl rfl K 3 (.slice A7 z.bytes.length c7) rfl rfl _ _ yz.kn.key (by kernel_rfl) (by simp) rfl fun wt hBt hgt=>?_
    replace yz:=yz.set (kc':=xU { q with kid:=z.bytes } { a with ia:=A7,ic:=c7 }) hBt hgt;clear hBt hgt;go_wp2_with fail
    go_roundw
    case rel=>exact⟨j+2,{ q with kid:=z.bytes },{ a with ia:=A7,ic:=c7 },_,by have:=nw.out;omega,by have:=gQ.out;omega,by go_num,yz,⟨wJ.out.kty,wJ.out.crv,wJ.out.alg,e8.out,wJ.out.x,wJ.out.d,wJ.out.k⟩,by rw[← lI.out,mc.out,lw.out];rfl⟩
    case measure=>have:=nw.out;simp[intOf];omega
   by_cases V4:k = -1
   ·subst V4
    have L2:(Instr.lookup 70 (.map (some M2)) (.int .i64 (-1)) false).run Tryz.prog w6=.ok (.pointer (some ⟨K,6,none⟩)) w6:=by
     have rI:=wn Tryz.underlying70 Tryz.underlying3 yz.m2 (Tryz.zeroValue69 w6) ((-1))
     exact rI
    go_wp2_with fail
    refine(vV _ z1 z.bytes z.bytes.length z2 rfl (by have:=(we Zn.out).1;omega) (Src.of_row (eC.out.2.mono yz.kn.grows.le).bytes.row yz.kn.grows.holds)).mono ?_
    rintro e w7 ⟨r7,rfl,eH⟩
    obtain⟨A7,c7,rfl,uD⟩:=eH.own.form;clear uD;obtain⟨H7,wP,wj,uD⟩:=Fresh.snapB yz.kn.grows.holds eH;clear uD eH;replace yz:=yz.grow wP;replace wJ:=Hh (wJ.out.mono wP.le);have e8:=Hh wj;clear wP wj L2 z0 zb;go_wp2_with (with_reducible refine zx ?_)
    refine zu rfl _ _ _ rfl rfl K 6 (.slice A7 z.bytes.length c7) rfl rfl _ _ yz.kn.key (by kernel_rfl) (by simp) rfl fun wt hBt hgt=>?_
    replace yz:=yz.set (kc':=xU { q with k:=z.bytes } { a with ka:=A7,kc:=c7 }) hBt hgt;clear hBt hgt;go_wp2_with fail
    go_roundw
    case rel=>exact⟨j+2,{ q with k:=z.bytes },{ a with ka:=A7,kc:=c7 },_,by have:=nw.out;omega,by have:=gQ.out;omega,by go_num,yz,⟨wJ.out.kty,wJ.out.crv,wJ.out.alg,wJ.out.kid,wJ.out.x,wJ.out.d,e8.out⟩,by rw[← lI.out,mc.out,lw.out];rfl⟩
    case measure=>have:=nw.out;simp[intOf];omega
   by_cases XY:k = -2
   ·subst XY
    have L2:(Instr.lookup 70 (.map (some M2)) (.int .i64 (-2)) false).run Tryz.prog w6=.ok (.pointer (some ⟨K,4,none⟩)) w6:=by
     have rI:=wn Tryz.underlying70 Tryz.underlying3 yz.m2 (Tryz.zeroValue69 w6) ((-2))
     exact rI
    go_wp2_with fail
    refine(vV _ z1 z.bytes z.bytes.length z2 rfl (by have:=(we Zn.out).1;omega) (Src.of_row (eC.out.2.mono yz.kn.grows.le).bytes.row yz.kn.grows.holds)).mono ?_
    rintro e w7 ⟨r7,rfl,eH⟩
    obtain⟨A7,c7,rfl,uD⟩:=eH.own.form;clear uD;obtain⟨H7,wP,wj,uD⟩:=Fresh.snapB yz.kn.grows.holds eH;clear uD eH;replace yz:=yz.grow wP;replace wJ:=Hh (wJ.out.mono wP.le);have e8:=Hh wj;clear wP wj L2 z0 zb;go_wp2_with (with_reducible refine zx ?_)
    refine zu rfl _ _ _ rfl rfl K 4 (.slice A7 z.bytes.length c7) rfl rfl _ _ yz.kn.key (by kernel_rfl) (by simp) rfl fun wt hBt hgt=>?_
    replace yz:=yz.set (kc':=xU { q with x:=z.bytes } { a with xa:=A7,xc:=c7 }) hBt hgt;clear hBt hgt;go_wp2_with fail
    go_roundw
    case rel=>exact⟨j+2,{ q with x:=z.bytes },{ a with xa:=A7,xc:=c7 },_,by have:=nw.out;omega,by have:=gQ.out;omega,by go_num,yz,⟨wJ.out.kty,wJ.out.crv,wJ.out.alg,wJ.out.kid,e8.out,wJ.out.d,wJ.out.k⟩,by rw[← lI.out,mc.out,lw.out];rfl⟩
    case measure=>have:=nw.out;simp[intOf];omega
   by_cases bF:k = -4
   ·subst bF
    have L2:(Instr.lookup 70 (.map (some M2)) (.int .i64 (-4)) false).run Tryz.prog w6=.ok (.pointer (some ⟨K,5,none⟩)) w6:=by
     have rI:=wn Tryz.underlying70 Tryz.underlying3 yz.m2 (Tryz.zeroValue69 w6) ((-4))
     exact rI
    go_wp2_with fail
    refine(vV _ z1 z.bytes z.bytes.length z2 rfl (by have:=(we Zn.out).1;omega) (Src.of_row (eC.out.2.mono yz.kn.grows.le).bytes.row yz.kn.grows.holds)).mono ?_
    rintro e w7 ⟨r7,rfl,eH⟩
    obtain⟨A7,c7,rfl,uD⟩:=eH.own.form;clear uD;obtain⟨H7,wP,wj,uD⟩:=Fresh.snapB yz.kn.grows.holds eH;clear uD eH;replace yz:=yz.grow wP;replace wJ:=Hh (wJ.out.mono wP.le);have e8:=Hh wj;clear wP wj L2 z0 zb;go_wp2_with (with_reducible refine zx ?_)
    refine zu rfl _ _ _ rfl rfl K 5 (.slice A7 z.bytes.length c7) rfl rfl _ _ yz.kn.key (by kernel_rfl) (by simp) rfl fun wt hBt hgt=>?_
    replace yz:=yz.set (kc':=xU { q with d:=z.bytes } { a with da:=A7,dc:=c7 }) hBt hgt;clear hBt hgt;go_wp2_with fail
    go_roundw
    case rel=>exact⟨j+2,{ q with d:=z.bytes },{ a with da:=A7,dc:=c7 },_,by have:=nw.out;omega,by have:=gQ.out;omega,by go_num,yz,⟨wJ.out.kty,wJ.out.crv,wJ.out.alg,wJ.out.kid,wJ.out.x,e8.out,wJ.out.k⟩,by rw[← lI.out,mc.out,lw.out];rfl⟩
    case measure=>have:=nw.out;simp[intOf];omega
   have VR:=Hh (And.intro nI (And.intro V4 (And.intro XY bF)))
   have L2:(Instr.lookup 70 (.map (some M2)) (.int .i64 k) false).run Tryz.prog w6=.ok (.pointer none) w6:=by
    have rI:=wn Tryz.underlying70 Tryz.underlying3 yz.m2 (Tryz.zeroValue69 w6) (k);rw[mP nI V4 XY bF]at rI
    exact rI
   clear nI XY bF V4;have Wu:Hid (wV wh x.items=none):=by rw[Hid,← lI.out,mc.out,lw.out,ko,if_neg VR.out.1,if_neg VR.out.2.1,if_neg VR.out.2.2.1,if_neg VR.out.2.2.2]
   clear mc;have sf:=yz.kn.res;have uE:=Hh yz.kn;clear yz;go_wp2_with (with_reducible refine zx ?_)
   refine zc rfl _ _ _ rfl rfl _ _ rfl rfl _ _ sf zM rfl (tm _ _ _ _ _ _ _ rfl rfl rfl rfl rfl rfl rfl) fun wz hRz zU=>?_
   have zP:=uE.out.grows.grownOwn uE.out.hR uE.out.wR zU;clear uE sf zU;go_wp2_with fail
   refine zv rfl rfl hRz rfl rfl zM rfl ?_
   exact .inr (.inl ⟨HV.out,mw Wu.out,rfl,zP.below⟩)
end Go.Proofs.YtnlinmoiakgedaaGreatDoor
