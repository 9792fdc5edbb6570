/- squeezed. Walks: the program's reader of ite -/
import Derived.Test.YtliomcphdnppnaaGreatDoorK32
set_option linter.unusedVariables false
set_option linter.unusedSimpArgs false
set_option maxRecDepth 100000
set_option maxHeartbeats 6400000
namespace Go.Proofs.YtliomcphdnppnaaGreatDoor
open Go.RowKit
theorem jab{P:Prop}(h:P:=by
 have ITH2:=Hh (ih w9 H5 g (some ⟨b,off,none⟩) c l (P1+k) c1 lv (hTab.mono dN.grows.le) hlv dN.psr);clear a0 a1;go_wp2_with fail
 refine ITH2.out.mono ?_
 intro e w12 hs
 cases lB:zQ d (l.drop (P1+k)) c1 with
 | err q =>
  rw[lB,ItemOut]at hs;obtain⟨rfl,H6,p6,cnt6,tX⟩:=hs;have oG:((q:Int) != 0)=true:=by rw[bne_iff_ne];have:=wL _ _ _ _ lB;omega
  have WS:((q:Int)=0)=False:=eq_false (by have:=wL _ _ _ _ lB;omega);have E:Hid (dA (uk (zQ d) n (l.drop p) cnt none)=.err q):=by rw[Hid,ji.out,YN L k0 Ek.out Lp.out (by rw[List.drop_drop];exact lB)];rfl
  have mZ:=dN.trans tX;have qx:=od.rdg tX (by omega);have cf:=tX.hid nP od.lt;have hZ:=Blk.new w12 26 #[.int .i64 0,.int .u64 0,.slice none 0 0,.slice none 0 0];have IZ:H6 w12.heap.size=none:=mZ.psr.holds.none_of_ge (Nat.le_refl _);have kW:=Hh qx.lt;have fM:=mZ.alloc zi;have nz:=qx.alloc zi;clear ITH2 lB tX mZ qx dN od im Md gj;go_wp2_with (with_reducible refine zx ?_)
  refine stI hZ fun w15 hZ15 hg15=>?_
  have aN:=fM.gb IZ (Nat.le_of_lt kW.out) wl hg15;have aK:=nz.grown hg15 (by intro e;injection e with e;have:=kW.out;omega);clear fM nz hZ hg15 hZ15;go_wp2_with (with_reducible refine zx ?_)
  refine stI aK fun wz hTy yS=>?_
  have wK:=aN.gb cf (Nat.le_refl _) wl yS;exact jey
 | ok y k2 c2 =>
 rw[lB,ItemOut]at hs;obtain⟨ka,kb,kd,ke,H6,rfl,tX,rV⟩:=hs
 have DK:Hid (uk (zQ d) n (l.drop p) cnt none=(uk (zQ d) m1 (l.drop (p+(k0+(k+k2)))) c2 (some key)).pre (L++[x,y]) (k0+(k+k2))):=by
  rw[Hid,ji.out,Te L k0 Ek.out Lp.out (by rw[List.drop_drop];exact lB),P6.out,List.drop_drop,← L9.out];rw[show p+k0+(k+k2)=p+(k0+(k+k2)) by omega]
 have I4:Hid ((L++[x,y]).length≤c2):=by
  have h1:=J8.out;have h2:=qW d _ _ _ _ _ lB;have:=I8.out;rw[Hid,List.length_append];simp;omega
 have mZ:=dN.trans tX;have zAB:=mZ.psr.cnt_le;have qx:=od.rdg tX (by omega);have cf:=tX.hid nP od.lt;have WF:=im.rdg tX (by have:=uJ.out;omega);have Yq:=tX.hid PV im.lt;have WJ:=Md.rdg tX (by have:=hYg.out;omega);have WA:=(gj.rdg tX (by have:=uJ.out;omega)).mono tX.grows.le;have Yt:∀ q,(Value.slice VA L.length vc).ownBlock=some q→H6 q=none:=fun q hq=>tX.hid (Pk q hq) (gj.lt q hq).2
 have hZ:=Blk.new w12 26 #[.int .i64 0,.int .u64 0,.slice none 0 0,.slice none 0 0];have IZ:H6 w12.heap.size=none:=mZ.psr.holds.none_of_ge (Nat.le_refl _);have kW:=Hh (And.intro qx.lt (And.intro WF.lt WJ.lt));have aO:=Hh (show ∀ q,(Value.slice VA L.length vc).ownBlock=some q→X+1≤q∧q<w12.heap.size from fun q hq=>WA.lt q hq);have fM:=mZ.alloc zi;have nz:=qx.alloc zi;have PT:=WF.alloc zi;have PX:=WJ.alloc zi;have PF:=WA.alloc zi;have Sv:=Hh (show L.length≤256 by have:=I4.out;simp at this;omega);have TD:ItemsC H6 (zV x ja jb jc jd++zV y ka kb kd ke) [x,y]:=(ItemsC.one (Wh.mono tX.grows.le)).app (ItemsC.one rV);clear ITH2 lB tX mZ qx WF WJ WA dN od im Md gj;go_wp2_with (with_reducible refine zx ?_)
 refine stI hZ fun w15 hZ15 hg15=>?_
 have aN:=fM.gb IZ (Nat.le_of_lt kW.out.1) wl hg15;have aK:=nz.grown hg15 (by intro e;injection e with e;have:=kW.out.1;omega);have WG:=PT.grown hg15 (by intro e;injection e with e;have:=kW.out.2.1;omega);have fL:=PX.grown hg15 (by intro e;injection e with e;have:=kW.out.2.2;omega);have PG:=PF.kl hg15 (fun q hv=>by have:=(aO.out q hv).2;omega);have b0:=hZ15.cell 0 rfl;have b1:=hZ15.cell 1 rfl;have b2:=hZ15.cell 2 rfl;have b3:=hZ15.cell 3 rfl;have y0:=fL.cell 0 rfl;have y1:=fL.cell 1 rfl;have y2:=fL.cell 2 rfl;have y3:=fL.cell 3 rfl;have x3:=WG.cell 3 rfl;have WN:=aN.alloc (.cells (zV x ja jb jc jd++zV y ka kb kd ke).toArray 26);have WB:=aK.alloc (.cells (zV x ja jb jc jd++zV y ka kb kd ke).toArray 26);have WI:=WG.alloc (.cells (zV x ja jb jc jd++zV y ka kb kd ke).toArray 26)
 have PI:=PG.alloc (.cells (zV x ja jb jc jd++zV y ka kb kd ke).toArray 26);clear fM nz PT PX PF hZ hg15 aN aK WG fL PG;go_wp2_with (at_builtin;refine zH ?_)
 refine xr rfl (.tmp 72) (.tmp 75) rfl (X+1) (.slice VA L.length vc) H6 _ rfl PI _ 2 _ (zV x ja jb jc jd++zV y ka kb kd ke) [x,y] rfl rfl TD (Src.new _ _ _ _ rfl _ rfl) (by have:=Sv.out;simp;omega) WI.lt fun v' w17 hO17 hg17 hat17=>?_
 obtain⟨VA',vc',rfl,_⟩:=hO17.form;have PO:=WB.grown hg17 (fun e=>by have:=(aO.out _ e).1;have:=uJ.out;omega);have PU:=WI.grown hg17 (fun e=>by have:=(aO.out _ e).1;omega);have Pj:=oR WN.psr.holds Yt hat17;have PY:=WN.grownRow Yt (fun q hq=>by have:=(aO.out q hq).1;have:=uJ.out;omega) wl hg17;obtain⟨L',fT⟩:∃ L',L++[x,y]=L':=⟨_,rfl⟩
 rw[fT]at hO17 Pj DK I4⊢;have pH:Hid (L'.length=L.length+2):=by rw[Hid,← fT];simp
 clear fT WN WB WI PI hg17 hat17 x3 y0 y1 y2 y3 b0 b1 b2 b3 hZ15;have Oo:=Hh (show ∀ q,(Value.slice VA' L'.length vc').ownBlock=some q→X+1≤q from fun q hq=>(hO17.lt q hq).1);go_wp2_with (with_reducible refine zx ?_)
 refine zj rfl _ _ _ rfl rfl X 3 _ rfl rfl _ _ PU tx (by simp) rfl fun w18 Si hg18=>?_
 have PZ:=PY.gb Yq (Nat.le_of_lt uJ.out) wl hg18;have Gh:=PO.grown hg18 (by intro e;injection e with e;have:=uJ.out;omega)
 have Ge:=hO17.kept hg18 (by
  cases hv:(Value.slice VA' L'.length vc').ownBlock with
  | none=>exact .inl rfl
  | some q=>exact .inr (fun e=>by injection e with e;have:=Oo.out q hv;omega))
 have KI:IntKind.u64.wrap ((i:Int)+1)=(i:Int)+1:=by rw[IntKind.wrap_u64];have:=jv.out;omega
 rw[show P1+k+k2=p+(k0+(k+k2)) by have:=L9.out;omega]at PZ;have Pg:=Hh fU;clear PY PO PU hO17 hg18 fU;go_wp2_with fail
 go_roundw
 case rel=>exact⟨i+1,H6,VA',vc',_,L',k0+(k+k2),c2,some key,_,_,_,by first | rfl | (simp;done) | go_num,rfl,by have:=Pg.out;omega,rfl,.inr ⟨by omega,key,rfl,Lo.out,by have:=L7.out.1;have:=Bk.out;have:=Lo.out;omega,HSK.out⟩,PZ,Gh,cf,Si,Yq,Ge,Pj,I4.out,by rw[IC.out];exact DK.out⟩
 case measure=>have:=Pg.out;simp[intOf];omega):P:=h
section
variable {p:List UInt8→Nat→PR} {m:Nat} {b:List UInt8} {cc q k c1 k2 c2:Nat} {x y:Itm} {last:Option (List UInt8)}
theorem NS (L:List Itm) (k0:Nat) (h:p b cc=.err q):(uk p (m+1) b cc last).pre L k0=.err q:=by rw[uk,h];rfl
theorem YO (L:List Itm) (k0:Nat) (h:p b cc=.ok x k c1) (h2:n9 last (b.take k)=some q):(uk p (m+1) b cc last).pre L k0=.err q:=by rw[uk,h];simp only;rw[h2];rfl
theorem YN (L:List Itm) (k0:Nat) (h:p b cc=.ok x k c1) (h2:n9 last (b.take k)=none) (h3:p (b.drop k) c1=.err q):(uk p (m+1) b cc last).pre L k0=.err q:=by rw[uk,h];simp only;rw[h2];simp only;rw[h3];rfl
theorem Te (L:List Itm) (k0:Nat) (h:p b cc=.ok x k c1) (h2:n9 last (b.take k)=none) (h3:p (b.drop k) c1=.ok y k2 c2):(uk p (m+1) b cc last).pre L k0=(uk p m (b.drop (k+k2)) c2 (some (b.take k))).pre (L++[x,y]) (k0+(k+k2)):=by
 rw[uk,h];simp only;rw[h2];simp only;rw[h3];simp only
 cases uk p m (b.drop (k+k2)) c2 (some (b.take k)) with
 | err q=>rfl
 | ok l k3 c3=>simp[PL.pre,Nat.add_assoc]
end
def dA (r:PL):PR:=match r with
 | .err q=>.err q
 | .ok L k c=>.ok (.mk 5 0 [] L) k c
section
variable {d:Nat} {w:World} {H:Snap} {g:Nat} {A:Option Addr} {c:Nat} {l:List UInt8} {p cnt lv:Nat}
theorem KV (ih:Yo d) (hTab:Tabs H) (hlv:lv+d=8) (hP:Psr 175 w g H A c l p cnt) (UF:0<l.length) (n:Nat) (hn:n<18446744073709551616):Calls Tryz.prog 167 #[.pointer (some ⟨g,0,none⟩),.int .u64 (n:Int),.int .i64 (lv:Int)] w (ItemOut 175 w H g A c l p (dA (uk (zQ d) n (l.drop p) cnt none))):=by
 have wl:=hP.gt;obtain⟨b,off,rfl,mM⟩:=hP.bytes.at_ UF;have DA:=Hh mM;have yO:H w.heap.size=none:=hP.holds.none_of_ge (Nat.le_refl _);have un:H (w.heap.size+1)=none:=hP.holds.none_of_ge (Nat.le_succ _);have tT:=((Rdg.refl hP).alloc zi).alloc zi;have vk:=(Blk.new w 26 #[.int .i64 0,.int .u64 0,.slice none 0 0,.slice none 0 0]).alloc zi;have nL:=Blk.new (w.alloc zi) 26 #[.int .i64 0,.int .u64 0,.slice none 0 0,.slice none 0 0];rw[show(w.alloc zi).heap.size=w.heap.size+1 by simp]at nL;have L7:=Hh (And.intro hP.small (And.intro hP.bytes.le hP.bytes.max));have HHH:=Hh hP.holds;have jv:=Hh hn;have Hi:(lv:Int)≤8:=by omega
 clear mM hn;go_enter Tryz.func167,Tryz.ntmps167
 go_wp2_with (with_reducible refine zx ?_)
 refine stI nL fun w4 T5 oE=>?_
 have tU:=tT.grownRow (row:=some (w.heap.size+1)) (by rintro q ⟨⟩;exact un) (by rintro q ⟨⟩;exact Nat.le_succ _) wl oE;have rF:=vk.gr oE (by omega);clear tT vk nL oE;obtain⟨X,QP⟩:∃ X,w.heap.size+1=X:=⟨_,rfl⟩
 have uJ:Hid (w.heap.size<X):=by rw[Hid];omega
 rw[QP]at T5 un⊢;clear QP;go_wp2_with fail
 go_loopw [9,10] (fun v9 v10 wr=>∃ (i:Nat) (Hr:Snap) (VA:Option Addr) (vc vn:Nat) (L:List Itm) (k0 cc:Nat) (last:Option (List UInt8)) (KB:Option Addr) (kn kc:Nat),v10=.int .u64 (i:Int)∧v9=.slice KB kn kc∧i≤n∧vn=L.length∧
  ((i=0∧last=none)∨(0<i∧∃ key:List UInt8,last=some key∧kn=key.length∧key.length≤4096∧∀ W,Holds W H→Src W KB (key.map zm)))∧
  Rdg 175 w H wr Hr g (some ⟨b,off,none⟩) c l (p+k0) cc∧Blk wr w.heap.size 26 #[.int .i64 0,.int .u64 0,.slice none 0 0,.slice none 0 0]∧Hr w.heap.size=none∧
  Blk wr X 26 #[.int .i64 5,.int .u64 0,.slice none 0 0,.slice VA vn vc]∧Hr X=none∧OwnI wr (X+1) (.slice VA vn vc) Hr L∧(∀ q,(Value.slice VA vn vc).ownBlock=some q→Hr q=none)∧L.length≤cc∧
  uk (zQ d) n (l.drop p) cnt none=(uk (zQ d) (n-i) (l.drop (p+k0)) cc last).pre L k0) (fun _ v10 _=>n-(intOf v10).toNat)
 case atStart=>exact⟨0,H,none,0,0,[],0,cnt,none,none,0,0,rfl,rfl,Nat.zero_le _,rfl,.inl ⟨rfl,rfl⟩,tU,rF,yO,T5,un,OwnI.nil _ _ H,by intro q hq;simp[Value.ownBlock]at hq,by simp,by rw[Tp];rfl⟩
 case round =>
 clear tU rF T5;obtain⟨i,Hr,VA,vc,vn,L,k0,cc,last,KB,kn,kc,rfl,rfl,MJ,rfl,ky,sN,sO,uE,ZL,Gl,ve,lj,Dg,Yu⟩:=hrel;have fH:=Hh Yu;have I8:=Hh Dg;have HIN:=Hh MJ;have Iv:=Hh ky;clear Yu Dg MJ ky
 by_cases tV:i<n
 ·obtain⟨m1,qu⟩:∃ m1,n-i=m1+1:=⟨n-i-1,by omega⟩
  have IC:=Hh (show n-(i+1)=m1 by omega);have ji:Hid (uk (zQ d) n (l.drop p) cnt none=(uk (zQ d) (m1+1) (l.drop (p+k0)) cc last).pre L k0):=by rw[Hid,fH.out,qu]
  obtain⟨P1,MY⟩:∃ P1,p+k0=P1:=⟨_,rfl⟩
  have L9:=Hh MY;rw[MY]at sN ji;clear MY;have fU:(i:Int)<(n:Int):=by omega
  have ITH:=Hh (ih wr Hr g (some ⟨b,off,none⟩) c l P1 cc lv (hTab.mono sN.grows.le) hlv sN.psr);have a1:=sN.psr.blk.cell 1 rfl;clear qu fH;go_wp2_with fail
  refine ITH.out.mono ?_
  intro e w5 hs
  cases hp:zQ d (l.drop P1) cc with
  | err q =>
   rw[hp,ItemOut]at hs;obtain⟨rfl,H5,p5,cnt5,sL⟩:=hs;have oG:((q:Int) != 0)=true:=by rw[bne_iff_ne];have:=wL _ _ _ _ hp;omega
   have WS:=jgd;have E:Hid (dA (uk (zQ d) n (l.drop p) cnt none)=.err q):=by rw[Hid,ji.out,NS L k0 hp];rfl
   have vA:=sN.trans sL;have ol:=sO.rdg sL (by omega);have nP:=sL.hid uE sO.lt;obtain⟨hY,JR⟩:=jfh;have UB:=Hh ol.lt;have qz:=vA.alloc zi;have rG:=ol.alloc zi;clear ITH hp sN sL sO ZL ve lj ji I8 vA ol a1;exact jei
  | ok x k c1 =>
  rw[hp,ItemOut]at hs;obtain⟨ja,jb,jc,jd,H5,rfl,sL,Wh⟩:=hs;have J8:=Hh (qW d _ _ _ _ _ hp);have rsp:=eA d _ _ _ _ _ hp;have zBj:=rsp.pos;have zAw:=rsp.le;rw[List.length_drop]at zAw;have Bk:=Hh (show k≤l.length by omega);have Ek:=Hh hp;obtain⟨key,uI⟩:∃ key,(l.drop P1).take k=key:=⟨_,rfl⟩
  have P6:=Hh uI;have Lo:Hid (k=key.length):=by rw[Hid,← uI,List.length_take,List.length_drop];omega
  have HSK:Hid (∀ W,Holds W H→Src W (some ⟨b,off+P1,none⟩) (key.map zm)):=fun W hW=>by
   have h:=Zy (w:=W) (n:=k) (fun j hj=>hW.cell (DA.out j hj)) P1 (some ⟨b,off+P1,none⟩) (fun _=>rfl) (by omega);rw[uI]at h
   exact h
  have vA:=sN.trans sL;obtain⟨ol,nP,lh,PV,rU⟩:=jgM;have Pk:∀ q,(Value.slice VA L.length vc).ownBlock=some q→H5 q=none:=fun q hq=>sL.hid (lj q hq) (ve.lt q hq).2
  obtain⟨hY,JR⟩:=jfh;have UB:=Hh (And.intro ol.lt lh.lt);have hYg:=Hh (show g<w5.heap.size from vA.psr.gt);have TH:=jf9;have qz:=vA.alloc zi;have rG:=ol.alloc zi;have ig:=lh.alloc zi;have vT:=rU.alloc zi;clear ITH hp sN sL sO ZL ve lj vA ol lh rU a1 rsp uI;go_wp2_with (with_reducible refine zx ?_)
  refine stI hY fun w8 hY8 hg8=>?_
  obtain⟨mv,gl,aZ,aY⟩:=jfL;obtain⟨Y1,hY1⟩:∃ Y1,w5.heap.size=Y1:=⟨_,rfl⟩
  rw[hY1]at hY8 UB hYg JR⊢;have a0:=mv.psr.blk.cell 0 rfl;have a1:=mv.psr.blk.cell 1 rfl;have s1:(P1:Int)≤((P1+k:Nat):Int):=by omega
  have s2:((P1+k:Nat):Int)≤(c:Int):=by have:=L7.out.2.1;omega
  have s3:(P1:Int)≤(c:Int):=by omega
  have s4:(0:Int)≤(P1:Int):=by omega
  have s5:(c=P1)=False:=eq_false (by have:=L7.out.2.1;omega);have s6:P1+k-P1=k:=by omega
  have s7:((P1+k:Nat):Int).toNat=P1+k:=by omega
  clear qz rG ig vT hY hg8;go_wp2_with fail
  go_big_quiet (fail)
  have Gx:=mv.drewN nq;have Gi:Blk (w8.drewN nq) w.heap.size 26 #[.int .i64 0,.int .u64 0,.slice none 0 0,.slice none 0 0]:=gl;have Gk:Blk (w8.drewN nq) X 26 #[.int .i64 5,.int .u64 0,.slice none 0 0,.slice VA L.length vc]:=aZ;have Gm:Blk (w8.drewN nq) Y1 26 #[.int .i64 x.kind,.int .u64 x.n,.slice ja x.bytes.length jb,.slice jc x.items.length jd]:=hY8;have Gf:OwnI (w8.drewN nq) (X+1) (.slice VA L.length vc) H5 L:=aY
  generalize w8.drewN nq=w9 at Gx Gi Gk Gm Gf⊢
  obtain⟨dN,od,im,Md,gj⟩:=And.intro Gx (And.intro Gi (And.intro Gk (And.intro Gm Gf)));clear Gx Gi Gk Gm Gf mv gl aZ hY8 aY a0 a1 s1 s2 s3 s4 s5 s6 s7;have Lz:Holds w9 H:=dN.psr.holds.mono dN.grows.le
  rcases Iv.out with ⟨hiz,rfl⟩ | ⟨hi,lk,rfl,ov,qJ,ES⟩
  ·have Lp:Hid (n9 none ((l.drop P1).take k)=none):=rfl;have zA3:¬ ((0:Int)<(i:Int)):=by omega
   clear hiz;have a0:=Lz;have a1:=Lz;exact jab
  have zA3:(0:Int)<(i:Int):=by omega
  have CM:=Hh (p8 w9 (some ⟨b,off+P1,none⟩) KB key lk k kn (c-P1) kc Lo.out ov (HSK.out w9 Lz) (ES w9 Lz));obtain⟨q,hq⟩:∃ q,Lib.compareBytes key lk=q:=⟨_,rfl⟩
  rw[hq]at CM;have HQ:=Hh hq;clear ov qJ ES hq;have a0:=Lz;have a1:=Lz
  by_cases oG:q=0
  ·subst oG;have Lp:Hid (n9 (some lk) ((l.drop P1).take k)=some 7):=by rw[Hid,P6.out,n9];rw[if_pos HQ.out]
   go_wp2_with fail
   refine CM.out.mono ?_
   rintro e w10 ⟨rfl,rfl⟩
   have E:Hid (dA (uk (zQ d) n (l.drop p) cnt none)=.err 7):=by rw[Hid,ji.out,YO L k0 Ek.out Lp.out];rfl
   go_wp2_with (with_reducible refine zx ?_)
   refine stI od fun wz hTy yS=>?_
   have wK:=dN.gb nP (Nat.le_refl _) wl yS;go_wp2_with fail
   refine zp rfl rfl hTy rfl rfl zu rfl ?_
   exact ItemOut.err (q:=7) E.out rfl wK
  have t0:(q==0)=false:=by simpa using oG
  have t0':(q=0)=False:=eq_false oG
  by_cases jy:q<0
  ·have Lp:Hid (n9 (some lk) ((l.drop P1).take k)=some 6):=by rw[Hid,P6.out,n9];rw[HQ.out,if_neg oG,if_pos jy]
   go_wp2_with fail
   refine CM.out.mono ?_
   rintro e w10 ⟨rfl,rfl⟩
   have E:Hid (dA (uk (zQ d) n (l.drop p) cnt none)=.err 6):=by rw[Hid,ji.out,YO L k0 Ek.out Lp.out];rfl
   go_wp2_with (with_reducible refine zx ?_)
   refine stI od fun wz hTy yS=>?_
   have wK:=dN.gb nP (Nat.le_refl _) wl yS;go_wp2_with fail
   refine zp rfl rfl hTy rfl rfl zu rfl ?_
   exact ItemOut.err (q:=6) E.out rfl wK
  have Lp:Hid (n9 (some lk) ((l.drop P1).take k)=none):=by rw[Hid,P6.out,n9];rw[HQ.out,if_neg oG,if_neg jy]
  go_wp2_with fail
  refine CM.out.mono ?_
  rintro e w10 ⟨rfl,rfl⟩
  exact jab
 have hm:i=n:=by have:=HIN.out;omega
 subst hm;have zBv:¬ ((i:Int)<(i:Int)):=by omega
 have E1:Hid (dA (uk (zQ d) i (l.drop p) cnt none)=.ok (.mk 5 0 [] L) k0 cc):=by
  rw[Hid,fH.out,Nat.sub_self,uk];simp[PL.pre,dA]
 obtain⟨H5,rH,Wx,wR,It,t8,tA,lE⟩:=ve.snap sN.psr.holds (fun q hq=>lj q (uB hq));have vd:∀ q,VA.map (·.block)=some q→X+1≤q:=fun q hq=>(ve.lt q (uB hq)).1
 have ZH:H5 w.heap.size=none:=sn wR uE (fun e=>by have:=vd _ e;have:=uJ.out;omega);have vA:Rdg 175 w H wr H5 g (some ⟨b,off,none⟩) c l (p+k0) cc:=sN.snap (B:=X+1) rH Wx wR vd (by have:=uJ.out;omega) wl;have b0:=ZL.cell 0 rfl;have b1:=ZL.cell 1 rfl;have b2:=ZL.cell 2 rfl;have b3:=ZL.cell 3 rfl;have Ap:IsItem H5 none 0 VA vc (.mk 5 0 [] L):=IsRowI.item ⟨t8,tA,lE⟩ 5 (by omega) 0 (by omega);clear ve wR lE Wx rH uE lj vd sN fH Iv;go_wp2_with (with_reducible refine zx ?_)
 refine stI sO fun wz hTy yS=>?_
 have wK:=vA.gb ZH (Nat.le_refl _) wl yS;go_wp2_with fail
 refine zp rfl rfl hTy rfl rfl zu rfl ?_
 exact ItemOut.ok E1.out rfl wK Ap
end
section
variable {d:Nat} {w:World} {H:Snap} {g:Nat} {A:Option Addr} {c:Nat} {l:List UInt8} {p cnt lv:Nat}
theorem Nk (ih:Yo d) (hTab:Tabs H) (hlv:lv+(d+1)=8) (hP:Psr 175 w g H A c l p cnt) (hc:cnt<256) {f n k:Nat}(hh:yr (l.drop p)=.ok (f,n,k)) (hk:f/32=5):Calls Tryz.prog 130 #[.pointer (some ⟨g,0,none⟩),.int .i64 (lv:Int)] w (ItemOut 175 w H g A c l p (zQ (d+1) (l.drop p) cnt)):=by
 obtain⟨wl,tT,vk,yO,c2⟩:=je8;have E0:=Hh (Rk d (l.drop p) cnt (by omega) hh hk);have S:(f:Int)/32=5:=by omega
 have Pf:¬ ((8:Int)≤(lv:Int)):=by omega
 have KL:=jf2;have Hi:(lv:Int)≤8:=by omega
 have sr:((cnt:Int)==256)=false:=by simp;omega
 obtain⟨uv,KC,HC⟩:=jfb;clear hc;go_enter Tryz.func130,Tryz.ntmps130
 go_wp2_with (with_reducible refine zx ?_)
 refine zj rfl _ _ _ rfl rfl g 2 (.int .i64 ((cnt:Int)+1)) rfl rfl _ _ tT.psr.blk wh (by simp) rfl fun w2 yQ yE=>?_
 obtain⟨xz,vU,PH⟩:=jfc;clear tT vk yQ yE c2 KC sr uv;go_wp2_with fail
 refine PH.out.mono ?_
 intro e w3 hs
 rw[HeadSaid,hh]at hs;obtain⟨rfl,wi,ye⟩:=hs;have HS:=vY hh;have pF:p+k≤l.length:=by have:=HS.le;rw[List.length_drop]at this;have:=hP.le;omega
 obtain⟨wH,ti,HF⟩:=jfd;clear xz vU wi ye PH HS hh;rw[List.drop_drop]at E0;have tY:=HF.out.pos;have PR_:=KV (lv:=lv+1) ih hTab (by omega) wH.psr (by omega) n HF.out.n_lt;rw[show((lv+1:Nat):Int)=(lv:Int)+1 by omega]at PR_;have PRH:=Hh PR_;clear PR_ tY;go_wp2_with fail
 refine PRH.out.mono ?_
 intro e w4 hs
 cases hp:uk (zQ d) n (l.drop (p+k)) (cnt+1) none with
 | err q =>
  rw[hp,dA,ItemOut]at hs;obtain⟨rfl,H4,p4,cnt4,o9⟩:=hs;have E:Hid (zQ (d+1) (l.drop p) cnt=.err q):=by rw[Hid,E0.out,hp]
  obtain⟨uT,uG,dQ⟩:=jf8;clear o9 wH ti PRH hp E0;go_wp2_with (with_reducible refine zx ?_)
  refine stI uG fun wz hTy yS=>?_
  have wK:=uT.gb dQ (Nat.le_refl _) wl yS;exact jaF
 | ok L k' c' =>
 rw[hp,dA,ItemOut]at hs;obtain⟨ja,jb,jc,jd,H4,rfl,o9,rm⟩:=hs;have E:Hid (zQ (d+1) (l.drop p) cnt=.ok (.mk 5 0 [] L) (k+k') c'):=by rw[Hid,E0.out,hp]
 obtain⟨uT,uG,dQ⟩:=jf8;obtain⟨X5,JQ⟩:∃ X,Itm.mk 5 0 [] L=X:=⟨_,rfl⟩
 rw[JQ]at rm E⊢;clear o9 wH ti PRH hp E0 JQ;go_wp2_with (with_reducible refine zx ?_)
 refine stI uG fun wz hTy yS=>?_
 have wK:=uT.gb dQ (Nat.le_refl _) wl yS;go_wp2_with fail
 refine zp rfl rfl hTy rfl rfl zu rfl ?_
 exact ItemOut.ok E.out rfl (by rw[← Nat.add_assoc];exact wK) rm
end
theorem GD:∀ d:Nat,Yo d:=by
 intro d
 induction d using Nat.strongRecOn with
 | _ d ih =>
 intro w H g A c l p cnt lv hTab hlv hP
 by_cases hc:cnt=256
 ·exact XY hTab hlv hP hc
 have hc:cnt<256:=by have:=hP.cnt_le;omega
 cases hh:yr (l.drop p) with
 | error q=>exact XZ hTab hlv hP hc hh
 | ok r =>
 obtain⟨f,n,k⟩:=r;have hf:=(vY hh).f_lt
 rcases(by omega:f/32=0∨f/32=1∨f/32=2∨f/32=3∨f/32=7∨(4≤f/32∧f/32≤6)) with hk | hk | hk | hk | hk | hk
 ·exact Nf hTab hlv hP hc hh hk
 ·exact Ng hTab hlv hP hc hh hk
 ·exact Nh hTab hlv hP hc hh hk
 ·exact Ni hTab hlv hP hc hh hk
 ·exact Nm hTab hlv hP hc hh hk
 cases d with
 | zero=>exact XX hTab (by omega) hP hc hh hk.1 hk.2
 | succ d =>
 have ihd:=ih d (by omega)
 rcases(by omega:f/32=4∨f/32=5∨f/32=6) with h4 | h5 | h6
 ·exact Nj ihd hTab hlv hP hc hh h4
 ·exact Nk ihd hTab hlv hP hc hh h5
 exact Nl ihd hTab hlv hP hc hh h6
end Go.Proofs.YtliomcphdnppnaaGreatDoor
