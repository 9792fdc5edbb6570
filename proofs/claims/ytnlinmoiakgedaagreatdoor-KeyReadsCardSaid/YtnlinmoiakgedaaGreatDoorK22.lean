/- squeezed. Walks: the program's reader of ite -/
import Derived.Test.YtnlinmoiakgedaaGreatDoorK21
set_option linter.unusedVariables false
set_option linter.unusedSimpArgs false
set_option maxRecDepth 100000
set_option maxHeartbeats 6400000
namespace Go.Proofs.YtnlinmoiakgedaaGreatDoor
open Go.RowKit
def PL.pre (L:List Itm) (k0:Nat):PL→PL
 | .err q=>.err q
 | .ok l k c=>.ok (L++l) (k0+k) c
theorem qU {p:List UInt8→Nat→PR}{m:Nat}{b:List UInt8}{cc q:Nat}(L:List Itm) (k0:Nat) (h:p b cc=.err q):(vS p (m+1) b cc).pre L k0=.err q:=by rw[vS,h];rfl
theorem pa {p:List UInt8→Nat→PR}{m:Nat}{b:List UInt8}{cc k c':Nat}{x:Itm}(L:List Itm) (k0:Nat) (h:p b cc=.ok x k c'):(vS p (m+1) b cc).pre L k0=(vS p m (b.drop k) c').pre (L++[x]) (k0+k):=by
 rw[vS,h]
 simp only
 cases vS p m (b.drop k) c' with
 | err q=>rfl
 | ok l k2 c2=>simp[PL.pre,Nat.add_assoc]
theorem nm (r:PL):r.pre [] 0=r:=by cases r <;> simp[PL.pre]
theorem Rdg.snap {T:TypeId}{w w':World}{H H' H'':Snap}{g B:Nat}{A0:Option Addr}{c:Nat}{l:List UInt8}{p cnt:Nat}{A:Option Addr}(h:Rdg T w H w' H' g A0 c l p cnt) (hl:H'.le H'') (hh:Holds w' H'') (hf:∀ b o,H'' b=some o→H' b=some o∨A.map (·.block)=some b)
  (hA:∀ q,A.map (·.block)=some q→B≤q) (hB:w.heap.size≤B) (hg:g<w.heap.size):Rdg T w H w' H'' g A0 c l p cnt:=by
 refine⟨⟨h.grows.grown,h.grows.le.trans hl,hh,fun b o hb=>?_⟩,h.psr.blk,h.psr.bytes.mono hl,hh, ?_,h.psr.le,h.psr.small,h.psr.cnt_le⟩
 ·rcases hf b o hb with h1 | h1
  ·exact h.grows.fresh b o h1
  ·exact .inr (by have:=hA _ h1;omega)
 ·cases hx:H'' g with
  | none=>rfl
  | some o =>
   rcases hf g o hx with h1 | h1
   ·rw[h.psr.apart]at h1;cases h1
   ·have:=hA _ h1;omega
section
variable {d:Nat} {w:World} {H:Snap} {g:Nat} {A:Option Addr} {c:Nat} {l:List UInt8} {p cnt lv:Nat}
theorem Y5 (ih:gC d) (hTab:Tabs H) (hlv:lv+(d+1)=8) (hP:Psr 108 w g H A c l p cnt) (hc:cnt<256) {f n k:Nat}(hh:zj (l.drop p)=.ok (f,n,k)) (hk:f/32=4):Calls Tryz.prog 78 #[.pointer (some ⟨g,0,none⟩),.int .i64 (lv:Int)] w (ItemOut 108 w H g A c l p (zo (d+1) (l.drop p) cnt)):=by
 have zC:=hP.gt;have xg:=(Rdg.refl hP).alloc zr;have xC:=Blk.new w 26 #[.int .i64 0,.int .u64 0,.slice none 0 0,.slice none 0 0];have zQ:H w.heap.size=none:=hP.holds.none_of_ge (Nat.le_refl _);have c2:=xg.psr.blk.cell 2 rfl;have E0:=Hh (j6 d (l.drop p) cnt (by omega) hh hk);have S:(f:Int)/32=4:=by omega
 have dx:¬ ((8:Int)≤(lv:Int)):=by omega
 have KL:IntKind.i64.wrap ((lv:Int)+1)=(lv:Int)+1:=IntWalk.i64_in _ (by omega);have aw:(lv:Int)≤8:=by omega
 have xi:((cnt:Int)==256)=false:=by simp;omega
 have xv:((cnt:Int)=256)=False:=eq_false (by omega);have KC:IntKind.i64.wrap ((cnt:Int)+1)=(cnt:Int)+1:=IntWalk.i64_in _ (by omega);have HC:=Hh hc;clear hc;go_enter Tryz.func78,Tryz.ntmps78
 go_wp2_with (with_reducible refine zx ?_)
 refine zu rfl _ _ _ rfl rfl g 2 (.int .i64 ((cnt:Int)+1)) rfl rfl _ _ xg.psr.blk zE (by simp) rfl fun w2 yu yp=>?_
 have yv:Rdg 108 w H w2 H g A c l p (cnt+1):=xg.step yp yu hP.le (by have:=HC.out;omega);have xD:=xC.gr yp (by omega);have PH:=Hh (rb yv.psr);clear xg xC yu yp c2 KC xi xv;go_wp2_with fail
 refine PH.out.mono ?_
 intro e w3 hs
 rw[HeadSaid,hh]at hs;obtain⟨rfl,wO,yO⟩:=hs;have HS:=xY hh;have tA:p+k≤l.length:=by have:=HS.le;rw[List.length_drop]at this;have:=hP.le;omega
 have yF:Rdg 108 w H w3 H g A c l (p+k) (cnt+1):=yv.step yO wO tA (by have:=HC.out;omega);have xM:=xD.gr yO (by omega);have HF:=Hh HS;clear yv xD wO yO PH HS hh;rw[List.drop_drop]at E0;have o6:=Blk.new w3 26 #[.int .i64 0,.int .u64 0,.slice none 0 0,.slice none 0 0];have xR:=yF.alloc zr;have xG:=xM.alloc zr;have xz:=Hh xM.lt;have gU:H w3.heap.size=none:=yF.psr.holds.none_of_ge (Nat.le_refl _);clear yF xM;go_wp2_with (with_reducible refine zx ?_)
 refine stI o6 fun w4 qH hg4=>?_
 have yl:=xR.gb gU (Nat.le_of_lt xz.out) zC hg4;have yh:=xG.grown hg4 (by intro e;injection e with e;have:=xz.out;omega);clear xR xG o6 hg4;obtain⟨X,rG⟩:∃ X,w3.heap.size=X:=⟨_,rfl⟩
 rw[rG]at qH gU xz⊢;clear rG;have TL:=Hh HF.out.n_lt;obtain⟨P,Ur⟩:∃ P,p+k=P:=⟨_,rfl⟩
 rw[Ur]at yl E0;go_wp2_with fail
 go_loopw [7] (fun v7 wr=>∃ (m:Nat) (Hr:Snap) (VA:Option Addr) (vc vn:Nat) (L:List Itm) (k0 cc:Nat),v7=.int .u64 (m:Int)∧m≤n∧vn=L.length∧Rdg 108 w H wr Hr g A c l (P+k0) cc∧Blk wr w.heap.size 26 #[.int .i64 0,.int .u64 0,.slice none 0 0,.slice none 0 0]∧Hr w.heap.size=none∧
  Blk wr X 26 #[.int .i64 4,.int .u64 0,.slice none 0 0,.slice VA vn vc]∧Hr X=none∧OwnI wr (X+1) (.slice VA vn vc) Hr L∧(∀ q,(Value.slice VA vn vc).ownBlock=some q→Hr q=none)∧L.length≤cc∧
  vS (zo d) n (l.drop P) (cnt+1)=(vS (zo d) m (l.drop (P+k0)) cc).pre L k0) (fun v7 _=>(intOf v7).toNat)
 case atStart=>exact⟨n,H,none,0,0,[],0,cnt+1,rfl,Nat.le_refl _,rfl,yl,yh,zQ,qH,gU,OwnI.nil _ _ H,by intro q hq;simp[Value.ownBlock]at hq,by simp,by rw[nm];rfl⟩
 case round =>
  clear yl yh qH;obtain⟨m,Hr,VA,vc,vn,L,k0,cc,rfl,T7,rfl,vy,vf,sk,rE,oW,ww,tn,cC,rx⟩:=hrel;have sy:=Hh rx;have jW:=Hh cC;have Ot:=Hh T7;clear rx cC T7
  by_cases lQ:0<m
  ·obtain⟨m1,rfl⟩:∃ m1,m=m1+1:=⟨m-1,by omega⟩
   have eX:(0:Int)<((m1+1:Nat):Int):=by omega
   have IT:=ih wr Hr g A c l (P+k0) cc (lv+1) (hTab.mono vy.grows.le) (by omega) vy.psr;rw[show((lv+1:Nat):Int)=(lv:Int)+1 by omega]at IT;have ITH:=Hh IT;have Jq:=Hh rE.lt;clear IT;go_wp2_with fail
   refine ITH.out.mono ?_
   intro e w5 hs
   cases hp:zo d (l.drop (P+k0)) cc with
   | err q =>
    rw[hp,ItemOut]at hs;obtain⟨rfl,H5,p5,cnt5,xr⟩:=hs;have oA:((q:Int) != 0)=true:=by rw[bne_iff_ne];have:=yJ _ _ _ _ hp;omega
    have mA:((q:Int)=0)=False:=eq_false (by have:=yJ _ _ _ _ hp;omega);have E:Hid (zo (d+1) (l.drop p) cnt=.err q):=by rw[Hid,E0.out,sy.out,qU L k0 hp]
    have zA:=vy.trans xr;have yf:=vf.rdg xr (by omega);have td:=xr.hid sk vf.lt;have hY:=Blk.new w5 26 #[.int .i64 0,.int .u64 0,.slice none 0 0,.slice none 0 0];have lN:H5 w5.heap.size=none:=zA.psr.holds.none_of_ge (Nat.le_refl _);have qR:=Hh yf.lt;have yG:=zA.alloc zr;have yL:=yf.alloc zr;clear ITH hp vy xr vf rE ww tn sy jW zA yf;go_wp2_with (with_reducible refine zx ?_)
    refine stI hY fun w8 rV hg8=>?_
    have wL:=yG.gb lN (Nat.le_of_lt qR.out) zC hg8;have vN:=yL.grown hg8 (by intro e;injection e with e;have:=qR.out;omega);clear yG yL hY hg8 rV;go_wp2_with (with_reducible refine zx ?_)
    refine stI vN fun wz hTy zU=>?_
    have zP:=wL.gb td (Nat.le_refl _) zC zU;go_wp2_with fail
    refine zv rfl rfl hTy rfl rfl zw rfl ?_
    exact ItemOut.err E.out rfl zP
   | ok x k' c' =>
    rw[hp,ItemOut]at hs;obtain⟨ja,jb,jc,jd,H5,rfl,xr,bD⟩:=hs
    have gS:Hid (vS (zo d) n (l.drop P) (cnt+1)=(vS (zo d) m1 (l.drop (P+(k0+k'))) c').pre (L++[x]) (k0+k')):=by
     rw[Hid,sy.out,pa L k0 hp,List.drop_drop,Nat.add_assoc]
    have gZ:Hid ((L++[x]).length≤c'):=by
     have:=vU d _ _ _ _ _ hp;have:=jW.out;rw[Hid,List.length_append];simp;omega
    have zA:=vy.trans xr;rw[Nat.add_assoc]at zA;have Pn:=zA.psr.cnt_le;have yf:=vf.rdg xr (by omega);have td:=xr.hid sk vf.lt;have rW:=rE.rdg xr (by have:=xz.out;omega);have mz:=xr.hid oW rE.lt;have sC:=(ww.rdg xr (by have:=xz.out;omega)).mono xr.grows.le;have pG:∀ q,(Value.slice VA L.length vc).ownBlock=some q→H5 q=none:=fun q hq=>xr.hid (tn q hq) (ww.lt q hq).2
    have hY:=Blk.new w5 26 #[.int .i64 0,.int .u64 0,.slice none 0 0,.slice none 0 0];have lN:H5 w5.heap.size=none:=zA.psr.holds.none_of_ge (Nat.le_refl _);have qR:=Hh (And.intro yf.lt rW.lt);have o8:=Hh (show ∀ q,(Value.slice VA L.length vc).ownBlock=some q→X+1≤q∧q<w5.heap.size from fun q hq=>sC.lt q hq);have yG:=zA.alloc zr;have yL:=yf.alloc zr;have nF:=rW.alloc zr;have xK:=sC.alloc zr;have uM:=Hh (show L.length≤256 by have:=gZ.out;simp at this;omega);clear ITH hp vy xr vf rE ww tn sy jW zA yf rW sC;go_wp2_with (with_reducible refine zx ?_)
    refine stI hY fun w8 rV hg8=>?_
    have wL:=yG.gb lN (Nat.le_of_lt qR.out.1) zC hg8;have vN:=yL.grown hg8 (by intro e;injection e with e;have:=qR.out.1;omega);have tY:=nF.grown hg8 (by intro e;injection e with e;have:=qR.out.2;omega);have o5:=xK.kl hg8 (fun q hv=>by have:=(o8.out q hv).2;omega);have b0:=rV.cell 0 rfl;have b1:=rV.cell 1 rfl;have b2:=rV.cell 2 rfl;have b3:=rV.cell 3 rfl;have x3:=tY.cell 3 rfl;have uC:=wL.alloc (.cells (zg x ja jb jc jd).toArray 26);have ui:=vN.alloc (.cells (zg x ja jb jc jd).toArray 26);have ov:=tY.alloc (.cells (zg x ja jb jc jd).toArray 26);have rD:=o5.alloc (.cells (zg x ja jb jc jd).toArray 26);clear yG yL nF xK hY hg8 wL vN tY o5;go_wp2_with (at_builtin;refine ye ?_)
    refine yw rfl (.tmp 159) (.tmp 161) rfl (X+1) (.slice VA L.length vc) H5 _ rfl rD _ 1 _ (zg x ja jb jc jd) [x] rfl rfl (ItemsC.one bD) (Src.new _ _ _ _ rfl _ rfl) (by have:=uM.out;simp;omega) ov.lt fun v' w10 tz hg10 hat10=>?_
    obtain⟨VA',vc',rfl,_⟩:=tz.form;have uS:=ui.grown hg10 (fun e=>by have:=(o8.out _ e).1;have:=xz.out;omega);have ly:=ov.grown hg10 (fun e=>by have:=(o8.out _ e).1;omega);have pv:=uZ uC.psr.holds pG hat10;have um:=uC.grownRow pG (fun q hq=>by have:=(o8.out q hq).1;have:=xz.out;omega) zC hg10;obtain⟨L',sV⟩:∃ L',L++[x]=L':=⟨_,rfl⟩
    rw[sV]at tz pv gS gZ⊢;have qz:Hid (L'.length=L.length+1):=by rw[Hid,← sV];simp
    clear sV uC ui ov rD hg10 hat10 x3;have Qs:=Hh (show ∀ q,(Value.slice VA' L'.length vc').ownBlock=some q→X+1≤q from fun q hq=>(tz.lt q hq).1);go_wp2_with (with_reducible refine zx ?_)
    refine zu rfl _ _ _ rfl rfl X 3 _ rfl rfl _ _ ly zR (by simp) rfl fun w11 hX11 hg11=>?_
    have ZD:=um.gb mz (Nat.le_of_lt xz.out) zC hg11;have Z5:=uS.grown hg11 (by intro e;injection e with e;have:=xz.out;omega)
    have dh:=tz.kept hg11 (by
     cases hv:(Value.slice VA' L'.length vc').ownBlock with
     | none=>exact .inl rfl
     | some q=>exact .inr (fun e=>by injection e with e;have:=Qs.out q hv;omega))
    have KM:IntKind.u64.wrap (((m1+1:Nat):Int)-1)=(m1:Int):=by rw[show((m1+1:Nat):Int)-1=(m1:Int) by omega,IntKind.wrap_u64];have:=TL.out;have:=Ot.out;omega
    have KM2:IntKind.u64.wrap (m1:Int)=(m1:Int):=by rw[IntKind.wrap_u64];have:=TL.out;have:=Ot.out;omega
    clear um uS ly tz hg11;go_wp2_with fail
    go_roundw
    case rel=>exact⟨m1,H5,VA',vc',_,L',k0+k',c',by first | rfl | (simp;done) | go_num,by have:=Ot.out;omega,rfl,ZD,Z5,td,hX11,mz,dh,pv,gZ.out,gS.out⟩
    case measure=>simp[intOf];try omega
  ·have hm:m=0:=by omega
   subst hm
   have E1:Hid (zo (d+1) (l.drop p) cnt=.ok (.mk 4 0 [] L) (k+k0) cc):=by
    rw[Hid,E0.out,sy.out,vS];simp[PL.pre]
   obtain⟨H5,mH,lP,vT,VC,sz,t8,sL⟩:=ww.snap vy.psr.holds (fun q hq=>tn q (vJ hq));have yQ:∀ q,VA.map (·.block)=some q→X+1≤q:=fun q hq=>(ww.lt q (vJ hq)).1
   have gf:H5 w.heap.size=none:=va vT sk (fun e=>by have:=yQ _ e;have:=xz.out;omega);have zA:Rdg 108 w H wr H5 g A c l (P+k0) cc:=vy.snap (B:=X+1) mH lP vT yQ (by have:=xz.out;omega) zC;have b0:=rE.cell 0 rfl;have b1:=rE.cell 1 rfl;have b2:=rE.cell 2 rfl;have b3:=rE.cell 3 rfl;have XC:IsItem H5 none 0 VA vc (.mk 4 0 [] L):=IsRowI.item ⟨sz,t8,sL⟩ 4 (by omega) 0 (by omega);have Ov:=Hh Ur;clear ww vT sL lP mH sk tn yQ vy sy Ur;go_wp2_with (with_reducible refine zx ?_)
   refine stI vf fun wz hTy zU=>?_
   have zP:=zA.gb gf (Nat.le_refl _) zC zU;go_wp2_with fail
   refine zv rfl rfl hTy rfl rfl zw rfl ?_
   exact ItemOut.ok E1.out rfl (by rw[← Nat.add_assoc,Ov.out];exact zP) XC
end
section
variable {p:List UInt8→Nat→PR} {m:Nat} {b:List UInt8} {cc q k c1 k2 c2:Nat} {x y:Itm} {last:Option (List UInt8)}
theorem Xu (L:List Itm) (k0:Nat) (h:p b cc=.err q):(vr p (m+1) b cc last).pre L k0=.err q:=by rw[vr,h];rfl
theorem fe (L:List Itm) (k0:Nat) (h:p b cc=.ok x k c1) (h2:tB last (b.take k)=some q):(vr p (m+1) b cc last).pre L k0=.err q:=by rw[vr,h];simp only;rw[h2];rfl
theorem fd (L:List Itm) (k0:Nat) (h:p b cc=.ok x k c1) (h2:tB last (b.take k)=none) (h3:p (b.drop k) c1=.err q):(vr p (m+1) b cc last).pre L k0=.err q:=by rw[vr,h];simp only;rw[h2];simp only;rw[h3];rfl
theorem bT (L:List Itm) (k0:Nat) (h:p b cc=.ok x k c1) (h2:tB last (b.take k)=none) (h3:p (b.drop k) c1=.ok y k2 c2):(vr p (m+1) b cc last).pre L k0=(vr p m (b.drop (k+k2)) c2 (some (b.take k))).pre (L++[x,y]) (k0+(k+k2)):=by
 rw[vr,h];simp only;rw[h2];simp only;rw[h3];simp only
 cases vr p m (b.drop (k+k2)) c2 (some (b.take k)) with
 | err q=>rfl
 | ok l k3 c3=>simp[PL.pre,Nat.add_assoc]
end
def jV (r:PL):PR:=match r with
 | .err q=>.err q
 | .ok L k c=>.ok (.mk 5 0 [] L) k c
section
variable {d:Nat} {w:World} {H:Snap} {g:Nat} {A:Option Addr} {c:Nat} {l:List UInt8} {p cnt lv:Nat}
theorem W8 (ih:gC d) (hTab:Tabs H) (hlv:lv+d=8) (hP:Psr 108 w g H A c l p cnt) (hl0:0<l.length) (n:Nat) (hn:n<18446744073709551616):Calls Tryz.prog 95 #[.pointer (some ⟨g,0,none⟩),.int .u64 (n:Int),.int .i64 (lv:Int)] w (ItemOut 108 w H g A c l p (jV (vr (zo d) n (l.drop p) cnt none))):=by
 have zC:=hP.gt;obtain⟨b,off,rfl,xy⟩:=hP.bytes.at_ hl0;have SJ:=Hh xy;have zQ:H w.heap.size=none:=hP.holds.none_of_ge (Nat.le_refl _);have uy:H (w.heap.size+1)=none:=hP.holds.none_of_ge (Nat.le_succ _);have xg:=((Rdg.refl hP).alloc zr).alloc zr;have xC:=(Blk.new w 26 #[.int .i64 0,.int .u64 0,.slice none 0 0,.slice none 0 0]).alloc zr;have o6:=Blk.new (w.alloc zr) 26 #[.int .i64 0,.int .u64 0,.slice none 0 0,.slice none 0 0];rw[show(w.alloc zr).heap.size=w.heap.size+1 by simp]at o6;have WR:=Hh (And.intro hP.small (And.intro hP.bytes.le hP.bytes.max));have Jf:=Hh hP.holds;have rh:=Hh hn;have aw:(lv:Int)≤8:=by omega
 clear xy hn;go_enter Tryz.func95,Tryz.ntmps95
 go_wp2_with (with_reducible refine zx ?_)
 refine stI o6 fun w4 qH hg4=>?_
 have yl:=xg.grownRow (row:=some (w.heap.size+1)) (by rintro q ⟨⟩;exact uy) (by rintro q ⟨⟩;exact Nat.le_succ _) zC hg4;have yh:=xC.gr hg4 (by omega);clear xg xC o6 hg4;obtain⟨X,rG⟩:∃ X,w.heap.size+1=X:=⟨_,rfl⟩
 have xz:Hid (w.heap.size<X):=by rw[Hid];omega
 rw[rG]at qH uy⊢;clear rG;go_wp2_with fail
 go_loopw [9,10] (fun v9 v10 wr=>∃ (i:Nat) (Hr:Snap) (VA:Option Addr) (vc vn:Nat) (L:List Itm) (k0 cc:Nat) (last:Option (List UInt8)) (KB:Option Addr) (kn kc:Nat),v10=.int .u64 (i:Int)∧v9=.slice KB kn kc∧i≤n∧vn=L.length∧
  ((i=0∧last=none)∨(0<i∧∃ key:List UInt8,last=some key∧kn=key.length∧key.length≤4096∧∀ W,Holds W H→Src W KB (key.map zD)))∧
  Rdg 108 w H wr Hr g (some ⟨b,off,none⟩) c l (p+k0) cc∧Blk wr w.heap.size 26 #[.int .i64 0,.int .u64 0,.slice none 0 0,.slice none 0 0]∧Hr w.heap.size=none∧
  Blk wr X 26 #[.int .i64 5,.int .u64 0,.slice none 0 0,.slice VA vn vc]∧Hr X=none∧OwnI wr (X+1) (.slice VA vn vc) Hr L∧(∀ q,(Value.slice VA vn vc).ownBlock=some q→Hr q=none)∧L.length≤cc∧
  vr (zo d) n (l.drop p) cnt none=(vr (zo d) (n-i) (l.drop (p+k0)) cc last).pre L k0) (fun _ v10 _=>n-(intOf v10).toNat)
 case atStart=>exact⟨0,H,none,0,0,[],0,cnt,none,none,0,0,rfl,rfl,Nat.zero_le _,rfl,.inl ⟨rfl,rfl⟩,yl,yh,zQ,qH,uy,OwnI.nil _ _ H,by intro q hq;simp[Value.ownBlock]at hq,by simp,by rw[nm];rfl⟩
 case round =>
  clear yl yh qH;obtain⟨i,Hr,VA,vc,vn,L,k0,cc,last,KB,kn,kc,rfl,rfl,bE,rfl,pq,vy,vf,sk,rE,oW,ww,tn,cC,rx⟩:=hrel;have sy:=Hh rx;have jW:=Hh cC;have Uh:=Hh bE;have gA:=Hh pq;clear rx cC bE pq
  by_cases xt:i<n
  ·obtain⟨m1,rn⟩:∃ m1,n-i=m1+1:=⟨n-i-1,by omega⟩
   have eB:=Hh (show n-(i+1)=m1 by omega);have vL:Hid (vr (zo d) n (l.drop p) cnt none=(vr (zo d) (m1+1) (l.drop (p+k0)) cc last).pre L k0):=by rw[Hid,sy.out,rn]
   obtain⟨P1,iS⟩:∃ P1,p+k0=P1:=⟨_,rfl⟩
   have pu:=Hh iS;rw[iS]at vy vL;clear iS;have eX:(i:Int)<(n:Int):=by omega
   have ITH:=Hh (ih wr Hr g (some ⟨b,off,none⟩) c l P1 cc lv (hTab.mono vy.grows.le) hlv vy.psr);have a1:=vy.psr.blk.cell 1 rfl;clear rn sy;go_wp2_with fail
   refine ITH.out.mono ?_
   intro e w5 hs
   cases hp:zo d (l.drop P1) cc with
   | err q =>
    rw[hp,ItemOut]at hs;obtain⟨rfl,H5,p5,cnt5,xr⟩:=hs;have oA:((q:Int) != 0)=true:=by rw[bne_iff_ne];have:=yJ _ _ _ _ hp;omega
    have mA:((q:Int)=0)=False:=eq_false (by have:=yJ _ _ _ _ hp;omega);have E:Hid (jV (vr (zo d) n (l.drop p) cnt none)=.err q):=by rw[Hid,vL.out,Xu L k0 hp];rfl
    have zA:=vy.trans xr;have yf:=vf.rdg xr (by omega);have td:=xr.hid sk vf.lt;have hY:=Blk.new w5 26 #[.int .i64 0,.int .u64 0,.slice none 0 0,.slice none 0 0];have lN:H5 w5.heap.size=none:=zA.psr.holds.none_of_ge (Nat.le_refl _);have qR:=Hh yf.lt;have yG:=zA.alloc zr;have yL:=yf.alloc zr;clear ITH hp vy xr vf rE ww tn vL jW zA yf a1;go_wp2_with (with_reducible refine zx ?_)
    refine stI hY fun w8 rV hg8=>?_
    have wL:=yG.gb lN (Nat.le_of_lt qR.out) zC hg8;have vN:=yL.grown hg8 (by intro e;injection e with e;have:=qR.out;omega);clear yG yL hY hg8 rV;go_wp2_with (with_reducible refine zx ?_)
    refine stI vN fun wz hTy zU=>?_
    have zP:=wL.gb td (Nat.le_refl _) zC zU;go_wp2_with fail
    refine zv rfl rfl hTy rfl rfl zw rfl ?_
    exact ItemOut.err E.out rfl zP
   | ok x k c1 =>
    rw[hp,ItemOut]at hs;obtain⟨ja,jb,jc,jd,H5,rfl,xr,bD⟩:=hs;have ay:=Hh (vU d _ _ _ _ _ hp);have rsp:=oN d _ _ _ _ _ hp;have MC:=rsp.pos;have OW:=rsp.le;rw[List.length_drop]at OW;have R8:=Hh (show k≤l.length by omega);have TM:=Hh hp;obtain⟨key,sA⟩:∃ key,(l.drop P1).take k=key:=⟨_,rfl⟩
    have ks:=Hh sA;have eP:Hid (k=key.length):=by rw[Hid,← sA,List.length_take,List.length_drop];omega
    have P5:Hid (∀ W,Holds W H→Src W (some ⟨b,off+P1,none⟩) (key.map zD)):=fun W hW=>by
     have h:=rt (w:=W) (n:=k) (fun j hj=>hW.cell (SJ.out j hj)) P1 (some ⟨b,off+P1,none⟩) (fun _=>rfl) (by omega);rw[sA]at h
     exact h
    have zA:=vy.trans xr;have yf:=vf.rdg xr (by omega);have td:=xr.hid sk vf.lt;have rW:=rE.rdg xr (by have:=xz.out;omega);have mz:=xr.hid oW rE.lt;have sC:=(ww.rdg xr (by have:=xz.out;omega)).mono xr.grows.le;have pG:∀ q,(Value.slice VA L.length vc).ownBlock=some q→H5 q=none:=fun q hq=>xr.hid (tn q hq) (ww.lt q hq).2
    have hY:=Blk.new w5 26 #[.int .i64 0,.int .u64 0,.slice none 0 0,.slice none 0 0];have lN:H5 w5.heap.size=none:=zA.psr.holds.none_of_ge (Nat.le_refl _);have qR:=Hh (And.intro yf.lt rW.lt);have Pj:=Hh (show g<w5.heap.size from zA.psr.gt);have o8:=Hh (show ∀ q,(Value.slice VA L.length vc).ownBlock=some q→X+1≤q∧q<w5.heap.size from fun q hq=>sC.lt q hq);have yG:=zA.alloc zr;have yL:=yf.alloc zr;have nF:=rW.alloc zr;have xK:=sC.alloc zr;clear ITH hp vy xr vf rE ww tn zA yf rW sC a1 rsp sA;go_wp2_with (with_reducible refine zx ?_)
    refine stI hY fun w8 rV hg8=>?_
    have wL:=yG.gb lN (Nat.le_of_lt qR.out.1) zC hg8;have vN:=yL.grown hg8 (by intro e;injection e with e;have:=qR.out.1;omega);have tY:=nF.grown hg8 (by intro e;injection e with e;have:=qR.out.2;omega);have o5:=xK.kl hg8 (fun q hv=>by have:=(o8.out q hv).2;omega);obtain⟨Y1,XR⟩:∃ Y1,w5.heap.size=Y1:=⟨_,rfl⟩
    rw[XR]at rV qR Pj lN⊢;have a0:=wL.psr.blk.cell 0 rfl;have a1:=wL.psr.blk.cell 1 rfl;have s1:(P1:Int)≤((P1+k:Nat):Int):=by omega
    have s2:((P1+k:Nat):Int)≤(c:Int):=by have:=WR.out.2.1;omega
    have s3:(P1:Int)≤(c:Int):=by omega
    have s4:(0:Int)≤(P1:Int):=by omega
    have s5:(c=P1)=False:=eq_false (by have:=WR.out.2.1;omega);have s6:P1+k-P1=k:=by omega
    have s7:((P1+k:Nat):Int).toNat=P1+k:=by omega
    clear yG yL nF xK hY hg8;go_wp2_with fail
    go_big_quiet (fail)
    have lC:=wL.drewN nq;have kz:Blk (w8.drewN nq) w.heap.size 26 #[.int .i64 0,.int .u64 0,.slice none 0 0,.slice none 0 0]:=vN;have UK:Blk (w8.drewN nq) X 26 #[.int .i64 5,.int .u64 0,.slice none 0 0,.slice VA L.length vc]:=tY;have UL:Blk (w8.drewN nq) Y1 26 #[.int .i64 x.kind,.int .u64 x.n,.slice ja x.bytes.length jb,.slice jc x.items.length jd]:=rV;have UF:OwnI (w8.drewN nq) (X+1) (.slice VA L.length vc) H5 L:=o5
    generalize w8.drewN nq=w9 at lC kz UK UL UF⊢
    obtain⟨uC,ui,ov,X9,rD⟩:=And.intro lC (And.intro kz (And.intro UK (And.intro UL UF)));clear lC kz UK UL UF wL vN tY rV o5 a0 a1 s1 s2 s3 s4 s5 s6 s7;have TS:Holds w9 H:=uC.psr.holds.mono uC.grows.le
    rcases gA.out with ⟨hiz,rfl⟩ | ⟨hi,lk,rfl,Zd,so,gY⟩
    ·have gR:Hid (tB none ((l.drop P1).take k)=none):=rfl;have ZH:¬ ((0:Int)<(i:Int)):=by omega
     clear hiz;have a0:=TS;have a1:=TS;have ITH2:=Hh (ih w9 H5 g (some ⟨b,off,none⟩) c l (P1+k) c1 lv (hTab.mono uC.grows.le) hlv uC.psr);clear a0 a1;go_wp2_with fail
     refine ITH2.out.mono ?_
     intro e w12 hs
     cases ut:zo d (l.drop (P1+k)) c1 with
     | err q =>
      rw[ut,ItemOut]at hs;obtain⟨rfl,H6,p6,cnt6,uO⟩:=hs;have oA:((q:Int) != 0)=true:=by rw[bne_iff_ne];have:=yJ _ _ _ _ ut;omega
      have mA:((q:Int)=0)=False:=eq_false (by have:=yJ _ _ _ _ ut;omega);have E:Hid (jV (vr (zo d) n (l.drop p) cnt none)=.err q):=by rw[Hid,vL.out,fd L k0 TM.out gR.out (by rw[List.drop_drop];exact ut)];rfl
      have tV:=uC.trans uO;have sK:=ui.rdg uO (by omega);have dz:=uO.hid td ui.lt;have hZ:=Blk.new w12 26 #[.int .i64 0,.int .u64 0,.slice none 0 0,.slice none 0 0];have Uu:H6 w12.heap.size=none:=tV.psr.holds.none_of_ge (Nat.le_refl _);have oV:=Hh sK.lt;have oX:=tV.alloc zr;have oS:=sK.alloc zr;clear ITH2 ut uO tV sK uC ui ov X9 rD;go_wp2_with (with_reducible refine zx ?_)
      refine stI hZ fun w15 hZ15 hg15=>?_
      have iO:=oX.gb Uu (Nat.le_of_lt oV.out) zC hg15;have iN:=oS.grown hg15 (by intro e;injection e with e;have:=oV.out;omega);clear oX oS hZ hg15 hZ15;go_wp2_with (with_reducible refine zx ?_)
      refine stI iN fun wz hTy zU=>?_
      have zP:=iO.gb dz (Nat.le_refl _) zC zU;go_wp2_with fail
      refine zv rfl rfl hTy rfl rfl zw rfl ?_
      exact ItemOut.err E.out rfl zP
     | ok y k2 c2 =>
      rw[ut,ItemOut]at hs;obtain⟨ka,kb,kd,ke,H6,rfl,uO,qI⟩:=hs
      have SN:Hid (vr (zo d) n (l.drop p) cnt none=(vr (zo d) m1 (l.drop (p+(k0+(k+k2)))) c2 (some key)).pre (L++[x,y]) (k0+(k+k2))):=by
       rw[Hid,vL.out,bT L k0 TM.out gR.out (by rw[List.drop_drop];exact ut),ks.out,List.drop_drop,← pu.out];rw[show p+k0+(k+k2)=p+(k0+(k+k2)) by omega]
      have Uf:Hid ((L++[x,y]).length≤c2):=by
       have h1:=ay.out;have h2:=vU d _ _ _ _ _ ut;have:=jW.out;rw[Hid,List.length_append];simp;omega
      have tV:=uC.trans uO;have OO:=tV.psr.cnt_le;have sK:=ui.rdg uO (by omega);have dz:=uO.hid td ui.lt;have jS:=ov.rdg uO (by have:=xz.out;omega);have gD:=uO.hid mz ov.lt;have pF:=X9.rdg uO (by have:=Pj.out;omega);have jQ:=(rD.rdg uO (by have:=xz.out;omega)).mono uO.grows.le;have gG:∀ q,(Value.slice VA L.length vc).ownBlock=some q→H6 q=none:=fun q hq=>uO.hid (pG q hq) (rD.lt q hq).2
      have hZ:=Blk.new w12 26 #[.int .i64 0,.int .u64 0,.slice none 0 0,.slice none 0 0];have Uu:H6 w12.heap.size=none:=tV.psr.holds.none_of_ge (Nat.le_refl _);have oV:=Hh (And.intro sK.lt (And.intro jS.lt pF.lt));have iP:=Hh (show ∀ q,(Value.slice VA L.length vc).ownBlock=some q→X+1≤q∧q<w12.heap.size from fun q hq=>jQ.lt q hq);have oX:=tV.alloc zr;have oS:=sK.alloc zr;have dn:=jS.alloc zr;have jT:=pF.alloc zr;have di:=jQ.alloc zr;have uM:=Hh (show L.length≤256 by have:=Uf.out;simp at this;omega);have Zb:ItemsC H6 (zg x ja jb jc jd++zg y ka kb kd ke) [x,y]:=(ItemsC.one (bD.mono uO.grows.le)).app (ItemsC.one qI);clear ITH2 ut uO tV sK jS pF jQ uC ui ov X9 rD;go_wp2_with (with_reducible refine zx ?_)
      refine stI hZ fun w15 hZ15 hg15=>?_
      have iO:=oX.gb Uu (Nat.le_of_lt oV.out.1) zC hg15;have iN:=oS.grown hg15 (by intro e;injection e with e;have:=oV.out.1;omega);have dp:=dn.grown hg15 (by intro e;injection e with e;have:=oV.out.2.1;omega);have l8:=jT.grown hg15 (by intro e;injection e with e;have:=oV.out.2.2;omega);have Yz:=di.kl hg15 (fun q hv=>by have:=(iP.out q hv).2;omega);have b0:=hZ15.cell 0 rfl;have b1:=hZ15.cell 1 rfl;have b2:=hZ15.cell 2 rfl;have b3:=hZ15.cell 3 rfl;have y0:=l8.cell 0 rfl;have y1:=l8.cell 1 rfl;have y2:=l8.cell 2 rfl;have y3:=l8.cell 3 rfl;have x3:=dp.cell 3 rfl;have dw:=iO.alloc (.cells (zg x ja jb jc jd++zg y ka kb kd ke).toArray 26);have dl:=iN.alloc (.cells (zg x ja jb jc jd++zg y ka kb kd ke).toArray 26);have dq:=dp.alloc (.cells (zg x ja jb jc jd++zg y ka kb kd ke).toArray 26)
      have Z0:=Yz.alloc (.cells (zg x ja jb jc jd++zg y ka kb kd ke).toArray 26);clear oX oS dn jT di hZ hg15 iO iN dp l8 Yz;go_wp2_with (at_builtin;refine ye ?_)
      refine yw rfl (.tmp 72) (.tmp 75) rfl (X+1) (.slice VA L.length vc) H6 _ rfl Z0 _ 2 _ (zg x ja jb jc jd++zg y ka kb kd ke) [x,y] rfl rfl Zb (Src.new _ _ _ _ rfl _ rfl) (by have:=uM.out;simp;omega) dq.lt fun v' w17 hO17 hg17 hat17=>?_
      obtain⟨VA',vc',rfl,_⟩:=hO17.form;have Z6:=dl.grown hg17 (fun e=>by have:=(iP.out _ e).1;have:=xz.out;omega);have Z9:=dq.grown hg17 (fun e=>by have:=(iP.out _ e).1;omega);have ZJ:=uZ dw.psr.holds gG hat17;have ZE:=dw.grownRow gG (fun q hq=>by have:=(iP.out q hq).1;have:=xz.out;omega) zC hg17;obtain⟨L',sV⟩:∃ L',L++[x,y]=L':=⟨_,rfl⟩
      rw[sV]at hO17 ZJ SN Uf⊢;have qz:Hid (L'.length=L.length+2):=by rw[Hid,← sV];simp
      clear sV dw dl dq Z0 hg17 hat17 x3 y0 y1 y2 y3 b0 b1 b2 b3 hZ15;have Yo:=Hh (show ∀ q,(Value.slice VA' L'.length vc').ownBlock=some q→X+1≤q from fun q hq=>(hO17.lt q hq).1);go_wp2_with (with_reducible refine zx ?_)
      refine zu rfl _ _ _ rfl rfl X 3 _ rfl rfl _ _ Z9 zR (by simp) rfl fun w18 hX18 hg18=>?_
      have ZF:=ZE.gb gD (Nat.le_of_lt xz.out) zC hg18;have UJ:=Z6.grown hg18 (by intro e;injection e with e;have:=xz.out;omega)
      have UD:=hO17.kept hg18 (by
       cases hv:(Value.slice VA' L'.length vc').ownBlock with
       | none=>exact .inl rfl
       | some q=>exact .inr (fun e=>by injection e with e;have:=Yo.out q hv;omega))
      have KI:IntKind.u64.wrap ((i:Int)+1)=(i:Int)+1:=by rw[IntKind.wrap_u64];have:=rh.out;omega
      rw[show P1+k+k2=p+(k0+(k+k2)) by have:=pu.out;omega]at ZF;have rT:=Hh eX;clear ZE Z6 Z9 hO17 hg18 eX;go_wp2_with fail
      go_roundw
      case rel=>exact⟨i+1,H6,VA',vc',_,L',k0+(k+k2),c2,some key,_,_,_,by first | rfl | (simp;done) | go_num,rfl,by have:=rT.out;omega,rfl,.inr ⟨by omega,key,rfl,eP.out,by have:=WR.out.1;have:=R8.out;have:=eP.out;omega,P5.out⟩,ZF,UJ,dz,hX18,gD,UD,ZJ,Uf.out,by rw[eB.out];exact SN.out⟩
      case measure=>have:=rT.out;simp[intOf];omega
    ·have ZH:(0:Int)<(i:Int):=by omega
     have CM:=Hh (tH w9 (some ⟨b,off+P1,none⟩) KB key lk k kn (c-P1) kc eP.out Zd (P5.out w9 TS) (gY w9 TS));obtain⟨q,hq⟩:∃ q,Lib.compareBytes key lk=q:=⟨_,rfl⟩
     rw[hq]at CM;have HQ:=Hh hq;clear Zd so gY hq;have a0:=TS;have a1:=TS
     by_cases oA:q=0
     ·subst oA;have gR:Hid (tB (some lk) ((l.drop P1).take k)=some 7):=by rw[Hid,ks.out,tB];rw[if_pos HQ.out]
      go_wp2_with fail
      refine CM.out.mono ?_
      rintro e w10 ⟨rfl,rfl⟩
      have E:Hid (jV (vr (zo d) n (l.drop p) cnt none)=.err 7):=by rw[Hid,vL.out,fe L k0 TM.out gR.out];rfl
      go_wp2_with (with_reducible refine zx ?_)
      refine stI ui fun wz hTy zU=>?_
      have zP:=uC.gb td (Nat.le_refl _) zC zU;go_wp2_with fail
      refine zv rfl rfl hTy rfl rfl zw rfl ?_
      exact ItemOut.err (q:=7) E.out rfl zP
     ·have t0:(q==0)=false:=by simpa using oA
      have t0':(q=0)=False:=eq_false oA
      by_cases gX:q<0
      ·have gR:Hid (tB (some lk) ((l.drop P1).take k)=some 6):=by rw[Hid,ks.out,tB];rw[HQ.out,if_neg oA,if_pos gX]
       go_wp2_with fail
       refine CM.out.mono ?_
       rintro e w10 ⟨rfl,rfl⟩
       have E:Hid (jV (vr (zo d) n (l.drop p) cnt none)=.err 6):=by rw[Hid,vL.out,fe L k0 TM.out gR.out];rfl
       go_wp2_with (with_reducible refine zx ?_)
       refine stI ui fun wz hTy zU=>?_
       have zP:=uC.gb td (Nat.le_refl _) zC zU;go_wp2_with fail
       refine zv rfl rfl hTy rfl rfl zw rfl ?_
       exact ItemOut.err (q:=6) E.out rfl zP
      ·have gR:Hid (tB (some lk) ((l.drop P1).take k)=none):=by rw[Hid,ks.out,tB];rw[HQ.out,if_neg oA,if_neg gX]
       go_wp2_with fail
       refine CM.out.mono ?_
       rintro e w10 ⟨rfl,rfl⟩
       have ITH2:=Hh (ih w9 H5 g (some ⟨b,off,none⟩) c l (P1+k) c1 lv (hTab.mono uC.grows.le) hlv uC.psr);clear a0 a1;go_wp2_with fail
       refine ITH2.out.mono ?_
       intro e w12 hs
       cases ut:zo d (l.drop (P1+k)) c1 with
       | err q =>
        rw[ut,ItemOut]at hs;obtain⟨rfl,H6,p6,cnt6,uO⟩:=hs;have oA:((q:Int) != 0)=true:=by rw[bne_iff_ne];have:=yJ _ _ _ _ ut;omega
        have mA:((q:Int)=0)=False:=eq_false (by have:=yJ _ _ _ _ ut;omega);have E:Hid (jV (vr (zo d) n (l.drop p) cnt none)=.err q):=by rw[Hid,vL.out,fd L k0 TM.out gR.out (by rw[List.drop_drop];exact ut)];rfl
        have tV:=uC.trans uO;have sK:=ui.rdg uO (by omega);have dz:=uO.hid td ui.lt;have hZ:=Blk.new w12 26 #[.int .i64 0,.int .u64 0,.slice none 0 0,.slice none 0 0];have Uu:H6 w12.heap.size=none:=tV.psr.holds.none_of_ge (Nat.le_refl _);have oV:=Hh sK.lt;have oX:=tV.alloc zr;have oS:=sK.alloc zr;clear ITH2 ut uO tV sK uC ui ov X9 rD;go_wp2_with (with_reducible refine zx ?_)
        refine stI hZ fun w15 hZ15 hg15=>?_
        have iO:=oX.gb Uu (Nat.le_of_lt oV.out) zC hg15;have iN:=oS.grown hg15 (by intro e;injection e with e;have:=oV.out;omega);clear oX oS hZ hg15 hZ15;go_wp2_with (with_reducible refine zx ?_)
        refine stI iN fun wz hTy zU=>?_
        have zP:=iO.gb dz (Nat.le_refl _) zC zU;go_wp2_with fail
        refine zv rfl rfl hTy rfl rfl zw rfl ?_
        exact ItemOut.err E.out rfl zP
       | ok y k2 c2 =>
        rw[ut,ItemOut]at hs;obtain⟨ka,kb,kd,ke,H6,rfl,uO,qI⟩:=hs
        have SN:Hid (vr (zo d) n (l.drop p) cnt none=(vr (zo d) m1 (l.drop (p+(k0+(k+k2)))) c2 (some key)).pre (L++[x,y]) (k0+(k+k2))):=by
         rw[Hid,vL.out,bT L k0 TM.out gR.out (by rw[List.drop_drop];exact ut),ks.out,List.drop_drop,← pu.out];rw[show p+k0+(k+k2)=p+(k0+(k+k2)) by omega]
        have Uf:Hid ((L++[x,y]).length≤c2):=by
         have h1:=ay.out;have h2:=vU d _ _ _ _ _ ut;have:=jW.out;rw[Hid,List.length_append];simp;omega
        have tV:=uC.trans uO;have OO:=tV.psr.cnt_le;have sK:=ui.rdg uO (by omega);have dz:=uO.hid td ui.lt;have jS:=ov.rdg uO (by have:=xz.out;omega);have gD:=uO.hid mz ov.lt;have pF:=X9.rdg uO (by have:=Pj.out;omega);have jQ:=(rD.rdg uO (by have:=xz.out;omega)).mono uO.grows.le;have gG:∀ q,(Value.slice VA L.length vc).ownBlock=some q→H6 q=none:=fun q hq=>uO.hid (pG q hq) (rD.lt q hq).2
        have hZ:=Blk.new w12 26 #[.int .i64 0,.int .u64 0,.slice none 0 0,.slice none 0 0];have Uu:H6 w12.heap.size=none:=tV.psr.holds.none_of_ge (Nat.le_refl _);have oV:=Hh (And.intro sK.lt (And.intro jS.lt pF.lt));have iP:=Hh (show ∀ q,(Value.slice VA L.length vc).ownBlock=some q→X+1≤q∧q<w12.heap.size from fun q hq=>jQ.lt q hq);have oX:=tV.alloc zr;have oS:=sK.alloc zr;have dn:=jS.alloc zr;have jT:=pF.alloc zr;have di:=jQ.alloc zr;have uM:=Hh (show L.length≤256 by have:=Uf.out;simp at this;omega);have Zb:ItemsC H6 (zg x ja jb jc jd++zg y ka kb kd ke) [x,y]:=(ItemsC.one (bD.mono uO.grows.le)).app (ItemsC.one qI);clear ITH2 ut uO tV sK jS pF jQ uC ui ov X9 rD;go_wp2_with (with_reducible refine zx ?_)
        refine stI hZ fun w15 hZ15 hg15=>?_
        have iO:=oX.gb Uu (Nat.le_of_lt oV.out.1) zC hg15;have iN:=oS.grown hg15 (by intro e;injection e with e;have:=oV.out.1;omega);have dp:=dn.grown hg15 (by intro e;injection e with e;have:=oV.out.2.1;omega);have l8:=jT.grown hg15 (by intro e;injection e with e;have:=oV.out.2.2;omega);have Yz:=di.kl hg15 (fun q hv=>by have:=(iP.out q hv).2;omega);have b0:=hZ15.cell 0 rfl;have b1:=hZ15.cell 1 rfl;have b2:=hZ15.cell 2 rfl;have b3:=hZ15.cell 3 rfl;have y0:=l8.cell 0 rfl;have y1:=l8.cell 1 rfl;have y2:=l8.cell 2 rfl;have y3:=l8.cell 3 rfl;have x3:=dp.cell 3 rfl;have dw:=iO.alloc (.cells (zg x ja jb jc jd++zg y ka kb kd ke).toArray 26);have dl:=iN.alloc (.cells (zg x ja jb jc jd++zg y ka kb kd ke).toArray 26);have dq:=dp.alloc (.cells (zg x ja jb jc jd++zg y ka kb kd ke).toArray 26)
        have Z0:=Yz.alloc (.cells (zg x ja jb jc jd++zg y ka kb kd ke).toArray 26);clear oX oS dn jT di hZ hg15 iO iN dp l8 Yz;go_wp2_with (at_builtin;refine ye ?_)
        refine yw rfl (.tmp 72) (.tmp 75) rfl (X+1) (.slice VA L.length vc) H6 _ rfl Z0 _ 2 _ (zg x ja jb jc jd++zg y ka kb kd ke) [x,y] rfl rfl Zb (Src.new _ _ _ _ rfl _ rfl) (by have:=uM.out;simp;omega) dq.lt fun v' w17 hO17 hg17 hat17=>?_
        obtain⟨VA',vc',rfl,_⟩:=hO17.form;have Z6:=dl.grown hg17 (fun e=>by have:=(iP.out _ e).1;have:=xz.out;omega);have Z9:=dq.grown hg17 (fun e=>by have:=(iP.out _ e).1;omega);have ZJ:=uZ dw.psr.holds gG hat17;have ZE:=dw.grownRow gG (fun q hq=>by have:=(iP.out q hq).1;have:=xz.out;omega) zC hg17;obtain⟨L',sV⟩:∃ L',L++[x,y]=L':=⟨_,rfl⟩
        rw[sV]at hO17 ZJ SN Uf⊢;have qz:Hid (L'.length=L.length+2):=by rw[Hid,← sV];simp
        clear sV dw dl dq Z0 hg17 hat17 x3 y0 y1 y2 y3 b0 b1 b2 b3 hZ15;have Yo:=Hh (show ∀ q,(Value.slice VA' L'.length vc').ownBlock=some q→X+1≤q from fun q hq=>(hO17.lt q hq).1);go_wp2_with (with_reducible refine zx ?_)
        refine zu rfl _ _ _ rfl rfl X 3 _ rfl rfl _ _ Z9 zR (by simp) rfl fun w18 hX18 hg18=>?_
        have ZF:=ZE.gb gD (Nat.le_of_lt xz.out) zC hg18;have UJ:=Z6.grown hg18 (by intro e;injection e with e;have:=xz.out;omega)
        have UD:=hO17.kept hg18 (by
         cases hv:(Value.slice VA' L'.length vc').ownBlock with
         | none=>exact .inl rfl
         | some q=>exact .inr (fun e=>by injection e with e;have:=Yo.out q hv;omega))
        have KI:IntKind.u64.wrap ((i:Int)+1)=(i:Int)+1:=by rw[IntKind.wrap_u64];have:=rh.out;omega
        rw[show P1+k+k2=p+(k0+(k+k2)) by have:=pu.out;omega]at ZF;have rT:=Hh eX;clear ZE Z6 Z9 hO17 hg18 eX;go_wp2_with fail
        go_roundw
        case rel=>exact⟨i+1,H6,VA',vc',_,L',k0+(k+k2),c2,some key,_,_,_,by first | rfl | (simp;done) | go_num,rfl,by have:=rT.out;omega,rfl,.inr ⟨by omega,key,rfl,eP.out,by have:=WR.out.1;have:=R8.out;have:=eP.out;omega,P5.out⟩,ZF,UJ,dz,hX18,gD,UD,ZJ,Uf.out,by rw[eB.out];exact SN.out⟩
        case measure=>have:=rT.out;simp[intOf];omega
  ·have hm:i=n:=by have:=Uh.out;omega
   subst hm;have Ke:¬ ((i:Int)<(i:Int)):=by omega
   have E1:Hid (jV (vr (zo d) i (l.drop p) cnt none)=.ok (.mk 5 0 [] L) k0 cc):=by
    rw[Hid,sy.out,Nat.sub_self,vr];simp[PL.pre,jV]
   obtain⟨H5,mH,lP,vT,VC,sz,t8,sL⟩:=ww.snap vy.psr.holds (fun q hq=>tn q (vJ hq));have yQ:∀ q,VA.map (·.block)=some q→X+1≤q:=fun q hq=>(ww.lt q (vJ hq)).1
   have gf:H5 w.heap.size=none:=va vT sk (fun e=>by have:=yQ _ e;have:=xz.out;omega);have zA:Rdg 108 w H wr H5 g (some ⟨b,off,none⟩) c l (p+k0) cc:=vy.snap (B:=X+1) mH lP vT yQ (by have:=xz.out;omega) zC;have b0:=rE.cell 0 rfl;have b1:=rE.cell 1 rfl;have b2:=rE.cell 2 rfl;have b3:=rE.cell 3 rfl;have XC:IsItem H5 none 0 VA vc (.mk 5 0 [] L):=IsRowI.item ⟨sz,t8,sL⟩ 5 (by omega) 0 (by omega);clear ww vT sL lP mH sk tn yQ vy sy gA;go_wp2_with (with_reducible refine zx ?_)
   refine stI vf fun wz hTy zU=>?_
   have zP:=zA.gb gf (Nat.le_refl _) zC zU;go_wp2_with fail
   refine zv rfl rfl hTy rfl rfl zw rfl ?_
   exact ItemOut.ok E1.out rfl zP XC
end
section
variable {d:Nat} {w:World} {H:Snap} {g:Nat} {A:Option Addr} {c:Nat} {l:List UInt8} {p cnt lv:Nat}
theorem Y6 (ih:gC d) (hTab:Tabs H) (hlv:lv+(d+1)=8) (hP:Psr 108 w g H A c l p cnt) (hc:cnt<256) {f n k:Nat}(hh:zj (l.drop p)=.ok (f,n,k)) (hk:f/32=5):Calls Tryz.prog 78 #[.pointer (some ⟨g,0,none⟩),.int .i64 (lv:Int)] w (ItemOut 108 w H g A c l p (zo (d+1) (l.drop p) cnt)):=by
 have zC:=hP.gt;have xg:=(Rdg.refl hP).alloc zr;have xC:=Blk.new w 26 #[.int .i64 0,.int .u64 0,.slice none 0 0,.slice none 0 0];have zQ:H w.heap.size=none:=hP.holds.none_of_ge (Nat.le_refl _);have c2:=xg.psr.blk.cell 2 rfl;have E0:=Hh (j7 d (l.drop p) cnt (by omega) hh hk);have S:(f:Int)/32=5:=by omega
 have dx:¬ ((8:Int)≤(lv:Int)):=by omega
 have KL:IntKind.i64.wrap ((lv:Int)+1)=(lv:Int)+1:=IntWalk.i64_in _ (by omega);have aw:(lv:Int)≤8:=by omega
 have xi:((cnt:Int)==256)=false:=by simp;omega
 have xv:((cnt:Int)=256)=False:=eq_false (by omega);have KC:IntKind.i64.wrap ((cnt:Int)+1)=(cnt:Int)+1:=IntWalk.i64_in _ (by omega);have HC:=Hh hc;clear hc;go_enter Tryz.func78,Tryz.ntmps78
 go_wp2_with (with_reducible refine zx ?_)
 refine zu rfl _ _ _ rfl rfl g 2 (.int .i64 ((cnt:Int)+1)) rfl rfl _ _ xg.psr.blk zE (by simp) rfl fun w2 yu yp=>?_
 have yv:Rdg 108 w H w2 H g A c l p (cnt+1):=xg.step yp yu hP.le (by have:=HC.out;omega);have xD:=xC.gr yp (by omega);have PH:=Hh (rb yv.psr);clear xg xC yu yp c2 KC xi xv;go_wp2_with fail
 refine PH.out.mono ?_
 intro e w3 hs
 rw[HeadSaid,hh]at hs;obtain⟨rfl,wO,yO⟩:=hs;have HS:=xY hh;have tA:p+k≤l.length:=by have:=HS.le;rw[List.length_drop]at this;have:=hP.le;omega
 have yF:Rdg 108 w H w3 H g A c l (p+k) (cnt+1):=yv.step yO wO tA (by have:=HC.out;omega);have xM:=xD.gr yO (by omega);have HF:=Hh HS;clear yv xD wO yO PH HS hh;rw[List.drop_drop]at E0;have yI:=HF.out.pos;have PR_:=W8 (lv:=lv+1) ih hTab (by omega) yF.psr (by omega) n HF.out.n_lt;rw[show((lv+1:Nat):Int)=(lv:Int)+1 by omega]at PR_;have PRH:=Hh PR_;clear PR_ yI;go_wp2_with fail
 refine PRH.out.mono ?_
 intro e w4 hs
 cases hp:vr (zo d) n (l.drop (p+k)) (cnt+1) none with
 | err q =>
  rw[hp,jV,ItemOut]at hs;obtain⟨rfl,H4,p4,cnt4,qo⟩:=hs;have E:Hid (zo (d+1) (l.drop p) cnt=.err q):=by rw[Hid,E0.out,hp]
  have xR:=yF.trans qo;have xG:=xM.rdg qo (by omega);have jj:=qo.hid zQ xM.lt;clear qo yF xM PRH hp E0;go_wp2_with (with_reducible refine zx ?_)
  refine stI xG fun wz hTy zU=>?_
  have zP:=xR.gb jj (Nat.le_refl _) zC zU;go_wp2_with fail
  refine zv rfl rfl hTy rfl rfl zw rfl ?_
  exact ItemOut.err E.out rfl zP
 | ok L k' c' =>
  rw[hp,jV,ItemOut]at hs;obtain⟨ja,jb,jc,jd,H4,rfl,qo,jG⟩:=hs;have E:Hid (zo (d+1) (l.drop p) cnt=.ok (.mk 5 0 [] L) (k+k') c'):=by rw[Hid,E0.out,hp]
  have xR:=yF.trans qo;have xG:=xM.rdg qo (by omega);have jj:=qo.hid zQ xM.lt;obtain⟨X5,NQ⟩:∃ X,Itm.mk 5 0 [] L=X:=⟨_,rfl⟩
  rw[NQ]at jG E⊢;clear qo yF xM PRH hp E0 NQ;go_wp2_with (with_reducible refine zx ?_)
  refine stI xG fun wz hTy zU=>?_
  have zP:=xR.gb jj (Nat.le_refl _) zC zU;go_wp2_with fail
  refine zv rfl rfl hTy rfl rfl zw rfl ?_
  exact ItemOut.ok E.out rfl (by rw[← Nat.add_assoc];exact zP) jG
end
theorem Tx:∀ d:Nat,gC d:=by
 intro d
 induction d using Nat.strongRecOn with
 | _ d ih =>
 intro w H g A c l p cnt lv hTab hlv hP
 by_cases hc:cnt=256
 ·exact f7 hTab hlv hP hc
 have hc:cnt<256:=by have:=hP.cnt_le;omega
 cases hh:zj (l.drop p) with
 | error q=>exact f8 hTab hlv hP hc hh
 | ok r =>
  obtain⟨f,n,k⟩:=r;have hf:=(xY hh).f_lt
  rcases(by omega:f/32=0∨f/32=1∨f/32=2∨f/32=3∨f/32=7∨(4≤f/32∧f/32≤6)) with hk | hk | hk | hk | hk | hk
  ·exact Y0 hTab hlv hP hc hh hk
  ·exact Y2 hTab hlv hP hc hh hk
  ·exact Y3 hTab hlv hP hc hh hk
  ·exact Y4 hTab hlv hP hc hh hk
  ·exact Y8 hTab hlv hP hc hh hk
  ·cases d with
   | zero=>exact f5 hTab (by omega) hP hc hh hk.1 hk.2
   | succ d =>
    have ihd:=ih d (by omega)
    rcases(by omega:f/32=4∨f/32=5∨f/32=6) with h4 | h5 | h6
    ·exact Y5 ihd hTab hlv hP hc hh h4
    ·exact Y6 ihd hTab hlv hP hc hh h5
    ·exact Y7 ihd hTab hlv hP hc hh h6
end Go.Proofs.YtnlinmoiakgedaaGreatDoor
