/- squeezed. Walks: the program's reader of ite -/
import Derived.Test.YtkmlnjociijpgaaGreatDoorK24
set_option linter.unusedVariables false
set_option linter.unusedSimpArgs false
set_option maxRecDepth 100000
set_option maxHeartbeats 6400000
namespace Go.Proofs.YtkmlnjociijpgaaGreatDoor
open Go.RowKit
theorem jac{P:Prop}(h:P:=by
 have ITH2:=Hh (ih w9 H5 g (some ⟨b,off,none⟩) c l (P1+k) c1 lv (hTab.mono tq.grows.le) hlv tq.psr);clear a0 a1;go_wp2_with fail
 refine ITH2.out.mono ?_
 intro e w12 hs
 cases rk:ze d (l.drop (P1+k)) c1 with
 | err q =>
  rw[rk,ItemOut]at hs;obtain⟨rfl,H6,p6,cnt6,uC⟩:=hs;have sz:((q:Int) != 0)=true:=by rw[bne_iff_ne];have:=zN _ _ _ _ rk;omega
  have oD:((q:Int)=0)=False:=eq_false (by have:=zN _ _ _ _ rk;omega);have E:Hid (f7 (wQ (ze d) n (l.drop p) cnt none)=.err q):=by rw[Hid,vg.out,Ze L k0 JE.out aW.out (by rw[List.drop_drop];exact rk)];rfl
  have sd:=tq.trans uC;have rJ:=rt.rdg uC (by omega);have kQ:=uC.hid uS rt.lt;have hZ:=Blk.new w12 77 #[.int .i64 0,.int .u64 0,.slice none 0 0,.slice none 0 0];have M4:H6 w12.heap.size=none:=sd.psr.holds.none_of_ge (Nat.le_refl _);have mE:=Hh rJ.lt;have mG:=sd.alloc zf;have mB:=rJ.alloc zf;clear ITH2 rk uC sd rJ tq rt sm PP sv;go_wp2_with (with_reducible refine zx ?_)
  refine stI hZ fun w15 hZ15 hg15=>?_
  have cE:=mG.gb M4 (Nat.le_of_lt mE.out) yo hg15;have cB:=mB.grown hg15 (by intro e;injection e with e;have:=mE.out;omega);clear mG mB hZ hg15 hZ15;go_wp2_with (with_reducible refine zx ?_)
  refine stI cB fun wz hTy hgz=>?_
  have xr:=cE.gb kQ (Nat.le_refl _) yo hgz;exact jeJ
 | ok y k2 c2 =>
 rw[rk,ItemOut]at hs;obtain⟨ka,kb,kd,ke,H6,rfl,uC,oS⟩:=hs
 have I5:Hid (wQ (ze d) n (l.drop p) cnt none=(wQ (ze d) m1 (l.drop (p+(k0+(k+k2)))) c2 (some key)).pre (L++[x,y]) (k0+(k+k2))):=by
  rw[Hid,vg.out,Vl L k0 JE.out aW.out (by rw[List.drop_drop];exact rk),gw.out,List.drop_drop,← oA.out];rw[show p+k0+(k+k2)=p+(k0+(k+k2)) by omega]
 have Lc:Hid ((L++[x,y]).length≤c2):=by
  have h1:=cM.out;have h2:=vu d _ _ _ _ _ rk;have:=f9.out;rw[Hid,List.length_append];simp;omega
 have sd:=tq.trans uC;have CC:=sd.psr.cnt_le;have rJ:=rt.rdg uC (by omega);have kQ:=uC.hid uS rt.lt;have es:=sm.rdg uC (by have:=yJ.out;omega);have aH:=uC.hid kM sm.lt;have et:=PP.rdg uC (by have:=Dl.out;omega);have er:=(sv.rdg uC (by have:=yJ.out;omega)).mono uC.grows.le;have aJ:∀ q,(Value.slice VA L.length vc).ownBlock=some q→H6 q=none:=fun q hq=>uC.hid (qi q hq) (sv.lt q hq).2
 have hZ:=Blk.new w12 77 #[.int .i64 0,.int .u64 0,.slice none 0 0,.slice none 0 0];have M4:H6 w12.heap.size=none:=sd.psr.holds.none_of_ge (Nat.le_refl _);have mE:=Hh (And.intro rJ.lt (And.intro es.lt et.lt));have cG:=Hh (show ∀ q,(Value.slice VA L.length vc).ownBlock=some q→X+1≤q∧q<w12.heap.size from fun q hq=>er.lt q hq);have mG:=sd.alloc zf;have mB:=rJ.alloc zf;have Xs:=es.alloc zf;have eu:=et.alloc zf;have Xr:=er.alloc zf;have lW:=Hh (show L.length≤256 by have:=Lc.out;simp at this;omega);have Dy:ItemsC H6 (yu x ja jb jc jd++yu y ka kb kd ke) [x,y]:=(ItemsC.one (eI.mono uC.grows.le)).app (ItemsC.one oS);clear ITH2 rk uC sd rJ es et er tq rt sm PP sv;go_wp2_with (with_reducible refine zx ?_)
 refine stI hZ fun w15 hZ15 hg15=>?_
 have cE:=mG.gb M4 (Nat.le_of_lt mE.out.1) yo hg15;have cB:=mB.grown hg15 (by intro e;injection e with e;have:=mE.out.1;omega);have Xt:=Xs.grown hg15 (by intro e;injection e with e;have:=mE.out.2.1;omega);have i5:=eu.grown hg15 (by intro e;injection e with e;have:=mE.out.2.2;omega);have RN:=Xr.kl hg15 (fun q hv=>by have:=(cG.out q hv).2;omega);have b0:=hZ15.cell 0 rfl;have b1:=hZ15.cell 1 rfl;have b2:=hZ15.cell 2 rfl;have b3:=hZ15.cell 3 rfl;have y0:=i5.cell 0 rfl;have y1:=i5.cell 1 rfl;have y2:=i5.cell 2 rfl;have y3:=i5.cell 3 rfl;have x3:=Xt.cell 3 rfl;have Y2:=cE.alloc (.cells (yu x ja jb jc jd++yu y ka kb kd ke).toArray 77);have RQ:=cB.alloc (.cells (yu x ja jb jc jd++yu y ka kb kd ke).toArray 77);have Xu:=Xt.alloc (.cells (yu x ja jb jc jd++yu y ka kb kd ke).toArray 77)
 have RO:=RN.alloc (.cells (yu x ja jb jc jd++yu y ka kb kd ke).toArray 77);clear mG mB Xs eu Xr hZ hg15 cE cB Xt i5 RN;go_wp2_with (at_builtin;refine zh ?_)
 refine xb rfl (.tmp 72) (.tmp 75) rfl (X+1) (.slice VA L.length vc) H6 _ rfl RO _ 2 _ (yu x ja jb jc jd++yu y ka kb kd ke) [x,y] rfl rfl Dy (Src.new _ _ _ _ rfl _ rfl) (by have:=lW.out;simp;omega) Xu.lt fun v' w17 hO17 hg17 hat17=>?_
 obtain⟨VA',vc',rfl,_⟩:=hO17.form;have RR:=RQ.grown hg17 (fun e=>by have:=(cG.out _ e).1;have:=yJ.out;omega);have RU:=Xu.grown hg17 (fun e=>by have:=(cG.out _ e).1;omega);have Rh:=wJ Y2.psr.holds aJ hat17;have RX:=Y2.grownRow aJ (fun q hq=>by have:=(cG.out q hq).1;have:=yJ.out;omega) yo hg17;obtain⟨L',oQ⟩:∃ L',L++[x,y]=L':=⟨_,rfl⟩
 rw[oQ]at hO17 Rh I5 Lc⊢;have qk:Hid (L'.length=L.length+2):=by rw[Hid,← oQ];simp
 clear oQ Y2 RQ Xu RO hg17 hat17 x3 y0 y1 y2 y3 b0 b1 b2 b3 hZ15;have R8:=Hh (show ∀ q,(Value.slice VA' L'.length vc').ownBlock=some q→X+1≤q from fun q hq=>(hO17.lt q hq).1);go_wp2_with (with_reducible refine zx ?_)
 refine zw rfl _ _ _ rfl rfl X 3 _ rfl rfl _ _ RU sT (by simp) rfl fun w18 hX18 hg18=>?_
 have RY:=RX.gb aH (Nat.le_of_lt yJ.out) yo hg18;have LF:=RR.grown hg18 (by intro e;injection e with e;have:=yJ.out;omega)
 have L6:=hO17.kept hg18 (by
  cases hv:(Value.slice VA' L'.length vc').ownBlock with
  | none=>exact .inl rfl
  | some q=>exact .inr (fun e=>by injection e with e;have:=R8.out q hv;omega))
 have KI:IntKind.u64.wrap ((i:Int)+1)=(i:Int)+1:=by rw[IntKind.wrap_u64];have:=qD.out;omega
 rw[show P1+k+k2=p+(k0+(k+k2)) by have:=oA.out;omega]at RY;have qA:=Hh WY;clear RX RR RU hO17 hg18 WY;go_wp2_with fail
 go_roundw
 case rel=>exact⟨i+1,H6,VA',vc',_,L',k0+(k+k2),c2,some key,_,_,_,by first | rfl | (simp;done) | go_num,rfl,by have:=qA.out;omega,rfl,.inr ⟨by omega,key,rfl,jj.out,by have:=Ui.out.1;have:=GG.out;have:=jj.out;omega,DI.out⟩,RY,LF,kQ,hX18,aH,L6,Rh,Lc.out,by rw[P9.out];exact I5.out⟩
 case measure=>have:=qA.out;simp[intOf];omega):P:=h
theorem jaw{P:Prop}(h:P:=by
 rw[hr,ItemOut]at hout;obtain⟨rfl,H',p',cnt',hd⟩:=hout;have jG:=Hh hr;clear hr;have yE:=tX.rdg hd (by omega);have yA:=xq.trans_but hd.grows (by omega);go_wp2_with (with_reducible refine zx ?_)
 unfold zZ
 have VT:w.heap.size+1<w3.heap.size:=hd.psr.gt;have hN:=Blk.new w3 77 #[.int .i64 0,.int .u64 0,.slice none 0 0,.slice none 0 0];have wo:Blk (w3.alloc zf) w.heap.size 77 #[.int .i64 0,.int .u64 0,.slice none 0 0,.slice none 0 0]:=yE.alloc _;have xK:=yA.alloc zf;have fI:H' w3.heap.size=none:=yA.holds.none_of_ge (by omega);have fP:H' w.heap.size=none:=hd.hid wg tX.lt;have pa:Blk (w3.alloc zf) w3.heap.size 77 #[.int .i64 0,.int .u64 0,.slice none 0 0,.slice none 0 0]:=hN;clear hN yE
 generalize w3.alloc zf=w4 at pa wo xK⊢
 refine stI pa fun w5 xG zK=>?_
 have vU:=wo.gr zK (by omega);have y8:=xK.grownOwn fI (by omega) zK;clear wo xK pa;have sz:((q:Int) != 0)=true:=by rw[bne_iff_ne];have:=zN _ _ _ _ jG.out;omega
 have oD:((q:Int)=0)=False:=eq_false (by have:=zN _ _ _ _ jG.out;omega);go_wp2_with (with_reducible refine zx ?_)
 refine stI vU fun w7 wU xQ=>?_
 have vm:=y8.grownOwn fP (by omega) xQ;go_wp2_with fail
 refine rU rfl rfl wU rfl rfl zj rfl ?_
 unfold uK
 rw[jG.out]
 exact⟨rfl,vm.below⟩):P:=h
theorem jbI{P:Prop}(h:P:=by
 go_wp2_with fail
 refine zo rfl rfl hTy rfl rfl zj rfl ?_
 exact ItemOut.ok E.out rfl (by rw[← Nat.add_assoc];exact xr) SJ):P:=h
theorem jcd{P:Prop}(h:P:=by
 go_simp
 refine Kz hK ?_
 clear hK K
 refine Wd ?_
 go_wp2_with fail
 refine rU rfl rfl wU rfl rfl zj rfl ?_
 unfold uK
 rw[jG.out]
 exact⟨ja,jb,jc,jd,H',rfl,vm,hi⟩):P:=h
theorem jcX{P:Prop}(h:P:=by
 go_wp2_with fail
 refine zo rfl rfl hTy rfl rfl zj rfl ?_
 exact ItemOut.err (q:=7) E.out rfl xr):P:=h
theorem jcY{P:Prop}(h:P:=by
 go_wp2_with fail
 refine zo rfl rfl hTy rfl rfl zj rfl ?_
 exact ItemOut.err (q:=6) E.out rfl xr):P:=h
theorem jda{P:Prop}(h:P:=by exact⟨xG.cell 0 rfl,xG.cell 1 rfl,xG.cell 2 rfl,xG.cell 3 rfl,rT.cell 1 rfl⟩):P:=h
theorem jdl{P:Prop}(h:P:=by have:=hd.psr.blk;obtain⟨_,_,ce⟩:=jB.out;rw[ce]at this;exact this):P:=h
theorem jeH{P:Prop}(h:P:=by
 go_wp2_with fail
 refine zo rfl rfl hTy rfl rfl zj rfl ?_
 exact ItemOut.ok E1.out rfl xr fF):P:=h
theorem jfg{P:Prop}(h:P:=by have wg:H w.heap.size=none:=hP.holds.none_of_ge (Nat.le_refl _);exact wg):P:=h
theorem jfo{P:Prop}(h:P:=by have qf:H (w.heap.size+1)=none:=hP.holds.none_of_ge (Nat.le_succ _);have xY:=((Rdg.refl hP).alloc zf).alloc zf;have xO:=(Blk.new w 77 #[.int .i64 0,.int .u64 0,.slice none 0 0,.slice none 0 0]).alloc zf;have wY:=Blk.new (w.alloc zf) 77 #[.int .i64 0,.int .u64 0,.slice none 0 0,.slice none 0 0];exact And.intro qf (And.intro xY (And.intro xO wY))):P:=h
theorem jfA{P:Prop}(h:P:=by have wT:=xY.grownRow (row:=some (w.heap.size+1)) (by rintro q ⟨⟩;exact qf) (by rintro q ⟨⟩;exact Nat.le_succ _) yo hg4;have xG:=xO.gr hg4 (by omega);exact And.intro wT xG):P:=h
theorem jge{P:Prop}(h:P:=by have VT:w.heap.size+1<w3.heap.size:=hd.psr.gt;have hN:=Blk.new w3 77 #[.int .i64 0,.int .u64 0,.slice none 0 0,.slice none 0 0];have wo:Blk (w3.alloc zf) w.heap.size 77 #[.int .i64 0,.int .u64 0,.slice none 0 0,.slice none 0 0]:=yE.alloc _;exact And.intro VT (And.intro hN wo)):P:=h
theorem jgA{P:Prop}(h:P:=by have xK:=yA.alloc zf;have fI:H' w3.heap.size=none:=yA.holds.none_of_ge (by omega);have fP:H' w.heap.size=none:=hd.hid wg tX.lt;have pa:Blk (w3.alloc zf) w3.heap.size 77 #[.int .i64 0,.int .u64 0,.slice none 0 0,.slice none 0 0]:=hN;exact And.intro xK (And.intro fI (And.intro fP pa))):P:=h
section
variable {p:List UInt8→Nat→PR} {m:Nat} {b:List UInt8} {cc q k c1 k2 c2:Nat} {x y:Itm} {last:Option (List UInt8)}
theorem Pv (L:List Itm) (k0:Nat) (h:p b cc=.err q):(wQ p (m+1) b cc last).pre L k0=.err q:=by rw[wQ,h];rfl
theorem Zf (L:List Itm) (k0:Nat) (h:p b cc=.ok x k c1) (h2:sJ last (b.take k)=some q):(wQ p (m+1) b cc last).pre L k0=.err q:=by rw[wQ,h];simp only;rw[h2];rfl
theorem Ze (L:List Itm) (k0:Nat) (h:p b cc=.ok x k c1) (h2:sJ last (b.take k)=none) (h3:p (b.drop k) c1=.err q):(wQ p (m+1) b cc last).pre L k0=.err q:=by rw[wQ,h];simp only;rw[h2];simp only;rw[h3];rfl
theorem Vl (L:List Itm) (k0:Nat) (h:p b cc=.ok x k c1) (h2:sJ last (b.take k)=none) (h3:p (b.drop k) c1=.ok y k2 c2):(wQ p (m+1) b cc last).pre L k0=(wQ p m (b.drop (k+k2)) c2 (some (b.take k))).pre (L++[x,y]) (k0+(k+k2)):=by
 rw[wQ,h];simp only;rw[h2];simp only;rw[h3];simp only
 cases wQ p m (b.drop (k+k2)) c2 (some (b.take k)) with
 | err q=>rfl
 | ok l k3 c3=>simp[PL.pre,Nat.add_assoc]
end
def f7 (r:PL):PR:=match r with
 | .err q=>.err q
 | .ok L k c=>.ok (.mk 5 0 [] L) k c
section
variable {d:Nat} {w:World} {H:Snap} {g:Nat} {A:Option Addr} {c:Nat} {l:List UInt8} {p cnt lv:Nat}
theorem NS (ih:aF d) (hTab:Tabs H) (hlv:lv+d=8) (hP:Psr 167 w g H A c l p cnt) (ap:0<l.length) (n:Nat) (hn:n<18446744073709551616):Calls Tryz.prog 170 #[.pointer (some ⟨g,0,none⟩),.int .u64 (n:Int),.int .i64 (lv:Int)] w (ItemOut 167 w H g A c l p (f7 (wQ (ze d) n (l.drop p) cnt none))):=by
 have yo:=hP.gt;obtain⟨b,off,rfl,vY⟩:=hP.bytes.at_ ap;have f8:=Hh vY;have wg:=jfg;obtain⟨qf,xY,xO,wY⟩:=jfo;rw[show(w.alloc zf).heap.size=w.heap.size+1 by simp]at wY;have Ui:=Hh (And.intro hP.small (And.intro hP.bytes.le hP.bytes.max));have HHH:=Hh hP.holds;have qD:=Hh hn;have Uu:(lv:Int)≤8:=by omega
 clear vY hn;go_enter Tryz.func170,Tryz.ntmps170
 go_wp2_with (with_reducible refine zx ?_)
 refine stI wY fun w4 uq hg4=>?_
 obtain⟨wT,xG⟩:=jfA;clear xY xO wY hg4;obtain⟨X,qS⟩:∃ X,w.heap.size+1=X:=⟨_,rfl⟩
 have yJ:Hid (w.heap.size<X):=by rw[Hid];omega
 rw[qS]at uq qf⊢;clear qS;go_wp2_with fail
 go_loopw [9,10] (fun v9 v10 wr=>∃ (i:Nat) (Hr:Snap) (VA:Option Addr) (vc vn:Nat) (L:List Itm) (k0 cc:Nat) (last:Option (List UInt8)) (KB:Option Addr) (kn kc:Nat),v10=.int .u64 (i:Int)∧v9=.slice KB kn kc∧i≤n∧vn=L.length∧
  ((i=0∧last=none)∨(0<i∧∃ key:List UInt8,last=some key∧kn=key.length∧key.length≤4096∧∀ W,Holds W H→Src W KB (key.map zu)))∧
  Rdg 167 w H wr Hr g (some ⟨b,off,none⟩) c l (p+k0) cc∧Blk wr w.heap.size 77 #[.int .i64 0,.int .u64 0,.slice none 0 0,.slice none 0 0]∧Hr w.heap.size=none∧
  Blk wr X 77 #[.int .i64 5,.int .u64 0,.slice none 0 0,.slice VA vn vc]∧Hr X=none∧OwnI wr (X+1) (.slice VA vn vc) Hr L∧(∀ q,(Value.slice VA vn vc).ownBlock=some q→Hr q=none)∧L.length≤cc∧
  wQ (ze d) n (l.drop p) cnt none=(wQ (ze d) (n-i) (l.drop (p+k0)) cc last).pre L k0) (fun _ v10 _=>n-(intOf v10).toNat)
 case atStart=>exact⟨0,H,none,0,0,[],0,cnt,none,none,0,0,rfl,rfl,Nat.zero_le _,rfl,.inl ⟨rfl,rfl⟩,wT,xG,wg,uq,qf,OwnI.nil _ _ H,by intro q hq;simp[Value.ownBlock]at hq,by simp,by rw[lF];rfl⟩
 case round =>
 clear wT xG uq;obtain⟨i,Hr,VA,vc,vn,L,k0,cc,last,KB,kn,kc,rfl,rfl,iL,rfl,o8,tt,rL,jk,pd,mF,xe,qm,WN,sF⟩:=hrel;have us:=Hh sF;have f9:=Hh WN;have aV:=Hh iL;have aD:=Hh o8;clear sF WN iL o8
 by_cases og:i<n
 ·obtain⟨m1,qq⟩:∃ m1,n-i=m1+1:=⟨n-i-1,by omega⟩
  have P9:=Hh (show n-(i+1)=m1 by omega);have vg:Hid (wQ (ze d) n (l.drop p) cnt none=(wQ (ze d) (m1+1) (l.drop (p+k0)) cc last).pre L k0):=by rw[Hid,us.out,qq]
  obtain⟨P1,jC⟩:∃ P1,p+k0=P1:=⟨_,rfl⟩
  have oA:=Hh jC;rw[jC]at tt vg;clear jC;have WY:(i:Int)<(n:Int):=by omega
  have ITH:=Hh (ih wr Hr g (some ⟨b,off,none⟩) c l P1 cc lv (hTab.mono tt.grows.le) hlv tt.psr);have a1:=tt.psr.blk.cell 1 rfl;clear qq us;go_wp2_with fail
  refine ITH.out.mono ?_
  intro e w5 hs
  cases hp:ze d (l.drop P1) cc with
  | err q =>
   rw[hp,ItemOut]at hs;obtain⟨rfl,H5,p5,cnt5,yU⟩:=hs;have sz:((q:Int) != 0)=true:=by rw[bne_iff_ne];have:=zN _ _ _ _ hp;omega
   have oD:=jfy;have E:Hid (f7 (wQ (ze d) n (l.drop p) cnt none)=.err q):=by rw[Hid,vg.out,Pv L k0 hp];rfl
   have xl:=tt.trans yU;have vU:=rL.rdg yU (by omega);have uS:=yU.hid jk rL.lt;obtain⟨hY,iI⟩:=jfn;have qp:=Hh vU.lt;have vT:=xl.alloc zf;have wU:=vU.alloc zf;clear ITH hp tt yU rL pd xe qm vg f9 xl vU a1;exact jdI
  | ok x k c1 =>
  rw[hp,ItemOut]at hs;obtain⟨ja,jb,jc,jd,H5,rfl,yU,eI⟩:=hs;have cM:=Hh (vu d _ _ _ _ _ hp);have rsp:=ow d _ _ _ _ _ hp;have zAb:=rsp.pos;have CR:=rsp.le;rw[List.length_drop]at CR;have GG:=Hh (show k≤l.length by omega);have JE:=Hh hp;obtain⟨key,cF⟩:∃ key,(l.drop P1).take k=key:=⟨_,rfl⟩
  have gw:=Hh cF;have jj:Hid (k=key.length):=by rw[Hid,← cF,List.length_take,List.length_drop];omega
  have DI:Hid (∀ W,Holds W H→Src W (some ⟨b,off+P1,none⟩) (key.map zu)):=fun W hW=>by
   have h:=rY (w:=W) (n:=k) (fun j hj=>hW.cell (f8.out j hj)) P1 (some ⟨b,off+P1,none⟩) (fun _=>rfl) (by omega);rw[cF]at h
   exact h
  have xl:=tt.trans yU;obtain⟨vU,uS,sy,kM,wH⟩:=jft;have qi:∀ q,(Value.slice VA L.length vc).ownBlock=some q→H5 q=none:=fun q hq=>yU.hid (qm q hq) (xe.lt q hq).2
  obtain⟨hY,iI⟩:=jfn;have qp:=Hh (And.intro vU.lt sy.lt);have Dl:=Hh (show g<w5.heap.size from xl.psr.gt);have tu:=Hh (show ∀ q,(Value.slice VA L.length vc).ownBlock=some q→X+1≤q∧q<w5.heap.size from fun q hq=>wH.lt q hq);have vT:=xl.alloc zf;have wU:=vU.alloc zf;have jn:=sy.alloc zf;have xj:=wH.alloc zf;clear ITH hp tt yU rL pd xe qm xl vU sy wH a1 rsp cF;go_wp2_with (with_reducible refine zx ?_)
  refine stI hY fun w8 hY8 hg8=>?_
  obtain⟨ve,tZ,ma,sk⟩:=jfl;obtain⟨Y1,PO⟩:∃ Y1,w5.heap.size=Y1:=⟨_,rfl⟩
  rw[PO]at hY8 qp Dl iI⊢;have a0:=ve.psr.blk.cell 0 rfl;have a1:=ve.psr.blk.cell 1 rfl;have s1:(P1:Int)≤((P1+k:Nat):Int):=by omega
  have s2:((P1+k:Nat):Int)≤(c:Int):=by have:=Ui.out.2.1;omega
  have s3:(P1:Int)≤(c:Int):=by omega
  have s4:(0:Int)≤(P1:Int):=by omega
  have s5:(c=P1)=False:=eq_false (by have:=Ui.out.2.1;omega);have s6:P1+k-P1=k:=by omega
  have s7:((P1+k:Nat):Int).toNat=P1+k:=by omega
  clear vT wU jn xj hY hg8;go_wp2_with fail
  go_big_quiet (fail)
  have i8:=ve.drewN nq;have i4:Blk (w8.drewN nq) w.heap.size 77 #[.int .i64 0,.int .u64 0,.slice none 0 0,.slice none 0 0]:=tZ;have LH:Blk (w8.drewN nq) X 77 #[.int .i64 5,.int .u64 0,.slice none 0 0,.slice VA L.length vc]:=ma;have LI:Blk (w8.drewN nq) Y1 77 #[.int .i64 x.kind,.int .u64 x.n,.slice ja x.bytes.length jb,.slice jc x.items.length jd]:=hY8;have L9:OwnI (w8.drewN nq) (X+1) (.slice VA L.length vc) H5 L:=sk
  generalize w8.drewN nq=w9 at i8 i4 LH LI L9⊢
  obtain⟨tq,rt,sm,PP,sv⟩:=And.intro i8 (And.intro i4 (And.intro LH (And.intro LI L9)));clear i8 i4 LH LI L9 ve tZ ma hY8 sk a0 a1 s1 s2 s3 s4 s5 s6 s7;have Od:Holds w9 H:=tq.psr.holds.mono tq.grows.le
  rcases aD.out with ⟨WU,rfl⟩ | ⟨hi,lk,rfl,sw,uh,hsl⟩
  ·have aW:Hid (sJ none ((l.drop P1).take k)=none):=rfl;have Ra:¬ ((0:Int)<(i:Int)):=by omega
   clear WU;have a0:=Od;have a1:=Od;exact jac
  have Ra:(0:Int)<(i:Int):=by omega
  have CM:=Hh (eN w9 (some ⟨b,off+P1,none⟩) KB key lk k kn (c-P1) kc jj.out sw (DI.out w9 Od) (hsl w9 Od));obtain⟨q,hq⟩:∃ q,Lib.compareBytes key lk=q:=⟨_,rfl⟩
  rw[hq]at CM;have HQ:=Hh hq;clear sw uh hsl hq;have a0:=Od;have a1:=Od
  by_cases sz:q=0
  ·subst sz;have aW:Hid (sJ (some lk) ((l.drop P1).take k)=some 7):=by rw[Hid,gw.out,sJ];rw[if_pos HQ.out]
   go_wp2_with fail
   refine CM.out.mono ?_
   rintro e w10 ⟨rfl,rfl⟩
   have E:Hid (f7 (wQ (ze d) n (l.drop p) cnt none)=.err 7):=by rw[Hid,vg.out,Zf L k0 JE.out aW.out];rfl
   go_wp2_with (with_reducible refine zx ?_)
   refine stI rt fun wz hTy hgz=>?_
   have xr:=tq.gb uS (Nat.le_refl _) yo hgz;exact jcX
  have t0:(q==0)=false:=by simpa using sz
  have t0':(q=0)=False:=eq_false sz
  by_cases fR:q<0
  ·have aW:Hid (sJ (some lk) ((l.drop P1).take k)=some 6):=by rw[Hid,gw.out,sJ];rw[HQ.out,if_neg sz,if_pos fR]
   go_wp2_with fail
   refine CM.out.mono ?_
   rintro e w10 ⟨rfl,rfl⟩
   have E:Hid (f7 (wQ (ze d) n (l.drop p) cnt none)=.err 6):=by rw[Hid,vg.out,Zf L k0 JE.out aW.out];rfl
   go_wp2_with (with_reducible refine zx ?_)
   refine stI rt fun wz hTy hgz=>?_
   have xr:=tq.gb uS (Nat.le_refl _) yo hgz;exact jcY
  have aW:Hid (sJ (some lk) ((l.drop P1).take k)=none):=by rw[Hid,gw.out,sJ];rw[HQ.out,if_neg sz,if_neg fR]
  go_wp2_with fail
  refine CM.out.mono ?_
  rintro e w10 ⟨rfl,rfl⟩
  exact jac
 have hm:i=n:=by have:=aV.out;omega
 subst hm;have zAn:¬ ((i:Int)<(i:Int)):=by omega
 have E1:Hid (f7 (wQ (ze d) i (l.drop p) cnt none)=.ok (.mk 5 0 [] L) k0 cc):=by
  rw[Hid,us.out,Nat.sub_self,wQ];simp[PL.pre,f7]
 obtain⟨H5,ij,cX,xX,Jf,ez,iC,lR⟩:=xe.snap tt.psr.holds (fun q hq=>qm q (tA hq));have xv:∀ q,VA.map (·.block)=some q→X+1≤q:=fun q hq=>(xe.lt q (tA hq)).1
 have VR:H5 w.heap.size=none:=tM xX jk (fun e=>by have:=xv _ e;have:=yJ.out;omega);have xl:Rdg 167 w H wr H5 g (some ⟨b,off,none⟩) c l (p+k0) cc:=tt.snap (B:=X+1) ij cX xX xv (by have:=yJ.out;omega) yo;have b0:=pd.cell 0 rfl;have b1:=pd.cell 1 rfl;have b2:=pd.cell 2 rfl;have b3:=pd.cell 3 rfl;have fF:IsItem H5 none 0 VA vc (.mk 5 0 [] L):=IsRowI.item ⟨ez,iC,lR⟩ 5 (by omega) 0 (by omega);clear xe xX lR cX ij jk qm xv tt us aD;go_wp2_with (with_reducible refine zx ?_)
 refine stI rL fun wz hTy hgz=>?_
 have xr:=xl.gb VR (Nat.le_refl _) yo hgz;exact jeH
end
section
variable {d:Nat} {w:World} {H:Snap} {g:Nat} {A:Option Addr} {c:Nat} {l:List UInt8} {p cnt lv:Nat}
theorem QC (ih:aF d) (hTab:Tabs H) (hlv:lv+(d+1)=8) (hP:Psr 167 w g H A c l p cnt) (hc:cnt<256) {f n k:Nat}(hh:zH (l.drop p)=.ok (f,n,k)) (hk:f/32=5):Calls Tryz.prog 134 #[.pointer (some ⟨g,0,none⟩),.int .i64 (lv:Int)] w (ItemOut 167 w H g A c l p (ze (d+1) (l.drop p) cnt)):=by
 obtain⟨yo,xY,xO,wg⟩:=jff;have c2:=jfH;have E0:=Hh (dZ d (l.drop p) cnt (by omega) hh hk);have S:(f:Int)/32=5:=by omega
 have OH:¬ ((8:Int)≤(lv:Int)):=by omega
 have KL:=jgL;have Uu:(lv:Int)≤8:=by omega
 have x9:((cnt:Int)==256)=false:=by simp;omega
 obtain⟨xV,KC,HC⟩:=jfh;clear hc;go_enter Tryz.func134,Tryz.ntmps134
 go_wp2_with (with_reducible refine zx ?_)
 refine zw rfl _ _ _ rfl rfl g 2 (.int .i64 ((cnt:Int)+1)) rfl rfl _ _ xY.psr.blk zF (by simp) rfl fun w2 wm xq=>?_
 obtain⟨wC,tX,PH⟩:=jfi;clear xY xO wm xq c2 KC x9 xV;go_wp2_with fail
 refine PH.out.mono ?_
 intro e w3 hs
 rw[HeadSaid,hh]at hs;obtain⟨rfl,ug,yA⟩:=hs;have HS:=ws hh;have se:p+k≤l.length:=by have:=HS.le;rw[List.length_drop]at this;have:=hP.le;omega
 obtain⟨wI,yE,HF⟩:=jfm;clear wC tX ug yA PH HS hh;rw[List.drop_drop]at E0;have cH:=HF.out.pos;have PR_:=NS (lv:=lv+1) ih hTab (by omega) wI.psr (by omega) n HF.out.n_lt;rw[show((lv+1:Nat):Int)=(lv:Int)+1 by omega]at PR_;have PRH:=Hh PR_;clear PR_ cH;go_wp2_with fail
 refine PRH.out.mono ?_
 intro e w4 hs
 cases hp:wQ (ze d) n (l.drop (p+k)) (cnt+1) none with
 | err q =>
  rw[hp,f7,ItemOut]at hs;obtain⟨rfl,H4,p4,cnt4,pR⟩:=hs;have E:Hid (ze (d+1) (l.drop p) cnt=.err q):=by rw[Hid,E0.out,hp]
  obtain⟨wE,wo,ik⟩:=jgW;clear pR wI yE PRH hp E0;go_wp2_with (with_reducible refine zx ?_)
  refine stI wo fun wz hTy hgz=>?_
  have xr:=wE.gb ik (Nat.le_refl _) yo hgz;exact jai
 | ok L k' c' =>
 rw[hp,f7,ItemOut]at hs;obtain⟨ja,jb,jc,jd,H4,rfl,pR,SJ⟩:=hs;have E:Hid (ze (d+1) (l.drop p) cnt=.ok (.mk 5 0 [] L) (k+k') c'):=by rw[Hid,E0.out,hp]
 obtain⟨wE,wo,ik⟩:=jgW;obtain⟨X5,iZ⟩:∃ X,Itm.mk 5 0 [] L=X:=⟨_,rfl⟩
 rw[iZ]at SJ E⊢;clear pR wI yE PRH hp E0 iZ;go_wp2_with (with_reducible refine zx ?_)
 refine stI wo fun wz hTy hgz=>?_
 have xr:=wE.gb ik (Nat.le_refl _) yo hgz;exact jbI
end
theorem Ka:∀ d:Nat,aF d:=by
 intro d
 induction d using Nat.strongRecOn with
 | _ d ih =>
 intro w H g A c l p cnt lv hTab hlv hP
 by_cases hc:cnt=256
 ·exact Yx hTab hlv hP hc
 have hc:cnt<256:=by have:=hP.cnt_le;omega
 cases hh:zH (l.drop p) with
 | error q=>exact Yy hTab hlv hP hc hh
 | ok r =>
 obtain⟨f,n,k⟩:=r;have hf:=(ws hh).f_lt
 rcases(by omega:f/32=0∨f/32=1∨f/32=2∨f/32=3∨f/32=7∨(4≤f/32∧f/32≤6)) with hk | hk | hk | hk | hk | hk
 ·exact Q6 hTab hlv hP hc hh hk
 ·exact Q7 hTab hlv hP hc hh hk
 ·exact Q8 hTab hlv hP hc hh hk
 ·exact Q9 hTab hlv hP hc hh hk
 ·exact QE hTab hlv hP hc hh hk
 cases d with
 | zero=>exact Yw hTab (by omega) hP hc hh hk.1 hk.2
 | succ d =>
 have ihd:=ih d (by omega)
 rcases(by omega:f/32=4∨f/32=5∨f/32=6) with h4 | h5 | h6
 ·exact QB ihd hTab hlv hP hc hh h4
 ·exact QC ihd hTab hlv hP hc hh h5
 exact QD ihd hTab hlv hP hc hh h6
theorem IsBytes.take {H:Snap}{A:Option Addr}{c:Nat}{l:List UInt8}(h:IsBytes H A c l) (m:Nat):IsBytes H A c (l.take m):=by
 exact jbD
def uK (w:World) (H:Snap) (l:List UInt8) (e:Ending) (w':World):Prop :=
 match yz l with
 | .err q=>e=.returned (.tuple #[lN,.int .i64 0,.int .i64 (q:Int)])∧Below w.heap.size w w'
 | .ok x k _=>∃ ja jb jc jd H',e=.returned (.tuple #[rG x ja jb jc jd,.int .i64 (k:Int),.int .i64 0])∧Grows w H w' H'∧IsItem H' ja jb jc jd x
theorem kZ {fn:Func}{p u v:Tmp}{ty:TypeId}(h:fn.results=#[.cell p ty,.tmp u,.tmp v]) (tmps:Array Value) (P:Program) (w:World) :
  (results fn tmps).run P w =
   ((asAddr (tmps.getD p undef)).run P w).andThen fun a w₁=>((loadVar ty a).run P w₁).andThen fun x w₂=>.ok (.tuple #[x,tmps.getD u undef,tmps.getD v undef]) w₂:=by
 exact jcO
theorem rU {fn:Func}{p u v:Tmp}{ty:TypeId}{a:Act}{w:World}{R:Ending→World→Prop}{g:Nat}{t:TypeId}{cs:Array Value}{d:TypeDesc}(h:fn.results=#[.cell p ty,.tmp u,.tmp v]) (hp:a.tmps.getD p undef=.pointer (some ⟨g,0,none⟩)) (hg:Blk w g t cs)
  (hd:(match d with | .struct _ | .array _ _=>true | _=>false)=true) (hu:Tryz.prog.underlying ty=some d) (hi:(Tryz.prog.info? ty).map (·.size)=some cs.size)
  (hdf:a.defers=[]) (hR:R (.returned (.tuple #[.agg cs,a.tmps.getD u undef,a.tmps.getD v undef])) w):bodyPost Tryz.prog fn R .ret a w:=by
 refine bodyPost_ret (v:=.tuple #[.agg cs,a.tmps.getD u undef,a.tmps.getD v undef]) ?_ hdf hR
 rw[kZ h,hp];exact ja8
theorem aR (a b c:Value) (ha:a.oneCell'=true) (hb:b.oneCell'=true) (hc:c.oneCell'=true):(#[a,b,c]:Array Value).all (·.oneCell')=true:=by simp[ha,hb,hc]
theorem QW:(Tryz.prog.info? 167).map (·.size)=some 3:=by kernel_rfl
theorem Grows.trans_but {w w' w'':World}{H H' H'':Snap}{g:Nat}(h:Grows w H w' H') (k:GrowsBut w' H' w'' H'' g) (hg:w.heap.size≤g):Grows w H w'' H'':=by
 refine⟨zp h.below k.grown (by rintro q ⟨⟩;exact hg),h.le.trans k.le,k.holds,fun x o hx=>?_⟩
 rcases k.fresh x o hx with hx | hx
 ·exact h.fresh x o hx
 exact .inr (Nat.le_trans h.below.size hx)
theorem jK {H:Snap}(hTab:Tabs H) (w:World) (hH:Holds w H) {A:Option Addr}{n c:Nat}{l:List UInt8}(hn:n=l.length) (hl:IsBytes H A c l) :
  Calls Tryz.prog 97 #[.slice A n c] w (uK w H l):=by
 have EI:=hl.le;have mv:=hl.max;obtain⟨m,hm⟩:∃ m,min n 4096=m:=⟨_,rfl⟩
 have WY:min (n:Int) 4096=(m:Int):=by omega
 have m1:(m:Int)≤(c:Int):=by omega
 have m0:(0:Int)≤(m:Int):=by omega
 have ce:(l.take 4096).length=m:=by rw[List.length_take];omega
 have jB:=Hh (And.intro hn (And.intro hm ce));clear hn hm ce EI;go_enter Tryz.func97,Tryz.ntmps97
 go_wp2_with (with_reducible refine zx ?_)
 unfold zZ
 have e1:(w.alloc zf).heap.size=w.heap.size+1:=by go_simp
 have hT:=(Blk.new w 77 #[.int .i64 0,.int .u64 0,.slice none 0 0,.slice none 0 0]).alloc (.cells #[.slice none 0 0,.int .i64 0,.int .i64 0] 167);have hB:=Blk.new (w.alloc zf) 167 #[.slice none 0 0,.int .i64 0,.int .i64 0];have hG:=((Grows.refl hH).alloc zf).alloc (.cells #[.slice none 0 0,.int .i64 0,.int .i64 0] 167);rw[e1]at hB;have xO:Blk ((w.alloc zf).alloc (.cells #[.slice none 0 0,.int .i64 0,.int .i64 0] 167)) w.heap.size 77 #[.int .i64 0,.int .u64 0,.slice none 0 0,.slice none 0 0]:=hT;clear hT
 generalize (w.alloc zf).alloc (.cells #[.slice none 0 0,.int .i64 0,.int .i64 0] 167)=w1 at hB hG xO⊢
 have rx:w.heap.size+1<w1.heap.size:=hB.lt;have wg:H w.heap.size=none:=hH.none_of_ge (by omega);have qf:H (w.heap.size+1)=none:=hH.none_of_ge (by omega)
 refine zm rfl _ _ _ rfl rfl _ _ rfl rfl _ _ hB QW rfl (aR _ _ _ rfl rfl rfl) fun w2 wm hg2=>?_
 have xq:=hG.grownOwn qf (by omega) hg2;have tX:=xO.gr hg2 (by omega);clear hG xO hB
 have Ia:Psr 167 w2 (w.heap.size+1) H A c (l.take 4096) 0 0 :=
  ⟨by obtain⟨_,_,ce⟩:=jB.out;rw[ce];exact wm,hl.take 4096,xq.holds,qf,by omega,by rw[List.length_take];omega,by omega⟩
 have C0:(Calls Tryz.prog 134 #[.pointer (some ⟨w.heap.size+1,0,none⟩),.int .i64 0] w2 (ItemOut 167 w2 H (w.heap.size+1) A c (l.take 4096) 0 (yz l))) :=
  (Ka 8 w2 H (w.heap.size+1) A c (l.take 4096) 0 0 0 hTab (by omega) Ia)
 have C:=Hh C0;clear Ia C0;go_wp2_with fail
 refine C.out.mono ?_
 rintro e w3 hout
 clear C
 cases hr:yz l with
 | err q =>
  exact jaw
 | ok x k cc =>
 rw[hr,ItemOut,Nat.zero_add]at hout;obtain⟨ja,jb,jc,jd,H',rfl,hd,hi⟩:=hout;have jG:=Hh hr;clear hr;have yE:=tX.rdg hd (by omega);have yA:=xq.trans_but hd.grows (by omega)
 have ug:Blk w3 (w.heap.size+1) 167 #[.slice A m c,.int .i64 (k:Int),.int .i64 (cc:Int)]:=by
  exact jdl
 go_wp2_with (with_reducible refine zx ?_)
 unfold zZ
 obtain⟨VT,hN,wo⟩:=jge;have ss:Blk (w3.alloc zf) (w.heap.size+1) 167 #[.slice A m c,.int .i64 (k:Int),.int .i64 (cc:Int)]:=ug.alloc _;obtain⟨xK,fI,fP,pa⟩:=jgA;clear hN yE ug
 generalize w3.alloc zf=w4 at pa wo xK ss⊢
 refine stI pa fun w5 xG zK=>?_
 have vU:=wo.gr zK (by omega);have rT:=ss.gr zK (by omega);have y8:=xK.grownOwn fI (by omega) zK;clear wo xK pa ss;go_upto_region 5 with fail
 have vU:=vU.drew;have xG:=xG.drew;have rT:=rT.drew;have y8:=y8.drew
 refine zr 5 (fun w'=>w'.cell? ⟨w3.heap.size,0,none⟩=some (.int .i64 x.kind)∧w'.cell? ⟨w3.heap.size,1,none⟩=some (.int .u64 x.n)∧w'.cell? ⟨w3.heap.size,2,none⟩=some (.slice ja x.bytes.length jb)∧w'.cell? ⟨w3.heap.size,3,none⟩=some (.slice jc x.items.length jd)∧w'.cell? ⟨w.heap.size+1,1,none⟩=some (.int .i64 (k:Int))) (by kernel_rfl) (⟨xG.cell 0 rfl,xG.cell 1 rfl,xG.cell 2 rfl,xG.cell 3 rfl,rT.cell 1 rfl⟩) (fun zy=>?_)
 refine Tk 0 rfl zy ?_
 refine Tk 1 rfl zy ?_
 refine Tk 2 rfl zy ?_
 refine To 3 rfl fun K hK=>?_
 refine zT _ _ _ rfl _ _ rfl rfl _ _ vU zj rfl (Lb _ _ _ _ rfl rfl rfl rfl) fun w7 wU xQ=>?_
 have xG:=xG.gr xQ (by omega);have rT:=rT.gr xQ (by omega);have vm:=y8.grownOwn fP (by omega) xQ;go_simp
 refine Ko hK ?_ fun zy=>?_
 ·exact jda
 clear hK K
 refine Tk 4 rfl zy ?_
 refine To 5 rfl fun K hK=>?_
 exact jcd
end Go.Proofs.YtkmlnjociijpgaaGreatDoor
