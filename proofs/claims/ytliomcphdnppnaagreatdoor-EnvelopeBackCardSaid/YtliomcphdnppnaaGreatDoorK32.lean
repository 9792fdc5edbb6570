/- squeezed. Walks: the deck's floats and items -/
import Derived.Test.YtliomcphdnppnaaGreatDoorK31
set_option linter.unusedVariables false
set_option linter.unusedSimpArgs false
set_option maxRecDepth 100000
set_option maxHeartbeats 12800000
namespace Go.Proofs.YtliomcphdnppnaaGreatDoor
open Go.RowKit
theorem jak{P:Prop}(h:P:=by
 have NB:=Hh (sk w1 tq.deck);go_wp2_with fail
 refine NB.out.mono ?_
 rintro e w2 ⟨m',rfl,mw,xz⟩
 have uo:=sM.dealt xz (by omega);have wK:=tq.trans xz;have my:=xz.hid un sM.lt;have oZ:=Hh mw;clear NB tq xz sM un mw;go_wp2_with (with_reducible refine zx ?_)
 refine stI uo fun wz hTy yS=>?_
 have nF:=wK.gb my (Nat.le_refl _) wl yS;go_wp2_with fail
 refine zF rfl rfl hTy rfl rfl zu rfl ?_
 exact⟨_,.mk 0 m' [] [],rfl,⟨none,0,none,0,_,rfl,nF,IsItem.plain _ 0 m' (by omega) oZ.out⟩,yR _ _ _ (by simp),xU (by have:=yq 0 m' [] [] (by omega) (by omega);have:=Wr.out;simp[zP]at *;omega)⟩):P:=h
theorem jaB{P:Prop}(h:P:=by
 have hB:=Blk.new w1 22 #[.int .u64 20,.int .u64 21,.int .u64 22,.int .u64 23,.int .u64 0,.int .u64 19,.int .u64 32,.int .u64 255];have xz:=tq.alloc (.cells #[.int .u64 20,.int .u64 21,.int .u64 22,.int .u64 23,.int .u64 0,.int .u64 19,.int .u64 32,.int .u64 255] 22);have vU:=sM.alloc (.cells #[.int .u64 20,.int .u64 21,.int .u64 22,.int .u64 23,.int .u64 0,.int .u64 19,.int .u64 32,.int .u64 255] 22);have NB:=Hh (yN _ xz.deck 8 (by omega) (by omega));go_wp2_with fail
 refine NB.out.mono ?_
 rintro e w3 ⟨j,rfl,hj,wH⟩
 have wi:=hB.dealt wH (by have:=tq.size;omega);obtain⟨v,hc,hP⟩:=wi.pick bp (by kernel_rfl) j (by simp;omega);obtain⟨x,rfl,hx⟩:=nY hP;have uo:=vU.dealt wH (by omega);have my:=wH.hid un vU.lt;have wK:=xz.trans wH;have oZ:=Hh hx;clear NB hB wi hP tq xz wH hx sM vU un;go_wp2_with (with_reducible refine zx ?_)
 refine stI uo fun wz hTy yS=>?_
 have nF:=wK.gb my (Nat.le_refl _) wl yS;go_wp2_with fail
 refine zF rfl rfl hTy rfl rfl zu rfl ?_
 exact⟨_,.mk 7 x [] [],rfl,⟨none,0,none,0,_,rfl,nF,IsItem.plain _ 7 x (by omega) oZ.out⟩,yR _ _ _ (by simp),xU (Nat.le_trans (gS x) Wr.out)⟩):P:=h
theorem jaE{P:Prop}(h:P:=by
 have NB:=Hh (Tg w1 tq.deck 8 (by omega) (by omega));go_wp2_with fail
 refine NB.out.mono ?_
 rintro e w2 ⟨s,rfl,hl,xz⟩
 have vU:=sM.dealt xz (by omega);have tF:=xz.hid un sM.lt;have fN:=tq.trans xz;have RB:=Hh (Yc s (by omega) w2 xz.holds);have HL:=Hh hl;clear NB tq xz sM un hl;go_wp2_with fail
 refine RB.out.mono ?_
 rintro e w3 ⟨v3,rfl,ja,jb,jc,jd,H3,rfl,ye,nO⟩
 have uo:=vU.below ye.below;have my:=ye.none tF vU.lt;have wK:=fN.grown ye;have IA:Hid (s.data.toList.length=s.size):=by rw[Hid];first | rfl | simp
 obtain⟨XT,IW⟩:∃ X,Itm.mk 3 0 s.data.toList []=X:=⟨_,rfl⟩
 rw[IW]at nO⊢;have DQ:=Hh IW;clear vU tF fN ye RB IW;go_wp2_with (with_reducible refine zx ?_)
 refine stI uo fun wz hTy yS=>?_
 have nF:=wK.gb my (Nat.le_refl _) wl yS;go_wp2_with fail
 refine zF rfl rfl hTy rfl rfl zu rfl ?_
 exact⟨_,XT,rfl,⟨ja,jb,jc,jd,H3,rfl,nF,nO⟩,by rw[← DQ.out];exact yR _ _ _ (by have:=HL.out;have:=IA.out;omega),by rw[← DQ.out];exact xU (by have:=yq 3 0 s.data.toList [] (by omega) (by omega);have:=Wr.out;have:=HL.out;have:=IA.out;simp[zP]at *;omega)⟩):P:=h
theorem jaH{P:Prop}(h:P:=by
 have NB:=Hh (eY w1 tq.deck 30 (by omega) (by omega));go_wp2_with fail
 refine NB.out.mono ?_
 rintro e w2 ⟨A,c,l,rfl,hl,H2,zG,xz⟩
 have vU:=sM.dealt xz (by omega);have tF:=xz.hid un sM.lt;have fN:=tq.trans xz;have RB:=Hh (iK (A:=A) (c:=c) (l:=l) rfl (by omega) w2 (Src.of_row zG.row xz.holds) xz.holds);have HL:=Hh hl;clear NB tq xz sM un hl zG;go_wp2_with fail
 refine RB.out.mono ?_
 rintro e w3 ⟨v3,rfl,ja,jb,jc,jd,H3,rfl,ye,nO⟩
 have uo:=vU.below ye.below;have my:=ye.none tF vU.lt;have wK:=fN.grown ye;clear vU tF fN ye RB;go_wp2_with (with_reducible refine zx ?_)
 refine stI uo fun wz hTy yS=>?_
 have nF:=wK.gb my (Nat.le_refl _) wl yS;go_wp2_with fail
 refine zF rfl rfl hTy rfl rfl zu rfl ?_
 exact⟨_,.mk 2 0 l [],rfl,⟨ja,jb,jc,jd,H3,rfl,nF,nO⟩,yR _ _ _ (by have:=HL.out;omega),xU (by have:=yq 2 0 l [] (by omega) (by omega);have:=Wr.out;have:=HL.out;simp[zP]at *;omega)⟩):P:=h
theorem jaY{P:Prop}(h:P:=by
 have NB:=Hh (sk w1 tq.deck);go_wp2_with fail
 refine NB.out.mono ?_
 rintro e w2 ⟨m',rfl,mw,xz⟩
 have uo:=sM.dealt xz (by omega);have wK:=tq.trans xz;have my:=xz.hid un sM.lt;have oZ:=Hh mw;clear NB tq xz sM un mw;go_wp2_with (with_reducible refine zx ?_)
 refine stI uo fun wz hTy yS=>?_
 have nF:=wK.gb my (Nat.le_refl _) wl yS;go_wp2_with fail
 refine zF rfl rfl hTy rfl rfl zu rfl ?_
 exact⟨_,.mk 1 m' [] [],rfl,⟨none,0,none,0,_,rfl,nF,IsItem.plain _ 1 m' (by omega) oZ.out⟩,yR _ _ _ (by simp),xU (by have:=yq 1 m' [] [] (by omega) (by omega);have:=Wr.out;simp[zP]at *;omega)⟩):P:=h
theorem ja6{P:Prop}(h:P:=by
 have NB:=Hh (YR w1 tq.deck);go_wp2_with fail
 refine NB.out.mono ?_
 rintro e w2 ⟨⟨m',rfl,mw⟩,xz⟩
 have uo:=sM.dealt xz (by omega);have wK:=tq.trans xz;have my:=xz.hid un sM.lt;have oZ:=Hh mw;clear NB tq xz sM un mw;go_wp2_with (with_reducible refine zx ?_)
 refine stI uo fun wz hTy yS=>?_
 have nF:=wK.gb my (Nat.le_refl _) wl yS;go_wp2_with fail
 refine zF rfl rfl hTy rfl rfl zu rfl ?_
 exact⟨_,.mk 8 m' [] [],rfl,⟨none,0,none,0,_,rfl,nF,IsItem.plain _ 8 m' (by omega) oZ.out⟩,yR _ _ _ (by simp),xU (Nat.le_trans (dg m') Wr.out)⟩):P:=h
theorem jbp{P:Prop}(h:P:=by
 go_wp2_with (with_reducible refine zx ?_)
 refine stI uo fun wz hTy yS=>?_
 have nF:=wK.gb my (Nat.le_refl _) wl yS;go_wp2_with fail
 refine zF rfl rfl hTy rfl rfl zu rfl ?_
 refine⟨_,y8,rfl,⟨qa,qb,qc,qd,H8,rfl,nF,ip⟩, ?_⟩
 rcases HY.out with rfl | rfl
 ·exact II.out
 exact⟨xK,xU (Nat.le_trans av (ey _))⟩):P:=h
theorem jbq{P:Prop}(h:P:=by
 rw[Hid,← fT]
 refine⟨fun z hz=>?_,by simp⟩
 rw[List.mem_append]at hz
 rcases hz with hz | hz
 ·exact pH.out.1 z hz
 rw[List.mem_singleton.1 hz];exact HY.out):P:=h
theorem jc8{P:Prop}(h:P:=by
 rcases hf b o hb with h1 | h1
 ·exact h.grows.fresh b o h1
 exact .inr (by have:=hA _ h1;omega)):P:=h
theorem jei{P:Prop}(h:P:=by
 go_wp2_with (with_reducible refine zx ?_)
 refine stI hY fun w8 hY8 hg8=>?_
 have mv:=qz.gb JR (Nat.le_of_lt UB.out) wl hg8;have gl:=rG.grown hg8 (by intro e;injection e with e;have:=UB.out;omega);clear qz rG hY hg8 hY8;go_wp2_with (with_reducible refine zx ?_)
 refine stI gl fun wz hTy yS=>?_
 have wK:=mv.gb nP (Nat.le_refl _) wl yS;exact jaF):P:=h
theorem jfh{P:Prop}(h:P:=by have hY:=Blk.new w5 26 #[.int .i64 0,.int .u64 0,.slice none 0 0,.slice none 0 0];have JR:H5 w5.heap.size=none:=vA.psr.holds.none_of_ge (Nat.le_refl _);exact And.intro hY JR):P:=h
theorem jfw{P:Prop}(h:P:=by have rG:=uG.grown ww (fun e=>by have:=(pU.lt _ e).1;omega);have pm:=oR tU.holds dQ hat7;have qz:=tU.grownRow dQ (fun q hq=>by have:=(pU.lt q hq).1;omega) wl ww;exact And.intro rG (And.intro pm qz)):P:=h
theorem jfL{P:Prop}(h:P:=by have mv:=qz.gb JR (Nat.le_of_lt UB.out.1) wl hg8;have gl:=rG.grown hg8 (by intro e;injection e with e;have:=UB.out.1;omega);have aZ:=ig.grown hg8 (by intro e;injection e with e;have:=UB.out.2;omega);have aY:=vT.kl hg8 (fun q hv=>by have:=(TH.out q hv).2;omega);exact And.intro mv (And.intro gl (And.intro aZ aY))):P:=h
theorem jfS{P:Prop}(h:P:=by have wl:=hD.deck.lt;have DZ:=hD.alloc zi;have tT:=hD.grows ((Grows.refl hD.holds).alloc zi);have vk:=Blk.new w 26 #[.int .i64 0,.int .u64 0,.slice none 0 0,.slice none 0 0];have un:H w.heap.size=none:=hD.holds.none_of_ge (Nat.le_refl _);have NX:=Hh (yN _ DZ 9 (by omega) (by omega));exact And.intro wl (And.intro DZ (And.intro tT (And.intro vk (And.intro un NX))))):P:=h
theorem jf6{P:Prop}(h:P:=by have uG:=(sO.dealt uT (by omega)).alloc (.cells (zV y ja jb jc jd).toArray 26);have Sh:=uT.hid uE sO.lt;have tU:=(sN.trans uT).alloc (.cells (zV y ja jb jc jd).toArray 26);have HY:=Hh (And.intro ik dP);exact And.intro uG (And.intro Sh (And.intro tU HY))):P:=h
theorem jf9{P:Prop}(h:P:=by have TH:=Hh (show ∀ q,(Value.slice VA L.length vc).ownBlock=some q→X+1≤q∧q<w5.heap.size from fun q hq=>rU.lt q hq);exact TH):P:=h
theorem jgm{P:Prop}(h:P:=by have ZH:H5 w.heap.size=none:=sn wR uE (fun e=>by have:=vd _ e;omega);have vA:Dealt w H wr H5 g:=sN.snap (B:=w.heap.size+1) rH Wx wR vd (by omega) wl;exact And.intro ZH vA):P:=h
theorem jgI{P:Prop}(h:P:=by have ZQ:IntKind.i64.wrap ((kk:Int)-1)=(kk:Int)-1:=IntWalk.i64_in _ (by have:=pH.out.2;omega);exact ZQ):P:=h
theorem jgK{P:Prop}(h:P:=by have pU:=((ve.dealt uT (by omega)).mono uT.le).alloc (.cells (zV y ja jb jc jd).toArray 26);exact pU):P:=h
theorem jgM{P:Prop}(h:P:=by have ol:=sO.rdg sL (by omega);have nP:=sL.hid uE sO.lt;have lh:=ZL.rdg sL (by have:=uJ.out;omega);have PV:=sL.hid Gl ZL.lt;have rU:=(ve.rdg sL (by have:=uJ.out;omega)).mono sL.grows.le;exact And.intro ol (And.intro nP (And.intro lh (And.intro PV rU)))):P:=h
theorem eP (op:BinOp) (a b:Int):∃ n:Nat,bits op .u64 a b=(n:Int)∧n<18446744073709551616:=by
 obtain⟨n,h1,h2⟩:=tI op a b;injection h1 with h1
 injection h1 with _ h1
 exact⟨n,h1,h2⟩
theorem Xu (op:BinOp) (a b:Int) (w:World):Calls Tryz.prog 118 #[.int .u64 (bits op .u64 a b),.int .i64 5,.int .i64 10] w (lN w):=by
 obtain⟨n,h1,h2⟩:=eP op a b;rw[h1]
 exact VW n h2 w
theorem Xv (op:BinOp) (a b:Int) (w:World):Calls Tryz.prog 118 #[.int .u64 (bits op .u64 a b),.int .i64 8,.int .i64 23] w (lN w):=by
 obtain⟨n,h1,h2⟩:=eP op a b;rw[h1]
 exact VX n h2 w
theorem Uw (op:BinOp) (a b:Int) (w:World):Calls Tryz.prog 119 #[.int .u64 (bits op .u64 a b)] w fun e w'=>(∃ bb:Bool,e=.returned (.bool bb))∧w=w':=by
 obtain⟨n,h1,h2⟩:=eP op a b;rw[h1]
 exact(iL n h2 w).mono fun e w' h=>⟨⟨_,h.1⟩,h.2⟩
def Fn (w:World) (H:Snap) (g:Nat) (e:Ending) (w':World):Prop:=(∃ n:Nat,e=.returned (.int .u64 (n:Int))∧n<18446744073709551616)∧Dealt w H w' H g
theorem YR {H:Snap}{g:Nat}(w:World) (hD:DeckIn w g H) :
  Calls Tryz.prog 91 #[.pointer (some ⟨g,0,none⟩)] w (Fn w H g):=by
 have NX:=Hh (yN w hD 1073741824 (by omega) (by omega));have wl:=hD.deck.lt;clear hD;go_enter Tryz.func91,Tryz.ntmps91
 go_wp2_with fail
 refine NX.out.mono ?_
 rintro e w1 ⟨r,rfl,hr,tq⟩
 have K0:IntKind.u64.wrap (r:Int)=(r:Int):=IntWalk.u64_in _ (by omega);have N2:=Hh (yN w1 tq.deck 5 (by omega) (by omega));clear NX;go_wp2_with fail
 refine N2.out.mono ?_
 rintro e w2 ⟨q,rfl,hq,xz⟩
 have hd:=tq.trans xz;clear N2 tq xz
 rcases(by omega:q=0∨q=1∨q=2∨q=3∨q=4) with rfl | rfl | rfl | rfl | rfl
 ·go_wp2_with (go_at_call 118;refine(Xu _ _ _ _).mono ?_;rintro e w3 ⟨⟨n,rfl,hn⟩,rfl⟩)
  go_ret
  exact⟨⟨n,rfl,hn⟩,hd⟩
 ·go_wp2_with (go_at_call 118;refine(Xv _ _ _ _).mono ?_;rintro e w3 ⟨⟨n,rfl,hn⟩,rfl⟩)
  go_ret
  exact⟨⟨n,rfl,hn⟩,hd⟩
 ·have hB:=Blk.new w2 22 #[.int .u64 9221120237041090560,.int .u64 9218868437227405312,.int .u64 18442240474082181120,.int .u64 9223372036854775808,.int .u64 0,.int .u64 1,.int .u64 4609434218613702656];have xz:=hd.alloc (.cells #[.int .u64 9221120237041090560,.int .u64 9218868437227405312,.int .u64 18442240474082181120,.int .u64 9223372036854775808,.int .u64 0,.int .u64 1,.int .u64 4609434218613702656] 22);have N3:=Hh (yN _ xz.deck 7 (by omega) (by omega));go_wp2_with fail
  refine N3.out.mono ?_
  rintro e w3 ⟨j,rfl,hj,wH⟩
  have wi:=hB.dealt wH (by have:=hd.size;omega);obtain⟨v,hc,hP⟩:=wi.pick bp (by kernel_rfl) j (by simp;omega);obtain⟨x,rfl,hx⟩:=nY hP;have wK:=xz.trans wH;have HX:=Hh hx;clear N3 hB wi hP xz wH hx;go_wp2_with fail
  go_ret
  exact⟨⟨x,rfl,HX.out⟩,wK⟩
 all_goals
  have N3:=Hh (yN w2 hd.deck 1073741824 (by omega) (by omega));go_wp2_with fail
  refine N3.out.mono ?_
  rintro e w3 ⟨j,rfl,hj,wH⟩
  have wK:=hd.trans wH;have K1:IntKind.u64.wrap (j:Int)=(j:Int):=IntWalk.u64_in _ (by omega);clear N3 hd wH;go_wp2_with (go_at_call 119;refine(Uw _ _ _ _).mono ?_;rintro e w4 ⟨⟨bb,rfl⟩,rfl⟩;cases bb)
  all_goals go_ret
  ·exact⟨tI ..,wK⟩
  exact⟨⟨9221120237041090560,rfl,by omega⟩,wK⟩
theorem YS {H:Snap}(hT:Tabs H) {k n:Int}{ba:Option Addr}{bl bc:Nat}{ia:Option Addr}{il ic:Nat}{x:Itm}(hx:ItemA H k n ba bl bc ia il ic x) (w:World) (hH:Holds w H) :
  Calls Tryz.prog 90 #[.agg #[.int .i64 k,.int .u64 n,.slice ba bl bc,.slice ia il ic]] w fun e w'=>∃ v y,e=.returned v∧Gives w H y v w'∧(y=x∨y=ze):=by
 obtain⟨rfl,rfl,rfl,rfl,rD⟩:=hx.eqs_;have hB:=(Blk.new w 26 #[.int .i64 x.kind,.int .u64 x.n,.slice ba x.bytes.length bc,.slice ia x.items.length ic]).alloc zi;have Dk:=Blk.new (w.alloc (zU x ba bc ia ic)) 26 #[.int .i64 0,.int .u64 0,.slice none 0 0,.slice none 0 0]
 simp only[zr]at Dk
 have hG:=((Grows.refl hH).alloc (zU x ba bc ia ic)).alloc zi;have yO:H (w.heap.size+1)=none:=hH.none_of_ge (by omega);have V:=Hh (qP hT rD.arg _ hG.holds)
 cases hv:zJ x with
 | false =>
  rw[hv]at V;clear hv;go_enter Tryz.func90,Tryz.ntmps90
  go_wp2_with fail
  refine V.out.mono ?_
  rintro e w2 ⟨rfl,zG⟩
  have vU:=Dk.below zG;have yE:=hG.below_ zG;clear V hB Dk hG zG;go_wp2_with (with_reducible refine zx ?_)
  refine stI vU fun w3 ti ph=>?_
  have ye:=yE.grownOwn yO (by omega) ph;go_wp2_with fail
  refine zF rfl rfl ti rfl rfl zu rfl ?_
  exact⟨_,ze,rfl,⟨none,0,none,0,H,rfl,ye,IsItem.plain _ 0 0 (by omega) (by omega)⟩,.inr rfl⟩
 | true =>
 rw[hv]at V;clear hv;go_enter Tryz.func90,Tryz.ntmps90
 go_wp2_with fail
 refine V.out.mono ?_
 rintro e w2 ⟨rfl,zG⟩
 have yQ:=hB.below zG;have vU:=Dk.below zG;have yE:=hG.below_ zG;have c0:=yQ.cell 0 rfl;have c1:=yQ.cell 1 rfl;have c2:=yQ.cell 2 rfl;have c3:=yQ.cell 3 rfl;clear V hB Dk hG zG;go_wp2_with (with_reducible refine zx ?_)
 refine stI vU fun w3 ti ph=>?_
 have ye:=yE.grownOwn yO (by omega) ph;go_wp2_with fail
 refine zF rfl rfl ti rfl rfl zu rfl ?_
 exact⟨_,x,rfl,⟨ba,bc,ia,ic,H,rfl,ye,rD⟩,.inl rfl⟩
def Fp (w:World) (H:Snap) (g:Nat) (x:Itm) (v:Value) (w':World):Prop:=∃ ba bc ia ic H',v=xp x ba bc ia ic∧Dealt w H w' H' g∧IsItem H' ba bc ia ic x
def BI:Nat→Nat
 | 0=>39
 | d+1=>9+6*BI d
theorem ey:∀ d,39≤BI d
 | 0=>Nat.le_refl _
 | d+1=>by have:=ey d;rw[BI];omega
def CI:Nat→Nat
 | 0=>1
 | d+1=>1+6*CI d
theorem BH:∀ d,1≤CI d
 | 0=>Nat.le_refl _
 | d+1=>by rw[CI];omega
def Lim (d:Nat) (x:Itm):Prop:=(zZ x).length≤BI d∧cnt x≤CI d∧dep x≤d
theorem xU {d:Nat}{k:Int}{n:Nat}{l:List UInt8}(h:(zZ (.mk k n l [])).length≤BI d):Lim d (.mk k n l []):=⟨h,by rw[cnt,yf];exact BH d,by rw[dep,fz];omega⟩
theorem dh {B:Nat}:∀ {l:List Itm},(∀ x∈l,(zZ x).length≤B)→(zP l).length≤l.length*B
 | [],_=>by simp[zP]
 | x::l,h=>by
  have h1:=h x (by simp);have h2:=dh (l:=l) fun y hy=>h y (by simp[hy])
  rw[zP,List.length_append,List.length_cons,Nat.succ_mul]
  omega
theorem df {B:Nat}:∀ {l:List Itm},(∀ x∈l,cnt x≤B)→yf l≤l.length*B
 | [],_=>by simp[yf]
 | x::l,h=>by
  have h1:=h x (by simp);have h2:=df (l:=l) fun y hy=>h y (by simp[hy])
  rw[yf,List.length_cons,Nat.succ_mul]
  omega
theorem eX {d:Nat}{k:Int}{n:Nat}{L l:List Itm}(lA:0≤k) (ZQ:k≤6) (hL:∀ z∈L,Lim d z) (h6:L.length≤6) (he:(zP l).length=(zP L).length) (hc:yf l=yf L) (hm:∀ x∈l,x∈L):Lim (d+1) (.mk k n [] l):=by
 have h1:=yq k n [] l (by omega) (by omega);have h2:=dh (fun z hz=>(hL z hz).1);have h3:L.length*BI d≤6*BI d:=Nat.mul_le_mul_right _ h6;have h4:=df (fun z hz=>(hL z hz).2.1);have h5:L.length*CI d≤6*CI d:=Nat.mul_le_mul_right _ h6
 simp only[List.length_nil]at h1
 refine⟨by rw[BI];omega,by rw[cnt,CI];omega, ?_⟩
 rw[dep]
 exact Zt fun x hx=>by have:=(hL x (hm x hx)).2.2;omega
theorem PQ.mem {l L:List Itm}(h:PQ l L) (he:l.length%2=0):∀ x∈l,x∈L:=fun x hx=>by
 obtain⟨q,h1,h2⟩:=iJ he hx;have:=wt ((h.1 q).1 h1)
 rcases h2 with rfl | rfl
 ·exact this.1
 exact this.2
def Fm (w:World) (H:Snap) (g d:Nat) (e:Ending) (w':World):Prop:=∃ v x,e=.returned v∧Fp w H g x v w'∧Modest x∧Lim d x
def eL (d:Nat):Prop:=∀ (w:World) (H:Snap) (g:Nat),Tabs H→DeckIn w g H→Calls Tryz.prog 45 #[.pointer (some ⟨g,0,none⟩),.int .i64 (d:Int)] w (Fm w H g d)
theorem yR (k:Int) (n:Nat) (l:List UInt8) (h:l.length≤1099511627776):Modest (.mk k n l []):=by rw[Modest,ModestL];exact⟨h,by simp,trivial⟩
theorem gS (n:Nat):(zZ (.mk 7 n [] [])).length≤39:=by
 rw[yP]
 simp only[Itm.kind,Itm.n,Itm.bytes,Itm.items,zP,List.append_nil]
 rw[if_neg (by omega)]
 split
 ·simp
 have:=(tJ (7:Int).toNat (yA (.mk 7 n [] []))).2
 omega
theorem dg (n:Nat):(zZ (.mk 8 n [] [])).length≤39:=by
 rw[yP,if_pos (show(Itm.mk 8 n [] []).kind=8 from rfl)]
 rcases pA n with h | h | h <;> (simp only[Itm.n];omega)
theorem RK:eL 0:=by
 intro w H g hTab hD
 have Wr:=Hh (ey 0);obtain⟨wl,DZ,tT,vk,un,NX⟩:=jfS;clear hD;go_enter Tryz.func45,Tryz.ntmps45
 go_wp2_with fail
 refine NX.out.mono ?_
 rintro e w1 ⟨r,rfl,hr,WM⟩
 have tq:=tT.trans WM;have sM:=vk.dealt WM (by omega);clear NX tT WM vk DZ
 rcases(by omega:r=0∨r=1∨r=2∨r=3∨r=4∨r=5∨r=6∨r=7∨r=8) with rfl | rfl | rfl | rfl | rfl | rfl | rfl | rfl | rfl
 ·exact jak
 ·exact jaY
 ·exact jaH
 ·exact jaE
 ·exact jak
 ·exact jak
 ·exact jak
 ·exact jaB
 exact ja6
theorem av:(zZ ze).length≤39:=by
 have:=yq 0 0 [] [] (by omega) (by omega);show(zZ (.mk 0 0 [] [])).length≤39
 simp[zP]at this
 omega
theorem oR {wr:World}{Hr:Snap}(hH:Holds wr Hr) {r0 r:Option Nat}(h0:∀ q,r0=some q→Hr q=none) (h:At0 wr r0 r):∀ q,r=some q→Hr q=none:=fun q hq=>by
 rcases h with h | ⟨g,h1,h2⟩
 ·exact h0 q (by rw[← h,hq])
 rw[hq]at h1;injection h1 with h1;subst h1;exact hH.none_of_ge h2
theorem Dealt.snap {w w':World}{H H' H'':Snap}{g B:Nat}{A:Option Addr}(h:Dealt w H w' H' g) (hl:H'.le H'') (hh:Holds w' H'') (hf:∀ b o,H'' b=some o→H' b=some o∨A.map (·.block)=some b)
  (hA:∀ q,A.map (·.block)=some q→B≤q) (hB:w.heap.size≤B) (hg:g<w.heap.size):Dealt w H w' H'' g:=by
 refine⟨⟨h.grows.grown,h.grows.le.trans hl,hh,fun b o hb=>?_⟩,h.deck.deck.mono hl,hh,sn hf h.deck.apart (fun e=>by have:=hA _ e;omega)⟩
 exact jc8
theorem RJ (m:Nat) (hm:m≤8) (ih:eL m):eL (m+1):=by
 intro w H g hTab hD
 have Wr:=Hh (ey (m+1));obtain⟨wl,DZ,tT,vk,un,NX⟩:=jfS;clear hD;have qu:((m+1:Nat):Int)=(m:Int)+1:=by omega
 rw[qu];have b0:(((m:Int)+1)==0)=false:=by rw[beq_eq_false_iff_ne];omega
 have p0:((m:Int)+1=0)=False:=eq_false (by omega);have B9:IntKind.i64.wrap ((m:Int)+1-1)=(m:Int):=by rw[show(m:Int)+1-1=(m:Int) by omega];exact IntWalk.i64_in _ (by omega)
 have sW:IntKind.i64.wrap (m:Int)=(m:Int):=IntWalk.i64_in _ (by omega);clear qu hm;go_enter Tryz.func45,Tryz.ntmps45
 go_wp2_with fail
 refine NX.out.mono ?_
 rintro e w1 ⟨r,rfl,hr,WM⟩
 have tq:=tT.trans WM;have sM:=vk.dealt WM (by omega);clear NX tT WM vk DZ
 rcases(by omega:r=0∨r=1∨r=2∨r=3∨r=4∨r=5∨r=6∨r=7∨r=8) with rfl | rfl | rfl | rfl | rfl | rfl | rfl | rfl | rfl
 ·exact jak
 ·exact jaY
 ·exact jaH
 ·exact jaE
 ·have NB:=Hh (yN w1 tq.deck 4 (by omega) (by omega));go_wp2_with fail
  refine NB.out.mono ?_
  rintro e w2 ⟨n0,rfl,Hl,xz⟩
  have vU:=sM.dealt xz (by omega);have tF:=xz.hid un sM.lt;have wH:=tq.trans xz;have ob:=OwnI.nil w2 (w.heap.size+1) H;clear NB tq xz sM un;go_wp2_with fail
  go_loopw [6,7] (fun v6 v7 wr=>∃ (kk:Nat) (Hr:Snap) (VA:Option Addr) (vc vn:Nat) (L:List Itm),v7=.int .i64 (kk:Int)∧v6=.slice VA vn vc∧vn=L.length∧Dealt w H wr Hr g∧OwnI wr (w.heap.size+1) (.slice VA vn vc) Hr L∧(∀ z∈L,Modest z∧Lim m z)∧L.length+1*kk≤3∧  Blk wr w.heap.size 26 #[.int .i64 0,.int .u64 0,.slice none 0 0,.slice none 0 0]∧Hr w.heap.size=none∧(∀ q,(Value.slice VA vn vc).ownBlock=some q→Hr q=none)) (fun _ v7 _=>(intOf v7).toNat)
  case atStart=>exact⟨n0,H,_,_,_,[],rfl,rfl,rfl,wH,ob,by simp,by simp;omega,vU,tF,by intro q hq;simp[Value.ownBlock]at hq⟩
  case round =>
  clear vU tF wH ob Hl;obtain⟨kk,Hr,VA,vc,vn,L,rfl,rfl,rfl,sN,ve,M5,QO,sO,uE,lj⟩:=hrel;have pH:=Hh (And.intro M5 QO);clear M5 QO
  by_cases yu:(0:Int)<(kk:Int)
  ·skip
   have IT:=Hh (ih wr Hr g (hTab.mono sN.le) sN.deck);go_wp2_with fail
   refine IT.out.mono ?_
   rintro e w4 ⟨v4,y,rfl,⟨ja,jb,jc,jd,H4,rfl,uT,rm⟩,ik,dP⟩
   have pU:=jgK;have dQ:∀ q,(Value.slice VA L.length vc).ownBlock=some q→H4 q=none:=fun q hq=>uT.hid (lj q hq) (ve.lt q hq).2
   obtain⟨uG,Sh,tU,HY⟩:=jf6;clear IT uT sN ve sO lj uE ik dP;go_wp2_with (at_builtin;refine zH ?_)
   refine xr rfl (.tmp 73) (.tmp 78) rfl (w.heap.size+1) (.slice VA L.length vc) H4 _ rfl pU _ 1 _ (zV y ja jb jc jd) [y] rfl rfl (ItemsC.one rm) (Src.new _ _ _ _ rfl _ rfl) (by have:=pH.out.2;simp;omega) (by have:=uG.lt;simp only[zr]at this⊢;omega) fun v' w7 vT ww hat7=>?_
   obtain⟨VA',vc',rfl,_⟩:=vT.form;obtain⟨rG,pm,qz⟩:=jfw;obtain⟨L',fT⟩:∃ L',L++[y]=L':=⟨_,rfl⟩
   rw[fT]at vT pm⊢
   have aV:Hid ((∀ z∈L',Modest z∧Lim m z)∧L'.length=L.length+1):=by
    exact jbq
   clear fT pU dQ uG tU ww hat7 rm;have ZQ:=jgI;go_wp2_with fail
   go_roundw
   case rel=>exact⟨kk-1,_,VA',vc',_,L',by rw[show((kk-1:Nat):Int)=(kk:Int)-1 by omega],rfl,rfl,qz,vT,aV.out.1,by have:=aV.out.2;have:=pH.out.2;omega,rG,Sh,pm⟩
   case measure=>simp[intOf];omega
  skip
  obtain⟨H5,rH,Wx,wR,It,t8,tA,lE⟩:=ve.snap sN.holds (fun q hq=>lj q (uB hq));have vd:∀ q,VA.map (·.block)=some q→w.heap.size+1≤q:=fun q hq=>(ve.lt q (uB hq)).1
  obtain⟨ZH,vA⟩:=jgm;obtain⟨x7,jz⟩:∃ x,Itm.mk 4 0 [] L=x:=⟨_,rfl⟩
  have Wc:ItemA H5 4 0 none 0 0 VA L.length vc x7:=by
   refine⟨by rw[← jz];rfl,by rw[← jz];rfl,by rw[← jz];rfl,by rw[← jz];rfl, ?_⟩
   rw[← jz]
   exact IsRowI.item ⟨t8,tA,lE⟩ 4 (by omega) 0 (by omega)
  have WH:=Hh (YS (hTab.mono vA.le) Wc _ vA.holds)
  have II:=Hh (show Modest x7∧Lim (m+1) x7 by
   rw[← jz]
   exact⟨by rw[Modest];exact⟨by simp,by have:=pH.out.2;omega,ModestL.of fun z hz=>(pH.out.1 z hz).1⟩,eX (by omega) (by omega) (fun z hz=>(pH.out.1 z hz).2) (by have:=pH.out.2;omega) rfl rfl fun _ h=>h⟩)
  clear ve wR lE Wc jz Wx rH uE lj vd sN;go_wp2_with fail
  refine WH.out.mono ?_
  rintro e w8 ⟨v8,y8,rfl,⟨qa,qb,qc,qd,H8,rfl,xJ,ip⟩,hy8⟩
  have uo:=sO.below xJ.below;have my:=xJ.none ZH sO.lt;have wK:=vA.grown xJ;have HY:=Hh hy8;clear WH sO xJ vA ZH hy8;exact jbp
 ·have NB:=Hh (yN w1 tq.deck 4 (by omega) (by omega));go_wp2_with fail
  refine NB.out.mono ?_
  rintro e w2 ⟨n0,rfl,Hl,xz⟩
  have vU:=sM.dealt xz (by omega);have tF:=xz.hid un sM.lt;have wH:=tq.trans xz;have ob:=OwnI.nil w2 (w.heap.size+1) H;clear NB tq xz sM un;go_wp2_with fail
  go_loopw [6,7] (fun v6 v7 wr=>∃ (kk:Nat) (Hr:Snap) (VA:Option Addr) (vc vn:Nat) (L:List Itm),v7=.int .i64 (kk:Int)∧v6=.slice VA vn vc∧vn=L.length∧Dealt w H wr Hr g∧OwnI wr (w.heap.size+1) (.slice VA vn vc) Hr L∧(∀ z∈L,Modest z∧Lim m z)∧L.length+2*kk≤6∧  Blk wr w.heap.size 26 #[.int .i64 0,.int .u64 0,.slice none 0 0,.slice none 0 0]∧Hr w.heap.size=none∧(∀ q,(Value.slice VA vn vc).ownBlock=some q→Hr q=none)) (fun _ v7 _=>(intOf v7).toNat)
  case atStart=>exact⟨n0,H,_,_,_,[],rfl,rfl,rfl,wH,ob,by simp,by simp;omega,vU,tF,by intro q hq;simp[Value.ownBlock]at hq⟩
  case round =>
  clear vU tF wH ob Hl;obtain⟨kk,Hr,VA,vc,vn,L,rfl,rfl,rfl,sN,ve,M5,QO,sO,uE,lj⟩:=hrel;have pH:=Hh (And.intro M5 QO);clear M5 QO
  by_cases yu:(0:Int)<(kk:Int)
  ·skip
   have IT:=Hh (ih wr Hr g (hTab.mono sN.le) sN.deck);go_wp2_with fail
   refine IT.out.mono ?_
   rintro e w4 ⟨v4,y,rfl,⟨ja,jb,jc,jd,H4,rfl,uT,rm⟩,ik,dP⟩
   have pU:=jgK;have dQ:∀ q,(Value.slice VA L.length vc).ownBlock=some q→H4 q=none:=fun q hq=>uT.hid (lj q hq) (ve.lt q hq).2
   obtain⟨uG,Sh,tU,HY⟩:=jf6;clear IT uT sN ve sO lj uE ik dP;go_wp2_with (at_builtin;refine zH ?_)
   refine xr rfl (.tmp 73) (.tmp 78) rfl (w.heap.size+1) (.slice VA L.length vc) H4 _ rfl pU _ 1 _ (zV y ja jb jc jd) [y] rfl rfl (ItemsC.one rm) (Src.new _ _ _ _ rfl _ rfl) (by have:=pH.out.2;simp;omega) (by have:=uG.lt;simp only[zr]at this⊢;omega) fun v' w7 vT ww hat7=>?_
   obtain⟨VA',vc',rfl,_⟩:=vT.form;obtain⟨rG,pm,qz⟩:=jfw;obtain⟨L',fT⟩:∃ L',L++[y]=L':=⟨_,rfl⟩
   rw[fT]at vT pm⊢
   have aV:Hid ((∀ z∈L',Modest z∧Lim m z)∧L'.length=L.length+1):=by
    exact jbq
   clear fT pU dQ uG tU ww hat7 rm;have Bl:Hid ((∀ z∈L',Modest z∧Lim m z)∧L'.length+1+2*(kk-1)≤6):=⟨aV.out.1,by have:=aV.out.2;have:=pH.out.2;omega⟩
   clear pH aV;obtain⟨wr2,zAd⟩:∃ x,w7=x:=⟨_,rfl⟩
   subst zAd;obtain⟨pH,sN,ve,sO,uE,lj⟩:=And.intro Bl (And.intro qz (And.intro vT (And.intro rG (And.intro Sh pm))));clear Bl qz vT rG Sh pm HY;have IT:=Hh (ih w7 H4 g (hTab.mono sN.le) sN.deck);go_wp2_with fail
   refine IT.out.mono ?_
   rintro e w14 ⟨v4,z',rfl,⟨ja,jb,jc,jd,H14,rfl,uT,rm⟩,ik,dP⟩
   have pU:=((ve.dealt uT (by omega)).mono uT.le).alloc (.cells (zV z' ja jb jc jd).toArray 26);have dQ:∀ q,(Value.slice VA' L'.length vc').ownBlock=some q→H14 q=none:=fun q hq=>uT.hid (lj q hq) (ve.lt q hq).2
   have uG:=(sO.dealt uT (by omega)).alloc (.cells (zV z' ja jb jc jd).toArray 26);have Sh:=uT.hid uE sO.lt;have tU:=(sN.trans uT).alloc (.cells (zV z' ja jb jc jd).toArray 26);have HY:=Hh (And.intro ik dP);clear IT uT sN ve sO lj uE ik dP;go_wp2_with (at_builtin;refine zH ?_)
   refine xr rfl (.tmp 82) (.tmp 87) rfl (w.heap.size+1) (.slice VA' L'.length vc') H14 _ rfl pU _ 1 _ (zV z' ja jb jc jd) [z'] rfl rfl (ItemsC.one rm) (Src.new _ _ _ _ rfl _ rfl) (by have:=pH.out.2;simp;omega) (by have:=uG.lt;simp only[zr]at this⊢;omega) fun v' w17 vT ww hat7=>?_
   obtain⟨VA2,vc2,rfl,_⟩:=vT.form;obtain⟨rG,pm,qz⟩:=jfw;obtain⟨L2,fT⟩:∃ L2,L'++[z']=L2:=⟨_,rfl⟩
   rw[fT]at vT pm⊢
   have aV:Hid ((∀ z∈L2,Modest z∧Lim m z)∧L2.length=L'.length+1):=by
    exact jbq
   clear fT pU dQ uG tU ww hat7 rm;have ZQ:=jgI;go_wp2_with fail
   go_roundw
   case rel=>exact⟨kk-1,_,VA2,vc2,_,L2,by rw[show((kk-1:Nat):Int)=(kk:Int)-1 by omega],rfl,rfl,qz,vT,aV.out.1,by have:=aV.out.2;have:=pH.out.2;omega,rG,Sh,pm⟩
   case measure=>simp[intOf];omega
  skip
  obtain⟨H5,rH,Wx,wR,It,t8,tA,lE⟩:=ve.snap sN.holds (fun q hq=>lj q (uB hq));have vd:∀ q,VA.map (·.block)=some q→w.heap.size+1≤q:=fun q hq=>(ve.lt q (uB hq)).1
  obtain⟨ZH,vA⟩:=jgm;have BD:=Hh (eC (hTab.mono vA.le) (IsRowI.two t8 tA lE) (by have:=pH.out.2;omega) wr vA.holds);clear ve wR lE Wx rH uE lj vd sN;go_wp2_with fail
  refine BD.out.mono ?_
  intro e w8 gH
  obtain⟨v8,c,y8,rfl,⟨qa,qb,qc,qd,H8,rfl,xJ,ip⟩,Dp⟩:=gH.one;have gl:=sO.below xJ.below;have Ii:=xJ.none ZH sO.lt;have mv:=vA.grown xJ;have uo:=gl.alloc (zU y8 qa qb qc qd);have bz:=Blk.new w8 26 #[.int .i64 y8.kind,.int .u64 y8.n,.slice qa y8.bytes.length qb,.slice qc y8.items.length qd];have wK:=mv.alloc (zU y8 qa qb qc qd);have my:=Ii;clear BD sO xJ vA ZH gl mv Ii
  rcases Dp with ⟨rfl,l,Wq,hvx,iu,oe,hpq⟩ | ⟨hc,hxz,Wm⟩
  ·have AH:=Hh (show Modest y8∧Lim (m+1) y8 by
    refine⟨yU hvx, ?_⟩
    have QR:=jT hvx (by rw[Wq];rfl);rw[Wq]at QR⊢
    exact eX (by omega) (by omega) (fun z hz=>(pH.out.1 z hz).2) (by have:=pH.out.2;omega) iu hpq.2 (hpq.mem QR))
   clear Wq hvx iu oe hpq;go_upto_region 30 with fail
   go_wp2_with (with_reducible refine zx ?_)
   refine stI uo fun wz hTy yS=>?_
   have nF:=wK.gb my (Nat.le_refl _) wl yS;go_wp2_with fail
   refine zF rfl rfl hTy rfl rfl zu rfl ?_
   exact⟨_,y8,rfl,⟨qa,qb,qc,qd,H8,rfl,nF,ip⟩,AH.out.1,AH.out.2⟩
  have b1:(c != 0)=true:=by simp[hc]
  have p1:(c=0)=False:=eq_false hc;clear hc Wm hxz;go_upto_region 29 with fail
  go_wp2_with (with_reducible refine zx ?_)
  refine stI uo fun wz hTy yS=>?_
  have nF:=wK.gb my (Nat.le_refl _) wl yS;go_wp2_with fail
  refine zF rfl rfl hTy rfl rfl zu rfl ?_
  exact⟨_,.mk 5 0 [] [],rfl,⟨none,0,none,0,H8,rfl,nF,IsItem.plain _ 5 0 (by omega) (by omega)⟩,yR _ _ _ (by simp),xU (by have:=yq 5 0 [] [] (by omega) (by omega);have:=ey (m+1);simp[zP]at *;omega)⟩
 ·have NB:=Hh (sk w1 tq.deck);go_wp2_with fail
  refine NB.out.mono ?_
  rintro e w2 ⟨m',rfl,mw,xz⟩
  have vU:=sM.dealt xz (by omega);have wH:=tq.trans xz;have tF:=xz.hid un sM.lt;have oZ:=Hh mw;clear NB tq xz sM un mw;have IT:=Hh (ih w2 H g hTab wH.deck);go_wp2_with fail
  refine IT.out.mono ?_
  rintro e w4 ⟨v4,y,rfl,⟨ja,jb,jc,jd,H4,rfl,uT,rm⟩,ik,dP⟩
  have uG:=(vU.dealt uT (by omega)).alloc (.cells (zV y ja jb jc jd).toArray 26);have dQ:=uT.hid tF vU.lt;have tU:=(wH.trans uT).alloc (.cells (zV y ja jb jc jd).toArray 26);have hO:=OwnI.lit (w:=w4) (ItemsC.one rm) w4.heap.size (Nat.le_refl _) (by simp);have hwt:w.heap.size<w4.heap.size:=by have:=vU.lt;have:=uT.size;omega
  obtain⟨H5,rH,Wx,wR,It,t8,tA,lE⟩:=hO.snap tU.holds (fun q hq=>by cases hq;exact uT.holds.none_of_ge (Nat.le_refl _));have dF:∀ q,q<w4.heap.size→H4 q=none→H5 q=none:=fun q hq h0=>sn wR h0 (fun e=>by simp at e;omega)
  have vA:Dealt w H (w4.alloc (.cells (zV y ja jb jc jd).toArray 26)) H5 g:=tU.snap (B:=w4.heap.size) rH Wx wR (fun q hq=>by simp at hq;omega) (by omega) wl;have ZH:=dF _ hwt dQ;obtain⟨x7,jz⟩:∃ x,Itm.mk 6 m' [] [y]=x:=⟨_,rfl⟩
  have Wc:ItemA H5 6 m' none 0 0 (some ⟨w4.heap.size,0,none⟩) 1 1 x7:=by
   refine⟨by rw[← jz];rfl,by rw[← jz];rfl,by rw[← jz];rfl,by rw[← jz];rfl, ?_⟩
   rw[← jz]
   exact IsRowI.item ⟨t8,tA,lE⟩ 6 (by omega) m' oZ.out
  have WH:=Hh (YS (hTab.mono vA.le) Wc _ vA.holds)
  have II:=Hh (show Modest x7∧Lim (m+1) x7 by
   rw[← jz]
   exact⟨by rw[Modest,ModestL,ModestL];exact⟨by simp,by simp,ik,trivial⟩,eX (L:=[y]) (by omega) (by omega) (fun z hz=>by rw[List.mem_singleton.1 hz];exact dP) (by simp) rfl rfl fun _ h=>h⟩)
  clear IT vU tF wH uT tU hO wR lE dF Wc rm ik dP jz Wx rH dQ;go_wp2_with fail
  refine WH.out.mono ?_
  rintro e w8 ⟨v8,y8,rfl,⟨qa,qb,qc,qd,H8,rfl,xJ,ip⟩,hy8⟩
  have uo:=uG.below xJ.below;have my:=xJ.none ZH uG.lt;have wK:=vA.grown xJ;have HY:=Hh hy8;clear WH uG xJ vA ZH hy8;exact jbp
 ·exact jaB
 exact ja6
def PL.pre (L:List Itm) (k0:Nat):PL→PL
 | .err q=>.err q
 | .ok l k c=>.ok (L++l) (k0+k) c
theorem ZZ {p:List UInt8→Nat→PR}{m:Nat}{b:List UInt8}{cc q:Nat}(L:List Itm) (k0:Nat) (h:p b cc=.err q):(qZ p (m+1) b cc).pre L k0=.err q:=by rw[qZ,h];rfl
theorem XD {p:List UInt8→Nat→PR}{m:Nat}{b:List UInt8}{cc k c':Nat}{x:Itm}(L:List Itm) (k0:Nat) (h:p b cc=.ok x k c'):(qZ p (m+1) b cc).pre L k0=(qZ p m (b.drop k) c').pre (L++[x]) (k0+k):=by
 rw[qZ,h]
 simp only
 cases qZ p m (b.drop k) c' with
 | err q=>rfl
 | ok l k2 c2=>simp[PL.pre,Nat.add_assoc]
theorem Tp (r:PL):r.pre [] 0=r:=by cases r <;> simp[PL.pre]
theorem Rdg.snap {T:TypeId}{w w':World}{H H' H'':Snap}{g B:Nat}{A0:Option Addr}{c:Nat}{l:List UInt8}{p cnt:Nat}{A:Option Addr}(h:Rdg T w H w' H' g A0 c l p cnt) (hl:H'.le H'') (hh:Holds w' H'') (hf:∀ b o,H'' b=some o→H' b=some o∨A.map (·.block)=some b)
  (hA:∀ q,A.map (·.block)=some q→B≤q) (hB:w.heap.size≤B) (hg:g<w.heap.size):Rdg T w H w' H'' g A0 c l p cnt:=by
 refine⟨⟨h.grows.grown,h.grows.le.trans hl,hh,fun b o hb=>?_⟩,h.psr.blk,h.psr.bytes.mono hl,hh, ?_,h.psr.le,h.psr.small,h.psr.cnt_le⟩
 ·exact jc8
 cases hx:H'' g with
 | none=>rfl
 | some o =>
 rcases hf g o hx with h1 | h1
 ·rw[h.psr.apart]at h1;cases h1
 have:=hA _ h1;omega
section
variable {d:Nat} {w:World} {H:Snap} {g:Nat} {A:Option Addr} {c:Nat} {l:List UInt8} {p cnt lv:Nat}
theorem Nj (ih:Yo d) (hTab:Tabs H) (hlv:lv+(d+1)=8) (hP:Psr 175 w g H A c l p cnt) (hc:cnt<256) {f n k:Nat}(hh:yr (l.drop p)=.ok (f,n,k)) (hk:f/32=4):Calls Tryz.prog 130 #[.pointer (some ⟨g,0,none⟩),.int .i64 (lv:Int)] w (ItemOut 175 w H g A c l p (zQ (d+1) (l.drop p) cnt)):=by
 obtain⟨wl,tT,vk,yO,c2⟩:=je8;have E0:=Hh (Rj d (l.drop p) cnt (by omega) hh hk);have S:(f:Int)/32=4:=by omega
 have Pf:¬ ((8:Int)≤(lv:Int)):=by omega
 have KL:=jf2;have Hi:(lv:Int)≤8:=by omega
 have sr:((cnt:Int)==256)=false:=by simp;omega
 obtain⟨uv,KC,HC⟩:=jfb;clear hc;go_enter Tryz.func130,Tryz.ntmps130
 go_wp2_with (with_reducible refine zx ?_)
 refine zj rfl _ _ _ rfl rfl g 2 (.int .i64 ((cnt:Int)+1)) rfl rfl _ _ tT.psr.blk wh (by simp) rfl fun w2 yQ yE=>?_
 obtain⟨xz,vU,PH⟩:=jfc;clear tT vk yQ yE c2 KC sr uv;go_wp2_with fail
 refine PH.out.mono ?_
 intro e w3 hs
 rw[HeadSaid,hh]at hs;obtain⟨rfl,wi,ye⟩:=hs;have HS:=vY hh;have pF:p+k≤l.length:=by have:=HS.le;rw[List.length_drop]at this;have:=hP.le;omega
 obtain⟨wH,ti,HF⟩:=jfd;clear xz vU wi ye PH HS hh;rw[List.drop_drop]at E0;have nL:=Blk.new w3 26 #[.int .i64 0,.int .u64 0,.slice none 0 0,.slice none 0 0];have uT:=wH.alloc zi;have uG:=ti.alloc zi;have uJ:=Hh ti.lt;have hXn:H w3.heap.size=none:=wH.psr.holds.none_of_ge (Nat.le_refl _);clear wH ti;go_wp2_with (with_reducible refine zx ?_)
 refine stI nL fun w4 T5 oE=>?_
 have tU:=uT.gb hXn (Nat.le_of_lt uJ.out) wl oE;have rF:=uG.grown oE (by intro e;injection e with e;have:=uJ.out;omega);clear uT uG nL oE;obtain⟨X,QP⟩:∃ X,w3.heap.size=X:=⟨_,rfl⟩
 rw[QP]at T5 hXn uJ⊢;clear QP;have HNL:=Hh HF.out.n_lt;obtain⟨P,hPP⟩:∃ P,p+k=P:=⟨_,rfl⟩
 rw[hPP]at tU E0;go_wp2_with fail
 go_loopw [7] (fun v7 wr=>∃ (m:Nat) (Hr:Snap) (VA:Option Addr) (vc vn:Nat) (L:List Itm) (k0 cc:Nat),v7=.int .u64 (m:Int)∧m≤n∧vn=L.length∧Rdg 175 w H wr Hr g A c l (P+k0) cc∧Blk wr w.heap.size 26 #[.int .i64 0,.int .u64 0,.slice none 0 0,.slice none 0 0]∧Hr w.heap.size=none∧
  Blk wr X 26 #[.int .i64 4,.int .u64 0,.slice none 0 0,.slice VA vn vc]∧Hr X=none∧OwnI wr (X+1) (.slice VA vn vc) Hr L∧(∀ q,(Value.slice VA vn vc).ownBlock=some q→Hr q=none)∧L.length≤cc∧
  qZ (zQ d) n (l.drop P) (cnt+1)=(qZ (zQ d) m (l.drop (P+k0)) cc).pre L k0) (fun v7 _=>(intOf v7).toNat)
 case atStart=>exact⟨n,H,none,0,0,[],0,cnt+1,rfl,Nat.le_refl _,rfl,tU,rF,yO,T5,hXn,OwnI.nil _ _ H,by intro q hq;simp[Value.ownBlock]at hq,by simp,by rw[Tp];rfl⟩
 case round =>
 clear tU rF T5;obtain⟨m,Hr,VA,vc,vn,L,k0,cc,rfl,E8,rfl,sN,sO,uE,ZL,Gl,ve,lj,Dg,Yu⟩:=hrel;have fH:=Hh Yu;have I8:=Hh Dg;have Pw:=Hh E8;clear Yu Dg E8
 by_cases aa:0<m
 ·obtain⟨m1,rfl⟩:∃ m1,m=m1+1:=⟨m-1,by omega⟩
  have fU:(0:Int)<((m1+1:Nat):Int):=by omega
  have IT:=ih wr Hr g A c l (P+k0) cc (lv+1) (hTab.mono sN.grows.le) (by omega) sN.psr;rw[show((lv+1:Nat):Int)=(lv:Int)+1 by omega]at IT;have ITH:=Hh IT;have hXl:=Hh ZL.lt;clear IT;go_wp2_with fail
  refine ITH.out.mono ?_
  intro e w5 hs
  cases hp:zQ d (l.drop (P+k0)) cc with
  | err q =>
   rw[hp,ItemOut]at hs;obtain⟨rfl,H5,p5,cnt5,sL⟩:=hs;have oG:((q:Int) != 0)=true:=by rw[bne_iff_ne];have:=wL _ _ _ _ hp;omega
   have WS:=jgd;have E:Hid (zQ (d+1) (l.drop p) cnt=.err q):=by rw[Hid,E0.out,fH.out,ZZ L k0 hp]
   have vA:=sN.trans sL;have ol:=sO.rdg sL (by omega);have nP:=sL.hid uE sO.lt;obtain⟨hY,JR⟩:=jfh;have UB:=Hh ol.lt;have qz:=vA.alloc zi;have rG:=ol.alloc zi;clear ITH hp sN sL sO ZL ve lj fH I8 vA ol;exact jei
  | ok x k' c' =>
  rw[hp,ItemOut]at hs;obtain⟨ja,jb,jc,jd,H5,rfl,sL,Wh⟩:=hs
  have HR2:Hid (qZ (zQ d) n (l.drop P) (cnt+1)=(qZ (zQ d) m1 (l.drop (P+(k0+k'))) c').pre (L++[x]) (k0+k')):=by
   rw[Hid,fH.out,XD L k0 hp,List.drop_drop,Nat.add_assoc]
  have I3:Hid ((L++[x]).length≤c'):=by
   have:=qW d _ _ _ _ _ hp;have:=I8.out;rw[Hid,List.length_append];simp;omega
  have vA:=sN.trans sL;rw[Nat.add_assoc]at vA;have hc6:=vA.psr.cnt_le;obtain⟨ol,nP,lh,PV,rU⟩:=jgM;have Pk:∀ q,(Value.slice VA L.length vc).ownBlock=some q→H5 q=none:=fun q hq=>sL.hid (lj q hq) (ve.lt q hq).2
  obtain⟨hY,JR⟩:=jfh;have UB:=Hh (And.intro ol.lt lh.lt);have TH:=jf9;have qz:=vA.alloc zi;have rG:=ol.alloc zi;have ig:=lh.alloc zi;have vT:=rU.alloc zi;have Sv:=Hh (show L.length≤256 by have:=I3.out;simp at this;omega);clear ITH hp sN sL sO ZL ve lj fH I8 vA ol lh rU;go_wp2_with (with_reducible refine zx ?_)
  refine stI hY fun w8 hY8 hg8=>?_
  obtain⟨mv,gl,aZ,aY⟩:=jfL;have b0:=hY8.cell 0 rfl;have b1:=hY8.cell 1 rfl;have b2:=hY8.cell 2 rfl;have b3:=hY8.cell 3 rfl;have x3:=aZ.cell 3 rfl;have dN:=mv.alloc (.cells (zV x ja jb jc jd).toArray 26);have od:=gl.alloc (.cells (zV x ja jb jc jd).toArray 26);have im:=aZ.alloc (.cells (zV x ja jb jc jd).toArray 26);have gj:=aY.alloc (.cells (zV x ja jb jc jd).toArray 26);clear qz rG ig vT hY hg8 mv gl aZ aY;go_wp2_with (at_builtin;refine zH ?_)
  refine xr rfl (.tmp 159) (.tmp 161) rfl (X+1) (.slice VA L.length vc) H5 _ rfl gj _ 1 _ (zV x ja jb jc jd) [x] rfl rfl (ItemsC.one Wh) (Src.new _ _ _ _ rfl _ rfl) (by have:=Sv.out;simp;omega) im.lt fun v' w10 iV xW hat10=>?_
  obtain⟨VA',vc',rfl,_⟩:=iV.form;have kU:=od.grown xW (fun e=>by have:=(TH.out _ e).1;have:=uJ.out;omega);have WE:=im.grown xW (fun e=>by have:=(TH.out _ e).1;omega);have Cm:=oR dN.psr.holds Pk hat10;have CY:=dN.grownRow Pk (fun q hq=>by have:=(TH.out q hq).1;have:=uJ.out;omega) wl xW;obtain⟨L',fT⟩:∃ L',L++[x]=L':=⟨_,rfl⟩
  rw[fT]at iV Cm HR2 I3⊢;have pH:Hid (L'.length=L.length+1):=by rw[Hid,← fT];simp
  clear fT dN od im gj xW hat10 x3;have BJ:=Hh (show ∀ q,(Value.slice VA' L'.length vc').ownBlock=some q→X+1≤q from fun q hq=>(iV.lt q hq).1);go_wp2_with (with_reducible refine zx ?_)
  refine zj rfl _ _ _ rfl rfl X 3 _ rfl rfl _ _ WE tx (by simp) rfl fun w11 Gj pY=>?_
  have Sm:=CY.gb PV (Nat.le_of_lt uJ.out) wl pY;have cX:=kU.grown pY (by intro e;injection e with e;have:=uJ.out;omega)
  have zAM:=iV.kept pY (by
   cases hv:(Value.slice VA' L'.length vc').ownBlock with
   | none=>exact .inl rfl
   | some q=>exact .inr (fun e=>by injection e with e;have:=BJ.out q hv;omega))
  have KM:IntKind.u64.wrap (((m1+1:Nat):Int)-1)=(m1:Int):=by rw[show((m1+1:Nat):Int)-1=(m1:Int) by omega,IntKind.wrap_u64];have:=HNL.out;have:=Pw.out;omega
  have KM2:IntKind.u64.wrap (m1:Int)=(m1:Int):=by rw[IntKind.wrap_u64];have:=HNL.out;have:=Pw.out;omega
  clear CY kU WE iV pY;go_wp2_with fail
  go_roundw
  case rel=>exact⟨m1,H5,VA',vc',_,L',k0+k',c',by first | rfl | (simp;done) | go_num,by have:=Pw.out;omega,rfl,Sm,cX,nP,Gj,PV,zAM,Cm,I3.out,HR2.out⟩
  case measure=>simp[intOf];try omega
 have hm:m=0:=by omega
 subst hm
 have E1:Hid (zQ (d+1) (l.drop p) cnt=.ok (.mk 4 0 [] L) (k+k0) cc):=by
  rw[Hid,E0.out,fH.out,qZ];simp[PL.pre]
 obtain⟨H5,rH,Wx,wR,It,t8,tA,lE⟩:=ve.snap sN.psr.holds (fun q hq=>lj q (uB hq));have vd:∀ q,VA.map (·.block)=some q→X+1≤q:=fun q hq=>(ve.lt q (uB hq)).1
 have ZH:H5 w.heap.size=none:=sn wR uE (fun e=>by have:=vd _ e;have:=uJ.out;omega);have vA:Rdg 175 w H wr H5 g A c l (P+k0) cc:=sN.snap (B:=X+1) rH Wx wR vd (by have:=uJ.out;omega) wl;have b0:=ZL.cell 0 rfl;have b1:=ZL.cell 1 rfl;have b2:=ZL.cell 2 rfl;have b3:=ZL.cell 3 rfl;have Ap:IsItem H5 none 0 VA vc (.mk 4 0 [] L):=IsRowI.item ⟨t8,tA,lE⟩ 4 (by omega) 0 (by omega);have HPP:=Hh hPP;clear ve wR lE Wx rH uE lj vd sN fH hPP;go_wp2_with (with_reducible refine zx ?_)
 refine stI sO fun wz hTy yS=>?_
 have wK:=vA.gb ZH (Nat.le_refl _) wl yS;go_wp2_with fail
 refine zp rfl rfl hTy rfl rfl zu rfl ?_
 exact ItemOut.ok E1.out rfl (by rw[← Nat.add_assoc,HPP.out];exact wK) Ap
end
end Go.Proofs.YtliomcphdnppnaaGreatDoor
