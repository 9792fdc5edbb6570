/- squeezed. Walks: reading external data: the  -/
import Derived.Test.YtkmlnjociijpgaaGreatDoorK28
set_option linter.unusedVariables false
set_option linter.unusedSimpArgs false
set_option maxRecDepth 100000
set_option maxHeartbeats 6400000
namespace Go.Proofs.YtkmlnjociijpgaaGreatDoor
open Go.RowKit
theorem jav{P:Prop}(h:P:=by
 go_wp2_with (with_reducible refine zx ?_)
 refine zm rfl _ _ _ rfl rfl _ _ rfl rfl _ _ xO rD rfl (aR _ _ _ rfl rfl rfl) fun w3 yE sp=>?_
 have yR:=zp (xW.alloc xW.size (.cells #[.int .i64 0,.bool false,.slice none 0 0] 81)) sp (by rintro q ⟨⟩;exact xW.size);have b0:=yE.cell 0 rfl;have b1:=yE.cell 1 rfl;have b2:=yE.cell 2 rfl;clear xO sp q0 q1 q2;go_wp2_with fail
 go_ret
 exact⟨by rw[BAD.out];try rfl,yR⟩):P:=h
theorem jaP{P:Prop}(h:P:=by
 go_wp2_with (with_reducible refine zx ?_)
 refine zm rfl _ _ _ rfl rfl _ _ rfl rfl _ _ xO rD rfl (aR _ _ _ rfl rfl rfl) fun w3 yE sp=>?_
 have yR:=zp (xW.alloc xW.size (.cells #[.int .i64 0,.bool false,.slice none 0 0] 81)) sp (by rintro q ⟨⟩;exact xW.size);have b0:=yE.cell 0 rfl;have b1:=yE.cell 1 rfl;have b2:=yE.cell 2 rfl;clear xO sp q0 q1 q2;go_wp2_with fail
 go_roundw
 case rel=>exact⟨k+1,HK.out,by go_num,yR,fun j hj=>by
  rcases Nat.lt_succ_iff_lt_or_eq.1 hj with h | h
  ·exact Ug.out j h
  subst h;rw[P6.out];exact OK.out⟩
 case measure=>have:=HK.out;simp[intOf];omega):P:=h
theorem jdy{P:Prop}(h:P:=by
 go_wp2_with fail
 go_ret2
 exact ExtsOut.err (q:=4) E.out rfl j6):P:=h
theorem jdA{P:Prop}(h:P:=by subst hr;exact⟨he,hb⟩):P:=h
theorem jeo{P:Prop}(h:P:=by
 have BAD:Hid (xa l=false):=KFH.out _ rfl (by
  cases hh:qb ⟨yl,yh,yv⟩ with
  | false=>rfl
  | true=>have:=(tK _).1 hh;simp only at this;have:=Ln.out;omega)
 exact jav):P:=h
theorem jf9{P:Prop}(h:P:=by have q0:wr.cell? ⟨b,off+k*3,none⟩=some (.int .i64 yl):=pZ.cell (hc 0 _ rfl);have q1:wr.cell? ⟨b,off+k*3+1,none⟩=some (.bool yh):=pZ.cell (hc 1 _ rfl);have q2:wr.cell? ⟨b,off+k*3+2,none⟩=some (.slice YA yv.length yc):=pZ.cell (hc 2 _ rfl);exact And.intro q0 (And.intro q1 q2)):P:=h
theorem jgP{P:Prop}(h:P:=by have wY:=Blk.new w5 77 #[.int .i64 0,.int .u64 0,.slice none 0 0,.slice none 0 0];have mu:H5 w5.heap.size=none:=xl.rd.holds.none_of_ge (Nat.le_refl _);have Sl:w1.heap.size≤w5.heap.size:=xl.size;exact And.intro wY (And.intro mu Sl)):P:=h
theorem jgT{P:Prop}(h:P:=by have uH:=Hh (show gu w10 g<gu wr g by rw[gM vM.rd,P8.out,List.length_drop];have:=Hy.out.1;have:=Hy.out.2.2.1;have:=H0.out;omega);exact uH):P:=h
theorem Pr:(Tryz.prog.info? 81).map (fun i=>(i.zero,i.size,i.bytes))=some (some (.agg #[.int .i64 0,.bool false,.slice none 0 0]),3,40):=by kernel_rfl
theorem UO:(Tryz.prog.info? 4).map (·.size)=some 1:=by kernel_rfl
theorem Ce (a b:Value) (ha:a.oneCell'=true) (hb:b.oneCell'=true):(#[a,b]:Array Value).all (·.oneCell')=true:=by simp[ha,hb]
def ExtsOut (w:World) (H:Snap) (r:Except Nat (List Ext)) (e:Ending) (w':World):Prop :=
 match r with
 | .error q=>e=.returned (.tuple #[.slice none 0 0,.int .i64 (q:Int)])∧Below w.heap.size w w'
 | .ok xs=>∃ VA vc H',e=.returned (.tuple #[.slice VA xs.length vc,.int .i64 0])∧Grows w H w' H'∧IsRow lS H' VA vc xs
theorem ExtsOut.err {w w':World}{H:Snap}{r:Except Nat (List Ext)}{e:Ending}{q:Nat}(hr:r=.error q) (he:e=.returned (.tuple #[.slice none 0 0,.int .i64 (q:Int)])) (hb:Below w.heap.size w w'):ExtsOut w H r e w':=by
 exact jdA
theorem ExtsOut.ok {w w':World}{H H':Snap}{r:Except Nat (List Ext)}{e:Ending}{xs:List Ext}{VA:Option Addr}{vc:Nat}(hr:r=.ok xs) (he:e=.returned (.tuple #[.slice VA xs.length vc,.int .i64 0])) (hG:Grows w H w' H') (hi:IsRow lS H' VA vc xs):ExtsOut w H r e w':=by
 subst hr;exact⟨VA,vc,H',he,hG,hi⟩
theorem Grows.snap {w w':World}{H H' H'':Snap}{A:Option Addr}(h:Grows w H w' H') (hl:H'.le H'') (hh:Holds w' H'') (hf:∀ b o,H'' b=some o→H' b=some o∨A.map (·.block)=some b)
  (hA:∀ q,A.map (·.block)=some q→w.heap.size≤q):Grows w H w' H'' :=
 ⟨h.below,h.le.trans hl,hh,fun b o hb=>by
  rcases hf b o hb with h1 | h1
  ·exact h.fresh b o h1
  exact .inr (hA _ h1)⟩
def gu (w:World) (g:Nat):Nat:=match w.cell? ⟨g,0,none⟩ with | some (.slice _ n _)=>n | _=>0
theorem gM {w:World}{g:Nat}{H:Snap}{A:Option Addr}{c:Nat}{l:List UInt8}{q:Nat}(h:Rdr w g H A c l q):gu w g=l.length:=by
 rw[gu,h.blk.cell 0 rfl];rfl
theorem NH {H:Snap}{y:Ext}{d:List Value}(h:lS.E H y d):lS.E H { y with has:=true } (d.set 1 (.bool true)):=by
 obtain⟨A,c,rfl,hb⟩:=h
 exact⟨A,c,rfl,hb⟩
theorem NI {H:Snap}{y:Ext}{d:List Value}(h:lS.E H y d) {A:Option Addr}{c:Nat}{v:List UInt8}(hv:IsBytes H A c v):lS.E H { y with val:=v } (d.set 2 (.slice A v.length c)):=by
 obtain⟨A',c',rfl,hb⟩:=h
 exact⟨A,c,rfl,hv⟩
theorem Yi {H:Snap}(hTab:Tabs H) (w:World) (hH:Holds w H) {A:Option Addr}{c:Nat}{l:List UInt8}(hl:IsBytes H A c l) :
  Calls Tryz.prog 116 #[.slice A l.length c] w (ExtsOut w H (tx l)):=by
 have kT:=Blk.new w 94 #[.slice none 0 0,.int .i64 0];have wg:H w.heap.size=none:=hH.none_of_ge (Nat.le_refl _);have aZ:=(Grows.refl hH).alloc (.cells #[.slice none 0 0,.int .i64 0] 94);go_enter Tryz.func116,Tryz.ntmps116
 go_wp2_with (with_reducible refine zx ?_)
 refine zm rfl _ _ _ rfl rfl _ _ rfl rfl _ _ kT Nk rfl (Ce _ _ rfl rfl) fun w1 qF hg1=>?_
 have rs:=aZ.grownOwn wg (Nat.le_refl _) hg1;have Mn:Rdr w1 w.heap.size H A c l 0:=⟨qF,hl,rs.holds,wg⟩
 clear kT aZ hg1 qF;obtain⟨g,hg⟩:∃ g,w.heap.size=g:=⟨_,rfl⟩
 rw[hg]at Mn wg⊢;have HG:=Hh hg;have yo:=Mn.gt;have cV:=Est.refl Mn;clear hg;go_wp2_with fail
 go_loopw [5] (fun v5 wr=>∃ (out:List Ext) (Hr:Snap) (A':Option Addr) (c':Nat) (l':List UInt8) (VA:Option Addr) (vc vn:Nat),v5=.slice VA vn vc∧vn=out.length∧Est w1 H wr Hr g A' c' l' 0∧
  OwnX lS 81 wr w1.heap.size (.slice VA vn vc) Hr out∧(∀ q,(Value.slice VA vn vc).ownBlock=some q→Hr q=none)∧out.length≤4∧sq [] l=sq out l') (fun _ wr=>gu wr g)
 case atStart=>exact⟨[],H,A,c,l,none,0,0,rfl,rfl,cV,OwnX.nil _ _ _ _ _,by intro q hq;simp[Value.ownBlock]at hq,by simp,rfl⟩
 case round =>
 clear cV Mn;obtain⟨out,Hr,A',c',l',VA,vc,vn,rfl,rfl,tt,xe,qm,YN,sF⟩:=hrel;have us:=Hh sF;have D7:=Hh YN;have P8:=Hh (gM tt.rd);have a0:=tt.rd.blk.cell 0 rfl;clear sF YN
 by_cases h0:l'.length=0
 ·have zi:¬ ((0:Int)<(l'.length:Int)):=by omega
  have zi':decide ((0:Int)<(l'.length:Int))=false:=decide_eq_false zi;have E:Hid (tx l=.ok out):=by rw[Hid,tS,us.out,Pk h0]
  clear h0;obtain⟨H5,ij,cX,xX,Jf,Sr⟩:=xe.snap tt.rd.holds (fun q hq=>qm q (tA hq));have xv:∀ q,VA.map (·.block)=some q→w.heap.size≤q:=fun q hq=>by have:=(xe.lt q (tA hq)).1;have:=HG.out;omega
  have kU:=(rs.trans_but tt.grows (by have:=HG.out;omega)).snap ij cX xX xv;clear xe qm tt xX;go_wp2_with fail
  go_ret2
  exact ExtsOut.ok E.out rfl kU Sr
 have zi:(0:Int)<(l'.length:Int):=by omega
 have zi':decide ((0:Int)<(l'.length:Int))=true:=decide_eq_true zi;have IT:=Hh (bp (hTab.mono tt.grows.le) tt.rd);have H0:=Hh h0;clear h0;go_wp2_with fail
 refine IT.out.mono ?_
 intro e w5 hs
 unfold EItem at hs
 cases hp:yz l' with
 | err q =>
  rw[hp]at hs;obtain⟨rfl,H5,A5,c5,wT⟩:=hs;have E:Hid (tx l=.error q):=by rw[Hid,tS,us.out,Pl H0.out hp]
  have sz:((q:Int) != 0)=true:=by rw[bne_iff_ne];have:=zN _ _ _ _ hp;omega
  have oD:=jfy;have xl:=tt.trans wT;obtain⟨wY,mu,Sl⟩:=jgP;have vT:=xl.alloc zf;clear IT hp tt wT xe qm us xl a0;go_wp2_with (with_reducible refine zx ?_)
  refine stI wY fun w8 ma hg8=>?_
  have ve:=vT.gb mu Sl yo hg8;have a1:=ve.rd.blk.cell 1 rfl;have kU:=(rs.trans_but (ve.drewN 0).grows (by have:=HG.out;omega)).below;go_upto_region 6 with fail
  go_big_quiet (fail)
  go_wp2_with fail
  go_ret2
  exact ExtsOut.err E.out rfl (rs.trans_but (ve.drewN nq).grows (by have:=HG.out;omega)).below
 | ok x k m =>
 rw[hp]at hs;obtain⟨ja,jb,jc,jd,H5,A5,c5,rfl,wT,eI⟩:=hs;have xl:=tt.trans wT;have wH:=(xe.est wT yo).mono wT.grows.le;have qi:∀ q,(Value.slice VA out.length vc).ownBlock=some q→H5 q=none:=fun q hq=>wT.hid (qm q hq) (xe.lt q hq).2
 obtain⟨wY,mu,Sl⟩:=jgP;have On:=Hh xl.rd.gt;have tu:=Hh (show ∀ q,(Value.slice VA out.length vc).ownBlock=some q→w1.heap.size≤q∧q<w5.heap.size from fun q hq=>wH.lt q hq);have vT:=xl.alloc zf;have xj:=wH.alloc zf;have HP:=Hh hp;have Hy:=Hh (vO hp);have HLB:=Hh (show x.bytes.length≤9223372036854775807 by have:=eI.bytes.le;have:=eI.bytes.max;omega);clear IT hp tt wT xe qm xl wH a0;go_wp2_with (with_reducible refine zx ?_)
 refine stI wY fun w8 ma hg8=>?_
 have ve:=vT.gb mu Sl yo hg8;have sk:=xj.kl hg8 (fun q hv=>by have:=(tu.out q hv).2;omega);obtain⟨X,qS⟩:∃ X,w5.heap.size=X:=⟨_,rfl⟩
 rw[qS]at ma mu Sl On tu⊢;have a1:=ve.rd.blk.cell 1 rfl;have b0:=ma.cell 0 rfl;have b1:=ma.cell 1 rfl;have b2:=ma.cell 2 rfl;have b3:=ma.cell 3 rfl;clear vT xj wY hg8 qS;have j6:Below w.heap.size w w8:=(rs.trans_but ve.grows (by have:=HG.out;omega)).below
 by_cases lf:x.kind=2
 ·have k2:(x.kind==2)=true:=by rw[beq_iff_eq];exact lf
  have k2':(x.kind=2)=True:=eq_true lf;have YS:=Hh lf;clear lf
  rcases List.eq_nil_or_concat out with rfl | ⟨o,y,rfl⟩
  ·have E:Hid (tx l=.error 4):=by rw[Hid,tS,us.out,TS H0.out HP.out YS.out]
   exact jdy
  rw[List.concat_eq_append]at *;obtain⟨nO,Ff⟩:∃ nO,o.length=nO:=⟨_,rfl⟩
  have uu:(o++[y]).length=nO+1:=by rw[List.length_append,Ff];rfl
  have cN:=Hh (And.intro Ff uu);have aq:nO≤3:=by have:=D7.out;omega
  rw[uu]at sk qi tu⊢;obtain⟨gq,cur,dd,rfl,qd,iY,Ox,hEy,LJ,rq⟩:=sk.last;obtain⟨yl,yh,yv⟩:=y;obtain⟨YA,yc,rfl,iq⟩:=hEy;rw[Ff]at LJ Ox rq;have Mp:=tu.out gq rfl;have q1:w8.cell? ⟨gq,nO*3+1,none⟩=some (.bool yh):=LJ 1 _ rfl;have MT:=sk.form;have WZ:(nO:Int)+1≤(vc:Int):=by obtain⟨_,_,e1,e2,_⟩:=MT;injection e1 with _ _ e1;subst e1;omega
  have MB:(nO:Int)≤3:=by omega
  have mY:((nO+1:Nat):Int)=(nO:Int)+1:=by omega
  have KW:IntKind.i64.wrap (nO:Int)=(nO:Int):=IntWalk.i64_in _ (by omega);clear LJ MT uu Ff
  cases yh with
  | true =>
   have E:Hid (tx l=.error 4):=by rw[Hid,tS,us.out,TT H0.out HP.out YS.out rfl]
   exact jdy
  | false =>
  by_cases hbig:600<x.bytes.length
  ·have E:Hid (tx l=.error 8):=by rw[Hid,tS,us.out,TU H0.out HP.out YS.out rfl hbig]
   have zb:(600:Int)<(x.bytes.length:Int):=by omega
   have zb':decide ((600:Int)<(x.bytes.length:Int))=true:=decide_eq_true zb;clear hbig;go_wp2_with fail
   go_ret2
   exact ExtsOut.err (q:=8) E.out rfl j6
  have fM:Hid (sq [] l=sq (o++[⟨yl,true,x.bytes⟩]) (l'.drop k)):=by rw[Hid,us.out,TV H0.out HP.out YS.out rfl hbig]
  have zb:¬ ((600:Int)<(x.bytes.length:Int)):=by omega
  have zb':decide ((600:Int)<(x.bytes.length:Int))=false:=decide_eq_false zb;clear hbig;have CG:=ve.drewN 1;go_upto_region 12 with fail
  refine zr 15 (fun w'=>w'.cell? ⟨X,2,none⟩=some (.slice ja x.bytes.length jb)) (by kernel_rfl) (b2) (fun zy=>?_)
  refine Tk 0 rfl zy ?_
  refine Tk 1 rfl zy ?_
  refine Tk 2 rfl zy ?_
  refine Tk 3 rfl zy ?_
  refine Tk 4 rfl zy ?_
  refine Tk 5 rfl zy ?_
  refine Tk 6 rfl zy ?_
  refine Tk 7 rfl zy ?_
  refine Tk 8 rfl zy ?_
  refine Tk 9 rfl zy ?_
  refine Tk 10 rfl zy ?_
  refine Tk 11 rfl zy ?_
  refine To 12 rfl fun K hK=>?_
  refine zO _ _ _ rfl gq (nO*3+1) (.bool true) rfl rfl _ _ iY.drew UO (by have:lS.k=3:=rfl;rw[this]at Ox;omega) rfl fun w9 iX xt=>?_
  have sv:=rq w9 1 (.bool true) ⟨yl,true,yv⟩ (by decide) iX (NH ⟨YA,yc,rfl,iq⟩);have tq:=CG.grownRow (row:=some gq) (by rintro q ⟨⟩;exact qi gq rfl) (by rintro q ⟨⟩;have:=Mp.1;omega) yo xt;have sm:=ma.drew.grown xt (by intro e;injection e with e;have:=Mp.2;omega);go_simp
  refine Ko hK ?_ fun zy=>?_
  ·exact sm.cell 2 rfl
  clear hK K
  refine Tk 13 rfl zy ?_
  refine Tk 14 rfl zy ?_
  refine To 15 rfl fun K hK=>?_
  obtain⟨gq2,cur2,dd2,CJ,Bb,Bs,Ca,Bu,zAc,G1⟩:=sv.last;obtain rfl:gq=gq2:=by injection CJ with h;injection h
  refine zO _ _ _ rfl gq (nO*3+2) (.slice ja x.bytes.length jb) rfl rfl _ _ Bs yY (by have:lS.k=3:=rfl;rw[this,cN.out.1]at Ca;omega) rfl fun w10 aM yn=>?_
  have wO:=G1 w10 2 _ ⟨yl,true,x.bytes⟩ (by decide) (by rw[cN.out.1];exact aM) (NI Bu eI.bytes);have vM:=tq.grownRow (row:=some gq) (by rintro q ⟨⟩;exact qi gq rfl) (by rintro q ⟨⟩;have:=Mp.1;omega) yo yn;go_simp
  refine Kz hK ?_
  clear hK K
  refine Wd ?_
  have uH:=jgT;have eA:(o++[(⟨yl,true,x.bytes⟩:Ext)]).length=nO+1:=by rw[List.length_append,cN.out.1];rfl
  go_wp2_with fail
  go_roundw
  case rel=>exact⟨_,H5,_,_,_,_,_,_,rfl,eA.symm,vM,wO,qi,by have:=D7.out;have:=cN.out.2;rw[eA];omega,fM.out⟩
  case measure=>exact uH.out
 have k2:(x.kind==2)=false:=by rw[beq_eq_false_iff_ne];exact lf
 have k2':(x.kind=2)=False:=eq_false lf;have NM:=Hh (ZV x.kind x.n ja x.bytes.length jb jc x.items.length jd w8);rw[← Qt]at NM;go_wp2_with fail
 refine NM.out.mono ?_
 rintro e w9 ⟨rfl,oV⟩
 have sv:=sk.below oV;have tq:=ve.below_ oV;have sm:=ma.below oV;have MR:Below w.heap.size w w9:=(rs.trans_but tq.grows (by have:=HG.out;omega)).below
 cases hv:mp x 65535 with
 | none =>
  have E:Hid (tx l=.error 4):=by rw[Hid,tS,us.out,TP H0.out HP.out lf hv]
  rw[Rp];go_wp2_with fail
  go_ret2
  exact ExtsOut.err (q:=4) E.out rfl MR
 | some v =>
 rw[Rp]
 by_cases YN:out.length=4
 ·have E:Hid (tx l=.error 8):=by rw[Hid,tS,us.out,TQ H0.out HP.out lf hv YN]
  have zb:((out.length:Int)==4)=true:=by rw[beq_iff_eq];omega
  have zb':((out.length:Int)=4)=True:=eq_true (by omega);clear YN;go_wp2_with fail
  go_ret2
  exact ExtsOut.err (q:=8) E.out rfl MR
 have zb:((out.length:Int)==4)=false:=by rw[beq_eq_false_iff_ne];omega
 have zb':((out.length:Int)=4)=False:=eq_false (by omega);have fM:Hid (sq [] l=sq (out++[⟨v,false,[]⟩]) (l'.drop k)):=by rw[Hid,us.out,TR H0.out HP.out lf hv YN]
 have HO3:=Hh (show out.length≤3 by have:=D7.out;omega);clear YN lf hv;have b0:=sm.cell 0 rfl;have C1:=sv.alloc (.cells #[.int .i64 v,.bool false,.slice none 0 0] 81);have Gk:=tq.alloc (.cells #[.int .i64 v,.bool false,.slice none 0 0] 81);have C6:=sm.alloc (.cells #[.int .i64 v,.bool false,.slice none 0 0] 81);have Gy:∀ q,(Value.slice VA out.length vc).ownBlock=some q→H5 q=none:=qi;go_wp2_with (at_builtin;refine zh ?_)
 refine OwnX.append rfl (.tmp 64) (.tmp 67) 39 rfl Tryz.underlying39 rfl (by omega) Pr rfl C1 _ 1 _ [.int .i64 v,.bool false,.slice none 0 0] [⟨v,false,[]⟩] rfl rfl (RowC.one ⟨none,0,rfl,IsBytes.nil _⟩) (Src.new _ _ _ _ rfl _ rfl) (by have:=HO3.out;simp;omega) (by have h1:=C6.lt;have h2:=Sl;omega) fun v' w10 wO yn hat10=>?_
 obtain⟨VA',vc',rfl,_⟩:=wO.form;have rZ:=wJ Gk.rd.holds Gy hat10;have vM:=Gk.grownRow Gy (fun q hq=>by have:=(tu.out q hq).1;omega) yo yn;have uH:=jgT;have eA:(out++[(⟨v,false,[]⟩:Ext)]).length=out.length+1:=by rw[List.length_append];rfl
 obtain⟨out',MV⟩:∃ o',out++[(⟨v,false,[]⟩:Ext)]=o':=⟨_,rfl⟩
 rw[MV]at wO rZ fM eA⊢;have Ui:=Hh eA;clear eA MV;go_wp2_with fail
 go_roundw
 case rel=>exact⟨out',H5,_,_,_,VA',vc',_,rfl,rfl,vM,wO,rZ,by have:=HO3.out;rw[Ui.out];omega,fM.out⟩
 case measure=>exact uH.out
theorem rD:(Tryz.prog.info? 81).map (·.size)=some 3:=by kernel_rfl
theorem TW {H:Snap}(w:World) (hH:Holds w H) {A:Option Addr}{c:Nat}{l:List Ext}(hr:IsRow lS H A c l) :
  Calls Tryz.prog 100 #[.slice A l.length c] w fun e w'=>e=.returned (.bool (xa l))∧Below w.heap.size w w':=by
 by_cases h4:4<l.length
 ·have z:(4:Int)<(l.length:Int):=by omega
  have E:Hid (xa l=false):=by
   rw[Hid]
   cases hg:xa l with
   | false=>rfl
   | true=>have:=((tI l).1 hg).1;omega
  clear h4;go_enter Tryz.func100,Tryz.ntmps100
  go_wp2_with fail
  go_ret
  exact⟨by rw[E.out];try rfl,Below.refl _ _⟩
 have z:¬ ((4:Int)<(l.length:Int)):=by omega
 have zd:decide ((4:Int)<(l.length:Int))=false:=decide_eq_false z;have H4:=Hh (Nat.not_lt.1 h4);have HR:=Hh hr;have HH:=Hh hH;have B6:(l.length:Int)≤4:=by omega
 clear h4 hr hH;go_enter Tryz.func100,Tryz.ntmps100
 go_wp2_with fail
 go_loopw [10] (fun v10 wr=>∃ k:Nat,k≤l.length∧v10=.int .i64 (k:Int)∧Below w.heap.size w wr∧∀ j (hj:j<k),qb (l.getD j ⟨0,true,[]⟩)=true) (fun v10 _=>l.length-(intOf v10).toNat)
 case atStart=>exact⟨0,Nat.zero_le _,rfl,Below.refl _ _,fun j hj=>absurd hj (by omega)⟩
 case round =>
 obtain⟨k,hk,rfl,xW,mj⟩:=hrel;have Ug:=Hh mj;have D0:=Hh hk;clear mj hk
 by_cases uh:k<l.length
 ·have SK:(k:Int)<(l.length:Int):=by omega
  obtain⟨b,off,rfl,lZ⟩:=HR.out.at_ (by omega);obtain⟨d,hd,hc⟩:=lZ k uh;obtain⟨YA,yc,rfl,iq⟩:=hd;have pZ:=HH.out.below xW (Nat.le_refl _);have Si:l[k]=l.getD k ⟨0,true,[]⟩:=by rw[List.getD_eq_getElem?_getD,List.getElem?_eq_getElem uh];rfl
  obtain⟨x,hx⟩:∃ x,l[k]=x:=⟨_,rfl⟩
  have P6:Hid (l.getD k ⟨0,true,[]⟩=x):=by rw[Hid,← Si];exact hx
  have lU:Hid (∀ h:k<l.length,l[k]=x):=fun _=>hx
  rw[hx]at hc iq;obtain⟨yl,yh,yv⟩:=x;obtain⟨q0,q1,q2⟩:=jf9;obtain⟨vl,Ei⟩:∃ vl,yv.length=vl:=⟨_,rfl⟩
  rw[Ei]at q2;have xO:=Blk.new wr 81 #[.int .i64 0,.bool false,.slice none 0 0];have HK:=Hh uh;have WZ:(l.length:Int)≤(c:Int):=by have:=HR.out.le;omega
  have Gq:(k:Int)+1≤9223372036854775807:=by have:=H4.out;omega
  have Ln:=Hh Ei;clear uh lZ hc pZ Si hx iq Ei;have KF:∀ (b':Bool),qb ⟨yl,yh,yv⟩=b'→b'=false→xa l=false:=fun b' h1 h2=>Yl HK.out (by rw[lU.out HK.out,h1,h2])
  have KFH:=Hh KF;clear KF
  by_cases c1:yl < -65535
  ·have c1':decide (yl < -65535)=true:=decide_eq_true c1
   exact jeo
  have c1':decide (yl < -65535)=false:=decide_eq_false c1
  by_cases c2:65535<yl
  ·have c2':decide (65535<yl)=true:=decide_eq_true c2
   exact jeo
  have c2':decide (65535<yl)=false:=decide_eq_false c2
  by_cases c3:600<vl
  ·have c3':(600:Int)<(vl:Int):=by omega
   have c3d:decide ((600:Int)<(vl:Int))=true:=decide_eq_true c3'
   have BAD:Hid (xa l=false):=KFH.out _ rfl (by
    cases hh:qb ⟨yl,yh,yv⟩ with
    | false=>rfl
    | true=>have:=(tK _).1 hh;simp only at this;have:=Ln.out;omega)
   clear c3;exact jav
  have c3':¬ ((600:Int)<(vl:Int)):=by omega
  have c3d:decide ((600:Int)<(vl:Int))=false:=decide_eq_false c3'
  cases yh with
  | true =>
   have OK:Hid (qb ⟨yl,true,yv⟩=true):=by rw[Hid,tK];simp only;exact⟨by omega,by omega,by have:=Ln.out;omega,by simp⟩
   clear c3;exact jaP
  | false =>
  by_cases c4:0<vl
  ·have c4':(0:Int)<(vl:Int):=by omega
   have c4d:decide (0<vl)=true:=decide_eq_true c4;clear c4'
   have BAD:Hid (xa l=false):=KFH.out _ rfl (by
    cases hh:qb ⟨yl,false,yv⟩ with
    | false=>rfl
    | true=>have:=(tK _).1 hh;simp only[Bool.false_eq_true,false_or]at this;have:=Ln.out;omega)
   clear c3 c4;exact jav
  have c4':¬ ((0:Int)<(vl:Int)):=by omega
  have c4d:decide (0<vl)=false:=decide_eq_false c4;clear c4';have OK:Hid (qb ⟨yl,false,yv⟩=true):=by rw[Hid,tK];simp only;exact⟨by omega,by omega,by have:=Ln.out;omega,.inr (by have:=Ln.out;omega)⟩
  clear c3 c4;exact jaP
 have VP:¬ ((k:Int)<(l.length:Int)):=by omega
 have Gr:decide ((k:Int)<(l.length:Int))=false:=decide_eq_false VP
 have E:Hid (xa l=true):=Yk H4.out fun j hj=>by
  have:=Ug.out j (by omega);rwa [List.getD_eq_getElem?_getD,List.getElem?_eq_getElem hj]at this
 clear uh;go_wp2_with fail
 go_ret
 exact⟨by rw[E.out];try rfl,xW⟩
def BytesOut (w:World) (r:Except Nat (List UInt8)) (e:Ending) (w':World):Prop :=
 match r with
 | .error q=>e=.returned (.tuple #[.slice none 0 0,.int .i64 (q:Int)])∧Below w.heap.size w w'
 | .ok l=>∃ v,e=.returned (.tuple #[v,.int .i64 0])∧Fresh w l v w'
theorem BytesOut.err {w w':World}{r:Except Nat (List UInt8)}{e:Ending}{q:Nat}(hr:r=.error q) (he:e=.returned (.tuple #[.slice none 0 0,.int .i64 (q:Int)])) (hb:Below w.heap.size w w'):BytesOut w r e w':=by
 exact jdA
theorem BytesOut.ok {w w':World}{r:Except Nat (List UInt8)}{e:Ending}{l:List UInt8}{v:Value}(hr:r=.ok l) (he:e=.returned (.tuple #[v,.int .i64 0])) (hf:Fresh w l v w'):BytesOut w r e w':=by
 subst hr;exact⟨v,he,hf⟩
theorem Yj {H:Snap}(w:World) (hH:Holds w H) {A:Option Addr}{c:Nat}{l:List Ext}(hr:IsRow lS H A c l) :
  Calls Tryz.prog 58 #[.slice A l.length c] w (BytesOut w (kI l)):=by
 have GE:=Hh (TW w hH hr)
 by_cases hg:xa l=true
 case neg =>
  have zL:xa l=false:=by simpa using hg
  rw[zL]at GE;have E:Hid (kI l=.error 1):=by rw[Hid,kI,if_neg hg]
  clear hg zL;go_enter Tryz.func58,Tryz.ntmps58
  go_wp2_with fail
  refine GE.out.mono ?_
  rintro e w1 ⟨rfl,zY⟩
  go_wp2_with fail
  go_ret2
  exact BytesOut.err E.out rfl zY
 have HG:=Hh ((tI l).1 hg);have HB:=Hh (show ∀ x∈l, -65535≤x.label∧x.label≤65535∧x.val.length≤600 from fun x hx=>by have:=(tK x).1 (((tI l).1 hg).2 x hx);exact⟨this.1,this.2.1,this.2.2.1⟩);have E:Hid (kI l=.ok (vh l)):=by rw[Hid,kI,if_pos hg]
 rw[hg]at GE;have qk:=Hh (show l.length≤100 by have:=HG.out.1;omega);have HR:=Hh hr;have HH:=Hh hH;clear hg hr hH;go_enter Tryz.func58,Tryz.ntmps58
 go_wp2_with fail
 refine GE.out.mono ?_
 rintro e w1 ⟨rfl,zY⟩
 go_wp2_with fail
 go_loopw [4,12] (fun vo vk wr=>∃ (k:Nat) (VA:Option Addr) (vc vn:Nat),k≤l.length∧vk=.int .i64 (k:Int)∧vo=.slice VA vn vc∧vn=(vh (l.take k)).length∧OwnB wr w.heap.size (.slice VA vn vc) (vh (l.take k))∧Below w.heap.size w wr) (fun _ vk _=>l.length-(intOf vk).toNat)
 case atStart=>exact⟨0,none,0,0,Nat.zero_le _,rfl,rfl,rfl,OwnB.nil _ _,zY⟩
 case round =>
 clear zY;obtain⟨k,VA,vc,vn,hk,rfl,rfl,rfl,xe,xW⟩:=hrel;have D0:=Hh hk;clear hk
 by_cases uh:k<l.length
 ·have SK:(k:Int)<(l.length:Int):=by omega
  obtain⟨b,off,rfl,lZ⟩:=HR.out.at_ (by omega);obtain⟨d,hd,hc⟩:=lZ k uh;obtain⟨YA,yc,rfl,iq⟩:=hd;have pZ:=HH.out.below xW (Nat.le_refl _);have JA:=Hh (HB.out l[k] (List.getElem_mem uh));have fB:=Hh (Wt l k uh);have AV:=gJ (l.take k) (fun y hy=>by have:=(HB.out y (List.mem_of_mem_take hy)).2.2;omega);rw[List.length_take]at AV;have eD:Hid ((vh (l.take k)).length≤109960000):=by have:=qk.out;rw[Hid];omega
  obtain⟨x,hx⟩:∃ x,l[k]=x:=⟨_,rfl⟩
  rw[hx]at hc iq JA fB;obtain⟨yl,yh,yv⟩:=x
  simp only at JA
  obtain⟨S,hS⟩:∃ S,vh (l.take k)=S:=⟨_,rfl⟩
  rw[hS]at xe eD fB⊢;obtain⟨q0,q1,q2⟩:=jf9;have xO:=Blk.new wr 81 #[.int .i64 0,.bool false,.slice none 0 0];have zJ:=xe.alloc (.cells #[.int .i64 0,.bool false,.slice none 0 0] 81);have HK:=Hh uh;have IC:=Hh iq;have WZ:(l.length:Int)≤(c:Int):=by have:=HR.out.le;omega
  have Gq:(k:Int)+1≤9223372036854775807:=by have:=qk.out;omega
  have tu:=Hh (show ∀ q,(Value.slice VA S.length vc).ownBlock=some q→q<wr.heap.size from fun q hq=>(xe.lt q hq).2);clear uh lZ hc pZ hx iq xe hS AV;go_wp2_with (with_reducible refine zx ?_)
  refine zm rfl _ _ _ rfl rfl _ _ rfl rfl _ _ xO rD rfl (aR _ _ _ rfl rfl rfl) fun w3 yE sp=>?_
  have yR:=zp (xW.alloc xW.size (.cells #[.int .i64 0,.bool false,.slice none 0 0] 81)) sp (by rintro q ⟨⟩;exact xW.size)
  have tR:=zJ.kept sp (by
   cases hv:(Value.slice VA S.length vc).ownBlock with
   | none=>exact .inl rfl
   | some q=>exact .inr (fun e=>by injection e with e;have:=tu.out q hv;omega))
  have IV:=HH.out.below yR (Nat.le_refl _);have b0:=yE.cell 0 rfl;have b1:=yE.cell 1 rfl;have b2:=yE.cell 2 rfl;clear xO sp q0 q1 q2 zJ xW;have WI:=Hh (fun w=>lB yl (by have:=JA.out.1;omega) (by have:=JA.out.2.1;omega) w);go_wp2_with fail
  refine(WI.out _).mono ?_
  rintro e w4 ⟨r4,rfl,rf⟩
  have uj:=tR.below rf.2;have xE:=yR.trans (rf.2.mono yR.size);have wo:=yE.below rf.2;obtain⟨RA,rc,rfl,_,_,mI⟩:=rf.own.form;clear rf tR yE b0 b1 b2 yR IV;have b0:=wo.cell 0 rfl;have b1:=wo.cell 1 rfl;have b2:=wo.cell 2 rfl;go_wp2_with (at_builtin;refine zh ?_)
  refine zv rfl (.tmp 16) (.tmp 19) rfl w.heap.size _ _ rfl uj _ _ _ (va yl) rfl rfl mI (by have:=eD.out;have:=(nR yl).2;omega) xE.size fun v' w5 zW zK hat5=>?_
  have zE:=xE.grown zK xE.size (fun q hq=>(uj.lt q hq).1);obtain⟨VA2,vc2,rfl,_⟩:=zW.form;have Oc:=HH.out.below zE (Nat.le_refl _);have xG:=wo.grown zK (fun e=>by have:=tu.out _ e;have:=wo.lt;first | omega | (rw[e]at *;omega));clear uj zK hat5 mI wo b0 b1 b2 xE;have b0:=xG.cell 0 rfl;have b1:=xG.cell 1 rfl;have b2:=xG.cell 2 rfl;obtain⟨S2,Rz⟩:∃ S2,S++va yl=S2:=⟨_,rfl⟩
  rw[Rz]at zW⊢;have Lh:=Hh Rz;have iy:Hid (S2.length≤109960009):=by have:=eD.out;have:=(nR yl).2;rw[Hid,← Rz,List.length_append];omega
  clear Rz
  cases yh with
  | false =>
   have Sg:Hid (vh (l.take (k+1))=S2):=by rw[Hid,fB.out,Ul,← Lh.out];simp
   go_wp2_with fail
   go_roundw
   case rel=>exact⟨k+1,VA2,vc2,_,HK.out,by go_num,rfl,by rw[Sg.out],by rw[Sg.out];exact zW,zE⟩
   case measure=>have:=HK.out;simp[intOf];omega
  | true =>
  have ST:=Hh (vB (c:=yc) (l:=yv) (A:=YA) rfl (by have:=JA.out.2.2;omega) w5 (Src.of_row IC.out.row Oc));go_wp2_with fail
  refine ST.out.mono ?_
  rintro e w6 ⟨r6,rfl,vF⟩
  have wH:=zW.below vF.2;have wS:=zE.trans (vF.2.mono zE.size);obtain⟨RA6,rc6,rfl,_,_,MW⟩:=vF.own.form;clear vF zW zE Oc;go_wp2_with (at_builtin;refine zh ?_)
  refine zv rfl (.tmp 23) (.tmp 26) rfl w.heap.size _ _ rfl wH _ _ _ (yL yv) rfl rfl MW (by have:=iy.out;have:=lI yv;have:=JA.out.2.2;omega) wS.size fun v' w7 xj xQ hat7=>?_
  have uI:=wS.grown xQ wS.size (fun q hq=>(wH.lt q hq).1);obtain⟨VA3,vc3,rfl,_⟩:=xj.form;have Sg:Hid (vh (l.take (k+1))=S2++yL yv):=by rw[Hid,fB.out,Ul,← Lh.out];simp
  obtain⟨S3,JS⟩:∃ S3,S2++yL yv=S3:=⟨_,rfl⟩
  rw[JS]at xj Sg⊢;clear wH xQ hat7 MW wS JS;go_wp2_with fail
  go_roundw
  case rel=>exact⟨k+1,VA3,vc3,_,HK.out,by go_num,rfl,by rw[Sg.out],by rw[Sg.out];exact xj,uI⟩
  case measure=>have:=HK.out;simp[intOf];omega
 have VP:¬ ((k:Int)<(l.length:Int)):=by omega
 have Gr:decide ((k:Int)<(l.length:Int))=false:=decide_eq_false VP;have kX:k=l.length:=by have:=D0.out;omega
 have HT:Hid (vh (l.take k)=vh l):=by rw[Hid,kX,List.take_length]
 rw[HT.out]at xe⊢;clear uh kX;go_wp2_with fail
 go_ret2
 exact BytesOut.ok E.out rfl ⟨xe,xW⟩
theorem bk {H:Snap}{A:Option Addr}{c:Nat}{l:List Int}(h:IsRow cJ H A c l) (h0:0<l.length):∃ b off,A=some ⟨b,off,none⟩∧∀ j,j<l.length→H.cell? ⟨b,off+j,none⟩=some (.int .i64 (l.getD j 0)):=by
 obtain⟨b,off,e,hc⟩:=h.at_ h0
 refine⟨b,off,e,fun j hj=>?_⟩
 obtain⟨d,hd,hv⟩:=hc j hj;have mM:d=[.int .i64 l[j]]:=hd;subst mM;have:=hv 0 _ rfl;rw[show j*cJ.k+0=j from by show j*1+0=j;omega]at this;rw[this,nQ hj]
theorem bD {H:Snap}(w:World) (hH:Holds w H) {A:Option Addr}{n c:Nat}{l:List Int}(hn:n=l.length) (hr:IsRow cJ H A c l) :
  Calls Tryz.prog 79 #[.slice A n c] w fun e w'=>e=.returned (.bool (xf l))∧w'=w:=by
 by_cases h0:n=0
 ·subst h0;have E:Hid (xf l=false):=by rw[Hid];exact ta (by omega)
  clear hn;go_enter Tryz.func79,Tryz.ntmps79
  exact ja6
 have z1:¬ ((n:Int)<1):=by omega
 have z1d:decide ((n:Int)<1)=false:=decide_eq_false z1
 by_cases h8:8<n
 ·have z8:(8:Int)<(n:Int):=by omega
  have z8d:decide ((8:Int)<(n:Int))=true:=decide_eq_true z8;have E:Hid (xf l=false):=by rw[Hid];exact ta (by omega)
  clear hn h8 h0;go_enter Tryz.func79,Tryz.ntmps79
  exact ja6
 have z8:¬ ((8:Int)<(n:Int)):=by omega
 have z8d:decide ((8:Int)<(n:Int))=false:=decide_eq_false z8;obtain⟨b,off,rfl,lZ⟩:=bk hr (by omega);have J8:=Hh (show ∀ j,j<n→w.cell? ⟨b,off+j,none⟩=some (.int .i64 (l.getD j 0)) from fun j hj=>hH.cell (lZ j (by omega)));have HN:=Hh (show n=l.length∧n≠0∧n≤8∧n≤c from⟨hn,h0,by omega,by have:=hr.le;omega⟩);have eJ:(n:Int)≤8:=by omega
 have Gx:(n:Int)≤(c:Int):=by have:=HN.out.2.2.2;omega
 clear lZ hn hr h0 h8 z8;go_enter Tryz.func79,Tryz.ntmps79
 go_wp2_with fail
 go_loopw [17] (fun v17 wr=>wr=w∧∃ i:Nat,i≤n∧v17=.int .i64 (i:Int)∧(∀ j,j<i→0≤l.getD j 0∧l.getD j 0≤65535)∧(∀ i' j,j<i'→i'<i→l.getD j 0≠l.getD i' 0)) (fun v17 _=>n-(intOf v17).toNat)
 case atStart=>exact⟨rfl,0,Nat.zero_le _,rfl,fun j hj=>absurd hj (by omega),fun i j _ hi=>absurd hi (by omega)⟩
 case round =>
 obtain⟨rfl,i,hi,rfl,Hd,xp⟩:=hrel;have GI:=Hh Hd;have V9:=Hh xp;have HI:=Hh hi;clear Hd xp hi
 by_cases iL:i<n
 ·have fF:(i:Int)<(n:Int):=by omega
  have q0:=J8.out i iL;obtain⟨v,hv⟩:∃ v,l.getD i 0=v:=⟨_,rfl⟩
  rw[hv]at q0;have HV:=Hh hv;have aV:=Hh iL;have Gn:(i:Int)+1≤9223372036854775807:=by omega
  have og:(0:Int)≤(i:Int):=by omega
  have hic:(i:Int)≤(c:Int):=by omega
  clear hv iL
  by_cases c1:v<0
  ·have c1d:decide (v<0)=true:=decide_eq_true c1;have E:Hid (xf l=false):=by rw[Hid];exact ta (by intro h;have:=(h.2.2.1 i (by have:=HN.out;have:=aV.out;omega)).1;rw[HV.out]at this;omega)
   exact ja6
  have c1d:decide (v<0)=false:=decide_eq_false c1
  by_cases c2:65535<v
  ·have c2d:decide (65535<v)=true:=decide_eq_true c2;have E:Hid (xf l=false):=by rw[Hid];exact ta (by intro h;have:=(h.2.2.1 i (by have:=HN.out;have:=aV.out;omega)).2;rw[HV.out]at this;omega)
   exact ja6
  have c2d:decide (65535<v)=false:=decide_eq_false c2;have HC:=Hh (And.intro c1 c2);clear c1 c2;go_wp2_with fail
  go_loopw [32] (fun v32 wx=>wx=wr∧∃ j:Nat,j≤i∧v32=.int .i64 (j:Int)∧(∀ j',j'<j→l.getD j' 0≠v)) (fun v32 _=>i-(intOf v32).toNat)
  case atStart=>exact⟨rfl,0,Nat.zero_le _,rfl,fun j hj=>absurd hj (by omega)⟩
  case round =>
  obtain⟨rfl,j,hj,rfl,Rj⟩:=hrel;have RI:=Hh Rj;have HJ:=Hh hj;clear Rj hj
  by_cases qe:j<i
  ·have Io:(j:Int)<(i:Int):=by omega
   have p0:=J8.out j (by have:=aV.out;omega);obtain⟨u,hu⟩:∃ u,l.getD j 0=u:=⟨_,rfl⟩
   rw[hu]at p0;have HU:=Hh hu;have Cw:=Hh qe;have CP:(j:Int)+1≤9223372036854775807:=by omega
   clear hu qe
   by_cases huv:u=v
   ·have d1:(u==v)=true:=by rw[beq_iff_eq];exact huv
    have d2:(u=v)=True:=eq_true huv
    have E:Hid (xf l=false):=by
     rw[Hid]
     refine ta (fun h=>?_)
     have h1:=dv (l:=l) (i:=i) (j:=j) Cw.out (by have:=HN.out;have:=aV.out;omega) (by rw[HU.out,HV.out];exact huv);rw[h1]at h;cases h.2.2.2
    clear huv;exact ja6
   have d1:(u==v)=false:=by rw[beq_eq_false_iff_ne];exact huv
   have d2:(u=v)=False:=eq_false huv;have JG:=Hh huv;clear huv;go_wp2_with fail
   go_roundw
   case rel=>exact⟨by trivial,j+1,Cw.out,by go_num,fun j' hj'=>by
    rcases Nat.lt_succ_iff_lt_or_eq.1 hj' with h | h
    ·exact RI.out j' h
    subst h;rw[HU.out];exact JG.out⟩
   case measure=>have:=Cw.out;simp[intOf];omega
  have Io:¬ ((j:Int)<(i:Int)):=by omega
  have hjd:decide ((j:Int)<(i:Int))=false:=decide_eq_false Io;have Ip:j=i:=by have:=HJ.out;omega
  have Cv:=Hh Ip;clear qe Ip;go_wp2_with fail
  go_roundw
  case rel=>exact⟨by trivial,i+1,aV.out,by go_num,fun j' hj'=>by
    rcases Nat.lt_succ_iff_lt_or_eq.1 hj' with h | h
    ·exact GI.out j' h
    ·subst h;rw[HV.out];have:=HC.out;omega,fun i' j' h1 h2=>by
    rcases Nat.lt_succ_iff_lt_or_eq.1 h2 with h | h
    ·exact V9.out i' j' h1 h
    subst h;rw[HV.out];exact RI.out j' (by rw[Cv.out];exact h1)⟩
  case measure=>have:=aV.out;simp[intOf];omega
 have fF:¬ ((i:Int)<(n:Int)):=by omega
 have hid:decide ((i:Int)<(n:Int))=false:=decide_eq_false fF
 have E:Hid (xf l=true):=by
  have h1:=HN.out;have h2:=HI.out;rw[Hid,qt]
  exact⟨by omega,by omega,fun j hj=>GI.out j (by omega),aC fun i' j' ha hb=>V9.out i' j' ha (by omega)⟩
 clear iL;exact ja6
theorem TX {w w1:World}{A:Option Addr}{n c:Nat}{l:List UInt8}(hn:n=l.length) (hf:Fresh w l (.slice A n c) w1) :
  Calls Tryz.prog 60 #[.slice A n c] w1 (BytesOut w (pF l)):=by
 by_cases h:600<n
 ·have z:(600:Int)<(n:Int):=by omega
  have zd:decide ((600:Int)<(n:Int))=true:=decide_eq_true z;have E:Hid (pF l=.error 1):=by rw[Hid,pF,if_pos (by omega)]
  clear h hn;go_enter Tryz.func60,Tryz.ntmps60
  go_wp2_with fail
  go_ret2
  exact BytesOut.err E.out rfl hf.2
 have z:¬ ((600:Int)<(n:Int)):=by omega
 have zd:decide ((600:Int)<(n:Int))=false:=decide_eq_false z;have E:Hid (pF l=.ok l):=by rw[Hid,pF,if_neg (by omega)]
 clear h hn;go_enter Tryz.func60,Tryz.ntmps60
 go_wp2_with fail
 go_ret2
 exact BytesOut.ok E.out rfl hf
end Go.Proofs.YtkmlnjociijpgaaGreatDoor
