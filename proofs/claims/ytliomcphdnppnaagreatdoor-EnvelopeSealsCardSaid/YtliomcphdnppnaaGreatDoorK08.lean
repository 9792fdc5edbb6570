/- squeezed. Walks: the references' left: texts -/
import Derived.Test.YtliomcphdnppnaaGreatDoorK07
import Derived.ChangeSlices
import Derived.OpenShut
import Derived.Shelf.Unicode.ValidAny
set_option linter.unusedVariables false
set_option linter.unusedSimpArgs false
set_option maxRecDepth 100000
set_option maxHeartbeats 6400000
namespace Go.Proofs.YtliomcphdnppnaaGreatDoor
open Go.RowKit
theorem U8 (x:Itm) (hk:x.kind=3) {H:Snap}(hT:Tabs H) (ih:∀ y:Itm,cnt y<cnt x→va y) {ba:Option Addr}{bc:Nat}{ia:Option Addr}{ic:Nat}(hx:IsItem H ba bc ia ic x) (w:World) (hH:Holds w H) (c d:Nat) (tM:0<c) (hc:c≤65536) (hd:d≤65536) :
  Calls Tryz.prog 111 #[xq x ba bc ia ic,.int .i64 c,.int .i64 d] w fun e w'=>e=.returned (.int .i64 (uW (yX x c d)))∧Below w.heap.size w w':=by
 have HX:=Hh hx;have vG:=hx.bounds;have hB:=Blk.new w 26 #[.int .i64 x.kind,.int .u64 x.n,.slice ba x.bytes.length bc,.slice ia x.items.length ic];have xz:=zq w (zi x ba bc ia ic);have rK:((c-1:Nat):Int)=(c:Int)-1:=by omega
 have uD:x.bytes.length≤9223372036854775807:=by omega
 have fg:x.items.length≤9223372036854775807:=by omega
 have HN:=Hh vG.2.2.1;have fq:¬ (c:Int)<1:=by omega
 have k0:¬ x.kind<0:=by omega
 have k8:¬ 8<x.kind:=by omega
 have HK:=Hh hk;have ij:=Hh rK;have V:=Hh (kT hT (w.alloc (zi x ba bc ia ic)) (hH.alloc _) ba x.bytes _ bc rfl hx.bytes);clear hx vG rK;obtain⟨b0,b1,b2,b3,b4,b5,b6,b7,b8⟩:=Xm hk;clear hk
 by_cases yP:x.n=0
 all_goals first | (have bn00:((x.n:Int) != 0)=false:=by simp[yP]) | (have bn00:((x.n:Int) != 0)=true:=by simp[yP])
 all_goals first | (have bn01:(x.n=0)=True:=by first | exact eq_true yP | exact eq_false yP) | (have bn01:(x.n=0)=False:=by first | exact eq_true yP | exact eq_false yP)
 all_goals have qH:=Hh yP
 all_goals clear yP
 all_goals by_cases ue:Lib.validD x.bytes=true
 all_goals first | (have bval0:Lib.validD x.bytes=true:=by simpa using ue) | (have bval0:Lib.validD x.bytes=false:=by simpa using ue)
 all_goals have Nf:=Hh ue
 all_goals clear ue
 all_goals
  go_enter Tryz.func111,Tryz.ntmps111
  rw[bval0]at V;go_upto_region 22 with (go_at_call 140;refine V.out.mono ?_;rintro e wv ⟨rfl,I8⟩;have hB:=hB.below I8;have xz:=xz.trans (I8.mono xz.size);have e0:=hB.cell 0 rfl;have e1:=hB.cell 1 rfl;have e2:=hB.cell 2 rfl;have e3:=hB.cell 3 rfl)
  any_goals
   (have ss:yq x d (c-1)=false:=by
     cases hq:yq x d (c-1) with
     | false=>rfl
     | true=>exact absurd ((ai HK.out).1 hq) (by have yP:=qH.out;have ue:=Nf.out;rintro⟨p1,p2,p3,p4⟩;first | omega | (rw[bval0]at p4;cases p4))
    go_ret
    exact⟨by rw[wk ss];rfl,xz⟩)
  all_goals
   have xM:yq x d (c-1)=true:=(ai HK.out).2 ⟨qH.out,by omega,by omega,bval0⟩;have uF:x.items.length=0:=by have yP:=qH.out;have ue:=Nf.out;omega
   have hk:=HK.out;have E:Hid (yX x c d=some (c-1)):=vA tM xM uF;have Tb:¬ (0:Int)<x.items.length:=by omega
   have pA:¬ (2:Int)<x.items.length:=by omega
   have HI:=Hh uF;have HC:=Hh xM;clear uF hk xM;have c0:=hB.cell 0 rfl;have c3:=hB.cell 3 rfl;go_wp2_with fail
   refine wp_loop_rounds 1 ?_
   rw[rounds_succ];go_wp2_with fail
   refine wp_loop_rounds 1 ?_
   rw[rounds_succ];go_wp2_with fail
   go_ret
   exact⟨by rw[E.out,← ij.out];rfl,xz⟩
theorem UE (x:Itm) (hk:x.kind=8) {H:Snap}(hT:Tabs H) (ih:∀ y:Itm,cnt y<cnt x→va y) {ba:Option Addr}{bc:Nat}{ia:Option Addr}{ic:Nat}(hx:IsItem H ba bc ia ic x) (w:World) (hH:Holds w H) (c d:Nat) (tM:0<c) (hc:c≤65536) (hd:d≤65536) :
  Calls Tryz.prog 111 #[xq x ba bc ia ic,.int .i64 c,.int .i64 d] w fun e w'=>e=.returned (.int .i64 (uW (yX x c d)))∧Below w.heap.size w w':=by
 have HX:=Hh hx;have vG:=hx.bounds;have hB:=Blk.new w 26 #[.int .i64 x.kind,.int .u64 x.n,.slice ba x.bytes.length bc,.slice ia x.items.length ic];have xz:=zq w (zi x ba bc ia ic);have rK:((c-1:Nat):Int)=(c:Int)-1:=by omega
 have uD:x.bytes.length≤9223372036854775807:=by omega
 have fg:x.items.length≤9223372036854775807:=by omega
 have HN:=Hh vG.2.2.1;have fq:¬ (c:Int)<1:=by omega
 have k0:¬ x.kind<0:=by omega
 have k8:¬ 8<x.kind:=by omega
 have HK:=Hh hk;have ij:=Hh rK;have V:=Hh (nJ x.n vG.2.2.1 (w.alloc (zi x ba bc ia ic)));clear hx vG rK;obtain⟨b0,b1,b2,b3,b4,b5,b6,b7,b8⟩:=Xr hk;clear hk
 by_cases yP:x.n=0
 all_goals first | (have bn00:((x.n:Int) != 0)=false:=by simp[yP]) | (have bn00:((x.n:Int) != 0)=true:=by simp[yP])
 all_goals first | (have bn01:(x.n=0)=True:=by first | exact eq_true yP | exact eq_false yP) | (have bn01:(x.n=0)=False:=by first | exact eq_true yP | exact eq_false yP)
 all_goals have qH:=Hh yP
 all_goals clear yP
 all_goals by_cases gh:isNaN x.n=true
 all_goals first | (have bnan0:isNaN x.n=true:=by simpa using gh) | (have bnan0:isNaN x.n=false:=by simpa using gh)
 all_goals have Nc:=Hh gh
 all_goals clear gh
 all_goals by_cases wd:x.n=vB
 all_goals first | (have bnn0:((x.n:Int) != 9221120237041090560)=false:=by(first | (rw[bne_eq_false_iff_eq];unfold vB at wd;omega) | (rw[bne_iff_ne];unfold vB at wd;omega))) | (have bnn0:((x.n:Int) != 9221120237041090560)=true:=by(first | (rw[bne_eq_false_iff_eq];unfold vB at wd;omega) | (rw[bne_iff_ne];unfold vB at wd;omega)))
 all_goals have jQ:=Hh wd
 all_goals clear wd
 all_goals
  go_enter Tryz.func111,Tryz.ntmps111
  rw[bnan0]at V;go_upto_region 22 with (go_at_call 119;refine V.out.mono ?_;rintro e wv ⟨rfl,rfl⟩)
  any_goals
   (have ss:yq x d (c-1)=false:=by
     cases hq:yq x d (c-1) with
     | false=>rfl
     | true=>exact absurd ((al HK.out).1 hq) (by have yP:=qH.out;have gh:=Nc.out;have wd:=jQ.out;rintro⟨p1,p2,p3⟩;first | omega | (rcases p3 with p3 | p3;(rw[bnan0]at p3;cases p3);exact wd p3))
    go_ret
    exact⟨by rw[wk ss];rfl,xz⟩)
  all_goals
   have xM:yq x d (c-1)=true:=(al HK.out).2 ⟨by omega,by omega,by first | exact .inl bnan0 | exact .inr jQ.out⟩;have uF:x.items.length=0:=by have yP:=qH.out;have gh:=Nc.out;have wd:=jQ.out;omega
   have hk:=HK.out;have E:Hid (yX x c d=some (c-1)):=vA tM xM uF;have Tb:¬ (0:Int)<x.items.length:=by omega
   have pA:¬ (2:Int)<x.items.length:=by omega
   have HI:=Hh uF;have HC:=Hh xM;clear uF hk xM;have c0:=hB.cell 0 rfl;have c3:=hB.cell 3 rfl;go_wp2_with fail
   refine wp_loop_rounds 1 ?_
   rw[rounds_succ];go_wp2_with fail
   refine wp_loop_rounds 1 ?_
   rw[rounds_succ];go_wp2_with fail
   go_ret
   exact⟨by rw[E.out,← ij.out];rfl,xz⟩
theorem Wu (x:Itm) (hk:x.kind<0∨8<x.kind) {ba:Option Addr}{bc:Nat}{ia:Option Addr}{ic:Nat}(w:World) (c d:Nat) (tM:0<c) (hc:c≤65536) :
  Calls Tryz.prog 111 #[xq x ba bc ia ic,.int .i64 c,.int .i64 d] w fun e w'=>e=.returned (.int .i64 (uW (yX x c d)))∧Below w.heap.size w w':=by
 have E:Hid (yX x c d=none):=wk (ZX hk);have fq:¬ (c:Int)<1:=by omega
 have b2:(x.kind==2)=false:=by rw[beq_eq_false_iff_ne];omega
 have b3:(x.kind==3)=false:=by rw[beq_eq_false_iff_ne];omega
 have b4:(x.kind==4)=false:=by rw[beq_eq_false_iff_ne];omega
 have b5:(x.kind==5)=false:=by rw[beq_eq_false_iff_ne];omega
 have b6:(x.kind==6)=false:=by rw[beq_eq_false_iff_ne];omega
 rcases hk with hk | hk
 ·go_enter Tryz.func111,Tryz.ntmps111
  go_wp2_with fail
  go_ret
  exact⟨by rw[E.out];rfl,zq w _⟩
 have iq:¬ x.kind<0:=by omega
 go_enter Tryz.func111,Tryz.ntmps111
 go_wp2_with fail
 go_ret
 exact⟨by rw[E.out];rfl,zq w _⟩
theorem XG (x:Itm):va x:=by
 have main:∀ N,∀ x:Itm,cnt x≤N→va x:=by
  intro N
  induction N with
  | zero =>
   intro x hx
   have:0<cnt x:=by cases x;rw[cnt];omega
   omega
  | succ N ih =>
  intro x hx H hT k n ba bl bc ia il ic w c d ha hH hc hd
  obtain⟨rfl,rfl,rfl,rfl,hi⟩:=ha.eqs_;have ih':∀ y:Itm,cnt y<cnt x→va y:=fun y hy=>ih y (by omega)
  rcases Nat.eq_zero_or_pos c with h0 | h0
  ·subst h0
   exact ZT x (H:=H) w d
  rcases(by omega:(x.kind<0∨8<x.kind)∨x.kind=0∨x.kind=1∨x.kind=2∨x.kind=3∨x.kind=4∨x.kind=5∨x.kind=6∨x.kind=7∨x.kind=8) with h | h | h | h | h | h | h | h | h | h
  ·exact Wu x h w c d h0 hc
  ·exact U5 x h hT ih' hi w hH c d h0 hc hd
  ·exact U6 x h hT ih' hi w hH c d h0 hc hd
  ·exact U7 x h hT ih' hi w hH c d h0 hc hd
  ·exact U8 x h hT ih' hi w hH c d h0 hc hd
  ·exact U9 x h hT ih' hi w hH c d h0 hc hd
  ·exact UB x h hT ih' hi w hH c d h0 hc hd
  ·exact UC x h hT ih' hi w hH c d h0 hc hd
  ·exact UD x h hT ih' hi w hH c d h0 hc hd
  exact UE x h hT ih' hi w hH c d h0 hc hd
 exact main _ x (Nat.le_refl _)
theorem cH {x:Itm}{r:Nat}(h:yX x 256 0=some r):Good x 0∧(zh x).length≤1099511627776:=by
 obtain⟨h1,h2,h3⟩:=sz _ _ _ _ h;have:=h1.bytes h2
 exact⟨h1,by omega⟩
theorem tm {H:Snap}(hT:Tabs H) {k n:Int}{ba:Option Addr}{bl bc:Nat}{ia:Option Addr}{il ic:Nat}{x:Itm}(hx:ItemA H k n ba bl bc ia il ic x) (w:World) (hH:Holds w H) :
  Calls Tryz.prog 73 #[.agg #[.int .i64 k,.int .u64 n,.slice ba bl bc,.slice ia il ic]] w fun e w'=>e=.returned (.bool (zX x))∧Below w.heap.size w w':=by
 obtain⟨rfl,rfl,rfl,rfl,qf⟩:=hx.eqs_;have hB:=Blk.new w 26 #[.int .i64 x.kind,.int .u64 x.n,.slice ba x.bytes.length bc,.slice ia x.items.length ic];have xz:=zq w (zi x ba bc ia ic);have Vd:=hH.alloc (zi x ba bc ia ic);have L:=Hh (XG x H hT _ _ _ _ _ _ _ _ (w.alloc (zi x ba bc ia ic)) 256 0 qf.arg Vd (by omega) (by omega));have E0:=pT x
 unfold gW at E0
 cases hl:yX x 256 0 with
 | none =>
  rw[hl]at L E0;have E:Hid (zX x=false):=by rw[Hid,← E0];rfl
  clear hl E0;go_enter Tryz.func73,Tryz.ntmps73
  go_wp2_with fail
  refine L.out.mono ?_
  rintro e w1 ⟨rfl,zH⟩
  have zJ:=xz.trans (zH.mono xz.size)
  simp only[uW]
  go_wp2_with fail
  go_ret
  exact⟨by rw[E.out];rfl,zJ⟩
 | some r =>
 rw[hl]at L E0;obtain⟨hg,zC⟩:=cH hl;have E:Hid (zX x=decide ((zh x).length≤4096)):=by rw[Hid,← E0];rfl
 have LT:(0:Int)≤(r:Int):=by omega
 have RW:=Hh (fun w1:World=>fun h1:Holds w1 H=>sH x H _ _ ba _ bc ia _ ic w1 0 hg zC qf.arg h1);have TM:=Hh zC;clear hl E0 hg zC;go_enter Tryz.func73,Tryz.ntmps73
 go_wp2_with fail
 refine L.out.mono ?_
 rintro e w1 ⟨rfl,zH⟩
 have yO:=hB.below zH;have zJ:=xz.trans (zH.mono xz.size);have oR:=Vd.below zH (Nat.le_refl _);have c0:=yO.cell 0 rfl;have c1:=yO.cell 1 rfl;have c2:=yO.cell 2 rfl;have c3:=yO.cell 3 rfl
 simp only[uW]
 go_wp2_with fail
 refine(RW.out _ oR).mono ?_
 rintro e w2 ⟨r2,rfl,hf⟩
 obtain⟨RA,rc,rfl,_⟩:=hf.own.form;have dl:=zJ.trans (hf.2.mono zJ.size);have zC:=TM.out
 by_cases h4:(zh x).length≤4096
 ·have E1:Hid (zX x=true):=by rw[Hid,E.out,decide_eq_true h4]
  have F2:((zh x).length:Int)≤4096:=by omega
  generalize (zh x).length=q at *
  clear h4 hf;go_wp2_with fail
  go_ret
  exact⟨by rw[E1.out];rfl,dl⟩
 have E1:Hid (zX x=false):=by rw[Hid,E.out,decide_eq_false h4]
 have F2:¬ ((zh x).length:Int)≤4096:=by omega
 generalize (zh x).length=q at *
 clear h4 hf;go_wp2_with fail
 go_ret
 refine⟨?_,dl⟩
 rw[E1.out];show Ending.returned (Value.bool (decide _))=_
 rw[decide_eq_false (by omega)]
def WW (w:World) (x:Itm) (e:Ending) (w':World):Prop :=
 (zX x=false∧e=.returned (.tuple #[.slice none 0 0,.int .i64 1])∧Below w.heap.size w w')∨
 (zX x=true∧∃ r,e=.returned (.tuple #[r,.int .i64 0])∧Fresh w (zh x) r w')
theorem kP {H:Snap}(hT:Tabs H) {k n:Int}{ba:Option Addr}{bl bc:Nat}{ia:Option Addr}{il ic:Nat}{x:Itm}(hx:ItemA H k n ba bl bc ia il ic x) (w:World) (hH:Holds w H) :
  Calls Tryz.prog 82 #[.agg #[.int .i64 k,.int .u64 n,.slice ba bl bc,.slice ia il ic]] w (WW w x):=by
 obtain⟨rfl,rfl,rfl,rfl,qf⟩:=hx.eqs_;have oR:=hH.alloc (zi x ba bc ia ic);have zH:=zq w (zi x ba bc ia ic);have yO:=Blk.new w 26 #[.int .i64 x.kind,.int .u64 x.n,.slice ba x.bytes.length bc,.slice ia x.items.length ic];have V:=Hh (tm hT qf.arg _ oR);go_enter Tryz.func82,Tryz.ntmps82
 go_wp2_with fail
 refine V.out.mono ?_
 rintro e w2 ⟨rfl,zG⟩
 have yV:=yO.below zG;have b0:=yV.cell 0 rfl;have b1:=yV.cell 1 rfl;have b2:=yV.cell 2 rfl;have b3:=yV.cell 3 rfl;have oO:=oR.below zG (Nat.le_refl _);have hb:=zH.trans (zG.mono zH.size)
 cases hv:zX x with
 | false =>
  have Vu:=Hh hv;clear hv;go_wp2_with fail
  go_ret2
  exact .inl ⟨Vu.out,rfl,hb⟩
 | true =>
 have hg:=(yp x).1 hv;have A:=Hh (sH x H _ _ ba _ bc ia _ ic w2 0 hg.1 (by omega) qf.arg oO);have Vu:=Hh hv;clear hv hg;go_wp2_with fail
 refine A.out.mono ?_
 rintro e w3 ⟨r,rfl,hf⟩
 go_wp2_with fail
 go_ret2
 exact .inr ⟨Vu.out,_,rfl,hf.step hb⟩
theorem ui (n:Int) (h1 : -9223372036854775808≤n) (h2:n≤9223372036854775807) {H:Snap}(w:World) (hH:Holds w H) :
  Calls Tryz.prog 42 #[.int .i64 n] w fun e w'=>∃ v,e=.returned v∧Gives w H (zg n) v w':=by
 by_cases h0:n<0
 ·have E:Hid (zg n=.mk 1 (-1-n).toNat [] []∧(-1-n).toNat<18446744073709551616∧-1-n=((-1-n).toNat:Int)):=⟨by rw[zg,if_pos h0],by omega,by omega⟩
  have K1:IntKind.u64.wrap (-1-n) = -1-n:=by rw[IntKind.wrap_u64];omega
  have K0:IntKind.i64.wrap (-1-n) = -1-n:=IntWalk.i64_in _ (by omega);clear h1 h2;go_enter Tryz.func42,Tryz.ntmps42
  go_wp2_with fail
  refine zR rfl rfl (Blk.new _ _ _) rfl rfl zp rfl ?_
  rw[E.out.1]
  exact⟨_,rfl,Gives.plain hH (zq _ _) (by omega) E.out.2.1 E.out.2.2⟩
 have E:Hid (zg n=.mk 0 n.toNat [] []∧n.toNat<18446744073709551616∧n=(n.toNat:Int)):=⟨by rw[zg,if_neg h0],by omega,by omega⟩
 have K1:IntKind.u64.wrap n=n:=by rw[IntKind.wrap_u64];omega
 have hn:=Int.not_lt.1 h0;clear h1 h2 h0;go_enter Tryz.func42,Tryz.ntmps42
 go_wp2_with fail
 refine zR rfl rfl (Blk.new _ _ _) rfl rfl zp rfl ?_
 rw[E.out.1]
 exact⟨_,rfl,Gives.plain hH (zq _ _) (by omega) E.out.2.1 E.out.2.2⟩
theorem t8 {A:Option Addr}{n c:Nat}{l:List UInt8}(hn:n=l.length) (hl:l.length≤1099511627776) {H:Snap}(w:World) (hs:Src w A (l.map zv)) (hH:Holds w H) :
  Calls Tryz.prog 43 #[.slice A n c] w fun e w'=>∃ v,e=.returned v∧Gives w H (.mk 2 0 l []) v w':=by
 have HN:=Hh hn;clear hn;have vT:=hs.alloc zW;go_enter Tryz.func43,Tryz.ntmps43
 go_wp2_with (at_builtin;refine zO ?_)
 refine zn rfl (.const (.slice none 0 0)) (.tmp 3) rfl (w.heap.size+1) (.slice none 0 0) [] rfl (OwnB.nil _ _) A n c l rfl HN.out vT (by simp;omega) (by simp) fun v' w1 hO hg _=>?_
 have hf:Fresh (w.alloc zW) l v' w1:=⟨by have:=hO.more (base':=(w.alloc zW).heap.size) (by simp);simpa [OwnB] using this,yo (by simpa [Value.ownBlock] using hg)⟩
 have hB:=(Blk.new w 26 #[.int .i64 0,.int .u64 0,.slice none 0 0,.slice none 0 0]).below hf.2;have HF:=Hh (hf.gives (k:=2) (hH.alloc zW) (by omega));obtain⟨A',c',rfl,_⟩:=hf.own.form;clear hO hg hf;go_wp2_with (with_reducible refine zx ?_)
 refine stI hB fun w2 yV xR=>?_
 go_wp2_with fail
 refine zR rfl rfl yV rfl rfl zp rfl ?_
 exact⟨_,rfl,HF.out.own (zq _ _) hH xR (Nat.le_refl _) (by simp)⟩
theorem lC (s:ByteArray) (hl:s.size≤1099511627776) {H:Snap}(w:World) (hH:Holds w H) :
  Calls Tryz.prog 81 #[.string s] w fun e w'=>∃ v,e=.returned v∧Gives w H (.mk 3 0 s.data.toList []) v w':=by
 obtain⟨g,c,w1,hr,hb,H',hG,hi⟩:=mU (hH.alloc zW) s hl;have hB:=(Blk.new w 26 #[.int .i64 0,.int .u64 0,.slice none 0 0,.slice none 0 0]).below hb
 have HI:Gives (w.alloc zW) H (.mk 3 0 s.data.toList []) (.agg #[.int .i64 3,.int .u64 0,.slice (some ⟨g,0,none⟩) s.size c,.slice none 0 0]) w1:=by
  refine⟨some ⟨g,0,none⟩,c,none,0,H',by simp[xq,Itm.kind,Itm.n,Itm.bytes,Itm.items],hG, ?_⟩
  rw[IsItem]
  exact⟨⟨by omega,by omega,by omega,Nat.le_refl _,by omega⟩,hi,fun h=>absurd h (by simp)⟩
 have KG:=Hh HI;clear hb hi HI;go_enter Tryz.func81,Tryz.ntmps81
 go_wp2_with (with_reducible refine zx ?_)
 refine stI hB fun w2 yV xR=>?_
 go_wp2_with fail
 refine zR rfl rfl yV rfl rfl zp rfl ?_
 exact⟨_,rfl,KG.out.own (zq _ _) hH xR (Nat.le_refl _) (by simp)⟩
theorem Zf (k n:Int) (ba:Option Addr) (bl bc:Nat) (ia:Option Addr) (il ic:Nat) (w:World) :
  Calls Tryz.prog 74 #[.agg #[.int .i64 k,.int .u64 n,.slice ba bl bc,.slice ia il ic]] w fun e w'=>e=.returned (.bool (k==3||((k==0||k==1)&&decide (n≤65535))))∧Below w.heap.size w w':=by
 go_enter Tryz.func74,Tryz.ntmps74
 go_wp2_with fail
 all_goals
  go_ret
  refine⟨?_,zq _ _⟩
  show Ending.returned (Value.bool _)=_
  simp_all
theorem cZ {H:Snap}{k n:Int}{ba:Option Addr}{bl bc:Nat}{ia:Option Addr}{il ic:Nat}{x:Itm}(hx:ItemA H k n ba bl bc ia il ic x) (w:World) :
  Calls Tryz.prog 74 #[.agg #[.int .i64 k,.int .u64 n,.slice ba bl bc,.slice ia il ic]] w fun e w'=>e=.returned (.bool (vz x))∧Below w.heap.size w w':=by
 obtain⟨rfl,rfl,rfl,rfl,qf⟩:=hx.eqs_
 refine(Zf x.kind x.n ba _ bc ia _ ic w).mono ?_
 rintro e w' ⟨rfl,hb⟩
 refine⟨?_,hb⟩
 rw[vz,wh];congr 4
 simp
 omega
structure IsInts (H:Snap) (A:Option Addr) (c:Nat) (l:List Int):Prop where
 le:l.length≤c
 max:c≤9223372036854775807
 row:Row H A (l.map (Value.int .i64))
 bnd:∀ x∈l, -9223372036854775808≤x∧x≤9223372036854775807
theorem IsInts.mono {H K:Snap}{A:Option Addr}{c:Nat}{l:List Int}(h:IsInts H A c l) (hl:H.le K):IsInts K A c l:=⟨h.le,h.max,h.row.mono hl,h.bnd⟩
def Deck (w:World) (g:Nat) (H:Snap):Prop:=∃ (A:Option Addr) (c:Nat) (l:List Int) (k:Nat),Blk w g 69 #[.slice A l.length c,.int .i64 k]∧IsInts H A c l∧k≤l.length
theorem Deck.mono {w:World}{g:Nat}{H K:Snap}(h:Deck w g H) (hl:H.le K):Deck w g K:=by
 obtain⟨A,c,l,k,h1,h2,h3⟩:=h
 exact⟨A,c,l,k,h1,h2.mono hl,h3⟩
theorem Deck.below {w w':World}{g:Nat}{H:Snap}(h:Deck w g H) (hb:Below w.heap.size w w'):Deck w' g H:=by
 obtain⟨A,c,l,k,h1,h2,h3⟩:=h
 exact⟨A,c,l,k,h1.below hb,h2,h3⟩
theorem Deck.lt {w:World}{g:Nat}{H:Snap}(h:Deck w g H):g<w.heap.size:=by
 obtain⟨A,c,l,k,h1,h2,h3⟩:=h
 exact h1.lt
def mK (v n:Int):Int:=if v.tmod n<0 then v.tmod n+n else v.tmod n
theorem o3 (v n:Int) (hn:0<n):0≤mK v n∧mK v n<n:=by
 have h1:=Int.tmod_lt_of_pos v hn;have h2 : -n<v.tmod n:=by have:=Int.tmod_lt_of_pos (-v) hn;rw[Int.neg_tmod]at this;omega
 unfold mK
 split <;> omega
theorem gT (v n:Int) (hn:0<n) (uB:n≤1099511627776) (w:World) :
  Calls Tryz.prog 10 #[.int .i64 v,.int .i64 n] w fun e w'=>e=.returned (.int .i64 (mK v n))∧w=w':=by
 have h1:=Int.tmod_lt_of_pos v hn;have h2 : -n<v.tmod n:=by have:=Int.tmod_lt_of_pos (-v) hn;rw[Int.neg_tmod]at this;omega
 have yP:(n==0)=false:=by rw[beq_eq_false_iff_ne];omega
 have uY:(n=0)=False:=eq_false (by omega);have K1:IntKind.i64.wrap (v.tmod n)=v.tmod n:=IntWalk.i64_in _ (by omega)
 by_cases h0:v.tmod n<0
 ·have E:Hid (mK v n=v.tmod n+n):=by rw[Hid,mK,if_pos h0]
  go_enter Tryz.func10,Tryz.ntmps10
  go_wp2_with fail
  go_ret
  exact⟨by rw[E.out];rfl,rfl⟩
 have E:Hid (mK v n=v.tmod n):=by rw[Hid,mK,if_neg h0]
 go_enter Tryz.func10,Tryz.ntmps10
 go_wp2_with fail
 go_ret
 exact⟨by rw[E.out];rfl,rfl⟩
theorem Ww (A:Option Addr) (n c:Nat) (w:World) :
  Calls Tryz.prog 26 #[.slice A n c] w fun e w'=>e=.returned (.bool (decide (n≤600)))∧w=w':=by
 have E:Hid (decide ((n:Int)≤600)=decide (n≤600)):=by rw[Hid,Bool.eq_iff_iff,decide_eq_true_eq,decide_eq_true_eq];omega
 go_enter Tryz.func26,Tryz.ntmps26
 go_wp2_with fail
 go_ret
 exact⟨by rw[← E.out];rfl,rfl⟩
theorem Qq {H:Snap}{A:Option Addr}{c:Nat}{l:List Int}(hl:IsInts H A c l) (w:World) :
  Calls Tryz.prog 17 #[.slice A l.length c] w fun e w'=>e=.returned (.pointer (some ⟨w.heap.size,0,none⟩))∧Deck w' w.heap.size H∧Below w.heap.size w w':=by
 have hB:=Blk.new w 69 #[.slice A l.length c,.int .i64 0];have hb:=zq w (.cells #[.slice A l.length c,.int .i64 0] 69);have HL:=Hh hl;clear hl;go_enter Tryz.func17,Tryz.ntmps17
 go_wp2_with fail
 go_ret
 exact⟨rfl,⟨A,c,l,0,hB,HL.out,Nat.zero_le _⟩,hb⟩
theorem XK:(Tryz.prog.info? 3).map (·.size)=some 1:=by kernel_rfl
theorem UI {H:Snap}{g:Nat}(w:World) (hD:Deck w g H) (hH:Holds w H) (hg:H g=none) (n:Int) (hn:0<n) (uB:n≤1099511627776) :
  Calls Tryz.prog 28 #[.pointer (some ⟨g,0,none⟩),.int .i64 n] w fun e w'=>∃ r:Int,e=.returned (.int .i64 r)∧0≤r∧r<n∧Deck w' g H∧w.grownBy w' (some g):=by
 obtain⟨A,c,l,k,hB,hl,hk⟩:=hD;have hc:=hl.max;have zC:=hl.le;have HL:=Hh hl;have vF:=hB.drew;clear hl;have QP:(k:Int)+1≤9223372036854775807∨l.length≤k:=by omega
 have KI:=Hh QP;have Pz:=Hh uB;clear hc zC QP uB;go_enter Tryz.func28,Tryz.ntmps28
 go_upto_region 1 with fail
 refine zw 9 (fun w'=>w'.cell? ⟨g,0,none⟩=some (.slice A l.length c)∧w'.cell? ⟨g,1,none⟩=some (.int .i64 k)) (by kernel_rfl) (⟨vF.cell 0 rfl,vF.cell 1 rfl⟩) (fun zy=>?_)
 refine Tk 0 rfl zy ?_
 refine Tk 1 rfl zy ?_
 refine Tk 2 rfl zy ?_
 refine Tk 3 rfl zy ?_
 refine Tk 4 rfl zy ?_
 refine Tk 5 rfl zy ?_
 refine Tk 6 rfl zy ?_
 refine Tk 7 rfl zy ?_
 refine Tk 8 rfl zy ?_
 refine To 9 rfl fun K hK=>?_
 go_simp
 refine Kz hK ?_
 clear hK K
 refine Wd ?_
 clear zy
 by_cases zB:k<l.length
 ·have gz:¬ (l.length:Int)≤k:=by omega
  have c1:=vF.cell 1 rfl;have jh:(k:Int)+1≤9223372036854775807:=by have:=KI.out;omega
  have qe:IntKind.i64.wrap ((k:Int)+1)=(k:Int)+1:=IntWalk.i64_in _ (by omega);clear jh;go_wp2_with (with_reducible refine zx ?_)
  refine zT rfl _ _ _ rfl rfl g 1 (.int .i64 ((k:Int)+1)) rfl rfl _ _ vF XK (by simp) rfl fun w2 yV xR=>?_
  obtain⟨ib,io,rfl,yR⟩:=HL.out.row (by intro h;rw[List.map_eq_nil_iff]at h;subst h;simp at zB);have xR:=zD (vL (yz w (some g))) xR (.inl rfl);have oO:Holds w2 H:=hH.grown xR (by rintro q ⟨⟩;exact hg);have hx:=yR k (.int .i64 l[k]) (by simp[zB]);have ut:Blk w2 g 69 #[.slice (some ⟨ib,io,none⟩) l.length c,.int .i64 ((k:Int)+1)]:=yV;have MD:=Hh (fun w3:World=>gT l[k] n hn Pz.out w3);have nW:=o3 l[k] n hn
  generalize l[k]'zB=x at *
  have zQ:=oO.drew;have P4:=ut.drew;have ye:=vL xR;have E4:(k:Int)<l.length:=by omega
  have vT:IntKind.i64.wrap ((k:Int)+1-1)=(k:Int):=by rw[show(k:Int)+1-1=k by omega];exact IntWalk.i64_in _ (by have:=KI.out;omega)
  have Pp:IntKind.i64.wrap (k:Int)=(k:Int):=IntWalk.i64_in _ (by have:=KI.out;omega);have iq:(0:Int)≤k:=by omega
  have Lp:=Hh nW;clear yV xR oO c1 vF hB yR nW gz;go_upto_region 4 with fail
  refine zw 13 (fun w'=>w'.cell? ⟨g,0,none⟩=some (.slice (some ⟨ib,io,none⟩) l.length c)∧w'.cell? ⟨g,1,none⟩=some (.int .i64 ((k:Int)+1))∧w'.cell? ⟨ib,io+k,none⟩=some (.int .i64 x)) (by kernel_rfl) (⟨P4.cell 0 rfl,P4.cell 1 rfl,zQ.cell hx⟩) (fun zy=>?_)
  refine Tk 0 rfl zy ?_
  refine Tk 1 rfl zy ?_
  refine Tk 2 rfl zy ?_
  refine Tk 3 rfl zy ?_
  refine Tk 4 rfl zy ?_
  refine Tk 5 rfl zy ?_
  refine Tk 6 rfl zy ?_
  refine Tk 7 rfl zy ?_
  refine Tk 8 rfl zy ?_
  refine Tk 9 rfl zy ?_
  refine Tk 10 rfl zy ?_
  refine Tk 11 rfl zy ?_
  refine To 12 rfl fun K hK=>?_
  go_simp
  refine(MD.out _).mono ?_
  rintro e w5 ⟨rfl,rfl⟩
  refine Ko hK ?_ fun zy=>?_
  ·exact⟨P4.cell 0 rfl,P4.cell 1 rfl,zQ.cell hx⟩
  clear hK K
  refine To 13 rfl fun K hK=>?_
  go_simp
  refine Kz hK ?_
  clear hK K
  refine Wd ?_
  clear zy;go_wp2_with fail
  go_ret
  exact⟨_,rfl,Lp.out.1,Lp.out.2,⟨_,c,l,k+1,P4,HL.out,by omega⟩,ye⟩
 have gz:(l.length:Int)≤k:=by omega
 go_wp2_with fail
 go_ret
 exact⟨0,rfl,by omega,hn,⟨A,c,l,k,vF,HL.out,hk⟩,vL (yz w _)⟩
def rZ (W:World):Snap:=fun b=>W.heap[b]?
theorem kH (W:World) (a:Addr):(rZ W).cell? a=W.cell? a:=rfl
theorem eG (W:World):Holds W (rZ W):=fun _ _ h=>h
theorem cA {W:World}(h:Lib.Utf8Tabs 0 1 W):Tabs (rZ W):=fun _ hw =>
 ⟨fun c hc=>hw.cell (h.1 c hc),fun i hi=>⟨hw.cell (h.2 i hi).1,hw.cell (h.2 i hi).2⟩⟩
theorem kV {n:Int}(h:(Lit.int .i64 n).wf=true) : -9223372036854775808≤n∧n≤9223372036854775807:=by
 simp[Lit.wf,IntKind.min,IntKind.max,IntKind.signed,IntKind.bits]at h
 omega
theorem Zt {n:Int}(h:(Lit.int .u8 n).wf=true):0≤n∧n<256:=by
 simp[Lit.wf,IntKind.min,IntKind.max,IntKind.signed,IntKind.bits]at h
 omega
theorem ZM {W:World}{a:Addr}{len cap:Nat}{zs:List Int}(hl:len≤cap) (hm:cap≤maxLen) (hz:len≤zs.length)
  (hc:∀ i,i<zs.length→W.cell? (a.add i)=some (.int .i64 (zs.getD i 0))) (wf:∀ n∈zs,(Lit.int .i64 n).wf=true):IsInts (rZ W) (some a) cap (zs.take len)∧(zs.take len).length=len:=by
 have xo:(zs.take len).length=len:=by rw[List.length_take];omega
 refine⟨⟨by rw[xo];exact hl,by simpa [maxLen] using hm,fun xg=>?_,fun x hx=>kV (wf x (List.mem_of_mem_take hx))⟩,xo⟩
 have h0:0<len:=by
  rcases Nat.eq_zero_or_pos len with h | h
  ·subst h;simp at xg
  exact h
 obtain⟨b,off,rfl,yR⟩:=ints_at hc (by omega)
 refine⟨b,off,rfl,fun j v hj=>?_⟩
 rw[List.getElem?_map]at hj;obtain⟨x,hx,rfl⟩:=Option.map_eq_some_iff.1 hj;have ip:=(List.getElem?_eq_some_iff.1 hx).1;rw[xo]at ip;rw[kH,yR j (by omega)];rw[List.getElem?_take,if_pos ip]at hx
 simp[List.getD,hx]
def uQ (zs:List Int):List UInt8:=zs.map fun n=>u8 n.toNat
theorem ju {W:World}{a:Addr}{len cap:Nat}{zs:List Int}(hl:len≤cap) (hm:cap≤maxLen) (hz:len≤zs.length)
  (hc:∀ i,i<zs.length→W.cell? (a.add i)=some (.int .u8 (zs.getD i 0))) (wf:∀ n∈zs,(Lit.int .u8 n).wf=true):IsBytes (rZ W) (some a) cap (uQ (zs.take len))∧(uQ (zs.take len)).length=len:=by
 have xo:(uQ (zs.take len)).length=len:=by rw[uQ,List.length_map,List.length_take];omega
 refine⟨⟨by rw[xo];exact hl,by simpa [maxLen] using hm,fun xg=>?_⟩,xo⟩
 have h0:0<len:=by
  rcases Nat.eq_zero_or_pos len with h | h
  ·subst h;simp[uQ]at xg
  exact h
 obtain⟨b,off,rfl,yR⟩:=ints_at hc (by omega)
 refine⟨b,off,rfl,fun j v hj=>?_⟩
 rw[uQ,List.map_map,List.getElem?_map]at hj;obtain⟨x,hx,rfl⟩:=Option.map_eq_some_iff.1 hj;rw[List.getElem?_take]at hx
 split at hx
 ·rename_i ip
  have hb:=Zt (wf x (List.mem_of_getElem? hx));rw[kH,yR j (by omega)]
  simp[List.getD,hx,zv,se]
  omega
 cases hx
end Go.Proofs.YtliomcphdnppnaaGreatDoor
namespace Go.Proofs.YtliomcphdnppnaaGreatDoor
open Go.RowKit Go.Shelf
def Qx:Go.Shelf.Ren:=⟨fun | 196=>49 | 259=>92 | n=>n,
 fun | 0=>0 | 3=>3 | 4=>4 | 5=>5 | 9=>9 | 12=>12 | 46=>62 | 53=>22 | 119=>115 | 138=>117 | 139=>118 | n=>n,
 fun | 3=>0 | 4=>1 | n=>n⟩
theorem Ul:Lays.n196 Tryz.prog Qx where
 mixed:=by kernel_rfl
 f196:=Tryz.func49.trans (congrArg some (by kernel_rfl))
 f259:=Tryz.func92.trans (congrArg some (by kernel_rfl))
 t0:=Tryz.underlying0
 a0:=Tryz.isAgg0
 z0:=Tryz.sizeOf0
 v0:=Tryz.zeroValue0
 t3:=Tryz.underlying3
 a3:=Tryz.isAgg3
 z3:=Tryz.sizeOf3
 v3:=Tryz.zeroValue3
 t4:=Tryz.underlying4
 a4:=Tryz.isAgg4
 z4:=Tryz.sizeOf4
 v4:=Tryz.zeroValue4
 t5:=Tryz.underlying5
 a5:=Tryz.isAgg5
 z5:=Tryz.sizeOf5
 v5:=Tryz.zeroValue5
 t9:=Tryz.underlying9
 a9:=Tryz.isAgg9
 z9:=Tryz.sizeOf9
 v9:=Tryz.zeroValue9
 t12:=Tryz.underlying12
 a12:=Tryz.isAgg12
 z12:=Tryz.sizeOf12
 v12:=Tryz.zeroValue12
 t46:=Tryz.underlying62
 a46:=Tryz.isAgg62
 z46:=Tryz.sizeOf62
 v46:=Tryz.zeroValue62
 t53:=Tryz.underlying22
 a53:=Tryz.isAgg22
 z53:=Tryz.sizeOf22
 v53:=Tryz.zeroValue22
 t119:=Tryz.underlying115
 a119:=Tryz.isAgg115
 z119:=Tryz.sizeOf115
 t138:=Tryz.underlying117
 a138:=Tryz.isAgg117
 z138:=Tryz.sizeOf117
 v138:=Tryz.zeroValue117
 t139:=Tryz.underlying118
 a139:=Tryz.isAgg118
 z139:=Tryz.sizeOf118
 v139:=Tryz.zeroValue118
 g3:=by kernel_rfl
 g4:=by kernel_rfl
theorem utf8_ValidString {H:Snap}(hT:Tabs H) (w:World) (hH:Holds w H) (s:ByteArray) (hs:s.size≤9223372036854775807) :
  Calls Tryz.prog 49 #[.string s] w fun e w'=>e=.returned (.bool (Lib.validD s.data.toList))∧Below w.heap.size w w' :=
 Any.utf8_ValidString Ul s w hs (hT w hH)
end Go.Proofs.YtliomcphdnppnaaGreatDoor
