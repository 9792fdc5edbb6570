/- squeezed. Walks: the references' left: texts -/
import Derived.Test.YtliomcphdnppnaaGreatDoorK07
import Derived.ChangeSlices
import Derived.OpenShut
import Derived.Shelf.Unicode.ValidAny
set_option linter.unusedVariables false
set_option linter.unusedSimpArgs false
set_option maxRecDepth 100000
set_option maxHeartbeats 6400000
namespace Go.Proofs.YtliomcphdnppnaaGreatDoor
open Go.RowKit
theorem jaT{P:Prop}(h:P:=by
 go_wp2_with fail
 go_ret
 exact⟨by rw[E.out];rfl,rfl⟩):P:=h
theorem jbE{P:Prop}(h:P:=by
 go_wp2_with fail
 go_ret
 exact⟨by rw[E.out];rfl,yz⟩):P:=h
theorem jdt{P:Prop}(h:P:=by
 simp[Lit.wf,IntKind.min,IntKind.max,IntKind.signed,IntKind.bits]at h
 omega):P:=h
theorem jgs{P:Prop}(h:P:=by have yz:=xo.trans (zB.mono xo.size);exact yz):P:=h
theorem Jx (x:Itm) (hk:x.kind=3) {H:Snap}(hT:Tabs H) (ih:∀ y:Itm,cnt y<cnt x→uS y) {ba:Option Addr}{bc:Nat}{ia:Option Addr}{ic:Nat}(hx:IsItem H ba bc ia ic x) (w:World) (hH:Holds w H) (c d:Nat) (qr:0<c) (hc:c≤65536) (hd:d≤65536) :
  Calls Tryz.prog 111 #[xp x ba bc ia ic,.int .i64 c,.int .i64 d] w fun e w'=>e=.returned (.int .i64 (ss (xu x c d)))∧Below w.heap.size w w':=by
 have HX:=Hh hx;have tf:=jgF;obtain⟨hB,xo⟩:=je9;have nE:((c-1:Nat):Int)=(c:Int)-1:=by omega
 have om:x.bytes.length≤9223372036854775807:=by omega
 have Wy:x.items.length≤9223372036854775807:=by omega
 have HN:=jgH;have Ww:¬ (c:Int)<1:=by omega
 have k0:¬ x.kind<0:=by omega
 have k8:¬ 8<x.kind:=by omega
 have HK:=Hh hk;have bw:=Hh nE;have V:=Hh (ng hT (w.alloc (zU x ba bc ia ic)) (hH.alloc _) ba x.bytes _ bc rfl hx.bytes);clear hx tf nE;obtain⟨b0,b1,b2,b3,b4,b5,b6,b7,b8⟩:=OV hk;clear hk
 by_cases yO:x.n=0
 all_goals first | (have bn00:((x.n:Int) != 0)=false:=by simp[yO]) | (have bn00:((x.n:Int) != 0)=true:=by simp[yO])
 all_goals first | (have bn01:(x.n=0)=True:=by first | exact eq_true yO | exact eq_false yO) | (have bn01:(x.n=0)=False:=by first | exact eq_true yO | exact eq_false yO)
 all_goals have mr:=Hh yO
 all_goals clear yO
 all_goals by_cases rv:Lib.validD x.bytes=true
 all_goals first | (have bval0:Lib.validD x.bytes=true:=by simpa using rv) | (have bval0:Lib.validD x.bytes=false:=by simpa using rv)
 all_goals have Bq:=Hh rv
 all_goals clear rv
 all_goals
  go_enter Tryz.func111,Tryz.ntmps111
  rw[bval0]at V;go_upto_region 22 with (go_at_call 140;refine V.out.mono ?_;rintro e wv ⟨rfl,hbv⟩;have hB:=hB.below hbv;have xo:=xo.trans (hbv.mono xo.size);have e0:=hB.cell 0 rfl;have e1:=hB.cell 1 rfl;have e2:=hB.cell 2 rfl;have e3:=hB.cell 3 rfl)
  any_goals
   (have sz:yG x d (c-1)=false:=by
     cases hq:yG x d (c-1) with
     | false=>rfl
     | true=>exact absurd ((Ti HK.out).1 hq) (by have yO:=mr.out;have rv:=Bq.out;rintro⟨p1,p2,p3,p4⟩;first | omega | (rw[bval0]at p4;cases p4))
    go_ret
    exact⟨by rw[vg sz];rfl,xo⟩)
  all_goals
   have wP:yG x d (c-1)=true:=(Ti HK.out).2 ⟨mr.out,by omega,by omega,bval0⟩;have tV:x.items.length=0:=by have yO:=mr.out;have rv:=Bq.out;omega
   obtain⟨hk,E⟩:=jfp;have ML:¬ (0:Int)<x.items.length:=by omega
   have mi:¬ (2:Int)<x.items.length:=by omega
   have HI:=Hh tV;have HC:=Hh wP;clear tV hk wP;have c0:=jfj;have c3:=jfk;go_wp2_with fail
   refine wp_loop_rounds 1 ?_
   rw[rounds_succ];go_wp2_with fail
   refine wp_loop_rounds 1 ?_
   rw[rounds_succ];go_wp2_with fail
   go_ret
   exact⟨by rw[E.out,← bw.out];rfl,xo⟩
theorem KF (x:Itm) (hk:x.kind=8) {H:Snap}(hT:Tabs H) (ih:∀ y:Itm,cnt y<cnt x→uS y) {ba:Option Addr}{bc:Nat}{ia:Option Addr}{ic:Nat}(hx:IsItem H ba bc ia ic x) (w:World) (hH:Holds w H) (c d:Nat) (qr:0<c) (hc:c≤65536) (hd:d≤65536) :
  Calls Tryz.prog 111 #[xp x ba bc ia ic,.int .i64 c,.int .i64 d] w fun e w'=>e=.returned (.int .i64 (ss (xu x c d)))∧Below w.heap.size w w':=by
 have HX:=Hh hx;have tf:=jgF;obtain⟨hB,xo⟩:=je9;have nE:((c-1:Nat):Int)=(c:Int)-1:=by omega
 have om:x.bytes.length≤9223372036854775807:=by omega
 have Wy:x.items.length≤9223372036854775807:=by omega
 have HN:=jgH;have Ww:¬ (c:Int)<1:=by omega
 have k0:¬ x.kind<0:=by omega
 have k8:¬ 8<x.kind:=by omega
 have HK:=Hh hk;have bw:=Hh nE;have V:=Hh (iL x.n tf.2.2.1 (w.alloc (zU x ba bc ia ic)));clear hx tf nE;obtain⟨b0,b1,b2,b3,b4,b5,b6,b7,b8⟩:=Oa hk;clear hk
 by_cases yO:x.n=0
 all_goals first | (have bn00:((x.n:Int) != 0)=false:=by simp[yO]) | (have bn00:((x.n:Int) != 0)=true:=by simp[yO])
 all_goals first | (have bn01:(x.n=0)=True:=by first | exact eq_true yO | exact eq_false yO) | (have bn01:(x.n=0)=False:=by first | exact eq_true yO | exact eq_false yO)
 all_goals have mr:=Hh yO
 all_goals clear yO
 all_goals by_cases gC:isNaN x.n=true
 all_goals first | (have bnan0:isNaN x.n=true:=by simpa using gC) | (have bnan0:isNaN x.n=false:=by simpa using gC)
 all_goals have Bo:=Hh gC
 all_goals clear gC
 all_goals by_cases sV:x.n=yg
 all_goals first | (have bnn0:((x.n:Int) != 9221120237041090560)=false:=by(first | (rw[bne_eq_false_iff_eq];unfold yg at sV;omega) | (rw[bne_iff_ne];unfold yg at sV;omega))) | (have bnn0:((x.n:Int) != 9221120237041090560)=true:=by(first | (rw[bne_eq_false_iff_eq];unfold yg at sV;omega) | (rw[bne_iff_ne];unfold yg at sV;omega)))
 all_goals have jv:=Hh sV
 all_goals clear sV
 all_goals
  go_enter Tryz.func111,Tryz.ntmps111
  rw[bnan0]at V;go_upto_region 22 with (go_at_call 119;refine V.out.mono ?_;rintro e wv ⟨rfl,rfl⟩)
  any_goals
   (have sz:yG x d (c-1)=false:=by
     cases hq:yG x d (c-1) with
     | false=>rfl
     | true=>exact absurd ((Tl HK.out).1 hq) (by have yO:=mr.out;have gC:=Bo.out;have sV:=jv.out;rintro⟨p1,p2,p3⟩;first | omega | (rcases p3 with p3 | p3;(rw[bnan0]at p3;cases p3);exact sV p3))
    go_ret
    exact⟨by rw[vg sz];rfl,xo⟩)
  all_goals
   have wP:yG x d (c-1)=true:=(Tl HK.out).2 ⟨by omega,by omega,by first | exact .inl bnan0 | exact .inr jv.out⟩;have tV:x.items.length=0:=by have yO:=mr.out;have gC:=Bo.out;have sV:=jv.out;omega
   obtain⟨hk,E⟩:=jfp;have ML:¬ (0:Int)<x.items.length:=by omega
   have mi:¬ (2:Int)<x.items.length:=by omega
   have HI:=Hh tV;have HC:=Hh wP;clear tV hk wP;have c0:=jfj;have c3:=jfk;go_wp2_with fail
   refine wp_loop_rounds 1 ?_
   rw[rounds_succ];go_wp2_with fail
   refine wp_loop_rounds 1 ?_
   rw[rounds_succ];go_wp2_with fail
   go_ret
   exact⟨by rw[E.out,← bw.out];rfl,xo⟩
theorem NN (x:Itm) (hk:x.kind<0∨8<x.kind) {ba:Option Addr}{bc:Nat}{ia:Option Addr}{ic:Nat}(w:World) (c d:Nat) (qr:0<c) (hc:c≤65536) :
  Calls Tryz.prog 111 #[xp x ba bc ia ic,.int .i64 c,.int .i64 d] w fun e w'=>e=.returned (.int .i64 (ss (xu x c d)))∧Below w.heap.size w w':=by
 have E:Hid (xu x c d=none):=vg (Rd hk);have Ww:¬ (c:Int)<1:=by omega
 have b2:(x.kind==2)=false:=by rw[beq_eq_false_iff_ne];omega
 have b3:(x.kind==3)=false:=by rw[beq_eq_false_iff_ne];omega
 have b4:(x.kind==4)=false:=by rw[beq_eq_false_iff_ne];omega
 have b5:(x.kind==5)=false:=by rw[beq_eq_false_iff_ne];omega
 have b6:(x.kind==6)=false:=by rw[beq_eq_false_iff_ne];omega
 rcases hk with hk | hk
 ·exact jb3
 have kC:¬ x.kind<0:=by omega
 exact jb3
theorem Nr (x:Itm):uS x:=by
 have main:∀ N,∀ x:Itm,cnt x≤N→uS x:=by
  intro N
  induction N with
  | zero =>
   exact jbv
  | succ N ih =>
  intro x hx H hT k n ba bl bc ia il ic w c d ha hH hc hd
  obtain⟨rfl,rfl,rfl,rfl,hi⟩:=ha.eqs_;have ih':∀ y:Itm,cnt y<cnt x→uS y:=fun y hy=>ih y (by omega)
  rcases Nat.eq_zero_or_pos c with h0 | h0
  ·subst h0
   exact RQ x (H:=H) w d
  rcases(by omega:(x.kind<0∨8<x.kind)∨x.kind=0∨x.kind=1∨x.kind=2∨x.kind=3∨x.kind=4∨x.kind=5∨x.kind=6∨x.kind=7∨x.kind=8) with h | h | h | h | h | h | h | h | h | h
  ·exact NN x h w c d h0 hc
  ·exact Ju x h hT ih' hi w hH c d h0 hc hd
  ·exact Jv x h hT ih' hi w hH c d h0 hc hd
  ·exact Jw x h hT ih' hi w hH c d h0 hc hd
  ·exact Jx x h hT ih' hi w hH c d h0 hc hd
  ·exact Jy x h hT ih' hi w hH c d h0 hc hd
  ·exact Jz x h hT ih' hi w hH c d h0 hc hd
  ·exact KD x h hT ih' hi w hH c d h0 hc hd
  ·exact KE x h hT ih' hi w hH c d h0 hc hd
  exact KF x h hT ih' hi w hH c d h0 hc hd
 exact jcm
theorem V7 {x:Itm}{r:Nat}(h:xu x 256 0=some r):Good x 0∧(zZ x).length≤1099511627776:=by
 obtain⟨h1,h2,h3⟩:=qM _ _ _ _ h;have:=h1.bytes h2
 exact⟨h1,by omega⟩
theorem qP {H:Snap}(hT:Tabs H) {k n:Int}{ba:Option Addr}{bl bc:Nat}{ia:Option Addr}{il ic:Nat}{x:Itm}(hx:ItemA H k n ba bl bc ia il ic x) (w:World) (hH:Holds w H) :
  Calls Tryz.prog 73 #[.agg #[.int .i64 k,.int .u64 n,.slice ba bl bc,.slice ia il ic]] w fun e w'=>e=.returned (.bool (zJ x))∧Below w.heap.size w w':=by
 obtain⟨rfl,rfl,rfl,rfl,rD⟩:=hx.eqs_;obtain⟨hB,xo⟩:=je9;have Q3:=hH.alloc (zU x ba bc ia ic);have L:=Hh (Nr x H hT _ _ _ _ _ _ _ _ (w.alloc (zU x ba bc ia ic)) 256 0 rD.arg Q3 (by omega) (by omega));have E0:=lX x
 unfold aD at E0
 cases hl:xu x 256 0 with
 | none =>
  rw[hl]at L E0;have E:Hid (zJ x=false):=by rw[Hid,← E0];rfl
  clear hl E0;go_enter Tryz.func73,Tryz.ntmps73
  go_wp2_with fail
  refine L.out.mono ?_
  rintro e w1 ⟨rfl,zB⟩
  have yz:=jgs
  simp only[ss]
  exact jbE
 | some r =>
 rw[hl]at L E0;obtain⟨hg,yw⟩:=V7 hl;have E:Hid (zJ x=decide ((zZ x).length≤4096)):=by rw[Hid,← E0];rfl
 have Il:(0:Int)≤(r:Int):=by omega
 have RW:=Hh (fun w1:World=>fun h1:Holds w1 H=>nm x H _ _ ba _ bc ia _ ic w1 0 hg yw rD.arg h1);have gh:=Hh yw;clear hl E0 hg yw;go_enter Tryz.func73,Tryz.ntmps73
 go_wp2_with fail
 refine L.out.mono ?_
 rintro e w1 ⟨rfl,zB⟩
 have xX:=hB.below zB;have yz:=jgs;have pd:=Q3.below zB (Nat.le_refl _);have c0:=xX.cell 0 rfl;have c1:=xX.cell 1 rfl;have c2:=xX.cell 2 rfl;have c3:=xX.cell 3 rfl
 simp only[ss]
 go_wp2_with fail
 refine(RW.out _ pd).mono ?_
 rintro e w2 ⟨r2,rfl,hf⟩
 obtain⟨RA,rc,rfl,_⟩:=hf.own.form;have Wv:=yz.trans (hf.2.mono yz.size);have yw:=gh.out
 by_cases h4:(zZ x).length≤4096
 ·have E1:Hid (zJ x=true):=by rw[Hid,E.out,decide_eq_true h4]
  have h4i:((zZ x).length:Int)≤4096:=by omega
  generalize (zZ x).length=q at *
  clear h4 hf;go_wp2_with fail
  go_ret
  exact⟨by rw[E1.out];rfl,Wv⟩
 have E1:Hid (zJ x=false):=by rw[Hid,E.out,decide_eq_false h4]
 have h4i:¬ ((zZ x).length:Int)≤4096:=by omega
 generalize (zZ x).length=q at *
 clear h4 hf;go_wp2_with fail
 go_ret
 refine⟨?_,Wv⟩
 rw[E1.out];show Ending.returned (Value.bool (decide _))=_
 rw[decide_eq_false (by omega)]
theorem tD (n:Int) (h1 : -9223372036854775808≤n) (h2:n≤9223372036854775807) {H:Snap}(w:World) (hH:Holds w H) :
  Calls Tryz.prog 42 #[.int .i64 n] w fun e w'=>∃ v,e=.returned v∧Gives w H (zS n) v w':=by
 by_cases h0:n<0
 ·have E:Hid (zS n=.mk 1 (-1-n).toNat [] []∧(-1-n).toNat<18446744073709551616∧-1-n=((-1-n).toNat:Int)):=⟨by rw[zS,if_pos h0],by omega,by omega⟩
  have K1:IntKind.u64.wrap (-1-n) = -1-n:=by rw[IntKind.wrap_u64];omega
  have K0:IntKind.i64.wrap (-1-n) = -1-n:=IntWalk.i64_in _ (by omega);clear h1 h2;go_enter Tryz.func42,Tryz.ntmps42
  exact jbu
 have E:Hid (zS n=.mk 0 n.toNat [] []∧n.toNat<18446744073709551616∧n=(n.toNat:Int)):=⟨by rw[zS,if_neg h0],by omega,by omega⟩
 have K1:IntKind.u64.wrap n=n:=by rw[IntKind.wrap_u64];omega
 have hn:=Int.not_lt.1 h0;clear h1 h2 h0;go_enter Tryz.func42,Tryz.ntmps42
 exact jbu
theorem iK {A:Option Addr}{n c:Nat}{l:List UInt8}(hn:n=l.length) (hl:l.length≤1099511627776) {H:Snap}(w:World) (hs:Src w A (l.map zm)) (hH:Holds w H) :
  Calls Tryz.prog 43 #[.slice A n c] w fun e w'=>∃ v,e=.returned v∧Gives w H (.mk 2 0 l []) v w':=by
 have HN:=Hh hn;clear hn;have vV:=hs.alloc zi;go_enter Tryz.func43,Tryz.ntmps43
 go_wp2_with (at_builtin;refine zH ?_)
 refine zg rfl (.const (.slice none 0 0)) (.tmp 3) rfl (w.heap.size+1) (.slice none 0 0) [] rfl (OwnB.nil _ _) A n c l rfl HN.out vV (by simp;omega) (by simp) fun v' w1 hO hg _=>?_
 have hf:Fresh (w.alloc zi) l v' w1:=⟨by have:=hO.more (base':=(w.alloc zi).heap.size) (by simp);simpa [OwnB] using this,xe (by simpa [Value.ownBlock] using hg)⟩
 have hB:=jgG;have HF:=Hh (hf.gives (k:=2) (hH.alloc zi) (by omega));obtain⟨A',c',rfl,_⟩:=hf.own.form;clear hO hg hf;go_wp2_with (with_reducible refine zx ?_)
 refine stI hB fun w2 yQ yE=>?_
 exact jcu
theorem Yc (s:ByteArray) (hl:s.size≤1099511627776) {H:Snap}(w:World) (hH:Holds w H) :
  Calls Tryz.prog 81 #[.string s] w fun e w'=>∃ v,e=.returned v∧Gives w H (.mk 3 0 s.data.toList []) v w':=by
 obtain⟨g,c,w1,hr,hb,H',hG,hi⟩:=gQ (hH.alloc zi) s hl;have hB:=jgJ
 have HI:Gives (w.alloc zi) H (.mk 3 0 s.data.toList []) (.agg #[.int .i64 3,.int .u64 0,.slice (some ⟨g,0,none⟩) s.size c,.slice none 0 0]) w1:=by
  exact jbR
 have HII:=Hh HI;clear hb hi HI;go_enter Tryz.func81,Tryz.ntmps81
 go_wp2_with (with_reducible refine zx ?_)
 refine stI hB fun w2 yQ yE=>?_
 exact jct
theorem Ru (k n:Int) (ba:Option Addr) (bl bc:Nat) (ia:Option Addr) (il ic:Nat) (w:World) :
  Calls Tryz.prog 74 #[.agg #[.int .i64 k,.int .u64 n,.slice ba bl bc,.slice ia il ic]] w fun e w'=>e=.returned (.bool (k==3||((k==0||k==1)&&decide (n≤65535))))∧Below w.heap.size w w':=by
 go_enter Tryz.func74,Tryz.ntmps74
 exact jcQ
theorem VY {H:Snap}{k n:Int}{ba:Option Addr}{bl bc:Nat}{ia:Option Addr}{il ic:Nat}{x:Itm}(hx:ItemA H k n ba bl bc ia il ic x) (w:World) :
  Calls Tryz.prog 74 #[.agg #[.int .i64 k,.int .u64 n,.slice ba bl bc,.slice ia il ic]] w fun e w'=>e=.returned (.bool (uw x))∧Below w.heap.size w w':=by
 obtain⟨rfl,rfl,rfl,rfl,rD⟩:=hx.eqs_
 refine(Ru x.kind x.n ba _ bc ia _ ic w).mono ?_
 rintro e w' ⟨rfl,hb⟩
 refine⟨?_,hb⟩
 rw[uw,vW];congr 4
 simp
 omega
structure IsInts (H:Snap) (A:Option Addr) (c:Nat) (l:List Int):Prop where
 le:l.length≤c
 max:c≤9223372036854775807
 row:Row H A (l.map (Value.int .i64))
 bnd:∀ x∈l, -9223372036854775808≤x∧x≤9223372036854775807
theorem IsInts.mono {H K:Snap}{A:Option Addr}{c:Nat}{l:List Int}(h:IsInts H A c l) (hl:H.le K):IsInts K A c l:=⟨h.le,h.max,h.row.mono hl,h.bnd⟩
def Deck (w:World) (g:Nat) (H:Snap):Prop:=∃ (A:Option Addr) (c:Nat) (l:List Int) (k:Nat),Blk w g 69 #[.slice A l.length c,.int .i64 k]∧IsInts H A c l∧k≤l.length
theorem Deck.mono {w:World}{g:Nat}{H K:Snap}(h:Deck w g H) (hl:H.le K):Deck w g K:=by
 obtain⟨A,c,l,k,h1,h2,h3⟩:=h
 exact⟨A,c,l,k,h1,h2.mono hl,h3⟩
theorem Deck.below {w w':World}{g:Nat}{H:Snap}(h:Deck w g H) (hb:Below w.heap.size w w'):Deck w' g H:=by
 obtain⟨A,c,l,k,h1,h2,h3⟩:=h
 exact⟨A,c,l,k,h1.below hb,h2,h3⟩
theorem Deck.lt {w:World}{g:Nat}{H:Snap}(h:Deck w g H):g<w.heap.size:=by
 obtain⟨A,c,l,k,h1,h2,h3⟩:=h
 exact h1.lt
def dB (v n:Int):Int:=if v.tmod n<0 then v.tmod n+n else v.tmod n
theorem eZ (v n:Int) (hn:0<n):0≤dB v n∧dB v n<n:=by
 have h1:=Int.tmod_lt_of_pos v hn;have h2 : -n<v.tmod n:=by have:=Int.tmod_lt_of_pos (-v) hn;rw[Int.neg_tmod]at this;omega
 unfold dB
 split <;> omega
theorem Oc (v n:Int) (hn:0<n) (tF:n≤1099511627776) (w:World) :
  Calls Tryz.prog 10 #[.int .i64 v,.int .i64 n] w fun e w'=>e=.returned (.int .i64 (dB v n))∧w=w':=by
 have h1:=Int.tmod_lt_of_pos v hn;have h2 : -n<v.tmod n:=by have:=Int.tmod_lt_of_pos (-v) hn;rw[Int.neg_tmod]at this;omega
 have yO:(n==0)=false:=by rw[beq_eq_false_iff_ne];omega
 have un:(n=0)=False:=eq_false (by omega);have K1:IntKind.i64.wrap (v.tmod n)=v.tmod n:=IntWalk.i64_in _ (by omega)
 by_cases h0:v.tmod n<0
 ·have E:Hid (dB v n=v.tmod n+n):=by rw[Hid,dB,if_pos h0]
  go_enter Tryz.func10,Tryz.ntmps10
  exact jaT
 have E:Hid (dB v n=v.tmod n):=by rw[Hid,dB,if_neg h0]
 go_enter Tryz.func10,Tryz.ntmps10
 exact jaT
theorem NU (A:Option Addr) (n c:Nat) (w:World) :
  Calls Tryz.prog 26 #[.slice A n c] w fun e w'=>e=.returned (.bool (decide (n≤600)))∧w=w':=by
 have E:Hid (decide ((n:Int)≤600)=decide (n≤600)):=by rw[Hid,Bool.eq_iff_iff,decide_eq_true_eq,decide_eq_true_eq];omega
 go_enter Tryz.func26,Tryz.ntmps26
 go_wp2_with fail
 go_ret
 exact⟨by rw[← E.out];rfl,rfl⟩
theorem GA {H:Snap}{A:Option Addr}{c:Nat}{l:List Int}(hl:IsInts H A c l) (w:World) :
  Calls Tryz.prog 17 #[.slice A l.length c] w fun e w'=>e=.returned (.pointer (some ⟨w.heap.size,0,none⟩))∧Deck w' w.heap.size H∧Below w.heap.size w w':=by
 have hB:=Blk.new w 69 #[.slice A l.length c,.int .i64 0];have hb:=zo w (.cells #[.slice A l.length c,.int .i64 0] 69);have HL:=Hh hl;clear hl;go_enter Tryz.func17,Tryz.ntmps17
 go_wp2_with fail
 go_ret
 exact⟨rfl,⟨A,c,l,0,hB,HL.out,Nat.zero_le _⟩,hb⟩
theorem Ny:(Tryz.prog.info? 3).map (·.size)=some 1:=by kernel_rfl
theorem KO {H:Snap}{g:Nat}(w:World) (hD:Deck w g H) (hH:Holds w H) (hg:H g=none) (n:Int) (hn:0<n) (tF:n≤1099511627776) :
  Calls Tryz.prog 28 #[.pointer (some ⟨g,0,none⟩),.int .i64 n] w fun e w'=>∃ r:Int,e=.returned (.int .i64 r)∧0≤r∧r<n∧Deck w' g H∧w.grownBy w' (some g):=by
 obtain⟨A,c,l,k,hB,hl,hk⟩:=hD;have hc:=hl.max;have yw:=hl.le;have HL:=Hh hl;have tp:=hB.drew;clear hl;have Aq:(k:Int)+1≤9223372036854775807∨l.length≤k:=by omega
 have HKM:=Hh Aq;have dC:=Hh tF;clear hc yw Aq tF;go_enter Tryz.func28,Tryz.ntmps28
 go_upto_region 1 with fail
 refine zw 9 (fun w'=>w'.cell? ⟨g,0,none⟩=some (.slice A l.length c)∧w'.cell? ⟨g,1,none⟩=some (.int .i64 k)) (by kernel_rfl) (⟨tp.cell 0 rfl,tp.cell 1 rfl⟩) (fun zy=>?_)
 refine Tk 0 rfl zy ?_
 refine Tk 1 rfl zy ?_
 refine Tk 2 rfl zy ?_
 refine Tk 3 rfl zy ?_
 refine Tk 4 rfl zy ?_
 refine Tk 5 rfl zy ?_
 refine Tk 6 rfl zy ?_
 refine Tk 7 rfl zy ?_
 refine Tk 8 rfl zy ?_
 refine To 9 rfl fun K hK=>?_
 go_simp
 refine Kz hK ?_
 clear hK K
 refine Wd ?_
 clear zy
 by_cases yu:k<l.length
 ·have ZG:¬ (l.length:Int)≤k:=by omega
  have c1:=tp.cell 1 rfl;have lA:(k:Int)+1≤9223372036854775807:=by have:=HKM.out;omega
  have sW:IntKind.i64.wrap ((k:Int)+1)=(k:Int)+1:=IntWalk.i64_in _ (by omega);clear lA;go_wp2_with (with_reducible refine zx ?_)
  refine zj rfl _ _ _ rfl rfl g 1 (.int .i64 ((k:Int)+1)) rfl rfl _ _ tp Ny (by simp) rfl fun w2 yQ yE=>?_
  obtain⟨ib,io,rfl,xP⟩:=HL.out.row (by intro h;rw[List.map_eq_nil_iff]at h;subst h;simp at yu);have yE:=zK (vG (ym w (some g))) yE (.inl rfl);have pf:Holds w2 H:=hH.grown yE (by rintro q ⟨⟩;exact hg);have hx:=xP k (.int .i64 l[k]) (by simp[yu]);have wi:Blk w2 g 69 #[.slice (some ⟨ib,io,none⟩) l.length c,.int .i64 ((k:Int)+1)]:=yQ;have MD:=Hh (fun w3:World=>Oc l[k] n hn dC.out w3);have mh:=eZ l[k] n hn
  generalize l[k]'yu=x at *
  have zE:=pf.drew;have DX:=wi.drew;have ye:=vG yE;have zBy:(k:Int)<l.length:=by omega
  have vV:IntKind.i64.wrap ((k:Int)+1-1)=(k:Int):=by rw[show(k:Int)+1-1=k by omega];exact IntWalk.i64_in _ (by have:=HKM.out;omega)
  have Ip:IntKind.i64.wrap (k:Int)=(k:Int):=IntWalk.i64_in _ (by have:=HKM.out;omega);have kC:(0:Int)≤k:=by omega
  have HBN:=Hh mh;clear yQ yE pf c1 tp hB xP mh ZG;go_upto_region 4 with fail
  refine zw 13 (fun w'=>w'.cell? ⟨g,0,none⟩=some (.slice (some ⟨ib,io,none⟩) l.length c)∧w'.cell? ⟨g,1,none⟩=some (.int .i64 ((k:Int)+1))∧w'.cell? ⟨ib,io+k,none⟩=some (.int .i64 x)) (by kernel_rfl) (⟨DX.cell 0 rfl,DX.cell 1 rfl,zE.cell hx⟩) (fun zy=>?_)
  refine Tk 0 rfl zy ?_
  refine Tk 1 rfl zy ?_
  refine Tk 2 rfl zy ?_
  refine Tk 3 rfl zy ?_
  refine Tk 4 rfl zy ?_
  refine Tk 5 rfl zy ?_
  refine Tk 6 rfl zy ?_
  refine Tk 7 rfl zy ?_
  refine Tk 8 rfl zy ?_
  refine Tk 9 rfl zy ?_
  refine Tk 10 rfl zy ?_
  refine Tk 11 rfl zy ?_
  refine To 12 rfl fun K hK=>?_
  go_simp
  refine(MD.out _).mono ?_
  rintro e w5 ⟨rfl,rfl⟩
  refine Ko hK ?_ fun zy=>?_
  ·exact⟨DX.cell 0 rfl,DX.cell 1 rfl,zE.cell hx⟩
  clear hK K
  refine To 13 rfl fun K hK=>?_
  go_simp
  refine Kz hK ?_
  clear hK K
  refine Wd ?_
  clear zy;go_wp2_with fail
  go_ret
  exact⟨_,rfl,HBN.out.1,HBN.out.2,⟨_,c,l,k+1,DX,HL.out,by omega⟩,ye⟩
 have ZG:(l.length:Int)≤k:=by omega
 go_wp2_with fail
 go_ret
 exact⟨0,rfl,by omega,hn,⟨A,c,l,k,tp,HL.out,hk⟩,vG (ym w _)⟩
def gc (W:World):Snap:=fun b=>W.heap[b]?
theorem dn (W:World) (a:Addr):(gc W).cell? a=W.cell? a:=rfl
theorem XK (W:World):Holds W (gc W):=fun _ _ h=>h
theorem Uu {W:World}(h:Lib.Utf8Tabs 0 1 W):Tabs (gc W):=fun _ hw =>
 ⟨fun c hc=>hw.cell (h.1 c hc),fun i hi=>⟨hw.cell (h.2 i hi).1,hw.cell (h.2 i hi).2⟩⟩
theorem Vn {n:Int}(h:(Lit.int .i64 n).wf=true) : -9223372036854775808≤n∧n≤9223372036854775807:=by
 exact jdt
theorem Se {n:Int}(h:(Lit.int .u8 n).wf=true):0≤n∧n<256:=by
 exact jdt
theorem RG {W:World}{a:Addr}{len cap:Nat}{zs:List Int}(hl:len≤cap) (hm:cap≤maxLen) (hz:len≤zs.length)
  (hc:∀ i,i<zs.length→W.cell? (a.add i)=some (.int .i64 (zs.getD i 0))) (wf:∀ n∈zs,(Lit.int .i64 n).wf=true):IsInts (gc W) (some a) cap (zs.take len)∧(zs.take len).length=len:=by
 have wn:(zs.take len).length=len:=by rw[List.length_take];omega
 refine⟨⟨by rw[wn];exact hl,by simpa [maxLen] using hm,fun vl=>?_,fun x hx=>Vn (wf x (List.mem_of_mem_take hx))⟩,wn⟩
 have h0:0<len:=by
  rcases Nat.eq_zero_or_pos len with h | h
  ·subst h;simp at vl
  exact h
 obtain⟨b,off,rfl,xP⟩:=ints_at hc (by omega)
 refine⟨b,off,rfl,fun j v hj=>?_⟩
 rw[List.getElem?_map]at hj;obtain⟨x,hx,rfl⟩:=Option.map_eq_some_iff.1 hj;have gI:=(List.getElem?_eq_some_iff.1 hx).1;rw[wn]at gI;rw[dn,xP j (by omega)];rw[List.getElem?_take,if_pos gI]at hx
 simp[List.getD,hx]
def sX (zs:List Int):List UInt8:=zs.map fun n=>u8 n.toNat
theorem UY {W:World}{a:Addr}{len cap:Nat}{zs:List Int}(hl:len≤cap) (hm:cap≤maxLen) (hz:len≤zs.length)
  (hc:∀ i,i<zs.length→W.cell? (a.add i)=some (.int .u8 (zs.getD i 0))) (wf:∀ n∈zs,(Lit.int .u8 n).wf=true):IsBytes (gc W) (some a) cap (sX (zs.take len))∧(sX (zs.take len)).length=len:=by
 have wn:(sX (zs.take len)).length=len:=by rw[sX,List.length_map,List.length_take];omega
 refine⟨⟨by rw[wn];exact hl,by simpa [maxLen] using hm,fun vl=>?_⟩,wn⟩
 have h0:0<len:=by
  rcases Nat.eq_zero_or_pos len with h | h
  ·subst h;simp[sX]at vl
  exact h
 obtain⟨b,off,rfl,xP⟩:=ints_at hc (by omega)
 refine⟨b,off,rfl,fun j v hj=>?_⟩
 rw[sX,List.map_map,List.getElem?_map]at hj;obtain⟨x,hx,rfl⟩:=Option.map_eq_some_iff.1 hj;rw[List.getElem?_take]at hx
 split at hx
 ·rename_i gI
  have hb:=Se (wf x (List.mem_of_getElem? hx));rw[dn,xP j (by omega)]
  simp[List.getD,hx,zm,xg]
  omega
 cases hx
end Go.Proofs.YtliomcphdnppnaaGreatDoor
namespace Go.Proofs.YtliomcphdnppnaaGreatDoor
open Go.RowKit Go.Shelf
def GI:Go.Shelf.Ren:=⟨fun | 196=>49 | 259=>92 | n=>n,
 fun | 0=>0 | 3=>3 | 4=>4 | 5=>5 | 9=>9 | 12=>12 | 46=>62 | 53=>22 | 119=>115 | 138=>117 | 139=>118 | n=>n,
 fun | 3=>0 | 4=>1 | n=>n⟩
theorem L6:Lays.n196 Tryz.prog GI where
 mixed:=by kernel_rfl
 f196:=Tryz.func49.trans (congrArg some (by kernel_rfl))
 f259:=Tryz.func92.trans (congrArg some (by kernel_rfl))
 t0:=Tryz.underlying0
 a0:=Tryz.isAgg0
 z0:=Tryz.sizeOf0
 v0:=Tryz.zeroValue0
 t3:=Tryz.underlying3
 a3:=Tryz.isAgg3
 z3:=Tryz.sizeOf3
 v3:=Tryz.zeroValue3
 t4:=Tryz.underlying4
 a4:=Tryz.isAgg4
 z4:=Tryz.sizeOf4
 v4:=Tryz.zeroValue4
 t5:=Tryz.underlying5
 a5:=Tryz.isAgg5
 z5:=Tryz.sizeOf5
 v5:=Tryz.zeroValue5
 t9:=Tryz.underlying9
 a9:=Tryz.isAgg9
 z9:=Tryz.sizeOf9
 v9:=Tryz.zeroValue9
 t12:=Tryz.underlying12
 a12:=Tryz.isAgg12
 z12:=Tryz.sizeOf12
 v12:=Tryz.zeroValue12
 t46:=Tryz.underlying62
 a46:=Tryz.isAgg62
 z46:=Tryz.sizeOf62
 v46:=Tryz.zeroValue62
 t53:=Tryz.underlying22
 a53:=Tryz.isAgg22
 z53:=Tryz.sizeOf22
 v53:=Tryz.zeroValue22
 t119:=Tryz.underlying115
 a119:=Tryz.isAgg115
 z119:=Tryz.sizeOf115
 t138:=Tryz.underlying117
 a138:=Tryz.isAgg117
 z138:=Tryz.sizeOf117
 v138:=Tryz.zeroValue117
 t139:=Tryz.underlying118
 a139:=Tryz.isAgg118
 z139:=Tryz.sizeOf118
 v139:=Tryz.zeroValue118
 g3:=by kernel_rfl
 g4:=by kernel_rfl
theorem utf8_ValidString {H:Snap}(hT:Tabs H) (w:World) (hH:Holds w H) (s:ByteArray) (hs:s.size≤9223372036854775807) :
  Calls Tryz.prog 49 #[.string s] w fun e w'=>e=.returned (.bool (Lib.validD s.data.toList))∧Below w.heap.size w w' :=
 Any.utf8_ValidString L6 s w hs (hT w hH)
end Go.Proofs.YtliomcphdnppnaaGreatDoor
