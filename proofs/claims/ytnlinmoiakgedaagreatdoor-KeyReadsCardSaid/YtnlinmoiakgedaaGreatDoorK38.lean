/- squeezed. Walks: the deck's bytes, as a row  -/
import Derived.Test.YtnlinmoiakgedaaGreatDoorK37
import Derived.Maps.Own
import Derived.MapKept
set_option linter.unusedVariables false
set_option linter.unusedSimpArgs false
set_option maxRecDepth 100000
set_option maxHeartbeats 25600000
namespace Go.Proofs.YtnlinmoiakgedaaGreatDoor
open Go.RowKit
theorem eu {H:Snap}{g:Nat}(w:World) (hD:DeckIn w g H) (n:Int) (hn:0≤n) (tb:n≤1048576) :
  Calls Tryz.prog 24 #[.pointer (some ⟨g,0,none⟩),.int .i64 n] w fun e w' =>
∃ A c n' l,e=.returned (.slice A n' c)∧n'=l.length∧(l.length:Int)≤n∧OwnB w' w.heap.size (.slice A n' c) l∧(∀ q,(Value.slice A n' c).ownBlock=some q→H q=none)∧Dealt w H w' H g:=by
 have NX:=Hh (yX w hD (n+1) (by omega) (by omega));have K0:IntKind.i64.wrap (n+1)=n+1:=IntWalk.i64_in _ (by omega);have zC:=hD.deck.lt;have HN:=Hh (And.intro hn tb);have HD:=Hh hD;clear hn tb hD;go_enter Tryz.func24,Tryz.ntmps24
 go_wp2_with fail
 refine NX.out.mono ?_
 rintro e w1 ⟨r,rfl,hr,us⟩
 have pW:=OwnB.nil w1 w.heap.size;go_wp2_with fail
 go_loopw [5,6] (fun v5 v6 wr=>∃ (k:Nat) (VA:Option Addr) (vc vn:Nat) (l:List UInt8),v6=.int .i64 (k:Int)∧v5=.slice VA vn vc∧OwnB wr w.heap.size (.slice VA vn vc) l∧vn=l.length∧(l.length:Int)+k≤n∧Dealt w H wr H g∧(∀ q,(Value.slice VA vn vc).ownBlock=some q→H q=none)) (fun _ v6 _=>(intOf v6).toNat)
 case atStart=>exact⟨r,_,_,_,_,rfl,rfl,pW,rfl,by simp;omega,us,by intro q hq;simp[Value.ownBlock]at hq⟩
 case round =>
  obtain⟨k,VA,vc,vn,l,rfl,rfl,ww,lW,rI,vy,tn⟩:=hrel;have HV:=Hh lW;have bz:=Hh rI;clear lW rI
  by_cases yi:(0:Int)<(k:Int)
  ·have NX:=Hh (yX wr vy.deck 256 (by omega) (by omega));go_wp2_with fail
   refine NX.out.mono ?_
   rintro e w2 ⟨q,rfl,hq,yv⟩
   have hd:=vy.trans yv;have rl:=ww.dealt yv zC;have K1:IntKind.u8.wrap (q:Int)=(q:Int):=IntWalk.u8_in _ (by omega);have lL:=rl.alloc (.cells #[.int .u8 (q:Int)] 5);have yF:=hd.alloc (.cells #[.int .u8 (q:Int)] 5)
   have HC:Hid ((#[.int .u8 (q:Int)]:Array Value).toList=[u8 q].map zD):=by
    simp only[Hid,List.map_cons,List.map_nil,xA]
    congr 2
    omega
   have tG:(-9223372036854775808:Int)≤(k:Int)-1∧(k:Int)-1≤9223372036854775807:=by have:=bz.out;have:=HN.out;omega
   clear hq NX vy ww yv rl hd;go_wp2_with (at_builtin;refine ye ?_)
   unfold yE
   obtain rfl:=HV.out
   refine zO rfl (.tmp 15) (.tmp 19) rfl w.heap.size (.slice VA l.length vc) _ rfl lL _ 1 _ [u8 q] rfl rfl (Src.new _ _ _ _ rfl _ HC.out) (by have:=bz.out;have:=HN.out;simp;omega) yF.size fun v' w7 xK hg7 hat7=>?_
   obtain⟨VA',vc',rfl,_⟩:=xK.form;have yG:=yF.grownRow tn (fun q hq=>(lL.lt q hq).1) zC hg7
   have sa:∀ q',(Value.slice VA' (l++[u8 q]).length vc').ownBlock=some q'→H q'=none:=fun q' nJ=>by
    rcases hat7 with h | ⟨g',h1,h2⟩
    ·exact tn q' (by rw[← h,nJ])
    ·rw[nJ]at h1;injection h1 with h1
     subst h1
     exact yF.holds.none_of_ge h2
   have iY:(l++[u8 q]).length=l.length+1:=by simp
   rw[iY]at xK sa;rw[iY];clear iY;have sE:IntKind.i64.wrap ((k:Int)-1)=(k:Int)-1:=IntWalk.i64_in _ tG;clear lL hg7 hat7 yF tG;go_wp2_with fail
   go_roundw
   case rel=>exact⟨k-1,VA',vc',_,_,by rw[show((k-1:Nat):Int)=(k:Int)-1 by omega],rfl,xK,by simp,by have:=bz.out;simp;omega,yG,sa⟩
   case measure=>simp[intOf];omega
  ·go_wp2_with fail
   go_ret
   exact⟨VA,vc,vn,rfl,l,HV.out,by have:=bz.out;omega,ww,tn,vy⟩
abbrev vp:Array Value:=#[.int .i64 0,.int .i64 0,.int .i64 0,.slice none 0 0,.slice none 0 0,.slice none 0 0,.slice none 0 0]
theorem zM:(Tryz.prog.info? 33).map (·.size)=some 7:=by kernel_rfl
theorem tm (a b c d e f g:Value) (ha:a.oneCell'=true) (hb:b.oneCell'=true) (hc:c.oneCell'=true) (hd:d.oneCell'=true) (he:e.oneCell'=true) (hf:f.oneCell'=true) (hg:g.oneCell'=true) :
  (#[a,b,c,d,e,f,g]:Array Value).all (·.oneCell')=true:=by simp[ha,hb,hc,hd,he,hf,hg]
def MF:Value→Bool
 | .int .i64 n=>decide (-65536≤n)&&decide (n≤65535)
 | _=>false
def kr:Value→Bool
 | .int .i64 n=>decide (n=4)||decide (n=6)
 | _=>false
theorem sF {v:Value}(h:kr v=true):∃ n,v=.int .i64 n∧(n=4∨n=6):=by
 unfold kr at h
 split at h
 ·rw[Bool.or_eq_true,decide_eq_true_eq,decide_eq_true_eq]at h
  exact⟨_,rfl,h⟩
 ·cases h
structure KM (W0:World) (H:Snap) (g R K:Nat) (kc:Array Value) (w:World) (Hr:Snap):Prop where
 dealt:Dealt W0 H w Hr g
 res:Blk w R 33 vp
 key:Blk w K 33 kc
 hR:Hr R=none
 hK:Hr K=none
 neRK:R≠K
 gW:g<W0.heap.size
 wR:W0.heap.size≤R
 wK:W0.heap.size≤K
section
variable {W0 w w':World} {H Hr Hs:Snap} {g R K:Nat} {kc kc':Array Value}
theorem KM.step (h:KM W0 H g R K kc w Hr) (hd:Dealt w Hr w' Hs g):KM W0 H g R K kc w' Hs :=
 ⟨h.dealt.trans hd,h.res.dealt hd (by have:=h.gW;have:=h.wR;omega),h.key.dealt hd (by have:=h.gW;have:=h.wK;omega),hd.hid h.hR h.res.lt,hd.hid h.hK h.key.lt,h.neRK,h.gW,h.wR,h.wK⟩
theorem KM.grow (h:KM W0 H g R K kc w Hr) (k:Grows w Hr w' Hs):KM W0 H g R K kc w' Hs:=h.step (h.dealt.deck.grows k)
theorem KM.alloc (h:KM W0 H g R K kc w Hr) (o:Obj):KM W0 H g R K kc (w.alloc o) Hr:=h.grow ((Grows.refl h.dealt.holds).alloc o)
theorem KM.drew (h:KM W0 H g R K kc w Hr):KM W0 H g R K kc w.drew Hr:=h.grow ((Grows.refl h.dealt.holds).drew)
theorem KM.set (h:KM W0 H g R K kc w Hr) (hB:Blk w' K 33 kc') (hg:w.grownBy w' (some K)):KM W0 H g R K kc' w' Hr :=
 ⟨h.dealt.grownRow (by rintro q ⟨⟩;exact h.hK) (by rintro q ⟨⟩;exact h.wK) h.gW hg,h.res.grown hg (fun e=>by injection e with e;exact h.neRK e.symm),hB,h.hR,h.hK,h.neRK,h.gW,h.wR,h.wK⟩
theorem KM.row {row:Option Nat}(h:KM W0 H g R K kc w Hr) (h0:∀ q,row=some q→Hr q=none∧W0.heap.size≤q∧q≠R∧q≠K) (hg:w.grownBy w' row):KM W0 H g R K kc w' Hr :=
 ⟨h.dealt.grownRow (fun q e=>(h0 q e).1) (fun q e=>(h0 q e).2.1) h.gW hg,h.res.grown hg (fun e=>(h0 _ e).2.2.1 rfl),h.key.grown hg (fun e=>(h0 _ e).2.2.2 rfl),h.hR,h.hK,h.neRK,h.gW,h.wR,h.wK⟩
theorem KM.lit (h:KM W0 H g R K kc w Hr) (cs:Array Value) (t:TypeId):Blk (w.alloc (.cells cs t)) w.heap.size t cs∧w.heap.size≠g∧w.heap.size≠K :=
 ⟨Blk.new _ _ _,by have:=h.gW;have:=h.dealt.size;omega,by have:=h.key.lt;omega⟩
theorem KM.snapB {A:Option Addr}{m c B:Nat}{l:List UInt8}(h:KM W0 H g R K kc w Hr) (hO:OwnB w B (.slice A m c) l) (hn:∀ q,(Value.slice A m c).ownBlock=some q→Hr q=none∧W0.heap.size≤q∧q≠R∧q≠K) :
  ∃ H',KM W0 H g R K kc w H'∧Hr.le H'∧IsBytes H' A c l∧m=l.length:=by
 have cG:∀ q,A.map (·.block)=some q→(Value.slice A m c).ownBlock=some q:=fun q hq=>by cases A <;> simp_all [Value.ownBlock]
 obtain⟨H',hl,hh,hf,hm,hb⟩:=hO.snap h.dealt.holds (fun q hq=>(hn q (cG q hq)).1)
 have lr:∀ b,Hr b=none→(∀ q,(Value.slice A m c).ownBlock=some q→q≠b)→H' b=none:=fun b hb wd=>by
  cases hx:H' b with
  | none=>rfl
  | some o =>
   rcases hf b o hx with h1 | h1
   ·rw[hb]at h1;cases h1
   ·exact absurd rfl (wd b (cG b h1))
 refine⟨H',⟨⟨⟨h.dealt.grows.grown,h.dealt.le.trans hl,hh,fun b o hb=>?_⟩,⟨h.dealt.deck.deck.mono hl,hh,lr _ h.dealt.deck.apart (fun q hq e=>by have:=(hn q hq).2.1;have:=h.gW;omega)⟩⟩,h.res,h.key,lr _ h.hR (fun q hq=>(hn q hq).2.2.1),lr _ h.hK (fun q hq=>(hn q hq).2.2.2),h.neRK,h.gW,h.wR,h.wK⟩,hl,hb,hm⟩
 rcases hf b o hb with h1 | h1
 ·exact h.dealt.grows.fresh b o h1
 ·exact .inr (hn b (cG b h1)).2.1
end
def Vk (w:World) (H:Snap) (g:Nat) (e:Ending) (w':World):Prop:=∃ q a H',e=.returned (.agg (xU q a))∧Dealt w H w' H' g∧KeyA H' q a∧xF q=true
theorem ah {g:Int}{kid k:List UInt8}(hg : -65536≤g∧g≤65535) (hi:kid.length≤16) (h1:1≤k.length) (h2:k.length≤64):xF ⟨4,0,g,kid,[],[],k⟩=true :=
 (uY _).2 ⟨hi,hg.1,hg.2,.inr ⟨rfl,rfl,rfl,h1,h2⟩⟩
theorem mu {v g:Int}{kid x d:List UInt8}(hv:v=4∨v=6) (hg : -65536≤g∧g≤65535) (hi:kid.length≤16) (hx:x.length=0∨x.length=32) (hd:d.length=0∨d.length=32) (h0:0<x.length+d.length):xF ⟨1,v,g,kid,x,d,[]⟩=true :=
 (uY _).2 ⟨hi,hg.1,hg.2,.inl ⟨rfl,hv,hx,hd,h0,rfl⟩⟩
theorem Xn {H:Snap}{g:Nat}(w:World) (hD:DeckIn w g H) :
  Calls Tryz.prog 7 #[.pointer (some ⟨g,0,none⟩)] w (Vk w H g):=by
 have zC:=hD.deck.lt;have us:=(Dealt.refl hD).alloc (.cells vp 33);have Pe:=Blk.new w 33 vp;have eG:H w.heap.size=none:=hD.holds.none_of_ge (Nat.le_refl _);have eA:=Hh zC;clear hD;go_enter Tryz.func7,Tryz.ntmps7
 go_wp2_with fail
 refine(kZ _ us.deck 4 (by omega) (by omega)).mono ?_
 rintro e w2 ⟨A2,c2,l2,rfl,rX,H2,wg,yv⟩
 have NF:=Pe.dealt yv (by omega);have gI:=yv.hid eG Pe.lt;have Ux:=us.trans yv;have hB:=Blk.new w2 3 #[.int .i64 0,.int .i64 0,.int .i64 10,.int .i64 (-8),.int .i64 5];have yF:=Ux.alloc (.cells #[.int .i64 0,.int .i64 0,.int .i64 10,.int .i64 (-8),.int .i64 5] 3);have QY:=NF.alloc (.cells #[.int .i64 0,.int .i64 0,.int .i64 10,.int .i64 (-8),.int .i64 5] 3);have oe:g≠w2.heap.size:=by have:=Ux.size;omega
 clear us yv Pe NF eG Ux zC;have lj:=Hh rX;obtain⟨n2,tb⟩:∃ n2,l2.length=n2:=⟨_,rfl⟩
 have Uj:=Hh tb;rw[tb];clear rX tb;go_wp2_with fail
 refine(yX _ yF.deck 5 (by omega) (by omega)).mono ?_
 rintro e w4 ⟨j,rfl,hj,xR⟩
 have pV:=hB.dealt xR (Ne.symm oe);obtain⟨v,hc,hP⟩:=pV.pick Yx (by kernel_rfl) j (by simp;omega);obtain⟨alg,rfl,OM⟩:=cq hP;have iU:=wg.mono xR.le
 have xu:KM w H g w.heap.size w4.heap.size (wX 0 0 alg A2 n2 c2 none 0 0 none 0 0 none 0 0) (w4.alloc (.cells (wX 0 0 alg A2 n2 c2 none 0 0 none 0 0 none 0 0) 33)) _ :=
  ⟨(yF.trans xR).alloc _,(QY.dealt xR (by have:=eA.out;omega)).alloc _,Blk.new _ _ _,xR.hid gI QY.lt,xR.holds.none_of_ge (Nat.le_refl _),by have:=(QY.dealt xR (by have:=eA.out;omega)).lt;omega,eA.out,Nat.le_refl _,(yF.trans xR).size⟩
 have gH:=Hh (show -65536≤alg∧alg≤65535 by omega);obtain⟨Kb,PX⟩:∃ Kb,w4.heap.size=Kb:=⟨_,rfl⟩
 obtain⟨w5,QC⟩:∃ w5,w4.alloc (.cells (wX 0 0 alg A2 n2 c2 none 0 0 none 0 0 none 0 0) 33)=w5:=⟨_,rfl⟩
 have Mi:=Hh (show w4.alloc (.cells #[.int .i64 0,.int .i64 0,.int .i64 alg,.slice A2 n2 c2,.slice none 0 0,.slice none 0 0,.slice none 0 0] 33)=w5 from QC);rw[QC,PX]at xu;have Zh:=Hh PX;have ma:=Hh iU;clear hB pV hP yF xR OM QY gI oe wg QC PX iU;go_upto_region 2 with fail
 rw[Mi.out]
 try rw[Zh.out]
 clear hc Mi Zh hj;go_wp2_with fail
 refine(yX _ xu.dealt.deck 3 (by omega) (by omega)).mono ?_
 rintro e w6 ⟨r,rfl,hr,zA⟩
 replace xu:=xu.step zA;replace ma:=Hh (ma.out.mono zA.le);clear zA
 by_cases h0:r=0
 ·subst h0;clear hr;go_wp2_with fail
  refine(eu _ xu.dealt.deck 20 (by omega) (by omega)).mono ?_
  rintro e w7 ⟨A7,c7,n7,l7,rfl,sa,XE,xK,S0,yG⟩
  have Qj:w.heap.size<w6.heap.size∧Kb<w6.heap.size:=⟨xu.res.lt,xu.key.lt⟩
  have O6:w.heap.size≤w6.heap.size:=xu.dealt.size;replace xu:=xu.step yG;have S3:∀ q,(Value.slice A7 n7 c7).ownBlock=some q→H2 q=none∧(w.heap.size≤q∧q≠w.heap.size∧q≠Kb):=fun q hq=>And.intro (S0 q hq) (show w.heap.size≤q∧q≠w.heap.size∧q≠Kb by have:=(xK.lt q hq).1;omega)
  have qE:=Hh (And.intro Qj (And.intro O6 (And.intro XE sa)));replace xu:=xu.alloc (.cells #[.int .u8 7] 5);have MY:=Hh (xK.alloc (.cells #[.int .u8 7] 5));have VS:=Hh S3;have hZ:Src (w7.alloc (.cells #[.int .u8 7] 5)) (some ⟨w7.heap.size,0,none⟩) ([7].map zD):=Src.new _ _ _ _ rfl _ rfl;have HZ:=Hh hZ;have MN:=Hh xu.dealt.holds;have Ms:Hid (w6.heap.size≤w7.heap.size):=yG.size;clear Qj O6 XE sa xK S0 S3 yG hZ;go_wp2_with (at_builtin;refine ye ?_)
  refine zO rfl _ _ rfl w6.heap.size (.slice A7 n7 c7) l7 rfl MY.out _ 1 _ [7] rfl rfl HZ.out (by have:=qE.out;simp;omega) (by have:=Ms.out;simp;omega) fun v9 w9 rD hg9 ha9=>?_
  replace xu:=xu.row (fun q hq=>VS.out q hq) hg9;obtain⟨A9,c9,rfl,_⟩:=rD.form
  have Wk:∀ q,(Value.slice A9 (l7++[7]).length c9).ownBlock=some q→H2 q=none∧(w.heap.size≤q∧q≠w.heap.size∧q≠Kb):=fun q hq=>And.intro (ha9.elim (fun e=>(VS.out q (by rw[← e];exact hq)).1) (fun⟨g',e,hs⟩=>by
   rw[hq]at e;injection e with e
   subst e
   exact MN.out.none_of_ge hs)) (show w.heap.size≤q∧q≠w.heap.size∧q≠Kb by have:=(rD.lt q hq).1;have:=qE.out;omega)
  obtain⟨l9,iY⟩:∃ l9,l7++[7]=l9:=⟨_,rfl⟩
  have MS:=Hh (show 1≤l9.length∧l9.length≤64 by have:=qE.out;rw[← iY];simp;omega);rw[iY]at rD Wk⊢;obtain⟨n9,V5⟩:∃ n9,l9.length=n9:=⟨_,rfl⟩
  rw[V5]at rD Wk⊢;have L4:=Hh V5;have WS:=Hh Wk;clear iY V5 Wk hg9 ha9 MY VS HZ Ms qE MN;go_wp2_with (with_reducible refine zx ?_)
  refine zu rfl _ _ _ rfl rfl Kb 0 (.int .i64 4) rfl rfl _ _ xu.key (by kernel_rfl) (by simp) rfl fun wa hBa nH=>?_
  replace xu:=xu.set (kc':=wX 4 0 alg A2 n2 c2 none 0 0 none 0 0 none 0 0) hBa nH;have N9:=rD.kept nH (.inr (fun e=>by have:=(WS.out _ e).2;exact this.2.2 rfl));clear rD hBa nH;go_wp2_with (with_reducible refine zx ?_)
  refine zu rfl _ _ _ rfl rfl Kb 6 (.slice A9 n9 c9) rfl rfl _ _ xu.key (by kernel_rfl) (by simp) rfl fun wb hBb eJ=>?_
  replace xu:=xu.set (kc':=wX 4 0 alg A2 n2 c2 none 0 0 none 0 0 A9 n9 c9) hBb eJ;have NC:=N9.kept eJ (.inr (fun e=>by have:=(WS.out _ e).2;exact this.2.2 rfl));obtain⟨H9,RN,Wi,XS,Lt⟩:=xu.snapB NC WS.out;replace xu:=RN;replace ma:=Hh (ma.out.mono Wi);have Kt:=Hh XS;clear hBb eJ N9 NC WS RN Wi XS Lt;have c0:=xu.key.cell 0 rfl;have c1:=xu.key.cell 1 rfl;have c2:=xu.key.cell 2 rfl;have c3:=xu.key.cell 3 rfl;have c4:=xu.key.cell 4 rfl;have c5:=xu.key.cell 5 rfl;have c6:=xu.key.cell 6 rfl;have n4:=Hh xu;have sf:=xu.res;clear xu;go_wp2_with (with_reducible refine zx ?_)
  refine zc rfl _ _ _ rfl rfl _ _ rfl rfl _ _ sf zM rfl (tm _ _ _ _ _ _ _ rfl rfl rfl rfl rfl rfl rfl) fun wz hRz zU=>?_
  have zP:=n4.out.dealt.grownRow (row:=some w.heap.size) (by rintro q ⟨⟩;exact n4.out.hR) (by rintro q ⟨⟩;exact n4.out.wR) n4.out.gW zU;clear n4 sf zU c0 c1 c2 c3 c4 c5 c6;go_wp2_with fail
  refine yN rfl rfl hRz rfl rfl zM rfl ?_
  obtain rfl:=Uj.out;obtain rfl:=L4.out
  exact⟨⟨4,0,alg,l2,[],[],l9⟩,⟨A2,c2,none,0,none,0,A9,c9⟩,_,rfl,zP,⟨by dsimp only;omega,by dsimp only;omega,by have:=gH.out;dsimp only;omega,ma.out,IsBytes.nil _,IsBytes.nil _,Kt.out⟩,ah gH.out (by have:=lj.out;omega) MS.out.1 MS.out.2⟩
 ·have cH:((r:Int)==0)=false:=by rw[beq_eq_false_iff_ne];omega
  have Q6:((r:Int)=0)=False:=eq_false (by omega);clear hr h0;go_upto_region 5 with fail
  go_cut [5] (fun s5 wx=>∃ v,(v=4∨v=6)∧KM w H g w.heap.size Kb (wX 1 v alg A2 n2 c2 none 0 0 none 0 0 none 0 0) wx H2)
  case first =>
   replace xu:=xu.drew
   refine yt 8 (fun _=>True) (by kernel_rfl) (trivial) (fun zy=>?_)
   refine Zk 1 rfl zy ?_
   refine Zk 5 rfl zy ?_
   refine WaysZ.two (i:=0) (j:=2) rfl rfl (by kernel_rfl) (fun K hK=>?_) (fun K hK=>?_)
   ·go_simp
    have ux:=xu.lit #[.int .i64 4,.int .i64 6] 3
    try (simp only[yY]at ux)
    replace xu:=xu.alloc (.cells #[.int .i64 4,.int .i64 6] 3)
    refine hK.out _ _ (fun _=>?_) (fun zy=>?_)
    ·exact trivial
    clear hK K;have zy:=zy (by decide)
    try simp only[Act.put,zz1,zz2,zz3,zz4,zz5,zz6]
    refine Zo 2 rfl fun K hK=>?_
    go_simp
    refine(yX _ xu.dealt.deck 2 (by omega) (by omega)).mono ?_
    rintro e w7 ⟨j,rfl,hj,yG⟩
    replace xu:=xu.step yG
    try (replace ux:=And.intro (ux.1.dealt yG ux.2.1) ux.2)
    refine hK.out _ _ (fun _=>?_) (fun zy=>?_)
    ·exact trivial
    clear hK K;have zy:=zy (by decide)
    try simp only[Act.put,zz1,zz2,zz3,zz4,zz5,zz6]
    refine Zk 3 rfl zy ?_
    refine WaysZ.two (i:=4) (j:=6) rfl rfl (by kernel_rfl) (fun K hK=>?_) (fun K hK=>?_)
    ·obtain⟨v,hc,hP⟩:=ux.1.pick kr (by kernel_rfl) j (by simp;omega);obtain⟨v,rfl,hv⟩:=sF hP;go_simp
     refine hK.out _ _ (fun _=>?_) (fun zy=>?_)
     ·exact trivial
     clear hK K;have zy:=zy (by decide)
     try simp only[Act.put,zz1,zz2,zz3,zz4,zz5,zz6]
     refine Zo 6 rfl fun K hK=>?_
     rw[if_pos (by rfl)]
     refine ze _ _ _ rfl Kb 0 (.int .i64 1) rfl rfl _ _ xu.key (by kernel_rfl) (by simp) rfl fun wa hBa nH=>?_
     replace xu:=xu.set (kc':=wX 1 0 alg A2 n2 c2 none 0 0 none 0 0 none 0 0) hBa nH
     try (replace ux:=And.intro (ux.1.grown nH (fun e=>by injection e with e;exact ux.2.2 e.symm)) ux.2)
     refine hK.out _ _ (fun _=>?_) (fun zy=>?_)
     ·exact trivial
     clear hK K;have zy:=zy (by decide)
     try simp only[Act.put,zz1,zz2,zz3,zz4,zz5,zz6]
     refine Zk 7 rfl zy ?_
     refine Zo 8 rfl fun K hK=>?_
     rw[if_pos (by rfl)]
     refine ze _ _ _ rfl Kb 1 (.int .i64 v) rfl rfl _ _ xu.key (by kernel_rfl) (by simp) rfl fun wb hBb eJ=>?_
     replace xu:=xu.set (kc':=wX 1 v alg A2 n2 c2 none 0 0 none 0 0 none 0 0) hBb eJ
     refine hK.out _ _ (fun h=>absurd h (by decide)) (fun _=>?_)
     clear hK K
     try simp only[Act.put,zz1,zz2,zz3,zz4,zz5,zz6]
     refine WaysZ.done (by kernel_rfl) ?_
     go_wp2_with fail
     go_meet
     exact⟨v,hv,xu⟩
    ·rw[if_pos (by rfl)]
     refine ze _ _ _ rfl Kb 0 (.int .i64 1) rfl rfl _ _ xu.key (by kernel_rfl) (by simp) rfl fun wa hBa nH=>?_
     replace xu:=xu.set (kc':=wX 1 0 alg A2 n2 c2 none 0 0 none 0 0 none 0 0) hBa nH
     try (replace ux:=And.intro (ux.1.grown nH (fun e=>by injection e with e;exact ux.2.2 e.symm)) ux.2)
     refine hK.out _ _ (fun _=>?_) (fun zy=>?_)
     ·exact trivial
     clear hK K;have zy:=zy (by decide)
     try simp only[Act.put,zz1,zz2,zz3,zz4,zz5,zz6]
     refine Zo 4 rfl fun K hK=>?_
     obtain⟨v,hc,hP⟩:=ux.1.pick kr (by kernel_rfl) j (by simp;omega);obtain⟨v,rfl,hv⟩:=sF hP;go_simp
     refine hK.out _ _ (fun _=>?_) (fun zy=>?_)
     ·exact trivial
     clear hK K;have zy:=zy (by decide)
     try simp only[Act.put,zz1,zz2,zz3,zz4,zz5,zz6]
     refine Zk 7 rfl zy ?_
     refine Zo 8 rfl fun K hK=>?_
     rw[if_pos (by rfl)]
     refine ze _ _ _ rfl Kb 1 (.int .i64 v) rfl rfl _ _ xu.key (by kernel_rfl) (by simp) rfl fun wb hBb eJ=>?_
     replace xu:=xu.set (kc':=wX 1 v alg A2 n2 c2 none 0 0 none 0 0 none 0 0) hBb eJ
     refine hK.out _ _ (fun h=>absurd h (by decide)) (fun _=>?_)
     clear hK K
     try simp only[Act.put,zz1,zz2,zz3,zz4,zz5,zz6]
     refine WaysZ.done (by kernel_rfl) ?_
     go_wp2_with fail
     go_meet
     exact⟨v,hv,xu⟩
   ·go_simp
    refine(yX _ xu.dealt.deck 2 (by omega) (by omega)).mono ?_
    rintro e w7 ⟨j,rfl,hj,yG⟩
    replace xu:=xu.step yG
    try (replace ux:=And.intro (ux.1.dealt yG ux.2.1) ux.2)
    refine hK.out _ _ (fun _=>?_) (fun zy=>?_)
    ·exact trivial
    clear hK K;have zy:=zy (by decide)
    try simp only[Act.put,zz1,zz2,zz3,zz4,zz5,zz6]
    refine WaysZ.two (i:=0) (j:=6) rfl rfl (by kernel_rfl) (fun K hK=>?_) (fun K hK=>?_)
    ·go_simp
     have ux:=xu.lit #[.int .i64 4,.int .i64 6] 3
     try (simp only[yY]at ux)
     replace xu:=xu.alloc (.cells #[.int .i64 4,.int .i64 6] 3)
     refine hK.out _ _ (fun _=>?_) (fun zy=>?_)
     ·exact trivial
     clear hK K;have zy:=zy (by decide)
     try simp only[Act.put,zz1,zz2,zz3,zz4,zz5,zz6]
     refine Zk 3 rfl zy ?_
     refine WaysZ.two (i:=4) (j:=6) rfl rfl (by kernel_rfl) (fun K hK=>?_) (fun K hK=>?_)
     ·obtain⟨v,hc,hP⟩:=ux.1.pick kr (by kernel_rfl) j (by simp;omega);obtain⟨v,rfl,hv⟩:=sF hP;go_simp
      refine hK.out _ _ (fun _=>?_) (fun zy=>?_)
      ·exact trivial
      clear hK K;have zy:=zy (by decide)
      try simp only[Act.put,zz1,zz2,zz3,zz4,zz5,zz6]
      refine Zo 6 rfl fun K hK=>?_
      rw[if_pos (by rfl)]
      refine ze _ _ _ rfl Kb 0 (.int .i64 1) rfl rfl _ _ xu.key (by kernel_rfl) (by simp) rfl fun wa hBa nH=>?_
      replace xu:=xu.set (kc':=wX 1 0 alg A2 n2 c2 none 0 0 none 0 0 none 0 0) hBa nH
      try (replace ux:=And.intro (ux.1.grown nH (fun e=>by injection e with e;exact ux.2.2 e.symm)) ux.2)
      refine hK.out _ _ (fun _=>?_) (fun zy=>?_)
      ·exact trivial
      clear hK K;have zy:=zy (by decide)
      try simp only[Act.put,zz1,zz2,zz3,zz4,zz5,zz6]
      refine Zk 7 rfl zy ?_
      refine Zo 8 rfl fun K hK=>?_
      rw[if_pos (by rfl)]
      refine ze _ _ _ rfl Kb 1 (.int .i64 v) rfl rfl _ _ xu.key (by kernel_rfl) (by simp) rfl fun wb hBb eJ=>?_
      replace xu:=xu.set (kc':=wX 1 v alg A2 n2 c2 none 0 0 none 0 0 none 0 0) hBb eJ
      refine hK.out _ _ (fun h=>absurd h (by decide)) (fun _=>?_)
      clear hK K
      try simp only[Act.put,zz1,zz2,zz3,zz4,zz5,zz6]
      refine WaysZ.done (by kernel_rfl) ?_
      go_wp2_with fail
      go_meet
      exact⟨v,hv,xu⟩
     ·rw[if_pos (by rfl)]
      refine ze _ _ _ rfl Kb 0 (.int .i64 1) rfl rfl _ _ xu.key (by kernel_rfl) (by simp) rfl fun wa hBa nH=>?_
      replace xu:=xu.set (kc':=wX 1 0 alg A2 n2 c2 none 0 0 none 0 0 none 0 0) hBa nH
      try (replace ux:=And.intro (ux.1.grown nH (fun e=>by injection e with e;exact ux.2.2 e.symm)) ux.2)
      refine hK.out _ _ (fun _=>?_) (fun zy=>?_)
      ·exact trivial
      clear hK K;have zy:=zy (by decide)
      try simp only[Act.put,zz1,zz2,zz3,zz4,zz5,zz6]
      refine Zo 4 rfl fun K hK=>?_
      obtain⟨v,hc,hP⟩:=ux.1.pick kr (by kernel_rfl) j (by simp;omega);obtain⟨v,rfl,hv⟩:=sF hP;go_simp
      refine hK.out _ _ (fun _=>?_) (fun zy=>?_)
      ·exact trivial
      clear hK K;have zy:=zy (by decide)
      try simp only[Act.put,zz1,zz2,zz3,zz4,zz5,zz6]
      refine Zk 7 rfl zy ?_
      refine Zo 8 rfl fun K hK=>?_
      rw[if_pos (by rfl)]
      refine ze _ _ _ rfl Kb 1 (.int .i64 v) rfl rfl _ _ xu.key (by kernel_rfl) (by simp) rfl fun wb hBb eJ=>?_
      replace xu:=xu.set (kc':=wX 1 v alg A2 n2 c2 none 0 0 none 0 0 none 0 0) hBb eJ
      refine hK.out _ _ (fun h=>absurd h (by decide)) (fun _=>?_)
      clear hK K
      try simp only[Act.put,zz1,zz2,zz3,zz4,zz5,zz6]
      refine WaysZ.done (by kernel_rfl) ?_
      go_wp2_with fail
      go_meet
      exact⟨v,hv,xu⟩
    ·rw[if_pos (by rfl)]
     refine ze _ _ _ rfl Kb 0 (.int .i64 1) rfl rfl _ _ xu.key (by kernel_rfl) (by simp) rfl fun wa hBa nH=>?_
     replace xu:=xu.set (kc':=wX 1 0 alg A2 n2 c2 none 0 0 none 0 0 none 0 0) hBa nH
     try (replace ux:=And.intro (ux.1.grown nH (fun e=>by injection e with e;exact ux.2.2 e.symm)) ux.2)
     refine hK.out _ _ (fun _=>?_) (fun zy=>?_)
     ·exact trivial
     clear hK K;have zy:=zy (by decide)
     try simp only[Act.put,zz1,zz2,zz3,zz4,zz5,zz6]
     refine Zo 0 rfl fun K hK=>?_
     go_simp
     have ux:=xu.lit #[.int .i64 4,.int .i64 6] 3
     try (simp only[yY]at ux)
     replace xu:=xu.alloc (.cells #[.int .i64 4,.int .i64 6] 3)
     refine hK.out _ _ (fun _=>?_) (fun zy=>?_)
     ·exact trivial
     clear hK K;have zy:=zy (by decide)
     try simp only[Act.put,zz1,zz2,zz3,zz4,zz5,zz6]
     refine Zk 3 rfl zy ?_
     refine Zo 4 rfl fun K hK=>?_
     obtain⟨v,hc,hP⟩:=ux.1.pick kr (by kernel_rfl) j (by simp;omega);obtain⟨v,rfl,hv⟩:=sF hP;go_simp
     refine hK.out _ _ (fun _=>?_) (fun zy=>?_)
     ·exact trivial
     clear hK K;have zy:=zy (by decide)
     try simp only[Act.put,zz1,zz2,zz3,zz4,zz5,zz6]
     refine Zk 7 rfl zy ?_
     refine Zo 8 rfl fun K hK=>?_
     rw[if_pos (by rfl)]
     refine ze _ _ _ rfl Kb 1 (.int .i64 v) rfl rfl _ _ xu.key (by kernel_rfl) (by simp) rfl fun wb hBb eJ=>?_
     replace xu:=xu.set (kc':=wX 1 v alg A2 n2 c2 none 0 0 none 0 0 none 0 0) hBb eJ
     refine hK.out _ _ (fun h=>absurd h (by decide)) (fun _=>?_)
     clear hK K
     try simp only[Act.put,zz1,zz2,zz3,zz4,zz5,zz6]
     refine WaysZ.done (by kernel_rfl) ?_
     go_wp2_with fail
     go_meet
     exact⟨v,hv,xu⟩
  case rest =>
   clear xu;obtain⟨v,hv,xu⟩:=hcut;have HV:=Hh hv;clear hv;go_wp2_with fail
   refine(yX _ xu.dealt.deck 3 (by omega) (by omega)).mono ?_
   rintro e wq ⟨r2,rfl,Q7,Pp⟩
   replace xu:=xu.step Pp;replace ma:=Hh (ma.out.mono Pp.le);clear Pp
   rcases(by omega:r2=0∨r2=1∨r2=2) with rfl | rfl | rfl
   ·clear Q7;go_wp2_with fail
    refine(yX _ xu.dealt.deck 1073741824 (by omega) (by omega)).mono ?_
    rintro e wn1 ⟨j1,rfl,TW,lD⟩
    replace xu:=xu.step lD;replace ma:=Hh (ma.out.mono lD.le);clear TW lD;go_wp2_with fail
    refine(lf _ _).mono ?_
    rintro e ws1 ⟨AS1,cs1,ls1,rfl,gM,gL⟩
    obtain⟨Mc,kw,gK,uD⟩:=Fresh.snapB xu.dealt.holds gL;clear uD;replace xu:=xu.grow kw;replace ma:=Hh (ma.out.mono kw.le);have mF:=Hh (And.intro gK gM);clear gM gL kw gK;go_wp2_with (with_reducible refine zx ?_)
    refine zu rfl _ _ _ rfl rfl Kb 4 (.slice AS1 32 cs1) rfl rfl _ _ xu.key (by kernel_rfl) (by simp) rfl fun wt1 hBt hgt=>?_
    replace xu:=xu.set (kc':=wX 1 v alg A2 n2 c2 AS1 32 cs1 none 0 0 none 0 0) hBt hgt;clear hBt hgt;have c0:=xu.key.cell 0 rfl;have c1:=xu.key.cell 1 rfl;have c2:=xu.key.cell 2 rfl;have c3:=xu.key.cell 3 rfl;have c4:=xu.key.cell 4 rfl;have c5:=xu.key.cell 5 rfl;have c6:=xu.key.cell 6 rfl;have n4:=Hh xu;have sf:=xu.res;clear xu;go_wp2_with (with_reducible refine zx ?_)
    refine zc rfl _ _ _ rfl rfl _ _ rfl rfl _ _ sf zM rfl (tm _ _ _ _ _ _ _ rfl rfl rfl rfl rfl rfl rfl) fun wz hRz zU=>?_
    have zP:=n4.out.dealt.grownRow (row:=some w.heap.size) (by rintro q ⟨⟩;exact n4.out.hR) (by rintro q ⟨⟩;exact n4.out.wR) n4.out.gW zU;clear n4 sf zU c0 c1 c2 c3 c4 c5 c6;go_wp2_with fail
    refine yN rfl rfl hRz rfl rfl zM rfl ?_
    obtain rfl:=Uj.out;have sB:=mF.out.2
    exact⟨⟨1,v,alg,l2,ls1,[],[]⟩,⟨A2,c2,AS1,cs1,none,0,none,0⟩,_,by rw[xU];simp only[*];rfl,zP,⟨by dsimp only;omega,by have:=HV.out;dsimp only;omega,by have:=gH.out;dsimp only;omega,ma.out,mF.out.1,IsBytes.nil _,IsBytes.nil _⟩,mu HV.out gH.out (by have:=lj.out;omega) (.inr mF.out.2) (.inl rfl) (by have:=mF.out.2;simp;omega)⟩
   ·clear Q7;go_wp2_with fail
    refine(yX _ xu.dealt.deck 1073741824 (by omega) (by omega)).mono ?_
    rintro e wn1 ⟨j1,rfl,TW,lD⟩
    replace xu:=xu.step lD;replace ma:=Hh (ma.out.mono lD.le);clear TW lD;go_wp2_with fail
    refine(lf _ _).mono ?_
    rintro e ws1 ⟨AS1,cs1,ls1,rfl,gM,gL⟩
    obtain⟨Mc,kw,gK,uD⟩:=Fresh.snapB xu.dealt.holds gL;clear uD;replace xu:=xu.grow kw;replace ma:=Hh (ma.out.mono kw.le);have mF:=Hh (And.intro gK gM);clear gM gL kw gK;go_wp2_with (with_reducible refine zx ?_)
    refine zu rfl _ _ _ rfl rfl Kb 5 (.slice AS1 32 cs1) rfl rfl _ _ xu.key (by kernel_rfl) (by simp) rfl fun wt1 hBt hgt=>?_
    replace xu:=xu.set (kc':=wX 1 v alg A2 n2 c2 none 0 0 AS1 32 cs1 none 0 0) hBt hgt;clear hBt hgt;have c0:=xu.key.cell 0 rfl;have c1:=xu.key.cell 1 rfl;have c2:=xu.key.cell 2 rfl;have c3:=xu.key.cell 3 rfl;have c4:=xu.key.cell 4 rfl;have c5:=xu.key.cell 5 rfl;have c6:=xu.key.cell 6 rfl;have n4:=Hh xu;have sf:=xu.res;clear xu;go_wp2_with (with_reducible refine zx ?_)
    refine zc rfl _ _ _ rfl rfl _ _ rfl rfl _ _ sf zM rfl (tm _ _ _ _ _ _ _ rfl rfl rfl rfl rfl rfl rfl) fun wz hRz zU=>?_
    have zP:=n4.out.dealt.grownRow (row:=some w.heap.size) (by rintro q ⟨⟩;exact n4.out.hR) (by rintro q ⟨⟩;exact n4.out.wR) n4.out.gW zU;clear n4 sf zU c0 c1 c2 c3 c4 c5 c6;go_wp2_with fail
    refine yN rfl rfl hRz rfl rfl zM rfl ?_
    obtain rfl:=Uj.out;have sB:=mF.out.2
    exact⟨⟨1,v,alg,l2,[],ls1,[]⟩,⟨A2,c2,none,0,AS1,cs1,none,0⟩,_,by rw[xU];simp only[*];rfl,zP,⟨by dsimp only;omega,by have:=HV.out;dsimp only;omega,by have:=gH.out;dsimp only;omega,ma.out,IsBytes.nil _,mF.out.1,IsBytes.nil _⟩,mu HV.out gH.out (by have:=lj.out;omega) (.inl rfl) (.inr mF.out.2) (by have:=mF.out.2;simp;omega)⟩
   ·clear Q7;go_wp2_with fail
    refine(yX _ xu.dealt.deck 1073741824 (by omega) (by omega)).mono ?_
    rintro e wn1 ⟨j1,rfl,TW,lD⟩
    replace xu:=xu.step lD;replace ma:=Hh (ma.out.mono lD.le);clear TW lD;go_wp2_with fail
    refine(lf _ _).mono ?_
    rintro e ws1 ⟨AS1,cs1,ls1,rfl,gM,gL⟩
    obtain⟨Mc,kw,gK,uD⟩:=Fresh.snapB xu.dealt.holds gL;clear uD;replace xu:=xu.grow kw;replace ma:=Hh (ma.out.mono kw.le);have mF:=Hh (And.intro gK gM);clear gM gL kw gK;go_wp2_with fail
    refine(yX _ xu.dealt.deck 1073741824 (by omega) (by omega)).mono ?_
    rintro e wn2 ⟨j2,rfl,Lk,Wg⟩
    replace xu:=xu.step Wg;replace ma:=Hh (ma.out.mono Wg.le);replace mF:=Hh (And.intro (mF.out.1.mono Wg.le) mF.out.2);clear Lk Wg;go_wp2_with fail
    refine(lf _ _).mono ?_
    rintro e ws2 ⟨AS2,cs2,ls2,rfl,Rs,Ro⟩
    obtain⟨Jj,WZ,Ri,uD⟩:=Fresh.snapB xu.dealt.holds Ro;clear uD;replace xu:=xu.grow WZ;replace ma:=Hh (ma.out.mono WZ.le);replace mF:=Hh (And.intro (mF.out.1.mono WZ.le) mF.out.2);have VY:=Hh (And.intro Ri Rs);clear Rs Ro WZ Ri;go_wp2_with (with_reducible refine zx ?_)
    refine zu rfl _ _ _ rfl rfl Kb 4 (.slice AS1 32 cs1) rfl rfl _ _ xu.key (by kernel_rfl) (by simp) rfl fun wt1 hBt hgt=>?_
    replace xu:=xu.set (kc':=wX 1 v alg A2 n2 c2 AS1 32 cs1 none 0 0 none 0 0) hBt hgt;clear hBt hgt;go_wp2_with (with_reducible refine zx ?_)
    refine zu rfl _ _ _ rfl rfl Kb 5 (.slice AS2 32 cs2) rfl rfl _ _ xu.key (by kernel_rfl) (by simp) rfl fun wt2 hBt hgt=>?_
    replace xu:=xu.set (kc':=wX 1 v alg A2 n2 c2 AS1 32 cs1 AS2 32 cs2 none 0 0) hBt hgt;clear hBt hgt;have c0:=xu.key.cell 0 rfl;have c1:=xu.key.cell 1 rfl;have c2:=xu.key.cell 2 rfl;have c3:=xu.key.cell 3 rfl;have c4:=xu.key.cell 4 rfl;have c5:=xu.key.cell 5 rfl;have c6:=xu.key.cell 6 rfl;have n4:=Hh xu;have sf:=xu.res;clear xu;go_wp2_with (with_reducible refine zx ?_)
    refine zc rfl _ _ _ rfl rfl _ _ rfl rfl _ _ sf zM rfl (tm _ _ _ _ _ _ _ rfl rfl rfl rfl rfl rfl rfl) fun wz hRz zU=>?_
    have zP:=n4.out.dealt.grownRow (row:=some w.heap.size) (by rintro q ⟨⟩;exact n4.out.hR) (by rintro q ⟨⟩;exact n4.out.wR) n4.out.gW zU;clear n4 sf zU c0 c1 c2 c3 c4 c5 c6;go_wp2_with fail
    refine yN rfl rfl hRz rfl rfl zM rfl ?_
    obtain rfl:=Uj.out;have sB:=mF.out.2;have o4:=VY.out.2
    exact⟨⟨1,v,alg,l2,ls1,ls2,[]⟩,⟨A2,c2,AS1,cs1,AS2,cs2,none,0⟩,_,by rw[xU];simp only[*];rfl,zP,⟨by dsimp only;omega,by have:=HV.out;dsimp only;omega,by have:=gH.out;dsimp only;omega,ma.out,mF.out.1,VY.out.1,IsBytes.nil _⟩,mu HV.out gH.out (by have:=lj.out;omega) (.inr mF.out.2) (.inr VY.out.2) (by have:=mF.out.2;simp;omega)⟩
theorem jH {H:Snap}{q:Ky}{a:KAd}(hq:KeyA H q a) (hv:xF q=true) (h4:q.kty=4) (w:World) :
  Calls Tryz.prog 23 #[.agg (xU q a)] w fun e w'=>e=.returned (.tuple #[.agg vp,.int .i64 12])∧Below w.heap.size w w':=by
 have yM:=(Blk.new w 33 (xU q a)).alloc (.cells vp 33);have hT:=Blk.new (w.alloc (.cells (xU q a) 33)) 33 vp;rw[zV]at hT;have vg:=((zi w (.cells (xU q a) 33)).alloc (zi w (.cells (xU q a) 33)).size (.cells vp 33))
 have V:=Hh (fun W=>kC q.kty q.crv q.alg a.ia q.kid.length a.ic a.xa q.x.length a.xc a.da q.d.length a.dc a.ka q.k.length a.kc W hq.len.1 hq.len.2);have HV:=Hh hv;have c0:=yM.cell 0 rfl;have c1:=yM.cell 1 rfl;have c2:=yM.cell 2 rfl;have c3:=yM.cell 3 rfl;have c4:=yM.cell 4 rfl;have c5:=yM.cell 5 rfl;have c6:=yM.cell 6 rfl;have H4:=Hh h4;clear hq hv h4;go_enter Tryz.func23,Tryz.ntmps23
 go_wp2_with fail
 refine(V.out _).mono ?_
 rintro e w3 ⟨rfl,tl⟩
 rw[mr,HV.out];replace hT:=hT.below tl;replace yM:=yM.below tl;have yR:=vg.trans (tl.mono vg.size);clear vg tl V c0 c1 c2 c3 c4 c5 c6;have c0:w3.cell? ⟨w.heap.size,0,none⟩=some (.int .i64 4):=by rw[← H4.out];exact yM.cell 0 rfl
 clear yM;go_wp2_with (with_reducible refine zx ?_)
 refine zc rfl _ _ _ rfl rfl _ _ rfl rfl _ _ hT zM rfl (tm _ _ _ _ _ _ _ rfl rfl rfl rfl rfl rfl rfl) fun w9 ui hg9=>?_
 have XS:=yR.grown hg9 yR.size (by rintro k ⟨⟩;omega);go_wp2_with fail
 refine zv rfl rfl ui rfl rfl zM rfl ?_
 exact⟨rfl,XS⟩
theorem Src.grown_ {w':World}{A:Option Addr}{xs:List Value}{t:TypeId}{cs:Array Value}{w0:World}(h:Src (w0.alloc (.cells cs t)) A xs) (hg:(w0.alloc (.cells cs t)).grownBy w' (some w0.heap.size)) (h0:Src w0 A xs):Src w' A xs:=fun hx=>by
 obtain⟨b,off,e,hc⟩:=h hx;obtain⟨b',off',e',Uw⟩:=h0 hx;rw[e]at e'
 cases e'
 refine⟨b,off,e,fun j v hj=>?_⟩
 have hl:=World.block_lt_of_cell? w0 _ (Uw j v hj);have hb:=hg.block b (by simp;exact Nat.lt_succ_of_lt hl) (by intro e;injection e with e;subst e;exact Nat.lt_irrefl _ hl);rw[← hc j v hj]
 simp only[World.cell?,hb]
def qA:Ky:=⟨4,0,0,[0xaa],[],[],[1,2]⟩
def qB:Ky:=⟨4,0,0,[],[],[],[1]⟩
theorem Tz:zd (tu qA)=[0xa3,0x01,0x04,0x02,0x41,0xaa,0x20,0x42,0x01,0x02]:=by decide +kernel
theorem fo:xF qA=true:=by decide +kernel
theorem YA:xF qB=true:=by decide +kernel
theorem mO {H:Snap}(hTab:Tabs H) (w:World) (hH:Holds w H) :
  Calls Tryz.prog 5 #[] w fun e w'=>e=.returned (.bool true)∧Below w.heap.size w w':=by
 obtain⟨H1,ws,cE,vg⟩:=mj (Grows.refl hH) [1,2] #[.int .u8 1,.int .u8 2] 2 rfl (by simp) rfl;obtain⟨H2,yp,rX,wg⟩:=mj ws [0xaa] #[.int .u8 170] 1 rfl (by simp) rfl
 have Px:KeyA H2 qA ⟨some ⟨(w.alloc (.cells #[.int .u8 1,.int .u8 2] 5)).heap.size,0,none⟩,1,none,0,none,0,some ⟨w.heap.size,0,none⟩,2⟩ :=
  ⟨by simp[qA],by simp[qA],by simp[qA],wg,IsBytes.nil _,IsBytes.nil _,vg.mono rX⟩
 rw[zV]at Px;have EN:=Hh (d9 (hTab.mono yp.le) Px _ yp.holds);clear Px vg wg cE rX ws;have HT:=Hh hTab;have QH:=Hh yp;clear hTab hH yp;go_enter Tryz.func5,Tryz.ntmps5
 go_wp2_with fail
 refine EN.out.mono ?_
 rintro e w3 ⟨r3,l3,rfl,Qa,XD⟩
 rw[if_pos fo,Tz]at XD;subst XD;obtain⟨A3,c3,rfl,uD⟩:=Qa.own.form;clear uD;have yO:=QH.out.below_ Qa.2;have XG:=Qa.own.src;have Nb:vb qA=0:=by rw[vb,if_pos fo]
 rw[Nb];clear Nb EN QH Qa;obtain⟨H4,wH,Lm,iU⟩:=mj yO [1] #[.int .u8 1] 1 rfl (by simp) rfl
 have Nn:KeyA H4 qB ⟨none,0,none,0,none,0,some ⟨w3.heap.size,0,none⟩,1⟩ :=
  ⟨by simp[qB],by simp[qB],by simp[qB],IsBytes.nil _,IsBytes.nil _,IsBytes.nil _,iU⟩
 have PB:=Hh (jH Nn YA rfl (w3.alloc (.cells #[.int .u8 1] 5)));replace XG:=XG.alloc (.cells #[.int .u8 1] 5);have UN:=wH.below;clear yO wH Lm iU Nn;go_wp2_with fail
 refine PB.out.mono ?_
 rintro e w5 ⟨rfl,ow⟩
 replace XG:=XG.below ow;have wQ:=UN.trans (ow.mono UN.size);clear PB ow UN;go_wp2_with (with_reducible refine zx ?_)
 unfold yE
 have QV:=Blk.new w5 33 vp;have wj:=wQ.alloc wQ.size (.cells vp 33);have Xc:=XG.alloc (.cells vp 33)
 refine zc rfl _ _ _ rfl rfl _ _ rfl rfl _ _ QV zM rfl (tm _ _ _ _ _ _ _ rfl rfl rfl rfl rfl rfl rfl) fun w9 ui hg9=>?_
 have XS:=wj.grown hg9 wj.size (by rintro k ⟨⟩;exact wQ.size);have k1:=vl (Src.grown_ (w0:=w5) (t:=33) (cs:=vp) Xc hg9 XG) 10 c3 rfl;clear QV wj XG Xc ui hg9 wQ;go_wp2_with fail
 go_ret
 exact⟨rfl,XS⟩
theorem uV {P:Program}{ops:Array Oper}{Q:Exit→Act→World→Prop}{rest:List Oper}{a:Act}{w:World}{dst:Option Tmp}{ty:TypeId}{x y z:Operand}{T:TypeId}{pos:String}{af:Array Edge}{g:Option (Nat×Bool)}
  (h:yE (wpList P ops Q (⟨dst,.insert ty x y z,T,pos,af,g⟩::rest) a w)):wpList P ops Q (⟨dst,.insert ty x y z,T,pos,af,g⟩::rest) a w:=h
def ry (es:List (Int×Value)) (k:Int):Option Value:=(es.find? fun e=>k==e.1).map (·.2)
def lx:List (Int×Value)→Nat→List MapEntry
 | [],_=>[]
 | e::r,n=>⟨.int .i64 e.1,e.2,n⟩::lx r (n+1)
def MapIs (w:World) (b:Nat) (es:List (Int×Value)):Prop:=w.heap[b]? = some (.map (lx es 0).toArray es.length)
theorem ir:∀ (l:List (Int×Value)) (e:Int×Value) (n:Nat),lx (l++[e]) n=lx l n++[⟨.int .i64 e.1,e.2,n+l.length⟩]
 | [],e,n=>by simp[lx]
 | x::l,e,n=>by simp only[List.cons_append,lx,ir l e (n+1),List.length_cons];rw[show n+1+l.length=n+(l.length+1) by omega]
theorem pb (k:Int):∀ (l:List (Int×Value)) (n i:Nat),Instr.findNow (.int .i64) (.int .i64 k) (lx l n) i=some ((l.findIdx? fun e=>k==e.1).bind fun j=>(l[j]?).map fun e=>(i+j,e.2))
 | [],n,i=>by simp[lx,Instr.findNow]
 | e::l,n,i=>by
  rw[lx,Instr.findNow]
  simp only[Instr.sameNow,if_true]
  rw[List.findIdx?_cons]
  cases h:(k==e.1) with
  | true=>simp
  | false =>
   simp only[pb k l (n+1) (i+1),Bool.false_eq_true,if_false]
   cases List.findIdx? (fun e=>k==e.1) l with
   | none=>simp
   | some j =>
    simp only[Option.bind_some,Option.map_some,List.getElem?_cons_succ]
    congr 2
    funext e
    congr 1
    omega
theorem MapIs.lt {w:World}{b:Nat}{es:List (Int×Value)}(h:MapIs w b es):b<w.heap.size:=(Array.getElem?_eq_some_iff.1 h).1
theorem MapIs.below {w w':World}{b:Nat}{es:List (Int×Value)}(h:MapIs w b es) (hb:Below w.heap.size w w'):MapIs w' b es:=(hb.block b h.lt).trans h
theorem MapIs.alloc {w:World}{b:Nat}{es:List (Int×Value)}(h:MapIs w b es) (o:Obj):MapIs (w.alloc o) b es:=h.below (zi w o)
theorem MapIs.grown {w w':World}{b:Nat}{es:List (Int×Value)}{row:Option Nat}(h:MapIs w b es) (hb:w.grownBy w' row) (hg:row≠some b):MapIs w' b es:=(hb.block b h.lt (Ne.symm hg)).trans h
theorem MapIs.new (w:World):MapIs (w.alloc (.map #[] 0)) w.heap.size []:=heap_alloc_new w _
theorem aM (es:List (Int×Value)) (k:Int):((es.findIdx? fun e=>k==e.1).bind fun j=>es[j]?)=es.find? fun e=>k==e.1:=by
 induction es with
 | nil=>rfl
 | cons e l ih =>
  rw[List.findIdx?_cons,List.find?_cons]
  cases h:(k==e.1) with
  | true=>simp
  | false =>
   simp only[Bool.false_eq_true,if_false]
   rw[← ih]
   cases List.findIdx? (fun e=>k==e.1) l with
   | none=>rfl
   | some j=>simp
section
variable {P:Program} {w:World} {t kt et:TypeId} {b:Nat} {es:List (Int×Value)}
theorem dS (hu:P.underlying t=some (.map kt et)) (hk:P.underlying kt=some (.int .i64)) (hb:MapIs w b es) (k:Int) (v:Value) (wd:ry es k=none) :
  ∃ w',(Instr.mapUpdate t (.map (some b)) (.int .i64 k) v).run P w=.ok () w'∧MapIs w' b (es++[(k,v)])∧w.grownBy w' (some b):=by
 have h0:(es.findIdx? fun e=>k==e.1)=none:=by
  unfold ry at wd
  rw[Option.map_eq_none_iff]at wd;rw[List.findIdx?_eq_none_iff]
  intro x hx
  have:=List.find?_eq_none.1 wd x hx
  simpa using this
 have hf:Instr.findNow (.int .i64) (.int .i64 k) (lx es 0) 0=some none:=by rw[pb,h0];rfl
 refine⟨{ w with heap:=w.heap.setIfInBounds b (.map (lx es 0++[(⟨.int .i64 k,v,es.length⟩:MapEntry)]).toArray (es.length+1)) }, ?_, ?_,⟨rfl,rfl,rfl,by simp,fun i _ hi=>?_⟩⟩
 ·unfold Instr.mapUpdate
  have h1:=MapKept.run_checkKey (P:=P) (w:=w) hk (k:=.int .i64 k) (by simp[MapKept.IsKey]) false 9999;have h2:=MapKept.run_findKey (P:=P) (w:=w) hk hf;have h3:=MapKept.run_setObj_map (P:=P) (w:=w) (.map (lx es 0++[(⟨.int .i64 k,v,es.length⟩:MapEntry)]).toArray (es.length+1)) hb
  simp[Sem.run_bind,Result.andThen,run_underlying hu,MapKept.run_getObj_map hb,h1,h2,h3]
 ·have yi:=hb.lt
  unfold MapIs
  simp[yi,ir]
 ·simp[Array.getElem?_setIfInBounds]
  intro e
  exact absurd e.symm (by intro e;exact hi (by rw[e]))
theorem wn (hu:P.underlying t=some (.map kt et)) (hk:P.underlying kt=some (.int .i64)) (hb:MapIs w b es) {z:Value}(hz:(zeroValue et).run P w=.ok z w) (k:Int) :
  (Instr.lookup t (.map (some b)) (.int .i64 k) false).run P w=.ok ((ry es k).getD z) w:=by
 have hf:=pb k es 0 0
 unfold Instr.lookup
 have h1:=fun e=>MapKept.run_checkKey (P:=P) (w:=w) hk (k:=.int .i64 k) (by simp[MapKept.IsKey]) e 9999
 have hi:=aM es k;have hL:ry es k=(((es.findIdx? fun e=>k==e.1).bind fun j=>es[j]?)).map (·.2):=by rw[hi];rfl
 cases hx:(es.findIdx? fun e=>k==e.1) with
 | none =>
  rw[hx]at hf hL;have h2:=MapKept.run_findKey (P:=P) (w:=w) hk hf
  simp[Sem.run_bind,Result.andThen,run_underlying hu,MapKept.run_getObj_map hb,h1,h2,hz,hL]
 | some j =>
  rw[hx]at hf hL
  obtain⟨e,he⟩:∃ e,es[j]? = some e:=by
   have:=(List.findIdx?_eq_some_iff_getElem.1 hx).1
   exact⟨_,List.getElem?_eq_getElem this⟩
  simp only[Option.bind_some,he,Option.map_some]at hf hL
  have h2:=MapKept.run_findKey (P:=P) (w:=w) hk hf
  simp[Sem.run_bind,Result.andThen,run_underlying hu,MapKept.run_getObj_map hb,h1,h2,hL]
theorem vQ {ops:Array Oper}{rest:List Oper}{o:Oper}{a:Act}{Q:Exit→Act→World→Prop}(hgd:o.guard=none) (m x v:Operand) (ho:o.op=.insert t m x v)
  (hu:P.underlying t=some (.map kt et)) (hk:P.underlying kt=some (.int .i64)) (hb:MapIs w b es) (k:Int) (u:Value) (hm:a.eval m=.map (some b)) (hx:a.eval x=.int .i64 k) (hv:a.eval v=u) (wd:ry es k=none)
  (h:∀ w',MapIs w' b (es++[(k,u)])→w.grownBy w' (some b)→wpList P ops Q rest (a.put o.dst undef) w') :
  wpList P ops Q (o::rest) a w:=by
 refine wpList_plain hgd fun K' hK'=>?_
 obtain⟨w',ZN,r1,r2⟩:=dS hu hk hb k u wd
 unfold Oper.wp
 simp[execOp,ho,hm,hx,hv,ZN,Result.andThen]
 exact hK' _ _ (h w' r1 r2)
end
def nmP:Itm→Option Int
 | .mk k n _ _=>if 1048576<n then none else if k=0 then some (n:Int) else if k=1 then some (-1-(n:Int)) else none
def nmR:Itm→Int
 | .mk k n _ _=>if k=1 then -1-((min n 1048576:Nat):Int) else((min n 1048576:Nat):Int)
end Go.Proofs.YtnlinmoiakgedaaGreatDoor
