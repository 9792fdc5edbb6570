/- squeezed. Walks: the program's Prefix. Walks -/
import Derived.Test.YtgaoknihklmakabGreatDoorK10
set_option linter.unusedVariables false
set_option linter.unusedSimpArgs false
set_option maxRecDepth 100000
set_option maxHeartbeats 6400000
namespace Go.Proofs.YtgaoknihklmakabGreatDoor
open Go.RowKit
theorem jac{P:Prop}(h:P:=by
 go_wp2_with fail
 have qV:w.heap.size<(w.alloc zg).heap.size:=vM.lt
 generalize w.alloc zg=w1 at vM hG qV⊢
 refine(C w1 hG.holds).out.mono ?_
 rintro e w3 hout
 unfold sy at hout
 cases hr:tM l with
 | err q =>
  rw[hr]at hout;obtain⟨rfl,hb⟩:=hout;have iz:=Hh hr;have iN:=Hh (show xh l=.error q by have:=ij.out;have:=gR.out;rw[xh,if_neg (by omega),hr]);clear hr;have vq:=vM.below hb;obtain⟨H',Ow⟩:∃ H',H'=H:=⟨_,rfl⟩
  have yY:Grows w H w3 H':=by rw[Ow];exact hG.trans (Grows.of_below hG.holds hb)
  have sL:H' w.heap.size=none:=by rw[Ow];exact yj
  clear Ow;have lV:((q:Int) != 0)=true:=by rw[bne_iff_ne];have:=yZ _ _ _ _ iz.out;omega
  have ig:((q:Int)=0)=False:=eq_false (by have:=yZ _ _ _ _ iz.out;omega);exact jd9
 | ok x k cc =>
 rw[hr]at hout;obtain⟨ja,jb,jc,jd,H',rfl,hg,hi⟩:=hout;have iz:=Hh hr;clear hr;have vq:=vM.below hg.below;have yY:Grows w H w3 H':=hG.trans hg;have sL:H' w.heap.size=none:=hg.none yj vM.lt
 by_cases hk:k<n
 ·have iN:=Hh (show xh l=.error 9 by have:=ij.out;have:=gR.out;rw[xh,if_neg (by omega),iz.out];simp only;rw[if_pos (by omega)]);have k1:decide ((k:Int)<n)=true:=by rw[decide_eq_true_eq];omega
  have k2:(k<n)=True:=eq_true hk;clear hk;exact jd9
 have iN:=Hh (show xh l=.ok x by have:=ij.out;have:=gR.out;rw[xh,if_neg (by omega),iz.out];simp only;rw[if_neg (by omega)]);have k1:decide ((k:Int)<n)=false:=by rw[decide_eq_false_iff_not];omega
 have k2:(k<n)=False:=eq_false hk;clear hk;go_wp2_with (with_reducible refine zx ?_)
 unfold z8
 have Yz:w.heap.size<w3.heap.size:=vq.lt;have hN:=Blk.new w3 83 #[.int .i64 0,.int .u64 0,.slice none 0 0,.slice none 0 0];have uz:Blk (w3.alloc zg) w.heap.size 83 #[.int .i64 0,.int .u64 0,.slice none 0 0,.slice none 0 0]:=vq.alloc _;have xj:=yY.alloc zg;have lZ:H' w3.heap.size=none:=yY.holds.none_of_ge (by omega);have pL:Blk (w3.alloc zg) w3.heap.size 83 #[.int .i64 0,.int .u64 0,.slice none 0 0,.slice none 0 0]:=hN;clear hN vq
 generalize w3.alloc zg=w4 at pL uz xj⊢
 refine stI pL fun w5 vw te=>?_
 have vN:=uz.gr te (by omega);have xW:=xj.grownOwn lZ (by omega) te;clear uz xj pL;have c0:=vw.cell 0 rfl;have c1:=vw.cell 1 rfl;have c2:=vw.cell 2 rfl;have c3:=vw.cell 3 rfl;go_wp2_with (with_reducible refine zx ?_)
 refine stI vN fun w7 vz yQ=>?_
 have xp:=xW.grownOwn sL (by omega) yQ;go_wp2_with fail
 refine zw rfl rfl vz rfl rfl zt rfl ?_
 unfold vZ
 rw[iN.out]
 exact⟨ja,jb,jc,jd,H',rfl,xp,hi⟩):P:=h
theorem jau{P:Prop}(h:P:=by
 rw[hr,ItemOut]at hout;obtain⟨rfl,H',p',cnt',hd⟩:=hout;have iz:=Hh hr;clear hr;have vq:=tK.rdg hd (by omega);have yY:=zM.trans_but hd.grows (by omega);go_wp2_with (with_reducible refine zx ?_)
 unfold z8
 have Yz:w.heap.size+1<w3.heap.size:=hd.psr.gt;have hN:=Blk.new w3 83 #[.int .i64 0,.int .u64 0,.slice none 0 0,.slice none 0 0];have uz:Blk (w3.alloc zg) w.heap.size 83 #[.int .i64 0,.int .u64 0,.slice none 0 0,.slice none 0 0]:=vq.alloc _;have xj:=yY.alloc zg;have lZ:H' w3.heap.size=none:=yY.holds.none_of_ge (by omega);have sL:H' w.heap.size=none:=hd.hid yj tK.lt;have pL:Blk (w3.alloc zg) w3.heap.size 83 #[.int .i64 0,.int .u64 0,.slice none 0 0,.slice none 0 0]:=hN;clear hN vq
 generalize w3.alloc zg=w4 at pL uz xj⊢
 refine stI pL fun w5 vw te=>?_
 have vN:=uz.gr te (by omega);have xW:=xj.grownOwn lZ (by omega) te;clear uz xj pL;have lV:((q:Int) != 0)=true:=by rw[bne_iff_ne];have:=yZ _ _ _ _ iz.out;omega
 have ig:((q:Int)=0)=False:=eq_false (by have:=yZ _ _ _ _ iz.out;omega);go_wp2_with (with_reducible refine zx ?_)
 refine stI vN fun w7 vz yQ=>?_
 have xp:=xW.grownOwn sL (by omega) yQ;go_wp2_with fail
 refine rM rfl rfl vz rfl rfl zt rfl ?_
 unfold sy
 rw[iz.out]
 exact⟨rfl,xp.below⟩):P:=h
theorem ja4{P:Prop}(h:P:=by exact jfi):P:=h
theorem jbS{P:Prop}(h:P:=by
 refine⟨yi h.below k.grown (by rintro q ⟨⟩;exact hg),h.le.trans k.le,k.holds,fun x o hx=>?_⟩
 rcases k.fresh x o hx with hx | hx
 ·exact h.fresh x o hx
 exact .inr (Nat.le_trans h.below.size hx)):P:=h
theorem jcj{P:Prop}(h:P:=by
 go_simp
 refine Kz hK ?_
 clear hK K
 refine Wd ?_
 go_wp2_with fail
 refine rM rfl rfl vz rfl rfl zt rfl ?_
 unfold sy
 rw[iz.out]
 exact⟨ja,jb,jc,jd,H',rfl,xp,hi⟩):P:=h
theorem jds{P:Prop}(h:P:=by exact⟨vw.cell 0 rfl,vw.cell 1 rfl,vw.cell 2 rfl,vw.cell 3 rfl,nX.cell 1 rfl⟩):P:=h
theorem jdH{P:Prop}(h:P:=by have:=hd.psr.blk;obtain⟨_,_,tP⟩:=ij.out;rw[tP]at this;exact this):P:=h
theorem jd9{P:Prop}(h:P:=by
 go_wp2_with (with_reducible refine zx ?_)
 unfold z8
 have Yz:w.heap.size<w3.heap.size:=vq.lt;have hN:=Blk.new w3 83 #[.int .i64 0,.int .u64 0,.slice none 0 0,.slice none 0 0];have uz:Blk (w3.alloc zg) w.heap.size 83 #[.int .i64 0,.int .u64 0,.slice none 0 0,.slice none 0 0]:=vq.alloc _;have xj:=yY.alloc zg;have lZ:H' w3.heap.size=none:=yY.holds.none_of_ge (by omega);have pL:Blk (w3.alloc zg) w3.heap.size 83 #[.int .i64 0,.int .u64 0,.slice none 0 0,.slice none 0 0]:=hN;clear hN vq
 generalize w3.alloc zg=w4 at pL uz xj⊢
 refine stI pL fun w5 vw te=>?_
 have vN:=uz.gr te (by omega);have xW:=xj.grownOwn lZ (by omega) te;clear uz xj pL;go_wp2_with (with_reducible refine zx ?_)
 refine stI vN fun w7 vz yQ=>?_
 have xp:=xW.grownOwn sL (by omega) yQ;exact jfi):P:=h
theorem jes{P:Prop}(h:P:=by
 go_wp2_with (with_reducible refine zx ?_)
 unfold z8
 generalize w.alloc zg=w1 at vM hG⊢
 refine stI vM fun w7 vz yQ=>?_
 have xp:=hG.grownOwn yj (by omega) yQ;exact ja4):P:=h
theorem jfi{P:Prop}(h:P:=by
 go_wp2_with fail
 refine zw rfl rfl vz rfl rfl zt rfl ?_
 unfold vZ
 rw[iN.out]
 exact⟨rfl,xp.below⟩):P:=h
theorem jgv{P:Prop}(h:P:=by have hT:=Blk.new w 83 #[.int .i64 0,.int .u64 0,.slice none 0 0,.slice none 0 0];have hG:=(Grows.refl hH).alloc zg;have vM:Blk (w.alloc zg) w.heap.size 83 #[.int .i64 0,.int .u64 0,.slice none 0 0,.slice none 0 0]:=hT;have yj:H w.heap.size=none:=hH.none_of_ge (by omega);exact And.intro hT (And.intro hG (And.intro vM yj))):P:=h
theorem jgC{P:Prop}(h:P:=by have Yz:w.heap.size+1<w3.heap.size:=hd.psr.gt;have hN:=Blk.new w3 83 #[.int .i64 0,.int .u64 0,.slice none 0 0,.slice none 0 0];have uz:Blk (w3.alloc zg) w.heap.size 83 #[.int .i64 0,.int .u64 0,.slice none 0 0,.slice none 0 0]:=vq.alloc _;exact And.intro Yz (And.intro hN uz)):P:=h
theorem jgT{P:Prop}(h:P:=by have xj:=yY.alloc zg;have lZ:H' w3.heap.size=none:=yY.holds.none_of_ge (by omega);have sL:H' w.heap.size=none:=hd.hid yj tK.lt;have pL:Blk (w3.alloc zg) w3.heap.size 83 #[.int .i64 0,.int .u64 0,.slice none 0 0,.slice none 0 0]:=hN;exact And.intro xj (And.intro lZ (And.intro sL pL))):P:=h
theorem IsBytes.take {H:Snap}{A:Option Addr}{c:Nat}{l:List UInt8}(h:IsBytes H A c l) (m:Nat):IsBytes H A c (l.take m):=by
 refine⟨by have:=h.le;rw[List.length_take];omega,h.max,fun uy=>?_⟩
 obtain⟨b,off,e,hc⟩:=h.row (by intro h0;rw[List.map_eq_nil_iff]at h0;subst h0;simp at uy)
 refine⟨b,off,e,fun j v hj=>hc j v ?_⟩
 rw[List.map_take,List.getElem?_take]at hj
 split at hj
 ·exact hj
 cases hj
def sy (w:World) (H:Snap) (l:List UInt8) (e:Ending) (w':World):Prop :=
 match tM l with
 | .err q=>e=.returned (.tuple #[dz,.int .i64 0,.int .i64 (q:Int)])∧Below w.heap.size w w'
 | .ok x k _=>∃ ja jb jc jd H',e=.returned (.tuple #[xx x ja jb jc jd,.int .i64 (k:Int),.int .i64 0])∧Grows w H w' H'∧IsItem H' ja jb jc jd x
theorem kM {fn:Func}{p u v:Tmp}{ty:TypeId}(h:fn.results=#[.cell p ty,.tmp u,.tmp v]) (tmps:Array Value) (P:Program) (w:World) :
  (results fn tmps).run P w =
   ((asAddr (tmps.getD p undef)).run P w).andThen fun a w₁=>((loadVar ty a).run P w₁).andThen fun x w₂=>.ok (.tuple #[x,tmps.getD u undef,tmps.getD v undef]) w₂:=by
 simp only[results,h]
 simp[Sem.run_bind,Result.andThen]
theorem rM {fn:Func}{p u v:Tmp}{ty:TypeId}{a:Act}{w:World}{R:Ending→World→Prop}{g:Nat}{t:TypeId}{cs:Array Value}{d:TypeDesc}(h:fn.results=#[.cell p ty,.tmp u,.tmp v]) (hp:a.tmps.getD p undef=.pointer (some ⟨g,0,none⟩)) (hg:Blk w g t cs)
  (hd:(match d with | .struct _ | .array _ _=>true | _=>false)=true) (hu:Tryz.prog.underlying ty=some d) (hi:(Tryz.prog.info? ty).map (·.size)=some cs.size)
  (hdf:a.defers=[]) (hR:R (.returned (.tuple #[.agg cs,a.tmps.getD u undef,a.tmps.getD v undef])) w):bodyPost Tryz.prog fn R .ret a w:=by
 refine bodyPost_ret (v:=.tuple #[.agg cs,a.tmps.getD u undef,a.tmps.getD v undef]) ?_ hdf hR
 rw[kM h,hp];exact jbp
theorem GL (a b c:Value) (ha:a.oneCell'=true) (hb:b.oneCell'=true) (hc:c.oneCell'=true):(#[a,b,c]:Array Value).all (·.oneCell')=true:=by simp[ha,hb,hc]
theorem T5:(Tryz.prog.info? 117).map (·.size)=some 3:=by kernel_rfl
theorem Grows.trans_but {w w' w'':World}{H H' H'':Snap}{g:Nat}(h:Grows w H w' H') (k:GrowsBut w' H' w'' H'' g) (hg:w.heap.size≤g):Grows w H w'' H'':=by
 exact jbS
theorem ZJ {H:Snap}(hTab:Tabs H) (w:World) (hH:Holds w H) {A:Option Addr}{n c:Nat}{l:List UInt8}(hn:n=l.length) (hl:IsBytes H A c l) :
  Calls Tryz.prog 63 #[.slice A n c] w (sy w H l):=by
 have JW:=hl.le;have mv:=hl.max;obtain⟨m,hm⟩:∃ m,min n 4096=m:=⟨_,rfl⟩
 have XG:min (n:Int) 4096=(m:Int):=by omega
 have m1:(m:Int)≤(c:Int):=by omega
 have m0:(0:Int)≤(m:Int):=by omega
 have tP:(l.take 4096).length=m:=by rw[List.length_take];omega
 have ij:=Hh (And.intro hn (And.intro hm tP));clear hn hm tP JW;go_enter Tryz.func63,Tryz.ntmps63
 go_wp2_with (with_reducible refine zx ?_)
 unfold z8
 have e1:(w.alloc zg).heap.size=w.heap.size+1:=by go_simp
 have hT:=(Blk.new w 83 #[.int .i64 0,.int .u64 0,.slice none 0 0,.slice none 0 0]).alloc (.cells #[.slice none 0 0,.int .i64 0,.int .i64 0] 117);have hB:=Blk.new (w.alloc zg) 117 #[.slice none 0 0,.int .i64 0,.int .i64 0];have hG:=((Grows.refl hH).alloc zg).alloc (.cells #[.slice none 0 0,.int .i64 0,.int .i64 0] 117);rw[e1]at hB;have vM:Blk ((w.alloc zg).alloc (.cells #[.slice none 0 0,.int .i64 0,.int .i64 0] 117)) w.heap.size 83 #[.int .i64 0,.int .u64 0,.slice none 0 0,.slice none 0 0]:=hT;clear hT
 generalize (w.alloc zg).alloc (.cells #[.slice none 0 0,.int .i64 0,.int .i64 0] 117)=w1 at hB hG vM⊢
 have qV:w.heap.size+1<w1.heap.size:=hB.lt;have yj:H w.heap.size=none:=hH.none_of_ge (by omega);have pz:H (w.heap.size+1)=none:=hH.none_of_ge (by omega)
 refine zv rfl _ _ _ rfl rfl _ _ rfl rfl _ _ hB T5 rfl (GL _ _ _ rfl rfl rfl) fun w2 yT xB=>?_
 have zM:=hG.grownOwn pz (by omega) xB;have tK:=vM.gr xB (by omega);clear hG vM hB
 have M7:Psr 117 w2 (w.heap.size+1) H A c (l.take 4096) 0 0 :=
  ⟨by obtain⟨_,_,tP⟩:=ij.out;rw[tP];exact yT,hl.take 4096,zM.holds,pz,by omega,by rw[List.length_take];omega,by omega⟩
 have C0:(Calls Tryz.prog 80 #[.pointer (some ⟨w.heap.size+1,0,none⟩),.int .i64 0] w2 (ItemOut 117 w2 H (w.heap.size+1) A c (l.take 4096) 0 (tM l))) :=
  (Np 8 w2 H (w.heap.size+1) A c (l.take 4096) 0 0 0 hTab (by omega) M7)
 have C:=Hh C0;clear M7 C0;go_wp2_with fail
 refine C.out.mono ?_
 rintro e w3 hout
 clear C
 cases hr:tM l with
 | err q =>
  exact jau
 | ok x k cc =>
 rw[hr,ItemOut,Nat.zero_add]at hout;obtain⟨ja,jb,jc,jd,H',rfl,hd,hi⟩:=hout;have iz:=Hh hr;clear hr;have vq:=tK.rdg hd (by omega);have yY:=zM.trans_but hd.grows (by omega)
 have vL:Blk w3 (w.heap.size+1) 117 #[.slice A m c,.int .i64 (k:Int),.int .i64 (cc:Int)]:=by
  exact jdH
 go_wp2_with (with_reducible refine zx ?_)
 unfold z8
 obtain⟨Yz,hN,uz⟩:=jgC;have lR:Blk (w3.alloc zg) (w.heap.size+1) 117 #[.slice A m c,.int .i64 (k:Int),.int .i64 (cc:Int)]:=vL.alloc _;obtain⟨xj,lZ,sL,pL⟩:=jgT;clear hN vq vL
 generalize w3.alloc zg=w4 at pL uz xj lR⊢
 refine stI pL fun w5 vw te=>?_
 have vN:=uz.gr te (by omega);have nX:=lR.gr te (by omega);have xW:=xj.grownOwn lZ (by omega) te;clear uz xj pL lR;go_upto_region 5 with fail
 have vN:=vN.drew;have vw:=vw.drew;have nX:=nX.drew;have xW:=xW.drew
 refine zj 5 (fun w'=>w'.cell? ⟨w3.heap.size,0,none⟩=some (.int .i64 x.kind)∧w'.cell? ⟨w3.heap.size,1,none⟩=some (.int .u64 x.n)∧w'.cell? ⟨w3.heap.size,2,none⟩=some (.slice ja x.bytes.length jb)∧w'.cell? ⟨w3.heap.size,3,none⟩=some (.slice jc x.items.length jd)∧w'.cell? ⟨w.heap.size+1,1,none⟩=some (.int .i64 (k:Int))) (by kernel_rfl) (⟨vw.cell 0 rfl,vw.cell 1 rfl,vw.cell 2 rfl,vw.cell 3 rfl,nX.cell 1 rfl⟩) (fun zy=>?_)
 refine Tk 0 rfl zy ?_
 refine Tk 1 rfl zy ?_
 refine Tk 2 rfl zy ?_
 refine To 3 rfl fun K hK=>?_
 refine zD _ _ _ rfl _ _ rfl rfl _ _ vN zt rfl (rU _ _ _ _ rfl rfl rfl rfl) fun w7 vz yQ=>?_
 have vw:=vw.gr yQ (by omega);have nX:=nX.gr yQ (by omega);have xp:=xW.grownOwn sL (by omega) yQ;go_simp
 refine Ko hK ?_ fun zy=>?_
 ·exact jds
 clear hK K
 refine Tk 4 rfl zy ?_
 refine To 5 rfl fun K hK=>?_
 exact jcj
def vZ (w:World) (H:Snap) (l:List UInt8) (e:Ending) (w':World):Prop :=
 match xh l with
 | .error q=>e=.returned (.tuple #[dz,.int .i64 (q:Int)])∧Below w.heap.size w w'
 | .ok x=>∃ ja jb jc jd H',e=.returned (.tuple #[xx x ja jb jc jd,.int .i64 0])∧Grows w H w' H'∧IsItem H' ja jb jc jd x
theorem ZI {H:Snap}(hTab:Tabs H) (w:World) (hH:Holds w H) {A:Option Addr}{n c:Nat}{l:List UInt8}(hn:n=l.length) (hl:IsBytes H A c l) :
  Calls Tryz.prog 51 #[.slice A n c] w (vZ w H l):=by
 obtain⟨hT,hG,vM,yj⟩:=jgv;clear hT;have ij:=Hh hn;have C:=fun w1 h1=>Hh (ZJ hTab w1 h1 hn hl)
 clear hn
 by_cases hbig:4096<n
 ·have b1:decide ((n:Int) > 4096)=true:=by rw[decide_eq_true_eq];omega
  have b2:decide ((4096:Int)<n)=true:=by rw[decide_eq_true_eq];omega
  have hd:xh l=.error 8:=by have:=ij.out;rw[xh,if_pos (by omega)]
  have iN:=Hh hd;clear hd C;go_enter Tryz.func51,Tryz.ntmps51
  exact jes
 have b1:decide ((n:Int) > 4096)=false:=by rw[decide_eq_false_iff_not];omega
 have b2:decide ((4096:Int)<n)=false:=by rw[decide_eq_false_iff_not];omega
 have gR:=Hh hbig;clear hbig;go_enter Tryz.func51,Tryz.ntmps51
 exact jac
def mi (d:Nat):Prop:=∀ (w:World) (H:Snap) (g:Nat) (A:Option Addr) (c:Nat) (l:List UInt8) (p cnt lv:Nat),Tabs H→lv+d=8→Psr 129 w g H A c l p cnt→
 Calls Tryz.prog 94 #[.pointer (some ⟨g,0,none⟩),.int .i64 (lv:Int)] w (ItemOut 129 w H g A c l p (zZ d (l.drop p) cnt))
theorem eP (hI:∀ d,mi d) {H:Snap}(hTab:Tabs H) (w:World) (hH:Holds w H) {A:Option Addr}{n c:Nat}{l:List UInt8}(hn:n=l.length) (hl:IsBytes H A c l) :
  Calls Tryz.prog 72 #[.slice A n c] w (sy w H l):=by
 have JW:=hl.le;have mv:=hl.max;obtain⟨m,hm⟩:∃ m,min n 4096=m:=⟨_,rfl⟩
 have XG:min (n:Int) 4096=(m:Int):=by omega
 have m1:(m:Int)≤(c:Int):=by omega
 have m0:(0:Int)≤(m:Int):=by omega
 have tP:(l.take 4096).length=m:=by rw[List.length_take];omega
 have ij:=Hh (And.intro hn (And.intro hm tP));clear hn hm tP JW;go_enter Tryz.func72,Tryz.ntmps72
 go_wp2_with fail
 have e1:(w.alloc zg).heap.size=w.heap.size+1:=by go_simp
 have hT:=(Blk.new w 83 #[.int .i64 0,.int .u64 0,.slice none 0 0,.slice none 0 0]).alloc (.cells #[.slice A m c,.int .i64 0,.int .i64 0] 129);have hB:=Blk.new (w.alloc zg) 129 #[.slice A m c,.int .i64 0,.int .i64 0];have zM:=((Grows.refl hH).alloc zg).alloc (.cells #[.slice A m c,.int .i64 0,.int .i64 0] 129);rw[e1]at hB;have yT:Blk ((w.alloc zg).alloc (.cells #[.slice A m c,.int .i64 0,.int .i64 0] 129)) (w.heap.size+1) 129 #[.slice A m c,.int .i64 0,.int .i64 0]:=hB;have tK:Blk ((w.alloc zg).alloc (.cells #[.slice A m c,.int .i64 0,.int .i64 0] 129)) w.heap.size 83 #[.int .i64 0,.int .u64 0,.slice none 0 0,.slice none 0 0]:=hT;clear hT hB
 generalize (w.alloc zg).alloc (.cells #[.slice A m c,.int .i64 0,.int .i64 0] 129)=w2 at yT zM tK⊢
 have qV:w.heap.size+1<w2.heap.size:=yT.lt;have yj:H w.heap.size=none:=hH.none_of_ge (by omega);have pz:H (w.heap.size+1)=none:=hH.none_of_ge (by omega)
 have M7:Psr 129 w2 (w.heap.size+1) H A c (l.take 4096) 0 0 :=
  ⟨by obtain⟨_,_,tP⟩:=ij.out;rw[tP];exact yT,hl.take 4096,zM.holds,pz,by omega,by rw[List.length_take];omega,by omega⟩
 have C0:(Calls Tryz.prog 94 #[.pointer (some ⟨w.heap.size+1,0,none⟩),.int .i64 0] w2 (ItemOut 129 w2 H (w.heap.size+1) A c (l.take 4096) 0 (tM l))) :=
  (hI 8 w2 H (w.heap.size+1) A c (l.take 4096) 0 0 0 hTab (by omega) M7)
 have C:=Hh C0;clear M7 C0
 refine C.out.mono ?_
 rintro e w3 hout
 clear C
 cases hr:tM l with
 | err q =>
  exact jau
 | ok x k cc =>
 rw[hr,ItemOut,Nat.zero_add]at hout;obtain⟨ja,jb,jc,jd,H',rfl,hd,hi⟩:=hout;have iz:=Hh hr;clear hr;have vq:=tK.rdg hd (by omega);have yY:=zM.trans_but hd.grows (by omega)
 have vL:Blk w3 (w.heap.size+1) 129 #[.slice A m c,.int .i64 (k:Int),.int .i64 (cc:Int)]:=by
  exact jdH
 go_wp2_with (with_reducible refine zx ?_)
 unfold z8
 obtain⟨Yz,hN,uz⟩:=jgC;have lR:Blk (w3.alloc zg) (w.heap.size+1) 129 #[.slice A m c,.int .i64 (k:Int),.int .i64 (cc:Int)]:=vL.alloc _;obtain⟨xj,lZ,sL,pL⟩:=jgT;clear hN vq vL
 generalize w3.alloc zg=w4 at pL uz xj lR⊢
 refine stI pL fun w5 vw te=>?_
 have vN:=uz.gr te (by omega);have nX:=lR.gr te (by omega);have xW:=xj.grownOwn lZ (by omega) te;clear uz xj pL lR;go_upto_region 5 with fail
 have vN:=vN.drew;have vw:=vw.drew;have nX:=nX.drew;have xW:=xW.drew
 refine zj 7 (fun w'=>w'.cell? ⟨w3.heap.size,0,none⟩=some (.int .i64 x.kind)∧w'.cell? ⟨w3.heap.size,1,none⟩=some (.int .u64 x.n)∧w'.cell? ⟨w3.heap.size,2,none⟩=some (.slice ja x.bytes.length jb)∧w'.cell? ⟨w3.heap.size,3,none⟩=some (.slice jc x.items.length jd)∧w'.cell? ⟨w.heap.size+1,1,none⟩=some (.int .i64 (k:Int))) (by kernel_rfl) (⟨vw.cell 0 rfl,vw.cell 1 rfl,vw.cell 2 rfl,vw.cell 3 rfl,nX.cell 1 rfl⟩) (fun zy=>?_)
 refine Tk 0 rfl zy ?_
 refine Tk 1 rfl zy ?_
 refine Tk 2 rfl zy ?_
 refine Tk 3 rfl zy ?_
 refine Tk 4 rfl zy ?_
 refine To 5 rfl fun K hK=>?_
 refine zD _ _ _ rfl _ _ rfl rfl _ _ vN zt rfl (rU _ _ _ _ rfl rfl rfl rfl) fun w7 vz yQ=>?_
 have vw:=vw.gr yQ (by omega);have nX:=nX.gr yQ (by omega);have xp:=xW.grownOwn sL (by omega) yQ;go_simp
 refine Ko hK ?_ fun zy=>?_
 ·exact jds
 clear hK K
 refine Tk 6 rfl zy ?_
 refine To 7 rfl fun K hK=>?_
 exact jcj
theorem eO (hI:∀ d,mi d) {H:Snap}(hTab:Tabs H) (w:World) (hH:Holds w H) {A:Option Addr}{n c:Nat}{l:List UInt8}(hn:n=l.length) (hl:IsBytes H A c l) :
  Calls Tryz.prog 53 #[.slice A n c] w (vZ w H l):=by
 obtain⟨hT,hG,vM,yj⟩:=jgv;clear hT;have ij:=Hh hn;have C:=fun w1 h1=>Hh (eP hI hTab w1 h1 hn hl)
 clear hn
 by_cases hbig:4096<n
 ·have b1:decide ((n:Int) > 4096)=true:=by rw[decide_eq_true_eq];omega
  have b2:decide ((4096:Int)<n)=true:=by rw[decide_eq_true_eq];omega
  have hd:xh l=.error 8:=by have:=ij.out;rw[xh,if_pos (by omega)]
  have iN:=Hh hd;clear hd C;go_enter Tryz.func53,Tryz.ntmps53
  exact jes
 have b1:decide ((n:Int) > 4096)=false:=by rw[decide_eq_false_iff_not];omega
 have b2:decide ((4096:Int)<n)=false:=by rw[decide_eq_false_iff_not];omega
 have gR:=Hh hbig;clear hbig;go_enter Tryz.func53,Tryz.ntmps53
 exact jac
end Go.Proofs.YtgaoknihklmakabGreatDoor
