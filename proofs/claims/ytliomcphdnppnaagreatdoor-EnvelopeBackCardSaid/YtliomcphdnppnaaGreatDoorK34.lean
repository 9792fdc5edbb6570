/- squeezed. Walks: the program's Prefix. Walks -/
import Derived.Test.YtliomcphdnppnaaGreatDoorK33
set_option linter.unusedVariables false
set_option linter.unusedSimpArgs false
set_option maxRecDepth 100000
set_option maxHeartbeats 6400000
namespace Go.Proofs.YtliomcphdnppnaaGreatDoor
open Go.RowKit
theorem jaJ{P:Prop}(h:P:=by
 go_wp2_with (with_reducible refine zx ?_)
 unfold zC
 have Jb:w.heap.size<w3.heap.size:=ti.lt;have hN:=Blk.new w3 26 #[.int .i64 0,.int .u64 0,.slice none 0 0,.slice none 0 0];have uG:Blk (w3.alloc zi) w.heap.size 26 #[.int .i64 0,.int .u64 0,.slice none 0 0,.slice none 0 0]:=ti.alloc _;have yF:=ye.alloc zi;have QT:H' w3.heap.size=none:=ye.holds.none_of_ge (by omega);have fj:Blk (w3.alloc zi) w3.heap.size 26 #[.int .i64 0,.int .u64 0,.slice none 0 0,.slice none 0 0]:=hN;clear hN ti
 generalize w3.alloc zi=w4 at fj uG yF⊢
 refine stI fj fun w5 rF xv=>?_
 have ol:=uG.gr xv (by omega);have xq:=yF.grownOwn QT (by omega) xv;clear uG yF fj;go_wp2_with (with_reducible refine zx ?_)
 refine stI ol fun w7 rG ww=>?_
 have wJ:=xq.grownOwn kC (by omega) ww;exact jeJ):P:=h
theorem jeJ{P:Prop}(h:P:=by
 go_wp2_with fail
 refine zp rfl rfl rG rfl rfl zu rfl ?_
 unfold vf
 rw[cB.out]
 exact⟨rfl,wJ.below⟩):P:=h
theorem jfn{P:Prop}(h:P:=by have hN:=Blk.new w3 26 #[.int .i64 0,.int .u64 0,.slice none 0 0,.slice none 0 0];have uG:Blk (w3.alloc zi) w.heap.size 26 #[.int .i64 0,.int .u64 0,.slice none 0 0,.slice none 0 0]:=ti.alloc _;exact And.intro hN uG):P:=h
theorem jfF{P:Prop}(h:P:=by have fj:Blk (w3.alloc zi) w3.heap.size 26 #[.int .i64 0,.int .u64 0,.slice none 0 0,.slice none 0 0]:=hN;exact fj):P:=h
theorem jgp{P:Prop}(h:P:=by have QT:H' w3.heap.size=none:=ye.holds.none_of_ge (by omega);exact QT):P:=h
theorem IsBytes.take {H:Snap}{A:Option Addr}{c:Nat}{l:List UInt8}(h:IsBytes H A c l) (m:Nat):IsBytes H A c (l.take m):=by
 exact jbz
def lM (w:World) (H:Snap) (l:List UInt8) (e:Ending) (w':World):Prop :=
 match qY l with
 | .err q=>e=.returned (.tuple #[br,.int .i64 0,.int .i64 (q:Int)])∧Below w.heap.size w w'
 | .ok x k _=>∃ ja jb jc jd H',e=.returned (.tuple #[xp x ja jb jc jd,.int .i64 (k:Int),.int .i64 0])∧Grows w H w' H'∧IsItem H' ja jb jc jd x
theorem j9 {fn:Func}{p u v:Tmp}{ty:TypeId}(h:fn.results=#[.cell p ty,.tmp u,.tmp v]) (tmps:Array Value) (P:Program) (w:World) :
  (results fn tmps).run P w =
   ((asAddr (tmps.getD p undef)).run P w).andThen fun a w₁=>((loadVar ty a).run P w₁).andThen fun x w₂=>.ok (.tuple #[x,tmps.getD u undef,tmps.getD v undef]) w₂:=by
 exact jci
theorem jN {fn:Func}{p u v:Tmp}{ty:TypeId}{a:Act}{w:World}{R:Ending→World→Prop}{g:Nat}{t:TypeId}{cs:Array Value}{d:TypeDesc}(h:fn.results=#[.cell p ty,.tmp u,.tmp v]) (hp:a.tmps.getD p undef=.pointer (some ⟨g,0,none⟩)) (hg:Blk w g t cs)
  (hd:(match d with | .struct _ | .array _ _=>true | _=>false)=true) (hu:Tryz.prog.underlying ty=some d) (hi:(Tryz.prog.info? ty).map (·.size)=some cs.size)
  (hdf:a.defers=[]) (hR:R (.returned (.tuple #[.agg cs,a.tmps.getD u undef,a.tmps.getD v undef])) w):bodyPost Tryz.prog fn R .ret a w:=by
 refine bodyPost_ret (v:=.tuple #[.agg cs,a.tmps.getD u undef,a.tmps.getD v undef]) ?_ hdf hR
 rw[j9 h,hp];exact jaZ
theorem zAa (a b c:Value) (ha:a.oneCell'=true) (hb:b.oneCell'=true) (hc:c.oneCell'=true):(#[a,b,c]:Array Value).all (·.oneCell')=true:=by simp[ha,hb,hc]
theorem Nz:(Tryz.prog.info? 175).map (·.size)=some 3:=by kernel_rfl
theorem Grows.trans_but {w w' w'':World}{H H' H'':Snap}{g:Nat}(h:Grows w H w' H') (k:GrowsBut w' H' w'' H'' g) (hg:w.heap.size≤g):Grows w H w'' H'':=by
 refine⟨zY h.below k.grown (by rintro q ⟨⟩;exact hg),h.le.trans k.le,k.holds,fun x o hx=>?_⟩
 rcases k.fresh x o hx with hx | hx
 ·exact h.fresh x o hx
 exact .inr (Nat.le_trans h.below.size hx)
theorem XF {H:Snap}(hTab:Tabs H) (w:World) (hH:Holds w H) {A:Option Addr}{n c:Nat}{l:List UInt8}(hn:n=l.length) (hl:IsBytes H A c l) :
  Calls Tryz.prog 104 #[.slice A n c] w (lM w H l):=by
 have hlm:=hl.le;have ZM:=hl.max;obtain⟨m,hm⟩:∃ m,min n 4096=m:=⟨_,rfl⟩
 have fU:min (n:Int) 4096=(m:Int):=by omega
 have m1:(m:Int)≤(c:Int):=by omega
 have m0:(0:Int)≤(m:Int):=by omega
 have Wj:(l.take 4096).length=m:=by rw[List.length_take];omega
 have ZB:=Hh (And.intro hn (And.intro hm Wj));clear hn hm Wj hlm;go_enter Tryz.func104,Tryz.ntmps104
 go_wp2_with (with_reducible refine zx ?_)
 unfold zC
 have e1:(w.alloc zi).heap.size=w.heap.size+1:=by go_simp
 have hT:=(Blk.new w 26 #[.int .i64 0,.int .u64 0,.slice none 0 0,.slice none 0 0]).alloc (.cells #[.slice none 0 0,.int .i64 0,.int .i64 0] 175);have hB:=Blk.new (w.alloc zi) 175 #[.slice none 0 0,.int .i64 0,.int .i64 0];have hG:=((Grows.refl hH).alloc zi).alloc (.cells #[.slice none 0 0,.int .i64 0,.int .i64 0] 175);rw[e1]at hB;have vk:Blk ((w.alloc zi).alloc (.cells #[.slice none 0 0,.int .i64 0,.int .i64 0] 175)) w.heap.size 26 #[.int .i64 0,.int .u64 0,.slice none 0 0,.slice none 0 0]:=hT;clear hT
 generalize (w.alloc zi).alloc (.cells #[.slice none 0 0,.int .i64 0,.int .i64 0] 175)=w1 at hB hG vk⊢
 have rE:w.heap.size+1<w1.heap.size:=hB.lt;have yO:H w.heap.size=none:=hH.none_of_ge (by omega);have un:H (w.heap.size+1)=none:=hH.none_of_ge (by omega)
 refine zv rfl _ _ _ rfl rfl _ _ rfl rfl _ _ hB Nz rfl (zAa _ _ _ rfl rfl rfl) fun w2 yQ sv=>?_
 have yE:=hG.grownOwn un (by omega) sv;have vU:=vk.gr sv (by omega);clear hG vk hB
 have Mb:Psr 175 w2 (w.heap.size+1) H A c (l.take 4096) 0 0 :=
  ⟨by obtain⟨_,_,Wj⟩:=ZB.out;rw[Wj];exact yQ,hl.take 4096,yE.holds,un,by omega,by rw[List.length_take];omega,by omega⟩
 have C0:(Calls Tryz.prog 130 #[.pointer (some ⟨w.heap.size+1,0,none⟩),.int .i64 0] w2 (ItemOut 175 w2 H (w.heap.size+1) A c (l.take 4096) 0 (qY l))) :=
  (GD 8 w2 H (w.heap.size+1) A c (l.take 4096) 0 0 0 hTab (by omega) Mb)
 have C:=Hh C0;clear Mb C0;go_wp2_with fail
 refine C.out.mono ?_
 rintro e w3 hout
 clear C
 cases hr:qY l with
 | err q =>
  rw[hr,ItemOut]at hout;obtain⟨rfl,H',p',cnt',hd⟩:=hout;have TI:=Hh hr;clear hr;have ti:=vU.rdg hd (by omega);have ye:=yE.trans_but hd.grows (by omega);go_wp2_with (with_reducible refine zx ?_)
  unfold zC
  have Jb:w.heap.size+1<w3.heap.size:=hd.psr.gt;obtain⟨hN,uG⟩:=jfn;have yF:=ye.alloc zi;have QT:=jgp;have kC:H' w.heap.size=none:=hd.hid yO vU.lt;have fj:=jfF;clear hN ti
  generalize w3.alloc zi=w4 at fj uG yF⊢
  refine stI fj fun w5 rF xv=>?_
  have ol:=uG.gr xv (by omega);have xq:=yF.grownOwn QT (by omega) xv;clear uG yF fj;have oG:((q:Int) != 0)=true:=by rw[bne_iff_ne];have:=wL _ _ _ _ TI.out;omega
  have WS:((q:Int)=0)=False:=eq_false (by have:=wL _ _ _ _ TI.out;omega);go_wp2_with (with_reducible refine zx ?_)
  refine stI ol fun w7 rG ww=>?_
  have wJ:=xq.grownOwn kC (by omega) ww;go_wp2_with fail
  refine jN rfl rfl rG rfl rfl zu rfl ?_
  unfold lM
  rw[TI.out]
  exact⟨rfl,wJ.below⟩
 | ok x k cc =>
 rw[hr,ItemOut,Nat.zero_add]at hout;obtain⟨ja,jb,jc,jd,H',rfl,hd,hi⟩:=hout;have TI:=Hh hr;clear hr;have ti:=vU.rdg hd (by omega);have ye:=yE.trans_but hd.grows (by omega)
 have wi:Blk w3 (w.heap.size+1) 175 #[.slice A m c,.int .i64 (k:Int),.int .i64 (cc:Int)]:=by
  have:=hd.psr.blk;obtain⟨_,_,Wj⟩:=ZB.out;rw[Wj]at this;exact this
 go_wp2_with (with_reducible refine zx ?_)
 unfold zC
 have Jb:w.heap.size+1<w3.heap.size:=hd.psr.gt;obtain⟨hN,uG⟩:=jfn;have oh:Blk (w3.alloc zi) (w.heap.size+1) 175 #[.slice A m c,.int .i64 (k:Int),.int .i64 (cc:Int)]:=wi.alloc _;have yF:=ye.alloc zi;have QT:=jgp;have kC:H' w.heap.size=none:=hd.hid yO vU.lt;have fj:=jfF;clear hN ti wi
 generalize w3.alloc zi=w4 at fj uG yF oh⊢
 refine stI fj fun w5 rF xv=>?_
 have ol:=uG.gr xv (by omega);have ms:=oh.gr xv (by omega);have xq:=yF.grownOwn QT (by omega) xv;clear uG yF fj oh;go_upto_region 5 with fail
 have ol:=ol.drew;have rF:=rF.drew;have ms:=ms.drew;have xq:=xq.drew
 refine zw 5 (fun w'=>w'.cell? ⟨w3.heap.size,0,none⟩=some (.int .i64 x.kind)∧w'.cell? ⟨w3.heap.size,1,none⟩=some (.int .u64 x.n)∧w'.cell? ⟨w3.heap.size,2,none⟩=some (.slice ja x.bytes.length jb)∧w'.cell? ⟨w3.heap.size,3,none⟩=some (.slice jc x.items.length jd)∧w'.cell? ⟨w.heap.size+1,1,none⟩=some (.int .i64 (k:Int))) (by kernel_rfl) (⟨rF.cell 0 rfl,rF.cell 1 rfl,rF.cell 2 rfl,rF.cell 3 rfl,ms.cell 1 rfl⟩) (fun zy=>?_)
 refine Tk 0 rfl zy ?_
 refine Tk 1 rfl zy ?_
 refine Tk 2 rfl zy ?_
 refine To 3 rfl fun K hK=>?_
 refine zh _ _ _ rfl _ _ rfl rfl _ _ ol zu rfl (tR _ _ _ _ rfl rfl rfl rfl) fun w7 rG ww=>?_
 have rF:=rF.gr ww (by omega);have ms:=ms.gr ww (by omega);have wJ:=xq.grownOwn kC (by omega) ww;go_simp
 refine Ko hK ?_ fun zy=>?_
 ·exact⟨rF.cell 0 rfl,rF.cell 1 rfl,rF.cell 2 rfl,rF.cell 3 rfl,ms.cell 1 rfl⟩
 clear hK K
 refine Tk 4 rfl zy ?_
 refine To 5 rfl fun K hK=>?_
 go_simp
 refine Kz hK ?_
 clear hK K
 refine Wd ?_
 go_wp2_with fail
 refine jN rfl rfl rG rfl rfl zu rfl ?_
 unfold lM
 rw[TI.out]
 exact⟨ja,jb,jc,jd,H',rfl,wJ,hi⟩
def vf (w:World) (H:Snap) (l:List UInt8) (e:Ending) (w':World):Prop :=
 match uY l with
 | .error q=>e=.returned (.tuple #[br,.int .i64 (q:Int)])∧Below w.heap.size w w'
 | .ok x=>∃ ja jb jc jd H',e=.returned (.tuple #[xp x ja jb jc jd,.int .i64 0])∧Grows w H w' H'∧IsItem H' ja jb jc jd x
theorem pL {H:Snap}(hTab:Tabs H) (w:World) (hH:Holds w H) {A:Option Addr}{n c:Nat}{l:List UInt8}(hn:n=l.length) (hl:IsBytes H A c l) :
  Calls Tryz.prog 62 #[.slice A n c] w (vf w H l):=by
 have hT:=jfZ;have hG:=(Grows.refl hH).alloc zi;have vk:Blk (w.alloc zi) w.heap.size 26 #[.int .i64 0,.int .u64 0,.slice none 0 0,.slice none 0 0]:=hT;have yO:H w.heap.size=none:=hH.none_of_ge (by omega);clear hT;have ZB:=Hh hn;have C:=fun w1 h1=>Hh (XF hTab w1 h1 hn hl)
 clear hn
 by_cases hbig:4096<n
 ·have b1:decide ((n:Int) > 4096)=true:=by rw[decide_eq_true_eq];omega
  have b2:decide ((4096:Int)<n)=true:=by rw[decide_eq_true_eq];omega
  have hd:uY l=.error 8:=by have:=ZB.out;rw[uY,if_pos (by omega)]
  have cB:=Hh hd;clear hd C;go_enter Tryz.func62,Tryz.ntmps62
  go_wp2_with (with_reducible refine zx ?_)
  unfold zC
  generalize w.alloc zi=w1 at vk hG⊢
  refine stI vk fun w7 rG ww=>?_
  have wJ:=hG.grownOwn yO (by omega) ww;exact jeJ
 have b1:decide ((n:Int) > 4096)=false:=by rw[decide_eq_false_iff_not];omega
 have b2:decide ((4096:Int)<n)=false:=by rw[decide_eq_false_iff_not];omega
 have Ov:=Hh hbig;clear hbig;go_enter Tryz.func62,Tryz.ntmps62
 go_wp2_with fail
 have rE:w.heap.size<(w.alloc zi).heap.size:=vk.lt
 generalize w.alloc zi=w1 at vk hG rE⊢
 refine(C w1 hG.holds).out.mono ?_
 rintro e w3 hout
 unfold lM at hout
 cases hr:qY l with
 | err q =>
  rw[hr]at hout;obtain⟨rfl,hb⟩:=hout;have TI:=Hh hr;have cB:=Hh (show uY l=.error q by have:=ZB.out;have:=Ov.out;rw[uY,if_neg (by omega),hr]);clear hr;have ti:=vk.below hb;obtain⟨H',hH'⟩:∃ H',H'=H:=⟨_,rfl⟩
  have ye:Grows w H w3 H':=by rw[hH'];exact hG.trans (Grows.of_below hG.holds hb)
  have kC:H' w.heap.size=none:=by rw[hH'];exact yO
  clear hH';have oG:((q:Int) != 0)=true:=by rw[bne_iff_ne];have:=wL _ _ _ _ TI.out;omega
  have WS:((q:Int)=0)=False:=eq_false (by have:=wL _ _ _ _ TI.out;omega);exact jaJ
 | ok x k cc =>
 rw[hr]at hout;obtain⟨ja,jb,jc,jd,H',rfl,hg,hi⟩:=hout;have TI:=Hh hr;clear hr;have ti:=vk.below hg.below;have ye:Grows w H w3 H':=hG.trans hg;have kC:H' w.heap.size=none:=hg.none yO vk.lt
 by_cases hk:k<n
 ·have cB:=Hh (show uY l=.error 9 by have:=ZB.out;have:=Ov.out;rw[uY,if_neg (by omega),TI.out];simp only;rw[if_pos (by omega)]);have k1:decide ((k:Int)<n)=true:=by rw[decide_eq_true_eq];omega
  have k2:(k<n)=True:=eq_true hk;clear hk;exact jaJ
 have cB:=Hh (show uY l=.ok x by have:=ZB.out;have:=Ov.out;rw[uY,if_neg (by omega),TI.out];simp only;rw[if_neg (by omega)]);have k1:decide ((k:Int)<n)=false:=by rw[decide_eq_false_iff_not];omega
 have k2:(k<n)=False:=eq_false hk;clear hk;go_wp2_with (with_reducible refine zx ?_)
 unfold zC
 have Jb:w.heap.size<w3.heap.size:=ti.lt;obtain⟨hN,uG⟩:=jfn;have yF:=ye.alloc zi;have QT:=jgp;have fj:=jfF;clear hN ti
 generalize w3.alloc zi=w4 at fj uG yF⊢
 refine stI fj fun w5 rF xv=>?_
 have ol:=uG.gr xv (by omega);have xq:=yF.grownOwn QT (by omega) xv;clear uG yF fj;have c0:=rF.cell 0 rfl;have c1:=rF.cell 1 rfl;have c2:=rF.cell 2 rfl;have c3:=rF.cell 3 rfl;go_wp2_with (with_reducible refine zx ?_)
 refine stI ol fun w7 rG ww=>?_
 have wJ:=xq.grownOwn kC (by omega) ww;go_wp2_with fail
 refine zp rfl rfl rG rfl rfl zu rfl ?_
 unfold vf
 rw[cB.out]
 exact⟨ja,jb,jc,jd,H',rfl,wJ,hi⟩
end Go.Proofs.YtliomcphdnppnaaGreatDoor
