/- squeezed. Walks: the program's Prefix. Walks -/
import Derived.Test.YtnfoilblmhbobaaGreatDoorK24
set_option linter.unusedVariables false
set_option linter.unusedSimpArgs false
set_option maxRecDepth 100000
set_option maxHeartbeats 6400000
namespace Go.Proofs.YtnfoilblmhbobaaGreatDoor
open Go.RowKit
theorem IsBytes.take {H:Snap}{A:Option Addr}{c:Nat}{l:List UInt8}(h:IsBytes H A c l) (m:Nat):IsBytes H A c (l.take m):=by
 refine⟨by have:=h.le;rw[List.length_take];omega,h.max,fun ww=>?_⟩
 obtain⟨b,off,e,hc⟩:=h.row (by intro h0;rw[List.map_eq_nil_iff]at h0;subst h0;simp at ww)
 refine⟨b,off,e,fun j v hj=>hc j v ?_⟩
 rw[List.map_take,List.getElem?_take]at hj
 split at hj
 ·exact hj
 cases hj
def tS (w:World) (H:Snap) (l:List UInt8) (e:Ending) (w':World):Prop :=
 match sI l with
 | .err q=>e=.returned (.tuple #[og,.int .i64 0,.int .i64 (q:Int)])∧Below w.heap.size w w'
 | .ok x k _=>∃ ja jb jc jd H',e=.returned (.tuple #[qT x ja jb jc jd,.int .i64 (k:Int),.int .i64 0])∧Grows w H w' H'∧IsItem H' ja jb jc jd x
theorem rm {fn:Func}{p u v:Tmp}{ty:TypeId}(h:fn.results=#[.cell p ty,.tmp u,.tmp v]) (tmps:Array Value) (P:Program) (w:World) :
  (results fn tmps).run P w =
   ((asAddr (tmps.getD p undef)).run P w).andThen fun a w₁=>((loadVar ty a).run P w₁).andThen fun x w₂=>.ok (.tuple #[x,tmps.getD u undef,tmps.getD v undef]) w₂:=by
 simp only[results,h]
 simp[Sem.run_bind,Result.andThen]
theorem rz {fn:Func}{p u v:Tmp}{ty:TypeId}{a:Act}{w:World}{R:Ending→World→Prop}{g:Nat}{t:TypeId}{cs:Array Value}{d:TypeDesc}(h:fn.results=#[.cell p ty,.tmp u,.tmp v]) (hp:a.tmps.getD p undef=.pointer (some ⟨g,0,none⟩)) (hg:Blk w g t cs)
  (hd:(match d with | .struct _ | .array _ _=>true | _=>false)=true) (hu:Tryz.prog.underlying ty=some d) (hi:(Tryz.prog.info? ty).map (·.size)=some cs.size)
  (hdf:a.defers=[]) (hR:R (.returned (.tuple #[.agg cs,a.tmps.getD u undef,a.tmps.getD v undef])) w):bodyPost Tryz.prog fn R .ret a w:=by
 refine bodyPost_ret (v:=.tuple #[.agg cs,a.tmps.getD u undef,a.tmps.getD v undef]) ?_ hdf hR
 rw[rm h,hp];have my:=run_loadVar_row (P:=Tryz.prog) w g t ty cs (0,0) d hg hu (by cases d <;> first | exact hd | rfl | cases hd) hi
 simp[asAddr,my,Result.andThen]
theorem Ui (a b c:Value) (ha:a.oneCell'=true) (hb:b.oneCell'=true) (hc:c.oneCell'=true):(#[a,b,c]:Array Value).all (·.oneCell')=true:=by simp[ha,hb,hc]
theorem dp:(Tryz.prog.info? 86).map (·.size)=some 3:=by kernel_rfl
theorem Grows.trans_but {w w' w'':World}{H H' H'':Snap}{g:Nat}(h:Grows w H w' H') (k:GrowsBut w' H' w'' H'' g) (hg:w.heap.size≤g):Grows w H w'' H'':=by
 refine⟨zu h.below k.grown (by rintro q ⟨⟩;exact hg),h.le.trans k.le,k.holds,fun x o hx=>?_⟩
 rcases k.fresh x o hx with hx | hx
 ·exact h.fresh x o hx
 exact .inr (Nat.le_trans h.below.size hx)
theorem lB {H:Snap}(hTab:Tabs H) (w:World) (hH:Holds w H) {A:Option Addr}{n c:Nat}{l:List UInt8}(hn:n=l.length) (hl:IsBytes H A c l) :
  Calls Tryz.prog 35 #[.slice A n c] w (tS w H l):=by
 have Sq:=hl.le;have oo:=hl.max;obtain⟨m,hm⟩:∃ m,min n 4096=m:=⟨_,rfl⟩
 have ar:min (n:Int) 4096=(m:Int):=by omega
 have m1:(m:Int)≤(c:Int):=by omega
 have m0:(0:Int)≤(m:Int):=by omega
 have cR:(l.take 4096).length=m:=by rw[List.length_take];omega
 have mi:=Hh (And.intro hn (And.intro hm cR));clear hn hm cR Sq;go_enter Tryz.func35,Tryz.ntmps35
 go_wp2_with (with_reducible refine zx ?_)
 unfold zj
 have e1:(w.alloc zX).heap.size=w.heap.size+1:=by go_simp
 have hT:=(Blk.new w 73 #[.int .i64 0,.int .u64 0,.slice none 0 0,.slice none 0 0]).alloc (.cells #[.slice none 0 0,.int .i64 0,.int .i64 0] 86);have hB:=Blk.new (w.alloc zX) 86 #[.slice none 0 0,.int .i64 0,.int .i64 0];have hG:=((Grows.refl hH).alloc zX).alloc (.cells #[.slice none 0 0,.int .i64 0,.int .i64 0] 86);rw[e1]at hB;have vR:Blk ((w.alloc zX).alloc (.cells #[.slice none 0 0,.int .i64 0,.int .i64 0] 86)) w.heap.size 73 #[.int .i64 0,.int .u64 0,.slice none 0 0,.slice none 0 0]:=hT;clear hT
 generalize (w.alloc zX).alloc (.cells #[.slice none 0 0,.int .i64 0,.int .i64 0] 86)=w1 at hB hG vR⊢
 have tB:w.heap.size+1<w1.heap.size:=hB.lt;have vz:H w.heap.size=none:=hH.none_of_ge (by omega);have ti:H (w.heap.size+1)=none:=hH.none_of_ge (by omega)
 refine zr rfl _ _ _ rfl rfl _ _ rfl rfl _ _ hB dp rfl (Ui _ _ _ rfl rfl rfl) fun w2 xO us=>?_
 have yw:=hG.grownOwn ti (by omega) us;have tf:=vR.gr us (by omega);clear hG vR hB
 have Tt:Psr 86 w2 (w.heap.size+1) H A c (l.take 4096) 0 0 :=
  ⟨by obtain⟨_,_,cR⟩:=mi.out;rw[cR];exact xO,hl.take 4096,yw.holds,ti,by omega,by rw[List.length_take];omega,by omega⟩
 have C0:(Calls Tryz.prog 39 #[.pointer (some ⟨w.heap.size+1,0,none⟩),.int .i64 0] w2 (ItemOut 86 w2 H (w.heap.size+1) A c (l.take 4096) 0 (sI l))) :=
  (ZC 8 w2 H (w.heap.size+1) A c (l.take 4096) 0 0 0 hTab (by omega) Tt)
 have C:=Hh C0;clear Tt C0;go_wp2_with fail
 refine C.out.mono ?_
 rintro e w3 hout
 clear C
 cases hr:sI l with
 | err q =>
  rw[hr,ItemOut]at hout;obtain⟨rfl,H',p',cnt',hd⟩:=hout;have iC:=Hh hr;clear hr;have wR:=tf.rdg hd (by omega);have yt:=yw.trans_but hd.grows (by omega);go_wp2_with (with_reducible refine zx ?_)
  unfold zj
  have fd:w.heap.size+1<w3.heap.size:=hd.psr.gt;have hN:=Blk.new w3 73 #[.int .i64 0,.int .u64 0,.slice none 0 0,.slice none 0 0];have wF:Blk (w3.alloc zX) w.heap.size 73 #[.int .i64 0,.int .u64 0,.slice none 0 0,.slice none 0 0]:=wR.alloc _;have xm:=yt.alloc zX;have cO:H' w3.heap.size=none:=yt.holds.none_of_ge (by omega);have cN:H' w.heap.size=none:=hd.hid vz tf.lt;have nk:Blk (w3.alloc zX) w3.heap.size 73 #[.int .i64 0,.int .u64 0,.slice none 0 0,.slice none 0 0]:=hN;clear hN wR
  generalize w3.alloc zX=w4 at nk wF xm⊢
  refine stI nk fun w5 vN hg5=>?_
  have tO:=wF.gr hg5 (by omega);have yC:=xm.grownOwn cO (by omega) hg5;clear wF xm nk;have ui:((q:Int) != 0)=true:=by rw[bne_iff_ne];have:=yd _ _ _ _ iC.out;omega
  have kL:((q:Int)=0)=False:=eq_false (by have:=yd _ _ _ _ iC.out;omega);go_wp2_with (with_reducible refine zx ?_)
  refine stI tO fun w7 ug hg7=>?_
  have xp:=yC.grownOwn cN (by omega) hg7;go_wp2_with fail
  refine rz rfl rfl ug rfl rfl zi rfl ?_
  unfold tS
  rw[iC.out]
  exact⟨rfl,xp.below⟩
 | ok x k cc =>
 rw[hr,ItemOut,Nat.zero_add]at hout;obtain⟨ja,jb,jc,jd,H',rfl,hd,hi⟩:=hout;have iC:=Hh hr;clear hr;have wR:=tf.rdg hd (by omega);have yt:=yw.trans_but hd.grows (by omega)
 have wP:Blk w3 (w.heap.size+1) 86 #[.slice A m c,.int .i64 (k:Int),.int .i64 (cc:Int)]:=by
  have:=hd.psr.blk;obtain⟨_,_,cR⟩:=mi.out;rw[cR]at this;exact this
 go_wp2_with (with_reducible refine zx ?_)
 unfold zj
 have fd:w.heap.size+1<w3.heap.size:=hd.psr.gt;have hN:=Blk.new w3 73 #[.int .i64 0,.int .u64 0,.slice none 0 0,.slice none 0 0];have wF:Blk (w3.alloc zX) w.heap.size 73 #[.int .i64 0,.int .u64 0,.slice none 0 0,.slice none 0 0]:=wR.alloc _;have sY:Blk (w3.alloc zX) (w.heap.size+1) 86 #[.slice A m c,.int .i64 (k:Int),.int .i64 (cc:Int)]:=wP.alloc _;have xm:=yt.alloc zX;have cO:H' w3.heap.size=none:=yt.holds.none_of_ge (by omega);have cN:H' w.heap.size=none:=hd.hid vz tf.lt;have nk:Blk (w3.alloc zX) w3.heap.size 73 #[.int .i64 0,.int .u64 0,.slice none 0 0,.slice none 0 0]:=hN;clear hN wR wP
 generalize w3.alloc zX=w4 at nk wF xm sY⊢
 refine stI nk fun w5 vN hg5=>?_
 have tO:=wF.gr hg5 (by omega);have qz:=sY.gr hg5 (by omega);have yC:=xm.grownOwn cO (by omega) hg5;clear wF xm nk sY;go_upto_region 5 with fail
 have tO:=tO.drew;have vN:=vN.drew;have qz:=qz.drew;have yC:=yC.drew
 refine zp 5 (fun w'=>w'.cell? ⟨w3.heap.size,0,none⟩=some (.int .i64 x.kind)∧w'.cell? ⟨w3.heap.size,1,none⟩=some (.int .u64 x.n)∧w'.cell? ⟨w3.heap.size,2,none⟩=some (.slice ja x.bytes.length jb)∧w'.cell? ⟨w3.heap.size,3,none⟩=some (.slice jc x.items.length jd)∧w'.cell? ⟨w.heap.size+1,1,none⟩=some (.int .i64 (k:Int))) (by kernel_rfl) (⟨vN.cell 0 rfl,vN.cell 1 rfl,vN.cell 2 rfl,vN.cell 3 rfl,qz.cell 1 rfl⟩) (fun zy=>?_)
 refine Tk 0 rfl zy ?_
 refine Tk 1 rfl zy ?_
 refine Tk 2 rfl zy ?_
 refine To 3 rfl fun K hK=>?_
 refine zD _ _ _ rfl _ _ rfl rfl _ _ tO zi rfl (XT _ _ _ _ rfl rfl rfl rfl) fun w7 ug hg7=>?_
 have vN:=vN.gr hg7 (by omega);have qz:=qz.gr hg7 (by omega);have xp:=yC.grownOwn cN (by omega) hg7;go_simp
 refine Ko hK ?_ fun zy=>?_
 ·exact⟨vN.cell 0 rfl,vN.cell 1 rfl,vN.cell 2 rfl,vN.cell 3 rfl,qz.cell 1 rfl⟩
 clear hK K
 refine Tk 4 rfl zy ?_
 refine To 5 rfl fun K hK=>?_
 go_simp
 refine Kz hK ?_
 clear hK K
 refine Wd ?_
 go_wp2_with fail
 refine rz rfl rfl ug rfl rfl zi rfl ?_
 unfold tS
 rw[iC.out]
 exact⟨ja,jb,jc,jd,H',rfl,xp,hi⟩
def vh (w:World) (H:Snap) (l:List UInt8) (e:Ending) (w':World):Prop :=
 match wZ l with
 | .error q=>e=.returned (.tuple #[og,.int .i64 (q:Int)])∧Below w.heap.size w w'
 | .ok x=>∃ ja jb jc jd H',e=.returned (.tuple #[qT x ja jb jc jd,.int .i64 0])∧Grows w H w' H'∧IsItem H' ja jb jc jd x
theorem lA {H:Snap}(hTab:Tabs H) (w:World) (hH:Holds w H) {A:Option Addr}{n c:Nat}{l:List UInt8}(hn:n=l.length) (hl:IsBytes H A c l) :
  Calls Tryz.prog 28 #[.slice A n c] w (vh w H l):=by
 have hT:=Blk.new w 73 #[.int .i64 0,.int .u64 0,.slice none 0 0,.slice none 0 0];have hG:=(Grows.refl hH).alloc zX;have vR:Blk (w.alloc zX) w.heap.size 73 #[.int .i64 0,.int .u64 0,.slice none 0 0,.slice none 0 0]:=hT;have vz:H w.heap.size=none:=hH.none_of_ge (by omega);clear hT;have mi:=Hh hn;have C:=fun w1 h1=>Hh (lB hTab w1 h1 hn hl)
 clear hn
 by_cases hbig:4096<n
 ·have b1:decide ((n:Int) > 4096)=true:=by rw[decide_eq_true_eq];omega
  have b2:decide ((4096:Int)<n)=true:=by rw[decide_eq_true_eq];omega
  have hd:wZ l=.error 8:=by have:=mi.out;rw[wZ,if_pos (by omega)]
  have my:=Hh hd;clear hd C;go_enter Tryz.func28,Tryz.ntmps28
  go_wp2_with (with_reducible refine zx ?_)
  unfold zj
  generalize w.alloc zX=w1 at vR hG⊢
  refine stI vR fun w7 ug hg7=>?_
  have xp:=hG.grownOwn vz (by omega) hg7;go_wp2_with fail
  refine zo rfl rfl ug rfl rfl zi rfl ?_
  unfold vh
  rw[my.out]
  exact⟨rfl,xp.below⟩
 have b1:decide ((n:Int) > 4096)=false:=by rw[decide_eq_false_iff_not];omega
 have b2:decide ((4096:Int)<n)=false:=by rw[decide_eq_false_iff_not];omega
 have eM:=Hh hbig;clear hbig;go_enter Tryz.func28,Tryz.ntmps28
 go_wp2_with fail
 have tB:w.heap.size<(w.alloc zX).heap.size:=vR.lt
 generalize w.alloc zX=w1 at vR hG tB⊢
 refine(C w1 hG.holds).out.mono ?_
 rintro e w3 hout
 unfold tS at hout
 cases hr:sI l with
 | err q =>
  rw[hr]at hout;obtain⟨rfl,hb⟩:=hout;have iC:=Hh hr;have my:=Hh (show wZ l=.error q by have:=mi.out;have:=eM.out;rw[wZ,if_neg (by omega),hr]);clear hr;have wR:=vR.below hb;obtain⟨H',VC⟩:∃ H',H'=H:=⟨_,rfl⟩
  have yt:Grows w H w3 H':=by rw[VC];exact hG.trans (Grows.of_below hG.holds hb)
  have cN:H' w.heap.size=none:=by rw[VC];exact vz
  clear VC;have ui:((q:Int) != 0)=true:=by rw[bne_iff_ne];have:=yd _ _ _ _ iC.out;omega
  have kL:((q:Int)=0)=False:=eq_false (by have:=yd _ _ _ _ iC.out;omega);go_wp2_with (with_reducible refine zx ?_)
  unfold zj
  have fd:w.heap.size<w3.heap.size:=wR.lt;have hN:=Blk.new w3 73 #[.int .i64 0,.int .u64 0,.slice none 0 0,.slice none 0 0];have wF:Blk (w3.alloc zX) w.heap.size 73 #[.int .i64 0,.int .u64 0,.slice none 0 0,.slice none 0 0]:=wR.alloc _;have xm:=yt.alloc zX;have cO:H' w3.heap.size=none:=yt.holds.none_of_ge (by omega);have nk:Blk (w3.alloc zX) w3.heap.size 73 #[.int .i64 0,.int .u64 0,.slice none 0 0,.slice none 0 0]:=hN;clear hN wR
  generalize w3.alloc zX=w4 at nk wF xm⊢
  refine stI nk fun w5 vN hg5=>?_
  have tO:=wF.gr hg5 (by omega);have yC:=xm.grownOwn cO (by omega) hg5;clear wF xm nk;go_wp2_with (with_reducible refine zx ?_)
  refine stI tO fun w7 ug hg7=>?_
  have xp:=yC.grownOwn cN (by omega) hg7;go_wp2_with fail
  refine zo rfl rfl ug rfl rfl zi rfl ?_
  unfold vh
  rw[my.out]
  exact⟨rfl,xp.below⟩
 | ok x k cc =>
 rw[hr]at hout;obtain⟨ja,jb,jc,jd,H',rfl,hg,hi⟩:=hout;have iC:=Hh hr;clear hr;have wR:=vR.below hg.below;have yt:Grows w H w3 H':=hG.trans hg;have cN:H' w.heap.size=none:=hg.none vz vR.lt
 by_cases hk:k<n
 ·have my:=Hh (show wZ l=.error 9 by have:=mi.out;have:=eM.out;rw[wZ,if_neg (by omega),iC.out];simp only;rw[if_pos (by omega)]);have k1:decide ((k:Int)<n)=true:=by rw[decide_eq_true_eq];omega
  have k2:(k<n)=True:=eq_true hk;clear hk;go_wp2_with (with_reducible refine zx ?_)
  unfold zj
  have fd:w.heap.size<w3.heap.size:=wR.lt;have hN:=Blk.new w3 73 #[.int .i64 0,.int .u64 0,.slice none 0 0,.slice none 0 0];have wF:Blk (w3.alloc zX) w.heap.size 73 #[.int .i64 0,.int .u64 0,.slice none 0 0,.slice none 0 0]:=wR.alloc _;have xm:=yt.alloc zX;have cO:H' w3.heap.size=none:=yt.holds.none_of_ge (by omega);have nk:Blk (w3.alloc zX) w3.heap.size 73 #[.int .i64 0,.int .u64 0,.slice none 0 0,.slice none 0 0]:=hN;clear hN wR
  generalize w3.alloc zX=w4 at nk wF xm⊢
  refine stI nk fun w5 vN hg5=>?_
  have tO:=wF.gr hg5 (by omega);have yC:=xm.grownOwn cO (by omega) hg5;clear wF xm nk;go_wp2_with (with_reducible refine zx ?_)
  refine stI tO fun w7 ug hg7=>?_
  have xp:=yC.grownOwn cN (by omega) hg7;go_wp2_with fail
  refine zo rfl rfl ug rfl rfl zi rfl ?_
  unfold vh
  rw[my.out]
  exact⟨rfl,xp.below⟩
 have my:=Hh (show wZ l=.ok x by have:=mi.out;have:=eM.out;rw[wZ,if_neg (by omega),iC.out];simp only;rw[if_neg (by omega)]);have k1:decide ((k:Int)<n)=false:=by rw[decide_eq_false_iff_not];omega
 have k2:(k<n)=False:=eq_false hk;clear hk;go_wp2_with (with_reducible refine zx ?_)
 unfold zj
 have fd:w.heap.size<w3.heap.size:=wR.lt;have hN:=Blk.new w3 73 #[.int .i64 0,.int .u64 0,.slice none 0 0,.slice none 0 0];have wF:Blk (w3.alloc zX) w.heap.size 73 #[.int .i64 0,.int .u64 0,.slice none 0 0,.slice none 0 0]:=wR.alloc _;have xm:=yt.alloc zX;have cO:H' w3.heap.size=none:=yt.holds.none_of_ge (by omega);have nk:Blk (w3.alloc zX) w3.heap.size 73 #[.int .i64 0,.int .u64 0,.slice none 0 0,.slice none 0 0]:=hN;clear hN wR
 generalize w3.alloc zX=w4 at nk wF xm⊢
 refine stI nk fun w5 vN hg5=>?_
 have tO:=wF.gr hg5 (by omega);have yC:=xm.grownOwn cO (by omega) hg5;clear wF xm nk;have c0:=vN.cell 0 rfl;have c1:=vN.cell 1 rfl;have c2:=vN.cell 2 rfl;have c3:=vN.cell 3 rfl;go_wp2_with (with_reducible refine zx ?_)
 refine stI tO fun w7 ug hg7=>?_
 have xp:=yC.grownOwn cN (by omega) hg7;go_wp2_with fail
 refine zo rfl rfl ug rfl rfl zi rfl ?_
 unfold vh
 rw[my.out]
 exact⟨ja,jb,jc,jd,H',rfl,xp,hi⟩
theorem ry {fn:Func}{t u v x:Tmp}(h:fn.results=#[.tmp t,.tmp u,.tmp v,.tmp x]) (tmps:Array Value) (P:Program) (w:World) :
  (results fn tmps).run P w=.ok (.tuple #[tmps.getD t undef,tmps.getD u undef,tmps.getD v undef,tmps.getD x undef]) w:=by
 simp[results,h]
theorem tI {P:Nat}(w:World) (hB:Blk w P 5 #[.int .u8 245,.int .u8 1]) :
  Calls Tryz.prog 17 #[.slice (some ⟨P,0,none⟩) 2 2] w fun e w'=>∃ B d,e=.returned (.tuple #[.int .i64 1,.slice none 0 0,.slice B 1 d,.int .i64 0])∧Below w.heap.size w w':=by
 have q0:=hB.cell 0 rfl
 have hs:Src w (some ⟨P,1,none⟩) (([1]:List UInt8).map zm):=fun _=>⟨P,1,rfl,fun j v hj=>by
  match j,hj with
  | 0,hj=>cases hj;exact hB.cell 1 rfl⟩
 have C:=Hh (vW (c:=1) (n:=1) (l:=[1]) rfl (by simp) w hs);clear hB hs;go_enter Tryz.func17,Tryz.ntmps17
 go_wp2_with fail
 refine C.out.mono ?_
 rintro e w1 ⟨r1,rfl,uh⟩
 obtain⟨A1,c1,rfl,_⟩:=uh.own.form;have zd:=uh.2;clear uh C q0;go_wp2_with fail
 try simp only[Exit.inBlock,Exit.then]
 refine bodyPost_ret (ry rfl _ _ _) rfl ?_
 exact⟨_,_,rfl,zd⟩
theorem bH:yx [55,65,9]=.ok ([55],1):=by rfl
theorem bJ:wZ [65,9]=.ok (.mk 2 0 [9] []):=by kernel_rfl
theorem rQ {H:Snap}(hTab:Tabs H) {P:Nat}(hI:IsBytes H (some ⟨P,0,none⟩) 3 [55,65,9]) (hJ:IsBytes H (some ⟨P,1,none⟩) 2 [65,9]) (w:World) (hH:Holds w H) :
  Calls Tryz.prog 17 #[.slice (some ⟨P,0,none⟩) 3 3] w fun e w'=>∃ A c B d,e=.returned (.tuple #[.int .i64 2,.slice A 1 c,.slice B 2 d,.int .i64 0])∧Below w.heap.size w w':=by
 have Zl:=Src.of_row hI.row hH
 have q0:w.cell? ⟨P,0,none⟩=some (.int .u8 55):=by
  obtain⟨b,off,e,nr⟩:=Src.at0 Zl;injection e with e
  injection e with e1 e2
  subst e1 e2
  exact nr 0 (by simp)
 have PC:=Hh (qr (c:=3) (n:=3) (l:=[55,65,9]) rfl (by simp) (by omega) (by omega) w Zl);have HT:=Hh hTab;have HJ:=Hh hJ;have HH:=Hh hH;clear hI hJ Zl hTab hH;go_enter Tryz.func17,Tryz.ntmps17
 go_wp2_with fail
 refine PC.out.mono ?_
 rintro e w1 ri
 rw[ConnSaid,bH]at ri;obtain⟨r1,rfl,uh⟩:=ri;obtain⟨A1,c1,rfl,_⟩:=uh.own.form;rw[show([55]:List UInt8).length=1 from rfl];have zd:=uh.2;have U4:=HH.out.below zd (Nat.le_refl _);have DC:=Hh (lA HT.out w1 U4 (n:=2) (c:=2) (l:=[65,9]) rfl HJ.out);clear uh PC q0;go_wp2_with fail
 refine DC.out.mono ?_
 rintro e w2 vS
 rw[vh,bJ]at vS;obtain⟨ja,jb,jc,jd,H2,rfl,yw,Sk⟩:=vS;rw[show qT (.mk 2 0 [9] []) ja jb jc jd=.agg #[.int .i64 2,.int .u64 0,.slice ja 1 jb,.slice jc 0 jd] from rfl];have hk:=yw.alloc (.cells #[.int .i64 2,.int .u64 0,.slice ja 1 jb,.slice jc 0 jd] 73);have hI:=Blk.new w2 73 #[.int .i64 2,.int .u64 0,.slice ja 1 jb,.slice jc 0 jd];have k0:=hI.cell 0 rfl;have yV:=zd.trans (hk.below.mono zd.size);have dC:=Src.of_row (HJ.out.mono hk.le).row hk.holds;obtain⟨w3,iE⟩:∃ w3,w2.alloc (.cells #[.int .i64 2,.int .u64 0,.slice ja 1 jb,.slice jc 0 jd] 73)=w3:=⟨_,rfl⟩
 rw[iE]at yV dC;have C:=Hh (vW (c:=2) (n:=2) (l:=[65,9]) rfl (by simp) w3 dC);have HW:=Hh iE;have Uk:=Hh yV;clear zd U4 DC yw Sk hk hI dC iE yV;go_wp2_with fail
 rw[HW.out]
 refine C.out.mono ?_
 rintro e w4 ⟨r4,rfl,qd⟩
 obtain⟨A4,c4,rfl,_⟩:=qd.own.form;have xW:=Uk.out.trans (qd.2.mono Uk.out.size);clear qd C Uk HW k0;go_wp2_with fail
 try simp only[Exit.inBlock,Exit.then]
 refine bodyPost_ret (ry rfl _ _ _) rfl ?_
 exact⟨_,_,_,_,rfl,xW⟩
theorem rG {H:Snap}(hTab:Tabs H) (w:World) (hH:Holds w H) :
  Calls Tryz.prog 6 #[] w fun e w'=>e=.returned (.bool true)∧Below w.heap.size w w':=by
 have hB:=Blk.new w 5 #[.int .u8 245,.int .u8 1];have zd:=zb w (.cells #[.int .u8 245,.int .u8 1] 5);obtain⟨P,hP⟩:∃ P,w.heap.size=P:=⟨_,rfl⟩
 obtain⟨w1,vT⟩:∃ w1,w.alloc (.cells #[.int .u8 245,.int .u8 1] 5)=w1:=⟨_,rfl⟩
 rw[hP,vT]at hB;rw[vT]at zd;have C1:=Hh (tI w1 hB);have YO:=Hh (And.intro hP vT);have HT:=Hh hTab;have HH:=Hh hH;have bn:=Hh zd;clear hB hP vT hTab hH zd;go_enter Tryz.func6,Tryz.ntmps6
 go_wp2_with fail
 rw[YO.out.1,YO.out.2]
 refine C1.out.mono ?_
 rintro e w2 ⟨B2,d2,rfl,zO⟩
 have yV:=bn.out.trans (zO.mono bn.out.size);have am:=HH.out.below yV (Nat.le_refl _);obtain⟨H3,yt,WY,_⟩:=Fresh.snapB am (Fresh.lit w2 [55,65,9] #[.int .u8 55,.int .u8 65,.int .u8 9] 3 rfl (by simp) rfl)
 have fH:IsBytes H3 (some ⟨w2.heap.size,1,none⟩) 2 [65,9]:=by
  have h:=WY.drop' 1 (by simp);rw[if_neg (by omega)]at h
  exact h
 obtain⟨Q,hQ⟩:∃ Q,w2.heap.size=Q:=⟨_,rfl⟩
 obtain⟨w3,iE⟩:∃ w3,w2.alloc (.cells #[.int .u8 55,.int .u8 65,.int .u8 9] 5)=w3:=⟨_,rfl⟩
 rw[hQ]at WY fH;rw[iE]at yt;have C2:=Hh (rQ (HT.out.mono yt.le) WY fH w3 yt.holds);have xW:=yV.trans (yt.below.mono yV.size);have bw:=Hh (And.intro hQ iE);have bp:=Hh xW;clear WY fH yt yV zO am hQ iE xW C1;go_wp2_with fail
 rw[bw.out.1,bw.out.2]
 refine C2.out.mono ?_
 rintro e w4 ⟨A4,c4,B4,d4,rfl,yv⟩
 have wT:=bp.out.trans (yv.mono bp.out.size);clear C2 yv bp bw;go_wp2_with fail
 go_ret
 exact⟨rfl,wT⟩
end Go.Proofs.YtnfoilblmhbobaaGreatDoor
