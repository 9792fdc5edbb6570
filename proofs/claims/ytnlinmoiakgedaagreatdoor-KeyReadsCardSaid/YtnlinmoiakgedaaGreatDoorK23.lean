/- squeezed. Walks: the program's Prefix. Walks -/
import Derived.Test.YtnlinmoiakgedaaGreatDoorK22
set_option linter.unusedVariables false
set_option linter.unusedSimpArgs false
set_option maxRecDepth 100000
set_option maxHeartbeats 6400000
namespace Go.Proofs.YtnlinmoiakgedaaGreatDoor
open Go.RowKit
theorem IsBytes.take {H:Snap}{A:Option Addr}{c:Nat}{l:List UInt8}(h:IsBytes H A c l) (m:Nat):IsBytes H A c (l.take m):=by
 refine⟨by have:=h.le;rw[List.length_take];omega,h.max,fun wd=>?_⟩
 obtain⟨b,off,e,hc⟩:=h.row (by intro h0;rw[List.map_eq_nil_iff]at h0;subst h0;simp at wd)
 refine⟨b,off,e,fun j v hj=>hc j v ?_⟩
 rw[List.map_take,List.getElem?_take]at hj
 split at hj
 ·exact hj
 ·cases hj
def tq (w:World) (H:Snap) (l:List UInt8) (e:Ending) (w':World):Prop :=
 match tg l with
 | .err q=>e=.returned (.tuple #[jF,.int .i64 0,.int .i64 (q:Int)])∧Below w.heap.size w w'
 | .ok x k _=>∃ ja jb jc jd H',e=.returned (.tuple #[xN x ja jb jc jd,.int .i64 (k:Int),.int .i64 0])∧Grows w H w' H'∧IsItem H' ja jb jc jd x
theorem nK {fn:Func}{p u v:Tmp}{ty:TypeId}(h:fn.results=#[.cell p ty,.tmp u,.tmp v]) (tmps:Array Value) (P:Program) (w:World) :
  (results fn tmps).run P w =
   ((asAddr (tmps.getD p undef)).run P w).andThen fun a w₁=>((loadVar ty a).run P w₁).andThen fun x w₂=>.ok (.tuple #[x,tmps.getD u undef,tmps.getD v undef]) w₂:=by
 simp only[results,h]
 simp[Sem.run_bind,Result.andThen]
theorem sY {fn:Func}{p u v:Tmp}{ty:TypeId}{a:Act}{w:World}{R:Ending→World→Prop}{g:Nat}{t:TypeId}{cs:Array Value}{d:TypeDesc}(h:fn.results=#[.cell p ty,.tmp u,.tmp v]) (hp:a.tmps.getD p undef=.pointer (some ⟨g,0,none⟩)) (hg:Blk w g t cs)
  (hd:(match d with | .struct _ | .array _ _=>true | _=>false)=true) (hu:Tryz.prog.underlying ty=some d) (hi:(Tryz.prog.info? ty).map (·.size)=some cs.size)
  (hdf:a.defers=[]) (hR:R (.returned (.tuple #[.agg cs,a.tmps.getD u undef,a.tmps.getD v undef])) w):bodyPost Tryz.prog fn R .ret a w:=by
 refine bodyPost_ret (v:=.tuple #[.agg cs,a.tmps.getD u undef,a.tmps.getD v undef]) ?_ hdf hR
 rw[nK h,hp];have iV:=run_loadVar_row (P:=Tryz.prog) w g t ty cs (0,0) d hg hu (by cases d <;> first | exact hd | rfl | cases hd) hi
 simp[asAddr,iV,Result.andThen]
theorem Oi (a b c:Value) (ha:a.oneCell'=true) (hb:b.oneCell'=true) (hc:c.oneCell'=true):(#[a,b,c]:Array Value).all (·.oneCell')=true:=by simp[ha,hb,hc]
theorem YJ:(Tryz.prog.info? 108).map (·.size)=some 3:=by kernel_rfl
theorem Grows.trans_but {w w' w'':World}{H H' H'':Snap}{g:Nat}(h:Grows w H w' H') (k:GrowsBut w' H' w'' H'' g) (hg:w.heap.size≤g):Grows w H w'' H'':=by
 refine⟨yP h.below k.grown (by rintro q ⟨⟩;exact hg),h.le.trans k.le,k.holds,fun x o hx=>?_⟩
 rcases k.fresh x o hx with hx | hx
 ·exact h.fresh x o hx
 ·exact .inr (Nat.le_trans h.below.size hx)
theorem ed {H:Snap}(hTab:Tabs H) (w:World) (hH:Holds w H) {A:Option Addr}{n c:Nat}{l:List UInt8}(hn:n=l.length) (hl:IsBytes H A c l) :
  Calls Tryz.prog 59 #[.slice A n c] w (tq w H l):=by
 have T6:=hl.le;have pA:=hl.max;obtain⟨m,hm⟩:∃ m,min n 4096=m:=⟨_,rfl⟩
 have eX:min (n:Int) 4096=(m:Int):=by omega
 have m1:(m:Int)≤(c:Int):=by omega
 have m0:(0:Int)≤(m:Int):=by omega
 have iZ:(l.take 4096).length=m:=by rw[List.length_take];omega
 have mE:=Hh (And.intro hn (And.intro hm iZ));clear hn hm iZ T6;go_enter Tryz.func59,Tryz.ntmps59
 go_wp2_with (with_reducible refine zx ?_)
 unfold yE
 have e1:(w.alloc zr).heap.size=w.heap.size+1:=by go_simp
 have hT:=(Blk.new w 26 #[.int .i64 0,.int .u64 0,.slice none 0 0,.slice none 0 0]).alloc (.cells #[.slice none 0 0,.int .i64 0,.int .i64 0] 108);have hB:=Blk.new (w.alloc zr) 108 #[.slice none 0 0,.int .i64 0,.int .i64 0];have hG:=((Grows.refl hH).alloc zr).alloc (.cells #[.slice none 0 0,.int .i64 0,.int .i64 0] 108);rw[e1]at hB;have xC:Blk ((w.alloc zr).alloc (.cells #[.slice none 0 0,.int .i64 0,.int .i64 0] 108)) w.heap.size 26 #[.int .i64 0,.int .u64 0,.slice none 0 0,.slice none 0 0]:=hT;clear hT
 generalize (w.alloc zr).alloc (.cells #[.slice none 0 0,.int .i64 0,.int .i64 0] 108)=w1 at hB hG xC⊢
 have sB:w.heap.size+1<w1.heap.size:=hB.lt;have zQ:H w.heap.size=none:=hH.none_of_ge (by omega);have uy:H (w.heap.size+1)=none:=hH.none_of_ge (by omega)
 refine zc rfl _ _ _ rfl rfl _ _ rfl rfl _ _ hB YJ rfl (Oi _ _ _ rfl rfl rfl) fun w2 yu wk=>?_
 have yp:=hG.grownOwn uy (by omega) wk;have xD:=xC.gr wk (by omega);clear hG xC hB
 have Sp:Psr 108 w2 (w.heap.size+1) H A c (l.take 4096) 0 0 :=
  ⟨by obtain⟨_,_,iZ⟩:=mE.out;rw[iZ];exact yu,hl.take 4096,yp.holds,uy,by omega,by rw[List.length_take];omega,by omega⟩
 have C0:(Calls Tryz.prog 78 #[.pointer (some ⟨w.heap.size+1,0,none⟩),.int .i64 0] w2 (ItemOut 108 w2 H (w.heap.size+1) A c (l.take 4096) 0 (tg l))) :=
  (Tx 8 w2 H (w.heap.size+1) A c (l.take 4096) 0 0 0 hTab (by omega) Sp)
 have C:=Hh C0;clear Sp C0;go_wp2_with fail
 refine C.out.mono ?_
 rintro e w3 hout
 clear C
 cases hr:tg l with
 | err q =>
  rw[hr,ItemOut]at hout;obtain⟨rfl,H',p',cnt',hd⟩:=hout;have mI:=Hh hr;clear hr;have xM:=xD.rdg hd (by omega);have yO:=yp.trans_but hd.grows (by omega);go_wp2_with (with_reducible refine zx ?_)
  unfold yE
  have eN:w.heap.size+1<w3.heap.size:=hd.psr.gt;have hN:=Blk.new w3 26 #[.int .i64 0,.int .u64 0,.slice none 0 0,.slice none 0 0];have xG:Blk (w3.alloc zr) w.heap.size 26 #[.int .i64 0,.int .u64 0,.slice none 0 0,.slice none 0 0]:=xM.alloc _;have wH:=yO.alloc zr;have nI:H' w3.heap.size=none:=yO.holds.none_of_ge (by omega);have qN:H' w.heap.size=none:=hd.hid zQ xD.lt;have rC:Blk (w3.alloc zr) w3.heap.size 26 #[.int .i64 0,.int .u64 0,.slice none 0 0,.slice none 0 0]:=hN;clear hN xM
  generalize w3.alloc zr=w4 at rC xG wH⊢
  refine stI rC fun w5 yh sp=>?_
  have yf:=xG.gr sp (by omega);have zJ:=wH.grownOwn nI (by omega) sp;clear xG wH rC;have oA:((q:Int) != 0)=true:=by rw[bne_iff_ne];have:=yJ _ _ _ _ mI.out;omega
  have mA:((q:Int)=0)=False:=eq_false (by have:=yJ _ _ _ _ mI.out;omega);go_wp2_with (with_reducible refine zx ?_)
  refine stI yf fun w7 yL hg7=>?_
  have wP:=zJ.grownOwn qN (by omega) hg7;go_wp2_with fail
  refine sY rfl rfl yL rfl rfl zw rfl ?_
  unfold tq
  rw[mI.out]
  exact⟨rfl,wP.below⟩
 | ok x k cc =>
  rw[hr,ItemOut,Nat.zero_add]at hout;obtain⟨ja,jb,jc,jd,H',rfl,hd,hi⟩:=hout;have mI:=Hh hr;clear hr;have xM:=xD.rdg hd (by omega);have yO:=yp.trans_but hd.grows (by omega)
  have wO:Blk w3 (w.heap.size+1) 108 #[.slice A m c,.int .i64 (k:Int),.int .i64 (cc:Int)]:=by
   have:=hd.psr.blk;obtain⟨_,_,iZ⟩:=mE.out;rw[iZ]at this;exact this
  go_wp2_with (with_reducible refine zx ?_)
  unfold yE
  have eN:w.heap.size+1<w3.heap.size:=hd.psr.gt;have hN:=Blk.new w3 26 #[.int .i64 0,.int .u64 0,.slice none 0 0,.slice none 0 0];have xG:Blk (w3.alloc zr) w.heap.size 26 #[.int .i64 0,.int .u64 0,.slice none 0 0,.slice none 0 0]:=xM.alloc _;have pV:Blk (w3.alloc zr) (w.heap.size+1) 108 #[.slice A m c,.int .i64 (k:Int),.int .i64 (cc:Int)]:=wO.alloc _;have wH:=yO.alloc zr;have nI:H' w3.heap.size=none:=yO.holds.none_of_ge (by omega);have qN:H' w.heap.size=none:=hd.hid zQ xD.lt;have rC:Blk (w3.alloc zr) w3.heap.size 26 #[.int .i64 0,.int .u64 0,.slice none 0 0,.slice none 0 0]:=hN;clear hN xM wO
  generalize w3.alloc zr=w4 at rC xG wH pV⊢
  refine stI rC fun w5 yh sp=>?_
  have yf:=xG.gr sp (by omega);have yA:=pV.gr sp (by omega);have zJ:=wH.grownOwn nI (by omega) sp;clear xG wH rC pV;go_upto_region 5 with fail
  have yf:=yf.drew;have yh:=yh.drew;have yA:=yA.drew;have zJ:=zJ.drew
  refine zf 5 (fun w'=>w'.cell? ⟨w3.heap.size,0,none⟩=some (.int .i64 x.kind)∧w'.cell? ⟨w3.heap.size,1,none⟩=some (.int .u64 x.n)∧w'.cell? ⟨w3.heap.size,2,none⟩=some (.slice ja x.bytes.length jb)∧w'.cell? ⟨w3.heap.size,3,none⟩=some (.slice jc x.items.length jd)∧w'.cell? ⟨w.heap.size+1,1,none⟩=some (.int .i64 (k:Int))) (by kernel_rfl) (⟨yh.cell 0 rfl,yh.cell 1 rfl,yh.cell 2 rfl,yh.cell 3 rfl,yA.cell 1 rfl⟩) (fun zy=>?_)
  refine Tk 0 rfl zy ?_
  refine Tk 1 rfl zy ?_
  refine Tk 2 rfl zy ?_
  refine To 3 rfl fun K hK=>?_
  refine uq _ _ _ rfl _ _ rfl rfl _ _ yf zw rfl (wu _ _ _ _ rfl rfl rfl rfl) fun w7 yL hg7=>?_
  have yh:=yh.gr hg7 (by omega);have yA:=yA.gr hg7 (by omega);have wP:=zJ.grownOwn qN (by omega) hg7;go_simp
  refine hK.out _ _ (fun _=>?_) (fun zy=>?_)
  ·exact⟨yh.cell 0 rfl,yh.cell 1 rfl,yh.cell 2 rfl,yh.cell 3 rfl,yA.cell 1 rfl⟩
  clear hK K;have zy:=zy (by decide)
  try simp only[Act.put,zz1,zz2,zz3,zz4,zz5,zz6]
  refine Tk 4 rfl zy ?_
  refine To 5 rfl fun K hK=>?_
  go_simp
  refine hK.out _ _ (fun h=>absurd rfl h) (fun _=>?_)
  clear hK K
  try simp only[Act.put,zz1,zz2,zz3,zz4,zz5,zz6]
  refine Ways.done (by kernel_rfl) ?_
  go_wp2_with fail
  refine sY rfl rfl yL rfl rfl zw rfl ?_
  unfold tq
  rw[mI.out]
  exact⟨ja,jb,jc,jd,H',rfl,wP,hi⟩
def vv (w:World) (H:Snap) (l:List UInt8) (e:Ending) (w':World):Prop :=
 match xB l with
 | .error q=>e=.returned (.tuple #[jF,.int .i64 (q:Int)])∧Below w.heap.size w w'
 | .ok x=>∃ ja jb jc jd H',e=.returned (.tuple #[xN x ja jb jc jd,.int .i64 0])∧Grows w H w' H'∧IsItem H' ja jb jc jd x
theorem ea {H:Snap}(hTab:Tabs H) (w:World) (hH:Holds w H) {A:Option Addr}{n c:Nat}{l:List UInt8}(hn:n=l.length) (hl:IsBytes H A c l) :
  Calls Tryz.prog 45 #[.slice A n c] w (vv w H l):=by
 have hT:=Blk.new w 26 #[.int .i64 0,.int .u64 0,.slice none 0 0,.slice none 0 0];have hG:=(Grows.refl hH).alloc zr;have xC:Blk (w.alloc zr) w.heap.size 26 #[.int .i64 0,.int .u64 0,.slice none 0 0,.slice none 0 0]:=hT;have zQ:H w.heap.size=none:=hH.none_of_ge (by omega);clear hT;have mE:=Hh hn;have C:=fun w1 h1=>Hh (ed hTab w1 h1 hn hl)
 clear hn
 by_cases hbig:4096<n
 ·have b1:decide ((n:Int) > 4096)=true:=by rw[decide_eq_true_eq];omega
  have b2:decide ((4096:Int)<n)=true:=by rw[decide_eq_true_eq];omega
  have hd:xB l=.error 8:=by have:=mE.out;rw[xB,if_pos (by omega)]
  have iV:=Hh hd;clear hd C;go_enter Tryz.func45,Tryz.ntmps45
  go_wp2_with (with_reducible refine zx ?_)
  unfold yE
  generalize w.alloc zr=w1 at xC hG⊢
  refine stI xC fun w7 yL hg7=>?_
  have wP:=hG.grownOwn zQ (by omega) hg7;go_wp2_with fail
  refine zv rfl rfl yL rfl rfl zw rfl ?_
  unfold vv
  rw[iV.out]
  exact⟨rfl,wP.below⟩
 ·have b1:decide ((n:Int) > 4096)=false:=by rw[decide_eq_false_iff_not];omega
  have b2:decide ((4096:Int)<n)=false:=by rw[decide_eq_false_iff_not];omega
  have kq:=Hh hbig;clear hbig;go_enter Tryz.func45,Tryz.ntmps45
  go_wp2_with fail
  have sB:w.heap.size<(w.alloc zr).heap.size:=xC.lt
  generalize w.alloc zr=w1 at xC hG sB⊢
  refine(C w1 hG.holds).out.mono ?_
  rintro e w3 hout
  unfold tq at hout
  cases hr:tg l with
  | err q =>
   rw[hr]at hout;obtain⟨rfl,hb⟩:=hout;have mI:=Hh hr;have iV:=Hh (show xB l=.error q by have:=mE.out;have:=kq.out;rw[xB,if_neg (by omega),hr]);clear hr;have xM:=xC.below hb;obtain⟨H',Uo⟩:∃ H',H'=H:=⟨_,rfl⟩
   have yO:Grows w H w3 H':=by rw[Uo];exact hG.trans (Grows.of_below hG.holds hb)
   have qN:H' w.heap.size=none:=by rw[Uo];exact zQ
   clear Uo;have oA:((q:Int) != 0)=true:=by rw[bne_iff_ne];have:=yJ _ _ _ _ mI.out;omega
   have mA:((q:Int)=0)=False:=eq_false (by have:=yJ _ _ _ _ mI.out;omega);go_wp2_with (with_reducible refine zx ?_)
   unfold yE
   have eN:w.heap.size<w3.heap.size:=xM.lt;have hN:=Blk.new w3 26 #[.int .i64 0,.int .u64 0,.slice none 0 0,.slice none 0 0];have xG:Blk (w3.alloc zr) w.heap.size 26 #[.int .i64 0,.int .u64 0,.slice none 0 0,.slice none 0 0]:=xM.alloc _;have wH:=yO.alloc zr;have nI:H' w3.heap.size=none:=yO.holds.none_of_ge (by omega);have rC:Blk (w3.alloc zr) w3.heap.size 26 #[.int .i64 0,.int .u64 0,.slice none 0 0,.slice none 0 0]:=hN;clear hN xM
   generalize w3.alloc zr=w4 at rC xG wH⊢
   refine stI rC fun w5 yh sp=>?_
   have yf:=xG.gr sp (by omega);have zJ:=wH.grownOwn nI (by omega) sp;clear xG wH rC;go_wp2_with (with_reducible refine zx ?_)
   refine stI yf fun w7 yL hg7=>?_
   have wP:=zJ.grownOwn qN (by omega) hg7;go_wp2_with fail
   refine zv rfl rfl yL rfl rfl zw rfl ?_
   unfold vv
   rw[iV.out]
   exact⟨rfl,wP.below⟩
  | ok x k cc =>
   rw[hr]at hout;obtain⟨ja,jb,jc,jd,H',rfl,hg,hi⟩:=hout;have mI:=Hh hr;clear hr;have xM:=xC.below hg.below;have yO:Grows w H w3 H':=hG.trans hg;have qN:H' w.heap.size=none:=hg.none zQ xC.lt
   by_cases hk:k<n
   ·have iV:=Hh (show xB l=.error 9 by have:=mE.out;have:=kq.out;rw[xB,if_neg (by omega),mI.out];simp only;rw[if_pos (by omega)]);have k1:decide ((k:Int)<n)=true:=by rw[decide_eq_true_eq];omega
    have k2:(k<n)=True:=eq_true hk;clear hk;go_wp2_with (with_reducible refine zx ?_)
    unfold yE
    have eN:w.heap.size<w3.heap.size:=xM.lt;have hN:=Blk.new w3 26 #[.int .i64 0,.int .u64 0,.slice none 0 0,.slice none 0 0];have xG:Blk (w3.alloc zr) w.heap.size 26 #[.int .i64 0,.int .u64 0,.slice none 0 0,.slice none 0 0]:=xM.alloc _;have wH:=yO.alloc zr;have nI:H' w3.heap.size=none:=yO.holds.none_of_ge (by omega);have rC:Blk (w3.alloc zr) w3.heap.size 26 #[.int .i64 0,.int .u64 0,.slice none 0 0,.slice none 0 0]:=hN;clear hN xM
    generalize w3.alloc zr=w4 at rC xG wH⊢
    refine stI rC fun w5 yh sp=>?_
    have yf:=xG.gr sp (by omega);have zJ:=wH.grownOwn nI (by omega) sp;clear xG wH rC;go_wp2_with (with_reducible refine zx ?_)
    refine stI yf fun w7 yL hg7=>?_
    have wP:=zJ.grownOwn qN (by omega) hg7;go_wp2_with fail
    refine zv rfl rfl yL rfl rfl zw rfl ?_
    unfold vv
    rw[iV.out]
    exact⟨rfl,wP.below⟩
   ·have iV:=Hh (show xB l=.ok x by have:=mE.out;have:=kq.out;rw[xB,if_neg (by omega),mI.out];simp only;rw[if_neg (by omega)]);have k1:decide ((k:Int)<n)=false:=by rw[decide_eq_false_iff_not];omega
    have k2:(k<n)=False:=eq_false hk;clear hk;go_wp2_with (with_reducible refine zx ?_)
    unfold yE
    have eN:w.heap.size<w3.heap.size:=xM.lt;have hN:=Blk.new w3 26 #[.int .i64 0,.int .u64 0,.slice none 0 0,.slice none 0 0];have xG:Blk (w3.alloc zr) w.heap.size 26 #[.int .i64 0,.int .u64 0,.slice none 0 0,.slice none 0 0]:=xM.alloc _;have wH:=yO.alloc zr;have nI:H' w3.heap.size=none:=yO.holds.none_of_ge (by omega);have rC:Blk (w3.alloc zr) w3.heap.size 26 #[.int .i64 0,.int .u64 0,.slice none 0 0,.slice none 0 0]:=hN;clear hN xM
    generalize w3.alloc zr=w4 at rC xG wH⊢
    refine stI rC fun w5 yh sp=>?_
    have yf:=xG.gr sp (by omega);have zJ:=wH.grownOwn nI (by omega) sp;clear xG wH rC;have c0:=yh.cell 0 rfl;have c1:=yh.cell 1 rfl;have c2:=yh.cell 2 rfl;have c3:=yh.cell 3 rfl;go_wp2_with (with_reducible refine zx ?_)
    refine stI yf fun w7 yL hg7=>?_
    have wP:=zJ.grownOwn qN (by omega) hg7;go_wp2_with fail
    refine zv rfl rfl yL rfl rfl zw rfl ?_
    unfold vv
    rw[iV.out]
    exact⟨ja,jb,jc,jd,H',rfl,wP,hi⟩
end Go.Proofs.YtnlinmoiakgedaaGreatDoor
