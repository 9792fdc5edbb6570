/- squeezed. Walks: the reference's Prefix, by  -/
import Derived.Test.YtnlinmoiakgedaaGreatDoorK23
set_option linter.unusedVariables false
set_option linter.unusedSimpArgs false
set_option maxRecDepth 100000
set_option maxHeartbeats 6400000
namespace Go.Proofs.YtnlinmoiakgedaaGreatDoor
open Go.RowKit
def nr (d:Nat):Prop:=∀ (w:World) (H:Snap) (g:Nat) (A:Option Addr) (c:Nat) (l:List UInt8) (p cnt lv:Nat),Tabs H→lv+d=8→Psr 112 w g H A c l p cnt→
 Calls Tryz.prog 79 #[.pointer (some ⟨g,0,none⟩),.int .i64 (lv:Int)] w (ItemOut 112 w H g A c l p (zo d (l.drop p) cnt))
theorem jM (hI:∀ d,nr d) {H:Snap}(hTab:Tabs H) (w:World) (hH:Holds w H) {A:Option Addr}{n c:Nat}{l:List UInt8}(hn:n=l.length) (hl:IsBytes H A c l) :
  Calls Tryz.prog 60 #[.slice A n c] w (tq w H l):=by
 have T6:=hl.le;have pA:=hl.max;obtain⟨m,hm⟩:∃ m,min n 4096=m:=⟨_,rfl⟩
 have eX:min (n:Int) 4096=(m:Int):=by omega
 have m1:(m:Int)≤(c:Int):=by omega
 have m0:(0:Int)≤(m:Int):=by omega
 have iZ:(l.take 4096).length=m:=by rw[List.length_take];omega
 have mE:=Hh (And.intro hn (And.intro hm iZ));clear hn hm iZ T6;go_enter Tryz.func60,Tryz.ntmps60
 go_wp2_with fail
 have e1:(w.alloc zr).heap.size=w.heap.size+1:=by go_simp
 have hT:=(Blk.new w 26 #[.int .i64 0,.int .u64 0,.slice none 0 0,.slice none 0 0]).alloc (.cells #[.slice A m c,.int .i64 0,.int .i64 0] 112);have hB:=Blk.new (w.alloc zr) 112 #[.slice A m c,.int .i64 0,.int .i64 0];have yp:=((Grows.refl hH).alloc zr).alloc (.cells #[.slice A m c,.int .i64 0,.int .i64 0] 112);rw[e1]at hB;have yu:Blk ((w.alloc zr).alloc (.cells #[.slice A m c,.int .i64 0,.int .i64 0] 112)) (w.heap.size+1) 112 #[.slice A m c,.int .i64 0,.int .i64 0]:=hB;have xD:Blk ((w.alloc zr).alloc (.cells #[.slice A m c,.int .i64 0,.int .i64 0] 112)) w.heap.size 26 #[.int .i64 0,.int .u64 0,.slice none 0 0,.slice none 0 0]:=hT;clear hT hB
 generalize (w.alloc zr).alloc (.cells #[.slice A m c,.int .i64 0,.int .i64 0] 112)=w2 at yu yp xD⊢
 have sB:w.heap.size+1<w2.heap.size:=yu.lt;have zQ:H w.heap.size=none:=hH.none_of_ge (by omega);have uy:H (w.heap.size+1)=none:=hH.none_of_ge (by omega)
 have Sp:Psr 112 w2 (w.heap.size+1) H A c (l.take 4096) 0 0 :=
  ⟨by obtain⟨_,_,iZ⟩:=mE.out;rw[iZ];exact yu,hl.take 4096,yp.holds,uy,by omega,by rw[List.length_take];omega,by omega⟩
 have C0:(Calls Tryz.prog 79 #[.pointer (some ⟨w.heap.size+1,0,none⟩),.int .i64 0] w2 (ItemOut 112 w2 H (w.heap.size+1) A c (l.take 4096) 0 (tg l))) :=
  (hI 8 w2 H (w.heap.size+1) A c (l.take 4096) 0 0 0 hTab (by omega) Sp)
 have C:=Hh C0;clear Sp C0
 refine C.out.mono ?_
 rintro e w3 hout
 clear C
 cases hr:tg l with
 | err q =>
  rw[hr,ItemOut]at hout;obtain⟨rfl,H',p',cnt',hd⟩:=hout;have mI:=Hh hr;clear hr;have xM:=xD.rdg hd (by omega);have yO:=yp.trans_but hd.grows (by omega);go_wp2_with (with_reducible refine zx ?_)
  unfold yE
  have eN:w.heap.size+1<w3.heap.size:=hd.psr.gt;have hN:=Blk.new w3 26 #[.int .i64 0,.int .u64 0,.slice none 0 0,.slice none 0 0];have xG:Blk (w3.alloc zr) w.heap.size 26 #[.int .i64 0,.int .u64 0,.slice none 0 0,.slice none 0 0]:=xM.alloc _;have wH:=yO.alloc zr;have nI:H' w3.heap.size=none:=yO.holds.none_of_ge (by omega);have qN:H' w.heap.size=none:=hd.hid zQ xD.lt;have rC:Blk (w3.alloc zr) w3.heap.size 26 #[.int .i64 0,.int .u64 0,.slice none 0 0,.slice none 0 0]:=hN;clear hN xM
  generalize w3.alloc zr=w4 at rC xG wH⊢
  refine stI rC fun w5 yh sp=>?_
  have yf:=xG.gr sp (by omega);have zJ:=wH.grownOwn nI (by omega) sp;clear xG wH rC;have oA:((q:Int) != 0)=true:=by rw[bne_iff_ne];have:=yJ _ _ _ _ mI.out;omega
  have mA:((q:Int)=0)=False:=eq_false (by have:=yJ _ _ _ _ mI.out;omega);go_wp2_with (with_reducible refine zx ?_)
  refine stI yf fun w7 yL hg7=>?_
  have wP:=zJ.grownOwn qN (by omega) hg7;go_wp2_with fail
  refine sY rfl rfl yL rfl rfl zw rfl ?_
  unfold tq
  rw[mI.out]
  exact⟨rfl,wP.below⟩
 | ok x k cc =>
  rw[hr,ItemOut,Nat.zero_add]at hout;obtain⟨ja,jb,jc,jd,H',rfl,hd,hi⟩:=hout;have mI:=Hh hr;clear hr;have xM:=xD.rdg hd (by omega);have yO:=yp.trans_but hd.grows (by omega)
  have wO:Blk w3 (w.heap.size+1) 112 #[.slice A m c,.int .i64 (k:Int),.int .i64 (cc:Int)]:=by
   have:=hd.psr.blk;obtain⟨_,_,iZ⟩:=mE.out;rw[iZ]at this;exact this
  go_wp2_with (with_reducible refine zx ?_)
  unfold yE
  have eN:w.heap.size+1<w3.heap.size:=hd.psr.gt;have hN:=Blk.new w3 26 #[.int .i64 0,.int .u64 0,.slice none 0 0,.slice none 0 0];have xG:Blk (w3.alloc zr) w.heap.size 26 #[.int .i64 0,.int .u64 0,.slice none 0 0,.slice none 0 0]:=xM.alloc _;have pV:Blk (w3.alloc zr) (w.heap.size+1) 112 #[.slice A m c,.int .i64 (k:Int),.int .i64 (cc:Int)]:=wO.alloc _;have wH:=yO.alloc zr;have nI:H' w3.heap.size=none:=yO.holds.none_of_ge (by omega);have qN:H' w.heap.size=none:=hd.hid zQ xD.lt;have rC:Blk (w3.alloc zr) w3.heap.size 26 #[.int .i64 0,.int .u64 0,.slice none 0 0,.slice none 0 0]:=hN;clear hN xM wO
  generalize w3.alloc zr=w4 at rC xG wH pV⊢
  refine stI rC fun w5 yh sp=>?_
  have yf:=xG.gr sp (by omega);have yA:=pV.gr sp (by omega);have zJ:=wH.grownOwn nI (by omega) sp;clear xG wH rC pV;go_upto_region 5 with fail
  have yf:=yf.drew;have yh:=yh.drew;have yA:=yA.drew;have zJ:=zJ.drew
  refine zf 7 (fun w'=>w'.cell? ⟨w3.heap.size,0,none⟩=some (.int .i64 x.kind)∧w'.cell? ⟨w3.heap.size,1,none⟩=some (.int .u64 x.n)∧w'.cell? ⟨w3.heap.size,2,none⟩=some (.slice ja x.bytes.length jb)∧w'.cell? ⟨w3.heap.size,3,none⟩=some (.slice jc x.items.length jd)∧w'.cell? ⟨w.heap.size+1,1,none⟩=some (.int .i64 (k:Int))) (by kernel_rfl) (⟨yh.cell 0 rfl,yh.cell 1 rfl,yh.cell 2 rfl,yh.cell 3 rfl,yA.cell 1 rfl⟩) (fun zy=>?_)
  refine Tk 0 rfl zy ?_
  refine Tk 1 rfl zy ?_
  refine Tk 2 rfl zy ?_
  refine Tk 3 rfl zy ?_
  refine Tk 4 rfl zy ?_
  refine To 5 rfl fun K hK=>?_
  refine uq _ _ _ rfl _ _ rfl rfl _ _ yf zw rfl (wu _ _ _ _ rfl rfl rfl rfl) fun w7 yL hg7=>?_
  have yh:=yh.gr hg7 (by omega);have yA:=yA.gr hg7 (by omega);have wP:=zJ.grownOwn qN (by omega) hg7;go_simp
  refine hK.out _ _ (fun _=>?_) (fun zy=>?_)
  ·exact⟨yh.cell 0 rfl,yh.cell 1 rfl,yh.cell 2 rfl,yh.cell 3 rfl,yA.cell 1 rfl⟩
  clear hK K;have zy:=zy (by decide)
  try simp only[Act.put,zz1,zz2,zz3,zz4,zz5,zz6]
  refine Tk 6 rfl zy ?_
  refine To 7 rfl fun K hK=>?_
  go_simp
  refine hK.out _ _ (fun h=>absurd rfl h) (fun _=>?_)
  clear hK K
  try simp only[Act.put,zz1,zz2,zz3,zz4,zz5,zz6]
  refine Ways.done (by kernel_rfl) ?_
  go_wp2_with fail
  refine sY rfl rfl yL rfl rfl zw rfl ?_
  unfold tq
  rw[mI.out]
  exact⟨ja,jb,jc,jd,H',rfl,wP,hi⟩
theorem jL (hI:∀ d,nr d) {H:Snap}(hTab:Tabs H) (w:World) (hH:Holds w H) {A:Option Addr}{n c:Nat}{l:List UInt8}(hn:n=l.length) (hl:IsBytes H A c l) :
  Calls Tryz.prog 46 #[.slice A n c] w (vv w H l):=by
 have hT:=Blk.new w 26 #[.int .i64 0,.int .u64 0,.slice none 0 0,.slice none 0 0];have hG:=(Grows.refl hH).alloc zr;have xC:Blk (w.alloc zr) w.heap.size 26 #[.int .i64 0,.int .u64 0,.slice none 0 0,.slice none 0 0]:=hT;have zQ:H w.heap.size=none:=hH.none_of_ge (by omega);clear hT;have mE:=Hh hn;have C:=fun w1 h1=>Hh (jM hI hTab w1 h1 hn hl)
 clear hn
 by_cases hbig:4096<n
 ·have b1:decide ((n:Int) > 4096)=true:=by rw[decide_eq_true_eq];omega
  have b2:decide ((4096:Int)<n)=true:=by rw[decide_eq_true_eq];omega
  have hd:xB l=.error 8:=by have:=mE.out;rw[xB,if_pos (by omega)]
  have iV:=Hh hd;clear hd C;go_enter Tryz.func46,Tryz.ntmps46
  go_wp2_with (with_reducible refine zx ?_)
  unfold yE
  generalize w.alloc zr=w1 at xC hG⊢
  refine stI xC fun w7 yL hg7=>?_
  have wP:=hG.grownOwn zQ (by omega) hg7;go_wp2_with fail
  refine zv rfl rfl yL rfl rfl zw rfl ?_
  unfold vv
  rw[iV.out]
  exact⟨rfl,wP.below⟩
 ·have b1:decide ((n:Int) > 4096)=false:=by rw[decide_eq_false_iff_not];omega
  have b2:decide ((4096:Int)<n)=false:=by rw[decide_eq_false_iff_not];omega
  have kq:=Hh hbig;clear hbig;go_enter Tryz.func46,Tryz.ntmps46
  go_wp2_with fail
  have sB:w.heap.size<(w.alloc zr).heap.size:=xC.lt
  generalize w.alloc zr=w1 at xC hG sB⊢
  refine(C w1 hG.holds).out.mono ?_
  rintro e w3 hout
  unfold tq at hout
  cases hr:tg l with
  | err q =>
   rw[hr]at hout;obtain⟨rfl,hb⟩:=hout;have mI:=Hh hr;have iV:=Hh (show xB l=.error q by have:=mE.out;have:=kq.out;rw[xB,if_neg (by omega),hr]);clear hr;have xM:=xC.below hb;obtain⟨H',Uo⟩:∃ H',H'=H:=⟨_,rfl⟩
   have yO:Grows w H w3 H':=by rw[Uo];exact hG.trans (Grows.of_below hG.holds hb)
   have qN:H' w.heap.size=none:=by rw[Uo];exact zQ
   clear Uo;have oA:((q:Int) != 0)=true:=by rw[bne_iff_ne];have:=yJ _ _ _ _ mI.out;omega
   have mA:((q:Int)=0)=False:=eq_false (by have:=yJ _ _ _ _ mI.out;omega);go_wp2_with (with_reducible refine zx ?_)
   unfold yE
   have eN:w.heap.size<w3.heap.size:=xM.lt;have hN:=Blk.new w3 26 #[.int .i64 0,.int .u64 0,.slice none 0 0,.slice none 0 0];have xG:Blk (w3.alloc zr) w.heap.size 26 #[.int .i64 0,.int .u64 0,.slice none 0 0,.slice none 0 0]:=xM.alloc _;have wH:=yO.alloc zr;have nI:H' w3.heap.size=none:=yO.holds.none_of_ge (by omega);have rC:Blk (w3.alloc zr) w3.heap.size 26 #[.int .i64 0,.int .u64 0,.slice none 0 0,.slice none 0 0]:=hN;clear hN xM
   generalize w3.alloc zr=w4 at rC xG wH⊢
   refine stI rC fun w5 yh sp=>?_
   have yf:=xG.gr sp (by omega);have zJ:=wH.grownOwn nI (by omega) sp;clear xG wH rC;go_wp2_with (with_reducible refine zx ?_)
   refine stI yf fun w7 yL hg7=>?_
   have wP:=zJ.grownOwn qN (by omega) hg7;go_wp2_with fail
   refine zv rfl rfl yL rfl rfl zw rfl ?_
   unfold vv
   rw[iV.out]
   exact⟨rfl,wP.below⟩
  | ok x k cc =>
   rw[hr]at hout;obtain⟨ja,jb,jc,jd,H',rfl,hg,hi⟩:=hout;have mI:=Hh hr;clear hr;have xM:=xC.below hg.below;have yO:Grows w H w3 H':=hG.trans hg;have qN:H' w.heap.size=none:=hg.none zQ xC.lt
   by_cases hk:k<n
   ·have iV:=Hh (show xB l=.error 9 by have:=mE.out;have:=kq.out;rw[xB,if_neg (by omega),mI.out];simp only;rw[if_pos (by omega)]);have k1:decide ((k:Int)<n)=true:=by rw[decide_eq_true_eq];omega
    have k2:(k<n)=True:=eq_true hk;clear hk;go_wp2_with (with_reducible refine zx ?_)
    unfold yE
    have eN:w.heap.size<w3.heap.size:=xM.lt;have hN:=Blk.new w3 26 #[.int .i64 0,.int .u64 0,.slice none 0 0,.slice none 0 0];have xG:Blk (w3.alloc zr) w.heap.size 26 #[.int .i64 0,.int .u64 0,.slice none 0 0,.slice none 0 0]:=xM.alloc _;have wH:=yO.alloc zr;have nI:H' w3.heap.size=none:=yO.holds.none_of_ge (by omega);have rC:Blk (w3.alloc zr) w3.heap.size 26 #[.int .i64 0,.int .u64 0,.slice none 0 0,.slice none 0 0]:=hN;clear hN xM
    generalize w3.alloc zr=w4 at rC xG wH⊢
    refine stI rC fun w5 yh sp=>?_
    have yf:=xG.gr sp (by omega);have zJ:=wH.grownOwn nI (by omega) sp;clear xG wH rC;go_wp2_with (with_reducible refine zx ?_)
    refine stI yf fun w7 yL hg7=>?_
    have wP:=zJ.grownOwn qN (by omega) hg7;go_wp2_with fail
    refine zv rfl rfl yL rfl rfl zw rfl ?_
    unfold vv
    rw[iV.out]
    exact⟨rfl,wP.below⟩
   ·have iV:=Hh (show xB l=.ok x by have:=mE.out;have:=kq.out;rw[xB,if_neg (by omega),mI.out];simp only;rw[if_neg (by omega)]);have k1:decide ((k:Int)<n)=false:=by rw[decide_eq_false_iff_not];omega
    have k2:(k<n)=False:=eq_false hk;clear hk;go_wp2_with (with_reducible refine zx ?_)
    unfold yE
    have eN:w.heap.size<w3.heap.size:=xM.lt;have hN:=Blk.new w3 26 #[.int .i64 0,.int .u64 0,.slice none 0 0,.slice none 0 0];have xG:Blk (w3.alloc zr) w.heap.size 26 #[.int .i64 0,.int .u64 0,.slice none 0 0,.slice none 0 0]:=xM.alloc _;have wH:=yO.alloc zr;have nI:H' w3.heap.size=none:=yO.holds.none_of_ge (by omega);have rC:Blk (w3.alloc zr) w3.heap.size 26 #[.int .i64 0,.int .u64 0,.slice none 0 0,.slice none 0 0]:=hN;clear hN xM
    generalize w3.alloc zr=w4 at rC xG wH⊢
    refine stI rC fun w5 yh sp=>?_
    have yf:=xG.gr sp (by omega);have zJ:=wH.grownOwn nI (by omega) sp;clear xG wH rC;have c0:=yh.cell 0 rfl;have c1:=yh.cell 1 rfl;have c2:=yh.cell 2 rfl;have c3:=yh.cell 3 rfl;go_wp2_with (with_reducible refine zx ?_)
    refine stI yf fun w7 yL hg7=>?_
    have wP:=zJ.grownOwn qN (by omega) hg7;go_wp2_with fail
    refine zv rfl rfl yL rfl rfl zw rfl ?_
    unfold vv
    rw[iV.out]
    exact⟨ja,jb,jc,jd,H',rfl,wP,hi⟩
end Go.Proofs.YtnlinmoiakgedaaGreatDoor
