/- squeezed. Walks: the reference's Prefix, by  -/
import Derived.Test.YtjpcnhncoidliaaGreatDoorK08
set_option linter.unusedVariables false
set_option linter.unusedSimpArgs false
set_option maxRecDepth 100000
set_option maxHeartbeats 6400000
namespace Go.Proofs.YtjpcnhncoidliaaGreatDoor
open Go.RowKit
def lD (d:Nat):Prop:=∀ (w:World) (H:Snap) (g:Nat) (A:Option Addr) (c:Nat) (l:List UInt8) (p cnt lv:Nat),Tabs H→lv+d=8→Psr 150 w g H A c l p cnt→
 Calls Tryz.prog 99 #[.pointer (some ⟨g,0,none⟩),.int .i64 (lv:Int)] w (ItemOut 150 w H g A c l p (zd d (l.drop p) cnt))
theorem ey (hI:∀ d,lD d) {H:Snap}(hTab:Tabs H) (w:World) (hH:Holds w H) {A:Option Addr}{n c:Nat}{l:List UInt8}(hn:n=l.length) (hl:IsBytes H A c l) :
  Calls Tryz.prog 89 #[.slice A n c] w (nE w H l):=by
 have Fx:=hl.le;have Zf:=hl.max;obtain⟨m,hm⟩:∃ m,min n 4096=m:=⟨_,rfl⟩
 have NN:min (n:Int) 4096=(m:Int):=by omega
 have m1:(m:Int)≤(c:Int):=by omega
 have m0:(0:Int)≤(m:Int):=by omega
 have rS:(l.take 4096).length=m:=by rw[List.length_take];omega
 have cA:=Hh (And.intro hn (And.intro hm rS));clear hn hm rS Fx;go_enter Tryz.func89,Tryz.ntmps89
 go_wp2_with fail
 have e1:(w.alloc zO).heap.size=w.heap.size+1:=by go_simp
 have hT:=(Blk.new w 78 #[.int .i64 0,.int .u64 0,.slice none 0 0,.slice none 0 0]).alloc (.cells #[.slice A m c,.int .i64 0,.int .i64 0] 150);have hB:=Blk.new (w.alloc zO) 150 #[.slice A m c,.int .i64 0,.int .i64 0];have yY:=((Grows.refl hH).alloc zO).alloc (.cells #[.slice A m c,.int .i64 0,.int .i64 0] 150);rw[e1]at hB;have vE:Blk ((w.alloc zO).alloc (.cells #[.slice A m c,.int .i64 0,.int .i64 0] 150)) (w.heap.size+1) 150 #[.slice A m c,.int .i64 0,.int .i64 0]:=hB;have sM:Blk ((w.alloc zO).alloc (.cells #[.slice A m c,.int .i64 0,.int .i64 0] 150)) w.heap.size 78 #[.int .i64 0,.int .u64 0,.slice none 0 0,.slice none 0 0]:=hT;clear hT hB
 generalize (w.alloc zO).alloc (.cells #[.slice A m c,.int .i64 0,.int .i64 0] 150)=w2 at vE yY sM⊢
 have qL:w.heap.size+1<w2.heap.size:=vE.lt;have zG:H w.heap.size=none:=hH.none_of_ge (by omega);have oY:H (w.heap.size+1)=none:=hH.none_of_ge (by omega)
 have Fa:Psr 150 w2 (w.heap.size+1) H A c (l.take 4096) 0 0 :=
  ⟨by obtain⟨_,_,rS⟩:=cA.out;rw[rS];exact vE,hl.take 4096,yY.holds,oY,by omega,by rw[List.length_take];omega,by omega⟩
 have C0:(Calls Tryz.prog 99 #[.pointer (some ⟨w.heap.size+1,0,none⟩),.int .i64 0] w2 (ItemOut 150 w2 H (w.heap.size+1) A c (l.take 4096) 0 (rH l))) :=
  (hI 8 w2 H (w.heap.size+1) A c (l.take 4096) 0 0 0 hTab (by omega) Fa)
 have C:=Hh C0;clear Fa C0
 refine C.out.mono ?_
 rintro e w3 hout
 clear C
 cases hr:rH l with
 | err q =>
  rw[hr,ItemOut]at hout;obtain⟨rfl,H',p',cnt',hd⟩:=hout;have VH:=Hh hr;clear hr;have un:=sM.rdg hd (by omega);have xf:=yY.trans_but hd.grows (by omega);go_wp2_with (with_reducible refine zx ?_)
  unfold zU
  have Sw:w.heap.size+1<w3.heap.size:=hd.psr.gt;have hN:=Blk.new w3 78 #[.int .i64 0,.int .u64 0,.slice none 0 0,.slice none 0 0];have sN:Blk (w3.alloc zO) w.heap.size 78 #[.int .i64 0,.int .u64 0,.slice none 0 0,.slice none 0 0]:=un.alloc _;have uv:=xf.alloc zO;have V8:H' w3.heap.size=none:=xf.holds.none_of_ge (by omega);have lU:H' w.heap.size=none:=hd.hid zG sM.lt;have db:Blk (w3.alloc zO) w3.heap.size 78 #[.int .i64 0,.int .u64 0,.slice none 0 0,.slice none 0 0]:=hN;clear hN un
  generalize w3.alloc zO=w4 at db sN uv⊢
  refine stI db fun w5 yO yg=>?_
  have yQ:=sN.gr yg (by omega);have zK:=uv.grownOwn V8 (by omega) yg;clear sN uv db;have pG:((q:Int) != 0)=true:=by rw[bne_iff_ne];have:=vA _ _ _ _ VH.out;omega
  have Rn:((q:Int)=0)=False:=eq_false (by have:=vA _ _ _ _ VH.out;omega);go_wp2_with (with_reducible refine zx ?_)
  refine stI yQ fun w7 xx hg7=>?_
  have uw:=zK.grownOwn lU (by omega) hg7;go_wp2_with fail
  refine xH rfl rfl xx rfl rfl zp rfl ?_
  unfold nE
  rw[VH.out]
  exact⟨rfl,uw.below⟩
 | ok x k cc =>
 rw[hr,ItemOut,Nat.zero_add]at hout;obtain⟨ja,jb,jc,jd,H',rfl,hd,hi⟩:=hout;have VH:=Hh hr;clear hr;have un:=sM.rdg hd (by omega);have xf:=yY.trans_but hd.grows (by omega)
 have pi:Blk w3 (w.heap.size+1) 150 #[.slice A m c,.int .i64 (k:Int),.int .i64 (cc:Int)]:=by
  have:=hd.psr.blk;obtain⟨_,_,rS⟩:=cA.out;rw[rS]at this;exact this
 go_wp2_with (with_reducible refine zx ?_)
 unfold zU
 have Sw:w.heap.size+1<w3.heap.size:=hd.psr.gt;have hN:=Blk.new w3 78 #[.int .i64 0,.int .u64 0,.slice none 0 0,.slice none 0 0];have sN:Blk (w3.alloc zO) w.heap.size 78 #[.int .i64 0,.int .u64 0,.slice none 0 0,.slice none 0 0]:=un.alloc _;have fJ:Blk (w3.alloc zO) (w.heap.size+1) 150 #[.slice A m c,.int .i64 (k:Int),.int .i64 (cc:Int)]:=pi.alloc _;have uv:=xf.alloc zO;have V8:H' w3.heap.size=none:=xf.holds.none_of_ge (by omega);have lU:H' w.heap.size=none:=hd.hid zG sM.lt;have db:Blk (w3.alloc zO) w3.heap.size 78 #[.int .i64 0,.int .u64 0,.slice none 0 0,.slice none 0 0]:=hN;clear hN un pi
 generalize w3.alloc zO=w4 at db sN uv fJ⊢
 refine stI db fun w5 yO yg=>?_
 have yQ:=sN.gr yg (by omega);have yJ:=fJ.gr yg (by omega);have zK:=uv.grownOwn V8 (by omega) yg;clear sN uv db fJ;go_upto_region 5 with fail
 have yQ:=yQ.drew;have yO:=yO.drew;have yJ:=yJ.drew;have zK:=zK.drew
 refine zn 7 (fun w'=>w'.cell? ⟨w3.heap.size,0,none⟩=some (.int .i64 x.kind)∧w'.cell? ⟨w3.heap.size,1,none⟩=some (.int .u64 x.n)∧w'.cell? ⟨w3.heap.size,2,none⟩=some (.slice ja x.bytes.length jb)∧w'.cell? ⟨w3.heap.size,3,none⟩=some (.slice jc x.items.length jd)∧w'.cell? ⟨w.heap.size+1,1,none⟩=some (.int .i64 (k:Int))) (by kernel_rfl) (⟨yO.cell 0 rfl,yO.cell 1 rfl,yO.cell 2 rfl,yO.cell 3 rfl,yJ.cell 1 rfl⟩) (fun zy=>?_)
 refine Tk 0 rfl zy ?_
 refine Tk 1 rfl zy ?_
 refine Tk 2 rfl zy ?_
 refine Tk 3 rfl zy ?_
 refine Tk 4 rfl zy ?_
 refine To 5 rfl fun K hK=>?_
 refine zF _ _ _ rfl _ _ rfl rfl _ _ yQ zp rfl (vR _ _ _ _ rfl rfl rfl rfl) fun w7 xx hg7=>?_
 have yO:=yO.gr hg7 (by omega);have yJ:=yJ.gr hg7 (by omega);have uw:=zK.grownOwn lU (by omega) hg7;go_simp
 refine Ko hK ?_ fun zy=>?_
 ·exact⟨yO.cell 0 rfl,yO.cell 1 rfl,yO.cell 2 rfl,yO.cell 3 rfl,yJ.cell 1 rfl⟩
 clear hK K
 refine Tk 6 rfl zy ?_
 refine To 7 rfl fun K hK=>?_
 go_simp
 refine Kz hK ?_
 clear hK K
 refine Wd ?_
 go_wp2_with fail
 refine xH rfl rfl xx rfl rfl zp rfl ?_
 unfold nE
 rw[VH.out]
 exact⟨ja,jb,jc,jd,H',rfl,uw,hi⟩
theorem ew (hI:∀ d,lD d) {H:Snap}(hTab:Tabs H) (w:World) (hH:Holds w H) {A:Option Addr}{n c:Nat}{l:List UInt8}(hn:n=l.length) (hl:IsBytes H A c l) :
  Calls Tryz.prog 75 #[.slice A n c] w (sG w H l):=by
 have hT:=Blk.new w 78 #[.int .i64 0,.int .u64 0,.slice none 0 0,.slice none 0 0];have hG:=(Grows.refl hH).alloc zO;have u7:Blk (w.alloc zO) w.heap.size 78 #[.int .i64 0,.int .u64 0,.slice none 0 0,.slice none 0 0]:=hT;have zG:H w.heap.size=none:=hH.none_of_ge (by omega);clear hT;have cA:=Hh hn;have C:=fun w1 h1=>Hh (ey hI hTab w1 h1 hn hl)
 clear hn
 by_cases hbig:4096<n
 ·have b1:decide ((n:Int) > 4096)=true:=by rw[decide_eq_true_eq];omega
  have b2:decide ((4096:Int)<n)=true:=by rw[decide_eq_true_eq];omega
  have hd:ui l=.error 8:=by have:=cA.out;rw[ui,if_pos (by omega)]
  have XJ:=Hh hd;clear hd C;go_enter Tryz.func75,Tryz.ntmps75
  go_wp2_with (with_reducible refine zx ?_)
  unfold zU
  generalize w.alloc zO=w1 at u7 hG⊢
  refine stI u7 fun w7 xx hg7=>?_
  have uw:=hG.grownOwn zG (by omega) hg7;go_wp2_with fail
  refine zw rfl rfl xx rfl rfl zp rfl ?_
  unfold sG
  rw[XJ.out]
  exact⟨rfl,uw.below⟩
 have b1:decide ((n:Int) > 4096)=false:=by rw[decide_eq_false_iff_not];omega
 have b2:decide ((4096:Int)<n)=false:=by rw[decide_eq_false_iff_not];omega
 have UI:=Hh hbig;clear hbig;go_enter Tryz.func75,Tryz.ntmps75
 go_wp2_with fail
 have qL:w.heap.size<(w.alloc zO).heap.size:=u7.lt
 generalize w.alloc zO=w1 at u7 hG qL⊢
 refine(C w1 hG.holds).out.mono ?_
 rintro e w3 hout
 unfold nE at hout
 cases hr:rH l with
 | err q =>
  rw[hr]at hout;obtain⟨rfl,hb⟩:=hout;have VH:=Hh hr;have XJ:=Hh (show ui l=.error q by have:=cA.out;have:=UI.out;rw[ui,if_neg (by omega),hr]);clear hr;have un:=u7.below hb;obtain⟨H',Ib⟩:∃ H',H'=H:=⟨_,rfl⟩
  have xf:Grows w H w3 H':=by rw[Ib];exact hG.trans (Grows.of_below hG.holds hb)
  have lU:H' w.heap.size=none:=by rw[Ib];exact zG
  clear Ib;have pG:((q:Int) != 0)=true:=by rw[bne_iff_ne];have:=vA _ _ _ _ VH.out;omega
  have Rn:((q:Int)=0)=False:=eq_false (by have:=vA _ _ _ _ VH.out;omega);go_wp2_with (with_reducible refine zx ?_)
  unfold zU
  have Sw:w.heap.size<w3.heap.size:=un.lt;have hN:=Blk.new w3 78 #[.int .i64 0,.int .u64 0,.slice none 0 0,.slice none 0 0];have sN:Blk (w3.alloc zO) w.heap.size 78 #[.int .i64 0,.int .u64 0,.slice none 0 0,.slice none 0 0]:=un.alloc _;have uv:=xf.alloc zO;have V8:H' w3.heap.size=none:=xf.holds.none_of_ge (by omega);have db:Blk (w3.alloc zO) w3.heap.size 78 #[.int .i64 0,.int .u64 0,.slice none 0 0,.slice none 0 0]:=hN;clear hN un
  generalize w3.alloc zO=w4 at db sN uv⊢
  refine stI db fun w5 yO yg=>?_
  have yQ:=sN.gr yg (by omega);have zK:=uv.grownOwn V8 (by omega) yg;clear sN uv db;go_wp2_with (with_reducible refine zx ?_)
  refine stI yQ fun w7 xx hg7=>?_
  have uw:=zK.grownOwn lU (by omega) hg7;go_wp2_with fail
  refine zw rfl rfl xx rfl rfl zp rfl ?_
  unfold sG
  rw[XJ.out]
  exact⟨rfl,uw.below⟩
 | ok x k cc =>
 rw[hr]at hout;obtain⟨ja,jb,jc,jd,H',rfl,hg,hi⟩:=hout;have VH:=Hh hr;clear hr;have un:=u7.below hg.below;have xf:Grows w H w3 H':=hG.trans hg;have lU:H' w.heap.size=none:=hg.none zG u7.lt
 by_cases hk:k<n
 ·have XJ:=Hh (show ui l=.error 9 by have:=cA.out;have:=UI.out;rw[ui,if_neg (by omega),VH.out];simp only;rw[if_pos (by omega)]);have k1:decide ((k:Int)<n)=true:=by rw[decide_eq_true_eq];omega
  have k2:(k<n)=True:=eq_true hk;clear hk;go_wp2_with (with_reducible refine zx ?_)
  unfold zU
  have Sw:w.heap.size<w3.heap.size:=un.lt;have hN:=Blk.new w3 78 #[.int .i64 0,.int .u64 0,.slice none 0 0,.slice none 0 0];have sN:Blk (w3.alloc zO) w.heap.size 78 #[.int .i64 0,.int .u64 0,.slice none 0 0,.slice none 0 0]:=un.alloc _;have uv:=xf.alloc zO;have V8:H' w3.heap.size=none:=xf.holds.none_of_ge (by omega);have db:Blk (w3.alloc zO) w3.heap.size 78 #[.int .i64 0,.int .u64 0,.slice none 0 0,.slice none 0 0]:=hN;clear hN un
  generalize w3.alloc zO=w4 at db sN uv⊢
  refine stI db fun w5 yO yg=>?_
  have yQ:=sN.gr yg (by omega);have zK:=uv.grownOwn V8 (by omega) yg;clear sN uv db;go_wp2_with (with_reducible refine zx ?_)
  refine stI yQ fun w7 xx hg7=>?_
  have uw:=zK.grownOwn lU (by omega) hg7;go_wp2_with fail
  refine zw rfl rfl xx rfl rfl zp rfl ?_
  unfold sG
  rw[XJ.out]
  exact⟨rfl,uw.below⟩
 have XJ:=Hh (show ui l=.ok x by have:=cA.out;have:=UI.out;rw[ui,if_neg (by omega),VH.out];simp only;rw[if_neg (by omega)]);have k1:decide ((k:Int)<n)=false:=by rw[decide_eq_false_iff_not];omega
 have k2:(k<n)=False:=eq_false hk;clear hk;go_wp2_with (with_reducible refine zx ?_)
 unfold zU
 have Sw:w.heap.size<w3.heap.size:=un.lt;have hN:=Blk.new w3 78 #[.int .i64 0,.int .u64 0,.slice none 0 0,.slice none 0 0];have sN:Blk (w3.alloc zO) w.heap.size 78 #[.int .i64 0,.int .u64 0,.slice none 0 0,.slice none 0 0]:=un.alloc _;have uv:=xf.alloc zO;have V8:H' w3.heap.size=none:=xf.holds.none_of_ge (by omega);have db:Blk (w3.alloc zO) w3.heap.size 78 #[.int .i64 0,.int .u64 0,.slice none 0 0,.slice none 0 0]:=hN;clear hN un
 generalize w3.alloc zO=w4 at db sN uv⊢
 refine stI db fun w5 yO yg=>?_
 have yQ:=sN.gr yg (by omega);have zK:=uv.grownOwn V8 (by omega) yg;clear sN uv db;have c0:=yO.cell 0 rfl;have c1:=yO.cell 1 rfl;have c2:=yO.cell 2 rfl;have c3:=yO.cell 3 rfl;go_wp2_with (with_reducible refine zx ?_)
 refine stI yQ fun w7 xx hg7=>?_
 have uw:=zK.grownOwn lU (by omega) hg7;go_wp2_with fail
 refine zw rfl rfl xx rfl rfl zp rfl ?_
 unfold sG
 rw[XJ.out]
 exact⟨ja,jb,jc,jd,H',rfl,uw,hi⟩
theorem Vu:∀ X:Fin 64,bits .and .i64 ((X.val:Nat):Int) 31=((X.val%32:Nat):Int):=by decide
theorem YL:∀ X:Fin 512,bits .and .i64 ((X.val:Nat):Int) 255=((X.val%256:Nat):Int):=by decide +kernel
theorem OT {s e:Nat}(hs:s≤1) (he:e<9223372036854775808):bits .or .u64 ((s*9223372036854775808:Nat):Int) (e:Int)=((s*9223372036854775808+e:Nat):Int):=pa s 63 e he (by simp only[Nat.reducePow];omega)
theorem OS {s y m:Nat}(hs:s≤1) (hy:y<2048) (hm:m<4503599627370496):bits .or .u64 ((s*9223372036854775808+y*4503599627370496:Nat):Int) (m:Int)=((s*9223372036854775808+y*4503599627370496+m:Nat):Int):=by
 have h:=pa (s*2048+y) 52 m hm (by simp only[Nat.reducePow];omega);rw[show(s*2048+y)*2 ^ 52=s*9223372036854775808+y*4503599627370496 by simp only[Nat.reducePow];omega]at h
 exact h
theorem nU {S s y m:Nat}{Y:Int}(hS:s*9223372036854775808=S) (hs:s≤1) (hy:y<2048) (hm:m<4503599627370496) (hY:Y=((y*4503599627370496:Nat):Int)) :
  bits .or .u64 (bits .or .u64 (S:Int) Y) (m:Int)=((S+y*4503599627370496+m:Nat):Int):=by
 rw[hY,← hS,OT hs (by omega),OS hs hy hm]
theorem Xh {m k:Nat}(h0:m≠0) (hk:k=m.log2) (hm:m<8388608):bits .and .u64 (IntKind.u64.wrap ((m:Int)*(2:Int) ^ (52-k))) 4503599627370495=((m*2 ^ (52-k)-4503599627370496:Nat):Int)∧m*2 ^ (52-k)-4503599627370496<4503599627370496:=by
 subst hk;have hl:m.log2≤52:=by have:=(Nat.log2_lt h0).2 (show m<2 ^ 23 by omega);omega
 obtain⟨a,b⟩:=o4 (Nat.log2_self_le h0) Nat.lt_log2_self hl;have e:(m:Int)*(2:Int) ^ (52-m.log2)=((m*2 ^ (52-m.log2):Nat):Int):=by rw[Int.natCast_mul,Int.natCast_pow];rfl
 rw[e];obtain⟨F,hF⟩:∃ F,m*2 ^ (52-m.log2)=F:=⟨_,rfl⟩
 rw[hF]at a b⊢;rw[IntWalk.u64_in _ (by omega)];have h:=ts F 52 (by omega) (by omega)
 exact⟨by rw[show(4503599627370495:Int)=((2 ^ 52-1:Nat):Int) from rfl,h];simp only[Nat.reducePow];omega,by omega⟩
theorem aM (v:Nat) (hv:v<65536) (w:World) :
  Calls Tryz.prog 124 #[.int .u64 (v:Int),.int .i64 5,.int .i64 10] w fun e w'=>e=.returned (.int .u64 (vq v:Int))∧w'=w:=by
 have A1:bits .and .u64 (v:Int) 1023=((v%1024:Nat):Int):=ts v 10 (by omega) (by omega);obtain⟨u,hu⟩:∃ u,v/1024=u:=⟨_,rfl⟩
 have A2:bits .and .i64 (u:Int) 31=((u%32:Nat):Int):=Vu ⟨u,by omega⟩;have NS:u%32=v/1024%32:=by rw[hu]
 rw[NS]at A2;obtain⟨s,hs⟩:∃ s,v/32768=s:=⟨_,rfl⟩
 obtain⟨x,hx⟩:∃ x,v/1024%32=x:=⟨_,rfl⟩
 obtain⟨m,hm⟩:∃ m,v%1024=m:=⟨_,rfl⟩
 have ug:s≤1:=by omega
 have mS:x≤31:=by omega
 have mQ:m<1024:=by omega
 have W:=Hh (show vq v=(if x=31 then s*9223372036854775808+9218868437227405312+m*4398046511104
  else if x=0 then(if m=0 then s*9223372036854775808 else s*9223372036854775808+(999+m.log2)*4503599627370496+(m*2 ^ (52-m.log2)-4503599627370496))
  else s*9223372036854775808+(x+1008)*4503599627370496+m*4398046511104) by rw[vq,hs,hx,hm])
 rw[hm]at A1;rw[hx]at A2;have S1:(v:Int)/32768=(s:Int):=by omega
 have S2:(v:Int)/1024=(u:Int):=by omega
 have K1:IntKind.i64.wrap (u:Int)=(u:Int):=IntWalk.i64_in _ (by omega);have HX:=Hh (And.intro ug (And.intro mS mQ));obtain⟨S,hS⟩:∃ S,s*9223372036854775808=S:=⟨_,rfl⟩
 have KS:IntKind.u64.wrap ((s:Int)*9223372036854775808)=(S:Int):=by rw[IntWalk.u64_in _ (by omega)];omega
 rw[hS]at W;have HS:=Hh hS;have Mo:=Hh (show s≤1∧x≤31∧m<1024 from⟨ug,mS,mQ⟩);clear hs hx hm hv hu NS hS HX
 by_cases h31:x=31
 ·subst h31;obtain⟨M,hM⟩:∃ M,m*4398046511104=M:=⟨_,rfl⟩
  have KM:IntKind.u64.wrap ((m:Int)*4398046511104)=(M:Int):=by rw[IntWalk.u64_in _ (by omega)];omega
  have O2:Hid (bits .or .u64 (bits .or .u64 (S:Int) 9218868437227405312) (M:Int)=((S+2047*4503599627370496+M:Nat):Int)):=nU (s:=s) HS.out ug (by omega) (by omega) rfl;have WW:Hid (vq v=S+2047*4503599627370496+M):=by rw[Hid,W.out,if_pos rfl,hM]
  clear W ug mS mQ hM;go_enter Tryz.func124,Tryz.ntmps124
  go_wp2_with fail
  go_ret
  exact⟨by rw[WW.out,← O2.out];rfl,rfl⟩
 have x31:((x:Int)==31)=false:=by simp;omega
 have x31':((x:Int)=31)=False:=eq_false (by omega)
 by_cases h0:x=0
 ·subst h0
  by_cases oP:m=0
  ·subst oP;have WW:Hid (vq v=S):=by rw[Hid,W.out,if_neg (by omega),if_pos rfl,if_pos rfl]
   clear W ug mS mQ;go_enter Tryz.func124,Tryz.ntmps124
   go_wp2_with fail
   go_ret
   exact⟨by rw[WW.out];try rfl,rfl⟩
  have m0:((m:Int)==0)=false:=by simp;omega
  have m0':((m:Int)=0)=False:=eq_false (by omega);have Uf:m.log2≤9:=by have:=(Nat.log2_lt oP).2 (show m<2 ^ 10 by omega);omega
  have WW:Hid (vq v=S+(999+m.log2)*4503599627370496+(m*2 ^ (52-m.log2)-4503599627370496)):=by rw[Hid,W.out,if_neg (by omega),if_pos rfl,if_neg oP]
  have HM:=Hh (And.intro oP (And.intro mQ Uf));clear W ug mS mQ oP Uf;go_enter Tryz.func124,Tryz.ntmps124
  go_wp2_with fail
  go_loop [12] (fun v12=>∃ k:Nat,k≤m.log2∧v12=.int .i64 (k:Int)) (fun v12=>m.log2-(intOf v12).toNat)
  case atStart=>exact⟨0,Nat.zero_le _,rfl⟩
  case round =>
  obtain⟨k,hk,rfl⟩:=hrel;have Dy:(k:Int)≤9:=by have:=HM.out.2.2;omega
  have kM:(0:Int)≤(k:Int)+1:=by omega
  have V8:((k:Int)+1).toNat=k+1:=by omega
  have lF:(m:Int)/(2:Int) ^ (k+1)=((m/2 ^ (k+1):Nat):Int):=by rw[Int.natCast_ediv,Int.natCast_pow];rfl
  have HK:=Hh hk;clear hk
  by_cases sX:k<m.log2
  ·have ht:(0:Int)<(m:Int)/(2:Int) ^ (k+1):=by
    rw[lF];have h1:2 ^ (k+1)≤m:=Nat.le_trans (Nat.pow_le_pow_right (by omega) sX) (Nat.log2_self_le HM.out.1);have:=Nat.div_pos h1 (Nat.two_pow_pos _)
    omega
   clear lF;have ik:=Hh sX;clear sX;go_wp2_with fail
   go_round
   case rel=>exact⟨k+1,ik.out,by go_num⟩
   case measure=>have:=ik.out;simp[intOf];omega
  have VX:k=m.log2:=by have:=HK.out;omega
  have ht:¬ ((0:Int)<(m:Int)/(2:Int) ^ (k+1)):=by
   rw[lF];have:m<2 ^ (k+1):=by rw[VX];exact Nat.lt_log2_self
   rw[Nat.div_eq_of_lt this];simp
  clear lF;have mX:=Hh VX;clear sX VX;go_wp2_with fail
  go_ret
  obtain⟨B1,B2⟩:=Xh HM.out.1 mX.out (by have:=HM.out.2.1;omega);have O3:=nU (S:=S) (s:=s) (y:=999+k) (Y:=((k:Int)+1-15-10+1023)*4503599627370496) HS.out Mo.out.1 (by omega) B2 (by omega);rw[← B1]at O3
  refine⟨?_,rfl⟩
  rw[WW.out,← mX.out,← O3];rfl
 have x0:((x:Int)==0)=false:=by simp;omega
 have x0':((x:Int)=0)=False:=eq_false (by omega);obtain⟨M,hM⟩:∃ M,m*4398046511104=M:=⟨_,rfl⟩
 have KM:IntKind.u64.wrap ((m:Int)*4398046511104)=(M:Int):=by rw[IntWalk.u64_in _ (by omega)];omega
 have O2:Hid (bits .or .u64 (bits .or .u64 (S:Int) (((x:Int)-15+1023)*4503599627370496)) (M:Int)=((S+(x+1008)*4503599627370496+M:Nat):Int)):=nU (s:=s) HS.out ug (by omega) (by omega) (by omega);have WW:Hid (vq v=S+(x+1008)*4503599627370496+M):=by rw[Hid,W.out,if_neg h31,if_neg h0,hM]
 have mh:(x:Int)≤31:=by omega
 clear W ug mS mQ hM h31 h0;go_enter Tryz.func124,Tryz.ntmps124
 go_wp2_with fail
 go_ret
 refine⟨?_,rfl⟩
 rw[WW.out,← O2.out];rfl
theorem aN (v:Nat) (hv:v<4294967296) (w:World) :
  Calls Tryz.prog 124 #[.int .u64 (v:Int),.int .i64 8,.int .i64 23] w fun e w'=>e=.returned (.int .u64 (vd v:Int))∧w'=w:=by
 have A1:bits .and .u64 (v:Int) 8388607=((v%8388608:Nat):Int):=ts v 23 (by omega) (by omega);obtain⟨u,hu⟩:∃ u,v/8388608=u:=⟨_,rfl⟩
 have A2:bits .and .i64 (u:Int) 255=((u%256:Nat):Int):=YL ⟨u,by omega⟩;have NS:u%256=v/8388608%256:=by rw[hu]
 rw[NS]at A2;obtain⟨s,hs⟩:∃ s,v/2147483648=s:=⟨_,rfl⟩
 obtain⟨x,hx⟩:∃ x,v/8388608%256=x:=⟨_,rfl⟩
 obtain⟨m,hm⟩:∃ m,v%8388608=m:=⟨_,rfl⟩
 have ug:s≤1:=by omega
 have mS:x≤255:=by omega
 have mQ:m<8388608:=by omega
 have W:=Hh (show vd v=(if x=255 then s*9223372036854775808+9218868437227405312+m*536870912
  else if x=0 then(if m=0 then s*9223372036854775808 else s*9223372036854775808+(874+m.log2)*4503599627370496+(m*2 ^ (52-m.log2)-4503599627370496))
  else s*9223372036854775808+(x+896)*4503599627370496+m*536870912) by rw[vd,hs,hx,hm])
 rw[hm]at A1;rw[hx]at A2;have S1:(v:Int)/2147483648=(s:Int):=by omega
 have S2:(v:Int)/8388608=(u:Int):=by omega
 have K1:IntKind.i64.wrap (u:Int)=(u:Int):=IntWalk.i64_in _ (by omega);have HX:=Hh (And.intro ug (And.intro mS mQ));obtain⟨S,hS⟩:∃ S,s*9223372036854775808=S:=⟨_,rfl⟩
 have KS:IntKind.u64.wrap ((s:Int)*9223372036854775808)=(S:Int):=by rw[IntWalk.u64_in _ (by omega)];omega
 rw[hS]at W;have HS:=Hh hS;have Mo:=Hh (show s≤1∧x≤255∧m<8388608 from⟨ug,mS,mQ⟩);clear hs hx hm hv hu NS hS HX
 by_cases h31:x=255
 ·subst h31;obtain⟨M,hM⟩:∃ M,m*536870912=M:=⟨_,rfl⟩
  have KM:IntKind.u64.wrap ((m:Int)*536870912)=(M:Int):=by rw[IntWalk.u64_in _ (by omega)];omega
  have O2:Hid (bits .or .u64 (bits .or .u64 (S:Int) 9218868437227405312) (M:Int)=((S+2047*4503599627370496+M:Nat):Int)):=nU (s:=s) HS.out ug (by omega) (by omega) rfl;have WW:Hid (vd v=S+2047*4503599627370496+M):=by rw[Hid,W.out,if_pos rfl,hM]
  clear W ug mS mQ hM;go_enter Tryz.func124,Tryz.ntmps124
  go_wp2_with fail
  go_ret
  exact⟨by rw[WW.out,← O2.out];rfl,rfl⟩
 have x31:((x:Int)==255)=false:=by simp;omega
 have x31':((x:Int)=255)=False:=eq_false (by omega)
 by_cases h0:x=0
 ·subst h0
  by_cases oP:m=0
  ·subst oP;have WW:Hid (vd v=S):=by rw[Hid,W.out,if_neg (by omega),if_pos rfl,if_pos rfl]
   clear W ug mS mQ;go_enter Tryz.func124,Tryz.ntmps124
   go_wp2_with fail
   go_ret
   exact⟨by rw[WW.out];try rfl,rfl⟩
  have m0:((m:Int)==0)=false:=by simp;omega
  have m0':((m:Int)=0)=False:=eq_false (by omega);have Uf:m.log2≤22:=by have:=(Nat.log2_lt oP).2 (show m<2 ^ 23 by omega);omega
  have WW:Hid (vd v=S+(874+m.log2)*4503599627370496+(m*2 ^ (52-m.log2)-4503599627370496)):=by rw[Hid,W.out,if_neg (by omega),if_pos rfl,if_neg oP]
  have HM:=Hh (And.intro oP (And.intro mQ Uf));clear W ug mS mQ oP Uf;go_enter Tryz.func124,Tryz.ntmps124
  go_wp2_with fail
  go_loop [12] (fun v12=>∃ k:Nat,k≤m.log2∧v12=.int .i64 (k:Int)) (fun v12=>m.log2-(intOf v12).toNat)
  case atStart=>exact⟨0,Nat.zero_le _,rfl⟩
  case round =>
  obtain⟨k,hk,rfl⟩:=hrel;have Dy:(k:Int)≤22:=by have:=HM.out.2.2;omega
  have kM:(0:Int)≤(k:Int)+1:=by omega
  have V8:((k:Int)+1).toNat=k+1:=by omega
  have lF:(m:Int)/(2:Int) ^ (k+1)=((m/2 ^ (k+1):Nat):Int):=by rw[Int.natCast_ediv,Int.natCast_pow];rfl
  have HK:=Hh hk;clear hk
  by_cases sX:k<m.log2
  ·have ht:(0:Int)<(m:Int)/(2:Int) ^ (k+1):=by
    rw[lF];have h1:2 ^ (k+1)≤m:=Nat.le_trans (Nat.pow_le_pow_right (by omega) sX) (Nat.log2_self_le HM.out.1);have:=Nat.div_pos h1 (Nat.two_pow_pos _)
    omega
   clear lF;have ik:=Hh sX;clear sX;go_wp2_with fail
   go_round
   case rel=>exact⟨k+1,ik.out,by go_num⟩
   case measure=>have:=ik.out;simp[intOf];omega
  have VX:k=m.log2:=by have:=HK.out;omega
  have ht:¬ ((0:Int)<(m:Int)/(2:Int) ^ (k+1)):=by
   rw[lF];have:m<2 ^ (k+1):=by rw[VX];exact Nat.lt_log2_self
   rw[Nat.div_eq_of_lt this];simp
  clear lF;have mX:=Hh VX;clear sX VX;go_wp2_with fail
  go_ret
  obtain⟨B1,B2⟩:=Xh HM.out.1 mX.out (by have:=HM.out.2.1;omega);have O3:=nU (S:=S) (s:=s) (y:=874+k) (Y:=((k:Int)+1-127-23+1023)*4503599627370496) HS.out Mo.out.1 (by omega) B2 (by omega);rw[← B1]at O3
  refine⟨?_,rfl⟩
  rw[WW.out,← mX.out,← O3];rfl
 have x0:((x:Int)==0)=false:=by simp;omega
 have x0':((x:Int)=0)=False:=eq_false (by omega);obtain⟨M,hM⟩:∃ M,m*536870912=M:=⟨_,rfl⟩
 have KM:IntKind.u64.wrap ((m:Int)*536870912)=(M:Int):=by rw[IntWalk.u64_in _ (by omega)];omega
 have O2:Hid (bits .or .u64 (bits .or .u64 (S:Int) (((x:Int)-127+1023)*4503599627370496)) (M:Int)=((S+(x+896)*4503599627370496+M:Nat):Int)):=nU (s:=s) HS.out ug (by omega) (by omega) (by omega);have WW:Hid (vd v=S+(x+896)*4503599627370496+M):=by rw[Hid,W.out,if_neg h31,if_neg h0,hM]
 have mh:(x:Int)≤255:=by omega
 clear W ug mS mQ hM h31 h0;go_enter Tryz.func124,Tryz.ntmps124
 go_wp2_with fail
 go_ret
 refine⟨?_,rfl⟩
 rw[WW.out,← O2.out];rfl
theorem yR {w:World}{g:Nat}{H:Snap}{A:Option Addr}{c:Nat}{l:List UInt8}{p cnt:Nat}(hP:Psr 150 w g H A c l p cnt) (z:Nat) (qL:1≤z) (Sx:z≤8) :
  Calls Tryz.prog 113 #[.pointer (some ⟨g,0,none⟩),.int .i64 (z:Int)] w (Qq 150 w g A c l p cnt z):=by
 have hB:=hP.blk;have c0:=hB.cell 0 rfl;have c1:=hB.cell 1 rfl;have HP:=Hh hP;have mR:=hP.le;have kO:=hP.small;have nB:=hP.bytes.le;have Zf:=hP.bytes.max;have HZ:=Hh (And.intro qL Sx);have NV:(z:Int)≤8:=by omega
 have Zi:(p:Int)≤(l.length:Int):=by omega
 have qJ:(l.length:Int)≤4096:=by omega
 have K0:IntKind.i64.wrap ((l.length:Int)-(p:Int))=(l.length:Int)-(p:Int):=IntWalk.i64_in _ (by omega)
 by_cases yy:l.length<p+z
 ·have z0:(l.length:Int)-(p:Int)<(z:Int):=by omega
  have HL:=Hh yy;clear qL Sx mR kO nB Zf hP yy;go_enter Tryz.func113,Tryz.ntmps113
  go_wp2_with fail
  go_big_quiet (fail)
  go_wp2_with fail
  go_ret2
  exact .inl ⟨HL.out,rfl,hB,pt (vN w _) _⟩
 have z0:¬ ((l.length:Int)-(p:Int)<(z:Int)):=by omega
 have z0b:decide ((l.length:Int)-(p:Int)<(z:Int))=false:=decide_eq_false z0;obtain⟨b,off,rfl,uH⟩:=hP.bytes.at_ (by omega);have HC:=Hh uH;have HH:=Hh hP.holds;have HL:=Hh (And.intro (Nat.not_lt.1 yy) (And.intro kO nB));clear qL Sx mR kO nB Zf hP uH yy;go_enter Tryz.func113,Tryz.ntmps113
 go_wp2_with fail
 go_big_quiet (fail)
 obtain⟨W,hW⟩:∃ W,w.drewN nq=W:=⟨_,rfl⟩
 have FC:Blk W g 150 (dX (some ⟨b,off,none⟩) l.length c p cnt):=hW ▸ hB;have FH:w.grownBy W (some g):=hW ▸ pt (vN w _) _;have FM:Holds W H:=hW ▸ HH.out;rw[hW];clear hW c0 c1 hB K0;go_wp2_with fail
 have E:Hid ((l.drop p).length=l.length-p):=List.length_drop;go_loopw [6,20] (fun v6 v20 wr=>∃ k:Nat,k≤z∧v20=.int .i64 (k:Int)∧v6=.int .u64 (beN ((l.drop p).take k):Int)∧Blk wr g 150 (dX (some ⟨b,off,none⟩) l.length c (p+k) cnt)∧w.grownBy wr (some g)∧Holds wr H) (fun _ v20 _=>z-(intOf v20).toNat)
 case atStart=>exact⟨0,Nat.zero_le _,rfl,rfl,FC,FH,FM⟩
 case round =>
 clear FC FH FM;obtain⟨k,hk,rfl,rfl,rR,ee,xD⟩:=hrel
 by_cases J8:k<z
 ·have sX:p+k<l.length:=by have:=HL.out.1;omega
  have Bw:(k:Int)<(z:Int):=by omega
  have mP:k<(l.drop p).length:=by have:=E.out;omega
  have q0:=xD.cell (HC.out (p+k) sX);have ex:(l.drop p)[k]=l[p+k]:=by rw[List.getElem_drop]
  have hX:=Zj (l.drop p) k (by have:=HZ.out;omega);have hS:=TB (l.drop p) k mP;rw[ex]at hS;obtain⟨X,kE⟩:∃ X,beN ((l.drop p).take k)=X:=⟨_,rfl⟩
  obtain⟨ch,nX⟩:∃ ch,l[p+k]=ch:=⟨_,rfl⟩
  rw[kE]at hX hS⊢;rw[nX]at hS q0;obtain⟨P,Ii⟩:∃ P,p+k=P:=⟨_,rfl⟩
  rw[Ii]at q0 rR sX;have lc:=ch.toNat_lt;have K2:IntKind.u64.wrap ((X:Int)*256)=(X:Int)*256:=by rw[IntKind.wrap_u64];omega
  have K3:bits .or .u64 ((X:Int)*256) (ch.toNat:Int)=((X*256+ch.toNat:Nat):Int):=aW X _ hX lc;have HS:=Hh hS;have Ck:=Hh Ii;have Bg:(P:Int)<(l.length:Int):=by omega
  have Xs:(0:Int)≤(P:Int):=by omega
  have K4:IntKind.i64.wrap ((P:Int)+1)=(P:Int)+1:=IntWalk.i64_in _ (by omega);have pX:(k:Int)+1≤9223372036854775807:=by have:=HZ.out;omega
  have c0:=rR.cell 0 rfl;have c1:=rR.cell 1 rfl;clear hX hS kE nX ex mP Ii sX;go_wp2_with fail
  go_big_quiet (fail)
  obtain⟨W2,Uz⟩:∃ W2,wr.drewN nq=W2:=⟨_,rfl⟩
  have vE:Blk W2 g 150 (dX (some ⟨b,off,none⟩) l.length c P cnt):=Uz ▸ rR;have yY:w.grownBy W2 (some g):=Uz ▸ pt ee _;have Sl:Holds W2 H:=Uz ▸ xD;rw[Uz];clear Uz c0 c1 rR ee xD q0;have c1:=vE.cell 1 rfl;go_wp2_with (with_reducible refine zx ?_)
  refine zr rfl _ _ _ rfl rfl g 1 (.int .i64 ((P:Int)+1)) rfl rfl _ _ vE yI (by simp) rfl fun w3 pi xf=>?_
  have uv:=sB yY xf (.inl rfl);have DX:Holds w3 H:=Sl.grown xf (by rintro q ⟨⟩;exact HP.out.apart)
  have fJ:Blk w3 g 150 (dX (some ⟨b,off,none⟩) l.length c (p+(k+1)) cnt):=by
   have e:((p+(k+1):Nat):Int)=(P:Int)+1:=by have:=Ck.out;omega
   rw[dX,e]
   exact pi
  clear pi xf vE yY Sl c1 K4;go_wp2_with fail
  go_roundw
  case rel=>exact⟨k+1,by omega,by go_num,by rw[HS.out,Int.natCast_add,Int.natCast_mul];rfl,fJ,uv,DX⟩
  case measure=>simp[intOf];omega
 have cG:k=z:=by omega
 subst cG;have x9:¬ ((k:Int)<(k:Int)):=by omega
 obtain⟨X,kE⟩:∃ X,beN ((l.drop p).take k)=X:=⟨_,rfl⟩
 rw[kE];have HX:=Hh kE;clear kE;go_wp2_with fail
 go_ret2
 exact .inr ⟨HL.out.1,by rw[HX.out];rfl,rR,ee⟩
theorem Wz {v:Nat}(hv:v<65536):vq v<18446744073709551616:=by
 by_cases hn:v/1024%32=31∧v%1024≠0
 ·rw[vq,if_pos hn.1];omega
 exact(gP hv hn).2
theorem X1 {v:Nat}(hv:v<4294967296):vd v<18446744073709551616:=by
 by_cases hn:v/8388608%256=255∧v%8388608≠0
 ·rw[vd,if_pos hn.1];omega
 exact(gQ hv hn).2
def xy (low:Nat) (b:List UInt8) (c:Nat):PR :=
 if low<24 then(match x8 low low with | .error e=>.err e | .ok x=>.ok x 0 c)
 else if b.length<2 ^ (low-24) then .err 2
 else match x8 low (beN (b.take (2 ^ (low-24)))) with | .error e=>.err e | .ok x=>.ok x (2 ^ (low-24)) c
theorem gl:(Tryz.prog.info? 75).map (·.size)=some 1:=by kernel_rfl
section
variable {w:World} {H:Snap} {g:Nat} {A:Option Addr} {c:Nat} {l:List UInt8} {p cnt:Nat}
theorem et (hP:Psr 150 w g H A c l p cnt) (low:Nat) (n9:low<24):Calls Tryz.prog 112 #[.pointer (some ⟨g,0,none⟩),.int .i64 (low:Int)] w (ItemOut 150 w H g A c l p (xy low (l.drop p) cnt)):=by
 have yS:=hP.gt;have ux:=(Rdg.refl hP).alloc zO;have u7:=Blk.new w 78 #[.int .i64 0,.int .u64 0,.slice none 0 0,.slice none 0 0];have zG:H w.heap.size=none:=hP.holds.none_of_ge (Nat.le_refl _);have E:Hid (xy low (l.drop p) cnt=.ok (.mk 7 low [] []) 0 cnt):=by rw[Hid,xy,if_pos n9,x8,if_pos n9]
 have z24:(low:Int)<24:=by omega
 have KU:IntKind.u64.wrap (low:Int)=(low:Int):=by rw[IntKind.wrap_u64];omega
 have HL:=Hh n9;clear n9;go_enter Tryz.func112,Tryz.ntmps112
 go_wp2_with (with_reducible refine zx ?_)
 refine stI u7 fun wz hTy z8=>?_
 have yx:=ux.gb zG (Nat.le_refl _) yS z8;go_wp2_with fail
 refine zw rfl rfl hTy rfl rfl zp rfl ?_
 exact ItemOut.ok (ja:=none) (jb:=0) (jc:=none) (jd:=0) E.out rfl yx (IsItem.plain _ 7 low (by omega) (by have:=HL.out;omega))
theorem cW (hP:Psr 150 w g H A c l p cnt):Calls Tryz.prog 112 #[.pointer (some ⟨g,0,none⟩),.int .i64 24] w (ItemOut 150 w H g A c l p (xy 24 (l.drop p) cnt)):=by
 have yS:=hP.gt;have ux:=(Rdg.refl hP).alloc zO;have u7:=Blk.new w 78 #[.int .i64 0,.int .u64 0,.slice none 0 0,.slice none 0 0];have zG:H w.heap.size=none:=hP.holds.none_of_ge (Nat.le_refl _);have E0:Hid (xy 24 (l.drop p) cnt=if(l.drop p).length<1 then .err 2 else match x8 24 (beN ((l.drop p).take 1)) with | .error e=>.err e | .ok x=>.ok x 1 cnt):=by rw[Hid,xy,if_neg (by omega)]
 have NM:=Hh (yR ux.psr 1 (by omega) (by omega));have HC:=Hh hP.cnt_le;go_enter Tryz.func112,Tryz.ntmps112
 go_wp2_with fail
 refine NM.out.mono ?_
 rintro e w3 (⟨hs,rfl,pi,xf⟩ | ⟨hs,rfl,pi,xf⟩)
 ·have E:Hid (xy 24 (l.drop p) cnt=.err 2):=by rw[Hid,E0.out,if_pos (by rw[List.length_drop];have:=hP.le;omega)]
  have wU:Rdg 150 w H w3 H g A c l p cnt:=ux.step xf pi hP.le HC.out;have un:=u7.gr xf (by omega);clear NM hs ux u7 pi xf;go_wp2_with (with_reducible refine zx ?_)
  refine stI un fun wz hTy z8=>?_
  have yx:=wU.gb zG (Nat.le_refl _) yS z8;go_wp2_with fail
  refine zw rfl rfl hTy rfl rfl zp rfl ?_
  exact ItemOut.err E.out rfl yx
 have wU:Rdg 150 w H w3 H g A c l (p+1) cnt:=ux.step xf pi hs HC.out;have un:=u7.gr xf (by omega);have E1:Hid (xy 24 (l.drop p) cnt=match x8 24 (beN ((l.drop p).take 1)) with | .error e=>.err e | .ok x=>.ok x 1 cnt):=by rw[Hid,E0.out,if_neg (by rw[List.length_drop];omega)]
 have xP:=xX ((l.drop p).take 1);have x9:((l.drop p).take 1).length=1:=by rw[List.length_take,List.length_drop];omega
 rw[x9]at xP
 simp only[Nat.reducePow]at xP
 have qY:=fun x h=>(sD (low:=24) (x:=x) (t:=(l.drop p).take 1) (by omega) (fun h=>by omega) (fun _=>⟨by rw[x9],rfl⟩) h).2.2.1
 obtain⟨n,hn⟩:∃ n,beN ((l.drop p).take 1)=n:=⟨_,rfl⟩
 rw[hn]at E1 xP qY⊢;have HN:=Hh xP;have Nb:=Hh qY;clear NM hs ux u7 pi xf E0 hn x9 xP qY;have rd:=Blk.new w3 78 #[.int .i64 0,.int .u64 0,.slice none 0 0,.slice none 0 0];have sO:=wU.alloc zO;have sN:=un.alloc zO;have wg:=Hh un.lt;have XH:H w3.heap.size=none:=wU.psr.holds.none_of_ge (Nat.le_refl _);clear wU un;go_wp2_with (with_reducible refine zx ?_)
 refine stI rd fun w4 kL hg4=>?_
 have yU:=sO.gb XH (Nat.le_of_lt wg.out) yS hg4;have yO:=sN.grown hg4 (by intro e;injection e with e;have:=wg.out;omega);clear sO sN rd hg4;obtain⟨X,kE⟩:∃ X,w3.heap.size=X:=⟨_,rfl⟩
 rw[kE]at kL XH wg⊢;clear kE
 by_cases h32:n<32
 ·have z32:(n:Int)<32:=by omega
  have E:Hid (xy 24 (l.drop p) cnt=.err 4):=by rw[Hid,E1.out,x8,if_neg (by omega),if_pos rfl,if_pos h32]
  clear h32;go_wp2_with (with_reducible refine zx ?_)
  refine stI yO fun wz hTy z8=>?_
  have yx:=yU.gb zG (Nat.le_refl _) yS z8;go_wp2_with fail
  refine zw rfl rfl hTy rfl rfl zp rfl ?_
  exact ItemOut.err E.out rfl yx
 have z32:¬ ((n:Int)<32):=by omega
 have E:Hid (xy 24 (l.drop p) cnt=.ok (.mk 7 n [] []) 1 cnt):=by rw[Hid,E1.out,x8,if_neg (by omega),if_pos rfl,if_neg h32]
 clear h32;go_wp2_with (with_reducible refine zx ?_)
 refine stI yO fun wz hTy z8=>?_
 have yx:=yU.gb zG (Nat.le_refl _) yS z8;go_wp2_with fail
 refine zw rfl rfl hTy rfl rfl zp rfl ?_
 exact ItemOut.ok (ja:=none) (jb:=0) (jc:=none) (jd:=0) E.out rfl yx (IsItem.plain _ 7 n (by omega) (by have:=HN.out;omega))
theorem cX (hP:Psr 150 w g H A c l p cnt):Calls Tryz.prog 112 #[.pointer (some ⟨g,0,none⟩),.int .i64 25] w (ItemOut 150 w H g A c l p (xy 25 (l.drop p) cnt)):=by
 have yS:=hP.gt;have ux:=(Rdg.refl hP).alloc zO;have u7:=Blk.new w 78 #[.int .i64 0,.int .u64 0,.slice none 0 0,.slice none 0 0];have zG:H w.heap.size=none:=hP.holds.none_of_ge (Nat.le_refl _);have E0:Hid (xy 25 (l.drop p) cnt=if(l.drop p).length<2 then .err 2 else match x8 25 (beN ((l.drop p).take 2)) with | .error e=>.err e | .ok x=>.ok x 2 cnt):=by rw[Hid,xy,if_neg (by omega)]
 have NM:=Hh (yR ux.psr 2 (by omega) (by omega));have HC:=Hh hP.cnt_le;go_enter Tryz.func112,Tryz.ntmps112
 go_wp2_with fail
 refine NM.out.mono ?_
 rintro e w3 (⟨hs,rfl,pi,xf⟩ | ⟨hs,rfl,pi,xf⟩)
 ·have E:Hid (xy 25 (l.drop p) cnt=.err 2):=by rw[Hid,E0.out,if_pos (by rw[List.length_drop];have:=hP.le;omega)]
  have wU:Rdg 150 w H w3 H g A c l p cnt:=ux.step xf pi hP.le HC.out;have un:=u7.gr xf (by omega);clear NM hs ux u7 pi xf;go_wp2_with (with_reducible refine zx ?_)
  refine stI un fun wz hTy z8=>?_
  have yx:=wU.gb zG (Nat.le_refl _) yS z8;go_wp2_with fail
  refine zw rfl rfl hTy rfl rfl zp rfl ?_
  exact ItemOut.err E.out rfl yx
 have wU:Rdg 150 w H w3 H g A c l (p+2) cnt:=ux.step xf pi hs HC.out;have un:=u7.gr xf (by omega);have E1:Hid (xy 25 (l.drop p) cnt=match x8 25 (beN ((l.drop p).take 2)) with | .error e=>.err e | .ok x=>.ok x 2 cnt):=by rw[Hid,E0.out,if_neg (by rw[List.length_drop];omega)]
 have xP:=xX ((l.drop p).take 2);have x9:((l.drop p).take 2).length=2:=by rw[List.length_take,List.length_drop];omega
 rw[x9]at xP
 simp only[Nat.reducePow]at xP
 have qY:=fun x h=>(sD (low:=25) (x:=x) (t:=(l.drop p).take 2) (by omega) (fun h=>by omega) (fun _=>⟨by rw[x9],rfl⟩) h).2.2.1
 obtain⟨n,hn⟩:∃ n,beN ((l.drop p).take 2)=n:=⟨_,rfl⟩
 rw[hn]at E1 xP qY⊢;have HN:=Hh xP;have Nb:=Hh qY;clear NM hs ux u7 pi xf E0 hn x9 xP qY;have rd:=Blk.new w3 78 #[.int .i64 0,.int .u64 0,.slice none 0 0,.slice none 0 0];have sO:=wU.alloc zO;have sN:=un.alloc zO;have wg:=Hh un.lt;have XH:H w3.heap.size=none:=wU.psr.holds.none_of_ge (Nat.le_refl _);clear wU un;go_wp2_with (with_reducible refine zx ?_)
 refine stI rd fun w4 kL hg4=>?_
 have yU:=sO.gb XH (Nat.le_of_lt wg.out) yS hg4;have yO:=sN.grown hg4 (by intro e;injection e with e;have:=wg.out;omega);clear sO sN rd hg4;obtain⟨X,kE⟩:∃ X,w3.heap.size=X:=⟨_,rfl⟩
 rw[kE]at kL XH wg⊢;clear kE
 have E2:Hid (x8 25 n=if(isNaN (vq n)&&vq n != zD)||(xt (vq n)).length != 3 then .error 4 else .ok (.mk 8 (vq n) [] [])):=by
  rw[Hid,gj 25 n (by omega)];rw[show so 25 n=vq n by rw[so,if_pos rfl]]
 have Zd:=Wz HN.out;have WD:=Hh (fun w=>aM n HN.out w);obtain⟨D,hD⟩:∃ D,vq n=D:=⟨_,rfl⟩
 rw[hD]at E2 Zd WD;go_wp2_with fail
 refine(WD.out _).mono ?_
 rintro e w6 ⟨rfl,rfl⟩
 clear WD hD;go_wp2_with (with_reducible refine zx ?_)
 refine zr rfl _ _ _ rfl rfl X 1 (.int .u64 (D:Int)) rfl rfl _ _ kL gl (by simp) rfl fun w7 fS hg7=>?_
 have xp:=yU.gb XH (Nat.le_of_lt wg.out) yS hg7;have xx:=yO.grown hg7 (by intro e;injection e with e;have:=wg.out;omega);have pP:Blk w7 X 78 #[.int .i64 8,.int .u64 (D:Int),.slice none 0 0,.slice none 0 0]:=fS;clear yU yO kL hg7 fS;have b0:=pP.cell 0 rfl;have b1:=pP.cell 1 rfl;have b2:=pP.cell 2 rfl;have b3:=pP.cell 3 rfl;have IN:=Hh (fun w=>pJ D Zd w);have FL:=Hh (fun w=>nM D Zd w);have Sd:=Hh Zd;obtain⟨fl,vj⟩:∃ fl,(xt D).length=fl:=⟨_,rfl⟩
 obtain⟨nn,uK⟩:∃ nn,isNaN D=nn:=⟨_,rfl⟩
 rw[uK]at IN E2;rw[vj]at E2;have oO:=Hh vj;clear Zd uK vj;have xq:(D != zD)=true∨(D != zD)=false:=by cases (D != zD) <;> simp
 cases nn with
 | true =>
  rcases xq with xq | xq
  ·have mq:D≠9221120237041090560:=by rw[bne_iff_ne]at xq;exact xq
   have c1:((D:Int) != 9221120237041090560)=true:=by rw[bne_iff_ne];omega
   have c1':((D:Int)=9221120237041090560)=False:=eq_false (by omega);have E:Hid (xy 25 (l.drop p) cnt=.err 4):=by rw[Hid,E1.out,E2.out,xq];simp
   clear E1 E2 xq mq oO;go_wp2_with fail
   refine(IN.out _).mono ?_
   rintro e w6 ⟨rfl,rfl⟩
   go_wp2_with (with_reducible refine zx ?_)
   refine stI xx fun wz hTy z8=>?_
   have yx:=xp.gb zG (Nat.le_refl _) yS z8;go_wp2_with fail
   refine zw rfl rfl hTy rfl rfl zp rfl ?_
   exact ItemOut.err E.out rfl yx
  have mq:D=9221120237041090560:=by rw[bne_eq_false_iff_eq]at xq;exact xq
  have c1:((D:Int) != 9221120237041090560)=false:=by rw[bne_eq_false_iff_eq];omega
  have c1':((D:Int)=9221120237041090560)=True:=eq_true (by omega);rw[xq]at E2;clear xq mq;go_wp2_with fail
  refine(IN.out _).mono ?_
  rintro e w6 ⟨rfl,rfl⟩
  go_wp2_with fail
  refine(FL.out _).mono ?_
  rintro e w8 ⟨r,rfl,hf⟩
  have vF:=xp.below_ hf.2;have td:=xx.below hf.2;have qz:=pP.below hf.2;obtain⟨RA,rc,rfl,_⟩:=hf.own.form;rw[oO.out];clear b0 b1 b2 b3 hf;have b0:=qz.cell 0 rfl;have b1:=qz.cell 1 rfl;have b2:=qz.cell 2 rfl;have b3:=qz.cell 3 rfl
  by_cases hq:fl=3
  ·subst hq;have E:Hid (xy 25 (l.drop p) cnt=.ok (.mk 8 D [] []) 2 cnt):=by rw[Hid,E1.out,E2.out];simp 
   clear E1 E2 oO;go_wp2_with (with_reducible refine zx ?_)
   refine stI td fun wz hTy z8=>?_
   have yx:=vF.gb zG (Nat.le_refl _) yS z8;go_wp2_with fail
   refine zw rfl rfl hTy rfl rfl zp rfl ?_
   exact ItemOut.ok (ja:=none) (jb:=0) (jc:=none) (jd:=0) E.out rfl yx (IsItem.plain _ 8 D (by omega) Sd.out)
  have zq:((fl:Int)==3)=false:=by simp;omega
  have zq2:((fl:Int)=3)=False:=eq_false (by omega);have E:Hid (xy 25 (l.drop p) cnt=.err 4):=by rw[Hid,E1.out,E2.out];simp[hq]
  clear E1 E2 oO hq;go_wp2_with (with_reducible refine zx ?_)
  refine stI td fun wz hTy z8=>?_
  have yx:=vF.gb zG (Nat.le_refl _) yS z8;go_wp2_with fail
  refine zw rfl rfl hTy rfl rfl zp rfl ?_
  exact ItemOut.err E.out rfl yx
 | false =>
 clear xq;go_wp2_with fail
 refine(IN.out _).mono ?_
 rintro e w6 ⟨rfl,rfl⟩
 go_wp2_with fail
 refine(FL.out _).mono ?_
 rintro e w8 ⟨r,rfl,hf⟩
 have vF:=xp.below_ hf.2;have td:=xx.below hf.2;have qz:=pP.below hf.2;obtain⟨RA,rc,rfl,_⟩:=hf.own.form;rw[oO.out];clear b0 b1 b2 b3 hf;have b0:=qz.cell 0 rfl;have b1:=qz.cell 1 rfl;have b2:=qz.cell 2 rfl;have b3:=qz.cell 3 rfl
 by_cases hq:fl=3
 ·subst hq;have E:Hid (xy 25 (l.drop p) cnt=.ok (.mk 8 D [] []) 2 cnt):=by rw[Hid,E1.out,E2.out];simp 
  clear E1 E2 oO;go_wp2_with (with_reducible refine zx ?_)
  refine stI td fun wz hTy z8=>?_
  have yx:=vF.gb zG (Nat.le_refl _) yS z8;go_wp2_with fail
  refine zw rfl rfl hTy rfl rfl zp rfl ?_
  exact ItemOut.ok (ja:=none) (jb:=0) (jc:=none) (jd:=0) E.out rfl yx (IsItem.plain _ 8 D (by omega) Sd.out)
 have zq:((fl:Int)==3)=false:=by simp;omega
 have zq2:((fl:Int)=3)=False:=eq_false (by omega);have E:Hid (xy 25 (l.drop p) cnt=.err 4):=by rw[Hid,E1.out,E2.out];simp[hq]
 clear E1 E2 oO hq;go_wp2_with (with_reducible refine zx ?_)
 refine stI td fun wz hTy z8=>?_
 have yx:=vF.gb zG (Nat.le_refl _) yS z8;go_wp2_with fail
 refine zw rfl rfl hTy rfl rfl zp rfl ?_
 exact ItemOut.err E.out rfl yx
theorem cY (hP:Psr 150 w g H A c l p cnt):Calls Tryz.prog 112 #[.pointer (some ⟨g,0,none⟩),.int .i64 26] w (ItemOut 150 w H g A c l p (xy 26 (l.drop p) cnt)):=by
 have yS:=hP.gt;have ux:=(Rdg.refl hP).alloc zO;have u7:=Blk.new w 78 #[.int .i64 0,.int .u64 0,.slice none 0 0,.slice none 0 0];have zG:H w.heap.size=none:=hP.holds.none_of_ge (Nat.le_refl _);have E0:Hid (xy 26 (l.drop p) cnt=if(l.drop p).length<4 then .err 2 else match x8 26 (beN ((l.drop p).take 4)) with | .error e=>.err e | .ok x=>.ok x 4 cnt):=by rw[Hid,xy,if_neg (by omega)]
 have NM:=Hh (yR ux.psr 4 (by omega) (by omega));have HC:=Hh hP.cnt_le;go_enter Tryz.func112,Tryz.ntmps112
 go_wp2_with fail
 refine NM.out.mono ?_
 rintro e w3 (⟨hs,rfl,pi,xf⟩ | ⟨hs,rfl,pi,xf⟩)
 ·have E:Hid (xy 26 (l.drop p) cnt=.err 2):=by rw[Hid,E0.out,if_pos (by rw[List.length_drop];have:=hP.le;omega)]
  have wU:Rdg 150 w H w3 H g A c l p cnt:=ux.step xf pi hP.le HC.out;have un:=u7.gr xf (by omega);clear NM hs ux u7 pi xf;go_wp2_with (with_reducible refine zx ?_)
  refine stI un fun wz hTy z8=>?_
  have yx:=wU.gb zG (Nat.le_refl _) yS z8;go_wp2_with fail
  refine zw rfl rfl hTy rfl rfl zp rfl ?_
  exact ItemOut.err E.out rfl yx
 have wU:Rdg 150 w H w3 H g A c l (p+4) cnt:=ux.step xf pi hs HC.out;have un:=u7.gr xf (by omega);have E1:Hid (xy 26 (l.drop p) cnt=match x8 26 (beN ((l.drop p).take 4)) with | .error e=>.err e | .ok x=>.ok x 4 cnt):=by rw[Hid,E0.out,if_neg (by rw[List.length_drop];omega)]
 have xP:=xX ((l.drop p).take 4);have x9:((l.drop p).take 4).length=4:=by rw[List.length_take,List.length_drop];omega
 rw[x9]at xP
 simp only[Nat.reducePow]at xP
 have qY:=fun x h=>(sD (low:=26) (x:=x) (t:=(l.drop p).take 4) (by omega) (fun h=>by omega) (fun _=>⟨by rw[x9],rfl⟩) h).2.2.1
 obtain⟨n,hn⟩:∃ n,beN ((l.drop p).take 4)=n:=⟨_,rfl⟩
 rw[hn]at E1 xP qY⊢;have HN:=Hh xP;have Nb:=Hh qY;clear NM hs ux u7 pi xf E0 hn x9 xP qY;have rd:=Blk.new w3 78 #[.int .i64 0,.int .u64 0,.slice none 0 0,.slice none 0 0];have sO:=wU.alloc zO;have sN:=un.alloc zO;have wg:=Hh un.lt;have XH:H w3.heap.size=none:=wU.psr.holds.none_of_ge (Nat.le_refl _);clear wU un;go_wp2_with (with_reducible refine zx ?_)
 refine stI rd fun w4 kL hg4=>?_
 have yU:=sO.gb XH (Nat.le_of_lt wg.out) yS hg4;have yO:=sN.grown hg4 (by intro e;injection e with e;have:=wg.out;omega);clear sO sN rd hg4;obtain⟨X,kE⟩:∃ X,w3.heap.size=X:=⟨_,rfl⟩
 rw[kE]at kL XH wg⊢;clear kE
 have E2:Hid (x8 26 n=if(isNaN (vd n)&&vd n != zD)||(xt (vd n)).length != 5 then .error 4 else .ok (.mk 8 (vd n) [] [])):=by
  rw[Hid,gj 26 n (by omega)];rw[show so 26 n=vd n by rw[so,if_neg (by omega),if_pos rfl]]
 have Zd:=X1 HN.out;have WD:=Hh (fun w=>aN n HN.out w);obtain⟨D,hD⟩:∃ D,vd n=D:=⟨_,rfl⟩
 rw[hD]at E2 Zd WD;go_wp2_with fail
 refine(WD.out _).mono ?_
 rintro e w6 ⟨rfl,rfl⟩
 clear WD hD;go_wp2_with (with_reducible refine zx ?_)
 refine zr rfl _ _ _ rfl rfl X 1 (.int .u64 (D:Int)) rfl rfl _ _ kL gl (by simp) rfl fun w7 fS hg7=>?_
 have xp:=yU.gb XH (Nat.le_of_lt wg.out) yS hg7;have xx:=yO.grown hg7 (by intro e;injection e with e;have:=wg.out;omega);have pP:Blk w7 X 78 #[.int .i64 8,.int .u64 (D:Int),.slice none 0 0,.slice none 0 0]:=fS;clear yU yO kL hg7 fS;have b0:=pP.cell 0 rfl;have b1:=pP.cell 1 rfl;have b2:=pP.cell 2 rfl;have b3:=pP.cell 3 rfl;have IN:=Hh (fun w=>pJ D Zd w);have FL:=Hh (fun w=>nM D Zd w);have Sd:=Hh Zd;obtain⟨fl,vj⟩:∃ fl,(xt D).length=fl:=⟨_,rfl⟩
 obtain⟨nn,uK⟩:∃ nn,isNaN D=nn:=⟨_,rfl⟩
 rw[uK]at IN E2;rw[vj]at E2;have oO:=Hh vj;clear Zd uK vj;have xq:(D != zD)=true∨(D != zD)=false:=by cases (D != zD) <;> simp
 cases nn with
 | true =>
  rcases xq with xq | xq
  ·have mq:D≠9221120237041090560:=by rw[bne_iff_ne]at xq;exact xq
   have c1:((D:Int) != 9221120237041090560)=true:=by rw[bne_iff_ne];omega
   have c1':((D:Int)=9221120237041090560)=False:=eq_false (by omega);have E:Hid (xy 26 (l.drop p) cnt=.err 4):=by rw[Hid,E1.out,E2.out,xq];simp
   clear E1 E2 xq mq oO;go_wp2_with fail
   refine(IN.out _).mono ?_
   rintro e w6 ⟨rfl,rfl⟩
   go_wp2_with (with_reducible refine zx ?_)
   refine stI xx fun wz hTy z8=>?_
   have yx:=xp.gb zG (Nat.le_refl _) yS z8;go_wp2_with fail
   refine zw rfl rfl hTy rfl rfl zp rfl ?_
   exact ItemOut.err E.out rfl yx
  have mq:D=9221120237041090560:=by rw[bne_eq_false_iff_eq]at xq;exact xq
  have c1:((D:Int) != 9221120237041090560)=false:=by rw[bne_eq_false_iff_eq];omega
  have c1':((D:Int)=9221120237041090560)=True:=eq_true (by omega);rw[xq]at E2;clear xq mq;go_wp2_with fail
  refine(IN.out _).mono ?_
  rintro e w6 ⟨rfl,rfl⟩
  go_wp2_with fail
  refine(FL.out _).mono ?_
  rintro e w8 ⟨r,rfl,hf⟩
  have vF:=xp.below_ hf.2;have td:=xx.below hf.2;have qz:=pP.below hf.2;obtain⟨RA,rc,rfl,_⟩:=hf.own.form;rw[oO.out];clear b0 b1 b2 b3 hf;have b0:=qz.cell 0 rfl;have b1:=qz.cell 1 rfl;have b2:=qz.cell 2 rfl;have b3:=qz.cell 3 rfl
  by_cases hq:fl=5
  ·subst hq;have E:Hid (xy 26 (l.drop p) cnt=.ok (.mk 8 D [] []) 4 cnt):=by rw[Hid,E1.out,E2.out];simp 
   clear E1 E2 oO;go_wp2_with (with_reducible refine zx ?_)
   refine stI td fun wz hTy z8=>?_
   have yx:=vF.gb zG (Nat.le_refl _) yS z8;go_wp2_with fail
   refine zw rfl rfl hTy rfl rfl zp rfl ?_
   exact ItemOut.ok (ja:=none) (jb:=0) (jc:=none) (jd:=0) E.out rfl yx (IsItem.plain _ 8 D (by omega) Sd.out)
  have zq:((fl:Int)==5)=false:=by simp;omega
  have zq2:((fl:Int)=5)=False:=eq_false (by omega);have E:Hid (xy 26 (l.drop p) cnt=.err 4):=by rw[Hid,E1.out,E2.out];simp[hq]
  clear E1 E2 oO hq;go_wp2_with (with_reducible refine zx ?_)
  refine stI td fun wz hTy z8=>?_
  have yx:=vF.gb zG (Nat.le_refl _) yS z8;go_wp2_with fail
  refine zw rfl rfl hTy rfl rfl zp rfl ?_
  exact ItemOut.err E.out rfl yx
 | false =>
 clear xq;go_wp2_with fail
 refine(IN.out _).mono ?_
 rintro e w6 ⟨rfl,rfl⟩
 go_wp2_with fail
 refine(FL.out _).mono ?_
 rintro e w8 ⟨r,rfl,hf⟩
 have vF:=xp.below_ hf.2;have td:=xx.below hf.2;have qz:=pP.below hf.2;obtain⟨RA,rc,rfl,_⟩:=hf.own.form;rw[oO.out];clear b0 b1 b2 b3 hf;have b0:=qz.cell 0 rfl;have b1:=qz.cell 1 rfl;have b2:=qz.cell 2 rfl;have b3:=qz.cell 3 rfl
 by_cases hq:fl=5
 ·subst hq;have E:Hid (xy 26 (l.drop p) cnt=.ok (.mk 8 D [] []) 4 cnt):=by rw[Hid,E1.out,E2.out];simp 
  clear E1 E2 oO;go_wp2_with (with_reducible refine zx ?_)
  refine stI td fun wz hTy z8=>?_
  have yx:=vF.gb zG (Nat.le_refl _) yS z8;go_wp2_with fail
  refine zw rfl rfl hTy rfl rfl zp rfl ?_
  exact ItemOut.ok (ja:=none) (jb:=0) (jc:=none) (jd:=0) E.out rfl yx (IsItem.plain _ 8 D (by omega) Sd.out)
 have zq:((fl:Int)==5)=false:=by simp;omega
 have zq2:((fl:Int)=5)=False:=eq_false (by omega);have E:Hid (xy 26 (l.drop p) cnt=.err 4):=by rw[Hid,E1.out,E2.out];simp[hq]
 clear E1 E2 oO hq;go_wp2_with (with_reducible refine zx ?_)
 refine stI td fun wz hTy z8=>?_
 have yx:=vF.gb zG (Nat.le_refl _) yS z8;go_wp2_with fail
 refine zw rfl rfl hTy rfl rfl zp rfl ?_
 exact ItemOut.err E.out rfl yx
theorem cZ (hP:Psr 150 w g H A c l p cnt):Calls Tryz.prog 112 #[.pointer (some ⟨g,0,none⟩),.int .i64 27] w (ItemOut 150 w H g A c l p (xy 27 (l.drop p) cnt)):=by
 have yS:=hP.gt;have ux:=(Rdg.refl hP).alloc zO;have u7:=Blk.new w 78 #[.int .i64 0,.int .u64 0,.slice none 0 0,.slice none 0 0];have zG:H w.heap.size=none:=hP.holds.none_of_ge (Nat.le_refl _);have E0:Hid (xy 27 (l.drop p) cnt=if(l.drop p).length<8 then .err 2 else match x8 27 (beN ((l.drop p).take 8)) with | .error e=>.err e | .ok x=>.ok x 8 cnt):=by rw[Hid,xy,if_neg (by omega)]
 have NM:=Hh (yR ux.psr 8 (by omega) (by omega));have HC:=Hh hP.cnt_le;go_enter Tryz.func112,Tryz.ntmps112
 go_wp2_with fail
 refine NM.out.mono ?_
 rintro e w3 (⟨hs,rfl,pi,xf⟩ | ⟨hs,rfl,pi,xf⟩)
 ·have E:Hid (xy 27 (l.drop p) cnt=.err 2):=by rw[Hid,E0.out,if_pos (by rw[List.length_drop];have:=hP.le;omega)]
  have wU:Rdg 150 w H w3 H g A c l p cnt:=ux.step xf pi hP.le HC.out;have un:=u7.gr xf (by omega);clear NM hs ux u7 pi xf;go_wp2_with (with_reducible refine zx ?_)
  refine stI un fun wz hTy z8=>?_
  have yx:=wU.gb zG (Nat.le_refl _) yS z8;go_wp2_with fail
  refine zw rfl rfl hTy rfl rfl zp rfl ?_
  exact ItemOut.err E.out rfl yx
 have wU:Rdg 150 w H w3 H g A c l (p+8) cnt:=ux.step xf pi hs HC.out;have un:=u7.gr xf (by omega);have E1:Hid (xy 27 (l.drop p) cnt=match x8 27 (beN ((l.drop p).take 8)) with | .error e=>.err e | .ok x=>.ok x 8 cnt):=by rw[Hid,E0.out,if_neg (by rw[List.length_drop];omega)]
 have xP:=xX ((l.drop p).take 8);have x9:((l.drop p).take 8).length=8:=by rw[List.length_take,List.length_drop];omega
 rw[x9]at xP
 simp only[Nat.reducePow]at xP
 have qY:=fun x h=>(sD (low:=27) (x:=x) (t:=(l.drop p).take 8) (by omega) (fun h=>by omega) (fun _=>⟨by rw[x9],rfl⟩) h).2.2.1
 obtain⟨n,hn⟩:∃ n,beN ((l.drop p).take 8)=n:=⟨_,rfl⟩
 rw[hn]at E1 xP qY⊢;have HN:=Hh xP;have Nb:=Hh qY;clear NM hs ux u7 pi xf E0 hn x9 xP qY;have rd:=Blk.new w3 78 #[.int .i64 0,.int .u64 0,.slice none 0 0,.slice none 0 0];have sO:=wU.alloc zO;have sN:=un.alloc zO;have wg:=Hh un.lt;have XH:H w3.heap.size=none:=wU.psr.holds.none_of_ge (Nat.le_refl _);clear wU un;go_wp2_with (with_reducible refine zx ?_)
 refine stI rd fun w4 kL hg4=>?_
 have yU:=sO.gb XH (Nat.le_of_lt wg.out) yS hg4;have yO:=sN.grown hg4 (by intro e;injection e with e;have:=wg.out;omega);clear sO sN rd hg4;obtain⟨X,kE⟩:∃ X,w3.heap.size=X:=⟨_,rfl⟩
 rw[kE]at kL XH wg⊢;clear kE
 have E2:Hid (x8 27 n=if(isNaN (n)&&n != zD)||(xt (n)).length != 9 then .error 4 else .ok (.mk 8 (n) [] [])):=by
  rw[Hid,gj 27 n (by omega)];rw[show so 27 n=n by rw[so,if_neg (by omega),if_neg (by omega)]]
 have Zd:=HN.out;obtain⟨D,hD⟩:∃ D,n=D:=⟨_,rfl⟩
 subst hD;have xp:=yU;have xx:=yO;have pP:=kL;clear yU yO kL;have b0:=pP.cell 0 rfl;have b1:=pP.cell 1 rfl;have b2:=pP.cell 2 rfl;have b3:=pP.cell 3 rfl;have IN:=Hh (fun w=>pJ n Zd w);have FL:=Hh (fun w=>nM n Zd w);have Sd:=Hh Zd;obtain⟨fl,vj⟩:∃ fl,(xt n).length=fl:=⟨_,rfl⟩
 obtain⟨nn,uK⟩:∃ nn,isNaN n=nn:=⟨_,rfl⟩
 rw[uK]at IN E2;rw[vj]at E2;have oO:=Hh vj;clear Zd uK vj;have xq:(n != zD)=true∨(n != zD)=false:=by cases (n != zD) <;> simp
 cases nn with
 | true =>
  rcases xq with xq | xq
  ·have mq:n≠9221120237041090560:=by rw[bne_iff_ne]at xq;exact xq
   have c1:((n:Int) != 9221120237041090560)=true:=by rw[bne_iff_ne];omega
   have c1':((n:Int)=9221120237041090560)=False:=eq_false (by omega);have E:Hid (xy 27 (l.drop p) cnt=.err 4):=by rw[Hid,E1.out,E2.out,xq];simp
   clear E1 E2 xq mq oO;go_wp2_with fail
   refine(IN.out _).mono ?_
   rintro e w6 ⟨rfl,rfl⟩
   go_wp2_with (with_reducible refine zx ?_)
   refine stI xx fun wz hTy z8=>?_
   have yx:=xp.gb zG (Nat.le_refl _) yS z8;go_wp2_with fail
   refine zw rfl rfl hTy rfl rfl zp rfl ?_
   exact ItemOut.err E.out rfl yx
  have mq:n=9221120237041090560:=by rw[bne_eq_false_iff_eq]at xq;exact xq
  have c1:((n:Int) != 9221120237041090560)=false:=by rw[bne_eq_false_iff_eq];omega
  have c1':((n:Int)=9221120237041090560)=True:=eq_true (by omega);rw[xq]at E2;clear xq mq;go_wp2_with fail
  refine(IN.out _).mono ?_
  rintro e w6 ⟨rfl,rfl⟩
  go_wp2_with fail
  refine(FL.out _).mono ?_
  rintro e w8 ⟨r,rfl,hf⟩
  have vF:=xp.below_ hf.2;have td:=xx.below hf.2;have qz:=pP.below hf.2;obtain⟨RA,rc,rfl,_⟩:=hf.own.form;rw[oO.out];clear b0 b1 b2 b3 hf;have b0:=qz.cell 0 rfl;have b1:=qz.cell 1 rfl;have b2:=qz.cell 2 rfl;have b3:=qz.cell 3 rfl
  by_cases hq:fl=9
  ·subst hq;have E:Hid (xy 27 (l.drop p) cnt=.ok (.mk 8 n [] []) 8 cnt):=by rw[Hid,E1.out,E2.out];simp 
   clear E1 E2 oO;go_wp2_with (with_reducible refine zx ?_)
   refine stI td fun wz hTy z8=>?_
   have yx:=vF.gb zG (Nat.le_refl _) yS z8;go_wp2_with fail
   refine zw rfl rfl hTy rfl rfl zp rfl ?_
   exact ItemOut.ok (ja:=none) (jb:=0) (jc:=none) (jd:=0) E.out rfl yx (IsItem.plain _ 8 n (by omega) Sd.out)
  have zq:((fl:Int)==9)=false:=by simp;omega
  have zq2:((fl:Int)=9)=False:=eq_false (by omega);have E:Hid (xy 27 (l.drop p) cnt=.err 4):=by rw[Hid,E1.out,E2.out];simp[hq]
  clear E1 E2 oO hq;go_wp2_with (with_reducible refine zx ?_)
  refine stI td fun wz hTy z8=>?_
  have yx:=vF.gb zG (Nat.le_refl _) yS z8;go_wp2_with fail
  refine zw rfl rfl hTy rfl rfl zp rfl ?_
  exact ItemOut.err E.out rfl yx
 | false =>
 clear xq;go_wp2_with fail
 refine(IN.out _).mono ?_
 rintro e w6 ⟨rfl,rfl⟩
 go_wp2_with fail
 refine(FL.out _).mono ?_
 rintro e w8 ⟨r,rfl,hf⟩
 have vF:=xp.below_ hf.2;have td:=xx.below hf.2;have qz:=pP.below hf.2;obtain⟨RA,rc,rfl,_⟩:=hf.own.form;rw[oO.out];clear b0 b1 b2 b3 hf;have b0:=qz.cell 0 rfl;have b1:=qz.cell 1 rfl;have b2:=qz.cell 2 rfl;have b3:=qz.cell 3 rfl
 by_cases hq:fl=9
 ·subst hq;have E:Hid (xy 27 (l.drop p) cnt=.ok (.mk 8 n [] []) 8 cnt):=by rw[Hid,E1.out,E2.out];simp 
  clear E1 E2 oO;go_wp2_with (with_reducible refine zx ?_)
  refine stI td fun wz hTy z8=>?_
  have yx:=vF.gb zG (Nat.le_refl _) yS z8;go_wp2_with fail
  refine zw rfl rfl hTy rfl rfl zp rfl ?_
  exact ItemOut.ok (ja:=none) (jb:=0) (jc:=none) (jd:=0) E.out rfl yx (IsItem.plain _ 8 n (by omega) Sd.out)
 have zq:((fl:Int)==9)=false:=by simp;omega
 have zq2:((fl:Int)=9)=False:=eq_false (by omega);have E:Hid (xy 27 (l.drop p) cnt=.err 4):=by rw[Hid,E1.out,E2.out];simp[hq]
 clear E1 E2 oO hq;go_wp2_with (with_reducible refine zx ?_)
 refine stI td fun wz hTy z8=>?_
 have yx:=vF.gb zG (Nat.le_refl _) yS z8;go_wp2_with fail
 refine zw rfl rfl hTy rfl rfl zp rfl ?_
 exact ItemOut.err E.out rfl yx
theorem WQ (hP:Psr 150 w g H A c l p cnt) (low:Nat) (hl:low≤27):Calls Tryz.prog 112 #[.pointer (some ⟨g,0,none⟩),.int .i64 (low:Int)] w (ItemOut 150 w H g A c l p (xy low (l.drop p) cnt)):=by
 by_cases h:low<24
 ·exact et hP low h
 rcases(by omega:low=24∨low=25∨low=26∨low=27) with rfl | rfl | rfl | rfl
 ·exact cW hP
 ·exact cX hP
 ·exact cY hP
 exact cZ hP
end
def ve (maj:Nat) (p:List UInt8→Nat→PR):Nat→Bool→List UInt8→Nat→Option (List UInt8)→PL
 | 0,_,_,c,_=>.ok [] 0 c
 | m+1,ev,b,c,last=>match p b c with
  | .err e=>.err e
  | .ok x k c' =>
  if maj=5∧ev=true then
   match ms last (b.take k) with
   | some e=>.err e
   | none=>(ve maj p m false (b.drop k) c' (some (b.take k))).pre [x] k
  else(ve maj p m (!ev) (b.drop k) c' last).pre [x] k
theorem Xf (L M:List Itm) (a b:Nat) (r:PL):(r.pre M b).pre L a=r.pre (L++M) (a+b):=by
 cases r <;> simp[PL.pre,Nat.add_assoc]
section
variable {maj:Nat} {p:List UInt8→Nat→PR} {m:Nat} {ev:Bool} {b:List UInt8} {cc q k c1:Nat} {x:Itm} {last:Option (List UInt8)}
theorem TF (L:List Itm) (k0:Nat) (h:p b cc=.err q):(ve maj p (m+1) ev b cc last).pre L k0=.err q:=by rw[ve,h];rfl
theorem ai (L:List Itm) (k0:Nat) (h:p b cc=.ok x k c1) (hm:maj=5) (he:ev=true) (h2:ms last (b.take k)=some q):(ve maj p (m+1) ev b cc last).pre L k0=.err q:=by
 rw[ve,h];simp only;rw[if_pos ⟨hm,he⟩,h2];rfl
theorem iz (L:List Itm) (k0:Nat) (h:p b cc=.ok x k c1) (hm:maj=5) (he:ev=true) (h2:ms last (b.take k)=none):(ve maj p (m+1) ev b cc last).pre L k0=(ve maj p m false (b.drop k) c1 (some (b.take k))).pre (L++[x]) (k0+k):=by
 rw[ve,h];simp only;rw[if_pos ⟨hm,he⟩,h2];simp only;rw[Xf]
theorem Qu (L:List Itm) (k0:Nat) (h:p b cc=.ok x k c1) (hm:¬ (maj=5∧ev=true)):(ve maj p (m+1) ev b cc last).pre L k0=(ve maj p m (!ev) (b.drop k) c1 last).pre (L++[x]) (k0+k):=by
 rw[ve,h];simp only;rw[if_neg hm,Xf]
end
theorem o1 {maj:Nat}(hm:maj≠5) (p:List UInt8→Nat→PR):∀ (n:Nat) (ev:Bool) (b:List UInt8) (c:Nat) (last:Option (List UInt8)),ve maj p n ev b c last=uf p n b c
 | 0,_,_,_,_=>rfl
 | n+1,ev,b,c,last=>by
  rw[ve,uf]
  cases h:p b c with
  | err e=>rfl
  | ok x k c1 =>
  simp only
  rw[if_neg (fun h=>hm h.1),o1 hm p n]
  cases uf p n (b.drop k) c1 <;> rfl
theorem aj (p:List UInt8→Nat→PR):∀ (n:Nat) (b:List UInt8) (c:Nat) (last:Option (List UInt8)),ve 5 p (2*n) true b c last=pQ p n b c last
 | 0,_,_,_=>rfl
 | n+1,b,c,last=>by
  rw[show 2*(n+1)=(2*n+1)+1 by omega,ve,pQ]
  cases h:p b c with
  | err e=>rfl
  | ok x k c1 =>
  simp only
  rw[if_pos (by simp)]
  cases hk:ms last (b.take k) with
  | some e=>rfl
  | none =>
  simp only
  rw[ve]
  cases h2:p (b.drop k) c1 with
  | err e=>rfl
  | ok y k2 c2 =>
  simp only
  rw[if_neg (by simp),List.drop_drop,Bool.not_false,aj p n]
  cases pQ p n (b.drop (k+k2)) c2 (some (b.take k)) with
  | err e=>rfl
  | ok l k3 c3=>simp[PL.pre,Nat.add_assoc]
def hU (maj n:Nat):Nat:=if maj=5 then 2*min n 4294967296 else if maj=6 then 1 else n
def elR (maj n:Nat):PL→PR
 | .err q=>.err q
 | .ok L k c=>.ok (.mk (maj:Int) (if maj=6 then n else 0) [] L) k c
def uG (maj d n:Nat) (b:List UInt8) (c:Nat):PR:=elR maj n (ve maj (zd d) (hU maj n) true b c none)
theorem YY (d:Nat) (b:List UInt8) (c:Nat) (h:¬ 256≤c) {f n k:Nat}(hq:zc b=.ok (f,n,k)) (h4:4≤f/32) (h6:f/32≤6) :
  zd (d+1) b c=(match uG (f/32) d n (b.drop k) (c+1) with | .err e=>.err e | .ok x k' c'=>.ok x (k+k') c'):=by
 rcases(by omega:f/32=4∨f/32=5∨f/32=6) with hk | hk | hk
 ·rw[WI d b c h hq hk,hk,uG,o1 (by omega),hU,if_neg (by omega),if_neg (by omega)]
  cases uf (zd d) n (b.drop k) (c+1) <;> rfl
 ·rw[WJ d b c h hq hk,hk,uG,hU,if_pos rfl,aj]
  have e:pQ (zd d) (min n 4294967296) (b.drop k) (c+1) none=pQ (zd d) n (b.drop k) (c+1) none:=by
   rcases Nat.le_total n 4294967296 with hn | hn
   ·rw[Nat.min_eq_left hn]
   rw[Nat.min_eq_right hn]
   exact Xd (rD d) _ _ _ _ _ (by omega) (by omega) (by omega)
  rw[e]
  cases pQ (zd d) n (b.drop k) (c+1) none <;> rfl
 rw[WK d b c h hq hk,hk,uG,hU,if_neg (by omega),if_pos rfl,o1 (by omega),uf]
 cases zd d (b.drop k) (c+1) with
 | err e=>rfl
 | ok x k' c'=>simp[uf,elR]
end Go.Proofs.YtjpcnhncoidliaaGreatDoor
