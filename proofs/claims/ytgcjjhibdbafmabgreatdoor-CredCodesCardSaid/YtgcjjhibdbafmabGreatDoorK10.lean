/- squeezed. Walks: the program's reader of ite -/
import Derived.Test.YtgcjjhibdbafmabGreatDoorK09
set_option linter.unusedVariables false
set_option linter.unusedSimpArgs false
set_option maxRecDepth 100000
set_option maxHeartbeats 6400000
namespace Go.Proofs.YtgcjjhibdbafmabGreatDoor
open Go.RowKit
section
variable {d:Nat} {w:World} {H:Snap} {g:Nat} {A:Option Addr} {c:Nat} {l:List UInt8} {p cnt lv:Nat}
theorem Vr (ih:eO d) (hTab:Tabs H) (hlv:lv+(d+1)=8) (hP:Psr 107 w g H A c l p cnt) (hc:cnt<256) {f n k:Nat}(hh:zf (l.drop p)=.ok (f,n,k)) (hk:f/32=5):Calls Tryz.prog 78 #[.pointer (some ⟨g,0,none⟩),.int .i64 (lv:Int)] w (ItemOut 107 w H g A c l p (zj (d+1) (l.drop p) cnt)):=by
 have yv:=hP.gt;have xg:=(Rdg.refl hP).alloc zg;have we:=Blk.new w 57 #[.int .i64 0,.int .u64 0,.slice none 0 0,.slice none 0 0];have zF:H w.heap.size=none:=hP.holds.none_of_ge (Nat.le_refl _);have c2:=xg.psr.blk.cell 2 rfl;have E0:=Hh (gc d (l.drop p) cnt (by omega) hh hk);have S:(f:Int)/32=5:=by omega
 have bU:¬ ((8:Int)≤(lv:Int)):=by omega
 have KL:IntKind.i64.wrap ((lv:Int)+1)=(lv:Int)+1:=IntWalk.i64_in _ (by omega);have Yn:(lv:Int)≤8:=by omega
 have xv:((cnt:Int)==256)=false:=by simp;omega
 have yD:((cnt:Int)=256)=False:=eq_false (by omega);have KC:IntKind.i64.wrap ((cnt:Int)+1)=(cnt:Int)+1:=IntWalk.i64_in _ (by omega);have HC:=Hh hc;clear hc;go_enter Tryz.func78,Tryz.ntmps78
 go_wp2_with (with_reducible refine zx ?_)
 refine zu rfl _ _ _ rfl rfl g 2 (.int .i64 ((cnt:Int)+1)) rfl rfl _ _ xg.psr.blk zH (by simp) rfl fun w2 yU yq=>?_
 have wl:Rdg 107 w H w2 H g A c l p (cnt+1):=xg.step yq yU hP.le (by have:=HC.out;omega);have uv:=we.gr yq (by omega);have PH:=Hh (rN wl.psr);clear xg we yU yq c2 KC xv yD;go_wp2_with fail
 refine PH.out.mono ?_
 intro e w3 hs
 rw[HeadSaid,hh]at hs;obtain⟨rfl,wL,yQ⟩:=hs;have HS:=xo hh;have tP:p+k≤l.length:=by have:=HS.le;rw[List.length_drop]at this;have:=hP.le;omega
 have xV:Rdg 107 w H w3 H g A c l (p+k) (cnt+1):=wl.step yQ wL tP (by have:=HC.out;omega);have xO:=uv.gr yQ (by omega);have HF:=Hh HS;clear wl uv wL yQ PH HS hh;rw[List.drop_drop]at E0;have uP:=HF.out.pos;have PR_:=U0 (lv:=lv+1) ih hTab (by omega) xV.psr (by omega) n HF.out.n_lt;rw[show((lv+1:Nat):Int)=(lv:Int)+1 by omega]at PR_;have PRH:=Hh PR_;clear PR_ uP;go_wp2_with fail
 refine PRH.out.mono ?_
 intro e w4 hs
 cases hp:vl (zj d) n (l.drop (p+k)) (cnt+1) none with
 | err q =>
  rw[hp,iJ,ItemOut]at hs;obtain⟨rfl,H4,p4,cnt4,qc⟩:=hs;have E:Hid (zj (d+1) (l.drop p) cnt=.err q):=by rw[Hid,E0.out,hp]
  have vd:=xV.trans qc;have wT:=xO.rdg qc (by omega);have Sy:=qc.hid zF xO.lt;clear qc xV xO PRH hp E0;go_wp2_with (with_reducible refine zx ?_)
  refine stI wT fun wz hTy zT=>?_
  have zQ:=vd.gb Sy (Nat.le_refl _) yv zT;go_wp2_with fail
  refine zw rfl rfl hTy rfl rfl zv rfl ?_
  exact ItemOut.err E.out rfl zQ
 | ok L k' c' =>
 rw[hp,iJ,ItemOut]at hs;obtain⟨ja,jb,jc,jd,H4,rfl,qc,eh⟩:=hs;have E:Hid (zj (d+1) (l.drop p) cnt=.ok (.mk 5 0 [] L) (k+k') c'):=by rw[Hid,E0.out,hp]
 have vd:=xV.trans qc;have wT:=xO.rdg qc (by omega);have Sy:=qc.hid zF xO.lt;obtain⟨X5,KQ⟩:∃ X,Itm.mk 5 0 [] L=X:=⟨_,rfl⟩
 rw[KQ]at eh E⊢;clear qc xV xO PRH hp E0 KQ;go_wp2_with (with_reducible refine zx ?_)
 refine stI wT fun wz hTy zT=>?_
 have zQ:=vd.gb Sy (Nat.le_refl _) yv zT;go_wp2_with fail
 refine zw rfl rfl hTy rfl rfl zv rfl ?_
 exact ItemOut.ok E.out rfl (by rw[← Nat.add_assoc];exact zQ) eh
end
theorem RO:∀ d:Nat,eO d:=by
 intro d
 induction d using Nat.strongRecOn with
 | _ d ih =>
 intro w H g A c l p cnt lv hTab hlv hP
 by_cases hc:cnt=256
 ·exact cy hTab hlv hP hc
 have hc:cnt<256:=by have:=hP.cnt_le;omega
 cases hh:zf (l.drop p) with
 | error q=>exact cz hTab hlv hP hc hh
 | ok r =>
 obtain⟨f,n,k⟩:=r;have hf:=(xo hh).f_lt
 rcases(by omega:f/32=0∨f/32=1∨f/32=2∨f/32=3∨f/32=7∨(4≤f/32∧f/32≤6)) with hk | hk | hk | hk | hk | hk
 ·exact Vm hTab hlv hP hc hh hk
 ·exact Vn hTab hlv hP hc hh hk
 ·exact Vo hTab hlv hP hc hh hk
 ·exact Vp hTab hlv hP hc hh hk
 ·exact Vt hTab hlv hP hc hh hk
 cases d with
 | zero=>exact cw hTab (by omega) hP hc hh hk.1 hk.2
 | succ d =>
 have ihd:=ih d (by omega)
 rcases(by omega:f/32=4∨f/32=5∨f/32=6) with h4 | h5 | h6
 ·exact Vq ihd hTab hlv hP hc hh h4
 ·exact Vr ihd hTab hlv hP hc hh h5
 exact Vs ihd hTab hlv hP hc hh h6
theorem IsBytes.take {H:Snap}{A:Option Addr}{c:Nat}{l:List UInt8}(h:IsBytes H A c l) (m:Nat):IsBytes H A c (l.take m):=by
 refine⟨by have:=h.le;rw[List.length_take];omega,h.max,fun xH=>?_⟩
 obtain⟨b,off,e,hc⟩:=h.row (by intro h0;rw[List.map_eq_nil_iff]at h0;subst h0;simp at xH)
 refine⟨b,off,e,fun j v hj=>hc j v ?_⟩
 rw[List.map_take,List.getElem?_take]at hj
 split at hj
 ·exact hj
 cases hj
def tj (w:World) (H:Snap) (l:List UInt8) (e:Ending) (w':World):Prop :=
 match tz l with
 | .err q=>e=.returned (.tuple #[gn,.int .i64 0,.int .i64 (q:Int)])∧Below w.heap.size w w'
 | .ok x k _=>∃ ja jb jc jd H',e=.returned (.tuple #[xj x ja jb jc jd,.int .i64 (k:Int),.int .i64 0])∧Grows w H w' H'∧IsItem H' ja jb jc jd x
theorem mO {fn:Func}{p u v:Tmp}{ty:TypeId}(h:fn.results=#[.cell p ty,.tmp u,.tmp v]) (tmps:Array Value) (P:Program) (w:World) :
  (results fn tmps).run P w =
   ((asAddr (tmps.getD p undef)).run P w).andThen fun a w₁=>((loadVar ty a).run P w₁).andThen fun x w₂=>.ok (.tuple #[x,tmps.getD u undef,tmps.getD v undef]) w₂:=by
 simp only[results,h]
 simp[Sem.run_bind,Result.andThen]
theorem sN {fn:Func}{p u v:Tmp}{ty:TypeId}{a:Act}{w:World}{R:Ending→World→Prop}{g:Nat}{t:TypeId}{cs:Array Value}{d:TypeDesc}(h:fn.results=#[.cell p ty,.tmp u,.tmp v]) (hp:a.tmps.getD p undef=.pointer (some ⟨g,0,none⟩)) (hg:Blk w g t cs)
  (hd:(match d with | .struct _ | .array _ _=>true | _=>false)=true) (hu:Tryz.prog.underlying ty=some d) (hi:(Tryz.prog.info? ty).map (·.size)=some cs.size)
  (hdf:a.defers=[]) (hR:R (.returned (.tuple #[.agg cs,a.tmps.getD u undef,a.tmps.getD v undef])) w):bodyPost Tryz.prog fn R .ret a w:=by
 refine bodyPost_ret (v:=.tuple #[.agg cs,a.tmps.getD u undef,a.tmps.getD v undef]) ?_ hdf hR
 rw[mO h,hp];have ft:=run_loadVar_row (P:=Tryz.prog) w g t ty cs (0,0) d hg hu (by cases d <;> first | exact hd | rfl | cases hd) hi
 simp[asAddr,ft,Result.andThen]
theorem Lu (a b c:Value) (ha:a.oneCell'=true) (hb:b.oneCell'=true) (hc:c.oneCell'=true):(#[a,b,c]:Array Value).all (·.oneCell')=true:=by simp[ha,hb,hc]
theorem W8:(Tryz.prog.info? 107).map (·.size)=some 3:=by kernel_rfl
theorem Grows.trans_but {w w' w'':World}{H H' H'':Snap}{g:Nat}(h:Grows w H w' H') (k:GrowsBut w' H' w'' H'' g) (hg:w.heap.size≤g):Grows w H w'' H'':=by
 refine⟨yg h.below k.grown (by rintro q ⟨⟩;exact hg),h.le.trans k.le,k.holds,fun x o hx=>?_⟩
 rcases k.fresh x o hx with hx | hx
 ·exact h.fresh x o hx
 exact .inr (Nat.le_trans h.below.size hx)
theorem cQ {H:Snap}(hTab:Tabs H) (w:World) (hH:Holds w H) {A:Option Addr}{n c:Nat}{l:List UInt8}(hn:n=l.length) (hl:IsBytes H A c l) :
  Calls Tryz.prog 51 #[.slice A n c] w (tj w H l):=by
 have OA:=hl.le;have nX:=hl.max;obtain⟨m,hm⟩:∃ m,min n 4096=m:=⟨_,rfl⟩
 have Zi:min (n:Int) 4096=(m:Int):=by omega
 have m1:(m:Int)≤(c:Int):=by omega
 have m0:(0:Int)≤(m:Int):=by omega
 have cM:(l.take 4096).length=m:=by rw[List.length_take];omega
 have kw:=Hh (And.intro hn (And.intro hm cM));clear hn hm cM OA;go_enter Tryz.func51,Tryz.ntmps51
 go_wp2_with (with_reducible refine zx ?_)
 unfold yP
 have e1:(w.alloc zg).heap.size=w.heap.size+1:=by go_simp
 have hT:=(Blk.new w 57 #[.int .i64 0,.int .u64 0,.slice none 0 0,.slice none 0 0]).alloc (.cells #[.slice none 0 0,.int .i64 0,.int .i64 0] 107);have hB:=Blk.new (w.alloc zg) 107 #[.slice none 0 0,.int .i64 0,.int .i64 0];have hG:=((Grows.refl hH).alloc zg).alloc (.cells #[.slice none 0 0,.int .i64 0,.int .i64 0] 107);rw[e1]at hB;have we:Blk ((w.alloc zg).alloc (.cells #[.slice none 0 0,.int .i64 0,.int .i64 0] 107)) w.heap.size 57 #[.int .i64 0,.int .u64 0,.slice none 0 0,.slice none 0 0]:=hT;clear hT
 generalize (w.alloc zg).alloc (.cells #[.slice none 0 0,.int .i64 0,.int .i64 0] 107)=w1 at hB hG we⊢
 have rv:w.heap.size+1<w1.heap.size:=hB.lt;have zF:H w.heap.size=none:=hH.none_of_ge (by omega);have ru:H (w.heap.size+1)=none:=hH.none_of_ge (by omega)
 refine zp rfl _ _ _ rfl rfl _ _ rfl rfl _ _ hB W8 rfl (Lu _ _ _ rfl rfl rfl) fun w2 yU wa=>?_
 have yq:=hG.grownOwn ru (by omega) wa;have uv:=we.gr wa (by omega);clear hG we hB
 have Q5:Psr 107 w2 (w.heap.size+1) H A c (l.take 4096) 0 0 :=
  ⟨by obtain⟨_,_,cM⟩:=kw.out;rw[cM];exact yU,hl.take 4096,yq.holds,ru,by omega,by rw[List.length_take];omega,by omega⟩
 have C0:(Calls Tryz.prog 78 #[.pointer (some ⟨w.heap.size+1,0,none⟩),.int .i64 0] w2 (ItemOut 107 w2 H (w.heap.size+1) A c (l.take 4096) 0 (tz l))) :=
  (RO 8 w2 H (w.heap.size+1) A c (l.take 4096) 0 0 0 hTab (by omega) Q5)
 have C:=Hh C0;clear Q5 C0;go_wp2_with fail
 refine C.out.mono ?_
 rintro e w3 hout
 clear C
 cases hr:tz l with
 | err q =>
  rw[hr,ItemOut]at hout;obtain⟨rfl,H',p',cnt',hd⟩:=hout;have lA:=Hh hr;clear hr;have xO:=uv.rdg hd (by omega);have yQ:=yq.trans_but hd.grows (by omega);go_wp2_with (with_reducible refine zx ?_)
  unfold yP
  have cD:w.heap.size+1<w3.heap.size:=hd.psr.gt;have hN:=Blk.new w3 57 #[.int .i64 0,.int .u64 0,.slice none 0 0,.slice none 0 0];have wT:Blk (w3.alloc zg) w.heap.size 57 #[.int .i64 0,.int .u64 0,.slice none 0 0,.slice none 0 0]:=xO.alloc _;have wh:=yQ.alloc zg;have oe:H' w3.heap.size=none:=yQ.holds.none_of_ge (by omega);have tB:H' w.heap.size=none:=hd.hid zF uv.lt;have qj:Blk (w3.alloc zg) w3.heap.size 57 #[.int .i64 0,.int .u64 0,.slice none 0 0,.slice none 0 0]:=hN;clear hN xO
  generalize w3.alloc zg=w4 at qj wT wh⊢
  refine stI qj fun w5 yt tR=>?_
  have yj:=wT.gr tR (by omega);have zP:=wh.grownOwn oe (by omega) tR;clear wT wh qj;have nc:((q:Int) != 0)=true:=by rw[bne_iff_ne];have:=yY _ _ _ _ lA.out;omega
  have kp:((q:Int)=0)=False:=eq_false (by have:=yY _ _ _ _ lA.out;omega);go_wp2_with (with_reducible refine zx ?_)
  refine stI yj fun w7 yS hg7=>?_
  have wu:=zP.grownOwn tB (by omega) hg7;go_wp2_with fail
  refine sN rfl rfl yS rfl rfl zv rfl ?_
  unfold tj
  rw[lA.out]
  exact⟨rfl,wu.below⟩
 | ok x k cc =>
 rw[hr,ItemOut,Nat.zero_add]at hout;obtain⟨ja,jb,jc,jd,H',rfl,hd,hi⟩:=hout;have lA:=Hh hr;clear hr;have xO:=uv.rdg hd (by omega);have yQ:=yq.trans_but hd.grows (by omega)
 have wL:Blk w3 (w.heap.size+1) 107 #[.slice A m c,.int .i64 (k:Int),.int .i64 (cc:Int)]:=by
  have:=hd.psr.blk;obtain⟨_,_,cM⟩:=kw.out;rw[cM]at this;exact this
 go_wp2_with (with_reducible refine zx ?_)
 unfold yP
 have cD:w.heap.size+1<w3.heap.size:=hd.psr.gt;have hN:=Blk.new w3 57 #[.int .i64 0,.int .u64 0,.slice none 0 0,.slice none 0 0];have wT:Blk (w3.alloc zg) w.heap.size 57 #[.int .i64 0,.int .u64 0,.slice none 0 0,.slice none 0 0]:=xO.alloc _;have oH:Blk (w3.alloc zg) (w.heap.size+1) 107 #[.slice A m c,.int .i64 (k:Int),.int .i64 (cc:Int)]:=wL.alloc _;have wh:=yQ.alloc zg;have oe:H' w3.heap.size=none:=yQ.holds.none_of_ge (by omega);have tB:H' w.heap.size=none:=hd.hid zF uv.lt;have qj:Blk (w3.alloc zg) w3.heap.size 57 #[.int .i64 0,.int .u64 0,.slice none 0 0,.slice none 0 0]:=hN;clear hN xO wL
 generalize w3.alloc zg=w4 at qj wT wh oH⊢
 refine stI qj fun w5 yt tR=>?_
 have yj:=wT.gr tR (by omega);have yK:=oH.gr tR (by omega);have zP:=wh.grownOwn oe (by omega) tR;clear wT wh qj oH;go_upto_region 5 with fail
 have yj:=yj.drew;have yt:=yt.drew;have yK:=yK.drew;have zP:=zP.drew
 refine zr 5 (fun w'=>w'.cell? ⟨w3.heap.size,0,none⟩=some (.int .i64 x.kind)∧w'.cell? ⟨w3.heap.size,1,none⟩=some (.int .u64 x.n)∧w'.cell? ⟨w3.heap.size,2,none⟩=some (.slice ja x.bytes.length jb)∧w'.cell? ⟨w3.heap.size,3,none⟩=some (.slice jc x.items.length jd)∧w'.cell? ⟨w.heap.size+1,1,none⟩=some (.int .i64 (k:Int))) (by kernel_rfl) (⟨yt.cell 0 rfl,yt.cell 1 rfl,yt.cell 2 rfl,yt.cell 3 rfl,yK.cell 1 rfl⟩) (fun zy=>?_)
 refine Tk 0 rfl zy ?_
 refine Tk 1 rfl zy ?_
 refine Tk 2 rfl zy ?_
 refine To 3 rfl fun K hK=>?_
 refine yJ _ _ _ rfl _ _ rfl rfl _ _ yj zv rfl (sX _ _ _ _ rfl rfl rfl rfl) fun w7 yS hg7=>?_
 have yt:=yt.gr hg7 (by omega);have yK:=yK.gr hg7 (by omega);have wu:=zP.grownOwn tB (by omega) hg7;go_simp
 refine Ko hK ?_ fun zy=>?_
 ·exact⟨yt.cell 0 rfl,yt.cell 1 rfl,yt.cell 2 rfl,yt.cell 3 rfl,yK.cell 1 rfl⟩
 clear hK K
 refine Tk 4 rfl zy ?_
 refine To 5 rfl fun K hK=>?_
 go_simp
 refine Kz hK ?_
 clear hK K
 refine Wd ?_
 go_wp2_with fail
 refine sN rfl rfl yS rfl rfl zv rfl ?_
 unfold tj
 rw[lA.out]
 exact⟨ja,jb,jc,jd,H',rfl,wu,hi⟩
def vr (w:World) (H:Snap) (l:List UInt8) (e:Ending) (w':World):Prop :=
 match xL l with
 | .error q=>e=.returned (.tuple #[gn,.int .i64 (q:Int)])∧Below w.heap.size w w'
 | .ok x=>∃ ja jb jc jd H',e=.returned (.tuple #[xj x ja jb jc jd,.int .i64 0])∧Grows w H w' H'∧IsItem H' ja jb jc jd x
theorem cO {H:Snap}(hTab:Tabs H) (w:World) (hH:Holds w H) {A:Option Addr}{n c:Nat}{l:List UInt8}(hn:n=l.length) (hl:IsBytes H A c l) :
  Calls Tryz.prog 32 #[.slice A n c] w (vr w H l):=by
 have hT:=Blk.new w 57 #[.int .i64 0,.int .u64 0,.slice none 0 0,.slice none 0 0];have hG:=(Grows.refl hH).alloc zg;have we:Blk (w.alloc zg) w.heap.size 57 #[.int .i64 0,.int .u64 0,.slice none 0 0,.slice none 0 0]:=hT;have zF:H w.heap.size=none:=hH.none_of_ge (by omega);clear hT;have kw:=Hh hn;have C:=fun w1 h1=>Hh (cQ hTab w1 h1 hn hl)
 clear hn
 by_cases hbig:4096<n
 ·have b1:decide ((n:Int) > 4096)=true:=by rw[decide_eq_true_eq];omega
  have b2:decide ((4096:Int)<n)=true:=by rw[decide_eq_true_eq];omega
  have hd:xL l=.error 8:=by have:=kw.out;rw[xL,if_pos (by omega)]
  have ft:=Hh hd;clear hd C;go_enter Tryz.func32,Tryz.ntmps32
  go_wp2_with (with_reducible refine zx ?_)
  unfold yP
  generalize w.alloc zg=w1 at we hG⊢
  refine stI we fun w7 yS hg7=>?_
  have wu:=hG.grownOwn zF (by omega) hg7;go_wp2_with fail
  refine zw rfl rfl yS rfl rfl zv rfl ?_
  unfold vr
  rw[ft.out]
  exact⟨rfl,wu.below⟩
 have b1:decide ((n:Int) > 4096)=false:=by rw[decide_eq_false_iff_not];omega
 have b2:decide ((4096:Int)<n)=false:=by rw[decide_eq_false_iff_not];omega
 have ju:=Hh hbig;clear hbig;go_enter Tryz.func32,Tryz.ntmps32
 go_wp2_with fail
 have rv:w.heap.size<(w.alloc zg).heap.size:=we.lt
 generalize w.alloc zg=w1 at we hG rv⊢
 refine(C w1 hG.holds).out.mono ?_
 rintro e w3 hout
 unfold tj at hout
 cases hr:tz l with
 | err q =>
  rw[hr]at hout;obtain⟨rfl,hb⟩:=hout;have lA:=Hh hr;have ft:=Hh (show xL l=.error q by have:=kw.out;have:=ju.out;rw[xL,if_neg (by omega),hr]);clear hr;have xO:=we.below hb;obtain⟨H',Sj⟩:∃ H',H'=H:=⟨_,rfl⟩
  have yQ:Grows w H w3 H':=by rw[Sj];exact hG.trans (Grows.of_below hG.holds hb)
  have tB:H' w.heap.size=none:=by rw[Sj];exact zF
  clear Sj;have nc:((q:Int) != 0)=true:=by rw[bne_iff_ne];have:=yY _ _ _ _ lA.out;omega
  have kp:((q:Int)=0)=False:=eq_false (by have:=yY _ _ _ _ lA.out;omega);go_wp2_with (with_reducible refine zx ?_)
  unfold yP
  have cD:w.heap.size<w3.heap.size:=xO.lt;have hN:=Blk.new w3 57 #[.int .i64 0,.int .u64 0,.slice none 0 0,.slice none 0 0];have wT:Blk (w3.alloc zg) w.heap.size 57 #[.int .i64 0,.int .u64 0,.slice none 0 0,.slice none 0 0]:=xO.alloc _;have wh:=yQ.alloc zg;have oe:H' w3.heap.size=none:=yQ.holds.none_of_ge (by omega);have qj:Blk (w3.alloc zg) w3.heap.size 57 #[.int .i64 0,.int .u64 0,.slice none 0 0,.slice none 0 0]:=hN;clear hN xO
  generalize w3.alloc zg=w4 at qj wT wh⊢
  refine stI qj fun w5 yt tR=>?_
  have yj:=wT.gr tR (by omega);have zP:=wh.grownOwn oe (by omega) tR;clear wT wh qj;go_wp2_with (with_reducible refine zx ?_)
  refine stI yj fun w7 yS hg7=>?_
  have wu:=zP.grownOwn tB (by omega) hg7;go_wp2_with fail
  refine zw rfl rfl yS rfl rfl zv rfl ?_
  unfold vr
  rw[ft.out]
  exact⟨rfl,wu.below⟩
 | ok x k cc =>
 rw[hr]at hout;obtain⟨ja,jb,jc,jd,H',rfl,hg,hi⟩:=hout;have lA:=Hh hr;clear hr;have xO:=we.below hg.below;have yQ:Grows w H w3 H':=hG.trans hg;have tB:H' w.heap.size=none:=hg.none zF we.lt
 by_cases hk:k<n
 ·have ft:=Hh (show xL l=.error 9 by have:=kw.out;have:=ju.out;rw[xL,if_neg (by omega),lA.out];simp only;rw[if_pos (by omega)]);have k1:decide ((k:Int)<n)=true:=by rw[decide_eq_true_eq];omega
  have k2:(k<n)=True:=eq_true hk;clear hk;go_wp2_with (with_reducible refine zx ?_)
  unfold yP
  have cD:w.heap.size<w3.heap.size:=xO.lt;have hN:=Blk.new w3 57 #[.int .i64 0,.int .u64 0,.slice none 0 0,.slice none 0 0];have wT:Blk (w3.alloc zg) w.heap.size 57 #[.int .i64 0,.int .u64 0,.slice none 0 0,.slice none 0 0]:=xO.alloc _;have wh:=yQ.alloc zg;have oe:H' w3.heap.size=none:=yQ.holds.none_of_ge (by omega);have qj:Blk (w3.alloc zg) w3.heap.size 57 #[.int .i64 0,.int .u64 0,.slice none 0 0,.slice none 0 0]:=hN;clear hN xO
  generalize w3.alloc zg=w4 at qj wT wh⊢
  refine stI qj fun w5 yt tR=>?_
  have yj:=wT.gr tR (by omega);have zP:=wh.grownOwn oe (by omega) tR;clear wT wh qj;go_wp2_with (with_reducible refine zx ?_)
  refine stI yj fun w7 yS hg7=>?_
  have wu:=zP.grownOwn tB (by omega) hg7;go_wp2_with fail
  refine zw rfl rfl yS rfl rfl zv rfl ?_
  unfold vr
  rw[ft.out]
  exact⟨rfl,wu.below⟩
 have ft:=Hh (show xL l=.ok x by have:=kw.out;have:=ju.out;rw[xL,if_neg (by omega),lA.out];simp only;rw[if_neg (by omega)]);have k1:decide ((k:Int)<n)=false:=by rw[decide_eq_false_iff_not];omega
 have k2:(k<n)=False:=eq_false hk;clear hk;go_wp2_with (with_reducible refine zx ?_)
 unfold yP
 have cD:w.heap.size<w3.heap.size:=xO.lt;have hN:=Blk.new w3 57 #[.int .i64 0,.int .u64 0,.slice none 0 0,.slice none 0 0];have wT:Blk (w3.alloc zg) w.heap.size 57 #[.int .i64 0,.int .u64 0,.slice none 0 0,.slice none 0 0]:=xO.alloc _;have wh:=yQ.alloc zg;have oe:H' w3.heap.size=none:=yQ.holds.none_of_ge (by omega);have qj:Blk (w3.alloc zg) w3.heap.size 57 #[.int .i64 0,.int .u64 0,.slice none 0 0,.slice none 0 0]:=hN;clear hN xO
 generalize w3.alloc zg=w4 at qj wT wh⊢
 refine stI qj fun w5 yt tR=>?_
 have yj:=wT.gr tR (by omega);have zP:=wh.grownOwn oe (by omega) tR;clear wT wh qj;have c0:=yt.cell 0 rfl;have c1:=yt.cell 1 rfl;have c2:=yt.cell 2 rfl;have c3:=yt.cell 3 rfl;go_wp2_with (with_reducible refine zx ?_)
 refine stI yj fun w7 yS hg7=>?_
 have wu:=zP.grownOwn tB (by omega) hg7;go_wp2_with fail
 refine zw rfl rfl yS rfl rfl zv rfl ?_
 unfold vr
 rw[ft.out]
 exact⟨ja,jb,jc,jd,H',rfl,wu,hi⟩
def nE (d:Nat):Prop:=∀ (w:World) (H:Snap) (g:Nat) (A:Option Addr) (c:Nat) (l:List UInt8) (p cnt lv:Nat),Tabs H→lv+d=8→Psr 118 w g H A c l p cnt→
 Calls Tryz.prog 81 #[.pointer (some ⟨g,0,none⟩),.int .i64 (lv:Int)] w (ItemOut 118 w H g A c l p (zj d (l.drop p) cnt))
theorem i7 (hI:∀ d,nE d) {H:Snap}(hTab:Tabs H) (w:World) (hH:Holds w H) {A:Option Addr}{n c:Nat}{l:List UInt8}(hn:n=l.length) (hl:IsBytes H A c l) :
  Calls Tryz.prog 57 #[.slice A n c] w (tj w H l):=by
 have OA:=hl.le;have nX:=hl.max;obtain⟨m,hm⟩:∃ m,min n 4096=m:=⟨_,rfl⟩
 have Zi:min (n:Int) 4096=(m:Int):=by omega
 have m1:(m:Int)≤(c:Int):=by omega
 have m0:(0:Int)≤(m:Int):=by omega
 have cM:(l.take 4096).length=m:=by rw[List.length_take];omega
 have kw:=Hh (And.intro hn (And.intro hm cM));clear hn hm cM OA;go_enter Tryz.func57,Tryz.ntmps57
 go_wp2_with fail
 have e1:(w.alloc zg).heap.size=w.heap.size+1:=by go_simp
 have hT:=(Blk.new w 57 #[.int .i64 0,.int .u64 0,.slice none 0 0,.slice none 0 0]).alloc (.cells #[.slice A m c,.int .i64 0,.int .i64 0] 118);have hB:=Blk.new (w.alloc zg) 118 #[.slice A m c,.int .i64 0,.int .i64 0];have yq:=((Grows.refl hH).alloc zg).alloc (.cells #[.slice A m c,.int .i64 0,.int .i64 0] 118);rw[e1]at hB;have yU:Blk ((w.alloc zg).alloc (.cells #[.slice A m c,.int .i64 0,.int .i64 0] 118)) (w.heap.size+1) 118 #[.slice A m c,.int .i64 0,.int .i64 0]:=hB;have uv:Blk ((w.alloc zg).alloc (.cells #[.slice A m c,.int .i64 0,.int .i64 0] 118)) w.heap.size 57 #[.int .i64 0,.int .u64 0,.slice none 0 0,.slice none 0 0]:=hT;clear hT hB
 generalize (w.alloc zg).alloc (.cells #[.slice A m c,.int .i64 0,.int .i64 0] 118)=w2 at yU yq uv⊢
 have rv:w.heap.size+1<w2.heap.size:=yU.lt;have zF:H w.heap.size=none:=hH.none_of_ge (by omega);have ru:H (w.heap.size+1)=none:=hH.none_of_ge (by omega)
 have Q5:Psr 118 w2 (w.heap.size+1) H A c (l.take 4096) 0 0 :=
  ⟨by obtain⟨_,_,cM⟩:=kw.out;rw[cM];exact yU,hl.take 4096,yq.holds,ru,by omega,by rw[List.length_take];omega,by omega⟩
 have C0:(Calls Tryz.prog 81 #[.pointer (some ⟨w.heap.size+1,0,none⟩),.int .i64 0] w2 (ItemOut 118 w2 H (w.heap.size+1) A c (l.take 4096) 0 (tz l))) :=
  (hI 8 w2 H (w.heap.size+1) A c (l.take 4096) 0 0 0 hTab (by omega) Q5)
 have C:=Hh C0;clear Q5 C0
 refine C.out.mono ?_
 rintro e w3 hout
 clear C
 cases hr:tz l with
 | err q =>
  rw[hr,ItemOut]at hout;obtain⟨rfl,H',p',cnt',hd⟩:=hout;have lA:=Hh hr;clear hr;have xO:=uv.rdg hd (by omega);have yQ:=yq.trans_but hd.grows (by omega);go_wp2_with (with_reducible refine zx ?_)
  unfold yP
  have cD:w.heap.size+1<w3.heap.size:=hd.psr.gt;have hN:=Blk.new w3 57 #[.int .i64 0,.int .u64 0,.slice none 0 0,.slice none 0 0];have wT:Blk (w3.alloc zg) w.heap.size 57 #[.int .i64 0,.int .u64 0,.slice none 0 0,.slice none 0 0]:=xO.alloc _;have wh:=yQ.alloc zg;have oe:H' w3.heap.size=none:=yQ.holds.none_of_ge (by omega);have tB:H' w.heap.size=none:=hd.hid zF uv.lt;have qj:Blk (w3.alloc zg) w3.heap.size 57 #[.int .i64 0,.int .u64 0,.slice none 0 0,.slice none 0 0]:=hN;clear hN xO
  generalize w3.alloc zg=w4 at qj wT wh⊢
  refine stI qj fun w5 yt tR=>?_
  have yj:=wT.gr tR (by omega);have zP:=wh.grownOwn oe (by omega) tR;clear wT wh qj;have nc:((q:Int) != 0)=true:=by rw[bne_iff_ne];have:=yY _ _ _ _ lA.out;omega
  have kp:((q:Int)=0)=False:=eq_false (by have:=yY _ _ _ _ lA.out;omega);go_wp2_with (with_reducible refine zx ?_)
  refine stI yj fun w7 yS hg7=>?_
  have wu:=zP.grownOwn tB (by omega) hg7;go_wp2_with fail
  refine sN rfl rfl yS rfl rfl zv rfl ?_
  unfold tj
  rw[lA.out]
  exact⟨rfl,wu.below⟩
 | ok x k cc =>
 rw[hr,ItemOut,Nat.zero_add]at hout;obtain⟨ja,jb,jc,jd,H',rfl,hd,hi⟩:=hout;have lA:=Hh hr;clear hr;have xO:=uv.rdg hd (by omega);have yQ:=yq.trans_but hd.grows (by omega)
 have wL:Blk w3 (w.heap.size+1) 118 #[.slice A m c,.int .i64 (k:Int),.int .i64 (cc:Int)]:=by
  have:=hd.psr.blk;obtain⟨_,_,cM⟩:=kw.out;rw[cM]at this;exact this
 go_wp2_with (with_reducible refine zx ?_)
 unfold yP
 have cD:w.heap.size+1<w3.heap.size:=hd.psr.gt;have hN:=Blk.new w3 57 #[.int .i64 0,.int .u64 0,.slice none 0 0,.slice none 0 0];have wT:Blk (w3.alloc zg) w.heap.size 57 #[.int .i64 0,.int .u64 0,.slice none 0 0,.slice none 0 0]:=xO.alloc _;have oH:Blk (w3.alloc zg) (w.heap.size+1) 118 #[.slice A m c,.int .i64 (k:Int),.int .i64 (cc:Int)]:=wL.alloc _;have wh:=yQ.alloc zg;have oe:H' w3.heap.size=none:=yQ.holds.none_of_ge (by omega);have tB:H' w.heap.size=none:=hd.hid zF uv.lt;have qj:Blk (w3.alloc zg) w3.heap.size 57 #[.int .i64 0,.int .u64 0,.slice none 0 0,.slice none 0 0]:=hN;clear hN xO wL
 generalize w3.alloc zg=w4 at qj wT wh oH⊢
 refine stI qj fun w5 yt tR=>?_
 have yj:=wT.gr tR (by omega);have yK:=oH.gr tR (by omega);have zP:=wh.grownOwn oe (by omega) tR;clear wT wh qj oH;go_upto_region 5 with fail
 have yj:=yj.drew;have yt:=yt.drew;have yK:=yK.drew;have zP:=zP.drew
 refine zr 7 (fun w'=>w'.cell? ⟨w3.heap.size,0,none⟩=some (.int .i64 x.kind)∧w'.cell? ⟨w3.heap.size,1,none⟩=some (.int .u64 x.n)∧w'.cell? ⟨w3.heap.size,2,none⟩=some (.slice ja x.bytes.length jb)∧w'.cell? ⟨w3.heap.size,3,none⟩=some (.slice jc x.items.length jd)∧w'.cell? ⟨w.heap.size+1,1,none⟩=some (.int .i64 (k:Int))) (by kernel_rfl) (⟨yt.cell 0 rfl,yt.cell 1 rfl,yt.cell 2 rfl,yt.cell 3 rfl,yK.cell 1 rfl⟩) (fun zy=>?_)
 refine Tk 0 rfl zy ?_
 refine Tk 1 rfl zy ?_
 refine Tk 2 rfl zy ?_
 refine Tk 3 rfl zy ?_
 refine Tk 4 rfl zy ?_
 refine To 5 rfl fun K hK=>?_
 refine yJ _ _ _ rfl _ _ rfl rfl _ _ yj zv rfl (sX _ _ _ _ rfl rfl rfl rfl) fun w7 yS hg7=>?_
 have yt:=yt.gr hg7 (by omega);have yK:=yK.gr hg7 (by omega);have wu:=zP.grownOwn tB (by omega) hg7;go_simp
 refine Ko hK ?_ fun zy=>?_
 ·exact⟨yt.cell 0 rfl,yt.cell 1 rfl,yt.cell 2 rfl,yt.cell 3 rfl,yK.cell 1 rfl⟩
 clear hK K
 refine Tk 6 rfl zy ?_
 refine To 7 rfl fun K hK=>?_
 go_simp
 refine Kz hK ?_
 clear hK K
 refine Wd ?_
 go_wp2_with fail
 refine sN rfl rfl yS rfl rfl zv rfl ?_
 unfold tj
 rw[lA.out]
 exact⟨ja,jb,jc,jd,H',rfl,wu,hi⟩
theorem i6 (hI:∀ d,nE d) {H:Snap}(hTab:Tabs H) (w:World) (hH:Holds w H) {A:Option Addr}{n c:Nat}{l:List UInt8}(hn:n=l.length) (hl:IsBytes H A c l) :
  Calls Tryz.prog 34 #[.slice A n c] w (vr w H l):=by
 have hT:=Blk.new w 57 #[.int .i64 0,.int .u64 0,.slice none 0 0,.slice none 0 0];have hG:=(Grows.refl hH).alloc zg;have we:Blk (w.alloc zg) w.heap.size 57 #[.int .i64 0,.int .u64 0,.slice none 0 0,.slice none 0 0]:=hT;have zF:H w.heap.size=none:=hH.none_of_ge (by omega);clear hT;have kw:=Hh hn;have C:=fun w1 h1=>Hh (i7 hI hTab w1 h1 hn hl)
 clear hn
 by_cases hbig:4096<n
 ·have b1:decide ((n:Int) > 4096)=true:=by rw[decide_eq_true_eq];omega
  have b2:decide ((4096:Int)<n)=true:=by rw[decide_eq_true_eq];omega
  have hd:xL l=.error 8:=by have:=kw.out;rw[xL,if_pos (by omega)]
  have ft:=Hh hd;clear hd C;go_enter Tryz.func34,Tryz.ntmps34
  go_wp2_with (with_reducible refine zx ?_)
  unfold yP
  generalize w.alloc zg=w1 at we hG⊢
  refine stI we fun w7 yS hg7=>?_
  have wu:=hG.grownOwn zF (by omega) hg7;go_wp2_with fail
  refine zw rfl rfl yS rfl rfl zv rfl ?_
  unfold vr
  rw[ft.out]
  exact⟨rfl,wu.below⟩
 have b1:decide ((n:Int) > 4096)=false:=by rw[decide_eq_false_iff_not];omega
 have b2:decide ((4096:Int)<n)=false:=by rw[decide_eq_false_iff_not];omega
 have ju:=Hh hbig;clear hbig;go_enter Tryz.func34,Tryz.ntmps34
 go_wp2_with fail
 have rv:w.heap.size<(w.alloc zg).heap.size:=we.lt
 generalize w.alloc zg=w1 at we hG rv⊢
 refine(C w1 hG.holds).out.mono ?_
 rintro e w3 hout
 unfold tj at hout
 cases hr:tz l with
 | err q =>
  rw[hr]at hout;obtain⟨rfl,hb⟩:=hout;have lA:=Hh hr;have ft:=Hh (show xL l=.error q by have:=kw.out;have:=ju.out;rw[xL,if_neg (by omega),hr]);clear hr;have xO:=we.below hb;obtain⟨H',Sj⟩:∃ H',H'=H:=⟨_,rfl⟩
  have yQ:Grows w H w3 H':=by rw[Sj];exact hG.trans (Grows.of_below hG.holds hb)
  have tB:H' w.heap.size=none:=by rw[Sj];exact zF
  clear Sj;have nc:((q:Int) != 0)=true:=by rw[bne_iff_ne];have:=yY _ _ _ _ lA.out;omega
  have kp:((q:Int)=0)=False:=eq_false (by have:=yY _ _ _ _ lA.out;omega);go_wp2_with (with_reducible refine zx ?_)
  unfold yP
  have cD:w.heap.size<w3.heap.size:=xO.lt;have hN:=Blk.new w3 57 #[.int .i64 0,.int .u64 0,.slice none 0 0,.slice none 0 0];have wT:Blk (w3.alloc zg) w.heap.size 57 #[.int .i64 0,.int .u64 0,.slice none 0 0,.slice none 0 0]:=xO.alloc _;have wh:=yQ.alloc zg;have oe:H' w3.heap.size=none:=yQ.holds.none_of_ge (by omega);have qj:Blk (w3.alloc zg) w3.heap.size 57 #[.int .i64 0,.int .u64 0,.slice none 0 0,.slice none 0 0]:=hN;clear hN xO
  generalize w3.alloc zg=w4 at qj wT wh⊢
  refine stI qj fun w5 yt tR=>?_
  have yj:=wT.gr tR (by omega);have zP:=wh.grownOwn oe (by omega) tR;clear wT wh qj;go_wp2_with (with_reducible refine zx ?_)
  refine stI yj fun w7 yS hg7=>?_
  have wu:=zP.grownOwn tB (by omega) hg7;go_wp2_with fail
  refine zw rfl rfl yS rfl rfl zv rfl ?_
  unfold vr
  rw[ft.out]
  exact⟨rfl,wu.below⟩
 | ok x k cc =>
 rw[hr]at hout;obtain⟨ja,jb,jc,jd,H',rfl,hg,hi⟩:=hout;have lA:=Hh hr;clear hr;have xO:=we.below hg.below;have yQ:Grows w H w3 H':=hG.trans hg;have tB:H' w.heap.size=none:=hg.none zF we.lt
 by_cases hk:k<n
 ·have ft:=Hh (show xL l=.error 9 by have:=kw.out;have:=ju.out;rw[xL,if_neg (by omega),lA.out];simp only;rw[if_pos (by omega)]);have k1:decide ((k:Int)<n)=true:=by rw[decide_eq_true_eq];omega
  have k2:(k<n)=True:=eq_true hk;clear hk;go_wp2_with (with_reducible refine zx ?_)
  unfold yP
  have cD:w.heap.size<w3.heap.size:=xO.lt;have hN:=Blk.new w3 57 #[.int .i64 0,.int .u64 0,.slice none 0 0,.slice none 0 0];have wT:Blk (w3.alloc zg) w.heap.size 57 #[.int .i64 0,.int .u64 0,.slice none 0 0,.slice none 0 0]:=xO.alloc _;have wh:=yQ.alloc zg;have oe:H' w3.heap.size=none:=yQ.holds.none_of_ge (by omega);have qj:Blk (w3.alloc zg) w3.heap.size 57 #[.int .i64 0,.int .u64 0,.slice none 0 0,.slice none 0 0]:=hN;clear hN xO
  generalize w3.alloc zg=w4 at qj wT wh⊢
  refine stI qj fun w5 yt tR=>?_
  have yj:=wT.gr tR (by omega);have zP:=wh.grownOwn oe (by omega) tR;clear wT wh qj;go_wp2_with (with_reducible refine zx ?_)
  refine stI yj fun w7 yS hg7=>?_
  have wu:=zP.grownOwn tB (by omega) hg7;go_wp2_with fail
  refine zw rfl rfl yS rfl rfl zv rfl ?_
  unfold vr
  rw[ft.out]
  exact⟨rfl,wu.below⟩
 have ft:=Hh (show xL l=.ok x by have:=kw.out;have:=ju.out;rw[xL,if_neg (by omega),lA.out];simp only;rw[if_neg (by omega)]);have k1:decide ((k:Int)<n)=false:=by rw[decide_eq_false_iff_not];omega
 have k2:(k<n)=False:=eq_false hk;clear hk;go_wp2_with (with_reducible refine zx ?_)
 unfold yP
 have cD:w.heap.size<w3.heap.size:=xO.lt;have hN:=Blk.new w3 57 #[.int .i64 0,.int .u64 0,.slice none 0 0,.slice none 0 0];have wT:Blk (w3.alloc zg) w.heap.size 57 #[.int .i64 0,.int .u64 0,.slice none 0 0,.slice none 0 0]:=xO.alloc _;have wh:=yQ.alloc zg;have oe:H' w3.heap.size=none:=yQ.holds.none_of_ge (by omega);have qj:Blk (w3.alloc zg) w3.heap.size 57 #[.int .i64 0,.int .u64 0,.slice none 0 0,.slice none 0 0]:=hN;clear hN xO
 generalize w3.alloc zg=w4 at qj wT wh⊢
 refine stI qj fun w5 yt tR=>?_
 have yj:=wT.gr tR (by omega);have zP:=wh.grownOwn oe (by omega) tR;clear wT wh qj;have c0:=yt.cell 0 rfl;have c1:=yt.cell 1 rfl;have c2:=yt.cell 2 rfl;have c3:=yt.cell 3 rfl;go_wp2_with (with_reducible refine zx ?_)
 refine stI yj fun w7 yS hg7=>?_
 have wu:=zP.grownOwn tB (by omega) hg7;go_wp2_with fail
 refine zw rfl rfl yS rfl rfl zv rfl ?_
 unfold vr
 rw[ft.out]
 exact⟨ja,jb,jc,jd,H',rfl,wu,hi⟩
end Go.Proofs.YtgcjjhibdbafmabGreatDoor
