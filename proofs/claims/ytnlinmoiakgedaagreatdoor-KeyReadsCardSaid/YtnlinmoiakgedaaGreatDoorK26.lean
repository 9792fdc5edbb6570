/- squeezed. Walks: the reference's reader of i -/
import Derived.Test.YtnlinmoiakgedaaGreatDoorK25
import Derived.Test.YtnlinmoiakgedaaGreatDoorK24
set_option linter.unusedVariables false
set_option linter.unusedSimpArgs false
set_option maxRecDepth 100000
set_option maxHeartbeats 6400000
namespace Go.Proofs.YtnlinmoiakgedaaGreatDoor
open Go.RowKit
def Ym (d:Nat):Prop:=∀ (w:World) (H:Snap) (g:Nat) (A:Option Addr) (c:Nat) (l:List UInt8) (p cnt lv maj n:Nat),Tabs H→lv+1+d=8→4≤maj→maj≤6→n<18446744073709551616→0<l.length→Psr 112 w g H A c l p cnt→
 Calls Tryz.prog 98 #[.pointer (some ⟨g,0,none⟩),.int .i64 (maj:Int),.int .u64 (n:Int),.int .i64 (lv:Int)] w (ItemOut 112 w H g A c l p (ue maj d n (l.drop p) cnt))
theorem WA (d:Nat) {l:List UInt8}{p c:Nat}(h:¬ 256≤c) {ch:UInt8}{low:Nat}(hd:l.drop p=ch::l.drop (p+1)) (hl:ch.toNat%32=low) (se:low≤27) (h7:ch.toNat/32=7) :
  zo d (l.drop p) c=(match xW low (l.drop (p+1)) (c+1) with | .err e=>.err e | .ok x k c'=>.ok x (1+k) c'):=by
 subst hl;obtain⟨t,ht⟩:∃ t,l.drop (p+1)=t:=⟨_,rfl⟩
 rw[ht]at hd;rw[ht]
 by_cases ta:ch.toNat%32<24
 ·have hh:zj (l.drop p)=.ok (ch.toNat,ch.toNat%32,1):=by rw[hd,zj,if_neg (by omega),if_pos ta]
  rw[pf d _ c h hh h7,xW,if_pos ta]
  cases yK (ch.toNat%32) (ch.toNat%32) <;> rfl
 ·by_cases hs:t.length<2 ^ (ch.toNat%32-24)
  ·have hh:zj (l.drop p)=.error 2:=by rw[hd,zj,if_neg (by omega),if_neg ta,if_pos hs]
   rw[zY d _ c h hh,xW,if_neg ta,if_pos hs]
  ·have hh:zj (l.drop p)=.ok (ch.toNat,beN (t.take (2 ^ (ch.toNat%32-24))),1+2 ^ (ch.toNat%32-24)):=by rw[hd,zj,if_neg (by omega),if_neg ta,if_neg hs,if_neg (by omega)]
   rw[pf d _ c h hh h7,xW,if_neg ta,if_neg hs]
   cases yK (ch.toNat%32) (beN (t.take (2 ^ (ch.toNat%32-24)))) <;> rfl
section
variable {d:Nat} {w:World} {H:Snap} {g:Nat} {A:Option Addr} {c:Nat} {l:List UInt8} {p cnt lv:Nat}
theorem mS (hTab:Tabs H) (hlv:lv+d=8) (hP:Psr 112 w g H A c l p cnt) (hc:cnt=256):Calls Tryz.prog 79 #[.pointer (some ⟨g,0,none⟩),.int .i64 (lv:Int)] w (ItemOut 112 w H g A c l p (zo d (l.drop p) cnt)):=by
 have zC:=hP.gt;have xg:=(Rdg.refl hP).alloc zr;have xC:=Blk.new w 26 #[.int .i64 0,.int .u64 0,.slice none 0 0,.slice none 0 0];have zQ:H w.heap.size=none:=hP.holds.none_of_ge (Nat.le_refl _);have c2:=xg.psr.blk.cell 2 rfl;have xi:(256:Int)≤(cnt:Int):=by omega
 have xv:decide ((256:Int)≤(cnt:Int))=true:=decide_eq_true xi;have E:=Hh (kJ d (l.drop p) cnt (by omega));clear hc;go_enter Tryz.func79,Tryz.ntmps79
 go_wp2_with (with_reducible refine zx ?_)
 refine stI xC fun wz hTy zU=>?_
 have zP:=xg.gb zQ (Nat.le_refl _) zC zU;go_wp2_with fail
 refine zv rfl rfl hTy rfl rfl zw rfl ?_
 exact ItemOut.err (q:=8) E.out rfl zP
theorem kK (hTab:Tabs H) (hlv:lv+d=8) (hP:Psr 112 w g H A c l p cnt) (hc:cnt<256) (yi:p=l.length):Calls Tryz.prog 79 #[.pointer (some ⟨g,0,none⟩),.int .i64 (lv:Int)] w (ItemOut 112 w H g A c l p (zo d (l.drop p) cnt)):=by
 have zC:=hP.gt;have xg:=(Rdg.refl hP).alloc zr;have xC:=Blk.new w 26 #[.int .i64 0,.int .u64 0,.slice none 0 0,.slice none 0 0];have zQ:H w.heap.size=none:=hP.holds.none_of_ge (Nat.le_refl _);have c2:=xg.psr.blk.cell 2 rfl;have E:=Hh (zY d (l.drop p) cnt (by omega) (q:=2) (by rw[yi,List.drop_length];rfl));have z0:((l.length:Nat):Int)≤(p:Int):=by omega
 have z0':decide (((l.length:Nat):Int)≤(p:Int))=true:=decide_eq_true z0;clear yi;have xi:¬ ((256:Int)≤(cnt:Int)):=by omega
 have xv:decide ((256:Int)≤(cnt:Int))=false:=decide_eq_false xi;have KC:IntKind.i64.wrap ((cnt:Int)+1)=(cnt:Int)+1:=IntWalk.i64_in _ (by omega);have HC:=Hh hc;clear hc;go_enter Tryz.func79,Tryz.ntmps79
 go_wp2_with (with_reducible refine zx ?_)
 refine zu rfl _ _ _ rfl rfl g 2 (.int .i64 ((cnt:Int)+1)) rfl rfl _ _ xg.psr.blk zE (by simp) rfl fun w2 yu yp=>?_
 have yv:Rdg 112 w H w2 H g _ c l p (cnt+1):=xg.step yp yu hP.le (by have:=HC.out;omega);have xD:=xC.gr yp (by omega);clear xg xC yu yp c2 KC xi xv;have o9:=yv.psr.le;have a0:=yv.psr.blk.cell 0 rfl;have a1:=yv.psr.blk.cell 1 rfl;go_wp2_with fail
 go_big_quiet (fail)
 have yF:=yv.drewN nq;have xM:Blk (w2.drewN nq) w.heap.size 26 #[.int .i64 0,.int .u64 0,.slice none 0 0,.slice none 0 0]:=xD;go_wp2_with (with_reducible refine zx ?_)
 refine stI xM fun wz hTy zU=>?_
 have zP:=yF.gb zQ (Nat.le_refl _) zC zU;go_wp2_with fail
 refine zv rfl rfl hTy rfl rfl zw rfl ?_
 exact ItemOut.err E.out rfl zP
theorem mR (hTab:Tabs H) (hlv:lv+d=8) (hP:Psr 112 w g H A c l p cnt) (hc:cnt<256) (ut:p<l.length) {ch:UInt8}(rH:l[p]=ch) {low kd:Nat}(yQ:ch.toNat%32=low) (pX:ch.toNat/32=kd) (se:27<low):Calls Tryz.prog 79 #[.pointer (some ⟨g,0,none⟩),.int .i64 (lv:Int)] w (ItemOut 112 w H g A c l p (zo d (l.drop p) cnt)):=by
 have zC:=hP.gt;have xg:=(Rdg.refl hP).alloc zr;have xC:=Blk.new w 26 #[.int .i64 0,.int .u64 0,.slice none 0 0,.slice none 0 0];have zQ:H w.heap.size=none:=hP.holds.none_of_ge (Nat.le_refl _);have c2:=xg.psr.blk.cell 2 rfl;have ED:=uQ ut;rw[rH]at ED;have E:=Hh (zY d (l.drop p) cnt (by omega) (q:=3) (by rw[ED,zj,yQ,if_pos se]));have z27:(27:Int)<(low:Int):=by omega
 clear se ED;have z0:¬ (((l.length:Nat):Int)≤(p:Int)):=by omega
 have z0':decide (((l.length:Nat):Int)≤(p:Int))=false:=decide_eq_false z0;have jl:(p:Int)<(l.length:Int):=by omega
 have jk:(0:Int)≤(p:Int):=by omega
 have qT:=hP.small;have K1:IntKind.i64.wrap ((p:Int)+1)=(p:Int)+1:=IntWalk.i64_in _ (by omega);obtain⟨b,off,rfl,xy⟩:=hP.bytes.at_ (by omega);have KA:=oo ⟨ch.toNat,ch.toNat_lt⟩
 simp only at KA
 rw[yQ]at KA;have S:(ch.toNat:Int)/32=(kd:Int):=by omega
 have Vc:(kd:Int)≤7:=by have:=ch.toNat_lt;omega
 have od:(low:Int)≤31:=by omega
 have rQ:=Hh xy;have yk:=Hh (And.intro yQ (And.intro pX ut));have e9:=Hh (show H.cell? ⟨b,off+p,none⟩=some (zD ch) by have h:=xy p ut;rw[rH]at h;exact h);clear xy yQ pX qT rH;have xi:¬ ((256:Int)≤(cnt:Int)):=by omega
 have xv:decide ((256:Int)≤(cnt:Int))=false:=decide_eq_false xi;have KC:IntKind.i64.wrap ((cnt:Int)+1)=(cnt:Int)+1:=IntWalk.i64_in _ (by omega);have HC:=Hh hc;clear hc;go_enter Tryz.func79,Tryz.ntmps79
 go_wp2_with (with_reducible refine zx ?_)
 refine zu rfl _ _ _ rfl rfl g 2 (.int .i64 ((cnt:Int)+1)) rfl rfl _ _ xg.psr.blk zE (by simp) rfl fun w2 yu yp=>?_
 have yv:Rdg 112 w H w2 H g _ c l p (cnt+1):=xg.step yp yu hP.le (by have:=HC.out;omega);have xD:=xC.gr yp (by omega);clear xg xC yu yp c2 KC xi xv;have o9:=yv.psr.le;have a0:=yv.psr.blk.cell 0 rfl;have a1:=yv.psr.blk.cell 1 rfl;go_wp2_with fail
 go_big_quiet (fail)
 have uB:=yv.drewN nq;have u9:Blk (w2.drewN nq) w.heap.size 26 #[.int .i64 0,.int .u64 0,.slice none 0 0,.slice none 0 0]:=xD
 generalize w2.drewN nq=w3 at uB u9⊢
 obtain⟨yF,xM⟩:=And.intro uB u9;clear uB u9 yv xD a0 a1 o9;have a0:=yF.psr.blk.cell 0 rfl;have a1:=yF.psr.blk.cell 1 rfl;have q0:=yF.psr.holds.cell e9.out;go_upto_region 6 with fail
 go_big_quiet (fail)
 have vD:=yF.drewN nq;have vC:Blk (w3.drewN nq) w.heap.size 26 #[.int .i64 0,.int .u64 0,.slice none 0 0,.slice none 0 0]:=xM
 generalize w3.drewN nq=w4 at vD vC⊢
 obtain⟨xR,xG⟩:=And.intro vD vC;clear vD vC yF xM a0 a1 q0;have a1:=xR.psr.blk.cell 1 rfl;go_wp2_with (with_reducible refine zx ?_)
 refine zu rfl _ _ _ rfl rfl g 1 (.int .i64 ((p:Int)+1)) rfl rfl _ _ xR.psr.blk zE (by simp) rfl fun w5 uh xH=>?_
 have yl:Rdg 112 w H w5 H g (some ⟨b,off,none⟩) c l (p+1) (cnt+1):=xR.step xH uh yk.out.2.2 (by have:=HC.out;omega);have yh:=xG.gr xH (by omega);clear xR xG uh xH a1 K1 z0 z0' jl jk KA S;go_wp2_with (with_reducible refine zx ?_)
 refine stI yh fun wz hTy zU=>?_
 have zP:=yl.gb zQ (Nat.le_refl _) zC zU;go_wp2_with fail
 refine zv rfl rfl hTy rfl rfl zw rfl ?_
 exact ItemOut.err E.out rfl zP
theorem ft (hTab:Tabs H) (hlv:lv+d=8) (hP:Psr 112 w g H A c l p cnt) (hc:cnt<256) (ut:p<l.length) {ch:UInt8}(rH:l[p]=ch) {low kd:Nat}(yQ:ch.toNat%32=low) (pX:ch.toNat/32=kd) (se:low≤27) (h7:kd=7):Calls Tryz.prog 79 #[.pointer (some ⟨g,0,none⟩),.int .i64 (lv:Int)] w (ItemOut 112 w H g A c l p (zo d (l.drop p) cnt)):=by
 have zC:=hP.gt;have xg:=(Rdg.refl hP).alloc zr;have xC:=Blk.new w 26 #[.int .i64 0,.int .u64 0,.slice none 0 0,.slice none 0 0];have zQ:H w.heap.size=none:=hP.holds.none_of_ge (Nat.le_refl _);have c2:=xg.psr.blk.cell 2 rfl;have ED:=uQ ut;rw[rH]at ED;subst h7;have E0:=Hh (WA d (l:=l) (p:=p) (c:=cnt) (by omega) ED yQ se pX);have z27:¬ ((27:Int)<(low:Int)):=by omega
 have z27b:decide ((27:Int)<(low:Int))=false:=decide_eq_false z27;have mC:=Hh se;clear se ED;have z0:¬ (((l.length:Nat):Int)≤(p:Int)):=by omega
 have z0':decide (((l.length:Nat):Int)≤(p:Int))=false:=decide_eq_false z0;have jl:(p:Int)<(l.length:Int):=by omega
 have jk:(0:Int)≤(p:Int):=by omega
 have qT:=hP.small;have K1:IntKind.i64.wrap ((p:Int)+1)=(p:Int)+1:=IntWalk.i64_in _ (by omega);obtain⟨b,off,rfl,xy⟩:=hP.bytes.at_ (by omega);have KA:=oo ⟨ch.toNat,ch.toNat_lt⟩
 simp only at KA
 rw[yQ]at KA;have S:(ch.toNat:Int)/32=7:=by omega
 have Vc:=True.intro;have od:(low:Int)≤31:=by omega
 have rQ:=Hh xy;have yk:=Hh (And.intro yQ (And.intro pX ut));have e9:=Hh (show H.cell? ⟨b,off+p,none⟩=some (zD ch) by have h:=xy p ut;rw[rH]at h;exact h);clear xy yQ pX qT rH;have xi:¬ ((256:Int)≤(cnt:Int)):=by omega
 have xv:decide ((256:Int)≤(cnt:Int))=false:=decide_eq_false xi;have KC:IntKind.i64.wrap ((cnt:Int)+1)=(cnt:Int)+1:=IntWalk.i64_in _ (by omega);have HC:=Hh hc;clear hc;go_enter Tryz.func79,Tryz.ntmps79
 go_wp2_with (with_reducible refine zx ?_)
 refine zu rfl _ _ _ rfl rfl g 2 (.int .i64 ((cnt:Int)+1)) rfl rfl _ _ xg.psr.blk zE (by simp) rfl fun w2 yu yp=>?_
 have yv:Rdg 112 w H w2 H g _ c l p (cnt+1):=xg.step yp yu hP.le (by have:=HC.out;omega);have xD:=xC.gr yp (by omega);clear xg xC yu yp c2 KC xi xv;have o9:=yv.psr.le;have a0:=yv.psr.blk.cell 0 rfl;have a1:=yv.psr.blk.cell 1 rfl;go_wp2_with fail
 go_big_quiet (fail)
 have uB:=yv.drewN nq;have u9:Blk (w2.drewN nq) w.heap.size 26 #[.int .i64 0,.int .u64 0,.slice none 0 0,.slice none 0 0]:=xD
 generalize w2.drewN nq=w3 at uB u9⊢
 obtain⟨yF,xM⟩:=And.intro uB u9;clear uB u9 yv xD a0 a1 o9;have a0:=yF.psr.blk.cell 0 rfl;have a1:=yF.psr.blk.cell 1 rfl;have q0:=yF.psr.holds.cell e9.out;go_upto_region 6 with fail
 go_big_quiet (fail)
 have vD:=yF.drewN nq;have vC:Blk (w3.drewN nq) w.heap.size 26 #[.int .i64 0,.int .u64 0,.slice none 0 0,.slice none 0 0]:=xM
 generalize w3.drewN nq=w4 at vD vC⊢
 obtain⟨xR,xG⟩:=And.intro vD vC;clear vD vC yF xM a0 a1 q0;have a1:=xR.psr.blk.cell 1 rfl;go_wp2_with (with_reducible refine zx ?_)
 refine zu rfl _ _ _ rfl rfl g 1 (.int .i64 ((p:Int)+1)) rfl rfl _ _ xR.psr.blk zE (by simp) rfl fun w5 uh xH=>?_
 have yl:Rdg 112 w H w5 H g (some ⟨b,off,none⟩) c l (p+1) (cnt+1):=xR.step xH uh yk.out.2.2 (by have:=HC.out;omega);have yh:=xG.gr xH (by omega);clear xR xG uh xH a1 K1 z0 z0' jl jk KA S;have SP:=Hh (aX yl.psr low mC.out);go_wp2_with fail
 refine SP.out.mono ?_
 intro e w6 hs
 cases nE:xW low (l.drop (p+1)) (cnt+1) with
 | err q =>
  rw[nE,ItemOut]at hs;obtain⟨rfl,H4,p4,cnt4,qq⟩:=hs;have E:Hid (zo d (l.drop p) cnt=.err q):=by rw[Hid,E0.out,nE]
  have zA:=yl.trans qq;have yf:=yh.rdg qq (by omega);have td:=qq.hid zQ yh.lt;clear qq yl yh SP nE E0;go_wp2_with (with_reducible refine zx ?_)
  refine stI yf fun wz hTy zU=>?_
  have zP:=zA.gb td (Nat.le_refl _) zC zU;go_wp2_with fail
  refine zv rfl rfl hTy rfl rfl zw rfl ?_
  exact ItemOut.err E.out rfl zP
 | ok x k' c' =>
  rw[nE,ItemOut]at hs;obtain⟨ja,jb,jc,jd,H4,rfl,qq,jG⟩:=hs;have E:Hid (zo d (l.drop p) cnt=.ok x (1+k') c'):=by rw[Hid,E0.out,nE]
  have zA:=yl.trans qq;have yf:=yh.rdg qq (by omega);have td:=qq.hid zQ yh.lt;clear qq yl yh SP nE E0;go_wp2_with (with_reducible refine zx ?_)
  refine stI yf fun wz hTy zU=>?_
  have zP:=zA.gb td (Nat.le_refl _) zC zU;go_wp2_with fail
  refine zv rfl rfl hTy rfl rfl zw rfl ?_
  exact ItemOut.ok E.out rfl (by rw[← Nat.add_assoc];exact zP) jG
end
section
variable {d:Nat} {w:World} {H:Snap} {g:Nat} {A:Option Addr} {c:Nat} {l:List UInt8} {p cnt lv n:Nat}
theorem YB (ih:nr d) (hTab:Tabs H) (hlv:lv+1+d=8) (hn:n<18446744073709551616) (hl0:0<l.length) (hP:Psr 112 w g H A c l p cnt):Calls Tryz.prog 98 #[.pointer (some ⟨g,0,none⟩),.int .i64 4,.int .u64 (n:Int),.int .i64 (lv:Int)] w (ItemOut 112 w H g A c l p (ue 4 d n (l.drop p) cnt)):=by
 have zC:=hP.gt;have zQ:H w.heap.size=none:=hP.holds.none_of_ge (Nat.le_refl _);have uy:H (w.heap.size+1)=none:=hP.holds.none_of_ge (Nat.le_succ _);have xg:=((Rdg.refl hP).alloc zr).alloc zr;have xC:=(Blk.new w 26 #[.int .i64 0,.int .u64 0,.slice none 0 0,.slice none 0 0]).alloc zr;have o6:=Blk.new (w.alloc zr) 26 #[.int .i64 0,.int .u64 0,.slice none 0 0,.slice none 0 0];rw[show(w.alloc zr).heap.size=w.heap.size+1 by simp]at o6;have rh:=Hh hn;have qz:=Hh hP.small;have Zi:=Hh hlv;have aw:(lv:Int)≤8:=by omega
 have KLV:IntKind.i64.wrap ((lv:Int)+1)=(lv:Int)+1:=IntWalk.i64_in _ (by omega);have Uk:=Hh (show n<18446744073709551616 by omega);have jO:Hid (ue 4 d n (l.drop p) cnt=elR 4 n (vS (zo d) n (l.drop p) cnt)):=by rw[Hid,ue,kp,if_neg (by omega),if_neg (by omega),pi (by omega)]
 clear hn;go_enter Tryz.func98,Tryz.ntmps98
 go_wp2_with (with_reducible refine zx ?_)
 refine stI o6 fun w4 qH hg4=>?_
 have yl:=xg.grownRow (row:=some (w.heap.size+1)) (by rintro q ⟨⟩;exact uy) (by rintro q ⟨⟩;exact Nat.le_succ _) zC hg4;have yh:=xC.gr hg4 (by omega);clear xg xC o6 hg4;obtain⟨X,rG⟩:∃ X,w.heap.size+1=X:=⟨_,rfl⟩
 have xz:Hid (w.heap.size<X):=by rw[Hid];omega
 rw[rG]at qH uy⊢;clear rG;go_wp2_with fail
 go_loopw [12,13,14] (fun v12 v13 v14 wr=>∃ (i:Nat) (Hr:Snap) (VA:Option Addr) (vc vn:Nat) (L:List Itm) (k0 cc:Nat) ,v14=.int .u64 (i:Int)∧v12=.slice VA vn vc∧i≤n∧vn=L.length∧
  Rdg 112 w H wr Hr g A c l (p+k0) cc∧Blk wr w.heap.size 26 #[.int .i64 0,.int .u64 0,.slice none 0 0,.slice none 0 0]∧Hr w.heap.size=none∧
  Blk wr X 26 #[.int .i64 4,.int .u64 0,.slice none 0 0,.slice none 0 0]∧Hr X=none∧OwnI wr (X+1) (.slice VA vn vc) Hr L∧(∀ q,(Value.slice VA vn vc).ownBlock=some q→Hr q=none)∧L.length≤cc∧
  vS (zo d) n (l.drop p) cnt=(vS (zo d) (n-i) (l.drop (p+k0)) cc).pre L k0) (fun _ _ v14 _=>n-(intOf v14).toNat)
 case atStart=>exact⟨0,H,none,0,0,[],0,cnt,rfl,rfl,Nat.zero_le _,rfl,yl,yh,zQ,qH,uy,OwnI.nil _ _ H,by intro q hq;simp[Value.ownBlock]at hq,by simp,by rw[nm];rfl⟩
 case round =>
  clear yl yh qH;obtain⟨i,Hr,VA,vc,vn,L,k0,cc,rfl,rfl,bE,rfl,vy,vf,sk,rE,oW,ww,tn,cC,rx⟩:=hrel;have sy:=Hh rx;have jW:=Hh cC;have Uh:=Hh bE
  
  clear rx cC bE 
  by_cases xt:i<n
  ·obtain⟨m1,rn⟩:∃ m1,n-i=m1+1:=⟨n-i-1,by omega⟩
   have eB:=Hh (show n-(i+1)=m1 by omega);have vL:Hid (vS (zo d) n (l.drop p) cnt=(vS (zo d) (m1+1) (l.drop (p+k0)) cc).pre L k0):=by rw[Hid,sy.out,rn]
   obtain⟨P1,iS⟩:∃ P1,p+k0=P1:=⟨_,rfl⟩
   have pu:=Hh iS;rw[iS]at vy vL;clear iS;have m6:(i:Int)<(n:Int):=by omega
   have IT:=ih wr Hr g A c l P1 cc (lv+1) (hTab.mono vy.grows.le) hlv vy.psr;rw[show((lv+1:Nat):Int)=(lv:Int)+1 by omega]at IT;have ITH:=Hh IT;clear rn sy IT;go_wp2_with fail
   refine ITH.out.mono ?_
   intro e w5 hs
   cases hp:zo d (l.drop P1) cc with
   | err q =>
    rw[hp,ItemOut]at hs;obtain⟨rfl,H5,p5,cnt5,xr⟩:=hs;have oA:((q:Int) != 0)=true:=by rw[bne_iff_ne];have:=yJ _ _ _ _ hp;omega
    have mA:((q:Int)=0)=False:=eq_false (by have:=yJ _ _ _ _ hp;omega);have E:Hid (ue 4 d n (l.drop p) cnt=.err q):=by rw[Hid,jO.out,vL.out,qU L k0 hp];rfl
    have zA:=vy.trans xr;have yf:=vf.rdg xr (by omega);have td:=xr.hid sk vf.lt;have hY:=Blk.new w5 26 #[.int .i64 0,.int .u64 0,.slice none 0 0,.slice none 0 0];have lN:H5 w5.heap.size=none:=zA.psr.holds.none_of_ge (Nat.le_refl _);have qR:=Hh yf.lt;have yG:=zA.alloc zr;have yL:=yf.alloc zr;clear ITH hp vy xr vf rE ww tn vL jW zA yf;go_wp2_with (with_reducible refine zx ?_)
    refine stI hY fun w8 rV hg8=>?_
    have wL:=yG.gb lN (Nat.le_of_lt qR.out) zC hg8;have vN:=yL.grown hg8 (by intro e;injection e with e;have:=qR.out;omega);clear yG yL hY hg8 rV;go_wp2_with (with_reducible refine zx ?_)
    refine stI vN fun wz hTy zU=>?_
    have zP:=wL.gb td (Nat.le_refl _) zC zU;go_wp2_with fail
    refine zv rfl rfl hTy rfl rfl zw rfl ?_
    exact ItemOut.err E.out rfl zP
   | ok x k c1 =>
    rw[hp,ItemOut]at hs;obtain⟨ja,jb,jc,jd,H5,rfl,xr,bD⟩:=hs;have ay:=Hh (vU d _ _ _ _ _ hp);have zA:=vy.trans xr;have Pn:=zA.psr.cnt_le;have yf:=vf.rdg xr (by omega);have td:=xr.hid sk vf.lt;have rW:=rE.rdg xr (by have:=xz.out;omega);have mz:=xr.hid oW rE.lt;have sC:=(ww.rdg xr (by have:=xz.out;omega)).mono xr.grows.le;have pG:∀ q,(Value.slice VA L.length vc).ownBlock=some q→H5 q=none:=fun q hq=>xr.hid (tn q hq) (ww.lt q hq).2
    have Wb:=Hh xr.grows.le;have hY:=Blk.new w5 26 #[.int .i64 0,.int .u64 0,.slice none 0 0,.slice none 0 0];have lN:H5 w5.heap.size=none:=zA.psr.holds.none_of_ge (Nat.le_refl _);have qR:=Hh (And.intro yf.lt rW.lt);have o8:=Hh (show ∀ q,(Value.slice VA L.length vc).ownBlock=some q→X+1≤q∧q<w5.heap.size from fun q hq=>sC.lt q hq);have yG:=zA.alloc zr;have yL:=yf.alloc zr;have nF:=rW.alloc zr;have xK:=sC.alloc zr;have uM:=Hh (show L.length≤256 by have:=ay.out;have:=jW.out;omega);have XN:=Hh hp;clear ITH hp vy xr vf rE ww tn zA yf rW sC;go_wp2_with (with_reducible refine zx ?_)
    refine stI hY fun w8 rV hg8=>?_
    have wL:=yG.gb lN (Nat.le_of_lt qR.out.1) zC hg8;have vN:=yL.grown hg8 (by intro e;injection e with e;have:=qR.out.1;omega);have tY:=nF.grown hg8 (by intro e;injection e with e;have:=qR.out.2;omega);have o5:=xK.kl hg8 (fun q hv=>by have:=(o8.out q hv).2;omega);obtain⟨Y1,XR⟩:∃ Y1,w5.heap.size=Y1:=⟨_,rfl⟩
    rw[XR]at rV qR lN o8⊢;have b0:=rV.cell 0 rfl;have b1:=rV.cell 1 rfl;have b2:=rV.cell 2 rfl;have b3:=rV.cell 3 rfl;clear yG yL nF xK hY hg8 XR
    have gZ:Hid ((L++[x]).length≤c1):=by
     have:=ay.out;have:=jW.out;rw[Hid,List.length_append];simp;omega
    have uC:=wL.alloc (.cells (zg x ja jb jc jd).toArray 26);have ui:=vN.alloc (.cells (zg x ja jb jc jd).toArray 26);have ov:=tY.alloc (.cells (zg x ja jb jc jd).toArray 26);have rD:=o5.alloc (.cells (zg x ja jb jc jd).toArray 26);go_wp2_with (at_builtin;refine ye ?_)
    refine yw rfl (.tmp 75) (.tmp 77) rfl (X+1) (.slice VA L.length vc) H5 _ rfl rD _ 1 _ (zg x ja jb jc jd) [x] rfl rfl (ItemsC.one bD) (Src.new _ _ _ _ rfl _ rfl) (by have:=uM.out;simp;omega) ov.lt fun v' w10 tz hg10 hat10=>?_
    obtain⟨VA',vc',rfl,_⟩:=tz.form;have uS:=ui.grown hg10 (fun e=>by have:=(o8.out _ e).1;have:=xz.out;omega);have ly:=ov.grown hg10 (fun e=>by have:=(o8.out _ e).1;omega);have pv:=uZ uC.psr.holds pG hat10;have um:=uC.grownRow pG (fun q hq=>by have:=(o8.out q hq).1;have:=xz.out;omega) zC hg10;obtain⟨L',sV⟩:∃ L',L++[x]=L':=⟨_,rfl⟩
    rw[sV]at tz pv gZ⊢;have gS:=Hh (show vS (zo d) n (l.drop p) cnt=(vS (zo d) m1 (l.drop (p+(k0+k))) c1).pre (L++[x]) (k0+k) by rw[vL.out,pa L k0 XN.out,List.drop_drop,← pu.out,Nat.add_assoc]);rw[sV]at gS;have nv:L.length+1=L'.length:=by rw[← sV];simp
    try rw[nv]
    clear sV uC ui ov rD hg10 hat10 b0 b1 b2 b3 nv;have KI:IntKind.u64.wrap ((i:Int)+1)=(i:Int)+1:=by rw[IntKind.wrap_u64];have:=Uk.out;omega
    rw[show P1+k=p+(k0+k) by have:=pu.out;omega]at um;have rT:=Hh m6;clear m6;go_wp2_with fail
    go_roundw
    case rel=>exact⟨i+1,H5,VA',vc',_,L',k0+k,c1,by first | rfl | (simp;done) | go_num,rfl,by have:=rT.out;omega,rfl,um,uS,td,ly,mz,tz,pv,gZ.out,by rw[eB.out];exact gS.out⟩
    case measure=>have:=rT.out;simp[intOf];omega
  ·have hm:n=i:=by have:=Uh.out;omega
   subst hm
   have E1:Hid (ue 4 d n (l.drop p) cnt=.ok (.mk 4 0 [] L) k0 cc):=by
    rw[Hid,jO.out,sy.out,Nat.sub_self,vS];simp[PL.pre,elR]
   obtain⟨H5,mH,lP,vT,VC,sz,t8,sL⟩:=ww.snap vy.psr.holds (fun q hq=>tn q (vJ hq));have yQ:∀ q,VA.map (·.block)=some q→X+1≤q:=fun q hq=>(ww.lt q (vJ hq)).1
   have gf:H5 w.heap.size=none:=va vT sk (fun e=>by have:=yQ _ e;have:=xz.out;omega);have ZA:H5 X=none:=va vT oW (fun e=>by have:=yQ _ e;omega);have zA:Rdg 112 w H wr H5 g A c l (p+k0) cc:=vy.snap (B:=X+1) mH lP vT yQ (by have:=xz.out;omega) zC;have XC:IsItem H5 none 0 VA vc (.mk 4 0 [] L):=IsRowI.item ⟨sz,t8,sL⟩ 4 (by omega) 0 (by have:=rh.out;omega);clear ww vT sL lP mH sk oW tn yQ vy sy;go_wp2_with (with_reducible refine zx ?_)
   refine zu rfl _ _ _ rfl rfl X 3 (.slice VA L.length vc) rfl rfl _ _ rE zR (by simp) rfl fun w6 rW tF=>?_
   have yG:=zA.gb ZA (Nat.le_of_lt xz.out) zC tF;have yL:=vf.grown tF (by intro e;injection e with e;have:=xz.out;omega);have b0:=rW.cell 0 rfl;have b1:=rW.cell 1 rfl;have b2:=rW.cell 2 rfl;have b3:=rW.cell 3 rfl;clear zA vf rE tF;go_wp2_with (with_reducible refine zx ?_)
   refine stI yL fun wz hTy zU=>?_
   have zP:=yG.gb gf (Nat.le_refl _) zC zU;go_wp2_with fail
   refine zv rfl rfl hTy rfl rfl zw rfl ?_
   exact ItemOut.ok E1.out rfl zP XC
theorem YD (ih:nr d) (hTab:Tabs H) (hlv:lv+1+d=8) (hn:n<18446744073709551616) (hl0:0<l.length) (hP:Psr 112 w g H A c l p cnt):Calls Tryz.prog 98 #[.pointer (some ⟨g,0,none⟩),.int .i64 6,.int .u64 (n:Int),.int .i64 (lv:Int)] w (ItemOut 112 w H g A c l p (ue 6 d n (l.drop p) cnt)):=by
 have zC:=hP.gt;have zQ:H w.heap.size=none:=hP.holds.none_of_ge (Nat.le_refl _);have uy:H (w.heap.size+1)=none:=hP.holds.none_of_ge (Nat.le_succ _);have xg:=((Rdg.refl hP).alloc zr).alloc zr;have xC:=(Blk.new w 26 #[.int .i64 0,.int .u64 0,.slice none 0 0,.slice none 0 0]).alloc zr;have o6:=Blk.new (w.alloc zr) 26 #[.int .i64 0,.int .u64 0,.slice none 0 0,.slice none 0 0];rw[show(w.alloc zr).heap.size=w.heap.size+1 by simp]at o6;have rh:=Hh hn;have qz:=Hh hP.small;have Zi:=Hh hlv;have aw:(lv:Int)≤8:=by omega
 have KLV:IntKind.i64.wrap ((lv:Int)+1)=(lv:Int)+1:=IntWalk.i64_in _ (by omega);have Uk:=Hh (show 1<18446744073709551616 by omega);have jO:Hid (ue 6 d n (l.drop p) cnt=elR 6 n (vS (zo d) 1 (l.drop p) cnt)):=by rw[Hid,ue,kp,if_neg (by omega),if_pos rfl,pi (by omega)]
 clear hn;go_enter Tryz.func98,Tryz.ntmps98
 go_wp2_with (with_reducible refine zx ?_)
 refine stI o6 fun w4 qH hg4=>?_
 have yl:=xg.grownRow (row:=some (w.heap.size+1)) (by rintro q ⟨⟩;exact uy) (by rintro q ⟨⟩;exact Nat.le_succ _) zC hg4;have yh:=xC.gr hg4 (by omega);clear xg xC o6 hg4;obtain⟨X,rG⟩:∃ X,w.heap.size+1=X:=⟨_,rfl⟩
 have xz:Hid (w.heap.size<X):=by rw[Hid];omega
 rw[rG]at qH uy⊢;clear rG;go_wp2_with (with_reducible refine zx ?_)
 refine zu rfl _ _ _ rfl rfl X 1 (.int .u64 (n:Int)) rfl rfl _ _ qH kh (by simp) rfl fun w4b hX4b hg4b=>?_
 have Rl:=yl.gb uy (Nat.le_of_lt xz.out) zC hg4b;have RV:=yh.grown hg4b (by intro e;injection e with e;have:=xz.out;omega);have Rb:Blk w4b X 26 #[.int .i64 6,.int .u64 (n:Int),.slice none 0 0,.slice none 0 0]:=hX4b;clear yl yh qH hX4b hg4b;have yl:=Rl;have yh:=RV;have qH:=Rb;clear Rl RV Rb;go_wp2_with fail
 go_loopw [12,13,14] (fun v12 v13 v14 wr=>∃ (i:Nat) (Hr:Snap) (VA:Option Addr) (vc vn:Nat) (L:List Itm) (k0 cc:Nat) ,v14=.int .u64 (i:Int)∧v12=.slice VA vn vc∧i≤1∧vn=L.length∧
  Rdg 112 w H wr Hr g A c l (p+k0) cc∧Blk wr w.heap.size 26 #[.int .i64 0,.int .u64 0,.slice none 0 0,.slice none 0 0]∧Hr w.heap.size=none∧
  Blk wr X 26 #[.int .i64 6,.int .u64 (n:Int),.slice none 0 0,.slice none 0 0]∧Hr X=none∧OwnI wr (X+1) (.slice VA vn vc) Hr L∧(∀ q,(Value.slice VA vn vc).ownBlock=some q→Hr q=none)∧L.length≤cc∧
  vS (zo d) 1 (l.drop p) cnt=(vS (zo d) (1-i) (l.drop (p+k0)) cc).pre L k0) (fun _ _ v14 _=>1-(intOf v14).toNat)
 case atStart=>exact⟨0,H,none,0,0,[],0,cnt,rfl,rfl,Nat.zero_le _,rfl,yl,yh,zQ,qH,uy,OwnI.nil _ _ H,by intro q hq;simp[Value.ownBlock]at hq,by simp,by rw[nm];rfl⟩
 case round =>
  clear yl yh qH;obtain⟨i,Hr,VA,vc,vn,L,k0,cc,rfl,rfl,bE,rfl,vy,vf,sk,rE,oW,ww,tn,cC,rx⟩:=hrel;have sy:=Hh rx;have jW:=Hh cC;have Uh:=Hh bE
  
  clear rx cC bE 
  by_cases xt:i<1
  ·obtain⟨m1,rn⟩:∃ m1,1-i=m1+1:=⟨1-i-1,by omega⟩
   have eB:=Hh (show 1-(i+1)=m1 by omega);have vL:Hid (vS (zo d) 1 (l.drop p) cnt=(vS (zo d) (m1+1) (l.drop (p+k0)) cc).pre L k0):=by rw[Hid,sy.out,rn]
   obtain⟨P1,iS⟩:∃ P1,p+k0=P1:=⟨_,rfl⟩
   have pu:=Hh iS;rw[iS]at vy vL;clear iS;have m6:(i:Int)<1:=by omega
   have IT:=ih wr Hr g A c l P1 cc (lv+1) (hTab.mono vy.grows.le) hlv vy.psr;rw[show((lv+1:Nat):Int)=(lv:Int)+1 by omega]at IT;have ITH:=Hh IT;clear rn sy IT;go_wp2_with fail
   refine ITH.out.mono ?_
   intro e w5 hs
   cases hp:zo d (l.drop P1) cc with
   | err q =>
    rw[hp,ItemOut]at hs;obtain⟨rfl,H5,p5,cnt5,xr⟩:=hs;have oA:((q:Int) != 0)=true:=by rw[bne_iff_ne];have:=yJ _ _ _ _ hp;omega
    have mA:((q:Int)=0)=False:=eq_false (by have:=yJ _ _ _ _ hp;omega);have E:Hid (ue 6 d n (l.drop p) cnt=.err q):=by rw[Hid,jO.out,vL.out,qU L k0 hp];rfl
    have zA:=vy.trans xr;have yf:=vf.rdg xr (by omega);have td:=xr.hid sk vf.lt;have hY:=Blk.new w5 26 #[.int .i64 0,.int .u64 0,.slice none 0 0,.slice none 0 0];have lN:H5 w5.heap.size=none:=zA.psr.holds.none_of_ge (Nat.le_refl _);have qR:=Hh yf.lt;have yG:=zA.alloc zr;have yL:=yf.alloc zr;clear ITH hp vy xr vf rE ww tn vL jW zA yf;go_wp2_with (with_reducible refine zx ?_)
    refine stI hY fun w8 rV hg8=>?_
    have wL:=yG.gb lN (Nat.le_of_lt qR.out) zC hg8;have vN:=yL.grown hg8 (by intro e;injection e with e;have:=qR.out;omega);clear yG yL hY hg8 rV;go_wp2_with (with_reducible refine zx ?_)
    refine stI vN fun wz hTy zU=>?_
    have zP:=wL.gb td (Nat.le_refl _) zC zU;go_wp2_with fail
    refine zv rfl rfl hTy rfl rfl zw rfl ?_
    exact ItemOut.err E.out rfl zP
   | ok x k c1 =>
    rw[hp,ItemOut]at hs;obtain⟨ja,jb,jc,jd,H5,rfl,xr,bD⟩:=hs;have ay:=Hh (vU d _ _ _ _ _ hp);have zA:=vy.trans xr;have Pn:=zA.psr.cnt_le;have yf:=vf.rdg xr (by omega);have td:=xr.hid sk vf.lt;have rW:=rE.rdg xr (by have:=xz.out;omega);have mz:=xr.hid oW rE.lt;have sC:=(ww.rdg xr (by have:=xz.out;omega)).mono xr.grows.le;have pG:∀ q,(Value.slice VA L.length vc).ownBlock=some q→H5 q=none:=fun q hq=>xr.hid (tn q hq) (ww.lt q hq).2
    have Wb:=Hh xr.grows.le;have hY:=Blk.new w5 26 #[.int .i64 0,.int .u64 0,.slice none 0 0,.slice none 0 0];have lN:H5 w5.heap.size=none:=zA.psr.holds.none_of_ge (Nat.le_refl _);have qR:=Hh (And.intro yf.lt rW.lt);have o8:=Hh (show ∀ q,(Value.slice VA L.length vc).ownBlock=some q→X+1≤q∧q<w5.heap.size from fun q hq=>sC.lt q hq);have yG:=zA.alloc zr;have yL:=yf.alloc zr;have nF:=rW.alloc zr;have xK:=sC.alloc zr;have uM:=Hh (show L.length≤256 by have:=ay.out;have:=jW.out;omega);have XN:=Hh hp;clear ITH hp vy xr vf rE ww tn zA yf rW sC;go_wp2_with (with_reducible refine zx ?_)
    refine stI hY fun w8 rV hg8=>?_
    have wL:=yG.gb lN (Nat.le_of_lt qR.out.1) zC hg8;have vN:=yL.grown hg8 (by intro e;injection e with e;have:=qR.out.1;omega);have tY:=nF.grown hg8 (by intro e;injection e with e;have:=qR.out.2;omega);have o5:=xK.kl hg8 (fun q hv=>by have:=(o8.out q hv).2;omega);obtain⟨Y1,XR⟩:∃ Y1,w5.heap.size=Y1:=⟨_,rfl⟩
    rw[XR]at rV qR lN o8⊢;have b0:=rV.cell 0 rfl;have b1:=rV.cell 1 rfl;have b2:=rV.cell 2 rfl;have b3:=rV.cell 3 rfl;clear yG yL nF xK hY hg8 XR
    have gZ:Hid ((L++[x]).length≤c1):=by
     have:=ay.out;have:=jW.out;rw[Hid,List.length_append];simp;omega
    have uC:=wL.alloc (.cells (zg x ja jb jc jd).toArray 26);have ui:=vN.alloc (.cells (zg x ja jb jc jd).toArray 26);have ov:=tY.alloc (.cells (zg x ja jb jc jd).toArray 26);have rD:=o5.alloc (.cells (zg x ja jb jc jd).toArray 26);go_wp2_with (at_builtin;refine ye ?_)
    refine yw rfl (.tmp 75) (.tmp 77) rfl (X+1) (.slice VA L.length vc) H5 _ rfl rD _ 1 _ (zg x ja jb jc jd) [x] rfl rfl (ItemsC.one bD) (Src.new _ _ _ _ rfl _ rfl) (by have:=uM.out;simp;omega) ov.lt fun v' w10 tz hg10 hat10=>?_
    obtain⟨VA',vc',rfl,_⟩:=tz.form;have uS:=ui.grown hg10 (fun e=>by have:=(o8.out _ e).1;have:=xz.out;omega);have ly:=ov.grown hg10 (fun e=>by have:=(o8.out _ e).1;omega);have pv:=uZ uC.psr.holds pG hat10;have um:=uC.grownRow pG (fun q hq=>by have:=(o8.out q hq).1;have:=xz.out;omega) zC hg10;obtain⟨L',sV⟩:∃ L',L++[x]=L':=⟨_,rfl⟩
    rw[sV]at tz pv gZ⊢;have gS:=Hh (show vS (zo d) 1 (l.drop p) cnt=(vS (zo d) m1 (l.drop (p+(k0+k))) c1).pre (L++[x]) (k0+k) by rw[vL.out,pa L k0 XN.out,List.drop_drop,← pu.out,Nat.add_assoc]);rw[sV]at gS;have nv:L.length+1=L'.length:=by rw[← sV];simp
    try rw[nv]
    clear sV uC ui ov rD hg10 hat10 b0 b1 b2 b3 nv;have KI:IntKind.u64.wrap ((i:Int)+1)=(i:Int)+1:=by rw[IntKind.wrap_u64];have:=Uk.out;omega
    rw[show P1+k=p+(k0+k) by have:=pu.out;omega]at um;have rT:=Hh m6;clear m6;go_wp2_with fail
    go_roundw
    case rel=>exact⟨i+1,H5,VA',vc',_,L',k0+k,c1,by first | rfl | (simp;done) | go_num,rfl,by have:=rT.out;omega,rfl,um,uS,td,ly,mz,tz,pv,gZ.out,by rw[eB.out];exact gS.out⟩
    case measure=>have:=rT.out;simp[intOf];omega
  ·have hm:1=i:=by have:=Uh.out;omega
   subst hm
   have E1:Hid (ue 6 d n (l.drop p) cnt=.ok (.mk 6 n [] L) k0 cc):=by
    rw[Hid,jO.out,sy.out,Nat.sub_self,vS];simp[PL.pre,elR]
   obtain⟨H5,mH,lP,vT,VC,sz,t8,sL⟩:=ww.snap vy.psr.holds (fun q hq=>tn q (vJ hq));have yQ:∀ q,VA.map (·.block)=some q→X+1≤q:=fun q hq=>(ww.lt q (vJ hq)).1
   have gf:H5 w.heap.size=none:=va vT sk (fun e=>by have:=yQ _ e;have:=xz.out;omega);have ZA:H5 X=none:=va vT oW (fun e=>by have:=yQ _ e;omega);have zA:Rdg 112 w H wr H5 g A c l (p+k0) cc:=vy.snap (B:=X+1) mH lP vT yQ (by have:=xz.out;omega) zC;have XC:IsItem H5 none 0 VA vc (.mk 6 n [] L):=IsRowI.item ⟨sz,t8,sL⟩ 6 (by omega) n (by have:=rh.out;omega);clear ww vT sL lP mH sk oW tn yQ vy sy;go_wp2_with (with_reducible refine zx ?_)
   refine zu rfl _ _ _ rfl rfl X 3 (.slice VA L.length vc) rfl rfl _ _ rE zR (by simp) rfl fun w6 rW tF=>?_
   have yG:=zA.gb ZA (Nat.le_of_lt xz.out) zC tF;have yL:=vf.grown tF (by intro e;injection e with e;have:=xz.out;omega);have b0:=rW.cell 0 rfl;have b1:=rW.cell 1 rfl;have b2:=rW.cell 2 rfl;have b3:=rW.cell 3 rfl;clear zA vf rE tF;go_wp2_with (with_reducible refine zx ?_)
   refine stI yL fun wz hTy zU=>?_
   have zP:=yG.gb gf (Nat.le_refl _) zC zU;go_wp2_with fail
   refine zv rfl rfl hTy rfl rfl zw rfl ?_
   exact ItemOut.ok E1.out rfl zP XC
end
section
variable {d:Nat} {w:World} {H:Snap} {g:Nat} {A:Option Addr} {c:Nat} {l:List UInt8} {p cnt lv n:Nat}
theorem YC (ih:nr d) (hTab:Tabs H) (hlv:lv+1+d=8) (hn:n<18446744073709551616) (hl0:0<l.length) (hP:Psr 112 w g H A c l p cnt):Calls Tryz.prog 98 #[.pointer (some ⟨g,0,none⟩),.int .i64 5,.int .u64 (n:Int),.int .i64 (lv:Int)] w (ItemOut 112 w H g A c l p (ue 5 d n (l.drop p) cnt)):=by
 have zC:=hP.gt;have zQ:H w.heap.size=none:=hP.holds.none_of_ge (Nat.le_refl _);have uy:H (w.heap.size+1)=none:=hP.holds.none_of_ge (Nat.le_succ _);have xg:=((Rdg.refl hP).alloc zr).alloc zr;have xC:=(Blk.new w 26 #[.int .i64 0,.int .u64 0,.slice none 0 0,.slice none 0 0]).alloc zr;have o6:=Blk.new (w.alloc zr) 26 #[.int .i64 0,.int .u64 0,.slice none 0 0,.slice none 0 0];rw[show(w.alloc zr).heap.size=w.heap.size+1 by simp]at o6;have rh:=Hh hn;have qz:=Hh hP.small;have Zi:=Hh hlv;have aw:(lv:Int)≤8:=by omega
 have KLV:IntKind.i64.wrap ((lv:Int)+1)=(lv:Int)+1:=IntWalk.i64_in _ (by omega);obtain⟨mn,T7⟩:∃ mn,min n 4294967296=mn:=⟨_,rfl⟩
 obtain⟨N,hN⟩:∃ N,2*mn=N:=⟨_,rfl⟩
 have eX:min (n:Int) 4294967296=(mn:Int):=by omega
 have KN:IntKind.u64.wrap (2*(mn:Int))=(N:Int):=by rw[IntKind.wrap_u64];omega
 have Uk:=Hh (show N≤8589934592 by omega);have jO:Hid (ue 5 d n (l.drop p) cnt=elR 5 n (ve 5 (zo d) N true (l.drop p) cnt none)):=by rw[Hid,ue,kp,if_pos rfl,T7,hN]
 clear T7 hN hn;go_enter Tryz.func98,Tryz.ntmps98
 go_wp2_with (with_reducible refine zx ?_)
 refine stI o6 fun w4 qH hg4=>?_
 have yl:=xg.grownRow (row:=some (w.heap.size+1)) (by rintro q ⟨⟩;exact uy) (by rintro q ⟨⟩;exact Nat.le_succ _) zC hg4;have yh:=xC.gr hg4 (by omega);clear xg xC o6 hg4;obtain⟨X,rG⟩:∃ X,w.heap.size+1=X:=⟨_,rfl⟩
 have xz:Hid (w.heap.size<X):=by rw[Hid];omega
 rw[rG]at qH uy⊢;clear rG;go_wp2_with fail
 go_loopw [12,13,14] (fun v12 v13 v14 wr=>∃ (i:Nat) (Hr:Snap) (VA:Option Addr) (vc vn:Nat) (L:List Itm) (k0 cc:Nat) (last:Option (List UInt8)) (KB:Option Addr) (kn kc:Nat) ,v14=.int .u64 (i:Int)∧v12=.slice VA vn vc∧v13=.slice KB kn kc∧((i=0∧last=none)∨(0<i∧∃ key:List UInt8,last=some key∧kn=key.length∧key.length≤4096∧IsBytes Hr KB kc key))∧i≤N∧vn=L.length∧
  Rdg 112 w H wr Hr g A c l (p+k0) cc∧Blk wr w.heap.size 26 #[.int .i64 0,.int .u64 0,.slice none 0 0,.slice none 0 0]∧Hr w.heap.size=none∧
  Blk wr X 26 #[.int .i64 5,.int .u64 0,.slice none 0 0,.slice none 0 0]∧Hr X=none∧OwnI wr (X+1) (.slice VA vn vc) Hr L∧(∀ q,(Value.slice VA vn vc).ownBlock=some q→Hr q=none)∧L.length≤cc∧
  ve 5 (zo d) N true (l.drop p) cnt none=(ve 5 (zo d) (N-i) (decide (i%2=0)) (l.drop (p+k0)) cc last).pre L k0) (fun _ _ v14 _=>N-(intOf v14).toNat)
 case atStart=>exact⟨0,H,none,0,0,[],0,cnt,none,none,0,0,rfl,rfl,rfl,.inl ⟨rfl,rfl⟩,Nat.zero_le _,rfl,yl,yh,zQ,qH,uy,OwnI.nil _ _ H,by intro q hq;simp[Value.ownBlock]at hq,by simp,by rw[nm];rfl⟩
 case round =>
  clear yl yh qH;obtain⟨i,Hr,VA,vc,vn,L,k0,cc,last,KB,kn,kc,rfl,rfl,rfl,pq,bE,rfl,vy,vf,sk,rE,oW,ww,tn,cC,rx⟩:=hrel;have sy:=Hh rx;have jW:=Hh cC;have Uh:=Hh bE;have gA:=Hh pq;clear rx cC bE pq
  by_cases xt:i<N
  ·obtain⟨m1,rn⟩:∃ m1,N-i=m1+1:=⟨N-i-1,by omega⟩
   have eB:=Hh (show N-(i+1)=m1 by omega);have vL:Hid (ve 5 (zo d) N true (l.drop p) cnt none=(ve 5 (zo d) (m1+1) (decide (i%2=0)) (l.drop (p+k0)) cc last).pre L k0):=by rw[Hid,sy.out,rn]
   obtain⟨P1,iS⟩:∃ P1,p+k0=P1:=⟨_,rfl⟩
   have pu:=Hh iS;rw[iS]at vy vL;clear iS;have m6:(i:Int)<(N:Int):=by omega
   have IT:=ih wr Hr g A c l P1 cc (lv+1) (hTab.mono vy.grows.le) hlv vy.psr;rw[show((lv+1:Nat):Int)=(lv:Int)+1 by omega]at IT;have ITH:=Hh IT;clear rn sy IT;go_wp2_with fail
   refine ITH.out.mono ?_
   intro e w5 hs
   cases hp:zo d (l.drop P1) cc with
   | err q =>
    rw[hp,ItemOut]at hs;obtain⟨rfl,H5,p5,cnt5,xr⟩:=hs;have oA:((q:Int) != 0)=true:=by rw[bne_iff_ne];have:=yJ _ _ _ _ hp;omega
    have mA:((q:Int)=0)=False:=eq_false (by have:=yJ _ _ _ _ hp;omega);have E:Hid (ue 5 d n (l.drop p) cnt=.err q):=by rw[Hid,jO.out,vL.out,Xo L k0 hp];rfl
    have zA:=vy.trans xr;have yf:=vf.rdg xr (by omega);have td:=xr.hid sk vf.lt;have hY:=Blk.new w5 26 #[.int .i64 0,.int .u64 0,.slice none 0 0,.slice none 0 0];have lN:H5 w5.heap.size=none:=zA.psr.holds.none_of_ge (Nat.le_refl _);have qR:=Hh yf.lt;have yG:=zA.alloc zr;have yL:=yf.alloc zr;clear ITH hp vy xr vf rE ww tn vL jW zA yf;go_wp2_with (with_reducible refine zx ?_)
    refine stI hY fun w8 rV hg8=>?_
    have wL:=yG.gb lN (Nat.le_of_lt qR.out) zC hg8;have vN:=yL.grown hg8 (by intro e;injection e with e;have:=qR.out;omega);clear yG yL hY hg8 rV;go_wp2_with (with_reducible refine zx ?_)
    refine stI vN fun wz hTy zU=>?_
    have zP:=wL.gb td (Nat.le_refl _) zC zU;go_wp2_with fail
    refine zv rfl rfl hTy rfl rfl zw rfl ?_
    exact ItemOut.err E.out rfl zP
   | ok x k c1 =>
    rw[hp,ItemOut]at hs;obtain⟨ja,jb,jc,jd,H5,rfl,xr,bD⟩:=hs;have ay:=Hh (vU d _ _ _ _ _ hp);have zA:=vy.trans xr;have Pn:=zA.psr.cnt_le;have yf:=vf.rdg xr (by omega);have td:=xr.hid sk vf.lt;have rW:=rE.rdg xr (by have:=xz.out;omega);have mz:=xr.hid oW rE.lt;have sC:=(ww.rdg xr (by have:=xz.out;omega)).mono xr.grows.le;have pG:∀ q,(Value.slice VA L.length vc).ownBlock=some q→H5 q=none:=fun q hq=>xr.hid (tn q hq) (ww.lt q hq).2
    have Wb:=Hh xr.grows.le;have hY:=Blk.new w5 26 #[.int .i64 0,.int .u64 0,.slice none 0 0,.slice none 0 0];have lN:H5 w5.heap.size=none:=zA.psr.holds.none_of_ge (Nat.le_refl _);have qR:=Hh (And.intro yf.lt rW.lt);have o8:=Hh (show ∀ q,(Value.slice VA L.length vc).ownBlock=some q→X+1≤q∧q<w5.heap.size from fun q hq=>sC.lt q hq);have yG:=zA.alloc zr;have yL:=yf.alloc zr;have nF:=rW.alloc zr;have xK:=sC.alloc zr;have uM:=Hh (show L.length≤256 by have:=ay.out;have:=jW.out;omega);have XN:=Hh hp;clear ITH hp vy xr vf rE ww tn zA yf rW sC;go_wp2_with (with_reducible refine zx ?_)
    refine stI hY fun w8 rV hg8=>?_
    have wL:=yG.gb lN (Nat.le_of_lt qR.out.1) zC hg8;have vN:=yL.grown hg8 (by intro e;injection e with e;have:=qR.out.1;omega);have tY:=nF.grown hg8 (by intro e;injection e with e;have:=qR.out.2;omega);have o5:=xK.kl hg8 (fun q hv=>by have:=(o8.out q hv).2;omega);obtain⟨Y1,XR⟩:∃ Y1,w5.heap.size=Y1:=⟨_,rfl⟩
    rw[XR]at rV qR lN o8⊢;have b0:=rV.cell 0 rfl;have b1:=rV.cell 1 rfl;have b2:=rV.cell 2 rfl;have b3:=rV.cell 3 rfl;clear yG yL nF xK hY hg8 XR;have Zl:=Hh (oN d _ _ _ _ _ XN.out)
    by_cases hev:i%2=0
    ·have ev1:((i:Int)%2==0)=true:=by rw[beq_iff_eq];omega
     have ev2:((i:Int)%2=0)=True:=eq_true (by omega);have ev3:((i:Int).tmod 2==0)=true:=by rw[beq_iff_eq,Int.tmod_eq_emod_of_nonneg (by omega)];omega
     have ev4:((i:Int).tmod 2=0)=True:=eq_true (by rw[Int.tmod_eq_emod_of_nonneg (by omega)];omega);have br:=Hh hev;obtain⟨key,sA⟩:∃ key,(l.drop P1).take k=key:=⟨_,rfl⟩
     have ks:=Hh sA;have eP:Hid (key.length≤4096):=by rw[Hid,← sA,List.length_take,List.length_drop];have:=qz.out;omega
     have R7:Hid (zd x=key):=by rw[Hid,← sA];exact Zl.out.enc
     have RW0:=vB x H5 x.kind x.n ja x.bytes.length jb jc x.items.length jd w8 (lv+1) (Zl.out.good (lv+1) (by have:=Zi.out;omega)) (by rw[R7.out];have:=eP.out;omega) bD.arg wL.psr.holds;rw[R7.out]at RW0;have RW:=Hh RW0;clear hev sA RW0;go_wp2_with fail
     refine RW.out.mono ?_
     rintro e w9 ⟨r,rfl,Uy⟩
     obtain⟨KA,kac,rfl,_⟩:=Uy.own.form;obtain⟨H6,zJ,qI,_⟩:=Fresh.snapB wL.psr.holds Uy;have lz:=wL.grown zJ;have gJ:=vN.below Uy.2;have We:=tY.below Uy.2;have dr:=rV.below Uy.2;have Wc:=(o5.below Uy.2).mono zJ.le;have dy:=zJ.none td vN.lt;have VG:=zJ.none mz tY.lt;have bm:∀ q,(Value.slice VA L.length vc).ownBlock=some q→H6 q=none:=fun q hq=>zJ.none (pG q hq) (o5.lt q hq).2
     have Rq:=bD.mono zJ.le;have OH:=Hh (Wb.out.trans zJ.le);clear RW Uy zJ wL vN tY rV o5 td mz pG b0 b1 b2 b3 bD;have b0:=dr.cell 0 rfl;have b1:=dr.cell 1 rfl;have b2:=dr.cell 2 rfl;have b3:=dr.cell 3 rfl
     rcases gA.out with ⟨hiz,rfl⟩ | ⟨hi,lk,rfl,Zd,so,gY⟩
     ·have gR:Hid (tB none ((l.drop P1).take k)=none):=rfl;have ZH:¬ ((0:Int)<(i:Int)):=by omega
      have Qw:decide ((0:Int)<(i:Int))=false:=decide_eq_false ZH;clear hiz
      have gZ:Hid ((L++[x]).length≤c1):=by
       have:=ay.out;have:=jW.out;rw[Hid,List.length_append];simp;omega
      have uC:=lz.alloc (.cells (zg x ja jb jc jd).toArray 26);have ui:=gJ.alloc (.cells (zg x ja jb jc jd).toArray 26);have ov:=We.alloc (.cells (zg x ja jb jc jd).toArray 26);have rD:=Wc.alloc (.cells (zg x ja jb jc jd).toArray 26);go_wp2_with (at_builtin;refine ye ?_)
      refine yw rfl (.tmp 75) (.tmp 77) rfl (X+1) (.slice VA L.length vc) H6 _ rfl rD _ 1 _ (zg x ja jb jc jd) [x] rfl rfl (ItemsC.one Rq) (Src.new _ _ _ _ rfl _ rfl) (by have:=uM.out;simp;omega) ov.lt fun v' w10 tz hg10 hat10=>?_
      obtain⟨VA',vc',rfl,_⟩:=tz.form;have uS:=ui.grown hg10 (fun e=>by have:=(o8.out _ e).1;have:=xz.out;omega);have ly:=ov.grown hg10 (fun e=>by have:=(o8.out _ e).1;omega);have pv:=uZ uC.psr.holds bm hat10;have um:=uC.grownRow bm (fun q hq=>by have:=(o8.out q hq).1;have:=xz.out;omega) zC hg10;obtain⟨L',sV⟩:∃ L',L++[x]=L':=⟨_,rfl⟩
      rw[sV]at tz pv gZ⊢;have gS:=Hh (show ve 5 (zo d) N true (l.drop p) cnt none=(ve 5 (zo d) m1 (decide ((i+1)%2=0)) (l.drop (p+(k0+k))) c1 (some key)).pre (L++[x]) (k0+k) by rw[vL.out,mL L k0 XN.out rfl (by have:=br.out;simp;omega) gR.out,List.drop_drop,ks.out,← pu.out,Nat.add_assoc,show decide ((i+1)%2=0)=false by have:=br.out;simp;omega]);rw[sV]at gS;have nv:L.length+1=L'.length:=by rw[← sV];simp
      try rw[nv]
      clear sV uC ui ov rD hg10 hat10 b0 b1 b2 b3 nv;have KI:IntKind.u64.wrap ((i:Int)+1)=(i:Int)+1:=by rw[IntKind.wrap_u64];have:=Uk.out;omega
      rw[show P1+k=p+(k0+k) by have:=pu.out;omega]at um;have rT:=Hh m6;clear m6;go_wp2_with fail
      go_roundw
      case rel=>exact⟨i+1,H6,VA',vc',_,L',k0+k,c1,some key,KA,_,_,by first | rfl | (simp;done) | go_num,rfl,rfl,.inr ⟨by omega,key,rfl,rfl,eP.out,qI⟩,by have:=rT.out;omega,rfl,um,uS,dy,ly,VG,tz,pv,gZ.out,by rw[eB.out];exact gS.out⟩
      case measure=>have:=rT.out;simp[intOf];omega
     ·have ZH:(0:Int)<(i:Int):=by omega
      have Qw:decide ((0:Int)<(i:Int))=true:=decide_eq_true ZH;have CM:=Hh (fun(W:World) (hW:Holds W H6)=>vF W KB KA lk key kn key.length kc kac Zd rfl (by omega) (by have:=eP.out;omega) (Src.of_row (gY.mono OH.out).row hW) (Src.of_row qI.row hW));obtain⟨q,hq⟩:∃ q,Lib.compareBytes lk key=q:=⟨_,rfl⟩
      rw[hq]at CM;have HQ:=Hh hq;clear Zd so gY hq
      by_cases oA:q=0
      ·subst oA
       have gR:Hid (tB (some lk) ((l.drop P1).take k)=some 7):=by
        rw[Hid,ks.out,tB,if_pos (by rw[(rM lk key).1 HQ.out];exact sr key)]
       go_wp2_with fail
       refine(CM.out _ lz.psr.holds).mono ?_
       rintro e w10 ⟨rfl,vx⟩
       have tV:=lz.below_ vx;have sK:=gJ.below vx;have E:Hid (ue 5 d n (l.drop p) cnt=.err 7):=by rw[Hid,jO.out,vL.out,fT L k0 XN.out rfl (by have:=br.out;simp;omega) gR.out];rfl
       go_wp2_with (with_reducible refine zx ?_)
       refine stI sK fun wz hTy zU=>?_
       have zP:=tV.gb dy (Nat.le_refl _) zC zU;go_wp2_with fail
       refine zv rfl rfl hTy rfl rfl zw rfl ?_
       exact ItemOut.err (q:=7) E.out rfl zP
      ·have t0:(q==0)=false:=by simpa using oA
       have t0':(q=0)=False:=eq_false oA
       by_cases gX:q<0
       ·have gR:Hid (tB (some lk) ((l.drop P1).take k)=none):=by
         rw[Hid,ks.out,tB,if_neg (fun h=>oA (by rw[← HQ.out,(rM key lk).1 h];exact sr lk)),if_neg (fun h=>by
          have h1:=HQ.out;have h2:=mg lk key lk (by omega) h;rw[sr]at h2
          omega)]
        have t1:¬ ((0:Int)<q):=by omega
        have t1':decide ((0:Int)<q)=false:=decide_eq_false t1;clear oA gX;go_wp2_with fail
        refine(CM.out _ lz.psr.holds).mono ?_
        rintro e w10 ⟨rfl,vx⟩
        have tV:=lz.below_ vx;have sK:=gJ.below vx;have jS:=We.below vx;have pF:=dr.below vx;have jQ:=Wc.below vx;clear lz gJ We dr Wc vx b0 b1 b2 b3;go_wp2_with fail
        refine(CM.out _ tV.psr.holds).mono ?_
        rintro e w11 ⟨rfl,jU⟩
        have oX:=tV.below_ jU;have oS:=sK.below jU;have dn:=jS.below jU;have jT:=pF.below jU;have di:=jQ.below jU;clear tV sK jS pF jQ jU CM;have b0:=jT.cell 0 rfl;have b1:=jT.cell 1 rfl;have b2:=jT.cell 2 rfl;have b3:=jT.cell 3 rfl
        have gZ:Hid ((L++[x]).length≤c1):=by
         have:=ay.out;have:=jW.out;rw[Hid,List.length_append];simp;omega
        have uC:=oX.alloc (.cells (zg x ja jb jc jd).toArray 26);have ui:=oS.alloc (.cells (zg x ja jb jc jd).toArray 26);have ov:=dn.alloc (.cells (zg x ja jb jc jd).toArray 26);have rD:=di.alloc (.cells (zg x ja jb jc jd).toArray 26);go_wp2_with (at_builtin;refine ye ?_)
        refine yw rfl (.tmp 75) (.tmp 77) rfl (X+1) (.slice VA L.length vc) H6 _ rfl rD _ 1 _ (zg x ja jb jc jd) [x] rfl rfl (ItemsC.one Rq) (Src.new _ _ _ _ rfl _ rfl) (by have:=uM.out;simp;omega) ov.lt fun v' w10 tz hg10 hat10=>?_
        obtain⟨VA',vc',rfl,_⟩:=tz.form;have uS:=ui.grown hg10 (fun e=>by have:=(o8.out _ e).1;have:=xz.out;omega);have ly:=ov.grown hg10 (fun e=>by have:=(o8.out _ e).1;omega);have pv:=uZ uC.psr.holds bm hat10;have um:=uC.grownRow bm (fun q hq=>by have:=(o8.out q hq).1;have:=xz.out;omega) zC hg10;obtain⟨L',sV⟩:∃ L',L++[x]=L':=⟨_,rfl⟩
        rw[sV]at tz pv gZ⊢;have gS:=Hh (show ve 5 (zo d) N true (l.drop p) cnt none=(ve 5 (zo d) m1 (decide ((i+1)%2=0)) (l.drop (p+(k0+k))) c1 (some key)).pre (L++[x]) (k0+k) by rw[vL.out,mL L k0 XN.out rfl (by have:=br.out;simp;omega) gR.out,List.drop_drop,ks.out,← pu.out,Nat.add_assoc,show decide ((i+1)%2=0)=false by have:=br.out;simp;omega]);rw[sV]at gS;have nv:L.length+1=L'.length:=by rw[← sV];simp
        try rw[nv]
        clear sV uC ui ov rD hg10 hat10 b0 b1 b2 b3 nv;have KI:IntKind.u64.wrap ((i:Int)+1)=(i:Int)+1:=by rw[IntKind.wrap_u64];have:=Uk.out;omega
        rw[show P1+k=p+(k0+k) by have:=pu.out;omega]at um;have rT:=Hh m6;clear m6;go_wp2_with fail
        go_roundw
        case rel=>exact⟨i+1,H6,VA',vc',_,L',k0+k,c1,some key,KA,_,_,by first | rfl | (simp;done) | go_num,rfl,rfl,.inr ⟨by omega,key,rfl,rfl,eP.out,qI⟩,by have:=rT.out;omega,rfl,um,uS,dy,ly,VG,tz,pv,gZ.out,by rw[eB.out];exact gS.out⟩
        case measure=>have:=rT.out;simp[intOf];omega
       ·have gR:Hid (tB (some lk) ((l.drop P1).take k)=some 6):=by
         rw[Hid,ks.out,tB,if_neg (fun h=>oA (by rw[← HQ.out,(rM key lk).1 h];exact sr lk)),if_pos (iC lk key (by rw[HQ.out];exact oA) (by rw[HQ.out];exact gX))]
        have t1:(0:Int)<q:=by omega
        have t1':decide ((0:Int)<q)=true:=decide_eq_true t1;clear oA gX;go_wp2_with fail
        refine(CM.out _ lz.psr.holds).mono ?_
        rintro e w10 ⟨rfl,vx⟩
        have tV:=lz.below_ vx;have sK:=gJ.below vx;clear lz gJ We dr Wc vx b0 b1 b2 b3;go_wp2_with fail
        refine(CM.out _ tV.psr.holds).mono ?_
        rintro e w11 ⟨rfl,jU⟩
        have oX:=tV.below_ jU;have oS:=sK.below jU;clear tV sK jU CM;have E:Hid (ue 5 d n (l.drop p) cnt=.err 6):=by rw[Hid,jO.out,vL.out,fT L k0 XN.out rfl (by have:=br.out;simp;omega) gR.out];rfl
        go_wp2_with (with_reducible refine zx ?_)
        refine stI oS fun wz hTy zU=>?_
        have zP:=oX.gb dy (Nat.le_refl _) zC zU;go_wp2_with fail
        refine zv rfl rfl hTy rfl rfl zw rfl ?_
        exact ItemOut.err (q:=6) E.out rfl zP
    ·have ev1:((i:Int)%2==0)=false:=by rw[beq_eq_false_iff_ne];omega
     have ev2:((i:Int)%2=0)=False:=eq_false (by omega);have ev3:((i:Int).tmod 2==0)=false:=by rw[beq_eq_false_iff_ne,Int.tmod_eq_emod_of_nonneg (by omega)];omega
     have ev4:((i:Int).tmod 2=0)=False:=eq_false (by rw[Int.tmod_eq_emod_of_nonneg (by omega)];omega);have br:=Hh hev
     have Tf:Hid ((i+1=0∧last=none)∨(0<i+1∧∃ key:List UInt8,last=some key∧kn=key.length∧key.length≤4096∧IsBytes H5 KB kc key)):=by
      rcases gA.out with ⟨hiz,_⟩ | ⟨hi,lk,e1,e2,e3,e4⟩
      ·exact absurd hiz (by omega)
      ·exact .inr ⟨by omega,lk,e1,e2,e3,e4.mono Wb.out⟩
     clear hev
     have gZ:Hid ((L++[x]).length≤c1):=by
      have:=ay.out;have:=jW.out;rw[Hid,List.length_append];simp;omega
     have uC:=wL.alloc (.cells (zg x ja jb jc jd).toArray 26);have ui:=vN.alloc (.cells (zg x ja jb jc jd).toArray 26);have ov:=tY.alloc (.cells (zg x ja jb jc jd).toArray 26);have rD:=o5.alloc (.cells (zg x ja jb jc jd).toArray 26);go_wp2_with (at_builtin;refine ye ?_)
     refine yw rfl (.tmp 75) (.tmp 77) rfl (X+1) (.slice VA L.length vc) H5 _ rfl rD _ 1 _ (zg x ja jb jc jd) [x] rfl rfl (ItemsC.one bD) (Src.new _ _ _ _ rfl _ rfl) (by have:=uM.out;simp;omega) ov.lt fun v' w10 tz hg10 hat10=>?_
     obtain⟨VA',vc',rfl,_⟩:=tz.form;have uS:=ui.grown hg10 (fun e=>by have:=(o8.out _ e).1;have:=xz.out;omega);have ly:=ov.grown hg10 (fun e=>by have:=(o8.out _ e).1;omega);have pv:=uZ uC.psr.holds pG hat10;have um:=uC.grownRow pG (fun q hq=>by have:=(o8.out q hq).1;have:=xz.out;omega) zC hg10;obtain⟨L',sV⟩:∃ L',L++[x]=L':=⟨_,rfl⟩
     rw[sV]at tz pv gZ⊢;have gS:=Hh (show ve 5 (zo d) N true (l.drop p) cnt none=(ve 5 (zo d) m1 (decide ((i+1)%2=0)) (l.drop (p+(k0+k))) c1 last).pre (L++[x]) (k0+k) by rw[vL.out,Vo L k0 XN.out (by have:=br.out;simp;omega),List.drop_drop,← pu.out,Nat.add_assoc,show decide (i%2=0)=false by have:=br.out;simp;omega,show decide ((i+1)%2=0)=true by have:=br.out;simp;omega];rfl);rw[sV]at gS;have nv:L.length+1=L'.length:=by rw[← sV];simp
     try rw[nv]
     clear sV uC ui ov rD hg10 hat10 b0 b1 b2 b3 nv;have KI:IntKind.u64.wrap ((i:Int)+1)=(i:Int)+1:=by rw[IntKind.wrap_u64];have:=Uk.out;omega
     rw[show P1+k=p+(k0+k) by have:=pu.out;omega]at um;have rT:=Hh m6;clear m6;go_wp2_with fail
     go_roundw
     case rel=>exact⟨i+1,H5,VA',vc',_,L',k0+k,c1,last,KB,kn,kc,by first | rfl | (simp;done) | go_num,rfl,rfl,Tf.out,by have:=rT.out;omega,rfl,um,uS,td,ly,mz,tz,pv,gZ.out,by rw[eB.out];exact gS.out⟩
     case measure=>have:=rT.out;simp[intOf];omega
  ·have hm:N=i:=by have:=Uh.out;omega
   subst hm
   have E1:Hid (ue 5 d n (l.drop p) cnt=.ok (.mk 5 0 [] L) k0 cc):=by
    rw[Hid,jO.out,sy.out,Nat.sub_self,ve];simp[PL.pre,elR]
   obtain⟨H5,mH,lP,vT,VC,sz,t8,sL⟩:=ww.snap vy.psr.holds (fun q hq=>tn q (vJ hq));have yQ:∀ q,VA.map (·.block)=some q→X+1≤q:=fun q hq=>(ww.lt q (vJ hq)).1
   have gf:H5 w.heap.size=none:=va vT sk (fun e=>by have:=yQ _ e;have:=xz.out;omega);have ZA:H5 X=none:=va vT oW (fun e=>by have:=yQ _ e;omega);have zA:Rdg 112 w H wr H5 g A c l (p+k0) cc:=vy.snap (B:=X+1) mH lP vT yQ (by have:=xz.out;omega) zC;have XC:IsItem H5 none 0 VA vc (.mk 5 0 [] L):=IsRowI.item ⟨sz,t8,sL⟩ 5 (by omega) 0 (by have:=rh.out;omega);clear ww vT sL lP mH sk oW tn yQ vy sy;go_wp2_with (with_reducible refine zx ?_)
   refine zu rfl _ _ _ rfl rfl X 3 (.slice VA L.length vc) rfl rfl _ _ rE zR (by simp) rfl fun w6 rW tF=>?_
   have yG:=zA.gb ZA (Nat.le_of_lt xz.out) zC tF;have yL:=vf.grown tF (by intro e;injection e with e;have:=xz.out;omega);have b0:=rW.cell 0 rfl;have b1:=rW.cell 1 rfl;have b2:=rW.cell 2 rfl;have b3:=rW.cell 3 rfl;clear zA vf rE tF;go_wp2_with (with_reducible refine zx ?_)
   refine stI yL fun wz hTy zU=>?_
   have zP:=yG.gb gf (Nat.le_refl _) zC zU;go_wp2_with fail
   refine zv rfl rfl hTy rfl rfl zw rfl ?_
   exact ItemOut.ok E1.out rfl zP XC
end
end Go.Proofs.YtnlinmoiakgedaaGreatDoor
