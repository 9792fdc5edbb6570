/- squeezed. Walks: the reference's reader of i -/
import Derived.Test.YtjpcnhncoidliaaGreatDoorK09
set_option linter.unusedVariables false
set_option linter.unusedSimpArgs false
set_option maxRecDepth 100000
set_option maxHeartbeats 6400000
namespace Go.Proofs.YtjpcnhncoidliaaGreatDoor
open Go.RowKit
def UF (d:Nat):Prop:=∀ (w:World) (H:Snap) (g:Nat) (A:Option Addr) (c:Nat) (l:List UInt8) (p cnt lv maj n:Nat),Tabs H→lv+1+d=8→4≤maj→maj≤6→n<18446744073709551616→0<l.length→Psr 150 w g H A c l p cnt→
 Calls Tryz.prog 114 #[.pointer (some ⟨g,0,none⟩),.int .i64 (maj:Int),.int .u64 (n:Int),.int .i64 (lv:Int)] w (ItemOut 150 w H g A c l p (uG maj d n (l.drop p) cnt))
theorem RJ (d:Nat) {l:List UInt8}{p c:Nat}(h:¬ 256≤c) {ch:UInt8}{low:Nat}(hd:l.drop p=ch::l.drop (p+1)) (hl:ch.toNat%32=low) (ph:low≤27) (h7:ch.toNat/32=7) :
  zd d (l.drop p) c=(match xy low (l.drop (p+1)) (c+1) with | .err e=>.err e | .ok x k c'=>.ok x (1+k) c'):=by
 subst hl;obtain⟨t,ht⟩:∃ t,l.drop (p+1)=t:=⟨_,rfl⟩
 rw[ht]at hd;rw[ht]
 by_cases n9:ch.toNat%32<24
 ·have hh:zc (l.drop p)=.ok (ch.toNat,ch.toNat%32,1):=by rw[hd,zc,if_neg (by omega),if_pos n9]
  rw[j8 d _ c h hh h7,xy,if_pos n9]
  cases x8 (ch.toNat%32) (ch.toNat%32) <;> rfl
 by_cases hs:t.length<2 ^ (ch.toNat%32-24)
 ·have hh:zc (l.drop p)=.error 2:=by rw[hd,zc,if_neg (by omega),if_neg n9,if_pos hs]
  rw[zV d _ c h hh,xy,if_neg n9,if_pos hs]
 have hh:zc (l.drop p)=.ok (ch.toNat,beN (t.take (2 ^ (ch.toNat%32-24))),1+2 ^ (ch.toNat%32-24)):=by rw[hd,zc,if_neg (by omega),if_neg n9,if_neg hs,if_neg (by omega)]
 rw[j8 d _ c h hh h7,xy,if_neg n9,if_neg hs]
 cases x8 (ch.toNat%32) (beN (t.take (2 ^ (ch.toNat%32-24)))) <;> rfl
section
variable {d:Nat} {w:World} {H:Snap} {g:Nat} {A:Option Addr} {c:Nat} {l:List UInt8} {p cnt lv:Nat}
theorem jA (hTab:Tabs H) (hlv:lv+d=8) (hP:Psr 150 w g H A c l p cnt) (hc:cnt=256):Calls Tryz.prog 99 #[.pointer (some ⟨g,0,none⟩),.int .i64 (lv:Int)] w (ItemOut 150 w H g A c l p (zd d (l.drop p) cnt)):=by
 have yS:=hP.gt;have ux:=(Rdg.refl hP).alloc zO;have u7:=Blk.new w 78 #[.int .i64 0,.int .u64 0,.slice none 0 0,.slice none 0 0];have zG:H w.heap.size=none:=hP.holds.none_of_ge (Nat.le_refl _);have c2:=ux.psr.blk.cell 2 rfl;have vJ:(256:Int)≤(cnt:Int):=by omega
 have uR:decide ((256:Int)≤(cnt:Int))=true:=decide_eq_true vJ;have E:=Hh (Ya d (l.drop p) cnt (by omega));clear hc;go_enter Tryz.func99,Tryz.ntmps99
 go_wp2_with (with_reducible refine zx ?_)
 refine stI u7 fun wz hTy z8=>?_
 have yx:=ux.gb zG (Nat.le_refl _) yS z8;go_wp2_with fail
 refine zw rfl rfl hTy rfl rfl zp rfl ?_
 exact ItemOut.err (q:=8) E.out rfl yx
theorem gG (hTab:Tabs H) (hlv:lv+d=8) (hP:Psr 150 w g H A c l p cnt) (hc:cnt<256) (yy:p=l.length):Calls Tryz.prog 99 #[.pointer (some ⟨g,0,none⟩),.int .i64 (lv:Int)] w (ItemOut 150 w H g A c l p (zd d (l.drop p) cnt)):=by
 have yS:=hP.gt;have ux:=(Rdg.refl hP).alloc zO;have u7:=Blk.new w 78 #[.int .i64 0,.int .u64 0,.slice none 0 0,.slice none 0 0];have zG:H w.heap.size=none:=hP.holds.none_of_ge (Nat.le_refl _);have c2:=ux.psr.blk.cell 2 rfl;have E:=Hh (zV d (l.drop p) cnt (by omega) (q:=2) (by rw[yy,List.drop_length];rfl));have z0:((l.length:Nat):Int)≤(p:Int):=by omega
 have z0':decide (((l.length:Nat):Int)≤(p:Int))=true:=decide_eq_true z0;clear yy;have vJ:¬ ((256:Int)≤(cnt:Int)):=by omega
 have uR:decide ((256:Int)≤(cnt:Int))=false:=decide_eq_false vJ;have KC:IntKind.i64.wrap ((cnt:Int)+1)=(cnt:Int)+1:=IntWalk.i64_in _ (by omega);have HC:=Hh hc;clear hc;go_enter Tryz.func99,Tryz.ntmps99
 go_wp2_with (with_reducible refine zx ?_)
 refine zr rfl _ _ _ rfl rfl g 2 (.int .i64 ((cnt:Int)+1)) rfl rfl _ _ ux.psr.blk yI (by simp) rfl fun w2 vE yY=>?_
 have us:Rdg 150 w H w2 H g _ c l p (cnt+1):=ux.step yY vE hP.le (by have:=HC.out;omega);have sM:=u7.gr yY (by omega);clear ux u7 vE yY c2 KC vJ uR;have mR:=us.psr.le;have a0:=us.psr.blk.cell 0 rfl;have a1:=us.psr.blk.cell 1 rfl;go_wp2_with fail
 go_big_quiet (fail)
 have wU:=us.drewN nq;have un:Blk (w2.drewN nq) w.heap.size 78 #[.int .i64 0,.int .u64 0,.slice none 0 0,.slice none 0 0]:=sM;go_wp2_with (with_reducible refine zx ?_)
 refine stI un fun wz hTy z8=>?_
 have yx:=wU.gb zG (Nat.le_refl _) yS z8;go_wp2_with fail
 refine zw rfl rfl hTy rfl rfl zp rfl ?_
 exact ItemOut.err E.out rfl yx
theorem j9 (hTab:Tabs H) (hlv:lv+d=8) (hP:Psr 150 w g H A c l p cnt) (hc:cnt<256) (rv:p<l.length) {ch:UInt8}(nX:l[p]=ch) {low kd:Nat}(xe:ch.toNat%32=low) (mP:ch.toNat/32=kd) (ph:27<low):Calls Tryz.prog 99 #[.pointer (some ⟨g,0,none⟩),.int .i64 (lv:Int)] w (ItemOut 150 w H g A c l p (zd d (l.drop p) cnt)):=by
 have yS:=hP.gt;have ux:=(Rdg.refl hP).alloc zO;have u7:=Blk.new w 78 #[.int .i64 0,.int .u64 0,.slice none 0 0,.slice none 0 0];have zG:H w.heap.size=none:=hP.holds.none_of_ge (Nat.le_refl _);have c2:=ux.psr.blk.cell 2 rfl;have ED:=tB rv;rw[nX]at ED;have E:=Hh (zV d (l.drop p) cnt (by omega) (q:=3) (by rw[ED,zc,xe,if_pos ph]));have z27:(27:Int)<(low:Int):=by omega
 clear ph ED;have z0:¬ (((l.length:Nat):Int)≤(p:Int)):=by omega
 have z0':decide (((l.length:Nat):Int)≤(p:Int))=false:=decide_eq_false z0;have Zi:(p:Int)<(l.length:Int):=by omega
 have kH:(0:Int)≤(p:Int):=by omega
 have kO:=hP.small;have K1:IntKind.i64.wrap ((p:Int)+1)=(p:Int)+1:=IntWalk.i64_in _ (by omega);obtain⟨b,off,rfl,xW⟩:=hP.bytes.at_ (by omega);have KA:=jJ ⟨ch.toNat,ch.toNat_lt⟩
 simp only at KA
 rw[xe]at KA;have S:(ch.toNat:Int)/32=(kd:Int):=by omega
 have cM:(kd:Int)≤7:=by have:=ch.toNat_lt;omega
 have pk:(low:Int)≤31:=by omega
 have lC:=Hh xW;have yt:=Hh (And.intro xe (And.intro mP rv));have ZO:=Hh (show H.cell? ⟨b,off+p,none⟩=some (zg ch) by have h:=xW p rv;rw[nX]at h;exact h);clear xW xe mP kO nX;have vJ:¬ ((256:Int)≤(cnt:Int)):=by omega
 have uR:decide ((256:Int)≤(cnt:Int))=false:=decide_eq_false vJ;have KC:IntKind.i64.wrap ((cnt:Int)+1)=(cnt:Int)+1:=IntWalk.i64_in _ (by omega);have HC:=Hh hc;clear hc;go_enter Tryz.func99,Tryz.ntmps99
 go_wp2_with (with_reducible refine zx ?_)
 refine zr rfl _ _ _ rfl rfl g 2 (.int .i64 ((cnt:Int)+1)) rfl rfl _ _ ux.psr.blk yI (by simp) rfl fun w2 vE yY=>?_
 have us:Rdg 150 w H w2 H g _ c l p (cnt+1):=ux.step yY vE hP.le (by have:=HC.out;omega);have sM:=u7.gr yY (by omega);clear ux u7 vE yY c2 KC vJ uR;have mR:=us.psr.le;have a0:=us.psr.blk.cell 0 rfl;have a1:=us.psr.blk.cell 1 rfl;go_wp2_with fail
 go_big_quiet (fail)
 have tM:=us.drewN nq;have tK:Blk (w2.drewN nq) w.heap.size 78 #[.int .i64 0,.int .u64 0,.slice none 0 0,.slice none 0 0]:=sM
 generalize w2.drewN nq=w3 at tM tK⊢
 obtain⟨wU,un⟩:=And.intro tM tK;clear tM tK us sM a0 a1 mR;have a0:=wU.psr.blk.cell 0 rfl;have a1:=wU.psr.blk.cell 1 rfl;have q0:=wU.psr.holds.cell ZO.out;go_upto_region 6 with fail
 go_big_quiet (fail)
 have tN:=wU.drewN nq;have tL:Blk (w3.drewN nq) w.heap.size 78 #[.int .i64 0,.int .u64 0,.slice none 0 0,.slice none 0 0]:=un
 generalize w3.drewN nq=w4 at tN tL⊢
 obtain⟨sO,sN⟩:=And.intro tN tL;clear tN tL wU un a0 a1 q0;have a1:=sO.psr.blk.cell 1 rfl;go_wp2_with (with_reducible refine zx ?_)
 refine zr rfl _ _ _ rfl rfl g 1 (.int .i64 ((p:Int)+1)) rfl rfl _ _ sO.psr.blk yI (by simp) rfl fun w5 tF xC=>?_
 have yU:Rdg 150 w H w5 H g (some ⟨b,off,none⟩) c l (p+1) (cnt+1):=sO.step xC tF yt.out.2.2 (by have:=HC.out;omega);have yO:=sN.gr xC (by omega);clear sO sN tF xC a1 K1 z0 z0' Zi kH KA S;go_wp2_with (with_reducible refine zx ?_)
 refine stI yO fun wz hTy z8=>?_
 have yx:=yU.gb zG (Nat.le_refl _) yS z8;go_wp2_with fail
 refine zw rfl rfl hTy rfl rfl zp rfl ?_
 exact ItemOut.err E.out rfl yx
theorem bJ (hTab:Tabs H) (hlv:lv+d=8) (hP:Psr 150 w g H A c l p cnt) (hc:cnt<256) (rv:p<l.length) {ch:UInt8}(nX:l[p]=ch) {low kd:Nat}(xe:ch.toNat%32=low) (mP:ch.toNat/32=kd) (ph:low≤27) (h7:kd=7):Calls Tryz.prog 99 #[.pointer (some ⟨g,0,none⟩),.int .i64 (lv:Int)] w (ItemOut 150 w H g A c l p (zd d (l.drop p) cnt)):=by
 have yS:=hP.gt;have ux:=(Rdg.refl hP).alloc zO;have u7:=Blk.new w 78 #[.int .i64 0,.int .u64 0,.slice none 0 0,.slice none 0 0];have zG:H w.heap.size=none:=hP.holds.none_of_ge (Nat.le_refl _);have c2:=ux.psr.blk.cell 2 rfl;have ED:=tB rv;rw[nX]at ED;subst h7;have E0:=Hh (RJ d (l:=l) (p:=p) (c:=cnt) (by omega) ED xe ph mP);have z27:¬ ((27:Int)<(low:Int)):=by omega
 have z27b:decide ((27:Int)<(low:Int))=false:=decide_eq_false z27;have ij:=Hh ph;clear ph ED;have z0:¬ (((l.length:Nat):Int)≤(p:Int)):=by omega
 have z0':decide (((l.length:Nat):Int)≤(p:Int))=false:=decide_eq_false z0;have Zi:(p:Int)<(l.length:Int):=by omega
 have kH:(0:Int)≤(p:Int):=by omega
 have kO:=hP.small;have K1:IntKind.i64.wrap ((p:Int)+1)=(p:Int)+1:=IntWalk.i64_in _ (by omega);obtain⟨b,off,rfl,xW⟩:=hP.bytes.at_ (by omega);have KA:=jJ ⟨ch.toNat,ch.toNat_lt⟩
 simp only at KA
 rw[xe]at KA;have S:(ch.toNat:Int)/32=7:=by omega
 have cM:=True.intro;have pk:(low:Int)≤31:=by omega
 have lC:=Hh xW;have yt:=Hh (And.intro xe (And.intro mP rv));have ZO:=Hh (show H.cell? ⟨b,off+p,none⟩=some (zg ch) by have h:=xW p rv;rw[nX]at h;exact h);clear xW xe mP kO nX;have vJ:¬ ((256:Int)≤(cnt:Int)):=by omega
 have uR:decide ((256:Int)≤(cnt:Int))=false:=decide_eq_false vJ;have KC:IntKind.i64.wrap ((cnt:Int)+1)=(cnt:Int)+1:=IntWalk.i64_in _ (by omega);have HC:=Hh hc;clear hc;go_enter Tryz.func99,Tryz.ntmps99
 go_wp2_with (with_reducible refine zx ?_)
 refine zr rfl _ _ _ rfl rfl g 2 (.int .i64 ((cnt:Int)+1)) rfl rfl _ _ ux.psr.blk yI (by simp) rfl fun w2 vE yY=>?_
 have us:Rdg 150 w H w2 H g _ c l p (cnt+1):=ux.step yY vE hP.le (by have:=HC.out;omega);have sM:=u7.gr yY (by omega);clear ux u7 vE yY c2 KC vJ uR;have mR:=us.psr.le;have a0:=us.psr.blk.cell 0 rfl;have a1:=us.psr.blk.cell 1 rfl;go_wp2_with fail
 go_big_quiet (fail)
 have tM:=us.drewN nq;have tK:Blk (w2.drewN nq) w.heap.size 78 #[.int .i64 0,.int .u64 0,.slice none 0 0,.slice none 0 0]:=sM
 generalize w2.drewN nq=w3 at tM tK⊢
 obtain⟨wU,un⟩:=And.intro tM tK;clear tM tK us sM a0 a1 mR;have a0:=wU.psr.blk.cell 0 rfl;have a1:=wU.psr.blk.cell 1 rfl;have q0:=wU.psr.holds.cell ZO.out;go_upto_region 6 with fail
 go_big_quiet (fail)
 have tN:=wU.drewN nq;have tL:Blk (w3.drewN nq) w.heap.size 78 #[.int .i64 0,.int .u64 0,.slice none 0 0,.slice none 0 0]:=un
 generalize w3.drewN nq=w4 at tN tL⊢
 obtain⟨sO,sN⟩:=And.intro tN tL;clear tN tL wU un a0 a1 q0;have a1:=sO.psr.blk.cell 1 rfl;go_wp2_with (with_reducible refine zx ?_)
 refine zr rfl _ _ _ rfl rfl g 1 (.int .i64 ((p:Int)+1)) rfl rfl _ _ sO.psr.blk yI (by simp) rfl fun w5 tF xC=>?_
 have yU:Rdg 150 w H w5 H g (some ⟨b,off,none⟩) c l (p+1) (cnt+1):=sO.step xC tF yt.out.2.2 (by have:=HC.out;omega);have yO:=sN.gr xC (by omega);clear sO sN tF xC a1 K1 z0 z0' Zi kH KA S;have SP:=Hh (WQ yU.psr low ij.out);go_wp2_with fail
 refine SP.out.mono ?_
 intro e w6 hs
 cases fO:xy low (l.drop (p+1)) (cnt+1) with
 | err q =>
  rw[fO,ItemOut]at hs;obtain⟨rfl,H4,p4,cnt4,p8⟩:=hs;have E:Hid (zd d (l.drop p) cnt=.err q):=by rw[Hid,E0.out,fO]
  have yf:=yU.trans p8;have yQ:=yO.rdg p8 (by omega);have pD:=p8.hid zG yO.lt;clear p8 yU yO SP fO E0;go_wp2_with (with_reducible refine zx ?_)
  refine stI yQ fun wz hTy z8=>?_
  have yx:=yf.gb pD (Nat.le_refl _) yS z8;go_wp2_with fail
  refine zw rfl rfl hTy rfl rfl zp rfl ?_
  exact ItemOut.err E.out rfl yx
 | ok x k' c' =>
 rw[fO,ItemOut]at hs;obtain⟨ja,jb,jc,jd,H4,rfl,p8,Nu⟩:=hs;have E:Hid (zd d (l.drop p) cnt=.ok x (1+k') c'):=by rw[Hid,E0.out,fO]
 have yf:=yU.trans p8;have yQ:=yO.rdg p8 (by omega);have pD:=p8.hid zG yO.lt;clear p8 yU yO SP fO E0;go_wp2_with (with_reducible refine zx ?_)
 refine stI yQ fun wz hTy z8=>?_
 have yx:=yf.gb pD (Nat.le_refl _) yS z8;go_wp2_with fail
 refine zw rfl rfl hTy rfl rfl zp rfl ?_
 exact ItemOut.ok E.out rfl (by rw[← Nat.add_assoc];exact yx) Nu
end
section
variable {d:Nat} {w:World} {H:Snap} {g:Nat} {A:Option Addr} {c:Nat} {l:List UInt8} {p cnt lv n:Nat}
theorem TQ (ih:lD d) (hTab:Tabs H) (hlv:lv+1+d=8) (hn:n<18446744073709551616) (V9:0<l.length) (hP:Psr 150 w g H A c l p cnt):Calls Tryz.prog 114 #[.pointer (some ⟨g,0,none⟩),.int .i64 4,.int .u64 (n:Int),.int .i64 (lv:Int)] w (ItemOut 150 w H g A c l p (uG 4 d n (l.drop p) cnt)):=by
 have yS:=hP.gt;have zG:H w.heap.size=none:=hP.holds.none_of_ge (Nat.le_refl _);have oY:H (w.heap.size+1)=none:=hP.holds.none_of_ge (Nat.le_succ _);have ux:=((Rdg.refl hP).alloc zO).alloc zO;have u7:=(Blk.new w 78 #[.int .i64 0,.int .u64 0,.slice none 0 0,.slice none 0 0]).alloc zO;have rd:=Blk.new (w.alloc zO) 78 #[.int .i64 0,.int .u64 0,.slice none 0 0,.slice none 0 0];rw[show(w.alloc zO).heap.size=w.heap.size+1 by simp]at rd;have rK:=Hh hn;have lP:=Hh hP.small;have VP:=Hh hlv;have Lz:(lv:Int)≤8:=by omega
 have KLV:IntKind.i64.wrap ((lv:Int)+1)=(lv:Int)+1:=IntWalk.i64_in _ (by omega);have Pe:=Hh (show n<18446744073709551616 by omega);have fB:Hid (uG 4 d n (l.drop p) cnt=elR 4 n (uf (zd d) n (l.drop p) cnt)):=by rw[Hid,uG,hU,if_neg (by omega),if_neg (by omega),o1 (by omega)]
 clear hn;go_enter Tryz.func114,Tryz.ntmps114
 go_wp2_with (with_reducible refine zx ?_)
 refine stI rd fun w4 kL hg4=>?_
 have yU:=ux.grownRow (row:=some (w.heap.size+1)) (by rintro q ⟨⟩;exact oY) (by rintro q ⟨⟩;exact Nat.le_succ _) yS hg4;have yO:=u7.gr hg4 (by omega);clear ux u7 rd hg4;obtain⟨X,kE⟩:∃ X,w.heap.size+1=X:=⟨_,rfl⟩
 have wg:Hid (w.heap.size<X):=by rw[Hid];omega
 rw[kE]at kL oY⊢;clear kE;go_wp2_with fail
 go_loopw [12,13,14] (fun v12 v13 v14 wr=>∃ (i:Nat) (Hr:Snap) (VA:Option Addr) (vc vn:Nat) (L:List Itm) (k0 cc:Nat) ,v14=.int .u64 (i:Int)∧v12=.slice VA vn vc∧i≤n∧vn=L.length∧
  Rdg 150 w H wr Hr g A c l (p+k0) cc∧Blk wr w.heap.size 78 #[.int .i64 0,.int .u64 0,.slice none 0 0,.slice none 0 0]∧Hr w.heap.size=none∧
  Blk wr X 78 #[.int .i64 4,.int .u64 0,.slice none 0 0,.slice none 0 0]∧Hr X=none∧OwnI wr (X+1) (.slice VA vn vc) Hr L∧(∀ q,(Value.slice VA vn vc).ownBlock=some q→Hr q=none)∧L.length≤cc∧
  uf (zd d) n (l.drop p) cnt=(uf (zd d) (n-i) (l.drop (p+k0)) cc).pre L k0) (fun _ _ v14 _=>n-(intOf v14).toNat)
 case atStart=>exact⟨0,H,none,0,0,[],0,cnt,rfl,rfl,Nat.zero_le _,rfl,yU,yO,zG,kL,oY,OwnI.nil _ _ H,by intro q hq;simp[Value.ownBlock]at hq,by simp,by rw[dI];rfl⟩
 case round =>
 clear yU yO kL;obtain⟨i,Hr,VA,vc,vn,L,k0,cc,rfl,rfl,Sq,rfl,qD,qg,uU,eg,i8,vf,lY,QX,jO⟩:=hrel;have lI:=Hh jO;have XA:=Hh QX;have rY:=Hh Sq
  
 clear jO QX Sq 
 by_cases yK:i<n
 ·obtain⟨m1,mQ⟩:∃ m1,n-i=m1+1:=⟨n-i-1,by omega⟩
  have VQ:=Hh (show n-(i+1)=m1 by omega);have sQ:Hid (uf (zd d) n (l.drop p) cnt=(uf (zd d) (m1+1) (l.drop (p+k0)) cc).pre L k0):=by rw[Hid,lI.out,mQ]
  obtain⟨P1,fL⟩:∃ P1,p+k0=P1:=⟨_,rfl⟩
  have iZ:=Hh fL;rw[fL]at qD sQ;clear fL;have ig:(i:Int)<(n:Int):=by omega
  have IT:=ih wr Hr g A c l P1 cc (lv+1) (hTab.mono qD.grows.le) hlv qD.psr;rw[show((lv+1:Nat):Int)=(lv:Int)+1 by omega]at IT;have ITH:=Hh IT;clear mQ lI IT;go_wp2_with fail
  refine ITH.out.mono ?_
  intro e w5 hs
  cases hp:zd d (l.drop P1) cc with
  | err q =>
   rw[hp,ItemOut]at hs;obtain⟨rfl,H5,p5,cnt5,vr⟩:=hs;have pG:((q:Int) != 0)=true:=by rw[bne_iff_ne];have:=vA _ _ _ _ hp;omega
   have Rn:((q:Int)=0)=False:=eq_false (by have:=vA _ _ _ _ hp;omega);have E:Hid (uG 4 d n (l.drop p) cnt=.err q):=by rw[Hid,fB.out,sQ.out,kS L k0 hp];rfl
   have yf:=qD.trans vr;have yQ:=qg.rdg vr (by omega);have pD:=vr.hid uU qg.lt;have hY:=Blk.new w5 78 #[.int .i64 0,.int .u64 0,.slice none 0 0,.slice none 0 0];have Xt:H5 w5.heap.size=none:=yf.psr.holds.none_of_ge (Nat.le_refl _);have mY:=Hh yQ.lt;have xp:=yf.alloc zO;have xx:=yQ.alloc zO;clear ITH hp qD vr qg eg vf lY sQ XA yf yQ;go_wp2_with (with_reducible refine zx ?_)
   refine stI hY fun w8 hY8 hg8=>?_
   have vF:=xp.gb Xt (Nat.le_of_lt mY.out) yS hg8;have td:=xx.grown hg8 (by intro e;injection e with e;have:=mY.out;omega);clear xp xx hY hg8 hY8;go_wp2_with (with_reducible refine zx ?_)
   refine stI td fun wz hTy z8=>?_
   have yx:=vF.gb pD (Nat.le_refl _) yS z8;go_wp2_with fail
   refine zw rfl rfl hTy rfl rfl zp rfl ?_
   exact ItemOut.err E.out rfl yx
  | ok x k c1 =>
  rw[hp,ItemOut]at hs;obtain⟨ja,jb,jc,jd,H5,rfl,vr,Qd⟩:=hs;have Sc:=Hh (rD d _ _ _ _ _ hp);have yf:=qD.trans vr;have Fm:=yf.psr.cnt_le;have yQ:=qg.rdg vr (by omega);have pD:=vr.hid uU qg.lt;have jY:=eg.rdg vr (by have:=wg.out;omega);have ZC:=vr.hid i8 eg.lt;have qf:=(vf.rdg vr (by have:=wg.out;omega)).mono vr.grows.le;have lM:∀ q,(Value.slice VA L.length vc).ownBlock=some q→H5 q=none:=fun q hq=>vr.hid (lY q hq) (vf.lt q hq).2
  have RV:=Hh vr.grows.le;have hY:=Blk.new w5 78 #[.int .i64 0,.int .u64 0,.slice none 0 0,.slice none 0 0];have Xt:H5 w5.heap.size=none:=yf.psr.holds.none_of_ge (Nat.le_refl _);have mY:=Hh (And.intro yQ.lt jY.lt);have lV:=Hh (show ∀ q,(Value.slice VA L.length vc).ownBlock=some q→X+1≤q∧q<w5.heap.size from fun q hq=>qf.lt q hq);have xp:=yf.alloc zO;have xx:=yQ.alloc zO;have fS:=jY.alloc zO;have wY:=qf.alloc zO;have ss:=Hh (show L.length≤256 by have:=Sc.out;have:=XA.out;omega);have Sg:=Hh hp;clear ITH hp qD vr qg eg vf lY yf yQ jY qf;go_wp2_with (with_reducible refine zx ?_)
  refine stI hY fun w8 hY8 hg8=>?_
  have vF:=xp.gb Xt (Nat.le_of_lt mY.out.1) yS hg8;have td:=xx.grown hg8 (by intro e;injection e with e;have:=mY.out.1;omega);have qz:=fS.grown hg8 (by intro e;injection e with e;have:=mY.out.2;omega);have jV:=wY.kl hg8 (fun q hv=>by have:=(lV.out q hv).2;omega);obtain⟨Y1,QZ⟩:∃ Y1,w5.heap.size=Y1:=⟨_,rfl⟩
  rw[QZ]at hY8 mY Xt lV⊢;have b0:=hY8.cell 0 rfl;have b1:=hY8.cell 1 rfl;have b2:=hY8.cell 2 rfl;have b3:=hY8.cell 3 rfl;clear xp xx fS wY hY hg8 QZ
  have cI:Hid ((L++[x]).length≤c1):=by
   have:=Sc.out;have:=XA.out;rw[Hid,List.length_append];simp;omega
  have qH:=vF.alloc (.cells (zT x ja jb jc jd).toArray 78);have wL:=td.alloc (.cells (zT x ja jb jc jd).toArray 78);have jZ:=qz.alloc (.cells (zT x ja jb jc jd).toArray 78);have fK:=jV.alloc (.cells (zT x ja jb jc jd).toArray 78);go_wp2_with (at_builtin;refine zf ?_)
  refine vv rfl (.tmp 75) (.tmp 77) rfl (X+1) (.slice VA L.length vc) H5 _ rfl fK _ 1 _ (zT x ja jb jc jd) [x] rfl rfl (ItemsC.one Qd) (Src.new _ _ _ _ rfl _ rfl) (by have:=ss.out;simp;omega) jZ.lt fun v' w10 hO10 u4 hat10=>?_
  obtain⟨VA',vc',rfl,_⟩:=hO10.form;have tJ:=wL.grown u4 (fun e=>by have:=(lV.out _ e).1;have:=wg.out;omega);have dP:=jZ.grown u4 (fun e=>by have:=(lV.out _ e).1;omega);have mj:=pL qH.psr.holds lM hat10;have sy:=qH.grownRow lM (fun q hq=>by have:=(lV.out q hq).1;have:=wg.out;omega) yS u4;obtain⟨L',iV⟩:∃ L',L++[x]=L':=⟨_,rfl⟩
  rw[iV]at hO10 mj cI⊢;have jU:=Hh (show uf (zd d) n (l.drop p) cnt=(uf (zd d) m1 (l.drop (p+(k0+k))) c1).pre (L++[x]) (k0+k) by rw[sQ.out,iw L k0 Sg.out,List.drop_drop,← iZ.out,Nat.add_assoc]);rw[iV]at jU;have lJ:L.length+1=L'.length:=by rw[← iV];simp
  try rw[lJ]
  clear iV qH wL jZ fK u4 hat10 b0 b1 b2 b3 lJ;have KI:IntKind.u64.wrap ((i:Int)+1)=(i:Int)+1:=by rw[IntKind.wrap_u64];have:=Pe.out;omega
  rw[show P1+k=p+(k0+k) by have:=iZ.out;omega]at sy;have lL:=Hh ig;clear ig;go_wp2_with fail
  go_roundw
  case rel=>exact⟨i+1,H5,VA',vc',_,L',k0+k,c1,by first | rfl | (simp;done) | go_num,rfl,by have:=lL.out;omega,rfl,sy,tJ,pD,dP,ZC,hO10,mj,cI.out,by rw[VQ.out];exact jU.out⟩
  case measure=>have:=lL.out;simp[intOf];omega
 have hm:n=i:=by have:=rY.out;omega
 subst hm
 have E1:Hid (uG 4 d n (l.drop p) cnt=.ok (.mk 4 0 [] L) k0 cc):=by
  rw[Hid,fB.out,lI.out,Nat.sub_self,uf];simp[PL.pre,elR]
 obtain⟨H5,XL,Qc,uV,Vb,mN,mO,bg⟩:=vf.snap qD.psr.holds (fun q hq=>lY q (rW hq));have xe:∀ q,VA.map (·.block)=some q→X+1≤q:=fun q hq=>(vf.lt q (rW hq)).1
 have XO:H5 w.heap.size=none:=sJ uV uU (fun e=>by have:=xe _ e;have:=wg.out;omega);have UY:H5 X=none:=sJ uV i8 (fun e=>by have:=xe _ e;omega);have yf:Rdg 150 w H wr H5 g A c l (p+k0) cc:=qD.snap (B:=X+1) XL Qc uV xe (by have:=wg.out;omega) yS;have Qe:IsItem H5 none 0 VA vc (.mk 4 0 [] L):=IsRowI.item ⟨mN,mO,bg⟩ 4 (by omega) 0 (by have:=rK.out;omega);clear vf uV bg Qc XL uU i8 lY xe qD lI;go_wp2_with (with_reducible refine zx ?_)
 refine zr rfl _ _ _ rfl rfl X 3 (.slice VA L.length vc) rfl rfl _ _ eg ol (by simp) rfl fun w6 jY hg6=>?_
 have xp:=yf.gb UY (Nat.le_of_lt wg.out) yS hg6;have xx:=qg.grown hg6 (by intro e;injection e with e;have:=wg.out;omega);have b0:=jY.cell 0 rfl;have b1:=jY.cell 1 rfl;have b2:=jY.cell 2 rfl;have b3:=jY.cell 3 rfl;clear yf qg eg hg6;go_wp2_with (with_reducible refine zx ?_)
 refine stI xx fun wz hTy z8=>?_
 have yx:=xp.gb XO (Nat.le_refl _) yS z8;go_wp2_with fail
 refine zw rfl rfl hTy rfl rfl zp rfl ?_
 exact ItemOut.ok E1.out rfl yx Qe
theorem TS (ih:lD d) (hTab:Tabs H) (hlv:lv+1+d=8) (hn:n<18446744073709551616) (V9:0<l.length) (hP:Psr 150 w g H A c l p cnt):Calls Tryz.prog 114 #[.pointer (some ⟨g,0,none⟩),.int .i64 6,.int .u64 (n:Int),.int .i64 (lv:Int)] w (ItemOut 150 w H g A c l p (uG 6 d n (l.drop p) cnt)):=by
 have yS:=hP.gt;have zG:H w.heap.size=none:=hP.holds.none_of_ge (Nat.le_refl _);have oY:H (w.heap.size+1)=none:=hP.holds.none_of_ge (Nat.le_succ _);have ux:=((Rdg.refl hP).alloc zO).alloc zO;have u7:=(Blk.new w 78 #[.int .i64 0,.int .u64 0,.slice none 0 0,.slice none 0 0]).alloc zO;have rd:=Blk.new (w.alloc zO) 78 #[.int .i64 0,.int .u64 0,.slice none 0 0,.slice none 0 0];rw[show(w.alloc zO).heap.size=w.heap.size+1 by simp]at rd;have rK:=Hh hn;have lP:=Hh hP.small;have VP:=Hh hlv;have Lz:(lv:Int)≤8:=by omega
 have KLV:IntKind.i64.wrap ((lv:Int)+1)=(lv:Int)+1:=IntWalk.i64_in _ (by omega);have Pe:=Hh (show 1<18446744073709551616 by omega);have fB:Hid (uG 6 d n (l.drop p) cnt=elR 6 n (uf (zd d) 1 (l.drop p) cnt)):=by rw[Hid,uG,hU,if_neg (by omega),if_pos rfl,o1 (by omega)]
 clear hn;go_enter Tryz.func114,Tryz.ntmps114
 go_wp2_with (with_reducible refine zx ?_)
 refine stI rd fun w4 kL hg4=>?_
 have yU:=ux.grownRow (row:=some (w.heap.size+1)) (by rintro q ⟨⟩;exact oY) (by rintro q ⟨⟩;exact Nat.le_succ _) yS hg4;have yO:=u7.gr hg4 (by omega);clear ux u7 rd hg4;obtain⟨X,kE⟩:∃ X,w.heap.size+1=X:=⟨_,rfl⟩
 have wg:Hid (w.heap.size<X):=by rw[Hid];omega
 rw[kE]at kL oY⊢;clear kE;go_wp2_with (with_reducible refine zx ?_)
 refine zr rfl _ _ _ rfl rfl X 1 (.int .u64 (n:Int)) rfl rfl _ _ kL gl (by simp) rfl fun w4b hX4b hg4b=>?_
 have Lr:=yU.gb oY (Nat.le_of_lt wg.out) yS hg4b;have Ld:=yO.grown hg4b (by intro e;injection e with e;have:=wg.out;omega);have Lk:Blk w4b X 78 #[.int .i64 6,.int .u64 (n:Int),.slice none 0 0,.slice none 0 0]:=hX4b;clear yU yO kL hX4b hg4b;have yU:=Lr;have yO:=Ld;have kL:=Lk;clear Lr Ld Lk;go_wp2_with fail
 go_loopw [12,13,14] (fun v12 v13 v14 wr=>∃ (i:Nat) (Hr:Snap) (VA:Option Addr) (vc vn:Nat) (L:List Itm) (k0 cc:Nat) ,v14=.int .u64 (i:Int)∧v12=.slice VA vn vc∧i≤1∧vn=L.length∧
  Rdg 150 w H wr Hr g A c l (p+k0) cc∧Blk wr w.heap.size 78 #[.int .i64 0,.int .u64 0,.slice none 0 0,.slice none 0 0]∧Hr w.heap.size=none∧
  Blk wr X 78 #[.int .i64 6,.int .u64 (n:Int),.slice none 0 0,.slice none 0 0]∧Hr X=none∧OwnI wr (X+1) (.slice VA vn vc) Hr L∧(∀ q,(Value.slice VA vn vc).ownBlock=some q→Hr q=none)∧L.length≤cc∧
  uf (zd d) 1 (l.drop p) cnt=(uf (zd d) (1-i) (l.drop (p+k0)) cc).pre L k0) (fun _ _ v14 _=>1-(intOf v14).toNat)
 case atStart=>exact⟨0,H,none,0,0,[],0,cnt,rfl,rfl,Nat.zero_le _,rfl,yU,yO,zG,kL,oY,OwnI.nil _ _ H,by intro q hq;simp[Value.ownBlock]at hq,by simp,by rw[dI];rfl⟩
 case round =>
 clear yU yO kL;obtain⟨i,Hr,VA,vc,vn,L,k0,cc,rfl,rfl,Sq,rfl,qD,qg,uU,eg,i8,vf,lY,QX,jO⟩:=hrel;have lI:=Hh jO;have XA:=Hh QX;have rY:=Hh Sq
  
 clear jO QX Sq 
 by_cases yK:i<1
 ·obtain⟨m1,mQ⟩:∃ m1,1-i=m1+1:=⟨1-i-1,by omega⟩
  have VQ:=Hh (show 1-(i+1)=m1 by omega);have sQ:Hid (uf (zd d) 1 (l.drop p) cnt=(uf (zd d) (m1+1) (l.drop (p+k0)) cc).pre L k0):=by rw[Hid,lI.out,mQ]
  obtain⟨P1,fL⟩:∃ P1,p+k0=P1:=⟨_,rfl⟩
  have iZ:=Hh fL;rw[fL]at qD sQ;clear fL;have ig:(i:Int)<1:=by omega
  have IT:=ih wr Hr g A c l P1 cc (lv+1) (hTab.mono qD.grows.le) hlv qD.psr;rw[show((lv+1:Nat):Int)=(lv:Int)+1 by omega]at IT;have ITH:=Hh IT;clear mQ lI IT;go_wp2_with fail
  refine ITH.out.mono ?_
  intro e w5 hs
  cases hp:zd d (l.drop P1) cc with
  | err q =>
   rw[hp,ItemOut]at hs;obtain⟨rfl,H5,p5,cnt5,vr⟩:=hs;have pG:((q:Int) != 0)=true:=by rw[bne_iff_ne];have:=vA _ _ _ _ hp;omega
   have Rn:((q:Int)=0)=False:=eq_false (by have:=vA _ _ _ _ hp;omega);have E:Hid (uG 6 d n (l.drop p) cnt=.err q):=by rw[Hid,fB.out,sQ.out,kS L k0 hp];rfl
   have yf:=qD.trans vr;have yQ:=qg.rdg vr (by omega);have pD:=vr.hid uU qg.lt;have hY:=Blk.new w5 78 #[.int .i64 0,.int .u64 0,.slice none 0 0,.slice none 0 0];have Xt:H5 w5.heap.size=none:=yf.psr.holds.none_of_ge (Nat.le_refl _);have mY:=Hh yQ.lt;have xp:=yf.alloc zO;have xx:=yQ.alloc zO;clear ITH hp qD vr qg eg vf lY sQ XA yf yQ;go_wp2_with (with_reducible refine zx ?_)
   refine stI hY fun w8 hY8 hg8=>?_
   have vF:=xp.gb Xt (Nat.le_of_lt mY.out) yS hg8;have td:=xx.grown hg8 (by intro e;injection e with e;have:=mY.out;omega);clear xp xx hY hg8 hY8;go_wp2_with (with_reducible refine zx ?_)
   refine stI td fun wz hTy z8=>?_
   have yx:=vF.gb pD (Nat.le_refl _) yS z8;go_wp2_with fail
   refine zw rfl rfl hTy rfl rfl zp rfl ?_
   exact ItemOut.err E.out rfl yx
  | ok x k c1 =>
  rw[hp,ItemOut]at hs;obtain⟨ja,jb,jc,jd,H5,rfl,vr,Qd⟩:=hs;have Sc:=Hh (rD d _ _ _ _ _ hp);have yf:=qD.trans vr;have Fm:=yf.psr.cnt_le;have yQ:=qg.rdg vr (by omega);have pD:=vr.hid uU qg.lt;have jY:=eg.rdg vr (by have:=wg.out;omega);have ZC:=vr.hid i8 eg.lt;have qf:=(vf.rdg vr (by have:=wg.out;omega)).mono vr.grows.le;have lM:∀ q,(Value.slice VA L.length vc).ownBlock=some q→H5 q=none:=fun q hq=>vr.hid (lY q hq) (vf.lt q hq).2
  have RV:=Hh vr.grows.le;have hY:=Blk.new w5 78 #[.int .i64 0,.int .u64 0,.slice none 0 0,.slice none 0 0];have Xt:H5 w5.heap.size=none:=yf.psr.holds.none_of_ge (Nat.le_refl _);have mY:=Hh (And.intro yQ.lt jY.lt);have lV:=Hh (show ∀ q,(Value.slice VA L.length vc).ownBlock=some q→X+1≤q∧q<w5.heap.size from fun q hq=>qf.lt q hq);have xp:=yf.alloc zO;have xx:=yQ.alloc zO;have fS:=jY.alloc zO;have wY:=qf.alloc zO;have ss:=Hh (show L.length≤256 by have:=Sc.out;have:=XA.out;omega);have Sg:=Hh hp;clear ITH hp qD vr qg eg vf lY yf yQ jY qf;go_wp2_with (with_reducible refine zx ?_)
  refine stI hY fun w8 hY8 hg8=>?_
  have vF:=xp.gb Xt (Nat.le_of_lt mY.out.1) yS hg8;have td:=xx.grown hg8 (by intro e;injection e with e;have:=mY.out.1;omega);have qz:=fS.grown hg8 (by intro e;injection e with e;have:=mY.out.2;omega);have jV:=wY.kl hg8 (fun q hv=>by have:=(lV.out q hv).2;omega);obtain⟨Y1,QZ⟩:∃ Y1,w5.heap.size=Y1:=⟨_,rfl⟩
  rw[QZ]at hY8 mY Xt lV⊢;have b0:=hY8.cell 0 rfl;have b1:=hY8.cell 1 rfl;have b2:=hY8.cell 2 rfl;have b3:=hY8.cell 3 rfl;clear xp xx fS wY hY hg8 QZ
  have cI:Hid ((L++[x]).length≤c1):=by
   have:=Sc.out;have:=XA.out;rw[Hid,List.length_append];simp;omega
  have qH:=vF.alloc (.cells (zT x ja jb jc jd).toArray 78);have wL:=td.alloc (.cells (zT x ja jb jc jd).toArray 78);have jZ:=qz.alloc (.cells (zT x ja jb jc jd).toArray 78);have fK:=jV.alloc (.cells (zT x ja jb jc jd).toArray 78);go_wp2_with (at_builtin;refine zf ?_)
  refine vv rfl (.tmp 75) (.tmp 77) rfl (X+1) (.slice VA L.length vc) H5 _ rfl fK _ 1 _ (zT x ja jb jc jd) [x] rfl rfl (ItemsC.one Qd) (Src.new _ _ _ _ rfl _ rfl) (by have:=ss.out;simp;omega) jZ.lt fun v' w10 hO10 u4 hat10=>?_
  obtain⟨VA',vc',rfl,_⟩:=hO10.form;have tJ:=wL.grown u4 (fun e=>by have:=(lV.out _ e).1;have:=wg.out;omega);have dP:=jZ.grown u4 (fun e=>by have:=(lV.out _ e).1;omega);have mj:=pL qH.psr.holds lM hat10;have sy:=qH.grownRow lM (fun q hq=>by have:=(lV.out q hq).1;have:=wg.out;omega) yS u4;obtain⟨L',iV⟩:∃ L',L++[x]=L':=⟨_,rfl⟩
  rw[iV]at hO10 mj cI⊢;have jU:=Hh (show uf (zd d) 1 (l.drop p) cnt=(uf (zd d) m1 (l.drop (p+(k0+k))) c1).pre (L++[x]) (k0+k) by rw[sQ.out,iw L k0 Sg.out,List.drop_drop,← iZ.out,Nat.add_assoc]);rw[iV]at jU;have lJ:L.length+1=L'.length:=by rw[← iV];simp
  try rw[lJ]
  clear iV qH wL jZ fK u4 hat10 b0 b1 b2 b3 lJ;have KI:IntKind.u64.wrap ((i:Int)+1)=(i:Int)+1:=by rw[IntKind.wrap_u64];have:=Pe.out;omega
  rw[show P1+k=p+(k0+k) by have:=iZ.out;omega]at sy;have lL:=Hh ig;clear ig;go_wp2_with fail
  go_roundw
  case rel=>exact⟨i+1,H5,VA',vc',_,L',k0+k,c1,by first | rfl | (simp;done) | go_num,rfl,by have:=lL.out;omega,rfl,sy,tJ,pD,dP,ZC,hO10,mj,cI.out,by rw[VQ.out];exact jU.out⟩
  case measure=>have:=lL.out;simp[intOf];omega
 have hm:1=i:=by have:=rY.out;omega
 subst hm
 have E1:Hid (uG 6 d n (l.drop p) cnt=.ok (.mk 6 n [] L) k0 cc):=by
  rw[Hid,fB.out,lI.out,Nat.sub_self,uf];simp[PL.pre,elR]
 obtain⟨H5,XL,Qc,uV,Vb,mN,mO,bg⟩:=vf.snap qD.psr.holds (fun q hq=>lY q (rW hq));have xe:∀ q,VA.map (·.block)=some q→X+1≤q:=fun q hq=>(vf.lt q (rW hq)).1
 have XO:H5 w.heap.size=none:=sJ uV uU (fun e=>by have:=xe _ e;have:=wg.out;omega);have UY:H5 X=none:=sJ uV i8 (fun e=>by have:=xe _ e;omega);have yf:Rdg 150 w H wr H5 g A c l (p+k0) cc:=qD.snap (B:=X+1) XL Qc uV xe (by have:=wg.out;omega) yS;have Qe:IsItem H5 none 0 VA vc (.mk 6 n [] L):=IsRowI.item ⟨mN,mO,bg⟩ 6 (by omega) n (by have:=rK.out;omega);clear vf uV bg Qc XL uU i8 lY xe qD lI;go_wp2_with (with_reducible refine zx ?_)
 refine zr rfl _ _ _ rfl rfl X 3 (.slice VA L.length vc) rfl rfl _ _ eg ol (by simp) rfl fun w6 jY hg6=>?_
 have xp:=yf.gb UY (Nat.le_of_lt wg.out) yS hg6;have xx:=qg.grown hg6 (by intro e;injection e with e;have:=wg.out;omega);have b0:=jY.cell 0 rfl;have b1:=jY.cell 1 rfl;have b2:=jY.cell 2 rfl;have b3:=jY.cell 3 rfl;clear yf qg eg hg6;go_wp2_with (with_reducible refine zx ?_)
 refine stI xx fun wz hTy z8=>?_
 have yx:=xp.gb XO (Nat.le_refl _) yS z8;go_wp2_with fail
 refine zw rfl rfl hTy rfl rfl zp rfl ?_
 exact ItemOut.ok E1.out rfl yx Qe
end
section
variable {d:Nat} {w:World} {H:Snap} {g:Nat} {A:Option Addr} {c:Nat} {l:List UInt8} {p cnt lv n:Nat}
theorem TR (ih:lD d) (hTab:Tabs H) (hlv:lv+1+d=8) (hn:n<18446744073709551616) (V9:0<l.length) (hP:Psr 150 w g H A c l p cnt):Calls Tryz.prog 114 #[.pointer (some ⟨g,0,none⟩),.int .i64 5,.int .u64 (n:Int),.int .i64 (lv:Int)] w (ItemOut 150 w H g A c l p (uG 5 d n (l.drop p) cnt)):=by
 have yS:=hP.gt;have zG:H w.heap.size=none:=hP.holds.none_of_ge (Nat.le_refl _);have oY:H (w.heap.size+1)=none:=hP.holds.none_of_ge (Nat.le_succ _);have ux:=((Rdg.refl hP).alloc zO).alloc zO;have u7:=(Blk.new w 78 #[.int .i64 0,.int .u64 0,.slice none 0 0,.slice none 0 0]).alloc zO;have rd:=Blk.new (w.alloc zO) 78 #[.int .i64 0,.int .u64 0,.slice none 0 0,.slice none 0 0];rw[show(w.alloc zO).heap.size=w.heap.size+1 by simp]at rd;have rK:=Hh hn;have lP:=Hh hP.small;have VP:=Hh hlv;have Lz:(lv:Int)≤8:=by omega
 have KLV:IntKind.i64.wrap ((lv:Int)+1)=(lv:Int)+1:=IntWalk.i64_in _ (by omega);obtain⟨mn,Fy⟩:∃ mn,min n 4294967296=mn:=⟨_,rfl⟩
 obtain⟨N,hN⟩:∃ N,2*mn=N:=⟨_,rfl⟩
 have NN:min (n:Int) 4294967296=(mn:Int):=by omega
 have KN:IntKind.u64.wrap (2*(mn:Int))=(N:Int):=by rw[IntKind.wrap_u64];omega
 have Pe:=Hh (show N≤8589934592 by omega);have fB:Hid (uG 5 d n (l.drop p) cnt=elR 5 n (ve 5 (zd d) N true (l.drop p) cnt none)):=by rw[Hid,uG,hU,if_pos rfl,Fy,hN]
 clear Fy hN hn;go_enter Tryz.func114,Tryz.ntmps114
 go_wp2_with (with_reducible refine zx ?_)
 refine stI rd fun w4 kL hg4=>?_
 have yU:=ux.grownRow (row:=some (w.heap.size+1)) (by rintro q ⟨⟩;exact oY) (by rintro q ⟨⟩;exact Nat.le_succ _) yS hg4;have yO:=u7.gr hg4 (by omega);clear ux u7 rd hg4;obtain⟨X,kE⟩:∃ X,w.heap.size+1=X:=⟨_,rfl⟩
 have wg:Hid (w.heap.size<X):=by rw[Hid];omega
 rw[kE]at kL oY⊢;clear kE;go_wp2_with fail
 go_loopw [12,13,14] (fun v12 v13 v14 wr=>∃ (i:Nat) (Hr:Snap) (VA:Option Addr) (vc vn:Nat) (L:List Itm) (k0 cc:Nat) (last:Option (List UInt8)) (KB:Option Addr) (kn kc:Nat) ,v14=.int .u64 (i:Int)∧v12=.slice VA vn vc∧v13=.slice KB kn kc∧((i=0∧last=none)∨(0<i∧∃ key:List UInt8,last=some key∧kn=key.length∧key.length≤4096∧IsBytes Hr KB kc key))∧i≤N∧vn=L.length∧
  Rdg 150 w H wr Hr g A c l (p+k0) cc∧Blk wr w.heap.size 78 #[.int .i64 0,.int .u64 0,.slice none 0 0,.slice none 0 0]∧Hr w.heap.size=none∧
  Blk wr X 78 #[.int .i64 5,.int .u64 0,.slice none 0 0,.slice none 0 0]∧Hr X=none∧OwnI wr (X+1) (.slice VA vn vc) Hr L∧(∀ q,(Value.slice VA vn vc).ownBlock=some q→Hr q=none)∧L.length≤cc∧
  ve 5 (zd d) N true (l.drop p) cnt none=(ve 5 (zd d) (N-i) (decide (i%2=0)) (l.drop (p+k0)) cc last).pre L k0) (fun _ _ v14 _=>N-(intOf v14).toNat)
 case atStart=>exact⟨0,H,none,0,0,[],0,cnt,none,none,0,0,rfl,rfl,rfl,.inl ⟨rfl,rfl⟩,Nat.zero_le _,rfl,yU,yO,zG,kL,oY,OwnI.nil _ _ H,by intro q hq;simp[Value.ownBlock]at hq,by simp,by rw[dI];rfl⟩
 case round =>
 clear yU yO kL;obtain⟨i,Hr,VA,vc,vn,L,k0,cc,last,KB,kn,kc,rfl,rfl,rfl,jL,Sq,rfl,qD,qg,uU,eg,i8,vf,lY,QX,jO⟩:=hrel;have lI:=Hh jO;have XA:=Hh QX;have rY:=Hh Sq;have QF:=Hh jL;clear jO QX Sq jL
 by_cases yK:i<N
 ·obtain⟨m1,mQ⟩:∃ m1,N-i=m1+1:=⟨N-i-1,by omega⟩
  have VQ:=Hh (show N-(i+1)=m1 by omega);have sQ:Hid (ve 5 (zd d) N true (l.drop p) cnt none=(ve 5 (zd d) (m1+1) (decide (i%2=0)) (l.drop (p+k0)) cc last).pre L k0):=by rw[Hid,lI.out,mQ]
  obtain⟨P1,fL⟩:∃ P1,p+k0=P1:=⟨_,rfl⟩
  have iZ:=Hh fL;rw[fL]at qD sQ;clear fL;have ig:(i:Int)<(N:Int):=by omega
  have IT:=ih wr Hr g A c l P1 cc (lv+1) (hTab.mono qD.grows.le) hlv qD.psr;rw[show((lv+1:Nat):Int)=(lv:Int)+1 by omega]at IT;have ITH:=Hh IT;clear mQ lI IT;go_wp2_with fail
  refine ITH.out.mono ?_
  intro e w5 hs
  cases hp:zd d (l.drop P1) cc with
  | err q =>
   rw[hp,ItemOut]at hs;obtain⟨rfl,H5,p5,cnt5,vr⟩:=hs;have pG:((q:Int) != 0)=true:=by rw[bne_iff_ne];have:=vA _ _ _ _ hp;omega
   have Rn:((q:Int)=0)=False:=eq_false (by have:=vA _ _ _ _ hp;omega);have E:Hid (uG 5 d n (l.drop p) cnt=.err q):=by rw[Hid,fB.out,sQ.out,TF L k0 hp];rfl
   have yf:=qD.trans vr;have yQ:=qg.rdg vr (by omega);have pD:=vr.hid uU qg.lt;have hY:=Blk.new w5 78 #[.int .i64 0,.int .u64 0,.slice none 0 0,.slice none 0 0];have Xt:H5 w5.heap.size=none:=yf.psr.holds.none_of_ge (Nat.le_refl _);have mY:=Hh yQ.lt;have xp:=yf.alloc zO;have xx:=yQ.alloc zO;clear ITH hp qD vr qg eg vf lY sQ XA yf yQ;go_wp2_with (with_reducible refine zx ?_)
   refine stI hY fun w8 hY8 hg8=>?_
   have vF:=xp.gb Xt (Nat.le_of_lt mY.out) yS hg8;have td:=xx.grown hg8 (by intro e;injection e with e;have:=mY.out;omega);clear xp xx hY hg8 hY8;go_wp2_with (with_reducible refine zx ?_)
   refine stI td fun wz hTy z8=>?_
   have yx:=vF.gb pD (Nat.le_refl _) yS z8;go_wp2_with fail
   refine zw rfl rfl hTy rfl rfl zp rfl ?_
   exact ItemOut.err E.out rfl yx
  | ok x k c1 =>
  rw[hp,ItemOut]at hs;obtain⟨ja,jb,jc,jd,H5,rfl,vr,Qd⟩:=hs;have Sc:=Hh (rD d _ _ _ _ _ hp);have yf:=qD.trans vr;have Fm:=yf.psr.cnt_le;have yQ:=qg.rdg vr (by omega);have pD:=vr.hid uU qg.lt;have jY:=eg.rdg vr (by have:=wg.out;omega);have ZC:=vr.hid i8 eg.lt;have qf:=(vf.rdg vr (by have:=wg.out;omega)).mono vr.grows.le;have lM:∀ q,(Value.slice VA L.length vc).ownBlock=some q→H5 q=none:=fun q hq=>vr.hid (lY q hq) (vf.lt q hq).2
  have RV:=Hh vr.grows.le;have hY:=Blk.new w5 78 #[.int .i64 0,.int .u64 0,.slice none 0 0,.slice none 0 0];have Xt:H5 w5.heap.size=none:=yf.psr.holds.none_of_ge (Nat.le_refl _);have mY:=Hh (And.intro yQ.lt jY.lt);have lV:=Hh (show ∀ q,(Value.slice VA L.length vc).ownBlock=some q→X+1≤q∧q<w5.heap.size from fun q hq=>qf.lt q hq);have xp:=yf.alloc zO;have xx:=yQ.alloc zO;have fS:=jY.alloc zO;have wY:=qf.alloc zO;have ss:=Hh (show L.length≤256 by have:=Sc.out;have:=XA.out;omega);have Sg:=Hh hp;clear ITH hp qD vr qg eg vf lY yf yQ jY qf;go_wp2_with (with_reducible refine zx ?_)
  refine stI hY fun w8 hY8 hg8=>?_
  have vF:=xp.gb Xt (Nat.le_of_lt mY.out.1) yS hg8;have td:=xx.grown hg8 (by intro e;injection e with e;have:=mY.out.1;omega);have qz:=fS.grown hg8 (by intro e;injection e with e;have:=mY.out.2;omega);have jV:=wY.kl hg8 (fun q hv=>by have:=(lV.out q hv).2;omega);obtain⟨Y1,QZ⟩:∃ Y1,w5.heap.size=Y1:=⟨_,rfl⟩
  rw[QZ]at hY8 mY Xt lV⊢;have b0:=hY8.cell 0 rfl;have b1:=hY8.cell 1 rfl;have b2:=hY8.cell 2 rfl;have b3:=hY8.cell 3 rfl;clear xp xx fS wY hY hg8 QZ;have Nb:=Hh (lz d _ _ _ _ _ Sg.out)
  by_cases hev:i%2=0
  ·have ev1:((i:Int)%2==0)=true:=by rw[beq_iff_eq];omega
   have ev2:((i:Int)%2=0)=True:=eq_true (by omega);have ev3:((i:Int).tmod 2==0)=true:=by rw[beq_iff_eq,Int.tmod_eq_emod_of_nonneg (by omega)];omega
   have ev4:((i:Int).tmod 2=0)=True:=eq_true (by rw[Int.tmod_eq_emod_of_nonneg (by omega)];omega);have Xq:=Hh hev;obtain⟨key,Rg⟩:∃ key,(l.drop P1).take k=key:=⟨_,rfl⟩
   have UQ:=Hh Rg;have ik:Hid (key.length≤4096):=by rw[Hid,← Rg,List.length_take,List.length_drop];have:=lP.out;omega
   have LF:Hid (zX x=key):=by rw[Hid,← Rg];exact Nb.out.enc
   have RW0:=vW x H5 x.kind x.n ja x.bytes.length jb jc x.items.length jd w8 (lv+1) (Nb.out.good (lv+1) (by have:=VP.out;omega)) (by rw[LF.out];have:=ik.out;omega) Qd.arg vF.psr.holds;rw[LF.out]at RW0;have RW:=Hh RW0;clear hev Rg RW0;go_wp2_with fail
   refine RW.out.mono ?_
   rintro e w9 ⟨r,rfl,eh⟩
   obtain⟨KA,kac,rfl,_⟩:=eh.own.form;obtain⟨H6,zK,pW,_⟩:=Fresh.snapB vF.psr.holds eh;have dR:=vF.grown zK;have bf:=td.below eh.2;have Ra:=qz.below eh.2;have ZD:=hY8.below eh.2;have RX:=(jV.below eh.2).mono zK.le;have Ri:=zK.none pD td.lt;have QG:=zK.none ZC qz.lt;have Xm:∀ q,(Value.slice VA L.length vc).ownBlock=some q→H6 q=none:=fun q hq=>zK.none (lM q hq) (jV.lt q hq).2
   have Lx:=Qd.mono zK.le;have Gc:=Hh (RV.out.trans zK.le);clear RW eh zK vF td qz hY8 jV pD ZC lM b0 b1 b2 b3 Qd;have b0:=ZD.cell 0 rfl;have b1:=ZD.cell 1 rfl;have b2:=ZD.cell 2 rfl;have b3:=ZD.cell 3 rfl
   rcases QF.out with ⟨hiz,rfl⟩ | ⟨hi,lk,rfl,ej,sX,sP⟩
   ·have Ry:Hid (ms none ((l.drop P1).take k)=none):=rfl;have P9:¬ ((0:Int)<(i:Int)):=by omega
    have L4:decide ((0:Int)<(i:Int))=false:=decide_eq_false P9;clear hiz
    have cI:Hid ((L++[x]).length≤c1):=by
     have:=Sc.out;have:=XA.out;rw[Hid,List.length_append];simp;omega
    have qH:=dR.alloc (.cells (zT x ja jb jc jd).toArray 78);have wL:=bf.alloc (.cells (zT x ja jb jc jd).toArray 78);have jZ:=Ra.alloc (.cells (zT x ja jb jc jd).toArray 78);have fK:=RX.alloc (.cells (zT x ja jb jc jd).toArray 78);go_wp2_with (at_builtin;refine zf ?_)
    refine vv rfl (.tmp 75) (.tmp 77) rfl (X+1) (.slice VA L.length vc) H6 _ rfl fK _ 1 _ (zT x ja jb jc jd) [x] rfl rfl (ItemsC.one Lx) (Src.new _ _ _ _ rfl _ rfl) (by have:=ss.out;simp;omega) jZ.lt fun v' w10 hO10 u4 hat10=>?_
    obtain⟨VA',vc',rfl,_⟩:=hO10.form;have tJ:=wL.grown u4 (fun e=>by have:=(lV.out _ e).1;have:=wg.out;omega);have dP:=jZ.grown u4 (fun e=>by have:=(lV.out _ e).1;omega);have mj:=pL qH.psr.holds Xm hat10;have sy:=qH.grownRow Xm (fun q hq=>by have:=(lV.out q hq).1;have:=wg.out;omega) yS u4;obtain⟨L',iV⟩:∃ L',L++[x]=L':=⟨_,rfl⟩
    rw[iV]at hO10 mj cI⊢;have jU:=Hh (show ve 5 (zd d) N true (l.drop p) cnt none=(ve 5 (zd d) m1 (decide ((i+1)%2=0)) (l.drop (p+(k0+k))) c1 (some key)).pre (L++[x]) (k0+k) by rw[sQ.out,iz L k0 Sg.out rfl (by have:=Xq.out;simp;omega) Ry.out,List.drop_drop,UQ.out,← iZ.out,Nat.add_assoc,show decide ((i+1)%2=0)=false by have:=Xq.out;simp;omega]);rw[iV]at jU;have lJ:L.length+1=L'.length:=by rw[← iV];simp
    try rw[lJ]
    clear iV qH wL jZ fK u4 hat10 b0 b1 b2 b3 lJ;have KI:IntKind.u64.wrap ((i:Int)+1)=(i:Int)+1:=by rw[IntKind.wrap_u64];have:=Pe.out;omega
    rw[show P1+k=p+(k0+k) by have:=iZ.out;omega]at sy;have lL:=Hh ig;clear ig;go_wp2_with fail
    go_roundw
    case rel=>exact⟨i+1,H6,VA',vc',_,L',k0+k,c1,some key,KA,_,_,by first | rfl | (simp;done) | go_num,rfl,rfl,.inr ⟨by omega,key,rfl,rfl,ik.out,pW⟩,by have:=lL.out;omega,rfl,sy,tJ,Ri,dP,QG,hO10,mj,cI.out,by rw[VQ.out];exact jU.out⟩
    case measure=>have:=lL.out;simp[intOf];omega
   have P9:(0:Int)<(i:Int):=by omega
   have L4:decide ((0:Int)<(i:Int))=true:=decide_eq_true P9;have CM:=Hh (fun(W:World) (hW:Holds W H6)=>vT W KB KA lk key kn key.length kc kac ej rfl (by omega) (by have:=ik.out;omega) (Src.of_row (sP.mono Gc.out).row hW) (Src.of_row pW.row hW));obtain⟨q,hq⟩:∃ q,Lib.compareBytes lk key=q:=⟨_,rfl⟩
   rw[hq]at CM;have HQ:=Hh hq;clear ej sX sP hq
   by_cases pG:q=0
   ·subst pG
    have Ry:Hid (ms (some lk) ((l.drop P1).take k)=some 7):=by
     rw[Hid,UQ.out,ms,if_pos (by rw[(qR lk key).1 HQ.out];exact o0 key)]
    go_wp2_with fail
    refine(CM.out _ dR.psr.holds).mono ?_
    rintro e w10 ⟨rfl,xY⟩
    have dS:=dR.below_ xY;have ZA:=bf.below xY;have E:Hid (uG 5 d n (l.drop p) cnt=.err 7):=by rw[Hid,fB.out,sQ.out,ai L k0 Sg.out rfl (by have:=Xq.out;simp;omega) Ry.out];rfl
    go_wp2_with (with_reducible refine zx ?_)
    refine stI ZA fun wz hTy z8=>?_
    have yx:=dS.gb Ri (Nat.le_refl _) yS z8;go_wp2_with fail
    refine zw rfl rfl hTy rfl rfl zp rfl ?_
    exact ItemOut.err (q:=7) E.out rfl yx
   have t0:(q==0)=false:=by simpa using pG
   have t0':(q=0)=False:=eq_false pG
   by_cases dg:q<0
   ·have Ry:Hid (ms (some lk) ((l.drop P1).take k)=none):=by
     rw[Hid,UQ.out,ms,if_neg (fun h=>pG (by rw[← HQ.out,(qR key lk).1 h];exact o0 lk)),if_neg (fun h=>by
      have h1:=HQ.out;have h2:=du lk key lk (by omega) h;rw[o0]at h2
      omega)]
    have t1:¬ ((0:Int)<q):=by omega
    have t1':decide ((0:Int)<q)=false:=decide_eq_false t1;clear pG dg;go_wp2_with fail
    refine(CM.out _ dR.psr.holds).mono ?_
    rintro e w10 ⟨rfl,xY⟩
    have dS:=dR.below_ xY;have ZA:=bf.below xY;have Lj:=Ra.below xY;have Lm:=ZD.below xY;have Lb:=RX.below xY;clear dR bf Ra ZD RX xY b0 b1 b2 b3;go_wp2_with fail
    refine(CM.out _ dS.psr.holds).mono ?_
    rintro e w11 ⟨rfl,jz⟩
    have Oy:=dS.below_ jz;have Ou:=ZA.below jz;have Gi:=Lj.below jz;have Rb:=Lm.below jz;have Ge:=Lb.below jz;clear dS ZA Lj Lm Lb jz CM;have b0:=Rb.cell 0 rfl;have b1:=Rb.cell 1 rfl;have b2:=Rb.cell 2 rfl;have b3:=Rb.cell 3 rfl
    have cI:Hid ((L++[x]).length≤c1):=by
     have:=Sc.out;have:=XA.out;rw[Hid,List.length_append];simp;omega
    have qH:=Oy.alloc (.cells (zT x ja jb jc jd).toArray 78);have wL:=Ou.alloc (.cells (zT x ja jb jc jd).toArray 78);have jZ:=Gi.alloc (.cells (zT x ja jb jc jd).toArray 78);have fK:=Ge.alloc (.cells (zT x ja jb jc jd).toArray 78);go_wp2_with (at_builtin;refine zf ?_)
    refine vv rfl (.tmp 75) (.tmp 77) rfl (X+1) (.slice VA L.length vc) H6 _ rfl fK _ 1 _ (zT x ja jb jc jd) [x] rfl rfl (ItemsC.one Lx) (Src.new _ _ _ _ rfl _ rfl) (by have:=ss.out;simp;omega) jZ.lt fun v' w10 hO10 u4 hat10=>?_
    obtain⟨VA',vc',rfl,_⟩:=hO10.form;have tJ:=wL.grown u4 (fun e=>by have:=(lV.out _ e).1;have:=wg.out;omega);have dP:=jZ.grown u4 (fun e=>by have:=(lV.out _ e).1;omega);have mj:=pL qH.psr.holds Xm hat10;have sy:=qH.grownRow Xm (fun q hq=>by have:=(lV.out q hq).1;have:=wg.out;omega) yS u4;obtain⟨L',iV⟩:∃ L',L++[x]=L':=⟨_,rfl⟩
    rw[iV]at hO10 mj cI⊢;have jU:=Hh (show ve 5 (zd d) N true (l.drop p) cnt none=(ve 5 (zd d) m1 (decide ((i+1)%2=0)) (l.drop (p+(k0+k))) c1 (some key)).pre (L++[x]) (k0+k) by rw[sQ.out,iz L k0 Sg.out rfl (by have:=Xq.out;simp;omega) Ry.out,List.drop_drop,UQ.out,← iZ.out,Nat.add_assoc,show decide ((i+1)%2=0)=false by have:=Xq.out;simp;omega]);rw[iV]at jU;have lJ:L.length+1=L'.length:=by rw[← iV];simp
    try rw[lJ]
    clear iV qH wL jZ fK u4 hat10 b0 b1 b2 b3 lJ;have KI:IntKind.u64.wrap ((i:Int)+1)=(i:Int)+1:=by rw[IntKind.wrap_u64];have:=Pe.out;omega
    rw[show P1+k=p+(k0+k) by have:=iZ.out;omega]at sy;have lL:=Hh ig;clear ig;go_wp2_with fail
    go_roundw
    case rel=>exact⟨i+1,H6,VA',vc',_,L',k0+k,c1,some key,KA,_,_,by first | rfl | (simp;done) | go_num,rfl,rfl,.inr ⟨by omega,key,rfl,rfl,ik.out,pW⟩,by have:=lL.out;omega,rfl,sy,tJ,Ri,dP,QG,hO10,mj,cI.out,by rw[VQ.out];exact jU.out⟩
    case measure=>have:=lL.out;simp[intOf];omega
   have Ry:Hid (ms (some lk) ((l.drop P1).take k)=some 6):=by
    rw[Hid,UQ.out,ms,if_neg (fun h=>pG (by rw[← HQ.out,(qR key lk).1 h];exact o0 lk)),if_pos (d9 lk key (by rw[HQ.out];exact pG) (by rw[HQ.out];exact dg))]
   have t1:(0:Int)<q:=by omega
   have t1':decide ((0:Int)<q)=true:=decide_eq_true t1;clear pG dg;go_wp2_with fail
   refine(CM.out _ dR.psr.holds).mono ?_
   rintro e w10 ⟨rfl,xY⟩
   have dS:=dR.below_ xY;have ZA:=bf.below xY;clear dR bf Ra ZD RX xY b0 b1 b2 b3;go_wp2_with fail
   refine(CM.out _ dS.psr.holds).mono ?_
   rintro e w11 ⟨rfl,jz⟩
   have Oy:=dS.below_ jz;have Ou:=ZA.below jz;clear dS ZA jz CM;have E:Hid (uG 5 d n (l.drop p) cnt=.err 6):=by rw[Hid,fB.out,sQ.out,ai L k0 Sg.out rfl (by have:=Xq.out;simp;omega) Ry.out];rfl
   go_wp2_with (with_reducible refine zx ?_)
   refine stI Ou fun wz hTy z8=>?_
   have yx:=Oy.gb Ri (Nat.le_refl _) yS z8;go_wp2_with fail
   refine zw rfl rfl hTy rfl rfl zp rfl ?_
   exact ItemOut.err (q:=6) E.out rfl yx
  have ev1:((i:Int)%2==0)=false:=by rw[beq_eq_false_iff_ne];omega
  have ev2:((i:Int)%2=0)=False:=eq_false (by omega);have ev3:((i:Int).tmod 2==0)=false:=by rw[beq_eq_false_iff_ne,Int.tmod_eq_emod_of_nonneg (by omega)];omega
  have ev4:((i:Int).tmod 2=0)=False:=eq_false (by rw[Int.tmod_eq_emod_of_nonneg (by omega)];omega);have Xq:=Hh hev
  have O7:Hid ((i+1=0∧last=none)∨(0<i+1∧∃ key:List UInt8,last=some key∧kn=key.length∧key.length≤4096∧IsBytes H5 KB kc key)):=by
   rcases QF.out with ⟨hiz,_⟩ | ⟨hi,lk,e1,e2,e3,e4⟩
   ·exact absurd hiz (by omega)
   exact .inr ⟨by omega,lk,e1,e2,e3,e4.mono RV.out⟩
  clear hev
  have cI:Hid ((L++[x]).length≤c1):=by
   have:=Sc.out;have:=XA.out;rw[Hid,List.length_append];simp;omega
  have qH:=vF.alloc (.cells (zT x ja jb jc jd).toArray 78);have wL:=td.alloc (.cells (zT x ja jb jc jd).toArray 78);have jZ:=qz.alloc (.cells (zT x ja jb jc jd).toArray 78);have fK:=jV.alloc (.cells (zT x ja jb jc jd).toArray 78);go_wp2_with (at_builtin;refine zf ?_)
  refine vv rfl (.tmp 75) (.tmp 77) rfl (X+1) (.slice VA L.length vc) H5 _ rfl fK _ 1 _ (zT x ja jb jc jd) [x] rfl rfl (ItemsC.one Qd) (Src.new _ _ _ _ rfl _ rfl) (by have:=ss.out;simp;omega) jZ.lt fun v' w10 hO10 u4 hat10=>?_
  obtain⟨VA',vc',rfl,_⟩:=hO10.form;have tJ:=wL.grown u4 (fun e=>by have:=(lV.out _ e).1;have:=wg.out;omega);have dP:=jZ.grown u4 (fun e=>by have:=(lV.out _ e).1;omega);have mj:=pL qH.psr.holds lM hat10;have sy:=qH.grownRow lM (fun q hq=>by have:=(lV.out q hq).1;have:=wg.out;omega) yS u4;obtain⟨L',iV⟩:∃ L',L++[x]=L':=⟨_,rfl⟩
  rw[iV]at hO10 mj cI⊢;have jU:=Hh (show ve 5 (zd d) N true (l.drop p) cnt none=(ve 5 (zd d) m1 (decide ((i+1)%2=0)) (l.drop (p+(k0+k))) c1 last).pre (L++[x]) (k0+k) by rw[sQ.out,Qu L k0 Sg.out (by have:=Xq.out;simp;omega),List.drop_drop,← iZ.out,Nat.add_assoc,show decide (i%2=0)=false by have:=Xq.out;simp;omega,show decide ((i+1)%2=0)=true by have:=Xq.out;simp;omega];rfl);rw[iV]at jU;have lJ:L.length+1=L'.length:=by rw[← iV];simp
  try rw[lJ]
  clear iV qH wL jZ fK u4 hat10 b0 b1 b2 b3 lJ;have KI:IntKind.u64.wrap ((i:Int)+1)=(i:Int)+1:=by rw[IntKind.wrap_u64];have:=Pe.out;omega
  rw[show P1+k=p+(k0+k) by have:=iZ.out;omega]at sy;have lL:=Hh ig;clear ig;go_wp2_with fail
  go_roundw
  case rel=>exact⟨i+1,H5,VA',vc',_,L',k0+k,c1,last,KB,kn,kc,by first | rfl | (simp;done) | go_num,rfl,rfl,O7.out,by have:=lL.out;omega,rfl,sy,tJ,pD,dP,ZC,hO10,mj,cI.out,by rw[VQ.out];exact jU.out⟩
  case measure=>have:=lL.out;simp[intOf];omega
 have hm:N=i:=by have:=rY.out;omega
 subst hm
 have E1:Hid (uG 5 d n (l.drop p) cnt=.ok (.mk 5 0 [] L) k0 cc):=by
  rw[Hid,fB.out,lI.out,Nat.sub_self,ve];simp[PL.pre,elR]
 obtain⟨H5,XL,Qc,uV,Vb,mN,mO,bg⟩:=vf.snap qD.psr.holds (fun q hq=>lY q (rW hq));have xe:∀ q,VA.map (·.block)=some q→X+1≤q:=fun q hq=>(vf.lt q (rW hq)).1
 have XO:H5 w.heap.size=none:=sJ uV uU (fun e=>by have:=xe _ e;have:=wg.out;omega);have UY:H5 X=none:=sJ uV i8 (fun e=>by have:=xe _ e;omega);have yf:Rdg 150 w H wr H5 g A c l (p+k0) cc:=qD.snap (B:=X+1) XL Qc uV xe (by have:=wg.out;omega) yS;have Qe:IsItem H5 none 0 VA vc (.mk 5 0 [] L):=IsRowI.item ⟨mN,mO,bg⟩ 5 (by omega) 0 (by have:=rK.out;omega);clear vf uV bg Qc XL uU i8 lY xe qD lI;go_wp2_with (with_reducible refine zx ?_)
 refine zr rfl _ _ _ rfl rfl X 3 (.slice VA L.length vc) rfl rfl _ _ eg ol (by simp) rfl fun w6 jY hg6=>?_
 have xp:=yf.gb UY (Nat.le_of_lt wg.out) yS hg6;have xx:=qg.grown hg6 (by intro e;injection e with e;have:=wg.out;omega);have b0:=jY.cell 0 rfl;have b1:=jY.cell 1 rfl;have b2:=jY.cell 2 rfl;have b3:=jY.cell 3 rfl;clear yf qg eg hg6;go_wp2_with (with_reducible refine zx ?_)
 refine stI xx fun wz hTy z8=>?_
 have yx:=xp.gb XO (Nat.le_refl _) yS z8;go_wp2_with fail
 refine zw rfl rfl hTy rfl rfl zp rfl ?_
 exact ItemOut.ok E1.out rfl yx Qe
end
section
variable {d:Nat} {w:World} {H:Snap} {g:Nat} {A:Option Addr} {c:Nat} {l:List UInt8} {p cnt lv:Nat}
theorem bF (hTab:Tabs H) (hlv:lv+d=8) (hP:Psr 150 w g H A c l p cnt) (hc:cnt<256) (rv:p<l.length) {ch:UInt8}(nX:l[p]=ch) {low kd:Nat}(xe:ch.toNat%32=low) (mP:ch.toNat/32=kd) (ph:low≤27) (hk:kd=0):Calls Tryz.prog 99 #[.pointer (some ⟨g,0,none⟩),.int .i64 (lv:Int)] w (ItemOut 150 w H g A c l p (zd d (l.drop p) cnt)):=by
 have yS:=hP.gt;have ux:=(Rdg.refl hP).alloc zO;have u7:=Blk.new w 78 #[.int .i64 0,.int .u64 0,.slice none 0 0,.slice none 0 0];have zG:H w.heap.size=none:=hP.holds.none_of_ge (Nat.le_refl _);have c2:=ux.psr.blk.cell 2 rfl;have ED:=tB rv;rw[nX]at ED;subst hk
 have EH0:Hid (zc (l.drop p)=if 27<low then .error 3 else if low<24 then .ok (ch.toNat,low,1) else if(l.drop (p+1)).length<2 ^ (low-24) then .error 2
    else if ch.toNat/32<7∧(zj 0 (beN ((l.drop (p+1)).take (2 ^ (low-24))))).length≠1+2 ^ (low-24) then .error 4
    else .ok (ch.toNat,beN ((l.drop (p+1)).take (2 ^ (low-24))),1+2 ^ (low-24))):=by rw[Hid,ED,zc,xe]
 have z27:¬ ((27:Int)<(low:Int)):=by omega
 have z27b:decide ((27:Int)<(low:Int))=false:=decide_eq_false z27;have ij:=Hh ph;have VP:=Hh hlv;have lO:Hid (0<7):=by rw[Hid];omega
 clear ph ED;have z0:¬ (((l.length:Nat):Int)≤(p:Int)):=by omega
 have z0':decide (((l.length:Nat):Int)≤(p:Int))=false:=decide_eq_false z0;have Zi:(p:Int)<(l.length:Int):=by omega
 have kH:(0:Int)≤(p:Int):=by omega
 have kO:=hP.small;have K1:IntKind.i64.wrap ((p:Int)+1)=(p:Int)+1:=IntWalk.i64_in _ (by omega);obtain⟨b,off,rfl,xW⟩:=hP.bytes.at_ (by omega);have KA:=jJ ⟨ch.toNat,ch.toNat_lt⟩
 simp only at KA
 rw[xe]at KA;have S:(ch.toNat:Int)/32=0:=by omega
 have cM:=True.intro;have pk:(low:Int)≤31:=by omega
 have lC:=Hh xW;have yt:=Hh (And.intro xe (And.intro mP rv));have ZO:=Hh (show H.cell? ⟨b,off+p,none⟩=some (zg ch) by have h:=xW p rv;rw[nX]at h;exact h);clear xW xe mP kO nX;have vJ:¬ ((256:Int)≤(cnt:Int)):=by omega
 have uR:decide ((256:Int)≤(cnt:Int))=false:=decide_eq_false vJ;have KC:IntKind.i64.wrap ((cnt:Int)+1)=(cnt:Int)+1:=IntWalk.i64_in _ (by omega);have HC:=Hh hc;clear hc;go_enter Tryz.func99,Tryz.ntmps99
 go_wp2_with (with_reducible refine zx ?_)
 refine zr rfl _ _ _ rfl rfl g 2 (.int .i64 ((cnt:Int)+1)) rfl rfl _ _ ux.psr.blk yI (by simp) rfl fun w2 vE yY=>?_
 have us:Rdg 150 w H w2 H g _ c l p (cnt+1):=ux.step yY vE hP.le (by have:=HC.out;omega);have sM:=u7.gr yY (by omega);clear ux u7 vE yY c2 KC vJ uR;have mR:=us.psr.le;have a0:=us.psr.blk.cell 0 rfl;have a1:=us.psr.blk.cell 1 rfl;go_wp2_with fail
 go_big_quiet (fail)
 have tM:=us.drewN nq;have tK:Blk (w2.drewN nq) w.heap.size 78 #[.int .i64 0,.int .u64 0,.slice none 0 0,.slice none 0 0]:=sM
 generalize w2.drewN nq=w3 at tM tK⊢
 obtain⟨wU,un⟩:=And.intro tM tK;clear tM tK us sM a0 a1 mR;have a0:=wU.psr.blk.cell 0 rfl;have a1:=wU.psr.blk.cell 1 rfl;have q0:=wU.psr.holds.cell ZO.out;go_upto_region 6 with fail
 go_big_quiet (fail)
 have tN:=wU.drewN nq;have tL:Blk (w3.drewN nq) w.heap.size 78 #[.int .i64 0,.int .u64 0,.slice none 0 0,.slice none 0 0]:=un
 generalize w3.drewN nq=w4 at tN tL⊢
 obtain⟨sO,sN⟩:=And.intro tN tL;clear tN tL wU un a0 a1 q0;have a1:=sO.psr.blk.cell 1 rfl;go_wp2_with (with_reducible refine zx ?_)
 refine zr rfl _ _ _ rfl rfl g 1 (.int .i64 ((p:Int)+1)) rfl rfl _ _ sO.psr.blk yI (by simp) rfl fun w5 tF xC=>?_
 have yU:Rdg 150 w H w5 H g (some ⟨b,off,none⟩) c l (p+1) (cnt+1):=sO.step xC tF yt.out.2.2 (by have:=HC.out;omega);have yO:=sN.gr xC (by omega);clear sO sN tF xC a1 K1 z0 z0' Zi kH KA S;go_upto_region 12 with fail
 have KU:IntKind.u64.wrap (low:Int)=(low:Int):=by rw[IntKind.wrap_u64];omega
 go_upto_if 80 with fail
 go_cut [8] (fun s8 wx=>∃ n k:Nat,zc (l.drop p)=.ok (ch.toNat,n,k)∧s8=.int .u64 (n:Int)∧Rdg 150 w H wx H g (some ⟨b,off,none⟩) c l (p+k) (cnt+1)∧Blk wx w.heap.size 78 #[.int .i64 0,.int .u64 0,.slice none 0 0,.slice none 0 0])
 case first =>
  by_cases hl24:low<24
  ·have z24:¬ ((23:Int)<(low:Int)):=by omega
   have z24b:decide ((23:Int)<(low:Int))=false:=decide_eq_false z24;have EH:Hid (zc (l.drop p)=.ok (ch.toNat,low,1)):=by rw[Hid,EH0.out,if_neg (by have:=ij.out;omega),if_pos hl24]
   clear hl24;go_wp2_with fail
   go_meet
   exact⟨low,1,EH.out,rfl,yU,yO⟩
  have z24:(23:Int)<(low:Int):=by omega
  have EH:Hid (zc (l.drop p)=if(l.drop (p+1)).length<2 ^ (low-24) then .error 2
    else if ch.toNat/32<7∧(zj 0 (beN ((l.drop (p+1)).take (2 ^ (low-24))))).length≠1+2 ^ (low-24) then .error 4
    else .ok (ch.toNat,beN ((l.drop (p+1)).take (2 ^ (low-24))),1+2 ^ (low-24))):=by rw[Hid,EH0.out,if_neg (by have:=ij.out;omega),if_neg hl24]
  clear EH0
  rcases(by have:=ij.out;omega:low=24∨low=25∨low=26∨low=27) with rfl | rfl | rfl | rfl
  ·have NM:=Hh (yR yU.psr 1 (by omega) (by omega));have HD:=Hh (fun n hn w=>yW 0 ((n:Nat):Int) w (by omega) (by omega) (by omega) hn)
   simp only[Nat.reduceSub,Nat.reducePow,Nat.reduceAdd]at EH
   clear hl24 z24 pk z27 z27b KU;go_wp2_with fail
   refine NM.out.mono ?_
   rintro e w6 (⟨hs,rfl,yJ,zK⟩ | ⟨hs,rfl,yJ,zK⟩)
   ·have E:Hid (zd d (l.drop p) cnt=.err 2):=by
     have h1:zc (l.drop p)=.error 2:=by rw[EH.out,if_pos (by rw[List.length_drop];have:=yt.out.2.2;omega)]
     rw[Hid,zV d (l.drop p) cnt (by have:=HC.out;omega) h1]
    have yf:Rdg 150 w H w6 H g (some ⟨b,off,none⟩) c l (p+1) (cnt+1):=yU.step zK yJ yt.out.2.2 (by have:=HC.out;omega);have yQ:=yO.gr zK (by omega);clear NM HD hs yU yO yJ zK EH;go_wp2_with (with_reducible refine zx ?_)
    refine stI yQ fun wz hTy z8=>?_
    have yx:=yf.gb zG (Nat.le_refl _) yS z8;go_wp2_with fail
    refine zw rfl rfl hTy rfl rfl zp rfl ?_
    exact ItemOut.err E.out rfl yx
   have yf:Rdg 150 w H w6 H g (some ⟨b,off,none⟩) c l (p+1+1) (cnt+1):=yU.step zK yJ hs (by have:=HC.out;omega);have yQ:=yO.gr zK (by omega);have xP:=xX ((l.drop (p+1)).take 1);have x9:((l.drop (p+1)).take 1).length=1:=by rw[List.length_take,List.length_drop];omega
   rw[x9]at xP
   simp only[Nat.reducePow]at xP
   obtain⟨n,hn⟩:∃ n,beN ((l.drop (p+1)).take 1)=n:=⟨_,rfl⟩
   have EH2:Hid (zc (l.drop p)=if(zj 0 n).length≠2 then .error 4 else .ok (ch.toNat,n,2)):=by
    rw[Hid,EH.out,if_neg (by rw[List.length_drop];omega),hn];have:=lO.out;have:=yt.out.2.1
    by_cases h:(zj 0 n).length=2 <;> simp[h] <;> omega
   have uJ:=Hh (fun w=>HD.out n (by omega) w);rw[hn];have z6:(zj (0:Int).toNat (n:Int).toNat).length=(zj 0 n).length:=by rw[zi,zi];rfl
   obtain⟨fl,vj⟩:∃ fl,(zj 0 n).length=fl:=⟨_,rfl⟩
   rw[vj]at EH2 z6;have ss:=Hh z6;clear NM HD hs yU yO yJ zK EH hn x9 xP vj z6;go_wp2_with fail
   refine(uJ.out _).mono ?_
   rintro e w7 ⟨r,rfl,hf⟩
   have xp:=yf.below_ hf.2;have xx:=yQ.below hf.2;obtain⟨RA,rc,rfl,_⟩:=hf.own.form;rw[ss.out];clear hf uJ yf yQ
   by_cases hq:fl=2
   ·subst hq;have EH3:Hid (zc (l.drop p)=.ok (ch.toNat,n,2)):=by rw[Hid,EH2.out,if_neg (by simp)]
    clear EH2;go_wp2_with fail
    go_meet
    exact⟨n,2,EH3.out,rfl,by rw[show p+2=p+1+1 by omega];exact xp,xx⟩
   have zq:((fl:Int)==2)=false:=by simp;omega
   have zq2:((fl:Int)=2)=False:=eq_false (by omega)
   have E:Hid (zd d (l.drop p) cnt=.err 4):=by
    have h1:zc (l.drop p)=.error 4:=by rw[EH2.out,if_pos hq]
    rw[Hid,zV d (l.drop p) cnt (by have:=HC.out;omega) h1]
   clear EH2 hq;go_wp2_with (with_reducible refine zx ?_)
   refine stI xx fun wz hTy z8=>?_
   have yx:=xp.gb zG (Nat.le_refl _) yS z8;go_wp2_with fail
   refine zw rfl rfl hTy rfl rfl zp rfl ?_
   exact ItemOut.err E.out rfl yx
  ·have NM:=Hh (yR yU.psr 2 (by omega) (by omega));have HD:=Hh (fun n hn w=>yW 0 ((n:Nat):Int) w (by omega) (by omega) (by omega) hn)
   simp only[Nat.reduceSub,Nat.reducePow,Nat.reduceAdd]at EH
   clear hl24 z24 pk z27 z27b KU;go_wp2_with fail
   refine NM.out.mono ?_
   rintro e w6 (⟨hs,rfl,yJ,zK⟩ | ⟨hs,rfl,yJ,zK⟩)
   ·have E:Hid (zd d (l.drop p) cnt=.err 2):=by
     have h1:zc (l.drop p)=.error 2:=by rw[EH.out,if_pos (by rw[List.length_drop];have:=yt.out.2.2;omega)]
     rw[Hid,zV d (l.drop p) cnt (by have:=HC.out;omega) h1]
    have yf:Rdg 150 w H w6 H g (some ⟨b,off,none⟩) c l (p+1) (cnt+1):=yU.step zK yJ yt.out.2.2 (by have:=HC.out;omega);have yQ:=yO.gr zK (by omega);clear NM HD hs yU yO yJ zK EH;go_wp2_with (with_reducible refine zx ?_)
    refine stI yQ fun wz hTy z8=>?_
    have yx:=yf.gb zG (Nat.le_refl _) yS z8;go_wp2_with fail
    refine zw rfl rfl hTy rfl rfl zp rfl ?_
    exact ItemOut.err E.out rfl yx
   have yf:Rdg 150 w H w6 H g (some ⟨b,off,none⟩) c l (p+1+2) (cnt+1):=yU.step zK yJ hs (by have:=HC.out;omega);have yQ:=yO.gr zK (by omega);have xP:=xX ((l.drop (p+1)).take 2);have x9:((l.drop (p+1)).take 2).length=2:=by rw[List.length_take,List.length_drop];omega
   rw[x9]at xP
   simp only[Nat.reducePow]at xP
   obtain⟨n,hn⟩:∃ n,beN ((l.drop (p+1)).take 2)=n:=⟨_,rfl⟩
   have EH2:Hid (zc (l.drop p)=if(zj 0 n).length≠3 then .error 4 else .ok (ch.toNat,n,3)):=by
    rw[Hid,EH.out,if_neg (by rw[List.length_drop];omega),hn];have:=lO.out;have:=yt.out.2.1
    by_cases h:(zj 0 n).length=3 <;> simp[h] <;> omega
   have uJ:=Hh (fun w=>HD.out n (by omega) w);rw[hn];have z6:(zj (0:Int).toNat (n:Int).toNat).length=(zj 0 n).length:=by rw[zi,zi];rfl
   obtain⟨fl,vj⟩:∃ fl,(zj 0 n).length=fl:=⟨_,rfl⟩
   rw[vj]at EH2 z6;have ss:=Hh z6;clear NM HD hs yU yO yJ zK EH hn x9 xP vj z6;go_wp2_with fail
   refine(uJ.out _).mono ?_
   rintro e w7 ⟨r,rfl,hf⟩
   have xp:=yf.below_ hf.2;have xx:=yQ.below hf.2;obtain⟨RA,rc,rfl,_⟩:=hf.own.form;rw[ss.out];clear hf uJ yf yQ
   by_cases hq:fl=3
   ·subst hq;have EH3:Hid (zc (l.drop p)=.ok (ch.toNat,n,3)):=by rw[Hid,EH2.out,if_neg (by simp)]
    clear EH2;go_wp2_with fail
    go_meet
    exact⟨n,3,EH3.out,rfl,by rw[show p+3=p+1+2 by omega];exact xp,xx⟩
   have zq:((fl:Int)==3)=false:=by simp;omega
   have zq2:((fl:Int)=3)=False:=eq_false (by omega)
   have E:Hid (zd d (l.drop p) cnt=.err 4):=by
    have h1:zc (l.drop p)=.error 4:=by rw[EH2.out,if_pos hq]
    rw[Hid,zV d (l.drop p) cnt (by have:=HC.out;omega) h1]
   clear EH2 hq;go_wp2_with (with_reducible refine zx ?_)
   refine stI xx fun wz hTy z8=>?_
   have yx:=xp.gb zG (Nat.le_refl _) yS z8;go_wp2_with fail
   refine zw rfl rfl hTy rfl rfl zp rfl ?_
   exact ItemOut.err E.out rfl yx
  ·have NM:=Hh (yR yU.psr 4 (by omega) (by omega));have HD:=Hh (fun n hn w=>yW 0 ((n:Nat):Int) w (by omega) (by omega) (by omega) hn)
   simp only[Nat.reduceSub,Nat.reducePow,Nat.reduceAdd]at EH
   clear hl24 z24 pk z27 z27b KU;go_wp2_with fail
   refine NM.out.mono ?_
   rintro e w6 (⟨hs,rfl,yJ,zK⟩ | ⟨hs,rfl,yJ,zK⟩)
   ·have E:Hid (zd d (l.drop p) cnt=.err 2):=by
     have h1:zc (l.drop p)=.error 2:=by rw[EH.out,if_pos (by rw[List.length_drop];have:=yt.out.2.2;omega)]
     rw[Hid,zV d (l.drop p) cnt (by have:=HC.out;omega) h1]
    have yf:Rdg 150 w H w6 H g (some ⟨b,off,none⟩) c l (p+1) (cnt+1):=yU.step zK yJ yt.out.2.2 (by have:=HC.out;omega);have yQ:=yO.gr zK (by omega);clear NM HD hs yU yO yJ zK EH;go_wp2_with (with_reducible refine zx ?_)
    refine stI yQ fun wz hTy z8=>?_
    have yx:=yf.gb zG (Nat.le_refl _) yS z8;go_wp2_with fail
    refine zw rfl rfl hTy rfl rfl zp rfl ?_
    exact ItemOut.err E.out rfl yx
   have yf:Rdg 150 w H w6 H g (some ⟨b,off,none⟩) c l (p+1+4) (cnt+1):=yU.step zK yJ hs (by have:=HC.out;omega);have yQ:=yO.gr zK (by omega);have xP:=xX ((l.drop (p+1)).take 4);have x9:((l.drop (p+1)).take 4).length=4:=by rw[List.length_take,List.length_drop];omega
   rw[x9]at xP
   simp only[Nat.reducePow]at xP
   obtain⟨n,hn⟩:∃ n,beN ((l.drop (p+1)).take 4)=n:=⟨_,rfl⟩
   have EH2:Hid (zc (l.drop p)=if(zj 0 n).length≠5 then .error 4 else .ok (ch.toNat,n,5)):=by
    rw[Hid,EH.out,if_neg (by rw[List.length_drop];omega),hn];have:=lO.out;have:=yt.out.2.1
    by_cases h:(zj 0 n).length=5 <;> simp[h] <;> omega
   have uJ:=Hh (fun w=>HD.out n (by omega) w);rw[hn];have z6:(zj (0:Int).toNat (n:Int).toNat).length=(zj 0 n).length:=by rw[zi,zi];rfl
   obtain⟨fl,vj⟩:∃ fl,(zj 0 n).length=fl:=⟨_,rfl⟩
   rw[vj]at EH2 z6;have ss:=Hh z6;clear NM HD hs yU yO yJ zK EH hn x9 xP vj z6;go_wp2_with fail
   refine(uJ.out _).mono ?_
   rintro e w7 ⟨r,rfl,hf⟩
   have xp:=yf.below_ hf.2;have xx:=yQ.below hf.2;obtain⟨RA,rc,rfl,_⟩:=hf.own.form;rw[ss.out];clear hf uJ yf yQ
   by_cases hq:fl=5
   ·subst hq;have EH3:Hid (zc (l.drop p)=.ok (ch.toNat,n,5)):=by rw[Hid,EH2.out,if_neg (by simp)]
    clear EH2;go_wp2_with fail
    go_meet
    exact⟨n,5,EH3.out,rfl,by rw[show p+5=p+1+4 by omega];exact xp,xx⟩
   have zq:((fl:Int)==5)=false:=by simp;omega
   have zq2:((fl:Int)=5)=False:=eq_false (by omega)
   have E:Hid (zd d (l.drop p) cnt=.err 4):=by
    have h1:zc (l.drop p)=.error 4:=by rw[EH2.out,if_pos hq]
    rw[Hid,zV d (l.drop p) cnt (by have:=HC.out;omega) h1]
   clear EH2 hq;go_wp2_with (with_reducible refine zx ?_)
   refine stI xx fun wz hTy z8=>?_
   have yx:=xp.gb zG (Nat.le_refl _) yS z8;go_wp2_with fail
   refine zw rfl rfl hTy rfl rfl zp rfl ?_
   exact ItemOut.err E.out rfl yx
  have NM:=Hh (yR yU.psr 8 (by omega) (by omega));have HD:=Hh (fun n hn w=>yW 0 ((n:Nat):Int) w (by omega) (by omega) (by omega) hn)
  simp only[Nat.reduceSub,Nat.reducePow,Nat.reduceAdd]at EH
  clear hl24 z24 pk z27 z27b KU;go_wp2_with fail
  refine NM.out.mono ?_
  rintro e w6 (⟨hs,rfl,yJ,zK⟩ | ⟨hs,rfl,yJ,zK⟩)
  ·have E:Hid (zd d (l.drop p) cnt=.err 2):=by
    have h1:zc (l.drop p)=.error 2:=by rw[EH.out,if_pos (by rw[List.length_drop];have:=yt.out.2.2;omega)]
    rw[Hid,zV d (l.drop p) cnt (by have:=HC.out;omega) h1]
   have yf:Rdg 150 w H w6 H g (some ⟨b,off,none⟩) c l (p+1) (cnt+1):=yU.step zK yJ yt.out.2.2 (by have:=HC.out;omega);have yQ:=yO.gr zK (by omega);clear NM HD hs yU yO yJ zK EH;go_wp2_with (with_reducible refine zx ?_)
   refine stI yQ fun wz hTy z8=>?_
   have yx:=yf.gb zG (Nat.le_refl _) yS z8;go_wp2_with fail
   refine zw rfl rfl hTy rfl rfl zp rfl ?_
   exact ItemOut.err E.out rfl yx
  have yf:Rdg 150 w H w6 H g (some ⟨b,off,none⟩) c l (p+1+8) (cnt+1):=yU.step zK yJ hs (by have:=HC.out;omega);have yQ:=yO.gr zK (by omega);have xP:=xX ((l.drop (p+1)).take 8);have x9:((l.drop (p+1)).take 8).length=8:=by rw[List.length_take,List.length_drop];omega
  rw[x9]at xP
  simp only[Nat.reducePow]at xP
  obtain⟨n,hn⟩:∃ n,beN ((l.drop (p+1)).take 8)=n:=⟨_,rfl⟩
  have EH2:Hid (zc (l.drop p)=if(zj 0 n).length≠9 then .error 4 else .ok (ch.toNat,n,9)):=by
   rw[Hid,EH.out,if_neg (by rw[List.length_drop];omega),hn];have:=lO.out;have:=yt.out.2.1
   by_cases h:(zj 0 n).length=9 <;> simp[h] <;> omega
  have uJ:=Hh (fun w=>HD.out n (by omega) w);rw[hn];have z6:(zj (0:Int).toNat (n:Int).toNat).length=(zj 0 n).length:=by rw[zi,zi];rfl
  obtain⟨fl,vj⟩:∃ fl,(zj 0 n).length=fl:=⟨_,rfl⟩
  rw[vj]at EH2 z6;have ss:=Hh z6;clear NM HD hs yU yO yJ zK EH hn x9 xP vj z6;go_wp2_with fail
  refine(uJ.out _).mono ?_
  rintro e w7 ⟨r,rfl,hf⟩
  have xp:=yf.below_ hf.2;have xx:=yQ.below hf.2;obtain⟨RA,rc,rfl,_⟩:=hf.own.form;rw[ss.out];clear hf uJ yf yQ
  by_cases hq:fl=9
  ·subst hq;have EH3:Hid (zc (l.drop p)=.ok (ch.toNat,n,9)):=by rw[Hid,EH2.out,if_neg (by simp)]
   clear EH2;go_wp2_with fail
   go_meet
   exact⟨n,9,EH3.out,rfl,by rw[show p+9=p+1+8 by omega];exact xp,xx⟩
  have zq:((fl:Int)==9)=false:=by simp;omega
  have zq2:((fl:Int)=9)=False:=eq_false (by omega)
  have E:Hid (zd d (l.drop p) cnt=.err 4):=by
   have h1:zc (l.drop p)=.error 4:=by rw[EH2.out,if_pos hq]
   rw[Hid,zV d (l.drop p) cnt (by have:=HC.out;omega) h1]
  clear EH2 hq;go_wp2_with (with_reducible refine zx ?_)
  refine stI xx fun wz hTy z8=>?_
  have yx:=xp.gb zG (Nat.le_refl _) yS z8;go_wp2_with fail
  refine zw rfl rfl hTy rfl rfl zp rfl ?_
  exact ItemOut.err E.out rfl yx
 case rest =>
 obtain⟨n,k,hh,rfl,vF,td⟩:=hcut;have HF:=Hh (tI hh);have HH:=Hh hh;clear hh yU yO;have E:Hid (zd d (l.drop p) cnt=.ok (.mk 0 n [] []) k (cnt+1)):=by rw[Hid,eH d (l.drop p) cnt (by have:=HC.out;omega) HH.out (by have:=yt.out.2.1;omega),yt.out.2.1];rfl
 have I7:=Hh HF.out.n_lt;go_wp2_with (with_reducible refine zx ?_)
 refine stI td fun wz hTy z8=>?_
 have yx:=vF.gb zG (Nat.le_refl _) yS z8;go_wp2_with fail
 refine zw rfl rfl hTy rfl rfl zp rfl ?_
 exact ItemOut.ok (ja:=none) (jb:=0) (jc:=none) (jd:=0) E.out rfl yx (IsItem.plain _ 0 n (by omega) I7.out)
theorem bG (hTab:Tabs H) (hlv:lv+d=8) (hP:Psr 150 w g H A c l p cnt) (hc:cnt<256) (rv:p<l.length) {ch:UInt8}(nX:l[p]=ch) {low kd:Nat}(xe:ch.toNat%32=low) (mP:ch.toNat/32=kd) (ph:low≤27) (hk:kd=1):Calls Tryz.prog 99 #[.pointer (some ⟨g,0,none⟩),.int .i64 (lv:Int)] w (ItemOut 150 w H g A c l p (zd d (l.drop p) cnt)):=by
 have yS:=hP.gt;have ux:=(Rdg.refl hP).alloc zO;have u7:=Blk.new w 78 #[.int .i64 0,.int .u64 0,.slice none 0 0,.slice none 0 0];have zG:H w.heap.size=none:=hP.holds.none_of_ge (Nat.le_refl _);have c2:=ux.psr.blk.cell 2 rfl;have ED:=tB rv;rw[nX]at ED;subst hk
 have EH0:Hid (zc (l.drop p)=if 27<low then .error 3 else if low<24 then .ok (ch.toNat,low,1) else if(l.drop (p+1)).length<2 ^ (low-24) then .error 2
    else if ch.toNat/32<7∧(zj 0 (beN ((l.drop (p+1)).take (2 ^ (low-24))))).length≠1+2 ^ (low-24) then .error 4
    else .ok (ch.toNat,beN ((l.drop (p+1)).take (2 ^ (low-24))),1+2 ^ (low-24))):=by rw[Hid,ED,zc,xe]
 have z27:¬ ((27:Int)<(low:Int)):=by omega
 have z27b:decide ((27:Int)<(low:Int))=false:=decide_eq_false z27;have ij:=Hh ph;have VP:=Hh hlv;have lO:Hid (1<7):=by rw[Hid];omega
 clear ph ED;have z0:¬ (((l.length:Nat):Int)≤(p:Int)):=by omega
 have z0':decide (((l.length:Nat):Int)≤(p:Int))=false:=decide_eq_false z0;have Zi:(p:Int)<(l.length:Int):=by omega
 have kH:(0:Int)≤(p:Int):=by omega
 have kO:=hP.small;have K1:IntKind.i64.wrap ((p:Int)+1)=(p:Int)+1:=IntWalk.i64_in _ (by omega);obtain⟨b,off,rfl,xW⟩:=hP.bytes.at_ (by omega);have KA:=jJ ⟨ch.toNat,ch.toNat_lt⟩
 simp only at KA
 rw[xe]at KA;have S:(ch.toNat:Int)/32=1:=by omega
 have cM:=True.intro;have pk:(low:Int)≤31:=by omega
 have lC:=Hh xW;have yt:=Hh (And.intro xe (And.intro mP rv));have ZO:=Hh (show H.cell? ⟨b,off+p,none⟩=some (zg ch) by have h:=xW p rv;rw[nX]at h;exact h);clear xW xe mP kO nX;have vJ:¬ ((256:Int)≤(cnt:Int)):=by omega
 have uR:decide ((256:Int)≤(cnt:Int))=false:=decide_eq_false vJ;have KC:IntKind.i64.wrap ((cnt:Int)+1)=(cnt:Int)+1:=IntWalk.i64_in _ (by omega);have HC:=Hh hc;clear hc;go_enter Tryz.func99,Tryz.ntmps99
 go_wp2_with (with_reducible refine zx ?_)
 refine zr rfl _ _ _ rfl rfl g 2 (.int .i64 ((cnt:Int)+1)) rfl rfl _ _ ux.psr.blk yI (by simp) rfl fun w2 vE yY=>?_
 have us:Rdg 150 w H w2 H g _ c l p (cnt+1):=ux.step yY vE hP.le (by have:=HC.out;omega);have sM:=u7.gr yY (by omega);clear ux u7 vE yY c2 KC vJ uR;have mR:=us.psr.le;have a0:=us.psr.blk.cell 0 rfl;have a1:=us.psr.blk.cell 1 rfl;go_wp2_with fail
 go_big_quiet (fail)
 have tM:=us.drewN nq;have tK:Blk (w2.drewN nq) w.heap.size 78 #[.int .i64 0,.int .u64 0,.slice none 0 0,.slice none 0 0]:=sM
 generalize w2.drewN nq=w3 at tM tK⊢
 obtain⟨wU,un⟩:=And.intro tM tK;clear tM tK us sM a0 a1 mR;have a0:=wU.psr.blk.cell 0 rfl;have a1:=wU.psr.blk.cell 1 rfl;have q0:=wU.psr.holds.cell ZO.out;go_upto_region 6 with fail
 go_big_quiet (fail)
 have tN:=wU.drewN nq;have tL:Blk (w3.drewN nq) w.heap.size 78 #[.int .i64 0,.int .u64 0,.slice none 0 0,.slice none 0 0]:=un
 generalize w3.drewN nq=w4 at tN tL⊢
 obtain⟨sO,sN⟩:=And.intro tN tL;clear tN tL wU un a0 a1 q0;have a1:=sO.psr.blk.cell 1 rfl;go_wp2_with (with_reducible refine zx ?_)
 refine zr rfl _ _ _ rfl rfl g 1 (.int .i64 ((p:Int)+1)) rfl rfl _ _ sO.psr.blk yI (by simp) rfl fun w5 tF xC=>?_
 have yU:Rdg 150 w H w5 H g (some ⟨b,off,none⟩) c l (p+1) (cnt+1):=sO.step xC tF yt.out.2.2 (by have:=HC.out;omega);have yO:=sN.gr xC (by omega);clear sO sN tF xC a1 K1 z0 z0' Zi kH KA S;go_upto_region 12 with fail
 have KU:IntKind.u64.wrap (low:Int)=(low:Int):=by rw[IntKind.wrap_u64];omega
 go_upto_if 80 with fail
 go_cut [8] (fun s8 wx=>∃ n k:Nat,zc (l.drop p)=.ok (ch.toNat,n,k)∧s8=.int .u64 (n:Int)∧Rdg 150 w H wx H g (some ⟨b,off,none⟩) c l (p+k) (cnt+1)∧Blk wx w.heap.size 78 #[.int .i64 0,.int .u64 0,.slice none 0 0,.slice none 0 0])
 case first =>
  by_cases hl24:low<24
  ·have z24:¬ ((23:Int)<(low:Int)):=by omega
   have z24b:decide ((23:Int)<(low:Int))=false:=decide_eq_false z24;have EH:Hid (zc (l.drop p)=.ok (ch.toNat,low,1)):=by rw[Hid,EH0.out,if_neg (by have:=ij.out;omega),if_pos hl24]
   clear hl24;go_wp2_with fail
   go_meet
   exact⟨low,1,EH.out,rfl,yU,yO⟩
  have z24:(23:Int)<(low:Int):=by omega
  have EH:Hid (zc (l.drop p)=if(l.drop (p+1)).length<2 ^ (low-24) then .error 2
    else if ch.toNat/32<7∧(zj 0 (beN ((l.drop (p+1)).take (2 ^ (low-24))))).length≠1+2 ^ (low-24) then .error 4
    else .ok (ch.toNat,beN ((l.drop (p+1)).take (2 ^ (low-24))),1+2 ^ (low-24))):=by rw[Hid,EH0.out,if_neg (by have:=ij.out;omega),if_neg hl24]
  clear EH0
  rcases(by have:=ij.out;omega:low=24∨low=25∨low=26∨low=27) with rfl | rfl | rfl | rfl
  ·have NM:=Hh (yR yU.psr 1 (by omega) (by omega));have HD:=Hh (fun n hn w=>yW 1 ((n:Nat):Int) w (by omega) (by omega) (by omega) hn)
   simp only[Nat.reduceSub,Nat.reducePow,Nat.reduceAdd]at EH
   clear hl24 z24 pk z27 z27b KU;go_wp2_with fail
   refine NM.out.mono ?_
   rintro e w6 (⟨hs,rfl,yJ,zK⟩ | ⟨hs,rfl,yJ,zK⟩)
   ·have E:Hid (zd d (l.drop p) cnt=.err 2):=by
     have h1:zc (l.drop p)=.error 2:=by rw[EH.out,if_pos (by rw[List.length_drop];have:=yt.out.2.2;omega)]
     rw[Hid,zV d (l.drop p) cnt (by have:=HC.out;omega) h1]
    have yf:Rdg 150 w H w6 H g (some ⟨b,off,none⟩) c l (p+1) (cnt+1):=yU.step zK yJ yt.out.2.2 (by have:=HC.out;omega);have yQ:=yO.gr zK (by omega);clear NM HD hs yU yO yJ zK EH;go_wp2_with (with_reducible refine zx ?_)
    refine stI yQ fun wz hTy z8=>?_
    have yx:=yf.gb zG (Nat.le_refl _) yS z8;go_wp2_with fail
    refine zw rfl rfl hTy rfl rfl zp rfl ?_
    exact ItemOut.err E.out rfl yx
   have yf:Rdg 150 w H w6 H g (some ⟨b,off,none⟩) c l (p+1+1) (cnt+1):=yU.step zK yJ hs (by have:=HC.out;omega);have yQ:=yO.gr zK (by omega);have xP:=xX ((l.drop (p+1)).take 1);have x9:((l.drop (p+1)).take 1).length=1:=by rw[List.length_take,List.length_drop];omega
   rw[x9]at xP
   simp only[Nat.reducePow]at xP
   obtain⟨n,hn⟩:∃ n,beN ((l.drop (p+1)).take 1)=n:=⟨_,rfl⟩
   have EH2:Hid (zc (l.drop p)=if(zj 0 n).length≠2 then .error 4 else .ok (ch.toNat,n,2)):=by
    rw[Hid,EH.out,if_neg (by rw[List.length_drop];omega),hn];have:=lO.out;have:=yt.out.2.1
    by_cases h:(zj 0 n).length=2 <;> simp[h] <;> omega
   have uJ:=Hh (fun w=>HD.out n (by omega) w);rw[hn];have z6:(zj (1:Int).toNat (n:Int).toNat).length=(zj 0 n).length:=by rw[zi,zi];rfl
   obtain⟨fl,vj⟩:∃ fl,(zj 0 n).length=fl:=⟨_,rfl⟩
   rw[vj]at EH2 z6;have ss:=Hh z6;clear NM HD hs yU yO yJ zK EH hn x9 xP vj z6;go_wp2_with fail
   refine(uJ.out _).mono ?_
   rintro e w7 ⟨r,rfl,hf⟩
   have xp:=yf.below_ hf.2;have xx:=yQ.below hf.2;obtain⟨RA,rc,rfl,_⟩:=hf.own.form;rw[ss.out];clear hf uJ yf yQ
   by_cases hq:fl=2
   ·subst hq;have EH3:Hid (zc (l.drop p)=.ok (ch.toNat,n,2)):=by rw[Hid,EH2.out,if_neg (by simp)]
    clear EH2;go_wp2_with fail
    go_meet
    exact⟨n,2,EH3.out,rfl,by rw[show p+2=p+1+1 by omega];exact xp,xx⟩
   have zq:((fl:Int)==2)=false:=by simp;omega
   have zq2:((fl:Int)=2)=False:=eq_false (by omega)
   have E:Hid (zd d (l.drop p) cnt=.err 4):=by
    have h1:zc (l.drop p)=.error 4:=by rw[EH2.out,if_pos hq]
    rw[Hid,zV d (l.drop p) cnt (by have:=HC.out;omega) h1]
   clear EH2 hq;go_wp2_with (with_reducible refine zx ?_)
   refine stI xx fun wz hTy z8=>?_
   have yx:=xp.gb zG (Nat.le_refl _) yS z8;go_wp2_with fail
   refine zw rfl rfl hTy rfl rfl zp rfl ?_
   exact ItemOut.err E.out rfl yx
  ·have NM:=Hh (yR yU.psr 2 (by omega) (by omega));have HD:=Hh (fun n hn w=>yW 1 ((n:Nat):Int) w (by omega) (by omega) (by omega) hn)
   simp only[Nat.reduceSub,Nat.reducePow,Nat.reduceAdd]at EH
   clear hl24 z24 pk z27 z27b KU;go_wp2_with fail
   refine NM.out.mono ?_
   rintro e w6 (⟨hs,rfl,yJ,zK⟩ | ⟨hs,rfl,yJ,zK⟩)
   ·have E:Hid (zd d (l.drop p) cnt=.err 2):=by
     have h1:zc (l.drop p)=.error 2:=by rw[EH.out,if_pos (by rw[List.length_drop];have:=yt.out.2.2;omega)]
     rw[Hid,zV d (l.drop p) cnt (by have:=HC.out;omega) h1]
    have yf:Rdg 150 w H w6 H g (some ⟨b,off,none⟩) c l (p+1) (cnt+1):=yU.step zK yJ yt.out.2.2 (by have:=HC.out;omega);have yQ:=yO.gr zK (by omega);clear NM HD hs yU yO yJ zK EH;go_wp2_with (with_reducible refine zx ?_)
    refine stI yQ fun wz hTy z8=>?_
    have yx:=yf.gb zG (Nat.le_refl _) yS z8;go_wp2_with fail
    refine zw rfl rfl hTy rfl rfl zp rfl ?_
    exact ItemOut.err E.out rfl yx
   have yf:Rdg 150 w H w6 H g (some ⟨b,off,none⟩) c l (p+1+2) (cnt+1):=yU.step zK yJ hs (by have:=HC.out;omega);have yQ:=yO.gr zK (by omega);have xP:=xX ((l.drop (p+1)).take 2);have x9:((l.drop (p+1)).take 2).length=2:=by rw[List.length_take,List.length_drop];omega
   rw[x9]at xP
   simp only[Nat.reducePow]at xP
   obtain⟨n,hn⟩:∃ n,beN ((l.drop (p+1)).take 2)=n:=⟨_,rfl⟩
   have EH2:Hid (zc (l.drop p)=if(zj 0 n).length≠3 then .error 4 else .ok (ch.toNat,n,3)):=by
    rw[Hid,EH.out,if_neg (by rw[List.length_drop];omega),hn];have:=lO.out;have:=yt.out.2.1
    by_cases h:(zj 0 n).length=3 <;> simp[h] <;> omega
   have uJ:=Hh (fun w=>HD.out n (by omega) w);rw[hn];have z6:(zj (1:Int).toNat (n:Int).toNat).length=(zj 0 n).length:=by rw[zi,zi];rfl
   obtain⟨fl,vj⟩:∃ fl,(zj 0 n).length=fl:=⟨_,rfl⟩
   rw[vj]at EH2 z6;have ss:=Hh z6;clear NM HD hs yU yO yJ zK EH hn x9 xP vj z6;go_wp2_with fail
   refine(uJ.out _).mono ?_
   rintro e w7 ⟨r,rfl,hf⟩
   have xp:=yf.below_ hf.2;have xx:=yQ.below hf.2;obtain⟨RA,rc,rfl,_⟩:=hf.own.form;rw[ss.out];clear hf uJ yf yQ
   by_cases hq:fl=3
   ·subst hq;have EH3:Hid (zc (l.drop p)=.ok (ch.toNat,n,3)):=by rw[Hid,EH2.out,if_neg (by simp)]
    clear EH2;go_wp2_with fail
    go_meet
    exact⟨n,3,EH3.out,rfl,by rw[show p+3=p+1+2 by omega];exact xp,xx⟩
   have zq:((fl:Int)==3)=false:=by simp;omega
   have zq2:((fl:Int)=3)=False:=eq_false (by omega)
   have E:Hid (zd d (l.drop p) cnt=.err 4):=by
    have h1:zc (l.drop p)=.error 4:=by rw[EH2.out,if_pos hq]
    rw[Hid,zV d (l.drop p) cnt (by have:=HC.out;omega) h1]
   clear EH2 hq;go_wp2_with (with_reducible refine zx ?_)
   refine stI xx fun wz hTy z8=>?_
   have yx:=xp.gb zG (Nat.le_refl _) yS z8;go_wp2_with fail
   refine zw rfl rfl hTy rfl rfl zp rfl ?_
   exact ItemOut.err E.out rfl yx
  ·have NM:=Hh (yR yU.psr 4 (by omega) (by omega));have HD:=Hh (fun n hn w=>yW 1 ((n:Nat):Int) w (by omega) (by omega) (by omega) hn)
   simp only[Nat.reduceSub,Nat.reducePow,Nat.reduceAdd]at EH
   clear hl24 z24 pk z27 z27b KU;go_wp2_with fail
   refine NM.out.mono ?_
   rintro e w6 (⟨hs,rfl,yJ,zK⟩ | ⟨hs,rfl,yJ,zK⟩)
   ·have E:Hid (zd d (l.drop p) cnt=.err 2):=by
     have h1:zc (l.drop p)=.error 2:=by rw[EH.out,if_pos (by rw[List.length_drop];have:=yt.out.2.2;omega)]
     rw[Hid,zV d (l.drop p) cnt (by have:=HC.out;omega) h1]
    have yf:Rdg 150 w H w6 H g (some ⟨b,off,none⟩) c l (p+1) (cnt+1):=yU.step zK yJ yt.out.2.2 (by have:=HC.out;omega);have yQ:=yO.gr zK (by omega);clear NM HD hs yU yO yJ zK EH;go_wp2_with (with_reducible refine zx ?_)
    refine stI yQ fun wz hTy z8=>?_
    have yx:=yf.gb zG (Nat.le_refl _) yS z8;go_wp2_with fail
    refine zw rfl rfl hTy rfl rfl zp rfl ?_
    exact ItemOut.err E.out rfl yx
   have yf:Rdg 150 w H w6 H g (some ⟨b,off,none⟩) c l (p+1+4) (cnt+1):=yU.step zK yJ hs (by have:=HC.out;omega);have yQ:=yO.gr zK (by omega);have xP:=xX ((l.drop (p+1)).take 4);have x9:((l.drop (p+1)).take 4).length=4:=by rw[List.length_take,List.length_drop];omega
   rw[x9]at xP
   simp only[Nat.reducePow]at xP
   obtain⟨n,hn⟩:∃ n,beN ((l.drop (p+1)).take 4)=n:=⟨_,rfl⟩
   have EH2:Hid (zc (l.drop p)=if(zj 0 n).length≠5 then .error 4 else .ok (ch.toNat,n,5)):=by
    rw[Hid,EH.out,if_neg (by rw[List.length_drop];omega),hn];have:=lO.out;have:=yt.out.2.1
    by_cases h:(zj 0 n).length=5 <;> simp[h] <;> omega
   have uJ:=Hh (fun w=>HD.out n (by omega) w);rw[hn];have z6:(zj (1:Int).toNat (n:Int).toNat).length=(zj 0 n).length:=by rw[zi,zi];rfl
   obtain⟨fl,vj⟩:∃ fl,(zj 0 n).length=fl:=⟨_,rfl⟩
   rw[vj]at EH2 z6;have ss:=Hh z6;clear NM HD hs yU yO yJ zK EH hn x9 xP vj z6;go_wp2_with fail
   refine(uJ.out _).mono ?_
   rintro e w7 ⟨r,rfl,hf⟩
   have xp:=yf.below_ hf.2;have xx:=yQ.below hf.2;obtain⟨RA,rc,rfl,_⟩:=hf.own.form;rw[ss.out];clear hf uJ yf yQ
   by_cases hq:fl=5
   ·subst hq;have EH3:Hid (zc (l.drop p)=.ok (ch.toNat,n,5)):=by rw[Hid,EH2.out,if_neg (by simp)]
    clear EH2;go_wp2_with fail
    go_meet
    exact⟨n,5,EH3.out,rfl,by rw[show p+5=p+1+4 by omega];exact xp,xx⟩
   have zq:((fl:Int)==5)=false:=by simp;omega
   have zq2:((fl:Int)=5)=False:=eq_false (by omega)
   have E:Hid (zd d (l.drop p) cnt=.err 4):=by
    have h1:zc (l.drop p)=.error 4:=by rw[EH2.out,if_pos hq]
    rw[Hid,zV d (l.drop p) cnt (by have:=HC.out;omega) h1]
   clear EH2 hq;go_wp2_with (with_reducible refine zx ?_)
   refine stI xx fun wz hTy z8=>?_
   have yx:=xp.gb zG (Nat.le_refl _) yS z8;go_wp2_with fail
   refine zw rfl rfl hTy rfl rfl zp rfl ?_
   exact ItemOut.err E.out rfl yx
  have NM:=Hh (yR yU.psr 8 (by omega) (by omega));have HD:=Hh (fun n hn w=>yW 1 ((n:Nat):Int) w (by omega) (by omega) (by omega) hn)
  simp only[Nat.reduceSub,Nat.reducePow,Nat.reduceAdd]at EH
  clear hl24 z24 pk z27 z27b KU;go_wp2_with fail
  refine NM.out.mono ?_
  rintro e w6 (⟨hs,rfl,yJ,zK⟩ | ⟨hs,rfl,yJ,zK⟩)
  ·have E:Hid (zd d (l.drop p) cnt=.err 2):=by
    have h1:zc (l.drop p)=.error 2:=by rw[EH.out,if_pos (by rw[List.length_drop];have:=yt.out.2.2;omega)]
    rw[Hid,zV d (l.drop p) cnt (by have:=HC.out;omega) h1]
   have yf:Rdg 150 w H w6 H g (some ⟨b,off,none⟩) c l (p+1) (cnt+1):=yU.step zK yJ yt.out.2.2 (by have:=HC.out;omega);have yQ:=yO.gr zK (by omega);clear NM HD hs yU yO yJ zK EH;go_wp2_with (with_reducible refine zx ?_)
   refine stI yQ fun wz hTy z8=>?_
   have yx:=yf.gb zG (Nat.le_refl _) yS z8;go_wp2_with fail
   refine zw rfl rfl hTy rfl rfl zp rfl ?_
   exact ItemOut.err E.out rfl yx
  have yf:Rdg 150 w H w6 H g (some ⟨b,off,none⟩) c l (p+1+8) (cnt+1):=yU.step zK yJ hs (by have:=HC.out;omega);have yQ:=yO.gr zK (by omega);have xP:=xX ((l.drop (p+1)).take 8);have x9:((l.drop (p+1)).take 8).length=8:=by rw[List.length_take,List.length_drop];omega
  rw[x9]at xP
  simp only[Nat.reducePow]at xP
  obtain⟨n,hn⟩:∃ n,beN ((l.drop (p+1)).take 8)=n:=⟨_,rfl⟩
  have EH2:Hid (zc (l.drop p)=if(zj 0 n).length≠9 then .error 4 else .ok (ch.toNat,n,9)):=by
   rw[Hid,EH.out,if_neg (by rw[List.length_drop];omega),hn];have:=lO.out;have:=yt.out.2.1
   by_cases h:(zj 0 n).length=9 <;> simp[h] <;> omega
  have uJ:=Hh (fun w=>HD.out n (by omega) w);rw[hn];have z6:(zj (1:Int).toNat (n:Int).toNat).length=(zj 0 n).length:=by rw[zi,zi];rfl
  obtain⟨fl,vj⟩:∃ fl,(zj 0 n).length=fl:=⟨_,rfl⟩
  rw[vj]at EH2 z6;have ss:=Hh z6;clear NM HD hs yU yO yJ zK EH hn x9 xP vj z6;go_wp2_with fail
  refine(uJ.out _).mono ?_
  rintro e w7 ⟨r,rfl,hf⟩
  have xp:=yf.below_ hf.2;have xx:=yQ.below hf.2;obtain⟨RA,rc,rfl,_⟩:=hf.own.form;rw[ss.out];clear hf uJ yf yQ
  by_cases hq:fl=9
  ·subst hq;have EH3:Hid (zc (l.drop p)=.ok (ch.toNat,n,9)):=by rw[Hid,EH2.out,if_neg (by simp)]
   clear EH2;go_wp2_with fail
   go_meet
   exact⟨n,9,EH3.out,rfl,by rw[show p+9=p+1+8 by omega];exact xp,xx⟩
  have zq:((fl:Int)==9)=false:=by simp;omega
  have zq2:((fl:Int)=9)=False:=eq_false (by omega)
  have E:Hid (zd d (l.drop p) cnt=.err 4):=by
   have h1:zc (l.drop p)=.error 4:=by rw[EH2.out,if_pos hq]
   rw[Hid,zV d (l.drop p) cnt (by have:=HC.out;omega) h1]
  clear EH2 hq;go_wp2_with (with_reducible refine zx ?_)
  refine stI xx fun wz hTy z8=>?_
  have yx:=xp.gb zG (Nat.le_refl _) yS z8;go_wp2_with fail
  refine zw rfl rfl hTy rfl rfl zp rfl ?_
  exact ItemOut.err E.out rfl yx
 case rest =>
 obtain⟨n,k,hh,rfl,vF,td⟩:=hcut;have HF:=Hh (tI hh);have HH:=Hh hh;clear hh yU yO;have E:Hid (zd d (l.drop p) cnt=.ok (.mk 1 n [] []) k (cnt+1)):=by rw[Hid,eH d (l.drop p) cnt (by have:=HC.out;omega) HH.out (by have:=yt.out.2.1;omega),yt.out.2.1];rfl
 have I7:=Hh HF.out.n_lt;go_wp2_with (with_reducible refine zx ?_)
 refine stI td fun wz hTy z8=>?_
 have yx:=vF.gb zG (Nat.le_refl _) yS z8;go_wp2_with fail
 refine zw rfl rfl hTy rfl rfl zp rfl ?_
 exact ItemOut.ok (ja:=none) (jb:=0) (jc:=none) (jd:=0) E.out rfl yx (IsItem.plain _ 1 n (by omega) I7.out)
end
end Go.Proofs.YtjpcnhncoidliaaGreatDoor
