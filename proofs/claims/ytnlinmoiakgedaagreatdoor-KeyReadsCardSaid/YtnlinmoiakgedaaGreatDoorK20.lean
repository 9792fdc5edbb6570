/- squeezed. Walks: the program's reader of ite -/
import Derived.Test.YtnlinmoiakgedaaGreatDoorK19
set_option linter.unusedVariables false
set_option linter.unusedSimpArgs false
set_option maxRecDepth 100000
set_option maxHeartbeats 6400000
namespace Go.Proofs.YtnlinmoiakgedaaGreatDoor
open Go.RowKit
theorem pK {b:List UInt8}{q:Nat}(h:zj b=.error q):q=2∨q=3∨q=4:=by
 cases b with
 | nil=>injection h with h;omega
 | cons f t =>
  simp only[zj]at h
  repeat' split at h
  all_goals first | (injection h with h;omega) | cases h
theorem kM {low n q:Nat}(h:yK low n=.error q):q=4:=by
 rw[yK]at h
 repeat' split at h
 all_goals first | (injection h with h;omega) | cases h
theorem fH {low n:Nat}{x:Itm}(h:yK low n=.ok x):∃ kd m,x=.mk kd m [] []∧(kd=7∨kd=8):=by
 rw[yK]at h
 split at h
 ·injection h with h;exact⟨7,n,h.symm,.inl rfl⟩
 split at h
 ·split at h
  ·cases h
  ·injection h with h;exact⟨7,n,h.symm,.inl rfl⟩
 ·split at h
  ·cases h
  ·injection h with h;exact⟨8,_,h.symm,.inr rfl⟩
theorem dT {H:Snap}{b:List UInt8}{f n k:Nat}{x:Itm}(HS:HeadIs b f n k) (h:yK (f%32) n=.ok x):IsItem H none 0 none 0 x:=by
 have hx:x.n<18446744073709551616:=by
  have:=HS.low
  rcases Nat.lt_or_ge (f%32) 24 with hl | hl
  ·obtain⟨s1,s2,s3⟩:=HS.small hl
   exact(uX (low:=f%32) (t:=[]) (by omega) (fun _=>⟨s1,rfl⟩) (fun h=>by omega) h).2.2.1
  ·obtain⟨s1,t,s2,s3,s4⟩:=HS.wide hl
   exact(uX (low:=f%32) (t:=t) (by omega) (fun h=>by omega) (fun _=>⟨s2,s4⟩) h).2.2.1
 obtain⟨kd,m,rfl,hk⟩:=fH h
 exact IsItem.plain _ kd m (by omega) hx
section
variable {d:Nat} {w:World} {H:Snap} {g:Nat} {A:Option Addr} {c:Nat} {l:List UInt8} {p cnt lv:Nat}
theorem f7 (hTab:Tabs H) (hlv:lv+d=8) (hP:Psr 108 w g H A c l p cnt) (hc:cnt=256):Calls Tryz.prog 78 #[.pointer (some ⟨g,0,none⟩),.int .i64 (lv:Int)] w (ItemOut 108 w H g A c l p (zo d (l.drop p) cnt)):=by
 have zC:=hP.gt;have xg:=(Rdg.refl hP).alloc zr;have xC:=Blk.new w 26 #[.int .i64 0,.int .u64 0,.slice none 0 0,.slice none 0 0];have zQ:H w.heap.size=none:=hP.holds.none_of_ge (Nat.le_refl _);have c2:=xg.psr.blk.cell 2 rfl;have xi:((cnt:Int)==256)=true:=by simp;omega
 have xv:((cnt:Int)=256)=True:=eq_true (by omega);have E:=Hh (kJ d (l.drop p) cnt (by omega));clear hc;go_enter Tryz.func78,Tryz.ntmps78
 go_wp2_with (with_reducible refine zx ?_)
 refine stI xC fun wz hTy zU=>?_
 have zP:=xg.gb zQ (Nat.le_refl _) zC zU;go_wp2_with fail
 refine zv rfl rfl hTy rfl rfl zw rfl ?_
 exact ItemOut.err (q:=8) E.out rfl zP
theorem f8 (hTab:Tabs H) (hlv:lv+d=8) (hP:Psr 108 w g H A c l p cnt) (hc:cnt<256) {q:Nat}(hh:zj (l.drop p)=.error q):Calls Tryz.prog 78 #[.pointer (some ⟨g,0,none⟩),.int .i64 (lv:Int)] w (ItemOut 108 w H g A c l p (zo d (l.drop p) cnt)):=by
 have zC:=hP.gt;have xg:=(Rdg.refl hP).alloc zr;have xC:=Blk.new w 26 #[.int .i64 0,.int .u64 0,.slice none 0 0,.slice none 0 0];have zQ:H w.heap.size=none:=hP.holds.none_of_ge (Nat.le_refl _);have c2:=xg.psr.blk.cell 2 rfl;have E:=Hh (zY d (l.drop p) cnt (by omega) hh);have oA:((q:Int) != 0)=true:=by rw[bne_iff_ne];have:=pK hh;omega
 have mA:((q:Int)=0)=False:=eq_false (by have:=pK hh;omega);have xi:((cnt:Int)==256)=false:=by simp;omega
 have xv:((cnt:Int)=256)=False:=eq_false (by omega);have KC:IntKind.i64.wrap ((cnt:Int)+1)=(cnt:Int)+1:=IntWalk.i64_in _ (by omega);have HC:=Hh hc;clear hc;go_enter Tryz.func78,Tryz.ntmps78
 go_wp2_with (with_reducible refine zx ?_)
 refine zu rfl _ _ _ rfl rfl g 2 (.int .i64 ((cnt:Int)+1)) rfl rfl _ _ xg.psr.blk zE (by simp) rfl fun w2 yu yp=>?_
 have yv:Rdg 108 w H w2 H g A c l p (cnt+1):=xg.step yp yu hP.le (by have:=HC.out;omega);have xD:=xC.gr yp (by omega);have PH:=Hh (rb yv.psr);clear xg xC yu yp c2 KC xi xv;go_wp2_with fail
 refine PH.out.mono ?_
 intro e w3 hs
 rw[HeadSaid,hh]at hs;obtain⟨rfl,⟨p',gg,wO⟩,yO⟩:=hs;have yF:Rdg 108 w H w3 H g A c l p' (cnt+1):=yv.step yO wO gg (by have:=HC.out;omega);have xM:=xD.gr yO (by omega);clear yv xD wO yO PH hh;go_wp2_with (with_reducible refine zx ?_)
 refine stI xM fun wz hTy zU=>?_
 have zP:=yF.gb zQ (Nat.le_refl _) zC zU;go_wp2_with fail
 refine zv rfl rfl hTy rfl rfl zw rfl ?_
 exact ItemOut.err E.out rfl zP
theorem Y0 (hTab:Tabs H) (hlv:lv+d=8) (hP:Psr 108 w g H A c l p cnt) (hc:cnt<256) {f n k:Nat}(hh:zj (l.drop p)=.ok (f,n,k)) (hk:f/32=0):Calls Tryz.prog 78 #[.pointer (some ⟨g,0,none⟩),.int .i64 (lv:Int)] w (ItemOut 108 w H g A c l p (zo d (l.drop p) cnt)):=by
 have zC:=hP.gt;have xg:=(Rdg.refl hP).alloc zr;have xC:=Blk.new w 26 #[.int .i64 0,.int .u64 0,.slice none 0 0,.slice none 0 0];have zQ:H w.heap.size=none:=hP.holds.none_of_ge (Nat.le_refl _);have c2:=xg.psr.blk.cell 2 rfl;have E:Hid (zo d (l.drop p) cnt=.ok (.mk 0 n [] []) k (cnt+1)):=by rw[Hid,pN d (l.drop p) cnt (by omega) hh (by omega),hk];rfl
 have S:(f:Int)/32=0:=by omega
 have xi:((cnt:Int)==256)=false:=by simp;omega
 have xv:((cnt:Int)=256)=False:=eq_false (by omega);have KC:IntKind.i64.wrap ((cnt:Int)+1)=(cnt:Int)+1:=IntWalk.i64_in _ (by omega);have HC:=Hh hc;clear hc;go_enter Tryz.func78,Tryz.ntmps78
 go_wp2_with (with_reducible refine zx ?_)
 refine zu rfl _ _ _ rfl rfl g 2 (.int .i64 ((cnt:Int)+1)) rfl rfl _ _ xg.psr.blk zE (by simp) rfl fun w2 yu yp=>?_
 have yv:Rdg 108 w H w2 H g A c l p (cnt+1):=xg.step yp yu hP.le (by have:=HC.out;omega);have xD:=xC.gr yp (by omega);have PH:=Hh (rb yv.psr);clear xg xC yu yp c2 KC xi xv;go_wp2_with fail
 refine PH.out.mono ?_
 intro e w3 hs
 rw[HeadSaid,hh]at hs;obtain⟨rfl,wO,yO⟩:=hs;have HS:=xY hh;have tA:p+k≤l.length:=by have:=HS.le;rw[List.length_drop]at this;have:=hP.le;omega
 have yF:Rdg 108 w H w3 H g A c l (p+k) (cnt+1):=yv.step yO wO tA (by have:=HC.out;omega);have xM:=xD.gr yO (by omega);have HF:=Hh HS;clear yv xD wO yO PH HS hh;go_wp2_with (with_reducible refine zx ?_)
 refine stI xM fun wz hTy zU=>?_
 have zP:=yF.gb zQ (Nat.le_refl _) zC zU;go_wp2_with fail
 refine zv rfl rfl hTy rfl rfl zw rfl ?_
 exact ItemOut.ok (ja:=none) (jb:=0) (jc:=none) (jd:=0) E.out rfl zP (IsItem.plain _ 0 n (by omega) HF.out.n_lt)
theorem Y2 (hTab:Tabs H) (hlv:lv+d=8) (hP:Psr 108 w g H A c l p cnt) (hc:cnt<256) {f n k:Nat}(hh:zj (l.drop p)=.ok (f,n,k)) (hk:f/32=1):Calls Tryz.prog 78 #[.pointer (some ⟨g,0,none⟩),.int .i64 (lv:Int)] w (ItemOut 108 w H g A c l p (zo d (l.drop p) cnt)):=by
 have zC:=hP.gt;have xg:=(Rdg.refl hP).alloc zr;have xC:=Blk.new w 26 #[.int .i64 0,.int .u64 0,.slice none 0 0,.slice none 0 0];have zQ:H w.heap.size=none:=hP.holds.none_of_ge (Nat.le_refl _);have c2:=xg.psr.blk.cell 2 rfl;have E:Hid (zo d (l.drop p) cnt=.ok (.mk 1 n [] []) k (cnt+1)):=by rw[Hid,pN d (l.drop p) cnt (by omega) hh (by omega),hk];rfl
 have S:(f:Int)/32=1:=by omega
 have xi:((cnt:Int)==256)=false:=by simp;omega
 have xv:((cnt:Int)=256)=False:=eq_false (by omega);have KC:IntKind.i64.wrap ((cnt:Int)+1)=(cnt:Int)+1:=IntWalk.i64_in _ (by omega);have HC:=Hh hc;clear hc;go_enter Tryz.func78,Tryz.ntmps78
 go_wp2_with (with_reducible refine zx ?_)
 refine zu rfl _ _ _ rfl rfl g 2 (.int .i64 ((cnt:Int)+1)) rfl rfl _ _ xg.psr.blk zE (by simp) rfl fun w2 yu yp=>?_
 have yv:Rdg 108 w H w2 H g A c l p (cnt+1):=xg.step yp yu hP.le (by have:=HC.out;omega);have xD:=xC.gr yp (by omega);have PH:=Hh (rb yv.psr);clear xg xC yu yp c2 KC xi xv;go_wp2_with fail
 refine PH.out.mono ?_
 intro e w3 hs
 rw[HeadSaid,hh]at hs;obtain⟨rfl,wO,yO⟩:=hs;have HS:=xY hh;have tA:p+k≤l.length:=by have:=HS.le;rw[List.length_drop]at this;have:=hP.le;omega
 have yF:Rdg 108 w H w3 H g A c l (p+k) (cnt+1):=yv.step yO wO tA (by have:=HC.out;omega);have xM:=xD.gr yO (by omega);have HF:=Hh HS;clear yv xD wO yO PH HS hh;go_wp2_with (with_reducible refine zx ?_)
 refine stI xM fun wz hTy zU=>?_
 have zP:=yF.gb zQ (Nat.le_refl _) zC zU;go_wp2_with fail
 refine zv rfl rfl hTy rfl rfl zw rfl ?_
 exact ItemOut.ok (ja:=none) (jb:=0) (jc:=none) (jd:=0) E.out rfl zP (IsItem.plain _ 1 n (by omega) HF.out.n_lt)
theorem Y8 (hTab:Tabs H) (hlv:lv+d=8) (hP:Psr 108 w g H A c l p cnt) (hc:cnt<256) {f n k:Nat}(hh:zj (l.drop p)=.ok (f,n,k)) (hk:f/32=7):Calls Tryz.prog 78 #[.pointer (some ⟨g,0,none⟩),.int .i64 (lv:Int)] w (ItemOut 108 w H g A c l p (zo d (l.drop p) cnt)):=by
 have zC:=hP.gt;have xg:=(Rdg.refl hP).alloc zr;have xC:=Blk.new w 26 #[.int .i64 0,.int .u64 0,.slice none 0 0,.slice none 0 0];have zQ:H w.heap.size=none:=hP.holds.none_of_ge (Nat.le_refl _);have c2:=xg.psr.blk.cell 2 rfl;have E0:=Hh (pf d (l.drop p) cnt (by omega) hh hk);have S:(f:Int)/32=7:=by omega
 have xi:((cnt:Int)==256)=false:=by simp;omega
 have xv:((cnt:Int)=256)=False:=eq_false (by omega);have KC:IntKind.i64.wrap ((cnt:Int)+1)=(cnt:Int)+1:=IntWalk.i64_in _ (by omega);have HC:=Hh hc;clear hc;go_enter Tryz.func78,Tryz.ntmps78
 go_wp2_with (with_reducible refine zx ?_)
 refine zu rfl _ _ _ rfl rfl g 2 (.int .i64 ((cnt:Int)+1)) rfl rfl _ _ xg.psr.blk zE (by simp) rfl fun w2 yu yp=>?_
 have yv:Rdg 108 w H w2 H g A c l p (cnt+1):=xg.step yp yu hP.le (by have:=HC.out;omega);have xD:=xC.gr yp (by omega);have PH:=Hh (rb yv.psr);clear xg xC yu yp c2 KC xi xv;go_wp2_with fail
 refine PH.out.mono ?_
 intro e w3 hs
 rw[HeadSaid,hh]at hs;obtain⟨rfl,wO,yO⟩:=hs;have HS:=xY hh;have tA:p+k≤l.length:=by have:=HS.le;rw[List.length_drop]at this;have:=hP.le;omega
 have yF:Rdg 108 w H w3 H g A c l (p+k) (cnt+1):=yv.step yO wO tA (by have:=HC.out;omega);have xM:=xD.gr yO (by omega);have HF:=Hh HS;clear yv xD wO yO PH HS hh
 have SV:=Hh (fun w=>cR f n HF.out.f_lt HF.out.low HF.out.n_lt (by
  intro h25
  obtain⟨_,t,h1,_,h2⟩:=HF.out.wide (by omega);have:=xm t;rw[h1,h25]at this;rw[h2];simpa using this) (by
  intro h26
  obtain⟨_,t,h1,_,h2⟩:=HF.out.wide (by omega);have:=xm t;rw[h1,h26]at this;rw[h2];simpa using this) w)
 go_wp2_with fail
 refine(SV.out _).mono ?_
 intro e w4 hs
 obtain⟨iU,hs⟩:=hs;have xR:=yF.below_ iU;have xG:=xM.below iU;clear yF xM SV iU
 cases hsv:yK (f%32) n with
 | error q =>
  rw[hsv]at hs
  simp only at hs
  subst hs;have E:Hid (zo d (l.drop p) cnt=.err q):=by rw[Hid,E0.out,hsv]
  go_wp2_with (with_reducible refine zx ?_)
  refine stI xG fun wz hTy zU=>?_
  have zP:=xR.gb zQ (Nat.le_refl _) zC zU;go_wp2_with fail
  refine zv rfl rfl hTy rfl rfl zw rfl ?_
  exact ItemOut.err E.out rfl zP
 | ok x =>
  rw[hsv]at hs
  simp only at hs
  subst hs;have E:Hid (zo d (l.drop p) cnt=.ok x k (cnt+1)):=by rw[Hid,E0.out,hsv]
  have M9:IsItem H none 0 none 0 x:=dT HF.out hsv;clear hsv;go_wp2_with (with_reducible refine zx ?_)
  refine stI xG fun wz hTy zU=>?_
  have zP:=xR.gb zQ (Nat.le_refl _) zC zU;go_wp2_with fail
  refine zv rfl rfl hTy rfl rfl zw rfl ?_
  exact ItemOut.ok E.out rfl zP M9
theorem f5 (hTab:Tabs H) (hlv:lv=8) (hP:Psr 108 w g H A c l p cnt) (hc:cnt<256) {f n k:Nat}(hh:zj (l.drop p)=.ok (f,n,k)) (h4:4≤f/32) (h6:f/32≤6):Calls Tryz.prog 78 #[.pointer (some ⟨g,0,none⟩),.int .i64 (lv:Int)] w (ItemOut 108 w H g A c l p (zo 0 (l.drop p) cnt)):=by
 have zC:=hP.gt;have xg:=(Rdg.refl hP).alloc zr;have xC:=Blk.new w 26 #[.int .i64 0,.int .u64 0,.slice none 0 0,.slice none 0 0];have zQ:H w.heap.size=none:=hP.holds.none_of_ge (Nat.le_refl _);have c2:=xg.psr.blk.cell 2 rfl;have E:=Hh (kI (l.drop p) cnt (by omega) hh h4 h6);obtain⟨kd,pX⟩:∃ kd,f/32=kd:=⟨_,rfl⟩
 have S:(f:Int)/32=(kd:Int):=by omega
 have s0:((kd:Int)==0)=false:=by simp;omega
 have s1:((kd:Int)==1)=false:=by simp;omega
 have s2:((kd:Int)==2)=false:=by simp;omega
 have s3:((kd:Int)==3)=false:=by simp;omega
 have s7:((kd:Int)==7)=false:=by simp;omega
 have q0:((kd:Int)=0)=False:=eq_false (by omega);have q1:((kd:Int)=1)=False:=eq_false (by omega);have q2:((kd:Int)=2)=False:=eq_false (by omega);have q3:((kd:Int)=3)=False:=eq_false (by omega);have q7:((kd:Int)=7)=False:=eq_false (by omega);have Vc:(kd:Int)≤7:=by omega
 subst hlv;clear pX h4 h6;have xi:((cnt:Int)==256)=false:=by simp;omega
 have xv:((cnt:Int)=256)=False:=eq_false (by omega);have KC:IntKind.i64.wrap ((cnt:Int)+1)=(cnt:Int)+1:=IntWalk.i64_in _ (by omega);have HC:=Hh hc;clear hc;go_enter Tryz.func78,Tryz.ntmps78
 go_wp2_with (with_reducible refine zx ?_)
 refine zu rfl _ _ _ rfl rfl g 2 (.int .i64 ((cnt:Int)+1)) rfl rfl _ _ xg.psr.blk zE (by simp) rfl fun w2 yu yp=>?_
 have yv:Rdg 108 w H w2 H g A c l p (cnt+1):=xg.step yp yu hP.le (by have:=HC.out;omega);have xD:=xC.gr yp (by omega);have PH:=Hh (rb yv.psr);clear xg xC yu yp c2 KC xi xv;go_wp2_with fail
 refine PH.out.mono ?_
 intro e w3 hs
 rw[HeadSaid,hh]at hs;obtain⟨rfl,wO,yO⟩:=hs;have HS:=xY hh;have tA:p+k≤l.length:=by have:=HS.le;rw[List.length_drop]at this;have:=hP.le;omega
 have yF:Rdg 108 w H w3 H g A c l (p+k) (cnt+1):=yv.step yO wO tA (by have:=HC.out;omega);have xM:=xD.gr yO (by omega);have HF:=Hh HS;clear yv xD wO yO PH HS hh;go_wp2_with (with_reducible refine zx ?_)
 refine stI xM fun wz hTy zU=>?_
 have zP:=yF.gb zQ (Nat.le_refl _) zC zU;go_wp2_with fail
 refine zv rfl rfl hTy rfl rfl zw rfl ?_
 exact ItemOut.err E.out rfl zP
end
section
variable {d:Nat} {w:World} {H:Snap} {g:Nat} {A:Option Addr} {c:Nat} {l:List UInt8} {p cnt lv:Nat}
theorem IsItem.str {H:Snap}{B:Option Addr}{bc:Nat}{s:List UInt8}(k:Int) (hk:0≤k∧k≤8) (h:IsBytes H B bc s):IsItem H B bc none 0 (.mk k 0 s []):=by
 rw[IsItem]
 exact⟨⟨by omega,by omega,by omega,Nat.le_refl _,by omega⟩,h,fun h=>absurd h (by simp)⟩
theorem Y3 (hTab:Tabs H) (hlv:lv+d=8) (hP:Psr 108 w g H A c l p cnt) (hc:cnt<256) {f n k:Nat}(hh:zj (l.drop p)=.ok (f,n,k)) (hk:f/32=2):Calls Tryz.prog 78 #[.pointer (some ⟨g,0,none⟩),.int .i64 (lv:Int)] w (ItemOut 108 w H g A c l p (zo d (l.drop p) cnt)):=by
 have zC:=hP.gt;have xg:=(Rdg.refl hP).alloc zr;have xC:=Blk.new w 26 #[.int .i64 0,.int .u64 0,.slice none 0 0,.slice none 0 0];have zQ:H w.heap.size=none:=hP.holds.none_of_ge (Nat.le_refl _);have c2:=xg.psr.blk.cell 2 rfl
 have E0:Hid (zo d (l.drop p) cnt=(if(l.drop p).length<k+n then .err 2 else if 2=3∧Lib.validD (((l.drop p).drop k).take n)=false then .err 5 else .ok (.mk 2 0 (((l.drop p).drop k).take n) []) (k+n) (cnt+1))):=by
  rw[Hid,pO d (l.drop p) cnt (by omega) hh (by omega) (by omega),hk];first | rfl | (simp only[true_and];first | done | rfl) | simp
 have S:(f:Int)/32=2:=by omega
 have xi:((cnt:Int)==256)=false:=by simp;omega
 have xv:((cnt:Int)=256)=False:=eq_false (by omega);have KC:IntKind.i64.wrap ((cnt:Int)+1)=(cnt:Int)+1:=IntWalk.i64_in _ (by omega);have HC:=Hh hc;clear hc;go_enter Tryz.func78,Tryz.ntmps78
 go_wp2_with (with_reducible refine zx ?_)
 refine zu rfl _ _ _ rfl rfl g 2 (.int .i64 ((cnt:Int)+1)) rfl rfl _ _ xg.psr.blk zE (by simp) rfl fun w2 yu yp=>?_
 have yv:Rdg 108 w H w2 H g A c l p (cnt+1):=xg.step yp yu hP.le (by have:=HC.out;omega);have xD:=xC.gr yp (by omega);have PH:=Hh (rb yv.psr);clear xg xC yu yp c2 KC xi xv;go_wp2_with fail
 refine PH.out.mono ?_
 intro e w3 hs
 rw[HeadSaid,hh]at hs;obtain⟨rfl,wO,yO⟩:=hs;have HS:=xY hh;have tA:p+k≤l.length:=by have:=HS.le;rw[List.length_drop]at this;have:=hP.le;omega
 have yF:Rdg 108 w H w3 H g A c l (p+k) (cnt+1):=yv.step yO wO tA (by have:=HC.out;omega);have xM:=xD.gr yO (by omega);have HF:=Hh HS;clear yv xD wO yO PH HS hh;have yI:=HF.out.pos;obtain⟨b,off,rfl,xy⟩:=yF.psr.bytes.at_ (by omega);have qT:=yF.psr.small;have q8:=yF.psr.bytes.le;have pA:=yF.psr.bytes.max;have wy:=HF.out.n_lt;have bB:(l.drop p).length=l.length-p:=List.length_drop;obtain⟨P,iT⟩:∃ P,p+k=P:=⟨_,rfl⟩
 obtain⟨s,lU⟩:∃ s,((l.drop p).drop k).take n=s:=⟨_,rfl⟩
 rw[lU]at E0;rw[List.drop_drop,iT]at lU;rw[iT]at yF tA;have K1:IntKind.i64.wrap ((l.length:Int)-(P:Int))=(l.length:Int)-(P:Int):=IntWalk.i64_in _ (by omega);have K2:IntKind.u64.wrap ((l.length:Int)-(P:Int))=(l.length:Int)-(P:Int):=by rw[IntKind.wrap_u64];omega
 have a0:=yF.psr.blk.cell 0 rfl;have a1:=yF.psr.blk.cell 1 rfl;have Pd:(P:Int)≤(l.length:Int):=by omega
 have lp:(l.length:Int)≤4096:=by omega
 by_cases yi:l.length<P+n
 ·have z0:(l.length:Int)-(P:Int)<(n:Int):=by omega
  have E:Hid (zo d (l.drop p) cnt=.err 2):=by rw[Hid,E0.out,if_pos (by omega)]
  clear qT q8 pA wy bB iT lU E0 yi xy;go_wp2_with fail
  go_big_quiet (fail)
  have xR:=yF.drewN nq;have xG:Blk (w3.drewN nq) w.heap.size 26 #[.int .i64 0,.int .u64 0,.slice none 0 0,.slice none 0 0]:=xM;go_wp2_with (with_reducible refine zx ?_)
  refine stI xG fun wz hTy zU=>?_
  have zP:=xR.gb zQ (Nat.le_refl _) zC zU;go_wp2_with fail
  refine zv rfl rfl hTy rfl rfl zw rfl ?_
  exact ItemOut.err E.out rfl zP
 ·have z0:¬ ((l.length:Int)-(P:Int)<(n:Int)):=by omega
  have z0b:decide ((l.length:Int)-(P:Int)<(n:Int))=false:=decide_eq_false z0;have E1:Hid (zo d (l.drop p) cnt=(if 2=3∧Lib.validD s=false then .err 5 else .ok (.mk 2 0 s []) (k+n) (cnt+1))):=by rw[Hid,E0.out,if_neg (by omega)];try simp
  have Zf:n=s.length:=by rw[← lU,List.length_take,List.length_drop];omega
  have lJ:=Hh Zf;clear Zf;have KN:IntKind.i64.wrap (n:Int)=(n:Int):=IntWalk.i64_in _ (by omega);have KP:IntKind.i64.wrap ((P:Int)+(n:Int))=(P:Int)+(n:Int):=IntWalk.i64_in _ (by omega);have kt:((P:Int)+(n:Int)).toNat=P+n:=by omega
  have y0:(0:Int)≤(P:Int)+(n:Int):=by omega
  have y5:P≤P+n:=by omega
  have y6:P+n-P=n:=by omega
  have y1:(P:Int)≤(P:Int)+(n:Int):=by omega
  have y2:(P:Int)+(n:Int)≤(c:Int):=by omega
  have y3:(P:Int)≤(c:Int):=by omega
  have y4:(0:Int)≤(P:Int):=by omega
  have HK:=Hh (And.intro qT (And.intro q8 (And.intro pA iT)));go_wp2_with fail
  go_big_quiet (fail)
  have vD:=yF.drewN nq;have vC:Blk (w3.drewN nq) w.heap.size 26 #[.int .i64 0,.int .u64 0,.slice none 0 0,.slice none 0 0]:=xM
  generalize w3.drewN nq=w4 at vD vC⊢
  obtain⟨xR,xG⟩:=And.intro vD vC;clear vD vC yF xM a0 a1 E0 z0 z0b;have rQ:∀ j (hj:j<l.length),w4.cell? ⟨b,off+j,none⟩=some (zD l[j]):=fun j hj=>xR.psr.holds.cell (xy j hj)
  by_cases jZ:c=P
  ·have du:P=c:=jZ.symm;subst du;clear jZ;have qp:Rdg 108 w H w4.drew H g (some ⟨b,off,none⟩) P l P (cnt+1):=xR.drewN 1;have oT:Blk w4.drew w.heap.size 26 #[.int .i64 0,.int .u64 0,.slice none 0 0,.slice none 0 0]:=xG;have CL:=Hh (vV w4.drew (some ⟨b,off,none⟩) s n 0 lJ.out (by have:=lJ.out;omega) (by have hz:s=[]:=List.eq_nil_of_length_eq_zero (by have:=lJ.out;omega);rw[hz];exact Src.nil _ _));have a0:=xR.psr.blk.cell 0 rfl;have a1:=xR.psr.blk.cell 1 rfl;clear xR xG;go_upto_region 16 with fail
   refine zf 17 (fun w'=>w'.cell? ⟨g,0,none⟩=some (.slice (some ⟨b,off,none⟩) l.length P)∧w'.cell? ⟨g,1,none⟩=some (.int .i64 (P:Int))) (by kernel_rfl) (⟨a0,a1⟩) (fun zy=>?_)
   refine Tk 0 rfl zy ?_
   refine Tk 1 rfl zy ?_
   refine Tk 2 rfl zy ?_
   refine Tk 3 rfl zy ?_
   refine Tk 4 rfl zy ?_
   refine Tk 5 rfl zy ?_
   refine Tk 6 rfl zy ?_
   refine Tk 7 rfl zy ?_
   refine Tk 8 rfl zy ?_
   refine Tk 9 rfl zy ?_
   refine Tk 10 rfl zy ?_
   refine Tk 11 rfl zy ?_
   refine Tk 12 rfl zy ?_
   refine Tk 13 rfl zy ?_
   refine Tk 14 rfl zy ?_
   refine Tk 15 rfl zy ?_
   refine To 16 rfl fun K hK=>?_
   go_simp
   refine CL.out.mono ?_
   rintro e w5 ⟨r5,rfl,vT⟩
   obtain⟨RA,rc,rfl,_⟩:=vT.own.form;have yl:=qp.below_ vT.2
   refine hK.out _ _ (fun _=>?_) (fun zy=>?_)
   ·exact⟨yl.psr.blk.cell 0 rfl,yl.psr.blk.cell 1 rfl⟩
   clear hK K;have zy:=zy (by decide)
   try simp only[Act.put,zz1,zz2,zz3,zz4,zz5,zz6]
   refine To 17 rfl fun K hK=>?_
   go_simp
   refine hK.out _ _ (fun h=>absurd rfl h) (fun _=>?_)
   clear hK K
   try simp only[Act.put,zz1,zz2,zz3,zz4,zz5,zz6]
   refine Ways.done (by kernel_rfl) ?_
   clear zy CL a0 a1;have yh:=oT.below vT.2;obtain⟨H6,zJ,qI,_⟩:=Fresh.snapB qp.psr.holds vT;have zA:=qp.grown zJ;have td:=zJ.none zQ oT.lt;clear yl vT qp oT;have a1:=zA.psr.blk.cell 1 rfl;go_wp2_with (with_reducible refine zx ?_)
   refine zu rfl _ _ _ rfl rfl g 1 (.int .i64 ((P:Int)+(n:Int))) rfl rfl _ _ zA.psr.blk zE (by simp) rfl fun w7 rj wP=>?_
   have yG:Rdg 108 w H w7 H6 g (some ⟨b,off,none⟩) P l (P+n) (cnt+1):=zA.step wP rj (by omega) (by have:=HC.out;omega);have yL:=yh.gr wP (by omega);have sa:=td;clear zA yh rj wP a1;have E:Hid (zo d (l.drop p) cnt=.ok (.mk 2 0 s []) (k+n) (cnt+1)):=by rw[Hid,E1.out,if_neg (fun h=>absurd h.1 (by omega))]
   have IB:=qI;clear E1;go_wp2_with (with_reducible refine zx ?_)
   refine stI yL fun wz hTy zU=>?_
   have zP:=yG.gb sa (Nat.le_refl _) zC zU;go_wp2_with fail
   refine zv rfl rfl hTy rfl rfl zw rfl ?_
   exact ItemOut.ok E.out rfl (by rw[← Nat.add_assoc,HK.out.2.2.2];exact zP) (IsItem.str 2 (by omega) IB)
  ·have UP:(c=P)=False:=eq_false jZ;have qp:Rdg 108 w H w4.drew H g (some ⟨b,off,none⟩) c l P (cnt+1):=xR.drewN 1;have oT:Blk w4.drew w.heap.size 26 #[.int .i64 0,.int .u64 0,.slice none 0 0,.slice none 0 0]:=xG;have CL:=Hh (vV w4.drew (some ⟨b,off+P,none⟩) s n (c-P) lJ.out (by have:=lJ.out;omega) ((by have hq:=rt (w:=w4.drew) (n:=n) rQ P (some ⟨b,off+P,none⟩) (fun _=>rfl) (by omega);rw[lU]at hq;exact hq)));have a0:=xR.psr.blk.cell 0 rfl;have a1:=xR.psr.blk.cell 1 rfl;clear xR xG;go_upto_region 16 with fail
   refine zf 17 (fun w'=>w'.cell? ⟨g,0,none⟩=some (.slice (some ⟨b,off,none⟩) l.length c)∧w'.cell? ⟨g,1,none⟩=some (.int .i64 (P:Int))) (by kernel_rfl) (⟨a0,a1⟩) (fun zy=>?_)
   refine Tk 0 rfl zy ?_
   refine Tk 1 rfl zy ?_
   refine Tk 2 rfl zy ?_
   refine Tk 3 rfl zy ?_
   refine Tk 4 rfl zy ?_
   refine Tk 5 rfl zy ?_
   refine Tk 6 rfl zy ?_
   refine Tk 7 rfl zy ?_
   refine Tk 8 rfl zy ?_
   refine Tk 9 rfl zy ?_
   refine Tk 10 rfl zy ?_
   refine Tk 11 rfl zy ?_
   refine Tk 12 rfl zy ?_
   refine Tk 13 rfl zy ?_
   refine Tk 14 rfl zy ?_
   refine Tk 15 rfl zy ?_
   refine To 16 rfl fun K hK=>?_
   go_simp
   refine CL.out.mono ?_
   rintro e w5 ⟨r5,rfl,vT⟩
   obtain⟨RA,rc,rfl,_⟩:=vT.own.form;have yl:=qp.below_ vT.2
   refine hK.out _ _ (fun _=>?_) (fun zy=>?_)
   ·exact⟨yl.psr.blk.cell 0 rfl,yl.psr.blk.cell 1 rfl⟩
   clear hK K;have zy:=zy (by decide)
   try simp only[Act.put,zz1,zz2,zz3,zz4,zz5,zz6]
   refine To 17 rfl fun K hK=>?_
   go_simp
   refine hK.out _ _ (fun h=>absurd rfl h) (fun _=>?_)
   clear hK K
   try simp only[Act.put,zz1,zz2,zz3,zz4,zz5,zz6]
   refine Ways.done (by kernel_rfl) ?_
   clear zy CL a0 a1;have yh:=oT.below vT.2;obtain⟨H6,zJ,qI,_⟩:=Fresh.snapB qp.psr.holds vT;have zA:=qp.grown zJ;have td:=zJ.none zQ oT.lt;clear yl vT qp oT;have a1:=zA.psr.blk.cell 1 rfl;go_wp2_with (with_reducible refine zx ?_)
   refine zu rfl _ _ _ rfl rfl g 1 (.int .i64 ((P:Int)+(n:Int))) rfl rfl _ _ zA.psr.blk zE (by simp) rfl fun w7 rj wP=>?_
   have yG:Rdg 108 w H w7 H6 g (some ⟨b,off,none⟩) c l (P+n) (cnt+1):=zA.step wP rj (by omega) (by have:=HC.out;omega);have yL:=yh.gr wP (by omega);have sa:=td;clear zA yh rj wP a1;have E:Hid (zo d (l.drop p) cnt=.ok (.mk 2 0 s []) (k+n) (cnt+1)):=by rw[Hid,E1.out,if_neg (fun h=>absurd h.1 (by omega))]
   have IB:=qI;clear E1;go_wp2_with (with_reducible refine zx ?_)
   refine stI yL fun wz hTy zU=>?_
   have zP:=yG.gb sa (Nat.le_refl _) zC zU;go_wp2_with fail
   refine zv rfl rfl hTy rfl rfl zw rfl ?_
   exact ItemOut.ok E.out rfl (by rw[← Nat.add_assoc,HK.out.2.2.2];exact zP) (IsItem.str 2 (by omega) IB)
theorem Y4 (hTab:Tabs H) (hlv:lv+d=8) (hP:Psr 108 w g H A c l p cnt) (hc:cnt<256) {f n k:Nat}(hh:zj (l.drop p)=.ok (f,n,k)) (hk:f/32=3):Calls Tryz.prog 78 #[.pointer (some ⟨g,0,none⟩),.int .i64 (lv:Int)] w (ItemOut 108 w H g A c l p (zo d (l.drop p) cnt)):=by
 have zC:=hP.gt;have xg:=(Rdg.refl hP).alloc zr;have xC:=Blk.new w 26 #[.int .i64 0,.int .u64 0,.slice none 0 0,.slice none 0 0];have zQ:H w.heap.size=none:=hP.holds.none_of_ge (Nat.le_refl _);have c2:=xg.psr.blk.cell 2 rfl
 have E0:Hid (zo d (l.drop p) cnt=(if(l.drop p).length<k+n then .err 2 else if 3=3∧Lib.validD (((l.drop p).drop k).take n)=false then .err 5 else .ok (.mk 3 0 (((l.drop p).drop k).take n) []) (k+n) (cnt+1))):=by
  rw[Hid,pO d (l.drop p) cnt (by omega) hh (by omega) (by omega),hk];first | rfl | (simp only[true_and];first | done | rfl) | simp
 have S:(f:Int)/32=3:=by omega
 have xi:((cnt:Int)==256)=false:=by simp;omega
 have xv:((cnt:Int)=256)=False:=eq_false (by omega);have KC:IntKind.i64.wrap ((cnt:Int)+1)=(cnt:Int)+1:=IntWalk.i64_in _ (by omega);have HC:=Hh hc;clear hc;go_enter Tryz.func78,Tryz.ntmps78
 go_wp2_with (with_reducible refine zx ?_)
 refine zu rfl _ _ _ rfl rfl g 2 (.int .i64 ((cnt:Int)+1)) rfl rfl _ _ xg.psr.blk zE (by simp) rfl fun w2 yu yp=>?_
 have yv:Rdg 108 w H w2 H g A c l p (cnt+1):=xg.step yp yu hP.le (by have:=HC.out;omega);have xD:=xC.gr yp (by omega);have PH:=Hh (rb yv.psr);clear xg xC yu yp c2 KC xi xv;go_wp2_with fail
 refine PH.out.mono ?_
 intro e w3 hs
 rw[HeadSaid,hh]at hs;obtain⟨rfl,wO,yO⟩:=hs;have HS:=xY hh;have tA:p+k≤l.length:=by have:=HS.le;rw[List.length_drop]at this;have:=hP.le;omega
 have yF:Rdg 108 w H w3 H g A c l (p+k) (cnt+1):=yv.step yO wO tA (by have:=HC.out;omega);have xM:=xD.gr yO (by omega);have HF:=Hh HS;clear yv xD wO yO PH HS hh;have yI:=HF.out.pos;obtain⟨b,off,rfl,xy⟩:=yF.psr.bytes.at_ (by omega);have qT:=yF.psr.small;have q8:=yF.psr.bytes.le;have pA:=yF.psr.bytes.max;have wy:=HF.out.n_lt;have bB:(l.drop p).length=l.length-p:=List.length_drop;obtain⟨P,iT⟩:∃ P,p+k=P:=⟨_,rfl⟩
 obtain⟨s,lU⟩:∃ s,((l.drop p).drop k).take n=s:=⟨_,rfl⟩
 rw[lU]at E0;rw[List.drop_drop,iT]at lU;rw[iT]at yF tA;have K1:IntKind.i64.wrap ((l.length:Int)-(P:Int))=(l.length:Int)-(P:Int):=IntWalk.i64_in _ (by omega);have K2:IntKind.u64.wrap ((l.length:Int)-(P:Int))=(l.length:Int)-(P:Int):=by rw[IntKind.wrap_u64];omega
 have a0:=yF.psr.blk.cell 0 rfl;have a1:=yF.psr.blk.cell 1 rfl;have Pd:(P:Int)≤(l.length:Int):=by omega
 have lp:(l.length:Int)≤4096:=by omega
 by_cases yi:l.length<P+n
 ·have z0:(l.length:Int)-(P:Int)<(n:Int):=by omega
  have E:Hid (zo d (l.drop p) cnt=.err 2):=by rw[Hid,E0.out,if_pos (by omega)]
  clear qT q8 pA wy bB iT lU E0 yi xy;go_wp2_with fail
  go_big_quiet (fail)
  have xR:=yF.drewN nq;have xG:Blk (w3.drewN nq) w.heap.size 26 #[.int .i64 0,.int .u64 0,.slice none 0 0,.slice none 0 0]:=xM;go_wp2_with (with_reducible refine zx ?_)
  refine stI xG fun wz hTy zU=>?_
  have zP:=xR.gb zQ (Nat.le_refl _) zC zU;go_wp2_with fail
  refine zv rfl rfl hTy rfl rfl zw rfl ?_
  exact ItemOut.err E.out rfl zP
 ·have z0:¬ ((l.length:Int)-(P:Int)<(n:Int)):=by omega
  have z0b:decide ((l.length:Int)-(P:Int)<(n:Int))=false:=decide_eq_false z0;have E1:Hid (zo d (l.drop p) cnt=(if 3=3∧Lib.validD s=false then .err 5 else .ok (.mk 3 0 s []) (k+n) (cnt+1))):=by rw[Hid,E0.out,if_neg (by omega)];try simp
  have Zf:n=s.length:=by rw[← lU,List.length_take,List.length_drop];omega
  have lJ:=Hh Zf;clear Zf;have KN:IntKind.i64.wrap (n:Int)=(n:Int):=IntWalk.i64_in _ (by omega);have KP:IntKind.i64.wrap ((P:Int)+(n:Int))=(P:Int)+(n:Int):=IntWalk.i64_in _ (by omega);have kt:((P:Int)+(n:Int)).toNat=P+n:=by omega
  have y0:(0:Int)≤(P:Int)+(n:Int):=by omega
  have y5:P≤P+n:=by omega
  have y6:P+n-P=n:=by omega
  have y1:(P:Int)≤(P:Int)+(n:Int):=by omega
  have y2:(P:Int)+(n:Int)≤(c:Int):=by omega
  have y3:(P:Int)≤(c:Int):=by omega
  have y4:(0:Int)≤(P:Int):=by omega
  have HK:=Hh (And.intro qT (And.intro q8 (And.intro pA iT)));go_wp2_with fail
  go_big_quiet (fail)
  have vD:=yF.drewN nq;have vC:Blk (w3.drewN nq) w.heap.size 26 #[.int .i64 0,.int .u64 0,.slice none 0 0,.slice none 0 0]:=xM
  generalize w3.drewN nq=w4 at vD vC⊢
  obtain⟨xR,xG⟩:=And.intro vD vC;clear vD vC yF xM a0 a1 E0 z0 z0b;have rQ:∀ j (hj:j<l.length),w4.cell? ⟨b,off+j,none⟩=some (zD l[j]):=fun j hj=>xR.psr.holds.cell (xy j hj)
  by_cases jZ:c=P
  ·have du:P=c:=jZ.symm;subst du;clear jZ;have qp:Rdg 108 w H w4.drew H g (some ⟨b,off,none⟩) P l P (cnt+1):=xR.drewN 1;have oT:Blk w4.drew w.heap.size 26 #[.int .i64 0,.int .u64 0,.slice none 0 0,.slice none 0 0]:=xG;have CL:=Hh (vV w4.drew (some ⟨b,off,none⟩) s n 0 lJ.out (by have:=lJ.out;omega) (by have hz:s=[]:=List.eq_nil_of_length_eq_zero (by have:=lJ.out;omega);rw[hz];exact Src.nil _ _));have a0:=xR.psr.blk.cell 0 rfl;have a1:=xR.psr.blk.cell 1 rfl;clear xR xG;go_upto_region 16 with fail
   refine zf 17 (fun w'=>w'.cell? ⟨g,0,none⟩=some (.slice (some ⟨b,off,none⟩) l.length P)∧w'.cell? ⟨g,1,none⟩=some (.int .i64 (P:Int))) (by kernel_rfl) (⟨a0,a1⟩) (fun zy=>?_)
   refine Tk 0 rfl zy ?_
   refine Tk 1 rfl zy ?_
   refine Tk 2 rfl zy ?_
   refine Tk 3 rfl zy ?_
   refine Tk 4 rfl zy ?_
   refine Tk 5 rfl zy ?_
   refine Tk 6 rfl zy ?_
   refine Tk 7 rfl zy ?_
   refine Tk 8 rfl zy ?_
   refine Tk 9 rfl zy ?_
   refine Tk 10 rfl zy ?_
   refine Tk 11 rfl zy ?_
   refine Tk 12 rfl zy ?_
   refine Tk 13 rfl zy ?_
   refine Tk 14 rfl zy ?_
   refine Tk 15 rfl zy ?_
   refine To 16 rfl fun K hK=>?_
   go_simp
   refine CL.out.mono ?_
   rintro e w5 ⟨r5,rfl,vT⟩
   obtain⟨RA,rc,rfl,_⟩:=vT.own.form;have yl:=qp.below_ vT.2
   refine hK.out _ _ (fun _=>?_) (fun zy=>?_)
   ·exact⟨yl.psr.blk.cell 0 rfl,yl.psr.blk.cell 1 rfl⟩
   clear hK K;have zy:=zy (by decide)
   try simp only[Act.put,zz1,zz2,zz3,zz4,zz5,zz6]
   refine To 17 rfl fun K hK=>?_
   go_simp
   refine hK.out _ _ (fun h=>absurd rfl h) (fun _=>?_)
   clear hK K
   try simp only[Act.put,zz1,zz2,zz3,zz4,zz5,zz6]
   refine Ways.done (by kernel_rfl) ?_
   clear zy CL a0 a1;have yh:=oT.below vT.2;obtain⟨H6,zJ,qI,_⟩:=Fresh.snapB qp.psr.holds vT;have zA:=qp.grown zJ;have td:=zJ.none zQ oT.lt;clear yl vT qp oT;have a1:=zA.psr.blk.cell 1 rfl;go_wp2_with (with_reducible refine zx ?_)
   refine zu rfl _ _ _ rfl rfl g 1 (.int .i64 ((P:Int)+(n:Int))) rfl rfl _ _ zA.psr.blk zE (by simp) rfl fun w7 rj wP=>?_
   have yG:Rdg 108 w H w7 H6 g (some ⟨b,off,none⟩) P l (P+n) (cnt+1):=zA.step wP rj (by omega) (by have:=HC.out;omega);have yL:=yh.gr wP (by omega);have sa:=td;clear zA yh rj wP a1;have IB:=qI;have UV:=Hh (tQ (hTab.mono zJ.le) w7 yG.psr.holds RA s s.length rc rfl qI)
   cases hv:Lib.validD s with
   | false =>
    rw[hv]at UV;have E:Hid (zo d (l.drop p) cnt=.err 5):=by rw[Hid,E1.out,if_pos (by first | exact⟨rfl,hv⟩ | exact⟨trivial,hv⟩)]
    clear hv E1;go_wp2_with fail
    refine UV.out.mono ?_
    rintro e w8 ⟨rfl,nA⟩
    have wL:=yG.below_ nA;have vN:=yL.below nA;clear UV yG yL;go_wp2_with (with_reducible refine zx ?_)
    refine stI vN fun wz hTy zU=>?_
    have zP:=wL.gb sa (Nat.le_refl _) zC zU;go_wp2_with fail
    refine zv rfl rfl hTy rfl rfl zw rfl ?_
    exact ItemOut.err E.out rfl zP
   | true =>
    rw[hv]at UV;have E:Hid (zo d (l.drop p) cnt=.ok (.mk 3 0 s []) (k+n) (cnt+1)):=by rw[Hid,E1.out,if_neg (fun h=>by rw[hv]at h;cases h.2)]
    clear hv E1;go_wp2_with fail
    refine UV.out.mono ?_
    rintro e w8 ⟨rfl,nA⟩
    have wL:=yG.below_ nA;have vN:=yL.below nA;clear UV yG yL;go_wp2_with (with_reducible refine zx ?_)
    refine stI vN fun wz hTy zU=>?_
    have zP:=wL.gb sa (Nat.le_refl _) zC zU;go_wp2_with fail
    refine zv rfl rfl hTy rfl rfl zw rfl ?_
    exact ItemOut.ok E.out rfl (by rw[← Nat.add_assoc,HK.out.2.2.2];exact zP) (IsItem.str 3 (by omega) IB)
  ·have UP:(c=P)=False:=eq_false jZ;have qp:Rdg 108 w H w4.drew H g (some ⟨b,off,none⟩) c l P (cnt+1):=xR.drewN 1;have oT:Blk w4.drew w.heap.size 26 #[.int .i64 0,.int .u64 0,.slice none 0 0,.slice none 0 0]:=xG;have CL:=Hh (vV w4.drew (some ⟨b,off+P,none⟩) s n (c-P) lJ.out (by have:=lJ.out;omega) ((by have hq:=rt (w:=w4.drew) (n:=n) rQ P (some ⟨b,off+P,none⟩) (fun _=>rfl) (by omega);rw[lU]at hq;exact hq)));have a0:=xR.psr.blk.cell 0 rfl;have a1:=xR.psr.blk.cell 1 rfl;clear xR xG;go_upto_region 16 with fail
   refine zf 17 (fun w'=>w'.cell? ⟨g,0,none⟩=some (.slice (some ⟨b,off,none⟩) l.length c)∧w'.cell? ⟨g,1,none⟩=some (.int .i64 (P:Int))) (by kernel_rfl) (⟨a0,a1⟩) (fun zy=>?_)
   refine Tk 0 rfl zy ?_
   refine Tk 1 rfl zy ?_
   refine Tk 2 rfl zy ?_
   refine Tk 3 rfl zy ?_
   refine Tk 4 rfl zy ?_
   refine Tk 5 rfl zy ?_
   refine Tk 6 rfl zy ?_
   refine Tk 7 rfl zy ?_
   refine Tk 8 rfl zy ?_
   refine Tk 9 rfl zy ?_
   refine Tk 10 rfl zy ?_
   refine Tk 11 rfl zy ?_
   refine Tk 12 rfl zy ?_
   refine Tk 13 rfl zy ?_
   refine Tk 14 rfl zy ?_
   refine Tk 15 rfl zy ?_
   refine To 16 rfl fun K hK=>?_
   go_simp
   refine CL.out.mono ?_
   rintro e w5 ⟨r5,rfl,vT⟩
   obtain⟨RA,rc,rfl,_⟩:=vT.own.form;have yl:=qp.below_ vT.2
   refine hK.out _ _ (fun _=>?_) (fun zy=>?_)
   ·exact⟨yl.psr.blk.cell 0 rfl,yl.psr.blk.cell 1 rfl⟩
   clear hK K;have zy:=zy (by decide)
   try simp only[Act.put,zz1,zz2,zz3,zz4,zz5,zz6]
   refine To 17 rfl fun K hK=>?_
   go_simp
   refine hK.out _ _ (fun h=>absurd rfl h) (fun _=>?_)
   clear hK K
   try simp only[Act.put,zz1,zz2,zz3,zz4,zz5,zz6]
   refine Ways.done (by kernel_rfl) ?_
   clear zy CL a0 a1;have yh:=oT.below vT.2;obtain⟨H6,zJ,qI,_⟩:=Fresh.snapB qp.psr.holds vT;have zA:=qp.grown zJ;have td:=zJ.none zQ oT.lt;clear yl vT qp oT;have a1:=zA.psr.blk.cell 1 rfl;go_wp2_with (with_reducible refine zx ?_)
   refine zu rfl _ _ _ rfl rfl g 1 (.int .i64 ((P:Int)+(n:Int))) rfl rfl _ _ zA.psr.blk zE (by simp) rfl fun w7 rj wP=>?_
   have yG:Rdg 108 w H w7 H6 g (some ⟨b,off,none⟩) c l (P+n) (cnt+1):=zA.step wP rj (by omega) (by have:=HC.out;omega);have yL:=yh.gr wP (by omega);have sa:=td;clear zA yh rj wP a1;have IB:=qI;have UV:=Hh (tQ (hTab.mono zJ.le) w7 yG.psr.holds RA s s.length rc rfl qI)
   cases hv:Lib.validD s with
   | false =>
    rw[hv]at UV;have E:Hid (zo d (l.drop p) cnt=.err 5):=by rw[Hid,E1.out,if_pos (by first | exact⟨rfl,hv⟩ | exact⟨trivial,hv⟩)]
    clear hv E1;go_wp2_with fail
    refine UV.out.mono ?_
    rintro e w8 ⟨rfl,nA⟩
    have wL:=yG.below_ nA;have vN:=yL.below nA;clear UV yG yL;go_wp2_with (with_reducible refine zx ?_)
    refine stI vN fun wz hTy zU=>?_
    have zP:=wL.gb sa (Nat.le_refl _) zC zU;go_wp2_with fail
    refine zv rfl rfl hTy rfl rfl zw rfl ?_
    exact ItemOut.err E.out rfl zP
   | true =>
    rw[hv]at UV;have E:Hid (zo d (l.drop p) cnt=.ok (.mk 3 0 s []) (k+n) (cnt+1)):=by rw[Hid,E1.out,if_neg (fun h=>by rw[hv]at h;cases h.2)]
    clear hv E1;go_wp2_with fail
    refine UV.out.mono ?_
    rintro e w8 ⟨rfl,nA⟩
    have wL:=yG.below_ nA;have vN:=yL.below nA;clear UV yG yL;go_wp2_with (with_reducible refine zx ?_)
    refine stI vN fun wz hTy zU=>?_
    have zP:=wL.gb sa (Nat.le_refl _) zC zU;go_wp2_with fail
    refine zv rfl rfl hTy rfl rfl zw rfl ?_
    exact ItemOut.ok E.out rfl (by rw[← Nat.add_assoc,HK.out.2.2.2];exact zP) (IsItem.str 3 (by omega) IB)
end
end Go.Proofs.YtnlinmoiakgedaaGreatDoor
