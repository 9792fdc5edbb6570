/- squeezed. Readers of items: what a call does -/
import Derived.Test.YtgcjjhibdbafmabGreatDoorK07
set_option linter.unusedVariables false
set_option linter.unusedSimpArgs false
set_option maxRecDepth 100000
set_option maxHeartbeats 6400000
namespace Go.Proofs.YtgcjjhibdbafmabGreatDoor
open Go.RowKit
section
variable {T:TypeId} {w w' w'':World} {H H' H'':Snap} {g:Nat} {A:Option Addr} {c:Nat} {l:List UInt8} {p cnt p' cnt':Nat}
theorem Psr.gt (h:Psr T w g H A c l p cnt):g<w.heap.size:=h.blk.lt
structure Rdg (T:TypeId) (w:World) (H:Snap) (w':World) (H':Snap) (g:Nat) (A:Option Addr) (c:Nat) (l:List UInt8) (p cnt:Nat):Prop where
 grows:GrowsBut w H w' H' g
 psr:Psr T w' g H' A c l p cnt
theorem Rdg.refl (h:Psr T w g H A c l p cnt):Rdg T w H w H g A c l p cnt:=⟨GrowsBut.refl h.holds g,h⟩
theorem Rdg.trans (h:Rdg T w H w' H' g A c l p cnt) (k:Rdg T w' H' w'' H'' g A c l p' cnt'):Rdg T w H w'' H'' g A c l p' cnt':=⟨h.grows.trans k.grows,k.psr⟩
theorem Psr.grows (h:Psr T w g H A c l p cnt) (k:Grows w H w' H'):Rdg T w H w' H' g A c l p cnt :=
 ⟨k.but g,⟨h.blk.below k.below,h.bytes.mono k.le,k.holds,k.none h.apart h.gt,h.le,h.small,h.cnt_le⟩⟩
theorem Rdg.grown (h:Rdg T w H w' H' g A c l p cnt) (k:Grows w' H' w'' H''):Rdg T w H w'' H'' g A c l p cnt:=h.trans (h.psr.grows k)
theorem Rdg.alloc (h:Rdg T w H w' H' g A c l p cnt) (o:Obj):Rdg T w H (w'.alloc o) H' g A c l p cnt:=h.grown ((Grows.refl h.psr.holds).alloc o)
theorem Rdg.below_ (h:Rdg T w H w' H' g A c l p cnt) (k:Below w'.heap.size w' w''):Rdg T w H w'' H' g A c l p cnt:=h.grown (Grows.of_below h.psr.holds k)
theorem Rdg.drewN (h:Rdg T w H w' H' g A c l p cnt) (q:Nat):Rdg T w H (w'.drewN q) H' g A c l p cnt:=h.below_ (below_drewNv (Below.refl _ _) q)
theorem Rdg.size (h:Rdg T w H w' H' g A c l p cnt):w.heap.size≤w'.heap.size:=h.grows.grown.size
theorem Rdg.hid (h:Rdg T w H w' H' g A c l p cnt) {k:Nat}(hk:H k=.none) (hl:k<w.heap.size):H' k=.none:=h.grows.hid hk hl
theorem Rdg.step (h:Rdg T w H w' H' g A c l p cnt) (hg:w'.grownBy w'' (some g)) (hb:Blk w'' g T (sR A l.length c p' cnt')) (hp:p'≤l.length) (hc:cnt'≤256):Rdg T w H w'' H' g A c l p' cnt' :=
 ⟨⟨yk h.grows.grown hg (.inl rfl),h.grows.le,h.psr.holds.grown hg (by rintro q ⟨⟩;exact h.psr.apart),h.grows.fresh⟩,
  hb,h.psr.bytes,h.psr.holds.grown hg (by rintro q ⟨⟩;exact h.psr.apart),h.psr.apart,hp,h.psr.small,hc⟩
theorem Rdg.grownRow {row:Option Nat}(h:Rdg T w H w' H' g A c l p cnt) (h0:∀ k,row=some k→H' k=.none) (hw:∀ k,row=some k→w.heap.size≤k) (ye:g<w.heap.size) (hg:w'.grownBy w'' row):Rdg T w H w'' H' g A c l p cnt:=by
 have hd:=h.psr;have xH:row≠some g:=fun e=>by have:=hw g e;omega
 refine⟨⟨?_,h.grows.le,hd.holds.grown hg h0,h.grows.fresh⟩,hd.blk.grown hg xH,hd.bytes,hd.holds.grown hg h0,hd.apart,hd.le,hd.small,hd.cnt_le⟩
 exact⟨hg.os.trans h.grows.grown.os,hg.tape.trans h.grows.grown.tape,hg.output.trans h.grows.grown.output,Nat.le_trans h.size hg.size,fun i hi oF =>
   (hg.block i (Nat.lt_of_lt_of_le hi h.size) (fun e=>by have:=hw i e.symm;omega)).trans (h.grows.grown.block i hi oF)⟩
theorem Blk.rdg {k:Nat}{t:TypeId}{cs:Array Value}(h:Blk w k t cs) (hd:Rdg T w H w' H' g A c l p cnt) (hk:k≠g):Blk w' k t cs :=
 h.grown hd.grows.grown (by intro e;injection e with e;exact hk e.symm)
theorem OwnI.rdg {base:Nat}{v:Value}{K:Snap}{L:List Itm}(h:OwnI w base v K L) (hd:Rdg T w H w' H' g A c l p cnt) (hb:g<base):OwnI w' base v K L:=by
 refine h.kept hd.grows.grown ?_
 cases hv:v.ownBlock with
 | none=>exact .inl rfl
 | some k=>exact .inr (fun e=>by injection e with e;have:=h.lt k hv;omega)
def ItemOut (T:TypeId) (w:World) (H:Snap) (g:Nat) (A:Option Addr) (c:Nat) (l:List UInt8) (p:Nat) (r:PR) (e:Ending) (w':World):Prop :=
 match r with
 | .err q=>e=.returned (.tuple #[gn,.int .i64 (q:Int)])∧(∃ H' p' cnt',Rdg T w H w' H' g A c l p' cnt')
 | .ok x k c'=>∃ ja jb jc jd H',e=.returned (.tuple #[xj x ja jb jc jd,.int .i64 0])∧Rdg T w H w' H' g A c l (p+k) c'∧IsItem H' ja jb jc jd x
theorem ItemOut.err {e:Ending}{r:PR}{q:Nat}(hr:r=.err q) (he:e=.returned (.tuple #[gn,.int .i64 (q:Int)])) (h:Rdg T w H w' H' g A c l p' cnt'):ItemOut T w H g A c l p r e w':=by
 rw[hr,ItemOut];exact⟨he,H',p',cnt',h⟩
theorem ItemOut.ok {e:Ending}{r:PR}{x:Itm}{k c':Nat}{ja:Option Addr}{jb:Nat}{jc:Option Addr}{jd:Nat}(hr:r=.ok x k c') (he:e=.returned (.tuple #[xj x ja jb jc jd,.int .i64 0])) (h:Rdg T w H w' H' g A c l (p+k) c') (hi:IsItem H' ja jb jc jd x):ItemOut T w H g A c l p r e w':=by
 rw[hr,ItemOut];exact⟨ja,jb,jc,jd,H',he,h,hi⟩
end
def eO (d:Nat):Prop:=∀ (w:World) (H:Snap) (g:Nat) (A:Option Addr) (c:Nat) (l:List UInt8) (p cnt lv:Nat),Tabs H→lv+d=8→Psr 107 w g H A c l p cnt→
 Calls Tryz.prog 78 #[.pointer (some ⟨g,0,none⟩),.int .i64 (lv:Int)] w (ItemOut 107 w H g A c l p (zj d (l.drop p) cnt))
theorem jI (d:Nat) (b:List UInt8) (c:Nat) (h:256≤c):zj d b c=.err 8:=by rw[zj.eq_def];simp only;rw[if_pos h]
theorem zW (d:Nat) (b:List UInt8) (c:Nat) (h:¬ 256≤c) {q:Nat}(hq:zf b=.error q):zj d b c=.err q:=by rw[zj.eq_def];simp only;rw[if_neg h,hq]
theorem pB (d:Nat) (b:List UInt8) (c:Nat) (h:¬ 256≤c) {f n k:Nat}(hq:zf b=.ok (f,n,k)) (hk:f/32≤1):zj d b c=.ok (.mk (f/32:Nat) n [] []) k (c+1):=by
 rw[zj.eq_def];simp only;rw[if_neg h,hq];simp only;rw[if_pos hk]
theorem pC (d:Nat) (b:List UInt8) (c:Nat) (h:¬ 256≤c) {f n k:Nat}(hq:zf b=.ok (f,n,k)) (h1:¬ f/32≤1) (h3:f/32≤3):zj d b c =
  (if b.length<k+n then .err 2 else if f/32=3∧Lib.validD ((b.drop k).take n)=false then .err 5 else .ok (.mk (f/32:Nat) 0 ((b.drop k).take n) []) (k+n) (c+1)):=by
 rw[zj.eq_def];simp only;rw[if_neg h,hq];simp only;rw[if_neg h1,if_pos h3]
theorem pW (d:Nat) (b:List UInt8) (c:Nat) (h:¬ 256≤c) {f n k:Nat}(hq:zf b=.ok (f,n,k)) (h7:f/32=7):zj d b c =
  (match yZ (f%32) n with | .error e=>.err e | .ok x=>.ok x k (c+1)):=by
 rw[zj.eq_def];simp only;rw[if_neg h,hq];simp only;rw[if_neg (by omega),if_neg (by omega),if_pos h7]
 all_goals (cases yZ (f%32) n <;> rfl)
theorem jH (b:List UInt8) (c:Nat) (h:¬ 256≤c) {f n k:Nat}(hq:zf b=.ok (f,n,k)) (h3:4≤f/32) (h7:f/32≤6):zj 0 b c=.err 8:=by
 rw[zj.eq_def];simp only;rw[if_neg h,hq];simp only;rw[if_neg (by omega),if_neg (by omega),if_neg (by omega)]
theorem gd (d:Nat) (b:List UInt8) (c:Nat) (h:¬ 256≤c) {f n k:Nat}(hq:zf b=.ok (f,n,k)) (h6:f/32=6):zj (d+1) b c =
  (match zj d (b.drop k) (c+1) with | .err e=>.err e | .ok x k' c'=>.ok (.mk 6 n [] [x]) (k+k') c'):=by
 rw[zj.eq_def];simp only;rw[if_neg h,hq];simp only;rw[if_neg (by omega),if_neg (by omega),if_neg (by omega),if_pos h6]
 all_goals (cases zj d (b.drop k) (c+1) <;> rfl)
theorem gc (d:Nat) (b:List UInt8) (c:Nat) (h:¬ 256≤c) {f n k:Nat}(hq:zf b=.ok (f,n,k)) (h5:f/32=5):zj (d+1) b c =
  (match vl (zj d) n (b.drop k) (c+1) none with | .err e=>.err e | .ok l k' c'=>.ok (.mk 5 0 [] l) (k+k') c'):=by
 rw[zj.eq_def];simp only;rw[if_neg h,hq];simp only;rw[if_neg (by omega),if_neg (by omega),if_neg (by omega),if_neg (by omega),if_pos h5]
 all_goals (cases vl (zj d) n (b.drop k) (c+1) none <;> rfl)
theorem ga (d:Nat) (b:List UInt8) (c:Nat) (h:¬ 256≤c) {f n k:Nat}(hq:zf b=.ok (f,n,k)) (h4:f/32=4):zj (d+1) b c =
  (match vQ (zj d) n (b.drop k) (c+1) with | .err e=>.err e | .ok l k' c'=>.ok (.mk 4 0 [] l) (k+k') c'):=by
 rw[zj.eq_def];simp only;rw[if_neg h,hq];simp only;rw[if_neg (by omega),if_neg (by omega),if_neg (by omega),if_neg (by omega),if_neg (by omega)]
 all_goals (cases vQ (zj d) n (b.drop k) (c+1) <;> rfl)
theorem p8 {b:List UInt8}{q:Nat}(h:zf b=.error q):q=2∨q=3∨q=4:=by
 cases b with
 | nil=>injection h with h;omega
 | cons f t =>
 simp only[zf]at h
 repeat' split at h
 all_goals first | (injection h with h;omega) | cases h
theorem jO {low n q:Nat}(h:yZ low n=.error q):q=4:=by
 rw[yZ]at h
 repeat' split at h
 all_goals first | (injection h with h;omega) | cases h
theorem dK {low n:Nat}{x:Itm}(h:yZ low n=.ok x):∃ kd m,x=.mk kd m [] []∧(kd=7∨kd=8):=by
 rw[yZ]at h
 split at h
 ·injection h with h;exact⟨7,n,h.symm,.inl rfl⟩
 split at h
 ·split at h
  ·cases h
  injection h with h;exact⟨7,n,h.symm,.inl rfl⟩
 split at h
 ·cases h
 injection h with h;exact⟨8,_,h.symm,.inr rfl⟩
theorem av {H:Snap}{b:List UInt8}{f n k:Nat}{x:Itm}(HS:HeadIs b f n k) (h:yZ (f%32) n=.ok x):IsItem H none 0 none 0 x:=by
 have hx:x.n<18446744073709551616:=by
  have:=HS.low
  rcases Nat.lt_or_ge (f%32) 24 with hl | hl
  ·obtain⟨s1,s2,s3⟩:=HS.small hl
   exact(ug (low:=f%32) (t:=[]) (by omega) (fun _=>⟨s1,rfl⟩) (fun h=>by omega) h).2.2.1
  obtain⟨s1,t,s2,s3,s4⟩:=HS.wide hl
  exact(ug (low:=f%32) (t:=t) (by omega) (fun h=>by omega) (fun _=>⟨s2,s4⟩) h).2.2.1
 obtain⟨kd,m,rfl,hk⟩:=dK h
 exact IsItem.plain _ kd m (by omega) hx
section
variable {d:Nat} {w:World} {H:Snap} {g:Nat} {A:Option Addr} {c:Nat} {l:List UInt8} {p cnt lv:Nat}
theorem cy (hTab:Tabs H) (hlv:lv+d=8) (hP:Psr 107 w g H A c l p cnt) (hc:cnt=256):Calls Tryz.prog 78 #[.pointer (some ⟨g,0,none⟩),.int .i64 (lv:Int)] w (ItemOut 107 w H g A c l p (zj d (l.drop p) cnt)):=by
 have yv:=hP.gt;have xg:=(Rdg.refl hP).alloc zg;have we:=Blk.new w 57 #[.int .i64 0,.int .u64 0,.slice none 0 0,.slice none 0 0];have zF:H w.heap.size=none:=hP.holds.none_of_ge (Nat.le_refl _);have c2:=xg.psr.blk.cell 2 rfl;have xv:((cnt:Int)==256)=true:=by simp;omega
 have yD:((cnt:Int)=256)=True:=eq_true (by omega);have E:=Hh (jI d (l.drop p) cnt (by omega));clear hc;go_enter Tryz.func78,Tryz.ntmps78
 go_wp2_with (with_reducible refine zx ?_)
 refine stI we fun wz hTy zT=>?_
 have zQ:=xg.grownRow (row:=some w.heap.size) (by rintro q ⟨⟩;exact zF) (by rintro q ⟨⟩;exact Nat.le_refl _) yv zT;go_wp2_with fail
 refine zw rfl rfl hTy rfl rfl zv rfl ?_
 exact ItemOut.err (q:=8) E.out rfl zQ
theorem cz (hTab:Tabs H) (hlv:lv+d=8) (hP:Psr 107 w g H A c l p cnt) (hc:cnt<256) {q:Nat}(hh:zf (l.drop p)=.error q):Calls Tryz.prog 78 #[.pointer (some ⟨g,0,none⟩),.int .i64 (lv:Int)] w (ItemOut 107 w H g A c l p (zj d (l.drop p) cnt)):=by
 have yv:=hP.gt;have xg:=(Rdg.refl hP).alloc zg;have we:=Blk.new w 57 #[.int .i64 0,.int .u64 0,.slice none 0 0,.slice none 0 0];have zF:H w.heap.size=none:=hP.holds.none_of_ge (Nat.le_refl _);have c2:=xg.psr.blk.cell 2 rfl;have E:=Hh (zW d (l.drop p) cnt (by omega) hh);have nc:((q:Int) != 0)=true:=by rw[bne_iff_ne];have:=p8 hh;omega
 have kp:((q:Int)=0)=False:=eq_false (by have:=p8 hh;omega);have xv:((cnt:Int)==256)=false:=by simp;omega
 have yD:((cnt:Int)=256)=False:=eq_false (by omega);have KC:IntKind.i64.wrap ((cnt:Int)+1)=(cnt:Int)+1:=IntWalk.i64_in _ (by omega);have HC:=Hh hc;clear hc;go_enter Tryz.func78,Tryz.ntmps78
 go_wp2_with (with_reducible refine zx ?_)
 refine zu rfl _ _ _ rfl rfl g 2 (.int .i64 ((cnt:Int)+1)) rfl rfl _ _ xg.psr.blk zH (by simp) rfl fun w2 yU yq=>?_
 have wl:Rdg 107 w H w2 H g A c l p (cnt+1):=xg.step yq yU hP.le (by have:=HC.out;omega);have uv:=we.gr yq (by omega);have PH:=Hh (rN wl.psr);clear xg we yU yq c2 KC xv yD;go_wp2_with fail
 refine PH.out.mono ?_
 intro e w3 hs
 rw[HeadSaid,hh]at hs;obtain⟨rfl,⟨p',iQ,wL⟩,yQ⟩:=hs;have xV:Rdg 107 w H w3 H g A c l p' (cnt+1):=wl.step yQ wL iQ (by have:=HC.out;omega);have xO:=uv.gr yQ (by omega);clear wl uv wL yQ PH hh;go_wp2_with (with_reducible refine zx ?_)
 refine stI xO fun wz hTy zT=>?_
 have zQ:=xV.grownRow (row:=some w.heap.size) (by rintro q ⟨⟩;exact zF) (by rintro q ⟨⟩;exact Nat.le_refl _) yv zT;go_wp2_with fail
 refine zw rfl rfl hTy rfl rfl zv rfl ?_
 exact ItemOut.err E.out rfl zQ
theorem Vm (hTab:Tabs H) (hlv:lv+d=8) (hP:Psr 107 w g H A c l p cnt) (hc:cnt<256) {f n k:Nat}(hh:zf (l.drop p)=.ok (f,n,k)) (hk:f/32=0):Calls Tryz.prog 78 #[.pointer (some ⟨g,0,none⟩),.int .i64 (lv:Int)] w (ItemOut 107 w H g A c l p (zj d (l.drop p) cnt)):=by
 have yv:=hP.gt;have xg:=(Rdg.refl hP).alloc zg;have we:=Blk.new w 57 #[.int .i64 0,.int .u64 0,.slice none 0 0,.slice none 0 0];have zF:H w.heap.size=none:=hP.holds.none_of_ge (Nat.le_refl _);have c2:=xg.psr.blk.cell 2 rfl;have E:Hid (zj d (l.drop p) cnt=.ok (.mk 0 n [] []) k (cnt+1)):=by rw[Hid,pB d (l.drop p) cnt (by omega) hh (by omega),hk];rfl
 have S:(f:Int)/32=0:=by omega
 have xv:((cnt:Int)==256)=false:=by simp;omega
 have yD:((cnt:Int)=256)=False:=eq_false (by omega);have KC:IntKind.i64.wrap ((cnt:Int)+1)=(cnt:Int)+1:=IntWalk.i64_in _ (by omega);have HC:=Hh hc;clear hc;go_enter Tryz.func78,Tryz.ntmps78
 go_wp2_with (with_reducible refine zx ?_)
 refine zu rfl _ _ _ rfl rfl g 2 (.int .i64 ((cnt:Int)+1)) rfl rfl _ _ xg.psr.blk zH (by simp) rfl fun w2 yU yq=>?_
 have wl:Rdg 107 w H w2 H g A c l p (cnt+1):=xg.step yq yU hP.le (by have:=HC.out;omega);have uv:=we.gr yq (by omega);have PH:=Hh (rN wl.psr);clear xg we yU yq c2 KC xv yD;go_wp2_with fail
 refine PH.out.mono ?_
 intro e w3 hs
 rw[HeadSaid,hh]at hs;obtain⟨rfl,wL,yQ⟩:=hs;have HS:=xo hh;have tP:p+k≤l.length:=by have:=HS.le;rw[List.length_drop]at this;have:=hP.le;omega
 have xV:Rdg 107 w H w3 H g A c l (p+k) (cnt+1):=wl.step yQ wL tP (by have:=HC.out;omega);have xO:=uv.gr yQ (by omega);have HF:=Hh HS;clear wl uv wL yQ PH HS hh;go_wp2_with (with_reducible refine zx ?_)
 refine stI xO fun wz hTy zT=>?_
 have zQ:=xV.grownRow (row:=some w.heap.size) (by rintro q ⟨⟩;exact zF) (by rintro q ⟨⟩;exact Nat.le_refl _) yv zT;go_wp2_with fail
 refine zw rfl rfl hTy rfl rfl zv rfl ?_
 exact ItemOut.ok (ja:=none) (jb:=0) (jc:=none) (jd:=0) E.out rfl zQ (IsItem.plain _ 0 n (by omega) HF.out.n_lt)
theorem Vn (hTab:Tabs H) (hlv:lv+d=8) (hP:Psr 107 w g H A c l p cnt) (hc:cnt<256) {f n k:Nat}(hh:zf (l.drop p)=.ok (f,n,k)) (hk:f/32=1):Calls Tryz.prog 78 #[.pointer (some ⟨g,0,none⟩),.int .i64 (lv:Int)] w (ItemOut 107 w H g A c l p (zj d (l.drop p) cnt)):=by
 have yv:=hP.gt;have xg:=(Rdg.refl hP).alloc zg;have we:=Blk.new w 57 #[.int .i64 0,.int .u64 0,.slice none 0 0,.slice none 0 0];have zF:H w.heap.size=none:=hP.holds.none_of_ge (Nat.le_refl _);have c2:=xg.psr.blk.cell 2 rfl;have E:Hid (zj d (l.drop p) cnt=.ok (.mk 1 n [] []) k (cnt+1)):=by rw[Hid,pB d (l.drop p) cnt (by omega) hh (by omega),hk];rfl
 have S:(f:Int)/32=1:=by omega
 have xv:((cnt:Int)==256)=false:=by simp;omega
 have yD:((cnt:Int)=256)=False:=eq_false (by omega);have KC:IntKind.i64.wrap ((cnt:Int)+1)=(cnt:Int)+1:=IntWalk.i64_in _ (by omega);have HC:=Hh hc;clear hc;go_enter Tryz.func78,Tryz.ntmps78
 go_wp2_with (with_reducible refine zx ?_)
 refine zu rfl _ _ _ rfl rfl g 2 (.int .i64 ((cnt:Int)+1)) rfl rfl _ _ xg.psr.blk zH (by simp) rfl fun w2 yU yq=>?_
 have wl:Rdg 107 w H w2 H g A c l p (cnt+1):=xg.step yq yU hP.le (by have:=HC.out;omega);have uv:=we.gr yq (by omega);have PH:=Hh (rN wl.psr);clear xg we yU yq c2 KC xv yD;go_wp2_with fail
 refine PH.out.mono ?_
 intro e w3 hs
 rw[HeadSaid,hh]at hs;obtain⟨rfl,wL,yQ⟩:=hs;have HS:=xo hh;have tP:p+k≤l.length:=by have:=HS.le;rw[List.length_drop]at this;have:=hP.le;omega
 have xV:Rdg 107 w H w3 H g A c l (p+k) (cnt+1):=wl.step yQ wL tP (by have:=HC.out;omega);have xO:=uv.gr yQ (by omega);have HF:=Hh HS;clear wl uv wL yQ PH HS hh;go_wp2_with (with_reducible refine zx ?_)
 refine stI xO fun wz hTy zT=>?_
 have zQ:=xV.grownRow (row:=some w.heap.size) (by rintro q ⟨⟩;exact zF) (by rintro q ⟨⟩;exact Nat.le_refl _) yv zT;go_wp2_with fail
 refine zw rfl rfl hTy rfl rfl zv rfl ?_
 exact ItemOut.ok (ja:=none) (jb:=0) (jc:=none) (jd:=0) E.out rfl zQ (IsItem.plain _ 1 n (by omega) HF.out.n_lt)
theorem Vt (hTab:Tabs H) (hlv:lv+d=8) (hP:Psr 107 w g H A c l p cnt) (hc:cnt<256) {f n k:Nat}(hh:zf (l.drop p)=.ok (f,n,k)) (hk:f/32=7):Calls Tryz.prog 78 #[.pointer (some ⟨g,0,none⟩),.int .i64 (lv:Int)] w (ItemOut 107 w H g A c l p (zj d (l.drop p) cnt)):=by
 have yv:=hP.gt;have xg:=(Rdg.refl hP).alloc zg;have we:=Blk.new w 57 #[.int .i64 0,.int .u64 0,.slice none 0 0,.slice none 0 0];have zF:H w.heap.size=none:=hP.holds.none_of_ge (Nat.le_refl _);have c2:=xg.psr.blk.cell 2 rfl;have E0:=Hh (pW d (l.drop p) cnt (by omega) hh hk);have S:(f:Int)/32=7:=by omega
 have xv:((cnt:Int)==256)=false:=by simp;omega
 have yD:((cnt:Int)=256)=False:=eq_false (by omega);have KC:IntKind.i64.wrap ((cnt:Int)+1)=(cnt:Int)+1:=IntWalk.i64_in _ (by omega);have HC:=Hh hc;clear hc;go_enter Tryz.func78,Tryz.ntmps78
 go_wp2_with (with_reducible refine zx ?_)
 refine zu rfl _ _ _ rfl rfl g 2 (.int .i64 ((cnt:Int)+1)) rfl rfl _ _ xg.psr.blk zH (by simp) rfl fun w2 yU yq=>?_
 have wl:Rdg 107 w H w2 H g A c l p (cnt+1):=xg.step yq yU hP.le (by have:=HC.out;omega);have uv:=we.gr yq (by omega);have PH:=Hh (rN wl.psr);clear xg we yU yq c2 KC xv yD;go_wp2_with fail
 refine PH.out.mono ?_
 intro e w3 hs
 rw[HeadSaid,hh]at hs;obtain⟨rfl,wL,yQ⟩:=hs;have HS:=xo hh;have tP:p+k≤l.length:=by have:=HS.le;rw[List.length_drop]at this;have:=hP.le;omega
 have xV:Rdg 107 w H w3 H g A c l (p+k) (cnt+1):=wl.step yQ wL tP (by have:=HC.out;omega);have xO:=uv.gr yQ (by omega);have HF:=Hh HS;clear wl uv wL yQ PH HS hh
 have SV:=Hh (fun w=>Zy f n HF.out.f_lt HF.out.low HF.out.n_lt (by
  intro Uz
  obtain⟨_,t,h1,_,h2⟩:=HF.out.wide (by omega);have:=xx t;rw[h1,Uz]at this;rw[h2];simpa using this) (by
  intro h26
  obtain⟨_,t,h1,_,h2⟩:=HF.out.wide (by omega);have:=xx t;rw[h1,h26]at this;rw[h2];simpa using this) w)
 go_wp2_with fail
 refine(SV.out _).mono ?_
 intro e w4 hs
 obtain⟨rF,hs⟩:=hs;have vd:=xV.below_ rF;have wT:=xO.below rF;clear xV xO SV rF
 cases hsv:yZ (f%32) n with
 | error q =>
  rw[hsv]at hs
  simp only at hs
  subst hs;have E:Hid (zj d (l.drop p) cnt=.err q):=by rw[Hid,E0.out,hsv]
  go_wp2_with (with_reducible refine zx ?_)
  refine stI wT fun wz hTy zT=>?_
  have zQ:=vd.grownRow (row:=some w.heap.size) (by rintro q ⟨⟩;exact zF) (by rintro q ⟨⟩;exact Nat.le_refl _) yv zT;go_wp2_with fail
  refine zw rfl rfl hTy rfl rfl zv rfl ?_
  exact ItemOut.err E.out rfl zQ
 | ok x =>
 rw[hsv]at hs
 simp only at hs
 subst hs;have E:Hid (zj d (l.drop p) cnt=.ok x k (cnt+1)):=by rw[Hid,E0.out,hsv]
 have JH:IsItem H none 0 none 0 x:=av HF.out hsv;clear hsv;go_wp2_with (with_reducible refine zx ?_)
 refine stI wT fun wz hTy zT=>?_
 have zQ:=vd.grownRow (row:=some w.heap.size) (by rintro q ⟨⟩;exact zF) (by rintro q ⟨⟩;exact Nat.le_refl _) yv zT;go_wp2_with fail
 refine zw rfl rfl hTy rfl rfl zv rfl ?_
 exact ItemOut.ok E.out rfl zQ JH
theorem cw (hTab:Tabs H) (hlv:lv=8) (hP:Psr 107 w g H A c l p cnt) (hc:cnt<256) {f n k:Nat}(hh:zf (l.drop p)=.ok (f,n,k)) (h4:4≤f/32) (h6:f/32≤6):Calls Tryz.prog 78 #[.pointer (some ⟨g,0,none⟩),.int .i64 (lv:Int)] w (ItemOut 107 w H g A c l p (zj 0 (l.drop p) cnt)):=by
 have yv:=hP.gt;have xg:=(Rdg.refl hP).alloc zg;have we:=Blk.new w 57 #[.int .i64 0,.int .u64 0,.slice none 0 0,.slice none 0 0];have zF:H w.heap.size=none:=hP.holds.none_of_ge (Nat.le_refl _);have c2:=xg.psr.blk.cell 2 rfl;have E:=Hh (jH (l.drop p) cnt (by omega) hh h4 h6);obtain⟨kd,pP⟩:∃ kd,f/32=kd:=⟨_,rfl⟩
 have S:(f:Int)/32=(kd:Int):=by omega
 have s0:((kd:Int)==0)=false:=by simp;omega
 have s1:((kd:Int)==1)=false:=by simp;omega
 have s2:((kd:Int)==2)=false:=by simp;omega
 have s3:((kd:Int)==3)=false:=by simp;omega
 have s7:((kd:Int)==7)=false:=by simp;omega
 have q0:((kd:Int)=0)=False:=eq_false (by omega);have q1:((kd:Int)=1)=False:=eq_false (by omega);have q2:((kd:Int)=2)=False:=eq_false (by omega);have q3:((kd:Int)=3)=False:=eq_false (by omega);have q7:((kd:Int)=7)=False:=eq_false (by omega);have TW:(kd:Int)≤7:=by omega
 subst hlv;clear pP h4 h6;have xv:((cnt:Int)==256)=false:=by simp;omega
 have yD:((cnt:Int)=256)=False:=eq_false (by omega);have KC:IntKind.i64.wrap ((cnt:Int)+1)=(cnt:Int)+1:=IntWalk.i64_in _ (by omega);have HC:=Hh hc;clear hc;go_enter Tryz.func78,Tryz.ntmps78
 go_wp2_with (with_reducible refine zx ?_)
 refine zu rfl _ _ _ rfl rfl g 2 (.int .i64 ((cnt:Int)+1)) rfl rfl _ _ xg.psr.blk zH (by simp) rfl fun w2 yU yq=>?_
 have wl:Rdg 107 w H w2 H g A c l p (cnt+1):=xg.step yq yU hP.le (by have:=HC.out;omega);have uv:=we.gr yq (by omega);have PH:=Hh (rN wl.psr);clear xg we yU yq c2 KC xv yD;go_wp2_with fail
 refine PH.out.mono ?_
 intro e w3 hs
 rw[HeadSaid,hh]at hs;obtain⟨rfl,wL,yQ⟩:=hs;have HS:=xo hh;have tP:p+k≤l.length:=by have:=HS.le;rw[List.length_drop]at this;have:=hP.le;omega
 have xV:Rdg 107 w H w3 H g A c l (p+k) (cnt+1):=wl.step yQ wL tP (by have:=HC.out;omega);have xO:=uv.gr yQ (by omega);have HF:=Hh HS;clear wl uv wL yQ PH HS hh;go_wp2_with (with_reducible refine zx ?_)
 refine stI xO fun wz hTy zT=>?_
 have zQ:=xV.grownRow (row:=some w.heap.size) (by rintro q ⟨⟩;exact zF) (by rintro q ⟨⟩;exact Nat.le_refl _) yv zT;go_wp2_with fail
 refine zw rfl rfl hTy rfl rfl zv rfl ?_
 exact ItemOut.err E.out rfl zQ
end
section
variable {d:Nat} {w:World} {H:Snap} {g:Nat} {A:Option Addr} {c:Nat} {l:List UInt8} {p cnt lv:Nat}
theorem IsItem.str {H:Snap}{B:Option Addr}{bc:Nat}{s:List UInt8}(k:Int) (hk:0≤k∧k≤8) (h:IsBytes H B bc s):IsItem H B bc none 0 (.mk k 0 s []):=by
 rw[IsItem]
 exact⟨⟨by omega,by omega,by omega,Nat.le_refl _,by omega⟩,h,fun h=>absurd h (by simp)⟩
theorem Vo (hTab:Tabs H) (hlv:lv+d=8) (hP:Psr 107 w g H A c l p cnt) (hc:cnt<256) {f n k:Nat}(hh:zf (l.drop p)=.ok (f,n,k)) (hk:f/32=2):Calls Tryz.prog 78 #[.pointer (some ⟨g,0,none⟩),.int .i64 (lv:Int)] w (ItemOut 107 w H g A c l p (zj d (l.drop p) cnt)):=by
 have yv:=hP.gt;have xg:=(Rdg.refl hP).alloc zg;have we:=Blk.new w 57 #[.int .i64 0,.int .u64 0,.slice none 0 0,.slice none 0 0];have zF:H w.heap.size=none:=hP.holds.none_of_ge (Nat.le_refl _);have c2:=xg.psr.blk.cell 2 rfl
 have E0:Hid (zj d (l.drop p) cnt=(if(l.drop p).length<k+n then .err 2 else if 2=3∧Lib.validD (((l.drop p).drop k).take n)=false then .err 5 else .ok (.mk 2 0 (((l.drop p).drop k).take n) []) (k+n) (cnt+1))):=by
  rw[Hid,pC d (l.drop p) cnt (by omega) hh (by omega) (by omega),hk];first | rfl | (simp only[true_and];first | done | rfl) | simp
 have S:(f:Int)/32=2:=by omega
 have xv:((cnt:Int)==256)=false:=by simp;omega
 have yD:((cnt:Int)=256)=False:=eq_false (by omega);have KC:IntKind.i64.wrap ((cnt:Int)+1)=(cnt:Int)+1:=IntWalk.i64_in _ (by omega);have HC:=Hh hc;clear hc;go_enter Tryz.func78,Tryz.ntmps78
 go_wp2_with (with_reducible refine zx ?_)
 refine zu rfl _ _ _ rfl rfl g 2 (.int .i64 ((cnt:Int)+1)) rfl rfl _ _ xg.psr.blk zH (by simp) rfl fun w2 yU yq=>?_
 have wl:Rdg 107 w H w2 H g A c l p (cnt+1):=xg.step yq yU hP.le (by have:=HC.out;omega);have uv:=we.gr yq (by omega);have PH:=Hh (rN wl.psr);clear xg we yU yq c2 KC xv yD;go_wp2_with fail
 refine PH.out.mono ?_
 intro e w3 hs
 rw[HeadSaid,hh]at hs;obtain⟨rfl,wL,yQ⟩:=hs;have HS:=xo hh;have tP:p+k≤l.length:=by have:=HS.le;rw[List.length_drop]at this;have:=hP.le;omega
 have xV:Rdg 107 w H w3 H g A c l (p+k) (cnt+1):=wl.step yQ wL tP (by have:=HC.out;omega);have xO:=uv.gr yQ (by omega);have HF:=Hh HS;clear wl uv wL yQ PH HS hh;have uP:=HF.out.pos;obtain⟨b,off,rfl,yG⟩:=xV.psr.bytes.at_ (by omega);have qI:=xV.psr.small;have uA:=xV.psr.bytes.le;have nX:=xV.psr.bytes.max;have wi:=HF.out.n_lt;have Yv:(l.drop p).length=l.length-p:=List.length_drop;obtain⟨P,fs⟩:∃ P,p+k=P:=⟨_,rfl⟩
 obtain⟨s,lB⟩:∃ s,((l.drop p).drop k).take n=s:=⟨_,rfl⟩
 rw[lB]at E0;rw[List.drop_drop,fs]at lB;rw[fs]at xV tP;have K1:IntKind.i64.wrap ((l.length:Int)-(P:Int))=(l.length:Int)-(P:Int):=IntWalk.i64_in _ (by omega);have K2:IntKind.u64.wrap ((l.length:Int)-(P:Int))=(l.length:Int)-(P:Int):=by rw[IntKind.wrap_u64];omega
 have a0:=xV.psr.blk.cell 0 rfl;have a1:=xV.psr.blk.cell 1 rfl;have Mk:(P:Int)≤(l.length:Int):=by omega
 have iP:(l.length:Int)≤4096:=by omega
 by_cases ye:l.length<P+n
 ·have z0:(l.length:Int)-(P:Int)<(n:Int):=by omega
  have E:Hid (zj d (l.drop p) cnt=.err 2):=by rw[Hid,E0.out,if_pos (by omega)]
  clear qI uA nX wi Yv fs lB E0 ye yG;go_wp2_with fail
  go_big_quiet (fail)
  have vd:=xV.drewN nq;have wT:Blk (w3.drewN nq) w.heap.size 57 #[.int .i64 0,.int .u64 0,.slice none 0 0,.slice none 0 0]:=xO;go_wp2_with (with_reducible refine zx ?_)
  refine stI wT fun wz hTy zT=>?_
  have zQ:=vd.grownRow (row:=some w.heap.size) (by rintro q ⟨⟩;exact zF) (by rintro q ⟨⟩;exact Nat.le_refl _) yv zT;go_wp2_with fail
  refine zw rfl rfl hTy rfl rfl zv rfl ?_
  exact ItemOut.err E.out rfl zQ
 have z0:¬ ((l.length:Int)-(P:Int)<(n:Int)):=by omega
 have z0b:decide ((l.length:Int)-(P:Int)<(n:Int))=false:=decide_eq_false z0;have E1:Hid (zj d (l.drop p) cnt=(if 2=3∧Lib.validD s=false then .err 5 else .ok (.mk 2 0 s []) (k+n) (cnt+1))):=by rw[Hid,E0.out,if_neg (by omega)];try simp
 have cC:n=s.length:=by rw[← lB,List.length_take,List.length_drop];omega
 have kF:=Hh cC;clear cC;have KN:IntKind.i64.wrap (n:Int)=(n:Int):=IntWalk.i64_in _ (by omega);have KP:IntKind.i64.wrap ((P:Int)+(n:Int))=(P:Int)+(n:Int):=IntWalk.i64_in _ (by omega);have kt:((P:Int)+(n:Int)).toNat=P+n:=by omega
 have y0:(0:Int)≤(P:Int)+(n:Int):=by omega
 have y5:P≤P+n:=by omega
 have y6:P+n-P=n:=by omega
 have y1:(P:Int)≤(P:Int)+(n:Int):=by omega
 have y2:(P:Int)+(n:Int)≤(c:Int):=by omega
 have y3:(P:Int)≤(c:Int):=by omega
 have y4:(0:Int)≤(P:Int):=by omega
 have HK:=Hh (And.intro qI (And.intro uA (And.intro nX fs)));go_wp2_with fail
 go_big_quiet (fail)
 have ux:=xV.drewN nq;have uw:Blk (w3.drewN nq) w.heap.size 57 #[.int .i64 0,.int .u64 0,.slice none 0 0,.slice none 0 0]:=xO
 generalize w3.drewN nq=w4 at ux uw⊢
 obtain⟨vd,wT⟩:=And.intro ux uw;clear ux uw xV xO a0 a1 E0 z0 z0b;have qy:∀ j (hj:j<l.length),w4.cell? ⟨b,off+j,none⟩=some (zI l[j]):=fun j hj=>vd.psr.holds.cell (yG j hj)
 by_cases iN:c=P
 ·have bR:P=c:=iN.symm;subst bR;clear iN;have qe:Rdg 107 w H w4.drew H g (some ⟨b,off,none⟩) P l P (cnt+1):=vd.drewN 1;have o9:Blk w4.drew w.heap.size 57 #[.int .i64 0,.int .u64 0,.slice none 0 0,.slice none 0 0]:=wT;have CL:=Hh (vT w4.drew (some ⟨b,off,none⟩) s n 0 kF.out (by have:=kF.out;omega) (by have hz:s=[]:=List.eq_nil_of_length_eq_zero (by have:=kF.out;omega);rw[hz];exact Src.nil _ _));have a0:=vd.psr.blk.cell 0 rfl;have a1:=vd.psr.blk.cell 1 rfl;clear vd wT;go_upto_region 16 with fail
  refine zr 17 (fun w'=>w'.cell? ⟨g,0,none⟩=some (.slice (some ⟨b,off,none⟩) l.length P)∧w'.cell? ⟨g,1,none⟩=some (.int .i64 (P:Int))) (by kernel_rfl) (⟨a0,a1⟩) (fun zy=>?_)
  refine Tk 0 rfl zy ?_
  refine Tk 1 rfl zy ?_
  refine Tk 2 rfl zy ?_
  refine Tk 3 rfl zy ?_
  refine Tk 4 rfl zy ?_
  refine Tk 5 rfl zy ?_
  refine Tk 6 rfl zy ?_
  refine Tk 7 rfl zy ?_
  refine Tk 8 rfl zy ?_
  refine Tk 9 rfl zy ?_
  refine Tk 10 rfl zy ?_
  refine Tk 11 rfl zy ?_
  refine Tk 12 rfl zy ?_
  refine Tk 13 rfl zy ?_
  refine Tk 14 rfl zy ?_
  refine Tk 15 rfl zy ?_
  refine To 16 rfl fun K hK=>?_
  go_simp
  refine CL.out.mono ?_
  rintro e w5 ⟨r5,rfl,ul⟩
  obtain⟨RA,rc,rfl,_⟩:=ul.own.form;have yi:=qe.below_ ul.2
  refine Ko hK ?_ fun zy=>?_
  ·exact⟨yi.psr.blk.cell 0 rfl,yi.psr.blk.cell 1 rfl⟩
  clear hK K
  refine To 17 rfl fun K hK=>?_
  go_simp
  refine Kz hK ?_
  clear hK K
  refine Wd ?_
  clear zy CL a0 a1;have yt:=o9.below ul.2;obtain⟨H6,zP,om,_⟩:=Fresh.snapB qe.psr.holds ul;have z8:=qe.grown zP;have tS:=zP.none zF o9.lt;clear yi ul qe o9;have a1:=z8.psr.blk.cell 1 rfl;go_wp2_with (with_reducible refine zx ?_)
  refine zu rfl _ _ _ rfl rfl g 1 (.int .i64 ((P:Int)+(n:Int))) rfl rfl _ _ z8.psr.blk zH (by simp) rfl fun w7 nP wu=>?_
  have yC:Rdg 107 w H w7 H6 g (some ⟨b,off,none⟩) P l (P+n) (cnt+1):=z8.step wu nP (by omega) (by have:=HC.out;omega);have yS:=yt.gr wu (by omega);have nY:=tS;clear z8 yt nP wu a1;have E:Hid (zj d (l.drop p) cnt=.ok (.mk 2 0 s []) (k+n) (cnt+1)):=by rw[Hid,E1.out,if_neg (fun h=>absurd h.1 (by omega))]
  have IB:=om;clear E1;go_wp2_with (with_reducible refine zx ?_)
  refine stI yS fun wz hTy zT=>?_
  have zQ:=yC.grownRow (row:=some w.heap.size) (by rintro q ⟨⟩;exact nY) (by rintro q ⟨⟩;exact Nat.le_refl _) yv zT;go_wp2_with fail
  refine zw rfl rfl hTy rfl rfl zv rfl ?_
  exact ItemOut.ok E.out rfl (by rw[← Nat.add_assoc,HK.out.2.2.2];exact zQ) (IsItem.str 2 (by omega) IB)
 have SH:(c=P)=False:=eq_false iN;have qe:Rdg 107 w H w4.drew H g (some ⟨b,off,none⟩) c l P (cnt+1):=vd.drewN 1;have o9:Blk w4.drew w.heap.size 57 #[.int .i64 0,.int .u64 0,.slice none 0 0,.slice none 0 0]:=wT;have CL:=Hh (vT w4.drew (some ⟨b,off+P,none⟩) s n (c-P) kF.out (by have:=kF.out;omega) ((by have hq:=rb (w:=w4.drew) (n:=n) qy P (some ⟨b,off+P,none⟩) (fun _=>rfl) (by omega);rw[lB]at hq;exact hq)));have a0:=vd.psr.blk.cell 0 rfl;have a1:=vd.psr.blk.cell 1 rfl;clear vd wT;go_upto_region 16 with fail
 refine zr 17 (fun w'=>w'.cell? ⟨g,0,none⟩=some (.slice (some ⟨b,off,none⟩) l.length c)∧w'.cell? ⟨g,1,none⟩=some (.int .i64 (P:Int))) (by kernel_rfl) (⟨a0,a1⟩) (fun zy=>?_)
 refine Tk 0 rfl zy ?_
 refine Tk 1 rfl zy ?_
 refine Tk 2 rfl zy ?_
 refine Tk 3 rfl zy ?_
 refine Tk 4 rfl zy ?_
 refine Tk 5 rfl zy ?_
 refine Tk 6 rfl zy ?_
 refine Tk 7 rfl zy ?_
 refine Tk 8 rfl zy ?_
 refine Tk 9 rfl zy ?_
 refine Tk 10 rfl zy ?_
 refine Tk 11 rfl zy ?_
 refine Tk 12 rfl zy ?_
 refine Tk 13 rfl zy ?_
 refine Tk 14 rfl zy ?_
 refine Tk 15 rfl zy ?_
 refine To 16 rfl fun K hK=>?_
 go_simp
 refine CL.out.mono ?_
 rintro e w5 ⟨r5,rfl,ul⟩
 obtain⟨RA,rc,rfl,_⟩:=ul.own.form;have yi:=qe.below_ ul.2
 refine Ko hK ?_ fun zy=>?_
 ·exact⟨yi.psr.blk.cell 0 rfl,yi.psr.blk.cell 1 rfl⟩
 clear hK K
 refine To 17 rfl fun K hK=>?_
 go_simp
 refine Kz hK ?_
 clear hK K
 refine Wd ?_
 clear zy CL a0 a1;have yt:=o9.below ul.2;obtain⟨H6,zP,om,_⟩:=Fresh.snapB qe.psr.holds ul;have z8:=qe.grown zP;have tS:=zP.none zF o9.lt;clear yi ul qe o9;have a1:=z8.psr.blk.cell 1 rfl;go_wp2_with (with_reducible refine zx ?_)
 refine zu rfl _ _ _ rfl rfl g 1 (.int .i64 ((P:Int)+(n:Int))) rfl rfl _ _ z8.psr.blk zH (by simp) rfl fun w7 nP wu=>?_
 have yC:Rdg 107 w H w7 H6 g (some ⟨b,off,none⟩) c l (P+n) (cnt+1):=z8.step wu nP (by omega) (by have:=HC.out;omega);have yS:=yt.gr wu (by omega);have nY:=tS;clear z8 yt nP wu a1;have E:Hid (zj d (l.drop p) cnt=.ok (.mk 2 0 s []) (k+n) (cnt+1)):=by rw[Hid,E1.out,if_neg (fun h=>absurd h.1 (by omega))]
 have IB:=om;clear E1;go_wp2_with (with_reducible refine zx ?_)
 refine stI yS fun wz hTy zT=>?_
 have zQ:=yC.grownRow (row:=some w.heap.size) (by rintro q ⟨⟩;exact nY) (by rintro q ⟨⟩;exact Nat.le_refl _) yv zT;go_wp2_with fail
 refine zw rfl rfl hTy rfl rfl zv rfl ?_
 exact ItemOut.ok E.out rfl (by rw[← Nat.add_assoc,HK.out.2.2.2];exact zQ) (IsItem.str 2 (by omega) IB)
theorem Vp (hTab:Tabs H) (hlv:lv+d=8) (hP:Psr 107 w g H A c l p cnt) (hc:cnt<256) {f n k:Nat}(hh:zf (l.drop p)=.ok (f,n,k)) (hk:f/32=3):Calls Tryz.prog 78 #[.pointer (some ⟨g,0,none⟩),.int .i64 (lv:Int)] w (ItemOut 107 w H g A c l p (zj d (l.drop p) cnt)):=by
 have yv:=hP.gt;have xg:=(Rdg.refl hP).alloc zg;have we:=Blk.new w 57 #[.int .i64 0,.int .u64 0,.slice none 0 0,.slice none 0 0];have zF:H w.heap.size=none:=hP.holds.none_of_ge (Nat.le_refl _);have c2:=xg.psr.blk.cell 2 rfl
 have E0:Hid (zj d (l.drop p) cnt=(if(l.drop p).length<k+n then .err 2 else if 3=3∧Lib.validD (((l.drop p).drop k).take n)=false then .err 5 else .ok (.mk 3 0 (((l.drop p).drop k).take n) []) (k+n) (cnt+1))):=by
  rw[Hid,pC d (l.drop p) cnt (by omega) hh (by omega) (by omega),hk];first | rfl | (simp only[true_and];first | done | rfl) | simp
 have S:(f:Int)/32=3:=by omega
 have xv:((cnt:Int)==256)=false:=by simp;omega
 have yD:((cnt:Int)=256)=False:=eq_false (by omega);have KC:IntKind.i64.wrap ((cnt:Int)+1)=(cnt:Int)+1:=IntWalk.i64_in _ (by omega);have HC:=Hh hc;clear hc;go_enter Tryz.func78,Tryz.ntmps78
 go_wp2_with (with_reducible refine zx ?_)
 refine zu rfl _ _ _ rfl rfl g 2 (.int .i64 ((cnt:Int)+1)) rfl rfl _ _ xg.psr.blk zH (by simp) rfl fun w2 yU yq=>?_
 have wl:Rdg 107 w H w2 H g A c l p (cnt+1):=xg.step yq yU hP.le (by have:=HC.out;omega);have uv:=we.gr yq (by omega);have PH:=Hh (rN wl.psr);clear xg we yU yq c2 KC xv yD;go_wp2_with fail
 refine PH.out.mono ?_
 intro e w3 hs
 rw[HeadSaid,hh]at hs;obtain⟨rfl,wL,yQ⟩:=hs;have HS:=xo hh;have tP:p+k≤l.length:=by have:=HS.le;rw[List.length_drop]at this;have:=hP.le;omega
 have xV:Rdg 107 w H w3 H g A c l (p+k) (cnt+1):=wl.step yQ wL tP (by have:=HC.out;omega);have xO:=uv.gr yQ (by omega);have HF:=Hh HS;clear wl uv wL yQ PH HS hh;have uP:=HF.out.pos;obtain⟨b,off,rfl,yG⟩:=xV.psr.bytes.at_ (by omega);have qI:=xV.psr.small;have uA:=xV.psr.bytes.le;have nX:=xV.psr.bytes.max;have wi:=HF.out.n_lt;have Yv:(l.drop p).length=l.length-p:=List.length_drop;obtain⟨P,fs⟩:∃ P,p+k=P:=⟨_,rfl⟩
 obtain⟨s,lB⟩:∃ s,((l.drop p).drop k).take n=s:=⟨_,rfl⟩
 rw[lB]at E0;rw[List.drop_drop,fs]at lB;rw[fs]at xV tP;have K1:IntKind.i64.wrap ((l.length:Int)-(P:Int))=(l.length:Int)-(P:Int):=IntWalk.i64_in _ (by omega);have K2:IntKind.u64.wrap ((l.length:Int)-(P:Int))=(l.length:Int)-(P:Int):=by rw[IntKind.wrap_u64];omega
 have a0:=xV.psr.blk.cell 0 rfl;have a1:=xV.psr.blk.cell 1 rfl;have Mk:(P:Int)≤(l.length:Int):=by omega
 have iP:(l.length:Int)≤4096:=by omega
 by_cases ye:l.length<P+n
 ·have z0:(l.length:Int)-(P:Int)<(n:Int):=by omega
  have E:Hid (zj d (l.drop p) cnt=.err 2):=by rw[Hid,E0.out,if_pos (by omega)]
  clear qI uA nX wi Yv fs lB E0 ye yG;go_wp2_with fail
  go_big_quiet (fail)
  have vd:=xV.drewN nq;have wT:Blk (w3.drewN nq) w.heap.size 57 #[.int .i64 0,.int .u64 0,.slice none 0 0,.slice none 0 0]:=xO;go_wp2_with (with_reducible refine zx ?_)
  refine stI wT fun wz hTy zT=>?_
  have zQ:=vd.grownRow (row:=some w.heap.size) (by rintro q ⟨⟩;exact zF) (by rintro q ⟨⟩;exact Nat.le_refl _) yv zT;go_wp2_with fail
  refine zw rfl rfl hTy rfl rfl zv rfl ?_
  exact ItemOut.err E.out rfl zQ
 have z0:¬ ((l.length:Int)-(P:Int)<(n:Int)):=by omega
 have z0b:decide ((l.length:Int)-(P:Int)<(n:Int))=false:=decide_eq_false z0;have E1:Hid (zj d (l.drop p) cnt=(if 3=3∧Lib.validD s=false then .err 5 else .ok (.mk 3 0 s []) (k+n) (cnt+1))):=by rw[Hid,E0.out,if_neg (by omega)];try simp
 have cC:n=s.length:=by rw[← lB,List.length_take,List.length_drop];omega
 have kF:=Hh cC;clear cC;have KN:IntKind.i64.wrap (n:Int)=(n:Int):=IntWalk.i64_in _ (by omega);have KP:IntKind.i64.wrap ((P:Int)+(n:Int))=(P:Int)+(n:Int):=IntWalk.i64_in _ (by omega);have kt:((P:Int)+(n:Int)).toNat=P+n:=by omega
 have y0:(0:Int)≤(P:Int)+(n:Int):=by omega
 have y5:P≤P+n:=by omega
 have y6:P+n-P=n:=by omega
 have y1:(P:Int)≤(P:Int)+(n:Int):=by omega
 have y2:(P:Int)+(n:Int)≤(c:Int):=by omega
 have y3:(P:Int)≤(c:Int):=by omega
 have y4:(0:Int)≤(P:Int):=by omega
 have HK:=Hh (And.intro qI (And.intro uA (And.intro nX fs)));go_wp2_with fail
 go_big_quiet (fail)
 have ux:=xV.drewN nq;have uw:Blk (w3.drewN nq) w.heap.size 57 #[.int .i64 0,.int .u64 0,.slice none 0 0,.slice none 0 0]:=xO
 generalize w3.drewN nq=w4 at ux uw⊢
 obtain⟨vd,wT⟩:=And.intro ux uw;clear ux uw xV xO a0 a1 E0 z0 z0b;have qy:∀ j (hj:j<l.length),w4.cell? ⟨b,off+j,none⟩=some (zI l[j]):=fun j hj=>vd.psr.holds.cell (yG j hj)
 by_cases iN:c=P
 ·have bR:P=c:=iN.symm;subst bR;clear iN;have qe:Rdg 107 w H w4.drew H g (some ⟨b,off,none⟩) P l P (cnt+1):=vd.drewN 1;have o9:Blk w4.drew w.heap.size 57 #[.int .i64 0,.int .u64 0,.slice none 0 0,.slice none 0 0]:=wT;have CL:=Hh (vT w4.drew (some ⟨b,off,none⟩) s n 0 kF.out (by have:=kF.out;omega) (by have hz:s=[]:=List.eq_nil_of_length_eq_zero (by have:=kF.out;omega);rw[hz];exact Src.nil _ _));have a0:=vd.psr.blk.cell 0 rfl;have a1:=vd.psr.blk.cell 1 rfl;clear vd wT;go_upto_region 16 with fail
  refine zr 17 (fun w'=>w'.cell? ⟨g,0,none⟩=some (.slice (some ⟨b,off,none⟩) l.length P)∧w'.cell? ⟨g,1,none⟩=some (.int .i64 (P:Int))) (by kernel_rfl) (⟨a0,a1⟩) (fun zy=>?_)
  refine Tk 0 rfl zy ?_
  refine Tk 1 rfl zy ?_
  refine Tk 2 rfl zy ?_
  refine Tk 3 rfl zy ?_
  refine Tk 4 rfl zy ?_
  refine Tk 5 rfl zy ?_
  refine Tk 6 rfl zy ?_
  refine Tk 7 rfl zy ?_
  refine Tk 8 rfl zy ?_
  refine Tk 9 rfl zy ?_
  refine Tk 10 rfl zy ?_
  refine Tk 11 rfl zy ?_
  refine Tk 12 rfl zy ?_
  refine Tk 13 rfl zy ?_
  refine Tk 14 rfl zy ?_
  refine Tk 15 rfl zy ?_
  refine To 16 rfl fun K hK=>?_
  go_simp
  refine CL.out.mono ?_
  rintro e w5 ⟨r5,rfl,ul⟩
  obtain⟨RA,rc,rfl,_⟩:=ul.own.form;have yi:=qe.below_ ul.2
  refine Ko hK ?_ fun zy=>?_
  ·exact⟨yi.psr.blk.cell 0 rfl,yi.psr.blk.cell 1 rfl⟩
  clear hK K
  refine To 17 rfl fun K hK=>?_
  go_simp
  refine Kz hK ?_
  clear hK K
  refine Wd ?_
  clear zy CL a0 a1;have yt:=o9.below ul.2;obtain⟨H6,zP,om,_⟩:=Fresh.snapB qe.psr.holds ul;have z8:=qe.grown zP;have tS:=zP.none zF o9.lt;clear yi ul qe o9;have a1:=z8.psr.blk.cell 1 rfl;go_wp2_with (with_reducible refine zx ?_)
  refine zu rfl _ _ _ rfl rfl g 1 (.int .i64 ((P:Int)+(n:Int))) rfl rfl _ _ z8.psr.blk zH (by simp) rfl fun w7 nP wu=>?_
  have yC:Rdg 107 w H w7 H6 g (some ⟨b,off,none⟩) P l (P+n) (cnt+1):=z8.step wu nP (by omega) (by have:=HC.out;omega);have yS:=yt.gr wu (by omega);have nY:=tS;clear z8 yt nP wu a1;have IB:=om;have UV:=Hh (tE (hTab.mono zP.le) w7 yC.psr.holds RA s s.length rc rfl om)
  cases hv:Lib.validD s with
  | false =>
   rw[hv]at UV;have E:Hid (zj d (l.drop p) cnt=.err 5):=by rw[Hid,E1.out,if_pos (by first | exact⟨rfl,hv⟩ | exact⟨trivial,hv⟩)]
   clear hv E1;go_wp2_with fail
   refine UV.out.mono ?_
   rintro e w8 ⟨rfl,mI⟩
   have vp:=yC.below_ mI;have vI:=yS.below mI;clear UV yC yS;go_wp2_with (with_reducible refine zx ?_)
   refine stI vI fun wz hTy zT=>?_
   have zQ:=vp.grownRow (row:=some w.heap.size) (by rintro q ⟨⟩;exact nY) (by rintro q ⟨⟩;exact Nat.le_refl _) yv zT;go_wp2_with fail
   refine zw rfl rfl hTy rfl rfl zv rfl ?_
   exact ItemOut.err E.out rfl zQ
  | true =>
  rw[hv]at UV;have E:Hid (zj d (l.drop p) cnt=.ok (.mk 3 0 s []) (k+n) (cnt+1)):=by rw[Hid,E1.out,if_neg (fun h=>by rw[hv]at h;cases h.2)]
  clear hv E1;go_wp2_with fail
  refine UV.out.mono ?_
  rintro e w8 ⟨rfl,mI⟩
  have vp:=yC.below_ mI;have vI:=yS.below mI;clear UV yC yS;go_wp2_with (with_reducible refine zx ?_)
  refine stI vI fun wz hTy zT=>?_
  have zQ:=vp.grownRow (row:=some w.heap.size) (by rintro q ⟨⟩;exact nY) (by rintro q ⟨⟩;exact Nat.le_refl _) yv zT;go_wp2_with fail
  refine zw rfl rfl hTy rfl rfl zv rfl ?_
  exact ItemOut.ok E.out rfl (by rw[← Nat.add_assoc,HK.out.2.2.2];exact zQ) (IsItem.str 3 (by omega) IB)
 have SH:(c=P)=False:=eq_false iN;have qe:Rdg 107 w H w4.drew H g (some ⟨b,off,none⟩) c l P (cnt+1):=vd.drewN 1;have o9:Blk w4.drew w.heap.size 57 #[.int .i64 0,.int .u64 0,.slice none 0 0,.slice none 0 0]:=wT;have CL:=Hh (vT w4.drew (some ⟨b,off+P,none⟩) s n (c-P) kF.out (by have:=kF.out;omega) ((by have hq:=rb (w:=w4.drew) (n:=n) qy P (some ⟨b,off+P,none⟩) (fun _=>rfl) (by omega);rw[lB]at hq;exact hq)));have a0:=vd.psr.blk.cell 0 rfl;have a1:=vd.psr.blk.cell 1 rfl;clear vd wT;go_upto_region 16 with fail
 refine zr 17 (fun w'=>w'.cell? ⟨g,0,none⟩=some (.slice (some ⟨b,off,none⟩) l.length c)∧w'.cell? ⟨g,1,none⟩=some (.int .i64 (P:Int))) (by kernel_rfl) (⟨a0,a1⟩) (fun zy=>?_)
 refine Tk 0 rfl zy ?_
 refine Tk 1 rfl zy ?_
 refine Tk 2 rfl zy ?_
 refine Tk 3 rfl zy ?_
 refine Tk 4 rfl zy ?_
 refine Tk 5 rfl zy ?_
 refine Tk 6 rfl zy ?_
 refine Tk 7 rfl zy ?_
 refine Tk 8 rfl zy ?_
 refine Tk 9 rfl zy ?_
 refine Tk 10 rfl zy ?_
 refine Tk 11 rfl zy ?_
 refine Tk 12 rfl zy ?_
 refine Tk 13 rfl zy ?_
 refine Tk 14 rfl zy ?_
 refine Tk 15 rfl zy ?_
 refine To 16 rfl fun K hK=>?_
 go_simp
 refine CL.out.mono ?_
 rintro e w5 ⟨r5,rfl,ul⟩
 obtain⟨RA,rc,rfl,_⟩:=ul.own.form;have yi:=qe.below_ ul.2
 refine Ko hK ?_ fun zy=>?_
 ·exact⟨yi.psr.blk.cell 0 rfl,yi.psr.blk.cell 1 rfl⟩
 clear hK K
 refine To 17 rfl fun K hK=>?_
 go_simp
 refine Kz hK ?_
 clear hK K
 refine Wd ?_
 clear zy CL a0 a1;have yt:=o9.below ul.2;obtain⟨H6,zP,om,_⟩:=Fresh.snapB qe.psr.holds ul;have z8:=qe.grown zP;have tS:=zP.none zF o9.lt;clear yi ul qe o9;have a1:=z8.psr.blk.cell 1 rfl;go_wp2_with (with_reducible refine zx ?_)
 refine zu rfl _ _ _ rfl rfl g 1 (.int .i64 ((P:Int)+(n:Int))) rfl rfl _ _ z8.psr.blk zH (by simp) rfl fun w7 nP wu=>?_
 have yC:Rdg 107 w H w7 H6 g (some ⟨b,off,none⟩) c l (P+n) (cnt+1):=z8.step wu nP (by omega) (by have:=HC.out;omega);have yS:=yt.gr wu (by omega);have nY:=tS;clear z8 yt nP wu a1;have IB:=om;have UV:=Hh (tE (hTab.mono zP.le) w7 yC.psr.holds RA s s.length rc rfl om)
 cases hv:Lib.validD s with
 | false =>
  rw[hv]at UV;have E:Hid (zj d (l.drop p) cnt=.err 5):=by rw[Hid,E1.out,if_pos (by first | exact⟨rfl,hv⟩ | exact⟨trivial,hv⟩)]
  clear hv E1;go_wp2_with fail
  refine UV.out.mono ?_
  rintro e w8 ⟨rfl,mI⟩
  have vp:=yC.below_ mI;have vI:=yS.below mI;clear UV yC yS;go_wp2_with (with_reducible refine zx ?_)
  refine stI vI fun wz hTy zT=>?_
  have zQ:=vp.grownRow (row:=some w.heap.size) (by rintro q ⟨⟩;exact nY) (by rintro q ⟨⟩;exact Nat.le_refl _) yv zT;go_wp2_with fail
  refine zw rfl rfl hTy rfl rfl zv rfl ?_
  exact ItemOut.err E.out rfl zQ
 | true =>
 rw[hv]at UV;have E:Hid (zj d (l.drop p) cnt=.ok (.mk 3 0 s []) (k+n) (cnt+1)):=by rw[Hid,E1.out,if_neg (fun h=>by rw[hv]at h;cases h.2)]
 clear hv E1;go_wp2_with fail
 refine UV.out.mono ?_
 rintro e w8 ⟨rfl,mI⟩
 have vp:=yC.below_ mI;have vI:=yS.below mI;clear UV yC yS;go_wp2_with (with_reducible refine zx ?_)
 refine stI vI fun wz hTy zT=>?_
 have zQ:=vp.grownRow (row:=some w.heap.size) (by rintro q ⟨⟩;exact nY) (by rintro q ⟨⟩;exact Nat.le_refl _) yv zT;go_wp2_with fail
 refine zw rfl rfl hTy rfl rfl zv rfl ?_
 exact ItemOut.ok E.out rfl (by rw[← Nat.add_assoc,HK.out.2.2.2];exact zQ) (IsItem.str 3 (by omega) IB)
end
theorem IsItem.build {H:Snap}{x:Itm}{ba:Option Addr}{bc:Nat}{ia:Option Addr}{ic:Nat}(hk : -9223372036854775808≤x.kind∧x.kind≤9223372036854775807) (hn:x.n<18446744073709551616) (hb:IsBytes H ba bc x.bytes)
  (h1:x.items.length≤ic) (h2:ic≤9223372036854775807) (he:0<x.items.length→∃ b off,ia=some ⟨b,off,none⟩∧IsElems H b off x.items):IsItem H ba bc ia ic x:=by
 cases x
 rw[IsItem]
 exact⟨⟨hk.1,hk.2,hn,h1,h2⟩,hb,he⟩
def mf (x:Itm):Prop:=∀ (H:Snap) (k n:Int) (ba:Option Addr) (bl bc:Nat) (ia:Option Addr) (il ic:Nat) (w:World),Modest x→ItemA H k n ba bl bc ia il ic x→Holds w H→
 Calls Tryz.prog 65 #[.agg #[.int .i64 k,.int .u64 n,.slice ba bl bc,.slice ia il ic]] w fun e w'=>∃ v,e=.returned v∧Gives w H x v w'
theorem Xw (x:Itm) (ih:∀ y:Itm,cnt y<cnt x→mf y):mf x:=by
 intro H k n ba bl bc ia il ic w hm hx hH
 obtain⟨rfl,rfl,rfl,rfl,ot⟩:=hx.eqs_;have HX:=Hh ot;have HM:=Hh hm;have cM:=hm.parts;have hB:=((Blk.new w 57 #[.int .i64 x.kind,.int .u64 x.n,.slice ba x.bytes.length bc,.slice ia x.items.length ic]).alloc zg).drew;have hT:=(Blk.new (w.alloc (zS x ba bc ia ic)) 57 #[.int .i64 0,.int .u64 0,.slice none 0 0,.slice none 0 0]).drew
 simp only[zX]at hT
 have hb:=((zi w (zS x ba bc ia ic)).alloc (by simp) zg).drew;have xY:Holds ((w.alloc (zS x ba bc ia ic)).alloc zg).drew H:=((hH.alloc _).alloc _).drew;have bp:x.items.length≤9223372036854775807:=by omega
 have nT:x.bytes.length≤1099511627776:=cM.1;clear hx ot hm cM;go_enter Tryz.func65,Tryz.ntmps65
 go_upto_region 1 with fail
 go_cut [3] (fun s3 wx=>∃ N BA BC H1,s3=.pointer (some ⟨N,0,none⟩)∧Blk wx N 57 #[.int .i64 x.kind,.int .u64 x.n,.slice BA x.bytes.length BC,.slice none 0 0]∧Blk wx w.heap.size 57 #[.int .i64 x.kind,.int .u64 x.n,.slice ba x.bytes.length bc,.slice ia x.items.length ic]∧
  Blk wx (w.heap.size+1) 57 #[.int .i64 0,.int .u64 0,.slice none 0 0,.slice none 0 0]∧Grows w H wx H1∧IsBytes H1 BA BC x.bytes∧H1 N=none∧H1 (w.heap.size+1)=none∧w.heap.size+1<N)
 case first =>
  refine zr 9 (fun w'=>w'.cell? ⟨w.heap.size,0,none⟩=some (.int .i64 x.kind)∧w'.cell? ⟨w.heap.size,1,none⟩=some (.int .u64 x.n)∧w'.cell? ⟨w.heap.size,2,none⟩=some (.slice ba x.bytes.length bc)) (by kernel_rfl) (⟨hB.cell 0 rfl,hB.cell 1 rfl,hB.cell 2 rfl⟩) (fun zy=>?_)
  refine Tk 0 rfl zy ?_
  refine Tk 1 rfl zy ?_
  refine Tk 2 rfl zy ?_
  refine Tk 3 rfl zy ?_
  refine Tk 4 rfl zy ?_
  refine Tk 5 rfl zy ?_
  refine Ways.two (i:=6) (j:=8) rfl rfl (by kernel_rfl) (fun K hK=>?_) (fun K hK=>?_)
  ·rw[if_pos (by rfl)]
   refine yV (.const (.slice none 0 0)) (.tmp 12) rfl _ (.slice none 0 0) [] rfl (OwnB.nil _ _) ba _ bc x.bytes rfl rfl (Src.of_row HX.out.bytes.row xY) (by simpa using nT) (Nat.le_refl _) fun v' w5 hO hg hat=>?_
   rw[List.nil_append]at hO;have oc:=zC (by simpa [Value.ownBlock] using hg);obtain⟨BA,BC,rfl,_⟩:=hO.form
   try have xH:∀ q,(Value.slice BA x.bytes.length BC).ownBlock=some q→q≠w.heap.size+1+1:=fun q hq e=>by have h1:=(hO.lt q hq).1;have h2:=hP.lt;(try simp only[ym,zX]at h1 h2);omega
   have kz:∀ q,(Value.slice BA x.bytes.length BC).ownBlock=some q→w.heap.size+1<q:=fun q hq=>by have h1:=(hO.lt q hq).1;have h2:=hT.lt;(try simp only[ym,zX]at h1 h2);omega
   have hB:=hB.below oc;have hT:=hT.below oc
   try have hP:=hP.below oc
   have hb:=hb.trans (oc.mono hb.size);have xY:=xY.below oc (Nat.le_refl _)
   refine Ko hK ?_ fun zy=>?_
   ·exact⟨hB.cell 0 rfl,hB.cell 1 rfl,hB.cell 2 rfl⟩
   clear hK K
   refine Tk 7 rfl zy ?_
   refine To 8 rfl fun K hK=>?_
   go_simp
   have hP:=mQ hb 57 #[.int .i64 0,.int .u64 0,.slice none 0 0,.slice none 0 0]
   try have xH:∀ q,(Value.slice BA x.bytes.length BC).ownBlock=some q→q≠w5.heap.size:=fun q hq e=>by have h1:=(hO.lt q hq).2;omega
   have Nt:=hT.lt
   try simp only[ym,zX]at hP Nt
   have hB:=hB.alloc zg;have hT:=hT.alloc zg
   try have hO:=hO.alloc zg
   have xY:=xY.alloc zg;have hb:=hb.alloc hb.size zg
   refine Ko hK ?_ fun zy=>?_
   ·exact⟨hB.cell 0 rfl,hB.cell 1 rfl,hB.cell 2 rfl⟩
   clear hK K
   refine To 9 rfl fun K hK=>?_
   rw[if_pos (by rfl)]
   refine yJ _ _ _ rfl _ _ rfl rfl _ _ hP zv rfl (sX _ _ _ _ rfl rfl rfl rfl) fun w6 hP tO=>?_
   have hB:=hB.gr tO (by omega);have hT:=hT.gr tO (by omega);have hb:=hb.grown tO hb.size (by rintro q ⟨⟩;omega);have xY:=xY.grown tO (by rintro q ⟨⟩;exact hH.none_of_ge (by omega));have hO:=hO.kept tO (by cases hv:(Value.slice BA x.bytes.length BC).ownBlock with | none=>exact .inl rfl | some q=>exact .inr (fun e=>by injection e with e;exact xH q hv e))
   refine Kz hK ?_
   clear hK K
   refine Wd ?_
   obtain⟨H1,Sv,Ss,cK,rv,qn⟩:=hO.snap xY (fun q hq=>hH.none_of_ge (by have:=kz q (by cases BA <;> simp_all [Value.ownBlock]);omega))
   have Q1:∀ q,w.heap.size≤q→(∀ q',(Value.slice BA x.bytes.length BC).ownBlock=some q'→q'≠q)→H1 q=none:=fun q hq hd=>by
    cases Z5:H1 q with
    | none=>rfl
    | some o =>
    rcases cK q o Z5 with h | h
    ·rw[hH.none_of_ge hq]at h;cases h
    exact absurd rfl (hd q (by cases BA <;> simp_all [Value.ownBlock]))
   go_wp2_with fail
   go_meet
   exact⟨_,_,_,H1,rfl,hP,hB,hT,⟨hb,Sv,Ss,fun b o wU=>(cK b o wU).imp id fun h=>by have:=kz b (by cases BA <;> simp_all [Value.ownBlock]);omega⟩,qn,Q1 _ (by omega) (fun q' Zl=>xH q' Zl),Q1 _ (by omega) (fun q' Zl=>by have:=kz q' Zl;omega),by omega⟩
  go_simp
  have hP:=mQ hb 57 #[.int .i64 0,.int .u64 0,.slice none 0 0,.slice none 0 0]
  try have xH:∀ q,(Value.slice BA x.bytes.length BC).ownBlock=some q→q≠w5.heap.size:=fun q hq e=>by have h1:=(hO.lt q hq).2;omega
  have Nt:=hT.lt
  try simp only[ym,zX]at hP Nt
  have hB:=hB.alloc zg;have hT:=hT.alloc zg
  try have hO:=hO.alloc zg
  have xY:=xY.alloc zg;have hb:=hb.alloc hb.size zg
  refine Ko hK ?_ fun zy=>?_
  ·exact⟨hB.cell 0 rfl,hB.cell 1 rfl,hB.cell 2 rfl⟩
  clear hK K
  refine To 6 rfl fun K hK=>?_
  rw[if_pos (by rfl)]
  refine yV (.const (.slice none 0 0)) (.tmp 12) rfl _ (.slice none 0 0) [] rfl (OwnB.nil _ _) ba _ bc x.bytes rfl rfl (Src.of_row HX.out.bytes.row xY) (by simpa using nT) (Nat.le_refl _) fun v' w5 hO hg hat=>?_
  rw[List.nil_append]at hO;have oc:=zC (by simpa [Value.ownBlock] using hg);obtain⟨BA,BC,rfl,_⟩:=hO.form
  try have xH:∀ q,(Value.slice BA x.bytes.length BC).ownBlock=some q→q≠w.heap.size+1+1:=fun q hq e=>by have h1:=(hO.lt q hq).1;have h2:=hP.lt;(try simp only[ym,zX]at h1 h2);omega
  have kz:∀ q,(Value.slice BA x.bytes.length BC).ownBlock=some q→w.heap.size+1<q:=fun q hq=>by have h1:=(hO.lt q hq).1;have h2:=hT.lt;(try simp only[ym,zX]at h1 h2);omega
  have hB:=hB.below oc;have hT:=hT.below oc
  try have hP:=hP.below oc
  have hb:=hb.trans (oc.mono hb.size);have xY:=xY.below oc (Nat.le_refl _)
  refine Ko hK ?_ fun zy=>?_
  ·exact⟨hB.cell 0 rfl,hB.cell 1 rfl,hB.cell 2 rfl⟩
  clear hK K
  refine Tk 7 rfl zy ?_
  refine To 9 rfl fun K hK=>?_
  rw[if_pos (by rfl)]
  refine yJ _ _ _ rfl _ _ rfl rfl _ _ hP zv rfl (sX _ _ _ _ rfl rfl rfl rfl) fun w6 hP tO=>?_
  have hB:=hB.gr tO (by omega);have hT:=hT.gr tO (by omega);have hb:=hb.grown tO hb.size (by rintro q ⟨⟩;omega);have xY:=xY.grown tO (by rintro q ⟨⟩;exact hH.none_of_ge (by omega));have hO:=hO.kept tO (by cases hv:(Value.slice BA x.bytes.length BC).ownBlock with | none=>exact .inl rfl | some q=>exact .inr (fun e=>by injection e with e;exact xH q hv e))
  refine Kz hK ?_
  clear hK K
  refine Wd ?_
  obtain⟨H1,Sv,Ss,cK,rv,qn⟩:=hO.snap xY (fun q hq=>hH.none_of_ge (by have:=kz q (by cases BA <;> simp_all [Value.ownBlock]);omega))
  have Q1:∀ q,w.heap.size≤q→(∀ q',(Value.slice BA x.bytes.length BC).ownBlock=some q'→q'≠q)→H1 q=none:=fun q hq hd=>by
   cases Z5:H1 q with
   | none=>rfl
   | some o =>
   rcases cK q o Z5 with h | h
   ·rw[hH.none_of_ge hq]at h;cases h
   exact absurd rfl (hd q (by cases BA <;> simp_all [Value.ownBlock]))
  go_wp2_with fail
  go_meet
  exact⟨_,_,_,H1,rfl,hP,hB,hT,⟨hb,Sv,Ss,fun b o wU=>(cK b o wU).imp id fun h=>by have:=kz b (by cases BA <;> simp_all [Value.ownBlock]);omega⟩,qn,Q1 _ (by omega) (fun q' Zl=>xH q' Zl),Q1 _ (by omega) (fun q' Zl=>by have:=kz q' Zl;omega),by omega⟩
 case rest =>
 clear hB hT hb xY;obtain⟨N,BA,BC,H1,rfl,hP,hB,hT,xE,qn,ru,oo,Nt⟩:=hcut;have c3:=hB.cell 3 rfl;have Fy:=hP.lt;have nR:=OwnI.nil wc (N+1) H1;clear hB;go_wp2_with fail
 go_loopw [4,18] (fun v4 v18 wr=>∃ (j:Nat) (Hr:Snap) (VA:Option Addr) (vc vn:Nat),j≤x.items.length∧v18=.int .i64 j∧v4=.slice VA vn vc∧vn=(x.items.take j).length∧Grows w H wr Hr∧H1.le Hr∧OwnI wr (N+1) (.slice VA vn vc) Hr (x.items.take j)∧
  Blk wr N 57 #[.int .i64 x.kind,.int .u64 x.n,.slice BA x.bytes.length BC,.slice none 0 0]∧Blk wr (w.heap.size+1) 57 #[.int .i64 0,.int .u64 0,.slice none 0 0,.slice none 0 0]∧Hr N=none∧Hr (w.heap.size+1)=none∧(∀ q,(Value.slice VA vn vc).ownBlock=some q→Hr q=none)) (fun _ v18 _=>x.items.length-(intOf v18).toNat)
 case atStart=>exact⟨0,H1,_,_,_,Nat.zero_le _,rfl,rfl,rfl,xE,Snap.le.refl _,nR,hP,hT,ru,oo,by intro q hq;simp[Value.ownBlock]at hq⟩
 case round =>
 clear hP hT xE ru oo nR;obtain⟨j,Hr,VA,vc,vn,hj,rfl,rfl,em,pn,tC,vW,Nu,uY,Mi,pO,rI⟩:=hrel;have HV:=Hh em;clear em
 by_cases ye:j<x.items.length
 ·obtain⟨ib,io,rH,vD⟩:=HX.out.items (by omega);obtain⟨eba,ebc,eia,eic,q0,q1,q2,q3,tA⟩:=vD.get j ye;subst rH;have p0:=(pn.holds.mono pn.le).cell q0;have p1:=(pn.holds.mono pn.le).cell q1;have p2:=(pn.holds.mono pn.le).cell q2;have p3:=(pn.holds.mono pn.le).cell q3;have yq:=pn.alloc (zS x.items[j] eba ebc eia eic);have kz:=vW.alloc (zS x.items[j] eba ebc eia eic);have Sk:=Nu.alloc (zS x.items[j] eba ebc eia eic);have uv:=uY.alloc (zS x.items[j] eba ebc eia eic);have IH:=Hh (ih x.items[j] (vF x j ye) Hr _ _ eba _ ebc eia _ eic _ (HM.out.parts.2.2.get j ye) (tA.mono pn.le).arg yq.holds);have HT:=Hh (show x.items.take (j+1)=x.items.take j++[x.items[j]] from List.take_succ_eq_append_getElem ye);have OA:=HM.out.parts.2.1
  generalize x.items[j]'ye=y at *
  clear q0 q1 q2 q3 vD tA vW;go_wp2_with fail
  refine IH.out.mono ?_
  rintro e w6 ⟨v6,rfl,ja,jb,jc,jd,H6,rfl,zP,om⟩
  have sK:=((kz.below zP.below).mono zP.le).alloc (.cells (zY y ja jb jc jd).toArray 57);have wu:=(yq.trans zP).alloc (.cells (zY y ja jb jc jd).toArray 57);have Mj:=(Sk.below zP.below).alloc (.cells (zY y ja jb jc jd).toArray 57);have yj:=(uv.below zP.below).alloc (.cells (zY y ja jb jc jd).toArray 57);have tS:∀ q,(Value.slice VA vn vc).ownBlock=some q→H6 q=none:=fun q hq=>zP.none (rI q hq) (kz.lt q hq).2
  have Ia:=zP.none Mi Sk.lt;have X3:=zP.none pO uv.lt;have Lh:=tC.trans zP.le;clear p0 p1 p2 p3 IH pn Nu uY yq zP Sk uv;go_wp2_with (at_builtin;refine yf ?_)
  unfold yP
  obtain rfl:=HV.out
  refine xy rfl (.tmp 22) (.tmp 25) rfl (N+1) (.slice VA _ vc) H6 _ rfl sK _ 1 _ (zY y ja jb jc jd) [y] rfl rfl (ItemsC.one om) (Src.new _ _ _ _ rfl _ rfl) (by rw[List.length_take];simp;omega) (by have:=Mj.lt;simp only[zX]at this⊢;omega) fun v' w7 vo hg7 hat7=>?_
  obtain⟨VA',vc',rfl,_⟩:=vo.form;have iM:=wu.grownRow tS (fun q hq=>by have:=(sK.lt q hq).1;omega) hg7;have Id:=Mj.grown hg7 (fun e=>by have:=(sK.lt N e).1;omega);have yS:=yj.grown hg7 (fun e=>by have:=(sK.lt _ e).1;omega)
  have nY:∀ q,(Value.slice VA' (x.items.take j++[y]).length vc').ownBlock=some q→H6 q=none:=fun q hq=>by
   rcases hat7 with h | ⟨g',h1,h2⟩
   ·exact tS q (by rw[← h,hq])
   rw[hq]at h1;injection h1 with h1
   subst h1
   exact wu.hidden h2
  have Yz:(x.items.take j++[y]).length=j+1:=by rw[← HT.out,List.length_take];omega
  rw[Yz]at vo nY;rw[Yz];rw[← HT.out]at vo;clear Yz;have XD:(j:Int)+1≤9223372036854775807:=by omega
  clear sK hg7 hat7 tS wu Mj yj om;go_wp2_with fail
  go_roundw
  case rel=>exact⟨j+1,H6,VA',vc',_,by omega,by go_num,rfl,by rw[List.length_take];omega,iM,Lh,vo,Id,yS,Ia,X3,nY⟩
  case measure=>simp[intOf];omega
 have sZ:j=x.items.length:=by omega
 subst sZ;rw[List.take_length]at vW;have Ho:Hid (vn=x.items.length):=by have:=HV.out;rw[List.take_length]at this;exact this
 clear HV;obtain⟨H8,TX,Qp,VD,Zr,rq,rs,XB⟩:=vW.snap pn.holds (fun g hg=>rI g (by cases VA <;> simp_all [Value.ownBlock]));have yN:∀ b,VA.map (·.block)=some b→N+1≤b:=fun b hb=>(vW.lt b (by cases VA <;> simp_all [Value.ownBlock])).1
 have Qj:Grows w H wr H8:=⟨pn.below,pn.le.trans TX,Qp,fun b o hb=>by
  rcases VD b o hb with h | h
  ·exact pn.fresh b o h
  exact .inr (by have:=yN b h;omega)⟩
 have Wm:∀ q,q≤N→Hr q=none→H8 q=none:=fun q hq h0=>by
  cases h8:H8 q with
  | none=>rfl
  | some o =>
  rcases VD q o h8 with h | h
  ·rw[h0]at h;cases h
  have:=yN q h;omega
 have tr:=HX.out.bounds;have HI:=Hh (IsItem.build (x:=x) (H:=H8) (ba:=BA) (bc:=BC) (ia:=VA) (ic:=vc) ⟨tr.1,tr.2.1⟩ tr.2.2.1 (qn.mono (tC.trans TX)) rq rs XB);have Ib:=Wm N (Nat.le_refl _) Mi;have ef:=Wm (w.heap.size+1) (by omega) pO;clear tr XB rq rs VD vW pn rI yN Wm Mi pO Zr;go_wp2_with (with_reducible refine zx ?_)
 refine zu rfl _ _ _ rfl rfl N 3 (.slice VA vn vc) rfl rfl _ _ Nu xB (by simp) rfl fun w9 hP9 nU=>?_
 have uM:=uY.gr nU (by omega);have rJ:=Qj.grownOwn Ib (by omega) nU;have r0:=hP9.cell 0 rfl;have r1:=hP9.cell 1 rfl;have r2:=hP9.cell 2 rfl;have r3:=hP9.cell 3 rfl;clear Nu uY Qj;go_wp2_with (with_reducible refine zx ?_)
 refine stI uM fun w10 uI hg10=>?_
 have bI:=rJ.grownOwn ef (by omega) hg10;go_wp2_with fail
 refine vK rfl rfl uI rfl rfl zv rfl ?_
 obtain rfl:=Ho.out
 exact⟨_,rfl,BA,BC,VA,vc,H8,rfl,bI,HI.out⟩
theorem Vz (x:Itm):mf x:=by
 have main:∀ N,∀ x:Itm,cnt x≤N→mf x:=by
  intro N
  induction N with
  | zero =>
   intro x hx
   have:0<cnt x:=by cases x;rw[cnt];omega
   omega
  | succ N ih =>
  intro x hx
  exact Xw x fun y hy=>ih y (by omega)
 exact main _ x (Nat.le_refl _)
structure IsRowI (H:Snap) (A:Option Addr) (c:Nat) (l:List Itm):Prop where
 le:l.length≤c
 max:c≤9223372036854775807
 elems:0<l.length→∃ b off,A=some ⟨b,off,none⟩∧IsElems H b off l
theorem IsRowI.item {H:Snap}{A:Option Addr}{c:Nat}{l:List Itm}(h:IsRowI H A c l) (k:Int) (hk:0≤k∧k≤8) (n:Nat) (hn:n<18446744073709551616):IsItem H none 0 A c (.mk k n [] l):=by
 rw[IsItem]
 exact⟨⟨by omega,by omega,hn,h.le,h.max⟩,IsBytes.nil _,h.elems⟩
theorem Rdg.gb {T:TypeId}{w w' w'':World}{H H':Snap}{g k:Nat}{A:Option Addr}{c:Nat}{l:List UInt8}{p cnt:Nat}(h:Rdg T w H w' H' g A c l p cnt) (h0:H' k=none) (hw:w.heap.size≤k) (ye:g<w.heap.size) (hg:w'.grownBy w'' (some k)):Rdg T w H w'' H' g A c l p cnt:=h.grownRow (row:=some k) (by rintro q ⟨⟩;exact h0) (by rintro q ⟨⟩;exact hw) ye hg
end Go.Proofs.YtgcjjhibdbafmabGreatDoor
