/- squeezed. Readers of items: what a call does -/
import Derived.Test.YtnfoilblmhbobaaGreatDoorK22
set_option linter.unusedVariables false
set_option linter.unusedSimpArgs false
set_option maxRecDepth 100000
set_option maxHeartbeats 6400000
namespace Go.Proofs.YtnfoilblmhbobaaGreatDoor
open Go.RowKit
section
variable {T:TypeId} {w w' w'':World} {H H' H'':Snap} {g:Nat} {A:Option Addr} {c:Nat} {l:List UInt8} {p cnt p' cnt':Nat}
theorem Psr.gt (h:Psr T w g H A c l p cnt):g<w.heap.size:=h.blk.lt
structure Rdg (T:TypeId) (w:World) (H:Snap) (w':World) (H':Snap) (g:Nat) (A:Option Addr) (c:Nat) (l:List UInt8) (p cnt:Nat):Prop where
 grows:GrowsBut w H w' H' g
 psr:Psr T w' g H' A c l p cnt
theorem Rdg.refl (h:Psr T w g H A c l p cnt):Rdg T w H w H g A c l p cnt:=⟨GrowsBut.refl h.holds g,h⟩
theorem Rdg.trans (h:Rdg T w H w' H' g A c l p cnt) (k:Rdg T w' H' w'' H'' g A c l p' cnt'):Rdg T w H w'' H'' g A c l p' cnt':=⟨h.grows.trans k.grows,k.psr⟩
theorem Psr.grows (h:Psr T w g H A c l p cnt) (k:Grows w H w' H'):Rdg T w H w' H' g A c l p cnt :=
 ⟨k.but g,⟨h.blk.below k.below,h.bytes.mono k.le,k.holds,k.none h.apart h.gt,h.le,h.small,h.cnt_le⟩⟩
theorem Rdg.grown (h:Rdg T w H w' H' g A c l p cnt) (k:Grows w' H' w'' H''):Rdg T w H w'' H'' g A c l p cnt:=h.trans (h.psr.grows k)
theorem Rdg.alloc (h:Rdg T w H w' H' g A c l p cnt) (o:Obj):Rdg T w H (w'.alloc o) H' g A c l p cnt:=h.grown ((Grows.refl h.psr.holds).alloc o)
theorem Rdg.below_ (h:Rdg T w H w' H' g A c l p cnt) (k:Below w'.heap.size w' w''):Rdg T w H w'' H' g A c l p cnt:=h.grown (Grows.of_below h.psr.holds k)
theorem Rdg.drewN (h:Rdg T w H w' H' g A c l p cnt) (q:Nat):Rdg T w H (w'.drewN q) H' g A c l p cnt:=h.below_ (below_drewNv (Below.refl _ _) q)
theorem Rdg.size (h:Rdg T w H w' H' g A c l p cnt):w.heap.size≤w'.heap.size:=h.grows.grown.size
theorem Rdg.hid (h:Rdg T w H w' H' g A c l p cnt) {k:Nat}(hk:H k=.none) (hl:k<w.heap.size):H' k=.none:=h.grows.hid hk hl
theorem Rdg.step (h:Rdg T w H w' H' g A c l p cnt) (hg:w'.grownBy w'' (some g)) (hb:Blk w'' g T (uf A l.length c p' cnt')) (hp:p'≤l.length) (hc:cnt'≤256):Rdg T w H w'' H' g A c l p' cnt' :=
 ⟨⟨z8 h.grows.grown hg (.inl rfl),h.grows.le,h.psr.holds.grown hg (by rintro q ⟨⟩;exact h.psr.apart),h.grows.fresh⟩,
  hb,h.psr.bytes,h.psr.holds.grown hg (by rintro q ⟨⟩;exact h.psr.apart),h.psr.apart,hp,h.psr.small,hc⟩
theorem Rdg.grownRow {row:Option Nat}(h:Rdg T w H w' H' g A c l p cnt) (h0:∀ k,row=some k→H' k=.none) (hw:∀ k,row=some k→w.heap.size≤k) (z6:g<w.heap.size) (hg:w'.grownBy w'' row):Rdg T w H w'' H' g A c l p cnt:=by
 have hd:=h.psr;have ww:row≠some g:=fun e=>by have:=hw g e;omega
 refine⟨⟨?_,h.grows.le,hd.holds.grown hg h0,h.grows.fresh⟩,hd.blk.grown hg ww,hd.bytes,hd.holds.grown hg h0,hd.apart,hd.le,hd.small,hd.cnt_le⟩
 exact⟨hg.os.trans h.grows.grown.os,hg.tape.trans h.grows.grown.tape,hg.output.trans h.grows.grown.output,Nat.le_trans h.size hg.size,fun i hi hne' =>
   (hg.block i (Nat.lt_of_lt_of_le hi h.size) (fun e=>by have:=hw i e.symm;omega)).trans (h.grows.grown.block i hi hne')⟩
theorem Blk.rdg {k:Nat}{t:TypeId}{cs:Array Value}(h:Blk w k t cs) (hd:Rdg T w H w' H' g A c l p cnt) (hk:k≠g):Blk w' k t cs :=
 h.grown hd.grows.grown (by intro e;injection e with e;exact hk e.symm)
theorem OwnI.rdg {base:Nat}{v:Value}{K:Snap}{L:List Itm}(h:OwnI w base v K L) (hd:Rdg T w H w' H' g A c l p cnt) (hb:g<base):OwnI w' base v K L:=by
 refine h.kept hd.grows.grown ?_
 cases hv:v.ownBlock with
 | none=>exact .inl rfl
 | some k=>exact .inr (fun e=>by injection e with e;have:=h.lt k hv;omega)
def ItemOut (T:TypeId) (w:World) (H:Snap) (g:Nat) (A:Option Addr) (c:Nat) (l:List UInt8) (p:Nat) (r:PR) (e:Ending) (w':World):Prop :=
 match r with
 | .err q=>e=.returned (.tuple #[og,.int .i64 (q:Int)])∧(∃ H' p' cnt',Rdg T w H w' H' g A c l p' cnt')
 | .ok x k c'=>∃ ja jb jc jd H',e=.returned (.tuple #[qT x ja jb jc jd,.int .i64 0])∧Rdg T w H w' H' g A c l (p+k) c'∧IsItem H' ja jb jc jd x
theorem ItemOut.err {e:Ending}{r:PR}{q:Nat}(hr:r=.err q) (he:e=.returned (.tuple #[og,.int .i64 (q:Int)])) (h:Rdg T w H w' H' g A c l p' cnt'):ItemOut T w H g A c l p r e w':=by
 rw[hr,ItemOut];exact⟨he,H',p',cnt',h⟩
theorem ItemOut.ok {e:Ending}{r:PR}{x:Itm}{k c':Nat}{ja:Option Addr}{jb:Nat}{jc:Option Addr}{jd:Nat}(hr:r=.ok x k c') (he:e=.returned (.tuple #[qT x ja jb jc jd,.int .i64 0])) (h:Rdg T w H w' H' g A c l (p+k) c') (hi:IsItem H' ja jb jc jd x):ItemOut T w H g A c l p r e w':=by
 rw[hr,ItemOut];exact⟨ja,jb,jc,jd,H',he,h,hi⟩
end
def mQ (d:Nat):Prop:=∀ (w:World) (H:Snap) (g:Nat) (A:Option Addr) (c:Nat) (l:List UInt8) (p cnt lv:Nat),Tabs H→lv+d=8→Psr 86 w g H A c l p cnt→
 Calls Tryz.prog 39 #[.pointer (some ⟨g,0,none⟩),.int .i64 (lv:Int)] w (ItemOut 86 w H g A c l p (zc d (l.drop p) cnt))
theorem jT (d:Nat) (b:List UInt8) (c:Nat) (h:256≤c):zc d b c=.err 8:=by rw[zc.eq_def];simp only;rw[if_pos h]
theorem jU (d:Nat) (b:List UInt8) (c:Nat) (h:¬ 256≤c) {q:Nat}(hq:zR b=.error q):zc d b c=.err q:=by rw[zc.eq_def];simp only;rw[if_neg h,hq]
theorem oJ (d:Nat) (b:List UInt8) (c:Nat) (h:¬ 256≤c) {f n k:Nat}(hq:zR b=.ok (f,n,k)) (hk:f/32≤1):zc d b c=.ok (.mk (f/32:Nat) n [] []) k (c+1):=by
 rw[zc.eq_def];simp only;rw[if_neg h,hq];simp only;rw[if_pos hk]
theorem oK (d:Nat) (b:List UInt8) (c:Nat) (h:¬ 256≤c) {f n k:Nat}(hq:zR b=.ok (f,n,k)) (h1:¬ f/32≤1) (h3:f/32≤3):zc d b c =
  (if b.length<k+n then .err 2 else if f/32=3∧Lib.validD ((b.drop k).take n)=false then .err 5 else .ok (.mk (f/32:Nat) 0 ((b.drop k).take n) []) (k+n) (c+1)):=by
 rw[zc.eq_def];simp only;rw[if_neg h,hq];simp only;rw[if_neg h1,if_pos h3]
theorem lQ (d:Nat) (b:List UInt8) (c:Nat) (h:¬ 256≤c) {f n k:Nat}(hq:zR b=.ok (f,n,k)) (h7:f/32=7):zc d b c =
  (match yh (f%32) n with | .error e=>.err e | .ok x=>.ok x k (c+1)):=by
 rw[zc.eq_def];simp only;rw[if_neg h,hq];simp only;rw[if_neg (by omega),if_neg (by omega),if_pos h7]
 all_goals (cases yh (f%32) n <;> rfl)
theorem jS (b:List UInt8) (c:Nat) (h:¬ 256≤c) {f n k:Nat}(hq:zR b=.ok (f,n,k)) (h3:4≤f/32) (h7:f/32≤6):zc 0 b c=.err 8:=by
 rw[zc.eq_def];simp only;rw[if_neg h,hq];simp only;rw[if_neg (by omega),if_neg (by omega),if_neg (by omega)]
theorem gF (d:Nat) (b:List UInt8) (c:Nat) (h:¬ 256≤c) {f n k:Nat}(hq:zR b=.ok (f,n,k)) (h6:f/32=6):zc (d+1) b c =
  (match zc d (b.drop k) (c+1) with | .err e=>.err e | .ok x k' c'=>.ok (.mk 6 n [] [x]) (k+k') c'):=by
 rw[zc.eq_def];simp only;rw[if_neg h,hq];simp only;rw[if_neg (by omega),if_neg (by omega),if_neg (by omega),if_pos h6]
 all_goals (cases zc d (b.drop k) (c+1) <;> rfl)
theorem gE (d:Nat) (b:List UInt8) (c:Nat) (h:¬ 256≤c) {f n k:Nat}(hq:zR b=.ok (f,n,k)) (h5:f/32=5):zc (d+1) b c =
  (match xo (zc d) n (b.drop k) (c+1) none with | .err e=>.err e | .ok l k' c'=>.ok (.mk 5 0 [] l) (k+k') c'):=by
 rw[zc.eq_def];simp only;rw[if_neg h,hq];simp only;rw[if_neg (by omega),if_neg (by omega),if_neg (by omega),if_neg (by omega),if_pos h5]
 all_goals (cases xo (zc d) n (b.drop k) (c+1) none <;> rfl)
theorem gD (d:Nat) (b:List UInt8) (c:Nat) (h:¬ 256≤c) {f n k:Nat}(hq:zR b=.ok (f,n,k)) (h4:f/32=4):zc (d+1) b c =
  (match uy (zc d) n (b.drop k) (c+1) with | .err e=>.err e | .ok l k' c'=>.ok (.mk 4 0 [] l) (k+k') c'):=by
 rw[zc.eq_def];simp only;rw[if_neg h,hq];simp only;rw[if_neg (by omega),if_neg (by omega),if_neg (by omega),if_neg (by omega),if_neg (by omega)]
 all_goals (cases uy (zc d) n (b.drop k) (c+1) <;> rfl)
theorem tX {b:List UInt8}{q:Nat}(h:zR b=.error q):q=2∨q=3∨q=4:=by
 cases b with
 | nil=>injection h with h;omega
 | cons f t =>
 simp only[zR]at h
 repeat' split at h
 all_goals first | (injection h with h;omega) | cases h
theorem pu {low n q:Nat}(h:yh low n=.error q):q=4:=by
 rw[yh]at h
 repeat' split at h
 all_goals first | (injection h with h;omega) | cases h
theorem lZ {low n:Nat}{x:Itm}(h:yh low n=.ok x):∃ kd m,x=.mk kd m [] []∧(kd=7∨kd=8):=by
 rw[yh]at h
 split at h
 ·injection h with h;exact⟨7,n,h.symm,.inl rfl⟩
 split at h
 ·split at h
  ·cases h
  injection h with h;exact⟨7,n,h.symm,.inl rfl⟩
 split at h
 ·cases h
 injection h with h;exact⟨8,_,h.symm,.inr rfl⟩
theorem je {H:Snap}{b:List UInt8}{f n k:Nat}{x:Itm}(HS:HeadIs b f n k) (h:yh (f%32) n=.ok x):IsItem H none 0 none 0 x:=by
 have hx:x.n<18446744073709551616:=by
  have:=HS.low
  rcases Nat.lt_or_ge (f%32) 24 with hl | hl
  ·obtain⟨s1,s2,s3⟩:=HS.small hl
   exact(uO (low:=f%32) (t:=[]) (by omega) (fun _=>⟨s1,rfl⟩) (fun h=>by omega) h).2.2.1
  obtain⟨s1,t,s2,s3,s4⟩:=HS.wide hl
  exact(uO (low:=f%32) (t:=t) (by omega) (fun h=>by omega) (fun _=>⟨s2,s4⟩) h).2.2.1
 obtain⟨kd,m,rfl,hk⟩:=lZ h
 exact IsItem.plain _ kd m (by omega) hx
section
variable {d:Nat} {w:World} {H:Snap} {g:Nat} {A:Option Addr} {c:Nat} {l:List UInt8} {p cnt lv:Nat}
theorem lO (hTab:Tabs H) (hlv:lv+d=8) (hP:Psr 86 w g H A c l p cnt) (hc:cnt=256):Calls Tryz.prog 39 #[.pointer (some ⟨g,0,none⟩),.int .i64 (lv:Int)] w (ItemOut 86 w H g A c l p (zc d (l.drop p) cnt)):=by
 have xA:=hP.gt;have wv:=(Rdg.refl hP).alloc zX;have vR:=Blk.new w 73 #[.int .i64 0,.int .u64 0,.slice none 0 0,.slice none 0 0];have vz:H w.heap.size=none:=hP.holds.none_of_ge (Nat.le_refl _);have c2:=wv.psr.blk.cell 2 rfl;have xN:((cnt:Int)==256)=true:=by simp;omega
 have yG:((cnt:Int)=256)=True:=eq_true (by omega);have E:=Hh (jT d (l.drop p) cnt (by omega));clear hc;go_enter Tryz.func39,Tryz.ntmps39
 go_wp2_with (with_reducible refine zx ?_)
 refine stI vR fun wz hTy hgz=>?_
 have wV:=wv.grownRow (row:=some w.heap.size) (by rintro q ⟨⟩;exact vz) (by rintro q ⟨⟩;exact Nat.le_refl _) xA hgz;go_wp2_with fail
 refine zo rfl rfl hTy rfl rfl zi rfl ?_
 exact ItemOut.err (q:=8) E.out rfl wV
theorem lP (hTab:Tabs H) (hlv:lv+d=8) (hP:Psr 86 w g H A c l p cnt) (hc:cnt<256) {q:Nat}(hh:zR (l.drop p)=.error q):Calls Tryz.prog 39 #[.pointer (some ⟨g,0,none⟩),.int .i64 (lv:Int)] w (ItemOut 86 w H g A c l p (zc d (l.drop p) cnt)):=by
 have xA:=hP.gt;have wv:=(Rdg.refl hP).alloc zX;have vR:=Blk.new w 73 #[.int .i64 0,.int .u64 0,.slice none 0 0,.slice none 0 0];have vz:H w.heap.size=none:=hP.holds.none_of_ge (Nat.le_refl _);have c2:=wv.psr.blk.cell 2 rfl;have E:=Hh (jU d (l.drop p) cnt (by omega) hh);have ui:((q:Int) != 0)=true:=by rw[bne_iff_ne];have:=tX hh;omega
 have kL:((q:Int)=0)=False:=eq_false (by have:=tX hh;omega);have xN:((cnt:Int)==256)=false:=by simp;omega
 have yG:((cnt:Int)=256)=False:=eq_false (by omega);have KC:IntKind.i64.wrap ((cnt:Int)+1)=(cnt:Int)+1:=IntWalk.i64_in _ (by omega);have HC:=Hh hc;clear hc;go_enter Tryz.func39,Tryz.ntmps39
 go_wp2_with (with_reducible refine zx ?_)
 refine zv rfl _ _ _ rfl rfl g 2 (.int .i64 ((cnt:Int)+1)) rfl rfl _ _ wv.psr.blk yq (by simp) rfl fun w2 xO yw=>?_
 have vS:Rdg 86 w H w2 H g A c l p (cnt+1):=wv.step yw xO hP.le (by have:=HC.out;omega);have tf:=vR.gr yw (by omega);have PH:=Hh (ux vS.psr);clear wv vR xO yw c2 KC xN yG;go_wp2_with fail
 refine PH.out.mono ?_
 intro e w3 hs
 rw[HeadSaid,hh]at hs;obtain⟨rfl,⟨p',Sw,wP⟩,yt⟩:=hs;have vq:Rdg 86 w H w3 H g A c l p' (cnt+1):=vS.step yt wP Sw (by have:=HC.out;omega);have wR:=tf.gr yt (by omega);clear vS tf wP yt PH hh;go_wp2_with (with_reducible refine zx ?_)
 refine stI wR fun wz hTy hgz=>?_
 have wV:=vq.grownRow (row:=some w.heap.size) (by rintro q ⟨⟩;exact vz) (by rintro q ⟨⟩;exact Nat.le_refl _) xA hgz;go_wp2_with fail
 refine zo rfl rfl hTy rfl rfl zi rfl ?_
 exact ItemOut.err E.out rfl wV
theorem dU (hTab:Tabs H) (hlv:lv+d=8) (hP:Psr 86 w g H A c l p cnt) (hc:cnt<256) {f n k:Nat}(hh:zR (l.drop p)=.ok (f,n,k)) (hk:f/32=0):Calls Tryz.prog 39 #[.pointer (some ⟨g,0,none⟩),.int .i64 (lv:Int)] w (ItemOut 86 w H g A c l p (zc d (l.drop p) cnt)):=by
 have xA:=hP.gt;have wv:=(Rdg.refl hP).alloc zX;have vR:=Blk.new w 73 #[.int .i64 0,.int .u64 0,.slice none 0 0,.slice none 0 0];have vz:H w.heap.size=none:=hP.holds.none_of_ge (Nat.le_refl _);have c2:=wv.psr.blk.cell 2 rfl;have E:Hid (zc d (l.drop p) cnt=.ok (.mk 0 n [] []) k (cnt+1)):=by rw[Hid,oJ d (l.drop p) cnt (by omega) hh (by omega),hk];rfl
 have S:(f:Int)/32=0:=by omega
 have xN:((cnt:Int)==256)=false:=by simp;omega
 have yG:((cnt:Int)=256)=False:=eq_false (by omega);have KC:IntKind.i64.wrap ((cnt:Int)+1)=(cnt:Int)+1:=IntWalk.i64_in _ (by omega);have HC:=Hh hc;clear hc;go_enter Tryz.func39,Tryz.ntmps39
 go_wp2_with (with_reducible refine zx ?_)
 refine zv rfl _ _ _ rfl rfl g 2 (.int .i64 ((cnt:Int)+1)) rfl rfl _ _ wv.psr.blk yq (by simp) rfl fun w2 xO yw=>?_
 have vS:Rdg 86 w H w2 H g A c l p (cnt+1):=wv.step yw xO hP.le (by have:=HC.out;omega);have tf:=vR.gr yw (by omega);have PH:=Hh (ux vS.psr);clear wv vR xO yw c2 KC xN yG;go_wp2_with fail
 refine PH.out.mono ?_
 intro e w3 hs
 rw[HeadSaid,hh]at hs;obtain⟨rfl,wP,yt⟩:=hs;have HS:=yP hh;have uz:p+k≤l.length:=by have:=HS.le;rw[List.length_drop]at this;have:=hP.le;omega
 have vq:Rdg 86 w H w3 H g A c l (p+k) (cnt+1):=vS.step yt wP uz (by have:=HC.out;omega);have wR:=tf.gr yt (by omega);have HF:=Hh HS;clear vS tf wP yt PH HS hh;go_wp2_with (with_reducible refine zx ?_)
 refine stI wR fun wz hTy hgz=>?_
 have wV:=vq.grownRow (row:=some w.heap.size) (by rintro q ⟨⟩;exact vz) (by rintro q ⟨⟩;exact Nat.le_refl _) xA hgz;go_wp2_with fail
 refine zo rfl rfl hTy rfl rfl zi rfl ?_
 exact ItemOut.ok (ja:=none) (jb:=0) (jc:=none) (jd:=0) E.out rfl wV (IsItem.plain _ 0 n (by omega) HF.out.n_lt)
theorem dV (hTab:Tabs H) (hlv:lv+d=8) (hP:Psr 86 w g H A c l p cnt) (hc:cnt<256) {f n k:Nat}(hh:zR (l.drop p)=.ok (f,n,k)) (hk:f/32=1):Calls Tryz.prog 39 #[.pointer (some ⟨g,0,none⟩),.int .i64 (lv:Int)] w (ItemOut 86 w H g A c l p (zc d (l.drop p) cnt)):=by
 have xA:=hP.gt;have wv:=(Rdg.refl hP).alloc zX;have vR:=Blk.new w 73 #[.int .i64 0,.int .u64 0,.slice none 0 0,.slice none 0 0];have vz:H w.heap.size=none:=hP.holds.none_of_ge (Nat.le_refl _);have c2:=wv.psr.blk.cell 2 rfl;have E:Hid (zc d (l.drop p) cnt=.ok (.mk 1 n [] []) k (cnt+1)):=by rw[Hid,oJ d (l.drop p) cnt (by omega) hh (by omega),hk];rfl
 have S:(f:Int)/32=1:=by omega
 have xN:((cnt:Int)==256)=false:=by simp;omega
 have yG:((cnt:Int)=256)=False:=eq_false (by omega);have KC:IntKind.i64.wrap ((cnt:Int)+1)=(cnt:Int)+1:=IntWalk.i64_in _ (by omega);have HC:=Hh hc;clear hc;go_enter Tryz.func39,Tryz.ntmps39
 go_wp2_with (with_reducible refine zx ?_)
 refine zv rfl _ _ _ rfl rfl g 2 (.int .i64 ((cnt:Int)+1)) rfl rfl _ _ wv.psr.blk yq (by simp) rfl fun w2 xO yw=>?_
 have vS:Rdg 86 w H w2 H g A c l p (cnt+1):=wv.step yw xO hP.le (by have:=HC.out;omega);have tf:=vR.gr yw (by omega);have PH:=Hh (ux vS.psr);clear wv vR xO yw c2 KC xN yG;go_wp2_with fail
 refine PH.out.mono ?_
 intro e w3 hs
 rw[HeadSaid,hh]at hs;obtain⟨rfl,wP,yt⟩:=hs;have HS:=yP hh;have uz:p+k≤l.length:=by have:=HS.le;rw[List.length_drop]at this;have:=hP.le;omega
 have vq:Rdg 86 w H w3 H g A c l (p+k) (cnt+1):=vS.step yt wP uz (by have:=HC.out;omega);have wR:=tf.gr yt (by omega);have HF:=Hh HS;clear vS tf wP yt PH HS hh;go_wp2_with (with_reducible refine zx ?_)
 refine stI wR fun wz hTy hgz=>?_
 have wV:=vq.grownRow (row:=some w.heap.size) (by rintro q ⟨⟩;exact vz) (by rintro q ⟨⟩;exact Nat.le_refl _) xA hgz;go_wp2_with fail
 refine zo rfl rfl hTy rfl rfl zi rfl ?_
 exact ItemOut.ok (ja:=none) (jb:=0) (jc:=none) (jd:=0) E.out rfl wV (IsItem.plain _ 1 n (by omega) HF.out.n_lt)
theorem db (hTab:Tabs H) (hlv:lv+d=8) (hP:Psr 86 w g H A c l p cnt) (hc:cnt<256) {f n k:Nat}(hh:zR (l.drop p)=.ok (f,n,k)) (hk:f/32=7):Calls Tryz.prog 39 #[.pointer (some ⟨g,0,none⟩),.int .i64 (lv:Int)] w (ItemOut 86 w H g A c l p (zc d (l.drop p) cnt)):=by
 have xA:=hP.gt;have wv:=(Rdg.refl hP).alloc zX;have vR:=Blk.new w 73 #[.int .i64 0,.int .u64 0,.slice none 0 0,.slice none 0 0];have vz:H w.heap.size=none:=hP.holds.none_of_ge (Nat.le_refl _);have c2:=wv.psr.blk.cell 2 rfl;have E0:=Hh (lQ d (l.drop p) cnt (by omega) hh hk);have S:(f:Int)/32=7:=by omega
 have xN:((cnt:Int)==256)=false:=by simp;omega
 have yG:((cnt:Int)=256)=False:=eq_false (by omega);have KC:IntKind.i64.wrap ((cnt:Int)+1)=(cnt:Int)+1:=IntWalk.i64_in _ (by omega);have HC:=Hh hc;clear hc;go_enter Tryz.func39,Tryz.ntmps39
 go_wp2_with (with_reducible refine zx ?_)
 refine zv rfl _ _ _ rfl rfl g 2 (.int .i64 ((cnt:Int)+1)) rfl rfl _ _ wv.psr.blk yq (by simp) rfl fun w2 xO yw=>?_
 have vS:Rdg 86 w H w2 H g A c l p (cnt+1):=wv.step yw xO hP.le (by have:=HC.out;omega);have tf:=vR.gr yw (by omega);have PH:=Hh (ux vS.psr);clear wv vR xO yw c2 KC xN yG;go_wp2_with fail
 refine PH.out.mono ?_
 intro e w3 hs
 rw[HeadSaid,hh]at hs;obtain⟨rfl,wP,yt⟩:=hs;have HS:=yP hh;have uz:p+k≤l.length:=by have:=HS.le;rw[List.length_drop]at this;have:=hP.le;omega
 have vq:Rdg 86 w H w3 H g A c l (p+k) (cnt+1):=vS.step yt wP uz (by have:=HC.out;omega);have wR:=tf.gr yt (by omega);have HF:=Hh HS;clear vS tf wP yt PH HS hh
 have SV:=Hh (fun w=>jB f n HF.out.f_lt HF.out.low HF.out.n_lt (by
  intro h25
  obtain⟨_,t,h1,_,h2⟩:=HF.out.wide (by omega);have:=uV t;rw[h1,h25]at this;rw[h2];simpa using this) (by
  intro h26
  obtain⟨_,t,h1,_,h2⟩:=HF.out.wide (by omega);have:=uV t;rw[h1,h26]at this;rw[h2];simpa using this) w)
 go_wp2_with fail
 refine(SV.out _).mono ?_
 intro e w4 hs
 obtain⟨xW,hs⟩:=hs;have uq:=vq.below_ xW;have wF:=wR.below xW;clear vq wR SV xW
 cases hsv:yh (f%32) n with
 | error q =>
  rw[hsv]at hs
  simp only at hs
  subst hs;have E:Hid (zc d (l.drop p) cnt=.err q):=by rw[Hid,E0.out,hsv]
  go_wp2_with (with_reducible refine zx ?_)
  refine stI wF fun wz hTy hgz=>?_
  have wV:=uq.grownRow (row:=some w.heap.size) (by rintro q ⟨⟩;exact vz) (by rintro q ⟨⟩;exact Nat.le_refl _) xA hgz;go_wp2_with fail
  refine zo rfl rfl hTy rfl rfl zi rfl ?_
  exact ItemOut.err E.out rfl wV
 | ok x =>
 rw[hsv]at hs
 simp only at hs
 subst hs;have E:Hid (zc d (l.drop p) cnt=.ok x k (cnt+1)):=by rw[Hid,E0.out,hsv]
 have YK:IsItem H none 0 none 0 x:=je HF.out hsv;clear hsv;go_wp2_with (with_reducible refine zx ?_)
 refine stI wF fun wz hTy hgz=>?_
 have wV:=uq.grownRow (row:=some w.heap.size) (by rintro q ⟨⟩;exact vz) (by rintro q ⟨⟩;exact Nat.le_refl _) xA hgz;go_wp2_with fail
 refine zo rfl rfl hTy rfl rfl zi rfl ?_
 exact ItemOut.ok E.out rfl wV YK
theorem lN (hTab:Tabs H) (hlv:lv=8) (hP:Psr 86 w g H A c l p cnt) (hc:cnt<256) {f n k:Nat}(hh:zR (l.drop p)=.ok (f,n,k)) (h4:4≤f/32) (h6:f/32≤6):Calls Tryz.prog 39 #[.pointer (some ⟨g,0,none⟩),.int .i64 (lv:Int)] w (ItemOut 86 w H g A c l p (zc 0 (l.drop p) cnt)):=by
 have xA:=hP.gt;have wv:=(Rdg.refl hP).alloc zX;have vR:=Blk.new w 73 #[.int .i64 0,.int .u64 0,.slice none 0 0,.slice none 0 0];have vz:H w.heap.size=none:=hP.holds.none_of_ge (Nat.le_refl _);have c2:=wv.psr.blk.cell 2 rfl;have E:=Hh (jS (l.drop p) cnt (by omega) hh h4 h6);obtain⟨kd,We⟩:∃ kd,f/32=kd:=⟨_,rfl⟩
 have S:(f:Int)/32=(kd:Int):=by omega
 have s0:((kd:Int)==0)=false:=by simp;omega
 have s1:((kd:Int)==1)=false:=by simp;omega
 have s2:((kd:Int)==2)=false:=by simp;omega
 have s3:((kd:Int)==3)=false:=by simp;omega
 have s7:((kd:Int)==7)=false:=by simp;omega
 have q0:((kd:Int)=0)=False:=eq_false (by omega);have q1:((kd:Int)=1)=False:=eq_false (by omega);have q2:((kd:Int)=2)=False:=eq_false (by omega);have q3:((kd:Int)=3)=False:=eq_false (by omega);have q7:((kd:Int)=7)=False:=eq_false (by omega);have fI:(kd:Int)≤7:=by omega
 subst hlv;clear We h4 h6;have xN:((cnt:Int)==256)=false:=by simp;omega
 have yG:((cnt:Int)=256)=False:=eq_false (by omega);have KC:IntKind.i64.wrap ((cnt:Int)+1)=(cnt:Int)+1:=IntWalk.i64_in _ (by omega);have HC:=Hh hc;clear hc;go_enter Tryz.func39,Tryz.ntmps39
 go_wp2_with (with_reducible refine zx ?_)
 refine zv rfl _ _ _ rfl rfl g 2 (.int .i64 ((cnt:Int)+1)) rfl rfl _ _ wv.psr.blk yq (by simp) rfl fun w2 xO yw=>?_
 have vS:Rdg 86 w H w2 H g A c l p (cnt+1):=wv.step yw xO hP.le (by have:=HC.out;omega);have tf:=vR.gr yw (by omega);have PH:=Hh (ux vS.psr);clear wv vR xO yw c2 KC xN yG;go_wp2_with fail
 refine PH.out.mono ?_
 intro e w3 hs
 rw[HeadSaid,hh]at hs;obtain⟨rfl,wP,yt⟩:=hs;have HS:=yP hh;have uz:p+k≤l.length:=by have:=HS.le;rw[List.length_drop]at this;have:=hP.le;omega
 have vq:Rdg 86 w H w3 H g A c l (p+k) (cnt+1):=vS.step yt wP uz (by have:=HC.out;omega);have wR:=tf.gr yt (by omega);have HF:=Hh HS;clear vS tf wP yt PH HS hh;go_wp2_with (with_reducible refine zx ?_)
 refine stI wR fun wz hTy hgz=>?_
 have wV:=vq.grownRow (row:=some w.heap.size) (by rintro q ⟨⟩;exact vz) (by rintro q ⟨⟩;exact Nat.le_refl _) xA hgz;go_wp2_with fail
 refine zo rfl rfl hTy rfl rfl zi rfl ?_
 exact ItemOut.err E.out rfl wV
end
section
variable {d:Nat} {w:World} {H:Snap} {g:Nat} {A:Option Addr} {c:Nat} {l:List UInt8} {p cnt lv:Nat}
theorem IsItem.str {H:Snap}{B:Option Addr}{bc:Nat}{s:List UInt8}(k:Int) (hk:0≤k∧k≤8) (h:IsBytes H B bc s):IsItem H B bc none 0 (.mk k 0 s []):=by
 rw[IsItem]
 exact⟨⟨by omega,by omega,by omega,Nat.le_refl _,by omega⟩,h,fun h=>absurd h (by simp)⟩
theorem dW (hTab:Tabs H) (hlv:lv+d=8) (hP:Psr 86 w g H A c l p cnt) (hc:cnt<256) {f n k:Nat}(hh:zR (l.drop p)=.ok (f,n,k)) (hk:f/32=2):Calls Tryz.prog 39 #[.pointer (some ⟨g,0,none⟩),.int .i64 (lv:Int)] w (ItemOut 86 w H g A c l p (zc d (l.drop p) cnt)):=by
 have xA:=hP.gt;have wv:=(Rdg.refl hP).alloc zX;have vR:=Blk.new w 73 #[.int .i64 0,.int .u64 0,.slice none 0 0,.slice none 0 0];have vz:H w.heap.size=none:=hP.holds.none_of_ge (Nat.le_refl _);have c2:=wv.psr.blk.cell 2 rfl
 have E0:Hid (zc d (l.drop p) cnt=(if(l.drop p).length<k+n then .err 2 else if 2=3∧Lib.validD (((l.drop p).drop k).take n)=false then .err 5 else .ok (.mk 2 0 (((l.drop p).drop k).take n) []) (k+n) (cnt+1))):=by
  rw[Hid,oK d (l.drop p) cnt (by omega) hh (by omega) (by omega),hk];first | rfl | (simp only[true_and];first | done | rfl) | simp
 have S:(f:Int)/32=2:=by omega
 have xN:((cnt:Int)==256)=false:=by simp;omega
 have yG:((cnt:Int)=256)=False:=eq_false (by omega);have KC:IntKind.i64.wrap ((cnt:Int)+1)=(cnt:Int)+1:=IntWalk.i64_in _ (by omega);have HC:=Hh hc;clear hc;go_enter Tryz.func39,Tryz.ntmps39
 go_wp2_with (with_reducible refine zx ?_)
 refine zv rfl _ _ _ rfl rfl g 2 (.int .i64 ((cnt:Int)+1)) rfl rfl _ _ wv.psr.blk yq (by simp) rfl fun w2 xO yw=>?_
 have vS:Rdg 86 w H w2 H g A c l p (cnt+1):=wv.step yw xO hP.le (by have:=HC.out;omega);have tf:=vR.gr yw (by omega);have PH:=Hh (ux vS.psr);clear wv vR xO yw c2 KC xN yG;go_wp2_with fail
 refine PH.out.mono ?_
 intro e w3 hs
 rw[HeadSaid,hh]at hs;obtain⟨rfl,wP,yt⟩:=hs;have HS:=yP hh;have uz:p+k≤l.length:=by have:=HS.le;rw[List.length_drop]at this;have:=hP.le;omega
 have vq:Rdg 86 w H w3 H g A c l (p+k) (cnt+1):=vS.step yt wP uz (by have:=HC.out;omega);have wR:=tf.gr yt (by omega);have HF:=Hh HS;clear vS tf wP yt PH HS hh;have nf:=HF.out.pos;obtain⟨b,off,rfl,tw⟩:=vq.psr.bytes.at_ (by omega);have ki:=vq.psr.small;have pL:=vq.psr.bytes.le;have oo:=vq.psr.bytes.max;have sZ:=HF.out.n_lt;have al:(l.drop p).length=l.length-p:=List.length_drop;obtain⟨P,cC⟩:∃ P,p+k=P:=⟨_,rfl⟩
 obtain⟨s,fP⟩:∃ s,((l.drop p).drop k).take n=s:=⟨_,rfl⟩
 rw[fP]at E0;rw[List.drop_drop,cC]at fP;rw[cC]at vq uz;have K1:IntKind.i64.wrap ((l.length:Int)-(P:Int))=(l.length:Int)-(P:Int):=IntWalk.i64_in _ (by omega);have K2:IntKind.u64.wrap ((l.length:Int)-(P:Int))=(l.length:Int)-(P:Int):=by rw[IntKind.wrap_u64];omega
 have a0:=vq.psr.blk.cell 0 rfl;have a1:=vq.psr.blk.cell 1 rfl;have ST:(P:Int)≤(l.length:Int):=by omega
 have fZ:(l.length:Int)≤4096:=by omega
 by_cases z6:l.length<P+n
 ·have z0:(l.length:Int)-(P:Int)<(n:Int):=by omega
  have E:Hid (zc d (l.drop p) cnt=.err 2):=by rw[Hid,E0.out,if_pos (by omega)]
  clear ki pL oo sZ al cC fP E0 z6 tw;go_wp2_with fail
  go_big_quiet (fail)
  have uq:=vq.drewN nq;have wF:Blk (w3.drewN nq) w.heap.size 73 #[.int .i64 0,.int .u64 0,.slice none 0 0,.slice none 0 0]:=wR;go_wp2_with (with_reducible refine zx ?_)
  refine stI wF fun wz hTy hgz=>?_
  have wV:=uq.grownRow (row:=some w.heap.size) (by rintro q ⟨⟩;exact vz) (by rintro q ⟨⟩;exact Nat.le_refl _) xA hgz;go_wp2_with fail
  refine zo rfl rfl hTy rfl rfl zi rfl ?_
  exact ItemOut.err E.out rfl wV
 have z0:¬ ((l.length:Int)-(P:Int)<(n:Int)):=by omega
 have z0b:decide ((l.length:Int)-(P:Int)<(n:Int))=false:=decide_eq_false z0;have E1:Hid (zc d (l.drop p) cnt=(if 2=3∧Lib.validD s=false then .err 5 else .ok (.mk 2 0 s []) (k+n) (cnt+1))):=by rw[Hid,E0.out,if_neg (by omega)];try simp
 have YH:n=s.length:=by rw[← fP,List.length_take,List.length_drop];omega
 have ez:=Hh YH;clear YH;have KN:IntKind.i64.wrap (n:Int)=(n:Int):=IntWalk.i64_in _ (by omega);have KP:IntKind.i64.wrap ((P:Int)+(n:Int))=(P:Int)+(n:Int):=IntWalk.i64_in _ (by omega);have kt:((P:Int)+(n:Int)).toNat=P+n:=by omega
 have y0:(0:Int)≤(P:Int)+(n:Int):=by omega
 have y5:P≤P+n:=by omega
 have y6:P+n-P=n:=by omega
 have y1:(P:Int)≤(P:Int)+(n:Int):=by omega
 have y2:(P:Int)+(n:Int)≤(c:Int):=by omega
 have y3:(P:Int)≤(c:Int):=by omega
 have y4:(0:Int)≤(P:Int):=by omega
 have HK:=Hh (And.intro ki (And.intro pL (And.intro oo cC)));go_wp2_with fail
 go_big_quiet (fail)
 have kC:=vq.drewN nq;have jy:Blk (w3.drewN nq) w.heap.size 73 #[.int .i64 0,.int .u64 0,.slice none 0 0,.slice none 0 0]:=wR
 generalize w3.drewN nq=w4 at kC jy⊢
 obtain⟨uq,wF⟩:=And.intro kC jy;clear kC jy vq wR a0 a1 E0 z0 z0b;have ob:∀ j (hj:j<l.length),w4.cell? ⟨b,off+j,none⟩=some (zm l[j]):=fun j hj=>uq.psr.holds.cell (tw j hj)
 by_cases ak:c=P
 ·have Zb:P=c:=ak.symm;subst Zb;clear ak;have ue:Rdg 86 w H w4.drew H g (some ⟨b,off,none⟩) P l P (cnt+1):=uq.drewN 1;have sy:Blk w4.drew w.heap.size 73 #[.int .i64 0,.int .u64 0,.slice none 0 0,.slice none 0 0]:=wF;have CL:=Hh (vE w4.drew (some ⟨b,off,none⟩) s n 0 ez.out (by have:=ez.out;omega) (by have hz:s=[]:=List.eq_nil_of_length_eq_zero (by have:=ez.out;omega);rw[hz];exact Src.nil _ _));have a0:=uq.psr.blk.cell 0 rfl;have a1:=uq.psr.blk.cell 1 rfl;clear uq wF;go_upto_region 16 with fail
  refine zp 17 (fun w'=>w'.cell? ⟨g,0,none⟩=some (.slice (some ⟨b,off,none⟩) l.length P)∧w'.cell? ⟨g,1,none⟩=some (.int .i64 (P:Int))) (by kernel_rfl) (⟨a0,a1⟩) (fun zy=>?_)
  refine Tk 0 rfl zy ?_
  refine Tk 1 rfl zy ?_
  refine Tk 2 rfl zy ?_
  refine Tk 3 rfl zy ?_
  refine Tk 4 rfl zy ?_
  refine Tk 5 rfl zy ?_
  refine Tk 6 rfl zy ?_
  refine Tk 7 rfl zy ?_
  refine Tk 8 rfl zy ?_
  refine Tk 9 rfl zy ?_
  refine Tk 10 rfl zy ?_
  refine Tk 11 rfl zy ?_
  refine Tk 12 rfl zy ?_
  refine Tk 13 rfl zy ?_
  refine Tk 14 rfl zy ?_
  refine Tk 15 rfl zy ?_
  refine To 16 rfl fun K hK=>?_
  go_simp
  refine CL.out.mono ?_
  rintro e w5 ⟨r5,rfl,xT⟩
  obtain⟨RA,rc,rfl,_⟩:=xT.own.form;have rj:=ue.below_ xT.2
  refine Ko hK ?_ fun zy=>?_
  ·exact⟨rj.psr.blk.cell 0 rfl,rj.psr.blk.cell 1 rfl⟩
  clear hK K
  refine To 17 rfl fun K hK=>?_
  go_simp
  refine Kz hK ?_
  clear hK K
  refine Wd ?_
  clear zy CL a0 a1;have vN:=sy.below xT.2;obtain⟨H6,yC,pS,_⟩:=Fresh.snapB ue.psr.holds xT;have vr:=ue.grown yC;have ov:=yC.none vz sy.lt;clear rj xT ue sy;have a1:=vr.psr.blk.cell 1 rfl;go_wp2_with (with_reducible refine zx ?_)
  refine zv rfl _ _ _ rfl rfl g 1 (.int .i64 ((P:Int)+(n:Int))) rfl rfl _ _ vr.psr.blk yq (by simp) rfl fun w7 im xp=>?_
  have sV:Rdg 86 w H w7 H6 g (some ⟨b,off,none⟩) P l (P+n) (cnt+1):=vr.step xp im (by omega) (by have:=HC.out;omega);have ug:=vN.gr xp (by omega);have fL:=ov;clear vr vN im xp a1;have E:Hid (zc d (l.drop p) cnt=.ok (.mk 2 0 s []) (k+n) (cnt+1)):=by rw[Hid,E1.out,if_neg (fun h=>absurd h.1 (by omega))]
  have IB:=pS;clear E1;go_wp2_with (with_reducible refine zx ?_)
  refine stI ug fun wz hTy hgz=>?_
  have wV:=sV.grownRow (row:=some w.heap.size) (by rintro q ⟨⟩;exact fL) (by rintro q ⟨⟩;exact Nat.le_refl _) xA hgz;go_wp2_with fail
  refine zo rfl rfl hTy rfl rfl zi rfl ?_
  exact ItemOut.ok E.out rfl (by rw[← Nat.add_assoc,HK.out.2.2.2];exact wV) (IsItem.str 2 (by omega) IB)
 have UY:(c=P)=False:=eq_false ak;have ue:Rdg 86 w H w4.drew H g (some ⟨b,off,none⟩) c l P (cnt+1):=uq.drewN 1;have sy:Blk w4.drew w.heap.size 73 #[.int .i64 0,.int .u64 0,.slice none 0 0,.slice none 0 0]:=wF;have CL:=Hh (vE w4.drew (some ⟨b,off+P,none⟩) s n (c-P) ez.out (by have:=ez.out;omega) ((by have hq:=ql (w:=w4.drew) (n:=n) ob P (some ⟨b,off+P,none⟩) (fun _=>rfl) (by omega);rw[fP]at hq;exact hq)));have a0:=uq.psr.blk.cell 0 rfl;have a1:=uq.psr.blk.cell 1 rfl;clear uq wF;go_upto_region 16 with fail
 refine zp 17 (fun w'=>w'.cell? ⟨g,0,none⟩=some (.slice (some ⟨b,off,none⟩) l.length c)∧w'.cell? ⟨g,1,none⟩=some (.int .i64 (P:Int))) (by kernel_rfl) (⟨a0,a1⟩) (fun zy=>?_)
 refine Tk 0 rfl zy ?_
 refine Tk 1 rfl zy ?_
 refine Tk 2 rfl zy ?_
 refine Tk 3 rfl zy ?_
 refine Tk 4 rfl zy ?_
 refine Tk 5 rfl zy ?_
 refine Tk 6 rfl zy ?_
 refine Tk 7 rfl zy ?_
 refine Tk 8 rfl zy ?_
 refine Tk 9 rfl zy ?_
 refine Tk 10 rfl zy ?_
 refine Tk 11 rfl zy ?_
 refine Tk 12 rfl zy ?_
 refine Tk 13 rfl zy ?_
 refine Tk 14 rfl zy ?_
 refine Tk 15 rfl zy ?_
 refine To 16 rfl fun K hK=>?_
 go_simp
 refine CL.out.mono ?_
 rintro e w5 ⟨r5,rfl,xT⟩
 obtain⟨RA,rc,rfl,_⟩:=xT.own.form;have rj:=ue.below_ xT.2
 refine Ko hK ?_ fun zy=>?_
 ·exact⟨rj.psr.blk.cell 0 rfl,rj.psr.blk.cell 1 rfl⟩
 clear hK K
 refine To 17 rfl fun K hK=>?_
 go_simp
 refine Kz hK ?_
 clear hK K
 refine Wd ?_
 clear zy CL a0 a1;have vN:=sy.below xT.2;obtain⟨H6,yC,pS,_⟩:=Fresh.snapB ue.psr.holds xT;have vr:=ue.grown yC;have ov:=yC.none vz sy.lt;clear rj xT ue sy;have a1:=vr.psr.blk.cell 1 rfl;go_wp2_with (with_reducible refine zx ?_)
 refine zv rfl _ _ _ rfl rfl g 1 (.int .i64 ((P:Int)+(n:Int))) rfl rfl _ _ vr.psr.blk yq (by simp) rfl fun w7 im xp=>?_
 have sV:Rdg 86 w H w7 H6 g (some ⟨b,off,none⟩) c l (P+n) (cnt+1):=vr.step xp im (by omega) (by have:=HC.out;omega);have ug:=vN.gr xp (by omega);have fL:=ov;clear vr vN im xp a1;have E:Hid (zc d (l.drop p) cnt=.ok (.mk 2 0 s []) (k+n) (cnt+1)):=by rw[Hid,E1.out,if_neg (fun h=>absurd h.1 (by omega))]
 have IB:=pS;clear E1;go_wp2_with (with_reducible refine zx ?_)
 refine stI ug fun wz hTy hgz=>?_
 have wV:=sV.grownRow (row:=some w.heap.size) (by rintro q ⟨⟩;exact fL) (by rintro q ⟨⟩;exact Nat.le_refl _) xA hgz;go_wp2_with fail
 refine zo rfl rfl hTy rfl rfl zi rfl ?_
 exact ItemOut.ok E.out rfl (by rw[← Nat.add_assoc,HK.out.2.2.2];exact wV) (IsItem.str 2 (by omega) IB)
theorem dX (hTab:Tabs H) (hlv:lv+d=8) (hP:Psr 86 w g H A c l p cnt) (hc:cnt<256) {f n k:Nat}(hh:zR (l.drop p)=.ok (f,n,k)) (hk:f/32=3):Calls Tryz.prog 39 #[.pointer (some ⟨g,0,none⟩),.int .i64 (lv:Int)] w (ItemOut 86 w H g A c l p (zc d (l.drop p) cnt)):=by
 have xA:=hP.gt;have wv:=(Rdg.refl hP).alloc zX;have vR:=Blk.new w 73 #[.int .i64 0,.int .u64 0,.slice none 0 0,.slice none 0 0];have vz:H w.heap.size=none:=hP.holds.none_of_ge (Nat.le_refl _);have c2:=wv.psr.blk.cell 2 rfl
 have E0:Hid (zc d (l.drop p) cnt=(if(l.drop p).length<k+n then .err 2 else if 3=3∧Lib.validD (((l.drop p).drop k).take n)=false then .err 5 else .ok (.mk 3 0 (((l.drop p).drop k).take n) []) (k+n) (cnt+1))):=by
  rw[Hid,oK d (l.drop p) cnt (by omega) hh (by omega) (by omega),hk];first | rfl | (simp only[true_and];first | done | rfl) | simp
 have S:(f:Int)/32=3:=by omega
 have xN:((cnt:Int)==256)=false:=by simp;omega
 have yG:((cnt:Int)=256)=False:=eq_false (by omega);have KC:IntKind.i64.wrap ((cnt:Int)+1)=(cnt:Int)+1:=IntWalk.i64_in _ (by omega);have HC:=Hh hc;clear hc;go_enter Tryz.func39,Tryz.ntmps39
 go_wp2_with (with_reducible refine zx ?_)
 refine zv rfl _ _ _ rfl rfl g 2 (.int .i64 ((cnt:Int)+1)) rfl rfl _ _ wv.psr.blk yq (by simp) rfl fun w2 xO yw=>?_
 have vS:Rdg 86 w H w2 H g A c l p (cnt+1):=wv.step yw xO hP.le (by have:=HC.out;omega);have tf:=vR.gr yw (by omega);have PH:=Hh (ux vS.psr);clear wv vR xO yw c2 KC xN yG;go_wp2_with fail
 refine PH.out.mono ?_
 intro e w3 hs
 rw[HeadSaid,hh]at hs;obtain⟨rfl,wP,yt⟩:=hs;have HS:=yP hh;have uz:p+k≤l.length:=by have:=HS.le;rw[List.length_drop]at this;have:=hP.le;omega
 have vq:Rdg 86 w H w3 H g A c l (p+k) (cnt+1):=vS.step yt wP uz (by have:=HC.out;omega);have wR:=tf.gr yt (by omega);have HF:=Hh HS;clear vS tf wP yt PH HS hh;have nf:=HF.out.pos;obtain⟨b,off,rfl,tw⟩:=vq.psr.bytes.at_ (by omega);have ki:=vq.psr.small;have pL:=vq.psr.bytes.le;have oo:=vq.psr.bytes.max;have sZ:=HF.out.n_lt;have al:(l.drop p).length=l.length-p:=List.length_drop;obtain⟨P,cC⟩:∃ P,p+k=P:=⟨_,rfl⟩
 obtain⟨s,fP⟩:∃ s,((l.drop p).drop k).take n=s:=⟨_,rfl⟩
 rw[fP]at E0;rw[List.drop_drop,cC]at fP;rw[cC]at vq uz;have K1:IntKind.i64.wrap ((l.length:Int)-(P:Int))=(l.length:Int)-(P:Int):=IntWalk.i64_in _ (by omega);have K2:IntKind.u64.wrap ((l.length:Int)-(P:Int))=(l.length:Int)-(P:Int):=by rw[IntKind.wrap_u64];omega
 have a0:=vq.psr.blk.cell 0 rfl;have a1:=vq.psr.blk.cell 1 rfl;have ST:(P:Int)≤(l.length:Int):=by omega
 have fZ:(l.length:Int)≤4096:=by omega
 by_cases z6:l.length<P+n
 ·have z0:(l.length:Int)-(P:Int)<(n:Int):=by omega
  have E:Hid (zc d (l.drop p) cnt=.err 2):=by rw[Hid,E0.out,if_pos (by omega)]
  clear ki pL oo sZ al cC fP E0 z6 tw;go_wp2_with fail
  go_big_quiet (fail)
  have uq:=vq.drewN nq;have wF:Blk (w3.drewN nq) w.heap.size 73 #[.int .i64 0,.int .u64 0,.slice none 0 0,.slice none 0 0]:=wR;go_wp2_with (with_reducible refine zx ?_)
  refine stI wF fun wz hTy hgz=>?_
  have wV:=uq.grownRow (row:=some w.heap.size) (by rintro q ⟨⟩;exact vz) (by rintro q ⟨⟩;exact Nat.le_refl _) xA hgz;go_wp2_with fail
  refine zo rfl rfl hTy rfl rfl zi rfl ?_
  exact ItemOut.err E.out rfl wV
 have z0:¬ ((l.length:Int)-(P:Int)<(n:Int)):=by omega
 have z0b:decide ((l.length:Int)-(P:Int)<(n:Int))=false:=decide_eq_false z0;have E1:Hid (zc d (l.drop p) cnt=(if 3=3∧Lib.validD s=false then .err 5 else .ok (.mk 3 0 s []) (k+n) (cnt+1))):=by rw[Hid,E0.out,if_neg (by omega)];try simp
 have YH:n=s.length:=by rw[← fP,List.length_take,List.length_drop];omega
 have ez:=Hh YH;clear YH;have KN:IntKind.i64.wrap (n:Int)=(n:Int):=IntWalk.i64_in _ (by omega);have KP:IntKind.i64.wrap ((P:Int)+(n:Int))=(P:Int)+(n:Int):=IntWalk.i64_in _ (by omega);have kt:((P:Int)+(n:Int)).toNat=P+n:=by omega
 have y0:(0:Int)≤(P:Int)+(n:Int):=by omega
 have y5:P≤P+n:=by omega
 have y6:P+n-P=n:=by omega
 have y1:(P:Int)≤(P:Int)+(n:Int):=by omega
 have y2:(P:Int)+(n:Int)≤(c:Int):=by omega
 have y3:(P:Int)≤(c:Int):=by omega
 have y4:(0:Int)≤(P:Int):=by omega
 have HK:=Hh (And.intro ki (And.intro pL (And.intro oo cC)));go_wp2_with fail
 go_big_quiet (fail)
 have kC:=vq.drewN nq;have jy:Blk (w3.drewN nq) w.heap.size 73 #[.int .i64 0,.int .u64 0,.slice none 0 0,.slice none 0 0]:=wR
 generalize w3.drewN nq=w4 at kC jy⊢
 obtain⟨uq,wF⟩:=And.intro kC jy;clear kC jy vq wR a0 a1 E0 z0 z0b;have ob:∀ j (hj:j<l.length),w4.cell? ⟨b,off+j,none⟩=some (zm l[j]):=fun j hj=>uq.psr.holds.cell (tw j hj)
 by_cases ak:c=P
 ·have Zb:P=c:=ak.symm;subst Zb;clear ak;have ue:Rdg 86 w H w4.drew H g (some ⟨b,off,none⟩) P l P (cnt+1):=uq.drewN 1;have sy:Blk w4.drew w.heap.size 73 #[.int .i64 0,.int .u64 0,.slice none 0 0,.slice none 0 0]:=wF;have CL:=Hh (vE w4.drew (some ⟨b,off,none⟩) s n 0 ez.out (by have:=ez.out;omega) (by have hz:s=[]:=List.eq_nil_of_length_eq_zero (by have:=ez.out;omega);rw[hz];exact Src.nil _ _));have a0:=uq.psr.blk.cell 0 rfl;have a1:=uq.psr.blk.cell 1 rfl;clear uq wF;go_upto_region 16 with fail
  refine zp 17 (fun w'=>w'.cell? ⟨g,0,none⟩=some (.slice (some ⟨b,off,none⟩) l.length P)∧w'.cell? ⟨g,1,none⟩=some (.int .i64 (P:Int))) (by kernel_rfl) (⟨a0,a1⟩) (fun zy=>?_)
  refine Tk 0 rfl zy ?_
  refine Tk 1 rfl zy ?_
  refine Tk 2 rfl zy ?_
  refine Tk 3 rfl zy ?_
  refine Tk 4 rfl zy ?_
  refine Tk 5 rfl zy ?_
  refine Tk 6 rfl zy ?_
  refine Tk 7 rfl zy ?_
  refine Tk 8 rfl zy ?_
  refine Tk 9 rfl zy ?_
  refine Tk 10 rfl zy ?_
  refine Tk 11 rfl zy ?_
  refine Tk 12 rfl zy ?_
  refine Tk 13 rfl zy ?_
  refine Tk 14 rfl zy ?_
  refine Tk 15 rfl zy ?_
  refine To 16 rfl fun K hK=>?_
  go_simp
  refine CL.out.mono ?_
  rintro e w5 ⟨r5,rfl,xT⟩
  obtain⟨RA,rc,rfl,_⟩:=xT.own.form;have rj:=ue.below_ xT.2
  refine Ko hK ?_ fun zy=>?_
  ·exact⟨rj.psr.blk.cell 0 rfl,rj.psr.blk.cell 1 rfl⟩
  clear hK K
  refine To 17 rfl fun K hK=>?_
  go_simp
  refine Kz hK ?_
  clear hK K
  refine Wd ?_
  clear zy CL a0 a1;have vN:=sy.below xT.2;obtain⟨H6,yC,pS,_⟩:=Fresh.snapB ue.psr.holds xT;have vr:=ue.grown yC;have ov:=yC.none vz sy.lt;clear rj xT ue sy;have a1:=vr.psr.blk.cell 1 rfl;go_wp2_with (with_reducible refine zx ?_)
  refine zv rfl _ _ _ rfl rfl g 1 (.int .i64 ((P:Int)+(n:Int))) rfl rfl _ _ vr.psr.blk yq (by simp) rfl fun w7 im xp=>?_
  have sV:Rdg 86 w H w7 H6 g (some ⟨b,off,none⟩) P l (P+n) (cnt+1):=vr.step xp im (by omega) (by have:=HC.out;omega);have ug:=vN.gr xp (by omega);have fL:=ov;clear vr vN im xp a1;have IB:=pS;have UV:=Hh (q9 (hTab.mono yC.le) w7 sV.psr.holds RA s s.length rc rfl pS)
  cases hv:Lib.validD s with
  | false =>
   rw[hv]at UV;have E:Hid (zc d (l.drop p) cnt=.err 5):=by rw[Hid,E1.out,if_pos (by first | exact⟨rfl,hv⟩ | exact⟨trivial,hv⟩)]
   clear hv E1;go_wp2_with fail
   refine UV.out.mono ?_
   rintro e w8 ⟨rfl,rf⟩
   have nv:=sV.below_ rf;have ml:=ug.below rf;clear UV sV ug;go_wp2_with (with_reducible refine zx ?_)
   refine stI ml fun wz hTy hgz=>?_
   have wV:=nv.grownRow (row:=some w.heap.size) (by rintro q ⟨⟩;exact fL) (by rintro q ⟨⟩;exact Nat.le_refl _) xA hgz;go_wp2_with fail
   refine zo rfl rfl hTy rfl rfl zi rfl ?_
   exact ItemOut.err E.out rfl wV
  | true =>
  rw[hv]at UV;have E:Hid (zc d (l.drop p) cnt=.ok (.mk 3 0 s []) (k+n) (cnt+1)):=by rw[Hid,E1.out,if_neg (fun h=>by rw[hv]at h;cases h.2)]
  clear hv E1;go_wp2_with fail
  refine UV.out.mono ?_
  rintro e w8 ⟨rfl,rf⟩
  have nv:=sV.below_ rf;have ml:=ug.below rf;clear UV sV ug;go_wp2_with (with_reducible refine zx ?_)
  refine stI ml fun wz hTy hgz=>?_
  have wV:=nv.grownRow (row:=some w.heap.size) (by rintro q ⟨⟩;exact fL) (by rintro q ⟨⟩;exact Nat.le_refl _) xA hgz;go_wp2_with fail
  refine zo rfl rfl hTy rfl rfl zi rfl ?_
  exact ItemOut.ok E.out rfl (by rw[← Nat.add_assoc,HK.out.2.2.2];exact wV) (IsItem.str 3 (by omega) IB)
 have UY:(c=P)=False:=eq_false ak;have ue:Rdg 86 w H w4.drew H g (some ⟨b,off,none⟩) c l P (cnt+1):=uq.drewN 1;have sy:Blk w4.drew w.heap.size 73 #[.int .i64 0,.int .u64 0,.slice none 0 0,.slice none 0 0]:=wF;have CL:=Hh (vE w4.drew (some ⟨b,off+P,none⟩) s n (c-P) ez.out (by have:=ez.out;omega) ((by have hq:=ql (w:=w4.drew) (n:=n) ob P (some ⟨b,off+P,none⟩) (fun _=>rfl) (by omega);rw[fP]at hq;exact hq)));have a0:=uq.psr.blk.cell 0 rfl;have a1:=uq.psr.blk.cell 1 rfl;clear uq wF;go_upto_region 16 with fail
 refine zp 17 (fun w'=>w'.cell? ⟨g,0,none⟩=some (.slice (some ⟨b,off,none⟩) l.length c)∧w'.cell? ⟨g,1,none⟩=some (.int .i64 (P:Int))) (by kernel_rfl) (⟨a0,a1⟩) (fun zy=>?_)
 refine Tk 0 rfl zy ?_
 refine Tk 1 rfl zy ?_
 refine Tk 2 rfl zy ?_
 refine Tk 3 rfl zy ?_
 refine Tk 4 rfl zy ?_
 refine Tk 5 rfl zy ?_
 refine Tk 6 rfl zy ?_
 refine Tk 7 rfl zy ?_
 refine Tk 8 rfl zy ?_
 refine Tk 9 rfl zy ?_
 refine Tk 10 rfl zy ?_
 refine Tk 11 rfl zy ?_
 refine Tk 12 rfl zy ?_
 refine Tk 13 rfl zy ?_
 refine Tk 14 rfl zy ?_
 refine Tk 15 rfl zy ?_
 refine To 16 rfl fun K hK=>?_
 go_simp
 refine CL.out.mono ?_
 rintro e w5 ⟨r5,rfl,xT⟩
 obtain⟨RA,rc,rfl,_⟩:=xT.own.form;have rj:=ue.below_ xT.2
 refine Ko hK ?_ fun zy=>?_
 ·exact⟨rj.psr.blk.cell 0 rfl,rj.psr.blk.cell 1 rfl⟩
 clear hK K
 refine To 17 rfl fun K hK=>?_
 go_simp
 refine Kz hK ?_
 clear hK K
 refine Wd ?_
 clear zy CL a0 a1;have vN:=sy.below xT.2;obtain⟨H6,yC,pS,_⟩:=Fresh.snapB ue.psr.holds xT;have vr:=ue.grown yC;have ov:=yC.none vz sy.lt;clear rj xT ue sy;have a1:=vr.psr.blk.cell 1 rfl;go_wp2_with (with_reducible refine zx ?_)
 refine zv rfl _ _ _ rfl rfl g 1 (.int .i64 ((P:Int)+(n:Int))) rfl rfl _ _ vr.psr.blk yq (by simp) rfl fun w7 im xp=>?_
 have sV:Rdg 86 w H w7 H6 g (some ⟨b,off,none⟩) c l (P+n) (cnt+1):=vr.step xp im (by omega) (by have:=HC.out;omega);have ug:=vN.gr xp (by omega);have fL:=ov;clear vr vN im xp a1;have IB:=pS;have UV:=Hh (q9 (hTab.mono yC.le) w7 sV.psr.holds RA s s.length rc rfl pS)
 cases hv:Lib.validD s with
 | false =>
  rw[hv]at UV;have E:Hid (zc d (l.drop p) cnt=.err 5):=by rw[Hid,E1.out,if_pos (by first | exact⟨rfl,hv⟩ | exact⟨trivial,hv⟩)]
  clear hv E1;go_wp2_with fail
  refine UV.out.mono ?_
  rintro e w8 ⟨rfl,rf⟩
  have nv:=sV.below_ rf;have ml:=ug.below rf;clear UV sV ug;go_wp2_with (with_reducible refine zx ?_)
  refine stI ml fun wz hTy hgz=>?_
  have wV:=nv.grownRow (row:=some w.heap.size) (by rintro q ⟨⟩;exact fL) (by rintro q ⟨⟩;exact Nat.le_refl _) xA hgz;go_wp2_with fail
  refine zo rfl rfl hTy rfl rfl zi rfl ?_
  exact ItemOut.err E.out rfl wV
 | true =>
 rw[hv]at UV;have E:Hid (zc d (l.drop p) cnt=.ok (.mk 3 0 s []) (k+n) (cnt+1)):=by rw[Hid,E1.out,if_neg (fun h=>by rw[hv]at h;cases h.2)]
 clear hv E1;go_wp2_with fail
 refine UV.out.mono ?_
 rintro e w8 ⟨rfl,rf⟩
 have nv:=sV.below_ rf;have ml:=ug.below rf;clear UV sV ug;go_wp2_with (with_reducible refine zx ?_)
 refine stI ml fun wz hTy hgz=>?_
 have wV:=nv.grownRow (row:=some w.heap.size) (by rintro q ⟨⟩;exact fL) (by rintro q ⟨⟩;exact Nat.le_refl _) xA hgz;go_wp2_with fail
 refine zo rfl rfl hTy rfl rfl zi rfl ?_
 exact ItemOut.ok E.out rfl (by rw[← Nat.add_assoc,HK.out.2.2.2];exact wV) (IsItem.str 3 (by omega) IB)
end
theorem Rdg.gb {T:TypeId}{w w' w'':World}{H H':Snap}{g k:Nat}{A:Option Addr}{c:Nat}{l:List UInt8}{p cnt:Nat}(h:Rdg T w H w' H' g A c l p cnt) (h0:H' k=none) (hw:w.heap.size≤k) (z6:g<w.heap.size) (hg:w'.grownBy w'' (some k)):Rdg T w H w'' H' g A c l p cnt:=h.grownRow (row:=some k) (by rintro q ⟨⟩;exact h0) (by rintro q ⟨⟩;exact hw) z6 hg
end Go.Proofs.YtnfoilblmhbobaaGreatDoor
