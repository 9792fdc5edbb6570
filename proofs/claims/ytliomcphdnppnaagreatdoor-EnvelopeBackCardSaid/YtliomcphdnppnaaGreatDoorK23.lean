/- squeezed. Readers of items: what a call does -/
import Derived.Test.YtliomcphdnppnaaGreatDoorK22
set_option linter.unusedVariables false
set_option linter.unusedSimpArgs false
set_option maxRecDepth 100000
set_option maxHeartbeats 6400000
namespace Go.Proofs.YtliomcphdnppnaaGreatDoor
open Go.RowKit
theorem jav{P:Prop}(h:P:=by
 have rG:=rF.gr wJ (by omega);have pm:=nP;clear vA rF fQ wJ a1;have IB:=rV;have UV:=Hh (ng (hTab.mono xq.le) w7 qz.psr.holds RA s s.length rc rfl rV)
 cases hv:Lib.validD s with
 | false =>
  rw[hv]at UV;have E:Hid (zQ d (l.drop p) cnt=.err 5):=by rw[Hid,E1.out,if_pos (by first | exact⟨rfl,hv⟩ | exact⟨trivial,hv⟩)]
  clear hv E1;go_wp2_with fail
  refine UV.out.mono ?_
  rintro e w8 ⟨rfl,qU⟩
  have mv:=qz.below_ qU;have gl:=rG.below qU;clear UV qz rG;go_wp2_with (with_reducible refine zx ?_)
  refine stI gl fun wz hTy yS=>?_
  have wK:=mv.grownRow (row:=some w.heap.size) (by rintro q ⟨⟩;exact pm) (by rintro q ⟨⟩;exact Nat.le_refl _) wl yS;exact jey
 | true =>
 rw[hv]at UV;have E:Hid (zQ d (l.drop p) cnt=.ok (.mk 3 0 s []) (k+n) (cnt+1)):=by rw[Hid,E1.out,if_neg (fun h=>by rw[hv]at h;cases h.2)]
 clear hv E1;go_wp2_with fail
 refine UV.out.mono ?_
 rintro e w8 ⟨rfl,qU⟩
 have mv:=qz.below_ qU;have gl:=rG.below qU;clear UV qz rG;go_wp2_with (with_reducible refine zx ?_)
 refine stI gl fun wz hTy yS=>?_
 have wK:=mv.grownRow (row:=some w.heap.size) (by rintro q ⟨⟩;exact pm) (by rintro q ⟨⟩;exact Nat.le_refl _) wl yS;go_wp2_with fail
 refine zp rfl rfl hTy rfl rfl zu rfl ?_
 exact ItemOut.ok E.out rfl (by rw[← Nat.add_assoc,HK.out.2.2.2];exact wK) (IsItem.str 3 (by omega) IB)):P:=h
theorem jaF{P:Prop}(h:P:=by exact jey):P:=h
theorem ja3{P:Prop}(h:P:=by
 have rG:=rF.gr wJ (by omega);have pm:=nP;clear vA rF fQ wJ a1;have E:Hid (zQ d (l.drop p) cnt=.ok (.mk 2 0 s []) (k+n) (cnt+1)):=by rw[Hid,E1.out,if_neg (fun h=>absurd h.1 (by omega))]
 have IB:=rV;clear E1;go_wp2_with (with_reducible refine zx ?_)
 refine stI rG fun wz hTy yS=>?_
 have wK:=qz.grownRow (row:=some w.heap.size) (by rintro q ⟨⟩;exact pm) (by rintro q ⟨⟩;exact Nat.le_refl _) wl yS;go_wp2_with fail
 refine zp rfl rfl hTy rfl rfl zu rfl ?_
 exact ItemOut.ok E.out rfl (by rw[← Nat.add_assoc,HK.out.2.2.2];exact wK) (IsItem.str 2 (by omega) IB)):P:=h
theorem jcg{P:Prop}(h:P:=by exact⟨tU.psr.blk.cell 0 rfl,tU.psr.blk.cell 1 rfl⟩):P:=h
theorem jcs{P:Prop}(h:P:=by rw[Hid,bQ d (l.drop p) cnt (by omega) hh (by omega) (by omega),hk];first | rfl | (simp only[true_and];first | done | rfl) | simp):P:=h
theorem jed{P:Prop}(h:P:=by
 have z0:(l.length:Int)-(P:Int)<(n:Int):=by omega
 have E:Hid (zQ d (l.drop p) cnt=.err 2):=by rw[Hid,E0.out,if_pos (by omega)]
 clear ZI nN ZM mj JS M7 QB E0 yu mM;go_wp2_with fail
 go_big_quiet (fail)
 have uT:=wH.drewN nq;have uG:Blk (w3.drewN nq) w.heap.size 26 #[.int .i64 0,.int .u64 0,.slice none 0 0,.slice none 0 0]:=ti;exact jeZ):P:=h
theorem jet{P:Prop}(h:P:=by
 go_wp2_with (with_reducible refine zx ?_)
 refine stI ti fun wz hTy yS=>?_
 have wK:=wH.grownRow (row:=some w.heap.size) (by rintro q ⟨⟩;exact yO) (by rintro q ⟨⟩;exact Nat.le_refl _) wl yS;exact jaF):P:=h
theorem jey{P:Prop}(h:P:=by
 go_wp2_with fail
 refine zp rfl rfl hTy rfl rfl zu rfl ?_
 exact ItemOut.err E.out rfl wK):P:=h
theorem jeZ{P:Prop}(h:P:=by
 go_wp2_with (with_reducible refine zx ?_)
 refine stI uG fun wz hTy yS=>?_
 have wK:=uT.grownRow (row:=some w.heap.size) (by rintro q ⟨⟩;exact yO) (by rintro q ⟨⟩;exact Nat.le_refl _) wl yS;exact jaF):P:=h
theorem je8{P:Prop}(h:P:=by have wl:=hP.gt;have tT:=(Rdg.refl hP).alloc zi;have vk:=Blk.new w 26 #[.int .i64 0,.int .u64 0,.slice none 0 0,.slice none 0 0];have yO:H w.heap.size=none:=hP.holds.none_of_ge (Nat.le_refl _);have c2:=tT.psr.blk.cell 2 rfl;exact And.intro wl (And.intro tT (And.intro vk (And.intro yO c2)))):P:=h
theorem jfb{P:Prop}(h:P:=by have uv:((cnt:Int)=256)=False:=eq_false (by omega);have KC:IntKind.i64.wrap ((cnt:Int)+1)=(cnt:Int)+1:=IntWalk.i64_in _ (by omega);have HC:=Hh hc;exact And.intro uv (And.intro KC HC)):P:=h
theorem jfc{P:Prop}(h:P:=by have xz:Rdg 175 w H w2 H g A c l p (cnt+1):=tT.step yE yQ hP.le (by have:=HC.out;omega);have vU:=vk.gr yE (by omega);have PH:=Hh (pD xz.psr);exact And.intro xz (And.intro vU PH)):P:=h
theorem jfd{P:Prop}(h:P:=by have wH:Rdg 175 w H w3 H g A c l (p+k) (cnt+1):=xz.step ye wi pF (by have:=HC.out;omega);have ti:=vU.gr ye (by omega);have HF:=Hh HS;exact And.intro wH (And.intro ti HF)):P:=h
theorem jfi{P:Prop}(h:P:=by have zA9:(c=P)=False:=eq_false T8;have oA:Rdg 175 w H w4.drew H g (some ⟨b,off,none⟩) c l P (cnt+1):=uT.drewN 1;have kV:Blk w4.drew w.heap.size 26 #[.int .i64 0,.int .u64 0,.slice none 0 0,.slice none 0 0]:=uG;have CL:=Hh (tt w4.drew (some ⟨b,off+P,none⟩) s n (c-P) Py.out (by have:=Py.out;omega) ((by have hq:=Zy (w:=w4.drew) (n:=n) Ol P (some ⟨b,off+P,none⟩) (fun _=>rfl) (by omega);rw[QB]at hq;exact hq)));have a0:=uT.psr.blk.cell 0 rfl;have a1:=uT.psr.blk.cell 1 rfl;exact And.intro zA9 (And.intro oA (And.intro kV (And.intro CL (And.intro a0 a1))))):P:=h
theorem jfm{P:Prop}(h:P:=by have oA:Rdg 175 w H w4.drew H g (some ⟨b,off,none⟩) P l P (cnt+1):=uT.drewN 1;have kV:Blk w4.drew w.heap.size 26 #[.int .i64 0,.int .u64 0,.slice none 0 0,.slice none 0 0]:=uG;have CL:=Hh (tt w4.drew (some ⟨b,off,none⟩) s n 0 Py.out (by have:=Py.out;omega) (by have hz:s=[]:=List.eq_nil_of_length_eq_zero (by have:=Py.out;omega);rw[hz];exact Src.nil _ _));have a0:=uT.psr.blk.cell 0 rfl;have a1:=uT.psr.blk.cell 1 rfl;exact And.intro oA (And.intro kV (And.intro CL (And.intro a0 a1)))):P:=h
theorem jf7{P:Prop}(h:P:=by have KN:IntKind.i64.wrap (n:Int)=(n:Int):=IntWalk.i64_in _ (by omega);have KP:IntKind.i64.wrap ((P:Int)+(n:Int))=(P:Int)+(n:Int):=IntWalk.i64_in _ (by omega);exact And.intro KN KP):P:=h
theorem jgc{P:Prop}(h:P:=by have wK:=wH.grownRow (row:=some w.heap.size) (by rintro q ⟨⟩;exact yO) (by rintro q ⟨⟩;exact Nat.le_refl _) wl yS;exact wK):P:=h
theorem jgg{P:Prop}(h:P:=by have qz:Rdg 175 w H w7 H6 g (some ⟨b,off,none⟩) P l (P+n) (cnt+1):=vA.step wJ fQ (by omega) (by have:=HC.out;omega);exact qz):P:=h
theorem jgh{P:Prop}(h:P:=by have qz:Rdg 175 w H w7 H6 g (some ⟨b,off,none⟩) c l (P+n) (cnt+1):=vA.step wJ fQ (by omega) (by have:=HC.out;omega);exact qz):P:=h
theorem jgv{P:Prop}(h:P:=by have WC:Blk (w3.drewN nq) w.heap.size 26 #[.int .i64 0,.int .u64 0,.slice none 0 0,.slice none 0 0]:=ti;exact WC):P:=h
theorem jgz{P:Prop}(h:P:=by have K1:IntKind.i64.wrap ((l.length:Int)-(P:Int))=(l.length:Int)-(P:Int):=IntWalk.i64_in _ (by omega);exact K1):P:=h
section
variable {T:TypeId} {w w' w'':World} {H H' H'':Snap} {g:Nat} {A:Option Addr} {c:Nat} {l:List UInt8} {p cnt p' cnt':Nat}
theorem Psr.gt (h:Psr T w g H A c l p cnt):g<w.heap.size:=h.blk.lt
structure Rdg (T:TypeId) (w:World) (H:Snap) (w':World) (H':Snap) (g:Nat) (A:Option Addr) (c:Nat) (l:List UInt8) (p cnt:Nat):Prop where
 grows:GrowsBut w H w' H' g
 psr:Psr T w' g H' A c l p cnt
theorem Rdg.refl (h:Psr T w g H A c l p cnt):Rdg T w H w H g A c l p cnt:=⟨GrowsBut.refl h.holds g,h⟩
theorem Rdg.trans (h:Rdg T w H w' H' g A c l p cnt) (k:Rdg T w' H' w'' H'' g A c l p' cnt'):Rdg T w H w'' H'' g A c l p' cnt':=⟨h.grows.trans k.grows,k.psr⟩
theorem Psr.grows (h:Psr T w g H A c l p cnt) (k:Grows w H w' H'):Rdg T w H w' H' g A c l p cnt :=
 ⟨k.but g,⟨h.blk.below k.below,h.bytes.mono k.le,k.holds,k.none h.apart h.gt,h.le,h.small,h.cnt_le⟩⟩
theorem Rdg.grown (h:Rdg T w H w' H' g A c l p cnt) (k:Grows w' H' w'' H''):Rdg T w H w'' H'' g A c l p cnt:=h.trans (h.psr.grows k)
theorem Rdg.alloc (h:Rdg T w H w' H' g A c l p cnt) (o:Obj):Rdg T w H (w'.alloc o) H' g A c l p cnt:=h.grown ((Grows.refl h.psr.holds).alloc o)
theorem Rdg.below_ (h:Rdg T w H w' H' g A c l p cnt) (k:Below w'.heap.size w' w''):Rdg T w H w'' H' g A c l p cnt:=h.grown (Grows.of_below h.psr.holds k)
theorem Rdg.drewN (h:Rdg T w H w' H' g A c l p cnt) (q:Nat):Rdg T w H (w'.drewN q) H' g A c l p cnt:=h.below_ (below_drewNv (Below.refl _ _) q)
theorem Rdg.size (h:Rdg T w H w' H' g A c l p cnt):w.heap.size≤w'.heap.size:=h.grows.grown.size
theorem Rdg.hid (h:Rdg T w H w' H' g A c l p cnt) {k:Nat}(hk:H k=.none) (hl:k<w.heap.size):H' k=.none:=h.grows.hid hk hl
theorem Rdg.step (h:Rdg T w H w' H' g A c l p cnt) (hg:w'.grownBy w'' (some g)) (hb:Blk w'' g T (oC A l.length c p' cnt')) (hp:p'≤l.length) (hc:cnt'≤256):Rdg T w H w'' H' g A c l p' cnt' :=
 ⟨⟨zK h.grows.grown hg (.inl rfl),h.grows.le,h.psr.holds.grown hg (by rintro q ⟨⟩;exact h.psr.apart),h.grows.fresh⟩,
  hb,h.psr.bytes,h.psr.holds.grown hg (by rintro q ⟨⟩;exact h.psr.apart),h.psr.apart,hp,h.psr.small,hc⟩
theorem Rdg.grownRow {row:Option Nat}(h:Rdg T w H w' H' g A c l p cnt) (h0:∀ k,row=some k→H' k=.none) (hw:∀ k,row=some k→w.heap.size≤k) (yu:g<w.heap.size) (hg:w'.grownBy w'' row):Rdg T w H w'' H' g A c l p cnt:=by
 have hd:=h.psr;have vl:row≠some g:=fun e=>by have:=hw g e;omega
 refine⟨⟨?_,h.grows.le,hd.holds.grown hg h0,h.grows.fresh⟩,hd.blk.grown hg vl,hd.bytes,hd.holds.grown hg h0,hd.apart,hd.le,hd.small,hd.cnt_le⟩
 exact⟨hg.os.trans h.grows.grown.os,hg.tape.trans h.grows.grown.tape,hg.output.trans h.grows.grown.output,Nat.le_trans h.size hg.size,fun i hi hne' =>
   (hg.block i (Nat.lt_of_lt_of_le hi h.size) (fun e=>by have:=hw i e.symm;omega)).trans (h.grows.grown.block i hi hne')⟩
theorem Blk.rdg {k:Nat}{t:TypeId}{cs:Array Value}(h:Blk w k t cs) (hd:Rdg T w H w' H' g A c l p cnt) (hk:k≠g):Blk w' k t cs :=
 h.grown hd.grows.grown (by intro e;injection e with e;exact hk e.symm)
theorem OwnI.rdg {base:Nat}{v:Value}{K:Snap}{L:List Itm}(h:OwnI w base v K L) (hd:Rdg T w H w' H' g A c l p cnt) (hb:g<base):OwnI w' base v K L:=by
 exact jbt
def ItemOut (T:TypeId) (w:World) (H:Snap) (g:Nat) (A:Option Addr) (c:Nat) (l:List UInt8) (p:Nat) (r:PR) (e:Ending) (w':World):Prop :=
 match r with
 | .err q=>e=.returned (.tuple #[br,.int .i64 (q:Int)])∧(∃ H' p' cnt',Rdg T w H w' H' g A c l p' cnt')
 | .ok x k c'=>∃ ja jb jc jd H',e=.returned (.tuple #[xp x ja jb jc jd,.int .i64 0])∧Rdg T w H w' H' g A c l (p+k) c'∧IsItem H' ja jb jc jd x
theorem ItemOut.err {e:Ending}{r:PR}{q:Nat}(hr:r=.err q) (he:e=.returned (.tuple #[br,.int .i64 (q:Int)])) (h:Rdg T w H w' H' g A c l p' cnt'):ItemOut T w H g A c l p r e w':=by
 rw[hr,ItemOut];exact⟨he,H',p',cnt',h⟩
theorem ItemOut.ok {e:Ending}{r:PR}{x:Itm}{k c':Nat}{ja:Option Addr}{jb:Nat}{jc:Option Addr}{jd:Nat}(hr:r=.ok x k c') (he:e=.returned (.tuple #[xp x ja jb jc jd,.int .i64 0])) (h:Rdg T w H w' H' g A c l (p+k) c') (hi:IsItem H' ja jb jc jd x):ItemOut T w H g A c l p r e w':=by
 rw[hr,ItemOut];exact⟨ja,jb,jc,jd,H',he,h,hi⟩
end
def Yo (d:Nat):Prop:=∀ (w:World) (H:Snap) (g:Nat) (A:Option Addr) (c:Nat) (l:List UInt8) (p cnt lv:Nat),Tabs H→lv+d=8→Psr 175 w g H A c l p cnt→
 Calls Tryz.prog 130 #[.pointer (some ⟨g,0,none⟩),.int .i64 (lv:Int)] w (ItemOut 175 w H g A c l p (zQ d (l.drop p) cnt))
theorem VK (d:Nat) (b:List UInt8) (c:Nat) (h:256≤c):zQ d b c=.err 8:=by rw[zQ.eq_def];simp only;rw[if_pos h]
theorem VM (d:Nat) (b:List UInt8) (c:Nat) (h:¬ 256≤c) {q:Nat}(hq:yr b=.error q):zQ d b c=.err q:=by rw[zQ.eq_def];simp only;rw[if_neg h,hq]
theorem bP (d:Nat) (b:List UInt8) (c:Nat) (h:¬ 256≤c) {f n k:Nat}(hq:yr b=.ok (f,n,k)) (hk:f/32≤1):zQ d b c=.ok (.mk (f/32:Nat) n [] []) k (c+1):=by
 rw[zQ.eq_def];simp only;rw[if_neg h,hq];simp only;rw[if_pos hk]
theorem bQ (d:Nat) (b:List UInt8) (c:Nat) (h:¬ 256≤c) {f n k:Nat}(hq:yr b=.ok (f,n,k)) (h1:¬ f/32≤1) (h3:f/32≤3):zQ d b c =
  (if b.length<k+n then .err 2 else if f/32=3∧Lib.validD ((b.drop k).take n)=false then .err 5 else .ok (.mk (f/32:Nat) 0 ((b.drop k).take n) []) (k+n) (c+1)):=by
 rw[zQ.eq_def];simp only;rw[if_neg h,hq];simp only;rw[if_neg h1,if_pos h3]
theorem Xa (d:Nat) (b:List UInt8) (c:Nat) (h:¬ 256≤c) {f n k:Nat}(hq:yr b=.ok (f,n,k)) (h7:f/32=7):zQ d b c =
  (match xV (f%32) n with | .error e=>.err e | .ok x=>.ok x k (c+1)):=by
 rw[zQ.eq_def];simp only;rw[if_neg h,hq];simp only;rw[if_neg (by omega),if_neg (by omega),if_pos h7]
 all_goals (cases xV (f%32) n <;> rfl)
theorem VJ (b:List UInt8) (c:Nat) (h:¬ 256≤c) {f n k:Nat}(hq:yr b=.ok (f,n,k)) (h3:4≤f/32) (h7:f/32≤6):zQ 0 b c=.err 8:=by
 rw[zQ.eq_def];simp only;rw[if_neg h,hq];simp only;rw[if_neg (by omega),if_neg (by omega),if_neg (by omega)]
theorem Rl (d:Nat) (b:List UInt8) (c:Nat) (h:¬ 256≤c) {f n k:Nat}(hq:yr b=.ok (f,n,k)) (h6:f/32=6):zQ (d+1) b c =
  (match zQ d (b.drop k) (c+1) with | .err e=>.err e | .ok x k' c'=>.ok (.mk 6 n [] [x]) (k+k') c'):=by
 rw[zQ.eq_def];simp only;rw[if_neg h,hq];simp only;rw[if_neg (by omega),if_neg (by omega),if_neg (by omega),if_pos h6]
 all_goals (cases zQ d (b.drop k) (c+1) <;> rfl)
theorem Rk (d:Nat) (b:List UInt8) (c:Nat) (h:¬ 256≤c) {f n k:Nat}(hq:yr b=.ok (f,n,k)) (h5:f/32=5):zQ (d+1) b c =
  (match uk (zQ d) n (b.drop k) (c+1) none with | .err e=>.err e | .ok l k' c'=>.ok (.mk 5 0 [] l) (k+k') c'):=by
 rw[zQ.eq_def];simp only;rw[if_neg h,hq];simp only;rw[if_neg (by omega),if_neg (by omega),if_neg (by omega),if_neg (by omega),if_pos h5]
 all_goals (cases uk (zQ d) n (b.drop k) (c+1) none <;> rfl)
theorem Rj (d:Nat) (b:List UInt8) (c:Nat) (h:¬ 256≤c) {f n k:Nat}(hq:yr b=.ok (f,n,k)) (h4:f/32=4):zQ (d+1) b c =
  (match qZ (zQ d) n (b.drop k) (c+1) with | .err e=>.err e | .ok l k' c'=>.ok (.mk 4 0 [] l) (k+k') c'):=by
 rw[zQ.eq_def];simp only;rw[if_neg h,hq];simp only;rw[if_neg (by omega),if_neg (by omega),if_neg (by omega),if_neg (by omega),if_neg (by omega)]
 all_goals (cases qZ (zQ d) n (b.drop k) (c+1) <;> rfl)
theorem lR {b:List UInt8}{q:Nat}(h:yr b=.error q):q=2∨q=3∨q=4:=by
 cases b with
 | nil=>injection h with h;omega
 | cons f t =>
 simp only[yr]at h
 repeat' split at h
 all_goals first | (injection h with h;omega) | cases h
theorem eE {low n q:Nat}(h:xV low n=.error q):q=4:=by
 rw[xV]at h
 repeat' split at h
 all_goals first | (injection h with h;omega) | cases h
theorem Xj {low n:Nat}{x:Itm}(h:xV low n=.ok x):∃ kd m,x=.mk kd m [] []∧(kd=7∨kd=8):=by
 rw[xV]at h
 split at h
 ·injection h with h;exact⟨7,n,h.symm,.inl rfl⟩
 split at h
 ·split at h
  ·cases h
  injection h with h;exact⟨7,n,h.symm,.inl rfl⟩
 split at h
 ·cases h
 injection h with h;exact⟨8,_,h.symm,.inr rfl⟩
theorem Va {H:Snap}{b:List UInt8}{f n k:Nat}{x:Itm}(HS:HeadIs b f n k) (h:xV (f%32) n=.ok x):IsItem H none 0 none 0 x:=by
 have hx:x.n<18446744073709551616:=by
  have:=HS.low
  rcases Nat.lt_or_ge (f%32) 24 with hl | hl
  ·obtain⟨s1,s2,s3⟩:=HS.small hl
   exact(nf (low:=f%32) (t:=[]) (by omega) (fun _=>⟨s1,rfl⟩) (fun h=>by omega) h).2.2.1
  obtain⟨s1,t,s2,s3,s4⟩:=HS.wide hl
  exact(nf (low:=f%32) (t:=t) (by omega) (fun h=>by omega) (fun _=>⟨s2,s4⟩) h).2.2.1
 obtain⟨kd,m,rfl,hk⟩:=Xj h
 exact IsItem.plain _ kd m (by omega) hx
section
variable {d:Nat} {w:World} {H:Snap} {g:Nat} {A:Option Addr} {c:Nat} {l:List UInt8} {p cnt lv:Nat}
theorem XY (hTab:Tabs H) (hlv:lv+d=8) (hP:Psr 175 w g H A c l p cnt) (hc:cnt=256):Calls Tryz.prog 130 #[.pointer (some ⟨g,0,none⟩),.int .i64 (lv:Int)] w (ItemOut 175 w H g A c l p (zQ d (l.drop p) cnt)):=by
 obtain⟨wl,tT,vk,yO,c2⟩:=je8;have sr:((cnt:Int)==256)=true:=by simp;omega
 have uv:((cnt:Int)=256)=True:=eq_true (by omega);have E:=Hh (VK d (l.drop p) cnt (by omega));clear hc;go_enter Tryz.func130,Tryz.ntmps130
 go_wp2_with (with_reducible refine zx ?_)
 refine stI vk fun wz hTy yS=>?_
 have wK:=tT.grownRow (row:=some w.heap.size) (by rintro q ⟨⟩;exact yO) (by rintro q ⟨⟩;exact Nat.le_refl _) wl yS;go_wp2_with fail
 refine zp rfl rfl hTy rfl rfl zu rfl ?_
 exact ItemOut.err (q:=8) E.out rfl wK
theorem XZ (hTab:Tabs H) (hlv:lv+d=8) (hP:Psr 175 w g H A c l p cnt) (hc:cnt<256) {q:Nat}(hh:yr (l.drop p)=.error q):Calls Tryz.prog 130 #[.pointer (some ⟨g,0,none⟩),.int .i64 (lv:Int)] w (ItemOut 175 w H g A c l p (zQ d (l.drop p) cnt)):=by
 obtain⟨wl,tT,vk,yO,c2⟩:=je8;have E:=Hh (VM d (l.drop p) cnt (by omega) hh);have oG:((q:Int) != 0)=true:=by rw[bne_iff_ne];have:=lR hh;omega
 have WS:((q:Int)=0)=False:=eq_false (by have:=lR hh;omega);have sr:((cnt:Int)==256)=false:=by simp;omega
 obtain⟨uv,KC,HC⟩:=jfb;clear hc;go_enter Tryz.func130,Tryz.ntmps130
 go_wp2_with (with_reducible refine zx ?_)
 refine zj rfl _ _ _ rfl rfl g 2 (.int .i64 ((cnt:Int)+1)) rfl rfl _ _ tT.psr.blk wh (by simp) rfl fun w2 yQ yE=>?_
 obtain⟨xz,vU,PH⟩:=jfc;clear tT vk yQ yE c2 KC sr uv;go_wp2_with fail
 refine PH.out.mono ?_
 intro e w3 hs
 rw[HeadSaid,hh]at hs;obtain⟨rfl,⟨p',rI,wi⟩,ye⟩:=hs;have wH:Rdg 175 w H w3 H g A c l p' (cnt+1):=xz.step ye wi rI (by have:=HC.out;omega);have ti:=vU.gr ye (by omega);clear xz vU wi ye PH hh;exact jet
theorem Nf (hTab:Tabs H) (hlv:lv+d=8) (hP:Psr 175 w g H A c l p cnt) (hc:cnt<256) {f n k:Nat}(hh:yr (l.drop p)=.ok (f,n,k)) (hk:f/32=0):Calls Tryz.prog 130 #[.pointer (some ⟨g,0,none⟩),.int .i64 (lv:Int)] w (ItemOut 175 w H g A c l p (zQ d (l.drop p) cnt)):=by
 obtain⟨wl,tT,vk,yO,c2⟩:=je8;have E:Hid (zQ d (l.drop p) cnt=.ok (.mk 0 n [] []) k (cnt+1)):=by rw[Hid,bP d (l.drop p) cnt (by omega) hh (by omega),hk];rfl
 have S:(f:Int)/32=0:=by omega
 have sr:((cnt:Int)==256)=false:=by simp;omega
 obtain⟨uv,KC,HC⟩:=jfb;clear hc;go_enter Tryz.func130,Tryz.ntmps130
 go_wp2_with (with_reducible refine zx ?_)
 refine zj rfl _ _ _ rfl rfl g 2 (.int .i64 ((cnt:Int)+1)) rfl rfl _ _ tT.psr.blk wh (by simp) rfl fun w2 yQ yE=>?_
 obtain⟨xz,vU,PH⟩:=jfc;clear tT vk yQ yE c2 KC sr uv;go_wp2_with fail
 refine PH.out.mono ?_
 intro e w3 hs
 rw[HeadSaid,hh]at hs;obtain⟨rfl,wi,ye⟩:=hs;have HS:=vY hh;have pF:p+k≤l.length:=by have:=HS.le;rw[List.length_drop]at this;have:=hP.le;omega
 obtain⟨wH,ti,HF⟩:=jfd;clear xz vU wi ye PH HS hh;go_wp2_with (with_reducible refine zx ?_)
 refine stI ti fun wz hTy yS=>?_
 have wK:=jgc;go_wp2_with fail
 refine zp rfl rfl hTy rfl rfl zu rfl ?_
 exact ItemOut.ok (ja:=none) (jb:=0) (jc:=none) (jd:=0) E.out rfl wK (IsItem.plain _ 0 n (by omega) HF.out.n_lt)
theorem Ng (hTab:Tabs H) (hlv:lv+d=8) (hP:Psr 175 w g H A c l p cnt) (hc:cnt<256) {f n k:Nat}(hh:yr (l.drop p)=.ok (f,n,k)) (hk:f/32=1):Calls Tryz.prog 130 #[.pointer (some ⟨g,0,none⟩),.int .i64 (lv:Int)] w (ItemOut 175 w H g A c l p (zQ d (l.drop p) cnt)):=by
 obtain⟨wl,tT,vk,yO,c2⟩:=je8;have E:Hid (zQ d (l.drop p) cnt=.ok (.mk 1 n [] []) k (cnt+1)):=by rw[Hid,bP d (l.drop p) cnt (by omega) hh (by omega),hk];rfl
 have S:(f:Int)/32=1:=by omega
 have sr:((cnt:Int)==256)=false:=by simp;omega
 obtain⟨uv,KC,HC⟩:=jfb;clear hc;go_enter Tryz.func130,Tryz.ntmps130
 go_wp2_with (with_reducible refine zx ?_)
 refine zj rfl _ _ _ rfl rfl g 2 (.int .i64 ((cnt:Int)+1)) rfl rfl _ _ tT.psr.blk wh (by simp) rfl fun w2 yQ yE=>?_
 obtain⟨xz,vU,PH⟩:=jfc;clear tT vk yQ yE c2 KC sr uv;go_wp2_with fail
 refine PH.out.mono ?_
 intro e w3 hs
 rw[HeadSaid,hh]at hs;obtain⟨rfl,wi,ye⟩:=hs;have HS:=vY hh;have pF:p+k≤l.length:=by have:=HS.le;rw[List.length_drop]at this;have:=hP.le;omega
 obtain⟨wH,ti,HF⟩:=jfd;clear xz vU wi ye PH HS hh;go_wp2_with (with_reducible refine zx ?_)
 refine stI ti fun wz hTy yS=>?_
 have wK:=jgc;go_wp2_with fail
 refine zp rfl rfl hTy rfl rfl zu rfl ?_
 exact ItemOut.ok (ja:=none) (jb:=0) (jc:=none) (jd:=0) E.out rfl wK (IsItem.plain _ 1 n (by omega) HF.out.n_lt)
theorem Nm (hTab:Tabs H) (hlv:lv+d=8) (hP:Psr 175 w g H A c l p cnt) (hc:cnt<256) {f n k:Nat}(hh:yr (l.drop p)=.ok (f,n,k)) (hk:f/32=7):Calls Tryz.prog 130 #[.pointer (some ⟨g,0,none⟩),.int .i64 (lv:Int)] w (ItemOut 175 w H g A c l p (zQ d (l.drop p) cnt)):=by
 obtain⟨wl,tT,vk,yO,c2⟩:=je8;have E0:=Hh (Xa d (l.drop p) cnt (by omega) hh hk);have S:(f:Int)/32=7:=by omega
 have sr:((cnt:Int)==256)=false:=by simp;omega
 obtain⟨uv,KC,HC⟩:=jfb;clear hc;go_enter Tryz.func130,Tryz.ntmps130
 go_wp2_with (with_reducible refine zx ?_)
 refine zj rfl _ _ _ rfl rfl g 2 (.int .i64 ((cnt:Int)+1)) rfl rfl _ _ tT.psr.blk wh (by simp) rfl fun w2 yQ yE=>?_
 obtain⟨xz,vU,PH⟩:=jfc;clear tT vk yQ yE c2 KC sr uv;go_wp2_with fail
 refine PH.out.mono ?_
 intro e w3 hs
 rw[HeadSaid,hh]at hs;obtain⟨rfl,wi,ye⟩:=hs;have HS:=vY hh;have pF:p+k≤l.length:=by have:=HS.le;rw[List.length_drop]at this;have:=hP.le;omega
 obtain⟨wH,ti,HF⟩:=jfd;clear xz vU wi ye PH HS hh
 have SV:=Hh (fun w=>Ua f n HF.out.f_lt HF.out.low HF.out.n_lt (by
  intro h25
  obtain⟨_,t,h1,_,h2⟩:=HF.out.wide (by omega);have:=nr t;rw[h1,h25]at this;rw[h2];simpa using this) (by
  intro h26
  obtain⟨_,t,h1,_,h2⟩:=HF.out.wide (by omega);have:=nr t;rw[h1,h26]at this;rw[h2];simpa using this) w)
 go_wp2_with fail
 refine(SV.out _).mono ?_
 intro e w4 hs
 obtain⟨uR,hs⟩:=hs;have uT:=wH.below_ uR;have uG:=ti.below uR;clear wH ti SV uR
 cases hsv:xV (f%32) n with
 | error q =>
  rw[hsv]at hs
  simp only at hs
  subst hs;have E:Hid (zQ d (l.drop p) cnt=.err q):=by rw[Hid,E0.out,hsv]
  exact jeZ
 | ok x =>
 rw[hsv]at hs
 simp only at hs
 subst hs;have E:Hid (zQ d (l.drop p) cnt=.ok x k (cnt+1)):=by rw[Hid,E0.out,hsv]
 have Eb:IsItem H none 0 none 0 x:=Va HF.out hsv;clear hsv;go_wp2_with (with_reducible refine zx ?_)
 refine stI uG fun wz hTy yS=>?_
 have wK:=uT.grownRow (row:=some w.heap.size) (by rintro q ⟨⟩;exact yO) (by rintro q ⟨⟩;exact Nat.le_refl _) wl yS;go_wp2_with fail
 refine zp rfl rfl hTy rfl rfl zu rfl ?_
 exact ItemOut.ok E.out rfl wK Eb
theorem XX (hTab:Tabs H) (hlv:lv=8) (hP:Psr 175 w g H A c l p cnt) (hc:cnt<256) {f n k:Nat}(hh:yr (l.drop p)=.ok (f,n,k)) (h4:4≤f/32) (h6:f/32≤6):Calls Tryz.prog 130 #[.pointer (some ⟨g,0,none⟩),.int .i64 (lv:Int)] w (ItemOut 175 w H g A c l p (zQ 0 (l.drop p) cnt)):=by
 obtain⟨wl,tT,vk,yO,c2⟩:=je8;have E:=Hh (VJ (l.drop p) cnt (by omega) hh h4 h6);obtain⟨kd,FW⟩:∃ kd,f/32=kd:=⟨_,rfl⟩
 have S:(f:Int)/32=(kd:Int):=by omega
 have s0:((kd:Int)==0)=false:=by simp;omega
 have s1:((kd:Int)==1)=false:=by simp;omega
 have s2:((kd:Int)==2)=false:=by simp;omega
 have s3:((kd:Int)==3)=false:=by simp;omega
 have s7:((kd:Int)==7)=false:=by simp;omega
 have q0:((kd:Int)=0)=False:=eq_false (by omega);have q1:((kd:Int)=1)=False:=eq_false (by omega);have q2:((kd:Int)=2)=False:=eq_false (by omega);have q3:((kd:Int)=3)=False:=eq_false (by omega);have q7:((kd:Int)=7)=False:=eq_false (by omega);have If:(kd:Int)≤7:=by omega
 subst hlv;clear FW h4 h6;have sr:((cnt:Int)==256)=false:=by simp;omega
 obtain⟨uv,KC,HC⟩:=jfb;clear hc;go_enter Tryz.func130,Tryz.ntmps130
 go_wp2_with (with_reducible refine zx ?_)
 refine zj rfl _ _ _ rfl rfl g 2 (.int .i64 ((cnt:Int)+1)) rfl rfl _ _ tT.psr.blk wh (by simp) rfl fun w2 yQ yE=>?_
 obtain⟨xz,vU,PH⟩:=jfc;clear tT vk yQ yE c2 KC sr uv;go_wp2_with fail
 refine PH.out.mono ?_
 intro e w3 hs
 rw[HeadSaid,hh]at hs;obtain⟨rfl,wi,ye⟩:=hs;have HS:=vY hh;have pF:p+k≤l.length:=by have:=HS.le;rw[List.length_drop]at this;have:=hP.le;omega
 obtain⟨wH,ti,HF⟩:=jfd;clear xz vU wi ye PH HS hh;exact jet
end
section
variable {d:Nat} {w:World} {H:Snap} {g:Nat} {A:Option Addr} {c:Nat} {l:List UInt8} {p cnt lv:Nat}
theorem IsItem.str {H:Snap}{B:Option Addr}{bc:Nat}{s:List UInt8}(k:Int) (hk:0≤k∧k≤8) (h:IsBytes H B bc s):IsItem H B bc none 0 (.mk k 0 s []):=by
 rw[IsItem]
 exact⟨⟨by omega,by omega,by omega,Nat.le_refl _,by omega⟩,h,fun h=>absurd h (by simp)⟩
theorem Nh (hTab:Tabs H) (hlv:lv+d=8) (hP:Psr 175 w g H A c l p cnt) (hc:cnt<256) {f n k:Nat}(hh:yr (l.drop p)=.ok (f,n,k)) (hk:f/32=2):Calls Tryz.prog 130 #[.pointer (some ⟨g,0,none⟩),.int .i64 (lv:Int)] w (ItemOut 175 w H g A c l p (zQ d (l.drop p) cnt)):=by
 obtain⟨wl,tT,vk,yO,c2⟩:=je8
 have E0:Hid (zQ d (l.drop p) cnt=(if(l.drop p).length<k+n then .err 2 else if 2=3∧Lib.validD (((l.drop p).drop k).take n)=false then .err 5 else .ok (.mk 2 0 (((l.drop p).drop k).take n) []) (k+n) (cnt+1))):=by
  exact jcs
 have S:(f:Int)/32=2:=by omega
 have sr:((cnt:Int)==256)=false:=by simp;omega
 obtain⟨uv,KC,HC⟩:=jfb;clear hc;go_enter Tryz.func130,Tryz.ntmps130
 go_wp2_with (with_reducible refine zx ?_)
 refine zj rfl _ _ _ rfl rfl g 2 (.int .i64 ((cnt:Int)+1)) rfl rfl _ _ tT.psr.blk wh (by simp) rfl fun w2 yQ yE=>?_
 obtain⟨xz,vU,PH⟩:=jfc;clear tT vk yQ yE c2 KC sr uv;go_wp2_with fail
 refine PH.out.mono ?_
 intro e w3 hs
 rw[HeadSaid,hh]at hs;obtain⟨rfl,wi,ye⟩:=hs;have HS:=vY hh;have pF:p+k≤l.length:=by have:=HS.le;rw[List.length_drop]at this;have:=hP.le;omega
 obtain⟨wH,ti,HF⟩:=jfd;clear xz vU wi ye PH HS hh;have tY:=HF.out.pos;obtain⟨b,off,rfl,mM⟩:=wH.psr.bytes.at_ (by omega);have ZI:=wH.psr.small;have nN:=wH.psr.bytes.le;have ZM:=wH.psr.bytes.max;have mj:=HF.out.n_lt;have JS:(l.drop p).length=l.length-p:=List.length_drop;obtain⟨P,M7⟩:∃ P,p+k=P:=⟨_,rfl⟩
 obtain⟨s,QB⟩:∃ s,((l.drop p).drop k).take n=s:=⟨_,rfl⟩
 rw[QB]at E0;rw[List.drop_drop,M7]at QB;rw[M7]at wH pF;have K1:=jgz;have K2:IntKind.u64.wrap ((l.length:Int)-(P:Int))=(l.length:Int)-(P:Int):=by rw[IntKind.wrap_u64];omega
 have a0:=wH.psr.blk.cell 0 rfl;have a1:=wH.psr.blk.cell 1 rfl;have hPl:(P:Int)≤(l.length:Int):=by omega
 have dO:(l.length:Int)≤4096:=by omega
 by_cases yu:l.length<P+n
 ·exact jed
 have z0:¬ ((l.length:Int)-(P:Int)<(n:Int)):=by omega
 have z0b:decide ((l.length:Int)-(P:Int)<(n:Int))=false:=decide_eq_false z0;have E1:Hid (zQ d (l.drop p) cnt=(if 2=3∧Lib.validD s=false then .err 5 else .ok (.mk 2 0 s []) (k+n) (cnt+1))):=by rw[Hid,E0.out,if_neg (by omega)];try simp
 have dR:n=s.length:=by rw[← QB,List.length_take,List.length_drop];omega
 have Py:=Hh dR;clear dR;obtain⟨KN,KP⟩:=jf7;have kt:((P:Int)+(n:Int)).toNat=P+n:=by omega
 have y0:(0:Int)≤(P:Int)+(n:Int):=by omega
 have y5:P≤P+n:=by omega
 have y6:P+n-P=n:=by omega
 have y1:(P:Int)≤(P:Int)+(n:Int):=by omega
 have y2:(P:Int)+(n:Int)≤(c:Int):=by omega
 have y3:(P:Int)≤(c:Int):=by omega
 have y4:(0:Int)≤(P:Int):=by omega
 have HK:=Hh (And.intro ZI (And.intro nN (And.intro ZM M7)));go_wp2_with fail
 go_big_quiet (fail)
 have WO:=wH.drewN nq;have WC:=jgv
 generalize w3.drewN nq=w4 at WO WC⊢
 obtain⟨uT,uG⟩:=And.intro WO WC;clear WO WC wH ti a0 a1 E0 z0 z0b;have Ol:∀ j (hj:j<l.length),w4.cell? ⟨b,off+j,none⟩=some (zm l[j]):=fun j hj=>uT.psr.holds.cell (mM j hj)
 by_cases T8:c=P
 ·have Gv:P=c:=T8.symm;subst Gv;clear T8;obtain⟨oA,kV,CL,a0,a1⟩:=jfm;clear uT uG;go_upto_region 16 with fail
  refine zw 17 (fun w'=>w'.cell? ⟨g,0,none⟩=some (.slice (some ⟨b,off,none⟩) l.length P)∧w'.cell? ⟨g,1,none⟩=some (.int .i64 (P:Int))) (by kernel_rfl) (⟨a0,a1⟩) (fun zy=>?_)
  refine Tk 0 rfl zy ?_
  refine Tk 1 rfl zy ?_
  refine Tk 2 rfl zy ?_
  refine Tk 3 rfl zy ?_
  refine Tk 4 rfl zy ?_
  refine Tk 5 rfl zy ?_
  refine Tk 6 rfl zy ?_
  refine Tk 7 rfl zy ?_
  refine Tk 8 rfl zy ?_
  refine Tk 9 rfl zy ?_
  refine Tk 10 rfl zy ?_
  refine Tk 11 rfl zy ?_
  refine Tk 12 rfl zy ?_
  refine Tk 13 rfl zy ?_
  refine Tk 14 rfl zy ?_
  refine Tk 15 rfl zy ?_
  refine To 16 rfl fun K hK=>?_
  go_simp
  refine CL.out.mono ?_
  rintro e w5 ⟨r5,rfl,wR⟩
  obtain⟨RA,rc,rfl,_⟩:=wR.own.form;have tU:=oA.below_ wR.2
  refine Ko hK ?_ fun zy=>?_
  ·exact jcg
  clear hK K
  refine To 17 rfl fun K hK=>?_
  go_simp
  refine Kz hK ?_
  clear hK K
  refine Wd ?_
  clear zy CL a0 a1;have rF:=kV.below wR.2;obtain⟨H6,xq,rV,_⟩:=Fresh.snapB oA.psr.holds wR;have vA:=oA.grown xq;have nP:=xq.none yO kV.lt;clear tU wR oA kV;have a1:=vA.psr.blk.cell 1 rfl;go_wp2_with (with_reducible refine zx ?_)
  refine zj rfl _ _ _ rfl rfl g 1 (.int .i64 ((P:Int)+(n:Int))) rfl rfl _ _ vA.psr.blk wh (by simp) rfl fun w7 fQ wJ=>?_
  have qz:=jgg;exact ja3
 obtain⟨zA9,oA,kV,CL,a0,a1⟩:=jfi;clear uT uG;go_upto_region 16 with fail
 refine zw 17 (fun w'=>w'.cell? ⟨g,0,none⟩=some (.slice (some ⟨b,off,none⟩) l.length c)∧w'.cell? ⟨g,1,none⟩=some (.int .i64 (P:Int))) (by kernel_rfl) (⟨a0,a1⟩) (fun zy=>?_)
 refine Tk 0 rfl zy ?_
 refine Tk 1 rfl zy ?_
 refine Tk 2 rfl zy ?_
 refine Tk 3 rfl zy ?_
 refine Tk 4 rfl zy ?_
 refine Tk 5 rfl zy ?_
 refine Tk 6 rfl zy ?_
 refine Tk 7 rfl zy ?_
 refine Tk 8 rfl zy ?_
 refine Tk 9 rfl zy ?_
 refine Tk 10 rfl zy ?_
 refine Tk 11 rfl zy ?_
 refine Tk 12 rfl zy ?_
 refine Tk 13 rfl zy ?_
 refine Tk 14 rfl zy ?_
 refine Tk 15 rfl zy ?_
 refine To 16 rfl fun K hK=>?_
 go_simp
 refine CL.out.mono ?_
 rintro e w5 ⟨r5,rfl,wR⟩
 obtain⟨RA,rc,rfl,_⟩:=wR.own.form;have tU:=oA.below_ wR.2
 refine Ko hK ?_ fun zy=>?_
 ·exact jcg
 clear hK K
 refine To 17 rfl fun K hK=>?_
 go_simp
 refine Kz hK ?_
 clear hK K
 refine Wd ?_
 clear zy CL a0 a1;have rF:=kV.below wR.2;obtain⟨H6,xq,rV,_⟩:=Fresh.snapB oA.psr.holds wR;have vA:=oA.grown xq;have nP:=xq.none yO kV.lt;clear tU wR oA kV;have a1:=vA.psr.blk.cell 1 rfl;go_wp2_with (with_reducible refine zx ?_)
 refine zj rfl _ _ _ rfl rfl g 1 (.int .i64 ((P:Int)+(n:Int))) rfl rfl _ _ vA.psr.blk wh (by simp) rfl fun w7 fQ wJ=>?_
 have qz:=jgh;exact ja3
theorem Ni (hTab:Tabs H) (hlv:lv+d=8) (hP:Psr 175 w g H A c l p cnt) (hc:cnt<256) {f n k:Nat}(hh:yr (l.drop p)=.ok (f,n,k)) (hk:f/32=3):Calls Tryz.prog 130 #[.pointer (some ⟨g,0,none⟩),.int .i64 (lv:Int)] w (ItemOut 175 w H g A c l p (zQ d (l.drop p) cnt)):=by
 obtain⟨wl,tT,vk,yO,c2⟩:=je8
 have E0:Hid (zQ d (l.drop p) cnt=(if(l.drop p).length<k+n then .err 2 else if 3=3∧Lib.validD (((l.drop p).drop k).take n)=false then .err 5 else .ok (.mk 3 0 (((l.drop p).drop k).take n) []) (k+n) (cnt+1))):=by
  exact jcs
 have S:(f:Int)/32=3:=by omega
 have sr:((cnt:Int)==256)=false:=by simp;omega
 obtain⟨uv,KC,HC⟩:=jfb;clear hc;go_enter Tryz.func130,Tryz.ntmps130
 go_wp2_with (with_reducible refine zx ?_)
 refine zj rfl _ _ _ rfl rfl g 2 (.int .i64 ((cnt:Int)+1)) rfl rfl _ _ tT.psr.blk wh (by simp) rfl fun w2 yQ yE=>?_
 obtain⟨xz,vU,PH⟩:=jfc;clear tT vk yQ yE c2 KC sr uv;go_wp2_with fail
 refine PH.out.mono ?_
 intro e w3 hs
 rw[HeadSaid,hh]at hs;obtain⟨rfl,wi,ye⟩:=hs;have HS:=vY hh;have pF:p+k≤l.length:=by have:=HS.le;rw[List.length_drop]at this;have:=hP.le;omega
 obtain⟨wH,ti,HF⟩:=jfd;clear xz vU wi ye PH HS hh;have tY:=HF.out.pos;obtain⟨b,off,rfl,mM⟩:=wH.psr.bytes.at_ (by omega);have ZI:=wH.psr.small;have nN:=wH.psr.bytes.le;have ZM:=wH.psr.bytes.max;have mj:=HF.out.n_lt;have JS:(l.drop p).length=l.length-p:=List.length_drop;obtain⟨P,M7⟩:∃ P,p+k=P:=⟨_,rfl⟩
 obtain⟨s,QB⟩:∃ s,((l.drop p).drop k).take n=s:=⟨_,rfl⟩
 rw[QB]at E0;rw[List.drop_drop,M7]at QB;rw[M7]at wH pF;have K1:=jgz;have K2:IntKind.u64.wrap ((l.length:Int)-(P:Int))=(l.length:Int)-(P:Int):=by rw[IntKind.wrap_u64];omega
 have a0:=wH.psr.blk.cell 0 rfl;have a1:=wH.psr.blk.cell 1 rfl;have hPl:(P:Int)≤(l.length:Int):=by omega
 have dO:(l.length:Int)≤4096:=by omega
 by_cases yu:l.length<P+n
 ·exact jed
 have z0:¬ ((l.length:Int)-(P:Int)<(n:Int)):=by omega
 have z0b:decide ((l.length:Int)-(P:Int)<(n:Int))=false:=decide_eq_false z0;have E1:Hid (zQ d (l.drop p) cnt=(if 3=3∧Lib.validD s=false then .err 5 else .ok (.mk 3 0 s []) (k+n) (cnt+1))):=by rw[Hid,E0.out,if_neg (by omega)];try simp
 have dR:n=s.length:=by rw[← QB,List.length_take,List.length_drop];omega
 have Py:=Hh dR;clear dR;obtain⟨KN,KP⟩:=jf7;have kt:((P:Int)+(n:Int)).toNat=P+n:=by omega
 have y0:(0:Int)≤(P:Int)+(n:Int):=by omega
 have y5:P≤P+n:=by omega
 have y6:P+n-P=n:=by omega
 have y1:(P:Int)≤(P:Int)+(n:Int):=by omega
 have y2:(P:Int)+(n:Int)≤(c:Int):=by omega
 have y3:(P:Int)≤(c:Int):=by omega
 have y4:(0:Int)≤(P:Int):=by omega
 have HK:=Hh (And.intro ZI (And.intro nN (And.intro ZM M7)));go_wp2_with fail
 go_big_quiet (fail)
 have WO:=wH.drewN nq;have WC:=jgv
 generalize w3.drewN nq=w4 at WO WC⊢
 obtain⟨uT,uG⟩:=And.intro WO WC;clear WO WC wH ti a0 a1 E0 z0 z0b;have Ol:∀ j (hj:j<l.length),w4.cell? ⟨b,off+j,none⟩=some (zm l[j]):=fun j hj=>uT.psr.holds.cell (mM j hj)
 by_cases T8:c=P
 ·have Gv:P=c:=T8.symm;subst Gv;clear T8;obtain⟨oA,kV,CL,a0,a1⟩:=jfm;clear uT uG;go_upto_region 16 with fail
  refine zw 17 (fun w'=>w'.cell? ⟨g,0,none⟩=some (.slice (some ⟨b,off,none⟩) l.length P)∧w'.cell? ⟨g,1,none⟩=some (.int .i64 (P:Int))) (by kernel_rfl) (⟨a0,a1⟩) (fun zy=>?_)
  refine Tk 0 rfl zy ?_
  refine Tk 1 rfl zy ?_
  refine Tk 2 rfl zy ?_
  refine Tk 3 rfl zy ?_
  refine Tk 4 rfl zy ?_
  refine Tk 5 rfl zy ?_
  refine Tk 6 rfl zy ?_
  refine Tk 7 rfl zy ?_
  refine Tk 8 rfl zy ?_
  refine Tk 9 rfl zy ?_
  refine Tk 10 rfl zy ?_
  refine Tk 11 rfl zy ?_
  refine Tk 12 rfl zy ?_
  refine Tk 13 rfl zy ?_
  refine Tk 14 rfl zy ?_
  refine Tk 15 rfl zy ?_
  refine To 16 rfl fun K hK=>?_
  go_simp
  refine CL.out.mono ?_
  rintro e w5 ⟨r5,rfl,wR⟩
  obtain⟨RA,rc,rfl,_⟩:=wR.own.form;have tU:=oA.below_ wR.2
  refine Ko hK ?_ fun zy=>?_
  ·exact jcg
  clear hK K
  refine To 17 rfl fun K hK=>?_
  go_simp
  refine Kz hK ?_
  clear hK K
  refine Wd ?_
  clear zy CL a0 a1;have rF:=kV.below wR.2;obtain⟨H6,xq,rV,_⟩:=Fresh.snapB oA.psr.holds wR;have vA:=oA.grown xq;have nP:=xq.none yO kV.lt;clear tU wR oA kV;have a1:=vA.psr.blk.cell 1 rfl;go_wp2_with (with_reducible refine zx ?_)
  refine zj rfl _ _ _ rfl rfl g 1 (.int .i64 ((P:Int)+(n:Int))) rfl rfl _ _ vA.psr.blk wh (by simp) rfl fun w7 fQ wJ=>?_
  have qz:=jgg;exact jav
 obtain⟨zA9,oA,kV,CL,a0,a1⟩:=jfi;clear uT uG;go_upto_region 16 with fail
 refine zw 17 (fun w'=>w'.cell? ⟨g,0,none⟩=some (.slice (some ⟨b,off,none⟩) l.length c)∧w'.cell? ⟨g,1,none⟩=some (.int .i64 (P:Int))) (by kernel_rfl) (⟨a0,a1⟩) (fun zy=>?_)
 refine Tk 0 rfl zy ?_
 refine Tk 1 rfl zy ?_
 refine Tk 2 rfl zy ?_
 refine Tk 3 rfl zy ?_
 refine Tk 4 rfl zy ?_
 refine Tk 5 rfl zy ?_
 refine Tk 6 rfl zy ?_
 refine Tk 7 rfl zy ?_
 refine Tk 8 rfl zy ?_
 refine Tk 9 rfl zy ?_
 refine Tk 10 rfl zy ?_
 refine Tk 11 rfl zy ?_
 refine Tk 12 rfl zy ?_
 refine Tk 13 rfl zy ?_
 refine Tk 14 rfl zy ?_
 refine Tk 15 rfl zy ?_
 refine To 16 rfl fun K hK=>?_
 go_simp
 refine CL.out.mono ?_
 rintro e w5 ⟨r5,rfl,wR⟩
 obtain⟨RA,rc,rfl,_⟩:=wR.own.form;have tU:=oA.below_ wR.2
 refine Ko hK ?_ fun zy=>?_
 ·exact jcg
 clear hK K
 refine To 17 rfl fun K hK=>?_
 go_simp
 refine Kz hK ?_
 clear hK K
 refine Wd ?_
 clear zy CL a0 a1;have rF:=kV.below wR.2;obtain⟨H6,xq,rV,_⟩:=Fresh.snapB oA.psr.holds wR;have vA:=oA.grown xq;have nP:=xq.none yO kV.lt;clear tU wR oA kV;have a1:=vA.psr.blk.cell 1 rfl;go_wp2_with (with_reducible refine zx ?_)
 refine zj rfl _ _ _ rfl rfl g 1 (.int .i64 ((P:Int)+(n:Int))) rfl rfl _ _ vA.psr.blk wh (by simp) rfl fun w7 fQ wJ=>?_
 have qz:=jgh;exact jav
end
theorem Rdg.gb {T:TypeId}{w w' w'':World}{H H':Snap}{g k:Nat}{A:Option Addr}{c:Nat}{l:List UInt8}{p cnt:Nat}(h:Rdg T w H w' H' g A c l p cnt) (h0:H' k=none) (hw:w.heap.size≤k) (yu:g<w.heap.size) (hg:w'.grownBy w'' (some k)):Rdg T w H w'' H' g A c l p cnt:=h.grownRow (row:=some k) (by rintro q ⟨⟩;exact h0) (by rintro q ⟨⟩;exact hw) yu hg
end Go.Proofs.YtliomcphdnppnaaGreatDoor
