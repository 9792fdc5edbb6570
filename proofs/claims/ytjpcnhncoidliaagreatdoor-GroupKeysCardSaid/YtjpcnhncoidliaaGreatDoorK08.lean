/- squeezed. Readers of items: what a call does -/
import Derived.Test.YtjpcnhncoidliaaGreatDoorK07
set_option linter.unusedVariables false
set_option linter.unusedSimpArgs false
set_option maxRecDepth 100000
set_option maxHeartbeats 12800000
namespace Go.Proofs.YtjpcnhncoidliaaGreatDoor
open Go.RowKit
section
variable {T:TypeId} {w w' w'':World} {H H' H'':Snap} {g:Nat} {A:Option Addr} {c:Nat} {l:List UInt8} {p cnt p' cnt':Nat}
theorem Psr.gt (h:Psr T w g H A c l p cnt):g<w.heap.size:=h.blk.lt
structure Rdg (T:TypeId) (w:World) (H:Snap) (w':World) (H':Snap) (g:Nat) (A:Option Addr) (c:Nat) (l:List UInt8) (p cnt:Nat):Prop where
 grows:GrowsBut w H w' H' g
 psr:Psr T w' g H' A c l p cnt
theorem Rdg.refl (h:Psr T w g H A c l p cnt):Rdg T w H w H g A c l p cnt:=⟨GrowsBut.refl h.holds g,h⟩
theorem Rdg.trans (h:Rdg T w H w' H' g A c l p cnt) (k:Rdg T w' H' w'' H'' g A c l p' cnt'):Rdg T w H w'' H'' g A c l p' cnt':=⟨h.grows.trans k.grows,k.psr⟩
theorem Psr.grows (h:Psr T w g H A c l p cnt) (k:Grows w H w' H'):Rdg T w H w' H' g A c l p cnt :=
 ⟨k.but g,⟨h.blk.below k.below,h.bytes.mono k.le,k.holds,k.none h.apart h.gt,h.le,h.small,h.cnt_le⟩⟩
theorem Rdg.grown (h:Rdg T w H w' H' g A c l p cnt) (k:Grows w' H' w'' H''):Rdg T w H w'' H'' g A c l p cnt:=h.trans (h.psr.grows k)
theorem Rdg.alloc (h:Rdg T w H w' H' g A c l p cnt) (o:Obj):Rdg T w H (w'.alloc o) H' g A c l p cnt:=h.grown ((Grows.refl h.psr.holds).alloc o)
theorem Rdg.below_ (h:Rdg T w H w' H' g A c l p cnt) (k:Below w'.heap.size w' w''):Rdg T w H w'' H' g A c l p cnt:=h.grown (Grows.of_below h.psr.holds k)
theorem Rdg.drewN (h:Rdg T w H w' H' g A c l p cnt) (q:Nat):Rdg T w H (w'.drewN q) H' g A c l p cnt:=h.below_ (below_drewNv (Below.refl _ _) q)
theorem Rdg.size (h:Rdg T w H w' H' g A c l p cnt):w.heap.size≤w'.heap.size:=h.grows.grown.size
theorem Rdg.hid (h:Rdg T w H w' H' g A c l p cnt) {k:Nat}(hk:H k=.none) (hl:k<w.heap.size):H' k=.none:=h.grows.hid hk hl
theorem Rdg.step (h:Rdg T w H w' H' g A c l p cnt) (hg:w'.grownBy w'' (some g)) (hb:Blk w'' g T (dX A l.length c p' cnt')) (hp:p'≤l.length) (hc:cnt'≤256):Rdg T w H w'' H' g A c l p' cnt' :=
 ⟨⟨sB h.grows.grown hg (.inl rfl),h.grows.le,h.psr.holds.grown hg (by rintro q ⟨⟩;exact h.psr.apart),h.grows.fresh⟩,
  hb,h.psr.bytes,h.psr.holds.grown hg (by rintro q ⟨⟩;exact h.psr.apart),h.psr.apart,hp,h.psr.small,hc⟩
theorem Rdg.grownRow {row:Option Nat}(h:Rdg T w H w' H' g A c l p cnt) (h0:∀ k,row=some k→H' k=.none) (hw:∀ k,row=some k→w.heap.size≤k) (yy:g<w.heap.size) (hg:w'.grownBy w'' row):Rdg T w H w'' H' g A c l p cnt:=by
 have hd:=h.psr;have xq:row≠some g:=fun e=>by have:=hw g e;omega
 refine⟨⟨?_,h.grows.le,hd.holds.grown hg h0,h.grows.fresh⟩,hd.blk.grown hg xq,hd.bytes,hd.holds.grown hg h0,hd.apart,hd.le,hd.small,hd.cnt_le⟩
 exact⟨hg.os.trans h.grows.grown.os,hg.tape.trans h.grows.grown.tape,hg.output.trans h.grows.grown.output,Nat.le_trans h.size hg.size,fun i hi mq =>
   (hg.block i (Nat.lt_of_lt_of_le hi h.size) (fun e=>by have:=hw i e.symm;omega)).trans (h.grows.grown.block i hi mq)⟩
theorem Blk.rdg {k:Nat}{t:TypeId}{cs:Array Value}(h:Blk w k t cs) (hd:Rdg T w H w' H' g A c l p cnt) (hk:k≠g):Blk w' k t cs :=
 h.grown hd.grows.grown (by intro e;injection e with e;exact hk e.symm)
theorem OwnI.rdg {base:Nat}{v:Value}{K:Snap}{L:List Itm}(h:OwnI w base v K L) (hd:Rdg T w H w' H' g A c l p cnt) (hb:g<base):OwnI w' base v K L:=by
 refine h.kept hd.grows.grown ?_
 cases hv:v.ownBlock with
 | none=>exact .inl rfl
 | some k=>exact .inr (fun e=>by injection e with e;have:=h.lt k hv;omega)
def ItemOut (T:TypeId) (w:World) (H:Snap) (g:Nat) (A:Option Addr) (c:Nat) (l:List UInt8) (p:Nat) (r:PR) (e:Ending) (w':World):Prop :=
 match r with
 | .err q=>e=.returned (.tuple #[Xp,.int .i64 (q:Int)])∧(∃ H' p' cnt',Rdg T w H w' H' g A c l p' cnt')
 | .ok x k c'=>∃ ja jb jc jd H',e=.returned (.tuple #[ua x ja jb jc jd,.int .i64 0])∧Rdg T w H w' H' g A c l (p+k) c'∧IsItem H' ja jb jc jd x
theorem ItemOut.err {e:Ending}{r:PR}{q:Nat}(hr:r=.err q) (he:e=.returned (.tuple #[Xp,.int .i64 (q:Int)])) (h:Rdg T w H w' H' g A c l p' cnt'):ItemOut T w H g A c l p r e w':=by
 rw[hr,ItemOut];exact⟨he,H',p',cnt',h⟩
theorem ItemOut.ok {e:Ending}{r:PR}{x:Itm}{k c':Nat}{ja:Option Addr}{jb:Nat}{jc:Option Addr}{jd:Nat}(hr:r=.ok x k c') (he:e=.returned (.tuple #[ua x ja jb jc jd,.int .i64 0])) (h:Rdg T w H w' H' g A c l (p+k) c') (hi:IsItem H' ja jb jc jd x):ItemOut T w H g A c l p r e w':=by
 rw[hr,ItemOut];exact⟨ja,jb,jc,jd,H',he,h,hi⟩
end
theorem Ya (d:Nat) (b:List UInt8) (c:Nat) (h:256≤c):zd d b c=.err 8:=by rw[zd.eq_def];simp only;rw[if_pos h]
theorem zV (d:Nat) (b:List UInt8) (c:Nat) (h:¬ 256≤c) {q:Nat}(hq:zc b=.error q):zd d b c=.err q:=by rw[zd.eq_def];simp only;rw[if_neg h,hq]
theorem eH (d:Nat) (b:List UInt8) (c:Nat) (h:¬ 256≤c) {f n k:Nat}(hq:zc b=.ok (f,n,k)) (hk:f/32≤1):zd d b c=.ok (.mk (f/32:Nat) n [] []) k (c+1):=by
 rw[zd.eq_def];simp only;rw[if_neg h,hq];simp only;rw[if_pos hk]
theorem eI (d:Nat) (b:List UInt8) (c:Nat) (h:¬ 256≤c) {f n k:Nat}(hq:zc b=.ok (f,n,k)) (h1:¬ f/32≤1) (h3:f/32≤3):zd d b c =
  (if b.length<k+n then .err 2 else if f/32=3∧Lib.validD ((b.drop k).take n)=false then .err 5 else .ok (.mk (f/32:Nat) 0 ((b.drop k).take n) []) (k+n) (c+1)):=by
 rw[zd.eq_def];simp only;rw[if_neg h,hq];simp only;rw[if_neg h1,if_pos h3]
theorem j8 (d:Nat) (b:List UInt8) (c:Nat) (h:¬ 256≤c) {f n k:Nat}(hq:zc b=.ok (f,n,k)) (h7:f/32=7):zd d b c =
  (match x8 (f%32) n with | .error e=>.err e | .ok x=>.ok x k (c+1)):=by
 rw[zd.eq_def];simp only;rw[if_neg h,hq];simp only;rw[if_neg (by omega),if_neg (by omega),if_pos h7]
 all_goals (cases x8 (f%32) n <;> rfl)
theorem YZ (b:List UInt8) (c:Nat) (h:¬ 256≤c) {f n k:Nat}(hq:zc b=.ok (f,n,k)) (h3:4≤f/32) (h7:f/32≤6):zd 0 b c=.err 8:=by
 rw[zd.eq_def];simp only;rw[if_neg h,hq];simp only;rw[if_neg (by omega),if_neg (by omega),if_neg (by omega)]
theorem WK (d:Nat) (b:List UInt8) (c:Nat) (h:¬ 256≤c) {f n k:Nat}(hq:zc b=.ok (f,n,k)) (h6:f/32=6):zd (d+1) b c =
  (match zd d (b.drop k) (c+1) with | .err e=>.err e | .ok x k' c'=>.ok (.mk 6 n [] [x]) (k+k') c'):=by
 rw[zd.eq_def];simp only;rw[if_neg h,hq];simp only;rw[if_neg (by omega),if_neg (by omega),if_neg (by omega),if_pos h6]
 all_goals (cases zd d (b.drop k) (c+1) <;> rfl)
theorem WJ (d:Nat) (b:List UInt8) (c:Nat) (h:¬ 256≤c) {f n k:Nat}(hq:zc b=.ok (f,n,k)) (h5:f/32=5):zd (d+1) b c =
  (match pQ (zd d) n (b.drop k) (c+1) none with | .err e=>.err e | .ok l k' c'=>.ok (.mk 5 0 [] l) (k+k') c'):=by
 rw[zd.eq_def];simp only;rw[if_neg h,hq];simp only;rw[if_neg (by omega),if_neg (by omega),if_neg (by omega),if_neg (by omega),if_pos h5]
 all_goals (cases pQ (zd d) n (b.drop k) (c+1) none <;> rfl)
theorem WI (d:Nat) (b:List UInt8) (c:Nat) (h:¬ 256≤c) {f n k:Nat}(hq:zc b=.ok (f,n,k)) (h4:f/32=4):zd (d+1) b c =
  (match uf (zd d) n (b.drop k) (c+1) with | .err e=>.err e | .ok l k' c'=>.ok (.mk 4 0 [] l) (k+k') c'):=by
 rw[zd.eq_def];simp only;rw[if_neg h,hq];simp only;rw[if_neg (by omega),if_neg (by omega),if_neg (by omega),if_neg (by omega),if_neg (by omega)]
 all_goals (cases uf (zd d) n (b.drop k) (c+1) <;> rfl)
theorem e8 {b:List UInt8}{q:Nat}(h:zc b=.error q):q=2∨q=3∨q=4:=by
 cases b with
 | nil=>injection h with h;omega
 | cons f t =>
 simp only[zc]at h
 repeat' split at h
 all_goals first | (injection h with h;omega) | cases h
theorem gL {low n q:Nat}(h:x8 low n=.error q):q=4:=by
 rw[x8]at h
 repeat' split at h
 all_goals first | (injection h with h;omega) | cases h
section
variable {d:Nat} {w:World} {H:Snap} {g:Nat} {A:Option Addr} {c:Nat} {l:List UInt8} {p cnt lv:Nat}
end
section
variable {d:Nat} {w:World} {H:Snap} {g:Nat} {A:Option Addr} {c:Nat} {l:List UInt8} {p cnt lv:Nat}
theorem IsItem.str {H:Snap}{B:Option Addr}{bc:Nat}{s:List UInt8}(k:Int) (hk:0≤k∧k≤8) (h:IsBytes H B bc s):IsItem H B bc none 0 (.mk k 0 s []):=by
 rw[IsItem]
 exact⟨⟨by omega,by omega,by omega,Nat.le_refl _,by omega⟩,h,fun h=>absurd h (by simp)⟩
end
theorem er {w wr:World}{H Hr:Snap}(_h:Grows w H wr Hr) {l:List Itm}{cs:List Value}(hc:ItemsC Hr cs l) (hm:l.length≤4096) :
  OwnI (wr.alloc (.cells cs.toArray 78)) wr.heap.size (.slice (some ⟨wr.heap.size,0,none⟩) l.length l.length) Hr l:=OwnI.lit hc _ (Nat.le_refl _) hm
theorem nI {w wr:World}{H Hr:Snap}(h:Grows w H wr Hr) {l:List Itm}{cs:List Value}(hc:ItemsC Hr cs l) (hm:l.length≤4096) :
  ∃ H',Grows w H (wr.alloc (.cells cs.toArray 78)) H'∧Hr.le H'∧IsRowI H' (some ⟨wr.heap.size,0,none⟩) l.length l:=by
 have hO:=er h hc hm;have hG:=h.alloc (.cells cs.toArray 78);obtain⟨H',hl,hh,hf,hz,h1,h2,h3⟩:=hO.snap hG.holds (fun q hq=>by cases hq;exact h.holds.none_of_ge (Nat.le_refl _))
 refine⟨H',⟨hG.below,hG.le.trans hl,hh,fun b o hb=>?_⟩,hl,⟨h1,h2,h3⟩⟩
 rcases hf b o hb with h4 | h4
 ·exact hG.fresh b o h4
 simp at h4;exact .inr (by have:=h.size;omega)
theorem Xc {p:List UInt8→Nat→PR}(hp:∀ b c q,p b c=.err q→q≠0):∀ (n:Nat) (b:List UInt8) (c:Nat) (last:Option (List UInt8)) (q:Nat),pQ p n b c last=.err q→q≠0
 | 0,b,c,last,q,h=>by rw[pQ]at h;cases h
 | n+1,b,c,last,q,h=>by
  rw[pQ]at h
  split at h
  ·rename_i h1
   injection h with h
   subst h
   exact hp _ _ _ h1
  split at h
  ·rename_i h2
   injection h with h
   subst h
   unfold ms at h2
   repeat' split at h2
   all_goals first | (injection h2 with h2;omega) | cases h2
  split at h
  ·rename_i h3
   injection h with h
   subst h
   exact hp _ _ _ h3
  split at h
  ·rename_i h4
   injection h with h
   subst h
   exact Xc hp n _ _ _ _ h4
  cases h
theorem XV {p:List UInt8→Nat→PR}(hp:∀ b c q,p b c=.err q→q≠0):∀ (n:Nat) (b:List UInt8) (c:Nat) (q:Nat),uf p n b c=.err q→q≠0
 | 0,b,c,q,h=>by rw[uf]at h;cases h
 | n+1,b,c,q,h=>by
  rw[uf]at h
  split at h
  ·rename_i h1
   injection h with h
   subst h
   exact hp _ _ _ h1
  split at h
  ·rename_i h4
   injection h with h
   subst h
   exact XV hp n _ _ _ h4
  cases h
theorem vA:∀ (d:Nat) (b:List UInt8) (c q:Nat),zd d b c=.err q→q≠0:=by
 intro d
 induction d with
 | zero =>
  intro b c q h
  rw[zd.eq_def]at h
  simp only at h
  repeat' split at h
  all_goals first
   | (injection h with h;omega)
   | cases h
   | skip
  ·rename_i h1;have:=e8 h1;omega
  rename_i h1;have:=gL h1;omega
 | succ d ih =>
 intro b c q h
 rw[zd.eq_def]at h
 simp only at h
 repeat' split at h
 all_goals first
  | (injection h with h;omega)
  | cases h
  | skip
 ·rename_i h1;have:=e8 h1;omega
 ·rename_i h1;have:=gL h1;omega
 ·rename_i h1;exact ih _ _ _ h1
 ·rename_i h1;exact Xc ih _ _ _ _ _ h1
 rename_i h1;exact XV ih _ _ _ _ h1
section
variable {d:Nat} {w:World} {H:Snap} {g:Nat} {A:Option Addr} {c:Nat} {l:List UInt8} {p cnt lv:Nat}
end
def OD (b:List UInt8):Except Nat (List UInt8×Nat) :=
 match rH b with
 | .err e=>.error e
 | .ok x k _=>if x.kind≠2∨x.bytes.length<1∨64<x.bytes.length then .error 4 else .ok (x.bytes,k)
def d4 (m:Int) (su:List Int) (gx cn:List UInt8) (b:List UInt8):Except Nat First :=
 match OF b with
 | .error e=>.error e
 | .ok ext=>.ok ⟨m,su,gx,cn,ext⟩
def d3 (m:Int) (su:List Int) (gx:List UInt8) (b:List UInt8):Except Nat First :=
 match WH b with
 | .error e=>.error e
 | .ok (c,k4)=>d4 m su gx c (b.drop k4)
def d2 (m:Int) (su:List Int) (b:List UInt8):Except Nat First :=
 match OD b with
 | .error e=>.error e
 | .ok (gx,k3)=>d3 m su gx (b.drop k3)
def d1 (m:Int) (b:List UInt8):Except Nat First :=
 match rH b with
 | .err e=>.error e
 | .ok y k2 _=>match RO y with
  | .error e=>.error e
  | .ok l=>d2 m l (b.drop k2)
structure Lie (α:Type) where
 k:Nat
 pos:0<k
 E:Snap→α→List Value→Prop
 len:∀ {H x c},E H x c→c.length=k
 one:∀ {H x c},E H x c→∀ u∈c,u.oneCell'=true
 mono:∀ {H K x c},H.le K→E H x c→E K x c
section
variable {α:Type} {L:Lie α}
def RowC (L:Lie α) (H:Snap):List Value→List α→Prop
 | cs,[]=>cs=[]
 | cs,x::l=>∃ c rest,cs=c++rest∧L.E H x c∧RowC L H rest l
theorem RowC.nil (L:Lie α) (H:Snap):RowC L H [] []:=by rw[RowC]
theorem RowC.len {H:Snap}:∀ {l:List α}{cs:List Value},RowC L H cs l→cs.length=l.length*L.k
 | [],cs,h=>by rw[RowC]at h;subst h;simp
 | x::l,cs,h=>by
  obtain⟨c,rest,rfl,hx,hr⟩:=h;rw[List.length_append,L.len hx,hr.len,List.length_cons,Nat.succ_mul,Nat.add_comm]
theorem RowC.mono {H K:Snap}(hl:H.le K):∀ {l:List α}{cs:List Value},RowC L H cs l→RowC L K cs l
 | [],cs,h=>h
 | x::l,cs,h=>by
  obtain⟨c,rest,e,hx,hr⟩:=h
  exact⟨c,rest,e,L.mono hl hx,hr.mono hl⟩
theorem RowC.one {H:Snap}{x:α}{c:List Value}(h:L.E H x c):RowC L H c [x]:=⟨c,[],by simp,h,RowC.nil L H⟩
theorem RowC.app {H:Snap}:∀ {l m:List α}{cs ds:List Value},RowC L H cs l→RowC L H ds m→RowC L H (cs++ds) (l++m)
 | [],m,cs,ds,h,hd=>by rw[RowC]at h;subst h;exact hd
 | x::l,m,cs,ds,h,hd=>by
  obtain⟨c,rest,rfl,hx,hr⟩:=h
  exact⟨c,rest++ds,by simp,hx,hr.app hd⟩
theorem RowC.oneCell {H:Snap}:∀ {l:List α}{cs:List Value},RowC L H cs l→∀ u∈cs,u.oneCell'=true
 | [],cs,h=>by rw[RowC]at h;subst h;simp
 | x::l,cs,h=>by
  obtain⟨c,rest,rfl,hx,hr⟩:=h
  intro u hu
  rw[List.mem_append]at hu
  rcases hu with hu | hu
  ·exact L.one hx u hu
  exact hr.oneCell u hu
theorem RowC.get {H:Snap}:∀ {l:List α}{cs:List Value},RowC L H cs l→∀ (j:Nat) (hj:j<l.length),∃ c,L.E H l[j] c∧∀ i v,c[i]? = some v→cs[j*L.k+i]? = some v
 | [],_,_,j,hj=>by simp at hj
 | x::l,cs,h,0,_=>by
  obtain⟨c,rest,rfl,hx,hr⟩:=h
  refine⟨c,hx,fun i v hi=>?_⟩
  rw[Nat.zero_mul,Nat.zero_add,List.getElem?_append_left (List.getElem?_eq_some_iff.1 hi).1]
  exact hi
 | x::l,cs,h,j+1,hj=>by
  obtain⟨c,rest,rfl,hx,hr⟩:=h;obtain⟨c',Dk,Dr⟩:=hr.get j (by simpa using hj)
  refine⟨c',by simpa using Dk,fun i v hi=>?_⟩
  have:=Dr i v hi;rw[List.getElem?_append_right (by rw[L.len hx,Nat.succ_mul];omega),L.len hx,show(j+1)*L.k+i-L.k=j*L.k+i by rw[Nat.succ_mul];omega]
  exact this
structure IsRow (L:Lie α) (H:Snap) (A:Option Addr) (c:Nat) (l:List α):Prop where
 le:l.length≤c
 max:c≤9223372036854775807
 row:0<l.length→∃ b off cs,A=some ⟨b,off,none⟩∧RowC L H cs l∧UA H b off cs
theorem IsRow.mono {H K:Snap}{A:Option Addr}{c:Nat}{l:List α}(h:IsRow L H A c l) (hl:H.le K):IsRow L K A c l:=⟨h.le,h.max,fun h0=>by
 obtain⟨b,off,cs,e,h1,h2⟩:=h.row h0
 exact⟨b,off,cs,e,h1.mono hl,fun j v hj=>hl.cell (h2 j v hj)⟩⟩
theorem IsRow.at_ {H:Snap}{A:Option Addr}{c:Nat}{l:List α}(h:IsRow L H A c l) (h0:0<l.length):∃ b off,A=some ⟨b,off,none⟩∧∀ j (hj:j<l.length),∃ d,L.E H l[j] d∧∀ i v,d[i]? = some v→H.cell? ⟨b,off+(j*L.k+i),none⟩=some v:=by
 obtain⟨b,off,cs,e,h1,h2⟩:=h.row h0
 refine⟨b,off,e,fun j hj=>?_⟩
 obtain⟨d,hd,hi⟩:=h1.get j hj
 exact⟨d,hd,fun i v hv=>h2 _ _ (hi i v hv)⟩
def OwnX (L:Lie α) (t:TypeId) (w:World) (base:Nat) (v:Value) (H:Snap) (l:List α):Prop:=∃ cs,RowC L H cs l∧w.ownsRow base t L.k v l.length cs
variable {t:TypeId} {w w':World} {base:Nat} {v:Value} {H:Snap} {l:List α}
theorem OwnX.nil (L:Lie α) (t:TypeId) (w:World) (base:Nat) (H:Snap):OwnX L t w base (.slice none 0 0) H []:=⟨[],RowC.nil L H,World.ownsRow_nil _ _ _ _⟩
theorem OwnX.lt (h:OwnX L t w base v H l):∀ k,v.ownBlock=some k→base≤k∧k<w.heap.size:=by obtain⟨_,_,h⟩:=h;exact World.ownsRow.lt h
theorem OwnX.kept {row:Option Nat}(h:OwnX L t w base v H l) (hg:w.grownBy w' row) (xq:v.ownBlock=none∨v.ownBlock≠row):OwnX L t w' base v H l:=by
 obtain⟨cs,hc,h⟩:=h;exact⟨cs,hc,World.ownsRow.kept h hg xq⟩
theorem OwnX.below (h:OwnX L t w base v H l) (hb:Below w.heap.size w w'):OwnX L t w' base v H l:=by
 refine h.kept (uy hb none) ?_
 cases hv:v.ownBlock with
 | none=>exact .inl rfl
 | some g=>exact .inr (by simp)
theorem OwnX.alloc (h:OwnX L t w base v H l) (o:Obj):OwnX L t (w.alloc o) base v H l:=h.below (zl w o)
theorem OwnX.mono {K:Snap}(h:OwnX L t w base v H l) (hl:H.le K):OwnX L t w base v K l:=by obtain⟨cs,hc,h⟩:=h;exact⟨cs,hc.mono hl,h⟩
theorem OwnX.more {base':Nat}(h:OwnX L t w base v H l) (hb:base'≤base):OwnX L t w base' v H l:=by
 obtain⟨cs,hc,h⟩:=h
 refine⟨cs,hc,h.1, ?_⟩
 rcases h.2 with h2 | ⟨g,cap,cur,hv,hg,r⟩
 ·exact .inl h2
 exact .inr ⟨g,cap,cur,hv,by omega,r⟩
theorem OwnX.form (h:OwnX L t w base v H l):∃ A c,v=.slice A l.length c∧l.length≤c∧c≤9223372036854775807:=by
 obtain⟨cs,hc,h⟩:=h
 rcases h.2 with ⟨rfl,hz⟩ | ⟨g,cap,cur,rfl,_,_,hn,hm,_⟩
 ·exact⟨none,0,by rw[hz],by omega,by omega⟩
 exact⟨_,cap,rfl,hn,by simpa [maxLen] using hm⟩
theorem OwnX.snap {A:Option Addr}{m c:Nat}(h:OwnX L t w base (.slice A m c) H l) (hw:Holds w H) (hn:∀ g,A.map (·.block)=some g→H g=none) :
  ∃ H',H.le H'∧Holds w H'∧(∀ b o,H' b=some o→H b=some o∨A.map (·.block)=some b)∧m=l.length∧IsRow L H' A c l:=by
 obtain⟨cs,lT,h⟩:=h
 rcases h.2 with ⟨hv,hz⟩ | ⟨g,cap,cur,hv,_,hg,hc,hm,hcz,ht⟩
 ·cases hv
  exact⟨H,Snap.le.refl _,hw,fun _ _ h=>.inl h,hz.symm,⟨by omega,by omega,by omega⟩⟩
 cases hv
 have Py:H g=none:=hn g rfl
 refine⟨H.with g (.cells cur t),Snap.le_with Py,hw.with hg,fun b o hb=>?_,rfl,hc,by simpa [maxLen] using hm,fun _=>⟨g,0,cs,rfl,lT.mono (Snap.le_with Py),fun j v hj=>?_⟩⟩
 ·unfold Snap.with at hb
  split at hb
  ·subst b;exact .inr rfl
  exact .inl hb
 rw[← ht,List.getElem?_take]at hj
 split at hj
 ·simp[Snap.cell?,Snap.with]
  simpa using hj
 cases hj
theorem OwnX.at_ {A:Option Addr}{m c:Nat}(h:OwnX L t w base (.slice A m c) H l) (j:Nat) (hj:j<l.length):∃ g,A=some ⟨g,0,none⟩∧∃ d,L.E H l[j] d∧∀ i v,d[i]? = some v→w.cell? ⟨g,j*L.k+i,none⟩=some v:=by
 obtain⟨cs,lT,h⟩:=h
 rcases h.2 with ⟨hv,hz⟩ | ⟨g,cap,cur,hv,_,hg,hc,hm,hcz,ht⟩
 ·omega
 cases hv
 obtain⟨d,hd,hi⟩:=lT.get j hj
 refine⟨g,rfl,d,hd,fun i v hv=>?_⟩
 have hx:=hi i v hv;rw[← ht,List.getElem?_take]at hx
 split at hx
 ·exact(cell_of_row w g _ cur t (0,0) hg).trans (by simpa using hx)
 cases hx
theorem OwnX.append {ops:Array Oper}{rest:List Oper}{o:Oper}{a:Act}{Q:Exit→Act→World→Prop}(ip:o.guard=none) (s x:Operand) (T:TypeId)
  (ho:o.op=.call { callee:=.builtin .append,args:=#[s,x],argTypes:=#[T,T] }) (hT:Tryz.prog.underlying T=some (.slice t)) {z:Value} {bytes:Nat} (Sy:z.cells.size=L.k) (iI:bytes≤128)
  (hinfo:(Tryz.prog.info? t).map (fun i=>(i.zero,i.size,i.bytes))=some (some z,L.k,bytes))
  (hs:a.eval s=v) (sz:OwnX L t w base v H l) (A:Option Addr) (m c:Nat) (cs:List Value) (news:List α) (hx:a.eval x=.slice A m c) (hm:m=news.length)
  (hn:RowC L H cs news) (hr:Src w A cs) (z6:l.length+news.length≤1099511627776) (hbase:base≤w.heap.size)
  (h:∀ v' w',OwnX L t w' base v' H (l++news)→w.grownBy w' v.ownBlock→At0 w v.ownBlock v'.ownBlock→wpList Tryz.prog ops Q rest (a.put o.dst v') w') :
  wpList Tryz.prog ops Q (o::rest) a w:=by
 subst hm;obtain⟨xs,Za,sz⟩:=sz;obtain⟨i0,yK,lW,qL,qE⟩:=info_parts hinfo
 refine wpList_plain ip fun K hK=>uW s x _ ho base t i0 _ L.k bytes hT yK lW qL qE Sy L.pos v l.length xs hs sz A news.length c cs hx hn.len hr hn.oneCell
  (by simp only[maxLen];omega) (by have:=Nat.mul_le_mul z6 iI;omega) hbase fun v' w' h2 h3 h4=>hK _ _ (h v' w' ?_ h3 ?_)
 ·exact⟨xs++cs,Za.app hn,by simpa using h2⟩
 rcases h4 with h4 | h4
 ·exact .inl h4
 exact .inr ⟨_,h4,Nat.le_refl _⟩
end
def C2:Lie Int where
 k:=1
 pos:=by omega
 E:=fun _ x c=>c=[.int .i64 x]
 len:=by rintro _ _ _ rfl;rfl
 one:=by rintro _ _ _ rfl;simp[Value.oneCell']
 mono:=fun _ h=>h
def fF:Lie (List UInt8) where
 k:=1
 pos:=by omega
 E:=fun H x c=>∃ A cc,c=[.slice A x.length cc]∧IsBytes H A cc x
 len:=by rintro _ _ _ ⟨_,_,rfl,_⟩;rfl
 one:=by rintro _ _ _ ⟨_,_,rfl,_⟩;simp[Value.oneCell']
 mono:=by rintro H K x c hl ⟨A,cc,e,h⟩;exact⟨A,cc,e,h.mono hl⟩
theorem rh (k:Int) (n:Nat) (bs:List UInt8) (l:List Itm) (h8:k≠8) (h7:k≠7):(zX (.mk k n bs l)).length≤9+bs.length+(ym l).length:=by
 rw[vh,if_neg (by simpa [Itm.kind] using h8),if_neg (by simp[Itm.kind,h7])];have:=(wO k.toNat (tj (.mk k n bs l))).2
 simp only[Itm.kind,Itm.bytes,Itm.items,List.length_append]
 omega
theorem rj (k:Int) (hk:k=2∨k=3) (bs:List UInt8) (lv:Nat) (hv:k=3→Lib.validD bs=true):Good (.mk k 0 bs []) lv:=by
 refine Good.of ?_ (by simp only[Itm.items];rw[GoodL];trivial) (fun h=>by simp only[Itm.kind]at h;omega)
 rw[yF,if_pos (by rw[yh];simp only[Itm.kind];omega)]
 rcases hk with rfl | rfl
 ·simp[wo,Itm.kind,Itm.n,Itm.items]
 simp[wo,Itm.kind,Itm.n,Itm.items,Itm.bytes,hv rfl]
section
variable {w w':World} {base:Nat} {H:Snap} {l:List Itm}
theorem OwnI.parts {A:Option Addr}{m c:Nat}(h:OwnI w base (.slice A m c) H l) (k:Nat):∃ cs1 cs2,ItemsC H cs1 (l.take k)∧ItemsC H cs2 (l.drop k)∧Src w A cs1∧(k<l.length→∃ b off,A=some ⟨b,off,none⟩∧Src w (some ⟨b,off+k*4,none⟩) cs2):=by
 obtain⟨cs,hc,ho⟩:=h;have hs:=Src.of_own ho;obtain⟨h1,h2⟩:=hc.split k
 refine⟨_,_,h1,h2,fun xq=>?_,fun hk=>?_⟩
 ·obtain⟨b,off,e,hx⟩:=hs (by rintro rfl;simp at xq)
  exact⟨b,off,e,fun j v hj=>hx j v (by rw[List.getElem?_take]at hj;split at hj;exact hj;cases hj)⟩
 obtain⟨b,off,e,hx⟩:=hs (by rintro rfl;have:=hc.len;simp at this;omega)
 refine⟨b,off,e,fun _=>⟨b,off+k*4,rfl,fun j v hj=>?_⟩⟩
 rw[List.getElem?_drop]at hj;rw[Nat.add_assoc]
 exact hx _ v hj
theorem OwnI.cells {A:Option Addr}{m c:Nat}(h:OwnI w base (.slice A m c) H l) (k:Nat) (hk:k<l.length):∃ b off,A=some ⟨b,off,none⟩∧∃ ba bc ia ic,w.cell? ⟨b,off+k*4,none⟩=some (.int .i64 l[k].kind)∧w.cell? ⟨b,off+k*4+1,none⟩=some (.int .u64 l[k].n)∧
  w.cell? ⟨b,off+k*4+2,none⟩=some (.slice ba l[k].bytes.length bc)∧w.cell? ⟨b,off+k*4+3,none⟩=some (.slice ia l[k].items.length ic)∧IsItem H ba bc ia ic l[k]:=by
 obtain⟨cs,hc,ho⟩:=h;obtain⟨b,off,e,hx⟩:=Src.of_own ho (by rintro rfl;have:=hc.len;simp at this;omega);obtain⟨ba,bc,ia,ic,h0,h1,h2,h3,hi⟩:=hc.get k hk
 exact⟨b,off,e,ba,bc,ia,ic,hx _ _ h0,hx _ _ h1,hx _ _ h2,hx _ _ h3,hi⟩
end
theorem yr {w w':World}{a:Addr}{v:Value}(h:w.cell? a=some v) (hb:Below w.heap.size w w'):w'.cell? a=some v:=(hb.cell (World.block_lt_of_cell? w _ h)).trans h
theorem tA {w:World}{a:Addr}{v:Value}(h:w.cell? a=some v):w.drew.cell? a=some v:=h
theorem OwnI.drew {w:World}{base:Nat}{v:Value}{H:Snap}{l:List Itm}(h:OwnI w base v H l):OwnI w.drew base v H l:=h
theorem rW {A:Option Addr}{m c q:Nat}(h:A.map (·.block)=some q):(Value.slice A m c).ownBlock=some q:=by cases A <;> simp_all [Value.ownBlock]
theorem Src.slicek {w:World}{H:Snap}{A:Option Addr}{cs:List Value}{L:List Itm}{k j vc:Nat}(h:k<L.length→∃ b off,A=some ⟨b,off,none⟩∧Src w (some ⟨b,off+k*4,none⟩) cs) (hc:ItemsC H cs (L.drop k)) (hL:L.length=j) (Kp:(j:Int)≤vc) :
  Src w (if vc=k then A else Option.map (fun x=>x.add (k*4)) A) cs:=by
 by_cases hk:k<L.length
 ·obtain⟨b,off,rfl,hs⟩:=h hk;rw[if_neg (by omega),Option.map_some,rg]
  exact hs
 rw[List.drop_eq_nil_of_le (by omega),ItemsC]at hc;subst hc
 exact Src.nil _ _
theorem dl {B:Nat}{w wr:World}(_h:Below B w wr) (t:TypeId) (cs:Array Value):Src (wr.alloc (.cells cs t)) (some ⟨wr.heap.size,0,none⟩) cs.toList:=Src.lit _ _ _
theorem ak (L:List Itm) (k:Nat) (y z:Itm):(ym (L.take k++[y,z]++L.drop k)).length=(ym L).length+(zX y).length+(zX z).length:=by
 have h:=congrArg List.length (re (L.take k) (L.drop k));rw[List.take_append_drop]at h;rw[re,re]
 simp only[ym,List.length_append,List.append_nil]at h⊢
 omega
theorem aZ (l:List Itm) (h:xj l=true):∀ i:Nat,xj (l.drop (2*i))=true
 | 0=>by simpa using h
 | i+1=>by
  have ih:=aZ l h i;rw[show 2*(i+1)=2*i+2 by omega,← List.drop_drop]
  generalize l.drop (2*i)=m at ih
  match m,ih with
  | [],_=>rfl
  | [_],_=>rfl
  | _::_::m,ih=>exact Vf ih
theorem OB {l:List Itm}(h:xj l=true) {m:Nat}(he:m%2=0) (hm:m+2<l.length):Lib.compareBytes (zX (l[m]'(by omega))) (zX l[m+2])<0:=by
 obtain⟨i,rfl⟩:∃ i,m=2*i:=⟨m/2,by omega⟩
 have h1:=aZ l h i;have h2:=pI l (2*i+2) (by omega) hm
 simp only[Nat.add_sub_cancel]at h2
 rw[h1]at h2;have h3:=(Bool.and_eq_true _ _).mp h2.symm;have h4:=of_decide_eq_true h3.1
 simpa using h4
def fe (w:World) (H:Snap) (ps:List Itm) (e:Ending) (w':World):Prop :=
 ∃ v,(∃ l,e=.returned (.tuple #[v,.int .i64 0])∧Gives w H (.mk 5 0 [] l) v w'∧yG (.mk 5 0 [] l)=true∧(ym l).length=(ym ps).length∧(xj ps=true→l=ps))∨
  (∃ c,e=.returned (.tuple #[v,.int .i64 c])∧c≠0∧Gives w H lB v w'∧¬ (ps.length%2=0∧xj ps=true∧(∀ x∈ps,yG x=true)∧yG (.mk 5 0 [] ps)=true))
theorem gJ {H:Snap}(hTab:Tabs H) {A:Option Addr}{c:Nat}{ps:List Itm}(hr:IsRowI H A c ps) (hl:ps.length≤1099511627776) (w:World) (hH:Holds w H) :
  Calls Tryz.prog 85 #[.slice A ps.length c] w (fe w H ps):=by
 have hT:=Blk.new w 78 #[.int .i64 0,.int .u64 0,.slice none 0 0,.slice none 0 0];have hb:=zl w zO;have zG:H w.heap.size=none:=hH.none_of_ge (Nat.le_refl _);have HR:=Hh hr;clear hr
 by_cases uq:ps.length%2=0
 case neg =>
  have b1:((ps.length:Int)%2 != 0)=true:=by rw[bne_iff_ne];omega
  have p1:((ps.length:Int)%2=0)=False:=eq_false (by omega);have HE:=Hh uq;clear uq;go_enter Tryz.func85,Tryz.ntmps85
  go_wp2_with fail
  refine zw rfl rfl hT rfl rfl zp rfl ?_
  exact⟨_,.inr ⟨1,rfl,by omega,⟨none,0,none,0,H,rfl,Grows.of_below hH hb,IsItem.plain H 0 0 (by omega) (by omega)⟩,fun h=>HE.out h.1⟩⟩
 have b1:((ps.length:Int)%2 != 0)=false:=by rw[bne_eq_false_iff_eq];omega
 have p1:((ps.length:Int)%2=0)=True:=eq_true (by omega);have HE:=Hh uq;clear uq;go_enter Tryz.func85,Tryz.ntmps85
 go_wp2_with fail
 go_loopw [18] (fun v18 wr=>∃ j:Nat,j≤ps.length∧v18=.int .i64 j∧(∀ x∈ps.take j,yG x=true)∧Below w.heap.size w wr∧Blk wr w.heap.size 78 #[.int .i64 0,.int .u64 0,.slice none 0 0,.slice none 0 0]) (fun v18 _=>ps.length-(intOf v18).toNat)
 case atStart=>exact⟨0,Nat.zero_le _,rfl,by simp,hb,hT⟩
 case round =>
 clear hb hT;obtain⟨j,hj,rfl,vD,yE,qg⟩:=hrel
 by_cases yy:j<ps.length
 ·have xD:=hH.below yE (Nat.le_refl _);obtain⟨ib,io,qI,vI⟩:=HR.out.elems (by omega);obtain⟨y1,y2,y3,y4,q0,q1,q2,q3,qh⟩:=vI.get j yy;subst qI;have p0:=xD.cell q0;have p1':=xD.cell q1;have p2:=xD.cell q2;have p3:=xD.cell q3;have DY:=xD.alloc (zH ps[j] y1 y2 y3 y4);have V:=Hh (nL hTab qh.arg _ DY);have yz:=yE.alloc yE.size (zH ps[j] y1 y2 y3 y4);have sM:=qg.alloc (zH ps[j] y1 y2 y3 y4);have X5:ps[j]∈ps:=List.getElem_mem yy;have HT:=Hh (show ps.take (j+1)=ps.take j++[ps[j]] from List.take_succ_eq_append_getElem yy);have Mk:=Hh vD
  generalize ps[j]'yy=x at *
  clear q0 q1 q2 q3 vI qh yE qg xD vD
  cases hv:yG x with
  | false =>
   rw[hv]at V;have HX:=Hh (And.intro hv X5);clear hv X5;go_wp2_with fail
   refine V.out.mono ?_
   rintro e w3 ⟨rfl,vg⟩
   have un:=sM.below vg;have yX:=yz.trans (vg.mono yz.size);clear sM yz vg;go_wp2_with (with_reducible refine zx ?_)
   refine stI un fun w9 wL hg9=>?_
   have tZ:=(Grows.of_below hH yX).grownOwn zG (Nat.le_refl _) hg9;go_wp2_with fail
   refine zw rfl rfl wL rfl rfl zp rfl ?_
   exact⟨_,.inr ⟨1,rfl,by omega,⟨none,0,none,0,H,rfl,tZ,IsItem.plain H 0 0 (by omega) (by omega)⟩,fun h=>by rw[h.2.2.1 x HX.out.2]at HX;cases HX.out.1⟩⟩
  | true =>
  rw[hv]at V;have HX:=Hh hv;clear hv X5;go_wp2_with fail
  refine V.out.mono ?_
  rintro e w3 ⟨rfl,vg⟩
  have un:=sM.below vg;have yX:=yz.trans (vg.mono yz.size);have fE:(j:Int)+1≤9223372036854775807:=by omega
  clear sM yz vg;go_wp2_with fail
  go_roundw
  case rel=>exact⟨j+1,by omega,by go_num,fun y hy=>by rw[HT.out,List.mem_append]at hy;rcases hy with hy | hy;exact Mk.out y hy;rw[List.mem_singleton.1 hy];exact HX.out,yX,un⟩
  case measure=>simp[intOf];omega
 have sX:j=ps.length:=by omega
 subst sX;rw[List.take_length]at vD;have Mk:=Hh vD;clear vD;go_wp2_with fail
 go_loopw [6,7,8] (fun v6 v7 v8 wr=>∃ (j:Nat) (L:List Itm) (b:Bool) (VA:Option Addr) (vc:Nat),j≤ps.length∧j%2=0∧v8=.int .i64 (j:Int)∧v7=.bool b∧v6=.slice VA j vc∧L.length=j∧OwnI wr (w.heap.size+1) (.slice VA j vc) H L∧(∀ x∈L,x∈ps)∧
  (ym L).length=(ym (ps.take j)).length∧(xj ps=true→b=false∧L=ps.take j)∧Below w.heap.size w wr∧Blk wr w.heap.size 78 #[.int .i64 0,.int .u64 0,.slice none 0 0,.slice none 0 0]) (fun _ _ v8 _=>ps.length+1-(intOf v8).toNat)
 case atStart=>exact⟨0,[],false,none,0,Nat.zero_le _,rfl,rfl,rfl,rfl,rfl,OwnI.nil _ _ _,by simp,by simp,fun _=>⟨rfl,by simp⟩,yE,qg⟩
 case round =>
 clear yE qg;obtain⟨j,L,b,VA,vc,hj,Qf,rfl,rfl,rfl,FW,vf,X5,QB,h2,yE,qg⟩:=hrel
 have Nc:Hid ((j:Int)≤vc):=by
  obtain⟨_,c9,e,h1,_⟩:=vf.form;injection e with _ _ e3
  subst e3;show(j:Int)≤(vc:Int)
  omega
 have HS:=Hh (And.intro X5 (And.intro QB h2));have HJ:=Hh Qf;clear X5 QB h2 Qf
 by_cases yy:j<ps.length
 ·have mi:j+1<ps.length:=by have:=HJ.out;have:=HE.out;omega
  obtain⟨ib,io,qI,vI⟩:=HR.out.elems (by omega);obtain⟨y1,y2,y3,y4,q0,q1,q2,q3,qh⟩:=vI.get j yy;obtain⟨z1,z2,z3,z4,s0,s1,s2,s3,V5⟩:=vI.get (j+1) mi;subst qI;have Mm:=Hh (Mk.out ps[j] (List.getElem_mem yy));have VQ:=Hh (And.intro (List.getElem_mem yy) (List.getElem_mem mi))
  have Mg:=Hh (show(ym (ps.take (j+2))).length=(ym (ps.take j)).length+(zX ps[j]).length+(zX ps[j+1]).length by
   have h1:=nZ ps (j+1) mi;have h2:=nZ ps j yy;rw[show j+2=j+1+1 by omega,h1,h2];simp only[List.length_append])
  have Eg:=Hh (show ps.take (j+2)=ps.take j++[ps[j],ps[j+1]] by
   rw[show j+2=j+1+1 by omega,List.take_succ_eq_append_getElem mi,List.take_succ_eq_append_getElem yy,List.append_assoc];rfl)
  have LB:=Hh (show xj ps=true→∀ m (hm:m+2=j) (hl:m<L.length),Lib.compareBytes (zX L[m]) (zX ps[j])<0 from fun hA m hm hl=>by
   have e:=(HS.out.2.2 hA).2;have JB:m<j:=by omega
   have Q5:m<ps.length:=by omega
   have h1:L[m]? = some (ps[m]'Q5):=by rw[e,List.getElem?_take,if_pos JB,List.getElem?_eq_getElem]
   rw[List.getElem?_eq_getElem hl]at h1;rw[Option.some.inj h1];have h2:=OB (m:=m) hA (by have:=HJ.out;omega) (by omega);have h3:ps[m+2]'(by omega)=ps[j]:=by congr 1
   rw[h3]at h2
   exact h2)
  generalize ps[j]'yy=y at *
  generalize ps[j+1]'mi=z at *
  clear vI;have PH:(j:Int)<ps.length:=by omega
  have UK:(j:Int)+1<ps.length:=by omega
  have fE:(j:Int)+2≤9223372036854775807:=by omega
  have QS:Hid (IntKind.i64.wrap ((j:Int)+1)=(j:Int)+1):=IntWalk.i64_in _ (by omega);go_wp2_with fail
  go_loopw [9] (fun v9 wx=>∃ k:Nat,k≤j∧k%2=0∧(xj ps=true→k=j)∧v9=.int .i64 (k:Int)∧OwnI wx (w.heap.size+1) (.slice VA j vc) H L∧Below w.heap.size w wx∧Blk wx w.heap.size 78 #[.int .i64 0,.int .u64 0,.slice none 0 0,.slice none 0 0]) (fun v9 _=>(intOf v9).toNat)
  case atStart=>exact⟨j,Nat.le_refl _,HJ.out,fun _=>rfl,rfl,vf,yE,qg⟩
  case round =>
  clear vf yE qg;obtain⟨k,hk,VX,Nv,rfl,cB,wJ,iH⟩:=hrel;have Js:=Hh Nv;clear Nv;have mX:=Hh VX;clear VX;have Dz:((k:Nat):Int)≤j:=by omega
  go_upto_region 15 with fail
  go_cut [51] (fun s51 wx=>∃ bb:Bool,s51=.bool bb∧(bb=true→2≤k)∧(xj ps=true→bb=false)∧OwnI wx (w.heap.size+1) (.slice VA j vc) H L∧Below w.heap.size w wx∧Blk wx w.heap.size 78 #[.int .i64 0,.int .u64 0,.slice none 0 0,.slice none 0 0])
  case first =>
   by_cases lU:k=0
   ·subst lU;skip
    refine zn 16 (fun _=>True) (by kernel_rfl) (trivial) (fun zy=>?_)
    refine Tk 0 rfl zy ?_
    refine Tk 1 rfl zy ?_
    refine Tk 2 rfl zy ?_
    refine TkU 3 rfl zy ?_
    refine TkU 4 rfl zy ?_
    refine TkU 5 rfl zy ?_
    refine TkU 6 rfl zy ?_
    refine TkU 7 rfl zy ?_
    refine TkU 8 rfl zy ?_
    refine TkU 9 rfl zy ?_
    refine TkU 10 rfl zy ?_
    refine TkU 11 rfl zy ?_
    refine TkU 12 rfl zy ?_
    refine TkU 13 rfl zy ?_
    refine TkU 14 rfl zy ?_
    refine TkU 15 rfl zy ?_
    refine To 16 rfl fun K hK=>?_
    go_simp
    refine Kz hK ?_
    clear hK K
    refine Wd ?_
    go_wp2_with fail
    go_meet
    exact⟨false,rfl,(fun h=>by cases h),(fun _=>rfl),cB,wJ.drew,iH⟩
   obtain⟨m,rfl⟩:∃ m,k=m+2:=⟨k-2,by have:=mX.out;omega⟩
   have JB:m<j:=by omega
   obtain⟨lb,lo,JA,x1,x2,x3,x4,c0,c1,c2,c3,Ix⟩:=cB.cells m (by omega);subst JA;have Ml:=Hh (Mk.out _ (HS.out.1 _ (List.getElem_mem (show m<L.length by omega))));have Nd:=Hh (show xj ps=true→Lib.compareBytes (zX (L[m]'(by omega))) (zX y)<0 from fun hA=>LB.out hA m (Js.out hA) (by omega))
   generalize L[m]'(by omega)=x at *
   have e2:((m+2:Nat):Int)=(m:Int)+2:=by omega
   rw[e2];have nY:IntKind.i64.wrap ((m:Int)+2-2)=(m:Int):=by rw[show(m:Int)+2-2=(m:Int) by omega];exact IntWalk.i64_in _ (by omega)
   have qK:IntKind.i64.wrap (m:Int)=(m:Int):=IntWalk.i64_in _ (by omega);have E4:(m:Int)<j:=by omega
   have oP:(0:Int)≤(m:Int):=by omega
   have Q5:(0:Int)<(m:Int)+2:=by omega
   have zA:=(hH.below wJ (Nat.le_refl _)).drew;have p0:=zA.cell q0;have p1:=zA.cell q1;have p2:=zA.cell q2;have p3:=zA.cell q3;have c0:=tA c0;have c1:=tA c1;have c2:=tA c2;have c3:=tA c3;have yX:=wJ.drew;have ZT:=OwnI.drew cB;have fM:=iH.drew;obtain⟨cmp,tz⟩:∃ cmp,Lib.compareBytes (zX x) (zX y)=cmp:=⟨_,rfl⟩
   have gx:=(vO x).1 Ml.out;have gy:=(vO y).1 Mm.out;have Pb:=Hh gx;have Pc:=Hh gy;have Ht:=Hh tz;have Jl:=Hh (show xj ps=true→cmp<0 from fun hA=>by have h:=Nd.out hA;rw[tz]at h;exact h);clear gx gy tz e2 cB wJ iH lU hk;skip
   refine zn 16 (fun w'=>w'.cell? ⟨lb,lo+m*4,none⟩=some (.int .i64 x.kind)∧w'.cell? ⟨lb,lo+m*4+1,none⟩=some (.int .u64 x.n)∧w'.cell? ⟨lb,lo+m*4+2,none⟩=some (.slice x1 x.bytes.length x2)∧w'.cell? ⟨lb,lo+m*4+3,none⟩=some (.slice x3 x.items.length x4)∧w'.cell? ⟨ib,io+j*4,none⟩=some (.int .i64 y.kind)∧w'.cell? ⟨ib,io+j*4+1,none⟩=some (.int .u64 y.n)∧w'.cell? ⟨ib,io+j*4+2,none⟩=some (.slice y1 y.bytes.length y2)∧w'.cell? ⟨ib,io+j*4+3,none⟩=some (.slice y3 y.items.length y4)) (by kernel_rfl) (⟨c0,c1,c2,c3,p0,p1,p2,p3⟩) (fun zy=>?_)
   refine Tk 0 rfl zy ?_
   refine Tk 1 rfl zy ?_
   refine Tk 2 rfl zy ?_
   refine TkG 3 rfl zy ?_
   refine TkG 4 rfl zy ?_
   refine TkG 5 rfl zy ?_
   refine TkG 6 rfl zy ?_
   refine TkG 7 rfl zy ?_
   refine TkG 9 rfl zy ?_
   refine TkG 10 rfl zy ?_
   refine TkG 11 rfl zy ?_
   refine TkG 12 rfl zy ?_
   refine To 8 rfl fun K hK=>?_
   go_simp
   refine(vW x H _ _ x1 _ x2 x3 _ x4 _ 0 Pb.out.1 (by have:=Pb.out.2.2;omega) Ix.arg zA).mono ?_
   rintro e w5 ⟨r5,rfl,uV⟩
   obtain⟨RA5,rc5,rfl,_⟩:=uV.own.form;have zA:=zA.below uV.2 (Nat.le_refl _);have yX:=yX.trans (uV.2.mono yX.size);have ZT:=ZT.below uV.2;have fM:=fM.below uV.2;have dU:=uV.own.src;have c0:=yr c0 uV.2;have c1:=yr c1 uV.2;have c2:=yr c2 uV.2;have c3:=yr c3 uV.2
   refine Ko hK ?_ fun zy=>?_
   ·exact⟨c0,c1,c2,c3,zA.cell q0,zA.cell q1,zA.cell q2,zA.cell q3⟩
   clear hK K
   refine To 13 rfl fun K hK=>?_
   go_simp
   refine(vW y H _ _ y1 _ y2 y3 _ y4 _ 0 Pc.out.1 (by have:=Pc.out.2.2;omega) qh.arg zA).mono ?_
   rintro e w6 ⟨r6,rfl,vu⟩
   obtain⟨RA6,rc6,rfl,_⟩:=vu.own.form;have zA:=zA.below vu.2 (Nat.le_refl _);have yX:=yX.trans (vu.2.mono yX.size);have ZT:=ZT.below vu.2;have fM:=fM.below vu.2;have dU:=dU.below vu.2;have rI:=vu.own.src;have c0:=yr c0 vu.2;have c1:=yr c1 vu.2;have c2:=yr c2 vu.2;have c3:=yr c3 vu.2
   refine Ko hK ?_ fun zy=>?_
   ·exact⟨c0,c1,c2,c3,zA.cell q0,zA.cell q1,zA.cell q2,zA.cell q3⟩
   clear hK K
   refine To 14 rfl fun K hK=>?_
   go_simp
   refine(vT _ RA5 RA6 (zX x) (zX y) (zX x).length (zX y).length rc5 rc6 rfl rfl (by have:=Pb.out.2.2;omega) (by have:=Pc.out.2.2;omega) dU rI).mono ?_
   rintro e w7 ⟨rfl,xU⟩
   rw[Ht.out];have zA:=zA.below xU (Nat.le_refl _);have yX:=yX.trans (xU.mono yX.size);have ZT:=ZT.below xU;have fM:=fM.below xU;have c0:=yr c0 xU;have c1:=yr c1 xU;have c2:=yr c2 xU;have c3:=yr c3 xU
   refine Ko hK ?_ fun zy=>?_
   ·exact⟨c0,c1,c2,c3,zA.cell q0,zA.cell q1,zA.cell q2,zA.cell q3⟩
   clear hK K
   refine TkG 15 rfl zy ?_
   refine To 16 rfl fun K hK=>?_
   go_simp
   refine Kz hK ?_
   clear hK K
   refine Wd ?_
   clear zy dU rI c0 c1 c2 c3 p0 p1 p2 p3;go_wp2_with fail
   go_meet
   exact⟨decide ((0:Int)<cmp),rfl,(fun _=>by omega),(fun hA=>decide_eq_false (by have:=Jl.out hA;omega)),ZT,yX,fM⟩
  case rest =>
  clear cB wJ iH;obtain⟨bb,rfl,nA,Fk,cB,wJ,iH⟩:=hcut;have C8:=Hh Fk;clear Fk
  cases bb with
  | true =>
   obtain⟨m,rfl⟩:∃ m,k=m+2:=⟨k-2,by have:=nA rfl;omega⟩
   have nY:IntKind.i64.wrap (((m+2:Nat):Int)-2)=(m:Int):=by rw[show((m+2:Nat):Int)-2=(m:Int) by omega];exact IntWalk.i64_in _ (by omega)
   clear nA;go_wp2_with fail
   go_roundw
   case rel=>exact⟨m,by omega,by have:=mX.out;omega,(fun hA=>by have:=C8.out hA;cases this),by first | rfl | go_num,cB,wJ,iH⟩
   case measure=>simp[intOf];omega
  | false =>
  clear nA;go_upto_region 17 with fail
  go_cut [7] (fun s7 wx=>∃ b':Bool,s7=.bool b'∧(k=0→b'=b)∧(xj ps=true→b'=b)∧OwnI wx (w.heap.size+1) (.slice VA j vc) H L∧Below w.heap.size w wx∧Blk wx w.heap.size 78 #[.int .i64 0,.int .u64 0,.slice none 0 0,.slice none 0 0])
  case first =>
   cases b with
   | true =>
    refine zn 20 (fun _=>True) (by kernel_rfl) (trivial) (fun zy=>?_)
    refine Tk 0 rfl zy ?_
    refine Tk 1 rfl zy ?_
    refine TkU 2 rfl zy ?_
    refine TkU 3 rfl zy ?_
    refine TkU 4 rfl zy ?_
    refine TkU 5 rfl zy ?_
    refine TkU 6 rfl zy ?_
    refine TkU 7 rfl zy ?_
    refine TkU 8 rfl zy ?_
    refine TkU 9 rfl zy ?_
    refine TkU 10 rfl zy ?_
    refine TkU 11 rfl zy ?_
    refine TkU 12 rfl zy ?_
    refine TkU 13 rfl zy ?_
    refine TkU 14 rfl zy ?_
    refine TkU 15 rfl zy ?_
    refine TkU 16 rfl zy ?_
    refine TkU 17 rfl zy ?_
    refine TkU 18 rfl zy ?_
    refine Tk 19 rfl zy ?_
    refine To 20 rfl fun K hK=>?_
    go_simp
    refine Kz hK ?_
    clear hK K
    refine Wd ?_
    go_wp2_with fail
    go_meet
    exact⟨true,rfl,(fun _=>rfl),(fun _=>rfl),cB,wJ.drew,iH⟩
   | false =>
   by_cases lU:k=0
   ·subst lU
    refine zn 20 (fun _=>True) (by kernel_rfl) (trivial) (fun zy=>?_)
    refine Tk 0 rfl zy ?_
    refine Tk 1 rfl zy ?_
    refine TkG 2 rfl zy ?_
    refine TkG 3 rfl zy ?_
    refine TkG 4 rfl zy ?_
    refine TkU 5 rfl zy ?_
    refine TkU 6 rfl zy ?_
    refine TkU 7 rfl zy ?_
    refine TkU 8 rfl zy ?_
    refine TkU 9 rfl zy ?_
    refine TkU 10 rfl zy ?_
    refine TkU 11 rfl zy ?_
    refine TkU 12 rfl zy ?_
    refine TkU 13 rfl zy ?_
    refine TkU 14 rfl zy ?_
    refine TkU 15 rfl zy ?_
    refine TkU 16 rfl zy ?_
    refine TkU 17 rfl zy ?_
    refine TkG 18 rfl zy ?_
    refine Tk 19 rfl zy ?_
    refine To 20 rfl fun K hK=>?_
    go_simp
    refine Kz hK ?_
    clear hK K
    refine Wd ?_
    go_wp2_with fail
    go_meet
    exact⟨false,rfl,(fun _=>rfl),(fun _=>rfl),cB,wJ.drew,iH⟩
   skip
   obtain⟨m,rfl⟩:∃ m,k=m+2:=⟨k-2,by have:=mX.out;omega⟩
   have JB:m<j:=by omega
   obtain⟨lb,lo,JA,x1,x2,x3,x4,c0,c1,c2,c3,Ix⟩:=cB.cells m (by omega);subst JA;have Ml:=Hh (Mk.out _ (HS.out.1 _ (List.getElem_mem (show m<L.length by omega))));have Nd:=Hh (show xj ps=true→Lib.compareBytes (zX (L[m]'(by omega))) (zX y)<0 from fun hA=>LB.out hA m (Js.out hA) (by omega))
   generalize L[m]'(by omega)=x at *
   have e2:((m+2:Nat):Int)=(m:Int)+2:=by omega
   rw[e2];have nY:IntKind.i64.wrap ((m:Int)+2-2)=(m:Int):=by rw[show(m:Int)+2-2=(m:Int) by omega];exact IntWalk.i64_in _ (by omega)
   have qK:IntKind.i64.wrap (m:Int)=(m:Int):=IntWalk.i64_in _ (by omega);have E4:(m:Int)<j:=by omega
   have oP:(0:Int)≤(m:Int):=by omega
   have Q5:(0:Int)<(m:Int)+2:=by omega
   have zA:=(hH.below wJ (Nat.le_refl _)).drew;have p0:=zA.cell q0;have p1:=zA.cell q1;have p2:=zA.cell q2;have p3:=zA.cell q3;have c0:=tA c0;have c1:=tA c1;have c2:=tA c2;have c3:=tA c3;have yX:=wJ.drew;have ZT:=OwnI.drew cB;have fM:=iH.drew;obtain⟨cmp,tz⟩:∃ cmp,Lib.compareBytes (zX x) (zX y)=cmp:=⟨_,rfl⟩
   have gx:=(vO x).1 Ml.out;have gy:=(vO y).1 Mm.out;have Pb:=Hh gx;have Pc:=Hh gy;have Ht:=Hh tz;have Jl:=Hh (show xj ps=true→cmp<0 from fun hA=>by have h:=Nd.out hA;rw[tz]at h;exact h);clear gx gy tz e2 cB wJ iH lU hk
   refine zn 20 (fun w'=>w'.cell? ⟨lb,lo+m*4,none⟩=some (.int .i64 x.kind)∧w'.cell? ⟨lb,lo+m*4+1,none⟩=some (.int .u64 x.n)∧w'.cell? ⟨lb,lo+m*4+2,none⟩=some (.slice x1 x.bytes.length x2)∧w'.cell? ⟨lb,lo+m*4+3,none⟩=some (.slice x3 x.items.length x4)∧w'.cell? ⟨ib,io+j*4,none⟩=some (.int .i64 y.kind)∧w'.cell? ⟨ib,io+j*4+1,none⟩=some (.int .u64 y.n)∧w'.cell? ⟨ib,io+j*4+2,none⟩=some (.slice y1 y.bytes.length y2)∧w'.cell? ⟨ib,io+j*4+3,none⟩=some (.slice y3 y.items.length y4)) (by kernel_rfl) (⟨c0,c1,c2,c3,p0,p1,p2,p3⟩) (fun zy=>?_)
   refine Tk 0 rfl zy ?_
   refine Tk 1 rfl zy ?_
   refine TkG 2 rfl zy ?_
   refine TkG 3 rfl zy ?_
   refine TkG 4 rfl zy ?_
   refine TkG 5 rfl zy ?_
   refine TkG 6 rfl zy ?_
   refine TkG 7 rfl zy ?_
   refine TkG 8 rfl zy ?_
   refine TkG 9 rfl zy ?_
   refine TkG 11 rfl zy ?_
   refine TkG 12 rfl zy ?_
   refine TkG 13 rfl zy ?_
   refine TkG 14 rfl zy ?_
   refine To 10 rfl fun K hK=>?_
   go_simp
   refine(vW x H _ _ x1 _ x2 x3 _ x4 _ 0 Pb.out.1 (by have:=Pb.out.2.2;omega) Ix.arg zA).mono ?_
   rintro e w5 ⟨r5,rfl,uV⟩
   obtain⟨RA5,rc5,rfl,_⟩:=uV.own.form;have zA:=zA.below uV.2 (Nat.le_refl _);have yX:=yX.trans (uV.2.mono yX.size);have ZT:=ZT.below uV.2;have fM:=fM.below uV.2;have dU:=uV.own.src;have c0:=yr c0 uV.2;have c1:=yr c1 uV.2;have c2:=yr c2 uV.2;have c3:=yr c3 uV.2
   refine Ko hK ?_ fun zy=>?_
   ·exact⟨c0,c1,c2,c3,zA.cell q0,zA.cell q1,zA.cell q2,zA.cell q3⟩
   clear hK K
   refine To 15 rfl fun K hK=>?_
   go_simp
   refine(vW y H _ _ y1 _ y2 y3 _ y4 _ 0 Pc.out.1 (by have:=Pc.out.2.2;omega) qh.arg zA).mono ?_
   rintro e w6 ⟨r6,rfl,vu⟩
   obtain⟨RA6,rc6,rfl,_⟩:=vu.own.form;have zA:=zA.below vu.2 (Nat.le_refl _);have yX:=yX.trans (vu.2.mono yX.size);have ZT:=ZT.below vu.2;have fM:=fM.below vu.2;have dU:=dU.below vu.2;have rI:=vu.own.src;have c0:=yr c0 vu.2;have c1:=yr c1 vu.2;have c2:=yr c2 vu.2;have c3:=yr c3 vu.2
   refine Ko hK ?_ fun zy=>?_
   ·exact⟨c0,c1,c2,c3,zA.cell q0,zA.cell q1,zA.cell q2,zA.cell q3⟩
   clear hK K
   refine To 16 rfl fun K hK=>?_
   go_simp
   refine(vT _ RA5 RA6 (zX x) (zX y) (zX x).length (zX y).length rc5 rc6 rfl rfl (by have:=Pb.out.2.2;omega) (by have:=Pc.out.2.2;omega) dU rI).mono ?_
   rintro e w7 ⟨rfl,xU⟩
   rw[Ht.out];have zA:=zA.below xU (Nat.le_refl _);have yX:=yX.trans (xU.mono yX.size);have ZT:=ZT.below xU;have fM:=fM.below xU;have c0:=yr c0 xU;have c1:=yr c1 xU;have c2:=yr c2 xU;have c3:=yr c3 xU
   refine Ko hK ?_ fun zy=>?_
   ·exact⟨c0,c1,c2,c3,zA.cell q0,zA.cell q1,zA.cell q2,zA.cell q3⟩
   clear hK K
   refine TkG 17 rfl zy ?_
   refine TkG 18 rfl zy ?_
   refine Tk 19 rfl zy ?_
   refine To 20 rfl fun K hK=>?_
   go_simp
   refine Kz hK ?_
   clear hK K
   refine Wd ?_
   clear zy dU rI c0 c1 c2 c3 p0 p1 p2 p3;go_wp2_with fail
   go_meet
   exact⟨cmp==0,rfl,(fun h=>absurd h (by omega)),(fun hA=>by rw[beq_eq_false_iff_ne];have:=Jl.out hA;omega),ZT,yX,fM⟩
  case rest =>
  clear cB wJ iH;obtain⟨b',rfl,Np,Fj,cB,wJ,iH⟩:=hcut;have LD:=Hh Fj;clear Fj;have HB:=Hh Np;clear Np;obtain⟨cs1,cs2,mZ,Nq,Pr,KX⟩:=cB.parts k;have zA:=(hH.below wJ (Nat.le_refl _)).drew;have uM:=hH.below wJ (Nat.le_refl _);have p0:=zA.cell q0;have p1:=zA.cell q1;have p2:=zA.cell q2;have p3:=zA.cell q3;have r0:=zA.cell s0;have r1:=zA.cell s1;have r2:=zA.cell s2;have r3:=zA.cell s3;have yX:=(Below.refl wc.heap.size wc).drew;have Sr:((j:Int)+1).toNat=j+1:=by omega
  have Bs:(0:Int)≤(j:Int)+1:=by omega
  have nY:=QS.out;have NI:(k:Int)≤vc:=Int.le_trans Dz Nc.out;have lU:(0:Int)≤k:=Int.natCast_nonneg k;go_upto_region 18 with fail
  refine zn 19 (fun w'=>w'.cell? ⟨ib,io+j*4,none⟩=some (.int .i64 y.kind)∧w'.cell? ⟨ib,io+j*4+1,none⟩=some (.int .u64 y.n)∧w'.cell? ⟨ib,io+j*4+2,none⟩=some (.slice y1 y.bytes.length y2)∧w'.cell? ⟨ib,io+j*4+3,none⟩=some (.slice y3 y.items.length y4)∧w'.cell? ⟨ib,io+(j+1)*4,none⟩=some (.int .i64 z.kind)∧w'.cell? ⟨ib,io+(j+1)*4+1,none⟩=some (.int .u64 z.n)∧w'.cell? ⟨ib,io+(j+1)*4+2,none⟩=some (.slice z1 z.bytes.length z2)∧w'.cell? ⟨ib,io+(j+1)*4+3,none⟩=some (.slice z3 z.items.length z4)) (by kernel_rfl) (⟨p0,p1,p2,p3,r0,r1,r2,r3⟩) (fun zy=>?_)
  refine Tk 0 rfl zy ?_
  refine Tk 1 rfl zy ?_
  refine Tk 2 rfl zy ?_
  refine Tk 4 rfl zy ?_
  refine Tk 5 rfl zy ?_
  refine Tk 6 rfl zy ?_
  refine Tk 7 rfl zy ?_
  refine Tk 8 rfl zy ?_
  refine Tk 9 rfl zy ?_
  refine Tk 10 rfl zy ?_
  refine Tk 11 rfl zy ?_
  refine Tk 12 rfl zy ?_
  refine Tk 15 rfl zy ?_
  refine Tk 16 rfl zy ?_
  refine Tk 17 rfl zy ?_
  refine Ways.two (i:=3) (j:=13) rfl rfl (by kernel_rfl) (fun K hK=>?_) (fun K hK=>?_)
  ·rw[if_pos (by rfl)]
   refine yV (.const (.slice none 0 0)) (.tmp 76) rfl wc.heap.size (.slice none 0 0) H [] rfl (OwnI.nil _ _ _) _ _ _ cs1 (L.take k) rfl (by rw[List.length_take];omega) mZ (Pr.below yX) (by simp;omega) yX.size fun v5 w5 hX hg rL=>?_
   rw[List.nil_append]at hX;have lS:=yT (by simpa [Value.ownBlock] using hg);have yX:=yX.trans (lS.mono yX.size)
   try have SI:=SI.below lS
   refine Ko hK ?_ fun zy=>?_
   ·exact⟨(uM.below yX (Nat.le_refl _)).cell q0,(uM.below yX (Nat.le_refl _)).cell q1,(uM.below yX (Nat.le_refl _)).cell q2,(uM.below yX (Nat.le_refl _)).cell q3,(uM.below yX (Nat.le_refl _)).cell s0,(uM.below yX (Nat.le_refl _)).cell s1,(uM.below yX (Nat.le_refl _)).cell s2,(uM.below yX (Nat.le_refl _)).cell s3⟩
   clear hK K
   refine To 13 rfl fun K hK=>?_
   go_simp
   have SI:=dl yX 78 #[.int .i64 y.kind,.int .u64 y.n,.slice y1 y.bytes.length y2,.slice y3 y.items.length y4,.int .i64 z.kind,.int .u64 z.n,.slice z1 z.bytes.length z2,.slice z3 z.items.length z4]
   try have hX:=hX.alloc (.cells #[.int .i64 y.kind,.int .u64 y.n,.slice y1 y.bytes.length y2,.slice y3 y.items.length y4,.int .i64 z.kind,.int .u64 z.n,.slice z1 z.bytes.length z2,.slice z3 z.items.length z4] 78)
   have yX:=yX.alloc yX.size (.cells #[.int .i64 y.kind,.int .u64 y.n,.slice y1 y.bytes.length y2,.slice y3 y.items.length y4,.int .i64 z.kind,.int .u64 z.n,.slice z1 z.bytes.length z2,.slice z3 z.items.length z4] 78)
   refine Ko hK ?_ fun zy=>?_
   ·exact⟨(uM.below yX (Nat.le_refl _)).cell q0,(uM.below yX (Nat.le_refl _)).cell q1,(uM.below yX (Nat.le_refl _)).cell q2,(uM.below yX (Nat.le_refl _)).cell q3,(uM.below yX (Nat.le_refl _)).cell s0,(uM.below yX (Nat.le_refl _)).cell s1,(uM.below yX (Nat.le_refl _)).cell s2,(uM.below yX (Nat.le_refl _)).cell s3⟩
   clear hK K
   refine To 14 rfl fun K hK=>?_
   rw[if_pos (by rfl)]
   refine yV (.tmp 77) (.tmp 87) rfl wc.heap.size _ H (L.take k) rfl hX _ _ _ (zT y y1 y2 y3 y4++zT z z1 z2 z3 z4) [y,z] rfl rfl ((ItemsC.one qh).app (ItemsC.one V5)) SI (by rw[List.length_take];simp;omega) yX.size fun v7 w7 fS hg7 hat7=>?_
   have yX:=yX.grown hg7 yX.size (fun q hq=>(hX.lt q hq).1)
   refine Ko hK ?_ fun zy=>?_
   ·exact⟨(uM.below yX (Nat.le_refl _)).cell q0,(uM.below yX (Nat.le_refl _)).cell q1,(uM.below yX (Nat.le_refl _)).cell q2,(uM.below yX (Nat.le_refl _)).cell q3,(uM.below yX (Nat.le_refl _)).cell s0,(uM.below yX (Nat.le_refl _)).cell s1,(uM.below yX (Nat.le_refl _)).cell s2,(uM.below yX (Nat.le_refl _)).cell s3⟩
   clear hK K
   refine To 18 rfl fun K hK=>?_
   rw[if_pos (by rfl)]
   refine yV (.tmp 88) (.tmp 91) rfl wc.heap.size _ H (L.take k++[y,z]) rfl fS _ _ _ cs2 (L.drop k) rfl (by rw[List.length_drop];omega) Nq ?_ (by rw[List.length_append,List.length_take,List.length_drop];simp;omega) yX.size fun v8 w8 qz hg8 hat8=>?_
   ·exact(Src.slicek KX Nq FW Nc.out).below yX
   have yX:=yX.grown hg8 yX.size (fun q hq=>(fS.lt q hq).1)
   refine Ko hK ?_ fun zy=>?_
   ·exact⟨(uM.below yX (Nat.le_refl _)).cell q0,(uM.below yX (Nat.le_refl _)).cell q1,(uM.below yX (Nat.le_refl _)).cell q2,(uM.below yX (Nat.le_refl _)).cell q3,(uM.below yX (Nat.le_refl _)).cell s0,(uM.below yX (Nat.le_refl _)).cell s1,(uM.below yX (Nat.le_refl _)).cell s2,(uM.below yX (Nat.le_refl _)).cell s3⟩
   clear hK K
   refine To 19 rfl fun K hK=>?_
   go_simp
   refine Kz hK ?_
   clear hK K
   refine Wd ?_
   clear zy hX fS hg rL hg7 hat7 hg8 hat8 lS SI Pr KX mZ Nq p0 p1 p2 p3 r0 r1 r2 r3 zA;obtain⟨VA',vc',rfl,_⟩:=qz.form;have z6:(L.take k++[y,z]++L.drop k).length=j+2:=by rw[List.length_append,List.length_append,List.length_take,List.length_drop];simp;omega
   rw[z6]at qz;rw[z6];have jV:=qz.more (base':=w.heap.size+1) (by have:=iH.lt;omega);have pj:=wJ.trans (yX.mono wJ.size);have td:=iH.below yX;have ss:=Hh z6;clear z6 qz;go_wp2_with fail
   go_roundw
   case rel =>
    refine⟨j+2,L.take k++[y,z]++L.drop k,b',VA',vc',by omega,by have:=HJ.out;omega,by go_num,rfl,rfl,ss.out,jV,fun x hx=>?_, ?_,fun h2=>?_,pj,td⟩
    ·simp only[List.mem_append,List.mem_cons,List.not_mem_nil,or_false]at hx
     rcases hx with (hx | rfl | rfl) | hx
     ·exact HS.out.1 x (List.mem_of_mem_take hx)
     ·exact VQ.out.1
     ·exact VQ.out.2
     exact HS.out.1 x (List.mem_of_mem_drop hx)
    ·rw[ak,Mg.out,HS.out.2.1]
    have N4:=HS.out.2.2 h2;have Nv:=Js.out h2
    refine⟨by rw[LD.out h2];exact N4.1, ?_⟩
    rw[Eg.out,← N4.2,Nv,List.take_of_length_le (by omega),List.drop_of_length_le (by omega)]
    simp
   case measure=>simp[intOf];omega
  go_simp
  have SI:=dl yX 78 #[.int .i64 y.kind,.int .u64 y.n,.slice y1 y.bytes.length y2,.slice y3 y.items.length y4,.int .i64 z.kind,.int .u64 z.n,.slice z1 z.bytes.length z2,.slice z3 z.items.length z4]
  try have hX:=hX.alloc (.cells #[.int .i64 y.kind,.int .u64 y.n,.slice y1 y.bytes.length y2,.slice y3 y.items.length y4,.int .i64 z.kind,.int .u64 z.n,.slice z1 z.bytes.length z2,.slice z3 z.items.length z4] 78)
  have yX:=yX.alloc yX.size (.cells #[.int .i64 y.kind,.int .u64 y.n,.slice y1 y.bytes.length y2,.slice y3 y.items.length y4,.int .i64 z.kind,.int .u64 z.n,.slice z1 z.bytes.length z2,.slice z3 z.items.length z4] 78)
  refine Ko hK ?_ fun zy=>?_
  ·exact⟨(uM.below yX (Nat.le_refl _)).cell q0,(uM.below yX (Nat.le_refl _)).cell q1,(uM.below yX (Nat.le_refl _)).cell q2,(uM.below yX (Nat.le_refl _)).cell q3,(uM.below yX (Nat.le_refl _)).cell s0,(uM.below yX (Nat.le_refl _)).cell s1,(uM.below yX (Nat.le_refl _)).cell s2,(uM.below yX (Nat.le_refl _)).cell s3⟩
  clear hK K
  refine To 3 rfl fun K hK=>?_
  rw[if_pos (by rfl)]
  refine yV (.const (.slice none 0 0)) (.tmp 76) rfl wc.heap.size (.slice none 0 0) H [] rfl (OwnI.nil _ _ _) _ _ _ cs1 (L.take k) rfl (by rw[List.length_take];omega) mZ (Pr.below yX) (by simp;omega) yX.size fun v5 w5 hX hg rL=>?_
  rw[List.nil_append]at hX;have lS:=yT (by simpa [Value.ownBlock] using hg);have yX:=yX.trans (lS.mono yX.size)
  try have SI:=SI.below lS
  refine Ko hK ?_ fun zy=>?_
  ·exact⟨(uM.below yX (Nat.le_refl _)).cell q0,(uM.below yX (Nat.le_refl _)).cell q1,(uM.below yX (Nat.le_refl _)).cell q2,(uM.below yX (Nat.le_refl _)).cell q3,(uM.below yX (Nat.le_refl _)).cell s0,(uM.below yX (Nat.le_refl _)).cell s1,(uM.below yX (Nat.le_refl _)).cell s2,(uM.below yX (Nat.le_refl _)).cell s3⟩
  clear hK K
  refine To 14 rfl fun K hK=>?_
  rw[if_pos (by rfl)]
  refine yV (.tmp 77) (.tmp 87) rfl wc.heap.size _ H (L.take k) rfl hX _ _ _ (zT y y1 y2 y3 y4++zT z z1 z2 z3 z4) [y,z] rfl rfl ((ItemsC.one qh).app (ItemsC.one V5)) SI (by rw[List.length_take];simp;omega) yX.size fun v7 w7 fS hg7 hat7=>?_
  have yX:=yX.grown hg7 yX.size (fun q hq=>(hX.lt q hq).1)
  refine Ko hK ?_ fun zy=>?_
  ·exact⟨(uM.below yX (Nat.le_refl _)).cell q0,(uM.below yX (Nat.le_refl _)).cell q1,(uM.below yX (Nat.le_refl _)).cell q2,(uM.below yX (Nat.le_refl _)).cell q3,(uM.below yX (Nat.le_refl _)).cell s0,(uM.below yX (Nat.le_refl _)).cell s1,(uM.below yX (Nat.le_refl _)).cell s2,(uM.below yX (Nat.le_refl _)).cell s3⟩
  clear hK K
  refine To 18 rfl fun K hK=>?_
  rw[if_pos (by rfl)]
  refine yV (.tmp 88) (.tmp 91) rfl wc.heap.size _ H (L.take k++[y,z]) rfl fS _ _ _ cs2 (L.drop k) rfl (by rw[List.length_drop];omega) Nq ?_ (by rw[List.length_append,List.length_take,List.length_drop];simp;omega) yX.size fun v8 w8 qz hg8 hat8=>?_
  ·exact(Src.slicek KX Nq FW Nc.out).below yX
  have yX:=yX.grown hg8 yX.size (fun q hq=>(fS.lt q hq).1)
  refine Ko hK ?_ fun zy=>?_
  ·exact⟨(uM.below yX (Nat.le_refl _)).cell q0,(uM.below yX (Nat.le_refl _)).cell q1,(uM.below yX (Nat.le_refl _)).cell q2,(uM.below yX (Nat.le_refl _)).cell q3,(uM.below yX (Nat.le_refl _)).cell s0,(uM.below yX (Nat.le_refl _)).cell s1,(uM.below yX (Nat.le_refl _)).cell s2,(uM.below yX (Nat.le_refl _)).cell s3⟩
  clear hK K
  refine To 19 rfl fun K hK=>?_
  go_simp
  refine Kz hK ?_
  clear hK K
  refine Wd ?_
  clear zy hX fS hg rL hg7 hat7 hg8 hat8 lS SI Pr KX mZ Nq p0 p1 p2 p3 r0 r1 r2 r3 zA;obtain⟨VA',vc',rfl,_⟩:=qz.form;have z6:(L.take k++[y,z]++L.drop k).length=j+2:=by rw[List.length_append,List.length_append,List.length_take,List.length_drop];simp;omega
  rw[z6]at qz;rw[z6];have jV:=qz.more (base':=w.heap.size+1) (by have:=iH.lt;omega);have pj:=wJ.trans (yX.mono wJ.size);have td:=iH.below yX;have ss:=Hh z6;clear z6 qz;go_wp2_with fail
  go_roundw
  case rel =>
   refine⟨j+2,L.take k++[y,z]++L.drop k,b',VA',vc',by omega,by have:=HJ.out;omega,by go_num,rfl,rfl,ss.out,jV,fun x hx=>?_, ?_,fun h2=>?_,pj,td⟩
   ·simp only[List.mem_append,List.mem_cons,List.not_mem_nil,or_false]at hx
    rcases hx with (hx | rfl | rfl) | hx
    ·exact HS.out.1 x (List.mem_of_mem_take hx)
    ·exact VQ.out.1
    ·exact VQ.out.2
    exact HS.out.1 x (List.mem_of_mem_drop hx)
   ·rw[ak,Mg.out,HS.out.2.1]
   have N4:=HS.out.2.2 h2;have Nv:=Js.out h2
   refine⟨by rw[LD.out h2];exact N4.1, ?_⟩
   rw[Eg.out,← N4.2,Nv,List.take_of_length_le (by omega),List.drop_of_length_le (by omega)]
   simp
  case measure=>simp[intOf];omega
 have sX:j=ps.length:=by omega
 subst sX;have QH:(ym L).length=(ym ps).length:=by have:=HS.out.2.1;rw[List.take_length]at this;exact this
 have FU:xj ps=true→b=false∧L=ps:=fun h=>by have:=HS.out.2.2 h;rw[List.take_length]at this;exact this
 have HZ:=Hh (And.intro QH FU);clear QH FU
 cases b with
 | true =>
  go_wp2_with (with_reducible refine zx ?_)
  refine stI qg fun w9 wL hg9=>?_
  have tZ:=(Grows.of_below hH yE).grownOwn zG (Nat.le_refl _) hg9;go_wp2_with fail
  refine zw rfl rfl wL rfl rfl zp rfl ?_
  exact⟨_,.inr ⟨7,rfl,by omega,⟨none,0,none,0,H,rfl,tZ,IsItem.plain H 0 0 (by omega) (by omega)⟩,fun h=>by have:=(HZ.out.2 h.2.1).1;cases this⟩⟩
 | false =>
 obtain⟨H8,df,Ns,pU,Sx,mN,mO,UZ⟩:=vf.snap (hH.below yE (Nat.le_refl _)) (fun g hg=>hH.none_of_ge (by have:=(vf.lt g (rW hg)).1;omega))
 have iF:Grows w H wr H8:=⟨yE,df,Ns,fun b o hb=>by
  rcases pU b o hb with h | h
  ·exact .inl h
  exact .inr (by have:=(vf.lt b (rW h)).1;omega)⟩
 have Qi:H8 w.heap.size=none:=by
  cases h8:H8 w.heap.size with
  | none=>rfl
  | some o =>
  rcases pU _ o h8 with h | h
  ·rw[zG]at h;cases h
  have:=(vf.lt w.heap.size (rW h)).1;omega
 have Gd:=Sx;obtain⟨x7,ZZ⟩:∃ x,Itm.mk 5 0 [] L=x:=⟨_,rfl⟩
 have cF:IsItem H8 none 0 VA vc x7:=by
  rw[← ZZ,IsItem]
  exact⟨⟨by omega,by omega,by omega,mN,mO⟩,IsBytes.nil _,UZ⟩
 have Is:ItemA H8 5 0 none 0 0 VA ps.length vc x7:=by
  refine⟨by rw[← ZZ];rfl,by rw[← ZZ];rfl,by rw[← ZZ];rfl, ?_,cF⟩
  rw[← ZZ];exact Sx
 have tZ:=iF.alloc (.cells #[.int .i64 5,.int .u64 0,.slice none 0 0,.slice VA ps.length vc] 78);have wL:=qg.alloc (.cells #[.int .i64 5,.int .u64 0,.slice none 0 0,.slice VA ps.length vc] 78);have Mq:=Blk.new wr 78 #[.int .i64 5,.int .u64 0,.slice none 0 0,.slice VA ps.length vc];have V:=Hh (nL (hTab.mono df) Is _ tZ.holds);have C5:=Hh Is;have IG:=Hh ZZ;clear ZZ cF Is mN mO UZ Sx Gd pU vf qg
 cases hv:yG x7 with
 | false =>
  rw[hv]at V;have HV:=Hh hv;clear hv;go_wp2_with fail
  refine V.out.mono ?_
  rintro e w10 ⟨rfl,xY⟩
  have wZ:=tZ.below_ xY;have tJ:=wL.below xY;clear tZ wL Mq iF xY;go_wp2_with (with_reducible refine zx ?_)
  refine stI tJ fun w11 UX hg11=>?_
  have uT:=wZ.grownOwn Qi (Nat.le_refl _) hg11;go_wp2_with fail
  refine zw rfl rfl UX rfl rfl zp rfl ?_
  exact⟨_,.inr ⟨8,rfl,by omega,⟨none,0,none,0,H8,rfl,uT,IsItem.plain H8 0 0 (by omega) (by omega)⟩,fun h=>by
   have h1:=HV.out;rw[← IG.out,(HZ.out.2 h.2.1).2,h.2.2.2]at h1
   cases h1⟩⟩
 | true =>
 rw[hv]at V;have HV:=Hh hv;clear hv;go_wp2_with fail
 refine V.out.mono ?_
 rintro e w10 ⟨rfl,xY⟩
 have wZ:=tZ.below_ xY;have tJ:=wL.below xY;have RT:=Mq.below xY;have c0:=RT.cell 0 rfl;have c1:=RT.cell 1 rfl;have c2:=RT.cell 2 rfl;have c3:=RT.cell 3 rfl;have C:=Hh (bL x7 H8 _ _ _ _ _ _ _ _ w10 (vM HV.out) C5.out wZ.holds);clear tZ wL Mq iF xY;go_wp2_with fail
 refine C.out.mono ?_
 rintro e w11 ⟨v11,rfl,ja,jb,jc,jd,Jf,rfl,uT,Gm⟩
 have UX:=tJ.below uT.below;have Hb:=uT.none Qi tJ.lt;have zR:=wZ.trans uT;clear tJ wZ uT c0 c1 c2 c3;go_wp2_with (with_reducible refine zx ?_)
 refine stI UX fun w12 bf hg12=>?_
 have wF:=zR.grownOwn Hb (Nat.le_refl _) hg12;go_wp2_with fail
 refine zw rfl rfl bf rfl rfl zp rfl ?_
 exact⟨_,.inl ⟨L,rfl,by rw[IG.out];exact⟨ja,jb,jc,jd,Jf,rfl,wF,Gm⟩,by rw[IG.out];exact HV.out,HZ.out.1,fun h=>(HZ.out.2 h).2⟩⟩
theorem sJ {H H':Snap}{A:Option Addr}(hf:∀ b o,H' b=some o→H b=some o∨A.map (·.block)=some b) {q:Nat}(h0:H q=none) (hA:A.map (·.block)=some q→False):H' q=none:=by
 cases h:H' q with
 | none=>rfl
 | some o =>
 rcases hf q o h with h1 | h1
 ·rw[h0]at h1;cases h1
 exact(hA h1).elim
theorem pL {wr:World}{Hr:Snap}(hH:Holds wr Hr) {r0 r:Option Nat}(h0:∀ q,r0=some q→Hr q=none) (h:At0 wr r0 r):∀ q,r=some q→Hr q=none:=fun q hq=>by
 rcases h with h | ⟨g,h1,h2⟩
 ·exact h0 q (by rw[← h,hq])
 rw[hq]at h1;injection h1 with h1;subst h1;exact hH.none_of_ge h2
theorem Dealt.snap {w w':World}{H H' H'':Snap}{g B:Nat}{A:Option Addr}(h:Dealt w H w' H' g) (hl:H'.le H'') (hh:Holds w' H'') (hf:∀ b o,H'' b=some o→H' b=some o∨A.map (·.block)=some b)
  (hA:∀ q,A.map (·.block)=some q→B≤q) (hB:w.heap.size≤B) (hg:g<w.heap.size):Dealt w H w' H'' g:=by
 refine⟨⟨h.grows.grown,h.grows.le.trans hl,hh,fun b o hb=>?_⟩,h.deck.deck.mono hl,hh,sJ hf h.deck.apart (fun e=>by have:=hA _ e;omega)⟩
 rcases hf b o hb with h1 | h1
 ·exact h.grows.fresh b o h1
 exact .inr (by have:=hA _ h1;omega)
def PL.pre (L:List Itm) (k0:Nat):PL→PL
 | .err q=>.err q
 | .ok l k c=>.ok (L++l) (k0+k) c
theorem kS {p:List UInt8→Nat→PR}{m:Nat}{b:List UInt8}{cc q:Nat}(L:List Itm) (k0:Nat) (h:p b cc=.err q):(uf p (m+1) b cc).pre L k0=.err q:=by rw[uf,h];rfl
theorem iw {p:List UInt8→Nat→PR}{m:Nat}{b:List UInt8}{cc k c':Nat}{x:Itm}(L:List Itm) (k0:Nat) (h:p b cc=.ok x k c'):(uf p (m+1) b cc).pre L k0=(uf p m (b.drop k) c').pre (L++[x]) (k0+k):=by
 rw[uf,h]
 simp only
 cases uf p m (b.drop k) c' with
 | err q=>rfl
 | ok l k2 c2=>simp[PL.pre,Nat.add_assoc]
theorem dI (r:PL):r.pre [] 0=r:=by cases r <;> simp[PL.pre]
theorem Rdg.snap {T:TypeId}{w w':World}{H H' H'':Snap}{g B:Nat}{A0:Option Addr}{c:Nat}{l:List UInt8}{p cnt:Nat}{A:Option Addr}(h:Rdg T w H w' H' g A0 c l p cnt) (hl:H'.le H'') (hh:Holds w' H'') (hf:∀ b o,H'' b=some o→H' b=some o∨A.map (·.block)=some b)
  (hA:∀ q,A.map (·.block)=some q→B≤q) (hB:w.heap.size≤B) (hg:g<w.heap.size):Rdg T w H w' H'' g A0 c l p cnt:=by
 refine⟨⟨h.grows.grown,h.grows.le.trans hl,hh,fun b o hb=>?_⟩,h.psr.blk,h.psr.bytes.mono hl,hh, ?_,h.psr.le,h.psr.small,h.psr.cnt_le⟩
 ·rcases hf b o hb with h1 | h1
  ·exact h.grows.fresh b o h1
  exact .inr (by have:=hA _ h1;omega)
 cases hx:H'' g with
 | none=>rfl
 | some o =>
 rcases hf g o hx with h1 | h1
 ·rw[h.psr.apart]at h1;cases h1
 have:=hA _ h1;omega
section
variable {d:Nat} {w:World} {H:Snap} {g:Nat} {A:Option Addr} {c:Nat} {l:List UInt8} {p cnt lv:Nat}
end
theorem IsBytes.take {H:Snap}{A:Option Addr}{c:Nat}{l:List UInt8}(h:IsBytes H A c l) (m:Nat):IsBytes H A c (l.take m):=by
 refine⟨by have:=h.le;rw[List.length_take];omega,h.max,fun xq=>?_⟩
 obtain⟨b,off,e,hc⟩:=h.row (by intro h0;rw[List.map_eq_nil_iff]at h0;subst h0;simp at xq)
 refine⟨b,off,e,fun j v hj=>hc j v ?_⟩
 rw[List.map_take,List.getElem?_take]at hj
 split at hj
 ·exact hj
 cases hj
def nE (w:World) (H:Snap) (l:List UInt8) (e:Ending) (w':World):Prop :=
 match rH l with
 | .err q=>e=.returned (.tuple #[Xp,.int .i64 0,.int .i64 (q:Int)])∧Below w.heap.size w w'
 | .ok x k _=>∃ ja jb jc jd H',e=.returned (.tuple #[ua x ja jb jc jd,.int .i64 (k:Int),.int .i64 0])∧Grows w H w' H'∧IsItem H' ja jb jc jd x
theorem kQ {fn:Func}{p u v:Tmp}{ty:TypeId}(h:fn.results=#[.cell p ty,.tmp u,.tmp v]) (tmps:Array Value) (P:Program) (w:World) :
  (results fn tmps).run P w =
   ((asAddr (tmps.getD p undef)).run P w).andThen fun a w₁=>((loadVar ty a).run P w₁).andThen fun x w₂=>.ok (.tuple #[x,tmps.getD u undef,tmps.getD v undef]) w₂:=by
 simp only[results,h]
 simp[Sem.run_bind,Result.andThen]
theorem xH {fn:Func}{p u v:Tmp}{ty:TypeId}{a:Act}{w:World}{R:Ending→World→Prop}{g:Nat}{t:TypeId}{cs:Array Value}{d:TypeDesc}(h:fn.results=#[.cell p ty,.tmp u,.tmp v]) (hp:a.tmps.getD p undef=.pointer (some ⟨g,0,none⟩)) (hg:Blk w g t cs)
  (hd:(match d with | .struct _ | .array _ _=>true | _=>false)=true) (hu:Tryz.prog.underlying ty=some d) (hi:(Tryz.prog.info? ty).map (·.size)=some cs.size)
  (hdf:a.defers=[]) (hR:R (.returned (.tuple #[.agg cs,a.tmps.getD u undef,a.tmps.getD v undef])) w):bodyPost Tryz.prog fn R .ret a w:=by
 refine bodyPost_ret (v:=.tuple #[.agg cs,a.tmps.getD u undef,a.tmps.getD v undef]) ?_ hdf hR
 rw[kQ h,hp];have XJ:=run_loadVar_row (P:=Tryz.prog) w g t ty cs (0,0) d hg hu (by cases d <;> first | exact hd | rfl | cases hd) hi
 simp[asAddr,XJ,Result.andThen]
theorem Grows.trans_but {w w' w'':World}{H H' H'':Snap}{g:Nat}(h:Grows w H w' H') (k:GrowsBut w' H' w'' H'' g) (hg:w.heap.size≤g):Grows w H w'' H'':=by
 refine⟨zm h.below k.grown (by rintro q ⟨⟩;exact hg),h.le.trans k.le,k.holds,fun x o hx=>?_⟩
 rcases k.fresh x o hx with hx | hx
 ·exact h.fresh x o hx
 exact .inr (Nat.le_trans h.below.size hx)
def sG (w:World) (H:Snap) (l:List UInt8) (e:Ending) (w':World):Prop :=
 match ui l with
 | .error q=>e=.returned (.tuple #[Xp,.int .i64 (q:Int)])∧Below w.heap.size w w'
 | .ok x=>∃ ja jb jc jd H',e=.returned (.tuple #[ua x ja jb jc jd,.int .i64 0])∧Grows w H w' H'∧IsItem H' ja jb jc jd x
theorem Rdg.gb {T:TypeId}{w w' w'':World}{H H':Snap}{g k:Nat}{A:Option Addr}{c:Nat}{l:List UInt8}{p cnt:Nat}(h:Rdg T w H w' H' g A c l p cnt) (h0:H' k=none) (hw:w.heap.size≤k) (yy:g<w.heap.size) (hg:w'.grownBy w'' (some k)):Rdg T w H w'' H' g A c l p cnt:=h.grownRow (row:=some k) (by rintro q ⟨⟩;exact h0) (by rintro q ⟨⟩;exact hw) yy hg
theorem OwnX.kl {α:Type}{L:Lie α}{t:TypeId}{w w':World}{base N:Nat}{v:Value}{H:Snap}{l:List α}(h:OwnX L t w base v H l) (hg:w.grownBy w' (some N)) (hl:∀ q,v.ownBlock=some q→q<N):OwnX L t w' base v H l:=h.kept hg (by cases hv:v.ownBlock with | none=>exact .inl rfl | some q=>exact .inr (fun e=>by injection e with e;exact Nat.lt_irrefl _ (e ▸ hl q hv)))
end Go.Proofs.YtjpcnhncoidliaaGreatDoor
