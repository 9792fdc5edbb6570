/- squeezed. Walks: headers, made of numbers or -/
import Derived.Test.YtliomcphdnppnaaGreatDoorK21
import Derived.Test.YtliomcphdnppnaaGreatDoorK22
import Derived.ChangeKeysEq
import Derived.KernelRfl
import GoSem.Core.Float
import Derived.Laws.FloatArith
import Derived.Deep.Cut
import Derived.Great.BuildSlice
import Derived.Shelf.GgSortFunc.SmallK
set_option linter.unusedVariables false
set_option linter.unusedSimpArgs false
set_option maxRecDepth 100000
set_option maxHeartbeats 6400000
namespace Go.Proofs.YtliomcphdnppnaaGreatDoor
open Go.RowKit
theorem Dealt.toGrows {w w1 w2:World}{H H1 H2:Snap}{g:Nat}(h:Grows w H w1 H1) (hd:Dealt w1 H1 w2 H2 g) (hg:w.heap.size≤g):Grows w H w2 H2 :=
 ⟨h.below.grown hd.grows.grown h.size (by rintro q ⟨⟩;exact hg),h.le.trans hd.le,hd.holds,fun b o hb=>by
  rcases hd.grows.fresh b o hb with h1 | h1
  ·exact h.fresh b o h1
  exact .inr (Nat.le_trans h.size h1)⟩
def WZ (w:World) (H:Snap) (e:Ending) (w':World):Prop:=∃ (p u:Itm) (a b:Ad) (H':Snap),e=.returned (.agg (zY p a u b))∧Grows w H w' H'∧IsItem H' a.ba a.bc a.ia a.ic p∧IsItem H' b.ba b.bc b.ia b.ic u
theorem jC {H:Snap}(hTab:Tabs H) {p u:Itm}{a b:Ad}(hp:IsItem H a.ba a.bc a.ia a.ic p) (hu:IsItem H b.ba b.bc b.ia b.ic u) {A:Option Addr}{c:Nat}{l:List Int}(hl:IsInts H A c l) (w:World) (hH:Holds w H) :
  Calls Tryz.prog 8 #[.agg (zY p a u b),.slice A l.length c] w (WZ w H):=by
 have hB:=(Blk.new w 28 (zY p a u b)).alloc xN;have hT:=Blk.new (w.alloc (.cells (zY p a u b) 28)) 28 (zY zm ⟨none,0,none,0⟩ zm ⟨none,0,none,0⟩)
 simp only[zu]at hT
 have hG:=((Grows.refl hH).alloc (.cells (zY p a u b) 28)).alloc xN;have yP:H (w.heap.size+1)=none:=hH.none_of_ge (by omega);obtain⟨g,hg⟩:∃ g,w.heap.size+1+1=g:=⟨_,rfl⟩
 have NW:=Hh (Qq hl ((w.alloc (.cells (zY p a u b) 28)).alloc xN));have wm:((w.alloc (.cells (zY p a u b) 28)).alloc xN).heap.size=g:=by rw[← hg];simp
 rw[wm]at NW;have DO:w.heap.size+2≤g:=by omega
 have Fh:H g=none:=hH.none_of_ge (by omega);have Kl:=Hh wm;clear wm hg;go_enter Tryz.func8,Tryz.ntmps8
 go_wp2_with fail
 refine NW.out.mono ?_
 rintro e w1 ⟨rfl,Mf,zH⟩
 have zH:Below ((w.alloc (.cells (zY p a u b) 28)).alloc xN).heap.size ((w.alloc (.cells (zY p a u b) 28)).alloc xN) w1:=by rw[Kl.out];exact zH
 have sC:=hG.below_ zH;have yO:=hB.below zH;have uu:=hT.below zH;have qI:DeckIn w1 g H:=⟨Mf,sC.holds,Fh⟩
 have N9:=Hh (zA w1 qI 9 (by omega) (by omega));clear Mf zH hG hB hT;go_wp2_with fail
 refine N9.out.mono ?_
 rintro e w2 ⟨q,rfl,hq,xy⟩
 have BB:=yO.dealt xy (by omega);have ug:=uu.dealt xy (by omega);have xR:=Dealt.toGrows sC xy (by omega);clear N9
 by_cases h8:q=8
 ·subst h8;have k0:=BB.cell 0 rfl;have k1:=BB.cell 1 rfl;have k2:=BB.cell 2 rfl;have k3:=BB.cell 3 rfl;have k4:=BB.cell 4 rfl;have k5:=BB.cell 5 rfl;have k6:=BB.cell 6 rfl;have k7:=BB.cell 7 rfl;go_upto_region 3 with fail
  go_wp2_with (with_reducible refine zx ?_)
  refine zt rfl _ _ _ rfl rfl _ _ rfl rfl _ _ ug zS rfl (wt _ _ _ _) fun w3 lf nd=>?_
  have ye:=xR.grownOwn yP (by omega) nd;go_wp2_with fail
  refine zR rfl rfl lf rfl rfl zS rfl ?_
  exact⟨p,u,a,b,H,rfl,ye,hp,hu⟩
 have b8:((q:Int)==8)=false:=by rw[beq_eq_false_iff_ne];omega
 have hR:=Blk.new w2 3 #[.int .i64 10,.int .i64 30,.int .i64 5,.int .i64 4,.int .i64 (-8),.int .i64 0];have uA:=xy.alloc (.cells #[.int .i64 10,.int .i64 30,.int .i64 5,.int .i64 4,.int .i64 (-8),.int .i64 0] 3);have lf:=ug.alloc (.cells #[.int .i64 10,.int .i64 30,.int .i64 5,.int .i64 4,.int .i64 (-8),.int .i64 0] 3);have N6:=Hh (zA _ uA.deck 6 (by omega) (by omega));clear h8;go_wp2_with fail
 refine N6.out.mono ?_
 rintro e w4 ⟨j,rfl,hj,rn⟩
 have Hq:=hR.dealt rn (by have:=xy.size;have:=qI.deck.lt;omega);obtain⟨v,hc,hP⟩:=Hq.pick bG (by kernel_rfl) j (by simp;omega);obtain⟨nn,rfl,wd⟩:=kK hP;have lz:=lf.dealt rn (by omega);have sL:=uA.trans rn;have VE:=sL.hid yP uu.lt;have HD:=Hh (cL hTab w4 sL.deck nn wd.1 wd.2);clear N6 hR Hq hP xy uA rn ug lf BB yO;go_wp2_with fail
 refine HD.out.mono ?_
 rintro e w6 ⟨p',u',a',b',H',rfl,qZ,tx,qN,_⟩
 have WM:=lz.dealt qZ (by omega);have mO:=qZ.hid VE lz.lt;have xH:=Dealt.toGrows sC (sL.trans qZ) (by omega);clear HD hc sL qZ lz sC xR;go_wp2_with (with_reducible refine zx ?_)
 refine zt rfl _ _ _ rfl rfl _ _ rfl rfl _ _ WM zS rfl (wt _ _ _ _) fun w7 bN xj=>?_
 have wF:=xH.grownOwn mO (by omega) xj;go_wp2_with fail
 refine zR rfl rfl bN rfl rfl zS rfl ?_
 exact⟨p',u',a',b',H',rfl,wF,tx,qN⟩
theorem IsBytes.take' {H:Snap}{A:Option Addr}{c:Nat}{l:List UInt8}(h:IsBytes H A c l) (m:Nat):IsBytes H A c (l.take m):=by
 refine⟨by have:=h.le;rw[List.length_take];omega,h.max,fun xg=>?_⟩
 obtain⟨b,off,e,hc⟩:=h.row (by intro h0;rw[List.map_eq_nil_iff]at h0;subst h0;simp at xg)
 refine⟨b,off,e,fun j v hj=>hc j v ?_⟩
 rw[List.map_take,List.getElem?_take]at hj
 split at hj
 ·exact hj
 cases hj
def pv (n s:Nat):UInt8:=UInt8.ofNat (n/2 ^ s)
def J3 (n:Nat):List UInt8:=[pv n 56,pv n 48,pv n 40,pv n 32,pv n 24,pv n 16,pv n 8,pv n 0]
def Jx (n:Nat):Nat:=(119-n%64)%64
def Jv (n:Nat):Nat:=n*8%18446744073709551616
def Oc (l:List UInt8):List UInt8:=l++[128]++List.replicate (Jx l.length) 0++J3 (Jv l.length)
structure Lie (α:Type) where
 k:Nat
 pos:0<k
 E:Snap→α→List Value→Prop
 len:∀ {H x c},E H x c→c.length=k
 one:∀ {H x c},E H x c→∀ u∈c,u.oneCell'=true
 mono:∀ {H K x c},H.le K→E H x c→E K x c
section
variable {α:Type} {L:Lie α}
def RowC (L:Lie α) (H:Snap):List Value→List α→Prop
 | cs,[]=>cs=[]
 | cs,x::l=>∃ c rest,cs=c++rest∧L.E H x c∧RowC L H rest l
theorem RowC.nil (L:Lie α) (H:Snap):RowC L H [] []:=by rw[RowC]
theorem RowC.len {H:Snap}:∀ {l:List α}{cs:List Value},RowC L H cs l→cs.length=l.length*L.k
 | [],cs,h=>by rw[RowC]at h;subst h;simp
 | x::l,cs,h=>by
  obtain⟨c,rest,rfl,hx,hr⟩:=h;rw[List.length_append,L.len hx,hr.len,List.length_cons,Nat.succ_mul,Nat.add_comm]
theorem RowC.mono {H K:Snap}(hl:H.le K):∀ {l:List α}{cs:List Value},RowC L H cs l→RowC L K cs l
 | [],cs,h=>h
 | x::l,cs,h=>by
  obtain⟨c,rest,e,hx,hr⟩:=h
  exact⟨c,rest,e,L.mono hl hx,hr.mono hl⟩
theorem RowC.one {H:Snap}{x:α}{c:List Value}(h:L.E H x c):RowC L H c [x]:=⟨c,[],by simp,h,RowC.nil L H⟩
theorem RowC.app {H:Snap}:∀ {l m:List α}{cs ds:List Value},RowC L H cs l→RowC L H ds m→RowC L H (cs++ds) (l++m)
 | [],m,cs,ds,h,hd=>by rw[RowC]at h;subst h;exact hd
 | x::l,m,cs,ds,h,hd=>by
  obtain⟨c,rest,rfl,hx,hr⟩:=h
  exact⟨c,rest++ds,by simp,hx,hr.app hd⟩
theorem RowC.oneCell {H:Snap}:∀ {l:List α}{cs:List Value},RowC L H cs l→∀ u∈cs,u.oneCell'=true
 | [],cs,h=>by rw[RowC]at h;subst h;simp
 | x::l,cs,h=>by
  obtain⟨c,rest,rfl,hx,hr⟩:=h
  intro u hu
  rw[List.mem_append]at hu
  rcases hu with hu | hu
  ·exact L.one hx u hu
  exact hr.oneCell u hu
theorem RowC.get {H:Snap}:∀ {l:List α}{cs:List Value},RowC L H cs l→∀ (j:Nat) (hj:j<l.length),∃ c,L.E H l[j] c∧∀ i v,c[i]? = some v→cs[j*L.k+i]? = some v
 | [],_,_,j,hj=>by simp at hj
 | x::l,cs,h,0,_=>by
  obtain⟨c,rest,rfl,hx,hr⟩:=h
  refine⟨c,hx,fun i v hi=>?_⟩
  rw[Nat.zero_mul,Nat.zero_add,List.getElem?_append_left (List.getElem?_eq_some_iff.1 hi).1]
  exact hi
 | x::l,cs,h,j+1,hj=>by
  obtain⟨c,rest,rfl,hx,hr⟩:=h;obtain⟨c',Fc,LC⟩:=hr.get j (by simpa using hj)
  refine⟨c',by simpa using Fc,fun i v hi=>?_⟩
  have:=LC i v hi;rw[List.getElem?_append_right (by rw[L.len hx,Nat.succ_mul];omega),L.len hx,show(j+1)*L.k+i-L.k=j*L.k+i by rw[Nat.succ_mul];omega]
  exact this
theorem RowC.snoc {H:Snap}:∀ {l:List α}{x:α}{cs:List Value},RowC L H cs (l++[x])→∃ cs0 c,cs=cs0++c∧RowC L H cs0 l∧L.E H x c
 | [],x,cs,h=>by
  obtain⟨c,rest,rfl,hx,hr⟩:=h;rw[RowC]at hr;subst hr
  exact⟨[],c,by simp,RowC.nil L H,hx⟩
 | y::l,x,cs,h=>by
  obtain⟨c,rest,rfl,hy,hr⟩:=h;obtain⟨cs0,c',rfl,h0,hx⟩:=RowC.snoc hr
  exact⟨c++cs0,c',by simp,⟨c,cs0,rfl,hy,h0⟩,hx⟩
structure IsRow (L:Lie α) (H:Snap) (A:Option Addr) (c:Nat) (l:List α):Prop where
 le:l.length≤c
 max:c≤9223372036854775807
 row:0<l.length→∃ b off cs,A=some ⟨b,off,none⟩∧RowC L H cs l∧fN H b off cs
theorem IsRow.nil (L:Lie α) (H:Snap):IsRow L H none 0 []:=⟨by simp,by omega,by simp⟩
theorem IsRow.mono {H K:Snap}{A:Option Addr}{c:Nat}{l:List α}(h:IsRow L H A c l) (hl:H.le K):IsRow L K A c l:=⟨h.le,h.max,fun h0=>by
 obtain⟨b,off,cs,e,h1,h2⟩:=h.row h0
 exact⟨b,off,cs,e,h1.mono hl,fun j v hj=>hl.cell (h2 j v hj)⟩⟩
theorem IsRow.at_ {H:Snap}{A:Option Addr}{c:Nat}{l:List α}(h:IsRow L H A c l) (h0:0<l.length):∃ b off,A=some ⟨b,off,none⟩∧∀ j (hj:j<l.length),∃ d,L.E H l[j] d∧∀ i v,d[i]? = some v→H.cell? ⟨b,off+(j*L.k+i),none⟩=some v:=by
 obtain⟨b,off,cs,e,h1,h2⟩:=h.row h0
 refine⟨b,off,e,fun j hj=>?_⟩
 obtain⟨d,hd,hi⟩:=h1.get j hj
 exact⟨d,hd,fun i v hv=>h2 _ _ (hi i v hv)⟩
def OwnX (L:Lie α) (t:TypeId) (w:World) (base:Nat) (v:Value) (H:Snap) (l:List α):Prop:=∃ cs,RowC L H cs l∧w.ownsRow base t L.k v l.length cs
variable {t:TypeId} {w w':World} {base:Nat} {v:Value} {H:Snap} {l:List α}
theorem OwnX.nil (L:Lie α) (t:TypeId) (w:World) (base:Nat) (H:Snap):OwnX L t w base (.slice none 0 0) H []:=⟨[],RowC.nil L H,World.ownsRow_nil _ _ _ _⟩
theorem OwnX.lt (h:OwnX L t w base v H l):∀ k,v.ownBlock=some k→base≤k∧k<w.heap.size:=by obtain⟨_,_,h⟩:=h;exact World.ownsRow.lt h
theorem OwnX.kept {row:Option Nat}(h:OwnX L t w base v H l) (hg:w.grownBy w' row) (xg:v.ownBlock=none∨v.ownBlock≠row):OwnX L t w' base v H l:=by
 obtain⟨cs,hc,h⟩:=h;exact⟨cs,hc,World.ownsRow.kept h hg xg⟩
theorem OwnX.below (h:OwnX L t w base v H l) (hb:Below w.heap.size w w'):OwnX L t w' base v H l:=by
 refine h.kept (xJ hb none) ?_
 cases hv:v.ownBlock with
 | none=>exact .inl rfl
 | some g=>exact .inr (by simp)
theorem OwnX.alloc (h:OwnX L t w base v H l) (o:Obj):OwnX L t (w.alloc o) base v H l:=h.below (zq w o)
theorem OwnX.drewN (h:OwnX L t w base v H l) (q:Nat):OwnX L t (w.drewN q) base v H l:=h
theorem OwnX.mono {K:Snap}(h:OwnX L t w base v H l) (hl:H.le K):OwnX L t w base v K l:=by obtain⟨cs,hc,h⟩:=h;exact⟨cs,hc.mono hl,h⟩
theorem OwnX.more {base':Nat}(h:OwnX L t w base v H l) (hb:base'≤base):OwnX L t w base' v H l:=by
 obtain⟨cs,hc,h⟩:=h
 refine⟨cs,hc,h.1, ?_⟩
 rcases h.2 with h2 | ⟨g,cap,cur,hv,hg,r⟩
 ·exact .inl h2
 exact .inr ⟨g,cap,cur,hv,by omega,r⟩
theorem OwnX.form (h:OwnX L t w base v H l):∃ A c,v=.slice A l.length c∧l.length≤c∧c≤9223372036854775807:=by
 obtain⟨cs,hc,h⟩:=h
 rcases h.2 with ⟨rfl,hz⟩ | ⟨g,cap,cur,rfl,_,_,hn,hm,_⟩
 ·exact⟨none,0,by rw[hz],by omega,by omega⟩
 exact⟨_,cap,rfl,hn,by simpa [maxLen] using hm⟩
theorem OwnX.snap {A:Option Addr}{m c:Nat}(h:OwnX L t w base (.slice A m c) H l) (hw:Holds w H) (hn:∀ g,A.map (·.block)=some g→H g=none) :
  ∃ H',H.le H'∧Holds w H'∧(∀ b o,H' b=some o→H b=some o∨A.map (·.block)=some b)∧m=l.length∧IsRow L H' A c l:=by
 obtain⟨cs,uE,h⟩:=h
 rcases h.2 with ⟨hv,hz⟩ | ⟨g,cap,cur,hv,_,hg,hc,hm,hcz,ht⟩
 ·cases hv
  exact⟨H,Snap.le.refl _,hw,fun _ _ h=>.inl h,hz.symm,⟨by omega,by omega,by omega⟩⟩
 cases hv
 have mv:H g=none:=hn g rfl
 refine⟨H.with g (.cells cur t),Snap.le_with mv,hw.with hg,fun b o hb=>?_,rfl,hc,by simpa [maxLen] using hm,fun _=>⟨g,0,cs,rfl,uE.mono (Snap.le_with mv),fun j v hj=>?_⟩⟩
 ·unfold Snap.with at hb
  split at hb
  ·subst b;exact .inr rfl
  exact .inl hb
 rw[← ht,List.getElem?_take]at hj
 split at hj
 ·simp[Snap.cell?,Snap.with]
  simpa using hj
 cases hj
theorem OwnX.at_ {A:Option Addr}{m c:Nat}(h:OwnX L t w base (.slice A m c) H l) (j:Nat) (hj:j<l.length):∃ g,A=some ⟨g,0,none⟩∧∃ d,L.E H l[j] d∧∀ i v,d[i]? = some v→w.cell? ⟨g,j*L.k+i,none⟩=some v:=by
 obtain⟨cs,uE,h⟩:=h
 rcases h.2 with ⟨hv,hz⟩ | ⟨g,cap,cur,hv,_,hg,hc,hm,hcz,ht⟩
 ·omega
 cases hv
 obtain⟨d,hd,hi⟩:=uE.get j hj
 refine⟨g,rfl,d,hd,fun i v hv=>?_⟩
 have hx:=hi i v hv;rw[← ht,List.getElem?_take]at hx
 split at hx
 ·exact(cell_of_row w g _ cur t (0,0) hg).trans (by simpa using hx)
 cases hx
theorem OwnX.last {A:Option Addr}{m c:Nat}{x:α}(h:OwnX L t w base (.slice A m c) H (l++[x])):∃ g cur d,A=some ⟨g,0,none⟩∧base≤g∧Blk w g t cur∧l.length*L.k+L.k≤cur.size∧L.E H x d∧(∀ i v,d[i]? = some v→w.cell? ⟨g,l.length*L.k+i,none⟩=some v)∧
  ∀ (w':World) (i:Nat) (u:Value) (y:α),i<L.k→Blk w' g t (cur.setIfInBounds (l.length*L.k+i) u)→L.E H y (d.set i u)→OwnX L t w' base (.slice A m c) H (l++[y]):=by
 obtain⟨cs,uE,h⟩:=h;obtain⟨cs0,d,rfl,h0,hx⟩:=uE.snoc
 rcases h.2 with ⟨hv,hz⟩ | ⟨g,cap,cur,hv,hb,hg,hc,hm,hcz,ht⟩
 ·simp at hz
 cases hv
 have hl:=h0.len;have hd:=L.len hx
 refine⟨g,cur,d,rfl,hb,hg, ?_,hx,fun i v hv=>?_,fun w' i u y hi hB hy=>⟨cs0++d.set i u,h0.app (RowC.one hy), ?_,.inr ⟨g,c,_,by rw[List.length_append,List.length_append];rfl,hb,hB,by rw[List.length_append]at hc⊢;exact hc,hm,by rw[Array.size_setIfInBounds,hcz], ?_⟩⟩⟩
 ·rw[hcz];have:(l++[x]).length*L.k≤c*L.k:=Nat.mul_le_mul_right _ hc;rw[List.length_append,List.length_singleton,Nat.succ_mul]at this
  omega
 ·have hid:=(List.getElem?_eq_some_iff.1 hv).1;have iw:(cs0++d)[l.length*L.k+i]? = some v:=by rw[List.getElem?_append_right (by omega),hl,Nat.add_sub_cancel_left];exact hv
  rw[← ht,List.getElem?_take]at iw
  split at iw
  ·exact(cell_of_row w g _ cur t (0,0) hg).trans (by simpa using iw)
  cases iw
 ·have:=h.1
  simp only[List.length_append,List.length_set,List.length_singleton]at this⊢
  exact this
 rw[Array.toList_setIfInBounds];have e1:(l++[y]).length*L.k=(l++[x]).length*L.k:=by simp
 rw[e1,List.take_set,ht,← hl,List.set_append_right _ _ (by omega)];congr 2
 omega
theorem OwnX.append {ops:Array Oper}{rest:List Oper}{o:Oper}{a:Act}{Q:Exit→Act→World→Prop}(hgd:o.guard=none) (s x:Operand) (T:TypeId)
  (ho:o.op=.call { callee:=.builtin .append,args:=#[s,x],argTypes:=#[T,T] }) (hT:Tryz.prog.underlying T=some (.slice t)) {z:Value} {bytes:Nat} (hzs:z.cells.size=L.k) (dl:bytes≤128)
  (hinfo:(Tryz.prog.info? t).map (fun i=>(i.zero,i.size,i.bytes))=some (some z,L.k,bytes))
  (hs:a.eval s=v) (xt:OwnX L t w base v H l) (A:Option Addr) (m c:Nat) (cs:List Value) (news:List α) (hx:a.eval x=.slice A m c) (hm:m=news.length)
  (hn:RowC L H cs news) (hr:Src w A cs) (xo:l.length+news.length≤1099511627776) (hbase:base≤w.heap.size)
  (h:∀ v' w',OwnX L t w' base v' H (l++news)→w.grownBy w' v.ownBlock→At0 w v.ownBlock v'.ownBlock→wpList Tryz.prog ops Q rest (a.put o.dst v') w') :
  wpList Tryz.prog ops Q (o::rest) a w:=by
 subst hm;obtain⟨xs,Sx,xt⟩:=xt;obtain⟨i0,uF,mP,rM,qg⟩:=info_parts hinfo
 refine wpList_plain hgd fun K hK=>wP s x _ ho base t i0 _ L.k bytes hT uF mP rM qg hzs L.pos v l.length xs hs xt A news.length c cs hx hn.len hr hn.oneCell
  (by simp only[maxLen];omega) (by have:=Nat.mul_le_mul xo dl;omega) hbase fun v' w' h2 h3 h4=>hK _ _ (h v' w' ?_ h3 ?_)
 ·exact⟨xs++cs,Sx.app hn,by simpa using h2⟩
 rcases h4 with h4 | h4
 ·exact .inl h4
 exact .inr ⟨_,h4,Nat.le_refl _⟩
end
def Ru:Lie Int where
 k:=1
 pos:=by omega
 E:=fun _ x c=>c=[.int .i64 x]
 len:=by rintro _ _ _ rfl;rfl
 one:=by rintro _ _ _ rfl;simp[Value.oneCell']
 mono:=fun _ h=>h
end Go.Proofs.YtliomcphdnppnaaGreatDoor
namespace Go.Proofs.YtliomcphdnppnaaGreatDoor
def num:List Nat→Nat
 | []=>0
 | x::l=>x+18446744073709551616*num l
def W64 (l:List Nat):Prop:=∀ x∈l,x<18446744073709551616
end Go.Proofs.YtliomcphdnppnaaGreatDoor
namespace Go.Proofs.YtliomcphdnppnaaGreatDoor
def Qi:List Nat:=[7640891576956012808,13503953896175478587,4354685564936845355,11912009170470909681,5840696475078001361,11170449401992604703,2270897969802886507,6620516959819538809]
end Go.Proofs.YtliomcphdnppnaaGreatDoor
namespace Go.Proofs.YtliomcphdnppnaaGreatDoor
abbrev f64:=FloatKind.f64.format
end Go.Proofs.YtliomcphdnppnaaGreatDoor
namespace Go.Proofs.YtliomcphdnppnaaGreatDoor
def J6 (l:List Nat) (i:Nat):Nat:=l.getD i 0
theorem W64.set {l:List Nat}(h:W64 l) (i:Nat) {n:Nat}(hn:n<18446744073709551616):W64 (l.set i n):=fun a ha=>by
 rcases List.mem_or_eq_of_mem_set ha with h1 | h1
 ·exact h a h1
 rw[h1];exact hn
end Go.Proofs.YtliomcphdnppnaaGreatDoor
namespace Go.Proofs.YtliomcphdnppnaaGreatDoor
open Go.RowKit
def jP (a b x:Int):Int:=bits .or .u32 (x*a%4294967296) (x/b)
def Zx (l:List Int) (i:Nat):Int:=l.getD i 0
def bB (bs:List UInt8) (i:Nat):Int:=((bs.getD i 0).toNat:Int)
def NQ (b0 b1 b2 b3:Int):Int:=bits .or .u32 (bits .or .u32 (bits .or .u32 (IntKind.u32.wrap (IntKind.u32.wrap b0*16777216)) (IntKind.u32.wrap (IntKind.u32.wrap b1*65536))) (IntKind.u32.wrap (IntKind.u32.wrap b2*256))) (IntKind.u32.wrap b3)
def Jw (x y w7 w16:Int):Int :=
 IntKind.u32.wrap (IntKind.u32.wrap (IntKind.u32.wrap (bits .xor .u32 (bits .xor .u32 (jP 32768 131072 y) (jP 8192 524288 y)) (y/1024)+w7)+bits .xor .u32 (bits .xor .u32 (jP 33554432 128 x) (jP 16384 262144 x)) (x/8))+w16)
structure S8 where
 a:Int
 b:Int
 c:Int
 d:Int
 e:Int
 f:Int
 g:Int
 h:Int
def S8.cells (s:S8):Array Value:=#[.int .u32 s.a,.int .u32 s.b,.int .u32 s.c,.int .u32 s.d,.int .u32 s.e,.int .u32 s.f,.int .u32 s.g,.int .u32 s.h]
def S8.list (s:S8):List Int:=[s.a,s.b,s.c,s.d,s.e,s.f,s.g,s.h]
theorem S8.one (s:S8):s.cells.all (·.oneCell')=true:=by simp[S8.cells,Value.oneCell']
def tP (s:S8) (k w:Int):Int :=
 s.h+bits .xor .u32 (bits .xor .u32 (jP 67108864 64 s.e) (jP 2097152 2048 s.e)) (jP 128 33554432 s.e)+bits .xor .u32 (bits .and .u32 s.e s.f) (bits .and .u32 (bits .xor .u32 IntKind.u32.max s.e) s.g)+k+w
def uP (s:S8):Int :=
 bits .xor .u32 (bits .xor .u32 (jP 1073741824 4 s.a) (jP 524288 8192 s.a)) (jP 1024 4194304 s.a)+bits .xor .u32 (bits .xor .u32 (bits .and .u32 s.a s.b) (bits .and .u32 s.a s.c)) (bits .and .u32 s.b s.c)
def Qs (s:S8) (k w:Int):S8:=⟨(tP s k w+uP s)%4294967296,s.a,s.b,s.c,(s.d+tP s k w)%4294967296,s.e,s.f,s.g⟩
def ar (K W:List Int) (h:S8):Nat→S8
 | 0=>h
 | k+1=>Qs (ar K W h k) (Zx K k) (Zx W k)
def nQ (bs:List UInt8):Nat→List Int
 | 0=>List.replicate 64 0
 | k+1=>(nQ bs k).set k (if k<16 then NQ (bB bs (4*k)) (bB bs (4*k+1)) (bB bs (4*k+2)) (bB bs (4*k+3))
   else Jw (Zx (nQ bs k) (k-15)) (Zx (nQ bs k) (k-2)) (Zx (nQ bs k) (k-7)) (Zx (nQ bs k) (k-16)))
def Qg (K:List Int) (h:S8) (bs:List UInt8):S8 :=
 let s:=ar K (nQ bs 64) h 64
 ⟨IntKind.u32.wrap (h.a+s.a),IntKind.u32.wrap (h.b+s.b),IntKind.u32.wrap (h.c+s.c),IntKind.u32.wrap (h.d+s.d),IntKind.u32.wrap (h.e+s.e),IntKind.u32.wrap (h.f+s.f),IntKind.u32.wrap (h.g+s.g),IntKind.u32.wrap (h.h+s.h)⟩
theorem Blk.or {w w':World}{g:Nat}{t:TypeId}{cs:Array Value}(h:Blk w g t cs) (hw:w'=w∨w'=w.drew):Blk w' g t cs:=by
 rcases hw with rfl | rfl
 ·exact h
 exact h.drew
def Tw:List Int:=[4794697086780616226,8158064640168781261,13096744586834688815,16840607885511220156,4131703408338449720,6480981068601479193,10538285296894168987,12329834152419229976,15566598209576043074,1334009975649890238,2608012711638119052,6128411473006802146,8268148722764581231,9286055187155687089,11230858885718282805,13951009754708518548,16472876342353939154,17275323862435702243,1135362057144423861,2597628984639134821,3308224258029322869,5365058923640841347,6679025012923562964,8573033837759648693,10970295158949994411,12119686244451234320,12683024718118986047,13788192230050041572,14330467153632333762,15395433587784984357,489312712824947311,1452737877330783856,2861767655752347644,3322285676063803686,5560940570517711597,5996557281743188959,7280758554555802590,8532644243296465576,9350256976987008742,10552545826968843579,11727347734174303076,12113106623233404929,14000437183269869457,14369950271660146224,15101387698204529176,15463397548674623760,17586052441742319658,1182934255886127544,1847814050463011016,2177327727835720531,2830643537854262169,3796741975233480872,4115178125766777443,5681478168544905931,6601373596472566643,7507060721942968483,8399075790359081724,8693463985226723168,9568029438360202098,10144078919501101548,10430055236837252648,11840083180663258601,13761210420658862357,14299343276471374635,14566680578165727644,15097957966210449927,16922976911328602910,17689382322260857208,500013540394364858,748580250866718886,1242879168328830382,1977374033974150939,2944078676154940804,3659926193048069267,4368137639120453308,4836135668995329356,5532061633213252278,6448918945643986474,6902733635092675308,7801388544844847127]
def rx (x:Int):Int:=IntKind.u32.wrap (x/4294967296)
def Wi:List Int:=Tw.map rx
def Qt:S8:=⟨rx 7640891576956012808,rx 13503953896175478587,rx 4354685564936845355,rx 11912009170470909681,rx 5840696475078001361,rx 11170449401992604703,rx 2270897969802886507,rx 6620516959819538809⟩
def J4 (m:List UInt8) (k:Nat):List UInt8:=(m.drop (64*k)).take 64
def T4 (m:List UInt8):Nat→S8
 | 0=>Qt
 | k+1=>Qg Wi (T4 m k) (J4 m k)
def bD (x:Int) (d:Int):UInt8:=UInt8.ofNat (x/d%256).toNat
def NP (x:Int):List UInt8:=[bD x 16777216,bD x 65536,bD x 256,bD x 1]
def Rv (l:List UInt8):List UInt8:=(T4 (Oc l) ((Oc l).length/64)).list.flatMap NP
def hP8:Nat→List Int
 | 0=>List.replicate 8 0
 | k+1=>(hP8 k).set k (rx ((J6 Qi k:Nat):Int))
def Jz (m:Int) (u:UInt8):UInt8:=UInt8.ofNat (bits .xor .u8 (u.toNat:Int) m%256).toNat
def NC (key:List UInt8):List UInt8:=if 64<key.length then Rv key else key
def Mw (k:List UInt8):List UInt8:=k++List.replicate (64-k.length) 0
def TF (m:Int) (key:List UInt8):List UInt8:=(Mw (NC key)).map (Jz m)
def lP (key b:List UInt8):List UInt8:=Rv (TF 92 key++Rv (TF 54 key++b))
theorem jJ {p u:Itm}(h:zV p u=true):(∀ q∈ze p.items,vz q.1=true)∧(∀ q∈ze u.items,vz q.1=true):=by
 simp[zV,tw]at h
 have h1:=h.1.1.1.1.2;have h2:=h.1.1.1.2.2;rw[tR,List.all_eq_true]at h1 h2
 exact⟨fun q hq=>qq (h1 q hq),fun q hq=>qq (h2 q hq)⟩
theorem Wq {p u:Itm}(hv:zV p u=true) (np:Nums p) (nu:Nums u) (j:Nat) (hj:j<100):vO p u (j:Int)=xQ p u (j:Int):=by
 obtain⟨vp,vu,Vs,Tj⟩:=yZ hv;obtain⟨lp,lu⟩:=jJ hv;have N2:Nums (zg (j:Int)):=by rw[vb,Nums,NumsL];exact⟨by omega,trivial⟩
 rw[vO,xQ,o1 Vs vp np lp (wQ j) N2,o1 Tj vu nu lu (wQ j) N2]
 all_goals (cases atL (zg (j:Int)) p.items <;> rfl)
def r9 (p u:Itm) (n:Int):Option Itm:=if zV p u=true then vO p u n else none
theorem fy {p u x:Itm}(vp:zX p=true) (vu:zX u=true) {n:Int}(h:xQ p u n=some x):Modest x:=by
 have one:∀ {m y:Itm},zX m=true→atL (zg n) m.items=some y→Modest y:=by
  intro m y vm hy
  rw[rS]at hy
  cases hx:(ze m.items).find? (fun p=>yu p.1 (zg n)) with
  | none=>rw[hx]at hy;cases hy
  | some q =>
  rw[hx]at hy;injection hy with hy
  rw[← hy]
  exact zE (wS vm (xK (List.mem_of_find?_eq_some hx)).2)
 unfold xQ at h
 cases hq:atL (zg n) p.items with
 | some y =>
  rw[hq]at h;injection h with h
  rw[← h]
  exact one vp hq
 | none =>
 rw[hq]at h
 exact one vu h
theorem iz {p u:Itm}(vp:zX p=true) (vu:zX u=true) {n:Int}:Modest ((xQ p u n).getD zm):=by
 cases h:xQ p u n with
 | some x=>exact fy vp vu h
 | none=>show Modest zm;rw[Modest,ModestL];simp
def gZ (x:Itm):Int:=if x.kind=1 then IntKind.i64.wrap (-1-IntKind.i64.wrap (x.n:Int)) else IntKind.i64.wrap (x.n:Int)
def vt (p u:Itm):Int:=match r9 p u 1 with
 | some x=>gZ x
 | none=>0
def Rw (g:Int):Nat:=if g=4 then 8 else if g=5 then 32 else 0
theorem cz {p:Itm}(h:zX p=true) (h5:p.kind=5):p=.mk 5 0 [] p.items∧p.items.length%2=0∧xY p.items=true:=by
 have hg:=((yp p).1 h).1;have hf:=xk (eu hg (by omega));have hb:p.bytes=[]:=List.length_eq_zero_iff.1 hf.2.2.2.1;have ha:=hg.asc h5;have hn:=hf.2.2.2.2.2.1 (by omega);have he:=hf.2.2.2.2.2.2 h5;obtain⟨k,n,b,l⟩:=p
 simp only[Itm.kind,Itm.bytes,Itm.items,Itm.n]at h5 hb hn he ha⊢
 subst h5 hb hn
 exact⟨rfl,he,ha⟩
structure Ev where
 p:Itm
 u:Itm
 body:List UInt8
 tag:List UInt8
structure EvAd where
 a:Ad
 b:Ad
 ba:Option Addr
 bc:Nat
 ta:Option Addr
 tc:Nat
abbrev evC (p:Itm) (a:Ad) (u:Itm) (b:Ad) (ba:Option Addr) (bn bc:Nat) (ta:Option Addr) (tn tc:Nat):Array Value :=
 #[.int .i64 p.kind,.int .u64 p.n,.slice a.ba p.bytes.length a.bc,.slice a.ia p.items.length a.ic,.int .i64 u.kind,.int .u64 u.n,.slice b.ba u.bytes.length b.bc,.slice b.ia u.items.length b.ic,.slice ba bn bc,.slice ta tn tc]
abbrev evQ (v:Ev) (a:EvAd):Array Value:=evC v.p a.a v.u a.b a.ba v.body.length a.bc a.ta v.tag.length a.tc
structure EvA (H:Snap) (v:Ev) (a:EvAd):Prop where
 p:IsItem H a.a.ba a.a.bc a.a.ia a.a.ic v.p
 u:IsItem H a.b.ba a.b.bc a.b.ia a.b.ic v.u
 body:IsBytes H a.ba a.bc v.body
 tag:IsBytes H a.ta a.tc v.tag
theorem EvA.mono {H K:Snap}{v:Ev}{a:EvAd}(h:EvA H v a) (hl:H.le K):EvA K v a:=⟨h.p.mono hl,h.u.mono hl,h.body.mono hl,h.tag.mono hl⟩
abbrev tC:Array Value:=#[.int .i64 0,.int .u64 0,.slice none 0 0,.slice none 0 0,.int .i64 0,.int .u64 0,.slice none 0 0,.slice none 0 0,.slice none 0 0,.slice none 0 0]
def ii:Ev:=⟨zm,zm,[],[]⟩
def gN:EvAd:=⟨⟨none,0,none,0⟩,⟨none,0,none,0⟩,none,0,none,0⟩
theorem fD (H:Snap):EvA H ii gN:=⟨IsItem.plain H 0 0 (by omega) (by omega),IsItem.plain H 0 0 (by omega) (by omega),IsBytes.nil _,IsBytes.nil _⟩
def Y4:List UInt8:=[77,65,67,48]
def VN (p u:Itm) (ext pay key:List UInt8):Int :=
 if zV p u=false then 1 else if Rw (vt p u)=0∨key.length=0 then 12 else if 4096<pay.length then 8 else yj Y4 p u ext [pay]
def OZ (p u:Itm) (ext pay key:List UInt8):List UInt8 :=
 (lP key (zh (we Y4 p ext [pay]))).take (Rw (vt p u))
def aC (p u:Itm) (ext pay key:List UInt8):Ev:=if VN p u ext pay key=0 then⟨p,u,pay,OZ p u ext pay key⟩ else ii
def MacOut (w:World) (H:Snap) (p u:Itm) (ext pay key:List UInt8) (e:Ending) (w':World):Prop :=
 ∃ a H',e=.returned (.tuple #[.agg (evQ (aC p u ext pay key) a),.int .i64 (VN p u ext pay key)])∧Grows w H w' H'∧EvA H' (aC p u ext pay key) a
theorem MacOut.bad {w w':World}{H:Snap}{p u:Itm}{ext pay key:List UInt8}{c:Int}{e:Ending}(hc:VN p u ext pay key=c) (h0:c≠0) (hG:Grows w H w' H) (he:e=.returned (.tuple #[.agg tC,.int .i64 c])):MacOut w H p u ext pay key e w':=by
 have hv:aC p u ext pay key=ii:=by rw[aC,if_neg (by omega)]
 refine⟨gN,H, ?_,hG, ?_⟩
 ·rw[hv,hc,he];rfl
 rw[hv]
 exact fD H
theorem MacOut.good {w w':World}{H H':Snap}{p u:Itm}{ext pay key:List UInt8}{e:Ending}{xa xb:Ad}{BA:Option Addr}{bn bc:Nat}{TA:Option Addr}{c n:Nat}{l:List UInt8}(hc:VN p u ext pay key=0) (hG:Grows w H w' H') (hp:IsItem H' xa.ba xa.bc xa.ia xa.ic p) (hu:IsItem H' xb.ba xb.bc xb.ia xb.ic u)
  (nW:bn=pay.length) (hb:IsBytes H' BA bc pay) (hn:Rw (vt p u)=n) (hl:l=zh (we Y4 p ext [pay])) (Te:n≤(lP key l).length) (ht:IsBytes H' TA c (lP key l)) (he:e=.returned (.tuple #[.agg (evC p xa u xb BA bn bc TA n n),.int .i64 0])):MacOut w H p u ext pay key e w':=by
 have hv:aC p u ext pay key=⟨p,u,pay,(lP key l).take n⟩:=by rw[aC,if_pos hc,OZ,hn,hl]
 have xo:((lP key l).take n).length=n:=by rw[List.length_take];omega
 refine⟨⟨xa,xb,BA,bc,TA,n⟩,H', ?_,hG, ?_⟩
 ·rw[hv,hc,he,nW];show _=Ending.returned (.tuple #[.agg (evC p xa u xb BA pay.length bc TA ((lP key l).take n).length n),.int .i64 0])
  rw[xo]
 rw[hv]
 exact⟨hp,hu,hb,⟨by show((lP key l).take n).length≤n;rw[xo];exact Nat.le_refl _,by show n≤9223372036854775807;have:=ht.le;have:=ht.max;omega,(ht.take' n).row⟩⟩
theorem XD (cs:Array Value) (a b c d:List Value) (h:cs.toList.take (a.length+b.length+c.length)=a++b++c) (hd:d.length=b.length) :
  (qP cs a.length d).toList.take (a.length+d.length+c.length)=a++d++c:=by
 have hz:a.length+b.length+c.length≤cs.size:=by
  have h1:=congrArg List.length h
  simp only[List.length_take,List.length_append,Array.length_toList]at h1
  omega
 apply List.ext_getElem?
 intro j
 have hj:(cs.toList.take (a.length+b.length+c.length))[j]? = (a++b++c)[j]? :=by rw[h]
 simp only[List.getElem?_take,List.getElem?_append,Array.getElem?_toList,oA,List.length_append]at hj⊢
 by_cases h1:j<a.length
 ·rw[if_pos (by omega),if_neg (by omega),if_pos (by omega),if_pos h1];rw[if_pos (by omega),if_pos (by omega),if_pos h1]at hj
  exact hj
 by_cases h2:j<a.length+d.length
 ·rw[if_pos (by omega),if_pos (by omega),if_pos h2,if_neg h1]
 by_cases h3:j<a.length+d.length+c.length
 ·rw[if_pos h3,if_neg (by omega),if_neg h2];rw[if_pos (by omega),if_neg (by omega)]at hj;rw[hj,hd]
 rw[if_neg h3,if_neg h2];symm
 rw[List.getElem?_eq_none_iff]
 omega
theorem OwnI.put {w:World}{base:Nat}{A:Option Addr}{m c:Nat}{H:Snap}{l1 l2:List Itm}{z:Itm}(h:OwnI w base (.slice A m c) H (l1++z::l2)) :
  ∃ g cur,A=some ⟨g,0,none⟩∧base≤g∧Blk w g 26 cur∧l1.length*4+4≤cur.size∧
   ∀ (w':World) (cells:List Value) (y:Itm),ItemsC H cells [y]→Blk w' g 26 (qP cur (l1.length*4) cells)→OwnI w' base (.slice A m c) H (l1++y::l2):=by
 obtain⟨cs,uE,h⟩:=h
 rcases h.2 with ⟨hv,hz⟩ | ⟨g,cap,cur,hv,hb,hg,hc,hm,hcz,ht⟩
 ·simp at hz
 cases hv
 have hs:=uE.split l1.length;rw[List.take_left,List.drop_left]at hs
 obtain⟨ba,bc,ia,ic,rest,he,hi,hr⟩:∃ ba bc ia ic rest,cs.drop (l1.length*4)=zZ z ba bc ia ic++rest∧IsItem H ba bc ia ic z∧ItemsC H rest l2:=by
  have h2:=hs.2;rw[ItemsC]at h2;obtain⟨ba,bc,ia,ic,rest,h2⟩:=h2
  exact⟨ba,bc,ia,ic,rest,h2.1,h2.2⟩
 have xo:=hs.1.len;have LW:=hr.len;have sD:=uE.len;have e:cs=cs.take (l1.length*4)++zZ z ba bc ia ic++rest:=by rw[List.append_assoc,← he,List.take_append_drop]
 have mA:l1.length*4+4≤cur.size:=by
  have hx:(l1++z::l2).length*4≤c*4:=Nat.mul_le_mul_right _ hc
  simp only[List.length_append,List.length_cons]at hx
  omega
 refine⟨g,cur,rfl,hb,hg,mA,fun w' cells y hy hB=>⟨cs.take (l1.length*4)++cells++rest,by
   have h3:=(hs.1.app hy).app hr
   simpa using h3, ?_,.inr ⟨g,c,_,by simp,hb,hB,by simpa using hc,hm,by rw[nI,hcz], ?_⟩⟩⟩
 ·have:=hy.len
  simp only[List.length_append,List.length_cons,List.length_nil]at this xo LW sD⊢
  omega
 have yR:=hy.len
 have hk:=XD cur (cs.take (l1.length*4)) (zZ z ba bc ia ic) rest cells (by
  rw[← e]
  have e4:(cs.take (l1.length*4)).length+(zZ z ba bc ia ic).length+rest.length=(l1++z::l2).length*4:=by
   rw[xo,LW]
   simp[zZ]
   omega
  rw[e4]
  exact ht) (by rw[yR];simp[zZ])
 rw[xo]at hk
 have e5:(l1++y::l2).length*4=l1.length*4+cells.length+rest.length:=by
  rw[yR,LW]
  simp
  omega
 rw[e5]
 exact hk
section
variable {W0 w w':World} {H Hr Hs:Snap} {kc:Array Value} {v v':Value} {L news:List Itm}
end
section
variable {W0 w w':World} {H Hr Hs:Snap} {B:Nat} {kc:Array Value} {bv v v':Value} {L L1 L2 news:List Itm} {z:Itm}
end
end Go.Proofs.YtliomcphdnppnaaGreatDoor
namespace Go.Proofs.YtliomcphdnppnaaGreatDoor
open Go.RowKit Go.Shelf
def Ua:Go.Shelf.Ren:=⟨fun | 6=>108 | 10=>134 | 11=>135 | 12=>136 | 13=>137 | 14=>138 | 24=>177 | 25=>178 | 26=>179 | 27=>180 | 28=>181 | 29=>182 | 30=>183 | 31=>184 | 32=>185 | 33=>186 | 34=>203 | 35=>204 | 36=>205 | 37=>206 | 38=>207 | 39=>215 | n=>n,
 fun | 0=>0 | 3=>3 | 4=>4 | 5=>5 | 9=>9 | 12=>12 | 17=>17 | 20=>20 | 26=>152 | 32=>181 | 33=>182 | 35=>184 | 37=>186 | 41=>62 | 44=>192 | 49=>135 | 51=>22 | 53=>229 | 54=>230 | 58=>234 | 60=>246 | 64=>249 | 66=>259 | 67=>260 | 75=>270 | 76=>271 | 77=>272 | 78=>273 | 79=>274 | 80=>275 | 82=>277 | n=>n,fun n=>n⟩
theorem lE:LaysGg.n6 Tryz.prog Ua where
 mixed:=by kernel_rfl
 f6:=Tryz.func108.trans (congrArg some (by kernel_rfl))
 f10:=Tryz.func134.trans (congrArg some (by kernel_rfl))
 f11:=Tryz.func135.trans (congrArg some (by kernel_rfl))
 f12:=Tryz.func136.trans (congrArg some (by kernel_rfl))
 f13:=Tryz.func137.trans (congrArg some (by kernel_rfl))
 f14:=Tryz.func138.trans (congrArg some (by kernel_rfl))
 f24:=Tryz.func177.trans (congrArg some (by kernel_rfl))
 f25:=Tryz.func178.trans (congrArg some (by kernel_rfl))
 f26:=Tryz.func179.trans (congrArg some (by kernel_rfl))
 f27:=Tryz.func180.trans (congrArg some (by kernel_rfl))
 f28:=Tryz.func181.trans (congrArg some (by kernel_rfl))
 f29:=Tryz.func182.trans (congrArg some (by kernel_rfl))
 f30:=Tryz.func183.trans (congrArg some (by kernel_rfl))
 f31:=Tryz.func184.trans (congrArg some (by kernel_rfl))
 f32:=Tryz.func185.trans (congrArg some (by kernel_rfl))
 f33:=Tryz.func186.trans (congrArg some (by kernel_rfl))
 f34:=Tryz.func203.trans (congrArg some (by kernel_rfl))
 f35:=Tryz.func204.trans (congrArg some (by kernel_rfl))
 f36:=Tryz.func205.trans (congrArg some (by kernel_rfl))
 f37:=Tryz.func206.trans (congrArg some (by kernel_rfl))
 f38:=Tryz.func207.trans (congrArg some (by kernel_rfl))
 f39:=Tryz.func215.trans (congrArg some (by kernel_rfl))
 t0:=Tryz.underlying0
 a0:=Tryz.isAgg0
 z0:=Tryz.sizeOf0
 v0:=Tryz.zeroValue0
 i0:=by kernel_rfl
 t3:=Tryz.underlying3
 a3:=Tryz.isAgg3
 z3:=Tryz.sizeOf3
 v3:=Tryz.zeroValue3
 i3:=by kernel_rfl
 t4:=Tryz.underlying4
 a4:=Tryz.isAgg4
 z4:=Tryz.sizeOf4
 v4:=Tryz.zeroValue4
 i4:=by kernel_rfl
 t5:=Tryz.underlying5
 a5:=Tryz.isAgg5
 z5:=Tryz.sizeOf5
 v5:=Tryz.zeroValue5
 i5:=by kernel_rfl
 t9:=Tryz.underlying9
 a9:=Tryz.isAgg9
 z9:=Tryz.sizeOf9
 v9:=Tryz.zeroValue9
 i9:=by kernel_rfl
 t12:=Tryz.underlying12
 a12:=Tryz.isAgg12
 z12:=Tryz.sizeOf12
 v12:=Tryz.zeroValue12
 i12:=by kernel_rfl
 t17:=Tryz.underlying17
 a17:=Tryz.isAgg17
 z17:=Tryz.sizeOf17
 v17:=Tryz.zeroValue17
 i17:=by kernel_rfl
 t20:=Tryz.underlying20
 a20:=Tryz.isAgg20
 z20:=Tryz.sizeOf20
 v20:=Tryz.zeroValue20
 i20:=by kernel_rfl
 t26:=Tryz.underlying152
 a26:=Tryz.isAgg152
 z26:=Tryz.sizeOf152
 v26:=Tryz.zeroValue152
 i26:=by kernel_rfl
 t32:=Tryz.underlying181
 a32:=Tryz.isAgg181
 z32:=Tryz.sizeOf181
 v32:=Tryz.zeroValue181
 i32:=by kernel_rfl
 t33:=Tryz.underlying182
 a33:=Tryz.isAgg182
 z33:=Tryz.sizeOf182
 v33:=Tryz.zeroValue182
 i33:=by kernel_rfl
 t35:=Tryz.underlying184
 a35:=Tryz.isAgg184
 z35:=Tryz.sizeOf184
 v35:=Tryz.zeroValue184
 i35:=by kernel_rfl
 t37:=Tryz.underlying186
 a37:=Tryz.isAgg186
 z37:=Tryz.sizeOf186
 v37:=Tryz.zeroValue186
 i37:=by kernel_rfl
 t41:=Tryz.underlying62
 a41:=Tryz.isAgg62
 z41:=Tryz.sizeOf62
 v41:=Tryz.zeroValue62
 i41:=by kernel_rfl
 t44:=Tryz.underlying192
 a44:=Tryz.isAgg192
 z44:=Tryz.sizeOf192
 v44:=Tryz.zeroValue192
 i44:=by kernel_rfl
 t49:=Tryz.underlying135
 a49:=Tryz.isAgg135
 z49:=Tryz.sizeOf135
 v49:=Tryz.zeroValue135
 i49:=by kernel_rfl
 t51:=Tryz.underlying22
 a51:=Tryz.isAgg22
 z51:=Tryz.sizeOf22
 v51:=Tryz.zeroValue22
 i51:=by kernel_rfl
 t53:=Tryz.underlying229
 a53:=Tryz.isAgg229
 z53:=Tryz.sizeOf229
 v53:=Tryz.zeroValue229
 i53:=by kernel_rfl
 t54:=Tryz.underlying230
 a54:=Tryz.isAgg230
 z54:=Tryz.sizeOf230
 v54:=Tryz.zeroValue230
 i54:=by kernel_rfl
 t58:=Tryz.underlying234
 a58:=Tryz.isAgg234
 z58:=Tryz.sizeOf234
 v58:=Tryz.zeroValue234
 i58:=by kernel_rfl
 t60:=Tryz.underlying246
 a60:=Tryz.isAgg246
 z60:=Tryz.sizeOf246
 v60:=Tryz.zeroValue246
 i60:=by kernel_rfl
 t64:=Tryz.underlying249
 a64:=Tryz.isAgg249
 z64:=Tryz.sizeOf249
 v64:=Tryz.zeroValue249
 i64:=by kernel_rfl
 t66:=Tryz.underlying259
 a66:=Tryz.isAgg259
 z66:=Tryz.sizeOf259
 v66:=Tryz.zeroValue259
 i66:=by kernel_rfl
 t67:=Tryz.underlying260
 a67:=Tryz.isAgg260
 z67:=Tryz.sizeOf260
 v67:=Tryz.zeroValue260
 i67:=by kernel_rfl
 t75:=Tryz.underlying270
 a75:=Tryz.isAgg270
 z75:=Tryz.sizeOf270
 v75:=Tryz.zeroValue270
 i75:=by kernel_rfl
 t76:=Tryz.underlying271
 a76:=Tryz.isAgg271
 z76:=Tryz.sizeOf271
 v76:=Tryz.zeroValue271
 i76:=by kernel_rfl
 t77:=Tryz.underlying272
 a77:=Tryz.isAgg272
 z77:=Tryz.sizeOf272
 v77:=Tryz.zeroValue272
 i77:=by kernel_rfl
 t78:=Tryz.underlying273
 a78:=Tryz.isAgg273
 z78:=Tryz.sizeOf273
 v78:=Tryz.zeroValue273
 i78:=by kernel_rfl
 t79:=Tryz.underlying274
 a79:=Tryz.isAgg274
 z79:=Tryz.sizeOf274
 v79:=Tryz.zeroValue274
 i79:=by kernel_rfl
 t80:=Tryz.underlying275
 a80:=Tryz.isAgg275
 z80:=Tryz.sizeOf275
 v80:=Tryz.zeroValue275
 i80:=by kernel_rfl
 t82:=Tryz.underlying277
 a82:=Tryz.isAgg277
 z82:=Tryz.sizeOf277
 v82:=Tryz.zeroValue277
 i82:=by kernel_rfl
theorem OwnX.kl {α:Type}{L:Lie α}{t:TypeId}{w w':World}{base N:Nat}{v:Value}{H:Snap}{l:List α}(h:OwnX L t w base v H l) (hg:w.grownBy w' (some N)) (hl:∀ q,v.ownBlock=some q→q<N):OwnX L t w' base v H l:=h.kept hg (by cases hv:v.ownBlock with | none=>exact .inl rfl | some q=>exact .inr (fun e=>by injection e with e;exact Nat.lt_irrefl _ (e ▸ hl q hv)))
end Go.Proofs.YtliomcphdnppnaaGreatDoor
