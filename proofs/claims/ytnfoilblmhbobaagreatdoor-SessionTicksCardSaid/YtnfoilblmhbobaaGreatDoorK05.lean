/- squeezed. Walks: the deck of numbers: Mod, N -/
import Derived.Test.YtnfoilblmhbobaaGreatDoorK04
import Derived.Test.YtnfoilblmhbobaaGreatDoorK03
import Derived.ChangeSlices
import Derived.OpenShut
import Derived.Laws.CopyOwn
import Derived.Deep.DeepCutAuto
import Derived.Deep.CutBlock
set_option linter.unusedVariables false
set_option linter.unusedSimpArgs false
set_option maxRecDepth 100000
set_option maxHeartbeats 6400000
namespace Go.Proofs.YtnfoilblmhbobaaGreatDoor
open Go.RowKit
structure IsInts (H:Snap) (A:Option Addr) (c:Nat) (l:List Int):Prop where
 le:l.length≤c
 max:c≤9223372036854775807
 row:Row H A (l.map (Value.int .i64))
 bnd:∀ x∈l, -9223372036854775808≤x∧x≤9223372036854775807
theorem IsInts.mono {H K:Snap}{A:Option Addr}{c:Nat}{l:List Int}(h:IsInts H A c l) (hl:H.le K):IsInts K A c l:=⟨h.le,h.max,h.row.mono hl,h.bnd⟩
def Deck (w:World) (g:Nat) (H:Snap):Prop:=∃ (A:Option Addr) (c:Nat) (l:List Int) (k:Nat),Blk w g 57 #[.slice A l.length c,.int .i64 k]∧IsInts H A c l∧k≤l.length
theorem Deck.mono {w:World}{g:Nat}{H K:Snap}(h:Deck w g H) (hl:H.le K):Deck w g K:=by
 obtain⟨A,c,l,k,h1,h2,h3⟩:=h
 exact⟨A,c,l,k,h1,h2.mono hl,h3⟩
theorem Deck.below {w w':World}{g:Nat}{H:Snap}(h:Deck w g H) (hb:Below w.heap.size w w'):Deck w' g H:=by
 obtain⟨A,c,l,k,h1,h2,h3⟩:=h
 exact⟨A,c,l,k,h1.below hb,h2,h3⟩
theorem Deck.lt {w:World}{g:Nat}{H:Snap}(h:Deck w g H):g<w.heap.size:=by
 obtain⟨A,c,l,k,h1,h2,h3⟩:=h
 exact h1.lt
def mZ (v n:Int):Int:=if v.tmod n<0 then v.tmod n+n else v.tmod n
theorem dR (v n:Int) (hn:0<n):0≤mZ v n∧mZ v n<n:=by
 have h1:=Int.tmod_lt_of_pos v hn;have h2 : -n<v.tmod n:=by have:=Int.tmod_lt_of_pos (-v) hn;rw[Int.neg_tmod]at this;omega
 unfold mZ
 split <;> omega
theorem Z9 (v n:Int) (hn:0<n) (kZ:n≤1099511627776) (w:World) :
  Calls Tryz.prog 18 #[.int .i64 v,.int .i64 n] w fun e w'=>e=.returned (.int .i64 (mZ v n))∧w=w':=by
 have h1:=Int.tmod_lt_of_pos v hn;have h2 : -n<v.tmod n:=by have:=Int.tmod_lt_of_pos (-v) hn;rw[Int.neg_tmod]at this;omega
 have vz:(n==0)=false:=by rw[beq_eq_false_iff_ne];omega
 have ti:(n=0)=False:=eq_false (by omega);have K1:IntKind.i64.wrap (v.tmod n)=v.tmod n:=IntWalk.i64_in _ (by omega)
 by_cases h0:v.tmod n<0
 ·have E:Hid (mZ v n=v.tmod n+n):=by rw[Hid,mZ,if_pos h0]
  go_enter Tryz.func18,Tryz.ntmps18
  go_wp2_with fail
  go_ret
  exact⟨by rw[E.out];rfl,rfl⟩
 have E:Hid (mZ v n=v.tmod n):=by rw[Hid,mZ,if_neg h0]
 go_enter Tryz.func18,Tryz.ntmps18
 go_wp2_with fail
 go_ret
 exact⟨by rw[E.out];rfl,rfl⟩
theorem ZA {H:Snap}{A:Option Addr}{c:Nat}{l:List Int}(hl:IsInts H A c l) (w:World) :
  Calls Tryz.prog 7 #[.slice A l.length c] w fun e w'=>e=.returned (.pointer (some ⟨w.heap.size,0,none⟩))∧Deck w' w.heap.size H∧Below w.heap.size w w':=by
 have hB:=Blk.new w 57 #[.slice A l.length c,.int .i64 0];have hb:=zb w (.cells #[.slice A l.length c,.int .i64 0] 57);have HL:=Hh hl;clear hl;go_enter Tryz.func7,Tryz.ntmps7
 go_wp2_with fail
 go_ret
 exact⟨rfl,⟨A,c,l,0,hB,HL.out,Nat.zero_le _⟩,hb⟩
theorem dn:(Tryz.prog.info? 3).map (·.size)=some 1:=by kernel_rfl
theorem bK {H:Snap}{g:Nat}(w:World) (hD:Deck w g H) (hH:Holds w H) (hg:H g=none) (n:Int) (hn:0<n) (kZ:n≤1099511627776) :
  Calls Tryz.prog 8 #[.pointer (some ⟨g,0,none⟩),.int .i64 n] w fun e w'=>∃ r:Int,e=.returned (.int .i64 r)∧0≤r∧r<n∧Deck w' g H∧w.grownBy w' (some g):=by
 obtain⟨A,c,l,k,hB,hl,hk⟩:=hD;have hc:=hl.max;have iB:=hl.le;have HL:=Hh hl;have YT:=hB.drew;clear hl;have Ve:(k:Int)+1≤9223372036854775807∨l.length≤k:=by omega
 have Us:=Hh Ve;have sS:=Hh kZ;clear hc iB Ve kZ;go_enter Tryz.func8,Tryz.ntmps8
 go_upto_region 1 with fail
 refine zp 9 (fun w'=>w'.cell? ⟨g,0,none⟩=some (.slice A l.length c)∧w'.cell? ⟨g,1,none⟩=some (.int .i64 k)) (by kernel_rfl) (⟨YT.cell 0 rfl,YT.cell 1 rfl⟩) (fun zy=>?_)
 refine Tk 0 rfl zy ?_
 refine Tk 1 rfl zy ?_
 refine Tk 2 rfl zy ?_
 refine Tk 3 rfl zy ?_
 refine Tk 4 rfl zy ?_
 refine Tk 5 rfl zy ?_
 refine Tk 6 rfl zy ?_
 refine Tk 7 rfl zy ?_
 refine Tk 8 rfl zy ?_
 refine To 9 rfl fun K hK=>?_
 go_simp
 refine Kz hK ?_
 clear hK K
 refine Wd ?_
 clear zy
 by_cases z6:k<l.length
 ·have cP:¬ (l.length:Int)≤k:=by omega
  have c1:=YT.cell 1 rfl;have kX:(k:Int)+1≤9223372036854775807:=by have:=Us.out;omega
  have vT:IntKind.i64.wrap ((k:Int)+1)=(k:Int)+1:=IntWalk.i64_in _ (by omega);clear kX;go_wp2_with (with_reducible refine zx ?_)
  refine zv rfl _ _ _ rfl rfl g 1 (.int .i64 ((k:Int)+1)) rfl rfl _ _ YT dn (by simp) rfl fun w2 xO yw=>?_
  obtain⟨ib,io,rfl,yS⟩:=HL.out.row (by intro h;rw[List.map_eq_nil_iff]at h;subst h;simp at z6);have yw:=z8 (wi (yg w (some g))) yw (.inl rfl);have Xq:Holds w2 H:=hH.grown yw (by rintro q ⟨⟩;exact hg);have hx:=yS k (.int .i64 l[k]) (by simp[z6]);have wP:Blk w2 g 57 #[.slice (some ⟨ib,io,none⟩) l.length c,.int .i64 ((k:Int)+1)]:=xO;have MD:=Hh (fun w3:World=>Z9 l[k] n hn sS.out w3);have cv:=dR l[k] n hn
  generalize l[k]'z6=x at *
  have kq:=Xq.drew;have Xl:=wP.drew;have yt:=wi yw;have RT:(k:Int)<l.length:=by omega
  have xX:IntKind.i64.wrap ((k:Int)+1-1)=(k:Int):=by rw[show(k:Int)+1-1=k by omega];exact IntWalk.i64_in _ (by have:=Us.out;omega)
  have dC:IntKind.i64.wrap (k:Int)=(k:Int):=IntWalk.i64_in _ (by have:=Us.out;omega);have cN:(0:Int)≤k:=by omega
  have TE:=Hh cv;clear xO yw Xq c1 YT hB yS cv cP;go_upto_region 4 with fail
  refine zp 13 (fun w'=>w'.cell? ⟨g,0,none⟩=some (.slice (some ⟨ib,io,none⟩) l.length c)∧w'.cell? ⟨g,1,none⟩=some (.int .i64 ((k:Int)+1))∧w'.cell? ⟨ib,io+k,none⟩=some (.int .i64 x)) (by kernel_rfl) (⟨Xl.cell 0 rfl,Xl.cell 1 rfl,kq.cell hx⟩) (fun zy=>?_)
  refine Tk 0 rfl zy ?_
  refine Tk 1 rfl zy ?_
  refine Tk 2 rfl zy ?_
  refine Tk 3 rfl zy ?_
  refine Tk 4 rfl zy ?_
  refine Tk 5 rfl zy ?_
  refine Tk 6 rfl zy ?_
  refine Tk 7 rfl zy ?_
  refine Tk 8 rfl zy ?_
  refine Tk 9 rfl zy ?_
  refine Tk 10 rfl zy ?_
  refine Tk 11 rfl zy ?_
  refine To 12 rfl fun K hK=>?_
  go_simp
  refine(MD.out _).mono ?_
  rintro e w5 ⟨rfl,rfl⟩
  refine Ko hK ?_ fun zy=>?_
  ·exact⟨Xl.cell 0 rfl,Xl.cell 1 rfl,kq.cell hx⟩
  clear hK K
  refine To 13 rfl fun K hK=>?_
  go_simp
  refine Kz hK ?_
  clear hK K
  refine Wd ?_
  clear zy;go_wp2_with fail
  go_ret
  exact⟨_,rfl,TE.out.1,TE.out.2,⟨_,c,l,k+1,Xl,HL.out,by omega⟩,yt⟩
 have cP:(l.length:Int)≤k:=by omega
 go_wp2_with fail
 go_ret
 exact⟨0,rfl,by omega,hn,⟨A,c,l,k,YT,HL.out,hk⟩,wi (yg w _)⟩
def yJ (W:World):Snap:=fun b=>W.heap[b]?
theorem sf (W:World) (a:Addr):(yJ W).cell? a=W.cell? a:=rfl
theorem lD (W:World):Holds W (yJ W):=fun _ _ h=>h
theorem jJ {W:World}(h:Lib.Utf8Tabs 0 1 W):Tabs (yJ W):=fun _ hw =>
 ⟨fun c hc=>hw.cell (h.1 c hc),fun i hi=>⟨hw.cell (h.2 i hi).1,hw.cell (h.2 i hi).2⟩⟩
theorem jo {n:Int}(h:(Lit.int .i64 n).wf=true) : -9223372036854775808≤n∧n≤9223372036854775807:=by
 simp[Lit.wf,IntKind.min,IntKind.max,IntKind.signed,IntKind.bits]at h
 omega
theorem gn {n:Int}(h:(Lit.int .u8 n).wf=true):0≤n∧n<256:=by
 simp[Lit.wf,IntKind.min,IntKind.max,IntKind.signed,IntKind.bits]at h
 omega
theorem oC {W:World}{a:Addr}{len cap:Nat}{zs:List Int}(hl:len≤cap) (hm:cap≤maxLen) (hz:len≤zs.length)
  (hc:∀ i,i<zs.length→W.cell? (a.add i)=some (.int .i64 (zs.getD i 0))) (wf:∀ n∈zs,(Lit.int .i64 n).wf=true):IsInts (yJ W) (some a) cap (zs.take len)∧(zs.take len).length=len:=by
 have xJ:(zs.take len).length=len:=by rw[List.length_take];omega
 refine⟨⟨by rw[xJ];exact hl,by simpa [maxLen] using hm,fun ww=>?_,fun x hx=>jo (wf x (List.mem_of_mem_take hx))⟩,xJ⟩
 have h0:0<len:=by
  rcases Nat.eq_zero_or_pos len with h | h
  ·subst h;simp at ww
  exact h
 obtain⟨b,off,rfl,yS⟩:=ints_at hc (by omega)
 refine⟨b,off,rfl,fun j v hj=>?_⟩
 rw[List.getElem?_map]at hj;obtain⟨x,hx,rfl⟩:=Option.map_eq_some_iff.1 hj;have pT:=(List.getElem?_eq_some_iff.1 hx).1;rw[xJ]at pT;rw[sf,yS j (by omega)];rw[List.getElem?_take,if_pos pT]at hx
 simp[List.getD,hx]
def xL (zs:List Int):List UInt8:=zs.map fun n=>u8 n.toNat
theorem jA {W:World}{a:Addr}{len cap:Nat}{zs:List Int}(hl:len≤cap) (hm:cap≤maxLen) (hz:len≤zs.length)
  (hc:∀ i,i<zs.length→W.cell? (a.add i)=some (.int .u8 (zs.getD i 0))) (wf:∀ n∈zs,(Lit.int .u8 n).wf=true):IsBytes (yJ W) (some a) cap (xL (zs.take len))∧(xL (zs.take len)).length=len:=by
 have xJ:(xL (zs.take len)).length=len:=by rw[xL,List.length_map,List.length_take];omega
 refine⟨⟨by rw[xJ];exact hl,by simpa [maxLen] using hm,fun ww=>?_⟩,xJ⟩
 have h0:0<len:=by
  rcases Nat.eq_zero_or_pos len with h | h
  ·subst h;simp[xL]at ww
  exact h
 obtain⟨b,off,rfl,yS⟩:=ints_at hc (by omega)
 refine⟨b,off,rfl,fun j v hj=>?_⟩
 rw[xL,List.map_map,List.getElem?_map]at hj;obtain⟨x,hx,rfl⟩:=Option.map_eq_some_iff.1 hj;rw[List.getElem?_take]at hx
 split at hx
 ·rename_i pT
  have hb:=gn (wf x (List.mem_of_getElem? hx));rw[sf,yS j (by omega)]
  simp[List.getD,hx,zm,qN]
  omega
 cases hx
structure Lie (α:Type) where
 k:Nat
 pos:0<k
 E:Snap→α→List Value→Prop
 len:∀ {H x c},E H x c→c.length=k
 one:∀ {H x c},E H x c→∀ u∈c,u.oneCell'=true
 mono:∀ {H K x c},H.le K→E H x c→E K x c
section
variable {α:Type} {L:Lie α}
def RowC (L:Lie α) (H:Snap):List Value→List α→Prop
 | cs,[]=>cs=[]
 | cs,x::l=>∃ c rest,cs=c++rest∧L.E H x c∧RowC L H rest l
theorem RowC.nil (L:Lie α) (H:Snap):RowC L H [] []:=by rw[RowC]
theorem RowC.len {H:Snap}:∀ {l:List α}{cs:List Value},RowC L H cs l→cs.length=l.length*L.k
 | [],cs,h=>by rw[RowC]at h;subst h;simp
 | x::l,cs,h=>by
  obtain⟨c,rest,rfl,hx,hr⟩:=h;rw[List.length_append,L.len hx,hr.len,List.length_cons,Nat.succ_mul,Nat.add_comm]
theorem RowC.mono {H K:Snap}(hl:H.le K):∀ {l:List α}{cs:List Value},RowC L H cs l→RowC L K cs l
 | [],cs,h=>h
 | x::l,cs,h=>by
  obtain⟨c,rest,e,hx,hr⟩:=h
  exact⟨c,rest,e,L.mono hl hx,hr.mono hl⟩
theorem RowC.one {H:Snap}{x:α}{c:List Value}(h:L.E H x c):RowC L H c [x]:=⟨c,[],by simp,h,RowC.nil L H⟩
theorem RowC.app {H:Snap}:∀ {l m:List α}{cs ds:List Value},RowC L H cs l→RowC L H ds m→RowC L H (cs++ds) (l++m)
 | [],m,cs,ds,h,hd=>by rw[RowC]at h;subst h;exact hd
 | x::l,m,cs,ds,h,hd=>by
  obtain⟨c,rest,rfl,hx,hr⟩:=h
  exact⟨c,rest++ds,by simp,hx,hr.app hd⟩
theorem RowC.oneCell {H:Snap}:∀ {l:List α}{cs:List Value},RowC L H cs l→∀ u∈cs,u.oneCell'=true
 | [],cs,h=>by rw[RowC]at h;subst h;simp
 | x::l,cs,h=>by
  obtain⟨c,rest,rfl,hx,hr⟩:=h
  intro u hu
  rw[List.mem_append]at hu
  rcases hu with hu | hu
  ·exact L.one hx u hu
  exact hr.oneCell u hu
theorem RowC.get {H:Snap}:∀ {l:List α}{cs:List Value},RowC L H cs l→∀ (j:Nat) (hj:j<l.length),∃ c,L.E H l[j] c∧∀ i v,c[i]? = some v→cs[j*L.k+i]? = some v
 | [],_,_,j,hj=>by simp at hj
 | x::l,cs,h,0,_=>by
  obtain⟨c,rest,rfl,hx,hr⟩:=h
  refine⟨c,hx,fun i v hi=>?_⟩
  rw[Nat.zero_mul,Nat.zero_add,List.getElem?_append_left (List.getElem?_eq_some_iff.1 hi).1]
  exact hi
 | x::l,cs,h,j+1,hj=>by
  obtain⟨c,rest,rfl,hx,hr⟩:=h;obtain⟨c',VV,VZ⟩:=hr.get j (by simpa using hj)
  refine⟨c',by simpa using VV,fun i v hi=>?_⟩
  have:=VZ i v hi;rw[List.getElem?_append_right (by rw[L.len hx,Nat.succ_mul];omega),L.len hx,show(j+1)*L.k+i-L.k=j*L.k+i by rw[Nat.succ_mul];omega]
  exact this
structure IsRow (L:Lie α) (H:Snap) (A:Option Addr) (c:Nat) (l:List α):Prop where
 le:l.length≤c
 max:c≤9223372036854775807
 row:0<l.length→∃ b off cs,A=some ⟨b,off,none⟩∧RowC L H cs l∧eG H b off cs
theorem IsRow.nil (L:Lie α) (H:Snap):IsRow L H none 0 []:=⟨by simp,by omega,by simp⟩
theorem IsRow.mono {H K:Snap}{A:Option Addr}{c:Nat}{l:List α}(h:IsRow L H A c l) (hl:H.le K):IsRow L K A c l:=⟨h.le,h.max,fun h0=>by
 obtain⟨b,off,cs,e,h1,h2⟩:=h.row h0
 exact⟨b,off,cs,e,h1.mono hl,fun j v hj=>hl.cell (h2 j v hj)⟩⟩
theorem IsRow.at_ {H:Snap}{A:Option Addr}{c:Nat}{l:List α}(h:IsRow L H A c l) (h0:0<l.length):∃ b off,A=some ⟨b,off,none⟩∧∀ j (hj:j<l.length),∃ d,L.E H l[j] d∧∀ i v,d[i]? = some v→H.cell? ⟨b,off+(j*L.k+i),none⟩=some v:=by
 obtain⟨b,off,cs,e,h1,h2⟩:=h.row h0
 refine⟨b,off,e,fun j hj=>?_⟩
 obtain⟨d,hd,hi⟩:=h1.get j hj
 exact⟨d,hd,fun i v hv=>h2 _ _ (hi i v hv)⟩
def OwnX (L:Lie α) (t:TypeId) (w:World) (base:Nat) (v:Value) (H:Snap) (l:List α):Prop:=∃ cs,RowC L H cs l∧w.ownsRow base t L.k v l.length cs
variable {t:TypeId} {w w':World} {base:Nat} {v:Value} {H:Snap} {l:List α}
theorem OwnX.nil (L:Lie α) (t:TypeId) (w:World) (base:Nat) (H:Snap):OwnX L t w base (.slice none 0 0) H []:=⟨[],RowC.nil L H,World.ownsRow_nil _ _ _ _⟩
theorem OwnX.lt (h:OwnX L t w base v H l):∀ k,v.ownBlock=some k→base≤k∧k<w.heap.size:=by obtain⟨_,_,h⟩:=h;exact World.ownsRow.lt h
theorem OwnX.kept {row:Option Nat}(h:OwnX L t w base v H l) (hg:w.grownBy w' row) (ww:v.ownBlock=none∨v.ownBlock≠row):OwnX L t w' base v H l:=by
 obtain⟨cs,hc,h⟩:=h;exact⟨cs,hc,World.ownsRow.kept h hg ww⟩
theorem OwnX.below (h:OwnX L t w base v H l) (hb:Below w.heap.size w w'):OwnX L t w' base v H l:=by
 refine h.kept (yD hb none) ?_
 cases hv:v.ownBlock with
 | none=>exact .inl rfl
 | some g=>exact .inr (by simp)
theorem OwnX.alloc (h:OwnX L t w base v H l) (o:Obj):OwnX L t (w.alloc o) base v H l:=h.below (zb w o)
theorem OwnX.mono {K:Snap}(h:OwnX L t w base v H l) (hl:H.le K):OwnX L t w base v K l:=by obtain⟨cs,hc,h⟩:=h;exact⟨cs,hc.mono hl,h⟩
theorem OwnX.form (h:OwnX L t w base v H l):∃ A c,v=.slice A l.length c∧l.length≤c∧c≤9223372036854775807:=by
 obtain⟨cs,hc,h⟩:=h
 rcases h.2 with ⟨rfl,hz⟩ | ⟨g,cap,cur,rfl,_,_,hn,hm,_⟩
 ·exact⟨none,0,by rw[hz],by omega,by omega⟩
 exact⟨_,cap,rfl,hn,by simpa [maxLen] using hm⟩
theorem OwnX.snap {A:Option Addr}{m c:Nat}(h:OwnX L t w base (.slice A m c) H l) (hw:Holds w H) (hn:∀ g,A.map (·.block)=some g→H g=none) :
  ∃ H',H.le H'∧Holds w H'∧(∀ b o,H' b=some o→H b=some o∨A.map (·.block)=some b)∧m=l.length∧IsRow L H' A c l:=by
 obtain⟨cs,qm,h⟩:=h
 rcases h.2 with ⟨hv,hz⟩ | ⟨g,cap,cur,hv,_,hg,hc,hm,cJ,ht⟩
 ·cases hv
  exact⟨H,Snap.le.refl _,hw,fun _ _ h=>.inl h,hz.symm,⟨by omega,by omega,by omega⟩⟩
 cases hv
 have d9:H g=none:=hn g rfl
 refine⟨H.with g (.cells cur t),Snap.le_with d9,hw.with hg,fun b o hb=>?_,rfl,hc,by simpa [maxLen] using hm,fun _=>⟨g,0,cs,rfl,qm.mono (Snap.le_with d9),fun j v hj=>?_⟩⟩
 ·unfold Snap.with at hb
  split at hb
  ·subst b;exact .inr rfl
  exact .inl hb
 rw[← ht,List.getElem?_take]at hj
 split at hj
 ·simp[Snap.cell?,Snap.with]
  simpa using hj
 cases hj
theorem OwnX.at_ {A:Option Addr}{m c:Nat}(h:OwnX L t w base (.slice A m c) H l) (j:Nat) (hj:j<l.length):∃ g,A=some ⟨g,0,none⟩∧∃ d,L.E H l[j] d∧∀ i v,d[i]? = some v→w.cell? ⟨g,j*L.k+i,none⟩=some v:=by
 obtain⟨cs,qm,h⟩:=h
 rcases h.2 with ⟨hv,hz⟩ | ⟨g,cap,cur,hv,_,hg,hc,hm,cJ,ht⟩
 ·omega
 cases hv
 obtain⟨d,hd,hi⟩:=qm.get j hj
 refine⟨g,rfl,d,hd,fun i v hv=>?_⟩
 have hx:=hi i v hv;rw[← ht,List.getElem?_take]at hx
 split at hx
 ·exact(cell_of_row w g _ cur t (0,0) hg).trans (by simpa using hx)
 cases hx
theorem OwnX.append {ops:Array Oper}{rest:List Oper}{o:Oper}{a:Act}{Q:Exit→Act→World→Prop}(rl:o.guard=none) (s x:Operand) (T:TypeId)
  (ho:o.op=.call { callee:=.builtin .append,args:=#[s,x],argTypes:=#[T,T] }) (hT:Tryz.prog.underlying T=some (.slice t)) {z:Value} {bytes:Nat} (dE:z.cells.size=L.k) (hby:bytes≤128)
  (hinfo:(Tryz.prog.info? t).map (fun i=>(i.zero,i.size,i.bytes))=some (some z,L.k,bytes))
  (hs:a.eval s=v) (xR:OwnX L t w base v H l) (A:Option Addr) (m c:Nat) (cs:List Value) (news:List α) (hx:a.eval x=.slice A m c) (hm:m=news.length)
  (hn:RowC L H cs news) (hr:Src w A cs) (xJ:l.length+news.length≤1099511627776) (hbase:base≤w.heap.size)
  (h:∀ v' w',OwnX L t w' base v' H (l++news)→w.grownBy w' v.ownBlock→At0 w v.ownBlock v'.ownBlock→wpList Tryz.prog ops Q rest (a.put o.dst v') w') :
  wpList Tryz.prog ops Q (o::rest) a w:=by
 subst hm;obtain⟨xs,iF,xR⟩:=xR;obtain⟨i0,ot,ko,tB,qn⟩:=info_parts hinfo
 refine wpList_plain rl fun K hK=>wX s x _ ho base t i0 _ L.k bytes hT ot ko tB qn dE L.pos v l.length xs hs xR A news.length c cs hx hn.len hr hn.oneCell
  (by simp only[maxLen];omega) (by have:=Nat.mul_le_mul xJ hby;omega) hbase fun v' w' h2 h3 h4=>hK _ _ (h v' w' ?_ h3 ?_)
 ·exact⟨xs++cs,iF.app hn,by simpa using h2⟩
 rcases h4 with h4 | h4
 ·exact .inl h4
 exact .inr ⟨_,h4,Nat.le_refl _⟩
end
def qZ:Lie Int where
 k:=1
 pos:=by omega
 E:=fun _ x c=>c=[.int .i64 x]
 len:=by rintro _ _ _ rfl;rfl
 one:=by rintro _ _ _ rfl;simp[Value.oneCell']
 mono:=fun _ h=>h
def wO:Lie (List UInt8) where
 k:=1
 pos:=by omega
 E:=fun H x c=>∃ A cc,c=[.slice A x.length cc]∧IsBytes H A cc x
 len:=by rintro _ _ _ ⟨_,_,rfl,_⟩;rfl
 one:=by rintro _ _ _ ⟨_,_,rfl,_⟩;simp[Value.oneCell']
 mono:=by rintro H K x c hl ⟨A,cc,e,h⟩;exact⟨A,cc,e,h.mono hl⟩
structure Sl where
 a:Option Addr
 c:Nat
structure Pty where
 cred:List UInt8
 ref:Int
 chain:List (List UInt8)
 kty:Int
 crv:Int
 alg:Int
 kid:List UInt8
 kx:List UInt8
 kd:List UInt8
 kk:List UInt8
 suites:List Int
 known:List (List UInt8)
 anchors:List (List UInt8)
structure PtyA where
 cred:Sl
 chain:Sl
 kid:Sl
 kx:Sl
 kd:Sl
 kk:Sl
 suites:Sl
 known:Sl
 anchors:Sl
abbrev ptC (p:Pty) (a:PtyA):Array Value :=
 #[.slice a.cred.a p.cred.length a.cred.c,.int .i64 p.ref,.slice a.chain.a p.chain.length a.chain.c,.int .i64 p.kty,.int .i64 p.crv,.int .i64 p.alg,.slice a.kid.a p.kid.length a.kid.c,.slice a.kx.a p.kx.length a.kx.c,.slice a.kd.a p.kd.length a.kd.c,.slice a.kk.a p.kk.length a.kk.c,.slice a.suites.a p.suites.length a.suites.c,.slice a.known.a p.known.length a.known.c,.slice a.anchors.a p.anchors.length a.anchors.c]
structure IsPty (H:Snap) (p:Pty) (a:PtyA):Prop where
 cred:IsBytes H a.cred.a a.cred.c p.cred
 chain:IsRow wO H a.chain.a a.chain.c p.chain
 kid:IsBytes H a.kid.a a.kid.c p.kid
 kx:IsBytes H a.kx.a a.kx.c p.kx
 kd:IsBytes H a.kd.a a.kd.c p.kd
 kk:IsBytes H a.kk.a a.kk.c p.kk
 suites:IsRow qZ H a.suites.a a.suites.c p.suites
 known:IsRow wO H a.known.a a.known.c p.known
 anchors:IsRow wO H a.anchors.a a.anchors.c p.anchors
theorem IsPty.mono {H K:Snap}{p:Pty}{a:PtyA}(h:IsPty H p a) (hl:H.le K):IsPty K p a:=⟨h.cred.mono hl,h.chain.mono hl,h.kid.mono hl,h.kx.mono hl,h.kd.mono hl,h.kk.mono hl,h.suites.mono hl,h.known.mono hl,h.anchors.mono hl⟩
def rX (l:List (List UInt8)):Prop:=l.length≤1099511∧∀ b∈l,b.length≤1099511
structure Pty.Small (p:Pty):Prop where
 cred:p.cred.length≤1099511
 chain:rX p.chain
 kid:p.kid.length≤1099511
 kx:p.kx.length≤1099511
 kd:p.kd.length≤1099511
 kk:p.kk.length≤1099511
 suites:p.suites.length≤1099511
 known:rX p.known
 anchors:rX p.anchors
structure Rn where
 role:Int
 phase:Int
 method:Int
 suite:Int
 p:Pty
 mine:List UInt8
 other:List UInt8
 priv:List UInt8
 gx:List UInt8
 gy:List UInt8
 h1:List UInt8
 th:List UInt8
 prk:List UInt8
 peer:List UInt8
 out:List UInt8
 heard:List UInt8
 sent:List UInt8
 due:Int
 count:Int
 refused:List Int
structure RnA where
 p:PtyA
 mine:Sl
 other:Sl
 priv:Sl
 gx:Sl
 gy:Sl
 h1:Sl
 th:Sl
 prk:Sl
 peer:Sl
 out:Sl
 heard:Sl
 sent:Sl
 refused:Sl
abbrev rnC (r:Rn) (a:RnA):Array Value :=
 #[.int .i64 r.role,.int .i64 r.phase,.int .i64 r.method,.int .i64 r.suite,.slice a.p.cred.a r.p.cred.length a.p.cred.c,.int .i64 r.p.ref,.slice a.p.chain.a r.p.chain.length a.p.chain.c,.int .i64 r.p.kty,.int .i64 r.p.crv,.int .i64 r.p.alg,.slice a.p.kid.a r.p.kid.length a.p.kid.c,.slice a.p.kx.a r.p.kx.length a.p.kx.c,.slice a.p.kd.a r.p.kd.length a.p.kd.c,.slice a.p.kk.a r.p.kk.length a.p.kk.c,.slice a.p.suites.a r.p.suites.length a.p.suites.c,.slice a.p.known.a r.p.known.length a.p.known.c,.slice a.p.anchors.a r.p.anchors.length a.p.anchors.c,.slice a.mine.a r.mine.length a.mine.c,.slice a.other.a r.other.length a.other.c,.slice a.priv.a r.priv.length a.priv.c,.slice a.gx.a r.gx.length a.gx.c,.slice a.gy.a r.gy.length a.gy.c,.slice a.h1.a r.h1.length a.h1.c,.slice a.th.a r.th.length a.th.c,.slice a.prk.a r.prk.length a.prk.c,.slice a.peer.a r.peer.length a.peer.c,.slice a.out.a r.out.length a.out.c,.slice a.heard.a r.heard.length a.heard.c,.slice a.sent.a r.sent.length a.sent.c,.int .i64 r.due,.int .i64 r.count,.slice a.refused.a r.refused.length a.refused.c]
structure IsRn (H:Snap) (r:Rn) (a:RnA):Prop where
 p:IsPty H r.p a.p
 mine:IsBytes H a.mine.a a.mine.c r.mine
 other:IsBytes H a.other.a a.other.c r.other
 priv:IsBytes H a.priv.a a.priv.c r.priv
 gx:IsBytes H a.gx.a a.gx.c r.gx
 gy:IsBytes H a.gy.a a.gy.c r.gy
 h1:IsBytes H a.h1.a a.h1.c r.h1
 th:IsBytes H a.th.a a.th.c r.th
 prk:IsBytes H a.prk.a a.prk.c r.prk
 peer:IsBytes H a.peer.a a.peer.c r.peer
 out:IsBytes H a.out.a a.out.c r.out
 heard:IsBytes H a.heard.a a.heard.c r.heard
 sent:IsBytes H a.sent.a a.sent.c r.sent
 refused:IsRow qZ H a.refused.a a.refused.c r.refused
theorem IsRn.mono {H K:Snap}{r:Rn}{a:RnA}(h:IsRn H r a) (hl:H.le K):IsRn K r a:=⟨h.p.mono hl,h.mine.mono hl,h.other.mono hl,h.priv.mono hl,h.gx.mono hl,h.gy.mono hl,h.h1.mono hl,h.th.mono hl,h.prk.mono hl,h.peer.mono hl,h.out.mono hl,h.heard.mono hl,h.sent.mono hl,h.refused.mono hl⟩
structure Rn.Small (r:Rn):Prop where
 p:r.p.Small
 mine:r.mine.length≤1099511
 other:r.other.length≤1099511
 priv:r.priv.length≤1099511
 gx:r.gx.length≤1099511
 gy:r.gy.length≤1099511
 h1:r.h1.length≤1099511
 th:r.th.length≤1099511
 prk:r.prk.length≤1099511
 peer:r.peer.length≤1099511
 out:r.out.length≤1099511
 heard:r.heard.length≤1099511
 sent:r.sent.length≤1099511
 refused:r.refused.length≤1099511
theorem qk (r:Rn) (a:RnA):(rnC r a).size=32:=rfl
theorem lr:(Tryz.prog.info? 22).map (fun i=>(i.zero,i.size,i.bytes))=some (some (.slice none 0 0),1,24):=by kernel_rfl
theorem tY {wr:World}{Hr:Snap}(hH:Holds wr Hr) {r0 r:Option Nat}(h0:∀ q,r0=some q→Hr q=none) (h:At0 wr r0 r):∀ q,r=some q→Hr q=none:=fun q hq=>by
 rcases h with h | ⟨g,h1,h2⟩
 ·exact h0 q (by rw[← h,hq])
 rw[hq]at h1;injection h1 with h1;subst h1;exact hH.none_of_ge h2
theorem Grows.snap3 {w w':World}{H H' H'':Snap}{A:Option Addr}(h:Grows w H w' H') (hl:H'.le H'') (hh:Holds w' H'') (hf:∀ b o,H'' b=some o→H' b=some o∨A.map (·.block)=some b)
  (hA:∀ q,A.map (·.block)=some q→w.heap.size≤q):Grows w H w' H'' :=
 ⟨h.below,h.le.trans hl,hh,fun b o hb=>by
  rcases hf b o hb with h1 | h1
  ·exact h.fresh b o h1
  exact .inr (hA _ h1)⟩
theorem rH {A:Option Addr}{n c:Nat}{q:Nat}(h:A.map (·.block)=some q):(Value.slice A n c).ownBlock=some q:=by
 cases A with
 | none=>cases h
 | some p=>exact h
theorem OwnX.data {α:Type}{L:Lie α}{t:TypeId}{w wr:World}{H Hr:Snap}{A:Option Addr}{m c:Nat}{l:List α}(hG:Grows w H wr Hr) (hO:OwnX L t wr w.heap.size (.slice A m c) Hr l) (h0:∀ q,(Value.slice A m c).ownBlock=some q→Hr q=none) :
  ∃ H',Grows w H wr H'∧Hr.le H'∧m=l.length∧IsRow L H' A c l:=by
 obtain⟨H',hl,hh,hf,hm,hr⟩:=hO.snap hG.holds (fun q hq=>h0 q (rH hq))
 exact⟨H',hG.snap3 hl hh hf (fun q hq=>(hO.lt q (rH hq)).1),hl,hm,hr⟩
theorem vW {A:Option Addr}{c:Nat}{l:List UInt8}{n:Nat}(hn:n=l.length) (hl:l.length≤1099511627) (w:World) (hS:Src w A (l.map zm)) :
  Calls Tryz.prog 20 #[.slice A n c] w fun e w'=>∃ r,e=.returned r∧Fresh w l r w':=by
 have HN:=Hh (And.intro hn hl);clear hn hl;go_enter Tryz.func20,Tryz.ntmps20
 go_wp2_with (at_builtin;refine zn ?_)
 refine zw rfl (.const (.slice none 0 0)) (.tmp 3) rfl w.heap.size (.slice none 0 0) [] rfl (OwnB.nil _ _) A n c l rfl HN.out.1 hS (by have:=HN.out.2;simp;omega) (Nat.le_refl _) fun v1 w1 zK hg1 hat1=>?_
 rw[List.nil_append]at zK;have zd:=xj (by simpa [Value.ownBlock] using hg1);clear hg1 hat1 hS;go_wp2_with fail
 go_ret
 exact⟨_,rfl,zK,zd⟩
theorem ze {H:Snap}{A:Option Addr}{c:Nat}{l:List UInt8}{n:Nat}(hn:n=l.length) (hl:l.length≤1099511627) (hb:IsBytes H A c l) (w:World) (hH:Holds w H) :
  Calls Tryz.prog 20 #[.slice A n c] w fun e w'=>∃ A' c' H',e=.returned (.slice A' n c')∧Grows w H w' H'∧IsBytes H' A' c' l:=by
 refine(vW (c:=c) hn hl w (Src.of_row hb.row hH)).mono ?_
 rintro e w1 ⟨r,rfl,hf⟩
 obtain⟨A1,c1,rfl,_⟩:=hf.own.form;obtain⟨H1,wu,zd,_⟩:=Fresh.snapB hH hf
 exact⟨A1,c1,H1,by rw[hn],wu,zd⟩
def Ys (w:World) (H:Snap) (l:List (List UInt8)) (e:Ending) (w':World):Prop:=∃ A c H',e=.returned (.slice A l.length c)∧Grows w H w' H'∧IsRow wO H' A c l
theorem uu {H:Snap}{A:Option Addr}{c:Nat}{l:List (List UInt8)}{n:Nat}(hn:n=l.length) (hs:rX l) (hr:IsRow wO H A c l) (w:World) (hH:Holds w H) :
  Calls Tryz.prog 36 #[.slice A n c] w (Ys w H l):=by
 have HN:=Hh (And.intro hn hs);have HR:=Hh hr;have iq:=Grows.refl hH;clear hn hs hr hH;go_enter Tryz.func36,Tryz.ntmps36
 go_wp2_with fail
 go_loopw [3,8] (fun v3 v8 wr=>∃ (i:Nat) (Hr:Snap) (VA:Option Addr) (vc vn:Nat),v8=.int .i64 (i:Int)∧v3=.slice VA vn vc∧vn=i∧Hid (i≤n)∧Grows w H wr Hr∧OwnX wO 22 wr w.heap.size (.slice VA vn vc) Hr (l.take i)∧(∀ q,(Value.slice VA vn vc).ownBlock=some q→Hr q=none)) (fun _ v8 _=>n-(intOf v8).toNat)
 case atStart=>exact⟨0,H,none,0,0,rfl,rfl,rfl,Nat.zero_le _,iq,OwnX.nil _ _ _ _ _,by intro q hq;simp[Value.ownBlock]at hq⟩
 case round =>
 clear iq;obtain⟨i,Hr,VA,vc,vn,rfl,rfl,rfl,HI,hG,hO,vz⟩:=hrel
 by_cases z6:(vn:Int)<(n:Int)
 ·have pT:vn<l.length:=by have:=HN.out.1;omega
  obtain⟨gb,go,Si,nr⟩:=HR.out.at_ (by omega);obtain⟨x,⟨ba,bc,rfl,hb⟩,hc⟩:=nr vn pT;have q0:=hG.holds.cell (hG.le.cell (hc 0 _ rfl));rw[show go+(vn*wO.k+0)=go+vn from by show go+(vn*1+0)=_;omega]at q0;have TZ:Hid (l.take (vn+1)=l.take vn++[l[vn]]):=by rw[Hid,List.take_succ_eq_append_getElem pT]
  have gz:Hid (l[vn].length≤1099511):=HN.out.2.2 _ (List.getElem_mem _);have rM:Hid ((l.take vn).length=vn):=by rw[Hid,List.length_take];omega
  have il:Hid (vn+1≤n∧vn<1099511):=by have:=HN.out.2.1;rw[Hid];omega
  generalize l[vn]=x at *
  obtain⟨xn,ay⟩:∃ k,x.length=k:=⟨_,rfl⟩
  rw[ay]at q0;have Td:=Hh ay;have HB:=Hh (hb.mono hG.le);have XF:(vn:Int)+1≤9223372036854775807:=by have:=il.out;omega
  obtain⟨ls,U7⟩:∃ ls,l.take vn=ls:=⟨_,rfl⟩
  rw[U7]at hO TZ rM;clear pT nr hc hb ay U7;subst Si;go_wp2_with fail
  refine(ze Td.out.symm (by have:=gz.out;omega) HB.out _ hG.holds).mono ?_
  rintro e w1 ⟨A1,c1,H1,rfl,wu,zd⟩
  have yw:=hG.trans wu;have vO:=(hO.below wu.below).mono wu.le;have kZ:∀ q,(Value.slice VA vn vc).ownBlock=some q→H1 q=none:=fun q hq=>wu.none (vz q hq) (hO.lt q hq).2
  have xp:=yw.alloc (.cells #[.slice A1 xn c1] 22);have wE:=vO.alloc (.cells #[.slice A1 xn c1] 22);clear hG hO vz wu yw vO q0;go_wp2_with (at_builtin;refine zn ?_)
  refine OwnX.append rfl (.tmp 12) (.tmp 15) 23 rfl Tryz.underlying23 rfl (by omega) lr rfl wE _ 1 _ [.slice A1 xn c1] [x] rfl rfl (RowC.one ⟨A1,c1,by rw[Td.out],zd⟩) (Src.new _ _ _ _ rfl _ rfl) (by have:=rM.out;have:=il.out;simp only[List.length_singleton];omega) xp.size fun v' w8 fV hg8 hat8=>?_
  obtain⟨VA',vc',rfl,_⟩:=fV.form;have ow:=tY xp.holds kZ hat8;have ur:=xp.grownRow kZ (fun q hq=>(wE.lt q hq).1) hg8;have xJ:(ls++[x]).length=vn+1:=by rw[List.length_append,rM.out];rfl
  rw[xJ]at fV ow⊢;rw[← TZ.out]at fV;clear wE xp hg8 hat8 xJ kZ;go_wp2_with fail
  go_roundw
  case rel=>exact⟨vn+1,H1,VA',vc',_,by go_num,rfl,rfl,il.out.1,ur,fV,ow⟩
  case measure=>have:=il.out;simp[intOf];omega
 have hid:decide ((vn:Int)<(n:Int))=false:=decide_eq_false z6;have T7:vn=n:=by have:=HI.out;omega
 subst T7;rw[List.take_of_length_le (by have:=HN.out.1;omega)]at hO;obtain⟨H',YW,Sp,hm,SU⟩:=hO.data hG vz;have WF:=Hh hm;clear hm hO hG vz Sp HI;go_wp2_with fail
 go_ret
 exact⟨VA,vc,H',by rw[← WF.out];rfl,YW,SU⟩
theorem OwnX.kl {α:Type}{L:Lie α}{t:TypeId}{w w':World}{base N:Nat}{v:Value}{H:Snap}{l:List α}(h:OwnX L t w base v H l) (hg:w.grownBy w' (some N)) (hl:∀ q,v.ownBlock=some q→q<N):OwnX L t w' base v H l:=h.kept hg (by cases hv:v.ownBlock with | none=>exact .inl rfl | some q=>exact .inr (fun e=>by injection e with e;exact Nat.lt_irrefl _ (e ▸ hl q hv)))
end Go.Proofs.YtnfoilblmhbobaaGreatDoor
