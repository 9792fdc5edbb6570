/- squeezed. Predicates on memory: a partial he -/
import Derived.WalkKit
import Derived.Outline
import Derived.WalkSpells
import Derived.WalkLawsBesides
import Derived.Lib.Hide
import Derived.Maps.AppendAt
import Derived.Deep.AppendLies
import Derived.Test.YtkmlnjociijpgaaGreatDoorChecked
import Derived.Deep.MidRow
import Derived.Deep.RegionHeld
set_option linter.unusedVariables false
set_option linter.unusedSimpArgs false
set_option maxRecDepth 100000
namespace Go.Proofs.YtkmlnjociijpgaaGreatDoor
open Go.RowKit
theorem ja1{P:Prop}(h:P:=by
 have h1:=mj e he hb;have h0:=(mem_ready.1 hr).1;rw[heq]at h1
 rcases Nat.lt_or_ge i L.size with h' | h'
 ·simp[h']at h0 h1;rw[h0]at h1;cases h1
 simp[Array.getElem?_eq_none h']at h1):P:=h
theorem ja8{P:Prop}(h:P:=by
 have mM:=run_loadVar_row (P:=Tryz.prog) w g t ty cs (0,0) d hg hu (by cases d <;> first | exact hd | rfl | cases hd) hi
 simp[asAddr,mM,Result.andThen]):P:=h
theorem jbb{P:Prop}(h:P:=by
 intro k ok hk SK hun Ov
 refine hfree k ok hk SK ?_ Ov
 by_cases wv:j=k
 ·subst wv;exact iB
 rw[getD_set_ne true wv]at hun;exact hun):P:=h
theorem jbO{P:Prop}(h:P:=by
 rcases h4 with h4 | h4
 ·exact .inl h4
 exact .inr ⟨_,h4,Nat.le_refl _⟩):P:=h
theorem jbQ{P:Prop}(h:P:=by exact wpOp_step hi fun K hK=>h K fun a w hS hW=>hK a w ⟨hS,hW hS⟩):P:=h
theorem jbR{P:Prop}(h:P:=by
 rw[← ht,List.getElem?_take]at hj
 split at hj
 ·simp[Snap.cell?,Snap.with]
  simpa using hj
 cases hj):P:=h
theorem jbW{P:Prop}(h:P:=by
 obtain⟨cs,hc,h⟩:=h
 rcases h.2 with ⟨rfl,hz⟩ | ⟨g,cap,cur,rfl,_,_,hn,hm,_⟩
 ·exact⟨none,0,by rw[hz],by omega,by omega⟩
 exact⟨_,cap,rfl,hn,by simpa [maxLen] using hm⟩):P:=h
theorem jca{P:Prop}(h:P:=by
 refine⟨fun h=>(by rw[h]at hr;cases hr),fun j hj=>?_⟩
 by_cases qe:j=i
 ·exact jeK
 exact jeI):P:=h
theorem jcm{P:Prop}(h:P:=by
 unfold Snap.with at hb
 split at hb
 ·subst b;exact .inr rfl
 exact .inl hb):P:=h
theorem jcz{P:Prop}(h:P:=by
 rw[Array.setIfInBounds_comm _ _ qe]
 exact hW):P:=h
theorem jcG{P:Prop}(h:P:=by
 refine h.kept (vW hb none) ?_
 cases hv:v.ownBlock with
 | none=>exact .inl rfl
 | some g=>exact .inr (by simp)):P:=h
theorem jcL{P:Prop}(h:P:=by
 subst qe
 exact hy.wpOp hi (fun ht=>hS (hC ht).2.2) ⟨fun h=>hS (by rwa [getD_set_ne true WU]at h),H⟩):P:=h
theorem jcS{P:Prop}(h:P:=by
 cases hb:H a.block with
 | none=>rw[hb]at hc;cases hc
 | some o=>rw[hb]at hc;rw[h _ _ hb];exact hc):P:=h
theorem jdb{P:Prop}(h:P:=by
 cases n with
 | zero=>exact⟨hr,h⟩
 | succ n=>exact⟨fun _=>h,by rw[hr];simp⟩):P:=h
theorem jdc{P:Prop}(h:P:=by
 subst hk
 exact wpOp_step hj fun K hK=>h' K fun a w hS hW=>hK a w ⟨hS,hW hS⟩):P:=h
theorem jdm{P:Prop}(h:P:=by obtain⟨cs,hc,h⟩:=h;exact⟨cs,hc,World.ownsRow.kept h hg xp⟩):P:=h
theorem jdC{P:Prop}(h:P:=by rw[hc,Nat.mul_one];exact List.take_of_length_le (by simp)):P:=h
theorem jdF{P:Prop}(h:P:=by subst qe;exact hy.wpOp hi trivial ⟨fun _=>trivial,H⟩):P:=h
theorem jey{P:Prop}(h:P:=by
 refine⟨fun h0=>(by rw[hr]at h0;cases h0),fun j hj=>?_⟩
 rw[hr]at hj;have qe:j=i:=by simpa using hj
 subst qe
 exact jbQ):P:=h
theorem jeI{P:Prop}(h:P:=by
 have:=ready_mono hj qe;rw[H.1]at this
 cases this):P:=h
theorem jeK{P:Prop}(h:P:=by subst qe;exact hy.wpOp hi hS ⟨fun _=>hS,H⟩):P:=h
theorem jfF{P:Prop}(h:P:=by have h2:=wpOp_putIf Ya (hfree j oj Ya qe iB Y9) (fun cs b=>hsel i oi cs b hi) (fun cs b=>hsel j oj cs b Ya) hQ hy h1;exact h2):P:=h
def zZ (p:Prop):Prop:=p
theorem zh {p:Prop}(h:zZ p):p:=h
abbrev Snap:=Nat→Option Obj
def Snap.le (H K:Snap):Prop:=∀ b o,H b=some o→K b=some o
def Snap.cell? (H:Snap) (a:Addr):Option Value :=
 match H a.block with
 | some (.cells c _ _)=>if a.spot.isSome then none else c[a.off]?
 | _=>none
def Holds (w:World) (H:Snap):Prop:=∀ b o,H b=some o→w.heap[b]? = some o
theorem Snap.le.refl (H:Snap):H.le H:=fun _ _ h=>h
theorem Snap.le.trans {H K L:Snap}(h:H.le K) (k:K.le L):H.le L:=fun b o x=>k b o (h b o x)
theorem Snap.le.cell {H K:Snap}(h:H.le K) {a:Addr}{v:Value}(hc:H.cell? a=some v):K.cell? a=some v:=by
 unfold Snap.cell? at hc⊢
 exact jcS
theorem Holds.cell {w:World}{H:Snap}(h:Holds w H) {a:Addr}{v:Value}(hc:H.cell? a=some v):w.cell? a=some v:=by
 unfold Snap.cell? at hc
 unfold World.cell?
 exact jcS
theorem Holds.lt {w:World}{H:Snap}(h:Holds w H) {b:Nat}{o:Obj}(hb:H b=some o):b<w.heap.size:=by
 have:=h b o hb
 exact(Array.getElem?_eq_some_iff.1 this).1
theorem Holds.none_of_ge {w:World}{H:Snap}(h:Holds w H) {b:Nat}(hb:w.heap.size≤b):H b=none:=by
 cases hH:H b with
 | none=>rfl
 | some o=>have:=h.lt hH;omega
theorem Holds.mono {w:World}{H K:Snap}(h:Holds w K) (hl:H.le K):Holds w H:=fun b o hb=>h b o (hl b o hb)
theorem Holds.below {w w':World}{H:Snap}{B:Nat}(h:Holds w H) (hb:Below B w w') (hB:w.heap.size≤B):Holds w' H :=
 fun b o hH=>(hb.block b (by have:=h.lt hH;omega)).trans (h b o hH)
theorem Holds.grown {w w':World}{H:Snap}{row:Option Nat}(h:Holds w H) (hg:w.grownBy w' row) (hr:∀ g,row=some g→H g=none):Holds w' H :=
 fun b o hH=>(hg.block b (h.lt hH) (fun e=>by rw[hr b e.symm]at hH;cases hH)).trans (h b o hH)
theorem Holds.alloc {w:World}{H:Snap}(h:Holds w H) (o:Obj):Holds (w.alloc o) H :=
 fun b x hH=>(Below.heap_alloc w o b (h.lt hH)).trans (h b x hH)
theorem Holds.drew {w:World}{H:Snap}(h:Holds w H):Holds w.drew H:=h
theorem Holds.drewN {w:World}{H:Snap}(h:Holds w H) (n:Nat):Holds (w.drewN n) H:=h
def Snap.with (H:Snap) (g:Nat) (o:Obj):Snap:=fun b=>if b=g then some o else H b
theorem Snap.le_with {H:Snap}{g:Nat}{o:Obj}(h:H g=none):H.le (H.with g o):=fun b x hb=>by
 unfold Snap.with
 split
 ·subst b;rw[h]at hb;cases hb
 exact hb
theorem Holds.with {w:World}{H:Snap}(h:Holds w H) {g:Nat}{o:Obj}(hg:w.heap[g]? = some o):Holds w (H.with g o):=fun b x hb=>by
 unfold Snap.with at hb
 split at hb
 ·subst b;rw[hg];exact hb
 exact h b x hb
structure Grows (w:World) (H:Snap) (w':World) (H':Snap):Prop where
 below:Below w.heap.size w w'
 le:H.le H'
 holds:Holds w' H'
 fresh:∀ b o,H' b=some o→H b=some o∨w.heap.size≤b
theorem Grows.refl {w:World}{H:Snap}(h:Holds w H):Grows w H w H:=⟨Below.refl _ _,Snap.le.refl _,h,fun _ _ hb=>.inl hb⟩
theorem Grows.trans {a b c:World}{H K L:Snap}(h:Grows a H b K) (k:Grows b K c L):Grows a H c L :=
 ⟨h.below.trans (k.below.mono h.below.size),h.le.trans k.le,k.holds,fun x o hx=>by
  rcases k.fresh x o hx with hx | hx
  ·exact h.fresh x o hx
  exact .inr (Nat.le_trans h.below.size hx)⟩
theorem Grows.none {w w':World}{H H':Snap}(h:Grows w H w' H') {g:Nat}(hg:H g=none) (hl:g<w.heap.size):H' g=none:=by
 cases hH:H' g with
 | none=>rfl
 | some o =>
 rcases h.fresh g o hH with hx | hx
 ·rw[hg]at hx;cases hx
 omega
theorem Grows.of_below {w w':World}{H:Snap}(h:Holds w H) (hb:Below w.heap.size w w'):Grows w H w' H :=
 ⟨hb,Snap.le.refl _,h.below hb (Nat.le_refl _),fun _ _ hb=>.inl hb⟩
abbrev zu (u:UInt8):Value:=.int .u8 (u.toNat:Int)
def Qz (H:Snap) (b off:Nat) (xs:List Value):Prop:=∀ j v,xs[j]? = some v→H.cell? ⟨b,off+j,none⟩=some v
def Row (H:Snap) (A:Option Addr) (xs:List Value):Prop:=xs≠[]→∃ b off,A=some ⟨b,off,none⟩∧Qz H b off xs
theorem Row.mono {H K:Snap}{A:Option Addr}{xs:List Value}(h:Row H A xs) (hl:H.le K):Row K A xs:=fun hx=>by
 obtain⟨b,off,e,hc⟩:=h hx
 exact⟨b,off,e,fun j v hj=>hl.cell (hc j v hj)⟩
theorem Row.nil (H:Snap) (A:Option Addr):Row H A []:=fun h=>absurd rfl h
structure IsBytes (H:Snap) (A:Option Addr) (c:Nat) (l:List UInt8):Prop where
 le:l.length≤c
 max:c≤9223372036854775807
 row:Row H A (l.map zu)
theorem IsBytes.mono {H K:Snap}{A:Option Addr}{c:Nat}{l:List UInt8}(h:IsBytes H A c l) (hl:H.le K):IsBytes K A c l:=⟨h.le,h.max,h.row.mono hl⟩
theorem IsBytes.nil (H:Snap):IsBytes H none 0 []:=⟨by simp,by omega,Row.nil _ _⟩
theorem IsBytes.at_ {H:Snap}{A:Option Addr}{c:Nat}{l:List UInt8}(h:IsBytes H A c l) (hl:0<l.length) :
  ∃ b off,A=some ⟨b,off,none⟩∧∀ j (hj:j<l.length),H.cell? ⟨b,off+j,none⟩=some (zu l[j]):=by
 obtain⟨b,off,e,hc⟩:=h.row (by intro e;rw[List.map_eq_nil_iff]at e;subst e;simp at hl)
 exact⟨b,off,e,fun j hj=>hc j _ (by simp[hj])⟩
inductive Itm where
 | mk (kind:Int) (n:Nat) (bytes:List UInt8) (items:List Itm)
def Itm.kind:Itm→Int | .mk k _ _ _=>k
def Itm.n:Itm→Nat | .mk _ n _ _=>n
def Itm.bytes:Itm→List UInt8 | .mk _ _ b _=>b
def Itm.items:Itm→List Itm | .mk _ _ _ l=>l
mutual
def IsItem (H:Snap) (ba:Option Addr) (bc:Nat) (ia:Option Addr) (ic:Nat):Itm→Prop
 | .mk k n bs l=>(-9223372036854775808≤k∧k≤9223372036854775807∧n<18446744073709551616∧l.length≤ic∧ic≤9223372036854775807)∧IsBytes H ba bc bs∧
   (0<l.length→∃ b off,ia=some ⟨b,off,none⟩∧IsElems H b off l)
def IsElems (H:Snap) (b off:Nat):List Itm→Prop
 | []=>True
 | x::l=>(∃ ba bc ia ic,H.cell? ⟨b,off,none⟩=some (.int .i64 x.kind)∧H.cell? ⟨b,off+1,none⟩=some (.int .u64 x.n)∧
   H.cell? ⟨b,off+2,none⟩=some (.slice ba x.bytes.length bc)∧H.cell? ⟨b,off+3,none⟩=some (.slice ia x.items.length ic)∧IsItem H ba bc ia ic x)∧IsElems H b (off+4) l
end
theorem IsElems.get {H:Snap}{b:Nat}:∀ {l:List Itm}{off:Nat},IsElems H b off l→∀ (k:Nat) (hk:k<l.length),
  ∃ ba bc ia ic,H.cell? ⟨b,off+k*4,none⟩=some (.int .i64 l[k].kind)∧H.cell? ⟨b,off+k*4+1,none⟩=some (.int .u64 l[k].n)∧
   H.cell? ⟨b,off+k*4+2,none⟩=some (.slice ba l[k].bytes.length bc)∧H.cell? ⟨b,off+k*4+3,none⟩=some (.slice ia l[k].items.length ic)∧IsItem H ba bc ia ic l[k]
 | [],_,_,k,hk=>by simp at hk
 | x::l,off,h,0,_=>by
  rw[IsElems]at h
  simpa using h.1
 | x::l,off,h,k+1,hk=>by
  rw[IsElems]at h;have:=h.2.get k (by simpa using hk)
  simp only[List.getElem_cons_succ]
  rw[show off+(k+1)*4=off+4+k*4 by omega]
  exact this
mutual
theorem IsItem.mono {H K:Snap}(hl:H.le K):∀ {x:Itm}{ba:Option Addr}{bc:Nat}{ia:Option Addr}{ic:Nat},IsItem H ba bc ia ic x→IsItem K ba bc ia ic x
 | .mk k n bs l,ba,bc,ia,ic,h=>by
  rw[IsItem]at h⊢
  refine⟨h.1,h.2.1.mono hl,fun h0=>?_⟩
  obtain⟨b,off,e,he⟩:=h.2.2 h0
  exact⟨b,off,e,IsElems.mono hl he⟩
theorem IsElems.mono {H K:Snap}(hl:H.le K):∀ {l:List Itm}{b off:Nat},IsElems H b off l→IsElems K b off l
 | [],_,_,_=>by rw[IsElems];trivial
 | x::l,b,off,h=>by
  rw[IsElems]at h⊢;obtain⟨⟨ba,bc,ia,ic,h0,h1,h2,h3,hx⟩,hr⟩:=h
  exact⟨⟨ba,bc,ia,ic,hl.cell h0,hl.cell h1,hl.cell h2,hl.cell h3,IsItem.mono hl hx⟩,IsElems.mono hl hr⟩
end
section
variable {H:Snap} {ba:Option Addr} {bc:Nat} {ia:Option Addr} {ic:Nat} {x:Itm}
theorem IsItem.bounds (h:IsItem H ba bc ia ic x) : -9223372036854775808≤x.kind∧x.kind≤9223372036854775807∧x.n<18446744073709551616∧x.bytes.length≤bc∧bc≤9223372036854775807∧x.items.length≤ic∧ic≤9223372036854775807:=by
 cases x
 rw[IsItem]at h
 exact⟨h.1.1,h.1.2.1,h.1.2.2.1,h.2.1.le,h.2.1.max,h.1.2.2.2.1,h.1.2.2.2.2⟩
theorem IsItem.bytes (h:IsItem H ba bc ia ic x):IsBytes H ba bc x.bytes:=by
 cases x
 rw[IsItem]at h
 exact h.2.1
theorem IsItem.items (h:IsItem H ba bc ia ic x) (h0:0<x.items.length):∃ b off,ia=some ⟨b,off,none⟩∧IsElems H b off x.items:=by
 cases x
 rw[IsItem]at h
 exact h.2.2 h0
end
abbrev rG (x:Itm) (ba:Option Addr) (bc:Nat) (ia:Option Addr) (ic:Nat):Value :=
 .agg #[.int .i64 x.kind,.int .u64 x.n,.slice ba x.bytes.length bc,.slice ia x.items.length ic]
structure ItemA (H:Snap) (k n:Int) (ba:Option Addr) (bl bc:Nat) (ia:Option Addr) (il ic:Nat) (x:Itm):Prop where
 kind:k=x.kind
 n_:n=(x.n:Int)
 bl_:bl=x.bytes.length
 il_:il=x.items.length
 is:IsItem H ba bc ia ic x
theorem IsItem.arg {H:Snap}{ba:Option Addr}{bc:Nat}{ia:Option Addr}{ic:Nat}{x:Itm}(h:IsItem H ba bc ia ic x):ItemA H x.kind x.n ba x.bytes.length bc ia x.items.length ic x:=⟨rfl,rfl,rfl,rfl,h⟩
def Fresh (w:World) (l:List UInt8) (r:Value) (w':World):Prop:=w'.ownsRow w.heap.size 5 1 r l.length (l.map zu)∧Below w.heap.size w w'
def Src (w:World) (A:Option Addr) (xs:List Value):Prop:=xs≠[]→∃ b off,A=some ⟨b,off,none⟩∧∀ j v,xs[j]? = some v→w.cell? ⟨b,off+j,none⟩=some v
theorem Src.of_row {w:World}{H:Snap}{A:Option Addr}{xs:List Value}(h:Row H A xs) (hw:Holds w H):Src w A xs:=fun hx=>by
 obtain⟨b,off,e,hc⟩:=h hx
 exact⟨b,off,e,fun j v hj=>hw.cell (hc j v hj)⟩
theorem Src.of_own {w:World}{base e size n:Nat}{A:Option Addr}{m c:Nat}{xs:List Value}(h:w.ownsRow base e size (.slice A m c) n xs):Src w A xs:=fun hx=>by
 rcases h.2 with ⟨hv,hn⟩ | ⟨g,cap,cur,hv,_⟩
 ·have h1:=h.1;rw[hn]at h1
  simp at h1
  exact absurd h1 hx
 cases hv
 refine⟨g,0,rfl,fun j v hj=>?_⟩
 have:=h.cells (g:=g) rfl j v hj;have C8:(⟨g,0,none⟩:Addr).add j=⟨g,0+j,none⟩:=by unfold Addr.add;split <;> simp_all
 rw[C8]at this
 exact this
theorem Src.lit (w:World) (cs:Array Value) (e:TypeId):Src (w.alloc (.cells cs e)) (some ⟨w.heap.size,0,none⟩) cs.toList:=fun _ =>
 ⟨w.heap.size,0,rfl,fun j v hj=>by
  rw[cell_of_row _ w.heap.size (0+j) cs e (0,0) (heap_alloc_new w _)]
  simpa using hj⟩
theorem Src.new (w:World) (cs:Array Value) (e:TypeId) (b:Nat) (hb:b=w.heap.size) (xs:List Value) (hx:cs.toList=xs):Src (w.alloc (.cells cs e)) (some ⟨b,0,none⟩) xs:=by
 subst hb hx
 exact Src.lit w cs e
theorem Src.nil (w:World) (A:Option Addr):Src w A []:=fun h=>absurd rfl h
theorem Src.keep {w w':World}{A:Option Addr}{xs:List Value}(h:Src w A xs) (hk:∀ p:Addr,p.block<w.heap.size→w'.cell? p=w.cell? p):Src w' A xs:=fun hx=>by
 obtain⟨b,off,e,hc⟩:=h hx
 exact⟨b,off,e,fun j v hj=>(hk _ (World.block_lt_of_cell? w _ (hc j v hj))).trans (hc j v hj)⟩
theorem Src.alloc {w:World}{A:Option Addr}{xs:List Value}(h:Src w A xs) (o:Obj):Src (w.alloc o) A xs:=h.keep fun p hp=>World.cell?_alloc_lt w o p hp
theorem Src.below {w w':World}{A:Option Addr}{xs:List Value}(h:Src w A xs) (hb:Below w.heap.size w w'):Src w' A xs:=h.keep fun _ hp=>hb.cell hp
theorem zX (w:World) (o:Obj):Below w.heap.size w (w.alloc o):=(Below.refl _ _).alloc (Nat.le_refl _) _
theorem td (b off j:Nat):(⟨b,off,none⟩:Addr).add j=⟨b,off+j,none⟩:=by unfold Addr.add;split <;> simp_all
def Blk (w:World) (g:Nat) (t:TypeId) (cs:Array Value):Prop:=w.heap[g]? = some (.cells cs t (0,0))
section
variable {w w':World} {g:Nat} {t:TypeId} {cs:Array Value}
theorem Blk.lt (h:Blk w g t cs):g<w.heap.size:=(Array.getElem?_eq_some_iff.1 h).1
theorem Blk.cell (h:Blk w g t cs) (i:Nat) {v:Value}(hv:cs[i]? = some v):w.cell? ⟨g,i,none⟩=some v:=(cell_of_row w g i cs t (0,0) h).trans hv
theorem Blk.frozen (h:Blk w g t cs) (i:Nat):w.frozen? ⟨g,i,none⟩=false:=by unfold Blk at h;simp[World.frozen?,h]
theorem Blk.new (w:World) (t:TypeId) (cs:Array Value):Blk (w.alloc (.cells cs t)) w.heap.size t cs:=heap_alloc_new w _
theorem Blk.drew (h:Blk w g t cs):Blk w.drew g t cs:=h
theorem Blk.below (h:Blk w g t cs) (hb:Below w.heap.size w w'):Blk w' g t cs:=(hb.block g h.lt).trans h
theorem Blk.alloc (h:Blk w g t cs) (o:Obj):Blk (w.alloc o) g t cs:=h.below (zX w o)
theorem Blk.grown {row:Option Nat}(h:Blk w g t cs) (hb:w.grownBy w' row) (hg:row≠some g):Blk w' g t cs:=(hb.block g h.lt (Ne.symm hg)).trans h
theorem Blk.set_ (h:Blk w g t cs) (i:Nat) (u:Value):Blk (w.setCell ⟨g,i,none⟩ u) g t (cs.setIfInBounds i u):=by
 unfold Blk at h⊢
 simp[World.setCell,Array.getElem?_modify,h]
end
theorem TZ {w0 w:World}{g:Nat}(h:w0.grownBy w (some g)) {p:Addr}(hp:p.block=g∨w0.heap.size≤p.block) (u:Value):w0.grownBy (w.setCell p u) (some g) :=
 ⟨h.os,h.tape,h.output,by simpa [World.setCell] using h.size,fun i hi xp=>(Below.heap_setCell w p u i (by
  rintro rfl
  rcases hp with hp | hp
  ·exact xp (by rw[hp])
  omega)).trans (h.block i hi xp)⟩
theorem sR {w0 w:World}{r:Option Nat}(h:w0.grownBy w r):w0.grownBy w.drew r:=⟨h.os,h.tape,h.output,h.size,h.block⟩
def At0 (w0:World) (r0 r:Option Nat):Prop:=r=r0∨∃ g,r=some g∧w0.heap.size≤g
theorem yN (w:World) (r:Option Nat):w.grownBy w r:=⟨rfl,rfl,rfl,Nat.le_refl _,fun _ _ _=>rfl⟩
theorem zG {w0 w w':World}{r0 r:Option Nat}(h:w0.grownBy w r0) (k:w.grownBy w' r) (hr:At0 w0 r0 r):w0.grownBy w' r0 :=
 ⟨k.os.trans h.os,k.tape.trans h.tape,k.output.trans h.output,Nat.le_trans h.size k.size,fun i hi xp =>
  (k.block i (Nat.lt_of_lt_of_le hi h.size) (fun e=>by
   rcases hr with rfl | ⟨g,rfl,hg⟩
   ·exact xp e
   injection e with e;omega)).trans (h.block i hi xp)⟩
theorem vW {w w':World}(h:Below w.heap.size w w') (r:Option Nat):w.grownBy w' r:=⟨h.os,h.tape,h.output,h.size,fun i hi _=>h.block i hi⟩
theorem zp {w0 w w':World}{r:Option Nat}(h:Below w0.heap.size w0 w) (k:w.grownBy w' r) (hr:∀ g,r=some g→w0.heap.size≤g):Below w0.heap.size w0 w' :=
 h.grown k h.size hr
theorem rz {w0 w:World}{r:Option Nat}(h:w0.grownBy w r) (o:Obj):w0.grownBy (w.alloc o) r :=
 ⟨h.os,h.tape,h.output,Nat.le_trans h.size (by simp),fun i hi xp=>(Below.heap_alloc w o i (Nat.lt_of_lt_of_le hi h.size)).trans (h.block i hi xp)⟩
theorem s9 {w0 w w':World}{r:Option Nat}(h:w0.grownBy w r) (hb:Below w.heap.size w w'):w0.grownBy w' r :=
 ⟨hb.os.trans h.os,hb.tape.trans h.tape,hb.output.trans h.output,Nat.le_trans h.size hb.size,fun i hi xp=>(hb.block i (Nat.lt_of_lt_of_le hi h.size)).trans (h.block i hi xp)⟩
theorem yW {w w':World}(h:w.grownBy w' none):Below w.heap.size w w':=⟨h.os,h.tape,h.output,h.size,fun k hk=>h.block k hk (by simp)⟩
theorem fV {P:Program}(w:World) (base:Nat) (t ty e:TypeId) (i:TypeInfo) (z:Value) (size bytes:Nat) (ht:P.underlying t=some (.slice e)) (hi:P.info? e=some i) (hz:i.zero=some z)
  (hsize:i.size=size) (hby:i.bytes=bytes) (Mx:z.cells.size=size) (Ox:0<size)
  (v:Value) (n:Nat) (xs:List Value) (tW:w.ownsRow base e size v n xs)
  (A:Option Addr) (m c:Nat) (news:List Value) (hl:news.length=m*size) (hr:Src w A news) (h1:∀ u∈news,u.oneCell'=true)
  (h63:n+m≤maxLen) (hbytes:(n+m)*bytes≤140737488355328) (qd:base≤w.heap.size) :
  ∃ v' w',(Builtin.append_ #[t,t] ty #[v,.slice A m c]).run P w=.ok v' w'∧w'.ownsRow base e size v' (n+m) (xs++news)∧w.grownBy w' v.ownBlock∧
   (v'.ownBlock=v.ownBlock∨v'.ownBlock=some w.heap.size):=by
 rcases Nat.eq_zero_or_pos m with h0 | h0
 ·subst h0;have hn:news=[]:=List.eq_nil_of_length_eq_zero (by simpa using hl);subst hn
  refine⟨v,w, ?_,by simpa using tW,yN w _,.inl rfl⟩
  rcases tW.2 with ⟨rfl,rfl⟩ | ⟨g,cap,cur,rfl,_,_,WZ,_⟩
  ·cases A <;> simp[Builtin.append_,run_underlying ht,sizeOf,typeInfo,hi,Builtin.lenOf,Builtin.firstCells,loadCells,loadCellsFrom]
  cases A <;> simp[Builtin.append_,run_underlying ht,sizeOf,typeInfo,hi,Builtin.lenOf,Builtin.firstCells,WZ,storeCells,loadCells,loadCellsFrom]
 have hx:news≠[]:=by
  intro e;subst e
  have:=Nat.mul_pos h0 Ox
  simp only[List.length_nil]at hl
  omega
 obtain⟨b,off,rfl,hc⟩:=hr hx
 obtain⟨v',w',Rn,h2,h3,_,h5⟩:=run_append_own_at (P:=P) w base t ty e i z size bytes ht hi hz hsize hby Mx Ox v n xs tW ⟨b,off,none⟩ m c news hl
  (fun j u hu=>by rw[td];exact hc j u hu) h1 h63 hbytes qd
 exact⟨v',w',Rn,h2,h3,h5⟩
theorem sM {P:Program}{w:World}{o:Oper}{a:Act}{K:Act→World→Prop}{Q:Exit→Act→World→Prop}(s x:Operand) (t:TypeId)
  (ho:o.op=.call { callee:=.builtin .append,args:=#[s,x],argTypes:=#[t,t] })
  (base:Nat) (e:TypeId) (i:TypeInfo) (z:Value) (size bytes:Nat) (ht:P.underlying t=some (.slice e)) (hi:P.info? e=some i) (hz:i.zero=some z)
  (hsize:i.size=size) (hby:i.bytes=bytes) (Mx:z.cells.size=size) (Ox:0<size)
  (v:Value) (n:Nat) (xs:List Value) (hs:a.eval s=v) (tW:w.ownsRow base e size v n xs)
  (A:Option Addr) (m c:Nat) (news:List Value) (hx:a.eval x=.slice A m c) (hl:news.length=m*size) (hr:Src w A news) (h1:∀ u∈news,u.oneCell'=true)
  (h63:n+m≤maxLen) (hbytes:(n+m)*bytes≤140737488355328) (qd:base≤w.heap.size)
  (h:∀ v' w',w'.ownsRow base e size v' (n+m) (xs++news)→w.grownBy w' v.ownBlock→(v'.ownBlock=v.ownBlock∨v'.ownBlock=some w.heap.size)→K (a.put o.dst v') w'):o.wp P a w K Q:=by
 obtain⟨v',w',Rn,h2,h3,h4⟩:=fV (P:=P) w base t o.type e i z size bytes ht hi hz hsize hby Mx Ox v n xs tW A m c news hl hr h1 h63 hbytes qd
 unfold Oper.wp execOp
 simp only[ho,resolve,invoke,builtin,Sem.run_bind,Sem.run_pure,Result.andThen_ok,List.map_toArray,List.map_cons,List.map_nil,hs,hx,Rn]
 exact h v' w' h2 h3 h4
theorem rX:(Tryz.prog.info? 5).map (fun i=>(i.zero,i.size,i.bytes))=some (some (.int .u8 0),1,1):=by kernel_rfl
def OwnB (w:World) (base:Nat) (v:Value) (l:List UInt8):Prop:=w.ownsRow base 5 1 v l.length (l.map zu)
theorem OwnB.nil (w:World) (base:Nat):OwnB w base (.slice none 0 0) []:=World.ownsRow_nil _ _ _ _
theorem OwnB.lt {w:World}{base:Nat}{v:Value}{l:List UInt8}(h:OwnB w base v l):∀ k,v.ownBlock=some k→base≤k∧k<w.heap.size:=World.ownsRow.lt h
theorem OwnB.kept {w w':World}{base:Nat}{v:Value}{l:List UInt8}{row:Option Nat}(h:OwnB w base v l) (hg:w.grownBy w' row) (xp:v.ownBlock=none∨v.ownBlock≠row):OwnB w' base v l :=
 World.ownsRow.kept h hg xp
theorem OwnB.below {w w':World}{base:Nat}{v:Value}{l:List UInt8}(h:OwnB w base v l) (hb:Below w.heap.size w w'):OwnB w' base v l :=
 h.kept (vW hb none) (by cases v.ownBlock <;> simp)
theorem OwnB.alloc {w:World}{base:Nat}{v:Value}{l:List UInt8}(h:OwnB w base v l) (o:Obj):OwnB (w.alloc o) base v l:=World.ownsRow.alloc h o
theorem OwnB.form {w:World}{base:Nat}{v:Value}{l:List UInt8}(h:OwnB w base v l):∃ A c,v=.slice A l.length c∧l.length≤c∧c≤9223372036854775807∧Src w A (l.map zu):=by
 have h':=h
 rcases h.2 with ⟨rfl,hn⟩ | ⟨g,cap,cur,rfl,_,_,hc,hm,_⟩
 ·rw[List.length_eq_zero_iff]at hn;subst hn
  exact⟨none,0,rfl,by simp,by omega,Src.nil _ _⟩
 exact⟨_,cap,rfl,hc,by simpa [maxLen] using hm,Src.of_own h'⟩
theorem OwnB.src {w:World}{base:Nat}{A:Option Addr}{m c:Nat}{l:List UInt8}(h:OwnB w base (.slice A m c) l):Src w A (l.map zu):=Src.of_own h
theorem OwnB.more {w:World}{base base':Nat}{v:Value}{l:List UInt8}(h:OwnB w base v l) (hb:base'≤base):OwnB w base' v l:=by
 refine⟨h.1, ?_⟩
 rcases h.2 with h2 | ⟨g,cap,cur,hv,hg,r⟩
 ·exact .inl h2
 exact .inr ⟨g,cap,cur,hv,by omega,r⟩
theorem OwnB.lit (w:World) (base:Nat) (l:List UInt8) (cs:Array Value) (k:Nat) (hk:k=l.length) (hc:cs.toList=l.map zu) (hb:base≤w.heap.size) (hm:l.length≤4096) :
  OwnB (w.alloc (.cells cs 5)) base (.slice (some ⟨w.heap.size,0,none⟩) k k) l:=by
 subst hk
 refine⟨by simp,.inr ⟨w.heap.size,l.length,cs,rfl,hb,heap_alloc_new w _,Nat.le_refl _,by simp only[maxLen];omega, ?_, ?_⟩⟩
 ·rw[← Array.length_toList,hc];simp
 exact jdC
theorem OwnB.snap {w:World}{base:Nat}{A:Option Addr}{m c:Nat}{l:List UInt8}(h:OwnB w base (.slice A m c) l) {H:Snap}(hw:Holds w H) (hn:∀ g,A.map (·.block)=some g→H g=none) :
  ∃ H',H.le H'∧Holds w H'∧(∀ b o,H' b=some o→H b=some o∨A.map (·.block)=some b)∧m=l.length∧IsBytes H' A c l:=by
 rcases h.2 with ⟨hv,hz⟩ | ⟨g,cap,cur,hv,_,hg,hc,hm,cU,ht⟩
 ·cases hv
  rw[List.length_eq_zero_iff]at hz;subst hz
  exact⟨H,Snap.le.refl _,hw,fun _ _ h=>.inl h,rfl,IsBytes.nil _⟩
 cases hv
 have iJ:H g=none:=hn g rfl
 refine⟨H.with g (.cells cur 5),Snap.le_with iJ,hw.with hg,fun b o hb=>?_,rfl,⟨hc,by simpa [maxLen] using hm,fun _=>⟨g,0,rfl,fun j v hj=>?_⟩⟩⟩
 ·exact jcm
 exact jbR
theorem jt (l:List UInt8):∀ u∈l.map zu,u.oneCell'=true:=by
 intro u hu
 obtain⟨x,_,rfl⟩:=List.mem_map.1 hu;rfl
theorem zv {w:World}{ops:Array Oper}{rest:List Oper}{o:Oper}{a:Act}{Q:Exit→Act→World→Prop}(hgd:o.guard=none) (s x:Operand)
  (ho:o.op=.call { callee:=.builtin .append,args:=#[s,x],argTypes:=#[22,22] })
  (base:Nat) (v:Value) (l:List UInt8) (hs:a.eval s=v) (tW:OwnB w base v l) (A:Option Addr) (m c:Nat) (news:List UInt8) (hx:a.eval x=.slice A m c) (hm:m=news.length)
  (hr:Src w A (news.map zu)) (uu:l.length+news.length≤1099511627776) (qd:base≤w.heap.size)
  (h:∀ v' w',OwnB w' base v' (l++news)→w.grownBy w' v.ownBlock→At0 w v.ownBlock v'.ownBlock→wpList Tryz.prog ops Q rest (a.put o.dst v') w') :
  wpList Tryz.prog ops Q (o::rest) a w:=by
 subst hm;obtain⟨i0,og,n9,rx,oN⟩:=info_parts rX
 refine wpList_plain hgd fun K hK=>sM s x _ ho base 5 i0 _ 1 1 Tryz.underlying22 og n9 rx oN rfl (by omega) v l.length (l.map zu) hs tW A news.length c (news.map zu) hx (by simp) hr (jt _)
  (by simp only[maxLen];omega) (by omega) qd fun v' w' h2 h3 h4=>hK _ _ (h v' w' ?_ h3 ?_)
 ·unfold OwnB;simpa using h2
 exact jbO
theorem Fresh.own {w w':World}{l:List UInt8}{r:Value}(h:Fresh w l r w'):OwnB w' w.heap.size r l:=h.1
theorem Fresh.lit (w:World) (l:List UInt8) (cs:Array Value) (k:Nat) (hk:k=l.length) (hm:l.length≤4096) (hc:cs.toList=l.map zu) :
  Fresh w l (.slice (some ⟨w.heap.size,0,none⟩) k k) (w.alloc (.cells cs 5)) :=
 ⟨OwnB.lit w _ l cs k hk hc (Nat.le_refl _) hm,(Below.refl _ _).alloc (Nat.le_refl _) _⟩
def yu (x:Itm) (ba:Option Addr) (bc:Nat) (ia:Option Addr) (ic:Nat):List Value:=[.int .i64 x.kind,.int .u64 x.n,.slice ba x.bytes.length bc,.slice ia x.items.length ic]
def ItemsC (H:Snap):List Value→List Itm→Prop
 | cs,[]=>cs=[]
 | cs,x::l=>∃ ba bc ia ic rest,cs=yu x ba bc ia ic++rest∧IsItem H ba bc ia ic x∧ItemsC H rest l
theorem ItemsC.nil (H:Snap):ItemsC H [] []:=by rw[ItemsC]
theorem ItemsC.one {H:Snap}{x:Itm}{ba:Option Addr}{bc:Nat}{ia:Option Addr}{ic:Nat}(h:IsItem H ba bc ia ic x):ItemsC H (yu x ba bc ia ic) [x] :=
 ⟨ba,bc,ia,ic,[],by simp,h,ItemsC.nil H⟩
theorem ItemsC.len {H:Snap}:∀ {l:List Itm}{cs:List Value},ItemsC H cs l→cs.length=l.length*4
 | [],cs,h=>by rw[ItemsC]at h;subst h;rfl
 | x::l,cs,h=>by
  obtain⟨_,_,_,_,rest,rfl,_,hr⟩:=h;have:=hr.len
  simp[yu]
  omega
theorem ItemsC.mono {H K:Snap}(hl:H.le K):∀ {l:List Itm}{cs:List Value},ItemsC H cs l→ItemsC K cs l
 | [],cs,h=>h
 | x::l,cs,h=>by
  obtain⟨ba,bc,ia,ic,rest,e,hx,hr⟩:=h
  exact⟨ba,bc,ia,ic,rest,e,hx.mono hl,hr.mono hl⟩
theorem ItemsC.app {H:Snap}:∀ {l m:List Itm}{cs ds:List Value},ItemsC H cs l→ItemsC H ds m→ItemsC H (cs++ds) (l++m)
 | [],m,cs,ds,h,hd=>by rw[ItemsC]at h;subst h;exact hd
 | x::l,m,cs,ds,h,hd=>by
  obtain⟨ba,bc,ia,ic,rest,rfl,hx,hr⟩:=h
  exact⟨ba,bc,ia,ic,rest++ds,by simp,hx,hr.app hd⟩
theorem ItemsC.elems {H:Snap}{b:Nat}:∀ {l:List Itm}{cs:List Value}{off:Nat},ItemsC H cs l→Qz H b off cs→IsElems H b off l
 | [],cs,off,h,hc=>by rw[IsElems];trivial
 | x::l,cs,off,h,hc=>by
  obtain⟨ba,bc,ia,ic,rest,rfl,hx,hr⟩:=h;rw[IsElems]
  refine⟨⟨ba,bc,ia,ic,hc 0 _ rfl,hc 1 _ rfl,hc 2 _ rfl,hc 3 _ rfl,hx⟩,hr.elems fun j v hj=>?_⟩
  have:=hc (j+4) v (by simpa [yu] using hj);rwa [show off+(j+4)=off+4+j by omega]at this
theorem ItemsC.oneCell {H:Snap}:∀ {l:List Itm}{cs:List Value},ItemsC H cs l→∀ u∈cs,u.oneCell'=true
 | [],cs,h=>by rw[ItemsC]at h;subst h;simp
 | x::l,cs,h=>by
  obtain⟨ba,bc,ia,ic,rest,rfl,hx,hr⟩:=h
  intro u hu
  rw[List.mem_append]at hu
  rcases hu with hu | hu
  ·simp[yu]at hu
   rcases hu with rfl | rfl | rfl | rfl <;> rfl
  exact hr.oneCell u hu
def OwnI (w:World) (base:Nat) (v:Value) (H:Snap) (l:List Itm):Prop:=∃ cs,ItemsC H cs l∧w.ownsRow base 77 4 v l.length cs
section
variable {w w':World} {base:Nat} {v:Value} {H:Snap} {l:List Itm}
theorem OwnI.nil (w:World) (base:Nat) (H:Snap):OwnI w base (.slice none 0 0) H []:=⟨[],ItemsC.nil H,World.ownsRow_nil _ _ _ _⟩
theorem OwnI.lt (h:OwnI w base v H l):∀ k,v.ownBlock=some k→base≤k∧k<w.heap.size:=by obtain⟨_,_,h⟩:=h;exact World.ownsRow.lt h
theorem OwnI.kept {row:Option Nat}(h:OwnI w base v H l) (hg:w.grownBy w' row) (xp:v.ownBlock=none∨v.ownBlock≠row):OwnI w' base v H l:=by
 exact jdm
theorem OwnI.below (h:OwnI w base v H l) (hb:Below w.heap.size w w'):OwnI w' base v H l:=by
 exact jcG
theorem OwnI.alloc (h:OwnI w base v H l) (o:Obj):OwnI (w.alloc o) base v H l:=h.below (zX w o)
theorem OwnI.mono {K:Snap}(h:OwnI w base v H l) (hl:H.le K):OwnI w base v K l:=by obtain⟨cs,hc,h⟩:=h;exact⟨cs,hc.mono hl,h⟩
theorem OwnI.form (h:OwnI w base v H l):∃ A c,v=.slice A l.length c∧l.length≤c∧c≤9223372036854775807:=by
 exact jbW
theorem OwnI.snap {A:Option Addr}{m c:Nat}(h:OwnI w base (.slice A m c) H l) (hw:Holds w H) (hn:∀ g,A.map (·.block)=some g→H g=none) :
  ∃ H',H.le H'∧Holds w H'∧(∀ b o,H' b=some o→H b=some o∨A.map (·.block)=some b)∧m=l.length∧l.length≤c∧c≤9223372036854775807∧(0<l.length→∃ b off,A=some ⟨b,off,none⟩∧IsElems H' b off l):=by
 obtain⟨cs,cU,h⟩:=h
 rcases h.2 with ⟨hv,hz⟩ | ⟨g,cap,cur,hv,_,hg,hc,hm,hcz,ht⟩
 ·cases hv
  exact⟨H,Snap.le.refl _,hw,fun _ _ h=>.inl h,hz.symm,by omega,by omega,by omega⟩
 cases hv
 have iJ:H g=none:=hn g rfl
 refine⟨H.with g (.cells cur 77),Snap.le_with iJ,hw.with hg,fun b o hb=>?_,rfl,hc,by simpa [maxLen] using hm,fun _=>⟨g,0,rfl,(cU.mono (Snap.le_with iJ)).elems fun j v hj=>?_⟩⟩
 ·exact jcm
 exact jbR
end
theorem Te:(Tryz.prog.info? 77).map (fun i=>(i.zero,i.size,i.bytes))=some (some (.agg #[.int .i64 0,.int .u64 0,.slice none 0 0,.slice none 0 0]),4,64):=by kernel_rfl
theorem xb {w:World}{ops:Array Oper}{rest:List Oper}{o:Oper}{a:Act}{Q:Exit→Act→World→Prop}(hgd:o.guard=none) (s x:Operand)
  (ho:o.op=.call { callee:=.builtin .append,args:=#[s,x],argTypes:=#[75,75] })
  (base:Nat) (v:Value) (H:Snap) (l:List Itm) (hs:a.eval s=v) (tW:OwnI w base v H l) (A:Option Addr) (m c:Nat) (cs:List Value) (news:List Itm) (hx:a.eval x=.slice A m c) (hm:m=news.length)
  (hn:ItemsC H cs news) (hr:Src w A cs) (uu:l.length+news.length≤1099511627776) (qd:base≤w.heap.size)
  (h:∀ v' w',OwnI w' base v' H (l++news)→w.grownBy w' v.ownBlock→At0 w v.ownBlock v'.ownBlock→wpList Tryz.prog ops Q rest (a.put o.dst v') w') :
  wpList Tryz.prog ops Q (o::rest) a w:=by
 subst hm;obtain⟨xs,Sc,tW⟩:=tW;obtain⟨i0,og,n9,rx,oN⟩:=info_parts Te
 refine wpList_plain hgd fun K hK=>sM s x _ ho base 77 i0 _ 4 64 Tryz.underlying75 og n9 rx oN rfl (by omega) v l.length xs hs tW A news.length c cs hx hn.len hr hn.oneCell
  (by simp only[maxLen];omega) (by omega) qd fun v' w' h2 h3 h4=>hK _ _ (h v' w' ?_ h3 ?_)
 ·exact⟨xs++cs,Sc.app hn,by simpa using h2⟩
 exact jbO
def Gives (w:World) (H:Snap) (x:Itm) (v:Value) (w':World):Prop :=
 ∃ ba bc ia ic H',v=rG x ba bc ia ic∧Grows w H w' H'∧IsItem H' ba bc ia ic x
structure GrowsBut (w:World) (H:Snap) (w':World) (H':Snap) (g:Nat):Prop where
 grown:w.grownBy w' (some g)
 le:H.le H'
 holds:Holds w' H'
 fresh:∀ b o,H' b=some o→H b=some o∨w.heap.size≤b
section
variable {fn:Func} {R:Ending→World→Prop} {w:World} {p u:Tmp} {ty:TypeId} {a:Act} {g:Nat} {t:TypeId} {cs:Array Value} {d:TypeDesc}
theorem xU (h:fn.results=#[.cell p ty]) (hp:a.tmps.getD p undef=.pointer (some ⟨g,0,none⟩)) (hg:Blk w g t cs)
  (hd:(match d with | .struct _ | .array _ _=>true | _=>false)=true) (hu:Tryz.prog.underlying ty=some d) (hi:(Tryz.prog.info? ty).map (·.size)=some cs.size)
  (hdf:a.defers=[]) (hR:R (.returned (.agg cs)) w):bodyPost Tryz.prog fn R .ret a w :=
 bodyPost_ret (results_cell_row h a.tmps w g t cs (0,0) d hp hg hu (by cases d <;> first | exact hd | rfl | cases hd) hi) hdf hR
theorem zo (h:fn.results=#[.cell p ty,.tmp u]) (hp:a.tmps.getD p undef=.pointer (some ⟨g,0,none⟩)) (hg:Blk w g t cs)
  (hd:(match d with | .struct _ | .array _ _=>true | _=>false)=true) (hu:Tryz.prog.underlying ty=some d) (hi:(Tryz.prog.info? ty).map (·.size)=some cs.size)
  (hdf:a.defers=[]) (hR:R (.returned (.tuple #[.agg cs,a.tmps.getD u undef])) w):bodyPost Tryz.prog fn R .ret a w:=by
 refine bodyPost_ret (v:=.tuple #[.agg cs,a.tmps.getD u undef]) ?_ hdf hR
 rw[results_cell_tmp h,hp];exact ja8
end
theorem zj:(Tryz.prog.info? 77).map (·.size)=some 4:=by kernel_rfl
theorem zx {P:Program}{ops:Array Oper}{Q:Exit→Act→World→Prop}{rest:List Oper}{a:Act}{w:World}{dst:Option Tmp}{ty:TypeId}{x y:Operand}{T:TypeId}{pos:String}{af:Array Edge}{g:Option (Nat×Bool)}
  (h:zZ (wpList P ops Q (⟨dst,.store ty x y,T,pos,af,g⟩::rest) a w)):wpList P ops Q (⟨dst,.store ty x y,T,pos,af,g⟩::rest) a w:=h
def iH (cs:Array Value):Nat→List Value→Array Value
 | _,[]=>cs
 | o,v::r=>iH (cs.setIfInBounds o v) (o+1) r
theorem Zs:∀ (vs:List Value) (cs:Array Value) (o j:Nat),(iH cs o vs)[j]? = if o≤j∧j<o+vs.length∧j<cs.size then vs[j-o]? else cs[j]?
 | [],cs,o,j=>by simp[iH];omega
 | v::r,cs,o,j=>by
  rw[iH,Zs r]
  simp only[Array.size_setIfInBounds,List.length_cons]
  by_cases h:o+1≤j∧j<o+1+r.length∧j<cs.size
  ·rw[if_pos h,if_pos (by omega),show j-o=(j-(o+1))+1 by omega,List.getElem?_cons_succ]
  rw[if_neg h]
  by_cases h2:o=j
  ·subst h2
   by_cases h3:o<cs.size
   ·rw[if_pos (by omega)];simp[h3]
   rw[if_neg (by omega)];simp[h3]
  rw[if_neg (by omega),Array.getElem?_setIfInBounds,if_neg h2]
theorem Zr (cs:Array Value) (vs:List Value) (h:vs.length=cs.size):iH cs 0 vs=vs.toArray:=by
 apply Array.ext_getElem?
 intro j
 rw[Zs]
 by_cases h1:j<cs.size
 ·rw[if_pos (by omega)];simp
 rw[if_neg (by omega),Array.getElem?_eq_none (by omega),Array.getElem?_eq_none (by simp;omega)]
theorem Blk.setCells:∀ (vs:List Value) {w:World}{g:Nat}{t:TypeId}{cs:Array Value}(o:Nat),Blk w g t cs→Blk (w.setCells g o vs) g t (iH cs o vs)
 | [],_,_,_,_,_,h=>h
 | v::r,w,g,t,cs,o,h=>by
  rw[World.setCells,iH]
  exact(h.set_ o v).setCells r (o+1)
theorem uT (g:Nat):∀ (vs:List Value) {w0 w:World}(o:Nat),w0.grownBy w (some g)→w0.grownBy (w.setCells g o vs) (some g)
 | [],_,_,_,h=>h
 | v::r,w0,w,o,h=>by
  rw[World.setCells]
  exact uT g r (o+1) (TZ h (.inl rfl) v)
theorem pj {w:World}{ops:Array Oper}{rest:List Oper}{o:Oper}{a:Act}{Q:Exit→Act→World→Prop}(hgd:o.guard=none) (ty:TypeId) (x y:Operand) (ho:o.op=.store ty x y)
  (hd:o.dst=none) (g off:Nat) (cells:Array Value) (hx:a.eval x=.pointer (some ⟨g,off,none⟩)) (hy:a.eval y=.agg cells)
  (t:TypeId) (old:Array Value) (hB:Blk w g t old) (hi:(Tryz.prog.info? ty).map (·.size)=some cells.size) (hold:off+cells.size≤old.size) (h1:cells.all (·.oneCell')=true)
  (h:∀ w',Blk w' g t (iH old off cells.toList)→w.grownBy w' (some g)→wpList Tryz.prog ops Q rest a w') :
  wpList Tryz.prog ops Q (o::rest) a w:=by
 refine wpList_store_mid hgd ty x y ho g off cells hx hy (fun j hj=>⟨?_,hB.frozen _⟩) hi h1 ?_
 ·obtain⟨v,hv⟩:∃ v,old[off+j]? = some v:=⟨_,Array.getElem?_eq_getElem (by omega)⟩
  rw[hB.cell _ hv];rfl
 rw[hd]
 exact h _ (hB.setCells _ _) (uT g _ _ (yN w _))
theorem zm {w:World}{ops:Array Oper}{rest:List Oper}{o:Oper}{a:Act}{Q:Exit→Act→World→Prop}(hgd:o.guard=none) (ty:TypeId) (x y:Operand) (ho:o.op=.store ty x y)
  (hd:o.dst=none) (g:Nat) (cells:Array Value) (hx:a.eval x=.pointer (some ⟨g,0,none⟩)) (hy:a.eval y=.agg cells)
  (t:TypeId) (old:Array Value) (hB:Blk w g t old) (hi:(Tryz.prog.info? ty).map (·.size)=some cells.size) (hold:cells.size=old.size) (h1:cells.all (·.oneCell')=true)
  (h:∀ w',Blk w' g t cells→w.grownBy w' (some g)→wpList Tryz.prog ops Q rest a w') :
  wpList Tryz.prog ops Q (o::rest) a w:=by
 refine pj hgd ty x y ho hd g 0 cells hx hy t old hB hi (by omega) h1 fun w' h2 h3=>h w' ?_ h3
 rwa [Zr _ _ (by simpa using hold)]at h2
theorem zT {w:World}{o:Oper}{a:Act}{K:Act→World→Prop}{Q:Exit→Act→World→Prop}(ty:TypeId) (x y:Operand) (ho:o.op=.store ty x y)
  (g:Nat) (cells:Array Value) (hx:a.eval x=.pointer (some ⟨g,0,none⟩)) (hy:a.eval y=.agg cells)
  (t:TypeId) (old:Array Value) (hB:Blk w g t old) (hi:(Tryz.prog.info? ty).map (·.size)=some cells.size) (hold:cells.size=old.size) (h1:cells.all (·.oneCell')=true)
  (h:∀ w',Blk w' g t cells→w.grownBy w' (some g)→K (a.put o.dst undef) w') :
  o.wp Tryz.prog a w K Q:=by
 refine wp_store_mid ty x y ho g 0 cells hx hy (fun j hj=>⟨?_,hB.frozen _⟩) hi h1 ?_
 ·obtain⟨v,hv⟩:∃ v,old[0+j]? = some v:=⟨_,Array.getElem?_eq_getElem (by omega)⟩
  rw[hB.cell _ hv];rfl
 refine h _ ?_ (uT g _ _ (yN w _))
 have:=hB.setCells cells.toList 0;rwa [Zr _ _ (by simpa using hold)]at this
theorem qU (w:World) (b o:Nat) (ty:TypeId) (v:Value) (ht:w.there b o 1) (hi:(Tryz.prog.info? ty).map (·.size)=some 1) (h1:v.oneCell'=true) :
  (storeVar ty ⟨b,o,none⟩ v).run Tryz.prog w=.ok () (w.setCells b o [v]):=by
 have:=run_storeCells_cells (P:=Tryz.prog) b o [v] 0 w (fun j hj=>by simpa using (ht j (by simpa using hj)).1) (fun j hj=>by simpa using (ht j (by simpa using hj)).2) (fun x hx=>by simp at hx;subst hx;exact h1);have hc:v.cells=#[v]:=by cases v <;> first | rfl | cases h1
 cases hq:Tryz.prog.info? ty with
 | none=>simp[hq]at hi
 | some i =>
 have hs:i.size=1:=by simpa [hq] using hi
 simp only[Nat.add_zero]at this
 simp[storeVar,sizeOf,typeInfo,hq,hc,hs,this]
theorem zO {w:World}{o:Oper}{a:Act}{K:Act→World→Prop}{Q:Exit→Act→World→Prop}(ty:TypeId) (x y:Operand) (ho:o.op=.store ty x y)
  (g off:Nat) (v:Value) (hx:a.eval x=.pointer (some ⟨g,off,none⟩)) (hy:a.eval y=v)
  (t:TypeId) (old:Array Value) (hB:Blk w g t old) (hi:(Tryz.prog.info? ty).map (·.size)=some 1) (hold:off<old.size) (h1:v.oneCell'=true)
  (h:∀ w',Blk w' g t (old.setIfInBounds off v)→w.grownBy w' (some g)→K (a.put o.dst undef) w') :
  o.wp Tryz.prog a w K Q:=by
 have hr:=qU w g off ty v (fun j hj=>⟨by rw[hB.cell _ (Array.getElem?_eq_getElem (by omega:off+j<old.size))];rfl,hB.frozen _⟩) hi h1
 unfold Oper.wp execOp
 simp only[ho,hx,hy,Instr.storeAt,Instr.sureAddr,Sem.run_bind,Sem.run_pure,Result.andThen_ok,hr]
 exact h _ (hB.setCells [v] off) (uT g _ _ (yN w _))
theorem zw {w:World}{ops:Array Oper}{rest:List Oper}{o:Oper}{a:Act}{Q:Exit→Act→World→Prop}(hgd:o.guard=none) (ty:TypeId) (x y:Operand) (ho:o.op=.store ty x y)
  (hd:o.dst=none) (g off:Nat) (v:Value) (hx:a.eval x=.pointer (some ⟨g,off,none⟩)) (hy:a.eval y=v)
  (t:TypeId) (old:Array Value) (hB:Blk w g t old) (hi:(Tryz.prog.info? ty).map (·.size)=some 1) (hold:off<old.size) (h1:v.oneCell'=true)
  (h:∀ w',Blk w' g t (old.setIfInBounds off v)→w.grownBy w' (some g)→wpList Tryz.prog ops Q rest a w') :
  wpList Tryz.prog ops Q (o::rest) a w:=by
 have hr:=qU w g off ty v (fun j hj=>⟨by rw[hB.cell _ (Array.getElem?_eq_getElem (by omega:off+j<old.size))];rfl,hB.frozen _⟩) hi h1
 refine wpList_plain hgd fun _ hK=>?_
 unfold Oper.wp execOp
 simp only[ho,hx,hy,Instr.storeAt,Instr.sureAddr,Sem.run_bind,Sem.run_pure,Result.andThen_ok,hr]
 exact hK (a.put o.dst undef) _ (by rw[hd];exact h _ (hB.setCells [v] off) (uT g _ _ (yN w _)))
theorem yY:(Tryz.prog.info? 22).map (·.size)=some 1:=by kernel_rfl
theorem sT:(Tryz.prog.info? 75).map (·.size)=some 1:=by kernel_rfl
theorem yV {w:World}{o:Oper}{a:Act}{K:Act→World→Prop}{Q:Exit→Act→World→Prop}(s x:Operand)
  (ho:o.op=.call { callee:=.builtin .append,args:=#[s,x],argTypes:=#[22,22] })
  (base:Nat) (v:Value) (l:List UInt8) (hs:a.eval s=v) (tW:OwnB w base v l) (A:Option Addr) (m c:Nat) (news:List UInt8) (hx:a.eval x=.slice A m c) (hm:m=news.length)
  (hr:Src w A (news.map zu)) (uu:l.length+news.length≤1099511627776) (qd:base≤w.heap.size)
  (h:∀ v' w',OwnB w' base v' (l++news)→w.grownBy w' v.ownBlock→At0 w v.ownBlock v'.ownBlock→K (a.put o.dst v') w') :
  o.wp Tryz.prog a w K Q:=by
 subst hm;obtain⟨i0,og,n9,rx,oN⟩:=info_parts rX
 refine sM s x _ ho base 5 i0 _ 1 1 Tryz.underlying22 og n9 rx oN rfl (by omega) v l.length (l.map zu) hs tW A news.length c (news.map zu) hx (by simp) hr (jt _)
  (by simp only[maxLen];omega) (by omega) qd fun v' w' h2 h3 h4=>h v' w' ?_ h3 ?_
 ·unfold OwnB;simpa using h2
 exact jbO
abbrev sG (x:Itm) (ba:Option Addr) (bc:Nat) (ia:Option Addr) (ic:Nat):Obj:=.cells #[.int .i64 x.kind,.int .u64 x.n,.slice ba x.bytes.length bc,.slice ia x.items.length ic] 77
abbrev zf:Obj:=.cells #[.int .i64 0,.int .u64 0,.slice none 0 0,.slice none 0 0] 77
theorem zB (w:World):w.drew.heap=w.heap:=rfl
theorem za (w:World) (o:Obj):(w.alloc o).heap.size=w.heap.size+1:=by simp
section
variable {w wr wr':World} {H Hr Hs:Snap} {g:Nat}
theorem Grows.alloc (h:Grows w H wr Hr) (o:Obj):Grows w H (wr.alloc o) Hr:=⟨h.below.alloc h.below.size o,h.le,h.holds.alloc o,h.fresh⟩
theorem Grows.below_ (h:Grows w H wr Hr) (hb:Below wr.heap.size wr wr'):Grows w H wr' Hr:=h.trans (Grows.of_below h.holds hb)
theorem Grows.grownOwn (h:Grows w H wr Hr) (h0:Hr g=.none) (hw:w.heap.size≤g) (hg:wr.grownBy wr' (some g)):Grows w H wr' Hr :=
 ⟨h.below.grown hg h.below.size (by rintro k ⟨⟩;exact hw),h.le,h.holds.grown hg (by rintro k ⟨⟩;exact h0),h.fresh⟩
theorem Grows.drew (h:Grows w H wr Hr):Grows w H wr.drew Hr:=⟨h.below.drew,h.le,h.holds.drew,h.fresh⟩
theorem Grows.grownRow {row:Option Nat}(h:Grows w H wr Hr) (h0:∀ g,row=some g→Hr g=.none) (hw:∀ g,row=some g→w.heap.size≤g) (hg:wr.grownBy wr' row):Grows w H wr' Hr :=
 ⟨h.below.grown hg h.below.size hw,h.le,h.holds.grown hg h0,h.fresh⟩
theorem Grows.size (h:Grows w H wr Hr):w.heap.size≤wr.heap.size:=h.below.size
theorem Fresh.snapB {A:Option Addr}{n c:Nat}{l:List UInt8}(hH:Holds w H) (h:Fresh w l (.slice A n c) wr):∃ H',Grows w H wr H'∧IsBytes H' A c l∧n=l.length:=by
 obtain⟨H',hl,hh,hf,hn,hi⟩:=h.own.snap (hH.below h.2 (Nat.le_refl _)) (fun g hg=>hH.none_of_ge (h.own.lt g (by cases A <;> simp_all [Value.ownBlock])).1)
 refine⟨H',⟨h.2,hl,hh,fun b o hb=>?_⟩,hi,hn⟩
 rcases hf b o hb with h1 | h1
 ·exact .inl h1
 exact .inr (h.own.lt b (by cases A <;> simp_all [Value.ownBlock])).1
end
section
variable {P:Program} {ops:Array Oper} {Q:Exit→Act→World→Prop} {md:Region.Mode} {S:World→Prop} {z:Nat}
def Ways (P:Program) (md:Region.Mode) (ops:Array Oper) (Q:Exit→Act→World→Prop) (S:World→Prop) (z:Nat):Nat→Array Bool→Act→World→Prop
 | 0,L,a,w=>Region.ready md ops L=[]∧Q .normal a w
 | n+1,L,a,w=>(Region.ready md ops L=[]→Q .normal a w)∧
   ∀ i∈Region.ready md ops L,wpOp P ops Q i (fun a' w'=>(i≠z→S w')∧Ways P md ops Q S z n (L.setIfInBounds i true) a' w') a w
theorem Ways.any:∀ (n:Nat) (L:Array Bool) (a:Act) (w:World),Ways P md ops Q S z n L a w→wpAny P md ops Q n L a w
 | 0,_,_,_,h=>h
 | n+1,_,_,_,h=>⟨h.1,fun i hi=>wpOp_mono (fun a' w' k=>Ways.any n _ a' w' k.2) (h.2 i hi)⟩
def Closed (md:Region.Mode) (ops:Array Oper) (L:Array Bool):Prop :=
 ∀ (j:Nat) (o:Oper),ops[j]? = some o→L.getD j false=true→∀ e∈o.after,Region.binds md e=true→L.getD e.on false=true
theorem Closed.step {L:Array Bool}(h:Closed md ops L) {i:Nat}(hi:i∈Region.ready md ops L):Closed md ops (L.setIfInBounds i true):=by
 intro j o ho hj e he hb
 obtain⟨_,oi,BB,mj⟩:=mem_ready.1 hi
 by_cases Dx:i=j
 ·subst Dx;rw[ho]at BB
  cases BB
  exact getD_set_true (mj e he hb)
 rw[getD_set_ne false Dx]at hj
 exact getD_set_true (h j o ho hj e he hb)
def R7 (md:Region.Mode) (ops:Array Oper) (z i:Nat):Prop:=∀ L,Closed md ops L→L.getD i true=false→z∉Region.ready md ops L
def o7 (md:Region.Mode) (ops:Array Oper):Nat→Nat→Nat→Bool
 | 0,k,i=>k==i
 | n+1,k,i=>k==i||match ops[k]? with
  | some o=>o.after.any fun e=>Region.binds md e&&o7 md ops n e.on i
  | none=>false
theorem kh:∀ (n k i:Nat) (L:Array Bool),Closed md ops L→o7 md ops n k i=true→L.getD k false=true→L.getD i false=true
 | 0,k,i,L,_,h,hk=>by
  have:k=i:=by simpa [o7] using h
  exact this ▸ hk
 | n+1,k,i,L,hc,h,hk=>by
  unfold o7 at h
  rw[Bool.or_eq_true]at h
  rcases h with h | h
  ·have:k=i:=by simpa using h
   exact this ▸ hk
  cases ho:ops[k]? with
  | none=>rw[ho]at h;cases h
  | some o =>
  rw[ho]at h;obtain⟨e,he,hb⟩:=Array.any_eq_true'.1 h;rw[Bool.and_eq_true]at hb
  exact kh n e.on i L hc hb.2 (hc k o ho hk e he hb.1)
theorem Zc {i:Nat}(n:Nat) (h:(match ops[z]? with | some o=>o.after.any fun e=>Region.binds md e&&o7 md ops n e.on i | none=>false)=true):R7 md ops z i:=by
 intro L hc hi hz
 obtain⟨_,o,ho,mj⟩:=mem_ready.1 hz;rw[ho]at h;obtain⟨e,he,hb⟩:=Array.any_eq_true'.1 h;rw[Bool.and_eq_true]at hb;have h1:=kh n e.on i L hc hb.2 (mj e he hb.1)
 rcases Nat.lt_or_ge i L.size with h' | h'
 ·simp[h']at hi h1
  rw[hi]at h1
  cases h1
 simp[Array.getElem?_eq_none h']at hi
theorem Ways.first {i:Nat}{oi:Oper}{v:Value}(hi:ops[i]? = some oi) (hsel:∀ (j:Nat) (o:Oper) cs b,ops[j]? = some o→o.op≠.select cs b)
  (hQ:∀ c a w,Q (.panic c) (a.put oi.dst v) w→Q (.panic c) a w) (hz:R7 md ops z i) (WU:i≠z) :
  ∀ (n:Nat) (L:Array Bool) (a:Act) (w:World),Closed md ops L→
   (∀ j oj,ops[j]? = some oj→j≠i→L.getD j true=false→(∀ e∈oj.after,Region.binds md e=true→e.on≠i)→oi.apart ops oj=true)→
   i∈Region.ready md ops L→YieldsIf P ops S oi v a→S w→
   Ways P md ops Q S z n (L.setIfInBounds i true) (a.put oi.dst v) w→Ways P md ops Q S z (n+1) L a w:=by
 intro n
 induction n with
 | zero =>
  intro L a w _ _ hr hy hS H
  exact jca
 | succ n ih =>
 intro L a w uw hfree hr hy hS H
 refine⟨fun h=>(by rw[h]at hr;cases hr),fun j hj=>?_⟩
 by_cases qe:j=i
 ·exact jeK
 have M8:j≠z:=fun h=>hz L uw (mem_ready.1 hr).1 (h ▸ hj)
 have h1:=H.2 j (ready_mono hj qe);obtain⟨iB,oj,Ya,mj⟩:=mem_ready.1 hj
 have Y9:∀ e∈oj.after,Region.binds md e=true→e.on≠i:=fun e he hb heq=>by
  exact ja1
 have h2:=jfF
 refine wpOp_mono (fun a' w' h3=>?_) h2
 obtain⟨PT,tp,hW⟩:=h3
 refine⟨fun _=>tp M8,ih (L.setIfInBounds j true) a' w' (uw.step hj) ?_ (ready_mono hr (Ne.symm qe)) PT (tp M8) ?_⟩
 ·exact jbb
 exact jcz
def pA (md:Region.Mode) (ops:Array Oper) (L:Array Bool):Bool :=
 (List.range ops.size).all fun j => !(L.getD j false)||match ops[j]? with
  | some o=>o.after.all fun e => !(Region.binds md e)||L.getD e.on false
  | none=>true
theorem ki {L:Array Bool}(h:pA md ops L=true):Closed md ops L:=by
 intro j o ho hj e he hb
 have fH:j<ops.size:=(Array.getElem?_eq_some_iff.1 ho).1;have h1:=List.all_eq_true.1 h j (List.mem_range.2 fH);rw[hj,ho]at h1
 simp only[Bool.not_true,Bool.false_or]at h1
 have h2:=Array.all_eq_true'.1 h1 e he;rw[hb]at h2
 simpa using h2
theorem Ways.take {i:Nat}{oi:Oper}{v:Value}{n:Nat}{L:Array Bool}{a:Act}{w:World}(hi:ops[i]? = some oi)
  (hs:(Region.noSelect ops&&(Region.free md ops L i&&((Region.ready md ops L).contains i&&(pA md ops L&&(i != z&&(match ops[z]? with | some o=>o.after.any fun e=>Region.binds md e&&o7 md ops 8 e.on i | none=>false))))))=true)
  (hQ:∀ c a w,Q (.panic c) (a.put oi.dst v) w→Q (.panic c) a w) (hy:YieldsIf P ops S oi v a) (hS:S w)
  (h:Ways P md ops Q S z n (L.setIfInBounds i true) (a.put oi.dst v) w):Ways P md ops Q S z (n+1) L a w:=by
 simp only[Bool.and_eq_true]at hs
 obtain⟨h1,h2,h3,h4,h5,h6⟩:=hs
 exact Ways.first hi (Region.noSelect_spec h1) hQ (Zc 8 h6) (by simpa using h5) n L a w (ki h4) (Region.free_spec hi h2) (by simpa using h3) hy hS h
theorem Ways.one {i:Nat}{o:Oper}{n:Nat}{L:Array Bool}{a:Act}{w:World}(hi:ops[i]? = some o) (hr:Region.ready md ops L=[i])
  (h:∀ K:Act→World→Prop,Shut (∀ a w,(i≠z→S w)→((i≠z→S w)→Ways P md ops Q S z n (L.setIfInBounds i true) a w)→K a w)→
   if Region.wanted o (yielded ops a.tmps)=true then Oper.wp P o a w K Q else K (a.put o.dst undef) w):Ways P md ops Q S z (n+1) L a w:=by
 exact jey
theorem Ways.two {i j:Nat}{o o':Oper}{n:Nat}{L:Array Bool}{a:Act}{w:World}(hi:ops[i]? = some o) (hj:ops[j]? = some o') (hr:Region.ready md ops L=[i,j])
  (h:∀ K:Act→World→Prop,Shut (∀ a w,(i≠z→S w)→((i≠z→S w)→Ways P md ops Q S z n (L.setIfInBounds i true) a w)→K a w)→
   if Region.wanted o (yielded ops a.tmps)=true then Oper.wp P o a w K Q else K (a.put o.dst undef) w)
  (h':∀ K:Act→World→Prop,Shut (∀ a w,(j≠z→S w)→((j≠z→S w)→Ways P md ops Q S z n (L.setIfInBounds j true) a w)→K a w)→
   if Region.wanted o' (yielded ops a.tmps)=true then Oper.wp P o' a w K Q else K (a.put o'.dst undef) w):Ways P md ops Q S z (n+1) L a w:=by
 refine⟨fun h0=>(by rw[hr]at h0;cases h0),fun k hk=>?_⟩
 rw[hr]at hk
 rcases(by simpa using hk:k=i∨k=j) with hk | hk
 ·subst hk
  exact jbQ
 exact jdc
theorem Ways.done {L:Array Bool}{a:Act}{w:World}{n:Nat}(hr:Region.ready md ops L=[]) (h:Q .normal a w):Ways P md ops Q S z n L a w:=by
 exact jdb
theorem zr {id:Nat}{a:Act}{w:World}(z:Nat) (S:World→Prop) (hm:P.follows .mixedOrders=true) (hS:S w.drew)
  (h:S w.drew→Ways P .any ops Q S z ops.size (Array.replicate ops.size false) a w.drew):(Code.region id ops true).wp P Q a w :=
 wp_region_any hm (Ways.any _ _ _ _ (h hS))
end
section
variable {P:Program} {ops:Array Oper} {Q:Exit→Act→World→Prop} {md:Region.Mode} {z:Nat}
theorem Ways.firstT {i:Nat}{oi:Oper}{v:Value}(hi:ops[i]? = some oi) (hsel:∀ (j:Nat) (o:Oper) cs b,ops[j]? = some o→o.op≠.select cs b)
  (hQ:∀ c a w,Q (.panic c) (a.put oi.dst v) w→Q (.panic c) a w) :
  ∀ (n:Nat) (L:Array Bool) (a:Act) (w:World),
   (∀ j oj,ops[j]? = some oj→j≠i→L.getD j true=false→(∀ e∈oj.after,Region.binds md e=true→e.on≠i)→oi.apart ops oj=true)→
   i∈Region.ready md ops L→YieldsIf P ops (fun _=>True) oi v a→
   Ways P md ops Q (fun _=>True) z n (L.setIfInBounds i true) (a.put oi.dst v) w→Ways P md ops Q (fun _=>True) z (n+1) L a w:=by
 intro n
 induction n with
 | zero =>
  intro L a w _ hr hy H
  refine⟨fun h=>(by rw[h]at hr;cases hr),fun j hj=>?_⟩
  by_cases qe:j=i
  ·exact jdF
  exact jeI
 | succ n ih =>
 intro L a w hfree hr hy H
 refine⟨fun h=>(by rw[h]at hr;cases hr),fun j hj=>?_⟩
 by_cases qe:j=i
 ·exact jdF
 have h1:=H.2 j (ready_mono hj qe);obtain⟨iB,oj,Ya,mj⟩:=mem_ready.1 hj
 have Y9:∀ e∈oj.after,Region.binds md e=true→e.on≠i:=fun e he hb heq=>by
  exact ja1
 have h2:=jfF
 refine wpOp_mono (fun a' w' h3=>?_) h2
 obtain⟨PT,_,hW⟩:=h3
 refine⟨fun _=>trivial,ih (L.setIfInBounds j true) a' w' ?_ (ready_mono hr (Ne.symm qe)) PT ?_⟩
 ·exact jbb
 exact jcz
theorem Ways.takeT {i:Nat}{oi:Oper}{v:Value}{n:Nat}{L:Array Bool}{a:Act}{w:World}(hi:ops[i]? = some oi)
  (hs:(Region.noSelect ops&&(Region.free md ops L i&&(Region.ready md ops L).contains i))=true)
  (hQ:∀ c a w,Q (.panic c) (a.put oi.dst v) w→Q (.panic c) a w) (hy:YieldsIf P ops (fun _=>True) oi v a)
  (h:Ways P md ops Q (fun _=>True) z n (L.setIfInBounds i true) (a.put oi.dst v) w):Ways P md ops Q (fun _=>True) z (n+1) L a w:=by
 simp only[Bool.and_eq_true]at hs
 obtain⟨h1,h2,h3⟩:=hs
 exact Ways.firstT hi (Region.noSelect_spec h1) hQ n L a w (Region.free_spec hi h2) (by simpa using h3) hy h
theorem Ways.firstS {i:Nat}{oi:Oper}{v:Value}{S:World→Prop}(hz:ops.size≤z) (hi:ops[i]? = some oi) (hsel:∀ (j:Nat) (o:Oper) cs b,ops[j]? = some o→o.op≠.select cs b)
  (hQ:∀ c a w,Q (.panic c) (a.put oi.dst v) w→Q (.panic c) a w) :
  ∀ (n:Nat) (L:Array Bool) (a:Act) (w:World),
   (∀ j oj,ops[j]? = some oj→j≠i→L.getD j true=false→(∀ e∈oj.after,Region.binds md e=true→e.on≠i)→oi.apart ops oj=true)→
   i∈Region.ready md ops L→YieldsIf P ops S oi v a→S w→
   Ways P md ops Q S z n (L.setIfInBounds i true) (a.put oi.dst v) w→Ways P md ops Q S z (n+1) L a w:=by
 intro n
 induction n with
 | zero =>
  intro L a w _ hr hy hS H
  exact jca
 | succ n ih =>
 intro L a w hfree hr hy hS H
 refine⟨fun h=>(by rw[h]at hr;cases hr),fun j hj=>?_⟩
 by_cases qe:j=i
 ·exact jeK
 have h1:=H.2 j (ready_mono hj qe);obtain⟨iB,oj,Ya,mj⟩:=mem_ready.1 hj
 have Y9:∀ e∈oj.after,Region.binds md e=true→e.on≠i:=fun e he hb heq=>by
  exact ja1
 have h2:=jfF
 refine wpOp_mono (fun a' w' h3=>?_) h2
 obtain⟨PT,tp,hW⟩:=h3;have M8:j≠z:=fun h=>by have:=(Array.getElem?_eq_some_iff.1 Ya).1;omega
 refine⟨fun _=>tp M8,ih (L.setIfInBounds j true) a' w' ?_ (ready_mono hr (Ne.symm qe)) PT (tp M8) ?_⟩
 ·exact jbb
 exact jcz
theorem Ways.takeS {S:World→Prop}{i:Nat}{oi:Oper}{v:Value}{n:Nat}{L:Array Bool}{a:Act}{w:World}(hi:ops[i]? = some oi)
  (hs:(decide (ops.size≤z)&&(Region.noSelect ops&&(Region.free md ops L i&&(Region.ready md ops L).contains i)))=true)
  (hQ:∀ c a w,Q (.panic c) (a.put oi.dst v) w→Q (.panic c) a w) (hy:YieldsIf P ops S oi v a) (hS:S w)
  (h:Ways P md ops Q S z n (L.setIfInBounds i true) (a.put oi.dst v) w):Ways P md ops Q S z (n+1) L a w:=by
 simp only[Bool.and_eq_true,decide_eq_true_eq]at hs
 obtain⟨h0,h1,h2,h3⟩:=hs
 exact Ways.firstS h0 hi (Region.noSelect_spec h1) hQ n L a w (Region.free_spec hi h2) (by simpa using h3) hy hS h
end
section
variable {P:Program} {ops:Array Oper} {Q:Exit→Act→World→Prop} {md:Region.Mode} {S:World→Prop} {z:Nat}
def WaysZ (P:Program) (md:Region.Mode) (ops:Array Oper) (Q:Exit→Act→World→Prop) (S:World→Prop) (z:Nat):Nat→Array Bool→Act→World→Prop
 | 0,L,a,w=>Region.ready md ops L=[]∧Q .normal a w
 | n+1,L,a,w=>(Region.ready md ops L=[]→Q .normal a w)∧
   ∀ i∈Region.ready md ops L,wpOp P ops Q i (fun a' w'=>((L.setIfInBounds i true).getD z true=false→S w')∧WaysZ P md ops Q S z n (L.setIfInBounds i true) a' w') a w
theorem WaysZ.any:∀ (n:Nat) (L:Array Bool) (a:Act) (w:World),WaysZ P md ops Q S z n L a w→wpAny P md ops Q n L a w
 | 0,_,_,_,h=>h
 | n+1,_,_,_,h=>⟨h.1,fun i hi=>wpOp_mono (fun a' w' k=>WaysZ.any n _ a' w' k.2) (h.2 i hi)⟩
theorem WaysZ.first {T:Bool}{i:Nat}{oi:Oper}{v:Value}(hi:ops[i]? = some oi) (hsel:∀ (j:Nat) (o:Oper) cs b,ops[j]? = some o→o.op≠.select cs b)
  (hQ:∀ c a w,Q (.panic c) (a.put oi.dst v) w→Q (.panic c) a w) (hT:T=false→R7 md ops z i∧z<ops.size) (WU:i≠z) :
  ∀ (n:Nat) (L:Array Bool) (a:Act) (w:World),(T=false→Closed md ops L∧L.size=ops.size∧L.getD z true=false)→
   (∀ j oj,ops[j]? = some oj→j≠i→L.getD j true=false→(∀ e∈oj.after,Region.binds md e=true→e.on≠i)→oi.apart ops oj=true)→
   i∈Region.ready md ops L→YieldsIf P ops (fun w=>T=false→S w) oi v a→(L.getD z true=false→S w)→
   WaysZ P md ops Q S z n (L.setIfInBounds i true) (a.put oi.dst v) w→WaysZ P md ops Q S z (n+1) L a w:=by
 intro n
 induction n with
 | zero =>
  intro L a w hC _ hr hy hS H
  refine⟨fun h=>(by rw[h]at hr;cases hr),fun j hj=>?_⟩
  by_cases qe:j=i
  ·exact jcL
  exact jeI
 | succ n ih =>
 intro L a w hC hfree hr hy hS H
 refine⟨fun h=>(by rw[h]at hr;cases hr),fun j hj=>?_⟩
 by_cases qe:j=i
 ·exact jcL
 have h1:=H.2 j (ready_mono hj qe);obtain⟨iB,oj,Ya,mj⟩:=mem_ready.1 hj
 have Y9:∀ e∈oj.after,Region.binds md e=true→e.on≠i:=fun e he hb heq=>by
  exact ja1
 have h2:=jfF
 refine wpOp_mono (fun a' w' h3=>?_) h2
 obtain⟨PT,tp,hW⟩:=h3
 have e2:((L.setIfInBounds i true).setIfInBounds j true).getD z true=(L.setIfInBounds j true).getD z true:=by
  rw[Array.setIfInBounds_comm _ _ (Ne.symm qe)]
  exact getD_set_ne true WU
 rw[e2]at tp
 refine⟨tp,ih (L.setIfInBounds j true) a' w' (fun ht=>?_) ?_ (ready_mono hr (Ne.symm qe)) PT tp ?_⟩
 ·obtain⟨c1,c2,c3⟩:=hC ht;have M8:j≠z:=fun h=>(hT ht).1 L c1 (mem_ready.1 hr).1 (h ▸ hj)
  exact⟨c1.step hj,by simp[c2],by rw[getD_set_ne true M8];exact c3⟩
 ·exact jbb
 exact jcz
theorem WaysZ.take {i:Nat}{oi:Oper}{v:Value}{n:Nat}{L:Array Bool}{a:Act}{w:World}(hi:ops[i]? = some oi)
  (hs:(Region.noSelect ops&&(Region.free md ops L i&&((Region.ready md ops L).contains i&&(pA md ops L&&(i != z&&((decide (L.size=ops.size)&&(decide (z<ops.size) && !(L.getD z true)))&&(match ops[z]? with | some o=>o.after.any fun e=>Region.binds md e&&o7 md ops 8 e.on i | none=>false)))))))=true)
  (hQ:∀ c a w,Q (.panic c) (a.put oi.dst v) w→Q (.panic c) a w) (hy:YieldsIf P ops S oi v a) (hS:S w)
  (h:WaysZ P md ops Q S z n (L.setIfInBounds i true) (a.put oi.dst v) w):WaysZ P md ops Q S z (n+1) L a w:=by
 simp only[Bool.and_eq_true,decide_eq_true_eq]at hs
 obtain⟨h1,h2,h3,h4,h5,⟨h7,h8,h9⟩,h6⟩:=hs
 refine WaysZ.first (T:=false) hi (Region.noSelect_spec h1) hQ (fun _=>⟨Zc 8 h6,h8⟩) (by simpa using h5) n L a w (fun _=>⟨ki h4,h7,by simpa using h9⟩) (Region.free_spec hi h2) (by simpa using h3) ?_ (fun _=>hS) h
 simpa using hy
theorem WaysZ.takeT {i:Nat}{oi:Oper}{v:Value}{n:Nat}{L:Array Bool}{a:Act}{w:World}(hi:ops[i]? = some oi)
  (hs:(Region.noSelect ops&&(Region.free md ops L i&&((Region.ready md ops L).contains i&&i != z)))=true)
  (hQ:∀ c a w,Q (.panic c) (a.put oi.dst v) w→Q (.panic c) a w) (hy:YieldsIf P ops (fun _=>True) oi v a) (hS:L.getD z true=false→S w)
  (h:WaysZ P md ops Q S z n (L.setIfInBounds i true) (a.put oi.dst v) w):WaysZ P md ops Q S z (n+1) L a w:=by
 simp only[Bool.and_eq_true]at hs
 obtain⟨h1,h2,h3,h5⟩:=hs
 refine WaysZ.first (T:=true) hi (Region.noSelect_spec h1) hQ (fun h=>by cases h) (by simpa using h5) n L a w (fun h=>by cases h) (Region.free_spec hi h2) (by simpa using h3) ?_ hS h
 simpa using hy
theorem WaysZ.one {i:Nat}{o:Oper}{n:Nat}{L:Array Bool}{a:Act}{w:World}(hi:ops[i]? = some o) (hr:Region.ready md ops L=[i])
  (h:∀ K:Act→World→Prop,Shut (∀ a w,((L.setIfInBounds i true).getD z true=false→S w)→(((L.setIfInBounds i true).getD z true=false→S w)→WaysZ P md ops Q S z n (L.setIfInBounds i true) a w)→K a w)→
   if Region.wanted o (yielded ops a.tmps)=true then Oper.wp P o a w K Q else K (a.put o.dst undef) w):WaysZ P md ops Q S z (n+1) L a w:=by
 exact jey
theorem WaysZ.done {L:Array Bool}{a:Act}{w:World}{n:Nat}(hr:Region.ready md ops L=[]) (h:Q .normal a w):WaysZ P md ops Q S z n L a w:=by
 exact jdb
theorem rm {id:Nat}{a:Act}{w:World}(z:Nat) (S:World→Prop) (hm:P.follows .mixedOrders=true) (hS:S w.drew)
  (h:S w.drew→WaysZ P .any ops Q S z ops.size (Array.replicate ops.size false) a w.drew):(Code.region id ops true).wp P Q a w :=
 wp_region_any hm (WaysZ.any _ _ _ _ (h hS))
end
theorem Hh {p:Prop}(h:p):Hid p:=Lib.hid h
theorem Blk.gr {w w':World}{g k:Nat}{t:TypeId}{cs:Array Value}(h:Blk w g t cs) (hb:w.grownBy w' (some k)) (hg:k≠g):Blk w' g t cs:=h.grown hb (by intro e;injection e with e;exact hg e)
abbrev zz1 := @List.getElem_toArray
abbrev zz2 := @List.getElem_cons_zero
abbrev zz3 := @List.getElem_cons_succ
abbrev zz4 := @List.setIfInBounds_toArray
abbrev zz5 := @List.set_cons_zero
abbrev zz6 := @List.set_cons_succ
theorem Tk {P:Program}{md:Region.Mode}{ops:Array Oper}{Q:Exit→Act→World→Prop}{z:Nat}{S:World→Prop}(i:Nat) {oi:Oper}{v:Value}{n:Nat}{L:Array Bool}{a:Act}{w:World}{a':Act}(hi:ops[i]? = some oi) (hS:S w) (h:Ways P md ops Q S z n (L.setIfInBounds i true) a' w)
  (hs:(Region.noSelect ops&&(Region.free md ops L i&&((Region.ready md ops L).contains i&&(pA md ops L&&(i != z&&(match ops[z]? with | some o=>o.after.any fun e=>Region.binds md e&&o7 md ops 8 e.on i | none=>false))))))=true:=by kernel_rfl) (hw:Region.wanted oi (yielded ops a.tmps)=true:=by rfl) (hy:∀ w,S w→Sem.run P (execOp a.eval oi) w=Result.ok (Next.value v) w:=by intro w s;(try dsimp only at s);go_simp;try with_reducible rfl) (ha:a.put oi.dst v=a':=by(try simp only[Act.put,zz1,zz2,zz3,zz4,zz5,zz6]);with_reducible rfl) (hQ:∀ c a w,Q (.panic c) (a.put oi.dst v) w→Q (.panic c) a w:=by exact fun _ _ _ h=>h):Ways P md ops Q S z (n+1) L a w:=by subst ha;exact Ways.take hi hs hQ (Or.inl ⟨hw,hy⟩) hS h
theorem TkG {P:Program}{md:Region.Mode}{ops:Array Oper}{Q:Exit→Act→World→Prop}{z:Nat}{S:World→Prop}(i:Nat) {oi:Oper}{v:Value}{n:Nat}{L:Array Bool}{a:Act}{w:World}{a':Act}(hi:ops[i]? = some oi) (hS:S w) (h:Ways P md ops Q S z n (L.setIfInBounds i true) a' w)
  (hs:(Region.noSelect ops&&(Region.free md ops L i&&((Region.ready md ops L).contains i&&(pA md ops L&&(i != z&&(match ops[z]? with | some o=>o.after.any fun e=>Region.binds md e&&o7 md ops 8 e.on i | none=>false))))))=true:=by kernel_rfl) (hw:Region.wanted oi (yielded ops a.tmps)=true:=by kernel_rfl) (hy:∀ w,S w→Sem.run P (execOp a.eval oi) w=Result.ok (Next.value v) w:=by intro w s;(try dsimp only at s);go_simp;try with_reducible rfl) (ha:a.put oi.dst v=a':=by(try simp only[Act.put,zz1,zz2,zz3,zz4,zz5,zz6]);with_reducible rfl) (hQ:∀ c a w,Q (.panic c) (a.put oi.dst v) w→Q (.panic c) a w:=by exact fun _ _ _ h=>h):Ways P md ops Q S z (n+1) L a w:=by subst ha;exact Ways.take hi hs hQ (Or.inl ⟨hw,hy⟩) hS h
theorem TkU {P:Program}{md:Region.Mode}{ops:Array Oper}{Q:Exit→Act→World→Prop}{z:Nat}{S:World→Prop}(i:Nat) {oi:Oper}{n:Nat}{L:Array Bool}{a:Act}{w:World}{a':Act}(hi:ops[i]? = some oi) (hS:S w) (h:Ways P md ops Q S z n (L.setIfInBounds i true) a' w)
  (hs:(Region.noSelect ops&&(Region.free md ops L i&&((Region.ready md ops L).contains i&&(pA md ops L&&(i != z&&(match ops[z]? with | some o=>o.after.any fun e=>Region.binds md e&&o7 md ops 8 e.on i | none=>false))))))=true:=by kernel_rfl) (hw:Region.wanted oi (yielded ops a.tmps)=false:=by kernel_rfl) (ha:a.put oi.dst undef=a':=by(try simp only[Act.put,zz1,zz2,zz3,zz4,zz5,zz6]);with_reducible rfl) (hQ:∀ c a w,Q (.panic c) (a.put oi.dst undef) w→Q (.panic c) a w:=by exact fun _ _ _ h=>h):Ways P md ops Q S z (n+1) L a w:=by subst ha;exact Ways.take hi hs hQ (Or.inr ⟨hw,rfl⟩) hS h
theorem To {P:Program}{md:Region.Mode}{ops:Array Oper}{Q:Exit→Act→World→Prop}{z:Nat}{S:World→Prop}(i:Nat) {o:Oper}{n:Nat}{L:Array Bool}{a:Act}{w:World}(hi:ops[i]? = some o)
  (h:∀ K:Act→World→Prop,Shut (∀ a w,(i≠z→S w)→((i≠z→S w)→Ways P md ops Q S z n (L.setIfInBounds i true) a w)→K a w)→if Region.wanted o (yielded ops a.tmps)=true then Oper.wp P o a w K Q else K (a.put o.dst undef) w)
  (hr:Region.ready md ops L=[i]:=by kernel_rfl):Ways P md ops Q S z (n+1) L a w:=Ways.one hi hr h
theorem Wd {P:Program}{md:Region.Mode}{ops:Array Oper}{Q:Exit→Act→World→Prop}{z:Nat}{S:World→Prop}{n:Nat}{L:Array Bool}{a:Act}{w:World}(h:Q .normal a w) (hr:Region.ready md ops L=[]:=by kernel_rfl):Ways P md ops Q S z n L a w:=Ways.done hr h
theorem Ko {K W:Act→World→Prop}{S:World→Prop}{p:Prop}{a a':Act}{w:World}(hK:Shut (∀ a w,(p→S w)→((p→S w)→W a w)→K a w)) (hs:S w) (h:S w→W a' w) (ha:a=a':=by(try simp only[Act.put,zz1,zz2,zz3,zz4,zz5,zz6]);with_reducible rfl) (hp:p:=by decide):K a w:=by subst ha;exact hK.out _ _ (fun _=>hs) (fun g=>h (g hp))
theorem Kz {K W:Act→World→Prop}{S:World→Prop}{p:Prop}{a a':Act}{w:World}(hK:Shut (∀ a w,(p→S w)→((p→S w)→W a w)→K a w)) (h:W a' w) (ha:a=a':=by(try simp only[Act.put,zz1,zz2,zz3,zz4,zz5,zz6]);with_reducible rfl) (hp:¬ p:=by decide):K a w:=by subst ha;exact hK.out _ _ (fun g=>absurd g hp) (fun _=>h)
theorem TkT {P:Program}{md:Region.Mode}{ops:Array Oper}{Q:Exit→Act→World→Prop}{z:Nat}(i:Nat) {oi:Oper}{v:Value}{n:Nat}{L:Array Bool}{a:Act}{w:World}{a':Act}(hi:ops[i]? = some oi) (h:Ways P md ops Q (fun _=>True) z n (L.setIfInBounds i true) a' w)
  (hs:(Region.noSelect ops&&(Region.free md ops L i&&(Region.ready md ops L).contains i))=true:=by kernel_rfl) (hw:Region.wanted oi (yielded ops a.tmps)=true:=by rfl) (hy:∀ w,(fun _=>True) w→Sem.run P (execOp a.eval oi) w=Result.ok (Next.value v) w:=by intro w s;go_simp;try with_reducible rfl) (ha:a.put oi.dst v=a':=by(try simp only[Act.put,zz1,zz2,zz3,zz4,zz5,zz6]);with_reducible rfl) (hQ:∀ c a w,Q (.panic c) (a.put oi.dst v) w→Q (.panic c) a w:=by exact fun _ _ _ h=>h):Ways P md ops Q (fun _=>True) z (n+1) L a w:=by subst ha;exact Ways.takeT hi hs hQ (Or.inl ⟨hw,hy⟩) h
theorem zA0 {P:Program}{md:Region.Mode}{ops:Array Oper}{Q:Exit→Act→World→Prop}{z:Nat}(i:Nat) {oi:Oper}{v:Value}{n:Nat}{L:Array Bool}{a:Act}{w:World}{a':Act}(hi:ops[i]? = some oi) (h:Ways P md ops Q (fun _=>True) z n (L.setIfInBounds i true) a' w)
  (hs:(Region.noSelect ops&&(Region.free md ops L i&&(Region.ready md ops L).contains i))=true:=by kernel_rfl) (hw:Region.wanted oi (yielded ops a.tmps)=true:=by kernel_rfl) (hy:∀ w,(fun _=>True) w→Sem.run P (execOp a.eval oi) w=Result.ok (Next.value v) w:=by intro w s;go_simp;try with_reducible rfl) (ha:a.put oi.dst v=a':=by(try simp only[Act.put,zz1,zz2,zz3,zz4,zz5,zz6]);with_reducible rfl) (hQ:∀ c a w,Q (.panic c) (a.put oi.dst v) w→Q (.panic c) a w:=by exact fun _ _ _ h=>h):Ways P md ops Q (fun _=>True) z (n+1) L a w:=by subst ha;exact Ways.takeT hi hs hQ (Or.inl ⟨hw,hy⟩) h
theorem TkS {P:Program}{md:Region.Mode}{ops:Array Oper}{Q:Exit→Act→World→Prop}{z:Nat}{S:World→Prop}(i:Nat) {oi:Oper}{v:Value}{n:Nat}{L:Array Bool}{a:Act}{w:World}{a':Act}(hi:ops[i]? = some oi) (hS:S w) (h:Ways P md ops Q S z n (L.setIfInBounds i true) a' w)
  (hs:(decide (ops.size≤z)&&(Region.noSelect ops&&(Region.free md ops L i&&(Region.ready md ops L).contains i)))=true:=by kernel_rfl) (hw:Region.wanted oi (yielded ops a.tmps)=true:=by rfl) (hy:∀ w,S w→Sem.run P (execOp a.eval oi) w=Result.ok (Next.value v) w:=by intro w s;(try dsimp only at s);go_simp;try with_reducible rfl) (ha:a.put oi.dst v=a':=by(try simp only[Act.put,zz1,zz2,zz3,zz4,zz5,zz6]);with_reducible rfl) (hQ:∀ c a w,Q (.panic c) (a.put oi.dst v) w→Q (.panic c) a w:=by exact fun _ _ _ h=>h):Ways P md ops Q S z (n+1) L a w:=by subst ha;exact Ways.takeS hi hs hQ (Or.inl ⟨hw,hy⟩) hS h
theorem zA2 {P:Program}{md:Region.Mode}{ops:Array Oper}{Q:Exit→Act→World→Prop}{z:Nat}{S:World→Prop}(i:Nat) {oi:Oper}{v:Value}{n:Nat}{L:Array Bool}{a:Act}{w:World}{a':Act}(hi:ops[i]? = some oi) (hS:S w) (h:Ways P md ops Q S z n (L.setIfInBounds i true) a' w)
  (hs:(decide (ops.size≤z)&&(Region.noSelect ops&&(Region.free md ops L i&&(Region.ready md ops L).contains i)))=true:=by kernel_rfl) (hw:Region.wanted oi (yielded ops a.tmps)=true:=by kernel_rfl) (hy:∀ w,S w→Sem.run P (execOp a.eval oi) w=Result.ok (Next.value v) w:=by intro w s;(try dsimp only at s);go_simp;try with_reducible rfl) (ha:a.put oi.dst v=a':=by(try simp only[Act.put,zz1,zz2,zz3,zz4,zz5,zz6]);with_reducible rfl) (hQ:∀ c a w,Q (.panic c) (a.put oi.dst v) w→Q (.panic c) a w:=by exact fun _ _ _ h=>h):Ways P md ops Q S z (n+1) L a w:=by subst ha;exact Ways.takeS hi hs hQ (Or.inl ⟨hw,hy⟩) hS h
theorem zA1 {P:Program}{md:Region.Mode}{ops:Array Oper}{Q:Exit→Act→World→Prop}{z:Nat}{S:World→Prop}(i:Nat) {oi:Oper}{n:Nat}{L:Array Bool}{a:Act}{w:World}{a':Act}(hi:ops[i]? = some oi) (hS:S w) (h:Ways P md ops Q S z n (L.setIfInBounds i true) a' w)
  (hs:(decide (ops.size≤z)&&(Region.noSelect ops&&(Region.free md ops L i&&(Region.ready md ops L).contains i)))=true:=by kernel_rfl) (hw:Region.wanted oi (yielded ops a.tmps)=false:=by kernel_rfl) (ha:a.put oi.dst undef=a':=by(try simp only[Act.put,zz1,zz2,zz3,zz4,zz5,zz6]);with_reducible rfl) (hQ:∀ c a w,Q (.panic c) (a.put oi.dst undef) w→Q (.panic c) a w:=by exact fun _ _ _ h=>h):Ways P md ops Q S z (n+1) L a w:=by subst ha;exact Ways.takeS hi hs hQ (Or.inr ⟨hw,rfl⟩) hS h
theorem Zk {P:Program}{md:Region.Mode}{ops:Array Oper}{Q:Exit→Act→World→Prop}{z:Nat}{S:World→Prop}(i:Nat) {oi:Oper}{v:Value}{n:Nat}{L:Array Bool}{a:Act}{w:World}{a':Act}(hi:ops[i]? = some oi) (hS:S w) (h:WaysZ P md ops Q S z n (L.setIfInBounds i true) a' w)
  (hs:(Region.noSelect ops&&(Region.free md ops L i&&((Region.ready md ops L).contains i&&(pA md ops L&&(i != z&&((decide (L.size=ops.size)&&(decide (z<ops.size) && !(L.getD z true)))&&(match ops[z]? with | some o=>o.after.any fun e=>Region.binds md e&&o7 md ops 8 e.on i | none=>false)))))))=true:=by kernel_rfl) (hw:Region.wanted oi (yielded ops a.tmps)=true:=by rfl) (hy:∀ w,S w→Sem.run P (execOp a.eval oi) w=Result.ok (Next.value v) w:=by intro w s;(try dsimp only at s);go_simp;try with_reducible rfl) (ha:a.put oi.dst v=a':=by(try simp only[Act.put,zz1,zz2,zz3,zz4,zz5,zz6]);with_reducible rfl) (hQ:∀ c a w,Q (.panic c) (a.put oi.dst v) w→Q (.panic c) a w:=by exact fun _ _ _ h=>h):WaysZ P md ops Q S z (n+1) L a w:=by subst ha;exact WaysZ.take hi hs hQ (Or.inl ⟨hw,hy⟩) hS h
theorem ZkT {P:Program}{md:Region.Mode}{ops:Array Oper}{Q:Exit→Act→World→Prop}{z:Nat}{S:World→Prop}(i:Nat) {oi:Oper}{v:Value}{n:Nat}{L:Array Bool}{a:Act}{w:World}{a':Act}(hi:ops[i]? = some oi) (hS:L.getD z true=false→S w) (h:WaysZ P md ops Q S z n (L.setIfInBounds i true) a' w)
  (hs:(Region.noSelect ops&&(Region.free md ops L i&&((Region.ready md ops L).contains i&&i != z)))=true:=by kernel_rfl) (hw:Region.wanted oi (yielded ops a.tmps)=true:=by rfl) (hy:∀ w,(fun _=>True) w→Sem.run P (execOp a.eval oi) w=Result.ok (Next.value v) w:=by intro w s;go_simp;try with_reducible rfl) (ha:a.put oi.dst v=a':=by(try simp only[Act.put,zz1,zz2,zz3,zz4,zz5,zz6]);with_reducible rfl) (hQ:∀ c a w,Q (.panic c) (a.put oi.dst v) w→Q (.panic c) a w:=by exact fun _ _ _ h=>h):WaysZ P md ops Q S z (n+1) L a w:=by subst ha;exact WaysZ.takeT hi hs hQ (Or.inl ⟨hw,hy⟩) hS h
theorem Zo {P:Program}{md:Region.Mode}{ops:Array Oper}{Q:Exit→Act→World→Prop}{z:Nat}{S:World→Prop}(i:Nat) {o:Oper}{n:Nat}{L:Array Bool}{a:Act}{w:World}(hi:ops[i]? = some o)
  (h:∀ K:Act→World→Prop,Shut (∀ a w,((L.setIfInBounds i true).getD z true=false→S w)→(((L.setIfInBounds i true).getD z true=false→S w)→WaysZ P md ops Q S z n (L.setIfInBounds i true) a w)→K a w)→
      if Region.wanted o (yielded ops a.tmps)=true then Oper.wp P o a w K Q else K (a.put o.dst undef) w)
  (hr:Region.ready md ops L=[i]:=by kernel_rfl):WaysZ P md ops Q S z (n+1) L a w:=WaysZ.one hi hr h
theorem OwnB.kl {w w':World}{base N:Nat}{v:Value}{l:List UInt8}(h:OwnB w base v l) (hg:w.grownBy w' (some N)) (hl:∀ q,v.ownBlock=some q→q<N):OwnB w' base v l:=h.kept hg (by cases hv:v.ownBlock with | none=>exact .inl rfl | some q=>exact .inr (fun e=>by injection e with e;exact Nat.lt_irrefl _ (e ▸ hl q hv)))
theorem OwnI.kl {w w':World}{base N:Nat}{v:Value}{H:Snap}{l:List Itm}(h:OwnI w base v H l) (hg:w.grownBy w' (some N)) (hl:∀ q,v.ownBlock=some q→q<N):OwnI w' base v H l:=h.kept hg (by cases hv:v.ownBlock with | none=>exact .inl rfl | some q=>exact .inr (fun e=>by injection e with e;exact Nat.lt_irrefl _ (e ▸ hl q hv)))
end Go.Proofs.YtkmlnjociijpgaaGreatDoor
