/- squeezed. Walks: the law's claims. -/
import Derived.Test.YtgcjjhibdbafmabGreatDoorK22
set_option linter.unusedVariables false
set_option linter.unusedSimpArgs false
set_option maxRecDepth 100000
set_option maxHeartbeats 25600000
namespace Go.Proofs.YtgcjjhibdbafmabGreatDoor
open Go.RowKit
structure CK (W0:World) (H:Snap) (g R:Nat) (w:World) (Hr:Snap):Prop where
 dealt:Dealt W0 H w Hr g
 res:Blk w R 26 yR
 hR:Hr R=none
 gW:g<W0.heap.size
 wR:W0.heap.size≤R
structure OB (W0:World) (g R:Nat) (t:TypeId) (B:Nat) (cs:Array Value) (w:World) (Hr:Snap):Prop where
 blk:Blk w B t cs
 none:Hr B=none
 far:W0.heap.size≤B
 ne:B≠R
section
variable {W0 w w':World} {H Hr Hs:Snap} {g R B B':Nat} {t:TypeId} {cs cs':Array Value}
theorem CK.step (h:CK W0 H g R w Hr) (hd:Dealt w Hr w' Hs g):CK W0 H g R w' Hs :=
 ⟨h.dealt.trans hd,h.res.dealt hd (by have:=h.gW;have:=h.wR;omega),hd.hid h.hR h.res.lt,h.gW,h.wR⟩
theorem CK.grow (h:CK W0 H g R w Hr) (k:Grows w Hr w' Hs):CK W0 H g R w' Hs:=h.step (h.dealt.deck.grows k)
theorem CK.alloc (h:CK W0 H g R w Hr) (o:Obj):CK W0 H g R (w.alloc o) Hr:=h.grow ((Grows.refl h.dealt.holds).alloc o)
theorem CK.drew (h:CK W0 H g R w Hr):CK W0 H g R w.drew Hr:=h.grow ((Grows.refl h.dealt.holds).drew)
theorem CK.put (h:CK W0 H g R w Hr) (o:OB W0 g R t B cs w Hr) (hg:w.grownBy w' (some B)):CK W0 H g R w' Hr :=
 ⟨h.dealt.grownRow (by rintro q ⟨⟩;exact o.none) (by rintro q ⟨⟩;exact o.far) h.gW hg,h.res.grown hg (fun e=>by injection e with e;exact o.ne e),h.hR,h.gW,h.wR⟩
theorem CK.new (h:CK W0 H g R w Hr) (t:TypeId) (cs:Array Value):OB W0 g R t w.heap.size cs (w.alloc (.cells cs t)) Hr :=
 ⟨Blk.new _ _ _,h.dealt.holds.none_of_ge (Nat.le_refl _),h.dealt.size,by have:=h.res.lt;omega⟩
theorem OB.step (o:OB W0 g R t B cs w Hr) (hgW:g<W0.heap.size) (hd:Dealt w Hr w' Hs g):OB W0 g R t B cs w' Hs :=
 ⟨o.blk.dealt hd (by have:=o.far;omega),hd.hid o.none o.blk.lt,o.far,o.ne⟩
theorem OB.alloc (o:OB W0 g R t B cs w Hr) (x:Obj):OB W0 g R t B cs (w.alloc x) Hr:=⟨o.blk.alloc x,o.none,o.far,o.ne⟩
theorem OB.kept (o:OB W0 g R t B cs w Hr) (hg:w.grownBy w' (some B')) (xH:B'≠B):OB W0 g R t B cs w' Hr:=⟨o.blk.grown hg (by intro e;injection e with e;exact xH e),o.none,o.far,o.ne⟩
theorem OB.set (o:OB W0 g R t B cs w Hr) (hB:Blk w' B t cs'):OB W0 g R t B cs' w' Hr:=⟨hB,o.none,o.far,o.ne⟩
end
theorem Blk.same {w:World}{B B':Nat}{t t':TypeId}{cs cs':Array Value}(h:Blk w B t cs) (h':Blk w B' t' cs') (ht:t≠t'):B≠B':=fun e=>by
 subst e
 unfold Blk at h h'
 rw[h]at h';injection h' with h'
 injection h' with h1 h2
 exact ht h2
abbrev Wq:Array Value:=#[.string ⟨#[]⟩,.string ⟨#[114,111,111,116]⟩,.string ⟨#[120]⟩]
def eM (i:ByteArray):Prop:=i=⟨#[]⟩∨i=⟨#[114,111,111,116]⟩∨i=⟨#[120]⟩
theorem Oh {w:World}{B:Nat}{t:TypeId}(h:Blk w B t Wq) (j:Nat) (hj:j<3):∃ s:ByteArray,w.cell? ⟨B,j,none⟩=some (.string s)∧eM s:=by
 rcases(by omega:j=0∨j=1∨j=2) with rfl | rfl | rfl
 ·exact⟨_,h.cell 0 rfl,.inl rfl⟩
 ·exact⟨_,h.cell 1 rfl,.inr (.inl rfl)⟩
 exact⟨_,h.cell 2 rfl,.inr (.inr rfl)⟩
theorem TH {w:World}{B:Nat}{t:TypeId}{x y:Int}(h:Blk w B t #[.int .i64 x,.int .i64 y]) (j:Nat) (hj:j<2):∃ v:Int,w.cell? ⟨B,j,none⟩=some (.int .i64 v)∧(v=x∨v=y):=by
 rcases(by omega:j=0∨j=1) with rfl | rfl
 ·exact⟨_,h.cell 0 rfl,.inl rfl⟩
 exact⟨_,h.cell 1 rfl,.inr rfl⟩
theorem We:∀ (n j:Nat),(Array.replicate n false).getD j false=true→False:=fun n j h=>by
 rcases Nat.lt_or_ge j n with h' | h'
 ·simp[h']at h
 simp[Nat.not_lt.2 h']at h
def E1 (W0:World) (g R:Nat) (j:Nat) (S:Nat→Value) (w:World) (Hx:Snap):Prop:=match j with
 | 0=>∃ B,S 0=.slice (some ⟨B,0,none⟩) 3 3∧OB W0 g R 9 B Wq w Hx
 | 1=>S 1=.pointer (some ⟨g,0,none⟩)
 | 2=>∃ k:Nat,S 2=.int .i64 (k:Int)∧k<3
 | 3=>∃ B k,S 3=.pointer (some ⟨B,k,none⟩)∧k<3∧OB W0 g R 9 B Wq w Hx
 | 4=>∃ s,S 4=.string s∧eM s
 | 5=>S 5=.pointer (some ⟨g,0,none⟩)
 | 6=>∃ s,S 6=.string s∧s.size≤9∧Neu s
 | 7=>∃ s,S 7=.string (⟨#[115]⟩++s)∧s.size≤9∧Neu s
 | 8=>S 8=.pointer (some ⟨g,0,none⟩)
 | 9=>∃ k:Nat,S 9=.int .i64 (k:Int)∧k<30
 | 10=>∃ (i s:ByteArray) (k:Nat),S 10=.agg (clC i (⟨#[115]⟩++s) (k:Int) 0 0 0 0 none 0 0 none 0 0 none 0 0 none 0 0)∧eM i∧s.size≤9∧Neu s∧k<30
 | 11=>∃ B cs,S 11=.pointer (some ⟨B,0,none⟩)∧OB W0 g R 26 B cs w Hx∧cs.size=11
 | 12=>∃ (B:Nat) (i s:ByteArray) (k:Nat),S 11=.pointer (some ⟨B,0,none⟩)∧OB W0 g R 26 B (clC i (⟨#[115]⟩++s) (k:Int) 0 0 0 0 none 0 0 none 0 0 none 0 0 none 0 0) w Hx∧eM i∧s.size≤9∧Neu s∧k<30
 | _=>True
section
variable {W0:World} {g R:Nat} {S:Nat→Value} {w w':World} {Hx Hs:Snap} {i j:Nat} {v:Value}
theorem R0 (wH:j≠i) (ea:j=12→i≠11) (h:E1 W0 g R j S w Hx):E1 W0 g R j (upd S i v) w Hx:=by
 match j,wH,ea,h with
 | 0,wH,_,h=>unfold E1 at h⊢;simp only at h⊢;rw[xQ wH];exact h
 | 1,wH,_,h=>unfold E1 at h⊢;simp only at h⊢;rw[xQ wH];exact h
 | 2,wH,_,h=>unfold E1 at h⊢;simp only at h⊢;rw[xQ wH];exact h
 | 3,wH,_,h=>unfold E1 at h⊢;simp only at h⊢;rw[xQ wH];exact h
 | 4,wH,_,h=>unfold E1 at h⊢;simp only at h⊢;rw[xQ wH];exact h
 | 5,wH,_,h=>unfold E1 at h⊢;simp only at h⊢;rw[xQ wH];exact h
 | 6,wH,_,h=>unfold E1 at h⊢;simp only at h⊢;rw[xQ wH];exact h
 | 7,wH,_,h=>unfold E1 at h⊢;simp only at h⊢;rw[xQ wH];exact h
 | 8,wH,_,h=>unfold E1 at h⊢;simp only at h⊢;rw[xQ wH];exact h
 | 9,wH,_,h=>unfold E1 at h⊢;simp only at h⊢;rw[xQ wH];exact h
 | 10,wH,_,h=>unfold E1 at h⊢;simp only at h⊢;rw[xQ wH];exact h
 | 11,wH,_,h=>unfold E1 at h⊢;simp only at h⊢;rw[xQ wH];exact h
 | 12,_,ea,h=>unfold E1 at h⊢;simp only at h⊢;rw[xQ (Ne.symm (ea rfl))];exact h
 | n+13,_,_,_=>trivial
theorem n9 (hgW:g<W0.heap.size) (hd:Dealt w Hx w' Hs g) (h:E1 W0 g R j S w Hx):E1 W0 g R j S w' Hs:=by
 match j,h with
 | 0,h=>obtain⟨B,h1,h2⟩:=h;exact⟨B,h1,h2.step hgW hd⟩
 | 3,h=>obtain⟨B,k,h1,h2,h3⟩:=h;exact⟨B,k,h1,h2,h3.step hgW hd⟩
 | 11,h=>obtain⟨B,cs,h1,h2,h3⟩:=h;exact⟨B,cs,h1,h2.step hgW hd,h3⟩
 | 12,h=>obtain⟨B,i,s,k,h1,h2,h3⟩:=h;exact⟨B,i,s,k,h1,h2.step hgW hd,h3⟩
 | 1,h=>exact h
 | 2,h=>exact h
 | 4,h=>exact h
 | 5,h=>exact h
 | 6,h=>exact h
 | 7,h=>exact h
 | 8,h=>exact h
 | 9,h=>exact h
 | 10,h=>exact h
 | n+13,_=>trivial
theorem Qz {B:Nat}{cs:Array Value}(o:OB W0 g R 26 B cs w Hx) (Ps:S 11=.pointer (some ⟨B,0,none⟩)) {cs':Array Value}(hc:cs'.size=11) (hB:Blk w' B 26 cs') (hg:w.grownBy w' (some B)) (hj:j≠12) (h:E1 W0 g R j S w Hx):E1 W0 g R j S w' Hx:=by
 match j,hj,h with
 | 0,_,h=>obtain⟨C,h1,h2⟩:=h;exact⟨C,h1,h2.kept hg (Blk.same o.blk h2.blk (by decide))⟩
 | 3,_,h=>obtain⟨C,k,h1,h2,h3⟩:=h;exact⟨C,k,h1,h2,h3.kept hg (Blk.same o.blk h3.blk (by decide))⟩
 | 11,_,h=>exact⟨B,cs',Ps,o.set hB,hc⟩
 | 12,hj,_=>exact absurd rfl hj
 | 1,_,h=>exact h
 | 2,_,h=>exact h
 | 4,_,h=>exact h
 | 5,_,h=>exact h
 | 6,_,h=>exact h
 | 7,_,h=>exact h
 | 8,_,h=>exact h
 | 9,_,h=>exact h
 | 10,_,h=>exact h
 | n+13,_,_=>trivial
end
theorem fS {w:World}{o:Oper}{a:Act}{K:Act→World→Prop}{Q:Exit→Act→World→Prop}(ty:TypeId) (x y:Operand) (ho:o.op=.store ty x y)
  (g off:Nat) (cells:Array Value) (hx:a.eval x=.pointer (some ⟨g,off,none⟩)) (hy:a.eval y=.agg cells)
  (t:TypeId) (old:Array Value) (hB:Blk w g t old) (hi:(Tryz.prog.info? ty).map (·.size)=some cells.size) (hold:off+cells.size≤old.size) (h1:cells.all (·.oneCell')=true)
  (h:∀ w',Blk w' g t (qA old off cells.toList)→w.grownBy w' (some g)→K (a.put o.dst undef) w') :
  o.wp Tryz.prog a w K Q:=by
 refine wp_store_mid ty x y ho g off cells hx hy (fun j hj=>⟨?_,hB.frozen _⟩) hi h1 ?_
 ·obtain⟨v,hv⟩:∃ v,old[off+j]? = some v:=⟨_,Array.getElem?_eq_getElem (by omega)⟩
  rw[hB.cell _ hv];rfl
 exact h _ (hB.setCells cells.toList off) (vf g _ _ (yu w _))
abbrev clM (i s:ByteArray) (k t v al:Int) (A3:Option Addr) (n3 c3:Nat) (A1:Option Addr) (c1:Nat):Array Value:=clC i (⟨#[115]⟩++s) k t 1 v al A3 n3 c3 A1 32 c1 none 0 0 none 0 0
structure KeyF (v al:Int) (A3:Option Addr) (n3 c3:Nat) (l3:List UInt8) (A1:Option Addr) (c1:Nat) (l1:List UInt8) (Hx:Snap):Prop where
 v_:v=4∨v=6
 al_:al=0∨al = -8
 n3_:n3=l3.length
 le3:n3≤2
 b3:IsBytes Hx A3 c3 l3
 l1_:l1.length=32
 b1:IsBytes Hx A1 c1 l1
theorem KeyF.mono {v al:Int}{A3:Option Addr}{n3 c3:Nat}{l3:List UInt8}{A1:Option Addr}{c1:Nat}{l1:List UInt8}{H K:Snap}(h:KeyF v al A3 n3 c3 l3 A1 c1 l1 H) (hl:H.le K):KeyF v al A3 n3 c3 l3 A1 c1 l1 K:=⟨h.v_,h.al_,h.n3_,h.le3,h.b3.mono hl,h.l1_,h.b1.mono hl⟩
def E4 (W0:World) (g R B:Nat) (i0 s0:ByteArray) (k0 t0:Int) (j:Nat) (S:Nat→Value) (w:World) (Hx:Snap):Prop:=match j with
 | 0=>∃ C,S 0=.slice (some ⟨C,0,none⟩) 2 2∧OB W0 g R 3 C #[.int .i64 4,.int .i64 6] w Hx
 | 1=>S 1=.pointer (some ⟨g,0,none⟩)
 | 2=>∃ k:Nat,S 2=.int .i64 (k:Int)∧k<2
 | 3=>∃ C k,S 3=.pointer (some ⟨C,k,none⟩)∧k<2∧OB W0 g R 3 C #[.int .i64 4,.int .i64 6] w Hx
 | 4=>∃ v,S 4=.int .i64 v∧(v=4∨v=6)
 | 5=>S 5=.pointer (some ⟨g,0,none⟩)
 | 6=>∃ k:Nat,S 6=.int .i64 (k:Int)
 | 7=>∃ A c l,S 7=.slice A 32 c∧l.length=32∧IsBytes Hx A c l
 | 8=>S 8=.pointer (some ⟨g,0,none⟩)
 | 9=>∃ A n c l,S 9=.slice A n c∧n=l.length∧n≤2∧IsBytes Hx A c l
 | 10=>∃ C,S 10=.slice (some ⟨C,0,none⟩) 2 2∧OB W0 g R 3 C #[.int .i64 0,.int .i64 (-8)] w Hx
 | 11=>S 11=.pointer (some ⟨g,0,none⟩)
 | 12=>∃ k:Nat,S 12=.int .i64 (k:Int)∧k<2
 | 13=>∃ C k,S 13=.pointer (some ⟨C,k,none⟩)∧k<2∧OB W0 g R 3 C #[.int .i64 0,.int .i64 (-8)] w Hx
 | 14=>∃ v,S 14=.int .i64 v∧(v=0∨v = -8)
 | 15=>∃ v al A3 n3 c3 l3 A1 c1 l1,S 15=.agg (un 1 v al A3 n3 c3 A1 32 c1 none 0 0 none 0 0)∧KeyF v al A3 n3 c3 l3 A1 c1 l1 Hx
 | 16=>S 16=.pointer (some ⟨B,4,none⟩)
 | 17=>∃ v al A3 n3 c3 l3 A1 c1 l1,OB W0 g R 26 B (clM i0 s0 k0 t0 v al A3 n3 c3 A1 c1) w Hx∧KeyF v al A3 n3 c3 l3 A1 c1 l1 Hx
 | _=>True
section
variable {W0:World} {g R B:Nat} {i0 s0:ByteArray} {k0 t0:Int} {S:Nat→Value} {w w':World} {Hx Hs:Snap} {i j:Nat} {v:Value}
theorem R3 (wH:j≠i) (h:E4 W0 g R B i0 s0 k0 t0 j S w Hx):E4 W0 g R B i0 s0 k0 t0 j (upd S i v) w Hx:=by
 match j,wH,h with
 | 0,wH,h=>unfold E4 at h⊢;simp only at h⊢;rw[xQ wH];exact h
 | 1,wH,h=>unfold E4 at h⊢;simp only at h⊢;rw[xQ wH];exact h
 | 2,wH,h=>unfold E4 at h⊢;simp only at h⊢;rw[xQ wH];exact h
 | 3,wH,h=>unfold E4 at h⊢;simp only at h⊢;rw[xQ wH];exact h
 | 4,wH,h=>unfold E4 at h⊢;simp only at h⊢;rw[xQ wH];exact h
 | 5,wH,h=>unfold E4 at h⊢;simp only at h⊢;rw[xQ wH];exact h
 | 6,wH,h=>unfold E4 at h⊢;simp only at h⊢;rw[xQ wH];exact h
 | 7,wH,h=>unfold E4 at h⊢;simp only at h⊢;rw[xQ wH];exact h
 | 8,wH,h=>unfold E4 at h⊢;simp only at h⊢;rw[xQ wH];exact h
 | 9,wH,h=>unfold E4 at h⊢;simp only at h⊢;rw[xQ wH];exact h
 | 10,wH,h=>unfold E4 at h⊢;simp only at h⊢;rw[xQ wH];exact h
 | 11,wH,h=>unfold E4 at h⊢;simp only at h⊢;rw[xQ wH];exact h
 | 12,wH,h=>unfold E4 at h⊢;simp only at h⊢;rw[xQ wH];exact h
 | 13,wH,h=>unfold E4 at h⊢;simp only at h⊢;rw[xQ wH];exact h
 | 14,wH,h=>unfold E4 at h⊢;simp only at h⊢;rw[xQ wH];exact h
 | 15,wH,h=>unfold E4 at h⊢;simp only at h⊢;rw[xQ wH];exact h
 | 16,wH,h=>unfold E4 at h⊢;simp only at h⊢;rw[xQ wH];exact h
 | 17,_,h=>exact h
 | n+18,_,_=>trivial
theorem qZ (hgW:g<W0.heap.size) (hd:Dealt w Hx w' Hs g) (h:E4 W0 g R B i0 s0 k0 t0 j S w Hx):E4 W0 g R B i0 s0 k0 t0 j S w' Hs:=by
 match j,h with
 | 0,h=>obtain⟨C,h1,h2⟩:=h;exact⟨C,h1,h2.step hgW hd⟩
 | 3,h=>obtain⟨C,k,h1,h2,h3⟩:=h;exact⟨C,k,h1,h2,h3.step hgW hd⟩
 | 7,h=>obtain⟨A,c,l,h1,h2,h3⟩:=h;exact⟨A,c,l,h1,h2,h3.mono hd.le⟩
 | 9,h=>obtain⟨A,n,c,l,h1,h2,h3,h4⟩:=h;exact⟨A,n,c,l,h1,h2,h3,h4.mono hd.le⟩
 | 10,h=>obtain⟨C,h1,h2⟩:=h;exact⟨C,h1,h2.step hgW hd⟩
 | 13,h=>obtain⟨C,k,h1,h2,h3⟩:=h;exact⟨C,k,h1,h2,h3.step hgW hd⟩
 | 15,h=>obtain⟨v,al,A3,n3,c3,l3,A1,c1,l1,h1,h2⟩:=h;exact⟨v,al,A3,n3,c3,l3,A1,c1,l1,h1,h2.mono hd.le⟩
 | 17,h=>obtain⟨v,al,A3,n3,c3,l3,A1,c1,l1,h1,h2⟩:=h;exact⟨v,al,A3,n3,c3,l3,A1,c1,l1,h1.step hgW hd,h2.mono hd.le⟩
 | 1,h=>exact h
 | 2,h=>exact h
 | 4,h=>exact h
 | 5,h=>exact h
 | 6,h=>exact h
 | 8,h=>exact h
 | 11,h=>exact h
 | 12,h=>exact h
 | 14,h=>exact h
 | 16,h=>exact h
 | n+18,_=>trivial
theorem R1 {cs:Array Value}(o:OB W0 g R 26 B cs w Hx) (hg:w.grownBy w' (some B)) (hj:j≠17) (h:E4 W0 g R B i0 s0 k0 t0 j S w Hx):E4 W0 g R B i0 s0 k0 t0 j S w' Hx:=by
 match j,hj,h with
 | 0,_,h=>obtain⟨C,h1,h2⟩:=h;exact⟨C,h1,h2.kept hg (Blk.same o.blk h2.blk (by decide))⟩
 | 3,_,h=>obtain⟨C,k,h1,h2,h3⟩:=h;exact⟨C,k,h1,h2,h3.kept hg (Blk.same o.blk h3.blk (by decide))⟩
 | 10,_,h=>obtain⟨C,h1,h2⟩:=h;exact⟨C,h1,h2.kept hg (Blk.same o.blk h2.blk (by decide))⟩
 | 13,_,h=>obtain⟨C,k,h1,h2,h3⟩:=h;exact⟨C,k,h1,h2,h3.kept hg (Blk.same o.blk h3.blk (by decide))⟩
 | 17,hj,_=>exact absurd rfl hj
 | 1,_,h=>exact h
 | 2,_,h=>exact h
 | 4,_,h=>exact h
 | 5,_,h=>exact h
 | 6,_,h=>exact h
 | 7,_,h=>exact h
 | 8,_,h=>exact h
 | 9,_,h=>exact h
 | 11,_,h=>exact h
 | 12,_,h=>exact h
 | 14,_,h=>exact h
 | 15,_,h=>exact h
 | 16,_,h=>exact h
 | n+18,_,_=>trivial
end
def Zs (w:World) (H:Snap) (g:Nat) (e:Ending) (w':World):Prop:=∃ c a H',e=.returned (.agg (clQ c a))∧Dealt w H w' H' g∧ClA H' c a∧zB c=true
theorem fD {H:Snap}{g:Nat}(w:World) (hD:DeckIn w g H) :
  Calls Tryz.prog 6 #[.pointer (some ⟨g,0,none⟩)] w (Zs w H g):=by
 have yv:=hD.deck.lt;have hC:CK w H g w.heap.size (w.alloc (.cells yR 26)) H:=⟨(Dealt.refl hD).alloc _,Blk.new _ _ _,hD.holds.none_of_ge (Nat.le_refl _),yv,Nat.le_refl _⟩
 have iT:=Hh yv;clear hD yv;go_enter Tryz.func6,Tryz.ntmps6
 obtain⟨W1,bm⟩:∃ W1,w.alloc (.cells yR 26)=W1:=⟨_,rfl⟩
 obtain⟨R,Nv⟩:∃ R,w.heap.size=R:=⟨_,rfl⟩
 have Fq:=Hh Nv;go_upto_region 1 with fail
 rw[bm]at hC
 try rw[bm]
 rw[Nv]at hC
 try rw[Nv]
 clear bm Nv;go_cut [3] (fun s3 wx=>∃ (Hx:Snap) (B:Nat) (i s:ByteArray) (k:Nat),s3=.pointer (some ⟨B,0,none⟩)∧CK w H g R wx Hx∧OB w g R 26 B (clC i (⟨#[115]⟩++s) (k:Int) 0 0 0 0 none 0 0 none 0 0 none 0 0 none 0 0) wx Hx∧eM i∧s.size≤9∧Neu s∧k<30)
 case first =>
  refine oT (by kernel_rfl) (fun L a wx=>∃ (S:Nat→Value) (Hx:Snap),a=({ tmps:=#[.pointer (some ⟨g,0,none⟩),undef,.pointer (some ⟨R,0,none⟩),S 11,S 0,S 1,S 2,S 3,S 4,S 5,S 6,S 7,S 8,S 9,S 10,undef,undef,undef,undef,undef,undef,undef,undef,undef,undef,undef,undef,undef,undef,undef,undef,undef,undef,undef,undef,undef,undef,undef,undef,undef,undef,undef],defers:=[] }:Act)∧CK w H g R wx Hx∧∀ j,L.getD j false=true→E1 w g R j S wx Hx) (by kernel_rfl) ⟨fun _=>undef,H,rfl,hC.drew,fun j hj=>(We _ j hj).elim⟩ ?_ ?_
  ·rintro L a wx i o ho uA qp bT ⟨S,Hx,rfl,tQ,hR⟩ K hK
   have hi:i<13:=by have:=(Array.getElem?_eq_some_iff.1 ho).1;simpa using this
   have up:∀ (v:Value) (w':World) (Hs:Snap),(∀ j,j≠i→L.getD j false=true→E1 w g R j S wx Hx→E1 w g R j S w' Hs)→E1 w g R i (upd S i v) w' Hs→∀ j,(L.setIfInBounds i true).getD j false=true→E1 w g R j (upd S i v) w' Hs:=fun v w' Hs hk QC =>
    dq hR (fun j hj hLj hRj=>R0 hj (fun e1 e2=>by subst e1 e2;exact xW uA qp hLj (by kernel_rfl)) (hk j hj hLj hRj)) QC
   have dp:=fun d hb=>hR d (fV ho bT d hb)
   clear bT uA
   rcases(by omega:i=0∨i=1∨i=2∨i=3∨i=4∨i=5∨i=6∨i=7∨i=8∨i=9∨i=10∨i=11∨i=12) with rfl | rfl | rfl | rfl | rfl | rfl | rfl | rfl | rfl | rfl | rfl | rfl | rfl
   ·obtain rfl:=Option.some.inj (show some _=some o from ho);go_simp
    refine hK.out _ _ ⟨upd S 0 (.slice (some ⟨wx.heap.size,0,none⟩) 3 3),Hx,by simp[upd],tQ.alloc _,up _ _ _ (fun _ _ _ h=>n9 iT.out (tQ.dealt.deck.grows ((Grows.refl tQ.dealt.holds).alloc _)) h) (show E1 w g R 0 (upd S 0 _) _ _ from⟨_,xD,tQ.new _ _⟩)⟩
   ·obtain rfl:=Option.some.inj (show some _=some o from ho);go_simp
    refine hK.out _ _ ⟨upd S 1 (.pointer (some ⟨g,0,none⟩)),Hx,by simp[upd],tQ,up _ _ _ (fun _ _ _ h=>h) (show E1 w g R 1 (upd S 1 _) _ _ from xD)⟩
   ·obtain rfl:=Option.some.inj (show some _=some o from ho);have r1:S 1=.pointer (some ⟨g,0,none⟩):=dp 1 (by kernel_rfl);rw[r1];go_simp
    refine(vG _ tQ.dealt.deck 3 (by omega) (by omega)).mono ?_
    rintro e w7 ⟨k,rfl,hk,hd⟩
    refine hK.out _ _ ⟨upd S 2 (.int .i64 (k:Int)),Hx,by simp[upd,r1],tQ.step hd,up _ _ _ (fun _ _ _ h=>n9 iT.out hd h) (show E1 w g R 2 (upd S 2 _) _ _ from⟨k,xD,by omega⟩)⟩
   ·obtain rfl:=Option.some.inj (show some _=some o from ho);obtain⟨B,r0,o0⟩:=dp 0 (by kernel_rfl);obtain⟨k,r2,hk⟩:=dp 2 (by kernel_rfl);rw[r0,r2];have oe:(k:Int)<3:=by omega
    go_simp
    refine hK.out _ _ ⟨upd S 3 (.pointer (some ⟨B,k,none⟩)),Hx,by simp[upd,r0,r2],tQ,up _ _ _ (fun _ _ _ h=>h) (show E1 w g R 3 (upd S 3 _) _ _ from⟨B,k,xD,hk,o0⟩)⟩
   ·obtain rfl:=Option.some.inj (show some _=some o from ho);obtain⟨B,k,r3,hk,o3⟩:=dp 3 (by kernel_rfl);obtain⟨s,px,hs⟩:=Oh o3.blk k hk;rw[r3];go_simp
    refine hK.out _ _ ⟨upd S 4 (.string s),Hx,by simp[upd,r3],tQ,up _ _ _ (fun _ _ _ h=>h) (show E1 w g R 4 (upd S 4 _) _ _ from⟨s,xD,hs⟩)⟩
   ·obtain rfl:=Option.some.inj (show some _=some o from ho);go_simp
    refine hK.out _ _ ⟨upd S 5 (.pointer (some ⟨g,0,none⟩)),Hx,by simp[upd],tQ,up _ _ _ (fun _ _ _ h=>h) (show E1 w g R 5 (upd S 5 _) _ _ from xD)⟩
   ·obtain rfl:=Option.some.inj (show some _=some o from ho);have r5:S 5=.pointer (some ⟨g,0,none⟩):=dp 5 (by kernel_rfl);rw[r5];go_simp
    refine(Vf _ tQ.dealt.deck 3 (by omega) (by omega)).mono ?_
    rintro e w7 ⟨s,rfl,hs,hn,hd⟩
    refine hK.out _ _ ⟨upd S 6 (.string s),Hx,by simp[upd,r5],tQ.step hd,up _ _ _ (fun _ _ _ h=>n9 iT.out hd h) (show E1 w g R 6 (upd S 6 _) _ _ from⟨s,xD,by omega,hn⟩)⟩
   ·obtain rfl:=Option.some.inj (show some _=some o from ho);obtain⟨s,r6,hs,hn⟩:=dp 6 (by kernel_rfl);have mK:¬ 9223372036854775807<1+s.size:=by omega
    rw[r6];go_simp
    refine hK.out _ _ ⟨upd S 7 (.string (⟨#[115]⟩++s)),Hx,by simp[upd,r6],tQ,up _ _ _ (fun _ _ _ h=>h) (show E1 w g R 7 (upd S 7 _) _ _ from⟨s,xD,hs,hn⟩)⟩
   ·obtain rfl:=Option.some.inj (show some _=some o from ho);go_simp
    refine hK.out _ _ ⟨upd S 8 (.pointer (some ⟨g,0,none⟩)),Hx,by simp[upd],tQ,up _ _ _ (fun _ _ _ h=>h) (show E1 w g R 8 (upd S 8 _) _ _ from xD)⟩
   ·obtain rfl:=Option.some.inj (show some _=some o from ho);have r8:S 8=.pointer (some ⟨g,0,none⟩):=dp 8 (by kernel_rfl);rw[r8];go_simp
    refine(vG _ tQ.dealt.deck 30 (by omega) (by omega)).mono ?_
    rintro e w7 ⟨k,rfl,hk,hd⟩
    refine hK.out _ _ ⟨upd S 9 (.int .i64 (k:Int)),Hx,by simp[upd,r8],tQ.step hd,up _ _ _ (fun _ _ _ h=>n9 iT.out hd h) (show E1 w g R 9 (upd S 9 _) _ _ from⟨k,xD,by omega⟩)⟩
   ·obtain rfl:=Option.some.inj (show some _=some o from ho);obtain⟨i4,r4,eh⟩:=dp 4 (by kernel_rfl);obtain⟨s,r7,hs,hn⟩:=dp 7 (by kernel_rfl);obtain⟨k,r9,hk⟩:=dp 9 (by kernel_rfl);rw[r4,r7,r9];go_simp
    refine hK.out _ _ ⟨upd S 10 (.agg (clC i4 (⟨#[115]⟩++s) (k:Int) 0 0 0 0 none 0 0 none 0 0 none 0 0 none 0 0)),Hx,by simp[upd,r4,r7,r9],tQ,up _ _ _ (fun _ _ _ h=>h) (show E1 w g R 10 (upd S 10 _) _ _ from⟨i4,s,k,xD,eh,hs,hn,hk⟩)⟩
   ·obtain rfl:=Option.some.inj (show some _=some o from ho);go_simp
    refine hK.out _ _ ⟨upd S 11 (.pointer (some ⟨wx.heap.size,0,none⟩)),Hx,by simp[upd],tQ.alloc _,up _ _ _ (fun _ _ _ h=>n9 iT.out (tQ.dealt.deck.grows ((Grows.refl tQ.dealt.holds).alloc _)) h) (show E1 w g R 11 (upd S 11 _) _ _ from⟨_,_,xD,tQ.new _ _,by rfl⟩)⟩
   obtain rfl:=Option.some.inj (show some _=some o from ho);obtain⟨B,cs,r11,o11,px⟩:=dp 11 (by kernel_rfl);obtain⟨i4,s,k,r10,eh,hs,hn,hk⟩:=dp 10 (by kernel_rfl);rw[r11,r10];rw[if_pos (by rfl)]
   refine yJ _ _ _ rfl _ _ rfl rfl _ _ o11.blk zU (by rw[px];rfl) (uR _ _ _ _ _ _ _ _ _ _ _ rfl rfl rfl rfl rfl rfl rfl rfl rfl rfl rfl) fun w10 hD10 hg10=>?_
   refine hK.out _ _ ⟨upd S 12 undef,Hx,by simp[upd,r11,r10,Act.put],tQ.put o11 hg10,up _ _ _ (fun j hj hLj h=>Qz o11 r11 (by rfl) hD10 hg10 hj h) (show E1 w g R 12 (upd S 12 _) _ _ from⟨B,i4,s,k,by rw[xQ (by decide)];exact r11,o11.set hD10,eh,hs,hn,hk⟩)⟩
  rintro L a wx uJ ⟨S,Hx,rfl,tQ,hR⟩
  obtain⟨B,i4,s,k,r11,o11,eh,hs,hn,hk⟩:=hR 12 (uJ 12 (by decide));rw[r11];go_wp2_with fail
  go_meet
  exact⟨Hx,B,i4,s,k,rfl,tQ,o11,eh,hs,hn,hk⟩
 case rest =>
 clear hC;obtain⟨Hx,B,i4,s,k,rfl,hC,hO,eh,hs,hn,hk⟩:=hcut;have HF:=Hh (And.intro eh (And.intro hs (And.intro hn hk)));clear eh hs hn hk;go_wp2_with fail
 refine(vG _ hC.dealt.deck 2 (by omega) (by omega)).mono ?_
 rintro e w4 ⟨r,rfl,hr,hd⟩
 replace hC:=hC.step hd;replace hO:=hO.step iT.out hd;clear hd;go_upto_if 17 with fail
 go_cut [] (fun wx=>∃ (t:Int),CK w H g R wx Hx∧OB w g R 26 B (clC i4 (⟨#[115]⟩++s) (k:Int) t 0 0 0 none 0 0 none 0 0 none 0 0 none 0 0) wx Hx∧(t=0∨((k:Int)≤t∧t<(k:Int)+40)))
 case first =>
  rcases(by omega:r=0∨r=1) with rfl | rfl
  ·clear hr;go_upto_region 3 with fail
   replace hC:=hC.drew;replace hO:OB w g R 26 B _ _ Hx:=⟨hO.blk.drew,hO.none,hO.far,hO.ne⟩
   refine zr 7 (fun wx=>wx.cell? ⟨B,2,none⟩=some (.int .i64 (k:Int))) (by kernel_rfl) (hO.blk.cell 2 rfl) (fun zy=>?_)
   refine TkS 0 rfl zy ?_
   refine TkS 1 rfl zy ?_
   refine TkS 2 rfl zy ?_
   refine To 3 rfl fun K hK=>?_
   go_simp
   refine(vG _ hC.dealt.deck 40 (by omega) (by omega)).mono ?_
   rintro e w5 ⟨m,rfl,hm,hd⟩
   replace hC:=hC.step hd;replace hO:=hO.step iT.out hd;have oq:IntKind.i64.wrap ((k:Int)+(m:Int))=(k:Int)+(m:Int):=IntWalk.i64_in _ (by have:=HF.out.2.2.2;omega)
   refine Ko hK ?_ fun zy=>?_
   ·exact hO.blk.cell 2 rfl
   clear hK K
   refine TkS 4 rfl zy ?_
   refine TkS 5 rfl zy ?_
   refine To 6 rfl fun K hK=>?_
   rw[if_pos (by rfl)]
   refine xF _ _ _ rfl B 3 (.int .i64 ((k:Int)+(m:Int))) rfl rfl _ _ hO.blk (by kernel_rfl) (by simp) rfl fun wt hBt hgt=>?_
   replace hC:=hC.put hO hgt;have sK:=hO.set (cs':=clC i4 (⟨#[115]⟩++s) (k:Int) ((k:Int)+(m:Int)) 0 0 0 none 0 0 none 0 0 none 0 0 none 0 0) hBt
   refine Ko hK ?_ fun zy=>?_
   ·exact sK.blk.cell 2 rfl
   clear hK K
   refine Wd ?_
   go_wp2_with fail
   go_meet
   exact⟨_,hC,sK,.inr ⟨by omega,by omega⟩⟩
  clear hr;go_wp2_with fail
  go_meet
  exact⟨0,hC,hO,.inl rfl⟩
 case rest =>
 clear hC hO;obtain⟨t,hC,hO,ht⟩:=hcut;have Jg:=Hh ht;clear ht hr;go_upto_region 4 with fail
 go_cut [] (fun wx=>∃ (Hy:Snap) (v al:Int) (A3:Option Addr) (n3 c3:Nat) (l3:List UInt8) (A1:Option Addr) (c1:Nat) (l1:List UInt8),CK w H g R wx Hy∧OB w g R 26 B (clM i4 s (k:Int) t v al A3 n3 c3 A1 c1) wx Hy∧KeyF v al A3 n3 c3 l3 A1 c1 l1 Hy)
 case first =>
  have kz:OB w g R 26 B (clC i4 (⟨#[115]⟩++s) (k:Int) t 0 0 0 none 0 0 none 0 0 none 0 0 none 0 0) _ Hx:=⟨hO.blk.drew,hO.none,hO.far,hO.ne⟩
  refine oT (by kernel_rfl) (fun L a wx=>∃ (S:Nat→Value) (Hx:Snap),a=({ tmps:=#[.pointer (some ⟨g,0,none⟩),undef,.pointer (some ⟨R,0,none⟩),.pointer (some ⟨B,0,none⟩),u4,u5,u6,u7,u8,u9,u10,u11,u12,u13,u14,u15,u16,u17,u18,u19,u20,u21,u22,u23,S 0,S 1,S 2,S 3,S 4,S 5,S 6,S 7,S 8,S 9,S 10,S 11,S 12,S 13,S 14,S 15,S 16,u41],defers:=[] }:Act)∧CK w H g R wx Hx∧(L.getD 17 false=false→OB w g R 26 B (clC i4 (⟨#[115]⟩++s) (k:Int) t 0 0 0 none 0 0 none 0 0 none 0 0 none 0 0) wx Hx)∧∀ j,L.getD j false=true→E4 w g R B i4 s (k:Int) t j S wx Hx) (by kernel_rfl) ⟨fun j=>(#[u24,u25,u26,u27,u28,u29,u30,u31,u32,u33,u34,u35,u36,u37,u38,u39,u40]:Array Value).getD j undef,Hx,rfl,hC.drew,fun _=>kz,fun j hj=>(We _ j hj).elim⟩ ?_ ?_
  ·rintro L a wx i o ho uA qp bT ⟨S,Hx,rfl,tQ,pN,hR⟩ K hK
   have hi:i<18:=by have:=(Array.getElem?_eq_some_iff.1 ho).1;simpa using this
   have up:∀ (v:Value) (w':World) (Hs:Snap),(∀ j,j≠i→L.getD j false=true→E4 w g R B i4 s (k:Int) t j S wx Hx→E4 w g R B i4 s (k:Int) t j S w' Hs)→E4 w g R B i4 s (k:Int) t i (upd S i v) w' Hs→∀ j,(L.setIfInBounds i true).getD j false=true→E4 w g R B i4 s (k:Int) t j (upd S i v) w' Hs:=fun v w' Hs hk QC =>
    dq hR (fun j hj hLj hRj=>R3 hj (hk j hj hLj hRj)) QC
   have dp:=fun d hb=>hR d (fV ho bT d hb)
   clear bT
   rcases(by omega:i=0∨i=1∨i=2∨i=3∨i=4∨i=5∨i=6∨i=7∨i=8∨i=9∨i=10∨i=11∨i=12∨i=13∨i=14∨i=15∨i=16∨i=17) with rfl | rfl | rfl | rfl | rfl | rfl | rfl | rfl | rfl | rfl | rfl | rfl | rfl | rfl | rfl | rfl | rfl | rfl
   ·obtain rfl:=Option.some.inj (show some _=some o from ho)
    have n17:L.getD 17 false=false:=by
     cases h17:L.getD 17 false with
     | false=>rfl
     | true=>exact(xW uA qp h17 (by kernel_rfl)).elim
    go_simp
    refine hK.out _ _ ⟨upd S 0 (.slice (some ⟨wx.heap.size,0,none⟩) 2 2),Hx,by simp[upd],tQ.alloc _,fun _=>(pN n17).alloc _,up _ _ _ (fun _ _ _ h=>qZ iT.out (tQ.dealt.deck.grows ((Grows.refl tQ.dealt.holds).alloc (.cells #[.int .i64 4,.int .i64 6] 3))) h) (show E4 w g R B i4 s (k:Int) t 0 (upd S 0 _) _ _ from⟨_,xD,tQ.new _ _⟩)⟩
   ·obtain rfl:=Option.some.inj (show some _=some o from ho)
    have n17:L.getD 17 false=false:=by
     cases h17:L.getD 17 false with
     | false=>rfl
     | true=>exact(xW uA qp h17 (by kernel_rfl)).elim
    go_simp
    refine hK.out _ _ ⟨upd S 1 (.pointer (some ⟨g,0,none⟩)),Hx,by simp[upd],tQ,fun _=>pN n17,up _ _ _ (fun _ _ _ h=>h) (show E4 w g R B i4 s (k:Int) t 1 (upd S 1 _) _ _ from xD)⟩
   ·obtain rfl:=Option.some.inj (show some _=some o from ho)
    have n17:L.getD 17 false=false:=by
     cases h17:L.getD 17 false with
     | false=>rfl
     | true=>exact(xW uA qp h17 (by kernel_rfl)).elim
    have r1:S 1=.pointer (some ⟨g,0,none⟩):=dp 1 (by kernel_rfl);rw[r1];go_simp
    refine(vG _ tQ.dealt.deck 2 (by omega) (by omega)).mono ?_
    rintro e w7 ⟨k7,rfl,Zh,hd⟩
    refine hK.out _ _ ⟨upd S 2 (.int .i64 (k7:Int)),Hx,by simp[upd,r1],tQ.step hd,fun _=>(pN n17).step iT.out hd,up _ _ _ (fun _ _ _ h=>qZ iT.out hd h) (show E4 w g R B i4 s (k:Int) t 2 (upd S 2 _) _ _ from⟨k7,xD,by omega⟩)⟩
   ·obtain rfl:=Option.some.inj (show some _=some o from ho)
    have n17:L.getD 17 false=false:=by
     cases h17:L.getD 17 false with
     | false=>rfl
     | true=>exact(xW uA qp h17 (by kernel_rfl)).elim
    obtain⟨C,r0,o0⟩:=dp 0 (by kernel_rfl);obtain⟨k7,r2,Zh⟩:=dp 2 (by kernel_rfl);rw[r0,r2];have oe:(k7:Int)<2:=by omega
    go_simp
    refine hK.out _ _ ⟨upd S 3 (.pointer (some ⟨C,k7,none⟩)),Hx,by simp[upd,r0,r2],tQ,fun _=>pN n17,up _ _ _ (fun _ _ _ h=>h) (show E4 w g R B i4 s (k:Int) t 3 (upd S 3 _) _ _ from⟨C,k7,xD,Zh,o0⟩)⟩
   ·obtain rfl:=Option.some.inj (show some _=some o from ho)
    have n17:L.getD 17 false=false:=by
     cases h17:L.getD 17 false with
     | false=>rfl
     | true=>exact(xW uA qp h17 (by kernel_rfl)).elim
    obtain⟨C,k7,r3,Zh,o3⟩:=dp 3 (by kernel_rfl);obtain⟨v7,px,QV⟩:=TH o3.blk k7 Zh;rw[r3];go_simp
    refine hK.out _ _ ⟨upd S 4 (.int .i64 v7),Hx,by simp[upd,r3],tQ,fun _=>pN n17,up _ _ _ (fun _ _ _ h=>h) (show E4 w g R B i4 s (k:Int) t 4 (upd S 4 _) _ _ from⟨v7,xD,QV⟩)⟩
   ·obtain rfl:=Option.some.inj (show some _=some o from ho)
    have n17:L.getD 17 false=false:=by
     cases h17:L.getD 17 false with
     | false=>rfl
     | true=>exact(xW uA qp h17 (by kernel_rfl)).elim
    go_simp
    refine hK.out _ _ ⟨upd S 5 (.pointer (some ⟨g,0,none⟩)),Hx,by simp[upd],tQ,fun _=>pN n17,up _ _ _ (fun _ _ _ h=>h) (show E4 w g R B i4 s (k:Int) t 5 (upd S 5 _) _ _ from xD)⟩
   ·obtain rfl:=Option.some.inj (show some _=some o from ho)
    have n17:L.getD 17 false=false:=by
     cases h17:L.getD 17 false with
     | false=>rfl
     | true=>exact(xW uA qp h17 (by kernel_rfl)).elim
    have r5:S 5=.pointer (some ⟨g,0,none⟩):=dp 5 (by kernel_rfl);rw[r5];go_simp
    refine(vG _ tQ.dealt.deck 1048576 (by omega) (by omega)).mono ?_
    rintro e w7 ⟨k7,rfl,Zh,hd⟩
    refine hK.out _ _ ⟨upd S 6 (.int .i64 (k7:Int)),Hx,by simp[upd,r5],tQ.step hd,fun _=>(pN n17).step iT.out hd,up _ _ _ (fun _ _ _ h=>qZ iT.out hd h) (show E4 w g R B i4 s (k:Int) t 6 (upd S 6 _) _ _ from⟨k7,xD⟩)⟩
   ·obtain rfl:=Option.some.inj (show some _=some o from ho)
    have n17:L.getD 17 false=false:=by
     cases h17:L.getD 17 false with
     | false=>rfl
     | true=>exact(xW uA qp h17 (by kernel_rfl)).elim
    obtain⟨k7,r6⟩:=dp 6 (by kernel_rfl);rw[r6];go_simp
    refine(ZJ (k7:Int) _).mono ?_
    rintro e w7 ⟨A7,c7,l7,rfl,Uv,iO⟩
    obtain⟨H7,wu,vJ,nY⟩:=Fresh.snapB tQ.dealt.holds iO;have hd:=tQ.dealt.deck.grows wu
    refine hK.out _ _ ⟨upd S 7 (.slice A7 32 c7),H7,by simp[upd,r6],tQ.step hd,fun _=>(pN n17).step iT.out hd,up _ _ _ (fun _ _ _ h=>qZ iT.out hd h) (show E4 w g R B i4 s (k:Int) t 7 (upd S 7 _) _ _ from⟨A7,c7,l7,xD,Uv,vJ⟩)⟩
   ·obtain rfl:=Option.some.inj (show some _=some o from ho)
    have n17:L.getD 17 false=false:=by
     cases h17:L.getD 17 false with
     | false=>rfl
     | true=>exact(xW uA qp h17 (by kernel_rfl)).elim
    go_simp
    refine hK.out _ _ ⟨upd S 8 (.pointer (some ⟨g,0,none⟩)),Hx,by simp[upd],tQ,fun _=>pN n17,up _ _ _ (fun _ _ _ h=>h) (show E4 w g R B i4 s (k:Int) t 8 (upd S 8 _) _ _ from xD)⟩
   ·obtain rfl:=Option.some.inj (show some _=some o from ho)
    have n17:L.getD 17 false=false:=by
     cases h17:L.getD 17 false with
     | false=>rfl
     | true=>exact(xW uA qp h17 (by kernel_rfl)).elim
    have r8:S 8=.pointer (some ⟨g,0,none⟩):=dp 8 (by kernel_rfl);rw[r8];go_simp
    refine(Vd _ tQ.dealt.deck 2 (by omega) (by omega)).mono ?_
    rintro e w7 ⟨A7,c7,l7,rfl,Uv,H7,vJ,hd⟩
    refine hK.out _ _ ⟨upd S 9 (.slice A7 l7.length c7),H7,by simp[upd,r8],tQ.step hd,fun _=>(pN n17).step iT.out hd,up _ _ _ (fun _ _ _ h=>qZ iT.out hd h) (show E4 w g R B i4 s (k:Int) t 9 (upd S 9 _) _ _ from⟨A7,_,c7,l7,xD,rfl,by omega,vJ⟩)⟩
   ·obtain rfl:=Option.some.inj (show some _=some o from ho)
    have n17:L.getD 17 false=false:=by
     cases h17:L.getD 17 false with
     | false=>rfl
     | true=>exact(xW uA qp h17 (by kernel_rfl)).elim
    go_simp
    refine hK.out _ _ ⟨upd S 10 (.slice (some ⟨wx.heap.size,0,none⟩) 2 2),Hx,by simp[upd],tQ.alloc _,fun _=>(pN n17).alloc _,up _ _ _ (fun _ _ _ h=>qZ iT.out (tQ.dealt.deck.grows ((Grows.refl tQ.dealt.holds).alloc (.cells #[.int .i64 0,.int .i64 (-8)] 3))) h) (show E4 w g R B i4 s (k:Int) t 10 (upd S 10 _) _ _ from⟨_,xD,tQ.new _ _⟩)⟩
   ·obtain rfl:=Option.some.inj (show some _=some o from ho)
    have n17:L.getD 17 false=false:=by
     cases h17:L.getD 17 false with
     | false=>rfl
     | true=>exact(xW uA qp h17 (by kernel_rfl)).elim
    go_simp
    refine hK.out _ _ ⟨upd S 11 (.pointer (some ⟨g,0,none⟩)),Hx,by simp[upd],tQ,fun _=>pN n17,up _ _ _ (fun _ _ _ h=>h) (show E4 w g R B i4 s (k:Int) t 11 (upd S 11 _) _ _ from xD)⟩
   ·obtain rfl:=Option.some.inj (show some _=some o from ho)
    have n17:L.getD 17 false=false:=by
     cases h17:L.getD 17 false with
     | false=>rfl
     | true=>exact(xW uA qp h17 (by kernel_rfl)).elim
    have r11:S 11=.pointer (some ⟨g,0,none⟩):=dp 11 (by kernel_rfl);rw[r11];go_simp
    refine(vG _ tQ.dealt.deck 2 (by omega) (by omega)).mono ?_
    rintro e w7 ⟨k7,rfl,Zh,hd⟩
    refine hK.out _ _ ⟨upd S 12 (.int .i64 (k7:Int)),Hx,by simp[upd,r11],tQ.step hd,fun _=>(pN n17).step iT.out hd,up _ _ _ (fun _ _ _ h=>qZ iT.out hd h) (show E4 w g R B i4 s (k:Int) t 12 (upd S 12 _) _ _ from⟨k7,xD,by omega⟩)⟩
   ·obtain rfl:=Option.some.inj (show some _=some o from ho)
    have n17:L.getD 17 false=false:=by
     cases h17:L.getD 17 false with
     | false=>rfl
     | true=>exact(xW uA qp h17 (by kernel_rfl)).elim
    obtain⟨C,r0,o0⟩:=dp 10 (by kernel_rfl);obtain⟨k7,r2,Zh⟩:=dp 12 (by kernel_rfl);rw[r0,r2];have oe:(k7:Int)<2:=by omega
    go_simp
    refine hK.out _ _ ⟨upd S 13 (.pointer (some ⟨C,k7,none⟩)),Hx,by simp[upd,r0,r2],tQ,fun _=>pN n17,up _ _ _ (fun _ _ _ h=>h) (show E4 w g R B i4 s (k:Int) t 13 (upd S 13 _) _ _ from⟨C,k7,xD,Zh,o0⟩)⟩
   ·obtain rfl:=Option.some.inj (show some _=some o from ho)
    have n17:L.getD 17 false=false:=by
     cases h17:L.getD 17 false with
     | false=>rfl
     | true=>exact(xW uA qp h17 (by kernel_rfl)).elim
    obtain⟨C,k7,r3,Zh,o3⟩:=dp 13 (by kernel_rfl);obtain⟨v7,px,QV⟩:=TH o3.blk k7 Zh;rw[r3];go_simp
    refine hK.out _ _ ⟨upd S 14 (.int .i64 v7),Hx,by simp[upd,r3],tQ,fun _=>pN n17,up _ _ _ (fun _ _ _ h=>h) (show E4 w g R B i4 s (k:Int) t 14 (upd S 14 _) _ _ from⟨v7,xD,QV⟩)⟩
   ·obtain rfl:=Option.some.inj (show some _=some o from ho)
    have n17:L.getD 17 false=false:=by
     cases h17:L.getD 17 false with
     | false=>rfl
     | true=>exact(xW uA qp h17 (by kernel_rfl)).elim
    obtain⟨v7,r4,QV⟩:=dp 4 (by kernel_rfl);obtain⟨A1,c1,l1,r7,Sv,wU⟩:=dp 7 (by kernel_rfl);obtain⟨A3,n3,c3,l3,r9,Zj,tP,uy⟩:=dp 9 (by kernel_rfl);have Hl:=Hh Zj;clear Zj;obtain⟨al,r14,Ii⟩:=dp 14 (by kernel_rfl);rw[r4,r7,r9,r14];go_simp
    refine hK.out _ _ ⟨upd S 15 (.agg (un 1 v7 al A3 n3 c3 A1 32 c1 none 0 0 none 0 0)),Hx,by simp[upd,r4,r7,r9,r14],tQ,fun _=>pN n17,up _ _ _ (fun _ _ _ h=>h) (show E4 w g R B i4 s (k:Int) t 15 (upd S 15 _) _ _ from⟨v7,al,A3,n3,c3,l3,A1,c1,l1,xD,QV,Ii,Hl.out,tP,uy,Sv,wU⟩)⟩
   ·obtain rfl:=Option.some.inj (show some _=some o from ho)
    have n17:L.getD 17 false=false:=by
     cases h17:L.getD 17 false with
     | false=>rfl
     | true=>exact(xW uA qp h17 (by kernel_rfl)).elim
    go_simp
    refine hK.out _ _ ⟨upd S 16 (.pointer (some ⟨B,4,none⟩)),Hx,by simp[upd],tQ,fun _=>pN n17,up _ _ _ (fun _ _ _ h=>h) (show E4 w g R B i4 s (k:Int) t 16 (upd S 16 _) _ _ from xD)⟩
   obtain rfl:=Option.some.inj (show some _=some o from ho)
   have n17:L.getD 17 false=false:=by
    have h1:=qp
    cases h17:L.getD 17 false with
    | false=>rfl
    | true =>
    exfalso
    rcases Nat.lt_or_ge 17 L.size with h' | h'
    ·simp[h']at h1 h17;rw[h1]at h17;cases h17
    simp[Array.getElem?_eq_none h']at h17
   have oB:=pN n17;have r16:S 16=.pointer (some ⟨B,4,none⟩):=dp 16 (by kernel_rfl);obtain⟨v7,al,A3,n3,c3,l3,A1,c1,l1,r15,bq⟩:=dp 15 (by kernel_rfl);rw[r16,r15];rw[if_pos (by rfl)]
   refine fS _ _ _ rfl B 4 _ rfl rfl _ _ oB.blk pH (by simp) (rE _ _ _ _ _ _ _ rfl rfl rfl rfl rfl rfl rfl) fun w10 hD10 hg10=>?_
   refine hK.out _ _ ⟨upd S 17 undef,Hx,by simp[upd,r16,r15,Act.put],tQ.put oB hg10,fun h=>?_,up _ _ _ (fun j hj hLj h=>R1 oB hg10 hj h) (show E4 w g R B i4 s (k:Int) t 17 (upd S 17 _) _ _ from⟨v7,al,A3,n3,c3,l3,A1,c1,l1,oB.set hD10,bq⟩)⟩
   exfalso
   rcases Nat.lt_or_ge 17 L.size with h' | h'
   ·simp[h']at h
   simp[Array.getElem?_eq_none h']at qp
  rintro L a wx uJ ⟨S,Hy,rfl,tQ,_,hR⟩
  obtain⟨v7,al,A3,n3,c3,l3,A1,c1,l1,oB,bq⟩:=hR 17 (uJ 17 (by decide));go_wp2_with fail
  go_meet
  exact⟨Hy,v7,al,A3,n3,c3,l3,A1,c1,l1,tQ,oB,bq⟩
 case rest =>
 clear hC hO;obtain⟨Hy,v,al,A3,n3,c3,l3,A1,c1,l1,hC,hO,bq⟩:=hcut;have q0:=hO.blk.cell 0 rfl;have q1:=hO.blk.cell 1 rfl;have q2:=hO.blk.cell 2 rfl;have q3:=hO.blk.cell 3 rfl;have q4:=hO.blk.cell 4 rfl;have q5:=hO.blk.cell 5 rfl;have q6:=hO.blk.cell 6 rfl;have q7:=hO.blk.cell 7 rfl;have q8:=hO.blk.cell 8 rfl;have q9:=hO.blk.cell 9 rfl;have q10:=hO.blk.cell 10 rfl;go_wp2_with (with_reducible refine zx ?_)
 refine zp rfl _ _ _ rfl rfl _ _ rfl rfl _ _ hC.res zU rfl (uR _ _ _ _ _ _ _ _ _ _ _ rfl rfl rfl rfl rfl rfl rfl rfl rfl rfl rfl) fun wz hRz zT=>?_
 have zQ:=hC.dealt.grownRow (row:=some R) (by rintro q ⟨⟩;exact hC.hR) (by rintro q ⟨⟩;exact hC.wR) hC.gW zT;clear hC hO zT q0 q1 q2 q3 q4 q5 q6 q7 q8 q9 q10;go_wp2_with fail
 refine vK rfl rfl hRz rfl rfl zU rfl ?_
 have Gb:=HF.out.2.2.2
 refine⟨⟨i4,⟨#[115]⟩++s,k,t,⟨1,v,al,l3,l1,[],[]⟩⟩,⟨A3,c3,A1,c1,none,0,none,0⟩,Hy, ?_,zQ, ?_, ?_⟩
 ·show Ending.returned (.agg (clM i4 s (k:Int) t v al A3 n3 c3 A1 c1))=Ending.returned (.agg (clC i4 (⟨#[115]⟩++s) k t 1 v al A3 l3.length c3 A1 l1.length c1 none 0 0 none 0 0))
  rw[bq.l1_,bq.n3_]
 ·have mK:((⟨#[115]⟩:ByteArray)++s).size=1+s.size:=by rw[ByteArray.size_append];rfl
  have GI:=HF.out.2.1;have GA:i4.size≤4:=by rcases HF.out.1 with h | h | h <;> subst h <;> decide
  have GK:=Jg.out;have GM:=bq.v_;have G3:=bq.al_
  exact⟨by show i4.size≤_;omega,by show((⟨#[115]⟩:ByteArray)++s).size≤_;omega,by show -9223372036854775808≤(k:Int)∧(k:Int)≤9223372036854775807;omega,by show -9223372036854775808≤t∧t≤9223372036854775807;omega,
   ⟨by show -9223372036854775808≤(1:Int)∧(1:Int)≤9223372036854775807;omega,by show -9223372036854775808≤v∧v≤9223372036854775807;omega,by show -9223372036854775808≤al∧al≤9223372036854775807;omega,bq.b3,bq.b1,IsBytes.nil _,IsBytes.nil _⟩⟩
 exact bB HF.out.1 HF.out.2.1 HF.out.2.2.1 (by omega) (by omega) Jg.out bq.v_ bq.al_ (by have:=bq.n3_;have:=bq.le3;omega) bq.l1_
end Go.Proofs.YtgcjjhibdbafmabGreatDoor
