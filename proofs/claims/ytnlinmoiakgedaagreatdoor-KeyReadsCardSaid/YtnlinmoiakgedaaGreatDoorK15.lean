/- squeezed. Walks: the references' Build. -/
import Derived.Test.YtnlinmoiakgedaaGreatDoorK14
set_option linter.unusedVariables false
set_option linter.unusedSimpArgs false
set_option maxRecDepth 100000
namespace Go.Proofs.YtnlinmoiakgedaaGreatDoor
open Go.RowKit
section
variable {w w':World} {base:Nat} {H:Snap} {l:List Itm}
theorem OwnI.parts {A:Option Addr}{m c:Nat}(h:OwnI w base (.slice A m c) H l) (k:Nat):∃ cs1 cs2,ItemsC H cs1 (l.take k)∧ItemsC H cs2 (l.drop k)∧Src w A cs1∧(k<l.length→∃ b off,A=some ⟨b,off,none⟩∧Src w (some ⟨b,off+k*4,none⟩) cs2):=by
 obtain⟨cs,hc,ho⟩:=h;have hs:=Src.of_own ho;obtain⟨h1,h2⟩:=hc.split k
 refine⟨_,_,h1,h2,fun wd=>?_,fun hk=>?_⟩
 ·obtain⟨b,off,e,hx⟩:=hs (by rintro rfl;simp at wd)
  exact⟨b,off,e,fun j v hj=>hx j v (by rw[List.getElem?_take]at hj;split at hj;exact hj;cases hj)⟩
 ·obtain⟨b,off,e,hx⟩:=hs (by rintro rfl;have:=hc.len;simp at this;omega)
  refine⟨b,off,e,fun _=>⟨b,off+k*4,rfl,fun j v hj=>?_⟩⟩
  rw[List.getElem?_drop]at hj;rw[Nat.add_assoc]
  exact hx _ v hj
theorem OwnI.cells {A:Option Addr}{m c:Nat}(h:OwnI w base (.slice A m c) H l) (k:Nat) (hk:k<l.length):∃ b off,A=some ⟨b,off,none⟩∧∃ ba bc ia ic,w.cell? ⟨b,off+k*4,none⟩=some (.int .i64 l[k].kind)∧w.cell? ⟨b,off+k*4+1,none⟩=some (.int .u64 l[k].n)∧
  w.cell? ⟨b,off+k*4+2,none⟩=some (.slice ba l[k].bytes.length bc)∧w.cell? ⟨b,off+k*4+3,none⟩=some (.slice ia l[k].items.length ic)∧IsItem H ba bc ia ic l[k]:=by
 obtain⟨cs,hc,ho⟩:=h;obtain⟨b,off,e,hx⟩:=Src.of_own ho (by rintro rfl;have:=hc.len;simp at this;omega);obtain⟨ba,bc,ia,ic,h0,h1,h2,h3,hi⟩:=hc.get k hk
 exact⟨b,off,e,ba,bc,ia,ic,hx _ _ h0,hx _ _ h1,hx _ _ h2,hx _ _ h3,hi⟩
end
theorem yT {w w':World}{a:Addr}{v:Value}(h:w.cell? a=some v) (hb:Below w.heap.size w w'):w'.cell? a=some v:=(hb.cell (World.block_lt_of_cell? w _ h)).trans h
theorem tr {w:World}{a:Addr}{v:Value}(h:w.cell? a=some v):w.drew.cell? a=some v:=h
theorem OwnI.drew {w:World}{base:Nat}{v:Value}{H:Snap}{l:List Itm}(h:OwnI w base v H l):OwnI w.drew base v H l:=h
theorem vJ {A:Option Addr}{m c q:Nat}(h:A.map (·.block)=some q):(Value.slice A m c).ownBlock=some q:=by cases A <;> simp_all [Value.ownBlock]
theorem Src.slicek {w:World}{H:Snap}{A:Option Addr}{cs:List Value}{L:List Itm}{k j vc:Nat}(h:k<L.length→∃ b off,A=some ⟨b,off,none⟩∧Src w (some ⟨b,off+k*4,none⟩) cs) (hc:ItemsC H cs (L.drop k)) (hL:L.length=j) (hvc:(j:Int)≤vc) :
  Src w (if vc=k then A else Option.map (fun x=>x.add (k*4)) A) cs:=by
 by_cases hk:k<L.length
 ·obtain⟨b,off,rfl,hs⟩:=h hk;rw[if_neg (by omega),Option.map_some,nV]
  exact hs
 ·rw[List.drop_eq_nil_of_le (by omega),ItemsC]at hc;subst hc
  exact Src.nil _ _
theorem ig {B:Nat}{w wr:World}(_h:Below B w wr) (t:TypeId) (cs:Array Value):Src (wr.alloc (.cells cs t)) (some ⟨wr.heap.size,0,none⟩) cs.toList:=Src.lit _ _ _
def BuildSaid (w:World) (H:Snap) (ps:List Itm) (e:Ending) (w':World):Prop :=
 ∃ v,(∃ l,e=.returned (.tuple #[v,.int .i64 0])∧Gives w H (.mk 5 0 [] l) v w'∧yW (.mk 5 0 [] l)=true∧(zB l).length=(zB ps).length∧(ps.length=2→l=ps))∨
  (∃ c,e=.returned (.tuple #[v,.int .i64 c])∧c≠0∧Gives w H zt v w'∧¬ (ps.length=2∧(∀ x∈ps,yW x=true)∧yW (.mk 5 0 [] ps)=true))
theorem fX (L:List Itm) (k:Nat) (y z:Itm):(zB (L.take k++[y,z]++L.drop k)).length=(zB L).length+(zd y).length+(zd z).length:=by
 have h:=congrArg List.length (sq (L.take k) (L.drop k));rw[List.take_append_drop]at h;rw[sq,sq]
 simp only[zB,List.length_append,List.append_nil]at h⊢
 omega
end Go.Proofs.YtnlinmoiakgedaaGreatDoor
