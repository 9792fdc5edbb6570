/- squeezed. Proved: coreseclaw25.SessionTicks returns true for every input, and behind the call every argument reads as it read before. Conditions: none beyond the given card itself (the two listed tables of unicode/utf8 read as the text of the program lays them); no bound on sizes. -/
import Derived.Test.YtnfoilblmhbobaaGreatDoorCards
import Derived.Test.YtnfoilblmhbobaaGreatDoorTie
import Derived.Test.YtnfoilblmhbobaaGreatDoorK26
import Derived.Deep.Matrix
import Derived.Lib.LaidIn
import Derived.Lib.LaidU8T
import Derived.Deep.DeepHandedRow
import Derived.Deep.DeepWitnessRowRef
import Derived.ProofKit
import Derived.SizedLaws
set_option linter.unusedVariables false
set_option linter.unusedSimpArgs false
set_option maxRecDepth 100000
set_option maxHeartbeats 4000000
namespace Go.Proofs.YtnfoilblmhbobaaGreatDoor.sessionticks
open Go.ChangeMaps (open_string)
open Go.ChangeShapes Go.WideShapes Go.ChangeAt Go.RowKit Go.Lib Go.Shelf
def utfRen24:Go.Shelf.Ren:=⟨fun n=>n,
 fun | 5=>5 | 119=>102 | 138=>104 | 139=>105 | n=>n,
 fun | 3=>0 | 4=>1 | n=>n⟩
theorem utfTypes:U8Types Tryz.prog utfRen24:=⟨Tryz.underlying5,Tryz.underlying102,Tryz.underlying104,Tryz.underlying105⟩
theorem laid_out:laidOutB Tryz.prog=true:=by kernel_rfl
theorem own:ownKnob Tryz.prog.godebug=none:=by kernel_rfl
noncomputable def laidWorld (os:Os):World :=
 let w0:=World.holding Tryz.prog os ⟨#[],#[],[]⟩
 let put (h:Array Obj) (g:Nat) (cs:Array Value):Array Obj:=h.modify g fun
  | .cells _ t frozen=>.cells cs t frozen
  | o=>o
 let h1:=put w0.heap 0 (Lib.firstTab.map fun z=>Value.int .u8 z).toArray
 let h2:=put h1 1 ((List.range 16).flatMap fun i=>[Value.int .u8 (Lib.accLo i),Value.int .u8 (Lib.accHi i)]).toArray
 { w0 with heap:=h2 }
abbrev args0:Array Value:=#[.agg yz,.slice none 0 0,.int .i64 0]
theorem laid_met (os:Os):laidMet Tryz.prog Rows.sessionTicksRow.laid ((laidWorld os).forCall (fun _ _=>0) ⟨#[],args0,[]⟩).memory :=
 laidMet_of_run' 8 (by kernel_rfl) (by kernel_rfl)
theorem reads (os:Os) {H:Type}(enc:TypeId×Value→H):∃ places,DataW.whole enc Tryz.prog ((laidWorld os).forCall (fun _ _=>0) ⟨#[],args0,[]⟩).memory Tryz.f3.params.toList Rows.sessionTicksSpec.vars false args0.toList 8=some ([.agg [.lit (.int .i64 0),.lit (.int .i64 0),.lit (.int .i64 0),.lit (.int .i64 0),.agg [.agg [.nil,.lit (.int .i64 0),.nil,.agg [.lit (.int .i64 0),.lit (.int .i64 0),.lit (.int .i64 0),.nil,.nil,.nil,.nil]],.nil,.agg [.nil,.nil]],.nil,.nil,.nil,.nil,.nil,.nil,.nil,.nil,.nil,.nil,.nil,.nil,.lit (.int .i64 0),.lit (.int .i64 0),.nil],.nil,.lit (.int .i64 0)],[],places) :=
 ⟨[],by kernel_rfl⟩
theorem ints_arg {H:Type}{enc:TypeId×Value→H}{W:World}{a0:Option Addr}{len cap:Nat}{d:DataW H}{p:List MemPlace}(h:DataW.Trod enc Tryz.prog W 0 (fun _=>true) true 28 (.slice a0 len cap) d p) :
  ∃ l:List Int,l.length=len∧IsInts (yJ W) a0 cap l:=by
 obtain⟨fuel,hf⟩:=h
 rcases open_ints Tryz.underlying28 Tryz.underlying3 (by kernel_rfl) hf with ⟨qm,hx⟩ | ⟨a,len',cap',zs,qm,_,hl,hm,hz,hx,yS,hwz⟩
 ·simp[Value.cells]at qm
  obtain⟨rfl,rfl,rfl⟩:=qm
  exact⟨[],rfl,by simp,by omega,Row.nil _ _,by simp⟩
 simp[Value.cells]at qm
 obtain⟨rfl,rfl,rfl⟩:=qm;have h1:=oC hl hm (by simp at hz;omega) yS hwz
 exact⟨_,h1.2,h1.1⟩
theorem list2T {α:Type}{l:List α}(h:l.length=2):∃ a0 a1,l=[a0,a1]:=by
 match l,h with
 | [a0,a1],_=>exact⟨a0,a1,rfl⟩
theorem list3T {α:Type}{l:List α}(h:l.length=3):∃ a0 a1 a2,l=[a0,a1,a2]:=by
 match l,h with
 | [a0,a1,a2],_=>exact⟨a0,a1,a2,rfl⟩
theorem list4T {α:Type}{l:List α}(h:l.length=4):∃ a0 a1 a2 a3,l=[a0,a1,a2,a3]:=by
 match l,h with
 | [a0,a1,a2,a3],_=>exact⟨a0,a1,a2,a3,rfl⟩
theorem list7T {α:Type}{l:List α}(h:l.length=7):∃ a0 a1 a2 a3 a4 a5 a6,l=[a0,a1,a2,a3,a4,a5,a6]:=by
 match l,h with
 | [a0,a1,a2,a3,a4,a5,a6],_=>exact⟨a0,a1,a2,a3,a4,a5,a6,rfl⟩
theorem list10T {α:Type}{l:List α}(h:l.length=10):∃ a0 a1 a2 a3 a4 a5 a6 a7 a8 a9,l=[a0,a1,a2,a3,a4,a5,a6,a7,a8,a9]:=by
 match l,h with
 | [a0,a1,a2,a3,a4,a5,a6,a7,a8,a9],_=>exact⟨a0,a1,a2,a3,a4,a5,a6,a7,a8,a9,rfl⟩
theorem list13T {α:Type}{l:List α}(h:l.length=13):∃ a0 a1 a2 a3 a4 a5 a6 a7 a8 a9 a10 a11 a12,l=[a0,a1,a2,a3,a4,a5,a6,a7,a8,a9,a10,a11,a12]:=by
 match l,h with
 | [a0,a1,a2,a3,a4,a5,a6,a7,a8,a9,a10,a11,a12],_=>exact⟨a0,a1,a2,a3,a4,a5,a6,a7,a8,a9,a10,a11,a12,rfl⟩
theorem list20T {α:Type}{l:List α}(h:l.length=20):∃ a0 a1 a2 a3 a4 a5 a6 a7 a8 a9 a10 a11 a12 a13 a14 a15 a16 a17 a18 a19,l=[a0,a1,a2,a3,a4,a5,a6,a7,a8,a9,a10,a11,a12,a13,a14,a15,a16,a17,a18,a19]:=by
 match l,h with
 | [a0,a1,a2,a3,a4,a5,a6,a7,a8,a9,a10,a11,a12,a13,a14,a15,a16,a17,a18,a19],_=>exact⟨a0,a1,a2,a3,a4,a5,a6,a7,a8,a9,a10,a11,a12,a13,a14,a15,a16,a17,a18,a19,rfl⟩
theorem list32T {α:Type}{l:List α}(h:l.length=32):∃ a0 a1 a2 a3 a4 a5 a6 a7 a8 a9 a10 a11 a12 a13 a14 a15 a16 a17 a18 a19 a20 a21 a22 a23 a24 a25 a26 a27 a28 a29 a30 a31,l=[a0,a1,a2,a3,a4,a5,a6,a7,a8,a9,a10,a11,a12,a13,a14,a15,a16,a17,a18,a19,a20,a21,a22,a23,a24,a25,a26,a27,a28,a29,a30,a31]:=by
 match l,h with
 | [a0,a1,a2,a3,a4,a5,a6,a7,a8,a9,a10,a11,a12,a13,a14,a15,a16,a17,a18,a19,a20,a21,a22,a23,a24,a25,a26,a27,a28,a29,a30,a31],_=>exact⟨a0,a1,a2,a3,a4,a5,a6,a7,a8,a9,a10,a11,a12,a13,a14,a15,a16,a17,a18,a19,a20,a21,a22,a23,a24,a25,a26,a27,a28,a29,a30,a31,rfl⟩
theorem rowC_ofT {α:Type}{L:Lie α}{H:Snap}:∀ (l:List α) (b off:Nat),(∀ (j:Nat) (hj:j<l.length),∃ d,L.E H l[j] d∧∀ i v,d[i]? = some v→H.cell? ⟨b,off+(j*L.k+i),none⟩=some v)→∃ cs,RowC L H cs l∧∀ j v,cs[j]? = some v→H.cell? ⟨b,off+j,none⟩=some v
 | [],b,off,h=>⟨[],RowC.nil L H,by simp⟩
 | x::l,b,off,h=>by
  obtain⟨d,hd,hc⟩:=h 0 (by simp)
  obtain⟨cs,h1,h2⟩:=rowC_ofT l b (off+L.k) fun j hj=>by
   obtain⟨d',my,VV⟩:=h (j+1) (by simpa using hj)
   simp only[List.getElem_cons_succ]at my
   refine⟨d',my,fun i v hv=>?_⟩
   have:=VV i v hv;rwa [show off+((j+1)*L.k+i)=off+L.k+(j*L.k+i) by rw[Nat.add_mul];omega]at this
  refine⟨d++cs,by rw[RowC];exact⟨d,cs,rfl,hd,h1⟩,fun j v hv=>?_⟩
  have hl:=L.len hd
  by_cases hj:j<d.length
  ·rw[List.getElem?_append_left hj]at hv;have:=hc j v hv;rwa [show off+(0*L.k+j)=off+j by omega]at this
  rw[List.getElem?_append_right (by omega)]at hv;have:=h2 _ v hv;rwa [show off+L.k+(j-d.length)=off+j by omega]at this
theorem bytes_cellT {H:Type}{enc:TypeId×Value→H}{W:World}{fuel:Nat}{c:Value}{x:DataW H×List MemPlace}(h:DataW.trod enc Tryz.prog W 0 (fun _=>true) true fuel 22 [c]=some x) :
  ∃ (A:Option Addr) (k:Nat) (l:List UInt8),c=.slice A l.length k∧IsBytes (yJ W) A k l:=by
 rcases open_ints Tryz.underlying22 Tryz.underlying5 (by kernel_rfl) h with ⟨qm,hx⟩ | ⟨a,len,cap,zs,qm,_,hl,hm,hz,hx,yS,hwz⟩
 ·simp at qm
  exact⟨none,0,[],qm,IsBytes.nil _⟩
 simp at qm
 have h1:=jA hl hm (by simp at hz;omega) yS hwz
 exact⟨some a,cap,_,by rw[h1.2];exact qm,h1.1⟩
theorem rowC_intsT {H:Snap}:∀ l:List Int,RowC qZ H (l.map fun v=>Value.int .i64 v) l
 | []=>RowC.nil _ _
 | v::l=>⟨[.int .i64 v],_,rfl,rfl,rowC_intsT l⟩
theorem ints_rowT {H:Snap}{A:Option Addr}{c:Nat}{l:List Int}(h:IsInts H A c l):IsRow qZ H A c l:=⟨h.le,h.max,fun h0=>by
 obtain⟨b,off,e,hc⟩:=h.row (by intro e;rw[List.map_eq_nil_iff]at e;subst e;simp at h0)
 exact⟨b,off,_,e,rowC_intsT l,hc⟩⟩
theorem ints_cellT {H:Type}{enc:TypeId×Value→H}{W:World}{fuel:Nat}{c:Value}{x:DataW H×List MemPlace}(h:DataW.trod enc Tryz.prog W 0 (fun _=>true) true fuel 28 [c]=some x) :
  ∃ (A:Sl) (l:List Int),c=.slice A.a l.length A.c∧IsRow qZ (yJ W) A.a A.c l:=by
 rcases open_ints Tryz.underlying28 Tryz.underlying3 (by kernel_rfl) h with ⟨qm,hx⟩ | ⟨a,len,cap,zs,qm,_,hl,hm,hz,hx,yS,hwz⟩
 ·simp at qm
  exact⟨⟨none,0⟩,[],qm,IsRow.nil _ _⟩
 simp at qm
 have h1:=oC hl hm (by simp at hz;omega) yS hwz
 exact⟨⟨some a,cap⟩,_,by rw[h1.2];exact qm,ints_rowT h1.1⟩
theorem bytesT {H:Type}{enc:TypeId×Value→H}{W:World}{fuel:Nat}{c:Value}{x:DataW H×List MemPlace}(h:DataW.trod enc Tryz.prog W 0 (fun _=>true) true fuel 22 [c]=some x) :
  ∃ (A:Sl) (l:List UInt8),c=.slice A.a l.length A.c∧IsBytes (yJ W) A.a A.c l:=by
 obtain⟨A,k,l,e,hi⟩:=bytes_cellT h
 exact⟨⟨A,k⟩,l,e,hi⟩
theorem bytesOf_bs:Tryz.prog.bytesOf 22=24:=by kernel_rfl
theorem lists_cellT {H:Type}{enc:TypeId×Value→H}{W:World}{fuel:Nat}{v:Value}{x:DataW H×List MemPlace}(hf:DataW.trod enc Tryz.prog W 0 (fun _=>true) true fuel 23 [v]=some x) :
  ∃ (A:Sl) (l:List (List UInt8)),v=.slice A.a l.length A.c∧IsRow wO (yJ W) A.a A.c l∧((x.1.weights Tryz.prog 23).all (·≤reachBytes)=true→l.length*24≤reachBytes):=by
 have c1:Tryz.prog.cellsOf 22=1:=by kernel_rfl
 rcases DataW.trod_slice Tryz.underlying23 hf with ⟨e3,_⟩ | ⟨a,len,cap,elems,rest,n2,kZ,e3,aT,_,hlc,oo,xJ,iy,_,_⟩
 ·simp at e3
  exact⟨⟨none,0⟩,[],e3,IsRow.nil _ _,fun _=>by simp⟩
 simp at e3
 rw[c1]at iy
 have each:∀ i,i<len→∃ y:List UInt8,∃ cs',W.cells? 0 (a.add (i*1)) 1=some cs'∧wO.E (yJ W) y cs':=fun i hi=>by
  have VZ:i<elems.length:=by omega
  have h1:=iy i hi;rw[List.getElem?_eq_getElem VZ,Option.bind_eq_some_iff]at h1;obtain⟨cs',h1,h2⟩:=h1;obtain⟨_,pL,_⟩:=World.cells?_some h1;obtain⟨c,rfl⟩:∃ c,cs'=[c]:=List.length_eq_one_iff.1 pL;obtain⟨A,k,y,rfl,hy⟩:=bytes_cellT h2
  exact⟨y,_,h1,A,k,rfl,hy⟩
 obtain⟨Y,hY⟩:=Go.Deep.choose_lt each;obtain⟨l,fZ⟩:∃ l,(List.range len).map (fun i=>Y i)=l:=⟨_,rfl⟩
 have Y9:l.length=len:=by rw[← fZ];simp
 have UX:cap≤9223372036854775807:=by simpa [maxLen] using oo
 refine⟨⟨some a,cap⟩,l,by rw[Y9];exact e3,⟨by rw[Y9];exact hlc,UX,fun h0=>?_⟩,fun hw=>?_⟩
 ·rw[Y9]at h0;obtain⟨b,off,spot⟩:=a
  have T0:spot=none:=by
   obtain⟨cs',h1,h2⟩:=hY 0 h0;obtain⟨_,pL,h3⟩:=World.cells?_some h1;have h4:=h3 0 (by omega);have aK:=wO.len h2;rw[List.getElem?_eq_getElem (by rw[aK];show 0<1;omega)]at h4
   simpa [Addr.add] using World.cell?_spot h4
  subst T0
  obtain⟨cs,h1,h2⟩:=rowC_ofT (L:=wO) (H:=yJ W) l b off fun i hi=>by
   rw[Y9]at hi;obtain⟨cs',h1,h2⟩:=hY i hi;obtain⟨_,_,h4⟩:=World.cells?_some h1;have g:l[i]'(by omega)=Y i:=by subst fZ;simp
   have aK:=wO.len h2
   refine⟨cs',by rw[g];exact h2,fun j v hv=>?_⟩
   have hj:j<1:=by
    have:=(List.getElem?_eq_some_iff.1 hv).1;rw[aK]at this
    exact this
   rw[← hv,← h4 j hj,add_plain,add_plain,sf,Nat.add_assoc];rfl
  exact⟨b,off,cs,rfl,h1,h2⟩
 subst aT;have h1:=List.all_eq_true.1 hw ((elems.length+rest.length)*Tryz.prog.bytesOf 22) (by simp[DataW.weights,Tryz.underlying23]);rw[bytesOf_bs]at h1;have h2:=of_decide_eq_true h1;rw[Y9,← xJ]
 exact Nat.le_trans (Nat.mul_le_mul_right _ (Nat.le_add_right _ _)) h2
theorem all_each {H:Type}{P:Program}{ts:List TypeId}{ds:List (DataW H)}(h:(DataW.weightsEach P ts ds).all (·≤reachBytes)=true) {j:Nat}{t:TypeId}{d:DataW H}(ht:ts[j]? = some t) (hd:ds[j]? = some d):(d.weights P t).all (·≤reachBytes)=true :=
 List.all_eq_true.2 fun n hn=>List.all_eq_true.1 h n (DataW.weights_mem_each ht hd n hn)
theorem key_openT {H:Type}{enc:TypeId×Value→H}{W:World}{fuel:Nat}{L:List Value}{x:DataW H×List MemPlace}(hf0:DataW.trod enc Tryz.prog W 0 (fun _=>true) true fuel 25 L=some x) :
  ∃ (p:Pty) (a:PtyA),L=[.int .i64 p.kty,.int .i64 p.crv,.int .i64 p.alg,.slice a.kid.a p.kid.length a.kid.c,.slice a.kx.a p.kx.length a.kx.c,.slice a.kd.a p.kd.length a.kd.c,.slice a.kk.a p.kk.length a.kk.c]∧IsBytes (yJ W) a.kid.a a.kid.c p.kid∧IsBytes (yJ W) a.kx.a a.kx.c p.kx∧IsBytes (yJ W) a.kd.a a.kd.c p.kd∧IsBytes (yJ W) a.kk.a a.kk.c p.kk:=by
 have cb:Tryz.prog.cellsOf 22=1:=by kernel_rfl
 have ci:Tryz.prog.cellsOf 3=1:=by kernel_rfl
 have cz:Tryz.prog.cellsOf 25=7:=by kernel_rfl
 obtain⟨xs,n1,ti,sW,hl,j6,hf⟩:=DataW.trod_struct Tryz.underlying25 hf0;rw[cz]at hl;obtain⟨e0,e1,e2,e3,e4,e5,e6,rfl⟩:=list7T hl;obtain⟨y0,y1,y2,y3,y4,y5,y6,rfl⟩:=list7T (l:=xs) (by rw[j6];rfl);have f0:=hf 0 _ rfl;have f1:=hf 1 _ rfl;have f2:=hf 2 _ rfl;have f3:=hf 3 _ rfl;have f4:=hf 4 _ rfl;have f5:=hf 5 _ rfl;have f6:=hf 6 _ rfl
 simp[ci]at f0
 simp[ci]at f1
 simp[ci]at f2
 simp[cb]at f3
 simp[cb]at f4
 simp[cb]at f5
 simp[cb]at f6
 obtain⟨k0,g0,_,_⟩:=DataW.trod_int Tryz.underlying3 f0
 simp at g0
 subst g0;obtain⟨k1,g1,_,_⟩:=DataW.trod_int Tryz.underlying3 f1
 simp at g1
 subst g1;obtain⟨k2,g2,_,_⟩:=DataW.trod_int Tryz.underlying3 f2
 simp at g2
 subst g2;obtain⟨a3,b3,rfl,h3⟩:=bytesT f3;obtain⟨a4,b4,rfl,h4⟩:=bytesT f4;obtain⟨a5,b5,rfl,h5⟩:=bytesT f5;obtain⟨a6,b6,rfl,h6⟩:=bytesT f6
 exact⟨⟨[],0,[],k0,k1,k2,b3,b4,b5,b6,[],[],[]⟩,⟨⟨none,0⟩,⟨none,0⟩,a3,a4,a5,a6,⟨none,0⟩,⟨none,0⟩,⟨none,0⟩⟩,rfl,h3,h4,h5,h6⟩
theorem store_openT {H:Type}{enc:TypeId×Value→H}{W:World}{fuel:Nat}{L:List Value}{x:DataW H×List MemPlace}(hf0:DataW.trod enc Tryz.prog W 0 (fun _=>true) true fuel 30 L=some x) :
  ∃ (k l:List (List UInt8)) (a b:Sl),L=[.slice a.a k.length a.c,.slice b.a l.length b.c]∧IsRow wO (yJ W) a.a a.c k∧IsRow wO (yJ W) b.a b.c l:=by
 have cl:Tryz.prog.cellsOf 23=1:=by kernel_rfl
 have cz:Tryz.prog.cellsOf 30=2:=by kernel_rfl
 obtain⟨xs,n1,ti,sW,hl,j6,hf⟩:=DataW.trod_struct Tryz.underlying30 hf0;rw[cz]at hl;obtain⟨e0,e1,rfl⟩:=list2T hl;obtain⟨y0,y1,rfl⟩:=list2T (l:=xs) (by rw[j6];rfl);have f0:=hf 0 _ rfl;have f1:=hf 1 _ rfl
 simp[cl]at f0
 simp[cl]at f1
 obtain⟨a0,b0,rfl,h0,w0⟩:=lists_cellT f0;obtain⟨a1,b1,rfl,h1,w1⟩:=lists_cellT f1
 exact⟨b0,b1,a0,a1,rfl,h0,h1⟩
theorem ident_openT {H:Type}{enc:TypeId×Value→H}{W:World}{fuel:Nat}{L:List Value}{x:DataW H×List MemPlace}(hf0:DataW.trod enc Tryz.prog W 0 (fun _=>true) true fuel 27 L=some x) :
  ∃ (p:Pty) (a:PtyA),L=[.slice a.cred.a p.cred.length a.cred.c,.int .i64 p.ref,.slice a.chain.a p.chain.length a.chain.c,.int .i64 p.kty,.int .i64 p.crv,.int .i64 p.alg,.slice a.kid.a p.kid.length a.kid.c,.slice a.kx.a p.kx.length a.kx.c,.slice a.kd.a p.kd.length a.kd.c,.slice a.kk.a p.kk.length a.kk.c]∧IsBytes (yJ W) a.cred.a a.cred.c p.cred∧IsRow wO (yJ W) a.chain.a a.chain.c p.chain∧(IsBytes (yJ W) a.kid.a a.kid.c p.kid∧IsBytes (yJ W) a.kx.a a.kx.c p.kx∧IsBytes (yJ W) a.kd.a a.kd.c p.kd∧IsBytes (yJ W) a.kk.a a.kk.c p.kk)∧((x.1.weights Tryz.prog 27).all (·≤reachBytes)=true→p.chain.length*24≤reachBytes):=by
 have cl:Tryz.prog.cellsOf 23=1:=by kernel_rfl
 have cb:Tryz.prog.cellsOf 22=1:=by kernel_rfl
 have ck:Tryz.prog.cellsOf 25=7:=by kernel_rfl
 have ci:Tryz.prog.cellsOf 3=1:=by kernel_rfl
 have cz:Tryz.prog.cellsOf 27=10:=by kernel_rfl
 obtain⟨xs,n1,ti,sW,hl,j6,hf⟩:=DataW.trod_struct Tryz.underlying27 hf0;rw[cz]at hl;obtain⟨e0,e1,e2,e3,e4,e5,e6,e7,e8,e9,rfl⟩:=list10T hl;obtain⟨y0,y1,y2,y3,rfl⟩:=list4T (l:=xs) (by rw[j6];rfl);have f0:=hf 0 _ rfl;have f1:=hf 1 _ rfl;have f2:=hf 2 _ rfl;have f3:=hf 3 _ rfl
 simp[cb]at f0
 simp[ci]at f1
 simp[cl]at f2
 simp[ck]at f3
 obtain⟨a0,b0,rfl,h0⟩:=bytesT f0;obtain⟨k1,g1,_,_⟩:=DataW.trod_int Tryz.underlying3 f1
 simp at g1
 subst g1;obtain⟨a2,b2,rfl,h2,w2⟩:=lists_cellT f2;obtain⟨p,a,ku,q1,q2,q3,q4⟩:=key_openT f3
 simp only[List.cons.injEq,and_true]at ku
 obtain⟨rfl,rfl,rfl,rfl,rfl,rfl,rfl⟩:=ku
 refine⟨⟨b0,k1,b2,p.kty,p.crv,p.alg,p.kid,p.kx,p.kd,p.kk,[],[],[]⟩,⟨a0,a2,a.kid,a.kx,a.kd,a.kk,⟨none,0⟩,⟨none,0⟩,⟨none,0⟩⟩,rfl,h0,h2,⟨q1,q2,q3,q4⟩,fun hw=>w2 ?_⟩
 subst sW
 simp only[DataW.weights,Tryz.underlying27]at hw
 exact all_each hw (j:=2) rfl rfl
theorem party_openT {H:Type}{enc:TypeId×Value→H}{W:World}{fuel:Nat}{L:List Value}{x:DataW H×List MemPlace}(hf0:DataW.trod enc Tryz.prog W 0 (fun _=>true) true fuel 32 L=some x) :
  ∃ (p:Pty) (a:PtyA),L=(ptC p a).toList∧IsPty (yJ W) p a∧((x.1.weights Tryz.prog 32).all (·≤reachBytes)=true→p.chain.length*24≤reachBytes):=by
 have cn:Tryz.prog.cellsOf 28=1:=by kernel_rfl
 have cd:Tryz.prog.cellsOf 27=10:=by kernel_rfl
 have cs:Tryz.prog.cellsOf 30=2:=by kernel_rfl
 have cz:Tryz.prog.cellsOf 32=13:=by kernel_rfl
 obtain⟨xs,n1,ti,sW,hl,j6,hf⟩:=DataW.trod_struct Tryz.underlying32 hf0;rw[cz]at hl;obtain⟨e0,e1,e2,e3,e4,e5,e6,e7,e8,e9,e10,e11,e12,rfl⟩:=list13T hl;obtain⟨y0,y1,y2,rfl⟩:=list3T (l:=xs) (by rw[j6];rfl);have f0:=hf 0 _ rfl;have f1:=hf 1 _ rfl;have f2:=hf 2 _ rfl
 simp[cd]at f0
 simp[cn]at f1
 simp[cs]at f2
 obtain⟨p,a,U5,i1,i2,i3,iw⟩:=ident_openT f0
 simp only[List.cons.injEq,and_true]at U5
 obtain⟨rfl,rfl,rfl,rfl,rfl,rfl,rfl,rfl,rfl,rfl⟩:=U5;obtain⟨a1,b1,rfl,h1⟩:=ints_cellT f1;obtain⟨sk,sl,sa,sb,YG,s1,s2⟩:=store_openT f2
 simp only[List.cons.injEq,and_true]at YG
 obtain⟨rfl,rfl⟩:=YG
 refine⟨⟨p.cred,p.ref,p.chain,p.kty,p.crv,p.alg,p.kid,p.kx,p.kd,p.kk,b1,sk,sl⟩,⟨a.cred,a.chain,a.kid,a.kx,a.kd,a.kk,a1,sa,sb⟩,rfl,⟨i1,i2,i3.1,i3.2.1,i3.2.2.1,i3.2.2.2,h1,s1,s2⟩,fun hw=>iw ?_⟩
 subst sW
 simp only[DataW.weights,Tryz.underlying32]at hw
 exact all_each hw (j:=0) rfl rfl
theorem run_openT {H:Type}{enc:TypeId×Value→H}{W:World}{fuel:Nat}{L:List Value}{x:DataW H×List MemPlace}(hf0:DataW.trod enc Tryz.prog W 0 (fun _=>true) true fuel 34 L=some x) :
  ∃ (v:Rn) (a:RnA),L=(rnC v a).toList∧IsRn (yJ W) v a∧((x.1.weights Tryz.prog 34).all (·≤reachBytes)=true→v.p.chain.length*24≤reachBytes):=by
 have cn:Tryz.prog.cellsOf 28=1:=by kernel_rfl
 have cb:Tryz.prog.cellsOf 22=1:=by kernel_rfl
 have cp:Tryz.prog.cellsOf 32=13:=by kernel_rfl
 have ci:Tryz.prog.cellsOf 3=1:=by kernel_rfl
 have cz:Tryz.prog.cellsOf 34=32:=by kernel_rfl
 obtain⟨xs,n1,ti,sW,hl,j6,hf⟩:=DataW.trod_struct Tryz.underlying34 hf0;rw[cz]at hl;obtain⟨e0,e1,e2,e3,e4,e5,e6,e7,e8,e9,e10,e11,e12,e13,e14,e15,e16,e17,e18,e19,e20,e21,e22,e23,e24,e25,e26,e27,e28,e29,e30,e31,rfl⟩:=list32T hl;obtain⟨y0,y1,y2,y3,y4,y5,y6,y7,y8,y9,y10,y11,y12,y13,y14,y15,y16,y17,y18,y19,rfl⟩:=list20T (l:=xs) (by rw[j6];rfl);have f0:=hf 0 _ rfl;have f1:=hf 1 _ rfl;have f2:=hf 2 _ rfl;have f3:=hf 3 _ rfl;have f4:=hf 4 _ rfl;have f5:=hf 5 _ rfl;have f6:=hf 6 _ rfl;have f7:=hf 7 _ rfl;have f8:=hf 8 _ rfl;have f9:=hf 9 _ rfl;have f10:=hf 10 _ rfl;have f11:=hf 11 _ rfl;have f12:=hf 12 _ rfl;have f13:=hf 13 _ rfl;have f14:=hf 14 _ rfl;have f15:=hf 15 _ rfl;have f16:=hf 16 _ rfl;have f17:=hf 17 _ rfl;have f18:=hf 18 _ rfl;have f19:=hf 19 _ rfl
 simp[ci]at f0
 simp[ci]at f1
 simp[ci]at f2
 simp[ci]at f3
 simp[cp]at f4
 simp[cb]at f5
 simp[cb]at f6
 simp[cb]at f7
 simp[cb]at f8
 simp[cb]at f9
 simp[cb]at f10
 simp[cb]at f11
 simp[cb]at f12
 simp[cb]at f13
 simp[cb]at f14
 simp[cb]at f15
 simp[cb]at f16
 simp[ci]at f17
 simp[ci]at f18
 simp[cn]at f19
 obtain⟨k0,g0,_,_⟩:=DataW.trod_int Tryz.underlying3 f0
 simp at g0
 subst g0;obtain⟨k1,g1,_,_⟩:=DataW.trod_int Tryz.underlying3 f1
 simp at g1
 subst g1;obtain⟨k2,g2,_,_⟩:=DataW.trod_int Tryz.underlying3 f2
 simp at g2
 subst g2;obtain⟨k3,g3,_,_⟩:=DataW.trod_int Tryz.underlying3 f3
 simp at g3
 subst g3;obtain⟨p,a,pN,ip,pw⟩:=party_openT f4
 simp only[ptC,List.cons.injEq,and_true]at pN
 obtain⟨rfl,rfl,rfl,rfl,rfl,rfl,rfl,rfl,rfl,rfl,rfl,rfl,rfl⟩:=pN;obtain⟨a5,b5,rfl,h5⟩:=bytesT f5;obtain⟨a6,b6,rfl,h6⟩:=bytesT f6;obtain⟨a7,b7,rfl,h7⟩:=bytesT f7;obtain⟨a8,b8,rfl,h8⟩:=bytesT f8;obtain⟨a9,b9,rfl,h9⟩:=bytesT f9;obtain⟨a10,b10,rfl,Xj⟩:=bytesT f10;obtain⟨a11,b11,rfl,Xk⟩:=bytesT f11;obtain⟨a12,b12,rfl,SA⟩:=bytesT f12;obtain⟨a13,b13,rfl,SC⟩:=bytesT f13;obtain⟨a14,b14,rfl,SD⟩:=bytesT f14;obtain⟨a15,b15,rfl,SE⟩:=bytesT f15;obtain⟨a16,b16,rfl,V6⟩:=bytesT f16;obtain⟨k17,g17,_,_⟩:=DataW.trod_int Tryz.underlying3 f17
 simp at g17
 subst g17;obtain⟨k18,g18,_,_⟩:=DataW.trod_int Tryz.underlying3 f18
 simp at g18
 subst g18;obtain⟨a19,b19,rfl,SF⟩:=ints_cellT f19
 refine⟨⟨k0,k1,k2,k3,p,b5,b6,b7,b8,b9,b10,b11,b12,b13,b14,b15,b16,k17,k18,b19⟩,⟨a,a5,a6,a7,a8,a9,a10,a11,a12,a13,a14,a15,a16,a19⟩,rfl,⟨ip,h5,h6,h7,h8,h9,Xj,Xk,SA,SC,SD,SE,V6,SF⟩,fun hw=>pw ?_⟩
 subst sW
 simp only[DataW.weights,Tryz.underlying34]at hw
 exact all_each hw (j:=4) rfl rfl
theorem run_argT {H:Type}{enc:TypeId×Value→H}{W:World}{cs:Array Value}{d:DataW H}{p:List MemPlace}(h:DataW.Trod enc Tryz.prog W 0 (fun _=>true) true 34 (.agg cs) d p) :
  ∃ (v:Rn) (a:RnA),cs=rnC v a∧IsRn (yJ W) v a∧((d.weights Tryz.prog 34).all (·≤reachBytes)=true→v.p.chain.length*24≤reachBytes):=by
 obtain⟨fuel,hf⟩:=h;obtain⟨v,a,hL,hr,hw⟩:=run_openT hf
 exact⟨v,a,Array.ext' hL,hr,hw⟩
theorem first_is:Rows.laid_unicode_utf8_first=Lib.firstData:=by kernel_rfl
theorem accept_is:(Rows.laid_unicode_utf8_acceptRanges:DataW Unit)=Lib.acceptData:=by kernel_rfl
theorem tabs {W:World}(hL:laidMetH Tryz.prog Rows.sessionTicksRow.laid W):Tabs (yJ W):=by
 have h1:=Lib.laidMet.reads hL (.tail _ (.head _));have h2:=Lib.laidMet.reads hL (.head _);rw[first_is]at h1;rw[accept_is]at h2
 exact jJ (utf8Tabs_of_readsT utfTypes ⟨by kernel_rfl,by kernel_rfl,by kernel_rfl,by kernel_rfl,by kernel_rfl,by kernel_rfl,by kernel_rfl⟩ h1 h2)
theorem contract (H:Type) (enc:TypeId×Value→H) (F:Stop.Interp) (W:World) (base:Nat) (args:Array Value) (ds gs:List (DataW H)) (before:List MemPlace)
  (hval:∀ (j:Nat) t v,Tryz.f3.params[j]? = some t→args[j]? = some v→Value.okWide Tryz.prog W .any base t v)
  (hW:DataW.Whole enc Tryz.prog Tryz.f3.params.toList ((OpenSpec.ofChange Rows.sessionTicksSpec).at F).vars false W args.toList ds gs before)
  (hwt:(DataW.weightsEach Tryz.prog (Tryz.f3.params.toList++(OpenSpec.ofChange Rows.sessionTicksSpec).bare.plain.varTypes Tryz.prog) (ds++gs)).all (·≤reachBytes)=true) (hL:laidMetH Tryz.prog Rows.sessionTicksRow.laid W) :
  Calls Tryz.prog 3 args W fun e W'=>∃ v,e=.returned v∧((OpenSpec.ofChange Rows.sessionTicksSpec).at F).post enc Tryz.prog Tryz.f3 false true false false W args v W':=by
 have Ty:=hW;obtain⟨p,q,SI,hV,rfl,R9,RE⟩:=hW;have hA:DataW.TrodAll enc Tryz.prog W 0 (fun _=>true) true Tryz.f3.params.toList args.toList ds p:=SI;rw[Tryz.params3]at hA hval hwt;obtain⟨v0,vs0,d0,ds0,p0,q0,TB,rfl,rfl,h0,r0⟩:=trodAll_cons hA;obtain⟨v1,vs1,d1,ds1,p1,q1,rfl,rfl,rfl,h1,r1⟩:=trodAll_cons r0;obtain⟨v2,vs2,d2,ds2,p2,q2,rfl,rfl,rfl,h2,r2⟩:=trodAll_cons r1;obtain⟨rfl,rfl,rfl⟩:=trodAll_nil r2;obtain rfl:args=#[v0,v1,v2]:=by cases args;simp_all
 have wv:(d0.weights Tryz.prog 34).all (·≤reachBytes)=true:=all_each hwt (j:=0) rfl rfl;obtain⟨rfl,rfl⟩:=trodVars_none hV;obtain⟨cs0,rfl,_⟩:=okWide_struct Tryz.underlying34 (hval 0 _ v0 rfl rfl);obtain⟨A1,n1,c1,rfl⟩:=okWide_slice Tryz.underlying28 (hval 1 _ v1 rfl rfl);have SG:=h2;obtain⟨z2,rfl,rfl,rfl,_⟩:=open_int Tryz.underlying3 (hval 2 _ v2 rfl rfl) h2;obtain⟨v,a,rfl,hv,hw⟩:=run_argT h0;obtain⟨l,rfl,hl⟩:=ints_arg h1
 have d8:(v.p.chain.length+5)*24≤140737488355328:=by
  have h:=hw wv;have e:reachBytes=140737488351232:=rfl
  omega
 have z6:∀ z∈p0++(p1++([]++[]))++[],z.block<W.heap.size:=fun z hz=>by simpa using Ty.lt z hz
 refine(lF (tabs hL) hv d8 hl z2 W (lD W)).mono fun e W' ⟨he,bel⟩=>?_
 subst he
 have st:∀ {t:TypeId} {v:Value} {d:DataW H} {ps:List MemPlace},DataW.Trod enc Tryz.prog W 0 (fun _=>true) true t v d ps→Tryz.prog.readableRec t=true→t<Tryz.prog.types.size→(∀ z∈ps,z∈p0++(p1++([]++[]))++[])→DataW.Trod enc Tryz.prog W' 0 (fun b=>decide (b<W.heap.size)) true t v d ps :=
  fun h hr hs Wb=>Below.trod laid_out hr hs h bel (fun z hz=>z6 z (Wb z hz))
 refine⟨_,rfl,_,_,_,[],p0++(p1++([]++[])),[],Ty, ?_, ?_, ?_,bel.frame _,fun h=>by cases h⟩
 ·exact trodAll_mk1 (shut_bool Tryz.underlying4 _)
 ·exact trodAll_cons_mk (st h0 (by kernel_rfl) (of_decide_eq_true (by kernel_rfl)) (fun z hz=>by simp[hz])) (trodAll_cons_mk (st h1 (by kernel_rfl) (of_decide_eq_true (by kernel_rfl)) (fun z hz=>by simp[hz])) (trodAll_cons_mk (st SG (by kernel_rfl) (of_decide_eq_true (by kernel_rfl)) (fun z hz=>by cases hz)) (trodAll_mk0)))
 rfl
theorem lifted (os:Os) (started:os.Started) (H:Type) (enc:TypeId×Value→H) (F:Stop.Interp) :
  ReturnsInHanded {} Tryz.checked os 3 .any ((OpenSpec.ofChange Rows.sessionTicksSpec).preRow enc Tryz.prog Tryz.f3 Rows.sessionTicksRow.domain false Rows.sessionTicksRow.laid) (((OpenSpec.ofChange Rows.sessionTicksSpec).at F).post enc Tryz.prog Tryz.f3 false true false false):=by
 obtain⟨places,hx⟩:=reads os enc
 refine returnsInHanded_of_row (C:=Tryz.checked) (s:=OpenSpec.ofChange Rows.sessionTicksSpec) own started (by kernel_rfl) Tryz.func3
  (witness_row_at (enc:=enc) (C:=Tryz.checked) false (laidWorld os) args0 rfl (by kernel_rfl) (by kernel_rfl) (by kernel_rfl)
   (OpenSpec.preRow_of_cond 8 hx (by kernel_rfl) (fun k hk=>by cases hk) (by kernel_rfl) (laid_met os))) ?_
 intro W base args ds gs before hval hW _ _ hwt hL _ _
 exact contract H enc F W base args ds gs before hval hW hwt hL
theorem said:Rows.SessionTicksSaid :=
 OpenClaim.holds_of_cond 3 Tryz.f3 rfl rfl rfl rfl rfl rfl rfl ⟨rfl,rfl,rfl,rfl,rfl⟩ rfl rfl rfl rfl rfl (by kernel_rfl) Tryz.func3 (by kernel_rfl)
  (of_decide_eq_true (by kernel_rfl)) (by unfold Func.isWrapper;first | (rw[if_pos (by decide +kernel)];kernel_rfl) | (rw[if_neg (by decide +kernel)];exact⟨rfl,rfl⟩))
  (fun os started H enc _ F=>by rw[OpenClaim.pre_eq_preRow];exact lifted os started H enc F)
theorem plain (f : FuncId) (fn : Func) (hf : Tryz.pinned.checked.prog.funcNamed "coresec/coreseclaw25.SessionTicks" = some f) (hfn : Tryz.pinned.checked.prog.funcs[f]? = some fn) :
  false=Tryz.pinned.checked.prog.looks []∧∀ (j:Nat) t,fn.params[j]? = some t→Tryz.pinned.checked.prog.wantsStandIn t=false:=by
 obtain rfl : f = 3 := Option.some.inj ((show Tryz.prog.funcNamed "coresec/coreseclaw25.SessionTicks" = some 3 by kernel_rfl).symm.trans hf) |>.symm;obtain rfl : fn = Tryz.f3 := (Option.some.inj (Tryz.func3.symm.trans hfn)).symm
 refine⟨by kernel_rfl,fun j t ht=>?_⟩
 rw[Tryz.params3]at ht;have hm:=Array.mem_of_getElem? ht
 simp at hm
 rcases hm with rfl | rfl | rfl
 ·exact(show Tryz.prog.wantsStandIn 34=false by kernel_rfl)
 ·exact(show Tryz.prog.wantsStandIn 28=false by kernel_rfl)
 exact(show Tryz.prog.wantsStandIn 3=false by kernel_rfl)
theorem card:Rows.SessionTicksCardSaid :=
 Claim7.holds_tied_plain_at .later [] _ _ _ _ said (fun _ h=>by cases h) (by kernel_rfl) (fun _ h=>by cases h) sessionTicks_row_tie rfl ⟨rfl,rfl⟩ (by kernel_rfl) rfl plain (by kernel_rfl)
end Go.Proofs.YtnfoilblmhbobaaGreatDoor.sessionticks
