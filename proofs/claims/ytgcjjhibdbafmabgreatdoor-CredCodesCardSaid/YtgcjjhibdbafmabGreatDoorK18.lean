/- squeezed. Small maps of the call's own, keye -/
import Derived.Maps.Own
import Derived.MapKept
import Derived.Test.YtgcjjhibdbafmabGreatDoorK17
set_option linter.unusedVariables false
set_option linter.unusedSimpArgs false
set_option maxRecDepth 100000
set_option maxHeartbeats 51200000
namespace Go.Proofs.YtgcjjhibdbafmabGreatDoor
open Go.RowKit
theorem ua {P:Program}{ops:Array Oper}{Q:Exit→Act→World→Prop}{rest:List Oper}{a:Act}{w:World}{dst:Option Tmp}{ty:TypeId}{x y z:Operand}{T:TypeId}{pos:String}{af:Array Edge}{g:Option (Nat×Bool)}
  (h:yP (wpList P ops Q (⟨dst,.insert ty x y z,T,pos,af,g⟩::rest) a w)):wpList P ops Q (⟨dst,.insert ty x y z,T,pos,af,g⟩::rest) a w:=h
def rm (es:List (Int×Value)) (k:Int):Option Value:=(es.find? fun e=>k==e.1).map (·.2)
def kh:List (Int×Value)→Nat→List MapEntry
 | [],_=>[]
 | e::r,n=>⟨.int .i64 e.1,e.2,n⟩::kh r (n+1)
def MapIs (w:World) (b:Nat) (es:List (Int×Value)):Prop:=w.heap[b]? = some (.map (kh es 0).toArray es.length)
theorem gL:∀ (l:List (Int×Value)) (e:Int×Value) (n:Nat),kh (l++[e]) n=kh l n++[⟨.int .i64 e.1,e.2,n+l.length⟩]
 | [],e,n=>by simp[kh]
 | x::l,e,n=>by simp only[List.cons_append,kh,gL l e (n+1),List.length_cons];rw[show n+1+l.length=n+(l.length+1) by omega]
theorem pT (k:Int):∀ (l:List (Int×Value)) (n i:Nat),Instr.findNow (.int .i64) (.int .i64 k) (kh l n) i=some ((l.findIdx? fun e=>k==e.1).bind fun j=>(l[j]?).map fun e=>(i+j,e.2))
 | [],n,i=>by simp[kh,Instr.findNow]
 | e::l,n,i=>by
  rw[kh,Instr.findNow]
  simp only[Instr.sameNow,if_true]
  rw[List.findIdx?_cons]
  cases h:(k==e.1) with
  | true=>simp
  | false =>
  simp only[pT k l (n+1) (i+1),Bool.false_eq_true,if_false]
  cases List.findIdx? (fun e=>k==e.1) l with
  | none=>simp
  | some j =>
  simp only[Option.bind_some,Option.map_some,List.getElem?_cons_succ]
  congr 2
  funext e
  congr 1
  omega
theorem MapIs.lt {w:World}{b:Nat}{es:List (Int×Value)}(h:MapIs w b es):b<w.heap.size:=(Array.getElem?_eq_some_iff.1 h).1
theorem MapIs.below {w w':World}{b:Nat}{es:List (Int×Value)}(h:MapIs w b es) (hb:Below w.heap.size w w'):MapIs w' b es:=(hb.block b h.lt).trans h
theorem MapIs.alloc {w:World}{b:Nat}{es:List (Int×Value)}(h:MapIs w b es) (o:Obj):MapIs (w.alloc o) b es:=h.below (zi w o)
theorem MapIs.grown {w w':World}{b:Nat}{es:List (Int×Value)}{row:Option Nat}(h:MapIs w b es) (hb:w.grownBy w' row) (hg:row≠some b):MapIs w' b es:=(hb.block b h.lt (Ne.symm hg)).trans h
theorem MapIs.new (w:World):MapIs (w.alloc (.map #[] 0)) w.heap.size []:=heap_alloc_new w _
theorem YF (es:List (Int×Value)) (k:Int):((es.findIdx? fun e=>k==e.1).bind fun j=>es[j]?)=es.find? fun e=>k==e.1:=by
 induction es with
 | nil=>rfl
 | cons e l ih =>
 rw[List.findIdx?_cons,List.find?_cons]
 cases h:(k==e.1) with
 | true=>simp
 | false =>
 simp only[Bool.false_eq_true,if_false]
 rw[← ih]
 cases List.findIdx? (fun e=>k==e.1) l with
 | none=>rfl
 | some j=>simp
section
variable {P:Program} {w:World} {t kt et:TypeId} {b:Nat} {es:List (Int×Value)}
theorem au (hu:P.underlying t=some (.map kt et)) (hk:P.underlying kt=some (.int .i64)) (hb:MapIs w b es) (k:Int) (v:Value) (xH:rm es k=none) :
  ∃ w',(Instr.mapUpdate t (.map (some b)) (.int .i64 k) v).run P w=.ok () w'∧MapIs w' b (es++[(k,v)])∧w.grownBy w' (some b):=by
 have h0:(es.findIdx? fun e=>k==e.1)=none:=by
  unfold rm at xH
  rw[Option.map_eq_none_iff]at xH;rw[List.findIdx?_eq_none_iff]
  intro x hx
  have:=List.find?_eq_none.1 xH x hx
  simpa using this
 have hf:Instr.findNow (.int .i64) (.int .i64 k) (kh es 0) 0=some none:=by rw[pT,h0];rfl
 refine⟨{ w with heap:=w.heap.setIfInBounds b (.map (kh es 0++[(⟨.int .i64 k,v,es.length⟩:MapEntry)]).toArray (es.length+1)) }, ?_, ?_,⟨rfl,rfl,rfl,by simp,fun i _ hi=>?_⟩⟩
 ·unfold Instr.mapUpdate
  have h1:=MapKept.run_checkKey (P:=P) (w:=w) hk (k:=.int .i64 k) (by simp[MapKept.IsKey]) false 9999;have h2:=MapKept.run_findKey (P:=P) (w:=w) hk hf;have h3:=MapKept.run_setObj_map (P:=P) (w:=w) (.map (kh es 0++[(⟨.int .i64 k,v,es.length⟩:MapEntry)]).toArray (es.length+1)) hb
  simp[Sem.run_bind,Result.andThen,run_underlying hu,MapKept.run_getObj_map hb,h1,h2,h3]
 ·have ye:=hb.lt
  unfold MapIs
  simp[ye,gL]
 simp[Array.getElem?_setIfInBounds]
 intro e
 exact absurd e.symm (by intro e;exact hi (by rw[e]))
theorem wj (hu:P.underlying t=some (.map kt et)) (hk:P.underlying kt=some (.int .i64)) (hb:MapIs w b es) {z:Value}(hz:(zeroValue et).run P w=.ok z w) (k:Int) :
  (Instr.lookup t (.map (some b)) (.int .i64 k) false).run P w=.ok ((rm es k).getD z) w:=by
 have hf:=pT k es 0 0
 unfold Instr.lookup
 have h1:=fun e=>MapKept.run_checkKey (P:=P) (w:=w) hk (k:=.int .i64 k) (by simp[MapKept.IsKey]) e 9999
 have hi:=YF es k;have hL:rm es k=(((es.findIdx? fun e=>k==e.1).bind fun j=>es[j]?)).map (·.2):=by rw[hi];rfl
 cases hx:(es.findIdx? fun e=>k==e.1) with
 | none =>
  rw[hx]at hf hL;have h2:=MapKept.run_findKey (P:=P) (w:=w) hk hf
  simp[Sem.run_bind,Result.andThen,run_underlying hu,MapKept.run_getObj_map hb,h1,h2,hz,hL]
 | some j =>
 rw[hx]at hf hL
 obtain⟨e,he⟩:∃ e,es[j]? = some e:=by
  have:=(List.findIdx?_eq_some_iff_getElem.1 hx).1
  exact⟨_,List.getElem?_eq_getElem this⟩
 simp only[Option.bind_some,he,Option.map_some]at hf hL
 have h2:=MapKept.run_findKey (P:=P) (w:=w) hk hf
 simp[Sem.run_bind,Result.andThen,run_underlying hu,MapKept.run_getObj_map hb,h1,h2,hL]
theorem vO {ops:Array Oper}{rest:List Oper}{o:Oper}{a:Act}{Q:Exit→Act→World→Prop}(hgd:o.guard=none) (m x v:Operand) (ho:o.op=.insert t m x v)
  (hu:P.underlying t=some (.map kt et)) (hk:P.underlying kt=some (.int .i64)) (hb:MapIs w b es) (k:Int) (u:Value) (hm:a.eval m=.map (some b)) (hx:a.eval x=.int .i64 k) (hv:a.eval v=u) (xH:rm es k=none)
  (h:∀ w',MapIs w' b (es++[(k,u)])→w.grownBy w' (some b)→wpList P ops Q rest (a.put o.dst undef) w') :
  wpList P ops Q (o::rest) a w:=by
 refine wpList_plain hgd fun K' hK'=>?_
 obtain⟨w',fo,r1,r2⟩:=au hu hk hb k u xH
 unfold Oper.wp
 simp[execOp,ho,hm,hx,hv,fo,Result.andThen]
 exact hK' _ _ (h w' r1 r2)
end
def nmP:Itm→Option Int
 | .mk k n _ _=>if 1048576<n then none else if k=0 then some (n:Int) else if k=1 then some (-1-(n:Int)) else none
def nmR:Itm→Int
 | .mk k n _ _=>if k=1 then -1-((min n 1048576:Nat):Int) else((min n 1048576:Nat):Int)
def bD (w:World) (r:Option Int) (e:Ending) (w':World):Prop :=
 (match r with | some v=>e=.returned (.tuple #[.int .i64 v,.bool true]) | none=>e=.returned (.tuple #[.int .i64 0,.bool false]))∧Below w.heap.size w w'
theorem jC {H:Snap}{k n:Int}{ba:Option Addr}{bl bc:Nat}{ia:Option Addr}{il ic:Nat}{x:Itm}(hx:ItemA H k n ba bl bc ia il ic x) (w:World) :
  Calls Tryz.prog 79 #[.agg #[.int .i64 k,.int .u64 n,.slice ba bl bc,.slice ia il ic]] w (bD w (nmP x)):=by
 obtain⟨rfl,rfl,rfl,rfl,_⟩:=hx;obtain⟨xk,xn,xb,xl⟩:=x
 simp only[Itm.kind,Itm.n,Itm.bytes,Itm.items]
 have hB:=Blk.new w 57 #[.int .i64 xk,.int .u64 (xn:Int),.slice ba xb.length bc,.slice ia xl.length ic];have hb:=zi w (.cells #[.int .i64 xk,.int .u64 (xn:Int),.slice ba xb.length bc,.slice ia xl.length ic] 57);have c0:=hB.cell 0 rfl;have c1:=hB.cell 1 rfl;clear hB
 by_cases h1:1048576<xn
 ·have E:Hid (nmP (.mk xk xn xb xl)=none):=by rw[Hid,nmP,if_pos h1]
  have i1:(1048576:Int)<(xn:Int):=by omega
  have MNX:min (xn:Int) 1048576=1048576:=by omega
  have d1:decide ((1048576:Int)<(xn:Int))=true:=decide_eq_true i1;clear h1;go_enter Tryz.func79,Tryz.ntmps79
  go_wp2_with fail
  go_ret2
  rw[E.out]
  exact⟨rfl,hb⟩
 have i1:¬ (1048576:Int)<(xn:Int):=by omega
 have MNX:min (xn:Int) 1048576=(xn:Int):=by omega
 have d1:decide ((1048576:Int)<(xn:Int))=false:=decide_eq_false i1;have W1:IntKind.i64.wrap (xn:Int)=(xn:Int):=IntWalk.i64_in _ (by omega);have W2:IntKind.i64.wrap (-1-(xn:Int)) = -1-(xn:Int):=IntWalk.i64_in _ (by omega)
 by_cases h0:xk=0
 ·subst h0;have E:Hid (nmP (.mk 0 xn xb xl)=some (xn:Int)):=by rw[Hid,nmP,if_neg h1,if_pos rfl]
  clear h1;go_enter Tryz.func79,Tryz.ntmps79
  go_wp2_with fail
  go_ret2
  rw[E.out]
  exact⟨rfl,hb⟩
 have b0:(xk==0)=false:=by rw[beq_eq_false_iff_ne];exact h0
 have p0:(xk=0)=False:=eq_false h0
 by_cases h2:xk=1
 ·subst h2;have E:Hid (nmP (.mk 1 xn xb xl)=some (-1-(xn:Int))):=by rw[Hid,nmP,if_neg h1,if_neg h0,if_pos rfl]
  clear h1 h0 b0 p0;go_enter Tryz.func79,Tryz.ntmps79
  go_wp2_with fail
  go_ret2
  rw[E.out]
  exact⟨rfl,hb⟩
 have b1:(xk==1)=false:=by rw[beq_eq_false_iff_ne];exact h2
 have p1:(xk=1)=False:=eq_false h2;have E:Hid (nmP (.mk xk xn xb xl)=none):=by rw[Hid,nmP,if_neg h1,if_neg h0,if_neg h2]
 clear h1 h0 h2;go_enter Tryz.func79,Tryz.ntmps79
 go_wp2_with fail
 go_ret2
 rw[E.out]
 exact⟨rfl,hb⟩
theorem sM {H:Snap}{k n:Int}{ba:Option Addr}{bl bc:Nat}{ia:Option Addr}{il ic:Nat}{x:Itm}(hx:ItemA H k n ba bl bc ia il ic x) (w:World) :
  Calls Tryz.prog 82 #[.agg #[.int .i64 k,.int .u64 n,.slice ba bl bc,.slice ia il ic]] w fun e w'=>e=.returned (.int .i64 (nmR x))∧Below w.heap.size w w':=by
 obtain⟨rfl,rfl,rfl,rfl,_⟩:=hx;obtain⟨xk,xn,xb,xl⟩:=x
 simp only[Itm.kind,Itm.n,Itm.bytes,Itm.items]
 have hB:=Blk.new w 57 #[.int .i64 xk,.int .u64 (xn:Int),.slice ba xb.length bc,.slice ia xl.length ic];have hb:=zi w (.cells #[.int .i64 xk,.int .u64 (xn:Int),.slice ba xb.length bc,.slice ia xl.length ic] 57);have c0:=hB.cell 0 rfl;have c1:=hB.cell 1 rfl;clear hB
 by_cases h1:1048576<xn
 ·have i1:(1048576:Int)<(xn:Int):=by omega
  have MNX:min (xn:Int) 1048576=1048576:=by omega
  have d1:decide ((1048576:Int)<(xn:Int))=true:=decide_eq_true i1
  by_cases h2:xk=1
  ·subst h2;have E:Hid (nmR (.mk 1 xn xb xl) = -1048577):=by rw[Hid,nmR,if_pos rfl,show min xn 1048576=1048576 by omega];rfl
   clear h1;go_enter Tryz.func82,Tryz.ntmps82
   go_wp2_with fail
   go_ret
   exact⟨by rw[E.out];rfl,hb⟩
  have b1:(xk==1)=false:=by rw[beq_eq_false_iff_ne];exact h2
  have p1:(xk=1)=False:=eq_false h2;have E:Hid (nmR (.mk xk xn xb xl)=1048576):=by rw[Hid,nmR,if_neg h2,show min xn 1048576=1048576 by omega];rfl
  clear h1 h2;go_enter Tryz.func82,Tryz.ntmps82
  go_wp2_with fail
  go_ret
  exact⟨by rw[E.out];rfl,hb⟩
 have i1:¬ (1048576:Int)<(xn:Int):=by omega
 have MNX:min (xn:Int) 1048576=(xn:Int):=by omega
 have d1:decide ((1048576:Int)<(xn:Int))=false:=decide_eq_false i1;have W1:IntKind.i64.wrap (xn:Int)=(xn:Int):=IntWalk.i64_in _ (by omega);have W2:IntKind.i64.wrap (-1-(xn:Int)) = -1-(xn:Int):=IntWalk.i64_in _ (by omega)
 by_cases h2:xk=1
 ·subst h2;have E:Hid (nmR (.mk 1 xn xb xl) = -1-(xn:Int)):=by rw[Hid,nmR,if_pos rfl,show min xn 1048576=xn by omega]
  clear h1;go_enter Tryz.func82,Tryz.ntmps82
  go_wp2_with fail
  go_ret
  exact⟨by rw[E.out];rfl,hb⟩
 have b1:(xk==1)=false:=by rw[beq_eq_false_iff_ne];exact h2
 have p1:(xk=1)=False:=eq_false h2;have E:Hid (nmR (.mk xk xn xb xl)=(xn:Int)):=by rw[Hid,nmR,if_neg h2,show min xn 1048576=xn by omega]
 clear h1 h2;go_enter Tryz.func82,Tryz.ntmps82
 go_wp2_with fail
 go_ret
 exact⟨by rw[E.out];rfl,hb⟩
def fa (q:Ky) (k n:Int):Option Ky :=
 if k=1 then some { q with kty:=n } else if k=3 then some { q with alg:=n } else if k = -1 then some { q with crv:=n } else none
def js (q:Ky) (k:Int) (b:List UInt8):Option Ky :=
 if k=2 then some { q with kid:=b } else if k = -1 then some { q with k:=b } else if k = -2 then some { q with x:=b } else if k = -4 then some { q with d:=b } else none
def sW (q:Ky) (a v:Itm):Option Ky :=
 match nmP a with
 | none=>none
 | some k=>match nmP v with
  | some n=>fa q k n
  | none=>if v.kind=2 then js q k v.bytes else none
def wQ:Ky→List Itm→Option Ky
 | q,a::v::l=>match sW q a v with
  | none=>none
  | some q'=>wQ q' l
 | q,_=>some q
def vh (q:Ky) (a v:Itm):Ky :=
 if nmR a=1 then { q with kty:=nmR v } else if nmR a=2 then { q with kid:=v.bytes } else if nmR a=3 then { q with alg:=nmR v }
 else if nmR a = -1 then { q with crv:=nmR v,k:=v.bytes } else if nmR a = -2 then { q with x:=v.bytes } else if nmR a = -4 then { q with d:=v.bytes } else q
def vg:Ky→List Itm→Ky
 | q,a::v::l=>vg (vh q a v) l
 | q,_=>q
theorem nm (q:Ky):wQ q []=some q:=by simp[wQ]
theorem nr (q:Ky):vg q []=q:=by simp[vg]
def yF:Ky:=⟨0,0,0,[],[],[],[]⟩
theorem jh {n:Int}(h1 : -1048577≤n) (h2:n≤1048576):nmP (zt n)=some n:=by
 unfold zt
 split
 ·rw[nmP,if_neg (by omega),if_neg (by omega),if_pos rfl];congr 1
  omega
 rw[nmP,if_neg (by omega),if_pos rfl];congr 1
 omega
theorem ji {n:Int}(h1 : -1048577≤n) (h2:n≤1048576):nmR (zt n)=n:=by
 unfold zt
 split
 ·rw[nmR,if_pos rfl]
  omega
 rw[nmR,if_neg (by omega)]
 omega
theorem aN (n:Int):(zt n).bytes=[]:=by unfold zt;split <;> rfl
theorem Vj (b:List UInt8):nmP (pm b)=none:=by
 rw[pm,nmP,if_neg (by omega),if_neg (by omega),if_neg (by omega)]
theorem np (q q':Ky) (k n:Int) (l:List Itm) (rL : -1048577≤k) (py:k≤1048576) (ru : -1048577≤n) (oo:n≤1048576) (h:fa q k n=some q'):wQ q (zt k::zt n::l)=wQ q' l:=by
 rw[wQ,sW,jh rL py]
 simp only[jh ru oo,h]
theorem aQ (q q':Ky) (k:Int) (b:List UInt8) (l:List Itm) (rL : -1048577≤k) (py:k≤1048576) (h:js q k b=some q'):wQ q (zt k::pm b::l)=wQ q' l:=by
 rw[wQ,sW,jh rL py];have e:(pm b).kind=2:=rfl;have e2:(pm b).bytes=b:=rfl
 simp only[Vj,e,if_true,e2,h]
theorem qP (q q':Ky) (k:Int) (b:List UInt8) (l:List Itm) (rL : -1048577≤k) (py:k≤1048576) (h:js q k b=some q') (h0:b=[]→q'=q):wQ q (rS k b++l)=wQ q' l:=by
 unfold rS
 split
 ·exact aQ q q' k b l rL py h
 rename_i hb
 have:b=[]:=by cases b with
  | nil=>rfl
  | cons _ _=>simp at hb
 rw[h0 this];rfl
theorem ns (q:Ky) (k n:Int) (l:List Itm):vg q (zt k::zt n::l)=vg (vh q (zt k) (zt n)) l:=rfl
theorem qR (q q':Ky) (k:Int) (b:List UInt8) (l:List Itm) (h:vh q (zt k) (pm b)=q') (h0:b=[]→q'=q):vg q (rS k b++l)=vg q' l:=by
 unfold rS
 split
 ·show vg (vh q (zt k) (pm b)) l=_
  rw[h]
 rename_i hb
 have:b=[]:=by cases b with
  | nil=>rfl
  | cons _ _=>simp at hb
 rw[h0 this];rfl
theorem gl {b:List UInt8}(h:b.length=0):b=[]:=List.eq_nil_of_length_eq_zero h
theorem fB {q:Ky}(h:xp q=true):wQ yF (yH q)=some q:=by
 have hv:=(tF q).1 h;obtain⟨kty,crv,alg,kid,x,d,k⟩:=q
 simp only at hv
 have ha:wQ yF (yH ⟨kty,crv,alg,kid,x,d,k⟩)=wQ ⟨kty,0,alg,kid,[],[],[]⟩ (if kty=4 then rS (-1) k else [zt (-1),zt crv]++rS (-2) x++rS (-4) d):=by
  unfold yH
  simp only[List.append_assoc,List.cons_append,List.nil_append]
  rw[np yF ⟨kty,0,0,[],[],[],[]⟩ 1 kty _ (by omega) (by omega) (by omega) (by omega) rfl];rw[qP ⟨kty,0,0,[],[],[],[]⟩ ⟨kty,0,0,kid,[],[],[]⟩ 2 kid _ (by omega) (by omega) rfl (fun e=>by rw[e])]
  split
  ·rename_i h0
   rw[h0];rfl
  rw[List.cons_append,List.cons_append,List.nil_append];rw[np ⟨kty,0,0,kid,[],[],[]⟩ ⟨kty,0,alg,kid,[],[],[]⟩ 3 alg _ (by omega) (by omega) (by omega) (by omega) rfl]
 rw[ha]
 rcases hv.2.2.2 with ⟨h1,hc,hx,hd,h0,hk⟩ | ⟨h4,hc,hxd,rL,py⟩
 ·rw[if_neg (by omega)];obtain rfl:=gl hk
  simp only[List.append_assoc,List.cons_append,List.nil_append]
  rw[np _ ⟨kty,crv,alg,kid,[],[],[]⟩ (-1) crv _ (by omega) (by omega) (by omega) (by omega) rfl];rw[qP _ ⟨kty,crv,alg,kid,x,[],[]⟩ (-2) x _ (by omega) (by omega) rfl (fun e=>by rw[e])];have:=qP ⟨kty,crv,alg,kid,x,[],[]⟩ ⟨kty,crv,alg,kid,x,d,[]⟩ (-4) d [] (by omega) (by omega) rfl (fun e=>by rw[e]);rw[List.append_nil]at this;rw[this,nm]
 rw[if_pos h4];obtain rfl:=gl (show x.length=0 by omega);obtain rfl:=gl (show d.length=0 by omega);have:=qP ⟨kty,0,alg,kid,[],[],[]⟩ ⟨kty,0,alg,kid,[],[],k⟩ (-1) k [] (by omega) (by omega) rfl (fun e=>by rw[e]);rw[List.append_nil]at this;rw[this,nm,hc]
theorem nt (q:Ky) (k n:Int) (rL : -1048577≤k) (py:k≤1048576) (ru : -1048577≤n) (oo:n≤1048576):vh q (zt k) (zt n) =
  if k=1 then { q with kty:=n } else if k=2 then { q with kid:=[] } else if k=3 then { q with alg:=n }
  else if k = -1 then { q with crv:=n,k:=[] } else if k = -2 then { q with x:=[] } else if k = -4 then { q with d:=[] } else q:=by
 unfold vh
 rw[ji rL py,ji ru oo,aN]
theorem qS (q:Ky) (k:Int) (b:List UInt8) (rL : -1048577≤k) (py:k≤1048576):vh q (zt k) (pm b) =
  if k=1 then { q with kty:=0 } else if k=2 then { q with kid:=b } else if k=3 then { q with alg:=0 }
  else if k = -1 then { q with crv:=0,k:=b } else if k = -2 then { q with x:=b } else if k = -4 then { q with d:=b } else q:=by
 unfold vh
 rw[ji rL py,show nmR (pm b)=0 by rw[pm,nmR,if_neg (by omega)];simp];rfl
theorem fC {q:Ky}(h:xp q=true):vg yF (yH q)=q:=by
 have hv:=(tF q).1 h;obtain⟨kty,crv,alg,kid,x,d,k⟩:=q
 simp only at hv
 have ha:vg yF (yH ⟨kty,crv,alg,kid,x,d,k⟩)=vg ⟨kty,0,alg,kid,[],[],[]⟩ (if kty=4 then rS (-1) k else [zt (-1),zt crv]++rS (-2) x++rS (-4) d):=by
  unfold yH
  simp only[List.append_assoc,List.cons_append,List.nil_append]
  rw[ns,nt _ _ _ (by omega) (by omega) (by omega) (by omega),if_pos rfl];rw[qR _ ⟨kty,0,0,kid,[],[],[]⟩ 2 kid _ (by rw[qS _ _ _ (by omega) (by omega),if_neg (by omega),if_pos rfl];rfl) (fun e=>by rw[e];rfl)]
  split
  ·rename_i h0
   rw[h0];rfl
  rw[List.cons_append,List.cons_append,List.nil_append];rw[ns,nt _ _ _ (by omega) (by omega) (by omega) (by omega),if_neg (by omega),if_neg (by omega),if_pos rfl]
 rw[ha]
 rcases hv.2.2.2 with ⟨h1,hc,hx,hd,h0,hk⟩ | ⟨h4,hc,hxd,rL,py⟩
 ·rw[if_neg (by omega)];obtain rfl:=gl hk
  simp only[List.append_assoc,List.cons_append,List.nil_append]
  rw[ns,nt _ _ _ (by omega) (by omega) (by omega) (by omega),if_neg (by omega),if_neg (by omega),if_neg (by omega),if_pos rfl];rw[qR _ ⟨kty,crv,alg,kid,x,[],[]⟩ (-2) x _ (by rw[qS _ _ _ (by omega) (by omega),if_neg (by omega),if_neg (by omega),if_neg (by omega),if_neg (by omega),if_pos rfl]) (fun e=>by rw[e])];have:=qR ⟨kty,crv,alg,kid,x,[],[]⟩ ⟨kty,crv,alg,kid,x,d,[]⟩ (-4) d [] (by rw[qS _ _ _ (by omega) (by omega),if_neg (by omega),if_neg (by omega),if_neg (by omega),if_neg (by omega),if_neg (by omega),if_pos rfl]) (fun e=>by rw[e]);rw[List.append_nil]at this;rw[this,nr]
 rw[if_pos h4];obtain rfl:=gl (show x.length=0 by omega);obtain rfl:=gl (show d.length=0 by omega);have:=qR ⟨kty,0,alg,kid,[],[],[]⟩ ⟨kty,0,alg,kid,[],[],k⟩ (-1) k [] (by rw[qS _ _ _ (by omega) (by omega),if_neg (by omega),if_neg (by omega),if_neg (by omega),if_pos rfl]) (fun e=>by rw[e]);rw[List.append_nil]at this;rw[this,nr,hc]
def tV (x:Itm) (q:Ky):Prop:=xp q=true∧vj q=x
theorem nj {x:Itm}{q:Ky}(h:tV x q):wQ yF x.items=some q:=by rw[← h.2];exact fB h.1
theorem qQ {x:Itm}{q:Ky}(h:tV x q):vg yF x.items=q:=by rw[← h.2];exact fC h.1
theorem Ways.three {P:Program}{ops:Array Oper}{Q:Exit→Act→World→Prop}{md:Region.Mode}{S:World→Prop}{z:Nat}{i j l:Nat}{o o' o2:Oper}{n:Nat}{L:Array Bool}{a:Act}{w:World}(hi:ops[i]? = some o) (hj:ops[j]? = some o') (hl:ops[l]? = some o2) (hr:Region.ready md ops L=[i,j,l])
  (h:∀ K:Act→World→Prop,Shut (∀ a w,(i≠z→S w)→((i≠z→S w)→Ways P md ops Q S z n (L.setIfInBounds i true) a w)→K a w)→
   if Region.wanted o (yielded ops a.tmps)=true then Oper.wp P o a w K Q else K (a.put o.dst undef) w)
  (h':∀ K:Act→World→Prop,Shut (∀ a w,(j≠z→S w)→((j≠z→S w)→Ways P md ops Q S z n (L.setIfInBounds j true) a w)→K a w)→
   if Region.wanted o' (yielded ops a.tmps)=true then Oper.wp P o' a w K Q else K (a.put o'.dst undef) w)
  (h2:∀ K:Act→World→Prop,Shut (∀ a w,(l≠z→S w)→((l≠z→S w)→Ways P md ops Q S z n (L.setIfInBounds l true) a w)→K a w)→
   if Region.wanted o2 (yielded ops a.tmps)=true then Oper.wp P o2 a w K Q else K (a.put o2.dst undef) w):Ways P md ops Q S z (n+1) L a w:=by
 refine⟨fun h0=>(by rw[hr]at h0;cases h0),fun k hk=>?_⟩
 rw[hr]at hk
 rcases(by simpa using hk:k=i∨k=j∨k=l) with hk | hk | hk
 ·subst hk
  exact wpOp_step hi fun K hK=>h K fun a w hS hW=>hK a w ⟨hS,hW hS⟩
 ·subst hk
  exact wpOp_step hj fun K hK=>h' K fun a w hS hW=>hK a w ⟨hS,hW hS⟩
 subst hk
 exact wpOp_step hl fun K hK=>h2 K fun a w hS hW=>hK a w ⟨hS,hW hS⟩
structure KN (W0:World) (H:Snap) (R K:Nat) (kc:Array Value) (w:World) (Hr:Snap):Prop where
 grows:Grows W0 H w Hr
 res:Blk w R 24 tM
 key:Blk w K 24 kc
 hR:Hr R=none
 hK:Hr K=none
 neRK:R≠K
 wR:W0.heap.size≤R
 wK:W0.heap.size≤K
section
variable {W0 w w':World} {H Hr Hs:Snap} {R K:Nat} {kc kc':Array Value}
theorem KN.grow (h:KN W0 H R K kc w Hr) (k:Grows w Hr w' Hs):KN W0 H R K kc w' Hs :=
 ⟨h.grows.trans k,h.res.below k.below,h.key.below k.below,k.none h.hR h.res.lt,k.none h.hK h.key.lt,h.neRK,h.wR,h.wK⟩
theorem KN.below (h:KN W0 H R K kc w Hr) (k:Below w.heap.size w w'):KN W0 H R K kc w' Hr:=h.grow (Grows.of_below h.grows.holds k)
theorem KN.alloc (h:KN W0 H R K kc w Hr) (o:Obj):KN W0 H R K kc (w.alloc o) Hr:=h.below (zi w o)
theorem KN.set (h:KN W0 H R K kc w Hr) (hB:Blk w' K 24 kc') (hg:w.grownBy w' (some K)):KN W0 H R K kc' w' Hr :=
 ⟨h.grows.grownOwn h.hK h.wK hg,h.res.grown hg (fun e=>by injection e with e;exact h.neRK e.symm),hB,h.hR,h.hK,h.neRK,h.wR,h.wK⟩
end
theorem dY {H:Snap}(hTab:Tabs H) {x y:Itm}{xa:Option Addr}{xb:Nat}{xc:Option Addr}{xd:Nat}{ya:Option Addr}{yb:Nat}{yc:Option Addr}{yd:Nat}(hx:IsItem H xa xb xc xd x) (hy:IsItem H ya yb yc yd y)
  (hvx:zL x=true) (hvy:zL y=true) (w:World) (hH:Holds w H) :
  Calls Tryz.prog 56 #[xj x xa xb xc xd,xj y ya yb yc yd] w fun e w'=>e=.returned (.int .i64 (Lib.compareBytes (zZ x) (zZ y)))∧Below w.heap.size w w':=by
 have hX:=(Blk.new w 57 #[.int .i64 x.kind,.int .u64 x.n,.slice xa x.bytes.length xb,.slice xc x.items.length xd]).alloc (zS y ya yb yc yd);have hY:=Blk.new (w.alloc (zS x xa xb xc xd)) 57 #[.int .i64 y.kind,.int .u64 y.n,.slice ya y.bytes.length yb,.slice yc y.items.length yd];rw[zX]at hY;have hG:=((Grows.refl hH).alloc (zS x xa xb xc xd)).alloc (zS y ya yb yc yd);have HV:=Hh (And.intro hvx hvy);have HX:=Hh (And.intro (uz hvx) (uz hvy));have HT:=Hh hTab;have HI:=Hh (And.intro hx hy);have a0:=hX.cell 0 rfl;have a1:=hX.cell 1 rfl;have a2:=hX.cell 2 rfl;have a3:=hX.cell 3 rfl;clear hvx hvy hTab hx hy hH;go_enter Tryz.func56,Tryz.ntmps56
 go_wp2_with fail
 refine(uf HT.out HI.out.1.arg _ hG.holds).mono ?_
 rintro e w1 ⟨rfl,wU⟩
 rw[HV.out.1];replace hX:=hX.below wU;replace hY:=hY.below wU;replace hG:=hG.below_ wU;clear wU a0 a1 a2 a3;have b0:=hY.cell 0 rfl;have b1:=hY.cell 1 rfl;have b2:=hY.cell 2 rfl;have b3:=hY.cell 3 rfl;go_wp2_with fail
 refine(uf HT.out HI.out.2.arg _ hG.holds).mono ?_
 rintro e w2 ⟨rfl,xJ⟩
 rw[HV.out.2];replace hX:=hX.below xJ;replace hY:=hY.below xJ;replace hG:=hG.below_ xJ;clear xJ b0 b1 b2 b3;go_upto_region 3 with fail
 replace hX:=hX.drew;replace hY:=hY.drew;replace hG:=hG.drew
 refine zO 5 (fun wx=>(wx.cell? ⟨w.heap.size,0,none⟩=some (.int .i64 x.kind)∧wx.cell? ⟨w.heap.size,1,none⟩=some (.int .u64 x.n)∧wx.cell? ⟨w.heap.size,2,none⟩=some (.slice xa x.bytes.length xb)∧wx.cell? ⟨w.heap.size,3,none⟩=some (.slice xc x.items.length xd))∧(wx.cell? ⟨w.heap.size+1,0,none⟩=some (.int .i64 y.kind)∧wx.cell? ⟨w.heap.size+1,1,none⟩=some (.int .u64 y.n)∧wx.cell? ⟨w.heap.size+1,2,none⟩=some (.slice ya y.bytes.length yb)∧wx.cell? ⟨w.heap.size+1,3,none⟩=some (.slice yc y.items.length yd))) (by kernel_rfl) (⟨⟨hX.cell 0 rfl,hX.cell 1 rfl,hX.cell 2 rfl,hX.cell 3 rfl⟩,⟨hY.cell 0 rfl,hY.cell 1 rfl,hY.cell 2 rfl,hY.cell 3 rfl⟩⟩) (fun zy=>?_)
 refine Zk 0 rfl zy ?_
 refine Zk 2 rfl zy ?_
 refine Zo 1 rfl fun K hK=>?_
 go_simp
 refine(sk x H _ _ _ _ _ _ _ _ _ _ (.slice none 0 0) [] HX.out.1.1 HI.out.1.arg hG.holds (OwnB.nil _ _) (Nat.le_refl _) (by simp[Value.ownBlock]) (by have:=HX.out.1.2.2;simp;omega)).mono ?_
 rintro e w5 ⟨r5,rfl,rn,tR,sS⟩
 have rG:=zC tR;obtain⟨A5,c5,rfl,iY,QI,OI⟩:=OwnB.form rn;replace hX:=hX.below rG;replace hY:=hY.below rG;replace hG:=hG.below_ rG;clear rn tR rG sS iY QI
 refine Ko hK ?_ fun zy=>?_
 ·exact⟨⟨hX.cell 0 rfl,hX.cell 1 rfl,hX.cell 2 rfl,hX.cell 3 rfl⟩,⟨hY.cell 0 rfl,hY.cell 1 rfl,hY.cell 2 rfl,hY.cell 3 rfl⟩⟩
 clear hK K
 refine Zo 3 rfl fun K hK=>?_
 go_simp
 refine(sk y H _ _ _ _ _ _ _ _ _ _ (.slice none 0 0) [] HX.out.2.1 HI.out.2.arg hG.holds (OwnB.nil _ _) (Nat.le_refl _) (by simp[Value.ownBlock]) (by have:=HX.out.2.2.2;simp;omega)).mono ?_
 rintro e w6 ⟨r6,rfl,sK,tO,sS⟩
 have tf:=zC tO;obtain⟨A6,c6,rfl,Iw,J0,Ux⟩:=OwnB.form sK;replace hX:=hX.below tf;replace hY:=hY.below tf;replace OI:=OI.below tf;replace hG:=hG.below_ tf;clear sK tO tf sS Iw J0
 refine Ko hK ?_ fun zy=>?_
 ·exact⟨⟨hX.cell 0 rfl,hX.cell 1 rfl,hX.cell 2 rfl,hX.cell 3 rfl⟩,⟨hY.cell 0 rfl,hY.cell 1 rfl,hY.cell 2 rfl,hY.cell 3 rfl⟩⟩
 clear hK K
 refine Zo 4 rfl fun K hK=>?_
 go_simp
 refine(sw _ A5 A6 (zZ x) (zZ y) _ _ c5 c6 rfl rfl OI Ux).mono ?_
 rintro e w7 ⟨rfl,rfl⟩
 refine Ko hK ?_ fun zy=>?_
 ·exact⟨⟨hX.cell 0 rfl,hX.cell 1 rfl,hX.cell 2 rfl,hX.cell 3 rfl⟩,⟨hY.cell 0 rfl,hY.cell 1 rfl,hY.cell 2 rfl,hY.cell 3 rfl⟩⟩
 clear hK K
 refine Zo 5 rfl fun K hK=>?_
 go_simp
 refine Kz hK ?_
 clear hK K
 refine WaysZ.done (by kernel_rfl) ?_
 clear zy;go_wp2_with fail
 go_ret
 exact⟨rfl,hG.below⟩
theorem KN.far {W0 w w':World}{H Hr:Snap}{R K b:Nat}{kc:Array Value}(h:KN W0 H R K kc w Hr) (hg:w.grownBy w' (some b)) (hn:Hr b=none) (hb:W0.heap.size≤b) (h1:b≠R) (h2:b≠K):KN W0 H R K kc w' Hr :=
 ⟨h.grows.grownOwn hn hb hg,h.res.grown hg (fun e=>by injection e with e;exact h1 e),h.key.grown hg (fun e=>by injection e with e;exact h2 e),h.hR,h.hK,h.neRK,h.wR,h.wK⟩
def Wh (K:Nat):List (Int×Value):=[(1,.pointer (some ⟨K,0,none⟩)),(3,.pointer (some ⟨K,2,none⟩)),(-1,.pointer (some ⟨K,1,none⟩))]
def la (K:Nat):List (Int×Value):=[(2,.pointer (some ⟨K,3,none⟩)),(-1,.pointer (some ⟨K,6,none⟩)),(-2,.pointer (some ⟨K,4,none⟩)),(-4,.pointer (some ⟨K,5,none⟩))]
structure FM (W0:World) (H:Snap) (R K M1 M2:Nat) (xc kc:Array Value) (w:World) (Hr:Snap):Prop where
 kn:KN W0 H R K kc w Hr
 box:Blk w W0.heap.size 57 xc
 m1:MapIs w M1 (Wh K)
 m2:MapIs w M2 (la K)
 n1:K≠M1
 n2:K≠M2
 nb:K≠W0.heap.size
section
variable {W0 w w':World} {H Hr Hs:Snap} {R K M1 M2:Nat} {xc kc kc':Array Value}
theorem FM.grow (h:FM W0 H R K M1 M2 xc kc w Hr) (k:Grows w Hr w' Hs):FM W0 H R K M1 M2 xc kc w' Hs :=
 ⟨h.kn.grow k,h.box.below k.below,h.m1.below k.below,h.m2.below k.below,h.n1,h.n2,h.nb⟩
theorem FM.below (h:FM W0 H R K M1 M2 xc kc w Hr) (k:Below w.heap.size w w'):FM W0 H R K M1 M2 xc kc w' Hr:=h.grow (Grows.of_below h.kn.grows.holds k)
theorem FM.alloc (h:FM W0 H R K M1 M2 xc kc w Hr) (o:Obj):FM W0 H R K M1 M2 xc kc (w.alloc o) Hr:=h.below (zi w o)
theorem FM.set (h:FM W0 H R K M1 M2 xc kc w Hr) (hB:Blk w' K 24 kc') (hg:w.grownBy w' (some K)):FM W0 H R K M1 M2 xc kc' w' Hr :=
 ⟨h.kn.set hB hg,h.box.grown hg (fun e=>by injection e with e;exact h.nb e),h.m1.grown hg (fun e=>by injection e with e;exact h.n1 e),h.m2.grown hg (fun e=>by injection e with e;exact h.n2 e),h.n1,h.n2,h.nb⟩
end
def fT (w:World) (H:Snap) (x:Itm) (e:Ending) (w':World):Prop :=
 (zL x=false∧e=.returned (.tuple #[.agg tM,.int .i64 1])∧Below w.heap.size w w')∨
 (zL x=true∧(¬ ∃ q,tV x q)∧e=.returned (.tuple #[.agg tM,.int .i64 12])∧Below w.heap.size w w')∨
 (∃ q a H',zL x=true∧tV x q∧e=.returned (.tuple #[.agg (vV q a),.int .i64 0])∧Grows w H w' H'∧KeyA H' q a)
theorem aR (q:Ky) (l:List Itm) (j:Nat) (h:j+1<l.length):wQ q (l.drop j)=match sW q (l[j]'(by omega)) l[j+1] with | none=>none | some q'=>wQ q' (l.drop (j+2)):=by
 rw[List.drop_eq_getElem_cons (by omega:j<l.length),List.drop_eq_getElem_cons h,wQ]
 all_goals (cases sW q (l[j]'(by omega)) l[j+1] <;> rfl)
theorem mD {x:Itm}(h:wQ yF x.items=none):¬ ∃ q,tV x q:=fun⟨q,hq⟩=>by rw[nj hq]at h;cases h
theorem ZO {x:Itm}(h:¬ x.kind=5):¬ ∃ q,tV x q:=fun⟨q,hq⟩=>h (by rw[← hq.2];rfl)
def ptr (K f:Nat):Value:=.pointer (some ⟨K,f,none⟩)
theorem cf {K:Nat}{k:Int}(h1:¬ k=1) (h3:¬ k=3) (h2:¬ k = -1):rm (Wh K) k=none:=by
 simp[rm,Wh,h1,h2,h3]
theorem lO {K:Nat}{k:Int}(h1:¬ k=2) (h2:¬ k = -1) (h3:¬ k = -2) (h4:¬ k = -4):rm (la K) k=none:=by
 simp[rm,la,h1,h2,h3,h4]
theorem jE (K:Nat) (k:Int):(rm (la K) k).getD (.pointer none)=.pointer none∨∃ p,(rm (la K) k).getD (.pointer none)=.pointer (some p):=by
 by_cases h1:k=2
 ·subst h1;exact .inr ⟨_,rfl⟩
 by_cases h2:k = -1
 ·subst h2;exact .inr ⟨_,rfl⟩
 by_cases h3:k = -2
 ·subst h3;exact .inr ⟨_,rfl⟩
 by_cases h4:k = -4
 ·subst h4;exact .inr ⟨_,rfl⟩
 rw[lO h1 h2 h3 h4]
 exact .inl rfl
theorem Tx {n:Nat}{b:List UInt8}{l:List Itm}:nmP (.mk 2 n b l)=none:=by
 rw[nmP]
 split
 ·rfl
 rfl
theorem YJ {z:Itm}{n:Int}(h:nmP z=some n) : -9223372036854775808≤n∧n≤9223372036854775807:=by
 obtain⟨k,m,b,l⟩:=z;rw[nmP]at h
 split at h
 ·cases h
 split at h
 ·injection h with h;omega
 split at h
 ·injection h with h;omega
 cases h
theorem fA {H:Snap}(hTab:Tabs H) {x:Itm}{ba:Option Addr}{bc:Nat}{ia:Option Addr}{ic:Nat}(hx:IsItem H ba bc ia ic x) (w:World) (hH:Holds w H) :
  Calls Tryz.prog 55 #[xj x ba bc ia ic] w (fT w H x):=by
 have hX:=(Blk.new w 57 #[.int .i64 x.kind,.int .u64 x.n,.slice ba x.bytes.length bc,.slice ia x.items.length ic]).alloc (.cells tM 24);have hR:=Blk.new (w.alloc (zS x ba bc ia ic)) 24 tM;rw[zX]at hR;have Xh:H (w.heap.size+1)=none:=hH.none_of_ge (by omega);have hG:=((Grows.refl hH).alloc (zS x ba bc ia ic)).alloc (.cells tM 24);have HT:=Hh hTab;have HI:=Hh hx;have Qr := @run_makeMap Tryz.prog;have a0:=hX.cell 0 rfl;have a1:=hX.cell 1 rfl;have a2:=hX.cell 2 rfl;have a3:=hX.cell 3 rfl;clear hTab hx hH;go_enter Tryz.func55,Tryz.ntmps55
 go_wp2_with fail
 refine(uf HT.out HI.out.arg _ hG.holds).mono ?_
 rintro e w1 ⟨rfl,wU⟩
 replace hX:=hX.below wU;replace hR:=hR.below wU;replace hG:=hG.below_ wU;clear wU a0 a1 a2 a3
 cases hv:zL x with
 | false =>
  have HV:=Hh hv;clear hv Qr hX;go_wp2_with (with_reducible refine zx ?_)
  refine zp rfl _ _ _ rfl rfl _ _ rfl rfl _ _ hR yh rfl (rE _ _ _ _ _ _ _ rfl rfl rfl rfl rfl rfl rfl) fun wz hRz zT=>?_
  have zQ:=hG.grownOwn Xh (by omega) zT;go_wp2_with fail
  refine zw rfl rfl hRz rfl rfl yh rfl ?_
  exact .inl ⟨HV.out,rfl,zQ.below⟩
 | true =>
 have HV:=Hh hv;clear hv;obtain⟨K,hK⟩:∃ K,w1.heap.size=K:=⟨_,rfl⟩
 have kV:KN w H (w.heap.size+1) w1.heap.size tM (w1.alloc (.cells tM 24)) H:=⟨hG.alloc _,hR.alloc _,Blk.new _ _ _,Xh,hG.holds.none_of_ge (Nat.le_refl _),by have:=hR.lt;omega,by omega,hG.size⟩
 have iL:=hX.alloc (.cells tM 24);have kG:MapIs ((w1.alloc (.cells tM 24)).alloc (.map #[] 0)) (w1.alloc (.cells tM 24)).heap.size []:=MapIs.new _;replace kV:=kV.alloc (.map #[] 0);replace iL:=iL.alloc (.map #[] 0);rw[zX]at kG;rw[hK]at kV kG;have GQ:K≠w.heap.size:=by have:=hX.lt;omega
 have JT:=Hh (show w.heap.size+1<K by have:=hR.lt;omega);have Ha:=Hh (fun b (hb:K≤b)=>hG.holds.none_of_ge (show w1.heap.size≤b by omega));clear hX hR hG;go_wp2_with (with_reducible refine ua ?_)
 unfold yP
 try rw[hK]
 have G1:w.heap.size+1<K:=by have:=kV.res.lt;have:=kV.neRK;have hq:=iL.lt;have Km:=JT.out;omega
 have Ro:H (K+1)=none:=Ha.out _ (by have:=JT.out;omega)
 refine vO rfl _ _ _ rfl Tryz.underlying110 Tryz.underlying3 kG (1) (ptr K 0) rfl rfl rfl rfl fun wm hMm hgm=>?_
 replace kG:=hMm;replace kV:=kV.far hgm Ro (by omega) (by omega) (by omega);replace iL:=iL.grown hgm (fun e=>by injection e with e;omega);clear hMm hgm;go_wp2_with (with_reducible refine ua ?_)
 refine vO rfl _ _ _ rfl Tryz.underlying110 Tryz.underlying3 kG (3) (ptr K 2) rfl rfl rfl rfl fun wm hMm hgm=>?_
 replace kG:=hMm;replace kV:=kV.far hgm Ro (by omega) (by omega) (by omega);replace iL:=iL.grown hgm (fun e=>by injection e with e;omega);clear hMm hgm;go_wp2_with (with_reducible refine ua ?_)
 refine vO rfl _ _ _ rfl Tryz.underlying110 Tryz.underlying3 kG (-1) (ptr K 1) rfl rfl rfl rfl fun wm hMm hgm=>?_
 replace kG:=hMm;replace kV:=kV.far hgm Ro (by omega) (by omega) (by omega);replace iL:=iL.grown hgm (fun e=>by injection e with e;omega);clear hMm hgm;have Yt:MapIs (wm.alloc (.map #[] 0)) wm.heap.size []:=MapIs.new _;have Ww:H wm.heap.size=none:=kV.grows.holds.none_of_ge (Nat.le_refl _);have ea:=kG.lt;replace kV:=kV.alloc (.map #[] 0);replace iL:=iL.alloc (.map #[] 0);replace kG:=kG.alloc (.map #[] 0);obtain⟨M2,P6⟩:∃ M2,wm.heap.size=M2:=⟨_,rfl⟩
 rw[P6]at Yt Ww ea;go_wp2_with (with_reducible refine ua ?_)
 unfold yP
 try rw[P6]
 refine vO rfl _ _ _ rfl Tryz.underlying112 Tryz.underlying3 Yt (2) (ptr K 3) rfl rfl rfl rfl fun wm hMm hgm=>?_
 replace Yt:=hMm;replace kV:=kV.far hgm Ww (by omega) (by omega) (by omega);replace iL:=iL.grown hgm (fun e=>by injection e with e;omega);replace kG:=kG.grown hgm (fun e=>by injection e with e;omega);clear hMm hgm;go_wp2_with (with_reducible refine ua ?_)
 refine vO rfl _ _ _ rfl Tryz.underlying112 Tryz.underlying3 Yt (-1) (ptr K 6) rfl rfl rfl rfl fun wm hMm hgm=>?_
 replace Yt:=hMm;replace kV:=kV.far hgm Ww (by omega) (by omega) (by omega);replace iL:=iL.grown hgm (fun e=>by injection e with e;omega);replace kG:=kG.grown hgm (fun e=>by injection e with e;omega);clear hMm hgm;go_wp2_with (with_reducible refine ua ?_)
 refine vO rfl _ _ _ rfl Tryz.underlying112 Tryz.underlying3 Yt (-2) (ptr K 4) rfl rfl rfl rfl fun wm hMm hgm=>?_
 replace Yt:=hMm;replace kV:=kV.far hgm Ww (by omega) (by omega) (by omega);replace iL:=iL.grown hgm (fun e=>by injection e with e;omega);replace kG:=kG.grown hgm (fun e=>by injection e with e;omega);clear hMm hgm;go_wp2_with (with_reducible refine ua ?_)
 refine vO rfl _ _ _ rfl Tryz.underlying112 Tryz.underlying3 Yt (-4) (ptr K 5) rfl rfl rfl rfl fun wm hMm hgm=>?_
 replace Yt:=hMm;replace kV:=kV.far hgm Ww (by omega) (by omega) (by omega);replace iL:=iL.grown hgm (fun e=>by injection e with e;omega);replace kG:=kG.grown hgm (fun e=>by injection e with e;omega);clear hMm hgm;have zD:FM w H (w.heap.size+1) K (K+1) M2 #[.int .i64 x.kind,.int .u64 x.n,.slice ba x.bytes.length bc,.slice ia x.items.length ic] (vV yF ⟨none,0,none,0,none,0,none,0⟩) wm H:=⟨kV,iL,kG,Yt,by omega,by omega,by omega⟩
 clear kV iL kG Yt Qr;have a0:=zD.box.cell 0 rfl
 by_cases h5:x.kind=5
 case neg =>
  have b5:(x.kind != 5)=true:=by simp[h5]
  have p5:(x.kind=5)=False:=eq_false h5;have H5:=Hh h5;clear h5;have qG:=zD.kn.res;have uX:=Hh zD.kn;clear zD;go_wp2_with (with_reducible refine zx ?_)
  refine zp rfl _ _ _ rfl rfl _ _ rfl rfl _ _ qG yh rfl (rE _ _ _ _ _ _ _ rfl rfl rfl rfl rfl rfl rfl) fun wz hRz zT=>?_
  have zQ:=uX.out.grows.grownOwn uX.out.hR uX.out.wR zT;clear uX qG zT;go_wp2_with fail
  refine zw rfl rfl hRz rfl rfl yh rfl ?_
  exact .inr (.inl ⟨HV.out,ZO H5.out,rfl,zQ.below⟩)
 have b5:(x.kind != 5)=false:=by simp[h5]
 have p5:(x.kind=5)=True:=eq_true h5;have cF:=Hh (rY HV.out h5);have Fo:=Hh h5;clear h5;go_wp2_with fail
 clear b5 p5 a0;go_loopw [7] (fun v7 wr=>∃ (j:Nat) (q:Ky) (a:KAd) (Hr:Snap),j≤x.items.length∧j%2=0∧v7=.int .i64 (j:Int)∧FM w H (w.heap.size+1) K (K+1) M2 #[.int .i64 x.kind,.int .u64 x.n,.slice ba x.bytes.length bc,.slice ia x.items.length ic] (vV q a) wr Hr∧KeyA Hr q a∧wQ q (x.items.drop j)=wQ yF x.items) (fun v7 _=>x.items.length-(intOf v7).toNat)
 case atStart=>exact⟨0,yF,⟨none,0,none,0,none,0,none,0⟩,H,Nat.zero_le _,rfl,rfl,zD,⟨by simp[yF],by simp[yF],by simp[yF],IsBytes.nil _,IsBytes.nil _,IsBytes.nil _,IsBytes.nil _⟩,by rw[List.drop_zero]⟩
 case round =>
 clear zD;obtain⟨j,q,a,Hr,hj,Zg,rfl,zD,QD,TU⟩:=hrel;have nN:=Hh Zg;have wJ:=Hh QD;have nM:=Hh TU;clear Zg QD TU;have a3:=zD.box.cell 3 rfl
 by_cases ye:j<x.items.length
 case neg =>
  have sZ:j=x.items.length:=by omega
  subst sZ;clear ye hj;have HF:Hid (wQ yF x.items=some q):=by rw[Hid,← nM.out,List.drop_length,nm]
  clear nM;have k0:=zD.kn.key.cell 0 rfl;have k1:=zD.kn.key.cell 1 rfl;have k2:=zD.kn.key.cell 2 rfl;have k3:=zD.kn.key.cell 3 rfl;have k4:=zD.kn.key.cell 4 rfl;have k5:=zD.kn.key.cell 5 rfl;have k6:=zD.kn.key.cell 6 rfl;go_wp2_with fail
  refine(jA (HT.out.mono zD.kn.grows.le) wJ.out _ zD.kn.grows.holds).mono ?_
  rintro e w9 ⟨v9,rfl,ya,yb,yc,yd,H9,rfl,rJ,ll⟩
  replace zD:=(zD.grow rJ)
  replace wJ:=Hh (wJ.out.mono rJ.le);clear k0 k1 k2 k3 k4 k5 k6 a3 rJ
  cases hvq:xp q with
  | false =>
   have Sg:Hid (¬ ∃ q,tV x q):=fun⟨q2,h2⟩=>by
    have e:=HF.out;rw[nj h2]at e;obtain rfl:=Option.some.inj e;rw[h2.1]at hvq
    cases hvq
   have E:Hid (uE q=1∧rR q=zG):=⟨by rw[uE,if_neg (by rw[hvq];simp)],by rw[rR,if_neg (by rw[hvq];simp)]⟩
   rw[E.out.1,E.out.2];clear hvq ll;replace zD:=zD.alloc (zS zG ya yb yc yd);go_upto_region 22 with fail
   have qG:=zD.kn.res;have uX:=Hh zD.kn;clear zD;go_wp2_with (with_reducible refine zx ?_)
   refine zp rfl _ _ _ rfl rfl _ _ rfl rfl _ _ qG yh rfl (rE _ _ _ _ _ _ _ rfl rfl rfl rfl rfl rfl rfl) fun wz hRz zT=>?_
   have zQ:=uX.out.grows.grownOwn uX.out.hR uX.out.wR zT;clear uX qG zT;go_wp2_with fail
   refine zw rfl rfl hRz rfl rfl yh rfl ?_
   exact .inr (.inl ⟨HV.out,Sg.out,rfl,zQ.below⟩)
  | true =>
  have E:Hid (uE q=0∧rR q=vj q):=⟨by rw[uE,if_pos hvq],by rw[rR,if_pos hvq]⟩
  have MQ:=Hh hvq;rw[E.out.1,E.out.2];rw[E.out.2]at ll;have Uj:=Hh (vS hvq);obtain⟨y,hy⟩:∃ y,vj q=y:=⟨_,rfl⟩
  have HY:=Hh hy;rw[hy]at ll⊢;rw[HY.out]at Uj;have Se:=Hh (And.intro (HI.out.mono zD.kn.grows.le) ll);replace zD:=zD.alloc (zS y ya yb yc yd);have x0:=zD.box.cell 0 rfl;have x1:=zD.box.cell 1 rfl;have x2:=zD.box.cell 2 rfl;have x3:=zD.box.cell 3 rfl;clear hvq ll hy;go_wp2_with fail
  refine(dY (HT.out.mono zD.kn.grows.le) Se.out.1 Se.out.2 HV.out Uj.out _ zD.kn.grows.holds).mono ?_
  rintro e w10 ⟨rfl,vu⟩
  replace zD:=zD.below vu;clear vu x0 x1 x2 x3;obtain⟨cm,nX⟩:∃ cm,Lib.compareBytes (zZ x) (zZ y)=cm:=⟨_,rfl⟩
  rw[nX]
  by_cases ln:cm=0
  case neg =>
   have Sg:Hid (¬ ∃ q,tV x q):=fun⟨q2,h2⟩=>by
    have e:=HF.out;rw[nj h2]at e;obtain rfl:=Option.some.inj e;have e2:x=y:=by rw[← h2.2];exact HY.out
    rw[e2,uh]at nX
    exact ln nX.symm
   have bc0:(cm != 0)=true:=by simp[ln]
   have pc0:(cm=0)=False:=eq_false ln;clear ln nX;have qG:=zD.kn.res;have uX:=Hh zD.kn;clear zD;go_wp2_with (with_reducible refine zx ?_)
   refine zp rfl _ _ _ rfl rfl _ _ rfl rfl _ _ qG yh rfl (rE _ _ _ _ _ _ _ rfl rfl rfl rfl rfl rfl rfl) fun wz hRz zT=>?_
   have zQ:=uX.out.grows.grownOwn uX.out.hR uX.out.wR zT;clear uX qG zT;go_wp2_with fail
   refine zw rfl rfl hRz rfl rfl yh rfl ?_
   exact .inr (.inl ⟨HV.out,Sg.out,rfl,zQ.below⟩)
  subst ln
  have Pq:Hid (x=y):=by
   have e3:=(tU _ _).1 nX
   exact(jY x y 0 0 [] [] (Fits.of HV.out Se.out.1.nums) (Fits.of Uj.out Se.out.2.nums) (by rw[e3])).1
  clear nX;have k0:=zD.kn.key.cell 0 rfl;have k1:=zD.kn.key.cell 1 rfl;have k2:=zD.kn.key.cell 2 rfl;have k3:=zD.kn.key.cell 3 rfl;have k4:=zD.kn.key.cell 4 rfl;have k5:=zD.kn.key.cell 5 rfl;have k6:=zD.kn.key.cell 6 rfl;have qG:=zD.kn.res;have uX:=Hh zD.kn;clear zD;go_wp2_with (with_reducible refine zx ?_)
  refine zp rfl _ _ _ rfl rfl _ _ rfl rfl _ _ qG yh rfl (rE _ _ _ _ _ _ _ rfl rfl rfl rfl rfl rfl rfl) fun wz hRz zT=>?_
  have zQ:=uX.out.grows.grownOwn uX.out.hR uX.out.wR zT;clear uX qG zT;go_wp2_with fail
  refine zw rfl rfl hRz rfl rfl yh rfl ?_
  exact .inr (.inr ⟨q,a,_,HV.out,⟨MQ.out,by rw[Pq.out];exact HY.out⟩,rfl,zQ,wJ.out⟩)
 have tb:j+1<x.items.length:=by have:=nN.out;have:=cF.out;omega
 have ld:x.items.length≤256:=(xu HV.out).2.1;have mG:(j:Int)<x.items.length:=by omega
 have eS:(j:Int)+1<x.items.length:=by omega
 have UQ:(0:Int)≤(j:Int)+1:=by omega
 have XD:(j:Int)+2≤9223372036854775807:=by omega
 have Qf:IntKind.i64.wrap ((j:Int)+1)=(j:Int)+1:=IntWalk.i64_in _ (by omega);obtain⟨ib,io,rH,vD⟩:=HI.out.items (by omega);obtain⟨y1,y2,y3,y4,q0,q1,q2,q3,fu⟩:=vD.get j ye;obtain⟨z1,z2,z3,z4,s0,s1,s2,s3,oI⟩:=vD.get (j+1) tb;subst rH;have ol:=Hh (aR q x.items j tb);have XQ:=Hh (ue HV.out (List.getElem_mem tb));have sU:=Hh (And.intro ye (And.intro tb ld))
 generalize x.items[j]'ye=y at *
 generalize x.items[j+1]'tb=z at *
 have eZ:=Hh (And.intro fu oI);have HS:=Hh (And.intro s0 (And.intro s1 (And.intro s2 s3)));have hh:=zD.kn.grows.holds.mono zD.kn.grows.le;have q0:=hh.cell q0;have q1:=hh.cell q1;have q2:=hh.cell q2;have q3:=hh.cell q3;clear vD fu oI s0 s1 s2 s3 ye tb hh hj ld;go_wp2_with fail
 refine(jC eZ.out.1.arg _).mono ?_
 intro e w5 hs
 unfold bD at hs
 have Wn:∃ (ok:Bool) (k:Int),e=.returned (.tuple #[.int .i64 k,.bool ok])∧Below wr.heap.size wr w5∧(ok=true→nmP y=some k)∧(ok=false→nmP y=none∧k=0):=by
  cases hn:nmP y with
  | none=>rw[hn]at hs;exact⟨false,0,hs.1,hs.2,(fun h=>by cases h),(fun _=>⟨rfl,rfl⟩)⟩
  | some k=>rw[hn]at hs;exact⟨true,k,hs.1,hs.2,(fun _=>rfl),(fun h=>by cases h)⟩
 clear hs;obtain⟨ok,k,rfl,rG,rL,py⟩:=Wn;have Qb:=Hh (And.intro rL py);clear rL py;replace zD:=zD.below rG;clear rG q0 q1 q2 q3 a3;have a3:=zD.box.cell 3 rfl;have hh:=zD.kn.grows.holds.mono zD.kn.grows.le;have s0:=hh.cell HS.out.1;have s1:=hh.cell HS.out.2.1;have s2:=hh.cell HS.out.2.2.1;have s3:=hh.cell HS.out.2.2.2;have hP:=Blk.new w5 57 #[.int .i64 z.kind,.int .u64 z.n,.slice z1 z.bytes.length z2,.slice z3 z.items.length z4];replace zD:=zD.alloc (zS z z1 z2 z3 z4);clear hh;go_wp2_with fail
 refine(jC eZ.out.2.arg _).mono ?_
 intro e w6 hs
 unfold bD at hs
 have Wn:∃ (is:Bool) (n:Int),e=.returned (.tuple #[.int .i64 n,.bool is])∧Below (w5.alloc (zS z z1 z2 z3 z4)).heap.size (w5.alloc (zS z z1 z2 z3 z4)) w6∧(is=true→nmP z=some n)∧(is=false→nmP z=none∧n=0):=by
  cases hn:nmP z with
  | none=>rw[hn]at hs;exact⟨false,0,hs.1,hs.2,(fun h=>by cases h),(fun _=>⟨rfl,rfl⟩)⟩
  | some k=>rw[hn]at hs;exact⟨true,k,hs.1,hs.2,(fun _=>rfl),(fun h=>by cases h)⟩
 clear hs;obtain⟨is,n,rfl,tf,ru,oo⟩:=Wn;have iU:=Hh (And.intro ru oo);clear ru oo;obtain⟨P,XU⟩:∃ P,w5.heap.size=P:=⟨_,rfl⟩
 rw[XU]at hP⊢;replace zD:=zD.below tf;replace hP:=hP.below tf;clear tf s0 s1 s2 s3 a3 XU;have z0:=hP.cell 0 rfl;have zb:=hP.cell 2 rfl;clear hP
 cases ok with
 | false =>
  obtain⟨MX,tB⟩:=Qb.out.2 rfl;subst tB;have MX:=Hh MX
  have L2:(Instr.lookup 112 (.map (some M2)) (.int .i64 0) false).run Tryz.prog w6=.ok (.pointer none) w6:=by
   have qC:=wj Tryz.underlying112 Tryz.underlying3 zD.m2 (Tryz.zeroValue111 w6) (0);rw[show rm (la K) 0=none from rfl]at qC
   exact qC
  have Ub:Hid (wQ yF x.items=none):=by rw[Hid,← nM.out,ol.out];rw[sW,MX.out]
  clear ol;have qG:=zD.kn.res;have uX:=Hh zD.kn;clear zD;go_wp2_with (with_reducible refine zx ?_)
  refine zp rfl _ _ _ rfl rfl _ _ rfl rfl _ _ qG yh rfl (rE _ _ _ _ _ _ _ rfl rfl rfl rfl rfl rfl rfl) fun wz hRz zT=>?_
  have zQ:=uX.out.grows.grownOwn uX.out.hR uX.out.wR zT;clear uX qG zT;go_wp2_with fail
  refine zw rfl rfl hRz rfl rfl yh rfl ?_
  exact .inr (.inl ⟨HV.out,mD Ub.out,rfl,zQ.below⟩)
 | true =>
 have MZ:=Hh (Qb.out.1 rfl);clear Qb
 cases is with
 | true =>
  have TM:=Hh (iU.out.1 rfl);clear iU;have kg:Hid (sW q y z=fa q k n):=by rw[Hid,sW,MZ.out];simp only[TM.out]
  have NU:¬ z.kind=2:=fun h=>by
   obtain⟨zk,zn,zbs,zl⟩:=z;have e:=TM.out
   simp only[Itm.kind]at h
   subst h;rw[Tx]at e
   cases e
  have bz2:(z.kind==2)=false:=by rw[beq_eq_false_iff_ne];exact NU
  have pz2:(z.kind=2)=False:=eq_false NU;clear NU;have rI : -9223372036854775808≤n∧n≤9223372036854775807:=YJ TM.out;have Xe:=Hh rI;clear rI
  by_cases tB:k=1
  ·subst tB
   have L1:(Instr.lookup 110 (.map (some (K+1))) (.int .i64 1) false).run Tryz.prog w6=.ok (.pointer (some ⟨K,0,none⟩)) w6:=by
    have qC:=wj Tryz.underlying110 Tryz.underlying3 zD.m1 (Tryz.zeroValue109 w6) (1)
    exact qC
   go_wp2_with (with_reducible refine zx ?_)
   refine zu rfl _ _ _ rfl rfl K 0 (.int .i64 n) rfl rfl _ _ zD.kn.key (by kernel_rfl) (by simp) rfl fun wt hBt hgt=>?_
   replace zD:=zD.set (kc':=vV { q with kty:=n } a) hBt hgt;clear hBt hgt L1 z0 zb;go_wp2_with fail
   go_roundw
   case rel=>exact⟨j+2,{ q with kty:=n },a,_,by have:=sU.out;omega,by have:=nN.out;omega,by go_num,zD,⟨Xe.out,wJ.out.crv,wJ.out.alg,wJ.out.kid,wJ.out.x,wJ.out.d,wJ.out.k⟩,by rw[← nM.out,ol.out,kg.out];rfl⟩
   case measure=>have:=sU.out;simp[intOf];omega
  by_cases py:k=3
  ·subst py
   have L1:(Instr.lookup 110 (.map (some (K+1))) (.int .i64 3) false).run Tryz.prog w6=.ok (.pointer (some ⟨K,2,none⟩)) w6:=by
    have qC:=wj Tryz.underlying110 Tryz.underlying3 zD.m1 (Tryz.zeroValue109 w6) (3)
    exact qC
   go_wp2_with (with_reducible refine zx ?_)
   refine zu rfl _ _ _ rfl rfl K 2 (.int .i64 n) rfl rfl _ _ zD.kn.key (by kernel_rfl) (by simp) rfl fun wt hBt hgt=>?_
   replace zD:=zD.set (kc':=vV { q with alg:=n } a) hBt hgt;clear hBt hgt L1 z0 zb;go_wp2_with fail
   go_roundw
   case rel=>exact⟨j+2,{ q with alg:=n },a,_,by have:=sU.out;omega,by have:=nN.out;omega,by go_num,zD,⟨wJ.out.kty,wJ.out.crv,Xe.out,wJ.out.kid,wJ.out.x,wJ.out.d,wJ.out.k⟩,by rw[← nM.out,ol.out,kg.out];rfl⟩
   case measure=>have:=sU.out;simp[intOf];omega
  by_cases rL:k = -1
  ·subst rL
   have L1:(Instr.lookup 110 (.map (some (K+1))) (.int .i64 (-1)) false).run Tryz.prog w6=.ok (.pointer (some ⟨K,1,none⟩)) w6:=by
    have qC:=wj Tryz.underlying110 Tryz.underlying3 zD.m1 (Tryz.zeroValue109 w6) ((-1))
    exact qC
   go_wp2_with (with_reducible refine zx ?_)
   refine zu rfl _ _ _ rfl rfl K 1 (.int .i64 n) rfl rfl _ _ zD.kn.key (by kernel_rfl) (by simp) rfl fun wt hBt hgt=>?_
   replace zD:=zD.set (kc':=vV { q with crv:=n } a) hBt hgt;clear hBt hgt L1 z0 zb;go_wp2_with fail
   go_roundw
   case rel=>exact⟨j+2,{ q with crv:=n },a,_,by have:=sU.out;omega,by have:=nN.out;omega,by go_num,zD,⟨wJ.out.kty,Xe.out,wJ.out.alg,wJ.out.kid,wJ.out.x,wJ.out.d,wJ.out.k⟩,by rw[← nM.out,ol.out,kg.out];rfl⟩
   case measure=>have:=sU.out;simp[intOf];omega
  have TL:=Hh (And.intro tB (And.intro py rL))
  have L1:(Instr.lookup 110 (.map (some (K+1))) (.int .i64 k) false).run Tryz.prog w6=.ok (.pointer none) w6:=by
   have qC:=wj Tryz.underlying110 Tryz.underlying3 zD.m1 (Tryz.zeroValue109 w6) (k);rw[cf tB py rL]at qC
   exact qC
  obtain⟨u2,Xn⟩:∃ u2,(rm (la K) k).getD (.pointer none)=u2:=⟨_,rfl⟩
  have L2:(Instr.lookup 112 (.map (some M2)) (.int .i64 k) false).run Tryz.prog w6=.ok (u2) w6:=by
   have qC:=wj Tryz.underlying112 Tryz.underlying3 zD.m2 (Tryz.zeroValue111 w6) (k);rw[Xn]at qC
   exact qC
  have NP:u2=.pointer none∨∃ p,u2=.pointer (some p):=by rw[← Xn];exact jE K k
  clear tB rL py Xn;have Ub:Hid (wQ yF x.items=none):=by rw[Hid,← nM.out,ol.out,kg.out,fa,if_neg TL.out.1,if_neg TL.out.2.1,if_neg TL.out.2.2]
  clear ol
  rcases NP with rfl | ⟨p,rfl⟩
  ·have qG:=zD.kn.res;have uX:=Hh zD.kn;clear zD;go_wp2_with (with_reducible refine zx ?_)
   refine zp rfl _ _ _ rfl rfl _ _ rfl rfl _ _ qG yh rfl (rE _ _ _ _ _ _ _ rfl rfl rfl rfl rfl rfl rfl) fun wz hRz zT=>?_
   have zQ:=uX.out.grows.grownOwn uX.out.hR uX.out.wR zT;clear uX qG zT;go_wp2_with fail
   refine zw rfl rfl hRz rfl rfl yh rfl ?_
   exact .inr (.inl ⟨HV.out,mD Ub.out,rfl,zQ.below⟩)
  have qG:=zD.kn.res;have uX:=Hh zD.kn;clear zD;go_wp2_with (with_reducible refine zx ?_)
  refine zp rfl _ _ _ rfl rfl _ _ rfl rfl _ _ qG yh rfl (rE _ _ _ _ _ _ _ rfl rfl rfl rfl rfl rfl rfl) fun wz hRz zT=>?_
  have zQ:=uX.out.grows.grownOwn uX.out.hR uX.out.wR zT;clear uX qG zT;go_wp2_with fail
  refine zw rfl rfl hRz rfl rfl yh rfl ?_
  exact .inr (.inl ⟨HV.out,mD Ub.out,rfl,zQ.below⟩)
 | false =>
 obtain⟨TM,zF⟩:=iU.out.2 rfl;subst zF;have TM:=Hh TM;clear iU
 by_cases ro:z.kind=2
 case neg =>
  have kg:Hid (sW q y z=none):=by rw[Hid,sW,MZ.out];simp only[TM.out,if_neg ro]
  have bz2:(z.kind==2)=false:=by rw[beq_eq_false_iff_ne];exact ro
  have pz2:(z.kind=2)=False:=eq_false ro;clear ro;obtain⟨u2,Xn⟩:∃ u2,(rm (la K) k).getD (.pointer none)=u2:=⟨_,rfl⟩
  have L2:(Instr.lookup 112 (.map (some M2)) (.int .i64 k) false).run Tryz.prog w6=.ok (u2) w6:=by
   have qC:=wj Tryz.underlying112 Tryz.underlying3 zD.m2 (Tryz.zeroValue111 w6) (k);rw[Xn]at qC
   exact qC
  have NP:u2=.pointer none∨∃ p,u2=.pointer (some p):=by rw[← Xn];exact jE K k
  clear Xn;have Ub:Hid (wQ yF x.items=none):=by rw[Hid,← nM.out,ol.out,kg.out]
  clear ol
  rcases NP with rfl | ⟨p,rfl⟩
  ·have qG:=zD.kn.res;have uX:=Hh zD.kn;clear zD;go_wp2_with (with_reducible refine zx ?_)
   refine zp rfl _ _ _ rfl rfl _ _ rfl rfl _ _ qG yh rfl (rE _ _ _ _ _ _ _ rfl rfl rfl rfl rfl rfl rfl) fun wz hRz zT=>?_
   have zQ:=uX.out.grows.grownOwn uX.out.hR uX.out.wR zT;clear uX qG zT;go_wp2_with fail
   refine zw rfl rfl hRz rfl rfl yh rfl ?_
   exact .inr (.inl ⟨HV.out,mD Ub.out,rfl,zQ.below⟩)
  have qG:=zD.kn.res;have uX:=Hh zD.kn;clear zD;go_wp2_with (with_reducible refine zx ?_)
  refine zp rfl _ _ _ rfl rfl _ _ rfl rfl _ _ qG yh rfl (rE _ _ _ _ _ _ _ rfl rfl rfl rfl rfl rfl rfl) fun wz hRz zT=>?_
  have zQ:=uX.out.grows.grownOwn uX.out.hR uX.out.wR zT;clear uX qG zT;go_wp2_with fail
  refine zw rfl rfl hRz rfl rfl yh rfl ?_
  exact .inr (.inl ⟨HV.out,mD Ub.out,rfl,zQ.below⟩)
 have kg:Hid (sW q y z=js q k z.bytes):=by rw[Hid,sW,MZ.out];simp only[TM.out,if_pos ro]
 have bz2:(z.kind==2)=true:=by rw[beq_iff_eq];exact ro
 have pz2:(z.kind=2)=True:=eq_true ro;clear ro
 by_cases oe:k=2
 ·subst oe
  have L2:(Instr.lookup 112 (.map (some M2)) (.int .i64 2) false).run Tryz.prog w6=.ok (.pointer (some ⟨K,3,none⟩)) w6:=by
   have qC:=wj Tryz.underlying112 Tryz.underlying3 zD.m2 (Tryz.zeroValue111 w6) (2)
   exact qC
  go_wp2_with fail
  refine(vT _ z1 z.bytes z.bytes.length z2 rfl (by have:=(xu XQ.out).1;omega) (Src.of_row (eZ.out.2.mono zD.kn.grows.le).bytes.row zD.kn.grows.holds)).mono ?_
  rintro e w7 ⟨r7,rfl,iO⟩
  obtain⟨A7,c7,rfl,sS⟩:=iO.own.form;clear sS;obtain⟨H7,wu,vJ,sS⟩:=Fresh.snapB zD.kn.grows.holds iO;clear sS iO;replace zD:=zD.grow wu;replace wJ:=Hh (wJ.out.mono wu.le);have en:=Hh vJ;clear wu vJ L2 z0 zb;go_wp2_with (with_reducible refine zx ?_)
  refine zu rfl _ _ _ rfl rfl K 3 (.slice A7 z.bytes.length c7) rfl rfl _ _ zD.kn.key (by kernel_rfl) (by simp) rfl fun wt hBt hgt=>?_
  replace zD:=zD.set (kc':=vV { q with kid:=z.bytes } { a with ia:=A7,ic:=c7 }) hBt hgt;clear hBt hgt;go_wp2_with fail
  go_roundw
  case rel=>exact⟨j+2,{ q with kid:=z.bytes },{ a with ia:=A7,ic:=c7 },_,by have:=sU.out;omega,by have:=nN.out;omega,by go_num,zD,⟨wJ.out.kty,wJ.out.crv,wJ.out.alg,en.out,wJ.out.x,wJ.out.d,wJ.out.k⟩,by rw[← nM.out,ol.out,kg.out];rfl⟩
  case measure=>have:=sU.out;simp[intOf];omega
 by_cases Su:k = -1
 ·subst Su
  have L2:(Instr.lookup 112 (.map (some M2)) (.int .i64 (-1)) false).run Tryz.prog w6=.ok (.pointer (some ⟨K,6,none⟩)) w6:=by
   have qC:=wj Tryz.underlying112 Tryz.underlying3 zD.m2 (Tryz.zeroValue111 w6) ((-1))
   exact qC
  go_wp2_with fail
  refine(vT _ z1 z.bytes z.bytes.length z2 rfl (by have:=(xu XQ.out).1;omega) (Src.of_row (eZ.out.2.mono zD.kn.grows.le).bytes.row zD.kn.grows.holds)).mono ?_
  rintro e w7 ⟨r7,rfl,iO⟩
  obtain⟨A7,c7,rfl,sS⟩:=iO.own.form;clear sS;obtain⟨H7,wu,vJ,sS⟩:=Fresh.snapB zD.kn.grows.holds iO;clear sS iO;replace zD:=zD.grow wu;replace wJ:=Hh (wJ.out.mono wu.le);have en:=Hh vJ;clear wu vJ L2 z0 zb;go_wp2_with (with_reducible refine zx ?_)
  refine zu rfl _ _ _ rfl rfl K 6 (.slice A7 z.bytes.length c7) rfl rfl _ _ zD.kn.key (by kernel_rfl) (by simp) rfl fun wt hBt hgt=>?_
  replace zD:=zD.set (kc':=vV { q with k:=z.bytes } { a with ka:=A7,kc:=c7 }) hBt hgt;clear hBt hgt;go_wp2_with fail
  go_roundw
  case rel=>exact⟨j+2,{ q with k:=z.bytes },{ a with ka:=A7,kc:=c7 },_,by have:=sU.out;omega,by have:=nN.out;omega,by go_num,zD,⟨wJ.out.kty,wJ.out.crv,wJ.out.alg,wJ.out.kid,wJ.out.x,wJ.out.d,en.out⟩,by rw[← nM.out,ol.out,kg.out];rfl⟩
  case measure=>have:=sU.out;simp[intOf];omega
 by_cases VE:k = -2
 ·subst VE
  have L2:(Instr.lookup 112 (.map (some M2)) (.int .i64 (-2)) false).run Tryz.prog w6=.ok (.pointer (some ⟨K,4,none⟩)) w6:=by
   have qC:=wj Tryz.underlying112 Tryz.underlying3 zD.m2 (Tryz.zeroValue111 w6) ((-2))
   exact qC
  go_wp2_with fail
  refine(vT _ z1 z.bytes z.bytes.length z2 rfl (by have:=(xu XQ.out).1;omega) (Src.of_row (eZ.out.2.mono zD.kn.grows.le).bytes.row zD.kn.grows.holds)).mono ?_
  rintro e w7 ⟨r7,rfl,iO⟩
  obtain⟨A7,c7,rfl,sS⟩:=iO.own.form;clear sS;obtain⟨H7,wu,vJ,sS⟩:=Fresh.snapB zD.kn.grows.holds iO;clear sS iO;replace zD:=zD.grow wu;replace wJ:=Hh (wJ.out.mono wu.le);have en:=Hh vJ;clear wu vJ L2 z0 zb;go_wp2_with (with_reducible refine zx ?_)
  refine zu rfl _ _ _ rfl rfl K 4 (.slice A7 z.bytes.length c7) rfl rfl _ _ zD.kn.key (by kernel_rfl) (by simp) rfl fun wt hBt hgt=>?_
  replace zD:=zD.set (kc':=vV { q with x:=z.bytes } { a with xa:=A7,xc:=c7 }) hBt hgt;clear hBt hgt;go_wp2_with fail
  go_roundw
  case rel=>exact⟨j+2,{ q with x:=z.bytes },{ a with xa:=A7,xc:=c7 },_,by have:=sU.out;omega,by have:=nN.out;omega,by go_num,zD,⟨wJ.out.kty,wJ.out.crv,wJ.out.alg,wJ.out.kid,en.out,wJ.out.d,wJ.out.k⟩,by rw[← nM.out,ol.out,kg.out];rfl⟩
  case measure=>have:=sU.out;simp[intOf];omega
 by_cases Uu:k = -4
 ·subst Uu
  have L2:(Instr.lookup 112 (.map (some M2)) (.int .i64 (-4)) false).run Tryz.prog w6=.ok (.pointer (some ⟨K,5,none⟩)) w6:=by
   have qC:=wj Tryz.underlying112 Tryz.underlying3 zD.m2 (Tryz.zeroValue111 w6) ((-4))
   exact qC
  go_wp2_with fail
  refine(vT _ z1 z.bytes z.bytes.length z2 rfl (by have:=(xu XQ.out).1;omega) (Src.of_row (eZ.out.2.mono zD.kn.grows.le).bytes.row zD.kn.grows.holds)).mono ?_
  rintro e w7 ⟨r7,rfl,iO⟩
  obtain⟨A7,c7,rfl,sS⟩:=iO.own.form;clear sS;obtain⟨H7,wu,vJ,sS⟩:=Fresh.snapB zD.kn.grows.holds iO;clear sS iO;replace zD:=zD.grow wu;replace wJ:=Hh (wJ.out.mono wu.le);have en:=Hh vJ;clear wu vJ L2 z0 zb;go_wp2_with (with_reducible refine zx ?_)
  refine zu rfl _ _ _ rfl rfl K 5 (.slice A7 z.bytes.length c7) rfl rfl _ _ zD.kn.key (by kernel_rfl) (by simp) rfl fun wt hBt hgt=>?_
  replace zD:=zD.set (kc':=vV { q with d:=z.bytes } { a with da:=A7,dc:=c7 }) hBt hgt;clear hBt hgt;go_wp2_with fail
  go_roundw
  case rel=>exact⟨j+2,{ q with d:=z.bytes },{ a with da:=A7,dc:=c7 },_,by have:=sU.out;omega,by have:=nN.out;omega,by go_num,zD,⟨wJ.out.kty,wJ.out.crv,wJ.out.alg,wJ.out.kid,wJ.out.x,en.out,wJ.out.k⟩,by rw[← nM.out,ol.out,kg.out];rfl⟩
  case measure=>have:=sU.out;simp[intOf];omega
 have TL:=Hh (And.intro oe (And.intro Su (And.intro VE Uu)))
 have L2:(Instr.lookup 112 (.map (some M2)) (.int .i64 k) false).run Tryz.prog w6=.ok (.pointer none) w6:=by
  have qC:=wj Tryz.underlying112 Tryz.underlying3 zD.m2 (Tryz.zeroValue111 w6) (k);rw[lO oe Su VE Uu]at qC
  exact qC
 clear oe VE Uu Su;have Ub:Hid (wQ yF x.items=none):=by rw[Hid,← nM.out,ol.out,kg.out,js,if_neg TL.out.1,if_neg TL.out.2.1,if_neg TL.out.2.2.1,if_neg TL.out.2.2.2]
 clear ol;have qG:=zD.kn.res;have uX:=Hh zD.kn;clear zD;go_wp2_with (with_reducible refine zx ?_)
 refine zp rfl _ _ _ rfl rfl _ _ rfl rfl _ _ qG yh rfl (rE _ _ _ _ _ _ _ rfl rfl rfl rfl rfl rfl rfl) fun wz hRz zT=>?_
 have zQ:=uX.out.grows.grownOwn uX.out.hR uX.out.wR zT;clear uX qG zT;go_wp2_with fail
 refine zw rfl rfl hRz rfl rfl yh rfl ?_
 exact .inr (.inl ⟨HV.out,mD Ub.out,rfl,zQ.below⟩)
def xf (s:ByteArray):Itm:=.mk 3 0 s.data.toList []
def wD (q:Ky):Itm:=.mk 5 0 [] [zt 1,vj q]
def xN (s:ByteArray):List Itm:=if s=⟨#[]⟩ then [] else [zt 1,xf s]
def yp (k n:Int):List Itm:=if 0<n then [zt k,zt n] else []
def yE (c:Cl):List Itm:=xN c.issuer++[zt 2,xf c.subject]++yp 4 c.till++yp 5 c.since++[zt 8,wD c.key]
def xI (c:Cl):Itm:=.mk 5 0 [] (yE c)
theorem aV:Lib.compareBytes (zZ (zt 1)) (zZ (zt 2))<0∧Lib.compareBytes (zZ (zt 2)) (zZ (zt 4))<0∧Lib.compareBytes (zZ (zt 2)) (zZ (zt 5))<0∧Lib.compareBytes (zZ (zt 2)) (zZ (zt 8))<0∧
  Lib.compareBytes (zZ (zt 4)) (zZ (zt 5))<0∧Lib.compareBytes (zZ (zt 4)) (zZ (zt 8))<0∧Lib.compareBytes (zZ (zt 5)) (zZ (zt 8))<0:=by
 rw[wo,wo,wo,wo,wo];decide +kernel
theorem nf (c:Cl):wn (yE c)=true:=by
 obtain⟨ea,te,Uz,Nf,Ng,Nh,Ni⟩:=aV
 unfold yE xN yp
 repeat' split
 all_goals simp[wn,ea,te,Uz,Nf,Ng,Nh,Ni]
theorem rz (c:Cl):(yE c).length%2=0∧4≤(yE c).length∧(yE c).length≤10:=by
 unfold yE xN yp
 repeat' split
 all_goals simp
theorem me {s:ByteArray}(h:xK s=true):s.data.toList.length≤64∧Lib.validD s.data.toList=true:=by
 unfold xK at h
 rw[Bool.and_eq_true,decide_eq_true_eq]at h
 exact⟨by rw[Array.length_toList];exact h.1,h.2⟩
theorem qT {s:ByteArray}(h:xK s=true):s.size≤64:=by
 unfold xK at h
 rw[Bool.and_eq_true,decide_eq_true_eq]at h
 exact h.1
theorem gR {s:ByteArray}(h:xK s=true) (lv:Nat):Good (xf s) lv:=dl 3 (.inr rfl) _ lv (fun _=>(me h).2)
theorem je {l:List Itm}{lv:Nat}(hlv:lv≤7) (he:l.length%2=0) (hg:GoodL l (lv+1)) (ha:wn l=true):Good (.mk 5 0 [] l) lv:=by
 refine Good.of ?_ hg (fun _=>ha)
 rw[xr,if_neg (by rw[zE];simp[Itm.kind]),vx]
 simp[Itm.kind,Itm.bytes,Itm.items,Itm.n,he]
 omega
theorem cX (q:Ky):Good (vj q) 2:=je (by omega) (rX q) (mU q 3) (qN q)
theorem Xz (q:Ky):Good (wD q) 1:=je (by omega) (by simp) (by simp[GoodL,uT,cX]) rfl
theorem aH {c:Cl}(h:zB c=true):Good (xI c) 0:=by
 have hv:=(wW c).1 h
 refine je (by omega) (rz c).1 (GoodL.of fun x hx=>?_) (nf c)
 unfold yE xN yp at hx
 simp only[List.mem_append]at hx
 rcases hx with (((hx | hx) | hx) | hx) | hx
 ·split at hx
  ·simp at hx
  simp at hx
  rcases hx with rfl | rfl
  ·exact uT _ _
  exact gR hv.1 _
 ·simp at hx
  rcases hx with rfl | rfl
  ·exact uT _ _
  exact gR hv.2.1 _
 ·split at hx
  ·simp at hx
   rcases hx with rfl | rfl <;> exact uT _ _
  simp at hx
 ·split at hx
  ·simp at hx
   rcases hx with rfl | rfl <;> exact uT _ _
  simp at hx
 simp at hx
 rcases hx with rfl | rfl
 ·exact uT _ _
 exact Xz _
theorem gU {s:ByteArray}(h:xK s=true):gm (xf s):=by
 refine⟨by simp[xf,cnt,xG], ?_⟩
 have h1:=sm 3 0 s.data.toList [] (by decide) (by decide);have h2:=(me h).1
 simp only[yx,List.length_nil]at h1
 simp only[xf]
 omega
theorem Tg {q:Ky}(h:xp q=true):cnt (wD q)≤15∧(zZ (wD q)).length≤1000:=by
 have hs:=mz (yH q) (lN h);have hl:=qV q;have h1:=wY 1;have hk:=sm 5 0 [] (yH q) (by decide) (by decide);have hc:=sm 5 0 [] [zt 1,vj q] (by decide) (by decide);have e:yx [zt 1,vj q]=zZ (zt 1)++zZ (vj q):=by simp[yx]
 have e2:zZ (vj q)=zZ (.mk 5 0 [] (yH q)):=rfl;rw[e,List.length_append,e2]at hc;have h2:=h1.2;have h3:=h1.1
 refine⟨?_, ?_⟩
 ·show cnt (.mk 5 0 [] [zt 1,.mk 5 0 [] (yH q)])≤15
  simp only[cnt,xG]
  rw[hs.1]
  omega
 show(zZ (.mk 5 0 [] [zt 1,vj q])).length≤1000
 simp only[List.length_nil]at hk hc
 omega
def li (c:Cl):List Itm:=xN c.issuer++[zt 2,xf c.subject]++yp 4 c.till++yp 5 c.since
theorem aS {c:Cl}(h:zB c=true):∀ x∈li c,gm x:=by
 have hv:=(wW c).1 h
 intro x hx
 unfold li xN yp at hx
 simp only[List.mem_append]at hx
 rcases hx with ((hx | hx) | hx) | hx
 ·split at hx
  ·simp at hx
  simp at hx
  rcases hx with rfl | rfl
  ·exact wY _
  exact gU hv.1
 ·simp at hx
  rcases hx with rfl | rfl
  ·exact wY _
  exact gU hv.2.1
 ·split at hx
  ·simp at hx
   rcases hx with rfl | rfl <;> exact wY _
  simp at hx
 split at hx
 ·simp at hx
  rcases hx with rfl | rfl <;> exact wY _
 simp at hx
theorem gH:∀ l m:List Itm,xG (l++m)=xG l+xG m
 | [],m=>by simp[xG]
 | x::l,m=>by rw[List.cons_append,xG,xG,gH l m];omega
theorem Y5 (c:Cl):(li c).length≤8:=by
 unfold li xN yp
 repeat' split
 all_goals simp
theorem gV {c:Cl}(h:zB c=true):cnt (xI c)≤26∧(zZ (xI c)).length≤1700:=by
 have hv:=(wW c).1 h;have hs:=mz (li c) (aS h);have hl:=Y5 c;have hk:=Tg hv.2.2.2.2.2.2.2.2.1;have h1:=wY 8;have hc:=sm 5 0 [] (yE c) (by decide) (by decide)
 have e:yx (yE c)=yx (li c)++(zZ (zt 8)++zZ (wD c.key)):=by
  show yx (li c++[zt 8,wD c.key])=_
  rw[th]
  simp[yx]
 rw[e,List.length_append,List.length_append]at hc;have h2:=h1.2;have h3:=h1.1
 refine⟨?_, ?_⟩
 ·show cnt (.mk 5 0 [] (li c++[zt 8,wD c.key]))≤26
  rw[cnt,gH,hs.1]
  simp only[xG]
  omega
 show(zZ (.mk 5 0 [] (yE c))).length≤1700
 simp only[List.length_nil]at hc
 omega
theorem xA {c:Cl}(h:zB c=true):zL (xI c)=true :=
 (wX _).mpr ⟨aH h,by have:=(gV h).1;omega,by have:=(gV h).2;omega⟩
theorem jp {c:Cl}(h:zB c=true):(yE c).length%2=0∧wn (yE c)=true∧(∀ x∈yE c,zL x=true)∧zL (.mk 5 0 [] (yE c))=true :=
 ⟨(rz c).1,nf c,fun x hx=>ue (xA h) (show x∈(xI c).items from hx),xA h⟩
def rl (x:Itm):Ky:=if zL x&&xp (vg yF x.items)&&tq (vj (vg yF x.items)) x then vg yF x.items else yF
theorem ml {x:Itm}{q:Ky}(hv:zL x=true) (h:tV x q):rl x=q:=by
 have e:=qQ h
 unfold rl
 rw[e,hv,h.1,(vZ _ _).2 h.2];rfl
theorem dr {x:Itm}(h:¬ (zL x=true∧∃ q,tV x q)):rl x=yF:=by
 unfold rl
 split
 ·rename_i hc
  rw[Bool.and_eq_true,Bool.and_eq_true]at hc
  exact absurd ⟨hc.1.1,_,hc.1.2,(vZ _ _).1 hc.2⟩ h
 rfl
def ut (b:List UInt8):ByteArray:=⟨b.toArray⟩
theorem sO (s:ByteArray):ut s.data.toList=s:=by cases s;rfl
def re (n:Nat):Int:=((min n 1099511627776:Nat):Int)
def nL:Cl:=⟨⟨#[]⟩,⟨#[]⟩,0,0,yF⟩
def uQ (c:Cl) (k v:Itm):Cl :=
 if k.n=1 then { c with issuer:=ut v.bytes } else if k.n=2 then { c with subject:=ut v.bytes } else if k.n=4 then { c with till:=re v.n }
 else if k.n=5 then { c with since:=re v.n } else if k.n=8 then(match v.items with | [_,b]=>if v.kind=5 then { c with key:=rl b } else c | _=>c) else c
def vA:Cl→List Itm→Option Cl
 | c,k::v::l=>if k.kind=0 then vA (uQ c k v) l else none
 | c,_=>some c
def xq (x:Itm):Option Cl:=if x.kind=5 then(match vA nL x.items with | none=>none | some c=>if zB c&&tq (xI c) x then some c else none) else none
theorem gD (c:Cl):vA c []=some c:=by simp[vA]
theorem a6 (c:Cl) (l:List Itm) (j:Nat) (h:j+1<l.length):vA c (l.drop j)=if(l[j]'(by omega)).kind=0 then vA (uQ c (l[j]'(by omega)) l[j+1]) (l.drop (j+2)) else none:=by
 rw[List.drop_eq_getElem_cons (by omega:j<l.length),List.drop_eq_getElem_cons h,vA]
theorem mS {x:Itm}{c:Cl}(h:xq x=some c):zB c=true∧xI c=x:=by
 unfold xq at h
 split at h
 ·split at h
  ·cases h
  split at h
  ·rename_i hc
   rw[Bool.and_eq_true]at hc;injection h with h
   subst h
   exact⟨hc.1,(vZ _ _).1 hc.2⟩
  cases h
 cases h
theorem gF (c:Cl) (k:Int) (s:ByteArray) (l:List Itm) (hk:0≤k):vA c (zt k::xf s::l)=vA (uQ c (.mk 0 k.toNat [] []) (xf s)) l:=by
 rw[vA];have e:zt k=.mk 0 k.toNat [] []:=by rw[zt,if_neg (by omega)]
 rw[e];rfl
theorem dX {n:Int}(h0:0≤n) (h:n≤1073741824):re n.toNat=n:=by
 unfold re
 omega
theorem gE (c:Cl) (k n:Int) (l:List Itm) (hk:0≤k):vA c (zt k::zt n::l)=vA (uQ c (.mk 0 k.toNat [] []) (zt n)) l:=by
 rw[vA];have e:zt k=.mk 0 k.toNat [] []:=by rw[zt,if_neg (by omega)]
 rw[e];rfl
theorem cR {c:Cl}(h:zB c=true):vA nL (yE c)=some c:=by
 have hv:=(wW c).1 h;have hq:zL (vj c.key)=true∧tV (vj c.key) c.key:=⟨vS hv.2.2.2.2.2.2.2.2.1,hv.2.2.2.2.2.2.2.2.1,rfl⟩
 obtain⟨i,s,f,t,q⟩:=c
 simp only at hv hq
 have last:∀ (c':Cl),c'=⟨i,s,f,t,yF⟩→vA c' [zt 8,wD q]=some ⟨i,s,f,t,q⟩:=by
  rintro _ rfl
  have e:zt 8=.mk 0 8 [] []:=rfl;rw[vA,e,if_pos (show(Itm.mk 0 8 [] []).kind=0 from rfl),gD]
  unfold uQ
  simp only[Itm.n,wD,Itm.items,Itm.kind]
  rw[ml hq.1 hq.2];rfl
 have hf:∀ (c':Cl),c'=⟨i,s,0,t,yF⟩→vA c' (yp 5 f++[zt 8,wD q])=some ⟨i,s,f,t,q⟩:=by
  rintro _ rfl
  unfold yp
  split
  ·rw[List.cons_append,List.cons_append,List.nil_append,gE _ _ _ _ (by omega)]
   refine last _ ?_
   show(⟨i,s,re (zt f).n,t,yF⟩:Cl)=_
   rw[zt,if_neg (by omega)];show(⟨i,s,re f.toNat,t,yF⟩:Cl)=_
   rw[dX (by omega) (by omega)]
  rw[List.nil_append]
  refine last _ ?_
  rw[show f=0 by omega]
 have ht:∀ (c':Cl),c'=⟨i,s,0,0,yF⟩→vA c' (yp 4 t++(yp 5 f++[zt 8,wD q]))=some ⟨i,s,f,t,q⟩:=by
  rintro _ rfl
  rw[yp]
  split
  ·rw[List.cons_append,List.cons_append,List.nil_append,gE _ _ _ _ (by omega)]
   refine hf _ ?_
   show(⟨i,s,0,re (zt t).n,yF⟩:Cl)=_
   rw[zt,if_neg (by omega)];show(⟨i,s,0,re t.toNat,yF⟩:Cl)=_
   rw[dX (by omega) (by omega)]
  rw[List.nil_append]
  refine hf _ ?_
  rw[show t=0 by omega]
 have hs:∀ (c':Cl),c'=⟨i,⟨#[]⟩,0,0,yF⟩→vA c' ([zt 2,xf s]++(yp 4 t++(yp 5 f++[zt 8,wD q])))=some ⟨i,s,f,t,q⟩:=by
  rintro _ rfl
  rw[List.cons_append,List.cons_append,List.nil_append,gF _ _ _ _ (by omega)]
  refine ht _ ?_
  show(⟨i,ut s.data.toList,0,0,yF⟩:Cl)=_
  rw[sO]
 unfold yE
 simp only[List.append_assoc]
 rw[xN]
 split
 ·rename_i hi
  rw[List.nil_append]
  refine hs _ ?_
  show(⟨⟨#[]⟩,⟨#[]⟩,0,0,yF⟩:Cl)=_
  rw[hi]
 rw[List.cons_append,List.cons_append,List.nil_append,gF _ _ _ _ (by omega)]
 refine hs _ ?_
 show(⟨ut i.data.toList,⟨#[]⟩,0,0,yF⟩:Cl)=_
 rw[sO]
theorem cS (x:Itm) (c:Cl):xq x=some c↔zB c=true∧xI c=x:=by
 refine⟨mS,fun⟨h1,h2⟩=>?_⟩
 subst h2
 unfold xq
 have e:(xI c).items=yE c:=rfl;rw[if_pos (show(xI c).kind=5 from rfl),e,cR h1]
 simp only[h1,(vZ (xI c) (xI c)).2 rfl,Bool.and_self,if_true]
theorem Neu.named {s:ByteArray}(h:Neu s) (hs:s.size≤64):xK s=true:=by
 unfold xK
 rw[h.valid,decide_eq_true hs];rfl
theorem Od:Neu ⟨#[115]⟩:=Neu.ascii (by decide)
theorem Vi:Neu ⟨#[114,111,111,116]⟩:=Neu.ascii (by decide)
theorem Oe:Neu ⟨#[120]⟩:=Neu.ascii (by decide)
theorem bB {i s:ByteArray}{f t v g:Int}{kid x:List UInt8}(hi:i=⟨#[]⟩∨i=⟨#[114,111,111,116]⟩∨i=⟨#[120]⟩) (hs:s.size≤9) (hn:Neu s) (hf:0≤f) (Mw:f<30) (ht:t=0∨(f≤t∧t<f+40)) (hv:v=4∨v=6)
  (hg:g=0∨g = -8) (hk:kid.length≤2) (hx:x.length=32):zB ⟨i,⟨#[115]⟩++s,f,t,⟨1,v,g,kid,x,[],[]⟩⟩=true:=by
 rw[wW]
 have Sz:xK i=true:=by
  rcases hi with rfl | rfl | rfl
  ·exact Neu.nil.named (by decide)
  ·exact Vi.named (by decide)
  exact Oe.named (by decide)
 have mK:((⟨#[115]⟩:ByteArray)++s).size=1+s.size:=by rw[ByteArray.size_append];rfl
 have lB:xK (⟨#[115]⟩++s)=true:=(Od.app hn).named (by omega)
 have xH:((⟨#[115]⟩:ByteArray)++s)≠⟨#[]⟩:=fun e=>by
  rw[e]at mK;have:(⟨#[]⟩:ByteArray).size=0:=rfl
  omega
 have Iu:xp ⟨1,v,g,kid,x,[],[]⟩=true:=by
  have h1:decide (kid.length≤16)=true:=decide_eq_true (by omega);have h2:decide (-65536≤g)=true:=decide_eq_true (by omega);have h3:decide (g≤65535)=true:=decide_eq_true (by omega);have h4:(decide (v=4)||decide (v=6))=true:=by rcases hv with rfl | rfl <;> rfl
  simp[xp,h1,h2,h3,h4,fb,hx]
 refine⟨Sz,lB,xH,hf,by show f≤1073741824;omega,by show 0≤t;omega,by show t≤1073741824;omega, ?_,Iu,rfl,by show 0<x.length;omega,rfl⟩
 show ¬ (0<t∧t<f)
 omega
end Go.Proofs.YtgcjjhibdbafmabGreatDoor
