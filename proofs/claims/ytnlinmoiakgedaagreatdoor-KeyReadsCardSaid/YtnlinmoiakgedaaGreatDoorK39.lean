/- squeezed. Walks: the small number of an item -/
import Derived.Test.YtnlinmoiakgedaaGreatDoorK38
set_option linter.unusedVariables false
set_option linter.unusedSimpArgs false
set_option maxRecDepth 100000
set_option maxHeartbeats 12800000
namespace Go.Proofs.YtnlinmoiakgedaaGreatDoor
open Go.RowKit
def dY (w:World) (r:Option Int) (e:Ending) (w':World):Prop :=
 (match r with | some v=>e=.returned (.tuple #[.int .i64 v,.bool true]) | none=>e=.returned (.tuple #[.int .i64 0,.bool false]))∧Below w.heap.size w w'
theorem kD {H:Snap}{k n:Int}{ba:Option Addr}{bl bc:Nat}{ia:Option Addr}{il ic:Nat}{x:Itm}(hx:ItemA H k n ba bl bc ia il ic x) (w:World) :
  Calls Tryz.prog 39 #[.agg #[.int .i64 k,.int .u64 n,.slice ba bl bc,.slice ia il ic]] w (dY w (nmP x)):=by
 obtain⟨rfl,rfl,rfl,rfl,_⟩:=hx;obtain⟨xk,xn,xb,xl⟩:=x
 simp only[Itm.kind,Itm.n,Itm.bytes,Itm.items]
 have hB:=Blk.new w 26 #[.int .i64 xk,.int .u64 (xn:Int),.slice ba xb.length bc,.slice ia xl.length ic];have hb:=zi w (.cells #[.int .i64 xk,.int .u64 (xn:Int),.slice ba xb.length bc,.slice ia xl.length ic] 26);have c0:=hB.cell 0 rfl;have c1:=hB.cell 1 rfl;clear hB
 by_cases h1:1048576<xn
 ·have E:Hid (nmP (.mk xk xn xb xl)=none):=by rw[Hid,nmP,if_pos h1]
  have i1:(1048576:Int)<(xn:Int):=by omega
  have MN:min (xn:Int) 1048576=1048576:=by omega
  have d1:decide ((1048576:Int)<(xn:Int))=true:=decide_eq_true i1;clear h1;go_enter Tryz.func39,Tryz.ntmps39
  go_wp2_with fail
  go_ret2
  rw[E.out]
  exact⟨rfl,hb⟩
 ·have i1:¬ (1048576:Int)<(xn:Int):=by omega
  have MN:min (xn:Int) 1048576=(xn:Int):=by omega
  have d1:decide ((1048576:Int)<(xn:Int))=false:=decide_eq_false i1;have W1:IntKind.i64.wrap (xn:Int)=(xn:Int):=IntWalk.i64_in _ (by omega);have W2:IntKind.i64.wrap (-1-(xn:Int)) = -1-(xn:Int):=IntWalk.i64_in _ (by omega)
  by_cases h0:xk=0
  ·subst h0;have E:Hid (nmP (.mk 0 xn xb xl)=some (xn:Int)):=by rw[Hid,nmP,if_neg h1,if_pos rfl]
   clear h1;go_enter Tryz.func39,Tryz.ntmps39
   go_wp2_with fail
   go_ret2
   rw[E.out]
   exact⟨rfl,hb⟩
  ·have b0:(xk==0)=false:=by rw[beq_eq_false_iff_ne];exact h0
   have p0:(xk=0)=False:=eq_false h0
   by_cases h2:xk=1
   ·subst h2;have E:Hid (nmP (.mk 1 xn xb xl)=some (-1-(xn:Int))):=by rw[Hid,nmP,if_neg h1,if_neg h0,if_pos rfl]
    clear h1 h0 b0 p0;go_enter Tryz.func39,Tryz.ntmps39
    go_wp2_with fail
    go_ret2
    rw[E.out]
    exact⟨rfl,hb⟩
   ·have b1:(xk==1)=false:=by rw[beq_eq_false_iff_ne];exact h2
    have p1:(xk=1)=False:=eq_false h2;have E:Hid (nmP (.mk xk xn xb xl)=none):=by rw[Hid,nmP,if_neg h1,if_neg h0,if_neg h2]
    clear h1 h0 h2;go_enter Tryz.func39,Tryz.ntmps39
    go_wp2_with fail
    go_ret2
    rw[E.out]
    exact⟨rfl,hb⟩
theorem sX {H:Snap}{k n:Int}{ba:Option Addr}{bl bc:Nat}{ia:Option Addr}{il ic:Nat}{x:Itm}(hx:ItemA H k n ba bl bc ia il ic x) (w:World) :
  Calls Tryz.prog 43 #[.agg #[.int .i64 k,.int .u64 n,.slice ba bl bc,.slice ia il ic]] w fun e w'=>e=.returned (.int .i64 (nmR x))∧Below w.heap.size w w':=by
 obtain⟨rfl,rfl,rfl,rfl,_⟩:=hx;obtain⟨xk,xn,xb,xl⟩:=x
 simp only[Itm.kind,Itm.n,Itm.bytes,Itm.items]
 have hB:=Blk.new w 26 #[.int .i64 xk,.int .u64 (xn:Int),.slice ba xb.length bc,.slice ia xl.length ic];have hb:=zi w (.cells #[.int .i64 xk,.int .u64 (xn:Int),.slice ba xb.length bc,.slice ia xl.length ic] 26);have c0:=hB.cell 0 rfl;have c1:=hB.cell 1 rfl;clear hB
 by_cases h1:1048576<xn
 ·have i1:(1048576:Int)<(xn:Int):=by omega
  have MN:min (xn:Int) 1048576=1048576:=by omega
  have d1:decide ((1048576:Int)<(xn:Int))=true:=decide_eq_true i1
  by_cases h2:xk=1
  ·subst h2;have E:Hid (nmR (.mk 1 xn xb xl) = -1048577):=by rw[Hid,nmR,if_pos rfl,show min xn 1048576=1048576 by omega];rfl
   clear h1;go_enter Tryz.func43,Tryz.ntmps43
   go_wp2_with fail
   go_ret
   exact⟨by rw[E.out];rfl,hb⟩
  ·have b1:(xk==1)=false:=by rw[beq_eq_false_iff_ne];exact h2
   have p1:(xk=1)=False:=eq_false h2;have E:Hid (nmR (.mk xk xn xb xl)=1048576):=by rw[Hid,nmR,if_neg h2,show min xn 1048576=1048576 by omega];rfl
   clear h1 h2;go_enter Tryz.func43,Tryz.ntmps43
   go_wp2_with fail
   go_ret
   exact⟨by rw[E.out];rfl,hb⟩
 ·have i1:¬ (1048576:Int)<(xn:Int):=by omega
  have MN:min (xn:Int) 1048576=(xn:Int):=by omega
  have d1:decide ((1048576:Int)<(xn:Int))=false:=decide_eq_false i1;have W1:IntKind.i64.wrap (xn:Int)=(xn:Int):=IntWalk.i64_in _ (by omega);have W2:IntKind.i64.wrap (-1-(xn:Int)) = -1-(xn:Int):=IntWalk.i64_in _ (by omega)
  by_cases h2:xk=1
  ·subst h2;have E:Hid (nmR (.mk 1 xn xb xl) = -1-(xn:Int)):=by rw[Hid,nmR,if_pos rfl,show min xn 1048576=xn by omega]
   clear h1;go_enter Tryz.func43,Tryz.ntmps43
   go_wp2_with fail
   go_ret
   exact⟨by rw[E.out];rfl,hb⟩
  ·have b1:(xk==1)=false:=by rw[beq_eq_false_iff_ne];exact h2
   have p1:(xk=1)=False:=eq_false h2;have E:Hid (nmR (.mk xk xn xb xl)=(xn:Int)):=by rw[Hid,nmR,if_neg h2,show min xn 1048576=xn by omega]
   clear h1 h2;go_enter Tryz.func43,Tryz.ntmps43
   go_wp2_with fail
   go_ret
   exact⟨by rw[E.out];rfl,hb⟩
def iH (q:Ky) (k n:Int):Option Ky :=
 if k=1 then some { q with kty:=n } else if k=3 then some { q with alg:=n } else if k = -1 then some { q with crv:=n } else none
def ko (q:Ky) (k:Int) (b:List UInt8):Option Ky :=
 if k=2 then some { q with kid:=b } else if k = -1 then some { q with k:=b } else if k = -2 then some { q with x:=b } else if k = -4 then some { q with d:=b } else none
def sn (q:Ky) (a v:Itm):Option Ky :=
 match nmP a with
 | none=>none
 | some k=>match nmP v with
  | some n=>iH q k n
  | none=>if v.kind=2 then ko q k v.bytes else none
def wV:Ky→List Itm→Option Ky
 | q,a::v::l=>match sn q a v with
  | none=>none
  | some q'=>wV q' l
 | q,_=>some q
def vo (q:Ky) (a v:Itm):Ky :=
 if nmR a=1 then { q with kty:=nmR v } else if nmR a=2 then { q with kid:=v.bytes } else if nmR a=3 then { q with alg:=nmR v }
 else if nmR a = -1 then { q with crv:=nmR v,k:=v.bytes } else if nmR a = -2 then { q with x:=v.bytes } else if nmR a = -4 then { q with d:=v.bytes } else q
def uk:Ky→List Itm→Ky
 | q,a::v::l=>uk (vo q a v) l
 | q,_=>q
theorem oG (q:Ky):wV q []=some q:=by simp[wV]
theorem oI (q:Ky):uk q []=q:=by simp[uk]
def wh:Ky:=⟨0,0,0,[],[],[],[]⟩
theorem kf {n:Int}(h1 : -1048577≤n) (h2:n≤1048576):nmP (zX n)=some n:=by
 unfold zX
 split
 ·rw[nmP,if_neg (by omega),if_neg (by omega),if_pos rfl];congr 1
  omega
 ·rw[nmP,if_neg (by omega),if_pos rfl];congr 1
  omega
theorem kg {n:Int}(h1 : -1048577≤n) (h2:n≤1048576):nmR (zX n)=n:=by
 unfold zX
 split
 ·rw[nmR,if_pos rfl]
  omega
 ·rw[nmR,if_neg (by omega)]
  omega
theorem cp (n:Int):(zX n).bytes=[]:=by unfold zX;split <;> rfl
theorem Xy (b:List UInt8):nmP (pw b)=none:=by
 rw[pw,nmP,if_neg (by omega),if_neg (by omega),if_neg (by omega)]
theorem oH (q q':Ky) (k n:Int) (l:List Itm) (tG : -1048577≤k) (sE:k≤1048576) (uy : -1048577≤n) (tb:n≤1048576) (h:iH q k n=some q'):wV q (zX k::zX n::l)=wV q' l:=by
 rw[wV,sn,kf tG sE]
 simp only[kf uy tb,h]
theorem dA (q q':Ky) (k:Int) (b:List UInt8) (l:List Itm) (tG : -1048577≤k) (sE:k≤1048576) (h:ko q k b=some q'):wV q (zX k::pw b::l)=wV q' l:=by
 rw[wV,sn,kf tG sE];have e:(pw b).kind=2:=rfl;have e2:(pw b).bytes=b:=rfl
 simp only[Xy,e,if_true,e2,h]
theorem qZ (q q':Ky) (k:Int) (b:List UInt8) (l:List Itm) (tG : -1048577≤k) (sE:k≤1048576) (h:ko q k b=some q') (h0:b=[]→q'=q):wV q (rg k b++l)=wV q' l:=by
 unfold rg
 split
 ·exact dA q q' k b l tG sE h
 ·rename_i hb
  have:b=[]:=by cases b with
   | nil=>rfl
   | cons _ _=>simp at hb
  rw[h0 this];rfl
theorem oJ (q:Ky) (k n:Int) (l:List Itm):uk q (zX k::zX n::l)=uk (vo q (zX k) (zX n)) l:=rfl
theorem qe (q q':Ky) (k:Int) (b:List UInt8) (l:List Itm) (h:vo q (zX k) (pw b)=q') (h0:b=[]→q'=q):uk q (rg k b++l)=uk q' l:=by
 unfold rg
 split
 ·show uk (vo q (zX k) (pw b)) l=_
  rw[h]
 ·rename_i hb
  have:b=[]:=by cases b with
   | nil=>rfl
   | cons _ _=>simp at hb
  rw[h0 this];rfl
theorem jE {b:List UInt8}(h:b.length=0):b=[]:=List.eq_nil_of_length_eq_zero h
theorem qV {q:Ky}(h:xF q=true):wV wh (xo q)=some q:=by
 have hv:=(uY q).1 h;obtain⟨kty,crv,alg,kid,x,d,k⟩:=q
 simp only at hv
 have ha:wV wh (xo ⟨kty,crv,alg,kid,x,d,k⟩)=wV ⟨kty,0,alg,kid,[],[],[]⟩ (if kty=4 then rg (-1) k else [zX (-1),zX crv]++rg (-2) x++rg (-4) d):=by
  unfold xo
  simp only[List.append_assoc,List.cons_append,List.nil_append]
  rw[oH wh ⟨kty,0,0,[],[],[],[]⟩ 1 kty _ (by omega) (by omega) (by omega) (by omega) rfl];rw[qZ ⟨kty,0,0,[],[],[],[]⟩ ⟨kty,0,0,kid,[],[],[]⟩ 2 kid _ (by omega) (by omega) rfl (fun e=>by rw[e])]
  split
  ·rename_i h0
   rw[h0];rfl
  ·rw[List.cons_append,List.cons_append,List.nil_append];rw[oH ⟨kty,0,0,kid,[],[],[]⟩ ⟨kty,0,alg,kid,[],[],[]⟩ 3 alg _ (by omega) (by omega) (by omega) (by omega) rfl]
 rw[ha]
 rcases hv.2.2.2 with ⟨h1,hc,hx,hd,h0,hk⟩ | ⟨h4,hc,hxd,tG,sE⟩
 ·rw[if_neg (by omega)];obtain rfl:=jE hk
  simp only[List.append_assoc,List.cons_append,List.nil_append]
  rw[oH _ ⟨kty,crv,alg,kid,[],[],[]⟩ (-1) crv _ (by omega) (by omega) (by omega) (by omega) rfl];rw[qZ _ ⟨kty,crv,alg,kid,x,[],[]⟩ (-2) x _ (by omega) (by omega) rfl (fun e=>by rw[e])];have:=qZ ⟨kty,crv,alg,kid,x,[],[]⟩ ⟨kty,crv,alg,kid,x,d,[]⟩ (-4) d [] (by omega) (by omega) rfl (fun e=>by rw[e]);rw[List.append_nil]at this;rw[this,oG]
 ·rw[if_pos h4];obtain rfl:=jE (show x.length=0 by omega);obtain rfl:=jE (show d.length=0 by omega);have:=qZ ⟨kty,0,alg,kid,[],[],[]⟩ ⟨kty,0,alg,kid,[],[],k⟩ (-1) k [] (by omega) (by omega) rfl (fun e=>by rw[e]);rw[List.append_nil]at this;rw[this,oG,hc]
theorem oK (q:Ky) (k n:Int) (tG : -1048577≤k) (sE:k≤1048576) (uy : -1048577≤n) (tb:n≤1048576):vo q (zX k) (zX n) =
  if k=1 then { q with kty:=n } else if k=2 then { q with kid:=[] } else if k=3 then { q with alg:=n }
  else if k = -1 then { q with crv:=n,k:=[] } else if k = -2 then { q with x:=[] } else if k = -4 then { q with d:=[] } else q:=by
 unfold vo
 rw[kg tG sE,kg uy tb,cp]
theorem qf (q:Ky) (k:Int) (b:List UInt8) (tG : -1048577≤k) (sE:k≤1048576):vo q (zX k) (pw b) =
  if k=1 then { q with kty:=0 } else if k=2 then { q with kid:=b } else if k=3 then { q with alg:=0 }
  else if k = -1 then { q with crv:=0,k:=b } else if k = -2 then { q with x:=b } else if k = -4 then { q with d:=b } else q:=by
 unfold vo
 rw[kg tG sE,show nmR (pw b)=0 by rw[pw,nmR,if_neg (by omega)];simp];rfl
theorem gl {q:Ky}(h:xF q=true):uk wh (xo q)=q:=by
 have hv:=(uY q).1 h;obtain⟨kty,crv,alg,kid,x,d,k⟩:=q
 simp only at hv
 have ha:uk wh (xo ⟨kty,crv,alg,kid,x,d,k⟩)=uk ⟨kty,0,alg,kid,[],[],[]⟩ (if kty=4 then rg (-1) k else [zX (-1),zX crv]++rg (-2) x++rg (-4) d):=by
  unfold xo
  simp only[List.append_assoc,List.cons_append,List.nil_append]
  rw[oJ,oK _ _ _ (by omega) (by omega) (by omega) (by omega),if_pos rfl];rw[qe _ ⟨kty,0,0,kid,[],[],[]⟩ 2 kid _ (by rw[qf _ _ _ (by omega) (by omega),if_neg (by omega),if_pos rfl];rfl) (fun e=>by rw[e];rfl)]
  split
  ·rename_i h0
   rw[h0];rfl
  ·rw[List.cons_append,List.cons_append,List.nil_append];rw[oJ,oK _ _ _ (by omega) (by omega) (by omega) (by omega),if_neg (by omega),if_neg (by omega),if_pos rfl]
 rw[ha]
 rcases hv.2.2.2 with ⟨h1,hc,hx,hd,h0,hk⟩ | ⟨h4,hc,hxd,tG,sE⟩
 ·rw[if_neg (by omega)];obtain rfl:=jE hk
  simp only[List.append_assoc,List.cons_append,List.nil_append]
  rw[oJ,oK _ _ _ (by omega) (by omega) (by omega) (by omega),if_neg (by omega),if_neg (by omega),if_neg (by omega),if_pos rfl];rw[qe _ ⟨kty,crv,alg,kid,x,[],[]⟩ (-2) x _ (by rw[qf _ _ _ (by omega) (by omega),if_neg (by omega),if_neg (by omega),if_neg (by omega),if_neg (by omega),if_pos rfl]) (fun e=>by rw[e])];have:=qe ⟨kty,crv,alg,kid,x,[],[]⟩ ⟨kty,crv,alg,kid,x,d,[]⟩ (-4) d [] (by rw[qf _ _ _ (by omega) (by omega),if_neg (by omega),if_neg (by omega),if_neg (by omega),if_neg (by omega),if_neg (by omega),if_pos rfl]) (fun e=>by rw[e]);rw[List.append_nil]at this;rw[this,oI]
 ·rw[if_pos h4];obtain rfl:=jE (show x.length=0 by omega);obtain rfl:=jE (show d.length=0 by omega);have:=qe ⟨kty,0,alg,kid,[],[],[]⟩ ⟨kty,0,alg,kid,[],[],k⟩ (-1) k [] (by rw[qf _ _ _ (by omega) (by omega),if_neg (by omega),if_neg (by omega),if_neg (by omega),if_pos rfl]) (fun e=>by rw[e]);rw[List.append_nil]at this;rw[this,oI,hc]
theorem aC {p q:Ky}(hp:xF p=true) (hq:xF q=true) (h:tu p=tu q):p=q:=by
 have h2:xo p=xo q:=congrArg Itm.items h;have h3:=qV hp;rw[h2,qV hq]at h3
 exact(Option.some.inj h3).symm
def sm (x:Itm) (q:Ky):Prop:=xF q=true∧tu q=x
theorem oF {x:Itm}{q:Ky}(h:sm x q):wV wh x.items=some q:=by rw[← h.2];exact qV h.1
theorem kE {x:Itm}{q:Ky}(h:sm x q):uk wh x.items=q:=by rw[← h.2];exact gl h.1
theorem Ways.three {P:Program}{ops:Array Oper}{Q:Exit→Act→World→Prop}{md:Region.Mode}{S:World→Prop}{z:Nat}{i j l:Nat}{o o' o2:Oper}{n:Nat}{L:Array Bool}{a:Act}{w:World}(hi:ops[i]? = some o) (hj:ops[j]? = some o') (hl:ops[l]? = some o2) (hr:Region.ready md ops L=[i,j,l])
  (h:∀ K:Act→World→Prop,Shut (∀ a w,(i≠z→S w)→((i≠z→S w)→Ways P md ops Q S z n (L.setIfInBounds i true) a w)→K a w)→
   if Region.wanted o (yielded ops a.tmps)=true then Oper.wp P o a w K Q else K (a.put o.dst undef) w)
  (h':∀ K:Act→World→Prop,Shut (∀ a w,(j≠z→S w)→((j≠z→S w)→Ways P md ops Q S z n (L.setIfInBounds j true) a w)→K a w)→
   if Region.wanted o' (yielded ops a.tmps)=true then Oper.wp P o' a w K Q else K (a.put o'.dst undef) w)
  (h2:∀ K:Act→World→Prop,Shut (∀ a w,(l≠z→S w)→((l≠z→S w)→Ways P md ops Q S z n (L.setIfInBounds l true) a w)→K a w)→
   if Region.wanted o2 (yielded ops a.tmps)=true then Oper.wp P o2 a w K Q else K (a.put o2.dst undef) w):Ways P md ops Q S z (n+1) L a w:=by
 refine⟨fun h0=>(by rw[hr]at h0;cases h0),fun k hk=>?_⟩
 rw[hr]at hk
 rcases(by simpa using hk:k=i∨k=j∨k=l) with hk | hk | hk
 ·subst hk
  exact wpOp_step hi fun K hK=>h K fun a w hS hW=>hK a w ⟨hS,hW hS⟩
 ·subst hk
  exact wpOp_step hj fun K hK=>h' K fun a w hS hW=>hK a w ⟨hS,hW hS⟩
 ·subst hk
  exact wpOp_step hl fun K hK=>h2 K fun a w hS hW=>hK a w ⟨hS,hW hS⟩
structure KN (W0:World) (H:Snap) (R K:Nat) (kc:Array Value) (w:World) (Hr:Snap):Prop where
 grows:Grows W0 H w Hr
 res:Blk w R 33 vp
 key:Blk w K 33 kc
 hR:Hr R=none
 hK:Hr K=none
 neRK:R≠K
 wR:W0.heap.size≤R
 wK:W0.heap.size≤K
section
variable {W0 w w':World} {H Hr Hs:Snap} {R K:Nat} {kc kc':Array Value}
theorem KN.grow (h:KN W0 H R K kc w Hr) (k:Grows w Hr w' Hs):KN W0 H R K kc w' Hs :=
 ⟨h.grows.trans k,h.res.below k.below,h.key.below k.below,k.none h.hR h.res.lt,k.none h.hK h.key.lt,h.neRK,h.wR,h.wK⟩
theorem KN.below (h:KN W0 H R K kc w Hr) (k:Below w.heap.size w w'):KN W0 H R K kc w' Hr:=h.grow (Grows.of_below h.grows.holds k)
theorem KN.alloc (h:KN W0 H R K kc w Hr) (o:Obj):KN W0 H R K kc (w.alloc o) Hr:=h.below (zi w o)
theorem KN.set (h:KN W0 H R K kc w Hr) (hB:Blk w' K 33 kc') (hg:w.grownBy w' (some K)):KN W0 H R K kc' w' Hr :=
 ⟨h.grows.grownOwn h.hK h.wK hg,h.res.grown hg (fun e=>by injection e with e;exact h.neRK e.symm),hB,h.hR,h.hK,h.neRK,h.wR,h.wK⟩
end
theorem Xi {H:Snap}(hTab:Tabs H) {x y:Itm}{xa:Option Addr}{xb:Nat}{xc:Option Addr}{xd:Nat}{ya:Option Addr}{yb:Nat}{yc:Option Addr}{yd:Nat}(hx:IsItem H xa xb xc xd x) (hy:IsItem H ya yb yc yd y)
  (hvx:yW x=true) (hvy:yW y=true) (w:World) (hH:Holds w H) :
  Calls Tryz.prog 42 #[xN x xa xb xc xd,xN y ya yb yc yd] w fun e w'=>e=.returned (.int .i64 (Lib.compareBytes (zd x) (zd y)))∧Below w.heap.size w w':=by
 have hX:=(Blk.new w 26 #[.int .i64 x.kind,.int .u64 x.n,.slice xa x.bytes.length xb,.slice xc x.items.length xd]).alloc (zW y ya yb yc yd);have hY:=Blk.new (w.alloc (zW x xa xb xc xd)) 26 #[.int .i64 y.kind,.int .u64 y.n,.slice ya y.bytes.length yb,.slice yc y.items.length yd];rw[zV]at hY;have hG:=((Grows.refl hH).alloc (zW x xa xb xc xd)).alloc (zW y ya yb yc yd);have HV:=Hh (And.intro hvx hvy);have HX:=Hh (And.intro (uW hvx) (uW hvy));have HT:=Hh hTab;have HI:=Hh (And.intro hx hy);have a0:=hX.cell 0 rfl;have a1:=hX.cell 1 rfl;have a2:=hX.cell 2 rfl;have a3:=hX.cell 3 rfl;clear hvx hvy hTab hx hy hH;go_enter Tryz.func42,Tryz.ntmps42
 go_wp2_with fail
 refine(tN HT.out HI.out.1.arg _ hG.holds).mono ?_
 rintro e w1 ⟨rfl,vg⟩
 rw[HV.out.1];replace hX:=hX.below vg;replace hY:=hY.below vg;replace hG:=hG.below_ vg;clear vg a0 a1 a2 a3;have b0:=hY.cell 0 rfl;have b1:=hY.cell 1 rfl;have b2:=hY.cell 2 rfl;have b3:=hY.cell 3 rfl;go_wp2_with fail
 refine(tN HT.out HI.out.2.arg _ hG.holds).mono ?_
 rintro e w2 ⟨rfl,wg⟩
 rw[HV.out.2];replace hX:=hX.below wg;replace hY:=hY.below wg;replace hG:=hG.below_ wg;clear wg b0 b1 b2 b3;go_upto_region 3 with fail
 replace hX:=hX.drew;replace hY:=hY.drew;replace hG:=hG.drew
 refine yt 5 (fun wx=>(wx.cell? ⟨w.heap.size,0,none⟩=some (.int .i64 x.kind)∧wx.cell? ⟨w.heap.size,1,none⟩=some (.int .u64 x.n)∧wx.cell? ⟨w.heap.size,2,none⟩=some (.slice xa x.bytes.length xb)∧wx.cell? ⟨w.heap.size,3,none⟩=some (.slice xc x.items.length xd))∧(wx.cell? ⟨w.heap.size+1,0,none⟩=some (.int .i64 y.kind)∧wx.cell? ⟨w.heap.size+1,1,none⟩=some (.int .u64 y.n)∧wx.cell? ⟨w.heap.size+1,2,none⟩=some (.slice ya y.bytes.length yb)∧wx.cell? ⟨w.heap.size+1,3,none⟩=some (.slice yc y.items.length yd))) (by kernel_rfl) (⟨⟨hX.cell 0 rfl,hX.cell 1 rfl,hX.cell 2 rfl,hX.cell 3 rfl⟩,⟨hY.cell 0 rfl,hY.cell 1 rfl,hY.cell 2 rfl,hY.cell 3 rfl⟩⟩) (fun zy=>?_)
 refine Zk 0 rfl zy ?_
 refine Zk 2 rfl zy ?_
 refine Zo 1 rfl fun K hK=>?_
 go_simp
 refine(rL x H _ _ _ _ _ _ _ _ _ _ (.slice none 0 0) [] HX.out.1.1 HI.out.1.arg hG.holds (OwnB.nil _ _) (Nat.le_refl _) (by simp[Value.ownBlock]) (by have:=HX.out.1.2.2;simp;omega)).mono ?_
 rintro e w5 ⟨r5,rfl,s9,sp,uD⟩
 have ow:=yo sp;obtain⟨A5,c5,rfl,mH,Lr,Qi⟩:=OwnB.form s9;replace hX:=hX.below ow;replace hY:=hY.below ow;replace hG:=hG.below_ ow;clear s9 sp ow uD mH Lr
 refine hK.out _ _ (fun _=>?_) (fun zy=>?_)
 ·exact⟨⟨hX.cell 0 rfl,hX.cell 1 rfl,hX.cell 2 rfl,hX.cell 3 rfl⟩,⟨hY.cell 0 rfl,hY.cell 1 rfl,hY.cell 2 rfl,hY.cell 3 rfl⟩⟩
 clear hK K;have zy:=zy (by decide)
 try simp only[Act.put,zz1,zz2,zz3,zz4,zz5,zz6]
 refine Zo 3 rfl fun K hK=>?_
 go_simp
 refine(rL y H _ _ _ _ _ _ _ _ _ _ (.slice none 0 0) [] HX.out.2.1 HI.out.2.arg hG.holds (OwnB.nil _ _) (Nat.le_refl _) (by simp[Value.ownBlock]) (by have:=HX.out.2.2.2;simp;omega)).mono ?_
 rintro e w6 ⟨r6,rfl,sC,tF,uD⟩
 have wQ:=yo tF;obtain⟨A6,c6,rfl,Ln,Ls,Qj⟩:=OwnB.form sC;replace hX:=hX.below wQ;replace hY:=hY.below wQ;replace Qi:=Qi.below wQ;replace hG:=hG.below_ wQ;clear sC tF wQ uD Ln Ls
 refine hK.out _ _ (fun _=>?_) (fun zy=>?_)
 ·exact⟨⟨hX.cell 0 rfl,hX.cell 1 rfl,hX.cell 2 rfl,hX.cell 3 rfl⟩,⟨hY.cell 0 rfl,hY.cell 1 rfl,hY.cell 2 rfl,hY.cell 3 rfl⟩⟩
 clear hK K;have zy:=zy (by decide)
 try simp only[Act.put,zz1,zz2,zz3,zz4,zz5,zz6]
 refine Zo 4 rfl fun K hK=>?_
 go_simp
 refine(tH _ A5 A6 (zd x) (zd y) _ _ c5 c6 rfl rfl Qi Qj).mono ?_
 rintro e w7 ⟨rfl,rfl⟩
 refine hK.out _ _ (fun _=>?_) (fun zy=>?_)
 ·exact⟨⟨hX.cell 0 rfl,hX.cell 1 rfl,hX.cell 2 rfl,hX.cell 3 rfl⟩,⟨hY.cell 0 rfl,hY.cell 1 rfl,hY.cell 2 rfl,hY.cell 3 rfl⟩⟩
 clear hK K;have zy:=zy (by decide)
 try simp only[Act.put,zz1,zz2,zz3,zz4,zz5,zz6]
 refine Zo 5 rfl fun K hK=>?_
 go_simp
 refine hK.out _ _ (fun h=>absurd h (by decide)) (fun _=>?_)
 clear hK K
 try simp only[Act.put,zz1,zz2,zz3,zz4,zz5,zz6]
 refine WaysZ.done (by kernel_rfl) ?_
 clear zy;go_wp2_with fail
 go_ret
 exact⟨rfl,hG.below⟩
theorem KN.far {W0 w w':World}{H Hr:Snap}{R K b:Nat}{kc:Array Value}(h:KN W0 H R K kc w Hr) (hg:w.grownBy w' (some b)) (hn:Hr b=none) (hb:W0.heap.size≤b) (h1:b≠R) (h2:b≠K):KN W0 H R K kc w' Hr :=
 ⟨h.grows.grownOwn hn hb hg,h.res.grown hg (fun e=>by injection e with e;exact h1 e),h.key.grown hg (fun e=>by injection e with e;exact h2 e),h.hR,h.hK,h.neRK,h.wR,h.wK⟩
def Yn (K:Nat):List (Int×Value):=[(1,.pointer (some ⟨K,0,none⟩)),(3,.pointer (some ⟨K,2,none⟩)),(-1,.pointer (some ⟨K,1,none⟩))]
def mY (K:Nat):List (Int×Value):=[(2,.pointer (some ⟨K,3,none⟩)),(-1,.pointer (some ⟨K,6,none⟩)),(-2,.pointer (some ⟨K,4,none⟩)),(-4,.pointer (some ⟨K,5,none⟩))]
structure FM (W0:World) (H:Snap) (R K M1 M2:Nat) (xc kc:Array Value) (w:World) (Hr:Snap):Prop where
 kn:KN W0 H R K kc w Hr
 box:Blk w W0.heap.size 26 xc
 m1:MapIs w M1 (Yn K)
 m2:MapIs w M2 (mY K)
 n1:K≠M1
 n2:K≠M2
 nb:K≠W0.heap.size
section
variable {W0 w w':World} {H Hr Hs:Snap} {R K M1 M2:Nat} {xc kc kc':Array Value}
theorem FM.grow (h:FM W0 H R K M1 M2 xc kc w Hr) (k:Grows w Hr w' Hs):FM W0 H R K M1 M2 xc kc w' Hs :=
 ⟨h.kn.grow k,h.box.below k.below,h.m1.below k.below,h.m2.below k.below,h.n1,h.n2,h.nb⟩
theorem FM.below (h:FM W0 H R K M1 M2 xc kc w Hr) (k:Below w.heap.size w w'):FM W0 H R K M1 M2 xc kc w' Hr:=h.grow (Grows.of_below h.kn.grows.holds k)
theorem FM.alloc (h:FM W0 H R K M1 M2 xc kc w Hr) (o:Obj):FM W0 H R K M1 M2 xc kc (w.alloc o) Hr:=h.below (zi w o)
theorem FM.set (h:FM W0 H R K M1 M2 xc kc w Hr) (hB:Blk w' K 33 kc') (hg:w.grownBy w' (some K)):FM W0 H R K M1 M2 xc kc' w' Hr :=
 ⟨h.kn.set hB hg,h.box.grown hg (fun e=>by injection e with e;exact h.nb e),h.m1.grown hg (fun e=>by injection e with e;exact h.n1 e),h.m2.grown hg (fun e=>by injection e with e;exact h.n2 e),h.n1,h.n2,h.nb⟩
end
end Go.Proofs.YtnlinmoiakgedaaGreatDoor
