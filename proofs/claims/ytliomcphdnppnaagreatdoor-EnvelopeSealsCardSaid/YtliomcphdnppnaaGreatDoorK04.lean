/- squeezed. The two readings of header paramet -/
import Derived.Test.YtliomcphdnppnaaGreatDoorK01
import Derived.Laws.Externs
import Derived.Laws.FloatArith
import Derived.Shelf.Unicode.ValidAny
import Derived.Deep.QuietTactic
set_option linter.unusedVariables false
set_option linter.unusedSimpArgs false
set_option maxRecDepth 100000
set_option maxHeartbeats 8000000
namespace Go.Proofs.YtliomcphdnppnaaGreatDoor
open Go.RowKit
mutual
def Nums:Itm→Prop
 | .mk _ n _ l=>n<18446744073709551616∧NumsL l
def NumsL:List Itm→Prop
 | []=>True
 | x::l=>Nums x∧NumsL l
end
theorem Nums.n_ {x:Itm}(h:Nums x):x.n<18446744073709551616:=by cases x;rw[Nums]at h;exact h.1
theorem Nums.items {x:Itm}(h:Nums x):NumsL x.items:=by cases x;rw[Nums]at h;exact h.2
theorem NumsL.get:∀ {l:List Itm},NumsL l→∀ x∈l,Nums x
 | [],_,x,hx=>by cases hx
 | y::l,h,x,hx=>by
  rw[NumsL]at h
  rcases List.mem_cons.1 hx with rfl | hx
  ·exact h.1
  exact h.2.get x hx
theorem NumsL.of:∀ {l:List Itm},(∀ x∈l,Nums x)→NumsL l
 | [],_=>by rw[NumsL];trivial
 | y::l,h=>by
  rw[NumsL]
  exact⟨h y (by simp),NumsL.of fun x hx=>h x (by simp[hx])⟩
mutual
theorem IsItem.nums {H:Snap}:∀ {x:Itm}{ba:Option Addr}{bc:Nat}{ia:Option Addr}{ic:Nat},IsItem H ba bc ia ic x→Nums x
 | .mk k n bs l,ba,bc,ia,ic,h=>by
  rw[IsItem]at h;rw[Nums]
  refine⟨h.1.2.2.1, ?_⟩
  by_cases h0:0<l.length
  ·obtain⟨b,off,_,he⟩:=h.2.2 h0
   exact IsElems.nums he
  have:l=[]:=List.eq_nil_of_length_eq_zero (by omega);subst this;rw[NumsL];trivial
theorem IsElems.nums {H:Snap}:∀ {l:List Itm}{b off:Nat},IsElems H b off l→NumsL l
 | [],_,_,_=>by rw[NumsL];trivial
 | x::l,b,off,h=>by
  rw[IsElems]at h;obtain⟨⟨ba,bc,ia,ic,_,_,_,_,hx⟩,hr⟩:=h;rw[NumsL]
  exact⟨IsItem.nums hx,IsElems.nums hr⟩
end
theorem ep:∀ {l:List Itm}{x:Itm},x∈l→cnt x≤yQ l
 | [],x,h=>by cases h
 | y::l,x,h=>by
  rw[yQ]
  rcases List.mem_cons.1 h with rfl | h
  ·omega
  have:=ep h;omega
theorem o0:∀ {l:List Itm}{x:Itm},x∈l→(zh x).length≤(zM l).length
 | [],x,h=>by cases h
 | y::l,x,h=>by
  rw[zM,List.length_append]
  rcases List.mem_cons.1 h with rfl | h
  ·omega
  have:=o0 h;omega
theorem wS {m x:Itm}(h:zX m=true) (hx:x∈m.items):zX x=true:=by
 rw[yp]at h⊢;obtain⟨h1,h2,h3⟩:=h
 refine⟨(h1.items.get x hx).le (by omega), ?_, ?_⟩
 ·have:=ep hx;have:=gS m;omega
 have:=o0 hx;have:=pq h1.node;omega
theorem kU {x:Itm}(h:zX x=true) (hn:Nums x):Num x:=by
 rw[yp]at h;have h1:=pq h.1.node;have h2:=pi h.1.node
 exact⟨hn.n_,by omega⟩
theorem Xe:∀ (l:List Itm) (a b:Itm),xY (a::b::l)=true→∀ q∈ze l,Lib.compareBytes (zh a) (zh q.1)<0
 | [],a,b,_,q,hq=>by rw[ze]at hq;cases hq;intro _ _ _ h;cases h
 | [_],a,b,_,q,hq=>by rw[ze]at hq;cases hq;intro _ _ _ h;cases h
 | c::d::r,a,b,h,q,hq=>by
  rw[xY,Bool.and_eq_true,decide_eq_true_eq]at h;rw[ze]at hq
  rcases List.mem_cons.1 hq with rfl | hq
  ·exact h.1
  exact sx _ _ _ h.1 (Xe r c d h.2 q hq)
theorem iA {a b:Itm}{l:List Itm}(h:xY (a::b::l)=true):xY l=true:=by
 match l with
 | []=>rfl
 | c::r=>rw[xY,Bool.and_eq_true]at h;exact h.2
theorem ei:∀ (l:List Itm),xY l=true→∀ k v v',(k,v)∈ze l→(k,v')∈ze l→v=v'
 | [],_,k,v,v',h,_=>by rw[ze]at h;cases h;intro _ _ _ h;cases h
 | [_],_,k,v,v',h,_=>by rw[ze]at h;cases h;intro _ _ _ h;cases h
 | a::b::r,ha,k,v,v',h,h'=>by
  rw[ze]at h h';have zB:=Xe r a b ha
  rcases List.mem_cons.1 h with e | m
  ·injection e with h1 h2
   rcases List.mem_cons.1 h' with e' | m'
   ·injection e' with _ h3
    rw[h2,h3]
   have hz:=zB _ m'
   simp only at hz
   rw[← h1,sX]at hz
   omega
  rcases List.mem_cons.1 h' with e' | m'
  ·injection e' with h1 h2
   have hz:=zB _ m
   simp only at hz
   rw[← h1,sX]at hz
   omega
  exact ei r (iA ha) k v v' m m'
theorem kD {α:Type}{p q:α→Bool}:∀ {l:List α},(∀ x∈l,p x=q x)→l.find? p=l.find? q
 | [],_=>rfl
 | a::l,h=>by
  rw[List.find?_cons,List.find?_cons,h a (by simp),kD fun x hx=>h x (by simp[hx])]
theorem o1 {m x:Itm}(h5:m.kind=5) (hm:zX m=true) (hn:Nums m) (hl:∀ q∈ze m.items,vz q.1=true) (hx:zX x=true) (nx:Nums x):yt m x=atL x m.items:=by
 rw[yt,if_pos ⟨h5,hm,hx⟩,mW,rS,kD]
 intro q hq
 have hv:=wS hm (xK hq).1;have hg:=((yp _).1 hv).1;rw[Bool.eq_iff_iff,decide_eq_true_eq,vy];constructor
 ·intro h
  exact ZS hg ((yp _).1 hx).1 (hl q hq) (kU hv (hn.items.get _ (xK hq).1)) (kU hx nx) h
 intro h;rw[h]
def lL (v:Itm) (m:List Itm):Bool:=v.kind==4&&decide (0<v.items.length)&&v.items.all fun x=>(atL x m).isSome
theorem qq {a b:Itm}(h:vr a b=true):vz a=true:=by
 unfold vr at h
 unfold vz
 by_cases h3:a.kind=3
 ·simp[h3]
 rw[if_neg h3]at h
 cases hn:wh a with
 | true=>simp
 | false=>rw[hn]at h;simp at h
theorem rX {a:Itm}(j:Nat) (h:a.kind≠0):yu a (zg (j:Int))=false:=by
 cases hs:yu a (zg (j:Int)) with
 | false=>rfl
 | true =>
 rw[vy]at hs;rw[hs,vb]at h
 exact absurd rfl h
theorem sS {a b:Itm}{m:List Itm}{lv:Nat}(hg:Good a lv) (hl:vz a=true):wu a b m=true↔vr a b=true∧(a=zg 2→lL b m=true):=by
 have j1:(1:Int)=((1:Nat):Int):=rfl;have j2:(2:Int)=((2:Nat):Int):=rfl;have j4:(4:Int)=((4:Nat):Int):=rfl;have j5:(5:Int)=((5:Nat):Int):=rfl;have j6:(6:Int)=((6:Nat):Int):=rfl;have j12:(12:Int)=((12:Nat):Int):=rfl
 by_cases h0:a.kind=0
 ·have hp:=(zL a).2 (by omega);have ho:yv a=true:=by rcases yU hg.node with ⟨_,h⟩ | ⟨h,_⟩;exact h;rw[hp]at h;cases h
  obtain⟨k,n,bs,l⟩:=a
  simp only[Itm.kind]at h0
  subst h0
  simp[yv,Itm.kind,Itm.bytes,Itm.items]at ho
  obtain⟨rfl,rfl⟩:=ho
  have hn:n≤65535:=by
   by_cases hn:n≤65535
   ·exact hn
   exfalso;simp[vz,wh,Itm.kind,Itm.n,hn]at hl
  have hs:∀ j:Nat,yu (.mk 0 n [] []) (zg (j:Int))=decide (n=j):=by
   intro j
   rw[Bool.eq_iff_iff,vy,vb,decide_eq_true_eq]
   simp
  have he:(Itm.mk 0 n [] []=zg 2)↔n=2:=by
   rw[j2,vb];simp
  unfold wu vr
  rw[j1,j2,j4,j5,j6,j12,hs,hs,hs,hs,hs,hs,← j2,he];obtain⟨bk,bn,bb,bi⟩:=b
  simp only[Itm.kind,Itm.n,Itm.items,wh,decide_eq_true_eq,lL]
  by_cases n1:n=1
  ·subst n1
   by_cases b0:bk=0
   ·subst b0
    by_cases b1:bn=0
    ·simp[b1]
    have:0<bn:=by omega
    simp[b1,this]
   by_cases b1:bk=1 <;> simp[b0,b1]
  by_cases n2:n=2
  ·subst n2
   simp
  simp[n1,n2,hn]
  by_cases n4:n=4
  ·subst n4;simp
  by_cases n5:n=5
  ·subst n5;simp
  by_cases n6:n=6
  ·subst n6;simp
  by_cases n12:n=12
  ·subst n12;simp
  simp[n4,n5,n6,n12]
 have xg:a≠zg 2:=by
  intro h
  rw[h,j2,vb]at h0
  exact h0 rfl
 have hv:wu a b m=true:=by
  unfold wu
  rw[j1,j2,j4,j5,j6,j12,rX 1 h0,rX 2 h0,rX 4 h0,rX 5 h0,rX 6 h0,rX 12 h0]
  simp
 have hp:vr a b=true:=by
  unfold vr
  by_cases h3:a.kind=3
  ·rw[if_pos h3]
  have hn:wh a=true:=by simpa [vz,h3] using hl
  have h1:a.kind=1:=by
   simp only[wh,Bool.and_eq_true,Bool.or_eq_true,beq_iff_eq]at hn
   omega
  rw[if_neg h3,if_neg (by simp[hn]),if_pos h1]
 rw[hv,hp]
 simp[xg]
theorem qr {p u:Itm}(np:Nums p) (nu:Nums u):yC p u=zV p u:=by
 rw[Bool.eq_iff_iff];have E2:zg 2=zg ((2:Nat):Int):=rfl;have N2:∀ j:Nat,j<100→Nums (zg (j:Int)):=fun j hj=>by rw[vb,Nums,NumsL];exact⟨by omega,trivial⟩
 have core:∀ (Vs:p.kind=5) (Tj:u.kind=5) (vp:zX p=true) (vu:zX u=true) (lp:∀ q∈ze p.items,vz q.1=true) (lu:∀ q∈ze u.items,vz q.1=true),
   (yC p u=true↔zV p u=true):=by
  intro Vs Tj vp vu lp lu
  have fp:∀ x,zX x=true→Nums x→yt p x=atL x p.items:=fun x hx nx=>o1 Vs vp np lp hx nx
  have fu:∀ x,zX x=true→Nums x→yt u x=atL x u.items:=fun x hx nx=>o1 Tj vu nu lu hx nx
  have F:∀ j:Nat,j<100→vO p u (j:Int)=xQ p u (j:Int):=by
   intro j hj
   rw[vO,xQ,fp _ (wQ j) (N2 j hj),fu _ (wQ j) (N2 j hj)]
   all_goals (cases atL (zg (j:Int)) p.items <;> rfl)
  have F5:=F 5 (by omega);have F6:=F 6 (by omega)
  simp only[Int.cast_ofNat_Int]at F5 F6
  have gp:∀ q∈ze p.items,Good q.1 1:=fun q hq=>((yp _).1 vp).1.items.get _ (xK hq).1
  have gu:∀ q∈ze u.items,Good q.1 1:=fun q hq=>((yp _).1 vu).1.items.get _ (xK hq).1
  have C:oF p=true↔∀ q∈ze p.items,q.1=zg 2→lL q.2 p.items=true:=by
   have vD:∀ c:Itm,c∈p.items→(c.items.all fun x=>(yt p x).isSome)=c.items.all fun x=>(atL x p.items).isSome:=by
    intro c hc
    rw[Bool.eq_iff_iff,List.all_eq_true,List.all_eq_true];constructor
    ·intro h x hx
     rw[← fp x (wS (wS vp hc) hx) ((np.items.get c hc).items.get x hx)]
     exact h x hx
    intro h x hx
    rw[fp x (wS (wS vp hc) hx) ((np.items.get c hc).items.get x hx)]
    exact h x hx
   have hf:=fp (zg 2) (wQ 2) (N2 2 (by omega));rw[oF,hf]
   cases hq:atL (zg 2) p.items with
   | none =>
    simp only[true_iff]
    intro q fh fj
    have:(atL (zg 2) p.items).isSome=true:=tT.2 ⟨q.2,by rw[← fj];exact fh⟩;rw[hq]at this
    cases this
   | some c =>
   simp only
   have jN:(zg 2,c)∈ze p.items:=by
    rw[rS]at hq
    cases hx:(ze p.items).find? (fun p=>yu p.1 (zg 2)) with
    | none=>rw[hx]at hq;cases hq
    | some y =>
    rw[hx]at hq;injection hq with hq
    have h1:=List.mem_of_find?_eq_some hx;have h2:=List.find?_some hx;rw[vy]at h2;rw[← hq,← h2]
    exact h1
   rw[vD c (xK jN).2];constructor
   ·intro h q fh fj
    have:q.2=c:=ei _ (((yp _).1 vp).1.asc Vs) (zg 2) _ _ (by rw[← fj];exact fh) jN;rw[this,lL]
    simp only[Bool.and_eq_true]at h⊢
    exact⟨⟨h.1.2,h.2⟩,h.1.1⟩
   intro h
   have:=h _ jN rfl;rw[lL]at this
   simp only[Bool.and_eq_true]at this⊢
   exact⟨⟨this.2,this.1.1⟩,this.1.2⟩
  have kf:xA u p.items=true↔∀ q∈ze p.items,∀ r∈ze u.items,q.1≠r.1:=by
   rw[pY,List.all_eq_true];constructor
   ·intro h q hq r hr he
    have h1:=h q hq;rw[fu q.1 (wS vp (xK hq).1) (np.items.get _ (xK hq).1)]at h1;have h2:(atL q.1 u.items).isSome=true:=tT.2 ⟨r.2,by rw[he];exact hr⟩
    cases hz:atL q.1 u.items with
    | none=>rw[hz]at h2;cases h2
    | some _=>rw[hz]at h1;cases h1
   intro h q hq
   rw[fu q.1 (wS vp (xK hq).1) (np.items.get _ (xK hq).1)]
   cases hz:atL q.1 u.items with
   | none=>rfl
   | some v =>
   have h2:(atL q.1 u.items).isSome=true:=by rw[hz];rfl
   obtain⟨v',Vu⟩:=tT.1 h2
   exact absurd rfl (h q hq (q.1,v') Vu)
  have kr:uJ p.items u.items=true↔(∀ q∈ze p.items,∀ r∈ze u.items,q.1≠r.1)∧(yt u (zg 2)).isSome=false:=by
   rw[mX,List.all_eq_true,fu (zg 2) (wQ 2) (N2 2 (by omega))];constructor
   ·intro h
    refine⟨fun q hq r hr he=>?_, ?_⟩
    ·have h1:=h r hr;have h2:(atL r.1 p.items).isSome=true:=tT.2 ⟨q.2,by rw[← he];exact hq⟩;rw[h2]at h1
     simp at h1
    cases hz:(atL (zg 2) u.items).isSome with
    | false=>rfl
    | true =>
    obtain⟨v,hv⟩:=tT.1 hz;have h1:=h _ hv;have:yu (zg 2) (zg 2)=true:=(vy _ _).2 rfl
    simp[this]at h1
   rintro⟨h1,h2⟩ r hr
   have a1:(atL r.1 p.items).isSome=false:=by
    cases hz:(atL r.1 p.items).isSome with
    | false=>rfl
    | true =>
    obtain⟨v,hv⟩:=tT.1 hz
    exact absurd rfl (h1 _ hv r hr)
   have a2:yu r.1 (zg 2)=false:=by
    cases hz:yu r.1 (zg 2) with
    | false=>rfl
    | true =>
    rw[vy]at hz;have:(atL (zg 2) u.items).isSome=true:=tT.2 ⟨r.2,by rw[← hz];exact hr⟩;rw[h2]at this
    cases this
   rw[a1,a2];rfl
  have pr:yi p.items p.items=true↔sp p.items=true∧oF p=true:=by
   rw[C,uG,tR,List.all_eq_true,List.all_eq_true];constructor
   ·intro h
    refine⟨fun q hq=>?_,fun q hq=>?_⟩
    ·have:=h q hq;rw[Bool.and_eq_true]at this
     exact((sS (gp q hq) (lp q hq)).1 this.2).1
    have:=h q hq;rw[Bool.and_eq_true]at this
    exact((sS (gp q hq) (lp q hq)).1 this.2).2
   rintro⟨h1,h2⟩ q hq
   rw[Bool.and_eq_true]
   exact⟨lp q hq,(sS (gp q hq) (lp q hq)).2 ⟨h1 q hq,h2 q hq⟩⟩
  have ur:(yt u (zg 2)).isSome=false→(yi u.items u.items=true↔sp u.items=true):=by
   intro h2
   rw[fu (zg 2) (wQ 2) (N2 2 (by omega))]at h2;rw[uG,tR,List.all_eq_true,List.all_eq_true];constructor
   ·intro h q hq
    have:=h q hq;rw[Bool.and_eq_true]at this
    exact((sS (gu q hq) (lu q hq)).1 this.2).1
   intro h q hq
   rw[Bool.and_eq_true]
   refine⟨lu q hq,(sS (gu q hq) (lu q hq)).2 ⟨h q hq,fun he=>?_⟩⟩
   have:(atL (zg 2) u.items).isSome=true:=tT.2 ⟨q.2,by rw[← he];exact hq⟩;rw[h2]at this
   cases this
  unfold yC zV tw
  rw[F5,F6]
  simp only[Bool.and_eq_true,Vs,Tj,vp,vu,beq_self_eq_true,true_and,kf,kr,pr]
  cases h2:(yt u (zg 2)).isSome with
  | true=>simp
  | false =>
  have:=ur h2;rw[this]
  simp only[Bool.false_or,Bool.not_and,true_and,and_true]
  constructor
  ·rintro⟨⟨⟨⟨a,b⟩,c⟩,d⟩,e⟩
   exact⟨⟨⟨⟨a,c⟩,d⟩,e⟩,b⟩
  rintro⟨⟨⟨⟨a,c⟩,d⟩,e⟩,b⟩
  exact⟨⟨⟨⟨a,b⟩,c⟩,d⟩,e⟩
 constructor
 ·intro h
  have h':=h
  simp only[yC,Bool.and_eq_true,beq_iff_eq]at h'
  obtain⟨⟨⟨⟨⟨⟨⟨h1,h2⟩,h3⟩,h4⟩,h5⟩,h6⟩,_⟩,_⟩:=h';rw[uG,List.all_eq_true]at h5 h6
  exact(core h1 h2 h3 h4 (fun q hq=>by have:=h5 q hq;rw[Bool.and_eq_true]at this;exact this.1) (fun q hq=>by have:=h6 q hq;rw[Bool.and_eq_true]at this;exact this.1)).1 h
 intro h
 have h':=h
 simp only[zV,tw,Bool.and_eq_true,beq_iff_eq]at h'
 obtain⟨⟨⟨⟨⟨⟨h1,h3⟩,h5⟩,⟨h2,h4⟩,h6⟩,_⟩,_⟩,_⟩:=h';rw[tR,List.all_eq_true]at h5 h6
 exact(core h1 h2 h3 h4 (fun q hq=>qq (h5 q hq)) (fun q hq=>qq (h6 q hq))).2 h
theorem iP (n:Nat):isNaN n=true↔n/2 ^ 52%2048=2047∧n%2 ^ 52≠0:=by
 simp[isNaN]
theorem fI (n:Nat):(Ieee.double.read n).isNaN=isNaN n:=by
 rw[Bool.eq_iff_iff,iP];have hs:Ieee.double.signWeight=9223372036854775808:=rfl;have hb:Ieee.double.binade=4503599627370496:=rfl;have hi:Ieee.double.infRung=9218868437227405312:=rfl
 simp only[Nat.reducePow]
 by_cases h1:n%Ieee.double.signWeight<Ieee.double.binade
 ·rw[show Ieee.double.read n=.number _ _ _ from if_pos h1];rw[hs,hb]at h1
  simp only[Ieee.Datum.isNaN,Bool.false_eq_true,false_iff]
  omega
 by_cases h2:n%Ieee.double.signWeight<Ieee.double.infRung
 ·rw[show Ieee.double.read n=.number _ _ _ from(if_neg h1).trans (if_pos h2)];rw[hs,hi]at h2
  simp only[Ieee.Datum.isNaN,Bool.false_eq_true,false_iff]
  omega
 by_cases h3:n%Ieee.double.signWeight=Ieee.double.infRung
 ·rw[show Ieee.double.read n=.infinity _ from(if_neg h1).trans ((if_neg h2).trans (if_pos h3))];rw[hs,hi]at h3
  simp only[Ieee.Datum.isNaN,Bool.false_eq_true,false_iff]
  omega
 rw[show Ieee.double.read n=.nan _ _ from(if_neg h1).trans ((if_neg h2).trans (if_neg h3))];rw[hs,hi]at h2 h3
 simp only[Ieee.Datum.isNaN,true_iff]
 omega
theorem cM (d:Ieee.Datum):(d.order d==some .eq) = !d.isNaN:=by
 cases d with
 | nan a b=>rfl
 | infinity s=>cases s <;> rfl
 | number s m i =>
 simp[Ieee.Datum.order,Ieee.Datum.isNaN]
theorem iT (n:Nat):(FloatKind.f64.format.order n n==some .eq) = !isNaN n:=by
 show(Ieee.Datum.order (Ieee.double.read n) (Ieee.double.read n)==some .eq)=_
 rw[cM,fI]
theorem ZY (n:Nat):(FloatKind.f64.format.order n n != some .eq)=isNaN n:=by
 rw[bne,iT,Bool.not_not]
theorem qS (n:Nat) (w:World):(callFunc 147 #[.int .u64 (n:Int)]).run Tryz.prog w=.ok (.value (.float .f64 n)) w:=by
 rw[run_callFunc_extern Tryz.func147 (by kernel_rfl) (by kernel_rfl) (by kernel_rfl) (e:=Extern.MathFloatBits.float64frombits) (by kernel_rfl)];rfl
theorem eS (n:Nat) (w:World):(callFunc 148 #[.float .f64 n]).run Tryz.prog w=.ok (.value (.int .u64 (n:Int))) w:=by
 rw[run_callFunc_extern Tryz.func148 (by kernel_rfl) (by kernel_rfl) (by kernel_rfl) (e:=Extern.MathFloatBits.float64bits) (by kernel_rfl)];rfl
theorem eR (n:Nat) (w:World):(callFunc 150 #[.float .f32 n]).run Tryz.prog w=.ok (.value (.int .u32 (n:Int))) w:=by
 rw[run_callFunc_extern Tryz.func150 (by kernel_rfl) (by kernel_rfl) (by kernel_rfl) (e:=Extern.MathFloatBits.float32bits) (by kernel_rfl)];rfl
def SB (H:Snap) (A:Option Addr) (t:ByteArray):Prop:=0<t.size→∃ b off,A=some ⟨b,off,none⟩∧∀ j,j<t.size→H.cell? ⟨b,off+j,none⟩=some (.int .u8 ((t.get! j).toNat:Int))
theorem Tu (l:List UInt8):(⟨l.toArray⟩:ByteArray).data.toList=l:=by simp
theorem Qe (l:List UInt8) (j:Nat) (h:j<l.length):(⟨l.toArray⟩:ByteArray).get! j=l[j]:=by
 show l.toArray[j]! = l[j]
 rw[getElem!_pos l.toArray j (by simpa using h)]
 simp
theorem SB.of {H:Snap}{A:Option Addr}{c:Nat}{l:List UInt8}(h:IsBytes H A c l):SB H A ⟨l.toArray⟩:=fun h0=>by
 have hl:(⟨l.toArray⟩:ByteArray).size=l.length:=by show l.toArray.size=l.length;simp
 rw[hl]at h0;obtain⟨b,off,e,hc⟩:=h.at_ h0
 refine⟨b,off,e,fun j hj=>?_⟩
 rw[hl]at hj;rw[hc j hj,Qe l j hj]
theorem tq {H:Snap}{A:Option Addr}{t:ByteArray}(hs:SB H A t) (h8:8≤t.size) (c:Nat) (w:World) (hH:Holds w H) :
  Calls Tryz.prog 187 #[.slice A t.size c] w fun e w'=>e=.returned (.int .u64 ((Lib.leNat [t.get! 0,t.get! 1,t.get! 2,t.get! 3,t.get! 4,t.get! 5,t.get! 6,t.get! 7]:Nat):Int))∧∃ q,w'=w.drewN q:=by
 obtain⟨b,off,rfl,hc⟩:=hs (by omega);have c0:=hH.cell (hc 0 (by omega));have q0:(0:Int)<(t.size:Int):=by omega
 have p0:0<t.size:=by omega
 have c1:=hH.cell (hc 1 (by omega));have q1:(1:Int)<(t.size:Int):=by omega
 have p1:1<t.size:=by omega
 have c2:=hH.cell (hc 2 (by omega));have q2:(2:Int)<(t.size:Int):=by omega
 have p2:2<t.size:=by omega
 have c3:=hH.cell (hc 3 (by omega));have q3:(3:Int)<(t.size:Int):=by omega
 have p3:3<t.size:=by omega
 have c4:=hH.cell (hc 4 (by omega));have q4:(4:Int)<(t.size:Int):=by omega
 have p4:4<t.size:=by omega
 have c5:=hH.cell (hc 5 (by omega));have q5:(5:Int)<(t.size:Int):=by omega
 have p5:5<t.size:=by omega
 have c6:=hH.cell (hc 6 (by omega));have q6:(6:Int)<(t.size:Int):=by omega
 have p6:6<t.size:=by omega
 have c7:=hH.cell (hc 7 (by omega));have q7:(7:Int)<(t.size:Int):=by omega
 have p7:7<t.size:=by omega
 have l0:=(t.get! 0).toNat_lt
 generalize t.get! 0=x0 at *
 have l1:=(t.get! 1).toNat_lt
 generalize t.get! 1=x1 at *
 have l2:=(t.get! 2).toNat_lt
 generalize t.get! 2=x2 at *
 have l3:=(t.get! 3).toNat_lt
 generalize t.get! 3=x3 at *
 have l4:=(t.get! 4).toNat_lt
 generalize t.get! 4=x4 at *
 have l5:=(t.get! 5).toNat_lt
 generalize t.get! 5=x5 at *
 have l6:=(t.get! 6).toNat_lt
 generalize t.get! 6=x6 at *
 have l7:=(t.get! 7).toNat_lt
 generalize t.get! 7=x7 at *
 have hv:((Lib.leNat [x0,x1,x2,x3,x4,x5,x6,x7]:Nat):Int)=(x0.toNat:Int)+(x1.toNat:Int)*256+(x2.toNat:Int)*65536+(x3.toNat:Int)*16777216+(x4.toNat:Int)*4294967296+(x5.toNat:Int)*1099511627776+(x6.toNat:Int)*281474976710656+(x7.toNat:Int)*72057594037927936:=by
  simp only[Lib.leNat]
  push_cast
  omega
 have HV:=Hh hv;clear hv hc hs
 simp only[Nat.add_zero]at c0
 go_enter Tryz.func187,Tryz.ntmps187
 go_upto_region 2 with fail
 refine zw 47 (fun w'=>w'.cell? ⟨b,off,none⟩=some (.int .u8 (x0.toNat:Int))∧w'.cell? ⟨b,off+1,none⟩=some (.int .u8 (x1.toNat:Int))∧w'.cell? ⟨b,off+2,none⟩=some (.int .u8 (x2.toNat:Int))∧w'.cell? ⟨b,off+3,none⟩=some (.int .u8 (x3.toNat:Int))∧w'.cell? ⟨b,off+4,none⟩=some (.int .u8 (x4.toNat:Int))∧w'.cell? ⟨b,off+5,none⟩=some (.int .u8 (x5.toNat:Int))∧w'.cell? ⟨b,off+6,none⟩=some (.int .u8 (x6.toNat:Int))∧w'.cell? ⟨b,off+7,none⟩=some (.int .u8 (x7.toNat:Int))) (by kernel_rfl) (⟨c0,c1,c2,c3,c4,c5,c6,c7⟩) (fun zy=>?_)
 refine TkS 0 rfl zy ?_
 refine TkS 1 rfl zy ?_
 refine TkS 2 rfl zy ?_
 refine TkS 3 rfl zy ?_
 refine TkS 4 rfl zy ?_
 refine TkS 5 rfl zy ?_
 refine TkS 6 rfl zy ?_
 refine TkS 7 rfl zy ?_
 refine TkS 8 rfl zy ?_
 refine TkS 9 rfl zy ?_
 refine TkS 10 rfl zy ?_
 refine TkS 11 rfl zy ?_
 refine TkS 12 rfl zy ?_
 refine TkS 13 rfl zy ?_
 refine TkS 14 rfl zy ?_
 refine TkS 15 rfl zy ?_
 refine TkS 16 rfl zy ?_
 refine TkS 17 rfl zy ?_
 refine TkS 18 rfl zy ?_
 refine TkS 19 rfl zy ?_
 refine TkS 20 rfl zy ?_
 refine TkS 21 rfl zy ?_
 refine TkS 22 rfl zy ?_
 refine TkS 23 rfl zy ?_
 refine TkS 24 rfl zy ?_
 refine TkS 25 rfl zy ?_
 refine TkS 26 rfl zy ?_
 refine TkS 27 rfl zy ?_
 refine TkS 28 rfl zy ?_
 refine TkS 29 rfl zy ?_
 refine TkS 30 rfl zy ?_
 refine TkS 31 rfl zy ?_
 refine TkS 32 rfl zy ?_
 refine TkS 33 rfl zy ?_
 refine TkS 34 rfl zy ?_
 refine TkS 35 rfl zy ?_
 refine TkS 36 rfl zy ?_
 refine TkS 37 rfl zy ?_
 refine TkS 38 rfl zy ?_
 refine TkS 39 rfl zy ?_
 refine TkS 40 rfl zy ?_
 refine TkS 41 rfl zy ?_
 refine TkS 42 rfl zy ?_
 refine TkS 43 rfl zy ?_
 refine TkS 44 rfl zy ?_
 refine TkS 45 rfl zy ?_
 refine TkS 46 rfl zy ?_
 refine Wd ?_
 clear zy;go_wp2_with fail
 go_ret
 refine⟨?_,1,rfl⟩
 simp (disch:=omega) only [u64_wrap_id,u64_or8,u64_or16,u64_or24,u64_or32,u64_or40,u64_or48,u64_or56]
 rw[HV.out];rfl
end Go.Proofs.YtliomcphdnppnaaGreatDoor
