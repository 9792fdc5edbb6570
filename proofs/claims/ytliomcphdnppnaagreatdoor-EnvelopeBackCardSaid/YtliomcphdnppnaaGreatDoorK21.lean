/- squeezed. Authenticated envelopes: what both -/
import Derived.Test.YtliomcphdnppnaaGreatDoorK20
import Derived.OwnWalk
set_option linter.unusedVariables false
set_option linter.unusedSimpArgs false
set_option maxRecDepth 100000
set_option maxHeartbeats 6400000
namespace Go.Proofs.YtliomcphdnppnaaGreatDoor
open Go.RowKit
theorem jce{P:Prop}(h:P:=by exact oQ 2 (.inl rfl) _ _ (fun h=>by omega)):P:=h
theorem jdh{P:Prop}(h:P:=by
 go_enter Tryz.func77,Tryz.ntmps77
 go_wp2_with fail
 go_ret
 exact⟨by rw[E.out];rfl,nD⟩):P:=h
theorem jdj{P:Prop}(h:P:=by
 have hf:=yI (mE ((yo p).1 h).1 (by omega))
 exact List.length_eq_zero_iff.1 hf.2.2.2.1):P:=h
theorem jdN{P:Prop}(h:P:=by
 refine⟨Zw,H, ?_,hG, ?_⟩
 ·rw[hv,hc,he];rfl
 rw[hv]
 exact YU H):P:=h
theorem jf4{P:Prop}(h:P:=by have h1:=yq 3 0 ctx [] (by omega) (by omega);have h2:(zZ (zI (yH p))).length≤_:=yq 2 0 (yH p) [] (by omega) (by omega);have h3:(zZ (zI ext)).length≤_:=yq 2 0 ext [] (by omega) (by omega);exact And.intro h1 (And.intro h2 h3)):P:=h
structure Ev where
 p:Itm
 u:Itm
 body:List UInt8
 tag:List UInt8
structure EvAd where
 a:Ad
 b:Ad
 ba:Option Addr
 bc:Nat
 ta:Option Addr
 tc:Nat
abbrev evC (p:Itm) (a:Ad) (u:Itm) (b:Ad) (ba:Option Addr) (bn bc:Nat) (ta:Option Addr) (tn tc:Nat):Array Value :=
 #[.int .i64 p.kind,.int .u64 p.n,.slice a.ba p.bytes.length a.bc,.slice a.ia p.items.length a.ic,.int .i64 u.kind,.int .u64 u.n,.slice b.ba u.bytes.length b.bc,.slice b.ia u.items.length b.ic,.slice ba bn bc,.slice ta tn tc]
abbrev evQ (v:Ev) (a:EvAd):Array Value:=evC v.p a.a v.u a.b a.ba v.body.length a.bc a.ta v.tag.length a.tc
structure EvA (H:Snap) (v:Ev) (a:EvAd):Prop where
 p:IsItem H a.a.ba a.a.bc a.a.ia a.a.ic v.p
 u:IsItem H a.b.ba a.b.bc a.b.ia a.b.ic v.u
 body:IsBytes H a.ba a.bc v.body
 tag:IsBytes H a.ta a.tc v.tag
theorem EvA.mono {H K:Snap}{v:Ev}{a:EvAd}(h:EvA H v a) (hl:H.le K):EvA K v a:=⟨h.p.mono hl,h.u.mono hl,h.body.mono hl,h.tag.mono hl⟩
abbrev yT:Array Value:=#[.int .i64 0,.int .u64 0,.slice none 0 0,.slice none 0 0,.int .i64 0,.int .u64 0,.slice none 0 0,.slice none 0 0,.slice none 0 0,.slice none 0 0]
def fF:Ev:=⟨ze,ze,[],[]⟩
def Zw:EvAd:=⟨⟨none,0,none,0⟩,⟨none,0,none,0⟩,none,0,none,0⟩
theorem YU (H:Snap):EvA H fF Zw:=⟨IsItem.plain H 0 0 (by omega) (by omega),IsItem.plain H 0 0 (by omega) (by omega),IsBytes.nil _,IsBytes.nil _⟩
def nK:List UInt8:=[77,65,67,48]
theorem RR:Lib.validD nK=true:=by kernel_rfl
def qy (p u:Itm) (ext pay key:List UInt8):Int :=
 if zL p u=false then 1 else if ju (sR p u)=0∨key.length=0 then 12 else if 4096<pay.length then 8 else xy nK p u ext [pay]
def Z6 (p u:Itm) (ext pay key:List UInt8):List UInt8 :=
 (nI key (zZ (xA nK p ext [pay]))).take (ju (sR p u))
def nA (p u:Itm) (ext pay key:List UInt8):Ev:=if qy p u ext pay key=0 then⟨p,u,pay,Z6 p u ext pay key⟩ else fF
def mO (v:Ev) (ext key:List UInt8):Int :=
 if qy v.p v.u ext v.body key=0 then(if v.tag=Z6 v.p v.u ext v.body key then 0 else 11) else qy v.p v.u ext v.body key
def MacOut (w:World) (H:Snap) (p u:Itm) (ext pay key:List UInt8) (e:Ending) (w':World):Prop :=
 ∃ a H',e=.returned (.tuple #[.agg (evQ (nA p u ext pay key) a),.int .i64 (qy p u ext pay key)])∧Grows w H w' H'∧EvA H' (nA p u ext pay key) a
theorem MacOut.bad {w w':World}{H:Snap}{p u:Itm}{ext pay key:List UInt8}{c:Int}{e:Ending}(hc:qy p u ext pay key=c) (h0:c≠0) (hG:Grows w H w' H) (he:e=.returned (.tuple #[.agg yT,.int .i64 c])):MacOut w H p u ext pay key e w':=by
 have hv:nA p u ext pay key=fF:=by rw[nA,if_neg (by omega)]
 exact jdN
theorem dt {p u:Itm}{ext pay key:List UInt8}(hv:zL p u=true) (ha:ju (sR p u)≠0) (hk:key.length≠0) (hp:¬ 4096<pay.length):qy p u ext pay key=xy nK p u ext [pay]:=by
 rw[qy,if_neg (by simp[hv]),if_neg (by omega),if_neg hp]
theorem MacOut.good {w w':World}{H H':Snap}{p u:Itm}{ext pay key:List UInt8}{e:Ending}{xa xb:Ad}{BA:Option Addr}{bn bc:Nat}{TA:Option Addr}{c n:Nat}{l:List UInt8}(hc:qy p u ext pay key=0) (hG:Grows w H w' H') (hp:IsItem H' xa.ba xa.bc xa.ia xa.ic p) (hu:IsItem H' xb.ba xb.bc xb.ia xb.ic u)
  (mh:bn=pay.length) (hb:IsBytes H' BA bc pay) (hn:ju (sR p u)=n) (hl:l=zZ (xA nK p ext [pay])) (mj:n≤(nI key l).length) (ht:IsBytes H' TA c (nI key l)) (he:e=.returned (.tuple #[.agg (evC p xa u xb BA bn bc TA n n),.int .i64 0])):MacOut w H p u ext pay key e w':=by
 have hv:nA p u ext pay key=⟨p,u,pay,(nI key l).take n⟩:=by rw[nA,if_pos hc,Z6,hn,hl]
 have wn:((nI key l).take n).length=n:=by rw[List.length_take];omega
 refine⟨⟨xa,xb,BA,bc,TA,n⟩,H', ?_,hG, ?_⟩
 ·rw[hv,hc,he,mh];show _=Ending.returned (.tuple #[.agg (evC p xa u xb BA pay.length bc TA ((nI key l).take n).length n),.int .i64 0])
  rw[wn]
 rw[hv]
 exact⟨hp,hu,hb,⟨by show((nI key l).take n).length≤n;rw[wn];exact Nat.le_refl _,by show n≤9223372036854775807;have:=ht.le;have:=ht.max;omega,(ht.take' n).row⟩⟩
theorem nT {ctx:List UInt8}{p u:Itm}{ext:List UInt8}{pay:List (List UInt8)}(h:xy ctx p u ext pay=0):(zZ (xA ctx p ext pay)).length≤4096:=by
 unfold xy at h
 split at h
 ·cases h
 split at h
 ·cases h
 split at h
 ·cases h
 rename_i hv
 exact(vL (by simpa using hv)).2.2
theorem NQ {p u:Itm}{ext pay key:List UInt8}{V:Ev}(h:nA p u ext pay key=V) (hp:pay.length≤600):V.body.length≤600∧V.tag.length≤32:=by
 subst h
 unfold nA
 split
 ·refine⟨hp, ?_⟩
  show(Z6 p u ext pay key).length≤32
  unfold Z6
  rw[List.length_take,iE]
  omega
 exact⟨by simp[fF],by simp[fF]⟩
def szL (x:Itm):Nat:=(zP x.items).length
theorem yq (k:Int) (n:Nat) (bs:List UInt8) (l:List Itm) (h8:k≠8) (h7:k≠7):(zZ (.mk k n bs l)).length≤9+bs.length+(zP l).length:=by
 rw[yP,if_neg (by simpa [Itm.kind] using h8),if_neg (by simp[Itm.kind,h7])];have:=(tJ k.toNat (yA (.mk k n bs l))).2
 simp only[Itm.kind,Itm.bytes,Itm.items,List.length_append]
 omega
theorem oQ (k:Int) (hk:k=2∨k=3) (bs:List UInt8) (lv:Nat) (hv:k=3→Lib.validD bs=true):Good (.mk k 0 bs []) lv:=by
 refine Good.of ?_ (by simp only[Itm.items];rw[GoodL];trivial) (fun h=>by simp only[Itm.kind]at h;omega)
 rw[yC,if_pos (by rw[z8];simp only[Itm.kind];omega)]
 rcases hk with rfl | rfl
 ·simp[yy,Itm.kind,Itm.n,Itm.items]
 simp[yy,Itm.kind,Itm.n,Itm.items,Itm.bytes,hv rfl]
theorem dq {ctx:List UInt8}{p:Itm}{ext:List UInt8}{pay:List (List UInt8)}(hc:Lib.validD ctx=true):Good (xA ctx p ext pay) 0:=by
 refine Good.of ?_ ?_ (fun h=>by simp[xA,Itm.kind]at h)
 ·rw[yC,if_neg (by rw[z8];simp[xA,Itm.kind])]
  simp[vq,xA,Itm.kind,Itm.bytes,Itm.n]
 refine GoodL.of fun x hx=>?_
 simp only[xA,Itm.items,List.cons_append,List.nil_append,List.mem_cons,List.mem_map]at hx
 rcases hx with rfl | rfl | rfl | ⟨l,_,rfl⟩
 ·exact oQ 3 (.inr rfl) _ _ (fun _=>hc)
 ·exact jce
 ·exact jce
 exact jce
theorem gU {ctx:List UInt8}{p:Itm}{ext a:List UInt8}(hc:Lib.validD ctx=true) (hl:ctx.length+(yH p).length+ext.length+a.length≤4000):zJ (xA ctx p ext [a])=true:=by
 rw[yo]
 refine⟨dq hc, ?_, ?_⟩
 ·simp[xA,cnt,yf]
 have h0:=yq 4 0 [] ([.mk 3 0 ctx [],zI (yH p),zI ext]++[a].map zI) (by omega) (by omega);obtain⟨h1,h2,h3⟩:=jf4;have h4:(zZ (zI a)).length≤_:=yq 2 0 a [] (by omega) (by omega)
 simp only[xA,List.map_cons,List.map_nil,List.cons_append,List.nil_append,zP,List.length_append,List.length_nil]at h0 h1 h2 h3 h4⊢
 omega
theorem RT {p:Itm}(h:zJ p=true) (h5:p.kind=5) (h0:p.items=[]):p=.mk 5 0 [] []:=by
 have hf:=yI (mE ((yo p).1 h).1 (by omega))
 cases p with
 | mk k n bs l =>
 simp only[Itm.kind,Itm.n,Itm.bytes,Itm.items]at *
 have h1:=hf.2.2.2.2.2.1 (by omega);have h2:=List.length_eq_zero_iff.1 hf.2.2.2.1;rw[h5,h1,h2,h0]
theorem bS {p:Itm}(p5:p.kind=5) (hb:p.bytes=[]):(yH p).length≤9+szL p:=by
 unfold yH
 split
 ·simp
 cases p with
 | mk k n bs l =>
 simp only[Itm.kind,Itm.bytes]at p5 hb
 subst p5 hb;have:=yq 5 n [] l (by omega) (by omega)
 simpa [szL,Itm.items] using this
theorem dv {p:Itm}(h:zJ p=true) (h5:p.kind=5):p.bytes=[]:=by
 exact jdj
def yt (k:Nat) (v:Ev):List Itm:=[zI (yH v.p),v.u,zI v.body]++(if k=16 then [] else [zI v.tag])
def wk (k:Nat) (v:Ev):Itm:=.mk 6 k [] [.mk 4 0 [] (yt k v)]
structure EnvOk (k:Nat) (v:Ev):Prop where
 kind:k=16∧v.tag=[]∨k=17
 head:zL v.p v.u=true
 np:Nums v.p
 nu:Nums v.u
 sp:szL v.p≤1000
 su:szL v.u≤1000
 cu:cnt v.u≤200
 du:dep v.u≤5
 body:v.body.length≤616
 tag:v.tag.length≤32
theorem pu (b:List UInt8) (lv:Nat):Good (zI b) lv:=Good.of (by rw[yC,if_pos (by rfl)];rfl) (by show GoodL [] _;rw[GoodL];trivial) (fun h=>by cases h)
theorem nS {k:Nat}{v:Ev}(h:EnvOk k v):zJ (wk k v)=true:=by
 have vv:=yY h.head;have hb:=bS vv.2.2.1 (dv vv.1 vv.2.2.1);have JW:=dv vv.2.1 vv.2.2.2;have gu:Good v.u 2:=((yo _).1 vv.2.1).1.deep (by have:=h.du;omega)
 have hbi:∀ b:List UInt8,(zZ (zI b)).length≤9+b.length:=fun b=>by
  have:=yq 2 0 b [] (by omega) (by omega)
  simpa [zP] using this
 have hul:(zZ v.u).length≤1009:=by
  have e1:=h.su;have e2:=vv.2.2.2
  generalize v.u=U at e1 e2 JW⊢
  obtain⟨k',n',b',l'⟩:=U
  simp only[Itm.kind,Itm.bytes]at e2 JW
  subst e2;subst JW;have:=yq 5 n' [] l' (by omega) (by omega)
  simp only[List.length_nil]at this
  rw[szL]at e1
  simp only[Itm.items]at e1
  omega
 have h1:=hbi (yH v.p);have h2:=hbi v.body;have h3:=hbi v.tag;have tf:=h.body;have MP:=h.tag;have dS:=h.sp;have UD:=h.cu;have cb:∀ b,cnt (zI b)=1:=fun b=>by rw[zI,cnt,yf]
 have hL:(zP (yt k v)).length≤2800∧yf (yt k v)≤203∧(∀ x∈yt k v,Good x 2)∧(yt k v).length≤4:=by
  unfold yt
  split
  ·refine⟨?_, ?_, ?_, ?_⟩
   ·simp only[List.append_nil,zP,List.length_append,List.length_nil];omega
   ·simp only[List.append_nil,yf,cb];omega
   ·intro x hx
    simp only[List.append_nil,List.mem_cons,List.not_mem_nil,or_false]at hx
    rcases hx with rfl | rfl | rfl
    ·exact pu _ _
    ·exact gu
    exact pu _ _
   simp
  refine⟨?_, ?_, ?_, ?_⟩
  ·simp only[List.cons_append,List.nil_append,zP,List.length_append,List.length_nil];omega
  ·simp only[List.cons_append,List.nil_append,yf,cb];omega
  ·intro x hx
   simp only[List.cons_append,List.nil_append,List.mem_cons,List.not_mem_nil,or_false]at hx
   rcases hx with rfl | rfl | rfl | rfl
   ·exact pu _ _
   ·exact gu
   ·exact pu _ _
   exact pu _ _
  simp
 obtain⟨l1,l2,l3,l4⟩:=hL;have e4:=yq 4 0 [] (yt k v) (by omega) (by omega);have e6:=yq 6 k [] [.mk 4 0 [] (yt k v)] (by omega) (by omega)
 simp only[List.length_nil,zP,List.append_nil]at e4 e6
 rw[yo]
 refine⟨?_, ?_, ?_⟩
 ·refine Good.of (by rfl) ?_ (fun h=>by cases h)
  show GoodL [.mk 4 0 [] (yt k v)] 1
  rw[GoodL,GoodL]
  refine⟨Good.of (by rfl) (GoodL.of l3) (fun h=>by cases h),trivial⟩
 ·rw[wk,cnt,yf,cnt,yf];omega
 rw[wk];omega
theorem XH {k:Nat}{v:Ev}(h:EnvOk k v):Nums (wk k v):=by
 have hk:k<18446744073709551616:=by rcases h.kind with ⟨rfl,_⟩ | rfl <;> omega
 have nb:∀ b,Nums (zI b):=fun b=>by rw[zI,Nums,NumsL];exact⟨by omega,trivial⟩
 have nl:NumsL (yt k v):=by
  unfold yt
  split
  ·simp only[List.append_nil,NumsL];exact⟨nb _,h.nu,nb _,trivial⟩
  simp only[List.cons_append,List.nil_append,NumsL];exact⟨nb _,h.nu,nb _,nb _,trivial⟩
 rw[wk,Nums,NumsL,NumsL,Nums]
 exact⟨hk,⟨by omega,nl⟩,trivial⟩
theorem YD {k:Nat}{v:Ev}(h:EnvOk k v):uY (zZ (wk k v))=.ok (wk k v):=gR (nS h) (XH h)
theorem bT {k:Nat}{v:Ev}(h:EnvOk k v):(yH v.p=[]∧v.p=.mk 5 0 [] [])∨(0<(yH v.p).length∧0<v.p.items.length∧uY (yH v.p)=.ok v.p):=by
 have vv:=yY h.head
 by_cases h0:v.p.items.length=0
 ·left
  exact⟨by rw[yH,if_pos h0],RT vv.1 vv.2.2.1 (List.length_eq_zero_iff.1 h0)⟩
 right
 rw[yH,if_neg h0]
 refine⟨?_,by omega,gR vv.1 h.np⟩
 rw[yP,if_neg (by rw[vv.2.2.1];omega),if_neg (by rw[vv.2.2.1];omega)];have:=xF v.p.kind.toNat (yA v.p)
 simp only[List.length_append]
 have h1:1≤(yv v.p.kind.toNat (yA v.p)).length:=by
  rw[this]
  repeat' split
  all_goals omega
 omega
def SrcR (w:World) (A:Option Addr) (ls:List (List UInt8)):Prop:=0<ls.length→∃ b off,A=some ⟨b,off,none⟩∧∀ j (hj:j<ls.length),∃ Aj cj,w.cell? ⟨b,off+j,none⟩=some (.slice Aj ls[j].length cj)∧Src w Aj (ls[j].map zm)
theorem jH (ls:List (List UInt8)) (k:Nat) (hk:k<ls.length):(ls.drop k).flatten=ls[k]++(ls.drop (k+1)).flatten:=by
 rw[List.drop_eq_getElem_cons hk,List.flatten_cons]
theorem OwnB.store_ {w:World}{base:Nat}{A:Option Addr}{n c:Nat}{l:List UInt8}(h:OwnB w base (.slice A n c) l) {k:Nat}(hk:k<l.length):∃ g cur,A=some ⟨g,0,none⟩∧base≤g∧Blk w g 5 cur∧k<cur.size∧
  ∀ (w':World) (x:UInt8),Blk w' g 5 (cur.setIfInBounds k (zm x))→OwnB w' base (.slice A n c) (l.set k x):=by
 rcases h.2 with ⟨hv,hz⟩ | ⟨g,cap,cur,hv,hb,hg,hc,hm,hcz,ht⟩
 ·omega
 cases hv
 refine⟨g,cur,rfl,hb,hg,by omega,fun w' x hB=>⟨by simp,.inr ⟨g,c,_,by simp,hb,hB,by simpa using hc,hm,by rw[Array.size_setIfInBounds,hcz], ?_⟩⟩⟩
 rw[Array.toList_setIfInBounds,List.length_set,List.take_set,ht,List.map_set]
structure Ext where
 label:Int
 has:Bool
 val:List UInt8
def D9 (x:Itm) (lim:Nat):Option Int :=
 if x.kind=0∧x.n≤lim then some (x.n:Int) else if x.kind=1∧x.n<lim then some (-1-(x.n:Int)) else none
def Zs:Nat→List Ext→List UInt8→Except Nat (List Ext)
 | 0,out,_=>.ok out
 | n+1,out,b =>
 if b.length=0 then .ok out
 else match qY b with
  | .err e=>.error e
  | .ok x k _ =>
  if x.kind=2 then
   (match out.getLast? with
   | none=>.error 4
   | some l =>
   if l.has then .error 4 else if 600<x.bytes.length then .error 8
   else Zs n (out.dropLast++[{ l with has:=true,val:=x.bytes }]) (b.drop k))
  else match D9 x 65535 with
   | none=>.error 4
   | some v=>if out.length=4 then .error 8 else Zs n (out++[{ label:=v,has:=false,val:=[] }]) (b.drop k)
def Fy (b:List UInt8):Except Nat (List Ext):=Zs (b.length+1) [] b
def Oj (c:UInt8):Bool:=decide (c.toNat<24)||decide (32≤c.toNat)&&decide (c.toNat<56)
def Ri (b:List UInt8):Except Nat (List UInt8×Nat) :=
 match b with
 | []=>.error 2
 | x::t =>
 if Oj x then .ok ([x],1)
 else if x.toNat<64∨88<x.toNat then .error 4
 else if 7<x.toNat-64 then .error 8
 else if b.length<1+(x.toNat-64) then .error 2
 else if x.toNat-64=1∧Oj (b.getD 1 0) then .error 4
 else .ok (t.take (x.toNat-64),1+(x.toNat-64))
def J6:List Int→Bool
 | []=>false
 | x::l=>l.contains x||J6 l
structure First where
 method:Int
 suites:List Int
 gx:List UInt8
 conn:List UInt8
 ext:List Ext
def J5:List Itm→Option (List Int)
 | []=>some []
 | x::l=>match D9 x 65535 with
  | none=>none
  | some v=>if v<0 then none else match J5 l with
   | none=>none
   | some t=>some (v::t)
def L0 (x:Itm):Except Nat (List Int) :=
 if x.kind=0 then(if x.n≤65535 then .ok [(x.n:Int)] else .error 4)
 else if x.kind≠4∨x.items.length<2 then .error 4
 else match J5 x.items with
  | none=>.error 4
  | some l=>if J6 l then .error 7 else if 8<l.length then .error 8 else .ok l
def jR (x:Itm):Prop:=∀ (y:Itm) (H:Snap) (k n:Int) (ba:Option Addr) (bl bc:Nat) (ia:Option Addr) (il ic:Nat) (k' n':Int) (ba':Option Addr) (bl' bc':Nat) (ia':Option Addr) (il' ic':Nat) (w:World),
 Modest x→Modest y→ItemA H k n ba bl bc ia il ic x→ItemA H k' n' ba' bl' bc' ia' il' ic' y→Holds w H→
 Calls Tryz.prog 77 #[.agg #[.int .i64 k,.int .u64 n,.slice ba bl bc,.slice ia il ic],.agg #[.int .i64 k',.int .u64 n',.slice ba' bl' bc',.slice ia' il' ic']] w fun e w'=>e=.returned (.bool (yL x y))∧Below w.heap.size w w'
theorem Nt (x y:Itm):yL x y=(x.kind==y.kind&&x.n==y.n&&x.bytes==y.bytes&&uD x.items y.items):=by cases x;cases y;rw[yL];rfl
theorem Rz:∀ l m:List Itm,uD l m=true→l.length=m.length:=fun l m h=>by rw[iN]at h;rw[h]
theorem S0 (x:Itm) (ih:∀ z:Itm,cnt z<cnt x→jR z):jR x:=by
 intro y H k n ba bl bc ia il ic k' n' ba' bl' bc' ia' il' ic' w gJ ik hx hy hH
 obtain⟨rfl,rfl,rfl,rfl,rD⟩:=hx.eqs_;obtain⟨rfl,rfl,rfl,rfl,QY⟩:=hy.eqs_;have HX:=Hh rD;have HY:=Hh QY;have HMX:=Hh gJ;have JC:=Hh ik;have xO:=rD.bounds;have Wv:=QY.bounds;have nD:=(zo w (zU x ba bc ia ic)).alloc (by simp) (zU y ba' bc' ia' ic');have xX:=(Blk.new w 26 #[.int .i64 x.kind,.int .u64 x.n,.slice ba x.bytes.length bc,.slice ia x.items.length ic]).alloc (zU y ba' bc' ia' ic');have yQ:=Blk.new (w.alloc (zU x ba bc ia ic)) 26 #[.int .i64 y.kind,.int .u64 y.n,.slice ba' y.bytes.length bc',.slice ia' y.items.length ic']
 simp only[zr]at yQ
 have pf:Holds ((w.alloc (zU x ba bc ia ic)).alloc (zU y ba' bc' ia' ic')) H:=(hH.alloc _).alloc _;have C:=Hh (pN _ ba ba' x.bytes y.bytes x.bytes.length y.bytes.length bc bc' rfl rfl (gJ.parts.1) (ik.parts.1) (Src.of_row rD.bytes.row pf) (Src.of_row QY.bytes.row pf));have Wq:x.items.length≤9223372036854775807:=by omega
 have hyl:y.items.length≤9223372036854775807:=by omega
 have Px:=Hh xO.2.2.1;have dC:=Hh Wv.2.2.1;have E0:=Nt x y;clear hx hy rD QY xO Wv gJ ik
 by_cases h1:x.kind=y.kind
 case neg =>
  have E:Hid (yL x y=false):=by rw[Hid,E0];simp[h1]
  have b1:(x.kind != y.kind)=true:=by simp[h1]
  have p1:(x.kind=y.kind)=False:=eq_false h1;clear h1 E0;exact jdh
 have b1:(x.kind != y.kind)=false:=by simp[h1]
 have p1:(x.kind=y.kind)=True:=eq_true h1;have e1:(x.kind==y.kind)=true:=by simp[h1]
 rw[e1]at E0;clear h1 e1
 by_cases h2:x.n=y.n
 case neg =>
  have E:Hid (yL x y=false):=by rw[Hid,E0];simp[h2]
  have b2:((x.n:Int) != (y.n:Int))=true:=by simp;omega
  have p2:(x.n=y.n)=False:=eq_false h2;clear h2 E0;exact jdh
 have b2:((x.n:Int) != (y.n:Int))=false:=by simp;omega
 have p2:(x.n=y.n)=True:=eq_true h2;have e2:(x.n==y.n)=true:=by simp[h2]
 rw[e2]at E0;clear h2 e2;obtain⟨cmp,o8⟩:∃ cmp,Lib.compareBytes x.bytes y.bytes=cmp:=⟨_,rfl⟩
 have hz:=mB x.bytes y.bytes;rw[o8]at C hz;clear o8
 by_cases h3:x.bytes=y.bytes
 case neg =>
  have E:Hid (yL x y=false):=by rw[Hid,E0];simp[h3]
  have h0:cmp≠0:=fun h=>h3 (hz.1 h)
  have b3:(cmp != 0)=true:=by simp[h0]
  have p3:(cmp=0)=False:=eq_false h0;clear h3 E0 hz h0;go_enter Tryz.func77,Tryz.ntmps77
  go_wp2_with fail
  refine C.out.mono ?_
  rintro e w1 ⟨rfl,zB⟩
  have yz:=nD.trans (zB.mono nD.size);exact jbE
 have h0:=hz.2 h3;have e3:(x.bytes==y.bytes)=true:=by simp[h3]
 rw[e3]at E0;subst h0;clear hz h3 e3
 by_cases h4:x.items.length=y.items.length
 case neg =>
  have E:Hid (yL x y=false):=by
   rw[Hid,E0]
   cases hs:uD x.items y.items with
   | true=>exact absurd (Rz _ _ hs) h4
   | false=>rfl
  have b4:((x.items.length:Int) != (y.items.length:Int))=true:=by simp;omega
  have p4:(x.items.length=y.items.length)=False:=eq_false h4;clear h4 E0;go_enter Tryz.func77,Tryz.ntmps77
  go_wp2_with fail
  refine C.out.mono ?_
  rintro e w1 ⟨rfl,zB⟩
  have yz:=nD.trans (zB.mono nD.size);have mu:=xX.below zB;have jw:=yQ.below zB;have c3:=mu.cell 3 rfl;have d3:=jw.cell 3 rfl;exact jbE
 have b4:((x.items.length:Int) != (y.items.length:Int))=false:=by simp;omega
 have p4:(x.items.length=y.items.length)=True:=eq_true h4;have H4:=Hh h4;have E:Hid (yL x y=uD x.items y.items):=by rw[Hid,E0];rfl
 clear h4 E0;go_enter Tryz.func77,Tryz.ntmps77
 go_wp2_with fail
 refine C.out.mono ?_
 rintro e w1 ⟨rfl,zB⟩
 have yz:=nD.trans (zB.mono nD.size);have mu:=xX.below zB;have jw:=yQ.below zB;have c3:=mu.cell 3 rfl;have d3:=jw.cell 3 rfl;clear xX yQ zB nD C;go_wp2_with fail
 go_loopw [39] (fun v39 wr=>∃ j:Nat,j≤x.items.length∧v39=.int .i64 j∧uD (x.items.drop j) (y.items.drop j)=uD x.items y.items∧Below w.heap.size w wr∧Blk wr (w.heap.size+1) 26 #[.int .i64 y.kind,.int .u64 y.n,.slice ba' y.bytes.length bc',.slice ia' y.items.length ic']) (fun v39 _=>x.items.length-(intOf v39).toNat)
 case atStart=>exact⟨0,Nat.zero_le _,rfl,rfl,yz,jw⟩
 case round =>
 obtain⟨j,hj,rfl,hs,xY,hDr⟩:=hrel;have HS:=Hh hs;clear hs c3 d3
 by_cases yu:j<x.items.length
 ·have Hg:j<y.items.length:=by have:=H4.out;omega
  have xN:=jge;obtain⟨ib,io,rC,wY⟩:=HX.out.items (by omega);obtain⟨jb,jo,hja,Cb⟩:=HY.out.items (by omega);obtain⟨y1,y2,y3,y4,q0,q1,q2,q3,uy⟩:=wY.get j yu;obtain⟨z1,z2,z3,z4,s0,s1,s2,s3,ij⟩:=Cb.get j Hg;subst rC hja;have p0:=xN.cell q0;have p1':=xN.cell q1;have p2':=xN.cell q2;have p3:=xN.cell q3;have hjy:(j:Int)<y.items.length:=by omega
  have rQ:uD (x.items.drop j) (y.items.drop j)=(yL x.items[j] y.items[j]&&uD (x.items.drop (j+1)) (y.items.drop (j+1))):=by rw[List.drop_eq_getElem_cons yu,List.drop_eq_getElem_cons Hg,uD]
  have uF:=Hh (HS.out.symm.trans rQ);have IH:=Hh (fun w1:World=>fun h1:Holds w1 H=>ih x.items[j] (us x j yu) y.items[j] H _ _ y1 _ y2 y3 _ y4 _ _ z1 _ z2 z3 _ z4 w1 (HMX.out.parts.2.2.get j yu) (JC.out.parts.2.2.get j Hg) uy.arg ij.arg h1)
  generalize x.items[j]'yu=u at *
  generalize y.items[j]'Hg=v at *
  have hT:=Blk.new wr 26 #[.int .i64 u.kind,.int .u64 u.n,.slice y1 u.bytes.length y2,.slice y3 u.items.length y4];have zE:=(xN.alloc (zU u y1 y2 y3 y4)).drew;have xO:=(xY.alloc xY.size (zU u y1 y2 y3 y4)).drew;have hDx:=(hDr.alloc (zU u y1 y2 y3 y4)).drew;have qq:=hT.drew;clear rQ wY Cb uy ij q0 q1 q2 q3 hT;go_upto_region 6 with fail
  refine zw 7 (fun w'=>w'.cell? ⟨wr.heap.size,0,none⟩=some (.int .i64 u.kind)∧w'.cell? ⟨wr.heap.size,1,none⟩=some (.int .u64 u.n)∧w'.cell? ⟨wr.heap.size,2,none⟩=some (.slice y1 u.bytes.length y2)∧w'.cell? ⟨wr.heap.size,3,none⟩=some (.slice y3 u.items.length y4)∧w'.cell? ⟨w.heap.size+1,3,none⟩=some (.slice (some ⟨jb,jo,none⟩) y.items.length ic')∧w'.cell? ⟨jb,jo+j*4,none⟩=some (.int .i64 v.kind)∧w'.cell? ⟨jb,jo+j*4+1,none⟩=some (.int .u64 v.n)∧w'.cell? ⟨jb,jo+j*4+2,none⟩=some (.slice z1 v.bytes.length z2)∧w'.cell? ⟨jb,jo+j*4+3,none⟩=some (.slice z3 v.items.length z4)) (by kernel_rfl) (⟨qq.cell 0 rfl,qq.cell 1 rfl,qq.cell 2 rfl,qq.cell 3 rfl,hDx.cell 3 rfl,zE.cell s0,zE.cell s1,zE.cell s2,zE.cell s3⟩) (fun zy=>?_)
  refine Tk 0 rfl zy ?_
  refine Tk 1 rfl zy ?_
  refine Tk 2 rfl zy ?_
  refine Tk 3 rfl zy ?_
  refine Tk 4 rfl zy ?_
  refine Tk 5 rfl zy ?_
  refine To 6 rfl fun K hK=>?_
  go_simp
  refine(IH.out _ zE).mono ?_
  rintro e w6 ⟨rfl,wX⟩
  have QN:=zE.below wX (Nat.le_refl _);have um:=xO.trans (wX.mono xO.size);have AZ:=hDx.below wX;have ol:=qq.below wX
  refine Ko hK ?_ fun zy=>?_
  ·exact⟨ol.cell 0 rfl,ol.cell 1 rfl,ol.cell 2 rfl,ol.cell 3 rfl,AZ.cell 3 rfl,QN.cell s0,QN.cell s1,QN.cell s2,QN.cell s3⟩
  clear hK K
  refine To 7 rfl fun K hK=>?_
  go_simp
  refine Kz hK ?_
  clear hK K
  refine Wd ?_
  clear zy p0 p1' p2' p3 s0 s1 s2 s3 xN zE xO hDx qq ol QN wX
  cases hq:yL u v with
  | false =>
   have EE:Hid (uD x.items y.items=false):=by rw[Hid,uF.out,hq];rfl
   clear hq;go_wp2_with fail
   go_ret
   exact⟨by rw[E.out,EE.out];rfl,um⟩
  | true =>
  have EE:Hid (uD (x.items.drop (j+1)) (y.items.drop (j+1))=uD x.items y.items):=by rw[Hid,uF.out,hq];rfl
  clear hq;go_wp2_with fail
  go_roundw
  case rel=>exact⟨j+1,by omega,by go_num,EE.out,um,AZ⟩
  case measure=>simp[intOf];omega
 have gI:j=x.items.length:=by omega
 subst gI;have EE:Hid (uD x.items y.items=true):=by rw[Hid,← HS.out,List.drop_length,H4.out,List.drop_length,uD]
 go_wp2_with fail
 go_ret
 exact⟨by rw[E.out,EE.out];rfl,xY⟩
theorem pz (x:Itm):jR x:=by
 have main:∀ N,∀ x:Itm,cnt x≤N→jR x:=by
  intro N
  induction N with
  | zero =>
   exact jbv
  | succ N ih=>exact fun x hx=>S0 x fun y hy=>ih y (by omega)
 exact jcm
theorem Zy {w:World}{b off n:Nat}{l:List UInt8}(h:∀ j (hj:j<l.length),w.cell? ⟨b,off+j,none⟩=some (zm l[j])) (k:Nat) (B:Option Addr) (hB:n≠0→B=some ⟨b,off+k,none⟩) (hk:k+n≤l.length):Src w B (((l.drop k).take n).map zm):=fun vl=>by
 have h0:n≠0:=by
  intro h0
  subst h0
  simp at vl
 refine⟨b,off+k,hB h0,fun j v hj=>?_⟩
 rw[List.getElem?_map]at hj;obtain⟨u,hu,rfl⟩:=Option.map_eq_some_iff.1 hj;rw[List.getElem?_take]at hu
 split at hu
 ·rename_i hjn
  rw[List.getElem?_drop]at hu;obtain⟨h1,h2⟩:=List.getElem?_eq_some_iff.1 hu;rw[Nat.add_assoc,h (k+j) h1,h2]
 cases hu
def dbl (n:Nat):Nat:=if n=0 then 0 else(1023+n.log2)*4503599627370496+(n*2 ^ (52-n.log2)-4503599627370496)
theorem kM:∀ n:Fin 1024,floatOfInt .f64 ((n.val:Nat):Int)=dbl n.val:=by decide +kernel
theorem Jh:∀ n:Fin 1024,floatBits .add .f64 (dbl n.val) (dbl 1024)=some (dbl (n.val+1024)):=by decide +kernel
theorem Ra {s e m:Nat}(hs:s≤1) (he:1≤e) (he2:e≤2046) (hm:m<4503599627370496) :
  floatBits .mul .f64 4607182418800017408 (s*9223372036854775808+e*4503599627370496+m)=some (s*9223372036854775808+e*4503599627370496+m):=by
 have e1:=jgB;obtain⟨e2,e3,e4⟩:=jfl;have e5:Ieee.double.fractionBits=52:=rfl;have r1:Ieee.double.read 4607182418800017408=.number false 4503599627370496 (-52):=by decide +kernel
 obtain⟨x,hx⟩:∃ x,s*9223372036854775808+e*4503599627370496+m=x:=⟨_,rfl⟩
 have r2:Ieee.double.read x=.number (s%2==1) (4503599627370496+m) (-1074+((e-1:Nat):Int)):=by
  unfold Ieee.Format.read
  rw[e1,e2,e3,e4];have a1:x/9223372036854775808=s:=by omega
  have a2:x%9223372036854775808=e*4503599627370496+m:=by omega
  simp only[a1,a2]
  rw[if_neg (by omega),if_pos (by omega)];congr 1
  ·omega
  have:(e*4503599627370496+m)/4503599627370496=e:=by omega
  rw[this]
 rw[hx];show((Ieee.double.read 4607182418800017408).product (Ieee.double.read x)).map Ieee.double.write=some x
 rw[r1,r2]
 simp only[Ieee.Datum.product,Option.map_some,Ieee.Format.write,Bool.false_bne]
 congr 1
 obtain⟨M,hM⟩:∃ M,4503599627370496+m=M:=⟨_,rfl⟩
 have Ah:4503599627370496≤M:=by omega
 have hM2:M<9007199254740992:=by omega
 have hl:(4503599627370496*M).log2=104:=by
  refine fb ?_ ?_
  ·have:(2:Nat) ^ 104=4503599627370496*4503599627370496:=by decide
   rw[this];exact Nat.mul_le_mul_left _ Ah
  have:(2:Nat) ^ (104+1)=4503599627370496*9007199254740992:=by decide
  rw[this];exact Nat.mul_lt_mul_of_pos_left hM2 (by omega)
 rw[hM]
 unfold Ieee.Format.nearest
 rw[if_neg (by intro h;rcases Nat.mul_eq_zero.1 h with h | h <;> omega),e2,e3,e4,e5,hl];have p1:max (-52+(-1074+((e-1:Nat):Int))+((104:Nat):Int)-((52:Nat):Int)) (-1074) = -1074+((e-1:Nat):Int):=by omega
 rw[p1];have p2:(-52+(-1074+((e-1:Nat):Int))-(-1074+((e-1:Nat):Int))).toNat=0:=by omega
 have p3:(-1074+((e-1:Nat):Int)-(-52+(-1074+((e-1:Nat):Int)))).toNat=52:=by omega
 have p4:(-1074+((e-1:Nat):Int) - -1074).toNat=e-1:=by omega
 simp only[p2,p3,p4,Nat.shiftLeft_zero]
 have hq:4503599627370496*M=M*2 ^ 52:=by rw[Nat.mul_comm]
 rw[hq,lQ _ M 52 (by rw[← hq,hl];omega)];clear p1 p2 p3 p4 hl hq r1 r2 e1 e2 e3 e4 e5;obtain⟨r,hr⟩:∃ r,min ((e-1)*4503599627370496+M) 9218868437227405312=r:=⟨_,rfl⟩
 have TI:r=(e-1)*4503599627370496+M:=by
  rw[← hr]
  exact Nat.min_eq_left (by omega)
 obtain⟨k,rfl⟩:∃ k,e=k+1:=⟨e-1,by omega⟩
 rw[hr,aE s r hs,TI,← hx,← hM,Nat.add_sub_cancel,Nat.succ_mul]
 simp only[Nat.add_assoc]
end Go.Proofs.YtliomcphdnppnaaGreatDoor
