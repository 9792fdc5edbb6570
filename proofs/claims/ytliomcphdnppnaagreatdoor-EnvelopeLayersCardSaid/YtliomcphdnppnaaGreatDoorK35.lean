/- squeezed. Authenticated envelopes: what both -/
import Derived.Test.YtliomcphdnppnaaGreatDoorK34
set_option linter.unusedVariables false
set_option linter.unusedSimpArgs false
set_option maxRecDepth 100000
namespace Go.Proofs.YtliomcphdnppnaaGreatDoor
open Go.RowKit
structure Ev where
 p:Itm
 u:Itm
 body:List UInt8
 tag:List UInt8
structure EvAd where
 a:Ad
 b:Ad
 ba:Option Addr
 bc:Nat
 ta:Option Addr
 tc:Nat
abbrev evC (p:Itm) (a:Ad) (u:Itm) (b:Ad) (ba:Option Addr) (bn bc:Nat) (ta:Option Addr) (tn tc:Nat):Array Value :=
 #[.int .i64 p.kind,.int .u64 p.n,.slice a.ba p.bytes.length a.bc,.slice a.ia p.items.length a.ic,.int .i64 u.kind,.int .u64 u.n,.slice b.ba u.bytes.length b.bc,.slice b.ia u.items.length b.ic,.slice ba bn bc,.slice ta tn tc]
abbrev evQ (v:Ev) (a:EvAd):Array Value:=evC v.p a.a v.u a.b a.ba v.body.length a.bc a.ta v.tag.length a.tc
structure EvA (H:Snap) (v:Ev) (a:EvAd):Prop where
 p:IsItem H a.a.ba a.a.bc a.a.ia a.a.ic v.p
 u:IsItem H a.b.ba a.b.bc a.b.ia a.b.ic v.u
 body:IsBytes H a.ba a.bc v.body
 tag:IsBytes H a.ta a.tc v.tag
theorem EvA.mono {H K:Snap}{v:Ev}{a:EvAd}(h:EvA H v a) (hl:H.le K):EvA K v a:=⟨h.p.mono hl,h.u.mono hl,h.body.mono hl,h.tag.mono hl⟩
abbrev sp:Array Value:=#[.int .i64 0,.int .u64 0,.slice none 0 0,.slice none 0 0,.int .i64 0,.int .u64 0,.slice none 0 0,.slice none 0 0,.slice none 0 0,.slice none 0 0]
def eV:Ev:=⟨zn,zn,[],[]⟩
def fY:EvAd:=⟨⟨none,0,none,0⟩,⟨none,0,none,0⟩,none,0,none,0⟩
theorem eB (H:Snap):EvA H eV fY:=⟨IsItem.plain H 0 0 (by omega) (by omega),IsItem.plain H 0 0 (by omega) (by omega),IsBytes.nil _,IsBytes.nil _⟩
def rg:List UInt8:=[77,65,67,48]
theorem Xm:Lib.validD rg=true:=by kernel_rfl
def qB (p u:Itm) (ext pay key:List UInt8):Int :=
 if zI p u=false then 1 else if nw (rF p u)=0∨key.length=0 then 12 else if 4096<pay.length then 8 else yU rg p u ext [pay]
def QA (p u:Itm) (ext pay key:List UInt8):List UInt8 :=
 (sx key (zi (yD rg p ext [pay]))).take (nw (rF p u))
def fv (p u:Itm) (ext pay key:List UInt8):Ev:=if qB p u ext pay key=0 then⟨p,u,pay,QA p u ext pay key⟩ else eV
def MacOut (w:World) (H:Snap) (p u:Itm) (ext pay key:List UInt8) (e:Ending) (w':World):Prop :=
 ∃ a H',e=.returned (.tuple #[.agg (evQ (fv p u ext pay key) a),.int .i64 (qB p u ext pay key)])∧Grows w H w' H'∧EvA H' (fv p u ext pay key) a
theorem MacOut.bad {w w':World}{H:Snap}{p u:Itm}{ext pay key:List UInt8}{c:Int}{e:Ending}(hc:qB p u ext pay key=c) (h0:c≠0) (hG:Grows w H w' H) (he:e=.returned (.tuple #[.agg sp,.int .i64 c])):MacOut w H p u ext pay key e w':=by
 have hv:fv p u ext pay key=eV:=by rw[fv,if_neg (by omega)]
 refine⟨fY,H, ?_,hG, ?_⟩
 ·rw[hv,hc,he];rfl
 rw[hv]
 exact eB H
theorem jS {p u:Itm}{ext pay key:List UInt8}(hv:zI p u=true) (ha:nw (rF p u)≠0) (hk:key.length≠0) (hp:¬ 4096<pay.length):qB p u ext pay key=yU rg p u ext [pay]:=by
 rw[qB,if_neg (by simp[hv]),if_neg (by omega),if_neg hp]
theorem MacOut.good {w w':World}{H H':Snap}{p u:Itm}{ext pay key:List UInt8}{e:Ending}{xa xb:Ad}{BA:Option Addr}{bn bc:Nat}{TA:Option Addr}{c n:Nat}{l:List UInt8}(hc:qB p u ext pay key=0) (hG:Grows w H w' H') (hp:IsItem H' xa.ba xa.bc xa.ia xa.ic p) (hu:IsItem H' xb.ba xb.bc xb.ia xb.ic u)
  (Ty:bn=pay.length) (hb:IsBytes H' BA bc pay) (hn:nw (rF p u)=n) (hl:l=zi (yD rg p ext [pay])) (cV:n≤(sx key l).length) (ht:IsBytes H' TA c (sx key l)) (he:e=.returned (.tuple #[.agg (evC p xa u xb BA bn bc TA n n),.int .i64 0])):MacOut w H p u ext pay key e w':=by
 have hv:fv p u ext pay key=⟨p,u,pay,(sx key l).take n⟩:=by rw[fv,if_pos hc,QA,hn,hl]
 have xK:((sx key l).take n).length=n:=by rw[List.length_take];omega
 refine⟨⟨xa,xb,BA,bc,TA,n⟩,H', ?_,hG, ?_⟩
 ·rw[hv,hc,he,Ty];show _=Ending.returned (.tuple #[.agg (evC p xa u xb BA pay.length bc TA ((sx key l).take n).length n),.int .i64 0])
  rw[xK]
 rw[hv]
 exact⟨hp,hu,hb,⟨by show((sx key l).take n).length≤n;rw[xK];exact Nat.le_refl _,by show n≤9223372036854775807;have:=ht.le;have:=ht.max;omega,(ht.take' n).row⟩⟩
theorem qP {ctx:List UInt8}{p u:Itm}{ext:List UInt8}{pay:List (List UInt8)}(h:yU ctx p u ext pay=0):(zi (yD ctx p ext pay)).length≤4096:=by
 unfold yU at h
 split at h
 ·cases h
 split at h
 ·cases h
 split at h
 ·cases h
 rename_i hv
 exact(vN (by simpa using hv)).2.2
def wW:List UInt8:=[69,110,99,114,121,112,116,48]
def nt (g:Int):Nat:=if g=10 then 8 else if g=30 then 16 else 0
theorem Sp (g:Int):nt g=0∨nt g=8∨nt g=16:=by
 unfold nt
 split
 ·exact .inr (.inl rfl)
 split <;> simp
def ng (p u:Itm) (ext plain key nonce:List UInt8):Int×List UInt8:=uU key nonce (zi (yD wW p ext [])) plain (nt (rF p u))
def sy (p u:Itm) (ext plain key nonce:List UInt8):Int :=
 if zI p u=false then 1 else if nt (rF p u)=0 then 12 else if yU wW p u ext []≠0 then yU wW p u ext [] else(ng p u ext plain key nonce).1
def nh (p u:Itm) (ext plain key nonce:List UInt8):Ev:=if sy p u ext plain key nonce=0 then⟨p,u,(ng p u ext plain key nonce).2,[]⟩ else eV
def ESealOut (w:World) (H:Snap) (p u:Itm) (ext plain key nonce:List UInt8) (e:Ending) (w':World):Prop :=
 ∃ a H',e=.returned (.tuple #[.agg (evQ (nh p u ext plain key nonce) a),.int .i64 (sy p u ext plain key nonce)])∧Grows w H w' H'∧EvA H' (nh p u ext plain key nonce) a
theorem ESealOut.bad {w w':World}{H:Snap}{p u:Itm}{ext plain key nonce:List UInt8}{c:Int}{e:Ending}(hc:sy p u ext plain key nonce=c) (h0:c≠0) (hG:Grows w H w' H) (he:e=.returned (.tuple #[.agg sp,.int .i64 c])):ESealOut w H p u ext plain key nonce e w':=by
 have hv:nh p u ext plain key nonce=eV:=by rw[nh,if_neg (by omega)]
 refine⟨fY,H, ?_,hG, ?_⟩
 ·rw[hv,hc,he];rfl
 rw[hv]
 exact eB H
theorem ESealOut.good {w w':World}{H H':Snap}{p u:Itm}{ext plain key nonce:List UInt8}{e:Ending}{xa xb:Ad}{BA:Option Addr}{bn bc:Nat}(hc:sy p u ext plain key nonce=0) (hG:Grows w H w' H') (hp:IsItem H' xa.ba xa.bc xa.ia xa.ic p) (hu:IsItem H' xb.ba xb.bc xb.ia xb.ic u)
  {l:List UInt8} (hl:(ng p u ext plain key nonce).2=l) (Ty:bn=l.length) (hb:IsBytes H' BA bc l) (he:e=.returned (.tuple #[.agg (evC p xa u xb BA bn bc none 0 0),.int .i64 0])):ESealOut w H p u ext plain key nonce e w':=by
 have hv:nh p u ext plain key nonce=⟨p,u,l,[]⟩:=by rw[nh,if_pos hc,hl]
 refine⟨⟨xa,xb,BA,bc,none,0⟩,H', ?_,hG, ?_⟩
 ·rw[hv,hc,he,Ty];rfl
 rw[hv]
 exact⟨hp,hu,hb,IsBytes.nil _⟩
theorem dM {p u:Itm}{ext plain key nonce:List UInt8}(hv:zI p u=true) (ha:nt (rF p u)≠0) (hi:yU wW p u ext []≠0):sy p u ext plain key nonce=yU wW p u ext []:=by
 rw[sy,if_neg (by simp[hv]),if_neg ha,if_pos hi]
theorem jZ {p u:Itm}{ext plain key nonce:List UInt8}(hv:zI p u=true) (ha:nt (rF p u)≠0) (hi:yU wW p u ext []=0):sy p u ext plain key nonce=(ng p u ext plain key nonce).1:=by
 rw[sy,if_neg (by simp[hv]),if_neg ha,if_neg (by omega)]
theorem IsRows.nil0 (H:Snap):IsRows H none 0 []:=⟨Nat.le_refl _,by omega,fun h=>by simp at h⟩
end Go.Proofs.YtliomcphdnppnaaGreatDoor
