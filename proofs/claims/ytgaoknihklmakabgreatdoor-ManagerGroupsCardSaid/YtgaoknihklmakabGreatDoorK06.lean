/- squeezed. Walks: the deck of numbers: Mod, N -/
import Derived.Test.YtgaoknihklmakabGreatDoorK05
import Derived.ChangeSlices
import Derived.OpenShut
import Derived.OwnWalk
import Derived.Shelf.Unicode.ValidAny
set_option linter.unusedVariables false
set_option linter.unusedSimpArgs false
set_option maxRecDepth 100000
set_option maxHeartbeats 6400000
namespace Go.Proofs.YtgaoknihklmakabGreatDoor
open Go.RowKit
theorem jck{P:Prop}(h:P:=by
 go_enter Tryz.func16,Tryz.ntmps16
 go_wp2_with fail
 refine CM.out.mono ?_
 rintro e w1 ⟨rfl,xR⟩
 go_wp2_with fail
 go_ret
 exact⟨by rw[D.out];try rfl,xR⟩):P:=h
theorem jcl{P:Prop}(h:P:=by
 refine h.kept hd.grows.grown ?_
 cases hv:v.ownBlock with
 | none=>exact .inl rfl
 | some k=>exact .inr (fun e=>by injection e with e;have:=h.lt k hv;omega)):P:=h
theorem jdh{P:Prop}(h:P:=by
 go_enter Tryz.func28,Tryz.ntmps28
 go_wp2_with fail
 go_ret
 exact⟨by rw[E.out];rfl,rfl⟩):P:=h
theorem jdk{P:Prop}(h:P:=by
 go_enter Tryz.func74,Tryz.ntmps74
 go_wp2_with fail
 go_ret
 exact⟨by rw[E.out];rfl,iM⟩):P:=h
theorem jdD{P:Prop}(h:P:=by
 simp[Lit.wf,IntKind.min,IntKind.max,IntKind.signed,IntKind.bits]at h
 omega):P:=h
structure IsInts (H:Snap) (A:Option Addr) (c:Nat) (l:List Int):Prop where
 le:l.length≤c
 max:c≤9223372036854775807
 row:Row H A (l.map (Value.int .i64))
 bnd:∀ x∈l, -9223372036854775808≤x∧x≤9223372036854775807
theorem IsInts.mono {H K:Snap}{A:Option Addr}{c:Nat}{l:List Int}(h:IsInts H A c l) (hl:H.le K):IsInts K A c l:=⟨h.le,h.max,h.row.mono hl,h.bnd⟩
def Deck (w:World) (g:Nat) (H:Snap):Prop:=∃ (A:Option Addr) (c:Nat) (l:List Int) (k:Nat),Blk w g 55 #[.slice A l.length c,.int .i64 k]∧IsInts H A c l∧k≤l.length
theorem Deck.mono {w:World}{g:Nat}{H K:Snap}(h:Deck w g H) (hl:H.le K):Deck w g K:=by
 obtain⟨A,c,l,k,h1,h2,h3⟩:=h
 exact⟨A,c,l,k,h1,h2.mono hl,h3⟩
theorem Deck.below {w w':World}{g:Nat}{H:Snap}(h:Deck w g H) (hb:Below w.heap.size w w'):Deck w' g H:=by
 obtain⟨A,c,l,k,h1,h2,h3⟩:=h
 exact⟨A,c,l,k,h1.below hb,h2,h3⟩
theorem Deck.lt {w:World}{g:Nat}{H:Snap}(h:Deck w g H):g<w.heap.size:=by
 obtain⟨A,c,l,k,h1,h2,h3⟩:=h
 exact h1.lt
def dA (v n:Int):Int:=if v.tmod n<0 then v.tmod n+n else v.tmod n
theorem aZ (v n:Int) (hn:0<n):0≤dA v n∧dA v n<n:=by
 have h1:=Int.tmod_lt_of_pos v hn;have h2 : -n<v.tmod n:=by have:=Int.tmod_lt_of_pos (-v) hn;rw[Int.neg_tmod]at this;omega
 unfold dA
 split <;> omega
theorem TS (v n:Int) (hn:0<n) (rY:n≤1099511627776) (w:World) :
  Calls Tryz.prog 28 #[.int .i64 v,.int .i64 n] w fun e w'=>e=.returned (.int .i64 (dA v n))∧w=w':=by
 have h1:=Int.tmod_lt_of_pos v hn;have h2 : -n<v.tmod n:=by have:=Int.tmod_lt_of_pos (-v) hn;rw[Int.neg_tmod]at this;omega
 have yj:(n==0)=false:=by rw[beq_eq_false_iff_ne];omega
 have pz:(n=0)=False:=eq_false (by omega);have K1:IntKind.i64.wrap (v.tmod n)=v.tmod n:=IntWalk.i64_in _ (by omega)
 by_cases h0:v.tmod n<0
 ·have E:Hid (dA v n=v.tmod n+n):=by rw[Hid,dA,if_pos h0]
  exact jdh
 have E:Hid (dA v n=v.tmod n):=by rw[Hid,dA,if_neg h0]
 exact jdh
theorem Nl {H:Snap}{A:Option Addr}{c:Nat}{l:List Int}(hl:IsInts H A c l) (w:World) :
  Calls Tryz.prog 8 #[.slice A l.length c] w fun e w'=>e=.returned (.pointer (some ⟨w.heap.size,0,none⟩))∧Deck w' w.heap.size H∧Below w.heap.size w w':=by
 have hB:=Blk.new w 55 #[.slice A l.length c,.int .i64 0];have hb:=zm w (.cells #[.slice A l.length c,.int .i64 0] 55);have HL:=Hh hl;clear hl;go_enter Tryz.func8,Tryz.ntmps8
 go_wp2_with fail
 go_ret
 exact⟨rfl,⟨A,c,l,0,hB,HL.out,Nat.zero_le _⟩,hb⟩
theorem T4:(Tryz.prog.info? 3).map (·.size)=some 1:=by kernel_rfl
theorem QQ {H:Snap}{g:Nat}(w:World) (hD:Deck w g H) (hH:Holds w H) (hg:H g=none) (n:Int) (hn:0<n) (rY:n≤1099511627776) :
  Calls Tryz.prog 10 #[.pointer (some ⟨g,0,none⟩),.int .i64 n] w fun e w'=>∃ r:Int,e=.returned (.int .i64 r)∧0≤r∧r<n∧Deck w' g H∧w.grownBy w' (some g):=by
 obtain⟨A,c,l,k,hB,hl,hk⟩:=hD;have hc:=hl.max;have xO:=hl.le;have HL:=Hh hl;have bV:=hB.drew;clear hl;have JV:(k:Int)+1≤9223372036854775807∨l.length≤k:=by omega
 have Ge:=Hh JV;have Ok:=Hh rY;clear hc xO JV rY;go_enter Tryz.func10,Tryz.ntmps10
 go_upto_region 1 with fail
 refine zj 9 (fun w'=>w'.cell? ⟨g,0,none⟩=some (.slice A l.length c)∧w'.cell? ⟨g,1,none⟩=some (.int .i64 k)) (by kernel_rfl) (⟨bV.cell 0 rfl,bV.cell 1 rfl⟩) (fun zy=>?_)
 refine Tk 0 rfl zy ?_
 refine Tk 1 rfl zy ?_
 refine Tk 2 rfl zy ?_
 refine Tk 3 rfl zy ?_
 refine Tk 4 rfl zy ?_
 refine Tk 5 rfl zy ?_
 refine Tk 6 rfl zy ?_
 refine Tk 7 rfl zy ?_
 refine Tk 8 rfl zy ?_
 refine To 9 rfl fun K hK=>?_
 go_simp
 refine Kz hK ?_
 clear hK K
 refine Wd ?_
 clear zy
 by_cases zB:k<l.length
 ·have iP:¬ (l.length:Int)≤k:=by omega
  have c1:=bV.cell 1 rfl;have rX:(k:Int)+1≤9223372036854775807:=by have:=Ge.out;omega
  have oS:IntKind.i64.wrap ((k:Int)+1)=(k:Int)+1:=IntWalk.i64_in _ (by omega);clear rX;go_wp2_with (with_reducible refine zx ?_)
  refine zu rfl _ _ _ rfl rfl g 1 (.int .i64 ((k:Int)+1)) rfl rfl _ _ bV T4 (by simp) rfl fun w2 yT zM=>?_
  obtain⟨ib,io,rfl,yF⟩:=HL.out.row (by intro h;rw[List.map_eq_nil_iff]at h;subst h;simp at zB);have zM:=yu (rz (yt w (some g))) zM (.inl rfl);have nB:Holds w2 H:=hH.grown zM (by rintro q ⟨⟩;exact hg);have hx:=yF k (.int .i64 l[k]) (by simp[zB]);have vL:Blk w2 g 55 #[.slice (some ⟨ib,io,none⟩) l.length c,.int .i64 ((k:Int)+1)]:=yT;have MD:=Hh (fun w3:World=>TS l[k] n hn Ok.out w3);have N8:=aZ l[k] n hn
  generalize l[k]'zB=x at *
  have xf:=nB.drew;have Lw:=vL.drew;have yY:=rz zM;have Ag:(k:Int)<l.length:=by omega
  have wu:IntKind.i64.wrap ((k:Int)+1-1)=(k:Int):=by rw[show(k:Int)+1-1=k by omega];exact IntWalk.i64_in _ (by have:=Ge.out;omega)
  have D9:IntKind.i64.wrap (k:Int)=(k:Int):=IntWalk.i64_in _ (by have:=Ge.out;omega);have sL:(0:Int)≤k:=by omega
  have DW:=Hh N8;clear yT zM nB c1 bV hB yF N8 iP;go_upto_region 4 with fail
  refine zj 13 (fun w'=>w'.cell? ⟨g,0,none⟩=some (.slice (some ⟨ib,io,none⟩) l.length c)∧w'.cell? ⟨g,1,none⟩=some (.int .i64 ((k:Int)+1))∧w'.cell? ⟨ib,io+k,none⟩=some (.int .i64 x)) (by kernel_rfl) (⟨Lw.cell 0 rfl,Lw.cell 1 rfl,xf.cell hx⟩) (fun zy=>?_)
  refine Tk 0 rfl zy ?_
  refine Tk 1 rfl zy ?_
  refine Tk 2 rfl zy ?_
  refine Tk 3 rfl zy ?_
  refine Tk 4 rfl zy ?_
  refine Tk 5 rfl zy ?_
  refine Tk 6 rfl zy ?_
  refine Tk 7 rfl zy ?_
  refine Tk 8 rfl zy ?_
  refine Tk 9 rfl zy ?_
  refine Tk 10 rfl zy ?_
  refine Tk 11 rfl zy ?_
  refine To 12 rfl fun K hK=>?_
  go_simp
  refine(MD.out _).mono ?_
  rintro e w5 ⟨rfl,rfl⟩
  refine Ko hK ?_ fun zy=>?_
  ·exact⟨Lw.cell 0 rfl,Lw.cell 1 rfl,xf.cell hx⟩
  clear hK K
  refine To 13 rfl fun K hK=>?_
  go_simp
  refine Kz hK ?_
  clear hK K
  refine Wd ?_
  clear zy;go_wp2_with fail
  go_ret
  exact⟨_,rfl,DW.out.1,DW.out.2,⟨_,c,l,k+1,Lw,HL.out,by omega⟩,yY⟩
 have iP:(l.length:Int)≤k:=by omega
 go_wp2_with fail
 go_ret
 exact⟨0,rfl,by omega,hn,⟨A,c,l,k,bV,HL.out,hk⟩,rz (yt w _)⟩
def qN (W:World):Snap:=fun b=>W.heap[b]?
theorem lp (W:World) (a:Addr):(qN W).cell? a=W.cell? a:=rfl
theorem ZR (W:World):Holds W (qN W):=fun _ _ h=>h
theorem Xl {W:World}(h:Lib.Utf8Tabs 0 1 W):Tabs (qN W):=fun _ hw =>
 ⟨fun c hc=>hw.cell (h.1 c hc),fun i hi=>⟨hw.cell (h.2 i hi).1,hw.cell (h.2 i hi).2⟩⟩
theorem YM {n:Int}(h:(Lit.int .i64 n).wf=true) : -9223372036854775808≤n∧n≤9223372036854775807:=by
 exact jdD
theorem Vv {n:Int}(h:(Lit.int .u8 n).wf=true):0≤n∧n<256:=by
 exact jdD
theorem VK {W:World}{a:Addr}{len cap:Nat}{zs:List Int}(hl:len≤cap) (hm:cap≤maxLen) (hz:len≤zs.length)
  (hc:∀ i,i<zs.length→W.cell? (a.add i)=some (.int .i64 (zs.getD i 0))) (wf:∀ n∈zs,(Lit.int .i64 n).wf=true):IsInts (qN W) (some a) cap (zs.take len)∧(zs.take len).length=len:=by
 have xF:(zs.take len).length=len:=by rw[List.length_take];omega
 refine⟨⟨by rw[xF];exact hl,by simpa [maxLen] using hm,fun uy=>?_,fun x hx=>YM (wf x (List.mem_of_mem_take hx))⟩,xF⟩
 have h0:0<len:=by
  rcases Nat.eq_zero_or_pos len with h | h
  ·subst h;simp at uy
  exact h
 obtain⟨b,off,rfl,yF⟩:=ints_at hc (by omega)
 refine⟨b,off,rfl,fun j v hj=>?_⟩
 rw[List.getElem?_map]at hj;obtain⟨x,hx,rfl⟩:=Option.map_eq_some_iff.1 hj;have uU:=(List.getElem?_eq_some_iff.1 hx).1;rw[xF]at uU;rw[lp,yF j (by omega)];rw[List.getElem?_take,if_pos uU]at hx
 simp[List.getD,hx]
def sp (zs:List Int):List UInt8:=zs.map fun n=>u8 n.toNat
theorem fM {W:World}{a:Addr}{len cap:Nat}{zs:List Int}(hl:len≤cap) (hm:cap≤maxLen) (hz:len≤zs.length)
  (hc:∀ i,i<zs.length→W.cell? (a.add i)=some (.int .u8 (zs.getD i 0))) (wf:∀ n∈zs,(Lit.int .u8 n).wf=true):IsBytes (qN W) (some a) cap (sp (zs.take len))∧(sp (zs.take len)).length=len:=by
 have xF:(sp (zs.take len)).length=len:=by rw[sp,List.length_map,List.length_take];omega
 refine⟨⟨by rw[xF];exact hl,by simpa [maxLen] using hm,fun uy=>?_⟩,xF⟩
 have h0:0<len:=by
  rcases Nat.eq_zero_or_pos len with h | h
  ·subst h;simp[sp]at uy
  exact h
 obtain⟨b,off,rfl,yF⟩:=ints_at hc (by omega)
 refine⟨b,off,rfl,fun j v hj=>?_⟩
 rw[sp,List.map_map,List.getElem?_map]at hj;obtain⟨x,hx,rfl⟩:=Option.map_eq_some_iff.1 hj;rw[List.getElem?_take]at hx
 split at hx
 ·rename_i uU
  have hb:=Vv (wf x (List.mem_of_getElem? hx));rw[lp,yF j (by omega)]
  simp[List.getD,hx,zT,re]
  omega
 cases hx
theorem uK:∀ a b:List UInt8,Lib.compareBytes a b=0↔a=b
 | [],[]=>by rw[Lib.compareBytes];simp
 | [],y::b=>by rw[Lib.compareBytes];simp
 | x::a,[]=>by rw[Lib.compareBytes];simp
 | x::a,y::b=>by
  rw[Lib.compareBytes]
  by_cases h1:x<y
  ·rw[if_pos h1];have:x≠y:=by rintro rfl;exact UInt8.lt_irrefl x h1
   simp[this]
  rw[if_neg h1]
  by_cases h2:y<x
  ·rw[if_pos h2];have:x≠y:=by rintro rfl;exact UInt8.lt_irrefl x h2
   simp[this]
  rw[if_neg h2];have e:x=y:=UInt8.toNat_inj.1 (by rw[UInt8.lt_iff_toNat_lt]at h1 h2;omega);subst e
  simp[uK a b]
theorem ju (w:World) (A B:Option Addr) (a b:List UInt8) (n m c d:Nat) (hn:n=a.length) (hm:m=b.length) (hna:n≤1099511627776) (hmb:m≤1099511627776) (ha:Src w A (a.map zT)) (hb:Src w B (b.map zT)) :
  Calls Tryz.prog 16 #[.slice A n c,.slice B m d] w fun e w'=>e=.returned (.bool (decide (a=b)))∧Below w.heap.size w w':=by
 have CM:=Hh (ss w A B a b n m c d hn hm hna hmb ha hb)
 by_cases hab:a=b
 ·have D:Hid (decide (a=b)=true):=decide_eq_true hab;have hz:Lib.compareBytes a b=0:=(uK a b).2 hab;have iu:n=m:=by rw[hn,hm,hab]
  rw[hz]at CM;clear hz hab ha hb hn hm hna hmb;subst iu;exact jck
 have D:Hid (decide (a=b)=false):=decide_eq_false hab;have hz:Lib.compareBytes a b≠0:=fun h=>hab ((uK a b).1 h)
 obtain⟨q,hq⟩:∃ q,Lib.compareBytes a b=q:=⟨_,rfl⟩
 rw[hq]at CM hz;have z0:(q==0)=false:=by simpa using hz
 have z1:(q=0)=False:=eq_false hz;clear hz hq hab ha hb hn hm hna hmb;exact jck
def kj (x:Itm):Prop:=∀ (y:Itm) (H:Snap) (k n:Int) (ba:Option Addr) (bl bc:Nat) (ia:Option Addr) (il ic:Nat) (k' n':Int) (ba':Option Addr) (bl' bc':Nat) (ia':Option Addr) (il' ic':Nat) (w:World),
 Modest x→Modest y→ItemA H k n ba bl bc ia il ic x→ItemA H k' n' ba' bl' bc' ia' il' ic' y→Holds w H→
 Calls Tryz.prog 74 #[.agg #[.int .i64 k,.int .u64 n,.slice ba bl bc,.slice ia il ic],.agg #[.int .i64 k',.int .u64 n',.slice ba' bl' bc',.slice ia' il' ic']] w fun e w'=>e=.returned (.bool (tC x y))∧Below w.heap.size w w'
theorem T2 (x y:Itm):tC x y=(x.kind==y.kind&&x.n==y.n&&x.bytes==y.bytes&&tV x.items y.items):=by cases x;cases y;rw[tC];rfl
theorem Vo:∀ l m:List Itm,tV l m=true→l.length=m.length:=fun l m h=>by rw[jw]at h;rw[h]
theorem Vp (x:Itm) (ih:∀ z:Itm,cnt z<cnt x→kj z):kj x:=by
 intro y H k n ba bl bc ia il ic k' n' ba' bl' bc' ia' il' ic' w hJ hmy hx hy hH
 obtain⟨rfl,rfl,rfl,rfl,nE⟩:=hx.eqs_;obtain⟨rfl,rfl,rfl,rfl,Q4⟩:=hy.eqs_;have HX:=Hh nE;have HY:=Hh Q4;have Mo:=Hh hJ;have BP:=Hh hmy;have pe:=nE.bounds;have kI:=Q4.bounds;have iM:=(zm w (zU x ba bc ia ic)).alloc (by simp) (zU y ba' bc' ia' ic');have y8:=(Blk.new w 83 #[.int .i64 x.kind,.int .u64 x.n,.slice ba x.bytes.length bc,.slice ia x.items.length ic]).alloc (zU y ba' bc' ia' ic');have yT:=Blk.new (w.alloc (zU x ba bc ia ic)) 83 #[.int .i64 y.kind,.int .u64 y.n,.slice ba' y.bytes.length bc',.slice ia' y.items.length ic']
 simp only[zh]at yT
 have nB:Holds ((w.alloc (zU x ba bc ia ic)).alloc (zU y ba' bc' ia' ic')) H:=(hH.alloc _).alloc _;have C:=Hh (ss _ ba ba' x.bytes y.bytes x.bytes.length y.bytes.length bc bc' rfl rfl (hJ.parts.1) (hmy.parts.1) (Src.of_row nE.bytes.row nB) (Src.of_row Q4.bytes.row nB));have ZG:x.items.length≤9223372036854775807:=by omega
 have Mi:y.items.length≤9223372036854775807:=by omega
 have HN1:=Hh pe.2.2.1;have Ok:=Hh kI.2.2.1;have E0:=T2 x y;clear hx hy nE Q4 pe kI hJ hmy
 by_cases h1:x.kind=y.kind
 case neg =>
  have E:Hid (tC x y=false):=by rw[Hid,E0];simp[h1]
  have b1:(x.kind != y.kind)=true:=by simp[h1]
  have p1:(x.kind=y.kind)=False:=eq_false h1;clear h1 E0;exact jdk
 have b1:(x.kind != y.kind)=false:=by simp[h1]
 have p1:(x.kind=y.kind)=True:=eq_true h1;have e1:(x.kind==y.kind)=true:=by simp[h1]
 rw[e1]at E0;clear h1 e1
 by_cases h2:x.n=y.n
 case neg =>
  have E:Hid (tC x y=false):=by rw[Hid,E0];simp[h2]
  have b2:((x.n:Int) != (y.n:Int))=true:=by simp;omega
  have p2:(x.n=y.n)=False:=eq_false h2;clear h2 E0;exact jdk
 have b2:((x.n:Int) != (y.n:Int))=false:=by simp;omega
 have p2:(x.n=y.n)=True:=eq_true h2;have e2:(x.n==y.n)=true:=by simp[h2]
 rw[e2]at E0;clear h2 e2;obtain⟨cmp,pD⟩:∃ cmp,Lib.compareBytes x.bytes y.bytes=cmp:=⟨_,rfl⟩
 have hz:=uK x.bytes y.bytes;rw[pD]at C hz;clear pD
 by_cases h3:x.bytes=y.bytes
 case neg =>
  have E:Hid (tC x y=false):=by rw[Hid,E0];simp[h3]
  have h0:cmp≠0:=fun h=>h3 (hz.1 h)
  have b3:(cmp != 0)=true:=by simp[h0]
  have p3:(cmp=0)=False:=eq_false h0;clear h3 E0 hz h0;go_enter Tryz.func74,Tryz.ntmps74
  go_wp2_with fail
  refine C.out.mono ?_
  rintro e w1 ⟨rfl,xR⟩
  have yg:=iM.trans (xR.mono iM.size);exact jcW
 have h0:=hz.2 h3;have e3:(x.bytes==y.bytes)=true:=by simp[h3]
 rw[e3]at E0;subst h0;clear hz h3 e3
 by_cases h4:x.items.length=y.items.length
 case neg =>
  have E:Hid (tC x y=false):=by
   rw[Hid,E0]
   cases hs:tV x.items y.items with
   | true=>exact absurd (Vo _ _ hs) h4
   | false=>rfl
  have b4:((x.items.length:Int) != (y.items.length:Int))=true:=by simp;omega
  have p4:(x.items.length=y.items.length)=False:=eq_false h4;clear h4 E0;go_enter Tryz.func74,Tryz.ntmps74
  go_wp2_with fail
  refine C.out.mono ?_
  rintro e w1 ⟨rfl,xR⟩
  have yg:=iM.trans (xR.mono iM.size);have Ru:=y8.below xR;have UR:=yT.below xR;have c3:=Ru.cell 3 rfl;have d3:=UR.cell 3 rfl;exact jcW
 have b4:((x.items.length:Int) != (y.items.length:Int))=false:=by simp;omega
 have p4:(x.items.length=y.items.length)=True:=eq_true h4;have H4:=Hh h4;have E:Hid (tC x y=tV x.items y.items):=by rw[Hid,E0];rfl
 clear h4 E0;go_enter Tryz.func74,Tryz.ntmps74
 go_wp2_with fail
 refine C.out.mono ?_
 rintro e w1 ⟨rfl,xR⟩
 have yg:=iM.trans (xR.mono iM.size);have Ru:=y8.below xR;have UR:=yT.below xR;have c3:=Ru.cell 3 rfl;have d3:=UR.cell 3 rfl;clear y8 yT xR iM C;go_wp2_with fail
 go_loopw [39] (fun v39 wr=>∃ j:Nat,j≤x.items.length∧v39=.int .i64 j∧tV (x.items.drop j) (y.items.drop j)=tV x.items y.items∧Below w.heap.size w wr∧Blk wr (w.heap.size+1) 83 #[.int .i64 y.kind,.int .u64 y.n,.slice ba' y.bytes.length bc',.slice ia' y.items.length ic']) (fun v39 _=>x.items.length-(intOf v39).toNat)
 case atStart=>exact⟨0,Nat.zero_le _,rfl,rfl,yg,UR⟩
 case round =>
 obtain⟨j,hj,rfl,hs,ws,CQ⟩:=hrel;have HS:=Hh hs;clear hs c3 d3
 by_cases zB:j<x.items.length
 ·have OS:j<y.items.length:=by have:=H4.out;omega
  have vv:Holds wr H:=hH.below ws (Nat.le_refl _);obtain⟨ib,io,pf,un⟩:=HX.out.items (by omega);obtain⟨jb,jo,Cx,L8⟩:=HY.out.items (by omega);obtain⟨y1,y2,y3,y4,q0,q1,q2,q3,rx⟩:=un.get j zB;obtain⟨z1,z2,z3,z4,s0,s1,s2,s3,mR⟩:=L8.get j OS;subst pf Cx;have p0:=vv.cell q0;have p1':=vv.cell q1;have p2':=vv.cell q2;have p3:=vv.cell q3;have AG:(j:Int)<y.items.length:=by omega
  have qP:tV (x.items.drop j) (y.items.drop j)=(tC x.items[j] y.items[j]&&tV (x.items.drop (j+1)) (y.items.drop (j+1))):=by rw[List.drop_eq_getElem_cons zB,List.drop_eq_getElem_cons OS,tV]
  have lf:=Hh (HS.out.symm.trans qP);have IH:=Hh (fun w1:World=>fun h1:Holds w1 H=>ih x.items[j] (ui x j zB) y.items[j] H _ _ y1 _ y2 y3 _ y4 _ _ z1 _ z2 z3 _ z4 w1 (Mo.out.parts.2.2.get j zB) (BP.out.parts.2.2.get j OS) rx.arg mR.arg h1)
  generalize x.items[j]'zB=u at *
  generalize y.items[j]'OS=v at *
  have hT:=Blk.new wr 83 #[.int .i64 u.kind,.int .u64 u.n,.slice y1 u.bytes.length y2,.slice y3 u.items.length y4];have xf:=(vv.alloc (zU u y1 y2 y3 y4)).drew;have pe:=(ws.alloc ws.size (zU u y1 y2 y3 y4)).drew;have Hq:=(CQ.alloc (zU u y1 y2 y3 y4)).drew;have gp:=hT.drew;clear qP un L8 rx mR q0 q1 q2 q3 hT;go_upto_region 6 with fail
  refine zj 7 (fun w'=>w'.cell? ⟨wr.heap.size,0,none⟩=some (.int .i64 u.kind)∧w'.cell? ⟨wr.heap.size,1,none⟩=some (.int .u64 u.n)∧w'.cell? ⟨wr.heap.size,2,none⟩=some (.slice y1 u.bytes.length y2)∧w'.cell? ⟨wr.heap.size,3,none⟩=some (.slice y3 u.items.length y4)∧w'.cell? ⟨w.heap.size+1,3,none⟩=some (.slice (some ⟨jb,jo,none⟩) y.items.length ic')∧w'.cell? ⟨jb,jo+j*4,none⟩=some (.int .i64 v.kind)∧w'.cell? ⟨jb,jo+j*4+1,none⟩=some (.int .u64 v.n)∧w'.cell? ⟨jb,jo+j*4+2,none⟩=some (.slice z1 v.bytes.length z2)∧w'.cell? ⟨jb,jo+j*4+3,none⟩=some (.slice z3 v.items.length z4)) (by kernel_rfl) (⟨gp.cell 0 rfl,gp.cell 1 rfl,gp.cell 2 rfl,gp.cell 3 rfl,Hq.cell 3 rfl,xf.cell s0,xf.cell s1,xf.cell s2,xf.cell s3⟩) (fun zy=>?_)
  refine Tk 0 rfl zy ?_
  refine Tk 1 rfl zy ?_
  refine Tk 2 rfl zy ?_
  refine Tk 3 rfl zy ?_
  refine Tk 4 rfl zy ?_
  refine Tk 5 rfl zy ?_
  refine To 6 rfl fun K hK=>?_
  go_simp
  refine(IH.out _ xf).mono ?_
  rintro e w6 ⟨rfl,sm⟩
  have M0:=xf.below sm (Nat.le_refl _);have uq:=pe.trans (sm.mono pe.size);have EU:=Hq.below sm;have vN:=gp.below sm
  refine Ko hK ?_ fun zy=>?_
  ·exact⟨vN.cell 0 rfl,vN.cell 1 rfl,vN.cell 2 rfl,vN.cell 3 rfl,EU.cell 3 rfl,M0.cell s0,M0.cell s1,M0.cell s2,M0.cell s3⟩
  clear hK K
  refine To 7 rfl fun K hK=>?_
  go_simp
  refine Kz hK ?_
  clear hK K
  refine Wd ?_
  clear zy p0 p1' p2' p3 s0 s1 s2 s3 vv xf pe Hq gp vN M0 sm
  cases hq:tC u v with
  | false =>
   have EE:Hid (tV x.items y.items=false):=by rw[Hid,lf.out,hq];rfl
   clear hq;go_wp2_with fail
   go_ret
   exact⟨by rw[E.out,EE.out];rfl,uq⟩
  | true =>
  have EE:Hid (tV (x.items.drop (j+1)) (y.items.drop (j+1))=tV x.items y.items):=by rw[Hid,lf.out,hq];rfl
  clear hq;go_wp2_with fail
  go_roundw
  case rel=>exact⟨j+1,by omega,by go_num,EE.out,uq,EU⟩
  case measure=>simp[intOf];omega
 have uU:j=x.items.length:=by omega
 subst uU;have EE:Hid (tV x.items y.items=true):=by rw[Hid,← HS.out,List.drop_length,H4.out,List.drop_length,tV]
 go_wp2_with fail
 go_ret
 exact⟨by rw[E.out,EE.out];rfl,ws⟩
theorem gI (x:Itm):kj x:=by
 have main:∀ N,∀ x:Itm,cnt x≤N→kj x:=by
  intro N
  induction N with
  | zero =>
   exact jbq
  | succ N ih=>exact fun x hx=>Vp x fun y hy=>ih y (by omega)
 exact jcq
theorem lH {w:World}{b off n:Nat}{l:List UInt8}(h:∀ j (hj:j<l.length),w.cell? ⟨b,off+j,none⟩=some (zT l[j])) (k:Nat) (B:Option Addr) (hB:n≠0→B=some ⟨b,off+k,none⟩) (hk:k+n≤l.length):Src w B (((l.drop k).take n).map zT):=fun uy=>by
 have h0:n≠0:=by
  intro h0
  subst h0
  simp at uy
 refine⟨b,off+k,hB h0,fun j v hj=>?_⟩
 rw[List.getElem?_map]at hj;obtain⟨u,hu,rfl⟩:=Option.map_eq_some_iff.1 hj;rw[List.getElem?_take]at hu
 split at hu
 ·rename_i JT
  rw[List.getElem?_drop]at hu;obtain⟨h1,h2⟩:=List.getElem?_eq_some_iff.1 hu;rw[Nat.add_assoc,h (k+j) h1,h2]
 cases hu
section
variable {w w' w'':World} {H H' H'':Snap} {g:Nat}
theorem GrowsBut.refl (hH:Holds w H) (g:Nat):GrowsBut w H w H g:=⟨yt w _,Snap.le.refl _,hH,fun _ _ h=>.inl h⟩
theorem GrowsBut.trans (h:GrowsBut w H w' H' g) (k:GrowsBut w' H' w'' H'' g):GrowsBut w H w'' H'' g :=
 ⟨yu h.grown k.grown (.inl rfl),h.le.trans k.le,k.holds,fun b o hb=>by
  rcases k.fresh b o hb with h1 | h1
  ·exact h.fresh b o h1
  exact .inr (Nat.le_trans h.grown.size h1)⟩
theorem Grows.but (h:Grows w H w' H') (g:Nat):GrowsBut w H w' H' g:=⟨wW h.below _,h.le,h.holds,h.fresh⟩
theorem GrowsBut.hid (h:GrowsBut w H w' H' g) {k:Nat}(hk:H k=.none) (hl:k<w.heap.size):H' k=.none:=by
 cases hH:H' k with
 | none=>rfl
 | some o =>
 rcases h.fresh k o hH with hx | hx
 ·rw[hk]at hx;cases hx
 omega
structure DeckIn (w:World) (g:Nat) (H:Snap):Prop where
 deck:Deck w g H
 holds:Holds w H
 apart:H g=.none
structure Dealt (w:World) (H:Snap) (w':World) (H':Snap) (g:Nat):Prop where
 grows:GrowsBut w H w' H' g
 deck:DeckIn w' g H'
theorem Dealt.refl (h:DeckIn w g H):Dealt w H w H g:=⟨GrowsBut.refl h.holds g,h⟩
theorem Dealt.trans (h:Dealt w H w' H' g) (k:Dealt w' H' w'' H'' g):Dealt w H w'' H'' g:=⟨h.grows.trans k.grows,k.deck⟩
theorem DeckIn.grows (h:DeckIn w g H) (k:Grows w H w' H'):Dealt w H w' H' g :=
 ⟨k.but g,⟨(h.deck.below k.below).mono k.le,k.holds,k.none h.apart h.deck.lt⟩⟩
theorem Dealt.grown (h:Dealt w H w' H' g) (k:Grows w' H' w'' H''):Dealt w H w'' H'' g:=h.trans (h.deck.grows k)
theorem Dealt.alloc (h:Dealt w H w' H' g) (o:Obj):Dealt w H (w'.alloc o) H' g:=h.grown ((Grows.refl h.deck.holds).alloc o)
theorem Dealt.le (h:Dealt w H w' H' g):H.le H':=h.grows.le
theorem Dealt.holds (h:Dealt w H w' H' g):Holds w' H':=h.deck.holds
theorem Dealt.size (h:Dealt w H w' H' g):w.heap.size≤w'.heap.size:=h.grows.grown.size
theorem Dealt.hid (h:Dealt w H w' H' g) {k:Nat}(hk:H k=.none) (hl:k<w.heap.size):H' k=.none:=h.grows.hid hk hl
theorem Dealt.grownRow {row:Option Nat}(h:Dealt w H w' H' g) (h0:∀ k,row=some k→H' k=.none) (hw:∀ k,row=some k→w.heap.size≤k) (zB:g<w.heap.size) (hg:w'.grownBy w'' row):Dealt w H w'' H' g:=by
 have hd:=h.deck;have uy:row≠some g:=fun e=>by have:=hw g e;omega
 refine⟨⟨?_,h.le,h.holds.grown hg h0,h.grows.fresh⟩, ?_,h.holds.grown hg h0,hd.apart⟩
 ·exact⟨hg.os.trans h.grows.grown.os,hg.tape.trans h.grows.grown.tape,hg.output.trans h.grows.grown.output,Nat.le_trans h.size hg.size,fun i hi hne' =>
   (hg.block i (Nat.lt_of_lt_of_le hi h.size) (fun e=>by have:=hw i e.symm;omega)).trans (h.grows.grown.block i hi hne')⟩
 obtain⟨A,c,l,k,h1,h2,h3⟩:=hd.deck
 exact⟨A,c,l,k,h1.grown hg uy,h2,h3⟩
theorem Blk.dealt {k:Nat}{t:TypeId}{cs:Array Value}(h:Blk w k t cs) (hd:Dealt w H w' H' g) (hk:k≠g):Blk w' k t cs :=
 h.grown hd.grows.grown (by intro e;injection e with e;exact hk e.symm)
theorem OwnB.dealt {base:Nat}{v:Value}{l:List UInt8}(h:OwnB w base v l) (hd:Dealt w H w' H' g) (hb:g<base):OwnB w' base v l:=by
 exact jcl
end
theorem vG {H:Snap}{g:Nat}(w:World) (hD:DeckIn w g H) (n:Int) (hn:0<n) (rY:n≤1099511627776) :
  Calls Tryz.prog 10 #[.pointer (some ⟨g,0,none⟩),.int .i64 n] w fun e w'=>∃ r:Nat,e=.returned (.int .i64 (r:Int))∧(r:Int)<n∧Dealt w H w' H g:=by
 refine(QQ w hD.deck hD.holds hD.apart n hn rY).mono ?_
 rintro e w' ⟨r,rfl,h0,h1,h2,h3⟩
 obtain⟨k,rfl⟩:=Int.eq_ofNat_of_zero_le h0;have hH:=hD.holds.grown h3 (by rintro q ⟨⟩;exact hD.apart)
 exact⟨k,rfl,h1,⟨h3,Snap.le.refl _,hH,fun _ _ h=>.inl h⟩,h2,hH,hD.apart⟩
end Go.Proofs.YtgaoknihklmakabGreatDoor
namespace Go.Proofs.YtgaoknihklmakabGreatDoor
open Go.RowKit Go.Shelf
def Nw:Go.Shelf.Ren:=⟨fun | 196=>44 | 259=>50 | n=>n,
 fun | 0=>0 | 3=>3 | 4=>4 | 5=>5 | 9=>9 | 12=>12 | 46=>75 | 53=>64 | 119=>87 | 138=>89 | 139=>90 | n=>n,
 fun | 3=>0 | 4=>1 | n=>n⟩
theorem Ql:Lays.n196 Tryz.prog Nw where
 mixed:=by kernel_rfl
 f196:=Tryz.func44.trans (congrArg some (by kernel_rfl))
 f259:=Tryz.func50.trans (congrArg some (by kernel_rfl))
 t0:=Tryz.underlying0
 a0:=Tryz.isAgg0
 z0:=Tryz.sizeOf0
 v0:=Tryz.zeroValue0
 t3:=Tryz.underlying3
 a3:=Tryz.isAgg3
 z3:=Tryz.sizeOf3
 v3:=Tryz.zeroValue3
 t4:=Tryz.underlying4
 a4:=Tryz.isAgg4
 z4:=Tryz.sizeOf4
 v4:=Tryz.zeroValue4
 t5:=Tryz.underlying5
 a5:=Tryz.isAgg5
 z5:=Tryz.sizeOf5
 v5:=Tryz.zeroValue5
 t9:=Tryz.underlying9
 a9:=Tryz.isAgg9
 z9:=Tryz.sizeOf9
 v9:=Tryz.zeroValue9
 t12:=Tryz.underlying12
 a12:=Tryz.isAgg12
 z12:=Tryz.sizeOf12
 v12:=Tryz.zeroValue12
 t46:=Tryz.underlying75
 a46:=Tryz.isAgg75
 z46:=Tryz.sizeOf75
 v46:=Tryz.zeroValue75
 t53:=Tryz.underlying64
 a53:=Tryz.isAgg64
 z53:=Tryz.sizeOf64
 v53:=Tryz.zeroValue64
 t119:=Tryz.underlying87
 a119:=Tryz.isAgg87
 z119:=Tryz.sizeOf87
 t138:=Tryz.underlying89
 a138:=Tryz.isAgg89
 z138:=Tryz.sizeOf89
 v138:=Tryz.zeroValue89
 t139:=Tryz.underlying90
 a139:=Tryz.isAgg90
 z139:=Tryz.sizeOf90
 v139:=Tryz.zeroValue90
 g3:=by kernel_rfl
 g4:=by kernel_rfl
theorem utf8_ValidString {H:Snap}(hT:Tabs H) (w:World) (hH:Holds w H) (s:ByteArray) (hs:s.size≤9223372036854775807) :
  Calls Tryz.prog 44 #[.string s] w fun e w'=>e=.returned (.bool (Lib.validD s.data.toList))∧Below w.heap.size w w' :=
 Any.utf8_ValidString Ql s w hs (hT w hH)
theorem Dealt.gb {w w' w'':World}{H H':Snap}{g k:Nat}(h:Dealt w H w' H' g) (h0:H' k=none) (hw:w.heap.size≤k) (zB:g<w.heap.size) (hg:w'.grownBy w'' (some k)):Dealt w H w'' H' g:=h.grownRow (row:=some k) (by rintro q ⟨⟩;exact h0) (by rintro q ⟨⟩;exact hw) zB hg
end Go.Proofs.YtgaoknihklmakabGreatDoor
