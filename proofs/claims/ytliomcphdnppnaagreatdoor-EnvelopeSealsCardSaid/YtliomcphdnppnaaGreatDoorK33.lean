/- squeezed. Walks: an envelope is opened, by t -/
import Derived.Test.YtliomcphdnppnaaGreatDoorK32
import Derived.OwnWalk
import Derived.BigQuiet
set_option linter.unusedVariables false
set_option linter.unusedSimpArgs false
set_option maxRecDepth 100000
set_option maxHeartbeats 25600000
namespace Go.Proofs.YtliomcphdnppnaaGreatDoor
open Go.RowKit
def wE (v:Ev) (ext key nonce:List UInt8):Int×List UInt8 :=
 if zV v.p v.u=false∨0<v.tag.length then(1,[]) else if vE (vt v.p v.u)=0 then(12,[]) else if yj xW v.p v.u ext []≠0 then(yj xW v.p v.u ext [],[])
 else wD key nonce (zh (we xW v.p ext [])) v.body (vE (vt v.p v.u))
theorem ix {H:Snap}(hTab:Tabs H) {v:Ev}{a:EvAd}(hv:EvA H v a)
  {EA:Option Addr} {en ec:Nat} {ext:List UInt8} (dn:en=ext.length) (hext:IsBytes H EA ec ext) (xI:ext.length≤1048576)
  {KA:Option Addr} {kn kc:Nat} {key:List UInt8} (uN:kn=key.length) (uM:IsBytes H KA kc key) {NA:Option Addr} {nn nc:Nat} {nonce:List UInt8} (wd:nn=nonce.length) (uI:IsBytes H NA nc nonce) (w:World) (hH:Holds w H) :
  Calls Tryz.prog 15 #[.agg (evQ v a),.slice EA en ec,.slice KA kn kc,.slice NA nn nc] w (wI w (wE v ext key nonce)):=by
 have hB:=Blk.new w 36 (evQ v a);have hG:=(Grows.refl hH).alloc (.cells (evQ v a) 36);obtain⟨p,u,body,tag⟩:=v;obtain⟨bn,nW⟩:∃ n,body.length=n:=⟨_,rfl⟩
 obtain⟨tn,rL⟩:∃ n,tag.length=n:=⟨_,rfl⟩
 have HN:=Hh (And.intro nW rL);have EQ0:evQ ⟨p,u,body,tag⟩ a=evC p a.a u a.b a.ba bn a.bc a.ta tn a.tc:=by rw[← nW,← rL]
 rw[EQ0]at hB hG⊢;have HT:=Hh hTab;have oQ:Hid (IsItem H a.a.ba a.a.bc a.a.ia a.a.ic p∧IsItem H a.b.ba a.b.bc a.b.ia a.b.ic u∧IsBytes H a.ba a.bc body):=⟨hv.p,hv.u,hv.body⟩
 have HX:=Hh (And.intro dn (And.intro hext xI));have HK:=Hh (And.intro uN uM);have ow:=Hh (And.intro wd uI);have V:=Hh (tB HT.out oQ.out.1 oQ.out.2.1 _ hG.holds)
 have NO:∀ c:Int,wE ⟨p,u,body,tag⟩ ext key nonce=(c,[])→∀ w',Below w.heap.size w w'→Hid (wI w (wE ⟨p,u,body,tag⟩ ext key nonce) (.returned (.tuple #[.slice none 0 0,.int .i64 c])) w'):=fun c h w' hb=>by
  rw[h]
  exact⟨_,rfl,OwnB.nil _ _,hb⟩
 have O1:zV p u=false∨0<tn→wE ⟨p,u,body,tag⟩ ext key nonce=(1,[]):=fun h=>by rw[wE,if_pos (by rw[← rL]at h;exact h)]
 have O2:zV p u=true→tn=0→vE (vt p u)=0→wE ⟨p,u,body,tag⟩ ext key nonce=(12,[]):=fun h h0 h1=>by rw[wE,if_neg (by simp[h,rL,h0]),if_pos h1]
 have O3:zV p u=true→tn=0→vE (vt p u)≠0→∀ E,yj xW p u ext []=E→E≠0→wE ⟨p,u,body,tag⟩ ext key nonce=(E,[]):=fun h h0 h1 E h2 h3=>by rw[wE,if_neg (by simp[h,rL,h0]),if_neg h1,if_pos (by rw[h2];exact h3),h2]
 have O4:zV p u=true→tn=0→vE (vt p u)≠0→yj xW p u ext []=0→wE ⟨p,u,body,tag⟩ ext key nonce=wD key nonce (zh (we xW p ext [])) body (vE (vt p u)):=fun h h0 h1 h2=>by rw[wE,if_neg (by simp[h,rL,h0]),if_neg h1,if_neg (by rw[h2];simp)]
 have HO:=Hh (And.intro O1 (And.intro O2 (And.intro O3 O4)));have jQ:=Hh NO;clear EQ0 hTab hv dn hext xI uN uM wd uI hH nW rL NO O1 O2 O3 O4;have c0:=hB.cell 0 rfl;have c1:=hB.cell 1 rfl;have c2:=hB.cell 2 rfl;have c3:=hB.cell 3 rfl;have c4:=hB.cell 4 rfl;have c5:=hB.cell 5 rfl;have c6:=hB.cell 6 rfl;have c7:=hB.cell 7 rfl;go_enter Tryz.func15,Tryz.ntmps15
 go_wp2_with fail
 refine V.out.mono ?_
 rintro e w2 ⟨rfl,zG⟩
 replace hB:=hB.below zG;replace hG:=hG.below_ zG;clear V zG c0 c1 c2 c3 c4 c5 c6 c7;have c9:=hB.cell 9 rfl
 cases hvh:zV p u with
 | false =>
  have R:=(jQ.out 1 (HO.out.1 (.inl hvh)) _ hG.below)
  clear hvh hB hG;go_wp2_with fail
  go_ret2
  exact R.out
 | true =>
 have HV:=Hh hvh;clear hvh
 by_cases WU:tn=0
 case neg =>
  have t0:(0:Int)<(tn:Int):=by omega
  have R:=(jQ.out 1 (HO.out.1 (.inr (by omega))) _ hG.below)
  clear hB hG WU;go_wp2_with fail
  go_ret2
  exact R.out
 case pos =>
 subst WU;have AL:=Hh (kG (HT.out.mono hG.le) (oQ.out.1.mono hG.le) (oQ.out.2.1.mono hG.le) _ hG.holds);have c0:=hB.cell 0 rfl;have c1:=hB.cell 1 rfl;have c2:=hB.cell 2 rfl;have c3:=hB.cell 3 rfl;have c4:=hB.cell 4 rfl;have c5:=hB.cell 5 rfl;have c6:=hB.cell 6 rfl;have c7:=hB.cell 7 rfl;obtain⟨g,hg⟩:∃ g,vt p u=g:=⟨_,rfl⟩
 rw[hg]at AL;have HG:=Hh hg;clear hg;go_wp2_with fail
 refine AL.out.mono ?_
 rintro e w3 ⟨rfl,xn⟩
 replace hB:=hB.below xn;replace hG:=hG.below_ xn;clear AL xn c0 c1 c2 c3 c4 c5 c6 c7 c9;have TB:=Hh (fL g w3);have rL:=oD g;obtain⟨n,hn⟩:∃ n,vE g=n:=⟨_,rfl⟩
 rw[hn]at rL TB;have TP:Hid (vE (vt p u)=n):=by rw[Hid,HG.out,hn]
 clear hn HG;have SK:=Hh rL;go_wp2_with fail
 refine TB.out.mono ?_
 rintro e w3' ⟨rfl,rfl⟩
 clear TB
 by_cases h0:n=0
 ·subst h0;have R:=(jQ.out 12 (HO.out.2.1 HV.out (by trivial) TP.out) _ hG.below)
  clear hB hG rL;go_wp2_with fail
  go_ret2
  exact R.out
 have n0:((n:Int)==0)=false:=by rw[beq_eq_false_iff_ne];omega
 have n1:((n:Int)=0)=False:=eq_false (by omega);have N0:Hid (vE (vt p u)≠0):=by rw[Hid,TP.out];exact h0
 clear h0 rL;have c0:=hB.cell 0 rfl;have c1:=hB.cell 1 rfl;have c2:=hB.cell 2 rfl;have c3:=hB.cell 3 rfl;have c4:=hB.cell 4 rfl;have c5:=hB.cell 5 rfl;have c6:=hB.cell 6 rfl;have c7:=hB.cell 7 rfl;have IN:=Hh (sQ (HT.out.mono hG.le) (oQ.out.1.mono hG.le) (oQ.out.2.1.mono hG.le) ⟨#[69,110,99,114,121,112,116,48]⟩ (by show(8:Nat)≤_;omega) (HX.out.2.1.mono hG.le) HX.out.2.2 (IsRows.nil0 _) (by simp) (fun l hl=>by cases hl) _ hG.holds);rw[← HX.out.1]at IN;go_wp2_with fail
 refine IN.out.mono ?_
 rintro e w5 ⟨r5,l5,rfl,wL,tQ⟩
 have Yh:([69,110,99,114,121,112,116,48]:List UInt8)=xW:=rfl
 try simp only[]at tQ
 rw[Yh]at tQ⊢;clear Yh IN;obtain⟨B5,d5,rfl,sL,wZ⟩:=wL.own.form;clear wZ;replace hB:=hB.below wL.2;clear c0 c1 c2 c3 c4 c5 c6 c7;obtain⟨E5,dR⟩:∃ E,yj xW p u ext []=E:=⟨_,rfl⟩
 rw[dR]at tQ⊢;have gv:Hid (yj xW p u ext []=E5):=dR;clear dR
 by_cases hE0:E5=0
 case neg =>
  have e0:(E5 != 0)=true:=by rw[bne_iff_ne];exact hE0
  have e1:=eq_false hE0;have R:=(jQ.out E5 (HO.out.2.2.1 HV.out (by trivial) N0.out E5 gv.out hE0) w5 (hG.below_ wL.2).below)
  clear hB wL tQ hG hE0 sL;go_wp2_with fail
  go_ret2
  exact R.out
 case pos =>
 subst hE0;rw[if_pos rfl]at tQ;obtain⟨H5,wn,m8,wZ⟩:=Fresh.snapB hG.holds wL;clear wZ;have zC:=hG.le.trans wn.le;replace hG:=hG.trans wn
 have OP:=Hh (Wg (kc:=kc) HK.out.1 (by have:=HK.out.2.le;have:=HK.out.1;omega) (nc:=nc) ow.out.1 (an:=l5.length) (ac:=d5) rfl (by have:=m8.le;omega) (pn:=bn) (pc:=a.bc) HN.out.1.symm (by have:=oQ.out.2.2.le;have:=HN.out.1;omega) oQ.out.2.2.max n (by have:=SK.out;omega) w5
  (Src.of_row (HK.out.2.mono zC).row hG.holds) (Src.of_row (ow.out.2.mono zC).row hG.holds) (Src.of_row m8.row hG.holds) (Src.of_row (oQ.out.2.2.mono zC).row hG.holds))
 have HR:Hid (wE ⟨p,u,body,tag⟩ ext key nonce=wD key nonce l5 body n):=by rw[Hid,HO.out.2.2.2 HV.out (by trivial) N0.out gv.out,TP.out,tQ]
 have Rx:=Hh hG.below;have c8:=hB.cell 8 rfl;clear wL tQ wn m8 zC hG hB sL;go_wp2_with fail
 refine OP.out.mono ?_
 rintro e w6 ⟨v6,rfl,WS,xT⟩
 have b6:=Rx.out.trans (xT.mono Rx.out.size);have o6:=OwnB.more WS Rx.out.size;have Gb:=Hh (And.intro o6 b6);clear OP WS xT o6 b6;go_wp2_with fail
 go_ret2
 exact⟨_,by rw[HR.out];rfl,by rw[HR.out];exact Gb.out.1,Gb.out.2⟩
def gO (b:List UInt8):PR:=bH 8 (b.take 4096) 0
structure Ext where
 label:Int
 has:Bool
 val:List UInt8
def Ob (x:Itm) (lim:Nat):Option Int :=
 if x.kind=0∧x.n≤lim then some (x.n:Int) else if x.kind=1∧x.n<lim then some (-1-(x.n:Int)) else none
def gJ:Nat→List Ext→List UInt8→Except Nat (List Ext)
 | 0,out,_=>.ok out
 | n+1,out,b =>
 if b.length=0 then .ok out
 else match gO b with
  | .err e=>.error e
  | .ok x k _ =>
  if x.kind=2 then
   (match out.getLast? with
   | none=>.error 4
   | some l =>
   if l.has then .error 4 else if 600<x.bytes.length then .error 8
   else gJ n (out.dropLast++[{ l with has:=true,val:=x.bytes }]) (b.drop k))
  else match Ob x 65535 with
   | none=>.error 4
   | some v=>if out.length=4 then .error 8 else gJ n (out++[{ label:=v,has:=false,val:=[] }]) (b.drop k)
def Qj (b:List UInt8):Except Nat (List Ext):=gJ (b.length+1) [] b
def Xv (c:UInt8):Bool:=decide (c.toNat<24)||decide (32≤c.toNat)&&decide (c.toNat<56)
def pQ (b:List UInt8):Except Nat (List UInt8×Nat) :=
 match b with
 | []=>.error 2
 | x::t =>
 if Xv x then .ok ([x],1)
 else if x.toNat<64∨88<x.toNat then .error 4
 else if 7<x.toNat-64 then .error 8
 else if b.length<1+(x.toNat-64) then .error 2
 else if x.toNat-64=1∧Xv (b.getD 1 0) then .error 4
 else .ok (t.take (x.toNat-64),1+(x.toNat-64))
def TI:List Int→Bool
 | []=>false
 | x::l=>l.contains x||TI l
structure First where
 method:Int
 suites:List Int
 gx:List UInt8
 conn:List UInt8
 ext:List Ext
def TH:List Itm→Option (List Int)
 | []=>some []
 | x::l=>match Ob x 65535 with
  | none=>none
  | some v=>if v<0 then none else match TH l with
   | none=>none
   | some t=>some (v::t)
def Ui (x:Itm):Except Nat (List Int) :=
 if x.kind=0 then(if x.n≤65535 then .ok [(x.n:Int)] else .error 4)
 else if x.kind≠4∨x.items.length<2 then .error 4
 else match TH x.items with
  | none=>.error 4
  | some l=>if TI l then .error 7 else if 8<l.length then .error 8 else .ok l
def ConnSaid (w:World) (l:List UInt8) (e:Ending) (w':World):Prop :=
 match pQ l with
 | .error q=>e=.returned (.tuple #[.slice none 0 0,.int .i64 0,.int .i64 (q:Int)])∧Below w.heap.size w w'
 | .ok (c,k)=>∃ r,e=.returned (.tuple #[r,.int .i64 (k:Int),.int .i64 0])∧Fresh w c r w'
theorem ConnSaid.err {w w':World}{l:List UInt8}{e:Ending}{q:Nat}(h:pQ l=.error q) (he:e=.returned (.tuple #[.slice none 0 0,.int .i64 0,.int .i64 (q:Int)])) (hb:Below w.heap.size w w'):ConnSaid w l e w':=by
 rw[ConnSaid,h];exact⟨he,hb⟩
theorem ConnSaid.ok {w w':World}{l:List UInt8}{e:Ending}{c:List UInt8}{k:Nat}{r:Value}(h:pQ l=.ok (c,k)) (he:e=.returned (.tuple #[r,.int .i64 (k:Int),.int .i64 0])) (hf:Fresh w c r w'):ConnSaid w l e w':=by
 rw[ConnSaid,h];exact⟨r,he,hf⟩
theorem gQ {w:World}{b off n:Nat}{l:List UInt8}(h:∀ j (hj:j<l.length),w.cell? ⟨b,off+j,none⟩=some (zv l[j])) (k:Nat) (B:Option Addr) (hB:n≠0→B=some ⟨b,off+k,none⟩) (hk:k+n≤l.length):Src w B (((l.drop k).take n).map zv):=fun xg=>by
 have h0:n≠0:=by
  intro h0
  subst h0
  simp at xg
 refine⟨b,off+k,hB h0,fun j v hj=>?_⟩
 rw[List.getElem?_map]at hj;obtain⟨u,hu,rfl⟩:=Option.map_eq_some_iff.1 hj;rw[List.getElem?_take]at hu
 split at hu
 ·rename_i Fr
  rw[List.getElem?_drop]at hu;obtain⟨h1,h2⟩:=List.getElem?_eq_some_iff.1 hu;rw[Nat.add_assoc,h (k+j) h1,h2]
 cases hu
structure Pos (D e m:Nat):Prop where
 eq:D=e*4503599627370496+m
 lo:2≤e
 hi:e≤2045
 m_lt:m<4503599627370496
theorem Pos.lt {D e m:Nat}(h:Pos D e m):D<9223372036854775808:=by have:=h.eq;have:=h.hi;have:=h.m_lt;omega
abbrev aD (A:Option Addr) (n c p cnt:Nat):Array Value:=#[.slice A n c,.int .i64 (p:Int),.int .i64 (cnt:Int)]
structure Psr (T:TypeId) (w:World) (g:Nat) (H:Snap) (A:Option Addr) (c:Nat) (l:List UInt8) (p cnt:Nat):Prop where
 blk:Blk w g T (aD A l.length c p cnt)
 bytes:IsBytes H A c l
 holds:Holds w H
 apart:H g=none
 le:p≤l.length
 small:l.length≤4096
 cnt_le:cnt≤256
theorem Psr.drewN {T:TypeId}{w:World}{g:Nat}{H:Snap}{A:Option Addr}{c:Nat}{l:List UInt8}{p cnt:Nat}(h:Psr T w g H A c l p cnt) (q:Nat):Psr T (w.drewN q) g H A c l p cnt:=⟨h.blk,h.bytes,h.holds,h.apart,h.le,h.small,h.cnt_le⟩
def HeadSaid (T:TypeId) (w:World) (g:Nat) (A:Option Addr) (c:Nat) (l:List UInt8) (p cnt:Nat) (e:Ending) (w':World):Prop :=
 match bF (l.drop p) with
 | .error q=>e=.returned (.tuple #[.int .u8 0,.int .u64 0,.int .i64 (q:Int)])∧(∃ p',p'≤l.length∧Blk w' g T (aD A l.length c p' cnt))∧w.grownBy w' (some g)
 | .ok (f,n,k)=>e=.returned (.tuple #[.int .u8 (f:Int),.int .u64 (n:Int),.int .i64 0])∧Blk w' g T (aD A l.length c (p+k) cnt)∧w.grownBy w' (some g)
theorem HeadSaid.err {T:TypeId}{w w':World}{g:Nat}{A:Option Addr}{c:Nat}{l:List UInt8}{p cnt:Nat}{e:Ending}{q:Nat}(h:bF (l.drop p)=.error q) (he:e=.returned (.tuple #[.int .u8 0,.int .u64 0,.int .i64 (q:Int)]))
  (p':Nat) (hp:p'≤l.length) (hb:Blk w' g T (aD A l.length c p' cnt)) (hg:w.grownBy w' (some g)):HeadSaid T w g A c l p cnt e w':=by
 rw[HeadSaid,h];exact⟨he,⟨p',hp,hb⟩,hg⟩
theorem HeadSaid.ok {T:TypeId}{w w':World}{g:Nat}{A:Option Addr}{c:Nat}{l:List UInt8}{p cnt:Nat}{e:Ending}{f n k:Nat}(h:bF (l.drop p)=.ok (f,n,k)) (he:e=.returned (.tuple #[.int .u8 (f:Int),.int .u64 (n:Int),.int .i64 0]))
  (hb:Blk w' g T (aD A l.length c (p+k) cnt)) (hg:w.grownBy w' (some g)):HeadSaid T w g A c l p cnt e w':=by
 rw[HeadSaid,h];exact⟨he,hb,hg⟩
abbrev bK:Value:=.agg #[.int .i64 0,.int .u64 0,.slice none 0 0,.slice none 0 0]
def SevenSaid (w:World) (low n:Nat) (e:Ending) (w':World):Prop :=
 Below w.heap.size w w'∧match gV low n with
  | .error q=>e=.returned (.tuple #[bK,.int .i64 (q:Int)])
  | .ok x=>e=.returned (.tuple #[xq x none 0 none 0,.int .i64 0])
theorem SevenSaid.err {w w':World}{low n q:Nat}{e:Ending}(h:gV low n=.error q) (he:e=.returned (.tuple #[bK,.int .i64 (q:Int)])) (hb:Below w.heap.size w w'):SevenSaid w low n e w':=by
 rw[SevenSaid,h];exact⟨hb,he⟩
theorem SevenSaid.ok {w w':World}{low n:Nat}{x:Itm}{e:Ending}(h:gV low n=.ok x) (he:e=.returned (.tuple #[xq x none 0 none 0,.int .i64 0])) (hb:Below w.heap.size w w'):SevenSaid w low n e w':=by
 rw[SevenSaid,h];exact⟨hb,he⟩
section
variable {T:TypeId} {w w' w'':World} {H H' H'':Snap} {g:Nat} {A:Option Addr} {c:Nat} {l:List UInt8} {p cnt p' cnt':Nat}
theorem Psr.gt (h:Psr T w g H A c l p cnt):g<w.heap.size:=h.blk.lt
structure Rdg (T:TypeId) (w:World) (H:Snap) (w':World) (H':Snap) (g:Nat) (A:Option Addr) (c:Nat) (l:List UInt8) (p cnt:Nat):Prop where
 grows:GrowsBut w H w' H' g
 psr:Psr T w' g H' A c l p cnt
theorem Rdg.refl (h:Psr T w g H A c l p cnt):Rdg T w H w H g A c l p cnt:=⟨GrowsBut.refl h.holds g,h⟩
theorem Rdg.trans (h:Rdg T w H w' H' g A c l p cnt) (k:Rdg T w' H' w'' H'' g A c l p' cnt'):Rdg T w H w'' H'' g A c l p' cnt':=⟨h.grows.trans k.grows,k.psr⟩
theorem Psr.grows (h:Psr T w g H A c l p cnt) (k:Grows w H w' H'):Rdg T w H w' H' g A c l p cnt :=
 ⟨k.but g,⟨h.blk.below k.below,h.bytes.mono k.le,k.holds,k.none h.apart h.gt,h.le,h.small,h.cnt_le⟩⟩
theorem Rdg.grown (h:Rdg T w H w' H' g A c l p cnt) (k:Grows w' H' w'' H''):Rdg T w H w'' H'' g A c l p cnt:=h.trans (h.psr.grows k)
theorem Rdg.alloc (h:Rdg T w H w' H' g A c l p cnt) (o:Obj):Rdg T w H (w'.alloc o) H' g A c l p cnt:=h.grown ((Grows.refl h.psr.holds).alloc o)
theorem Psr.alloc (h:Psr T w g H A c l p cnt) (o:Obj):Psr T (w.alloc o) g H A c l p cnt:=((Rdg.refl h).alloc o).psr
theorem Rdg.below_ (h:Rdg T w H w' H' g A c l p cnt) (k:Below w'.heap.size w' w''):Rdg T w H w'' H' g A c l p cnt:=h.grown (Grows.of_below h.psr.holds k)
theorem Rdg.drewN (h:Rdg T w H w' H' g A c l p cnt) (q:Nat):Rdg T w H (w'.drewN q) H' g A c l p cnt:=h.below_ (below_drewNv (Below.refl _ _) q)
theorem Rdg.size (h:Rdg T w H w' H' g A c l p cnt):w.heap.size≤w'.heap.size:=h.grows.grown.size
theorem Rdg.hid (h:Rdg T w H w' H' g A c l p cnt) {k:Nat}(hk:H k=.none) (hl:k<w.heap.size):H' k=.none:=h.grows.hid hk hl
theorem Rdg.step (h:Rdg T w H w' H' g A c l p cnt) (hg:w'.grownBy w'' (some g)) (hb:Blk w'' g T (aD A l.length c p' cnt')) (hp:p'≤l.length) (hc:cnt'≤256):Rdg T w H w'' H' g A c l p' cnt' :=
 ⟨⟨zD h.grows.grown hg (.inl rfl),h.grows.le,h.psr.holds.grown hg (by rintro q ⟨⟩;exact h.psr.apart),h.grows.fresh⟩,
  hb,h.psr.bytes,h.psr.holds.grown hg (by rintro q ⟨⟩;exact h.psr.apart),h.psr.apart,hp,h.psr.small,hc⟩
theorem Rdg.grownRow {row:Option Nat}(h:Rdg T w H w' H' g A c l p cnt) (h0:∀ k,row=some k→H' k=.none) (hw:∀ k,row=some k→w.heap.size≤k) (zB:g<w.heap.size) (hg:w'.grownBy w'' row):Rdg T w H w'' H' g A c l p cnt:=by
 have hd:=h.psr;have xg:row≠some g:=fun e=>by have:=hw g e;omega
 refine⟨⟨?_,h.grows.le,hd.holds.grown hg h0,h.grows.fresh⟩,hd.blk.grown hg xg,hd.bytes,hd.holds.grown hg h0,hd.apart,hd.le,hd.small,hd.cnt_le⟩
 exact⟨hg.os.trans h.grows.grown.os,hg.tape.trans h.grows.grown.tape,hg.output.trans h.grows.grown.output,Nat.le_trans h.size hg.size,fun i hi hne' =>
   (hg.block i (Nat.lt_of_lt_of_le hi h.size) (fun e=>by have:=hw i e.symm;omega)).trans (h.grows.grown.block i hi hne')⟩
def ItemOut (T:TypeId) (w:World) (H:Snap) (g:Nat) (A:Option Addr) (c:Nat) (l:List UInt8) (p:Nat) (r:PR) (e:Ending) (w':World):Prop :=
 match r with
 | .err q=>e=.returned (.tuple #[bK,.int .i64 (q:Int)])∧(∃ H' p' cnt',Rdg T w H w' H' g A c l p' cnt')
 | .ok x k c'=>∃ ja jb jc jd H',e=.returned (.tuple #[xq x ja jb jc jd,.int .i64 0])∧Rdg T w H w' H' g A c l (p+k) c'∧IsItem H' ja jb jc jd x
theorem ItemOut.err {e:Ending}{r:PR}{q:Nat}(hr:r=.err q) (he:e=.returned (.tuple #[bK,.int .i64 (q:Int)])) (h:Rdg T w H w' H' g A c l p' cnt'):ItemOut T w H g A c l p r e w':=by
 rw[hr,ItemOut];exact⟨he,H',p',cnt',h⟩
theorem ItemOut.ok {e:Ending}{r:PR}{x:Itm}{k c':Nat}{ja:Option Addr}{jb:Nat}{jc:Option Addr}{jd:Nat}(hr:r=.ok x k c') (he:e=.returned (.tuple #[xq x ja jb jc jd,.int .i64 0])) (h:Rdg T w H w' H' g A c l (p+k) c') (hi:IsItem H' ja jb jc jd x):ItemOut T w H g A c l p r e w':=by
 rw[hr,ItemOut];exact⟨ja,jb,jc,jd,H',he,h,hi⟩
end
def Qh (b:List UInt8):Except Nat (List UInt8×Nat) :=
 match gO b with
 | .err e=>.error e
 | .ok x k _=>if x.kind≠2∨x.bytes.length<1∨64<x.bytes.length then .error 4 else .ok (x.bytes,k)
def d4 (m:Int) (su:List Int) (gx cn:List UInt8) (b:List UInt8):Except Nat First :=
 match Qj b with
 | .error e=>.error e
 | .ok ext=>.ok ⟨m,su,gx,cn,ext⟩
def d3 (m:Int) (su:List Int) (gx:List UInt8) (b:List UInt8):Except Nat First :=
 match pQ b with
 | .error e=>.error e
 | .ok (c,k4)=>d4 m su gx c (b.drop k4)
def d2 (m:Int) (su:List Int) (b:List UInt8):Except Nat First :=
 match Qh b with
 | .error e=>.error e
 | .ok (gx,k3)=>d3 m su gx (b.drop k3)
def d1 (m:Int) (b:List UInt8):Except Nat First :=
 match gO b with
 | .err e=>.error e
 | .ok y k2 _=>match Ui y with
  | .error e=>.error e
  | .ok l=>d2 m l (b.drop k2)
def PL.pre (L:List Itm) (k0:Nat):PL→PL
 | .err q=>.err q
 | .ok l k c=>.ok (L++l) (k0+k) c
theorem Rdg.snap {T:TypeId}{w w':World}{H H' H'':Snap}{g B:Nat}{A0:Option Addr}{c:Nat}{l:List UInt8}{p cnt:Nat}{A:Option Addr}(h:Rdg T w H w' H' g A0 c l p cnt) (hl:H'.le H'') (hh:Holds w' H'') (hf:∀ b o,H'' b=some o→H' b=some o∨A.map (·.block)=some b)
  (hA:∀ q,A.map (·.block)=some q→B≤q) (hB:w.heap.size≤B) (hg:g<w.heap.size):Rdg T w H w' H'' g A0 c l p cnt:=by
 refine⟨⟨h.grows.grown,h.grows.le.trans hl,hh,fun b o hb=>?_⟩,h.psr.blk,h.psr.bytes.mono hl,hh, ?_,h.psr.le,h.psr.small,h.psr.cnt_le⟩
 ·rcases hf b o hb with h1 | h1
  ·exact h.grows.fresh b o h1
  exact .inr (by have:=hA _ h1;omega)
 cases hx:H'' g with
 | none=>rfl
 | some o =>
 rcases hf g o hx with h1 | h1
 ·rw[h.psr.apart]at h1;cases h1
 have:=hA _ h1;omega
section
variable {d:Nat} {w:World} {H:Snap} {g:Nat} {A:Option Addr} {c:Nat} {l:List UInt8} {p cnt lv:Nat}
end
theorem IsBytes.take {H:Snap}{A:Option Addr}{c:Nat}{l:List UInt8}(h:IsBytes H A c l) (m:Nat):IsBytes H A c (l.take m):=by
 refine⟨by have:=h.le;rw[List.length_take];omega,h.max,fun xg=>?_⟩
 obtain⟨b,off,e,hc⟩:=h.row (by intro h0;rw[List.map_eq_nil_iff]at h0;subst h0;simp at xg)
 refine⟨b,off,e,fun j v hj=>hc j v ?_⟩
 rw[List.map_take,List.getElem?_take]at hj
 split at hj
 ·exact hj
 cases hj
def Rt:Lie Ext where
 k:=3
 pos:=by omega
 E:=fun H x c=>∃ A cc,c=[.int .i64 x.label,.bool x.has,.slice A x.val.length cc]∧IsBytes H A cc x.val
 len:=by rintro _ _ _ ⟨_,_,rfl,_⟩;rfl
 one:=by rintro _ _ _ ⟨_,_,rfl,_⟩;simp[Value.oneCell']
 mono:=by rintro H K x c hl ⟨A,cc,e,h⟩;exact⟨A,cc,e,h.mono hl⟩
theorem IsBytes.drop {H:Snap}{A:Option Addr}{c:Nat}{l:List UInt8}(h:IsBytes H A c l) (k:Nat) (hk:k≤l.length):IsBytes H (if c=k then A else Option.map (fun x=>x.add k) A) (c-k) (l.drop k):=by
 have zC:=h.le;have EC:=h.max
 refine⟨by rw[List.length_drop];omega,by omega,fun xg=>?_⟩
 have rO:k<l.length:=by
  rcases Nat.lt_or_ge k l.length with h1 | h1
  ·exact h1
  rw[List.drop_eq_nil_of_le h1]at xg;exact absurd rfl xg
 obtain⟨b,off,rfl,hc⟩:=h.row (by intro h0;rw[List.map_eq_nil_iff]at h0;subst h0;simp at rO);rw[if_neg (by omega)]
 refine⟨b,off+k,by rw[Option.map_some,pj],fun j v hj=>?_⟩
 rw[List.map_drop,List.getElem?_drop]at hj;have:=hc (k+j) v hj;rwa [← Nat.add_assoc]at this
section
variable (kd:Int) (n:Nat) (ja:Option Addr) (jl jb:Nat) (jc:Option Addr) (jm jd:Nat) (w:World)
end
section
variable {w:World} {g:Nat} {A:Option Addr} {n c q:Nat}
end
def ExtsOut (w:World) (H:Snap) (r:Except Nat (List Ext)) (e:Ending) (w':World):Prop :=
 match r with
 | .error q=>e=.returned (.tuple #[.slice none 0 0,.int .i64 (q:Int)])∧Below w.heap.size w w'
 | .ok xs=>∃ VA vc H',e=.returned (.tuple #[.slice VA xs.length vc,.int .i64 0])∧Grows w H w' H'∧IsRow Rt H' VA vc xs
theorem ExtsOut.err {w w':World}{H:Snap}{r:Except Nat (List Ext)}{e:Ending}{q:Nat}(hr:r=.error q) (he:e=.returned (.tuple #[.slice none 0 0,.int .i64 (q:Int)])) (hb:Below w.heap.size w w'):ExtsOut w H r e w':=by
 subst hr;exact⟨he,hb⟩
theorem ExtsOut.ok {w w':World}{H H':Snap}{r:Except Nat (List Ext)}{e:Ending}{xs:List Ext}{VA:Option Addr}{vc:Nat}(hr:r=.ok xs) (he:e=.returned (.tuple #[.slice VA xs.length vc,.int .i64 0])) (hG:Grows w H w' H') (hi:IsRow Rt H' VA vc xs):ExtsOut w H r e w':=by
 subst hr;exact⟨VA,vc,H',he,hG,hi⟩
theorem Grows.snap {w w':World}{H H' H'':Snap}{A:Option Addr}(h:Grows w H w' H') (hl:H'.le H'') (hh:Holds w' H'') (hf:∀ b o,H'' b=some o→H' b=some o∨A.map (·.block)=some b)
  (hA:∀ q,A.map (·.block)=some q→w.heap.size≤q):Grows w H w' H'' :=
 ⟨h.below,h.le.trans hl,hh,fun b o hb=>by
  rcases hf b o hb with h1 | h1
  ·exact h.fresh b o h1
  exact .inr (hA _ h1)⟩
def BytesOut (w:World) (r:Except Nat (List UInt8)) (e:Ending) (w':World):Prop :=
 match r with
 | .error q=>e=.returned (.tuple #[.slice none 0 0,.int .i64 (q:Int)])∧Below w.heap.size w w'
 | .ok l=>∃ v,e=.returned (.tuple #[v,.int .i64 0])∧Fresh w l v w'
theorem BytesOut.err {w w':World}{r:Except Nat (List UInt8)}{e:Ending}{q:Nat}(hr:r=.error q) (he:e=.returned (.tuple #[.slice none 0 0,.int .i64 (q:Int)])) (hb:Below w.heap.size w w'):BytesOut w r e w':=by
 subst hr;exact⟨he,hb⟩
theorem BytesOut.ok {w w':World}{r:Except Nat (List UInt8)}{e:Ending}{l:List UInt8}{v:Value}(hr:r=.ok l) (he:e=.returned (.tuple #[v,.int .i64 0])) (hf:Fresh w l v w'):BytesOut w r e w':=by
 subst hr;exact⟨v,he,hf⟩
abbrev Xi (m:Int) (sa:Option Addr) (sn sc:Nat) (ga:Option Addr) (gn gc:Nat) (ca:Option Addr) (cn cc:Nat) (ea:Option Addr) (en ec:Nat):Array Value:=#[.int .i64 m,.slice sa sn sc,.slice ga gn gc,.slice ca cn cc,.slice ea en ec]
structure FirstA (H:Snap) (f:First) (sa:Option Addr) (sc:Nat) (ga:Option Addr) (gc:Nat) (ca:Option Addr) (cc:Nat) (ea:Option Addr) (ec:Nat):Prop where
 suites:IsRow Ru H sa sc f.suites
 gx:IsBytes H ga gc f.gx
 conn:IsBytes H ca cc f.conn
 ext:IsRow Rt H ea ec f.ext
def IntsOut (w:World) (H:Snap) (r:Except Nat (List Int)) (e:Ending) (w':World):Prop :=
 match r with
 | .error q=>e=.returned (.tuple #[.slice none 0 0,.int .i64 (q:Int)])∧Below w.heap.size w w'
 | .ok xs=>∃ VA vc H',e=.returned (.tuple #[.slice VA xs.length vc,.int .i64 0])∧Grows w H w' H'∧IsRow Ru H' VA vc xs
theorem IntsOut.err {w w':World}{H:Snap}{r:Except Nat (List Int)}{e:Ending}{q:Nat}(hr:r=.error q) (he:e=.returned (.tuple #[.slice none 0 0,.int .i64 (q:Int)])) (hb:Below w.heap.size w w'):IntsOut w H r e w':=by
 subst hr;exact⟨he,hb⟩
theorem IntsOut.ok {w w':World}{H H':Snap}{r:Except Nat (List Int)}{e:Ending}{xs:List Int}{VA:Option Addr}{vc:Nat}(hr:r=.ok xs) (he:e=.returned (.tuple #[.slice VA xs.length vc,.int .i64 0])) (hG:Grows w H w' H') (hi:IsRow Ru H' VA vc xs):IntsOut w H r e w':=by
 subst hr;exact⟨VA,vc,H',he,hG,hi⟩
abbrev Xw:Value:=.agg #[.int .i64 0,.slice none 0 0,.slice none 0 0,.slice none 0 0,.slice none 0 0]
def FirstOut (w:World) (H:Snap) (r:Except Nat First) (e:Ending) (w':World):Prop :=
 match r with
 | .error q=>e=.returned (.tuple #[Xw,.int .i64 (q:Int)])∧Below w.heap.size w w'
 | .ok f=>∃ sa sc ga gc ca cc ea ec H',e=.returned (.tuple #[.agg (Xi f.method sa f.suites.length sc ga f.gx.length gc ca f.conn.length cc ea f.ext.length ec),.int .i64 0])∧Grows w H w' H'∧FirstA H' f sa sc ga gc ca cc ea ec
theorem FirstOut.err {w w':World}{H:Snap}{r:Except Nat First}{e:Ending}{q:Nat}(hr:r=.error q) (he:e=.returned (.tuple #[Xw,.int .i64 (q:Int)])) (hb:Below w.heap.size w w'):FirstOut w H r e w':=by
 subst hr;exact⟨he,hb⟩
theorem FirstOut.ok {w w':World}{H H':Snap}{r:Except Nat First}{e:Ending}{f:First}{sa:Option Addr}{sc:Nat}{ga:Option Addr}{gc:Nat}{ca:Option Addr}{cc:Nat}{ea:Option Addr}{ec:Nat}(hr:r=.ok f)
  (he:e=.returned (.tuple #[.agg (Xi f.method sa f.suites.length sc ga f.gx.length gc ca f.conn.length cc ea f.ext.length ec),.int .i64 0])) (hG:Grows w H w' H') (hf:FirstA H' f sa sc ga gc ca cc ea ec):FirstOut w H r e w':=by
 subst hr;exact⟨sa,sc,ga,gc,ca,cc,ea,ec,H',he,hG,hf⟩
theorem OwnX.lit {α:Type}{L:Lie α}{H:Snap}{cs:List Value}{l:List α}(hc:RowC L H cs l) (t:TypeId) (w:World) (base:Nat) (hb:base≤w.heap.size) (hm:l.length≤4096) :
  OwnX L t (w.alloc (.cells cs.toArray t)) base (.slice (some ⟨w.heap.size,0,none⟩) l.length l.length) H l :=
 ⟨cs,hc,hc.len,.inr ⟨w.heap.size,l.length,cs.toArray,rfl,hb,heap_alloc_new w _,Nat.le_refl _,by simp only[maxLen];omega,by simp[hc.len],by rw[← hc.len];simp⟩⟩
theorem eL (n:Nat):(madeCells (Value.int .u8 0).cells (n*1)).toList=(List.replicate n (0:UInt8)).map zv:=by
 apply List.ext_getElem?
 intro j
 simp[madeCells,Value.cells,List.getElem?_replicate]
 by_cases h:j<n
 ·simp[h,zv,Nat.mod_one]
 simp[h]
theorem Rdg.gb {T:TypeId}{w w' w'':World}{H H':Snap}{g k:Nat}{A:Option Addr}{c:Nat}{l:List UInt8}{p cnt:Nat}(h:Rdg T w H w' H' g A c l p cnt) (h0:H' k=none) (hw:w.heap.size≤k) (zB:g<w.heap.size) (hg:w'.grownBy w'' (some k)):Rdg T w H w'' H' g A c l p cnt:=h.grownRow (row:=some k) (by rintro q ⟨⟩;exact h0) (by rintro q ⟨⟩;exact hw) zB hg
end Go.Proofs.YtliomcphdnppnaaGreatDoor
