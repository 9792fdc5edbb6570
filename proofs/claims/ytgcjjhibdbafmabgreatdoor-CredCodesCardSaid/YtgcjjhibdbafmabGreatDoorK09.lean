/- squeezed. Walks: the program's reader of ite -/
import Derived.Test.YtgcjjhibdbafmabGreatDoorK08
set_option linter.unusedVariables false
set_option linter.unusedSimpArgs false
set_option maxRecDepth 100000
set_option maxHeartbeats 12800000
namespace Go.Proofs.YtgcjjhibdbafmabGreatDoor
open Go.RowKit
theorem gw {w wr:World}{H Hr:Snap}(_h:Grows w H wr Hr) {l:List Itm}{cs:List Value}(hc:ItemsC Hr cs l) (hm:l.length≤4096) :
  OwnI (wr.alloc (.cells cs.toArray 57)) wr.heap.size (.slice (some ⟨wr.heap.size,0,none⟩) l.length l.length) Hr l:=OwnI.lit hc _ (Nat.le_refl _) hm
theorem lw {w wr:World}{H Hr:Snap}(h:Grows w H wr Hr) {l:List Itm}{cs:List Value}(hc:ItemsC Hr cs l) (hm:l.length≤4096) :
  ∃ H',Grows w H (wr.alloc (.cells cs.toArray 57)) H'∧Hr.le H'∧IsRowI H' (some ⟨wr.heap.size,0,none⟩) l.length l:=by
 have hO:=gw h hc hm;have hG:=h.alloc (.cells cs.toArray 57);obtain⟨H',hl,hh,hf,hz,h1,h2,h3⟩:=hO.snap hG.holds (fun q hq=>by cases hq;exact h.holds.none_of_ge (Nat.le_refl _))
 refine⟨H',⟨hG.below,hG.le.trans hl,hh,fun b o hb=>?_⟩,hl,⟨h1,h2,h3⟩⟩
 rcases hf b o hb with h4 | h4
 ·exact hG.fresh b o h4
 simp at h4;exact .inr (by have:=h.size;omega)
theorem ZG {p:List UInt8→Nat→PR}(hp:∀ b c q,p b c=.err q→q≠0):∀ (n:Nat) (b:List UInt8) (c:Nat) (last:Option (List UInt8)) (q:Nat),vl p n b c last=.err q→q≠0
 | 0,b,c,last,q,h=>by rw[vl]at h;cases h
 | n+1,b,c,last,q,h=>by
  rw[vl]at h
  split at h
  ·rename_i h1
   injection h with h
   subst h
   exact hp _ _ _ h1
  split at h
  ·rename_i h2
   injection h with h
   subst h
   unfold sv at h2
   repeat' split at h2
   all_goals first | (injection h2 with h2;omega) | cases h2
  split at h
  ·rename_i h3
   injection h with h
   subst h
   exact hp _ _ _ h3
  split at h
  ·rename_i h4
   injection h with h
   subst h
   exact ZG hp n _ _ _ _ h4
  cases h
theorem ZB {p:List UInt8→Nat→PR}(hp:∀ b c q,p b c=.err q→q≠0):∀ (n:Nat) (b:List UInt8) (c:Nat) (q:Nat),vQ p n b c=.err q→q≠0
 | 0,b,c,q,h=>by rw[vQ]at h;cases h
 | n+1,b,c,q,h=>by
  rw[vQ]at h
  split at h
  ·rename_i h1
   injection h with h
   subst h
   exact hp _ _ _ h1
  split at h
  ·rename_i h4
   injection h with h
   subst h
   exact ZB hp n _ _ _ h4
  cases h
theorem yY:∀ (d:Nat) (b:List UInt8) (c q:Nat),zj d b c=.err q→q≠0:=by
 intro d
 induction d with
 | zero =>
  intro b c q h
  rw[zj.eq_def]at h
  simp only at h
  repeat' split at h
  all_goals first
   | (injection h with h;omega)
   | cases h
   | skip
  ·rename_i h1;have:=p8 h1;omega
  rename_i h1;have:=jO h1;omega
 | succ d ih =>
 intro b c q h
 rw[zj.eq_def]at h
 simp only at h
 repeat' split at h
 all_goals first
  | (injection h with h;omega)
  | cases h
  | skip
 ·rename_i h1;have:=p8 h1;omega
 ·rename_i h1;have:=jO h1;omega
 ·rename_i h1;exact ih _ _ _ h1
 ·rename_i h1;exact ZG ih _ _ _ _ _ h1
 rename_i h1;exact ZB ih _ _ _ _ h1
section
variable {d:Nat} {w:World} {H:Snap} {g:Nat} {A:Option Addr} {c:Nat} {l:List UInt8} {p cnt lv:Nat}
theorem Vs (ih:eO d) (hTab:Tabs H) (hlv:lv+(d+1)=8) (hP:Psr 107 w g H A c l p cnt) (hc:cnt<256) {f n k:Nat}(hh:zf (l.drop p)=.ok (f,n,k)) (hk:f/32=6):Calls Tryz.prog 78 #[.pointer (some ⟨g,0,none⟩),.int .i64 (lv:Int)] w (ItemOut 107 w H g A c l p (zj (d+1) (l.drop p) cnt)):=by
 have yv:=hP.gt;have xg:=(Rdg.refl hP).alloc zg;have we:=Blk.new w 57 #[.int .i64 0,.int .u64 0,.slice none 0 0,.slice none 0 0];have zF:H w.heap.size=none:=hP.holds.none_of_ge (Nat.le_refl _);have c2:=xg.psr.blk.cell 2 rfl;have E0:=Hh (gd d (l.drop p) cnt (by omega) hh hk);have S:(f:Int)/32=6:=by omega
 have bU:¬ ((8:Int)≤(lv:Int)):=by omega
 have KL:IntKind.i64.wrap ((lv:Int)+1)=(lv:Int)+1:=IntWalk.i64_in _ (by omega);have Yn:(lv:Int)≤8:=by omega
 have xv:((cnt:Int)==256)=false:=by simp;omega
 have yD:((cnt:Int)=256)=False:=eq_false (by omega);have KC:IntKind.i64.wrap ((cnt:Int)+1)=(cnt:Int)+1:=IntWalk.i64_in _ (by omega);have HC:=Hh hc;clear hc;go_enter Tryz.func78,Tryz.ntmps78
 go_wp2_with (with_reducible refine zx ?_)
 refine zu rfl _ _ _ rfl rfl g 2 (.int .i64 ((cnt:Int)+1)) rfl rfl _ _ xg.psr.blk zH (by simp) rfl fun w2 yU yq=>?_
 have wl:Rdg 107 w H w2 H g A c l p (cnt+1):=xg.step yq yU hP.le (by have:=HC.out;omega);have uv:=we.gr yq (by omega);have PH:=Hh (rN wl.psr);clear xg we yU yq c2 KC xv yD;go_wp2_with fail
 refine PH.out.mono ?_
 intro e w3 hs
 rw[HeadSaid,hh]at hs;obtain⟨rfl,wL,yQ⟩:=hs;have HS:=xo hh;have tP:p+k≤l.length:=by have:=HS.le;rw[List.length_drop]at this;have:=hP.le;omega
 have xV:Rdg 107 w H w3 H g A c l (p+k) (cnt+1):=wl.step yQ wL tP (by have:=HC.out;omega);have xO:=uv.gr yQ (by omega);have HF:=Hh HS;clear wl uv wL yQ PH HS hh;have IT:=ih w3 H g A c l (p+k) (cnt+1) (lv+1) hTab (by omega) xV.psr;rw[show((lv+1:Nat):Int)=(lv:Int)+1 by omega]at IT;have ITH:=Hh IT;rw[List.drop_drop]at E0;clear IT;go_wp2_with fail
 refine ITH.out.mono ?_
 intro e w4 hs
 cases hp:zj d (l.drop (p+k)) (cnt+1) with
 | err q =>
  rw[hp,ItemOut]at hs;obtain⟨rfl,H4,p4,cnt4,qc⟩:=hs;have nc:((q:Int) != 0)=true:=by rw[bne_iff_ne];have:=yY _ _ _ _ hp;omega
  have kp:((q:Int)=0)=False:=eq_false (by have:=yY _ _ _ _ hp;omega);have E:Hid (zj (d+1) (l.drop p) cnt=.err q):=by rw[Hid,E0.out,hp]
  have vd:=xV.trans qc;have wT:=xO.rdg qc (by omega);have Sy:=qc.hid zF xO.lt;have hX:=Blk.new w4 57 #[.int .i64 0,.int .u64 0,.slice none 0 0,.slice none 0 0];have yi:=vd.alloc zg;have yt:=wT.alloc zg;have SI:=Hh vd.psr.holds;have X0:=Hh wT.lt;clear qc xV xO ITH hp E0 vd wT;have SJ:w.heap.size≤w4.heap.size:=Nat.le_of_lt X0.out;have Ul:=(Holds.none_of_ge (w:=w4) (H:=H4) (SI.out) (Nat.le_refl _))
  go_wp2_with (with_reducible refine zx ?_)
  refine stI hX fun w6 rK tO=>?_
  have z8:=yi.gb Ul SJ yv tO;have yj:=yt.grown tO (by intro e;injection e with e;have:=X0.out;omega);clear yi yt hX tO rK;go_wp2_with (with_reducible refine zx ?_)
  refine stI yj fun wz hTy zT=>?_
  have zQ:=z8.gb Sy (Nat.le_refl _) yv zT;go_wp2_with fail
  refine zw rfl rfl hTy rfl rfl zv rfl ?_
  exact ItemOut.err E.out rfl zQ
 | ok x k' c' =>
 rw[hp,ItemOut]at hs;obtain⟨ja,jb,jc,jd,H4,rfl,qc,eh⟩:=hs;have E:Hid (zj (d+1) (l.drop p) cnt=.ok (.mk 6 n [] [x]) (k+k') c'):=by rw[Hid,E0.out,hp]
 have vd:=xV.trans qc;have wT:=xO.rdg qc (by omega);have Sy:=qc.hid zF xO.lt;have hX:=Blk.new w4 57 #[.int .i64 0,.int .u64 0,.slice none 0 0,.slice none 0 0];have yi:=vd.alloc zg;have yt:=wT.alloc zg;have SI:=Hh vd.psr.holds;have X0:=Hh wT.lt;clear qc xV xO ITH hp E0 vd wT;have SJ:w.heap.size≤w4.heap.size:=Nat.le_of_lt X0.out;have Ul:=(Holds.none_of_ge (w:=w4) (H:=H4) (SI.out) (Nat.le_refl _))
 go_wp2_with (with_reducible refine zx ?_)
 refine stI hX fun w6 rK tO=>?_
 have z8:=yi.gb Ul SJ yv tO;have yj:=yt.grown tO (by intro e;injection e with e;have:=X0.out;omega);have b0:=rK.cell 0 rfl;have b1:=rK.cell 1 rfl;have b2:=rK.cell 2 rfl;have b3:=rK.cell 3 rfl;obtain⟨H7,wu,Uv,J7⟩:=lw (Grows.refl z8.psr.holds) (ItemsC.one eh) (by simp);have yC:=z8.grown wu;have yS:=yj.alloc (.cells (zY x ja jb jc jd).toArray 57);have nY:=wu.none Sy yj.lt;have wi:=Hh HF.out.n_lt;clear yi yt hX tO rK z8 yj wu;go_wp2_with (with_reducible refine zx ?_)
 refine stI yS fun wz hTy zT=>?_
 have zQ:=yC.gb nY (Nat.le_refl _) yv zT;go_wp2_with fail
 refine zw rfl rfl hTy rfl rfl zv rfl ?_
 exact ItemOut.ok E.out rfl (by rw[← Nat.add_assoc];exact zQ) (J7.item 6 (by omega) n wi.out)
end
def R7 (b:List UInt8):Except Nat (List UInt8×Nat) :=
 match tz b with
 | .err e=>.error e
 | .ok x k _=>if x.kind≠2∨x.bytes.length<1∨64<x.bytes.length then .error 4 else .ok (x.bytes,k)
def d4 (m:Int) (su:List Int) (gx cn:List UInt8) (b:List UInt8):Except Nat First :=
 match RB b with
 | .error e=>.error e
 | .ok ext=>.ok ⟨m,su,gx,cn,ext⟩
def d3 (m:Int) (su:List Int) (gx:List UInt8) (b:List UInt8):Except Nat First :=
 match YP b with
 | .error e=>.error e
 | .ok (c,k4)=>d4 m su gx c (b.drop k4)
def d2 (m:Int) (su:List Int) (b:List UInt8):Except Nat First :=
 match R7 b with
 | .error e=>.error e
 | .ok (gx,k3)=>d3 m su gx (b.drop k3)
def d1 (m:Int) (b:List UInt8):Except Nat First :=
 match tz b with
 | .err e=>.error e
 | .ok y k2 _=>match UD y with
  | .error e=>.error e
  | .ok l=>d2 m l (b.drop k2)
theorem sm (k:Int) (n:Nat) (bs:List UInt8) (l:List Itm) (h8:k≠8) (h7:k≠7):(zZ (.mk k n bs l)).length≤9+bs.length+(yx l).length:=by
 rw[xh,if_neg (by simpa [Itm.kind] using h8),if_neg (by simp[Itm.kind,h7])];have:=(so k.toNat (numP (.mk k n bs l))).2
 simp only[Itm.kind,Itm.bytes,Itm.items,List.length_append]
 omega
theorem dl (k:Int) (hk:k=2∨k=3) (bs:List UInt8) (lv:Nat) (hv:k=3→Lib.validD bs=true):Good (.mk k 0 bs []) lv:=by
 refine Good.of ?_ (by simp only[Itm.items];rw[GoodL];trivial) (fun h=>by simp only[Itm.kind]at h;omega)
 rw[xr,if_pos (by rw[zE];simp only[Itm.kind];omega)]
 rcases hk with rfl | rfl
 ·simp[yy,Itm.kind,Itm.n,Itm.items]
 simp[yy,Itm.kind,Itm.n,Itm.items,Itm.bytes,hv rfl]
section
variable {w w':World} {base:Nat} {H:Snap} {l:List Itm}
theorem OwnI.parts {A:Option Addr}{m c:Nat}(h:OwnI w base (.slice A m c) H l) (k:Nat):∃ cs1 cs2,ItemsC H cs1 (l.take k)∧ItemsC H cs2 (l.drop k)∧Src w A cs1∧(k<l.length→∃ b off,A=some ⟨b,off,none⟩∧Src w (some ⟨b,off+k*4,none⟩) cs2):=by
 obtain⟨cs,hc,ho⟩:=h;have hs:=Src.of_own ho;obtain⟨h1,h2⟩:=hc.split k
 refine⟨_,_,h1,h2,fun xH=>?_,fun hk=>?_⟩
 ·obtain⟨b,off,e,hx⟩:=hs (by rintro rfl;simp at xH)
  exact⟨b,off,e,fun j v hj=>hx j v (by rw[List.getElem?_take]at hj;split at hj;exact hj;cases hj)⟩
 obtain⟨b,off,e,hx⟩:=hs (by rintro rfl;have:=hc.len;simp at this;omega)
 refine⟨b,off,e,fun _=>⟨b,off+k*4,rfl,fun j v hj=>?_⟩⟩
 rw[List.getElem?_drop]at hj;rw[Nat.add_assoc]
 exact hx _ v hj
theorem OwnI.cells {A:Option Addr}{m c:Nat}(h:OwnI w base (.slice A m c) H l) (k:Nat) (hk:k<l.length):∃ b off,A=some ⟨b,off,none⟩∧∃ ba bc ia ic,w.cell? ⟨b,off+k*4,none⟩=some (.int .i64 l[k].kind)∧w.cell? ⟨b,off+k*4+1,none⟩=some (.int .u64 l[k].n)∧
  w.cell? ⟨b,off+k*4+2,none⟩=some (.slice ba l[k].bytes.length bc)∧w.cell? ⟨b,off+k*4+3,none⟩=some (.slice ia l[k].items.length ic)∧IsItem H ba bc ia ic l[k]:=by
 obtain⟨cs,hc,ho⟩:=h;obtain⟨b,off,e,hx⟩:=Src.of_own ho (by rintro rfl;have:=hc.len;simp at this;omega);obtain⟨ba,bc,ia,ic,h0,h1,h2,h3,hi⟩:=hc.get k hk
 exact⟨b,off,e,ba,bc,ia,ic,hx _ _ h0,hx _ _ h1,hx _ _ h2,hx _ _ h3,hi⟩
end
theorem zM {w w':World}{a:Addr}{v:Value}(h:w.cell? a=some v) (hb:Below w.heap.size w w'):w'.cell? a=some v:=(hb.cell (World.block_lt_of_cell? w _ h)).trans h
theorem tk {w:World}{a:Addr}{v:Value}(h:w.cell? a=some v):w.drew.cell? a=some v:=h
theorem OwnI.drew {w:World}{base:Nat}{v:Value}{H:Snap}{l:List Itm}(h:OwnI w base v H l):OwnI w.drew base v H l:=h
theorem tH {A:Option Addr}{m c q:Nat}(h:A.map (·.block)=some q):(Value.slice A m c).ownBlock=some q:=by cases A <;> simp_all [Value.ownBlock]
theorem Src.slicek {w:World}{H:Snap}{A:Option Addr}{cs:List Value}{L:List Itm}{k j vc:Nat}(h:k<L.length→∃ b off,A=some ⟨b,off,none⟩∧Src w (some ⟨b,off+k*4,none⟩) cs) (hc:ItemsC H cs (L.drop k)) (hL:L.length=j) (hvc:(j:Int)≤vc) :
  Src w (if vc=k then A else Option.map (fun x=>x.add (k*4)) A) cs:=by
 by_cases hk:k<L.length
 ·obtain⟨b,off,rfl,hs⟩:=h hk;rw[if_neg (by omega),Option.map_some,mh]
  exact hs
 rw[List.drop_eq_nil_of_le (by omega),ItemsC]at hc;subst hc
 exact Src.nil _ _
theorem g9 {B:Nat}{w wr:World}(_h:Below B w wr) (t:TypeId) (cs:Array Value):Src (wr.alloc (.cells cs t)) (some ⟨wr.heap.size,0,none⟩) cs.toList:=Src.lit _ _ _
theorem dh (L:List Itm) (k:Nat) (y z:Itm):(yx (L.take k++[y,z]++L.drop k)).length=(yx L).length+(zZ y).length+(zZ z).length:=by
 have h:=congrArg List.length (th (L.take k) (L.drop k));rw[List.take_append_drop]at h;rw[th,th]
 simp only[yx,List.length_append,List.append_nil]at h⊢
 omega
theorem dV (l:List Itm) (h:wn l=true):∀ i:Nat,wn (l.drop (2*i))=true
 | 0=>by simpa using h
 | i+1=>by
  have ih:=dV l h i;rw[show 2*(i+1)=2*i+2 by omega,← List.drop_drop]
  generalize l.drop (2*i)=m at ih
  match m,ih with
  | [],_=>rfl
  | [_],_=>rfl
  | _::_::m,ih=>exact Xq ih
theorem WG {l:List Itm}(h:wn l=true) {m:Nat}(he:m%2=0) (hm:m+2<l.length):Lib.compareBytes (zZ (l[m]'(by omega))) (zZ l[m+2])<0:=by
 obtain⟨i,rfl⟩:∃ i,m=2*i:=⟨m/2,by omega⟩
 have h1:=dV l h i;have h2:=lq l (2*i+2) (by omega) hm
 simp only[Nat.add_sub_cancel]at h2
 rw[h1]at h2;have h3:=(Bool.and_eq_true _ _).mp h2.symm;have h4:=of_decide_eq_true h3.1
 simpa using h4
def im (w:World) (H:Snap) (ps:List Itm) (e:Ending) (w':World):Prop :=
 ∃ v,(∃ l,e=.returned (.tuple #[v,.int .i64 0])∧Gives w H (.mk 5 0 [] l) v w'∧zL (.mk 5 0 [] l)=true∧(yx l).length=(yx ps).length∧(wn ps=true→l=ps))∨
  (∃ c,e=.returned (.tuple #[v,.int .i64 c])∧c≠0∧Gives w H zG v w'∧¬ (ps.length%2=0∧wn ps=true∧(∀ x∈ps,zL x=true)∧zL (.mk 5 0 [] ps)=true))
theorem jM {H:Snap}(hTab:Tabs H) {A:Option Addr}{c:Nat}{ps:List Itm}(hr:IsRowI H A c ps) (hl:ps.length≤1099511627776) (w:World) (hH:Holds w H) :
  Calls Tryz.prog 42 #[.slice A ps.length c] w (im w H ps):=by
 have hT:=Blk.new w 57 #[.int .i64 0,.int .u64 0,.slice none 0 0,.slice none 0 0];have hb:=zi w zg;have zF:H w.heap.size=none:=hH.none_of_ge (Nat.le_refl _);have HR:=Hh hr;clear hr
 by_cases tY:ps.length%2=0
 case neg =>
  have b1:((ps.length:Int)%2 != 0)=true:=by rw[bne_iff_ne];omega
  have p1:((ps.length:Int)%2=0)=False:=eq_false (by omega);have HE:=Hh tY;clear tY;go_enter Tryz.func42,Tryz.ntmps42
  go_wp2_with fail
  refine zw rfl rfl hT rfl rfl zv rfl ?_
  exact⟨_,.inr ⟨1,rfl,by omega,⟨none,0,none,0,H,rfl,Grows.of_below hH hb,IsItem.plain H 0 0 (by omega) (by omega)⟩,fun h=>HE.out h.1⟩⟩
 have b1:((ps.length:Int)%2 != 0)=false:=by rw[bne_eq_false_iff_eq];omega
 have p1:((ps.length:Int)%2=0)=True:=eq_true (by omega);have HE:=Hh tY;clear tY;go_enter Tryz.func42,Tryz.ntmps42
 go_wp2_with fail
 go_loopw [18] (fun v18 wr=>∃ j:Nat,j≤ps.length∧v18=.int .i64 j∧(∀ x∈ps.take j,zL x=true)∧Below w.heap.size w wr∧Blk wr w.heap.size 57 #[.int .i64 0,.int .u64 0,.slice none 0 0,.slice none 0 0]) (fun v18 _=>ps.length-(intOf v18).toNat)
 case atStart=>exact⟨0,Nat.zero_le _,rfl,by simp,hb,hT⟩
 case round =>
 clear hb hT;obtain⟨j,hj,rfl,vH,xP,uY⟩:=hrel
 by_cases ye:j<ps.length
 ·have wF:=hH.below xP (Nat.le_refl _);obtain⟨ib,io,rH,vD⟩:=HR.out.elems (by omega);obtain⟨y1,y2,y3,y4,q0,q1,q2,q3,tA⟩:=vD.get j ye;subst rH;have p0:=wF.cell q0;have p1':=wF.cell q1;have p2:=wF.cell q2;have p3:=wF.cell q3;have Nq:=wF.alloc (zS ps[j] y1 y2 y3 y4);have V:=Hh (pF hTab tA.arg _ Nq);have xJ:=xP.alloc xP.size (zS ps[j] y1 y2 y3 y4);have uv:=uY.alloc (zS ps[j] y1 y2 y3 y4);have Yo:ps[j]∈ps:=List.getElem_mem ye;have HT:=Hh (show ps.take (j+1)=ps.take j++[ps[j]] from List.take_succ_eq_append_getElem ye);have Po:=Hh vH
  generalize ps[j]'ye=x at *
  clear q0 q1 q2 q3 vD tA xP uY wF vH
  cases hv:zL x with
  | false =>
   rw[hv]at V;have HX:=Hh (And.intro hv Yo);clear hv Yo;go_wp2_with fail
   refine V.out.mono ?_
   rintro e w3 ⟨rfl,uy⟩
   have xO:=uv.below uy;have yX:=xJ.trans (uy.mono xJ.size);clear uv xJ uy;go_wp2_with (with_reducible refine zx ?_)
   refine stI xO fun w9 uM nU=>?_
   have rJ:=(Grows.of_below hH yX).grownOwn zF (Nat.le_refl _) nU;go_wp2_with fail
   refine zw rfl rfl uM rfl rfl zv rfl ?_
   exact⟨_,.inr ⟨1,rfl,by omega,⟨none,0,none,0,H,rfl,rJ,IsItem.plain H 0 0 (by omega) (by omega)⟩,fun h=>by rw[h.2.2.1 x HX.out.2]at HX;cases HX.out.1⟩⟩
  | true =>
  rw[hv]at V;have HX:=Hh hv;clear hv Yo;go_wp2_with fail
  refine V.out.mono ?_
  rintro e w3 ⟨rfl,uy⟩
  have xO:=uv.below uy;have yX:=xJ.trans (uy.mono xJ.size);have XD:(j:Int)+1≤9223372036854775807:=by omega
  clear uv xJ uy;go_wp2_with fail
  go_roundw
  case rel=>exact⟨j+1,by omega,by go_num,fun y hy=>by rw[HT.out,List.mem_append]at hy;rcases hy with hy | hy;exact Po.out y hy;rw[List.mem_singleton.1 hy];exact HX.out,yX,xO⟩
  case measure=>simp[intOf];omega
 have sZ:j=ps.length:=by omega
 subst sZ;rw[List.take_length]at vH;have Po:=Hh vH;clear vH;go_wp2_with fail
 go_loopw [6,7,8] (fun v6 v7 v8 wr=>∃ (j:Nat) (L:List Itm) (b:Bool) (VA:Option Addr) (vc:Nat),j≤ps.length∧j%2=0∧v8=.int .i64 (j:Int)∧v7=.bool b∧v6=.slice VA j vc∧L.length=j∧OwnI wr (w.heap.size+1) (.slice VA j vc) H L∧(∀ x∈L,x∈ps)∧
  (yx L).length=(yx (ps.take j)).length∧(wn ps=true→b=false∧L=ps.take j)∧Below w.heap.size w wr∧Blk wr w.heap.size 57 #[.int .i64 0,.int .u64 0,.slice none 0 0,.slice none 0 0]) (fun _ _ v8 _=>ps.length+1-(intOf v8).toNat)
 case atStart=>exact⟨0,[],false,none,0,Nat.zero_le _,rfl,rfl,rfl,rfl,rfl,OwnI.nil _ _ _,by simp,by simp,fun _=>⟨rfl,by simp⟩,xP,uY⟩
 case round =>
 clear xP uY;obtain⟨j,L,b,VA,vc,hj,Zg,rfl,rfl,rfl,KG,vW,Yo,mK,h2,xP,uY⟩:=hrel
 have XO:Hid ((j:Int)≤vc):=by
  obtain⟨_,c9,e,h1,_⟩:=vW.form;injection e with _ _ e3
  subst e3;show(j:Int)≤(vc:Int)
  omega
 have HS:=Hh (And.intro Yo (And.intro mK h2));have HJ:=Hh Zg;clear Yo mK h2 Zg
 by_cases ye:j<ps.length
 ·have tb:j+1<ps.length:=by have:=HJ.out;have:=HE.out;omega
  obtain⟨ib,io,rH,vD⟩:=HR.out.elems (by omega);obtain⟨y1,y2,y3,y4,q0,q1,q2,q3,tA⟩:=vD.get j ye;obtain⟨z1,z2,z3,z4,s0,s1,s2,s3,oI⟩:=vD.get (j+1) tb;subst rH;have Uj:=Hh (Po.out ps[j] (List.getElem_mem ye));have be:=Hh (And.intro (List.getElem_mem ye) (List.getElem_mem tb))
  have Ja:=Hh (show(yx (ps.take (j+2))).length=(yx (ps.take j)).length+(zZ ps[j]).length+(zZ ps[j+1]).length by
   have h1:=uZ ps (j+1) tb;have h2:=uZ ps j ye;rw[show j+2=j+1+1 by omega,h1,h2];simp only[List.length_append])
  have Jb:=Hh (show ps.take (j+2)=ps.take j++[ps[j],ps[j+1]] by
   rw[show j+2=j+1+1 by omega,List.take_succ_eq_append_getElem tb,List.take_succ_eq_append_getElem ye,List.append_assoc];rfl)
  have ff:=Hh (show wn ps=true→∀ m (hm:m+2=j) (hl:m<L.length),Lib.compareBytes (zZ L[m]) (zZ ps[j])<0 from fun hA m hm hl=>by
   have e:=(HS.out.2.2 hA).2;have NE:m<j:=by omega
   have Kq:m<ps.length:=by omega
   have h1:L[m]? = some (ps[m]'Kq):=by rw[e,List.getElem?_take,if_pos NE,List.getElem?_eq_getElem]
   rw[List.getElem?_eq_getElem hl]at h1;rw[Option.some.inj h1];have h2:=WG (m:=m) hA (by have:=HJ.out;omega) (by omega);have h3:ps[m+2]'(by omega)=ps[j]:=by congr 1
   rw[h3]at h2
   exact h2)
  generalize ps[j]'ye=y at *
  generalize ps[j+1]'tb=z at *
  clear vD;have mG:(j:Int)<ps.length:=by omega
  have eS:(j:Int)+1<ps.length:=by omega
  have XD:(j:Int)+2≤9223372036854775807:=by omega
  have Qf:Hid (IntKind.i64.wrap ((j:Int)+1)=(j:Int)+1):=IntWalk.i64_in _ (by omega);go_wp2_with fail
  go_loopw [9] (fun v9 wx=>∃ k:Nat,k≤j∧k%2=0∧(wn ps=true→k=j)∧v9=.int .i64 (k:Int)∧OwnI wx (w.heap.size+1) (.slice VA j vc) H L∧Below w.heap.size w wx∧Blk wx w.heap.size 57 #[.int .i64 0,.int .u64 0,.slice none 0 0,.slice none 0 0]) (fun v9 _=>(intOf v9).toNat)
  case atStart=>exact⟨j,Nat.le_refl _,HJ.out,fun _=>rfl,rfl,vW,xP,uY⟩
  case round =>
  clear vW xP uY;obtain⟨k,hk,VF,Qq,rfl,pN,wG,kH⟩:=hrel;have Na:=Hh Qq;clear Qq;have Uc:=Hh VF;clear VF;have N3:((k:Nat):Int)≤j:=by omega
  go_upto_region 15 with fail
  go_cut [51] (fun s51 wx=>∃ bb:Bool,s51=.bool bb∧(bb=true→2≤k)∧(wn ps=true→bb=false)∧OwnI wx (w.heap.size+1) (.slice VA j vc) H L∧Below w.heap.size w wx∧Blk wx w.heap.size 57 #[.int .i64 0,.int .u64 0,.slice none 0 0,.slice none 0 0])
  case first =>
   by_cases tB:k=0
   ·subst tB;skip
    refine zr 16 (fun _=>True) (by kernel_rfl) (trivial) (fun zy=>?_)
    refine Tk 0 rfl zy ?_
    refine Tk 1 rfl zy ?_
    refine Tk 2 rfl zy ?_
    refine TkU 3 rfl zy ?_
    refine TkU 4 rfl zy ?_
    refine TkU 5 rfl zy ?_
    refine TkU 6 rfl zy ?_
    refine TkU 7 rfl zy ?_
    refine TkU 8 rfl zy ?_
    refine TkU 9 rfl zy ?_
    refine TkU 10 rfl zy ?_
    refine TkU 11 rfl zy ?_
    refine TkU 12 rfl zy ?_
    refine TkU 13 rfl zy ?_
    refine TkU 14 rfl zy ?_
    refine TkU 15 rfl zy ?_
    refine To 16 rfl fun K hK=>?_
    go_simp
    refine Kz hK ?_
    clear hK K
    refine Wd ?_
    go_wp2_with fail
    go_meet
    exact⟨false,rfl,(fun h=>by cases h),(fun _=>rfl),pN,wG.drew,kH⟩
   obtain⟨m,rfl⟩:∃ m,k=m+2:=⟨k-2,by have:=Uc.out;omega⟩
   have NE:m<j:=by omega
   obtain⟨lb,lo,N6,x1,x2,x3,x4,c0,c1,c2,c3,Mu⟩:=pN.cells m (by omega);subst N6;have Ui:=Hh (Po.out _ (HS.out.1 _ (List.getElem_mem (show m<L.length by omega))));have MU:=Hh (show wn ps=true→Lib.compareBytes (zZ (L[m]'(by omega))) (zZ y)<0 from fun hA=>ff.out hA m (Na.out hA) (by omega))
   generalize L[m]'(by omega)=x at *
   have e2:((m+2:Nat):Int)=(m:Int)+2:=by omega
   rw[e2];have oq:IntKind.i64.wrap ((m:Int)+2-2)=(m:Int):=by rw[show(m:Int)+2-2=(m:Int) by omega];exact IntWalk.i64_in _ (by omega)
   have mN:IntKind.i64.wrap (m:Int)=(m:Int):=IntWalk.i64_in _ (by omega);have OD:(m:Int)<j:=by omega
   have kL:(0:Int)≤(m:Int):=by omega
   have Kq:(0:Int)<(m:Int)+2:=by omega
   have xY:=(hH.below wG (Nat.le_refl _)).drew;have p0:=xY.cell q0;have p1:=xY.cell q1;have p2:=xY.cell q2;have p3:=xY.cell q3;have c0:=tk c0;have c1:=tk c1;have c2:=tk c2;have c3:=tk c3;have yX:=wG.drew;have bj:=OwnI.drew pN;have ef:=kH.drew;obtain⟨cmp,qb⟩:∃ cmp,Lib.compareBytes (zZ x) (zZ y)=cmp:=⟨_,rfl⟩
   have gx:=(wX x).1 Ui.out;have gy:=(wX y).1 Uj.out;have pr:=Hh gx;have Sc:=Hh gy;have Lx:=Hh qb;have Pj:=Hh (show wn ps=true→cmp<0 from fun hA=>by have h:=MU.out hA;rw[qb]at h;exact h);clear gx gy qb e2 pN wG kH tB hk;skip
   refine zr 16 (fun w'=>w'.cell? ⟨lb,lo+m*4,none⟩=some (.int .i64 x.kind)∧w'.cell? ⟨lb,lo+m*4+1,none⟩=some (.int .u64 x.n)∧w'.cell? ⟨lb,lo+m*4+2,none⟩=some (.slice x1 x.bytes.length x2)∧w'.cell? ⟨lb,lo+m*4+3,none⟩=some (.slice x3 x.items.length x4)∧w'.cell? ⟨ib,io+j*4,none⟩=some (.int .i64 y.kind)∧w'.cell? ⟨ib,io+j*4+1,none⟩=some (.int .u64 y.n)∧w'.cell? ⟨ib,io+j*4+2,none⟩=some (.slice y1 y.bytes.length y2)∧w'.cell? ⟨ib,io+j*4+3,none⟩=some (.slice y3 y.items.length y4)) (by kernel_rfl) (⟨c0,c1,c2,c3,p0,p1,p2,p3⟩) (fun zy=>?_)
   refine Tk 0 rfl zy ?_
   refine Tk 1 rfl zy ?_
   refine Tk 2 rfl zy ?_
   refine TkG 3 rfl zy ?_
   refine TkG 4 rfl zy ?_
   refine TkG 5 rfl zy ?_
   refine TkG 6 rfl zy ?_
   refine TkG 7 rfl zy ?_
   refine TkG 9 rfl zy ?_
   refine TkG 10 rfl zy ?_
   refine TkG 11 rfl zy ?_
   refine TkG 12 rfl zy ?_
   refine To 8 rfl fun K hK=>?_
   go_simp
   refine(sP x H _ _ x1 _ x2 x3 _ x4 _ 0 pr.out.1 (by have:=pr.out.2.2;omega) Mu.arg xY).mono ?_
   rintro e w5 ⟨r5,rfl,ul⟩
   obtain⟨RA5,rc5,rfl,_⟩:=ul.own.form;have xY:=xY.below ul.2 (Nat.le_refl _);have yX:=yX.trans (ul.2.mono yX.size);have bj:=bj.below ul.2;have ef:=ef.below ul.2;have fp:=ul.own.src;have c0:=zM c0 ul.2;have c1:=zM c1 ul.2;have c2:=zM c2 ul.2;have c3:=zM c3 ul.2
   refine Ko hK ?_ fun zy=>?_
   ·exact⟨c0,c1,c2,c3,xY.cell q0,xY.cell q1,xY.cell q2,xY.cell q3⟩
   clear hK K
   refine To 13 rfl fun K hK=>?_
   go_simp
   refine(sP y H _ _ y1 _ y2 y3 _ y4 _ 0 Sc.out.1 (by have:=Sc.out.2.2;omega) tA.arg xY).mono ?_
   rintro e w6 ⟨r6,rfl,rT⟩
   obtain⟨RA6,rc6,rfl,_⟩:=rT.own.form;have xY:=xY.below rT.2 (Nat.le_refl _);have yX:=yX.trans (rT.2.mono yX.size);have bj:=bj.below rT.2;have ef:=ef.below rT.2;have fp:=fp.below rT.2;have XJ:=rT.own.src;have c0:=zM c0 rT.2;have c1:=zM c1 rT.2;have c2:=zM c2 rT.2;have c3:=zM c3 rT.2
   refine Ko hK ?_ fun zy=>?_
   ·exact⟨c0,c1,c2,c3,xY.cell q0,xY.cell q1,xY.cell q2,xY.cell q3⟩
   clear hK K
   refine To 14 rfl fun K hK=>?_
   go_simp
   refine(se _ RA5 RA6 (zZ x) (zZ y) (zZ x).length (zZ y).length rc5 rc6 rfl rfl (by have:=pr.out.2.2;omega) (by have:=Sc.out.2.2;omega) fp XJ).mono ?_
   rintro e w7 ⟨rfl,vJ⟩
   rw[Lx.out];have xY:=xY.below vJ (Nat.le_refl _);have yX:=yX.trans (vJ.mono yX.size);have bj:=bj.below vJ;have ef:=ef.below vJ;have c0:=zM c0 vJ;have c1:=zM c1 vJ;have c2:=zM c2 vJ;have c3:=zM c3 vJ
   refine Ko hK ?_ fun zy=>?_
   ·exact⟨c0,c1,c2,c3,xY.cell q0,xY.cell q1,xY.cell q2,xY.cell q3⟩
   clear hK K
   refine TkG 15 rfl zy ?_
   refine To 16 rfl fun K hK=>?_
   go_simp
   refine Kz hK ?_
   clear hK K
   refine Wd ?_
   clear zy fp XJ c0 c1 c2 c3 p0 p1 p2 p3;go_wp2_with fail
   go_meet
   exact⟨decide ((0:Int)<cmp),rfl,(fun _=>by omega),(fun hA=>decide_eq_false (by have:=Pj.out hA;omega)),bj,yX,ef⟩
  case rest =>
  clear pN wG kH;obtain⟨bb,rfl,l8,KZ,pN,wG,kH⟩:=hcut;have Gw:=Hh KZ;clear KZ
  cases bb with
  | true =>
   obtain⟨m,rfl⟩:∃ m,k=m+2:=⟨k-2,by have:=l8 rfl;omega⟩
   have oq:IntKind.i64.wrap (((m+2:Nat):Int)-2)=(m:Int):=by rw[show((m+2:Nat):Int)-2=(m:Int) by omega];exact IntWalk.i64_in _ (by omega)
   clear l8;go_wp2_with fail
   go_roundw
   case rel=>exact⟨m,by omega,by have:=Uc.out;omega,(fun hA=>by have:=Gw.out hA;cases this),by first | rfl | go_num,pN,wG,kH⟩
   case measure=>simp[intOf];omega
  | false =>
  clear l8;go_upto_region 17 with fail
  go_cut [7] (fun s7 wx=>∃ b':Bool,s7=.bool b'∧(k=0→b'=b)∧(wn ps=true→b'=b)∧OwnI wx (w.heap.size+1) (.slice VA j vc) H L∧Below w.heap.size w wx∧Blk wx w.heap.size 57 #[.int .i64 0,.int .u64 0,.slice none 0 0,.slice none 0 0])
  case first =>
   cases b with
   | true =>
    refine zr 20 (fun _=>True) (by kernel_rfl) (trivial) (fun zy=>?_)
    refine Tk 0 rfl zy ?_
    refine Tk 1 rfl zy ?_
    refine TkU 2 rfl zy ?_
    refine TkU 3 rfl zy ?_
    refine TkU 4 rfl zy ?_
    refine TkU 5 rfl zy ?_
    refine TkU 6 rfl zy ?_
    refine TkU 7 rfl zy ?_
    refine TkU 8 rfl zy ?_
    refine TkU 9 rfl zy ?_
    refine TkU 10 rfl zy ?_
    refine TkU 11 rfl zy ?_
    refine TkU 12 rfl zy ?_
    refine TkU 13 rfl zy ?_
    refine TkU 14 rfl zy ?_
    refine TkU 15 rfl zy ?_
    refine TkU 16 rfl zy ?_
    refine TkU 17 rfl zy ?_
    refine TkU 18 rfl zy ?_
    refine Tk 19 rfl zy ?_
    refine To 20 rfl fun K hK=>?_
    go_simp
    refine Kz hK ?_
    clear hK K
    refine Wd ?_
    go_wp2_with fail
    go_meet
    exact⟨true,rfl,(fun _=>rfl),(fun _=>rfl),pN,wG.drew,kH⟩
   | false =>
   by_cases tB:k=0
   ·subst tB
    refine zr 20 (fun _=>True) (by kernel_rfl) (trivial) (fun zy=>?_)
    refine Tk 0 rfl zy ?_
    refine Tk 1 rfl zy ?_
    refine TkG 2 rfl zy ?_
    refine TkG 3 rfl zy ?_
    refine TkG 4 rfl zy ?_
    refine TkU 5 rfl zy ?_
    refine TkU 6 rfl zy ?_
    refine TkU 7 rfl zy ?_
    refine TkU 8 rfl zy ?_
    refine TkU 9 rfl zy ?_
    refine TkU 10 rfl zy ?_
    refine TkU 11 rfl zy ?_
    refine TkU 12 rfl zy ?_
    refine TkU 13 rfl zy ?_
    refine TkU 14 rfl zy ?_
    refine TkU 15 rfl zy ?_
    refine TkU 16 rfl zy ?_
    refine TkU 17 rfl zy ?_
    refine TkG 18 rfl zy ?_
    refine Tk 19 rfl zy ?_
    refine To 20 rfl fun K hK=>?_
    go_simp
    refine Kz hK ?_
    clear hK K
    refine Wd ?_
    go_wp2_with fail
    go_meet
    exact⟨false,rfl,(fun _=>rfl),(fun _=>rfl),pN,wG.drew,kH⟩
   skip
   obtain⟨m,rfl⟩:∃ m,k=m+2:=⟨k-2,by have:=Uc.out;omega⟩
   have NE:m<j:=by omega
   obtain⟨lb,lo,N6,x1,x2,x3,x4,c0,c1,c2,c3,Mu⟩:=pN.cells m (by omega);subst N6;have Ui:=Hh (Po.out _ (HS.out.1 _ (List.getElem_mem (show m<L.length by omega))));have MU:=Hh (show wn ps=true→Lib.compareBytes (zZ (L[m]'(by omega))) (zZ y)<0 from fun hA=>ff.out hA m (Na.out hA) (by omega))
   generalize L[m]'(by omega)=x at *
   have e2:((m+2:Nat):Int)=(m:Int)+2:=by omega
   rw[e2];have oq:IntKind.i64.wrap ((m:Int)+2-2)=(m:Int):=by rw[show(m:Int)+2-2=(m:Int) by omega];exact IntWalk.i64_in _ (by omega)
   have mN:IntKind.i64.wrap (m:Int)=(m:Int):=IntWalk.i64_in _ (by omega);have OD:(m:Int)<j:=by omega
   have kL:(0:Int)≤(m:Int):=by omega
   have Kq:(0:Int)<(m:Int)+2:=by omega
   have xY:=(hH.below wG (Nat.le_refl _)).drew;have p0:=xY.cell q0;have p1:=xY.cell q1;have p2:=xY.cell q2;have p3:=xY.cell q3;have c0:=tk c0;have c1:=tk c1;have c2:=tk c2;have c3:=tk c3;have yX:=wG.drew;have bj:=OwnI.drew pN;have ef:=kH.drew;obtain⟨cmp,qb⟩:∃ cmp,Lib.compareBytes (zZ x) (zZ y)=cmp:=⟨_,rfl⟩
   have gx:=(wX x).1 Ui.out;have gy:=(wX y).1 Uj.out;have pr:=Hh gx;have Sc:=Hh gy;have Lx:=Hh qb;have Pj:=Hh (show wn ps=true→cmp<0 from fun hA=>by have h:=MU.out hA;rw[qb]at h;exact h);clear gx gy qb e2 pN wG kH tB hk
   refine zr 20 (fun w'=>w'.cell? ⟨lb,lo+m*4,none⟩=some (.int .i64 x.kind)∧w'.cell? ⟨lb,lo+m*4+1,none⟩=some (.int .u64 x.n)∧w'.cell? ⟨lb,lo+m*4+2,none⟩=some (.slice x1 x.bytes.length x2)∧w'.cell? ⟨lb,lo+m*4+3,none⟩=some (.slice x3 x.items.length x4)∧w'.cell? ⟨ib,io+j*4,none⟩=some (.int .i64 y.kind)∧w'.cell? ⟨ib,io+j*4+1,none⟩=some (.int .u64 y.n)∧w'.cell? ⟨ib,io+j*4+2,none⟩=some (.slice y1 y.bytes.length y2)∧w'.cell? ⟨ib,io+j*4+3,none⟩=some (.slice y3 y.items.length y4)) (by kernel_rfl) (⟨c0,c1,c2,c3,p0,p1,p2,p3⟩) (fun zy=>?_)
   refine Tk 0 rfl zy ?_
   refine Tk 1 rfl zy ?_
   refine TkG 2 rfl zy ?_
   refine TkG 3 rfl zy ?_
   refine TkG 4 rfl zy ?_
   refine TkG 5 rfl zy ?_
   refine TkG 6 rfl zy ?_
   refine TkG 7 rfl zy ?_
   refine TkG 8 rfl zy ?_
   refine TkG 9 rfl zy ?_
   refine TkG 11 rfl zy ?_
   refine TkG 12 rfl zy ?_
   refine TkG 13 rfl zy ?_
   refine TkG 14 rfl zy ?_
   refine To 10 rfl fun K hK=>?_
   go_simp
   refine(sP x H _ _ x1 _ x2 x3 _ x4 _ 0 pr.out.1 (by have:=pr.out.2.2;omega) Mu.arg xY).mono ?_
   rintro e w5 ⟨r5,rfl,ul⟩
   obtain⟨RA5,rc5,rfl,_⟩:=ul.own.form;have xY:=xY.below ul.2 (Nat.le_refl _);have yX:=yX.trans (ul.2.mono yX.size);have bj:=bj.below ul.2;have ef:=ef.below ul.2;have fp:=ul.own.src;have c0:=zM c0 ul.2;have c1:=zM c1 ul.2;have c2:=zM c2 ul.2;have c3:=zM c3 ul.2
   refine Ko hK ?_ fun zy=>?_
   ·exact⟨c0,c1,c2,c3,xY.cell q0,xY.cell q1,xY.cell q2,xY.cell q3⟩
   clear hK K
   refine To 15 rfl fun K hK=>?_
   go_simp
   refine(sP y H _ _ y1 _ y2 y3 _ y4 _ 0 Sc.out.1 (by have:=Sc.out.2.2;omega) tA.arg xY).mono ?_
   rintro e w6 ⟨r6,rfl,rT⟩
   obtain⟨RA6,rc6,rfl,_⟩:=rT.own.form;have xY:=xY.below rT.2 (Nat.le_refl _);have yX:=yX.trans (rT.2.mono yX.size);have bj:=bj.below rT.2;have ef:=ef.below rT.2;have fp:=fp.below rT.2;have XJ:=rT.own.src;have c0:=zM c0 rT.2;have c1:=zM c1 rT.2;have c2:=zM c2 rT.2;have c3:=zM c3 rT.2
   refine Ko hK ?_ fun zy=>?_
   ·exact⟨c0,c1,c2,c3,xY.cell q0,xY.cell q1,xY.cell q2,xY.cell q3⟩
   clear hK K
   refine To 16 rfl fun K hK=>?_
   go_simp
   refine(se _ RA5 RA6 (zZ x) (zZ y) (zZ x).length (zZ y).length rc5 rc6 rfl rfl (by have:=pr.out.2.2;omega) (by have:=Sc.out.2.2;omega) fp XJ).mono ?_
   rintro e w7 ⟨rfl,vJ⟩
   rw[Lx.out];have xY:=xY.below vJ (Nat.le_refl _);have yX:=yX.trans (vJ.mono yX.size);have bj:=bj.below vJ;have ef:=ef.below vJ;have c0:=zM c0 vJ;have c1:=zM c1 vJ;have c2:=zM c2 vJ;have c3:=zM c3 vJ
   refine Ko hK ?_ fun zy=>?_
   ·exact⟨c0,c1,c2,c3,xY.cell q0,xY.cell q1,xY.cell q2,xY.cell q3⟩
   clear hK K
   refine TkG 17 rfl zy ?_
   refine TkG 18 rfl zy ?_
   refine Tk 19 rfl zy ?_
   refine To 20 rfl fun K hK=>?_
   go_simp
   refine Kz hK ?_
   clear hK K
   refine Wd ?_
   clear zy fp XJ c0 c1 c2 c3 p0 p1 p2 p3;go_wp2_with fail
   go_meet
   exact⟨cmp==0,rfl,(fun h=>absurd h (by omega)),(fun hA=>by rw[beq_eq_false_iff_ne];have:=Pj.out hA;omega),bj,yX,ef⟩
  case rest =>
  clear pN wG kH;obtain⟨b',rfl,Ny,V9,pN,wG,kH⟩:=hcut;have Oi:=Hh V9;clear V9;have HB:=Hh Ny;clear Ny;obtain⟨cs1,cs2,od,XW,Nw,Nx⟩:=pN.parts k;have xY:=(hH.below wG (Nat.le_refl _)).drew;have um:=hH.below wG (Nat.le_refl _);have p0:=xY.cell q0;have p1:=xY.cell q1;have p2:=xY.cell q2;have p3:=xY.cell q3;have r0:=xY.cell s0;have r1:=xY.cell s1;have r2:=xY.cell s2;have r3:=xY.cell s3;have yX:=(Below.refl wc.heap.size wc).drew;have GC:((j:Int)+1).toNat=j+1:=by omega
  have Ga:(0:Int)≤(j:Int)+1:=by omega
  have oq:=Qf.out;have QE:(k:Int)≤vc:=Int.le_trans N3 XO.out;have tB:(0:Int)≤k:=Int.natCast_nonneg k;go_upto_region 18 with fail
  refine zr 19 (fun w'=>w'.cell? ⟨ib,io+j*4,none⟩=some (.int .i64 y.kind)∧w'.cell? ⟨ib,io+j*4+1,none⟩=some (.int .u64 y.n)∧w'.cell? ⟨ib,io+j*4+2,none⟩=some (.slice y1 y.bytes.length y2)∧w'.cell? ⟨ib,io+j*4+3,none⟩=some (.slice y3 y.items.length y4)∧w'.cell? ⟨ib,io+(j+1)*4,none⟩=some (.int .i64 z.kind)∧w'.cell? ⟨ib,io+(j+1)*4+1,none⟩=some (.int .u64 z.n)∧w'.cell? ⟨ib,io+(j+1)*4+2,none⟩=some (.slice z1 z.bytes.length z2)∧w'.cell? ⟨ib,io+(j+1)*4+3,none⟩=some (.slice z3 z.items.length z4)) (by kernel_rfl) (⟨p0,p1,p2,p3,r0,r1,r2,r3⟩) (fun zy=>?_)
  refine Tk 0 rfl zy ?_
  refine Tk 1 rfl zy ?_
  refine Tk 2 rfl zy ?_
  refine Tk 4 rfl zy ?_
  refine Tk 5 rfl zy ?_
  refine Tk 6 rfl zy ?_
  refine Tk 7 rfl zy ?_
  refine Tk 8 rfl zy ?_
  refine Tk 9 rfl zy ?_
  refine Tk 10 rfl zy ?_
  refine Tk 11 rfl zy ?_
  refine Tk 12 rfl zy ?_
  refine Tk 15 rfl zy ?_
  refine Tk 16 rfl zy ?_
  refine Tk 17 rfl zy ?_
  refine Ways.two (i:=3) (j:=13) rfl rfl (by kernel_rfl) (fun K hK=>?_) (fun K hK=>?_)
  ·rw[if_pos (by rfl)]
   refine zA (.const (.slice none 0 0)) (.tmp 76) rfl wc.heap.size (.slice none 0 0) H [] rfl (OwnI.nil _ _ _) _ _ _ cs1 (L.take k) rfl (by rw[List.length_take];omega) od (Nw.below yX) (by simp;omega) yX.size fun v5 w5 hX hg hat=>?_
   rw[List.nil_append]at hX;have oc:=zC (by simpa [Value.ownBlock] using hg);have yX:=yX.trans (oc.mono yX.size)
   try have Um:=Um.below oc
   refine Ko hK ?_ fun zy=>?_
   ·exact⟨(um.below yX (Nat.le_refl _)).cell q0,(um.below yX (Nat.le_refl _)).cell q1,(um.below yX (Nat.le_refl _)).cell q2,(um.below yX (Nat.le_refl _)).cell q3,(um.below yX (Nat.le_refl _)).cell s0,(um.below yX (Nat.le_refl _)).cell s1,(um.below yX (Nat.le_refl _)).cell s2,(um.below yX (Nat.le_refl _)).cell s3⟩
   clear hK K
   refine To 13 rfl fun K hK=>?_
   go_simp
   have Um:=g9 yX 57 #[.int .i64 y.kind,.int .u64 y.n,.slice y1 y.bytes.length y2,.slice y3 y.items.length y4,.int .i64 z.kind,.int .u64 z.n,.slice z1 z.bytes.length z2,.slice z3 z.items.length z4]
   try have hX:=hX.alloc (.cells #[.int .i64 y.kind,.int .u64 y.n,.slice y1 y.bytes.length y2,.slice y3 y.items.length y4,.int .i64 z.kind,.int .u64 z.n,.slice z1 z.bytes.length z2,.slice z3 z.items.length z4] 57)
   have yX:=yX.alloc yX.size (.cells #[.int .i64 y.kind,.int .u64 y.n,.slice y1 y.bytes.length y2,.slice y3 y.items.length y4,.int .i64 z.kind,.int .u64 z.n,.slice z1 z.bytes.length z2,.slice z3 z.items.length z4] 57)
   refine Ko hK ?_ fun zy=>?_
   ·exact⟨(um.below yX (Nat.le_refl _)).cell q0,(um.below yX (Nat.le_refl _)).cell q1,(um.below yX (Nat.le_refl _)).cell q2,(um.below yX (Nat.le_refl _)).cell q3,(um.below yX (Nat.le_refl _)).cell s0,(um.below yX (Nat.le_refl _)).cell s1,(um.below yX (Nat.le_refl _)).cell s2,(um.below yX (Nat.le_refl _)).cell s3⟩
   clear hK K
   refine To 14 rfl fun K hK=>?_
   rw[if_pos (by rfl)]
   refine zA (.tmp 77) (.tmp 87) rfl wc.heap.size _ H (L.take k) rfl hX _ _ _ (zY y y1 y2 y3 y4++zY z z1 z2 z3 z4) [y,z] rfl rfl ((ItemsC.one tA).app (ItemsC.one oI)) Um (by rw[List.length_take];simp;omega) yX.size fun v7 w7 mM hg7 hat7=>?_
   have yX:=yX.grown hg7 yX.size (fun q hq=>(hX.lt q hq).1)
   refine Ko hK ?_ fun zy=>?_
   ·exact⟨(um.below yX (Nat.le_refl _)).cell q0,(um.below yX (Nat.le_refl _)).cell q1,(um.below yX (Nat.le_refl _)).cell q2,(um.below yX (Nat.le_refl _)).cell q3,(um.below yX (Nat.le_refl _)).cell s0,(um.below yX (Nat.le_refl _)).cell s1,(um.below yX (Nat.le_refl _)).cell s2,(um.below yX (Nat.le_refl _)).cell s3⟩
   clear hK K
   refine To 18 rfl fun K hK=>?_
   rw[if_pos (by rfl)]
   refine zA (.tmp 88) (.tmp 91) rfl wc.heap.size _ H (L.take k++[y,z]) rfl mM _ _ _ cs2 (L.drop k) rfl (by rw[List.length_drop];omega) XW ?_ (by rw[List.length_append,List.length_take,List.length_drop];simp;omega) yX.size fun v8 w8 tK hg8 hat8=>?_
   ·exact(Src.slicek Nx XW KG XO.out).below yX
   have yX:=yX.grown hg8 yX.size (fun q hq=>(mM.lt q hq).1)
   refine Ko hK ?_ fun zy=>?_
   ·exact⟨(um.below yX (Nat.le_refl _)).cell q0,(um.below yX (Nat.le_refl _)).cell q1,(um.below yX (Nat.le_refl _)).cell q2,(um.below yX (Nat.le_refl _)).cell q3,(um.below yX (Nat.le_refl _)).cell s0,(um.below yX (Nat.le_refl _)).cell s1,(um.below yX (Nat.le_refl _)).cell s2,(um.below yX (Nat.le_refl _)).cell s3⟩
   clear hK K
   refine To 19 rfl fun K hK=>?_
   go_simp
   refine Kz hK ?_
   clear hK K
   refine Wd ?_
   clear zy hX mM hg hat hg7 hat7 hg8 hat8 oc Um Nw Nx od XW p0 p1 p2 p3 r0 r1 r2 r3 xY;obtain⟨VA',vc',rfl,_⟩:=tK.form;have zN:(L.take k++[y,z]++L.drop k).length=j+2:=by rw[List.length_append,List.length_append,List.length_take,List.length_drop];simp;omega
   rw[zN]at tK;rw[zN];have lm:=tK.more (base':=w.heap.size+1) (by have:=kH.lt;omega);have mI:=wG.trans (yX.mono wG.size);have vI:=kH.below yX;have uK:=Hh zN;clear zN tK;go_wp2_with fail
   go_roundw
   case rel =>
    refine⟨j+2,L.take k++[y,z]++L.drop k,b',VA',vc',by omega,by have:=HJ.out;omega,by go_num,rfl,rfl,uK.out,lm,fun x hx=>?_, ?_,fun h2=>?_,mI,vI⟩
    ·simp only[List.mem_append,List.mem_cons,List.not_mem_nil,or_false]at hx
     rcases hx with (hx | rfl | rfl) | hx
     ·exact HS.out.1 x (List.mem_of_mem_take hx)
     ·exact be.out.1
     ·exact be.out.2
     exact HS.out.1 x (List.mem_of_mem_drop hx)
    ·rw[dh,Ja.out,HS.out.2.1]
    have Pz:=HS.out.2.2 h2;have Qq:=Na.out h2
    refine⟨by rw[Oi.out h2];exact Pz.1, ?_⟩
    rw[Jb.out,← Pz.2,Qq,List.take_of_length_le (by omega),List.drop_of_length_le (by omega)]
    simp
   case measure=>simp[intOf];omega
  go_simp
  have Um:=g9 yX 57 #[.int .i64 y.kind,.int .u64 y.n,.slice y1 y.bytes.length y2,.slice y3 y.items.length y4,.int .i64 z.kind,.int .u64 z.n,.slice z1 z.bytes.length z2,.slice z3 z.items.length z4]
  try have hX:=hX.alloc (.cells #[.int .i64 y.kind,.int .u64 y.n,.slice y1 y.bytes.length y2,.slice y3 y.items.length y4,.int .i64 z.kind,.int .u64 z.n,.slice z1 z.bytes.length z2,.slice z3 z.items.length z4] 57)
  have yX:=yX.alloc yX.size (.cells #[.int .i64 y.kind,.int .u64 y.n,.slice y1 y.bytes.length y2,.slice y3 y.items.length y4,.int .i64 z.kind,.int .u64 z.n,.slice z1 z.bytes.length z2,.slice z3 z.items.length z4] 57)
  refine Ko hK ?_ fun zy=>?_
  ·exact⟨(um.below yX (Nat.le_refl _)).cell q0,(um.below yX (Nat.le_refl _)).cell q1,(um.below yX (Nat.le_refl _)).cell q2,(um.below yX (Nat.le_refl _)).cell q3,(um.below yX (Nat.le_refl _)).cell s0,(um.below yX (Nat.le_refl _)).cell s1,(um.below yX (Nat.le_refl _)).cell s2,(um.below yX (Nat.le_refl _)).cell s3⟩
  clear hK K
  refine To 3 rfl fun K hK=>?_
  rw[if_pos (by rfl)]
  refine zA (.const (.slice none 0 0)) (.tmp 76) rfl wc.heap.size (.slice none 0 0) H [] rfl (OwnI.nil _ _ _) _ _ _ cs1 (L.take k) rfl (by rw[List.length_take];omega) od (Nw.below yX) (by simp;omega) yX.size fun v5 w5 hX hg hat=>?_
  rw[List.nil_append]at hX;have oc:=zC (by simpa [Value.ownBlock] using hg);have yX:=yX.trans (oc.mono yX.size)
  try have Um:=Um.below oc
  refine Ko hK ?_ fun zy=>?_
  ·exact⟨(um.below yX (Nat.le_refl _)).cell q0,(um.below yX (Nat.le_refl _)).cell q1,(um.below yX (Nat.le_refl _)).cell q2,(um.below yX (Nat.le_refl _)).cell q3,(um.below yX (Nat.le_refl _)).cell s0,(um.below yX (Nat.le_refl _)).cell s1,(um.below yX (Nat.le_refl _)).cell s2,(um.below yX (Nat.le_refl _)).cell s3⟩
  clear hK K
  refine To 14 rfl fun K hK=>?_
  rw[if_pos (by rfl)]
  refine zA (.tmp 77) (.tmp 87) rfl wc.heap.size _ H (L.take k) rfl hX _ _ _ (zY y y1 y2 y3 y4++zY z z1 z2 z3 z4) [y,z] rfl rfl ((ItemsC.one tA).app (ItemsC.one oI)) Um (by rw[List.length_take];simp;omega) yX.size fun v7 w7 mM hg7 hat7=>?_
  have yX:=yX.grown hg7 yX.size (fun q hq=>(hX.lt q hq).1)
  refine Ko hK ?_ fun zy=>?_
  ·exact⟨(um.below yX (Nat.le_refl _)).cell q0,(um.below yX (Nat.le_refl _)).cell q1,(um.below yX (Nat.le_refl _)).cell q2,(um.below yX (Nat.le_refl _)).cell q3,(um.below yX (Nat.le_refl _)).cell s0,(um.below yX (Nat.le_refl _)).cell s1,(um.below yX (Nat.le_refl _)).cell s2,(um.below yX (Nat.le_refl _)).cell s3⟩
  clear hK K
  refine To 18 rfl fun K hK=>?_
  rw[if_pos (by rfl)]
  refine zA (.tmp 88) (.tmp 91) rfl wc.heap.size _ H (L.take k++[y,z]) rfl mM _ _ _ cs2 (L.drop k) rfl (by rw[List.length_drop];omega) XW ?_ (by rw[List.length_append,List.length_take,List.length_drop];simp;omega) yX.size fun v8 w8 tK hg8 hat8=>?_
  ·exact(Src.slicek Nx XW KG XO.out).below yX
  have yX:=yX.grown hg8 yX.size (fun q hq=>(mM.lt q hq).1)
  refine Ko hK ?_ fun zy=>?_
  ·exact⟨(um.below yX (Nat.le_refl _)).cell q0,(um.below yX (Nat.le_refl _)).cell q1,(um.below yX (Nat.le_refl _)).cell q2,(um.below yX (Nat.le_refl _)).cell q3,(um.below yX (Nat.le_refl _)).cell s0,(um.below yX (Nat.le_refl _)).cell s1,(um.below yX (Nat.le_refl _)).cell s2,(um.below yX (Nat.le_refl _)).cell s3⟩
  clear hK K
  refine To 19 rfl fun K hK=>?_
  go_simp
  refine Kz hK ?_
  clear hK K
  refine Wd ?_
  clear zy hX mM hg hat hg7 hat7 hg8 hat8 oc Um Nw Nx od XW p0 p1 p2 p3 r0 r1 r2 r3 xY;obtain⟨VA',vc',rfl,_⟩:=tK.form;have zN:(L.take k++[y,z]++L.drop k).length=j+2:=by rw[List.length_append,List.length_append,List.length_take,List.length_drop];simp;omega
  rw[zN]at tK;rw[zN];have lm:=tK.more (base':=w.heap.size+1) (by have:=kH.lt;omega);have mI:=wG.trans (yX.mono wG.size);have vI:=kH.below yX;have uK:=Hh zN;clear zN tK;go_wp2_with fail
  go_roundw
  case rel =>
   refine⟨j+2,L.take k++[y,z]++L.drop k,b',VA',vc',by omega,by have:=HJ.out;omega,by go_num,rfl,rfl,uK.out,lm,fun x hx=>?_, ?_,fun h2=>?_,mI,vI⟩
   ·simp only[List.mem_append,List.mem_cons,List.not_mem_nil,or_false]at hx
    rcases hx with (hx | rfl | rfl) | hx
    ·exact HS.out.1 x (List.mem_of_mem_take hx)
    ·exact be.out.1
    ·exact be.out.2
    exact HS.out.1 x (List.mem_of_mem_drop hx)
   ·rw[dh,Ja.out,HS.out.2.1]
   have Pz:=HS.out.2.2 h2;have Qq:=Na.out h2
   refine⟨by rw[Oi.out h2];exact Pz.1, ?_⟩
   rw[Jb.out,← Pz.2,Qq,List.take_of_length_le (by omega),List.drop_of_length_le (by omega)]
   simp
  case measure=>simp[intOf];omega
 have sZ:j=ps.length:=by omega
 subst sZ;have TA:(yx L).length=(yx ps).length:=by have:=HS.out.2.1;rw[List.take_length]at this;exact this
 have KE:wn ps=true→b=false∧L=ps:=fun h=>by have:=HS.out.2.2 h;rw[List.take_length]at this;exact this
 have HZ:=Hh (And.intro TA KE);clear TA KE
 cases b with
 | true =>
  go_wp2_with (with_reducible refine zx ?_)
  refine stI uY fun w9 uM nU=>?_
  have rJ:=(Grows.of_below hH xP).grownOwn zF (Nat.le_refl _) nU;go_wp2_with fail
  refine zw rfl rfl uM rfl rfl zv rfl ?_
  exact⟨_,.inr ⟨7,rfl,by omega,⟨none,0,none,0,H,rfl,rJ,IsItem.plain H 0 0 (by omega) (by omega)⟩,fun h=>by have:=(HZ.out.2 h.2.1).1;cases this⟩⟩
 | false =>
 obtain⟨H8,TX,Qp,VD,Zr,rq,rs,XB⟩:=vW.snap (hH.below xP (Nat.le_refl _)) (fun g hg=>hH.none_of_ge (by have:=(vW.lt g (tH hg)).1;omega))
 have Qj:Grows w H wr H8:=⟨xP,TX,Qp,fun b o hb=>by
  rcases VD b o hb with h | h
  ·exact .inl h
  exact .inr (by have:=(vW.lt b (tH h)).1;omega)⟩
 have Kr:H8 w.heap.size=none:=by
  cases h8:H8 w.heap.size with
  | none=>rfl
  | some o =>
  rcases VD _ o h8 with h | h
  ·rw[zF]at h;cases h
  have:=(vW.lt w.heap.size (tH h)).1;omega
 have LM:=Zr;obtain⟨x7,T2⟩:∃ x,Itm.mk 5 0 [] L=x:=⟨_,rfl⟩
 have O6:IsItem H8 none 0 VA vc x7:=by
  rw[← T2,IsItem]
  exact⟨⟨by omega,by omega,by omega,rq,rs⟩,IsBytes.nil _,XB⟩
 have Mp:ItemA H8 5 0 none 0 0 VA ps.length vc x7:=by
  refine⟨by rw[← T2];rfl,by rw[← T2];rfl,by rw[← T2];rfl, ?_,O6⟩
  rw[← T2];exact Zr
 have rJ:=Qj.alloc (.cells #[.int .i64 5,.int .u64 0,.slice none 0 0,.slice VA ps.length vc] 57);have uM:=uY.alloc (.cells #[.int .i64 5,.int .u64 0,.slice none 0 0,.slice VA ps.length vc] 57);have bg:=Blk.new wr 57 #[.int .i64 5,.int .u64 0,.slice none 0 0,.slice VA ps.length vc];have V:=Hh (pF (hTab.mono TX) Mp _ rJ.holds);have Gu:=Hh Mp;have MT:=Hh T2;clear T2 O6 Mp rq rs XB Zr LM VD vW uY
 cases hv:zL x7 with
 | false =>
  rw[hv]at V;have HV:=Hh hv;clear hv;go_wp2_with fail
  refine V.out.mono ?_
  rintro e w10 ⟨rfl,vu⟩
  have bI:=rJ.below_ vu;have uI:=uM.below vu;clear rJ uM bg Qj vu;go_wp2_with (with_reducible refine zx ?_)
  refine stI uI fun w11 fh hg11=>?_
  have iC:=bI.grownOwn Kr (Nat.le_refl _) hg11;go_wp2_with fail
  refine zw rfl rfl fh rfl rfl zv rfl ?_
  exact⟨_,.inr ⟨8,rfl,by omega,⟨none,0,none,0,H8,rfl,iC,IsItem.plain H8 0 0 (by omega) (by omega)⟩,fun h=>by
   have h1:=HV.out;rw[← MT.out,(HZ.out.2 h.2.1).2,h.2.2.2]at h1
   cases h1⟩⟩
 | true =>
 rw[hv]at V;have HV:=Hh hv;clear hv;go_wp2_with fail
 refine V.out.mono ?_
 rintro e w10 ⟨rfl,vu⟩
 have bI:=rJ.below_ vu;have uI:=uM.below vu;have UI:=bg.below vu;have c0:=UI.cell 0 rfl;have c1:=UI.cell 1 rfl;have c2:=UI.cell 2 rfl;have c3:=UI.cell 3 rfl;have C:=Hh (Vz x7 H8 _ _ _ _ _ _ _ _ w10 (wV HV.out) Gu.out bI.holds);clear rJ uM bg Qj vu;go_wp2_with fail
 refine C.out.mono ?_
 rintro e w11 ⟨v11,rfl,ja,jb,jc,jd,Gp,rfl,iC,La⟩
 have fh:=uI.below iC.below;have Lp:=iC.none Kr uI.lt;have fg:=bI.trans iC;clear uI bI iC c0 c1 c2 c3;go_wp2_with (with_reducible refine zx ?_)
 refine stI fh fun w12 eU hg12=>?_
 have Wt:=fg.grownOwn Lp (Nat.le_refl _) hg12;go_wp2_with fail
 refine zw rfl rfl eU rfl rfl zv rfl ?_
 exact⟨_,.inl ⟨L,rfl,by rw[MT.out];exact⟨ja,jb,jc,jd,Gp,rfl,Wt,La⟩,by rw[MT.out];exact HV.out,HZ.out.1,fun h=>(HZ.out.2 h).2⟩⟩
theorem tn {H H':Snap}{A:Option Addr}(hf:∀ b o,H' b=some o→H b=some o∨A.map (·.block)=some b) {q:Nat}(h0:H q=none) (hA:A.map (·.block)=some q→False):H' q=none:=by
 cases h:H' q with
 | none=>rfl
 | some o =>
 rcases hf q o h with h1 | h1
 ·rw[h0]at h1;cases h1
 exact(hA h1).elim
theorem sp {wr:World}{Hr:Snap}(hH:Holds wr Hr) {r0 r:Option Nat}(h0:∀ q,r0=some q→Hr q=none) (h:At0 wr r0 r):∀ q,r=some q→Hr q=none:=fun q hq=>by
 rcases h with h | ⟨g,h1,h2⟩
 ·exact h0 q (by rw[← h,hq])
 rw[hq]at h1;injection h1 with h1;subst h1;exact hH.none_of_ge h2
def PL.pre (L:List Itm) (k0:Nat):PL→PL
 | .err q=>.err q
 | .ok l k c=>.ok (L++l) (k0+k) c
theorem qJ {p:List UInt8→Nat→PR}{m:Nat}{b:List UInt8}{cc q:Nat}(L:List Itm) (k0:Nat) (h:p b cc=.err q):(vQ p (m+1) b cc).pre L k0=.err q:=by rw[vQ,h];rfl
theorem pR {p:List UInt8→Nat→PR}{m:Nat}{b:List UInt8}{cc k c':Nat}{x:Itm}(L:List Itm) (k0:Nat) (h:p b cc=.ok x k c'):(vQ p (m+1) b cc).pre L k0=(vQ p m (b.drop k) c').pre (L++[x]) (k0+k):=by
 rw[vQ,h]
 simp only
 cases vQ p m (b.drop k) c' with
 | err q=>rfl
 | ok l k2 c2=>simp[PL.pre,Nat.add_assoc]
theorem nC (r:PL):r.pre [] 0=r:=by cases r <;> simp[PL.pre]
theorem Rdg.snap {T:TypeId}{w w':World}{H H' H'':Snap}{g B:Nat}{A0:Option Addr}{c:Nat}{l:List UInt8}{p cnt:Nat}{A:Option Addr}(h:Rdg T w H w' H' g A0 c l p cnt) (hl:H'.le H'') (hh:Holds w' H'') (hf:∀ b o,H'' b=some o→H' b=some o∨A.map (·.block)=some b)
  (hA:∀ q,A.map (·.block)=some q→B≤q) (hB:w.heap.size≤B) (hg:g<w.heap.size):Rdg T w H w' H'' g A0 c l p cnt:=by
 refine⟨⟨h.grows.grown,h.grows.le.trans hl,hh,fun b o hb=>?_⟩,h.psr.blk,h.psr.bytes.mono hl,hh, ?_,h.psr.le,h.psr.small,h.psr.cnt_le⟩
 ·rcases hf b o hb with h1 | h1
  ·exact h.grows.fresh b o h1
  exact .inr (by have:=hA _ h1;omega)
 cases hx:H'' g with
 | none=>rfl
 | some o =>
 rcases hf g o hx with h1 | h1
 ·rw[h.psr.apart]at h1;cases h1
 have:=hA _ h1;omega
section
variable {d:Nat} {w:World} {H:Snap} {g:Nat} {A:Option Addr} {c:Nat} {l:List UInt8} {p cnt lv:Nat}
theorem Vq (ih:eO d) (hTab:Tabs H) (hlv:lv+(d+1)=8) (hP:Psr 107 w g H A c l p cnt) (hc:cnt<256) {f n k:Nat}(hh:zf (l.drop p)=.ok (f,n,k)) (hk:f/32=4):Calls Tryz.prog 78 #[.pointer (some ⟨g,0,none⟩),.int .i64 (lv:Int)] w (ItemOut 107 w H g A c l p (zj (d+1) (l.drop p) cnt)):=by
 have yv:=hP.gt;have xg:=(Rdg.refl hP).alloc zg;have we:=Blk.new w 57 #[.int .i64 0,.int .u64 0,.slice none 0 0,.slice none 0 0];have zF:H w.heap.size=none:=hP.holds.none_of_ge (Nat.le_refl _);have c2:=xg.psr.blk.cell 2 rfl;have E0:=Hh (ga d (l.drop p) cnt (by omega) hh hk);have S:(f:Int)/32=4:=by omega
 have bU:¬ ((8:Int)≤(lv:Int)):=by omega
 have KL:IntKind.i64.wrap ((lv:Int)+1)=(lv:Int)+1:=IntWalk.i64_in _ (by omega);have Yn:(lv:Int)≤8:=by omega
 have xv:((cnt:Int)==256)=false:=by simp;omega
 have yD:((cnt:Int)=256)=False:=eq_false (by omega);have KC:IntKind.i64.wrap ((cnt:Int)+1)=(cnt:Int)+1:=IntWalk.i64_in _ (by omega);have HC:=Hh hc;clear hc;go_enter Tryz.func78,Tryz.ntmps78
 go_wp2_with (with_reducible refine zx ?_)
 refine zu rfl _ _ _ rfl rfl g 2 (.int .i64 ((cnt:Int)+1)) rfl rfl _ _ xg.psr.blk zH (by simp) rfl fun w2 yU yq=>?_
 have wl:Rdg 107 w H w2 H g A c l p (cnt+1):=xg.step yq yU hP.le (by have:=HC.out;omega);have uv:=we.gr yq (by omega);have PH:=Hh (rN wl.psr);clear xg we yU yq c2 KC xv yD;go_wp2_with fail
 refine PH.out.mono ?_
 intro e w3 hs
 rw[HeadSaid,hh]at hs;obtain⟨rfl,wL,yQ⟩:=hs;have HS:=xo hh;have tP:p+k≤l.length:=by have:=HS.le;rw[List.length_drop]at this;have:=hP.le;omega
 have xV:Rdg 107 w H w3 H g A c l (p+k) (cnt+1):=wl.step yQ wL tP (by have:=HC.out;omega);have xO:=uv.gr yQ (by omega);have HF:=Hh HS;clear wl uv wL yQ PH HS hh;rw[List.drop_drop]at E0;have nW:=Blk.new w3 57 #[.int .i64 0,.int .u64 0,.slice none 0 0,.slice none 0 0];have vd:=xV.alloc zg;have wT:=xO.alloc zg;have yI:=Hh xO.lt;have eg:H w3.heap.size=none:=xV.psr.holds.none_of_ge (Nat.le_refl _);clear xV xO;go_wp2_with (with_reducible refine zx ?_)
 refine stI nW fun w4 pw tL=>?_
 have yi:=vd.gb eg (Nat.le_of_lt yI.out) yv tL;have yt:=wT.grown tL (by intro e;injection e with e;have:=yI.out;omega);clear vd wT nW tL;obtain⟨X,qm⟩:∃ X,w3.heap.size=X:=⟨_,rfl⟩
 rw[qm]at pw eg yI⊢;clear qm;have Qc:=Hh HF.out.n_lt;obtain⟨P,Sl⟩:∃ P,p+k=P:=⟨_,rfl⟩
 rw[Sl]at yi E0;go_wp2_with fail
 go_loopw [7] (fun v7 wr=>∃ (m:Nat) (Hr:Snap) (VA:Option Addr) (vc vn:Nat) (L:List Itm) (k0 cc:Nat),v7=.int .u64 (m:Int)∧m≤n∧vn=L.length∧Rdg 107 w H wr Hr g A c l (P+k0) cc∧Blk wr w.heap.size 57 #[.int .i64 0,.int .u64 0,.slice none 0 0,.slice none 0 0]∧Hr w.heap.size=none∧
  Blk wr X 57 #[.int .i64 4,.int .u64 0,.slice none 0 0,.slice VA vn vc]∧Hr X=none∧OwnI wr (X+1) (.slice VA vn vc) Hr L∧(∀ q,(Value.slice VA vn vc).ownBlock=some q→Hr q=none)∧L.length≤cc∧
  vQ (zj d) n (l.drop P) (cnt+1)=(vQ (zj d) m (l.drop (P+k0)) cc).pre L k0) (fun v7 _=>(intOf v7).toNat)
 case atStart=>exact⟨n,H,none,0,0,[],0,cnt+1,rfl,Nat.le_refl _,rfl,yi,yt,zF,pw,eg,OwnI.nil _ _ H,by intro q hq;simp[Value.ownBlock]at hq,by simp,by rw[nC];rfl⟩
 case round =>
 clear yi yt pw;obtain⟨m,Hr,VA,vc,vn,L,k0,cc,rfl,QJ,rfl,uk,uY,pO,ql,oD,vW,rI,Zd,rh⟩:=hrel;have sr:=Hh rh;have iK:=Hh Zd;have MC:=Hh QJ;clear rh Zd QJ
 by_cases kL:0<m
 ·obtain⟨m1,rfl⟩:∃ m1,m=m1+1:=⟨m-1,by omega⟩
  have Zi:(0:Int)<((m1+1:Nat):Int):=by omega
  have IT:=ih wr Hr g A c l (P+k0) cc (lv+1) (hTab.mono uk.grows.le) (by omega) uk.psr;rw[show((lv+1:Nat):Int)=(lv:Int)+1 by omega]at IT;have ITH:=Hh IT;have G2:=Hh ql.lt;clear IT;go_wp2_with fail
  refine ITH.out.mono ?_
  intro e w5 hs
  cases hp:zj d (l.drop (P+k0)) cc with
  | err q =>
   rw[hp,ItemOut]at hs;obtain⟨rfl,H5,p5,cnt5,yB⟩:=hs;have nc:((q:Int) != 0)=true:=by rw[bne_iff_ne];have:=yY _ _ _ _ hp;omega
   have kp:((q:Int)=0)=False:=eq_false (by have:=yY _ _ _ _ hp;omega);have E:Hid (zj (d+1) (l.drop p) cnt=.err q):=by rw[Hid,E0.out,sr.out,qJ L k0 hp]
   have z8:=uk.trans yB;have yj:=uY.rdg yB (by omega);have tS:=yB.hid pO uY.lt;have hY:=Blk.new w5 57 #[.int .i64 0,.int .u64 0,.slice none 0 0,.slice none 0 0];have kI:H5 w5.heap.size=none:=z8.psr.holds.none_of_ge (Nat.le_refl _);have qH:=Hh yj.lt;have yC:=z8.alloc zg;have yS:=yj.alloc zg;clear ITH hp uk yB uY ql vW rI sr iK z8 yj;go_wp2_with (with_reducible refine zx ?_)
   refine stI hY fun w8 hY8 hg8=>?_
   have vp:=yC.gb kI (Nat.le_of_lt qH.out) yv hg8;have vI:=yS.grown hg8 (by intro e;injection e with e;have:=qH.out;omega);clear yC yS hY hg8 hY8;go_wp2_with (with_reducible refine zx ?_)
   refine stI vI fun wz hTy zT=>?_
   have zQ:=vp.gb tS (Nat.le_refl _) yv zT;go_wp2_with fail
   refine zw rfl rfl hTy rfl rfl zv rfl ?_
   exact ItemOut.err E.out rfl zQ
  | ok x k' c' =>
  rw[hp,ItemOut]at hs;obtain⟨ja,jb,jc,jd,H5,rfl,yB,Yx⟩:=hs
  have eY:Hid (vQ (zj d) n (l.drop P) (cnt+1)=(vQ (zj d) m1 (l.drop (P+(k0+k'))) c').pre (L++[x]) (k0+k')):=by
   rw[Hid,sr.out,pR L k0 hp,List.drop_drop,Nat.add_assoc]
  have eo:Hid ((L++[x]).length≤c'):=by
   have:=vR d _ _ _ _ _ hp;have:=iK.out;rw[Hid,List.length_append];simp;omega
  have z8:=uk.trans yB;rw[Nat.add_assoc]at z8;have Mr:=z8.psr.cnt_le;have yj:=uY.rdg yB (by omega);have tS:=yB.hid pO uY.lt;have rK:=ql.rdg yB (by have:=yI.out;omega);have mF:=yB.hid oD ql.lt;have sK:=(vW.rdg yB (by have:=yI.out;omega)).mono yB.grows.le;have og:∀ q,(Value.slice VA L.length vc).ownBlock=some q→H5 q=none:=fun q hq=>yB.hid (rI q hq) (vW.lt q hq).2
  have hY:=Blk.new w5 57 #[.int .i64 0,.int .u64 0,.slice none 0 0,.slice none 0 0];have kI:H5 w5.heap.size=none:=z8.psr.holds.none_of_ge (Nat.le_refl _);have qH:=Hh (And.intro yj.lt rK.lt);have nZ:=Hh (show ∀ q,(Value.slice VA L.length vc).ownBlock=some q→X+1≤q∧q<w5.heap.size from fun q hq=>sK.lt q hq);have yC:=z8.alloc zg;have yS:=yj.alloc zg;have mM:=rK.alloc zg;have vo:=sK.alloc zg;have uK:=Hh (show L.length≤256 by have:=eo.out;simp at this;omega);clear ITH hp uk yB uY ql vW rI sr iK z8 yj rK sK;go_wp2_with (with_reducible refine zx ?_)
  refine stI hY fun w8 hY8 hg8=>?_
  have vp:=yC.gb kI (Nat.le_of_lt qH.out.1) yv hg8;have vI:=yS.grown hg8 (by intro e;injection e with e;have:=qH.out.1;omega);have tK:=mM.grown hg8 (by intro e;injection e with e;have:=qH.out.2;omega);have lm:=vo.kl hg8 (fun q hv=>by have:=(nZ.out q hv).2;omega);have b0:=hY8.cell 0 rfl;have b1:=hY8.cell 1 rfl;have b2:=hY8.cell 2 rfl;have b3:=hY8.cell 3 rfl;have x3:=tK.cell 3 rfl;have td:=vp.alloc (.cells (zY x ja jb jc jd).toArray 57);have uM:=vI.alloc (.cells (zY x ja jb jc jd).toArray 57);have oa:=tK.alloc (.cells (zY x ja jb jc jd).toArray 57);have nS:=lm.alloc (.cells (zY x ja jb jc jd).toArray 57);clear yC yS mM vo hY hg8 vp vI tK lm;go_wp2_with (at_builtin;refine yf ?_)
  refine xy rfl (.tmp 159) (.tmp 161) rfl (X+1) (.slice VA L.length vc) H5 _ rfl nS _ 1 _ (zY x ja jb jc jd) [x] rfl rfl (ItemsC.one Yx) (Src.new _ _ _ _ rfl _ rfl) (by have:=uK.out;simp;omega) oa.lt fun v' w10 hO10 hg10 hat10=>?_
  obtain⟨VA',vc',rfl,_⟩:=hO10.form;have uI:=uM.grown hg10 (fun e=>by have:=(nZ.out _ e).1;have:=yI.out;omega);have ki:=oa.grown hg10 (fun e=>by have:=(nZ.out _ e).1;omega);have pj:=sp td.psr.holds og hat10;have uN:=td.grownRow og (fun q hq=>by have:=(nZ.out q hq).1;have:=yI.out;omega) yv hg10;obtain⟨L',pv⟩:∃ L',L++[x]=L':=⟨_,rfl⟩
  rw[pv]at hO10 pj eY eo⊢;have bZ:Hid (L'.length=L.length+1):=by rw[Hid,← pv];simp
  clear pv td uM oa nS hg10 hat10 x3;have OT:=Hh (show ∀ q,(Value.slice VA' L'.length vc').ownBlock=some q→X+1≤q from fun q hq=>(hO10.lt q hq).1);go_wp2_with (with_reducible refine zx ?_)
  refine zu rfl _ _ _ rfl rfl X 3 _ rfl rfl _ _ ki xB (by simp) rfl fun w11 hX11 hg11=>?_
  have LY:=uN.gb mF (Nat.le_of_lt yI.out) yv hg11;have fh:=uI.grown hg11 (by intro e;injection e with e;have:=yI.out;omega)
  have LN:=hO10.kept hg11 (by
   cases hv:(Value.slice VA' L'.length vc').ownBlock with
   | none=>exact .inl rfl
   | some q=>exact .inr (fun e=>by injection e with e;have:=OT.out q hv;omega))
  have KM:IntKind.u64.wrap (((m1+1:Nat):Int)-1)=(m1:Int):=by rw[show((m1+1:Nat):Int)-1=(m1:Int) by omega,IntKind.wrap_u64];have:=Qc.out;have:=MC.out;omega
  have KM2:IntKind.u64.wrap (m1:Int)=(m1:Int):=by rw[IntKind.wrap_u64];have:=Qc.out;have:=MC.out;omega
  clear uN uI ki hO10 hg11;go_wp2_with fail
  go_roundw
  case rel=>exact⟨m1,H5,VA',vc',_,L',k0+k',c',by first | rfl | (simp;done) | go_num,by have:=MC.out;omega,rfl,LY,fh,tS,hX11,mF,LN,pj,eo.out,eY.out⟩
  case measure=>simp[intOf];try omega
 have hm:m=0:=by omega
 subst hm
 have E1:Hid (zj (d+1) (l.drop p) cnt=.ok (.mk 4 0 [] L) (k+k0) cc):=by
  rw[Hid,E0.out,sr.out,vQ];simp[PL.pre]
 obtain⟨H5,iY,Zf,ul,Zq,rq,rs,nK⟩:=vW.snap uk.psr.holds (fun q hq=>rI q (tH hq));have yN:∀ q,VA.map (·.block)=some q→X+1≤q:=fun q hq=>(vW.lt q (tH hq)).1
 have Xj:H5 w.heap.size=none:=tn ul pO (fun e=>by have:=yN _ e;have:=yI.out;omega);have z8:Rdg 107 w H wr H5 g A c l (P+k0) cc:=uk.snap (B:=X+1) iY Zf ul yN (by have:=yI.out;omega) yv;have b0:=ql.cell 0 rfl;have b1:=ql.cell 1 rfl;have b2:=ql.cell 2 rfl;have b3:=ql.cell 3 rfl;have Ut:IsItem H5 none 0 VA vc (.mk 4 0 [] L):=IsRowI.item ⟨rq,rs,nK⟩ 4 (by omega) 0 (by omega);have MG:=Hh Sl;clear vW ul nK Zf iY pO rI yN uk sr Sl;go_wp2_with (with_reducible refine zx ?_)
 refine stI uY fun wz hTy zT=>?_
 have zQ:=z8.gb Xj (Nat.le_refl _) yv zT;go_wp2_with fail
 refine zw rfl rfl hTy rfl rfl zv rfl ?_
 exact ItemOut.ok E1.out rfl (by rw[← Nat.add_assoc,MG.out];exact zQ) Ut
end
section
variable {p:List UInt8→Nat→PR} {m:Nat} {b:List UInt8} {cc q k c1 k2 c2:Nat} {x y:Itm} {last:Option (List UInt8)}
theorem Vb (L:List Itm) (k0:Nat) (h:p b cc=.err q):(vl p (m+1) b cc last).pre L k0=.err q:=by rw[vl,h];rfl
theorem dv (L:List Itm) (k0:Nat) (h:p b cc=.ok x k c1) (h2:sv last (b.take k)=some q):(vl p (m+1) b cc last).pre L k0=.err q:=by rw[vl,h];simp only;rw[h2];rfl
theorem du (L:List Itm) (k0:Nat) (h:p b cc=.ok x k c1) (h2:sv last (b.take k)=none) (h3:p (b.drop k) c1=.err q):(vl p (m+1) b cc last).pre L k0=.err q:=by rw[vl,h];simp only;rw[h2];simp only;rw[h3];rfl
theorem ZI (L:List Itm) (k0:Nat) (h:p b cc=.ok x k c1) (h2:sv last (b.take k)=none) (h3:p (b.drop k) c1=.ok y k2 c2):(vl p (m+1) b cc last).pre L k0=(vl p m (b.drop (k+k2)) c2 (some (b.take k))).pre (L++[x,y]) (k0+(k+k2)):=by
 rw[vl,h];simp only;rw[h2];simp only;rw[h3];simp only
 cases vl p m (b.drop (k+k2)) c2 (some (b.take k)) with
 | err q=>rfl
 | ok l k3 c3=>simp[PL.pre,Nat.add_assoc]
end
def iJ (r:PL):PR:=match r with
 | .err q=>.err q
 | .ok L k c=>.ok (.mk 5 0 [] L) k c
section
variable {d:Nat} {w:World} {H:Snap} {g:Nat} {A:Option Addr} {c:Nat} {l:List UInt8} {p cnt lv:Nat}
theorem U0 (ih:eO d) (hTab:Tabs H) (hlv:lv+d=8) (hP:Psr 107 w g H A c l p cnt) (hl0:0<l.length) (n:Nat) (hn:n<18446744073709551616):Calls Tryz.prog 105 #[.pointer (some ⟨g,0,none⟩),.int .u64 (n:Int),.int .i64 (lv:Int)] w (ItemOut 107 w H g A c l p (iJ (vl (zj d) n (l.drop p) cnt none))):=by
 have yv:=hP.gt;obtain⟨b,off,rfl,yG⟩:=hP.bytes.at_ hl0;have Pj:=Hh yG;have zF:H w.heap.size=none:=hP.holds.none_of_ge (Nat.le_refl _);have ru:H (w.heap.size+1)=none:=hP.holds.none_of_ge (Nat.le_succ _);have xg:=((Rdg.refl hP).alloc zg).alloc zg;have we:=(Blk.new w 57 #[.int .i64 0,.int .u64 0,.slice none 0 0,.slice none 0 0]).alloc zg;have nW:=Blk.new (w.alloc zg) 57 #[.int .i64 0,.int .u64 0,.slice none 0 0,.slice none 0 0];rw[show(w.alloc zg).heap.size=w.heap.size+1 by simp]at nW;have UG:=Hh (And.intro hP.small (And.intro hP.bytes.le hP.bytes.max));have Fn:=Hh hP.holds;have bf:=Hh hn;have Yn:(lv:Int)≤8:=by omega
 clear yG hn;go_enter Tryz.func105,Tryz.ntmps105
 go_wp2_with (with_reducible refine zx ?_)
 refine stI nW fun w4 pw tL=>?_
 have yi:=xg.grownRow (row:=some (w.heap.size+1)) (by rintro q ⟨⟩;exact ru) (by rintro q ⟨⟩;exact Nat.le_succ _) yv tL;have yt:=we.gr tL (by omega);clear xg we nW tL;obtain⟨X,qm⟩:∃ X,w.heap.size+1=X:=⟨_,rfl⟩
 have yI:Hid (w.heap.size<X):=by rw[Hid];omega
 rw[qm]at pw ru⊢;clear qm;go_wp2_with fail
 go_loopw [9,10] (fun v9 v10 wr=>∃ (i:Nat) (Hr:Snap) (VA:Option Addr) (vc vn:Nat) (L:List Itm) (k0 cc:Nat) (last:Option (List UInt8)) (KB:Option Addr) (kn kc:Nat),v10=.int .u64 (i:Int)∧v9=.slice KB kn kc∧i≤n∧vn=L.length∧
  ((i=0∧last=none)∨(0<i∧∃ key:List UInt8,last=some key∧kn=key.length∧key.length≤4096∧∀ W,Holds W H→Src W KB (key.map zI)))∧
  Rdg 107 w H wr Hr g (some ⟨b,off,none⟩) c l (p+k0) cc∧Blk wr w.heap.size 57 #[.int .i64 0,.int .u64 0,.slice none 0 0,.slice none 0 0]∧Hr w.heap.size=none∧
  Blk wr X 57 #[.int .i64 5,.int .u64 0,.slice none 0 0,.slice VA vn vc]∧Hr X=none∧OwnI wr (X+1) (.slice VA vn vc) Hr L∧(∀ q,(Value.slice VA vn vc).ownBlock=some q→Hr q=none)∧L.length≤cc∧
  vl (zj d) n (l.drop p) cnt none=(vl (zj d) (n-i) (l.drop (p+k0)) cc last).pre L k0) (fun _ v10 _=>n-(intOf v10).toNat)
 case atStart=>exact⟨0,H,none,0,0,[],0,cnt,none,none,0,0,rfl,rfl,Nat.zero_le _,rfl,.inl ⟨rfl,rfl⟩,yi,yt,zF,pw,ru,OwnI.nil _ _ H,by intro q hq;simp[Value.ownBlock]at hq,by simp,by rw[nC];rfl⟩
 case round =>
 clear yi yt pw;obtain⟨i,Hr,VA,vc,vn,L,k0,cc,last,KB,kn,kc,rfl,rfl,Yy,rfl,pf,uk,uY,pO,ql,oD,vW,rI,Zd,rh⟩:=hrel;have sr:=Hh rh;have iK:=Hh Zd;have Sd:=Hh Yy;have eL:=Hh pf;clear rh Zd Yy pf
 by_cases uq:i<n
 ·obtain⟨m1,qo⟩:∃ m1,n-i=m1+1:=⟨n-i-1,by omega⟩
  have be:=Hh (show n-(i+1)=m1 by omega);have vM:Hid (vl (zj d) n (l.drop p) cnt none=(vl (zj d) (m1+1) (l.drop (p+k0)) cc last).pre L k0):=by rw[Hid,sr.out,qo]
  obtain⟨P1,fr⟩:∃ P1,p+k0=P1:=⟨_,rfl⟩
  have ph:=Hh fr;rw[fr]at uk vM;clear fr;have Zi:(i:Int)<(n:Int):=by omega
  have ITH:=Hh (ih wr Hr g (some ⟨b,off,none⟩) c l P1 cc lv (hTab.mono uk.grows.le) hlv uk.psr);have a1:=uk.psr.blk.cell 1 rfl;clear qo sr;go_wp2_with fail
  refine ITH.out.mono ?_
  intro e w5 hs
  cases hp:zj d (l.drop P1) cc with
  | err q =>
   rw[hp,ItemOut]at hs;obtain⟨rfl,H5,p5,cnt5,yB⟩:=hs;have nc:((q:Int) != 0)=true:=by rw[bne_iff_ne];have:=yY _ _ _ _ hp;omega
   have kp:((q:Int)=0)=False:=eq_false (by have:=yY _ _ _ _ hp;omega);have E:Hid (iJ (vl (zj d) n (l.drop p) cnt none)=.err q):=by rw[Hid,vM.out,Vb L k0 hp];rfl
   have z8:=uk.trans yB;have yj:=uY.rdg yB (by omega);have tS:=yB.hid pO uY.lt;have hY:=Blk.new w5 57 #[.int .i64 0,.int .u64 0,.slice none 0 0,.slice none 0 0];have kI:H5 w5.heap.size=none:=z8.psr.holds.none_of_ge (Nat.le_refl _);have qH:=Hh yj.lt;have yC:=z8.alloc zg;have yS:=yj.alloc zg;clear ITH hp uk yB uY ql vW rI vM iK z8 yj a1;go_wp2_with (with_reducible refine zx ?_)
   refine stI hY fun w8 hY8 hg8=>?_
   have vp:=yC.gb kI (Nat.le_of_lt qH.out) yv hg8;have vI:=yS.grown hg8 (by intro e;injection e with e;have:=qH.out;omega);clear yC yS hY hg8 hY8;go_wp2_with (with_reducible refine zx ?_)
   refine stI vI fun wz hTy zT=>?_
   have zQ:=vp.gb tS (Nat.le_refl _) yv zT;go_wp2_with fail
   refine zw rfl rfl hTy rfl rfl zv rfl ?_
   exact ItemOut.err E.out rfl zQ
  | ok x k c1 =>
  rw[hp,ItemOut]at hs;obtain⟨ja,jb,jc,jd,H5,rfl,yB,Yx⟩:=hs;have Yq:=Hh (vR d _ _ _ _ _ hp);have rsp:=qW d _ _ _ _ _ hp;have JK:=rsp.pos;have Ld:=rsp.le;rw[List.length_drop]at Ld;have On:=Hh (show k≤l.length by omega);have Qd:=Hh hp;obtain⟨key,rp⟩:∃ key,(l.drop P1).take k=key:=⟨_,rfl⟩
  have jx:=Hh rp;have cG:Hid (k=key.length):=by rw[Hid,← rp,List.length_take,List.length_drop];omega
  have MM:Hid (∀ W,Holds W H→Src W (some ⟨b,off+P1,none⟩) (key.map zI)):=fun W hW=>by
   have h:=rb (w:=W) (n:=k) (fun j hj=>hW.cell (Pj.out j hj)) P1 (some ⟨b,off+P1,none⟩) (fun _=>rfl) (by omega);rw[rp]at h
   exact h
  have z8:=uk.trans yB;have yj:=uY.rdg yB (by omega);have tS:=yB.hid pO uY.lt;have rK:=ql.rdg yB (by have:=yI.out;omega);have mF:=yB.hid oD ql.lt;have sK:=(vW.rdg yB (by have:=yI.out;omega)).mono yB.grows.le;have og:∀ q,(Value.slice VA L.length vc).ownBlock=some q→H5 q=none:=fun q hq=>yB.hid (rI q hq) (vW.lt q hq).2
  have hY:=Blk.new w5 57 #[.int .i64 0,.int .u64 0,.slice none 0 0,.slice none 0 0];have kI:H5 w5.heap.size=none:=z8.psr.holds.none_of_ge (Nat.le_refl _);have qH:=Hh (And.intro yj.lt rK.lt);have Mo:=Hh (show g<w5.heap.size from z8.psr.gt);have nZ:=Hh (show ∀ q,(Value.slice VA L.length vc).ownBlock=some q→X+1≤q∧q<w5.heap.size from fun q hq=>sK.lt q hq);have yC:=z8.alloc zg;have yS:=yj.alloc zg;have mM:=rK.alloc zg;have vo:=sK.alloc zg;clear ITH hp uk yB uY ql vW rI z8 yj rK sK a1 rsp rp;go_wp2_with (with_reducible refine zx ?_)
  refine stI hY fun w8 hY8 hg8=>?_
  have vp:=yC.gb kI (Nat.le_of_lt qH.out.1) yv hg8;have vI:=yS.grown hg8 (by intro e;injection e with e;have:=qH.out.1;omega);have tK:=mM.grown hg8 (by intro e;injection e with e;have:=qH.out.2;omega);have lm:=vo.kl hg8 (fun q hv=>by have:=(nZ.out q hv).2;omega);obtain⟨Y1,V8⟩:∃ Y1,w5.heap.size=Y1:=⟨_,rfl⟩
  rw[V8]at hY8 qH Mo kI⊢;have a0:=vp.psr.blk.cell 0 rfl;have a1:=vp.psr.blk.cell 1 rfl;have s1:(P1:Int)≤((P1+k:Nat):Int):=by omega
  have s2:((P1+k:Nat):Int)≤(c:Int):=by have:=UG.out.2.1;omega
  have s3:(P1:Int)≤(c:Int):=by omega
  have s4:(0:Int)≤(P1:Int):=by omega
  have s5:(c=P1)=False:=eq_false (by have:=UG.out.2.1;omega);have s6:P1+k-P1=k:=by omega
  have s7:((P1+k:Nat):Int).toNat=P1+k:=by omega
  clear yC yS mM vo hY hg8;go_wp2_with fail
  go_big_quiet (fail)
  have kC:=vp.drewN nq;have jy:Blk (w8.drewN nq) w.heap.size 57 #[.int .i64 0,.int .u64 0,.slice none 0 0,.slice none 0 0]:=vI;have S3:Blk (w8.drewN nq) X 57 #[.int .i64 5,.int .u64 0,.slice none 0 0,.slice VA L.length vc]:=tK;have S4:Blk (w8.drewN nq) Y1 57 #[.int .i64 x.kind,.int .u64 x.n,.slice ja x.bytes.length jb,.slice jc x.items.length jd]:=hY8;have Rv:OwnI (w8.drewN nq) (X+1) (.slice VA L.length vc) H5 L:=lm
  generalize w8.drewN nq=w9 at kC jy S3 S4 Rv⊢
  obtain⟨td,uM,oa,Qk,nS⟩:=And.intro kC (And.intro jy (And.intro S3 (And.intro S4 Rv)));clear kC jy S3 S4 Rv vp vI tK hY8 lm a0 a1 s1 s2 s3 s4 s5 s6 s7;have nQ:Holds w9 H:=td.psr.holds.mono td.grows.le
  rcases eL.out with ⟨hiz,rfl⟩ | ⟨hi,lk,rfl,Xa,sZ,Xm⟩
  ·have eX:Hid (sv none ((l.drop P1).take k)=none):=rfl;have XC:¬ ((0:Int)<(i:Int)):=by omega
   clear hiz;have a0:=nQ;have a1:=nQ;have ITH2:=Hh (ih w9 H5 g (some ⟨b,off,none⟩) c l (P1+k) c1 lv (hTab.mono td.grows.le) hlv td.psr);clear a0 a1;go_wp2_with fail
   refine ITH2.out.mono ?_
   intro e w12 hs
   cases ur:zj d (l.drop (P1+k)) c1 with
   | err q =>
    rw[ur,ItemOut]at hs;obtain⟨rfl,H6,p6,cnt6,uO⟩:=hs;have nc:((q:Int) != 0)=true:=by rw[bne_iff_ne];have:=yY _ _ _ _ ur;omega
    have kp:((q:Int)=0)=False:=eq_false (by have:=yY _ _ _ _ ur;omega);have E:Hid (iJ (vl (zj d) n (l.drop p) cnt none)=.err q):=by rw[Hid,vM.out,du L k0 Qd.out eX.out (by rw[List.drop_drop];exact ur)];rfl
    have tI:=td.trans uO;have sE:=uM.rdg uO (by omega);have bW:=uO.hid tS uM.lt;have hZ:=Blk.new w12 57 #[.int .i64 0,.int .u64 0,.slice none 0 0,.slice none 0 0];have So:H6 w12.heap.size=none:=tI.psr.holds.none_of_ge (Nat.le_refl _);have oC:=Hh sE.lt;have oE:=tI.alloc zg;have o7:=sE.alloc zg;clear ITH2 ur uO tI sE td uM oa Qk nS;go_wp2_with (with_reducible refine zx ?_)
    refine stI hZ fun w15 hZ15 hg15=>?_
    have fk:=oE.gb So (Nat.le_of_lt oC.out) yv hg15;have fi:=o7.grown hg15 (by intro e;injection e with e;have:=oC.out;omega);clear oE o7 hZ hg15 hZ15;go_wp2_with (with_reducible refine zx ?_)
    refine stI fi fun wz hTy zT=>?_
    have zQ:=fk.gb bW (Nat.le_refl _) yv zT;go_wp2_with fail
    refine zw rfl rfl hTy rfl rfl zv rfl ?_
    exact ItemOut.err E.out rfl zQ
   | ok y k2 c2 =>
   rw[ur,ItemOut]at hs;obtain⟨ka,kb,kd,ke,H6,rfl,uO,om⟩:=hs
   have Pl:Hid (vl (zj d) n (l.drop p) cnt none=(vl (zj d) m1 (l.drop (p+(k0+(k+k2)))) c2 (some key)).pre (L++[x,y]) (k0+(k+k2))):=by
    rw[Hid,vM.out,ZI L k0 Qd.out eX.out (by rw[List.drop_drop];exact ur),jx.out,List.drop_drop,← ph.out];rw[show p+k0+(k+k2)=p+(k0+(k+k2)) by omega]
   have Sa:Hid ((L++[x,y]).length≤c2):=by
    have h1:=Yq.out;have h2:=vR d _ _ _ _ _ ur;have:=iK.out;rw[Hid,List.length_append];simp;omega
   have tI:=td.trans uO;have LV:=tI.psr.cnt_le;have sE:=uM.rdg uO (by omega);have bW:=uO.hid tS uM.lt;have iF:=oa.rdg uO (by have:=yI.out;omega);have eQ:=uO.hid mF oa.lt;have iG:=Qk.rdg uO (by have:=Mo.out;omega);have iE:=(nS.rdg uO (by have:=yI.out;omega)).mono uO.grows.le;have eT:∀ q,(Value.slice VA L.length vc).ownBlock=some q→H6 q=none:=fun q hq=>uO.hid (og q hq) (nS.lt q hq).2
   have hZ:=Blk.new w12 57 #[.int .i64 0,.int .u64 0,.slice none 0 0,.slice none 0 0];have So:H6 w12.heap.size=none:=tI.psr.holds.none_of_ge (Nat.le_refl _);have oC:=Hh (And.intro sE.lt (And.intro iF.lt iG.lt));have fm:=Hh (show ∀ q,(Value.slice VA L.length vc).ownBlock=some q→X+1≤q∧q<w12.heap.size from fun q hq=>iE.lt q hq);have oE:=tI.alloc zg;have o7:=sE.alloc zg;have bN:=iF.alloc zg;have iH:=iG.alloc zg;have bJ:=iE.alloc zg;have uK:=Hh (show L.length≤256 by have:=Sa.out;simp at this;omega);have XY:ItemsC H6 (zY x ja jb jc jd++zY y ka kb kd ke) [x,y]:=(ItemsC.one (Yx.mono uO.grows.le)).app (ItemsC.one om);clear ITH2 ur uO tI sE iF iG iE td uM oa Qk nS;go_wp2_with (with_reducible refine zx ?_)
   refine stI hZ fun w15 hZ15 hg15=>?_
   have fk:=oE.gb So (Nat.le_of_lt oC.out.1) yv hg15;have fi:=o7.grown hg15 (by intro e;injection e with e;have:=oC.out.1;omega);have bO:=bN.grown hg15 (by intro e;injection e with e;have:=oC.out.2.1;omega);have jz:=iH.grown hg15 (by intro e;injection e with e;have:=oC.out.2.2;omega);have Wx:=bJ.kl hg15 (fun q hv=>by have:=(fm.out q hv).2;omega);have b0:=hZ15.cell 0 rfl;have b1:=hZ15.cell 1 rfl;have b2:=hZ15.cell 2 rfl;have b3:=hZ15.cell 3 rfl;have y0:=jz.cell 0 rfl;have y1:=jz.cell 1 rfl;have y2:=jz.cell 2 rfl;have y3:=jz.cell 3 rfl;have x3:=bO.cell 3 rfl;have bS:=fk.alloc (.cells (zY x ja jb jc jd++zY y ka kb kd ke).toArray 57);have bM:=fi.alloc (.cells (zY x ja jb jc jd++zY y ka kb kd ke).toArray 57);have bP:=bO.alloc (.cells (zY x ja jb jc jd++zY y ka kb kd ke).toArray 57)
   have Wy:=Wx.alloc (.cells (zY x ja jb jc jd++zY y ka kb kd ke).toArray 57);clear oE o7 bN iH bJ hZ hg15 fk fi bO jz Wx;go_wp2_with (at_builtin;refine yf ?_)
   refine xy rfl (.tmp 72) (.tmp 75) rfl (X+1) (.slice VA L.length vc) H6 _ rfl Wy _ 2 _ (zY x ja jb jc jd++zY y ka kb kd ke) [x,y] rfl rfl XY (Src.new _ _ _ _ rfl _ rfl) (by have:=uK.out;simp;omega) bP.lt fun v' w17 hO17 hg17 hat17=>?_
   obtain⟨VA',vc',rfl,_⟩:=hO17.form;have Wz:=bM.grown hg17 (fun e=>by have:=(fm.out _ e).1;have:=yI.out;omega);have X4:=bP.grown hg17 (fun e=>by have:=(fm.out _ e).1;omega);have XF:=sp bS.psr.holds eT hat17;have X8:=bS.grownRow eT (fun q hq=>by have:=(fm.out q hq).1;have:=yI.out;omega) yv hg17;obtain⟨L',pv⟩:∃ L',L++[x,y]=L':=⟨_,rfl⟩
   rw[pv]at hO17 XF Pl Sa⊢;have bZ:Hid (L'.length=L.length+2):=by rw[Hid,← pv];simp
   clear pv bS bM bP Wy hg17 hat17 x3 y0 y1 y2 y3 b0 b1 b2 b3 hZ15;have Wi:=Hh (show ∀ q,(Value.slice VA' L'.length vc').ownBlock=some q→X+1≤q from fun q hq=>(hO17.lt q hq).1);go_wp2_with (with_reducible refine zx ?_)
   refine zu rfl _ _ _ rfl rfl X 3 _ rfl rfl _ _ X4 xB (by simp) rfl fun w18 hX18 hg18=>?_
   have X9:=X8.gb eQ (Nat.le_of_lt yI.out) yv hg18;have Rz:=Wz.grown hg18 (by intro e;injection e with e;have:=yI.out;omega)
   have Rt:=hO17.kept hg18 (by
    cases hv:(Value.slice VA' L'.length vc').ownBlock with
    | none=>exact .inl rfl
    | some q=>exact .inr (fun e=>by injection e with e;have:=Wi.out q hv;omega))
   have KI:IntKind.u64.wrap ((i:Int)+1)=(i:Int)+1:=by rw[IntKind.wrap_u64];have:=bf.out;omega
   rw[show P1+k+k2=p+(k0+(k+k2)) by have:=ph.out;omega]at X9;have rD:=Hh Zi;clear X8 Wz X4 hO17 hg18 Zi;go_wp2_with fail
   go_roundw
   case rel=>exact⟨i+1,H6,VA',vc',_,L',k0+(k+k2),c2,some key,_,_,_,by first | rfl | (simp;done) | go_num,rfl,by have:=rD.out;omega,rfl,.inr ⟨by omega,key,rfl,cG.out,by have:=UG.out.1;have:=On.out;have:=cG.out;omega,MM.out⟩,X9,Rz,bW,hX18,eQ,Rt,XF,Sa.out,by rw[be.out];exact Pl.out⟩
   case measure=>have:=rD.out;simp[intOf];omega
  have XC:(0:Int)<(i:Int):=by omega
  have CM:=Hh (sw w9 (some ⟨b,off+P1,none⟩) KB key lk k kn (c-P1) kc cG.out Xa (MM.out w9 nQ) (Xm w9 nQ));obtain⟨q,hq⟩:∃ q,Lib.compareBytes key lk=q:=⟨_,rfl⟩
  rw[hq]at CM;have HQ:=Hh hq;clear Xa sZ Xm hq;have a0:=nQ;have a1:=nQ
  by_cases nc:q=0
  ·subst nc;have eX:Hid (sv (some lk) ((l.drop P1).take k)=some 7):=by rw[Hid,jx.out,sv];rw[if_pos HQ.out]
   go_wp2_with fail
   refine CM.out.mono ?_
   rintro e w10 ⟨rfl,rfl⟩
   have E:Hid (iJ (vl (zj d) n (l.drop p) cnt none)=.err 7):=by rw[Hid,vM.out,dv L k0 Qd.out eX.out];rfl
   go_wp2_with (with_reducible refine zx ?_)
   refine stI uM fun wz hTy zT=>?_
   have zQ:=td.gb tS (Nat.le_refl _) yv zT;go_wp2_with fail
   refine zw rfl rfl hTy rfl rfl zv rfl ?_
   exact ItemOut.err (q:=7) E.out rfl zQ
  have t0:(q==0)=false:=by simpa using nc
  have t0':(q=0)=False:=eq_false nc
  by_cases Z5:q<0
  ·have eX:Hid (sv (some lk) ((l.drop P1).take k)=some 6):=by rw[Hid,jx.out,sv];rw[HQ.out,if_neg nc,if_pos Z5]
   go_wp2_with fail
   refine CM.out.mono ?_
   rintro e w10 ⟨rfl,rfl⟩
   have E:Hid (iJ (vl (zj d) n (l.drop p) cnt none)=.err 6):=by rw[Hid,vM.out,dv L k0 Qd.out eX.out];rfl
   go_wp2_with (with_reducible refine zx ?_)
   refine stI uM fun wz hTy zT=>?_
   have zQ:=td.gb tS (Nat.le_refl _) yv zT;go_wp2_with fail
   refine zw rfl rfl hTy rfl rfl zv rfl ?_
   exact ItemOut.err (q:=6) E.out rfl zQ
  have eX:Hid (sv (some lk) ((l.drop P1).take k)=none):=by rw[Hid,jx.out,sv];rw[HQ.out,if_neg nc,if_neg Z5]
  go_wp2_with fail
  refine CM.out.mono ?_
  rintro e w10 ⟨rfl,rfl⟩
  have ITH2:=Hh (ih w9 H5 g (some ⟨b,off,none⟩) c l (P1+k) c1 lv (hTab.mono td.grows.le) hlv td.psr);clear a0 a1;go_wp2_with fail
  refine ITH2.out.mono ?_
  intro e w12 hs
  cases ur:zj d (l.drop (P1+k)) c1 with
  | err q =>
   rw[ur,ItemOut]at hs;obtain⟨rfl,H6,p6,cnt6,uO⟩:=hs;have nc:((q:Int) != 0)=true:=by rw[bne_iff_ne];have:=yY _ _ _ _ ur;omega
   have kp:((q:Int)=0)=False:=eq_false (by have:=yY _ _ _ _ ur;omega);have E:Hid (iJ (vl (zj d) n (l.drop p) cnt none)=.err q):=by rw[Hid,vM.out,du L k0 Qd.out eX.out (by rw[List.drop_drop];exact ur)];rfl
   have tI:=td.trans uO;have sE:=uM.rdg uO (by omega);have bW:=uO.hid tS uM.lt;have hZ:=Blk.new w12 57 #[.int .i64 0,.int .u64 0,.slice none 0 0,.slice none 0 0];have So:H6 w12.heap.size=none:=tI.psr.holds.none_of_ge (Nat.le_refl _);have oC:=Hh sE.lt;have oE:=tI.alloc zg;have o7:=sE.alloc zg;clear ITH2 ur uO tI sE td uM oa Qk nS;go_wp2_with (with_reducible refine zx ?_)
   refine stI hZ fun w15 hZ15 hg15=>?_
   have fk:=oE.gb So (Nat.le_of_lt oC.out) yv hg15;have fi:=o7.grown hg15 (by intro e;injection e with e;have:=oC.out;omega);clear oE o7 hZ hg15 hZ15;go_wp2_with (with_reducible refine zx ?_)
   refine stI fi fun wz hTy zT=>?_
   have zQ:=fk.gb bW (Nat.le_refl _) yv zT;go_wp2_with fail
   refine zw rfl rfl hTy rfl rfl zv rfl ?_
   exact ItemOut.err E.out rfl zQ
  | ok y k2 c2 =>
  rw[ur,ItemOut]at hs;obtain⟨ka,kb,kd,ke,H6,rfl,uO,om⟩:=hs
  have Pl:Hid (vl (zj d) n (l.drop p) cnt none=(vl (zj d) m1 (l.drop (p+(k0+(k+k2)))) c2 (some key)).pre (L++[x,y]) (k0+(k+k2))):=by
   rw[Hid,vM.out,ZI L k0 Qd.out eX.out (by rw[List.drop_drop];exact ur),jx.out,List.drop_drop,← ph.out];rw[show p+k0+(k+k2)=p+(k0+(k+k2)) by omega]
  have Sa:Hid ((L++[x,y]).length≤c2):=by
   have h1:=Yq.out;have h2:=vR d _ _ _ _ _ ur;have:=iK.out;rw[Hid,List.length_append];simp;omega
  have tI:=td.trans uO;have LV:=tI.psr.cnt_le;have sE:=uM.rdg uO (by omega);have bW:=uO.hid tS uM.lt;have iF:=oa.rdg uO (by have:=yI.out;omega);have eQ:=uO.hid mF oa.lt;have iG:=Qk.rdg uO (by have:=Mo.out;omega);have iE:=(nS.rdg uO (by have:=yI.out;omega)).mono uO.grows.le;have eT:∀ q,(Value.slice VA L.length vc).ownBlock=some q→H6 q=none:=fun q hq=>uO.hid (og q hq) (nS.lt q hq).2
  have hZ:=Blk.new w12 57 #[.int .i64 0,.int .u64 0,.slice none 0 0,.slice none 0 0];have So:H6 w12.heap.size=none:=tI.psr.holds.none_of_ge (Nat.le_refl _);have oC:=Hh (And.intro sE.lt (And.intro iF.lt iG.lt));have fm:=Hh (show ∀ q,(Value.slice VA L.length vc).ownBlock=some q→X+1≤q∧q<w12.heap.size from fun q hq=>iE.lt q hq);have oE:=tI.alloc zg;have o7:=sE.alloc zg;have bN:=iF.alloc zg;have iH:=iG.alloc zg;have bJ:=iE.alloc zg;have uK:=Hh (show L.length≤256 by have:=Sa.out;simp at this;omega);have XY:ItemsC H6 (zY x ja jb jc jd++zY y ka kb kd ke) [x,y]:=(ItemsC.one (Yx.mono uO.grows.le)).app (ItemsC.one om);clear ITH2 ur uO tI sE iF iG iE td uM oa Qk nS;go_wp2_with (with_reducible refine zx ?_)
  refine stI hZ fun w15 hZ15 hg15=>?_
  have fk:=oE.gb So (Nat.le_of_lt oC.out.1) yv hg15;have fi:=o7.grown hg15 (by intro e;injection e with e;have:=oC.out.1;omega);have bO:=bN.grown hg15 (by intro e;injection e with e;have:=oC.out.2.1;omega);have jz:=iH.grown hg15 (by intro e;injection e with e;have:=oC.out.2.2;omega);have Wx:=bJ.kl hg15 (fun q hv=>by have:=(fm.out q hv).2;omega);have b0:=hZ15.cell 0 rfl;have b1:=hZ15.cell 1 rfl;have b2:=hZ15.cell 2 rfl;have b3:=hZ15.cell 3 rfl;have y0:=jz.cell 0 rfl;have y1:=jz.cell 1 rfl;have y2:=jz.cell 2 rfl;have y3:=jz.cell 3 rfl;have x3:=bO.cell 3 rfl;have bS:=fk.alloc (.cells (zY x ja jb jc jd++zY y ka kb kd ke).toArray 57);have bM:=fi.alloc (.cells (zY x ja jb jc jd++zY y ka kb kd ke).toArray 57);have bP:=bO.alloc (.cells (zY x ja jb jc jd++zY y ka kb kd ke).toArray 57)
  have Wy:=Wx.alloc (.cells (zY x ja jb jc jd++zY y ka kb kd ke).toArray 57);clear oE o7 bN iH bJ hZ hg15 fk fi bO jz Wx;go_wp2_with (at_builtin;refine yf ?_)
  refine xy rfl (.tmp 72) (.tmp 75) rfl (X+1) (.slice VA L.length vc) H6 _ rfl Wy _ 2 _ (zY x ja jb jc jd++zY y ka kb kd ke) [x,y] rfl rfl XY (Src.new _ _ _ _ rfl _ rfl) (by have:=uK.out;simp;omega) bP.lt fun v' w17 hO17 hg17 hat17=>?_
  obtain⟨VA',vc',rfl,_⟩:=hO17.form;have Wz:=bM.grown hg17 (fun e=>by have:=(fm.out _ e).1;have:=yI.out;omega);have X4:=bP.grown hg17 (fun e=>by have:=(fm.out _ e).1;omega);have XF:=sp bS.psr.holds eT hat17;have X8:=bS.grownRow eT (fun q hq=>by have:=(fm.out q hq).1;have:=yI.out;omega) yv hg17;obtain⟨L',pv⟩:∃ L',L++[x,y]=L':=⟨_,rfl⟩
  rw[pv]at hO17 XF Pl Sa⊢;have bZ:Hid (L'.length=L.length+2):=by rw[Hid,← pv];simp
  clear pv bS bM bP Wy hg17 hat17 x3 y0 y1 y2 y3 b0 b1 b2 b3 hZ15;have Wi:=Hh (show ∀ q,(Value.slice VA' L'.length vc').ownBlock=some q→X+1≤q from fun q hq=>(hO17.lt q hq).1);go_wp2_with (with_reducible refine zx ?_)
  refine zu rfl _ _ _ rfl rfl X 3 _ rfl rfl _ _ X4 xB (by simp) rfl fun w18 hX18 hg18=>?_
  have X9:=X8.gb eQ (Nat.le_of_lt yI.out) yv hg18;have Rz:=Wz.grown hg18 (by intro e;injection e with e;have:=yI.out;omega)
  have Rt:=hO17.kept hg18 (by
   cases hv:(Value.slice VA' L'.length vc').ownBlock with
   | none=>exact .inl rfl
   | some q=>exact .inr (fun e=>by injection e with e;have:=Wi.out q hv;omega))
  have KI:IntKind.u64.wrap ((i:Int)+1)=(i:Int)+1:=by rw[IntKind.wrap_u64];have:=bf.out;omega
  rw[show P1+k+k2=p+(k0+(k+k2)) by have:=ph.out;omega]at X9;have rD:=Hh Zi;clear X8 Wz X4 hO17 hg18 Zi;go_wp2_with fail
  go_roundw
  case rel=>exact⟨i+1,H6,VA',vc',_,L',k0+(k+k2),c2,some key,_,_,_,by first | rfl | (simp;done) | go_num,rfl,by have:=rD.out;omega,rfl,.inr ⟨by omega,key,rfl,cG.out,by have:=UG.out.1;have:=On.out;have:=cG.out;omega,MM.out⟩,X9,Rz,bW,hX18,eQ,Rt,XF,Sa.out,by rw[be.out];exact Pl.out⟩
  case measure=>have:=rD.out;simp[intOf];omega
 have hm:i=n:=by have:=Sd.out;omega
 subst hm;have Gg:¬ ((i:Int)<(i:Int)):=by omega
 have E1:Hid (iJ (vl (zj d) i (l.drop p) cnt none)=.ok (.mk 5 0 [] L) k0 cc):=by
  rw[Hid,sr.out,Nat.sub_self,vl];simp[PL.pre,iJ]
 obtain⟨H5,iY,Zf,ul,Zq,rq,rs,nK⟩:=vW.snap uk.psr.holds (fun q hq=>rI q (tH hq));have yN:∀ q,VA.map (·.block)=some q→X+1≤q:=fun q hq=>(vW.lt q (tH hq)).1
 have Xj:H5 w.heap.size=none:=tn ul pO (fun e=>by have:=yN _ e;have:=yI.out;omega);have z8:Rdg 107 w H wr H5 g (some ⟨b,off,none⟩) c l (p+k0) cc:=uk.snap (B:=X+1) iY Zf ul yN (by have:=yI.out;omega) yv;have b0:=ql.cell 0 rfl;have b1:=ql.cell 1 rfl;have b2:=ql.cell 2 rfl;have b3:=ql.cell 3 rfl;have Ut:IsItem H5 none 0 VA vc (.mk 5 0 [] L):=IsRowI.item ⟨rq,rs,nK⟩ 5 (by omega) 0 (by omega);clear vW ul nK Zf iY pO rI yN uk sr eL;go_wp2_with (with_reducible refine zx ?_)
 refine stI uY fun wz hTy zT=>?_
 have zQ:=z8.gb Xj (Nat.le_refl _) yv zT;go_wp2_with fail
 refine zw rfl rfl hTy rfl rfl zv rfl ?_
 exact ItemOut.ok E1.out rfl zQ Ut
end
end Go.Proofs.YtgcjjhibdbafmabGreatDoor
