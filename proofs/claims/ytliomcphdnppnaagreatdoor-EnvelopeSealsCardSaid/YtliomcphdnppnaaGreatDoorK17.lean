/- squeezed. Walks: the references' List, Copy  -/
import Derived.Test.YtliomcphdnppnaaGreatDoorK16
set_option linter.unusedVariables false
set_option linter.unusedSimpArgs false
set_option maxRecDepth 100000
set_option maxHeartbeats 1600000
namespace Go.Proofs.YtliomcphdnppnaaGreatDoor
open Go.RowKit
structure IsRowI (H:Snap) (A:Option Addr) (c:Nat) (l:List Itm):Prop where
 le:l.length≤c
 max:c≤9223372036854775807
 elems:0<l.length→∃ b off,A=some ⟨b,off,none⟩∧IsElems H b off l
theorem IsRowI.mono {H K:Snap}{A:Option Addr}{c:Nat}{l:List Itm}(h:IsRowI H A c l) (hl:H.le K):IsRowI K A c l :=
 ⟨h.le,h.max,fun h0=>by obtain⟨b,off,e,he⟩:=h.elems h0;exact⟨b,off,e,he.mono hl⟩⟩
theorem IsRowI.item {H:Snap}{A:Option Addr}{c:Nat}{l:List Itm}(h:IsRowI H A c l) (k:Int) (hk:0≤k∧k≤8) (n:Nat) (hn:n<18446744073709551616):IsItem H none 0 A c (.mk k n [] l):=by
 rw[IsItem]
 exact⟨⟨by omega,by omega,hn,h.le,h.max⟩,IsBytes.nil _,h.elems⟩
theorem IsItem.row {H:Snap}{ba:Option Addr}{bc:Nat}{ia:Option Addr}{ic:Nat}{x:Itm}(h:IsItem H ba bc ia ic x):IsRowI H ia ic x.items:=⟨h.bounds.2.2.2.2.2.1,h.bounds.2.2.2.2.2.2,h.items⟩
theorem XF {H:Snap}{A:Option Addr}{c:Nat}{l:List Itm}(hr:IsRowI H A c l) (hm:ModestL l) (hl:l.length≤1099511627776) (w:World) (hH:Holds w H) :
  Calls Tryz.prog 46 #[.slice A l.length c] w fun e w'=>∃ v,e=.returned v∧Gives w H (.mk 4 0 [] l) v w':=by
 have hT:=Blk.new w 26 #[.int .i64 0,.int .u64 0,.slice none 0 0,.slice none 0 0];have hG:=(Grows.refl hH).alloc zW;have C:=Hh (pt (.mk 4 0 [] l) H 4 0 none 0 0 A l.length c _ (by rw[Modest];exact⟨by simp,hl,hm⟩) (hr.item 4 (by omega) 0 (by omega)).arg hG.holds);have yP:H w.heap.size=none:=hH.none_of_ge (Nat.le_refl _);go_enter Tryz.func46,Tryz.ntmps46
 go_wp2_with fail
 refine C.out.mono ?_
 rintro e w2 ⟨v,rfl,ba,bc,ia,ic,H2,rfl,xR,pI⟩
 have ug:=hT.below xR.below;have uX:=hG.trans xR;have uB:=xR.none yP hT.lt;clear C hG xR;go_wp2_with (with_reducible refine zx ?_)
 refine stI ug fun w3 lf nd=>?_
 have ye:=uX.grownOwn uB (Nat.le_refl _) nd;go_wp2_with fail
 refine zR rfl rfl lf rfl rfl zp rfl ?_
 exact⟨_,rfl,ba,bc,ia,ic,H2,rfl,ye,pI⟩
abbrev xN:Obj:=.cells (zY zm ⟨none,0,none,0⟩ zm ⟨none,0,none,0⟩) 28
def cw (w:World) (H:Snap) (p u:Itm) (v:Value) (w':World):Prop :=
 ∃ (a b:Ad) (H':Snap),v=.agg (zY p a u b)∧Grows w H w' H'∧IsItem H' a.ba a.bc a.ia a.ic p∧IsItem H' b.ba b.bc b.ia b.ic u
theorem kN {H:Snap}{p u:Itm}(m9:Modest p) (i6:Modest u) {a b:Ad}(hp:IsItem H a.ba a.bc a.ia a.ic p) (hu:IsItem H b.ba b.bc b.ia b.ic u) (w:World) (hH:Holds w H) :
  Calls Tryz.prog 37 #[.agg (zY p a u b)] w fun e w'=>∃ v,e=.returned v∧cw w H p u v w':=by
 have hB:=((Blk.new w 28 (zY p a u b)).alloc xN).drew;have hT:=(Blk.new (w.alloc (.cells (zY p a u b) 28)) 28 (zY zm ⟨none,0,none,0⟩ zm ⟨none,0,none,0⟩)).drew
 simp only[zu]at hT
 have hG:=(((Grows.refl hH).alloc (.cells (zY p a u b) 28)).alloc xN).drew;have yP:H (w.heap.size+1)=none:=hH.none_of_ge (by omega);go_enter Tryz.func37,Tryz.ntmps37
 go_upto_region 1 with fail
 refine zw 7 (fun w'=>w'.cell? ⟨w.heap.size,0,none⟩=some (.int .i64 p.kind)∧w'.cell? ⟨w.heap.size,1,none⟩=some (.int .u64 p.n)∧w'.cell? ⟨w.heap.size,2,none⟩=some (.slice a.ba p.bytes.length a.bc)∧w'.cell? ⟨w.heap.size,3,none⟩=some (.slice a.ia p.items.length a.ic)∧w'.cell? ⟨w.heap.size,4,none⟩=some (.int .i64 u.kind)∧w'.cell? ⟨w.heap.size,5,none⟩=some (.int .u64 u.n)∧w'.cell? ⟨w.heap.size,6,none⟩=some (.slice b.ba u.bytes.length b.bc)∧w'.cell? ⟨w.heap.size,7,none⟩=some (.slice b.ia u.items.length b.ic)) (by kernel_rfl) (⟨hB.cell 0 rfl,hB.cell 1 rfl,hB.cell 2 rfl,hB.cell 3 rfl,hB.cell 4 rfl,hB.cell 5 rfl,hB.cell 6 rfl,hB.cell 7 rfl⟩) (fun zy=>?_)
 refine Tk 0 rfl zy ?_
 refine Tk 1 rfl zy ?_
 refine Tk 3 rfl zy ?_
 refine Tk 4 rfl zy ?_
 refine To 2 rfl fun K hK=>?_
 go_simp
 refine(pt p H _ _ _ _ _ _ _ _ _ m9 hp.arg hG.holds).mono ?_
 rintro e w3 ⟨v3,rfl,ka,kb,kc,kd,H3,rfl,ye,rp⟩
 have hB:=hB.below ye.below;have yP:=ye.none yP hT.lt;have hT:=hT.below ye.below
 refine Ko hK ?_ fun zy=>?_
 ·exact⟨hB.cell 0 rfl,hB.cell 1 rfl,hB.cell 2 rfl,hB.cell 3 rfl,hB.cell 4 rfl,hB.cell 5 rfl,hB.cell 6 rfl,hB.cell 7 rfl⟩
 clear hK K
 refine To 5 rfl fun K hK=>?_
 go_simp
 refine(pt u H3 _ _ _ _ _ _ _ _ _ i6 (hu.mono ye.le).arg ye.holds).mono ?_
 rintro e w4 ⟨v4,rfl,la,lb,lc,ld,H4,rfl,yJ,qK⟩
 have hB:=hB.below yJ.below;have yP:=yJ.none yP hT.lt;have hT:=hT.below yJ.below;have hG:=(hG.trans ye).trans yJ
 refine Ko hK ?_ fun zy=>?_
 ·exact⟨hB.cell 0 rfl,hB.cell 1 rfl,hB.cell 2 rfl,hB.cell 3 rfl,hB.cell 4 rfl,hB.cell 5 rfl,hB.cell 6 rfl,hB.cell 7 rfl⟩
 clear hK K
 refine Tk 6 rfl zy ?_
 refine To 7 rfl fun K hK=>?_
 rw[if_pos (by rfl)]
 refine zk _ _ _ rfl _ _ rfl rfl _ _ hT zS rfl (by kernel_rfl) fun w6 hT xO=>?_
 refine Kz hK ?_
 clear hK K
 refine Wd ?_
 try simp only[List.getElem_toArray,List.getElem_cons_zero,List.getElem_cons_succ,List.set_cons_zero,List.set_cons_succ]
 have uX:=hG.grownOwn yP (by omega) xO;go_wp2_with fail
 refine zR rfl rfl hT rfl rfl zS rfl ?_
 exact⟨_,rfl,⟨ka,kb,kc,kd⟩,⟨la,lb,lc,ld⟩,H4,rfl,uX,rp.mono yJ.le,qK⟩
mutual
def dep:Itm→Nat
 | .mk _ _ _ l=>jL l
def jL:List Itm→Nat
 | []=>0
 | x::l=>max (dep x+1) (jL l)
end
theorem aa:∀ {l:List Itm}{d:Nat},(∀ x∈l,dep x+1≤d)→jL l≤d
 | [],d,_=>by rw[jL];omega
 | x::l,d,h=>by
  rw[jL];have h1:=h x (by simp);have h2:=aa (l:=l) fun y hy=>h y (by simp[hy])
  omega
theorem tj:∀ l m:List Itm,yQ (l++m)=yQ l+yQ m
 | [],m=>by simp[yQ]
 | x::l,m=>by rw[List.cons_append,yQ,yQ,tj l m];omega
theorem er (L:List Itm) (k:Nat) (y z:Itm):yQ (L.take k++[y,z]++L.drop k)=yQ L+cnt y+cnt z:=by
 have h:yQ L=yQ (L.take k)+yQ (L.drop k):=by rw[← tj,List.take_append_drop]
 rw[tj,tj,h]
 simp only[yQ]
 omega
def PQ (L M:List Itm):Prop:=(∀ q,q∈ze L↔q∈ze M)∧yQ L=yQ M
section
variable {w w' w'':World} {H H' H'':Snap} {g:Nat}
theorem GrowsBut.refl (hH:Holds w H) (g:Nat):GrowsBut w H w H g:=⟨yz w _,Snap.le.refl _,hH,fun _ _ h=>.inl h⟩
theorem GrowsBut.trans (h:GrowsBut w H w' H' g) (k:GrowsBut w' H' w'' H'' g):GrowsBut w H w'' H'' g :=
 ⟨zD h.grown k.grown (.inl rfl),h.le.trans k.le,k.holds,fun b o hb=>by
  rcases k.fresh b o hb with h1 | h1
  ·exact h.fresh b o h1
  exact .inr (Nat.le_trans h.grown.size h1)⟩
theorem Grows.but (h:Grows w H w' H') (g:Nat):GrowsBut w H w' H' g:=⟨xJ h.below _,h.le,h.holds,h.fresh⟩
theorem GrowsBut.hid (h:GrowsBut w H w' H' g) {k:Nat}(hk:H k=.none) (hl:k<w.heap.size):H' k=.none:=by
 cases hH:H' k with
 | none=>rfl
 | some o =>
 rcases h.fresh k o hH with hx | hx
 ·rw[hk]at hx;cases hx
 omega
structure DeckIn (w:World) (g:Nat) (H:Snap):Prop where
 deck:Deck w g H
 holds:Holds w H
 apart:H g=.none
structure Dealt (w:World) (H:Snap) (w':World) (H':Snap) (g:Nat):Prop where
 grows:GrowsBut w H w' H' g
 deck:DeckIn w' g H'
theorem Dealt.refl (h:DeckIn w g H):Dealt w H w H g:=⟨GrowsBut.refl h.holds g,h⟩
theorem Dealt.trans (h:Dealt w H w' H' g) (k:Dealt w' H' w'' H'' g):Dealt w H w'' H'' g:=⟨h.grows.trans k.grows,k.deck⟩
theorem DeckIn.grows (h:DeckIn w g H) (k:Grows w H w' H'):Dealt w H w' H' g :=
 ⟨k.but g,⟨(h.deck.below k.below).mono k.le,k.holds,k.none h.apart h.deck.lt⟩⟩
theorem Dealt.grown (h:Dealt w H w' H' g) (k:Grows w' H' w'' H''):Dealt w H w'' H'' g:=h.trans (h.deck.grows k)
theorem Dealt.alloc (h:Dealt w H w' H' g) (o:Obj):Dealt w H (w'.alloc o) H' g:=h.grown ((Grows.refl h.deck.holds).alloc o)
theorem Dealt.drew (h:Dealt w H w' H' g):Dealt w H w'.drew H' g:=h.grown ((Grows.refl h.deck.holds).drew)
theorem DeckIn.alloc (h:DeckIn w g H) (o:Obj):DeckIn (w.alloc o) g H:=(h.grows ((Grows.refl h.holds).alloc o)).deck
theorem DeckIn.drew (h:DeckIn w g H):DeckIn w.drew g H:=(h.grows ((Grows.refl h.holds).drew)).deck
theorem Dealt.le (h:Dealt w H w' H' g):H.le H':=h.grows.le
theorem Dealt.holds (h:Dealt w H w' H' g):Holds w' H':=h.deck.holds
theorem Dealt.size (h:Dealt w H w' H' g):w.heap.size≤w'.heap.size:=h.grows.grown.size
theorem Dealt.hid (h:Dealt w H w' H' g) {k:Nat}(hk:H k=.none) (hl:k<w.heap.size):H' k=.none:=h.grows.hid hk hl
theorem Dealt.grownRow {row:Option Nat}(h:Dealt w H w' H' g) (h0:∀ k,row=some k→H' k=.none) (hw:∀ k,row=some k→w.heap.size≤k) (zB:g<w.heap.size) (hg:w'.grownBy w'' row):Dealt w H w'' H' g:=by
 have hd:=h.deck;have xg:row≠some g:=fun e=>by have:=hw g e;omega
 refine⟨⟨?_,h.le,h.holds.grown hg h0,h.grows.fresh⟩, ?_,h.holds.grown hg h0,hd.apart⟩
 ·exact⟨hg.os.trans h.grows.grown.os,hg.tape.trans h.grows.grown.tape,hg.output.trans h.grows.grown.output,Nat.le_trans h.size hg.size,fun i hi hne' =>
   (hg.block i (Nat.lt_of_lt_of_le hi h.size) (fun e=>by have:=hw i e.symm;omega)).trans (h.grows.grown.block i hi hne')⟩
 obtain⟨A,c,l,k,h1,h2,h3⟩:=hd.deck
 exact⟨A,c,l,k,h1.grown hg xg,h2,h3⟩
theorem Blk.dealt {k:Nat}{t:TypeId}{cs:Array Value}(h:Blk w k t cs) (hd:Dealt w H w' H' g) (hk:k≠g):Blk w' k t cs :=
 h.grown hd.grows.grown (by intro e;injection e with e;exact hk e.symm)
theorem OwnB.dealt {base:Nat}{v:Value}{l:List UInt8}(h:OwnB w base v l) (hd:Dealt w H w' H' g) (hb:g<base):OwnB w' base v l:=by
 refine h.kept hd.grows.grown ?_
 cases hv:v.ownBlock with
 | none=>exact .inl rfl
 | some k=>exact .inr (fun e=>by injection e with e;have:=h.lt k hv;omega)
theorem OwnI.dealt {base:Nat}{v:Value}{K:Snap}{l:List Itm}(h:OwnI w base v K l) (hd:Dealt w H w' H' g) (hb:g<base):OwnI w' base v K l:=by
 refine h.kept hd.grows.grown ?_
 cases hv:v.ownBlock with
 | none=>exact .inl rfl
 | some k=>exact .inr (fun e=>by injection e with e;have:=h.lt k hv;omega)
end
theorem zA {H:Snap}{g:Nat}(w:World) (hD:DeckIn w g H) (n:Int) (hn:0<n) (uB:n≤1099511627776) :
  Calls Tryz.prog 28 #[.pointer (some ⟨g,0,none⟩),.int .i64 n] w fun e w'=>∃ r:Nat,e=.returned (.int .i64 (r:Int))∧(r:Int)<n∧Dealt w H w' H g:=by
 refine(UI w hD.deck hD.holds hD.apart n hn uB).mono ?_
 rintro e w' ⟨r,rfl,h0,h1,h2,h3⟩
 obtain⟨k,rfl⟩:=Int.eq_ofNat_of_zero_le h0;have hH:=hD.holds.grown h3 (by rintro q ⟨⟩;exact hD.apart)
 exact⟨k,rfl,h1,⟨h3,Snap.le.refl _,hH,fun _ _ h=>.inl h⟩,h2,hH,hD.apart⟩
theorem kz {H:Snap}{g:Nat}(w:World) (hD:DeckIn w g H) (n:Int) (hn:0≤n) (uB:n≤1048576) :
  Calls Tryz.prog 44 #[.pointer (some ⟨g,0,none⟩),.int .i64 n] w fun e w' =>
   ∃ A c l,e=.returned (.slice A l.length c)∧(l.length:Int)≤n∧∃ H',IsBytes H' A c l∧Dealt w H w' H' g:=by
 have NX:=Hh (zA w hD (n+1) (by omega) (by omega));have K0:IntKind.i64.wrap (n+1)=n+1:=IntWalk.i64_in _ (by omega);have wH:=hD.deck.lt;have HN:=Hh (And.intro hn uB);have HD:=Hh hD;clear hn uB hD;go_enter Tryz.func44,Tryz.ntmps44
 go_wp2_with fail
 refine NX.out.mono ?_
 rintro e w1 ⟨r,rfl,hr,vH⟩
 have wK:=OwnB.nil w1 w.heap.size;go_wp2_with fail
 go_loopw [5,6] (fun v5 v6 wr=>∃ (k:Nat) (VA:Option Addr) (vc vn:Nat) (l:List UInt8),v6=.int .i64 (k:Int)∧v5=.slice VA vn vc∧OwnB wr w.heap.size (.slice VA vn vc) l∧vn=l.length∧(l.length:Int)+k≤n∧Dealt w H wr H g∧(∀ q,(Value.slice VA vn vc).ownBlock=some q→H q=none)) (fun _ v6 _=>(intOf v6).toNat)
 case atStart=>exact⟨r,_,_,_,_,rfl,rfl,wK,rfl,by simp;omega,vH,by intro q hq;simp[Value.ownBlock]at hq⟩
 case round =>
 obtain⟨k,VA,vc,vn,l,rfl,rfl,wG,fk,Tc,qQ,nZ⟩:=hrel;have HV:=Hh fk;have VR:=Hh Tc;clear fk Tc
 by_cases zB:(0:Int)<(k:Int)
 ·have NX:=Hh (zA wr qQ.deck 256 (by omega) (by omega));go_wp2_with fail
  refine NX.out.mono ?_
  rintro e w2 ⟨q,rfl,hq,xy⟩
  have hd:=qQ.trans xy;have pG:=wG.dealt xy wH;have K1:IntKind.u8.wrap (q:Int)=(q:Int):=IntWalk.u8_in _ (by omega);have oP:=pG.alloc (.cells #[.int .u8 (q:Int)] 5);have uA:=hd.alloc (.cells #[.int .u8 (q:Int)] 5)
  have HC:Hid ((#[.int .u8 (q:Int)]:Array Value).toList=[u8 q].map zv):=by
   simp only[Hid,List.map_cons,List.map_nil,xZ]
   congr 2
   omega
  have jh:(-9223372036854775808:Int)≤(k:Int)-1∧(k:Int)-1≤9223372036854775807:=by have:=VR.out;have:=HN.out;omega
  clear hq NX qQ wG xy pG hd;go_wp2_with (at_builtin;refine zO ?_)
  unfold yy
  obtain rfl:=HV.out
  refine zn rfl (.tmp 15) (.tmp 19) rfl w.heap.size (.slice VA l.length vc) _ rfl oP _ 1 _ [u8 q] rfl rfl (Src.new _ _ _ _ rfl _ HC.out) (by have:=VR.out;have:=HN.out;simp;omega) uA.size fun v' w7 wj xj hat7=>?_
  obtain⟨VA',vc',rfl,_⟩:=wj.form;have jT:=uA.grownRow nZ (fun q hq=>(oP.lt q hq).1) wH xj
  have lh:∀ q',(Value.slice VA' (l++[u8 q]).length vc').ownBlock=some q'→H q'=none:=fun q' i7=>by
   rcases hat7 with h | ⟨g',h1,h2⟩
   ·exact nZ q' (by rw[← h,i7])
   rw[i7]at h1;injection h1 with h1
   subst h1
   exact uA.holds.none_of_ge h2
  have So:(l++[u8 q]).length=l.length+1:=by simp
  rw[So]at wj lh;rw[So];clear So;have ir:IntKind.i64.wrap ((k:Int)-1)=(k:Int)-1:=IntWalk.i64_in _ jh;clear oP xj hat7 uA jh;go_wp2_with fail
  go_roundw
  case rel=>exact⟨k-1,VA',vc',_,_,by rw[show((k-1:Nat):Int)=(k:Int)-1 by omega],rfl,wj,by simp,by have:=VR.out;simp;omega,jT,lh⟩
  case measure=>simp[intOf];omega
 go_wp2_with fail
 obtain rfl:=HV.out;obtain⟨H',Yf,Vn,aR,Tn,nf⟩:=wG.snap qQ.holds (fun q hq=>nZ q (by cases VA <;> simp_all [Value.ownBlock]));have hG:Grows wr H wr H'→True:=fun _=>trivial
 go_ret
 refine⟨VA,vc,l,rfl,by have:=VR.out;omega,H',nf,⟨⟨qQ.grows.grown,Yf,Vn,fun b o hb=>?_⟩,qQ.deck.deck.mono Yf,Vn, ?_⟩⟩
 ·rcases aR b o hb with h | h
  ·exact .inl h
  exact .inr (wG.lt b (by cases VA <;> simp_all [Value.ownBlock])).1
 cases hH:H' g with
 | none=>rfl
 | some o =>
 rcases aR g o hH with h | h
 ·rw[HD.out.apart]at h;cases h
 have:=(wG.lt g (by cases VA <;> simp_all [Value.ownBlock])).1
 omega
def ig:Value→Bool | .int .u64 x=>decide (0≤x)&&decide (x<18446744073709551616) | _=>false
def bG:Value→Bool | .int .i64 x=>decide (-1000≤x)&&decide (x≤1000) | _=>false
def cy:Value→Bool | .string s=>decide (s.size≤3) | _=>false
theorem qo {v:Value}(h:ig v=true):∃ n:Nat,v=.int .u64 (n:Int)∧n<18446744073709551616:=by
 unfold ig at h
 split at h
 ·rename_i x
  rw[Bool.and_eq_true,decide_eq_true_eq,decide_eq_true_eq]at h;obtain⟨n,rfl⟩:=Int.eq_ofNat_of_zero_le h.1
  exact⟨n,rfl,by omega⟩
 cases h
theorem kK {v:Value}(h:bG v=true):∃ x:Int,v=.int .i64 x∧-1000≤x∧x≤1000:=by
 unfold bG at h
 split at h
 ·rename_i x
  rw[Bool.and_eq_true,decide_eq_true_eq,decide_eq_true_eq]at h
  exact⟨x,rfl,h.1,h.2⟩
 cases h
theorem eI {v:Value}(h:cy v=true):∃ s:ByteArray,v=.string s∧s.size≤3:=by
 unfold cy at h
 split at h
 ·rename_i x
  exact⟨x,rfl,of_decide_eq_true h⟩
 cases h
theorem Blk.pick {w:World}{g:Nat}{t:TypeId}{cs:Array Value}(h:Blk w g t cs) (P:Value→Bool) (vD:cs.all P=true) (k:Nat) (hk:k<cs.size):∃ v,w.cell? ⟨g,k,none⟩=some v∧P v=true :=
 ⟨cs[k],h.cell k (Array.getElem?_eq_getElem hk),by rw[Array.all_eq_true]at vD;exact vD k hk⟩
theorem ag {H:Snap}{g:Nat}(w:World) (hD:DeckIn w g H) (n:Int) (hn:0≤n) (uB:n≤1048576) :
  Calls Tryz.prog 89 #[.pointer (some ⟨g,0,none⟩),.int .i64 n] w fun e w' =>
   ∃ s:ByteArray,e=.returned (.string s)∧(s.size:Int)≤3*n∧Dealt w H w' H g:=by
 have NX:=Hh (zA w hD (n+1) (by omega) (by omega));have K0:IntKind.i64.wrap (n+1)=n+1:=IntWalk.i64_in _ (by omega);have wH:=hD.deck.lt;have HN:=Hh (And.intro hn uB);have HD:=Hh hD;clear hn uB hD;go_enter Tryz.func89,Tryz.ntmps89
 go_wp2_with fail
 refine NX.out.mono ?_
 rintro e w1 ⟨r,rfl,hr,vH⟩
 go_wp2_with fail
 go_loopw [5,6] (fun v5 v6 wr=>∃ (k:Nat) (s:ByteArray),v6=.int .i64 (k:Int)∧v5=.string s∧(s.size:Int)+3*k≤3*n∧Dealt w H wr H g) (fun _ v6 _=>(intOf v6).toNat)
 case atStart=>exact⟨r,⟨#[]⟩,rfl,rfl,by rw[show(⟨#[]⟩:ByteArray).size=0 from rfl];omega,vH⟩
 case round =>
 obtain⟨k,s,rfl,rfl,Tc,qQ⟩:=hrel;have VR:=Hh Tc;clear Tc
 by_cases zB:(0:Int)<(k:Int)
 ·have hB:=Blk.new wr 9 #[.string ⟨#[97]⟩,.string ⟨#[98]⟩,.string ⟨#[47]⟩,.string ⟨#[34]⟩,.string ⟨#[92]⟩,.string ⟨#[10]⟩,.string ⟨#[127]⟩,.string ⟨#[37]⟩,.string ⟨#[195,169]⟩,.string ⟨#[226,130,172]⟩];have xy:=qQ.alloc (.cells #[.string ⟨#[97]⟩,.string ⟨#[98]⟩,.string ⟨#[47]⟩,.string ⟨#[34]⟩,.string ⟨#[92]⟩,.string ⟨#[10]⟩,.string ⟨#[127]⟩,.string ⟨#[37]⟩,.string ⟨#[195,169]⟩,.string ⟨#[226,130,172]⟩] 9);have NX:=Hh (zA _ xy.deck 10 (by omega) (by omega));go_wp2_with fail
  refine NX.out.mono ?_
  rintro e w3 ⟨q,rfl,hq,uA⟩
  have ut:=hB.dealt uA (by have:=qQ.size;omega);obtain⟨v,hc,hP⟩:=ut.pick cy (by kernel_rfl) q (by simp;omega);obtain⟨t,rfl,ht⟩:=eI hP;have hd:=xy.trans uA;have Db:(q:Int)<10:=hq;have HK:=Hh ht;have ir:IntKind.i64.wrap ((k:Int)-1)=(k:Int)-1:=IntWalk.i64_in _ (by have:=VR.out;have:=HN.out;omega);have vR:s.size+t.size≤9223372036854775807:=by have:=VR.out;have:=HN.out;omega
  clear NX hB ut hP xy uA ht;go_wp2_with fail
  go_roundw
  case rel=>exact⟨k-1,_,by rw[show((k-1:Nat):Int)=(k:Int)-1 by omega],rfl,by have:=VR.out;have:=HK.out;simp[ByteArray.size_append];omega,hd⟩
  case measure=>simp[intOf];omega
 go_wp2_with fail
 go_ret
 exact⟨s,rfl,by have:=VR.out;omega,qQ⟩
theorem uT {H:Snap}{g:Nat}(w:World) (hD:DeckIn w g H) :
  Calls Tryz.prog 88 #[.pointer (some ⟨g,0,none⟩)] w fun e w' =>
   ∃ n:Nat,e=.returned (.int .u64 (n:Int))∧n<18446744073709551616∧Dealt w H w' H g:=by
 have NX:=Hh (zA w hD 6 (by omega) (by omega));have wH:=hD.deck.lt;clear hD;go_enter Tryz.func88,Tryz.ntmps88
 go_wp2_with fail
 refine NX.out.mono ?_
 rintro e w1 ⟨r,rfl,hr,vH⟩
 by_cases h0:r=0
 ·subst h0;have hB:=Blk.new w1 22 #[.int .u64 23,.int .u64 24,.int .u64 255,.int .u64 256,.int .u64 65535,.int .u64 65536,.int .u64 4294967295,.int .u64 4294967296,.int .u64 18446744073709551615];have xy:=vH.alloc (.cells #[.int .u64 23,.int .u64 24,.int .u64 255,.int .u64 256,.int .u64 65535,.int .u64 65536,.int .u64 4294967295,.int .u64 4294967296,.int .u64 18446744073709551615] 22);have NX:=Hh (zA _ xy.deck 9 (by omega) (by omega));go_wp2_with fail
  refine NX.out.mono ?_
  rintro e w3 ⟨q,rfl,hq,uA⟩
  have ut:=hB.dealt uA (by have:=vH.size;omega);obtain⟨v,hc,hP⟩:=ut.pick ig (by kernel_rfl) q (by simp;omega);obtain⟨x,rfl,hx⟩:=qo hP;have hd:=xy.trans uA;have HX:=Hh hx;clear NX hB ut hP xy uA hx;go_wp2_with fail
  go_ret
  exact⟨x,rfl,HX.out,hd⟩
 by_cases h1:r=1
 ·subst h1;have N2:=Hh (zA w1 vH.deck 1073741824 (by omega) (by omega));go_wp2_with fail
  refine N2.out.mono ?_
  rintro e w2 ⟨q,rfl,hq,xy⟩
  have K1:IntKind.u64.wrap (q:Int)=(q:Int):=IntWalk.u64_in _ (by omega);go_wp2_with fail
  go_ret
  exact⟨q,rfl,by omega,vH.trans xy⟩
 have b0:((r:Int)==0)=false:=by rw[beq_eq_false_iff_ne];omega
 have b1:((r:Int)==1)=false:=by rw[beq_eq_false_iff_ne];omega
 have N2:=Hh (zA w1 vH.deck 30 (by omega) (by omega));clear h0 h1;go_wp2_with fail
 refine N2.out.mono ?_
 rintro e w2 ⟨q,rfl,hq,xy⟩
 have K1:IntKind.u64.wrap (q:Int)=(q:Int):=IntWalk.u64_in _ (by omega);go_wp2_with fail
 go_ret
 exact⟨q,rfl,by omega,vH.trans xy⟩
theorem gR (x:Int):∃ n:Nat,Ending.returned (Value.int .u64 (IntKind.u64.wrap x))=.returned (.int .u64 (n:Int))∧n<18446744073709551616:=by
 refine⟨(IntKind.u64.wrap x).toNat, ?_, ?_⟩
 ·rw[Int.toNat_of_nonneg (by rw[IntKind.wrap_u64];omega)]
 rw[IntKind.wrap_u64];omega
theorem ul (op:BinOp) (a b:Int):∃ n:Nat,Ending.returned (Value.int .u64 (bits op .u64 a b))=.returned (.int .u64 (n:Int))∧n<18446744073709551616:=gR _
def pN (w:World) (e:Ending) (w':World):Prop:=(∃ n:Nat,e=.returned (.int .u64 (n:Int))∧n<18446744073709551616)∧w'=w
theorem cX (v:Nat) (hv:v<18446744073709551616) (w:World) :
  Calls Tryz.prog 118 #[.int .u64 (v:Int),.int .i64 5,.int .i64 10] w (pN w):=by
 have A2:bits .and .u64 (v:Int) 1023=((v%1024:Nat):Int):=uh v 10 (by omega) (by omega);have hM:v%1024≤1023:=by omega
 generalize v%1024=M at *
 have hz:¬ ((0:Int)<bits .and .u64 (v:Int) 1023/2048):=by rw[A2];omega
 have HZ:=Hh hz;clear A2 hM hz;go_enter Tryz.func118,Tryz.ntmps118
 go_wp2_with fail
 ·go_ret;exact⟨ul ..,rfl⟩
 ·go_ret;exact⟨gR ..,rfl⟩
 ·go_loop [12] (fun v12=>∃ k:Nat,k≤10∧v12=.int .i64 (k:Int)) (fun v12=>10-(intOf v12).toNat)
  case atStart=>exact⟨0,by omega,rfl⟩
  case round =>
  obtain⟨k,hk,rfl⟩:=hrel
  rcases(by omega:k≤9∨k=10) with h | rfl
  ·have jh:(k:Int)+1≤10:=by omega
   have ir:(0:Int)≤(k:Int)+1:=by omega
   have IQ:((k:Int)+1).toNat=k+1:=by omega
   go_wp2_with fail
   ·go_round
    case rel=>exact⟨k+1,by omega,by go_num⟩
    case measure=>simp[intOf];omega
   go_ret;exact⟨ul ..,rfl⟩
  have hz:=HZ.out;go_wp2_with fail
  go_ret;exact⟨ul ..,rfl⟩
 go_ret;exact⟨ul ..,rfl⟩
theorem cY (v:Nat) (hv:v<18446744073709551616) (w:World) :
  Calls Tryz.prog 118 #[.int .u64 (v:Int),.int .i64 8,.int .i64 23] w (pN w):=by
 have A2:bits .and .u64 (v:Int) 8388607=((v%8388608:Nat):Int):=uh v 23 (by omega) (by omega);have hM:v%8388608≤8388607:=by omega
 generalize v%8388608=M at *
 have hz:¬ ((0:Int)<bits .and .u64 (v:Int) 8388607/16777216):=by rw[A2];omega
 have HZ:=Hh hz;clear A2 hM hz;go_enter Tryz.func118,Tryz.ntmps118
 go_wp2_with fail
 ·go_ret;exact⟨ul ..,rfl⟩
 ·go_ret;exact⟨gR ..,rfl⟩
 ·go_loop [12] (fun v12=>∃ k:Nat,k≤23∧v12=.int .i64 (k:Int)) (fun v12=>23-(intOf v12).toNat)
  case atStart=>exact⟨0,by omega,rfl⟩
  case round =>
  obtain⟨k,hk,rfl⟩:=hrel
  rcases(by omega:k≤22∨k=23) with h | rfl
  ·have jh:(k:Int)+1≤23:=by omega
   have ir:(0:Int)≤(k:Int)+1:=by omega
   have IQ:((k:Int)+1).toNat=k+1:=by omega
   go_wp2_with fail
   ·go_round
    case rel=>exact⟨k+1,by omega,by go_num⟩
    case measure=>simp[intOf];omega
   go_ret;exact⟨ul ..,rfl⟩
  have hz:=HZ.out;go_wp2_with fail
  go_ret;exact⟨ul ..,rfl⟩
 go_ret;exact⟨ul ..,rfl⟩
section
variable {w w':World} {base:Nat} {H:Snap} {l:List Itm}
theorem OwnI.parts {A:Option Addr}{m c:Nat}(h:OwnI w base (.slice A m c) H l) (k:Nat):∃ cs1 cs2,ItemsC H cs1 (l.take k)∧ItemsC H cs2 (l.drop k)∧Src w A cs1∧(k<l.length→∃ b off,A=some ⟨b,off,none⟩∧Src w (some ⟨b,off+k*4,none⟩) cs2):=by
 obtain⟨cs,hc,ho⟩:=h;have hs:=Src.of_own ho;obtain⟨h1,h2⟩:=hc.split k
 refine⟨_,_,h1,h2,fun xg=>?_,fun hk=>?_⟩
 ·obtain⟨b,off,e,hx⟩:=hs (by rintro rfl;simp at xg)
  exact⟨b,off,e,fun j v hj=>hx j v (by rw[List.getElem?_take]at hj;split at hj;exact hj;cases hj)⟩
 obtain⟨b,off,e,hx⟩:=hs (by rintro rfl;have:=hc.len;simp at this;omega)
 refine⟨b,off,e,fun _=>⟨b,off+k*4,rfl,fun j v hj=>?_⟩⟩
 rw[List.getElem?_drop]at hj;rw[Nat.add_assoc]
 exact hx _ v hj
theorem OwnI.cells {A:Option Addr}{m c:Nat}(h:OwnI w base (.slice A m c) H l) (k:Nat) (hk:k<l.length):∃ b off,A=some ⟨b,off,none⟩∧∃ ba bc ia ic,w.cell? ⟨b,off+k*4,none⟩=some (.int .i64 l[k].kind)∧w.cell? ⟨b,off+k*4+1,none⟩=some (.int .u64 l[k].n)∧
  w.cell? ⟨b,off+k*4+2,none⟩=some (.slice ba l[k].bytes.length bc)∧w.cell? ⟨b,off+k*4+3,none⟩=some (.slice ia l[k].items.length ic)∧IsItem H ba bc ia ic l[k]:=by
 obtain⟨cs,hc,ho⟩:=h;obtain⟨b,off,e,hx⟩:=Src.of_own ho (by rintro rfl;have:=hc.len;simp at this;omega);obtain⟨ba,bc,ia,ic,h0,h1,h2,h3,hi⟩:=hc.get k hk
 exact⟨b,off,e,ba,bc,ia,ic,hx _ _ h0,hx _ _ h1,hx _ _ h2,hx _ _ h3,hi⟩
end
theorem zU {w w':World}{a:Addr}{v:Value}(h:w.cell? a=some v) (hb:Below w.heap.size w w'):w'.cell? a=some v:=(hb.cell (World.block_lt_of_cell? w _ h)).trans h
theorem uS {w:World}{a:Addr}{v:Value}(h:w.cell? a=some v):w.drew.cell? a=some v:=h
theorem OwnI.drew {w:World}{base:Nat}{v:Value}{H:Snap}{l:List Itm}(h:OwnI w base v H l):OwnI w.drew base v H l:=h
theorem qy {A:Option Addr}{m c q:Nat}(h:A.map (·.block)=some q):(Value.slice A m c).ownBlock=some q:=by cases A <;> simp_all [Value.ownBlock]
theorem Src.slicek {w:World}{H:Snap}{A:Option Addr}{cs:List Value}{L:List Itm}{k j vc:Nat}(h:k<L.length→∃ b off,A=some ⟨b,off,none⟩∧Src w (some ⟨b,off+k*4,none⟩) cs) (hc:ItemsC H cs (L.drop k)) (hL:L.length=j) (Im:(j:Int)≤vc) :
  Src w (if vc=k then A else Option.map (fun x=>x.add (k*4)) A) cs:=by
 by_cases hk:k<L.length
 ·obtain⟨b,off,rfl,hs⟩:=h hk;rw[if_neg (by omega),Option.map_some,pj]
  exact hs
 rw[List.drop_eq_nil_of_le (by omega),ItemsC]at hc;subst hc
 exact Src.nil _ _
theorem n7 {B:Nat}{w wr:World}(_h:Below B w wr) (t:TypeId) (cs:Array Value):Src (wr.alloc (.cells cs t)) (some ⟨wr.heap.size,0,none⟩) cs.toList:=Src.lit _ _ _
def BuildSaid (w:World) (H:Snap) (ps:List Itm) (e:Ending) (w':World):Prop :=
 ∃ v,(∃ l,e=.returned (.tuple #[v,.int .i64 0])∧Gives w H (.mk 5 0 [] l) v w'∧zX (.mk 5 0 [] l)=true∧(zM l).length=(zM ps).length∧(ps.length=2→l=ps))∨
  (∃ c,e=.returned (.tuple #[v,.int .i64 c])∧c≠0∧Gives w H zm v w'∧¬ (ps.length=2∧(∀ x∈ps,zX x=true)∧zX (.mk 5 0 [] ps)=true))
theorem es (L:List Itm) (k:Nat) (y z:Itm):(zM (L.take k++[y,z]++L.drop k)).length=(zM L).length+(zh y).length+(zh z).length:=by
 have h:=congrArg List.length (uR (L.take k) (L.drop k));rw[List.take_append_drop]at h;rw[uR,uR]
 simp only[zM,List.length_append,List.append_nil]at h⊢
 omega
theorem Dealt.gb {w w' w'':World}{H H':Snap}{g k:Nat}(h:Dealt w H w' H' g) (h0:H' k=none) (hw:w.heap.size≤k) (zB:g<w.heap.size) (hg:w'.grownBy w'' (some k)):Dealt w H w'' H' g:=h.grownRow (row:=some k) (by rintro q ⟨⟩;exact h0) (by rintro q ⟨⟩;exact hw) zB hg
end Go.Proofs.YtliomcphdnppnaaGreatDoor
