/- squeezed. Walks: the epoch of a group, by th -/
import Derived.Test.YtjpcnhncoidliaaGreatDoorK24
set_option linter.unusedVariables false
set_option linter.unusedSimpArgs false
set_option maxRecDepth 100000
set_option maxHeartbeats 25600000
namespace Go.Proofs.YtjpcnhncoidliaaGreatDoor
open Go.RowKit
structure YS (W0:World) (H:Snap) (tb tt tv:TypeId) (bc tc vc:Array Value) (P:Nat) (v:Value) (l:List Mb) (Hr:Snap) (w:World):Prop where
 grows:Grows W0 H w Hr
 box:Blk w W0.heap.size tb bc
 res:Blk w (W0.heap.size+1) tt tc
 var:Blk w P tv vc
 far:W0.heap.size+2≤P
 hT:Hr (W0.heap.size+1)=none
 hP:Hr P=none
 own:OwnX ru 57 w (P+1) v Hr l
 apart:∀ g,v.ownBlock=some g→Hr g=none
section
variable {W0 w w':World} {H Hr:Snap} {tb tt tv:TypeId} {bc tc vc vc':Array Value} {P Q:Nat} {v v':Value} {l l':List Mb}
theorem YS.below (h:YS W0 H tb tt tv bc tc vc P v l Hr w) (k:Below w.heap.size w w'):YS W0 H tb tt tv bc tc vc P v l Hr w' :=
 ⟨h.grows.below_ k,h.box.below k,h.res.below k,h.var.below k,h.far,h.hT,h.hP,h.own.below k,h.apart⟩
theorem YS.alloc (h:YS W0 H tb tt tv bc tc vc P v l Hr w) (o:Obj):YS W0 H tb tt tv bc tc vc P v l Hr (w.alloc o):=h.below (zl w o)
theorem YS.app (h:YS W0 H tb tt tv bc tc vc P v l Hr w) (hO:OwnX ru 57 w' (P+1) v' Hr l') (hg:w.grownBy w' v.ownBlock) (ha:At0 w v.ownBlock v'.ownBlock):YS W0 H tb tt tv bc tc vc P v' l' Hr w' :=
 ⟨h.grows.grownRow h.apart (fun g hg=>by have:=(h.own.lt g hg).1;have:=h.far;omega) hg,h.box.grown hg (fun e=>by have:=(h.own.lt _ e).1;have:=h.far;omega),h.res.grown hg (fun e=>by have:=(h.own.lt _ e).1;have:=h.far;omega),h.var.grown hg (fun e=>by have:=(h.own.lt _ e).1;omega),h.far,h.hT,h.hP,hO,fun g hv=>by
  rcases ha with e | ⟨g',e,hs⟩
  ·exact h.apart g (by rw[← e,hv])
  rw[hv]at e;injection e with e
  subst e
  exact h.grows.hidden hs⟩
theorem YS.put (h:YS W0 H tb tt tv bc tc vc P v l Hr w) (hQ:P+1≤Q) (hn:Hr Q=none) (xq:v.ownBlock≠some Q) (hg:w.grownBy w' (some Q)):YS W0 H tb tt tv bc tc vc P v l Hr w' :=
 ⟨h.grows.grownOwn hn (by have:=h.far;omega) hg,h.box.grown hg (by intro e;injection e with e;have:=h.far;omega),h.res.grown hg (by intro e;injection e with e;have:=h.far;omega),h.var.gr hg (by omega),h.far,h.hT,h.hP,h.own.kept hg (.inr xq),h.apart⟩
theorem YS.set (h:YS W0 H tb tt tv bc tc vc P v l Hr w) (hB:Blk w' P tv vc') (hg:w.grownBy w' (some P)):YS W0 H tb tt tv bc tc vc' P v l Hr w' :=
 ⟨h.grows.grownOwn h.hP (by have:=h.far;omega) hg,h.box.grown hg (by intro e;injection e with e;have:=h.far;omega),h.res.grown hg (by intro e;injection e with e;have:=h.far;omega),hB,h.far,h.hT,h.hP,h.own.kept hg (by
  cases hv:v.ownBlock with
  | none=>exact .inl rfl
  | some g=>exact .inr (by intro e;injection e with e;have:=(h.own.lt g hv).1;omega)),h.apart⟩
theorem YS.base (h:YS W0 H tb tt tv bc tc vc P v l Hr w):P+1≤w.heap.size:=h.var.lt
theorem YS.not_new (h:YS W0 H tb tt tv bc tc vc P v l Hr w):v.ownBlock≠some w.heap.size:=fun e=>by have:=(h.own.lt _ e).2;omega
theorem YS.freeze {A:Option Addr}{m c:Nat}(h:YS W0 H tb tt tv bc tc vc P (.slice A m c) l Hr w):∃ H',Grows W0 H w H'∧Hr.le H'∧m=l.length∧IsRow ru H' A c l∧H' (W0.heap.size+1)=none:=by
 obtain⟨H',hl,hh,hf,hn,hi⟩:=h.own.snap h.grows.holds (fun g hg=>h.apart g (by cases A <;> simp_all [Value.ownBlock]))
 refine⟨H',⟨h.grows.below,h.grows.le.trans hl,hh,fun b o hb=>?_⟩,hl,hn,hi, ?_⟩
 ·rcases hf b o hb with h1 | h1
  ·exact h.grows.fresh b o h1
  exact .inr (by have:=(h.own.lt b (by cases A <;> simp_all [Value.ownBlock])).1;have:=h.far;omega)
 cases hz:H' (W0.heap.size+1) with
 | none=>rfl
 | some o =>
 rcases hf _ o hz with h1 | h1
 ·rw[h.hT]at h1;cases h1
 have:=(h.own.lt (W0.heap.size+1) (by cases A <;> simp_all [Value.ownBlock])).1;have:=h.far
 omega
end
def YEx (W0:World) (H:Snap) (tb tt tv:TypeId) (bc tc:Array Value) (vc:Value→Array Value) (P j:Nat) (Hr:Snap) (w:World):Prop:=∃ (v:Value) (l:List Mb),l.length≤j∧YS W0 H tb tt tv bc tc (vc v) P v l Hr w
abbrev rq:Array Value:=#[.int .i64 0,.slice none 0 0,.slice none 0 0,.slice none 0 0]
theorem OZ (H:Snap):EpA H ⟨0,[],[],[]⟩ ⟨none,0,none,0,none,0⟩:=⟨IsBytes.nil _,IsBytes.nil _,dK H,by simp⟩
def UB (w:World) (H:Snap) (e:Ending) (w':World):Prop:=∃ x a H' n,e=.returned (.tuple #[.agg (epQ x a),.int .i64 n])∧Grows w H w' H'∧EpA H' x a
theorem ot {a b:Nat}(h:b+1≤a):some a≠some b:=fun e=>by injection e with e;omega
def noWrap (m:Mb):Mb:={ m with wrap:=[] }
theorem MemA.noWrap {H:Snap}{m:Mb}{a:MAd}(h:MemA H m a):MemA H (noWrap m) { a with wa:=none,wc:=0 }:=⟨h.name,h.sender,h.cred,h.share,IsBytes.nil _,h.small.1,h.small.2.1,h.small.2.2.1,by show(0:Nat)≤_;omega⟩
theorem je {H:Snap}(hS:qj H) {g:Gp}{a:EAd}(hg:GpA H g a) (w:World) (hH:Holds w H) :
  Calls Tryz.prog 7 #[.agg (gpQ g a)] w (UB w H):=by
 have V:Hid (∀ wx,Holds wx H→Calls Tryz.prog 18 #[.agg (gpC a.ia g.id.length a.ic a.sa g.secret.length a.sc g.number a.ma g.members.length a.mc)] wx (qQ wx g)):=fun wx hx=>sZ hS hg wx hx
 have HG:=Hh hg;have HH:=Hh hH;obtain⟨il,rC⟩:∃ n,n=g.id.length:=⟨_,rfl⟩
 obtain⟨sl,sP⟩:∃ n,n=g.secret.length:=⟨_,rfl⟩
 obtain⟨ml,rS⟩:∃ n,n=g.members.length:=⟨_,rfl⟩
 have HN:=Hh (And.intro rC (And.intro sP rS));show Calls Tryz.prog 7 #[.agg (gpC a.ia g.id.length a.ic a.sa g.secret.length a.sc g.number a.ma g.members.length a.mc)] w (UB w H)
 rw[← rC,← sP,← rS]at V⊢;have hB:=(Blk.new w 38 (gpC a.ia il a.ic a.sa sl a.sc g.number a.ma ml a.mc)).alloc (.cells rq 33);have hT:=Blk.new (w.alloc (.cells (gpC a.ia il a.ic a.sa sl a.sc g.number a.ma ml a.mc) 38)) 33 rq;rw[zW]at hT;have hb:=((zl w (.cells (gpC a.ia il a.ic a.sa sl a.sc g.number a.ma ml a.mc) 38)).alloc (zl w (.cells (gpC a.ia il a.ic a.sa sl a.sc g.number a.ma ml a.mc) 38)).size (.cells rq 33))
 have BAD:Hid (∀ (wx:World) (n:Int),Below w.heap.size w wx→UB w H (.returned (.tuple #[.agg rq,.int .i64 n])) wx):=fun wx n h2=>⟨⟨0,[],[],[]⟩,⟨none,0,none,0,none,0⟩,H,n,rfl,Grows.of_below HH.out h2,OZ H⟩
 have g0:=hB.cell 0 rfl;have g1:=hB.cell 1 rfl;have g2:=hB.cell 2 rfl;have g3:=hB.cell 3 rfl;clear rC sP rS hg hH hS;go_enter Tryz.func7,Tryz.ntmps7
 go_upto_region 1 with fail
 generalize (w.alloc (.cells (gpC a.ia il a.ic a.sa sl a.sc g.number a.ma ml a.mc) 38)).alloc (.cells rq 33)=w1 at hB hT hb g0 g1 g2 g3⊢
 go_wp2_with fail
 refine(V.out _ (HH.out.below hb (Nat.le_refl _))).mono ?_
 rintro e w2 ⟨b2,rfl,oX,yz⟩
 replace hB:=hB.below yz;replace hT:=hT.below yz;replace hb:=hb.trans (yz.mono hb.size);have HA:=Hh oX;clear yz oX V g0 g1 g2 g3
 cases b2 with
 | false =>
  clear hB;go_wp2_with (with_reducible refine zx ?_)
  refine zu rfl _ _ _ rfl rfl _ _ rfl rfl _ _ hT nV rfl (vR _ _ _ _ rfl rfl rfl rfl) fun w9 wL hg9=>?_
  have uN:=hb.grown hg9 hb.size (by rintro q ⟨⟩;omega);clear hT hb hg9;go_wp2_with fail
  exact zw rfl rfl wL rfl rfl nV rfl (BAD.out _ _ uN)
 | true =>
 simp only[Bool.not_true]
 have GD:=Hh (HA.out rfl);clear HA;obtain⟨nn,uK⟩:∃ n:Nat,g.number=(n:Int):=⟨g.number.toNat,by have:=GD.out.2.2.2.1;omega⟩
 have rK:Hid (nn≤65535):=by have:=GD.out.2.2.2.2.1;rw[Hid];omega
 rw[uK]at hB⊢;have Mc:=Hh uK;clear uK;go_upto_region 3 with fail
 have hG:=Grows.of_below HH.out hb;have uU:H (w.heap.size+1)=none:=HH.out.none_of_ge (by omega);have mY:=hT.lt;clear hb;go_cut [4] (fun s4 wx=>∃ (P:Nat) (IA:Option Addr) (ic:Nat) (H1:Snap),s4=.pointer (some ⟨P,0,none⟩)∧Blk wx w.heap.size 38 (gpC a.ia il a.ic a.sa sl a.sc (nn:Int) a.ma ml a.mc)∧Blk wx (w.heap.size+1) 33 rq∧Blk wx P 33 #[.int .i64 (nn:Int),.slice IA (il+2) ic,.slice none 0 0,.slice none 0 0]∧Grows w H wx H1∧IsBytes H1 IA ic (g.id++[ze nn 8,ze nn 0])∧H1 P=none∧H1 (w.heap.size+1)=none∧w.heap.size+2≤P)
 case first =>
  replace hB:=hB.below (Below.refl _ _).drew;replace hT:=hT.below (Below.refl _ _).drew;replace hG:=hG.drew
  refine zn 10 (fun wx=>wx.cell? ⟨w.heap.size,0,none⟩=some (.slice a.ia il a.ic)∧wx.cell? ⟨w.heap.size,2,none⟩=some (.int .i64 (nn:Int))) (by kernel_rfl) (⟨hB.cell 0 rfl,hB.cell 2 rfl⟩) (fun zy=>?_)
  refine TkS 0 rfl zy ?_
  refine TkS 1 rfl zy ?_
  refine TkS 2 rfl zy ?_
  refine TkS 3 rfl zy ?_
  refine TkS 4 rfl zy ?_
  refine TkS 5 rfl zy ?_
  refine Ways.two (i:=6) (j:=8) rfl rfl (by kernel_rfl) (fun K hK=>?_) (fun K hK=>?_)
  ·go_simp
   refine(bK HN.out.1 HG.out.small.1 nn (by have:=rK.out;omega) _ (Src.of_row (HG.out.id.mono hG.le).row hG.holds)).mono ?_
   rintro e w6 ⟨r6,rfl,vu⟩
   obtain⟨IA,ic,rfl,ut⟩:=vu.own.form;clear ut;obtain⟨H6,zK,pW,ut⟩:=Fresh.snapB hG.holds vu;clear ut vu;have uU:=zK.none uU hT.lt
   try have jW:=zK.none jW hP.lt
   try have hP:=hP.below zK.below
   have hB:=hB.below zK.below;have hT:=hT.below zK.below;have hG:=hG.trans zK;rw[List.length_append,← HN.out.1,show [ze nn 8,ze nn 0].length=2 from rfl];clear zK
   refine Ko hK ?_ fun zy=>?_
   ·exact⟨hB.cell 0 rfl,hB.cell 2 rfl⟩
   clear hK K
   refine TkS 7 rfl zy ?_
   refine To 8 rfl fun K hK=>?_
   go_simp
   have hP:=hG.newBlk 33 rq;have jW:=hG.holds.none_of_ge (Nat.le_refl _);have Nk:w.heap.size+2≤_:=hT.lt;have hB:=hB.alloc (.cells rq 33);have hT:=hT.alloc (.cells rq 33);have hG:=hG.alloc (.cells rq 33)
   try have pW:=pW
   refine Ko hK ?_ fun zy=>?_
   ·exact⟨hB.cell 0 rfl,hB.cell 2 rfl⟩
   clear hK K
   refine To 9 rfl fun K hK=>?_
   refine zF _ _ _ rfl _ _ rfl rfl _ _ hP nV rfl (vR _ _ _ _ rfl rfl rfl rfl) fun w9 hP9 hg9=>?_
   have hB:=hB.gr hg9 (by omega);have hT:=hT.gr hg9 (by omega);have hG:=hG.grownOwn jW (by omega) hg9;clear hg9;go_simp
   refine Ko hK ?_ fun zy=>?_
   ·exact⟨hB.cell 0 rfl,hB.cell 2 rfl⟩
   clear hK K
   refine Wd ?_
   clear zy;go_wp2_with fail
   go_meet
   exact⟨_,_,_,_,rfl,hB,hT,hP9,hG,pW,jW,uU,Nk⟩
  go_simp
  have hP:=hG.newBlk 33 rq;have jW:=hG.holds.none_of_ge (Nat.le_refl _);have Nk:w.heap.size+2≤_:=hT.lt;have hB:=hB.alloc (.cells rq 33);have hT:=hT.alloc (.cells rq 33);have hG:=hG.alloc (.cells rq 33)
  try have pW:=pW
  refine Ko hK ?_ fun zy=>?_
  ·exact⟨hB.cell 0 rfl,hB.cell 2 rfl⟩
  clear hK K
  refine To 6 rfl fun K hK=>?_
  go_simp
  refine(bK HN.out.1 HG.out.small.1 nn (by have:=rK.out;omega) _ (Src.of_row (HG.out.id.mono hG.le).row hG.holds)).mono ?_
  rintro e w6 ⟨r6,rfl,vu⟩
  obtain⟨IA,ic,rfl,ut⟩:=vu.own.form;clear ut;obtain⟨H6,zK,pW,ut⟩:=Fresh.snapB hG.holds vu;clear ut vu;have uU:=zK.none uU hT.lt
  try have jW:=zK.none jW hP.lt
  try have hP:=hP.below zK.below
  have hB:=hB.below zK.below;have hT:=hT.below zK.below;have hG:=hG.trans zK;rw[List.length_append,← HN.out.1,show [ze nn 8,ze nn 0].length=2 from rfl];clear zK
  refine Ko hK ?_ fun zy=>?_
  ·exact⟨hB.cell 0 rfl,hB.cell 2 rfl⟩
  clear hK K
  refine TkS 7 rfl zy ?_
  refine To 9 rfl fun K hK=>?_
  refine zF _ _ _ rfl _ _ rfl rfl _ _ hP nV rfl (vR _ _ _ _ rfl rfl rfl rfl) fun w9 hP9 hg9=>?_
  have hB:=hB.gr hg9 (by omega);have hT:=hT.gr hg9 (by omega);have hG:=hG.grownOwn jW (by omega) hg9;clear hg9;go_simp
  refine Ko hK ?_ fun zy=>?_
  ·exact⟨hB.cell 0 rfl,hB.cell 2 rfl⟩
  clear hK K
  refine Wd ?_
  clear zy;go_wp2_with fail
  go_meet
  exact⟨_,_,_,_,rfl,hB,hT,hP9,hG,pW,jW,uU,Nk⟩
 case rest =>
 clear hB hT hG mY uU;obtain⟨P,IA,ic,H1,rfl,hB,hT,hP,hG,oM,jW,uU,Nk⟩:=hcut;have qA:=Hh oM;clear oM;go_upto_region 4 with fail
 go_cut [] (fun wx=>∃ (SA:Option Addr) (sc:Nat) (H2:Snap),Blk wx w.heap.size 38 (gpC a.ia il a.ic a.sa sl a.sc (nn:Int) a.ma ml a.mc)∧Blk wx (w.heap.size+1) 33 rq∧Blk wx P 33 #[.int .i64 (nn:Int),.slice IA (il+2) ic,.slice SA 16 sc,.slice none 0 0]∧Grows w H wx H2∧H1.le H2∧IsBytes H2 SA sc (tw g.secret ([101,112,111,99,104]++[ze nn 8,ze nn 0]) 16)∧H2 P=none∧H2 (w.heap.size+1)=none)
 case first =>
  replace hB:=hB.below (Below.refl _ _).drew;replace hT:=hT.below (Below.refl _ _).drew;replace hP:=hP.below (Below.refl _ _).drew;replace hG:=hG.drew
  refine zn 14 (fun wx=>wx.cell? ⟨w.heap.size,1,none⟩=some (.slice a.sa sl a.sc)∧wx.cell? ⟨w.heap.size,2,none⟩=some (.int .i64 (nn:Int))) (by kernel_rfl) (⟨hB.cell 1 rfl,hB.cell 2 rfl⟩) (fun zy=>?_)
  refine TkS 0 rfl zy ?_
  refine TkS 1 rfl zy ?_
  refine TkS 4 rfl zy ?_
  refine TkS 5 rfl zy ?_
  refine Ways.two (i:=2) (j:=6) rfl rfl (by kernel_rfl) (fun K hK=>?_) (fun K hK=>?_)
  ·go_simp
   have hL:=hG.newBlk 5 #[.int .u8 101,.int .u8 112,.int .u8 111,.int .u8 99,.int .u8 104];have KR:=hG.holds.none_of_ge (Nat.le_refl _);have XG:P+1≤_:=hP.lt
   try have rI:=rI.alloc (.cells #[.int .u8 101,.int .u8 112,.int .u8 111,.int .u8 99,.int .u8 104] 5)
   have hB:=hB.alloc (.cells #[.int .u8 101,.int .u8 112,.int .u8 111,.int .u8 99,.int .u8 104] 5);have hT:=hT.alloc (.cells #[.int .u8 101,.int .u8 112,.int .u8 111,.int .u8 99,.int .u8 104] 5);have hP:=hP.alloc (.cells #[.int .u8 101,.int .u8 112,.int .u8 111,.int .u8 99,.int .u8 104] 5);have hG:=hG.alloc (.cells #[.int .u8 101,.int .u8 112,.int .u8 111,.int .u8 99,.int .u8 104] 5)
   refine Ko hK ?_ fun zy=>?_
   ·exact⟨hB.cell 1 rfl,hB.cell 2 rfl⟩
   clear hK K
   refine Ways.two (i:=3) (j:=6) rfl rfl (by kernel_rfl) (fun K hK=>?_) (fun K hK=>?_)
   ·refine nu _ rfl _ _ _ #[.int .u8 101,.int .u8 112,.int .u8 111,.int .u8 99,.int .u8 104] rfl hL fun w3 hL3 hg3 hc3=>?_
    have hB:=hB.grown hg3 (ot (Nat.le_trans (by omega) XG));have hT:=hT.grown hg3 (ot (Nat.le_trans (by omega) XG));have hP:=hP.grown hg3 (ot XG);have hG:=hG.grownOwn KR (Nat.le_trans (by omega) XG) hg3
    try have rI:=rI.keep (fun p _=>hc3 p)
    have hL:=hL3;clear hL3 hg3 hc3
    refine Ko hK ?_ fun zy=>?_
    ·exact⟨hB.cell 1 rfl,hB.cell 2 rfl⟩
    clear hK K
    refine To 6 rfl fun K hK=>?_
    go_simp
    refine(nJ nn (by have:=rK.out;omega) _).mono ?_
    rintro e w6 ⟨r6,rfl,vu⟩
    obtain⟨RA6,rc6,rfl,ut⟩:=vu.own.form;clear ut;have rI:=vu.own.src
    try have hL:=hL.below vu.2
    have hB:=hB.below vu.2;have hT:=hT.below vu.2;have hP:=hP.below vu.2;have hG:=hG.below_ vu.2;clear vu
    refine Ko hK ?_ fun zy=>?_
    ·exact⟨hB.cell 1 rfl,hB.cell 2 rfl⟩
    clear hK K
    refine To 7 rfl fun K hK=>?_
    refine nr _ _ rfl _ 5 #[.int .u8 101,.int .u8 112,.int .u8 111,.int .u8 99,.int .u8 104] [101,112,111,99,104] rfl rfl hL rfl _ 2 _ [ze nn 8,ze nn 0] rfl rfl rI (by simp) (by simp) fun v7 w7 rO=>?_
    have hB:=hB.below rO.2;have hT:=hT.below rO.2;have hP:=hP.below rO.2;have hG:=hG.below_ rO.2;obtain⟨IA7,ic7,rfl,ut⟩:=rO.own.form;have Uj:=rO.own.src;clear ut rO rI;go_simp
    refine Ko hK ?_ fun zy=>?_
    ·exact⟨hB.cell 1 rfl,hB.cell 2 rfl⟩
    clear hK K
    refine To 8 rfl fun K hK=>?_
    go_simp
    refine(tp (prk:=g.secret) (info:=[101,112,111,99,104]++[ze nn 8,ze nn 0]) HN.out.2.1 (by have:=HG.out.small.2.1;omega) rfl (by simp) 16 (by omega) _ hG.holds (Src.of_row (HG.out.secret.mono hG.le).row hG.holds) Uj).mono ?_
    rintro e w8 ⟨SA,sc,H8,rfl,ra,cF⟩
    have jW:=ra.none jW hP.lt;have uU:=ra.none uU hT.lt;have hB:=hB.below ra.below;have hT:=hT.below ra.below;have hP:=hP.below ra.below;have hG:=hG.trans ra;have df:=ra.le;clear ra
    refine Ko hK ?_ fun zy=>?_
    ·exact⟨hB.cell 1 rfl,hB.cell 2 rfl⟩
    clear hK K
    refine TkS 9 rfl zy ?_
    refine TkS 10 rfl zy ?_
    refine TkS 11 rfl zy ?_
    refine TkS 12 rfl zy ?_
    refine To 13 rfl fun K hK=>?_
    refine yq _ _ _ rfl P 2 (.slice SA 16 sc) rfl rfl _ _ hP (by kernel_rfl) (by simp) rfl fun w13 hP13 hg13=>?_
    have hB:=hB.gr hg13 (by omega);have hT:=hT.gr hg13 (by omega);have hG:=hG.grownOwn jW (by omega) hg13;clear hg13;go_simp
    refine Ko hK ?_ fun zy=>?_
    ·exact⟨hB.cell 1 rfl,hB.cell 2 rfl⟩
    clear hK K
    refine Wd ?_
    clear zy;go_wp2_with fail
    go_meet
    exact⟨_,_,_,hB,hT,hP13,hG,df,cF,jW,uU⟩
   go_simp
   refine(nJ nn (by have:=rK.out;omega) _).mono ?_
   rintro e w6 ⟨r6,rfl,vu⟩
   obtain⟨RA6,rc6,rfl,ut⟩:=vu.own.form;clear ut;have rI:=vu.own.src
   try have hL:=hL.below vu.2
   have hB:=hB.below vu.2;have hT:=hT.below vu.2;have hP:=hP.below vu.2;have hG:=hG.below_ vu.2;clear vu
   refine Ko hK ?_ fun zy=>?_
   ·exact⟨hB.cell 1 rfl,hB.cell 2 rfl⟩
   clear hK K
   refine To 3 rfl fun K hK=>?_
   refine nu _ rfl _ _ _ #[.int .u8 101,.int .u8 112,.int .u8 111,.int .u8 99,.int .u8 104] rfl hL fun w3 hL3 hg3 hc3=>?_
   have hB:=hB.grown hg3 (ot (Nat.le_trans (by omega) XG));have hT:=hT.grown hg3 (ot (Nat.le_trans (by omega) XG));have hP:=hP.grown hg3 (ot XG);have hG:=hG.grownOwn KR (Nat.le_trans (by omega) XG) hg3
   try have rI:=rI.keep (fun p _=>hc3 p)
   have hL:=hL3;clear hL3 hg3 hc3
   refine Ko hK ?_ fun zy=>?_
   ·exact⟨hB.cell 1 rfl,hB.cell 2 rfl⟩
   clear hK K
   refine To 7 rfl fun K hK=>?_
   refine nr _ _ rfl _ 5 #[.int .u8 101,.int .u8 112,.int .u8 111,.int .u8 99,.int .u8 104] [101,112,111,99,104] rfl rfl hL rfl _ 2 _ [ze nn 8,ze nn 0] rfl rfl rI (by simp) (by simp) fun v7 w7 rO=>?_
   have hB:=hB.below rO.2;have hT:=hT.below rO.2;have hP:=hP.below rO.2;have hG:=hG.below_ rO.2;obtain⟨IA7,ic7,rfl,ut⟩:=rO.own.form;have Uj:=rO.own.src;clear ut rO rI;go_simp
   refine Ko hK ?_ fun zy=>?_
   ·exact⟨hB.cell 1 rfl,hB.cell 2 rfl⟩
   clear hK K
   refine To 8 rfl fun K hK=>?_
   go_simp
   refine(tp (prk:=g.secret) (info:=[101,112,111,99,104]++[ze nn 8,ze nn 0]) HN.out.2.1 (by have:=HG.out.small.2.1;omega) rfl (by simp) 16 (by omega) _ hG.holds (Src.of_row (HG.out.secret.mono hG.le).row hG.holds) Uj).mono ?_
   rintro e w8 ⟨SA,sc,H8,rfl,ra,cF⟩
   have jW:=ra.none jW hP.lt;have uU:=ra.none uU hT.lt;have hB:=hB.below ra.below;have hT:=hT.below ra.below;have hP:=hP.below ra.below;have hG:=hG.trans ra;have df:=ra.le;clear ra
   refine Ko hK ?_ fun zy=>?_
   ·exact⟨hB.cell 1 rfl,hB.cell 2 rfl⟩
   clear hK K
   refine TkS 9 rfl zy ?_
   refine TkS 10 rfl zy ?_
   refine TkS 11 rfl zy ?_
   refine TkS 12 rfl zy ?_
   refine To 13 rfl fun K hK=>?_
   refine yq _ _ _ rfl P 2 (.slice SA 16 sc) rfl rfl _ _ hP (by kernel_rfl) (by simp) rfl fun w13 hP13 hg13=>?_
   have hB:=hB.gr hg13 (by omega);have hT:=hT.gr hg13 (by omega);have hG:=hG.grownOwn jW (by omega) hg13;clear hg13;go_simp
   refine Ko hK ?_ fun zy=>?_
   ·exact⟨hB.cell 1 rfl,hB.cell 2 rfl⟩
   clear hK K
   refine Wd ?_
   clear zy;go_wp2_with fail
   go_meet
   exact⟨_,_,_,hB,hT,hP13,hG,df,cF,jW,uU⟩
  go_simp
  refine(nJ nn (by have:=rK.out;omega) _).mono ?_
  rintro e w6 ⟨r6,rfl,vu⟩
  obtain⟨RA6,rc6,rfl,ut⟩:=vu.own.form;clear ut;have rI:=vu.own.src
  try have hL:=hL.below vu.2
  have hB:=hB.below vu.2;have hT:=hT.below vu.2;have hP:=hP.below vu.2;have hG:=hG.below_ vu.2;clear vu
  refine Ko hK ?_ fun zy=>?_
  ·exact⟨hB.cell 1 rfl,hB.cell 2 rfl⟩
  clear hK K
  refine To 2 rfl fun K hK=>?_
  go_simp
  have hL:=hG.newBlk 5 #[.int .u8 101,.int .u8 112,.int .u8 111,.int .u8 99,.int .u8 104];have KR:=hG.holds.none_of_ge (Nat.le_refl _);have XG:P+1≤_:=hP.lt
  try have rI:=rI.alloc (.cells #[.int .u8 101,.int .u8 112,.int .u8 111,.int .u8 99,.int .u8 104] 5)
  have hB:=hB.alloc (.cells #[.int .u8 101,.int .u8 112,.int .u8 111,.int .u8 99,.int .u8 104] 5);have hT:=hT.alloc (.cells #[.int .u8 101,.int .u8 112,.int .u8 111,.int .u8 99,.int .u8 104] 5);have hP:=hP.alloc (.cells #[.int .u8 101,.int .u8 112,.int .u8 111,.int .u8 99,.int .u8 104] 5);have hG:=hG.alloc (.cells #[.int .u8 101,.int .u8 112,.int .u8 111,.int .u8 99,.int .u8 104] 5)
  refine Ko hK ?_ fun zy=>?_
  ·exact⟨hB.cell 1 rfl,hB.cell 2 rfl⟩
  clear hK K
  refine To 3 rfl fun K hK=>?_
  refine nu _ rfl _ _ _ #[.int .u8 101,.int .u8 112,.int .u8 111,.int .u8 99,.int .u8 104] rfl hL fun w3 hL3 hg3 hc3=>?_
  have hB:=hB.grown hg3 (ot (Nat.le_trans (by omega) XG));have hT:=hT.grown hg3 (ot (Nat.le_trans (by omega) XG));have hP:=hP.grown hg3 (ot XG);have hG:=hG.grownOwn KR (Nat.le_trans (by omega) XG) hg3
  try have rI:=rI.keep (fun p _=>hc3 p)
  have hL:=hL3;clear hL3 hg3 hc3
  refine Ko hK ?_ fun zy=>?_
  ·exact⟨hB.cell 1 rfl,hB.cell 2 rfl⟩
  clear hK K
  refine To 7 rfl fun K hK=>?_
  refine nr _ _ rfl _ 5 #[.int .u8 101,.int .u8 112,.int .u8 111,.int .u8 99,.int .u8 104] [101,112,111,99,104] rfl rfl hL rfl _ 2 _ [ze nn 8,ze nn 0] rfl rfl rI (by simp) (by simp) fun v7 w7 rO=>?_
  have hB:=hB.below rO.2;have hT:=hT.below rO.2;have hP:=hP.below rO.2;have hG:=hG.below_ rO.2;obtain⟨IA7,ic7,rfl,ut⟩:=rO.own.form;have Uj:=rO.own.src;clear ut rO rI;go_simp
  refine Ko hK ?_ fun zy=>?_
  ·exact⟨hB.cell 1 rfl,hB.cell 2 rfl⟩
  clear hK K
  refine To 8 rfl fun K hK=>?_
  go_simp
  refine(tp (prk:=g.secret) (info:=[101,112,111,99,104]++[ze nn 8,ze nn 0]) HN.out.2.1 (by have:=HG.out.small.2.1;omega) rfl (by simp) 16 (by omega) _ hG.holds (Src.of_row (HG.out.secret.mono hG.le).row hG.holds) Uj).mono ?_
  rintro e w8 ⟨SA,sc,H8,rfl,ra,cF⟩
  have jW:=ra.none jW hP.lt;have uU:=ra.none uU hT.lt;have hB:=hB.below ra.below;have hT:=hT.below ra.below;have hP:=hP.below ra.below;have hG:=hG.trans ra;have df:=ra.le;clear ra
  refine Ko hK ?_ fun zy=>?_
  ·exact⟨hB.cell 1 rfl,hB.cell 2 rfl⟩
  clear hK K
  refine TkS 9 rfl zy ?_
  refine TkS 10 rfl zy ?_
  refine TkS 11 rfl zy ?_
  refine TkS 12 rfl zy ?_
  refine To 13 rfl fun K hK=>?_
  refine yq _ _ _ rfl P 2 (.slice SA 16 sc) rfl rfl _ _ hP (by kernel_rfl) (by simp) rfl fun w13 hP13 hg13=>?_
  have hB:=hB.gr hg13 (by omega);have hT:=hT.gr hg13 (by omega);have hG:=hG.grownOwn jW (by omega) hg13;clear hg13;go_simp
  refine Ko hK ?_ fun zy=>?_
  ·exact⟨hB.cell 1 rfl,hB.cell 2 rfl⟩
  clear hK K
  refine Wd ?_
  clear zy;go_wp2_with fail
  go_meet
  exact⟨_,_,_,hB,hT,hP13,hG,df,cF,jW,uU⟩
 case rest =>
 clear hB hT hP hG jW uU;obtain⟨SA,sc,H2,hB,hT,hP,hG,te,nC,jW,uU⟩:=hcut;have mW:=Hh (And.intro (qA.out.mono te) nC);clear qA nC te;have hY:YS w H 38 33 33 (gpC a.ia il a.ic a.sa sl a.sc (nn:Int) a.ma ml a.mc) rq #[.int .i64 (nn:Int),.slice IA (il+2) ic,.slice SA 16 sc,.slice none 0 0] P (.slice none 0 0) [] H2 _:=⟨hG,hB,hT,hP,Nk,uU,jW,OwnX.nil ru 57 _ (P+1) H2,fun g hg=>by simp[Value.ownBlock]at hg⟩
 clear hB hT hP hG jW uU Nk;have g3:=hY.box.cell 3 rfl;have rb:=Hh hY.grows.le;go_wp2_with fail
 clear g3;have bq:Hid ((ml:Int)≤16):=by have h:=GD.out.2.2.2.2.2.1;have h2:=HN.out.2.2;rw[Hid];omega
 go_loopw [35] (fun v35 wr=>∃ j:Nat,v35=.int .i64 (j:Int)∧Hid (j≤ml)∧YEx w H 38 33 33 (gpC a.ia il a.ic a.sa sl a.sc (nn:Int) a.ma ml a.mc) rq (fun v=>#[.int .i64 (nn:Int),.slice IA (il+2) ic,.slice SA 16 sc,v]) P j H2 wr) (fun v35 _=>(ml:Int).toNat+1-(intOf v35).toNat)
 case atStart=>exact⟨0,rfl,Nat.zero_le _,_,[],Nat.zero_le _,hY⟩
 case round =>
 clear hY;obtain⟨j,rfl,HJ,v,l,NK,hY⟩:=hrel;have QQ:=Hh NK;clear NK
 by_cases yy:(j:Int)<(ml:Int)
 ·have u9:j<g.members.length:=by rw[← HN.out.2.2];omega
  obtain⟨gb,go,me,rL⟩:=HG.out.members.at_ (by omega);obtain⟨d,hd,hc⟩:=rL j u9;obtain⟨ma,hd,oN⟩:=hd;subst hd
  generalize g.members[j]=m at *
  have wM:=hY.grows.holds.mono rb.out;have r0:=wM.cell (hc 0 _ rfl);have r1:=wM.cell (hc 1 _ rfl);have r2:=wM.cell (hc 2 _ rfl);have r3:=wM.cell (hc 3 _ rfl);have r4:=wM.cell (hc 4 _ rfl);have r5:=wM.cell (hc 5 _ rfl);have r6:=wM.cell (hc 6 _ rfl)
  simp only[ru,Nat.add_zero,Nat.zero_add,← Nat.add_assoc]at r0 r1 r2 r3 r4 r5 r6
  have fH:=Hh ((oN.mono rb.out).noWrap);have hQ:=Blk.new wr 57 (xQ m ma);have Ik:=hY.grows.holds.none_of_ge (Nat.le_refl _);have Il:=hY.not_new;have Ij:=hY.base;replace hY:=hY.alloc (.cells (xQ m ma) 57);obtain⟨Q,iG⟩:∃ Q,wr.heap.size=Q:=⟨_,rfl⟩
  obtain⟨w6,pE⟩:∃ w6,wr.alloc (.cells (xQ m ma) 57)=w6:=⟨_,rfl⟩
  rw[iG,pE]at hQ;rw[pE]at hY;rw[iG]at Ik Il Ij;have lQ:=Hh (And.intro iG pE);have HQ:=Hh (And.intro Ik (And.intro Il Ij));have fE:(j:Int)+1≤9223372036854775807:=by have:=bq.out;omega
  have tR:=Hh (And.intro u9 yy);have VN:=Hh me;clear iG pE rL hc oN u9 wM Ik Il Ij;rw[me];go_upto_region 8 with fail
  try rw[lQ.out.1]
  try rw[lQ.out.2]
  clear r0 r1 r2 r3 r4 r5 r6 me lQ;go_wp2_with (with_reducible refine zx ?_)
  refine zr rfl _ _ _ rfl rfl Q 5 (.slice none 0 0) rfl rfl _ _ hQ (by kernel_rfl) (by simp) rfl fun w7 Ux hg7=>?_
  replace hY:=hY.put HQ.out.2.2 HQ.out.1 HQ.out.2.1 hg7;replace Ux:Blk w7 Q 57 (xQ (noWrap m) { ma with wa:=none,wc:=0 }):=Ux;clear hQ hg7 HQ;obtain⟨m',ST⟩:∃ m',m'=noWrap m:=⟨_,rfl⟩
  obtain⟨ma',M4⟩:∃ ma':MAd,ma'={ ma with wa:=none,wc:=0 }:=⟨_,rfl⟩
  rw[← ST,← M4]at fH Ux;clear ST M4;have q0:=Ux.cell 0 rfl;have q1:=Ux.cell 1 rfl;have q2:=Ux.cell 2 rfl;have q3:=Ux.cell 3 rfl;have q4:=Ux.cell 4 rfl;have q5:=Ux.cell 5 rfl;have q6:=Ux.cell 6 rfl;have p3:=hY.var.cell 3 rfl;obtain⟨LA,lc,rfl,ut⟩:=hY.own.form;obtain⟨ll,ir⟩:∃ n,l.length=n:=⟨_,rfl⟩
  have lP:=Hh ir;rw[ir]at hY p3 ut;clear Ux ut ir;go_wp2_with (at_builtin;refine zf ?_)
  unfold zU
  replace hY:=hY.alloc (.cells (xQ m' ma') 57)
  refine OwnX.append rfl (.tmp 41) (.tmp 43) 31 rfl Tryz.underlying31 rfl (by omega) kp rfl hY.own _ 1 _ (xQ m' ma').toList [m'] rfl rfl (RowC.one ⟨ma',rfl,fH.out⟩) (Src.new _ _ _ _ rfl _ rfl) (by have h1:=QQ.out;have h2:=bq.out;have h3:=tR.out;simp only[List.length_singleton];omega) hY.base fun v8 w8 jV hg8 hat8=>?_
  replace hY:=hY.app jV hg8 hat8;obtain⟨A8,c8,rfl,ut⟩:=jV.form;obtain⟨m8,XM⟩:∃ k,(l++[m']).length=k:=⟨_,rfl⟩
  rw[XM]at hY⊢;clear jV hg8 hat8 ut XM q0 q1 q2 q3 q4 q5 q6 p3;go_wp2_with (with_reducible refine zx ?_)
  refine zr rfl _ _ _ rfl rfl P 3 (.slice A8 m8 c8) rfl rfl _ _ hY.var (by kernel_rfl) (by simp) rfl fun w9 hP9 hg9=>?_
  replace hY:=hY.set hP9 hg9;clear hP9 hg9;go_wp2_with fail
  go_roundw
  case rel=>exact⟨j+1,by go_num,(by have:=tR.out.2;exact(show j+1≤ml by omega)),_,l++[m'],(by have:=QQ.out;rw[List.length_append,List.length_singleton];omega),(by rw[← VN.out];exact hY)⟩
  case measure=>have:=tR.out.2;simp[intOf];omega
 obtain⟨LA,lc,rfl,ut⟩:=hY.own.form;obtain⟨ll,ir⟩:∃ n,l.length=n:=⟨_,rfl⟩
 have lP:=Hh ir;rw[ir]at hY;clear ut ir;obtain⟨H9,tZ,Rh,St,Ze,VG⟩:=hY.freeze;clear St;have hT:=hY.res;have p0:=hY.var.cell 0 rfl;have p1:=hY.var.cell 1 rfl;have p2:=hY.var.cell 2 rfl;have p3:=hY.var.cell 3 rfl;clear hY;go_wp2_with (with_reducible refine zx ?_)
 refine zu rfl _ _ _ rfl rfl _ _ rfl rfl _ _ hT nV rfl (vR _ _ _ _ rfl rfl rfl rfl) fun w9 wL hg9=>?_
 have iF:=tZ.grownOwn VG (by omega) hg9;clear hT tZ hg9 p0 p1 p2 p3;go_wp2_with fail
 refine zw rfl rfl wL rfl rfl nV rfl ?_
 have HX:=mW.out
 exact⟨⟨nn,g.id++[ze nn 8,ze nn 0],tw g.secret ([101,112,111,99,104]++[ze nn 8,ze nn 0]) 16,l⟩,⟨IA,ic,SA,sc,LA,lc⟩,H9,0,by rw[epQ];simp only[List.length_append,← HN.out.1,← lP.out,wh];rfl,iF,⟨HX.1.mono Rh,HX.2.mono Rh,Ze,by have h1:=HG.out.small;have h2:=QQ.out;have h3:=HJ.out;have h4:=bq.out;exact⟨by show(g.id++[ze nn 8,ze nn 0]).length≤1099511;have:=GD.out.2.1;simp;omega,by show(tw g.secret _ 16).length≤1099511;rw[wh];omega,by show l.length≤1099511;omega⟩⟩⟩
theorem vZ:(Tryz.prog.info? 57).map (·.size)=some 7:=by kernel_rfl
def Yq (w:World) (H:Snap) (e:Ending) (w':World):Prop:=∃ g a H' A c l n,e=.returned (.tuple #[.agg (gpQ g a),.slice A l.length c,.int .i64 n])∧Grows w H w' H'∧GpA H' g a∧IsBytes H' A c l
def PX:Value→Nat
 | .bool true=>1
 | _=>0
structure AS (W0:World) (gc mc:Array Value) (w:World):Prop where
 below:Below W0.heap.size W0 w
 grp:Blk w W0.heap.size 38 gc
 mem:Blk w (W0.heap.size+1) 57 mc
 res:Blk w (W0.heap.size+2) 38 xN
section
variable {W0 w w':World} {gc mc:Array Value}
theorem AS.belowX (h:AS W0 gc mc w) (k:Below w.heap.size w w'):AS W0 gc mc w':=⟨h.below.trans (k.mono h.below.size),h.grp.below k,h.mem.below k,h.res.below k⟩
theorem AS.alloc (h:AS W0 gc mc w) (o:Obj):AS W0 gc mc (w.alloc o):=h.belowX (zl w o)
end
structure DS (W0:World) (H:Snap) (mc pc:Array Value) (P:Nat) (v:Value) (l:List Mb) (Hr:Snap) (w:World):Prop where
 grows:Grows W0 H w Hr
 mem:Blk w (W0.heap.size+1) 57 mc
 res:Blk w (W0.heap.size+2) 38 xN
 var:Blk w P 38 pc
 far:W0.heap.size+3≤P
 hM:Hr (W0.heap.size+1)=none
 hT:Hr (W0.heap.size+2)=none
 hP:Hr P=none
 own:OwnX ru 57 w (W0.heap.size+3) v Hr l
 ne:v.ownBlock≠some P
 apart:∀ g,v.ownBlock=some g→Hr g=none
section
variable {W0 w w':World} {H Hr Hs:Snap} {mc mc' pc pc':Array Value} {P:Nat} {v v':Value} {l l':List Mb}
theorem DS.grow (h:DS W0 H mc pc P v l Hr w) (k:Grows w Hr w' Hs):DS W0 H mc pc P v l Hs w' :=
 ⟨h.grows.trans k,h.mem.below k.below,h.res.below k.below,h.var.below k.below,h.far,k.none h.hM h.mem.lt,k.none h.hT h.res.lt,k.none h.hP h.var.lt,(h.own.below k.below).mono k.le,h.ne,fun g hg=>k.none (h.apart g hg) (h.own.lt g hg).2⟩
theorem DS.belowX (h:DS W0 H mc pc P v l Hr w) (k:Below w.heap.size w w'):DS W0 H mc pc P v l Hr w':=h.grow (Grows.of_below h.grows.holds k)
theorem DS.alloc (h:DS W0 H mc pc P v l Hr w) (o:Obj):DS W0 H mc pc P v l Hr (w.alloc o):=h.belowX (zl w o)
theorem DS.drew (h:DS W0 H mc pc P v l Hr w):DS W0 H mc pc P v l Hr w.drew:=h.belowX (Below.refl _ _).drew
theorem DS.setM (h:DS W0 H mc pc P v l Hr w) (hB:Blk w' (W0.heap.size+1) 57 mc') (hg:w.grownBy w' (some (W0.heap.size+1))):DS W0 H mc' pc P v l Hr w' :=
 ⟨h.grows.grownOwn h.hM (by omega) hg,hB,h.res.gr hg (by omega),h.var.grown hg (by intro e;injection e with e;have:=h.far;omega),h.far,h.hM,h.hT,h.hP,h.own.kept hg (.inr (by intro e;have:=(h.own.lt _ e).1;omega)),h.ne,h.apart⟩
theorem DS.setP (h:DS W0 H mc pc P v l Hr w) (hB:Blk w' P 38 pc') (hg:w.grownBy w' (some P)):DS W0 H mc pc' P v l Hr w' :=
 ⟨h.grows.grownOwn h.hP (by have:=h.far;omega) hg,h.mem.grown hg (by intro e;injection e with e;have:=h.far;omega),h.res.grown hg (by intro e;injection e with e;have:=h.far;omega),hB,h.far,h.hM,h.hT,h.hP,h.own.kept hg (.inr h.ne),h.ne,h.apart⟩
theorem DS.app (h:DS W0 H mc pc P v l Hr w) (hO:OwnX ru 57 w' (W0.heap.size+3) v' Hr l') (hg:w.grownBy w' v.ownBlock) (ha:At0 w v.ownBlock v'.ownBlock):DS W0 H mc pc P v' l' Hr w' :=
 ⟨h.grows.grownRow h.apart (fun g hg=>by have:=(h.own.lt g hg).1;omega) hg,h.mem.grown hg (fun e=>by have:=(h.own.lt _ e).1;omega),h.res.grown hg (fun e=>by have:=(h.own.lt _ e).1;omega),h.var.grown hg h.ne,h.far,h.hM,h.hT,h.hP,hO,by
  rcases ha with e | ⟨g',e,hs⟩
  ·rw[e];exact h.ne
  ·rw[e]
   intro e2
   injection e2 with e2
   have:=h.var.lt
   omega,fun g hv=>by
  rcases ha with e | ⟨g',e,hs⟩
  ·exact h.apart g (by rw[← e,hv])
  rw[hv]at e;injection e with e
  subst e
  exact h.grows.hidden hs⟩
theorem DS.base (h:DS W0 H mc pc P v l Hr w):W0.heap.size+3≤w.heap.size:=h.res.lt
theorem DS.freeze {A:Option Addr}{m c:Nat}(h:DS W0 H mc pc P (.slice A m c) l Hr w):∃ H',Grows W0 H w H'∧Hr.le H'∧m=l.length∧IsRow ru H' A c l∧H' (W0.heap.size+2)=none:=by
 obtain⟨H',hl,hh,hf,hn,hi⟩:=h.own.snap h.grows.holds (fun g hg=>h.apart g (by cases A <;> simp_all [Value.ownBlock]))
 refine⟨H',⟨h.grows.below,h.grows.le.trans hl,hh,fun b o hb=>?_⟩,hl,hn,hi, ?_⟩
 ·rcases hf b o hb with h1 | h1
  ·exact h.grows.fresh b o h1
  exact .inr (by have:=(h.own.lt b (by cases A <;> simp_all [Value.ownBlock])).1;omega)
 cases hz:H' (W0.heap.size+2) with
 | none=>rfl
 | some o =>
 rcases hf _ o hz with h1 | h1
 ·rw[h.hT]at h1;cases h1
 have:=(h.own.lt (W0.heap.size+2) (by cases A <;> simp_all [Value.ownBlock])).1
 omega
end
theorem RB (k:Nat):(#[.int .u8 ((k:Int)%256)]:Array Value).toList=[ze k 0].map zg:=by
 simp only[List.map_cons,List.map_nil]
 rw[z7 k 0 1 rfl,Int.ediv_one]
theorem sY {H:Snap}(hS:qj H) {g:Gp}{a:EAd}(hg:GpA H g a) {m:Mb}{b:MAd}(hm:MemA H m b) (w:World) (hH:Holds w H) :
  Calls Tryz.prog 24 #[.agg (gpQ g a),.agg (xQ m b)] w (Yq w H):=by
 have V:Hid (∀ wx,Holds wx H→Calls Tryz.prog 18 #[.agg (gpC a.ia g.id.length a.ic a.sa g.secret.length a.sc g.number a.ma g.members.length a.mc)] wx (qQ wx g)):=fun wx hx=>sZ hS hg wx hx
 have C:Hid (∀ wx,Holds wx H→Calls Tryz.prog 52 #[.agg (gpC a.ia g.id.length a.ic a.sa g.secret.length a.sc g.number a.ma g.members.length a.mc)] wx (nv wx H g a)):=fun wx hx=>mC hg wx hx
 have SD:Hid (∀ wx,Holds wx H→Calls Tryz.prog 48 #[.agg (tO m.name m.roles m.since b.sa m.sender.length b.sc b.ca m.cred.length b.cc b.ha m.share.length b.hc b.wa m.wrap.length b.wc)] wx fun e w'=>∃ b,e=.returned (.bool b)∧Below wx.heap.size wx w'):=fun wx hx=>hS m b wx hm hx
 have HG:=Hh hg;have HM:=Hh hm;have HH:=Hh hH;obtain⟨il,rC⟩:∃ n,n=g.id.length:=⟨_,rfl⟩
 obtain⟨sl,sP⟩:∃ n,n=g.secret.length:=⟨_,rfl⟩
 obtain⟨ml,rS⟩:∃ n,n=g.members.length:=⟨_,rfl⟩
 obtain⟨ls,Nw⟩:∃ n,n=m.sender.length:=⟨_,rfl⟩
 obtain⟨lc,Q1⟩:∃ n,n=m.cred.length:=⟨_,rfl⟩
 obtain⟨lh,Q2⟩:∃ n,n=m.share.length:=⟨_,rfl⟩
 obtain⟨lw,pk⟩:∃ n,n=m.wrap.length:=⟨_,rfl⟩
 have HN:=Hh (And.intro rC (And.intro sP rS));have HL:=Hh (And.intro Nw (And.intro Q1 (And.intro Q2 pk)));show Calls Tryz.prog 24 #[.agg (gpC a.ia g.id.length a.ic a.sa g.secret.length a.sc g.number a.ma g.members.length a.mc),.agg (tO m.name m.roles m.since b.sa m.sender.length b.sc b.ca m.cred.length b.cc b.ha m.share.length b.hc b.wa m.wrap.length b.wc)] w (Yq w H)
 rw[← rC,← sP,← rS]at V C⊢;rw[← Nw,← Q1,← Q2,← pk]at SD⊢
 have hA:AS w (gpC a.ia il a.ic a.sa sl a.sc g.number a.ma ml a.mc) (tO m.name m.roles m.since b.sa ls b.sc b.ca lc b.cc b.ha lh b.hc b.wa lw b.wc) (((w.alloc (.cells (gpC a.ia il a.ic a.sa sl a.sc g.number a.ma ml a.mc) 38)).alloc (.cells (tO m.name m.roles m.since b.sa ls b.sc b.ca lc b.cc b.ha lh b.hc b.wa lw b.wc) 57)).alloc (.cells xN 38)):=by
  have h1:=((Blk.new w 38 (gpC a.ia il a.ic a.sa sl a.sc g.number a.ma ml a.mc)).alloc (.cells (tO m.name m.roles m.since b.sa ls b.sc b.ca lc b.cc b.ha lh b.hc b.wa lw b.wc) 57)).alloc (.cells xN 38);have h2:=(Blk.new (w.alloc (.cells (gpC a.ia il a.ic a.sa sl a.sc g.number a.ma ml a.mc) 38)) 57 (tO m.name m.roles m.since b.sa ls b.sc b.ca lc b.cc b.ha lh b.hc b.wa lw b.wc)).alloc (.cells xN 38);have h3:=Blk.new ((w.alloc (.cells (gpC a.ia il a.ic a.sa sl a.sc g.number a.ma ml a.mc) 38)).alloc (.cells (tO m.name m.roles m.since b.sa ls b.sc b.ca lc b.cc b.ha lh b.hc b.wa lw b.wc) 57)) 38 xN;rw[zW]at h2;rw[zW,zW]at h3;have zP:=zl w (.cells (gpC a.ia il a.ic a.sa sl a.sc g.number a.ma ml a.mc) 38);have yz:=zP.alloc zP.size (.cells (tO m.name m.roles m.since b.sa ls b.sc b.ca lc b.cc b.ha lh b.hc b.wa lw b.wc) 57)
  exact⟨yz.alloc yz.size (.cells xN 38),h1,h2,h3⟩
 have BAD:Hid (∀ (wx:World) (n:Int),Below w.heap.size w wx→Yq w H (.returned (.tuple #[.agg xN,.slice none 0 0,.int .i64 n])) wx):=fun wx n h2=>⟨⟨[],[],0,[]⟩,⟨none,0,none,0,none,0⟩,H,none,0,[],n,rfl,Grows.of_below HH.out h2,dO H,IsBytes.nil _⟩
 clear rC sP rS Nw Q1 Q2 pk hg hm hH hS;go_enter Tryz.func24,Tryz.ntmps24
 go_upto_region 1 with fail
 generalize ((w.alloc (.cells (gpC a.ia il a.ic a.sa sl a.sc g.number a.ma ml a.mc) 38)).alloc (.cells (tO m.name m.roles m.since b.sa ls b.sc b.ca lc b.cc b.ha lh b.hc b.wa lw b.wc) 57)).alloc (.cells xN 38)=w1 at hA⊢
 have g0:=hA.grp.cell 0 rfl;have g1:=hA.grp.cell 1 rfl;have g2:=hA.grp.cell 2 rfl;have g3:=hA.grp.cell 3 rfl;go_wp2_with fail
 refine(V.out _ (HH.out.below hA.below (Nat.le_refl _))).mono ?_
 rintro e w2 ⟨b2,rfl,oX,yz⟩
 replace hA:=hA.belowX yz;have HA:=Hh oX;clear yz oX V g0 g1 g2 g3
 cases b2 with
 | false =>
  go_wp2_with (with_reducible refine zx ?_)
  refine zu rfl _ _ _ rfl rfl _ _ rfl rfl _ _ hA.res zZ rfl (vR _ _ _ _ rfl rfl rfl rfl) fun w9 wL hg9=>?_
  have uN:=hA.below.grown hg9 hA.below.size (by rintro q ⟨⟩;omega);clear hA hg9;go_wp2_with fail
  exact xH rfl rfl wL rfl rfl zZ rfl (BAD.out _ _ uN)
 | true =>
 have GD:=Hh (HA.out rfl);clear HA
 simp only[Bool.not_true]
 have m0:=hA.mem.cell 0 rfl;have m1:=hA.mem.cell 1 rfl;have m2:=hA.mem.cell 2 rfl;have m3:=hA.mem.cell 3 rfl;have m4:=hA.mem.cell 4 rfl;have m5:=hA.mem.cell 5 rfl;have m6:=hA.mem.cell 6 rfl;go_wp2_with fail
 refine(SD.out _ (HH.out.below hA.below (Nat.le_refl _))).mono ?_
 rintro e w3 ⟨b3,rfl,vg⟩
 replace hA:=hA.belowX vg;clear vg m0 m1 m2 m3 m4 m5 m6 SD
 cases b3 with
 | false =>
  go_wp2_with (with_reducible refine zx ?_)
  refine zu rfl _ _ _ rfl rfl _ _ rfl rfl _ _ hA.res zZ rfl (vR _ _ _ _ rfl rfl rfl rfl) fun w9 wL hg9=>?_
  have uN:=hA.below.grown hg9 hA.below.size (by rintro q ⟨⟩;omega);clear hA hg9;go_wp2_with fail
  exact xH rfl rfl wL rfl rfl zZ rfl (BAD.out _ _ uN)
 | true =>
 simp only[Bool.not_true]
 have m5:=hA.mem.cell 5 rfl
 by_cases c16:lw=16
 case neg =>
  have e1:((lw:Int)=16)=False:=eq_false (by omega);have e2:((lw:Int)==16)=false:=beq_eq_false_iff_ne.2 (by omega);have e3:((lw:Int) != 16)=true:=by rw[bne,e2];rfl
  clear c16;go_wp2_with (with_reducible refine zx ?_)
  refine zu rfl _ _ _ rfl rfl _ _ rfl rfl _ _ hA.res zZ rfl (vR _ _ _ _ rfl rfl rfl rfl) fun w9 wL hg9=>?_
  have uN:=hA.below.grown hg9 hA.below.size (by rintro q ⟨⟩;omega);clear hA hg9;go_wp2_with fail
  exact xH rfl rfl wL rfl rfl zZ rfl (BAD.out _ _ uN)
 have e1:((lw:Int)=16)=True:=eq_true (by omega);have e2:((lw:Int)==16)=true:=beq_iff_eq.2 (by omega);have e3:((lw:Int) != 16)=false:=by rw[bne,e2];rfl
 clear c16;go_upto_region 3 with fail
 clear e1 e2 e3 m5;have g3:=hA.grp.cell 3 rfl;go_wp2_with fail
 clear g3;have bq:Hid ((ml:Int)≤16):=by have h:=GD.out.2.2.2.2.2.1;have h2:=HN.out.2.2;rw[Hid];omega
 go_loopw [32] (fun v32 wr=>∃ j:Nat,v32=.int .i64 (j:Int)∧Hid (j≤ml)∧AS w (gpC a.ia il a.ic a.sa sl a.sc g.number a.ma ml a.mc) (tO m.name m.roles m.since b.sa ls b.sc b.ca lc b.cc b.ha lh b.hc b.wa lw b.wc) wr) (fun v32 _=>(ml:Int).toNat+1-(intOf v32).toNat)
 case atStart=>exact⟨0,rfl,Nat.zero_le _,hA⟩
 case round =>
 clear hA;obtain⟨j,rfl,HJ,hA⟩:=hrel
 by_cases yy:(j:Int)<(ml:Int)
 ·have u9:j<g.members.length:=by rw[← HN.out.2.2];omega
  obtain⟨gb,go,me,rL⟩:=HG.out.members.at_ (by omega);obtain⟨d,hd,hc⟩:=rL j u9;obtain⟨xa,hd,oN⟩:=hd;subst hd
  generalize g.members[j]=x at *
  have wM:=HH.out.below hA.below (Nat.le_refl _);have r0:=wM.cell (hc 0 _ rfl);have r1:=wM.cell (hc 1 _ rfl);have r2:=wM.cell (hc 2 _ rfl);have r3:=wM.cell (hc 3 _ rfl);have r4:=wM.cell (hc 4 _ rfl);have r5:=wM.cell (hc 5 _ rfl);have r6:=wM.cell (hc 6 _ rfl)
  simp only[ru,Nat.add_zero,Nat.zero_add,← Nat.add_assoc]at r0 r1 r2 r3 r4 r5 r6
  have fH:=Hh oN;have hQ:=Blk.new wr 57 (xQ x xa);replace hA:=hA.alloc (.cells (xQ x xa) 57);obtain⟨Q,iG⟩:∃ Q,wr.heap.size=Q:=⟨_,rfl⟩
  obtain⟨w6,pE⟩:∃ w6,wr.alloc (.cells (xQ x xa) 57)=w6:=⟨_,rfl⟩
  rw[iG,pE]at hQ;rw[pE]at hA;have lQ:=Hh (And.intro iG pE);have fE:(j:Int)+1≤9223372036854775807:=by have:=bq.out;omega
  have tR:=Hh (And.intro u9 yy);have VN:=Hh me;clear iG pE rL hc oN u9 wM;rw[me];go_upto_region 6 with fail
  try rw[lQ.out.1]
  try rw[lQ.out.2]
  clear r0 r1 r2 r3 r4 r5 r6 me lQ;have q0:=hQ.cell 0 rfl;have m0:=hA.mem.cell 0 rfl
  by_cases ZY:x.name=m.name
  ·have f1:(x.name=m.name)=True:=eq_true ZY;obtain⟨f2,f3⟩:=ke ZY;clear ZY hQ;go_wp2_with (with_reducible refine zx ?_)
   refine zu rfl _ _ _ rfl rfl _ _ rfl rfl _ _ hA.res zZ rfl (vR _ _ _ _ rfl rfl rfl rfl) fun w9 wL hg9=>?_
   have uN:=hA.below.grown hg9 hA.below.size (by rintro q ⟨⟩;omega);clear hA hg9;go_wp2_with fail
   exact xH rfl rfl wL rfl rfl zZ rfl (BAD.out _ _ uN)
  have f1:(x.name=m.name)=False:=eq_false ZY;obtain⟨f2,f3⟩:=kf ZY;clear ZY;have q3:w6.cell? ⟨Q,3,none⟩=some (.slice xa.ca x.cred.length xa.cc):=hQ.cell 3 rfl;have m3:=hA.mem.cell 3 rfl;obtain⟨xc,Ja⟩:∃ n,n=x.cred.length:=⟨_,rfl⟩
  obtain⟨xw,fW⟩:∃ n,n=x.wrap.length:=⟨_,rfl⟩
  have E1:=Hh (fun wx (hx:Holds wx H)=>nK wx xa.ca b.ca x.cred m.cred xc lc xa.cc b.cc Ja HL.out.2.1 (by have:=fH.out.small;omega) (by have h1:=HM.out.small;have h2:=HL.out.2.1;omega) (Src.of_row fH.out.cred.row hx) (Src.of_row HM.out.cred.row hx));have E2:=Hh (fun wx (hx:Holds wx H)=>nK wx xa.wa b.wa x.wrap m.wrap xw lw xa.wc b.wc fW HL.out.2.2.2 (by have:=fH.out.small;omega) (by have h1:=HM.out.small;have h2:=HL.out.2.2.2;omega) (Src.of_row fH.out.wrap.row hx) (Src.of_row HM.out.wrap.row hx));rw[← Ja]at q3;clear Ja;go_wp2_with fail
  refine(E1.out _ (HH.out.below hA.below (Nat.le_refl _))).mono ?_
  rintro e w7 ⟨rfl,xU⟩
  replace hA:=hA.belowX xU;replace hQ:=hQ.below xU;clear xU q0 q3 m0 m3 E1 f1 f2 f3
  cases h1:decide (x.cred=m.cred) with
  | true =>
   clear hQ h1;go_wp2_with (with_reducible refine zx ?_)
   refine zu rfl _ _ _ rfl rfl _ _ rfl rfl _ _ hA.res zZ rfl (vR _ _ _ _ rfl rfl rfl rfl) fun w9 wL hg9=>?_
   have uN:=hA.below.grown hg9 hA.below.size (by rintro q ⟨⟩;omega);clear hA hg9;go_wp2_with fail
   exact xH rfl rfl wL rfl rfl zZ rfl (BAD.out _ _ uN)
  | false =>
  clear h1;have q5:w7.cell? ⟨Q,5,none⟩=some (.slice xa.wa x.wrap.length xa.wc):=hQ.cell 5 rfl;rw[← fW]at q5;have m5:=hA.mem.cell 5 rfl;clear hQ fW;go_wp2_with fail
  refine(E2.out _ (HH.out.below hA.below (Nat.le_refl _))).mono ?_
  rintro e w8 ⟨rfl,pj⟩
  replace hA:=hA.belowX pj;clear pj q5 m5 E2
  cases h2:decide (x.wrap=m.wrap) with
  | true =>
   clear h2;go_wp2_with (with_reducible refine zx ?_)
   refine zu rfl _ _ _ rfl rfl _ _ rfl rfl _ _ hA.res zZ rfl (vR _ _ _ _ rfl rfl rfl rfl) fun w9 wL hg9=>?_
   have uN:=hA.below.grown hg9 hA.below.size (by rintro q ⟨⟩;omega);clear hA hg9;go_wp2_with fail
   exact xH rfl rfl wL rfl rfl zZ rfl (BAD.out _ _ uN)
  | false =>
  clear h2;go_wp2_with fail
  go_roundw
  case rel=>exact⟨j+1,by go_num,(by have:=tR.out.2;exact(show j+1≤ml by omega)),(by rw[← VN.out];exact hA)⟩
  case measure=>have:=tR.out.2;simp[intOf];omega
 have g3:=hA.grp.cell 3 rfl
 by_cases tH:ml=16
 ·have e1:((ml:Int)=16)=True:=eq_true (by omega);have e2:((ml:Int)==16)=true:=beq_iff_eq.2 (by omega);clear tH;go_wp2_with (with_reducible refine zx ?_)
  refine zu rfl _ _ _ rfl rfl _ _ rfl rfl _ _ hA.res zZ rfl (vR _ _ _ _ rfl rfl rfl rfl) fun w9 wL hg9=>?_
  have uN:=hA.below.grown hg9 hA.below.size (by rintro q ⟨⟩;omega);clear hA hg9;go_wp2_with fail
  exact xH rfl rfl wL rfl rfl zZ rfl (BAD.out _ _ uN)
 have e1:((ml:Int)=16)=False:=eq_false (by omega);have e2:((ml:Int)==16)=false:=beq_eq_false_iff_ne.2 (by omega);have g2:=hA.grp.cell 2 rfl;clear tH
 by_cases hx:g.number=65535
 ·have e3:(g.number=65535)=True:=eq_true hx;have e4:(g.number==65535)=true:=beq_iff_eq.2 hx;clear hx;go_wp2_with (with_reducible refine zx ?_)
  refine zu rfl _ _ _ rfl rfl _ _ rfl rfl _ _ hA.res zZ rfl (vR _ _ _ _ rfl rfl rfl rfl) fun w9 wL hg9=>?_
  have uN:=hA.below.grown hg9 hA.below.size (by rintro q ⟨⟩;omega);clear hA hg9;go_wp2_with fail
  exact xH rfl rfl wL rfl rfl zZ rfl (BAD.out _ _ uN)
 have e3:(g.number=65535)=False:=eq_false hx;have e4:(g.number==65535)=false:=beq_eq_false_iff_ne.2 hx;clear hx;go_upto_region 13 with fail
 clear g2 g3 e1 e2 e3 e4 yy;go_wp2_with fail
 go_loopw [9,10] (fun v9 v10 wr=>∃ (k:Nat) (u:Bool),v9=.int .i64 (k:Int)∧v10=.bool u∧Hid (k≤256)∧AS w (gpC a.ia il a.ic a.sa sl a.sc g.number a.ma ml a.mc) (tO m.name m.roles m.since b.sa ls b.sc b.ca lc b.cc b.ha lh b.hc b.wa lw b.wc) wr) (fun v9 v10 _=>300-(intOf v9).toNat+PX v10)
 case atStart=>exact⟨0,true,rfl,rfl,Nat.zero_le _,hA⟩
 case round =>
 clear hA;obtain⟨k,u,rfl,rfl,CO,hA⟩:=hrel
 cases u with
 | true =>
  have g3:=hA.grp.cell 3 rfl;go_upto_region 16 with fail
  go_wp2_with fail
  clear g3;obtain⟨W0,N6⟩:∃ W,W=wr:=⟨_,rfl⟩
  subst N6;go_loopw [10,70] (fun v10 v70 wx=>∃ (j:Nat) (u:Bool),v10=.bool u∧v70=.int .i64 (j:Int)∧Hid (j≤ml)∧Hid (u=true→k≤255)∧AS w (gpC a.ia il a.ic a.sa sl a.sc g.number a.ma ml a.mc) (tO m.name m.roles m.since b.sa ls b.sc b.ca lc b.cc b.ha lh b.hc b.wa lw b.wc) wx) (fun _ v70 _=>(ml:Int).toNat+1-(intOf v70).toNat)
  case atStart=>exact⟨0,false,rfl,rfl,Nat.zero_le _,(fun h=>by cases h),hA⟩
  case round =>
  clear hA;obtain⟨j,u,rfl,rfl,HJ,HU,hA⟩:=hrel
  by_cases yy:(j:Int)<(ml:Int)
  ·have u9:j<g.members.length:=by rw[← HN.out.2.2];omega
   obtain⟨gb,go,me,rL⟩:=HG.out.members.at_ (by omega);obtain⟨d,hd,hc⟩:=rL j u9;obtain⟨xa,hd,oN⟩:=hd;subst hd;have ug:g.members[j].sender.length=1:=GD.out.2.2.2.2.2.2 _ (List.getElem_mem u9)
   generalize g.members[j]=x at *
   have wM:=HH.out.below hA.below (Nat.le_refl _);have r0:=wM.cell (hc 0 _ rfl);have r1:=wM.cell (hc 1 _ rfl);have r2:=wM.cell (hc 2 _ rfl);have r3:=wM.cell (hc 3 _ rfl);have r4:=wM.cell (hc 4 _ rfl);have r5:=wM.cell (hc 5 _ rfl);have r6:=wM.cell (hc 6 _ rfl)
   simp only[ru,Nat.add_zero,Nat.zero_add,← Nat.add_assoc]at r0 r1 r2 r3 r4 r5 r6
   obtain⟨xb,xo,NU,hx⟩:=oN.sender.at_ (by omega);have x0:=wM.cell (hx 0 (by omega))
   generalize x.sender[0]=xv at *
   simp only[Nat.add_zero]at x0
   obtain⟨sn,iN⟩:∃ n,x.sender.length=n:=⟨_,rfl⟩
   rw[iN]at ug r1;rw[NU]at r1;obtain⟨w6,pE⟩:∃ w6,wr.alloc (.cells (tO x.name x.roles x.since (some ⟨xb,xo,none⟩) sn xa.sc xa.ca x.cred.length xa.cc xa.ha x.share.length xa.hc xa.wa x.wrap.length xa.wc) 57)=w6:=⟨_,rfl⟩
   have hQ:=Blk.new wr 57 (tO x.name x.roles x.since (some ⟨xb,xo,none⟩) sn xa.sc xa.ca x.cred.length xa.cc xa.ha x.share.length xa.hc xa.wa x.wrap.length xa.wc);have x0:=yr x0 (zl wr (.cells (tO x.name x.roles x.since (some ⟨xb,xo,none⟩) sn xa.sc xa.ca x.cred.length xa.cc xa.ha x.share.length xa.hc xa.wa x.wrap.length xa.wc) 57));replace hA:=hA.alloc (.cells (tO x.name x.roles x.since (some ⟨xb,xo,none⟩) sn xa.sc xa.ca x.cred.length xa.cc xa.ha x.share.length xa.hc xa.wa x.wrap.length xa.wc) 57);obtain⟨Q,iG⟩:∃ Q,wr.heap.size=Q:=⟨_,rfl⟩
   rw[iG,pE]at hQ;rw[pE]at hA x0;have lQ:=Hh (And.intro iG pE);have fE:(j:Int)+1≤9223372036854775807:=by have:=bq.out;omega
   have tR:=Hh (And.intro u9 yy);have VN:=Hh me;have g1:(0:Int)<(sn:Int):=by omega
   clear iG pE rL hc oN u9 wM hx NU iN ug;rw[me];go_upto_region 19 with fail
   try rw[lQ.out.1]
   try rw[lQ.out.2]
   clear r0 r1 r2 r3 r4 r5 r6 me lQ;have q1:=hQ.cell 1 rfl
   cases u with
   | true =>
    clear hQ q1;go_wp2_with fail
    go_roundw
    case rel=>exact⟨j+1,true,rfl,by go_num,(by have:=tR.out.2;exact(show j+1≤ml by omega)),HU,(by rw[← VN.out];exact hA)⟩
    case measure=>have:=tR.out.2;simp[intOf];omega
   | false =>
   clear hQ;have Jc:(xv.toNat:Int)≤255:=by have:=xv.toNat_lt;omega
   have IJ:=Hh Jc;have kw:IntKind.i64.wrap (xv.toNat:Int)=(xv.toNat:Int):=IntWalk.i64_in _ (by omega)
   by_cases hb:(xv.toNat:Int)=(k:Int)
   ·have e1:((xv.toNat:Int)=(k:Int))=True:=eq_true hb;have e2:((xv.toNat:Int)==(k:Int))=true:=beq_iff_eq.2 hb;have Ma:Hid (k≤255):=by rw[Hid];omega
    clear hb Jc;go_wp2_with fail
    go_roundw
    case rel=>exact⟨j+1,true,rfl,by go_num,(by have:=tR.out.2;exact(show j+1≤ml by omega)),(fun _=>Ma.out),(by rw[← VN.out];exact hA)⟩
    case measure=>have:=tR.out.2;simp[intOf];omega
   have e1:((xv.toNat:Int)=(k:Int))=False:=eq_false hb;have e2:((xv.toNat:Int)==(k:Int))=false:=beq_eq_false_iff_ne.2 hb;clear hb Jc;go_wp2_with fail
   go_roundw
   case rel=>exact⟨j+1,false,rfl,by go_num,(by have:=tR.out.2;exact(show j+1≤ml by omega)),(fun h=>by cases h),(by rw[← VN.out];exact hA)⟩
   case measure=>have:=tR.out.2;simp[intOf];omega
  cases u with
  | true =>
   have Ma:=Hh (HU.out rfl);have kw:IntKind.i64.wrap ((k:Int)+1)=(k:Int)+1:=IntWalk.i64_in _ (by have:=Ma.out;omega);go_wp2_with fail
   go_roundw
   case rel=>exact⟨k+1,true,by go_num,rfl,(by have:=Ma.out;exact(show k+1≤256 by omega)),hA⟩
   case measure=>have:=Ma.out;simp[intOf,PX];omega
  | false =>
  go_wp2_with fail
  go_roundw
  case rel=>exact⟨k,false,rfl,rfl,CO,hA⟩
  case measure=>simp[intOf,PX]
 | false =>
 have Xu:=RB k;have Jh:=Hh Xu;clear Xu;have g0:=hA.grp.cell 0 rfl;have g1:=hA.grp.cell 1 rfl;have g2:=hA.grp.cell 2 rfl;have g3:=hA.grp.cell 3 rfl;go_upto_region 23 with fail
 go_wp2_with fail
 refine(C.out _ (HH.out.below hA.below (Nat.le_refl _))).mono ?_
 rintro e w3 ⟨v,rfl,qC,vg⟩
 obtain⟨VA,vc,rfl,ut⟩:=qC.form;have hO:=qC.more (base':=w.heap.size+3) hA.res.lt;replace hA:=hA.belowX vg;rw[← HN.out.1,← HN.out.2.1,← HN.out.2.2];rw[← HN.out.2.2]at hO;clear ut qC vg g0 g1 g2 g3 C
 have hD:DS w H (tO m.name m.roles m.since b.sa ls b.sc b.ca lc b.cc b.ha lh b.hc b.wa lw b.wc) (gpC a.ia il a.ic a.sa sl a.sc g.number VA ml vc) w3.heap.size (.slice VA ml vc) g.members H (w3.alloc (.cells (gpC a.ia il a.ic a.sa sl a.sc g.number VA ml vc) 38)) :=
  ⟨(Grows.of_below HH.out hA.below).alloc _,hA.mem.alloc _,hA.res.alloc _,Blk.new _ _ _,hA.res.lt,HH.out.none_of_ge (by omega),HH.out.none_of_ge (by omega),HH.out.none_of_ge hA.below.size,hO.alloc _,fun e=>by have:=(hO.lt _ e).2;omega,fun g hg=>HH.out.none_of_ge (by have:=(hO.lt g hg).1;omega)⟩
 obtain⟨P,oS⟩:∃ P,w3.heap.size=P:=⟨_,rfl⟩
 obtain⟨w4,fU⟩:∃ w4,w3.alloc (.cells (gpC a.ia il a.ic a.sa sl a.sc g.number VA ml vc) 38)=w4:=⟨_,rfl⟩
 rw[oS,fU]at hD;have HW:=Hh (And.intro oS fU);have kw:IntKind.i64.wrap (g.number+1)=g.number+1:=IntWalk.i64_in _ (by have h1:=GD.out.2.2.2.1;have h2:=GD.out.2.2.2.2.1;omega);clear oS fU hA hO;go_upto_region 24 with fail
 try rw[HW.out.1]
 try rw[HW.out.2]
 clear HW;have p2:=hD.var.cell 2 rfl;go_wp2_with (with_reducible refine zx ?_)
 refine zr rfl _ _ _ rfl rfl P 2 (.int .i64 (g.number+1)) rfl rfl _ _ hD.var (by kernel_rfl) (by simp) rfl fun w5 cC yg=>?_
 replace hD:=hD.setP (pc':=gpC a.ia il a.ic a.sa sl a.sc (g.number+1) VA ml vc) cC yg;clear p2 cC yg kw;obtain⟨num,PM⟩:∃ num,g.number+1=num:=⟨_,rfl⟩
 rw[PM]at hD⊢;have GM:Hid (-9223372036854775808≤num∧num≤9223372036854775807):=by have h1:=GD.out.2.2.2.1;have h2:=GD.out.2.2.2.2.1;rw[Hid];omega
 clear PM;go_upto_region 25 with fail
 go_cut [] (fun wx=>∃ (L:Nat) (H1:Snap),DS w H (tO m.name m.roles num (some ⟨L,0,none⟩) 1 1 b.ca lc b.cc b.ha lh b.hc b.wa lw b.wc) (gpC a.ia il a.ic a.sa sl a.sc num VA ml vc) P (.slice VA ml vc) g.members H1 wx∧IsBytes H1 (some ⟨L,0,none⟩) 1 [ze k 0])
 case first =>
  replace hD:=hD.drew
  refine zn 9 (fun wx=>wx.cell? ⟨P,2,none⟩=some (.int .i64 num)) (by kernel_rfl) (hD.var.cell 2 rfl) (fun zy=>?_)
  refine TkS 0 rfl zy ?_
  refine TkS 1 rfl zy ?_
  refine TkS 3 rfl zy ?_
  refine TkS 4 rfl zy ?_
  refine To 2 rfl fun K hK=>?_
  go_simp
  obtain⟨H2,yY,nC,ut⟩:=Fresh.snapB hD.grows.holds (Fresh.lit _ [ze k 0] #[.int .u8 ((k:Int)%256)] 1 rfl (by simp) Jh.out);have hD:=hD.grow yY;clear ut yY
  refine Ko hK ?_ fun zy=>?_
  ·exact hD.var.cell 2 rfl
  clear hK K
  refine TkS 5 rfl zy ?_
  refine To 6 rfl fun K hK=>?_
  refine yq _ _ _ rfl (w.heap.size+1) 1 _ rfl rfl _ _ hD.mem (by kernel_rfl) (by simp) rfl fun w6 yJ hg6=>?_
  have hD:=hD.setM yJ hg6;clear yJ hg6;go_simp
  refine Ko hK ?_ fun zy=>?_
  ·exact hD.var.cell 2 rfl
  clear hK K
  refine TkS 7 rfl zy ?_
  refine To 8 rfl fun K hK=>?_
  refine yq _ _ _ rfl (w.heap.size+1) 6 (.int .i64 num) rfl rfl _ _ hD.mem (by kernel_rfl) (by simp) rfl fun w8 hB8 hg8=>?_
  have hD:=hD.setM hB8 hg8;clear hB8 hg8;go_simp
  refine Ko hK ?_ fun zy=>?_
  ·exact hD.var.cell 2 rfl
  clear hK K
  refine Wd ?_
  clear zy;go_wp2_with fail
  go_meet
  exact⟨_,_,hD,nC⟩
 case rest =>
 clear hD;obtain⟨L,H1,hD,oM⟩:=hcut;rw[HL.out.2.1,HL.out.2.2.1,HL.out.2.2.2]at hD;obtain⟨m',ST⟩:∃ m':Mb,m'={ m with sender:=[ze k 0],since:=num }:=⟨_,rfl⟩
 obtain⟨mb',PJ⟩:∃ mb':MAd,mb'={ b with sa:=some ⟨L,0,none⟩,sc:=1 }:=⟨_,rfl⟩
 replace hD:DS w H (xQ m' mb') (gpC a.ia il a.ic a.sa sl a.sc num VA ml vc) P (.slice VA ml vc) g.members H1 wc:=by rw[ST,PJ];exact hD
 have fH:Hid (MemA H1 m' mb'):=by
  rw[ST,PJ];have tH:=hD.grows.le;have h:=HM.out
  exact⟨h.name,oM,h.cred.mono tH,h.share.mono tH,h.wrap.mono tH,by show [ze k 0].length≤1099511;simp,h.small.2⟩
 clear oM ST PJ;have q0:=hD.mem.cell 0 rfl;have q1:=hD.mem.cell 1 rfl;have q2:=hD.mem.cell 2 rfl;have q3:=hD.mem.cell 3 rfl;have q4:=hD.mem.cell 4 rfl;have q5:=hD.mem.cell 5 rfl;have q6:=hD.mem.cell 6 rfl;have p3:=hD.var.cell 3 rfl;go_wp2_with (at_builtin;refine zf ?_)
 unfold zU
 replace hD:=hD.alloc (.cells (xQ m' mb') 57)
 refine OwnX.append rfl (.tmp 102) (.tmp 104) 31 rfl Tryz.underlying31 rfl (by omega) kp rfl hD.own _ 1 _ (xQ m' mb').toList [m'] rfl rfl (RowC.one ⟨mb',rfl,fH.out⟩) (Src.new _ _ _ _ rfl _ rfl) (by have h2:=bq.out;have h3:=HN.out.2.2;simp only[List.length_singleton];omega) hD.base fun v8 w8 jV hg8 hat8=>?_
 replace hD:=hD.app jV hg8 hat8;obtain⟨A8,c8,rfl,ut⟩:=jV.form;obtain⟨l8,df⟩:∃ l8,g.members++[m']=l8:=⟨_,rfl⟩
 have CQ:Hid (l8.length≤17):=by rw[← df];have h2:=bq.out;have h3:=HN.out.2.2;rw[Hid,List.length_append,List.length_singleton];omega
 rw[df]at hD⊢;obtain⟨m8,XM⟩:∃ n,l8.length=n:=⟨_,rfl⟩
 have Ju:=Hh XM;rw[XM]at hD⊢;clear jV hg8 hat8 ut df XM q0 q1 q2 q3 q4 q5 q6 p3;go_wp2_with (with_reducible refine zx ?_)
 refine zr rfl _ _ _ rfl rfl P 3 (.slice A8 m8 c8) rfl rfl _ _ hD.var (by kernel_rfl) (by simp) rfl fun w9 hP9 hg9=>?_
 replace hD:=hD.setP (pc':=gpC a.ia il a.ic a.sa sl a.sc num A8 m8 c8) hP9 hg9;clear hP9 hg9;obtain⟨H9,tZ,Rh,St,Ze,VG⟩:=hD.freeze;obtain⟨PY,wZ,iA,ut⟩:=Fresh.snapB tZ.holds (Fresh.lit w9 [ze k 0] #[.int .u8 ((k:Int)%256)] 1 rfl (by simp) Jh.out);have hT:=hD.res.below wZ.below;have mj:=wZ.none VG hD.res.lt;have hG:=tZ.trans wZ;have Co:=Hh (Ze.mono wZ.le);have qF:=Hh iA;have p0:=hD.var.cell 0 rfl;have p1:=hD.var.cell 1 rfl;have p2:=hD.var.cell 2 rfl;have p3:=hD.var.cell 3 rfl;clear hD ut iA St Ze VG tZ wZ Rh;go_wp2_with (with_reducible refine zx ?_)
 refine zu rfl _ _ _ rfl rfl _ _ rfl rfl _ _ hT zZ rfl (vR _ _ _ _ rfl rfl rfl rfl) fun wz fM z8=>?_
 have iF:=hG.grownOwn mj (by omega) z8;clear hT hG z8 p0 p1 p2 p3;go_wp2_with fail
 refine xH rfl rfl fM rfl rfl zZ rfl ?_
 exact⟨⟨g.id,g.secret,num,l8⟩,⟨a.ia,a.ic,a.sa,a.sc,A8,c8⟩,PY,_,1,[ze k 0],0,by rw[HN.out.1,HN.out.2.1,← Ju.out];rfl,iF,⟨HG.out.id.mono iF.le,HG.out.secret.mono iF.le,GM.out,Co.out,HG.out.small.1,HG.out.small.2.1,by show l8.length≤1099511;have:=CQ.out;omega⟩,qF.out⟩
end Go.Proofs.YtjpcnhncoidliaaGreatDoor
