/- squeezed. Walks: the deck's headers. -/
import Derived.Test.YtliomcphdnppnaaGreatDoorK20
set_option linter.unusedVariables false
set_option linter.unusedSimpArgs false
set_option maxRecDepth 100000
set_option maxHeartbeats 25600000
namespace Go.Proofs.YtliomcphdnppnaaGreatDoor
open Go.RowKit
def AlgIn (p u:Itm) (alg:Int):Prop:=(zg 1,zg alg)∈ze p.items∨(zg 1,zg alg)∈ze u.items
theorem AlgIn.put {p u p' u':Itm}{alg:Int}{r:Itm×Itm}(h:AlgIn p u alg) (k:ll p u p' u' r):AlgIn p' u' alg:=(k.1 _).1 (h.elim .inl fun h=>.inr (.inl h))
def Few (p u:Itm) (B:Nat):Prop:=(∀ q,q∈ze p.items∨q∈ze u.items→dep q.1≤1∧dep q.2≤1)∧9*(yQ p.items+yQ u.items)≤B
def AlgB (p u:Itm) (alg:Int) (B:Nat):Prop:=AlgIn p u alg∧Few p u B
theorem wi (n:Int):cnt (zg n)=1∧dep (zg n)≤1:=by
 rw[zg]
 split
 ·exact⟨by rw[cnt,yQ],by rw[dep,jL];omega⟩
 exact⟨by rw[cnt,yQ],by rw[dep,jL];omega⟩
theorem nD:Few zF zF 0:=⟨fun q h=>by simp[zF,Itm.items,ze]at h,by simp[zF,Itm.items,yQ]⟩
theorem Few.put {p u p' u' v:Itm}{B k:Nat}{n:Int}(h:Few p u B) (hp:ll p u p' u' (zg n,v)) (hd:dep v≤1) (hk:9*(1+cnt v)≤k):Few p' u' (B+k):=by
 refine⟨fun q hq=>?_, ?_⟩
 ·rcases(hp.1 q).2 hq with h1 | h1 | rfl
  ·exact h.1 q (.inl h1)
  ·exact h.1 q (.inr h1)
  exact⟨(wi n).2,hd⟩
 have h1:=hp.2;have h2:=h.2;have h3:=(wi n).1
 simp only at h1
 omega
theorem AlgB.put {p u p' u' v:Itm}{alg n:Int}{B k:Nat}(h:AlgB p u alg B) (hp:ll p u p' u' (zg n,v)) (hd:dep v≤1) (hk:9*(1+cnt v)≤k):AlgB p' u' alg (B+k):=⟨h.1.put hp,h.2.put hp hd hk⟩
theorem AlgB.le {p u:Itm}{alg:Int}{B B':Nat}(h:AlgB p u alg B) (hb:B≤B'):AlgB p u alg B':=⟨h.1,h.2.1,Nat.le_trans h.2.2 hb⟩
def cx (w:World) (H:Snap) (alg:Int) (g C B:Nat) (wx:World):Prop:=∃ (p u:Itm) (a b:Ad) (Hx:Snap),Blk wx C 28 (zY p a u b)∧Blk wx w.heap.size 28 (zY zm ⟨none,0,none,0⟩ zm ⟨none,0,none,0⟩)∧Dealt w H wx Hx g∧Hx C=none∧Hx w.heap.size=none∧
 IsItem Hx a.ba a.bc a.ia a.ic p∧IsItem Hx b.ba b.bc b.ia b.ic u∧Modest p∧Modest u∧(fM (zg alg)→zV p u=true∧szL p≤B∧szL u≤B∧AlgB p u alg B)
def Tq (w:World) (H:Snap) (g:Nat) (alg:Int) (e:Ending) (w':World):Prop:=∃ (p u:Itm) (a b:Ad) (H':Snap),e=.returned (.agg (zY p a u b))∧Dealt w H w' H' g∧IsItem H' a.ba a.bc a.ia a.ic p∧IsItem H' b.ba b.bc b.ia b.ic u∧Modest p∧Modest u∧
 (alg=10→zV p u=true∧szL p≤2000)
def WX (w:World) (H:Snap) (g:Nat) (alg:Int) (e:Ending) (w':World):Prop:=∃ (p u:Itm) (a b:Ad) (H':Snap),e=.returned (.agg (zY p a u b))∧Dealt w H w' H' g∧IsItem H' a.ba a.bc a.ia a.ic p∧IsItem H' b.ba b.bc b.ia b.ic u∧Modest p∧Modest u∧
 (fM (zg alg)→zV p u=true∧szL p≤2000∧AlgIn p u alg)
def WY (w:World) (H:Snap) (g:Nat) (alg:Int) (e:Ending) (w':World):Prop:=∃ (p u:Itm) (a b:Ad) (H':Snap),e=.returned (.agg (zY p a u b))∧Dealt w H w' H' g∧IsItem H' a.ba a.bc a.ia a.ic p∧IsItem H' b.ba b.bc b.ia b.ic u∧Modest p∧Modest u∧
 (fM (zg alg)→zV p u=true∧szL p≤1000∧szL u≤1000∧AlgB p u alg 1000)
theorem sy {w w':World}{H H':Snap}{g:Nat}(_h:Dealt w H w' H' g) (t:TypeId) (cs:Array Value):Blk (w'.alloc (.cells cs t)) w'.heap.size t cs:=Blk.new _ _ _
theorem ns:Modest zF:=yx _ _ _ (by simp)
theorem lG:szL zF=0:=by simp[szL,Itm.items,zM]
theorem wt (p u:Itm) (a b:Ad):(zY p a u b).all (·.oneCell')=true:=by kernel_rfl
theorem iH:cnt (.mk 4 0 [] [zg 98])=2∧dep (.mk 4 0 [] [zg 98])≤1:=by
 have h1:=(wi 98).1;have h2:dep (zg 98)=0:=rfl
 refine⟨by rw[cnt,yQ,yQ];omega, ?_⟩
 rw[dep,jL,jL]
 omega
theorem Wl:Modest (.mk 4 0 [] [zg 98])∧(zh (.mk 4 0 [] [zg 98])).length≤18:=by
 refine⟨?_, ?_⟩
 ·rw[Modest,ModestL,ModestL];exact⟨by simp,by simp,ua 98,trivial⟩
 have h1:=yg 4 0 [] [zg 98] (by omega) (by omega);have h2:=tV 98
 simp only[zM,List.length_append,List.length_nil,List.append_nil]at h1
 omega
theorem eO {H:Snap}{g:Nat}(hTab:Tabs H) (w:World) (hD:DeckIn w g H) (alg:Int) (Yr : -1000≤alg) (WN:alg≤1000) :
  Calls Tryz.prog 18 #[.pointer (some ⟨g,0,none⟩),.int .i64 alg] w (WY w H g alg):=by
 have wH:=hD.deck.lt;have hT:=Blk.new w 28 (zY zm ⟨none,0,none,0⟩ zm ⟨none,0,none,0⟩);have Vm:=hD.grows ((Grows.refl hD.holds).alloc xN);have vS:H w.heap.size=none:=hD.holds.none_of_ge (Nat.le_refl _);have TR:=hD.holds;have HA:=Hh (And.intro Yr WN);clear hD Yr WN;go_enter Tryz.func18,Tryz.ntmps18
 go_wp2_with fail
 refine(ph _).mono ?_
 rintro e w1 ⟨rfl,zH⟩
 have hT:=(hT.below zH).alloc (.cells (zY zF ⟨none,0,none,0⟩ zF ⟨none,0,none,0⟩) 28);have hd:=(Vm.grown (Grows.of_below Vm.holds zH)).alloc (.cells (zY zF ⟨none,0,none,0⟩ zF ⟨none,0,none,0⟩) 28);have hC:=Blk.new w1 28 (zY zF ⟨none,0,none,0⟩ zF ⟨none,0,none,0⟩);have qe:w.heap.size<w1.heap.size:=by have:=zH.size;simp only[zu]at this;omega
 have wM:H w1.heap.size=none:=TR.none_of_ge (by omega);clear zH Vm TR;go_upto_if 15 with fail
 go_cut [15] (fun s15 wx=>cx w H alg g w1.heap.size 18 wx)
 case first =>
  by_cases ha:alg=0
  ·subst ha;go_wp2_with fail
   go_meet
   exact⟨zF,zF,_,_,H,hC,hT,hd,wM,vS,IsItem.plain _ 5 0 (by omega) (by omega),IsItem.plain _ 5 0 (by omega) (by omega),ns,ns,fun h=>by obtain⟨k,hk,e⟩:=h;rw[zg,if_neg (by omega)]at e;injection e with _ e;simp at e;omega⟩
  have b1:(alg != 0)=true:=by simp[ha]
  have p1:(alg=0)=False:=eq_false ha;clear ha;go_upto_region 3 with fail
  have hC:=hC.drew;have hT:=hT.drew;have hd:=hd.drew
  refine zw 10 (fun _=>True) (by kernel_rfl) (trivial) (fun zy=>?_)
  refine TkT 1 rfl ?_
  refine TkT 4 rfl ?_
  refine Ways.two (i:=0) (j:=2) rfl rfl (by kernel_rfl) (fun K hK=>?_) (fun K hK=>?_)
  ·have k0:=hC.cell 0 rfl;have k1:=hC.cell 1 rfl;have k2:=hC.cell 2 rfl;have k3:=hC.cell 3 rfl;have k4:=hC.cell 4 rfl;have k5:=hC.cell 5 rfl;have k6:=hC.cell 6 rfl;have k7:=hC.cell 7 rfl;go_simp
   refine Ko hK ?_ fun zy=>?_
   ·exact trivial
   clear hK K
   refine To 2 rfl fun K hK=>?_
   go_simp
   refine(zA _ hd.deck 4 (by omega) (by omega)).mono ?_
   rintro e w3 ⟨q,rfl,hq,uA⟩
   have hC:=hC.dealt uA (by omega);have hT:=hT.dealt uA (by omega);have hd:=hd.trans uA
   refine Ko hK ?_ fun zy=>?_
   ·exact trivial
   clear hK K
   refine TkT 3 rfl ?_
   refine To 5 rfl fun K hK=>?_
   go_simp
   refine(ui alg (by have:=HA.out;omega) (by have:=HA.out;omega) _ hd.holds).mono ?_
   rintro e w4 ⟨v4,rfl,ja,jb,jc,jd,H4,rfl,yJ,qK⟩
   have vS:=yJ.none vS hT.lt;have wM:=yJ.none wM hC.lt;have hC:=hC.below yJ.below;have hT:=hT.below yJ.below;have hd:=hd.grown yJ
   refine Ko hK ?_ fun zy=>?_
   ·exact trivial
   clear hK K
   refine To 6 rfl fun K hK=>?_
   go_simp
   refine(vY (hTab.mono hd.le) (p:=zF) (u:=zF) (a:=⟨none,0,none,0⟩) (b:=⟨none,0,none,0⟩) (d:=⟨ja,jb,jc,jd⟩) (IsItem.plain _ 5 0 (by omega) (by omega)) (IsItem.plain _ 5 0 (by omega) (by omega)) qK _ 1 (by omega) (by omega) _ hd.holds).mono ?_
   rintro e w6 ⟨p',u',val,c,rfl,⟨a',b',H6,rfl,xH,tx,qN⟩,tM,rz,sA,vW⟩
   have vS:=xH.none vS hT.lt;have wM:=xH.none wM hC.lt;have hC:=hC.below xH.below;have hT:=hT.below xH.below;have hd:=hd.grown xH
   refine Ko hK ?_ fun zy=>?_
   ·exact trivial
   clear hK K
   refine TkT 7 rfl ?_
   refine TkT 8 rfl ?_
   refine TkT 9 rfl ?_
   refine To 10 rfl fun K hK=>?_
   rw[if_pos (by rfl)]
   refine zk _ _ _ rfl _ _ rfl rfl _ _ hC zS rfl (wt _ _ _ _) fun w7 hC xj=>?_
   have hT:=hT.gr xj (by omega);have hd:=hd.grownRow (row:=some w1.heap.size) (by rintro q ⟨⟩;exact wM) (by rintro q ⟨⟩;omega) wH xj
   refine Kz hK ?_
   clear hK K
   refine Wd ?_
   go_wp2_with fail
   go_meet
   refine⟨p',u',a',b',H6,hC,hT,hd,wM,vS,tx,qN,rz,sA,fun h10=>?_⟩
   obtain⟨hv,vT,dw,Yx⟩:=tM (vW (by first | trivial | rfl) (by first | trivial | rfl) (by first | trivial | rfl) h10);have he:=tV alg;have IE:=lG
   exact⟨hv,by omega,by omega,⟨(Yx.1 _).1 (.inr (.inr rfl)),by have:=nD.put (k:=18) Yx (wi alg).2 (by rw[(wi alg).1];omega);rwa [Nat.zero_add]at this⟩⟩
  go_simp
  refine(zA _ hd.deck 4 (by omega) (by omega)).mono ?_
  rintro e w3 ⟨q,rfl,hq,uA⟩
  have hC:=hC.dealt uA (by omega);have hT:=hT.dealt uA (by omega);have hd:=hd.trans uA
  refine Ko hK ?_ fun zy=>?_
  ·exact trivial
  clear hK K
  refine TkT 3 rfl ?_
  refine Ways.two (i:=0) (j:=5) rfl rfl (by kernel_rfl) (fun K hK=>?_) (fun K hK=>?_)
  ·have k0:=hC.cell 0 rfl;have k1:=hC.cell 1 rfl;have k2:=hC.cell 2 rfl;have k3:=hC.cell 3 rfl;have k4:=hC.cell 4 rfl;have k5:=hC.cell 5 rfl;have k6:=hC.cell 6 rfl;have k7:=hC.cell 7 rfl;go_simp
   refine Ko hK ?_ fun zy=>?_
   ·exact trivial
   clear hK K
   refine To 5 rfl fun K hK=>?_
   go_simp
   refine(ui alg (by have:=HA.out;omega) (by have:=HA.out;omega) _ hd.holds).mono ?_
   rintro e w4 ⟨v4,rfl,ja,jb,jc,jd,H4,rfl,yJ,qK⟩
   have vS:=yJ.none vS hT.lt;have wM:=yJ.none wM hC.lt;have hC:=hC.below yJ.below;have hT:=hT.below yJ.below;have hd:=hd.grown yJ
   refine Ko hK ?_ fun zy=>?_
   ·exact trivial
   clear hK K
   refine To 6 rfl fun K hK=>?_
   go_simp
   refine(vY (hTab.mono hd.le) (p:=zF) (u:=zF) (a:=⟨none,0,none,0⟩) (b:=⟨none,0,none,0⟩) (d:=⟨ja,jb,jc,jd⟩) (IsItem.plain _ 5 0 (by omega) (by omega)) (IsItem.plain _ 5 0 (by omega) (by omega)) qK _ 1 (by omega) (by omega) _ hd.holds).mono ?_
   rintro e w6 ⟨p',u',val,c,rfl,⟨a',b',H6,rfl,xH,tx,qN⟩,tM,rz,sA,vW⟩
   have vS:=xH.none vS hT.lt;have wM:=xH.none wM hC.lt;have hC:=hC.below xH.below;have hT:=hT.below xH.below;have hd:=hd.grown xH
   refine Ko hK ?_ fun zy=>?_
   ·exact trivial
   clear hK K
   refine TkT 7 rfl ?_
   refine TkT 8 rfl ?_
   refine TkT 9 rfl ?_
   refine To 10 rfl fun K hK=>?_
   rw[if_pos (by rfl)]
   refine zk _ _ _ rfl _ _ rfl rfl _ _ hC zS rfl (wt _ _ _ _) fun w7 hC xj=>?_
   have hT:=hT.gr xj (by omega);have hd:=hd.grownRow (row:=some w1.heap.size) (by rintro q ⟨⟩;exact wM) (by rintro q ⟨⟩;omega) wH xj
   refine Kz hK ?_
   clear hK K
   refine Wd ?_
   go_wp2_with fail
   go_meet
   refine⟨p',u',a',b',H6,hC,hT,hd,wM,vS,tx,qN,rz,sA,fun h10=>?_⟩
   obtain⟨hv,vT,dw,Yx⟩:=tM (vW (by first | trivial | rfl) (by first | trivial | rfl) (by first | trivial | rfl) h10);have he:=tV alg;have IE:=lG
   exact⟨hv,by omega,by omega,⟨(Yx.1 _).1 (.inr (.inr rfl)),by have:=nD.put (k:=18) Yx (wi alg).2 (by rw[(wi alg).1];omega);rwa [Nat.zero_add]at this⟩⟩
  go_simp
  refine(ui alg (by have:=HA.out;omega) (by have:=HA.out;omega) _ hd.holds).mono ?_
  rintro e w4 ⟨v4,rfl,ja,jb,jc,jd,H4,rfl,yJ,qK⟩
  have vS:=yJ.none vS hT.lt;have wM:=yJ.none wM hC.lt;have hC:=hC.below yJ.below;have hT:=hT.below yJ.below;have hd:=hd.grown yJ
  refine Ko hK ?_ fun zy=>?_
  ·exact trivial
  clear hK K
  refine To 0 rfl fun K hK=>?_
  have k0:=hC.cell 0 rfl;have k1:=hC.cell 1 rfl;have k2:=hC.cell 2 rfl;have k3:=hC.cell 3 rfl;have k4:=hC.cell 4 rfl;have k5:=hC.cell 5 rfl;have k6:=hC.cell 6 rfl;have k7:=hC.cell 7 rfl;go_simp
  refine Ko hK ?_ fun zy=>?_
  ·exact trivial
  clear hK K
  refine To 6 rfl fun K hK=>?_
  go_simp
  refine(vY (hTab.mono hd.le) (p:=zF) (u:=zF) (a:=⟨none,0,none,0⟩) (b:=⟨none,0,none,0⟩) (d:=⟨ja,jb,jc,jd⟩) (IsItem.plain _ 5 0 (by omega) (by omega)) (IsItem.plain _ 5 0 (by omega) (by omega)) qK _ 1 (by omega) (by omega) _ hd.holds).mono ?_
  rintro e w6 ⟨p',u',val,c,rfl,⟨a',b',H6,rfl,xH,tx,qN⟩,tM,rz,sA,vW⟩
  have vS:=xH.none vS hT.lt;have wM:=xH.none wM hC.lt;have hC:=hC.below xH.below;have hT:=hT.below xH.below;have hd:=hd.grown xH
  refine Ko hK ?_ fun zy=>?_
  ·exact trivial
  clear hK K
  refine TkT 7 rfl ?_
  refine TkT 8 rfl ?_
  refine TkT 9 rfl ?_
  refine To 10 rfl fun K hK=>?_
  rw[if_pos (by rfl)]
  refine zk _ _ _ rfl _ _ rfl rfl _ _ hC zS rfl (wt _ _ _ _) fun w7 hC xj=>?_
  have hT:=hT.gr xj (by omega);have hd:=hd.grownRow (row:=some w1.heap.size) (by rintro q ⟨⟩;exact wM) (by rintro q ⟨⟩;omega) wH xj
  refine Kz hK ?_
  clear hK K
  refine Wd ?_
  go_wp2_with fail
  go_meet
  refine⟨p',u',a',b',H6,hC,hT,hd,wM,vS,tx,qN,rz,sA,fun h10=>?_⟩
  obtain⟨hv,vT,dw,Yx⟩:=tM (vW (by first | trivial | rfl) (by first | trivial | rfl) (by first | trivial | rfl) h10);have he:=tV alg;have IE:=lG
  exact⟨hv,by omega,by omega,⟨(Yx.1 _).1 (.inr (.inr rfl)),by have:=nD.put (k:=18) Yx (wi alg).2 (by rw[(wi alg).1];omega);rwa [Nat.zero_add]at this⟩⟩
 case rest =>
 clear hC hT hd wM vS;obtain⟨p,u,a,b,Hx,hC,hT,hd,wM,vS,hp,hu,m9,i6,hK⟩:=hcut;have N3:=Hh (zA wc hd.deck 3 (by omega) (by omega));have HK:=Hh hK;clear hK;go_wp2_with fail
 refine N3.out.mono ?_
 rintro e w2 ⟨n0,rfl,yP,xy⟩
 have sN:=hC.dealt xy (by omega);have ug:=hT.dealt xy (by omega);have IC:=hd.trans xy;have TX:cx w H alg g w1.heap.size (18+252*(2-n0)) w2:=⟨p,u,a,b,Hx,sN,ug,IC,wM,vS,hp,hu,m9,i6,fun h=>by obtain⟨x1,x2,x3,x4⟩:=HK.out h;exact⟨x1,by omega,by omega,x4.le (by omega)⟩⟩
 clear N3 xy hC hT hd sN ug IC wM vS hp hu m9 i6 HK;go_wp2_with fail
 go_loopw [6] (fun v6 wx=>∃ kk:Nat,v6=.int .i64 (kk:Int)∧kk≤2∧cx w H alg g w1.heap.size (18+252*(2-kk)) wx) (fun v6 _=>(intOf v6).toNat)
 case atStart=>exact⟨n0,rfl,by omega,TX⟩
 case round =>
 clear TX yP;obtain⟨kk,rfl,ir,p,u,a,b,Hx,hC,hT,hd,wM,vS,hp,hu,m9,i6,hK⟩:=hrel;have HK:=Hh hK;have Oh:=Hh ir;clear hK ir
 by_cases zB:(0:Int)<(kk:Int)
 ·-- one more parameter
  have hB:=Blk.new wr 3 #[.int .i64 4,.int .i64 6,.int .i64 3,.int .i64 99,.int .i64 (-7)];have uA:=hd.alloc (.cells #[.int .i64 4,.int .i64 6,.int .i64 3,.int .i64 99,.int .i64 (-7)] 3);have jX:=hC.alloc (.cells #[.int .i64 4,.int .i64 6,.int .i64 3,.int .i64 99,.int .i64 (-7)] 3);have lf:=hT.alloc (.cells #[.int .i64 4,.int .i64 6,.int .i64 3,.int .i64 99,.int .i64 (-7)] 3);have N5:=Hh (zA _ uA.deck 5 (by omega) (by omega));clear hC hT;go_wp2_with fail
  refine N5.out.mono ?_
  rintro e w4 ⟨j,rfl,hj,rn⟩
  have aI:=hB.dealt rn (by have:=hd.size;omega);obtain⟨v,hc,hP⟩:=aI.pick bG (by kernel_rfl) j (by simp;omega);obtain⟨nn,rfl,wd⟩:=kK hP;have rJ:=jX.dealt rn (by omega);have lz:=lf.dealt rn (by omega);have sL:=uA.trans rn;have jQ:=Hh wd;have BY:=Hh (kz w4 sL.deck 5 (by omega) (by omega));clear N5 hB aI hP hd uA rn wd jX lf;go_wp2_with fail
  refine BY.out.mono ?_
  rintro e w5 ⟨A,c5,l5,rfl,tQ,H5,yN,qZ⟩
  have VZ:=rJ.dealt qZ (by omega);have Kt:=lz.dealt qZ (by omega);have OO:=qZ.hid wM rJ.lt;have VE:=qZ.hid vS lz.lt;have jT:=sL.trans qZ;have Vs:=hp.mono qZ.le;have Tj:=hu.mono qZ.le;have RB:=Hh (t8 (A:=A) (c:=c5) (l:=l5) rfl (by omega) w5 (Src.of_row yN.row qZ.holds) qZ.holds);have Lu:=Hh tQ;clear BY sL qZ rJ lz wM vS hp hu yN tQ hc;go_wp2_with fail
  refine RB.out.mono ?_
  rintro e w6 ⟨v6,rfl,ja,jb,jc,jd,H6,rfl,xH,jg⟩
  obtain⟨Y,hY⟩:∃ Y,Itm.mk 2 0 l5 []=Y:=⟨_,rfl⟩
  rw[hY]at jg⊢
  have HY:=Hh (show Modest Y∧Lim 1 Y by
   rw[← hY]
   refine⟨yx _ _ _ (by have:=Lu.out;omega),yH ?_⟩
   have:=yg 2 0 l5 [] (by omega) (by omega);have:=Lu.out;have:=lN 1
   simp[zM]at *
   omega)
  have hC:=(VZ.below xH.below).alloc (zi Y ja jb jc jd);have hT:=(Kt.below xH.below).alloc (zi Y ja jb jc jd);have hV:=Blk.new w6 26 #[.int .i64 Y.kind,.int .u64 Y.n,.slice ja Y.bytes.length jb,.slice jc Y.items.length jd];have wM:=xH.none OO VZ.lt;have vS:=xH.none VE Kt.lt;have Mt:w1.heap.size<w6.heap.size:=by have:=VZ.lt;have:=xH.size;omega
  have hd:=(jT.grown xH).alloc (zi Y ja jb jc jd);have QT:H6 w6.heap.size=none:=xH.holds.none_of_ge (Nat.le_refl _);have hp:=Vs.mono xH.le;have hu:=Tj.mono xH.le;clear RB jT VZ Kt OO VE Vs Tj xH hY;go_upto_if 41 with fail
  go_cut [41] (fun s41 wx=>∃ (y:Itm) (c:Ad) (H7:Snap),H6.le H7∧Blk wx w1.heap.size 28 (zY p a u b)∧Blk wx w.heap.size 28 (zY zm ⟨none,0,none,0⟩ zm ⟨none,0,none,0⟩)∧Blk wx w6.heap.size 26 #[.int .i64 y.kind,.int .u64 y.n,.slice c.ba y.bytes.length c.bc,.slice c.ia y.items.length c.ic]∧
   Dealt w H wx H7 g∧H7 w1.heap.size=none∧H7 w.heap.size=none∧H7 w6.heap.size=none∧IsItem H7 c.ba c.bc c.ia c.ic y∧Modest y∧Lim 1 y)
  case first =>
   by_cases h99:nn=99
   ·subst h99;have IT:=Hh (ZP 0 (by omega) ZQ _ _ _ (hTab.mono hd.le) hd.deck);go_wp2_with fail
    refine IT.out.mono ?_
    rintro e w7 ⟨v7,y,rfl,⟨ka,kb,kc,kd,H7,rfl,jT,ff⟩,nY,jj⟩
    have Va:=hC.dealt jT (by omega);have bN:=hT.dealt jT (by omega);have Ku:=hV.dealt jT (by omega);have Jm:=jT.hid wM hC.lt;have Jn:=jT.hid vS hT.lt;have OQ:=jT.hid QT hV.lt;have dm:=hd.trans jT;have V8:=jT.le;have TO:=Hh (And.intro nY jj);clear IT jT hC hT hV wM vS QT hd nY jj;go_wp2_with (with_reducible refine zx ?_)
    refine stI Ku fun w8 hV8 hg8=>?_
    have FB:=Va.gr hg8 (by omega);have bO:=bN.gr hg8 (by omega);have Fe:=dm.grownRow (row:=some w6.heap.size) (by rintro q ⟨⟩;exact OQ) (by rintro q ⟨⟩;omega) wH hg8;go_wp2_with fail
    go_meet
    exact⟨y,⟨ka,kb,kc,kd⟩,H7,V8,FB,bO,hV8,Fe,Jm,Jn,OQ,ff,TO.out.1,TO.out.2⟩
   have b1:(nn==99)=false:=by simp[h99]
   have p1:(nn=99)=False:=eq_false h99;clear h99;go_wp2_with fail
   go_meet
   exact⟨Y,⟨ja,jb,jc,jd⟩,H6,Snap.le.refl _,hC,hT,hV,hd,wM,vS,QT,jg,HY.out.1,HY.out.2⟩
  case rest =>
  clear hC hT hV hd wM vS QT jg;obtain⟨y,c,H7,V8,hC,hT,hV,hd,wM,vS,QT,hy,nY,jj⟩:=hcut;have TO:=Hh jj;have hp:=hp.mono V8;have hu:=hu.mono V8;clear jj;go_upto_region 11 with fail
  go_cut [9,10] (fun s9 s10 wx=>∃ (N:Nat) (cc:Int) (p' u':Itm) (a' b':Ad) (H8:Snap),s9=.pointer (some ⟨N,0,none⟩)∧s10=.int .i64 cc∧Blk wx w1.heap.size 28 (zY p a u b)∧Blk wx w.heap.size 28 (zY zm ⟨none,0,none,0⟩ zm ⟨none,0,none,0⟩)∧Blk wx N 28 (zY p' a' u' b')∧
   Dealt w H wx H8 g∧H7.le H8∧H8 w1.heap.size=none∧H8 w.heap.size=none∧IsItem H8 a'.ba a'.bc a'.ia a'.ic p'∧IsItem H8 b'.ba b'.bc b'.ia b'.ic u'∧Modest p'∧Modest u'∧
   (cc=0→zV p' u'=true∧szL p'≤szL p+252∧szL u'≤szL u+252∧(∀ B,AlgB p u alg B→AlgB p' u' alg (B+252))))
  case first =>
   have hC:=hC.drew;have hT:=hT.drew;have hV:=hV.drew;have hd:=hd.drew;have zC:=Snap.le.refl H7
   refine zw 12 (fun w'=>w'.cell? ⟨w1.heap.size,0,none⟩=some (.int .i64 p.kind)∧w'.cell? ⟨w1.heap.size,1,none⟩=some (.int .u64 p.n)∧w'.cell? ⟨w1.heap.size,2,none⟩=some (.slice a.ba p.bytes.length a.bc)∧w'.cell? ⟨w1.heap.size,3,none⟩=some (.slice a.ia p.items.length a.ic)∧w'.cell? ⟨w1.heap.size,4,none⟩=some (.int .i64 u.kind)∧w'.cell? ⟨w1.heap.size,5,none⟩=some (.int .u64 u.n)∧w'.cell? ⟨w1.heap.size,6,none⟩=some (.slice b.ba u.bytes.length b.bc)∧w'.cell? ⟨w1.heap.size,7,none⟩=some (.slice b.ia u.items.length b.ic)∧w'.cell? ⟨w6.heap.size,0,none⟩=some (.int .i64 y.kind)∧w'.cell? ⟨w6.heap.size,1,none⟩=some (.int .u64 y.n)∧w'.cell? ⟨w6.heap.size,2,none⟩=some (.slice c.ba y.bytes.length c.bc)∧w'.cell? ⟨w6.heap.size,3,none⟩=some (.slice c.ia y.items.length c.ic)) (by kernel_rfl) (⟨hC.cell 0 rfl,hC.cell 1 rfl,hC.cell 2 rfl,hC.cell 3 rfl,hC.cell 4 rfl,hC.cell 5 rfl,hC.cell 6 rfl,hC.cell 7 rfl,hV.cell 0 rfl,hV.cell 1 rfl,hV.cell 2 rfl,hV.cell 3 rfl⟩) (fun zy=>?_)
   refine Tk 0 rfl zy ?_
   refine Tk 1 rfl zy ?_
   refine Tk 4 rfl zy ?_
   refine Tk 5 rfl zy ?_
   refine Ways.two (i:=2) (j:=10) rfl rfl (by kernel_rfl) (fun K hK=>?_) (fun K hK=>?_)
   ·go_simp
    refine(zA _ hd.deck 2 (by omega) (by omega)).mono ?_
    rintro e w8 ⟨q,rfl,hq,dm⟩
    try have hN:=hN.dealt dm (by have:=hd.size;omega)
    have hC:=hC.dealt dm (by omega);have hT:=hT.dealt dm (by omega);have hV:=hV.dealt dm (by omega);have hd:=hd.trans dm
    refine Ko hK ?_ fun zy=>?_
    ·exact⟨hC.cell 0 rfl,hC.cell 1 rfl,hC.cell 2 rfl,hC.cell 3 rfl,hC.cell 4 rfl,hC.cell 5 rfl,hC.cell 6 rfl,hC.cell 7 rfl,hV.cell 0 rfl,hV.cell 1 rfl,hV.cell 2 rfl,hV.cell 3 rfl⟩
    clear hK K
    refine Tk 3 rfl zy ?_
    refine Ways.two (i:=6) (j:=10) rfl rfl (by kernel_rfl) (fun K hK=>?_) (fun K hK=>?_)
    ·go_simp
     refine(vY (hTab.mono hd.le) (a:=a) (b:=b) (d:=c) hp hu hy _ nn (by have:=jQ.out;omega) (by have:=jQ.out;omega) _ hd.holds).mono ?_
     rintro e w9 ⟨p',u',val,cc,rfl,⟨a',b',H8,rfl,xp,tx,qN⟩,tM,rz,sA,vW⟩
     try have sw:=xp.none sw hN.lt
     try have hN:=hN.below xp.below
     have vS:=xp.none vS hT.lt;have wM:=xp.none wM hC.lt;have hC:=hC.below xp.below;have hT:=hT.below xp.below;have hV:=hV.below xp.below;have zC:=zC.trans xp.le;have hd:=hd.grown xp
     refine Ko hK ?_ fun zy=>?_
     ·exact⟨hC.cell 0 rfl,hC.cell 1 rfl,hC.cell 2 rfl,hC.cell 3 rfl,hC.cell 4 rfl,hC.cell 5 rfl,hC.cell 6 rfl,hC.cell 7 rfl,hV.cell 0 rfl,hV.cell 1 rfl,hV.cell 2 rfl,hV.cell 3 rfl⟩
     clear hK K
     refine Tk 7 rfl zy ?_
     refine Tk 8 rfl zy ?_
     refine Tk 9 rfl zy ?_
     refine To 10 rfl fun K hK=>?_
     go_simp
     have hN:=sy hd 28 (zY zm ⟨none,0,none,0⟩ zm ⟨none,0,none,0⟩);have sw:=hd.holds.none_of_ge (Nat.le_refl _);have dQ:=hV.lt
     try simp only[zj,zu]at hN sw dQ
     have hC:=hC.alloc xN;have hT:=hT.alloc xN;have hV:=hV.alloc xN;have hd:=hd.alloc xN
     refine Ko hK ?_ fun zy=>?_
     ·exact⟨hC.cell 0 rfl,hC.cell 1 rfl,hC.cell 2 rfl,hC.cell 3 rfl,hC.cell 4 rfl,hC.cell 5 rfl,hC.cell 6 rfl,hC.cell 7 rfl,hV.cell 0 rfl,hV.cell 1 rfl,hV.cell 2 rfl,hV.cell 3 rfl⟩
     clear hK K
     refine To 11 rfl fun K hK=>?_
     rw[if_pos (by rfl)]
     refine zk _ _ _ rfl _ _ rfl rfl _ _ hN zS rfl (wt _ _ _ _) fun w10 hN yY=>?_
     have hC:=hC.gr yY (by omega);have hT:=hT.gr yY (by omega);have hV:=hV.gr yY (by omega);have hd:=hd.grownRow (by rintro q ⟨⟩;exact sw) (by rintro q ⟨⟩;omega) wH yY
     refine Ko hK ?_ fun zy=>?_
     ·exact⟨hC.cell 0 rfl,hC.cell 1 rfl,hC.cell 2 rfl,hC.cell 3 rfl,hC.cell 4 rfl,hC.cell 5 rfl,hC.cell 6 rfl,hC.cell 7 rfl,hV.cell 0 rfl,hV.cell 1 rfl,hV.cell 2 rfl,hV.cell 3 rfl⟩
     clear hK K
     refine To 12 rfl fun K hK=>?_
     go_simp
     refine Kz hK ?_
     clear hK K
     refine Wd ?_
     go_wp2_with fail
     go_meet
     exact⟨_,cc,p',u',a',b',H8,rfl,rfl,hC,hT,hN,hd,zC,wM,vS,tx,qN,rz,sA,fun h0=>by obtain⟨x1,x2,x3,x4⟩:=tM h0;obtain⟨m1,m2,m3⟩:=TO.out;have e1:BI 1=243:=rfl;have e2:CI 1=7:=rfl;exact⟨x1,by omega,by omega,fun B h=>h.put x4 m3 (by omega)⟩⟩
    go_simp
    have hN:=sy hd 28 (zY zm ⟨none,0,none,0⟩ zm ⟨none,0,none,0⟩);have sw:=hd.holds.none_of_ge (Nat.le_refl _);have dQ:=hV.lt
    try simp only[zj,zu]at hN sw dQ
    have hC:=hC.alloc xN;have hT:=hT.alloc xN;have hV:=hV.alloc xN;have hd:=hd.alloc xN
    refine Ko hK ?_ fun zy=>?_
    ·exact⟨hC.cell 0 rfl,hC.cell 1 rfl,hC.cell 2 rfl,hC.cell 3 rfl,hC.cell 4 rfl,hC.cell 5 rfl,hC.cell 6 rfl,hC.cell 7 rfl,hV.cell 0 rfl,hV.cell 1 rfl,hV.cell 2 rfl,hV.cell 3 rfl⟩
    clear hK K
    refine To 6 rfl fun K hK=>?_
    go_simp
    refine(vY (hTab.mono hd.le) (a:=a) (b:=b) (d:=c) hp hu hy _ nn (by have:=jQ.out;omega) (by have:=jQ.out;omega) _ hd.holds).mono ?_
    rintro e w9 ⟨p',u',val,cc,rfl,⟨a',b',H8,rfl,xp,tx,qN⟩,tM,rz,sA,vW⟩
    try have sw:=xp.none sw hN.lt
    try have hN:=hN.below xp.below
    have vS:=xp.none vS hT.lt;have wM:=xp.none wM hC.lt;have hC:=hC.below xp.below;have hT:=hT.below xp.below;have hV:=hV.below xp.below;have zC:=zC.trans xp.le;have hd:=hd.grown xp
    refine Ko hK ?_ fun zy=>?_
    ·exact⟨hC.cell 0 rfl,hC.cell 1 rfl,hC.cell 2 rfl,hC.cell 3 rfl,hC.cell 4 rfl,hC.cell 5 rfl,hC.cell 6 rfl,hC.cell 7 rfl,hV.cell 0 rfl,hV.cell 1 rfl,hV.cell 2 rfl,hV.cell 3 rfl⟩
    clear hK K
    refine Tk 7 rfl zy ?_
    refine Tk 8 rfl zy ?_
    refine Tk 9 rfl zy ?_
    refine To 11 rfl fun K hK=>?_
    rw[if_pos (by rfl)]
    refine zk _ _ _ rfl _ _ rfl rfl _ _ hN zS rfl (wt _ _ _ _) fun w10 hN yY=>?_
    have hC:=hC.gr yY (by omega);have hT:=hT.gr yY (by omega);have hV:=hV.gr yY (by omega);have hd:=hd.grownRow (by rintro q ⟨⟩;exact sw) (by rintro q ⟨⟩;omega) wH yY
    refine Ko hK ?_ fun zy=>?_
    ·exact⟨hC.cell 0 rfl,hC.cell 1 rfl,hC.cell 2 rfl,hC.cell 3 rfl,hC.cell 4 rfl,hC.cell 5 rfl,hC.cell 6 rfl,hC.cell 7 rfl,hV.cell 0 rfl,hV.cell 1 rfl,hV.cell 2 rfl,hV.cell 3 rfl⟩
    clear hK K
    refine To 12 rfl fun K hK=>?_
    go_simp
    refine Kz hK ?_
    clear hK K
    refine Wd ?_
    go_wp2_with fail
    go_meet
    exact⟨_,cc,p',u',a',b',H8,rfl,rfl,hC,hT,hN,hd,zC,wM,vS,tx,qN,rz,sA,fun h0=>by obtain⟨x1,x2,x3,x4⟩:=tM h0;obtain⟨m1,m2,m3⟩:=TO.out;have e1:BI 1=243:=rfl;have e2:CI 1=7:=rfl;exact⟨x1,by omega,by omega,fun B h=>h.put x4 m3 (by omega)⟩⟩
   go_simp
   have hN:=sy hd 28 (zY zm ⟨none,0,none,0⟩ zm ⟨none,0,none,0⟩);have sw:=hd.holds.none_of_ge (Nat.le_refl _);have dQ:=hV.lt
   try simp only[zj,zu]at hN sw dQ
   have hC:=hC.alloc xN;have hT:=hT.alloc xN;have hV:=hV.alloc xN;have hd:=hd.alloc xN
   refine Ko hK ?_ fun zy=>?_
   ·exact⟨hC.cell 0 rfl,hC.cell 1 rfl,hC.cell 2 rfl,hC.cell 3 rfl,hC.cell 4 rfl,hC.cell 5 rfl,hC.cell 6 rfl,hC.cell 7 rfl,hV.cell 0 rfl,hV.cell 1 rfl,hV.cell 2 rfl,hV.cell 3 rfl⟩
   clear hK K
   refine To 2 rfl fun K hK=>?_
   go_simp
   refine(zA _ hd.deck 2 (by omega) (by omega)).mono ?_
   rintro e w8 ⟨q,rfl,hq,dm⟩
   try have hN:=hN.dealt dm (by have:=hd.size;omega)
   have hC:=hC.dealt dm (by omega);have hT:=hT.dealt dm (by omega);have hV:=hV.dealt dm (by omega);have hd:=hd.trans dm
   refine Ko hK ?_ fun zy=>?_
   ·exact⟨hC.cell 0 rfl,hC.cell 1 rfl,hC.cell 2 rfl,hC.cell 3 rfl,hC.cell 4 rfl,hC.cell 5 rfl,hC.cell 6 rfl,hC.cell 7 rfl,hV.cell 0 rfl,hV.cell 1 rfl,hV.cell 2 rfl,hV.cell 3 rfl⟩
   clear hK K
   refine Tk 3 rfl zy ?_
   refine To 6 rfl fun K hK=>?_
   go_simp
   refine(vY (hTab.mono hd.le) (a:=a) (b:=b) (d:=c) hp hu hy _ nn (by have:=jQ.out;omega) (by have:=jQ.out;omega) _ hd.holds).mono ?_
   rintro e w9 ⟨p',u',val,cc,rfl,⟨a',b',H8,rfl,xp,tx,qN⟩,tM,rz,sA,vW⟩
   try have sw:=xp.none sw hN.lt
   try have hN:=hN.below xp.below
   have vS:=xp.none vS hT.lt;have wM:=xp.none wM hC.lt;have hC:=hC.below xp.below;have hT:=hT.below xp.below;have hV:=hV.below xp.below;have zC:=zC.trans xp.le;have hd:=hd.grown xp
   refine Ko hK ?_ fun zy=>?_
   ·exact⟨hC.cell 0 rfl,hC.cell 1 rfl,hC.cell 2 rfl,hC.cell 3 rfl,hC.cell 4 rfl,hC.cell 5 rfl,hC.cell 6 rfl,hC.cell 7 rfl,hV.cell 0 rfl,hV.cell 1 rfl,hV.cell 2 rfl,hV.cell 3 rfl⟩
   clear hK K
   refine Tk 7 rfl zy ?_
   refine Tk 8 rfl zy ?_
   refine Tk 9 rfl zy ?_
   refine To 11 rfl fun K hK=>?_
   rw[if_pos (by rfl)]
   refine zk _ _ _ rfl _ _ rfl rfl _ _ hN zS rfl (wt _ _ _ _) fun w10 hN yY=>?_
   have hC:=hC.gr yY (by omega);have hT:=hT.gr yY (by omega);have hV:=hV.gr yY (by omega);have hd:=hd.grownRow (by rintro q ⟨⟩;exact sw) (by rintro q ⟨⟩;omega) wH yY
   refine Ko hK ?_ fun zy=>?_
   ·exact⟨hC.cell 0 rfl,hC.cell 1 rfl,hC.cell 2 rfl,hC.cell 3 rfl,hC.cell 4 rfl,hC.cell 5 rfl,hC.cell 6 rfl,hC.cell 7 rfl,hV.cell 0 rfl,hV.cell 1 rfl,hV.cell 2 rfl,hV.cell 3 rfl⟩
   clear hK K
   refine To 12 rfl fun K hK=>?_
   go_simp
   refine Kz hK ?_
   clear hK K
   refine Wd ?_
   go_wp2_with fail
   go_meet
   exact⟨_,cc,p',u',a',b',H8,rfl,rfl,hC,hT,hN,hd,zC,wM,vS,tx,qN,rz,sA,fun h0=>by obtain⟨x1,x2,x3,x4⟩:=tM h0;obtain⟨m1,m2,m3⟩:=TO.out;have e1:BI 1=243:=rfl;have e2:CI 1=7:=rfl;exact⟨x1,by omega,by omega,fun B h=>h.put x4 m3 (by omega)⟩⟩
  case rest =>
  clear hC hT hV hd wM vS QT hy nY;obtain⟨N,cc,p',u',a',b',H8,rfl,rfl,hC,hT,hN,hd,lX,wM,vS,tx,qN,rz,sA,tM⟩:=hcut;have Lq:=Hh tM;have IQ:IntKind.i64.wrap ((kk:Int)-1)=(kk:Int)-1:=IntWalk.i64_in _ (by have:=Oh.out;omega);clear tM
  by_cases hcc:cc=0
  ·subst hcc;go_upto_region 13 with fail
   have n0':=hN.cell 0 rfl;have n1':=hN.cell 1 rfl;have n2':=hN.cell 2 rfl;have n3':=hN.cell 3 rfl;have n4':=hN.cell 4 rfl;have n5':=hN.cell 5 rfl;have n6':=hN.cell 6 rfl;have n7':=hN.cell 7 rfl;go_wp2_with (with_reducible refine zx ?_)
   refine zt rfl _ _ _ rfl rfl _ _ rfl rfl _ _ hC zS rfl (wt _ _ _ _) fun w11 hC11 tZ=>?_
   have fU:=hT.gr tZ (by omega);have Uy:=hd.grownRow (row:=some w1.heap.size) (by rintro q ⟨⟩;exact wM) (by rintro q ⟨⟩;omega) wH tZ;clear hC hT hN hd n0' n1' n2' n3' n4' n5' n6' n7';go_wp2_with fail
   go_roundw
   case rel=>exact⟨kk-1,by rw[show((kk-1:Nat):Int)=(kk:Int)-1 by omega],by have:=Oh.out;omega,p',u',a',b',H8,hC11,fU,Uy,wM,vS,tx,qN,rz,sA,fun h10=>by obtain⟨x1,x2,x3,x4⟩:=Lq.out (by first | trivial | rfl);obtain⟨z1,z2,z3,z4⟩:=HK.out h10;have:=Oh.out;exact⟨x1,by omega,by omega,(x4 _ z4).le (by omega)⟩⟩
   case measure=>simp[intOf];omega
  have b1:(cc==0)=false:=by simp[hcc]
  have p1:(cc=0)=False:=eq_false hcc;have G3:=hp.mono lX;have GC:=hu.mono lX;clear hcc;go_wp2_with fail
  go_roundw
  case rel=>exact⟨kk-1,by rw[show((kk-1:Nat):Int)=(kk:Int)-1 by omega],by have:=Oh.out;omega,p,u,a,b,H8,hC,hT,hd,wM,vS,G3,GC,m9,i6,fun h10=>by obtain⟨z1,z2,z3,z4⟩:=HK.out h10;have:=Oh.out;exact⟨z1,by omega,by omega,z4.le (by omega)⟩⟩
  case measure=>simp[intOf];omega
 -- the last two
 have aF:Hid (fM (zg alg)→zV p u=true∧szL p≤522∧szL u≤522∧AlgB p u alg 522):=fun h=>by obtain⟨x1,x2,x3,x4⟩:=HK.out h;exact⟨x1,by omega,by omega,x4.le (by omega)⟩
 clear HK;go_upto_region 14 with fail
 go_cut [11,12] (fun s11 s12 wx=>∃ (N:Nat) (cc:Int) (p' u':Itm) (a' b':Ad) (H8:Snap),s11=.pointer (some ⟨N,0,none⟩)∧s12=.int .i64 cc∧Blk wx w1.heap.size 28 (zY p a u b)∧Blk wx w.heap.size 28 (zY zm ⟨none,0,none,0⟩ zm ⟨none,0,none,0⟩)∧Blk wx N 28 (zY p' a' u' b')∧
  Dealt w H wx H8 g∧Hx.le H8∧H8 w1.heap.size=none∧H8 w.heap.size=none∧H8 N=none∧w1.heap.size<N∧IsItem H8 a'.ba a'.bc a'.ia a'.ic p'∧IsItem H8 b'.ba b'.bc b'.ia b'.ic u'∧Modest p'∧Modest u'∧
  (cc=0→zV p' u'=true∧szL p'≤szL p+18∧szL u'≤szL u+18∧(∀ B,AlgB p u alg B→AlgB p' u' alg (B+18))))
 case first =>
  have hC:=hC.drew;have hT:=hT.drew;have hd:=hd.drew;have zC:=Snap.le.refl Hx
  refine zw 8 (fun w'=>w'.cell? ⟨w1.heap.size,0,none⟩=some (.int .i64 p.kind)∧w'.cell? ⟨w1.heap.size,1,none⟩=some (.int .u64 p.n)∧w'.cell? ⟨w1.heap.size,2,none⟩=some (.slice a.ba p.bytes.length a.bc)∧w'.cell? ⟨w1.heap.size,3,none⟩=some (.slice a.ia p.items.length a.ic)∧w'.cell? ⟨w1.heap.size,4,none⟩=some (.int .i64 u.kind)∧w'.cell? ⟨w1.heap.size,5,none⟩=some (.int .u64 u.n)∧w'.cell? ⟨w1.heap.size,6,none⟩=some (.slice b.ba u.bytes.length b.bc)∧w'.cell? ⟨w1.heap.size,7,none⟩=some (.slice b.ia u.items.length b.ic)) (by kernel_rfl) (⟨hC.cell 0 rfl,hC.cell 1 rfl,hC.cell 2 rfl,hC.cell 3 rfl,hC.cell 4 rfl,hC.cell 5 rfl,hC.cell 6 rfl,hC.cell 7 rfl⟩) (fun zy=>?_)
  refine Tk 0 rfl zy ?_
  refine Ways.two (i:=1) (j:=6) rfl rfl (by kernel_rfl) (fun K hK=>?_) (fun K hK=>?_)
  ·go_simp
   refine(ui 1 (by omega) (by omega) _ hd.holds).mono ?_
   rintro e w4 ⟨v4,rfl,ja,jb,jc,jd,H4,rfl,yJ,qK⟩
   try have sw:=yJ.none sw hN.lt
   try have hN:=hN.below yJ.below
   have vS:=yJ.none vS hT.lt;have wM:=yJ.none wM hC.lt;have hC:=hC.below yJ.below;have hT:=hT.below yJ.below;have zC:=zC.trans yJ.le;have hp:=hp.mono yJ.le;have hu:=hu.mono yJ.le;have hd:=hd.grown yJ
   refine Ko hK ?_ fun zy=>?_
   ·exact⟨hC.cell 0 rfl,hC.cell 1 rfl,hC.cell 2 rfl,hC.cell 3 rfl,hC.cell 4 rfl,hC.cell 5 rfl,hC.cell 6 rfl,hC.cell 7 rfl⟩
   clear hK K
   refine Ways.two (i:=2) (j:=6) rfl rfl (by kernel_rfl) (fun K hK=>?_) (fun K hK=>?_)
   ·go_simp
    refine(vY (hTab.mono hd.le) (a:=a) (b:=b) (d:=⟨ja,jb,jc,jd⟩) hp hu qK true 98 (by omega) (by omega) _ hd.holds).mono ?_
    rintro e w9 ⟨p',u',val,cc,rfl,⟨a',b',H8,rfl,xp,tx,qN⟩,tM,rz,sA,vW⟩
    try have sw:=xp.none sw hN.lt
    try have hN:=hN.below xp.below
    have vS:=xp.none vS hT.lt;have wM:=xp.none wM hC.lt;have hC:=hC.below xp.below;have hT:=hT.below xp.below;have zC:=zC.trans xp.le;have hd:=hd.grown xp
    refine Ko hK ?_ fun zy=>?_
    ·exact⟨hC.cell 0 rfl,hC.cell 1 rfl,hC.cell 2 rfl,hC.cell 3 rfl,hC.cell 4 rfl,hC.cell 5 rfl,hC.cell 6 rfl,hC.cell 7 rfl⟩
    clear hK K
    refine Tk 3 rfl zy ?_
    refine Tk 4 rfl zy ?_
    refine Tk 5 rfl zy ?_
    refine To 6 rfl fun K hK=>?_
    go_simp
    have hN:=sy hd 28 (zY zm ⟨none,0,none,0⟩ zm ⟨none,0,none,0⟩);have sw:=hd.holds.none_of_ge (Nat.le_refl _);have dQ:=hC.lt
    try simp only[zj,zu]at hN sw dQ
    have hC:=hC.alloc xN;have hT:=hT.alloc xN;have hd:=hd.alloc xN
    refine Ko hK ?_ fun zy=>?_
    ·exact⟨hC.cell 0 rfl,hC.cell 1 rfl,hC.cell 2 rfl,hC.cell 3 rfl,hC.cell 4 rfl,hC.cell 5 rfl,hC.cell 6 rfl,hC.cell 7 rfl⟩
    clear hK K
    refine To 7 rfl fun K hK=>?_
    rw[if_pos (by rfl)]
    refine zk _ _ _ rfl _ _ rfl rfl _ _ hN zS rfl (wt _ _ _ _) fun w10 hN yY=>?_
    have hC:=hC.gr yY (by omega);have hT:=hT.gr yY (by omega);have hd:=hd.grownRow (by rintro q ⟨⟩;exact sw) (by rintro q ⟨⟩;omega) wH yY
    refine Ko hK ?_ fun zy=>?_
    ·exact⟨hC.cell 0 rfl,hC.cell 1 rfl,hC.cell 2 rfl,hC.cell 3 rfl,hC.cell 4 rfl,hC.cell 5 rfl,hC.cell 6 rfl,hC.cell 7 rfl⟩
    clear hK K
    refine To 8 rfl fun K hK=>?_
    go_simp
    refine Kz hK ?_
    clear hK K
    refine Wd ?_
    go_wp2_with fail
    go_meet
    exact⟨_,cc,p',u',a',b',H8,rfl,rfl,hC,hT,hN,hd,zC,wM,vS,sw,dQ,tx,qN,rz,sA,fun h0=>by obtain⟨x1,x2,x3,x4⟩:=tM h0;have:=tV 1;exact⟨x1,by omega,by omega,fun B h=>h.put x4 (wi 1).2 (by rw[(wi 1).1];omega)⟩⟩
   go_simp
   have hN:=sy hd 28 (zY zm ⟨none,0,none,0⟩ zm ⟨none,0,none,0⟩);have sw:=hd.holds.none_of_ge (Nat.le_refl _);have dQ:=hC.lt
   try simp only[zj,zu]at hN sw dQ
   have hC:=hC.alloc xN;have hT:=hT.alloc xN;have hd:=hd.alloc xN
   refine Ko hK ?_ fun zy=>?_
   ·exact⟨hC.cell 0 rfl,hC.cell 1 rfl,hC.cell 2 rfl,hC.cell 3 rfl,hC.cell 4 rfl,hC.cell 5 rfl,hC.cell 6 rfl,hC.cell 7 rfl⟩
   clear hK K
   refine To 2 rfl fun K hK=>?_
   go_simp
   refine(vY (hTab.mono hd.le) (a:=a) (b:=b) (d:=⟨ja,jb,jc,jd⟩) hp hu qK true 98 (by omega) (by omega) _ hd.holds).mono ?_
   rintro e w9 ⟨p',u',val,cc,rfl,⟨a',b',H8,rfl,xp,tx,qN⟩,tM,rz,sA,vW⟩
   try have sw:=xp.none sw hN.lt
   try have hN:=hN.below xp.below
   have vS:=xp.none vS hT.lt;have wM:=xp.none wM hC.lt;have hC:=hC.below xp.below;have hT:=hT.below xp.below;have zC:=zC.trans xp.le;have hd:=hd.grown xp
   refine Ko hK ?_ fun zy=>?_
   ·exact⟨hC.cell 0 rfl,hC.cell 1 rfl,hC.cell 2 rfl,hC.cell 3 rfl,hC.cell 4 rfl,hC.cell 5 rfl,hC.cell 6 rfl,hC.cell 7 rfl⟩
   clear hK K
   refine Tk 3 rfl zy ?_
   refine Tk 4 rfl zy ?_
   refine Tk 5 rfl zy ?_
   refine To 7 rfl fun K hK=>?_
   rw[if_pos (by rfl)]
   refine zk _ _ _ rfl _ _ rfl rfl _ _ hN zS rfl (wt _ _ _ _) fun w10 hN yY=>?_
   have hC:=hC.gr yY (by omega);have hT:=hT.gr yY (by omega);have hd:=hd.grownRow (by rintro q ⟨⟩;exact sw) (by rintro q ⟨⟩;omega) wH yY
   refine Ko hK ?_ fun zy=>?_
   ·exact⟨hC.cell 0 rfl,hC.cell 1 rfl,hC.cell 2 rfl,hC.cell 3 rfl,hC.cell 4 rfl,hC.cell 5 rfl,hC.cell 6 rfl,hC.cell 7 rfl⟩
   clear hK K
   refine To 8 rfl fun K hK=>?_
   go_simp
   refine Kz hK ?_
   clear hK K
   refine Wd ?_
   go_wp2_with fail
   go_meet
   exact⟨_,cc,p',u',a',b',H8,rfl,rfl,hC,hT,hN,hd,zC,wM,vS,sw,dQ,tx,qN,rz,sA,fun h0=>by obtain⟨x1,x2,x3,x4⟩:=tM h0;have:=tV 1;exact⟨x1,by omega,by omega,fun B h=>h.put x4 (wi 1).2 (by rw[(wi 1).1];omega)⟩⟩
  go_simp
  have hN:=sy hd 28 (zY zm ⟨none,0,none,0⟩ zm ⟨none,0,none,0⟩);have sw:=hd.holds.none_of_ge (Nat.le_refl _);have dQ:=hC.lt
  try simp only[zj,zu]at hN sw dQ
  have hC:=hC.alloc xN;have hT:=hT.alloc xN;have hd:=hd.alloc xN
  refine Ko hK ?_ fun zy=>?_
  ·exact⟨hC.cell 0 rfl,hC.cell 1 rfl,hC.cell 2 rfl,hC.cell 3 rfl,hC.cell 4 rfl,hC.cell 5 rfl,hC.cell 6 rfl,hC.cell 7 rfl⟩
  clear hK K
  refine To 1 rfl fun K hK=>?_
  go_simp
  refine(ui 1 (by omega) (by omega) _ hd.holds).mono ?_
  rintro e w4 ⟨v4,rfl,ja,jb,jc,jd,H4,rfl,yJ,qK⟩
  try have sw:=yJ.none sw hN.lt
  try have hN:=hN.below yJ.below
  have vS:=yJ.none vS hT.lt;have wM:=yJ.none wM hC.lt;have hC:=hC.below yJ.below;have hT:=hT.below yJ.below;have zC:=zC.trans yJ.le;have hp:=hp.mono yJ.le;have hu:=hu.mono yJ.le;have hd:=hd.grown yJ
  refine Ko hK ?_ fun zy=>?_
  ·exact⟨hC.cell 0 rfl,hC.cell 1 rfl,hC.cell 2 rfl,hC.cell 3 rfl,hC.cell 4 rfl,hC.cell 5 rfl,hC.cell 6 rfl,hC.cell 7 rfl⟩
  clear hK K
  refine To 2 rfl fun K hK=>?_
  go_simp
  refine(vY (hTab.mono hd.le) (a:=a) (b:=b) (d:=⟨ja,jb,jc,jd⟩) hp hu qK true 98 (by omega) (by omega) _ hd.holds).mono ?_
  rintro e w9 ⟨p',u',val,cc,rfl,⟨a',b',H8,rfl,xp,tx,qN⟩,tM,rz,sA,vW⟩
  try have sw:=xp.none sw hN.lt
  try have hN:=hN.below xp.below
  have vS:=xp.none vS hT.lt;have wM:=xp.none wM hC.lt;have hC:=hC.below xp.below;have hT:=hT.below xp.below;have zC:=zC.trans xp.le;have hd:=hd.grown xp
  refine Ko hK ?_ fun zy=>?_
  ·exact⟨hC.cell 0 rfl,hC.cell 1 rfl,hC.cell 2 rfl,hC.cell 3 rfl,hC.cell 4 rfl,hC.cell 5 rfl,hC.cell 6 rfl,hC.cell 7 rfl⟩
  clear hK K
  refine Tk 3 rfl zy ?_
  refine Tk 4 rfl zy ?_
  refine Tk 5 rfl zy ?_
  refine To 7 rfl fun K hK=>?_
  rw[if_pos (by rfl)]
  refine zk _ _ _ rfl _ _ rfl rfl _ _ hN zS rfl (wt _ _ _ _) fun w10 hN yY=>?_
  have hC:=hC.gr yY (by omega);have hT:=hT.gr yY (by omega);have hd:=hd.grownRow (by rintro q ⟨⟩;exact sw) (by rintro q ⟨⟩;omega) wH yY
  refine Ko hK ?_ fun zy=>?_
  ·exact⟨hC.cell 0 rfl,hC.cell 1 rfl,hC.cell 2 rfl,hC.cell 3 rfl,hC.cell 4 rfl,hC.cell 5 rfl,hC.cell 6 rfl,hC.cell 7 rfl⟩
  clear hK K
  refine To 8 rfl fun K hK=>?_
  go_simp
  refine Kz hK ?_
  clear hK K
  refine Wd ?_
  go_wp2_with fail
  go_meet
  exact⟨_,cc,p',u',a',b',H8,rfl,rfl,hC,hT,hN,hd,zC,wM,vS,sw,dQ,tx,qN,rz,sA,fun h0=>by obtain⟨x1,x2,x3,x4⟩:=tM h0;have:=tV 1;exact⟨x1,by omega,by omega,fun B h=>h.put x4 (wi 1).2 (by rw[(wi 1).1];omega)⟩⟩
 case rest =>
 clear hC hT hd wM vS;obtain⟨N,cc,p',u',a',b',H8,rfl,rfl,hC,hT,hN,hd,lX,wM,vS,sw,dQ,tx,qN,rz,sA,tM⟩:=hcut;have Lq:=Hh tM;have N6:=Hh (zA wc hd.deck 6 (by omega) (by omega));have hp:=hp.mono lX;have hu:=hu.mono lX;clear tM lX;go_wp2_with (go_at_call 28;refine zO ?_)
 refine N6.out.mono ?_
 rintro e w5 ⟨j,rfl,hj,sL⟩
 have hC:=hC.dealt sL (by omega);have hT:=hT.dealt sL (by omega);have hN:=hN.dealt sL (by omega);have hd:=hd.trans sL;clear N6 sL
 by_cases hgo:j=5∧cc=0
 ·obtain⟨rfl,rfl⟩:=hgo;have GV:=Hh (Lq.out rfl);clear Lq;go_upto_region 16 with fail
  have n0':=hN.cell 0 rfl;have n1':=hN.cell 1 rfl;have n2':=hN.cell 2 rfl;have n3':=hN.cell 3 rfl;have n4':=hN.cell 4 rfl;have n5':=hN.cell 5 rfl;have n6':=hN.cell 6 rfl;have n7':=hN.cell 7 rfl;go_wp2_with (with_reducible refine zx ?_)
  refine zt rfl _ _ _ rfl rfl _ _ rfl rfl _ _ hC zS rfl (wt _ _ _ _) fun w11 hC11 tZ=>?_
  have fU:=hT.gr tZ (by omega);have Nr:=hN.gr tZ (by omega);have Uy:=hd.grownRow (row:=some w1.heap.size) (by rintro q ⟨⟩;exact wM) (by rintro q ⟨⟩;omega) wH tZ;clear hC hT hN hd n0' n1' n2' n3' n4' n5' n6' n7';go_upto_region 17 with fail
  go_cut [12] (fun s12 wx=>∃ (cc:Int) (p9 u9:Itm) (a9 b9:Ad) (H9:Snap),s12=.int .i64 cc∧Blk wx w1.heap.size 28 (zY p' a' u' b')∧Blk wx w.heap.size 28 (zY zm ⟨none,0,none,0⟩ zm ⟨none,0,none,0⟩)∧Blk wx N 28 (zY p9 a9 u9 b9)∧
   Dealt w H wx H9 g∧H8.le H9∧H9 w1.heap.size=none∧H9 w.heap.size=none∧IsItem H9 a9.ba a9.bc a9.ia a9.ic p9∧IsItem H9 b9.ba b9.bc b9.ia b9.ic u9∧Modest p9∧Modest u9∧
   (cc=0→zV p9 u9=true∧szL p9≤szL p'+27∧szL u9≤szL u'+27∧(∀ B,AlgB p' u' alg B→AlgB p9 u9 alg (B+27))))
  case first =>
   have hC:=hC11.drew;have hT:=fU.drew;have hN:=Nr.drew;have hd:=Uy.drew;have zC:=Snap.le.refl H8
   refine zw 9 (fun w'=>w'.cell? ⟨w1.heap.size,0,none⟩=some (.int .i64 p'.kind)∧w'.cell? ⟨w1.heap.size,1,none⟩=some (.int .u64 p'.n)∧w'.cell? ⟨w1.heap.size,2,none⟩=some (.slice a'.ba p'.bytes.length a'.bc)∧w'.cell? ⟨w1.heap.size,3,none⟩=some (.slice a'.ia p'.items.length a'.ic)∧w'.cell? ⟨w1.heap.size,4,none⟩=some (.int .i64 u'.kind)∧w'.cell? ⟨w1.heap.size,5,none⟩=some (.int .u64 u'.n)∧w'.cell? ⟨w1.heap.size,6,none⟩=some (.slice b'.ba u'.bytes.length b'.bc)∧w'.cell? ⟨w1.heap.size,7,none⟩=some (.slice b'.ia u'.items.length b'.ic)) (by kernel_rfl) (⟨hC.cell 0 rfl,hC.cell 1 rfl,hC.cell 2 rfl,hC.cell 3 rfl,hC.cell 4 rfl,hC.cell 5 rfl,hC.cell 6 rfl,hC.cell 7 rfl⟩) (fun zy=>?_)
   refine Tk 0 rfl zy ?_
   refine To 1 rfl fun K hK=>?_
   go_simp
   refine(ui 98 (by omega) (by omega) _ hd.holds).mono ?_
   rintro e w4 ⟨v4,rfl,ja,jb,jc,jd,H4,rfl,yJ,qK⟩
   have sw:=yJ.none sw hN.lt;have hN:=hN.below yJ.below;have vS:=yJ.none vS hT.lt;have wM:=yJ.none wM hC.lt;have hC:=hC.below yJ.below;have hT:=hT.below yJ.below;have zC:=zC.trans yJ.le;have hd:=hd.grown yJ
   refine Ko hK ?_ fun zy=>?_
   ·exact⟨hC.cell 0 rfl,hC.cell 1 rfl,hC.cell 2 rfl,hC.cell 3 rfl,hC.cell 4 rfl,hC.cell 5 rfl,hC.cell 6 rfl,hC.cell 7 rfl⟩
   clear hK K
   refine To 2 rfl fun K hK=>?_
   go_simp
   have hO:=OwnI.lit (w:=w4) (ItemsC.one qK) w4.heap.size (Nat.le_refl _) (by simp);have hC:=hC.alloc (.cells (zZ (zg 98) ja jb jc jd).toArray 26);have hT:=hT.alloc (.cells (zZ (zg 98) ja jb jc jd).toArray 26);have GD:=hN.lt;have hN:=hN.alloc (.cells (zZ (zg 98) ja jb jc jd).toArray 26);have hd:=hd.alloc (.cells (zZ (zg 98) ja jb jc jd).toArray 26);obtain⟨H5,tQ,WP,wL,Ln,tD,sv,jM⟩:=hO.snap hd.holds (fun q hq=>by cases hq;exact yJ.holds.none_of_ge (Nat.le_refl _));have m8:∀ q,q<w4.heap.size→H4 q=none→H5 q=none:=fun q hq h0=>tA wL h0 (fun e=>by simp at e;omega)
   have hd:=hd.snap (B:=w4.heap.size) tQ WP wL (fun q hq=>by simp at hq;omega) (by omega) wH;have sw:=m8 _ GD sw;have vS:=m8 _ (by omega) vS;have wM:=m8 _ (by omega) wM;have zC:=zC.trans tQ
   refine Ko hK ?_ fun zy=>?_
   ·exact⟨hC.cell 0 rfl,hC.cell 1 rfl,hC.cell 2 rfl,hC.cell 3 rfl,hC.cell 4 rfl,hC.cell 5 rfl,hC.cell 6 rfl,hC.cell 7 rfl⟩
   clear hK K
   refine To 3 rfl fun K hK=>?_
   go_simp
   refine(XF (l:=[zg 98]) ⟨tD,sv,jM⟩ (ModestL.of fun y hy=>by rw[List.mem_singleton.1 hy];exact ua 98) (by simp) _ hd.holds).mono ?_
   rintro e w7 ⟨v7,rfl,la,lb,lc,ld,H7,rfl,wF,ff⟩
   have sw:=wF.none sw hN.lt;have hN:=hN.below wF.below;have vS:=wF.none vS hT.lt;have wM:=wF.none wM hC.lt;have hC:=hC.below wF.below;have hT:=hT.below wF.below;have zC:=zC.trans wF.le;have hd:=hd.grown wF
   refine Ko hK ?_ fun zy=>?_
   ·exact⟨hC.cell 0 rfl,hC.cell 1 rfl,hC.cell 2 rfl,hC.cell 3 rfl,hC.cell 4 rfl,hC.cell 5 rfl,hC.cell 6 rfl,hC.cell 7 rfl⟩
   clear hK K
   refine To 4 rfl fun K hK=>?_
   go_simp
   refine(vY (hTab.mono hd.le) (a:=a') (b:=b') (d:=⟨la,lb,lc,ld⟩) (tx.mono zC) (qN.mono zC) ff true 2 (by omega) (by omega) _ hd.holds).mono ?_
   rintro e w9 ⟨p9,u9,val,cc,rfl,⟨a9,b9,H9,rfl,sO,LQ,Ld⟩,tM,Rj,Rk,vW⟩
   have sw:=sO.none sw hN.lt;have hN:=hN.below sO.below;have vS:=sO.none vS hT.lt;have wM:=sO.none wM hC.lt;have hC:=hC.below sO.below;have hT:=hT.below sO.below;have zC:=zC.trans sO.le;have hd:=hd.grown sO
   refine Ko hK ?_ fun zy=>?_
   ·exact⟨hC.cell 0 rfl,hC.cell 1 rfl,hC.cell 2 rfl,hC.cell 3 rfl,hC.cell 4 rfl,hC.cell 5 rfl,hC.cell 6 rfl,hC.cell 7 rfl⟩
   clear hK K
   refine Tk 5 rfl zy ?_
   refine Tk 6 rfl zy ?_
   refine Tk 7 rfl zy ?_
   refine To 8 rfl fun K hK=>?_
   rw[if_pos (by rfl)]
   refine zk _ _ _ rfl _ _ rfl rfl _ _ hN zS rfl (wt _ _ _ _) fun w10 hN yY=>?_
   have hC:=hC.gr yY (by omega);have hT:=hT.gr yY (by omega);have hd:=hd.grownRow (row:=some N) (by rintro q ⟨⟩;exact sw) (by rintro q ⟨⟩;omega) wH yY
   refine Ko hK ?_ fun zy=>?_
   ·exact⟨hC.cell 0 rfl,hC.cell 1 rfl,hC.cell 2 rfl,hC.cell 3 rfl,hC.cell 4 rfl,hC.cell 5 rfl,hC.cell 6 rfl,hC.cell 7 rfl⟩
   clear hK K
   refine To 9 rfl fun K hK=>?_
   go_simp
   refine Kz hK ?_
   clear hK K
   refine Wd ?_
   go_wp2_with fail
   go_meet
   exact⟨cc,p9,u9,a9,b9,H9,rfl,hC,hT,hN,hd,zC,wM,vS,LQ,Ld,Rj,Rk,fun h0=>by obtain⟨x1,x2,x3,x4⟩:=tM h0;have:=Wl.2;exact⟨x1,by omega,by omega,fun B h=>h.put x4 iH.2 (by rw[iH.1];omega)⟩⟩
  case rest =>
  clear hC11 fU Nr Uy wM vS sw;obtain⟨cc,p9,u9,a9,b9,H9,rfl,hC,hT,hN,hd,V9,wM,vS,LQ,Ld,Rj,Rk,IB⟩:=hcut;have GO:=Hh IB;have tx:=tx.mono V9;have qN:=qN.mono V9;clear IB
  by_cases hcc:cc=0
  ·subst hcc;have Eh:=Hh (GO.out rfl);clear GO;go_upto_region 19 with fail
   have n0':=hN.cell 0 rfl;have n1':=hN.cell 1 rfl;have n2':=hN.cell 2 rfl;have n3':=hN.cell 3 rfl;have n4':=hN.cell 4 rfl;have n5':=hN.cell 5 rfl;have n6':=hN.cell 6 rfl;have n7':=hN.cell 7 rfl;go_wp2_with (with_reducible refine zx ?_)
   refine zt rfl _ _ _ rfl rfl _ _ rfl rfl _ _ hC zS rfl (wt _ _ _ _) fun w12 hC hg12=>?_
   have hT:=hT.gr hg12 (by omega);have hd:=hd.grownRow (row:=some w1.heap.size) (by rintro q ⟨⟩;exact wM) (by rintro q ⟨⟩;omega) wH hg12;clear hN n0' n1' n2' n3' n4' n5' n6' n7';have k0':=hC.cell 0 rfl;have k1':=hC.cell 1 rfl;have k2':=hC.cell 2 rfl;have k3':=hC.cell 3 rfl;have k4':=hC.cell 4 rfl;have k5':=hC.cell 5 rfl;have k6':=hC.cell 6 rfl;have k7':=hC.cell 7 rfl;go_wp2_with (with_reducible refine zx ?_)
   refine zt rfl _ _ _ rfl rfl _ _ rfl rfl _ _ hT zS rfl (wt _ _ _ _) fun wz vg wm=>?_
   have tF:=hd.grownRow (row:=some w.heap.size) (by rintro q ⟨⟩;exact vS) (by rintro q ⟨⟩;exact Nat.le_refl _) wH wm;go_wp2_with fail
   refine zR rfl rfl vg rfl rfl zS rfl ?_
   exact⟨p9,u9,a9,b9,H9,rfl,tF,LQ,Ld,Rj,Rk,fun h10=>by obtain⟨z1,z2,z3,z4⟩:=aF.out h10;obtain⟨x1,x2,x3,x4⟩:=GV.out;obtain⟨y1,y2,y3,y4⟩:=Eh.out;exact⟨y1,by omega,by omega,(y4 _ (x4 _ z4)).le (by omega)⟩⟩
  have b1:(cc==0)=false:=by simp[hcc]
  have p1:(cc=0)=False:=eq_false hcc;clear hcc;go_upto_region 20 with fail
  have k0':=hC.cell 0 rfl;have k1':=hC.cell 1 rfl;have k2':=hC.cell 2 rfl;have k3':=hC.cell 3 rfl;have k4':=hC.cell 4 rfl;have k5':=hC.cell 5 rfl;have k6':=hC.cell 6 rfl;have k7':=hC.cell 7 rfl;go_wp2_with (with_reducible refine zx ?_)
  refine zt rfl _ _ _ rfl rfl _ _ rfl rfl _ _ hT zS rfl (wt _ _ _ _) fun wz vg wm=>?_
  have tF:=hd.grownRow (row:=some w.heap.size) (by rintro q ⟨⟩;exact vS) (by rintro q ⟨⟩;exact Nat.le_refl _) wH wm;go_wp2_with fail
  refine zR rfl rfl vg rfl rfl zS rfl ?_
  exact⟨p',u',a',b',H9,rfl,tF,tx,qN,rz,sA,fun h10=>by obtain⟨z1,z2,z3,z4⟩:=aF.out h10;obtain⟨x1,x2,x3,x4⟩:=GV.out;exact⟨x1,by omega,by omega,(x4 _ z4).le (by omega)⟩⟩
 have hb:((j:Int)==5)=false∨(((j:Int)==5)=true∧(cc==0)=false):=by
  by_cases h5:j=5
  ·right;exact⟨by simp[h5],by have:cc≠0:=fun h=>hgo ⟨h5,h⟩;simp[this]⟩
  left;rw[beq_eq_false_iff_ne];omega
 clear hgo
 rcases hb with hb | ⟨hb,zG⟩
 ·go_upto_region 20 with fail
  have k0':=hC.cell 0 rfl;have k1':=hC.cell 1 rfl;have k2':=hC.cell 2 rfl;have k3':=hC.cell 3 rfl;have k4':=hC.cell 4 rfl;have k5':=hC.cell 5 rfl;have k6':=hC.cell 6 rfl;have k7':=hC.cell 7 rfl;go_wp2_with (with_reducible refine zx ?_)
  refine zt rfl _ _ _ rfl rfl _ _ rfl rfl _ _ hT zS rfl (wt _ _ _ _) fun wz vg wm=>?_
  have tF:=hd.grownRow (row:=some w.heap.size) (by rintro q ⟨⟩;exact vS) (by rintro q ⟨⟩;exact Nat.le_refl _) wH wm;go_wp2_with fail
  refine zR rfl rfl vg rfl rfl zS rfl ?_
  exact⟨p,u,a,b,H8,rfl,tF,hp,hu,m9,i6,fun h10=>by obtain⟨z1,z2,z3,z4⟩:=aF.out h10;exact⟨z1,by omega,by omega,z4.le (by omega)⟩⟩
 go_upto_region 20 with fail
 have k0':=hC.cell 0 rfl;have k1':=hC.cell 1 rfl;have k2':=hC.cell 2 rfl;have k3':=hC.cell 3 rfl;have k4':=hC.cell 4 rfl;have k5':=hC.cell 5 rfl;have k6':=hC.cell 6 rfl;have k7':=hC.cell 7 rfl;go_wp2_with (with_reducible refine zx ?_)
 refine zt rfl _ _ _ rfl rfl _ _ rfl rfl _ _ hT zS rfl (wt _ _ _ _) fun wz vg wm=>?_
 have tF:=hd.grownRow (row:=some w.heap.size) (by rintro q ⟨⟩;exact vS) (by rintro q ⟨⟩;exact Nat.le_refl _) wH wm;go_wp2_with fail
 refine zR rfl rfl vg rfl rfl zS rfl ?_
 exact⟨p,u,a,b,H8,rfl,tF,hp,hu,m9,i6,fun h10=>by obtain⟨z1,z2,z3,z4⟩:=aF.out h10;exact⟨z1,by omega,by omega,z4.le (by omega)⟩⟩
theorem eN {H:Snap}{g:Nat}(hTab:Tabs H) (w:World) (hD:DeckIn w g H) (alg:Int) (Yr : -1000≤alg) (WN:alg≤1000) :
  Calls Tryz.prog 18 #[.pointer (some ⟨g,0,none⟩),.int .i64 alg] w (WX w H g alg) :=
 (eO hTab w hD alg Yr WN).mono fun _ _ ⟨p,u,a,b,H',h1,h2,h3,h4,h5,h6,h7⟩=>⟨p,u,a,b,H',h1,h2,h3,h4,h5,h6,fun h=>by
  obtain⟨x,y,_,t⟩:=h7 h
  exact⟨x,by omega,t.1⟩⟩
theorem cL {H:Snap}{g:Nat}(hTab:Tabs H) (w:World) (hD:DeckIn w g H) (alg:Int) (Yr : -1000≤alg) (WN:alg≤1000) :
  Calls Tryz.prog 18 #[.pointer (some ⟨g,0,none⟩),.int .i64 alg] w (Tq w H g alg) :=
 (eN hTab w hD alg Yr WN).mono fun _ _ ⟨p,u,a,b,H',h1,h2,h3,h4,h5,h6,h7⟩=>⟨p,u,a,b,H',h1,h2,h3,h4,h5,h6,fun h=>by
  obtain⟨x,y,_⟩:=h7 ⟨10,.inl rfl,by rw[h];exact U4⟩
  exact⟨x,y⟩⟩
end Go.Proofs.YtliomcphdnppnaaGreatDoor
