/- squeezed. Walks: the deck's headers. Walks:  -/
import Derived.Test.YtliomcphdnppnaaGreatDoorK36
set_option linter.unusedVariables false
set_option linter.unusedSimpArgs false
set_option maxRecDepth 100000
set_option maxHeartbeats 25600000
namespace Go.Proofs.YtliomcphdnppnaaGreatDoor
open Go.RowKit
theorem jai{P:Prop}(h:P:=by
 refine Ko hK ?_ fun zy=>?_
 ·exact trivial
 clear hK K
 refine To 6 rfl fun K hK=>?_
 go_simp
 refine(uN (hTab.mono hd.le) (p:=yh) (u:=yh) (a:=⟨none,0,none,0⟩) (b:=⟨none,0,none,0⟩) (d:=⟨ja,jb,jc,jd⟩) (IsItem.plain _ 5 0 (by omega) (by omega)) (IsItem.plain _ 5 0 (by omega) (by omega)) rm _ 1 (by omega) (by omega) _ hd.holds).mono ?_
 rintro e w6 ⟨p',u',val,c,rfl,⟨a',b',H6,rfl,xq,rI,kD⟩,qr,qG,qH,uy⟩
 have uq:=xq.none uq hT.lt;have vB:=xq.none vB hC.lt;have hC:=hC.below xq.below;have hT:=hT.below xq.below;have hd:=hd.grown xq
 refine Ko hK ?_ fun zy=>?_
 ·exact trivial
 clear hK K
 refine TkT 7 rfl ?_
 refine TkT 8 rfl ?_
 refine TkT 9 rfl ?_
 refine To 10 rfl fun K hK=>?_
 rw[if_pos (by rfl)]
 refine zh _ _ _ rfl _ _ rfl rfl _ _ hC zD rfl (vr _ _ _ _) fun w7 hC ww=>?_
 have hT:=hT.gr ww (by omega);have hd:=hd.grownRow (row:=some w1.heap.size) (by rintro q ⟨⟩;exact vB) (by rintro q ⟨⟩;omega) wl ww
 refine Kz hK ?_
 clear hK K
 refine Wd ?_
 go_wp2_with fail
 go_meet
 refine⟨p',u',a',b',H6,hC,hT,hd,vB,uq,rI,kD,qG,qH,fun h10=>?_⟩
 obtain⟨hv,vV,dJ,ZU⟩:=qr (uy (by first | trivial | rfl) (by first | trivial | rfl) (by first | trivial | rfl) h10);have he:=rM alg;have he0:=eo
 exact⟨hv,by omega,by omega,⟨(ZU.1 _).1 (.inr (.inr rfl)),by have:=iD.put (k:=18) ZU (vZ alg).2 (by rw[(vZ alg).1];omega);rwa [Nat.zero_add]at this⟩⟩):P:=h
theorem jap{P:Prop}(h:P:=by exact⟨hC.cell 0 rfl,hC.cell 1 rfl,hC.cell 2 rfl,hC.cell 3 rfl,hC.cell 4 rfl,hC.cell 5 rfl,hC.cell 6 rfl,hC.cell 7 rfl⟩):P:=h
theorem jaq{P:Prop}(h:P:=by
 refine To 11 rfl fun K hK=>?_
 rw[if_pos (by rfl)]
 refine zh _ _ _ rfl _ _ rfl rfl _ _ hN zD rfl (vr _ _ _ _) fun w10 hN xW=>?_
 have hC:=hC.gr xW (by omega);have hT:=hT.gr xW (by omega);have hV:=hV.gr xW (by omega);have hd:=hd.grownRow (by rintro q ⟨⟩;exact sQ) (by rintro q ⟨⟩;omega) wl xW
 refine Ko hK ?_ fun zy=>?_
 ·exact jew
 clear hK K
 refine To 12 rfl fun K hK=>?_
 go_simp
 refine Kz hK ?_
 clear hK K
 refine Wd ?_
 go_wp2_with fail
 go_meet
 exact⟨_,cc,p',u',a',b',H8,rfl,rfl,hC,hT,hN,hd,yw,vB,uq,rI,kD,qG,qH,fun h0=>by obtain⟨x1,x2,x3,x4⟩:=qr h0;obtain⟨m1,m2,m3⟩:=JC.out;have e1:BI 1=243:=rfl;have e2:CI 1=7:=rfl;exact⟨x1,by omega,by omega,fun B h=>h.put x4 m3 (by omega)⟩⟩):P:=h
theorem jar{P:Prop}(h:P:=by exact jew):P:=h
theorem jaV{P:Prop}(h:P:=by
 clear hK K
 refine To 8 rfl fun K hK=>?_
 go_simp
 refine Kz hK ?_
 clear hK K
 refine Wd ?_
 go_wp2_with fail
 go_meet
 exact⟨_,cc,p',u',a',b',H8,rfl,rfl,hC,hT,hN,hd,yw,vB,uq,sQ,WX,rI,kD,qG,qH,fun h0=>by obtain⟨x1,x2,x3,x4⟩:=qr h0;have:=rM 1;exact⟨x1,by omega,by omega,fun B h=>h.put x4 (vZ 1).2 (by rw[(vZ 1).1];omega)⟩⟩):P:=h
theorem ja0{P:Prop}(h:P:=by
 go_upto_region 20 with fail
 have k0':=hC.cell 0 rfl;have k1':=hC.cell 1 rfl;have k2':=hC.cell 2 rfl;have k3':=hC.cell 3 rfl;have k4':=hC.cell 4 rfl;have k5':=hC.cell 5 rfl;have k6':=hC.cell 6 rfl;have k7':=hC.cell 7 rfl;go_wp2_with (with_reducible refine zx ?_)
 refine zv rfl _ _ _ rfl rfl _ _ rfl rfl _ _ hT zD rfl (vr _ _ _ _) fun wz uo yS=>?_
 have wK:=hd.gb uq (Nat.le_refl _) wl yS;go_wp2_with fail
 refine zF rfl rfl uo rfl rfl zD rfl ?_
 exact⟨p,u,a,b,H8,rfl,wK,hp,hu,gn,dH,fun h10=>by obtain⟨z1,z2,z3,z4⟩:=Su.out h10;exact⟨z1,by omega,by omega,z4.le (by omega)⟩⟩):P:=h
theorem jd6{P:Prop}(h:P:=by
 refine Ko hK ?_ fun zy=>?_
 ·exact jap
 clear hK K
 refine To 2 rfl fun K hK=>?_
 go_simp
 refine(uN (hTab.mono hd.le) (a:=a) (b:=b) (d:=⟨ja,jb,jc,jd⟩) hp hu rm true 98 (by omega) (by omega) _ hd.holds).mono ?_
 rintro e w9 ⟨p',u',val,cc,rfl,⟨a',b',H8,rfl,xJ,rI,kD⟩,qr,qG,qH,uy⟩
 try have sQ:=xJ.none sQ hN.lt
 try have hN:=hN.below xJ.below
 have uq:=xJ.none uq hT.lt;have vB:=xJ.none vB hC.lt;have hC:=hC.below xJ.below;have hT:=hT.below xJ.below;have yw:=yw.trans xJ.le;have hd:=hd.grown xJ
 refine Ko hK ?_ fun zy=>?_
 ·exact jap
 clear hK K
 refine Tk 3 rfl zy ?_
 refine Tk 4 rfl zy ?_
 refine Tk 5 rfl zy ?_
 exact jeY):P:=h
theorem jea{P:Prop}(h:P:=by
 refine To 6 rfl fun K hK=>?_
 go_simp
 refine(uN (hTab.mono hd.le) (a:=a) (b:=b) (d:=c) hp hu hy _ nn (by have:=jv.out;omega) (by have:=jv.out;omega) _ hd.holds).mono ?_
 rintro e w9 ⟨p',u',val,cc,rfl,⟨a',b',H8,rfl,xJ,rI,kD⟩,qr,qG,qH,uy⟩
 try have sQ:=xJ.none sQ hN.lt
 try have hN:=hN.below xJ.below
 have uq:=xJ.none uq hT.lt;have vB:=xJ.none vB hC.lt;have hC:=hC.below xJ.below;have hT:=hT.below xJ.below;have hV:=hV.below xJ.below;have yw:=yw.trans xJ.le;have hd:=hd.grown xJ
 refine Ko hK ?_ fun zy=>?_
 ·exact jar
 clear hK K
 refine Tk 7 rfl zy ?_
 refine Tk 8 rfl zy ?_
 refine Tk 9 rfl zy ?_
 exact jaq):P:=h
theorem jel{P:Prop}(h:P:=by
 refine To 5 rfl fun K hK=>?_
 go_simp
 refine(tD alg (by have:=HA.out;omega) (by have:=HA.out;omega) _ hd.holds).mono ?_
 rintro e w4 ⟨v4,rfl,ja,jb,jc,jd,H4,rfl,yF,rm⟩
 have uq:=yF.none uq hT.lt;have vB:=yF.none vB hC.lt;have hC:=hC.below yF.below;have hT:=hT.below yF.below;have hd:=hd.grown yF
 exact jai):P:=h
theorem jew{P:Prop}(h:P:=by exact⟨hC.cell 0 rfl,hC.cell 1 rfl,hC.cell 2 rfl,hC.cell 3 rfl,hC.cell 4 rfl,hC.cell 5 rfl,hC.cell 6 rfl,hC.cell 7 rfl,hV.cell 0 rfl,hV.cell 1 rfl,hV.cell 2 rfl,hV.cell 3 rfl⟩):P:=h
theorem jeY{P:Prop}(h:P:=by
 refine To 7 rfl fun K hK=>?_
 rw[if_pos (by rfl)]
 refine zh _ _ _ rfl _ _ rfl rfl _ _ hN zD rfl (vr _ _ _ _) fun w10 hN xW=>?_
 have hC:=hC.gr xW (by omega);have hT:=hT.gr xW (by omega);have hd:=hd.grownRow (by rintro q ⟨⟩;exact sQ) (by rintro q ⟨⟩;omega) wl xW
 refine Ko hK ?_ fun zy=>?_
 ·exact jap
 exact jaV):P:=h
theorem jfg{P:Prop}(h:P:=by have hN:=qL hd 28 (zA ze ⟨none,0,none,0⟩ ze ⟨none,0,none,0⟩);have sQ:=hd.holds.none_of_ge (Nat.le_refl _);exact And.intro hN sQ):P:=h
theorem jfK{P:Prop}(h:P:=by have uq:=yF.none uq hT.lt;have vB:=yF.none vB hC.lt;have hC:=hC.below yF.below;have hT:=hT.below yF.below;exact And.intro uq (And.intro vB (And.intro hC hT))):P:=h
theorem jfQ{P:Prop}(h:P:=by have k0:=hC.cell 0 rfl;have k1:=hC.cell 1 rfl;have k2:=hC.cell 2 rfl;have k3:=hC.cell 3 rfl;have k4:=hC.cell 4 rfl;have k5:=hC.cell 5 rfl;have k6:=hC.cell 6 rfl;have k7:=hC.cell 7 rfl;exact And.intro k0 (And.intro k1 (And.intro k2 (And.intro k3 (And.intro k4 (And.intro k5 (And.intro k6 k7))))))):P:=h
theorem jfY{P:Prop}(h:P:=by have n0':=hN.cell 0 rfl;have n1':=hN.cell 1 rfl;have n2':=hN.cell 2 rfl;have n3':=hN.cell 3 rfl;have n4':=hN.cell 4 rfl;have n5':=hN.cell 5 rfl;have n6':=hN.cell 6 rfl;have n7':=hN.cell 7 rfl;exact And.intro n0' (And.intro n1' (And.intro n2' (And.intro n3' (And.intro n4' (And.intro n5' (And.intro n6' n7'))))))):P:=h
theorem jgr{P:Prop}(h:P:=by have Sm:=hd.grownRow (row:=some w1.heap.size) (by rintro q ⟨⟩;exact vB) (by rintro q ⟨⟩;omega) wl pY;exact Sm):P:=h
def AlgIn (p u:Itm) (alg:Int):Prop:=(zS 1,zS alg)∈zT p.items∨(zS 1,zS alg)∈zT u.items
theorem AlgIn.put {p u p' u':Itm}{alg:Int}{r:Itm×Itm}(h:AlgIn p u alg) (k:fV p u p' u' r):AlgIn p' u' alg:=(k.1 _).1 (h.elim .inl fun h=>.inr (.inl h))
def Few (p u:Itm) (B:Nat):Prop:=(∀ q,q∈zT p.items∨q∈zT u.items→dep q.1≤1∧dep q.2≤1)∧9*(yf p.items+yf u.items)≤B
def AlgB (p u:Itm) (alg:Int) (B:Nat):Prop:=AlgIn p u alg∧Few p u B
theorem vZ (n:Int):cnt (zS n)=1∧dep (zS n)≤1:=by
 rw[zS]
 split
 ·exact⟨by rw[cnt,yf],by rw[dep,fz];omega⟩
 exact⟨by rw[cnt,yf],by rw[dep,fz];omega⟩
theorem iD:Few yh yh 0:=⟨fun q h=>by simp[yh,Itm.items,zT]at h,by simp[yh,Itm.items,yf]⟩
theorem Few.put {p u p' u' v:Itm}{B k:Nat}{n:Int}(h:Few p u B) (hp:fV p u p' u' (zS n,v)) (hd:dep v≤1) (hk:9*(1+cnt v)≤k):Few p' u' (B+k):=by
 refine⟨fun q hq=>?_, ?_⟩
 ·rcases(hp.1 q).2 hq with h1 | h1 | rfl
  ·exact h.1 q (.inl h1)
  ·exact h.1 q (.inr h1)
  exact⟨(vZ n).2,hd⟩
 have h1:=hp.2;have h2:=h.2;have h3:=(vZ n).1
 simp only at h1
 omega
theorem AlgB.put {p u p' u' v:Itm}{alg n:Int}{B k:Nat}(h:AlgB p u alg B) (hp:fV p u p' u' (zS n,v)) (hd:dep v≤1) (hk:9*(1+cnt v)≤k):AlgB p' u' alg (B+k):=⟨h.1.put hp,h.2.put hp hd hk⟩
theorem AlgB.le {p u:Itm}{alg:Int}{B B':Nat}(h:AlgB p u alg B) (hb:B≤B'):AlgB p u alg B':=⟨h.1,h.2.1,Nat.le_trans h.2.2 hb⟩
def Vq (w:World) (H:Snap) (alg:Int) (g C B:Nat) (wx:World):Prop:=∃ (p u:Itm) (a b:Ad) (Hx:Snap),Blk wx C 28 (zA p a u b)∧Blk wx w.heap.size 28 (zA ze ⟨none,0,none,0⟩ ze ⟨none,0,none,0⟩)∧Dealt w H wx Hx g∧Hx C=none∧Hx w.heap.size=none∧
 IsItem Hx a.ba a.bc a.ia a.ic p∧IsItem Hx b.ba b.bc b.ia b.ic u∧Modest p∧Modest u∧(Yk (zS alg)→zL p u=true∧szL p≤B∧szL u≤B∧AlgB p u alg B)
def Mp (w:World) (H:Snap) (g:Nat) (alg:Int) (e:Ending) (w':World):Prop:=∃ (p u:Itm) (a b:Ad) (H':Snap),e=.returned (.agg (zA p a u b))∧Dealt w H w' H' g∧IsItem H' a.ba a.bc a.ia a.ic p∧IsItem H' b.ba b.bc b.ia b.ic u∧Modest p∧Modest u∧
 (Yk (zS alg)→zL p u=true∧szL p≤1000∧szL u≤1000∧AlgB p u alg 1000)
theorem qL {w w':World}{H H':Snap}{g:Nat}(_h:Dealt w H w' H' g) (t:TypeId) (cs:Array Value):Blk (w'.alloc (.cells cs t)) w'.heap.size t cs:=Blk.new _ _ _
theorem jJ:Modest yh:=yR _ _ _ (by simp)
theorem eo:szL yh=0:=by simp[szL,Itm.items,zP]
theorem vr (p u:Itm) (a b:Ad):(zA p a u b).all (·.oneCell')=true:=by kernel_rfl
theorem aq:cnt (.mk 4 0 [] [zS 98])=2∧dep (.mk 4 0 [] [zS 98])≤1:=by
 have h1:=(vZ 98).1;have h2:dep (zS 98)=0:=rfl
 refine⟨by rw[cnt,yf,yf];omega, ?_⟩
 rw[dep,fz,fz]
 omega
theorem NC:Modest (.mk 4 0 [] [zS 98])∧(zZ (.mk 4 0 [] [zS 98])).length≤18:=by
 refine⟨?_, ?_⟩
 ·rw[Modest,ModestL,ModestL];exact⟨by simp,by simp,sw 98,trivial⟩
 have h1:=yq 4 0 [] [zS 98] (by omega) (by omega);have h2:=rM 98
 simp only[zP,List.length_append,List.length_nil,List.append_nil]at h1
 omega
theorem gX {H:Snap}{g:Nat}(hTab:Tabs H) (w:World) (hD:DeckIn w g H) (alg:Int) (MF : -1000≤alg) (ii:alg≤1000) :
  Calls Tryz.prog 18 #[.pointer (some ⟨g,0,none⟩),.int .i64 alg] w (Mp w H g alg):=by
 have wl:=hD.deck.lt;have hT:=Blk.new w 28 (zA ze ⟨none,0,none,0⟩ ze ⟨none,0,none,0⟩);have tT:=hD.grows ((Grows.refl hD.holds).alloc wG);have uq:H w.heap.size=none:=hD.holds.none_of_ge (Nat.le_refl _);have JI:=hD.holds;have HA:=Hh (And.intro MF ii);clear hD MF ii;go_enter Tryz.func18,Tryz.ntmps18
 go_wp2_with fail
 refine(m6 _).mono ?_
 rintro e w1 ⟨rfl,zB⟩
 have hT:=(hT.below zB).alloc (.cells (zA yh ⟨none,0,none,0⟩ yh ⟨none,0,none,0⟩) 28);have hd:=(tT.grown (Grows.of_below tT.holds zB)).alloc (.cells (zA yh ⟨none,0,none,0⟩ yh ⟨none,0,none,0⟩) 28);have hC:=Blk.new w1 28 (zA yh ⟨none,0,none,0⟩ yh ⟨none,0,none,0⟩);have sW:w.heap.size<w1.heap.size:=by have:=zB.size;simp only[zr]at this;omega
 have vB:H w1.heap.size=none:=JI.none_of_ge (by omega);clear zB tT JI;go_upto_if 15 with fail
 go_cut [15] (fun s15 wx=>Vq w H alg g w1.heap.size 18 wx)
 case first =>
  by_cases ha:alg=0
  ·subst ha;go_wp2_with fail
   go_meet
   exact⟨yh,yh,_,_,H,hC,hT,hd,vB,uq,IsItem.plain _ 5 0 (by omega) (by omega),IsItem.plain _ 5 0 (by omega) (by omega),jJ,jJ,fun h=>by obtain⟨k,hk,e⟩:=h;rw[zS,if_neg (by omega)]at e;injection e with _ e;simp at e;omega⟩
  have b1:(alg != 0)=true:=by simp[ha]
  have p1:(alg=0)=False:=eq_false ha;clear ha;go_upto_region 3 with fail
  have hC:=hC.drew;have hT:=hT.drew;have hd:=hd.drew
  refine zw 10 (fun _=>True) (by kernel_rfl) (trivial) (fun zy=>?_)
  refine TkT 1 rfl ?_
  refine TkT 4 rfl ?_
  refine Ways.two (i:=0) (j:=2) rfl rfl (by kernel_rfl) (fun K hK=>?_) (fun K hK=>?_)
  ·obtain⟨k0,k1,k2,k3,k4,k5,k6,k7⟩:=jfQ;go_simp
   refine Ko hK ?_ fun zy=>?_
   ·exact trivial
   clear hK K
   refine To 2 rfl fun K hK=>?_
   go_simp
   refine(yN _ hd.deck 4 (by omega) (by omega)).mono ?_
   rintro e w3 ⟨q,rfl,hq,wH⟩
   have hC:=hC.dealt wH (by omega);have hT:=hT.dealt wH (by omega);have hd:=hd.trans wH
   refine Ko hK ?_ fun zy=>?_
   ·exact trivial
   clear hK K
   refine TkT 3 rfl ?_
   exact jel
  go_simp
  refine(yN _ hd.deck 4 (by omega) (by omega)).mono ?_
  rintro e w3 ⟨q,rfl,hq,wH⟩
  have hC:=hC.dealt wH (by omega);have hT:=hT.dealt wH (by omega);have hd:=hd.trans wH
  refine Ko hK ?_ fun zy=>?_
  ·exact trivial
  clear hK K
  refine TkT 3 rfl ?_
  refine Ways.two (i:=0) (j:=5) rfl rfl (by kernel_rfl) (fun K hK=>?_) (fun K hK=>?_)
  ·obtain⟨k0,k1,k2,k3,k4,k5,k6,k7⟩:=jfQ;go_simp
   refine Ko hK ?_ fun zy=>?_
   ·exact trivial
   clear hK K
   exact jel
  go_simp
  refine(tD alg (by have:=HA.out;omega) (by have:=HA.out;omega) _ hd.holds).mono ?_
  rintro e w4 ⟨v4,rfl,ja,jb,jc,jd,H4,rfl,yF,rm⟩
  obtain⟨uq,vB,hC,hT⟩:=jfK;have hd:=hd.grown yF
  refine Ko hK ?_ fun zy=>?_
  ·exact trivial
  clear hK K
  refine To 0 rfl fun K hK=>?_
  obtain⟨k0,k1,k2,k3,k4,k5,k6,k7⟩:=jfQ;go_simp
  exact jai
 case rest =>
 clear hC hT hd vB uq;obtain⟨p,u,a,b,Hx,hC,hT,hd,vB,uq,hp,hu,gn,dH,hK⟩:=hcut;have N3:=Hh (yN wc hd.deck 3 (by omega) (by omega));have HK:=Hh hK;clear hK;go_wp2_with fail
 refine N3.out.mono ?_
 rintro e w2 ⟨n0,rfl,yO,xz⟩
 have pZ:=hC.dealt xz (by omega);have vU:=hT.dealt xz (by omega);have QQ:=hd.trans xz;have hS0:Vq w H alg g w1.heap.size (18+252*(2-n0)) w2:=⟨p,u,a,b,Hx,pZ,vU,QQ,vB,uq,hp,hu,gn,dH,fun h=>by obtain⟨x1,x2,x3,x4⟩:=HK.out h;exact⟨x1,by omega,by omega,x4.le (by omega)⟩⟩
 clear N3 xz hC hT hd pZ vU QQ vB uq hp hu gn dH HK;go_wp2_with fail
 go_loopw [6] (fun v6 wx=>∃ kk:Nat,v6=.int .i64 (kk:Int)∧kk≤2∧Vq w H alg g w1.heap.size (18+252*(2-kk)) wx) (fun v6 _=>(intOf v6).toNat)
 case atStart=>exact⟨n0,rfl,by omega,hS0⟩
 case round =>
 clear hS0 yO;obtain⟨kk,rfl,ZQ,p,u,a,b,Hx,hC,hT,hd,vB,uq,hp,hu,gn,dH,hK⟩:=hrel;have HK:=Hh hK;have DF:=Hh ZQ;clear hK ZQ
 by_cases yu:(0:Int)<(kk:Int)
 ·-- one more parameter
  have hB:=Blk.new wr 3 #[.int .i64 4,.int .i64 6,.int .i64 3,.int .i64 99,.int .i64 (-7)];have wH:=hd.alloc (.cells #[.int .i64 4,.int .i64 6,.int .i64 3,.int .i64 99,.int .i64 (-7)] 3);have dL:=hC.alloc (.cells #[.int .i64 4,.int .i64 6,.int .i64 3,.int .i64 99,.int .i64 (-7)] 3);have ti:=hT.alloc (.cells #[.int .i64 4,.int .i64 6,.int .i64 3,.int .i64 99,.int .i64 (-7)] 3);have N5:=Hh (yN _ wH.deck 5 (by omega) (by omega));clear hC hT;go_wp2_with fail
  refine N5.out.mono ?_
  rintro e w4 ⟨j,rfl,hj,uT⟩
  have oh:=hB.dealt uT (by have:=hd.size;omega);obtain⟨v,hc,hP⟩:=oh.pick Oy (by kernel_rfl) j (by simp;omega);obtain⟨nn,rfl,sV⟩:=Uv hP;have oD:=dL.dealt uT (by omega);have uG:=ti.dealt uT (by omega);have tU:=wH.trans uT;have jv:=Hh sV;have BY:=Hh (eY w4 tU.deck 5 (by omega) (by omega));clear N5 hB oh hP hd wH uT sV dL ti;go_wp2_with fail
  refine BY.out.mono ?_
  rintro e w5 ⟨A,c5,l5,rfl,rH,H5,xS,vA⟩
  have Lw:=oD.dealt vA (by omega);have rF:=uG.dealt vA (by omega);have Cq:=vA.hid vB oD.lt;have Cr:=vA.hid uq uG.lt;have qz:=tU.trans vA;have ZT:=hp.mono vA.le;have gK:=hu.mono vA.le;have RB:=Hh (iK (A:=A) (c:=c5) (l:=l5) rfl (by omega) w5 (Src.of_row xS.row vA.holds) vA.holds);have dK:=Hh rH;clear BY tU vA oD uG vB uq hp hu xS rH hc;go_wp2_with fail
  refine RB.out.mono ?_
  rintro e w6 ⟨v6,rfl,ja,jb,jc,jd,H6,rfl,xq,rV⟩
  obtain⟨Y,hY⟩:∃ Y,Itm.mk 2 0 l5 []=Y:=⟨_,rfl⟩
  rw[hY]at rV⊢
  have HY:=Hh (show Modest Y∧Lim 1 Y by
   rw[← hY]
   refine⟨yR _ _ _ (by have:=dK.out;omega),xU ?_⟩
   have:=yq 2 0 l5 [] (by omega) (by omega);have:=dK.out;have:=ey 1
   simp[zP]at *
   omega)
  have hC:=(Lw.below xq.below).alloc (zU Y ja jb jc jd);have hT:=(rF.below xq.below).alloc (zU Y ja jb jc jd);have hV:=Blk.new w6 26 #[.int .i64 Y.kind,.int .u64 Y.n,.slice ja Y.bytes.length jb,.slice jc Y.items.length jd];have vB:=xq.none Cq Lw.lt;have uq:=xq.none Cr rF.lt;have Wp:w1.heap.size<w6.heap.size:=by have:=Lw.lt;have:=xq.size;omega
  have hd:=(qz.grown xq).alloc (zU Y ja jb jc jd);have Fc:H6 w6.heap.size=none:=xq.holds.none_of_ge (Nat.le_refl _);have hp:=ZT.mono xq.le;have hu:=gK.mono xq.le;clear RB qz Lw rF Cq Cr ZT gK xq hY;go_upto_if 41 with fail
  go_cut [41] (fun s41 wx=>∃ (y:Itm) (c:Ad) (H7:Snap),H6.le H7∧Blk wx w1.heap.size 28 (zA p a u b)∧Blk wx w.heap.size 28 (zA ze ⟨none,0,none,0⟩ ze ⟨none,0,none,0⟩)∧Blk wx w6.heap.size 26 #[.int .i64 y.kind,.int .u64 y.n,.slice c.ba y.bytes.length c.bc,.slice c.ia y.items.length c.ic]∧
   Dealt w H wx H7 g∧H7 w1.heap.size=none∧H7 w.heap.size=none∧H7 w6.heap.size=none∧IsItem H7 c.ba c.bc c.ia c.ic y∧Modest y∧Lim 1 y)
  case first =>
   by_cases h99:nn=99
   ·subst h99;have IT:=Hh (RJ 0 (by omega) RK _ _ _ (hTab.mono hd.le) hd.deck);go_wp2_with fail
    refine IT.out.mono ?_
    rintro e w7 ⟨v7,y,rfl,⟨ka,kb,kc,kd,H7,rfl,qz,ZF⟩,ik,dP⟩
    have Lx:=hC.dealt qz (by omega);have rG:=hT.dealt qz (by omega);have hV7:=hV.dealt qz (by omega);have zAj:=qz.hid vB hC.lt;have zAi:=qz.hid uq hT.lt;have Cs:=qz.hid Fc hV.lt;have mv:=hd.trans qz;have La:=qz.le;have JC:=Hh (And.intro ik dP);clear IT qz hC hT hV vB uq Fc hd ik dP;go_wp2_with (with_reducible refine zx ?_)
    refine stI hV7 fun w8 hV8 hg8=>?_
    have hC8:=Lx.gr hg8 (by omega);have gl:=rG.gr hg8 (by omega);have dN:=mv.grownRow (row:=some w6.heap.size) (by rintro q ⟨⟩;exact Cs) (by rintro q ⟨⟩;omega) wl hg8;go_wp2_with fail
    go_meet
    exact⟨y,⟨ka,kb,kc,kd⟩,H7,La,hC8,gl,hV8,dN,zAj,zAi,Cs,ZF,JC.out.1,JC.out.2⟩
   have b1:(nn==99)=false:=by simp[h99]
   have p1:(nn=99)=False:=eq_false h99;clear h99;go_wp2_with fail
   go_meet
   exact⟨Y,⟨ja,jb,jc,jd⟩,H6,Snap.le.refl _,hC,hT,hV,hd,vB,uq,Fc,rV,HY.out.1,HY.out.2⟩
  case rest =>
  clear hC hT hV hd vB uq Fc rV;obtain⟨y,c,H7,La,hC,hT,hV,hd,vB,uq,Fc,hy,ik,dP⟩:=hcut;have JC:=Hh dP;have hp:=hp.mono La;have hu:=hu.mono La;clear dP;go_upto_region 11 with fail
  go_cut [9,10] (fun s9 s10 wx=>∃ (N:Nat) (cc:Int) (p' u':Itm) (a' b':Ad) (H8:Snap),s9=.pointer (some ⟨N,0,none⟩)∧s10=.int .i64 cc∧Blk wx w1.heap.size 28 (zA p a u b)∧Blk wx w.heap.size 28 (zA ze ⟨none,0,none,0⟩ ze ⟨none,0,none,0⟩)∧Blk wx N 28 (zA p' a' u' b')∧
   Dealt w H wx H8 g∧H7.le H8∧H8 w1.heap.size=none∧H8 w.heap.size=none∧IsItem H8 a'.ba a'.bc a'.ia a'.ic p'∧IsItem H8 b'.ba b'.bc b'.ia b'.ic u'∧Modest p'∧Modest u'∧
   (cc=0→zL p' u'=true∧szL p'≤szL p+252∧szL u'≤szL u+252∧(∀ B,AlgB p u alg B→AlgB p' u' alg (B+252))))
  case first =>
   have hC:=hC.drew;have hT:=hT.drew;have hV:=hV.drew;have hd:=hd.drew;have yw:=Snap.le.refl H7
   refine zw 12 (fun w'=>w'.cell? ⟨w1.heap.size,0,none⟩=some (.int .i64 p.kind)∧w'.cell? ⟨w1.heap.size,1,none⟩=some (.int .u64 p.n)∧w'.cell? ⟨w1.heap.size,2,none⟩=some (.slice a.ba p.bytes.length a.bc)∧w'.cell? ⟨w1.heap.size,3,none⟩=some (.slice a.ia p.items.length a.ic)∧w'.cell? ⟨w1.heap.size,4,none⟩=some (.int .i64 u.kind)∧w'.cell? ⟨w1.heap.size,5,none⟩=some (.int .u64 u.n)∧w'.cell? ⟨w1.heap.size,6,none⟩=some (.slice b.ba u.bytes.length b.bc)∧w'.cell? ⟨w1.heap.size,7,none⟩=some (.slice b.ia u.items.length b.ic)∧w'.cell? ⟨w6.heap.size,0,none⟩=some (.int .i64 y.kind)∧w'.cell? ⟨w6.heap.size,1,none⟩=some (.int .u64 y.n)∧w'.cell? ⟨w6.heap.size,2,none⟩=some (.slice c.ba y.bytes.length c.bc)∧w'.cell? ⟨w6.heap.size,3,none⟩=some (.slice c.ia y.items.length c.ic)) (by kernel_rfl) (⟨hC.cell 0 rfl,hC.cell 1 rfl,hC.cell 2 rfl,hC.cell 3 rfl,hC.cell 4 rfl,hC.cell 5 rfl,hC.cell 6 rfl,hC.cell 7 rfl,hV.cell 0 rfl,hV.cell 1 rfl,hV.cell 2 rfl,hV.cell 3 rfl⟩) (fun zy=>?_)
   refine Tk 0 rfl zy ?_
   refine Tk 1 rfl zy ?_
   refine Tk 4 rfl zy ?_
   refine Tk 5 rfl zy ?_
   refine Ways.two (i:=2) (j:=10) rfl rfl (by kernel_rfl) (fun K hK=>?_) (fun K hK=>?_)
   ·go_simp
    refine(yN _ hd.deck 2 (by omega) (by omega)).mono ?_
    rintro e w8 ⟨q,rfl,hq,mv⟩
    try have hN:=hN.dealt mv (by have:=hd.size;omega)
    have hC:=hC.dealt mv (by omega);have hT:=hT.dealt mv (by omega);have hV:=hV.dealt mv (by omega);have hd:=hd.trans mv
    refine Ko hK ?_ fun zy=>?_
    ·exact jar
    clear hK K
    refine Tk 3 rfl zy ?_
    refine Ways.two (i:=6) (j:=10) rfl rfl (by kernel_rfl) (fun K hK=>?_) (fun K hK=>?_)
    ·go_simp
     refine(uN (hTab.mono hd.le) (a:=a) (b:=b) (d:=c) hp hu hy _ nn (by have:=jv.out;omega) (by have:=jv.out;omega) _ hd.holds).mono ?_
     rintro e w9 ⟨p',u',val,cc,rfl,⟨a',b',H8,rfl,xJ,rI,kD⟩,qr,qG,qH,uy⟩
     try have sQ:=xJ.none sQ hN.lt
     try have hN:=hN.below xJ.below
     have uq:=xJ.none uq hT.lt;have vB:=xJ.none vB hC.lt;have hC:=hC.below xJ.below;have hT:=hT.below xJ.below;have hV:=hV.below xJ.below;have yw:=yw.trans xJ.le;have hd:=hd.grown xJ
     refine Ko hK ?_ fun zy=>?_
     ·exact jar
     clear hK K
     refine Tk 7 rfl zy ?_
     refine Tk 8 rfl zy ?_
     refine Tk 9 rfl zy ?_
     refine To 10 rfl fun K hK=>?_
     go_simp
     obtain⟨hN,sQ⟩:=jfg;have WX:=hV.lt
     try simp only[zW,zr]at hN sQ WX
     have hC:=hC.alloc wG;have hT:=hT.alloc wG;have hV:=hV.alloc wG;have hd:=hd.alloc wG
     refine Ko hK ?_ fun zy=>?_
     ·exact jar
     clear hK K
     exact jaq
    go_simp
    obtain⟨hN,sQ⟩:=jfg;have WX:=hV.lt
    try simp only[zW,zr]at hN sQ WX
    have hC:=hC.alloc wG;have hT:=hT.alloc wG;have hV:=hV.alloc wG;have hd:=hd.alloc wG
    refine Ko hK ?_ fun zy=>?_
    ·exact jar
    clear hK K
    exact jea
   go_simp
   obtain⟨hN,sQ⟩:=jfg;have WX:=hV.lt
   try simp only[zW,zr]at hN sQ WX
   have hC:=hC.alloc wG;have hT:=hT.alloc wG;have hV:=hV.alloc wG;have hd:=hd.alloc wG
   refine Ko hK ?_ fun zy=>?_
   ·exact jar
   clear hK K
   refine To 2 rfl fun K hK=>?_
   go_simp
   refine(yN _ hd.deck 2 (by omega) (by omega)).mono ?_
   rintro e w8 ⟨q,rfl,hq,mv⟩
   try have hN:=hN.dealt mv (by have:=hd.size;omega)
   have hC:=hC.dealt mv (by omega);have hT:=hT.dealt mv (by omega);have hV:=hV.dealt mv (by omega);have hd:=hd.trans mv
   refine Ko hK ?_ fun zy=>?_
   ·exact jar
   clear hK K
   refine Tk 3 rfl zy ?_
   exact jea
  case rest =>
  clear hC hT hV hd vB uq Fc hy ik;obtain⟨N,cc,p',u',a',b',H8,rfl,rfl,hC,hT,hN,hd,fP,vB,uq,rI,kD,qG,qH,qr⟩:=hcut;have HC0:=Hh qr;have QT:IntKind.i64.wrap ((kk:Int)-1)=(kk:Int)-1:=IntWalk.i64_in _ (by have:=DF.out;omega);clear qr
  by_cases hcc:cc=0
  ·subst hcc;go_upto_region 13 with fail
   obtain⟨n0',n1',n2',n3',n4',n5',n6',n7'⟩:=jfY;go_wp2_with (with_reducible refine zx ?_)
   refine zv rfl _ _ _ rfl rfl _ _ rfl rfl _ _ hC zD rfl (vr _ _ _ _) fun w11 hC11 pY=>?_
   have cX:=hT.gr pY (by omega);have Sm:=jgr;clear hC hT hN hd n0' n1' n2' n3' n4' n5' n6' n7';go_wp2_with fail
   go_roundw
   case rel=>exact⟨kk-1,by rw[show((kk-1:Nat):Int)=(kk:Int)-1 by omega],by have:=DF.out;omega,p',u',a',b',H8,hC11,cX,Sm,vB,uq,rI,kD,qG,qH,fun h10=>by obtain⟨x1,x2,x3,x4⟩:=HC0.out (by first | trivial | rfl);obtain⟨z1,z2,z3,z4⟩:=HK.out h10;have:=DF.out;exact⟨x1,by omega,by omega,(x4 _ z4).le (by omega)⟩⟩
   case measure=>simp[intOf];omega
  have b1:(cc==0)=false:=by simp[hcc]
  have p1:(cc=0)=False:=eq_false hcc;have hp8:=hp.mono fP;have hu8:=hu.mono fP;clear hcc;go_wp2_with fail
  go_roundw
  case rel=>exact⟨kk-1,by rw[show((kk-1:Nat):Int)=(kk:Int)-1 by omega],by have:=DF.out;omega,p,u,a,b,H8,hC,hT,hd,vB,uq,hp8,hu8,gn,dH,fun h10=>by obtain⟨z1,z2,z3,z4⟩:=HK.out h10;have:=DF.out;exact⟨z1,by omega,by omega,z4.le (by omega)⟩⟩
  case measure=>simp[intOf];omega
 -- the last two
 have Su:Hid (Yk (zS alg)→zL p u=true∧szL p≤522∧szL u≤522∧AlgB p u alg 522):=fun h=>by obtain⟨x1,x2,x3,x4⟩:=HK.out h;exact⟨x1,by omega,by omega,x4.le (by omega)⟩
 clear HK;go_upto_region 14 with fail
 go_cut [11,12] (fun s11 s12 wx=>∃ (N:Nat) (cc:Int) (p' u':Itm) (a' b':Ad) (H8:Snap),s11=.pointer (some ⟨N,0,none⟩)∧s12=.int .i64 cc∧Blk wx w1.heap.size 28 (zA p a u b)∧Blk wx w.heap.size 28 (zA ze ⟨none,0,none,0⟩ ze ⟨none,0,none,0⟩)∧Blk wx N 28 (zA p' a' u' b')∧
  Dealt w H wx H8 g∧Hx.le H8∧H8 w1.heap.size=none∧H8 w.heap.size=none∧H8 N=none∧w1.heap.size<N∧IsItem H8 a'.ba a'.bc a'.ia a'.ic p'∧IsItem H8 b'.ba b'.bc b'.ia b'.ic u'∧Modest p'∧Modest u'∧
  (cc=0→zL p' u'=true∧szL p'≤szL p+18∧szL u'≤szL u+18∧(∀ B,AlgB p u alg B→AlgB p' u' alg (B+18))))
 case first =>
  have hC:=hC.drew;have hT:=hT.drew;have hd:=hd.drew;have yw:=Snap.le.refl Hx
  refine zw 8 (fun w'=>w'.cell? ⟨w1.heap.size,0,none⟩=some (.int .i64 p.kind)∧w'.cell? ⟨w1.heap.size,1,none⟩=some (.int .u64 p.n)∧w'.cell? ⟨w1.heap.size,2,none⟩=some (.slice a.ba p.bytes.length a.bc)∧w'.cell? ⟨w1.heap.size,3,none⟩=some (.slice a.ia p.items.length a.ic)∧w'.cell? ⟨w1.heap.size,4,none⟩=some (.int .i64 u.kind)∧w'.cell? ⟨w1.heap.size,5,none⟩=some (.int .u64 u.n)∧w'.cell? ⟨w1.heap.size,6,none⟩=some (.slice b.ba u.bytes.length b.bc)∧w'.cell? ⟨w1.heap.size,7,none⟩=some (.slice b.ia u.items.length b.ic)) (by kernel_rfl) (⟨hC.cell 0 rfl,hC.cell 1 rfl,hC.cell 2 rfl,hC.cell 3 rfl,hC.cell 4 rfl,hC.cell 5 rfl,hC.cell 6 rfl,hC.cell 7 rfl⟩) (fun zy=>?_)
  refine Tk 0 rfl zy ?_
  refine Ways.two (i:=1) (j:=6) rfl rfl (by kernel_rfl) (fun K hK=>?_) (fun K hK=>?_)
  ·go_simp
   refine(tD 1 (by omega) (by omega) _ hd.holds).mono ?_
   rintro e w4 ⟨v4,rfl,ja,jb,jc,jd,H4,rfl,yF,rm⟩
   try have sQ:=yF.none sQ hN.lt
   try have hN:=hN.below yF.below
   obtain⟨uq,vB,hC,hT⟩:=jfK;have yw:=yw.trans yF.le;have hp:=hp.mono yF.le;have hu:=hu.mono yF.le;have hd:=hd.grown yF
   refine Ko hK ?_ fun zy=>?_
   ·exact jap
   clear hK K
   refine Ways.two (i:=2) (j:=6) rfl rfl (by kernel_rfl) (fun K hK=>?_) (fun K hK=>?_)
   ·go_simp
    refine(uN (hTab.mono hd.le) (a:=a) (b:=b) (d:=⟨ja,jb,jc,jd⟩) hp hu rm true 98 (by omega) (by omega) _ hd.holds).mono ?_
    rintro e w9 ⟨p',u',val,cc,rfl,⟨a',b',H8,rfl,xJ,rI,kD⟩,qr,qG,qH,uy⟩
    try have sQ:=xJ.none sQ hN.lt
    try have hN:=hN.below xJ.below
    have uq:=xJ.none uq hT.lt;have vB:=xJ.none vB hC.lt;have hC:=hC.below xJ.below;have hT:=hT.below xJ.below;have yw:=yw.trans xJ.le;have hd:=hd.grown xJ
    refine Ko hK ?_ fun zy=>?_
    ·exact jap
    clear hK K
    refine Tk 3 rfl zy ?_
    refine Tk 4 rfl zy ?_
    refine Tk 5 rfl zy ?_
    refine To 6 rfl fun K hK=>?_
    go_simp
    obtain⟨hN,sQ⟩:=jfg;have WX:=hC.lt
    try simp only[zW,zr]at hN sQ WX
    have hC:=hC.alloc wG;have hT:=hT.alloc wG;have hd:=hd.alloc wG
    refine Ko hK ?_ fun zy=>?_
    ·exact jap
    clear hK K
    exact jeY
   go_simp
   obtain⟨hN,sQ⟩:=jfg;have WX:=hC.lt
   try simp only[zW,zr]at hN sQ WX
   have hC:=hC.alloc wG;have hT:=hT.alloc wG;have hd:=hd.alloc wG
   exact jd6
  go_simp
  obtain⟨hN,sQ⟩:=jfg;have WX:=hC.lt
  try simp only[zW,zr]at hN sQ WX
  have hC:=hC.alloc wG;have hT:=hT.alloc wG;have hd:=hd.alloc wG
  refine Ko hK ?_ fun zy=>?_
  ·exact jap
  clear hK K
  refine To 1 rfl fun K hK=>?_
  go_simp
  refine(tD 1 (by omega) (by omega) _ hd.holds).mono ?_
  rintro e w4 ⟨v4,rfl,ja,jb,jc,jd,H4,rfl,yF,rm⟩
  try have sQ:=yF.none sQ hN.lt
  try have hN:=hN.below yF.below
  obtain⟨uq,vB,hC,hT⟩:=jfK;have yw:=yw.trans yF.le;have hp:=hp.mono yF.le;have hu:=hu.mono yF.le;have hd:=hd.grown yF
  exact jd6
 case rest =>
 clear hC hT hd vB uq;obtain⟨N,cc,p',u',a',b',H8,rfl,rfl,hC,hT,hN,hd,fP,vB,uq,sQ,WX,rI,kD,qG,qH,qr⟩:=hcut;have HC0:=Hh qr;have N6:=Hh (yN wc hd.deck 6 (by omega) (by omega));have hp:=hp.mono fP;have hu:=hu.mono fP;clear qr fP;go_wp2_with (go_at_call 28;refine zH ?_)
 refine N6.out.mono ?_
 rintro e w5 ⟨j,rfl,hj,tU⟩
 have hC:=hC.dealt tU (by omega);have hT:=hT.dealt tU (by omega);have hN:=hN.dealt tU (by omega);have hd:=hd.trans tU;clear N6 tU
 by_cases hgo:j=5∧cc=0
 ·obtain⟨rfl,rfl⟩:=hgo;have HK8:=Hh (HC0.out rfl);clear HC0;go_upto_region 16 with fail
  obtain⟨n0',n1',n2',n3',n4',n5',n6',n7'⟩:=jfY;go_wp2_with (with_reducible refine zx ?_)
  refine zv rfl _ _ _ rfl rfl _ _ rfl rfl _ _ hC zD rfl (vr _ _ _ _) fun w11 hC11 pY=>?_
  have cX:=hT.gr pY (by omega);have CC:=hN.gr pY (by omega);have Sm:=jgr;clear hC hT hN hd n0' n1' n2' n3' n4' n5' n6' n7';go_upto_region 17 with fail
  go_cut [12] (fun s12 wx=>∃ (cc:Int) (p9 u9:Itm) (a9 b9:Ad) (H9:Snap),s12=.int .i64 cc∧Blk wx w1.heap.size 28 (zA p' a' u' b')∧Blk wx w.heap.size 28 (zA ze ⟨none,0,none,0⟩ ze ⟨none,0,none,0⟩)∧Blk wx N 28 (zA p9 a9 u9 b9)∧
   Dealt w H wx H9 g∧H8.le H9∧H9 w1.heap.size=none∧H9 w.heap.size=none∧IsItem H9 a9.ba a9.bc a9.ia a9.ic p9∧IsItem H9 b9.ba b9.bc b9.ia b9.ic u9∧Modest p9∧Modest u9∧
   (cc=0→zL p9 u9=true∧szL p9≤szL p'+27∧szL u9≤szL u'+27∧(∀ B,AlgB p' u' alg B→AlgB p9 u9 alg (B+27))))
  case first =>
   have hC:=hC11.drew;have hT:=cX.drew;have hN:=CC.drew;have hd:=Sm.drew;have yw:=Snap.le.refl H8
   refine zw 9 (fun w'=>w'.cell? ⟨w1.heap.size,0,none⟩=some (.int .i64 p'.kind)∧w'.cell? ⟨w1.heap.size,1,none⟩=some (.int .u64 p'.n)∧w'.cell? ⟨w1.heap.size,2,none⟩=some (.slice a'.ba p'.bytes.length a'.bc)∧w'.cell? ⟨w1.heap.size,3,none⟩=some (.slice a'.ia p'.items.length a'.ic)∧w'.cell? ⟨w1.heap.size,4,none⟩=some (.int .i64 u'.kind)∧w'.cell? ⟨w1.heap.size,5,none⟩=some (.int .u64 u'.n)∧w'.cell? ⟨w1.heap.size,6,none⟩=some (.slice b'.ba u'.bytes.length b'.bc)∧w'.cell? ⟨w1.heap.size,7,none⟩=some (.slice b'.ia u'.items.length b'.ic)) (by kernel_rfl) (⟨hC.cell 0 rfl,hC.cell 1 rfl,hC.cell 2 rfl,hC.cell 3 rfl,hC.cell 4 rfl,hC.cell 5 rfl,hC.cell 6 rfl,hC.cell 7 rfl⟩) (fun zy=>?_)
   refine Tk 0 rfl zy ?_
   refine To 1 rfl fun K hK=>?_
   go_simp
   refine(tD 98 (by omega) (by omega) _ hd.holds).mono ?_
   rintro e w4 ⟨v4,rfl,ja,jb,jc,jd,H4,rfl,yF,rm⟩
   have sQ:=yF.none sQ hN.lt;have hN:=hN.below yF.below;obtain⟨uq,vB,hC,hT⟩:=jfK;have yw:=yw.trans yF.le;have hd:=hd.grown yF
   refine Ko hK ?_ fun zy=>?_
   ·exact jap
   clear hK K
   refine To 2 rfl fun K hK=>?_
   go_simp
   have hO:=OwnI.lit (w:=w4) (ItemsC.one rm) w4.heap.size (Nat.le_refl _) (by simp);have hC:=hC.alloc (.cells (zV (zS 98) ja jb jc jd).toArray 26);have hT:=hT.alloc (.cells (zV (zS 98) ja jb jc jd).toArray 26);have hwN:=hN.lt;have hN:=hN.alloc (.cells (zV (zS 98) ja jb jc jd).toArray 26);have hd:=hd.alloc (.cells (zV (zS 98) ja jb jc jd).toArray 26);obtain⟨H5,rH,Wx,wR,It,t8,tA,lE⟩:=hO.snap hd.holds (fun q hq=>by cases hq;exact yF.holds.none_of_ge (Nat.le_refl _));have dF:∀ q,q<w4.heap.size→H4 q=none→H5 q=none:=fun q hq h0=>sn wR h0 (fun e=>by simp at e;omega)
   have hd:=hd.snap (B:=w4.heap.size) rH Wx wR (fun q hq=>by simp at hq;omega) (by omega) wl;have sQ:=dF _ hwN sQ;have uq:=dF _ (by omega) uq;have vB:=dF _ (by omega) vB;have yw:=yw.trans rH
   refine Ko hK ?_ fun zy=>?_
   ·exact jap
   clear hK K
   refine To 3 rfl fun K hK=>?_
   go_simp
   refine(Nq (l:=[zS 98]) ⟨t8,tA,lE⟩ (ModestL.of fun y hy=>by rw[List.mem_singleton.1 hy];exact sw 98) (by simp) _ hd.holds).mono ?_
   rintro e w7 ⟨v7,rfl,la,lb,lc,ld,H7,rfl,wJ,ZF⟩
   have sQ:=wJ.none sQ hN.lt;have hN:=hN.below wJ.below;have uq:=wJ.none uq hT.lt;have vB:=wJ.none vB hC.lt;have hC:=hC.below wJ.below;have hT:=hT.below wJ.below;have yw:=yw.trans wJ.le;have hd:=hd.grown wJ
   refine Ko hK ?_ fun zy=>?_
   ·exact jap
   clear hK K
   refine To 4 rfl fun K hK=>?_
   go_simp
   refine(uN (hTab.mono hd.le) (a:=a') (b:=b') (d:=⟨la,lb,lc,ld⟩) (rI.mono yw) (kD.mono yw) ZF true 2 (by omega) (by omega) _ hd.holds).mono ?_
   rintro e w9 ⟨p9,u9,val,cc,rfl,⟨a9,b9,H9,rfl,qp,hp9,hu9⟩,qr,Hj,Hk,uy⟩
   have sQ:=qp.none sQ hN.lt;have hN:=hN.below qp.below;have uq:=qp.none uq hT.lt;have vB:=qp.none vB hC.lt;have hC:=hC.below qp.below;have hT:=hT.below qp.below;have yw:=yw.trans qp.le;have hd:=hd.grown qp
   refine Ko hK ?_ fun zy=>?_
   ·exact jap
   clear hK K
   refine Tk 5 rfl zy ?_
   refine Tk 6 rfl zy ?_
   refine Tk 7 rfl zy ?_
   refine To 8 rfl fun K hK=>?_
   rw[if_pos (by rfl)]
   refine zh _ _ _ rfl _ _ rfl rfl _ _ hN zD rfl (vr _ _ _ _) fun w10 hN xW=>?_
   have hC:=hC.gr xW (by omega);have hT:=hT.gr xW (by omega);have hd:=hd.grownRow (row:=some N) (by rintro q ⟨⟩;exact sQ) (by rintro q ⟨⟩;omega) wl xW
   refine Ko hK ?_ fun zy=>?_
   ·exact jap
   clear hK K
   refine To 9 rfl fun K hK=>?_
   go_simp
   refine Kz hK ?_
   clear hK K
   refine Wd ?_
   go_wp2_with fail
   go_meet
   exact⟨cc,p9,u9,a9,b9,H9,rfl,hC,hT,hN,hd,yw,vB,uq,hp9,hu9,Hj,Hk,fun h0=>by obtain⟨x1,x2,x3,x4⟩:=qr h0;have:=NC.2;exact⟨x1,by omega,by omega,fun B h=>h.put x4 aq.2 (by rw[aq.1];omega)⟩⟩
  case rest =>
  clear hC11 cX CC Sm vB uq sQ;obtain⟨cc,p9,u9,a9,b9,H9,rfl,hC,hT,hN,hd,Lb,vB,uq,hp9,hu9,Hj,Hk,hc9⟩:=hcut;have HC9:=Hh hc9;have rI:=rI.mono Lb;have kD:=kD.mono Lb;clear hc9
  by_cases hcc:cc=0
  ·subst hcc;have Ee:=Hh (HC9.out rfl);clear HC9;go_upto_region 19 with fail
   obtain⟨n0',n1',n2',n3',n4',n5',n6',n7'⟩:=jfY;go_wp2_with (with_reducible refine zx ?_)
   refine zv rfl _ _ _ rfl rfl _ _ rfl rfl _ _ hC zD rfl (vr _ _ _ _) fun w12 hC hg12=>?_
   have hT:=hT.gr hg12 (by omega);have hd:=hd.grownRow (row:=some w1.heap.size) (by rintro q ⟨⟩;exact vB) (by rintro q ⟨⟩;omega) wl hg12;clear hN n0' n1' n2' n3' n4' n5' n6' n7';have k0':=hC.cell 0 rfl;have k1':=hC.cell 1 rfl;have k2':=hC.cell 2 rfl;have k3':=hC.cell 3 rfl;have k4':=hC.cell 4 rfl;have k5':=hC.cell 5 rfl;have k6':=hC.cell 6 rfl;have k7':=hC.cell 7 rfl;go_wp2_with (with_reducible refine zx ?_)
   refine zv rfl _ _ _ rfl rfl _ _ rfl rfl _ _ hT zD rfl (vr _ _ _ _) fun wz uo yS=>?_
   have wK:=hd.gb uq (Nat.le_refl _) wl yS;go_wp2_with fail
   refine zF rfl rfl uo rfl rfl zD rfl ?_
   exact⟨p9,u9,a9,b9,H9,rfl,wK,hp9,hu9,Hj,Hk,fun h10=>by obtain⟨z1,z2,z3,z4⟩:=Su.out h10;obtain⟨x1,x2,x3,x4⟩:=HK8.out;obtain⟨y1,y2,y3,y4⟩:=Ee.out;exact⟨y1,by omega,by omega,(y4 _ (x4 _ z4)).le (by omega)⟩⟩
  have b1:(cc==0)=false:=by simp[hcc]
  have p1:(cc=0)=False:=eq_false hcc;clear hcc;go_upto_region 20 with fail
  have k0':=hC.cell 0 rfl;have k1':=hC.cell 1 rfl;have k2':=hC.cell 2 rfl;have k3':=hC.cell 3 rfl;have k4':=hC.cell 4 rfl;have k5':=hC.cell 5 rfl;have k6':=hC.cell 6 rfl;have k7':=hC.cell 7 rfl;go_wp2_with (with_reducible refine zx ?_)
  refine zv rfl _ _ _ rfl rfl _ _ rfl rfl _ _ hT zD rfl (vr _ _ _ _) fun wz uo yS=>?_
  have wK:=hd.gb uq (Nat.le_refl _) wl yS;go_wp2_with fail
  refine zF rfl rfl uo rfl rfl zD rfl ?_
  exact⟨p',u',a',b',H9,rfl,wK,rI,kD,qG,qH,fun h10=>by obtain⟨z1,z2,z3,z4⟩:=Su.out h10;obtain⟨x1,x2,x3,x4⟩:=HK8.out;exact⟨x1,by omega,by omega,(x4 _ z4).le (by omega)⟩⟩
 have hb:((j:Int)==5)=false∨(((j:Int)==5)=true∧(cc==0)=false):=by
  by_cases h5:j=5
  ·right;exact⟨by simp[h5],by have:cc≠0:=fun h=>hgo ⟨h5,h⟩;simp[this]⟩
  left;rw[beq_eq_false_iff_ne];omega
 clear hgo
 rcases hb with hb | ⟨hb,zG⟩
 ·exact ja0
 exact ja0
theorem Dealt.toGrows {w w1 w2:World}{H H1 H2:Snap}{g:Nat}(h:Grows w H w1 H1) (hd:Dealt w1 H1 w2 H2 g) (hg:w.heap.size≤g):Grows w H w2 H2 :=
 ⟨h.below.grown hd.grows.grown h.size (by rintro q ⟨⟩;exact hg),h.le.trans hd.le,hd.holds,fun b o hb=>by
  rcases hd.grows.fresh b o hb with h1 | h1
  ·exact h.fresh b o h1
  exact .inr (Nat.le_trans h.size h1)⟩
theorem RS {p:Itm}(h:zJ p=true) (h5:p.kind=5):p.bytes=[]:=by
 exact jdj
end Go.Proofs.YtliomcphdnppnaaGreatDoor
