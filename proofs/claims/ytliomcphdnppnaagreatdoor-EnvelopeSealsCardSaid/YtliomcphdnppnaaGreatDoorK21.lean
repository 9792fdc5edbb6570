/- squeezed. Walks: the examples of chapter 13; -/
import Derived.Test.YtliomcphdnppnaaGreatDoorK20
set_option linter.unusedVariables false
set_option linter.unusedSimpArgs false
set_option maxRecDepth 100000
set_option maxHeartbeats 6400000
namespace Go.Proofs.YtliomcphdnppnaaGreatDoor
open Go.RowKit
theorem iY {w wr:World}{H Hr:Snap}(h:Grows w H wr Hr) (t:TypeId) (vs:List Value) (ls:List (List UInt8)) (hm:ls.length≤4096)
  (hv:∀ j (hj:j<ls.length),∃ A c,vs[j]? = some (.slice A ls[j].length c)∧IsBytes Hr A c ls[j]) :
  ∃ H',Grows w H (wr.alloc (.cells vs.toArray t)) H'∧Hr.le H'∧IsRows H' (some ⟨wr.heap.size,0,none⟩) ls.length ls:=by
 have h0:Hr wr.heap.size=none:=h.holds.none_of_ge (Nat.le_refl _);have hG:=(h.alloc (.cells vs.toArray t)).withOwn (g:=wr.heap.size) h0 h.size (heap_alloc_new wr _)
 refine⟨_,hG,Snap.le_with h0,⟨Nat.le_refl _,by omega,fun _=>⟨wr.heap.size,0,rfl,fun j hj=>?_⟩⟩⟩
 obtain⟨A,c,h1,h2⟩:=hv j hj
 refine⟨A,c, ?_,h2.mono (Snap.le_with h0)⟩
 simp[Snap.cell?,Snap.with]
 simpa using h1
def YM:List UInt8:=[77,65,67,48]
theorem UG:zh (we YM zF [] [[]])=[132,100,77,65,67,48,64,64,64]:=by
 simp[we,YM,wg,zh,zM,yE,xi,Itm.kind,Itm.n,Itm.bytes,Itm.items]
 decide
theorem fA:Lib.validD YM=true:=by kernel_rfl
theorem Wv:yj YM zF zF [] [[]]=0:=by
 rw[yj,if_neg (by rw[pf];simp),if_neg (by rw[fA];simp),if_neg];rw[eH fA (by simp[YM,wg,Itm.items])]
 simp
theorem mY {H:Snap}(hTab:Tabs H) (w:World) (hH:Holds w H) :
  Calls Tryz.prog 7 #[] w fun e w'=>e=.returned (.bool true)∧Below w.heap.size w w':=by
 go_enter Tryz.func7,Tryz.ntmps7
 go_wp2_with fail
 refine(ph _).mono ?_
 rintro e w1 ⟨rfl,zH⟩
 have sC:=(Grows.of_below hH zH).alloc (.cells #[.int .u8 1,.int .u8 2] 5);have EN:=Hh (bh hTab _ sC.holds w1.heap.size (Blk.new w1 5 #[.int .u8 1,.int .u8 2]));go_wp2_with fail
 refine EN.out.mono ?_
 rintro e w2 ⟨r1,rfl,Ys⟩
 obtain⟨A1,c1,rfl,_⟩:=Ys.own.form;have xR:=sC.below_ Ys.2;have vT:=Ys.own.src;clear EN sC Ys zH;go_wp2_with fail
 refine(ph _).mono ?_
 rintro e w3 ⟨rfl,xn⟩
 have ye:=xR.below_ xn;have vT:=vT.below xn
 obtain⟨H4,yJ,Pd,Pn⟩:=iY ye 23 [.slice none 0 0] [[]] (by simp) (fun j hj=>by
  have:j=0:=by simpa using hj
  subst this
  exact⟨none,0,rfl,IsBytes.nil _⟩)
 have vT:=vT.alloc (.cells #[.slice none 0 0] 23)
 have IN:=Hh (sQ (hTab.mono yJ.le) (p:=zF) (u:=zF) (a:=⟨none,0,none,0⟩) (b:=⟨none,0,none,0⟩) (IsItem.plain _ 5 0 (by omega) (by omega)) (IsItem.plain _ 5 0 (by omega) (by omega)) ⟨#[77,65,67,48]⟩ (by show(4:Nat)≤_;omega)
  (ext:=[]) (IsBytes.nil _) (by simp) Pn (by simp) (by simp) _ yJ.holds)
 have tO:=yJ.below;clear xR ye xn yJ Pd Pn;go_wp2_with fail
 refine IN.out.mono ?_
 rintro e w5 ⟨r2,l2,rfl,jU,pA⟩
 have Y2:yj (⟨#[77,65,67,48]⟩:ByteArray).data.toList zF zF [] [[]]=0:=Wv;rw[if_pos Y2]at pA;rw[Y2];replace pA:=pA.trans UG;subst pA;obtain⟨A2,c2,rfl,_⟩:=jU.own.form;have k1:=xV (vT.below jU.2) 7 c1 rfl;have k2:=xV jU.own.src 9 c2 rfl;have zJ:=tO.trans (jU.2.mono tO.size);clear IN Y2 vT jU tO;go_wp2_with fail
 go_ret
 exact⟨rfl,zJ⟩
end Go.Proofs.YtliomcphdnppnaaGreatDoor
