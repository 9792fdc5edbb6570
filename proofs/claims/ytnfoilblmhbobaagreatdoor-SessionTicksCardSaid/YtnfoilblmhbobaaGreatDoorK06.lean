/- squeezed. Walks: equal bytes, by the referen -/
import Derived.Test.YtnfoilblmhbobaaGreatDoorK05
import Derived.Laws.CopyOwn
import Derived.Deep.DeepCutAuto
import Derived.Deep.CutBlock
import Derived.BigQuiet
import Derived.OwnWalk
set_option linter.unusedVariables false
set_option linter.unusedSimpArgs false
set_option maxRecDepth 100000
set_option maxHeartbeats 6400000
namespace Go.Proofs.YtnfoilblmhbobaaGreatDoor
open Go.RowKit
theorem qC:∀ a b:List UInt8,Lib.compareBytes a b=0↔a=b
 | [],[]=>by rw[Lib.compareBytes];simp
 | [],y::b=>by rw[Lib.compareBytes];simp
 | x::a,[]=>by rw[Lib.compareBytes];simp
 | x::a,y::b=>by
  rw[Lib.compareBytes]
  by_cases h1:x<y
  ·rw[if_pos h1];have:x≠y:=by rintro rfl;exact UInt8.lt_irrefl x h1
   simp[this]
  rw[if_neg h1]
  by_cases h2:y<x
  ·rw[if_pos h2];have:x≠y:=by rintro rfl;exact UInt8.lt_irrefl x h2
   simp[this]
  rw[if_neg h2];have e:x=y:=UInt8.toNat_inj.1 (by rw[UInt8.lt_iff_toNat_lt]at h1 h2;omega);subst e
  simp[qC a b]
theorem gL (w:World) (A B:Option Addr) (a b:List UInt8) (n m c d:Nat) (hn:n=a.length) (hm:m=b.length) (hna:n≤1099511627776) (hmb:m≤1099511627776) (ha:Src w A (a.map zm)) (hb:Src w B (b.map zm)) :
  Calls Tryz.prog 12 #[.slice A n c,.slice B m d] w fun e w'=>e=.returned (.bool (decide (a=b)))∧Below w.heap.size w w':=by
 have CM:=Hh (lR w A B a b n m c d hn hm hna hmb ha hb)
 by_cases hab:a=b
 ·have D:Hid (decide (a=b)=true):=decide_eq_true hab;have hz:Lib.compareBytes a b=0:=(qC a b).2 hab;have Ss:n=m:=by rw[hn,hm,hab]
  rw[hz]at CM;clear hz hab ha hb hn hm hna hmb;subst Ss;go_enter Tryz.func12,Tryz.ntmps12
  go_wp2_with fail
  refine CM.out.mono ?_
  rintro e w1 ⟨rfl,zd⟩
  go_wp2_with fail
  go_ret
  exact⟨by rw[D.out];try rfl,zd⟩
 have D:Hid (decide (a=b)=false):=decide_eq_false hab;have hz:Lib.compareBytes a b≠0:=fun h=>hab ((qC a b).1 h)
 obtain⟨q,hq⟩:∃ q,Lib.compareBytes a b=q:=⟨_,rfl⟩
 rw[hq]at CM hz;have z0:(q==0)=false:=by simpa using hz
 have z1:(q=0)=False:=eq_false hz;clear hz hq hab ha hb hn hm hna hmb;go_enter Tryz.func12,Tryz.ntmps12
 go_wp2_with fail
 refine CM.out.mono ?_
 rintro e w1 ⟨rfl,zd⟩
 go_wp2_with fail
 go_ret
 exact⟨by rw[D.out];try rfl,zd⟩
theorem xr {H:Snap}(w:World) (hH:Holds w H) {A B:Option Addr}{n m c d:Nat}{l:List UInt8}(hn:n=l.length) (hm:m=l.length) (hl:l.length≤1099511627) (ha:IsBytes H A c l) (hb:IsBytes H B d l) :
  Calls Tryz.prog 12 #[.slice A n c,.slice B m d] w fun e w'=>e=.returned (.bool true)∧Below w.heap.size w w':=by
 have h:=gL w A B l l n m c d hn hm (by omega) (by omega) (Src.of_row ha.row hH) (Src.of_row hb.row hH);rw[decide_eq_true (rfl:l=l)]at h
 exact h
theorem rE {w w':World}{a:Addr}{v:Value}(h:w.cell? a=some v) (hb:Below w.heap.size w w'):w'.cell? a=some v:=(hb.cell (World.block_lt_of_cell? w _ h)).trans h
theorem yO (a:Int):(a=a)=True∧(a==a)=true∧(a != a)=false:=by simp
theorem mK {H:Snap}{A:Option Addr}{c:Nat}{l:List Int}(h:IsRow qZ H A c l) (h0:0<l.length):∃ b off,A=some ⟨b,off,none⟩∧∀ j,(hj:j<l.length)→H.cell? ⟨b,off+j,none⟩=some (.int .i64 l[j]):=by
 obtain⟨b,off,e,nr⟩:=h.at_ h0
 refine⟨b,off,e,fun j hj=>?_⟩
 obtain⟨d,hd,hi⟩:=nr j hj;have my:d=[.int .i64 l[j]]:=hd;subst my;have:=hi 0 _ rfl;rw[show j*qZ.k+0=j from by show j*1+0=j;omega]at this
 exact this
theorem mI {H:Snap}{A:Option Addr}{c:Nat}{l:List (List UInt8)}(h:IsRow wO H A c l) (h0:0<l.length):∃ b off,A=some ⟨b,off,none⟩∧∀ j,(hj:j<l.length)→∃ a k,H.cell? ⟨b,off+j,none⟩=some (.slice a l[j].length k)∧IsBytes H a k l[j]:=by
 obtain⟨b,off,e,nr⟩:=h.at_ h0
 refine⟨b,off,e,fun j hj=>?_⟩
 obtain⟨d,⟨a,k,hd,hb⟩,hi⟩:=nr j hj;subst hd;have:=hi 0 _ rfl;rw[show j*wO.k+0=j from by show j*1+0=j;omega]at this
 exact⟨a,k,this,hb⟩
theorem rp {B:Nat}{a w:World}(h:Below B a w):∀ q,Below B a (w.drewN q)
 | 0=>h
 | q+1=>(rp h q).drew
theorem sB {α:Type}{L:Lie α}{w wr:World}{H Hr:Snap}{cs:List Value}{l:List α}(hG:Grows w H wr Hr) (hc:RowC L Hr cs l) (t:TypeId) (hm:l.length≤4096) :
  ∃ H',Grows w H (wr.alloc (.cells cs.toArray t)) H'∧Hr.le H'∧IsRow L H' (some ⟨wr.heap.size,0,none⟩) l.length l:=by
 have hO:OwnX L t (wr.alloc (.cells cs.toArray t)) wr.heap.size (.slice (some ⟨wr.heap.size,0,none⟩) l.length l.length) Hr l :=
  ⟨cs,hc,hc.len,.inr ⟨wr.heap.size,l.length,cs.toArray,rfl,Nat.le_refl _,heap_alloc_new wr _,Nat.le_refl _,by simp only[maxLen];omega,by simp[hc.len],by rw[← hc.len];simp⟩⟩
 have YW:=hG.alloc (.cells cs.toArray t);obtain⟨H',hl,hh,hf,_,hr⟩:=hO.snap YW.holds (fun q hq=>by cases hq;exact hG.holds.none_of_ge (Nat.le_refl _))
 refine⟨H',⟨YW.below,YW.le.trans hl,hh,fun b o hb=>?_⟩,hl,hr⟩
 rcases hf b o hb with h1 | h1
 ·exact YW.fresh b o h1
 have e:wr.heap.size=b:=by simpa using h1
 exact .inr (by rw[← e];exact hG.size)
theorem tk {H:Snap}{A B:Option Addr}{c d:Nat}{l:List Int}(hA:IsRow qZ H A c l) (hB:IsRow qZ H B d l) {n m:Nat}(hn:n=l.length) (hm:m=l.length) (hl:l.length≤1099511) (w:World) (hH:Holds w H) :
  Calls Tryz.prog 22 #[.slice A n c,.slice B m d] w fun e w'=>e=.returned (.bool true)∧Below w.heap.size w w':=by
 obtain rfl:n=m:=by omega
 have HN:=Hh (And.intro hn hl);have HA:=Hh hA;have HB:=Hh hB;have HH:=Hh hH;have zd:Below w.heap.size w w:=Below.refl _ _;obtain⟨e1,e2,e3⟩:=yO (n:Int);clear hn hm hl hA hB hH;go_enter Tryz.func22,Tryz.ntmps22
 go_wp2_with fail
 clear e1 e2 e3;go_loopw [13] (fun v13 wr=>∃ j:Nat,v13=.int .i64 (j:Int)∧Hid (j≤n)∧Below w.heap.size w wr) (fun v13 _=>(n:Int).toNat+1-(intOf v13).toNat)
 case atStart=>exact⟨0,rfl,Nat.zero_le _,zd⟩
 case round =>
 clear zd;obtain⟨j,rfl,HJ,hb⟩:=hrel
 by_cases z6:(j:Int)<(n:Int)
 ·have pT:j<l.length:=by have:=HN.out.1;omega
  obtain⟨gb,go,rfl,nr⟩:=mK HA.out (by omega);obtain⟨gb2,go2,rfl,na⟩:=mK HB.out (by omega);have rg:=HH.out.below hb (Nat.le_refl _);have r0:=rg.cell (nr j pT);have r1:=rg.cell (na j pT)
  generalize l[j]=v at *
  have XG:(j:Int)+1≤9223372036854775807:=by have:=HN.out.2;have:=HN.out.1;omega
  have il:Hid (j+1≤n):=by rw[Hid];omega
  obtain⟨f1,f2,f3⟩:=yO v;clear pT nr na rg;go_upto_region 6 with fail
  go_big_quiet (fail)
  have zO:=rp hb nq
  generalize wr.drewN nq=wy at zO⊢
  clear hb r0 r1;go_wp2_with fail
  go_roundw
  case rel=>exact⟨j+1,by go_num,il.out,zO⟩
  case measure=>have:=il.out;simp[intOf];omega
 have hid:decide ((j:Int)<(n:Int))=false:=decide_eq_false z6;go_wp2_with fail
 go_ret
 exact⟨rfl,hb⟩
theorem xS {H:Snap}{A B:Option Addr}{c d:Nat}{l:List (List UInt8)}(hA:IsRow wO H A c l) (hB:IsRow wO H B d l) {n m:Nat}(hn:n=l.length) (hm:m=l.length) (hl:rX l) (w:World) (hH:Holds w H) :
  Calls Tryz.prog 23 #[.slice A n c,.slice B m d] w fun e w'=>e=.returned (.bool true)∧Below w.heap.size w w':=by
 obtain rfl:n=m:=by omega
 have HN:=Hh (And.intro hn hl);have HA:=Hh hA;have HB:=Hh hB;have HH:=Hh hH;have zd:Below w.heap.size w w:=Below.refl _ _;obtain⟨e1,e2,e3⟩:=yO (n:Int);clear hn hm hl hA hB hH;go_enter Tryz.func23,Tryz.ntmps23
 go_wp2_with fail
 clear e1 e2 e3;go_loopw [13] (fun v13 wr=>∃ j:Nat,v13=.int .i64 (j:Int)∧Hid (j≤n)∧Below w.heap.size w wr) (fun v13 _=>(n:Int).toNat+1-(intOf v13).toNat)
 case atStart=>exact⟨0,rfl,Nat.zero_le _,zd⟩
 case round =>
 clear zd;obtain⟨j,rfl,HJ,hb⟩:=hrel
 by_cases z6:(j:Int)<(n:Int)
 ·have pT:j<l.length:=by have:=HN.out.1;omega
  obtain⟨gb,go,rfl,nr⟩:=mI HA.out (by omega);obtain⟨gb2,go2,rfl,na⟩:=mI HB.out (by omega);have rg:=HH.out.below hb (Nat.le_refl _);obtain⟨a1,k1,r0,i1⟩:=nr j pT;obtain⟨a2,k2,r1,i2⟩:=na j pT;replace r0:=rg.cell r0;replace r1:=rg.cell r1;have HX:Hid (l[j].length≤1099511):=HN.out.2.2 _ (List.getElem_mem _)
  generalize l[j]=x at *
  obtain⟨xn,ay⟩:∃ k,x.length=k:=⟨_,rfl⟩
  rw[ay]at r0 r1;have XG:(j:Int)+1≤9223372036854775807:=by have:=HN.out.2.1;have:=HN.out.1;omega
  have il:Hid (j+1≤n):=by rw[Hid];omega
  have E:=Hh (fun wx hx=>xr (H:=H) wx hx (n:=xn) (m:=xn) ay.symm ay.symm (by have:=HX.out;omega) i1 i2);clear ay i1 i2 HX;clear pT nr na rg;go_upto_region 6 with fail
  replace hb:=hb.drew;have bn:=Hh hb;clear hb
  refine zp 10 (fun wx=>wx.cell? ⟨gb,go+j,none⟩=some (.slice a1 xn k1)∧wx.cell? ⟨gb2,go2+j,none⟩=some (.slice a2 xn k2)) (by kernel_rfl) (⟨r0,r1⟩) (fun zy=>?_)
  refine TkS 0 rfl zy ?_
  refine TkS 1 rfl zy ?_
  refine TkS 2 rfl zy ?_
  refine TkS 3 rfl zy ?_
  refine TkS 4 rfl zy ?_
  refine TkS 5 rfl zy ?_
  refine TkS 6 rfl zy ?_
  refine TkS 7 rfl zy ?_
  refine To 8 rfl fun K hK=>?_
  go_simp
  refine(E.out _ (HH.out.below bn.out (Nat.le_refl _))).mono ?_
  rintro e w5 ⟨rfl,i9⟩
  have yv:=bn.out.trans (i9.mono bn.out.size)
  refine Ko hK ?_ fun zy=>?_
  ·exact⟨rE (w:=wr.drew) r0 i9,rE (w:=wr.drew) r1 i9⟩
  clear hK K
  refine TkS 9 rfl zy ?_
  refine Wd ?_
  clear zy;go_wp2_with fail
  go_roundw
  case rel=>exact⟨j+1,by go_num,il.out,yv⟩
  case measure=>have:=il.out;simp[intOf];omega
 have hid:decide ((j:Int)<(n:Int))=false:=decide_eq_false z6;go_wp2_with fail
 go_ret
 exact⟨rfl,hb⟩
end Go.Proofs.YtnfoilblmhbobaaGreatDoor
