/- squeezed. Walks: the deck's floats and items -/
import Derived.Test.YtgcjjhibdbafmaaGreatDoorK13
set_option linter.unusedVariables false
set_option linter.unusedSimpArgs false
set_option maxRecDepth 100000
set_option maxHeartbeats 12800000
namespace Go.Proofs.YtgcjjhibdbafmaaGreatDoor
open Go.RowKit
theorem bits_nat (op:BinOp) (a b:Int):∃ n:Nat,bits op .u64 a b=(n:Int)∧n<18446744073709551616:=by
 obtain⟨n,h1,h2⟩:=bits_ret op a b;injection h1 with h1
 injection h1 with _ h1
 exact⟨n,h1,h2⟩
theorem widen5_bits (op:BinOp) (a b:Int) (w:World):Calls Tryz.prog 95 #[.int .u64 (bits op .u64 a b),.int .i64 5,.int .i64 10] w (WidenSaid w):=by
 obtain⟨n,h1,h2⟩:=bits_nat op a b;rw[h1]
 exact ref_Widen5 n h2 w
theorem widen8_bits (op:BinOp) (a b:Int) (w:World):Calls Tryz.prog 95 #[.int .u64 (bits op .u64 a b),.int .i64 8,.int .i64 23] w (WidenSaid w):=by
 obtain⟨n,h1,h2⟩:=bits_nat op a b;rw[h1]
 exact ref_Widen8 n h2 w
theorem isNaN_bits (op:BinOp) (a b:Int) (w:World):Calls Tryz.prog 96 #[.int .u64 (bits op .u64 a b)] w fun e w'=>(∃ bb:Bool,e=.returned (.bool bb))∧w=w':=by
 obtain⟨n,h1,h2⟩:=bits_nat op a b;rw[h1]
 exact(ref_IsNaN n h2 w).mono fun e w' h=>⟨⟨_,h.1⟩,h.2⟩
def DealtN (w:World) (H:Snap) (g:Nat) (e:Ending) (w':World):Prop:=(∃ n:Nat,e=.returned (.int .u64 (n:Int))∧n<18446744073709551616)∧Dealt w H w' H g
theorem mk_Float {H:Snap}{g:Nat}(w:World) (hD:DeckIn w g H) :
  Calls Tryz.prog 76 #[.pointer (some ⟨g,0,none⟩)] w (DealtN w H g):=by
 have NX:=Hh (deck_Next w hD 1073741824 (by omega) (by omega));have hgl:=hD.deck.lt;clear hD;go_enter Tryz.func76,Tryz.ntmps76
 go_wp2_with fail
 refine NX.out.mono ?_
 rintro e w1 ⟨r,rfl,hr,hd1⟩
 have K0:IntKind.u64.wrap (r:Int)=(r:Int):=IntWalk.u64_in _ (by omega);have N2:=Hh (deck_Next w1 hd1.deck 5 (by omega) (by omega));clear NX;go_wp2_with fail
 refine N2.out.mono ?_
 rintro e w2 ⟨q,rfl,hq,hd2⟩
 have hd:=hd1.trans hd2;clear N2 hd1 hd2
 rcases(by omega:q=0∨q=1∨q=2∨q=3∨q=4) with rfl | rfl | rfl | rfl | rfl
 ·go_wp2_with (go_at_call 95;refine(widen5_bits _ _ _ _).mono ?_;rintro e w3 ⟨⟨n,rfl,hn⟩,rfl⟩)
  go_ret
  exact⟨⟨n,rfl,hn⟩,hd⟩
 ·go_wp2_with (go_at_call 95;refine(widen8_bits _ _ _ _).mono ?_;rintro e w3 ⟨⟨n,rfl,hn⟩,rfl⟩)
  go_ret
  exact⟨⟨n,rfl,hn⟩,hd⟩
 ·have hB:=Blk.new w2 22 #[.int .u64 9221120237041090560,.int .u64 9218868437227405312,.int .u64 18442240474082181120,.int .u64 9223372036854775808,.int .u64 0,.int .u64 1,.int .u64 4609434218613702656];have hd2:=hd.alloc (.cells #[.int .u64 9221120237041090560,.int .u64 9218868437227405312,.int .u64 18442240474082181120,.int .u64 9223372036854775808,.int .u64 0,.int .u64 1,.int .u64 4609434218613702656] 22);have N3:=Hh (deck_Next _ hd2.deck 7 (by omega) (by omega));go_wp2_with fail
  refine N3.out.mono ?_
  rintro e w3 ⟨j,rfl,hj,hd3⟩
  have hB3:=hB.dealt hd3 (by have:=hd.size;omega);obtain⟨v,hc,hP⟩:=hB3.pick isU64 (by kernel_rfl) j (by simp;omega);obtain⟨x,rfl,hx⟩:=isU64_spec hP;have hdz:=hd2.trans hd3;have HX:=Hh hx;clear N3 hB hB3 hP hd2 hd3 hx;go_wp2_with fail
  go_ret
  exact⟨⟨x,rfl,HX.out⟩,hdz⟩
 all_goals
  have N3:=Hh (deck_Next w2 hd.deck 1073741824 (by omega) (by omega));go_wp2_with fail
  refine N3.out.mono ?_
  rintro e w3 ⟨j,rfl,hj,hd3⟩
  have hdz:=hd.trans hd3;have K1:IntKind.u64.wrap (j:Int)=(j:Int):=IntWalk.u64_in _ (by omega);clear N3 hd hd3;go_wp2_with (go_at_call 96;refine(isNaN_bits _ _ _ _).mono ?_;rintro e w4 ⟨⟨bb,rfl⟩,rfl⟩;cases bb)
  all_goals go_ret
  ·exact⟨bits_ret ..,hdz⟩
  ·exact⟨⟨9221120237041090560,rfl,by omega⟩,hdz⟩
theorem mk_whole {H:Snap}(hT:Tabs H) {k n:Int}{ba:Option Addr}{bl bc:Nat}{ia:Option Addr}{il ic:Nat}{x:Itm}(hx:ItemA H k n ba bl bc ia il ic x) (w:World) (hH:Holds w H) :
  Calls Tryz.prog 75 #[.agg #[.int .i64 k,.int .u64 n,.slice ba bl bc,.slice ia il ic]] w fun e w'=>∃ v y,e=.returned v∧Gives w H y v w'∧(y=x∨y=zeroItm):=by
 obtain⟨rfl,rfl,rfl,rfl,hxi⟩:=hx.eqs_;have hB:=(Blk.new w 26 #[.int .i64 x.kind,.int .u64 x.n,.slice ba x.bytes.length bc,.slice ia x.items.length ic]).alloc zeroO;have hT':=Blk.new (w.alloc (itemO x ba bc ia ic)) 26 #[.int .i64 0,.int .u64 0,.slice none 0 0,.slice none 0 0]
 simp only[size_alloc]at hT'
 have hG:=((Grows.refl hH).alloc (itemO x ba bc ia ic)).alloc zeroO;have hn0:H (w.heap.size+1)=none:=hH.none_of_ge (by omega);have V:=Hh (ref_Valid hT hxi.arg _ hG.holds)
 cases hv:validP x with
 | false =>
  rw[hv]at V;clear hv;go_enter Tryz.func75,Tryz.ntmps75
  go_wp2_with fail
  refine V.out.mono ?_
  rintro e w2 ⟨rfl,hb2⟩
  have hT2:=hT'.below hb2;have hG2:=hG.below_ hb2;clear V hB hT' hG hb2;go_wp2_with (with_reducible refine stop_store ?_)
  refine stI hT2 fun w3 hT3 hg3=>?_
  have hG3:=hG2.grownOwn hn0 (by omega) hg3;go_wp2_with fail
  refine ret_row rfl rfl hT3 rfl rfl size_item rfl ?_
  exact⟨_,zeroItm,rfl,⟨none,0,none,0,H,rfl,hG3,IsItem.plain _ 0 0 (by omega) (by omega)⟩,.inr rfl⟩
 | true =>
  rw[hv]at V;clear hv;go_enter Tryz.func75,Tryz.ntmps75
  go_wp2_with fail
  refine V.out.mono ?_
  rintro e w2 ⟨rfl,hb2⟩
  have hB2:=hB.below hb2;have hT2:=hT'.below hb2;have hG2:=hG.below_ hb2;have c0:=hB2.cell 0 rfl;have c1:=hB2.cell 1 rfl;have c2:=hB2.cell 2 rfl;have c3:=hB2.cell 3 rfl;clear V hB hT' hG hb2;go_wp2_with (with_reducible refine stop_store ?_)
  refine stI hT2 fun w3 hT3 hg3=>?_
  have hG3:=hG2.grownOwn hn0 (by omega) hg3;go_wp2_with fail
  refine ret_row rfl rfl hT3 rfl rfl size_item rfl ?_
  exact⟨_,x,rfl,⟨ba,bc,ia,ic,H,rfl,hG3,hxi⟩,.inl rfl⟩
def GivesD (w:World) (H:Snap) (g:Nat) (x:Itm) (v:Value) (w':World):Prop:=∃ ba bc ia ic H',v=itemV x ba bc ia ic∧Dealt w H w' H' g∧IsItem H' ba bc ia ic x
def DealtI (w:World) (H:Snap) (g B:Nat) (e:Ending) (w':World):Prop:=∃ v x,e=.returned v∧GivesD w H g x v w'∧Modest x∧(encB x).length≤B
def BI:Nat→Nat
 | 0=>39
 | d+1=>9+6*BI d
theorem BI_le:∀ d,39≤BI d
 | 0=>Nat.le_refl _
 | d+1=>by have:=BI_le d;rw[BI];omega
def DeckItem (d:Nat):Prop:=∀ (w:World) (H:Snap) (g:Nat),Tabs H→DeckIn w g H→Calls Tryz.prog 43 #[.pointer (some ⟨g,0,none⟩),.int .i64 (d:Int)] w (DealtI w H g (BI d))
theorem modest_plain (k:Int) (n:Nat) (l:List UInt8) (h:l.length≤1099511627776):Modest (.mk k n l []):=by rw[Modest,ModestL];exact⟨h,by simp,trivial⟩
theorem encB_simple (n:Nat):(encB (.mk 7 n [] [])).length≤39:=by
 rw[encB_eq]
 simp only[Itm.kind,Itm.n,Itm.bytes,Itm.items,encL,List.append_nil]
 rw[if_neg (by omega)]
 split
 ·simp
 ·have:=(headB_le (7:Int).toNat (numP (.mk 7 n [] []))).2
  omega
theorem encB_float (n:Nat):(encB (.mk 8 n [] [])).length≤39:=by
 rw[encB_eq,if_pos (show(Itm.mk 8 n [] []).kind=8 from rfl)]
 rcases floatB_length n with h | h | h <;> (simp only[Itm.n];omega)
theorem item_zero:DeckItem 0:=by
 intro w H g hTab hD
 have HBI:=Hh (BI_le 0);have hgl:=hD.deck.lt;have hD0:=hD.alloc zeroO;have hd0:=hD.grows ((Grows.refl hD.holds).alloc zeroO);have hT0:=Blk.new w 26 #[.int .i64 0,.int .u64 0,.slice none 0 0,.slice none 0 0];have hn1:H w.heap.size=none:=hD.holds.none_of_ge (Nat.le_refl _);have NX:=Hh (deck_Next _ hD0 9 (by omega) (by omega));clear hD;go_enter Tryz.func43,Tryz.ntmps43
 go_wp2_with fail
 refine NX.out.mono ?_
 rintro e w1 ⟨r,rfl,hr,hd1'⟩
 have hd1:=hd0.trans hd1';have hT1:=hT0.dealt hd1' (by omega);clear NX hd0 hd1' hT0 hD0
 rcases(by omega:r=0∨r=1∨r=2∨r=3∨r=4∨r=5∨r=6∨r=7∨r=8) with rfl | rfl | rfl | rfl | rfl | rfl | rfl | rfl | rfl
 ·have NB:=Hh (mk_Number w1 hd1.deck);go_wp2_with fail
  refine NB.out.mono ?_
  rintro e w2 ⟨m',rfl,hm',hd2⟩
  have hTz:=hT1.dealt hd2 (by omega);have hdz:=hd1.trans hd2;have hnz:=hd2.hid hn1 hT1.lt;have HMM:=Hh hm';clear NB hd1 hd2 hT1 hn1 hm';go_wp2_with (with_reducible refine stop_store ?_)
  refine stI hTz fun wz hTy hgz=>?_
  have hdy:=hdz.gb hnz (Nat.le_refl _) hgl hgz;go_wp2_with fail
  refine ret_row rfl rfl hTy rfl rfl size_item rfl ?_
  exact⟨_,.mk 0 m' [] [],rfl,⟨none,0,none,0,_,rfl,hdy,IsItem.plain _ 0 m' (by omega) HMM.out⟩,modest_plain _ _ _ (by simp),by have:=encB_len 0 m' [] [] (by omega) (by omega);have:=HBI.out;simp[encL]at *;omega⟩
 ·have NB:=Hh (mk_Number w1 hd1.deck);go_wp2_with fail
  refine NB.out.mono ?_
  rintro e w2 ⟨m',rfl,hm',hd2⟩
  have hTz:=hT1.dealt hd2 (by omega);have hdz:=hd1.trans hd2;have hnz:=hd2.hid hn1 hT1.lt;have HMM:=Hh hm';clear NB hd1 hd2 hT1 hn1 hm';go_wp2_with (with_reducible refine stop_store ?_)
  refine stI hTz fun wz hTy hgz=>?_
  have hdy:=hdz.gb hnz (Nat.le_refl _) hgl hgz;go_wp2_with fail
  refine ret_row rfl rfl hTy rfl rfl size_item rfl ?_
  exact⟨_,.mk 1 m' [] [],rfl,⟨none,0,none,0,_,rfl,hdy,IsItem.plain _ 1 m' (by omega) HMM.out⟩,modest_plain _ _ _ (by simp),by have:=encB_len 1 m' [] [] (by omega) (by omega);have:=HBI.out;simp[encL]at *;omega⟩
 ·have NB:=Hh (mk_Bytes w1 hd1.deck 30 (by omega) (by omega));go_wp2_with fail
  refine NB.out.mono ?_
  rintro e w2 ⟨A,c,l,rfl,hl,H2,hb2,hd2⟩
  have hT2:=hT1.dealt hd2 (by omega);have hn2:=hd2.hid hn1 hT1.lt;have hd2':=hd1.trans hd2;have RB:=Hh (ref_Bytes (A:=A) (c:=c) (l:=l) rfl (by omega) w2 (Src.of_row hb2.row hd2.holds) hd2.holds);have HL:=Hh hl;clear NB hd1 hd2 hT1 hn1 hl hb2;go_wp2_with fail
  refine RB.out.mono ?_
  rintro e w3 ⟨v3,rfl,ja,jb,jc,jd,H3,rfl,hG3,hi3⟩
  have hTz:=hT2.below hG3.below;have hnz:=hG3.none hn2 hT2.lt;have hdz:=hd2'.grown hG3;clear hT2 hn2 hd2' hG3 RB;go_wp2_with (with_reducible refine stop_store ?_)
  refine stI hTz fun wz hTy hgz=>?_
  have hdy:=hdz.gb hnz (Nat.le_refl _) hgl hgz;go_wp2_with fail
  refine ret_row rfl rfl hTy rfl rfl size_item rfl ?_
  exact⟨_,.mk 2 0 l [],rfl,⟨ja,jb,jc,jd,H3,rfl,hdy,hi3⟩,modest_plain _ _ _ (by have:=HL.out;omega),by have:=encB_len 2 0 l [] (by omega) (by omega);have:=HBI.out;have:=HL.out;simp[encL]at *;omega⟩
 ·have NB:=Hh (mk_Text w1 hd1.deck 8 (by omega) (by omega));go_wp2_with fail
  refine NB.out.mono ?_
  rintro e w2 ⟨s,rfl,hl,hd2⟩
  have hT2:=hT1.dealt hd2 (by omega);have hn2:=hd2.hid hn1 hT1.lt;have hd2':=hd1.trans hd2;have RB:=Hh (ref_Text s (by omega) w2 hd2.holds);have HL:=Hh hl;clear NB hd1 hd2 hT1 hn1 hl;go_wp2_with fail
  refine RB.out.mono ?_
  rintro e w3 ⟨v3,rfl,ja,jb,jc,jd,H3,rfl,hG3,hi3⟩
  have hTz:=hT2.below hG3.below;have hnz:=hG3.none hn2 hT2.lt;have hdz:=hd2'.grown hG3;have HLS:Hid (s.data.toList.length=s.size):=by rw[Hid];first | rfl | simp
  obtain⟨XT,hXT⟩:∃ X,Itm.mk 3 0 s.data.toList []=X:=⟨_,rfl⟩
  rw[hXT]at hi3⊢;have HXT:=Hh hXT;clear hT2 hn2 hd2' hG3 RB hXT;go_wp2_with (with_reducible refine stop_store ?_)
  refine stI hTz fun wz hTy hgz=>?_
  have hdy:=hdz.gb hnz (Nat.le_refl _) hgl hgz;go_wp2_with fail
  refine ret_row rfl rfl hTy rfl rfl size_item rfl ?_
  exact⟨_,XT,rfl,⟨ja,jb,jc,jd,H3,rfl,hdy,hi3⟩,by rw[← HXT.out];exact modest_plain _ _ _ (by have:=HL.out;have:=HLS.out;omega),by have:=encB_len 3 0 s.data.toList [] (by omega) (by omega);have:=HBI.out;have:=HL.out;have:=HLS.out;rw[← HXT.out];simp[encL]at *;omega⟩
 ·have NB:=Hh (mk_Number w1 hd1.deck);go_wp2_with fail
  refine NB.out.mono ?_
  rintro e w2 ⟨m',rfl,hm',hd2⟩
  have hTz:=hT1.dealt hd2 (by omega);have hdz:=hd1.trans hd2;have hnz:=hd2.hid hn1 hT1.lt;have HMM:=Hh hm';clear NB hd1 hd2 hT1 hn1 hm';go_wp2_with (with_reducible refine stop_store ?_)
  refine stI hTz fun wz hTy hgz=>?_
  have hdy:=hdz.gb hnz (Nat.le_refl _) hgl hgz;go_wp2_with fail
  refine ret_row rfl rfl hTy rfl rfl size_item rfl ?_
  exact⟨_,.mk 0 m' [] [],rfl,⟨none,0,none,0,_,rfl,hdy,IsItem.plain _ 0 m' (by omega) HMM.out⟩,modest_plain _ _ _ (by simp),by have:=encB_len 0 m' [] [] (by omega) (by omega);have:=HBI.out;simp[encL]at *;omega⟩
 ·have NB:=Hh (mk_Number w1 hd1.deck);go_wp2_with fail
  refine NB.out.mono ?_
  rintro e w2 ⟨m',rfl,hm',hd2⟩
  have hTz:=hT1.dealt hd2 (by omega);have hdz:=hd1.trans hd2;have hnz:=hd2.hid hn1 hT1.lt;have HMM:=Hh hm';clear NB hd1 hd2 hT1 hn1 hm';go_wp2_with (with_reducible refine stop_store ?_)
  refine stI hTz fun wz hTy hgz=>?_
  have hdy:=hdz.gb hnz (Nat.le_refl _) hgl hgz;go_wp2_with fail
  refine ret_row rfl rfl hTy rfl rfl size_item rfl ?_
  exact⟨_,.mk 0 m' [] [],rfl,⟨none,0,none,0,_,rfl,hdy,IsItem.plain _ 0 m' (by omega) HMM.out⟩,modest_plain _ _ _ (by simp),by have:=encB_len 0 m' [] [] (by omega) (by omega);have:=HBI.out;simp[encL]at *;omega⟩
 ·have NB:=Hh (mk_Number w1 hd1.deck);go_wp2_with fail
  refine NB.out.mono ?_
  rintro e w2 ⟨m',rfl,hm',hd2⟩
  have hTz:=hT1.dealt hd2 (by omega);have hdz:=hd1.trans hd2;have hnz:=hd2.hid hn1 hT1.lt;have HMM:=Hh hm';clear NB hd1 hd2 hT1 hn1 hm';go_wp2_with (with_reducible refine stop_store ?_)
  refine stI hTz fun wz hTy hgz=>?_
  have hdy:=hdz.gb hnz (Nat.le_refl _) hgl hgz;go_wp2_with fail
  refine ret_row rfl rfl hTy rfl rfl size_item rfl ?_
  exact⟨_,.mk 0 m' [] [],rfl,⟨none,0,none,0,_,rfl,hdy,IsItem.plain _ 0 m' (by omega) HMM.out⟩,modest_plain _ _ _ (by simp),by have:=encB_len 0 m' [] [] (by omega) (by omega);have:=HBI.out;simp[encL]at *;omega⟩
 ·have hB:=Blk.new w1 22 #[.int .u64 20,.int .u64 21,.int .u64 22,.int .u64 23,.int .u64 0,.int .u64 19,.int .u64 32,.int .u64 255];have hd2:=hd1.alloc (.cells #[.int .u64 20,.int .u64 21,.int .u64 22,.int .u64 23,.int .u64 0,.int .u64 19,.int .u64 32,.int .u64 255] 22);have hT2:=hT1.alloc (.cells #[.int .u64 20,.int .u64 21,.int .u64 22,.int .u64 23,.int .u64 0,.int .u64 19,.int .u64 32,.int .u64 255] 22);have NB:=Hh (deck_Next _ hd2.deck 8 (by omega) (by omega));go_wp2_with fail
  refine NB.out.mono ?_
  rintro e w3 ⟨j,rfl,hj,hd3⟩
  have hB3:=hB.dealt hd3 (by have:=hd1.size;omega);obtain⟨v,hc,hP⟩:=hB3.pick isU64 (by kernel_rfl) j (by simp;omega);obtain⟨x,rfl,hx⟩:=isU64_spec hP;have hTz:=hT2.dealt hd3 (by omega);have hnz:=hd3.hid hn1 hT2.lt;have hdz:=hd2.trans hd3;have HMM:=Hh hx;clear NB hB hB3 hP hd1 hd2 hd3 hx hT1 hT2 hn1;go_wp2_with (with_reducible refine stop_store ?_)
  refine stI hTz fun wz hTy hgz=>?_
  have hdy:=hdz.gb hnz (Nat.le_refl _) hgl hgz;go_wp2_with fail
  refine ret_row rfl rfl hTy rfl rfl size_item rfl ?_
  exact⟨_,.mk 7 x [] [],rfl,⟨none,0,none,0,_,rfl,hdy,IsItem.plain _ 7 x (by omega) HMM.out⟩,modest_plain _ _ _ (by simp),Nat.le_trans (encB_simple x) HBI.out⟩
 ·have NB:=Hh (mk_Float w1 hd1.deck);go_wp2_with fail
  refine NB.out.mono ?_
  rintro e w2 ⟨⟨m',rfl,hm'⟩,hd2⟩
  have hTz:=hT1.dealt hd2 (by omega);have hdz:=hd1.trans hd2;have hnz:=hd2.hid hn1 hT1.lt;have HMM:=Hh hm';clear NB hd1 hd2 hT1 hn1 hm';go_wp2_with (with_reducible refine stop_store ?_)
  refine stI hTz fun wz hTy hgz=>?_
  have hdy:=hdz.gb hnz (Nat.le_refl _) hgl hgz;go_wp2_with fail
  refine ret_row rfl rfl hTy rfl rfl size_item rfl ?_
  exact⟨_,.mk 8 m' [] [],rfl,⟨none,0,none,0,_,rfl,hdy,IsItem.plain _ 8 m' (by omega) HMM.out⟩,modest_plain _ _ _ (by simp),Nat.le_trans (encB_float m') HBI.out⟩
theorem encB_zero:(encB zeroItm).length≤39:=by
 have:=encB_len 0 0 [] [] (by omega) (by omega);show(encB (.mk 0 0 [] [])).length≤39
 simp[encL]at this
 omega
theorem encL_bound {B:Nat}:∀ {l:List Itm},(∀ x∈l,(encB x).length≤B)→(encL l).length≤l.length*B
 | [],_=>by simp[encL]
 | x::l,h=>by
  have h1:=h x (by simp);have h2:=encL_bound (l:=l) fun y hy=>h y (by simp[hy])
  rw[encL,List.length_append,List.length_cons,Nat.succ_mul]
  omega
theorem own_hid3 {wr:World}{Hr:Snap}(hH:Holds wr Hr) {r0 r:Option Nat}(h0:∀ q,r0=some q→Hr q=none) (h:At0 wr r0 r):∀ q,r=some q→Hr q=none:=fun q hq=>by
 rcases h with h | ⟨g,h1,h2⟩
 ·exact h0 q (by rw[← h,hq])
 ·rw[hq]at h1;injection h1 with h1;subst h1;exact hH.none_of_ge h2
theorem Dealt.snap {w w':World}{H H' H'':Snap}{g B:Nat}{A:Option Addr}(h:Dealt w H w' H' g) (hl:H'.le H'') (hh:Holds w' H'') (hf:∀ b o,H'' b=some o→H' b=some o∨A.map (·.block)=some b)
  (hA:∀ q,A.map (·.block)=some q→B≤q) (hB:w.heap.size≤B) (hg:g<w.heap.size):Dealt w H w' H'' g:=by
 refine⟨⟨h.grows.grown,h.grows.le.trans hl,hh,fun b o hb=>?_⟩,h.deck.deck.mono hl,hh,snap_keep hf h.deck.apart (fun e=>by have:=hA _ e;omega)⟩
 rcases hf b o hb with h1 | h1
 ·exact h.grows.fresh b o h1
 ·exact .inr (by have:=hA _ h1;omega)
theorem item_succ (m:Nat) (hm:m≤8) (ih:DeckItem m):DeckItem (m+1):=by
 intro w H g hTab hD
 have HBI:=Hh (BI_le (m+1));have hgl:=hD.deck.lt;have hD0:=hD.alloc zeroO;have hd0:=hD.grows ((Grows.refl hD.holds).alloc zeroO);have hT0:=Blk.new w 26 #[.int .i64 0,.int .u64 0,.slice none 0 0,.slice none 0 0];have hn1:H w.heap.size=none:=hD.holds.none_of_ge (Nat.le_refl _);have NX:=Hh (deck_Next _ hD0 9 (by omega) (by omega));clear hD;have hm1:((m+1:Nat):Int)=(m:Int)+1:=by omega
 rw[hm1];have b0:(((m:Int)+1)==0)=false:=by rw[beq_eq_false_iff_ne];omega
 have p0:((m:Int)+1=0)=False:=eq_false (by omega);have hw0:IntKind.i64.wrap ((m:Int)+1-1)=(m:Int):=by rw[show(m:Int)+1-1=(m:Int) by omega];exact IntWalk.i64_in _ (by omega)
 have hw1:IntKind.i64.wrap (m:Int)=(m:Int):=IntWalk.i64_in _ (by omega);clear hm1 hm;go_enter Tryz.func43,Tryz.ntmps43
 go_wp2_with fail
 refine NX.out.mono ?_
 rintro e w1 ⟨r,rfl,hr,hd1'⟩
 have hd1:=hd0.trans hd1';have hT1:=hT0.dealt hd1' (by omega);clear NX hd0 hd1' hT0 hD0
 rcases(by omega:r=0∨r=1∨r=2∨r=3∨r=4∨r=5∨r=6∨r=7∨r=8) with rfl | rfl | rfl | rfl | rfl | rfl | rfl | rfl | rfl
 ·have NB:=Hh (mk_Number w1 hd1.deck);go_wp2_with fail
  refine NB.out.mono ?_
  rintro e w2 ⟨m',rfl,hm',hd2⟩
  have hTz:=hT1.dealt hd2 (by omega);have hdz:=hd1.trans hd2;have hnz:=hd2.hid hn1 hT1.lt;have HMM:=Hh hm';clear NB hd1 hd2 hT1 hn1 hm';go_wp2_with (with_reducible refine stop_store ?_)
  refine stI hTz fun wz hTy hgz=>?_
  have hdy:=hdz.gb hnz (Nat.le_refl _) hgl hgz;go_wp2_with fail
  refine ret_row rfl rfl hTy rfl rfl size_item rfl ?_
  exact⟨_,.mk 0 m' [] [],rfl,⟨none,0,none,0,_,rfl,hdy,IsItem.plain _ 0 m' (by omega) HMM.out⟩,modest_plain _ _ _ (by simp),by have:=encB_len 0 m' [] [] (by omega) (by omega);have:=HBI.out;simp[encL]at *;omega⟩
 ·have NB:=Hh (mk_Number w1 hd1.deck);go_wp2_with fail
  refine NB.out.mono ?_
  rintro e w2 ⟨m',rfl,hm',hd2⟩
  have hTz:=hT1.dealt hd2 (by omega);have hdz:=hd1.trans hd2;have hnz:=hd2.hid hn1 hT1.lt;have HMM:=Hh hm';clear NB hd1 hd2 hT1 hn1 hm';go_wp2_with (with_reducible refine stop_store ?_)
  refine stI hTz fun wz hTy hgz=>?_
  have hdy:=hdz.gb hnz (Nat.le_refl _) hgl hgz;go_wp2_with fail
  refine ret_row rfl rfl hTy rfl rfl size_item rfl ?_
  exact⟨_,.mk 1 m' [] [],rfl,⟨none,0,none,0,_,rfl,hdy,IsItem.plain _ 1 m' (by omega) HMM.out⟩,modest_plain _ _ _ (by simp),by have:=encB_len 1 m' [] [] (by omega) (by omega);have:=HBI.out;simp[encL]at *;omega⟩
 ·have NB:=Hh (mk_Bytes w1 hd1.deck 30 (by omega) (by omega));go_wp2_with fail
  refine NB.out.mono ?_
  rintro e w2 ⟨A,c,l,rfl,hl,H2,hb2,hd2⟩
  have hT2:=hT1.dealt hd2 (by omega);have hn2:=hd2.hid hn1 hT1.lt;have hd2':=hd1.trans hd2;have RB:=Hh (ref_Bytes (A:=A) (c:=c) (l:=l) rfl (by omega) w2 (Src.of_row hb2.row hd2.holds) hd2.holds);have HL:=Hh hl;clear NB hd1 hd2 hT1 hn1 hl hb2;go_wp2_with fail
  refine RB.out.mono ?_
  rintro e w3 ⟨v3,rfl,ja,jb,jc,jd,H3,rfl,hG3,hi3⟩
  have hTz:=hT2.below hG3.below;have hnz:=hG3.none hn2 hT2.lt;have hdz:=hd2'.grown hG3;clear hT2 hn2 hd2' hG3 RB;go_wp2_with (with_reducible refine stop_store ?_)
  refine stI hTz fun wz hTy hgz=>?_
  have hdy:=hdz.gb hnz (Nat.le_refl _) hgl hgz;go_wp2_with fail
  refine ret_row rfl rfl hTy rfl rfl size_item rfl ?_
  exact⟨_,.mk 2 0 l [],rfl,⟨ja,jb,jc,jd,H3,rfl,hdy,hi3⟩,modest_plain _ _ _ (by have:=HL.out;omega),by have:=encB_len 2 0 l [] (by omega) (by omega);have:=HBI.out;have:=HL.out;simp[encL]at *;omega⟩
 ·have NB:=Hh (mk_Text w1 hd1.deck 8 (by omega) (by omega));go_wp2_with fail
  refine NB.out.mono ?_
  rintro e w2 ⟨s,rfl,hl,hd2⟩
  have hT2:=hT1.dealt hd2 (by omega);have hn2:=hd2.hid hn1 hT1.lt;have hd2':=hd1.trans hd2;have RB:=Hh (ref_Text s (by omega) w2 hd2.holds);have HL:=Hh hl;clear NB hd1 hd2 hT1 hn1 hl;go_wp2_with fail
  refine RB.out.mono ?_
  rintro e w3 ⟨v3,rfl,ja,jb,jc,jd,H3,rfl,hG3,hi3⟩
  have hTz:=hT2.below hG3.below;have hnz:=hG3.none hn2 hT2.lt;have hdz:=hd2'.grown hG3;have HLS:Hid (s.data.toList.length=s.size):=by rw[Hid];first | rfl | simp
  obtain⟨XT,hXT⟩:∃ X,Itm.mk 3 0 s.data.toList []=X:=⟨_,rfl⟩
  rw[hXT]at hi3⊢;have HXT:=Hh hXT;clear hT2 hn2 hd2' hG3 RB hXT;go_wp2_with (with_reducible refine stop_store ?_)
  refine stI hTz fun wz hTy hgz=>?_
  have hdy:=hdz.gb hnz (Nat.le_refl _) hgl hgz;go_wp2_with fail
  refine ret_row rfl rfl hTy rfl rfl size_item rfl ?_
  exact⟨_,XT,rfl,⟨ja,jb,jc,jd,H3,rfl,hdy,hi3⟩,by rw[← HXT.out];exact modest_plain _ _ _ (by have:=HL.out;have:=HLS.out;omega),by have:=encB_len 3 0 s.data.toList [] (by omega) (by omega);have:=HBI.out;have:=HL.out;have:=HLS.out;rw[← HXT.out];simp[encL]at *;omega⟩
 ·have NB:=Hh (deck_Next w1 hd1.deck 4 (by omega) (by omega));go_wp2_with fail
  refine NB.out.mono ?_
  rintro e w2 ⟨n0,rfl,hn0',hd2⟩
  have hT2:=hT1.dealt hd2 (by omega);have hn2:=hd2.hid hn1 hT1.lt;have hd3:=hd1.trans hd2;have hO2:=OwnI.nil w2 (w.heap.size+1) H;clear NB hd1 hd2 hT1 hn1;go_wp2_with fail
  go_loopw [6,7] (fun v6 v7 wr=>∃ (kk:Nat) (Hr:Snap) (VA:Option Addr) (vc vn:Nat) (L:List Itm),v7=.int .i64 (kk:Int)∧v6=.slice VA vn vc∧vn=L.length∧Dealt w H wr Hr g∧OwnI wr (w.heap.size+1) (.slice VA vn vc) Hr L∧(∀ z∈L,Modest z∧(encB z).length≤BI m)∧L.length+1*kk≤3∧  Blk wr w.heap.size 26 #[.int .i64 0,.int .u64 0,.slice none 0 0,.slice none 0 0]∧Hr w.heap.size=none∧(∀ q,(Value.slice VA vn vc).ownBlock=some q→Hr q=none)) (fun _ v7 _=>(intOf v7).toNat)
  case atStart=>exact⟨n0,H,_,_,_,[],rfl,rfl,rfl,hd3,hO2,by simp,by simp;omega,hT2,hn2,by intro q hq;simp[Value.ownBlock]at hq⟩
  case round =>
   clear hT2 hn2 hd3 hO2 hn0';obtain⟨kk,Hr,VA,vc,vn,L,rfl,rfl,rfl,hdr,hOr,hL1,hL2,hTr,hTn,hnr⟩:=hrel;have HLL:=Hh (And.intro hL1 hL2);clear hL1 hL2
   by_cases hlt:(0:Int)<(kk:Int)
   ·skip
    have IT:=Hh (ih wr Hr g (hTab.mono hdr.le) hdr.deck);go_wp2_with fail
    refine IT.out.mono ?_
    rintro e w4 ⟨v4,y,rfl,⟨ja,jb,jc,jd,H4,rfl,hd4,hi4⟩,hmy,hly⟩
    have hO4:=((hOr.dealt hd4 (by omega)).mono hd4.le).alloc (.cells (itemC y ja jb jc jd).toArray 26);have hn4:∀ q,(Value.slice VA L.length vc).ownBlock=some q→H4 q=none:=fun q hq=>hd4.hid (hnr q hq) (hOr.lt q hq).2
    have hT4:=(hTr.dealt hd4 (by omega)).alloc (.cells (itemC y ja jb jc jd).toArray 26);have hTn4:=hd4.hid hTn hTr.lt;have hd5:=(hdr.trans hd4).alloc (.cells (itemC y ja jb jc jd).toArray 26);have HY:=Hh (And.intro hmy hly);clear IT hd4 hdr hOr hTr hnr hTn hmy hly;go_wp2_with (at_builtin;refine stop_in ?_)
    refine wpList_app_items rfl (.tmp 73) (.tmp 78) rfl (w.heap.size+1) (.slice VA L.length vc) H4 _ rfl hO4 _ 1 _ (itemC y ja jb jc jd) [y] rfl rfl (ItemsC.one hi4) (Src.new _ _ _ _ rfl _ rfl) (by have:=HLL.out.2;simp;omega) (by have:=hT4.lt;simp only[size_alloc]at this⊢;omega) fun v' w7 hO7 hg7 hat7=>?_
    obtain⟨VA',vc',rfl,_⟩:=hO7.form;have hT7:=hT4.grown hg7 (fun e=>by have:=(hO4.lt _ e).1;omega);have hn7:=own_hid3 hd5.holds hn4 hat7;have hd7:=hd5.grownRow hn4 (fun q hq=>by have:=(hO4.lt q hq).1;omega) hgl hg7;obtain⟨L',hL'⟩:∃ L',L++[y]=L':=⟨_,rfl⟩
    rw[hL']at hO7 hn7⊢
    have HL2:Hid ((∀ z∈L',Modest z∧(encB z).length≤BI m)∧L'.length=L.length+1):=by
     rw[Hid,← hL']
     refine⟨fun z hz=>?_,by simp⟩
     rw[List.mem_append]at hz
     rcases hz with hz | hz
     ·exact HLL.out.1 z hz
     ·rw[List.mem_singleton.1 hz];exact HY.out
    clear hL' hO4 hn4 hT4 hd5 hg7 hat7 hi4;have hk2:IntKind.i64.wrap ((kk:Int)-1)=(kk:Int)-1:=IntWalk.i64_in _ (by have:=HLL.out.2;omega);go_wp2_with fail
    go_roundw
    case rel=>exact⟨kk-1,_,VA',vc',_,L',by rw[show((kk-1:Nat):Int)=(kk:Int)-1 by omega],rfl,rfl,hd7,hO7,HL2.out.1,by have:=HL2.out.2;have:=HLL.out.2;omega,hT7,hTn4,hn7⟩
    case measure=>simp[intOf];omega
   ·skip
    obtain⟨H5,hl5,hh5,hf5,hz5,hle1,hle2,hel5⟩:=hOr.snap hdr.holds (fun q hq=>hnr q (own_of hq));have hlow:∀ q,VA.map (·.block)=some q→w.heap.size+1≤q:=fun q hq=>(hOr.lt q (own_of hq)).1
    have hn5:H5 w.heap.size=none:=snap_keep hf5 hTn (fun e=>by have:=hlow _ e;omega);have hd6:Dealt w H wr H5 g:=hdr.snap (B:=w.heap.size+1) hl5 hh5 hf5 hlow (by omega) hgl;obtain⟨x7,hx7⟩:∃ x,Itm.mk 4 0 [] L=x:=⟨_,rfl⟩
    have ha7:ItemA H5 4 0 none 0 0 VA L.length vc x7:=by
     refine⟨by rw[← hx7];rfl,by rw[← hx7];rfl,by rw[← hx7];rfl,by rw[← hx7];rfl, ?_⟩
     rw[← hx7]
     exact IsRowI.item ⟨hle1,hle2,hel5⟩ 4 (by omega) 0 (by omega)
    have WH:=Hh (mk_whole (hTab.mono hd6.le) ha7 _ hd6.holds)
    have HX7:=Hh (show Modest x7∧(encB x7).length≤9+6*BI m by
     rw[← hx7]
     refine⟨by rw[Modest];exact⟨by simp,by have:=HLL.out.2;omega,ModestL.of fun z hz=>(HLL.out.1 z hz).1⟩, ?_⟩
     have h1:=encB_len 4 0 [] L (by omega) (by omega);have h2:=encL_bound (fun z hz=>(HLL.out.1 z hz).2);have h3:L.length*BI m≤6*BI m:=Nat.mul_le_mul_right _ (by have:=HLL.out.2;omega)
     simp only[List.length_nil]at h1
     omega)
    clear hOr hf5 hel5 ha7 hx7 hh5 hl5 hTn hnr hlow hdr;go_wp2_with fail
    refine WH.out.mono ?_
    rintro e w8 ⟨v8,y8,rfl,⟨qa,qb,qc,qd,H8,rfl,hG8,hi8⟩,hy8⟩
    have hTz:=hTr.below hG8.below;have hnz:=hG8.none hn5 hTr.lt;have hdz:=hd6.grown hG8;have HY:=Hh hy8;clear WH hTr hG8 hd6 hn5 hy8;go_wp2_with (with_reducible refine stop_store ?_)
    refine stI hTz fun wz hTy hgz=>?_
    have hdy:=hdz.gb hnz (Nat.le_refl _) hgl hgz;go_wp2_with fail
    refine ret_row rfl rfl hTy rfl rfl size_item rfl ?_
    refine⟨_,y8,rfl,⟨qa,qb,qc,qd,H8,rfl,hdy,hi8⟩, ?_⟩
    rcases HY.out with rfl | rfl
    ·exact⟨HX7.out.1,by have:=HX7.out.2;rw[BI];omega⟩
    ·exact⟨modest_zero,Nat.le_trans encB_zero (BI_le _)⟩
 ·have NB:=Hh (deck_Next w1 hd1.deck 4 (by omega) (by omega));go_wp2_with fail
  refine NB.out.mono ?_
  rintro e w2 ⟨n0,rfl,hn0',hd2⟩
  have hT2:=hT1.dealt hd2 (by omega);have hn2:=hd2.hid hn1 hT1.lt;have hd3:=hd1.trans hd2;have hO2:=OwnI.nil w2 (w.heap.size+1) H;clear NB hd1 hd2 hT1 hn1;go_wp2_with fail
  go_loopw [6,7] (fun v6 v7 wr=>∃ (kk:Nat) (Hr:Snap) (VA:Option Addr) (vc vn:Nat) (L:List Itm),v7=.int .i64 (kk:Int)∧v6=.slice VA vn vc∧vn=L.length∧Dealt w H wr Hr g∧OwnI wr (w.heap.size+1) (.slice VA vn vc) Hr L∧(∀ z∈L,Modest z∧(encB z).length≤BI m)∧L.length+2*kk≤6∧  Blk wr w.heap.size 26 #[.int .i64 0,.int .u64 0,.slice none 0 0,.slice none 0 0]∧Hr w.heap.size=none∧(∀ q,(Value.slice VA vn vc).ownBlock=some q→Hr q=none)) (fun _ v7 _=>(intOf v7).toNat)
  case atStart=>exact⟨n0,H,_,_,_,[],rfl,rfl,rfl,hd3,hO2,by simp,by simp;omega,hT2,hn2,by intro q hq;simp[Value.ownBlock]at hq⟩
  case round =>
   clear hT2 hn2 hd3 hO2 hn0';obtain⟨kk,Hr,VA,vc,vn,L,rfl,rfl,rfl,hdr,hOr,hL1,hL2,hTr,hTn,hnr⟩:=hrel;have HLL:=Hh (And.intro hL1 hL2);clear hL1 hL2
   by_cases hlt:(0:Int)<(kk:Int)
   ·skip
    have IT:=Hh (ih wr Hr g (hTab.mono hdr.le) hdr.deck);go_wp2_with fail
    refine IT.out.mono ?_
    rintro e w4 ⟨v4,y,rfl,⟨ja,jb,jc,jd,H4,rfl,hd4,hi4⟩,hmy,hly⟩
    have hO4:=((hOr.dealt hd4 (by omega)).mono hd4.le).alloc (.cells (itemC y ja jb jc jd).toArray 26);have hn4:∀ q,(Value.slice VA L.length vc).ownBlock=some q→H4 q=none:=fun q hq=>hd4.hid (hnr q hq) (hOr.lt q hq).2
    have hT4:=(hTr.dealt hd4 (by omega)).alloc (.cells (itemC y ja jb jc jd).toArray 26);have hTn4:=hd4.hid hTn hTr.lt;have hd5:=(hdr.trans hd4).alloc (.cells (itemC y ja jb jc jd).toArray 26);have HY:=Hh (And.intro hmy hly);clear IT hd4 hdr hOr hTr hnr hTn hmy hly;go_wp2_with (at_builtin;refine stop_in ?_)
    refine wpList_app_items rfl (.tmp 73) (.tmp 78) rfl (w.heap.size+1) (.slice VA L.length vc) H4 _ rfl hO4 _ 1 _ (itemC y ja jb jc jd) [y] rfl rfl (ItemsC.one hi4) (Src.new _ _ _ _ rfl _ rfl) (by have:=HLL.out.2;simp;omega) (by have:=hT4.lt;simp only[size_alloc]at this⊢;omega) fun v' w7 hO7 hg7 hat7=>?_
    obtain⟨VA',vc',rfl,_⟩:=hO7.form;have hT7:=hT4.grown hg7 (fun e=>by have:=(hO4.lt _ e).1;omega);have hn7:=own_hid3 hd5.holds hn4 hat7;have hd7:=hd5.grownRow hn4 (fun q hq=>by have:=(hO4.lt q hq).1;omega) hgl hg7;obtain⟨L',hL'⟩:∃ L',L++[y]=L':=⟨_,rfl⟩
    rw[hL']at hO7 hn7⊢
    have HL2:Hid ((∀ z∈L',Modest z∧(encB z).length≤BI m)∧L'.length=L.length+1):=by
     rw[Hid,← hL']
     refine⟨fun z hz=>?_,by simp⟩
     rw[List.mem_append]at hz
     rcases hz with hz | hz
     ·exact HLL.out.1 z hz
     ·rw[List.mem_singleton.1 hz];exact HY.out
    clear hL' hO4 hn4 hT4 hd5 hg7 hat7 hi4;have HLLa:Hid ((∀ z∈L',Modest z∧(encB z).length≤BI m)∧L'.length+1+2*(kk-1)≤6):=⟨HL2.out.1,by have:=HL2.out.2;have:=HLL.out.2;omega⟩
    clear HLL HL2;obtain⟨wr2,hwr2⟩:∃ x,w7=x:=⟨_,rfl⟩
    subst hwr2;obtain⟨HLL,hdr,hOr,hTr,hTn,hnr⟩:=And.intro HLLa (And.intro hd7 (And.intro hO7 (And.intro hT7 (And.intro hTn4 hn7))));clear HLLa hd7 hO7 hT7 hTn4 hn7 HY;have IT:=Hh (ih w7 H4 g (hTab.mono hdr.le) hdr.deck);go_wp2_with fail
    refine IT.out.mono ?_
    rintro e w14 ⟨v4,z',rfl,⟨ja,jb,jc,jd,H14,rfl,hd4,hi4⟩,hmy,hly⟩
    have hO4:=((hOr.dealt hd4 (by omega)).mono hd4.le).alloc (.cells (itemC z' ja jb jc jd).toArray 26);have hn4:∀ q,(Value.slice VA' L'.length vc').ownBlock=some q→H14 q=none:=fun q hq=>hd4.hid (hnr q hq) (hOr.lt q hq).2
    have hT4:=(hTr.dealt hd4 (by omega)).alloc (.cells (itemC z' ja jb jc jd).toArray 26);have hTn4:=hd4.hid hTn hTr.lt;have hd5:=(hdr.trans hd4).alloc (.cells (itemC z' ja jb jc jd).toArray 26);have HY:=Hh (And.intro hmy hly);clear IT hd4 hdr hOr hTr hnr hTn hmy hly;go_wp2_with (at_builtin;refine stop_in ?_)
    refine wpList_app_items rfl (.tmp 82) (.tmp 87) rfl (w.heap.size+1) (.slice VA' L'.length vc') H14 _ rfl hO4 _ 1 _ (itemC z' ja jb jc jd) [z'] rfl rfl (ItemsC.one hi4) (Src.new _ _ _ _ rfl _ rfl) (by have:=HLL.out.2;simp;omega) (by have:=hT4.lt;simp only[size_alloc]at this⊢;omega) fun v' w17 hO7 hg7 hat7=>?_
    obtain⟨VA2,vc2,rfl,_⟩:=hO7.form;have hT7:=hT4.grown hg7 (fun e=>by have:=(hO4.lt _ e).1;omega);have hn7:=own_hid3 hd5.holds hn4 hat7;have hd7:=hd5.grownRow hn4 (fun q hq=>by have:=(hO4.lt q hq).1;omega) hgl hg7;obtain⟨L2,hL'⟩:∃ L2,L'++[z']=L2:=⟨_,rfl⟩
    rw[hL']at hO7 hn7⊢
    have HL2:Hid ((∀ z∈L2,Modest z∧(encB z).length≤BI m)∧L2.length=L'.length+1):=by
     rw[Hid,← hL']
     refine⟨fun z hz=>?_,by simp⟩
     rw[List.mem_append]at hz
     rcases hz with hz | hz
     ·exact HLL.out.1 z hz
     ·rw[List.mem_singleton.1 hz];exact HY.out
    clear hL' hO4 hn4 hT4 hd5 hg7 hat7 hi4;have hk2:IntKind.i64.wrap ((kk:Int)-1)=(kk:Int)-1:=IntWalk.i64_in _ (by have:=HLL.out.2;omega);go_wp2_with fail
    go_roundw
    case rel=>exact⟨kk-1,_,VA2,vc2,_,L2,by rw[show((kk-1:Nat):Int)=(kk:Int)-1 by omega],rfl,rfl,hd7,hO7,HL2.out.1,by have:=HL2.out.2;have:=HLL.out.2;omega,hT7,hTn4,hn7⟩
    case measure=>simp[intOf];omega
   ·skip
    obtain⟨H5,hl5,hh5,hf5,hz5,hle1,hle2,hel5⟩:=hOr.snap hdr.holds (fun q hq=>hnr q (own_of hq));have hlow:∀ q,VA.map (·.block)=some q→w.heap.size+1≤q:=fun q hq=>(hOr.lt q (own_of hq)).1
    have hn5:H5 w.heap.size=none:=snap_keep hf5 hTn (fun e=>by have:=hlow _ e;omega);have hd6:Dealt w H wr H5 g:=hdr.snap (B:=w.heap.size+1) hl5 hh5 hf5 hlow (by omega) hgl;have BD:=Hh (ref_Build (hTab.mono hd6.le) (IsRowI.two hle1 hle2 hel5) (by have:=HLL.out.2;omega) wr hd6.holds);clear hOr hf5 hel5 hh5 hl5 hTn hnr hlow hdr;go_wp2_with fail
    refine BD.out.mono ?_
    intro e w8 hbs
    obtain⟨v8,c,y8,rfl,⟨qa,qb,qc,qd,H8,rfl,hG8,hi8⟩,hbo⟩:=hbs.one;have hT8:=hTr.below hG8.below;have hn8:=hG8.none hn5 hTr.lt;have hd8:=hd6.grown hG8;have hTz:=hT8.alloc (itemO y8 qa qb qc qd);have hB8:=Blk.new w8 26 #[.int .i64 y8.kind,.int .u64 y8.n,.slice qa y8.bytes.length qb,.slice qc y8.items.length qd];have hdz:=hd8.alloc (itemO y8 qa qb qc qd);have hnz:=hn8;clear BD hTr hG8 hd6 hn5 hT8 hd8 hn8
    rcases hbo with ⟨rfl,l,hxl,hvx,hsz,_⟩ | ⟨hc,hxz,hno⟩
    ·have HXY:=Hh (show Modest y8∧(encB y8).length≤BI (m+1) by
      refine⟨validP_modest hvx, ?_⟩
      rw[hxl];have h1:=encB_len 5 0 [] l (by omega) (by omega);have h2:=encL_bound (fun z hz=>(HLL.out.1 z hz).2);have h3:L.length*BI m≤6*BI m:=Nat.mul_le_mul_right _ (by have:=HLL.out.2;omega)
      simp only[List.length_nil]at h1
      rw[BI]
      omega)
     clear hxl hvx hsz;go_upto_region 30 with fail
     go_wp2_with (with_reducible refine stop_store ?_)
     refine stI hTz fun wz hTy hgz=>?_
     have hdy:=hdz.gb hnz (Nat.le_refl _) hgl hgz;go_wp2_with fail
     refine ret_row rfl rfl hTy rfl rfl size_item rfl ?_
     exact⟨_,y8,rfl,⟨qa,qb,qc,qd,H8,rfl,hdy,hi8⟩,HXY.out.1,HXY.out.2⟩
    ·have b1:(c != 0)=true:=by simp[hc]
     have p1:(c=0)=False:=eq_false hc;clear hc hno hxz;go_upto_region 29 with fail
     go_wp2_with (with_reducible refine stop_store ?_)
     refine stI hTz fun wz hTy hgz=>?_
     have hdy:=hdz.gb hnz (Nat.le_refl _) hgl hgz;go_wp2_with fail
     refine ret_row rfl rfl hTy rfl rfl size_item rfl ?_
     exact⟨_,.mk 5 0 [] [],rfl,⟨none,0,none,0,H8,rfl,hdy,IsItem.plain _ 5 0 (by omega) (by omega)⟩,modest_plain _ _ _ (by simp),by have:=encB_len 5 0 [] [] (by omega) (by omega);have:=BI_le (m+1);simp[encL]at *;omega⟩
 ·have NB:=Hh (mk_Number w1 hd1.deck);go_wp2_with fail
  refine NB.out.mono ?_
  rintro e w2 ⟨m',rfl,hm',hd2⟩
  have hT2:=hT1.dealt hd2 (by omega);have hd3:=hd1.trans hd2;have hn2:=hd2.hid hn1 hT1.lt;have HMM:=Hh hm';clear NB hd1 hd2 hT1 hn1 hm';have IT:=Hh (ih w2 H g hTab hd3.deck);go_wp2_with fail
  refine IT.out.mono ?_
  rintro e w4 ⟨v4,y,rfl,⟨ja,jb,jc,jd,H4,rfl,hd4,hi4⟩,hmy,hly⟩
  have hT4:=(hT2.dealt hd4 (by omega)).alloc (.cells (itemC y ja jb jc jd).toArray 26);have hn4:=hd4.hid hn2 hT2.lt;have hd5:=(hd3.trans hd4).alloc (.cells (itemC y ja jb jc jd).toArray 26);have hO:=OwnI.lit (w:=w4) (ItemsC.one hi4) w4.heap.size (Nat.le_refl _) (by simp);have hwt:w.heap.size<w4.heap.size:=by have:=hT2.lt;have:=hd4.size;omega
  obtain⟨H5,hl5,hh5,hf5,hz5,hle1,hle2,hel5⟩:=hO.snap hd5.holds (fun q hq=>by cases hq;exact hd4.holds.none_of_ge (Nat.le_refl _));have hk5:∀ q,q<w4.heap.size→H4 q=none→H5 q=none:=fun q hq h0=>snap_keep hf5 h0 (fun e=>by simp at e;omega)
  have hd6:Dealt w H (w4.alloc (.cells (itemC y ja jb jc jd).toArray 26)) H5 g:=hd5.snap (B:=w4.heap.size) hl5 hh5 hf5 (fun q hq=>by simp at hq;omega) (by omega) hgl;have hn5:=hk5 _ hwt hn4;obtain⟨x7,hx7⟩:∃ x,Itm.mk 6 m' [] [y]=x:=⟨_,rfl⟩
  have ha7:ItemA H5 6 m' none 0 0 (some ⟨w4.heap.size,0,none⟩) 1 1 x7:=by
   refine⟨by rw[← hx7];rfl,by rw[← hx7];rfl,by rw[← hx7];rfl,by rw[← hx7];rfl, ?_⟩
   rw[← hx7]
   exact IsRowI.item ⟨hle1,hle2,hel5⟩ 6 (by omega) m' HMM.out
  have WH:=Hh (mk_whole (hTab.mono hd6.le) ha7 _ hd6.holds)
  have HX7:=Hh (show Modest x7∧(encB x7).length≤9+BI m by
   rw[← hx7]
   refine⟨by rw[Modest,ModestL,ModestL];exact⟨by simp,by simp,hmy,trivial⟩, ?_⟩
   have:=encB_len 6 m' [] [y] (by omega) (by omega)
   simp[encL]at this
   omega)
  clear IT hT2 hn2 hd3 hd4 hd5 hO hf5 hel5 hk5 ha7 hi4 hmy hly hx7 hh5 hl5 hn4;go_wp2_with fail
  refine WH.out.mono ?_
  rintro e w8 ⟨v8,y8,rfl,⟨qa,qb,qc,qd,H8,rfl,hG8,hi8⟩,hy8⟩
  have hTz:=hT4.below hG8.below;have hnz:=hG8.none hn5 hT4.lt;have hdz:=hd6.grown hG8;have HY:=Hh hy8;clear WH hT4 hG8 hd6 hn5 hy8;go_wp2_with (with_reducible refine stop_store ?_)
  refine stI hTz fun wz hTy hgz=>?_
  have hdy:=hdz.gb hnz (Nat.le_refl _) hgl hgz;go_wp2_with fail
  refine ret_row rfl rfl hTy rfl rfl size_item rfl ?_
  refine⟨_,y8,rfl,⟨qa,qb,qc,qd,H8,rfl,hdy,hi8⟩, ?_⟩
  rcases HY.out with rfl | rfl
  ·exact⟨HX7.out.1,by have:=HX7.out.2;rw[BI];omega⟩
  ·exact⟨modest_zero,Nat.le_trans encB_zero (BI_le _)⟩
 ·have hB:=Blk.new w1 22 #[.int .u64 20,.int .u64 21,.int .u64 22,.int .u64 23,.int .u64 0,.int .u64 19,.int .u64 32,.int .u64 255];have hd2:=hd1.alloc (.cells #[.int .u64 20,.int .u64 21,.int .u64 22,.int .u64 23,.int .u64 0,.int .u64 19,.int .u64 32,.int .u64 255] 22);have hT2:=hT1.alloc (.cells #[.int .u64 20,.int .u64 21,.int .u64 22,.int .u64 23,.int .u64 0,.int .u64 19,.int .u64 32,.int .u64 255] 22);have NB:=Hh (deck_Next _ hd2.deck 8 (by omega) (by omega));go_wp2_with fail
  refine NB.out.mono ?_
  rintro e w3 ⟨j,rfl,hj,hd3⟩
  have hB3:=hB.dealt hd3 (by have:=hd1.size;omega);obtain⟨v,hc,hP⟩:=hB3.pick isU64 (by kernel_rfl) j (by simp;omega);obtain⟨x,rfl,hx⟩:=isU64_spec hP;have hTz:=hT2.dealt hd3 (by omega);have hnz:=hd3.hid hn1 hT2.lt;have hdz:=hd2.trans hd3;have HMM:=Hh hx;clear NB hB hB3 hP hd1 hd2 hd3 hx hT1 hT2 hn1;go_wp2_with (with_reducible refine stop_store ?_)
  refine stI hTz fun wz hTy hgz=>?_
  have hdy:=hdz.gb hnz (Nat.le_refl _) hgl hgz;go_wp2_with fail
  refine ret_row rfl rfl hTy rfl rfl size_item rfl ?_
  exact⟨_,.mk 7 x [] [],rfl,⟨none,0,none,0,_,rfl,hdy,IsItem.plain _ 7 x (by omega) HMM.out⟩,modest_plain _ _ _ (by simp),Nat.le_trans (encB_simple x) HBI.out⟩
 ·have NB:=Hh (mk_Float w1 hd1.deck);go_wp2_with fail
  refine NB.out.mono ?_
  rintro e w2 ⟨⟨m',rfl,hm'⟩,hd2⟩
  have hTz:=hT1.dealt hd2 (by omega);have hdz:=hd1.trans hd2;have hnz:=hd2.hid hn1 hT1.lt;have HMM:=Hh hm';clear NB hd1 hd2 hT1 hn1 hm';go_wp2_with (with_reducible refine stop_store ?_)
  refine stI hTz fun wz hTy hgz=>?_
  have hdy:=hdz.gb hnz (Nat.le_refl _) hgl hgz;go_wp2_with fail
  refine ret_row rfl rfl hTy rfl rfl size_item rfl ?_
  exact⟨_,.mk 8 m' [] [],rfl,⟨none,0,none,0,_,rfl,hdy,IsItem.plain _ 8 m' (by omega) HMM.out⟩,modest_plain _ _ _ (by simp),Nat.le_trans (encB_float m') HBI.out⟩
theorem byte_wrap (v:Int):∃ x:UInt8,Value.int .u8 (IntKind.u8.wrap v)=byteV x:=by
 refine⟨UInt8.ofNat (v%256).toNat, ?_⟩
 have h:(v%256).toNat<256:=by omega
 rw[IntKind.wrap_u8,byteV,UInt8.toNat_ofNat_of_lt' (by simpa using h)];congr 1
 omega
theorem litSrc {W:World}{base:Nat}{v:Value}{l:List UInt8}(_h:OwnB W base v l) (cs:Array Value) (t:TypeId):Src (W.alloc (.cells cs t)) (some ⟨W.heap.size,0,none⟩) cs.toList:=Src.lit _ _ _
def Some_ (w:World) (H:Snap) (e:Ending) (w':World):Prop:=∃ B d l',e=.returned (.slice B l'.length d)∧∃ H',Grows w H w' H'∧IsBytes H' B d l'
theorem Some_.of {w w':World}{H:Snap}{e:Ending}{B:Option Addr}{n d:Nat}{l':List UInt8}(hH:Holds w H) (he:e=.returned (.slice B n d)) (hf:Fresh w l' (.slice B n d) w'):Some_ w H e w':=by
 obtain⟨H',hG,hb,hn⟩:=Fresh.snapB hH hf
 exact⟨B,d,l',by rw[← hn];exact he,H',hG,hb⟩
theorem mk_Spoilt {H:Snap}(w:World) (hH:Holds w H) {A:Option Addr}{n c:Nat}{l:List UInt8}(hn:n=l.length) (hl:IsBytes H A c l) (hll:l.length≤1099511627) (at_ by_:Int) :
  Calls Tryz.prog 10 #[.slice A n c,.int .i64 at_,.int .i64 by_] w (Some_ w H):=by
 obtain⟨x,hx⟩:=byte_wrap by_;have HX:=Hh hx;have HN:=Hh (And.intro hn hll);have HS:=Hh (Src.of_row hl.row hH);have HH:=Hh hH;clear hx hl hH;obtain⟨bw,hbw⟩:∃ bw,IntKind.u8.wrap by_=bw:=⟨_,rfl⟩
 rw[hbw]at HX;have MD:=Hh (fun(v:Int) (w:World)=>mk_Mod v 4 (by omega) (by omega) w);go_enter Tryz.func10,Tryz.ntmps10
 go_wp2_with (at_builtin;refine stop_in ?_)
 refine wpList_app_bytes rfl (.const (.slice none 0 0)) (.tmp 9) rfl w.heap.size (.slice none 0 0) [] rfl (OwnB.nil _ _) A n c l rfl HN.out.1 HS.out (by have:=HN.out.2;simp;omega) (Nat.le_refl _) fun v' w1 hO1 hg1 hat1=>?_
 rw[List.nil_append]at hO1;have hb1:=grown_none (by simpa [Value.ownBlock] using hg1);obtain⟨RA,rc,rfl,hrc,hrm,hsr⟩:=hO1.form;rw[← hn]at hO1 hrc⊢;have HRC:=Hh (And.intro hrc hrm);clear hg1 hat1 hrc hrm hsr hn hll
 by_cases h0:n=0
 ·subst h0;go_wp2_with fail
  go_ret
  exact Some_.of HH.out rfl (by
   have hf:=Fresh.lit w1 [x] #[.int .u8 bw] 1 rfl (by simp) (by simp[← HX.out])
   exact hf.step hb1)
 have e0:((n:Int)==0)=false:=by simp;omega
 have e0':((n:Int)=0)=False:=eq_false (by omega);have M1:=mk_Mod at_ (n:Int) (by omega) (by have:=HN.out.1;have:=HN.out.2;omega) w1;have mb:=modP_bnd at_ (n:Int) (by omega);obtain⟨kk,hkk⟩:∃ kk,modP at_ (n:Int)=kk:=⟨_,rfl⟩
 rw[hkk]at M1 mb;obtain⟨k,rfl⟩:=Int.eq_ofNat_of_zero_le mb.1;have hkn:k<n:=by omega
 have hki:(k:Int)<(n:Int):=by omega
 have hk0:(0:Int)≤(k:Int):=by omega
 have hnr:(n:Int)≤(rc:Int):=by have h:=HRC.out.1;omega
 have hkr:(k:Int)≤(rc:Int):=by omega
 have hn40:(n:Int)≤1099511627:=by have:=HN.out.1;have:=HN.out.2;omega
 have M1h:=Hh M1;have HK:=Hh (And.intro hkn h0);clear M1 mb hkk h0 hkn;go_wp2_with fail
 refine M1h.out.mono ?_
 rintro e w2 ⟨rfl,rfl⟩
 go_wp2_with fail
 refine(MD.out _ _).mono ?_
 rintro e w3 ⟨rfl,rfl⟩
 clear M1h;have mb4:=fun v=>modP_bnd v 4 (by omega)
 generalize hs:modP _ 4=s
 have hs4:0≤s∧s<4:=by rw[← hs];exact mb4 _
 clear hs mb4 MD
 rcases(by omega:s=0∨s=1∨s=2∨s=3) with rfl | rfl | rfl | rfl
 ·obtain⟨gq,cur,rfl,hbg,hBq,hkc,hset⟩:=hO1.store_ (k:=k) (by have:=HN.out.1;have:=HK.out.1;omega);clear hs4;go_wp2_with (with_reducible refine stop_store ?_)
  refine wpList_store_cell rfl _ _ _ rfl rfl gq k (.int .u8 bw) rfl rfl _ _ hBq size_u8c hkc rfl fun w4 hB4 hg4=>?_
  have hO4:=hset w4 x (by rw[← HX.out];exact hB4);have hb4:=below_of_grown hb1 hg4 (by rintro q ⟨⟩;exact hbg);go_wp2_with fail
  go_ret
  exact Some_.of HH.out rfl ⟨hO4,hb4⟩
 ·clear hs4;have KP:IntKind.i64.wrap ((k:Int)+1)=(k:Int)+1:=IntWalk.i64_in _ (by omega);have kt:((k:Int)+1).toNat=k+1:=by omega
  have y1:(k:Int)+1≤(n:Int):=by omega
  have y2:(k:Int)+1≤(rc:Int):=by omega
  have y0:(0:Int)≤(k:Int)+1:=by omega
  have hOt:=hO1.take_ (k:=k) (by have:=HN.out.1;have:=HK.out.1;omega)
  have HLL:=Hh (show(l.take k).length=k∧(l.drop (k+1)).length=n-(k+1) by
   rw[List.length_take,List.length_drop];have:=HN.out.1;have:=HK.out.1;omega)
  have hOtd:OwnB w1.drew w.heap.size (.slice RA k rc) (l.take k):=hOt;have hb1d:Below w.heap.size w w1.drew:=hb1.drew
  by_cases hck:rc=k+1
  ·have hSd:Src w1.drew RA ((l.drop (k+1)).map byteV):=by
    rw[List.drop_of_length_le (by have:=HN.out.1;have:=HRC.out.1;omega)];exact Src.nil _ _
   have hSd':=Hh hSd;have hckT:(rc=k+1)=True:=eq_true hck;clear hck;clear hSd hOt;go_upto_region 10 with fail
   refine wp_region_ways 8 (fun _=>True) (by kernel_rfl) (trivial) (fun hHeld=>?_)
   refine TkT 0 rfl ?_
   refine TkT 1 rfl ?_
   refine TkT 2 rfl ?_
   refine TkT 3 rfl ?_
   refine TkT 4 rfl ?_
   refine TkT 5 rfl ?_
   refine TkT 6 rfl ?_
   refine To 7 rfl fun K hK=>?_
   refine wp_app_bytes (.tmp 38) (.tmp 42) rfl w.heap.size _ _ rfl hOtd RA (n-(k+1)) _ (l.drop (k+1)) rfl HLL.out.2.symm hSd'.out (by have:=HLL.out;have:=HN.out;have:=HK.out.1;omega) hb1d.size fun v' w5 hO5 hg5 hat5=>?_
   obtain⟨S5,hS5⟩:∃ S5,l.take k++l.drop (k+1)=S5:=⟨_,rfl⟩
   rw[hS5]at hO5;clear hS5;have hb5:=hb1d.grown hg5 hb1d.size (fun q hq=>(hOtd.lt q hq).1);obtain⟨VA,vc,rfl,_⟩:=hO5.form;go_simp
   refine Ko hK ?_ fun hHeld=>?_
   ·exact trivial
   clear hK K
   refine To 8 rfl fun K hK=>?_
   go_simp
   refine Kz hK ?_
   clear hK K
   refine Wd ?_
   go_wp2_with fail
   go_ret
   exact Some_.of HH.out rfl ⟨hO5,hb5⟩
  ·have hckF:(rc=k+1)=False:=eq_false hck
   have hSd:Src w1.drew (Option.map (fun x=>x.add (k+1)) RA) ((l.drop (k+1)).map byteV):=by
    obtain⟨gq,cur,rfl,hbg,hBq,hkc,hset⟩:=hO1.store_ (k:=k) (by have:=HN.out.1;have:=HK.out.1;omega)
    have h:=src_sub (w:=w1) (b:=gq) (off:=0) (n:=n-(k+1)) (l:=l) (fun j hj=>by
     obtain⟨gb,go,e1,e2⟩:=hO1.src (by intro h0;rw[List.map_eq_nil_iff]at h0;subst h0;simp at hj);injection e1 with e1;injection e1 with e1 e1';subst e1;subst e1'
     exact e2 j _ (by simp[hj])) (k+1) (some ⟨gq,0+(k+1),none⟩) (fun _=>rfl) (by have:=HN.out.1;have:=HK.out.1;omega)
    rw[List.take_of_length_le (by have:=HLL.out.2;omega)]at h;rw[Option.map_some,addr_add]
    exact h
   have hSd':=Hh hSd;clear hck;clear hSd hOt;go_upto_region 10 with fail
   refine wp_region_ways 8 (fun _=>True) (by kernel_rfl) (trivial) (fun hHeld=>?_)
   refine TkT 0 rfl ?_
   refine TkT 1 rfl ?_
   refine TkT 2 rfl ?_
   refine TkT 3 rfl ?_
   refine TkT 4 rfl ?_
   refine TkT 5 rfl ?_
   refine TkT 6 rfl ?_
   refine To 7 rfl fun K hK=>?_
   refine wp_app_bytes (.tmp 38) (.tmp 42) rfl w.heap.size _ _ rfl hOtd (Option.map (fun x=>x.add (k+1)) RA) (n-(k+1)) _ (l.drop (k+1)) rfl HLL.out.2.symm hSd'.out (by have:=HLL.out;have:=HN.out;have:=HK.out.1;omega) hb1d.size fun v' w5 hO5 hg5 hat5=>?_
   obtain⟨S5,hS5⟩:∃ S5,l.take k++l.drop (k+1)=S5:=⟨_,rfl⟩
   rw[hS5]at hO5;clear hS5;have hb5:=hb1d.grown hg5 hb1d.size (fun q hq=>(hOtd.lt q hq).1);obtain⟨VA,vc,rfl,_⟩:=hO5.form;go_simp
   refine Ko hK ?_ fun hHeld=>?_
   ·exact trivial
   clear hK K
   refine To 8 rfl fun K hK=>?_
   go_simp
   refine Kz hK ?_
   clear hK K
   refine Wd ?_
   go_wp2_with fail
   go_ret
   exact Some_.of HH.out rfl ⟨hO5,hb5⟩
 ·clear hs4;have HTK:=Hh (show(l.take k).length=k∧(l.drop k).length=n-k by rw[List.length_take,List.length_drop];have:=HN.out.1;have:=HK.out.1;omega);obtain⟨gq,cur,rfl,hbg,hBq,hkc,hset⟩:=hO1.store_ (k:=k) (by have:=HN.out.1;have:=HK.out.1;omega)
  have HSUB:Hid (∀ W,OwnB W w.heap.size (.slice (some ⟨gq,0,none⟩) n rc) l→Src W (some ⟨gq,0,none⟩) ((l.take k).map byteV)∧Src W (some ⟨gq,k,none⟩) ((l.drop k).map byteV)):=by
   intro W hW
   have hc:∀ j (hj:j<l.length),W.cell? ⟨gq,0+j,none⟩=some (byteV l[j]):=fun j hj=>by
    obtain⟨gb,go,e1,e2⟩:=hW.src (by intro h0;rw[List.map_eq_nil_iff]at h0;subst h0;simp at hj);injection e1 with e1;injection e1 with e1 e1';subst e1;subst e1'
    exact e2 j _ (by simp[hj])
   have h1:=src_sub (w:=W) (b:=gq) (off:=0) (n:=k) (l:=l) hc 0 (some ⟨gq,0,none⟩) (fun _=>rfl) (by have:=HN.out.1;have:=HK.out.1;omega);have h2:=src_sub (w:=W) (b:=gq) (off:=0) (n:=n-k) (l:=l) hc k (some ⟨gq,k,none⟩) (fun _=>by rw[Nat.zero_add]) (by have:=HN.out.1;have:=HK.out.1;omega);rw[List.drop_zero]at h1;rw[List.take_of_length_le (by have:=HTK.out.2;omega)]at h2
   exact⟨h1,h2⟩
  have hknN:k≤n:=by have:=HK.out.1;omega
  have hrck:(rc=k)=False:=eq_false (by have:=HRC.out.1;have:=HK.out.1;omega);have hOc:OwnB w1.drew w.heap.size (.slice (some ⟨gq,0,none⟩) n rc) l:=hO1;have hbx:Below w.heap.size w w1.drew:=hb1.drew;clear hset hBq hkc hO1 hb1;go_upto_region 12 with fail
  refine wp_region_ways 12 (fun _=>True) (by kernel_rfl) (trivial) (fun hHeld=>?_)
  refine TkT 0 rfl ?_
  refine TkT 1 rfl ?_
  refine TkT 2 rfl ?_
  refine TkT 4 rfl ?_
  refine TkT 5 rfl ?_
  refine TkT 8 rfl ?_
  refine TkT 9 rfl ?_
  refine TkT 10 rfl ?_
  refine Ways.two (i:=3) (j:=6) rfl rfl (by kernel_rfl) (fun K hK=>?_) (fun K hK=>?_)
  ·refine wp_app_bytes (.const (.slice none 0 0)) (.tmp 48) rfl _ (.slice none 0 0) [] rfl (OwnB.nil _ _) (some ⟨gq,0,none⟩) k rc (l.take k) rfl HTK.out.1.symm (HSUB.out _ hOc).1 (by have:=HTK.out.1;have:=HN.out;have:=HK.out.1;simp only[List.length_nil];omega) (Nat.le_refl _) fun v' w5 hO5 hg5 hat5=>?_
   rw[List.nil_append]at hO5;obtain⟨S5,hS5⟩:∃ S5,l.take k=S5:=⟨_,rfl⟩
   rw[hS5]at hO5;have HS5:=Hh (show S5.length=k by rw[← hS5];exact HTK.out.1);clear hS5;have hb5:=grown_none (by simpa [Value.ownBlock] using hg5);have hlq:=(hOc.lt gq rfl).2;have hO5l:=Hh (show ∀ q,v'.ownBlock=some q→gq<q from fun q hq=>by have h1:=(hO5.lt q hq).1;have h2:=hlq;(try simp only[drew_heap,size_alloc]at h1 h2);omega);have hO5:=hO5.more hbx.size;have hbx:=hbx.trans (hb5.mono hbx.size);have hOc:=hOc.below hb5;(try have hSx:=hSx.below hb5)
   obtain⟨VA,vc,rfl,_⟩:=hO5.form;clear hg5 hat5 hb5;go_simp
   refine Ko hK ?_ fun hHeld=>?_
   ·exact trivial
   clear hK K
   refine To 6 rfl fun K hK=>?_
   go_simp
   have hSx:=litSrc hOc #[.int .u8 bw] 5;rw[show(#[Value.int .u8 bw]:Array Value).toList=[x].map byteV by simp[← HX.out]]at hSx;have hOc:=hOc.alloc (.cells #[.int .u8 bw] 5);(try have hO5:=hO5.alloc (.cells #[.int .u8 bw] 5))
   have hbx:=hbx.alloc hbx.size (.cells #[.int .u8 bw] 5)
   refine Ko hK ?_ fun hHeld=>?_
   ·exact trivial
   clear hK K
   refine To 7 rfl fun K hK=>?_
   refine wp_app_bytes (.tmp 49) (.tmp 52) rfl w.heap.size _ _ rfl hO5 _ 1 _ [x] rfl rfl hSx (by have:=HS5.out;have:=HN.out;have:=HK.out.1;simp only[List.length_singleton];omega) hbx.size fun v' w7 hO7 hg7 hat7=>?_
   obtain⟨S7,hS7⟩:∃ S7,S5++[x]=S7:=⟨_,rfl⟩
   rw[hS7]at hO7;have HS7:=Hh (show S7.length=k+1 by rw[← hS7,List.length_append,HS5.out];rfl);clear hS7;have hbx:=hbx.grown hg7 hbx.size (fun q hq=>(hO5.lt q hq).1);have hOc7:=hOc.kept hg7 (.inr (fun e=>by have:=hO5l.out gq e.symm;omega));obtain⟨VA2,vc2,rfl,_⟩:=hO7.form;go_simp
   refine Ko hK ?_ fun hHeld=>?_
   ·exact trivial
   clear hK K
   refine To 11 rfl fun K hK=>?_
   refine wp_app_bytes (.tmp 53) (.tmp 56) rfl w.heap.size _ _ rfl hO7 (some ⟨gq,k,none⟩) (n-k) _ (l.drop k) rfl HTK.out.2.symm (HSUB.out _ hOc7).2 (by have:=HS7.out;have:=HTK.out;have:=HN.out;have:=HK.out.1;omega) hbx.size fun v' w8 hO8 hg8 hat8=>?_
   obtain⟨S8,hS8⟩:∃ S8,S7++l.drop k=S8:=⟨_,rfl⟩
   rw[hS8]at hO8;clear hS8;have hbx:=hbx.grown hg8 hbx.size (fun q hq=>(hO7.lt q hq).1);obtain⟨VA3,vc3,rfl,_⟩:=hO8.form;go_simp
   refine Ko hK ?_ fun hHeld=>?_
   ·exact trivial
   clear hK K
   refine To 12 rfl fun K hK=>?_
   go_simp
   refine Kz hK ?_
   clear hK K
   refine Wd ?_
   go_wp2_with fail
   go_ret
   exact Some_.of HH.out rfl ⟨hO8,hbx⟩
  ·go_simp
   have hSx:=litSrc hOc #[.int .u8 bw] 5;rw[show(#[Value.int .u8 bw]:Array Value).toList=[x].map byteV by simp[← HX.out]]at hSx;have hOc:=hOc.alloc (.cells #[.int .u8 bw] 5);(try have hO5:=hO5.alloc (.cells #[.int .u8 bw] 5))
   have hbx:=hbx.alloc hbx.size (.cells #[.int .u8 bw] 5)
   refine Ko hK ?_ fun hHeld=>?_
   ·exact trivial
   clear hK K
   refine To 3 rfl fun K hK=>?_
   refine wp_app_bytes (.const (.slice none 0 0)) (.tmp 48) rfl _ (.slice none 0 0) [] rfl (OwnB.nil _ _) (some ⟨gq,0,none⟩) k rc (l.take k) rfl HTK.out.1.symm (HSUB.out _ hOc).1 (by have:=HTK.out.1;have:=HN.out;have:=HK.out.1;simp only[List.length_nil];omega) (Nat.le_refl _) fun v' w5 hO5 hg5 hat5=>?_
   rw[List.nil_append]at hO5;obtain⟨S5,hS5⟩:∃ S5,l.take k=S5:=⟨_,rfl⟩
   rw[hS5]at hO5;have HS5:=Hh (show S5.length=k by rw[← hS5];exact HTK.out.1);clear hS5;have hb5:=grown_none (by simpa [Value.ownBlock] using hg5);have hlq:=(hOc.lt gq rfl).2;have hO5l:=Hh (show ∀ q,v'.ownBlock=some q→gq<q from fun q hq=>by have h1:=(hO5.lt q hq).1;have h2:=hlq;(try simp only[drew_heap,size_alloc]at h1 h2);omega);have hO5:=hO5.more hbx.size;have hbx:=hbx.trans (hb5.mono hbx.size);have hOc:=hOc.below hb5;(try have hSx:=hSx.below hb5)
   obtain⟨VA,vc,rfl,_⟩:=hO5.form;clear hg5 hat5 hb5;go_simp
   refine Ko hK ?_ fun hHeld=>?_
   ·exact trivial
   clear hK K
   refine To 7 rfl fun K hK=>?_
   refine wp_app_bytes (.tmp 49) (.tmp 52) rfl w.heap.size _ _ rfl hO5 _ 1 _ [x] rfl rfl hSx (by have:=HS5.out;have:=HN.out;have:=HK.out.1;simp only[List.length_singleton];omega) hbx.size fun v' w7 hO7 hg7 hat7=>?_
   obtain⟨S7,hS7⟩:∃ S7,S5++[x]=S7:=⟨_,rfl⟩
   rw[hS7]at hO7;have HS7:=Hh (show S7.length=k+1 by rw[← hS7,List.length_append,HS5.out];rfl);clear hS7;have hbx:=hbx.grown hg7 hbx.size (fun q hq=>(hO5.lt q hq).1);have hOc7:=hOc.kept hg7 (.inr (fun e=>by have:=hO5l.out gq e.symm;omega));obtain⟨VA2,vc2,rfl,_⟩:=hO7.form;go_simp
   refine Ko hK ?_ fun hHeld=>?_
   ·exact trivial
   clear hK K
   refine To 11 rfl fun K hK=>?_
   refine wp_app_bytes (.tmp 53) (.tmp 56) rfl w.heap.size _ _ rfl hO7 (some ⟨gq,k,none⟩) (n-k) _ (l.drop k) rfl HTK.out.2.symm (HSUB.out _ hOc7).2 (by have:=HS7.out;have:=HTK.out;have:=HN.out;have:=HK.out.1;omega) hbx.size fun v' w8 hO8 hg8 hat8=>?_
   obtain⟨S8,hS8⟩:∃ S8,S7++l.drop k=S8:=⟨_,rfl⟩
   rw[hS8]at hO8;clear hS8;have hbx:=hbx.grown hg8 hbx.size (fun q hq=>(hO7.lt q hq).1);obtain⟨VA3,vc3,rfl,_⟩:=hO8.form;go_simp
   refine Ko hK ?_ fun hHeld=>?_
   ·exact trivial
   clear hK K
   refine To 12 rfl fun K hK=>?_
   go_simp
   refine Kz hK ?_
   clear hK K
   refine Wd ?_
   go_wp2_with fail
   go_ret
   exact Some_.of HH.out rfl ⟨hO8,hbx⟩
 ·clear hs4;have hOt:=hO1.take_ (k:=k) (by have:=HN.out.1;have:=HK.out.1;omega);go_wp2_with fail
  go_ret
  exact Some_.of HH.out rfl ⟨hOt,hb1⟩
end Go.Proofs.YtgcjjhibdbafmaaGreatDoor
