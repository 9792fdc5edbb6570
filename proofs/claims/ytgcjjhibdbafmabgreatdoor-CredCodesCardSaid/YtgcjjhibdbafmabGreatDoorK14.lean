/- squeezed. Walks: bytes, with something chang -/
import Derived.Test.YtgcjjhibdbafmabGreatDoorK13
import Derived.Deep.DeepCutAuto
import Derived.Deep.CutBlock
set_option linter.unusedVariables false
set_option linter.unusedSimpArgs false
set_option maxRecDepth 100000
set_option maxHeartbeats 12800000
namespace Go.Proofs.YtgcjjhibdbafmabGreatDoor
open Go.RowKit
theorem gB (v:Int):∃ x:UInt8,Value.int .u8 (IntKind.u8.wrap v)=zI x:=by
 refine⟨UInt8.ofNat (v%256).toNat, ?_⟩
 have h:(v%256).toNat<256:=by omega
 rw[IntKind.wrap_u8,zI,UInt8.toNat_ofNat_of_lt' (by simpa using h)];congr 1
 omega
theorem WX {W:World}{base:Nat}{v:Value}{l:List UInt8}(_h:OwnB W base v l) (cs:Array Value) (t:TypeId):Src (W.alloc (.cells cs t)) (some ⟨W.heap.size,0,none⟩) cs.toList:=Src.lit _ _ _
def Some_ (w:World) (H:Snap) (e:Ending) (w':World):Prop:=∃ B d l',e=.returned (.slice B l'.length d)∧∃ H',Grows w H w' H'∧IsBytes H' B d l'
theorem Some_.of {w w':World}{H:Snap}{e:Ending}{B:Option Addr}{n d:Nat}{l':List UInt8}(hH:Holds w H) (he:e=.returned (.slice B n d)) (hf:Fresh w l' (.slice B n d) w'):Some_ w H e w':=by
 obtain⟨H',hG,hb,hn⟩:=Fresh.snapB hH hf
 exact⟨B,d,l',by rw[← hn];exact he,H',hG,hb⟩
theorem YH {H:Snap}(w:World) (hH:Holds w H) {A:Option Addr}{n c:Nat}{l:List UInt8}(hn:n=l.length) (hl:IsBytes H A c l) (iP:l.length≤1099511627) (at_ by_:Int) :
  Calls Tryz.prog 16 #[.slice A n c,.int .i64 at_,.int .i64 by_] w (Some_ w H):=by
 obtain⟨x,hx⟩:=gB by_;have HX:=Hh hx;have HN:=Hh (And.intro hn iP);have HS:=Hh (Src.of_row hl.row hH);have HH:=Hh hH;clear hx hl hH;obtain⟨bw,kJ⟩:∃ bw,IntKind.u8.wrap by_=bw:=⟨_,rfl⟩
 rw[kJ]at HX;have MD:=Hh (fun(v:Int) (w:World)=>jq v 4 (by omega) (by omega) w);go_enter Tryz.func16,Tryz.ntmps16
 go_wp2_with (at_builtin;refine yf ?_)
 refine zR rfl (.const (.slice none 0 0)) (.tmp 9) rfl w.heap.size (.slice none 0 0) [] rfl (OwnB.nil _ _) A n c l rfl HN.out.1 HS.out (by have:=HN.out.2;simp;omega) (Nat.le_refl _) fun v' w1 nR wM hat1=>?_
 rw[List.nil_append]at nR;have wU:=zC (by simpa [Value.ownBlock] using wM);obtain⟨RA,rc,rfl,Qt,Kv,JB⟩:=nR.form;rw[← hn]at nR Qt⊢;have Ug:=Hh (And.intro Qt Kv);clear wM hat1 Qt Kv JB hn iP
 by_cases h0:n=0
 ·subst h0;go_wp2_with fail
  go_ret
  exact Some_.of HH.out rfl (by
   have hf:=Fresh.lit w1 [x] #[.int .u8 bw] 1 rfl (by simp) (by simp[← HX.out])
   exact hf.step wU)
 have e0:((n:Int)==0)=false:=by simp;omega
 have e0':((n:Int)=0)=False:=eq_false (by omega);have M1:=jq at_ (n:Int) (by omega) (by have:=HN.out.1;have:=HN.out.2;omega) w1;have mb:=pa at_ (n:Int) (by omega);obtain⟨kk,cL⟩:∃ kk,kr at_ (n:Int)=kk:=⟨_,rfl⟩
 rw[cL]at M1 mb;obtain⟨k,rfl⟩:=Int.eq_ofNat_of_zero_le mb.1;have Xa:k<n:=by omega
 have ej:(k:Int)<(n:Int):=by omega
 have tB:(0:Int)≤(k:Int):=by omega
 have rI:(n:Int)≤(rc:Int):=by have h:=Ug.out.1;omega
 have GG:(k:Int)≤(rc:Int):=by omega
 have Gh:(n:Int)≤1099511627:=by have:=HN.out.1;have:=HN.out.2;omega
 have M1h:=Hh M1;have HK:=Hh (And.intro Xa h0);clear M1 mb cL h0 Xa;go_wp2_with fail
 refine M1h.out.mono ?_
 rintro e w2 ⟨rfl,rfl⟩
 go_wp2_with fail
 refine(MD.out _ _).mono ?_
 rintro e w3 ⟨rfl,rfl⟩
 clear M1h;have mb4:=fun v=>pa v 4 (by omega)
 generalize hs:kr _ 4=s
 have OH:0≤s∧s<4:=by rw[← hs];exact mb4 _
 clear hs mb4 MD
 rcases(by omega:s=0∨s=1∨s=2∨s=3) with rfl | rfl | rfl | rfl
 ·obtain⟨gq,cur,rfl,Mq,Nn,QE,UX⟩:=nR.store_ (k:=k) (by have:=HN.out.1;have:=HK.out.1;omega);clear OH;go_wp2_with (with_reducible refine zx ?_)
  refine zu rfl _ _ _ rfl rfl gq k (.int .u8 bw) rfl rfl _ _ Nn W9 QE rfl fun w4 oH tL=>?_
  have Ic:=UX w4 x (by rw[← HX.out];exact oH);have rF:=yg wU tL (by rintro q ⟨⟩;exact Mq);go_wp2_with fail
  go_ret
  exact Some_.of HH.out rfl ⟨Ic,rF⟩
 ·clear OH;have KP:IntKind.i64.wrap ((k:Int)+1)=(k:Int)+1:=IntWalk.i64_in _ (by omega);have kt:((k:Int)+1).toNat=k+1:=by omega
  have y1:(k:Int)+1≤(n:Int):=by omega
  have y2:(k:Int)+1≤(rc:Int):=by omega
  have y0:(0:Int)≤(k:Int)+1:=by omega
  have Q4:=nR.take_ (k:=k) (by have:=HN.out.1;have:=HK.out.1;omega)
  have bZ:=Hh (show(l.take k).length=k∧(l.drop (k+1)).length=n-(k+1) by
   rw[List.length_take,List.length_drop];have:=HN.out.1;have:=HK.out.1;omega)
  have UN:OwnB w1.drew w.heap.size (.slice RA k rc) (l.take k):=Q4;have Yh:Below w.heap.size w w1.drew:=wU.drew
  by_cases hck:rc=k+1
  ·have Q8:Src w1.drew RA ((l.drop (k+1)).map zI):=by
    rw[List.drop_of_length_le (by have:=HN.out.1;have:=Ug.out.1;omega)];exact Src.nil _ _
   have Ry:=Hh Q8;have GX:(rc=k+1)=True:=eq_true hck;clear hck;clear Q8 Q4;go_upto_region 10 with fail
   refine zr 8 (fun _=>True) (by kernel_rfl) (trivial) (fun zy=>?_)
   refine TkT 0 rfl ?_
   refine TkT 1 rfl ?_
   refine TkT 2 rfl ?_
   refine TkT 3 rfl ?_
   refine TkT 4 rfl ?_
   refine TkT 5 rfl ?_
   refine TkT 6 rfl ?_
   refine To 7 rfl fun K hK=>?_
   refine yV (.tmp 38) (.tmp 42) rfl w.heap.size _ _ rfl UN RA (n-(k+1)) _ (l.drop (k+1)) rfl bZ.out.2.symm Ry.out (by have:=bZ.out;have:=HN.out;have:=HK.out.1;omega) Yh.size fun v' w5 rn tR kA=>?_
   obtain⟨S5,Yu⟩:∃ S5,l.take k++l.drop (k+1)=S5:=⟨_,rfl⟩
   rw[Yu]at rn;clear Yu;have rG:=Yh.grown tR Yh.size (fun q hq=>(UN.lt q hq).1);obtain⟨VA,vc,rfl,_⟩:=rn.form;go_simp
   refine Ko hK ?_ fun zy=>?_
   ·exact trivial
   clear hK K
   refine To 8 rfl fun K hK=>?_
   go_simp
   refine Kz hK ?_
   clear hK K
   refine Wd ?_
   go_wp2_with fail
   go_ret
   exact Some_.of HH.out rfl ⟨rn,rG⟩
  have GW:(rc=k+1)=False:=eq_false hck
  have Q8:Src w1.drew (Option.map (fun x=>x.add (k+1)) RA) ((l.drop (k+1)).map zI):=by
   obtain⟨gq,cur,rfl,Mq,Nn,QE,UX⟩:=nR.store_ (k:=k) (by have:=HN.out.1;have:=HK.out.1;omega)
   have h:=rb (w:=w1) (b:=gq) (off:=0) (n:=n-(k+1)) (l:=l) (fun j hj=>by
    obtain⟨gb,go,e1,e2⟩:=nR.src (by intro h0;rw[List.map_eq_nil_iff]at h0;subst h0;simp at hj);injection e1 with e1;injection e1 with e1 e1';subst e1;subst e1'
    exact e2 j _ (by simp[hj])) (k+1) (some ⟨gq,0+(k+1),none⟩) (fun _=>rfl) (by have:=HN.out.1;have:=HK.out.1;omega)
   rw[List.take_of_length_le (by have:=bZ.out.2;omega)]at h;rw[Option.map_some,mh]
   exact h
  have Ry:=Hh Q8;clear hck;clear Q8 Q4;go_upto_region 10 with fail
  refine zr 8 (fun _=>True) (by kernel_rfl) (trivial) (fun zy=>?_)
  refine TkT 0 rfl ?_
  refine TkT 1 rfl ?_
  refine TkT 2 rfl ?_
  refine TkT 3 rfl ?_
  refine TkT 4 rfl ?_
  refine TkT 5 rfl ?_
  refine TkT 6 rfl ?_
  refine To 7 rfl fun K hK=>?_
  refine yV (.tmp 38) (.tmp 42) rfl w.heap.size _ _ rfl UN (Option.map (fun x=>x.add (k+1)) RA) (n-(k+1)) _ (l.drop (k+1)) rfl bZ.out.2.symm Ry.out (by have:=bZ.out;have:=HN.out;have:=HK.out.1;omega) Yh.size fun v' w5 rn tR kA=>?_
  obtain⟨S5,Yu⟩:∃ S5,l.take k++l.drop (k+1)=S5:=⟨_,rfl⟩
  rw[Yu]at rn;clear Yu;have rG:=Yh.grown tR Yh.size (fun q hq=>(UN.lt q hq).1);obtain⟨VA,vc,rfl,_⟩:=rn.form;go_simp
  refine Ko hK ?_ fun zy=>?_
  ·exact trivial
  clear hK K
  refine To 8 rfl fun K hK=>?_
  go_simp
  refine Kz hK ?_
  clear hK K
  refine Wd ?_
  go_wp2_with fail
  go_ret
  exact Some_.of HH.out rfl ⟨rn,rG⟩
 ·clear OH;have cI:=Hh (show(l.take k).length=k∧(l.drop k).length=n-k by rw[List.length_take,List.length_drop];have:=HN.out.1;have:=HK.out.1;omega);obtain⟨gq,cur,rfl,Mq,Nn,QE,UX⟩:=nR.store_ (k:=k) (by have:=HN.out.1;have:=HK.out.1;omega)
  have UH:Hid (∀ W,OwnB W w.heap.size (.slice (some ⟨gq,0,none⟩) n rc) l→Src W (some ⟨gq,0,none⟩) ((l.take k).map zI)∧Src W (some ⟨gq,k,none⟩) ((l.drop k).map zI)):=by
   intro W hW
   have hc:∀ j (hj:j<l.length),W.cell? ⟨gq,0+j,none⟩=some (zI l[j]):=fun j hj=>by
    obtain⟨gb,go,e1,e2⟩:=hW.src (by intro h0;rw[List.map_eq_nil_iff]at h0;subst h0;simp at hj);injection e1 with e1;injection e1 with e1 e1';subst e1;subst e1'
    exact e2 j _ (by simp[hj])
   have h1:=rb (w:=W) (b:=gq) (off:=0) (n:=k) (l:=l) hc 0 (some ⟨gq,0,none⟩) (fun _=>rfl) (by have:=HN.out.1;have:=HK.out.1;omega);have h2:=rb (w:=W) (b:=gq) (off:=0) (n:=n-k) (l:=l) hc k (some ⟨gq,k,none⟩) (fun _=>by rw[Nat.zero_add]) (by have:=HN.out.1;have:=HK.out.1;omega);rw[List.drop_zero]at h1;rw[List.take_of_length_le (by have:=cI.out.2;omega)]at h2
   exact⟨h1,h2⟩
  have Gd:k≤n:=by have:=HK.out.1;omega
  have Gk:(rc=k)=False:=eq_false (by have:=Ug.out.1;have:=HK.out.1;omega);have cJ:OwnB w1.drew w.heap.size (.slice (some ⟨gq,0,none⟩) n rc) l:=nR;have wG:Below w.heap.size w w1.drew:=wU.drew;clear UX Nn QE nR wU;go_upto_region 12 with fail
  refine zr 12 (fun _=>True) (by kernel_rfl) (trivial) (fun zy=>?_)
  refine TkT 0 rfl ?_
  refine TkT 1 rfl ?_
  refine TkT 2 rfl ?_
  refine TkT 4 rfl ?_
  refine TkT 5 rfl ?_
  refine TkT 8 rfl ?_
  refine TkT 9 rfl ?_
  refine TkT 10 rfl ?_
  refine Ways.two (i:=3) (j:=6) rfl rfl (by kernel_rfl) (fun K hK=>?_) (fun K hK=>?_)
  ·refine yV (.const (.slice none 0 0)) (.tmp 48) rfl _ (.slice none 0 0) [] rfl (OwnB.nil _ _) (some ⟨gq,0,none⟩) k rc (l.take k) rfl cI.out.1.symm (UH.out _ cJ).1 (by have:=cI.out.1;have:=HN.out;have:=HK.out.1;simp only[List.length_nil];omega) (Nat.le_refl _) fun v' w5 rn tR kA=>?_
   rw[List.nil_append]at rn;obtain⟨S5,Yu⟩:∃ S5,l.take k=S5:=⟨_,rfl⟩
   rw[Yu]at rn;have Pm:=Hh (show S5.length=k by rw[← Yu];exact cI.out.1);clear Yu;have rG:=zC (by simpa [Value.ownBlock] using tR);have N8:=(cJ.lt gq rfl).2;have Ru:=Hh (show ∀ q,v'.ownBlock=some q→gq<q from fun q hq=>by have h1:=(rn.lt q hq).1;have h2:=N8;(try simp only[ym,zX]at h1 h2);omega);have rn:=rn.more wG.size;have wG:=wG.trans (rG.mono wG.size);have cJ:=cJ.below rG;(try have Un:=Un.below rG)
   obtain⟨VA,vc,rfl,_⟩:=rn.form;clear tR kA rG;go_simp
   refine Ko hK ?_ fun zy=>?_
   ·exact trivial
   clear hK K
   refine To 6 rfl fun K hK=>?_
   go_simp
   have Un:=WX cJ #[.int .u8 bw] 5;rw[show(#[Value.int .u8 bw]:Array Value).toList=[x].map zI by simp[← HX.out]]at Un;have cJ:=cJ.alloc (.cells #[.int .u8 bw] 5);(try have rn:=rn.alloc (.cells #[.int .u8 bw] 5))
   have wG:=wG.alloc wG.size (.cells #[.int .u8 bw] 5)
   refine Ko hK ?_ fun zy=>?_
   ·exact trivial
   clear hK K
   refine To 7 rfl fun K hK=>?_
   refine yV (.tmp 49) (.tmp 52) rfl w.heap.size _ _ rfl rn _ 1 _ [x] rfl rfl Un (by have:=Pm.out;have:=HN.out;have:=HK.out.1;simp only[List.length_singleton];omega) wG.size fun v' w7 vo hg7 hat7=>?_
   obtain⟨S7,Sm⟩:∃ S7,S5++[x]=S7:=⟨_,rfl⟩
   rw[Sm]at vo;have MK:=Hh (show S7.length=k+1 by rw[← Sm,List.length_append,Pm.out];rfl);clear Sm;have wG:=wG.grown hg7 wG.size (fun q hq=>(rn.lt q hq).1);have Rw:=cJ.kept hg7 (.inr (fun e=>by have:=Ru.out gq e.symm;omega));obtain⟨VA2,vc2,rfl,_⟩:=vo.form;go_simp
   refine Ko hK ?_ fun zy=>?_
   ·exact trivial
   clear hK K
   refine To 11 rfl fun K hK=>?_
   refine yV (.tmp 53) (.tmp 56) rfl w.heap.size _ _ rfl vo (some ⟨gq,k,none⟩) (n-k) _ (l.drop k) rfl cI.out.2.symm (UH.out _ Rw).2 (by have:=MK.out;have:=cI.out;have:=HN.out;have:=HK.out.1;omega) wG.size fun v' w8 lm hg8 hat8=>?_
   obtain⟨S8,Q7⟩:∃ S8,S7++l.drop k=S8:=⟨_,rfl⟩
   rw[Q7]at lm;clear Q7;have wG:=wG.grown hg8 wG.size (fun q hq=>(vo.lt q hq).1);obtain⟨VA3,vc3,rfl,_⟩:=lm.form;go_simp
   refine Ko hK ?_ fun zy=>?_
   ·exact trivial
   clear hK K
   refine To 12 rfl fun K hK=>?_
   go_simp
   refine Kz hK ?_
   clear hK K
   refine Wd ?_
   go_wp2_with fail
   go_ret
   exact Some_.of HH.out rfl ⟨lm,wG⟩
  go_simp
  have Un:=WX cJ #[.int .u8 bw] 5;rw[show(#[Value.int .u8 bw]:Array Value).toList=[x].map zI by simp[← HX.out]]at Un;have cJ:=cJ.alloc (.cells #[.int .u8 bw] 5);(try have rn:=rn.alloc (.cells #[.int .u8 bw] 5))
  have wG:=wG.alloc wG.size (.cells #[.int .u8 bw] 5)
  refine Ko hK ?_ fun zy=>?_
  ·exact trivial
  clear hK K
  refine To 3 rfl fun K hK=>?_
  refine yV (.const (.slice none 0 0)) (.tmp 48) rfl _ (.slice none 0 0) [] rfl (OwnB.nil _ _) (some ⟨gq,0,none⟩) k rc (l.take k) rfl cI.out.1.symm (UH.out _ cJ).1 (by have:=cI.out.1;have:=HN.out;have:=HK.out.1;simp only[List.length_nil];omega) (Nat.le_refl _) fun v' w5 rn tR kA=>?_
  rw[List.nil_append]at rn;obtain⟨S5,Yu⟩:∃ S5,l.take k=S5:=⟨_,rfl⟩
  rw[Yu]at rn;have Pm:=Hh (show S5.length=k by rw[← Yu];exact cI.out.1);clear Yu;have rG:=zC (by simpa [Value.ownBlock] using tR);have N8:=(cJ.lt gq rfl).2;have Ru:=Hh (show ∀ q,v'.ownBlock=some q→gq<q from fun q hq=>by have h1:=(rn.lt q hq).1;have h2:=N8;(try simp only[ym,zX]at h1 h2);omega);have rn:=rn.more wG.size;have wG:=wG.trans (rG.mono wG.size);have cJ:=cJ.below rG;(try have Un:=Un.below rG)
  obtain⟨VA,vc,rfl,_⟩:=rn.form;clear tR kA rG;go_simp
  refine Ko hK ?_ fun zy=>?_
  ·exact trivial
  clear hK K
  refine To 7 rfl fun K hK=>?_
  refine yV (.tmp 49) (.tmp 52) rfl w.heap.size _ _ rfl rn _ 1 _ [x] rfl rfl Un (by have:=Pm.out;have:=HN.out;have:=HK.out.1;simp only[List.length_singleton];omega) wG.size fun v' w7 vo hg7 hat7=>?_
  obtain⟨S7,Sm⟩:∃ S7,S5++[x]=S7:=⟨_,rfl⟩
  rw[Sm]at vo;have MK:=Hh (show S7.length=k+1 by rw[← Sm,List.length_append,Pm.out];rfl);clear Sm;have wG:=wG.grown hg7 wG.size (fun q hq=>(rn.lt q hq).1);have Rw:=cJ.kept hg7 (.inr (fun e=>by have:=Ru.out gq e.symm;omega));obtain⟨VA2,vc2,rfl,_⟩:=vo.form;go_simp
  refine Ko hK ?_ fun zy=>?_
  ·exact trivial
  clear hK K
  refine To 11 rfl fun K hK=>?_
  refine yV (.tmp 53) (.tmp 56) rfl w.heap.size _ _ rfl vo (some ⟨gq,k,none⟩) (n-k) _ (l.drop k) rfl cI.out.2.symm (UH.out _ Rw).2 (by have:=MK.out;have:=cI.out;have:=HN.out;have:=HK.out.1;omega) wG.size fun v' w8 lm hg8 hat8=>?_
  obtain⟨S8,Q7⟩:∃ S8,S7++l.drop k=S8:=⟨_,rfl⟩
  rw[Q7]at lm;clear Q7;have wG:=wG.grown hg8 wG.size (fun q hq=>(vo.lt q hq).1);obtain⟨VA3,vc3,rfl,_⟩:=lm.form;go_simp
  refine Ko hK ?_ fun zy=>?_
  ·exact trivial
  clear hK K
  refine To 12 rfl fun K hK=>?_
  go_simp
  refine Kz hK ?_
  clear hK K
  refine Wd ?_
  go_wp2_with fail
  go_ret
  exact Some_.of HH.out rfl ⟨lm,wG⟩
 clear OH;have Q4:=nR.take_ (k:=k) (by have:=HN.out.1;have:=HK.out.1;omega);go_wp2_with fail
 go_ret
 exact Some_.of HH.out rfl ⟨Q4,wU⟩
def yM (n:Nat):Bool:=decide (n=0)||decide (n=32)
def zm (t v g:Int) (ni nx nd nk:Nat):Bool :=
 decide (ni≤16)&&decide (-65536≤g)&&decide (g≤65535) &&
 (if t=1 then(decide (v=4)||decide (v=6))&&yM nx&&yM nd&&decide (0<nx+nd)&&decide (nk=0)
  else if t=4 then decide (v=0)&&decide (nx+nd=0)&&decide (1≤nk)&&decide (nk≤64) else false)
abbrev un (t v g:Int) (Ai:Option Addr) (ni ci:Nat) (Ax:Option Addr) (nx cx:Nat) (Ad:Option Addr) (nd cd:Nat) (Ak:Option Addr) (nk ck:Nat):Array Value :=
 #[.int .i64 t,.int .i64 v,.int .i64 g,.slice Ai ni ci,.slice Ax nx cx,.slice Ad nd cd,.slice Ak nk ck]
theorem xX (A:Option Addr) (n c:Nat) (w:World) :
  Calls Tryz.prog 50 #[.slice A n c] w fun e w'=>e=.returned (.bool (yM n))∧w=w':=by
 by_cases h0:n=0
 ·subst h0;go_enter Tryz.func50,Tryz.ntmps50
  go_wp2_with fail
  go_ret
  exact⟨rfl,rfl⟩
 have z0:((n:Int)==0)=false:=by rw[beq_eq_false_iff_ne];omega
 have y0:((n:Int)=0)=False:=eq_false (by omega)
 have E:Hid (decide ((n:Int)=32)=yM n):=by
  rw[Hid,yM,decide_eq_false h0,Bool.false_or,Bool.eq_iff_iff,decide_eq_true_eq,decide_eq_true_eq];omega
 have E':Hid (((n:Int)==32)=yM n):=by
  rw[← E.out];rfl
 go_enter Tryz.func50,Tryz.ntmps50
 go_wp2_with fail
 go_ret
 exact⟨by first | (rw[← E.out];rfl) | (rw[← E'.out];rfl),rfl⟩
theorem rZ {a b:Nat}(ha:a≤9223372036854775807) (hb:b≤9223372036854775807) (h:¬ a+b=0):¬ wrap64 ((a:Int)+(b:Int))=0:=by
 unfold wrap64
 omega
theorem pK {a b:Nat}(ha:a≤9223372036854775807) (hb:b≤9223372036854775807) (h:¬ a+b=0):¬ IntKind.i64.wrap ((a:Int)+(b:Int))=0:=by
 rw[IntKind.wrap_i64]
 omega
section
variable (t v g:Int) (Ai:Option Addr) (ni ci:Nat) (Ax:Option Addr) (nx cx:Nat) (Ad:Option Addr) (nd cd:Nat) (Ak:Option Addr) (nk ck:Nat) (w:World)
theorem jN (h2:nx≤9223372036854775807) (h3:nd≤9223372036854775807) :
  Calls Tryz.prog 31 #[.agg (un t v g Ai ni ci Ax nx cx Ad nd cd Ak nk ck)] w fun e w'=>e=.returned (.bool (zm t v g ni nx nd nk))∧Below w.heap.size w w':=by
 have hB:=Blk.new w 24 (un t v g Ai ni ci Ax nx cx Ad nd cd Ak nk ck);have hb:=zi w (.cells (un t v g Ai ni ci Ax nx cx Ad nd cd Ak nk ck) 24);have c0:=hB.cell 0 rfl;have c1:=hB.cell 1 rfl;have c2:=hB.cell 2 rfl;have c3:=hB.cell 3 rfl;have c4:=hB.cell 4 rfl;have c5:=hB.cell 5 rfl;have c6:=hB.cell 6 rfl;have Z1:=Hh (And.intro h2 h3);clear h2 h3
 by_cases hi:ni≤16
 case neg =>
  have ri:¬ ((ni:Int)≤16):=by omega
  have si:decide ((ni:Int)≤16)=false:=decide_eq_false ri;have qi:16<(ni:Int):=by omega
  have bi:decide (16<(ni:Int))=true:=decide_eq_true qi;have E:Hid (zm _ _ _ _ _ _ _=false):=(show zm t v g ni nx nd nk=false by simp[zm,yM,hi])
  clear hi;go_enter Tryz.func31,Tryz.ntmps31
  go_wp2_with fail
  go_ret
  exact⟨by rw[E.out];rfl,by first | exact hb | exact hb.drew⟩
 have qi:¬ (16<(ni:Int)):=by omega
 have bi:decide (16<(ni:Int))=false:=decide_eq_false qi
 by_cases wM : -65536≤g
 case neg =>
  have qg1:g < -65536:=by omega
  have bg1:decide (g < -65536)=true:=decide_eq_true qg1;have E:Hid (zm _ _ _ _ _ _ _=false):=(show zm t v g ni nx nd nk=false by simp[zm,yM,hi,wM])
  clear hi wM;go_enter Tryz.func31,Tryz.ntmps31
  go_wp2_with fail
  go_ret
  exact⟨by rw[E.out];rfl,by first | exact hb | exact hb.drew⟩
 have qg1:¬ (g < -65536):=by omega
 have bg1:decide (g < -65536)=false:=decide_eq_false qg1
 by_cases wa:g≤65535
 case neg =>
  have rg2:¬ (g≤65535):=by omega
  have sg2:decide (g≤65535)=false:=decide_eq_false rg2;have qg2:65535<g:=by omega
  have bg2:decide (65535<g)=true:=decide_eq_true qg2;have E:Hid (zm _ _ _ _ _ _ _=false):=(show zm t v g ni nx nd nk=false by simp[zm,yM,hi,wM,wa])
  clear hi wM wa;go_enter Tryz.func31,Tryz.ntmps31
  go_wp2_with fail
  go_ret
  exact⟨by rw[E.out];rfl,by first | exact hb | exact hb.drew⟩
 have qg2:¬ (65535<g):=by omega
 have bg2:decide (65535<g)=false:=decide_eq_false qg2;go_enter Tryz.func31,Tryz.ntmps31
 go_upto_region 3 with fail
 go_cut [3,4] (fun s3 s4 wx=>s3=.int .i64 (nx:Int)∧s4=.int .i64 (nd:Int)∧Below w.heap.size w wx∧Blk wx w.heap.size 24 #[.int .i64 t,.int .i64 v,.int .i64 g,.slice Ai ni ci,.slice Ax nx cx,.slice Ad nd cd,.slice Ak nk ck])
 case first =>
  refine zr 7 (fun wx=>wx.cell? ⟨w.heap.size,4,none⟩=some (.slice Ax nx cx)∧wx.cell? ⟨w.heap.size,5,none⟩=some (.slice Ad nd cd)) (by kernel_rfl) (⟨c4,c5⟩) (fun zy=>?_)
  refine Tk 0 rfl zy ?_
  refine Tk 1 rfl zy ?_
  refine Tk 2 rfl zy ?_
  refine Tk 3 rfl zy ?_
  refine Tk 4 rfl zy ?_
  refine Tk 5 rfl zy ?_
  refine Tk 6 rfl zy ?_
  refine To 7 rfl fun K hK=>?_
  go_simp
  refine Kz hK ?_
  clear hK K
  refine Wd ?_
  go_wp2_with fail
  go_meet
  exact⟨rfl,rfl,hb.drew,hB.drew⟩
 case rest =>
 clear hb hB c0 c1 c2 c3 c4 c5 c6;obtain⟨rfl,rfl,hb,hB⟩:=hcut;have c0:=hB.cell 0 rfl;have c1:=hB.cell 1 rfl;have c6:=hB.cell 6 rfl
 by_cases ht:t=1
 case neg =>
  have qt:(t==1)=false:=by rw[beq_eq_false_iff_ne];omega
  have bt:(t=1)=False:=eq_false (by omega)
  by_cases fw:t=4
  case neg =>
   have qt4:(t==4)=false:=by rw[beq_eq_false_iff_ne];omega
   have bt4:(t=4)=False:=eq_false (by omega);have E:Hid (zm _ _ _ _ _ _ _=false):=(show zm t v g ni nx nd nk=false by simp[zm,yM,hi,wM,wa,ht,fw])
   clear hi wM wa ht fw;go_wp2_with fail
   go_ret
   exact⟨by rw[E.out];rfl,by first | exact hb | exact hb.drew⟩
  subst fw
  by_cases hw:v=0
  case neg =>
   have qw:(v==0)=false:=by rw[beq_eq_false_iff_ne];omega
   have bw:(v=0)=False:=eq_false (by omega);have E:Hid (zm _ _ _ _ _ _ _=false):=(show zm 4 v g ni nx nd nk=false by simp[zm,yM,hi,wM,wa,hw])
   clear hi wM wa hw;go_wp2_with fail
   go_ret
   exact⟨by rw[E.out];rfl,by first | exact hb | exact hb.drew⟩
  subst hw
  by_cases hs:nx+nd=0
  case neg =>
   have as0:(IntKind.i64.wrap ((nx:Int)+(nd:Int))==0)=false:=by rw[beq_eq_false_iff_ne];exact pK Z1.out.1 Z1.out.2 hs
   have as1:(IntKind.i64.wrap ((nx:Int)+(nd:Int))=0)=False:=eq_false (pK Z1.out.1 Z1.out.2 hs);have as2:(wrap64 ((nx:Int)+(nd:Int))==0)=false:=by rw[beq_eq_false_iff_ne];exact rZ Z1.out.1 Z1.out.2 hs
   have as3:(wrap64 ((nx:Int)+(nd:Int))=0)=False:=eq_false (rZ Z1.out.1 Z1.out.2 hs);have E:Hid (zm _ _ _ _ _ _ _=false):=(show zm 4 0 g ni nx nd nk=false by simp[zm,yM,hi,wM,wa,hs] <;> omega)
   clear hi wM wa hs;go_wp2_with fail
   go_ret
   exact⟨by rw[E.out];rfl,by first | exact hb | exact hb.drew⟩
  obtain⟨rfl,rfl⟩:nx=0∧nd=0:=by omega
  have K:IntKind.i64.wrap (((0:Nat):Int)+((0:Nat):Int))=((0:Nat):Int)+((0:Nat):Int):=IntWalk.i64_in _ (by omega)
  by_cases rL:1≤nk
  case neg =>
   have qk1:¬ (0:Int)<(nk:Int):=by omega
   have bk1:decide ((0:Int)<(nk:Int))=false:=decide_eq_false qk1;have ck1:¬ (1:Int)≤(nk:Int):=by omega
   have dk1:decide ((1:Int)≤(nk:Int))=false:=decide_eq_false ck1;have E:Hid (zm _ _ _ _ _ _ _=false):=(show zm 4 0 g ni 0 0 nk=false by simp[zm,yM,hi,wM,wa,rL])
   clear hi wM wa rL;go_wp2_with fail
   go_ret
   exact⟨by rw[E.out];rfl,by first | exact hb | exact hb.drew⟩
  have qk1:(0:Int)<(nk:Int):=by omega
  have bk1:decide ((0:Int)<(nk:Int))=true:=decide_eq_true qk1;have ck1:(1:Int)≤(nk:Int):=by omega
  have dk1:decide ((1:Int)≤(nk:Int))=true:=decide_eq_true ck1
  by_cases py:nk≤64
  case neg =>
   have rk2:¬ ((nk:Int)≤64):=by omega
   have sk2:decide ((nk:Int)≤64)=false:=decide_eq_false rk2;have qk2:64<(nk:Int):=by omega
   have bk2:decide (64<(nk:Int))=true:=decide_eq_true qk2;have E:Hid (zm _ _ _ _ _ _ _=false):=(show zm 4 0 g ni 0 0 nk=false by simp[zm,yM,hi,wM,wa,rL,py])
   clear hi wM wa rL py;go_wp2_with fail
   go_ret
   exact⟨by rw[E.out];rfl,by first | exact hb | exact hb.drew⟩
  have qk2:¬ (64<(nk:Int)):=by omega
  have bk2:decide (64<(nk:Int))=false:=decide_eq_false qk2;have E:Hid (zm _ _ _ _ _ _ _=true):=(show zm 4 0 g ni 0 0 nk=true by simp[zm,yM,hi,wM,wa,rL,py])
  clear hi wM wa rL py;go_wp2_with fail
  go_ret
  exact⟨by rw[E.out];rfl,by first | exact hb | exact hb.drew⟩
 subst ht
 by_cases hv:v=4
 case neg =>
  have qv:(v==4)=false:=by rw[beq_eq_false_iff_ne];omega
  have bv:(v=4)=False:=eq_false (by omega)
  by_cases Z7:v=6
  case neg =>
   have qv2:(v==6)=false:=by rw[beq_eq_false_iff_ne];omega
   have bv2:(v=6)=False:=eq_false (by omega);have E:Hid (zm _ _ _ _ _ _ _=false):=(show zm 1 v g ni nx nd nk=false by simp[zm,yM,hi,wM,wa,hv,Z7])
   clear hi wM wa hv Z7;go_wp2_with fail
   go_ret
   exact⟨by rw[E.out];rfl,by first | exact hb | exact hb.drew⟩
  subst Z7
  by_cases hx:nx=0
  case neg =>
   have qx:((nx:Int)==0)=false:=by rw[beq_eq_false_iff_ne];omega
   have bx:((nx:Int)=0)=False:=eq_false (by omega)
   by_cases Z8:nx=32
   case neg =>
    have qx2:((nx:Int)==32)=false:=by rw[beq_eq_false_iff_ne];omega
    have bx2:((nx:Int)=32)=False:=eq_false (by omega);have E:Hid (zm _ _ _ _ _ _ _=false):=(show zm 1 6 g ni nx nd nk=false by simp[zm,yM,hi,wM,wa,hx,Z8])
    clear hi wM wa hx Z8;go_wp2_with fail
    go_ret
    exact⟨by rw[E.out];rfl,by first | exact hb | exact hb.drew⟩
   subst Z8
   by_cases hd:nd=0
   case neg =>
    have qd:((nd:Int)==0)=false:=by rw[beq_eq_false_iff_ne];omega
    have bd:((nd:Int)=0)=False:=eq_false (by omega)
    by_cases wl:nd=32
    case neg =>
     have qd2:((nd:Int)==32)=false:=by rw[beq_eq_false_iff_ne];omega
     have bd2:((nd:Int)=32)=False:=eq_false (by omega);have E:Hid (zm _ _ _ _ _ _ _=false):=(show zm 1 6 g ni 32 nd nk=false by simp[zm,yM,hi,wM,wa,hd,wl])
     clear hi wM wa hd wl;go_wp2_with fail
     go_ret
     exact⟨by rw[E.out];rfl,by first | exact hb | exact hb.drew⟩
    subst wl;have K:IntKind.i64.wrap (((32:Nat):Int)+((32:Nat):Int))=((32:Nat):Int)+((32:Nat):Int):=IntWalk.i64_in _ (by omega)
    by_cases hk:nk=0
    case neg =>
     have qk:((nk:Int)==0)=false:=by rw[beq_eq_false_iff_ne];omega
     have bk:((nk:Int)=0)=False:=eq_false (by omega);have E:Hid (zm _ _ _ _ _ _ _=false):=(show zm 1 6 g ni 32 32 nk=false by simp[zm,yM,hi,wM,wa,hk])
     clear hi wM wa hk;go_wp2_with fail
     go_ret
     exact⟨by rw[E.out];rfl,by first | exact hb | exact hb.drew⟩
    subst hk;have E:Hid (zm _ _ _ _ _ _ _=true):=(show zm 1 6 g ni 32 32 0=true by simp[zm,yM,hi,wM,wa])
    clear hi wM wa;go_wp2_with fail
    go_ret
    exact⟨by rw[E.out];rfl,by first | exact hb | exact hb.drew⟩
   subst hd;have K:IntKind.i64.wrap (((32:Nat):Int)+((0:Nat):Int))=((32:Nat):Int)+((0:Nat):Int):=IntWalk.i64_in _ (by omega)
   by_cases hk:nk=0
   case neg =>
    have qk:((nk:Int)==0)=false:=by rw[beq_eq_false_iff_ne];omega
    have bk:((nk:Int)=0)=False:=eq_false (by omega);have E:Hid (zm _ _ _ _ _ _ _=false):=(show zm 1 6 g ni 32 0 nk=false by simp[zm,yM,hi,wM,wa,hk])
    clear hi wM wa hk;go_wp2_with fail
    go_ret
    exact⟨by rw[E.out];rfl,by first | exact hb | exact hb.drew⟩
   subst hk;have E:Hid (zm _ _ _ _ _ _ _=true):=(show zm 1 6 g ni 32 0 0=true by simp[zm,yM,hi,wM,wa])
   clear hi wM wa;go_wp2_with fail
   go_ret
   exact⟨by rw[E.out];rfl,by first | exact hb | exact hb.drew⟩
  subst hx
  by_cases hd:nd=0
  case neg =>
   have qd:((nd:Int)==0)=false:=by rw[beq_eq_false_iff_ne];omega
   have bd:((nd:Int)=0)=False:=eq_false (by omega)
   by_cases wl:nd=32
   case neg =>
    have qd2:((nd:Int)==32)=false:=by rw[beq_eq_false_iff_ne];omega
    have bd2:((nd:Int)=32)=False:=eq_false (by omega);have E:Hid (zm _ _ _ _ _ _ _=false):=(show zm 1 6 g ni 0 nd nk=false by simp[zm,yM,hi,wM,wa,hd,wl])
    clear hi wM wa hd wl;go_wp2_with fail
    go_ret
    exact⟨by rw[E.out];rfl,by first | exact hb | exact hb.drew⟩
   subst wl;have K:IntKind.i64.wrap (((0:Nat):Int)+((32:Nat):Int))=((0:Nat):Int)+((32:Nat):Int):=IntWalk.i64_in _ (by omega)
   by_cases hk:nk=0
   case neg =>
    have qk:((nk:Int)==0)=false:=by rw[beq_eq_false_iff_ne];omega
    have bk:((nk:Int)=0)=False:=eq_false (by omega);have E:Hid (zm _ _ _ _ _ _ _=false):=(show zm 1 6 g ni 0 32 nk=false by simp[zm,yM,hi,wM,wa,hk])
    clear hi wM wa hk;go_wp2_with fail
    go_ret
    exact⟨by rw[E.out];rfl,by first | exact hb | exact hb.drew⟩
   subst hk;have E:Hid (zm _ _ _ _ _ _ _=true):=(show zm 1 6 g ni 0 32 0=true by simp[zm,yM,hi,wM,wa])
   clear hi wM wa;go_wp2_with fail
   go_ret
   exact⟨by rw[E.out];rfl,by first | exact hb | exact hb.drew⟩
  subst hd;have K:IntKind.i64.wrap (((0:Nat):Int)+((0:Nat):Int))=((0:Nat):Int)+((0:Nat):Int):=IntWalk.i64_in _ (by omega);have E:Hid (zm _ _ _ _ _ _ _=false):=(show zm 1 6 g ni 0 0 nk=false by simp[zm,yM,hi,wM,wa])
  clear hi wM wa;go_wp2_with fail
  go_ret
  exact⟨by rw[E.out];rfl,by first | exact hb | exact hb.drew⟩
 subst hv
 by_cases hx:nx=0
 case neg =>
  have qx:((nx:Int)==0)=false:=by rw[beq_eq_false_iff_ne];omega
  have bx:((nx:Int)=0)=False:=eq_false (by omega)
  by_cases Z8:nx=32
  case neg =>
   have qx2:((nx:Int)==32)=false:=by rw[beq_eq_false_iff_ne];omega
   have bx2:((nx:Int)=32)=False:=eq_false (by omega);have E:Hid (zm _ _ _ _ _ _ _=false):=(show zm 1 4 g ni nx nd nk=false by simp[zm,yM,hi,wM,wa,hx,Z8])
   clear hi wM wa hx Z8;go_wp2_with fail
   go_ret
   exact⟨by rw[E.out];rfl,by first | exact hb | exact hb.drew⟩
  subst Z8
  by_cases hd:nd=0
  case neg =>
   have qd:((nd:Int)==0)=false:=by rw[beq_eq_false_iff_ne];omega
   have bd:((nd:Int)=0)=False:=eq_false (by omega)
   by_cases wl:nd=32
   case neg =>
    have qd2:((nd:Int)==32)=false:=by rw[beq_eq_false_iff_ne];omega
    have bd2:((nd:Int)=32)=False:=eq_false (by omega);have E:Hid (zm _ _ _ _ _ _ _=false):=(show zm 1 4 g ni 32 nd nk=false by simp[zm,yM,hi,wM,wa,hd,wl])
    clear hi wM wa hd wl;go_wp2_with fail
    go_ret
    exact⟨by rw[E.out];rfl,by first | exact hb | exact hb.drew⟩
   subst wl;have K:IntKind.i64.wrap (((32:Nat):Int)+((32:Nat):Int))=((32:Nat):Int)+((32:Nat):Int):=IntWalk.i64_in _ (by omega)
   by_cases hk:nk=0
   case neg =>
    have qk:((nk:Int)==0)=false:=by rw[beq_eq_false_iff_ne];omega
    have bk:((nk:Int)=0)=False:=eq_false (by omega);have E:Hid (zm _ _ _ _ _ _ _=false):=(show zm 1 4 g ni 32 32 nk=false by simp[zm,yM,hi,wM,wa,hk])
    clear hi wM wa hk;go_wp2_with fail
    go_ret
    exact⟨by rw[E.out];rfl,by first | exact hb | exact hb.drew⟩
   subst hk;have E:Hid (zm _ _ _ _ _ _ _=true):=(show zm 1 4 g ni 32 32 0=true by simp[zm,yM,hi,wM,wa])
   clear hi wM wa;go_wp2_with fail
   go_ret
   exact⟨by rw[E.out];rfl,by first | exact hb | exact hb.drew⟩
  subst hd;have K:IntKind.i64.wrap (((32:Nat):Int)+((0:Nat):Int))=((32:Nat):Int)+((0:Nat):Int):=IntWalk.i64_in _ (by omega)
  by_cases hk:nk=0
  case neg =>
   have qk:((nk:Int)==0)=false:=by rw[beq_eq_false_iff_ne];omega
   have bk:((nk:Int)=0)=False:=eq_false (by omega);have E:Hid (zm _ _ _ _ _ _ _=false):=(show zm 1 4 g ni 32 0 nk=false by simp[zm,yM,hi,wM,wa,hk])
   clear hi wM wa hk;go_wp2_with fail
   go_ret
   exact⟨by rw[E.out];rfl,by first | exact hb | exact hb.drew⟩
  subst hk;have E:Hid (zm _ _ _ _ _ _ _=true):=(show zm 1 4 g ni 32 0 0=true by simp[zm,yM,hi,wM,wa])
  clear hi wM wa;go_wp2_with fail
  go_ret
  exact⟨by rw[E.out];rfl,by first | exact hb | exact hb.drew⟩
 subst hx
 by_cases hd:nd=0
 case neg =>
  have qd:((nd:Int)==0)=false:=by rw[beq_eq_false_iff_ne];omega
  have bd:((nd:Int)=0)=False:=eq_false (by omega)
  by_cases wl:nd=32
  case neg =>
   have qd2:((nd:Int)==32)=false:=by rw[beq_eq_false_iff_ne];omega
   have bd2:((nd:Int)=32)=False:=eq_false (by omega);have E:Hid (zm _ _ _ _ _ _ _=false):=(show zm 1 4 g ni 0 nd nk=false by simp[zm,yM,hi,wM,wa,hd,wl])
   clear hi wM wa hd wl;go_wp2_with fail
   go_ret
   exact⟨by rw[E.out];rfl,by first | exact hb | exact hb.drew⟩
  subst wl;have K:IntKind.i64.wrap (((0:Nat):Int)+((32:Nat):Int))=((0:Nat):Int)+((32:Nat):Int):=IntWalk.i64_in _ (by omega)
  by_cases hk:nk=0
  case neg =>
   have qk:((nk:Int)==0)=false:=by rw[beq_eq_false_iff_ne];omega
   have bk:((nk:Int)=0)=False:=eq_false (by omega);have E:Hid (zm _ _ _ _ _ _ _=false):=(show zm 1 4 g ni 0 32 nk=false by simp[zm,yM,hi,wM,wa,hk])
   clear hi wM wa hk;go_wp2_with fail
   go_ret
   exact⟨by rw[E.out];rfl,by first | exact hb | exact hb.drew⟩
  subst hk;have E:Hid (zm _ _ _ _ _ _ _=true):=(show zm 1 4 g ni 0 32 0=true by simp[zm,yM,hi,wM,wa])
  clear hi wM wa;go_wp2_with fail
  go_ret
  exact⟨by rw[E.out];rfl,by first | exact hb | exact hb.drew⟩
 subst hd;have K:IntKind.i64.wrap (((0:Nat):Int)+((0:Nat):Int))=((0:Nat):Int)+((0:Nat):Int):=IntWalk.i64_in _ (by omega);have E:Hid (zm _ _ _ _ _ _ _=false):=(show zm 1 4 g ni 0 0 nk=false by simp[zm,yM,hi,wM,wa])
 clear hi wM wa;go_wp2_with fail
 go_ret
 exact⟨by rw[E.out];rfl,by first | exact hb | exact hb.drew⟩
end
theorem pI {n:Nat}(h:yM n=true):n≤32:=by
 simp[yM]at h
 omega
section
variable (t v g:Int) (Ai:Option Addr) (ni ci:Nat) (Ax:Option Addr) (nx cx:Nat) (Ad:Option Addr) (nd cd:Nat) (Ak:Option Addr) (nk ck:Nat) (w:World)
theorem RI (ht:t=1) (hr:ni≤16∧-65536≤g∧g≤65535):Calls Tryz.prog 29 #[.agg (un t v g Ai ni ci Ax nx cx Ad nd cd Ak nk ck)] w fun e w'=>e=.returned (.bool (zm t v g ni nx nd nk))∧Below w.heap.size w w':=by
 have hB:=Blk.new w 24 (un t v g Ai ni ci Ax nx cx Ad nd cd Ak nk ck);have hb:=zi w (.cells (un t v g Ai ni ci Ax nx cx Ad nd cd Ak nk ck) 24);have c0:=hB.cell 0 rfl;have c1:=hB.cell 1 rfl;have c2:=hB.cell 2 rfl;have c3:=hB.cell 3 rfl;have c4:=hB.cell 4 rfl;have c5:=hB.cell 5 rfl;have c6:=hB.cell 6 rfl;subst ht;have hi:=hr.1;have wM:=hr.2.1;have wa:=hr.2.2;have qi:¬ (16<(ni:Int)):=by omega
 have bi:decide (16<(ni:Int))=false:=decide_eq_false qi;have qg1:¬ (g < -65536):=by omega
 have bg1:decide (g < -65536)=false:=decide_eq_false qg1;have qg2:¬ (65535<g):=by omega
 have bg2:decide (65535<g)=false:=decide_eq_false qg2;have T1:=Hh hr;clear hr;have qv2:((4:Int)==6)=false:=rfl
 by_cases hv:v=4∨v=6
 case neg =>
  have Qu:¬ v=4:=fun h=>hv (.inl h)
  have QU:¬ v=6:=fun h=>hv (.inr h)
  have qv:(v==4)=false:=by rw[beq_eq_false_iff_ne];omega
  have bv:(v=4)=False:=eq_false Qu;have qw:(v==6)=false:=by rw[beq_eq_false_iff_ne];omega
  have bw:(v=6)=False:=eq_false QU;have E:Hid (zm _ _ _ _ _ _ _=false):=(show zm 1 v g ni nx nd nk=false by simp[zm,hi,wM,wa,Qu,QU])
  clear hi wM wa Qu QU;go_enter Tryz.func29,Tryz.ntmps29
  clear hv;go_wp2_with fail
  go_ret
  exact⟨by rw[E.out];rfl,hb⟩
 have HV:Hid ((decide (v=4)||decide (v=6))=true):=by rw[Hid,Bool.or_eq_true,decide_eq_true_eq,decide_eq_true_eq];exact hv
 by_cases Qu:v=4
 case pos =>
  subst Qu;clear hv HV
  cases sx:yM nx with
  | false =>
   have E:Hid (zm _ _ _ _ _ _ _=false):=(show zm 1 4 g ni nx nd nk=false by simp[zm,hi,wM,wa,sx])
   clear hi wM wa;go_enter Tryz.func29,Tryz.ntmps29
   go_wp2_with fail
   refine(xX _ _ _ _).mono ?_
   rintro e w3 ⟨rfl,rfl⟩
   rw[sx];go_wp2_with fail
   go_ret
   exact⟨by rw[E.out];rfl,hb⟩
  | true =>
  cases sd:yM nd with
  | false =>
   have E:Hid (zm _ _ _ _ _ _ _=false):=(show zm 1 4 g ni nx nd nk=false by simp[zm,hi,wM,wa,sx,sd])
   clear hi wM wa;go_enter Tryz.func29,Tryz.ntmps29
   go_wp2_with fail
   refine(xX _ _ _ _).mono ?_
   rintro e w3 ⟨rfl,rfl⟩
   rw[sx];go_wp2_with fail
   refine(xX _ _ _ _).mono ?_
   rintro e w4 ⟨rfl,rfl⟩
   rw[sd];go_wp2_with fail
   go_ret
   exact⟨by rw[E.out];rfl,hb⟩
  | true =>
  have VH:=pI sx;have Yv:=pI sd;have K:IntKind.i64.wrap ((nx:Int)+(nd:Int))=(nx:Int)+(nd:Int):=IntWalk.i64_in _ (by omega)
  by_cases hs:0<nx+nd
  case neg =>
   obtain⟨rfl,rfl⟩:nx=0∧nd=0:=by omega
   have E:Hid (zm _ _ _ _ _ _ _=false):=(show zm 1 4 g ni 0 0 nk=false by simp[zm,hi,wM,wa])
   clear hi wM wa;go_enter Tryz.func29,Tryz.ntmps29
   go_wp2_with fail
   refine(xX _ _ _ _).mono ?_
   rintro e w3 ⟨rfl,rfl⟩
   rw[sx];go_wp2_with fail
   refine(xX _ _ _ _).mono ?_
   rintro e w4 ⟨rfl,rfl⟩
   rw[sd];go_wp2_with fail
   go_ret
   exact⟨by rw[E.out];rfl,hb⟩
  have NJ:(0:Int)<(nx:Int)+(nd:Int):=by omega
  have J9:decide ((0:Int)<(nx:Int)+(nd:Int))=true:=decide_eq_true NJ;have JA:decide (0<nx+nd)=true:=decide_eq_true hs
  by_cases hk:nk=0
  case neg =>
   have qk:((nk:Int)==0)=false:=by rw[beq_eq_false_iff_ne];omega
   have bk:((nk:Int)=0)=False:=eq_false (by omega);have E:Hid (zm _ _ _ _ _ _ _=false):=(show zm 1 4 g ni nx nd nk=false by simp[zm,hi,wM,wa,hk])
   clear hi wM wa hk;go_enter Tryz.func29,Tryz.ntmps29
   clear VH Yv;go_wp2_with fail
   refine(xX _ _ _ _).mono ?_
   rintro e w3 ⟨rfl,rfl⟩
   rw[sx];go_wp2_with fail
   refine(xX _ _ _ _).mono ?_
   rintro e w4 ⟨rfl,rfl⟩
   rw[sd];go_wp2_with fail
   go_ret
   exact⟨by rw[E.out];rfl,hb⟩
  subst hk;have E:Hid (zm _ _ _ _ _ _ _=true):=(show zm 1 4 g ni nx nd 0=true by simp[zm,hi,wM,wa,sx,sd];exact hs)
  clear hi wM wa;go_enter Tryz.func29,Tryz.ntmps29
  clear VH Yv;go_wp2_with fail
  refine(xX _ _ _ _).mono ?_
  rintro e w3 ⟨rfl,rfl⟩
  rw[sx];go_wp2_with fail
  refine(xX _ _ _ _).mono ?_
  rintro e w4 ⟨rfl,rfl⟩
  rw[sd];go_wp2_with fail
  go_ret
  exact⟨by rw[E.out];rfl,hb⟩
 have QU:v=6:=by omega
 subst QU;clear hv HV Qu;have q64:((6:Int)==4)=false:=rfl
 cases sx:yM nx with
 | false =>
  have E:Hid (zm _ _ _ _ _ _ _=false):=(show zm 1 6 g ni nx nd nk=false by simp[zm,hi,wM,wa,sx])
  clear hi wM wa;go_enter Tryz.func29,Tryz.ntmps29
  go_wp2_with fail
  refine(xX _ _ _ _).mono ?_
  rintro e w3 ⟨rfl,rfl⟩
  rw[sx];go_wp2_with fail
  go_ret
  exact⟨by rw[E.out];rfl,hb⟩
 | true =>
 cases sd:yM nd with
 | false =>
  have E:Hid (zm _ _ _ _ _ _ _=false):=(show zm 1 6 g ni nx nd nk=false by simp[zm,hi,wM,wa,sx,sd])
  clear hi wM wa;go_enter Tryz.func29,Tryz.ntmps29
  go_wp2_with fail
  refine(xX _ _ _ _).mono ?_
  rintro e w3 ⟨rfl,rfl⟩
  rw[sx];go_wp2_with fail
  refine(xX _ _ _ _).mono ?_
  rintro e w4 ⟨rfl,rfl⟩
  rw[sd];go_wp2_with fail
  go_ret
  exact⟨by rw[E.out];rfl,hb⟩
 | true =>
 have VH:=pI sx;have Yv:=pI sd;have K:IntKind.i64.wrap ((nx:Int)+(nd:Int))=(nx:Int)+(nd:Int):=IntWalk.i64_in _ (by omega)
 by_cases hs:0<nx+nd
 case neg =>
  obtain⟨rfl,rfl⟩:nx=0∧nd=0:=by omega
  have E:Hid (zm _ _ _ _ _ _ _=false):=(show zm 1 6 g ni 0 0 nk=false by simp[zm,hi,wM,wa])
  clear hi wM wa;go_enter Tryz.func29,Tryz.ntmps29
  go_wp2_with fail
  refine(xX _ _ _ _).mono ?_
  rintro e w3 ⟨rfl,rfl⟩
  rw[sx];go_wp2_with fail
  refine(xX _ _ _ _).mono ?_
  rintro e w4 ⟨rfl,rfl⟩
  rw[sd];go_wp2_with fail
  go_ret
  exact⟨by rw[E.out];rfl,hb⟩
 have NJ:(0:Int)<(nx:Int)+(nd:Int):=by omega
 have J9:decide ((0:Int)<(nx:Int)+(nd:Int))=true:=decide_eq_true NJ;have JA:decide (0<nx+nd)=true:=decide_eq_true hs
 by_cases hk:nk=0
 case neg =>
  have qk:((nk:Int)==0)=false:=by rw[beq_eq_false_iff_ne];omega
  have bk:((nk:Int)=0)=False:=eq_false (by omega);have E:Hid (zm _ _ _ _ _ _ _=false):=(show zm 1 6 g ni nx nd nk=false by simp[zm,hi,wM,wa,hk])
  clear hi wM wa hk;go_enter Tryz.func29,Tryz.ntmps29
  clear VH Yv;go_wp2_with fail
  refine(xX _ _ _ _).mono ?_
  rintro e w3 ⟨rfl,rfl⟩
  rw[sx];go_wp2_with fail
  refine(xX _ _ _ _).mono ?_
  rintro e w4 ⟨rfl,rfl⟩
  rw[sd];go_wp2_with fail
  go_ret
  exact⟨by rw[E.out];rfl,hb⟩
 subst hk;have E:Hid (zm _ _ _ _ _ _ _=true):=(show zm 1 6 g ni nx nd 0=true by simp[zm,hi,wM,wa,sx,sd];exact hs)
 clear hi wM wa;go_enter Tryz.func29,Tryz.ntmps29
 clear VH Yv;go_wp2_with fail
 refine(xX _ _ _ _).mono ?_
 rintro e w3 ⟨rfl,rfl⟩
 rw[sx];go_wp2_with fail
 refine(xX _ _ _ _).mono ?_
 rintro e w4 ⟨rfl,rfl⟩
 rw[sd];go_wp2_with fail
 go_ret
 exact⟨by rw[E.out];rfl,hb⟩
theorem RJ (ht:t=4) (h2:nx≤9223372036854775807) (h3:nd≤9223372036854775807) (hr:ni≤16∧-65536≤g∧g≤65535):Calls Tryz.prog 29 #[.agg (un t v g Ai ni ci Ax nx cx Ad nd cd Ak nk ck)] w fun e w'=>e=.returned (.bool (zm t v g ni nx nd nk))∧Below w.heap.size w w':=by
 have hB:=Blk.new w 24 (un t v g Ai ni ci Ax nx cx Ad nd cd Ak nk ck);have hb:=zi w (.cells (un t v g Ai ni ci Ax nx cx Ad nd cd Ak nk ck) 24);have c0:=hB.cell 0 rfl;have c1:=hB.cell 1 rfl;have c2:=hB.cell 2 rfl;have c3:=hB.cell 3 rfl;have c4:=hB.cell 4 rfl;have c5:=hB.cell 5 rfl;have c6:=hB.cell 6 rfl;subst ht;have Z1:=Hh (And.intro h2 h3);clear h2 h3;have hi:=hr.1;have wM:=hr.2.1;have wa:=hr.2.2;have qi:¬ (16<(ni:Int)):=by omega
 have bi:decide (16<(ni:Int))=false:=decide_eq_false qi;have qg1:¬ (g < -65536):=by omega
 have bg1:decide (g < -65536)=false:=decide_eq_false qg1;have qg2:¬ (65535<g):=by omega
 have bg2:decide (65535<g)=false:=decide_eq_false qg2;have T1:=Hh hr;clear hr;have q41:((4:Int)==1)=false:=rfl
 by_cases hv:v=0
 case neg =>
  have qv:(v==0)=false:=by rw[beq_eq_false_iff_ne];omega
  have bv:(v=0)=False:=eq_false hv;have E:Hid (zm _ _ _ _ _ _ _=false):=(show zm 4 v g ni nx nd nk=false by simp[zm,hi,wM,wa,hv])
  clear hi wM wa hv;go_enter Tryz.func29,Tryz.ntmps29
  go_wp2_with fail
  go_ret
  exact⟨by rw[E.out];rfl,hb⟩
 subst hv
 by_cases hs:nx+nd=0
 case neg =>
  have as0:(IntKind.i64.wrap ((nx:Int)+(nd:Int))==0)=false:=by rw[beq_eq_false_iff_ne];exact pK Z1.out.1 Z1.out.2 hs
  have as1:(IntKind.i64.wrap ((nx:Int)+(nd:Int))=0)=False:=eq_false (pK Z1.out.1 Z1.out.2 hs);have as2:(wrap64 ((nx:Int)+(nd:Int))==0)=false:=by rw[beq_eq_false_iff_ne];exact rZ Z1.out.1 Z1.out.2 hs
  have as3:(wrap64 ((nx:Int)+(nd:Int))=0)=False:=eq_false (rZ Z1.out.1 Z1.out.2 hs);have E:Hid (zm _ _ _ _ _ _ _=false):=(show zm 4 0 g ni nx nd nk=false by simp[zm,hi,wM,wa,hs] <;> omega)
  clear hi wM wa hs;go_enter Tryz.func29,Tryz.ntmps29
  go_wp2_with fail
  go_ret
  exact⟨by rw[E.out];rfl,hb⟩
 obtain⟨rfl,rfl⟩:nx=0∧nd=0:=by omega
 have K:IntKind.i64.wrap (((0:Nat):Int)+((0:Nat):Int))=((0:Nat):Int)+((0:Nat):Int):=IntWalk.i64_in _ (by omega)
 by_cases rL:1≤nk
 case neg =>
  have qk1:¬ (0:Int)<(nk:Int):=by omega
  have bk1:decide ((0:Int)<(nk:Int))=false:=decide_eq_false qk1;have ck1:¬ (1:Int)≤(nk:Int):=by omega
  have dk1:decide ((1:Int)≤(nk:Int))=false:=decide_eq_false ck1;have E:Hid (zm _ _ _ _ _ _ _=false):=(show zm 4 0 g ni 0 0 nk=false by simp[zm,hi,wM,wa,rL])
  clear hi wM wa rL;go_enter Tryz.func29,Tryz.ntmps29
  go_wp2_with fail
  go_ret
  exact⟨by rw[E.out];rfl,hb⟩
 have qk1:(0:Int)<(nk:Int):=by omega
 have bk1:decide ((0:Int)<(nk:Int))=true:=decide_eq_true qk1;have ck1:(1:Int)≤(nk:Int):=by omega
 have dk1:decide ((1:Int)≤(nk:Int))=true:=decide_eq_true ck1
 by_cases py:nk≤64
 case neg =>
  have rk2:¬ ((nk:Int)≤64):=by omega
  have sk2:decide ((nk:Int)≤64)=false:=decide_eq_false rk2;have E:Hid (zm _ _ _ _ _ _ _=false):=(show zm 4 0 g ni 0 0 nk=false by simp[zm,hi,wM,wa,rL,py])
  clear hi wM wa rL py;go_enter Tryz.func29,Tryz.ntmps29
  go_wp2_with fail
  go_ret
  exact⟨by rw[E.out];rfl,hb⟩
 have rk2:(nk:Int)≤64:=by omega
 have sk2:decide ((nk:Int)≤64)=true:=decide_eq_true rk2;have E:Hid (zm _ _ _ _ _ _ _=true):=(show zm 4 0 g ni 0 0 nk=true by simp[zm,hi,wM,wa,rL,py])
 clear hi wM wa rL py;go_enter Tryz.func29,Tryz.ntmps29
 go_wp2_with fail
 go_ret
 exact⟨by rw[E.out];rfl,hb⟩
theorem WK (ht:ni≤16∧-65536≤g∧g≤65535→¬ t=1∧¬ t=4):Calls Tryz.prog 29 #[.agg (un t v g Ai ni ci Ax nx cx Ad nd cd Ak nk ck)] w fun e w'=>e=.returned (.bool (zm t v g ni nx nd nk))∧Below w.heap.size w w':=by
 have hB:=Blk.new w 24 (un t v g Ai ni ci Ax nx cx Ad nd cd Ak nk ck);have hb:=zi w (.cells (un t v g Ai ni ci Ax nx cx Ad nd cd Ak nk ck) 24);have c0:=hB.cell 0 rfl;have c1:=hB.cell 1 rfl;have c2:=hB.cell 2 rfl;have c3:=hB.cell 3 rfl;have c4:=hB.cell 4 rfl;have c5:=hB.cell 5 rfl;have c6:=hB.cell 6 rfl
 by_cases hi:ni≤16
 case neg =>
  have ri:¬ ((ni:Int)≤16):=by omega
  have si:decide ((ni:Int)≤16)=false:=decide_eq_false ri;have qi:16<(ni:Int):=by omega
  have bi:decide (16<(ni:Int))=true:=decide_eq_true qi;clear ht;have E:Hid (zm _ _ _ _ _ _ _=false):=(show zm t v g ni nx nd nk=false by simp[zm,hi])
  clear hi;go_enter Tryz.func29,Tryz.ntmps29
  go_wp2_with fail
  go_ret
  exact⟨by rw[E.out];rfl,hb⟩
 have qi:¬ (16<(ni:Int)):=by omega
 have bi:decide (16<(ni:Int))=false:=decide_eq_false qi
 by_cases wM : -65536≤g
 case neg =>
  have qg1:g < -65536:=by omega
  have bg1:decide (g < -65536)=true:=decide_eq_true qg1;clear ht;have E:Hid (zm _ _ _ _ _ _ _=false):=(show zm t v g ni nx nd nk=false by simp[zm,hi,wM])
  clear hi wM;go_enter Tryz.func29,Tryz.ntmps29
  go_wp2_with fail
  go_ret
  exact⟨by rw[E.out];rfl,hb⟩
 have qg1:¬ (g < -65536):=by omega
 have bg1:decide (g < -65536)=false:=decide_eq_false qg1
 by_cases wa:g≤65535
 case neg =>
  have qg2:65535<g:=by omega
  have bg2:decide (65535<g)=true:=decide_eq_true qg2;clear ht;have E:Hid (zm _ _ _ _ _ _ _=false):=(show zm t v g ni nx nd nk=false by simp[zm,hi,wM,wa])
  clear hi wM wa;go_enter Tryz.func29,Tryz.ntmps29
  go_wp2_with fail
  go_ret
  exact⟨by rw[E.out];rfl,hb⟩
 have qg2:¬ (65535<g):=by omega
 have bg2:decide (65535<g)=false:=decide_eq_false qg2;obtain⟨kN,fw⟩:=ht ⟨hi,wM,wa⟩;clear ht;have q1:(t==1)=false:=by rw[beq_eq_false_iff_ne];omega
 have b1:(t=1)=False:=eq_false kN;have q4:(t==4)=false:=by rw[beq_eq_false_iff_ne];omega
 have b4:(t=4)=False:=eq_false fw;have E:Hid (zm _ _ _ _ _ _ _=false):=(show zm t v g ni nx nd nk=false by simp[zm,hi,wM,wa,kN,fw])
 clear hi wM wa kN fw;go_enter Tryz.func29,Tryz.ntmps29
 go_wp2_with fail
 go_ret
 exact⟨by rw[E.out];rfl,hb⟩
theorem jB (h2:nx≤9223372036854775807) (h3:nd≤9223372036854775807) :
  Calls Tryz.prog 29 #[.agg (un t v g Ai ni ci Ax nx cx Ad nd cd Ak nk ck)] w fun e w'=>e=.returned (.bool (zm t v g ni nx nd nk))∧Below w.heap.size w w':=by
 by_cases hr:ni≤16∧-65536≤g∧g≤65535
 ·by_cases h1:t=1
  ·exact RI t v g Ai ni ci Ax nx cx Ad nd cd Ak nk ck w h1 hr
  by_cases h4:t=4
  ·exact RJ t v g Ai ni ci Ax nx cx Ad nd cd Ak nk ck w h4 h2 h3 hr
  exact WK t v g Ai ni ci Ax nx cx Ad nd cd Ak nk ck w (fun _=>⟨h1,h4⟩)
 exact WK t v g Ai ni ci Ax nx cx Ad nd cd Ak nk ck w (fun h=>absurd h hr)
end
end Go.Proofs.YtgcjjhibdbafmabGreatDoor
