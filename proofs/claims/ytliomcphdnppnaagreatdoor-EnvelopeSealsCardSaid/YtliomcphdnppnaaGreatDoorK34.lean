/- squeezed. Walks: bytes, with something chang -/
import Derived.Test.YtliomcphdnppnaaGreatDoorK33
set_option linter.unusedVariables false
set_option linter.unusedSimpArgs false
set_option maxRecDepth 100000
set_option maxHeartbeats 6400000
namespace Go.Proofs.YtliomcphdnppnaaGreatDoor
open Go.RowKit
theorem iD (v:Int):∃ x:UInt8,Value.int .u8 (IntKind.u8.wrap v)=zv x:=by
 refine⟨UInt8.ofNat (v%256).toNat, ?_⟩
 have h:(v%256).toNat<256:=by omega
 rw[IntKind.wrap_u8,zv,UInt8.toNat_ofNat_of_lt' (by simpa using h)];congr 1
 omega
theorem Xs {W:World}{base:Nat}{v:Value}{l:List UInt8}(_h:OwnB W base v l) (cs:Array Value) (t:TypeId):Src (W.alloc (.cells cs t)) (some ⟨W.heap.size,0,none⟩) cs.toList:=Src.lit _ _ _
def Some_ (w:World) (H:Snap) (e:Ending) (w':World):Prop:=∃ B d l',e=.returned (.slice B l'.length d)∧∃ H',Grows w H w' H'∧IsBytes H' B d l'
theorem Some_.of {w w':World}{H:Snap}{e:Ending}{B:Option Addr}{n d:Nat}{l':List UInt8}(hH:Holds w H) (he:e=.returned (.slice B n d)) (hf:Fresh w l' (.slice B n d) w'):Some_ w H e w':=by
 obtain⟨H',hG,hb,hn⟩:=Fresh.snapB hH hf
 exact⟨B,d,l',by rw[← hn];exact he,H',hG,hb⟩
theorem ZU {H:Snap}(w:World) (hH:Holds w H) {A:Option Addr}{n c:Nat}{l:List UInt8}(hn:n=l.length) (hl:IsBytes H A c l) (pB:l.length≤1099511627) (at_ by_:Int) :
  Calls Tryz.prog 14 #[.slice A n c,.int .i64 at_,.int .i64 by_] w (Some_ w H):=by
 obtain⟨x,hx⟩:=iD by_;have HX:=Hh hx;have HN:=Hh (And.intro hn pB);have HS:=Hh (Src.of_row hl.row hH);have HH:=Hh hH;clear hx hl hH;obtain⟨bw,nb⟩:∃ bw,IntKind.u8.wrap by_=bw:=⟨_,rfl⟩
 rw[nb]at HX;have MD:=Hh (fun(v:Int) (w:World)=>gT v 4 (by omega) (by omega) w);go_enter Tryz.func14,Tryz.ntmps14
 go_wp2_with (at_builtin;refine zO ?_)
 refine zn rfl (.const (.slice none 0 0)) (.tmp 9) rfl w.heap.size (.slice none 0 0) [] rfl (OwnB.nil _ _) A n c l rfl HN.out.1 HS.out (by have:=HN.out.2;simp;omega) (Nat.le_refl _) fun v' w1 wK fd hat1=>?_
 rw[List.nil_append]at wK;have zH:=yo (by simpa [Value.ownBlock] using fd);obtain⟨RA,rc,rfl,dW,If,dz⟩:=wK.form;rw[← hn]at wK dW⊢;have On:=Hh (And.intro dW If);clear fd hat1 dW If dz hn pB
 by_cases h0:n=0
 ·subst h0;go_wp2_with fail
  go_ret
  exact Some_.of HH.out rfl (by
   have hf:=Fresh.lit w1 [x] #[.int .u8 bw] 1 rfl (by simp) (by simp[← HX.out])
   exact hf.step zH)
 have e0:((n:Int)==0)=false:=by simp;omega
 have e0':((n:Int)=0)=False:=eq_false (by omega);have M1:=gT at_ (n:Int) (by omega) (by have:=HN.out.1;have:=HN.out.2;omega) w1;have mb:=o3 at_ (n:Int) (by omega);obtain⟨kk,ji⟩:∃ kk,mK at_ (n:Int)=kk:=⟨_,rfl⟩
 rw[ji]at M1 mb;obtain⟨k,rfl⟩:=Int.eq_ofNat_of_zero_le mb.1;have uN:k<n:=by omega
 have gz:(k:Int)<(n:Int):=by omega
 have iq:(0:Int)≤(k:Int):=by omega
 have nZ:(n:Int)≤(rc:Int):=by have h:=On.out.1;omega
 have DW:(k:Int)≤(rc:Int):=by omega
 have ON:(n:Int)≤1099511627:=by have:=HN.out.1;have:=HN.out.2;omega
 have M1h:=Hh M1;have HK:=Hh (And.intro uN h0);clear M1 mb ji h0 uN;go_wp2_with fail
 refine M1h.out.mono ?_
 rintro e w2 ⟨rfl,rfl⟩
 go_wp2_with fail
 refine(MD.out _ _).mono ?_
 rintro e w3 ⟨rfl,rfl⟩
 clear M1h;have mb4:=fun v=>o3 v 4 (by omega)
 generalize hs:mK _ 4=s
 have Ss:0≤s∧s<4:=by rw[← hs];exact mb4 _
 clear hs mb4 MD
 rcases(by omega:s=0∨s=1∨s=2∨s=3) with rfl | rfl | rfl | rfl
 ·obtain⟨gq,cur,rfl,QJ,WI,mN,jO⟩:=wK.store_ (k:=k) (by have:=HN.out.1;have:=HK.out.1;omega);clear Ss;go_wp2_with (with_reducible refine zx ?_)
  refine zT rfl _ _ _ rfl rfl gq k (.int .u8 bw) rfl rfl _ _ WI XN mN rfl fun w4 aI og=>?_
  have pH:=jO w4 x (by rw[← HX.out];exact aI);have sK:=sP zH og (by rintro q ⟨⟩;exact QJ);go_wp2_with fail
  go_ret
  exact Some_.of HH.out rfl ⟨pH,sK⟩
 ·clear Ss;have KP:IntKind.i64.wrap ((k:Int)+1)=(k:Int)+1:=IntWalk.i64_in _ (by omega);have kt:((k:Int)+1).toNat=k+1:=by omega
  have y1:(k:Int)+1≤(n:Int):=by omega
  have y2:(k:Int)+1≤(rc:Int):=by omega
  have y0:(0:Int)≤(k:Int)+1:=by omega
  have PK:=wK.take_ (k:=k) (by have:=HN.out.1;have:=HK.out.1;omega)
  have qG:=Hh (show(l.take k).length=k∧(l.drop (k+1)).length=n-(k+1) by
   rw[List.length_take,List.length_drop];have:=HN.out.1;have:=HK.out.1;omega)
  have Up:OwnB w1.drew w.heap.size (.slice RA k rc) (l.take k):=PK;have Zz:Below w.heap.size w w1.drew:=zH.drew
  by_cases hck:rc=k+1
  ·have PO:Src w1.drew RA ((l.drop (k+1)).map zv):=by
    rw[List.drop_of_length_le (by have:=HN.out.1;have:=On.out.1;omega)];exact Src.nil _ _
   have RR:=Hh PO;have Dt:(rc=k+1)=True:=eq_true hck;clear hck;clear PO PK;go_upto_region 10 with fail
   refine zw 8 (fun _=>True) (by kernel_rfl) (trivial) (fun zy=>?_)
   refine TkT 0 rfl ?_
   refine TkT 1 rfl ?_
   refine TkT 2 rfl ?_
   refine TkT 3 rfl ?_
   refine TkT 4 rfl ?_
   refine TkT 5 rfl ?_
   refine TkT 6 rfl ?_
   refine To 7 rfl fun K hK=>?_
   refine yG (.tmp 38) (.tmp 42) rfl w.heap.size _ _ rfl Up RA (n-(k+1)) _ (l.drop (k+1)) rfl qG.out.2.symm RR.out (by have:=qG.out;have:=HN.out;have:=HK.out.1;omega) Zz.size fun v' w5 xS yF ve=>?_
   obtain⟨S5,aO⟩:∃ S5,l.take k++l.drop (k+1)=S5:=⟨_,rfl⟩
   rw[aO]at xS;clear aO;have yN:=Zz.grown yF Zz.size (fun q hq=>(Up.lt q hq).1);obtain⟨VA,vc,rfl,_⟩:=xS.form;go_simp
   refine Ko hK ?_ fun zy=>?_
   ·exact trivial
   clear hK K
   refine To 8 rfl fun K hK=>?_
   go_simp
   refine Kz hK ?_
   clear hK K
   refine Wd ?_
   go_wp2_with fail
   go_ret
   exact Some_.of HH.out rfl ⟨xS,yN⟩
  have Ds:(rc=k+1)=False:=eq_false hck
  have PO:Src w1.drew (Option.map (fun x=>x.add (k+1)) RA) ((l.drop (k+1)).map zv):=by
   obtain⟨gq,cur,rfl,QJ,WI,mN,jO⟩:=wK.store_ (k:=k) (by have:=HN.out.1;have:=HK.out.1;omega)
   have h:=gQ (w:=w1) (b:=gq) (off:=0) (n:=n-(k+1)) (l:=l) (fun j hj=>by
    obtain⟨gb,go,e1,e2⟩:=wK.src (by intro h0;rw[List.map_eq_nil_iff]at h0;subst h0;simp at hj);injection e1 with e1;injection e1 with e1 e1';subst e1;subst e1'
    exact e2 j _ (by simp[hj])) (k+1) (some ⟨gq,0+(k+1),none⟩) (fun _=>rfl) (by have:=HN.out.1;have:=HK.out.1;omega)
   rw[List.take_of_length_le (by have:=qG.out.2;omega)]at h;rw[Option.map_some,pj]
   exact h
  have RR:=Hh PO;clear hck;clear PO PK;go_upto_region 10 with fail
  refine zw 8 (fun _=>True) (by kernel_rfl) (trivial) (fun zy=>?_)
  refine TkT 0 rfl ?_
  refine TkT 1 rfl ?_
  refine TkT 2 rfl ?_
  refine TkT 3 rfl ?_
  refine TkT 4 rfl ?_
  refine TkT 5 rfl ?_
  refine TkT 6 rfl ?_
  refine To 7 rfl fun K hK=>?_
  refine yG (.tmp 38) (.tmp 42) rfl w.heap.size _ _ rfl Up (Option.map (fun x=>x.add (k+1)) RA) (n-(k+1)) _ (l.drop (k+1)) rfl qG.out.2.symm RR.out (by have:=qG.out;have:=HN.out;have:=HK.out.1;omega) Zz.size fun v' w5 xS yF ve=>?_
  obtain⟨S5,aO⟩:∃ S5,l.take k++l.drop (k+1)=S5:=⟨_,rfl⟩
  rw[aO]at xS;clear aO;have yN:=Zz.grown yF Zz.size (fun q hq=>(Up.lt q hq).1);obtain⟨VA,vc,rfl,_⟩:=xS.form;go_simp
  refine Ko hK ?_ fun zy=>?_
  ·exact trivial
  clear hK K
  refine To 8 rfl fun K hK=>?_
  go_simp
  refine Kz hK ?_
  clear hK K
  refine Wd ?_
  go_wp2_with fail
  go_ret
  exact Some_.of HH.out rfl ⟨xS,yN⟩
 ·clear Ss;have de:=Hh (show(l.take k).length=k∧(l.drop k).length=n-k by rw[List.length_take,List.length_drop];have:=HN.out.1;have:=HK.out.1;omega);obtain⟨gq,cur,rfl,QJ,WI,mN,jO⟩:=wK.store_ (k:=k) (by have:=HN.out.1;have:=HK.out.1;omega)
  have Um:Hid (∀ W,OwnB W w.heap.size (.slice (some ⟨gq,0,none⟩) n rc) l→Src W (some ⟨gq,0,none⟩) ((l.take k).map zv)∧Src W (some ⟨gq,k,none⟩) ((l.drop k).map zv)):=by
   intro W hW
   have hc:∀ j (hj:j<l.length),W.cell? ⟨gq,0+j,none⟩=some (zv l[j]):=fun j hj=>by
    obtain⟨gb,go,e1,e2⟩:=hW.src (by intro h0;rw[List.map_eq_nil_iff]at h0;subst h0;simp at hj);injection e1 with e1;injection e1 with e1 e1';subst e1;subst e1'
    exact e2 j _ (by simp[hj])
   have h1:=gQ (w:=W) (b:=gq) (off:=0) (n:=k) (l:=l) hc 0 (some ⟨gq,0,none⟩) (fun _=>rfl) (by have:=HN.out.1;have:=HK.out.1;omega);have h2:=gQ (w:=W) (b:=gq) (off:=0) (n:=n-k) (l:=l) hc k (some ⟨gq,k,none⟩) (fun _=>by rw[Nat.zero_add]) (by have:=HN.out.1;have:=HK.out.1;omega);rw[List.drop_zero]at h1;rw[List.take_of_length_le (by have:=de.out.2;omega)]at h2
   exact⟨h1,h2⟩
  have E7:k≤n:=by have:=HK.out.1;omega
  have EH:(rc=k)=False:=eq_false (by have:=On.out.1;have:=HK.out.1;omega);have dj:OwnB w1.drew w.heap.size (.slice (some ⟨gq,0,none⟩) n rc) l:=wK;have yw:Below w.heap.size w w1.drew:=zH.drew;clear jO WI mN wK zH;go_upto_region 12 with fail
  refine zw 12 (fun _=>True) (by kernel_rfl) (trivial) (fun zy=>?_)
  refine TkT 0 rfl ?_
  refine TkT 1 rfl ?_
  refine TkT 2 rfl ?_
  refine TkT 4 rfl ?_
  refine TkT 5 rfl ?_
  refine TkT 8 rfl ?_
  refine TkT 9 rfl ?_
  refine TkT 10 rfl ?_
  refine Ways.two (i:=3) (j:=6) rfl rfl (by kernel_rfl) (fun K hK=>?_) (fun K hK=>?_)
  ·refine yG (.const (.slice none 0 0)) (.tmp 48) rfl _ (.slice none 0 0) [] rfl (OwnB.nil _ _) (some ⟨gq,0,none⟩) k rc (l.take k) rfl de.out.1.symm (Um.out _ dj).1 (by have:=de.out.1;have:=HN.out;have:=HK.out.1;simp only[List.length_nil];omega) (Nat.le_refl _) fun v' w5 xS yF ve=>?_
   rw[List.nil_append]at xS;obtain⟨S5,aO⟩:∃ S5,l.take k=S5:=⟨_,rfl⟩
   rw[aO]at xS;have Oq:=Hh (show S5.length=k by rw[← aO];exact de.out.1);clear aO;have yN:=yo (by simpa [Value.ownBlock] using yF);have LI:=(dj.lt gq rfl).2;have RN:=Hh (show ∀ q,v'.ownBlock=some q→gq<q from fun q hq=>by have h1:=(xS.lt q hq).1;have h2:=LI;(try simp only[zj,zu]at h1 h2);omega);have xS:=xS.more yw.size;have yw:=yw.trans (yN.mono yw.size);have dj:=dj.below yN;(try have Vj:=Vj.below yN)
   obtain⟨VA,vc,rfl,_⟩:=xS.form;clear yF ve yN;go_simp
   refine Ko hK ?_ fun zy=>?_
   ·exact trivial
   clear hK K
   refine To 6 rfl fun K hK=>?_
   go_simp
   have Vj:=Xs dj #[.int .u8 bw] 5;rw[show(#[Value.int .u8 bw]:Array Value).toList=[x].map zv by simp[← HX.out]]at Vj;have dj:=dj.alloc (.cells #[.int .u8 bw] 5);(try have xS:=xS.alloc (.cells #[.int .u8 bw] 5))
   have yw:=yw.alloc yw.size (.cells #[.int .u8 bw] 5)
   refine Ko hK ?_ fun zy=>?_
   ·exact trivial
   clear hK K
   refine To 7 rfl fun K hK=>?_
   refine yG (.tmp 49) (.tmp 52) rfl w.heap.size _ _ rfl xS _ 1 _ [x] rfl rfl Vj (by have:=Oq.out;have:=HN.out;have:=HK.out.1;simp only[List.length_singleton];omega) yw.size fun v' w7 wj xj hat7=>?_
   obtain⟨S7,YY⟩:∃ S7,S5++[x]=S7:=⟨_,rfl⟩
   rw[YY]at wj;have KO:=Hh (show S7.length=k+1 by rw[← YY,List.length_append,Oq.out];rfl);clear YY;have yw:=yw.grown xj yw.size (fun q hq=>(xS.lt q hq).1);have RO:=dj.kept xj (.inr (fun e=>by have:=RN.out gq e.symm;omega));obtain⟨VA2,vc2,rfl,_⟩:=wj.form;go_simp
   refine Ko hK ?_ fun zy=>?_
   ·exact trivial
   clear hK K
   refine To 11 rfl fun K hK=>?_
   refine yG (.tmp 53) (.tmp 56) rfl w.heap.size _ _ rfl wj (some ⟨gq,k,none⟩) (n-k) _ (l.drop k) rfl de.out.2.symm (Um.out _ RO).2 (by have:=KO.out;have:=de.out;have:=HN.out;have:=HK.out.1;omega) yw.size fun v' w8 na hg8 hat8=>?_
   obtain⟨S8,aP⟩:∃ S8,S7++l.drop k=S8:=⟨_,rfl⟩
   rw[aP]at na;clear aP;have yw:=yw.grown hg8 yw.size (fun q hq=>(wj.lt q hq).1);obtain⟨VA3,vc3,rfl,_⟩:=na.form;go_simp
   refine Ko hK ?_ fun zy=>?_
   ·exact trivial
   clear hK K
   refine To 12 rfl fun K hK=>?_
   go_simp
   refine Kz hK ?_
   clear hK K
   refine Wd ?_
   go_wp2_with fail
   go_ret
   exact Some_.of HH.out rfl ⟨na,yw⟩
  go_simp
  have Vj:=Xs dj #[.int .u8 bw] 5;rw[show(#[Value.int .u8 bw]:Array Value).toList=[x].map zv by simp[← HX.out]]at Vj;have dj:=dj.alloc (.cells #[.int .u8 bw] 5);(try have xS:=xS.alloc (.cells #[.int .u8 bw] 5))
  have yw:=yw.alloc yw.size (.cells #[.int .u8 bw] 5)
  refine Ko hK ?_ fun zy=>?_
  ·exact trivial
  clear hK K
  refine To 3 rfl fun K hK=>?_
  refine yG (.const (.slice none 0 0)) (.tmp 48) rfl _ (.slice none 0 0) [] rfl (OwnB.nil _ _) (some ⟨gq,0,none⟩) k rc (l.take k) rfl de.out.1.symm (Um.out _ dj).1 (by have:=de.out.1;have:=HN.out;have:=HK.out.1;simp only[List.length_nil];omega) (Nat.le_refl _) fun v' w5 xS yF ve=>?_
  rw[List.nil_append]at xS;obtain⟨S5,aO⟩:∃ S5,l.take k=S5:=⟨_,rfl⟩
  rw[aO]at xS;have Oq:=Hh (show S5.length=k by rw[← aO];exact de.out.1);clear aO;have yN:=yo (by simpa [Value.ownBlock] using yF);have LI:=(dj.lt gq rfl).2;have RN:=Hh (show ∀ q,v'.ownBlock=some q→gq<q from fun q hq=>by have h1:=(xS.lt q hq).1;have h2:=LI;(try simp only[zj,zu]at h1 h2);omega);have xS:=xS.more yw.size;have yw:=yw.trans (yN.mono yw.size);have dj:=dj.below yN;(try have Vj:=Vj.below yN)
  obtain⟨VA,vc,rfl,_⟩:=xS.form;clear yF ve yN;go_simp
  refine Ko hK ?_ fun zy=>?_
  ·exact trivial
  clear hK K
  refine To 7 rfl fun K hK=>?_
  refine yG (.tmp 49) (.tmp 52) rfl w.heap.size _ _ rfl xS _ 1 _ [x] rfl rfl Vj (by have:=Oq.out;have:=HN.out;have:=HK.out.1;simp only[List.length_singleton];omega) yw.size fun v' w7 wj xj hat7=>?_
  obtain⟨S7,YY⟩:∃ S7,S5++[x]=S7:=⟨_,rfl⟩
  rw[YY]at wj;have KO:=Hh (show S7.length=k+1 by rw[← YY,List.length_append,Oq.out];rfl);clear YY;have yw:=yw.grown xj yw.size (fun q hq=>(xS.lt q hq).1);have RO:=dj.kept xj (.inr (fun e=>by have:=RN.out gq e.symm;omega));obtain⟨VA2,vc2,rfl,_⟩:=wj.form;go_simp
  refine Ko hK ?_ fun zy=>?_
  ·exact trivial
  clear hK K
  refine To 11 rfl fun K hK=>?_
  refine yG (.tmp 53) (.tmp 56) rfl w.heap.size _ _ rfl wj (some ⟨gq,k,none⟩) (n-k) _ (l.drop k) rfl de.out.2.symm (Um.out _ RO).2 (by have:=KO.out;have:=de.out;have:=HN.out;have:=HK.out.1;omega) yw.size fun v' w8 na hg8 hat8=>?_
  obtain⟨S8,aP⟩:∃ S8,S7++l.drop k=S8:=⟨_,rfl⟩
  rw[aP]at na;clear aP;have yw:=yw.grown hg8 yw.size (fun q hq=>(wj.lt q hq).1);obtain⟨VA3,vc3,rfl,_⟩:=na.form;go_simp
  refine Ko hK ?_ fun zy=>?_
  ·exact trivial
  clear hK K
  refine To 12 rfl fun K hK=>?_
  go_simp
  refine Kz hK ?_
  clear hK K
  refine Wd ?_
  go_wp2_with fail
  go_ret
  exact Some_.of HH.out rfl ⟨na,yw⟩
 clear Ss;have PK:=wK.take_ (k:=k) (by have:=HN.out.1;have:=HK.out.1;omega);go_wp2_with fail
 go_ret
 exact Some_.of HH.out rfl ⟨PK,zH⟩
theorem Wf (v:Int):∃ x:UInt8,Value.int .u8 (v%256)=zv x:=by
 obtain⟨x,hx⟩:=iD v
 exact⟨x,by rw[← hx,IntKind.wrap_u8]⟩
theorem gM (q:Int) {n:Nat}(hn:n≤128) (w:World) :
  Calls Tryz.prog 9 #[.int .i64 q,.int .i64 (n:Int)] w fun e w'=>∃ A c l,e=.returned (.slice A n c)∧l.length=n∧Fresh w l (.slice A n c) w':=by
 have zH:=Below.refl w.heap.size w;go_enter Tryz.func9,Tryz.ntmps9
 go_wp2_with fail
 go_loopw [5,8] (fun v3 v5 wr=>∃ (k:Nat) (VA:Option Addr) (vc vn:Nat) (l:List UInt8),k≤n∧v5=.int .i64 (k:Int)∧v3=.slice VA vn vc∧vn=k∧l.length=k∧OwnB wr w.heap.size (.slice VA vn vc) l∧Below w.heap.size w wr) (fun _ v5 _=>n-(intOf v5).toNat)
 case atStart=>exact⟨0,none,0,0,[],by omega,rfl,rfl,rfl,rfl,OwnB.nil _ _,zH⟩
 case round =>
 clear zH;obtain⟨k,VA,vc,vn,l,hk,rfl,rfl,fk,Tc,wG,yS⟩:=hrel;have HK:=Hh hk;have HV:=Hh (And.intro fk Tc);clear hk fk Tc
 by_cases zB:k<n
 ·have gz:(k:Int)<(n:Int):=by omega
  have Ft:decide ((k:Int)<(n:Int))=true:=decide_eq_true gz;have uN:decide (k<n)=true:=decide_eq_true zB;have rI:=Hh zB;go_wp2_with (at_builtin;refine zO ?_)
  unfold yy
  generalize IntKind.u64.wrap q/2 ^ (8*(k%8))+(k:Int)/8=v0
  obtain⟨x,hx⟩:∃ x:UInt8,Value.int .u8 (v0%256)=zv x:=Wf _;have HC:Hid ((#[.int .u8 (v0%256)]:Array Value).toList=[x].map zv):=by simp[Hid,← hx]
  have wK:=wG.alloc (.cells #[.int .u8 (v0%256)] 5);have zG:=yS.alloc yS.size (.cells #[.int .u8 (v0%256)] 5)
  refine zn rfl (.tmp 11) (.tmp 24) rfl w.heap.size (.slice VA vn vc) l rfl wK _ 1 _ [x] rfl rfl (Src.new _ _ _ _ rfl _ HC.out) (by have:=HV.out;have:=HK.out;simp;omega) zG.size fun v' w7 wj xj hat7=>?_
  have vh:=zG.grown xj zG.size (fun q hq=>(wK.lt q hq).1);obtain⟨VA',vc',rfl,N4⟩:=wj.form;clear N4 xj hat7 hx wK zG wG yS;obtain⟨m,hm⟩:∃ m,l++[x]=m:=⟨_,rfl⟩
  have HM:Hid (m.length=k+1):=by have:=HV.out;rw[Hid,← hm,List.length_append];simp;omega
  rw[hm]at wj⊢;clear hm;go_wp2_with fail
  go_roundw
  case rel=>exact⟨k+1,VA',vc',_,m,by have:=rI.out;omega,by go_num,rfl,HM.out,HM.out,wj,vh⟩
  case measure=>have:=rI.out;simp[intOf];omega
 have gz:¬ ((k:Int)<(n:Int)):=by omega
 have Ft:decide ((k:Int)<(n:Int))=false:=decide_eq_false gz;have uN:decide (k<n)=false:=decide_eq_false zB;obtain rfl:vn=n:=by have:=HV.out;have:=HK.out;omega
 have HL:Hid (l.length=vn):=by have:=HV.out;rw[Hid];omega
 clear zB;go_wp2_with fail
 go_ret
 exact⟨VA,vc,rfl,l,HL.out,wG,yS⟩
def Zw (i:Nat):List UInt8:=i.rec ((List.replicate 256 0).set 0 99) fun i l=>l.set (vf i).toNat (vf ((255-i)%255) ^^^ xC (vf ((255-i)%255)) 1 ^^^ xC (vf ((255-i)%255)) 2 ^^^ xC (vf ((255-i)%255)) 3 ^^^ xC (vf ((255-i)%255)) 4 ^^^ 99)
theorem gH:Zw 255=tJ:=by decide +kernel
def dN (a:List UInt8) (i k:Nat):UInt8:=sB (at_ a (4*(i/4)+k)) ([2,3,1,1].getD ((k+4-i%4)%4) 0)
theorem UH (a:List UInt8) {i:Nat}(h:i<16):0 ^^^ dN a i 0 ^^^ dN a i 1 ^^^ dN a i 2 ^^^ dN a i 3=0 ^^^ lY a i 0 ^^^ lY a i 1 ^^^ lY a i 2 ^^^ lY a i 3:=by
 have hr:i%4=0∨i%4=1∨i%4=2∨i%4=3:=by omega
 rcases hr with e | e | e | e <;> simp only[dN,lY,e] <;> simp only[Nat.reduceAdd,Nat.reduceMod,Nat.reduceSub,List.getD_cons_succ,List.getD_cons_zero,UInt8.zero_xor] <;> ac_rfl
theorem Zu (x b:List UInt8) (n:Nat):xG x (b++List.replicate n 0)=xG x b:=by
 apply List.map_congr_left
 intro i hi
 congr 1
 simp only[at_,List.getD_eq_getElem?_getD]
 by_cases h:i<b.length
 ·rw[List.getElem?_append_left h]
 rw[List.getElem?_append_right (by omega),List.getElem?_eq_none (by omega:b.length≤i)]
 by_cases h2:i-b.length<n
 ·rw[List.getElem?_replicate_of_lt h2];rfl
 rw[List.getElem?_eq_none (by simp;omega)]
def pF (b:List UInt8):List UInt8:=b++List.replicate ((16-b.length%16)%16) 0
theorem rW (b:List UInt8):(pF b).length=16*((b.length+15)/16):=by simp[pF];omega
theorem nF (key b x:List UInt8) (n j:Nat):vP key (b++List.replicate n 0) x j=vP key b x j:=by
 induction j with
 | zero=>rfl
 | succ j ih =>
 rw[vP,vP,ih];congr 1
 rw[List.drop_append,List.take_append];obtain⟨m,hm⟩:∃ m,List.take (16-(List.drop (16*j) b).length) (List.drop (16*j-b.length) (List.replicate n (0:UInt8)))=List.replicate m 0:=⟨_,by rw[List.drop_replicate,List.take_replicate]⟩
 rw[hm,Zu]
theorem nE (key a b x:List UInt8) {n:Nat}(h:a.length=16*n) (j:Nat):vP key (a++b) x (n+j)=vP key b (vP key a x n) j:=by
 induction j with
 | zero =>
  have:∀ i,i≤n→vP key (a++b) x i=vP key a x i:=by
   intro i
   induction i with
   | zero=>intro _;rfl
   | succ i ih =>
   intro hi
   rw[vP,vP,ih (by omega),List.drop_append_of_le_length (by omega),List.take_append_of_le_length (by rw[List.length_drop];omega)]
  exact this n (Nat.le_refl _)
 | succ j ih =>
 rw[show n+(j+1)=(n+j)+1 by omega,vP,vP,ih,show 16*(n+j)=16*n+16*j by omega,← h,← List.drop_drop,List.drop_left]
def pV (nonce aad plain:List UInt8) (t:Nat):List UInt8:=vC (vl nonce aad t) nonce plain.length++(if aad.length=0 then [] else pF (rF aad))++pF plain
theorem Jy (key nonce aad plain:List UInt8) (hn:nonce.length≤13) (t:Nat) :
  vP key (pV nonce aad plain t) (List.replicate 16 0) ((pV nonce aad plain t).length/16)=qF key nonce aad plain t:=by
 have hc:=tU (vl nonce aad t) hn plain.length
 have h1:vP key (vC (vl nonce aad t) nonce plain.length) (List.replicate 16 0) 1=nR key (List.replicate 16 0) (vC (vl nonce aad t) nonce plain.length):=by
  rw[nR,hc]
 rw[qF]
 by_cases h:aad.length=0
 ·rw[if_pos h,pV,if_pos h,List.append_nil];rw[List.length_append,hc,rW,show(16+16*((plain.length+15)/16))/16=1+(plain.length+15)/16 by omega,nE _ _ _ _ (n:=1) (by omega),h1,pF,nF];rfl
 rw[if_neg h,pV,if_neg h];rw[List.length_append,List.length_append,hc,rW,rW,show(16+16*(((rF aad).length+15)/16)+16*((plain.length+15)/16))/16=1+(((rF aad).length+15)/16)+(plain.length+15)/16 by omega];rw[nE _ _ _ _ (by rw[List.length_append,hc,rW];omega),nE _ _ _ _ (n:=1) (by omega),h1,pF,pF,nF,nF];rfl
theorem NN {key nonce aad cipher:List UInt8}{t:Nat}(ht:t≤16) (hc:t≤cipher.length) :
  (rf key nonce aad (tW key nonce cipher t) t==cipher)=rv key nonce aad cipher t:=by
 have e0:rj key nonce (tW key nonce cipher t)=cipher.take (cipher.length-t):=by rw[tW,cm]
 have lt:=oB key nonce aad (tW key nonce cipher t) t;have ld:(cipher.drop (cipher.length-t)).length=t:=by rw[List.length_drop];omega
 rw[Bool.eq_iff_iff,beq_iff_eq,rv,beq_iff_eq,rf,e0];constructor
 ·intro h
  have h2:(uv key nonce (qF key nonce aad (tW key nonce cipher t) t)).take t=cipher.drop (cipher.length-t):=by
   have h3:=congrArg (List.drop (cipher.length-t)) h;rwa [List.drop_left' (by rw[List.length_take];omega)]at h3
  rw[← h2,Wz _ _ _ lt ht]
 intro h
 have h2:(uv key nonce (qF key nonce aad (tW key nonce cipher t) t)).take t=cipher.drop (cipher.length-t):=by
  apply List.ext_getElem (by rw[ld,List.length_take,uv,yf];omega)
  intro k h4 h5
  have hk:k<t:=by omega
  have h6:((uv key nonce (cipher.drop (cipher.length-t))).take t)[k]? = ((qF key nonce aad (tW key nonce cipher t) t).take t)[k]? :=by rw[h]
  rw[List.getElem?_take_of_lt hk,List.getElem?_take_of_lt hk,List.getElem?_eq_getElem (by rw[uv,yf];omega),List.getElem?_eq_getElem (by omega),Option.some.injEq,← om,← om,uv,xG,nN _ (by omega)]at h6;rw[List.getElem_take,← om (by rw[uv,yf];omega),uv,xG,nN _ (by omega),← h6,nM,om h5]
 rw[h2,List.take_append_drop]
def mL:Nat→UInt8→Nat→UInt8→UInt8
 | 0,_,_,p=>p
 | n+1,a,b,p=>mL n (tY a) (b/2) (if b%2=1 then p ^^^ a else p)
theorem pP:∀ (n:Nat) (a p:UInt8),mL n a 0 p=p
 | 0,_,_=>rfl
 | n+1,a,p=>by rw[mL,Nat.zero_div,if_neg (by omega),pP n]
theorem UJ (a:UInt8) {m:Nat}(hm:m=1∨m=2∨m=3):mL 8 a m 0=sB a m:=by
 rcases hm with rfl | rfl | rfl
 ·rw[mL,if_pos (by decide),pP,UInt8.zero_xor,sB,if_pos rfl]
 ·rw[mL,if_neg (by decide),mL,if_pos (by decide),pP,UInt8.zero_xor,sB,if_neg (by decide),if_pos rfl]
 rw[mL,if_pos (by decide),mL,if_pos (by decide),pP,UInt8.zero_xor,sB,if_neg (by decide),if_neg (by decide)]
theorem Zm {b:Nat}(h:b≤3):bits .and .u8 (b:Int) 1=((b%2:Nat):Int)∧((b:Int)/2)=((b/2:Nat):Int):=by
 rcases(by omega:b=0∨b=1∨b=2∨b=3) with rfl | rfl | rfl | rfl <;> exact⟨by kernel_rfl,by omega⟩
theorem gP (a:UInt8) (m:Nat) (hm:m=1∨m=2∨m=3) (w:World) :
  Calls Tryz.prog 189 #[zv a,.int .u8 (m:Int)] w fun e w'=>e=.returned (zv (sB a m))∧w=w':=by
 have HE:=Hh (UJ a hm);have HM:=Hh hm;clear hm;go_enter Tryz.func189,Tryz.ntmps189
 go_wp2_with fail
 go_loopw [0,1,5,7] (fun v0 v1 v5 v7 wx=>∃ (i b:Nat) (x p:UInt8),v0=zv x∧v1=.int .u8 (b:Int)∧v5=zv p∧v7=.int .i64 (i:Int)∧i≤8∧b≤3∧Hid (mL (8-i) x b p=sB a m)∧wx=w) (fun _ _ _ v7 _=>(8-intOf v7).toNat)
 case atStart=>exact⟨0,m,a,0,rfl,rfl,rfl,rfl,by omega,by have:=HM.out;omega,HE,rfl⟩
 case round =>
 obtain⟨i,b,x,p,rfl,rfl,rfl,rfl,hi,hb,hS,rfl⟩:=hrel
 by_cases zB:(i:Int)<8
 ·obtain⟨s1,s2⟩:=Zm hb;obtain⟨d1,d2,d3,d4,_⟩:=nC x;have X:=yn p x;obtain⟨o,ho⟩:∃ o,b%2=o:=⟨_,rfl⟩
  obtain⟨b2,zG⟩:∃ o,b/2=o:=⟨_,rfl⟩
  rw[ho]at s1;rw[zG]at s2;obtain⟨y,hy⟩:∃ y,x <<< 1=y:=⟨_,rfl⟩
  rw[hy]at d2 d3;obtain⟨q,hq⟩:∃ q,p ^^^ x=q:=⟨_,rfl⟩
  rw[hq]at X;obtain⟨z,hz⟩:∃ z,y ^^^ 27=z:=⟨_,rfl⟩
  rw[hz]at d3;obtain⟨t,ht⟩:∃ t,x.toNat/128=t:=⟨_,rfl⟩
  have t1:(x.toNat:Int)/128=(t:Int):=by rw[← ht];rfl
  rw[ht]at d4;have Ii:t=0∨t=1:=by have:=x.toNat_lt;omega
  have G2:o=0∨o=1:=by omega
  have HY:Hid (tY x=if t=1 then z else y):=by
   rw[Hid,tY,hy,hz]
   by_cases h0:x &&& 128=0
   ·rw[if_pos h0,if_neg (fun h=>d4.1 h h0)]
   rw[if_neg h0,if_pos (d4.2 h0)]
  have Ly:Hid (mL (8-(i+1)) (tY x) b2 (if o=1 then q else p)=sB a m):=by
   have h:=hS.out;rw[show 8-i=(8-(i+1))+1 by omega,mL,ho,zG,hq]at h
   exact h
  have xn:b2≤3:=by omega
  clear d1 d4 ht hy hq hz ho zG hS hb;have X1:(bits .xor .u8 (p.toNat:Int) (x.toNat:Int))=(q.toNat:Int):=X;clear X
  rcases G2 with rfl | rfl
  ·rcases Ii with rfl | rfl
   ·go_wp2_with fail
    go_roundw
    case rel=>exact⟨i+1,b2,y,p,rfl,rfl,rfl,by go_num,by omega,xn,by have h1:=Ly.out;have h2:=HY.out;rw[h2]at h1;exact h1,by trivial⟩
    case measure=>simp[intOf];omega
   go_wp2_with fail
   go_roundw
   case rel=>exact⟨i+1,b2,z,p,rfl,rfl,rfl,by go_num,by omega,xn,by have h1:=Ly.out;have h2:=HY.out;rw[h2]at h1;exact h1,by trivial⟩
   case measure=>simp[intOf];omega
  rcases Ii with rfl | rfl
  ·go_wp2_with fail
   go_roundw
   case rel=>exact⟨i+1,b2,y,q,rfl,rfl,rfl,by go_num,by omega,xn,by have h1:=Ly.out;have h2:=HY.out;rw[h2]at h1;exact h1,by trivial⟩
   case measure=>simp[intOf];omega
  go_wp2_with fail
  go_roundw
  case rel=>exact⟨i+1,b2,z,q,rfl,rfl,rfl,by go_num,by omega,xn,by have h1:=Ly.out;have h2:=HY.out;rw[h2]at h1;exact h1,by trivial⟩
  case measure=>simp[intOf];omega
 obtain rfl:i=8:=by omega
 have HR:Hid (p=sB a m):=by have h:=hS.out;exact h
 clear hS;go_wp2_with fail
 go_ret
 exact⟨by first | rfl | (rw[HR.out];rfl),rfl⟩
theorem UV (b:UInt8) (k:Nat) (hk:k=1∨k=2∨k=3∨k=4) (w:World) :
  Calls Tryz.prog 190 #[zv b,.int .i64 (k:Int)] w fun e w'=>e=.returned (zv (xC b k))∧w=w':=by
 have R:=iX b (show k<5 by omega);have E:Hid (zv (xC b k)=.int .u8 (bits .or .u8 (IntKind.u8.wrap ((b.toNat:Int)*2 ^ k)) ((b.toNat:Int)/2 ^ (8-k)))):=by rw[Hid,R]
 clear R
 rcases hk with rfl | rfl | rfl | rfl
 all_goals
  go_enter Tryz.func190,Tryz.ntmps190
  go_wp2_with fail
  go_ret
  exact⟨by rw[E.out];rfl,rfl⟩
end Go.Proofs.YtliomcphdnppnaaGreatDoor
