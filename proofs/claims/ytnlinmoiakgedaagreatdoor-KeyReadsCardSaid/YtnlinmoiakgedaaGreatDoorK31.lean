/- squeezed. Walks: bytes, with something chang -/
import Derived.Test.YtnlinmoiakgedaaGreatDoorK30
set_option linter.unusedVariables false
set_option linter.unusedSimpArgs false
set_option maxRecDepth 100000
set_option maxHeartbeats 6400000
namespace Go.Proofs.YtnlinmoiakgedaaGreatDoor
open Go.RowKit
theorem ij (v:Int):∃ x:UInt8,Value.int .u8 (IntKind.u8.wrap v)=zD x:=by
 refine⟨UInt8.ofNat (v%256).toNat, ?_⟩
 have h:(v%256).toNat<256:=by omega
 rw[IntKind.wrap_u8,zD,UInt8.toNat_ofNat_of_lt' (by simpa using h)];congr 1
 omega
theorem Yg {W:World}{base:Nat}{v:Value}{l:List UInt8}(_h:OwnB W base v l) (cs:Array Value) (t:TypeId):Src (W.alloc (.cells cs t)) (some ⟨W.heap.size,0,none⟩) cs.toList:=Src.lit _ _ _
theorem OwnB.take_ {w:World}{base:Nat}{A:Option Addr}{n c:Nat}{l:List UInt8}(h:OwnB w base (.slice A n c) l) {k:Nat}(hk:k≤l.length):OwnB w base (.slice A k c) (l.take k):=by
 have so:(l.take k).length=k:=by rw[List.length_take];omega
 refine⟨by simp, ?_⟩
 rw[so]
 rcases h.2 with ⟨hv,hz⟩ | ⟨g,cap,cur,hv,hb,hg,hc,hm,hcz,ht⟩
 ·cases hv
  have:k=0:=by omega
  subst this
  exact .inl ⟨rfl,rfl⟩
 ·cases hv
  refine .inr ⟨g,c,cur,rfl,hb,hg,by omega,hm,hcz, ?_⟩
  rw[List.map_take,← ht,List.take_take,show min k (l.length*1)=k*1 by omega]
theorem OwnB.store_ {w:World}{base:Nat}{A:Option Addr}{n c:Nat}{l:List UInt8}(h:OwnB w base (.slice A n c) l) {k:Nat}(hk:k<l.length):∃ g cur,A=some ⟨g,0,none⟩∧base≤g∧Blk w g 5 cur∧k<cur.size∧
  ∀ (w':World) (x:UInt8),Blk w' g 5 (cur.setIfInBounds k (zD x))→OwnB w' base (.slice A n c) (l.set k x):=by
 rcases h.2 with ⟨hv,hz⟩ | ⟨g,cap,cur,hv,hb,hg,hc,hm,hcz,ht⟩
 ·omega
 ·cases hv
  refine⟨g,cur,rfl,hb,hg,by omega,fun w' x hB=>⟨by simp,.inr ⟨g,c,_,by simp,hb,hB,by simpa using hc,hm,by rw[Array.size_setIfInBounds,hcz], ?_⟩⟩⟩
  rw[Array.toList_setIfInBounds,List.length_set,List.take_set,ht,List.map_set]
theorem YK:(Tryz.prog.info? 5).map (·.size)=some 1:=by kernel_rfl
def Some_ (w:World) (H:Snap) (e:Ending) (w':World):Prop:=∃ B d l',e=.returned (.slice B l'.length d)∧∃ H',Grows w H w' H'∧IsBytes H' B d l'
theorem Some_.of {w w':World}{H:Snap}{e:Ending}{B:Option Addr}{n d:Nat}{l':List UInt8}(hH:Holds w H) (he:e=.returned (.slice B n d)) (hf:Fresh w l' (.slice B n d) w'):Some_ w H e w':=by
 obtain⟨H',hG,hb,hn⟩:=Fresh.snapB hH hf
 exact⟨B,d,l',by rw[← hn];exact he,H',hG,hb⟩
theorem aO {H:Snap}(w:World) (hH:Holds w H) {A:Option Addr}{n c:Nat}{l:List UInt8}(hn:n=l.length) (hl:IsBytes H A c l) (lp:l.length≤1099511627) (at_ by_:Int) :
  Calls Tryz.prog 19 #[.slice A n c,.int .i64 at_,.int .i64 by_] w (Some_ w H):=by
 obtain⟨x,hx⟩:=ij by_;have HX:=Hh hx;have HN:=Hh (And.intro hn lp);have HS:=Hh (Src.of_row hl.row hH);have HH:=Hh hH;clear hx hl hH;obtain⟨bw,lO⟩:∃ bw,IntKind.u8.wrap by_=bw:=⟨_,rfl⟩
 rw[lO]at HX;have MD:=Hh (fun(v:Int) (w:World)=>oQ v 4 (by omega) (by omega) w);go_enter Tryz.func19,Tryz.ntmps19
 go_wp2_with (at_builtin;refine ye ?_)
 refine zO rfl (.const (.slice none 0 0)) (.tmp 9) rfl w.heap.size (.slice none 0 0) [] rfl (OwnB.nil _ _) A n c l rfl HN.out.1 HS.out (by have:=HN.out.2;simp;omega) (Nat.le_refl _) fun v' w1 pW wS hat1=>?_
 rw[List.nil_append]at pW;have vg:=yo (by simpa [Value.ownBlock] using wS);obtain⟨RA,rc,rfl,bG,Ny,M3⟩:=pW.form;rw[← hn]at pW bG⊢;have Ox:=Hh (And.intro bG Ny);clear wS hat1 bG Ny M3 hn lp
 by_cases h0:n=0
 ·subst h0;go_wp2_with fail
  go_ret
  exact Some_.of HH.out rfl (by
   have hf:=Fresh.lit w1 [x] #[.int .u8 bw] 1 rfl (by simp) (by simp[← HX.out])
   exact hf.step vg)
 have e0:((n:Int)==0)=false:=by simp;omega
 have e0':((n:Int)=0)=False:=eq_false (by omega);have M1:=oQ at_ (n:Int) (by omega) (by have:=HN.out.1;have:=HN.out.2;omega) w1;have mb:=rN at_ (n:Int) (by omega);obtain⟨kk,eW⟩:∃ kk,oa at_ (n:Int)=kk:=⟨_,rfl⟩
 rw[eW]at M1 mb;obtain⟨k,rfl⟩:=Int.eq_ofNat_of_zero_le mb.1;have Zd:k<n:=by omega
 have eL:(k:Int)<(n:Int):=by omega
 have qN:(0:Int)≤(k:Int):=by omega
 have tn:(n:Int)≤(rc:Int):=by have h:=Ox.out.1;omega
 have Jx:(k:Int)≤(rc:Int):=by omega
 have Kf:(n:Int)≤1099511627:=by have:=HN.out.1;have:=HN.out.2;omega
 have M1h:=Hh M1;have HK:=Hh (And.intro Zd h0);clear M1 mb eW h0 Zd;go_wp2_with fail
 refine M1h.out.mono ?_
 rintro e w2 ⟨rfl,rfl⟩
 go_wp2_with fail
 refine(MD.out _ _).mono ?_
 rintro e w3 ⟨rfl,rfl⟩
 clear M1h;have mb4:=fun v=>rN v 4 (by omega)
 generalize hs:oa _ 4=s
 have Xc:0≤s∧s<4:=by rw[← hs];exact mb4 _
 clear hs mb4 MD
 rcases(by omega:s=0∨s=1∨s=2∨s=3) with rfl | rfl | rfl | rfl
 ·obtain⟨gq,cur,rfl,Pm,QR,T3,Wp⟩:=pW.store_ (k:=k) (by have:=HN.out.1;have:=HK.out.1;omega);clear Xc;go_wp2_with (with_reducible refine zx ?_)
  refine zu rfl _ _ _ rfl rfl gq k (.int .u8 bw) rfl rfl _ _ QR YK T3 rfl fun w4 pV hg4=>?_
  have eT:=Wp w4 x (by rw[← HX.out];exact pV);have iU:=yP vg hg4 (by rintro q ⟨⟩;exact Pm);go_wp2_with fail
  go_ret
  exact Some_.of HH.out rfl ⟨eT,iU⟩
 ·clear Xc;have KP:IntKind.i64.wrap ((k:Int)+1)=(k:Int)+1:=IntWalk.i64_in _ (by omega);have kt:((k:Int)+1).toNat=k+1:=by omega
  have y1:(k:Int)+1≤(n:Int):=by omega
  have y2:(k:Int)+1≤(rc:Int):=by omega
  have y0:(0:Int)≤(k:Int)+1:=by omega
  have So:=pW.take_ (k:=k) (by have:=HN.out.1;have:=HK.out.1;omega)
  have qz:=Hh (show(l.take k).length=k∧(l.drop (k+1)).length=n-(k+1) by
   rw[List.length_take,List.length_drop];have:=HN.out.1;have:=HK.out.1;omega)
  have Wd:OwnB w1.drew w.heap.size (.slice RA k rc) (l.take k):=So;have ar:Below w.heap.size w w1.drew:=vg.drew
  by_cases hck:rc=k+1
  ·have Sr:Src w1.drew RA ((l.drop (k+1)).map zD):=by
    rw[List.drop_of_length_le (by have:=HN.out.1;have:=Ox.out.1;omega)];exact Src.nil _ _
   have UI:=Hh Sr;have KX:(rc=k+1)=True:=eq_true hck;clear hck;clear Sr So;go_upto_region 10 with fail
   refine zf 8 (fun _=>True) (by kernel_rfl) (trivial) (fun zy=>?_)
   refine TkT 0 rfl ?_
   refine TkT 1 rfl ?_
   refine TkT 2 rfl ?_
   refine TkT 3 rfl ?_
   refine TkT 4 rfl ?_
   refine TkT 5 rfl ?_
   refine TkT 6 rfl ?_
   refine To 7 rfl fun K hK=>?_
   refine yS (.tmp 38) (.tmp 42) rfl w.heap.size _ _ rfl Wd RA (n-(k+1)) _ (l.drop (k+1)) rfl qz.out.2.symm UI.out (by have:=qz.out;have:=HN.out;have:=HK.out.1;omega) ar.size fun v' w5 s9 sp lA=>?_
   obtain⟨S5,bA⟩:∃ S5,l.take k++l.drop (k+1)=S5:=⟨_,rfl⟩
   rw[bA]at s9;clear bA;have ow:=ar.grown sp ar.size (fun q hq=>(Wd.lt q hq).1);obtain⟨VA,vc,rfl,_⟩:=s9.form;go_simp
   refine hK.out _ _ (fun _=>?_) (fun zy=>?_)
   ·exact trivial
   clear hK K;have zy:=zy (by decide)
   try simp only[Act.put,zz1,zz2,zz3,zz4,zz5,zz6]
   refine To 8 rfl fun K hK=>?_
   go_simp
   refine hK.out _ _ (fun h=>absurd rfl h) (fun _=>?_)
   clear hK K
   try simp only[Act.put,zz1,zz2,zz3,zz4,zz5,zz6]
   refine Ways.done (by kernel_rfl) ?_
   go_wp2_with fail
   go_ret
   exact Some_.of HH.out rfl ⟨s9,ow⟩
  ·have KV:(rc=k+1)=False:=eq_false hck
   have Sr:Src w1.drew (Option.map (fun x=>x.add (k+1)) RA) ((l.drop (k+1)).map zD):=by
    obtain⟨gq,cur,rfl,Pm,QR,T3,Wp⟩:=pW.store_ (k:=k) (by have:=HN.out.1;have:=HK.out.1;omega)
    have h:=rt (w:=w1) (b:=gq) (off:=0) (n:=n-(k+1)) (l:=l) (fun j hj=>by
     obtain⟨gb,go,e1,e2⟩:=pW.src (by intro h0;rw[List.map_eq_nil_iff]at h0;subst h0;simp at hj);injection e1 with e1;injection e1 with e1 e1';subst e1;subst e1'
     exact e2 j _ (by simp[hj])) (k+1) (some ⟨gq,0+(k+1),none⟩) (fun _=>rfl) (by have:=HN.out.1;have:=HK.out.1;omega)
    rw[List.take_of_length_le (by have:=qz.out.2;omega)]at h;rw[Option.map_some,nV]
    exact h
   have UI:=Hh Sr;clear hck;clear Sr So;go_upto_region 10 with fail
   refine zf 8 (fun _=>True) (by kernel_rfl) (trivial) (fun zy=>?_)
   refine TkT 0 rfl ?_
   refine TkT 1 rfl ?_
   refine TkT 2 rfl ?_
   refine TkT 3 rfl ?_
   refine TkT 4 rfl ?_
   refine TkT 5 rfl ?_
   refine TkT 6 rfl ?_
   refine To 7 rfl fun K hK=>?_
   refine yS (.tmp 38) (.tmp 42) rfl w.heap.size _ _ rfl Wd (Option.map (fun x=>x.add (k+1)) RA) (n-(k+1)) _ (l.drop (k+1)) rfl qz.out.2.symm UI.out (by have:=qz.out;have:=HN.out;have:=HK.out.1;omega) ar.size fun v' w5 s9 sp lA=>?_
   obtain⟨S5,bA⟩:∃ S5,l.take k++l.drop (k+1)=S5:=⟨_,rfl⟩
   rw[bA]at s9;clear bA;have ow:=ar.grown sp ar.size (fun q hq=>(Wd.lt q hq).1);obtain⟨VA,vc,rfl,_⟩:=s9.form;go_simp
   refine hK.out _ _ (fun _=>?_) (fun zy=>?_)
   ·exact trivial
   clear hK K;have zy:=zy (by decide)
   try simp only[Act.put,zz1,zz2,zz3,zz4,zz5,zz6]
   refine To 8 rfl fun K hK=>?_
   go_simp
   refine hK.out _ _ (fun h=>absurd rfl h) (fun _=>?_)
   clear hK K
   try simp only[Act.put,zz1,zz2,zz3,zz4,zz5,zz6]
   refine Ways.done (by kernel_rfl) ?_
   go_wp2_with fail
   go_ret
   exact Some_.of HH.out rfl ⟨s9,ow⟩
 ·clear Xc;have eS:=Hh (show(l.take k).length=k∧(l.drop k).length=n-k by rw[List.length_take,List.length_drop];have:=HN.out.1;have:=HK.out.1;omega);obtain⟨gq,cur,rfl,Pm,QR,T3,Wp⟩:=pW.store_ (k:=k) (by have:=HN.out.1;have:=HK.out.1;omega)
  have WU:Hid (∀ W,OwnB W w.heap.size (.slice (some ⟨gq,0,none⟩) n rc) l→Src W (some ⟨gq,0,none⟩) ((l.take k).map zD)∧Src W (some ⟨gq,k,none⟩) ((l.drop k).map zD)):=by
   intro W hW
   have hc:∀ j (hj:j<l.length),W.cell? ⟨gq,0+j,none⟩=some (zD l[j]):=fun j hj=>by
    obtain⟨gb,go,e1,e2⟩:=hW.src (by intro h0;rw[List.map_eq_nil_iff]at h0;subst h0;simp at hj);injection e1 with e1;injection e1 with e1 e1';subst e1;subst e1'
    exact e2 j _ (by simp[hj])
   have h1:=rt (w:=W) (b:=gq) (off:=0) (n:=k) (l:=l) hc 0 (some ⟨gq,0,none⟩) (fun _=>rfl) (by have:=HN.out.1;have:=HK.out.1;omega);have h2:=rt (w:=W) (b:=gq) (off:=0) (n:=n-k) (l:=l) hc k (some ⟨gq,k,none⟩) (fun _=>by rw[Nat.zero_add]) (by have:=HN.out.1;have:=HK.out.1;omega);rw[List.drop_zero]at h1;rw[List.take_of_length_le (by have:=eS.out.2;omega)]at h2
   exact⟨h1,h2⟩
  have Ka:k≤n:=by have:=HK.out.1;omega
  have Kh:(rc=k)=False:=eq_false (by have:=Ox.out.1;have:=HK.out.1;omega);have eU:OwnB w1.drew w.heap.size (.slice (some ⟨gq,0,none⟩) n rc) l:=pW;have wZ:Below w.heap.size w w1.drew:=vg.drew;clear Wp QR T3 pW vg;go_upto_region 12 with fail
  refine zf 12 (fun _=>True) (by kernel_rfl) (trivial) (fun zy=>?_)
  refine TkT 0 rfl ?_
  refine TkT 1 rfl ?_
  refine TkT 2 rfl ?_
  refine TkT 4 rfl ?_
  refine TkT 5 rfl ?_
  refine TkT 8 rfl ?_
  refine TkT 9 rfl ?_
  refine TkT 10 rfl ?_
  refine Ways.two (i:=3) (j:=6) rfl rfl (by kernel_rfl) (fun K hK=>?_) (fun K hK=>?_)
  ·refine yS (.const (.slice none 0 0)) (.tmp 48) rfl _ (.slice none 0 0) [] rfl (OwnB.nil _ _) (some ⟨gq,0,none⟩) k rc (l.take k) rfl eS.out.1.symm (WU.out _ eU).1 (by have:=eS.out.1;have:=HN.out;have:=HK.out.1;simp only[List.length_nil];omega) (Nat.le_refl _) fun v' w5 s9 sp lA=>?_
   rw[List.nil_append]at s9;obtain⟨S5,bA⟩:∃ S5,l.take k=S5:=⟨_,rfl⟩
   rw[bA]at s9;have SO:=Hh (show S5.length=k by rw[← bA];exact eS.out.1);clear bA;have ow:=yo (by simpa [Value.ownBlock] using sp);have Q0:=(eU.lt gq rfl).2;have UE:=Hh (show ∀ q,v'.ownBlock=some q→gq<q from fun q hq=>by have h1:=(s9.lt q hq).1;have h2:=Q0;(try simp only[yY,zV]at h1 h2);omega);have s9:=s9.more wZ.size;have wZ:=wZ.trans (ow.mono wZ.size);have eU:=eU.below ow;(try have X8:=X8.below ow)
   obtain⟨VA,vc,rfl,_⟩:=s9.form;clear sp lA ow;go_simp
   refine hK.out _ _ (fun _=>?_) (fun zy=>?_)
   ·exact trivial
   clear hK K;have zy:=zy (by decide)
   try simp only[Act.put,zz1,zz2,zz3,zz4,zz5,zz6]
   refine To 6 rfl fun K hK=>?_
   go_simp
   have X8:=Yg eU #[.int .u8 bw] 5;rw[show(#[Value.int .u8 bw]:Array Value).toList=[x].map zD by simp[← HX.out]]at X8;have eU:=eU.alloc (.cells #[.int .u8 bw] 5);(try have s9:=s9.alloc (.cells #[.int .u8 bw] 5))
   have wZ:=wZ.alloc wZ.size (.cells #[.int .u8 bw] 5)
   refine hK.out _ _ (fun _=>?_) (fun zy=>?_)
   ·exact trivial
   clear hK K;have zy:=zy (by decide)
   try simp only[Act.put,zz1,zz2,zz3,zz4,zz5,zz6]
   refine To 7 rfl fun K hK=>?_
   refine yS (.tmp 49) (.tmp 52) rfl w.heap.size _ _ rfl s9 _ 1 _ [x] rfl rfl X8 (by have:=SO.out;have:=HN.out;have:=HK.out.1;simp only[List.length_singleton];omega) wZ.size fun v' w7 xK hg7 hat7=>?_
   obtain⟨S7,Us⟩:∃ S7,S5++[x]=S7:=⟨_,rfl⟩
   rw[Us]at xK;have P4:=Hh (show S7.length=k+1 by rw[← Us,List.length_append,SO.out];rfl);clear Us;have wZ:=wZ.grown hg7 wZ.size (fun q hq=>(s9.lt q hq).1);have UG:=eU.kept hg7 (.inr (fun e=>by have:=UE.out gq e.symm;omega));obtain⟨VA2,vc2,rfl,_⟩:=xK.form;go_simp
   refine hK.out _ _ (fun _=>?_) (fun zy=>?_)
   ·exact trivial
   clear hK K;have zy:=zy (by decide)
   try simp only[Act.put,zz1,zz2,zz3,zz4,zz5,zz6]
   refine To 11 rfl fun K hK=>?_
   refine yS (.tmp 53) (.tmp 56) rfl w.heap.size _ _ rfl xK (some ⟨gq,k,none⟩) (n-k) _ (l.drop k) rfl eS.out.2.symm (WU.out _ UG).2 (by have:=P4.out;have:=eS.out;have:=HN.out;have:=HK.out.1;omega) wZ.size fun v' w8 o5 hg8 hat8=>?_
   obtain⟨S8,Sq⟩:∃ S8,S7++l.drop k=S8:=⟨_,rfl⟩
   rw[Sq]at o5;clear Sq;have wZ:=wZ.grown hg8 wZ.size (fun q hq=>(xK.lt q hq).1);obtain⟨VA3,vc3,rfl,_⟩:=o5.form;go_simp
   refine hK.out _ _ (fun _=>?_) (fun zy=>?_)
   ·exact trivial
   clear hK K;have zy:=zy (by decide)
   try simp only[Act.put,zz1,zz2,zz3,zz4,zz5,zz6]
   refine To 12 rfl fun K hK=>?_
   go_simp
   refine hK.out _ _ (fun h=>absurd rfl h) (fun _=>?_)
   clear hK K
   try simp only[Act.put,zz1,zz2,zz3,zz4,zz5,zz6]
   refine Ways.done (by kernel_rfl) ?_
   go_wp2_with fail
   go_ret
   exact Some_.of HH.out rfl ⟨o5,wZ⟩
  ·go_simp
   have X8:=Yg eU #[.int .u8 bw] 5;rw[show(#[Value.int .u8 bw]:Array Value).toList=[x].map zD by simp[← HX.out]]at X8;have eU:=eU.alloc (.cells #[.int .u8 bw] 5);(try have s9:=s9.alloc (.cells #[.int .u8 bw] 5))
   have wZ:=wZ.alloc wZ.size (.cells #[.int .u8 bw] 5)
   refine hK.out _ _ (fun _=>?_) (fun zy=>?_)
   ·exact trivial
   clear hK K;have zy:=zy (by decide)
   try simp only[Act.put,zz1,zz2,zz3,zz4,zz5,zz6]
   refine To 3 rfl fun K hK=>?_
   refine yS (.const (.slice none 0 0)) (.tmp 48) rfl _ (.slice none 0 0) [] rfl (OwnB.nil _ _) (some ⟨gq,0,none⟩) k rc (l.take k) rfl eS.out.1.symm (WU.out _ eU).1 (by have:=eS.out.1;have:=HN.out;have:=HK.out.1;simp only[List.length_nil];omega) (Nat.le_refl _) fun v' w5 s9 sp lA=>?_
   rw[List.nil_append]at s9;obtain⟨S5,bA⟩:∃ S5,l.take k=S5:=⟨_,rfl⟩
   rw[bA]at s9;have SO:=Hh (show S5.length=k by rw[← bA];exact eS.out.1);clear bA;have ow:=yo (by simpa [Value.ownBlock] using sp);have Q0:=(eU.lt gq rfl).2;have UE:=Hh (show ∀ q,v'.ownBlock=some q→gq<q from fun q hq=>by have h1:=(s9.lt q hq).1;have h2:=Q0;(try simp only[yY,zV]at h1 h2);omega);have s9:=s9.more wZ.size;have wZ:=wZ.trans (ow.mono wZ.size);have eU:=eU.below ow;(try have X8:=X8.below ow)
   obtain⟨VA,vc,rfl,_⟩:=s9.form;clear sp lA ow;go_simp
   refine hK.out _ _ (fun _=>?_) (fun zy=>?_)
   ·exact trivial
   clear hK K;have zy:=zy (by decide)
   try simp only[Act.put,zz1,zz2,zz3,zz4,zz5,zz6]
   refine To 7 rfl fun K hK=>?_
   refine yS (.tmp 49) (.tmp 52) rfl w.heap.size _ _ rfl s9 _ 1 _ [x] rfl rfl X8 (by have:=SO.out;have:=HN.out;have:=HK.out.1;simp only[List.length_singleton];omega) wZ.size fun v' w7 xK hg7 hat7=>?_
   obtain⟨S7,Us⟩:∃ S7,S5++[x]=S7:=⟨_,rfl⟩
   rw[Us]at xK;have P4:=Hh (show S7.length=k+1 by rw[← Us,List.length_append,SO.out];rfl);clear Us;have wZ:=wZ.grown hg7 wZ.size (fun q hq=>(s9.lt q hq).1);have UG:=eU.kept hg7 (.inr (fun e=>by have:=UE.out gq e.symm;omega));obtain⟨VA2,vc2,rfl,_⟩:=xK.form;go_simp
   refine hK.out _ _ (fun _=>?_) (fun zy=>?_)
   ·exact trivial
   clear hK K;have zy:=zy (by decide)
   try simp only[Act.put,zz1,zz2,zz3,zz4,zz5,zz6]
   refine To 11 rfl fun K hK=>?_
   refine yS (.tmp 53) (.tmp 56) rfl w.heap.size _ _ rfl xK (some ⟨gq,k,none⟩) (n-k) _ (l.drop k) rfl eS.out.2.symm (WU.out _ UG).2 (by have:=P4.out;have:=eS.out;have:=HN.out;have:=HK.out.1;omega) wZ.size fun v' w8 o5 hg8 hat8=>?_
   obtain⟨S8,Sq⟩:∃ S8,S7++l.drop k=S8:=⟨_,rfl⟩
   rw[Sq]at o5;clear Sq;have wZ:=wZ.grown hg8 wZ.size (fun q hq=>(xK.lt q hq).1);obtain⟨VA3,vc3,rfl,_⟩:=o5.form;go_simp
   refine hK.out _ _ (fun _=>?_) (fun zy=>?_)
   ·exact trivial
   clear hK K;have zy:=zy (by decide)
   try simp only[Act.put,zz1,zz2,zz3,zz4,zz5,zz6]
   refine To 12 rfl fun K hK=>?_
   go_simp
   refine hK.out _ _ (fun h=>absurd rfl h) (fun _=>?_)
   clear hK K
   try simp only[Act.put,zz1,zz2,zz3,zz4,zz5,zz6]
   refine Ways.done (by kernel_rfl) ?_
   go_wp2_with fail
   go_ret
   exact Some_.of HH.out rfl ⟨o5,wZ⟩
 ·clear Xc;have So:=pW.take_ (k:=k) (by have:=HN.out.1;have:=HK.out.1;omega);go_wp2_with fail
  go_ret
  exact Some_.of HH.out rfl ⟨So,vg⟩
structure Ky where
 kty:Int
 crv:Int
 alg:Int
 kid:List UInt8
 x:List UInt8
 d:List UInt8
 k:List UInt8
def df (b:List UInt8):Bool:=decide (b.length=0)||decide (b.length=32)
def xF (q:Ky):Bool :=
 decide (q.kid.length≤16)&&decide (-65536≤q.alg)&&decide (q.alg≤65535) &&
 (if q.kty=1 then(decide (q.crv=4)||decide (q.crv=6))&&df q.x&&df q.d&&decide (0<q.x.length+q.d.length)&&decide (q.k.length=0)
  else if q.kty=4 then decide (q.crv=0)&&decide (q.x.length+q.d.length=0)&&decide (1≤q.k.length)&&decide (q.k.length≤64) else false)
def pw (b:List UInt8):Itm:=.mk 2 0 b []
def rg (n:Int) (b:List UInt8):List Itm:=if 0<b.length then [zX n,pw b] else []
def xo (q:Ky):List Itm :=
 [zX 1,zX q.kty]++rg 2 q.kid++(if q.alg=0 then [] else [zX 3,zX q.alg]) ++
  (if q.kty=4 then rg (-1) q.k else [zX (-1),zX q.crv]++rg (-2) q.x++rg (-4) q.d)
def tu (q:Ky):Itm:=.mk 5 0 [] (xo q)
theorem aN:Lib.compareBytes (zd (zX 1)) (zd (zX 2))<0∧Lib.compareBytes (zd (zX 1)) (zd (zX 3))<0∧Lib.compareBytes (zd (zX 1)) (zd (zX (-1)))<0∧
  Lib.compareBytes (zd (zX 2)) (zd (zX 3))<0∧Lib.compareBytes (zd (zX 2)) (zd (zX (-1)))<0∧Lib.compareBytes (zd (zX 3)) (zd (zX (-1)))<0∧
  Lib.compareBytes (zd (zX (-1))) (zd (zX (-2)))<0∧Lib.compareBytes (zd (zX (-1))) (zd (zX (-4)))<0∧Lib.compareBytes (zd (zX (-2))) (zd (zX (-4)))<0:=by
 rw[sR,sR,sR,sR,sR,sR];decide +kernel
theorem oB (q:Ky):xX (xo q)=true:=by
 obtain⟨SW,LA,LB,LC,LE,LG,Ze,Lq,ta⟩:=aN
 unfold xo rg
 repeat' split
 all_goals simp[xX,SW,LA,LB,LC,LE,LG,Ze,Lq,ta]
theorem uY (q:Ky):xF q=true↔(q.kid.length≤16∧-65536≤q.alg∧q.alg≤65535∧
  ((q.kty=1∧(q.crv=4∨q.crv=6)∧(q.x.length=0∨q.x.length=32)∧(q.d.length=0∨q.d.length=32)∧0<q.x.length+q.d.length∧q.k.length=0)∨
   (q.kty=4∧q.crv=0∧q.x.length+q.d.length=0∧1≤q.k.length∧q.k.length≤64))):=by
 unfold xF df
 split
 ·rename_i h1
  simp[h1,and_assoc]
 ·split
  ·rename_i h1 h4
   simp[h1,h4,and_assoc]
  ·rename_i h1 h4
   simp[h1,h4]
theorem a6 (b:List UInt8) (lv:Nat):Good (pw b) lv:=Xq 2 (.inl rfl) b lv (fun h=>by omega)
theorem gi (q:Ky) (lv:Nat):GoodL (xo q) lv:=by
 unfold xo rg
 repeat' split
 all_goals simp[GoodL,iu,a6]
theorem pe (q:Ky):(xo q).length%2=0:=by
 unfold xo rg
 repeat' split
 all_goals simp
theorem qh (q:Ky):2≤(xo q).length∧(xo q).length≤12:=by
 unfold xo rg
 repeat' split
 all_goals simp
theorem cY (q:Ky):Good (tu q) 0:=by
 refine Good.of ?_ (gi q 1) (fun _=>oB q)
 have h:=pe q;rw[xZ,if_neg (by rw[z8];simp[tu,Itm.kind]),vj]
 simp[tu,Itm.kind,Itm.bytes,Itm.items,Itm.n,h]
def bp (x:Itm):Prop:=cnt x=1∧(zd x).length≤73
theorem tR (n:Int):bp (zX n):=by
 unfold zX
 split
 ·refine⟨by simp[cnt,wG], ?_⟩
  have h:=xI 1 (-1-n).toNat [] [] (by decide) (by decide)
  simp[zB]at h
  omega
 ·refine⟨by simp[cnt,wG], ?_⟩
  have h:=xI 0 n.toNat [] [] (by decide) (by decide)
  simp[zB]at h
  omega
theorem pL {b:List UInt8}(hb:b.length≤64):bp (pw b):=by
 refine⟨by simp[pw,cnt,wG], ?_⟩
 have h:=xI 2 0 b [] (by decide) (by decide)
 simp[zB]at h
 simp only[pw]
 omega
theorem fz:∀ l:List Itm,(∀ x∈l,bp x)→wG l=l.length∧(zB l).length≤73*l.length
 | [],_=>by simp[wG,zB]
 | x::l,h=>by
  have h1:=h x (by simp);have h2:=fz l fun y hy=>h y (by simp[hy])
  simp only[wG,zB,List.length_cons,List.length_append]
  have:=h1.1;have:=h1.2
  omega
theorem nX {x:Itm}{n:Int}{b:List UInt8}(h:x∈rg n b):x=zX n∨x=pw b:=by
 unfold rg at h
 split at h
 ·simpa using h
 ·simp at h
theorem en {q:Ky}(h:xF q=true):∀ x∈xo q,bp x:=by
 have hv:=(uY q).mp h;have hx:q.x.length≤64:=by omega
 have hd:q.d.length≤64:=by omega
 have hk:q.k.length≤64:=by omega
 have hi:q.kid.length≤64:=by omega
 intro x hm
 unfold xo at hm
 simp only[List.mem_append]at hm
 rcases hm with ((hm | hm) | hm) | hm
 ·simp at hm
  rcases hm with rfl | rfl <;> exact tR _
 ·rcases nX hm with rfl | rfl
  ·exact tR _
  ·exact pL hi
 ·split at hm
  ·simp at hm
  ·simp at hm
   rcases hm with rfl | rfl <;> exact tR _
 ·split at hm
  ·rcases nX hm with rfl | rfl
   ·exact tR _
   ·exact pL hk
  ·simp only[List.mem_append]at hm
   rcases hm with (hm | hm) | hm
   ·simp at hm
    rcases hm with rfl | rfl <;> exact tR _
   ·rcases nX hm with rfl | rfl
    ·exact tR _
    ·exact pL hx
   ·rcases nX hm with rfl | rfl
    ·exact tR _
    ·exact pL hd
theorem wE {q:Ky}(h:xF q=true):yW (tu q)=true:=by
 have hs:=fz (xo q) (en h);have hl:=qh q
 refine(uz _).mpr ⟨cY q, ?_, ?_⟩
 ·rw[pm];show wG (xo q)+1≤256
  omega
 ·have h2:=xI 5 0 [] (xo q) (by decide) (by decide)
  simp at h2
  show(zd (.mk 5 0 [] (xo q))).length≤4096
  omega
theorem om {q:Ky}(h:xF q=true):∀ x∈xo q,yW x=true :=
 fun x hx=>pg (wE h) (show x∈(tu q).items from hx)
theorem YT {q:Ky}(h:xF q=true):(xo q).length%2=0∧xX (xo q)=true∧(∀ x∈xo q,yW x=true)∧yW (.mk 5 0 [] (xo q))=true :=
 ⟨pe q,oB q,om h,wE h⟩
end Go.Proofs.YtnlinmoiakgedaaGreatDoor
