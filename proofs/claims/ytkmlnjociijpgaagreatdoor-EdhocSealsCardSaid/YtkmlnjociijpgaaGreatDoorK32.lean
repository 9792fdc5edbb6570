/- squeezed. Walks: the laws' sanity check, and -/
import Derived.Test.YtkmlnjociijpgaaGreatDoorK31
set_option linter.unusedVariables false
set_option linter.unusedSimpArgs false
set_option maxRecDepth 100000
set_option maxHeartbeats 6400000
namespace Go.Proofs.YtkmlnjociijpgaaGreatDoor
open Go.RowKit
theorem jas{P:Prop}(h:P:=by
 refine Ko hK ?_ fun zy=>?_
 ·exact trivial
 clear hK K
 refine To 7 rfl fun K hK=>?_
 refine yV (.tmp 49) (.tmp 52) rfl w.heap.size _ _ rfl zW _ 1 _ [x] rfl rfl ad (by have:=I6.out;have:=HN.out;have:=HK.out.1;simp only[List.length_singleton];omega) uv.size fun v' w7 xj xQ hat7=>?_
 obtain⟨S7,S6⟩:∃ S7,S5++[x]=S7:=⟨_,rfl⟩
 rw[S6]at xj;have DH:=Hh (show S7.length=k+1 by rw[← S6,List.length_append,I6.out];rfl);clear S6;have uv:=uv.grown xQ uv.size (fun q hq=>(zW.lt q hq).1);have LB:=YV.kept xQ (.inr (fun e=>by have:=L8.out gq e.symm;omega));obtain⟨VA2,vc2,rfl,_⟩:=xj.form;go_simp
 refine Ko hK ?_ fun zy=>?_
 ·exact trivial
 clear hK K
 refine To 11 rfl fun K hK=>?_
 refine yV (.tmp 53) (.tmp 56) rfl w.heap.size _ _ rfl xj (some ⟨gq,k,none⟩) (n-k) _ (l.drop k) rfl fB.out.2.symm (O0.out _ LB).2 (by have:=DH.out;have:=fB.out;have:=HN.out;have:=HK.out.1;omega) uv.size fun v' w8 sk hg8 hat8=>?_
 obtain⟨S8,VK⟩:∃ S8,S7++l.drop k=S8:=⟨_,rfl⟩
 rw[VK]at sk;clear VK;have uv:=uv.grown hg8 uv.size (fun q hq=>(xj.lt q hq).1);obtain⟨VA3,vc3,rfl,_⟩:=sk.form;go_simp
 refine Ko hK ?_ fun zy=>?_
 ·exact trivial
 clear hK K
 refine To 12 rfl fun K hK=>?_
 go_simp
 refine Kz hK ?_
 clear hK K
 refine Wd ?_
 go_wp2_with fail
 go_ret
 exact Some_.of HH.out rfl ⟨sk,uv⟩):P:=h
theorem jbc{P:Prop}(h:P:=by
 obtain⟨S5,VJ⟩:∃ S5,l.take k++l.drop (k+1)=S5:=⟨_,rfl⟩
 rw[VJ]at zW;clear VJ;have zE:=Ur.grown zK Ur.size (fun q hq=>(O9.lt q hq).1);obtain⟨VA,vc,rfl,_⟩:=zW.form;go_simp
 refine Ko hK ?_ fun zy=>?_
 ·exact trivial
 clear hK K
 refine To 8 rfl fun K hK=>?_
 go_simp
 refine Kz hK ?_
 clear hK K
 refine Wd ?_
 go_wp2_with fail
 go_ret
 exact Some_.of HH.out rfl ⟨zW,zE⟩):P:=h
theorem jbm{P:Prop}(h:P:=by
 have HF:=Hh (And.intro (OwnB.more mh.own vV.size) (vV.trans (mh.2.mono vV.size)));clear mh vV JN HW;go_wp2_with fail
 go_ret
 exact⟨_,rfl,HF.out.1,HF.out.2⟩):P:=h
theorem jeB{P:Prop}(h:P:=by
 go_wp2_with fail
 rw[HW.out.1,HW.out.2]
 refine JN.out.mono ?_
 rintro e w9 ⟨r9,rfl,mh⟩
 rw[E.out]at mh;exact jbm):P:=h
theorem jgf{P:Prop}(h:P:=by have zE:=yW (by simpa [Value.ownBlock] using zK);have EJ:=(YV.lt gq rfl).2;have L8:=Hh (show ∀ q,v'.ownBlock=some q→gq<q from fun q hq=>by have h1:=(zW.lt q hq).1;have h2:=EJ;(try simp only[zB,za]at h1 h2);omega);have zW:=zW.more uv.size;have uv:=uv.trans (zE.mono uv.size);have YV:=YV.below zE;exact And.intro zE (And.intro EJ (And.intro L8 (And.intro zW (And.intro uv YV))))):P:=h
theorem jgi{P:Prop}(h:P:=by have hl:=SrcR.lit3 (c1:=c1) (c2:=c2) (c3:=c3) w3 22 YF.out.symm oP.out.symm PB.out.symm xZ oX my;exact hl):P:=h
theorem jhJ{P:Prop}(h:P:=by have yR:=zD.trans (tr.2.mono zD.size);exact yR):P:=h
def fA:First:=⟨3,[0],List.replicate 32 0,[55],[]⟩
def bA:List UInt8:=[3,0,88,32]++List.replicate 32 0++[55]
theorem T8:vw fA=.ok bA:=by kernel_rfl
theorem T7:yS bA=.ok fA:=by kernel_rfl
theorem OwnX.lit {α:Type}{L:Lie α}{H:Snap}{cs:List Value}{l:List α}(hc:RowC L H cs l) (t:TypeId) (w:World) (base:Nat) (hb:base≤w.heap.size) (hm:l.length≤4096) :
  OwnX L t (w.alloc (.cells cs.toArray t)) base (.slice (some ⟨w.heap.size,0,none⟩) l.length l.length) H l :=
 ⟨cs,hc,hc.len,.inr ⟨w.heap.size,l.length,cs.toArray,rfl,hb,heap_alloc_new w _,Nat.le_refl _,by simp only[maxLen];omega,by simp[hc.len],by rw[← hc.len];simp⟩⟩
theorem be {α:Type}{L:Lie α}{w wr:World}{H Hr:Snap}{cs:List Value}{l:List α}(hG:Grows w H wr Hr) (hc:RowC L Hr cs l) (t:TypeId) (hm:l.length≤4096) :
  ∃ H',Grows w H (wr.alloc (.cells cs.toArray t)) H'∧Hr.le H'∧IsRow L H' (some ⟨wr.heap.size,0,none⟩) l.length l:=by
 have hO:=OwnX.lit hc t wr wr.heap.size (Nat.le_refl _) hm;have IP:=hG.alloc (.cells cs.toArray t);obtain⟨H',hl,hh,hf,_,hr⟩:=hO.snap IP.holds (fun q hq=>by cases hq;exact hG.holds.none_of_ge (Nat.le_refl _))
 exact⟨H',IP.snap hl hh hf (fun q hq=>by cases hq;exact hG.size),hl,hr⟩
theorem Ti {w wr:World}{H Hr:Snap}(hG:Grows w H wr Hr) (l:List UInt8) (cs:Array Value) (k:Nat) (hk:k=l.length) (hm:l.length≤4096) (hc:cs.toList=l.map zu) :
  ∃ H',Grows w H (wr.alloc (.cells cs 5)) H'∧Hr.le H'∧IsBytes H' (some ⟨wr.heap.size,0,none⟩) k l:=by
 obtain⟨H',IP,hb,_⟩:=Fresh.snapB hG.holds (Fresh.lit wr l cs k hk hm hc)
 exact⟨H',hG.trans IP,IP.le,hb⟩
theorem jO (n:Nat):(madeCells (Value.int .u8 0).cells (n*1)).toList=(List.replicate n (0:UInt8)).map zu:=by
 exact jcs
theorem Tn (A:Option Addr) (n c:Nat) (w:World) :
  Calls Tryz.prog 37 #[.slice A n c] w fun e w'=>(∃ b:Bool,e=.returned (.bool b)∧(b=true→n≤900))∧w'=w:=by
 have E:Hid (decide ((n:Int)≤900)=decide (n≤900)):=by rw[Hid,Bool.eq_iff_iff,decide_eq_true_eq,decide_eq_true_eq];omega
 go_enter Tryz.func37,Tryz.ntmps37
 go_wp2_with fail
 go_ret
 exact⟨⟨decide ((n:Int)≤900),rfl,by intro h;rw[E.out]at h;simpa using h⟩,rfl⟩
theorem Th {H:Snap}(hTab:Tabs H) (w:World) (hH:Holds w H) :
  Calls Tryz.prog 7 #[] w fun e w'=>e=.returned (.bool true)∧Below w.heap.size w w':=by
 have aZ:=Grows.refl hH;have HT:=Hh hTab;go_enter Tryz.func7,Tryz.ntmps7
 go_wp2_with (at_make;refine zh ?_)
 unfold zZ
 obtain⟨H1,rs,Ss,Yb⟩:=be (L:=cJ) aZ (RowC.one (x:=(0:Int)) rfl) 3 (by simp);have aN:Grows w H (w.alloc (.cells #[.int .i64 0] 3)) H1:=rs;have Ha:IsRow cJ H1 (some ⟨w.heap.size,0,none⟩) 1 [0]:=Yb;clear rs Yb
 generalize w.alloc (.cells #[.int .i64 0] 3)=w1 at aN⊢
 obtain⟨i0,og,n9,rx,oN⟩:=info_parts rX
 refine wpList_make_full _ rfl _ _ 22 rfl w1.heap.size 5 i0 _ 1 Tryz.underlying22 og n9 rx _ _ _ _ 32 rfl rfl (by omega) (by omega) (by rw[oN];omega) (by simp only[maxLen];omega) (Nat.le_refl _) fun w2 hO hg2=>?_
 clear i0 og n9 rx oN
 have sj:Fresh w1 (List.replicate 32 0) (.slice (some ⟨w1.heap.size,0,none⟩) 32 32) w2:=by
  refine⟨?_,yW hg2⟩
  rw[List.length_replicate,← jO]
  exact hO
 obtain⟨H2,xq,zD,aI⟩:=Fresh.snapB aN.holds sj;clear aI;have yA:=aN.trans xq;obtain⟨H3,xK,YN,xE⟩:=Ti yA [55] #[.int .u8 55] 1 rfl (by simp) rfl
 have AH:FirstA H3 fA (some ⟨w.heap.size,0,none⟩) 1 (some ⟨w1.heap.size,0,none⟩) 32 (some ⟨w2.heap.size,0,none⟩) 1 none 0 :=
  ⟨Ha.mono (xq.le.trans YN),zD.mono YN,xE,IsRow.nil _ _⟩
 have EF:=Hh (eQ (f:=fA) (m:=3) (sn:=1) (gn:=32) (cn:=1) (en:=0) _ xK.holds AH rfl rfl rfl rfl rfl);rw[T8]at EF;clear aN Ha sj xq zD yA xE hO hg2 AH YN Ss aZ;have V7:=Hh xK;clear xK;go_wp2_with fail
 refine EF.out.mono ?_
 intro e w4 hs
 unfold BytesOut at hs
 obtain⟨v,rfl,hf⟩:=hs;obtain⟨BA,bc,rfl,aI⟩:=hf.own.form;clear aI;have xK:=V7.out;obtain⟨H5,xx,zE,aI⟩:=Fresh.snapB xK.holds hf;clear aI;have y8:=xK.trans xx;have DF:=Hh (eP (HT.out.mono y8.le) w4 y8.holds zE);rw[T7]at DF;have uu:bA.length=37:=rfl;rw[uu]at DF⊢;clear uu hf xK xx zE EF;go_wp2_with fail
 refine DF.out.mono ?_
 intro e w5 hs
 unfold FirstOut at hs
 obtain⟨sa,sc,ga,gc,ca,cc,ea,ec,H7,rfl,vm,DS⟩:=hs;have cP:=y8.trans vm;obtain⟨b,off,rfl,y7⟩:=DS.conn.at_ (by show 0<([55]:List UInt8).length;simp);have hq:H7.cell? ⟨b,off+0,none⟩=some (.int .u8 55):=y7 0 (by show 0<([55]:List UInt8).length;simp);have wY:=Blk.new w5 60 #[.int .i64 0,.slice none 0 0,.slice none 0 0,.slice none 0 0,.slice none 0 0];have mu:H7 w5.heap.size=none:=cP.holds.none_of_ge (Nat.le_refl _);have YI:=cP.alloc (.cells #[.int .i64 0,.slice none 0 0,.slice none 0 0,.slice none 0 0,.slice none 0 0] 60);have zAu:(1:Int)≤(cc:Int):=by have:=DS.conn.le;have h:fA.conn.length=1:=rfl;omega
 clear DF y8 vm DS y7;have e1:fA.method=3:=rfl;have e2:fA.suites.length=1:=rfl;have e3:fA.gx.length=32:=rfl;have e4:fA.conn.length=1:=rfl;have e5:fA.ext.length=0:=rfl;rw[e1,e2,e3,e4,e5];clear e1 e2 e3 e4 e5;go_wp2_with (with_reducible refine zx ?_)
 refine zm rfl _ _ _ rfl rfl _ _ rfl rfl _ _ wY yp rfl (iG _ _ _ _ _ rfl rfl rfl rfl rfl) fun w6 sy vt=>?_
 have q9:=YI.grownOwn mu cP.size vt;have q0:w6.cell? ⟨b,off,none⟩=some (.int .u8 55):=q9.holds.cell hq;have f0:=sy.cell 0 rfl;have f3:=sy.cell 3 rfl;clear wY YI cP vt hq;go_wp2_with fail
 go_ret
 exact⟨rfl,q9.below⟩
theorem TF (v:Int):∃ x:UInt8,Value.int .u8 (IntKind.u8.wrap v)=zu x:=by
 refine⟨UInt8.ofNat (v%256).toNat, ?_⟩
 have h:(v%256).toNat<256:=by omega
 rw[IntKind.wrap_u8,zu,UInt8.toNat_ofNat_of_lt' (by simpa using h)];congr 1
 omega
theorem Qr {W:World}{base:Nat}{v:Value}{l:List UInt8}(_h:OwnB W base v l) (cs:Array Value) (t:TypeId):Src (W.alloc (.cells cs t)) (some ⟨W.heap.size,0,none⟩) cs.toList:=Src.lit _ _ _
def Some_ (w:World) (H:Snap) (e:Ending) (w':World):Prop:=∃ B d l',e=.returned (.slice B l'.length d)∧∃ H',Grows w H w' H'∧IsBytes H' B d l'
theorem Some_.of {w w':World}{H:Snap}{e:Ending}{B:Option Addr}{n d:Nat}{l':List UInt8}(hH:Holds w H) (he:e=.returned (.slice B n d)) (hf:Fresh w l' (.slice B n d) w'):Some_ w H e w':=by
 obtain⟨H',hG,hb,hn⟩:=Fresh.snapB hH hf
 exact⟨B,d,l',by rw[← hn];exact he,H',hG,hb⟩
theorem Tp {H:Snap}(w:World) (hH:Holds w H) {A:Option Addr}{n c:Nat}{l:List UInt8}(hn:n=l.length) (hl:IsBytes H A c l) (kW:l.length≤1099511627) (at_ by_:Int) :
  Calls Tryz.prog 17 #[.slice A n c,.int .i64 at_,.int .i64 by_] w (Some_ w H):=by
 obtain⟨x,hx⟩:=TF by_;have HX:=Hh hx;have HN:=Hh (And.intro hn kW);have HS:=Hh (Src.of_row hl.row hH);have HH:=Hh hH;clear hx hl hH;obtain⟨bw,oL⟩:∃ bw,IntKind.u8.wrap by_=bw:=⟨_,rfl⟩
 rw[oL]at HX;have MD:=Hh (fun(v:Int) (w:World)=>Xi v 4 (by omega) (by omega) w);go_enter Tryz.func17,Tryz.ntmps17
 go_wp2_with (at_builtin;refine zh ?_)
 refine zv rfl (.const (.slice none 0 0)) (.tmp 9) rfl w.heap.size (.slice none 0 0) [] rfl (OwnB.nil _ _) A n c l rfl HN.out.1 HS.out (by have:=HN.out.2;simp;omega) (Nat.le_refl _) fun v' w1 zJ hg1 hat1=>?_
 rw[List.nil_append]at zJ;have zY:=yW (by simpa [Value.ownBlock] using hg1);obtain⟨RA,rc,rfl,ar,BH,jq⟩:=zJ.form;rw[← hn]at zJ ar⊢;have Mg:=Hh (And.intro ar BH);clear hg1 hat1 ar BH jq hn kW
 by_cases h0:n=0
 ·subst h0;go_wp2_with fail
  go_ret
  exact Some_.of HH.out rfl (by
   have hf:=Fresh.lit w1 [x] #[.int .u8 bw] 1 rfl (by simp) (by simp[← HX.out])
   exact hf.step zY)
 have e0:((n:Int)==0)=false:=by simp;omega
 have e0':((n:Int)=0)=False:=eq_false (by omega);have M1:=Xi at_ (n:Int) (by omega) (by have:=HN.out.1;have:=HN.out.2;omega) w1;have mb:=Zi at_ (n:Int) (by omega);obtain⟨kk,kX⟩:∃ kk,iF at_ (n:Int)=kk:=⟨_,rfl⟩
 rw[kX]at M1 mb;obtain⟨k,rfl⟩:=Int.eq_ofNat_of_zero_le mb.1;have sw:k<n:=by omega
 have SK:(k:Int)<(n:Int):=by omega
 have fP:(0:Int)≤(k:Int):=by omega
 have qm:(n:Int)≤(rc:Int):=by have h:=Mg.out.1;omega
 have hkr:(k:Int)≤(rc:Int):=by omega
 have Gw:(n:Int)≤1099511627:=by have:=HN.out.1;have:=HN.out.2;omega
 have M1h:=Hh M1;have HK:=Hh (And.intro sw h0);clear M1 mb kX h0 sw;go_wp2_with fail
 refine M1h.out.mono ?_
 rintro e w2 ⟨rfl,rfl⟩
 go_wp2_with fail
 refine(MD.out _ _).mono ?_
 rintro e w3 ⟨rfl,rfl⟩
 clear M1h;have mb4:=fun v=>Zi v 4 (by omega)
 generalize hs:iF _ 4=s
 have jH:0≤s∧s<4:=by rw[← hs];exact mb4 _
 clear hs mb4 MD
 rcases(by omega:s=0∨s=1∨s=2∨s=3) with rfl | rfl | rfl | rfl
 ·obtain⟨gq,cur,rfl,WS,iY,oT,rq⟩:=zJ.store_ (k:=k) (by have:=HN.out.1;have:=HK.out.1;omega);clear jH;go_wp2_with (with_reducible refine zx ?_)
  refine zw rfl _ _ _ rfl rfl gq k (.int .u8 bw) rfl rfl _ _ iY QX oT rfl fun w4 ss hg4=>?_
  have uj:=rq w4 x (by rw[← HX.out];exact ss);have xE:=zp zY hg4 (by rintro q ⟨⟩;exact WS);go_wp2_with fail
  go_ret
  exact Some_.of HH.out rfl ⟨uj,xE⟩
 ·clear jH;have KP:IntKind.i64.wrap ((k:Int)+1)=(k:Int)+1:=IntWalk.i64_in _ (by omega);have kt:((k:Int)+1).toNat=k+1:=by omega
  have y1:(k:Int)+1≤(n:Int):=by omega
  have y2:(k:Int)+1≤(rc:Int):=by omega
  have y0:(0:Int)≤(k:Int)+1:=by omega
  have IY:=zJ.take_ (k:=k) (by have:=HN.out.1;have:=HK.out.1;omega)
  have qk:=Hh (show(l.take k).length=k∧(l.drop (k+1)).length=n-(k+1) by
   rw[List.length_take,List.length_drop];have:=HN.out.1;have:=HK.out.1;omega)
  have O9:OwnB w1.drew w.heap.size (.slice RA k rc) (l.take k):=IY;have Ur:Below w.heap.size w w1.drew:=zY.drew
  by_cases hck:rc=k+1
  ·have Ic:Src w1.drew RA ((l.drop (k+1)).map zu):=by
    rw[List.drop_of_length_le (by have:=HN.out.1;have:=Mg.out.1;omega)];exact Src.nil _ _
   have LC:=Hh Ic;have zAt:(rc=k+1)=True:=eq_true hck;clear hck;clear Ic IY;go_upto_region 10 with fail
   refine zr 8 (fun _=>True) (by kernel_rfl) (trivial) (fun zy=>?_)
   refine TkT 0 rfl ?_
   refine TkT 1 rfl ?_
   refine TkT 2 rfl ?_
   refine TkT 3 rfl ?_
   refine TkT 4 rfl ?_
   refine TkT 5 rfl ?_
   refine TkT 6 rfl ?_
   refine To 7 rfl fun K hK=>?_
   refine yV (.tmp 38) (.tmp 42) rfl w.heap.size _ _ rfl O9 RA (n-(k+1)) _ (l.drop (k+1)) rfl qk.out.2.symm LC.out (by have:=qk.out;have:=HN.out;have:=HK.out.1;omega) Ur.size fun v' w5 zW zK hat5=>?_
   exact jbc
  have Gh:(rc=k+1)=False:=eq_false hck
  have Ic:Src w1.drew (Option.map (fun x=>x.add (k+1)) RA) ((l.drop (k+1)).map zu):=by
   obtain⟨gq,cur,rfl,WS,iY,oT,rq⟩:=zJ.store_ (k:=k) (by have:=HN.out.1;have:=HK.out.1;omega)
   have h:=rY (w:=w1) (b:=gq) (off:=0) (n:=n-(k+1)) (l:=l) (fun j hj=>by
    obtain⟨gb,go,e1,e2⟩:=zJ.src (by intro h0;rw[List.map_eq_nil_iff]at h0;subst h0;simp at hj);injection e1 with e1;injection e1 with e1 e1';subst e1;subst e1'
    exact e2 j _ (by simp[hj])) (k+1) (some ⟨gq,0+(k+1),none⟩) (fun _=>rfl) (by have:=HN.out.1;have:=HK.out.1;omega)
   rw[List.take_of_length_le (by have:=qk.out.2;omega)]at h;rw[Option.map_some,td]
   exact h
  have LC:=Hh Ic;clear hck;clear Ic IY;go_upto_region 10 with fail
  refine zr 8 (fun _=>True) (by kernel_rfl) (trivial) (fun zy=>?_)
  refine TkT 0 rfl ?_
  refine TkT 1 rfl ?_
  refine TkT 2 rfl ?_
  refine TkT 3 rfl ?_
  refine TkT 4 rfl ?_
  refine TkT 5 rfl ?_
  refine TkT 6 rfl ?_
  refine To 7 rfl fun K hK=>?_
  refine yV (.tmp 38) (.tmp 42) rfl w.heap.size _ _ rfl O9 (Option.map (fun x=>x.add (k+1)) RA) (n-(k+1)) _ (l.drop (k+1)) rfl qk.out.2.symm LC.out (by have:=qk.out;have:=HN.out;have:=HK.out.1;omega) Ur.size fun v' w5 zW zK hat5=>?_
  exact jbc
 ·clear jH;have fB:=Hh (show(l.take k).length=k∧(l.drop k).length=n-k by rw[List.length_take,List.length_drop];have:=HN.out.1;have:=HK.out.1;omega);obtain⟨gq,cur,rfl,WS,iY,oT,rq⟩:=zJ.store_ (k:=k) (by have:=HN.out.1;have:=HK.out.1;omega)
  have O0:Hid (∀ W,OwnB W w.heap.size (.slice (some ⟨gq,0,none⟩) n rc) l→Src W (some ⟨gq,0,none⟩) ((l.take k).map zu)∧Src W (some ⟨gq,k,none⟩) ((l.drop k).map zu)):=by
   intro W hW
   have hc:∀ j (hj:j<l.length),W.cell? ⟨gq,0+j,none⟩=some (zu l[j]):=fun j hj=>by
    obtain⟨gb,go,e1,e2⟩:=hW.src (by intro h0;rw[List.map_eq_nil_iff]at h0;subst h0;simp at hj);injection e1 with e1;injection e1 with e1 e1';subst e1;subst e1'
    exact e2 j _ (by simp[hj])
   have h1:=rY (w:=W) (b:=gq) (off:=0) (n:=k) (l:=l) hc 0 (some ⟨gq,0,none⟩) (fun _=>rfl) (by have:=HN.out.1;have:=HK.out.1;omega);have h2:=rY (w:=W) (b:=gq) (off:=0) (n:=n-k) (l:=l) hc k (some ⟨gq,k,none⟩) (fun _=>by rw[Nat.zero_add]) (by have:=HN.out.1;have:=HK.out.1;omega);rw[List.drop_zero]at h1;rw[List.take_of_length_le (by have:=fB.out.2;omega)]at h2
   exact⟨h1,h2⟩
  have zAr:k≤n:=by have:=HK.out.1;omega
  have zAi:(rc=k)=False:=eq_false (by have:=Mg.out.1;have:=HK.out.1;omega);have YV:OwnB w1.drew w.heap.size (.slice (some ⟨gq,0,none⟩) n rc) l:=zJ;have uv:Below w.heap.size w w1.drew:=zY.drew;clear rq iY oT zJ zY;go_upto_region 12 with fail
  refine zr 12 (fun _=>True) (by kernel_rfl) (trivial) (fun zy=>?_)
  refine TkT 0 rfl ?_
  refine TkT 1 rfl ?_
  refine TkT 2 rfl ?_
  refine TkT 4 rfl ?_
  refine TkT 5 rfl ?_
  refine TkT 8 rfl ?_
  refine TkT 9 rfl ?_
  refine TkT 10 rfl ?_
  refine Ways.two (i:=3) (j:=6) rfl rfl (by kernel_rfl) (fun K hK=>?_) (fun K hK=>?_)
  ·refine yV (.const (.slice none 0 0)) (.tmp 48) rfl _ (.slice none 0 0) [] rfl (OwnB.nil _ _) (some ⟨gq,0,none⟩) k rc (l.take k) rfl fB.out.1.symm (O0.out _ YV).1 (by have:=fB.out.1;have:=HN.out;have:=HK.out.1;simp only[List.length_nil];omega) (Nat.le_refl _) fun v' w5 zW zK hat5=>?_
   rw[List.nil_append]at zW;obtain⟨S5,VJ⟩:∃ S5,l.take k=S5:=⟨_,rfl⟩
   rw[VJ]at zW;have I6:=Hh (show S5.length=k by rw[← VJ];exact fB.out.1);clear VJ;obtain⟨zE,EJ,L8,zW,uv,YV⟩:=jgf;(try have ad:=ad.below zE)
   obtain⟨VA,vc,rfl,_⟩:=zW.form;clear zK hat5 zE;go_simp
   refine Ko hK ?_ fun zy=>?_
   ·exact trivial
   clear hK K
   refine To 6 rfl fun K hK=>?_
   go_simp
   have ad:=Qr YV #[.int .u8 bw] 5;rw[show(#[Value.int .u8 bw]:Array Value).toList=[x].map zu by simp[← HX.out]]at ad;have YV:=YV.alloc (.cells #[.int .u8 bw] 5);(try have zW:=zW.alloc (.cells #[.int .u8 bw] 5))
   have uv:=uv.alloc uv.size (.cells #[.int .u8 bw] 5)
   exact jas
  go_simp
  have ad:=Qr YV #[.int .u8 bw] 5;rw[show(#[Value.int .u8 bw]:Array Value).toList=[x].map zu by simp[← HX.out]]at ad;have YV:=YV.alloc (.cells #[.int .u8 bw] 5);(try have zW:=zW.alloc (.cells #[.int .u8 bw] 5))
  have uv:=uv.alloc uv.size (.cells #[.int .u8 bw] 5)
  refine Ko hK ?_ fun zy=>?_
  ·exact trivial
  clear hK K
  refine To 3 rfl fun K hK=>?_
  refine yV (.const (.slice none 0 0)) (.tmp 48) rfl _ (.slice none 0 0) [] rfl (OwnB.nil _ _) (some ⟨gq,0,none⟩) k rc (l.take k) rfl fB.out.1.symm (O0.out _ YV).1 (by have:=fB.out.1;have:=HN.out;have:=HK.out.1;simp only[List.length_nil];omega) (Nat.le_refl _) fun v' w5 zW zK hat5=>?_
  rw[List.nil_append]at zW;obtain⟨S5,VJ⟩:∃ S5,l.take k=S5:=⟨_,rfl⟩
  rw[VJ]at zW;have I6:=Hh (show S5.length=k by rw[← VJ];exact fB.out.1);clear VJ;obtain⟨zE,EJ,L8,zW,uv,YV⟩:=jgf;(try have ad:=ad.below zE)
  obtain⟨VA,vc,rfl,_⟩:=zW.form;clear zK hat5 zE;go_simp
  exact jas
 clear jH;have IY:=zJ.take_ (k:=k) (by have:=HN.out.1;have:=HK.out.1;omega);go_wp2_with fail
 go_ret
 exact Some_.of HH.out rfl ⟨IY,zY⟩
theorem SrcR.lit4 (w:World) (t:TypeId) {A1 A2 A3 A4:Option Addr}{n1 c1 n2 c2 n3 c3 n4 c4:Nat}{l1 l2 l3 l4:List UInt8}(e1:n1=l1.length) (e2:n2=l2.length) (e3:n3=l3.length) (e4:n4=l4.length)
  (h1:Src w A1 (l1.map zu)) (h2:Src w A2 (l2.map zu)) (h3:Src w A3 (l3.map zu)) (h4:Src w A4 (l4.map zu)) :
  SrcR (w.alloc (.cells #[.slice A1 n1 c1,.slice A2 n2 c2,.slice A3 n3 c3,.slice A4 n4 c4] t)) (some ⟨w.heap.size,0,none⟩) [l1,l2,l3,l4]:=fun _=>by
 have hB:=Blk.new w t #[.slice A1 n1 c1,.slice A2 n2 c2,.slice A3 n3 c3,.slice A4 n4 c4]
 refine⟨w.heap.size,0,rfl,fun j hj=>?_⟩
 subst e1 e2 e3 e4
 match j,hj with
 | 0,_=>exact⟨A1,c1,hB.cell 0 rfl,h1.alloc _⟩
 | 1,_=>exact⟨A2,c2,hB.cell 1 rfl,h2.alloc _⟩
 | 2,_=>exact⟨A3,c3,hB.cell 2 rfl,h3.alloc _⟩
 | 3,_=>exact⟨A4,c4,hB.cell 3 rfl,h4.alloc _⟩
abbrev br:ByteArray:=⟨#[83,105,103,110,97,116,117,114,101,49]⟩
abbrev kJ:ByteArray:=⟨#[69,110,99,114,121,112,116,48]⟩
theorem Pm {IA:Option Addr}{ni ic:Nat}{id:List UInt8}(hi:ni=id.length) {TA:Option Addr}{nt tc:Nat}{th:List UInt8}(ht:nt=th.length) {CA:Option Addr}{nc cc:Nat}{cred:List UInt8}(hc:nc=cred.length)
  {XA:Option Addr} {nx xc:Nat} {ext:List UInt8} (hx:nx=ext.length) {MA:Option Addr} {nm mc:Nat} {mac:List UInt8} (hm:nm=mac.length)
  (hb:id.length≤100000∧th.length≤100000∧cred.length≤100000∧ext.length≤100000∧mac.length≤100000) (w:World)
  (h1:Src w IA (id.map zu)) (h2:Src w TA (th.map zu)) (h3:Src w CA (cred.map zu)) (h4:Src w XA (ext.map zu)) (h5:Src w MA (mac.map zu)) :
  Calls Tryz.prog 9 #[.slice IA ni ic,.slice TA nt tc,.slice CA nc cc,.slice XA nx xc,.slice MA nm mc] w fun e w'=>∃ r,e=.returned r∧Fresh w (qY id th cred ext mac) r w':=by
 have HN:=Hh (And.intro hi (And.intro ht (And.intro hc (And.intro hx hm))));have HB:=Hh hb;have H1:=Hh h1;have H3:=Hh h3;have H4:=Hh h4;have H5:=Hh h5;have HS:=Hh (jW id th cred ext mac);have E:Hid (zV 4 [tm lM,yL id,yL ((yL th++cred)++ext),yL mac].length++[tm lM,yL id,yL ((yL th++cred)++ext),yL mac].flatten=qY id th cred ext mac):=rfl;have WT:Hid (∀ w,Calls Tryz.prog 41 #[.string br] w fun e w'=>∃ r,e=.returned r∧Fresh w (tm lM) r w'):=fun w=>e8 br (by show(10:Nat)≤_;omega) w
 have S1:=Hh (vB (c:=tc) ht (by omega) w h2)
 have HL:Hid ((yL th).length≤100009∧(yL th++cred).length≤200009∧((yL th++cred)++ext).length≤300009):=by
  have:=uX th
  simp only[Hid,List.length_append]
  omega
 clear hi ht hc hx hm hb h1 h2 h3 h4 h5;go_enter Tryz.func9,Tryz.ntmps9
 go_wp2_with fail
 refine S1.out.mono ?_
 rintro e w1 ⟨r1,rfl,rv⟩
 have zJ:=rv.own;obtain⟨A1,c1,rfl,fG⟩:=zJ.form;have zY:=rv.2;have h3:=H3.out.below zY;clear fG rv S1;go_wp2_with (at_builtin;refine zh ?_)
 refine zv rfl (.tmp 13) (.tmp 14) rfl w.heap.size _ _ rfl zJ CA _ cc cred rfl HN.out.2.2.1 h3 (by have:=HL.out;have:=HB.out;omega) zY.size fun v2 w2 ui hg2 wv=>?_
 have zD:=zY.grown hg2 zY.size (fun q hq=>(zJ.lt q hq).1);have jH:=H4.out.below zD;obtain⟨A2,c2,rfl,cd⟩:=ui.form;obtain⟨n2,cm⟩:∃ q,(yL th++cred).length=q:=⟨_,rfl⟩
 rw[cm]at ui⊢;clear cd wv zJ hg2 zY h3 cm;go_wp2_with (at_builtin;refine zh ?_)
 refine zv rfl (.tmp 15) (.tmp 16) rfl w.heap.size _ _ rfl ui XA _ xc ext rfl HN.out.2.2.2.1 jH (by have:=HL.out;have:=HB.out;omega) zD.size fun v3 w3 tR sp wv=>?_
 have yR:=zD.grown sp zD.size (fun q hq=>(ui.lt q hq).1);obtain⟨A3,c3,rfl,WV⟩:=tR.form;have my:=tR.src;clear WV wv ui sp zD jH;obtain⟨X,hX⟩:∃ X,(yL th++cred)++ext=X:=⟨_,rfl⟩
 rw[hX]at E HL tR my⊢;obtain⟨n3,aq⟩:∃ q,X.length=q:=⟨_,rfl⟩
 rw[aq];have PB:=Hh aq;clear hX aq tR;go_wp2_with fail
 refine(WT.out _).mono ?_
 rintro e w4 ⟨r4,rfl,rf⟩
 obtain⟨A4,c4,rfl,Dz⟩:=rf.own.form;clear Dz;replace my:=my.below rf.2;have jH:=rf.own.src;have xE:=yR.trans (rf.2.mono yR.size);obtain⟨n4,ik⟩:∃ q,(tm lM).length=q:=⟨_,rfl⟩
 rw[ik];have Ex:=Hh ik;clear ik rf yR;go_wp2_with fail
 refine(vB (c:=ic) HN.out.1 (by have:=HB.out;omega) _ (H1.out.below xE)).mono ?_
 rintro e w5 ⟨r5,rfl,xX⟩
 obtain⟨A5,c5,rfl,E6⟩:=xX.own.form;clear E6;replace my:=my.below xX.2;replace jH:=jH.below xX.2;have au:=xX.own.src;have zE:=jhI;obtain⟨n5,VR⟩:∃ q,(yL id).length=q:=⟨_,rfl⟩
 rw[VR];have HN5:=Hh VR;clear VR xX xE;go_wp2_with fail
 refine(vB (c:=c3) PB.out.symm (by have:=HL.out;omega) _ my).mono ?_
 rintro e w6 ⟨r6,rfl,vF⟩
 obtain⟨A6,c6,rfl,E7⟩:=vF.own.form;clear E7;replace my:=my.below vF.2;replace jH:=jH.below vF.2;replace au:=au.below vF.2;have cq:=vF.own.src;have wS:=zE.trans (vF.2.mono zE.size);obtain⟨n6,uS⟩:∃ q,(yL X).length=q:=⟨_,rfl⟩
 rw[uS];have HN6:=Hh uS;clear uS vF zE;go_wp2_with fail
 refine(vB (c:=mc) HN.out.2.2.2.2 (by have:=HB.out;omega) _ (H5.out.below wS)).mono ?_
 rintro e w7 ⟨r7,rfl,mw⟩
 obtain⟨A7,c7,rfl,E8⟩:=mw.own.form;clear E8;replace my:=my.below mw.2;replace jH:=jH.below mw.2;replace au:=au.below mw.2;replace cq:=cq.below mw.2;have J1:=mw.own.src;have uI:=wS.trans (mw.2.mono wS.size);obtain⟨n7,kY⟩:∃ q,(yL mac).length=q:=⟨_,rfl⟩
 rw[kY];have HN7:=Hh kY;clear kY mw wS;have hl:=SrcR.lit4 (c1:=c4) (c2:=c5) (c3:=c6) (c4:=c7) w7 22 Ex.out.symm HN5.out.symm HN6.out.symm HN7.out.symm jH au cq J1;have vV:=uI.alloc uI.size (.cells #[.slice A4 n4 c4,.slice A5 n5 c5,.slice A6 n6 c6,.slice A7 n7 c7] 22);obtain⟨P,hP⟩:∃ P,w7.heap.size=P:=⟨_,rfl⟩
 rw[hP]at hl;obtain⟨wl,cu⟩:∃ wl,w7.alloc (.cells #[.slice A4 n4 c4,.slice A5 n5 c5,.slice A6 n6 c6,.slice A7 n7 c7] 22)=wl:=⟨_,rfl⟩
 rw[cu]at hl vV;have HW:=Hh (And.intro hP cu);have JN:=Hh (lz (n:=4) (c:=4) rfl (by simp) (by have h:=congrArg List.length E.out;rw[List.length_append]at h;have:=HS.out;have:=HB.out;omega) wl hl);clear hP cu hl my jH au cq J1 uI;exact jeB
theorem MO {TA:Option Addr}{nt tc:Nat}{th:List UInt8}(ht:nt=th.length) (hb:th.length≤100000) (w:World) (h2:Src w TA (th.map zu)) :
  Calls Tryz.prog 48 #[.slice TA nt tc] w fun e w'=>∃ r,e=.returned r∧Fresh w (vL th) r w':=by
 have HN:=Hh (And.intro ht hb);have H2:=Hh h2;have HS:=Hh (ZN th);have E:Hid (zV 4 [tm lJ,yL [],yL th].length++[tm lJ,yL [],yL th].flatten=vL th):=rfl;have WT:Hid (∀ w,Calls Tryz.prog 41 #[.string kJ] w fun e w'=>∃ r,e=.returned r∧Fresh w (tm lJ) r w'):=fun w=>e8 kJ (by show(8:Nat)≤_;omega) w
 clear ht hb h2;go_enter Tryz.func48,Tryz.ntmps48
 go_wp2_with fail
 refine(WT.out _).mono ?_
 rintro e w1 ⟨r1,rfl,rv⟩
 obtain⟨A1,c1,rfl,fG⟩:=rv.own.form;clear fG;have xZ:=rv.own.src;have zY:=rv.2;obtain⟨n1,qf⟩:∃ q,(tm lJ).length=q:=⟨_,rfl⟩
 rw[qf];have YF:=Hh qf;clear qf rv;go_wp2_with fail
 refine(vB (A:=none) (n:=0) (c:=0) (l:=[]) rfl (by simp) _ (Src.nil _ _)).mono ?_
 rintro e w2 ⟨r2,rfl,sj⟩
 obtain⟨A2,c2,rfl,cd⟩:=sj.own.form;clear cd;replace xZ:=xZ.below sj.2;have oX:=sj.own.src;have zD:=jgN;obtain⟨n2,cm⟩:∃ q,(yL []).length=q:=⟨_,rfl⟩
 rw[cm];have oP:=Hh cm;clear cm sj zY;go_wp2_with fail
 refine(vB (c:=tc) HN.out.1 (by have:=HN.out;omega) _ (H2.out.below zD)).mono ?_
 rintro e w3 ⟨r3,rfl,tr⟩
 obtain⟨A3,c3,rfl,WV⟩:=tr.own.form;clear WV;replace xZ:=xZ.below tr.2;replace oX:=oX.below tr.2;have my:=tr.own.src;have yR:=jhJ;obtain⟨n3,aq⟩:∃ q,(yL th).length=q:=⟨_,rfl⟩
 rw[aq];have PB:=Hh aq;clear aq tr zD;have hl:=jgi;have vV:=yR.alloc yR.size (.cells #[.slice A1 n1 c1,.slice A2 n2 c2,.slice A3 n3 c3] 22);obtain⟨P,hP⟩:∃ P,w3.heap.size=P:=⟨_,rfl⟩
 rw[hP]at hl;obtain⟨wl,cu⟩:∃ wl,w3.alloc (.cells #[.slice A1 n1 c1,.slice A2 n2 c2,.slice A3 n3 c3] 22)=wl:=⟨_,rfl⟩
 rw[cu]at hl vV;have HW:=Hh (And.intro hP cu);have JN:=Hh (lz (n:=3) (c:=3) rfl (by simp) (by have h:=congrArg List.length E.out;rw[List.length_append]at h;have:=HS.out;have:=HN.out;omega) wl hl);clear hP cu hl xZ oX my yR;exact jeB
theorem NF {t:ByteArray}(hv:Lib.validD t.data.toList=true):xB (.mk 3 0 t.data.toList [])=tm t.data.toList:=by
 rw[Ve (ZY 3 (.inr rfl) t.data.toList 0 (fun _=>hv)) (.inr rfl)];rfl
theorem nk {H:Snap}(t:ByteArray) (ht:t.size≤1000) (hv:Lib.validD t.data.toList=true) {A:Option Addr}{n c:Nat}{ls:List (List UInt8)}(hn:n=ls.length) (hl:ls.length≤10) (hx:∀ x∈ls,x.length≤1099511) (w:World) (hH:Holds w H) (hs:SrcR w A ls) :
  Calls Tryz.prog 42 #[.string t,.slice A n c] w fun e w'=>∃ r,e=.returned r∧Fresh w (pK t.data.toList ls) r w':=by
 have fC:Hid (t.data.toList.length≤1000):=ht;have HN:=Hh (And.intro hn (And.intro hl hx));have K0:IntKind.i64.wrap (1+(n:Int))=1+(n:Int):=IntWalk.i64_in _ (by omega);have K1:IntKind.u64.wrap (1+(n:Int))=1+(n:Int):=by rw[IntKind.wrap_u64];omega
 have HD:=Hh (te 4 (1+(n:Int)) w (by omega) (by omega) (by omega) (by omega));have E0:Hid (zV (4:Int).toNat (1+(n:Int)).toNat=zV 4 (1+ls.length)):=by rw[Hid,← hn,show(1+(n:Int)).toNat=1+n by omega];rfl
 have RT:=Hh (fun(w:World) (hW:Holds w H)=>QM t (by omega) w hW);have EN:=Hh (NF hv);have GD:=Hh (ZY 3 (.inr rfl) t.data.toList 0 (fun _=>hv));have PL:=Hh (fun k=>N4 t.data.toList ls k fC.out hl hx);have PZ:=Hh (T6 t.data.toList ls);have HH:=Hh hH;clear hn hl hx ht hv hH;go_enter Tryz.func42,Tryz.ntmps42
 go_wp2_with fail
 refine HD.out.mono ?_
 rintro e w1 ⟨r1,rfl,rv⟩
 rw[E0.out]at rv;have zJ:=rv.own;obtain⟨A1,c1,rfl,fG⟩:=zJ.form;have zY:=rv.2;obtain⟨n1,qf⟩:∃ q,(zV 4 (1+ls.length)).length=q:=⟨_,rfl⟩
 have YF:=Hh qf;have Un:OwnB w1 w.heap.size (.slice A1 n1 c1) (zV 4 (1+ls.length)):=by rw[← qf];exact zJ
 rw[qf];have Ob:=HH.out.below zY (Nat.le_refl _);clear fG rv HD zJ qf;go_wp2_with fail
 refine(RT.out w1 Ob).mono ?_
 rintro e w2 ⟨v2,rfl,ja,jb,jc,jd,Hz,rfl,kU,WU⟩
 have ui:=Un.below kU.below;have zD:=zY.trans (kU.below.mono zY.size);obtain⟨ip,B0⟩:∃ ip,Itm.mk 3 0 t.data.toList []=ip:=⟨_,rfl⟩
 rw[B0]at WU EN GD⊢;have RW:=Hh (Vq ip Hz _ _ ja _ jb jc _ jd w2 0 GD.out (by rw[EN.out];have:=pm t.data.toList;have:=fC.out;omega) WU.arg kU.holds);rw[EN.out]at RW;clear kU WU B0 Un zY Ob RT;go_wp2_with fail
 refine RW.out.mono ?_
 rintro e w3 ⟨r3,rfl,tr⟩
 have tR:=ui.below tr.2;have yR:=jhJ;obtain⟨A3,c3,rfl,WV⟩:=tr.own.form;have my:=tr.own.src;clear WV tr ui zD RW;go_wp2_with (at_builtin;refine zh ?_)
 refine zv rfl (.tmp 13) (.tmp 16) rfl w.heap.size _ _ rfl tR A3 _ c3 (tm t.data.toList) rfl rfl my (by have:=(yZ 4 (1+ls.length)).2;have:=pm t.data.toList;have:=fC.out;omega) yR.size fun v4 w4 uj hg4 wv=>?_
 have xE:=yR.grown hg4 yR.size (fun q hq=>(tR.lt q hq).1);rw[← PZ.out]at uj;obtain⟨A4,c4,rfl,Dz⟩:=uj.form;clear Dz wv tR hg4 yR my;obtain⟨n4,ik⟩:∃ q,(zV 4 (1+ls.length)++tm t.data.toList).length=q:=⟨_,rfl⟩
 have Ex:Hid ((kL t.data.toList ls 0).length=n4):=by rw[Hid,PZ.out];exact ik
 first | rw[Ex.out]at uj | skip
 try rw[Ex.out]
 try rw[ik]
 clear ik;go_wp2_with fail
 go_loopw [5,20] (fun vo vk wr=>∃ (k:Nat) (VA:Option Addr) (vc vn:Nat),k≤ls.length∧vk=.int .i64 (k:Int)∧vo=.slice VA vn vc∧OwnB wr w.heap.size (.slice VA vn vc) (kL t.data.toList ls k)∧Below w.heap.size w wr) (fun vo vk _=>ls.length-(intOf vk).toNat)
 case atStart=>exact⟨0,_,_,_,Nat.zero_le _,rfl,rfl,uj,xE⟩
 case round =>
 clear uj xE;obtain⟨k,VA,vc,vn,uh,rfl,rfl,xe,xW⟩:=hrel
 by_cases z9:k<ls.length
 ·obtain⟨ib,io,rfl,hr⟩:=hs (by omega);have iD:(k:Int)<(n:Int):=by have:=HN.out.1;omega
  obtain⟨Aj,cj,c0,ah⟩:=hr k z9;have q0:=(xW.cell (World.block_lt_of_cell? w _ c0)).trans c0;have jq:=ah.below xW;have fQ:(k:Int)+1≤9223372036854775807:=by have:=HN.out.2.1;omega
  have HX:Hid (ls[k].length≤1099511):=HN.out.2.2 _ (List.getElem_mem z9);have HP:=Hh (T5 t.data.toList ls z9);obtain⟨x,BV⟩:∃ x,ls[k]=x:=⟨_,rfl⟩
  rw[BV]at q0 jq HX HP;have ST:=Hh (iV (c:=cj) (n:=x.length) rfl (by have:=HX.out;omega) wr jq);have HK:=Hh z9;clear hr c0 ah BV jq z9;go_wp2_with fail
  refine ST.out.mono ?_
  rintro e w6 ⟨r6,rfl,vF⟩
  have wH:=xe.below vF.2;have wS:=xW.trans (vF.2.mono xW.size);obtain⟨A6,c6,rfl,E7⟩:=vF.own.form;have cq:=vF.own.src
  have HVN:Hid (vn=(kL t.data.toList ls k).length):=by
   obtain⟨_,_,he,_⟩:=xe.form
   cases he
   rfl
  clear E7 vF xe xW ST q0;go_wp2_with (at_builtin;refine zh ?_)
  refine zv rfl (.tmp 24) (.tmp 26) rfl w.heap.size _ _ rfl wH A6 _ c6 (yL x) rfl rfl cq (by have:=PL.out k;have:=uX x;have:=HX.out;omega) wS.size fun v7 w7 xj xQ hat7=>?_
  have uI:=wS.grown xQ wS.size (fun q hq=>(wH.lt q hq).1);rw[← HP.out]at xj;obtain⟨VA',vc',rfl,E8⟩:=xj.form;clear wH xQ hat7 wS cq E8;go_wp2_with fail
  go_roundw
  case rel=>exact⟨k+1,_,_,_,HK.out,by go_num,rfl,xj,uI⟩
  case measure=>have:=HK.out;simp[intOf];omega
 have kX:k=ls.length:=by omega
 subst kX;have iD:¬ ((ls.length:Int)<(n:Int)):=by have:=HN.out.1;omega
 have HZ:=Hh (PX t.data.toList ls);rw[HZ.out]at xe;go_wp2_with fail
 go_ret
 exact⟨_,rfl,xe,xW⟩
theorem bI {H:Snap}{IA:Option Addr}{ni ic:Nat}{id:List UInt8}(hi:ni=id.length) {TA:Option Addr}{nt tc:Nat}{th:List UInt8}(ht:nt=th.length) {CA:Option Addr}{nc cc:Nat}{cred:List UInt8}(hc:nc=cred.length)
  {XA:Option Addr} {nx xc:Nat} {ext:List UInt8} (hx:nx=ext.length) {MA:Option Addr} {nm mc:Nat} {mac:List UInt8} (hm:nm=mac.length)
  (hb:id.length≤100000∧th.length≤100000∧cred.length≤100000∧ext.length≤100000∧mac.length≤100000) (w:World) (hH:Holds w H)
  (h1:Src w IA (id.map zu)) (h2:Src w TA (th.map zu)) (h3:Src w CA (cred.map zu)) (h4:Src w XA (ext.map zu)) (h5:Src w MA (mac.map zu)) :
  Calls Tryz.prog 10 #[.slice IA ni ic,.slice TA nt tc,.slice CA nc cc,.slice XA nx xc,.slice MA nm mc] w fun e w'=>∃ r,e=.returned r∧Fresh w (qY id th cred ext mac) r w':=by
 have HN:=Hh (And.intro hi (And.intro ht (And.intro hc (And.intro hx hm))));have HB:=Hh hb;have HH:=Hh hH;have H1:=Hh h1;have H5:=Hh h5;have HSG:=Hh (bO id th cred ext mac);have S1:=Hh (iV (c:=tc) ht (by omega) w h2)
 have HL:Hid ((yL th).length≤100009∧[yL th,cred,ext].flatten.length≤300009):=by
  have:=uX th
  simp only[Hid,List.length_append,List.flatten_cons,List.flatten_nil,List.length_nil]
  omega
 clear hi ht hc hx hm hb h1 h2 h5 hH;go_enter Tryz.func10,Tryz.ntmps10
 go_wp2_with fail
 refine S1.out.mono ?_
 rintro e w1 ⟨r1,rfl,rv⟩
 obtain⟨A1,c1,rfl,fG⟩:=rv.own.form;have zY:=rv.2;replace h3:=h3.below rv.2;replace h4:=h4.below rv.2;have xZ:=rv.own.src;obtain⟨n1,qf⟩:∃ q,(yL th).length=q:=⟨_,rfl⟩
 rw[qf];have YF:=Hh qf;clear fG rv S1 qf;have hl:=SrcR.lit3 (c1:=c1) (c2:=cc) (c3:=xc) w1 22 YF.out.symm HN.out.2.2.1 HN.out.2.2.2.1 xZ h3 h4;have vV:=zY.alloc zY.size (.cells #[.slice A1 n1 c1,.slice CA nc cc,.slice XA nx xc] 22);obtain⟨P,hP⟩:∃ P,w1.heap.size=P:=⟨_,rfl⟩
 rw[hP]at hl;obtain⟨wl,cu⟩:∃ wl,w1.alloc (.cells #[.slice A1 n1 c1,.slice CA nc cc,.slice XA nx xc] 22)=wl:=⟨_,rfl⟩
 rw[cu]at hl vV;have HW:=Hh (And.intro hP cu);have JN:=Hh (Zu (n:=3) (c:=3) rfl (by simp) (by have:=HL.out;omega) wl hl);clear hP cu hl xZ h3 h4 zY;go_wp2_with fail
 rw[HW.out.1,HW.out.2]
 refine JN.out.mono ?_
 rintro e w2 ⟨r2,rfl,sj⟩
 obtain⟨A2,c2,rfl,cd⟩:=sj.own.form;have zD:=vV.trans (sj.2.mono vV.size);have oX:=sj.own.src;obtain⟨X,hX⟩:∃ X,[yL th,cred,ext].flatten=X:=⟨_,rfl⟩
 rw[hX]at HSG HL oX⊢;obtain⟨n2,cm⟩:∃ q,X.length=q:=⟨_,rfl⟩
 rw[cm];have oP:=Hh cm;clear cd sj JN HW hX cm vV;have hl:=SrcR.lit3 (c1:=ic) (c2:=c2) (c3:=mc) w2 22 HN.out.1 oP.out.symm HN.out.2.2.2.2 (H1.out.below zD) oX (H5.out.below zD);have vV:=zD.alloc zD.size (.cells #[.slice IA ni ic,.slice A2 n2 c2,.slice MA nm mc] 22);obtain⟨P,hP⟩:∃ P,w2.heap.size=P:=⟨_,rfl⟩
 rw[hP]at hl;obtain⟨wl,cu⟩:∃ wl,w2.alloc (.cells #[.slice IA ni ic,.slice A2 n2 c2,.slice MA nm mc] 22)=wl:=⟨_,rfl⟩
 rw[cu]at hl vV;have HW:=Hh (And.intro hP cu)
 have JN:Hid (Calls Tryz.prog 42 #[.string br,.slice (some ⟨P,0,none⟩) 3 3] wl fun e w'=>∃ r,e=.returned r∧Fresh wl (pK lM [id,X,mac]) r w') :=
  nk br (by show(10:Nat)≤_;omega) (by decide +kernel) (n:=3) (c:=3) rfl (by simp) (fun x hx=>by
   simp only[List.mem_cons,List.not_mem_nil,or_false]at hx
   have h1:=HL.out;have h2:=HB.out
   rcases hx with rfl | rfl | rfl <;> omega) wl (HH.out.below vV (Nat.le_refl _)) hl
 rw[← HSG.out]at JN;clear hP cu hl oX zD;go_wp2_with fail
 rw[HW.out.1,HW.out.2]
 refine JN.out.mono ?_
 rintro e w9 ⟨r9,rfl,mh⟩
 exact jbm
theorem XM {A:Option Addr}{n c:Nat}{ls:List (List UInt8)}(hn:n=ls.length) (hl:ls.length≤1099511627000) (ht:ls.flatten.length≤1099511627000) (w:World) (hs:SrcR w A ls) :
  Calls Tryz.prog 163 #[.slice A n c] w fun e w'=>∃ r,e=.returned r∧Fresh w (ls.flatten) r w':=by
 have HN:=jgK;clear hn hl ht;go_enter Tryz.func163,Tryz.ntmps163
 exact jaa
def Apart (v u:Value):Prop:=∀ q,v.ownBlock=some q→u.ownBlock=some q→False
theorem Apart.ne {v u:Value}(h:Apart v u):u.ownBlock=none∨u.ownBlock≠v.ownBlock:=by
 cases hu:u.ownBlock with
 | none=>exact .inl rfl
 | some q=>exact .inr (fun e=>h q e.symm hu)
theorem Apart.step {v u v':Value}{w:World}{base:Nat}{l:List UInt8}(h:Apart v u) (hO:OwnB w base u l) (lZ:At0 w v.ownBlock v'.ownBlock):Apart v' u:=by
 intro q hq hu
 rcases lZ with e | ⟨g,e,hg⟩
 ·exact h q (e ▸ hq) hu
 rw[hq]at e;injection e with e
 subst e;have:=(hO.lt q hu).2
 omega
theorem Apart.symm {v u:Value}(h:Apart v u):Apart u v:=fun q h1 h2=>h q h2 h1
theorem g9 {l:List UInt8}{i:Nat}(h:i<l.length) (m:Int):(l.take i).map (sr m)++[sr m l[i]]=(l.take (i+1)).map (sr m):=by
 rw[List.take_succ_eq_append_getElem h,List.map_append];rfl
theorem XK {A:Option Addr}{c:Nat}{key:List UInt8}{n:Nat}(hn:n=key.length) (wP:key.length≤1099511627) {B:Option Addr}{d:Nat}{b:List UInt8}{k:Nat}(hk:k=b.length) (hmb:b.length≤1099511000) (w:World) (hS:Src w A (key.map zu)) (hT:Src w B (b.map zu)) :
  Calls Tryz.prog 162 #[.slice A n c,.slice B k d] w fun e w'=>∃ r,e=.returned r∧Fresh w (lL key b) r w':=by
 have HN:=Hh (And.intro hn (And.intro wP (And.intro hk hmb)));have HS:=Hh hS;have HT:=Hh hT;clear hn wP hk hmb hS hT;go_enter Tryz.func162,Tryz.ntmps162
 go_wp2_with (at_builtin;refine zh ?_)
 refine zv rfl (.const (.slice none 0 0)) (.tmp 10) rfl w.heap.size (.slice none 0 0) [] rfl (OwnB.nil _ _) A n c key rfl HN.out.1 HS.out (by have:=HN.out.2.1;simp;omega) (Nat.le_refl _) fun v1 w1 zJ hg1 hat1=>?_
 rw[List.nil_append]at zJ;have zY:=yW (by simpa [Value.ownBlock] using hg1);obtain⟨A1,c1,rfl,_⟩:=zJ.form;rw[← HN.out.1]at zJ⊢;have SM:=Hh (lp (c:=c1) HN.out.1 HN.out.2.1 w1 zJ.src);clear hg1 hat1;go_upto_if 14 with fail
 go_cut [5] (fun s5 wx=>∃ (A2:Option Addr) (n2 c2:Nat),s5=.slice A2 n2 c2∧Hid (n2=(tB key).length)∧OwnB wx w.heap.size (.slice A2 n2 c2) (tB key)∧Below w.heap.size w wx)
 case first =>
  by_cases Mh:n≤64
  ·have e:tB key=key:=by rw[tB,if_neg (by have:=HN.out.1;omega)]
   have Kr:¬ ((64:Int)<(n:Int)):=by omega
   have eC:=Hh e;clear e;go_wp2_with fail
   go_meet
   exact⟨A1,n,c1,rfl,by rw[Hid,eC.out];exact HN.out.1,by rw[eC.out];exact zJ,zY⟩
  have e:tB key=qP key:=by rw[tB,if_pos (by have:=HN.out.1;omega)]
  have Kr:(64:Int)<(n:Int):=by omega
  have eC:=Hh e;clear e;go_wp2_with fail
  refine SM.out.mono ?_
  rintro e w2 ⟨r2,rfl,sj⟩
  obtain⟨A2,c2,rfl,_⟩:=sj.own.form;have ho:=sj.own.more (base':=w.heap.size) zY.size;have zD:=jgN;obtain⟨n1,qf⟩:∃ n1,(qP key).length=n1:=⟨_,rfl⟩
  rw[qf]at ho⊢;have YF:=Hh qf;clear qf sj;go_wp2_with fail
  go_meet
  exact⟨A2,n1,c2,rfl,by rw[Hid,eC.out];exact YF.out.symm,by rw[eC.out];exact ho,zD⟩
 case rest =>
 clear SM zJ zY;obtain⟨A2,n2,c2,rfl,oP,ui,zD⟩:=hcut;have jj:=Hh (k7 key);have Kj:Hid (uF 54 key=(sE (tB key)).map (sr 54)):=rfl;have Kk:Hid (uF 92 key=(sE (tB key)).map (sr 92)):=rfl;obtain⟨K,hK⟩:∃ K,tB key=K:=⟨_,rfl⟩
 rw[hK]at oP jj ui Kj Kk;clear hK;go_wp2_with fail
 go_loopw [5] (fun v5 wr=>∃ (z nz cz:Nat) (AZ:Option Addr),v5=.slice AZ nz cz∧Hid (nz=K.length+z∧z≤64-K.length)∧OwnB wr w.heap.size (.slice AZ nz cz) (K++List.replicate z 0)∧Below w.heap.size w wr) (fun v5 _=>64-sK v5)
 case atStart=>exact⟨0,n2,c2,A2,rfl,⟨oP.out,Nat.zero_le _⟩,by simpa using ui,zD⟩
 case round =>
 clear ui zD;obtain⟨z,nz,cz,AZ,rfl,HZ,hO,hb⟩:=hrel
 by_cases z9:(nz:Int)<64
 ·obtain⟨zJ,zY⟩:=jf3;have HLZ:Hid ((K++List.replicate z (0:UInt8)).length=nz):=by rw[Hid,List.length_append,List.length_replicate,HZ.out.1]
  go_wp2_with (at_builtin;refine zh ?_)
  refine zv rfl (.tmp 20) (.tmp 21) rfl w.heap.size _ _ rfl zJ _ 1 _ [0] rfl rfl (Src.new _ _ _ _ rfl _ rfl) (by rw[HLZ.out];simp only[List.length_singleton];omega) zY.size fun v' w5 zW zK hat5=>?_
  have zE:=zp zY zK (fun q hq=>(hO.lt q hq).1);rw[List.append_assoc,← List.replicate_succ']at zW;obtain⟨A5,c5,rfl,_⟩:=zW.form;have mr:Hid ((K++List.replicate (z+1) (0:UInt8)).length=nz+1):=by rw[Hid,List.length_append,List.length_replicate];have:=HZ.out.1;omega
  rw[mr.out]at zW⊢;clear hO hb zJ zY zK hat5;go_wp2_with fail
  go_roundw
  case rel=>exact⟨z+1,nz+1,c5,A5,rfl,⟨by have:=HZ.out.1;omega,by have:=HZ.out;have:=jj.out;omega⟩,zW,zE⟩
  case measure=>simp only[sK];omega
 have hz:z=64-K.length:=by have:=HZ.out;have:=jj.out;omega
 have Iw:nz=64:=by have:=HZ.out;have:=jj.out;omega
 rw[hz]at hO;have aS:=Hh (jz jj.out);obtain⟨F,hF⟩:∃ F,sE K=F:=⟨_,rfl⟩
 have Sj:OwnB wr w.heap.size (.slice AZ nz cz) F:=by rw[← hF];exact hO
 rw[hF]at Kj Kk aS;subst Iw;obtain⟨W0,Ie⟩:∃ W,W=wr:=⟨_,rfl⟩
 subst Ie;have HSF:=Hh Sj.src;have ai:=Hh hb;have xW:=Below.refl W0.heap.size W0;clear hO Sj hF hz hb z9;go_wp2_with fail
 go_loopw [6,7,25] (fun v6 v7 v25 wx=>∃ (j ni ci no co:Nat) (AI AO:Option Addr),v6=.slice AI ni ci∧v7=.slice AO no co∧v25=.int .i64 (j:Int)∧Hid (j≤64∧ni=j∧no=j)∧OwnB wx W0.heap.size (.slice AI ni ci) ((F.take j).map (sr 54))∧OwnB wx W0.heap.size (.slice AO no co) ((F.take j).map (sr 92))∧Apart (.slice AI ni ci) (.slice AO no co)∧Below W0.heap.size W0 wx) (fun _ _ v25 _=>(64-intOf v25).toNat)
 case atStart=>exact⟨0,0,0,0,0,none,none,rfl,rfl,rfl,⟨by omega,rfl,rfl⟩,OwnB.nil _ _,OwnB.nil _ _,(fun q hq=>by cases hq),xW⟩
 case round =>
 clear xW;obtain⟨j,ni,ci,no,co,AI,AO,rfl,rfl,rfl,HJ,hI,hO,Ig,hb⟩:=hrel
 by_cases z9:(j:Int)<64
 ·have JW:j<F.length:=by rw[aS.out];omega
  obtain⟨fb,fo,rfl,uw⟩:=(HSF.out.below hb) (by intro h;have:=congrArg List.length h;rw[List.length_map]at this;simp at this;rw[this]at JW;simp at JW)
  have cl:wr.cell? ⟨fb,fo+j,none⟩=some (zu F[j]):=uw j _ (by rw[List.getElem?_map,List.getElem?_eq_getElem JW];rfl);have Kp:=Hh (gY 54 F[j]);have Kq:=Hh (gY 92 F[j]);have GO:=Hh (g9 JW 54);have GP:=Hh (g9 JW 92);obtain⟨u,hu⟩:∃ u,F[j]=u:=⟨_,rfl⟩
  rw[hu]at cl Kp Kq GO GP
  have Ev:Hid (((F.take j).map (sr 54)).length=j∧((F.take j).map (sr 92)).length=j∧((F.take (j+1)).map (sr 54)).length=j+1∧((F.take (j+1)).map (sr 92)).length=j+1):=by
   rw[Hid]
   simp only[List.length_map,List.length_take,aS.out]
   omega
  have DZ:=hI.alloc (.cells #[zu (sr 54 u)] 5);have zJ:=hO.alloc (.cells #[zu (sr 54 u)] 5);have zY:=hb.alloc hb.size (.cells #[zu (sr 54 u)] 5);rw[Kp.out]at DZ zJ zY;clear hu uw JW;go_wp2_with (at_builtin;refine zh ?_)
  refine zv rfl (.tmp 29) (.tmp 32) rfl W0.heap.size (.slice AI ni ci) _ rfl DZ _ 1 _ [sr 54 u] rfl rfl (Src.new _ _ _ _ rfl _ (by simp only[List.map_cons,List.map_nil];rw[Kp.out])) (by rw[Ev.out.1];simp only[List.length_singleton];omega) zY.size fun vi w5 hI5 zK hat5=>?_
  have zE:=zp zY zK (fun q hq=>(hI.lt q hq).1);have zW:=zJ.kept zK Ig.ne;have OD:=Ig.step zJ hat5;rw[GO.out]at hI5;obtain⟨A5,c5,rfl,_⟩:=hI5.form;rw[Ev.out.2.2.1]at hI5 OD⊢;have FW:=hI5.alloc (.cells #[zu (sr 92 u)] 5);have wH:=zW.alloc (.cells #[zu (sr 92 u)] 5);have wS:=zE.alloc zE.size (.cells #[zu (sr 92 u)] 5);rw[Kq.out]at FW wH wS;clear hI hO DZ zJ zY zK hat5 Ig hb cl;go_wp2_with (at_builtin;refine zh ?_)
  refine zv rfl (.tmp 34) (.tmp 37) rfl W0.heap.size (.slice AO no co) _ rfl wH _ 1 _ [sr 92 u] rfl rfl (Src.new _ _ _ _ rfl _ (by simp only[List.map_cons,List.map_nil];rw[Kq.out])) (by rw[Ev.out.2.1];simp only[List.length_singleton];omega) wS.size fun vo w7 xj xQ hat7=>?_
  have uI:=zp wS xQ (fun q hq=>(zW.lt q hq).1);have hI7:=FW.kept xQ OD.symm.ne;have Ge:=(OD.symm.step FW hat7).symm;rw[GP.out]at xj;obtain⟨A7,c7,rfl,_⟩:=xj.form;rw[Ev.out.2.2.2]at xj Ge⊢;clear hI5 zW FW wH zE wS xQ hat7 OD;go_wp2_with fail
  go_roundw
  case rel=>exact⟨j+1,j+1,c5,j+1,c7,A5,A7,rfl,rfl,by go_num,⟨by omega,rfl,rfl⟩,hI7,xj,Ge,uI⟩
  case measure=>simp[intOf];omega
 have CQ:j=64:=by have:=HJ.out.1;omega
 have MB:ni=64:=by have:=HJ.out;omega
 have Ov:no=64:=by have:=HJ.out;omega
 subst CQ MB Ov;rw[List.take_of_length_le (by rw[aS.out];exact Nat.le_refl _),← Kj.out]at hI;rw[List.take_of_length_le (by rw[aS.out];exact Nat.le_refl _),← Kk.out]at hO;have oL:=ai.out.trans (hb.mono ai.out.size);have Ew:Hid ((uF 54 key).length+b.length≤1099511627):=by rw[Hid,vX];have:=HN.out.2.2.2;omega
 rw[show((64:Nat):Int)=64 from rfl]at z9⊢;go_wp2_with (at_builtin;refine zh ?_)
 refine zv rfl (.tmp 41) (.tmp 42) rfl W0.heap.size (.slice AI 64 ci) _ rfl hI B k d b rfl HN.out.2.2.1 (HT.out.below oL) (by have:=Ew.out;omega) hb.size fun vi w5 hI5 zK hat5=>?_
 have zE:=zp hb zK (fun q hq=>(hI.lt q hq).1);have zW:=hO.kept zK Ig.ne;have OT:Hid (qP (uF 92 key++qP (uF 54 key++b))=lL key b):=rfl;rw[← List.length_append]at Ew;obtain⟨I,AP⟩:∃ I,uF 54 key++b=I:=⟨_,rfl⟩
 rw[AP]at hI5 OT Ew;obtain⟨A5,c5,rfl,_⟩:=hI5.form;obtain⟨m5,EM⟩:∃ m,I.length=m:=⟨_,rfl⟩
 rw[EM]at hI5⊢;have SM:=Hh (lp (c:=c5) EM.symm Ew.out w5 hI5.src);clear hI hO Ig hb zK hat5 AP hI5 EM;go_wp2_with fail
 refine SM.out.mono ?_
 rintro e w6 ⟨r6,rfl,vF⟩
 obtain⟨A6,c6,rfl,_⟩:=vF.own.form;rw[tf];have wH:=zW.below vF.2;have wS:=zE.trans (vF.2.mono zE.size);have cq:=vF.own.src;clear zW zE vF SM;go_wp2_with (at_builtin;refine zh ?_)
 refine zv rfl (.tmp 40) (.tmp 44) rfl W0.heap.size (.slice AO 64 co) _ rfl wH A6 32 c6 (qP I) rfl (tf _).symm cq (by rw[vX,tf];omega) wS.size fun vo w7 xj xQ hat7=>?_
 have uI:=zp wS xQ (fun q hq=>(wH.lt q hq).1);have ak:Hid ((uF 92 key++qP I).length=96):=by rw[Hid,List.length_append,vX,tf]
 obtain⟨O,Af⟩:∃ O,uF 92 key++qP I=O:=⟨_,rfl⟩
 rw[Af]at xj ak OT;obtain⟨A7,c7,rfl,_⟩:=xj.form;rw[ak.out]at xj⊢;have SM:=Hh (lp (c:=c7) (n:=96) ak.out.symm (by rw[ak.out];omega) w7 xj.src);have rM:=ai.out.trans (uI.mono ai.out.size);clear wH wS cq xQ hat7 Af xj uI oL;go_wp2_with fail
 refine SM.out.mono ?_
 rintro e w8 ⟨r8,rfl,M6⟩
 have ho:=M6.own.more (base':=w.heap.size) rM.size;have uk:=rM.trans (M6.2.mono rM.size);clear M6 rM SM;go_wp2_with fail
 go_ret
 exact⟨_,rfl,by rw[← OT.out];exact⟨ho,uk⟩⟩
end Go.Proofs.YtkmlnjociijpgaaGreatDoor
