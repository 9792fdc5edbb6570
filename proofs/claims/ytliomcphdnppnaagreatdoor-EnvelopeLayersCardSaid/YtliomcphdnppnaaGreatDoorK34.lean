/- squeezed. SHA-256: the constants. SHA-256 of -/
import Derived.Test.YtliomcphdnppnaaGreatDoorK33
import Derived.Test.YtliomcphdnppnaaGreatDoorK26
set_option linter.unusedVariables false
set_option linter.unusedSimpArgs false
set_option maxRecDepth 100000
set_option maxHeartbeats 6400000
namespace Go.Proofs.YtliomcphdnppnaaGreatDoor
open Go.RowKit
def kv (n:Nat) (x:Nat×Nat):Bool:=qZ x.1&&pZ n x.1 x.2&&decide (x.2<18446744073709551616)
theorem aD:(vw.zip sE).all (kv 3)=true:=by kernel_rfl
theorem aC:(vw.zip vy).all (kv 2)=true:=by kernel_rfl
theorem nE {n p c:Nat}(h:kv n (p,c)=true):qZ p=true∧pZ n p c=true∧c<18446744073709551616:=by
 unfold kv at h
 simp only[Bool.and_eq_true,decide_eq_true_eq]at h
 exact⟨h.1.1,h.1.2,h.2⟩
theorem jD {f:Nat×Nat→Bool}{l m:List Nat}(h:(l.zip m).all f=true) (i:Nat) (hl:i<l.length) (hm:i<m.length):f (l[i],m[i])=true:=by
 rw[List.all_eq_true]at h;have hz:i<(l.zip m).length:=by rw[List.length_zip];omega
 have h1:=h _ (List.getElem_mem hz);rw[List.getElem_zip]at h1
 exact h1
theorem qY {l:List Nat}{i:Nat}(h:i<l.length):yJ l i=l[i]:=by simp[yJ,h]
def P64:List Nat:=vw.take 64
def K64:List Nat:=sE.take 64
theorem fR:P64.length=64:=rfl
theorem nV:K64.length=64:=rfl
theorem XU {i:Nat}(h:i<64):qZ (yJ P64 i)=true∧pZ 3 (yJ P64 i) (yJ K64 i)=true∧yJ K64 i<18446744073709551616:=by
 have h1:vw.length=80:=rfl;have h2:sE.length=80:=rfl;have hP:yJ P64 i=vw[i]:=by rw[qY (by rw[fR];exact h)];simp[P64]
 have hK:yJ K64 i=sE[i]:=by rw[qY (by rw[nV];exact h)];simp[K64]
 rw[hP,hK]
 exact nE (jD aD i (by omega) (by omega))
theorem XS {i:Nat}(h:i<8):pZ 2 (yJ P64 i) (yJ vy i)=true∧yJ vy i<18446744073709551616:=by
 have h1:vw.length=80:=rfl;have h2:vy.length=8:=rfl;have hP:yJ P64 i=vw[i]:=by rw[qY (by rw[fR];omega)];simp[P64]
 rw[hP,qY (by omega)]
 exact(nE (jD aC i (by omega) (by omega))).2
def hsP:Nat→List Nat
 | 0=>List.replicate 8 0
 | k+1=>if k<8 then(hsP k).set k (yJ vy k) else hsP k
theorem fW:∀ k,(hsP k).length=8
 | 0=>rfl
 | k+1=>by
  rw[hsP]
  split
  ·rw[List.length_set,fW k]
  exact fW k
theorem Oz {k:Nat}(h:k<8):hsP (k+1)=(hsP k).set k (yJ vy k):=if_pos h
theorem Oy {k:Nat}(h:¬ k<8):hsP (k+1)=hsP k:=if_neg h
theorem Ox:hsP 64=vy:=by kernel_rfl
theorem bE {l:List Nat}{i:Nat}(h:i<l.length):l.take (i+1)=l.take i++[yJ l i]:=by
 rw[List.take_succ_eq_append_getElem h,qY h]
theorem P4 {α:Type}{l:List α}(h:l.length=8):∃ a b c d e f g i,l=[a,b,c,d,e,f,g,i]:=by
 match l,h with
 | [a,b,c,d,e,f,g,i],_=>exact⟨a,b,c,d,e,f,g,i,rfl⟩
theorem kD:(Tryz.prog.info? 132).map (·.size)=some 8:=by kernel_rfl
theorem mE {fn:Func}{p u:Tmp}{ty:TypeId}(h:fn.results=#[.tmp u,.cell p ty]) (tmps:Array Value) (P:Program) (w:World) :
  (results fn tmps).run P w =
   ((asAddr (tmps.getD p undef)).run P w).andThen fun a w₁=>((loadVar ty a).run P w₁).andThen fun x w₂=>.ok (.tuple #[tmps.getD u undef,x]) w₂:=by
 simp only[results,h]
 simp[Sem.run_bind,Result.andThen]
theorem dH {fn:Func}{p u:Tmp}{ty:TypeId}{a:Act}{w:World}{R:Ending→World→Prop}{g:Nat}{t:TypeId}{cs:Array Value}{d:TypeDesc}(h:fn.results=#[.tmp u,.cell p ty]) (hp:a.tmps.getD p undef=.pointer (some ⟨g,0,none⟩)) (hg:Blk w g t cs)
  (hd:(match d with | .struct _ | .array _ _=>true | _=>false)=true) (hu:Tryz.prog.underlying ty=some d) (hi:(Tryz.prog.info? ty).map (·.size)=some cs.size)
  (hdf:a.defers=[]) (hR:R (.returned (.tuple #[a.tmps.getD u undef,.agg cs])) w):bodyPost Tryz.prog fn R .ret a w:=by
 refine bodyPost_ret (v:=.tuple #[a.tmps.getD u undef,.agg cs]) ?_ hdf hR
 rw[mE h,hp];have NG:=run_loadVar_row (P:=Tryz.prog) w g t ty cs (0,0) d hg hu (by cases d <;> first | exact hd | rfl | cases hd) hi
 simp[asAddr,NG,Result.andThen]
theorem iN (H:Snap) (w:World):Calls Tryz.prog 101 #[.int .i64 64] w fun e w'=>∃ A c,e=.returned (.tuple #[.slice A 64 c,.agg (zW vy)])∧OwnX ie 22 w' w.heap.size (.slice A 64 c) H K64∧Below w.heap.size w w':=by
 have Yp:=Blk.new w 132 #[.int .u64 0,.int .u64 0,.int .u64 0,.int .u64 0,.int .u64 0,.int .u64 0,.int .u64 0,.int .u64 0];have yK:=zu w (.cells #[.int .u64 0,.int .u64 0,.int .u64 0,.int .u64 0,.int .u64 0,.int .u64 0,.int .u64 0,.int .u64 0] 132);have OA:=(OwnX.nil ie 22 w w.heap.size H).alloc (.cells #[.int .u64 0,.int .u64 0,.int .u64 0,.int .u64 0,.int .u64 0,.int .u64 0,.int .u64 0,.int .u64 0] 132)
 generalize qr:w.alloc (.cells #[.int .u64 0,.int .u64 0,.int .u64 0,.int .u64 0,.int .u64 0,.int .u64 0,.int .u64 0,.int .u64 0] 132)=w1 at Yp yK OA
 have Wf:=Hh qr;have PR:=Hh (ay H w1);clear qr;go_enter Tryz.func101,Tryz.ntmps101
 go_wp2_with fail
 rw[Wf.out]
 refine PR.out.mono ?_
 rintro e w2 ⟨PA,pc,rfl,hP,zK⟩
 have yF:=Yp.below zK;have rj:=OA.below zK;have xz:=yK.trans (zK.mono yK.size);have Cn:Hid (w1.heap.size≤w2.heap.size∧w.heap.size+1=w1.heap.size):=⟨zK.size,by rw[← Wf.out,zr]⟩
 have B4:=Hh (fun q (hq:(Value.slice PA 64 pc).ownBlock=some q)=>hP.lt q hq);obtain⟨pg,rfl,hp⟩:=ky hP (by decide);clear PR yK zK Yp OA Wf;go_wp2_with fail
 go_loopw [2,9] (fun v2 v9 wr=>∃ (i:Nat),v9=.int .i64 (i:Int)∧Hid (i≤64)∧OwnX ie 22 wr w.heap.size v2 H (K64.take i)∧(∀ g,v2.ownBlock=some g→g≠w.heap.size∧g≠pg)∧OwnX ie 22 wr w1.heap.size (.slice (some ⟨pg,0,none⟩) 64 pc) H (vw.take 64)∧Blk wr w.heap.size 132 (zW (hsP i))∧Below w.heap.size w wr) (fun _ v9 _=>(64-intOf v9).toNat)
 case atStart=>exact⟨0,rfl,Nat.zero_le _,rj,by simp[Value.ownBlock],hP,yF,xz⟩
 case round =>
 clear rj hP yF xz hp;obtain⟨i,rfl,HI,hO,wS,hP,hB,hb⟩:=hrel;obtain⟨A,c,rfl,Wt,Km⟩:=hO.form;have Rc:(K64.take i).length=i:=by rw[List.length_take,nV];have:=HI.out;omega
 rw[Rc]at hO wS⊢;have KI:=Hh wS;clear Wt Km Rc wS
 by_cases zB:(i:Int)<64
 ·have hi:i<64:=by omega
  have cp:wr.cell? ⟨pg,i,none⟩=some (.int .u64 (yJ P64 i:Int)):=by
   obtain⟨g',e',h'⟩:=ky hP (by decide)
   cases e'
   have h:=h' i (by rw[show(vw.take 64).length=64 from rfl];exact hi);rw[qY (l:=P64) (by rw[fR];exact hi)]
   exact h
  have HC:=Hh (XU hi);have Ie:=Hh (fun h:i<8=>XS h);have Em:=Hh (bE (l:=K64) (i:=i) (by rw[nV];exact hi));obtain⟨p,hp⟩:∃ p,yJ P64 i=p:=⟨_,rfl⟩
  obtain⟨kc,Wq⟩:∃ kc,yJ K64 i=kc:=⟨_,rfl⟩
  rw[hp]at cp HC Ie;rw[Wq]at HC Em;have FR:=Hh (fun w=>iP p kc HC.out.1 HC.out.2.2 HC.out.2.1 w);have uK:=Hh zB;clear hp Wq hi;go_wp2_with fail
  refine(FR.out _).mono ?_
  rintro e w4 ⟨rfl,ui⟩
  have rl:=(hO.below ui).alloc (.cells #[.int .u64 (kc:Int)] 22);have JE:=(hP.below ui).alloc (.cells #[.int .u64 (kc:Int)] 22);have ez:=(hB.below ui).alloc (.cells #[.int .u64 (kc:Int)] 22);have xS:=(hb.trans (ui.mono hb.size)).alloc (Nat.le_trans hb.size ui.size) (.cells #[.int .u64 (kc:Int)] 22);have Kt:∀ q,(Value.slice A i c).ownBlock=some q→w.heap.size≤q:=fun q hq=>(hO.lt q hq).1
  clear hO hP hB hb ui cp FR;go_wp2_with (at_builtin;refine zM ?_)
  refine OwnX.append rfl (.tmp 14) (.tmp 17) 113 rfl Tryz.underlying113 rfl (by omega) dt rfl rl _ 1 _ [.int .u64 (kc:Int)] [kc] rfl rfl (RowC.one rfl) (Src.new _ _ _ _ rfl _ rfl) (by rw[List.length_take,nV];simp;omega) xS.size fun v' w6 qo xX bX=>?_
  have xT:=zR xS xX Kt;have Tw:=JE.kept xX (.inr (by intro hc;exact(KI.out pg hc.symm).2 rfl));have er:=ez.grown xX (by intro hc;exact(KI.out _ hc).1 rfl);rw[← Em.out]at qo
  have PO:Hid (∀ q,v'.ownBlock=some q→q≠w.heap.size∧q≠pg):=by
   intro q hq
   rcases bX with h | ⟨q',h,Rb⟩
   ·exact KI.out q (h.symm.trans hq)
   rw[hq]at h
   cases h
   have h1:=ez.lt;have h2:=(JE.lt pg rfl).2;constructor <;> omega
  clear rl JE ez xS xX bX Kt
  by_cases h8:(i:Int)<8
  ·have FR2:=Hh (fun w=>iO p (yJ vy i) HC.out.1 (Ie.out (by omega)).2 (Ie.out (by omega)).1 w);have HS:=Hh (Oz (k:=i) (by omega));have H8:=Hh h8;go_wp2_with fail
   refine(FR2.out _).mono ?_
   rintro e w7 ⟨rfl,wJ⟩
   have vX:=qo.below wJ;have QQ:=Tw.below wJ;have WO:=er.below wJ;have yH:=xT.trans (wJ.mono xT.size);clear qo Tw er xT wJ FR2;go_wp2_with (with_reducible refine zx ?_)
   refine ze rfl _ _ _ rfl rfl w.heap.size i (.int .u64 (yJ vy i:Int)) rfl rfl _ _ WO vG (by rw[vg,fW];have:=H8.out;omega) rfl fun w8 i8 hg8=>?_
   rw[sC,← HS.out]at i8;have Yt:=vX.kept hg8 (.inr (by intro hc;exact(PO.out _ hc).1 rfl));have hP8:=QQ.kept hg8 (.inr (by intro hc;have hc:pg=w.heap.size:=Option.some.inj hc;have:=(QQ.lt pg rfl).1;have:=Cn.out;omega));have oN:=yH.grown hg8 yH.size (by rintro q ⟨⟩;exact Nat.le_refl _);clear vX QQ WO yH hg8;go_wp2_with fail
   go_roundw
   case rel=>exact⟨i+1,by go_num,by have:=uK.out;rw[Hid];omega,Yt,PO.out,hP8,i8,oN⟩
   case measure=>have:=uK.out;simp[intOf];omega
  rw[← Oy (k:=i) (by omega)]at er;go_wp2_with fail
  go_roundw
  case rel=>exact⟨i+1,by go_num,by have:=uK.out;rw[Hid];omega,qo,PO.out,Tw,er,xT⟩
  case measure=>have:=uK.out;simp[intOf];omega
 obtain rfl:i=64:=by have:=HI.out;omega
 rw[Ox]at hB;rw[show K64.take 64=K64 from rfl]at hO;rw[show((64:Nat):Int)=64 from rfl]at zB⊢;obtain⟨b0,b1,b2,b3,b4,b5,b6,b7,J7⟩:=P4 (show vy.length=8 from rfl);have Ca:=Hh J7;rw[J7]at hB;clear J7;go_upto_region 8 with fail
 refine ue 3 (fun wx=>wx.cell? ⟨w.heap.size,0,none⟩=some (.int .u64 (b0:Int))∧wx.cell? ⟨w.heap.size,1,none⟩=some (.int .u64 (b1:Int))∧wx.cell? ⟨w.heap.size,2,none⟩=some (.int .u64 (b2:Int))∧wx.cell? ⟨w.heap.size,3,none⟩=some (.int .u64 (b3:Int))∧wx.cell? ⟨w.heap.size,4,none⟩=some (.int .u64 (b4:Int))∧wx.cell? ⟨w.heap.size,5,none⟩=some (.int .u64 (b5:Int))∧wx.cell? ⟨w.heap.size,6,none⟩=some (.int .u64 (b6:Int))∧wx.cell? ⟨w.heap.size,7,none⟩=some (.int .u64 (b7:Int))) (by kernel_rfl) (⟨hB.drew.cell 0 rfl,hB.drew.cell 1 rfl,hB.drew.cell 2 rfl,hB.drew.cell 3 rfl,hB.drew.cell 4 rfl,hB.drew.cell 5 rfl,hB.drew.cell 6 rfl,hB.drew.cell 7 rfl⟩) (fun zy=>?_)
 refine Zk 0 rfl zy ?_
 refine Zk 1 rfl zy ?_
 refine Zk 2 rfl zy ?_
 refine Zo 3 rfl fun K hK=>?_
 rw[if_pos (by rfl)]
 refine zm _ _ _ rfl w.heap.size (zW [b0,b1,b2,b3,b4,b5,b6,b7]) rfl rfl _ _ hB.drew kD rfl (xD _) fun w9 kh yL=>?_
 refine Kz hK ?_
 clear hK K
 refine WaysZ.done (by kernel_rfl) ?_
 have pu:=hb.drew.grown yL hb.size (by rintro q ⟨⟩;exact Nat.le_refl _);have WU:=OwnX.kept (w:=wr.drew) (w':=w9) hO yL (.inr (by intro hc;exact(KI.out _ hc).1 rfl));clear zy;go_wp2_with fail
 refine dH rfl rfl kh rfl rfl kD rfl ?_
 exact⟨A,c,by rw[Ca.out];rfl,WU,pu⟩
theorem oE {A:Option Addr}{c:Nat}{l:List UInt8}{n:Nat}(hn:n=l.length) (me:l.length≤1099511627) (w:World) (hS:Src w A (l.map zq)) :
  Calls Tryz.prog 58 #[.slice A n c] w fun e w'=>∃ r,e=.returned r∧Fresh w (lK l) r w':=by
 have HN:=Hh (And.intro hn me);have CN:=Hh (iN (fun _=>none) w);clear hn me;go_enter Tryz.func58,Tryz.ntmps58
 go_wp2_with fail
 refine CN.out.mono ?_
 rintro e w1 ⟨LA,lc,rfl,hL,zJ⟩
 have Cr:=Hh (hS.below zJ);have ET:=Hh zJ;have uK:=Hh hL;obtain⟨lg,rfl,GK⟩:=ky hL (by decide)
 have Cg:Hid (∀ i,i<64→w1.cell? ⟨lg,i,none⟩=some (.int .u64 (yJ (sE.take 64) i:Int))):=fun i hi=>by
  rw[GK i (by rw[nV];exact hi),qY (l:=sE.take 64) (by rw[show(sE.take 64).length=64 from rfl];exact hi)];rfl
 have qJ:Hid (lg<w1.heap.size):=(hL.lt lg rfl).2;have hF:=Blk.new w1 132 (zW [0,0,0,0,0,0,0,0]);have hb:=zu w1 (.cells (zW [0,0,0,0,0,0,0,0]) 132);obtain⟨F,J4⟩:∃ F,w1.heap.size=F:=⟨_,rfl⟩
 have Jz:=Hh J4;rw[J4]at hF;clear J4 hL GK zJ hS CN;go_wp2_with (with_reducible refine zx ?_)
 unfold zD
 rw[Jz.out]
 refine zv rfl _ _ _ rfl rfl F (zW vy) rfl rfl _ _ hF kD (by rfl) (xD _) fun w2 Mw tu=>?_
 have zK:=hb.grown tu hb.size (by rintro q ⟨⟩;have:=Jz.out;omega);have J9:=Blk.new w2 136 (uz (kP 0));have QN:=Mw.alloc (.cells (uz (kP 0)) 136);have xz:=zK.alloc zK.size (.cells (uz (kP 0)) 136);obtain⟨K0,Mz⟩:∃ K,w2.heap.size=K:=⟨_,rfl⟩
 have El:Hid (w1.heap.size≤K0∧F<K0):=⟨by rw[← Mz];exact zK.size,by rw[← Mz];exact Mw.lt⟩
 have Tt:=Hh Mz;rw[Mz]at J9;clear Mz hF hb Mw tu zK;go_wp2_with fail
 rw[Tt.out];go_loopw [17] (fun v17 wr=>∃ i:Nat,v17=.int .i64 (i:Int)∧i≤64∧Blk wr F 132 (zW vy)∧Blk wr K0 136 (uz (kP i))∧Below w1.heap.size w1 wr) (fun v17 _=>(64-intOf v17).toNat)
 case atStart=>exact⟨0,rfl,by omega,QN,J9,xz⟩
 case round =>
 clear QN J9 xz;obtain⟨i,rfl,hi,hF,hK,hb⟩:=hrel
 by_cases zB:(i:Int)<64
 ·have mw:i<64:=by omega
  have cl:wr.cell? ⟨lg,i,none⟩=some (.int .u64 (yJ (sE.take 64) i:Int)):=by rw[hb.cell qJ.out];exact Cg.out i mw
  have FC:=Hh (UB mw);obtain⟨kw,OO⟩:∃ kw,yJ (sE.take 64) i=kw:=⟨_,rfl⟩
  rw[OO]at cl FC;clear OO;go_wp2_with (with_reducible refine zx ?_)
  refine ze rfl _ _ _ rfl rfl K0 i (.int .u32 (uY (kw:Int))) rfl (by rfl) _ _ hK pX (by rw[qw,VG];exact mw) rfl fun w9 QO yL=>?_
  rw[pW,FC.out,← show kP (i+1)=(kP i).set i (uy tz i) from rfl]at QO;have J2:=hF.grown yL (by intro hc;injection hc with hc;have:=El.out;omega);have pu:=hb.grown yL hb.size (by rintro q ⟨⟩;exact El.out.1);clear hF hK hb yL cl;go_wp2_with fail
  go_roundw
  case rel=>exact⟨i+1,by go_num,by omega,J2,QO,pu⟩
  case measure=>simp[intOf];omega
 obtain rfl:i=64:=by omega
 rw[LT]at hK;rw[show((64:Nat):Int)=64 from rfl]at zB⊢;have WR:=Blk.new wr 137 (uz (hP8 0));have QN:=hF.alloc (.cells (uz (hP8 0)) 137);have Fe:=hK.alloc (.cells (uz (hP8 0)) 137);have xz:=hb.alloc hb.size (.cells (uz (hP8 0)) 137);obtain⟨G,O7⟩:∃ G,wr.heap.size=G:=⟨_,rfl⟩
 have CY:=Hh O7;have Me:Hid (w1.heap.size≤G∧F<G∧K0<G):=⟨by rw[← O7];exact hb.size,by rw[← O7];exact hF.lt,by rw[← O7];exact hK.lt⟩
 rw[O7]at WR;clear O7 hF hK hb;go_wp2_with fail
 rw[CY.out];go_loopw [29] (fun v29 wx=>∃ i:Nat,v29=.int .i64 (i:Int)∧i≤8∧Blk wx F 132 (zW vy)∧Blk wx K0 136 (uz KK)∧Blk wx G 137 (uz (hP8 i))∧Below w1.heap.size w1 wx) (fun v29 _=>(8-intOf v29).toNat)
 case atStart=>exact⟨0,rfl,by omega,QN,Fe,WR,xz⟩
 case round =>
 clear QN Fe WR xz;obtain⟨i,rfl,hi,hF,hK,hH,hb⟩:=hrel
 by_cases zB:(i:Int)<8
 ·have my:i<8:=by omega
  have cl:wr.cell? ⟨F,i,none⟩=some (.int .u64 (yJ vy i:Int)):=hF.cell i (uA vy i my);obtain⟨kw,OO⟩:∃ kw,yJ vy i=kw:=⟨_,rfl⟩
  rw[OO]at cl;have Ce:=Hh OO;clear OO;go_wp2_with (with_reducible refine zx ?_)
  refine ze rfl _ _ _ rfl rfl G i (.int .u32 (uY (kw:Int))) rfl (by rfl) _ _ hH pX (by rw[qw,ZG];exact my) rfl fun w9 hH9 yL=>?_
  rw[pW,← Ce.out,← show hP8 (i+1)=(hP8 i).set i (uY ((yJ vy i:Nat):Int)) from rfl]at hH9;have J2:=hF.grown yL (by intro hc;injection hc with hc;have:=Me.out;omega);have QO:=hK.grown yL (by intro hc;injection hc with hc;have:=Me.out;omega);have pu:=hb.grown yL hb.size (by rintro q ⟨⟩;exact Me.out.1);clear hF hK hH hb yL cl;go_wp2_with fail
  go_roundw
  case rel=>exact⟨i+1,by go_num,by omega,J2,QO,hH9,pu⟩
  case measure=>simp[intOf];omega
 obtain rfl:i=8:=by omega
 rw[LC,← S8.cells_eq]at hH;rw[show((8:Nat):Int)=8 from rfl]at zB⊢;have PD:=Hh (aw (c:=c) HN.out.1 HN.out.2 wr (Cr.out.below hb));go_wp2_with fail
 refine PD.out.mono ?_
 rintro e w5 ⟨r5,rfl,vC⟩
 obtain⟨PA,pc,rfl,ms,cY,_⟩:=vC.own.form;have Ff:=hK.below vC.2;have RG:=hH.below vC.2;have xS:=hb.trans (vC.2.mono hb.size)
 have Co:Hid (∀ q,PA.map (·.block)=some q→G<q):=fun q hq=>by
  have h1:=(vC.own.lt q (by cases PA with | none=>cases hq | some p=>exact hq)).1;have h2:=hH.lt
  omega
 obtain⟨Hp,_,Kf,FY,_,FO⟩:=vC.own.snap (H:=fun _=>none) (fun _ _ h=>by cases h) (fun _ _=>rfl)
 have Yo:Hid (∀ b o,Hp b=some o→G<b):=fun b o hb=>by
  rcases FY b o hb with h | h
  ·cases h
  exact Co.out b h
 have Zd:=Hh (Uf l);obtain⟨m,hm⟩:∃ m,(qn l).length=m:=⟨_,rfl⟩
 have HM:=Hh hm;rw[hm];clear hF hK hH hb vC PD FY hm ms cY;go_wp2_with fail
 go_loopw [9] (fun v9 wx=>∃ (k nn:Nat) (VA:Option Addr) (vc:Nat),v9=.slice VA nn vc∧Hid (64*k+nn=m)∧Hid (IsBytes Hp VA vc ((qn l).drop (64*k)))∧Holds wx Hp∧Blk wx K0 136 (uz KK)∧Blk wx G 137 (kN (qn l) k).cells∧Below w1.heap.size w1 wx) (fun v9 _=>mg v9)
 case atStart=>exact⟨0,m,PA,pc,rfl,by rw[Hid];omega,by rw[Hid];simpa using FO,Kf,Ff,RG,xS⟩
 case round =>
 clear Kf FO Ff RG xS;obtain⟨k,nn,VA,vc,rfl,Np,Nm,zP,hK,hH,hb⟩:=hrel
 by_cases zB:(0:Int)<(nn:Int)
 ·have Yi:Hid (64≤nn):=by have:=Zd.out;have:=HM.out;have:=Np.out;rw[Hid];omega
  have Kp:((qn l).drop (64*k)).length=nn:=by rw[List.length_drop,HM.out];have:=Np.out;omega
  obtain⟨b,off,rfl,_⟩:=Nm.out.at_ (by rw[Kp];omega);have L4:=Nm.out.le;rw[Kp]at L4;have Nh:=Nm.out.max;have HV:=Hh (And.intro L4 Nh);have CO:=Hh Kp;have Li:IsBytes Hp (some ⟨b,off,none⟩) vc (YZ (qn l) k):=Nm.out.take' 64;have MB:(YZ (qn l) k).length=64:=UG (by have:=Np.out;have:=Yi.out;rw[HM.out];omega);have RD:=Hh (dN Li MB wr zP hH hK Oi);rw[XF,← aK]at RD;have Bm:(64:Int)≤(vc:Int):=by have:=Yi.out;omega
  have Bl:(64:Int)≤(nn:Int):=by have:=Yi.out;omega
  clear Kp L4 Nh Li MB;go_wp2_with fail
  refine RD.out.mono ?_
  rintro e w6 ⟨⟨v6,rfl⟩,Wi,xX⟩
  have DP:=hK.grown xX (by intro hc;injection hc with hc;have:=Me.out;omega);have xT:=hb.grown xX hb.size (by rintro q ⟨⟩;exact Me.out.1)
  have Ha:Holds w6 Hp:=zP.grown xX (by
   rintro q ⟨⟩
   cases hq:Hp G with
   | none=>rfl
   | some o=>have:=Yo.out _ _ hq;omega)
  have er:=Hh (Nm.out.drop' 64 (by rw[CO.out];exact Yi.out));clear hK hH hb zP xX RD;go_wp2_with fail
  go_roundw
  case rel =>
   refine⟨k+1,nn-64,_,vc-64,rfl,by have:=Np.out;have:=Yi.out;rw[Hid];omega, ?_,Ha,DP,Wi,xT⟩
   have h:=er.out;rw[List.drop_drop]at h;rw[Hid,show 64*(k+1)=64*k+64 by omega];rw[Option.map_some,qx]at h
   simpa using h
  case measure=>have:=Yi.out;simp only[mg];omega
 obtain rfl:nn=0:=by omega
 have j8:k=(qn l).length/64:=by have:=Np.out;have:=HM.out;omega
 rw[j8]at hH;have Iu:Hid ((kN (qn l) ((qn l).length/64)).list.flatMap t8=lK l):=rfl;obtain⟨s,hs⟩:∃ s,kN (qn l) ((qn l).length/64)=s:=⟨_,rfl⟩
 rw[hs]at hH Iu;rw[← P9]at Iu;obtain⟨a0,a1,a2,a3,a4,a5,a6,a7⟩:=s;have cM:=Hh (fun i hi=>Uc ⟨a0,a1,a2,a3,a4,a5,a6,a7⟩ i hi);have R8:=Hh (fun i hi=>Xu ⟨a0,a1,a2,a3,a4,a5,a6,a7⟩ i hi);have pu:=ET.out.trans (hb.mono ET.out.size);clear hs j8 Nm Np zP hK hb;have q0:=hH.cell 0 (v:=.int .u32 a0) rfl;have q1:=hH.cell 1 (v:=.int .u32 a1) rfl;have q2:=hH.cell 2 (v:=.int .u32 a2) rfl;have q3:=hH.cell 3 (v:=.int .u32 a3) rfl;have q4:=hH.cell 4 (v:=.int .u32 a4) rfl;have q5:=hH.cell 5 (v:=.int .u32 a5) rfl;have q6:=hH.cell 6 (v:=.int .u32 a6) rfl;have q7:=hH.cell 7 (v:=.int .u32 a7) rfl;clear hH;go_wp2_with fail
 go_loopw [10,51] (fun v10 v51 wx=>∃ (i mo co:Nat) (VO:Option Addr),v10=.slice VO mo co∧v51=.int .i64 (i:Int)∧i≤8∧Hid (mo=4*i)∧OwnB wx w.heap.size (.slice VO mo co) (em ⟨a0,a1,a2,a3,a4,a5,a6,a7⟩ i)∧Below w.heap.size w wx) (fun _ v51 _=>(8-intOf v51).toNat)
 case atStart=>exact⟨0,0,0,none,rfl,rfl,by omega,rfl,OwnB.nil _ _,pu⟩
 case round =>
 clear q0 q1 q2 q3 q4 q5 q6 q7 pu;obtain⟨i,mo,co,VO,rfl,rfl,hi,B0,hO,hb⟩:=hrel
 rcases(show i=0∨i=1∨i=2∨i=3∨i=4∨i=5∨i=6∨i=7∨i=8 by omega) with rfl | rfl | rfl | rfl | rfl | rfl | rfl | rfl | rfl
 ·have X0:=wG wr #[.int .u32 a0,.int .u32 a1,.int .u32 a2,.int .u32 a3,.int .u32 a4,.int .u32 a5,.int .u32 a6,.int .u32 a7] 0 (.int .u32 a0) 0 rfl (by omega) rfl;go_wp2_with (at_builtin;refine zM ?_)
  unfold zD
  clear X0;have wD:=hO.alloc (.cells #[.int .u8 (a0/16777216%256),.int .u8 (a0/65536%256),.int .u8 (a0/256%256),.int .u8 (a0%256)] 5);have zJ:=hb.alloc hb.size (.cells #[.int .u8 (a0/16777216%256),.int .u8 (a0/65536%256),.int .u8 (a0/256%256),.int .u8 (a0%256)] 5)
  refine zo rfl (.tmp 54) (.tmp 66) rfl w.heap.size _ _ rfl wD _ 4 _ (t8 a0) rfl rfl (Src.new _ _ _ _ rfl _ (by rw[wH])) (by rw[cM.out 0 (by omega),uS];omega) zJ.size fun v' w5 xo yP wb=>?_
  have xS:=zR zJ yP (fun q hq=>(hO.lt q hq).1);replace xo:=(R8.out 0 (by omega)) ▸ xo;obtain⟨A5,c5,rfl,_⟩:=xo.form;rw[cM.out (0+1) (by omega)]at xo⊢;clear hO hb wD zJ yP wb;go_wp2_with fail
  go_roundw
  case rel=>exact⟨1,_,c5,A5,rfl,by go_num,by omega,rfl,xo,xS⟩
  case measure=>simp[intOf]
 ·have X0:=wG wr #[.int .u32 a0,.int .u32 a1,.int .u32 a2,.int .u32 a3,.int .u32 a4,.int .u32 a5,.int .u32 a6,.int .u32 a7] 1 (.int .u32 a1) 1 rfl (by omega) rfl;go_wp2_with (at_builtin;refine zM ?_)
  unfold zD
  clear X0;have wD:=hO.alloc (.cells #[.int .u8 (a1/16777216%256),.int .u8 (a1/65536%256),.int .u8 (a1/256%256),.int .u8 (a1%256)] 5);have zJ:=hb.alloc hb.size (.cells #[.int .u8 (a1/16777216%256),.int .u8 (a1/65536%256),.int .u8 (a1/256%256),.int .u8 (a1%256)] 5)
  refine zo rfl (.tmp 54) (.tmp 66) rfl w.heap.size _ _ rfl wD _ 4 _ (t8 a1) rfl rfl (Src.new _ _ _ _ rfl _ (by rw[wH])) (by rw[cM.out 1 (by omega),uS];omega) zJ.size fun v' w5 xo yP wb=>?_
  have xS:=zR zJ yP (fun q hq=>(hO.lt q hq).1);replace xo:=(R8.out 1 (by omega)) ▸ xo;obtain⟨A5,c5,rfl,_⟩:=xo.form;rw[cM.out (1+1) (by omega)]at xo⊢;clear hO hb wD zJ yP wb;go_wp2_with fail
  go_roundw
  case rel=>exact⟨2,_,c5,A5,rfl,by go_num,by omega,rfl,xo,xS⟩
  case measure=>simp[intOf]
 ·have X0:=wG wr #[.int .u32 a0,.int .u32 a1,.int .u32 a2,.int .u32 a3,.int .u32 a4,.int .u32 a5,.int .u32 a6,.int .u32 a7] 2 (.int .u32 a2) 2 rfl (by omega) rfl;go_wp2_with (at_builtin;refine zM ?_)
  unfold zD
  clear X0;have wD:=hO.alloc (.cells #[.int .u8 (a2/16777216%256),.int .u8 (a2/65536%256),.int .u8 (a2/256%256),.int .u8 (a2%256)] 5);have zJ:=hb.alloc hb.size (.cells #[.int .u8 (a2/16777216%256),.int .u8 (a2/65536%256),.int .u8 (a2/256%256),.int .u8 (a2%256)] 5)
  refine zo rfl (.tmp 54) (.tmp 66) rfl w.heap.size _ _ rfl wD _ 4 _ (t8 a2) rfl rfl (Src.new _ _ _ _ rfl _ (by rw[wH])) (by rw[cM.out 2 (by omega),uS];omega) zJ.size fun v' w5 xo yP wb=>?_
  have xS:=zR zJ yP (fun q hq=>(hO.lt q hq).1);replace xo:=(R8.out 2 (by omega)) ▸ xo;obtain⟨A5,c5,rfl,_⟩:=xo.form;rw[cM.out (2+1) (by omega)]at xo⊢;clear hO hb wD zJ yP wb;go_wp2_with fail
  go_roundw
  case rel=>exact⟨3,_,c5,A5,rfl,by go_num,by omega,rfl,xo,xS⟩
  case measure=>simp[intOf]
 ·have X0:=wG wr #[.int .u32 a0,.int .u32 a1,.int .u32 a2,.int .u32 a3,.int .u32 a4,.int .u32 a5,.int .u32 a6,.int .u32 a7] 3 (.int .u32 a3) 3 rfl (by omega) rfl;go_wp2_with (at_builtin;refine zM ?_)
  unfold zD
  clear X0;have wD:=hO.alloc (.cells #[.int .u8 (a3/16777216%256),.int .u8 (a3/65536%256),.int .u8 (a3/256%256),.int .u8 (a3%256)] 5);have zJ:=hb.alloc hb.size (.cells #[.int .u8 (a3/16777216%256),.int .u8 (a3/65536%256),.int .u8 (a3/256%256),.int .u8 (a3%256)] 5)
  refine zo rfl (.tmp 54) (.tmp 66) rfl w.heap.size _ _ rfl wD _ 4 _ (t8 a3) rfl rfl (Src.new _ _ _ _ rfl _ (by rw[wH])) (by rw[cM.out 3 (by omega),uS];omega) zJ.size fun v' w5 xo yP wb=>?_
  have xS:=zR zJ yP (fun q hq=>(hO.lt q hq).1);replace xo:=(R8.out 3 (by omega)) ▸ xo;obtain⟨A5,c5,rfl,_⟩:=xo.form;rw[cM.out (3+1) (by omega)]at xo⊢;clear hO hb wD zJ yP wb;go_wp2_with fail
  go_roundw
  case rel=>exact⟨4,_,c5,A5,rfl,by go_num,by omega,rfl,xo,xS⟩
  case measure=>simp[intOf]
 ·have X0:=wG wr #[.int .u32 a0,.int .u32 a1,.int .u32 a2,.int .u32 a3,.int .u32 a4,.int .u32 a5,.int .u32 a6,.int .u32 a7] 4 (.int .u32 a4) 4 rfl (by omega) rfl;go_wp2_with (at_builtin;refine zM ?_)
  unfold zD
  clear X0;have wD:=hO.alloc (.cells #[.int .u8 (a4/16777216%256),.int .u8 (a4/65536%256),.int .u8 (a4/256%256),.int .u8 (a4%256)] 5);have zJ:=hb.alloc hb.size (.cells #[.int .u8 (a4/16777216%256),.int .u8 (a4/65536%256),.int .u8 (a4/256%256),.int .u8 (a4%256)] 5)
  refine zo rfl (.tmp 54) (.tmp 66) rfl w.heap.size _ _ rfl wD _ 4 _ (t8 a4) rfl rfl (Src.new _ _ _ _ rfl _ (by rw[wH])) (by rw[cM.out 4 (by omega),uS];omega) zJ.size fun v' w5 xo yP wb=>?_
  have xS:=zR zJ yP (fun q hq=>(hO.lt q hq).1);replace xo:=(R8.out 4 (by omega)) ▸ xo;obtain⟨A5,c5,rfl,_⟩:=xo.form;rw[cM.out (4+1) (by omega)]at xo⊢;clear hO hb wD zJ yP wb;go_wp2_with fail
  go_roundw
  case rel=>exact⟨5,_,c5,A5,rfl,by go_num,by omega,rfl,xo,xS⟩
  case measure=>simp[intOf]
 ·have X0:=wG wr #[.int .u32 a0,.int .u32 a1,.int .u32 a2,.int .u32 a3,.int .u32 a4,.int .u32 a5,.int .u32 a6,.int .u32 a7] 5 (.int .u32 a5) 5 rfl (by omega) rfl;go_wp2_with (at_builtin;refine zM ?_)
  unfold zD
  clear X0;have wD:=hO.alloc (.cells #[.int .u8 (a5/16777216%256),.int .u8 (a5/65536%256),.int .u8 (a5/256%256),.int .u8 (a5%256)] 5);have zJ:=hb.alloc hb.size (.cells #[.int .u8 (a5/16777216%256),.int .u8 (a5/65536%256),.int .u8 (a5/256%256),.int .u8 (a5%256)] 5)
  refine zo rfl (.tmp 54) (.tmp 66) rfl w.heap.size _ _ rfl wD _ 4 _ (t8 a5) rfl rfl (Src.new _ _ _ _ rfl _ (by rw[wH])) (by rw[cM.out 5 (by omega),uS];omega) zJ.size fun v' w5 xo yP wb=>?_
  have xS:=zR zJ yP (fun q hq=>(hO.lt q hq).1);replace xo:=(R8.out 5 (by omega)) ▸ xo;obtain⟨A5,c5,rfl,_⟩:=xo.form;rw[cM.out (5+1) (by omega)]at xo⊢;clear hO hb wD zJ yP wb;go_wp2_with fail
  go_roundw
  case rel=>exact⟨6,_,c5,A5,rfl,by go_num,by omega,rfl,xo,xS⟩
  case measure=>simp[intOf]
 ·have X0:=wG wr #[.int .u32 a0,.int .u32 a1,.int .u32 a2,.int .u32 a3,.int .u32 a4,.int .u32 a5,.int .u32 a6,.int .u32 a7] 6 (.int .u32 a6) 6 rfl (by omega) rfl;go_wp2_with (at_builtin;refine zM ?_)
  unfold zD
  clear X0;have wD:=hO.alloc (.cells #[.int .u8 (a6/16777216%256),.int .u8 (a6/65536%256),.int .u8 (a6/256%256),.int .u8 (a6%256)] 5);have zJ:=hb.alloc hb.size (.cells #[.int .u8 (a6/16777216%256),.int .u8 (a6/65536%256),.int .u8 (a6/256%256),.int .u8 (a6%256)] 5)
  refine zo rfl (.tmp 54) (.tmp 66) rfl w.heap.size _ _ rfl wD _ 4 _ (t8 a6) rfl rfl (Src.new _ _ _ _ rfl _ (by rw[wH])) (by rw[cM.out 6 (by omega),uS];omega) zJ.size fun v' w5 xo yP wb=>?_
  have xS:=zR zJ yP (fun q hq=>(hO.lt q hq).1);replace xo:=(R8.out 6 (by omega)) ▸ xo;obtain⟨A5,c5,rfl,_⟩:=xo.form;rw[cM.out (6+1) (by omega)]at xo⊢;clear hO hb wD zJ yP wb;go_wp2_with fail
  go_roundw
  case rel=>exact⟨7,_,c5,A5,rfl,by go_num,by omega,rfl,xo,xS⟩
  case measure=>simp[intOf]
 ·have X0:=wG wr #[.int .u32 a0,.int .u32 a1,.int .u32 a2,.int .u32 a3,.int .u32 a4,.int .u32 a5,.int .u32 a6,.int .u32 a7] 7 (.int .u32 a7) 7 rfl (by omega) rfl;go_wp2_with (at_builtin;refine zM ?_)
  unfold zD
  clear X0;have wD:=hO.alloc (.cells #[.int .u8 (a7/16777216%256),.int .u8 (a7/65536%256),.int .u8 (a7/256%256),.int .u8 (a7%256)] 5);have zJ:=hb.alloc hb.size (.cells #[.int .u8 (a7/16777216%256),.int .u8 (a7/65536%256),.int .u8 (a7/256%256),.int .u8 (a7%256)] 5)
  refine zo rfl (.tmp 54) (.tmp 66) rfl w.heap.size _ _ rfl wD _ 4 _ (t8 a7) rfl rfl (Src.new _ _ _ _ rfl _ (by rw[wH])) (by rw[cM.out 7 (by omega),uS];omega) zJ.size fun v' w5 xo yP wb=>?_
  have xS:=zR zJ yP (fun q hq=>(hO.lt q hq).1);replace xo:=(R8.out 7 (by omega)) ▸ xo;obtain⟨A5,c5,rfl,_⟩:=xo.form;rw[cM.out (7+1) (by omega)]at xo⊢;clear hO hb wD zJ yP wb;go_wp2_with fail
  go_roundw
  case rel=>exact⟨8,_,c5,A5,rfl,by go_num,by omega,rfl,xo,xS⟩
  case measure=>simp[intOf]
 rw[Iu.out]at hO;go_wp2_with fail
 go_ret
 exact⟨_,rfl,by have h:=hO.form;obtain⟨_,_,e,_⟩:=h;exact⟨hO,hb⟩⟩
def fz (m:Int) (u:UInt8):UInt8:=UInt8.ofNat (bits .xor .u8 (u.toNat:Int) m%256).toNat
theorem V6 (m:Int) (u:UInt8):zq (fz m u)=.int .u8 (bits .xor .u8 (u.toNat:Int) m):=by
 obtain⟨v,hv⟩:∃ v,bits .xor .u8 (u.toNat:Int) m=IntKind.u8.wrap v:=⟨_,rfl⟩
 have h:(IntKind.u8.wrap v%256).toNat<256:=by omega
 rw[fz,hv,zq,UInt8.toNat_ofNat_of_lt' (by simpa using h)];congr 1
 rw[IntKind.wrap_u8]
 omega
def oU (key:List UInt8):List UInt8:=if 64<key.length then lK key else key
def re (k:List UInt8):List UInt8:=k++List.replicate (64-k.length) 0
def rh (m:Int) (key:List UInt8):List UInt8:=(re (oU key)).map (fz m)
def sx (key b:List UInt8):List UInt8:=lK (rh 92 key++lK (rh 54 key++b))
theorem gT (key:List UInt8):(oU key).length≤64:=by
 unfold oU
 split
 ·rw[rD];omega
 omega
theorem gN {k:List UInt8}(h:k.length≤64):(re k).length=64:=by
 rw[re,List.length_append,List.length_replicate]
 omega
theorem uQ (m:Int) (key:List UInt8):(rh m key).length=64:=by
 rw[rh,List.length_map,gN (gT key)]
theorem ot (key b:List UInt8):(sx key b).length=32:=rD _
def sI (m:Int) (l:List UInt8) (i:Nat):List UInt8:=(l.take i).map (fz m)++l.drop i
theorem SR (m:Int) (l:List UInt8):sI m l 0=l:=by simp[sI]
theorem Xy (m:Int) {l:List UInt8}{i:Nat}(h:l.length≤i):sI m l i=l.map (fz m):=by
 rw[sI,List.take_of_length_le h,List.drop_eq_nil_of_le h,List.append_nil]
theorem gf (m:Int) (l:List UInt8) (i:Nat):(sI m l i).length=l.length:=by
 rw[sI,List.length_append,List.length_map,List.length_take,List.length_drop]
 omega
theorem Xz (m:Int) {l:List UInt8}{i:Nat}(h:i<l.length):(sI m l i)[i]'(by rw[gf];exact h)=l[i]:=by
 have e:(l.take i).length=i:=by rw[List.length_take];omega
 simp only[sI]
 rw[List.getElem_append_right (by rw[List.length_map,e];exact Nat.le_refl _)]
 simp only[List.getElem_drop,List.length_map,List.length_take]
 congr 1
 omega
theorem Y0 (m:Int) {l:List UInt8}{i:Nat}(h:i<l.length):(sI m l i).set i (fz m l[i])=sI m l (i+1):=by
 have e:(l.take i).length=i:=by rw[List.length_take];omega
 rw[sI,sI,List.set_append_right _ _ (by rw[List.length_map,e];exact Nat.le_refl _),List.length_map,e,Nat.sub_self,List.take_succ_eq_append_getElem h,List.map_append,List.append_assoc];congr 1
 rw[List.drop_eq_getElem_cons h];rfl
end Go.Proofs.YtliomcphdnppnaaGreatDoor
