/- squeezed. SHA-256: the constants. SHA-256 of -/
import Derived.Test.YtnfoilblmhbobaaGreatDoorK16
set_option linter.unusedVariables false
set_option linter.unusedSimpArgs false
set_option maxRecDepth 100000
set_option maxHeartbeats 6400000
namespace Go.Proofs.YtnfoilblmhbobaaGreatDoor
open Go.RowKit
def qf (n:Nat) (x:Nat×Nat):Bool:=uU x.1&&tx n x.1 x.2&&decide (x.2<18446744073709551616)
theorem jE:(xx.zip vZ).all (qf 3)=true:=by kernel_rfl
theorem jD:(xx.zip xy).all (qf 2)=true:=by kernel_rfl
theorem rt {n p c:Nat}(h:qf n (p,c)=true):uU p=true∧tx n p c=true∧c<18446744073709551616:=by
 unfold qf at h
 simp only[Bool.and_eq_true,decide_eq_true_eq]at h
 exact⟨h.1.1,h.1.2,h.2⟩
theorem pY {f:Nat×Nat→Bool}{l m:List Nat}(h:(l.zip m).all f=true) (i:Nat) (hl:i<l.length) (hm:i<m.length):f (l[i],m[i])=true:=by
 rw[List.all_eq_true]at h;have hz:i<(l.zip m).length:=by rw[List.length_zip];omega
 have h1:=h _ (List.getElem_mem hz);rw[List.getElem_zip]at h1
 exact h1
theorem uT {l:List Nat}{i:Nat}(h:i<l.length):zF l i=l[i]:=by simp[zF,h]
def P64:List Nat:=xx.take 64
def K64:List Nat:=vZ.take 64
theorem nK:P64.length=64:=rfl
theorem sH:K64.length=64:=rfl
theorem fm {i:Nat}(h:i<64):uU (zF P64 i)=true∧tx 3 (zF P64 i) (zF K64 i)=true∧zF K64 i<18446744073709551616:=by
 have h1:xx.length=80:=rfl;have h2:vZ.length=80:=rfl;have hP:zF P64 i=xx[i]:=by rw[uT (by rw[nK];exact h)];simp[P64]
 have hK:zF K64 i=vZ[i]:=by rw[uT (by rw[sH];exact h)];simp[K64]
 rw[hP,hK]
 exact rt (pY jE i (by omega) (by omega))
theorem fk {i:Nat}(h:i<8):tx 2 (zF P64 i) (zF xy i)=true∧zF xy i<18446744073709551616:=by
 have h1:xx.length=80:=rfl;have h2:xy.length=8:=rfl;have hP:zF P64 i=xx[i]:=by rw[uT (by rw[nK];omega)];simp[P64]
 rw[hP,uT (by omega)]
 exact(rt (pY jD i (by omega) (by omega))).2
def hsP:Nat→List Nat
 | 0=>List.replicate 8 0
 | k+1=>if k<8 then(hsP k).set k (zF xy k) else hsP k
theorem nM:∀ k,(hsP k).length=8
 | 0=>rfl
 | k+1=>by
  rw[hsP]
  split
  ·rw[List.length_set,nM k]
  exact nM k
theorem Z7 {k:Nat}(h:k<8):hsP (k+1)=(hsP k).set k (zF xy k):=if_pos h
theorem Z6 {k:Nat}(h:¬ k<8):hsP (k+1)=hsP k:=if_neg h
theorem Z5:hsP 64=xy:=by kernel_rfl
theorem jm {l:List Nat}{i:Nat}(h:i<l.length):l.take (i+1)=l.take i++[zF l i]:=by
 rw[List.take_succ_eq_append_getElem h,uT h]
theorem Z8 {α:Type}{l:List α}(h:l.length=8):∃ a b c d e f g i,l=[a,b,c,d,e,f,g,i]:=by
 match l,h with
 | [a,b,c,d,e,f,g,i],_=>exact⟨a,b,c,d,e,f,g,i,rfl⟩
theorem qM:(Tryz.prog.info? 123).map (·.size)=some 8:=by kernel_rfl
theorem rP {fn:Func}{p u:Tmp}{ty:TypeId}(h:fn.results=#[.tmp u,.cell p ty]) (tmps:Array Value) (P:Program) (w:World) :
  (results fn tmps).run P w =
   ((asAddr (tmps.getD p undef)).run P w).andThen fun a w₁=>((loadVar ty a).run P w₁).andThen fun x w₂=>.ok (.tuple #[tmps.getD u undef,x]) w₂:=by
 simp only[results,h]
 simp[Sem.run_bind,Result.andThen]
theorem lT {fn:Func}{p u:Tmp}{ty:TypeId}{a:Act}{w:World}{R:Ending→World→Prop}{g:Nat}{t:TypeId}{cs:Array Value}{d:TypeDesc}(h:fn.results=#[.tmp u,.cell p ty]) (hp:a.tmps.getD p undef=.pointer (some ⟨g,0,none⟩)) (hg:Blk w g t cs)
  (hd:(match d with | .struct _ | .array _ _=>true | _=>false)=true) (hu:Tryz.prog.underlying ty=some d) (hi:(Tryz.prog.info? ty).map (·.size)=some cs.size)
  (hdf:a.defers=[]) (hR:R (.returned (.tuple #[a.tmps.getD u undef,.agg cs])) w):bodyPost Tryz.prog fn R .ret a w:=by
 refine bodyPost_ret (v:=.tuple #[a.tmps.getD u undef,.agg cs]) ?_ hdf hR
 rw[rP h,hp];have my:=run_loadVar_row (P:=Tryz.prog) w g t ty cs (0,0) d hg hu (by cases d <;> first | exact hd | rfl | cases hd) hi
 simp[asAddr,my,Result.andThen]
theorem pF (H:Snap) (w:World):Calls Tryz.prog 76 #[.int .i64 64] w fun e w'=>∃ A c,e=.returned (.tuple #[.slice A 64 c,.agg (zh xy)])∧OwnX pJ 70 w' w.heap.size (.slice A 64 c) H K64∧Below w.heap.size w w':=by
 have ol:=Blk.new w 123 #[.int .u64 0,.int .u64 0,.int .u64 0,.int .u64 0,.int .u64 0,.int .u64 0,.int .u64 0,.int .u64 0];have yY:=zb w (.cells #[.int .u64 0,.int .u64 0,.int .u64 0,.int .u64 0,.int .u64 0,.int .u64 0,.int .u64 0,.int .u64 0] 123);have YZ:=(OwnX.nil pJ 70 w w.heap.size H).alloc (.cells #[.int .u64 0,.int .u64 0,.int .u64 0,.int .u64 0,.int .u64 0,.int .u64 0,.int .u64 0,.int .u64 0] 123)
 generalize vT:w.alloc (.cells #[.int .u64 0,.int .u64 0,.int .u64 0,.int .u64 0,.int .u64 0,.int .u64 0,.int .u64 0,.int .u64 0] 123)=w1 at ol yY YZ
 have YO:=Hh vT;have PR:=Hh (jg H w1);clear vT;go_enter Tryz.func76,Tryz.ntmps76
 go_wp2_with fail
 rw[YO.out]
 refine PR.out.mono ?_
 rintro e w2 ⟨PA,pc,rfl,hP,zO⟩
 have xO:=ol.below zO;have vO:=YZ.below zO;have yV:=yY.trans (zO.mono yY.size);have Rv:Hid (w1.heap.size≤w2.heap.size∧w.heap.size+1=w1.heap.size):=⟨zO.size,by rw[← YO.out,zY]⟩
 have Qy:=Hh (fun q (hq:(Value.slice PA 64 pc).ownBlock=some q)=>hP.lt q hq);obtain⟨pg,rfl,hp⟩:=qj hP (by decide);clear PR yY zO ol YZ YO;go_wp2_with fail
 go_loopw [2,9] (fun v2 v9 wr=>∃ (i:Nat),v9=.int .i64 (i:Int)∧Hid (i≤64)∧OwnX pJ 70 wr w.heap.size v2 H (K64.take i)∧(∀ g,v2.ownBlock=some g→g≠w.heap.size∧g≠pg)∧OwnX pJ 70 wr w1.heap.size (.slice (some ⟨pg,0,none⟩) 64 pc) H (xx.take 64)∧Blk wr w.heap.size 123 (zh (hsP i))∧Below w.heap.size w wr) (fun _ v9 _=>(64-intOf v9).toNat)
 case atStart=>exact⟨0,rfl,Nat.zero_le _,vO,by simp[Value.ownBlock],hP,xO,yV⟩
 case round =>
 clear vO hP xO yV hp;obtain⟨i,rfl,HI,hO,ww,hP,hB,hb⟩:=hrel;obtain⟨A,c,rfl,Yk,oo⟩:=hO.form;have cR:(K64.take i).length=i:=by rw[List.length_take,sH];have:=HI.out;omega
 rw[cR]at hO ww⊢;have ca:=Hh ww;clear Yk oo cR ww
 by_cases z6:(i:Int)<64
 ·have hi:i<64:=by omega
  have cp:wr.cell? ⟨pg,i,none⟩=some (.int .u64 (zF P64 i:Int)):=by
   obtain⟨g',e',h'⟩:=qj hP (by decide)
   cases e'
   have h:=h' i (by rw[show(xx.take 64).length=64 from rfl];exact hi);rw[uT (l:=P64) (by rw[nK];exact hi)]
   exact h
  have HC:=Hh (fm hi);have Zn:=Hh (fun h:i<8=>fk h);have TP:=Hh (jm (l:=K64) (i:=i) (by rw[sH];exact hi));obtain⟨p,hp⟩:∃ p,zF P64 i=p:=⟨_,rfl⟩
  obtain⟨kc,Wc⟩:∃ kc,zF K64 i=kc:=⟨_,rfl⟩
  rw[hp]at cp HC Zn;rw[Wc]at HC TP;have FR:=Hh (fun w=>pH p kc HC.out.1 HC.out.2.2 HC.out.2.1 w);have wC:=Hh z6;clear hp Wc hi;go_wp2_with fail
  refine(FR.out _).mono ?_
  rintro e w4 ⟨rfl,xW⟩
  have tN:=(hO.below xW).alloc (.cells #[.int .u64 (kc:Int)] 70);have VK:=(hP.below xW).alloc (.cells #[.int .u64 (kc:Int)] 70);have sY:=(hB.below xW).alloc (.cells #[.int .u64 (kc:Int)] 70);have yv:=(hb.trans (xW.mono hb.size)).alloc (Nat.le_trans hb.size xW.size) (.cells #[.int .u64 (kc:Int)] 70);have Wf:∀ q,(Value.slice A i c).ownBlock=some q→w.heap.size≤q:=fun q hq=>(hO.lt q hq).1
  clear hO hP hB hb xW cp FR;go_wp2_with (at_builtin;refine zn ?_)
  refine OwnX.append rfl (.tmp 14) (.tmp 17) 122 rfl Tryz.underlying122 rfl (by omega) lu rfl tN _ 1 _ [.int .u64 (kc:Int)] [kc] rfl rfl (RowC.one rfl) (Src.new _ _ _ _ rfl _ rfl) (by rw[List.length_take,sH];simp;omega) yv.size fun v' w6 pQ hg6 hat6=>?_
  have wT:=zu yv hg6 Wf;have VM:=VK.kept hg6 (.inr (by intro hc;exact(ca.out pg hc.symm).2 rfl));have qz:=sY.grown hg6 (by intro hc;exact(ca.out _ hc).1 rfl);rw[← TP.out]at pQ
  have ZI:Hid (∀ q,v'.ownBlock=some q→q≠w.heap.size∧q≠pg):=by
   intro q hq
   rcases hat6 with h | ⟨q',h,dB⟩
   ·exact ca.out q (h.symm.trans hq)
   rw[hq]at h
   cases h
   have h1:=sY.lt;have h2:=(VK.lt pg rfl).2;constructor <;> omega
  clear tN VK sY yv hg6 hat6 Wf
  by_cases h8:(i:Int)<8
  ·have FR2:=Hh (fun w=>pG p (zF xy i) HC.out.1 (Zn.out (by omega)).2 (Zn.out (by omega)).1 w);have HS:=Hh (Z7 (k:=i) (by omega));have H8:=Hh h8;go_wp2_with fail
   refine(FR2.out _).mono ?_
   rintro e w7 ⟨rfl,uH⟩
   have wE:=pQ.below uH;have VN:=VM.below uH;have im:=qz.below uH;have nu:=wT.trans (uH.mono wT.size);clear pQ VM qz wT uH FR2;go_wp2_with (with_reducible refine zx ?_)
   refine zv rfl _ _ _ rfl rfl w.heap.size i (.int .u64 (zF xy i:Int)) rfl rfl _ _ im xd (by rw[xq,nM];have:=H8.out;omega) rfl fun w8 hB8 hg8=>?_
   rw[vX,← HS.out]at hB8;have fV:=wE.kept hg8 (.inr (by intro hc;exact(ZI.out _ hc).1 rfl));have hP8:=VN.kept hg8 (.inr (by intro hc;have hc:pg=w.heap.size:=Option.some.inj hc;have:=(VN.lt pg rfl).1;have:=Rv.out;omega));have rf:=nu.grown hg8 nu.size (by rintro q ⟨⟩;exact Nat.le_refl _);clear wE VN im nu hg8;go_wp2_with fail
   go_roundw
   case rel=>exact⟨i+1,by go_num,by have:=wC.out;rw[Hid];omega,fV,ZI.out,hP8,hB8,rf⟩
   case measure=>have:=wC.out;simp[intOf];omega
  rw[← Z6 (k:=i) (by omega)]at qz;go_wp2_with fail
  go_roundw
  case rel=>exact⟨i+1,by go_num,by have:=wC.out;rw[Hid];omega,pQ,ZI.out,VM,qz,wT⟩
  case measure=>have:=wC.out;simp[intOf];omega
 obtain rfl:i=64:=by have:=HI.out;omega
 rw[Z5]at hB;rw[show K64.take 64=K64 from rfl]at hO;rw[show((64:Nat):Int)=64 from rfl]at z6⊢;obtain⟨b0,b1,b2,b3,b4,b5,b6,b7,VE⟩:=Z8 (show xy.length=8 from rfl);have Rm:=Hh VE;rw[VE]at hB;clear VE;go_upto_region 8 with fail
 refine uM 3 (fun wx=>wx.cell? ⟨w.heap.size,0,none⟩=some (.int .u64 (b0:Int))∧wx.cell? ⟨w.heap.size,1,none⟩=some (.int .u64 (b1:Int))∧wx.cell? ⟨w.heap.size,2,none⟩=some (.int .u64 (b2:Int))∧wx.cell? ⟨w.heap.size,3,none⟩=some (.int .u64 (b3:Int))∧wx.cell? ⟨w.heap.size,4,none⟩=some (.int .u64 (b4:Int))∧wx.cell? ⟨w.heap.size,5,none⟩=some (.int .u64 (b5:Int))∧wx.cell? ⟨w.heap.size,6,none⟩=some (.int .u64 (b6:Int))∧wx.cell? ⟨w.heap.size,7,none⟩=some (.int .u64 (b7:Int))) (by kernel_rfl) (⟨hB.drew.cell 0 rfl,hB.drew.cell 1 rfl,hB.drew.cell 2 rfl,hB.drew.cell 3 rfl,hB.drew.cell 4 rfl,hB.drew.cell 5 rfl,hB.drew.cell 6 rfl,hB.drew.cell 7 rfl⟩) (fun zy=>?_)
 refine Zk 0 rfl zy ?_
 refine Zk 1 rfl zy ?_
 refine Zk 2 rfl zy ?_
 refine Zo 3 rfl fun K hK=>?_
 rw[if_pos (by rfl)]
 refine zD _ _ _ rfl w.heap.size (zh [b0,b1,b2,b3,b4,b5,b6,b7]) rfl rfl _ _ hB.drew qM rfl (ya _) fun w9 hB9 hg9=>?_
 refine Kz hK ?_
 clear hK K
 refine WaysZ.done (by kernel_rfl) ?_
 have rB:=hb.drew.grown hg9 hb.size (by rintro q ⟨⟩;exact Nat.le_refl _);have i4:=OwnX.kept (w:=wr.drew) (w':=w9) hO hg9 (.inr (by intro hc;exact(ca.out _ hc).1 rfl));clear zy;go_wp2_with fail
 refine lT rfl rfl hB9 rfl rfl qM rfl ?_
 exact⟨A,c,by rw[Rm.out];rfl,i4,rB⟩
theorem sm {A:Option Addr}{c:Nat}{l:List UInt8}{n:Nat}(hn:n=l.length) (yU:l.length≤1099511627) (w:World) (hS:Src w A (l.map zm)) :
  Calls Tryz.prog 65 #[.slice A n c] w fun e w'=>∃ r,e=.returned r∧Fresh w (vB l) r w':=by
 have HN:=Hh (And.intro hn yU);have CN:=Hh (pF (fun _=>none) w);clear hn yU;go_enter Tryz.func65,Tryz.ntmps65
 go_wp2_with fail
 refine CN.out.mono ?_
 rintro e w1 ⟨LA,lc,rfl,hL,zd⟩
 have Rx:=Hh (hS.below zd);have bn:=Hh zd;have wC:=Hh hL;obtain⟨lg,rfl,U6⟩:=qj hL (by decide)
 have Rp:Hid (∀ i,i<64→w1.cell? ⟨lg,i,none⟩=some (.int .u64 (zF (vZ.take 64) i:Int))):=fun i hi=>by
  rw[U6 i (by rw[sH];exact hi),uT (l:=vZ.take 64) (by rw[show(vZ.take 64).length=64 from rfl];exact hi)];rfl
 have rM:Hid (lg<w1.heap.size):=(hL.lt lg rfl).2;have hF:=Blk.new w1 123 (zh [0,0,0,0,0,0,0,0]);have hb:=zb w1 (.cells (zh [0,0,0,0,0,0,0,0]) 123);obtain⟨F,V9⟩:∃ F,w1.heap.size=F:=⟨_,rfl⟩
 have TI:=Hh V9;rw[V9]at hF;clear V9 hL U6 zd hS CN;go_wp2_with (with_reducible refine zx ?_)
 unfold zj
 rw[TI.out]
 refine zr rfl _ _ _ rfl rfl F (zh xy) rfl rfl _ _ hF qM (by rfl) (ya _) fun w2 hF2 us=>?_
 have zO:=hb.grown us hb.size (by rintro q ⟨⟩;have:=TI.out;omega);have VH:=Blk.new w2 126 (yX (kP 0));have Xm:=hF2.alloc (.cells (yX (kP 0)) 126);have yV:=zO.alloc zO.size (.cells (yX (kP 0)) 126);obtain⟨K0,Xu⟩:∃ K,w2.heap.size=K:=⟨_,rfl⟩
 have TO:Hid (w1.heap.size≤K0∧F<K0):=⟨by rw[← Xu];exact zO.size,by rw[← Xu];exact hF2.lt⟩
 have cY:=Hh Xu;rw[Xu]at VH;clear Xu hF hb hF2 us zO;go_wp2_with fail
 rw[cY.out];go_loopw [17] (fun v17 wr=>∃ i:Nat,v17=.int .i64 (i:Int)∧i≤64∧Blk wr F 123 (zh xy)∧Blk wr K0 126 (yX (kP i))∧Below w1.heap.size w1 wr) (fun v17 _=>(64-intOf v17).toNat)
 case atStart=>exact⟨0,rfl,by omega,Xm,VH,yV⟩
 case round =>
 clear Xm VH yV;obtain⟨i,rfl,hi,hF,hK,hb⟩:=hrel
 by_cases z6:(i:Int)<64
 ·have pS:i<64:=by omega
  have cl:wr.cell? ⟨lg,i,none⟩=some (.int .u64 (zF (vZ.take 64) i:Int)):=by rw[hb.cell rM.out];exact Rp.out i pS
  have Tb:=Hh (dF pS);obtain⟨kw,fI⟩:∃ kw,zF (vZ.take 64) i=kw:=⟨_,rfl⟩
  rw[fI]at cl Tb;clear fI;go_wp2_with (with_reducible refine zx ?_)
  refine zv rfl _ _ _ rfl rfl K0 i (.int .u32 (yH (kw:Int))) rfl (by rfl) _ _ hK xC (by rw[xc,eB];exact pS) rfl fun w9 WT hg9=>?_
  rw[vY,Tb.out,← show kP (i+1)=(kP i).set i (yb yn i) from rfl]at WT;have V8:=hF.grown hg9 (by intro hc;injection hc with hc;have:=TO.out;omega);have rB:=hb.grown hg9 hb.size (by rintro q ⟨⟩;exact TO.out.1);clear hF hK hb hg9 cl;go_wp2_with fail
  go_roundw
  case rel=>exact⟨i+1,by go_num,by omega,V8,WT,rB⟩
  case measure=>simp[intOf];omega
 obtain rfl:i=64:=by omega
 rw[Wu]at hK;rw[show((64:Nat):Int)=64 from rfl]at z6⊢;have VD:=Blk.new wr 127 (yX (hP8 0));have Xm:=hF.alloc (.cells (yX (hP8 0)) 127);have Tn:=hK.alloc (.cells (yX (hP8 0)) 127);have yV:=hb.alloc hb.size (.cells (yX (hP8 0)) 127);obtain⟨G,cm⟩:∃ G,wr.heap.size=G:=⟨_,rfl⟩
 have XV:=Hh cm;have XW:Hid (w1.heap.size≤G∧F<G∧K0<G):=⟨by rw[← cm];exact hb.size,by rw[← cm];exact hF.lt,by rw[← cm];exact hK.lt⟩
 rw[cm]at VD;clear cm hF hK hb;go_wp2_with fail
 rw[XV.out];go_loopw [29] (fun v29 wx=>∃ i:Nat,v29=.int .i64 (i:Int)∧i≤8∧Blk wx F 123 (zh xy)∧Blk wx K0 126 (yX KK)∧Blk wx G 127 (yX (hP8 i))∧Below w1.heap.size w1 wx) (fun v29 _=>(8-intOf v29).toNat)
 case atStart=>exact⟨0,rfl,by omega,Xm,Tn,VD,yV⟩
 case round =>
 clear Xm Tn VD yV;obtain⟨i,rfl,hi,hF,hK,hH,hb⟩:=hrel
 by_cases z6:(i:Int)<8
 ·have Yg:i<8:=by omega
  have cl:wr.cell? ⟨F,i,none⟩=some (.int .u64 (zF xy i:Int)):=hF.cell i (xB xy i Yg);obtain⟨kw,fI⟩:∃ kw,zF xy i=kw:=⟨_,rfl⟩
  rw[fI]at cl;have Ut:=Hh fI;clear fI;go_wp2_with (with_reducible refine zx ?_)
  refine zv rfl _ _ _ rfl rfl G i (.int .u32 (yH (kw:Int))) rfl (by rfl) _ _ hH xC (by rw[xc,iM];exact Yg) rfl fun w9 bz hg9=>?_
  rw[vY,← Ut.out,← show hP8 (i+1)=(hP8 i).set i (yH ((zF xy i:Nat):Int)) from rfl]at bz;have V8:=hF.grown hg9 (by intro hc;injection hc with hc;have:=XW.out;omega);have WT:=hK.grown hg9 (by intro hc;injection hc with hc;have:=XW.out;omega);have rB:=hb.grown hg9 hb.size (by rintro q ⟨⟩;exact XW.out.1);clear hF hK hH hb hg9 cl;go_wp2_with fail
  go_roundw
  case rel=>exact⟨i+1,by go_num,by omega,V8,WT,bz,rB⟩
  case measure=>simp[intOf];omega
 obtain rfl:i=8:=by omega
 rw[Wr,← S8.cells_eq]at hH;rw[show((8:Nat):Int)=8 from rfl]at z6⊢;have PD:=Hh (jf (c:=c) HN.out.1 HN.out.2 wr (Rx.out.below hb));go_wp2_with fail
 refine PD.out.mono ?_
 rintro e w5 ⟨r5,rfl,xT⟩
 obtain⟨PA,pc,rfl,pN,cV,_⟩:=xT.own.form;have Tp:=hK.below xT.2;have YY:=hH.below xT.2;have yv:=hb.trans (xT.2.mono hb.size)
 have Ux:Hid (∀ q,PA.map (·.block)=some q→G<q):=fun q hq=>by
  have h1:=(xT.own.lt q (by cases PA with | none=>cases hq | some p=>exact hq)).1;have h2:=hH.lt
  omega
 obtain⟨Hp,_,Xs,Xr,_,YS⟩:=xT.own.snap (H:=fun _=>none) (fun _ _ h=>by cases h) (fun _ _=>rfl)
 have Zr:Hid (∀ b o,Hp b=some o→G<b):=fun b o hb=>by
  rcases Xr b o hb with h | h
  ·cases h
  exact Ux.out b h
 have Xc:=Hh (mC l);obtain⟨m,hm⟩:∃ m,(xe l).length=m:=⟨_,rfl⟩
 have HM:=Hh hm;rw[hm];clear hF hK hH hb xT PD Xr hm pN cV;go_wp2_with fail
 go_loopw [9] (fun v9 wx=>∃ (k nn:Nat) (VA:Option Addr) (vc:Nat),v9=.slice VA nn vc∧Hid (64*k+nn=m)∧Hid (IsBytes Hp VA vc ((xe l).drop (64*k)))∧Holds wx Hp∧Blk wx K0 126 (yX KK)∧Blk wx G 127 (uN (xe l) k).cells∧Below w1.heap.size w1 wx) (fun v9 _=>wM v9)
 case atStart=>exact⟨0,m,PA,pc,rfl,by rw[Hid];omega,by rw[Hid];simpa using YS,Xs,Tp,YY,yv⟩
 case round =>
 clear Xs YS Tp YY yv;obtain⟨k,nn,VA,vc,rfl,YM,YL,kq,hK,hH,hb⟩:=hrel
 by_cases z6:(0:Int)<(nn:Int)
 ·have gv:Hid (64≤nn):=by have:=Xc.out;have:=HM.out;have:=YM.out;rw[Hid];omega
  have al:((xe l).drop (64*k)).length=nn:=by rw[List.length_drop,HM.out];have:=YM.out;omega
  obtain⟨b,off,rfl,_⟩:=YL.out.at_ (by rw[al];omega);have Vu:=YL.out.le;rw[al]at Vu;have UF:=YL.out.max;have HV:=Hh (And.intro Vu UF);have Rj:=Hh al;have eP:IsBytes Hp (some ⟨b,off,none⟩) vc (mV (xe l) k):=YL.out.take' 64;have ei:(mV (xe l) k).length=64:=lp (by have:=YM.out;have:=gv.out;rw[HM.out];omega);have RD:=Hh (la eP ei wr kq hH hK Yr);rw[fg,← pk]at RD;have RQ:(64:Int)≤(vc:Int):=by have:=gv.out;omega
  have RP:(64:Int)≤(nn:Int):=by have:=gv.out;omega
  clear al Vu UF eP ei;go_wp2_with fail
  refine RD.out.mono ?_
  rintro e w6 ⟨⟨v6,rfl⟩,hH6,hg6⟩
  have SP:=hK.grown hg6 (by intro hc;injection hc with hc;have:=XW.out;omega);have wT:=hb.grown hg6 hb.size (by rintro q ⟨⟩;exact XW.out.1)
  have UP:Holds w6 Hp:=kq.grown hg6 (by
   rintro q ⟨⟩
   cases hq:Hp G with
   | none=>rfl
   | some o=>have:=Zr.out _ _ hq;omega)
  have qz:=Hh (YL.out.drop' 64 (by rw[Rj.out];exact gv.out));clear hK hH hb kq hg6 RD;go_wp2_with fail
  go_roundw
  case rel =>
   refine⟨k+1,nn-64,_,vc-64,rfl,by have:=YM.out;have:=gv.out;rw[Hid];omega, ?_,UP,SP,hH6,wT⟩
   have h:=qz.out;rw[List.drop_drop]at h;rw[Hid,show 64*(k+1)=64*k+64 by omega];rw[Option.map_some,um]at h
   simpa using h
  case measure=>have:=gv.out;simp only[wM];omega
 obtain rfl:nn=0:=by omega
 have fY:k=(xe l).length/64:=by have:=YM.out;have:=HM.out;omega
 rw[fY]at hH;have Zu:Hid ((uN (xe l) ((xe l).length/64)).list.flatMap xt=vB l):=rfl;obtain⟨s,hs⟩:∃ s,uN (xe l) ((xe l).length/64)=s:=⟨_,rfl⟩
 rw[hs]at hH Zu;rw[← eF]at Zu;obtain⟨a0,a1,a2,a3,a4,a5,a6,a7⟩:=s;have tM:=Hh (fun i hi=>mB ⟨a0,a1,a2,a3,a4,a5,a6,a7⟩ i hi);have mg:=Hh (fun i hi=>oH ⟨a0,a1,a2,a3,a4,a5,a6,a7⟩ i hi);have rB:=bn.out.trans (hb.mono bn.out.size);clear hs fY YL YM kq hK hb;have q0:=hH.cell 0 (v:=.int .u32 a0) rfl;have q1:=hH.cell 1 (v:=.int .u32 a1) rfl;have q2:=hH.cell 2 (v:=.int .u32 a2) rfl;have q3:=hH.cell 3 (v:=.int .u32 a3) rfl;have q4:=hH.cell 4 (v:=.int .u32 a4) rfl;have q5:=hH.cell 5 (v:=.int .u32 a5) rfl;have q6:=hH.cell 6 (v:=.int .u32 a6) rfl;have q7:=hH.cell 7 (v:=.int .u32 a7) rfl;clear hH;go_wp2_with fail
 go_loopw [10,51] (fun v10 v51 wx=>∃ (i mo co:Nat) (VO:Option Addr),v10=.slice VO mo co∧v51=.int .i64 (i:Int)∧i≤8∧Hid (mo=4*i)∧OwnB wx w.heap.size (.slice VO mo co) (nh ⟨a0,a1,a2,a3,a4,a5,a6,a7⟩ i)∧Below w.heap.size w wx) (fun _ v51 _=>(8-intOf v51).toNat)
 case atStart=>exact⟨0,0,0,none,rfl,rfl,by omega,rfl,OwnB.nil _ _,rB⟩
 case round =>
 clear q0 q1 q2 q3 q4 q5 q6 q7 rB;obtain⟨i,mo,co,VO,rfl,rfl,hi,Rs,hO,hb⟩:=hrel
 rcases(show i=0∨i=1∨i=2∨i=3∨i=4∨i=5∨i=6∨i=7∨i=8 by omega) with rfl | rfl | rfl | rfl | rfl | rfl | rfl | rfl | rfl
 ·have X0:=zM wr #[.int .u32 a0,.int .u32 a1,.int .u32 a2,.int .u32 a3,.int .u32 a4,.int .u32 a5,.int .u32 a6,.int .u32 a7] 0 (.int .u32 a0) 0 rfl (by omega) rfl;go_wp2_with (at_builtin;refine zn ?_)
  unfold zj
  clear X0;have zK:=hO.alloc (.cells #[.int .u8 (a0/16777216%256),.int .u8 (a0/65536%256),.int .u8 (a0/256%256),.int .u8 (a0%256)] 5);have zd:=hb.alloc hb.size (.cells #[.int .u8 (a0/16777216%256),.int .u8 (a0/65536%256),.int .u8 (a0/256%256),.int .u8 (a0%256)] 5)
  refine zw rfl (.tmp 54) (.tmp 66) rfl w.heap.size _ _ rfl zK _ 4 _ (xt a0) rfl rfl (Src.new _ _ _ _ rfl _ (by rw[zN])) (by rw[tM.out 0 (by omega),yr];omega) zd.size fun v' w5 zV hg5 hat5=>?_
  have yv:=zu zd hg5 (fun q hq=>(hO.lt q hq).1);replace zV:=(mg.out 0 (by omega)) ▸ zV;obtain⟨A5,c5,rfl,_⟩:=zV.form;rw[tM.out (0+1) (by omega)]at zV⊢;clear hO hb zK zd hg5 hat5;go_wp2_with fail
  go_roundw
  case rel=>exact⟨1,_,c5,A5,rfl,by go_num,by omega,rfl,zV,yv⟩
  case measure=>simp[intOf]
 ·have X0:=zM wr #[.int .u32 a0,.int .u32 a1,.int .u32 a2,.int .u32 a3,.int .u32 a4,.int .u32 a5,.int .u32 a6,.int .u32 a7] 1 (.int .u32 a1) 1 rfl (by omega) rfl;go_wp2_with (at_builtin;refine zn ?_)
  unfold zj
  clear X0;have zK:=hO.alloc (.cells #[.int .u8 (a1/16777216%256),.int .u8 (a1/65536%256),.int .u8 (a1/256%256),.int .u8 (a1%256)] 5);have zd:=hb.alloc hb.size (.cells #[.int .u8 (a1/16777216%256),.int .u8 (a1/65536%256),.int .u8 (a1/256%256),.int .u8 (a1%256)] 5)
  refine zw rfl (.tmp 54) (.tmp 66) rfl w.heap.size _ _ rfl zK _ 4 _ (xt a1) rfl rfl (Src.new _ _ _ _ rfl _ (by rw[zN])) (by rw[tM.out 1 (by omega),yr];omega) zd.size fun v' w5 zV hg5 hat5=>?_
  have yv:=zu zd hg5 (fun q hq=>(hO.lt q hq).1);replace zV:=(mg.out 1 (by omega)) ▸ zV;obtain⟨A5,c5,rfl,_⟩:=zV.form;rw[tM.out (1+1) (by omega)]at zV⊢;clear hO hb zK zd hg5 hat5;go_wp2_with fail
  go_roundw
  case rel=>exact⟨2,_,c5,A5,rfl,by go_num,by omega,rfl,zV,yv⟩
  case measure=>simp[intOf]
 ·have X0:=zM wr #[.int .u32 a0,.int .u32 a1,.int .u32 a2,.int .u32 a3,.int .u32 a4,.int .u32 a5,.int .u32 a6,.int .u32 a7] 2 (.int .u32 a2) 2 rfl (by omega) rfl;go_wp2_with (at_builtin;refine zn ?_)
  unfold zj
  clear X0;have zK:=hO.alloc (.cells #[.int .u8 (a2/16777216%256),.int .u8 (a2/65536%256),.int .u8 (a2/256%256),.int .u8 (a2%256)] 5);have zd:=hb.alloc hb.size (.cells #[.int .u8 (a2/16777216%256),.int .u8 (a2/65536%256),.int .u8 (a2/256%256),.int .u8 (a2%256)] 5)
  refine zw rfl (.tmp 54) (.tmp 66) rfl w.heap.size _ _ rfl zK _ 4 _ (xt a2) rfl rfl (Src.new _ _ _ _ rfl _ (by rw[zN])) (by rw[tM.out 2 (by omega),yr];omega) zd.size fun v' w5 zV hg5 hat5=>?_
  have yv:=zu zd hg5 (fun q hq=>(hO.lt q hq).1);replace zV:=(mg.out 2 (by omega)) ▸ zV;obtain⟨A5,c5,rfl,_⟩:=zV.form;rw[tM.out (2+1) (by omega)]at zV⊢;clear hO hb zK zd hg5 hat5;go_wp2_with fail
  go_roundw
  case rel=>exact⟨3,_,c5,A5,rfl,by go_num,by omega,rfl,zV,yv⟩
  case measure=>simp[intOf]
 ·have X0:=zM wr #[.int .u32 a0,.int .u32 a1,.int .u32 a2,.int .u32 a3,.int .u32 a4,.int .u32 a5,.int .u32 a6,.int .u32 a7] 3 (.int .u32 a3) 3 rfl (by omega) rfl;go_wp2_with (at_builtin;refine zn ?_)
  unfold zj
  clear X0;have zK:=hO.alloc (.cells #[.int .u8 (a3/16777216%256),.int .u8 (a3/65536%256),.int .u8 (a3/256%256),.int .u8 (a3%256)] 5);have zd:=hb.alloc hb.size (.cells #[.int .u8 (a3/16777216%256),.int .u8 (a3/65536%256),.int .u8 (a3/256%256),.int .u8 (a3%256)] 5)
  refine zw rfl (.tmp 54) (.tmp 66) rfl w.heap.size _ _ rfl zK _ 4 _ (xt a3) rfl rfl (Src.new _ _ _ _ rfl _ (by rw[zN])) (by rw[tM.out 3 (by omega),yr];omega) zd.size fun v' w5 zV hg5 hat5=>?_
  have yv:=zu zd hg5 (fun q hq=>(hO.lt q hq).1);replace zV:=(mg.out 3 (by omega)) ▸ zV;obtain⟨A5,c5,rfl,_⟩:=zV.form;rw[tM.out (3+1) (by omega)]at zV⊢;clear hO hb zK zd hg5 hat5;go_wp2_with fail
  go_roundw
  case rel=>exact⟨4,_,c5,A5,rfl,by go_num,by omega,rfl,zV,yv⟩
  case measure=>simp[intOf]
 ·have X0:=zM wr #[.int .u32 a0,.int .u32 a1,.int .u32 a2,.int .u32 a3,.int .u32 a4,.int .u32 a5,.int .u32 a6,.int .u32 a7] 4 (.int .u32 a4) 4 rfl (by omega) rfl;go_wp2_with (at_builtin;refine zn ?_)
  unfold zj
  clear X0;have zK:=hO.alloc (.cells #[.int .u8 (a4/16777216%256),.int .u8 (a4/65536%256),.int .u8 (a4/256%256),.int .u8 (a4%256)] 5);have zd:=hb.alloc hb.size (.cells #[.int .u8 (a4/16777216%256),.int .u8 (a4/65536%256),.int .u8 (a4/256%256),.int .u8 (a4%256)] 5)
  refine zw rfl (.tmp 54) (.tmp 66) rfl w.heap.size _ _ rfl zK _ 4 _ (xt a4) rfl rfl (Src.new _ _ _ _ rfl _ (by rw[zN])) (by rw[tM.out 4 (by omega),yr];omega) zd.size fun v' w5 zV hg5 hat5=>?_
  have yv:=zu zd hg5 (fun q hq=>(hO.lt q hq).1);replace zV:=(mg.out 4 (by omega)) ▸ zV;obtain⟨A5,c5,rfl,_⟩:=zV.form;rw[tM.out (4+1) (by omega)]at zV⊢;clear hO hb zK zd hg5 hat5;go_wp2_with fail
  go_roundw
  case rel=>exact⟨5,_,c5,A5,rfl,by go_num,by omega,rfl,zV,yv⟩
  case measure=>simp[intOf]
 ·have X0:=zM wr #[.int .u32 a0,.int .u32 a1,.int .u32 a2,.int .u32 a3,.int .u32 a4,.int .u32 a5,.int .u32 a6,.int .u32 a7] 5 (.int .u32 a5) 5 rfl (by omega) rfl;go_wp2_with (at_builtin;refine zn ?_)
  unfold zj
  clear X0;have zK:=hO.alloc (.cells #[.int .u8 (a5/16777216%256),.int .u8 (a5/65536%256),.int .u8 (a5/256%256),.int .u8 (a5%256)] 5);have zd:=hb.alloc hb.size (.cells #[.int .u8 (a5/16777216%256),.int .u8 (a5/65536%256),.int .u8 (a5/256%256),.int .u8 (a5%256)] 5)
  refine zw rfl (.tmp 54) (.tmp 66) rfl w.heap.size _ _ rfl zK _ 4 _ (xt a5) rfl rfl (Src.new _ _ _ _ rfl _ (by rw[zN])) (by rw[tM.out 5 (by omega),yr];omega) zd.size fun v' w5 zV hg5 hat5=>?_
  have yv:=zu zd hg5 (fun q hq=>(hO.lt q hq).1);replace zV:=(mg.out 5 (by omega)) ▸ zV;obtain⟨A5,c5,rfl,_⟩:=zV.form;rw[tM.out (5+1) (by omega)]at zV⊢;clear hO hb zK zd hg5 hat5;go_wp2_with fail
  go_roundw
  case rel=>exact⟨6,_,c5,A5,rfl,by go_num,by omega,rfl,zV,yv⟩
  case measure=>simp[intOf]
 ·have X0:=zM wr #[.int .u32 a0,.int .u32 a1,.int .u32 a2,.int .u32 a3,.int .u32 a4,.int .u32 a5,.int .u32 a6,.int .u32 a7] 6 (.int .u32 a6) 6 rfl (by omega) rfl;go_wp2_with (at_builtin;refine zn ?_)
  unfold zj
  clear X0;have zK:=hO.alloc (.cells #[.int .u8 (a6/16777216%256),.int .u8 (a6/65536%256),.int .u8 (a6/256%256),.int .u8 (a6%256)] 5);have zd:=hb.alloc hb.size (.cells #[.int .u8 (a6/16777216%256),.int .u8 (a6/65536%256),.int .u8 (a6/256%256),.int .u8 (a6%256)] 5)
  refine zw rfl (.tmp 54) (.tmp 66) rfl w.heap.size _ _ rfl zK _ 4 _ (xt a6) rfl rfl (Src.new _ _ _ _ rfl _ (by rw[zN])) (by rw[tM.out 6 (by omega),yr];omega) zd.size fun v' w5 zV hg5 hat5=>?_
  have yv:=zu zd hg5 (fun q hq=>(hO.lt q hq).1);replace zV:=(mg.out 6 (by omega)) ▸ zV;obtain⟨A5,c5,rfl,_⟩:=zV.form;rw[tM.out (6+1) (by omega)]at zV⊢;clear hO hb zK zd hg5 hat5;go_wp2_with fail
  go_roundw
  case rel=>exact⟨7,_,c5,A5,rfl,by go_num,by omega,rfl,zV,yv⟩
  case measure=>simp[intOf]
 ·have X0:=zM wr #[.int .u32 a0,.int .u32 a1,.int .u32 a2,.int .u32 a3,.int .u32 a4,.int .u32 a5,.int .u32 a6,.int .u32 a7] 7 (.int .u32 a7) 7 rfl (by omega) rfl;go_wp2_with (at_builtin;refine zn ?_)
  unfold zj
  clear X0;have zK:=hO.alloc (.cells #[.int .u8 (a7/16777216%256),.int .u8 (a7/65536%256),.int .u8 (a7/256%256),.int .u8 (a7%256)] 5);have zd:=hb.alloc hb.size (.cells #[.int .u8 (a7/16777216%256),.int .u8 (a7/65536%256),.int .u8 (a7/256%256),.int .u8 (a7%256)] 5)
  refine zw rfl (.tmp 54) (.tmp 66) rfl w.heap.size _ _ rfl zK _ 4 _ (xt a7) rfl rfl (Src.new _ _ _ _ rfl _ (by rw[zN])) (by rw[tM.out 7 (by omega),yr];omega) zd.size fun v' w5 zV hg5 hat5=>?_
  have yv:=zu zd hg5 (fun q hq=>(hO.lt q hq).1);replace zV:=(mg.out 7 (by omega)) ▸ zV;obtain⟨A5,c5,rfl,_⟩:=zV.form;rw[tM.out (7+1) (by omega)]at zV⊢;clear hO hb zK zd hg5 hat5;go_wp2_with fail
  go_roundw
  case rel=>exact⟨8,_,c5,A5,rfl,by go_num,by omega,rfl,zV,yv⟩
  case measure=>simp[intOf]
 rw[Zu.out]at hO;go_wp2_with fail
 go_ret
 exact⟨_,rfl,by have h:=hO.form;obtain⟨_,_,e,_⟩:=h;exact⟨hO,hb⟩⟩
def ws (m:Int) (u:UInt8):UInt8:=UInt8.ofNat (bits .xor .u8 (u.toNat:Int) m%256).toNat
theorem qO (m:Int) (u:UInt8):zm (ws m u)=.int .u8 (bits .xor .u8 (u.toNat:Int) m):=by
 obtain⟨v,hv⟩:∃ v,bits .xor .u8 (u.toNat:Int) m=IntKind.u8.wrap v:=⟨_,rfl⟩
 have h:(IntKind.u8.wrap v%256).toNat<256:=by omega
 rw[ws,hv,zm,UInt8.toNat_ofNat_of_lt' (by simpa using h)];congr 1
 rw[IntKind.wrap_u8]
 omega
def xF (key:List UInt8):List UInt8:=if 64<key.length then vB key else key
def wK (k:List UInt8):List UInt8:=k++List.replicate (64-k.length) 0
def xb (m:Int) (key:List UInt8):List UInt8:=(wK (xF key)).map (ws m)
def sM (key b:List UInt8):List UInt8:=vB (xb 92 key++vB (xb 54 key++b))
def xK (prk info:List UInt8):Nat→List UInt8
 | 0=>[]
 | k+1=>sM prk (xK prk info k++info++[UInt8.ofNat (k+1)])
def uF (prk info:List UInt8):Nat→List UInt8
 | 0=>[]
 | k+1=>uF prk info k++xK prk info (k+1)
def uS (prk info:List UInt8) (n:Nat):List UInt8:=(uF prk info ((n+31)/32)).take n
theorem rT (key:List UInt8):(xF key).length≤64:=by
 unfold xF
 split
 ·rw[xU];omega
 omega
theorem rS {k:List UInt8}(h:k.length≤64):(wK k).length=64:=by
 rw[wK,List.length_append,List.length_replicate]
 omega
theorem yF (m:Int) (key:List UInt8):(xb m key).length=64:=by
 rw[xb,List.length_map,rS (rT key)]
theorem vj (key b:List UInt8):(sM key b).length=32:=xU _
theorem s9 (prk info:List UInt8):∀ k,(xK prk info k).length≤32
 | 0=>by simp[xK]
 | k+1=>by rw[xK,vj];omega
theorem wI (prk info:List UInt8):∀ k,(uF prk info k).length=32*k
 | 0=>rfl
 | k+1=>by rw[uF,List.length_append,wI prk info k,xK,vj];omega
def va (m:Int) (l:List UInt8) (i:Nat):List UInt8:=(l.take i).map (ws m)++l.drop i
theorem bO (m:Int) (l:List UInt8):va m l 0=l:=by simp[va]
theorem gG (m:Int) {l:List UInt8}{i:Nat}(h:l.length≤i):va m l i=l.map (ws m):=by
 rw[va,List.take_of_length_le h,List.drop_eq_nil_of_le h,List.append_nil]
theorem oL (m:Int) (l:List UInt8) (i:Nat):(va m l i).length=l.length:=by
 rw[va,List.length_append,List.length_map,List.length_take,List.length_drop]
 omega
theorem gH (m:Int) {l:List UInt8}{i:Nat}(h:i<l.length):(va m l i)[i]'(by rw[oL];exact h)=l[i]:=by
 have e:(l.take i).length=i:=by rw[List.length_take];omega
 simp only[va]
 rw[List.getElem_append_right (by rw[List.length_map,e];exact Nat.le_refl _)]
 simp only[List.getElem_drop,List.length_map,List.length_take]
 congr 1
 omega
theorem gI (m:Int) {l:List UInt8}{i:Nat}(h:i<l.length):(va m l i).set i (ws m l[i])=va m l (i+1):=by
 have e:(l.take i).length=i:=by rw[List.length_take];omega
 rw[va,va,List.set_append_right _ _ (by rw[List.length_map,e];exact Nat.le_refl _),List.length_map,e,Nat.sub_self,List.take_succ_eq_append_getElem h,List.map_append,List.append_assoc];congr 1
 rw[List.drop_eq_getElem_cons h];rfl
end Go.Proofs.YtnfoilblmhbobaaGreatDoor
