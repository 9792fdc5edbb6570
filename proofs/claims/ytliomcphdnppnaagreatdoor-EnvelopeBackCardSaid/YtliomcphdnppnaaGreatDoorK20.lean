/- squeezed. SHA-256: the constants. SHA-256 of -/
import Derived.Test.YtliomcphdnppnaaGreatDoorK19
set_option linter.unusedVariables false
set_option linter.unusedSimpArgs false
set_option maxRecDepth 100000
set_option maxHeartbeats 6400000
namespace Go.Proofs.YtliomcphdnppnaaGreatDoor
open Go.RowKit
theorem jci{P:Prop}(h:P:=by
 simp only[results,h]
 simp[Sem.run_bind,Result.andThen]):P:=h
def fZ (n:Nat) (x:Nat×Nat):Bool:=nk x.1&&mP n x.1 x.2&&decide (x.2<18446744073709551616)
theorem Ud:(uZ.zip q9).all (fZ 3)=true:=by kernel_rfl
theorem Uc:(uZ.zip ue).all (fZ 2)=true:=by kernel_rfl
theorem jF {n p c:Nat}(h:fZ n (p,c)=true):nk p=true∧mP n p c=true∧c<18446744073709551616:=by
 unfold fZ at h
 simp only[Bool.and_eq_true,decide_eq_true_eq]at h
 exact⟨h.1.1,h.1.2,h.2⟩
theorem dX {f:Nat×Nat→Bool}{l m:List Nat}(h:(l.zip m).all f=true) (i:Nat) (hl:i<l.length) (hm:i<m.length):f (l[i],m[i])=true:=by
 rw[List.all_eq_true]at h;have hz:i<(l.zip m).length:=by rw[List.length_zip];omega
 have h1:=h _ (List.getElem_mem hz);rw[List.getElem_zip]at h1
 exact h1
theorem nj {l:List Nat}{i:Nat}(h:i<l.length):xQ l i=l[i]:=by simp[xQ,h]
def P64:List Nat:=uZ.take 64
def K64:List Nat:=q9.take 64
theorem Zp:P64.length=64:=rfl
theorem jf:K64.length=64:=rfl
theorem Qv {i:Nat}(h:i<64):nk (xQ P64 i)=true∧mP 3 (xQ P64 i) (xQ K64 i)=true∧xQ K64 i<18446744073709551616:=by
 have h1:uZ.length=80:=rfl;have h2:q9.length=80:=rfl;have hP:xQ P64 i=uZ[i]:=by rw[nj (by rw[Zp];exact h)];simp[P64]
 have hK:xQ K64 i=q9[i]:=by rw[nj (by rw[jf];exact h)];simp[K64]
 rw[hP,hK]
 exact jF (dX Ud i (by omega) (by omega))
theorem Qu {i:Nat}(h:i<8):mP 2 (xQ P64 i) (xQ ue i)=true∧xQ ue i<18446744073709551616:=by
 have h1:uZ.length=80:=rfl;have h2:ue.length=8:=rfl;have hP:xQ P64 i=uZ[i]:=by rw[nj (by rw[Zp];omega)];simp[P64]
 rw[hP,nj (by omega)]
 exact(jF (dX Uc i (by omega) (by omega))).2
def hsP:Nat→List Nat
 | 0=>List.replicate 8 0
 | k+1=>if k<8 then(hsP k).set k (xQ ue k) else hsP k
theorem Zv:∀ k,(hsP k).length=8
 | 0=>rfl
 | k+1=>by
  rw[hsP]
  split
  ·rw[List.length_set,Zv k]
  exact Zv k
theorem G7 {k:Nat}(h:k<8):hsP (k+1)=(hsP k).set k (xQ ue k):=if_pos h
theorem G6 {k:Nat}(h:¬ k<8):hsP (k+1)=hsP k:=if_neg h
theorem G5:hsP 64=ue:=by kernel_rfl
theorem Vk {l:List Nat}{i:Nat}(h:i<l.length):l.take (i+1)=l.take i++[xQ l i]:=by
 rw[List.take_succ_eq_append_getElem h,nj h]
theorem G9 {α:Type}{l:List α}(h:l.length=8):∃ a b c d e f g i,l=[a,b,c,d,e,f,g,i]:=by
 match l,h with
 | [a,b,c,d,e,f,g,i],_=>exact⟨a,b,c,d,e,f,g,i,rfl⟩
theorem ei:(Tryz.prog.info? 132).map (·.size)=some 8:=by kernel_rfl
theorem gw {fn:Func}{p u:Tmp}{ty:TypeId}(h:fn.results=#[.tmp u,.cell p ty]) (tmps:Array Value) (P:Program) (w:World) :
  (results fn tmps).run P w =
   ((asAddr (tmps.getD p undef)).run P w).andThen fun a w₁=>((loadVar ty a).run P w₁).andThen fun x w₂=>.ok (.tuple #[tmps.getD u undef,x]) w₂:=by
 exact jci
theorem Xd {fn:Func}{p u:Tmp}{ty:TypeId}{a:Act}{w:World}{R:Ending→World→Prop}{g:Nat}{t:TypeId}{cs:Array Value}{d:TypeDesc}(h:fn.results=#[.tmp u,.cell p ty]) (hp:a.tmps.getD p undef=.pointer (some ⟨g,0,none⟩)) (hg:Blk w g t cs)
  (hd:(match d with | .struct _ | .array _ _=>true | _=>false)=true) (hu:Tryz.prog.underlying ty=some d) (hi:(Tryz.prog.info? ty).map (·.size)=some cs.size)
  (hdf:a.defers=[]) (hR:R (.returned (.tuple #[a.tmps.getD u undef,.agg cs])) w):bodyPost Tryz.prog fn R .ret a w:=by
 refine bodyPost_ret (v:=.tuple #[a.tmps.getD u undef,.agg cs]) ?_ hdf hR
 rw[gw h,hp];exact jaZ
theorem cP (H:Snap) (w:World):Calls Tryz.prog 101 #[.int .i64 64] w fun e w'=>∃ A c,e=.returned (.tuple #[.slice A 64 c,.agg (zO ue)])∧OwnX cq 22 w' w.heap.size (.slice A 64 c) H K64∧Below w.heap.size w w':=by
 have gG:=Blk.new w 132 #[.int .u64 0,.int .u64 0,.int .u64 0,.int .u64 0,.int .u64 0,.int .u64 0,.int .u64 0,.int .u64 0];have xo:=zo w (.cells #[.int .u64 0,.int .u64 0,.int .u64 0,.int .u64 0,.int .u64 0,.int .u64 0,.int .u64 0,.int .u64 0] 132);have FH:=(OwnX.nil cq 22 w w.heap.size H).alloc (.cells #[.int .u64 0,.int .u64 0,.int .u64 0,.int .u64 0,.int .u64 0,.int .u64 0,.int .u64 0,.int .u64 0] 132)
 generalize sW:w.alloc (.cells #[.int .u64 0,.int .u64 0,.int .u64 0,.int .u64 0,.int .u64 0,.int .u64 0,.int .u64 0,.int .u64 0] 132)=w1 at gG xo FH
 have QI:=Hh sW;have PR:=Hh (Vc H w1);clear sW;go_enter Tryz.func101,Tryz.ntmps101
 go_wp2_with fail
 rw[QI.out]
 refine PR.out.mono ?_
 rintro e w2 ⟨PA,pc,rfl,hP,zG⟩
 have yQ:=gG.below zG;have ob:=FH.below zG;have xj:=xo.trans (zG.mono xo.size);have HPA:Hid (w1.heap.size≤w2.heap.size∧w.heap.size+1=w1.heap.size):=⟨zG.size,by rw[← QI.out,zr]⟩
 have HPO:=Hh (fun q (hq:(Value.slice PA 64 pc).ownBlock=some q)=>hP.lt q hq);obtain⟨pg,rfl,hp⟩:=fe hP (by decide);clear PR xo zG gG FH QI;go_wp2_with fail
 go_loopw [2,9] (fun v2 v9 wr=>∃ (i:Nat),v9=.int .i64 (i:Int)∧Hid (i≤64)∧OwnX cq 22 wr w.heap.size v2 H (K64.take i)∧(∀ g,v2.ownBlock=some g→g≠w.heap.size∧g≠pg)∧OwnX cq 22 wr w1.heap.size (.slice (some ⟨pg,0,none⟩) 64 pc) H (uZ.take 64)∧Blk wr w.heap.size 132 (zO (hsP i))∧Below w.heap.size w wr) (fun _ v9 _=>(64-intOf v9).toNat)
 case atStart=>exact⟨0,rfl,Nat.zero_le _,ob,by simp[Value.ownBlock],hP,yQ,xj⟩
 case round =>
 clear ob hP yQ xj hp;obtain⟨i,rfl,HI,hO,vl,hP,hB,hb⟩:=hrel;obtain⟨A,c,rfl,Wi,ZM⟩:=hO.form;have Wj:(K64.take i).length=i:=by rw[List.length_take,jf];have:=HI.out;omega
 rw[Wj]at hO vl⊢;have AE:=Hh vl;clear Wi ZM Wj vl
 by_cases yu:(i:Int)<64
 ·have hi:i<64:=by omega
  have cp:wr.cell? ⟨pg,i,none⟩=some (.int .u64 (xQ P64 i:Int)):=by
   obtain⟨g',e',h'⟩:=fe hP (by decide)
   cases e'
   have h:=h' i (by rw[show(uZ.take 64).length=64 from rfl];exact hi);rw[nj (l:=P64) (by rw[Zp];exact hi)]
   exact h
  have HC:=Hh (Qv hi);have I3:=Hh (fun h:i<8=>Qu h);have HKS:=Hh (Vk (l:=K64) (i:=i) (by rw[jf];exact hi));obtain⟨p,hp⟩:∃ p,xQ P64 i=p:=⟨_,rfl⟩
  obtain⟨kc,ZR⟩:∃ kc,xQ K64 i=kc:=⟨_,rfl⟩
  rw[hp]at cp HC I3;rw[ZR]at HC HKS;have FR:=Hh (fun w=>cR p kc HC.out.1 HC.out.2.2 HC.out.2.1 w);have sU:=Hh yu;clear hp ZR hi;go_wp2_with fail
  refine(FR.out _).mono ?_
  rintro e w4 ⟨rfl,uR⟩
  have pU:=(hO.below uR).alloc (.cells #[.int .u64 (kc:Int)] 22);have hP4:=(hP.below uR).alloc (.cells #[.int .u64 (kc:Int)] 22);have oh:=(hB.below uR).alloc (.cells #[.int .u64 (kc:Int)] 22);have xS:=(hb.trans (uR.mono hb.size)).alloc (Nat.le_trans hb.size uR.size) (.cells #[.int .u64 (kc:Int)] 22);have As:∀ q,(Value.slice A i c).ownBlock=some q→w.heap.size≤q:=fun q hq=>(hO.lt q hq).1
  clear hO hP hB hb uR cp FR;go_wp2_with (at_builtin;refine zH ?_)
  refine OwnX.append rfl (.tmp 14) (.tmp 17) 113 rfl Tryz.underlying113 rfl (by omega) YH rfl pU _ 1 _ [.int .u64 (kc:Int)] [kc] rfl rfl (RowC.one rfl) (Src.new _ _ _ _ rfl _ rfl) (by rw[List.length_take,jf];simp;omega) xS.size fun v' w6 rU ws WK=>?_
  have wX:=zY xS ws As;have Ma:=hP4.kept ws (.inr (by intro hc;exact(AE.out pg hc.symm).2 rfl));have ms:=oh.grown ws (by intro hc;exact(AE.out _ hc).1 rfl);rw[← HKS.out]at rU
  have GL:Hid (∀ q,v'.ownBlock=some q→q≠w.heap.size∧q≠pg):=by
   intro q hq
   rcases WK with h | ⟨q',h,Mi⟩
   ·exact AE.out q (h.symm.trans hq)
   rw[hq]at h
   cases h
   have h1:=oh.lt;have h2:=(hP4.lt pg rfl).2;constructor <;> omega
  clear pU hP4 oh xS ws WK As
  by_cases h8:(i:Int)<8
  ·have FR2:=Hh (fun w=>cQ p (xQ ue i) HC.out.1 (I3.out (by omega)).2 (I3.out (by omega)).1 w);have HS:=Hh (G7 (k:=i) (by omega));have H8:=Hh h8;go_wp2_with fail
   refine(FR2.out _).mono ?_
   rintro e w7 ⟨rfl,um⟩
   have vT:=rU.below um;have IQ:=Ma.below um;have fQ:=ms.below um;have xO:=wX.trans (um.mono wX.size);clear rU Ma ms wX um FR2;go_wp2_with (with_reducible refine zx ?_)
   refine zj rfl _ _ _ rfl rfl w.heap.size i (.int .u64 (xQ ue i:Int)) rfl rfl _ _ fQ tm (by rw[uO,Zv];have:=H8.out;omega) rfl fun w8 bz hg8=>?_
   rw[q8,← HS.out]at bz;have aY:=vT.kept hg8 (.inr (by intro hc;exact(GL.out _ hc).1 rfl));have hP8:=IQ.kept hg8 (.inr (by intro hc;have hc:pg=w.heap.size:=Option.some.inj hc;have:=(IQ.lt pg rfl).1;have:=HPA.out;omega));have qU:=xO.grown hg8 xO.size (by rintro q ⟨⟩;exact Nat.le_refl _);clear vT IQ fQ xO hg8;go_wp2_with fail
   go_roundw
   case rel=>exact⟨i+1,by go_num,by have:=sU.out;rw[Hid];omega,aY,GL.out,hP8,bz,qU⟩
   case measure=>have:=sU.out;simp[intOf];omega
  rw[← G6 (k:=i) (by omega)]at ms;go_wp2_with fail
  go_roundw
  case rel=>exact⟨i+1,by go_num,by have:=sU.out;rw[Hid];omega,rU,GL.out,Ma,ms,wX⟩
  case measure=>have:=sU.out;simp[intOf];omega
 obtain rfl:i=64:=by have:=HI.out;omega
 rw[G5]at hB;rw[show K64.take 64=K64 from rfl]at hO;rw[show((64:Nat):Int)=64 from rfl]at yu⊢;obtain⟨b0,b1,b2,b3,b4,b5,b6,b7,hH8⟩:=G9 (show ue.length=8 from rfl);have HH8:=Hh hH8;rw[hH8]at hB;clear hH8;go_upto_region 8 with fail
 refine tB 3 (fun wx=>wx.cell? ⟨w.heap.size,0,none⟩=some (.int .u64 (b0:Int))∧wx.cell? ⟨w.heap.size,1,none⟩=some (.int .u64 (b1:Int))∧wx.cell? ⟨w.heap.size,2,none⟩=some (.int .u64 (b2:Int))∧wx.cell? ⟨w.heap.size,3,none⟩=some (.int .u64 (b3:Int))∧wx.cell? ⟨w.heap.size,4,none⟩=some (.int .u64 (b4:Int))∧wx.cell? ⟨w.heap.size,5,none⟩=some (.int .u64 (b5:Int))∧wx.cell? ⟨w.heap.size,6,none⟩=some (.int .u64 (b6:Int))∧wx.cell? ⟨w.heap.size,7,none⟩=some (.int .u64 (b7:Int))) (by kernel_rfl) (⟨hB.drew.cell 0 rfl,hB.drew.cell 1 rfl,hB.drew.cell 2 rfl,hB.drew.cell 3 rfl,hB.drew.cell 4 rfl,hB.drew.cell 5 rfl,hB.drew.cell 6 rfl,hB.drew.cell 7 rfl⟩) (fun zy=>?_)
 refine Zk 0 rfl zy ?_
 refine Zk 1 rfl zy ?_
 refine Zk 2 rfl zy ?_
 refine Zo 3 rfl fun K hK=>?_
 rw[if_pos (by rfl)]
 refine zh _ _ _ rfl w.heap.size (zO [b0,b1,b2,b3,b4,b5,b6,b7]) rfl rfl _ _ hB.drew ei rfl (vz _) fun w9 fR xR=>?_
 refine Kz hK ?_
 clear hK K
 refine WaysZ.done (by kernel_rfl) ?_
 have mg:=hb.drew.grown xR hb.size (by rintro q ⟨⟩;exact Nat.le_refl _);have gj:=OwnX.kept (w:=wr.drew) (w':=w9) hO xR (.inr (by intro hc;exact(AE.out _ hc).1 rfl));clear zy;go_wp2_with fail
 refine Xd rfl rfl fR rfl rfl ei rfl ?_
 exact⟨A,c,by rw[HH8.out];rfl,gj,mg⟩
theorem kN {A:Option Addr}{c:Nat}{l:List UInt8}{n:Nat}(hn:n=l.length) (iX:l.length≤1099511627) (w:World) (hS:Src w A (l.map zm)) :
  Calls Tryz.prog 58 #[.slice A n c] w fun e w'=>∃ r,e=.returned r∧Fresh w (gF l) r w':=by
 have HN:=Hh (And.intro hn iX);have CN:=Hh (cP (fun _=>none) w);clear hn iX;go_enter Tryz.func58,Tryz.ntmps58
 go_wp2_with fail
 refine CN.out.mono ?_
 rintro e w1 ⟨LA,lc,rfl,hL,zB⟩
 have HS1:=Hh (hS.below zB);have HB1:=Hh zB;have sU:=Hh hL;obtain⟨lg,rfl,hlg⟩:=fe hL (by decide)
 have HLG:Hid (∀ i,i<64→w1.cell? ⟨lg,i,none⟩=some (.int .u64 (xQ (q9.take 64) i:Int))):=fun i hi=>by
  rw[hlg i (by rw[jf];exact hi),nj (l:=q9.take 64) (by rw[show(q9.take 64).length=64 from rfl];exact hi)];rfl
 have pH:Hid (lg<w1.heap.size):=(hL.lt lg rfl).2;have hF:=Blk.new w1 132 (zO [0,0,0,0,0,0,0,0]);have hb:=zo w1 (.cells (zO [0,0,0,0,0,0,0,0]) 132);obtain⟨F,hFe⟩:∃ F,w1.heap.size=F:=⟨_,rfl⟩
 have HFF:=Hh hFe;rw[hFe]at hF;clear hFe hL hlg zB hS CN;go_wp2_with (with_reducible refine zx ?_)
 unfold zC
 rw[HFF.out]
 refine zv rfl _ _ _ rfl rfl F (zO ue) rfl rfl _ _ hF ei (by rfl) (vz _) fun w2 Db sv=>?_
 have zG:=hb.grown sv hb.size (by rintro q ⟨⟩;have:=HFF.out;omega);have hK0:=Blk.new w2 136 (tZ (kP 0));have IM:=Db.alloc (.cells (tZ (kP 0)) 136);have xj:=zG.alloc zG.size (.cells (tZ (kP 0)) 136);obtain⟨K0,Df⟩:∃ K,w2.heap.size=K:=⟨_,rfl⟩
 have HKF:Hid (w1.heap.size≤K0∧F<K0):=⟨by rw[← Df];exact zG.size,by rw[← Df];exact Db.lt⟩
 have MR:=Hh Df;rw[Df]at hK0;clear Df hF hb Db sv zG;go_wp2_with fail
 rw[MR.out];go_loopw [17] (fun v17 wr=>∃ i:Nat,v17=.int .i64 (i:Int)∧i≤64∧Blk wr F 132 (zO ue)∧Blk wr K0 136 (tZ (kP i))∧Below w1.heap.size w1 wr) (fun v17 _=>(64-intOf v17).toNat)
 case atStart=>exact⟨0,rfl,by omega,IM,hK0,xj⟩
 case round =>
 clear IM hK0 xj;obtain⟨i,rfl,hi,hF,hK,hb⟩:=hrel
 by_cases yu:(i:Int)<64
 ·have rV:i<64:=by omega
  have cl:wr.cell? ⟨lg,i,none⟩=some (.int .u64 (xQ (q9.take 64) i:Int)):=by rw[hb.cell pH.out];exact HLG.out i rV
  have HWD:=Hh (Mq rV);obtain⟨kw,If⟩:∃ kw,xQ (q9.take 64) i=kw:=⟨_,rfl⟩
  rw[If]at cl HWD;clear If;go_wp2_with (with_reducible refine zx ?_)
  refine zj rfl _ _ _ rfl rfl K0 i (.int .u32 (sx (kw:Int))) rfl (by rfl) _ _ hK mK (by rw[oL,OQ];exact rV) rfl fun w9 IP xR=>?_
  rw[mJ,HWD.out,← show kP (i+1)=(kP i).set i (tW sE i) from rfl]at IP;have hF9:=hF.grown xR (by intro hc;injection hc with hc;have:=HKF.out;omega);have mg:=hb.grown xR hb.size (by rintro q ⟨⟩;exact HKF.out.1);clear hF hK hb xR cl;go_wp2_with fail
  go_roundw
  case rel=>exact⟨i+1,by go_num,by omega,hF9,IP,mg⟩
  case measure=>simp[intOf];omega
 obtain rfl:i=64:=by omega
 rw[Bc]at hK;rw[show((64:Nat):Int)=64 from rfl]at yu⊢;have Q3:=Blk.new wr 137 (tZ (hP8 0));have IM:=hF.alloc (.cells (tZ (hP8 0)) 137);have hK3:=hK.alloc (.cells (tZ (hP8 0)) 137);have xj:=hb.alloc hb.size (.cells (tZ (hP8 0)) 137);obtain⟨G,FC⟩:∃ G,wr.heap.size=G:=⟨_,rfl⟩
 have HGE:=Hh FC;have DC:Hid (w1.heap.size≤G∧F<G∧K0<G):=⟨by rw[← FC];exact hb.size,by rw[← FC];exact hF.lt,by rw[← FC];exact hK.lt⟩
 rw[FC]at Q3;clear FC hF hK hb;go_wp2_with fail
 rw[HGE.out];go_loopw [29] (fun v29 wx=>∃ i:Nat,v29=.int .i64 (i:Int)∧i≤8∧Blk wx F 132 (zO ue)∧Blk wx K0 136 (tZ KK)∧Blk wx G 137 (tZ (hP8 i))∧Below w1.heap.size w1 wx) (fun v29 _=>(8-intOf v29).toNat)
 case atStart=>exact⟨0,rfl,by omega,IM,hK3,Q3,xj⟩
 case round =>
 clear IM hK3 Q3 xj;obtain⟨i,rfl,hi,hF,hK,hH,hb⟩:=hrel
 by_cases yu:(i:Int)<8
 ·have ip:i<8:=by omega
  have cl:wr.cell? ⟨F,i,none⟩=some (.int .u64 (xQ ue i:Int)):=hF.cell i (sF ue i ip);obtain⟨kw,If⟩:∃ kw,xQ ue i=kw:=⟨_,rfl⟩
  rw[If]at cl;have HKW:=Hh If;clear If;go_wp2_with (with_reducible refine zx ?_)
  refine zj rfl _ _ _ rfl rfl G i (.int .u32 (sx (kw:Int))) rfl (by rfl) _ _ hH mK (by rw[oL,Ta];exact ip) rfl fun w9 Lz xR=>?_
  rw[mJ,← HKW.out,← show hP8 (i+1)=(hP8 i).set i (sx ((xQ ue i:Nat):Int)) from rfl]at Lz;have hF9:=hF.grown xR (by intro hc;injection hc with hc;have:=DC.out;omega);have IP:=hK.grown xR (by intro hc;injection hc with hc;have:=DC.out;omega);have mg:=hb.grown xR hb.size (by rintro q ⟨⟩;exact DC.out.1);clear hF hK hH hb xR cl;go_wp2_with fail
  go_roundw
  case rel=>exact⟨i+1,by go_num,by omega,hF9,IP,Lz,mg⟩
  case measure=>simp[intOf];omega
 obtain rfl:i=8:=by omega
 rw[BK,← S8.cells_eq]at hH;rw[show((8:Nat):Int)=8 from rfl]at yu⊢;have PD:=Hh (Vb (c:=c) HN.out.1 HN.out.2 wr (HS1.out.below hb));go_wp2_with fail
 refine PD.out.mono ?_
 rintro e w5 ⟨r5,rfl,wR⟩
 obtain⟨PA,pc,rfl,pq,jx,_⟩:=wR.own.form;have hK5:=hK.below wR.2;have QM:=hH.below wR.2;have xS:=hb.trans (wR.2.mono hb.size)
 have HPG:Hid (∀ q,PA.map (·.block)=some q→G<q):=fun q hq=>by
  have h1:=(wR.own.lt q (by cases PA with | none=>cases hq | some p=>exact hq)).1;have h2:=hH.lt
  omega
 obtain⟨Hp,_,Af,hHf,_,hBp⟩:=wR.own.snap (H:=fun _=>none) (fun _ _ h=>by cases h) (fun _ _=>rfl)
 have aW:Hid (∀ b o,Hp b=some o→G<b):=fun b o hb=>by
  rcases hHf b o hb with h | h
  ·cases h
  exact HPG.out b h
 have fh:=Hh (Nn l);obtain⟨m,hm⟩:∃ m,(oB l).length=m:=⟨_,rfl⟩
 have HM:=Hh hm;rw[hm];clear hF hK hH hb wR PD hHf hm pq jx;go_wp2_with fail
 go_loopw [9] (fun v9 wx=>∃ (k nn:Nat) (VA:Option Addr) (vc:Nat),v9=.slice VA nn vc∧Hid (64*k+nn=m)∧Hid (IsBytes Hp VA vc ((oB l).drop (64*k)))∧Holds wx Hp∧Blk wx K0 136 (tZ KK)∧Blk wx G 137 (fA (oB l) k).cells∧Below w1.heap.size w1 wx) (fun v9 _=>iZ v9)
 case atStart=>exact⟨0,m,PA,pc,rfl,by rw[Hid];omega,by rw[Hid];simpa using hBp,Af,hK5,QM,xS⟩
 case round =>
 clear Af hBp hK5 QM xS;obtain⟨k,nn,VA,vc,rfl,Eh,Ed,zE,hK,hH,hb⟩:=hrel
 by_cases yu:(0:Int)<(nn:Int)
 ·have So:Hid (64≤nn):=by have:=fh.out;have:=HM.out;have:=Eh.out;rw[Hid];omega
  have JS:((oB l).drop (64*k)).length=nn:=by rw[List.length_drop,HM.out];have:=Eh.out;omega
  obtain⟨b,off,rfl,_⟩:=Ed.out.at_ (by rw[JS];omega);have B0:=Ed.out.le;rw[JS]at B0;have EW:=Ed.out.max;have HV:=Hh (And.intro B0 EW);have HDL:=Hh JS;have Bx:IsBytes Hp (some ⟨b,off,none⟩) vc (Sg (oB l) k):=Ed.out.take' 64;have Cf:(Sg (oB l) k).length=64:=Mx (by have:=Eh.out;have:=So.out;rw[HM.out];omega);have RD:=Hh (Xk Bx Cf wr zE hH hK Fr);rw[Qj,← Uo]at RD;have zB6:(64:Int)≤(vc:Int):=by have:=So.out;omega
  have zB7:(64:Int)≤(nn:Int):=by have:=So.out;omega
  clear JS B0 EW Bx Cf;go_wp2_with fail
  refine RD.out.mono ?_
  rintro e w6 ⟨⟨v6,rfl⟩,QN,ws⟩
  have hK6:=hK.grown ws (by intro hc;injection hc with hc;have:=DC.out;omega);have wX:=hb.grown ws hb.size (by rintro q ⟨⟩;exact DC.out.1)
  have zAS:Holds w6 Hp:=zE.grown ws (by
   rintro q ⟨⟩
   cases hq:Hp G with
   | none=>rfl
   | some o=>have:=aW.out _ _ hq;omega)
  have ms:=Hh (Ed.out.drop' 64 (by rw[HDL.out];exact So.out));clear hK hH hb zE ws RD;go_wp2_with fail
  go_roundw
  case rel =>
   refine⟨k+1,nn-64,_,vc-64,rfl,by have:=Eh.out;have:=So.out;rw[Hid];omega, ?_,zAS,hK6,QN,wX⟩
   have h:=ms.out;rw[List.drop_drop]at h;rw[Hid,show 64*(k+1)=64*k+64 by omega];rw[Option.map_some,oN]at h
   simpa using h
  case measure=>have:=So.out;simp only[iZ];omega
 obtain rfl:nn=0:=by omega
 have ov:k=(oB l).length/64:=by have:=Eh.out;have:=HM.out;omega
 rw[ov]at hH;have HSH:Hid ((fA (oB l) ((oB l).length/64)).list.flatMap qo=gF l):=rfl;obtain⟨s,hs⟩:∃ s,fA (oB l) ((oB l).length/64)=s:=⟨_,rfl⟩
 rw[hs]at hH HSH;rw[← GC]at HSH;obtain⟨a0,a1,a2,a3,a4,a5,a6,a7⟩:=s;have Wt:=Hh (fun i hi=>Nc ⟨a0,a1,a2,a3,a4,a5,a6,a7⟩ i hi);have JD:=Hh (fun i hi=>Rf ⟨a0,a1,a2,a3,a4,a5,a6,a7⟩ i hi);have mg:=HB1.out.trans (hb.mono HB1.out.size);clear hs ov Ed Eh zE hK hb;have q0:=hH.cell 0 (v:=.int .u32 a0) rfl;have q1:=hH.cell 1 (v:=.int .u32 a1) rfl;have q2:=hH.cell 2 (v:=.int .u32 a2) rfl;have q3:=hH.cell 3 (v:=.int .u32 a3) rfl;have q4:=hH.cell 4 (v:=.int .u32 a4) rfl;have q5:=hH.cell 5 (v:=.int .u32 a5) rfl;have q6:=hH.cell 6 (v:=.int .u32 a6) rfl;have q7:=hH.cell 7 (v:=.int .u32 a7) rfl;clear hH;go_wp2_with fail
 go_loopw [10,51] (fun v10 v51 wx=>∃ (i mo co:Nat) (VO:Option Addr),v10=.slice VO mo co∧v51=.int .i64 (i:Int)∧i≤8∧Hid (mo=4*i)∧OwnB wx w.heap.size (.slice VO mo co) (Z8 ⟨a0,a1,a2,a3,a4,a5,a6,a7⟩ i)∧Below w.heap.size w wx) (fun _ v51 _=>(8-intOf v51).toNat)
 case atStart=>exact⟨0,0,0,none,rfl,rfl,by omega,rfl,OwnB.nil _ _,mg⟩
 case round =>
 clear q0 q1 q2 q3 q4 q5 q6 q7 mg;obtain⟨i,mo,co,VO,rfl,rfl,hi,HMO,hO,hb⟩:=hrel
 rcases(show i=0∨i=1∨i=2∨i=3∨i=4∨i=5∨i=6∨i=7∨i=8 by omega) with rfl | rfl | rfl | rfl | rfl | rfl | rfl | rfl | rfl
 ·have X0:=uf wr #[.int .u32 a0,.int .u32 a1,.int .u32 a2,.int .u32 a3,.int .u32 a4,.int .u32 a5,.int .u32 a6,.int .u32 a7] 0 (.int .u32 a0) 0 rfl (by omega) rfl;go_wp2_with (at_builtin;refine zH ?_)
  unfold zC
  clear X0;have uQ:=hO.alloc (.cells #[.int .u8 (a0/16777216%256),.int .u8 (a0/65536%256),.int .u8 (a0/256%256),.int .u8 (a0%256)] 5);have zB:=hb.alloc hb.size (.cells #[.int .u8 (a0/16777216%256),.int .u8 (a0/65536%256),.int .u8 (a0/256%256),.int .u8 (a0%256)] 5)
  refine zg rfl (.tmp 54) (.tmp 66) rfl w.heap.size _ _ rfl uQ _ 4 _ (qo a0) rfl rfl (Src.new _ _ _ _ rfl _ (by rw[ug])) (by rw[Wt.out 0 (by omega),sq];omega) zB.size fun v' w5 wg xv vP=>?_
  have xS:=jfe;replace wg:=(JD.out 0 (by omega)) ▸ wg;obtain⟨A5,c5,rfl,_⟩:=wg.form;rw[Wt.out (0+1) (by omega)]at wg⊢;clear hO hb uQ zB xv vP;go_wp2_with fail
  go_roundw
  case rel=>exact⟨1,_,c5,A5,rfl,by go_num,by omega,rfl,wg,xS⟩
  case measure=>simp[intOf]
 ·have X0:=uf wr #[.int .u32 a0,.int .u32 a1,.int .u32 a2,.int .u32 a3,.int .u32 a4,.int .u32 a5,.int .u32 a6,.int .u32 a7] 1 (.int .u32 a1) 1 rfl (by omega) rfl;go_wp2_with (at_builtin;refine zH ?_)
  unfold zC
  clear X0;have uQ:=hO.alloc (.cells #[.int .u8 (a1/16777216%256),.int .u8 (a1/65536%256),.int .u8 (a1/256%256),.int .u8 (a1%256)] 5);have zB:=hb.alloc hb.size (.cells #[.int .u8 (a1/16777216%256),.int .u8 (a1/65536%256),.int .u8 (a1/256%256),.int .u8 (a1%256)] 5)
  refine zg rfl (.tmp 54) (.tmp 66) rfl w.heap.size _ _ rfl uQ _ 4 _ (qo a1) rfl rfl (Src.new _ _ _ _ rfl _ (by rw[ug])) (by rw[Wt.out 1 (by omega),sq];omega) zB.size fun v' w5 wg xv vP=>?_
  have xS:=jfe;replace wg:=(JD.out 1 (by omega)) ▸ wg;obtain⟨A5,c5,rfl,_⟩:=wg.form;rw[Wt.out (1+1) (by omega)]at wg⊢;clear hO hb uQ zB xv vP;go_wp2_with fail
  go_roundw
  case rel=>exact⟨2,_,c5,A5,rfl,by go_num,by omega,rfl,wg,xS⟩
  case measure=>simp[intOf]
 ·have X0:=uf wr #[.int .u32 a0,.int .u32 a1,.int .u32 a2,.int .u32 a3,.int .u32 a4,.int .u32 a5,.int .u32 a6,.int .u32 a7] 2 (.int .u32 a2) 2 rfl (by omega) rfl;go_wp2_with (at_builtin;refine zH ?_)
  unfold zC
  clear X0;have uQ:=hO.alloc (.cells #[.int .u8 (a2/16777216%256),.int .u8 (a2/65536%256),.int .u8 (a2/256%256),.int .u8 (a2%256)] 5);have zB:=hb.alloc hb.size (.cells #[.int .u8 (a2/16777216%256),.int .u8 (a2/65536%256),.int .u8 (a2/256%256),.int .u8 (a2%256)] 5)
  refine zg rfl (.tmp 54) (.tmp 66) rfl w.heap.size _ _ rfl uQ _ 4 _ (qo a2) rfl rfl (Src.new _ _ _ _ rfl _ (by rw[ug])) (by rw[Wt.out 2 (by omega),sq];omega) zB.size fun v' w5 wg xv vP=>?_
  have xS:=jfe;replace wg:=(JD.out 2 (by omega)) ▸ wg;obtain⟨A5,c5,rfl,_⟩:=wg.form;rw[Wt.out (2+1) (by omega)]at wg⊢;clear hO hb uQ zB xv vP;go_wp2_with fail
  go_roundw
  case rel=>exact⟨3,_,c5,A5,rfl,by go_num,by omega,rfl,wg,xS⟩
  case measure=>simp[intOf]
 ·have X0:=uf wr #[.int .u32 a0,.int .u32 a1,.int .u32 a2,.int .u32 a3,.int .u32 a4,.int .u32 a5,.int .u32 a6,.int .u32 a7] 3 (.int .u32 a3) 3 rfl (by omega) rfl;go_wp2_with (at_builtin;refine zH ?_)
  unfold zC
  clear X0;have uQ:=hO.alloc (.cells #[.int .u8 (a3/16777216%256),.int .u8 (a3/65536%256),.int .u8 (a3/256%256),.int .u8 (a3%256)] 5);have zB:=hb.alloc hb.size (.cells #[.int .u8 (a3/16777216%256),.int .u8 (a3/65536%256),.int .u8 (a3/256%256),.int .u8 (a3%256)] 5)
  refine zg rfl (.tmp 54) (.tmp 66) rfl w.heap.size _ _ rfl uQ _ 4 _ (qo a3) rfl rfl (Src.new _ _ _ _ rfl _ (by rw[ug])) (by rw[Wt.out 3 (by omega),sq];omega) zB.size fun v' w5 wg xv vP=>?_
  have xS:=jfe;replace wg:=(JD.out 3 (by omega)) ▸ wg;obtain⟨A5,c5,rfl,_⟩:=wg.form;rw[Wt.out (3+1) (by omega)]at wg⊢;clear hO hb uQ zB xv vP;go_wp2_with fail
  go_roundw
  case rel=>exact⟨4,_,c5,A5,rfl,by go_num,by omega,rfl,wg,xS⟩
  case measure=>simp[intOf]
 ·have X0:=uf wr #[.int .u32 a0,.int .u32 a1,.int .u32 a2,.int .u32 a3,.int .u32 a4,.int .u32 a5,.int .u32 a6,.int .u32 a7] 4 (.int .u32 a4) 4 rfl (by omega) rfl;go_wp2_with (at_builtin;refine zH ?_)
  unfold zC
  clear X0;have uQ:=hO.alloc (.cells #[.int .u8 (a4/16777216%256),.int .u8 (a4/65536%256),.int .u8 (a4/256%256),.int .u8 (a4%256)] 5);have zB:=hb.alloc hb.size (.cells #[.int .u8 (a4/16777216%256),.int .u8 (a4/65536%256),.int .u8 (a4/256%256),.int .u8 (a4%256)] 5)
  refine zg rfl (.tmp 54) (.tmp 66) rfl w.heap.size _ _ rfl uQ _ 4 _ (qo a4) rfl rfl (Src.new _ _ _ _ rfl _ (by rw[ug])) (by rw[Wt.out 4 (by omega),sq];omega) zB.size fun v' w5 wg xv vP=>?_
  have xS:=jfe;replace wg:=(JD.out 4 (by omega)) ▸ wg;obtain⟨A5,c5,rfl,_⟩:=wg.form;rw[Wt.out (4+1) (by omega)]at wg⊢;clear hO hb uQ zB xv vP;go_wp2_with fail
  go_roundw
  case rel=>exact⟨5,_,c5,A5,rfl,by go_num,by omega,rfl,wg,xS⟩
  case measure=>simp[intOf]
 ·have X0:=uf wr #[.int .u32 a0,.int .u32 a1,.int .u32 a2,.int .u32 a3,.int .u32 a4,.int .u32 a5,.int .u32 a6,.int .u32 a7] 5 (.int .u32 a5) 5 rfl (by omega) rfl;go_wp2_with (at_builtin;refine zH ?_)
  unfold zC
  clear X0;have uQ:=hO.alloc (.cells #[.int .u8 (a5/16777216%256),.int .u8 (a5/65536%256),.int .u8 (a5/256%256),.int .u8 (a5%256)] 5);have zB:=hb.alloc hb.size (.cells #[.int .u8 (a5/16777216%256),.int .u8 (a5/65536%256),.int .u8 (a5/256%256),.int .u8 (a5%256)] 5)
  refine zg rfl (.tmp 54) (.tmp 66) rfl w.heap.size _ _ rfl uQ _ 4 _ (qo a5) rfl rfl (Src.new _ _ _ _ rfl _ (by rw[ug])) (by rw[Wt.out 5 (by omega),sq];omega) zB.size fun v' w5 wg xv vP=>?_
  have xS:=jfe;replace wg:=(JD.out 5 (by omega)) ▸ wg;obtain⟨A5,c5,rfl,_⟩:=wg.form;rw[Wt.out (5+1) (by omega)]at wg⊢;clear hO hb uQ zB xv vP;go_wp2_with fail
  go_roundw
  case rel=>exact⟨6,_,c5,A5,rfl,by go_num,by omega,rfl,wg,xS⟩
  case measure=>simp[intOf]
 ·have X0:=uf wr #[.int .u32 a0,.int .u32 a1,.int .u32 a2,.int .u32 a3,.int .u32 a4,.int .u32 a5,.int .u32 a6,.int .u32 a7] 6 (.int .u32 a6) 6 rfl (by omega) rfl;go_wp2_with (at_builtin;refine zH ?_)
  unfold zC
  clear X0;have uQ:=hO.alloc (.cells #[.int .u8 (a6/16777216%256),.int .u8 (a6/65536%256),.int .u8 (a6/256%256),.int .u8 (a6%256)] 5);have zB:=hb.alloc hb.size (.cells #[.int .u8 (a6/16777216%256),.int .u8 (a6/65536%256),.int .u8 (a6/256%256),.int .u8 (a6%256)] 5)
  refine zg rfl (.tmp 54) (.tmp 66) rfl w.heap.size _ _ rfl uQ _ 4 _ (qo a6) rfl rfl (Src.new _ _ _ _ rfl _ (by rw[ug])) (by rw[Wt.out 6 (by omega),sq];omega) zB.size fun v' w5 wg xv vP=>?_
  have xS:=jfe;replace wg:=(JD.out 6 (by omega)) ▸ wg;obtain⟨A5,c5,rfl,_⟩:=wg.form;rw[Wt.out (6+1) (by omega)]at wg⊢;clear hO hb uQ zB xv vP;go_wp2_with fail
  go_roundw
  case rel=>exact⟨7,_,c5,A5,rfl,by go_num,by omega,rfl,wg,xS⟩
  case measure=>simp[intOf]
 ·have X0:=uf wr #[.int .u32 a0,.int .u32 a1,.int .u32 a2,.int .u32 a3,.int .u32 a4,.int .u32 a5,.int .u32 a6,.int .u32 a7] 7 (.int .u32 a7) 7 rfl (by omega) rfl;go_wp2_with (at_builtin;refine zH ?_)
  unfold zC
  clear X0;have uQ:=hO.alloc (.cells #[.int .u8 (a7/16777216%256),.int .u8 (a7/65536%256),.int .u8 (a7/256%256),.int .u8 (a7%256)] 5);have zB:=hb.alloc hb.size (.cells #[.int .u8 (a7/16777216%256),.int .u8 (a7/65536%256),.int .u8 (a7/256%256),.int .u8 (a7%256)] 5)
  refine zg rfl (.tmp 54) (.tmp 66) rfl w.heap.size _ _ rfl uQ _ 4 _ (qo a7) rfl rfl (Src.new _ _ _ _ rfl _ (by rw[ug])) (by rw[Wt.out 7 (by omega),sq];omega) zB.size fun v' w5 wg xv vP=>?_
  have xS:=jfe;replace wg:=(JD.out 7 (by omega)) ▸ wg;obtain⟨A5,c5,rfl,_⟩:=wg.form;rw[Wt.out (7+1) (by omega)]at wg⊢;clear hO hb uQ zB xv vP;go_wp2_with fail
  go_roundw
  case rel=>exact⟨8,_,c5,A5,rfl,by go_num,by omega,rfl,wg,xS⟩
  case measure=>simp[intOf]
 rw[HSH.out]at hO;exact jcW
def aT (m:Int) (u:UInt8):UInt8:=UInt8.ofNat (bits .xor .u8 (u.toNat:Int) m%256).toNat
theorem OF (m:Int) (u:UInt8):zm (aT m u)=.int .u8 (bits .xor .u8 (u.toNat:Int) m):=by
 obtain⟨v,hv⟩:∃ v,bits .xor .u8 (u.toNat:Int) m=IntKind.u8.wrap v:=⟨_,rfl⟩
 have h:(IntKind.u8.wrap v%256).toNat<256:=by omega
 rw[aT,hv,zm,UInt8.toNat_ofNat_of_lt' (by simpa using h)];congr 1
 rw[IntKind.wrap_u8]
 omega
def kx (key:List UInt8):List UInt8:=if 64<key.length then gF key else key
def pQ (k:List UInt8):List UInt8:=k++List.replicate (64-k.length) 0
def pS (m:Int) (key:List UInt8):List UInt8:=(pQ (kx key)).map (aT m)
def nI (key b:List UInt8):List UInt8:=gF (pS 92 key++gF (pS 54 key++b))
theorem bE (key:List UInt8):(kx key).length≤64:=by
 unfold kx
 split
 ·rw[oT];omega
 omega
theorem aw {k:List UInt8}(h:k.length≤64):(pQ k).length=64:=by
 rw[pQ,List.length_append,List.length_replicate]
 omega
theorem sf (m:Int) (key:List UInt8):(pS m key).length=64:=by
 rw[pS,List.length_map,aw (bE key)]
theorem iE (key b:List UInt8):(nI key b).length=32:=oT _
def qC (m:Int) (l:List UInt8) (i:Nat):List UInt8:=(l.take i).map (aT m)++l.drop i
theorem KZ (m:Int) (l:List UInt8):qC m l 0=l:=by simp[qC]
theorem Rm (m:Int) {l:List UInt8}{i:Nat}(h:l.length≤i):qC m l i=l.map (aT m):=by
 rw[qC,List.take_of_length_le h,List.drop_eq_nil_of_le h,List.append_nil]
theorem bR (m:Int) (l:List UInt8) (i:Nat):(qC m l i).length=l.length:=by
 rw[qC,List.length_append,List.length_map,List.length_take,List.length_drop]
 omega
theorem Rn (m:Int) {l:List UInt8}{i:Nat}(h:i<l.length):(qC m l i)[i]'(by rw[bR];exact h)=l[i]:=by
 have e:(l.take i).length=i:=by rw[List.length_take];omega
 simp only[qC]
 rw[List.getElem_append_right (by rw[List.length_map,e];exact Nat.le_refl _)]
 simp only[List.getElem_drop,List.length_map,List.length_take]
 congr 1
 omega
theorem Ro (m:Int) {l:List UInt8}{i:Nat}(h:i<l.length):(qC m l i).set i (aT m l[i])=qC m l (i+1):=by
 have e:(l.take i).length=i:=by rw[List.length_take];omega
 rw[qC,qC,List.set_append_right _ _ (by rw[List.length_map,e];exact Nat.le_refl _),List.length_map,e,Nat.sub_self,List.take_succ_eq_append_getElem h,List.map_append,List.append_assoc];congr 1
 rw[List.drop_eq_getElem_cons h];rfl
end Go.Proofs.YtliomcphdnppnaaGreatDoor
