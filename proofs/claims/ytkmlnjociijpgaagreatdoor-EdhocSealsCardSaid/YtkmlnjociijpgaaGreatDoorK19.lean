/- squeezed. SHA-256: the constants. SHA-256 of -/
import Derived.Test.YtkmlnjociijpgaaGreatDoorK18
import Derived.Laws.CopyOwn
import Derived.Deep.DeepCutAuto
import Derived.Deep.CutBlock
set_option linter.unusedVariables false
set_option linter.unusedSimpArgs false
set_option maxRecDepth 100000
set_option maxHeartbeats 6400000
namespace Go.Proofs.YtkmlnjociijpgaaGreatDoor
open Go.RowKit
theorem jaa{P:Prop}(h:P:=by
 have zJ:=OwnB.nil w w.heap.size;have zY:=Below.refl w.heap.size w;go_wp2_with fail
 go_loopw [3,5,8] (fun v1 v5 v2 wr=>∃ (k:Nat) (VA:Option Addr) (vc vn:Nat) (l:List UInt8),k≤ls.length∧v2=.int .i64 (k:Int)∧v1=.slice VA vn vc∧OwnB wr w.heap.size (.slice VA vn vc) l∧vn=l.length∧(ls.flatten=l++(ls.drop k).flatten)∧Below w.heap.size w wr) (fun _ _ v2 _=>ls.length-(intOf v2).toNat)
 case atStart=>exact⟨0,_,_,_,_,Nat.zero_le _,rfl,rfl,zJ,rfl,by simp,zY⟩
 case round =>
 clear zJ zY;obtain⟨k,VA,vc,vn,l,uh,rfl,rfl,xe,iO,mg,xW⟩:=hrel;have HV:=Hh iO;have HE:=Hh mg;clear iO mg
 by_cases z9:k<ls.length
 ·obtain⟨ib,io,rfl,hr⟩:=hs (by omega);have iD:(k:Int)<(n:Int):=by have:=HN.out.1;omega
  obtain⟨Aj,cj,c0,ah⟩:=hr k z9;have q0:=(xW.cell (World.block_lt_of_cell? w _ c0)).trans c0;have jq:=ah.below xW;have fQ:(k:Int)+1≤9223372036854775807:=by have:=HN.out.2.1;omega
  have HT:Hid (l.length+ls[k].length≤1099511627776):=by
   have h1:=congrArg List.length HE.out;rw[xC ls k z9]at h1
   simp only[List.length_append]at h1
   have:=HN.out.2.2;skip
   rw[Hid];omega
  have HF:Hid (ls.flatten=(l++ls[k])++(ls.drop (k+1)).flatten):=by rw[Hid,HE.out,xC ls k z9,List.append_assoc]
  clear hr c0 ah;go_wp2_with (at_builtin;refine zh ?_)
  unfold zZ
  obtain rfl:=HV.out
  refine zv rfl (.tmp 12) (.tmp 13) rfl w.heap.size _ _ rfl xe Aj _ cj ls[k] rfl rfl jq HT.out xW.size fun v' w7 xj xQ hat7=>?_
  exact jdT
 have kX:k=ls.length:=by omega
 subst kX;have iD:¬ ((ls.length:Int)<(n:Int)):=by have:=HN.out.1;omega
 have HZ:Hid (ls.flatten=l):=by rw[Hid,HE.out,List.drop_length];simp
 exact jel):P:=h
theorem jcs{P:Prop}(h:P:=by
 apply List.ext_getElem?
 intro j
 simp[madeCells,Value.cells,List.getElem?_replicate]
 by_cases h:j<n
 ·simp[h,zu,Nat.mod_one]
 simp[h]):P:=h
theorem jdg{P:Prop}(h:P:=by
 rw[List.length_replicate,← nf]
 exact hO):P:=h
theorem jdT{P:Prop}(h:P:=by
 obtain⟨VA',vc',rfl,_⟩:=xj.form;have oB:OwnB w7 w.heap.size (.slice VA' (l.length+ls[k].length) vc') (l++ls[k]):=by rw[← List.length_append];exact xj
 have uI:=xW.grown xQ xW.size (fun q hq=>(xe.lt q hq).1);clear xe xQ hat7 xW q0 jq xj;exact je3):P:=h
theorem jgK{P:Prop}(h:P:=by have HN:=Hh (And.intro hn (And.intro hl ht));exact HN):P:=h
theorem jgN{P:Prop}(h:P:=by have zD:=zY.trans (sj.2.mono zY.size);exact zD):P:=h
theorem jhI{P:Prop}(h:P:=by have zE:=xE.trans (xX.2.mono xE.size);exact zE):P:=h
def iR (n:Nat) (x:Nat×Nat):Bool:=pG x.1&&o6 n x.1 x.2&&decide (x.2<18446744073709551616)
theorem Wp:(vH.zip rE).all (iR 3)=true:=by kernel_rfl
theorem Wo:(vH.zip vJ).all (iR 2)=true:=by kernel_rfl
theorem kj {n p c:Nat}(h:iR n (p,c)=true):pG p=true∧o6 n p c=true∧c<18446744073709551616:=by
 unfold iR at h
 simp only[Bool.and_eq_true,decide_eq_true_eq]at h
 exact⟨h.1.1,h.1.2,h.2⟩
theorem fX {f:Nat×Nat→Bool}{l m:List Nat}(h:(l.zip m).all f=true) (i:Nat) (hl:i<l.length) (hm:i<m.length):f (l[i],m[i])=true:=by
 rw[List.all_eq_true]at h;have hz:i<(l.zip m).length:=by rw[List.length_zip];omega
 have h1:=h _ (List.getElem_mem hz);rw[List.getElem_zip]at h1
 exact h1
theorem pD {l:List Nat}{i:Nat}(h:i<l.length):yD l i=l[i]:=by simp[yD,h]
def P64:List Nat:=vH.take 64
def K64:List Nat:=rE.take 64
theorem bT:P64.length=64:=rfl
theorem lD:K64.length=64:=rfl
theorem TM {i:Nat}(h:i<64):pG (yD P64 i)=true∧o6 3 (yD P64 i) (yD K64 i)=true∧yD K64 i<18446744073709551616:=by
 have h1:vH.length=80:=rfl;have h2:rE.length=80:=rfl;have hP:yD P64 i=vH[i]:=by rw[pD (by rw[bT];exact h)];simp[P64]
 have hK:yD K64 i=rE[i]:=by rw[pD (by rw[lD];exact h)];simp[K64]
 rw[hP,hK]
 exact kj (fX Wp i (by omega) (by omega))
theorem TJ {i:Nat}(h:i<8):o6 2 (yD P64 i) (yD vJ i)=true∧yD vJ i<18446744073709551616:=by
 have h1:vH.length=80:=rfl;have h2:vJ.length=8:=rfl;have hP:yD P64 i=vH[i]:=by rw[pD (by rw[bT];omega)];simp[P64]
 rw[hP,pD (by omega)]
 exact(kj (fX Wo i (by omega) (by omega))).2
def hsP:Nat→List Nat
 | 0=>List.replicate 8 0
 | k+1=>if k<8 then(hsP k).set k (yD vJ k) else hsP k
theorem bZ:∀ k,(hsP k).length=8
 | 0=>rfl
 | k+1=>by
  rw[hsP]
  split
  ·rw[List.length_set,bZ k]
  exact bZ k
theorem Jy {k:Nat}(h:k<8):hsP (k+1)=(hsP k).set k (yD vJ k):=if_pos h
theorem Jx {k:Nat}(h:¬ k<8):hsP (k+1)=hsP k:=if_neg h
theorem Jw:hsP 64=vJ:=by kernel_rfl
theorem Xc {l:List Nat}{i:Nat}(h:i<l.length):l.take (i+1)=l.take i++[yD l i]:=by
 rw[List.take_succ_eq_append_getElem h,pD h]
theorem KT {α:Type}{l:List α}(h:l.length=8):∃ a b c d e f g i,l=[a,b,c,d,e,f,g,i]:=by
 match l,h with
 | [a,b,c,d,e,f,g,i],_=>exact⟨a,b,c,d,e,f,g,i,rfl⟩
theorem gT:(Tryz.prog.info? 243).map (·.size)=some 8:=by kernel_rfl
theorem jr {fn:Func}{p u:Tmp}{ty:TypeId}(h:fn.results=#[.tmp u,.cell p ty]) (tmps:Array Value) (P:Program) (w:World) :
  (results fn tmps).run P w =
   ((asAddr (tmps.getD p undef)).run P w).andThen fun a w₁=>((loadVar ty a).run P w₁).andThen fun x w₂=>.ok (.tuple #[tmps.getD u undef,x]) w₂:=by
 exact jcO
theorem Z7 {fn:Func}{p u:Tmp}{ty:TypeId}{a:Act}{w:World}{R:Ending→World→Prop}{g:Nat}{t:TypeId}{cs:Array Value}{d:TypeDesc}(h:fn.results=#[.tmp u,.cell p ty]) (hp:a.tmps.getD p undef=.pointer (some ⟨g,0,none⟩)) (hg:Blk w g t cs)
  (hd:(match d with | .struct _ | .array _ _=>true | _=>false)=true) (hu:Tryz.prog.underlying ty=some d) (hi:(Tryz.prog.info? ty).map (·.size)=some cs.size)
  (hdf:a.defers=[]) (hR:R (.returned (.tuple #[a.tmps.getD u undef,.agg cs])) w):bodyPost Tryz.prog fn R .ret a w:=by
 refine bodyPost_ret (v:=.tuple #[a.tmps.getD u undef,.agg cs]) ?_ hdf hR
 rw[jr h,hp];exact ja8
theorem ee (H:Snap) (w:World):Calls Tryz.prog 209 #[.int .i64 64] w fun e w'=>∃ A c,e=.returned (.tuple #[.slice A 64 c,.agg (zS vJ)])∧OwnX f6 74 w' w.heap.size (.slice A 64 c) H K64∧Below w.heap.size w w':=by
 have kT:=Blk.new w 243 #[.int .u64 0,.int .u64 0,.int .u64 0,.int .u64 0,.int .u64 0,.int .u64 0,.int .u64 0,.int .u64 0];have yB:=zX w (.cells #[.int .u64 0,.int .u64 0,.int .u64 0,.int .u64 0,.int .u64 0,.int .u64 0,.int .u64 0,.int .u64 0] 243);have Oe:=(OwnX.nil f6 74 w w.heap.size H).alloc (.cells #[.int .u64 0,.int .u64 0,.int .u64 0,.int .u64 0,.int .u64 0,.int .u64 0,.int .u64 0,.int .u64 0] 243)
 generalize tv:w.alloc (.cells #[.int .u64 0,.int .u64 0,.int .u64 0,.int .u64 0,.int .u64 0,.int .u64 0,.int .u64 0,.int .u64 0] 243)=w1 at kT yB Oe
 have OX:=Hh tv;have PR:=Hh (XU H w1);clear tv;go_enter Tryz.func209,Tryz.ntmps209
 go_wp2_with fail
 rw[OX.out]
 refine PR.out.mono ?_
 rintro e w2 ⟨PA,pc,rfl,hP,zD⟩
 have wm:=kT.below zD;have ui:=Oe.below zD;have yR:=yB.trans (zD.mono yB.size);have HPA:Hid (w1.heap.size≤w2.heap.size∧w.heap.size+1=w1.heap.size):=⟨zD.size,by rw[← OX.out,za]⟩
 have HPO:=Hh (fun q (hq:(Value.slice PA 64 pc).ownBlock=some q)=>hP.lt q hq);obtain⟨pg,rfl,hp⟩:=iU hP (by decide);clear PR yB zD kT Oe OX;go_wp2_with fail
 go_loopw [2,9] (fun v2 v9 wr=>∃ (i:Nat),v9=.int .i64 (i:Int)∧Hid (i≤64)∧OwnX f6 74 wr w.heap.size v2 H (K64.take i)∧(∀ g,v2.ownBlock=some g→g≠w.heap.size∧g≠pg)∧OwnX f6 74 wr w1.heap.size (.slice (some ⟨pg,0,none⟩) 64 pc) H (vH.take 64)∧Blk wr w.heap.size 243 (zS (hsP i))∧Below w.heap.size w wr) (fun _ v9 _=>(64-intOf v9).toNat)
 case atStart=>exact⟨0,rfl,Nat.zero_le _,ui,by simp[Value.ownBlock],hP,wm,yR⟩
 case round =>
 clear ui hP wm yR hp;obtain⟨i,rfl,HI,hO,xp,hP,hB,hb⟩:=hrel;obtain⟨A,c,rfl,Ja,mv⟩:=hO.form;have ce:(K64.take i).length=i:=by rw[List.length_take,lD];have:=HI.out;omega
 rw[ce]at hO xp⊢;have V9:=Hh xp;clear Ja mv ce xp
 by_cases z9:(i:Int)<64
 ·have hi:i<64:=by omega
  have cp:wr.cell? ⟨pg,i,none⟩=some (.int .u64 (yD P64 i:Int)):=by
   obtain⟨g',e',h'⟩:=iU hP (by decide)
   cases e'
   have h:=h' i (by rw[show(vH.take 64).length=64 from rfl];exact hi);rw[pD (l:=P64) (by rw[bT];exact hi)]
   exact h
  have HC:=Hh (TM hi);have fL:=Hh (fun h:i<8=>TJ h);have HKS:=Hh (Xc (l:=K64) (i:=i) (by rw[lD];exact hi));obtain⟨p,hp⟩:∃ p,yD P64 i=p:=⟨_,rfl⟩
  obtain⟨kc,oT⟩:∃ kc,yD K64 i=kc:=⟨_,rfl⟩
  rw[hp]at cp HC fL;rw[oT]at HC HKS;have FR:=Hh (fun w=>eh p kc HC.out.1 HC.out.2.2 HC.out.2.1 w);have uH:=Hh z9;clear hp oT hi;go_wp2_with fail
  refine(FR.out _).mono ?_
  rintro e w4 ⟨rfl,xE⟩
  have uj:=(hO.below xE).alloc (.cells #[.int .u64 (kc:Int)] 74);have Dh:=(hP.below xE).alloc (.cells #[.int .u64 (kc:Int)] 74);have ss:=(hB.below xE).alloc (.cells #[.int .u64 (kc:Int)] 74);have zE:=(hb.trans (xE.mono hb.size)).alloc (Nat.le_trans hb.size xE.size) (.cells #[.int .u64 (kc:Int)] 74);have Mr:∀ q,(Value.slice A i c).ownBlock=some q→w.heap.size≤q:=fun q hq=>(hO.lt q hq).1
  clear hO hP hB hb xE cp FR;go_wp2_with (at_builtin;refine zh ?_)
  refine OwnX.append rfl (.tmp 14) (.tmp 17) 242 rfl Tryz.underlying242 rfl (by omega) ZZ rfl uj _ 1 _ [.int .u64 (kc:Int)] [kc] rfl rfl (RowC.one rfl) (Src.new _ _ _ _ rfl _ rfl) (by rw[List.length_take,lD];simp;omega) zE.size fun v' w6 wH vt hat6=>?_
  have wS:=zp zE vt Mr;have JR:=Dh.kept vt (.inr (by intro hc;exact(V9.out pg hc.symm).2 rfl));have rT:=ss.grown vt (by intro hc;exact(V9.out _ hc).1 rfl);rw[← HKS.out]at wH
  have Kl:Hid (∀ q,v'.ownBlock=some q→q≠w.heap.size∧q≠pg):=by
   intro q hq
   rcases hat6 with h | ⟨q',h,PQ⟩
   ·exact V9.out q (h.symm.trans hq)
   rw[hq]at h
   cases h
   have h1:=ss.lt;have h2:=(Dh.lt pg rfl).2;constructor <;> omega
  clear uj Dh ss zE vt hat6 Mr
  by_cases h8:(i:Int)<8
  ·have FR2:=Hh (fun w=>eg p (yD vJ i) HC.out.1 (fL.out (by omega)).2 (fL.out (by omega)).1 w);have HS:=Hh (Jy (k:=i) (by omega));have H8:=Hh h8;go_wp2_with fail
   refine(FR2.out _).mono ?_
   rintro e w7 ⟨rfl,uI⟩
   have xj:=wH.below uI;have Of:=JR.below uI;have nW:=rT.below uI;have uv:=wS.trans (uI.mono wS.size);clear wH JR rT wS uI FR2;go_wp2_with (with_reducible refine zx ?_)
   refine zw rfl _ _ _ rfl rfl w.heap.size i (.int .u64 (yD vJ i:Int)) rfl rfl _ _ nW uN (by rw[ux,bZ];have:=H8.out;omega) rfl fun w8 OZ hg8=>?_
   rw[rA,← HS.out]at OZ;have sk:=xj.kept hg8 (.inr (by intro hc;exact(Kl.out _ hc).1 rfl));have hP8:=Of.kept hg8 (.inr (by intro hc;have hc:pg=w.heap.size:=Option.some.inj hc;have:=(Of.lt pg rfl).1;have:=HPA.out;omega));have uk:=uv.grown hg8 uv.size (by rintro q ⟨⟩;exact Nat.le_refl _);clear xj Of nW uv hg8;go_wp2_with fail
   go_roundw
   case rel=>exact⟨i+1,by go_num,by have:=uH.out;rw[Hid];omega,sk,Kl.out,hP8,OZ,uk⟩
   case measure=>have:=uH.out;simp[intOf];omega
  rw[← Jx (k:=i) (by omega)]at rT;go_wp2_with fail
  go_roundw
  case rel=>exact⟨i+1,by go_num,by have:=uH.out;rw[Hid];omega,wH,Kl.out,JR,rT,wS⟩
  case measure=>have:=uH.out;simp[intOf];omega
 obtain rfl:i=64:=by have:=HI.out;omega
 rw[Jw]at hB;rw[show K64.take 64=K64 from rfl]at hO;rw[show((64:Nat):Int)=64 from rfl]at z9⊢;obtain⟨b0,b1,b2,b3,b4,b5,b6,b7,DY⟩:=KT (show vJ.length=8 from rfl);have HH8:=Hh DY;rw[DY]at hB;clear DY;go_upto_region 8 with fail
 refine rm 3 (fun wx=>wx.cell? ⟨w.heap.size,0,none⟩=some (.int .u64 (b0:Int))∧wx.cell? ⟨w.heap.size,1,none⟩=some (.int .u64 (b1:Int))∧wx.cell? ⟨w.heap.size,2,none⟩=some (.int .u64 (b2:Int))∧wx.cell? ⟨w.heap.size,3,none⟩=some (.int .u64 (b3:Int))∧wx.cell? ⟨w.heap.size,4,none⟩=some (.int .u64 (b4:Int))∧wx.cell? ⟨w.heap.size,5,none⟩=some (.int .u64 (b5:Int))∧wx.cell? ⟨w.heap.size,6,none⟩=some (.int .u64 (b6:Int))∧wx.cell? ⟨w.heap.size,7,none⟩=some (.int .u64 (b7:Int))) (by kernel_rfl) (⟨hB.drew.cell 0 rfl,hB.drew.cell 1 rfl,hB.drew.cell 2 rfl,hB.drew.cell 3 rfl,hB.drew.cell 4 rfl,hB.drew.cell 5 rfl,hB.drew.cell 6 rfl,hB.drew.cell 7 rfl⟩) (fun zy=>?_)
 refine Zk 0 rfl zy ?_
 refine Zk 1 rfl zy ?_
 refine Zk 2 rfl zy ?_
 refine Zo 3 rfl fun K hK=>?_
 rw[if_pos (by rfl)]
 refine zT _ _ _ rfl w.heap.size (zS [b0,b1,b2,b3,b4,b5,b6,b7]) rfl rfl _ _ hB.drew gT rfl (wj _) fun w9 iX xt=>?_
 refine Kz hK ?_
 clear hK K
 refine WaysZ.done (by kernel_rfl) ?_
 have oV:=hb.drew.grown xt hb.size (by rintro q ⟨⟩;exact Nat.le_refl _);have sv:=OwnX.kept (w:=wr.drew) (w':=w9) hO xt (.inr (by intro hc;exact(V9.out _ hc).1 rfl));clear zy;go_wp2_with fail
 refine Z7 rfl rfl iX rfl rfl gT rfl ?_
 exact⟨A,c,by rw[HH8.out];rfl,sv,oV⟩
theorem lw {A:Option Addr}{c:Nat}{l:List UInt8}{n:Nat}(hn:n=l.length) (wP:l.length≤1099511627) (w:World) (hS:Src w A (l.map zu)) :
  Calls Tryz.prog 188 #[.slice A n c] w fun e w'=>∃ r,e=.returned r∧Fresh w (qP l) r w':=by
 have HN:=Hh (And.intro hn wP);have CN:=Hh (ee (fun _=>none) w);clear hn wP;go_enter Tryz.func188,Tryz.ntmps188
 go_wp2_with fail
 refine CN.out.mono ?_
 rintro e w1 ⟨LA,lc,rfl,hL,zY⟩
 have HS1:=Hh (hS.below zY);have Rq:=Hh zY;have uH:=Hh hL;obtain⟨lg,rfl,B5⟩:=iU hL (by decide)
 have Le:Hid (∀ i,i<64→w1.cell? ⟨lg,i,none⟩=some (.int .u64 (yD (rE.take 64) i:Int))):=fun i hi=>by
  rw[B5 i (by rw[lD];exact hi),pD (l:=rE.take 64) (by rw[show(rE.take 64).length=64 from rfl];exact hi)];rfl
 have qk:Hid (lg<w1.heap.size):=(hL.lt lg rfl).2;have hF:=Blk.new w1 243 (zS [0,0,0,0,0,0,0,0]);have hb:=zX w1 (.cells (zS [0,0,0,0,0,0,0,0]) 243);obtain⟨F,DV⟩:∃ F,w1.heap.size=F:=⟨_,rfl⟩
 have Ep:=Hh DV;rw[DV]at hF;clear DV hL B5 zY hS CN;go_wp2_with (with_reducible refine zx ?_)
 unfold zZ
 rw[Ep.out]
 refine zm rfl _ _ _ rfl rfl F (zS vJ) rfl rfl _ _ hF gT (by rfl) (wj _) fun w2 JQ hg2=>?_
 have zD:=hb.grown hg2 hb.size (by rintro q ⟨⟩;have:=Ep.out;omega);have Da:=Blk.new w2 246 (we (kP 0));have IM:=JQ.alloc (.cells (we (kP 0)) 246);have yR:=zD.alloc zD.size (.cells (we (kP 0)) 246);obtain⟨K0,PK⟩:∃ K,w2.heap.size=K:=⟨_,rfl⟩
 have HKF:Hid (w1.heap.size≤K0∧F<K0):=⟨by rw[← PK];exact zD.size,by rw[← PK];exact JQ.lt⟩
 have eC:=Hh PK;rw[PK]at Da;clear PK hF hb JQ hg2 zD;go_wp2_with fail
 rw[eC.out];go_loopw [17] (fun v17 wr=>∃ i:Nat,v17=.int .i64 (i:Int)∧i≤64∧Blk wr F 243 (zS vJ)∧Blk wr K0 246 (we (kP i))∧Below w1.heap.size w1 wr) (fun v17 _=>(64-intOf v17).toNat)
 case atStart=>exact⟨0,rfl,by omega,IM,Da,yR⟩
 case round =>
 clear IM Da yR;obtain⟨i,rfl,hi,hF,hK,hb⟩:=hrel
 by_cases z9:(i:Int)<64
 ·have oS:i<64:=by omega
  have cl:wr.cell? ⟨lg,i,none⟩=some (.int .u64 (yD (rE.take 64) i:Int)):=by rw[hb.cell qk.out];exact Le.out i oS
  have HWD:=Hh (PU oS);obtain⟨kw,WX⟩:∃ kw,yD (rE.take 64) i=kw:=⟨_,rfl⟩
  rw[WX]at cl HWD;clear WX;go_wp2_with (with_reducible refine zx ?_)
  refine zw rfl _ _ _ rfl rfl K0 i (.int .u32 (vZ (kw:Int))) rfl (by rfl) _ _ hK t9 (by rw[uL,Qp];exact oS) rfl fun w9 FY xt=>?_
  rw[rB,HWD.out,← show kP (i+1)=(kP i).set i (wk xI i) from rfl]at FY;have DT:=hF.grown xt (by intro hc;injection hc with hc;have:=HKF.out;omega);have oV:=hb.grown xt hb.size (by rintro q ⟨⟩;exact HKF.out.1);clear hF hK hb xt cl;go_wp2_with fail
  go_roundw
  case rel=>exact⟨i+1,by go_num,by omega,DT,FY,oV⟩
  case measure=>simp[intOf];omega
 obtain rfl:i=64:=by omega
 rw[G3]at hK;rw[show((64:Nat):Int)=64 from rfl]at z9⊢;have DW:=Blk.new wr 247 (we (hP8 0));have IM:=hF.alloc (.cells (we (hP8 0)) 247);have Lt:=hK.alloc (.cells (we (hP8 0)) 247);have yR:=hb.alloc hb.size (.cells (we (hP8 0)) 247);obtain⟨G,PJ⟩:∃ G,wr.heap.size=G:=⟨_,rfl⟩
 have Mb:=Hh PJ;have Hu:Hid (w1.heap.size≤G∧F<G∧K0<G):=⟨by rw[← PJ];exact hb.size,by rw[← PJ];exact hF.lt,by rw[← PJ];exact hK.lt⟩
 rw[PJ]at DW;clear PJ hF hK hb;go_wp2_with fail
 rw[Mb.out];go_loopw [29] (fun v29 wx=>∃ i:Nat,v29=.int .i64 (i:Int)∧i≤8∧Blk wx F 243 (zS vJ)∧Blk wx K0 246 (we KK)∧Blk wx G 247 (we (hP8 i))∧Below w1.heap.size w1 wx) (fun v29 _=>(8-intOf v29).toNat)
 case atStart=>exact⟨0,rfl,by omega,IM,Lt,DW,yR⟩
 case round =>
 clear IM Lt DW yR;obtain⟨i,rfl,hi,hF,hK,hH,hb⟩:=hrel
 by_cases z9:(i:Int)<8
 ·have JV:i<8:=by omega
  have cl:wr.cell? ⟨F,i,none⟩=some (.int .u64 (yD vJ i:Int)):=hF.cell i (t8 vJ i JV);obtain⟨kw,WX⟩:∃ kw,yD vJ i=kw:=⟨_,rfl⟩
  rw[WX]at cl;have D6:=Hh WX;clear WX;go_wp2_with (with_reducible refine zx ?_)
  refine zw rfl _ _ _ rfl rfl G i (.int .u32 (vZ (kw:Int))) rfl (by rfl) _ _ hH t9 (by rw[uL,Vg];exact JV) rfl fun w9 Od xt=>?_
  rw[rB,← D6.out,← show hP8 (i+1)=(hP8 i).set i (vZ ((yD vJ i:Nat):Int)) from rfl]at Od;have DT:=hF.grown xt (by intro hc;injection hc with hc;have:=Hu.out;omega);have FY:=hK.grown xt (by intro hc;injection hc with hc;have:=Hu.out;omega);have oV:=hb.grown xt hb.size (by rintro q ⟨⟩;exact Hu.out.1);clear hF hK hH hb xt cl;go_wp2_with fail
  go_roundw
  case rel=>exact⟨i+1,by go_num,by omega,DT,FY,Od,oV⟩
  case measure=>simp[intOf];omega
 obtain rfl:i=8:=by omega
 rw[Fw,← S8.cells_eq]at hH;rw[show((8:Nat):Int)=8 from rfl]at z9⊢;have PD:=Hh (XT (c:=c) HN.out.1 HN.out.2 wr (HS1.out.below hb));go_wp2_with fail
 refine PD.out.mono ?_
 rintro e w5 ⟨r5,rfl,xX⟩
 obtain⟨PA,pc,rfl,pe,lV,_⟩:=xX.own.form;have AQ:=hK.below xX.2;have Oc:=hH.below xX.2;have zE:=hb.trans (xX.2.mono hb.size)
 have DE:Hid (∀ q,PA.map (·.block)=some q→G<q):=fun q hq=>by
  have h1:=(xX.own.lt q (by cases PA with | none=>cases hq | some p=>exact hq)).1;have h2:=hH.lt
  omega
 obtain⟨Hp,_,IX,IW,_,JM⟩:=xX.own.snap (H:=fun _=>none) (fun _ _ h=>by cases h) (fun _ _=>rfl)
 have cN:Hid (∀ b o,Hp b=some o→G<b):=fun b o hb=>by
  rcases IW b o hb with h | h
  ·cases h
  exact DE.out b h
 have WL:=Hh (Zp l);obtain⟨m,hm⟩:∃ m,(uR l).length=m:=⟨_,rfl⟩
 have HM:=Hh hm;rw[hm];clear hF hK hH hb xX PD IW hm pe lV;go_wp2_with fail
 go_loopw [9] (fun v9 wx=>∃ (k nn:Nat) (VA:Option Addr) (vc:Nat),v9=.slice VA nn vc∧Hid (64*k+nn=m)∧Hid (IsBytes Hp VA vc ((uR l).drop (64*k)))∧Holds wx Hp∧Blk wx K0 246 (we KK)∧Blk wx G 247 (oa (uR l) k).cells∧Below w1.heap.size w1 wx) (fun v9 _=>sK v9)
 case atStart=>exact⟨0,m,PA,pc,rfl,by rw[Hid];omega,by rw[Hid];simpa using JM,IX,AQ,Oc,zE⟩
 case round =>
 clear IX JM AQ Oc zE;obtain⟨k,nn,VA,vc,rfl,JB,J9,VH,hK,hH,hb⟩:=hrel
 by_cases z9:(0:Int)<(nn:Int)
 ·have Uv:Hid (64≤nn):=by have:=WL.out;have:=HM.out;have:=JB.out;rw[Hid];omega
  have So:((uR l).drop (64*k)).length=nn:=by rw[List.length_drop,HM.out];have:=JB.out;omega
  obtain⟨b,off,rfl,_⟩:=J9.out.at_ (by rw[So];omega);have J2:=J9.out.le;rw[So]at J2;have BP:=J9.out.max;have HV:=Hh (And.intro J2 BP);have Cn:=Hh So;have RK:IsBytes Hp (some ⟨b,off,none⟩) vc (aL (uR l) k):=J9.out.take' 64;have Rd:(aL (uR l) k).length=64:=ZQ (by have:=JB.out;have:=Uv.out;rw[HM.out];omega);have RD:=Hh (ZF RK Rd wr VH hH hK Jj);rw[TB,← fg]at RD;have zAy:(64:Int)≤(vc:Int):=by have:=Uv.out;omega
  have zAz:(64:Int)≤(nn:Int):=by have:=Uv.out;omega
  clear So J2 BP RK Rd;go_wp2_with fail
  refine RD.out.mono ?_
  rintro e w6 ⟨⟨v6,rfl⟩,hH6,vt⟩
  have hK6:=hK.grown vt (by intro hc;injection hc with hc;have:=Hu.out;omega);have wS:=hb.grown vt hb.size (by rintro q ⟨⟩;exact Hu.out.1)
  have Bv:Holds w6 Hp:=VH.grown vt (by
   rintro q ⟨⟩
   cases hq:Hp G with
   | none=>rfl
   | some o=>have:=cN.out _ _ hq;omega)
  have rT:=Hh (J9.out.drop' 64 (by rw[Cn.out];exact Uv.out));clear hK hH hb VH vt RD;go_wp2_with fail
  go_roundw
  case rel =>
   refine⟨k+1,nn-64,_,vc-64,rfl,by have:=JB.out;have:=Uv.out;rw[Hid];omega, ?_,Bv,hK6,hH6,wS⟩
   have h:=rT.out;rw[List.drop_drop]at h;rw[Hid,show 64*(k+1)=64*k+64 by omega];rw[Option.map_some,td]at h
   simpa using h
  case measure=>have:=Uv.out;simp only[sK];omega
 obtain rfl:nn=0:=by omega
 have sw:k=(uR l).length/64:=by have:=JB.out;have:=HM.out;omega
 rw[sw]at hH;have Lj:Hid ((oa (uR l) ((uR l).length/64)).list.flatMap vD=qP l):=rfl;obtain⟨s,hs⟩:∃ s,oa (uR l) ((uR l).length/64)=s:=⟨_,rfl⟩
 rw[hs]at hH Lj;rw[← Qw]at Lj;obtain⟨a0,a1,a2,a3,a4,a5,a6,a7⟩:=s;obtain⟨oe,aX⟩:=jhH;have oV:=Rq.out.trans (hb.mono Rq.out.size);clear hs sw J9 JB VH hK hb;have q0:=hH.cell 0 (v:=.int .u32 a0) rfl;have q1:=hH.cell 1 (v:=.int .u32 a1) rfl;have q2:=hH.cell 2 (v:=.int .u32 a2) rfl;have q3:=hH.cell 3 (v:=.int .u32 a3) rfl;have q4:=hH.cell 4 (v:=.int .u32 a4) rfl;have q5:=hH.cell 5 (v:=.int .u32 a5) rfl;have q6:=hH.cell 6 (v:=.int .u32 a6) rfl;have q7:=hH.cell 7 (v:=.int .u32 a7) rfl;clear hH;go_wp2_with fail
 go_loopw [10,51] (fun v10 v51 wx=>∃ (i mo co:Nat) (VO:Option Addr),v10=.slice VO mo co∧v51=.int .i64 (i:Int)∧i≤8∧Hid (mo=4*i)∧OwnB wx w.heap.size (.slice VO mo co) (cK ⟨a0,a1,a2,a3,a4,a5,a6,a7⟩ i)∧Below w.heap.size w wx) (fun _ v51 _=>(8-intOf v51).toNat)
 case atStart=>exact⟨0,0,0,none,rfl,rfl,by omega,rfl,OwnB.nil _ _,oV⟩
 case round =>
 clear q0 q1 q2 q3 q4 q5 q6 q7 oV;obtain⟨i,mo,co,VO,rfl,rfl,hi,HMO,hO,hb⟩:=hrel
 rcases(show i=0∨i=1∨i=2∨i=3∨i=4∨i=5∨i=6∨i=7∨i=8 by omega) with rfl | rfl | rfl | rfl | rfl | rfl | rfl | rfl | rfl
 ·have X0:=jgr;go_wp2_with (at_builtin;refine zh ?_)
  unfold zZ
  clear X0;obtain⟨zJ,zY⟩:=jfS
  refine zv rfl (.tmp 54) (.tmp 66) rfl w.heap.size _ _ rfl zJ _ 4 _ (vD a0) rfl rfl (Src.new _ _ _ _ rfl _ (by rw[yQ])) (by rw[oe.out 0 (by omega),xP];omega) zY.size fun v' w5 zW zK hat5=>?_
  exact jbp
 ·have X0:=jgs;go_wp2_with (at_builtin;refine zh ?_)
  unfold zZ
  clear X0;obtain⟨zJ,zY⟩:=jfT
  refine zv rfl (.tmp 54) (.tmp 66) rfl w.heap.size _ _ rfl zJ _ 4 _ (vD a1) rfl rfl (Src.new _ _ _ _ rfl _ (by rw[yQ])) (by rw[oe.out 1 (by omega),xP];omega) zY.size fun v' w5 zW zK hat5=>?_
  exact jbq
 ·have X0:=jgt;go_wp2_with (at_builtin;refine zh ?_)
  unfold zZ
  clear X0;obtain⟨zJ,zY⟩:=jfU
  refine zv rfl (.tmp 54) (.tmp 66) rfl w.heap.size _ _ rfl zJ _ 4 _ (vD a2) rfl rfl (Src.new _ _ _ _ rfl _ (by rw[yQ])) (by rw[oe.out 2 (by omega),xP];omega) zY.size fun v' w5 zW zK hat5=>?_
  exact jbr
 ·have X0:=jgu;go_wp2_with (at_builtin;refine zh ?_)
  unfold zZ
  clear X0;obtain⟨zJ,zY⟩:=jfV
  refine zv rfl (.tmp 54) (.tmp 66) rfl w.heap.size _ _ rfl zJ _ 4 _ (vD a3) rfl rfl (Src.new _ _ _ _ rfl _ (by rw[yQ])) (by rw[oe.out 3 (by omega),xP];omega) zY.size fun v' w5 zW zK hat5=>?_
  exact jbs
 ·have X0:=jgv;go_wp2_with (at_builtin;refine zh ?_)
  unfold zZ
  clear X0;obtain⟨zJ,zY⟩:=jfW
  refine zv rfl (.tmp 54) (.tmp 66) rfl w.heap.size _ _ rfl zJ _ 4 _ (vD a4) rfl rfl (Src.new _ _ _ _ rfl _ (by rw[yQ])) (by rw[oe.out 4 (by omega),xP];omega) zY.size fun v' w5 zW zK hat5=>?_
  exact jbt
 ·have X0:=jgw;go_wp2_with (at_builtin;refine zh ?_)
  unfold zZ
  clear X0;obtain⟨zJ,zY⟩:=jfX
  refine zv rfl (.tmp 54) (.tmp 66) rfl w.heap.size _ _ rfl zJ _ 4 _ (vD a5) rfl rfl (Src.new _ _ _ _ rfl _ (by rw[yQ])) (by rw[oe.out 5 (by omega),xP];omega) zY.size fun v' w5 zW zK hat5=>?_
  exact jbu
 ·have X0:=jgx;go_wp2_with (at_builtin;refine zh ?_)
  unfold zZ
  clear X0;obtain⟨zJ,zY⟩:=jfY
  refine zv rfl (.tmp 54) (.tmp 66) rfl w.heap.size _ _ rfl zJ _ 4 _ (vD a6) rfl rfl (Src.new _ _ _ _ rfl _ (by rw[yQ])) (by rw[oe.out 6 (by omega),xP];omega) zY.size fun v' w5 zW zK hat5=>?_
  exact jbv
 ·have X0:=jgy;go_wp2_with (at_builtin;refine zh ?_)
  unfold zZ
  clear X0;obtain⟨zJ,zY⟩:=jfZ
  refine zv rfl (.tmp 54) (.tmp 66) rfl w.heap.size _ _ rfl zJ _ 4 _ (vD a7) rfl rfl (Src.new _ _ _ _ rfl _ (by rw[yQ])) (by rw[oe.out 7 (by omega),xP];omega) zY.size fun v' w5 zW zK hat5=>?_
  exact jbw
 rw[Lj.out]at hO;exact jby
def sr (m:Int) (u:UInt8):UInt8:=UInt8.ofNat (bits .xor .u8 (u.toNat:Int) m%256).toNat
theorem gY (m:Int) (u:UInt8):zu (sr m u)=.int .u8 (bits .xor .u8 (u.toNat:Int) m):=by
 obtain⟨v,hv⟩:∃ v,bits .xor .u8 (u.toNat:Int) m=IntKind.u8.wrap v:=⟨_,rfl⟩
 have h:(IntKind.u8.wrap v%256).toNat<256:=by omega
 rw[sr,hv,zu,UInt8.toNat_ofNat_of_lt' (by simpa using h)];congr 1
 rw[IntKind.wrap_u8]
 omega
def tB (key:List UInt8):List UInt8:=if 64<key.length then qP key else key
def sE (k:List UInt8):List UInt8:=k++List.replicate (64-k.length) 0
def uF (m:Int) (key:List UInt8):List UInt8:=(sE (tB key)).map (sr m)
def lL (key b:List UInt8):List UInt8:=qP (uF 92 key++qP (uF 54 key++b))
def tE (prk info:List UInt8):Nat→List UInt8
 | 0=>[]
 | k+1=>lL prk (tE prk info k++info++[UInt8.ofNat (k+1)])
def oE (prk info:List UInt8):Nat→List UInt8
 | 0=>[]
 | k+1=>oE prk info k++tE prk info (k+1)
def pB (prk info:List UInt8) (n:Nat):List UInt8:=(oE prk info ((n+31)/32)).take n
theorem k7 (key:List UInt8):(tB key).length≤64:=by
 unfold tB
 split
 ·rw[tf];omega
 omega
theorem jz {k:List UInt8}(h:k.length≤64):(sE k).length=64:=by
 rw[sE,List.length_append,List.length_replicate]
 omega
theorem vX (m:Int) (key:List UInt8):(uF m key).length=64:=by
 rw[uF,List.length_map,jz (k7 key)]
theorem rN (key b:List UInt8):(lL key b).length=32:=tf _
theorem ku (prk info:List UInt8):∀ k,(tE prk info k).length≤32
 | 0=>by simp[tE]
 | k+1=>by rw[tE,rN];omega
theorem sC (prk info:List UInt8):∀ k,(oE prk info k).length=32*k
 | 0=>rfl
 | k+1=>by rw[oE,List.length_append,sC prk info k,tE,rN];omega
def rI (m:Int) (l:List UInt8) (i:Nat):List UInt8:=(l.take i).map (sr m)++l.drop i
theorem NU (m:Int) (l:List UInt8):rI m l 0=l:=by simp[rI]
theorem Tv (m:Int) {l:List UInt8}{i:Nat}(h:l.length≤i):rI m l i=l.map (sr m):=by
 rw[rI,List.take_of_length_le h,List.drop_eq_nil_of_le h,List.append_nil]
theorem de (m:Int) (l:List UInt8) (i:Nat):(rI m l i).length=l.length:=by
 rw[rI,List.length_append,List.length_map,List.length_take,List.length_drop]
 omega
theorem Tw (m:Int) {l:List UInt8}{i:Nat}(h:i<l.length):(rI m l i)[i]'(by rw[de];exact h)=l[i]:=by
 have e:(l.take i).length=i:=by rw[List.length_take];omega
 simp only[rI]
 rw[List.getElem_append_right (by rw[List.length_map,e];exact Nat.le_refl _)]
 simp only[List.getElem_drop,List.length_map,List.length_take]
 congr 1
 omega
theorem Tx (m:Int) {l:List UInt8}{i:Nat}(h:i<l.length):(rI m l i).set i (sr m l[i])=rI m l (i+1):=by
 have e:(l.take i).length=i:=by rw[List.length_take];omega
 rw[rI,rI,List.set_append_right _ _ (by rw[List.length_map,e];exact Nat.le_refl _),List.length_map,e,Nat.sub_self,List.take_succ_eq_append_getElem h,List.map_append,List.append_assoc];congr 1
 rw[List.drop_eq_getElem_cons h];rfl
theorem pv:(Tryz.prog.info? 5).map (·.size)=some 1:=by kernel_rfl
theorem nf (n:Nat):(madeCells (Value.int .u8 0).cells (n*1)).toList=(List.replicate n (0:UInt8)).map zu:=by
 exact jcs
theorem dr {P:Program}{ops:Array Oper}{Q:Exit→Act→World→Prop}{rest:List Oper}{a:Act}{w:World}{dst:Option Tmp}{d s:Operand}{tys:Array TypeId}{T:TypeId}{pos:String}{af:Array Edge}{g:Option (Nat×Bool)}
  (h:zZ (wpList P ops Q (⟨dst,.call { callee:=.builtin .copy,args:=#[d,s],argTypes:=tys },T,pos,af,g⟩::rest) a w)):wpList P ops Q (⟨dst,.call { callee:=.builtin .copy,args:=#[d,s],argTypes:=tys },T,pos,af,g⟩::rest) a w:=h
theorem QY {α:Type}(L ns:List α):splice L 0 ns=ns++L.drop ns.length:=by simp[splice]
theorem qV {w:World}{ops:Array Oper}{rest:List Oper}{o:Oper}{a:Act}{Q:Exit→Act→World→Prop}(hgd:o.guard=none) (d s:Operand)
  (ho:o.op=.call { callee:=.builtin .copy,args:=#[d,s],argTypes:=#[22,22] })
  (base:Nat) (A':Option Addr) (n' c':Nat) (l:List UInt8) (hd:a.eval d=.slice A' n' c') (tW:OwnB w base (.slice A' n' c') l) (A:Option Addr) (m c:Nat) (news:List UInt8) (hs:a.eval s=.slice A m c) (hm:m=news.length)
  (hr:Src w A (news.map zu)) (mN:news.length≤l.length) (w0:World) (hb:Below base w0 w)
  (h:∀ w',OwnB w' base (.slice A' n' c') (news++l.drop news.length)→Below base w0 w'→wpList Tryz.prog ops Q rest (a.put o.dst (goInt news.length)) w') :
  wpList Tryz.prog ops Q (o::rest) a w:=by
 subst hm
 rcases tW.2 with ⟨hv,hz⟩ | ⟨g,cap,cur,hv,hbse,hg,hc,cf,hcz,ht⟩
 ·cases hv
  have ap:l=[]:=List.eq_nil_of_length_eq_zero hz;subst ap;have wg:news=[]:=List.eq_nil_of_length_eq_zero (by simpa using mN);subst wg
  refine wpList_copy_nothing hgd d s _ _ ho 5 Tryz.underlying22 pv _ _ _ _ _ _ hd hs (by simp) ?_
  exact h w tW hb
 cases hv
 have rj:(news.map zu).length=news.length:=by simp
 have hz:cur.toList.length=c':=by rw[Array.length_toList,hcz,Nat.mul_one]
 refine wpList_copy_splice hgd d s _ _ ho 5 Tryz.underlying22 pv _ _ _ _ _ _ hd hs g 0 cur.toList 5 (by simpa using hg) (news.map zu) (by rw[rj];exact(Nat.min_eq_left mN).symm) ?_ (by rw[rj,hz];omega) (jt _) base w0 hb hbse ?_
 ·intro hp
  obtain⟨b,off,e,y7⟩:=hr (by intro h0;rw[h0]at hp;simp at hp)
  exact⟨rfl,_,e,fun j v hj=>by rw[td];exact y7 j v hj⟩
 intro w' hG hB
 rw[rj]
 refine h w' ?_ hB
 have hl:(news++l.drop news.length).length=l.length:=by rw[List.length_append,List.length_drop];omega
 refine⟨by simp,.inr ⟨g,c',(splice cur.toList 0 (news.map zu)).toArray,by rw[hl],hbse,hG.out,by rw[hl];exact hc,cf, ?_, ?_⟩⟩
 ·have:=length_splice cur.toList 0 (news.map zu) (by rw[rj,hz];omega);rw[hz]at this;rw[Nat.mul_one,← this]
  exact List.size_toArray
 rw[hl]
 simp only[List.toList_toArray]
 rw[QY,rj,Nat.mul_one,List.take_append,rj,List.take_of_length_le (by rw[rj];exact mN),List.map_append,List.map_drop];congr 1
 rw[Nat.mul_one]at ht;rw[← ht,List.drop_take]
theorem gK {A:Option Addr}{n c:Nat}{ls:List (List UInt8)}(hn:n=ls.length) (hl:ls.length≤1099511627000) (ht:ls.flatten.length≤1099511627000) (w:World) (hs:SrcR w A ls) :
  Calls Tryz.prog 157 #[.slice A n c] w fun e w'=>∃ r,e=.returned r∧Fresh w (ls.flatten) r w':=by
 have HN:=jgK;clear hn hl ht;go_enter Tryz.func157,Tryz.ntmps157
 exact jaa
theorem X6 {A:Option Addr}{c:Nat}{key:List UInt8}{n:Nat}(hn:n=key.length) (wP:key.length≤1099511627) (m:Int) (w:World) (hS:Src w A (key.map zu)) :
  Calls Tryz.prog 189 #[.slice A n c,.int .u8 m] w fun e w'=>∃ r,e=.returned r∧Fresh w (uF m key) r w':=by
 have HN:=Hh (And.intro hn wP);have HS:=Hh hS;have SM:=Hh (lw (c:=c) hn wP w hS);clear hn wP hS;go_enter Tryz.func189,Tryz.ntmps189
 go_upto_if 9 with fail
 go_cut [0] (fun s0 wx=>∃ (A1:Option Addr) (n1 c1:Nat),s0=.slice A1 n1 c1∧Hid (n1=(tB key).length)∧Src wx A1 ((tB key).map zu)∧Below w.heap.size w wx)
 case first =>
  by_cases Mh:n≤64
  ·have e:tB key=key:=by rw[tB,if_neg (by have:=HN.out.1;omega)]
   have Kr:¬ ((64:Int)<(n:Int)):=by omega
   go_wp2_with fail
   go_meet
   exact⟨A,n,c,rfl,by rw[Hid,e];exact HN.out.1,by rw[e];exact HS.out,Below.refl _ _⟩
  have e:tB key=qP key:=by rw[tB,if_pos (by have:=HN.out.1;omega)]
  have Kr:(64:Int)<(n:Int):=by omega
  have eC:=Hh e;clear e;go_wp2_with fail
  refine SM.out.mono ?_
  rintro e w1 ⟨r1,rfl,rv⟩
  obtain⟨A1,c1,rfl,wv⟩:=rv.own.form;have xZ:=rv.own.src;have zY:=rv.2;clear wv rv;obtain⟨n1,qf⟩:∃ n1,(qP key).length=n1:=⟨_,rfl⟩
  rw[qf];have YF:=Hh qf;clear qf;go_wp2_with fail
  go_meet
  exact⟨A1,n1,c1,rfl,by rw[Hid,eC.out];exact YF.out.symm,by rw[eC.out];exact xZ,zY⟩
 case rest =>
 clear SM;obtain⟨A1,n1,c1,rfl,YF,xZ,zY⟩:=hcut;have jj:=Hh (k7 key);obtain⟨K,hK⟩:∃ K,tB key=K:=⟨_,rfl⟩
 have HMP:Hid (uF m key=(sE K).map (sr m)):=by rw[Hid,uF,hK]
 rw[hK]at YF jj xZ;obtain⟨i0,og,n9,rx,oN⟩:=info_parts rX;clear hK;go_wp2_with (at_make;refine zh ?_)
 refine wpList_make_full _ rfl _ _ 22 rfl w.heap.size 5 i0 _ 1 Tryz.underlying22 og n9 rx _ _ _ _ 64 rfl rfl (by omega) (by omega) (by rw[oN];omega) (by simp only[maxLen];omega) zY.size fun w2 hO hg2=>?_
 have zD:=zY.trans ((yW hg2).mono zY.size);have oX:=xZ.below (yW hg2)
 have ui:OwnB w2 w.heap.size (.slice (some ⟨wc.heap.size,0,none⟩) 64 64) (List.replicate 64 0):=by
  have h:w2.ownsRow w.heap.size 5 1 (.slice (some ⟨wc.heap.size,0,none⟩) 64 64) (List.replicate 64 (0:UInt8)).length ((List.replicate 64 (0:UInt8)).map zu):=by
   exact jdg
  exact h
 obtain⟨G,hG⟩:∃ G,wc.heap.size=G:=⟨_,rfl⟩
 rw[hG]at ui⊢;clear og n9 rx oN hO hg2 xZ zY hG;go_wp2_with (with_reducible refine dr ?_)
 refine qV rfl (.tmp 13) (.tmp 14) rfl w.heap.size _ _ _ _ rfl ui A1 n1 c1 K rfl YF.out oX (by rw[List.length_replicate];exact jj.out) w zD fun w3 tR yR=>?_
 have fO:K++(List.replicate 64 (0:UInt8)).drop K.length=sE K:=by rw[sE,List.drop_replicate]
 rw[fO,← NU m (sE K)]at tR;have aS:=Hh (jz jj.out);clear ui zD oX fO;go_wp2_with fail
 go_loopw [18] (fun v18 wr=>∃ i:Nat,v18=.int .i64 (i:Int)∧i≤64∧OwnB wr w.heap.size (.slice (some ⟨G,0,none⟩) 64 64) (rI m (sE K) i)∧Below w.heap.size w wr) (fun v18 _=>(64-intOf v18).toNat)
 case atStart=>exact⟨0,rfl,by omega,tR,yR⟩
 case round =>
 clear tR yR;obtain⟨i,rfl,hi,hO,hb⟩:=hrel
 by_cases z9:(i:Int)<64
 ·have oS:i<(sE K).length:=by rw[aS.out];omega
  have pe:i<(rI m (sE K) i).length:=by rw[de];exact oS
  have cl:wr.cell? ⟨G,i,none⟩=some (zu (sE K)[i]):=by
   obtain⟨b,off,e,hc⟩:=hO.src (by intro h;have:=congrArg List.length h;rw[List.length_map]at this;simp at this;rw[this]at pe;simp at pe)
   cases e
   have h:=hc i (zu (rI m (sE K) i)[i]) (by rw[List.getElem?_map,List.getElem?_eq_getElem pe];rfl);rw[Tw m oS,Nat.zero_add]at h
   exact h
  have HXV:=Hh (gY m (sE K)[i]);have HPS:=Hh (Tx m oS);obtain⟨u,hu⟩:∃ u,(sE K)[i]=u:=⟨_,rfl⟩
  rw[hu]at cl HXV HPS;obtain⟨gq,cur,e,WS,iY,oT,rq⟩:=hO.store_ (k:=i) pe
  cases e
  have kS:=Hh rq;clear hu oS pe rq hO;go_wp2_with (with_reducible refine zx ?_)
  refine zw rfl _ _ _ rfl rfl G i (zu (sr m u)) rfl (by rw[HXV.out];rfl) _ _ iY pv oT rfl fun w4 ss hg4=>?_
  have uj:=kS.out w4 (sr m u) ss;rw[HPS.out]at uj;have xE:=zp hb hg4 (by rintro q ⟨⟩;exact WS);clear iY hg4 hb ss cl kS;go_wp2_with fail
  go_roundw
  case rel=>exact⟨i+1,by go_num,by omega,uj,xE⟩
  case measure=>simp[intOf];omega
 obtain rfl:i=64:=by omega
 rw[Tv m (by rw[aS.out];exact Nat.le_refl _),← HMP.out]at hO;rw[show((64:Nat):Int)=64 from rfl]at z9⊢;go_wp2_with fail
 go_ret
 exact⟨_,rfl,hO,hb⟩
theorem SrcR.lit2 (w:World) (t:TypeId) {A1 A2:Option Addr}{n1 c1 n2 c2:Nat}{l1 l2:List UInt8}(e1:n1=l1.length) (e2:n2=l2.length) (h1:Src w A1 (l1.map zu)) (h2:Src w A2 (l2.map zu)) :
  SrcR (w.alloc (.cells #[.slice A1 n1 c1,.slice A2 n2 c2] t)) (some ⟨w.heap.size,0,none⟩) [l1,l2]:=fun _=>by
 have hB:=Blk.new w t #[.slice A1 n1 c1,.slice A2 n2 c2]
 refine⟨w.heap.size,0,rfl,fun j hj=>?_⟩
 subst e1 e2
 match j,hj with
 | 0,_=>exact⟨A1,c1,hB.cell 0 rfl,h1.alloc _⟩
 | 1,_=>exact⟨A2,c2,hB.cell 1 rfl,h2.alloc _⟩
theorem SrcR.lit3 (w:World) (t:TypeId) {A1 A2 A3:Option Addr}{n1 c1 n2 c2 n3 c3:Nat}{l1 l2 l3:List UInt8}(e1:n1=l1.length) (e2:n2=l2.length) (e3:n3=l3.length) (h1:Src w A1 (l1.map zu)) (h2:Src w A2 (l2.map zu)) (h3:Src w A3 (l3.map zu)) :
  SrcR (w.alloc (.cells #[.slice A1 n1 c1,.slice A2 n2 c2,.slice A3 n3 c3] t)) (some ⟨w.heap.size,0,none⟩) [l1,l2,l3]:=fun _=>by
 have hB:=Blk.new w t #[.slice A1 n1 c1,.slice A2 n2 c2,.slice A3 n3 c3]
 refine⟨w.heap.size,0,rfl,fun j hj=>?_⟩
 subst e1 e2 e3
 match j,hj with
 | 0,_=>exact⟨A1,c1,hB.cell 0 rfl,h1.alloc _⟩
 | 1,_=>exact⟨A2,c2,hB.cell 1 rfl,h2.alloc _⟩
 | 2,_=>exact⟨A3,c3,hB.cell 2 rfl,h3.alloc _⟩
theorem Pt {A:Option Addr}{c:Nat}{key:List UInt8}{n:Nat}(hn:n=key.length) (wP:key.length≤1099511627) {B:Option Addr}{d:Nat}{b:List UInt8}{k:Nat}(hk:k=b.length) (hmb:b.length≤1099511000) (w:World) (hS:Src w A (key.map zu)) (hT:Src w B (b.map zu)) :
  Calls Tryz.prog 156 #[.slice A n c,.slice B k d] w fun e w'=>∃ r,e=.returned r∧Fresh w (lL key b) r w':=by
 have HN:=Hh (And.intro hn (And.intro hk hmb));have HS:=Hh hS;have HT:=Hh hT;have M1:=Hh (fun(m:Int) w (hS:Src w A (key.map zu))=>X6 (c:=c) hn wP m w hS);clear hn wP hk hmb hS hT;go_enter Tryz.func156,Tryz.ntmps156
 go_wp2_with fail
 refine(M1.out 92 _ HS.out).mono ?_
 rintro e w1 ⟨r1,rfl,rv⟩
 obtain⟨A1,c1,rfl,_⟩:=rv.own.form;rw[vX];have zY:=rv.2;have xZ:=rv.own.src;clear rv;go_wp2_with fail
 refine(M1.out 54 _ (HS.out.below zY)).mono ?_
 rintro e w2 ⟨r2,rfl,sj⟩
 obtain⟨A2,c2,rfl,_⟩:=sj.own.form;rw[vX];have zD:=jgN;have He:=xZ.below sj.2;have oW:=SrcR.lit2 (c1:=c2) (c2:=d) w2 22 (vX 54 key).symm HN.out.2.1 sj.own.src (HT.out.below zD);have yR:=zD.alloc zD.size (.cells #[.slice A2 64 c2,.slice B k d] 22);have LZ:=He.alloc (.cells #[.slice A2 64 c2,.slice B k d] 22);obtain⟨P,hP⟩:∃ P,w2.heap.size=P:=⟨_,rfl⟩
 rw[hP]at oW;have HP:=Hh hP;obtain⟨w3,J3⟩:∃ w3,w2.alloc (.cells #[.slice A2 64 c2,.slice B k d] 22)=w3:=⟨_,rfl⟩
 rw[J3]at oW yR LZ;have HW3:=Hh J3;have JN:=Hh (gK (n:=2) (c:=2) rfl (by simp) (by simp[vX];have:=HN.out.2.2;omega) w3 oW);clear hP J3 oW xZ He zY zD sj M1;go_wp2_with fail
 rw[HW3.out,HP.out]
 refine JN.out.mono ?_
 rintro e w4 ⟨r4,rfl,rf⟩
 rw[show [uF 54 key,b].flatten=uF 54 key++b by simp]at rf;have Md:Hid ((uF 54 key++b).length≤1099511627):=by rw[Hid,List.length_append,vX];have:=HN.out.2.2;omega
 obtain⟨I,hI⟩:∃ I,uF 54 key++b=I:=⟨_,rfl⟩
 have HI:=Hh hI;rw[hI]at rf Md;obtain⟨A4,c4,rfl,_⟩:=rf.own.form;obtain⟨m4,EK⟩:∃ m,I.length=m:=⟨_,rfl⟩
 rw[EK];have SM:=Hh (lw (c:=c4) EK.symm Md.out w4 rf.own.src);have xE:=yR.trans (rf.2.mono yR.size);have jH:=LZ.below rf.2;clear hI EK rf yR LZ JN;go_wp2_with fail
 refine SM.out.mono ?_
 rintro e w5 ⟨r5,rfl,xX⟩
 obtain⟨A5,c5,rfl,_⟩:=xX.own.form;rw[tf];have zE:=jhI;have au:=jH.below xX.2;have ij:=SrcR.lit2 (c1:=c1) (c2:=c5) w5 22 (vX 92 key).symm (tf I).symm au xX.own.src;have wS:=zE.alloc zE.size (.cells #[.slice A1 64 c1,.slice A5 32 c5] 22);obtain⟨P5,YW⟩:∃ P,w5.heap.size=P:=⟨_,rfl⟩
 rw[YW]at ij;have HP5:=Hh YW;obtain⟨w6,SY⟩:∃ w6,w5.alloc (.cells #[.slice A1 64 c1,.slice A5 32 c5] 22)=w6:=⟨_,rfl⟩
 rw[SY]at ij wS;have HW6:=Hh SY;have JN:=Hh (gK (n:=2) (c:=2) rfl (by simp) (by simp[vX,tf]) w6 ij);clear YW SY ij jH au xE zE xX SM;go_wp2_with fail
 rw[HW6.out,HP5.out]
 refine JN.out.mono ?_
 rintro e w7 ⟨r7,rfl,mw⟩
 rw[show [uF 92 key,qP I].flatten=uF 92 key++qP I by simp]at mw;obtain⟨O,hO⟩:∃ O,uF 92 key++qP I=O:=⟨_,rfl⟩
 have HO:Hid (qP O=lL key b∧O.length=96):=by
  rw[Hid,← hO]
  refine⟨by rw[lL,← HI.out],by rw[List.length_append,vX,tf]⟩
 rw[hO]at mw;obtain⟨A7,c7,rfl,_⟩:=mw.own.form;rw[HO.out.2];have SM:=Hh (lw (c:=c7) (n:=96) HO.out.2.symm (by rw[HO.out.2];omega) w7 mw.own.src);have uI:=wS.trans (mw.2.mono wS.size);clear hO mw wS JN;go_wp2_with fail
 refine SM.out.mono ?_
 rintro e w8 ⟨r8,rfl,M6⟩
 have ho:=M6.own.more (base':=w.heap.size) uI.size;have uk:=uI.trans (M6.2.mono uI.size);clear M6 uI SM;go_wp2_with fail
 go_ret
 exact⟨_,rfl,by rw[← HO.out.1];exact⟨ho,uk⟩⟩
end Go.Proofs.YtkmlnjociijpgaaGreatDoor
