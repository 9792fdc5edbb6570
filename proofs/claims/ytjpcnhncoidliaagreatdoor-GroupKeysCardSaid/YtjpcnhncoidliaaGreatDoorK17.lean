/- squeezed. SHA-256: the constants. SHA-256 of -/
import Derived.Test.YtjpcnhncoidliaaGreatDoorK16
import Derived.Laws.CopyOwn
import Derived.Deep.DeepCutAuto
import Derived.Deep.CutBlock
import Derived.Lib.AppendStr
set_option linter.unusedVariables false
set_option linter.unusedSimpArgs false
set_option maxRecDepth 100000
set_option maxHeartbeats 6400000
namespace Go.Proofs.YtjpcnhncoidliaaGreatDoor
open Go.RowKit
def iR (n:Nat) (x:Nat×Nat):Bool:=oq x.1&&o7 n x.1 x.2&&decide (x.2<18446744073709551616)
theorem Y9:(uj.zip qW).all (iR 3)=true:=by kernel_rfl
theorem Y8:(uj.zip uk).all (iR 2)=true:=by kernel_rfl
theorem kW {n p c:Nat}(h:iR n (p,c)=true):oq p=true∧o7 n p c=true∧c<18446744073709551616:=by
 unfold iR at h
 simp only[Bool.and_eq_true,decide_eq_true_eq]at h
 exact⟨h.1.1,h.1.2,h.2⟩
theorem ff {f:Nat×Nat→Bool}{l m:List Nat}(h:(l.zip m).all f=true) (i:Nat) (hl:i<l.length) (hm:i<m.length):f (l[i],m[i])=true:=by
 rw[List.all_eq_true]at h;have hz:i<(l.zip m).length:=by rw[List.length_zip];omega
 have h1:=h _ (List.getElem_mem hz);rw[List.getElem_zip]at h1
 exact h1
theorem oo {l:List Nat}{i:Nat}(h:i<l.length):xr l i=l[i]:=by simp[xr,h]
def P64:List Nat:=uj.take 64
def K64:List Nat:=qW.take 64
theorem cv:P64.length=64:=rfl
theorem kx:K64.length=64:=rfl
theorem Vl {i:Nat}(h:i<64):oq (xr P64 i)=true∧o7 3 (xr P64 i) (xr K64 i)=true∧xr K64 i<18446744073709551616:=by
 have h1:uj.length=80:=rfl;have h2:qW.length=80:=rfl;have hP:xr P64 i=uj[i]:=by rw[oo (by rw[cv];exact h)];simp[P64]
 have hK:xr K64 i=qW[i]:=by rw[oo (by rw[kx];exact h)];simp[K64]
 rw[hP,hK]
 exact kW (ff Y9 i (by omega) (by omega))
theorem Vk {i:Nat}(h:i<8):o7 2 (xr P64 i) (xr uk i)=true∧xr uk i<18446744073709551616:=by
 have h1:uj.length=80:=rfl;have h2:uk.length=8:=rfl;have hP:xr P64 i=uj[i]:=by rw[oo (by rw[cv];omega)];simp[P64]
 rw[hP,oo (by omega)]
 exact(kW (ff Y8 i (by omega) (by omega))).2
def hsP:Nat→List Nat
 | 0=>List.replicate 8 0
 | k+1=>if k<8 then(hsP k).set k (xr uk k) else hsP k
theorem dD:∀ k,(hsP k).length=8
 | 0=>rfl
 | k+1=>by
  rw[hsP]
  split
  ·rw[List.length_set,dD k]
  exact dD k
theorem OM {k:Nat}(h:k<8):hsP (k+1)=(hsP k).set k (xr uk k):=if_pos h
theorem OL {k:Nat}(h:¬ k<8):hsP (k+1)=hsP k:=if_neg h
theorem OK:hsP 64=uk:=by kernel_rfl
theorem Yk {l:List Nat}{i:Nat}(h:i<l.length):l.take (i+1)=l.take i++[xr l i]:=by
 rw[List.take_succ_eq_append_getElem h,oo h]
theorem ON {α:Type}{l:List α}(h:l.length=8):∃ a b c d e f g i,l=[a,b,c,d,e,f,g,i]:=by
 match l,h with
 | [a,b,c,d,e,f,g,i],_=>exact⟨a,b,c,d,e,f,g,i,rfl⟩
theorem gp:(Tryz.prog.info? 121).map (·.size)=some 8:=by kernel_rfl
theorem jg {fn:Func}{p u:Tmp}{ty:TypeId}(h:fn.results=#[.tmp u,.cell p ty]) (tmps:Array Value) (P:Program) (w:World) :
  (results fn tmps).run P w =
   ((asAddr (tmps.getD p undef)).run P w).andThen fun a w₁=>((loadVar ty a).run P w₁).andThen fun x w₂=>.ok (.tuple #[tmps.getD u undef,x]) w₂:=by
 simp only[results,h]
 simp[Sem.run_bind,Result.andThen]
theorem aP {fn:Func}{p u:Tmp}{ty:TypeId}{a:Act}{w:World}{R:Ending→World→Prop}{g:Nat}{t:TypeId}{cs:Array Value}{d:TypeDesc}(h:fn.results=#[.tmp u,.cell p ty]) (hp:a.tmps.getD p undef=.pointer (some ⟨g,0,none⟩)) (hg:Blk w g t cs)
  (hd:(match d with | .struct _ | .array _ _=>true | _=>false)=true) (hu:Tryz.prog.underlying ty=some d) (hi:(Tryz.prog.info? ty).map (·.size)=some cs.size)
  (hdf:a.defers=[]) (hR:R (.returned (.tuple #[a.tmps.getD u undef,.agg cs])) w):bodyPost Tryz.prog fn R .ret a w:=by
 refine bodyPost_ret (v:=.tuple #[a.tmps.getD u undef,.agg cs]) ?_ hdf hR
 rw[jg h,hp];have XJ:=run_loadVar_row (P:=Tryz.prog) w g t ty cs (0,0) d hg hu (by cases d <;> first | exact hd | rfl | cases hd) hi
 simp[asAddr,XJ,Result.andThen]
theorem f6 (H:Snap) (w:World):Calls Tryz.prog 86 #[.int .i64 64] w fun e w'=>∃ A c,e=.returned (.tuple #[.slice A 64 c,.agg (zM uk)])∧OwnX fG 75 w' w.heap.size (.slice A 64 c) H K64∧Below w.heap.size w w':=by
 have kK:=Blk.new w 121 #[.int .u64 0,.int .u64 0,.int .u64 0,.int .u64 0,.int .u64 0,.int .u64 0,.int .u64 0,.int .u64 0];have yZ:=zl w (.cells #[.int .u64 0,.int .u64 0,.int .u64 0,.int .u64 0,.int .u64 0,.int .u64 0,.int .u64 0,.int .u64 0] 121);have Nj:=(OwnX.nil fG 75 w w.heap.size H).alloc (.cells #[.int .u64 0,.int .u64 0,.int .u64 0,.int .u64 0,.int .u64 0,.int .u64 0,.int .u64 0,.int .u64 0] 121)
 generalize nY:w.alloc (.cells #[.int .u64 0,.int .u64 0,.int .u64 0,.int .u64 0,.int .u64 0,.int .u64 0,.int .u64 0,.int .u64 0] 121)=w1 at kK yZ Nj
 have QS:=Hh nY;have PR:=Hh (Yi H w1);clear nY;go_enter Tryz.func86,Tryz.ntmps86
 go_wp2_with fail
 rw[QS.out]
 refine PR.out.mono ?_
 rintro e w2 ⟨PA,pc,rfl,hP,yz⟩
 have vE:=kK.below yz;have tl:=Nj.below yz;have vg:=yZ.trans (yz.mono yZ.size);have Cj:Hid (w1.heap.size≤w2.heap.size∧w.heap.size+1=w1.heap.size):=⟨yz.size,by rw[← QS.out,zW]⟩
 have BZ:=Hh (fun q (hq:(Value.slice PA 64 pc).ownBlock=some q)=>hP.lt q hq);obtain⟨pg,rfl,hp⟩:=iU hP (by decide);clear PR yZ yz kK Nj QS;go_wp2_with fail
 go_loopw [2,9] (fun v2 v9 wr=>∃ (i:Nat),v9=.int .i64 (i:Int)∧Hid (i≤64)∧OwnX fG 75 wr w.heap.size v2 H (K64.take i)∧(∀ g,v2.ownBlock=some g→g≠w.heap.size∧g≠pg)∧OwnX fG 75 wr w1.heap.size (.slice (some ⟨pg,0,none⟩) 64 pc) H (uj.take 64)∧Blk wr w.heap.size 121 (zM (hsP i))∧Below w.heap.size w wr) (fun _ v9 _=>(64-intOf v9).toNat)
 case atStart=>exact⟨0,rfl,Nat.zero_le _,tl,by simp[Value.ownBlock],hP,vE,vg⟩
 case round =>
 clear tl hP vE vg hp;obtain⟨i,rfl,HI,hO,xq,hP,hB,hb⟩:=hrel;obtain⟨A,c,rfl,Nx,Zf⟩:=hO.form;have rS:(K64.take i).length=i:=by rw[List.length_take,kx];have:=HI.out;omega
 rw[rS]at hO xq⊢;have Mc:=Hh xq;clear Nx Zf rS xq
 by_cases yy:(i:Int)<64
 ·have hi:i<64:=by omega
  have cp:wr.cell? ⟨pg,i,none⟩=some (.int .u64 (xr P64 i:Int)):=by
   obtain⟨g',e',h'⟩:=iU hP (by decide)
   cases e'
   have h:=h' i (by rw[show(uj.take 64).length=64 from rfl];exact hi);rw[oo (l:=P64) (by rw[cv];exact hi)]
   exact h
  have HC:=Hh (Vl hi);have cI:=Hh (fun h:i<8=>Vk h);have EZ:=Hh (Yk (l:=K64) (i:=i) (by rw[kx];exact hi));obtain⟨p,hp⟩:∃ p,xr P64 i=p:=⟨_,rfl⟩
  obtain⟨kc,NI⟩:∃ kc,xr K64 i=kc:=⟨_,rfl⟩
  rw[hp]at cp HC cI;rw[NI]at HC EZ;have FR:=Hh (fun w=>f8 p kc HC.out.1 HC.out.2.2 HC.out.2.1 w);have sv:=Hh yy;clear hp NI hi;go_wp2_with fail
  refine(FR.out _).mono ?_
  rintro e w4 ⟨rfl,sW⟩
  have kD:=(hO.below sW).alloc (.cells #[.int .u64 (kc:Int)] 75);have Ih:=(hP.below sW).alloc (.cells #[.int .u64 (kc:Int)] 75);have fJ:=(hB.below sW).alloc (.cells #[.int .u64 (kc:Int)] 75);have xz:=(hb.trans (sW.mono hb.size)).alloc (Nat.le_trans hb.size sW.size) (.cells #[.int .u64 (kc:Int)] 75);have pk:∀ q,(Value.slice A i c).ownBlock=some q→w.heap.size≤q:=fun q hq=>(hO.lt q hq).1
  clear hO hP hB hb sW cp FR;go_wp2_with (at_builtin;refine zf ?_)
  refine OwnX.append rfl (.tmp 14) (.tmp 17) 128 rfl Tryz.underlying128 rfl (by omega) ap rfl kD _ 1 _ [.int .u64 (kc:Int)] [kc] rfl rfl (RowC.one rfl) (Src.new _ _ _ _ rfl _ rfl) (by rw[List.length_take,kx];simp;omega) xz.size fun v' w6 qf hg6 hat6=>?_
  have y9:=zm xz hg6 pk;have Pq:=Ih.kept hg6 (.inr (by intro hc;exact(Mc.out pg hc.symm).2 rfl));have yJ:=fJ.grown hg6 (by intro hc;exact(Mc.out _ hc).1 rfl);rw[← EZ.out]at qf
  have Of:Hid (∀ q,v'.ownBlock=some q→q≠w.heap.size∧q≠pg):=by
   intro q hq
   rcases hat6 with h | ⟨q',h,Qh⟩
   ·exact Mc.out q (h.symm.trans hq)
   rw[hq]at h
   cases h
   have h1:=fJ.lt;have h2:=(Ih.lt pg rfl).2;constructor <;> omega
  clear kD Ih fJ xz hg6 hat6 pk
  by_cases h8:(i:Int)<8
  ·have FR2:=Hh (fun w=>f7 p (xr uk i) HC.out.1 (cI.out (by omega)).2 (cI.out (by omega)).1 w);have HS:=Hh (OM (k:=i) (by omega));have H8:=Hh h8;go_wp2_with fail
   refine(FR2.out _).mono ?_
   rintro e w7 ⟨rfl,xU⟩
   have wY:=qf.below xU;have QY:=Pq.below xU;have nW:=yJ.below xU;have wJ:=y9.trans (xU.mono y9.size);clear qf Pq yJ y9 xU FR2;go_wp2_with (with_reducible refine zx ?_)
   refine zr rfl _ _ _ rfl rfl w.heap.size i (.int .u64 (xr uk i:Int)) rfl rfl _ _ nW tr (by rw[uX,dD];have:=H8.out;omega) rfl fun w8 hB8 hg8=>?_
   rw[qT,← HS.out]at hB8;have jV:=wY.kept hg8 (.inr (by intro hc;exact(Of.out _ hc).1 rfl));have hP8:=QY.kept hg8 (.inr (by intro hc;have hc:pg=w.heap.size:=Option.some.inj hc;have:=(QY.lt pg rfl).1;have:=Cj.out;omega));have pj:=wJ.grown hg8 wJ.size (by rintro q ⟨⟩;exact Nat.le_refl _);clear wY QY nW wJ hg8;go_wp2_with fail
   go_roundw
   case rel=>exact⟨i+1,by go_num,by have:=sv.out;rw[Hid];omega,jV,Of.out,hP8,hB8,pj⟩
   case measure=>have:=sv.out;simp[intOf];omega
  rw[← OL (k:=i) (by omega)]at yJ;go_wp2_with fail
  go_roundw
  case rel=>exact⟨i+1,by go_num,by have:=sv.out;rw[Hid];omega,qf,Of.out,Pq,yJ,y9⟩
  case measure=>have:=sv.out;simp[intOf];omega
 obtain rfl:i=64:=by have:=HI.out;omega
 rw[OK]at hB;rw[show K64.take 64=K64 from rfl]at hO;rw[show((64:Nat):Int)=64 from rfl]at yy⊢;obtain⟨b0,b1,b2,b3,b4,b5,b6,b7,Ic⟩:=ON (show uk.length=8 from rfl);have CG:=Hh Ic;rw[Ic]at hB;clear Ic;go_upto_region 8 with fail
 refine yw 3 (fun wx=>wx.cell? ⟨w.heap.size,0,none⟩=some (.int .u64 (b0:Int))∧wx.cell? ⟨w.heap.size,1,none⟩=some (.int .u64 (b1:Int))∧wx.cell? ⟨w.heap.size,2,none⟩=some (.int .u64 (b2:Int))∧wx.cell? ⟨w.heap.size,3,none⟩=some (.int .u64 (b3:Int))∧wx.cell? ⟨w.heap.size,4,none⟩=some (.int .u64 (b4:Int))∧wx.cell? ⟨w.heap.size,5,none⟩=some (.int .u64 (b5:Int))∧wx.cell? ⟨w.heap.size,6,none⟩=some (.int .u64 (b6:Int))∧wx.cell? ⟨w.heap.size,7,none⟩=some (.int .u64 (b7:Int))) (by kernel_rfl) (⟨hB.drew.cell 0 rfl,hB.drew.cell 1 rfl,hB.drew.cell 2 rfl,hB.drew.cell 3 rfl,hB.drew.cell 4 rfl,hB.drew.cell 5 rfl,hB.drew.cell 6 rfl,hB.drew.cell 7 rfl⟩) (fun zy=>?_)
 refine Zk 0 rfl zy ?_
 refine Zk 1 rfl zy ?_
 refine Zk 2 rfl zy ?_
 refine Zo 3 rfl fun K hK=>?_
 rw[if_pos (by rfl)]
 refine zF _ _ _ rfl w.heap.size (zM [b0,b1,b2,b3,b4,b5,b6,b7]) rfl rfl _ _ hB.drew gp rfl (wP _) fun w9 Mq hg9=>?_
 refine Kz hK ?_
 clear hK K
 refine WaysZ.done (by kernel_rfl) ?_
 have uN:=hb.drew.grown hg9 hb.size (by rintro q ⟨⟩;exact Nat.le_refl _);have fK:=OwnX.kept (w:=wr.drew) (w':=w9) hO hg9 (.inr (by intro hc;exact(Mc.out _ hc).1 rfl));clear zy;go_wp2_with fail
 refine aP rfl rfl Mq rfl rfl gp rfl ?_
 exact⟨A,c,by rw[CG.out];rfl,fK,uN⟩
theorem mE {A:Option Addr}{c:Nat}{l:List UInt8}{n:Nat}(hn:n=l.length) (u5:l.length≤1099511627) (w:World) (hS:Src w A (l.map zg)) :
  Calls Tryz.prog 70 #[.slice A n c] w fun e w'=>∃ r,e=.returned r∧Fresh w (pf l) r w':=by
 have HN:=Hh (And.intro hn u5);have CN:=Hh (f6 (fun _=>none) w);clear hn u5;go_enter Tryz.func70,Tryz.ntmps70
 go_wp2_with fail
 refine CN.out.mono ?_
 rintro e w1 ⟨LA,lc,rfl,hL,zP⟩
 have Sh:=Hh (hS.below zP);have EI:=Hh zP;have sv:=Hh hL;obtain⟨lg,rfl,Fw⟩:=iU hL (by decide)
 have CT:Hid (∀ i,i<64→w1.cell? ⟨lg,i,none⟩=some (.int .u64 (xr (qW.take 64) i:Int))):=fun i hi=>by
  rw[Fw i (by rw[kx];exact hi),oo (l:=qW.take 64) (by rw[show(qW.take 64).length=64 from rfl];exact hi)];rfl
 have lP:Hid (lg<w1.heap.size):=(hL.lt lg rfl).2;have hF:=Blk.new w1 121 (zM [0,0,0,0,0,0,0,0]);have hb:=zl w1 (.cells (zM [0,0,0,0,0,0,0,0]) 121);obtain⟨F,Ia⟩:∃ F,w1.heap.size=F:=⟨_,rfl⟩
 have ET:=Hh Ia;rw[Ia]at hF;clear Ia hL Fw zP hS CN;go_wp2_with (with_reducible refine zx ?_)
 unfold zU
 rw[ET.out]
 refine zu rfl _ _ _ rfl rfl F (zM uk) rfl rfl _ _ hF gp (by rfl) (wP _) fun w2 hF2 hg2=>?_
 have yz:=hb.grown hg2 hb.size (by rintro q ⟨⟩;have:=ET.out;omega);have Id:=Blk.new w2 131 (wG (kP 0));have Ms:=hF2.alloc (.cells (wG (kP 0)) 131);have vg:=yz.alloc yz.size (.cells (wG (kP 0)) 131);obtain⟨K0,N3⟩:∃ K,w2.heap.size=K:=⟨_,rfl⟩
 have EY:Hid (w1.heap.size≤K0∧F<K0):=⟨by rw[← N3];exact yz.size,by rw[← N3];exact hF2.lt⟩
 have mX:=Hh N3;rw[N3]at Id;clear N3 hF hb hF2 hg2 yz;go_wp2_with fail
 rw[mX.out];go_loopw [17] (fun v17 wr=>∃ i:Nat,v17=.int .i64 (i:Int)∧i≤64∧Blk wr F 121 (zM uk)∧Blk wr K0 131 (wG (kP i))∧Below w1.heap.size w1 wr) (fun v17 _=>(64-intOf v17).toNat)
 case atStart=>exact⟨0,rfl,by omega,Ms,Id,vg⟩
 case round =>
 clear Ms Id vg;obtain⟨i,rfl,hi,hF,hK,hb⟩:=hrel
 by_cases yy:(i:Int)<64
 ·have pW:i<64:=by omega
  have cl:wr.cell? ⟨lg,i,none⟩=some (.int .u64 (xr (qW.take 64) i:Int)):=by rw[hb.cell lP.out];exact CT.out i pW
  have Er:=Hh (T6 pW);obtain⟨kw,cM⟩:∃ kw,xr (qW.take 64) i=kw:=⟨_,rfl⟩
  rw[cM]at cl Er;clear cM;go_wp2_with (with_reducible refine zx ?_)
  refine zr rfl _ _ _ rfl rfl K0 i (.int .u32 (vC (kw:Int))) rfl (by rfl) _ _ hK se (by rw[tq,Tq];exact pW) rfl fun w9 KQ hg9=>?_
  rw[qU,Er.out,← show kP (i+1)=(kP i).set i (wS xB i) from rfl]at KQ;have IZ:=hF.grown hg9 (by intro hc;injection hc with hc;have:=EY.out;omega);have uN:=hb.grown hg9 hb.size (by rintro q ⟨⟩;exact EY.out.1);clear hF hK hb hg9 cl;go_wp2_with fail
  go_roundw
  case rel=>exact⟨i+1,by go_num,by omega,IZ,KQ,uN⟩
  case measure=>simp[intOf];omega
 obtain rfl:i=64:=by omega
 rw[L8]at hK;rw[show((64:Nat):Int)=64 from rfl]at yy⊢;have Ni:=Blk.new wr 120 (wG (hP8 0));have Ms:=hF.alloc (.cells (wG (hP8 0)) 120);have FS:=hK.alloc (.cells (wG (hP8 0)) 120);have vg:=hb.alloc hb.size (.cells (wG (hP8 0)) 120);obtain⟨G,Sk⟩:∃ G,wr.heap.size=G:=⟨_,rfl⟩
 have MX:=Hh Sk;have MY:Hid (w1.heap.size≤G∧F<G∧K0<G):=⟨by rw[← Sk];exact hb.size,by rw[← Sk];exact hF.lt,by rw[← Sk];exact hK.lt⟩
 rw[Sk]at Ni;clear Sk hF hK hb;go_wp2_with fail
 rw[MX.out];go_loopw [29] (fun v29 wx=>∃ i:Nat,v29=.int .i64 (i:Int)∧i≤8∧Blk wx F 121 (zM uk)∧Blk wx K0 131 (wG KK)∧Blk wx G 120 (wG (hP8 i))∧Below w1.heap.size w1 wx) (fun v29 _=>(8-intOf v29).toNat)
 case atStart=>exact⟨0,rfl,by omega,Ms,FS,Ni,vg⟩
 case round =>
 clear Ms FS Ni vg;obtain⟨i,rfl,hi,hF,hK,hH,hb⟩:=hrel
 by_cases yy:(i:Int)<8
 ·have cF:i<8:=by omega
  have cl:wr.cell? ⟨F,i,none⟩=some (.int .u64 (xr uk i:Int)):=hF.cell i (sd uk i cF);obtain⟨kw,cM⟩:∃ kw,xr uk i=kw:=⟨_,rfl⟩
  rw[cM]at cl;have I4:=Hh cM;clear cM;go_wp2_with (with_reducible refine zx ?_)
  refine zr rfl _ _ _ rfl rfl G i (.int .u32 (vC (kw:Int))) rfl (by rfl) _ _ hH se (by rw[tq,Xa];exact cF) rfl fun w9 hH9 hg9=>?_
  rw[qU,← I4.out,← show hP8 (i+1)=(hP8 i).set i (vC ((xr uk i:Nat):Int)) from rfl]at hH9;have IZ:=hF.grown hg9 (by intro hc;injection hc with hc;have:=MY.out;omega);have KQ:=hK.grown hg9 (by intro hc;injection hc with hc;have:=MY.out;omega);have uN:=hb.grown hg9 hb.size (by rintro q ⟨⟩;exact MY.out.1);clear hF hK hH hb hg9 cl;go_wp2_with fail
  go_roundw
  case rel=>exact⟨i+1,by go_num,by omega,IZ,KQ,hH9,uN⟩
  case measure=>simp[intOf];omega
 obtain rfl:i=8:=by omega
 rw[L0,← S8.cells_eq]at hH;rw[show((8:Nat):Int)=8 from rfl]at yy⊢;have PD:=Hh (Yh (c:=c) HN.out.1 HN.out.2 wr (Sh.out.below hb));go_wp2_with fail
 refine PD.out.mono ?_
 rintro e w5 ⟨r5,rfl,uV⟩
 obtain⟨PA,pc,rfl,mR,Kf,_⟩:=uV.own.form;have FT:=hK.below uV.2;have FJ:=hH.below uV.2;have xz:=hb.trans (uV.2.mono hb.size)
 have I9:Hid (∀ q,PA.map (·.block)=some q→G<q):=fun q hq=>by
  have h1:=(uV.own.lt q (by cases PA with | none=>cases hq | some p=>exact hq)).1;have h2:=hH.lt
  omega
 obtain⟨Hp,_,N0,Mz,_,Ng⟩:=uV.own.snap (H:=fun _=>none) (fun _ _ h=>by cases h) (fun _ _=>rfl)
 have Zc:Hid (∀ b o,Hp b=some o→G<b):=fun b o hb=>by
  rcases Mz b o hb with h | h
  ·cases h
  exact I9.out b h
 have Mf:=Hh (bB l);obtain⟨m,hm⟩:∃ m,(YtjpcnhncoidliaaGreatDoor.u6 l).length=m:=⟨_,rfl⟩
 have HM:=Hh hm;rw[hm];clear hF hK hH hb uV PD Mz hm mR Kf;go_wp2_with fail
 go_loopw [9] (fun v9 wx=>∃ (k nn:Nat) (VA:Option Addr) (vc:Nat),v9=.slice VA nn vc∧Hid (64*k+nn=m)∧Hid (IsBytes Hp VA vc ((YtjpcnhncoidliaaGreatDoor.u6 l).drop (64*k)))∧Holds wx Hp∧Blk wx K0 131 (wG KK)∧Blk wx G 120 (oV (YtjpcnhncoidliaaGreatDoor.u6 l) k).cells∧Below w1.heap.size w1 wx) (fun v9 _=>rt v9)
 case atStart=>exact⟨0,m,PA,pc,rfl,by rw[Hid];omega,by rw[Hid];simpa using Ng,N0,FT,FJ,xz⟩
 case round =>
 clear N0 Ng FT FJ xz;obtain⟨k,nn,VA,vc,rfl,Sf,NY,zA,hK,hH,hb⟩:=hrel
 by_cases yy:(0:Int)<(nn:Int)
 ·have X6:Hid (64≤nn):=by have:=Mf.out;have:=HM.out;have:=Sf.out;rw[Hid];omega
  have Qb:((YtjpcnhncoidliaaGreatDoor.u6 l).drop (64*k)).length=nn:=by rw[List.length_drop,HM.out];have:=Sf.out;omega
  obtain⟨b,off,rfl,_⟩:=NY.out.at_ (by rw[Qb];omega);have Kp:=NY.out.le;rw[Qb]at Kp;have G6:=NY.out.max;have HV:=Hh (And.intro Kp G6);have Sd:=Hh Qb;have US:IsBytes Hp (some ⟨b,off,none⟩) vc (be (YtjpcnhncoidliaaGreatDoor.u6 l) k):=NY.out.take' 64;have Uc:(be (YtjpcnhncoidliaaGreatDoor.u6 l) k).length=64:=aa (by have:=Sf.out;have:=X6.out;rw[HM.out];omega);have RD:=Hh (aT US Uc wr zA hH hK O9);rw[Vg,← fv]at RD;have Br:(64:Int)≤(vc:Int):=by have:=X6.out;omega
  have Bq:(64:Int)≤(nn:Int):=by have:=X6.out;omega
  clear Qb Kp G6 US Uc;go_wp2_with fail
  refine RD.out.mono ?_
  rintro e w6 ⟨⟨v6,rfl⟩,Pl,hg6⟩
  have DZ:=hK.grown hg6 (by intro hc;injection hc with hc;have:=MY.out;omega);have y9:=hb.grown hg6 hb.size (by rintro q ⟨⟩;exact MY.out.1)
  have Ga:Holds w6 Hp:=zA.grown hg6 (by
   rintro q ⟨⟩
   cases hq:Hp G with
   | none=>rfl
   | some o=>have:=Zc.out _ _ hq;omega)
  have yJ:=Hh (NY.out.drop' 64 (by rw[Sd.out];exact X6.out));clear hK hH hb zA hg6 RD;go_wp2_with fail
  go_roundw
  case rel =>
   refine⟨k+1,nn-64,_,vc-64,rfl,by have:=Sf.out;have:=X6.out;rw[Hid];omega, ?_,Ga,DZ,Pl,y9⟩
   have h:=yJ.out;rw[List.drop_drop]at h;rw[Hid,show 64*(k+1)=64*k+64 by omega];rw[Option.map_some,rg]at h
   simpa using h
  case measure=>have:=X6.out;simp only[rt];omega
 obtain rfl:nn=0:=by omega
 have ej:k=(YtjpcnhncoidliaaGreatDoor.u6 l).length/64:=by have:=Sf.out;have:=HM.out;omega
 rw[ej]at hH;have Pi:Hid ((oV (YtjpcnhncoidliaaGreatDoor.u6 l) ((YtjpcnhncoidliaaGreatDoor.u6 l).length/64)).list.flatMap ue=pf l):=rfl;obtain⟨s,hs⟩:∃ s,oV (YtjpcnhncoidliaaGreatDoor.u6 l) ((YtjpcnhncoidliaaGreatDoor.u6 l).length/64)=s:=⟨_,rfl⟩
 rw[hs]at hH Pi;rw[← U5]at Pi;obtain⟨a0,a1,a2,a3,a4,a5,a6,a7⟩:=s;have mz:=Hh (fun i hi=>bA ⟨a0,a1,a2,a3,a4,a5,a6,a7⟩ i hi);have br:=Hh (fun i hi=>eF ⟨a0,a1,a2,a3,a4,a5,a6,a7⟩ i hi);have uN:=EI.out.trans (hb.mono EI.out.size);clear hs ej NY Sf zA hK hb;have q0:=hH.cell 0 (v:=.int .u32 a0) rfl;have q1:=hH.cell 1 (v:=.int .u32 a1) rfl;have q2:=hH.cell 2 (v:=.int .u32 a2) rfl;have q3:=hH.cell 3 (v:=.int .u32 a3) rfl;have q4:=hH.cell 4 (v:=.int .u32 a4) rfl;have q5:=hH.cell 5 (v:=.int .u32 a5) rfl;have q6:=hH.cell 6 (v:=.int .u32 a6) rfl;have q7:=hH.cell 7 (v:=.int .u32 a7) rfl;clear hH;go_wp2_with fail
 go_loopw [10,51] (fun v10 v51 wx=>∃ (i mo co:Nat) (VO:Option Addr),v10=.slice VO mo co∧v51=.int .i64 (i:Int)∧i≤8∧Hid (mo=4*i)∧OwnB wx w.heap.size (.slice VO mo co) (dW ⟨a0,a1,a2,a3,a4,a5,a6,a7⟩ i)∧Below w.heap.size w wx) (fun _ v51 _=>(8-intOf v51).toNat)
 case atStart=>exact⟨0,0,0,none,rfl,rfl,by omega,rfl,OwnB.nil _ _,uN⟩
 case round =>
 clear q0 q1 q2 q3 q4 q5 q6 q7 uN;obtain⟨i,mo,co,VO,rfl,rfl,hi,Ca,hO,hb⟩:=hrel
 rcases(show i=0∨i=1∨i=2∨i=3∨i=4∨i=5∨i=6∨i=7∨i=8 by omega) with rfl | rfl | rfl | rfl | rfl | rfl | rfl | rfl | rfl
 ·have X0:=yB wr #[.int .u32 a0,.int .u32 a1,.int .u32 a2,.int .u32 a3,.int .u32 a4,.int .u32 a5,.int .u32 a6,.int .u32 a7] 0 (.int .u32 a0) 0 rfl (by omega) rfl;go_wp2_with (at_builtin;refine zf ?_)
  unfold zU
  clear X0;have yp:=hO.alloc (.cells #[.int .u8 (a0/16777216%256),.int .u8 (a0/65536%256),.int .u8 (a0/256%256),.int .u8 (a0%256)] 5);have zP:=hb.alloc hb.size (.cells #[.int .u8 (a0/16777216%256),.int .u8 (a0/65536%256),.int .u8 (a0/256%256),.int .u8 (a0%256)] 5)
  refine zv rfl (.tmp 54) (.tmp 66) rfl w.heap.size _ _ rfl yp _ 4 _ (ue a0) rfl rfl (Src.new _ _ _ _ rfl _ (by rw[yD])) (by rw[mz.out 0 (by omega),xG];omega) zP.size fun v' w5 zB yg hat5=>?_
  have xz:=zm zP yg (fun q hq=>(hO.lt q hq).1);replace zB:=(br.out 0 (by omega)) ▸ zB;obtain⟨A5,c5,rfl,_⟩:=zB.form;rw[mz.out (0+1) (by omega)]at zB⊢;clear hO hb yp zP yg hat5;go_wp2_with fail
  go_roundw
  case rel=>exact⟨1,_,c5,A5,rfl,by go_num,by omega,rfl,zB,xz⟩
  case measure=>simp[intOf]
 ·have X0:=yB wr #[.int .u32 a0,.int .u32 a1,.int .u32 a2,.int .u32 a3,.int .u32 a4,.int .u32 a5,.int .u32 a6,.int .u32 a7] 1 (.int .u32 a1) 1 rfl (by omega) rfl;go_wp2_with (at_builtin;refine zf ?_)
  unfold zU
  clear X0;have yp:=hO.alloc (.cells #[.int .u8 (a1/16777216%256),.int .u8 (a1/65536%256),.int .u8 (a1/256%256),.int .u8 (a1%256)] 5);have zP:=hb.alloc hb.size (.cells #[.int .u8 (a1/16777216%256),.int .u8 (a1/65536%256),.int .u8 (a1/256%256),.int .u8 (a1%256)] 5)
  refine zv rfl (.tmp 54) (.tmp 66) rfl w.heap.size _ _ rfl yp _ 4 _ (ue a1) rfl rfl (Src.new _ _ _ _ rfl _ (by rw[yD])) (by rw[mz.out 1 (by omega),xG];omega) zP.size fun v' w5 zB yg hat5=>?_
  have xz:=zm zP yg (fun q hq=>(hO.lt q hq).1);replace zB:=(br.out 1 (by omega)) ▸ zB;obtain⟨A5,c5,rfl,_⟩:=zB.form;rw[mz.out (1+1) (by omega)]at zB⊢;clear hO hb yp zP yg hat5;go_wp2_with fail
  go_roundw
  case rel=>exact⟨2,_,c5,A5,rfl,by go_num,by omega,rfl,zB,xz⟩
  case measure=>simp[intOf]
 ·have X0:=yB wr #[.int .u32 a0,.int .u32 a1,.int .u32 a2,.int .u32 a3,.int .u32 a4,.int .u32 a5,.int .u32 a6,.int .u32 a7] 2 (.int .u32 a2) 2 rfl (by omega) rfl;go_wp2_with (at_builtin;refine zf ?_)
  unfold zU
  clear X0;have yp:=hO.alloc (.cells #[.int .u8 (a2/16777216%256),.int .u8 (a2/65536%256),.int .u8 (a2/256%256),.int .u8 (a2%256)] 5);have zP:=hb.alloc hb.size (.cells #[.int .u8 (a2/16777216%256),.int .u8 (a2/65536%256),.int .u8 (a2/256%256),.int .u8 (a2%256)] 5)
  refine zv rfl (.tmp 54) (.tmp 66) rfl w.heap.size _ _ rfl yp _ 4 _ (ue a2) rfl rfl (Src.new _ _ _ _ rfl _ (by rw[yD])) (by rw[mz.out 2 (by omega),xG];omega) zP.size fun v' w5 zB yg hat5=>?_
  have xz:=zm zP yg (fun q hq=>(hO.lt q hq).1);replace zB:=(br.out 2 (by omega)) ▸ zB;obtain⟨A5,c5,rfl,_⟩:=zB.form;rw[mz.out (2+1) (by omega)]at zB⊢;clear hO hb yp zP yg hat5;go_wp2_with fail
  go_roundw
  case rel=>exact⟨3,_,c5,A5,rfl,by go_num,by omega,rfl,zB,xz⟩
  case measure=>simp[intOf]
 ·have X0:=yB wr #[.int .u32 a0,.int .u32 a1,.int .u32 a2,.int .u32 a3,.int .u32 a4,.int .u32 a5,.int .u32 a6,.int .u32 a7] 3 (.int .u32 a3) 3 rfl (by omega) rfl;go_wp2_with (at_builtin;refine zf ?_)
  unfold zU
  clear X0;have yp:=hO.alloc (.cells #[.int .u8 (a3/16777216%256),.int .u8 (a3/65536%256),.int .u8 (a3/256%256),.int .u8 (a3%256)] 5);have zP:=hb.alloc hb.size (.cells #[.int .u8 (a3/16777216%256),.int .u8 (a3/65536%256),.int .u8 (a3/256%256),.int .u8 (a3%256)] 5)
  refine zv rfl (.tmp 54) (.tmp 66) rfl w.heap.size _ _ rfl yp _ 4 _ (ue a3) rfl rfl (Src.new _ _ _ _ rfl _ (by rw[yD])) (by rw[mz.out 3 (by omega),xG];omega) zP.size fun v' w5 zB yg hat5=>?_
  have xz:=zm zP yg (fun q hq=>(hO.lt q hq).1);replace zB:=(br.out 3 (by omega)) ▸ zB;obtain⟨A5,c5,rfl,_⟩:=zB.form;rw[mz.out (3+1) (by omega)]at zB⊢;clear hO hb yp zP yg hat5;go_wp2_with fail
  go_roundw
  case rel=>exact⟨4,_,c5,A5,rfl,by go_num,by omega,rfl,zB,xz⟩
  case measure=>simp[intOf]
 ·have X0:=yB wr #[.int .u32 a0,.int .u32 a1,.int .u32 a2,.int .u32 a3,.int .u32 a4,.int .u32 a5,.int .u32 a6,.int .u32 a7] 4 (.int .u32 a4) 4 rfl (by omega) rfl;go_wp2_with (at_builtin;refine zf ?_)
  unfold zU
  clear X0;have yp:=hO.alloc (.cells #[.int .u8 (a4/16777216%256),.int .u8 (a4/65536%256),.int .u8 (a4/256%256),.int .u8 (a4%256)] 5);have zP:=hb.alloc hb.size (.cells #[.int .u8 (a4/16777216%256),.int .u8 (a4/65536%256),.int .u8 (a4/256%256),.int .u8 (a4%256)] 5)
  refine zv rfl (.tmp 54) (.tmp 66) rfl w.heap.size _ _ rfl yp _ 4 _ (ue a4) rfl rfl (Src.new _ _ _ _ rfl _ (by rw[yD])) (by rw[mz.out 4 (by omega),xG];omega) zP.size fun v' w5 zB yg hat5=>?_
  have xz:=zm zP yg (fun q hq=>(hO.lt q hq).1);replace zB:=(br.out 4 (by omega)) ▸ zB;obtain⟨A5,c5,rfl,_⟩:=zB.form;rw[mz.out (4+1) (by omega)]at zB⊢;clear hO hb yp zP yg hat5;go_wp2_with fail
  go_roundw
  case rel=>exact⟨5,_,c5,A5,rfl,by go_num,by omega,rfl,zB,xz⟩
  case measure=>simp[intOf]
 ·have X0:=yB wr #[.int .u32 a0,.int .u32 a1,.int .u32 a2,.int .u32 a3,.int .u32 a4,.int .u32 a5,.int .u32 a6,.int .u32 a7] 5 (.int .u32 a5) 5 rfl (by omega) rfl;go_wp2_with (at_builtin;refine zf ?_)
  unfold zU
  clear X0;have yp:=hO.alloc (.cells #[.int .u8 (a5/16777216%256),.int .u8 (a5/65536%256),.int .u8 (a5/256%256),.int .u8 (a5%256)] 5);have zP:=hb.alloc hb.size (.cells #[.int .u8 (a5/16777216%256),.int .u8 (a5/65536%256),.int .u8 (a5/256%256),.int .u8 (a5%256)] 5)
  refine zv rfl (.tmp 54) (.tmp 66) rfl w.heap.size _ _ rfl yp _ 4 _ (ue a5) rfl rfl (Src.new _ _ _ _ rfl _ (by rw[yD])) (by rw[mz.out 5 (by omega),xG];omega) zP.size fun v' w5 zB yg hat5=>?_
  have xz:=zm zP yg (fun q hq=>(hO.lt q hq).1);replace zB:=(br.out 5 (by omega)) ▸ zB;obtain⟨A5,c5,rfl,_⟩:=zB.form;rw[mz.out (5+1) (by omega)]at zB⊢;clear hO hb yp zP yg hat5;go_wp2_with fail
  go_roundw
  case rel=>exact⟨6,_,c5,A5,rfl,by go_num,by omega,rfl,zB,xz⟩
  case measure=>simp[intOf]
 ·have X0:=yB wr #[.int .u32 a0,.int .u32 a1,.int .u32 a2,.int .u32 a3,.int .u32 a4,.int .u32 a5,.int .u32 a6,.int .u32 a7] 6 (.int .u32 a6) 6 rfl (by omega) rfl;go_wp2_with (at_builtin;refine zf ?_)
  unfold zU
  clear X0;have yp:=hO.alloc (.cells #[.int .u8 (a6/16777216%256),.int .u8 (a6/65536%256),.int .u8 (a6/256%256),.int .u8 (a6%256)] 5);have zP:=hb.alloc hb.size (.cells #[.int .u8 (a6/16777216%256),.int .u8 (a6/65536%256),.int .u8 (a6/256%256),.int .u8 (a6%256)] 5)
  refine zv rfl (.tmp 54) (.tmp 66) rfl w.heap.size _ _ rfl yp _ 4 _ (ue a6) rfl rfl (Src.new _ _ _ _ rfl _ (by rw[yD])) (by rw[mz.out 6 (by omega),xG];omega) zP.size fun v' w5 zB yg hat5=>?_
  have xz:=zm zP yg (fun q hq=>(hO.lt q hq).1);replace zB:=(br.out 6 (by omega)) ▸ zB;obtain⟨A5,c5,rfl,_⟩:=zB.form;rw[mz.out (6+1) (by omega)]at zB⊢;clear hO hb yp zP yg hat5;go_wp2_with fail
  go_roundw
  case rel=>exact⟨7,_,c5,A5,rfl,by go_num,by omega,rfl,zB,xz⟩
  case measure=>simp[intOf]
 ·have X0:=yB wr #[.int .u32 a0,.int .u32 a1,.int .u32 a2,.int .u32 a3,.int .u32 a4,.int .u32 a5,.int .u32 a6,.int .u32 a7] 7 (.int .u32 a7) 7 rfl (by omega) rfl;go_wp2_with (at_builtin;refine zf ?_)
  unfold zU
  clear X0;have yp:=hO.alloc (.cells #[.int .u8 (a7/16777216%256),.int .u8 (a7/65536%256),.int .u8 (a7/256%256),.int .u8 (a7%256)] 5);have zP:=hb.alloc hb.size (.cells #[.int .u8 (a7/16777216%256),.int .u8 (a7/65536%256),.int .u8 (a7/256%256),.int .u8 (a7%256)] 5)
  refine zv rfl (.tmp 54) (.tmp 66) rfl w.heap.size _ _ rfl yp _ 4 _ (ue a7) rfl rfl (Src.new _ _ _ _ rfl _ (by rw[yD])) (by rw[mz.out 7 (by omega),xG];omega) zP.size fun v' w5 zB yg hat5=>?_
  have xz:=zm zP yg (fun q hq=>(hO.lt q hq).1);replace zB:=(br.out 7 (by omega)) ▸ zB;obtain⟨A5,c5,rfl,_⟩:=zB.form;rw[mz.out (7+1) (by omega)]at zB⊢;clear hO hb yp zP yg hat5;go_wp2_with fail
  go_roundw
  case rel=>exact⟨8,_,c5,A5,rfl,by go_num,by omega,rfl,zB,xz⟩
  case measure=>simp[intOf]
 rw[Pi.out]at hO;go_wp2_with fail
 go_ret
 exact⟨_,rfl,by have h:=hO.form;obtain⟨_,_,e,_⟩:=h;exact⟨hO,hb⟩⟩
def sV (m:Int) (u:UInt8):UInt8:=UInt8.ofNat (bits .xor .u8 (u.toNat:Int) m%256).toNat
theorem gv (m:Int) (u:UInt8):zg (sV m u)=.int .u8 (bits .xor .u8 (u.toNat:Int) m):=by
 obtain⟨v,hv⟩:∃ v,bits .xor .u8 (u.toNat:Int) m=IntKind.u8.wrap v:=⟨_,rfl⟩
 have h:(IntKind.u8.wrap v%256).toNat<256:=by omega
 rw[sV,hv,zg,UInt8.toNat_ofNat_of_lt' (by simpa using h)];congr 1
 rw[IntKind.wrap_u8]
 omega
def sj (key:List UInt8):List UInt8:=if 64<key.length then pf key else key
def rp (k:List UInt8):List UInt8:=k++List.replicate (64-k.length) 0
def tk (m:Int) (key:List UInt8):List UInt8:=(rp (sj key)).map (sV m)
def rQ (key b:List UInt8):List UInt8:=pf (tk 92 key++pf (tk 54 key++b))
def sx (prk info:List UInt8):Nat→List UInt8
 | 0=>[]
 | k+1=>rQ prk (sx prk info k++info++[UInt8.ofNat (k+1)])
def oH (prk info:List UInt8):Nat→List UInt8
 | 0=>[]
 | k+1=>oH prk info k++sx prk info (k+1)
def tw (prk info:List UInt8) (n:Nat):List UInt8:=(oH prk info ((n+31)/32)).take n
theorem jm (key:List UInt8):(sj key).length≤64:=by
 unfold sj
 split
 ·rw[tT];omega
 omega
theorem jk {k:List UInt8}(h:k.length≤64):(rp k).length=64:=by
 rw[rp,List.length_append,List.length_replicate]
 omega
theorem uz (m:Int) (key:List UInt8):(tk m key).length=64:=by
 rw[tk,List.length_map,jk (jm key)]
theorem tC (key b:List UInt8):(rQ key b).length=32:=tT _
theorem ko (prk info:List UInt8):∀ k,(sx prk info k).length≤32
 | 0=>by simp[sx]
 | k+1=>by rw[sx,tC];omega
theorem rn (prk info:List UInt8):∀ k,(oH prk info k).length=32*k
 | 0=>rfl
 | k+1=>by rw[oH,List.length_append,rn prk info k,sx,tC];omega
theorem wh (prk info:List UInt8) (n:Nat):(tw prk info n).length=n:=by
 rw[tw,List.length_take,rn]
 omega
def qZ (m:Int) (l:List UInt8) (i:Nat):List UInt8:=(l.take i).map (sV m)++l.drop i
theorem RK (m:Int) (l:List UInt8):qZ m l 0=l:=by simp[qZ]
theorem WL (m:Int) {l:List UInt8}{i:Nat}(h:l.length≤i):qZ m l i=l.map (sV m):=by
 rw[qZ,List.take_of_length_le h,List.drop_eq_nil_of_le h,List.append_nil]
theorem eJ (m:Int) (l:List UInt8) (i:Nat):(qZ m l i).length=l.length:=by
 rw[qZ,List.length_append,List.length_map,List.length_take,List.length_drop]
 omega
theorem WM (m:Int) {l:List UInt8}{i:Nat}(h:i<l.length):(qZ m l i)[i]'(by rw[eJ];exact h)=l[i]:=by
 have e:(l.take i).length=i:=by rw[List.length_take];omega
 simp only[qZ]
 rw[List.getElem_append_right (by rw[List.length_map,e];exact Nat.le_refl _)]
 simp only[List.getElem_drop,List.length_map,List.length_take]
 congr 1
 omega
theorem WN (m:Int) {l:List UInt8}{i:Nat}(h:i<l.length):(qZ m l i).set i (sV m l[i])=qZ m l (i+1):=by
 have e:(l.take i).length=i:=by rw[List.length_take];omega
 rw[qZ,qZ,List.set_append_right _ _ (by rw[List.length_map,e];exact Nat.le_refl _),List.length_map,e,Nat.sub_self,List.take_succ_eq_append_getElem h,List.map_append,List.append_assoc];congr 1
 rw[List.drop_eq_getElem_cons h];rfl
theorem gm:(Tryz.prog.info? 5).map (·.size)=some 1:=by kernel_rfl
theorem Zw (n:Nat):(madeCells (Value.int .u8 0).cells (n*1)).toList=(List.replicate n (0:UInt8)).map zg:=by
 apply List.ext_getElem?
 intro j
 simp[madeCells,Value.cells,List.getElem?_replicate]
 by_cases h:j<n
 ·simp[h,zg,Nat.mod_one]
 simp[h]
theorem Wr {P:Program}{ops:Array Oper}{Q:Exit→Act→World→Prop}{rest:List Oper}{a:Act}{w:World}{dst:Option Tmp}{d s:Operand}{tys:Array TypeId}{T:TypeId}{pos:String}{af:Array Edge}{g:Option (Nat×Bool)}
  (h:zU (wpList P ops Q (⟨dst,.call { callee:=.builtin .copy,args:=#[d,s],argTypes:=tys },T,pos,af,g⟩::rest) a w)):wpList P ops Q (⟨dst,.call { callee:=.builtin .copy,args:=#[d,s],argTypes:=tys },T,pos,af,g⟩::rest) a w:=h
theorem Tf {α:Type}(L ns:List α):splice L 0 ns=ns++L.drop ns.length:=by simp[splice]
theorem kR {w:World}{ops:Array Oper}{rest:List Oper}{o:Oper}{a:Act}{Q:Exit→Act→World→Prop}(ip:o.guard=none) (d s:Operand)
  (ho:o.op=.call { callee:=.builtin .copy,args:=#[d,s],argTypes:=#[23,23] })
  (base:Nat) (A':Option Addr) (n' c':Nat) (l:List UInt8) (hd:a.eval d=.slice A' n' c') (sz:OwnB w base (.slice A' n' c') l) (A:Option Addr) (m c:Nat) (news:List UInt8) (hs:a.eval s=.slice A m c) (hm:m=news.length)
  (hr:Src w A (news.map zg)) (tH:news.length≤l.length) (w0:World) (hb:Below base w0 w)
  (h:∀ w',OwnB w' base (.slice A' n' c') (news++l.drop news.length)→Below base w0 w'→wpList Tryz.prog ops Q rest (a.put o.dst (goInt news.length)) w') :
  wpList Tryz.prog ops Q (o::rest) a w:=by
 subst hm
 rcases sz.2 with ⟨hv,hz⟩ | ⟨g,cap,cur,hv,hbse,hg,hc,XN,hcz,ht⟩
 ·cases hv
  have V9:l=[]:=List.eq_nil_of_length_eq_zero hz;subst V9;have zG:news=[]:=List.eq_nil_of_length_eq_zero (by simpa using tH);subst zG
  refine wpList_copy_nothing ip d s _ _ ho 5 Tryz.underlying23 gm _ _ _ _ _ _ hd hs (by simp) ?_
  exact h w sz hb
 cases hv
 have x9:(news.map zg).length=news.length:=by simp
 have hz:cur.toList.length=c':=by rw[Array.length_toList,hcz,Nat.mul_one]
 refine wpList_copy_splice ip d s _ _ ho 5 Tryz.underlying23 gm _ _ _ _ _ _ hd hs g 0 cur.toList 5 (by simpa using hg) (news.map zg) (by rw[x9];exact(Nat.min_eq_left tH).symm) ?_ (by rw[x9,hz];omega) (jh _) base w0 hb hbse ?_
 ·intro hp
  obtain⟨b,off,e,uH⟩:=hr (by intro h0;rw[h0]at hp;simp at hp)
  exact⟨rfl,_,e,fun j v hj=>by rw[rg];exact uH j v hj⟩
 intro w' hG hB
 rw[x9]
 refine h w' ?_ hB
 have hl:(news++l.drop news.length).length=l.length:=by rw[List.length_append,List.length_drop];omega
 refine⟨by simp,.inr ⟨g,c',(splice cur.toList 0 (news.map zg)).toArray,by rw[hl],hbse,hG.out,by rw[hl];exact hc,XN, ?_, ?_⟩⟩
 ·have:=length_splice cur.toList 0 (news.map zg) (by rw[x9,hz];omega);rw[hz]at this;rw[Nat.mul_one,← this]
  exact List.size_toArray
 rw[hl]
 simp only[List.toList_toArray]
 rw[Tf,x9,Nat.mul_one,List.take_append,x9,List.take_of_length_le (by rw[x9];exact tH),List.map_append,List.map_drop];congr 1
 rw[Nat.mul_one]at ht;rw[← ht,List.drop_take]
theorem gV {A:Option Addr}{n c:Nat}{ls:List (List UInt8)}(hn:n=ls.length) (hl:ls.length≤1099511627000) (ht:ls.flatten.length≤1099511627000) (w:World) (hs:SrcR w A ls) :
  Calls Tryz.prog 56 #[.slice A n c] w fun e w'=>∃ r,e=.returned r∧Fresh w (ls.flatten) r w':=by
 have HN:=Hh (And.intro hn (And.intro hl ht));clear hn hl ht;go_enter Tryz.func56,Tryz.ntmps56
 have yp:=OwnB.nil w w.heap.size;have zP:=Below.refl w.heap.size w;go_wp2_with fail
 go_loopw [3,5,8] (fun v1 v5 v2 wr=>∃ (k:Nat) (VA:Option Addr) (vc vn:Nat) (l:List UInt8),k≤ls.length∧v2=.int .i64 (k:Int)∧v1=.slice VA vn vc∧OwnB wr w.heap.size (.slice VA vn vc) l∧vn=l.length∧(ls.flatten=l++(ls.drop k).flatten)∧Below w.heap.size w wr) (fun _ _ v2 _=>ls.length-(intOf v2).toNat)
 case atStart=>exact⟨0,_,_,_,_,Nat.zero_le _,rfl,rfl,yp,rfl,by simp,zP⟩
 case round =>
 clear yp zP;obtain⟨k,VA,vc,vn,l,sX,rfl,rfl,vf,mg,vI,yE⟩:=hrel;have HV:=Hh mg;have HE:=Hh vI;clear mg vI
 by_cases yy:k<ls.length
 ·obtain⟨ib,io,rfl,hr⟩:=hs (by omega);have Ug:(k:Int)<(n:Int):=by have:=HN.out.1;omega
  obtain⟨Aj,cj,c0,Ql⟩:=hr k yy;have q0:=(yE.cell (World.block_lt_of_cell? w _ c0)).trans c0;have Qm:=Ql.below yE;have pX:(k:Int)+1≤9223372036854775807:=by have:=HN.out.2.1;omega
  have HT:Hid (l.length+ls[k].length≤1099511627776):=by
   have h1:=congrArg List.length HE.out;rw[tm ls k yy]at h1
   simp only[List.length_append]at h1
   have:=HN.out.2.2;skip
   rw[Hid];omega
  have HF:Hid (ls.flatten=(l++ls[k])++(ls.drop (k+1)).flatten):=by rw[Hid,HE.out,tm ls k yy,List.append_assoc]
  clear hr c0 Ql;go_wp2_with (at_builtin;refine zf ?_)
  unfold zU
  obtain rfl:=HV.out
  refine zv rfl (.tmp 12) (.tmp 13) rfl w.heap.size _ _ rfl vf Aj _ cj ls[k] rfl rfl Qm HT.out yE.size fun v' w7 wY hg7 hat7=>?_
  obtain⟨VA',vc',rfl,_⟩:=wY.form;have i7:OwnB w7 w.heap.size (.slice VA' (l.length+ls[k].length) vc') (l++ls[k]):=by rw[← List.length_append];exact wY
  have xU:=yE.grown hg7 yE.size (fun q hq=>(vf.lt q hq).1);clear vf hg7 hat7 yE q0 Qm wY;go_wp2_with fail
  go_roundw
  case rel=>exact⟨k+1,VA',vc',_,_,by omega,by go_num,rfl,i7,by rw[List.length_append],HF.out,xU⟩
  case measure=>simp[intOf];omega
 have cG:k=ls.length:=by omega
 subst cG;have Ug:¬ ((ls.length:Int)<(n:Int)):=by have:=HN.out.1;omega
 have HZ:Hid (ls.flatten=l):=by rw[Hid,HE.out,List.drop_length];simp
 go_wp2_with fail
 go_ret
 obtain rfl:=HV.out
 exact⟨_,rfl,by rw[HZ.out];exact⟨vf,yE⟩⟩
theorem YP {A:Option Addr}{c:Nat}{key:List UInt8}{n:Nat}(hn:n=key.length) (u5:key.length≤1099511627) (m:Int) (w:World) (hS:Src w A (key.map zg)) :
  Calls Tryz.prog 71 #[.slice A n c,.int .u8 m] w fun e w'=>∃ r,e=.returned r∧Fresh w (tk m key) r w':=by
 have HN:=Hh (And.intro hn u5);have HS:=Hh hS;have SM:=Hh (mE (c:=c) hn u5 w hS);clear hn u5 hS;go_enter Tryz.func71,Tryz.ntmps71
 go_upto_if 9 with fail
 go_cut [0] (fun s0 wx=>∃ (A1:Option Addr) (n1 c1:Nat),s0=.slice A1 n1 c1∧Hid (n1=(sj key).length)∧Src wx A1 ((sj key).map zg)∧Below w.heap.size w wx)
 case first =>
  by_cases QU:n≤64
  ·have e:sj key=key:=by rw[sj,if_neg (by have:=HN.out.1;omega)]
   have Ok:¬ ((64:Int)<(n:Int)):=by omega
   go_wp2_with fail
   go_meet
   exact⟨A,n,c,rfl,by rw[Hid,e];exact HN.out.1,by rw[e];exact HS.out,Below.refl _ _⟩
  have e:sj key=pf key:=by rw[sj,if_pos (by have:=HN.out.1;omega)]
  have Ok:(64:Int)<(n:Int):=by omega
  have mX:=Hh e;clear e;go_wp2_with fail
  refine SM.out.mono ?_
  rintro e w1 ⟨r1,rfl,rN⟩
  obtain⟨A1,c1,rfl,ut⟩:=rN.own.form;have ug:=rN.own.src;have zP:=rN.2;clear ut rN;obtain⟨n1,oY⟩:∃ n1,(pf key).length=n1:=⟨_,rfl⟩
  rw[oY];have VR:=Hh oY;clear oY;go_wp2_with fail
  go_meet
  exact⟨A1,n1,c1,rfl,by rw[Hid,mX.out];exact VR.out.symm,by rw[mX.out];exact ug,zP⟩
 case rest =>
 clear SM;obtain⟨A1,n1,c1,rfl,VR,ug,zP⟩:=hcut;have ik:=Hh (jm key);obtain⟨K,hK⟩:∃ K,sj key=K:=⟨_,rfl⟩
 have Cb:Hid (tk m key=(rp K).map (sV m)):=by rw[Hid,tk,hK]
 rw[hK]at VR ik ug;obtain⟨i0,yK,lW,qL,qE⟩:=info_parts nS;clear hK;go_wp2_with (at_make;refine zf ?_)
 refine wpList_make_full _ rfl _ _ 23 rfl w.heap.size 5 i0 _ 1 Tryz.underlying23 yK lW qL _ _ _ _ 64 rfl rfl (by omega) (by omega) (by rw[qE];omega) (by simp only[maxLen];omega) zP.size fun w2 hO hg2=>?_
 have yz:=zP.trans ((yT hg2).mono zP.size);have VI:=ug.below (yT hg2)
 have tl:OwnB w2 w.heap.size (.slice (some ⟨wc.heap.size,0,none⟩) 64 64) (List.replicate 64 0):=by
  have h:w2.ownsRow w.heap.size 5 1 (.slice (some ⟨wc.heap.size,0,none⟩) 64 64) (List.replicate 64 (0:UInt8)).length ((List.replicate 64 (0:UInt8)).map zg):=by
   rw[List.length_replicate,← Zw]
   exact hO
  exact h
 obtain⟨G,hG⟩:∃ G,wc.heap.size=G:=⟨_,rfl⟩
 rw[hG]at tl⊢;clear yK lW qL qE hO hg2 ug zP hG;go_wp2_with (with_reducible refine Wr ?_)
 refine kR rfl (.tmp 13) (.tmp 14) rfl w.heap.size _ _ _ _ rfl tl A1 n1 c1 K rfl VR.out VI (by rw[List.length_replicate];exact ik.out) w yz fun w3 qC vg=>?_
 have vj:K++(List.replicate 64 (0:UInt8)).drop K.length=rp K:=by rw[rp,List.drop_replicate]
 rw[vj,← RK m (rp K)]at qC;have oO:=Hh (jk ik.out);clear tl yz VI vj;go_wp2_with fail
 go_loopw [18] (fun v18 wr=>∃ i:Nat,v18=.int .i64 (i:Int)∧i≤64∧OwnB wr w.heap.size (.slice (some ⟨G,0,none⟩) 64 64) (qZ m (rp K) i)∧Below w.heap.size w wr) (fun v18 _=>(64-intOf v18).toNat)
 case atStart=>exact⟨0,rfl,by omega,qC,vg⟩
 case round =>
 clear qC vg;obtain⟨i,rfl,hi,hO,hb⟩:=hrel
 by_cases yy:(i:Int)<64
 ·have pW:i<(rp K).length:=by rw[oO.out];omega
  have mR:i<(qZ m (rp K) i).length:=by rw[eJ];exact pW
  have cl:wr.cell? ⟨G,i,none⟩=some (zg (rp K)[i]):=by
   obtain⟨b,off,e,hc⟩:=hO.src (by intro h;have:=congrArg List.length h;rw[List.length_map]at this;simp at this;rw[this]at mR;simp at mR)
   cases e
   have h:=hc i (zg (qZ m (rp K) i)[i]) (by rw[List.getElem?_map,List.getElem?_eq_getElem mR];rfl);rw[WM m pW,Nat.zero_add]at h
   exact h
  have IJ:=Hh (gv m (rp K)[i]);have Mg:=Hh (WN m pW);obtain⟨u,hu⟩:∃ u,(rp K)[i]=u:=⟨_,rfl⟩
  rw[hu]at cl IJ Mg;obtain⟨gq,cur,e,Dj,FE,NI,MH⟩:=hO.store_ (k:=i) mR
  cases e
  have fQ:=Hh MH;clear hu pW mR MH hO;go_wp2_with (with_reducible refine zx ?_)
  refine zr rfl _ _ _ rfl rfl G i (zg (sV m u)) rfl (by rw[IJ.out];rfl) _ _ FE gm NI rfl fun w4 fJ hg4=>?_
  have kD:=fQ.out w4 (sV m u) fJ;rw[Mg.out]at kD;have sW:=zm hb hg4 (by rintro q ⟨⟩;exact Dj);clear FE hg4 hb fJ cl fQ;go_wp2_with fail
  go_roundw
  case rel=>exact⟨i+1,by go_num,by omega,kD,sW⟩
  case measure=>simp[intOf];omega
 obtain rfl:i=64:=by omega
 rw[WL m (by rw[oO.out];exact Nat.le_refl _),← Cb.out]at hO;rw[show((64:Nat):Int)=64 from rfl]at yy⊢;go_wp2_with fail
 go_ret
 exact⟨_,rfl,hO,hb⟩
theorem SrcR.lit2 (w:World) (t:TypeId) {A1 A2:Option Addr}{n1 c1 n2 c2:Nat}{l1 l2:List UInt8}(e1:n1=l1.length) (e2:n2=l2.length) (h1:Src w A1 (l1.map zg)) (h2:Src w A2 (l2.map zg)) :
  SrcR (w.alloc (.cells #[.slice A1 n1 c1,.slice A2 n2 c2] t)) (some ⟨w.heap.size,0,none⟩) [l1,l2]:=fun _=>by
 have hB:=Blk.new w t #[.slice A1 n1 c1,.slice A2 n2 c2]
 refine⟨w.heap.size,0,rfl,fun j hj=>?_⟩
 subst e1 e2
 match j,hj with
 | 0,_=>exact⟨A1,c1,hB.cell 0 rfl,h1.alloc _⟩
 | 1,_=>exact⟨A2,c2,hB.cell 1 rfl,h2.alloc _⟩
theorem SrcR.lit3 (w:World) (t:TypeId) {A1 A2 A3:Option Addr}{n1 c1 n2 c2 n3 c3:Nat}{l1 l2 l3:List UInt8}(e1:n1=l1.length) (e2:n2=l2.length) (e3:n3=l3.length) (h1:Src w A1 (l1.map zg)) (h2:Src w A2 (l2.map zg)) (h3:Src w A3 (l3.map zg)) :
  SrcR (w.alloc (.cells #[.slice A1 n1 c1,.slice A2 n2 c2,.slice A3 n3 c3] t)) (some ⟨w.heap.size,0,none⟩) [l1,l2,l3]:=fun _=>by
 have hB:=Blk.new w t #[.slice A1 n1 c1,.slice A2 n2 c2,.slice A3 n3 c3]
 refine⟨w.heap.size,0,rfl,fun j hj=>?_⟩
 subst e1 e2 e3
 match j,hj with
 | 0,_=>exact⟨A1,c1,hB.cell 0 rfl,h1.alloc _⟩
 | 1,_=>exact⟨A2,c2,hB.cell 1 rfl,h2.alloc _⟩
 | 2,_=>exact⟨A3,c3,hB.cell 2 rfl,h3.alloc _⟩
theorem aq {A:Option Addr}{c:Nat}{key:List UInt8}{n:Nat}(hn:n=key.length) (u5:key.length≤1099511627) {B:Option Addr}{d:Nat}{b:List UInt8}{k:Nat}(hk:k=b.length) (hmb:b.length≤1099511000) (w:World) (hS:Src w A (key.map zg)) (hT:Src w B (b.map zg)) :
  Calls Tryz.prog 55 #[.slice A n c,.slice B k d] w fun e w'=>∃ r,e=.returned r∧Fresh w (rQ key b) r w':=by
 have HN:=Hh (And.intro hn (And.intro hk hmb));have HS:=Hh hS;have HT:=Hh hT;have M1:=Hh (fun(m:Int) w (hS:Src w A (key.map zg))=>YP (c:=c) hn u5 m w hS);clear hn u5 hk hmb hS hT;go_enter Tryz.func55,Tryz.ntmps55
 go_wp2_with fail
 refine(M1.out 92 _ HS.out).mono ?_
 rintro e w1 ⟨r1,rfl,rN⟩
 obtain⟨A1,c1,rfl,_⟩:=rN.own.form;rw[uz];have zP:=rN.2;have ug:=rN.own.src;clear rN;go_wp2_with fail
 refine(M1.out 54 _ (HS.out.below zP)).mono ?_
 rintro e w2 ⟨r2,rfl,oT⟩
 obtain⟨A2,c2,rfl,_⟩:=oT.own.form;rw[uz];have yz:=zP.trans (oT.2.mono zP.size);have Ui:=ug.below oT.2;have te:=SrcR.lit2 (c1:=c2) (c2:=d) w2 23 (uz 54 key).symm HN.out.2.1 oT.own.src (HT.out.below yz);have vg:=yz.alloc yz.size (.cells #[.slice A2 64 c2,.slice B k d] 23);have X7:=Ui.alloc (.cells #[.slice A2 64 c2,.slice B k d] 23);obtain⟨P,hP⟩:∃ P,w2.heap.size=P:=⟨_,rfl⟩
 rw[hP]at te;have HP:=Hh hP;obtain⟨w3,cO⟩:∃ w3,w2.alloc (.cells #[.slice A2 64 c2,.slice B k d] 23)=w3:=⟨_,rfl⟩
 rw[cO]at te vg X7;have S9:=Hh cO;have JN:=Hh (gV (n:=2) (c:=2) rfl (by simp) (by simp[uz];have:=HN.out.2.2;omega) w3 te);clear hP cO te ug Ui zP yz oT M1;go_wp2_with fail
 rw[S9.out,HP.out]
 refine JN.out.mono ?_
 rintro e w4 ⟨r4,rfl,oU⟩
 rw[show [tk 54 key,b].flatten=tk 54 key++b by simp]at oU;have kI:Hid ((tk 54 key++b).length≤1099511627):=by rw[Hid,List.length_append,uz];have:=HN.out.2.2;omega
 obtain⟨I,hI⟩:∃ I,tk 54 key++b=I:=⟨_,rfl⟩
 have HI:=Hh hI;rw[hI]at oU kI;obtain⟨A4,c4,rfl,_⟩:=oU.own.form;obtain⟨m4,NL⟩:∃ m,I.length=m:=⟨_,rfl⟩
 rw[NL];have SM:=Hh (mE (c:=c4) NL.symm kI.out w4 oU.own.src);have sW:=vg.trans (oU.2.mono vg.size);have NQ:=X7.below oU.2;clear hI NL oU vg X7 JN;go_wp2_with fail
 refine SM.out.mono ?_
 rintro e w5 ⟨r5,rfl,uV⟩
 obtain⟨A5,c5,rfl,_⟩:=uV.own.form;rw[tT];have xz:=sW.trans (uV.2.mono sW.size);have Qk:=NQ.below uV.2;have XL:=SrcR.lit2 (c1:=c1) (c2:=c5) w5 23 (uz 92 key).symm (tT I).symm Qk uV.own.src;have y9:=xz.alloc xz.size (.cells #[.slice A1 64 c1,.slice A5 32 c5] 23);obtain⟨P5,cC⟩:∃ P,w5.heap.size=P:=⟨_,rfl⟩
 rw[cC]at XL;have Ci:=Hh cC;obtain⟨w6,pE⟩:∃ w6,w5.alloc (.cells #[.slice A1 64 c1,.slice A5 32 c5] 23)=w6:=⟨_,rfl⟩
 rw[pE]at XL y9;have Jy:=Hh pE;have JN:=Hh (gV (n:=2) (c:=2) rfl (by simp) (by simp[uz,tT]) w6 XL);clear cC pE XL NQ Qk sW xz uV SM;go_wp2_with fail
 rw[Jy.out,Ci.out]
 refine JN.out.mono ?_
 rintro e w7 ⟨r7,rfl,rO⟩
 rw[show [tk 92 key,pf I].flatten=tk 92 key++pf I by simp]at rO;obtain⟨O,hO⟩:∃ O,tk 92 key++pf I=O:=⟨_,rfl⟩
 have HO:Hid (pf O=rQ key b∧O.length=96):=by
  rw[Hid,← hO]
  refine⟨by rw[rQ,← HI.out],by rw[List.length_append,uz,tT]⟩
 rw[hO]at rO;obtain⟨A7,c7,rfl,_⟩:=rO.own.form;rw[HO.out.2];have SM:=Hh (mE (c:=c7) (n:=96) HO.out.2.symm (by rw[HO.out.2];omega) w7 rO.own.src);have xU:=y9.trans (rO.2.mono y9.size);clear hO rO y9 JN;go_wp2_with fail
 refine SM.out.mono ?_
 rintro e w8 ⟨r8,rfl,pU⟩
 have ho:=pU.own.more (base':=w.heap.size) xU.size;have pj:=xU.trans (pU.2.mono xU.size);clear pU xU SM;go_wp2_with fail
 go_ret
 exact⟨_,rfl,by rw[← HO.out.1];exact⟨ho,pj⟩⟩
theorem Zu {A:Option Addr}{c:Nat}{key:List UInt8}{n:Nat}(hn:n=key.length) (u5:key.length≤1099511627) {B:Option Addr}{d:Nat}{b:List UInt8}{k:Nat}(hk:k=b.length) (hmb:b.length≤1099511000) (w:World) (hS:Src w A (key.map zg)) (hT:Src w B (b.map zg)) :
  Calls Tryz.prog 29 #[.slice A n c,.slice B k d] w fun e w'=>∃ r,e=.returned r∧Fresh w (rQ key b) r w':=by
 have HM:=Hh (aq (c:=c) (d:=d) hn u5 hk hmb w hS hT);clear hn u5 hk hmb hS hT;go_enter Tryz.func29,Tryz.ntmps29
 go_wp2_with fail
 refine HM.out.mono ?_
 rintro e w1 ⟨r1,rfl,rN⟩
 go_wp2_with fail
 go_ret
 exact⟨_,rfl,rN⟩
def Tj (w:World) (H:Snap) (prk info:List UInt8) (n:Nat) (e:Ending) (w':World):Prop:=∃ A c H',e=.returned (.tuple #[.slice A n c,.int .i64 0])∧Grows w H w' H'∧IsBytes H' A c (tw prk info n)
theorem eE {prk info:List UInt8}{n j:Nat}(h1:n≤32*j) (h2:32*j<n+32):(oH prk info j).take n=tw prk info n:=by
 rw[tw,show(n+31)/32=j by omega]
theorem bQ (k:Nat) (h:k<256):zg (UInt8.ofNat k)=.int .u8 (k:Int):=by
 rw[zg,UInt8.toNat_ofNat_of_lt' (by simpa using h)]
theorem li {A:Option Addr}{c:Nat}{prk:List UInt8}{np:Nat}(hn:np=prk.length) (u5:prk.length≤1099511627) {B:Option Addr}{d:Nat}{info:List UInt8}{ni:Nat}(hk:ni=info.length) (hmb:info.length≤1099510000) (n:Nat) (Qi:n≤8160) {H:Snap}(w:World) (hH:Holds w H) (hS:Src w A (prk.map zg)) (hT:Src w B (info.map zg)) :
  Calls Tryz.prog 30 #[.slice A np c,.slice B ni d,.int .i64 (n:Int)] w (Tj w H prk info n):=by
 have HN:=Hh (And.intro hn (And.intro hk (And.intro hmb Qi)));have HS:=Hh hS;have HT:=Hh hT;have HM:=Hh (fun(B':Option Addr) (d':Nat) (b:List UInt8) (k:Nat) (hk:k=b.length) (hmb:b.length≤1099511000) (w:World) (hS:Src w A (prk.map zg)) (hT:Src w B' (b.map zg))=>aq (c:=c) (d:=d') hn u5 hk hmb w hS hT);have n1:¬ ((n:Int)<0):=by omega
 have n2:¬ ((8160:Int)<(n:Int)):=by omega
 have ed:=Grows.refl hH;clear hn u5 hk hmb Qi hS hT hH;go_enter Tryz.func30,Tryz.ntmps30
 go_wp2_with fail
 go_loopw [8,9,10] (fun v8 v9 v10 wr=>∃ (j no nt oc tc:Nat) (OA TA:Option Addr) (Hr:Snap),v8=.slice OA no oc∧v9=.slice TA nt tc∧v10=.int .i64 ((j:Int)+1)∧Hid (no=32*j∧32*j<n+32∧nt=(sx prk info j).length)∧OwnB wr w.heap.size (.slice OA no oc) (oH prk info j)∧Hid (∀ q,(Value.slice OA no oc).ownBlock=some q→Hr q=none)∧Hid (IsBytes Hr TA tc (sx prk info j))∧Grows w H wr Hr) (fun _ _ v10 _=>300-(intOf v10).toNat)
 case atStart=>exact⟨0,0,0,0,0,none,none,H,rfl,rfl,rfl,⟨rfl,by omega,rfl⟩,OwnB.nil _ _,(fun q hq=>by cases hq),IsBytes.nil _,ed⟩
 case round =>
 clear ed;obtain⟨j,no,nt,oc,tc,OA,TA,Hr,rfl,rfl,rfl,HJ,hO,HO,IF,hG⟩:=hrel
 by_cases yy:(no:Int)<(n:Int)
 ·have NG:(j:Int)+1<256:=by have:=HJ.out;have:=HN.out;omega
  have sv:Hid (32*(j+1)<n+32):=by have:=HJ.out.1;rw[Hid];omega
  have I5:Hid ((oH prk info j).length≤8192):=by have:=HJ.out;have:=HN.out;rw[Hid,rn];omega
  have K1:IntKind.u8.wrap ((j:Int)+1)=(j:Int)+1:=IntWalk.u8_in _ (by omega);have hb:=hG.below
  have te:=SrcR.lit3 (n1:=nt) (c1:=tc) (n2:=ni) (c2:=d) (n3:=1) (c3:=1) (wr.alloc (.cells #[.int .u8 ((j:Int)+1)] 5)) 23 HJ.out.2.2 HN.out.2.1 (l3:=[UInt8.ofNat (j+1)]) rfl
   ((Src.of_row IF.out.row hG.holds).alloc _) ((HT.out.below hb).alloc _) (Src.new wr #[.int .u8 ((j:Int)+1)] 5 wr.heap.size rfl _ (by simp only[List.map_cons,List.map_nil];rw[bQ (j+1) (by omega),Int.natCast_add];rfl))
  have yY:=(hG.alloc (.cells #[.int .u8 ((j:Int)+1)] 5)).alloc (.cells #[.slice TA nt tc,.slice B ni d,.slice (some ⟨wr.heap.size,0,none⟩) 1 1] 23);have tl:=(hO.alloc (.cells #[.int .u8 ((j:Int)+1)] 5)).alloc (.cells #[.slice TA nt tc,.slice B ni d,.slice (some ⟨wr.heap.size,0,none⟩) 1 1] 23);obtain⟨P0,Xs⟩:∃ P,wr.heap.size=P:=⟨_,rfl⟩
  obtain⟨w1,nY⟩:∃ w1,wr.alloc (.cells #[.int .u8 ((j:Int)+1)] 5)=w1:=⟨_,rfl⟩
  rw[Xs,nY]at te yY tl;have fL:w1.heap.size=P0+1:=by rw[← nY,zW,Xs]
  obtain⟨w2,qK⟩:∃ w2,w1.alloc (.cells #[.slice TA nt tc,.slice B ni d,.slice (some ⟨P0,0,none⟩) 1 1] 23)=w2:=⟨_,rfl⟩
  rw[qK]at te yY tl;rw[fL]at te;have HW:=Hh (And.intro Xs (And.intro nY qK));have JN:=Hh (gV (n:=3) (c:=3) rfl (by simp) (by have h1:=ko prk info j;have h2:=HN.out.2.2.1;simp;omega) w2 te);clear Xs nY fL qK te hG hO hb;go_wp2_with fail
  rw[HW.out.1,HW.out.2.1,HW.out.2.2]
  refine JN.out.mono ?_
  rintro e w3 ⟨r3,rfl,iX⟩
  have kI:Hid ([sx prk info j,info,[UInt8.ofNat (j+1)]].flatten.length≤1099511000):=by have h1:=ko prk info j;have h2:=HN.out.2.2.1;rw[Hid];simp;omega
  have qA:Hid (rQ prk [sx prk info j,info,[UInt8.ofNat (j+1)]].flatten=sx prk info (j+1)):=by rw[Hid];simp[sx]
  obtain⟨I,hI⟩:∃ I,[sx prk info j,info,[UInt8.ofNat (j+1)]].flatten=I:=⟨_,rfl⟩
  rw[hI]at iX kI qA;obtain⟨A3,c3,rfl,_⟩:=iX.own.form;obtain⟨m3,ZX⟩:∃ m,I.length=m:=⟨_,rfl⟩
  rw[ZX];have xf:=yY.below_ iX.2;have qC:=tl.below iX.2;have lX:=Hh (HM.out _ c3 _ _ ZX.symm kI.out w3 (HS.out.below xf.below) iX.own.src);clear hI ZX iX yY tl JN;go_wp2_with fail
  refine lX.out.mono ?_
  rintro e w4 ⟨r4,rfl,oU⟩
  rw[qA.out]at oU;have kD:=qC.below oU.2;obtain⟨A4,c4,rfl,_⟩:=oU.own.form;obtain⟨H4,uv,sW,_⟩:=Fresh.snapB xf.holds oU;have xC:=xf.trans uv;have Md:Hid (∀ q,(Value.slice OA no oc).ownBlock=some q→H4 q=none):=fun q hq=>uv.none (HO.out q hq) (qC.lt q hq).2
  have rM:(sx prk info (j+1)).length=32:=by rw[sx,tC]
  rw[rM];have MS:=Hh sW;clear xf uv sW oU qC lX;go_wp2_with (at_builtin;refine zf ?_)
  refine zv rfl (.tmp 32) (.tmp 33) rfl w.heap.size (.slice OA no oc) _ rfl kD A4 32 c4 (sx prk info (j+1)) rfl rM.symm (Src.of_row MS.out.row xC.holds) (by have:=I5.out;rw[rM];omega) xC.below.size fun v' w5 zB yg hat5=>?_
  rw[show oH prk info j++sx prk info (j+1)=oH prk info (j+1) from rfl]at zB;obtain⟨A5,c5,rfl,_⟩:=zB.form
  have zK:Grows w H w5 H4:=by
   refine⟨zm xC.below yg (fun q hq=>(kD.lt q hq).1),xC.le,xC.holds.grown yg (fun q hq=>Md.out q hq),xC.fresh⟩
  rw[rn]at zB hat5⊢
  have Me:Hid (∀ q,(Value.slice A5 (32*(j+1)) c5).ownBlock=some q→H4 q=none):=fun q hq=>by
   rcases hat5 with h | ⟨g',h1,h2⟩
   ·exact Md.out q (by rw[← h,hq])
   rw[hq]at h1;injection h1 with h1
   subst h1
   exact xC.holds.none_of_ge h2
  clear kD yg hat5 xC K1 rM;have kM:IntKind.i64.wrap ((j:Int)+1+1)=(j:Int)+1+1:=IntWalk.i64_in _ (by omega);obtain⟨no',ZL⟩:∃ x,32*(j+1)=x:=⟨_,rfl⟩
  have Zc:=Hh ZL;rw[ZL]at zB Me⊢;clear ZL;go_wp2_with fail
  go_roundw
  case rel=>exact⟨j+1,no',32,c5,c4,A5,A4,H4,rfl,rfl,by go_num,⟨Zc.out.symm,sv.out,by rw[sx,tC]⟩,zB,Me,MS,zK⟩
  case measure=>have:=sv.out;have:=HN.out;simp[intOf];omega
 have fQ:Hid ((oH prk info j).take n=tw prk info n):=eE (by have:=HJ.out.1;omega) HJ.out.2.1;have lV:=rn prk info j;have x9:n≤(oH prk info j).length:=by rw[lV];have:=HJ.out.1;omega
 obtain⟨H6,NJ,NF,vu,_,y9⟩:=hO.snap hG.holds (fun q hq=>HO.out q (by cases OA with | none=>cases hq | some p=>exact hq));have Su:=y9.le;have Hd:(n:Int)≤(oc:Int):=by omega
 have HR:Hid (∃ A' c',A'=A'∧c'=c'):=⟨0,0,rfl,rfl⟩
 have zK:Grows w H wr H6:=⟨hG.below,hG.le.trans NJ,NF,fun q o hq=>by
  rcases vu q o hq with h | h
  ·exact hG.fresh q o h
  exact .inr (hO.lt q (by cases OA with | none=>cases h | some p=>exact h)).1⟩
 have Hm:=Hh (y9.take' n);have Sb:=Hh y9.max;clear hO hG NJ NF vu lV Su x9 y9 HR;go_wp2_with fail
 go_ret2
 refine⟨_,_,H6,rfl,zK, ?_⟩
 rw[← fQ.out]
 exact⟨by rw[List.length_take];omega,by have:=Sb.out;omega,Hm.out.row⟩
def lH (l:List UInt8):List UInt8:=zj 3 l.length++l
theorem fd {w:World}{ops:Array Oper}{rest:List Oper}{o:Oper}{a:Act}{Q:Exit→Act→World→Prop}(ip:o.guard=none) (s x:Operand)
  (ho:o.op=.call { callee:=.builtin .append,args:=#[s,x],argTypes:=#[23,9] })
  (base:Nat) (v:Value) (l:List UInt8) (hs:a.eval s=v) (sz:OwnB w base v l) (t:ByteArray) (hx:a.eval x=.string t)
  (z6:l.length+t.size≤1099511627776) (hbase:base≤w.heap.size)
  (h:∀ v' w',OwnB w' base v' (l++t.data.toList)→w.grownBy w' v.ownBlock→wpList Tryz.prog ops Q rest (a.put o.dst v') w') :
  wpList Tryz.prog ops Q (o::rest) a w:=by
 obtain⟨i0,yK,lW,qL,qE⟩:=info_parts nS
 refine Lib.wpList_append_own_string w ip s x _ _ ho base 5 i0 Tryz.underlying23 Tryz.underlying9 yK lW qL qE v l.length (l.map zg) hs sz t hx (by simp only[maxLen];omega) (by omega) hbase fun v' w' h2 h3 _=>h v' w' ?_ h3
 have hl:(l++t.data.toList).length=l.length+t.size:=by rw[List.length_append,Array.length_toList];rfl
 unfold OwnB
 rw[hl,List.map_append]
 exact h2
theorem X2 (s:ByteArray) (hl:s.size≤1099511627000) (w:World) :
  Calls Tryz.prog 57 #[.string s] w fun e w'=>∃ r,e=.returned r∧Fresh w (lH s.data.toList) r w':=by
 obtain⟨n,hn⟩:∃ n,s.size=n:=⟨_,rfl⟩
 have HD:=Hh (fun w=>pK 3 (n:Int) w (by omega) (by omega) (by omega) (by omega));have K1:IntKind.u64.wrap (n:Int)=(n:Int):=by rw[IntKind.wrap_u64];omega
 have HN:=Hh (And.intro hn hl);have Q6:((s.size:Nat):Int)=(n:Int):=by rw[hn]
 clear hn hl;go_enter Tryz.func57,Tryz.ntmps57
 go_wp2_with fail
 refine(HD.out _).mono ?_
 rintro e w1 ⟨r,rfl,hf⟩
 have yp:=hf.own;obtain⟨RA,rc,rfl,_⟩:=yp.form;have HF:=Hh hf.2;clear hf Q6;go_wp2_with (at_builtin;refine zf ?_)
 refine fd rfl (.tmp 6) (.tmp 7) rfl w.heap.size _ _ rfl yp s rfl (by have:=(wO (3:Int).toNat (n:Int).toNat).2;have:=HN.out.2;omega) HF.out.size fun v' w2 tl hg2=>?_
 have yz:=HF.out.grown hg2 HF.out.size (fun q hq=>(yp.lt q hq).1)
 have E:Hid (zj (3:Int).toNat (n:Int).toNat++s.data.toList=lH s.data.toList):=by
  rw[Hid,lH,← HN.out.1,Array.length_toList];rfl
 rw[E.out]at tl;clear yp hg2;go_wp2_with fail
 go_ret
 exact⟨_,rfl,tl,yz⟩
def uI (id ctx:List UInt8) (has:Bool) (kind:List UInt8) (m:Int):List UInt8:=zj 4 5++[vX id,(if has then vX ctx else [246]),rJ 10,lH kind,rJ m].flatten
theorem vU (l:List UInt8):(vX l).length≤l.length+9:=by
 have:=(wO 2 l.length).2;rw[vX,List.length_append]
 omega
theorem eQ (l:List UInt8):(lH l).length≤l.length+9:=by
 have:=(wO 3 l.length).2;rw[lH,List.length_append]
 omega
theorem rk (n:Int):(rJ n).length≤9:=by
 unfold rJ
 split <;> exact(wO _ _).2
theorem sI (id ctx:List UInt8) (has:Bool) (kind:List UInt8) (m:Int):(uI id ctx has kind m).length≤id.length+ctx.length+kind.length+64:=by
 have h1:=vU id;have h2:=vU ctx;have h3:=eQ kind;have h4:=rk 10;have h5:=rk m;have h6:=(wO 4 5).2;rw[uI]
 cases has <;> simp <;> omega
theorem SrcR.lit5 (w:World) (t:TypeId) {A1 A2 A3 A4 A5:Option Addr}{n1 c1 n2 c2 n3 c3 n4 c4 n5 c5:Nat}{l1 l2 l3 l4 l5:List UInt8}(e1:n1=l1.length) (e2:n2=l2.length) (e3:n3=l3.length) (e4:n4=l4.length) (e5:n5=l5.length)
  (h1:Src w A1 (l1.map zg)) (h2:Src w A2 (l2.map zg)) (h3:Src w A3 (l3.map zg)) (h4:Src w A4 (l4.map zg)) (h5:Src w A5 (l5.map zg)) :
  SrcR (w.alloc (.cells #[.slice A1 n1 c1,.slice A2 n2 c2,.slice A3 n3 c3,.slice A4 n4 c4,.slice A5 n5 c5] t)) (some ⟨w.heap.size,0,none⟩) [l1,l2,l3,l4,l5]:=fun _=>by
 have hB:=Blk.new w t #[.slice A1 n1 c1,.slice A2 n2 c2,.slice A3 n3 c3,.slice A4 n4 c4,.slice A5 n5 c5]
 refine⟨w.heap.size,0,rfl,fun j hj=>?_⟩
 subst e1 e2 e3 e4 e5
 match j,hj with
 | 0,_=>exact⟨A1,c1,hB.cell 0 rfl,h1.alloc _⟩
 | 1,_=>exact⟨A2,c2,hB.cell 1 rfl,h2.alloc _⟩
 | 2,_=>exact⟨A3,c3,hB.cell 2 rfl,h3.alloc _⟩
 | 3,_=>exact⟨A4,c4,hB.cell 3 rfl,h4.alloc _⟩
 | 4,_=>exact⟨A5,c5,hB.cell 4 rfl,h5.alloc _⟩
theorem oZ {A:Option Addr}{c:Nat}{id:List UInt8}{n:Nat}(hn:n=id.length) (hid:id.length≤1099511) {B:Option Addr}{d:Nat}{ctx:List UInt8}{k:Nat}(hk:k=ctx.length) (hctx:ctx.length≤1099511) (has:Bool) (kind:ByteArray) (hkind:kind.size≤1000) (m:Int) (hm:0≤m∧m≤100000) (w:World) (hS:Src w A (id.map zg)) (hT:Src w B (ctx.map zg)) :
  Calls Tryz.prog 31 #[.slice A n c,.slice B k d,.bool has,.string kind,.int .i64 m] w fun e w'=>∃ r,e=.returned r∧Fresh w (uI id ctx has kind.data.toList m) r w':=by
 have HN:=Hh (And.intro hn (And.intro hid (And.intro hk (And.intro hctx (And.intro hkind hm)))));have HS:=Hh hS;have HT:=Hh hT;clear hn hid hk hctx hkind hm hS hT;go_enter Tryz.func31,Tryz.ntmps31
 go_upto_if 13 with fail
 go_cut [11] (fun s11 wx=>∃ (A1:Option Addr) (n1 c1:Nat),s11=.slice A1 n1 c1∧Hid (n1=(if has then vX ctx else [246]:List UInt8).length)∧Src wx A1 ((if has then vX ctx else [246]:List UInt8).map zg)∧Below w.heap.size w wx)
 case first =>
  have yZ:=zl w (.cells #[.int .u8 246] 5)
  cases has with
  | false =>
   have SY:Src (w.alloc (.cells #[.int .u8 246] 5)) (some ⟨w.heap.size,0,none⟩) (([246]:List UInt8).map zg):=Src.new _ _ _ _ rfl _ rfl;go_wp2_with fail
   go_meet
   exact⟨_,1,1,rfl,rfl,SY,yZ⟩
  | true =>
  have SR:=Hh (qV (c:=d) HN.out.2.2.1 (by have:=HN.out.2.2.2.1;omega) _ (HT.out.below yZ));go_wp2_with fail
  refine SR.out.mono ?_
  rintro e w1 ⟨r1,rfl,rN⟩
  obtain⟨A1,c1,rfl,_⟩:=rN.own.form;have ug:=rN.own.src;have zP:=yZ.trans (rN.2.mono yZ.size);obtain⟨n1,oY⟩:∃ n1,(vX ctx).length=n1:=⟨_,rfl⟩
  rw[oY];have VR:=Hh oY;clear oY rN SR yZ;go_wp2_with fail
  go_meet
  exact⟨A1,n1,c1,rfl,VR.out.symm,ug,zP⟩
 case rest =>
 obtain⟨A1,n1,c1,rfl,VR,ug,zP⟩:=hcut;have EV:Hid (uI id ctx has kind.data.toList m=zj 4 5++[vX id,(if has then vX ctx else [246]),rJ 10,lH kind.data.toList,rJ m].flatten):=rfl
 have dZ:Hid ((if has then vX ctx else [246]:List UInt8).length≤1100000):=by
  have:=vU ctx;have:=HN.out.2.2.2.1;rw[Hid]
  cases has
  ·simp
  simp only[if_true];omega
 obtain⟨S,Fc⟩:∃ S,(if has then vX ctx else [246]:List UInt8)=S:=⟨_,rfl⟩
 rw[Fc]at VR ug EV dZ;clear Fc;go_wp2_with fail
 refine(qV (c:=c) HN.out.1 (by have:=HN.out.2.1;omega) _ (HS.out.below zP)).mono ?_
 rintro e w2 ⟨r2,rfl,oT⟩
 obtain⟨A2,c2,rfl,_⟩:=oT.own.form;have VI:=oT.own.src;have M7:=ug.below oT.2;have yz:=zP.trans (oT.2.mono zP.size);obtain⟨n2,oQ⟩:∃ n2,(vX id).length=n2:=⟨_,rfl⟩
 rw[oQ];have oJ:=Hh oQ;clear oQ oT ug zP;go_wp2_with fail
 refine(o5 10 (by omega) (by omega) _).mono ?_
 rintro e w3 ⟨r3,rfl,iX⟩
 obtain⟨A3,c3,rfl,_⟩:=iX.own.form;have JP:=iX.own.src;have M9:=VI.below iX.2;have Ui:=M7.below iX.2;have vg:=yz.trans (iX.2.mono yz.size);obtain⟨n3,VF⟩:∃ n3,(rJ 10).length=n3:=⟨_,rfl⟩
 rw[VF];have Cd:=Hh VF;clear VF iX M7 VI yz;go_wp2_with fail
 refine(X2 kind (by have:=HN.out.2.2.2.2.1;omega) _).mono ?_
 rintro e w4 ⟨r4,rfl,oU⟩
 obtain⟨A4,c4,rfl,_⟩:=oU.own.form;have NQ:=oU.own.src;have MC:=JP.below oU.2;have MA:=M9.below oU.2;have X7:=Ui.below oU.2;have sW:=vg.trans (oU.2.mono vg.size);obtain⟨n4,Ny⟩:∃ n4,(lH kind.data.toList).length=n4:=⟨_,rfl⟩
 rw[Ny];have Ce:=Hh Ny;clear Ny oU Ui M9 JP vg;go_wp2_with fail
 refine(o5 m (by have:=HN.out.2.2.2.2.2;omega) (by have:=HN.out.2.2.2.2.2;omega) _).mono ?_
 rintro e w5 ⟨r5,rfl,uV⟩
 obtain⟨A5,c5,rfl,_⟩:=uV.own.form;have Qk:=uV.own.src;have MF:=NQ.below uV.2;have ME:=MC.below uV.2;have MB:=MA.below uV.2;have M8:=X7.below uV.2;have xz:=sW.trans (uV.2.mono sW.size);obtain⟨n5,XO⟩:∃ n5,(rJ m).length=n5:=⟨_,rfl⟩
 rw[XO];have I6:=Hh XO;clear XO uV X7 MA MC NQ sW;have hl:=SrcR.lit5 (c1:=c2) (c2:=c1) (c3:=c3) (c4:=c4) (c5:=c5) w5 23 oJ.out.symm VR.out Cd.out.symm Ce.out.symm I6.out.symm MB M8 ME MF Qk;have y9:=xz.alloc xz.size (.cells #[.slice A2 n2 c2,.slice A1 n1 c1,.slice A3 n3 c3,.slice A4 n4 c4,.slice A5 n5 c5] 23);obtain⟨P,hP⟩:∃ P,w5.heap.size=P:=⟨_,rfl⟩
 rw[hP]at hl;obtain⟨w6,pE⟩:∃ w6,w5.alloc (.cells #[.slice A2 n2 c2,.slice A1 n1 c1,.slice A3 n3 c3,.slice A4 n4 c4,.slice A5 n5 c5] 23)=w6:=⟨_,rfl⟩
 rw[pE]at hl y9;have Jy:=Hh (And.intro hP pE)
 have AR:=Hh (mH (n:=5) (c:=5) rfl (by simp) (by
  have h1:=vU id;have h2:=dZ.out;have h3:=eQ kind.data.toList;have h4:=rk 10;have h5:=rk m
  have h6:=HN.out.2.1;have h7:kind.data.toList.length≤1000:=by rw[Array.length_toList];exact HN.out.2.2.2.2.1
  simp only[List.flatten_cons,List.flatten_nil,List.length_append,List.length_nil];omega) w6 hl)
 clear hP pE hl M8 MB ME MF Qk xz;go_wp2_with fail
 rw[Jy.out.1,Jy.out.2]
 refine AR.out.mono ?_
 rintro e w7 ⟨r7,rfl,rO⟩
 have ho:=rO.own.more (base':=w.heap.size) y9.size;have xU:=y9.trans (rO.2.mono y9.size);clear rO y9 AR;go_wp2_with fail
 go_ret
 exact⟨_,rfl,by rw[EV.out];exact⟨ho,xU⟩⟩
end Go.Proofs.YtjpcnhncoidliaaGreatDoor
