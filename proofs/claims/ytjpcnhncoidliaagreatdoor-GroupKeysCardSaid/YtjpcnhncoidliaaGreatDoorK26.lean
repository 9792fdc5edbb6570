/- squeezed. Walks: a member of the deck. Walks -/
import Derived.Test.YtjpcnhncoidliaaGreatDoorK25
set_option linter.unusedVariables false
set_option linter.unusedSimpArgs false
set_option maxRecDepth 100000
set_option maxHeartbeats 25600000
namespace Go.Proofs.YtjpcnhncoidliaaGreatDoor
open Go.RowKit
theorem t8 {w:World}{o:Oper}{a:Act}{K:Act→World→Prop}{Q:Exit→Act→World→Prop}(s:Operand)
  (ho:o.op=.convert 23 9 s) (A:Option Addr) (n c:Nat) (l:List UInt8) (hs:a.eval s=.slice A n c) (hn:n=l.length) (hS:Src w A (l.map zg))
  (h:K (a.put o.dst (.string ⟨l.toArray⟩)) w):o.wp Tryz.prog a w K Q:=by
 have dT:=rz hS n c hn
 unfold Oper.wp execOp
 simp only[ho,hs,Sem.run_bind,Sem.run_pure,Result.andThen_ok,dT]
 exact h
theorem Blk.src1 {w:World}{g:Nat}{t:TypeId}{cs:Array Value}(h:Blk w g t cs):Src w (some ⟨g,0,none⟩) cs.toList:=fun _=>⟨g,0,rfl,fun j v hj=>by rw[Nat.zero_add];exact h.cell j (by simpa using hj)⟩
theorem d8 (z:Int):∃ x:UInt8,Value.int .u8 (IntKind.u8.wrap z)=zg x:=by
 rw[show IntKind.u8.wrap z=z%256 by first | rfl | simp[IntKind.wrap,IntKind.bits,IntKind.signed]];have h0:=Int.emod_nonneg z (by omega:(256:Int)≠0);have h1:=Int.emod_lt_of_pos z (by omega:(0:Int)<256)
 refine⟨UInt8.ofNat (z%256).toNat, ?_⟩
 rw[zg,UInt8.toNat_ofNat_of_lt' (by show(z%256).toNat<256;omega)];congr 1
 omega
def T7 (w:World) (H:Snap) (e:Ending) (w':World):Prop:=∃ m a H',e=.returned (.agg (xQ m a))∧Grows w H w' H'∧MemA H' m a
theorem na {H:Snap}(hTab:Tabs H) (n roles:Int) (w:World) (hH:Holds w H) :
  Calls Tryz.prog 25 #[.int .i64 n,.int .i64 roles] w (T7 w H):=by
 have hT:=Blk.new w 57 qa;have uU:H w.heap.size=none:=hH.none_of_ge (Nat.le_refl _);have hG:=(Grows.refl hH).alloc (.cells qa 57);have HT:=Hh hTab;clear hTab hH;go_enter Tryz.func25,Tryz.ntmps25
 go_wp2_with fail
 refine(kz n _).mono ?_
 rintro e w1 ⟨A1,c1,l1,rfl,Zg,rN⟩
 obtain⟨H1,um,oM,ut⟩:=Fresh.snapB hG.holds rN;replace uU:=um.none uU hT.lt;replace hT:=hT.below um.below;replace hG:=hG.trans um;obtain⟨cl,nB⟩:∃ cl:Cl,cl=⟨⟨#[]⟩,⟨#[109]⟩,0,0,⟨1,6,0,[],l1,[],[]⟩⟩:=⟨_,rfl⟩
 have Qa:ClA H1 cl ⟨none,0,A1,c1,none,0,none,0⟩:=by
  rw[nB]
  exact⟨by show(0:Nat)≤_;omega,by show(1:Nat)≤_;omega,by show(-9223372036854775808:Int)≤0∧(0:Int)≤9223372036854775807;omega,by show(-9223372036854775808:Int)≤0∧(0:Int)≤9223372036854775807;omega,⟨by simp,by simp,by simp,IsBytes.nil _,oM,IsBytes.nil _,IsBytes.nil _⟩⟩
 have EN:Hid (Calls Tryz.prog 53 #[.agg (clC ⟨#[]⟩ ⟨#[109]⟩ 0 0 1 6 0 none 0 0 A1 32 c1 none 0 0 none 0 0)] w1 (XR w1 cl)):=by
  have h:=cf (HT.out.mono hG.le) Qa w1 hG.holds
  have e:clQ cl ⟨none,0,A1,c1,none,0,none,0⟩=clC ⟨#[]⟩ ⟨#[109]⟩ 0 0 1 6 0 none 0 0 A1 32 c1 none 0 0 none 0 0:=by
   rw[nB];show clC ⟨#[]⟩ ⟨#[109]⟩ 0 0 1 6 0 none 0 0 A1 l1.length c1 none 0 0 none 0 0=_
   rw[Zg]
  rw[e]at h
  exact h
 clear rN ut oM um Qa nB Zg;go_wp2_with fail
 refine EN.out.mono ?_
 rintro e w2 ⟨r2,l2,cd,rfl,oT,te,Dl⟩
 have dZ:Hid (l2.length≤1700):=by
  rw[Hid,te]
  split
  ·rename_i hv
   exact(jn hv).2
  simp
 obtain⟨A2,c2,rfl,ut⟩:=oT.own.form;obtain⟨H2,yY,nC,PF⟩:=Fresh.snapB hG.holds oT;replace uU:=yY.none uU hT.lt;replace hT:=hT.below yY.below;replace hG:=hG.trans yY;have mW:=Hh nC;obtain⟨n2,oQ⟩:∃ k,l2.length=k:=⟨_,rfl⟩
 have oJ:=Hh oQ;rw[oQ];clear oT te Dl ut PF nC yY EN oQ;go_upto_region 2 with fail
 replace hT:=hT.below (Below.refl _ _).drew;replace hG:=hG.drew;have tH:=Snap.le.refl H2
 refine zn 16 (fun _=>True) (by kernel_rfl) (trivial) (fun zy=>?_)
 refine TkS 0 rfl zy ?_
 refine TkS 6 rfl zy ?_
 refine TkS 7 rfl zy ?_
 refine TkS 8 rfl zy ?_
 refine TkS 9 rfl zy ?_
 refine TkS 11 rfl zy ?_
 refine TkS 12 rfl zy ?_
 refine To 1 rfl fun K hK=>?_
 go_simp
 refine(U1 n 26 (by omega) (by omega) _).mono ?_
 rintro e w3 ⟨rfl,rfl⟩
 have Ei:=Hh (ax n 26 (by omega))
 generalize dV n 26=r at Ei⊢
 have kw:IntKind.i64.wrap (97+r)=97+r:=IntWalk.i64_in _ (by have:=Ei.out;omega);obtain⟨x,hx⟩:=d8 (97+r)
 refine Ko hK ?_ fun zy=>?_
 ·trivial
 clear hK K
 refine TkS 2 rfl zy ?_
 refine TkS 3 rfl zy ?_
 refine Ways.two (i:=4) (j:=10) rfl rfl (by kernel_rfl) (fun K hK=>?_) (fun K hK=>?_)
 ·go_simp
  have hL:=hG.newBlk 5 #[zg x];have hT:=hT.alloc (.cells #[zg x] 5);have hG:=hG.alloc (.cells #[zg x] 5)
  refine Ko hK ?_ fun zy=>?_
  ·trivial
  clear hK K
  refine Ways.two (i:=5) (j:=10) rfl rfl (by kernel_rfl) (fun K hK=>?_) (fun K hK=>?_)
  ·refine t8 _ rfl _ 1 1 [x] rfl rfl hL.src1 ?_
   refine Ko hK ?_ fun zy=>?_
   ·trivial
   clear hK K
   refine To 10 rfl fun K hK=>?_
   go_simp
   refine(kz _ _).mono ?_
   rintro e w10 ⟨A10,c10,l10,rfl,iB,tY⟩
   obtain⟨PY,wZ,iA,bT⟩:=Fresh.snapB hG.holds tY;have uU:=wZ.none uU hT.lt;have hT:=hT.below wZ.below
   try have hL:=hL.below wZ.below
   have hG:=hG.trans wZ;have tH:=tH.trans wZ.le;have qF:=Hh (And.intro iA iB);clear bT tY iA wZ iB
   refine Ko hK ?_ fun zy=>?_
   ·trivial
   clear hK K
   refine To 13 rfl fun K hK=>?_
   go_simp
   refine(nT (n:=16) _ (by omega) _).mono ?_
   rintro e w13 ⟨A13,c13,l13,rfl,oG,oE⟩
   obtain⟨Ul,wF,oF,oC⟩:=Fresh.snapB hG.holds oE;have uU:=wF.none uU hT.lt;have hT:=hT.below wF.below
   try have hL:=hL.below wF.below
   have hG:=hG.trans wF;have tH:=tH.trans wF.le;have sp:=Hh (And.intro oF (And.intro oG wF.le));clear oC oE oF wF oG
   refine Ko hK ?_ fun zy=>?_
   ·trivial
   clear hK K
   refine TkS 14 rfl zy ?_
   refine To 15 rfl fun K hK=>?_
   refine zF _ _ _ rfl w.heap.size _ rfl rfl _ _ hT vZ rfl (oD _ _ _ _ _ _ _ rfl rfl rfl rfl rfl rfl rfl) fun w15 hT15 hg15=>?_
   have hG:=hG.grownOwn uU (Nat.le_refl _) hg15;clear hg15 hT;go_simp
   refine Ko hK ?_ fun zy=>?_
   ·trivial
   clear hK K
   refine Wd ?_
   clear zy;go_wp2_with fail
   refine xS rfl rfl hT15 rfl rfl vZ rfl ?_
   exact⟨⟨⟨[x].toArray⟩,[],roles,l2,l10,l13,0⟩,⟨none,0,A2,c2,A10,c10,A13,c13⟩,Ul,by rw[xQ,oJ.out,qF.out.2,sp.out.2.1];rfl,hG,⟨by show(1:Nat)≤_;omega,IsBytes.nil _,mW.out.mono tH,qF.out.1.mono sp.out.2.2,sp.out.1,by show(0:Nat)≤_;omega,by show l2.length≤_;have:=dZ.out;omega,by show l10.length≤_;have:=qF.out.2;omega,by show l13.length≤_;have:=sp.out.2.1;omega⟩⟩
  go_simp
  refine(kz _ _).mono ?_
  rintro e w10 ⟨A10,c10,l10,rfl,iB,tY⟩
  obtain⟨PY,wZ,iA,bT⟩:=Fresh.snapB hG.holds tY;have uU:=wZ.none uU hT.lt;have hT:=hT.below wZ.below
  try have hL:=hL.below wZ.below
  have hG:=hG.trans wZ;have tH:=tH.trans wZ.le;have qF:=Hh (And.intro iA iB);clear bT tY iA wZ iB
  refine Ko hK ?_ fun zy=>?_
  ·trivial
  clear hK K
  refine Ways.two (i:=5) (j:=13) rfl rfl (by kernel_rfl) (fun K hK=>?_) (fun K hK=>?_)
  ·refine t8 _ rfl _ 1 1 [x] rfl rfl hL.src1 ?_
   refine Ko hK ?_ fun zy=>?_
   ·trivial
   clear hK K
   refine To 13 rfl fun K hK=>?_
   go_simp
   refine(nT (n:=16) _ (by omega) _).mono ?_
   rintro e w13 ⟨A13,c13,l13,rfl,oG,oE⟩
   obtain⟨Ul,wF,oF,oC⟩:=Fresh.snapB hG.holds oE;have uU:=wF.none uU hT.lt;have hT:=hT.below wF.below
   try have hL:=hL.below wF.below
   have hG:=hG.trans wF;have tH:=tH.trans wF.le;have sp:=Hh (And.intro oF (And.intro oG wF.le));clear oC oE oF wF oG
   refine Ko hK ?_ fun zy=>?_
   ·trivial
   clear hK K
   refine TkS 14 rfl zy ?_
   refine To 15 rfl fun K hK=>?_
   refine zF _ _ _ rfl w.heap.size _ rfl rfl _ _ hT vZ rfl (oD _ _ _ _ _ _ _ rfl rfl rfl rfl rfl rfl rfl) fun w15 hT15 hg15=>?_
   have hG:=hG.grownOwn uU (Nat.le_refl _) hg15;clear hg15 hT;go_simp
   refine Ko hK ?_ fun zy=>?_
   ·trivial
   clear hK K
   refine Wd ?_
   clear zy;go_wp2_with fail
   refine xS rfl rfl hT15 rfl rfl vZ rfl ?_
   exact⟨⟨⟨[x].toArray⟩,[],roles,l2,l10,l13,0⟩,⟨none,0,A2,c2,A10,c10,A13,c13⟩,Ul,by rw[xQ,oJ.out,qF.out.2,sp.out.2.1];rfl,hG,⟨by show(1:Nat)≤_;omega,IsBytes.nil _,mW.out.mono tH,qF.out.1.mono sp.out.2.2,sp.out.1,by show(0:Nat)≤_;omega,by show l2.length≤_;have:=dZ.out;omega,by show l10.length≤_;have:=qF.out.2;omega,by show l13.length≤_;have:=sp.out.2.1;omega⟩⟩
  go_simp
  refine(nT (n:=16) _ (by omega) _).mono ?_
  rintro e w13 ⟨A13,c13,l13,rfl,oG,oE⟩
  obtain⟨Ul,wF,oF,oC⟩:=Fresh.snapB hG.holds oE;have uU:=wF.none uU hT.lt;have hT:=hT.below wF.below
  try have hL:=hL.below wF.below
  have hG:=hG.trans wF;have tH:=tH.trans wF.le;have sp:=Hh (And.intro oF (And.intro oG wF.le));clear oC oE oF wF oG
  refine Ko hK ?_ fun zy=>?_
  ·trivial
  clear hK K
  refine To 5 rfl fun K hK=>?_
  refine t8 _ rfl _ 1 1 [x] rfl rfl hL.src1 ?_
  refine Ko hK ?_ fun zy=>?_
  ·trivial
  clear hK K
  refine TkS 14 rfl zy ?_
  refine To 15 rfl fun K hK=>?_
  refine zF _ _ _ rfl w.heap.size _ rfl rfl _ _ hT vZ rfl (oD _ _ _ _ _ _ _ rfl rfl rfl rfl rfl rfl rfl) fun w15 hT15 hg15=>?_
  have hG:=hG.grownOwn uU (Nat.le_refl _) hg15;clear hg15 hT;go_simp
  refine Ko hK ?_ fun zy=>?_
  ·trivial
  clear hK K
  refine Wd ?_
  clear zy;go_wp2_with fail
  refine xS rfl rfl hT15 rfl rfl vZ rfl ?_
  exact⟨⟨⟨[x].toArray⟩,[],roles,l2,l10,l13,0⟩,⟨none,0,A2,c2,A10,c10,A13,c13⟩,Ul,by rw[xQ,oJ.out,qF.out.2,sp.out.2.1];rfl,hG,⟨by show(1:Nat)≤_;omega,IsBytes.nil _,mW.out.mono tH,qF.out.1.mono sp.out.2.2,sp.out.1,by show(0:Nat)≤_;omega,by show l2.length≤_;have:=dZ.out;omega,by show l10.length≤_;have:=qF.out.2;omega,by show l13.length≤_;have:=sp.out.2.1;omega⟩⟩
 go_simp
 refine(kz _ _).mono ?_
 rintro e w10 ⟨A10,c10,l10,rfl,iB,tY⟩
 obtain⟨PY,wZ,iA,bT⟩:=Fresh.snapB hG.holds tY;have uU:=wZ.none uU hT.lt;have hT:=hT.below wZ.below
 try have hL:=hL.below wZ.below
 have hG:=hG.trans wZ;have tH:=tH.trans wZ.le;have qF:=Hh (And.intro iA iB);clear bT tY iA wZ iB
 refine Ko hK ?_ fun zy=>?_
 ·trivial
 clear hK K
 refine Ways.two (i:=4) (j:=13) rfl rfl (by kernel_rfl) (fun K hK=>?_) (fun K hK=>?_)
 ·go_simp
  have hL:=hG.newBlk 5 #[zg x];have hT:=hT.alloc (.cells #[zg x] 5);have hG:=hG.alloc (.cells #[zg x] 5)
  refine Ko hK ?_ fun zy=>?_
  ·trivial
  clear hK K
  refine Ways.two (i:=5) (j:=13) rfl rfl (by kernel_rfl) (fun K hK=>?_) (fun K hK=>?_)
  ·refine t8 _ rfl _ 1 1 [x] rfl rfl hL.src1 ?_
   refine Ko hK ?_ fun zy=>?_
   ·trivial
   clear hK K
   refine To 13 rfl fun K hK=>?_
   go_simp
   refine(nT (n:=16) _ (by omega) _).mono ?_
   rintro e w13 ⟨A13,c13,l13,rfl,oG,oE⟩
   obtain⟨Ul,wF,oF,oC⟩:=Fresh.snapB hG.holds oE;have uU:=wF.none uU hT.lt;have hT:=hT.below wF.below
   try have hL:=hL.below wF.below
   have hG:=hG.trans wF;have tH:=tH.trans wF.le;have sp:=Hh (And.intro oF (And.intro oG wF.le));clear oC oE oF wF oG
   refine Ko hK ?_ fun zy=>?_
   ·trivial
   clear hK K
   refine TkS 14 rfl zy ?_
   refine To 15 rfl fun K hK=>?_
   refine zF _ _ _ rfl w.heap.size _ rfl rfl _ _ hT vZ rfl (oD _ _ _ _ _ _ _ rfl rfl rfl rfl rfl rfl rfl) fun w15 hT15 hg15=>?_
   have hG:=hG.grownOwn uU (Nat.le_refl _) hg15;clear hg15 hT;go_simp
   refine Ko hK ?_ fun zy=>?_
   ·trivial
   clear hK K
   refine Wd ?_
   clear zy;go_wp2_with fail
   refine xS rfl rfl hT15 rfl rfl vZ rfl ?_
   exact⟨⟨⟨[x].toArray⟩,[],roles,l2,l10,l13,0⟩,⟨none,0,A2,c2,A10,c10,A13,c13⟩,Ul,by rw[xQ,oJ.out,qF.out.2,sp.out.2.1];rfl,hG,⟨by show(1:Nat)≤_;omega,IsBytes.nil _,mW.out.mono tH,qF.out.1.mono sp.out.2.2,sp.out.1,by show(0:Nat)≤_;omega,by show l2.length≤_;have:=dZ.out;omega,by show l10.length≤_;have:=qF.out.2;omega,by show l13.length≤_;have:=sp.out.2.1;omega⟩⟩
  go_simp
  refine(nT (n:=16) _ (by omega) _).mono ?_
  rintro e w13 ⟨A13,c13,l13,rfl,oG,oE⟩
  obtain⟨Ul,wF,oF,oC⟩:=Fresh.snapB hG.holds oE;have uU:=wF.none uU hT.lt;have hT:=hT.below wF.below
  try have hL:=hL.below wF.below
  have hG:=hG.trans wF;have tH:=tH.trans wF.le;have sp:=Hh (And.intro oF (And.intro oG wF.le));clear oC oE oF wF oG
  refine Ko hK ?_ fun zy=>?_
  ·trivial
  clear hK K
  refine To 5 rfl fun K hK=>?_
  refine t8 _ rfl _ 1 1 [x] rfl rfl hL.src1 ?_
  refine Ko hK ?_ fun zy=>?_
  ·trivial
  clear hK K
  refine TkS 14 rfl zy ?_
  refine To 15 rfl fun K hK=>?_
  refine zF _ _ _ rfl w.heap.size _ rfl rfl _ _ hT vZ rfl (oD _ _ _ _ _ _ _ rfl rfl rfl rfl rfl rfl rfl) fun w15 hT15 hg15=>?_
  have hG:=hG.grownOwn uU (Nat.le_refl _) hg15;clear hg15 hT;go_simp
  refine Ko hK ?_ fun zy=>?_
  ·trivial
  clear hK K
  refine Wd ?_
  clear zy;go_wp2_with fail
  refine xS rfl rfl hT15 rfl rfl vZ rfl ?_
  exact⟨⟨⟨[x].toArray⟩,[],roles,l2,l10,l13,0⟩,⟨none,0,A2,c2,A10,c10,A13,c13⟩,Ul,by rw[xQ,oJ.out,qF.out.2,sp.out.2.1];rfl,hG,⟨by show(1:Nat)≤_;omega,IsBytes.nil _,mW.out.mono tH,qF.out.1.mono sp.out.2.2,sp.out.1,by show(0:Nat)≤_;omega,by show l2.length≤_;have:=dZ.out;omega,by show l10.length≤_;have:=qF.out.2;omega,by show l13.length≤_;have:=sp.out.2.1;omega⟩⟩
 go_simp
 refine(nT (n:=16) _ (by omega) _).mono ?_
 rintro e w13 ⟨A13,c13,l13,rfl,oG,oE⟩
 obtain⟨Ul,wF,oF,oC⟩:=Fresh.snapB hG.holds oE;have uU:=wF.none uU hT.lt;have hT:=hT.below wF.below
 try have hL:=hL.below wF.below
 have hG:=hG.trans wF;have tH:=tH.trans wF.le;have sp:=Hh (And.intro oF (And.intro oG wF.le));clear oC oE oF wF oG
 refine Ko hK ?_ fun zy=>?_
 ·trivial
 clear hK K
 refine To 4 rfl fun K hK=>?_
 go_simp
 have hL:=hG.newBlk 5 #[zg x];have hT:=hT.alloc (.cells #[zg x] 5);have hG:=hG.alloc (.cells #[zg x] 5)
 refine Ko hK ?_ fun zy=>?_
 ·trivial
 clear hK K
 refine To 5 rfl fun K hK=>?_
 refine t8 _ rfl _ 1 1 [x] rfl rfl hL.src1 ?_
 refine Ko hK ?_ fun zy=>?_
 ·trivial
 clear hK K
 refine TkS 14 rfl zy ?_
 refine To 15 rfl fun K hK=>?_
 refine zF _ _ _ rfl w.heap.size _ rfl rfl _ _ hT vZ rfl (oD _ _ _ _ _ _ _ rfl rfl rfl rfl rfl rfl rfl) fun w15 hT15 hg15=>?_
 have hG:=hG.grownOwn uU (Nat.le_refl _) hg15;clear hg15 hT;go_simp
 refine Ko hK ?_ fun zy=>?_
 ·trivial
 clear hK K
 refine Wd ?_
 clear zy;go_wp2_with fail
 refine xS rfl rfl hT15 rfl rfl vZ rfl ?_
 exact⟨⟨⟨[x].toArray⟩,[],roles,l2,l10,l13,0⟩,⟨none,0,A2,c2,A10,c10,A13,c13⟩,Ul,by rw[xQ,oJ.out,qF.out.2,sp.out.2.1];rfl,hG,⟨by show(1:Nat)≤_;omega,IsBytes.nil _,mW.out.mono tH,qF.out.1.mono sp.out.2.2,sp.out.1,by show(0:Nat)≤_;omega,by show l2.length≤_;have:=dZ.out;omega,by show l10.length≤_;have:=qF.out.2;omega,by show l13.length≤_;have:=sp.out.2.1;omega⟩⟩
def Y0 (w:World) (H:Snap) (gd:Nat) (e:Ending) (w':World):Prop:=∃ x a H',e=.returned (.agg (gpQ x a))∧Dealt w H w' H' gd∧GpA H' x a
structure GS (W0:World) (H:Snap) (gd:Nat) (gc:Array Value) (P:Nat) (Hr:Snap) (w:World):Prop where
 dealt:Dealt W0 H w Hr gd
 res:Blk w W0.heap.size 38 xN
 var:Blk w P 38 gc
 lt:gd<W0.heap.size
 far:W0.heap.size+1≤P
 hT:Hr W0.heap.size=none
 hP:Hr P=none
structure XB (W0:World) (P:Nat) (xc:Array Value) (X:Nat) (Hr:Snap) (w:World):Prop where
 blk:Blk w X 38 xc
 none:Hr X=none
 far:W0.heap.size+1≤X
 ne:X≠P
section
variable {W0 w w':World} {H Hr Hs:Snap} {gd P X:Nat} {gc gc' xc xc':Array Value}
theorem GS.step (h:GS W0 H gd gc P Hr w) (k:Dealt w Hr w' Hs gd):GS W0 H gd gc P Hs w' :=
 ⟨h.dealt.trans k,h.res.dealt k (by have:=h.lt;omega),h.var.dealt k (by have:=h.lt;have:=h.far;omega),h.lt,h.far,k.hid h.hT h.res.lt,k.hid h.hP h.var.lt⟩
theorem GS.grow (h:GS W0 H gd gc P Hr w) (k:Grows w Hr w' Hs):GS W0 H gd gc P Hs w':=h.step (h.dealt.deck.grows k)
theorem GS.alloc (h:GS W0 H gd gc P Hr w) (o:Obj):GS W0 H gd gc P Hr (w.alloc o):=h.grow ((Grows.refl h.dealt.holds).alloc o)
theorem GS.drew (h:GS W0 H gd gc P Hr w):GS W0 H gd gc P Hr w.drew:=h.grow ((Grows.refl h.dealt.holds).drew)
theorem GS.set (h:GS W0 H gd gc P Hr w) (hB:Blk w' P 38 gc') (hg:w.grownBy w' (some P)):GS W0 H gd gc' P Hr w' :=
 ⟨h.dealt.grownRow (by rintro k ⟨⟩;exact h.hP) (by rintro k ⟨⟩;have:=h.far;omega) h.lt hg,h.res.grown hg (by intro e;injection e with e;have:=h.far;omega),hB,h.lt,h.far,h.hT,h.hP⟩
theorem GS.put (h:GS W0 H gd gc P Hr w) (n:XB W0 P xc X Hr w) (hg:w.grownBy w' (some X)):GS W0 H gd gc P Hr w' :=
 ⟨h.dealt.grownRow (by rintro k ⟨⟩;exact n.none) (by rintro k ⟨⟩;have:=n.far;omega) h.lt hg,h.res.grown hg (by intro e;injection e with e;have:=n.far;omega),h.var.grown hg (by intro e;injection e with e;exact n.ne e),h.lt,h.far,h.hT,h.hP⟩
theorem GS.newX (h:GS W0 H gd gc P Hr w):XB W0 P xN w.heap.size Hr (w.alloc (.cells xN 38)) :=
 ⟨Blk.new _ _ _,h.dealt.holds.none_of_ge (Nat.le_refl _),by have:=h.res.lt;omega,by have:=h.var.lt;omega⟩
theorem XB.step (n:XB W0 P xc X Hr w) (k:Dealt w Hr w' Hs gd) (hl:gd<W0.heap.size):XB W0 P xc X Hs w':=⟨n.blk.dealt k (by have:=n.far;omega),k.hid n.none n.blk.lt,n.far,n.ne⟩
theorem XB.grow (n:XB W0 P xc X Hr w) (k:Grows w Hr w' Hs):XB W0 P xc X Hs w':=⟨n.blk.below k.below,k.none n.none n.blk.lt,n.far,n.ne⟩
theorem XB.alloc (n:XB W0 P xc X Hr w) (o:Obj):XB W0 P xc X Hr (w.alloc o):=⟨n.blk.alloc o,n.none,n.far,n.ne⟩
theorem XB.put (n:XB W0 P xc X Hr w) (hB:Blk w' X 38 xc'):XB W0 P xc' X Hr w':=⟨hB,n.none,n.far,n.ne⟩
end
def GSt (W0:World) (H:Snap) (gd P:Nat) (w:World):Prop:=∃ x a Hr,GS W0 H gd (gpQ x a) P Hr w∧GpA Hr x a
theorem WA {H:Snap}(hTab:Tabs H) {gd:Nat}(w:World) (hD:DeckIn w gd H) :
  Calls Tryz.prog 8 #[.pointer (some ⟨gd,0,none⟩)] w (Y0 w H gd):=by
 have yS:=Hh hD.deck.lt;have hT:=Blk.new w 38 xN;have hd:=(Dealt.refl hD).alloc (.cells xN 38);have HT:=Hh hTab;have uU:H w.heap.size=none:=hD.holds.none_of_ge (Nat.le_refl _);obtain⟨W1,Sm⟩:∃ W1,w.alloc (.cells xN 38)=W1:=⟨_,rfl⟩
 have ug:w.heap.size+1≤W1.heap.size:=by rw[← Sm,zW];omega
 clear hTab hD;go_enter Tryz.func8,Tryz.ntmps8
 go_upto_region 1 with fail
 rw[Sm]at hT hd
 try rw[Sm]
 clear Sm;have Sh:=Hh ug;clear ug;have BY:=Hh (Zz W1 hd.deck 3 (by omega) (by omega));go_wp2_with fail
 refine BY.out.mono ?_
 rintro e w2 ⟨YA,yc,yn,yv,rfl,Xz,VL,qf,lM,yf⟩
 have Et:=Hh (And.intro Xz VL);have Q8:Hid (W1.heap.size≤(w2.alloc (.cells #[.int .u8 5] 5)).heap.size):=by have:=yf.size;rw[Hid,zW];omega
 have UU:=qf.alloc (.cells #[.int .u8 5] 5);have Fd:=(hT.dealt yf (by have:=yS.out;omega)).alloc (.cells #[.int .u8 5] 5);have Lg:=yf.hid uU hT.lt;have P4:=(hd.trans yf).alloc (.cells #[.int .u8 5] 5);clear BY Xz VL qf yf hd hT uU;go_wp2_with (at_builtin;refine zf ?_)
 refine zv rfl (.tmp 12) (.tmp 13) rfl W1.heap.size (.slice YA yn yc) yv rfl UU _ 1 _ [5] rfl rfl (Src.new _ _ _ _ rfl _ rfl) (by have:=Et.out;simp only[List.length_singleton];omega) (by have h1:=UU;have:=Q8.out;omega) fun v' w7 wY hg7 hat7=>?_
 have xp:=P4.grownRow (row:=_) (fun q hq=>lM q hq) (fun q hq=>by have:=(UU.lt q hq).1;have:=Sh.out;omega) yS.out hg7;have xx:=Fd.grown hg7 (fun e=>by have:=(UU.lt _ e).1;have:=Sh.out;omega);obtain⟨VA,vc,rfl,bU⟩:=wY.form;clear bU;obtain⟨cq,Px⟩:∃ cq,yv++[5]=cq:=⟨_,rfl⟩
 have Jl:Hid (1≤cq.length∧cq.length≤4):=by have:=Et.out;rw[Hid,← Px,List.length_append,List.length_singleton];omega
 rw[Px]at wY⊢;have fN:=pL P4.holds (fun q hq=>lM q hq) hat7;obtain⟨H7,Qg,Fq,rO,EA,Fn⟩:=wY.snap xp.holds (fun q hq=>fN q (rW hq));have vF:Dealt w H w7 H7 gd:=xp.snap (B:=W1.heap.size) Qg Fq rO (fun q hq=>(wY.lt q (rW hq)).1) (by have:=Sh.out;omega) yS.out
 have Le:H7 w.heap.size=none:=by
  cases hz:H7 w.heap.size with
  | none=>rfl
  | some o =>
  rcases rO _ o hz with h1 | h1
  ·rw[Lg]at h1;cases h1
  have:=(wY.lt _ (rW h1)).1;have:=Sh.out
  omega
 have Jk:=Hh Fn;obtain⟨ncq,PK⟩:∃ ncq,ncq=cq.length:=⟨_,rfl⟩
 have Ch:=Hh PK;rw[← PK];clear P4 UU lM hg7 hat7 xp wY fN Qg Fq rO EA Fn Px Fd Lg PK;go_wp2_with fail
 refine(vY _ vF.deck 100 (by omega) (by omega)).mono ?_
 rintro e w9 ⟨r9,rfl,Kh,qH⟩
 have wL:=xx.dealt qH (by have:=yS.out;omega);have Lf:=qH.hid Le xx.lt;replace Jk:=Hh (Jk.out.mono qH.le);have It:=vF.trans qH;clear vF qH xx Le Kh;go_wp2_with fail
 refine(kz _ _).mono ?_
 rintro e wb ⟨A1,c1,l1,rfl,Zg,rN⟩
 obtain⟨H1,um,oM,ut⟩:=Fresh.snapB It.holds rN;have Im:=wL.below um.below;have Lh:=um.none Lf wL.lt;have NC:=It.grown um;have CR:=Hh (cm (ca:=vc) (cb:=c1) Ch.out Zg.symm wb NC.holds (Src.of_row (Jk.out.mono um.le).row NC.holds) (Src.of_row oM.row NC.holds));clear rN ut oM um It wL Lf Zg Jk;go_wp2_with fail
 refine CR.out.mono ?_
 rintro e wc2 ⟨x0,a0,Hc,nc,rfl,KO,VK⟩
 clear CR;have In:=Im.below KO.below;have Li:=KO.none Lh Im.lt;have Iu:=NC.grown KO;clear Im Lh NC KO
 have xm:GS w H gd (gpQ x0 a0) wc2.heap.size Hc (wc2.alloc (.cells (gpQ x0 a0) 38)) :=
  ⟨Iu.alloc _,In.alloc _,Blk.new _ _ _,yS.out,In.lt,Li,Iu.holds.none_of_ge (Nat.le_refl _)⟩
 obtain⟨P,oS⟩:∃ P,wc2.heap.size=P:=⟨_,rfl⟩
 obtain⟨wd,JW⟩:∃ wd,wc2.alloc (.cells (gpQ x0 a0) 38)=wd:=⟨_,rfl⟩
 rw[oS,JW]at xm;have HW:=Hh (And.intro oS JW);clear oS JW In Li Iu;go_upto_region 2 with fail
 try rw[HW.out.1]
 try rw[HW.out.2]
 clear HW;go_wp2_with fail
 refine(vY _ xm.dealt.deck 7 (by omega) (by omega)).mono ?_
 rintro e we ⟨k,rfl,hk,Iv⟩
 replace xm:=xm.step Iv;have KZ:GSt w H gd P we:=⟨x0,a0,_,xm,VK.mono Iv.le⟩
 clear xm VK Iv;go_wp2_with fail
 go_loopw [5] (fun v5 wr=>∃ k:Nat,v5=.int .i64 (k:Int)∧Hid (k≤7)∧GSt w H gd P wr) (fun v5 _=>(intOf v5).toNat)
 case atStart=>exact⟨k,rfl,by rw[Hid];omega,KZ⟩
 case round =>
 clear KZ hk;obtain⟨k,rfl,HK,KZ⟩:=hrel;obtain⟨x,a,Hr,xm,hx⟩:=KZ;have HX:=Hh hx;clear hx
 by_cases lU:k=0
 ·subst lU;have p0:=xm.var.cell 0 rfl;have p1:=xm.var.cell 1 rfl;have p2:=xm.var.cell 2 rfl;have p3:=xm.var.cell 3 rfl;go_wp2_with (with_reducible refine zx ?_)
  refine zu rfl _ _ _ rfl rfl _ _ rfl rfl _ _ xm.res zZ rfl (vR _ _ _ _ rfl rfl rfl rfl) fun wz fM z8=>?_
  have yx:=xm.dealt.gb xm.hT (Nat.le_refl _) yS.out z8;clear xm z8 p0 p1 p2 p3;go_wp2_with fail
  refine xS rfl rfl fM rfl rfl zZ rfl ?_
  exact⟨x,a,Hr,rfl,yx,HX.out⟩
 obtain⟨k,rfl⟩:∃ k',k=k'+1:=⟨k-1,by omega⟩
 have ei:(0:Int)<((k+1:Nat):Int):=by omega
 have e1:((k+1:Nat):Int)=(k:Int)+1:=by omega
 rw[e1]at ei⊢;have NZ:Hid (k≤6):=by have:=HK.out;rw[Hid];omega
 have kw:IntKind.i64.wrap (k:Int)=(k:Int):=IntWalk.i64_in _ (by have:=HK.out;omega);have kw1:IntKind.i64.wrap ((k:Int)+1-1)=(k:Int):=by rw[show(k:Int)+1-1=(k:Int) by omega];exact kw
 clear lU e1;go_wp2_with fail
 refine(vY _ xm.dealt.deck 8 (by omega) (by omega)).mono ?_
 rintro e w2 ⟨n,rfl,hn,us⟩
 replace xm:=xm.step us;replace HX:=Hh (HX.out.mono us.le);have ea:=Hh (HT.out.mono xm.dealt.le);clear us ei;have Cg:=Hh hn;clear hn;go_upto_region 6 with fail
 go_cut [7,8,9] (fun s7 s8 s9 wx=>∃ (X:Nat) (x2:Gp) (a2:EAd) (H2:Snap) (n2:Int),s7=.pointer (some ⟨X,0,none⟩)∧s9=.int .i64 n2∧GS w H gd (gpQ x a) P H2 wx∧GpA H2 x a∧XB w P (gpQ x2 a2) X H2 wx∧GpA H2 x2 a2)
 case first =>
  replace xm:=xm.drew;have SS:Hid (∀ Hx wx,GS w H gd (gpQ x a) P Hx wx→wx.cell? ⟨P,0,none⟩=some (.slice a.ia x.id.length a.ic)∧wx.cell? ⟨P,1,none⟩=some (.slice a.sa x.secret.length a.sc)∧wx.cell? ⟨P,2,none⟩=some (.int .i64 x.number)∧wx.cell? ⟨P,3,none⟩=some (.slice a.ma x.members.length a.mc)):=fun _ _ h=>⟨h.var.cell 0 rfl,h.var.cell 1 rfl,h.var.cell 2 rfl,h.var.cell 3 rfl⟩
  have rb:Hid (Hr.le Hr):=Snap.le.refl Hr
  refine zn 15 (fun wx=>wx.cell? ⟨P,0,none⟩=some (.slice a.ia x.id.length a.ic)∧wx.cell? ⟨P,1,none⟩=some (.slice a.sa x.secret.length a.sc)∧wx.cell? ⟨P,2,none⟩=some (.int .i64 x.number)∧wx.cell? ⟨P,3,none⟩=some (.slice a.ma x.members.length a.mc)) (by kernel_rfl) (SS.out _ _ xm) (fun zy=>?_)
  refine TkS 0 rfl zy ?_
  refine TkS 1 rfl zy ?_
  refine TkS 2 rfl zy ?_
  refine Ways.two (i:=3) (j:=11) rfl rfl (by kernel_rfl) (fun K hK=>?_) (fun K hK=>?_)
  ·go_simp
   refine(vY _ xm.dealt.deck 7 (by omega) (by omega)).mono ?_
   rintro e w3 ⟨r3,rfl,NP,wU⟩
   try have hN:=hN.step wU yS.out
   have xm:=xm.step wU;have HX:=Hh (HX.out.mono wU.le);have ea:=Hh (ea.out.mono wU.le);clear NP wU
   refine Ko hK ?_ fun zy=>?_
   ·exact SS.out _ _ xm
   clear hK K
   refine TkS 4 rfl zy ?_
   refine Ways.two (i:=5) (j:=11) rfl rfl (by kernel_rfl) (fun K hK=>?_) (fun K hK=>?_)
   ·go_simp
    refine(na ea.out _ _ _ xm.dealt.holds).mono ?_
    rintro e w5 ⟨m5,a5,H5,rfl,xC,sT⟩
    try have hN:=hN.grow xC
    have xm:=xm.grow xC;have HX:=Hh (HX.out.mono xC.le);have ea:=Hh (ea.out.mono xC.le);have kJ:=Hh sT;clear xC sT
    refine Ko hK ?_ fun zy=>?_
    ·exact SS.out _ _ xm
    clear hK K
    refine Ways.two (i:=6) (j:=11) rfl rfl (by kernel_rfl) (fun K hK=>?_) (fun K hK=>?_)
    ·go_simp
     refine(sY (qr ea.out) HX.out kJ.out _ xm.dealt.holds).mono ?_
     rintro e w6 ⟨x6,a6,H6,A6,c6,l6,n6,rfl,zK,Xy,pW⟩
     try have hN:=hN.grow zK
     have xm:=xm.grow zK;have HX:=Hh (HX.out.mono zK.le);have Pk:=Hh Xy;clear zK Xy pW
     refine Ko hK ?_ fun zy=>?_
     ·exact SS.out _ _ xm
     clear hK K
     refine TkS 7 rfl zy ?_
     refine TkS 8 rfl zy ?_
     refine TkS 9 rfl zy ?_
     refine TkS 10 rfl zy ?_
     refine To 11 rfl fun K hK=>?_
     go_simp
     have hN:=xm.newX;have xm:=xm.alloc (.cells xN 38)
     refine Ko hK ?_ fun zy=>?_
     ·exact SS.out _ _ xm
     clear hK K
     refine To 12 rfl fun K hK=>?_
     refine zF _ _ _ rfl _ _ rfl rfl _ _ hN.blk zZ rfl (vR _ _ _ _ rfl rfl rfl rfl) fun w12 hB12 hg12=>?_
     have xm:=xm.put hN hg12;have hN:=hN.put (xc':=gpQ x6 a6) hB12;clear hB12 hg12;go_simp
     refine Ko hK ?_ fun zy=>?_
     ·exact SS.out _ _ xm
     clear hK K
     refine TkS 13 rfl zy ?_
     refine TkS 14 rfl zy ?_
     refine Wd ?_
     clear zy;go_wp2_with fail
     go_meet
     exact⟨_,x6,a6,_,n6,rfl,rfl,xm,HX.out,hN,Pk.out⟩
    go_simp
    have hN:=xm.newX;have xm:=xm.alloc (.cells xN 38)
    refine Ko hK ?_ fun zy=>?_
    ·exact SS.out _ _ xm
    clear hK K
    refine To 6 rfl fun K hK=>?_
    go_simp
    refine(sY (qr ea.out) HX.out kJ.out _ xm.dealt.holds).mono ?_
    rintro e w6 ⟨x6,a6,H6,A6,c6,l6,n6,rfl,zK,Xy,pW⟩
    try have hN:=hN.grow zK
    have xm:=xm.grow zK;have HX:=Hh (HX.out.mono zK.le);have Pk:=Hh Xy;clear zK Xy pW
    refine Ko hK ?_ fun zy=>?_
    ·exact SS.out _ _ xm
    clear hK K
    refine TkS 7 rfl zy ?_
    refine TkS 8 rfl zy ?_
    refine TkS 9 rfl zy ?_
    refine TkS 10 rfl zy ?_
    refine To 12 rfl fun K hK=>?_
    refine zF _ _ _ rfl _ _ rfl rfl _ _ hN.blk zZ rfl (vR _ _ _ _ rfl rfl rfl rfl) fun w12 hB12 hg12=>?_
    have xm:=xm.put hN hg12;have hN:=hN.put (xc':=gpQ x6 a6) hB12;clear hB12 hg12;go_simp
    refine Ko hK ?_ fun zy=>?_
    ·exact SS.out _ _ xm
    clear hK K
    refine TkS 13 rfl zy ?_
    refine TkS 14 rfl zy ?_
    refine Wd ?_
    clear zy;go_wp2_with fail
    go_meet
    exact⟨_,x6,a6,_,n6,rfl,rfl,xm,HX.out,hN,Pk.out⟩
   go_simp
   have hN:=xm.newX;have xm:=xm.alloc (.cells xN 38)
   refine Ko hK ?_ fun zy=>?_
   ·exact SS.out _ _ xm
   clear hK K
   refine To 5 rfl fun K hK=>?_
   go_simp
   refine(na ea.out _ _ _ xm.dealt.holds).mono ?_
   rintro e w5 ⟨m5,a5,H5,rfl,xC,sT⟩
   try have hN:=hN.grow xC
   have xm:=xm.grow xC;have HX:=Hh (HX.out.mono xC.le);have ea:=Hh (ea.out.mono xC.le);have kJ:=Hh sT;clear xC sT
   refine Ko hK ?_ fun zy=>?_
   ·exact SS.out _ _ xm
   clear hK K
   refine To 6 rfl fun K hK=>?_
   go_simp
   refine(sY (qr ea.out) HX.out kJ.out _ xm.dealt.holds).mono ?_
   rintro e w6 ⟨x6,a6,H6,A6,c6,l6,n6,rfl,zK,Xy,pW⟩
   try have hN:=hN.grow zK
   have xm:=xm.grow zK;have HX:=Hh (HX.out.mono zK.le);have Pk:=Hh Xy;clear zK Xy pW
   refine Ko hK ?_ fun zy=>?_
   ·exact SS.out _ _ xm
   clear hK K
   refine TkS 7 rfl zy ?_
   refine TkS 8 rfl zy ?_
   refine TkS 9 rfl zy ?_
   refine TkS 10 rfl zy ?_
   refine To 12 rfl fun K hK=>?_
   refine zF _ _ _ rfl _ _ rfl rfl _ _ hN.blk zZ rfl (vR _ _ _ _ rfl rfl rfl rfl) fun w12 hB12 hg12=>?_
   have xm:=xm.put hN hg12;have hN:=hN.put (xc':=gpQ x6 a6) hB12;clear hB12 hg12;go_simp
   refine Ko hK ?_ fun zy=>?_
   ·exact SS.out _ _ xm
   clear hK K
   refine TkS 13 rfl zy ?_
   refine TkS 14 rfl zy ?_
   refine Wd ?_
   clear zy;go_wp2_with fail
   go_meet
   exact⟨_,x6,a6,_,n6,rfl,rfl,xm,HX.out,hN,Pk.out⟩
  go_simp
  have hN:=xm.newX;have xm:=xm.alloc (.cells xN 38)
  refine Ko hK ?_ fun zy=>?_
  ·exact SS.out _ _ xm
  clear hK K
  refine To 3 rfl fun K hK=>?_
  go_simp
  refine(vY _ xm.dealt.deck 7 (by omega) (by omega)).mono ?_
  rintro e w3 ⟨r3,rfl,NP,wU⟩
  try have hN:=hN.step wU yS.out
  have xm:=xm.step wU;have HX:=Hh (HX.out.mono wU.le);have ea:=Hh (ea.out.mono wU.le);clear NP wU
  refine Ko hK ?_ fun zy=>?_
  ·exact SS.out _ _ xm
  clear hK K
  refine TkS 4 rfl zy ?_
  refine To 5 rfl fun K hK=>?_
  go_simp
  refine(na ea.out _ _ _ xm.dealt.holds).mono ?_
  rintro e w5 ⟨m5,a5,H5,rfl,xC,sT⟩
  try have hN:=hN.grow xC
  have xm:=xm.grow xC;have HX:=Hh (HX.out.mono xC.le);have ea:=Hh (ea.out.mono xC.le);have kJ:=Hh sT;clear xC sT
  refine Ko hK ?_ fun zy=>?_
  ·exact SS.out _ _ xm
  clear hK K
  refine To 6 rfl fun K hK=>?_
  go_simp
  refine(sY (qr ea.out) HX.out kJ.out _ xm.dealt.holds).mono ?_
  rintro e w6 ⟨x6,a6,H6,A6,c6,l6,n6,rfl,zK,Xy,pW⟩
  try have hN:=hN.grow zK
  have xm:=xm.grow zK;have HX:=Hh (HX.out.mono zK.le);have Pk:=Hh Xy;clear zK Xy pW
  refine Ko hK ?_ fun zy=>?_
  ·exact SS.out _ _ xm
  clear hK K
  refine TkS 7 rfl zy ?_
  refine TkS 8 rfl zy ?_
  refine TkS 9 rfl zy ?_
  refine TkS 10 rfl zy ?_
  refine To 12 rfl fun K hK=>?_
  refine zF _ _ _ rfl _ _ rfl rfl _ _ hN.blk zZ rfl (vR _ _ _ _ rfl rfl rfl rfl) fun w12 hB12 hg12=>?_
  have xm:=xm.put hN hg12;have hN:=hN.put (xc':=gpQ x6 a6) hB12;clear hB12 hg12;go_simp
  refine Ko hK ?_ fun zy=>?_
  ·exact SS.out _ _ xm
  clear hK K
  refine TkS 13 rfl zy ?_
  refine TkS 14 rfl zy ?_
  refine Wd ?_
  clear zy;go_wp2_with fail
  go_meet
  exact⟨_,x6,a6,_,n6,rfl,rfl,xm,HX.out,hN,Pk.out⟩
 case rest =>
 clear xm HX ea;obtain⟨X,x2,a2,H2,n2,rfl,rfl,xm,hx,hN,fV⟩:=hcut;go_wp2_with fail
 refine(vY _ xm.dealt.deck 6 (by omega) (by omega)).mono ?_
 rintro e w3 ⟨r,rfl,hr,wU⟩
 replace hN:=hN.step wU yS.out;replace xm:=xm.step wU;have HX:=Hh (hx.mono wU.le);have Cv:=Hh (fV.mono wU.le);have ea:=Hh (HT.out.mono xm.dealt.le);have SD:=Hh (qr ea.out);clear wU hx fV hr
 by_cases h4:r=4
 ·have f1:((r:Int)=4)=True:=eq_true (by omega);have f2:((r:Int)==4)=true:=beq_iff_eq.2 (by omega);have p0:=xm.var.cell 0 rfl;have p1:=xm.var.cell 1 rfl;have p2:=xm.var.cell 2 rfl;have p3:=xm.var.cell 3 rfl;have nw:IntKind.i64.wrap (97+(n:Int))=97+(n:Int):=IntWalk.i64_in _ (by have:=Cg.out;omega);obtain⟨y,hy⟩:=d8 (97+(n:Int));have CV:=rz (w:=w3.alloc (.cells #[zg y] 5)) (l:=[y]) (Src.new w3 #[zg y] 5 _ rfl _ rfl) 1 1 rfl;have EX:=Hh (fun wx hx=>jf SD.out HX.out ⟨[y].toArray⟩ wx hx);replace hN:=hN.alloc (.cells #[zg y] 5);replace xm:=xm.alloc (.cells #[zg y] 5);clear h4;go_wp2_with fail
  refine(EX.out _ xm.dealt.holds).mono ?_
  rintro e w4 ⟨x4,a4,H4,n4,rfl,uv,Sa⟩
  replace hN:=hN.grow uv;replace xm:=xm.grow uv;replace HX:=Hh (HX.out.mono uv.le);have Mn:=Hh Sa;clear EX CV hy nw p0 p1 p2 p3 uv Sa f1 f2;go_wp2_with (with_reducible refine zx ?_)
  refine zu rfl _ _ _ rfl rfl _ _ rfl rfl _ _ hN.blk zZ rfl (vR _ _ _ _ rfl rfl rfl rfl) fun w5 tF yg=>?_
  replace xm:=xm.put hN yg;replace hN:=hN.put (xc':=gpQ x4 a4) tF;clear tF yg
  by_cases h0:n4=0
  ·have e1:(n4=0)=True:=eq_true h0;have e2:(n4==0)=true:=beq_iff_eq.2 h0;have t0:=hN.blk.cell 0 rfl;have t1:=hN.blk.cell 1 rfl;have t2:=hN.blk.cell 2 rfl;have t3:=hN.blk.cell 3 rfl;clear h0;go_wp2_with (with_reducible refine zx ?_)
   refine zu rfl _ _ _ rfl rfl _ _ rfl rfl _ _ xm.var zZ rfl (vR _ _ _ _ rfl rfl rfl rfl) fun wz hBz z8=>?_
   replace xm:=xm.set (gc':=gpQ x4 a4) hBz z8;clear hBz z8 hN t0 t1 t2 t3 e1 e2;go_wp2_with fail
   go_roundw
   case rel=>exact⟨k,by go_num,(by have:=NZ.out;exact(show k≤7 by omega)),x4,a4,_,xm,Mn.out⟩
   case measure=>simp[intOf]
  have e1:(n4=0)=False:=eq_false h0;have e2:(n4==0)=false:=beq_eq_false_iff_ne.2 h0;clear h0 hN;go_wp2_with fail
  go_roundw
  case rel=>exact⟨k,by go_num,(by have:=NZ.out;exact(show k≤7 by omega)),x,a,_,xm,HX.out⟩
  case measure=>simp[intOf]
 have f1:((r:Int)=4)=False:=eq_false (by omega);have f2:((r:Int)==4)=false:=beq_eq_false_iff_ne.2 (by omega)
 by_cases h5:r=5
 ·have f3:((r:Int)=5)=True:=eq_true (by omega);have f4:((r:Int)==5)=true:=beq_iff_eq.2 (by omega);have p0:=xm.var.cell 0 rfl;have p1:=xm.var.cell 1 rfl;have p2:=xm.var.cell 2 rfl;have p3:=xm.var.cell 3 rfl;have EX:=Hh (fun wx hx=>fZ SD.out HX.out wx hx);clear h4 h5;go_wp2_with fail
  refine(EX.out _ xm.dealt.holds).mono ?_
  rintro e w4 ⟨x4,a4,H4,n4,rfl,uv,Sa⟩
  replace hN:=hN.grow uv;replace xm:=xm.grow uv;replace HX:=Hh (HX.out.mono uv.le);have Mn:=Hh Sa;clear EX p0 p1 p2 p3 uv Sa f1 f2 f3 f4;go_wp2_with (with_reducible refine zx ?_)
  refine zu rfl _ _ _ rfl rfl _ _ rfl rfl _ _ hN.blk zZ rfl (vR _ _ _ _ rfl rfl rfl rfl) fun w5 tF yg=>?_
  replace xm:=xm.put hN yg;replace hN:=hN.put (xc':=gpQ x4 a4) tF;clear tF yg
  by_cases h0:n4=0
  ·have e1:(n4=0)=True:=eq_true h0;have e2:(n4==0)=true:=beq_iff_eq.2 h0;have t0:=hN.blk.cell 0 rfl;have t1:=hN.blk.cell 1 rfl;have t2:=hN.blk.cell 2 rfl;have t3:=hN.blk.cell 3 rfl;clear h0;go_wp2_with (with_reducible refine zx ?_)
   refine zu rfl _ _ _ rfl rfl _ _ rfl rfl _ _ xm.var zZ rfl (vR _ _ _ _ rfl rfl rfl rfl) fun wz hBz z8=>?_
   replace xm:=xm.set (gc':=gpQ x4 a4) hBz z8;clear hBz z8 hN t0 t1 t2 t3 e1 e2;go_wp2_with fail
   go_roundw
   case rel=>exact⟨k,by go_num,(by have:=NZ.out;exact(show k≤7 by omega)),x4,a4,_,xm,Mn.out⟩
   case measure=>simp[intOf]
  have e1:(n4=0)=False:=eq_false h0;have e2:(n4==0)=false:=beq_eq_false_iff_ne.2 h0;clear h0 hN;go_wp2_with fail
  go_roundw
  case rel=>exact⟨k,by go_num,(by have:=NZ.out;exact(show k≤7 by omega)),x,a,_,xm,HX.out⟩
  case measure=>simp[intOf]
 have f3:((r:Int)=5)=False:=eq_false (by omega);have f4:((r:Int)==5)=false:=beq_eq_false_iff_ne.2 (by omega);clear h4 h5
 by_cases h0:n2=0
 ·have e1:(n2=0)=True:=eq_true h0;have e2:(n2==0)=true:=beq_iff_eq.2 h0;have t0:=hN.blk.cell 0 rfl;have t1:=hN.blk.cell 1 rfl;have t2:=hN.blk.cell 2 rfl;have t3:=hN.blk.cell 3 rfl;clear h0;go_wp2_with (with_reducible refine zx ?_)
  refine zu rfl _ _ _ rfl rfl _ _ rfl rfl _ _ xm.var zZ rfl (vR _ _ _ _ rfl rfl rfl rfl) fun wz hBz z8=>?_
  replace xm:=xm.set (gc':=gpQ x2 a2) hBz z8;clear hBz z8 hN t0 t1 t2 t3 e1 e2;go_wp2_with fail
  go_roundw
  case rel=>exact⟨k,by go_num,(by have:=NZ.out;exact(show k≤7 by omega)),x2,a2,_,xm,Cv.out⟩
  case measure=>simp[intOf]
 have e1:(n2=0)=False:=eq_false h0;have e2:(n2==0)=false:=beq_eq_false_iff_ne.2 h0;clear h0 hN;go_wp2_with fail
 go_roundw
 case rel=>exact⟨k,by go_num,(by have:=NZ.out;exact(show k≤7 by omega)),x,a,_,xm,HX.out⟩
 case measure=>simp[intOf]
def O6 (l:List (List UInt8)) (e:Ending):Prop:=∃ b,e=.returned (.bool b)∧(b=true→∀ x∈l,x.length≤900)
theorem TM {H:Snap}(w:World) (hH:Holds w H) {A:Option Addr}{n c:Nat}{l:List (List UInt8)}(hn:n=l.length) (hr:IsRow fF H A c l) :
  Calls Tryz.prog 4 #[.slice A n c] w fun e w'=>O6 l e∧w'=w:=by
 have HR:=Hh hr;have HH:=Hh hH;have HN:=Hh hn;have SM:=Hh (fun(A:Option Addr) (n c:Nat) (w:World)=>WC A n c w);clear hr hH hn;go_enter Tryz.func4,Tryz.ntmps4
 go_wp2_with fail
 go_loopw [7] (fun v7 wr=>∃ k:Nat,k≤n∧v7=.int .i64 (k:Int)∧Hid (∀ i (h:i<l.length),i<k→l[i].length≤900)∧wr=w) (fun v7 _=>n-(intOf v7).toNat)
 case atStart=>exact⟨0,Nat.zero_le _,rfl,(fun i h h0=>absurd h0 (by omega)),rfl⟩
 case round =>
 obtain⟨k,hk,rfl,HF,rfl⟩:=hrel;have BV:=Hh hk;clear hk
 by_cases sX:k<n
 ·have ei:(k:Int)<(n:Int):=by omega
  obtain⟨b,off,rfl,rL⟩:=HR.out.at_ (by have:=HN.out;omega);obtain⟨d,hd,hc⟩:=rL k (by have:=HN.out;omega);obtain⟨YA,yc,rfl,O5⟩:=hd;obtain⟨x,hx⟩:∃ x,l[k]'(by have:=HN.out;omega)=x:=⟨_,rfl⟩
  rw[hx]at hc O5;have CX:Hid (∀ h:k<l.length,l[k]=x):=fun _=>hx
  have q0:=HH.out.cell (hc 0 _ rfl);rw[show off+(k*fF.k+0)=off+k from by show off+(k*1+0)=_;omega]at q0;have HK:=Hh sX;have Su:(n:Int)≤(c:Int):=by have:=HR.out.le;have:=HN.out;omega
  have Bt:(k:Int)+1≤9223372036854775807:=by have h1:=HR.out.le;have h2:=HR.out.max;have:=HN.out;omega
  clear sX rL hc hx O5;go_wp2_with fail
  refine(SM.out _ _ _ _).mono ?_
  rintro e w4 ⟨⟨b',rfl,kO⟩,rfl⟩
  have S7:=Hh kO;clear kO
  cases b' with
  | false =>
   go_wp2_with fail
   go_ret
   exact⟨⟨false,rfl,fun h=>by cases h⟩,rfl⟩
  | true =>
  go_wp2_with fail
  go_roundw
  case rel=>exact⟨k+1,HK.out,by go_num,(fun i h h1=>by
   by_cases hik:i=k
   ·subst hik;rw[CX.out h]
    exact S7.out (by trivial)
   exact HF.out i h (by omega)),by trivial⟩
  case measure=>have:=HK.out;simp[intOf];omega
 have VX:¬ ((k:Int)<(n:Int)):=by omega
 have Bu:decide ((k:Int)<(n:Int))=false:=decide_eq_false VX;clear sX;go_wp2_with fail
 go_ret
 exact⟨⟨_,rfl,fun _ y hy=>by
  obtain⟨i,hi,rfl⟩:=List.getElem_of_mem hy
  exact HF.out i hi (by have:=HN.out;omega)⟩,rfl⟩
def OR:Snap:=fun _=>none
theorem TI (w:World):Holds w OR:=fun b o h=>by cases h
theorem j5 (w:World):Calls Tryz.prog 5 #[] w fun e w'=>e=.returned (.bool true)∧Below w.heap.size w w':=by
 obtain⟨H1,um,Zg,oM⟩:=jp (Grows.refl (TI w)) [1] #[.int .u8 1] 1 rfl (by simp) rfl;obtain⟨w1,nY⟩:∃ w1,w.alloc (.cells #[.int .u8 1] 5)=w1:=⟨_,rfl⟩
 rw[nY]at um;obtain⟨H2,yY,te,nC⟩:=jp um [0] #[.int .u8 0] 1 rfl (by simp) rfl;obtain⟨w2,qK⟩:∃ w2,w1.alloc (.cells #[.int .u8 0] 5)=w2:=⟨_,rfl⟩
 rw[qK]at yY
 have KY:Hid (Calls Tryz.prog 10 #[.agg (epC 0 (some ⟨w.heap.size,0,none⟩) 1 1 none 0 0 none 0 0),.slice (some ⟨w1.heap.size,0,none⟩) 1 1] w2 (ky w2 H2 ⟨0,[1],[],[]⟩ [0])) :=
  g8 (x:=⟨0,[1],[],[]⟩) (a:=⟨some ⟨w.heap.size,0,none⟩,1,none,0,none,0⟩) ⟨oM.mono te,IsBytes.nil _,dK _,by simp⟩ (c:=1) (n:=1) rfl (by simp) w2 yY.holds (Src.of_row nC.row yY.holds)
 have yz:=yY.below;clear um yY Zg te oM nC;go_enter Tryz.func5,Tryz.ntmps5
 go_wp2_with fail
 refine KY.out.mono ?_
 rintro e w3 ⟨A1,c1,A2,c2,A3,c3,H3,rfl,xf,_,_,_⟩
 have vg:=yz.trans (xf.below.mono yz.size);clear yz xf KY nY qK;go_wp2_with fail
 go_ret
 exact⟨rfl,vg⟩
end Go.Proofs.YtjpcnhncoidliaaGreatDoor
