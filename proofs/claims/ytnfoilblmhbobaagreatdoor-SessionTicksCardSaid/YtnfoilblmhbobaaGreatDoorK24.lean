/- squeezed. Walks: the program's reader of ite -/
import Derived.Test.YtnfoilblmhbobaaGreatDoorK23
set_option linter.unusedVariables false
set_option linter.unusedSimpArgs false
set_option maxRecDepth 100000
set_option maxHeartbeats 6400000
namespace Go.Proofs.YtnfoilblmhbobaaGreatDoor
open Go.RowKit
theorem oz {w wr:World}{H Hr:Snap}(_h:Grows w H wr Hr) {l:List Itm}{cs:List Value}(hc:ItemsC Hr cs l) (hm:l.length≤4096) :
  OwnI (wr.alloc (.cells cs.toArray 73)) wr.heap.size (.slice (some ⟨wr.heap.size,0,none⟩) l.length l.length) Hr l:=OwnI.lit hc _ (Nat.le_refl _) hm
theorem fz {w wr:World}{H Hr:Snap}(h:Grows w H wr Hr) {l:List Itm}{cs:List Value}(hc:ItemsC Hr cs l) (hm:l.length≤4096) :
  ∃ H',Grows w H (wr.alloc (.cells cs.toArray 73)) H'∧Hr.le H'∧IsRowI H' (some ⟨wr.heap.size,0,none⟩) l.length l:=by
 have hO:=oz h hc hm;have hG:=h.alloc (.cells cs.toArray 73);obtain⟨H',hl,hh,hf,hz,h1,h2,h3⟩:=hO.snap hG.holds (fun q hq=>by cases hq;exact h.holds.none_of_ge (Nat.le_refl _))
 refine⟨H',⟨hG.below,hG.le.trans hl,hh,fun b o hb=>?_⟩,hl,⟨h1,h2,h3⟩⟩
 rcases hf b o hb with h4 | h4
 ·exact hG.fresh b o h4
 simp at h4;exact .inr (by have:=h.size;omega)
theorem iO {p:List UInt8→Nat→PR}(hp:∀ b c q,p b c=.err q→q≠0):∀ (n:Nat) (b:List UInt8) (c:Nat) (last:Option (List UInt8)) (q:Nat),xo p n b c last=.err q→q≠0
 | 0,b,c,last,q,h=>by rw[xo]at h;cases h
 | n+1,b,c,last,q,h=>by
  rw[xo]at h
  split at h
  ·rename_i h1
   injection h with h
   subst h
   exact hp _ _ _ h1
  split at h
  ·rename_i h2
   injection h with h
   subst h
   unfold sP at h2
   repeat' split at h2
   all_goals first | (injection h2 with h2;omega) | cases h2
  split at h
  ·rename_i h3
   injection h with h
   subst h
   exact hp _ _ _ h3
  split at h
  ·rename_i h4
   injection h with h
   subst h
   exact iO hp n _ _ _ _ h4
  cases h
theorem iG {p:List UInt8→Nat→PR}(hp:∀ b c q,p b c=.err q→q≠0):∀ (n:Nat) (b:List UInt8) (c:Nat) (q:Nat),uy p n b c=.err q→q≠0
 | 0,b,c,q,h=>by rw[uy]at h;cases h
 | n+1,b,c,q,h=>by
  rw[uy]at h
  split at h
  ·rename_i h1
   injection h with h
   subst h
   exact hp _ _ _ h1
  split at h
  ·rename_i h4
   injection h with h
   subst h
   exact iG hp n _ _ _ h4
  cases h
theorem yd:∀ (d:Nat) (b:List UInt8) (c q:Nat),zc d b c=.err q→q≠0:=by
 intro d
 induction d with
 | zero =>
  intro b c q h
  rw[zc.eq_def]at h
  simp only at h
  repeat' split at h
  all_goals first
   | (injection h with h;omega)
   | cases h
   | skip
  ·rename_i h1;have:=tX h1;omega
  rename_i h1;have:=pu h1;omega
 | succ d ih =>
 intro b c q h
 rw[zc.eq_def]at h
 simp only at h
 repeat' split at h
 all_goals first
  | (injection h with h;omega)
  | cases h
  | skip
 ·rename_i h1;have:=tX h1;omega
 ·rename_i h1;have:=pu h1;omega
 ·rename_i h1;exact ih _ _ _ h1
 ·rename_i h1;exact iO ih _ _ _ _ _ h1
 rename_i h1;exact iG ih _ _ _ _ h1
section
variable {d:Nat} {w:World} {H:Snap} {g:Nat} {A:Option Addr} {c:Nat} {l:List UInt8} {p cnt lv:Nat}
theorem da (ih:mQ d) (hTab:Tabs H) (hlv:lv+(d+1)=8) (hP:Psr 86 w g H A c l p cnt) (hc:cnt<256) {f n k:Nat}(hh:zR (l.drop p)=.ok (f,n,k)) (hk:f/32=6):Calls Tryz.prog 39 #[.pointer (some ⟨g,0,none⟩),.int .i64 (lv:Int)] w (ItemOut 86 w H g A c l p (zc (d+1) (l.drop p) cnt)):=by
 have xA:=hP.gt;have wv:=(Rdg.refl hP).alloc zX;have vR:=Blk.new w 73 #[.int .i64 0,.int .u64 0,.slice none 0 0,.slice none 0 0];have vz:H w.heap.size=none:=hP.holds.none_of_ge (Nat.le_refl _);have c2:=wv.psr.blk.cell 2 rfl;have E0:=Hh (gF d (l.drop p) cnt (by omega) hh hk);have S:(f:Int)/32=6:=by omega
 have XH:¬ ((8:Int)≤(lv:Int)):=by omega
 have KL:IntKind.i64.wrap ((lv:Int)+1)=(lv:Int)+1:=IntWalk.i64_in _ (by omega);have Zh:(lv:Int)≤8:=by omega
 have xN:((cnt:Int)==256)=false:=by simp;omega
 have yG:((cnt:Int)=256)=False:=eq_false (by omega);have KC:IntKind.i64.wrap ((cnt:Int)+1)=(cnt:Int)+1:=IntWalk.i64_in _ (by omega);have HC:=Hh hc;clear hc;go_enter Tryz.func39,Tryz.ntmps39
 go_wp2_with (with_reducible refine zx ?_)
 refine zv rfl _ _ _ rfl rfl g 2 (.int .i64 ((cnt:Int)+1)) rfl rfl _ _ wv.psr.blk yq (by simp) rfl fun w2 xO yw=>?_
 have vS:Rdg 86 w H w2 H g A c l p (cnt+1):=wv.step yw xO hP.le (by have:=HC.out;omega);have tf:=vR.gr yw (by omega);have PH:=Hh (ux vS.psr);clear wv vR xO yw c2 KC xN yG;go_wp2_with fail
 refine PH.out.mono ?_
 intro e w3 hs
 rw[HeadSaid,hh]at hs;obtain⟨rfl,wP,yt⟩:=hs;have HS:=yP hh;have uz:p+k≤l.length:=by have:=HS.le;rw[List.length_drop]at this;have:=hP.le;omega
 have vq:Rdg 86 w H w3 H g A c l (p+k) (cnt+1):=vS.step yt wP uz (by have:=HC.out;omega);have wR:=tf.gr yt (by omega);have HF:=Hh HS;clear vS tf wP yt PH HS hh;have IT:=ih w3 H g A c l (p+k) (cnt+1) (lv+1) hTab (by omega) vq.psr;rw[show((lv+1:Nat):Int)=(lv:Int)+1 by omega]at IT;have ITH:=Hh IT;rw[List.drop_drop]at E0;clear IT;go_wp2_with fail
 refine ITH.out.mono ?_
 intro e w4 hs
 cases hp:zc d (l.drop (p+k)) (cnt+1) with
 | err q =>
  rw[hp,ItemOut]at hs;obtain⟨rfl,H4,p4,cnt4,ua⟩:=hs;have ui:((q:Int) != 0)=true:=by rw[bne_iff_ne];have:=yd _ _ _ _ hp;omega
  have kL:((q:Int)=0)=False:=eq_false (by have:=yd _ _ _ _ hp;omega);have E:Hid (zc (d+1) (l.drop p) cnt=.err q):=by rw[Hid,E0.out,hp]
  have uq:=vq.trans ua;have wF:=wR.rdg ua (by omega);have aL:=ua.hid vz wR.lt;have hX:=Blk.new w4 73 #[.int .i64 0,.int .u64 0,.slice none 0 0,.slice none 0 0];have rj:=uq.alloc zX;have vN:=wF.alloc zX;have Zc:=Hh uq.psr.holds;have eW:=Hh wF.lt;clear ua vq wR ITH hp E0 uq wF;have Ze:w.heap.size≤w4.heap.size:=Nat.le_of_lt eW.out;have YY:=(Holds.none_of_ge (w:=w4) (H:=H4) (Zc.out) (Nat.le_refl _))
  go_wp2_with (with_reducible refine zx ?_)
  refine stI hX fun w6 kV hg6=>?_
  have vr:=rj.gb YY Ze xA hg6;have tO:=vN.grown hg6 (by intro e;injection e with e;have:=eW.out;omega);clear rj vN hX hg6 kV;go_wp2_with (with_reducible refine zx ?_)
  refine stI tO fun wz hTy hgz=>?_
  have wV:=vr.gb aL (Nat.le_refl _) xA hgz;go_wp2_with fail
  refine zo rfl rfl hTy rfl rfl zi rfl ?_
  exact ItemOut.err E.out rfl wV
 | ok x k' c' =>
 rw[hp,ItemOut]at hs;obtain⟨ja,jb,jc,jd,H4,rfl,ua,aG⟩:=hs;have E:Hid (zc (d+1) (l.drop p) cnt=.ok (.mk 6 n [] [x]) (k+k') c'):=by rw[Hid,E0.out,hp]
 have uq:=vq.trans ua;have wF:=wR.rdg ua (by omega);have aL:=ua.hid vz wR.lt;have hX:=Blk.new w4 73 #[.int .i64 0,.int .u64 0,.slice none 0 0,.slice none 0 0];have rj:=uq.alloc zX;have vN:=wF.alloc zX;have Zc:=Hh uq.psr.holds;have eW:=Hh wF.lt;clear ua vq wR ITH hp E0 uq wF;have Ze:w.heap.size≤w4.heap.size:=Nat.le_of_lt eW.out;have YY:=(Holds.none_of_ge (w:=w4) (H:=H4) (Zc.out) (Nat.le_refl _))
 go_wp2_with (with_reducible refine zx ?_)
 refine stI hX fun w6 kV hg6=>?_
 have vr:=rj.gb YY Ze xA hg6;have tO:=vN.grown hg6 (by intro e;injection e with e;have:=eW.out;omega);have b0:=kV.cell 0 rfl;have b1:=kV.cell 1 rfl;have b2:=kV.cell 2 rfl;have b3:=kV.cell 3 rfl;obtain⟨H7,xp,Vf,Sy⟩:=fz (Grows.refl vr.psr.holds) (ItemsC.one aG) (by simp);have sV:=vr.grown xp;have ug:=tO.alloc (.cells (yf x ja jb jc jd).toArray 73);have fL:=xp.none aL tO.lt;have sZ:=Hh HF.out.n_lt;clear rj vN hX hg6 kV vr tO xp;go_wp2_with (with_reducible refine zx ?_)
 refine stI ug fun wz hTy hgz=>?_
 have wV:=sV.gb fL (Nat.le_refl _) xA hgz;go_wp2_with fail
 refine zo rfl rfl hTy rfl rfl zi rfl ?_
 exact ItemOut.ok E.out rfl (by rw[← Nat.add_assoc];exact wV) (Sy.item 6 (by omega) n sZ.out)
end
def PL.pre (L:List Itm) (k0:Nat):PL→PL
 | .err q=>.err q
 | .ok l k c=>.ok (L++l) (k0+k) c
theorem n9 {p:List UInt8→Nat→PR}{m:Nat}{b:List UInt8}{cc q:Nat}(L:List Itm) (k0:Nat) (h:p b cc=.err q):(uy p (m+1) b cc).pre L k0=.err q:=by rw[uy,h];rfl
theorem l8 {p:List UInt8→Nat→PR}{m:Nat}{b:List UInt8}{cc k c':Nat}{x:Itm}(L:List Itm) (k0:Nat) (h:p b cc=.ok x k c'):(uy p (m+1) b cc).pre L k0=(uy p m (b.drop k) c').pre (L++[x]) (k0+k):=by
 rw[uy,h]
 simp only
 cases uy p m (b.drop k) c' with
 | err q=>rfl
 | ok l k2 c2=>simp[PL.pre,Nat.add_assoc]
theorem iT (r:PL):r.pre [] 0=r:=by cases r <;> simp[PL.pre]
theorem Rdg.snap {T:TypeId}{w w':World}{H H' H'':Snap}{g B:Nat}{A0:Option Addr}{c:Nat}{l:List UInt8}{p cnt:Nat}{A:Option Addr}(h:Rdg T w H w' H' g A0 c l p cnt) (hl:H'.le H'') (hh:Holds w' H'') (hf:∀ b o,H'' b=some o→H' b=some o∨A.map (·.block)=some b)
  (hA:∀ q,A.map (·.block)=some q→B≤q) (hB:w.heap.size≤B) (hg:g<w.heap.size):Rdg T w H w' H'' g A0 c l p cnt:=by
 refine⟨⟨h.grows.grown,h.grows.le.trans hl,hh,fun b o hb=>?_⟩,h.psr.blk,h.psr.bytes.mono hl,hh, ?_,h.psr.le,h.psr.small,h.psr.cnt_le⟩
 ·rcases hf b o hb with h1 | h1
  ·exact h.grows.fresh b o h1
  exact .inr (by have:=hA _ h1;omega)
 cases hx:H'' g with
 | none=>rfl
 | some o =>
 rcases hf g o hx with h1 | h1
 ·rw[h.psr.apart]at h1;cases h1
 have:=hA _ h1;omega
section
variable {d:Nat} {w:World} {H:Snap} {g:Nat} {A:Option Addr} {c:Nat} {l:List UInt8} {p cnt lv:Nat}
theorem dY (ih:mQ d) (hTab:Tabs H) (hlv:lv+(d+1)=8) (hP:Psr 86 w g H A c l p cnt) (hc:cnt<256) {f n k:Nat}(hh:zR (l.drop p)=.ok (f,n,k)) (hk:f/32=4):Calls Tryz.prog 39 #[.pointer (some ⟨g,0,none⟩),.int .i64 (lv:Int)] w (ItemOut 86 w H g A c l p (zc (d+1) (l.drop p) cnt)):=by
 have xA:=hP.gt;have wv:=(Rdg.refl hP).alloc zX;have vR:=Blk.new w 73 #[.int .i64 0,.int .u64 0,.slice none 0 0,.slice none 0 0];have vz:H w.heap.size=none:=hP.holds.none_of_ge (Nat.le_refl _);have c2:=wv.psr.blk.cell 2 rfl;have E0:=Hh (gD d (l.drop p) cnt (by omega) hh hk);have S:(f:Int)/32=4:=by omega
 have XH:¬ ((8:Int)≤(lv:Int)):=by omega
 have KL:IntKind.i64.wrap ((lv:Int)+1)=(lv:Int)+1:=IntWalk.i64_in _ (by omega);have Zh:(lv:Int)≤8:=by omega
 have xN:((cnt:Int)==256)=false:=by simp;omega
 have yG:((cnt:Int)=256)=False:=eq_false (by omega);have KC:IntKind.i64.wrap ((cnt:Int)+1)=(cnt:Int)+1:=IntWalk.i64_in _ (by omega);have HC:=Hh hc;clear hc;go_enter Tryz.func39,Tryz.ntmps39
 go_wp2_with (with_reducible refine zx ?_)
 refine zv rfl _ _ _ rfl rfl g 2 (.int .i64 ((cnt:Int)+1)) rfl rfl _ _ wv.psr.blk yq (by simp) rfl fun w2 xO yw=>?_
 have vS:Rdg 86 w H w2 H g A c l p (cnt+1):=wv.step yw xO hP.le (by have:=HC.out;omega);have tf:=vR.gr yw (by omega);have PH:=Hh (ux vS.psr);clear wv vR xO yw c2 KC xN yG;go_wp2_with fail
 refine PH.out.mono ?_
 intro e w3 hs
 rw[HeadSaid,hh]at hs;obtain⟨rfl,wP,yt⟩:=hs;have HS:=yP hh;have uz:p+k≤l.length:=by have:=HS.le;rw[List.length_drop]at this;have:=hP.le;omega
 have vq:Rdg 86 w H w3 H g A c l (p+k) (cnt+1):=vS.step yt wP uz (by have:=HC.out;omega);have wR:=tf.gr yt (by omega);have HF:=Hh HS;clear vS tf wP yt PH HS hh;rw[List.drop_drop]at E0;have wS:=Blk.new w3 73 #[.int .i64 0,.int .u64 0,.slice none 0 0,.slice none 0 0];have uq:=vq.alloc zX;have wF:=wR.alloc zX;have wo:=Hh wR.lt;have VR:H w3.heap.size=none:=vq.psr.holds.none_of_ge (Nat.le_refl _);clear vq wR;go_wp2_with (with_reducible refine zx ?_)
 refine stI wS fun w4 ct hg4=>?_
 have rj:=uq.gb VR (Nat.le_of_lt wo.out) xA hg4;have vN:=wF.grown hg4 (by intro e;injection e with e;have:=wo.out;omega);clear uq wF wS hg4;obtain⟨X,fX⟩:∃ X,w3.heap.size=X:=⟨_,rfl⟩
 rw[fX]at ct VR wo⊢;clear fX;have WF:=Hh HF.out.n_lt;obtain⟨P,VP⟩:∃ P,p+k=P:=⟨_,rfl⟩
 rw[VP]at rj E0;go_wp2_with fail
 go_loopw [7] (fun v7 wr=>∃ (m:Nat) (Hr:Snap) (VA:Option Addr) (vc vn:Nat) (L:List Itm) (k0 cc:Nat),v7=.int .u64 (m:Int)∧m≤n∧vn=L.length∧Rdg 86 w H wr Hr g A c l (P+k0) cc∧Blk wr w.heap.size 73 #[.int .i64 0,.int .u64 0,.slice none 0 0,.slice none 0 0]∧Hr w.heap.size=none∧
  Blk wr X 73 #[.int .i64 4,.int .u64 0,.slice none 0 0,.slice VA vn vc]∧Hr X=none∧OwnI wr (X+1) (.slice VA vn vc) Hr L∧(∀ q,(Value.slice VA vn vc).ownBlock=some q→Hr q=none)∧L.length≤cc∧
  uy (zc d) n (l.drop P) (cnt+1)=(uy (zc d) m (l.drop (P+k0)) cc).pre L k0) (fun v7 _=>(intOf v7).toNat)
 case atStart=>exact⟨n,H,none,0,0,[],0,cnt+1,rfl,Nat.le_refl _,rfl,rj,vN,vz,ct,VR,OwnI.nil _ _ H,by intro q hq;simp[Value.ownBlock]at hq,by simp,by rw[iT];rfl⟩
 case round =>
 clear rj vN ct;obtain⟨m,Hr,VA,vc,vn,L,k0,cc,rfl,U8,rfl,pM,om,cE,mw,ZY,vC,fM,Xv,mT⟩:=hrel;have qU:=Hh mT;have Zq:=Hh Xv;have Uu:=Hh U8;clear mT Xv U8
 by_cases hm0:0<m
 ·obtain⟨m1,rfl⟩:∃ m1,m=m1+1:=⟨m-1,by omega⟩
  have ar:(0:Int)<((m1+1:Nat):Int):=by omega
  have IT:=ih wr Hr g A c l (P+k0) cc (lv+1) (hTab.mono pM.grows.le) (by omega) pM.psr;rw[show((lv+1:Nat):Int)=(lv:Int)+1 by omega]at IT;have ITH:=Hh IT;have R7:=Hh mw.lt;clear IT;go_wp2_with fail
  refine ITH.out.mono ?_
  intro e w5 hs
  cases hp:zc d (l.drop (P+k0)) cc with
  | err q =>
   rw[hp,ItemOut]at hs;obtain⟨rfl,H5,p5,cnt5,xI⟩:=hs;have ui:((q:Int) != 0)=true:=by rw[bne_iff_ne];have:=yd _ _ _ _ hp;omega
   have kL:((q:Int)=0)=False:=eq_false (by have:=yd _ _ _ _ hp;omega);have E:Hid (zc (d+1) (l.drop p) cnt=.err q):=by rw[Hid,E0.out,qU.out,n9 L k0 hp]
   have vr:=pM.trans xI;have tO:=om.rdg xI (by omega);have ov:=xI.hid cE om.lt;have hY:=Blk.new w5 73 #[.int .i64 0,.int .u64 0,.slice none 0 0,.slice none 0 0];have aj:H5 w5.heap.size=none:=vr.psr.holds.none_of_ge (Nat.le_refl _);have ir:=Hh tO.lt;have sV:=vr.alloc zX;have ug:=tO.alloc zX;clear ITH hp pM xI om mw vC fM qU Zq vr tO;go_wp2_with (with_reducible refine zx ?_)
   refine stI hY fun w8 hY8 hg8=>?_
   have nv:=sV.gb aj (Nat.le_of_lt ir.out) xA hg8;have ml:=ug.grown hg8 (by intro e;injection e with e;have:=ir.out;omega);clear sV ug hY hg8 hY8;go_wp2_with (with_reducible refine zx ?_)
   refine stI ml fun wz hTy hgz=>?_
   have wV:=nv.gb ov (Nat.le_refl _) xA hgz;go_wp2_with fail
   refine zo rfl rfl hTy rfl rfl zi rfl ?_
   exact ItemOut.err E.out rfl wV
  | ok x k' c' =>
  rw[hp,ItemOut]at hs;obtain⟨ja,jb,jc,jd,H5,rfl,xI,WZ⟩:=hs
  have TW:Hid (uy (zc d) n (l.drop P) (cnt+1)=(uy (zc d) m1 (l.drop (P+(k0+k'))) c').pre (L++[x]) (k0+k')):=by
   rw[Hid,qU.out,l8 L k0 hp,List.drop_drop,Nat.add_assoc]
  have Zn:Hid ((L++[x]).length≤c'):=by
   have:=vt d _ _ _ _ _ hp;have:=Zq.out;rw[Hid,List.length_append];simp;omega
  have vr:=pM.trans xI;rw[Nat.add_assoc]at vr;have Y3:=vr.psr.cnt_le;have tO:=om.rdg xI (by omega);have ov:=xI.hid cE om.lt;have kV:=mw.rdg xI (by have:=wo.out;omega);have eZ:=xI.hid ZY mw.lt;have pQ:=(vC.rdg xI (by have:=wo.out;omega)).mono xI.grows.le;have ep:∀ q,(Value.slice VA L.length vc).ownBlock=some q→H5 q=none:=fun q hq=>xI.hid (fM q hq) (vC.lt q hq).2
  have hY:=Blk.new w5 73 #[.int .i64 0,.int .u64 0,.slice none 0 0,.slice none 0 0];have aj:H5 w5.heap.size=none:=vr.psr.holds.none_of_ge (Nat.le_refl _);have ir:=Hh (And.intro tO.lt kV.lt);have fc:=Hh (show ∀ q,(Value.slice VA L.length vc).ownBlock=some q→X+1≤q∧q<w5.heap.size from fun q hq=>pQ.lt q hq);have sV:=vr.alloc zX;have ug:=tO.alloc zX;have Xz:=kV.alloc zX;have wE:=pQ.alloc zX;have ev:=Hh (show L.length≤256 by have:=Zn.out;simp at this;omega);clear ITH hp pM xI om mw vC fM qU Zq vr tO kV pQ;go_wp2_with (with_reducible refine zx ?_)
  refine stI hY fun w8 hY8 hg8=>?_
  have nv:=sV.gb aj (Nat.le_of_lt ir.out.1) xA hg8;have ml:=ug.grown hg8 (by intro e;injection e with e;have:=ir.out.1;omega);have Yd:=Xz.grown hg8 (by intro e;injection e with e;have:=ir.out.2;omega);have fV:=wE.kl hg8 (fun q hv=>by have:=(fc.out q hv).2;omega);have b0:=hY8.cell 0 rfl;have b1:=hY8.cell 1 rfl;have b2:=hY8.cell 2 rfl;have b3:=hY8.cell 3 rfl;have x3:=Yd.cell 3 rfl;have oq:=nv.alloc (.cells (yf x ja jb jc jd).toArray 73);have mp:=ml.alloc (.cells (yf x ja jb jc jd).toArray 73);have nm:=Yd.alloc (.cells (yf x ja jb jc jd).toArray 73);have i4:=fV.alloc (.cells (yf x ja jb jc jd).toArray 73);clear sV ug Xz wE hY hg8 nv ml Yd fV;go_wp2_with (at_builtin;refine zn ?_)
  refine wg rfl (.tmp 159) (.tmp 161) rfl (X+1) (.slice VA L.length vc) H5 _ rfl i4 _ 1 _ (yf x ja jb jc jd) [x] rfl rfl (ItemsC.one WZ) (Src.new _ _ _ _ rfl _ rfl) (by have:=ev.out;simp;omega) nm.lt fun v' w10 hO10 mX hat10=>?_
  obtain⟨VA',vc',rfl,_⟩:=hO10.form;have X9:=mp.grown mX (fun e=>by have:=(fc.out _ e).1;have:=wo.out;omega);have XA:=nm.grown mX (fun e=>by have:=(fc.out _ e).1;omega);have XJ:=qF oq.psr.holds ep hat10;have XE:=oq.grownRow ep (fun q hq=>by have:=(fc.out q hq).1;have:=wo.out;omega) xA mX;obtain⟨L',fA⟩:∃ L',L++[x]=L':=⟨_,rfl⟩
  rw[fA]at hO10 XJ TW Zn⊢;have rM:Hid (L'.length=L.length+1):=by rw[Hid,← fA];simp
  clear fA oq mp nm i4 mX hat10 x3;have Wq:=Hh (show ∀ q,(Value.slice VA' L'.length vc').ownBlock=some q→X+1≤q from fun q hq=>(hO10.lt q hq).1);go_wp2_with (with_reducible refine zx ?_)
  refine zv rfl _ _ _ rfl rfl X 3 _ rfl rfl _ _ XA sn (by simp) rfl fun w11 hX11 hg11=>?_
  have UZ:=XE.gb eZ (Nat.le_of_lt wo.out) xA hg11;have UT:=X9.grown hg11 (by intro e;injection e with e;have:=wo.out;omega)
  have UR:=hO10.kept hg11 (by
   cases hv:(Value.slice VA' L'.length vc').ownBlock with
   | none=>exact .inl rfl
   | some q=>exact .inr (fun e=>by injection e with e;have:=Wq.out q hv;omega))
  have KM:IntKind.u64.wrap (((m1+1:Nat):Int)-1)=(m1:Int):=by rw[show((m1+1:Nat):Int)-1=(m1:Int) by omega,IntKind.wrap_u64];have:=WF.out;have:=Uu.out;omega
  have KM2:IntKind.u64.wrap (m1:Int)=(m1:Int):=by rw[IntKind.wrap_u64];have:=WF.out;have:=Uu.out;omega
  clear XE X9 XA hO10 hg11;go_wp2_with fail
  go_roundw
  case rel=>exact⟨m1,H5,VA',vc',_,L',k0+k',c',by first | rfl | (simp;done) | go_num,by have:=Uu.out;omega,rfl,UZ,UT,ov,hX11,eZ,UR,XJ,Zn.out,TW.out⟩
  case measure=>simp[intOf];try omega
 have hm:m=0:=by omega
 subst hm
 have E1:Hid (zc (d+1) (l.drop p) cnt=.ok (.mk 4 0 [] L) (k+k0) cc):=by
  rw[Hid,E0.out,qU.out,uy];simp[PL.pre]
 obtain⟨H5,dA,Y4,xT,T9,bf,ej,ef⟩:=vC.snap pM.psr.holds (fun q hq=>fM q (nS hq));have wL:∀ q,VA.map (·.block)=some q→X+1≤q:=fun q hq=>(vC.lt q (nS hq)).1
 have Vn:H5 w.heap.size=none:=oS xT cE (fun e=>by have:=wL _ e;have:=wo.out;omega);have vr:Rdg 86 w H wr H5 g A c l (P+k0) cc:=pM.snap (B:=X+1) dA Y4 xT wL (by have:=wo.out;omega) xA;have b0:=mw.cell 0 rfl;have b1:=mw.cell 1 rfl;have b2:=mw.cell 2 rfl;have b3:=mw.cell 3 rfl;have Wa:IsItem H5 none 0 VA vc (.mk 4 0 [] L):=IsRowI.item ⟨bf,ej,ef⟩ 4 (by omega) 0 (by omega);have Rw:=Hh VP;clear vC xT ef Y4 dA cE fM wL pM qU VP;go_wp2_with (with_reducible refine zx ?_)
 refine stI om fun wz hTy hgz=>?_
 have wV:=vr.gb Vn (Nat.le_refl _) xA hgz;go_wp2_with fail
 refine zo rfl rfl hTy rfl rfl zi rfl ?_
 exact ItemOut.ok E1.out rfl (by rw[← Nat.add_assoc,Rw.out];exact wV) Wa
end
section
variable {p:List UInt8→Nat→PR} {m:Nat} {b:List UInt8} {cc q k c1 k2 c2:Nat} {x y:Itm} {last:Option (List UInt8)}
theorem dP (L:List Itm) (k0:Nat) (h:p b cc=.err q):(xo p (m+1) b cc last).pre L k0=.err q:=by rw[xo,h];rfl
theorem lz (L:List Itm) (k0:Nat) (h:p b cc=.ok x k c1) (h2:sP last (b.take k)=some q):(xo p (m+1) b cc last).pre L k0=.err q:=by rw[xo,h];simp only;rw[h2];rfl
theorem ly (L:List Itm) (k0:Nat) (h:p b cc=.ok x k c1) (h2:sP last (b.take k)=none) (h3:p (b.drop k) c1=.err q):(xo p (m+1) b cc last).pre L k0=.err q:=by rw[xo,h];simp only;rw[h2];simp only;rw[h3];rfl
theorem iP (L:List Itm) (k0:Nat) (h:p b cc=.ok x k c1) (h2:sP last (b.take k)=none) (h3:p (b.drop k) c1=.ok y k2 c2):(xo p (m+1) b cc last).pre L k0=(xo p m (b.drop (k+k2)) c2 (some (b.take k))).pre (L++[x,y]) (k0+(k+k2)):=by
 rw[xo,h];simp only;rw[h2];simp only;rw[h3];simp only
 cases xo p m (b.drop (k+k2)) c2 (some (b.take k)) with
 | err q=>rfl
 | ok l k3 c3=>simp[PL.pre,Nat.add_assoc]
end
def pK (r:PL):PR:=match r with
 | .err q=>.err q
 | .ok L k c=>.ok (.mk 5 0 [] L) k c
section
variable {d:Nat} {w:World} {H:Snap} {g:Nat} {A:Option Addr} {c:Nat} {l:List UInt8} {p cnt lv:Nat}
theorem bN (ih:mQ d) (hTab:Tabs H) (hlv:lv+d=8) (hP:Psr 86 w g H A c l p cnt) (Yi:0<l.length) (n:Nat) (hn:n<18446744073709551616):Calls Tryz.prog 51 #[.pointer (some ⟨g,0,none⟩),.int .u64 (n:Int),.int .i64 (lv:Int)] w (ItemOut 86 w H g A c l p (pK (xo (zc d) n (l.drop p) cnt none))):=by
 have xA:=hP.gt;obtain⟨b,off,rfl,tw⟩:=hP.bytes.at_ Yi;have Ri:=Hh tw;have vz:H w.heap.size=none:=hP.holds.none_of_ge (Nat.le_refl _);have ti:H (w.heap.size+1)=none:=hP.holds.none_of_ge (Nat.le_succ _);have wv:=((Rdg.refl hP).alloc zX).alloc zX;have vR:=(Blk.new w 73 #[.int .i64 0,.int .u64 0,.slice none 0 0,.slice none 0 0]).alloc zX;have wS:=Blk.new (w.alloc zX) 73 #[.int .i64 0,.int .u64 0,.slice none 0 0,.slice none 0 0];rw[show(w.alloc zX).heap.size=w.heap.size+1 by simp]at wS;have bV:=Hh (And.intro hP.small (And.intro hP.bytes.le hP.bytes.max));have Qv:=Hh hP.holds;have ce:=Hh hn;have Zh:(lv:Int)≤8:=by omega
 clear tw hn;go_enter Tryz.func51,Tryz.ntmps51
 go_wp2_with (with_reducible refine zx ?_)
 refine stI wS fun w4 ct hg4=>?_
 have rj:=wv.grownRow (row:=some (w.heap.size+1)) (by rintro q ⟨⟩;exact ti) (by rintro q ⟨⟩;exact Nat.le_succ _) xA hg4;have vN:=vR.gr hg4 (by omega);clear wv vR wS hg4;obtain⟨X,fX⟩:∃ X,w.heap.size+1=X:=⟨_,rfl⟩
 have wo:Hid (w.heap.size<X):=by rw[Hid];omega
 rw[fX]at ct ti⊢;clear fX;go_wp2_with fail
 go_loopw [9,10] (fun v9 v10 wr=>∃ (i:Nat) (Hr:Snap) (VA:Option Addr) (vc vn:Nat) (L:List Itm) (k0 cc:Nat) (last:Option (List UInt8)) (KB:Option Addr) (kn kc:Nat),v10=.int .u64 (i:Int)∧v9=.slice KB kn kc∧i≤n∧vn=L.length∧
  ((i=0∧last=none)∨(0<i∧∃ key:List UInt8,last=some key∧kn=key.length∧key.length≤4096∧∀ W,Holds W H→Src W KB (key.map zm)))∧
  Rdg 86 w H wr Hr g (some ⟨b,off,none⟩) c l (p+k0) cc∧Blk wr w.heap.size 73 #[.int .i64 0,.int .u64 0,.slice none 0 0,.slice none 0 0]∧Hr w.heap.size=none∧
  Blk wr X 73 #[.int .i64 5,.int .u64 0,.slice none 0 0,.slice VA vn vc]∧Hr X=none∧OwnI wr (X+1) (.slice VA vn vc) Hr L∧(∀ q,(Value.slice VA vn vc).ownBlock=some q→Hr q=none)∧L.length≤cc∧
  xo (zc d) n (l.drop p) cnt none=(xo (zc d) (n-i) (l.drop (p+k0)) cc last).pre L k0) (fun _ v10 _=>n-(intOf v10).toNat)
 case atStart=>exact⟨0,H,none,0,0,[],0,cnt,none,none,0,0,rfl,rfl,Nat.zero_le _,rfl,.inl ⟨rfl,rfl⟩,rj,vN,vz,ct,ti,OwnI.nil _ _ H,by intro q hq;simp[Value.ownBlock]at hq,by simp,by rw[iT];rfl⟩
 case round =>
 clear rj vN ct;obtain⟨i,Hr,VA,vc,vn,L,k0,cc,last,KB,kn,kc,rfl,rfl,Wb,rfl,rK,pM,om,cE,mw,ZY,vC,fM,Xv,mT⟩:=hrel;have qU:=Hh mT;have Zq:=Hh Xv;have Ro:=Hh Wb;have aW:=Hh rK;clear mT Xv Wb rK
 by_cases ot:i<n
 ·obtain⟨m1,n6⟩:∃ m1,n-i=m1+1:=⟨n-i-1,by omega⟩
  have TS:=Hh (show n-(i+1)=m1 by omega);have sK:Hid (xo (zc d) n (l.drop p) cnt none=(xo (zc d) (m1+1) (l.drop (p+k0)) cc last).pre L k0):=by rw[Hid,qU.out,n6]
  obtain⟨P1,mj⟩:∃ P1,p+k0=P1:=⟨_,rfl⟩
  have bW:=Hh mj;rw[mj]at pM sK;clear mj;have ar:(i:Int)<(n:Int):=by omega
  have ITH:=Hh (ih wr Hr g (some ⟨b,off,none⟩) c l P1 cc lv (hTab.mono pM.grows.le) hlv pM.psr);have a1:=pM.psr.blk.cell 1 rfl;clear n6 qU;go_wp2_with fail
  refine ITH.out.mono ?_
  intro e w5 hs
  cases hp:zc d (l.drop P1) cc with
  | err q =>
   rw[hp,ItemOut]at hs;obtain⟨rfl,H5,p5,cnt5,xI⟩:=hs;have ui:((q:Int) != 0)=true:=by rw[bne_iff_ne];have:=yd _ _ _ _ hp;omega
   have kL:((q:Int)=0)=False:=eq_false (by have:=yd _ _ _ _ hp;omega);have E:Hid (pK (xo (zc d) n (l.drop p) cnt none)=.err q):=by rw[Hid,sK.out,dP L k0 hp];rfl
   have vr:=pM.trans xI;have tO:=om.rdg xI (by omega);have ov:=xI.hid cE om.lt;have hY:=Blk.new w5 73 #[.int .i64 0,.int .u64 0,.slice none 0 0,.slice none 0 0];have aj:H5 w5.heap.size=none:=vr.psr.holds.none_of_ge (Nat.le_refl _);have ir:=Hh tO.lt;have sV:=vr.alloc zX;have ug:=tO.alloc zX;clear ITH hp pM xI om mw vC fM sK Zq vr tO a1;go_wp2_with (with_reducible refine zx ?_)
   refine stI hY fun w8 hY8 hg8=>?_
   have nv:=sV.gb aj (Nat.le_of_lt ir.out) xA hg8;have ml:=ug.grown hg8 (by intro e;injection e with e;have:=ir.out;omega);clear sV ug hY hg8 hY8;go_wp2_with (with_reducible refine zx ?_)
   refine stI ml fun wz hTy hgz=>?_
   have wV:=nv.gb ov (Nat.le_refl _) xA hgz;go_wp2_with fail
   refine zo rfl rfl hTy rfl rfl zi rfl ?_
   exact ItemOut.err E.out rfl wV
  | ok x k c1 =>
  rw[hp,ItemOut]at hs;obtain⟨ja,jb,jc,jd,H5,rfl,xI,WZ⟩:=hs;have TF:=Hh (vt d _ _ _ _ _ hp);have rsp:=pt d _ _ _ _ _ hp;have TC:=rsp.pos;have Ue:=rsp.le;rw[List.length_drop]at Ue;have Wz:=Hh (show k≤l.length by omega);have YN:=Hh hp;obtain⟨key,bd⟩:∃ key,(l.drop P1).take k=key:=⟨_,rfl⟩
  have eN:=Hh bd;have kR:Hid (k=key.length):=by rw[Hid,← bd,List.length_take,List.length_drop];omega
  have Uz:Hid (∀ W,Holds W H→Src W (some ⟨b,off+P1,none⟩) (key.map zm)):=fun W hW=>by
   have h:=ql (w:=W) (n:=k) (fun j hj=>hW.cell (Ri.out j hj)) P1 (some ⟨b,off+P1,none⟩) (fun _=>rfl) (by omega);rw[bd]at h
   exact h
  have vr:=pM.trans xI;have tO:=om.rdg xI (by omega);have ov:=xI.hid cE om.lt;have kV:=mw.rdg xI (by have:=wo.out;omega);have eZ:=xI.hid ZY mw.lt;have pQ:=(vC.rdg xI (by have:=wo.out;omega)).mono xI.grows.le;have ep:∀ q,(Value.slice VA L.length vc).ownBlock=some q→H5 q=none:=fun q hq=>xI.hid (fM q hq) (vC.lt q hq).2
  have hY:=Blk.new w5 73 #[.int .i64 0,.int .u64 0,.slice none 0 0,.slice none 0 0];have aj:H5 w5.heap.size=none:=vr.psr.holds.none_of_ge (Nat.le_refl _);have ir:=Hh (And.intro tO.lt kV.lt);have VS:=Hh (show g<w5.heap.size from vr.psr.gt);have fc:=Hh (show ∀ q,(Value.slice VA L.length vc).ownBlock=some q→X+1≤q∧q<w5.heap.size from fun q hq=>pQ.lt q hq);have sV:=vr.alloc zX;have ug:=tO.alloc zX;have Xz:=kV.alloc zX;have wE:=pQ.alloc zX;clear ITH hp pM xI om mw vC fM vr tO kV pQ a1 rsp bd;go_wp2_with (with_reducible refine zx ?_)
  refine stI hY fun w8 hY8 hg8=>?_
  have nv:=sV.gb aj (Nat.le_of_lt ir.out.1) xA hg8;have ml:=ug.grown hg8 (by intro e;injection e with e;have:=ir.out.1;omega);have Yd:=Xz.grown hg8 (by intro e;injection e with e;have:=ir.out.2;omega);have fV:=wE.kl hg8 (fun q hv=>by have:=(fc.out q hv).2;omega);obtain⟨Y1,SY⟩:∃ Y1,w5.heap.size=Y1:=⟨_,rfl⟩
  rw[SY]at hY8 ir VS aj⊢;have a0:=nv.psr.blk.cell 0 rfl;have a1:=nv.psr.blk.cell 1 rfl;have s1:(P1:Int)≤((P1+k:Nat):Int):=by omega
  have s2:((P1+k:Nat):Int)≤(c:Int):=by have:=bV.out.2.1;omega
  have s3:(P1:Int)≤(c:Int):=by omega
  have s4:(0:Int)≤(P1:Int):=by omega
  have s5:(c=P1)=False:=eq_false (by have:=bV.out.2.1;omega);have s6:P1+k-P1=k:=by omega
  have s7:((P1+k:Nat):Int).toNat=P1+k:=by omega
  clear sV ug Xz wE hY hg8;go_wp2_with fail
  go_big_quiet (fail)
  have Zd:=nv.drewN nq;have ZV:Blk (w8.drewN nq) w.heap.size 73 #[.int .i64 0,.int .u64 0,.slice none 0 0,.slice none 0 0]:=ml;have ZX:Blk (w8.drewN nq) X 73 #[.int .i64 5,.int .u64 0,.slice none 0 0,.slice VA L.length vc]:=Yd;have ZZ:Blk (w8.drewN nq) Y1 73 #[.int .i64 x.kind,.int .u64 x.n,.slice ja x.bytes.length jb,.slice jc x.items.length jd]:=hY8;have ZS:OwnI (w8.drewN nq) (X+1) (.slice VA L.length vc) H5 L:=fV
  generalize w8.drewN nq=w9 at Zd ZV ZX ZZ ZS⊢
  obtain⟨oq,mp,nm,cu,i4⟩:=And.intro Zd (And.intro ZV (And.intro ZX (And.intro ZZ ZS)));clear Zd ZV ZX ZZ ZS nv ml Yd hY8 fV a0 a1 s1 s2 s3 s4 s5 s6 s7;have bz:Holds w9 H:=oq.psr.holds.mono oq.grows.le
  rcases aW.out with ⟨hiz,rfl⟩ | ⟨hi,lk,rfl,fY,ku,YG⟩
  ·have bt:Hid (sP none ((l.drop P1).take k)=none):=rfl;have Ua:¬ ((0:Int)<(i:Int)):=by omega
   clear hiz;have a0:=bz;have a1:=bz;have ITH2:=Hh (ih w9 H5 g (some ⟨b,off,none⟩) c l (P1+k) c1 lv (hTab.mono oq.grows.le) hlv oq.psr);clear a0 a1;go_wp2_with fail
   refine ITH2.out.mono ?_
   intro e w12 hs
   cases sd:zc d (l.drop (P1+k)) c1 with
   | err q =>
    rw[sd,ItemOut]at hs;obtain⟨rfl,H6,p6,cnt6,xa⟩:=hs;have ui:((q:Int) != 0)=true:=by rw[bne_iff_ne];have:=yd _ _ _ _ sd;omega
    have kL:((q:Int)=0)=False:=eq_false (by have:=yd _ _ _ _ sd;omega);have E:Hid (pK (xo (zc d) n (l.drop p) cnt none)=.err q):=by rw[Hid,sK.out,ly L k0 YN.out bt.out (by rw[List.drop_drop];exact sd)];rfl
    have uE:=oq.trans xa;have sx:=mp.rdg xa (by omega);have kF:=xa.hid ov mp.lt;have hZ:=Blk.new w12 73 #[.int .i64 0,.int .u64 0,.slice none 0 0,.slice none 0 0];have aD:H6 w12.heap.size=none:=uE.psr.holds.none_of_ge (Nat.le_refl _);have sz:=Hh sx.lt;have qY:=uE.alloc zX;have qV:=sx.alloc zX;clear ITH2 sd xa uE sx oq mp nm cu i4;go_wp2_with (with_reducible refine zx ?_)
    refine stI hZ fun w15 hZ15 hg15=>?_
    have nc:=qY.gb aD (Nat.le_of_lt sz.out) xA hg15;have nZ:=qV.grown hg15 (by intro e;injection e with e;have:=sz.out;omega);clear qY qV hZ hg15 hZ15;go_wp2_with (with_reducible refine zx ?_)
    refine stI nZ fun wz hTy hgz=>?_
    have wV:=nc.gb kF (Nat.le_refl _) xA hgz;go_wp2_with fail
    refine zo rfl rfl hTy rfl rfl zi rfl ?_
    exact ItemOut.err E.out rfl wV
   | ok y k2 c2 =>
   rw[sd,ItemOut]at hs;obtain⟨ka,kb,kd,ke,H6,rfl,xa,pS⟩:=hs
   have Xd:Hid (xo (zc d) n (l.drop p) cnt none=(xo (zc d) m1 (l.drop (p+(k0+(k+k2)))) c2 (some key)).pre (L++[x,y]) (k0+(k+k2))):=by
    rw[Hid,sK.out,iP L k0 YN.out bt.out (by rw[List.drop_drop];exact sd),eN.out,List.drop_drop,← bW.out];rw[show p+k0+(k+k2)=p+(k0+(k+k2)) by omega]
   have Zp:Hid ((L++[x,y]).length≤c2):=by
    have h1:=TF.out;have h2:=vt d _ _ _ _ _ sd;have:=Zq.out;rw[Hid,List.length_append];simp;omega
   have uE:=oq.trans xa;have UW:=uE.psr.cnt_le;have sx:=mp.rdg xa (by omega);have kF:=xa.hid ov mp.lt;have jz:=nm.rdg xa (by have:=wo.out;omega);have mR:=xa.hid eZ nm.lt;have k6:=cu.rdg xa (by have:=VS.out;omega);have jw:=(i4.rdg xa (by have:=wo.out;omega)).mono xa.grows.le;have mS:∀ q,(Value.slice VA L.length vc).ownBlock=some q→H6 q=none:=fun q hq=>xa.hid (ep q hq) (i4.lt q hq).2
   have hZ:=Blk.new w12 73 #[.int .i64 0,.int .u64 0,.slice none 0 0,.slice none 0 0];have aD:H6 w12.heap.size=none:=uE.psr.holds.none_of_ge (Nat.le_refl _);have sz:=Hh (And.intro sx.lt (And.intro jz.lt k6.lt));have nd:=Hh (show ∀ q,(Value.slice VA L.length vc).ownBlock=some q→X+1≤q∧q<w12.heap.size from fun q hq=>jw.lt q hq);have qY:=uE.alloc zX;have qV:=sx.alloc zX;have eX:=jz.alloc zX;have ea:=k6.alloc zX;have eQ:=jw.alloc zX;have ev:=Hh (show L.length≤256 by have:=Zp.out;simp at this;omega);have Vc:ItemsC H6 (yf x ja jb jc jd++yf y ka kb kd ke) [x,y]:=(ItemsC.one (WZ.mono xa.grows.le)).app (ItemsC.one pS);clear ITH2 sd xa uE sx jz k6 jw oq mp nm cu i4;go_wp2_with (with_reducible refine zx ?_)
   refine stI hZ fun w15 hZ15 hg15=>?_
   have nc:=qY.gb aD (Nat.le_of_lt sz.out.1) xA hg15;have nZ:=qV.grown hg15 (by intro e;injection e with e;have:=sz.out.1;omega);have k4:=eX.grown hg15 (by intro e;injection e with e;have:=sz.out.2.1;omega);have qW:=ea.grown hg15 (by intro e;injection e with e;have:=sz.out.2.2;omega);have eR:=eQ.kl hg15 (fun q hv=>by have:=(nd.out q hv).2;omega);have b0:=hZ15.cell 0 rfl;have b1:=hZ15.cell 1 rfl;have b2:=hZ15.cell 2 rfl;have b3:=hZ15.cell 3 rfl;have y0:=qW.cell 0 rfl;have y1:=qW.cell 1 rfl;have y2:=qW.cell 2 rfl;have y3:=qW.cell 3 rfl;have x3:=k4.cell 3 rfl;have kB:=nc.alloc (.cells (yf x ja jb jc jd++yf y ka kb kd ke).toArray 73);have eU:=nZ.alloc (.cells (yf x ja jb jc jd++yf y ka kb kd ke).toArray 73);have k5:=k4.alloc (.cells (yf x ja jb jc jd++yf y ka kb kd ke).toArray 73)
   have eS:=eR.alloc (.cells (yf x ja jb jc jd++yf y ka kb kd ke).toArray 73);clear qY qV eX ea eQ hZ hg15 nc nZ k4 qW eR;go_wp2_with (at_builtin;refine zn ?_)
   refine wg rfl (.tmp 72) (.tmp 75) rfl (X+1) (.slice VA L.length vc) H6 _ rfl eS _ 2 _ (yf x ja jb jc jd++yf y ka kb kd ke) [x,y] rfl rfl Vc (Src.new _ _ _ _ rfl _ rfl) (by have:=ev.out;simp;omega) k5.lt fun v' w17 hO17 hg17 hat17=>?_
   obtain⟨VA',vc',rfl,_⟩:=hO17.form;have eV:=eU.grown hg17 (fun e=>by have:=(nd.out _ e).1;have:=wo.out;omega);have eY:=k5.grown hg17 (fun e=>by have:=(nd.out _ e).1;omega);have em:=qF kB.psr.holds mS hat17;have ed:=kB.grownRow mS (fun q hq=>by have:=(nd.out q hq).1;have:=wo.out;omega) xA hg17;obtain⟨L',fA⟩:∃ L',L++[x,y]=L':=⟨_,rfl⟩
   rw[fA]at hO17 em Xd Zp⊢;have rM:Hid (L'.length=L.length+2):=by rw[Hid,← fA];simp
   clear fA kB eU k5 eS hg17 hat17 x3 y0 y1 y2 y3 b0 b1 b2 b3 hZ15;have eJ:=Hh (show ∀ q,(Value.slice VA' L'.length vc').ownBlock=some q→X+1≤q from fun q hq=>(hO17.lt q hq).1);go_wp2_with (with_reducible refine zx ?_)
   refine zv rfl _ _ _ rfl rfl X 3 _ rfl rfl _ _ eY sn (by simp) rfl fun w18 hX18 hg18=>?_
   have ee:=ed.gb mR (Nat.le_of_lt wo.out) xA hg18;have ZU:=eV.grown hg18 (by intro e;injection e with e;have:=wo.out;omega)
   have ZR:=hO17.kept hg18 (by
    cases hv:(Value.slice VA' L'.length vc').ownBlock with
    | none=>exact .inl rfl
    | some q=>exact .inr (fun e=>by injection e with e;have:=eJ.out q hv;omega))
   have KI:IntKind.u64.wrap ((i:Int)+1)=(i:Int)+1:=by rw[IntKind.wrap_u64];have:=ce.out;omega
   rw[show P1+k+k2=p+(k0+(k+k2)) by have:=bW.out;omega]at ee;have el:=Hh ar;clear ed eV eY hO17 hg18 ar;go_wp2_with fail
   go_roundw
   case rel=>exact⟨i+1,H6,VA',vc',_,L',k0+(k+k2),c2,some key,_,_,_,by first | rfl | (simp;done) | go_num,rfl,by have:=el.out;omega,rfl,.inr ⟨by omega,key,rfl,kR.out,by have:=bV.out.1;have:=Wz.out;have:=kR.out;omega,Uz.out⟩,ee,ZU,kF,hX18,mR,ZR,em,Zp.out,by rw[TS.out];exact Xd.out⟩
   case measure=>have:=el.out;simp[intOf];omega
  have Ua:(0:Int)<(i:Int):=by omega
  have CM:=Hh (oy w9 (some ⟨b,off+P1,none⟩) KB key lk k kn (c-P1) kc kR.out fY (Uz.out w9 bz) (YG w9 bz));obtain⟨q,hq⟩:∃ q,Lib.compareBytes key lk=q:=⟨_,rfl⟩
  rw[hq]at CM;have HQ:=Hh hq;clear fY ku YG hq;have a0:=bz;have a1:=bz
  by_cases ui:q=0
  ·subst ui;have bt:Hid (sP (some lk) ((l.drop P1).take k)=some 7):=by rw[Hid,eN.out,sP];rw[if_pos HQ.out]
   go_wp2_with fail
   refine CM.out.mono ?_
   rintro e w10 ⟨rfl,rfl⟩
   have E:Hid (pK (xo (zc d) n (l.drop p) cnt none)=.err 7):=by rw[Hid,sK.out,lz L k0 YN.out bt.out];rfl
   go_wp2_with (with_reducible refine zx ?_)
   refine stI mp fun wz hTy hgz=>?_
   have wV:=oq.gb ov (Nat.le_refl _) xA hgz;go_wp2_with fail
   refine zo rfl rfl hTy rfl rfl zi rfl ?_
   exact ItemOut.err (q:=7) E.out rfl wV
  have t0:(q==0)=false:=by simpa using ui
  have t0':(q=0)=False:=eq_false ui
  by_cases j5:q<0
  ·have bt:Hid (sP (some lk) ((l.drop P1).take k)=some 6):=by rw[Hid,eN.out,sP];rw[HQ.out,if_neg ui,if_pos j5]
   go_wp2_with fail
   refine CM.out.mono ?_
   rintro e w10 ⟨rfl,rfl⟩
   have E:Hid (pK (xo (zc d) n (l.drop p) cnt none)=.err 6):=by rw[Hid,sK.out,lz L k0 YN.out bt.out];rfl
   go_wp2_with (with_reducible refine zx ?_)
   refine stI mp fun wz hTy hgz=>?_
   have wV:=oq.gb ov (Nat.le_refl _) xA hgz;go_wp2_with fail
   refine zo rfl rfl hTy rfl rfl zi rfl ?_
   exact ItemOut.err (q:=6) E.out rfl wV
  have bt:Hid (sP (some lk) ((l.drop P1).take k)=none):=by rw[Hid,eN.out,sP];rw[HQ.out,if_neg ui,if_neg j5]
  go_wp2_with fail
  refine CM.out.mono ?_
  rintro e w10 ⟨rfl,rfl⟩
  have ITH2:=Hh (ih w9 H5 g (some ⟨b,off,none⟩) c l (P1+k) c1 lv (hTab.mono oq.grows.le) hlv oq.psr);clear a0 a1;go_wp2_with fail
  refine ITH2.out.mono ?_
  intro e w12 hs
  cases sd:zc d (l.drop (P1+k)) c1 with
  | err q =>
   rw[sd,ItemOut]at hs;obtain⟨rfl,H6,p6,cnt6,xa⟩:=hs;have ui:((q:Int) != 0)=true:=by rw[bne_iff_ne];have:=yd _ _ _ _ sd;omega
   have kL:((q:Int)=0)=False:=eq_false (by have:=yd _ _ _ _ sd;omega);have E:Hid (pK (xo (zc d) n (l.drop p) cnt none)=.err q):=by rw[Hid,sK.out,ly L k0 YN.out bt.out (by rw[List.drop_drop];exact sd)];rfl
   have uE:=oq.trans xa;have sx:=mp.rdg xa (by omega);have kF:=xa.hid ov mp.lt;have hZ:=Blk.new w12 73 #[.int .i64 0,.int .u64 0,.slice none 0 0,.slice none 0 0];have aD:H6 w12.heap.size=none:=uE.psr.holds.none_of_ge (Nat.le_refl _);have sz:=Hh sx.lt;have qY:=uE.alloc zX;have qV:=sx.alloc zX;clear ITH2 sd xa uE sx oq mp nm cu i4;go_wp2_with (with_reducible refine zx ?_)
   refine stI hZ fun w15 hZ15 hg15=>?_
   have nc:=qY.gb aD (Nat.le_of_lt sz.out) xA hg15;have nZ:=qV.grown hg15 (by intro e;injection e with e;have:=sz.out;omega);clear qY qV hZ hg15 hZ15;go_wp2_with (with_reducible refine zx ?_)
   refine stI nZ fun wz hTy hgz=>?_
   have wV:=nc.gb kF (Nat.le_refl _) xA hgz;go_wp2_with fail
   refine zo rfl rfl hTy rfl rfl zi rfl ?_
   exact ItemOut.err E.out rfl wV
  | ok y k2 c2 =>
  rw[sd,ItemOut]at hs;obtain⟨ka,kb,kd,ke,H6,rfl,xa,pS⟩:=hs
  have Xd:Hid (xo (zc d) n (l.drop p) cnt none=(xo (zc d) m1 (l.drop (p+(k0+(k+k2)))) c2 (some key)).pre (L++[x,y]) (k0+(k+k2))):=by
   rw[Hid,sK.out,iP L k0 YN.out bt.out (by rw[List.drop_drop];exact sd),eN.out,List.drop_drop,← bW.out];rw[show p+k0+(k+k2)=p+(k0+(k+k2)) by omega]
  have Zp:Hid ((L++[x,y]).length≤c2):=by
   have h1:=TF.out;have h2:=vt d _ _ _ _ _ sd;have:=Zq.out;rw[Hid,List.length_append];simp;omega
  have uE:=oq.trans xa;have UW:=uE.psr.cnt_le;have sx:=mp.rdg xa (by omega);have kF:=xa.hid ov mp.lt;have jz:=nm.rdg xa (by have:=wo.out;omega);have mR:=xa.hid eZ nm.lt;have k6:=cu.rdg xa (by have:=VS.out;omega);have jw:=(i4.rdg xa (by have:=wo.out;omega)).mono xa.grows.le;have mS:∀ q,(Value.slice VA L.length vc).ownBlock=some q→H6 q=none:=fun q hq=>xa.hid (ep q hq) (i4.lt q hq).2
  have hZ:=Blk.new w12 73 #[.int .i64 0,.int .u64 0,.slice none 0 0,.slice none 0 0];have aD:H6 w12.heap.size=none:=uE.psr.holds.none_of_ge (Nat.le_refl _);have sz:=Hh (And.intro sx.lt (And.intro jz.lt k6.lt));have nd:=Hh (show ∀ q,(Value.slice VA L.length vc).ownBlock=some q→X+1≤q∧q<w12.heap.size from fun q hq=>jw.lt q hq);have qY:=uE.alloc zX;have qV:=sx.alloc zX;have eX:=jz.alloc zX;have ea:=k6.alloc zX;have eQ:=jw.alloc zX;have ev:=Hh (show L.length≤256 by have:=Zp.out;simp at this;omega);have Vc:ItemsC H6 (yf x ja jb jc jd++yf y ka kb kd ke) [x,y]:=(ItemsC.one (WZ.mono xa.grows.le)).app (ItemsC.one pS);clear ITH2 sd xa uE sx jz k6 jw oq mp nm cu i4;go_wp2_with (with_reducible refine zx ?_)
  refine stI hZ fun w15 hZ15 hg15=>?_
  have nc:=qY.gb aD (Nat.le_of_lt sz.out.1) xA hg15;have nZ:=qV.grown hg15 (by intro e;injection e with e;have:=sz.out.1;omega);have k4:=eX.grown hg15 (by intro e;injection e with e;have:=sz.out.2.1;omega);have qW:=ea.grown hg15 (by intro e;injection e with e;have:=sz.out.2.2;omega);have eR:=eQ.kl hg15 (fun q hv=>by have:=(nd.out q hv).2;omega);have b0:=hZ15.cell 0 rfl;have b1:=hZ15.cell 1 rfl;have b2:=hZ15.cell 2 rfl;have b3:=hZ15.cell 3 rfl;have y0:=qW.cell 0 rfl;have y1:=qW.cell 1 rfl;have y2:=qW.cell 2 rfl;have y3:=qW.cell 3 rfl;have x3:=k4.cell 3 rfl;have kB:=nc.alloc (.cells (yf x ja jb jc jd++yf y ka kb kd ke).toArray 73);have eU:=nZ.alloc (.cells (yf x ja jb jc jd++yf y ka kb kd ke).toArray 73);have k5:=k4.alloc (.cells (yf x ja jb jc jd++yf y ka kb kd ke).toArray 73)
  have eS:=eR.alloc (.cells (yf x ja jb jc jd++yf y ka kb kd ke).toArray 73);clear qY qV eX ea eQ hZ hg15 nc nZ k4 qW eR;go_wp2_with (at_builtin;refine zn ?_)
  refine wg rfl (.tmp 72) (.tmp 75) rfl (X+1) (.slice VA L.length vc) H6 _ rfl eS _ 2 _ (yf x ja jb jc jd++yf y ka kb kd ke) [x,y] rfl rfl Vc (Src.new _ _ _ _ rfl _ rfl) (by have:=ev.out;simp;omega) k5.lt fun v' w17 hO17 hg17 hat17=>?_
  obtain⟨VA',vc',rfl,_⟩:=hO17.form;have eV:=eU.grown hg17 (fun e=>by have:=(nd.out _ e).1;have:=wo.out;omega);have eY:=k5.grown hg17 (fun e=>by have:=(nd.out _ e).1;omega);have em:=qF kB.psr.holds mS hat17;have ed:=kB.grownRow mS (fun q hq=>by have:=(nd.out q hq).1;have:=wo.out;omega) xA hg17;obtain⟨L',fA⟩:∃ L',L++[x,y]=L':=⟨_,rfl⟩
  rw[fA]at hO17 em Xd Zp⊢;have rM:Hid (L'.length=L.length+2):=by rw[Hid,← fA];simp
  clear fA kB eU k5 eS hg17 hat17 x3 y0 y1 y2 y3 b0 b1 b2 b3 hZ15;have eJ:=Hh (show ∀ q,(Value.slice VA' L'.length vc').ownBlock=some q→X+1≤q from fun q hq=>(hO17.lt q hq).1);go_wp2_with (with_reducible refine zx ?_)
  refine zv rfl _ _ _ rfl rfl X 3 _ rfl rfl _ _ eY sn (by simp) rfl fun w18 hX18 hg18=>?_
  have ee:=ed.gb mR (Nat.le_of_lt wo.out) xA hg18;have ZU:=eV.grown hg18 (by intro e;injection e with e;have:=wo.out;omega)
  have ZR:=hO17.kept hg18 (by
   cases hv:(Value.slice VA' L'.length vc').ownBlock with
   | none=>exact .inl rfl
   | some q=>exact .inr (fun e=>by injection e with e;have:=eJ.out q hv;omega))
  have KI:IntKind.u64.wrap ((i:Int)+1)=(i:Int)+1:=by rw[IntKind.wrap_u64];have:=ce.out;omega
  rw[show P1+k+k2=p+(k0+(k+k2)) by have:=bW.out;omega]at ee;have el:=Hh ar;clear ed eV eY hO17 hg18 ar;go_wp2_with fail
  go_roundw
  case rel=>exact⟨i+1,H6,VA',vc',_,L',k0+(k+k2),c2,some key,_,_,_,by first | rfl | (simp;done) | go_num,rfl,by have:=el.out;omega,rfl,.inr ⟨by omega,key,rfl,kR.out,by have:=bV.out.1;have:=Wz.out;have:=kR.out;omega,Uz.out⟩,ee,ZU,kF,hX18,mR,ZR,em,Zp.out,by rw[TS.out];exact Xd.out⟩
  case measure=>have:=el.out;simp[intOf];omega
 have hm:i=n:=by have:=Ro.out;omega
 subst hm;have RX:¬ ((i:Int)<(i:Int)):=by omega
 have E1:Hid (pK (xo (zc d) i (l.drop p) cnt none)=.ok (.mk 5 0 [] L) k0 cc):=by
  rw[Hid,qU.out,Nat.sub_self,xo];simp[PL.pre,pK]
 obtain⟨H5,dA,Y4,xT,T9,bf,ej,ef⟩:=vC.snap pM.psr.holds (fun q hq=>fM q (nS hq));have wL:∀ q,VA.map (·.block)=some q→X+1≤q:=fun q hq=>(vC.lt q (nS hq)).1
 have Vn:H5 w.heap.size=none:=oS xT cE (fun e=>by have:=wL _ e;have:=wo.out;omega);have vr:Rdg 86 w H wr H5 g (some ⟨b,off,none⟩) c l (p+k0) cc:=pM.snap (B:=X+1) dA Y4 xT wL (by have:=wo.out;omega) xA;have b0:=mw.cell 0 rfl;have b1:=mw.cell 1 rfl;have b2:=mw.cell 2 rfl;have b3:=mw.cell 3 rfl;have Wa:IsItem H5 none 0 VA vc (.mk 5 0 [] L):=IsRowI.item ⟨bf,ej,ef⟩ 5 (by omega) 0 (by omega);clear vC xT ef Y4 dA cE fM wL pM qU aW;go_wp2_with (with_reducible refine zx ?_)
 refine stI om fun wz hTy hgz=>?_
 have wV:=vr.gb Vn (Nat.le_refl _) xA hgz;go_wp2_with fail
 refine zo rfl rfl hTy rfl rfl zi rfl ?_
 exact ItemOut.ok E1.out rfl wV Wa
end
section
variable {d:Nat} {w:World} {H:Snap} {g:Nat} {A:Option Addr} {c:Nat} {l:List UInt8} {p cnt lv:Nat}
theorem dZ (ih:mQ d) (hTab:Tabs H) (hlv:lv+(d+1)=8) (hP:Psr 86 w g H A c l p cnt) (hc:cnt<256) {f n k:Nat}(hh:zR (l.drop p)=.ok (f,n,k)) (hk:f/32=5):Calls Tryz.prog 39 #[.pointer (some ⟨g,0,none⟩),.int .i64 (lv:Int)] w (ItemOut 86 w H g A c l p (zc (d+1) (l.drop p) cnt)):=by
 have xA:=hP.gt;have wv:=(Rdg.refl hP).alloc zX;have vR:=Blk.new w 73 #[.int .i64 0,.int .u64 0,.slice none 0 0,.slice none 0 0];have vz:H w.heap.size=none:=hP.holds.none_of_ge (Nat.le_refl _);have c2:=wv.psr.blk.cell 2 rfl;have E0:=Hh (gE d (l.drop p) cnt (by omega) hh hk);have S:(f:Int)/32=5:=by omega
 have XH:¬ ((8:Int)≤(lv:Int)):=by omega
 have KL:IntKind.i64.wrap ((lv:Int)+1)=(lv:Int)+1:=IntWalk.i64_in _ (by omega);have Zh:(lv:Int)≤8:=by omega
 have xN:((cnt:Int)==256)=false:=by simp;omega
 have yG:((cnt:Int)=256)=False:=eq_false (by omega);have KC:IntKind.i64.wrap ((cnt:Int)+1)=(cnt:Int)+1:=IntWalk.i64_in _ (by omega);have HC:=Hh hc;clear hc;go_enter Tryz.func39,Tryz.ntmps39
 go_wp2_with (with_reducible refine zx ?_)
 refine zv rfl _ _ _ rfl rfl g 2 (.int .i64 ((cnt:Int)+1)) rfl rfl _ _ wv.psr.blk yq (by simp) rfl fun w2 xO yw=>?_
 have vS:Rdg 86 w H w2 H g A c l p (cnt+1):=wv.step yw xO hP.le (by have:=HC.out;omega);have tf:=vR.gr yw (by omega);have PH:=Hh (ux vS.psr);clear wv vR xO yw c2 KC xN yG;go_wp2_with fail
 refine PH.out.mono ?_
 intro e w3 hs
 rw[HeadSaid,hh]at hs;obtain⟨rfl,wP,yt⟩:=hs;have HS:=yP hh;have uz:p+k≤l.length:=by have:=HS.le;rw[List.length_drop]at this;have:=hP.le;omega
 have vq:Rdg 86 w H w3 H g A c l (p+k) (cnt+1):=vS.step yt wP uz (by have:=HC.out;omega);have wR:=tf.gr yt (by omega);have HF:=Hh HS;clear vS tf wP yt PH HS hh;rw[List.drop_drop]at E0;have nf:=HF.out.pos;have PR_:=bN (lv:=lv+1) ih hTab (by omega) vq.psr (by omega) n HF.out.n_lt;rw[show((lv+1:Nat):Int)=(lv:Int)+1 by omega]at PR_;have PRH:=Hh PR_;clear PR_ nf;go_wp2_with fail
 refine PRH.out.mono ?_
 intro e w4 hs
 cases hp:xo (zc d) n (l.drop (p+k)) (cnt+1) none with
 | err q =>
  rw[hp,pK,ItemOut]at hs;obtain⟨rfl,H4,p4,cnt4,ua⟩:=hs;have E:Hid (zc (d+1) (l.drop p) cnt=.err q):=by rw[Hid,E0.out,hp]
  have uq:=vq.trans ua;have wF:=wR.rdg ua (by omega);have aL:=ua.hid vz wR.lt;clear ua vq wR PRH hp E0;go_wp2_with (with_reducible refine zx ?_)
  refine stI wF fun wz hTy hgz=>?_
  have wV:=uq.gb aL (Nat.le_refl _) xA hgz;go_wp2_with fail
  refine zo rfl rfl hTy rfl rfl zi rfl ?_
  exact ItemOut.err E.out rfl wV
 | ok L k' c' =>
 rw[hp,pK,ItemOut]at hs;obtain⟨ja,jb,jc,jd,H4,rfl,ua,aG⟩:=hs;have E:Hid (zc (d+1) (l.drop p) cnt=.ok (.mk 5 0 [] L) (k+k') c'):=by rw[Hid,E0.out,hp]
 have uq:=vq.trans ua;have wF:=wR.rdg ua (by omega);have aL:=ua.hid vz wR.lt;obtain⟨X5,Tz⟩:∃ X,Itm.mk 5 0 [] L=X:=⟨_,rfl⟩
 rw[Tz]at aG E⊢;clear ua vq wR PRH hp E0 Tz;go_wp2_with (with_reducible refine zx ?_)
 refine stI wF fun wz hTy hgz=>?_
 have wV:=uq.gb aL (Nat.le_refl _) xA hgz;go_wp2_with fail
 refine zo rfl rfl hTy rfl rfl zi rfl ?_
 exact ItemOut.ok E.out rfl (by rw[← Nat.add_assoc];exact wV) aG
end
theorem ZC:∀ d:Nat,mQ d:=by
 intro d
 induction d using Nat.strongRecOn with
 | _ d ih =>
 intro w H g A c l p cnt lv hTab hlv hP
 by_cases hc:cnt=256
 ·exact lO hTab hlv hP hc
 have hc:cnt<256:=by have:=hP.cnt_le;omega
 cases hh:zR (l.drop p) with
 | error q=>exact lP hTab hlv hP hc hh
 | ok r =>
 obtain⟨f,n,k⟩:=r;have hf:=(yP hh).f_lt
 rcases(by omega:f/32=0∨f/32=1∨f/32=2∨f/32=3∨f/32=7∨(4≤f/32∧f/32≤6)) with hk | hk | hk | hk | hk | hk
 ·exact dU hTab hlv hP hc hh hk
 ·exact dV hTab hlv hP hc hh hk
 ·exact dW hTab hlv hP hc hh hk
 ·exact dX hTab hlv hP hc hh hk
 ·exact db hTab hlv hP hc hh hk
 cases d with
 | zero=>exact lN hTab (by omega) hP hc hh hk.1 hk.2
 | succ d =>
 have ihd:=ih d (by omega)
 rcases(by omega:f/32=4∨f/32=5∨f/32=6) with h4 | h5 | h6
 ·exact dY ihd hTab hlv hP hc hh h4
 ·exact dZ ihd hTab hlv hP hc hh h5
 exact da ihd hTab hlv hP hc hh h6
end Go.Proofs.YtnfoilblmhbobaaGreatDoor
