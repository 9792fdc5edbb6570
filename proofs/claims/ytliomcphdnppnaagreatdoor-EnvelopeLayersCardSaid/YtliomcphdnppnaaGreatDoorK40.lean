/- squeezed. What a sort of pairs gives, whatev -/
import Derived.Test.YtliomcphdnppnaaGreatDoorK39
import Derived.Shelf.SlSortFuncK.WholeK
import Derived.Shelf.GgSortFunc.Tiny
import Derived.Test.YtliomcphdnppnaaGreatDoorK37
set_option linter.unusedVariables false
set_option linter.unusedSimpArgs false
set_option maxRecDepth 100000
set_option maxHeartbeats 25600000
namespace Go.Proofs.YtliomcphdnppnaaGreatDoor
open Go.RowKit
theorem YP {α:Type}[Inhabited α] (k:α→List UInt8) (d d':Array α) (hn:d.toList.Pairwise fun a b=>k a≠k b) (Tr:Go.Sort.PermIn 0 d.size d d') (hs:Go.Sort.SortedIn (fun a b=>decide (Lib.compareBytes (k a) (k b)<0)) 0 d.size d') :
  d'.toList.Perm d.toList∧Asc k d'.toList:=by
 obtain⟨iu,_,hp⟩:=Tr
 have sS:d'.toList.Perm d.toList:=by
  have e1:(d'.extract 0 d.size)=d':=by rw[← iu];simp
  have e2:(d.extract 0 d.size)=d:=by simp
  rw[e1,e2]at hp
  exact hp
 refine⟨sS, ?_⟩
 have Tp:d'.toList.Pairwise fun a b=>k a≠k b:=(sS.pairwise_iff (fun h=>Ne.symm h)).2 hn
 unfold Asc
 rw[List.pairwise_iff_getElem]at Tp⊢
 intro i j hi hj OJ
 have h1:=Tp i j hi hj OJ;have h2:=hs i j (Nat.zero_le _) OJ (by simp at hj;omega)
 simp only[decide_eq_false_iff_not]at h2
 rw[getElem!_pos d' j (by simpa using hj),getElem!_pos d' i (by simpa using hi)]at h2;have h3:¬ Lib.compareBytes (k d'[j]) (k d'[i])=0:=fun e=>h1 (by simpa using ((nM _ _).1 e).symm)
 have h4:=fT _ _ h3 h2
 simpa using h4
theorem bB {H:Snap}{d d':Array (PE H)}{l q:List Pr}(hp:Pairs (RP H) d.toList l) (hq:q.Perm l) (ha:Asc (·.1) q) (Tr:Go.Sort.PermIn 0 d.size d d') (hs:Go.Sort.SortedIn ef 0 d.size d') :
  d'.size=d.size∧Pairs (RP H) d'.toList q:=by
 have hn:l.Pairwise fun a b=>a.1≠b.1:=by
  refine(hq.pairwise_iff (fun h=>Ne.symm h)).1 (ha.imp fun h e=>?_)
  simp only at h
  rw[e,sB]at h
  omega
 have e:(fun a b:PE H=>decide (Lib.compareBytes a.key b.key<0))=ef:=rfl;obtain⟨h1,h2⟩:=YP (fun x:PE H=>x.key) d d' (ai hp hn) Tr (by rw[e];exact hs);obtain⟨q',h3,h4⟩:=Pairs.perm h1 hp;have h5:=jE (·.1) (Xw h3 h2) ha (h4.trans hq.symm);subst h5
 exact⟨by have:=h1.length_eq;simpa using this,h3⟩
theorem PG {H:Snap}:Go.Sort.SWO (ef (H:=H)):=Rp (fun x:PE H=>x.key)
end Go.Proofs.YtliomcphdnppnaaGreatDoor
namespace Go.Proofs.YtliomcphdnppnaaGreatDoor
open Go.RowKit Go.Shelf Go.Lib
theorem az {H:Snap}(d:Array (PE H)) (h2:2≤d.size) (TX:d.size<4611686018427387904) (blk off c Bs:Nat) (w:World)
  (hW:Holds w H) (hHb:H blk=none) (hH:Go.Sort.HoldsK xv 9 w blk off d) (hblk:blk<w.heap.size) (hs:w.cell? ⟨Bs,0,none⟩=some (.slice (some ⟨blk,off,none⟩) d.size c)) (m5:Bs≠blk) (hBl:Bs<w.heap.size) :
  Calls Tryz.prog 108 #[.iface 147 (.slice (some ⟨blk,off,none⟩) d.size c),.func (.func 109) #[] #[.pointer (some ⟨Bs,0,none⟩)]] w fun e w'=>e=.returned (.tuple #[])∧∃ (d':Array (PE H)) (n:Nat) (os:Array Obj),Go.Sort.PermIn 0 d.size d d'∧Go.Sort.SortedIn ef 0 d.size d'∧w'=Go.Sort.grow (Go.Sort.putRowK xv 9 (Sort.ahead w n) blk off d') os:=by
 have LJ:LessReadsK (α:=PE H) Tryz.prog 109 #[.pointer (some ⟨Bs,0,none⟩)] xv 9 ef blk off d.size w:=by
  intro m os dk iu i j hi hj
  have DM:Go.Sort.HoldsK xv 9 (Sort.ahead w m) blk off d:=Go.Sort.holdsK_ahead xv 9 w m blk off d hH;have Kf:=Go.Sort.holdsK_putRowK xv 9 (Sort.ahead w m) blk off d dk DM iu;have Q3:(Go.Sort.putRowK xv 9 (Sort.ahead w m) blk off dk).heap.size=w.heap.size:=Go.Sort.size_putRow id (Sort.ahead w m) blk off _;have LH:blk<(Go.Sort.putRowK xv 9 (Sort.ahead w m) blk off dk).heap.size:=by rw[Q3];exact hblk
  have DL:=Go.Sort.holdsK_grow xv 9 (Go.Sort.putRowK xv 9 (Sort.ahead w m) blk off dk) os blk off dk LH Kf
  have DY:Holds (Go.Sort.grow (Go.Sort.putRowK xv 9 (Sort.ahead w m) blk off dk) os) H:=fun b o hb=>by
   have rM:=hW.lt hb;have wS:b≠blk:=fun e=>by rw[e,hHb]at hb;cases hb
   rw[Go.Sort.heap_grow_old _ _ (by rw[Q3];exact rM)]
   have hq:(w.heap.modify blk (Go.Sort.onCells (Go.Sort.putCells id off (Go.Sort.flatK xv 9 dk))))[b]? = some o:=by
    rw[Array.getElem?_modify,if_neg (Ne.symm wS)]
    exact hW b o hb
   exact hq
  refine(ad blk off c Bs d.size _ DY (fun t=>dk[t]!) ?_ (fun t ht=>?_) i j hi hj)
  ·rw[Go.Sort.cell?_grow _ _ _ (by rw[Q3];exact hBl),Go.Sort.cell?_putRowK_other xv 9 _ _ _ _ _ m5]
   exact hs
  exact(DL.cell (i:=t) (c:=0) (by omega) (by omega)).1
 have hS:=Any.sort_Slice_cells_sorted (α:=PE H) kE 147 149 pairTI pairEI (by kernel_rfl) (by kernel_rfl) (by kernel_rfl) (by kernel_rfl) 25 (fun _=>by kernel_rfl) xv 9 XY (by kernel_rfl) (fun _=>by kernel_rfl)
  (fun x v hv=>by
   rw[xv,List.mem_cons]at hv
   rcases hv with rfl | hv
   ·rfl
   exact x.one v hv) ef PG 109 _
  (enters_of Tryz.func109 (by kernel_rfl) rfl) blk off c d h2 TX 176 (by rw[PB _ h2];kernel_rfl) false
  (fun args W=>run_callFunc_extern Tryz.func176 (by kernel_rfl) (by kernel_rfl) (by kernel_rfl) (e:=Extern.ReflectliteSwapper.swap false) (by kernel_rfl) args W) w LJ hH hblk
 change Calls Tryz.prog 108 _ _ _ at hS
 exact hS.mono fun e w' ⟨he,d',n,os,h1,h2,hw⟩=>⟨he,d',n,os,h1,h2,hw⟩
theorem dQ {H:Snap}{w:World}{base m c:Nat}{A:Option Addr}{l q:List Pr}(hO:OwnX oZ 149 w base (.slice A m c) H l) (hm:m=l.length) (h2:2≤l.length) (TX:l.length<4611686018427387904)
  (hq:q.Perm l) (ha:Asc (·.1) q) (hW:Holds w H) (hap:∀ g,(Value.slice A m c).ownBlock=some g→H g=none) (Bs:Nat) (hs:w.cell? ⟨Bs,0,none⟩=some (.slice A m c)) (m5:(Value.slice A m c).ownBlock≠some Bs) (hBl:Bs<w.heap.size) :
  Calls Tryz.prog 108 #[.iface 147 (.slice A m c),.func (.func 109) #[] #[.pointer (some ⟨Bs,0,none⟩)]] w fun e w'=>e=.returned (.tuple #[])∧OwnX oZ 149 w' base (.slice A m c) H q∧w.grownBy w' (Value.slice A m c).ownBlock:=by
 obtain⟨g,d,rfl,BN,uG,G7,hp,DK⟩:=VY hO (by omega);have Jf:m=d.size:=by rw[hm,G7]
 have SC:=az d (by omega) (by omega) g 0 c Bs w hW (hap g rfl) DK uG (by rw[← Jf];exact hs) (fun e=>m5 (by rw[e];rfl)) hBl;rw[← Jf]at SC
 refine SC.mono fun e w' ⟨he,d',n,os,h1,h2,hw⟩=>⟨he, ?_⟩
 rw[Jf]at h1 h2;obtain⟨iu,Dz⟩:=bB hp hq ha h1 h2;rw[hw]
 exact Ud (w:=w) hO (d':=d') (by rw[iu,G7]) Dz n os
theorem XM.perm {α:Type}{L:Lie α}{t bt kt:TypeId}{W0 w w':World}{H Hr:Snap}{B:Nat}{kc:Array Value}{bv v:Value}{l l':List α}(h:XM L t bt kt W0 H B kc bv v l w Hr) (hO:OwnX L t w' (W0.heap.size+1) v Hr l') (hg:w.grownBy w' v.ownBlock):XM L t bt kt W0 H B kc bv v l' w' Hr :=
 ⟨h.grows.grownRow h.apart (fun g hg=>by have:=(h.own.lt g hg).1;omega) hg,h.hK,h.key.grown hg (fun e=>by have:=(h.own.lt _ e).1;omega),hO,h.apart,h.lt,h.hB,h.box.grown hg h.far,h.far⟩
theorem ZO (n:Nat) (h:n≤1):Lib.swapperK n pairEI 25=n+1:=by
 rcases Nat.eq_zero_or_pos n with h0 | h0
 ·subst h0;simp[Lib.swapperK]
 obtain rfl:n=1:=by omega
 simp[Lib.swapperK]
theorem bA {H:Snap}(n:Nat) (hn:n≤1) (p:Option Addr) (c Bs:Nat) {w:World}(hW:Holds w H) :
  Calls Tryz.prog 108 #[.iface 147 (.slice p n c),.func (.func 109) #[] #[.pointer (some ⟨Bs,0,none⟩)]] w fun e w'=>e=.returned (.tuple #[])∧Below w.heap.size w w':=by
 have fin:∀ (w':World) os,w'=Go.Sort.grow w os→Below w.heap.size w w':=fun w' os hw=>by
  rw[hw]
  exact⟨rfl,rfl,rfl,by show w.heap.size≤(w.heap++os).size;rw[Array.size_append];omega,fun _ hj=>Go.Sort.heap_grow_old w os hj⟩
 rcases Nat.eq_zero_or_pos n with h0 | h0
 ·subst h0;have hS:=Any.sort_Slice_tiny kE 147 149 pairTI pairEI (by kernel_rfl) (by kernel_rfl) (by kernel_rfl) (by kernel_rfl) 25 (fun _=>by kernel_rfl) p 0 c (by omega) 168 (by rw[ZO 0 (by omega)];kernel_rfl) (.func 109) #[] #[.pointer (some ⟨Bs,0,none⟩)] w;change Calls Tryz.prog 108 _ _ _ at hS
  exact hS.mono fun e w' ⟨he,os,hw⟩=>⟨he,fin w' os hw⟩
 obtain rfl:n=1:=by omega
 have hS:=Any.sort_Slice_tiny kE 147 149 pairTI pairEI (by kernel_rfl) (by kernel_rfl) (by kernel_rfl) (by kernel_rfl) 25 (fun _=>by kernel_rfl) p 1 c (by omega) 169 (by rw[ZO 1 (by omega)];kernel_rfl) (.func 109) #[] #[.pointer (some ⟨Bs,0,none⟩)] w;change Calls Tryz.prog 108 _ _ _ at hS
 exact hS.mono fun e w' ⟨he,os,hw⟩=>⟨he,fin w' os hw⟩
theorem ak {α:Type}{q l:List α}(h:q.Perm l) (hl:l.length≤1):q=l:=by
 match l,hl,h with
 | [],_,h=>exact h.eq_nil
 | [x],_,h=>exact List.perm_singleton.1 h
theorem dP {H:Snap}{w:World}{base m c:Nat}{A:Option Addr}{l q:List Pr}(hO:OwnX oZ 149 w base (.slice A m c) H l) (hm:m=l.length) (TX:l.length<4611686018427387904)
  (hq:q.Perm l) (ha:Asc (·.1) q) (hW:Holds w H) (hap:∀ g,(Value.slice A m c).ownBlock=some g→H g=none) (Bs:Nat) (hs:w.cell? ⟨Bs,0,none⟩=some (.slice A m c)) (m5:(Value.slice A m c).ownBlock≠some Bs) (hBl:Bs<w.heap.size) :
  Calls Tryz.prog 108 #[.iface 147 (.slice A m c),.func (.func 109) #[] #[.pointer (some ⟨Bs,0,none⟩)]] w fun e w'=>e=.returned (.tuple #[])∧OwnX oZ 149 w' base (.slice A m c) H q∧w.grownBy w' (Value.slice A m c).ownBlock:=by
 by_cases h2:2≤l.length
 ·exact dQ hO hm h2 TX hq ha hW hap Bs hs m5 hBl
 obtain rfl:=ak hq (by omega)
 exact(bA m (by omega) A c Bs hW).mono fun e w' ⟨he,hb⟩=>⟨he,hO.below hb,xq hb _⟩
end Go.Proofs.YtliomcphdnppnaaGreatDoor
namespace Go.Proofs.YtliomcphdnppnaaGreatDoor
open Go.RowKit
theorem lU {H:Snap}(hTab:Tabs H) {A:Option Addr}{c:Nat}{ps:List Itm}(hr:IsRowI H A c ps) (xF:ps.length%2=0) (h4:0≤ps.length) (iy:ps.length≤1000) {qs:List Itm}(Qj:qs.length=ps.length) (hperm:(pk qs).Perm (pk ps)) (pm:xe qs=true)
  (ts:∀ x∈ps,zU x=true) (hwh:zU (.mk 5 0 [] qs)=true) (w:World) (hH:Holds w H) :
  Calls Tryz.prog 72 #[.slice A ps.length c] w (U9 w H qs):=by
 have hT:=Blk.new w 26 eW;have hb:=zu w zT;have yV:H w.heap.size=none:=hH.none_of_ge (Nat.le_refl _);have b1:((ps.length:Int)%2==1)=false:=by rw[beq_eq_false_iff_ne];omega
 have p1:((ps.length:Int)%2=1)=False:=eq_false (by omega);have HR:=Hh hr;have HC:=Hh (And.intro xF (And.intro h4 iy));have HA:=Hh (And.intro pm (And.intro ts hwh));have HQ:=Hh (And.intro Qj hperm);clear xF h4 iy pm ts hwh hr Qj hperm;go_enter Tryz.func72,Tryz.ntmps72
 go_wp2_with fail
 go_loopw [18] (fun v18 wr=>∃ j:Nat,j≤ps.length∧v18=.int .i64 j∧Below w.heap.size w wr∧Blk wr w.heap.size 26 eW) (fun v18 _=>ps.length-(intOf v18).toNat)
 case atStart=>exact⟨0,Nat.zero_le _,rfl,hb,hT⟩
 case round =>
 clear hb hT b1 p1;obtain⟨j,hj,rfl,yO,rm⟩:=hrel
 by_cases zB:j<ps.length
 ·have yG:=hH.below yO (Nat.le_refl _);obtain⟨ib,io,tK,xA⟩:=HR.out.elems (by omega);obtain⟨y1,y2,y3,y4,q0,q1,q2,q3,va⟩:=xA.get j zB;subst tK;have p0:=yG.cell q0;have p1':=yG.cell q1;have p2:=yG.cell q2;have p3:=yG.cell q3;have Ke:=yG.alloc (zh ps[j] y1 y2 y3 y4);have V:=Hh (tX hTab va.arg _ Ke);rw[HA.out.2.1 _ (List.getElem_mem zB)]at V;have zK:=yO.alloc yO.size (zh ps[j] y1 y2 y3 y4);have tm:=rm.alloc (zh ps[j] y1 y2 y3 y4)
  generalize ps[j]'zB=x at *
  clear q0 q1 q2 q3 xA va yO rm yG Ke;go_wp2_with fail
  refine V.out.mono ?_
  rintro e w3 ⟨rfl,xz⟩
  have Zf:=tm.below xz;have zA:=zK.trans (xz.mono zK.size);have TD:(j:Int)+1≤9223372036854775807:=by have:=HC.out.2.2;omega
  clear tm zK xz;go_wp2_with fail
  go_roundw
  case rel=>exact⟨j+1,by omega,by go_num,zA,Zf⟩
  case measure=>simp[intOf];omega
 have qq:j=ps.length:=by omega
 subst qq;clear zB hj;obtain⟨n,hn⟩:∃ n,ps.length=2*n:=⟨ps.length/2,by have:=HC.out.1;omega⟩
 have hq:((ps.length:Int)/2)=(n:Int):=by omega
 have EC:(ps.length:Int).tdiv 2=(n:Int):=by rw[Int.tdiv_eq_ediv_of_nonneg (by omega)];omega
 have HN:=Hh hn;have MK:n≤500:=by have:=HC.out.2.2;omega
 have hG:=Grows.of_below hH yO;obtain⟨i0,uv,o1,rp,rQ⟩:=info_parts jQ;clear hn yO;go_wp2_with (at_make;refine zM ?_)
 refine wpList_make_own wr rfl _ _ 147 rfl (w.heap.size+1) 149 i0 _ 9 Tryz.underlying147 uv o1 rp .i64 .i64 (n:Int) n rfl rfl rfl (by rw[rQ];omega) (by simp only[maxLen];omega) (by have:=rm.lt;omega) fun w4 kR mv=>?_
 have xl:=hG.below_ (yS mv);have hX:=XM.start (bt:=147) (bv:=.slice none 0 0) xl yV (rm.grown mv (by simp)) (show OwnX oZ 149 w4 (w.heap.size+1) (.slice (some ⟨wr.heap.size,0,none⟩) 0 n) H [] from⟨[],RowC.nil _ _,kR⟩) (fun g hg=>by simp[Value.ownBlock]at hg;subst hg;exact hG.hidden (Nat.le_refl _));obtain⟨B,hB⟩:∃ B,w4.heap.size=B:=⟨_,rfl⟩
 obtain⟨g0,mA⟩:∃ g0,wr.heap.size=g0:=⟨_,rfl⟩
 rw[hB]at hX;rw[mA]at hX⊢;clear kR mv xl hG rm uv o1 rp rQ mA;go_wp2_with (with_reducible refine zx ?_)
 unfold zD
 try rw[hB]
 refine ze rfl _ _ _ rfl rfl B 0 (.slice (some ⟨g0,0,none⟩) 0 n) rfl rfl _ _ hX.box ln (by simp) rfl fun w5 lL yP=>?_
 replace hX:=hX.setBox (by simpa using lL) yP;clear lL yP hB hq EC;go_wp2_with fail
 go_loopw [7] (fun v7 wx=>∃ (j:Nat) (Hx:Snap) (VA:Option Addr) (m vc:Nat),j≤ps.length∧j%2=0∧v7=.int .i64 (j:Int)∧m=j/2∧(∃ g':Nat,VA=some ⟨g',0,none⟩)∧XM oZ 149 147 26 w H B eW (.slice VA m vc) (.slice VA m vc) (pk (ps.take j)) wx Hx) (fun v7 _=>ps.length-(intOf v7).toNat)
 case atStart=>exact⟨0,H,some ⟨g0,0,none⟩,0,n,Nat.zero_le _,rfl,rfl,rfl,⟨g0,rfl⟩,by simpa [pk] using hX⟩
 case round =>
 clear hX;obtain⟨j,Hx,VA,m,vc,hj,NN,rfl,hm,Fs,hX⟩:=hrel;have Cu:=Hh Fs;clear Fs;have HJ:=Hh (And.intro NN hm);clear NN hm
 by_cases zB:j<ps.length
 ·have nl:j+1<ps.length:=by have:=HJ.out.1;have:=HC.out.1;omega
  have Pv:(j:Int)<ps.length:=by omega
  have LK:(j:Int)+1<ps.length:=by omega
  have TD:(j:Int)+2≤9223372036854775807:=by have:=HC.out.2.2;omega
  have Wf:IntKind.i64.wrap ((j:Int)+1)=(j:Int)+1:=IntWalk.i64_in _ (by omega);have Br:(0:Int)≤(j:Int)+1:=by omega
  obtain⟨ib,io,tK,xA⟩:=HR.out.elems (by omega);obtain⟨y1,y2,y3,y4,q0,q1,q2,q3,f9⟩:=xA.get j zB;obtain⟨z1,z2,z3,z4,s0,s1,s2,s3,mn⟩:=xA.get (j+1) nl;subst tK;have HV:=Hh (vN (HA.out.2.1 _ (List.getElem_mem zB)))
  have Et:Hid (pk (ps.take (j+2))=pk (ps.take j)++[(zi ps[j],ps[j],ps[j+1])]):=by
   obtain⟨i,rfl⟩:∃ i,j=2*i:=⟨j/2,by have:=HJ.out.1;omega⟩
   exact SS ps i nl
  have Zd:Hid ((pk (ps.take j)).length=m):=by rw[Hid,kL,List.length_take];have:=HJ.out;omega
  have yx:=hX.grows.le;have q0:=yx.cell q0;have q1:=yx.cell q1;have q2:=yx.cell q2;have q3:=yx.cell q3;have s0:=yx.cell s0;have s1:=yx.cell s1;have s2:=yx.cell s2;have s3:=yx.cell s3;have f9:=f9.mono yx;have mn:=mn.mono yx
  generalize ps[j]'zB=y at *
  generalize ps[j+1]'nl=z at *
  generalize pk (ps.take j)=L at hX Et Zd
  clear xA yx hj;go_upto_region 13 with fail
  replace hX:=hX.drew;have Oa:=Hh (And.intro f9 mn);clear f9 mn
  refine ue 17 (fun wx=>wx.cell? ⟨B,0,none⟩=some (.slice VA m vc)∧wx.cell? ⟨ib,io+j*4,none⟩=some (.int .i64 y.kind)∧wx.cell? ⟨ib,io+j*4+1,none⟩=some (.int .u64 y.n)∧wx.cell? ⟨ib,io+j*4+2,none⟩=some (.slice y1 y.bytes.length y2)∧wx.cell? ⟨ib,io+j*4+3,none⟩=some (.slice y3 y.items.length y4)∧wx.cell? ⟨ib,io+(j+1)*4,none⟩=some (.int .i64 z.kind)∧wx.cell? ⟨ib,io+(j+1)*4+1,none⟩=some (.int .u64 z.n)∧wx.cell? ⟨ib,io+(j+1)*4+2,none⟩=some (.slice z1 z.bytes.length z2)∧wx.cell? ⟨ib,io+(j+1)*4+3,none⟩=some (.slice z3 z.items.length z4)) (by kernel_rfl) (⟨hX.box.cell 0 rfl,hX.grows.holds.cell q0,hX.grows.holds.cell q1,hX.grows.holds.cell q2,hX.grows.holds.cell q3,hX.grows.holds.cell s0,hX.grows.holds.cell s1,hX.grows.holds.cell s2,hX.grows.holds.cell s3⟩) (fun zy=>?_)
  refine Zk 0 rfl zy ?_
  refine Zk 1 rfl zy ?_
  refine Zk 2 rfl zy ?_
  refine Zk 3 rfl zy ?_
  refine Zk 4 rfl zy ?_
  refine Zk 6 rfl zy ?_
  refine Zk 7 rfl zy ?_
  refine Zk 8 rfl zy ?_
  refine Zk 9 rfl zy ?_
  refine Zk 10 rfl zy ?_
  refine Zk 11 rfl zy ?_
  refine Zk 12 rfl zy ?_
  refine Zk 13 rfl zy ?_
  refine Zk 14 rfl zy ?_
  refine Zo 5 rfl fun K hK=>?_
  go_simp
  refine(qy y Hx _ _ _ _ _ _ _ _ _ _ (.slice none 0 0) [] HV.out.1 Oa.out.1.arg hX.grows.holds (OwnB.nil _ _) (Nat.le_refl _) (by simp[Value.ownBlock]) (by have:=HV.out.2.2;simp;omega)).mono ?_
  rintro e w5 ⟨r5,rfl,xo,yP,_⟩
  obtain⟨A5,c5,rfl,_⟩:=OwnB.form xo;obtain⟨H5,vB,ev,_⟩:=Fresh.snapB hX.grows.holds ⟨xo,yS yP⟩;have hX:=hX.grow vB;have q0:=vB.le.cell q0;have q1:=vB.le.cell q1;have q2:=vB.le.cell q2;have q3:=vB.le.cell q3;have s0:=vB.le.cell s0;have s1:=vB.le.cell s1;have s2:=vB.le.cell s2;have s3:=vB.le.cell s3
  refine Ko hK ?_ fun zy=>?_
  ·exact⟨hX.box.cell 0 rfl,hX.grows.holds.cell q0,hX.grows.holds.cell q1,hX.grows.holds.cell q2,hX.grows.holds.cell q3,hX.grows.holds.cell s0,hX.grows.holds.cell s1,hX.grows.holds.cell s2,hX.grows.holds.cell s3⟩
  clear hK K
  refine Zk 15 rfl zy ?_
  refine Zo 16 rfl fun K hK=>?_
  go_simp
  have Ls:RowC oZ H5 (.slice A5 (zi y).length c5::(zQ y y1 y2 y3 y4++zQ z z1 z2 z3 z4)) [(zi y,y,z)]:=RowC.one ⟨A5,c5,y1,y2,y3,y4,z1,z2,z3,z4,rfl,ev,Oa.out.1.mono vB.le,Oa.out.2.mono vB.le⟩;have hZ:=hX.litZ (.slice A5 (zi y).length c5::(zQ y y1 y2 y3 y4++zQ z z1 z2 z3 z4)).toArray 149;have hX:=hX.alloc (.cells (.slice A5 (zi y).length c5::(zQ y y1 y2 y3 y4++zQ z z1 z2 z3 z4)).toArray 149)
  refine Ko hK ?_ fun zy=>?_
  ·exact⟨hX.box.cell 0 rfl,hX.grows.holds.cell q0,hX.grows.holds.cell q1,hX.grows.holds.cell q2,hX.grows.holds.cell q3,hX.grows.holds.cell s0,hX.grows.holds.cell s1,hX.grows.holds.cell s2,hX.grows.holds.cell s3⟩
  clear hK K
  refine Zo 17 rfl fun K hK=>?_
  rw[if_pos (by rfl)]
  refine OwnX.append_wp2 (L:=oZ) _ _ 147 rfl Tryz.underlying147 rfl (by omega) jQ rfl hX.own _ _ _ _ [(zi y,y,z)] rfl rfl Ls hZ (by have:=Zd.out;have:=HJ.out.2;have:=HC.out.2.2;simp;omega) hX.base fun v7 w7 vX wh cB=>?_
  have hX:=hX.app vX wh cB;obtain⟨A7,c7,rfl,_⟩:=vX.form;have CI:Hid (∃ g':Nat,A7=some ⟨g',0,none⟩):=by obtain⟨g',d',h1,_⟩:=VY vX (by simp);exact⟨g',h1⟩
  rw[show(L++[(zi y,y,z)]).length=m+1 by have:=Zd.out;simp;omega]at hX⊢;clear vX wh cB hZ Ls
  refine Kz hK ?_
  clear hK K
  refine Zo 18 rfl fun K hK=>?_
  rw[if_pos (by rfl)]
  refine yY _ _ _ rfl B 0 (.slice A7 (m+1) c7) rfl rfl _ _ hX.box ln (by simp) rfl fun w8 i8 hg8=>?_
  have hX:=hX.setBox (by simpa using i8) hg8;clear i8 hg8
  refine Kz hK ?_
  clear hK K
  refine WaysZ.done (by kernel_rfl) ?_
  clear zy q0 q1 q2 q3 s0 s1 s2 s3 vB ev;go_wp2_with fail
  go_roundw
  case rel=>exact⟨j+2,H5,A7,m+1,c7,by omega,by have:=HJ.out.1;omega,by go_num,by have:=HJ.out;omega,CI.out,by rw[Et.out];exact hX⟩
  case measure=>simp[intOf];omega
 have qq:j=ps.length:=by omega
 subst qq;clear zB hj;rw[List.take_length]at hX;have ms:(pk ps).length=n:=by rw[kL,HN.out];omega
 obtain rfl:m=n:=by have:=HJ.out.2;have:=HN.out;omega
 have GQ:(pk qs).length=m:=by rw[HQ.out.2.length_eq,ms]
 have Qs:Asc (·.1) (pk qs):=Oj HA.out.1;have SRT:=dP (q:=pk qs) hX.own ms.symm (by omega) HQ.out.2 Qs hX.grows.holds hX.apart B (hX.box.cell 0 rfl) hX.far hX.box.lt;have SRTH:=Hh SRT;obtain⟨g,Dh⟩:=Cu.out;subst Dh;have c0:=hX.box.cell 0 rfl;have Zd:=Hh GQ;clear SRT Qs GQ ms;go_wp2_with fail
 refine SRTH.out.mono ?_
 rintro e w9 ⟨rfl,WU,yL⟩
 replace hX:=hX.perm WU yL;obtain⟨H9,tI,TF,IK,LQ,QO,kh⟩:=hX.snap;clear IK;have Pn:=hX.box;have tH:=hX.key;have MG:=hX.lt;clear hX WU yL SRTH c0 TF;have Lj:=Pn.lt;have hM:=(Blk.new w9 26 eW)
 have Ki:H9 w9.heap.size=none:=tI.holds.none_of_ge (Nat.le_refl _);obtain⟨M,Kh⟩:∃ M,w9.heap.size=M:=⟨_,rfl⟩
 have HM:=Hh (And.intro tI.size (And.intro Lj Kh));rw[Kh]at hM Ki;go_wp2_with (with_reducible refine zx ?_)
 unfold zD
 try rw[Kh]
 refine zv rfl _ _ _ rfl rfl M _ rfl rfl _ _ hM zp rfl (ua _ _ _ _ rfl rfl rfl rfl) fun w11 hM11 pq=>?_
 have hS:BM w H B M #[.slice (some ⟨g,0,none⟩) m vc] (.slice none 0 0) (.slice none 0 0) [] w11 H9 :=
  ⟨(tI.alloc zT).grownOwn Ki (by have:=HM.out;omega) pq,QO,kh,Ki,MG,by have:=tH.lt;have:=HM.out;omega,by have:=HM.out;omega,(tH.alloc zT).grown pq (fun e=>by injection e with e;have:=tH.lt;have:=HM.out;omega),
   (Pn.alloc zT).grown pq (fun e=>by injection e with e;have:=HM.out;omega),hM11,OwnI.nil _ _ _,fun g hg=>by simp[Value.ownBlock]at hg⟩
 have c0:=hS.boxB.cell 0 rfl;clear hM Ki Kh pq hM11 Pn tH MG Lj tI QO kh;go_wp2_with fail
 go_loopw [62] (fun v62 wx=>∃ (i:Nat) (Hx:Snap) (VA:Option Addr) (vm v9:Nat),i≤m∧v62=.int .i64 (i:Int)∧vm=2*i∧H9.le Hx∧BM w H B M #[.slice (some ⟨g,0,none⟩) m vc] (.slice VA vm v9) (.slice VA vm v9) (qs.take (2*i)) wx Hx) (fun v62 _=>m-(intOf v62).toNat)
 case atStart=>exact⟨0,H9,none,0,0,Nat.zero_le _,rfl,rfl,Snap.le.refl _,by simpa using hS⟩
 case round =>
 clear hS c0;obtain⟨i,Hx,VA,vm,v9,GF,rfl,Nh,yx,hS⟩:=hrel;have HI:=Hh (And.intro GF Nh);clear GF Nh
 by_cases zB:i<m
 ·have qp:2*i+1<qs.length:=by have:=HN.out;have:=HQ.out.1;omega
  have Pv:(i:Int)<m:=by omega
  have I2:(i:Int)+1≤9223372036854775807:=by have:=HC.out.2.2;have:=HN.out;omega
  have JT:=mW qs i qp;have cR:i<(pk qs).length:=by have:=Zd.out;omega
  rw[List.getElem?_eq_getElem cR]at JT;have M7:=Option.some.inj JT
  have KM:Hid (qs.take (2*(i+1))=qs.take (2*i)++[qs[2*i]'(by omega),qs[2*i+1]]):=by
   rw[Hid,show 2*(i+1)=2*i+1+1 by omega,List.take_succ_eq_append_getElem qp,List.take_succ_eq_append_getElem (by omega),List.append_assoc];rfl
  have fi:Hid (∀ k,k+1=i→∀ hk:k<(pk qs).length,Lib.compareBytes ((pk qs)[k].1) (zi (qs[2*i]'(Nat.lt_of_succ_lt qp)))<0):=fun k hk qq=>by
   subst hk;have e1:=mW qs k (by omega);rw[List.getElem?_eq_getElem qq]at e1;rw[Option.some.inj e1]
   exact V9 (m:=2*k) HA.out.1 (by omega) (by omega)
  obtain⟨gb,go,Di,Vi⟩:=LQ.at_ (by omega)
  cases Di
  obtain⟨dc,⟨KA,kc,y1,y2,y3,y4,z1,z2,z3,z4,De,Zg,f9,mn⟩,xg⟩:=Vi i cR;subst De;rw[M7]at Zg f9 mn xg;have Gv:=Hh Vi;have r0:=yx.cell (xg 0 _ rfl);have r1:=yx.cell (xg 1 _ rfl);have r2:=yx.cell (xg 2 _ rfl);have r3:=yx.cell (xg 3 _ rfl);have r4:=yx.cell (xg 4 _ rfl);have r5:=yx.cell (xg 5 _ rfl);have r6:=yx.cell (xg 6 _ rfl);have r7:=yx.cell (xg 7 _ rfl);have r8:=yx.cell (xg 8 _ rfl);have Zg:=Zg.mono yx;have f9:=f9.mono yx;have mn:=mn.mono yx
  generalize qs[2*i]'(by omega)=y at *
  generalize qs[2*i+1]'qp=z at *
  generalize hLL:qs.take (2*i)=LL at hS KM
  have qJ:Hid (LL.length=vm):=by rw[Hid,← hLL,List.length_take];have:=HI.out;omega
  have Mg:=Hh (And.intro Zg (And.intro f9 mn));clear JT M7 xg Vi Zg f9 mn hLL;have r0:=hS.grows.holds.cell r0;have r1:=hS.grows.holds.cell r1;have r2:=hS.grows.holds.cell r2;have r3:=hS.grows.holds.cell r3;have r4:=hS.grows.holds.cell r4;have r5:=hS.grows.holds.cell r5;have r6:=hS.grows.holds.cell r6;have r7:=hS.grows.holds.cell r7;have r8:=hS.grows.holds.cell r8
  simp only[oZ,Nat.add_zero,Nat.zero_add,← Nat.add_assoc]at r0 r1 r2 r3 r4 r5 r6 r7 r8
  go_upto_region 19 with fail
  have hD:=Blk.new wr 149 #[.slice KA (zi y).length kc,.int .i64 y.kind,.int .u64 y.n,.slice y1 y.bytes.length y2,.slice y3 y.items.length y4,.int .i64 z.kind,.int .u64 z.n,.slice z1 z.bytes.length z2,.slice z3 z.items.length z4];replace hS:=hS.alloc (.cells #[.slice KA (zi y).length kc,.int .i64 y.kind,.int .u64 y.n,.slice y1 y.bytes.length y2,.slice y3 y.items.length y4,.int .i64 z.kind,.int .u64 z.n,.slice z1 z.bytes.length z2,.slice z3 z.items.length z4] 149);obtain⟨P,N8⟩:∃ P,wr.heap.size=P:=⟨_,rfl⟩
  obtain⟨w2,lQ⟩:∃ w2,wr.alloc (.cells #[.slice KA (zi y).length kc,.int .i64 y.kind,.int .u64 y.n,.slice y1 y.bytes.length y2,.slice y3 y.items.length y4,.int .i64 z.kind,.int .u64 z.n,.slice z1 z.bytes.length z2,.slice z3 z.items.length z4] 149)=w2:=⟨_,rfl⟩
  rw[lQ]at hS hD⊢;rw[N8]at hD⊢;clear lQ N8 r0 r1 r2 r3 r4 r5 r6 r7 r8;go_cut [79] (fun s79 wx=>s79=.bool false∧BM w H B M #[.slice (some ⟨g,0,none⟩) m vc] (.slice VA vm v9) (.slice VA vm v9) LL wx Hx∧Blk wx P 149 #[.slice KA (zi y).length kc,.int .i64 y.kind,.int .u64 y.n,.slice y1 y.bytes.length y2,.slice y3 y.items.length y4,.int .i64 z.kind,.int .u64 z.n,.slice z1 z.bytes.length z2,.slice z3 z.items.length z4])
  case first =>
   by_cases h0:i=0
   ·subst h0
    refine zw 12 (fun _=>True) (by kernel_rfl) (trivial) (fun zy=>?_)
    refine Tk 0 rfl zy ?_
    refine Tk 1 rfl zy ?_
    refine Tk 2 rfl zy ?_
    refine TkU 3 rfl zy ?_
    refine TkU 4 rfl zy ?_
    refine TkU 5 rfl zy ?_
    refine TkU 6 rfl zy ?_
    refine TkU 7 rfl zy ?_
    refine TkU 8 rfl zy ?_
    refine TkU 9 rfl zy ?_
    refine TkU 10 rfl zy ?_
    refine TkU 11 rfl zy ?_
    refine To 12 rfl fun K hK=>?_
    go_simp
    refine Kz hK ?_
    clear hK K
    refine Wd ?_
    go_wp2_with fail
    go_meet
    exact⟨rfl,hS.drew,hD.drew⟩
   obtain⟨k,rfl⟩:∃ k,i=k+1:=⟨i-1,by omega⟩
   obtain⟨dk,⟨KB,kd,u1,u2,u3,u4,u5,u6,u7,u8,Df,RT,_,_⟩,xg⟩:=Gv.out k (by have:=Zd.out;omega);subst Df
   have wS:Hid (((pk qs)[k]'(by have:=Zd.out;omega)).1≠zi y):=fun e=>by
    have h1:=fi.out k rfl (by have:=Zd.out;omega);rw[e,sB]at h1
    omega
   have rk:=xg 0 _ rfl
   generalize ((pk qs)[k]'(by have:=Zd.out;omega)).1=kb at *
   have rk:=hS.grows.holds.cell (yx.cell rk)
   simp only[oZ,Nat.add_zero,Nat.zero_add]at rk
   have DI:Hid ((kb==zi y)=false):=by rw[Hid,beq_eq_false_iff_ne];exact wS.out
   have e2:((k+1:Nat):Int)=(k:Int)+1:=by omega
   try rw[e2]
   have qr:IntKind.i64.wrap ((k:Int)+1-1)=(k:Int):=by rw[show(k:Int)+1-1=(k:Int) by omega];exact IntWalk.i64_in _ (by omega)
   have Ni:IntKind.i64.wrap (k:Int)=(k:Int):=IntWalk.i64_in _ (by omega);have GI:(k:Int)<m:=by omega
   have ij:(0:Int)≤(k:Int):=by omega
   have Ba:(0:Int)<(k:Int)+1:=by omega
   have Kr:k<m:=by omega
   have DQ:=Hh (RT.mono yx);have c0:=hS.boxB.cell 0 rfl;have d0:=hD.cell 0 rfl;replace hS:=hS.drew;replace hD:=hD.drew;clear xg RT wS e2 Pv I2 h0
   refine zw 12 (fun wx=>wx.cell? ⟨B,0,none⟩=some (.slice (some ⟨g,0,none⟩) m vc)∧wx.cell? ⟨g,k*9,none⟩=some (.slice KB kb.length kd)∧wx.cell? ⟨P,0,none⟩=some (.slice KA (zi y).length kc)) (by kernel_rfl) (⟨c0,rk,d0⟩) (fun zy=>?_)
   refine Tk 0 rfl zy ?_
   refine Tk 1 rfl zy ?_
   refine Tk 2 rfl zy ?_
   refine TkG 3 rfl zy ?_
   refine TkG 4 rfl zy ?_
   refine TkG 5 rfl zy ?_
   refine TkG 6 rfl zy ?_
   refine TkG 7 rfl zy ?_
   refine TkG 8 rfl zy ?_
   refine TkG 9 rfl zy ?_
   refine TkG 10 rfl zy ?_
   refine To 11 rfl fun K hK=>?_
   go_simp
   refine(lT _ KB KA kb (zi y) _ _ kd kc rfl rfl (Src.of_row DQ.out.row hS.grows.holds) (Src.of_row Mg.out.1.row hS.grows.holds)).mono ?_
   rintro e w5 ⟨rfl,rfl⟩
   rw[DI.out]
   refine Ko hK ?_ fun zy=>?_
   ·exact⟨c0,rk,d0⟩
   clear hK K
   refine To 12 rfl fun K hK=>?_
   go_simp
   refine Kz hK ?_
   clear hK K
   refine Wd ?_
   clear zy c0 rk d0;go_wp2_with fail
   go_meet
   exact⟨rfl,hS,hD⟩
  case rest =>
  clear hS hD;obtain⟨rfl,hS,hD⟩:=hcut;have m3:=hS.boxM.cell 3 rfl;have d1:=hD.cell 1 rfl;have d2:=hD.cell 2 rfl;have d3:=hD.cell 3 rfl;have d4:=hD.cell 4 rfl;have d5:=hD.cell 5 rfl;have d6:=hD.cell 6 rfl;have d7:=hD.cell 7 rfl;have d8:=hD.cell 8 rfl;have HS:=Hh hS;clear hS hD;go_wp2_with (at_builtin;refine zM ?_)
  unfold zD
  have hZ:=HS.out.litZ (zQ y y1 y2 y3 y4++zQ z z1 z2 z3 z4).toArray 26;have hS:=HS.out.alloc (.cells (zQ y y1 y2 y3 y4++zQ z z1 z2 z3 z4).toArray 26)
  refine wm rfl _ _ rfl _ _ _ _ rfl hS.own _ _ _ _ [y,z] rfl rfl ((ItemsC.one Mg.out.2.1).app (ItemsC.one Mg.out.2.2)) hZ (by have:=qJ.out;have:=HI.out;have:=HC.out.2.2;have:=HN.out;simp;omega) hS.base fun v7 w7 vX wh cB=>?_
  replace hS:=hS.app vX wh cB;obtain⟨A7,c7,rfl,_⟩:=vX.form;rw[show(LL++[y,z]).length=vm+2 by have:=qJ.out;simp;omega]at hS⊢;clear vX wh cB hZ HS m3 d1 d2 d3 d4 d5 d6 d7 d8;go_wp2_with (with_reducible refine zx ?_)
  refine ze rfl _ _ _ rfl rfl M 3 (.slice A7 (vm+2) c7) rfl rfl _ _ hS.boxM ry (by simp) rfl fun w8 i8 hg8=>?_
  replace hS:=hS.setM (by simpa using i8) hg8;clear i8 hg8;go_wp2_with fail
  go_roundw
  case rel=>exact⟨i+1,Hx,A7,vm+2,c7,by omega,by go_num,by have:=HI.out;omega,yx,by rw[KM.out];exact hS⟩
  case measure=>simp[intOf];omega
 have qq:i=m:=by have:=HI.out.1;omega
 subst qq;clear zB;rw[show 2*i=qs.length from by have:=HN.out;have:=HQ.out.1;omega,List.take_length]at hS;obtain⟨CD,zX,II,Qd,MK⟩:=hS.item;have m0:=hS.boxM.cell 0 rfl;have m1:=hS.boxM.cell 1 rfl;have m2:=hS.boxM.cell 2 rfl;have m3:=hS.boxM.cell 3 rfl;have tH:=hS.key;subst II;have Mg:=Hh Qd;have HV:=Hh (tX (hTab.mono zX.le) (x:=.mk 5 0 [] qs) Qd.arg _ zX.holds);rw[HA.out.2.2]at HV;have Cj:=Hh (yQ HA.out.2.2);clear hS Qd;go_wp2_with fail
 refine HV.out.mono ?_
 rintro e w13 ⟨rfl,uZ⟩
 have tF:=zX.below_ uZ;have m0:=(m0b uZ m0)
 have m1:=(m0b uZ m1)
 have m2:=(m0b uZ m2)
 have m3:=(m0b uZ m3)
 replace tH:=tH.below uZ;have CP:=Hh (pK (.mk 5 0 [] qs) CD _ _ _ _ _ _ _ _ w13 Cj.out Mg.out.arg tF.holds);clear HV uZ zX;go_wp2_with fail
 refine CP.out.mono ?_
 rintro e w14 ⟨v14,rfl,xa,xb,xc,xd,Jx,rfl,lE,Hb⟩
 have fj:=tF.trans lE;have Vx:=lE.none MK tH.lt;replace tH:=tH.below lE.below;clear CP tF lE;go_wp2_with (with_reducible refine zx ?_)
 refine stI tH fun w16 hT16 hg16=>?_
 have ea:=fj.grownOwn Vx (Nat.le_refl _) hg16;clear fj hg16 tH;go_wp2_with fail
 refine zY rfl rfl hT16 rfl rfl zp rfl ?_
 exact⟨_,rfl,xa,xb,xc,xd,Jx,rfl,ea,Hb⟩
theorem lS {p:Itm}(h:zU p=true) (h5:p.kind=5):p.items.length%2=0∧p.items.length≤1000∧xe p.items=true∧(∀ x∈p.items,zU x=true)∧zU (.mk 5 0 [] p.items)=true:=by
 obtain⟨e,h2,ha⟩:=bM h h5
 exact⟨h2,by have:=(vq h).2.1;omega,ha,fun x hx=>wY h hx,by rw[← e];exact h⟩
theorem pF {H:Snap}(hTab:Tabs H) {p u:Itm}(vp:zU p=true) (vu:zU u=true) (kp:p.kind=5) (ku:u.kind=5) {a b:Ad}(hp:IsItem H a.ba a.bc a.ia a.ic p) (hu:IsItem H b.ba b.bc b.ia b.ic u) (w:World) (hH:Holds w H) :
  Calls Tryz.prog 32 #[.agg (zF p a u b)] w fun e w'=>∃ v,e=.returned v∧bJ w H p u v w':=by
 have hB:=(Blk.new w 28 (zF p a u b)).alloc xG;have hR:=Blk.new (w.alloc (.cells (zF p a u b) 28)) 28 (zF zn ⟨none,0,none,0⟩ zn ⟨none,0,none,0⟩)
 simp only[zr]at hR
 have hG:=((Grows.refl hH).alloc (.cells (zF p a u b) 28)).alloc xG;have Ze:H (w.heap.size+1)=none:=hH.none_of_ge (by omega);have HP:=Hh hp;have HU:=Hh hu;have HT:=Hh hTab;have EP:=Hh (bM vp kp).1;have EU:=Hh (bM vu ku).1;have BP:=Hh (lS vp kp);have BU:=Hh (lS vu ku);have C1:=Hh (lU hTab hp.row BP.out.1 (Nat.zero_le _) BP.out.2.1 rfl (List.Perm.refl _) BP.out.2.2.1 BP.out.2.2.2.1 BP.out.2.2.2.2 _ hG.holds);clear vp vu kp ku hp hu hTab hH;have c3:=hB.cell 3 rfl;go_enter Tryz.func32,Tryz.ntmps32
 go_wp2_with fail
 refine C1.out.mono ?_
 rintro e w2 ⟨v2,rfl,xa,xb,xc,xd,H2,rfl,xB,RI⟩
 rw[← EP.out]at RI⊢;have yN:=hG.trans xB;have Sx:=xB.none Ze hR.lt;replace hR:=hR.below xB.below;replace hB:=hB.below xB.below;have hX:=Blk.new w2 26 #[.int .i64 p.kind,.int .u64 p.n,.slice xa p.bytes.length xb,.slice xc p.items.length xd];have Tf:=hR.lt;replace hR:=hR.alloc (zh p xa xb xc xd);replace hB:=hB.alloc (zh p xa xb xc xd);have xl:=yN.alloc (zh p xa xb xc xd);have C2:=Hh (lU (HT.out.mono xl.le) (HU.out.mono xl.le).row BU.out.1 (Nat.zero_le _) BU.out.2.1 rfl (List.Perm.refl _) BU.out.2.2.1 BU.out.2.2.2.1 BU.out.2.2.2.2 _ xl.holds);have c7:=hB.cell 7 rfl;clear C1 xB yN hG hB c3;go_wp2_with fail
 refine C2.out.mono ?_
 rintro e w4 ⟨v4,rfl,ya,yb,yc,yd,H4,rfl,vB,FZ⟩
 rw[← EU.out]at FZ⊢;have wl:=xl.trans vB;have Hg:=vB.none Sx hR.lt;replace hR:=(hR.below vB.below).alloc (zh u ya yb yc yd);replace hX:=(hX.below vB.below).alloc (zh u ya yb yc yd);have hY:=Blk.new w4 26 #[.int .i64 u.kind,.int .u64 u.n,.slice ya u.bytes.length yb,.slice yc u.items.length yd];have vV:=wl.alloc (zh u ya yb yc yd);have Hc:=RI.mono vB.le;have x0:=hX.cell 0 rfl;have x1:=hX.cell 1 rfl;have x2:=hX.cell 2 rfl;have x3:=hX.cell 3 rfl;have y0:=hY.cell 0 rfl;have y1:=hY.cell 1 rfl;have y2:=hY.cell 2 rfl;have y3:=hY.cell 3 rfl;clear C2 vB wl xl RI c7 hX hY Tf;go_upto_region 3 with fail
 go_wp2_with (with_reducible refine zx ?_)
 refine zv rfl _ _ _ rfl rfl _ _ rfl rfl _ _ hR zN rfl (by kernel_rfl) fun w9 bx yL=>?_
 have tI:=vV.grownOwn Hg (by omega) yL;go_wp2_with fail
 refine zO rfl rfl bx rfl rfl zN rfl ?_
 exact⟨_,rfl,⟨xa,xb,xc,xd⟩,⟨ya,yb,yc,yd⟩,H4,rfl,tI,Hc,FZ⟩
theorem xY:(Tryz.prog.info? 36).map (·.size)=some 10:=by kernel_rfl
theorem vt:sp.all (·.oneCell')=true:=by kernel_rfl
theorem VF (p u:Itm) (a b:Ad) (ba:Option Addr) (bn bc:Nat) (ta:Option Addr) (tn tc:Nat):(evC p a u b ba bn bc ta tn tc).all (·.oneCell')=true:=by kernel_rfl
theorem Sq (g:Int):nw g=0∨nw g=8∨nw g=32:=by
 unfold nw
 split
 ·exact .inr (.inl rfl)
 split <;> simp
theorem fH {H:Snap}(hTab:Tabs H) {p u:Itm}{a b:Ad}(hp:IsItem H a.ba a.bc a.ia a.ic p) (hu:IsItem H b.ba b.bc b.ia b.ic u)
  {EA:Option Addr} {en ec:Nat} {ext:List UInt8} (Qa:en=ext.length) (hext:IsBytes H EA ec ext) (xA:ext.length≤1048576) {PA:Option Addr} {pn pc:Nat} {pay:List UInt8} (hpn:pn=pay.length) (hpay:IsBytes H PA pc pay)
  {KA:Option Addr} {kn kc:Nat} {key:List UInt8} (j8:kn=key.length) (tH:IsBytes H KA kc key) (qq:key.length≤1048576) (w:World) (hH:Holds w H) :
  Calls Tryz.prog 19 #[.agg (zF p a u b),.slice EA en ec,.slice PA pn pc,.slice KA kn kc] w (MacOut w H p u ext pay key):=by
 have hB:=(Blk.new w 28 (zF p a u b)).alloc (.cells sp 36);have hR:=Blk.new (w.alloc (.cells (zF p a u b) 28)) 36 sp
 simp only[zr]at hR
 have hG:=((Grows.refl hH).alloc (.cells (zF p a u b) 28)).alloc (.cells sp 36);have Ze:H (w.heap.size+1)=none:=hH.none_of_ge (by omega);have HP:=Hh hp;have HU:=Hh hu;have HT:=Hh hTab;have HX:=Hh (And.intro Qa (And.intro hext xA));have HY:=Hh (And.intro hpn hpay);have HK:=Hh (And.intro j8 (And.intro tH qq));have V:=Hh (sm hTab hp hu _ hG.holds);clear hp hu hTab hH Qa hext xA hpn hpay j8 tH qq;have c0:=hB.cell 0 rfl;have c1:=hB.cell 1 rfl;have c2:=hB.cell 2 rfl;have c3:=hB.cell 3 rfl;have c4:=hB.cell 4 rfl;have c5:=hB.cell 5 rfl;have c6:=hB.cell 6 rfl;have c7:=hB.cell 7 rfl;go_enter Tryz.func19,Tryz.ntmps19
 go_wp2_with fail
 refine V.out.mono ?_
 rintro e w2 ⟨rfl,zK⟩
 replace hB:=hB.below zK;replace hR:=hR.below zK;replace hG:=hG.below_ zK;clear V zK c0 c1 c2 c3 c4 c5 c6 c7
 cases hv:zI p u with
 | false =>
  have E:=Hh (show qB p u ext pay key=1 by rw[qB,if_pos hv]);clear hv hB;go_wp2_with (with_reducible refine zx ?_)
  refine zv rfl _ _ _ rfl rfl _ _ rfl rfl _ _ hR xY rfl (vt) fun wz hRz xI=>?_
  have tr:=hG.grownOwn Ze (by omega) xI;clear hR xI;go_wp2_with fail
  refine zY rfl rfl hRz rfl rfl xY rfl ?_
  exact MacOut.bad E.out (by omega) tr rfl
 | true =>
 have HV:=Hh hv;clear hv;have AL:=Hh (jO HT.out HP.out HU.out _ hG.holds);have c0:=hB.cell 0 rfl;have c1:=hB.cell 1 rfl;have c2:=hB.cell 2 rfl;have c3:=hB.cell 3 rfl;have c4:=hB.cell 4 rfl;have c5:=hB.cell 5 rfl;have c6:=hB.cell 6 rfl;have c7:=hB.cell 7 rfl;obtain⟨g,hg⟩:∃ g,rF p u=g:=⟨_,rfl⟩
 rw[hg]at AL;have HG:=Hh hg;clear hg;go_wp2_with fail
 refine AL.out.mono ?_
 rintro e w3 ⟨rfl,xz⟩
 replace hB:=hB.below xz;replace hR:=hR.below xz;replace hG:=hG.below_ xz;clear AL xz c0 c1 c2 c3 c4 c5 c6 c7;go_upto_block 0 with fail
 go_cut [10] (fun s10 wx=>s10=.int .i64 ((nw g:Nat):Int)∧wx=w3)
 case first =>
  clear hB hR hG
  by_cases h4:g=4
  ·subst h4;go_wp2_with fail
   go_meet
   exact⟨rfl,rfl⟩
  have k4:(g==4)=false:=by simpa using h4
  have t4:=eq_false h4
  by_cases h5:g=5
  ·subst h5;go_wp2_with fail
   go_meet
   exact⟨rfl,rfl⟩
  have k5:(g==5)=false:=by simpa using h5
  have t5:=eq_false h5;have e0:=Hh (show nw g=0 by rw[nw,if_neg h4,if_neg h5]);clear h4 h5;go_wp2_with fail
  go_meet
  exact⟨by rw[e0.out];rfl,rfl⟩
 case rest =>
 obtain⟨rfl,rfl⟩:=hcut;have Z0:=Sq g;obtain⟨n,hn⟩:∃ n,nw g=n:=⟨_,rfl⟩
 rw[hn]at Z0⊢;have HN:Hid (nw (rF p u)=n):=by rw[Hid,HG.out,hn]
 clear hn HG;have KN:=Hh Z0
 by_cases h0:n=0
 ·subst h0;have E:=Hh (show qB p u ext pay key=12 by rw[qB,if_neg (by rw[HV.out];simp),if_pos (.inl HN.out)]);clear hB Z0;go_wp2_with (with_reducible refine zx ?_)
  refine zv rfl _ _ _ rfl rfl _ _ rfl rfl _ _ hR xY rfl (vt) fun wz hRz xI=>?_
  have tr:=hG.grownOwn Ze (by omega) xI;clear hR xI;go_wp2_with fail
  refine zY rfl rfl hRz rfl rfl xY rfl ?_
  exact MacOut.bad E.out (by omega) tr rfl
 have n0:((n:Int)==0)=false:=by rw[beq_eq_false_iff_ne];omega
 have n1:((n:Int)=0)=False:=eq_false (by omega);have N0:=Hh h0;clear h0 Z0
 by_cases ij:kn=0
 ·subst ij;have E:=Hh (show qB p u ext pay key=12 by rw[qB,if_neg (by rw[HV.out];simp),if_pos (.inr HK.out.1.symm)]);clear hB;go_wp2_with (with_reducible refine zx ?_)
  refine zv rfl _ _ _ rfl rfl _ _ rfl rfl _ _ hR xY rfl (vt) fun wz hRz xI=>?_
  have tr:=hG.grownOwn Ze (by omega) xI;clear hR xI;go_wp2_with fail
  refine zY rfl rfl hRz rfl rfl xY rfl ?_
  exact MacOut.bad E.out (by omega) tr rfl
 have m0:((kn:Int)==0)=false:=by rw[beq_eq_false_iff_ne];omega
 have m1:((kn:Int)=0)=False:=eq_false (by omega);have Ek:=Hh ij;clear ij
 by_cases hbig:4096<pn
 ·have p0:(4096:Int)<(pn:Int):=by omega
  have E:=Hh (show qB p u ext pay key=8 by rw[qB,if_neg (by rw[HV.out];simp),if_neg (by rw[HN.out,← HK.out.1];have:=N0.out;have:=Ek.out;omega),if_pos (by rw[← HY.out.1];exact hbig)]);clear hB hbig;go_wp2_with (with_reducible refine zx ?_)
  refine zv rfl _ _ _ rfl rfl _ _ rfl rfl _ _ hR xY rfl (vt) fun wz hRz xI=>?_
  have tr:=hG.grownOwn Ze (by omega) xI;clear hR xI;go_wp2_with fail
  refine zY rfl rfl hRz rfl rfl xY rfl ?_
  exact MacOut.bad E.out (by omega) tr rfl
 have p0:¬ (4096:Int)<(pn:Int):=by omega
 have ME:=Hh (show qB p u ext pay key=yU rg p u ext [pay] from jS HV.out (by rw[HN.out];exact N0.out) (by rw[← HK.out.1];exact Ek.out) (by rw[← HY.out.1];exact hbig));have Zd:Hid (pay.length≤4096):=by rw[Hid,← HY.out.1];omega
 clear hbig;have c0:=hB.cell 0 rfl;have c1:=hB.cell 1 rfl;have c2:=hB.cell 2 rfl;have c3:=hB.cell 3 rfl;have c4:=hB.cell 4 rfl;have c5:=hB.cell 5 rfl;have c6:=hB.cell 6 rfl;have c7:=hB.cell 7 rfl
 obtain⟨H2,Pd,og,NY⟩:=ov (Grows.refl hG.holds) 23 [.slice PA pn pc] [pay] (by simp) (fun j hj=>by
  have:j=0:=by simpa using hj
  subst this
  exact⟨PA,pc,by rw[HY.out.1];rfl,HY.out.2.mono hG.le⟩)
 have Sx:=Pd.none Ze hR.lt;have xB:=hG.trans Pd;replace hB:=hB.alloc (.cells [Value.slice PA pn pc].toArray 23);replace hR:=hR.alloc (.cells [Value.slice PA pn pc].toArray 23);have IN:=Hh (vL (HT.out.mono xB.le) (HP.out.mono xB.le) (HU.out.mono xB.le) ⟨#[77,65,67,48]⟩ (by show(4:Nat)≤_;omega) (HX.out.2.1.mono xB.le) HX.out.2.2 NY (by simp) (fun l hl=>by simp at hl;subst hl;have:=Zd.out;omega) _ xB.holds);rw[← HX.out.1]at IN;clear hG og NY Pd;go_wp2_with fail
 refine IN.out.mono ?_
 rintro e w5 ⟨r5,l5,rfl,vC,qL⟩
 have Wt:([77,65,67,48]:List UInt8)=rg:=rfl
 try simp only[]at qL
 rw[Wt]at qL⊢;clear Wt IN;obtain⟨B5,d5,rfl,_⟩:=vC.own.form;replace hB:=hB.below vC.2;have Tf:=hR.lt;replace hR:=hR.below vC.2;clear c0 c1 c2 c3 c4 c5 c6 c7;obtain⟨E5,RF⟩:∃ E,yU rg p u ext [pay]=E:=⟨_,rfl⟩
 rw[RF]at qL⊢;have No:Hid (qB p u ext pay key=E5):=by rw[Hid,ME.out,RF]
 have WI:Hid (yU rg p u ext [pay]=E5):=RF;clear ME RF
 by_cases hE0:E5=0
 case neg =>
  have e0:(E5 != 0)=true:=by rw[bne_iff_ne];exact hE0
  have e1:=eq_false hE0;have Ta:=xB.below_ vC.2;have hG:Grows w H w5 H:=⟨Ta.below,Snap.le.refl _,Ta.holds.mono xB.le,fun _ _ h=>.inl h⟩
  have Md:=Hh hE0;clear hB vC qL xB Ta hE0;go_wp2_with (with_reducible refine zx ?_)
  refine zv rfl _ _ _ rfl rfl _ _ rfl rfl _ _ hR xY rfl (vt) fun wz hRz xI=>?_
  have tr:=hG.grownOwn Ze (by omega) xI;clear hR xI;go_wp2_with fail
  refine zY rfl rfl hRz rfl rfl xY rfl ?_
  exact MacOut.bad No.out Md.out tr rfl
 case pos =>
 subst hE0;rw[if_pos rfl]at qL;obtain⟨H5,vB,ev,Yx⟩:=Fresh.snapB xB.holds vC;have ix:=Hh (And.intro qL Yx);have Vr:=vB.none Sx Tf;have hG:=xB.trans vB;have Qz:=Hh ev;clear vC qL Yx xB vB ev Sx Tf;have vv:=xr HV.out;have We:=Hh vv;clear vv;have Cf:Hid (l5.length≤1099511000):=by rw[Hid,ix.out.1];have:=qP WI.out;omega
 have c0:=hB.cell 0 rfl;have c1:=hB.cell 1 rfl;have c2:=hB.cell 2 rfl;have c3:=hB.cell 3 rfl;have c4:=hB.cell 4 rfl;have c5:=hB.cell 5 rfl;have c6:=hB.cell 6 rfl;have c7:=hB.cell 7 rfl;go_wp2_with fail
 refine(pF (HT.out.mono hG.le) We.out.1 We.out.2.1 We.out.2.2.1 We.out.2.2.2 (HP.out.mono hG.le) (HU.out.mono hG.le) _ hG.holds).mono ?_
 rintro e w6 ⟨v6,rfl,xa,xb,H6,rfl,wl,Fa,Fc⟩
 have Vs:=wl.none Vr hR.lt;replace hR:=hR.below wl.below;replace hG:=hG.trans wl;have TP:=Hh (And.intro Fa Fc);replace Qz:=Hh (Qz.out.mono wl.le);clear hB Fa Fc Vr wl c0 c1 c2 c3 c4 c5 c6 c7;go_wp2_with fail
 refine(pI _ PA pay pn pc HY.out.1 (by have:=Zd.out;omega) (Src.of_row (HY.out.2.mono hG.le).row hG.holds)).mono ?_
 rintro e w7 ⟨r7,rfl,Yw⟩
 obtain⟨B7,d7,rfl,eT⟩:=Yw.own.form;clear eT;obtain⟨H7,vV,OM,mz⟩:=Fresh.snapB hG.holds Yw;have Sy:=vV.none Vs hR.lt;replace hR:=hR.below vV.below;replace hG:=hG.trans vV;replace TP:=Hh (And.intro (TP.out.1.mono vV.le) (TP.out.2.mono vV.le));replace Qz:=Hh (Qz.out.mono vV.le);have Cd:=Hh OM;clear Yw OM mz Vs vV;obtain⟨n7,mz⟩:∃ n,pay.length=n:=⟨_,rfl⟩
 have Cl:=Hh mz;rw[mz];clear mz;go_wp2_with fail
 refine(du HK.out.1 (by have:=HK.out.2.2;omega) (c:=kc) (b:=l5) rfl Cf.out (d:=d5) _ (Src.of_row (HK.out.2.1.mono hG.le).row hG.holds) (Src.of_row Qz.out.row hG.holds)).mono ?_
 rintro e w8 ⟨r8,rfl,fA⟩
 obtain⟨B8,d8,rfl,eT⟩:=fA.own.form;clear eT;obtain⟨H8,yA,U3,Qh⟩:=Fresh.snapB hG.holds fA;have Hi:=yA.none Sy hR.lt;replace hR:=hR.below yA.below;replace hG:=hG.trans yA;have Dw:(n:Int)≤(d8:Int):=by have:=ot key l5;have:=KN.out;have:=U3.le;omega
 have rL:(0:Int)≤(n:Int):=by omega
 have K9:=Hh U3;have Qg:=ot key l5;rw[Qg];have Il:=Hh (And.intro (TP.out.1.mono yA.le) (And.intro (TP.out.2.mono yA.le) (Cd.out.mono yA.le)));have KF:=Hh Qg;clear fA U3 Qh Sy yA Qg;go_wp2_with (with_reducible refine zx ?_)
 refine zv rfl _ _ _ rfl rfl _ _ rfl rfl _ _ hR xY rfl (VF p u xa xb _ _ _ _ _ _) fun w9 bx yL=>?_
 have tr:=hG.grownOwn Hi (by omega) yL;clear hG hR yL;go_wp2_with fail
 refine zY rfl rfl bx rfl rfl xY rfl ?_
 exact MacOut.good No.out tr Il.out.1 Il.out.2.1 Cl.out.symm Il.out.2.2 HN.out ix.out.1 (by have:=KF.out;have:=KN.out;omega) K9.out rfl
end Go.Proofs.YtliomcphdnppnaaGreatDoor
