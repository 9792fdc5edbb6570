/- squeezed. What a sort of pairs gives, whatev -/
import Derived.Test.YtliomcphdnppnaaGreatDoorK37
import Derived.Shelf.SlSortFuncK.WholeK
import Derived.Shelf.GgSortFunc.Tiny
set_option linter.unusedVariables false
set_option linter.unusedSimpArgs false
set_option maxRecDepth 100000
set_option maxHeartbeats 25600000
namespace Go.Proofs.YtliomcphdnppnaaGreatDoor
open Go.RowKit
theorem jbM{P:Prop}(h:P:=by exact⟨hX.box.cell 0 rfl,hX.grows.holds.cell q0,hX.grows.holds.cell q1,hX.grows.holds.cell q2,hX.grows.holds.cell q3,hX.grows.holds.cell s0,hX.grows.holds.cell s1,hX.grows.holds.cell s2,hX.grows.holds.cell s3⟩):P:=h
theorem jcU{P:Prop}(h:P:=by
 change Calls Tryz.prog 108 _ _ _ at hS
 exact hS.mono fun e w' ⟨he,os,hw⟩=>⟨he,fin w' os hw⟩):P:=h
theorem jdy{P:Prop}(h:P:=by
 go_wp2_with fail
 go_ret
 exact⟨rfl,nM⟩):P:=h
theorem jfv{P:Prop}(h:P:=by have x0:=hX.cell 0 rfl;have y0:=hY.cell 0 rfl;have x1:=hX.cell 1 rfl;have y1:=hY.cell 1 rfl;have x2:=hX.cell 2 rfl;have y2:=hY.cell 2 rfl;have x3:=hX.cell 3 rfl;have y3:=hY.cell 3 rfl;have x4:=hX.cell 4 rfl;have y4:=hY.cell 4 rfl;have x5:=hX.cell 5 rfl;exact And.intro x0 (And.intro y0 (And.intro x1 (And.intro y1 (And.intro x2 (And.intro y2 (And.intro x3 (And.intro y3 (And.intro x4 (And.intro y4 x5)))))))))):P:=h
theorem jgt{P:Prop}(h:P:=by have y5:=hY.cell 5 rfl;have x6:=hX.cell 6 rfl;have y6:=hY.cell 6 rfl;have x7:=hX.cell 7 rfl;have y7:=hY.cell 7 rfl;exact And.intro y5 (And.intro x6 (And.intro y6 (And.intro x7 y7)))):P:=h
theorem SO {α:Type}[Inhabited α] (k:α→List UInt8) (d d':Array α) (hn:d.toList.Pairwise fun a b=>k a≠k b) (ZU:Go.Sort.PermIn 0 d.size d d') (hs:Go.Sort.SortedIn (fun a b=>decide (Lib.compareBytes (k a) (k b)<0)) 0 d.size d') :
  d'.toList.Perm d.toList∧Asc k d'.toList:=by
 obtain⟨iu,_,hp⟩:=ZU
 have rI:d'.toList.Perm d.toList:=by
  have e1:(d'.extract 0 d.size)=d':=by rw[← iu];simp
  have e2:(d.extract 0 d.size)=d:=by simp
  rw[e1,e2]at hp
  exact hp
 refine⟨rI, ?_⟩
 have MM:d'.toList.Pairwise fun a b=>k a≠k b:=(rI.pairwise_iff (fun h=>Ne.symm h)).2 hn
 unfold Asc
 rw[List.pairwise_iff_getElem]at MM⊢
 intro i j hi hj FS
 have h1:=MM i j hi hj FS;have h2:=hs i j (Nat.zero_le _) FS (by simp at hj;omega)
 simp only[decide_eq_false_iff_not]at h2
 rw[getElem!_pos d' j (by simpa using hj),getElem!_pos d' i (by simpa using hi)]at h2;have h3:¬ Lib.compareBytes (k d'[j]) (k d'[i])=0:=fun e=>h1 (by simpa using ((mB _ _).1 e).symm)
 have h4:=fY _ _ h3 h2
 simpa using h4
theorem Vg {H:Snap}{d d':Array (PE H)}{l q:List Pr}(hp:Pairs (RP H) d.toList l) (hq:q.Perm l) (ha:Asc (·.1) q) (ZU:Go.Sort.PermIn 0 d.size d d') (hs:Go.Sort.SortedIn Z4 0 d.size d') :
  d'.size=d.size∧Pairs (RP H) d'.toList q:=by
 have hn:l.Pairwise fun a b=>a.1≠b.1:=by
  refine(hq.pairwise_iff (fun h=>Ne.symm h)).1 (ha.imp fun h e=>?_)
  simp only at h
  rw[e,sD]at h
  omega
 have e:(fun a b:PE H=>decide (Lib.compareBytes a.key b.key<0))=Z4:=rfl;obtain⟨h1,h2⟩:=SO (fun x:PE H=>x.key) d d' (VI hp hn) ZU (by rw[e];exact hs);obtain⟨q',h3,h4⟩:=Pairs.perm h1 hp;have h5:=dY (·.1) (Rh h3 h2) ha (h4.trans hq.symm);subst h5
 exact⟨by have:=h1.length_eq;simpa using this,h3⟩
theorem GG {H:Snap}:Go.Sort.SWO (Z4 (H:=H)):=Jm (fun x:PE H=>x.key)
end Go.Proofs.YtliomcphdnppnaaGreatDoor
namespace Go.Proofs.YtliomcphdnppnaaGreatDoor
open Go.RowKit Go.Shelf Go.Lib
theorem Ve {H:Snap}(d:Array (PE H)) (h2:2≤d.size) (Lu:d.size<4611686018427387904) (blk off c Bs:Nat) (w:World)
  (hW:Holds w H) (hHb:H blk=none) (hH:Go.Sort.HoldsK xC 9 w blk off d) (hblk:blk<w.heap.size) (hs:w.cell? ⟨Bs,0,none⟩=some (.slice (some ⟨blk,off,none⟩) d.size c)) (gi:Bs≠blk) (hBl:Bs<w.heap.size) :
  Calls Tryz.prog 108 #[.iface 147 (.slice (some ⟨blk,off,none⟩) d.size c),.func (.func 109) #[] #[.pointer (some ⟨Bs,0,none⟩)]] w fun e w'=>e=.returned (.tuple #[])∧∃ (d':Array (PE H)) (n:Nat) (os:Array Obj),Go.Sort.PermIn 0 d.size d d'∧Go.Sort.SortedIn Z4 0 d.size d'∧w'=Go.Sort.grow (Go.Sort.putRowK xC 9 (Sort.ahead w n) blk off d') os:=by
 have BV:LessReadsK (α:=PE H) Tryz.prog 109 #[.pointer (some ⟨Bs,0,none⟩)] xC 9 Z4 blk off d.size w:=by
  intro m os dk iu i j hi hj
  have hHm:Go.Sort.HoldsK xC 9 (Sort.ahead w m) blk off d:=Go.Sort.holdsK_ahead xC 9 w m blk off d hH;have Af:=Go.Sort.holdsK_putRowK xC 9 (Sort.ahead w m) blk off d dk hHm iu;have Hq:(Go.Sort.putRowK xC 9 (Sort.ahead w m) blk off dk).heap.size=w.heap.size:=Go.Sort.size_putRow id (Sort.ahead w m) blk off _;have BT:blk<(Go.Sort.putRowK xC 9 (Sort.ahead w m) blk off dk).heap.size:=by rw[Hq];exact hblk
  have hHg:=Go.Sort.holdsK_grow xC 9 (Go.Sort.putRowK xC 9 (Sort.ahead w m) blk off dk) os blk off dk BT Af
  have hWm:Holds (Go.Sort.grow (Go.Sort.putRowK xC 9 (Sort.ahead w m) blk off dk) os) H:=fun b o hb=>by
   have om:=hW.lt hb;have vl:b≠blk:=fun e=>by rw[e,hHb]at hb;cases hb
   rw[Go.Sort.heap_grow_old _ _ (by rw[Hq];exact om)]
   have hq:(w.heap.modify blk (Go.Sort.onCells (Go.Sort.putCells id off (Go.Sort.flatK xC 9 dk))))[b]? = some o:=by
    rw[Array.getElem?_modify,if_neg (Ne.symm vl)]
    exact hW b o hb
   exact hq
  refine(V8 blk off c Bs d.size _ hWm (fun t=>dk[t]!) ?_ (fun t ht=>?_) i j hi hj)
  ·rw[Go.Sort.cell?_grow _ _ _ (by rw[Hq];exact hBl),Go.Sort.cell?_putRowK_other xC 9 _ _ _ _ _ gi]
   exact hs
  exact(hHg.cell (i:=t) (c:=0) (by omega) (by omega)).1
 have hS:=Any.sort_Slice_cells_sorted (α:=PE H) ej 147 149 pairTI pairEI (by kernel_rfl) (by kernel_rfl) (by kernel_rfl) (by kernel_rfl) 25 (fun _=>by kernel_rfl) xC 9 R0 (by kernel_rfl) (fun _=>by kernel_rfl)
  (fun x v hv=>by
   rw[xC,List.mem_cons]at hv
   rcases hv with rfl | hv
   ·rfl
   exact x.one v hv) Z4 GG 109 _
  (enters_of Tryz.func109 (by kernel_rfl) rfl) blk off c d h2 Lu 176 (by rw[GE _ h2];kernel_rfl) false
  (fun args W=>run_callFunc_extern Tryz.func176 (by kernel_rfl) (by kernel_rfl) (by kernel_rfl) (e:=Extern.ReflectliteSwapper.swap false) (by kernel_rfl) args W) w BV hH hblk
 change Calls Tryz.prog 108 _ _ _ at hS
 exact hS.mono fun e w' ⟨he,d',n,os,h1,h2,hw⟩=>⟨he,d',n,os,h1,h2,hw⟩
theorem Xn {H:Snap}{w:World}{base m c:Nat}{A:Option Addr}{l q:List Pr}(hO:OwnX lF 149 w base (.slice A m c) H l) (hm:m=l.length) (h2:2≤l.length) (Lu:l.length<4611686018427387904)
  (hq:q.Perm l) (ha:Asc (·.1) q) (hW:Holds w H) (hap:∀ g,(Value.slice A m c).ownBlock=some g→H g=none) (Bs:Nat) (hs:w.cell? ⟨Bs,0,none⟩=some (.slice A m c)) (gi:(Value.slice A m c).ownBlock≠some Bs) (hBl:Bs<w.heap.size) :
  Calls Tryz.prog 108 #[.iface 147 (.slice A m c),.func (.func 109) #[] #[.pointer (some ⟨Bs,0,none⟩)]] w fun e w'=>e=.returned (.tuple #[])∧OwnX lF 149 w' base (.slice A m c) H q∧w.grownBy w' (Value.slice A m c).ownBlock:=by
 obtain⟨g,d,rfl,hgb,wl,hds,hp,hHK⟩:=Og hO (by omega);have hmd:m=d.size:=by rw[hm,hds]
 have SC:=Ve d (by omega) (by omega) g 0 c Bs w hW (hap g rfl) hHK wl (by rw[← hmd];exact hs) (fun e=>gi (by rw[e];rfl)) hBl;rw[← hmd]at SC
 refine SC.mono fun e w' ⟨he,d',n,os,h1,h2,hw⟩=>⟨he, ?_⟩
 rw[hmd]at h1 h2;obtain⟨iu,hps⟩:=Vg hp hq ha h1 h2;rw[hw]
 exact Nd (w:=w) hO (d':=d') (by rw[iu,hds]) hps n os
theorem XM.perm {α:Type}{L:Lie α}{t bt kt:TypeId}{W0 w w':World}{H Hr:Snap}{B:Nat}{kc:Array Value}{bv v:Value}{l l':List α}(h:XM L t bt kt W0 H B kc bv v l w Hr) (hO:OwnX L t w' (W0.heap.size+1) v Hr l') (hg:w.grownBy w' v.ownBlock):XM L t bt kt W0 H B kc bv v l' w' Hr :=
 ⟨h.grows.grownRow h.apart (fun g hg=>by have:=(h.own.lt g hg).1;omega) hg,h.hK,h.key.grown hg (fun e=>by have:=(h.own.lt _ e).1;omega),hO,h.apart,h.lt,h.hB,h.box.grown hg h.far,h.far⟩
theorem Tm (n:Nat) (h:n≤1):Lib.swapperK n pairEI 25=n+1:=by
 rcases Nat.eq_zero_or_pos n with h0 | h0
 ·subst h0;simp[Lib.swapperK]
 obtain rfl:n=1:=by omega
 simp[Lib.swapperK]
theorem Vf {H:Snap}(n:Nat) (hn:n≤1) (p:Option Addr) (c Bs:Nat) {w:World}(hW:Holds w H) :
  Calls Tryz.prog 108 #[.iface 147 (.slice p n c),.func (.func 109) #[] #[.pointer (some ⟨Bs,0,none⟩)]] w fun e w'=>e=.returned (.tuple #[])∧Below w.heap.size w w':=by
 have fin:∀ (w':World) os,w'=Go.Sort.grow w os→Below w.heap.size w w':=fun w' os hw=>by
  rw[hw]
  exact⟨rfl,rfl,rfl,by show w.heap.size≤(w.heap++os).size;rw[Array.size_append];omega,fun _ hj=>Go.Sort.heap_grow_old w os hj⟩
 rcases Nat.eq_zero_or_pos n with h0 | h0
 ·subst h0;have hS:=Any.sort_Slice_tiny ej 147 149 pairTI pairEI (by kernel_rfl) (by kernel_rfl) (by kernel_rfl) (by kernel_rfl) 25 (fun _=>by kernel_rfl) p 0 c (by omega) 168 (by rw[Tm 0 (by omega)];kernel_rfl) (.func 109) #[] #[.pointer (some ⟨Bs,0,none⟩)] w;exact jcU
 obtain rfl:n=1:=by omega
 have hS:=Any.sort_Slice_tiny ej 147 149 pairTI pairEI (by kernel_rfl) (by kernel_rfl) (by kernel_rfl) (by kernel_rfl) 25 (fun _=>by kernel_rfl) p 1 c (by omega) 169 (by rw[Tm 1 (by omega)];kernel_rfl) (.func 109) #[] #[.pointer (some ⟨Bs,0,none⟩)] w;exact jcU
theorem VQ {α:Type}{q l:List α}(h:q.Perm l) (hl:l.length≤1):q=l:=by
 match l,hl,h with
 | [],_,h=>exact h.eq_nil
 | [x],_,h=>exact List.perm_singleton.1 h
theorem Xm {H:Snap}{w:World}{base m c:Nat}{A:Option Addr}{l q:List Pr}(hO:OwnX lF 149 w base (.slice A m c) H l) (hm:m=l.length) (Lu:l.length<4611686018427387904)
  (hq:q.Perm l) (ha:Asc (·.1) q) (hW:Holds w H) (hap:∀ g,(Value.slice A m c).ownBlock=some g→H g=none) (Bs:Nat) (hs:w.cell? ⟨Bs,0,none⟩=some (.slice A m c)) (gi:(Value.slice A m c).ownBlock≠some Bs) (hBl:Bs<w.heap.size) :
  Calls Tryz.prog 108 #[.iface 147 (.slice A m c),.func (.func 109) #[] #[.pointer (some ⟨Bs,0,none⟩)]] w fun e w'=>e=.returned (.tuple #[])∧OwnX lF 149 w' base (.slice A m c) H q∧w.grownBy w' (Value.slice A m c).ownBlock:=by
 by_cases h2:2≤l.length
 ·exact Xn hO hm h2 Lu hq ha hW hap Bs hs gi hBl
 obtain rfl:=VQ hq (by omega)
 exact(Vf m (by omega) A c Bs hW).mono fun e w' ⟨he,hb⟩=>⟨he,hO.below hb,wj hb _⟩
end Go.Proofs.YtliomcphdnppnaaGreatDoor
namespace Go.Proofs.YtliomcphdnppnaaGreatDoor
open Go.RowKit
theorem gO {H:Snap}(hTab:Tabs H) {A:Option Addr}{c:Nat}{ps:List Itm}(hr:IsRowI H A c ps) (wF:ps.length%2=0) (h4:0≤ps.length) (og:ps.length≤1000) {qs:List Itm}(Ik:qs.length=ps.length) (hperm:(pk qs).Perm (pk ps)) (qg:xB qs=true)
  (rv:∀ x∈ps,zJ x=true) (hwh:zJ (.mk 5 0 [] qs)=true) (w:World) (hH:Holds w H) :
  Calls Tryz.prog 72 #[.slice A ps.length c] w (Mo w H qs):=by
 have hT:=Blk.new w 26 Yv;have hb:=zo w zi;have yO:=jgw;have b1:((ps.length:Int)%2==1)=false:=by rw[beq_eq_false_iff_ne];omega
 have p1:((ps.length:Int)%2=1)=False:=eq_false (by omega);have HR:=Hh hr;have HC:=Hh (And.intro wF (And.intro h4 og));have HA:=Hh (And.intro qg (And.intro rv hwh));have HQ:=Hh (And.intro Ik hperm);clear wF h4 og qg rv hwh hr Ik hperm;go_enter Tryz.func72,Tryz.ntmps72
 go_wp2_with fail
 go_loopw [18] (fun v18 wr=>∃ j:Nat,j≤ps.length∧v18=.int .i64 j∧Below w.heap.size w wr∧Blk wr w.heap.size 26 Yv) (fun v18 _=>ps.length-(intOf v18).toNat)
 case atStart=>exact⟨0,Nat.zero_le _,rfl,hb,hT⟩
 case round =>
 clear hb hT b1 p1;obtain⟨j,hj,rfl,xY,sO⟩:=hrel
 by_cases yu:j<ps.length
 ·have xN:=hH.below xY (Nat.le_refl _);obtain⟨ib,io,rC,wY⟩:=HR.out.elems (by omega);obtain⟨y1,y2,y3,y4,q0,q1,q2,q3,uy⟩:=wY.get j yu;subst rC;have p0:=xN.cell q0;have p1':=xN.cell q1;have p2:=xN.cell q2;have p3:=xN.cell q3;have Ae:=xN.alloc (zU ps[j] y1 y2 y3 y4);have V:=Hh (rX hTab uy.arg _ Ae);rw[HA.out.2.1 _ (List.getElem_mem yu)]at V;have zG:=xY.alloc xY.size (zU ps[j] y1 y2 y3 y4);have vU:=sO.alloc (zU ps[j] y1 y2 y3 y4)
  generalize ps[j]'yu=x at *
  clear q0 q1 q2 q3 wY uy xY sO xN Ae;go_wp2_with fail
  refine V.out.mono ?_
  rintro e w3 ⟨rfl,xj⟩
  have ti:=vU.below xj;have yz:=zG.trans (xj.mono zG.size);have LY:(j:Int)+1≤9223372036854775807:=by have:=HC.out.2.2;omega
  clear vU zG xj;go_wp2_with fail
  go_roundw
  case rel=>exact⟨j+1,by omega,by go_num,yz,ti⟩
  case measure=>simp[intOf];omega
 have qJ:j=ps.length:=by omega
 subst qJ;clear yu hj;obtain⟨n,hn⟩:∃ n,ps.length=2*n:=⟨ps.length/2,by have:=HC.out.1;omega⟩
 have hq:((ps.length:Int)/2)=(n:Int):=by omega
 have hqt:(ps.length:Int).tdiv 2=(n:Int):=by rw[Int.tdiv_eq_ediv_of_nonneg (by omega)];omega
 have HN:=Hh hn;have Cn:n≤500:=by have:=HC.out.2.2;omega
 have hG:=Grows.of_below hH xY;obtain⟨i0,tV,kA,rE,oz⟩:=info_parts dp;clear hn xY;go_wp2_with (at_make;refine zH ?_)
 refine wpList_make_own wr rfl _ _ 147 rfl (w.heap.size+1) 149 i0 _ 9 Tryz.underlying147 tV kA rE .i64 .i64 (n:Int) n rfl rfl rfl (by rw[oz];omega) (by simp only[maxLen];omega) (by have:=sO.lt;omega) fun w4 fD oE=>?_
 have yF:=hG.below_ (xe oE);have hX:=XM.start (bt:=147) (bv:=.slice none 0 0) yF yO (sO.grown oE (by simp)) (show OwnX lF 149 w4 (w.heap.size+1) (.slice (some ⟨wr.heap.size,0,none⟩) 0 n) H [] from⟨[],RowC.nil _ _,fD⟩) (fun g hg=>by simp[Value.ownBlock]at hg;subst hg;exact hG.hidden (Nat.le_refl _));obtain⟨B,hB⟩:∃ B,w4.heap.size=B:=⟨_,rfl⟩
 obtain⟨g0,gm⟩:∃ g0,wr.heap.size=g0:=⟨_,rfl⟩
 rw[hB]at hX;rw[gm]at hX⊢;clear fD oE yF hG sO tV kA rE oz gm;go_wp2_with (with_reducible refine zx ?_)
 unfold zC
 try rw[hB]
 refine zj rfl _ _ _ rfl rfl B 0 (.slice (some ⟨g0,0,none⟩) 0 n) rfl rfl _ _ hX.box gZ (by simp) rfl fun w5 oa xv=>?_
 replace hX:=hX.setBox (by simpa using oa) xv;clear oa xv hB hq hqt;go_wp2_with fail
 go_loopw [7] (fun v7 wx=>∃ (j:Nat) (Hx:Snap) (VA:Option Addr) (m vc:Nat),j≤ps.length∧j%2=0∧v7=.int .i64 (j:Int)∧m=j/2∧(∃ g':Nat,VA=some ⟨g',0,none⟩)∧XM lF 149 147 26 w H B Yv (.slice VA m vc) (.slice VA m vc) (pk (ps.take j)) wx Hx) (fun v7 _=>ps.length-(intOf v7).toNat)
 case atStart=>exact⟨0,H,some ⟨g0,0,none⟩,0,n,Nat.zero_le _,rfl,rfl,rfl,⟨g0,rfl⟩,by simpa [pk] using hX⟩
 case round =>
 clear hX;obtain⟨j,Hx,VA,m,vc,hj,Dy,rfl,hm,hVA,hX⟩:=hrel;have HVA:=Hh hVA;clear hVA;have HJ:=Hh (And.intro Dy hm);clear Dy hm
 by_cases yu:j<ps.length
 ·have js:j+1<ps.length:=by have:=HJ.out.1;have:=HC.out.1;omega
  have Hf:(j:Int)<ps.length:=by omega
  have BW:(j:Int)+1<ps.length:=by omega
  have LY:(j:Int)+2≤9223372036854775807:=by have:=HC.out.2.2;omega
  have QI:IntKind.i64.wrap ((j:Int)+1)=(j:Int)+1:=IntWalk.i64_in _ (by omega);have zB1:(0:Int)≤(j:Int)+1:=by omega
  obtain⟨ib,io,rC,wY⟩:=HR.out.elems (by omega);obtain⟨y1,y2,y3,y4,q0,q1,q2,q3,ZO⟩:=wY.get j yu;obtain⟨z1,z2,z3,z4,s0,s1,s2,s3,ij⟩:=wY.get (j+1) js;subst rC;have HV:=Hh (vL (HA.out.2.1 _ (List.getElem_mem yu)))
  have HPK:Hid (pk (ps.take (j+2))=pk (ps.take j)++[(zZ ps[j],ps[j],ps[j+1])]):=by
   obtain⟨i,rfl⟩:∃ i,j=2*i:=⟨j/2,by have:=HJ.out.1;omega⟩
   exact Ka ps i js
  have fh:Hid ((pk (ps.take j)).length=m):=by rw[Hid,ew,List.length_take];have:=HJ.out;omega
  have yw:=hX.grows.le;have q0:=yw.cell q0;have q1:=yw.cell q1;have q2:=yw.cell q2;have q3:=yw.cell q3;have s0:=yw.cell s0;have s1:=yw.cell s1;have s2:=yw.cell s2;have s3:=yw.cell s3;have ZO:=ZO.mono yw;have ij:=ij.mono yw
  generalize ps[j]'yu=y at *
  generalize ps[j+1]'js=z at *
  generalize pk (ps.take j)=L at hX HPK fh
  clear wY yw hj;go_upto_region 13 with fail
  replace hX:=hX.drew;have Fk:=Hh (And.intro ZO ij);clear ZO ij
  refine tB 17 (fun wx=>wx.cell? ⟨B,0,none⟩=some (.slice VA m vc)∧wx.cell? ⟨ib,io+j*4,none⟩=some (.int .i64 y.kind)∧wx.cell? ⟨ib,io+j*4+1,none⟩=some (.int .u64 y.n)∧wx.cell? ⟨ib,io+j*4+2,none⟩=some (.slice y1 y.bytes.length y2)∧wx.cell? ⟨ib,io+j*4+3,none⟩=some (.slice y3 y.items.length y4)∧wx.cell? ⟨ib,io+(j+1)*4,none⟩=some (.int .i64 z.kind)∧wx.cell? ⟨ib,io+(j+1)*4+1,none⟩=some (.int .u64 z.n)∧wx.cell? ⟨ib,io+(j+1)*4+2,none⟩=some (.slice z1 z.bytes.length z2)∧wx.cell? ⟨ib,io+(j+1)*4+3,none⟩=some (.slice z3 z.items.length z4)) (by kernel_rfl) (⟨hX.box.cell 0 rfl,hX.grows.holds.cell q0,hX.grows.holds.cell q1,hX.grows.holds.cell q2,hX.grows.holds.cell q3,hX.grows.holds.cell s0,hX.grows.holds.cell s1,hX.grows.holds.cell s2,hX.grows.holds.cell s3⟩) (fun zy=>?_)
  refine Zk 0 rfl zy ?_
  refine Zk 1 rfl zy ?_
  refine Zk 2 rfl zy ?_
  refine Zk 3 rfl zy ?_
  refine Zk 4 rfl zy ?_
  refine Zk 6 rfl zy ?_
  refine Zk 7 rfl zy ?_
  refine Zk 8 rfl zy ?_
  refine Zk 9 rfl zy ?_
  refine Zk 10 rfl zy ?_
  refine Zk 11 rfl zy ?_
  refine Zk 12 rfl zy ?_
  refine Zk 13 rfl zy ?_
  refine Zk 14 rfl zy ?_
  refine Zo 5 rfl fun K hK=>?_
  go_simp
  refine(oO y Hx _ _ _ _ _ _ _ _ _ _ (.slice none 0 0) [] HV.out.1 Fk.out.1.arg hX.grows.holds (OwnB.nil _ _) (Nat.le_refl _) (by simp[Value.ownBlock]) (by have:=HV.out.2.2;simp;omega)).mono ?_
  rintro e w5 ⟨r5,rfl,wg,xv,_⟩
  obtain⟨A5,c5,rfl,_⟩:=OwnB.form wg;obtain⟨H5,wb,dF,_⟩:=Fresh.snapB hX.grows.holds ⟨wg,xe xv⟩;have hX:=hX.grow wb;have q0:=wb.le.cell q0;have q1:=wb.le.cell q1;have q2:=wb.le.cell q2;have q3:=wb.le.cell q3;have s0:=wb.le.cell s0;have s1:=wb.le.cell s1;have s2:=wb.le.cell s2;have s3:=wb.le.cell s3
  refine Ko hK ?_ fun zy=>?_
  ·exact jbM
  clear hK K
  refine Zk 15 rfl zy ?_
  refine Zo 16 rfl fun K hK=>?_
  go_simp
  have CF:RowC lF H5 (.slice A5 (zZ y).length c5::(zV y y1 y2 y3 y4++zV z z1 z2 z3 z4)) [(zZ y,y,z)]:=RowC.one ⟨A5,c5,y1,y2,y3,y4,z1,z2,z3,z4,rfl,dF,Fk.out.1.mono wb.le,Fk.out.2.mono wb.le⟩;have hZ:=hX.litZ (.slice A5 (zZ y).length c5::(zV y y1 y2 y3 y4++zV z z1 z2 z3 z4)).toArray 149;have hX:=hX.alloc (.cells (.slice A5 (zZ y).length c5::(zV y y1 y2 y3 y4++zV z z1 z2 z3 z4)).toArray 149)
  refine Ko hK ?_ fun zy=>?_
  ·exact jbM
  clear hK K
  refine Zo 17 rfl fun K hK=>?_
  rw[if_pos (by rfl)]
  refine OwnX.append_wp2 (L:=lF) _ _ 147 rfl Tryz.underlying147 rfl (by omega) dp rfl hX.own _ _ _ _ [(zZ y,y,z)] rfl rfl CF hZ (by have:=fh.out;have:=HJ.out.2;have:=HC.out.2.2;simp;omega) hX.base fun v7 w7 vT ww Wc=>?_
  have hX:=hX.app vT ww Wc;obtain⟨A7,c7,rfl,_⟩:=vT.form;have HA7:Hid (∃ g':Nat,A7=some ⟨g',0,none⟩):=by obtain⟨g',d',h1,_⟩:=Og vT (by simp);exact⟨g',h1⟩
  rw[show(L++[(zZ y,y,z)]).length=m+1 by have:=fh.out;simp;omega]at hX⊢;clear vT ww Wc hZ CF
  refine Kz hK ?_
  clear hK K
  refine Zo 18 rfl fun K hK=>?_
  rw[if_pos (by rfl)]
  refine xt _ _ _ rfl B 0 (.slice A7 (m+1) c7) rfl rfl _ _ hX.box gZ (by simp) rfl fun w8 bz hg8=>?_
  have hX:=hX.setBox (by simpa using bz) hg8;clear bz hg8
  refine Kz hK ?_
  clear hK K
  refine WaysZ.done (by kernel_rfl) ?_
  clear zy q0 q1 q2 q3 s0 s1 s2 s3 wb dF;go_wp2_with fail
  go_roundw
  case rel=>exact⟨j+2,H5,A7,m+1,c7,by omega,by have:=HJ.out.1;omega,by go_num,by have:=HJ.out;omega,HA7.out,by rw[HPK.out];exact hX⟩
  case measure=>simp[intOf];omega
 have qJ:j=ps.length:=by omega
 subst qJ;clear yu hj;rw[List.take_length]at hX;have pq:(pk ps).length=n:=by rw[ew,HN.out];omega
 obtain rfl:m=n:=by have:=HJ.out.2;have:=HN.out;omega
 have hqp:(pk qs).length=m:=by rw[HQ.out.2.length_eq,pq]
 have Iy:Asc (·.1) (pk qs):=Fs HA.out.1;have SRT:=Xm (q:=pk qs) hX.own pq.symm (by omega) HQ.out.2 Iy hX.grows.holds hX.apart B (hX.box.cell 0 rfl) hX.far hX.box.lt;have SRTH:=Hh SRT;obtain⟨g,hgA⟩:=HVA.out;subst hgA;have c0:=hX.box.cell 0 rfl;have fh:=Hh hqp;clear SRT Iy hqp pq;go_wp2_with fail
 refine SRTH.out.mono ?_
 rintro e w9 ⟨rfl,gj,xR⟩
 replace hX:=hX.perm gj xR;obtain⟨H9,qp,Lb,zAm,Ba,IP,fR⟩:=hX.snap;clear zAm;have Gs:=hX.box;have uI:=hX.key;have Ci:=hX.lt;clear hX gj xR SRTH c0 Lb;have By:=Gs.lt;have hM:=(Blk.new w9 26 Yv)
 have Ak:H9 w9.heap.size=none:=qp.holds.none_of_ge (Nat.le_refl _);obtain⟨M,Ai⟩:∃ M,w9.heap.size=M:=⟨_,rfl⟩
 have HM:=Hh (And.intro qp.size (And.intro By Ai));rw[Ai]at hM Ak;go_wp2_with (with_reducible refine zx ?_)
 unfold zC
 try rw[Ai]
 refine zv rfl _ _ _ rfl rfl M _ rfl rfl _ _ hM zu rfl (tR _ _ _ _ rfl rfl rfl rfl) fun w11 hM11 pY=>?_
 have hS:BM w H B M #[.slice (some ⟨g,0,none⟩) m vc] (.slice none 0 0) (.slice none 0 0) [] w11 H9 :=
  ⟨(qp.alloc zi).grownOwn Ak (by have:=HM.out;omega) pY,IP,fR,Ak,Ci,by have:=uI.lt;have:=HM.out;omega,by have:=HM.out;omega,(uI.alloc zi).grown pY (fun e=>by injection e with e;have:=uI.lt;have:=HM.out;omega),
   (Gs.alloc zi).grown pY (fun e=>by injection e with e;have:=HM.out;omega),hM11,OwnI.nil _ _ _,fun g hg=>by simp[Value.ownBlock]at hg⟩
 have c0:=hS.boxB.cell 0 rfl;clear hM Ak Ai pY hM11 Gs uI Ci By qp IP fR;go_wp2_with fail
 go_loopw [62] (fun v62 wx=>∃ (i:Nat) (Hx:Snap) (VA:Option Addr) (vm v9:Nat),i≤m∧v62=.int .i64 (i:Int)∧vm=2*i∧H9.le Hx∧BM w H B M #[.slice (some ⟨g,0,none⟩) m vc] (.slice VA vm v9) (.slice VA vm v9) (qs.take (2*i)) wx Hx) (fun v62 _=>m-(intOf v62).toNat)
 case atStart=>exact⟨0,H9,none,0,0,Nat.zero_le _,rfl,rfl,Snap.le.refl _,by simpa using hS⟩
 case round =>
 clear hS c0;obtain⟨i,Hx,VA,vm,v9,him,rfl,EW,yw,hS⟩:=hrel;have HI:=Hh (And.intro him EW);clear him EW
 by_cases yu:i<m
 ·have oF:2*i+1<qs.length:=by have:=HN.out;have:=HQ.out.1;omega
  have Hf:(i:Int)<m:=by omega
  have zA4:(i:Int)+1≤9223372036854775807:=by have:=HC.out.2.2;have:=HN.out;omega
  have hgi:=iR qs i oF;have Wy:i<(pk qs).length:=by have:=fh.out;omega
  rw[List.getElem?_eq_getElem Wy]at hgi;have Cc:=Option.some.inj hgi
  have AF:Hid (qs.take (2*(i+1))=qs.take (2*i)++[qs[2*i]'(by omega),qs[2*i+1]]):=by
   rw[Hid,show 2*(i+1)=2*i+1+1 by omega,List.take_succ_eq_append_getElem oF,List.take_succ_eq_append_getElem (by omega),List.append_assoc];rfl
  have aH:Hid (∀ k,k+1=i→∀ hk:k<(pk qs).length,Lib.compareBytes ((pk qs)[k].1) (zZ (qs[2*i]'(Nat.lt_of_succ_lt oF)))<0):=fun k hk qJ=>by
   subst hk;have e1:=iR qs k (by omega);rw[List.getElem?_eq_getElem qJ]at e1;rw[Option.some.inj e1]
   exact OJ (m:=2*k) HA.out.1 (by omega) (by omega)
  obtain⟨gb,go,hga,Ox⟩:=Ba.at_ (by omega)
  cases hga
  obtain⟨dc,⟨KA,kc,y1,y2,y3,y4,z1,z2,z3,z4,hdc,UE,ZO,ij⟩,xP⟩:=Ox i Wy;subst hdc;rw[Cc]at UE ZO ij xP;have iS:=Hh Ox;have r0:=yw.cell (xP 0 _ rfl);have r1:=yw.cell (xP 1 _ rfl);have r2:=yw.cell (xP 2 _ rfl);have r3:=yw.cell (xP 3 _ rfl);have r4:=yw.cell (xP 4 _ rfl);have r5:=yw.cell (xP 5 _ rfl);have r6:=yw.cell (xP 6 _ rfl);have r7:=yw.cell (xP 7 _ rfl);have r8:=yw.cell (xP 8 _ rfl);have UE:=UE.mono yw;have ZO:=ZO.mono yw;have ij:=ij.mono yw
  generalize qs[2*i]'(by omega)=y at *
  generalize qs[2*i+1]'oF=z at *
  generalize hLL:qs.take (2*i)=LL at hS AF
  have pH:Hid (LL.length=vm):=by rw[Hid,← hLL,List.length_take];have:=HI.out;omega
  have DE:=Hh (And.intro UE (And.intro ZO ij));clear hgi Cc xP Ox UE ZO ij hLL;have r0:=hS.grows.holds.cell r0;have r1:=hS.grows.holds.cell r1;have r2:=hS.grows.holds.cell r2;have r3:=hS.grows.holds.cell r3;have r4:=hS.grows.holds.cell r4;have r5:=hS.grows.holds.cell r5;have r6:=hS.grows.holds.cell r6;have r7:=hS.grows.holds.cell r7;have r8:=hS.grows.holds.cell r8
  simp only[lF,Nat.add_zero,Nat.zero_add,← Nat.add_assoc]at r0 r1 r2 r3 r4 r5 r6 r7 r8
  go_upto_region 19 with fail
  have hD:=Blk.new wr 149 #[.slice KA (zZ y).length kc,.int .i64 y.kind,.int .u64 y.n,.slice y1 y.bytes.length y2,.slice y3 y.items.length y4,.int .i64 z.kind,.int .u64 z.n,.slice z1 z.bytes.length z2,.slice z3 z.items.length z4];replace hS:=hS.alloc (.cells #[.slice KA (zZ y).length kc,.int .i64 y.kind,.int .u64 y.n,.slice y1 y.bytes.length y2,.slice y3 y.items.length y4,.int .i64 z.kind,.int .u64 z.n,.slice z1 z.bytes.length z2,.slice z3 z.items.length z4] 149);obtain⟨P,Di⟩:∃ P,wr.heap.size=P:=⟨_,rfl⟩
  obtain⟨w2,pj⟩:∃ w2,wr.alloc (.cells #[.slice KA (zZ y).length kc,.int .i64 y.kind,.int .u64 y.n,.slice y1 y.bytes.length y2,.slice y3 y.items.length y4,.int .i64 z.kind,.int .u64 z.n,.slice z1 z.bytes.length z2,.slice z3 z.items.length z4] 149)=w2:=⟨_,rfl⟩
  rw[pj]at hS hD⊢;rw[Di]at hD⊢;clear pj Di r0 r1 r2 r3 r4 r5 r6 r7 r8;go_cut [79] (fun s79 wx=>s79=.bool false∧BM w H B M #[.slice (some ⟨g,0,none⟩) m vc] (.slice VA vm v9) (.slice VA vm v9) LL wx Hx∧Blk wx P 149 #[.slice KA (zZ y).length kc,.int .i64 y.kind,.int .u64 y.n,.slice y1 y.bytes.length y2,.slice y3 y.items.length y4,.int .i64 z.kind,.int .u64 z.n,.slice z1 z.bytes.length z2,.slice z3 z.items.length z4])
  case first =>
   by_cases h0:i=0
   ·subst h0
    refine zw 12 (fun _=>True) (by kernel_rfl) (trivial) (fun zy=>?_)
    refine Tk 0 rfl zy ?_
    refine Tk 1 rfl zy ?_
    refine Tk 2 rfl zy ?_
    refine TkU 3 rfl zy ?_
    refine TkU 4 rfl zy ?_
    refine TkU 5 rfl zy ?_
    refine TkU 6 rfl zy ?_
    refine TkU 7 rfl zy ?_
    refine TkU 8 rfl zy ?_
    refine TkU 9 rfl zy ?_
    refine TkU 10 rfl zy ?_
    refine TkU 11 rfl zy ?_
    refine To 12 rfl fun K hK=>?_
    go_simp
    refine Kz hK ?_
    clear hK K
    refine Wd ?_
    go_wp2_with fail
    go_meet
    exact⟨rfl,hS.drew,hD.drew⟩
   obtain⟨k,rfl⟩:∃ k,i=k+1:=⟨i-1,by omega⟩
   obtain⟨dk,⟨KB,kd,u1,u2,u3,u4,u5,u6,u7,u8,hdk,JT,_,_⟩,xP⟩:=iS.out k (by have:=fh.out;omega);subst hdk
   have vl:Hid (((pk qs)[k]'(by have:=fh.out;omega)).1≠zZ y):=fun e=>by
    have h1:=aH.out k rfl (by have:=fh.out;omega);rw[e,sD]at h1
    omega
   have rk:=xP 0 _ rfl
   generalize ((pk qs)[k]'(by have:=fh.out;omega)).1=kb at *
   have rk:=hS.grows.holds.cell (yw.cell rk)
   simp only[lF,Nat.add_zero,Nat.zero_add]at rk
   have hEQ:Hid ((kb==zZ y)=false):=by rw[Hid,beq_eq_false_iff_ne];exact vl.out
   have e2:((k+1:Nat):Int)=(k:Int)+1:=by omega
   try rw[e2]
   have sW:IntKind.i64.wrap ((k:Int)+1-1)=(k:Int):=by rw[show(k:Int)+1-1=(k:Int) by omega];exact IntWalk.i64_in _ (by omega)
   have EX:IntKind.i64.wrap (k:Int)=(k:Int):=IntWalk.i64_in _ (by omega);have hkI:(k:Int)<m:=by omega
   have kC:(0:Int)≤(k:Int):=by omega
   have hkp:(0:Int)<(k:Int)+1:=by omega
   have Aq:k<m:=by omega
   have hKB:=Hh (JT.mono yw);have c0:=hS.boxB.cell 0 rfl;have d0:=hD.cell 0 rfl;replace hS:=hS.drew;replace hD:=hD.drew;clear xP JT vl e2 Hf zA4 h0
   refine zw 12 (fun wx=>wx.cell? ⟨B,0,none⟩=some (.slice (some ⟨g,0,none⟩) m vc)∧wx.cell? ⟨g,k*9,none⟩=some (.slice KB kb.length kd)∧wx.cell? ⟨P,0,none⟩=some (.slice KA (zZ y).length kc)) (by kernel_rfl) (⟨c0,rk,d0⟩) (fun zy=>?_)
   refine Tk 0 rfl zy ?_
   refine Tk 1 rfl zy ?_
   refine Tk 2 rfl zy ?_
   refine TkG 3 rfl zy ?_
   refine TkG 4 rfl zy ?_
   refine TkG 5 rfl zy ?_
   refine TkG 6 rfl zy ?_
   refine TkG 7 rfl zy ?_
   refine TkG 8 rfl zy ?_
   refine TkG 9 rfl zy ?_
   refine TkG 10 rfl zy ?_
   refine To 11 rfl fun K hK=>?_
   go_simp
   refine(pK _ KB KA kb (zZ y) _ _ kd kc rfl rfl (Src.of_row hKB.out.row hS.grows.holds) (Src.of_row DE.out.1.row hS.grows.holds)).mono ?_
   rintro e w5 ⟨rfl,rfl⟩
   rw[hEQ.out]
   refine Ko hK ?_ fun zy=>?_
   ·exact⟨c0,rk,d0⟩
   clear hK K
   refine To 12 rfl fun K hK=>?_
   go_simp
   refine Kz hK ?_
   clear hK K
   refine Wd ?_
   clear zy c0 rk d0;go_wp2_with fail
   go_meet
   exact⟨rfl,hS,hD⟩
  case rest =>
  clear hS hD;obtain⟨rfl,hS,hD⟩:=hcut;have m3:=hS.boxM.cell 3 rfl;have d1:=hD.cell 1 rfl;have d2:=hD.cell 2 rfl;have d3:=hD.cell 3 rfl;have d4:=hD.cell 4 rfl;have d5:=hD.cell 5 rfl;have d6:=hD.cell 6 rfl;have d7:=hD.cell 7 rfl;have d8:=hD.cell 8 rfl;have HS:=Hh hS;clear hS hD;go_wp2_with (at_builtin;refine zH ?_)
  unfold zC
  have hZ:=HS.out.litZ (zV y y1 y2 y3 y4++zV z z1 z2 z3 z4).toArray 26;have hS:=HS.out.alloc (.cells (zV y y1 y2 y3 y4++zV z z1 z2 z3 z4).toArray 26)
  refine xr rfl _ _ rfl _ _ _ _ rfl hS.own _ _ _ _ [y,z] rfl rfl ((ItemsC.one DE.out.2.1).app (ItemsC.one DE.out.2.2)) hZ (by have:=pH.out;have:=HI.out;have:=HC.out.2.2;have:=HN.out;simp;omega) hS.base fun v7 w7 vT ww Wc=>?_
  replace hS:=hS.app vT ww Wc;obtain⟨A7,c7,rfl,_⟩:=vT.form;rw[show(LL++[y,z]).length=vm+2 by have:=pH.out;simp;omega]at hS⊢;clear vT ww Wc hZ HS m3 d1 d2 d3 d4 d5 d6 d7 d8;go_wp2_with (with_reducible refine zx ?_)
  refine zj rfl _ _ _ rfl rfl M 3 (.slice A7 (vm+2) c7) rfl rfl _ _ hS.boxM tx (by simp) rfl fun w8 bz hg8=>?_
  replace hS:=hS.setM (by simpa using bz) hg8;clear bz hg8;go_wp2_with fail
  go_roundw
  case rel=>exact⟨i+1,Hx,A7,vm+2,c7,by omega,by go_num,by have:=HI.out;omega,yw,by rw[AF.out];exact hS⟩
  case measure=>simp[intOf];omega
 have qJ:i=m:=by have:=HI.out.1;omega
 subst qJ;clear yu;rw[show 2*i=qs.length from by have:=HN.out;have:=HQ.out.1;omega,List.take_length]at hS;obtain⟨H12,zR,zAo,TD,Cn⟩:=hS.item;have m0:=hS.boxM.cell 0 rfl;have m1:=hS.boxM.cell 1 rfl;have m2:=hS.boxM.cell 2 rfl;have m3:=hS.boxM.cell 3 rfl;have uI:=hS.key;subst zAo;have DE:=Hh TD;have HV:=Hh (rX (hTab.mono zR.le) (x:=.mk 5 0 [] qs) TD.arg _ zR.holds);rw[HA.out.2.2]at HV;have HMo:=Hh (yU HA.out.2.2);clear hS TD;go_wp2_with fail
 refine HV.out.mono ?_
 rintro e w13 ⟨rfl,sy⟩
 have rR:=zR.below_ sy;have m0:=(m0b sy m0)
 have m1:=(m0b sy m1)
 have m2:=(m0b sy m2)
 have m3:=(m0b sy m3)
 replace uI:=uI.below sy;have CP:=Hh (lr (.mk 5 0 [] qs) H12 _ _ _ _ _ _ _ _ w13 HMo.out DE.out.arg rR.holds);clear HV sy zR;go_wp2_with fail
 refine CP.out.mono ?_
 rintro e w14 ⟨v14,rfl,xa,xb,xc,xd,H14,rfl,wQ,zAR⟩
 have C9:=rR.trans wQ;have zAl:=wQ.none Cn uI.lt;replace uI:=uI.below wQ.below;clear CP rR wQ;go_wp2_with (with_reducible refine zx ?_)
 refine stI uI fun w16 WB hg16=>?_
 have aI:=C9.grownOwn zAl (Nat.le_refl _) hg16;clear C9 hg16 uI;go_wp2_with fail
 refine zp rfl rfl WB rfl rfl zu rfl ?_
 exact⟨_,rfl,xa,xb,xc,xd,H14,rfl,aI,zAR⟩
theorem gN {p:Itm}(h:zJ p=true) (h5:p.kind=5):p.items.length%2=0∧p.items.length≤1000∧xB p.items=true∧(∀ x∈p.items,zJ x=true)∧zJ (.mk 5 0 [] p.items)=true:=by
 obtain⟨e,h2,ha⟩:=Vs h h5
 exact⟨h2,by have:=(uV h).2.1;omega,ha,fun x hx=>vK h hx,by rw[← e];exact h⟩
theorem ll {H:Snap}(hTab:Tabs H) {p u:Itm}(vp:zJ p=true) (vu:zJ u=true) (kp:p.kind=5) (ku:u.kind=5) {a b:Ad}(hp:IsItem H a.ba a.bc a.ia a.ic p) (hu:IsItem H b.ba b.bc b.ia b.ic u) (w:World) (hH:Holds w H) :
  Calls Tryz.prog 32 #[.agg (zA p a u b)] w fun e w'=>∃ v,e=.returned v∧Vp w H p u v w':=by
 have hB:=(Blk.new w 28 (zA p a u b)).alloc wG;have hR:=Blk.new (w.alloc (.cells (zA p a u b) 28)) 28 (zA ze ⟨none,0,none,0⟩ ze ⟨none,0,none,0⟩)
 simp only[zr]at hR
 have hG:=((Grows.refl hH).alloc (.cells (zA p a u b) 28)).alloc wG;have UA:H (w.heap.size+1)=none:=hH.none_of_ge (by omega);have HP:=Hh hp;have HU:=Hh hu;have HT:=Hh hTab;have EP:=Hh (Vs vp kp).1;have EU:=Hh (Vs vu ku).1;have BP:=Hh (gN vp kp);have BU:=Hh (gN vu ku);have C1:=Hh (gO hTab hp.row BP.out.1 (Nat.zero_le _) BP.out.2.1 rfl (List.Perm.refl _) BP.out.2.2.1 BP.out.2.2.2.1 BP.out.2.2.2.2 _ hG.holds);clear vp vu kp ku hp hu hTab hH;have c3:=jfk;go_enter Tryz.func32,Tryz.ntmps32
 go_wp2_with fail
 refine C1.out.mono ?_
 rintro e w2 ⟨v2,rfl,xa,xb,xc,xd,H2,rfl,yE,JJ⟩
 rw[← EP.out]at JJ⊢;have ye:=hG.trans yE;have LN:=yE.none UA hR.lt;replace hR:=hR.below yE.below;replace hB:=hB.below yE.below;have hX:=Blk.new w2 26 #[.int .i64 p.kind,.int .u64 p.n,.slice xa p.bytes.length xb,.slice xc p.items.length xd];have M9:=hR.lt;replace hR:=hR.alloc (zU p xa xb xc xd);replace hB:=hB.alloc (zU p xa xb xc xd);have yF:=ye.alloc (zU p xa xb xc xd);have C2:=Hh (gO (HT.out.mono yF.le) (HU.out.mono yF.le).row BU.out.1 (Nat.zero_le _) BU.out.2.1 rfl (List.Perm.refl _) BU.out.2.2.1 BU.out.2.2.2.1 BU.out.2.2.2.2 _ yF.holds);have c7:=hB.cell 7 rfl;clear C1 yE ye hG hB c3;go_wp2_with fail
 refine C2.out.mono ?_
 rintro e w4 ⟨v4,rfl,ya,yb,yc,yd,H4,rfl,wb,hI4⟩
 rw[← EU.out]at hI4⊢;have xq:=yF.trans wb;have zAL:=wb.none LN hR.lt;replace hR:=(hR.below wb.below).alloc (zU u ya yb yc yd);replace hX:=(hX.below wb.below).alloc (zU u ya yb yc yd);have hY:=Blk.new w4 26 #[.int .i64 u.kind,.int .u64 u.n,.slice ya u.bytes.length yb,.slice yc u.items.length yd];have wJ:=xq.alloc (zU u ya yb yc yd);have zAQ:=JJ.mono wb.le;have x0:=hX.cell 0 rfl;have x1:=hX.cell 1 rfl;have x2:=hX.cell 2 rfl;have x3:=hX.cell 3 rfl;have y0:=hY.cell 0 rfl;have y1:=hY.cell 1 rfl;have y2:=hY.cell 2 rfl;have y3:=hY.cell 3 rfl;clear C2 wb xq yF JJ c7 hX hY M9;go_upto_region 3 with fail
 go_wp2_with (with_reducible refine zx ?_)
 refine zv rfl _ _ _ rfl rfl _ _ rfl rfl _ _ hR zD rfl (by kernel_rfl) fun w9 Wa xR=>?_
 have qp:=wJ.grownOwn zAL (by omega) xR;go_wp2_with fail
 refine zF rfl rfl Wa rfl rfl zD rfl ?_
 exact⟨_,rfl,⟨xa,xb,xc,xd⟩,⟨ya,yb,yc,yd⟩,H4,rfl,qp,zAQ,hI4⟩
theorem VT {H:Snap}{p u:Itm}(gn:Modest p) (dH:Modest u) {a b c d:Ad}(hp:IsItem H a.ba a.bc a.ia a.ic p) (hu:IsItem H b.ba b.bc b.ia b.ic u) (rI:IsItem H c.ba c.bc c.ia c.ic p) (kD:IsItem H d.ba d.bc d.ia d.ic u) (w:World) (hH:Holds w H) :
  Calls Tryz.prog 38 #[.agg (zA p a u b),.agg (zA p c u d)] w fun e w'=>e=.returned (.bool true)∧Below w.heap.size w w':=by
 have hX:=(Blk.new w 28 (zA p a u b)).alloc (.cells (zA p c u d) 28);have hY:=Blk.new (w.alloc (.cells (zA p a u b) 28)) 28 (zA p c u d);rw[zr]at hY;have hb:=(zo w (.cells (zA p a u b) 28)).alloc (zo w (.cells (zA p a u b) 28)).size (.cells (zA p c u d) 28);have hh:=(hH.alloc (.cells (zA p a u b) 28)).alloc (.cells (zA p c u d) 28);have S1:=Hh (pz p p H _ _ _ _ _ _ _ _ _ _ _ _ _ _ _ _ _ gn gn hp.arg rI.arg hh);have S2:=Hh (fun w hw=>pz u u H _ _ _ _ _ _ _ _ _ _ _ _ _ _ _ _ w dH dH hu.arg kD.arg hw);rw[(vS p p).2 rfl]at S1;rw[(vS u u).2 rfl]at S2;obtain⟨x0,y0,x1,y1,x2,y2,x3,y3,x4,y4,x5⟩:=jfv
 obtain⟨y5,x6,y6,x7,y7⟩:=jgt;clear hp hu rI kD;have HH:=Hh hh;clear hh hH;go_enter Tryz.func38,Tryz.ntmps38
 go_wp2_with fail
 refine S1.out.mono ?_
 rintro e w2 ⟨rfl,zG⟩
 replace hX:=hX.below zG;replace hY:=hY.below zG;have yz:=hb.trans (zG.mono hb.size);have Mg:=HH.out.below zG (Nat.le_refl _);clear S1 x0 y0 x1 y1 x2 y2 x3 y3 x4 y4 x5 y5 x6 y6 x7 y7;obtain⟨x0,y0,x1,y1,x2,y2,x3,y3,x4,y4,x5⟩:=jfv;obtain⟨y5,x6,y6,x7,y7⟩:=jgt;go_wp2_with fail
 refine(S2.out _ Mg).mono ?_
 rintro e w3 ⟨rfl,xj⟩
 have nM:=yz.trans (xj.mono yz.size);exact jdy
theorem eB {H:Snap}{v:Ev}(gn:Modest v.p) (dH:Modest v.u) {a b:EvAd}(ha:EvA H v a) (hb:EvA H v b) (w:World) (hH:Holds w H) :
  Calls Tryz.prog 13 #[.agg (evQ v a),.agg (evQ v b)] w fun e w'=>e=.returned (.bool true)∧Below w.heap.size w w':=by
 have hX:=(Blk.new w 36 (evQ v a)).alloc (.cells (evQ v b) 36);have hY:=Blk.new (w.alloc (.cells (evQ v a) 36)) 36 (evQ v b);rw[zr]at hY;have sP:=(zo w (.cells (evQ v a) 36)).alloc (zo w (.cells (evQ v a) 36)).size (.cells (evQ v b) 36);have hh:=(hH.alloc (.cells (evQ v a) 36)).alloc (.cells (evQ v b) 36);have S1:=Hh (VT gn dH ha.p ha.u hb.p hb.u _ hh);obtain⟨x0,y0,x1,y1,x2,y2,x3,y3,x4,y4,x5⟩:=jfv;obtain⟨y5,x6,y6,x7,y7⟩:=jgt;have x8:=hX.cell 8 rfl;have y8:=hY.cell 8 rfl;have x9:=hX.cell 9 rfl;have y9:=hY.cell 9 rfl;have HA:=Hh ha
 have HB:=Hh hb;have HH:=Hh hh;clear ha hb hh hH;go_enter Tryz.func13,Tryz.ntmps13
 go_wp2_with fail
 refine S1.out.mono ?_
 rintro e w2 ⟨rfl,zG⟩
 replace hX:=hX.below zG;replace hY:=hY.below zG;have yz:=sP.trans (zG.mono sP.size);have Mg:=HH.out.below zG (Nat.le_refl _);have s1:=vX (Src.of_row HA.out.body.row Mg) v.body.length a.bc rfl;have s2:=vX (Src.of_row HB.out.body.row Mg) v.body.length b.bc rfl;have s3:=vX (Src.of_row HA.out.tag.row Mg) v.tag.length a.tc rfl;have s4:=vX (Src.of_row HB.out.tag.row Mg) v.tag.length b.tc rfl;clear S1 Mg x0 y0 x1 y1 x2 y2 x3 y3 x4 y4 x5 y5 x6 y6 x7 y7 x8 y8 x9 y9;have x8:=hX.cell 8 rfl;have y8:=hY.cell 8 rfl;have x9:=hX.cell 9 rfl;have y9:=hY.cell 9 rfl;go_wp2_with fail
 go_ret
 exact⟨rfl,yz⟩
end Go.Proofs.YtliomcphdnppnaaGreatDoor
