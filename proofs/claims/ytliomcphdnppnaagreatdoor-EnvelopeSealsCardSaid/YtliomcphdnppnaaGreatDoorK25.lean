/- squeezed. A row of pairs behind a sort: the  -/
import Derived.Test.YtliomcphdnppnaaGreatDoorK24
import Derived.Shelf.GgSortFunc.RowK
import Derived.Shelf.SlSortFuncK.WholeK
import Derived.Shelf.GgSortFunc.Tiny
set_option linter.unusedVariables false
set_option linter.unusedSimpArgs false
set_option maxRecDepth 100000
set_option maxHeartbeats 25600000
namespace Go.Proofs.YtliomcphdnppnaaGreatDoor
open Go.RowKit
def RP (H:Snap) (x:PE H) (p:Pr):Prop:=x.key=p.1∧pE.E H p (xv x)
theorem kC {H:Snap}(x:PE H):(xv x).length=9:=by simp[xv,x.len]
theorem fF {H:Snap}:∀ {l:List Pr}{cs:List Value},RowC pE H cs l→∃ ds:List (PE H),Pairs (RP H) ds l∧cs=ds.flatMap xv
 | [],cs,h=>⟨[],.nil,by rw[RowC]at h;exact h⟩
 | x::l,cs,h=>by
  obtain⟨c,rest,rfl,⟨A,cc,ba,bc,ia,ic,ba',bc',ia',ic',rfl,hk,hy,hz⟩,hr⟩:=h;obtain⟨ds,h1,h2⟩:=fF hr
  refine⟨⟨A,cc,x.1,zZ x.2.1 ba bc ia ic++zZ x.2.2 ba' bc' ia' ic',rfl,by simp[zZ,Value.oneCell'],hk⟩::ds,.cons ⟨rfl,⟨A,cc,ba,bc,ia,ic,ba',bc',ia',ic',rfl,hk,hy,hz⟩⟩ h1, ?_⟩
  rw[List.flatMap_cons,← h2];rfl
theorem iV {H:Snap}:∀ {ds:List (PE H)}{l:List Pr},Pairs (RP H) ds l→RowC pE H (ds.flatMap xv) l
 | [],_,h=>by cases h;rw[RowC];rfl
 | x::ds,_,h=>by
  cases h with
  | cons hx hr=>exact⟨xv x,ds.flatMap xv,by rw[List.flatMap_cons],hx.2,iV hr⟩
theorem nH {α β:Type}{R:α→β→Prop}:∀ {l:List α}{m:List β},Pairs R l m→l.length=m.length
 | _,_,.nil=>rfl
 | _,_,.cons _ h=>by simp[nH h]
theorem ZZ {H:Snap}:∀ {ds:List (PE H)}{l:List Pr},Pairs (RP H) ds l→Asc (·.key) ds→Asc (·.1) l:=by
 have mem:∀ {ds:List (PE H)} {l:List Pr},Pairs (RP H) ds l→∀ p∈l,∃ x∈ds,x.key=p.1:=by
  intro ds l h
  induction h with
  | nil=>intro p hp;cases hp
  | cons hx _ ih =>
  intro p hp
  rw[List.mem_cons]at hp
  rcases hp with rfl | hp
  ·exact⟨_,by simp,hx.1⟩
  obtain⟨x,h1,h2⟩:=ih p hp
  exact⟨x,by simp[h1],h2⟩
 intro ds l h
 induction h with
 | nil=>intro _;exact List.Pairwise.nil
 | cons hx hr ih =>
 intro ha
 have dT:=List.pairwise_cons.1 ha
 refine List.pairwise_cons.2 ⟨fun p hp=>?_,ih dT.2⟩
 obtain⟨y,h1,h2⟩:=mem hr p hp;have h3:=dT.1 y h1
 simp only at h3⊢
 rw[← hx.1,← h2]
 exact h3
theorem cN {H:Snap}{ds:List (PE H)}{l:List Pr}(h:Pairs (RP H) ds l):l.Pairwise (fun a b=>a.1≠b.1)→ds.Pairwise (fun a b=>a.key≠b.key):=by
 have mem:∀ {ds:List (PE H)} {l:List Pr},Pairs (RP H) ds l→∀ x∈ds,∃ p∈l,x.key=p.1:=by
  intro ds l h
  induction h with
  | nil=>intro p hp;cases hp
  | cons hx _ ih =>
  intro p hp
  rw[List.mem_cons]at hp
  rcases hp with rfl | hp
  ·exact⟨_,by simp,hx.1⟩
  obtain⟨x,h1,h2⟩:=ih p hp
  exact⟨x,by simp[h1],h2⟩
 induction h with
 | nil=>intro _;exact List.Pairwise.nil
 | cons hx hr ih =>
 intro ha
 have dT:=List.pairwise_cons.1 ha
 refine List.pairwise_cons.2 ⟨fun y hy=>?_,ih dT.2⟩
 obtain⟨p,h1,h2⟩:=mem hr y hy;rw[hx.1,h2]
 exact dT.1 p h1
theorem iK {H:Snap}:∀ (ds:List (PE H)) (t:Nat),t<ds.length*9→(ds.flatMap xv)[t]? = some ((xv ds[t/9]!)[t%9]!)
 | [],t,h=>by simp at h
 | x::ds,t,h=>by
  rw[List.flatMap_cons];have hx:=kC x
  by_cases h9:t<9
  ·rw[List.getElem?_append_left (by omega),Nat.div_eq_of_lt h9,Nat.mod_eq_of_lt h9]
   simp only[List.getElem!_cons_zero]
   rw[List.getElem!_eq_getElem?_getD,List.getElem?_eq_getElem (by omega)];rfl
  rw[List.getElem?_append_right (by omega),hx,iK ds (t-9) (by simp only[List.length_cons]at h;omega)];have e1:t/9=(t-9)/9+1:=by omega
  have e2:t%9=(t-9)%9:=by omega
  rw[e1,e2];rfl
theorem kv {H:Snap}:∀ ds:List (PE H),(ds.flatMap xv).length=ds.length*9
 | []=>rfl
 | x::ds=>by rw[List.flatMap_cons,List.length_append,kC,kv ds,List.length_cons];omega
theorem kE {H:Snap}(d:Array (PE H)):(Go.Sort.flatK xv 9 d).toList=d.toList.flatMap xv:=by
 apply List.ext_getElem?
 intro t
 by_cases ht:t<d.size*9
 ·rw[iK d.toList t (by simpa using ht)];have hs:t<(Go.Sort.flatK xv 9 d).size:=by rw[Go.Sort.size_flatK];exact ht
  have h1:=Go.Sort.get_flatK xv 9 d t ht;rw[getElem!_pos _ t hs]at h1;rw[Array.getElem?_toList,Array.getElem?_eq_getElem hs,h1];congr 2
  rw[getElem!_def]
  simp
  try rfl
 rw[List.getElem?_eq_none (by rw[Array.length_toList,Go.Sort.size_flatK];omega),List.getElem?_eq_none (by rw[kv];simp;omega)]
theorem Xu {H:Snap}{t:TypeId}{w:World}{base m c:Nat}{A:Option Addr}{l:List Pr}(h:OwnX pE t w base (.slice A m c) H l) (h0:0<l.length) :
  ∃ (g:Nat) (d:Array (PE H)),A=some ⟨g,0,none⟩∧base≤g∧g<w.heap.size∧d.size=l.length∧Pairs (RP H) d.toList l∧Go.Sort.HoldsK xv 9 w g 0 d:=by
 obtain⟨cs,uE,h⟩:=h
 rcases h.2 with ⟨hv,hz⟩ | ⟨g,cap,cur,hv,hb,hg,hc,hm,hcz,ht⟩
 ·omega
 cases hv
 obtain⟨ds,h1,h3⟩:=fF uE;have hl:=nH h1
 refine⟨g,ds.toArray,rfl,hb,(Array.getElem?_eq_some_iff.1 hg).1,by simpa using hl,by simpa using h1,fun j hj=>?_⟩
 have Fn:j<(Go.Sort.flatK xv 9 ds.toArray).toList.length:=by simpa using hj
 have e:(Go.Sort.flatK xv 9 ds.toArray).toList[j]? = cs[j]? :=by rw[kE,h3]
 rw[List.getElem?_eq_getElem Fn,← ht,List.getElem?_take]at e
 split at e
 ·refine⟨?_,by simp[World.frozen?,hg]⟩
  rw[Nat.zero_add,cell_of_row w g j cur t (0,0) hg];rw[getElem!_pos _ j hj]
  simpa using e.symm
 cases e
theorem X8 {H:Snap}{t:TypeId}{w:World}{base m c g:Nat}{l q:List Pr}(h:OwnX pE t w base (.slice (some ⟨g,0,none⟩) m c) H l) {d':Array (PE H)}(hd:d'.size=l.length) (hq:Pairs (RP H) d'.toList q) (k:Nat) (os:Array Obj) :
  OwnX pE t (Go.Sort.grow (Go.Sort.putRowK xv 9 (Sort.ahead w k) g 0 d') os) base (.slice (some ⟨g,0,none⟩) m c) H q∧w.grownBy (Go.Sort.grow (Go.Sort.putRowK xv 9 (Sort.ahead w k) g 0 d') os) (some g):=by
 obtain⟨cs,uE,h⟩:=h;have Sr:q.length=l.length:=by have:=nH hq;simp at this;omega
 rcases h.2 with ⟨hv,hz⟩ | ⟨g',cap,cur,hv,hb,hg,hc,hm,hcz,ht⟩
 ·cases hv
 cases hv
 have wH:g<w.heap.size:=(Array.getElem?_eq_some_iff.1 hg).1;have hF:(Go.Sort.flatK xv 9 d').size=l.length*9:=by rw[Go.Sort.size_flatK,hd]
 have fe:(Go.Sort.grow (Go.Sort.putRowK xv 9 (Sort.ahead w k) g 0 d') os).heap[g]? = some (.cells (Go.Sort.putCells id 0 (Go.Sort.flatK xv 9 d') cur) t (0,0)):=by
  show(w.heap.modify g (Go.Sort.onCells (Go.Sort.putCells id 0 (Go.Sort.flatK xv 9 d')))++os)[g]? = _
  rw[Array.getElem?_append_left (by simpa using wH),Array.getElem?_modify,if_pos rfl,hg];rfl
 refine⟨⟨d'.toList.flatMap xv,iV hq,by rw[kv,Sr];simp[hd];rfl,.inr ⟨g,c,_,by rw[Sr],hb,fe,by rw[Sr];exact hc,hm,by simp[Go.Sort.putCells,hcz], ?_⟩⟩,⟨rfl,rfl,rfl,by show w.heap.size≤(w.heap.modify g _++os).size;simp,fun i hi xg=>?_⟩⟩
 ·apply List.ext_getElem?
  intro j
  have Dr:l.length*9≤cur.size:=by rw[hcz];exact Nat.mul_le_mul_right _ hc
  rw[← kE,List.getElem?_take];show(if j<q.length*9 then _ else _)=_
  rw[Sr]
  split
  ·rename_i hj
   have Fq:j<cur.size:=by omega
   rw[Array.getElem?_toList,Array.getElem?_toList]
   unfold Go.Sort.putCells
   rw[Array.getElem?_mapIdx,Array.getElem?_eq_getElem Fq,Array.getElem?_eq_getElem (by omega:j<(Go.Sort.flatK xv 9 d').size)]
   simp only[Option.map_some]
   rw[if_pos (by omega),Nat.sub_zero,getElem!_pos _ j (by omega)];rfl
  rename_i hj
  rw[List.getElem?_eq_none (by rw[Array.length_toList];omega)]
 show(w.heap.modify g _++os)[i]? = _
 rw[Array.getElem?_append_left (by simpa using hi),Array.getElem?_modify,if_neg (fun e=>xg (by rw[e]))]
theorem Zn {α:Type}[Inhabited α] (k:α→List UInt8) (d d':Array α) (hn:d.toList.Pairwise fun a b=>k a≠k b) (Yx:Go.Sort.PermIn 0 d.size d d') (hs:Go.Sort.SortedIn (fun a b=>decide (Lib.compareBytes (k a) (k b)<0)) 0 d.size d') :
  d'.toList.Perm d.toList∧Asc k d'.toList:=by
 obtain⟨mA,_,hp⟩:=Yx
 have tx:d'.toList.Perm d.toList:=by
  have e1:(d'.extract 0 d.size)=d':=by rw[← mA];simp
  have e2:(d.extract 0 d.size)=d:=by simp
  rw[e1,e2]at hp
  exact hp
 refine⟨tx, ?_⟩
 have Vq:d'.toList.Pairwise fun a b=>k a≠k b:=(tx.pairwise_iff (fun h=>Ne.symm h)).2 hn
 unfold Asc
 rw[List.pairwise_iff_getElem]at Vq⊢
 intro i j hi hj hij
 have h1:=Vq i j hi hj hij;have h2:=hs i j (Nat.zero_le _) hij (by simp at hj;omega)
 simp only[decide_eq_false_iff_not]at h2
 rw[getElem!_pos d' j (by simpa using hj),getElem!_pos d' i (by simpa using hi)]at h2;have h3:¬ Lib.compareBytes (k d'[j]) (k d'[i])=0:=fun e=>h1 (by simpa using ((nz _ _).1 e).symm)
 have h4:=gI _ _ h3 h2
 simpa using h4
theorem cf {H:Snap}{d d':Array (PE H)}{l q:List Pr}(hp:Pairs (RP H) d.toList l) (hq:q.Perm l) (ha:Asc (·.1) q) (Yx:Go.Sort.PermIn 0 d.size d d') (hs:Go.Sort.SortedIn fY 0 d.size d') :
  d'.size=d.size∧Pairs (RP H) d'.toList q:=by
 have hn:l.Pairwise fun a b=>a.1≠b.1:=by
  refine(hq.pairwise_iff (fun h=>Ne.symm h)).1 (ha.imp fun h e=>?_)
  simp only at h
  rw[e,sX]at h
  omega
 have e:(fun a b:PE H=>decide (Lib.compareBytes a.key b.key<0))=fY:=rfl;obtain⟨h1,h2⟩:=Zn (fun x:PE H=>x.key) d d' (cN hp hn) Yx (by rw[e];exact hs);obtain⟨q',h3,h4⟩:=Pairs.perm h1 hp;have h5:=jt (·.1) (ZZ h3 h2) ha (h4.trans hq.symm);subst h5
 exact⟨by have:=h1.length_eq;simpa using this,h3⟩
theorem Qv {H:Snap}:Go.Sort.SWO (fY (H:=H)):=Tv (fun x:PE H=>x.key)
end Go.Proofs.YtliomcphdnppnaaGreatDoor
namespace Go.Proofs.YtliomcphdnppnaaGreatDoor
open Go.RowKit Go.Shelf Go.Lib
theorem cd {H:Snap}(d:Array (PE H)) (h2:2≤d.size) (VW:d.size<4611686018427387904) (blk off c Bs:Nat) (w:World)
  (hW:Holds w H) (hHb:H blk=none) (hH:Go.Sort.HoldsK xv 9 w blk off d) (hblk:blk<w.heap.size) (hs:w.cell? ⟨Bs,0,none⟩=some (.slice (some ⟨blk,off,none⟩) d.size c)) (ms:Bs≠blk) (hBl:Bs<w.heap.size) :
  Calls Tryz.prog 108 #[.iface 147 (.slice (some ⟨blk,off,none⟩) d.size c),.func (.func 109) #[] #[.pointer (some ⟨Bs,0,none⟩)]] w fun e w'=>e=.returned (.tuple #[])∧∃ (d':Array (PE H)) (n:Nat) (os:Array Obj),Go.Sort.PermIn 0 d.size d d'∧Go.Sort.SortedIn fY 0 d.size d'∧w'=Go.Sort.grow (Go.Sort.putRowK xv 9 (Sort.ahead w n) blk off d') os:=by
 have ND:LessReadsK (α:=PE H) Tryz.prog 109 #[.pointer (some ⟨Bs,0,none⟩)] xv 9 fY blk off d.size w:=by
  intro m os dk mA i j hi hj
  have FL:Go.Sort.HoldsK xv 9 (Sort.ahead w m) blk off d:=Go.Sort.holdsK_ahead xv 9 w m blk off d hH;have FN:=Go.Sort.holdsK_putRowK xv 9 (Sort.ahead w m) blk off d dk FL mA;have Rq:(Go.Sort.putRowK xv 9 (Sort.ahead w m) blk off dk).heap.size=w.heap.size:=Go.Sort.size_putRow id (Sort.ahead w m) blk off _;have Mz:blk<(Go.Sort.putRowK xv 9 (Sort.ahead w m) blk off dk).heap.size:=by rw[Rq];exact hblk
  have Kl:=Go.Sort.holdsK_grow xv 9 (Go.Sort.putRowK xv 9 (Sort.ahead w m) blk off dk) os blk off dk Mz FN
  have FY:Holds (Go.Sort.grow (Go.Sort.putRowK xv 9 (Sort.ahead w m) blk off dk) os) H:=fun b o hb=>by
   have uD:=hW.lt hb;have xg:b≠blk:=fun e=>by rw[e,hHb]at hb;cases hb
   rw[Go.Sort.heap_grow_old _ _ (by rw[Rq];exact uD)]
   have hq:(w.heap.modify blk (Go.Sort.onCells (Go.Sort.putCells id off (Go.Sort.flatK xv 9 dk))))[b]? = some o:=by
    rw[Array.getElem?_modify,if_neg (Ne.symm xg)]
    exact hW b o hb
   exact hq
  refine(cI blk off c Bs d.size _ FY (fun t=>dk[t]!) ?_ (fun t ht=>?_) i j hi hj)
  ·rw[Go.Sort.cell?_grow _ _ _ (by rw[Rq];exact hBl),Go.Sort.cell?_putRowK_other xv 9 _ _ _ _ _ ms]
   exact hs
  exact(Kl.cell (i:=t) (c:=0) (by omega) (by omega)).1
 have hS:=Any.sort_Slice_cells_sorted (α:=PE H) lE 147 149 pairTI pairEI (by kernel_rfl) (by kernel_rfl) (by kernel_rfl) (by kernel_rfl) 25 (fun _=>by kernel_rfl) xv 9 ZH (by kernel_rfl) (fun _=>by kernel_rfl)
  (fun x v hv=>by
   rw[xv,List.mem_cons]at hv
   rcases hv with rfl | hv
   ·rfl
   exact x.one v hv) fY Qv 109 _
  (enters_of Tryz.func109 (by kernel_rfl) rfl) blk off c d h2 VW 176 (by rw[Qr _ h2];kernel_rfl) false
  (fun args W=>run_callFunc_extern Tryz.func176 (by kernel_rfl) (by kernel_rfl) (by kernel_rfl) (e:=Extern.ReflectliteSwapper.swap false) (by kernel_rfl) args W) w ND hH hblk
 change Calls Tryz.prog 108 _ _ _ at hS
 exact hS.mono fun e w' ⟨he,d',n,os,h1,h2,hw⟩=>⟨he,d',n,os,h1,h2,hw⟩
theorem eV {H:Snap}{w:World}{base m c:Nat}{A:Option Addr}{l q:List Pr}(hO:OwnX pE 149 w base (.slice A m c) H l) (hm:m=l.length) (h2:2≤l.length) (VW:l.length<4611686018427387904)
  (hq:q.Perm l) (ha:Asc (·.1) q) (hW:Holds w H) (hap:∀ g,(Value.slice A m c).ownBlock=some g→H g=none) (Bs:Nat) (hs:w.cell? ⟨Bs,0,none⟩=some (.slice A m c)) (ms:(Value.slice A m c).ownBlock≠some Bs) (hBl:Bs<w.heap.size) :
  Calls Tryz.prog 108 #[.iface 147 (.slice A m c),.func (.func 109) #[] #[.pointer (some ⟨Bs,0,none⟩)]] w fun e w'=>e=.returned (.tuple #[])∧OwnX pE 149 w' base (.slice A m c) H q∧w.grownBy w' (Value.slice A m c).ownBlock:=by
 obtain⟨g,d,rfl,DN,wH,ID,hp,FK⟩:=Xu hO (by omega);have LJ:m=d.size:=by rw[hm,ID]
 have SC:=cd d (by omega) (by omega) g 0 c Bs w hW (hap g rfl) FK wH (by rw[← LJ];exact hs) (fun e=>ms (by rw[e];rfl)) hBl;rw[← LJ]at SC
 refine SC.mono fun e w' ⟨he,d',n,os,h1,h2,hw⟩=>⟨he, ?_⟩
 rw[LJ]at h1 h2;obtain⟨mA,G4⟩:=cf hp hq ha h1 h2;rw[hw]
 exact X8 (w:=w) hO (d':=d') (by rw[mA,ID]) G4 n os
theorem XM.perm {α:Type}{L:Lie α}{t bt kt:TypeId}{W0 w w':World}{H Hr:Snap}{B:Nat}{kc:Array Value}{bv v:Value}{l l':List α}(h:XM L t bt kt W0 H B kc bv v l w Hr) (hO:OwnX L t w' (W0.heap.size+1) v Hr l') (hg:w.grownBy w' v.ownBlock):XM L t bt kt W0 H B kc bv v l' w' Hr :=
 ⟨h.grows.grownRow h.apart (fun g hg=>by have:=(h.own.lt g hg).1;omega) hg,h.hK,h.key.grown hg (fun e=>by have:=(h.own.lt _ e).1;omega),hO,h.apart,h.lt,h.hB,h.box.grown hg h.far,h.far⟩
theorem ap (n:Nat) (h:n≤1):Lib.swapperK n pairEI 25=n+1:=by
 rcases Nat.eq_zero_or_pos n with h0 | h0
 ·subst h0;simp[Lib.swapperK]
 obtain rfl:n=1:=by omega
 simp[Lib.swapperK]
theorem ce {H:Snap}(n:Nat) (hn:n≤1) (p:Option Addr) (c Bs:Nat) {w:World}(hW:Holds w H) :
  Calls Tryz.prog 108 #[.iface 147 (.slice p n c),.func (.func 109) #[] #[.pointer (some ⟨Bs,0,none⟩)]] w fun e w'=>e=.returned (.tuple #[])∧Below w.heap.size w w':=by
 have fin:∀ (w':World) os,w'=Go.Sort.grow w os→Below w.heap.size w w':=fun w' os hw=>by
  rw[hw]
  exact⟨rfl,rfl,rfl,by show w.heap.size≤(w.heap++os).size;rw[Array.size_append];omega,fun _ hj=>Go.Sort.heap_grow_old w os hj⟩
 rcases Nat.eq_zero_or_pos n with h0 | h0
 ·subst h0;have hS:=Any.sort_Slice_tiny lE 147 149 pairTI pairEI (by kernel_rfl) (by kernel_rfl) (by kernel_rfl) (by kernel_rfl) 25 (fun _=>by kernel_rfl) p 0 c (by omega) 168 (by rw[ap 0 (by omega)];kernel_rfl) (.func 109) #[] #[.pointer (some ⟨Bs,0,none⟩)] w;change Calls Tryz.prog 108 _ _ _ at hS
  exact hS.mono fun e w' ⟨he,os,hw⟩=>⟨he,fin w' os hw⟩
 obtain rfl:n=1:=by omega
 have hS:=Any.sort_Slice_tiny lE 147 149 pairTI pairEI (by kernel_rfl) (by kernel_rfl) (by kernel_rfl) (by kernel_rfl) 25 (fun _=>by kernel_rfl) p 1 c (by omega) 169 (by rw[ap 1 (by omega)];kernel_rfl) (.func 109) #[] #[.pointer (some ⟨Bs,0,none⟩)] w;change Calls Tryz.prog 108 _ _ _ at hS
 exact hS.mono fun e w' ⟨he,os,hw⟩=>⟨he,fin w' os hw⟩
theorem cP {α:Type}{q l:List α}(h:q.Perm l) (hl:l.length≤1):q=l:=by
 match l,hl,h with
 | [],_,h=>exact h.eq_nil
 | [x],_,h=>exact List.perm_singleton.1 h
theorem eU {H:Snap}{w:World}{base m c:Nat}{A:Option Addr}{l q:List Pr}(hO:OwnX pE 149 w base (.slice A m c) H l) (hm:m=l.length) (VW:l.length<4611686018427387904)
  (hq:q.Perm l) (ha:Asc (·.1) q) (hW:Holds w H) (hap:∀ g,(Value.slice A m c).ownBlock=some g→H g=none) (Bs:Nat) (hs:w.cell? ⟨Bs,0,none⟩=some (.slice A m c)) (ms:(Value.slice A m c).ownBlock≠some Bs) (hBl:Bs<w.heap.size) :
  Calls Tryz.prog 108 #[.iface 147 (.slice A m c),.func (.func 109) #[] #[.pointer (some ⟨Bs,0,none⟩)]] w fun e w'=>e=.returned (.tuple #[])∧OwnX pE 149 w' base (.slice A m c) H q∧w.grownBy w' (Value.slice A m c).ownBlock:=by
 by_cases h2:2≤l.length
 ·exact eV hO hm h2 VW hq ha hW hap Bs hs ms hBl
 obtain rfl:=cP hq (by omega)
 exact(ce m (by omega) A c Bs hW).mono fun e w' ⟨he,hb⟩=>⟨he,hO.below hb,xJ hb _⟩
end Go.Proofs.YtliomcphdnppnaaGreatDoor
namespace Go.Proofs.YtliomcphdnppnaaGreatDoor
open Go.RowKit
theorem mS {H:Snap}(hTab:Tabs H) {A:Option Addr}{c:Nat}{ps:List Itm}(hr:IsRowI H A c ps) (xB:ps.length%2=0) (h4:0≤ps.length) (jW:ps.length≤1000) {qs:List Itm}(Sr:qs.length=ps.length) (hperm:(pk qs).Perm (pk ps)) (qC:xY qs=true)
  (ue:∀ x∈ps,zX x=true) (hwh:zX (.mk 5 0 [] qs)=true) (w:World) (hH:Holds w H) :
  Calls Tryz.prog 72 #[.slice A ps.length c] w (WV w H qs):=by
 have hT:=Blk.new w 26 fR;have hb:=zq w zW;have yP:H w.heap.size=none:=hH.none_of_ge (Nat.le_refl _);have b1:((ps.length:Int)%2==1)=false:=by rw[beq_eq_false_iff_ne];omega
 have p1:((ps.length:Int)%2=1)=False:=eq_false (by omega);have HR:=Hh hr;have HC:=Hh (And.intro xB (And.intro h4 jW));have HA:=Hh (And.intro qC (And.intro ue hwh));have HQ:=Hh (And.intro Sr hperm);clear xB h4 jW qC ue hwh hr Sr hperm;go_enter Tryz.func72,Tryz.ntmps72
 go_wp2_with fail
 go_loopw [18] (fun v18 wr=>∃ j:Nat,j≤ps.length∧v18=.int .i64 j∧Below w.heap.size w wr∧Blk wr w.heap.size 26 fR) (fun v18 _=>ps.length-(intOf v18).toNat)
 case atStart=>exact⟨0,Nat.zero_le _,rfl,hb,hT⟩
 case round =>
 clear hb hT b1 p1;obtain⟨j,hj,rfl,yS,sJ⟩:=hrel
 by_cases zB:j<ps.length
 ·have yD:=hH.below yS (Nat.le_refl _);obtain⟨ib,io,tf,xI⟩:=HR.out.elems (by omega);obtain⟨y1,y2,y3,y4,q0,q1,q2,q3,vW⟩:=xI.get j zB;subst tf;have p0:=yD.cell q0;have p1':=yD.cell q1;have p2:=yD.cell q2;have p3:=yD.cell q3;have MI:=yD.alloc (zi ps[j] y1 y2 y3 y4);have V:=Hh (ti hTab vW.arg _ MI);rw[HA.out.2.1 _ (List.getElem_mem zB)]at V;have zG:=yS.alloc yS.size (zi ps[j] y1 y2 y3 y4);have ug:=sJ.alloc (zi ps[j] y1 y2 y3 y4)
  generalize ps[j]'zB=x at *
  clear q0 q1 q2 q3 xI vW yS sJ yD MI;go_wp2_with fail
  refine V.out.mono ?_
  rintro e w3 ⟨rfl,xn⟩
  have lf:=ug.below xn;have zJ:=zG.trans (xn.mono zG.size);have V7:(j:Int)+1≤9223372036854775807:=by have:=HC.out.2.2;omega
  clear ug zG xn;go_wp2_with fail
  go_roundw
  case rel=>exact⟨j+1,by omega,by go_num,zJ,lf⟩
  case measure=>simp[intOf];omega
 have rO:j=ps.length:=by omega
 subst rO;clear zB hj;obtain⟨n,hn⟩:∃ n,ps.length=2*n:=⟨ps.length/2,by have:=HC.out.1;omega⟩
 have hq:((ps.length:Int)/2)=(n:Int):=by omega
 have G9:(ps.length:Int).tdiv 2=(n:Int):=by rw[Int.tdiv_eq_ediv_of_nonneg (by omega)];omega
 have HN:=Hh hn;have OJ:n≤500:=by have:=HC.out.2.2;omega
 have hG:=Grows.of_below hH yS;obtain⟨i0,uF,mP,rM,qg⟩:=info_parts kI;clear hn yS;go_wp2_with (at_make;refine zO ?_)
 refine wpList_make_own wr rfl _ _ 147 rfl (w.heap.size+1) 149 i0 _ 9 Tryz.underlying147 uF mP rM .i64 .i64 (n:Int) n rfl rfl rfl (by rw[qg];omega) (by simp only[maxLen];omega) (by have:=sJ.lt;omega) fun w4 lQ og=>?_
 have yJ:=hG.below_ (yo og);have hX:=XM.start (bt:=147) (bv:=.slice none 0 0) yJ yP (sJ.grown og (by simp)) (show OwnX pE 149 w4 (w.heap.size+1) (.slice (some ⟨wr.heap.size,0,none⟩) 0 n) H [] from⟨[],RowC.nil _ _,lQ⟩) (fun g hg=>by simp[Value.ownBlock]at hg;subst hg;exact hG.hidden (Nat.le_refl _));obtain⟨B,hB⟩:∃ B,w4.heap.size=B:=⟨_,rfl⟩
 obtain⟨g0,mv⟩:∃ g0,wr.heap.size=g0:=⟨_,rfl⟩
 rw[hB]at hX;rw[mv]at hX⊢;clear lQ og yJ hG sJ uF mP rM qg mv;go_wp2_with (with_reducible refine zx ?_)
 unfold yy
 try rw[hB]
 refine zT rfl _ _ _ rfl rfl B 0 (.slice (some ⟨g0,0,none⟩) 0 n) rfl rfl _ _ hX.box mm (by simp) rfl fun w5 mM yF=>?_
 replace hX:=hX.setBox (by simpa using mM) yF;clear mM yF hB hq G9;go_wp2_with fail
 go_loopw [7] (fun v7 wx=>∃ (j:Nat) (Hx:Snap) (VA:Option Addr) (m vc:Nat),j≤ps.length∧j%2=0∧v7=.int .i64 (j:Int)∧m=j/2∧(∃ g':Nat,VA=some ⟨g',0,none⟩)∧XM pE 149 147 26 w H B fR (.slice VA m vc) (.slice VA m vc) (pk (ps.take j)) wx Hx) (fun v7 _=>ps.length-(intOf v7).toNat)
 case atStart=>exact⟨0,H,some ⟨g0,0,none⟩,0,n,Nat.zero_le _,rfl,rfl,rfl,⟨g0,rfl⟩,by simpa [pk] using hX⟩
 case round =>
 clear hX;obtain⟨j,Hx,VA,m,vc,hj,Pa,rfl,hm,Hz,hX⟩:=hrel;have Et:=Hh Hz;clear Hz;have HJ:=Hh (And.intro Pa hm);clear Pa hm
 by_cases zB:j<ps.length
 ·have oL:j+1<ps.length:=by have:=HJ.out.1;have:=HC.out.1;omega
  have YD:(j:Int)<ps.length:=by omega
  have NE:(j:Int)+1<ps.length:=by omega
  have V7:(j:Int)+2≤9223372036854775807:=by have:=HC.out.2.2;omega
  have TQ:IntKind.i64.wrap ((j:Int)+1)=(j:Int)+1:=IntWalk.i64_in _ (by omega);have Dw:(0:Int)≤(j:Int)+1:=by omega
  obtain⟨ib,io,tf,xI⟩:=HR.out.elems (by omega);obtain⟨y1,y2,y3,y4,q0,q1,q2,q3,fr⟩:=xI.get j zB;obtain⟨z1,z2,z3,z4,s0,s1,s2,s3,nX⟩:=xI.get (j+1) oL;subst tf;have HV:=Hh (vK (HA.out.2.1 _ (List.getElem_mem zB)))
  have Gf:Hid (pk (ps.take (j+2))=pk (ps.take j)++[(zh ps[j],ps[j],ps[j+1])]):=by
   obtain⟨i,rfl⟩:∃ i,j=2*i:=⟨j/2,by have:=HJ.out.1;omega⟩
   exact UM ps i oL
  have fm:Hid ((pk (ps.take j)).length=m):=by rw[Hid,lM,List.length_take];have:=HJ.out;omega
  have zC:=hX.grows.le;have q0:=zC.cell q0;have q1:=zC.cell q1;have q2:=zC.cell q2;have q3:=zC.cell q3;have s0:=zC.cell s0;have s1:=zC.cell s1;have s2:=zC.cell s2;have s3:=zC.cell s3;have fr:=fr.mono zC;have nX:=nX.mono zC
  generalize ps[j]'zB=y at *
  generalize ps[j+1]'oL=z at *
  generalize pk (ps.take j)=L at hX Gf fm
  clear xI zC hj;go_upto_region 13 with fail
  replace hX:=hX.drew;have QZ:=Hh (And.intro fr nX);clear fr nX
  refine tN 17 (fun wx=>wx.cell? ⟨B,0,none⟩=some (.slice VA m vc)∧wx.cell? ⟨ib,io+j*4,none⟩=some (.int .i64 y.kind)∧wx.cell? ⟨ib,io+j*4+1,none⟩=some (.int .u64 y.n)∧wx.cell? ⟨ib,io+j*4+2,none⟩=some (.slice y1 y.bytes.length y2)∧wx.cell? ⟨ib,io+j*4+3,none⟩=some (.slice y3 y.items.length y4)∧wx.cell? ⟨ib,io+(j+1)*4,none⟩=some (.int .i64 z.kind)∧wx.cell? ⟨ib,io+(j+1)*4+1,none⟩=some (.int .u64 z.n)∧wx.cell? ⟨ib,io+(j+1)*4+2,none⟩=some (.slice z1 z.bytes.length z2)∧wx.cell? ⟨ib,io+(j+1)*4+3,none⟩=some (.slice z3 z.items.length z4)) (by kernel_rfl) (⟨hX.box.cell 0 rfl,hX.grows.holds.cell q0,hX.grows.holds.cell q1,hX.grows.holds.cell q2,hX.grows.holds.cell q3,hX.grows.holds.cell s0,hX.grows.holds.cell s1,hX.grows.holds.cell s2,hX.grows.holds.cell s3⟩) (fun zy=>?_)
  refine Zk 0 rfl zy ?_
  refine Zk 1 rfl zy ?_
  refine Zk 2 rfl zy ?_
  refine Zk 3 rfl zy ?_
  refine Zk 4 rfl zy ?_
  refine Zk 6 rfl zy ?_
  refine Zk 7 rfl zy ?_
  refine Zk 8 rfl zy ?_
  refine Zk 9 rfl zy ?_
  refine Zk 10 rfl zy ?_
  refine Zk 11 rfl zy ?_
  refine Zk 12 rfl zy ?_
  refine Zk 13 rfl zy ?_
  refine Zk 14 rfl zy ?_
  refine Zo 5 rfl fun K hK=>?_
  go_simp
  refine(rU y Hx _ _ _ _ _ _ _ _ _ _ (.slice none 0 0) [] HV.out.1 QZ.out.1.arg hX.grows.holds (OwnB.nil _ _) (Nat.le_refl _) (by simp[Value.ownBlock]) (by have:=HV.out.2.2;simp;omega)).mono ?_
  rintro e w5 ⟨r5,rfl,xS,yF,_⟩
  obtain⟨A5,c5,rfl,_⟩:=OwnB.form xS;obtain⟨H5,wn,m8,_⟩:=Fresh.snapB hX.grows.holds ⟨xS,yo yF⟩;have hX:=hX.grow wn;have q0:=wn.le.cell q0;have q1:=wn.le.cell q1;have q2:=wn.le.cell q2;have q3:=wn.le.cell q3;have s0:=wn.le.cell s0;have s1:=wn.le.cell s1;have s2:=wn.le.cell s2;have s3:=wn.le.cell s3
  refine Ko hK ?_ fun zy=>?_
  ·exact⟨hX.box.cell 0 rfl,hX.grows.holds.cell q0,hX.grows.holds.cell q1,hX.grows.holds.cell q2,hX.grows.holds.cell q3,hX.grows.holds.cell s0,hX.grows.holds.cell s1,hX.grows.holds.cell s2,hX.grows.holds.cell s3⟩
  clear hK K
  refine Zk 15 rfl zy ?_
  refine Zo 16 rfl fun K hK=>?_
  go_simp
  have Nt:RowC pE H5 (.slice A5 (zh y).length c5::(zZ y y1 y2 y3 y4++zZ z z1 z2 z3 z4)) [(zh y,y,z)]:=RowC.one ⟨A5,c5,y1,y2,y3,y4,z1,z2,z3,z4,rfl,m8,QZ.out.1.mono wn.le,QZ.out.2.mono wn.le⟩;have hZ:=hX.litZ (.slice A5 (zh y).length c5::(zZ y y1 y2 y3 y4++zZ z z1 z2 z3 z4)).toArray 149;have hX:=hX.alloc (.cells (.slice A5 (zh y).length c5::(zZ y y1 y2 y3 y4++zZ z z1 z2 z3 z4)).toArray 149)
  refine Ko hK ?_ fun zy=>?_
  ·exact⟨hX.box.cell 0 rfl,hX.grows.holds.cell q0,hX.grows.holds.cell q1,hX.grows.holds.cell q2,hX.grows.holds.cell q3,hX.grows.holds.cell s0,hX.grows.holds.cell s1,hX.grows.holds.cell s2,hX.grows.holds.cell s3⟩
  clear hK K
  refine Zo 17 rfl fun K hK=>?_
  rw[if_pos (by rfl)]
  refine OwnX.append_wp2 (L:=pE) _ _ 147 rfl Tryz.underlying147 rfl (by omega) kI rfl hX.own _ _ _ _ [(zh y,y,z)] rfl rfl Nt hZ (by have:=fm.out;have:=HJ.out.2;have:=HC.out.2.2;simp;omega) hX.base fun v7 w7 wj xj Ya=>?_
  have hX:=hX.app wj xj Ya;obtain⟨A7,c7,rfl,_⟩:=wj.form;have ES:Hid (∃ g':Nat,A7=some ⟨g',0,none⟩):=by obtain⟨g',d',h1,_⟩:=Xu wj (by simp);exact⟨g',h1⟩
  rw[show(L++[(zh y,y,z)]).length=m+1 by have:=fm.out;simp;omega]at hX⊢;clear wj xj Ya hZ Nt
  refine Kz hK ?_
  clear hK K
  refine Zo 18 rfl fun K hK=>?_
  rw[if_pos (by rfl)]
  refine yW _ _ _ rfl B 0 (.slice A7 (m+1) c7) rfl rfl _ _ hX.box mm (by simp) rfl fun w8 aJ hg8=>?_
  have hX:=hX.setBox (by simpa using aJ) hg8;clear aJ hg8
  refine Kz hK ?_
  clear hK K
  refine WaysZ.done (by kernel_rfl) ?_
  clear zy q0 q1 q2 q3 s0 s1 s2 s3 wn m8;go_wp2_with fail
  go_roundw
  case rel=>exact⟨j+2,H5,A7,m+1,c7,by omega,by have:=HJ.out.1;omega,by go_num,by have:=HJ.out;omega,ES.out,by rw[Gf.out];exact hX⟩
  case measure=>simp[intOf];omega
 have rO:j=ps.length:=by omega
 subst rO;clear zB hj;rw[List.take_length]at hX;have ng:(pk ps).length=n:=by rw[lM,HN.out];omega
 obtain rfl:m=n:=by have:=HJ.out.2;have:=HN.out;omega
 have Ic:(pk qs).length=m:=by rw[HQ.out.2.length_eq,ng]
 have T5:Asc (·.1) (pk qs):=Qd HA.out.1;have SRT:=eU (q:=pk qs) hX.own ng.symm (by omega) HQ.out.2 T5 hX.grows.holds hX.apart B (hX.box.cell 0 rfl) hX.far hX.box.lt;have SRTH:=Hh SRT;obtain⟨g,Fg⟩:=Et.out;subst Fg;have c0:=hX.box.cell 0 rfl;have fm:=Hh Ic;clear SRT T5 Ic ng;go_wp2_with fail
 refine SRTH.out.mono ?_
 rintro e w9 ⟨rfl,je,xr⟩
 replace hX:=hX.perm je xr;obtain⟨H9,sO,V9,Ji,NJ,He,ly⟩:=hX.snap;clear Ji;have Ra:=hX.box;have uM:=hX.key;have OF:=hX.lt;clear hX je xr SRTH c0 V9;have Nj:=Ra.lt;have hM:=(Blk.new w9 26 fR)
 have MU:H9 w9.heap.size=none:=sO.holds.none_of_ge (Nat.le_refl _);obtain⟨M,MT⟩:∃ M,w9.heap.size=M:=⟨_,rfl⟩
 have HM:=Hh (And.intro sO.size (And.intro Nj MT));rw[MT]at hM MU;go_wp2_with (with_reducible refine zx ?_)
 unfold yy
 try rw[MT]
 refine zt rfl _ _ _ rfl rfl M _ rfl rfl _ _ hM zp rfl (uf _ _ _ _ rfl rfl rfl rfl) fun w11 hM11 tZ=>?_
 have hS:BM w H B M #[.slice (some ⟨g,0,none⟩) m vc] (.slice none 0 0) (.slice none 0 0) [] w11 H9 :=
  ⟨(sO.alloc zW).grownOwn MU (by have:=HM.out;omega) tZ,He,ly,MU,OF,by have:=uM.lt;have:=HM.out;omega,by have:=HM.out;omega,(uM.alloc zW).grown tZ (fun e=>by injection e with e;have:=uM.lt;have:=HM.out;omega),
   (Ra.alloc zW).grown tZ (fun e=>by injection e with e;have:=HM.out;omega),hM11,OwnI.nil _ _ _,fun g hg=>by simp[Value.ownBlock]at hg⟩
 have c0:=hS.boxB.cell 0 rfl;clear hM MU MT tZ hM11 Ra uM OF Nj sO He ly;go_wp2_with fail
 go_loopw [62] (fun v62 wx=>∃ (i:Nat) (Hx:Snap) (VA:Option Addr) (vm v9:Nat),i≤m∧v62=.int .i64 (i:Int)∧vm=2*i∧H9.le Hx∧BM w H B M #[.slice (some ⟨g,0,none⟩) m vc] (.slice VA vm v9) (.slice VA vm v9) (qs.take (2*i)) wx Hx) (fun v62 _=>m-(intOf v62).toNat)
 case atStart=>exact⟨0,H9,none,0,0,Nat.zero_le _,rfl,rfl,Snap.le.refl _,by simpa using hS⟩
 case round =>
 clear hS c0;obtain⟨i,Hx,VA,vm,v9,IM,rfl,In,zC,hS⟩:=hrel;have HI:=Hh (And.intro IM In);clear IM In
 by_cases zB:i<m
 ·have rN:2*i+1<qs.length:=by have:=HN.out;have:=HQ.out.1;omega
  have YD:(i:Int)<m:=by omega
  have JZ:(i:Int)+1≤9223372036854775807:=by have:=HC.out.2.2;have:=HN.out;omega
  have L8:=nP qs i rN;have fg:i<(pk qs).length:=by have:=fm.out;omega
  rw[List.getElem?_eq_getElem fg]at L8;have O9:=Option.some.inj L8
  have de:Hid (qs.take (2*(i+1))=qs.take (2*i)++[qs[2*i]'(by omega),qs[2*i+1]]):=by
   rw[Hid,show 2*(i+1)=2*i+1+1 by omega,List.take_succ_eq_append_getElem rN,List.take_succ_eq_append_getElem (by omega),List.append_assoc];rfl
  have gY:Hid (∀ k,k+1=i→∀ hk:k<(pk qs).length,Lib.compareBytes ((pk qs)[k].1) (zh (qs[2*i]'(Nat.lt_of_succ_lt rN)))<0):=fun k hk rO=>by
   subst hk;have e1:=nP qs k (by omega);rw[List.getElem?_eq_getElem rO]at e1;rw[Option.some.inj e1]
   exact Xd (m:=2*k) HA.out.1 (by omega) (by omega)
  obtain⟨gb,go,Fi,Y3⟩:=NJ.at_ (by omega)
  cases Fi
  obtain⟨dc,⟨KA,kc,y1,y2,y3,y4,z1,z2,z3,z4,Me,Ye,fr,nX⟩,yR⟩:=Y3 i fg;subst Me;rw[O9]at Ye fr nX yR;have J2:=Hh Y3;have r0:=zC.cell (yR 0 _ rfl);have r1:=zC.cell (yR 1 _ rfl);have r2:=zC.cell (yR 2 _ rfl);have r3:=zC.cell (yR 3 _ rfl);have r4:=zC.cell (yR 4 _ rfl);have r5:=zC.cell (yR 5 _ rfl);have r6:=zC.cell (yR 6 _ rfl);have r7:=zC.cell (yR 7 _ rfl);have r8:=zC.cell (yR 8 _ rfl);have Ye:=Ye.mono zC;have fr:=fr.mono zC;have nX:=nX.mono zC
  generalize qs[2*i]'(by omega)=y at *
  generalize qs[2*i+1]'rN=z at *
  generalize hLL:qs.take (2*i)=LL at hS de
  have qG:Hid (LL.length=vm):=by rw[Hid,← hLL,List.length_take];have:=HI.out;omega
  have Of:=Hh (And.intro Ye (And.intro fr nX));clear L8 O9 yR Y3 Ye fr nX hLL;have r0:=hS.grows.holds.cell r0;have r1:=hS.grows.holds.cell r1;have r2:=hS.grows.holds.cell r2;have r3:=hS.grows.holds.cell r3;have r4:=hS.grows.holds.cell r4;have r5:=hS.grows.holds.cell r5;have r6:=hS.grows.holds.cell r6;have r7:=hS.grows.holds.cell r7;have r8:=hS.grows.holds.cell r8
  simp only[pE,Nat.add_zero,Nat.zero_add,← Nat.add_assoc]at r0 r1 r2 r3 r4 r5 r6 r7 r8
  go_upto_region 19 with fail
  have hD:=Blk.new wr 149 #[.slice KA (zh y).length kc,.int .i64 y.kind,.int .u64 y.n,.slice y1 y.bytes.length y2,.slice y3 y.items.length y4,.int .i64 z.kind,.int .u64 z.n,.slice z1 z.bytes.length z2,.slice z3 z.items.length z4];replace hS:=hS.alloc (.cells #[.slice KA (zh y).length kc,.int .i64 y.kind,.int .u64 y.n,.slice y1 y.bytes.length y2,.slice y3 y.items.length y4,.int .i64 z.kind,.int .u64 z.n,.slice z1 z.bytes.length z2,.slice z3 z.items.length z4] 149);obtain⟨P,PN⟩:∃ P,wr.heap.size=P:=⟨_,rfl⟩
  obtain⟨w2,fl⟩:∃ w2,wr.alloc (.cells #[.slice KA (zh y).length kc,.int .i64 y.kind,.int .u64 y.n,.slice y1 y.bytes.length y2,.slice y3 y.items.length y4,.int .i64 z.kind,.int .u64 z.n,.slice z1 z.bytes.length z2,.slice z3 z.items.length z4] 149)=w2:=⟨_,rfl⟩
  rw[fl]at hS hD⊢;rw[PN]at hD⊢;clear fl PN r0 r1 r2 r3 r4 r5 r6 r7 r8;go_cut [79] (fun s79 wx=>s79=.bool false∧BM w H B M #[.slice (some ⟨g,0,none⟩) m vc] (.slice VA vm v9) (.slice VA vm v9) LL wx Hx∧Blk wx P 149 #[.slice KA (zh y).length kc,.int .i64 y.kind,.int .u64 y.n,.slice y1 y.bytes.length y2,.slice y3 y.items.length y4,.int .i64 z.kind,.int .u64 z.n,.slice z1 z.bytes.length z2,.slice z3 z.items.length z4])
  case first =>
   by_cases h0:i=0
   ·subst h0
    refine zw 12 (fun _=>True) (by kernel_rfl) (trivial) (fun zy=>?_)
    refine Tk 0 rfl zy ?_
    refine Tk 1 rfl zy ?_
    refine Tk 2 rfl zy ?_
    refine TkU 3 rfl zy ?_
    refine TkU 4 rfl zy ?_
    refine TkU 5 rfl zy ?_
    refine TkU 6 rfl zy ?_
    refine TkU 7 rfl zy ?_
    refine TkU 8 rfl zy ?_
    refine TkU 9 rfl zy ?_
    refine TkU 10 rfl zy ?_
    refine TkU 11 rfl zy ?_
    refine To 12 rfl fun K hK=>?_
    go_simp
    refine Kz hK ?_
    clear hK K
    refine Wd ?_
    go_wp2_with fail
    go_meet
    exact⟨rfl,hS.drew,hD.drew⟩
   obtain⟨k,rfl⟩:∃ k,i=k+1:=⟨i-1,by omega⟩
   obtain⟨dk,⟨KB,kd,u1,u2,u3,u4,u5,u6,u7,u8,Mf,TZ,_,_⟩,yR⟩:=J2.out k (by have:=fm.out;omega);subst Mf
   have xg:Hid (((pk qs)[k]'(by have:=fm.out;omega)).1≠zh y):=fun e=>by
    have h1:=gY.out k rfl (by have:=fm.out;omega);rw[e,sX]at h1
    omega
   have rk:=yR 0 _ rfl
   generalize ((pk qs)[k]'(by have:=fm.out;omega)).1=kb at *
   have rk:=hS.grows.holds.cell (zC.cell rk)
   simp only[pE,Nat.add_zero,Nat.zero_add]at rk
   have FH:Hid ((kb==zh y)=false):=by rw[Hid,beq_eq_false_iff_ne];exact xg.out
   have e2:((k+1:Nat):Int)=(k:Int)+1:=by omega
   try rw[e2]
   have qe:IntKind.i64.wrap ((k:Int)+1-1)=(k:Int):=by rw[show(k:Int)+1-1=(k:Int) by omega];exact IntWalk.i64_in _ (by omega)
   have Dh:IntKind.i64.wrap (k:Int)=(k:Int):=IntWalk.i64_in _ (by omega);have IR:(k:Int)<m:=by omega
   have iq:(0:Int)≤(k:Int):=by omega
   have DV:(0:Int)<(k:Int)+1:=by omega
   have QP:k<m:=by omega
   have FP:=Hh (TZ.mono zC);have c0:=hS.boxB.cell 0 rfl;have d0:=hD.cell 0 rfl;replace hS:=hS.drew;replace hD:=hD.drew;clear yR TZ xg e2 YD JZ h0
   refine zw 12 (fun wx=>wx.cell? ⟨B,0,none⟩=some (.slice (some ⟨g,0,none⟩) m vc)∧wx.cell? ⟨g,k*9,none⟩=some (.slice KB kb.length kd)∧wx.cell? ⟨P,0,none⟩=some (.slice KA (zh y).length kc)) (by kernel_rfl) (⟨c0,rk,d0⟩) (fun zy=>?_)
   refine Tk 0 rfl zy ?_
   refine Tk 1 rfl zy ?_
   refine Tk 2 rfl zy ?_
   refine TkG 3 rfl zy ?_
   refine TkG 4 rfl zy ?_
   refine TkG 5 rfl zy ?_
   refine TkG 6 rfl zy ?_
   refine TkG 7 rfl zy ?_
   refine TkG 8 rfl zy ?_
   refine TkG 9 rfl zy ?_
   refine TkG 10 rfl zy ?_
   refine To 11 rfl fun K hK=>?_
   go_simp
   refine(pa _ KB KA kb (zh y) _ _ kd kc rfl rfl (Src.of_row FP.out.row hS.grows.holds) (Src.of_row Of.out.1.row hS.grows.holds)).mono ?_
   rintro e w5 ⟨rfl,rfl⟩
   rw[FH.out]
   refine Ko hK ?_ fun zy=>?_
   ·exact⟨c0,rk,d0⟩
   clear hK K
   refine To 12 rfl fun K hK=>?_
   go_simp
   refine Kz hK ?_
   clear hK K
   refine Wd ?_
   clear zy c0 rk d0;go_wp2_with fail
   go_meet
   exact⟨rfl,hS,hD⟩
  case rest =>
  clear hS hD;obtain⟨rfl,hS,hD⟩:=hcut;have m3:=hS.boxM.cell 3 rfl;have d1:=hD.cell 1 rfl;have d2:=hD.cell 2 rfl;have d3:=hD.cell 3 rfl;have d4:=hD.cell 4 rfl;have d5:=hD.cell 5 rfl;have d6:=hD.cell 6 rfl;have d7:=hD.cell 7 rfl;have d8:=hD.cell 8 rfl;have HS:=Hh hS;clear hS hD;go_wp2_with (at_builtin;refine zO ?_)
  unfold yy
  have hZ:=HS.out.litZ (zZ y y1 y2 y3 y4++zZ z z1 z2 z3 z4).toArray 26;have hS:=HS.out.alloc (.cells (zZ y y1 y2 y3 y4++zZ z z1 z2 z3 z4).toArray 26)
  refine xU rfl _ _ rfl _ _ _ _ rfl hS.own _ _ _ _ [y,z] rfl rfl ((ItemsC.one Of.out.2.1).app (ItemsC.one Of.out.2.2)) hZ (by have:=qG.out;have:=HI.out;have:=HC.out.2.2;have:=HN.out;simp;omega) hS.base fun v7 w7 wj xj Ya=>?_
  replace hS:=hS.app wj xj Ya;obtain⟨A7,c7,rfl,_⟩:=wj.form;rw[show(LL++[y,z]).length=vm+2 by have:=qG.out;simp;omega]at hS⊢;clear wj xj Ya hZ HS m3 d1 d2 d3 d4 d5 d6 d7 d8;go_wp2_with (with_reducible refine zx ?_)
  refine zT rfl _ _ _ rfl rfl M 3 (.slice A7 (vm+2) c7) rfl rfl _ _ hS.boxM sU (by simp) rfl fun w8 aJ hg8=>?_
  replace hS:=hS.setM (by simpa using aJ) hg8;clear aJ hg8;go_wp2_with fail
  go_roundw
  case rel=>exact⟨i+1,Hx,A7,vm+2,c7,by omega,by go_num,by have:=HI.out;omega,zC,by rw[de.out];exact hS⟩
  case measure=>simp[intOf];omega
 have rO:i=m:=by have:=HI.out.1;omega
 subst rO;clear zB;rw[show 2*i=qs.length from by have:=HN.out;have:=HQ.out.1;omega,List.take_length]at hS;obtain⟨Vx,mF,Jg,Sm,OJ⟩:=hS.item;have m0:=hS.boxM.cell 0 rfl;have m1:=hS.boxM.cell 1 rfl;have m2:=hS.boxM.cell 2 rfl;have m3:=hS.boxM.cell 3 rfl;have uM:=hS.key;subst Jg;have Of:=Hh Sm;have HV:=Hh (ti (hTab.mono mF.le) (x:=.mk 5 0 [] qs) Sm.arg _ mF.holds);rw[HA.out.2.2]at HV;have Ek:=Hh (zE HA.out.2.2);clear hS Sm;go_wp2_with fail
 refine HV.out.mono ?_
 rintro e w13 ⟨rfl,dJ⟩
 have sr:=mF.below_ dJ;have m0:=(m0b dJ m0)
 have m1:=(m0b dJ m1)
 have m2:=(m0b dJ m2)
 have m3:=(m0b dJ m3)
 replace uM:=uM.below dJ;have CP:=Hh (pe (.mk 5 0 [] qs) Vx _ _ _ _ _ _ _ _ w13 Ek.out Of.out.arg sr.holds);clear HV dJ mF;go_wp2_with fail
 refine CP.out.mono ?_
 rintro e w14 ⟨v14,rfl,xa,xb,xc,xd,Lo,rfl,mG,JB⟩
 have Np:=sr.trans mG;have Jk:=mG.none OJ uM.lt;replace uM:=uM.below mG.below;clear CP sr mG;go_wp2_with (with_reducible refine zx ?_)
 refine stI uM fun w16 hT16 hg16=>?_
 have JA:=Np.grownOwn Jk (Nat.le_refl _) hg16;clear Np hg16 uM;go_wp2_with fail
 refine zf rfl rfl hT16 rfl rfl zp rfl ?_
 exact⟨_,rfl,xa,xb,xc,xd,Lo,rfl,JA,JB⟩
theorem mQ {p:Itm}(h:zX p=true) (h5:p.kind=5):p.items.length%2=0∧p.items.length≤1000∧xY p.items=true∧(∀ x∈p.items,zX x=true)∧zX (.mk 5 0 [] p.items)=true:=by
 obtain⟨e,h2,ha⟩:=cz h h5
 exact⟨h2,by have:=(wR h).2.1;omega,ha,fun x hx=>wS h hx,by rw[← e];exact h⟩
theorem jr {H:Snap}(hTab:Tabs H) {p u:Itm}(vp:zX p=true) (vu:zX u=true) (kp:p.kind=5) (ku:u.kind=5) {a b:Ad}(hp:IsItem H a.ba a.bc a.ia a.ic p) (hu:IsItem H b.ba b.bc b.ia b.ic u) (w:World) (hH:Holds w H) :
  Calls Tryz.prog 32 #[.agg (zY p a u b)] w fun e w'=>∃ v,e=.returned v∧cw w H p u v w':=by
 have hB:=(Blk.new w 28 (zY p a u b)).alloc xN;have hR:=Blk.new (w.alloc (.cells (zY p a u b) 28)) 28 (zY zm ⟨none,0,none,0⟩ zm ⟨none,0,none,0⟩)
 simp only[zu]at hR
 have hG:=((Grows.refl hH).alloc (.cells (zY p a u b) 28)).alloc xN;have fb:H (w.heap.size+1)=none:=hH.none_of_ge (by omega);have HP:=Hh hp;have HU:=Hh hu;have HT:=Hh hTab;have EP:=Hh (cz vp kp).1;have EU:=Hh (cz vu ku).1;have BP:=Hh (mQ vp kp);have BU:=Hh (mQ vu ku);have C1:=Hh (mS hTab hp.row BP.out.1 (Nat.zero_le _) BP.out.2.1 rfl (List.Perm.refl _) BP.out.2.2.1 BP.out.2.2.2.1 BP.out.2.2.2.2 _ hG.holds);clear vp vu kp ku hp hu hTab hH;have c3:=hB.cell 3 rfl;go_enter Tryz.func32,Tryz.ntmps32
 go_wp2_with fail
 refine C1.out.mono ?_
 rintro e w2 ⟨v2,rfl,xa,xb,xc,xd,H2,rfl,xR,aL⟩
 rw[← EP.out]at aL⊢;have ye:=hG.trans xR;have JI:=xR.none fb hR.lt;replace hR:=hR.below xR.below;replace hB:=hB.below xR.below;have hX:=Blk.new w2 26 #[.int .i64 p.kind,.int .u64 p.n,.slice xa p.bytes.length xb,.slice xc p.items.length xd];have YW:=hR.lt;replace hR:=hR.alloc (zi p xa xb xc xd);replace hB:=hB.alloc (zi p xa xb xc xd);have yJ:=ye.alloc (zi p xa xb xc xd);have C2:=Hh (mS (HT.out.mono yJ.le) (HU.out.mono yJ.le).row BU.out.1 (Nat.zero_le _) BU.out.2.1 rfl (List.Perm.refl _) BU.out.2.2.1 BU.out.2.2.2.1 BU.out.2.2.2.2 _ yJ.holds);have c7:=hB.cell 7 rfl;clear C1 xR ye hG hB c3;go_wp2_with fail
 refine C2.out.mono ?_
 rintro e w4 ⟨v4,rfl,ya,yb,yc,yd,H4,rfl,wn,MJ⟩
 rw[← EU.out]at MJ⊢;have xH:=yJ.trans wn;have JJ:=wn.none JI hR.lt;replace hR:=(hR.below wn.below).alloc (zi u ya yb yc yd);replace hX:=(hX.below wn.below).alloc (zi u ya yb yc yd);have hY:=Blk.new w4 26 #[.int .i64 u.kind,.int .u64 u.n,.slice ya u.bytes.length yb,.slice yc u.items.length yd];have wF:=xH.alloc (zi u ya yb yc yd);have JC:=aL.mono wn.le;have x0:=hX.cell 0 rfl;have x1:=hX.cell 1 rfl;have x2:=hX.cell 2 rfl;have x3:=hX.cell 3 rfl;have y0:=hY.cell 0 rfl;have y1:=hY.cell 1 rfl;have y2:=hY.cell 2 rfl;have y3:=hY.cell 3 rfl;clear C2 wn xH yJ aL c7 hX hY YW;go_upto_region 3 with fail
 go_wp2_with (with_reducible refine zx ?_)
 refine zt rfl _ _ _ rfl rfl _ _ rfl rfl _ _ hR zS rfl (by kernel_rfl) fun w9 hR9 xr=>?_
 have sO:=wF.grownOwn JJ (by omega) xr;go_wp2_with fail
 refine zR rfl rfl hR9 rfl rfl zS rfl ?_
 exact⟨_,rfl,⟨xa,xb,xc,xd⟩,⟨ya,yb,yc,yd⟩,H4,rfl,sO,JC,MJ⟩
theorem cT {H:Snap}{p u:Itm}(m9:Modest p) (i6:Modest u) {a b c d:Ad}(hp:IsItem H a.ba a.bc a.ia a.ic p) (hu:IsItem H b.ba b.bc b.ia b.ic u) (tx:IsItem H c.ba c.bc c.ia c.ic p) (qN:IsItem H d.ba d.bc d.ia d.ic u) (w:World) (hH:Holds w H) :
  Calls Tryz.prog 38 #[.agg (zY p a u b),.agg (zY p c u d)] w fun e w'=>e=.returned (.bool true)∧Below w.heap.size w w':=by
 have hX:=(Blk.new w 28 (zY p a u b)).alloc (.cells (zY p c u d) 28);have hY:=Blk.new (w.alloc (.cells (zY p a u b) 28)) 28 (zY p c u d);rw[zu]at hY;have hb:=(zq w (.cells (zY p a u b) 28)).alloc (zq w (.cells (zY p a u b) 28)).size (.cells (zY p c u d) 28);have hh:=(hH.alloc (.cells (zY p a u b) 28)).alloc (.cells (zY p c u d) 28);have S1:=Hh (sZ p p H _ _ _ _ _ _ _ _ _ _ _ _ _ _ _ _ _ m9 m9 hp.arg tx.arg hh);have S2:=Hh (fun w hw=>sZ u u H _ _ _ _ _ _ _ _ _ _ _ _ _ _ _ _ w i6 i6 hu.arg qN.arg hw);rw[(vy p p).2 rfl]at S1;rw[(vy u u).2 rfl]at S2;have x0:=hX.cell 0 rfl;have y0:=hY.cell 0 rfl;have x1:=hX.cell 1 rfl;have y1:=hY.cell 1 rfl;have x2:=hX.cell 2 rfl;have y2:=hY.cell 2 rfl;have x3:=hX.cell 3 rfl;have y3:=hY.cell 3 rfl;have x4:=hX.cell 4 rfl;have y4:=hY.cell 4 rfl;have x5:=hX.cell 5 rfl
 have y5:=hY.cell 5 rfl;have x6:=hX.cell 6 rfl;have y6:=hY.cell 6 rfl;have x7:=hX.cell 7 rfl;have y7:=hY.cell 7 rfl;clear hp hu tx qN;have HH:=Hh hh;clear hh hH;go_enter Tryz.func38,Tryz.ntmps38
 go_wp2_with fail
 refine S1.out.mono ?_
 rintro e w2 ⟨rfl,zG⟩
 replace hX:=hX.below zG;replace hY:=hY.below zG;have zJ:=hb.trans (zG.mono hb.size);have Sl:=HH.out.below zG (Nat.le_refl _);clear S1 x0 y0 x1 y1 x2 y2 x3 y3 x4 y4 x5 y5 x6 y6 x7 y7;have x0:=hX.cell 0 rfl;have y0:=hY.cell 0 rfl;have x1:=hX.cell 1 rfl;have y1:=hY.cell 1 rfl;have x2:=hX.cell 2 rfl;have y2:=hY.cell 2 rfl;have x3:=hX.cell 3 rfl;have y3:=hY.cell 3 rfl;have x4:=hX.cell 4 rfl;have y4:=hY.cell 4 rfl;have x5:=hX.cell 5 rfl;have y5:=hY.cell 5 rfl;have x6:=hX.cell 6 rfl;have y6:=hY.cell 6 rfl;have x7:=hX.cell 7 rfl;have y7:=hY.cell 7 rfl;go_wp2_with fail
 refine(S2.out _ Sl).mono ?_
 rintro e w3 ⟨rfl,xn⟩
 have qY:=zJ.trans (xn.mono zJ.size);go_wp2_with fail
 go_ret
 exact⟨rfl,qY⟩
theorem cV {H:Snap}{v:Ev}(m9:Modest v.p) (i6:Modest v.u) {a b:EvAd}(ha:EvA H v a) (hb:EvA H v b) (w:World) (hH:Holds w H) :
  Calls Tryz.prog 13 #[.agg (evQ v a),.agg (evQ v b)] w fun e w'=>e=.returned (.bool true)∧Below w.heap.size w w':=by
 have hX:=(Blk.new w 36 (evQ v a)).alloc (.cells (evQ v b) 36);have hY:=Blk.new (w.alloc (.cells (evQ v a) 36)) 36 (evQ v b);rw[zu]at hY;have tO:=(zq w (.cells (evQ v a) 36)).alloc (zq w (.cells (evQ v a) 36)).size (.cells (evQ v b) 36);have hh:=(hH.alloc (.cells (evQ v a) 36)).alloc (.cells (evQ v b) 36);have S1:=Hh (cT m9 i6 ha.p ha.u hb.p hb.u _ hh);have x0:=hX.cell 0 rfl;have y0:=hY.cell 0 rfl;have x1:=hX.cell 1 rfl;have y1:=hY.cell 1 rfl;have x2:=hX.cell 2 rfl;have y2:=hY.cell 2 rfl;have x3:=hX.cell 3 rfl;have y3:=hY.cell 3 rfl;have x4:=hX.cell 4 rfl;have y4:=hY.cell 4 rfl;have x5:=hX.cell 5 rfl;have y5:=hY.cell 5 rfl;have x6:=hX.cell 6 rfl;have y6:=hY.cell 6 rfl;have x7:=hX.cell 7 rfl;have y7:=hY.cell 7 rfl;have x8:=hX.cell 8 rfl;have y8:=hY.cell 8 rfl;have x9:=hX.cell 9 rfl;have y9:=hY.cell 9 rfl;have HA:=Hh ha
 have HB:=Hh hb;have HH:=Hh hh;clear ha hb hh hH;go_enter Tryz.func13,Tryz.ntmps13
 go_wp2_with fail
 refine S1.out.mono ?_
 rintro e w2 ⟨rfl,zG⟩
 replace hX:=hX.below zG;replace hY:=hY.below zG;have zJ:=tO.trans (zG.mono tO.size);have Sl:=HH.out.below zG (Nat.le_refl _);have s1:=xV (Src.of_row HA.out.body.row Sl) v.body.length a.bc rfl;have s2:=xV (Src.of_row HB.out.body.row Sl) v.body.length b.bc rfl;have s3:=xV (Src.of_row HA.out.tag.row Sl) v.tag.length a.tc rfl;have s4:=xV (Src.of_row HB.out.tag.row Sl) v.tag.length b.tc rfl;clear S1 Sl x0 y0 x1 y1 x2 y2 x3 y3 x4 y4 x5 y5 x6 y6 x7 y7 x8 y8 x9 y9;have x8:=hX.cell 8 rfl;have y8:=hY.cell 8 rfl;have x9:=hX.cell 9 rfl;have y9:=hY.cell 9 rfl;go_wp2_with fail
 go_ret
 exact⟨rfl,zJ⟩
end Go.Proofs.YtliomcphdnppnaaGreatDoor
