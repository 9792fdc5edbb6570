/- squeezed. A row of pairs behind a sort: the  -/
import Derived.Test.YtgcjjhibdbafmaaGreatDoorK21
import Derived.Shelf.GgSortFunc.RowK
import Derived.Shelf.SlSortFuncK.WholeK
import Derived.Shelf.GgSortFunc.Tiny
import Derived.Test.YtgcjjhibdbafmaaGreatDoorK15
set_option linter.unusedVariables false
set_option linter.unusedSimpArgs false
set_option maxRecDepth 100000
set_option maxHeartbeats 25600000
namespace Go.Proofs.YtgcjjhibdbafmaaGreatDoor
open Go.RowKit
def RP (H:Snap) (x:PE H) (p:Pr):Prop:=x.key=p.1∧lieP.E H p (encPE x)
theorem encPE_len' {H:Snap}(x:PE H):(encPE x).length=9:=by simp[encPE,x.len]
theorem pe_pairs {H:Snap}:∀ {l:List Pr}{cs:List Value},RowC lieP H cs l→∃ ds:List (PE H),Pairs (RP H) ds l∧cs=ds.flatMap encPE
 | [],cs,h=>⟨[],.nil,by rw[RowC]at h;exact h⟩
 | x::l,cs,h=>by
  obtain⟨c,rest,rfl,⟨A,cc,ba,bc,ia,ic,ba',bc',ia',ic',rfl,hk,hy,hz⟩,hr⟩:=h;obtain⟨ds,h1,h2⟩:=pe_pairs hr
  refine⟨⟨A,cc,x.1,itemC x.2.1 ba bc ia ic++itemC x.2.2 ba' bc' ia' ic',rfl,by simp[itemC,Value.oneCell'],hk⟩::ds,.cons ⟨rfl,⟨A,cc,ba,bc,ia,ic,ba',bc',ia',ic',rfl,hk,hy,hz⟩⟩ h1, ?_⟩
  rw[List.flatMap_cons,← h2];rfl
theorem pairs_row {H:Snap}:∀ {ds:List (PE H)}{l:List Pr},Pairs (RP H) ds l→RowC lieP H (ds.flatMap encPE) l
 | [],_,h=>by cases h;rw[RowC];rfl
 | x::ds,_,h=>by
  cases h with
  | cons hx hr=>exact⟨encPE x,ds.flatMap encPE,by rw[List.flatMap_cons],hx.2,pairs_row hr⟩
theorem pairs_len {α β:Type}{R:α→β→Prop}:∀ {l:List α}{m:List β},Pairs R l m→l.length=m.length
 | _,_,.nil=>rfl
 | _,_,.cons _ h=>by simp[pairs_len h]
theorem pairs_asc {H:Snap}:∀ {ds:List (PE H)}{l:List Pr},Pairs (RP H) ds l→Asc (·.key) ds→Asc (·.1) l:=by
 have mem:∀ {ds:List (PE H)} {l:List Pr},Pairs (RP H) ds l→∀ p∈l,∃ x∈ds,x.key=p.1:=by
  intro ds l h
  induction h with
  | nil=>intro p hp;cases hp
  | cons hx _ ih =>
   intro p hp
   rw[List.mem_cons]at hp
   rcases hp with rfl | hp
   ·exact⟨_,by simp,hx.1⟩
   ·obtain⟨x,h1,h2⟩:=ih p hp
    exact⟨x,by simp[h1],h2⟩
 intro ds l h
 induction h with
 | nil=>intro _;exact List.Pairwise.nil
 | cons hx hr ih =>
  intro ha
  have ha':=List.pairwise_cons.1 ha
  refine List.pairwise_cons.2 ⟨fun p hp=>?_,ih ha'.2⟩
  obtain⟨y,h1,h2⟩:=mem hr p hp;have h3:=ha'.1 y h1
  simp only at h3⊢
  rw[← hx.1,← h2]
  exact h3
theorem pairs_keys {H:Snap}{ds:List (PE H)}{l:List Pr}(h:Pairs (RP H) ds l):l.Pairwise (fun a b=>a.1≠b.1)→ds.Pairwise (fun a b=>a.key≠b.key):=by
 have mem:∀ {ds:List (PE H)} {l:List Pr},Pairs (RP H) ds l→∀ x∈ds,∃ p∈l,x.key=p.1:=by
  intro ds l h
  induction h with
  | nil=>intro p hp;cases hp
  | cons hx _ ih =>
   intro p hp
   rw[List.mem_cons]at hp
   rcases hp with rfl | hp
   ·exact⟨_,by simp,hx.1⟩
   ·obtain⟨x,h1,h2⟩:=ih p hp
    exact⟨x,by simp[h1],h2⟩
 induction h with
 | nil=>intro _;exact List.Pairwise.nil
 | cons hx hr ih =>
  intro ha
  have ha':=List.pairwise_cons.1 ha
  refine List.pairwise_cons.2 ⟨fun y hy=>?_,ih ha'.2⟩
  obtain⟨p,h1,h2⟩:=mem hr y hy;rw[hx.1,h2]
  exact ha'.1 p h1
theorem flat_get' {H:Snap}:∀ (ds:List (PE H)) (t:Nat),t<ds.length*9→(ds.flatMap encPE)[t]? = some ((encPE ds[t/9]!)[t%9]!)
 | [],t,h=>by simp at h
 | x::ds,t,h=>by
  rw[List.flatMap_cons];have hx:=encPE_len' x
  by_cases h9:t<9
  ·rw[List.getElem?_append_left (by omega),Nat.div_eq_of_lt h9,Nat.mod_eq_of_lt h9]
   simp only[List.getElem!_cons_zero]
   rw[List.getElem!_eq_getElem?_getD,List.getElem?_eq_getElem (by omega)];rfl
  ·rw[List.getElem?_append_right (by omega),hx,flat_get' ds (t-9) (by simp only[List.length_cons]at h;omega)];have e1:t/9=(t-9)/9+1:=by omega
   have e2:t%9=(t-9)%9:=by omega
   rw[e1,e2];rfl
theorem flat_len {H:Snap}:∀ ds:List (PE H),(ds.flatMap encPE).length=ds.length*9
 | []=>rfl
 | x::ds=>by rw[List.flatMap_cons,List.length_append,encPE_len',flat_len ds,List.length_cons];omega
theorem flatK_list {H:Snap}(d:Array (PE H)):(Go.Sort.flatK encPE 9 d).toList=d.toList.flatMap encPE:=by
 apply List.ext_getElem?
 intro t
 by_cases ht:t<d.size*9
 ·rw[flat_get' d.toList t (by simpa using ht)];have hs:t<(Go.Sort.flatK encPE 9 d).size:=by rw[Go.Sort.size_flatK];exact ht
  have h1:=Go.Sort.get_flatK encPE 9 d t ht;rw[getElem!_pos _ t hs]at h1;rw[Array.getElem?_toList,Array.getElem?_eq_getElem hs,h1];congr 2
  rw[getElem!_def]
  simp
  try rfl
 ·rw[List.getElem?_eq_none (by rw[Array.length_toList,Go.Sort.size_flatK];omega),List.getElem?_eq_none (by rw[flat_len];simp;omega)]
theorem own_pe {H:Snap}{t:TypeId}{w:World}{base m c:Nat}{A:Option Addr}{l:List Pr}(h:OwnX lieP t w base (.slice A m c) H l) (h0:0<l.length) :
  ∃ (g:Nat) (d:Array (PE H)),A=some ⟨g,0,none⟩∧base≤g∧g<w.heap.size∧d.size=l.length∧Pairs (RP H) d.toList l∧Go.Sort.HoldsK encPE 9 w g 0 d:=by
 obtain⟨cs,hcs,h⟩:=h
 rcases h.2 with ⟨hv,hz⟩ | ⟨g,cap,cur,hv,hb,hg,hc,hm,hcz,ht⟩
 ·omega
 ·cases hv
  obtain⟨ds,h1,h3⟩:=pe_pairs hcs;have hl:=pairs_len h1
  refine⟨g,ds.toArray,rfl,hb,(Array.getElem?_eq_some_iff.1 hg).1,by simpa using hl,by simpa using h1,fun j hj=>?_⟩
  have hj':j<(Go.Sort.flatK encPE 9 ds.toArray).toList.length:=by simpa using hj
  have e:(Go.Sort.flatK encPE 9 ds.toArray).toList[j]? = cs[j]? :=by rw[flatK_list,h3]
  rw[List.getElem?_eq_getElem hj',← ht,List.getElem?_take]at e
  split at e
  ·refine⟨?_,by simp[World.frozen?,hg]⟩
   rw[Nat.zero_add,cell_of_row w g j cur t (0,0) hg];rw[getElem!_pos _ j hj]
   simpa using e.symm
  ·cases e
theorem own_back {H:Snap}{t:TypeId}{w:World}{base m c g:Nat}{l q:List Pr}(h:OwnX lieP t w base (.slice (some ⟨g,0,none⟩) m c) H l) {d':Array (PE H)}(hd:d'.size=l.length) (hq:Pairs (RP H) d'.toList q) (k:Nat) (os:Array Obj) :
  OwnX lieP t (Go.Sort.grow (Go.Sort.putRowK encPE 9 (Sort.ahead w k) g 0 d') os) base (.slice (some ⟨g,0,none⟩) m c) H q∧w.grownBy (Go.Sort.grow (Go.Sort.putRowK encPE 9 (Sort.ahead w k) g 0 d') os) (some g):=by
 obtain⟨cs,hcs,h⟩:=h;have hql:q.length=l.length:=by have:=pairs_len hq;simp at this;omega
 rcases h.2 with ⟨hv,hz⟩ | ⟨g',cap,cur,hv,hb,hg,hc,hm,hcz,ht⟩
 ·cases hv
 ·cases hv
  have hgl:g<w.heap.size:=(Array.getElem?_eq_some_iff.1 hg).1;have hF:(Go.Sort.flatK encPE 9 d').size=l.length*9:=by rw[Go.Sort.size_flatK,hd]
  have hge:(Go.Sort.grow (Go.Sort.putRowK encPE 9 (Sort.ahead w k) g 0 d') os).heap[g]? = some (.cells (Go.Sort.putCells id 0 (Go.Sort.flatK encPE 9 d') cur) t (0,0)):=by
   show(w.heap.modify g (Go.Sort.onCells (Go.Sort.putCells id 0 (Go.Sort.flatK encPE 9 d')))++os)[g]? = _
   rw[Array.getElem?_append_left (by simpa using hgl),Array.getElem?_modify,if_pos rfl,hg];rfl
  refine⟨⟨d'.toList.flatMap encPE,pairs_row hq,by rw[flat_len,hql];simp[hd];rfl,.inr ⟨g,c,_,by rw[hql],hb,hge,by rw[hql];exact hc,hm,by simp[Go.Sort.putCells,hcz], ?_⟩⟩,⟨rfl,rfl,rfl,by show w.heap.size≤(w.heap.modify g _++os).size;simp,fun i hi hne=>?_⟩⟩
  ·apply List.ext_getElem?
   intro j
   have hcap:l.length*9≤cur.size:=by rw[hcz];exact Nat.mul_le_mul_right _ hc
   rw[← flatK_list,List.getElem?_take];show(if j<q.length*9 then _ else _)=_
   rw[hql]
   split
   ·rename_i hj
    have hjc:j<cur.size:=by omega
    rw[Array.getElem?_toList,Array.getElem?_toList]
    unfold Go.Sort.putCells
    rw[Array.getElem?_mapIdx,Array.getElem?_eq_getElem hjc,Array.getElem?_eq_getElem (by omega:j<(Go.Sort.flatK encPE 9 d').size)]
    simp only[Option.map_some]
    rw[if_pos (by omega),Nat.sub_zero,getElem!_pos _ j (by omega)];rfl
   ·rename_i hj
    rw[List.getElem?_eq_none (by rw[Array.length_toList];omega)]
  ·show(w.heap.modify g _++os)[i]? = _
   rw[Array.getElem?_append_left (by simpa using hi),Array.getElem?_modify,if_neg (fun e=>hne (by rw[e]))]
theorem sort_ascN {α:Type}[Inhabited α] (k:α→List UInt8) (d d':Array α) (hn:d.toList.Pairwise fun a b=>k a≠k b) (hpi:Go.Sort.PermIn 0 d.size d d') (hs:Go.Sort.SortedIn (fun a b=>decide (Lib.compareBytes (k a) (k b)<0)) 0 d.size d') :
  d'.toList.Perm d.toList∧Asc k d'.toList:=by
 obtain⟨hsz,_,hp⟩:=hpi
 have hp':d'.toList.Perm d.toList:=by
  have e1:(d'.extract 0 d.size)=d':=by rw[← hsz];simp
  have e2:(d.extract 0 d.size)=d:=by simp
  rw[e1,e2]at hp
  exact hp
 refine⟨hp', ?_⟩
 have hn':d'.toList.Pairwise fun a b=>k a≠k b:=(hp'.pairwise_iff (fun h=>Ne.symm h)).2 hn
 unfold Asc
 rw[List.pairwise_iff_getElem]at hn'⊢
 intro i j hi hj hij
 have h1:=hn' i j hi hj hij;have h2:=hs i j (Nat.zero_le _) hij (by simp at hj;omega)
 simp only[decide_eq_false_iff_not]at h2
 rw[getElem!_pos d' j (by simpa using hj),getElem!_pos d' i (by simpa using hi)]at h2;have h3:¬ Lib.compareBytes (k d'[j]) (k d'[i])=0:=fun e=>h1 (by simpa using ((cmp_zero _ _).1 e).symm)
 have h4:=cmp_not _ _ h3 h2
 simpa using h4
theorem sorted_isN {H:Snap}{d d':Array (PE H)}{l q:List Pr}(hp:Pairs (RP H) d.toList l) (hq:q.Perm l) (ha:Asc (·.1) q) (hpi:Go.Sort.PermIn 0 d.size d d') (hs:Go.Sort.SortedIn ltPE 0 d.size d') :
  d'.size=d.size∧Pairs (RP H) d'.toList q:=by
 have hn:l.Pairwise fun a b=>a.1≠b.1:=by
  refine(hq.pairwise_iff (fun h=>Ne.symm h)).1 (ha.imp fun h e=>?_)
  simp only at h
  rw[e,cmp_refl]at h
  omega
 have e:(fun a b:PE H=>decide (Lib.compareBytes a.key b.key<0))=ltPE:=rfl;obtain⟨h1,h2⟩:=sort_ascN (fun x:PE H=>x.key) d d' (pairs_keys hp hn) hpi (by rw[e];exact hs);obtain⟨q',h3,h4⟩:=Pairs.perm h1 hp;have h5:=asc_unique (·.1) (pairs_asc h3 h2) ha (h4.trans hq.symm);subst h5
 exact⟨by have:=h1.length_eq;simpa using this,h3⟩
theorem swo_PE {H:Snap}:Go.Sort.SWO (ltPE (H:=H)):=cmp_swo (fun x:PE H=>x.key)
end Go.Proofs.YtgcjjhibdbafmaaGreatDoor
namespace Go.Proofs.YtgcjjhibdbafmaaGreatDoor
open Go.RowKit Go.Shelf Go.Lib
theorem sort_callN {H:Snap}(d:Array (PE H)) (h2:2≤d.size) (h12:d.size<4611686018427387904) (blk off c Bs:Nat) (w:World)
  (hW:Holds w H) (hHb:H blk=none) (hH:Go.Sort.HoldsK encPE 9 w blk off d) (hblk:blk<w.heap.size) (hs:w.cell? ⟨Bs,0,none⟩=some (.slice (some ⟨blk,off,none⟩) d.size c)) (hBs:Bs≠blk) (hBl:Bs<w.heap.size) :
  Calls Tryz.prog 80 #[.iface 105 (.slice (some ⟨blk,off,none⟩) d.size c),.func (.func 81) #[] #[.pointer (some ⟨Bs,0,none⟩)]] w fun e w'=>e=.returned (.tuple #[])∧∃ (d':Array (PE H)) (n:Nat) (os:Array Obj),Go.Sort.PermIn 0 d.size d d'∧Go.Sort.SortedIn ltPE 0 d.size d'∧w'=Go.Sort.grow (Go.Sort.putRowK encPE 9 (Sort.ahead w n) blk off d') os:=by
 have hless:LessReadsK (α:=PE H) Tryz.prog 81 #[.pointer (some ⟨Bs,0,none⟩)] encPE 9 ltPE blk off d.size w:=by
  intro m os dk hsz i j hi hj
  have hHm:Go.Sort.HoldsK encPE 9 (Sort.ahead w m) blk off d:=Go.Sort.holdsK_ahead encPE 9 w m blk off d hH;have hHp:=Go.Sort.holdsK_putRowK encPE 9 (Sort.ahead w m) blk off d dk hHm hsz;have hsz':(Go.Sort.putRowK encPE 9 (Sort.ahead w m) blk off dk).heap.size=w.heap.size:=Go.Sort.size_putRow id (Sort.ahead w m) blk off _;have hblk':blk<(Go.Sort.putRowK encPE 9 (Sort.ahead w m) blk off dk).heap.size:=by rw[hsz'];exact hblk
  have hHg:=Go.Sort.holdsK_grow encPE 9 (Go.Sort.putRowK encPE 9 (Sort.ahead w m) blk off dk) os blk off dk hblk' hHp
  have hWm:Holds (Go.Sort.grow (Go.Sort.putRowK encPE 9 (Sort.ahead w m) blk off dk) os) H:=fun b o hb=>by
   have hbl:=hW.lt hb;have hne:b≠blk:=fun e=>by rw[e,hHb]at hb;cases hb
   rw[Go.Sort.heap_grow_old _ _ (by rw[hsz'];exact hbl)]
   have hq:(w.heap.modify blk (Go.Sort.onCells (Go.Sort.putCells id off (Go.Sort.flatK encPE 9 dk))))[b]? = some o:=by
    rw[Array.getElem?_modify,if_neg (Ne.symm hne)]
    exact hW b o hb
   exact hq
  refine(less_pairs blk off c Bs d.size _ hWm (fun t=>dk[t]!) ?_ (fun t ht=>?_) i j hi hj)
  ·rw[Go.Sort.cell?_grow _ _ _ (by rw[hsz'];exact hBl),Go.Sort.cell?_putRowK_other encPE 9 _ _ _ _ _ hBs]
   exact hs
  ·exact(hHg.cell (i:=t) (c:=0) (by omega) (by omega)).1
 have hS:=Any.sort_Slice_cells_sorted (α:=PE H) sortLays 105 107 pairTI pairEI (by kernel_rfl) (by kernel_rfl) (by kernel_rfl) (by kernel_rfl) 25 (fun _=>by kernel_rfl) encPE 9 encPE_len (by kernel_rfl) (fun _=>by kernel_rfl)
  (fun x v hv=>by
   rw[encPE,List.mem_cons]at hv
   rcases hv with rfl | hv
   ·rfl
   ·exact x.one v hv) ltPE swo_PE 81 _
  (enters_of Tryz.func81 (by kernel_rfl) rfl) blk off c d h2 h12 127 (by rw[pairSw _ h2];kernel_rfl) false
  (fun args W=>run_callFunc_extern Tryz.func127 (by kernel_rfl) (by kernel_rfl) (by kernel_rfl) (e:=Extern.ReflectliteSwapper.swap false) (by kernel_rfl) args W) w hless hH hblk
 change Calls Tryz.prog 80 _ _ _ at hS
 exact hS.mono fun e w' ⟨he,d',n,os,h1,h2,hw⟩=>⟨he,d',n,os,h1,h2,hw⟩
theorem sort_pairsN {H:Snap}{w:World}{base m c:Nat}{A:Option Addr}{l q:List Pr}(hO:OwnX lieP 107 w base (.slice A m c) H l) (hm:m=l.length) (h2:2≤l.length) (h12:l.length<4611686018427387904)
  (hq:q.Perm l) (ha:Asc (·.1) q) (hW:Holds w H) (hap:∀ g,(Value.slice A m c).ownBlock=some g→H g=none) (Bs:Nat) (hs:w.cell? ⟨Bs,0,none⟩=some (.slice A m c)) (hBs:(Value.slice A m c).ownBlock≠some Bs) (hBl:Bs<w.heap.size) :
  Calls Tryz.prog 80 #[.iface 105 (.slice A m c),.func (.func 81) #[] #[.pointer (some ⟨Bs,0,none⟩)]] w fun e w'=>e=.returned (.tuple #[])∧OwnX lieP 107 w' base (.slice A m c) H q∧w.grownBy w' (Value.slice A m c).ownBlock:=by
 obtain⟨g,d,rfl,hgb,hgl,hds,hp,hHK⟩:=own_pe hO (by omega);have hmd:m=d.size:=by rw[hm,hds]
 have SC:=sort_callN d (by omega) (by omega) g 0 c Bs w hW (hap g rfl) hHK hgl (by rw[← hmd];exact hs) (fun e=>hBs (by rw[e];rfl)) hBl;rw[← hmd]at SC
 refine SC.mono fun e w' ⟨he,d',n,os,h1,h2,hw⟩=>⟨he, ?_⟩
 rw[hmd]at h1 h2;obtain⟨hsz,hps⟩:=sorted_isN hp hq ha h1 h2;rw[hw]
 exact own_back (w:=w) hO (d':=d') (by rw[hsz,hds]) hps n os
theorem XM.perm {α:Type}{L:Lie α}{t bt kt:TypeId}{W0 w w':World}{H Hr:Snap}{B:Nat}{kc:Array Value}{bv v:Value}{l l':List α}(h:XM L t bt kt W0 H B kc bv v l w Hr) (hO:OwnX L t w' (W0.heap.size+1) v Hr l') (hg:w.grownBy w' v.ownBlock):XM L t bt kt W0 H B kc bv v l' w' Hr :=
 ⟨h.grows.grownRow h.apart (fun g hg=>by have:=(h.own.lt g hg).1;omega) hg,h.hK,h.key.grown hg (fun e=>by have:=(h.own.lt _ e).1;omega),hO,h.apart,h.lt,h.hB,h.box.grown hg h.far,h.far⟩
theorem pairSwT (n:Nat) (h:n≤1):Lib.swapperK n pairEI 25=n+1:=by
 rcases Nat.eq_zero_or_pos n with h0 | h0
 ·subst h0;simp[Lib.swapperK]
 ·obtain rfl:n=1:=by omega
  simp[Lib.swapperK]
theorem sort_tinyN {H:Snap}(n:Nat) (hn:n≤1) (p:Option Addr) (c Bs:Nat) {w:World}(hW:Holds w H) :
  Calls Tryz.prog 80 #[.iface 105 (.slice p n c),.func (.func 81) #[] #[.pointer (some ⟨Bs,0,none⟩)]] w fun e w'=>e=.returned (.tuple #[])∧Below w.heap.size w w':=by
 have fin:∀ (w':World) os,w'=Go.Sort.grow w os→Below w.heap.size w w':=fun w' os hw=>by
  rw[hw]
  exact⟨rfl,rfl,rfl,by show w.heap.size≤(w.heap++os).size;rw[Array.size_append];omega,fun _ hj=>Go.Sort.heap_grow_old w os hj⟩
 rcases Nat.eq_zero_or_pos n with h0 | h0
 ·subst h0;have hS:=Any.sort_Slice_tiny sortLays 105 107 pairTI pairEI (by kernel_rfl) (by kernel_rfl) (by kernel_rfl) (by kernel_rfl) 25 (fun _=>by kernel_rfl) p 0 c (by omega) 119 (by rw[pairSwT 0 (by omega)];kernel_rfl) (.func 81) #[] #[.pointer (some ⟨Bs,0,none⟩)] w;change Calls Tryz.prog 80 _ _ _ at hS
  exact hS.mono fun e w' ⟨he,os,hw⟩=>⟨he,fin w' os hw⟩
 ·obtain rfl:n=1:=by omega
  have hS:=Any.sort_Slice_tiny sortLays 105 107 pairTI pairEI (by kernel_rfl) (by kernel_rfl) (by kernel_rfl) (by kernel_rfl) 25 (fun _=>by kernel_rfl) p 1 c (by omega) 120 (by rw[pairSwT 1 (by omega)];kernel_rfl) (.func 81) #[] #[.pointer (some ⟨Bs,0,none⟩)] w;change Calls Tryz.prog 80 _ _ _ at hS
  exact hS.mono fun e w' ⟨he,os,hw⟩=>⟨he,fin w' os hw⟩
theorem perm_small {α:Type}{q l:List α}(h:q.Perm l) (hl:l.length≤1):q=l:=by
 match l,hl,h with
 | [],_,h=>exact h.eq_nil
 | [x],_,h=>exact List.perm_singleton.1 h
theorem sort_pairsA {H:Snap}{w:World}{base m c:Nat}{A:Option Addr}{l q:List Pr}(hO:OwnX lieP 107 w base (.slice A m c) H l) (hm:m=l.length) (h12:l.length<4611686018427387904)
  (hq:q.Perm l) (ha:Asc (·.1) q) (hW:Holds w H) (hap:∀ g,(Value.slice A m c).ownBlock=some g→H g=none) (Bs:Nat) (hs:w.cell? ⟨Bs,0,none⟩=some (.slice A m c)) (hBs:(Value.slice A m c).ownBlock≠some Bs) (hBl:Bs<w.heap.size) :
  Calls Tryz.prog 80 #[.iface 105 (.slice A m c),.func (.func 81) #[] #[.pointer (some ⟨Bs,0,none⟩)]] w fun e w'=>e=.returned (.tuple #[])∧OwnX lieP 107 w' base (.slice A m c) H q∧w.grownBy w' (Value.slice A m c).ownBlock:=by
 by_cases h2:2≤l.length
 ·exact sort_pairsN hO hm h2 h12 hq ha hW hap Bs hs hBs hBl
 ·obtain rfl:=perm_small hq (by omega)
  exact(sort_tinyN m (by omega) A c Bs hW).mono fun e w' ⟨he,hb⟩=>⟨he,hO.below hb,grown_of_below hb _⟩
end Go.Proofs.YtgcjjhibdbafmaaGreatDoor
namespace Go.Proofs.YtgcjjhibdbafmaaGreatDoor
open Go.RowKit
theorem cbor_BuildN {H:Snap}(hTab:Tabs H) {A:Option Addr}{c:Nat}{ps:List Itm}(hr:IsRowI H A c ps) (heven:ps.length%2=0) (h4:0≤ps.length) (h24:ps.length≤1000) {qs:List Itm}(hql:qs.length=ps.length) (hperm:(pk qs).Perm (pk ps)) (hasc:ascP qs=true)
  (hval:∀ x∈ps,validP x=true) (hwh:validP (.mk 5 0 [] qs)=true) (w:World) (hH:Holds w H) :
  Calls Tryz.prog 52 #[.slice A ps.length c] w (BuiltOut w H qs):=by
 have hT:=Blk.new w 26 zeroC;have hb:=below_box w zeroO;have hn0:H w.heap.size=none:=hH.none_of_ge (Nat.le_refl _);have b1:((ps.length:Int)%2==1)=false:=by rw[beq_eq_false_iff_ne];omega
 have p1:((ps.length:Int)%2=1)=False:=eq_false (by omega);have HR:=Hh hr;have HC:=Hh (And.intro heven (And.intro h4 h24));have HA:=Hh (And.intro hasc (And.intro hval hwh));have HQ:=Hh (And.intro hql hperm);clear heven h4 h24 hasc hval hwh hr hql hperm;go_enter Tryz.func52,Tryz.ntmps52
 go_wp2_with fail
 go_loopw [18] (fun v18 wr=>∃ j:Nat,j≤ps.length∧v18=.int .i64 j∧Below w.heap.size w wr∧Blk wr w.heap.size 26 zeroC) (fun v18 _=>ps.length-(intOf v18).toNat)
 case atStart=>exact⟨0,Nat.zero_le _,rfl,hb,hT⟩
 case round =>
  clear hb hT b1 p1;obtain⟨j,hj,rfl,hbr,hTr⟩:=hrel
  by_cases hlt:j<ps.length
  ·have hHr:=hH.below hbr (Nat.le_refl _);obtain⟨ib,io,hia,hel⟩:=HR.out.elems (by omega);obtain⟨y1,y2,y3,y4,q0,q1,q2,q3,hex⟩:=hel.get j hlt;subst hia;have p0:=hHr.cell q0;have p1':=hHr.cell q1;have p2:=hHr.cell q2;have p3:=hHr.cell q3;have hHa:=hHr.alloc (itemO ps[j] y1 y2 y3 y4);have V:=Hh (cbor_Valid hTab hex.arg _ hHa);rw[HA.out.2.1 _ (List.getElem_mem hlt)]at V;have hb2:=hbr.alloc hbr.size (itemO ps[j] y1 y2 y3 y4);have hT2:=hTr.alloc (itemO ps[j] y1 y2 y3 y4)
   generalize ps[j]'hlt=x at *
   clear q0 q1 q2 q3 hel hex hbr hTr hHr hHa;go_wp2_with fail
   refine V.out.mono ?_
   rintro e w3 ⟨rfl,hb3⟩
   have hT3:=hT2.below hb3;have hbz:=hb2.trans (hb3.mono hb2.size);have hj63:(j:Int)+1≤9223372036854775807:=by have:=HC.out.2.2;omega
   clear hT2 hb2 hb3;go_wp2_with fail
   go_roundw
   case rel=>exact⟨j+1,by omega,by go_num,hbz,hT3⟩
   case measure=>simp[intOf];omega
  ·have hkl:j=ps.length:=by omega
   subst hkl;clear hlt hj;obtain⟨n,hn⟩:∃ n,ps.length=2*n:=⟨ps.length/2,by have:=HC.out.1;omega⟩
   have hq:((ps.length:Int)/2)=(n:Int):=by omega
   have hqt:(ps.length:Int).tdiv 2=(n:Int):=by rw[Int.tdiv_eq_ediv_of_nonneg (by omega)];omega
   have HN:=Hh hn;have hn12:n≤500:=by have:=HC.out.2.2;omega
   have hG:=Grows.of_below hH hbr;obtain⟨i0,hi0,hz0,hz1,hz2⟩:=info_parts info_bpair;clear hn hbr;go_wp2_with (at_make;refine stop_in ?_)
   refine wpList_make_own wr rfl _ _ 105 rfl (w.heap.size+1) 107 i0 _ 9 Tryz.underlying105 hi0 hz0 hz1 .i64 .i64 (n:Int) n rfl rfl rfl (by rw[hz2];omega) (by simp only[maxLen];omega) (by have:=hTr.lt;omega) fun w4 hown4 hg4=>?_
   have hG4:=hG.below_ (grown_none hg4);have hX:=XM.start (bt:=105) (bv:=.slice none 0 0) hG4 hn0 (hTr.grown hg4 (by simp)) (show OwnX lieP 107 w4 (w.heap.size+1) (.slice (some ⟨wr.heap.size,0,none⟩) 0 n) H [] from⟨[],RowC.nil _ _,hown4⟩) (fun g hg=>by simp[Value.ownBlock]at hg;subst hg;exact hG.hidden (Nat.le_refl _));obtain⟨B,hB⟩:∃ B,w4.heap.size=B:=⟨_,rfl⟩
   obtain⟨g0,hg0⟩:∃ g0,wr.heap.size=g0:=⟨_,rfl⟩
   rw[hB]at hX;rw[hg0]at hX⊢;clear hown4 hg4 hG4 hG hTr hi0 hz0 hz1 hz2 hg0;go_wp2_with (with_reducible refine stop_store ?_)
   unfold Stopped
   try rw[hB]
   refine wpList_store_cell rfl _ _ _ rfl rfl B 0 (.slice (some ⟨g0,0,none⟩) 0 n) rfl rfl _ _ hX.box size_bpairs (by simp) rfl fun w5 hB5 hg5=>?_
   replace hX:=hX.setBox (by simpa using hB5) hg5;clear hB5 hg5 hB hq hqt;go_wp2_with fail
   go_loopw [7] (fun v7 wx=>∃ (j:Nat) (Hx:Snap) (VA:Option Addr) (m vc:Nat),j≤ps.length∧j%2=0∧v7=.int .i64 (j:Int)∧m=j/2∧(∃ g':Nat,VA=some ⟨g',0,none⟩)∧XM lieP 107 105 26 w H B zeroC (.slice VA m vc) (.slice VA m vc) (pk (ps.take j)) wx Hx) (fun v7 _=>ps.length-(intOf v7).toNat)
   case atStart=>exact⟨0,H,some ⟨g0,0,none⟩,0,n,Nat.zero_le _,rfl,rfl,rfl,⟨g0,rfl⟩,by simpa [pk] using hX⟩
   case round =>
    clear hX;obtain⟨j,Hx,VA,m,vc,hj,hje,rfl,hm,hVA,hX⟩:=hrel;have HVA:=Hh hVA;clear hVA;have HJ:=Hh (And.intro hje hm);clear hje hm
    by_cases hlt:j<ps.length
    ·have hlt1:j+1<ps.length:=by have:=HJ.out.1;have:=HC.out.1;omega
     have hltI:(j:Int)<ps.length:=by omega
     have hltI1:(j:Int)+1<ps.length:=by omega
     have hj63:(j:Int)+2≤9223372036854775807:=by have:=HC.out.2.2;omega
     have HW1:IntKind.i64.wrap ((j:Int)+1)=(j:Int)+1:=IntWalk.i64_in _ (by omega);have hj10:(0:Int)≤(j:Int)+1:=by omega
     obtain⟨ib,io,hia,hel⟩:=HR.out.elems (by omega);obtain⟨y1,y2,y3,y4,q0,q1,q2,q3,hey⟩:=hel.get j hlt;obtain⟨z1,z2,z3,z4,s0,s1,s2,s3,hez⟩:=hel.get (j+1) hlt1;subst hia;have HV:=Hh (validP_spec (HA.out.2.1 _ (List.getElem_mem hlt)))
     have HPK:Hid (pk (ps.take (j+2))=pk (ps.take j)++[(encB ps[j],ps[j],ps[j+1])]):=by
      obtain⟨i,rfl⟩:∃ i,j=2*i:=⟨j/2,by have:=HJ.out.1;omega⟩
      exact pk_take ps i hlt1
     have HPL:Hid ((pk (ps.take j)).length=m):=by rw[Hid,pk_len,List.length_take];have:=HJ.out;omega
     have hle:=hX.grows.le;have q0:=hle.cell q0;have q1:=hle.cell q1;have q2:=hle.cell q2;have q3:=hle.cell q3;have s0:=hle.cell s0;have s1:=hle.cell s1;have s2:=hle.cell s2;have s3:=hle.cell s3;have hey:=hey.mono hle;have hez:=hez.mono hle
     generalize ps[j]'hlt=y at *
     generalize ps[j+1]'hlt1=z at *
     generalize pk (ps.take j)=L at hX HPK HPL
     clear hel hle hj;go_upto_region 13 with fail
     replace hX:=hX.drew;have hyz:=Hh (And.intro hey hez);clear hey hez
     refine wp_region_waysZ 17 (fun wx=>wx.cell? ⟨B,0,none⟩=some (.slice VA m vc)∧wx.cell? ⟨ib,io+j*4,none⟩=some (.int .i64 y.kind)∧wx.cell? ⟨ib,io+j*4+1,none⟩=some (.int .u64 y.n)∧wx.cell? ⟨ib,io+j*4+2,none⟩=some (.slice y1 y.bytes.length y2)∧wx.cell? ⟨ib,io+j*4+3,none⟩=some (.slice y3 y.items.length y4)∧wx.cell? ⟨ib,io+(j+1)*4,none⟩=some (.int .i64 z.kind)∧wx.cell? ⟨ib,io+(j+1)*4+1,none⟩=some (.int .u64 z.n)∧wx.cell? ⟨ib,io+(j+1)*4+2,none⟩=some (.slice z1 z.bytes.length z2)∧wx.cell? ⟨ib,io+(j+1)*4+3,none⟩=some (.slice z3 z.items.length z4)) (by kernel_rfl) (⟨hX.box.cell 0 rfl,hX.grows.holds.cell q0,hX.grows.holds.cell q1,hX.grows.holds.cell q2,hX.grows.holds.cell q3,hX.grows.holds.cell s0,hX.grows.holds.cell s1,hX.grows.holds.cell s2,hX.grows.holds.cell s3⟩) (fun hHeld=>?_)
     refine Zk 0 rfl hHeld ?_
     refine Zk 1 rfl hHeld ?_
     refine Zk 2 rfl hHeld ?_
     refine Zk 3 rfl hHeld ?_
     refine Zk 4 rfl hHeld ?_
     refine Zk 6 rfl hHeld ?_
     refine Zk 7 rfl hHeld ?_
     refine Zk 8 rfl hHeld ?_
     refine Zk 9 rfl hHeld ?_
     refine Zk 10 rfl hHeld ?_
     refine Zk 11 rfl hHeld ?_
     refine Zk 12 rfl hHeld ?_
     refine Zk 13 rfl hHeld ?_
     refine Zk 14 rfl hHeld ?_
     refine Zo 5 rfl fun K hK=>?_
     go_simp
     refine(cbor_add y Hx _ _ _ _ _ _ _ _ _ _ (.slice none 0 0) [] HV.out.1 hyz.out.1.arg hX.grows.holds (OwnB.nil _ _) (Nat.le_refl _) (by simp[Value.ownBlock]) (by have:=HV.out.2.2;simp;omega)).mono ?_
     rintro e w5 ⟨r5,rfl,hO5,hg5,_⟩
     obtain⟨A5,c5,rfl,_⟩:=OwnB.form hO5;obtain⟨H5,hG5,hk5,_⟩:=Fresh.snapB hX.grows.holds ⟨hO5,grown_none hg5⟩;have hX:=hX.grow hG5;have q0:=hG5.le.cell q0;have q1:=hG5.le.cell q1;have q2:=hG5.le.cell q2;have q3:=hG5.le.cell q3;have s0:=hG5.le.cell s0;have s1:=hG5.le.cell s1;have s2:=hG5.le.cell s2;have s3:=hG5.le.cell s3
     refine Ko hK ?_ fun hHeld=>?_
     ·exact⟨hX.box.cell 0 rfl,hX.grows.holds.cell q0,hX.grows.holds.cell q1,hX.grows.holds.cell q2,hX.grows.holds.cell q3,hX.grows.holds.cell s0,hX.grows.holds.cell s1,hX.grows.holds.cell s2,hX.grows.holds.cell s3⟩
     clear hK K
     refine Zk 15 rfl hHeld ?_
     refine Zo 16 rfl fun K hK=>?_
     go_simp
     have hRow:RowC lieP H5 (.slice A5 (encB y).length c5::(itemC y y1 y2 y3 y4++itemC z z1 z2 z3 z4)) [(encB y,y,z)]:=RowC.one ⟨A5,c5,y1,y2,y3,y4,z1,z2,z3,z4,rfl,hk5,hyz.out.1.mono hG5.le,hyz.out.2.mono hG5.le⟩;have hZ:=hX.litZ (.slice A5 (encB y).length c5::(itemC y y1 y2 y3 y4++itemC z z1 z2 z3 z4)).toArray 107;have hX:=hX.alloc (.cells (.slice A5 (encB y).length c5::(itemC y y1 y2 y3 y4++itemC z z1 z2 z3 z4)).toArray 107)
     refine Ko hK ?_ fun hHeld=>?_
     ·exact⟨hX.box.cell 0 rfl,hX.grows.holds.cell q0,hX.grows.holds.cell q1,hX.grows.holds.cell q2,hX.grows.holds.cell q3,hX.grows.holds.cell s0,hX.grows.holds.cell s1,hX.grows.holds.cell s2,hX.grows.holds.cell s3⟩
     clear hK K
     refine Zo 17 rfl fun K hK=>?_
     rw[if_pos (by rfl)]
     refine OwnX.append_wp2 (L:=lieP) _ _ 105 rfl Tryz.underlying105 rfl (by omega) info_bpair rfl hX.own _ _ _ _ [(encB y,y,z)] rfl rfl hRow hZ (by have:=HPL.out;have:=HJ.out.2;have:=HC.out.2.2;simp;omega) hX.base fun v7 w7 hO7 hg7 ha7=>?_
     have hX:=hX.app hO7 hg7 ha7;obtain⟨A7,c7,rfl,_⟩:=hO7.form;have HA7:Hid (∃ g':Nat,A7=some ⟨g',0,none⟩):=by obtain⟨g',d',h1,_⟩:=own_pe hO7 (by simp);exact⟨g',h1⟩
     rw[show(L++[(encB y,y,z)]).length=m+1 by have:=HPL.out;simp;omega]at hX⊢;clear hO7 hg7 ha7 hZ hRow
     refine Kz hK ?_
     clear hK K
     refine Zo 18 rfl fun K hK=>?_
     rw[if_pos (by rfl)]
     refine wp_store_cell _ _ _ rfl B 0 (.slice A7 (m+1) c7) rfl rfl _ _ hX.box size_bpairs (by simp) rfl fun w8 hB8 hg8=>?_
     have hX:=hX.setBox (by simpa using hB8) hg8;clear hB8 hg8
     refine Kz hK ?_
     clear hK K
     refine WaysZ.done (by kernel_rfl) ?_
     clear hHeld q0 q1 q2 q3 s0 s1 s2 s3 hG5 hk5;go_wp2_with fail
     go_roundw
     case rel=>exact⟨j+2,H5,A7,m+1,c7,by omega,by have:=HJ.out.1;omega,by go_num,by have:=HJ.out;omega,HA7.out,by rw[HPK.out];exact hX⟩
     case measure=>simp[intOf];omega
    ·have hkl:j=ps.length:=by omega
     subst hkl;clear hlt hj;rw[List.take_length]at hX;have hpl:(pk ps).length=n:=by rw[pk_len,HN.out];omega
     obtain rfl:m=n:=by have:=HJ.out.2;have:=HN.out;omega
     have hqp:(pk qs).length=m:=by rw[HQ.out.2.length_eq,hpl]
     have hascq:Asc (·.1) (pk qs):=asc_pk HA.out.1;have SRT:=sort_pairsA (q:=pk qs) hX.own hpl.symm (by omega) HQ.out.2 hascq hX.grows.holds hX.apart B (hX.box.cell 0 rfl) hX.far hX.box.lt;have SRTH:=Hh SRT;obtain⟨g,hgA⟩:=HVA.out;subst hgA;have c0:=hX.box.cell 0 rfl;have HPL:=Hh hqp;clear SRT hascq hqp hpl;go_wp2_with fail
     refine SRTH.out.mono ?_
     rintro e w9 ⟨rfl,hO9,hg9⟩
     replace hX:=hX.perm hO9 hg9;obtain⟨H9,hG9,hle9,hmm9,hrow9,hK9,hB9⟩:=hX.snap;clear hmm9;have hbox:=hX.box;have hkey:=hX.key;have hlt9:=hX.lt;clear hX hO9 hg9 SRTH c0 hle9;have hBlt:=hbox.lt;have hM:=(Blk.new w9 26 zeroC)
     have hMn:H9 w9.heap.size=none:=hG9.holds.none_of_ge (Nat.le_refl _);obtain⟨M,hMe⟩:∃ M,w9.heap.size=M:=⟨_,rfl⟩
     have HM:=Hh (And.intro hG9.size (And.intro hBlt hMe));rw[hMe]at hM hMn;go_wp2_with (with_reducible refine stop_store ?_)
     unfold Stopped
     try rw[hMe]
     refine wpList_store_item rfl _ _ _ rfl rfl M _ rfl rfl _ _ hM size_item rfl (one4 _ _ _ _ rfl rfl rfl rfl) fun w11 hM11 hg11=>?_
     have hS:BM w H B M #[.slice (some ⟨g,0,none⟩) m vc] (.slice none 0 0) (.slice none 0 0) [] w11 H9 :=
      ⟨(hG9.alloc zeroO).grownOwn hMn (by have:=HM.out;omega) hg11,hK9,hB9,hMn,hlt9,by have:=hkey.lt;have:=HM.out;omega,by have:=HM.out;omega,(hkey.alloc zeroO).grown hg11 (fun e=>by injection e with e;have:=hkey.lt;have:=HM.out;omega),
       (hbox.alloc zeroO).grown hg11 (fun e=>by injection e with e;have:=HM.out;omega),hM11,OwnI.nil _ _ _,fun g hg=>by simp[Value.ownBlock]at hg⟩
     have c0:=hS.boxB.cell 0 rfl;clear hM hMn hMe hg11 hM11 hbox hkey hlt9 hBlt hG9 hK9 hB9;go_wp2_with fail
     go_loopw [62] (fun v62 wx=>∃ (i:Nat) (Hx:Snap) (VA:Option Addr) (vm v9:Nat),i≤m∧v62=.int .i64 (i:Int)∧vm=2*i∧H9.le Hx∧BM w H B M #[.slice (some ⟨g,0,none⟩) m vc] (.slice VA vm v9) (.slice VA vm v9) (qs.take (2*i)) wx Hx) (fun v62 _=>m-(intOf v62).toNat)
     case atStart=>exact⟨0,H9,none,0,0,Nat.zero_le _,rfl,rfl,Snap.le.refl _,by simpa using hS⟩
     case round =>
      clear hS c0;obtain⟨i,Hx,VA,vm,v9,him,rfl,hvm,hle,hS⟩:=hrel;have HI:=Hh (And.intro him hvm);clear him hvm
      by_cases hlt:i<m
      ·have hi1:2*i+1<qs.length:=by have:=HN.out;have:=HQ.out.1;omega
       have hltI:(i:Int)<m:=by omega
       have hi63:(i:Int)+1≤9223372036854775807:=by have:=HC.out.2.2;have:=HN.out;omega
       have hgi:=pk_get qs i hi1;have hil:i<(pk qs).length:=by have:=HPL.out;omega
       rw[List.getElem?_eq_getElem hil]at hgi;have hgi':=Option.some.inj hgi
       have HTK:Hid (qs.take (2*(i+1))=qs.take (2*i)++[qs[2*i]'(by omega),qs[2*i+1]]):=by
        rw[Hid,show 2*(i+1)=2*i+1+1 by omega,List.take_succ_eq_append_getElem hi1,List.take_succ_eq_append_getElem (by omega),List.append_assoc];rfl
       have HASC:Hid (∀ k,k+1=i→∀ hk:k<(pk qs).length,Lib.compareBytes ((pk qs)[k].1) (encB (qs[2*i]'(Nat.lt_of_succ_lt hi1)))<0):=fun k hk hkl=>by
        subst hk;have e1:=pk_get qs k (by omega);rw[List.getElem?_eq_getElem hkl]at e1;rw[Option.some.inj e1]
        exact asc_at (m:=2*k) HA.out.1 (by omega) (by omega)
       obtain⟨gb,go,hga,hrows⟩:=hrow9.at_ (by omega)
       cases hga
       obtain⟨dc,⟨KA,kc,y1,y2,y3,y4,z1,z2,z3,z4,hdc,hky,hey,hez⟩,hcell⟩:=hrows i hil;subst hdc;rw[hgi']at hky hey hez hcell;have HROW:=Hh hrows;have r0:=hle.cell (hcell 0 _ rfl);have r1:=hle.cell (hcell 1 _ rfl);have r2:=hle.cell (hcell 2 _ rfl);have r3:=hle.cell (hcell 3 _ rfl);have r4:=hle.cell (hcell 4 _ rfl);have r5:=hle.cell (hcell 5 _ rfl);have r6:=hle.cell (hcell 6 _ rfl);have r7:=hle.cell (hcell 7 _ rfl);have r8:=hle.cell (hcell 8 _ rfl);have hky:=hky.mono hle;have hey:=hey.mono hle;have hez:=hez.mono hle
       generalize qs[2*i]'(by omega)=y at *
       generalize qs[2*i+1]'hi1=z at *
       generalize hLL:qs.take (2*i)=LL at hS HTK
       have HLL:Hid (LL.length=vm):=by rw[Hid,← hLL,List.length_take];have:=HI.out;omega
       have HIT:=Hh (And.intro hky (And.intro hey hez));clear hgi hgi' hcell hrows hky hey hez hLL;have r0:=hS.grows.holds.cell r0;have r1:=hS.grows.holds.cell r1;have r2:=hS.grows.holds.cell r2;have r3:=hS.grows.holds.cell r3;have r4:=hS.grows.holds.cell r4;have r5:=hS.grows.holds.cell r5;have r6:=hS.grows.holds.cell r6;have r7:=hS.grows.holds.cell r7;have r8:=hS.grows.holds.cell r8
       simp only[lieP,Nat.add_zero,Nat.zero_add,← Nat.add_assoc]at r0 r1 r2 r3 r4 r5 r6 r7 r8
       go_upto_region 19 with fail
       have hD:=Blk.new wr 107 #[.slice KA (encB y).length kc,.int .i64 y.kind,.int .u64 y.n,.slice y1 y.bytes.length y2,.slice y3 y.items.length y4,.int .i64 z.kind,.int .u64 z.n,.slice z1 z.bytes.length z2,.slice z3 z.items.length z4];replace hS:=hS.alloc (.cells #[.slice KA (encB y).length kc,.int .i64 y.kind,.int .u64 y.n,.slice y1 y.bytes.length y2,.slice y3 y.items.length y4,.int .i64 z.kind,.int .u64 z.n,.slice z1 z.bytes.length z2,.slice z3 z.items.length z4] 107);obtain⟨P,hPe⟩:∃ P,wr.heap.size=P:=⟨_,rfl⟩
       obtain⟨w2,hw2⟩:∃ w2,wr.alloc (.cells #[.slice KA (encB y).length kc,.int .i64 y.kind,.int .u64 y.n,.slice y1 y.bytes.length y2,.slice y3 y.items.length y4,.int .i64 z.kind,.int .u64 z.n,.slice z1 z.bytes.length z2,.slice z3 z.items.length z4] 107)=w2:=⟨_,rfl⟩
       rw[hw2]at hS hD⊢;rw[hPe]at hD⊢;clear hw2 hPe r0 r1 r2 r3 r4 r5 r6 r7 r8;go_cut [79] (fun s79 wx=>s79=.bool false∧BM w H B M #[.slice (some ⟨g,0,none⟩) m vc] (.slice VA vm v9) (.slice VA vm v9) LL wx Hx∧Blk wx P 107 #[.slice KA (encB y).length kc,.int .i64 y.kind,.int .u64 y.n,.slice y1 y.bytes.length y2,.slice y3 y.items.length y4,.int .i64 z.kind,.int .u64 z.n,.slice z1 z.bytes.length z2,.slice z3 z.items.length z4])
       case first =>
        by_cases h0:i=0
        ·subst h0
         refine wp_region_ways 12 (fun _=>True) (by kernel_rfl) (trivial) (fun hHeld=>?_)
         refine Tk 0 rfl hHeld ?_
         refine Tk 1 rfl hHeld ?_
         refine Tk 2 rfl hHeld ?_
         refine TkU 3 rfl hHeld ?_
         refine TkU 4 rfl hHeld ?_
         refine TkU 5 rfl hHeld ?_
         refine TkU 6 rfl hHeld ?_
         refine TkU 7 rfl hHeld ?_
         refine TkU 8 rfl hHeld ?_
         refine TkU 9 rfl hHeld ?_
         refine TkU 10 rfl hHeld ?_
         refine TkU 11 rfl hHeld ?_
         refine To 12 rfl fun K hK=>?_
         go_simp
         refine Kz hK ?_
         clear hK K
         refine Wd ?_
         go_wp2_with fail
         go_meet
         exact⟨rfl,hS.drew,hD.drew⟩
        ·obtain⟨k,rfl⟩:∃ k,i=k+1:=⟨i-1,by omega⟩
         obtain⟨dk,⟨KB,kd,u1,u2,u3,u4,u5,u6,u7,u8,hdk,hkb,_,_⟩,hcell⟩:=HROW.out k (by have:=HPL.out;omega);subst hdk
         have hne:Hid (((pk qs)[k]'(by have:=HPL.out;omega)).1≠encB y):=fun e=>by
          have h1:=HASC.out k rfl (by have:=HPL.out;omega);rw[e,cmp_refl]at h1
          omega
         have rk:=hcell 0 _ rfl
         generalize ((pk qs)[k]'(by have:=HPL.out;omega)).1=kb at *
         have rk:=hS.grows.holds.cell (hle.cell rk)
         simp only[lieP,Nat.add_zero,Nat.zero_add]at rk
         have hEQ:Hid ((kb==encB y)=false):=by rw[Hid,beq_eq_false_iff_ne];exact hne.out
         have e2:((k+1:Nat):Int)=(k:Int)+1:=by omega
         try rw[e2]
         have hw1:IntKind.i64.wrap ((k:Int)+1-1)=(k:Int):=by rw[show(k:Int)+1-1=(k:Int) by omega];exact IntWalk.i64_in _ (by omega)
         have hw3:IntKind.i64.wrap (k:Int)=(k:Int):=IntWalk.i64_in _ (by omega);have hkI:(k:Int)<m:=by omega
         have hk0:(0:Int)≤(k:Int):=by omega
         have hkp:(0:Int)<(k:Int)+1:=by omega
         have hkm:k<m:=by omega
         have hKB:=Hh (hkb.mono hle);have c0:=hS.boxB.cell 0 rfl;have d0:=hD.cell 0 rfl;replace hS:=hS.drew;replace hD:=hD.drew;clear hcell hkb hne e2 hltI hi63 h0
         refine wp_region_ways 12 (fun wx=>wx.cell? ⟨B,0,none⟩=some (.slice (some ⟨g,0,none⟩) m vc)∧wx.cell? ⟨g,k*9,none⟩=some (.slice KB kb.length kd)∧wx.cell? ⟨P,0,none⟩=some (.slice KA (encB y).length kc)) (by kernel_rfl) (⟨c0,rk,d0⟩) (fun hHeld=>?_)
         refine Tk 0 rfl hHeld ?_
         refine Tk 1 rfl hHeld ?_
         refine Tk 2 rfl hHeld ?_
         refine TkG 3 rfl hHeld ?_
         refine TkG 4 rfl hHeld ?_
         refine TkG 5 rfl hHeld ?_
         refine TkG 6 rfl hHeld ?_
         refine TkG 7 rfl hHeld ?_
         refine TkG 8 rfl hHeld ?_
         refine TkG 9 rfl hHeld ?_
         refine TkG 10 rfl hHeld ?_
         refine To 11 rfl fun K hK=>?_
         go_simp
         refine(bytes_Equal _ KB KA kb (encB y) _ _ kd kc rfl rfl (Src.of_row hKB.out.row hS.grows.holds) (Src.of_row HIT.out.1.row hS.grows.holds)).mono ?_
         rintro e w5 ⟨rfl,rfl⟩
         rw[hEQ.out]
         refine Ko hK ?_ fun hHeld=>?_
         ·exact⟨c0,rk,d0⟩
         clear hK K
         refine To 12 rfl fun K hK=>?_
         go_simp
         refine Kz hK ?_
         clear hK K
         refine Wd ?_
         clear hHeld c0 rk d0;go_wp2_with fail
         go_meet
         exact⟨rfl,hS,hD⟩
       case rest =>
        clear hS hD;obtain⟨rfl,hS,hD⟩:=hcut;have m3:=hS.boxM.cell 3 rfl;have d1:=hD.cell 1 rfl;have d2:=hD.cell 2 rfl;have d3:=hD.cell 3 rfl;have d4:=hD.cell 4 rfl;have d5:=hD.cell 5 rfl;have d6:=hD.cell 6 rfl;have d7:=hD.cell 7 rfl;have d8:=hD.cell 8 rfl;have HS:=Hh hS;clear hS hD;go_wp2_with (at_builtin;refine stop_in ?_)
        unfold Stopped
        have hZ:=HS.out.litZ (itemC y y1 y2 y3 y4++itemC z z1 z2 z3 z4).toArray 26;have hS:=HS.out.alloc (.cells (itemC y y1 y2 y3 y4++itemC z z1 z2 z3 z4).toArray 26)
        refine wpList_app_items rfl _ _ rfl _ _ _ _ rfl hS.own _ _ _ _ [y,z] rfl rfl ((ItemsC.one HIT.out.2.1).app (ItemsC.one HIT.out.2.2)) hZ (by have:=HLL.out;have:=HI.out;have:=HC.out.2.2;have:=HN.out;simp;omega) hS.base fun v7 w7 hO7 hg7 ha7=>?_
        replace hS:=hS.app hO7 hg7 ha7;obtain⟨A7,c7,rfl,_⟩:=hO7.form;rw[show(LL++[y,z]).length=vm+2 by have:=HLL.out;simp;omega]at hS⊢;clear hO7 hg7 ha7 hZ HS m3 d1 d2 d3 d4 d5 d6 d7 d8;go_wp2_with (with_reducible refine stop_store ?_)
        refine wpList_store_cell rfl _ _ _ rfl rfl M 3 (.slice A7 (vm+2) c7) rfl rfl _ _ hS.boxM size_items (by simp) rfl fun w8 hB8 hg8=>?_
        replace hS:=hS.setM (by simpa using hB8) hg8;clear hB8 hg8;go_wp2_with fail
        go_roundw
        case rel=>exact⟨i+1,Hx,A7,vm+2,c7,by omega,by go_num,by have:=HI.out;omega,hle,by rw[HTK.out];exact hS⟩
        case measure=>simp[intOf];omega
      ·have hkl:i=m:=by have:=HI.out.1;omega
       subst hkl;clear hlt;rw[show 2*i=qs.length from by have:=HN.out;have:=HQ.out.1;omega,List.take_length]at hS;obtain⟨H12,hG12,hm12,hit,hn12⟩:=hS.item;have m0:=hS.boxM.cell 0 rfl;have m1:=hS.boxM.cell 1 rfl;have m2:=hS.boxM.cell 2 rfl;have m3:=hS.boxM.cell 3 rfl;have hkey:=hS.key;subst hm12;have HIT:=Hh hit;have HV:=Hh (cbor_Valid (hTab.mono hG12.le) (x:=.mk 5 0 [] qs) hit.arg _ hG12.holds);rw[HA.out.2.2]at HV;have HMo:=Hh (validP_modest HA.out.2.2);clear hS hit;go_wp2_with fail
       refine HV.out.mono ?_
       rintro e w13 ⟨rfl,hb13⟩
       have hG13:=hG12.below_ hb13;have m0:=(m0b hb13 m0)
       have m1:=(m0b hb13 m1)
       have m2:=(m0b hb13 m2)
       have m3:=(m0b hb13 m3)
       replace hkey:=hkey.below hb13;have CP:=Hh (cbor_copied (.mk 5 0 [] qs) H12 _ _ _ _ _ _ _ _ w13 HMo.out HIT.out.arg hG13.holds);clear HV hb13 hG12;go_wp2_with fail
       refine CP.out.mono ?_
       rintro e w14 ⟨v14,rfl,xa,xb,xc,xd,H14,rfl,hG14,hI14⟩
       have hG15:=hG13.trans hG14;have hn15:=hG14.none hn12 hkey.lt;replace hkey:=hkey.below hG14.below;clear CP hG13 hG14;go_wp2_with (with_reducible refine stop_store ?_)
       refine stI hkey fun w16 hT16 hg16=>?_
       have hG16:=hG15.grownOwn hn15 (Nat.le_refl _) hg16;clear hG15 hg16 hkey;go_wp2_with fail
       refine ret_row_tmp rfl rfl hT16 rfl rfl size_item rfl ?_
       exact⟨_,rfl,xa,xb,xc,xd,H14,rfl,hG16,hI14⟩
theorem build_valid {p:Itm}(h:validP p=true) (h5:p.kind=5):p.items.length%2=0∧p.items.length≤1000∧ascP p.items=true∧(∀ x∈p.items,validP x=true)∧validP (.mk 5 0 [] p.items)=true:=by
 obtain⟨e,h2,ha⟩:=map_is h h5
 exact⟨h2,by have:=(validP_items h).2.1;omega,ha,fun x hx=>validP_elem h hx,by rw[← e];exact h⟩
theorem envelope_owned {H:Snap}(hTab:Tabs H) {p u:Itm}(vp:validP p=true) (vu:validP u=true) (kp:p.kind=5) (ku:u.kind=5) {a b:Ad}(hp:IsItem H a.ba a.bc a.ia a.ic p) (hu:IsItem H b.ba b.bc b.ia b.ic u) (w:World) (hH:Holds w H) :
  Calls Tryz.prog 22 #[.agg (hdrC p a u b)] w fun e w'=>∃ v,e=.returned v∧GivesH w H p u v w':=by
 have hB:=(Blk.new w 28 (hdrC p a u b)).alloc zeroH;have hR:=Blk.new (w.alloc (.cells (hdrC p a u b) 28)) 28 (hdrC zeroItm ⟨none,0,none,0⟩ zeroItm ⟨none,0,none,0⟩)
 simp only[size_alloc]at hR
 have hG:=((Grows.refl hH).alloc (.cells (hdrC p a u b) 28)).alloc zeroH;have hRn:H (w.heap.size+1)=none:=hH.none_of_ge (by omega);have HP:=Hh hp;have HU:=Hh hu;have HT:=Hh hTab;have EP:=Hh (map_is vp kp).1;have EU:=Hh (map_is vu ku).1;have BP:=Hh (build_valid vp kp);have BU:=Hh (build_valid vu ku);have C1:=Hh (cbor_BuildN hTab hp.row BP.out.1 (Nat.zero_le _) BP.out.2.1 rfl (List.Perm.refl _) BP.out.2.2.1 BP.out.2.2.2.1 BP.out.2.2.2.2 _ hG.holds);clear vp vu kp ku hp hu hTab hH;have c3:=hB.cell 3 rfl;go_enter Tryz.func22,Tryz.ntmps22
 go_wp2_with fail
 refine C1.out.mono ?_
 rintro e w2 ⟨v2,rfl,xa,xb,xc,xd,H2,rfl,hG2,hI2⟩
 rw[← EP.out]at hI2⊢;have hG3:=hG.trans hG2;have hRn2:=hG2.none hRn hR.lt;replace hR:=hR.below hG2.below;replace hB:=hB.below hG2.below;have hX:=Blk.new w2 26 #[.int .i64 p.kind,.int .u64 p.n,.slice xa p.bytes.length xb,.slice xc p.items.length xd];have hRl:=hR.lt;replace hR:=hR.alloc (itemO p xa xb xc xd);replace hB:=hB.alloc (itemO p xa xb xc xd);have hG4:=hG3.alloc (itemO p xa xb xc xd);have C2:=Hh (cbor_BuildN (HT.out.mono hG4.le) (HU.out.mono hG4.le).row BU.out.1 (Nat.zero_le _) BU.out.2.1 rfl (List.Perm.refl _) BU.out.2.2.1 BU.out.2.2.2.1 BU.out.2.2.2.2 _ hG4.holds);have c7:=hB.cell 7 rfl;clear C1 hG2 hG3 hG hB c3;go_wp2_with fail
 refine C2.out.mono ?_
 rintro e w4 ⟨v4,rfl,ya,yb,yc,yd,H4,rfl,hG5,hI4⟩
 rw[← EU.out]at hI4⊢;have hG6:=hG4.trans hG5;have hRn4:=hG5.none hRn2 hR.lt;replace hR:=(hR.below hG5.below).alloc (itemO u ya yb yc yd);replace hX:=(hX.below hG5.below).alloc (itemO u ya yb yc yd);have hY:=Blk.new w4 26 #[.int .i64 u.kind,.int .u64 u.n,.slice ya u.bytes.length yb,.slice yc u.items.length yd];have hG7:=hG6.alloc (itemO u ya yb yc yd);have hI2':=hI2.mono hG5.le;have x0:=hX.cell 0 rfl;have x1:=hX.cell 1 rfl;have x2:=hX.cell 2 rfl;have x3:=hX.cell 3 rfl;have y0:=hY.cell 0 rfl;have y1:=hY.cell 1 rfl;have y2:=hY.cell 2 rfl;have y3:=hY.cell 3 rfl;clear C2 hG5 hG6 hG4 hI2 c7 hX hY hRl;go_upto_region 3 with fail
 go_wp2_with (with_reducible refine stop_store ?_)
 refine wpList_store_item rfl _ _ _ rfl rfl _ _ rfl rfl _ _ hR size_hdr rfl (by kernel_rfl) fun w9 hR9 hg9=>?_
 have hG9:=hG7.grownOwn hRn4 (by omega) hg9;go_wp2_with fail
 refine ret_row rfl rfl hR9 rfl rfl size_hdr rfl ?_
 exact⟨_,rfl,⟨xa,xb,xc,xd⟩,⟨ya,yb,yc,yd⟩,H4,rfl,hG9,hI2',hI4⟩
theorem ref12_Same {H:Snap}{p u:Itm}(hmp:Modest p) (hmu:Modest u) {a b c d:Ad}(hp:IsItem H a.ba a.bc a.ia a.ic p) (hu:IsItem H b.ba b.bc b.ia b.ic u) (hp':IsItem H c.ba c.bc c.ia c.ic p) (hu':IsItem H d.ba d.bc d.ia d.ic u) (w:World) (hH:Holds w H) :
  Calls Tryz.prog 30 #[.agg (hdrC p a u b),.agg (hdrC p c u d)] w fun e w'=>e=.returned (.bool true)∧Below w.heap.size w w':=by
 have hX:=(Blk.new w 28 (hdrC p a u b)).alloc (.cells (hdrC p c u d) 28);have hY:=Blk.new (w.alloc (.cells (hdrC p a u b) 28)) 28 (hdrC p c u d);rw[size_alloc]at hY;have hb:=(below_box w (.cells (hdrC p a u b) 28)).alloc (below_box w (.cells (hdrC p a u b) 28)).size (.cells (hdrC p c u d) 28);have hh:=(hH.alloc (.cells (hdrC p a u b) 28)).alloc (.cells (hdrC p c u d) 28);have S1:=Hh (ref_Same p p H _ _ _ _ _ _ _ _ _ _ _ _ _ _ _ _ _ hmp hmp hp.arg hp'.arg hh);have S2:=Hh (fun w hw=>ref_Same u u H _ _ _ _ _ _ _ _ _ _ _ _ _ _ _ _ w hmu hmu hu.arg hu'.arg hw);rw[(sameB_iff p p).2 rfl]at S1;rw[(sameB_iff u u).2 rfl]at S2;have x0:=hX.cell 0 rfl;have y0:=hY.cell 0 rfl;have x1:=hX.cell 1 rfl;have y1:=hY.cell 1 rfl;have x2:=hX.cell 2 rfl;have y2:=hY.cell 2 rfl;have x3:=hX.cell 3 rfl;have y3:=hY.cell 3 rfl;have x4:=hX.cell 4 rfl;have y4:=hY.cell 4 rfl;have x5:=hX.cell 5 rfl
 have y5:=hY.cell 5 rfl;have x6:=hX.cell 6 rfl;have y6:=hY.cell 6 rfl;have x7:=hX.cell 7 rfl;have y7:=hY.cell 7 rfl;clear hp hu hp' hu';have HH:=Hh hh;clear hh hH;go_enter Tryz.func30,Tryz.ntmps30
 go_wp2_with fail
 refine S1.out.mono ?_
 rintro e w2 ⟨rfl,hb2⟩
 replace hX:=hX.below hb2;replace hY:=hY.below hb2;have hbz:=hb.trans (hb2.mono hb.size);have hh2:=HH.out.below hb2 (Nat.le_refl _);clear S1 x0 y0 x1 y1 x2 y2 x3 y3 x4 y4 x5 y5 x6 y6 x7 y7;have x0:=hX.cell 0 rfl;have y0:=hY.cell 0 rfl;have x1:=hX.cell 1 rfl;have y1:=hY.cell 1 rfl;have x2:=hX.cell 2 rfl;have y2:=hY.cell 2 rfl;have x3:=hX.cell 3 rfl;have y3:=hY.cell 3 rfl;have x4:=hX.cell 4 rfl;have y4:=hY.cell 4 rfl;have x5:=hX.cell 5 rfl;have y5:=hY.cell 5 rfl;have x6:=hX.cell 6 rfl;have y6:=hY.cell 6 rfl;have x7:=hX.cell 7 rfl;have y7:=hY.cell 7 rfl;go_wp2_with fail
 refine(S2.out _ hh2).mono ?_
 rintro e w3 ⟨rfl,hb3⟩
 have hbq:=hbz.trans (hb3.mono hbz.size);go_wp2_with fail
 go_ret
 exact⟨rfl,hbq⟩
theorem ref13_Same {H:Snap}{v:Ev}(hmp:Modest v.p) (hmu:Modest v.u) {a b:EvAd}(ha:EvA H v a) (hb:EvA H v b) (w:World) (hH:Holds w H) :
  Calls Tryz.prog 9 #[.agg (evQ v a),.agg (evQ v b)] w fun e w'=>e=.returned (.bool true)∧Below w.heap.size w w':=by
 have hX:=(Blk.new w 34 (evQ v a)).alloc (.cells (evQ v b) 34);have hY:=Blk.new (w.alloc (.cells (evQ v a) 34)) 34 (evQ v b);rw[size_alloc]at hY;have hbb:=(below_box w (.cells (evQ v a) 34)).alloc (below_box w (.cells (evQ v a) 34)).size (.cells (evQ v b) 34);have hh:=(hH.alloc (.cells (evQ v a) 34)).alloc (.cells (evQ v b) 34);have S1:=Hh (ref12_Same hmp hmu ha.p ha.u hb.p hb.u _ hh);have x0:=hX.cell 0 rfl;have y0:=hY.cell 0 rfl;have x1:=hX.cell 1 rfl;have y1:=hY.cell 1 rfl;have x2:=hX.cell 2 rfl;have y2:=hY.cell 2 rfl;have x3:=hX.cell 3 rfl;have y3:=hY.cell 3 rfl;have x4:=hX.cell 4 rfl;have y4:=hY.cell 4 rfl;have x5:=hX.cell 5 rfl;have y5:=hY.cell 5 rfl;have x6:=hX.cell 6 rfl;have y6:=hY.cell 6 rfl;have x7:=hX.cell 7 rfl;have y7:=hY.cell 7 rfl;have x8:=hX.cell 8 rfl;have y8:=hY.cell 8 rfl;have x9:=hX.cell 9 rfl;have y9:=hY.cell 9 rfl;have HA:=Hh ha
 have HB:=Hh hb;have HH:=Hh hh;clear ha hb hh hH;go_enter Tryz.func9,Tryz.ntmps9
 go_wp2_with fail
 refine S1.out.mono ?_
 rintro e w2 ⟨rfl,hb2⟩
 replace hX:=hX.below hb2;replace hY:=hY.below hb2;have hbz:=hbb.trans (hb2.mono hbb.size);have hh2:=HH.out.below hb2 (Nat.le_refl _);have s1:=conv_bytes (Src.of_row HA.out.body.row hh2) v.body.length a.bc rfl;have s2:=conv_bytes (Src.of_row HB.out.body.row hh2) v.body.length b.bc rfl;have s3:=conv_bytes (Src.of_row HA.out.tag.row hh2) v.tag.length a.tc rfl;have s4:=conv_bytes (Src.of_row HB.out.tag.row hh2) v.tag.length b.tc rfl;clear S1 hh2 x0 y0 x1 y1 x2 y2 x3 y3 x4 y4 x5 y5 x6 y6 x7 y7 x8 y8 x9 y9;have x8:=hX.cell 8 rfl;have y8:=hY.cell 8 rfl;have x9:=hX.cell 9 rfl;have y9:=hY.cell 9 rfl;go_wp2_with fail
 go_ret
 exact⟨rfl,hbz⟩
theorem size_ev:(Tryz.prog.info? 34).map (·.size)=some 10:=by kernel_rfl
theorem zero_one10:zeroEvC.all (·.oneCell')=true:=by kernel_rfl
theorem ev_one (p u:Itm) (a b:Ad) (ba:Option Addr) (bn bc:Nat) (ta:Option Addr) (tn tc:Nat):(evC p a u b ba bn bc ta tn tc).all (·.oneCell')=true:=by kernel_rfl
theorem tagN_le (g:Int):tagN g=0∨tagN g=8∨tagN g=32:=by
 unfold tagN
 split
 ·exact .inr (.inl rfl)
 ·split <;> simp
theorem envelope_Mac {H:Snap}(hTab:Tabs H) {p u:Itm}{a b:Ad}(hp:IsItem H a.ba a.bc a.ia a.ic p) (hu:IsItem H b.ba b.bc b.ia b.ic u)
  {EA:Option Addr} {en ec:Nat} {ext:List UInt8} (hen:en=ext.length) (hext:IsBytes H EA ec ext) (hel:ext.length≤1048576) {PA:Option Addr} {pn pc:Nat} {pay:List UInt8} (hpn:pn=pay.length) (hpay:IsBytes H PA pc pay)
  {KA:Option Addr} {kn kc:Nat} {key:List UInt8} (hkn:kn=key.length) (hkey:IsBytes H KA kc key) (hkl:key.length≤1048576) (w:World) (hH:Holds w H) :
  Calls Tryz.prog 7 #[.agg (hdrC p a u b),.slice EA en ec,.slice PA pn pc,.slice KA kn kc] w (MacOut w H p u ext pay key):=by
 have hB:=(Blk.new w 28 (hdrC p a u b)).alloc (.cells zeroEvC 34);have hR:=Blk.new (w.alloc (.cells (hdrC p a u b) 28)) 34 zeroEvC
 simp only[size_alloc]at hR
 have hG:=((Grows.refl hH).alloc (.cells (hdrC p a u b) 28)).alloc (.cells zeroEvC 34);have hRn:H (w.heap.size+1)=none:=hH.none_of_ge (by omega);have HP:=Hh hp;have HU:=Hh hu;have HT:=Hh hTab;have HX:=Hh (And.intro hen (And.intro hext hel));have HY:=Hh (And.intro hpn hpay);have HK:=Hh (And.intro hkn (And.intro hkey hkl));have V:=Hh (header_Valid hTab hp hu _ hG.holds);clear hp hu hTab hH hen hext hel hpn hpay hkn hkey hkl;have c0:=hB.cell 0 rfl;have c1:=hB.cell 1 rfl;have c2:=hB.cell 2 rfl;have c3:=hB.cell 3 rfl;have c4:=hB.cell 4 rfl;have c5:=hB.cell 5 rfl;have c6:=hB.cell 6 rfl;have c7:=hB.cell 7 rfl;go_enter Tryz.func7,Tryz.ntmps7
 go_wp2_with fail
 refine V.out.mono ?_
 rintro e w2 ⟨rfl,hb2⟩
 replace hB:=hB.below hb2;replace hR:=hR.below hb2;replace hG:=hG.below_ hb2;clear V hb2 c0 c1 c2 c3 c4 c5 c6 c7
 cases hv:validH p u with
 | false =>
  have E:=Hh (show macE p u ext pay key=1 by rw[macE,if_pos hv]);clear hv hB;go_wp2_with (with_reducible refine stop_store ?_)
  refine wpList_store_item rfl _ _ _ rfl rfl _ _ rfl rfl _ _ hR size_ev rfl (zero_one10) fun wz hRz hgz=>?_
  have hGz:=hG.grownOwn hRn (by omega) hgz;clear hR hgz;go_wp2_with fail
  refine ret_row_tmp rfl rfl hRz rfl rfl size_ev rfl ?_
  exact MacOut.bad E.out (by omega) hGz rfl
 | true =>
 have HV:=Hh hv;clear hv;have AL:=Hh (header_Alg HT.out HP.out HU.out _ hG.holds);have c0:=hB.cell 0 rfl;have c1:=hB.cell 1 rfl;have c2:=hB.cell 2 rfl;have c3:=hB.cell 3 rfl;have c4:=hB.cell 4 rfl;have c5:=hB.cell 5 rfl;have c6:=hB.cell 6 rfl;have c7:=hB.cell 7 rfl;obtain⟨g,hg⟩:∃ g,algP p u=g:=⟨_,rfl⟩
 rw[hg]at AL;have HG:=Hh hg;clear hg;go_wp2_with fail
 refine AL.out.mono ?_
 rintro e w3 ⟨rfl,hb3⟩
 replace hB:=hB.below hb3;replace hR:=hR.below hb3;replace hG:=hG.below_ hb3;clear AL hb3 c0 c1 c2 c3 c4 c5 c6 c7;go_upto_block 0 with fail
 go_cut [10] (fun s10 wx=>s10=.int .i64 ((tagN g:Nat):Int)∧wx=w3)
 case first =>
  clear hB hR hG
  by_cases h4:g=4
  ·subst h4;go_wp2_with fail
   go_meet
   exact⟨rfl,rfl⟩
  ·have k4:(g==4)=false:=by simpa using h4
   have t4:=eq_false h4
   by_cases h5:g=5
   ·subst h5;go_wp2_with fail
    go_meet
    exact⟨rfl,rfl⟩
   ·have k5:(g==5)=false:=by simpa using h5
    have t5:=eq_false h5;have e0:=Hh (show tagN g=0 by rw[tagN,if_neg h4,if_neg h5]);clear h4 h5;go_wp2_with fail
    go_meet
    exact⟨by rw[e0.out];rfl,rfl⟩
 case rest =>
 obtain⟨rfl,rfl⟩:=hcut;have htn:=tagN_le g;obtain⟨n,hn⟩:∃ n,tagN g=n:=⟨_,rfl⟩
 rw[hn]at htn⊢;have HN:Hid (tagN (algP p u)=n):=by rw[Hid,HG.out,hn]
 clear hn HG;have HTN:=Hh htn
 by_cases h0:n=0
 ·subst h0;have E:=Hh (show macE p u ext pay key=12 by rw[macE,if_neg (by rw[HV.out];simp),if_pos (.inl HN.out)]);clear hB htn;go_wp2_with (with_reducible refine stop_store ?_)
  refine wpList_store_item rfl _ _ _ rfl rfl _ _ rfl rfl _ _ hR size_ev rfl (zero_one10) fun wz hRz hgz=>?_
  have hGz:=hG.grownOwn hRn (by omega) hgz;clear hR hgz;go_wp2_with fail
  refine ret_row_tmp rfl rfl hRz rfl rfl size_ev rfl ?_
  exact MacOut.bad E.out (by omega) hGz rfl
 have n0:((n:Int)==0)=false:=by rw[beq_eq_false_iff_ne];omega
 have n1:((n:Int)=0)=False:=eq_false (by omega);have N0:=Hh h0;clear h0 htn
 by_cases hk0:kn=0
 ·subst hk0;have E:=Hh (show macE p u ext pay key=12 by rw[macE,if_neg (by rw[HV.out];simp),if_pos (.inr HK.out.1.symm)]);clear hB;go_wp2_with (with_reducible refine stop_store ?_)
  refine wpList_store_item rfl _ _ _ rfl rfl _ _ rfl rfl _ _ hR size_ev rfl (zero_one10) fun wz hRz hgz=>?_
  have hGz:=hG.grownOwn hRn (by omega) hgz;clear hR hgz;go_wp2_with fail
  refine ret_row_tmp rfl rfl hRz rfl rfl size_ev rfl ?_
  exact MacOut.bad E.out (by omega) hGz rfl
 have m0:((kn:Int)==0)=false:=by rw[beq_eq_false_iff_ne];omega
 have m1:((kn:Int)=0)=False:=eq_false (by omega);have HK0:=Hh hk0;clear hk0
 by_cases hbig:4096<pn
 ·have p0:(4096:Int)<(pn:Int):=by omega
  have E:=Hh (show macE p u ext pay key=8 by rw[macE,if_neg (by rw[HV.out];simp),if_neg (by rw[HN.out,← HK.out.1];have:=N0.out;have:=HK0.out;omega),if_pos (by rw[← HY.out.1];exact hbig)]);clear hB hbig;go_wp2_with (with_reducible refine stop_store ?_)
  refine wpList_store_item rfl _ _ _ rfl rfl _ _ rfl rfl _ _ hR size_ev rfl (zero_one10) fun wz hRz hgz=>?_
  have hGz:=hG.grownOwn hRn (by omega) hgz;clear hR hgz;go_wp2_with fail
  refine ret_row_tmp rfl rfl hRz rfl rfl size_ev rfl ?_
  exact MacOut.bad E.out (by omega) hGz rfl
 have p0:¬ (4096:Int)<(pn:Int):=by omega
 have ME:=Hh (show macE p u ext pay key=inputE mac0L p u ext [pay] from macE_input HV.out (by rw[HN.out];exact N0.out) (by rw[← HK.out.1];exact HK0.out) (by rw[← HY.out.1];exact hbig));have HPL:Hid (pay.length≤4096):=by rw[Hid,← HY.out.1];omega
 clear hbig;have c0:=hB.cell 0 rfl;have c1:=hB.cell 1 rfl;have c2:=hB.cell 2 rfl;have c3:=hB.cell 3 rfl;have c4:=hB.cell 4 rfl;have c5:=hB.cell 5 rfl;have c6:=hB.cell 6 rfl;have c7:=hB.cell 7 rfl
 obtain⟨H2,hG2',hl2,hr2⟩:=rows_snap (Grows.refl hG.holds) 23 [.slice PA pn pc] [pay] (by simp) (fun j hj=>by
  have:j=0:=by simpa using hj
  subst this
  exact⟨PA,pc,by rw[HY.out.1];rfl,HY.out.2.mono hG.le⟩)
 have hRn2:=hG2'.none hRn hR.lt;have hG2:=hG.trans hG2';replace hB:=hB.alloc (.cells [Value.slice PA pn pc].toArray 23);replace hR:=hR.alloc (.cells [Value.slice PA pn pc].toArray 23);have IN:=Hh (envelope_Input (HT.out.mono hG2.le) (HP.out.mono hG2.le) (HU.out.mono hG2.le) ⟨#[77,65,67,48]⟩ (by show(4:Nat)≤_;omega) (HX.out.2.1.mono hG2.le) HX.out.2.2 hr2 (by simp) (fun l hl=>by simp at hl;subst hl;have:=HPL.out;omega) _ hG2.holds);rw[← HX.out.1]at IN;clear hG hl2 hr2 hG2';go_wp2_with fail
 refine IN.out.mono ?_
 rintro e w5 ⟨r5,l5,rfl,hf5,hl5⟩
 have hmc:([77,65,67,48]:List UInt8)=mac0L:=rfl
 try simp only[]at hl5
 rw[hmc]at hl5⊢;clear hmc IN;obtain⟨B5,d5,rfl,_⟩:=hf5.own.form;replace hB:=hB.below hf5.2;have hRl:=hR.lt;replace hR:=hR.below hf5.2;clear c0 c1 c2 c3 c4 c5 c6 c7;obtain⟨E5,hE5⟩:∃ E,inputE mac0L p u ext [pay]=E:=⟨_,rfl⟩
 rw[hE5]at hl5⊢;have HME:Hid (macE p u ext pay key=E5):=by rw[Hid,ME.out,hE5]
 have HIE:Hid (inputE mac0L p u ext [pay]=E5):=hE5;clear ME hE5
 by_cases hE0:E5=0
 case neg =>
  have e0:(E5 != 0)=true:=by rw[bne_iff_ne];exact hE0
  have e1:=eq_false hE0;have hG':=hG2.below_ hf5.2;have hG:Grows w H w5 H:=⟨hG'.below,Snap.le.refl _,hG'.holds.mono hG2.le,fun _ _ h=>.inl h⟩
  have HE0:=Hh hE0;clear hB hf5 hl5 hG2 hG' hE0;go_wp2_with (with_reducible refine stop_store ?_)
  refine wpList_store_item rfl _ _ _ rfl rfl _ _ rfl rfl _ _ hR size_ev rfl (zero_one10) fun wz hRz hgz=>?_
  have hGz:=hG.grownOwn hRn (by omega) hgz;clear hR hgz;go_wp2_with fail
  refine ret_row_tmp rfl rfl hRz rfl rfl size_ev rfl ?_
  exact MacOut.bad HME.out HE0.out hGz rfl
 case pos =>
 subst hE0;rw[if_pos rfl]at hl5;obtain⟨H5,hG5,hk5,hn5⟩:=Fresh.snapB hG2.holds hf5;have HL5:=Hh (And.intro hl5 hn5);have hRn5:=hG5.none hRn2 hRl;have hG:=hG2.trans hG5;have HB5:=Hh hk5;clear hf5 hl5 hn5 hG2 hG5 hk5 hRn2 hRl;have vv:=validH_valid HV.out;have HVV:=Hh vv;clear vv;have HLB:Hid (l5.length≤1099511000):=by rw[Hid,HL5.out.1];have:=inputE_small HIE.out;omega
 have c0:=hB.cell 0 rfl;have c1:=hB.cell 1 rfl;have c2:=hB.cell 2 rfl;have c3:=hB.cell 3 rfl;have c4:=hB.cell 4 rfl;have c5:=hB.cell 5 rfl;have c6:=hB.cell 6 rfl;have c7:=hB.cell 7 rfl;go_wp2_with fail
 refine(envelope_owned (HT.out.mono hG.le) HVV.out.1 HVV.out.2.1 HVV.out.2.2.1 HVV.out.2.2.2 (HP.out.mono hG.le) (HU.out.mono hG.le) _ hG.holds).mono ?_
 rintro e w6 ⟨v6,rfl,xa,xb,H6,rfl,hG6,hI6,hJ6⟩
 have hRn6:=hG6.none hRn5 hR.lt;replace hR:=hR.below hG6.below;replace hG:=hG.trans hG6;have HIJ:=Hh (And.intro hI6 hJ6);replace HB5:=Hh (HB5.out.mono hG6.le);clear hB hI6 hJ6 hRn5 hG6 c0 c1 c2 c3 c4 c5 c6 c7;go_wp2_with fail
 refine(bytes_Clone _ PA pay pn pc HY.out.1 (by have:=HPL.out;omega) (Src.of_row (HY.out.2.mono hG.le).row hG.holds)).mono ?_
 rintro e w7 ⟨r7,rfl,hf7⟩
 obtain⟨B7,d7,rfl,hjunk⟩:=hf7.own.form;clear hjunk;obtain⟨H7,hG7,hk7,hn7⟩:=Fresh.snapB hG.holds hf7;have hRn7:=hG7.none hRn6 hR.lt;replace hR:=hR.below hG7.below;replace hG:=hG.trans hG7;replace HIJ:=Hh (And.intro (HIJ.out.1.mono hG7.le) (HIJ.out.2.mono hG7.le));replace HB5:=Hh (HB5.out.mono hG7.le);have HK7:=Hh hk7;clear hf7 hk7 hn7 hRn6 hG7;obtain⟨n7,hn7⟩:∃ n,pay.length=n:=⟨_,rfl⟩
 have HN7:=Hh hn7;rw[hn7];clear hn7;go_wp2_with fail
 refine(kdf_HMAC HK.out.1 (by have:=HK.out.2.2;omega) (c:=kc) (b:=l5) rfl HLB.out (d:=d5) _ (Src.of_row (HK.out.2.1.mono hG.le).row hG.holds) (Src.of_row HB5.out.row hG.holds)).mono ?_
 rintro e w8 ⟨r8,rfl,hf8⟩
 obtain⟨B8,d8,rfl,hjunk⟩:=hf8.own.form;clear hjunk;obtain⟨H8,hG8,hk8,hn8⟩:=Fresh.snapB hG.holds hf8;have hRn8:=hG8.none hRn7 hR.lt;replace hR:=hR.below hG8.below;replace hG:=hG.trans hG8;have hnd:(n:Int)≤(d8:Int):=by have:=hmacP_len key l5;have:=HTN.out;have:=hk8.le;omega
 have hnn:(0:Int)≤(n:Int):=by omega
 have HK8:=Hh hk8;have hm8:=hmacP_len key l5;rw[hm8];have HI8:=Hh (And.intro (HIJ.out.1.mono hG8.le) (And.intro (HIJ.out.2.mono hG8.le) (HK7.out.mono hG8.le)));have HM8:=Hh hm8;clear hf8 hk8 hn8 hRn7 hG8 hm8;go_wp2_with (with_reducible refine stop_store ?_)
 refine wpList_store_item rfl _ _ _ rfl rfl _ _ rfl rfl _ _ hR size_ev rfl (ev_one p u xa xb _ _ _ _ _ _) fun w9 hR9 hg9=>?_
 have hGz:=hG.grownOwn hRn8 (by omega) hg9;clear hG hR hg9;go_wp2_with fail
 refine ret_row_tmp rfl rfl hR9 rfl rfl size_ev rfl ?_
 exact MacOut.good HME.out hGz HI8.out.1 HI8.out.2.1 HN7.out.symm HI8.out.2.2 HN.out HL5.out.1 (by have:=HM8.out;have:=HTN.out;omega) HK8.out rfl
theorem ref13_Mac {H:Snap}(hTab:Tabs H) {p u:Itm}{a b:Ad}(hp:IsItem H a.ba a.bc a.ia a.ic p) (hu:IsItem H b.ba b.bc b.ia b.ic u)
  {EA:Option Addr} {en ec:Nat} {ext:List UInt8} (hen:en=ext.length) (hext:IsBytes H EA ec ext) (hel:ext.length≤1048576) {PA:Option Addr} {pn pc:Nat} {pay:List UInt8} (hpn:pn=pay.length) (hpay:IsBytes H PA pc pay)
  {KA:Option Addr} {kn kc:Nat} {key:List UInt8} (hkn:kn=key.length) (hkey:IsBytes H KA kc key) (hkl:key.length≤1048576) (w:World) (hH:Holds w H) :
  Calls Tryz.prog 8 #[.agg (hdrC p a u b),.slice EA en ec,.slice PA pn pc,.slice KA kn kc] w (MacOut w H p u ext pay key):=by
 have hB:=(Blk.new w 28 (hdrC p a u b)).alloc (.cells zeroEvC 34);have hR:=Blk.new (w.alloc (.cells (hdrC p a u b) 28)) 34 zeroEvC
 simp only[size_alloc]at hR
 have hG:=((Grows.refl hH).alloc (.cells (hdrC p a u b) 28)).alloc (.cells zeroEvC 34);have hRn:H (w.heap.size+1)=none:=hH.none_of_ge (by omega);have HP:=Hh hp;have HU:=Hh hu;have HT:=Hh hTab;have HX:=Hh (And.intro hen (And.intro hext hel));have HY:=Hh (And.intro hpn hpay);have HK:=Hh (And.intro hkn (And.intro hkey hkl));have AL:=Hh (ref12_Alg hTab hp hu _ hG.holds);clear hp hu hTab hH hen hext hel hpn hpay hkn hkey hkl;have c0:=hB.cell 0 rfl;have c1:=hB.cell 1 rfl;have c2:=hB.cell 2 rfl;have c3:=hB.cell 3 rfl;have c4:=hB.cell 4 rfl;have c5:=hB.cell 5 rfl;have c6:=hB.cell 6 rfl;have c7:=hB.cell 7 rfl;obtain⟨g,hg⟩:∃ g,algP p u=g:=⟨_,rfl⟩
 rw[hg]at AL;have HG:=Hh hg;clear hg;go_enter Tryz.func8,Tryz.ntmps8
 go_wp2_with fail
 refine AL.out.mono ?_
 rintro e w2 ⟨rfl,hb2⟩
 replace hB:=hB.below hb2;replace hR:=hR.below hb2;replace hG:=hG.below_ hb2;clear AL hb2 c0 c1 c2 c3 c4 c5 c6 c7;go_upto_block 0 with fail
 go_cut [] (fun wx=>∃ w3,wx=w3∧validH p u=true∧(g=4∨g=5)∧kn≠0∧¬ 4096<pn∧Grows w H w3 H∧Blk w3 w.heap.size 28 (hdrC p a u b)∧Blk w3 (w.heap.size+1) 34 zeroEvC)
 case first =>
  have V:=Hh (ref12_ValidH HT.out HP.out HU.out _ hG.holds);have c0:=hB.cell 0 rfl;have c1:=hB.cell 1 rfl;have c2:=hB.cell 2 rfl;have c3:=hB.cell 3 rfl;have c4:=hB.cell 4 rfl;have c5:=hB.cell 5 rfl;have c6:=hB.cell 6 rfl;have c7:=hB.cell 7 rfl;go_wp2_with fail
  refine V.out.mono ?_
  rintro e w3 ⟨rfl,hb3⟩
  replace hB:=hB.below hb3;replace hR:=hR.below hb3;replace hG:=hG.below_ hb3;clear V hb3 c0 c1 c2 c3 c4 c5 c6 c7
  cases hv:validH p u with
  | false =>
   have E:=Hh (show macE p u ext pay key=1 by rw[macE,if_pos hv]);clear hv hB;go_wp2_with (with_reducible refine stop_store ?_)
   refine wpList_store_item rfl _ _ _ rfl rfl _ _ rfl rfl _ _ hR size_ev rfl (zero_one10) fun wz hRz hgz=>?_
   have hGz:=hG.grownOwn hRn (by omega) hgz;clear hR hgz;go_wp2_with fail
   refine ret_row_tmp rfl rfl hRz rfl rfl size_ev rfl ?_
   exact MacOut.bad E.out (by omega) hGz rfl
  | true =>
  have HV:=Hh hv;clear hv
  by_cases h0:tagN g=0
  ·have E:=Hh (show macE p u ext pay key=12 by rw[macE,if_neg (by rw[HV.out];simp),if_pos (.inl (by rw[HG.out];exact h0))]);have g45:g≠4∧g≠5:=⟨fun h=>by subst h;simp[tagN]at h0,fun h=>by subst h;simp[tagN]at h0⟩
   have k4:(g != 4)=true:=by rw[bne_iff_ne];exact g45.1
   have k5:(g != 5)=true:=by rw[bne_iff_ne];exact g45.2
   have t4:=eq_false g45.1;have t5:=eq_false g45.2;clear hB h0 g45;go_wp2_with (with_reducible refine stop_store ?_)
   refine wpList_store_item rfl _ _ _ rfl rfl _ _ rfl rfl _ _ hR size_ev rfl (zero_one10) fun wz hRz hgz=>?_
   have hGz:=hG.grownOwn hRn (by omega) hgz;clear hR hgz;go_wp2_with fail
   refine ret_row_tmp rfl rfl hRz rfl rfl size_ev rfl ?_
   exact MacOut.bad E.out (by omega) hGz rfl
  have N0:=Hh h0
  have g45:g=4∨g=5:=by
   unfold tagN at h0
   split at h0
   ·exact .inl (by assumption)
   ·split at h0
    ·exact .inr (by assumption)
    ·exact absurd rfl h0
  have G45:=Hh g45;clear h0
  by_cases hk0:kn=0
  ·subst hk0;have E:=Hh (show macE p u ext pay key=12 by rw[macE,if_neg (by rw[HV.out];simp),if_pos (.inr HK.out.1.symm)]);clear hB
   rcases g45 with rfl | rfl
   ·skip
    go_wp2_with (with_reducible refine stop_store ?_)
    refine wpList_store_item rfl _ _ _ rfl rfl _ _ rfl rfl _ _ hR size_ev rfl (zero_one10) fun wz hRz hgz=>?_
    have hGz:=hG.grownOwn hRn (by omega) hgz;clear hR hgz;go_wp2_with fail
    refine ret_row_tmp rfl rfl hRz rfl rfl size_ev rfl ?_
    exact MacOut.bad E.out (by omega) hGz rfl
   ·skip
    go_wp2_with (with_reducible refine stop_store ?_)
    refine wpList_store_item rfl _ _ _ rfl rfl _ _ rfl rfl _ _ hR size_ev rfl (zero_one10) fun wz hRz hgz=>?_
    have hGz:=hG.grownOwn hRn (by omega) hgz;clear hR hgz;go_wp2_with fail
    refine ret_row_tmp rfl rfl hRz rfl rfl size_ev rfl ?_
    exact MacOut.bad E.out (by omega) hGz rfl
  have m0:((kn:Int)==0)=false:=by rw[beq_eq_false_iff_ne];omega
  have m1:((kn:Int)=0)=False:=eq_false (by omega);have HK0:=Hh hk0;clear hk0
  by_cases hbig:4096<pn
  ·have p0:(4096:Int)<(pn:Int):=by omega
   have E:=Hh (show macE p u ext pay key=8 by rw[macE,if_neg (by rw[HV.out];simp),if_neg (by rw[HG.out,← HK.out.1];have:=N0.out;have:=HK0.out;omega),if_pos (by rw[← HY.out.1];exact hbig)]);clear hB hbig
   rcases g45 with rfl | rfl
   ·skip
    go_wp2_with (with_reducible refine stop_store ?_)
    refine wpList_store_item rfl _ _ _ rfl rfl _ _ rfl rfl _ _ hR size_ev rfl (zero_one10) fun wz hRz hgz=>?_
    have hGz:=hG.grownOwn hRn (by omega) hgz;clear hR hgz;go_wp2_with fail
    refine ret_row_tmp rfl rfl hRz rfl rfl size_ev rfl ?_
    exact MacOut.bad E.out (by omega) hGz rfl
   ·skip
    go_wp2_with (with_reducible refine stop_store ?_)
    refine wpList_store_item rfl _ _ _ rfl rfl _ _ rfl rfl _ _ hR size_ev rfl (zero_one10) fun wz hRz hgz=>?_
    have hGz:=hG.grownOwn hRn (by omega) hgz;clear hR hgz;go_wp2_with fail
    refine ret_row_tmp rfl rfl hRz rfl rfl size_ev rfl ?_
    exact MacOut.bad E.out (by omega) hGz rfl
  have p0:¬ (4096:Int)<(pn:Int):=by omega
  have HBIG:=Hh hbig;have H3:=Hh (And.intro hG (And.intro hB hR));clear hbig hG hB hR
  rcases g45 with rfl | rfl
  ·go_wp2_with fail
   go_meet
   exact⟨_,rfl,HV.out,G45.out,HK0.out,HBIG.out,H3.out.1,H3.out.2.1,H3.out.2.2⟩
  ·go_wp2_with fail
   go_meet
   exact⟨_,rfl,HV.out,G45.out,HK0.out,HBIG.out,H3.out.1,H3.out.2.1,H3.out.2.2⟩
 case rest =>
 clear hB hR hG;obtain⟨w3,rfl,hv,g45,hk0,hbig,hG,hB,hR⟩:=hcut;have HV:=Hh hv;have G45:=Hh g45;have HK0:=Hh hk0;have N0:Hid (tagN g≠0):=by rcases g45 with rfl | rfl <;> simp[Hid,tagN]
 have ME:=Hh (show macE p u ext pay key=inputE mac0L p u ext [pay] from macE_input HV.out (by rw[HG.out];exact N0.out) (by rw[← HK.out.1];exact HK0.out) (by rw[← HY.out.1];exact hbig));have HPL:Hid (pay.length≤4096):=by rw[Hid,← HY.out.1];omega
 clear g45 hbig hv hk0;have c0:=hB.cell 0 rfl;have c1:=hB.cell 1 rfl;have c2:=hB.cell 2 rfl;have c3:=hB.cell 3 rfl;have c4:=hB.cell 4 rfl;have c5:=hB.cell 5 rfl;have c6:=hB.cell 6 rfl;have c7:=hB.cell 7 rfl
 obtain⟨H2,hG2',hl2,hr2⟩:=rows_snap (Grows.refl hG.holds) 23 [.slice PA pn pc] [pay] (by simp) (fun j hj=>by
  have:j=0:=by simpa using hj
  subst this
  exact⟨PA,pc,by rw[HY.out.1];rfl,HY.out.2.mono hG.le⟩)
 have hRn2:=hG2'.none hRn hR.lt;have hG2:=hG.trans hG2';replace hB:=hB.alloc (.cells [Value.slice PA pn pc].toArray 23);replace hR:=hR.alloc (.cells [Value.slice PA pn pc].toArray 23);have IN:=Hh (ref13_Input (HT.out.mono hG2.le) (HP.out.mono hG2.le) (HU.out.mono hG2.le) ⟨#[77,65,67,48]⟩ (by show(4:Nat)≤_;omega) (HX.out.2.1.mono hG2.le) HX.out.2.2 hr2 (by simp) (fun l hl=>by simp at hl;subst hl;have:=HPL.out;omega) _ hG2.holds);rw[← HX.out.1]at IN;clear hG hl2 hr2 hG2';go_wp2_with fail
 refine IN.out.mono ?_
 rintro e w5 ⟨r5,l5,rfl,hf5,hl5⟩
 have hmc:([77,65,67,48]:List UInt8)=mac0L:=rfl
 try simp only[]at hl5
 rw[hmc]at hl5⊢;clear hmc IN;obtain⟨B5,d5,rfl,_⟩:=hf5.own.form;replace hB:=hB.below hf5.2;have hRl:=hR.lt;replace hR:=hR.below hf5.2;clear c0 c1 c2 c3 c4 c5 c6 c7;obtain⟨E5,hE5⟩:∃ E,inputE mac0L p u ext [pay]=E:=⟨_,rfl⟩
 rw[hE5]at hl5⊢;have HME:Hid (macE p u ext pay key=E5):=by rw[Hid,ME.out,hE5]
 have HIE:Hid (inputE mac0L p u ext [pay]=E5):=hE5;clear ME hE5
 by_cases hE0:E5=0
 case neg =>
  have e0:(E5 != 0)=true:=by rw[bne_iff_ne];exact hE0
  have e1:=eq_false hE0;have hG':=hG2.below_ hf5.2;have hG:Grows w H w5 H:=⟨hG'.below,Snap.le.refl _,hG'.holds.mono hG2.le,fun _ _ h=>.inl h⟩
  have HE0:=Hh hE0;clear hB hf5 hl5 hG2 hG' hE0;go_wp2_with (with_reducible refine stop_store ?_)
  refine wpList_store_item rfl _ _ _ rfl rfl _ _ rfl rfl _ _ hR size_ev rfl (zero_one10) fun wz hRz hgz=>?_
  have hGz:=hG.grownOwn hRn (by omega) hgz;clear hR hgz;go_wp2_with fail
  refine ret_row_tmp rfl rfl hRz rfl rfl size_ev rfl ?_
  exact MacOut.bad HME.out HE0.out hGz rfl
 case pos =>
 subst hE0;rw[if_pos rfl]at hl5;obtain⟨H5,hG5,hk5,hn5⟩:=Fresh.snapB hG2.holds hf5;have HL5:=Hh (And.intro hl5 hn5);have hRn5:=hG5.none hRn2 hRl;have hG:=hG2.trans hG5;have HB5:=Hh hk5;clear hf5 hl5 hn5 hG2 hG5 hk5 hRn2 hRl;have vv:=validH_valid HV.out;have HVV:=Hh vv;clear vv;have HLB:Hid (l5.length≤1099511000):=by rw[Hid,HL5.out.1];have:=inputE_small HIE.out;omega
 have HM:=Hh (ref05_HMAC HK.out.1 (by have:=HK.out.2.2;omega) (c:=kc) (b:=l5) rfl HLB.out (d:=d5) _ (Src.of_row (HK.out.2.1.mono hG.le).row hG.holds) (Src.of_row HB5.out.row hG.holds));go_wp2_with fail
 refine HM.out.mono ?_
 rintro e w8 ⟨r8,rfl,hf8⟩
 obtain⟨B8,d8,rfl,hd8,_⟩:=hf8.own.form;obtain⟨H8,hG8,hk8,hn8⟩:=Fresh.snapB hG.holds hf8;have hRn8:=hG8.none hRn5 hR.lt;replace hB:=hB.below hG8.below;replace hR:=hR.below hG8.below;replace hG:=hG.trans hG8;have HK8:=Hh hk8;clear HM hf8 hn8 hk8 hG8 hRn5;obtain⟨n,hn⟩:∃ n,tagN g=n:=⟨_,rfl⟩
 have HTN:=Hh (show n=8∨n=32 by have:=tagN_le g;have:=N0.out;omega);have HN:Hid (tagN (algP p u)=n):=by rw[Hid,HG.out,hn]
 have hml:=hmacP_len key l5;rw[hml]at hd8⊢;have HML:=Hh hml;have hd8i:(8:Int)≤(d8:Int):=by omega
 have HD8:=Hh hd8;clear hml hd8;go_upto_if 55 with fail
 go_cut [13] (fun s13 wx=>s13=.slice B8 n d8∧wx=w8)
 case first =>
  clear hB hR hG
  rcases G45.out with rfl | rfl
  ·obtain rfl:n=8:=by rw[← hn];rfl
   go_wp2_with fail
   go_meet
   exact⟨rfl,rfl⟩
  ·obtain rfl:n=32:=by rw[← hn];rfl
   go_wp2_with fail
   go_meet
   exact⟨rfl,rfl⟩
 case rest =>
 obtain⟨rfl,rfl⟩:=hcut;clear hn;have hmm:=Hh (And.intro (validP_modest HVV.out.1) (validP_modest HVV.out.2.1));have c0:=hB.cell 0 rfl;have c1:=hB.cell 1 rfl;have c2:=hB.cell 2 rfl;have c3:=hB.cell 3 rfl;have c4:=hB.cell 4 rfl;have c5:=hB.cell 5 rfl;have c6:=hB.cell 6 rfl;have c7:=hB.cell 7 rfl;go_wp2_with fail
 refine(ref12_Copy hmm.out.1 hmm.out.2 (HP.out.mono hG.le) (HU.out.mono hG.le) _ hG.holds).mono ?_
 rintro e w6 ⟨v6,rfl,xa,xb,H6,rfl,hG6,hI6,hJ6⟩
 have hRn6:=hG6.none hRn8 hR.lt;replace hR:=hR.below hG6.below;replace hG:=hG.trans hG6;have HIJ:=Hh (And.intro hI6 (And.intro hJ6 (HK8.out.mono hG6.le)));clear hB hI6 hJ6 hRn8 hG6 HK8 c0 c1 c2 c3 c4 c5 c6 c7;go_wp2_with (at_builtin;refine stop_in ?_)
 refine wpList_app_bytes rfl (.const (.slice none 0 0)) (.tmp 60) rfl w6.heap.size (.slice none 0 0) [] rfl (OwnB.nil _ _) PA pn pc pay rfl HY.out.1 (Src.of_row (HY.out.2.mono hG.le).row hG.holds) (by have:=HPL.out;simp only[List.length_nil];omega) (Nat.le_refl _) fun v' w7 hO7 hg7 hat7=>?_
 rw[List.nil_append]at hO7;have hb7:=grown_none (by simpa [Value.ownBlock] using hg7);obtain⟨B7,d7,rfl,hjunk⟩:=hO7.form;clear hjunk hg7 hat7;obtain⟨H7,hG7,hk7,hn7⟩:=Fresh.snapB hG.holds ⟨hO7,hb7⟩;have hRn7:=hG7.none hRn6 hR.lt;replace hR:=hR.below hG7.below;replace hG:=hG.trans hG7;have HI8:=Hh (And.intro (HIJ.out.1.mono hG7.le) (And.intro (HIJ.out.2.1.mono hG7.le) (And.intro hk7 (HIJ.out.2.2.mono hG7.le))));obtain⟨n7,hpn7⟩:∃ n,pay.length=n:=⟨_,rfl⟩
 have HN7:=Hh hpn7;rw[hpn7];clear hO7 hb7 hk7 hn7 hRn6 hG7 hpn7 HIJ;go_wp2_with (with_reducible refine stop_store ?_)
 refine wpList_store_item rfl _ _ _ rfl rfl _ _ rfl rfl _ _ hR size_ev rfl (ev_one p u xa xb _ _ _ _ _ _) fun w9 hR9 hg9=>?_
 have hGz:=hG.grownOwn hRn7 (by omega) hg9;clear hG hR hg9;go_wp2_with fail
 refine ret_row_tmp rfl rfl hR9 rfl rfl size_ev rfl ?_
 exact MacOut.good' HME.out hGz HI8.out.1 HI8.out.2.1 HN7.out.symm HI8.out.2.2.1 HN.out HL5.out.1 (by have:=HML.out;have:=HTN.out;omega) HI8.out.2.2.2 rfl
theorem envelope_Check {H:Snap}(hTab:Tabs H) {v:Ev}{a:EvAd}(hv:EvA H v a)
  {EA:Option Addr} {en ec:Nat} {ext:List UInt8} (hen:en=ext.length) (hext:IsBytes H EA ec ext) (hel:ext.length≤1048576)
  {KA:Option Addr} {kn kc:Nat} {key:List UInt8} (hkn:kn=key.length) (hkey:IsBytes H KA kc key) (hkl:key.length≤1048576) (w:World) (hH:Holds w H) :
  Calls Tryz.prog 11 #[.agg (evQ v a),.slice EA en ec,.slice KA kn kc] w fun e w'=>e=.returned (.int .i64 (checkE v ext key))∧Below w.heap.size w w':=by
 have hB:=Blk.new w 34 (evQ v a);have hG:=(Grows.refl hH).alloc (.cells (evQ v a) 34);have M:=Hh (envelope_Mac hTab hv.p hv.u hen hext hel (pc:=a.bc) rfl hv.body hkn hkey hkl _ hG.holds);have HV:=Hh hv;obtain⟨bn,hbn⟩:∃ n,v.body.length=n:=⟨_,rfl⟩
 obtain⟨tn,htn⟩:∃ n,v.tag.length=n:=⟨_,rfl⟩
 have HN:=Hh (And.intro hbn htn);have E1:Hid (∀ m,macE v.p v.u ext v.body key=m→m≠0→checkE v ext key=m):=fun m h h0=>by rw[checkE,if_neg (by omega)];exact h
 have E2:Hid (macE v.p v.u ext v.body key=0→checkE v ext key=if v.tag=(macV v.p v.u ext v.body key).tag then 0 else 11):=fun h=>by rw[checkE,if_pos h,macV,if_pos h]
 have EQ0:evQ v a=evC v.p a.a v.u a.b a.ba bn a.bc a.ta tn a.tc:=by rw[← hbn,← htn]
 rw[EQ0]at M hB hG⊢;rw[hbn]at M;clear EQ0;clear hTab hv hen hext hel hkn hkey hkl hH hbn htn;have c0:=hB.cell 0 rfl;have c1:=hB.cell 1 rfl;have c2:=hB.cell 2 rfl;have c3:=hB.cell 3 rfl;have c4:=hB.cell 4 rfl;have c5:=hB.cell 5 rfl;have c6:=hB.cell 6 rfl;have c7:=hB.cell 7 rfl;have c8:=hB.cell 8 rfl;have c9:=hB.cell 9 rfl;go_enter Tryz.func11,Tryz.ntmps11
 go_wp2_with fail
 refine M.out.mono ?_
 rintro e w2 ⟨a2,H2,rfl,hG2,hv2⟩
 replace hB:=hB.below hG2.below;have hG3:=hG.trans hG2;have HV2:=Hh hv2;obtain⟨m,hm⟩:∃ m,macE v.p v.u ext v.body key=m:=⟨_,rfl⟩
 rw[hm]at E2⊢;have E1':=Hh (E1.out m hm);obtain⟨V,hV⟩:∃ V,macV v.p v.u ext v.body key=V:=⟨_,rfl⟩
 rw[hV]at HV2 E2⊢;obtain⟨yn,hyn⟩:∃ n,V.body.length=n:=⟨_,rfl⟩
 obtain⟨zn,hzn⟩:∃ n,V.tag.length=n:=⟨_,rfl⟩
 have hL:evQ V a2=evC V.p a2.a V.u a2.b a2.ba yn a2.bc a2.ta zn a2.tc:=by rw[← hyn,← hzn]
 rw[hL];have HZ:=Hh hzn;clear M hG hG2 hv2 hm hV hL hyn hzn E1 c0 c1 c2 c3 c4 c5 c6 c7 c8 c9;have hD:=Blk.new w2 34 (evC V.p a2.a V.u a2.b a2.ba yn a2.bc a2.ta zn a2.tc);replace hB:=hB.alloc (.cells (evC V.p a2.a V.u a2.b a2.ba yn a2.bc a2.ta zn a2.tc) 34);have hG4:=hG3.alloc (.cells (evC V.p a2.a V.u a2.b a2.ba yn a2.bc a2.ta zn a2.tc) 34);have hbb:=hG4.below
 by_cases h0:m=0
 case neg =>
  have E:=Hh (E1'.out h0);have e0:(m != 0)=true:=by rw[bne_iff_ne];exact h0
  have e1:=eq_false h0;clear hB hD hG3 hG4 h0;go_wp2_with fail
  go_ret
  exact⟨by rw[E.out];rfl,hbb⟩
 case pos =>
 subst h0;have E:=Hh (E2.out rfl);have s1:=Hh (Src.of_row (HV.out.tag.mono hG4.le).row hG4.holds);have s2:=Hh (Src.of_row HV2.out.tag.row hG4.holds);have b9:=hB.cell 9 rfl;have d9:=hD.cell 9 rfl;have EQ:=Hh (bytes_Equal (w2.alloc (.cells (evC V.p a2.a V.u a2.b a2.ba yn a2.bc a2.ta zn a2.tc) 34)) a.ta a2.ta v.tag V.tag tn zn a.tc a2.tc HN.out.2.symm HZ.out.symm s1.out s2.out);clear hB hD hG3 hG4 E1' E2;go_wp2_with fail
 refine EQ.out.mono ?_
 rintro e w3 ⟨rfl,rfl⟩
 by_cases hq:v.tag=V.tag
 ·rw[if_pos hq]at E;have q1:(v.tag==V.tag)=true:=by rw[beq_iff_eq];exact hq
  rw[q1];clear hq q1 EQ b9 d9;go_wp2_with fail
  go_ret
  exact⟨by rw[E.out];rfl,hbb⟩
 ·rw[if_neg hq]at E;have q1:(v.tag==V.tag)=false:=by rw[beq_eq_false_iff_ne];exact hq
  rw[q1];clear hq q1 EQ b9 d9;go_wp2_with fail
  go_ret
  exact⟨by rw[E.out];rfl,hbb⟩
theorem ref13_Check {H:Snap}(hTab:Tabs H) {v:Ev}{a:EvAd}(hv:EvA H v a)
  {EA:Option Addr} {en ec:Nat} {ext:List UInt8} (hen:en=ext.length) (hext:IsBytes H EA ec ext) (hel:ext.length≤1048576)
  {KA:Option Addr} {kn kc:Nat} {key:List UInt8} (hkn:kn=key.length) (hkey:IsBytes H KA kc key) (hkl:key.length≤1048576) (w:World) (hH:Holds w H) :
  Calls Tryz.prog 12 #[.agg (evQ v a),.slice EA en ec,.slice KA kn kc] w fun e w'=>e=.returned (.int .i64 (checkE v ext key))∧Below w.heap.size w w':=by
 have hB:=Blk.new w 34 (evQ v a);have hG:=(Grows.refl hH).alloc (.cells (evQ v a) 34);have M:=Hh (ref13_Mac hTab hv.p hv.u hen hext hel (pc:=a.bc) rfl hv.body hkn hkey hkl _ hG.holds);have HV:=Hh hv;obtain⟨bn,hbn⟩:∃ n,v.body.length=n:=⟨_,rfl⟩
 obtain⟨tn,htn⟩:∃ n,v.tag.length=n:=⟨_,rfl⟩
 have HN:=Hh (And.intro hbn htn);have E1:Hid (∀ m,macE v.p v.u ext v.body key=m→m≠0→checkE v ext key=m):=fun m h h0=>by rw[checkE,if_neg (by omega)];exact h
 have E2:Hid (macE v.p v.u ext v.body key=0→checkE v ext key=if v.tag=(macV v.p v.u ext v.body key).tag then 0 else 11):=fun h=>by rw[checkE,if_pos h,macV,if_pos h]
 have EQ0:evQ v a=evC v.p a.a v.u a.b a.ba bn a.bc a.ta tn a.tc:=by rw[← hbn,← htn]
 rw[EQ0]at M hB hG⊢;rw[hbn]at M;clear EQ0;clear hTab hv hen hext hel hkn hkey hkl hH hbn htn;have c0:=hB.cell 0 rfl;have c1:=hB.cell 1 rfl;have c2:=hB.cell 2 rfl;have c3:=hB.cell 3 rfl;have c4:=hB.cell 4 rfl;have c5:=hB.cell 5 rfl;have c6:=hB.cell 6 rfl;have c7:=hB.cell 7 rfl;have c8:=hB.cell 8 rfl;have c9:=hB.cell 9 rfl;go_enter Tryz.func12,Tryz.ntmps12
 go_wp2_with fail
 refine M.out.mono ?_
 rintro e w2 ⟨a2,H2,rfl,hG2,hv2⟩
 replace hB:=hB.below hG2.below;have hG3:=hG.trans hG2;have HV2:=Hh hv2;obtain⟨m,hm⟩:∃ m,macE v.p v.u ext v.body key=m:=⟨_,rfl⟩
 rw[hm]at E2⊢;have E1':=Hh (E1.out m hm);obtain⟨V,hV⟩:∃ V,macV v.p v.u ext v.body key=V:=⟨_,rfl⟩
 rw[hV]at HV2 E2⊢;obtain⟨yn,hyn⟩:∃ n,V.body.length=n:=⟨_,rfl⟩
 obtain⟨zn,hzn⟩:∃ n,V.tag.length=n:=⟨_,rfl⟩
 have hL:evQ V a2=evC V.p a2.a V.u a2.b a2.ba yn a2.bc a2.ta zn a2.tc:=by rw[← hyn,← hzn]
 rw[hL];have HZ:=Hh hzn;clear M hG hG2 hv2 hm hV hL hyn hzn E1 c0 c1 c2 c3 c4 c5 c6 c7 c8 c9;have hD:=Blk.new w2 34 (evC V.p a2.a V.u a2.b a2.ba yn a2.bc a2.ta zn a2.tc);replace hB:=hB.alloc (.cells (evC V.p a2.a V.u a2.b a2.ba yn a2.bc a2.ta zn a2.tc) 34);have hG4:=hG3.alloc (.cells (evC V.p a2.a V.u a2.b a2.ba yn a2.bc a2.ta zn a2.tc) 34);have hbb:=hG4.below
 by_cases h0:m=0
 case neg =>
  have E:=Hh (E1'.out h0);have e0:(m != 0)=true:=by rw[bne_iff_ne];exact h0
  have e1:=eq_false h0;clear hB hD hG3 hG4 h0;go_wp2_with fail
  go_ret
  exact⟨by rw[E.out];rfl,hbb⟩
 case pos =>
 subst h0;have E:=Hh (E2.out rfl);have s1:=Hh (Src.of_row (HV.out.tag.mono hG4.le).row hG4.holds);have s2:=Hh (Src.of_row HV2.out.tag.row hG4.holds);have b9:=hB.cell 9 rfl;have d9:=hD.cell 9 rfl;have k1:=conv_bytes s1.out tn a.tc HN.out.2.symm;have k2:=conv_bytes s2.out zn a2.tc HZ.out.symm;clear hB hD hG3 hG4 E1' E2
 by_cases hq:v.tag=V.tag
 ·rw[if_pos hq]at E;rw[hq]at k1;clear hq;go_wp2_with fail
  go_ret
  exact⟨by rw[E.out];rfl,hbb⟩
 ·rw[if_neg hq]at E;obtain⟨s1',hs1⟩:∃ s,(⟨v.tag.toArray⟩:ByteArray)=s:=⟨_,rfl⟩
  obtain⟨s2',hs2⟩:∃ s,(⟨V.tag.toArray⟩:ByteArray)=s:=⟨_,rfl⟩
  have hne:s2'≠s1':=fun h=>hq (by rw[← hs1,← hs2]at h;injection h with h;simpa using congrArg Array.toList h.symm)
  rw[hs1]at k1;rw[hs2]at k2;have f1:(s2'=s1')=False:=eq_false hne
  have f3:(s2'.toList==s1'.toList)=false:=by
   cases h:(s2'.toList==s1'.toList) with
   | false=>rfl
   | true=>exact absurd (by have:=beq_iff_eq.1 h;rw[ByteArray.toList_eq,ByteArray.toList_eq]at this;exact ByteArray.ext (Array.toList_inj.1 this)) hne
  have f2:(s2'==s1')=false:=by rw[beq_toListBytes];exact f3
  have f4:(s2' != s1')=true:=by rw[bne,f2];rfl
  have f5:(s2'.toList != s1'.toList)=true:=by rw[bne,f3];rfl
  clear hs1 hs2 hne;clear hq;go_wp2_with fail
  go_ret
  exact⟨by rw[E.out];rfl,hbb⟩
end Go.Proofs.YtgcjjhibdbafmaaGreatDoor
