/- squeezed. Walks: the reference's Copy of an  -/
import Derived.Test.YtnlinmoiakgedaaGreatDoorK13
import Derived.Test.YtnlinmoiakgedaaGreatDoorK12
set_option linter.unusedVariables false
set_option linter.unusedSimpArgs false
set_option maxRecDepth 100000
set_option maxHeartbeats 6400000
namespace Go.Proofs.YtnlinmoiakgedaaGreatDoor
open Go.RowKit
def Vi (x:Itm):Prop:=∀ (H:Snap) (k n:Int) (ba:Option Addr) (bl bc:Nat) (ia:Option Addr) (il ic:Nat) (w:World),Modest x→ItemA H k n ba bl bc ia il ic x→Holds w H→
 Calls Tryz.prog 10 #[.agg #[.int .i64 k,.int .u64 n,.slice ba bl bc,.slice ia il ic]] w fun e w'=>∃ BA BC VA vc H',e=.returned (xN x BA BC VA vc)∧Grows w H w' H'∧IsBytes H' BA BC x.bytes∧
  OwnI w' w.heap.size (.slice VA x.items.length vc) H' x.items∧(∀ q,(Value.slice VA x.items.length vc).ownBlock=some q→H' q=none)
theorem Xm (x:Itm):Vi x:=by
 intro H k n ba bl bc ia il ic w hm hx hH
 obtain⟨rfl,rfl,rfl,rfl,pY⟩:=hx.eqs_;have HX:=Hh pY;have HM:=Hh hm;have iZ:=hm.parts;have hB:=((Blk.new w 26 #[.int .i64 x.kind,.int .u64 x.n,.slice ba x.bytes.length bc,.slice ia x.items.length ic]).alloc zr).drew;have hT:=(Blk.new (w.alloc (zW x ba bc ia ic)) 26 #[.int .i64 0,.int .u64 0,.slice none 0 0,.slice none 0 0]).drew
 simp only[zV]at hT
 have hb:=((zi w (zW x ba bc ia ic)).alloc (by simp) zr).drew;have zG:Holds ((w.alloc (zW x ba bc ia ic)).alloc zr).drew H:=((hH.alloc _).alloc _).drew;have eV:x.items.length≤9223372036854775807:=by omega
 have sN:x.bytes.length≤1099511627776:=iZ.1;clear hx pY hm iZ;go_enter Tryz.func10,Tryz.ntmps10
 go_upto_region 1 with fail
 go_cut [3] (fun s3 wx=>∃ N BA BC H1,s3=.pointer (some ⟨N,0,none⟩)∧Blk wx N 26 #[.int .i64 x.kind,.int .u64 x.n,.slice BA x.bytes.length BC,.slice none 0 0]∧Blk wx w.heap.size 26 #[.int .i64 x.kind,.int .u64 x.n,.slice ba x.bytes.length bc,.slice ia x.items.length ic]∧
  Blk wx (w.heap.size+1) 26 #[.int .i64 0,.int .u64 0,.slice none 0 0,.slice none 0 0]∧Grows w H wx H1∧IsBytes H1 BA BC x.bytes∧H1 N=none∧H1 (w.heap.size+1)=none∧w.heap.size+1<N)
 case first =>
  refine zf 9 (fun w'=>w'.cell? ⟨w.heap.size,0,none⟩=some (.int .i64 x.kind)∧w'.cell? ⟨w.heap.size,1,none⟩=some (.int .u64 x.n)∧w'.cell? ⟨w.heap.size,2,none⟩=some (.slice ba x.bytes.length bc)) (by kernel_rfl) (⟨hB.cell 0 rfl,hB.cell 1 rfl,hB.cell 2 rfl⟩) (fun zy=>?_)
  refine Tk 0 rfl zy ?_
  refine Tk 1 rfl zy ?_
  refine Tk 2 rfl zy ?_
  refine Tk 3 rfl zy ?_
  refine Tk 4 rfl zy ?_
  refine Tk 5 rfl zy ?_
  refine Ways.two (i:=6) (j:=8) rfl rfl (by kernel_rfl) (fun K hK=>?_) (fun K hK=>?_)
  ·rw[if_pos (by rfl)]
   refine yS (.const (.slice none 0 0)) (.tmp 12) rfl _ (.slice none 0 0) [] rfl (OwnB.nil _ _) ba _ bc x.bytes rfl rfl (Src.of_row HX.out.bytes.row zG) (by simpa using sN) (Nat.le_refl _) fun v' w5 hO hg nz=>?_
   rw[List.nil_append]at hO;have qL:=yo (by simpa [Value.ownBlock] using hg);obtain⟨BA,BC,rfl,_⟩:=hO.form
   try have wd:∀ q,(Value.slice BA x.bytes.length BC).ownBlock=some q→q≠w.heap.size+1+1:=fun q hq e=>by have h1:=(hO.lt q hq).1;have h2:=hP.lt;(try simp only[yY,zV]at h1 h2);omega
   have rl:∀ q,(Value.slice BA x.bytes.length BC).ownBlock=some q→w.heap.size+1<q:=fun q hq=>by have h1:=(hO.lt q hq).1;have h2:=hT.lt;(try simp only[yY,zV]at h1 h2);omega
   have hB:=hB.below qL;have hT:=hT.below qL
   try have hP:=hP.below qL
   have hb:=hb.trans (qL.mono hb.size);have zG:=zG.below qL (Nat.le_refl _)
   refine hK.out _ _ (fun _=>?_) (fun zy=>?_)
   ·exact⟨hB.cell 0 rfl,hB.cell 1 rfl,hB.cell 2 rfl⟩
   clear hK K;have zy:=zy (by decide)
   try simp only[Act.put,zz4,zz5,zz6]
   refine Tk 7 rfl zy ?_
   refine To 8 rfl fun K hK=>?_
   go_simp
   have hP:=sW hb 26 #[.int .i64 0,.int .u64 0,.slice none 0 0,.slice none 0 0]
   try have wd:∀ q,(Value.slice BA x.bytes.length BC).ownBlock=some q→q≠w5.heap.size:=fun q hq e=>by have h1:=(hO.lt q hq).2;omega
   have X4:=hT.lt
   try simp only[yY,zV]at hP X4
   have hB:=hB.alloc zr;have hT:=hT.alloc zr
   try have hO:=hO.alloc zr
   have zG:=zG.alloc zr;have hb:=hb.alloc hb.size zr
   refine hK.out _ _ (fun _=>?_) (fun zy=>?_)
   ·exact⟨hB.cell 0 rfl,hB.cell 1 rfl,hB.cell 2 rfl⟩
   clear hK K;have zy:=zy (by decide)
   try simp only[Act.put,zz4,zz5,zz6]
   refine To 9 rfl fun K hK=>?_
   rw[if_pos (by rfl)]
   refine uq _ _ _ rfl _ _ rfl rfl _ _ hP zw rfl (wu _ _ _ _ rfl rfl rfl rfl) fun w6 hP tF=>?_
   have hB:=hB.gr tF (by omega);have hT:=hT.gr tF (by omega);have hb:=hb.grown tF hb.size (by rintro q ⟨⟩;omega);have zG:=zG.grown tF (by rintro q ⟨⟩;exact hH.none_of_ge (by omega));have hO:=hO.kept tF (by cases hv:(Value.slice BA x.bytes.length BC).ownBlock with | none=>exact .inl rfl | some q=>exact .inr (fun e=>by injection e with e;exact wd q hv e))
   refine hK.out _ _ (fun h=>absurd rfl h) (fun _=>?_)
   clear hK K
   try simp only[Act.put,zz4,zz5,zz6]
   refine Ways.done (by kernel_rfl) ?_
   obtain⟨H1,cE,Uz,nG,sB,qC⟩:=hO.snap zG (fun q hq=>hH.none_of_ge (by have:=rl q (by cases BA <;> simp_all [Value.ownBlock]);omega))
   have ZT:∀ q,w.heap.size≤q→(∀ q',(Value.slice BA x.bytes.length BC).ownBlock=some q'→q'≠q)→H1 q=none:=fun q hq hd=>by
    cases gX:H1 q with
    | none=>rfl
    | some o =>
     rcases nG q o gX with h | h
     ·rw[hH.none_of_ge hq]at h;cases h
     ·exact absurd rfl (hd q (by cases BA <;> simp_all [Value.ownBlock]))
   go_wp2_with fail
   go_meet
   exact⟨_,_,_,H1,rfl,hP,hB,hT,⟨hb,cE,Uz,fun b o vg=>(nG b o vg).imp id fun h=>by have:=rl b (by cases BA <;> simp_all [Value.ownBlock]);omega⟩,qC,ZT _ (by omega) (fun q' nJ=>wd q' nJ),ZT _ (by omega) (fun q' nJ=>by have:=rl q' nJ;omega),by omega⟩
  ·go_simp
   have hP:=sW hb 26 #[.int .i64 0,.int .u64 0,.slice none 0 0,.slice none 0 0]
   try have wd:∀ q,(Value.slice BA x.bytes.length BC).ownBlock=some q→q≠w5.heap.size:=fun q hq e=>by have h1:=(hO.lt q hq).2;omega
   have X4:=hT.lt
   try simp only[yY,zV]at hP X4
   have hB:=hB.alloc zr;have hT:=hT.alloc zr
   try have hO:=hO.alloc zr
   have zG:=zG.alloc zr;have hb:=hb.alloc hb.size zr
   refine hK.out _ _ (fun _=>?_) (fun zy=>?_)
   ·exact⟨hB.cell 0 rfl,hB.cell 1 rfl,hB.cell 2 rfl⟩
   clear hK K;have zy:=zy (by decide)
   try simp only[Act.put,zz4,zz5,zz6]
   refine To 6 rfl fun K hK=>?_
   rw[if_pos (by rfl)]
   refine yS (.const (.slice none 0 0)) (.tmp 12) rfl _ (.slice none 0 0) [] rfl (OwnB.nil _ _) ba _ bc x.bytes rfl rfl (Src.of_row HX.out.bytes.row zG) (by simpa using sN) (Nat.le_refl _) fun v' w5 hO hg nz=>?_
   rw[List.nil_append]at hO;have qL:=yo (by simpa [Value.ownBlock] using hg);obtain⟨BA,BC,rfl,_⟩:=hO.form
   try have wd:∀ q,(Value.slice BA x.bytes.length BC).ownBlock=some q→q≠w.heap.size+1+1:=fun q hq e=>by have h1:=(hO.lt q hq).1;have h2:=hP.lt;(try simp only[yY,zV]at h1 h2);omega
   have rl:∀ q,(Value.slice BA x.bytes.length BC).ownBlock=some q→w.heap.size+1<q:=fun q hq=>by have h1:=(hO.lt q hq).1;have h2:=hT.lt;(try simp only[yY,zV]at h1 h2);omega
   have hB:=hB.below qL;have hT:=hT.below qL
   try have hP:=hP.below qL
   have hb:=hb.trans (qL.mono hb.size);have zG:=zG.below qL (Nat.le_refl _)
   refine hK.out _ _ (fun _=>?_) (fun zy=>?_)
   ·exact⟨hB.cell 0 rfl,hB.cell 1 rfl,hB.cell 2 rfl⟩
   clear hK K;have zy:=zy (by decide)
   try simp only[Act.put,zz4,zz5,zz6]
   refine Tk 7 rfl zy ?_
   refine To 9 rfl fun K hK=>?_
   rw[if_pos (by rfl)]
   refine uq _ _ _ rfl _ _ rfl rfl _ _ hP zw rfl (wu _ _ _ _ rfl rfl rfl rfl) fun w6 hP tF=>?_
   have hB:=hB.gr tF (by omega);have hT:=hT.gr tF (by omega);have hb:=hb.grown tF hb.size (by rintro q ⟨⟩;omega);have zG:=zG.grown tF (by rintro q ⟨⟩;exact hH.none_of_ge (by omega));have hO:=hO.kept tF (by cases hv:(Value.slice BA x.bytes.length BC).ownBlock with | none=>exact .inl rfl | some q=>exact .inr (fun e=>by injection e with e;exact wd q hv e))
   refine hK.out _ _ (fun h=>absurd rfl h) (fun _=>?_)
   clear hK K
   try simp only[Act.put,zz4,zz5,zz6]
   refine Ways.done (by kernel_rfl) ?_
   obtain⟨H1,cE,Uz,nG,sB,qC⟩:=hO.snap zG (fun q hq=>hH.none_of_ge (by have:=rl q (by cases BA <;> simp_all [Value.ownBlock]);omega))
   have ZT:∀ q,w.heap.size≤q→(∀ q',(Value.slice BA x.bytes.length BC).ownBlock=some q'→q'≠q)→H1 q=none:=fun q hq hd=>by
    cases gX:H1 q with
    | none=>rfl
    | some o =>
     rcases nG q o gX with h | h
     ·rw[hH.none_of_ge hq]at h;cases h
     ·exact absurd rfl (hd q (by cases BA <;> simp_all [Value.ownBlock]))
   go_wp2_with fail
   go_meet
   exact⟨_,_,_,H1,rfl,hP,hB,hT,⟨hb,cE,Uz,fun b o vg=>(nG b o vg).imp id fun h=>by have:=rl b (by cases BA <;> simp_all [Value.ownBlock]);omega⟩,qC,ZT _ (by omega) (fun q' nJ=>wd q' nJ),ZT _ (by omega) (fun q' nJ=>by have:=rl q' nJ;omega),by omega⟩
 case rest =>
  clear hB hT hb zG;obtain⟨N,BA,BC,H1,rfl,hP,hB,hT,ws,qC,uy,tb,X4⟩:=hcut;have c3:=hB.cell 3 rfl;have Pa:=hP.lt;have pW:=OwnI.nil wc (N+1) H1;clear hB;go_wp2_with fail
  go_loopw [4,18] (fun v4 v18 wr=>∃ (j:Nat) (Hr:Snap) (VA:Option Addr) (vc vn:Nat),j≤x.items.length∧v18=.int .i64 j∧v4=.slice VA vn vc∧vn=(x.items.take j).length∧Grows w H wr Hr∧H1.le Hr∧OwnI wr (N+1) (.slice VA vn vc) Hr (x.items.take j)∧
   Blk wr N 26 #[.int .i64 x.kind,.int .u64 x.n,.slice BA x.bytes.length BC,.slice none 0 0]∧Blk wr (w.heap.size+1) 26 #[.int .i64 0,.int .u64 0,.slice none 0 0,.slice none 0 0]∧Hr N=none∧Hr (w.heap.size+1)=none∧(∀ q,(Value.slice VA vn vc).ownBlock=some q→Hr q=none)) (fun _ v18 _=>x.items.length-(intOf v18).toNat)
  case atStart=>exact⟨0,H1,_,_,_,Nat.zero_le _,rfl,rfl,rfl,ws,Snap.le.refl _,pW,hP,hT,uy,tb,by intro q hq;simp[Value.ownBlock]at hq⟩
  case round =>
   clear hP hT ws uy tb pW;obtain⟨j,Hr,VA,vc,vn,hj,rfl,rfl,lW,uT,tw,ww,X6,vf,TU,sk,tn⟩:=hrel;have HV:=Hh lW;clear lW
   by_cases yi:j<x.items.length
   ·obtain⟨ib,io,tj,wI⟩:=HX.out.items (by omega);obtain⟨eba,ebc,eia,eic,q0,q1,q2,q3,uU⟩:=wI.get j yi;subst tj;have p0:=(uT.holds.mono uT.le).cell q0;have p1:=(uT.holds.mono uT.le).cell q1;have p2:=(uT.holds.mono uT.le).cell q2;have p3:=(uT.holds.mono uT.le).cell q3;have yp:=uT.alloc (zW x.items[j] eba ebc eia eic);have rl:=ww.alloc (zW x.items[j] eba ebc eia eic);have ZU:=X6.alloc (zW x.items[j] eba ebc eia eic);have xD:=vf.alloc (zW x.items[j] eba ebc eia eic);have IH:=Hh (fv x.items[j] Hr _ _ eba _ ebc eia _ eic _ (HM.out.parts.2.2.get j yi) (uU.mono uT.le).arg yp.holds);have HT:=Hh (show x.items.take (j+1)=x.items.take j++[x.items[j]] from List.take_succ_eq_append_getElem yi);have T6:=HM.out.parts.2.1
    generalize x.items[j]'yi=y at *
    clear q0 q1 q2 q3 wI uU ww;go_wp2_with fail
    refine IH.out.mono ?_
    rintro e w6 ⟨v6,rfl,ja,jb,jc,jd,H6,rfl,zJ,qI⟩
    have sC:=((rl.below zJ.below).mono zJ.le).alloc (.cells (zg y ja jb jc jd).toArray 26);have wP:=(yp.trans zJ).alloc (.cells (zg y ja jb jc jd).toArray 26);have Uq:=(ZU.below zJ.below).alloc (.cells (zg y ja jb jc jd).toArray 26);have yf:=(xD.below zJ.below).alloc (.cells (zg y ja jb jc jd).toArray 26);have td:∀ q,(Value.slice VA vn vc).ownBlock=some q→H6 q=none:=fun q hq=>zJ.none (tn q hq) (rl.lt q hq).2
    have PZ:=zJ.none TU ZU.lt;have dm:=zJ.none sk xD.lt;have UW:=tw.trans zJ.le;clear p0 p1 p2 p3 IH uT X6 vf yp zJ ZU xD;go_wp2_with (at_builtin;refine ye ?_)
    unfold yE
    obtain rfl:=HV.out
    refine yw rfl (.tmp 22) (.tmp 25) rfl (N+1) (.slice VA _ vc) H6 _ rfl sC _ 1 _ (zg y ja jb jc jd) [y] rfl rfl (ItemsC.one qI) (Src.new _ _ _ _ rfl _ rfl) (by rw[List.length_take];simp;omega) (by have:=Uq.lt;simp only[zV]at this⊢;omega) fun v' w7 xK hg7 hat7=>?_
    obtain⟨VA',vc',rfl,_⟩:=xK.form;have ga:=wP.grownRow td (fun q hq=>by have:=(sC.lt q hq).1;omega) hg7;have Pc:=Uq.grown hg7 (fun e=>by have:=(sC.lt N e).1;omega);have yL:=yf.grown hg7 (fun e=>by have:=(sC.lt _ e).1;omega)
    have sa:∀ q,(Value.slice VA' (x.items.take j++[y]).length vc').ownBlock=some q→H6 q=none:=fun q hq=>by
     rcases hat7 with h | ⟨g',h1,h2⟩
     ·exact td q (by rw[← h,hq])
     ·rw[hq]at h1;injection h1 with h1
      subst h1
      exact wP.hidden h2
    have iY:(x.items.take j++[y]).length=j+1:=by rw[← HT.out,List.length_take];omega
    rw[iY]at xK sa;rw[iY];rw[← HT.out]at xK;clear iY;have av:(j:Int)+1≤9223372036854775807:=by omega
    clear sC hg7 hat7 td wP Uq yf qI;go_wp2_with fail
    go_roundw
    case rel=>exact⟨j+1,H6,VA',vc',_,by omega,by go_num,rfl,by rw[List.length_take];omega,ga,UW,xK,Pc,yL,PZ,dm,sa⟩
    case measure=>simp[intOf];omega
   ·have so:j=x.items.length:=by omega
    subst so;rw[List.take_length]at ww;have QL:Hid (vn=x.items.length):=by have:=HV.out;rw[List.take_length]at this;exact this
    clear HV;have Jk:=Hh QL.out.symm;have HI:=Hh (qC.mono tw);have yQ:∀ q,(Value.slice VA vn vc).ownBlock=some q→N+1≤q:=fun q hq=>(ww.lt q hq).1
    clear qC;go_wp2_with (with_reducible refine zx ?_)
    refine zu rfl _ _ _ rfl rfl N 3 (.slice VA vn vc) rfl rfl _ _ X6 zR (by simp) rfl fun w9 hP9 hg9=>?_
    have ui:=vf.gr hg9 (by omega);have px:=uT.grownOwn TU (by omega) hg9;have rD:=ww.kept hg9 (by cases hv:(Value.slice VA vn vc).ownBlock with | none=>exact .inl rfl | some q=>exact .inr (fun e=>by injection e with e;have:=yQ q hv;omega));have r0:=hP9.cell 0 rfl;have r1:=hP9.cell 1 rfl;have r2:=hP9.cell 2 rfl;have r3:=hP9.cell 3 rfl;clear X6 vf uT ww;go_wp2_with (with_reducible refine zx ?_)
    refine stI ui fun w10 uS hg10=>?_
    have iM:=px.grownOwn sk (by omega) hg10;have tz:=rD.kept hg10 (by cases hv:(Value.slice VA vn vc).ownBlock with | none=>exact .inl rfl | some q=>exact .inr (fun e=>by injection e with e;have:=yQ q hv;omega));clear rD px hP9 ui;go_wp2_with fail
    refine yN rfl rfl uS rfl rfl zw rfl ?_
    obtain rfl:=QL.out
    exact⟨BA,BC,VA,vc,Hr,rfl,iM,HI.out,tz.more (by omega),tn⟩
section
variable {w w' w'':World} {H H' H'':Snap} {g:Nat}
theorem GrowsBut.refl (hH:Holds w H) (g:Nat):GrowsBut w H w H g:=⟨yU w _,Snap.le.refl _,hH,fun _ _ h=>.inl h⟩
theorem GrowsBut.trans (h:GrowsBut w H w' H' g) (k:GrowsBut w' H' w'' H'' g):GrowsBut w H w'' H'' g :=
 ⟨yV h.grown k.grown (.inl rfl),h.le.trans k.le,k.holds,fun b o hb=>by
  rcases k.fresh b o hb with h1 | h1
  ·exact h.fresh b o h1
  ·exact .inr (Nat.le_trans h.grown.size h1)⟩
theorem Grows.but (h:Grows w H w' H') (g:Nat):GrowsBut w H w' H' g:=⟨vk h.below _,h.le,h.holds,h.fresh⟩
theorem GrowsBut.hid (h:GrowsBut w H w' H' g) {k:Nat}(hk:H k=.none) (hl:k<w.heap.size):H' k=.none:=by
 cases hH:H' k with
 | none=>rfl
 | some o =>
  rcases h.fresh k o hH with hx | hx
  ·rw[hk]at hx;cases hx
  ·omega
structure DeckIn (w:World) (g:Nat) (H:Snap):Prop where
 deck:Deck w g H
 holds:Holds w H
 apart:H g=.none
structure Dealt (w:World) (H:Snap) (w':World) (H':Snap) (g:Nat):Prop where
 grows:GrowsBut w H w' H' g
 deck:DeckIn w' g H'
theorem Dealt.refl (h:DeckIn w g H):Dealt w H w H g:=⟨GrowsBut.refl h.holds g,h⟩
theorem Dealt.trans (h:Dealt w H w' H' g) (k:Dealt w' H' w'' H'' g):Dealt w H w'' H'' g:=⟨h.grows.trans k.grows,k.deck⟩
theorem DeckIn.grows (h:DeckIn w g H) (k:Grows w H w' H'):Dealt w H w' H' g :=
 ⟨k.but g,⟨(h.deck.below k.below).mono k.le,k.holds,k.none h.apart h.deck.lt⟩⟩
theorem Dealt.grown (h:Dealt w H w' H' g) (k:Grows w' H' w'' H''):Dealt w H w'' H'' g:=h.trans (h.deck.grows k)
theorem Dealt.alloc (h:Dealt w H w' H' g) (o:Obj):Dealt w H (w'.alloc o) H' g:=h.grown ((Grows.refl h.deck.holds).alloc o)
theorem Dealt.drew (h:Dealt w H w' H' g):Dealt w H w'.drew H' g:=h.grown ((Grows.refl h.deck.holds).drew)
theorem DeckIn.alloc (h:DeckIn w g H) (o:Obj):DeckIn (w.alloc o) g H:=(h.grows ((Grows.refl h.holds).alloc o)).deck
theorem Dealt.le (h:Dealt w H w' H' g):H.le H':=h.grows.le
theorem Dealt.holds (h:Dealt w H w' H' g):Holds w' H':=h.deck.holds
theorem Dealt.size (h:Dealt w H w' H' g):w.heap.size≤w'.heap.size:=h.grows.grown.size
theorem Dealt.hid (h:Dealt w H w' H' g) {k:Nat}(hk:H k=.none) (hl:k<w.heap.size):H' k=.none:=h.grows.hid hk hl
theorem Dealt.grownRow {row:Option Nat}(h:Dealt w H w' H' g) (h0:∀ k,row=some k→H' k=.none) (hw:∀ k,row=some k→w.heap.size≤k) (yi:g<w.heap.size) (hg:w'.grownBy w'' row):Dealt w H w'' H' g:=by
 have hd:=h.deck;have wd:row≠some g:=fun e=>by have:=hw g e;omega
 refine⟨⟨?_,h.le,h.holds.grown hg h0,h.grows.fresh⟩, ?_,h.holds.grown hg h0,hd.apart⟩
 ·exact⟨hg.os.trans h.grows.grown.os,hg.tape.trans h.grows.grown.tape,hg.output.trans h.grows.grown.output,Nat.le_trans h.size hg.size,fun i hi oY =>
   (hg.block i (Nat.lt_of_lt_of_le hi h.size) (fun e=>by have:=hw i e.symm;omega)).trans (h.grows.grown.block i hi oY)⟩
 ·obtain⟨A,c,l,k,h1,h2,h3⟩:=hd.deck
  exact⟨A,c,l,k,h1.grown hg wd,h2,h3⟩
theorem Blk.dealt {k:Nat}{t:TypeId}{cs:Array Value}(h:Blk w k t cs) (hd:Dealt w H w' H' g) (hk:k≠g):Blk w' k t cs :=
 h.grown hd.grows.grown (by intro e;injection e with e;exact hk e.symm)
theorem OwnB.dealt {base:Nat}{v:Value}{l:List UInt8}(h:OwnB w base v l) (hd:Dealt w H w' H' g) (hb:g<base):OwnB w' base v l:=by
 refine h.kept hd.grows.grown ?_
 cases hv:v.ownBlock with
 | none=>exact .inl rfl
 | some k=>exact .inr (fun e=>by injection e with e;have:=h.lt k hv;omega)
theorem OwnI.dealt {base:Nat}{v:Value}{K:Snap}{l:List Itm}(h:OwnI w base v K l) (hd:Dealt w H w' H' g) (hb:g<base):OwnI w' base v K l:=by
 refine h.kept hd.grows.grown ?_
 cases hv:v.ownBlock with
 | none=>exact .inl rfl
 | some k=>exact .inr (fun e=>by injection e with e;have:=h.lt k hv;omega)
end
theorem yX {H:Snap}{g:Nat}(w:World) (hD:DeckIn w g H) (n:Int) (hn:0<n) (tb:n≤1099511627776) :
  Calls Tryz.prog 25 #[.pointer (some ⟨g,0,none⟩),.int .i64 n] w fun e w'=>∃ r:Nat,e=.returned (.int .i64 (r:Int))∧(r:Int)<n∧Dealt w H w' H g:=by
 refine(W3 w hD.deck hD.holds hD.apart n hn tb).mono ?_
 rintro e w' ⟨r,rfl,h0,h1,h2,h3⟩
 obtain⟨k,rfl⟩:=Int.eq_ofNat_of_zero_le h0;have hH:=hD.holds.grown h3 (by rintro q ⟨⟩;exact hD.apart)
 exact⟨k,rfl,h1,⟨h3,Snap.le.refl _,hH,fun _ _ h=>.inl h⟩,h2,hH,hD.apart⟩
theorem kZ {H:Snap}{g:Nat}(w:World) (hD:DeckIn w g H) (n:Int) (hn:0≤n) (tb:n≤1048576) :
  Calls Tryz.prog 24 #[.pointer (some ⟨g,0,none⟩),.int .i64 n] w fun e w' =>
   ∃ A c l,e=.returned (.slice A l.length c)∧(l.length:Int)≤n∧∃ H',IsBytes H' A c l∧Dealt w H w' H' g:=by
 have NX:=Hh (yX w hD (n+1) (by omega) (by omega));have K0:IntKind.i64.wrap (n+1)=n+1:=IntWalk.i64_in _ (by omega);have zC:=hD.deck.lt;have HN:=Hh (And.intro hn tb);have HD:=Hh hD;clear hn tb hD;go_enter Tryz.func24,Tryz.ntmps24
 go_wp2_with fail
 refine NX.out.mono ?_
 rintro e w1 ⟨r,rfl,hr,us⟩
 have pW:=OwnB.nil w1 w.heap.size;go_wp2_with fail
 go_loopw [5,6] (fun v5 v6 wr=>∃ (k:Nat) (VA:Option Addr) (vc vn:Nat) (l:List UInt8),v6=.int .i64 (k:Int)∧v5=.slice VA vn vc∧OwnB wr w.heap.size (.slice VA vn vc) l∧vn=l.length∧(l.length:Int)+k≤n∧Dealt w H wr H g∧(∀ q,(Value.slice VA vn vc).ownBlock=some q→H q=none)) (fun _ v6 _=>(intOf v6).toNat)
 case atStart=>exact⟨r,_,_,_,_,rfl,rfl,pW,rfl,by simp;omega,us,by intro q hq;simp[Value.ownBlock]at hq⟩
 case round =>
  obtain⟨k,VA,vc,vn,l,rfl,rfl,ww,lW,rI,vy,tn⟩:=hrel;have HV:=Hh lW;have bz:=Hh rI;clear lW rI
  by_cases yi:(0:Int)<(k:Int)
  ·have NX:=Hh (yX wr vy.deck 256 (by omega) (by omega));go_wp2_with fail
   refine NX.out.mono ?_
   rintro e w2 ⟨q,rfl,hq,yv⟩
   have hd:=vy.trans yv;have rl:=ww.dealt yv zC;have K1:IntKind.u8.wrap (q:Int)=(q:Int):=IntWalk.u8_in _ (by omega);have lL:=rl.alloc (.cells #[.int .u8 (q:Int)] 5);have yF:=hd.alloc (.cells #[.int .u8 (q:Int)] 5)
   have HC:Hid ((#[.int .u8 (q:Int)]:Array Value).toList=[u8 q].map zD):=by
    simp only[Hid,List.map_cons,List.map_nil,xA]
    congr 2
    omega
   have tG:(-9223372036854775808:Int)≤(k:Int)-1∧(k:Int)-1≤9223372036854775807:=by have:=bz.out;have:=HN.out;omega
   clear hq NX vy ww yv rl hd;go_wp2_with (at_builtin;refine ye ?_)
   unfold yE
   obtain rfl:=HV.out
   refine zO rfl (.tmp 15) (.tmp 19) rfl w.heap.size (.slice VA l.length vc) _ rfl lL _ 1 _ [u8 q] rfl rfl (Src.new _ _ _ _ rfl _ HC.out) (by have:=bz.out;have:=HN.out;simp;omega) yF.size fun v' w7 xK hg7 hat7=>?_
   obtain⟨VA',vc',rfl,_⟩:=xK.form;have yG:=yF.grownRow tn (fun q hq=>(lL.lt q hq).1) zC hg7
   have sa:∀ q',(Value.slice VA' (l++[u8 q]).length vc').ownBlock=some q'→H q'=none:=fun q' nJ=>by
    rcases hat7 with h | ⟨g',h1,h2⟩
    ·exact tn q' (by rw[← h,nJ])
    ·rw[nJ]at h1;injection h1 with h1
     subst h1
     exact yF.holds.none_of_ge h2
   have iY:(l++[u8 q]).length=l.length+1:=by simp
   rw[iY]at xK sa;rw[iY];clear iY;have sE:IntKind.i64.wrap ((k:Int)-1)=(k:Int)-1:=IntWalk.i64_in _ tG;clear lL hg7 hat7 yF tG;go_wp2_with fail
   go_roundw
   case rel=>exact⟨k-1,VA',vc',_,_,by rw[show((k-1:Nat):Int)=(k:Int)-1 by omega],rfl,xK,by simp,by have:=bz.out;simp;omega,yG,sa⟩
   case measure=>simp[intOf];omega
  ·go_wp2_with fail
   obtain rfl:=HV.out;obtain⟨H',Vd,TV,XV,cL,XX⟩:=ww.snap vy.holds (fun q hq=>tn q (by cases VA <;> simp_all [Value.ownBlock]));have hG:Grows wr H wr H'→True:=fun _=>trivial
   go_ret
   refine⟨VA,vc,l,rfl,by have:=bz.out;omega,H',XX,⟨⟨vy.grows.grown,Vd,TV,fun b o hb=>?_⟩,vy.deck.deck.mono Vd,TV, ?_⟩⟩
   ·rcases XV b o hb with h | h
    ·exact .inl h
    ·exact .inr (ww.lt b (by cases VA <;> simp_all [Value.ownBlock])).1
   ·cases hH:H' g with
    | none=>rfl
    | some o =>
     rcases XV g o hH with h | h
     ·rw[HD.out.apart]at h;cases h
     ·have:=(ww.lt g (by cases VA <;> simp_all [Value.ownBlock])).1
      omega
def jD:Value→Bool | .int .u64 x=>decide (0≤x)&&decide (x<18446744073709551616) | _=>false
def Yx:Value→Bool | .int .i64 x=>decide (-1000≤x)&&decide (x≤1000) | _=>false
def db:Value→Bool | .string s=>decide (s.size≤3) | _=>false
theorem qY {v:Value}(h:jD v=true):∃ n:Nat,v=.int .u64 (n:Int)∧n<18446744073709551616:=by
 unfold jD at h
 split at h
 ·rename_i x
  rw[Bool.and_eq_true,decide_eq_true_eq,decide_eq_true_eq]at h;obtain⟨n,rfl⟩:=Int.eq_ofNat_of_zero_le h.1
  exact⟨n,rfl,by omega⟩
 ·cases h
theorem cq {v:Value}(h:Yx v=true):∃ x:Int,v=.int .i64 x∧-1000≤x∧x≤1000:=by
 unfold Yx at h
 split at h
 ·rename_i x
  rw[Bool.and_eq_true,decide_eq_true_eq,decide_eq_true_eq]at h
  exact⟨x,rfl,h.1,h.2⟩
 ·cases h
theorem ek {v:Value}(h:db v=true):∃ s:ByteArray,v=.string s∧s.size≤3:=by
 unfold db at h
 split at h
 ·rename_i x
  exact⟨x,rfl,of_decide_eq_true h⟩
 ·cases h
theorem Blk.pick {w:World}{g:Nat}{t:TypeId}{cs:Array Value}(h:Blk w g t cs) (P:Value→Bool) (vh:cs.all P=true) (k:Nat) (hk:k<cs.size):∃ v,w.cell? ⟨g,k,none⟩=some v∧P v=true :=
 ⟨cs[k],h.cell k (Array.getElem?_eq_getElem hk),by rw[Array.all_eq_true]at vh;exact vh k hk⟩
theorem bU {H:Snap}{g:Nat}(w:World) (hD:DeckIn w g H) (n:Int) (hn:0≤n) (tb:n≤1048576) :
  Calls Tryz.prog 32 #[.pointer (some ⟨g,0,none⟩),.int .i64 n] w fun e w' =>
   ∃ s:ByteArray,e=.returned (.string s)∧(s.size:Int)≤3*n∧Dealt w H w' H g:=by
 have NX:=Hh (yX w hD (n+1) (by omega) (by omega));have K0:IntKind.i64.wrap (n+1)=n+1:=IntWalk.i64_in _ (by omega);have zC:=hD.deck.lt;have HN:=Hh (And.intro hn tb);have HD:=Hh hD;clear hn tb hD;go_enter Tryz.func32,Tryz.ntmps32
 go_wp2_with fail
 refine NX.out.mono ?_
 rintro e w1 ⟨r,rfl,hr,us⟩
 go_wp2_with fail
 go_loopw [5,6] (fun v5 v6 wr=>∃ (k:Nat) (s:ByteArray),v6=.int .i64 (k:Int)∧v5=.string s∧(s.size:Int)+3*k≤3*n∧Dealt w H wr H g) (fun _ v6 _=>(intOf v6).toNat)
 case atStart=>exact⟨r,⟨#[]⟩,rfl,rfl,by rw[show(⟨#[]⟩:ByteArray).size=0 from rfl];omega,us⟩
 case round =>
  obtain⟨k,s,rfl,rfl,rI,vy⟩:=hrel;have bz:=Hh rI;clear rI
  by_cases yi:(0:Int)<(k:Int)
  ·have hB:=Blk.new wr 9 #[.string ⟨#[97]⟩,.string ⟨#[98]⟩,.string ⟨#[47]⟩,.string ⟨#[34]⟩,.string ⟨#[92]⟩,.string ⟨#[10]⟩,.string ⟨#[127]⟩,.string ⟨#[37]⟩,.string ⟨#[195,169]⟩,.string ⟨#[226,130,172]⟩];have yv:=vy.alloc (.cells #[.string ⟨#[97]⟩,.string ⟨#[98]⟩,.string ⟨#[47]⟩,.string ⟨#[34]⟩,.string ⟨#[92]⟩,.string ⟨#[10]⟩,.string ⟨#[127]⟩,.string ⟨#[37]⟩,.string ⟨#[195,169]⟩,.string ⟨#[226,130,172]⟩] 9);have NX:=Hh (yX _ yv.deck 10 (by omega) (by omega));go_wp2_with fail
   refine NX.out.mono ?_
   rintro e w3 ⟨q,rfl,hq,yF⟩
   have wO:=hB.dealt yF (by have:=vy.size;omega);obtain⟨v,hc,hP⟩:=wO.pick db (by kernel_rfl) q (by simp;omega);obtain⟨t,rfl,ht⟩:=ek hP;have hd:=yv.trans yF;have oA:(q:Int)<10:=hq;have HK:=Hh ht;have sE:IntKind.i64.wrap ((k:Int)-1)=(k:Int)-1:=IntWalk.i64_in _ (by have:=bz.out;have:=HN.out;omega);have uu:s.size+t.size≤9223372036854775807:=by have:=bz.out;have:=HN.out;omega
   clear NX hB wO hP yv yF ht;go_wp2_with fail
   go_roundw
   case rel=>exact⟨k-1,_,by rw[show((k-1:Nat):Int)=(k:Int)-1 by omega],rfl,by have:=bz.out;have:=HK.out;simp[ByteArray.size_append];omega,hd⟩
   case measure=>simp[intOf];omega
  ·go_wp2_with fail
   go_ret
   exact⟨s,rfl,by have:=bz.out;omega,vy⟩
theorem ts {H:Snap}{g:Nat}(w:World) (hD:DeckIn w g H) :
  Calls Tryz.prog 30 #[.pointer (some ⟨g,0,none⟩)] w fun e w' =>
   ∃ n:Nat,e=.returned (.int .u64 (n:Int))∧n<18446744073709551616∧Dealt w H w' H g:=by
 have NX:=Hh (yX w hD 6 (by omega) (by omega));have zC:=hD.deck.lt;clear hD;go_enter Tryz.func30,Tryz.ntmps30
 go_wp2_with fail
 refine NX.out.mono ?_
 rintro e w1 ⟨r,rfl,hr,us⟩
 by_cases h0:r=0
 ·subst h0;have hB:=Blk.new w1 22 #[.int .u64 23,.int .u64 24,.int .u64 255,.int .u64 256,.int .u64 65535,.int .u64 65536,.int .u64 4294967295,.int .u64 4294967296,.int .u64 18446744073709551615];have yv:=us.alloc (.cells #[.int .u64 23,.int .u64 24,.int .u64 255,.int .u64 256,.int .u64 65535,.int .u64 65536,.int .u64 4294967295,.int .u64 4294967296,.int .u64 18446744073709551615] 22);have NX:=Hh (yX _ yv.deck 9 (by omega) (by omega));go_wp2_with fail
  refine NX.out.mono ?_
  rintro e w3 ⟨q,rfl,hq,yF⟩
  have wO:=hB.dealt yF (by have:=us.size;omega);obtain⟨v,hc,hP⟩:=wO.pick jD (by kernel_rfl) q (by simp;omega);obtain⟨x,rfl,hx⟩:=qY hP;have hd:=yv.trans yF;have HX:=Hh hx;clear NX hB wO hP yv yF hx;go_wp2_with fail
  go_ret
  exact⟨x,rfl,HX.out,hd⟩
 by_cases h1:r=1
 ·subst h1;have N2:=Hh (yX w1 us.deck 1073741824 (by omega) (by omega));go_wp2_with fail
  refine N2.out.mono ?_
  rintro e w2 ⟨q,rfl,hq,yv⟩
  have K1:IntKind.u64.wrap (q:Int)=(q:Int):=IntWalk.u64_in _ (by omega);go_wp2_with fail
  go_ret
  exact⟨q,rfl,by omega,us.trans yv⟩
 ·have b0:((r:Int)==0)=false:=by rw[beq_eq_false_iff_ne];omega
  have b1:((r:Int)==1)=false:=by rw[beq_eq_false_iff_ne];omega
  have N2:=Hh (yX w1 us.deck 30 (by omega) (by omega));clear h0 h1;go_wp2_with fail
  refine N2.out.mono ?_
  rintro e w2 ⟨q,rfl,hq,yv⟩
  have K1:IntKind.u64.wrap (q:Int)=(q:Int):=IntWalk.u64_in _ (by omega);go_wp2_with fail
  go_ret
  exact⟨q,rfl,by omega,us.trans yv⟩
structure IsRowI (H:Snap) (A:Option Addr) (c:Nat) (l:List Itm):Prop where
 le:l.length≤c
 max:c≤9223372036854775807
 elems:0<l.length→∃ b off,A=some ⟨b,off,none⟩∧IsElems H b off l
theorem IsRowI.item {H:Snap}{A:Option Addr}{c:Nat}{l:List Itm}(h:IsRowI H A c l) (k:Int) (hk:0≤k∧k≤8) (n:Nat) (hn:n<18446744073709551616):IsItem H none 0 A c (.mk k n [] l):=by
 rw[IsItem]
 exact⟨⟨by omega,by omega,hn,h.le,h.max⟩,IsBytes.nil _,h.elems⟩
theorem IsItem.row {H:Snap}{ba:Option Addr}{bc:Nat}{ia:Option Addr}{ic:Nat}{x:Itm}(h:IsItem H ba bc ia ic x):IsRowI H ia ic x.items:=⟨h.bounds.2.2.2.2.2.1,h.bounds.2.2.2.2.2.2,h.items⟩
theorem Dealt.gb {w w' w'':World}{H H':Snap}{g k:Nat}(h:Dealt w H w' H' g) (h0:H' k=none) (hw:w.heap.size≤k) (yi:g<w.heap.size) (hg:w'.grownBy w'' (some k)):Dealt w H w'' H' g:=h.grownRow (row:=some k) (by rintro q ⟨⟩;exact h0) (by rintro q ⟨⟩;exact hw) yi hg
end Go.Proofs.YtnlinmoiakgedaaGreatDoor
