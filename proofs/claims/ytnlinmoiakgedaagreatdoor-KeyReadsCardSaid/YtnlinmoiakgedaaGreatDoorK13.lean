/- squeezed. Walks: the references' Copy, List, -/
import Derived.Test.YtnlinmoiakgedaaGreatDoorK10
set_option linter.unusedVariables false
set_option linter.unusedSimpArgs false
set_option maxRecDepth 100000
set_option maxHeartbeats 6400000
namespace Go.Proofs.YtnlinmoiakgedaaGreatDoor
open Go.RowKit
theorem IsItem.build {H:Snap}{x:Itm}{ba:Option Addr}{bc:Nat}{ia:Option Addr}{ic:Nat}(hk : -9223372036854775808≤x.kind∧x.kind≤9223372036854775807) (hn:x.n<18446744073709551616) (hb:IsBytes H ba bc x.bytes)
  (h1:x.items.length≤ic) (h2:ic≤9223372036854775807) (he:0<x.items.length→∃ b off,ia=some ⟨b,off,none⟩∧IsElems H b off x.items):IsItem H ba bc ia ic x:=by
 cases x
 rw[IsItem]
 exact⟨⟨hk.1,hk.2,hn,h1,h2⟩,hb,he⟩
def nT (x:Itm):Prop:=∀ (H:Snap) (k n:Int) (ba:Option Addr) (bl bc:Nat) (ia:Option Addr) (il ic:Nat) (w:World),Modest x→ItemA H k n ba bl bc ia il ic x→Holds w H→
 Calls Tryz.prog 10 #[.agg #[.int .i64 k,.int .u64 n,.slice ba bl bc,.slice ia il ic]] w fun e w'=>∃ v,e=.returned v∧Gives w H x v w'
theorem Zz (x:Itm) (ih:∀ y:Itm,cnt y<cnt x→nT y):nT x:=by
 intro H k n ba bl bc ia il ic w hm hx hH
 obtain⟨rfl,rfl,rfl,rfl,pY⟩:=hx.eqs_;have HX:=Hh pY;have HM:=Hh hm;have iZ:=hm.parts;have hB:=((Blk.new w 26 #[.int .i64 x.kind,.int .u64 x.n,.slice ba x.bytes.length bc,.slice ia x.items.length ic]).alloc zr).drew;have hT:=(Blk.new (w.alloc (zW x ba bc ia ic)) 26 #[.int .i64 0,.int .u64 0,.slice none 0 0,.slice none 0 0]).drew
 simp only[zV]at hT
 have hb:=((zi w (zW x ba bc ia ic)).alloc (by simp) zr).drew;have zG:Holds ((w.alloc (zW x ba bc ia ic)).alloc zr).drew H:=((hH.alloc _).alloc _).drew;have eV:x.items.length≤9223372036854775807:=by omega
 have sN:x.bytes.length≤1099511627776:=iZ.1;clear hx pY hm iZ;go_enter Tryz.func10,Tryz.ntmps10
 go_upto_region 1 with fail
 go_cut [3] (fun s3 wx=>∃ N BA BC H1,s3=.pointer (some ⟨N,0,none⟩)∧Blk wx N 26 #[.int .i64 x.kind,.int .u64 x.n,.slice BA x.bytes.length BC,.slice none 0 0]∧Blk wx w.heap.size 26 #[.int .i64 x.kind,.int .u64 x.n,.slice ba x.bytes.length bc,.slice ia x.items.length ic]∧
  Blk wx (w.heap.size+1) 26 #[.int .i64 0,.int .u64 0,.slice none 0 0,.slice none 0 0]∧Grows w H wx H1∧IsBytes H1 BA BC x.bytes∧H1 N=none∧H1 (w.heap.size+1)=none∧w.heap.size+1<N)
 case first =>
  refine zf 9 (fun w'=>w'.cell? ⟨w.heap.size,0,none⟩=some (.int .i64 x.kind)∧w'.cell? ⟨w.heap.size,1,none⟩=some (.int .u64 x.n)∧w'.cell? ⟨w.heap.size,2,none⟩=some (.slice ba x.bytes.length bc)) (by kernel_rfl) (⟨hB.cell 0 rfl,hB.cell 1 rfl,hB.cell 2 rfl⟩) (fun zy=>?_)
  refine Tk 0 rfl zy ?_
  refine Tk 1 rfl zy ?_
  refine Tk 2 rfl zy ?_
  refine Tk 3 rfl zy ?_
  refine Tk 4 rfl zy ?_
  refine Tk 5 rfl zy ?_
  refine Ways.two (i:=6) (j:=8) rfl rfl (by kernel_rfl) (fun K hK=>?_) (fun K hK=>?_)
  ·rw[if_pos (by rfl)]
   refine yS (.const (.slice none 0 0)) (.tmp 12) rfl _ (.slice none 0 0) [] rfl (OwnB.nil _ _) ba _ bc x.bytes rfl rfl (Src.of_row HX.out.bytes.row zG) (by simpa using sN) (Nat.le_refl _) fun v' w5 hO hg nz=>?_
   rw[List.nil_append]at hO;have qL:=yo (by simpa [Value.ownBlock] using hg);obtain⟨BA,BC,rfl,_⟩:=hO.form
   try have wd:∀ q,(Value.slice BA x.bytes.length BC).ownBlock=some q→q≠w.heap.size+1+1:=fun q hq e=>by have h1:=(hO.lt q hq).1;have h2:=hP.lt;(try simp only[yY,zV]at h1 h2);omega
   have rl:∀ q,(Value.slice BA x.bytes.length BC).ownBlock=some q→w.heap.size+1<q:=fun q hq=>by have h1:=(hO.lt q hq).1;have h2:=hT.lt;(try simp only[yY,zV]at h1 h2);omega
   have hB:=hB.below qL;have hT:=hT.below qL
   try have hP:=hP.below qL
   have hb:=hb.trans (qL.mono hb.size);have zG:=zG.below qL (Nat.le_refl _)
   refine hK.out _ _ (fun _=>?_) (fun zy=>?_)
   ·exact⟨hB.cell 0 rfl,hB.cell 1 rfl,hB.cell 2 rfl⟩
   clear hK K;have zy:=zy (by decide)
   try simp only[Act.put,zz4,zz5,zz6]
   refine Tk 7 rfl zy ?_
   refine To 8 rfl fun K hK=>?_
   go_simp
   have hP:=sW hb 26 #[.int .i64 0,.int .u64 0,.slice none 0 0,.slice none 0 0]
   try have wd:∀ q,(Value.slice BA x.bytes.length BC).ownBlock=some q→q≠w5.heap.size:=fun q hq e=>by have h1:=(hO.lt q hq).2;omega
   have X4:=hT.lt
   try simp only[yY,zV]at hP X4
   have hB:=hB.alloc zr;have hT:=hT.alloc zr
   try have hO:=hO.alloc zr
   have zG:=zG.alloc zr;have hb:=hb.alloc hb.size zr
   refine hK.out _ _ (fun _=>?_) (fun zy=>?_)
   ·exact⟨hB.cell 0 rfl,hB.cell 1 rfl,hB.cell 2 rfl⟩
   clear hK K;have zy:=zy (by decide)
   try simp only[Act.put,zz4,zz5,zz6]
   refine To 9 rfl fun K hK=>?_
   rw[if_pos (by rfl)]
   refine uq _ _ _ rfl _ _ rfl rfl _ _ hP zw rfl (wu _ _ _ _ rfl rfl rfl rfl) fun w6 hP tF=>?_
   have hB:=hB.gr tF (by omega);have hT:=hT.gr tF (by omega);have hb:=hb.grown tF hb.size (by rintro q ⟨⟩;omega);have zG:=zG.grown tF (by rintro q ⟨⟩;exact hH.none_of_ge (by omega));have hO:=hO.kept tF (by cases hv:(Value.slice BA x.bytes.length BC).ownBlock with | none=>exact .inl rfl | some q=>exact .inr (fun e=>by injection e with e;exact wd q hv e))
   refine hK.out _ _ (fun h=>absurd rfl h) (fun _=>?_)
   clear hK K
   try simp only[Act.put,zz4,zz5,zz6]
   refine Ways.done (by kernel_rfl) ?_
   obtain⟨H1,cE,Uz,nG,sB,qC⟩:=hO.snap zG (fun q hq=>hH.none_of_ge (by have:=rl q (by cases BA <;> simp_all [Value.ownBlock]);omega))
   have ZT:∀ q,w.heap.size≤q→(∀ q',(Value.slice BA x.bytes.length BC).ownBlock=some q'→q'≠q)→H1 q=none:=fun q hq hd=>by
    cases gX:H1 q with
    | none=>rfl
    | some o =>
     rcases nG q o gX with h | h
     ·rw[hH.none_of_ge hq]at h;cases h
     ·exact absurd rfl (hd q (by cases BA <;> simp_all [Value.ownBlock]))
   go_wp2_with fail
   go_meet
   exact⟨_,_,_,H1,rfl,hP,hB,hT,⟨hb,cE,Uz,fun b o vg=>(nG b o vg).imp id fun h=>by have:=rl b (by cases BA <;> simp_all [Value.ownBlock]);omega⟩,qC,ZT _ (by omega) (fun q' nJ=>wd q' nJ),ZT _ (by omega) (fun q' nJ=>by have:=rl q' nJ;omega),by omega⟩
  ·go_simp
   have hP:=sW hb 26 #[.int .i64 0,.int .u64 0,.slice none 0 0,.slice none 0 0]
   try have wd:∀ q,(Value.slice BA x.bytes.length BC).ownBlock=some q→q≠w5.heap.size:=fun q hq e=>by have h1:=(hO.lt q hq).2;omega
   have X4:=hT.lt
   try simp only[yY,zV]at hP X4
   have hB:=hB.alloc zr;have hT:=hT.alloc zr
   try have hO:=hO.alloc zr
   have zG:=zG.alloc zr;have hb:=hb.alloc hb.size zr
   refine hK.out _ _ (fun _=>?_) (fun zy=>?_)
   ·exact⟨hB.cell 0 rfl,hB.cell 1 rfl,hB.cell 2 rfl⟩
   clear hK K;have zy:=zy (by decide)
   try simp only[Act.put,zz4,zz5,zz6]
   refine To 6 rfl fun K hK=>?_
   rw[if_pos (by rfl)]
   refine yS (.const (.slice none 0 0)) (.tmp 12) rfl _ (.slice none 0 0) [] rfl (OwnB.nil _ _) ba _ bc x.bytes rfl rfl (Src.of_row HX.out.bytes.row zG) (by simpa using sN) (Nat.le_refl _) fun v' w5 hO hg nz=>?_
   rw[List.nil_append]at hO;have qL:=yo (by simpa [Value.ownBlock] using hg);obtain⟨BA,BC,rfl,_⟩:=hO.form
   try have wd:∀ q,(Value.slice BA x.bytes.length BC).ownBlock=some q→q≠w.heap.size+1+1:=fun q hq e=>by have h1:=(hO.lt q hq).1;have h2:=hP.lt;(try simp only[yY,zV]at h1 h2);omega
   have rl:∀ q,(Value.slice BA x.bytes.length BC).ownBlock=some q→w.heap.size+1<q:=fun q hq=>by have h1:=(hO.lt q hq).1;have h2:=hT.lt;(try simp only[yY,zV]at h1 h2);omega
   have hB:=hB.below qL;have hT:=hT.below qL
   try have hP:=hP.below qL
   have hb:=hb.trans (qL.mono hb.size);have zG:=zG.below qL (Nat.le_refl _)
   refine hK.out _ _ (fun _=>?_) (fun zy=>?_)
   ·exact⟨hB.cell 0 rfl,hB.cell 1 rfl,hB.cell 2 rfl⟩
   clear hK K;have zy:=zy (by decide)
   try simp only[Act.put,zz4,zz5,zz6]
   refine Tk 7 rfl zy ?_
   refine To 9 rfl fun K hK=>?_
   rw[if_pos (by rfl)]
   refine uq _ _ _ rfl _ _ rfl rfl _ _ hP zw rfl (wu _ _ _ _ rfl rfl rfl rfl) fun w6 hP tF=>?_
   have hB:=hB.gr tF (by omega);have hT:=hT.gr tF (by omega);have hb:=hb.grown tF hb.size (by rintro q ⟨⟩;omega);have zG:=zG.grown tF (by rintro q ⟨⟩;exact hH.none_of_ge (by omega));have hO:=hO.kept tF (by cases hv:(Value.slice BA x.bytes.length BC).ownBlock with | none=>exact .inl rfl | some q=>exact .inr (fun e=>by injection e with e;exact wd q hv e))
   refine hK.out _ _ (fun h=>absurd rfl h) (fun _=>?_)
   clear hK K
   try simp only[Act.put,zz4,zz5,zz6]
   refine Ways.done (by kernel_rfl) ?_
   obtain⟨H1,cE,Uz,nG,sB,qC⟩:=hO.snap zG (fun q hq=>hH.none_of_ge (by have:=rl q (by cases BA <;> simp_all [Value.ownBlock]);omega))
   have ZT:∀ q,w.heap.size≤q→(∀ q',(Value.slice BA x.bytes.length BC).ownBlock=some q'→q'≠q)→H1 q=none:=fun q hq hd=>by
    cases gX:H1 q with
    | none=>rfl
    | some o =>
     rcases nG q o gX with h | h
     ·rw[hH.none_of_ge hq]at h;cases h
     ·exact absurd rfl (hd q (by cases BA <;> simp_all [Value.ownBlock]))
   go_wp2_with fail
   go_meet
   exact⟨_,_,_,H1,rfl,hP,hB,hT,⟨hb,cE,Uz,fun b o vg=>(nG b o vg).imp id fun h=>by have:=rl b (by cases BA <;> simp_all [Value.ownBlock]);omega⟩,qC,ZT _ (by omega) (fun q' nJ=>wd q' nJ),ZT _ (by omega) (fun q' nJ=>by have:=rl q' nJ;omega),by omega⟩
 case rest =>
  clear hB hT hb zG;obtain⟨N,BA,BC,H1,rfl,hP,hB,hT,ws,qC,uy,tb,X4⟩:=hcut;have c3:=hB.cell 3 rfl;have Pa:=hP.lt;have pW:=OwnI.nil wc (N+1) H1;clear hB;go_wp2_with fail
  go_loopw [4,18] (fun v4 v18 wr=>∃ (j:Nat) (Hr:Snap) (VA:Option Addr) (vc vn:Nat),j≤x.items.length∧v18=.int .i64 j∧v4=.slice VA vn vc∧vn=(x.items.take j).length∧Grows w H wr Hr∧H1.le Hr∧OwnI wr (N+1) (.slice VA vn vc) Hr (x.items.take j)∧
   Blk wr N 26 #[.int .i64 x.kind,.int .u64 x.n,.slice BA x.bytes.length BC,.slice none 0 0]∧Blk wr (w.heap.size+1) 26 #[.int .i64 0,.int .u64 0,.slice none 0 0,.slice none 0 0]∧Hr N=none∧Hr (w.heap.size+1)=none∧(∀ q,(Value.slice VA vn vc).ownBlock=some q→Hr q=none)) (fun _ v18 _=>x.items.length-(intOf v18).toNat)
  case atStart=>exact⟨0,H1,_,_,_,Nat.zero_le _,rfl,rfl,rfl,ws,Snap.le.refl _,pW,hP,hT,uy,tb,by intro q hq;simp[Value.ownBlock]at hq⟩
  case round =>
   clear hP hT ws uy tb pW;obtain⟨j,Hr,VA,vc,vn,hj,rfl,rfl,lW,uT,tw,ww,X6,vf,TU,sk,tn⟩:=hrel;have HV:=Hh lW;clear lW
   by_cases yi:j<x.items.length
   ·obtain⟨ib,io,tj,wI⟩:=HX.out.items (by omega);obtain⟨eba,ebc,eia,eic,q0,q1,q2,q3,uU⟩:=wI.get j yi;subst tj;have p0:=(uT.holds.mono uT.le).cell q0;have p1:=(uT.holds.mono uT.le).cell q1;have p2:=(uT.holds.mono uT.le).cell q2;have p3:=(uT.holds.mono uT.le).cell q3;have yp:=uT.alloc (zW x.items[j] eba ebc eia eic);have rl:=ww.alloc (zW x.items[j] eba ebc eia eic);have ZU:=X6.alloc (zW x.items[j] eba ebc eia eic);have xD:=vf.alloc (zW x.items[j] eba ebc eia eic);have IH:=Hh (ih x.items[j] (xP x j yi) Hr _ _ eba _ ebc eia _ eic _ (HM.out.parts.2.2.get j yi) (uU.mono uT.le).arg yp.holds);have HT:=Hh (show x.items.take (j+1)=x.items.take j++[x.items[j]] from List.take_succ_eq_append_getElem yi);have T6:=HM.out.parts.2.1
    generalize x.items[j]'yi=y at *
    clear q0 q1 q2 q3 wI uU ww;go_wp2_with fail
    refine IH.out.mono ?_
    rintro e w6 ⟨v6,rfl,ja,jb,jc,jd,H6,rfl,zJ,qI⟩
    have sC:=((rl.below zJ.below).mono zJ.le).alloc (.cells (zg y ja jb jc jd).toArray 26);have wP:=(yp.trans zJ).alloc (.cells (zg y ja jb jc jd).toArray 26);have Uq:=(ZU.below zJ.below).alloc (.cells (zg y ja jb jc jd).toArray 26);have yf:=(xD.below zJ.below).alloc (.cells (zg y ja jb jc jd).toArray 26);have td:∀ q,(Value.slice VA vn vc).ownBlock=some q→H6 q=none:=fun q hq=>zJ.none (tn q hq) (rl.lt q hq).2
    have PZ:=zJ.none TU ZU.lt;have dm:=zJ.none sk xD.lt;have UW:=tw.trans zJ.le;clear p0 p1 p2 p3 IH uT X6 vf yp zJ ZU xD;go_wp2_with (at_builtin;refine ye ?_)
    unfold yE
    obtain rfl:=HV.out
    refine yw rfl (.tmp 22) (.tmp 25) rfl (N+1) (.slice VA _ vc) H6 _ rfl sC _ 1 _ (zg y ja jb jc jd) [y] rfl rfl (ItemsC.one qI) (Src.new _ _ _ _ rfl _ rfl) (by rw[List.length_take];simp;omega) (by have:=Uq.lt;simp only[zV]at this⊢;omega) fun v' w7 xK hg7 hat7=>?_
    obtain⟨VA',vc',rfl,_⟩:=xK.form;have ga:=wP.grownRow td (fun q hq=>by have:=(sC.lt q hq).1;omega) hg7;have Pc:=Uq.grown hg7 (fun e=>by have:=(sC.lt N e).1;omega);have yL:=yf.grown hg7 (fun e=>by have:=(sC.lt _ e).1;omega)
    have sa:∀ q,(Value.slice VA' (x.items.take j++[y]).length vc').ownBlock=some q→H6 q=none:=fun q hq=>by
     rcases hat7 with h | ⟨g',h1,h2⟩
     ·exact td q (by rw[← h,hq])
     ·rw[hq]at h1;injection h1 with h1
      subst h1
      exact wP.hidden h2
    have iY:(x.items.take j++[y]).length=j+1:=by rw[← HT.out,List.length_take];omega
    rw[iY]at xK sa;rw[iY];rw[← HT.out]at xK;clear iY;have av:(j:Int)+1≤9223372036854775807:=by omega
    clear sC hg7 hat7 td wP Uq yf qI;go_wp2_with fail
    go_roundw
    case rel=>exact⟨j+1,H6,VA',vc',_,by omega,by go_num,rfl,by rw[List.length_take];omega,ga,UW,xK,Pc,yL,PZ,dm,sa⟩
    case measure=>simp[intOf];omega
   ·have so:j=x.items.length:=by omega
    subst so;rw[List.take_length]at ww;have QL:Hid (vn=x.items.length):=by have:=HV.out;rw[List.take_length]at this;exact this
    clear HV;obtain⟨H8,Vd,TV,XV,cL,sz,t8,ZG⟩:=ww.snap uT.holds (fun g hg=>tn g (by cases VA <;> simp_all [Value.ownBlock]));have yQ:∀ b,VA.map (·.block)=some b→N+1≤b:=fun b hb=>(ww.lt b (by cases VA <;> simp_all [Value.ownBlock])).1
    have TR:Grows w H wr H8:=⟨uT.below,uT.le.trans Vd,TV,fun b o hb=>by
     rcases XV b o hb with h | h
     ·exact uT.fresh b o h
     ·exact .inr (by have:=yQ b h;omega)⟩
    have Ys:∀ q,q≤N→Hr q=none→H8 q=none:=fun q hq h0=>by
     cases h8:H8 q with
     | none=>rfl
     | some o =>
      rcases XV q o h8 with h | h
      ·rw[h0]at h;cases h
      ·have:=yQ q h;omega
    have tv:=HX.out.bounds;have HI:=Hh (IsItem.build (x:=x) (H:=H8) (ba:=BA) (bc:=BC) (ia:=VA) (ic:=vc) ⟨tv.1,tv.2.1⟩ tv.2.2.1 (qC.mono (tw.trans Vd)) sz t8 ZG);have LW:=Ys N (Nat.le_refl _) TU;have tM:=Ys (w.heap.size+1) (by omega) sk;clear tv ZG sz t8 XV ww uT tn yQ Ys TU sk cL;go_wp2_with (with_reducible refine zx ?_)
    refine zu rfl _ _ _ rfl rfl N 3 (.slice VA vn vc) rfl rfl _ _ X6 zR (by simp) rfl fun w9 hP9 hg9=>?_
    have ui:=vf.gr hg9 (by omega);have px:=TR.grownOwn LW (by omega) hg9;have r0:=hP9.cell 0 rfl;have r1:=hP9.cell 1 rfl;have r2:=hP9.cell 2 rfl;have r3:=hP9.cell 3 rfl;clear X6 vf TR;go_wp2_with (with_reducible refine zx ?_)
    refine stI ui fun w10 uS hg10=>?_
    have iM:=px.grownOwn tM (by omega) hg10;go_wp2_with fail
    refine yN rfl rfl uS rfl rfl zw rfl ?_
    obtain rfl:=QL.out
    exact⟨_,rfl,BA,BC,VA,vc,H8,rfl,iM,HI.out⟩
theorem fv (x:Itm):nT x:=by
 have main:∀ N,∀ x:Itm,cnt x≤N→nT x:=by
  intro N
  induction N with
  | zero =>
   intro x hx
   have:0<cnt x:=by cases x;rw[cnt];omega
   omega
  | succ N ih =>
   intro x hx
   exact Zz x fun y hy=>ih y (by omega)
 exact main _ x (Nat.le_refl _)
end Go.Proofs.YtnlinmoiakgedaaGreatDoor
