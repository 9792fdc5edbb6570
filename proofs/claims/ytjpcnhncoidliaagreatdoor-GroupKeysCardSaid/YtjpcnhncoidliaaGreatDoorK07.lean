/- squeezed. Walks: the references' Copy, List, -/
import Derived.Test.YtjpcnhncoidliaaGreatDoorK06
import Derived.OwnWalk
import Derived.BigQuiet
set_option linter.unusedVariables false
set_option linter.unusedSimpArgs false
set_option maxRecDepth 100000
set_option maxHeartbeats 6400000
namespace Go.Proofs.YtjpcnhncoidliaaGreatDoor
open Go.RowKit
theorem IsItem.build {H:Snap}{x:Itm}{ba:Option Addr}{bc:Nat}{ia:Option Addr}{ic:Nat}(hk : -9223372036854775808≤x.kind∧x.kind≤9223372036854775807) (hn:x.n<18446744073709551616) (hb:IsBytes H ba bc x.bytes)
  (h1:x.items.length≤ic) (h2:ic≤9223372036854775807) (he:0<x.items.length→∃ b off,ia=some ⟨b,off,none⟩∧IsElems H b off x.items):IsItem H ba bc ia ic x:=by
 cases x
 rw[IsItem]
 exact⟨⟨hk.1,hk.2,hn,h1,h2⟩,hb,he⟩
def kj (x:Itm):Prop:=∀ (H:Snap) (k n:Int) (ba:Option Addr) (bl bc:Nat) (ia:Option Addr) (il ic:Nat) (w:World),Modest x→ItemA H k n ba bl bc ia il ic x→Holds w H→
 Calls Tryz.prog 63 #[.agg #[.int .i64 k,.int .u64 n,.slice ba bl bc,.slice ia il ic]] w fun e w'=>∃ v,e=.returned v∧Gives w H x v w'
theorem Vm (x:Itm) (ih:∀ y:Itm,cnt y<cnt x→kj y):kj x:=by
 intro H k n ba bl bc ia il ic w hm hx hH
 obtain⟨rfl,rfl,rfl,rfl,mh⟩:=hx.eqs_;have HX:=Hh mh;have HM:=Hh hm;have rS:=hm.parts;have hB:=((Blk.new w 78 #[.int .i64 x.kind,.int .u64 x.n,.slice ba x.bytes.length bc,.slice ia x.items.length ic]).alloc zO).drew;have hT:=(Blk.new (w.alloc (zH x ba bc ia ic)) 78 #[.int .i64 0,.int .u64 0,.slice none 0 0,.slice none 0 0]).drew
 simp only[zW]at hT
 have hb:=((zl w (zH x ba bc ia ic)).alloc (by simp) zO).drew;have zA:Holds ((w.alloc (zH x ba bc ia ic)).alloc zO).drew H:=((hH.alloc _).alloc _).drew;have rC:x.items.length≤9223372036854775807:=by omega
 have rM:x.bytes.length≤1099511627776:=rS.1;clear hx mh hm rS;go_enter Tryz.func63,Tryz.ntmps63
 go_upto_region 1 with fail
 go_cut [3] (fun s3 wx=>∃ N BA BC H1,s3=.pointer (some ⟨N,0,none⟩)∧Blk wx N 78 #[.int .i64 x.kind,.int .u64 x.n,.slice BA x.bytes.length BC,.slice none 0 0]∧Blk wx w.heap.size 78 #[.int .i64 x.kind,.int .u64 x.n,.slice ba x.bytes.length bc,.slice ia x.items.length ic]∧
  Blk wx (w.heap.size+1) 78 #[.int .i64 0,.int .u64 0,.slice none 0 0,.slice none 0 0]∧Grows w H wx H1∧IsBytes H1 BA BC x.bytes∧H1 N=none∧H1 (w.heap.size+1)=none∧w.heap.size+1<N)
 case first =>
  refine zn 9 (fun w'=>w'.cell? ⟨w.heap.size,0,none⟩=some (.int .i64 x.kind)∧w'.cell? ⟨w.heap.size,1,none⟩=some (.int .u64 x.n)∧w'.cell? ⟨w.heap.size,2,none⟩=some (.slice ba x.bytes.length bc)) (by kernel_rfl) (⟨hB.cell 0 rfl,hB.cell 1 rfl,hB.cell 2 rfl⟩) (fun zy=>?_)
  refine Tk 0 rfl zy ?_
  refine Tk 1 rfl zy ?_
  refine Tk 2 rfl zy ?_
  refine Tk 3 rfl zy ?_
  refine Tk 4 rfl zy ?_
  refine Tk 5 rfl zy ?_
  refine Ways.two (i:=6) (j:=8) rfl rfl (by kernel_rfl) (fun K hK=>?_) (fun K hK=>?_)
  ·rw[if_pos (by rfl)]
   refine wD (.const (.slice none 0 0)) (.tmp 12) rfl _ (.slice none 0 0) [] rfl (OwnB.nil _ _) ba _ bc x.bytes rfl rfl (Src.of_row HX.out.bytes.row zA) (by simpa using rM) (Nat.le_refl _) fun v' w5 hO hg rL=>?_
   rw[List.nil_append]at hO;have lS:=yT (by simpa [Value.ownBlock] using hg);obtain⟨BA,BC,rfl,_⟩:=hO.form
   try have xq:∀ q,(Value.slice BA x.bytes.length BC).ownBlock=some q→q≠w.heap.size+1+1:=fun q hq e=>by have h1:=(hO.lt q hq).1;have h2:=hP.lt;(try simp only[ql,zW]at h1 h2);omega
   have tl:∀ q,(Value.slice BA x.bytes.length BC).ownBlock=some q→w.heap.size+1<q:=fun q hq=>by have h1:=(hO.lt q hq).1;have h2:=hT.lt;(try simp only[ql,zW]at h1 h2);omega
   have hB:=hB.below lS;have hT:=hT.below lS
   try have hP:=hP.below lS
   have hb:=hb.trans (lS.mono hb.size);have zA:=zA.below lS (Nat.le_refl _)
   refine Ko hK ?_ fun zy=>?_
   ·exact⟨hB.cell 0 rfl,hB.cell 1 rfl,hB.cell 2 rfl⟩
   clear hK K
   refine Tk 7 rfl zy ?_
   refine To 8 rfl fun K hK=>?_
   go_simp
   have hP:=kT hb 78 #[.int .i64 0,.int .u64 0,.slice none 0 0,.slice none 0 0]
   try have xq:∀ q,(Value.slice BA x.bytes.length BC).ownBlock=some q→q≠w5.heap.size:=fun q hq e=>by have h1:=(hO.lt q hq).2;omega
   have KT:=hT.lt
   try simp only[ql,zW]at hP KT
   have hB:=hB.alloc zO;have hT:=hT.alloc zO
   try have hO:=hO.alloc zO
   have zA:=zA.alloc zO;have hb:=hb.alloc hb.size zO
   refine Ko hK ?_ fun zy=>?_
   ·exact⟨hB.cell 0 rfl,hB.cell 1 rfl,hB.cell 2 rfl⟩
   clear hK K
   refine To 9 rfl fun K hK=>?_
   rw[if_pos (by rfl)]
   refine zF _ _ _ rfl _ _ rfl rfl _ _ hP zp rfl (vR _ _ _ _ rfl rfl rfl rfl) fun w6 hP hg6=>?_
   have hB:=hB.gr hg6 (by omega);have hT:=hT.gr hg6 (by omega);have hb:=hb.grown hg6 hb.size (by rintro q ⟨⟩;omega);have zA:=zA.grown hg6 (by rintro q ⟨⟩;exact hH.none_of_ge (by omega));have hO:=hO.kept hg6 (by cases hv:(Value.slice BA x.bytes.length BC).ownBlock with | none=>exact .inl rfl | some q=>exact .inr (fun e=>by injection e with e;exact xq q hv e))
   refine Kz hK ?_
   clear hK K
   refine Wd ?_
   obtain⟨H1,Zg,J0,rN,qL,oM⟩:=hO.snap zA (fun q hq=>hH.none_of_ge (by have:=tl q (by cases BA <;> simp_all [Value.ownBlock]);omega))
   have SE:∀ q,w.heap.size≤q→(∀ q',(Value.slice BA x.bytes.length BC).ownBlock=some q'→q'≠q)→H1 q=none:=fun q hq hd=>by
    cases dg:H1 q with
    | none=>rfl
    | some o =>
    rcases rN q o dg with h | h
    ·rw[hH.none_of_ge hq]at h;cases h
    exact absurd rfl (hd q (by cases BA <;> simp_all [Value.ownBlock]))
   go_wp2_with fail
   go_meet
   exact⟨_,_,_,H1,rfl,hP,hB,hT,⟨hb,Zg,J0,fun b o zP=>(rN b o zP).imp id fun h=>by have:=tl b (by cases BA <;> simp_all [Value.ownBlock]);omega⟩,oM,SE _ (by omega) (fun q' cH=>xq q' cH),SE _ (by omega) (fun q' cH=>by have:=tl q' cH;omega),by omega⟩
  go_simp
  have hP:=kT hb 78 #[.int .i64 0,.int .u64 0,.slice none 0 0,.slice none 0 0]
  try have xq:∀ q,(Value.slice BA x.bytes.length BC).ownBlock=some q→q≠w5.heap.size:=fun q hq e=>by have h1:=(hO.lt q hq).2;omega
  have KT:=hT.lt
  try simp only[ql,zW]at hP KT
  have hB:=hB.alloc zO;have hT:=hT.alloc zO
  try have hO:=hO.alloc zO
  have zA:=zA.alloc zO;have hb:=hb.alloc hb.size zO
  refine Ko hK ?_ fun zy=>?_
  ·exact⟨hB.cell 0 rfl,hB.cell 1 rfl,hB.cell 2 rfl⟩
  clear hK K
  refine To 6 rfl fun K hK=>?_
  rw[if_pos (by rfl)]
  refine wD (.const (.slice none 0 0)) (.tmp 12) rfl _ (.slice none 0 0) [] rfl (OwnB.nil _ _) ba _ bc x.bytes rfl rfl (Src.of_row HX.out.bytes.row zA) (by simpa using rM) (Nat.le_refl _) fun v' w5 hO hg rL=>?_
  rw[List.nil_append]at hO;have lS:=yT (by simpa [Value.ownBlock] using hg);obtain⟨BA,BC,rfl,_⟩:=hO.form
  try have xq:∀ q,(Value.slice BA x.bytes.length BC).ownBlock=some q→q≠w.heap.size+1+1:=fun q hq e=>by have h1:=(hO.lt q hq).1;have h2:=hP.lt;(try simp only[ql,zW]at h1 h2);omega
  have tl:∀ q,(Value.slice BA x.bytes.length BC).ownBlock=some q→w.heap.size+1<q:=fun q hq=>by have h1:=(hO.lt q hq).1;have h2:=hT.lt;(try simp only[ql,zW]at h1 h2);omega
  have hB:=hB.below lS;have hT:=hT.below lS
  try have hP:=hP.below lS
  have hb:=hb.trans (lS.mono hb.size);have zA:=zA.below lS (Nat.le_refl _)
  refine Ko hK ?_ fun zy=>?_
  ·exact⟨hB.cell 0 rfl,hB.cell 1 rfl,hB.cell 2 rfl⟩
  clear hK K
  refine Tk 7 rfl zy ?_
  refine To 9 rfl fun K hK=>?_
  rw[if_pos (by rfl)]
  refine zF _ _ _ rfl _ _ rfl rfl _ _ hP zp rfl (vR _ _ _ _ rfl rfl rfl rfl) fun w6 hP hg6=>?_
  have hB:=hB.gr hg6 (by omega);have hT:=hT.gr hg6 (by omega);have hb:=hb.grown hg6 hb.size (by rintro q ⟨⟩;omega);have zA:=zA.grown hg6 (by rintro q ⟨⟩;exact hH.none_of_ge (by omega));have hO:=hO.kept hg6 (by cases hv:(Value.slice BA x.bytes.length BC).ownBlock with | none=>exact .inl rfl | some q=>exact .inr (fun e=>by injection e with e;exact xq q hv e))
  refine Kz hK ?_
  clear hK K
  refine Wd ?_
  obtain⟨H1,Zg,J0,rN,qL,oM⟩:=hO.snap zA (fun q hq=>hH.none_of_ge (by have:=tl q (by cases BA <;> simp_all [Value.ownBlock]);omega))
  have SE:∀ q,w.heap.size≤q→(∀ q',(Value.slice BA x.bytes.length BC).ownBlock=some q'→q'≠q)→H1 q=none:=fun q hq hd=>by
   cases dg:H1 q with
   | none=>rfl
   | some o =>
   rcases rN q o dg with h | h
   ·rw[hH.none_of_ge hq]at h;cases h
   exact absurd rfl (hd q (by cases BA <;> simp_all [Value.ownBlock]))
  go_wp2_with fail
  go_meet
  exact⟨_,_,_,H1,rfl,hP,hB,hT,⟨hb,Zg,J0,fun b o zP=>(rN b o zP).imp id fun h=>by have:=tl b (by cases BA <;> simp_all [Value.ownBlock]);omega⟩,oM,SE _ (by omega) (fun q' cH=>xq q' cH),SE _ (by omega) (fun q' cH=>by have:=tl q' cH;omega),by omega⟩
 case rest =>
 clear hB hT hb zA;obtain⟨N,BA,BC,H1,rfl,hP,hB,hT,um,oM,oY,oQ,KT⟩:=hcut;have c3:=hB.cell 3 rfl;have Bf:=hP.lt;have yp:=OwnI.nil wc (N+1) H1;clear hB;go_wp2_with fail
 go_loopw [4,18] (fun v4 v18 wr=>∃ (j:Nat) (Hr:Snap) (VA:Option Addr) (vc vn:Nat),j≤x.items.length∧v18=.int .i64 j∧v4=.slice VA vn vc∧vn=(x.items.take j).length∧Grows w H wr Hr∧H1.le Hr∧OwnI wr (N+1) (.slice VA vn vc) Hr (x.items.take j)∧
  Blk wr N 78 #[.int .i64 x.kind,.int .u64 x.n,.slice BA x.bytes.length BC,.slice none 0 0]∧Blk wr (w.heap.size+1) 78 #[.int .i64 0,.int .u64 0,.slice none 0 0,.slice none 0 0]∧Hr N=none∧Hr (w.heap.size+1)=none∧(∀ q,(Value.slice VA vn vc).ownBlock=some q→Hr q=none)) (fun _ v18 _=>x.items.length-(intOf v18).toNat)
 case atStart=>exact⟨0,H1,_,_,_,Nat.zero_le _,rfl,rfl,rfl,um,Snap.le.refl _,yp,hP,hT,oY,oQ,by intro q hq;simp[Value.ownBlock]at hq⟩
 case round =>
 clear hP hT um oY oQ yp;obtain⟨j,Hr,VA,vc,vn,hj,rfl,rfl,mg,ee,tH,vf,KV,qg,Ig,uU,lY⟩:=hrel;have HV:=Hh mg;clear mg
 by_cases yy:j<x.items.length
 ·obtain⟨ib,io,qI,vI⟩:=HX.out.items (by omega);obtain⟨eba,ebc,eia,eic,q0,q1,q2,q3,qh⟩:=vI.get j yy;subst qI;have p0:=(ee.holds.mono ee.le).cell q0;have p1:=(ee.holds.mono ee.le).cell q1;have p2:=(ee.holds.mono ee.le).cell q2;have p3:=(ee.holds.mono ee.le).cell q3;have yY:=ee.alloc (zH x.items[j] eba ebc eia eic);have tl:=vf.alloc (zH x.items[j] eba ebc eia eic);have Pp:=KV.alloc (zH x.items[j] eba ebc eia eic);have sM:=qg.alloc (zH x.items[j] eba ebc eia eic);have IH:=Hh (ih x.items[j] (wu x j yy) Hr _ _ eba _ ebc eia _ eic _ (HM.out.parts.2.2.get j yy) (qh.mono ee.le).arg yY.holds);have HT:=Hh (show x.items.take (j+1)=x.items.take j++[x.items[j]] from List.take_succ_eq_append_getElem yy);have Fx:=HM.out.parts.2.1
  generalize x.items[j]'yy=y at *
  clear q0 q1 q2 q3 vI qh vf;go_wp2_with fail
  refine IH.out.mono ?_
  rintro e w6 ⟨v6,rfl,ja,jb,jc,jd,H6,rfl,zK,pW⟩
  have qf:=((tl.below zK.below).mono zK.le).alloc (.cells (zT y ja jb jc jd).toArray 78);have uw:=(yY.trans zK).alloc (.cells (zT y ja jb jc jd).toArray 78);have Pq:=(Pp.below zK.below).alloc (.cells (zT y ja jb jc jd).toArray 78);have yQ:=(sM.below zK.below).alloc (.cells (zT y ja jb jc jd).toArray 78);have pD:∀ q,(Value.slice VA vn vc).ownBlock=some q→H6 q=none:=fun q hq=>zK.none (lY q hq) (tl.lt q hq).2
  have Db:=zK.none Ig Pp.lt;have Ov:=zK.none uU sM.lt;have Gy:=tH.trans zK.le;clear p0 p1 p2 p3 IH ee KV qg yY zK Pp sM;go_wp2_with (at_builtin;refine zf ?_)
  unfold zU
  obtain rfl:=HV.out
  refine vv rfl (.tmp 22) (.tmp 25) rfl (N+1) (.slice VA _ vc) H6 _ rfl qf _ 1 _ (zT y ja jb jc jd) [y] rfl rfl (ItemsC.one pW) (Src.new _ _ _ _ rfl _ rfl) (by rw[List.length_take];simp;omega) (by have:=Pq.lt;simp only[zW]at this⊢;omega) fun v' w7 wY hg7 hat7=>?_
  obtain⟨VA',vc',rfl,_⟩:=wY.form;have ra:=uw.grownRow pD (fun q hq=>by have:=(qf.lt q hq).1;omega) hg7;have QY:=Pq.grown hg7 (fun e=>by have:=(qf.lt N e).1;omega);have xx:=yQ.grown hg7 (fun e=>by have:=(qf.lt _ e).1;omega)
  have fN:∀ q,(Value.slice VA' (x.items.take j++[y]).length vc').ownBlock=some q→H6 q=none:=fun q hq=>by
   rcases hat7 with h | ⟨g',h1,h2⟩
   ·exact pD q (by rw[← h,hq])
   rw[hq]at h1;injection h1 with h1
   subst h1
   exact uw.hidden h2
  have Xw:(x.items.take j++[y]).length=j+1:=by rw[← HT.out,List.length_take];omega
  rw[Xw]at wY fN;rw[Xw];rw[← HT.out]at wY;clear Xw;have fE:(j:Int)+1≤9223372036854775807:=by omega
  clear qf hg7 hat7 pD uw Pq yQ pW;go_wp2_with fail
  go_roundw
  case rel=>exact⟨j+1,H6,VA',vc',_,by omega,by go_num,rfl,by rw[List.length_take];omega,ra,Gy,wY,QY,xx,Db,Ov,fN⟩
  case measure=>simp[intOf];omega
 have sX:j=x.items.length:=by omega
 subst sX;rw[List.take_length]at vf;have Ct:Hid (vn=x.items.length):=by have:=HV.out;rw[List.take_length]at this;exact this
 clear HV;obtain⟨H8,df,Ns,pU,Sx,mN,mO,UZ⟩:=vf.snap ee.holds (fun g hg=>lY g (by cases VA <;> simp_all [Value.ownBlock]));have xe:∀ b,VA.map (·.block)=some b→N+1≤b:=fun b hb=>(vf.lt b (by cases VA <;> simp_all [Value.ownBlock])).1
 have iF:Grows w H wr H8:=⟨ee.below,ee.le.trans df,Ns,fun b o hb=>by
  rcases pU b o hb with h | h
  ·exact ee.fresh b o h
  exact .inr (by have:=xe b h;omega)⟩
 have UJ:∀ q,q≤N→Hr q=none→H8 q=none:=fun q hq h0=>by
  cases h8:H8 q with
  | none=>rfl
  | some o =>
  rcases pU q o h8 with h | h
  ·rw[h0]at h;cases h
  have:=xe q h;omega
 have t6:=HX.out.bounds;have HI:=Hh (IsItem.build (x:=x) (H:=H8) (ba:=BA) (bc:=BC) (ia:=VA) (ic:=vc) ⟨t6.1,t6.2.1⟩ t6.2.2.1 (oM.mono (tH.trans df)) mN mO UZ);have Dc:=UJ N (Nat.le_refl _) Ig;have fM:=UJ (w.heap.size+1) (by omega) uU;clear t6 UZ mN mO pU vf ee lY xe UJ Ig uU Sx;go_wp2_with (with_reducible refine zx ?_)
 refine zr rfl _ _ _ rfl rfl N 3 (.slice VA vn vc) rfl rfl _ _ KV ol (by simp) rfl fun w9 hP9 hg9=>?_
 have wL:=qg.gr hg9 (by omega);have tZ:=iF.grownOwn Dc (by omega) hg9;have r0:=hP9.cell 0 rfl;have r1:=hP9.cell 1 rfl;have r2:=hP9.cell 2 rfl;have r3:=hP9.cell 3 rfl;clear KV qg iF;go_wp2_with (with_reducible refine zx ?_)
 refine stI wL fun w10 tJ u4=>?_
 have wZ:=tZ.grownOwn fM (by omega) u4;go_wp2_with fail
 refine xS rfl rfl tJ rfl rfl zp rfl ?_
 obtain rfl:=Ct.out
 exact⟨_,rfl,BA,BC,VA,vc,H8,rfl,wZ,HI.out⟩
theorem bL (x:Itm):kj x:=by
 have main:∀ N,∀ x:Itm,cnt x≤N→kj x:=by
  intro N
  induction N with
  | zero =>
   intro x hx
   have:0<cnt x:=by cases x;rw[cnt];omega
   omega
  | succ N ih =>
  intro x hx
  exact Vm x fun y hy=>ih y (by omega)
 exact main _ x (Nat.le_refl _)
structure IsRowI (H:Snap) (A:Option Addr) (c:Nat) (l:List Itm):Prop where
 le:l.length≤c
 max:c≤9223372036854775807
 elems:0<l.length→∃ b off,A=some ⟨b,off,none⟩∧IsElems H b off l
theorem IsRowI.item {H:Snap}{A:Option Addr}{c:Nat}{l:List Itm}(h:IsRowI H A c l) (k:Int) (hk:0≤k∧k≤8) (n:Nat) (hn:n<18446744073709551616):IsItem H none 0 A c (.mk k n [] l):=by
 rw[IsItem]
 exact⟨⟨by omega,by omega,hn,h.le,h.max⟩,IsBytes.nil _,h.elems⟩
theorem gf {H:Snap}{A:Option Addr}{c:Nat}{l:List Itm}(hr:IsRowI H A c l) (hm:ModestL l) (hl:l.length≤1099511627776) (w:World) (hH:Holds w H) :
  Calls Tryz.prog 43 #[.slice A l.length c] w fun e w'=>∃ v,e=.returned v∧Gives w H (.mk 4 0 [] l) v w':=by
 have hT:=Blk.new w 78 #[.int .i64 0,.int .u64 0,.slice none 0 0,.slice none 0 0];have hG:=(Grows.refl hH).alloc zO;have C:=Hh (bL (.mk 4 0 [] l) H 4 0 none 0 0 A l.length c _ (by rw[Modest];exact⟨by simp,hl,hm⟩) (hr.item 4 (by omega) 0 (by omega)).arg hG.holds);have zG:H w.heap.size=none:=hH.none_of_ge (Nat.le_refl _);go_enter Tryz.func43,Tryz.ntmps43
 go_wp2_with fail
 refine C.out.mono ?_
 rintro e w2 ⟨v,rfl,ba,bc,ia,ic,H2,rfl,yY,nC⟩
 have sM:=hT.below yY.below;have iF:=hG.trans yY;have oQ:=yY.none zG hT.lt;clear C hG yY;go_wp2_with (with_reducible refine zx ?_)
 refine stI sM fun w3 un hg3=>?_
 have xf:=iF.grownOwn oQ (Nat.le_refl _) hg3;go_wp2_with fail
 refine xS rfl rfl un rfl rfl zp rfl ?_
 exact⟨_,rfl,ba,bc,ia,ic,H2,rfl,xf,nC⟩
theorem qR:∀ a b:List UInt8,Lib.compareBytes a b=0↔a=b
 | [],[]=>by rw[Lib.compareBytes];simp
 | [],y::b=>by rw[Lib.compareBytes];simp
 | x::a,[]=>by rw[Lib.compareBytes];simp
 | x::a,y::b=>by
  rw[Lib.compareBytes]
  by_cases h1:x<y
  ·rw[if_pos h1];have:x≠y:=by rintro rfl;exact UInt8.lt_irrefl x h1
   simp[this]
  rw[if_neg h1]
  by_cases h2:y<x
  ·rw[if_pos h2];have:x≠y:=by rintro rfl;exact UInt8.lt_irrefl x h2
   simp[this]
  rw[if_neg h2];have e:x=y:=UInt8.toNat_inj.1 (by rw[UInt8.lt_iff_toNat_lt]at h1 h2;omega);subst e
  simp[qR a b]
theorem nK (w:World) (A B:Option Addr) (a b:List UInt8) (n m c d:Nat) (hn:n=a.length) (hm:m=b.length) (hna:n≤1099511627776) (hmb:m≤1099511627776) (ha:Src w A (a.map zg)) (hb:Src w B (b.map zg)) :
  Calls Tryz.prog 12 #[.slice A n c,.slice B m d] w fun e w'=>e=.returned (.bool (decide (a=b)))∧Below w.heap.size w w':=by
 have CM:=Hh (vT w A B a b n m c d hn hm hna hmb ha hb)
 by_cases hab:a=b
 ·have D:Hid (decide (a=b)=true):=decide_eq_true hab;have hz:Lib.compareBytes a b=0:=(qR a b).2 hab;have ZY:n=m:=by rw[hn,hm,hab]
  rw[hz]at CM;clear hz hab ha hb hn hm hna hmb;subst ZY;go_enter Tryz.func12,Tryz.ntmps12
  go_wp2_with fail
  refine CM.out.mono ?_
  rintro e w1 ⟨rfl,zP⟩
  go_wp2_with fail
  go_ret
  exact⟨by rw[D.out];try rfl,zP⟩
 have D:Hid (decide (a=b)=false):=decide_eq_false hab;have hz:Lib.compareBytes a b≠0:=fun h=>hab ((qR a b).1 h)
 obtain⟨q,hq⟩:∃ q,Lib.compareBytes a b=q:=⟨_,rfl⟩
 rw[hq]at CM hz;have z0:(q==0)=false:=by simpa using hz
 have z1:(q=0)=False:=eq_false hz;clear hz hq hab ha hb hn hm hna hmb;go_enter Tryz.func12,Tryz.ntmps12
 go_wp2_with fail
 refine CM.out.mono ?_
 rintro e w1 ⟨rfl,zP⟩
 go_wp2_with fail
 go_ret
 exact⟨by rw[D.out];try rfl,zP⟩
def kk (x:Itm):Prop:=∀ (y:Itm) (H:Snap) (k n:Int) (ba:Option Addr) (bl bc:Nat) (ia:Option Addr) (il ic:Nat) (k' n':Int) (ba':Option Addr) (bl' bc':Nat) (ia':Option Addr) (il' ic':Nat) (w:World),
 Modest x→Modest y→ItemA H k n ba bl bc ia il ic x→ItemA H k' n' ba' bl' bc' ia' il' ic' y→Holds w H→
 Calls Tryz.prog 91 #[.agg #[.int .i64 k,.int .u64 n,.slice ba bl bc,.slice ia il ic],.agg #[.int .i64 k',.int .u64 n',.slice ba' bl' bc',.slice ia' il' ic']] w fun e w'=>e=.returned (.bool (sR x y))∧Below w.heap.size w w'
theorem TZ (x y:Itm):sR x y=(x.kind==y.kind&&x.n==y.n&&x.bytes==y.bytes&&tW x.items y.items):=by cases x;cases y;rw[sR];rfl
theorem Wc:∀ l m:List Itm,tW l m=true→l.length=m.length:=fun l m h=>by rw[js]at h;rw[h]
theorem We (x:Itm) (ih:∀ z:Itm,cnt z<cnt x→kk z):kk x:=by
 intro y H k n ba bl bc ia il ic k' n' ba' bl' bc' ia' il' ic' w XN hmy hx hy hH
 obtain⟨rfl,rfl,rfl,rfl,mh⟩:=hx.eqs_;obtain⟨rfl,rfl,rfl,rfl,Qo⟩:=hy.eqs_;have HX:=Hh mh;have HY:=Hh Qo;have Cc:=Hh XN;have Jv:=Hh hmy;have wJ:=mh.bounds;have iI:=Qo.bounds;have qM:=(zl w (zH x ba bc ia ic)).alloc (by simp) (zH y ba' bc' ia' ic');have rZ:=(Blk.new w 78 #[.int .i64 x.kind,.int .u64 x.n,.slice ba x.bytes.length bc,.slice ia x.items.length ic]).alloc (zH y ba' bc' ia' ic');have vE:=Blk.new (w.alloc (zH x ba bc ia ic)) 78 #[.int .i64 y.kind,.int .u64 y.n,.slice ba' y.bytes.length bc',.slice ia' y.items.length ic']
 simp only[zW]at vE
 have Sl:Holds ((w.alloc (zH x ba bc ia ic)).alloc (zH y ba' bc' ia' ic')) H:=(hH.alloc _).alloc _;have C:=Hh (vT _ ba ba' x.bytes y.bytes x.bytes.length y.bytes.length bc bc' rfl rfl (XN.parts.1) (hmy.parts.1) (Src.of_row mh.bytes.row Sl) (Src.of_row Qo.bytes.row Sl));have ek:x.items.length≤9223372036854775807:=by omega
 have VL:y.items.length≤9223372036854775807:=by omega
 have VR:=Hh wJ.2.2.1;have oJ:=Hh iI.2.2.1;have E0:=TZ x y;clear hx hy mh Qo wJ iI XN hmy
 by_cases h1:x.kind=y.kind
 case neg =>
  have E:Hid (sR x y=false):=by rw[Hid,E0];simp[h1]
  have b1:(x.kind != y.kind)=true:=by simp[h1]
  have p1:(x.kind=y.kind)=False:=eq_false h1;clear h1 E0;go_enter Tryz.func91,Tryz.ntmps91
  go_wp2_with fail
  go_ret
  exact⟨by rw[E.out];rfl,qM⟩
 have b1:(x.kind != y.kind)=false:=by simp[h1]
 have p1:(x.kind=y.kind)=True:=eq_true h1;have e1:(x.kind==y.kind)=true:=by simp[h1]
 rw[e1]at E0;clear h1 e1
 by_cases h2:x.n=y.n
 case neg =>
  have E:Hid (sR x y=false):=by rw[Hid,E0];simp[h2]
  have b2:((x.n:Int) != (y.n:Int))=true:=by simp;omega
  have p2:(x.n=y.n)=False:=eq_false h2;clear h2 E0;go_enter Tryz.func91,Tryz.ntmps91
  go_wp2_with fail
  go_ret
  exact⟨by rw[E.out];rfl,qM⟩
 have b2:((x.n:Int) != (y.n:Int))=false:=by simp;omega
 have p2:(x.n=y.n)=True:=eq_true h2;have e2:(x.n==y.n)=true:=by simp[h2]
 rw[e2]at E0;clear h2 e2;obtain⟨cmp,tz⟩:∃ cmp,Lib.compareBytes x.bytes y.bytes=cmp:=⟨_,rfl⟩
 have hz:=qR x.bytes y.bytes;rw[tz]at C hz;clear tz
 by_cases h3:x.bytes=y.bytes
 case neg =>
  have E:Hid (sR x y=false):=by rw[Hid,E0];simp[h3]
  have h0:cmp≠0:=fun h=>h3 (hz.1 h)
  have b3:(cmp != 0)=true:=by simp[h0]
  have p3:(cmp=0)=False:=eq_false h0;clear h3 E0 hz h0;go_enter Tryz.func91,Tryz.ntmps91
  go_wp2_with fail
  refine C.out.mono ?_
  rintro e w1 ⟨rfl,zP⟩
  have yX:=qM.trans (zP.mono qM.size);go_wp2_with fail
  go_ret
  exact⟨by rw[E.out];rfl,yX⟩
 have h0:=hz.2 h3;have e3:(x.bytes==y.bytes)=true:=by simp[h3]
 rw[e3]at E0;subst h0;clear hz h3 e3
 by_cases h4:x.items.length=y.items.length
 case neg =>
  have E:Hid (sR x y=false):=by
   rw[Hid,E0]
   cases hs:tW x.items y.items with
   | true=>exact absurd (Wc _ _ hs) h4
   | false=>rfl
  have b4:((x.items.length:Int) != (y.items.length:Int))=true:=by simp;omega
  have p4:(x.items.length=y.items.length)=False:=eq_false h4;clear h4 E0;go_enter Tryz.func91,Tryz.ntmps91
  go_wp2_with fail
  refine C.out.mono ?_
  rintro e w1 ⟨rfl,zP⟩
  have yX:=qM.trans (zP.mono qM.size);have IU:=rZ.below zP;have KL:=vE.below zP;have c3:=IU.cell 3 rfl;have d3:=KL.cell 3 rfl;go_wp2_with fail
  go_ret
  exact⟨by rw[E.out];rfl,yX⟩
 have b4:((x.items.length:Int) != (y.items.length:Int))=false:=by simp;omega
 have p4:(x.items.length=y.items.length)=True:=eq_true h4;have H4:=Hh h4;have E:Hid (sR x y=tW x.items y.items):=by rw[Hid,E0];rfl
 clear h4 E0;go_enter Tryz.func91,Tryz.ntmps91
 go_wp2_with fail
 refine C.out.mono ?_
 rintro e w1 ⟨rfl,zP⟩
 have yX:=qM.trans (zP.mono qM.size);have IU:=rZ.below zP;have KL:=vE.below zP;have c3:=IU.cell 3 rfl;have d3:=KL.cell 3 rfl;clear rZ vE zP qM C;go_wp2_with fail
 go_loopw [39] (fun v39 wr=>∃ j:Nat,j≤x.items.length∧v39=.int .i64 j∧tW (x.items.drop j) (y.items.drop j)=tW x.items y.items∧Below w.heap.size w wr∧Blk wr (w.heap.size+1) 78 #[.int .i64 y.kind,.int .u64 y.n,.slice ba' y.bytes.length bc',.slice ia' y.items.length ic']) (fun v39 _=>x.items.length-(intOf v39).toNat)
 case atStart=>exact⟨0,Nat.zero_le _,rfl,rfl,yX,KL⟩
 case round =>
 obtain⟨j,hj,rfl,hs,yE,DW⟩:=hrel;have HS:=Hh hs;clear hs c3 d3
 by_cases yy:j<x.items.length
 ·have PI:j<y.items.length:=by have:=H4.out;omega
  have xD:Holds wr H:=hH.below yE (Nat.le_refl _);obtain⟨ib,io,qI,vI⟩:=HX.out.items (by omega);obtain⟨jb,jo,Dv,Ls⟩:=HY.out.items (by omega);obtain⟨y1,y2,y3,y4,q0,q1,q2,q3,qh⟩:=vI.get j yy;obtain⟨z1,z2,z3,z4,s0,s1,s2,s3,V5⟩:=Ls.get j PI;subst qI Dv;have p0:=xD.cell q0;have p1':=xD.cell q1;have p2':=xD.cell q2;have p3:=xD.cell q3;have Bk:(j:Int)<y.items.length:=by omega
  have vz:tW (x.items.drop j) (y.items.drop j)=(sR x.items[j] y.items[j]&&tW (x.items.drop (j+1)) (y.items.drop (j+1))):=by rw[List.drop_eq_getElem_cons yy,List.drop_eq_getElem_cons PI,tW]
  have uL:=Hh (HS.out.symm.trans vz);have IH:=Hh (fun w1:World=>fun h1:Holds w1 H=>ih x.items[j] (wu x j yy) y.items[j] H _ _ y1 _ y2 y3 _ y4 _ _ z1 _ z2 z3 _ z4 w1 (Cc.out.parts.2.2.get j yy) (Jv.out.parts.2.2.get j PI) qh.arg V5.arg h1)
  generalize x.items[j]'yy=u at *
  generalize y.items[j]'PI=v at *
  have hT:=Blk.new wr 78 #[.int .i64 u.kind,.int .u64 u.n,.slice y1 u.bytes.length y2,.slice y3 u.items.length y4];have zA:=(xD.alloc (zH u y1 y2 y3 y4)).drew;have wJ:=(yE.alloc yE.size (zH u y1 y2 y3 y4)).drew;have IW:=(DW.alloc (zH u y1 y2 y3 y4)).drew;have iH:=hT.drew;clear vz vI Ls qh V5 q0 q1 q2 q3 hT;go_upto_region 6 with fail
  refine zn 7 (fun w'=>w'.cell? ⟨wr.heap.size,0,none⟩=some (.int .i64 u.kind)∧w'.cell? ⟨wr.heap.size,1,none⟩=some (.int .u64 u.n)∧w'.cell? ⟨wr.heap.size,2,none⟩=some (.slice y1 u.bytes.length y2)∧w'.cell? ⟨wr.heap.size,3,none⟩=some (.slice y3 u.items.length y4)∧w'.cell? ⟨w.heap.size+1,3,none⟩=some (.slice (some ⟨jb,jo,none⟩) y.items.length ic')∧w'.cell? ⟨jb,jo+j*4,none⟩=some (.int .i64 v.kind)∧w'.cell? ⟨jb,jo+j*4+1,none⟩=some (.int .u64 v.n)∧w'.cell? ⟨jb,jo+j*4+2,none⟩=some (.slice z1 v.bytes.length z2)∧w'.cell? ⟨jb,jo+j*4+3,none⟩=some (.slice z3 v.items.length z4)) (by kernel_rfl) (⟨iH.cell 0 rfl,iH.cell 1 rfl,iH.cell 2 rfl,iH.cell 3 rfl,IW.cell 3 rfl,zA.cell s0,zA.cell s1,zA.cell s2,zA.cell s3⟩) (fun zy=>?_)
  refine Tk 0 rfl zy ?_
  refine Tk 1 rfl zy ?_
  refine Tk 2 rfl zy ?_
  refine Tk 3 rfl zy ?_
  refine Tk 4 rfl zy ?_
  refine Tk 5 rfl zy ?_
  refine To 6 rfl fun K hK=>?_
  go_simp
  refine(IH.out _ zA).mono ?_
  rintro e w6 ⟨rfl,y9⟩
  have Pl:=zA.below y9 (Nat.le_refl _);have xU:=wJ.trans (y9.mono wJ.size);have FG:=IW.below y9;have yQ:=iH.below y9
  refine Ko hK ?_ fun zy=>?_
  ·exact⟨yQ.cell 0 rfl,yQ.cell 1 rfl,yQ.cell 2 rfl,yQ.cell 3 rfl,FG.cell 3 rfl,Pl.cell s0,Pl.cell s1,Pl.cell s2,Pl.cell s3⟩
  clear hK K
  refine To 7 rfl fun K hK=>?_
  go_simp
  refine Kz hK ?_
  clear hK K
  refine Wd ?_
  clear zy p0 p1' p2' p3 s0 s1 s2 s3 xD zA wJ IW iH yQ Pl y9
  cases hq:sR u v with
  | false =>
   have EE:Hid (tW x.items y.items=false):=by rw[Hid,uL.out,hq];rfl
   clear hq;go_wp2_with fail
   go_ret
   exact⟨by rw[E.out,EE.out];rfl,xU⟩
  | true =>
  have EE:Hid (tW (x.items.drop (j+1)) (y.items.drop (j+1))=tW x.items y.items):=by rw[Hid,uL.out,hq];rfl
  clear hq;go_wp2_with fail
  go_roundw
  case rel=>exact⟨j+1,by omega,by go_num,EE.out,xU,FG⟩
  case measure=>simp[intOf];omega
 have u9:j=x.items.length:=by omega
 subst u9;have EE:Hid (tW x.items y.items=true):=by rw[Hid,← HS.out,List.drop_length,H4.out,List.drop_length,tW]
 go_wp2_with fail
 go_ret
 exact⟨by rw[E.out,EE.out];rfl,yE⟩
theorem gg (x:Itm):kk x:=by
 have main:∀ N,∀ x:Itm,cnt x≤N→kk x:=by
  intro N
  induction N with
  | zero =>
   intro x hx
   have:0<cnt x:=by cases x;rw[cnt];omega
   omega
  | succ N ih=>exact fun x hx=>We x fun y hy=>ih y (by omega)
 exact main _ x (Nat.le_refl _)
def SrcR (w:World) (A:Option Addr) (ls:List (List UInt8)):Prop:=0<ls.length→∃ b off,A=some ⟨b,off,none⟩∧∀ j (hj:j<ls.length),∃ Aj cj,w.cell? ⟨b,off+j,none⟩=some (.slice Aj ls[j].length cj)∧Src w Aj (ls[j].map zg)
theorem tm (ls:List (List UInt8)) (k:Nat) (hk:k<ls.length):(ls.drop k).flatten=ls[k]++(ls.drop (k+1)).flatten:=by
 rw[List.drop_eq_getElem_cons hk,List.flatten_cons]
theorem OwnB.store_ {w:World}{base:Nat}{A:Option Addr}{n c:Nat}{l:List UInt8}(h:OwnB w base (.slice A n c) l) {k:Nat}(hk:k<l.length):∃ g cur,A=some ⟨g,0,none⟩∧base≤g∧Blk w g 5 cur∧k<cur.size∧
  ∀ (w':World) (x:UInt8),Blk w' g 5 (cur.setIfInBounds k (zg x))→OwnB w' base (.slice A n c) (l.set k x):=by
 rcases h.2 with ⟨hv,hz⟩ | ⟨g,cap,cur,hv,hb,hg,hc,hm,hcz,ht⟩
 ·omega
 cases hv
 refine⟨g,cur,rfl,hb,hg,by omega,fun w' x hB=>⟨by simp,.inr ⟨g,c,_,by simp,hb,hB,by simpa using hc,hm,by rw[Array.size_setIfInBounds,hcz], ?_⟩⟩⟩
 rw[Array.toList_setIfInBounds,List.length_set,List.take_set,ht,List.map_set]
theorem pK (m n:Int) (w:World) (oP:0≤m) (hm:m<8) (h0:0≤n) (h1:n<18446744073709551616) :
  Calls Tryz.prog 60 #[.int .u8 m,.int .u64 n] w fun e w'=>∃ r,e=.returned r∧Fresh w (zj m.toNat n.toNat) r w':=by
 obtain⟨m',ST⟩:=Int.eq_ofNat_of_zero_le oP;obtain⟨n',Fz⟩:=Int.eq_ofNat_of_zero_le h0;have HM:=Hh ST;have HN:=Hh Fz;have H1:=Hh h1;clear h1 ST Fz;go_enter Tryz.func60,Tryz.ntmps60
 go_wp2
 ·go_ret
  obtain rfl:=HM.out;obtain rfl:=HN.out;rw[Int.toNat_natCast,Int.toNat_natCast];have yy:(n':Int)<24:=by with_reducible assumption
  refine⟨_,rfl,Fresh.lit _ _ _ 1 ?_ ?_ ?_⟩
  ·rw[zi,if_pos (by omega)]
  ·have:=(wO m' n').2;omega
  rw[zj,if_pos (by omega)]
  simp only[List.map_cons,List.map_nil,vk]
  rw[lA m' n' (by omega) (by omega),Nat.mod_eq_of_lt (by omega)]
 ·go_ret
  obtain rfl:=HM.out;obtain rfl:=HN.out;rw[Int.toNat_natCast,Int.toNat_natCast];have iJ:(24:Int)≤n':=by with_reducible assumption
  have yy:(n':Int)<256:=by with_reducible assumption
  refine⟨_,rfl,Fresh.lit _ _ _ 2 ?_ ?_ ?_⟩
  ·rw[zi,if_neg (by omega),if_pos (by omega)]
  ·have:=(wO m' n').2;omega
  rw[zj,if_neg (by omega),if_pos (by omega)]
  simp only[List.map_cons,List.map_nil,vk]
  have e24':=lA m' 24 (by omega) (by omega);rw[show((24:Nat):Int)=24 from rfl]at e24';rw[e24',Nat.mod_eq_of_lt (by omega),Nat.mod_eq_of_lt (by omega)]
 ·go_ret
  obtain rfl:=HM.out;obtain rfl:=HN.out;rw[Int.toNat_natCast,Int.toNat_natCast];have iJ:(256:Int)≤n':=by with_reducible assumption
  have yy:(n':Int)<65536:=by with_reducible assumption
  refine⟨_,rfl,Fresh.lit _ _ _ 3 ?_ ?_ ?_⟩
  ·rw[zi,if_neg (by omega),if_neg (by omega),if_pos (by omega)]
  ·have:=(wO m' n').2;omega
  rw[zj,if_neg (by omega),if_neg (by omega),if_pos (by omega)]
  simp only[List.map_cons,List.map_nil,vk]
  have e24':=lA m' 25 (by omega) (by omega);rw[show((25:Nat):Int)=25 from rfl]at e24';rw[e24',Nat.mod_eq_of_lt (show m'*32+25<256 by omega),Nat.mod_eq_of_lt (show n'/256<256 by omega)];rfl
 ·go_ret
  obtain rfl:=HM.out;obtain rfl:=HN.out;rw[Int.toNat_natCast,Int.toNat_natCast];have iJ:(65536:Int)≤n':=by with_reducible assumption
  have yy:(n':Int)<4294967296:=by with_reducible assumption
  refine⟨_,rfl,Fresh.lit _ _ _ 5 ?_ ?_ ?_⟩
  ·rw[zi,if_neg (by omega),if_neg (by omega),if_neg (by omega),if_pos (by omega)]
  ·have:=(wO m' n').2;omega
  rw[zj,if_neg (by omega),if_neg (by omega),if_neg (by omega),if_pos (by omega)]
  simp only[List.map_cons,List.map_nil,vk]
  have e24':=lA m' 26 (by omega) (by omega);rw[show((26:Nat):Int)=26 from rfl]at e24';rw[e24',Nat.mod_eq_of_lt (show m'*32+26<256 by omega),Nat.mod_eq_of_lt (show n'/16777216<256 by omega)];rfl
 go_ret
 obtain rfl:=HM.out;obtain rfl:=HN.out;rw[Int.toNat_natCast,Int.toNat_natCast];have iJ:(4294967296:Int)≤n':=by with_reducible assumption
 have My:=H1.out
 refine⟨_,rfl,Fresh.lit _ _ _ 9 ?_ ?_ ?_⟩
 ·rw[zi,if_neg (by omega),if_neg (by omega),if_neg (by omega),if_neg (by omega)]
 ·have:=(wO m' n').2;omega
 rw[zj,if_neg (by omega),if_neg (by omega),if_neg (by omega),if_neg (by omega)]
 simp only[List.map_cons,List.map_nil,vk,be8,Nat.reduceMul,Nat.reduceSub,Nat.reducePow,List.nil_append,List.cons_append]
 have e27':=lA m' 27 (by omega) (by omega);rw[show((27:Nat):Int)=27 from rfl]at e27';rw[e27',Nat.mod_eq_of_lt (show m'*32+27<256 by omega),Nat.div_one];rfl
theorem o5 (n:Int) (h1 : -9223372036854775808≤n) (h2:n≤9223372036854775807) (w:World) :
  Calls Tryz.prog 38 #[.int .i64 n] w fun e w'=>∃ r,e=.returned r∧Fresh w (rJ n) r w':=by
 by_cases h0:n<0
 ·have HD:=Hh (fun w=>pK 1 (-1-n) w (by omega) (by omega) (by omega) (by omega));have K1:IntKind.u64.wrap (-1-n) = -1-n:=by rw[IntKind.wrap_u64];omega
  have K0:IntKind.i64.wrap (-1-n) = -1-n:=IntWalk.i64_in _ (by omega);have E:Hid (rJ n=zj 1 (-1-n).toNat):=by rw[Hid,rJ,if_pos h0]
  clear h1 h2;go_enter Tryz.func38,Tryz.ntmps38
  go_wp2_with fail
  refine(HD.out _).mono ?_
  rintro e w1 ⟨r,rfl,hf⟩
  go_wp2_with fail
  go_ret
  exact⟨_,rfl,by rw[E.out];exact hf⟩
 have hn:=Int.not_lt.1 h0;have HD:=Hh (fun w=>pK 0 n w (by omega) (by omega) (by omega) (by omega));have K1:IntKind.u64.wrap n=n:=by rw[IntKind.wrap_u64];omega
 have E:Hid (rJ n=zj 0 n.toNat):=by rw[Hid,rJ,if_neg h0]
 clear h1 h2;go_enter Tryz.func38,Tryz.ntmps38
 go_wp2_with fail
 refine(HD.out _).mono ?_
 rintro e w1 ⟨r,rfl,hf⟩
 go_wp2_with fail
 go_ret
 exact⟨_,rfl,by rw[E.out];exact hf⟩
theorem qV {A:Option Addr}{n c:Nat}{l:List UInt8}(hn:n=l.length) (hl:l.length≤1099511627000) (w:World) (hs:Src w A (l.map zg)) :
  Calls Tryz.prog 39 #[.slice A n c] w fun e w'=>∃ r,e=.returned r∧Fresh w (vX l) r w':=by
 have HD:=Hh (fun w=>pK 2 (n:Int) w (by omega) (by omega) (by omega) (by omega));have K1:IntKind.u64.wrap (n:Int)=(n:Int):=by rw[IntKind.wrap_u64];omega
 have HN:=Hh (And.intro hn hl);clear hn hl;go_enter Tryz.func39,Tryz.ntmps39
 go_wp2_with fail
 refine(HD.out _).mono ?_
 rintro e w1 ⟨r,rfl,hf⟩
 have yp:=hf.own;obtain⟨RA,rc,rfl,_⟩:=yp.form;have ug:=hs.below hf.2;have HF:=Hh hf.2
 have HL:Hid ((zj (2:Int).toNat (n:Int).toNat).length+l.length≤1099511627776):=by
  have:=(wO (2:Int).toNat (n:Int).toNat).2;have:=HN.out.2;rw[Hid];omega
 clear hf;go_wp2_with (at_builtin;refine zf ?_)
 refine zv rfl (.tmp 6) (.tmp 7) rfl w.heap.size _ _ rfl yp A _ c l rfl HN.out.1 ug (by have:=(wO (2:Int).toNat (n:Int).toNat).2;have:=HN.out.2;omega) HF.out.size fun v' w2 tl hg2 _=>?_
 have yz:=HF.out.grown hg2 HF.out.size (fun q hq=>(yp.lt q hq).1)
 have E:Hid (zj (2:Int).toNat (n:Int).toNat++l=vX l):=by
  rw[Hid,vX,HN.out.1];rfl
 rw[E.out]at tl;clear yp ug hs hg2;go_wp2_with fail
 go_ret
 exact⟨_,rfl,tl,yz⟩
theorem mH {A:Option Addr}{n c:Nat}{ls:List (List UInt8)}(hn:n=ls.length) (hl:ls.length≤1099511627000) (ht:ls.flatten.length≤1099511627000) (w:World) (hs:SrcR w A ls) :
  Calls Tryz.prog 37 #[.slice A n c] w fun e w'=>∃ r,e=.returned r∧Fresh w (zj 4 ls.length++ls.flatten) r w':=by
 have HD:=Hh (fun w=>pK 4 (n:Int) w (by omega) (by omega) (by omega) (by omega));have K1:IntKind.u64.wrap (n:Int)=(n:Int):=by rw[IntKind.wrap_u64];omega
 have HN:=Hh (And.intro hn (And.intro hl ht));clear hn hl ht;go_enter Tryz.func37,Tryz.ntmps37
 go_wp2_with fail
 refine(HD.out _).mono ?_
 rintro e w1 ⟨r,rfl,hf⟩
 have yp:=hf.own;obtain⟨RA,rc,rfl,_⟩:=yp.form;have zP:=hf.2;have E0:Hid (zj (4:Int).toNat (n:Int).toNat=zj 4 ls.length):=by rw[Hid,HN.out.1];rfl
 have Oq:OwnB w1 w.heap.size (.slice RA (zj (4:Int).toNat (n:Int).toNat).length rc) (zj 4 ls.length):=by rw[← E0.out];exact yp
 have E1:Hid ((zj (4:Int).toNat (n:Int).toNat).length=(zj 4 ls.length).length):=by rw[Hid,E0.out]
 obtain⟨Ny,Lt⟩:∃ Ny,(zj (4:Int).toNat (n:Int).toNat).length=Ny:=⟨_,rfl⟩
 rw[Lt]at Oq E1⊢;clear hf yp Lt;go_wp2_with fail
 go_loopw [3,5,12] (fun v1 v5 v2 wr=>∃ (k:Nat) (VA:Option Addr) (vc vn:Nat) (l:List UInt8),k≤ls.length∧v2=.int .i64 (k:Int)∧v1=.slice VA vn vc∧OwnB wr w.heap.size (.slice VA vn vc) l∧vn=l.length∧(zj 4 ls.length++ls.flatten=l++(ls.drop k).flatten)∧Below w.heap.size w wr) (fun _ _ v2 _=>ls.length-(intOf v2).toNat)
 case atStart=>exact⟨0,_,_,_,_,Nat.zero_le _,rfl,rfl,Oq,E1.out,by simp,zP⟩
 case round =>
 clear Oq zP;obtain⟨k,VA,vc,vn,l,sX,rfl,rfl,vf,mg,vI,yE⟩:=hrel;have HV:=Hh mg;have HE:=Hh vI;clear mg vI
 by_cases yy:k<ls.length
 ·obtain⟨ib,io,rfl,hr⟩:=hs (by omega);have Ug:(k:Int)<(n:Int):=by have:=HN.out.1;omega
  obtain⟨Aj,cj,c0,Ql⟩:=hr k yy;have q0:=(yE.cell (World.block_lt_of_cell? w _ c0)).trans c0;have Qm:=Ql.below yE;have pX:(k:Int)+1≤9223372036854775807:=by have:=HN.out.2.1;omega
  have HT:Hid (l.length+ls[k].length≤1099511627776):=by
   have h1:=congrArg List.length HE.out;rw[tm ls k yy]at h1
   simp only[List.length_append]at h1
   have:=HN.out.2.2;have:=(wO 4 ls.length).2;rw[Hid];omega
  have HF:Hid (zj 4 ls.length++ls.flatten=(l++ls[k])++(ls.drop (k+1)).flatten):=by rw[Hid,HE.out,tm ls k yy,List.append_assoc]
  clear hr c0 Ql;go_wp2_with (at_builtin;refine zf ?_)
  unfold zU
  obtain rfl:=HV.out
  refine zv rfl (.tmp 16) (.tmp 17) rfl w.heap.size _ _ rfl vf Aj _ cj ls[k] rfl rfl Qm HT.out yE.size fun v' w7 wY hg7 hat7=>?_
  obtain⟨VA',vc',rfl,_⟩:=wY.form;have i7:OwnB w7 w.heap.size (.slice VA' (l.length+ls[k].length) vc') (l++ls[k]):=by rw[← List.length_append];exact wY
  have xU:=yE.grown hg7 yE.size (fun q hq=>(vf.lt q hq).1);clear vf hg7 hat7 yE q0 Qm wY;go_wp2_with fail
  go_roundw
  case rel=>exact⟨k+1,VA',vc',_,_,by omega,by go_num,rfl,i7,by rw[List.length_append],HF.out,xU⟩
  case measure=>simp[intOf];omega
 have cG:k=ls.length:=by omega
 subst cG;have Ug:¬ ((ls.length:Int)<(n:Int)):=by have:=HN.out.1;omega
 have HZ:Hid (zj 4 ls.length++ls.flatten=l):=by rw[Hid,HE.out,List.drop_length];simp
 go_wp2_with fail
 go_ret
 obtain rfl:=HV.out
 exact⟨_,rfl,by rw[HZ.out];exact⟨vf,yE⟩⟩
theorem Xg {w:World}{b off n:Nat}{l:List UInt8}(h:∀ j (hj:j<l.length),w.cell? ⟨b,off+j,none⟩=some (zg l[j])) (k:Nat) (B:Option Addr) (hB:n≠0→B=some ⟨b,off+k,none⟩) (hk:k+n≤l.length):Src w B (((l.drop k).take n).map zg):=fun xq=>by
 have h0:n≠0:=by
  intro h0
  subst h0
  simp at xq
 refine⟨b,off+k,hB h0,fun j v hj=>?_⟩
 rw[List.getElem?_map]at hj;obtain⟨u,hu,rfl⟩:=Option.map_eq_some_iff.1 hj;rw[List.getElem?_take]at hu
 split at hu
 ·rename_i Fs
  rw[List.getElem?_drop]at hu;obtain⟨h1,h2⟩:=List.getElem?_eq_some_iff.1 hu;rw[Nat.add_assoc,h (k+j) h1,h2]
 cases hu
abbrev dX (A:Option Addr) (n c p cnt:Nat):Array Value:=#[.slice A n c,.int .i64 (p:Int),.int .i64 (cnt:Int)]
structure Psr (T:TypeId) (w:World) (g:Nat) (H:Snap) (A:Option Addr) (c:Nat) (l:List UInt8) (p cnt:Nat):Prop where
 blk:Blk w g T (dX A l.length c p cnt)
 bytes:IsBytes H A c l
 holds:Holds w H
 apart:H g=none
 le:p≤l.length
 small:l.length≤4096
 cnt_le:cnt≤256
theorem pt {w0 w:World}{r:Option Nat}(h:w0.grownBy w r):∀ q,w0.grownBy (w.drewN q) r
 | 0=>h
 | q+1=>sA (pt h q)
def Qq (T:TypeId) (w:World) (g:Nat) (A:Option Addr) (c:Nat) (l:List UInt8) (p cnt z:Nat) (e:Ending) (w':World):Prop :=
 (l.length<p+z∧e=.returned (.tuple #[.int .u64 0,.bool false])∧Blk w' g T (dX A l.length c p cnt)∧w.grownBy w' (some g))∨
 (p+z≤l.length∧e=.returned (.tuple #[.int .u64 (beN ((l.drop p).take z):Int),.bool true])∧Blk w' g T (dX A l.length c (p+z) cnt)∧w.grownBy w' (some g))
theorem RG (x c:Nat) (hc:c<256):x*256 ||| c=x*256+c:=by
 have h:=Nat.shiftLeft_add_eq_or_of_lt (show c<2 ^ 8 by omega) x;rw[Nat.shiftLeft_eq]at h
 exact h.symm
theorem aW (x c:Nat) (hx:x*256<18446744073709551616) (hc:c<256):bits .or .u64 ((x:Int)*256) (c:Int)=((x*256+c:Nat):Int):=by
 rw[show((x:Int)*256)=((x*256:Nat):Int) by omega,u64_or_nat _ _ hx (by omega),RG x c hc]
theorem TB (l:List UInt8) (k:Nat) (hk:k<l.length):beN (l.take (k+1))=beN (l.take k)*256+l[k].toNat:=by
 rw[List.take_succ_eq_append_getElem hk,T9]
theorem Zj (l:List UInt8) (k:Nat) (hk:k<8):beN (l.take k)*256<18446744073709551616:=by
 have h:=xX (l.take k);have h2:(l.take k).length≤7:=by rw[List.length_take];omega
 have h3:(256:Nat) ^ (l.take k).length≤256 ^ 7:=Nat.pow_le_pow_right (by omega) h2;have h4:(256:Nat) ^ 7=72057594037927936:=by decide
 omega
theorem yI:(Tryz.prog.info? 3).map (·.size)=some 1:=by kernel_rfl
theorem jJ:∀ X:Fin 256,bits .and .u8 ((X.val:Nat):Int) 31=((X.val%32:Nat):Int):=by decide
theorem tB {l:List UInt8}{p:Nat}(hp:p<l.length):l.drop p=l[p]::l.drop (p+1):=List.drop_eq_getElem_cons hp
abbrev Xp:Value:=.agg #[.int .i64 0,.int .u64 0,.slice none 0 0,.slice none 0 0]
theorem gj (low n:Nat) (h:25≤low):x8 low n=if(isNaN (so low n)&&so low n != zD)||(xt (so low n)).length != 1+2 ^ (low-24) then .error 4 else .ok (.mk 8 (so low n) [] []):=by
 rw[x8,if_neg (by omega),if_neg (by omega)]
end Go.Proofs.YtjpcnhncoidliaaGreatDoor
