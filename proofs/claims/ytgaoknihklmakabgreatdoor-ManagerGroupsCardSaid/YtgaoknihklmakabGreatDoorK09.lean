/- squeezed. Walks: the references' Copy, List, -/
import Derived.Test.YtgaoknihklmakabGreatDoorK08
set_option linter.unusedVariables false
set_option linter.unusedSimpArgs false
set_option maxRecDepth 100000
set_option maxHeartbeats 6400000
namespace Go.Proofs.YtgaoknihklmakabGreatDoor
open Go.RowKit
theorem jas{P:Prop}(h:P:=by
 refine To 9 rfl fun K hK=>?_
 rw[if_pos (by rfl)]
 refine zD _ _ _ rfl _ _ rfl rfl _ _ hP zt rfl (rU _ _ _ _ rfl rfl rfl rfl) fun w6 hP tg=>?_
 have hB:=hB.gr tg (by omega);have hT:=hT.gr tg (by omega);have hb:=hb.grown tg hb.size (by rintro q ⟨⟩;omega);have xf:=xf.grown tg (by rintro q ⟨⟩;exact hH.none_of_ge (by omega));have hO:=hO.kept tg (by cases hv:(Value.slice BA x.bytes.length BC).ownBlock with | none=>exact .inl rfl | some q=>exact .inr (fun e=>by injection e with e;exact uy q hv e))
 refine Kz hK ?_
 clear hK K
 refine Wd ?_
 obtain⟨H1,Yu,IG,ez,qV,sZ⟩:=hO.snap xf (fun q hq=>hH.none_of_ge (by have:=e7 q (by cases BA <;> simp_all [Value.ownBlock]);omega))
 have uR:∀ q,w.heap.size≤q→(∀ q',(Value.slice BA x.bytes.length BC).ownBlock=some q'→q'≠q)→H1 q=none:=fun q hq hd=>by
  cases el:H1 q with
  | none=>rfl
  | some o =>
  rcases ez q o el with h | h
  ·rw[hH.none_of_ge hq]at h;cases h
  exact absurd rfl (hd q (by cases BA <;> simp_all [Value.ownBlock]))
 go_wp2_with fail
 go_meet
 exact⟨_,_,_,H1,rfl,hP,hB,hT,⟨hb,Yu,IG,fun b o xR=>(ez b o xR).imp id fun h=>by have:=e7 b (by cases BA <;> simp_all [Value.ownBlock]);omega⟩,sZ,uR _ (by omega) (fun q' XH=>uy q' XH),uR _ (by omega) (fun q' XH=>by have:=e7 q' XH;omega),by omega⟩):P:=h
theorem jcr{P:Prop}(h:P:=by exact⟨hB.cell 0 rfl,hB.cell 1 rfl,hB.cell 2 rfl⟩):P:=h
theorem jf9{P:Prop}(h:P:=by have ig:((q:Int)=0)=False:=eq_false (by have:=yZ _ _ _ _ hp;omega);exact ig):P:=h
theorem jg5{P:Prop}(h:P:=by have KL:IntKind.i64.wrap ((lv:Int)+1)=(lv:Int)+1:=IntWalk.i64_in _ (by omega);exact KL):P:=h
theorem jhg{P:Prop}(h:P:=by have tp:=ve.trans pE;have uz:=vq.rdg pE (by omega);have PB:=pE.hid yj vq.lt;exact And.intro tp (And.intro uz PB)):P:=h
theorem jhh{P:Prop}(h:P:=by have ip:=yr (by simpa [Value.ownBlock] using hg);exact ip):P:=h
theorem IsItem.build {H:Snap}{x:Itm}{ba:Option Addr}{bc:Nat}{ia:Option Addr}{ic:Nat}(hk : -9223372036854775808≤x.kind∧x.kind≤9223372036854775807) (hn:x.n<18446744073709551616) (hb:IsBytes H ba bc x.bytes)
  (h1:x.items.length≤ic) (h2:ic≤9223372036854775807) (he:0<x.items.length→∃ b off,ia=some ⟨b,off,none⟩∧IsElems H b off x.items):IsItem H ba bc ia ic x:=by
 cases x
 rw[IsItem]
 exact⟨⟨hk.1,hk.2,hn,h1,h2⟩,hb,he⟩
def ki (x:Itm):Prop:=∀ (H:Snap) (k n:Int) (ba:Option Addr) (bl bc:Nat) (ia:Option Addr) (il ic:Nat) (w:World),Modest x→ItemA H k n ba bl bc ia il ic x→Holds w H→
 Calls Tryz.prog 79 #[.agg #[.int .i64 k,.int .u64 n,.slice ba bl bc,.slice ia il ic]] w fun e w'=>∃ v,e=.returned v∧Gives w H x v w'
theorem V7 (x:Itm) (ih:∀ y:Itm,cnt y<cnt x→ki y):ki x:=by
 intro H k n ba bl bc ia il ic w hm hx hH
 obtain⟨rfl,rfl,rfl,rfl,nE⟩:=hx.eqs_;have HX:=Hh nE;have HM:=Hh hm;have tP:=hm.parts;have hB:=((Blk.new w 83 #[.int .i64 x.kind,.int .u64 x.n,.slice ba x.bytes.length bc,.slice ia x.items.length ic]).alloc zg).drew;have hT:=(Blk.new (w.alloc (zU x ba bc ia ic)) 83 #[.int .i64 0,.int .u64 0,.slice none 0 0,.slice none 0 0]).drew
 simp only[zh]at hT
 have hb:=((zm w (zU x ba bc ia ic)).alloc (by simp) zg).drew;have xf:Holds ((w.alloc (zU x ba bc ia ic)).alloc zg).drew H:=((hH.alloc _).alloc _).drew;have tL:x.items.length≤9223372036854775807:=by omega
 have jf:x.bytes.length≤1099511627776:=tP.1;clear hx nE hm tP;go_enter Tryz.func79,Tryz.ntmps79
 go_upto_region 1 with fail
 go_cut [3] (fun s3 wx=>∃ N BA BC H1,s3=.pointer (some ⟨N,0,none⟩)∧Blk wx N 83 #[.int .i64 x.kind,.int .u64 x.n,.slice BA x.bytes.length BC,.slice none 0 0]∧Blk wx w.heap.size 83 #[.int .i64 x.kind,.int .u64 x.n,.slice ba x.bytes.length bc,.slice ia x.items.length ic]∧
  Blk wx (w.heap.size+1) 83 #[.int .i64 0,.int .u64 0,.slice none 0 0,.slice none 0 0]∧Grows w H wx H1∧IsBytes H1 BA BC x.bytes∧H1 N=none∧H1 (w.heap.size+1)=none∧w.heap.size+1<N)
 case first =>
  refine zj 9 (fun w'=>w'.cell? ⟨w.heap.size,0,none⟩=some (.int .i64 x.kind)∧w'.cell? ⟨w.heap.size,1,none⟩=some (.int .u64 x.n)∧w'.cell? ⟨w.heap.size,2,none⟩=some (.slice ba x.bytes.length bc)) (by kernel_rfl) (⟨hB.cell 0 rfl,hB.cell 1 rfl,hB.cell 2 rfl⟩) (fun zy=>?_)
  refine Tk 0 rfl zy ?_
  refine Tk 1 rfl zy ?_
  refine Tk 2 rfl zy ?_
  refine Tk 3 rfl zy ?_
  refine Tk 4 rfl zy ?_
  refine Tk 5 rfl zy ?_
  refine Ways.two (i:=6) (j:=8) rfl rfl (by kernel_rfl) (fun K hK=>?_) (fun K hK=>?_)
  ·rw[if_pos (by rfl)]
   refine vk (.const (.slice none 0 0)) (.tmp 12) rfl _ (.slice none 0 0) [] rfl (OwnB.nil _ _) ba _ bc x.bytes rfl rfl (Src.of_row HX.out.bytes.row xf) (by simpa using jf) (Nat.le_refl _) fun v' w5 hO hg uF=>?_
   rw[List.nil_append]at hO;have ip:=jhh;obtain⟨BA,BC,rfl,_⟩:=hO.form
   try have uy:∀ q,(Value.slice BA x.bytes.length BC).ownBlock=some q→q≠w.heap.size+1+1:=fun q hq e=>by have h1:=(hO.lt q hq).1;have h2:=hP.lt;(try simp only[ye,zh]at h1 h2);omega
   have e7:∀ q,(Value.slice BA x.bytes.length BC).ownBlock=some q→w.heap.size+1<q:=fun q hq=>by have h1:=(hO.lt q hq).1;have h2:=hT.lt;(try simp only[ye,zh]at h1 h2);omega
   have hB:=hB.below ip;have hT:=hT.below ip
   try have hP:=hP.below ip
   have hb:=hb.trans (ip.mono hb.size);have xf:=xf.below ip (Nat.le_refl _)
   refine Ko hK ?_ fun zy=>?_
   ·exact jcr
   clear hK K
   refine Tk 7 rfl zy ?_
   refine To 8 rfl fun K hK=>?_
   go_simp
   have hP:=kP hb 83 #[.int .i64 0,.int .u64 0,.slice none 0 0,.slice none 0 0]
   try have uy:∀ q,(Value.slice BA x.bytes.length BC).ownBlock=some q→q≠w5.heap.size:=fun q hq e=>by have h1:=(hO.lt q hq).2;omega
   have JJ:=hT.lt
   try simp only[ye,zh]at hP JJ
   have hB:=hB.alloc zg;have hT:=hT.alloc zg
   try have hO:=hO.alloc zg
   have xf:=xf.alloc zg;have hb:=hb.alloc hb.size zg
   refine Ko hK ?_ fun zy=>?_
   ·exact jcr
   clear hK K
   exact jas
  go_simp
  have hP:=kP hb 83 #[.int .i64 0,.int .u64 0,.slice none 0 0,.slice none 0 0]
  try have uy:∀ q,(Value.slice BA x.bytes.length BC).ownBlock=some q→q≠w5.heap.size:=fun q hq e=>by have h1:=(hO.lt q hq).2;omega
  have JJ:=hT.lt
  try simp only[ye,zh]at hP JJ
  have hB:=hB.alloc zg;have hT:=hT.alloc zg
  try have hO:=hO.alloc zg
  have xf:=xf.alloc zg;have hb:=hb.alloc hb.size zg
  refine Ko hK ?_ fun zy=>?_
  ·exact jcr
  clear hK K
  refine To 6 rfl fun K hK=>?_
  rw[if_pos (by rfl)]
  refine vk (.const (.slice none 0 0)) (.tmp 12) rfl _ (.slice none 0 0) [] rfl (OwnB.nil _ _) ba _ bc x.bytes rfl rfl (Src.of_row HX.out.bytes.row xf) (by simpa using jf) (Nat.le_refl _) fun v' w5 hO hg uF=>?_
  rw[List.nil_append]at hO;have ip:=jhh;obtain⟨BA,BC,rfl,_⟩:=hO.form
  try have uy:∀ q,(Value.slice BA x.bytes.length BC).ownBlock=some q→q≠w.heap.size+1+1:=fun q hq e=>by have h1:=(hO.lt q hq).1;have h2:=hP.lt;(try simp only[ye,zh]at h1 h2);omega
  have e7:∀ q,(Value.slice BA x.bytes.length BC).ownBlock=some q→w.heap.size+1<q:=fun q hq=>by have h1:=(hO.lt q hq).1;have h2:=hT.lt;(try simp only[ye,zh]at h1 h2);omega
  have hB:=hB.below ip;have hT:=hT.below ip
  try have hP:=hP.below ip
  have hb:=hb.trans (ip.mono hb.size);have xf:=xf.below ip (Nat.le_refl _)
  refine Ko hK ?_ fun zy=>?_
  ·exact jcr
  clear hK K
  refine Tk 7 rfl zy ?_
  exact jas
 case rest =>
 clear hB hT hb xf;obtain⟨N,BA,BC,H1,rfl,hP,hB,hT,xg,sZ,pz,rY,JJ⟩:=hcut;have c3:=jgp;have hNl:=hP.lt;have mQ:=OwnI.nil wc (N+1) H1;clear hB;go_wp2_with fail
 go_loopw [4,18] (fun v4 v18 wr=>∃ (j:Nat) (Hr:Snap) (VA:Option Addr) (vc vn:Nat),j≤x.items.length∧v18=.int .i64 j∧v4=.slice VA vn vc∧vn=(x.items.take j).length∧Grows w H wr Hr∧H1.le Hr∧OwnI wr (N+1) (.slice VA vn vc) Hr (x.items.take j)∧
  Blk wr N 83 #[.int .i64 x.kind,.int .u64 x.n,.slice BA x.bytes.length BC,.slice none 0 0]∧Blk wr (w.heap.size+1) 83 #[.int .i64 0,.int .u64 0,.slice none 0 0,.slice none 0 0]∧Hr N=none∧Hr (w.heap.size+1)=none∧(∀ q,(Value.slice VA vn vc).ownBlock=some q→Hr q=none)) (fun _ v18 _=>x.items.length-(intOf v18).toNat)
 case atStart=>exact⟨0,H1,_,_,_,Nat.zero_le _,rfl,rfl,rfl,xg,Snap.le.refl _,mQ,hP,hT,pz,rY,by intro q hq;simp[Value.ownBlock]at hq⟩
 case round =>
 clear hP hT xg pz rY mQ;obtain⟨j,Hr,VA,vc,vn,hj,rfl,rfl,iB,pN,xO,vY,JL,uE,Hv,rD,pQ⟩:=hrel;have HV:=Hh iB;clear iB
 by_cases zB:j<x.items.length
 ·obtain⟨ib,io,pf,un⟩:=HX.out.items (by omega);obtain⟨eba,ebc,eia,eic,q0,q1,q2,q3,rx⟩:=un.get j zB;subst pf;have p0:=(pN.holds.mono pN.le).cell q0;have p1:=(pN.holds.mono pN.le).cell q1;have p2:=(pN.holds.mono pN.le).cell q2;have p3:=(pN.holds.mono pN.le).cell q3;have zM:=pN.alloc (zU x.items[j] eba ebc eia eic);have e7:=vY.alloc (zU x.items[j] eba ebc eia eic);have Ox:=JL.alloc (zU x.items[j] eba ebc eia eic);have tK:=uE.alloc (zU x.items[j] eba ebc eia eic);have IH:=Hh (ih x.items[j] (ui x j zB) Hr _ _ eba _ ebc eia _ eic _ (HM.out.parts.2.2.get j zB) (rx.mono pN.le).arg zM.holds);have HT:=Hh (show x.items.take (j+1)=x.items.take j++[x.items[j]] from List.take_succ_eq_append_getElem zB);have JW:=HM.out.parts.2.1
  generalize x.items[j]'zB=y at *
  clear q0 q1 q2 q3 un rx vY;go_wp2_with fail
  refine IH.out.mono ?_
  rintro e w6 ⟨v6,rfl,ja,jb,jc,jd,H6,rfl,xW,oM⟩
  have pv:=((e7.below xW.below).mono xW.le).alloc (.cells (ze y ja jb jc jd).toArray 83);have xp:=(zM.trans xW).alloc (.cells (ze y ja jb jc jd).toArray 83);have Yr:=(Ox.below xW.below).alloc (.cells (ze y ja jb jc jd).toArray 83);have vN:=(tK.below xW.below).alloc (.cells (ze y ja jb jc jd).toArray 83);have sM:∀ q,(Value.slice VA vn vc).ownBlock=some q→H6 q=none:=fun q hq=>xW.none (pQ q hq) (e7.lt q hq).2
  have Cf:=xW.none Hv Ox.lt;have Tz:=xW.none rD tK.lt;have G5:=xO.trans xW.le;clear p0 p1 p2 p3 IH pN JL uE zM xW Ox tK;go_wp2_with (at_builtin;refine yq ?_)
  unfold z8
  obtain rfl:=HV.out
  refine yJ rfl (.tmp 22) (.tmp 25) rfl (N+1) (.slice VA _ vc) H6 _ rfl pv _ 1 _ (ze y ja jb jc jd) [y] rfl rfl (ItemsC.one oM) (Src.new _ _ _ _ rfl _ rfl) (by rw[List.length_take];simp;omega) (by have:=Yr.lt;simp only[zh]at this⊢;omega) fun v' w7 vr yQ hat7=>?_
  obtain⟨VA',vc',rfl,_⟩:=vr.form;have lW:=xp.grownRow sM (fun q hq=>by have:=(pv.lt q hq).1;omega) yQ;have Pl:=Yr.grown yQ (fun e=>by have:=(pv.lt N e).1;omega);have vz:=vN.grown yQ (fun e=>by have:=(pv.lt _ e).1;omega)
  have la:∀ q,(Value.slice VA' (x.items.take j++[y]).length vc').ownBlock=some q→H6 q=none:=fun q hq=>by
   rcases hat7 with h | ⟨g',h1,h2⟩
   ·exact sM q (by rw[← h,hq])
   rw[hq]at h1;injection h1 with h1
   subst h1
   exact xp.hidden h2
  have WN:(x.items.take j++[y]).length=j+1:=by rw[← HT.out,List.length_take];omega
  rw[WN]at vr la;rw[WN];rw[← HT.out]at vr;clear WN;have oH:(j:Int)+1≤9223372036854775807:=by omega
  clear pv yQ hat7 sM xp Yr vN oM;go_wp2_with fail
  go_roundw
  case rel=>exact⟨j+1,H6,VA',vc',_,by omega,by go_num,rfl,by rw[List.length_take];omega,lW,G5,vr,Pl,vz,Cf,Tz,la⟩
  case measure=>simp[intOf];omega
 have tF:j=x.items.length:=by omega
 subst tF;rw[List.take_length]at vY;have Bh:Hid (vn=x.items.length):=by have:=HV.out;rw[List.take_length]at this;exact this
 clear HV;obtain⟨H8,f7,IJ,Ub,WS,qZ,qa,U7⟩:=vY.snap pN.holds (fun g hg=>pQ g (by cases VA <;> simp_all [Value.ownBlock]));have xN:∀ b,VA.map (·.block)=some b→N+1≤b:=fun b hb=>(vY.lt b (by cases VA <;> simp_all [Value.ownBlock])).1
 have ey:Grows w H wr H8:=⟨pN.below,pN.le.trans f7,IJ,fun b o hb=>by
  rcases Ub b o hb with h | h
  ·exact pN.fresh b o h
  exact .inr (by have:=xN b h;omega)⟩
 have Th:∀ q,q≤N→Hr q=none→H8 q=none:=fun q hq h0=>by
  cases h8:H8 q with
  | none=>rfl
  | some o =>
  rcases Ub q o h8 with h | h
  ·rw[h0]at h;cases h
  have:=xN q h;omega
 have tE:=HX.out.bounds;have HI:=Hh (IsItem.build (x:=x) (H:=H8) (ba:=BA) (bc:=BC) (ia:=VA) (ic:=vc) ⟨tE.1,tE.2.1⟩ tE.2.2.1 (sZ.mono (xO.trans f7)) qZ qa U7);have Cg:=Th N (Nat.le_refl _) Hv;have kG:=Th (w.heap.size+1) (by omega) rD;clear tE U7 qZ qa Ub vY pN pQ xN Th Hv rD WS;go_wp2_with (with_reducible refine zx ?_)
 refine zu rfl _ _ _ rfl rfl N 3 (.slice VA vn vc) rfl rfl _ _ JL xJ (by simp) rfl fun w9 hP9 yO=>?_
 have xr:=uE.gr yO (by omega);have vy:=ey.grownOwn Cg (by omega) yO;have r0:=hP9.cell 0 rfl;have r1:=hP9.cell 1 rfl;have r2:=hP9.cell 2 rfl;have r3:=hP9.cell 3 rfl;clear JL uE ey;go_wp2_with (with_reducible refine zx ?_)
 refine stI xr fun w10 uD hg10=>?_
 have sK:=vy.grownOwn kG (by omega) hg10;go_wp2_with fail
 refine vo rfl rfl uD rfl rfl zt rfl ?_
 obtain rfl:=Bh.out
 exact⟨_,rfl,BA,BC,VA,vc,H8,rfl,sK,HI.out⟩
theorem Sy (x:Itm):ki x:=by
 have main:∀ N,∀ x:Itm,cnt x≤N→ki x:=by
  intro N
  induction N with
  | zero =>
   exact jbq
  | succ N ih =>
  intro x hx
  exact V7 x fun y hy=>ih y (by omega)
 exact jcq
structure IsRowI (H:Snap) (A:Option Addr) (c:Nat) (l:List Itm):Prop where
 le:l.length≤c
 max:c≤9223372036854775807
 elems:0<l.length→∃ b off,A=some ⟨b,off,none⟩∧IsElems H b off l
theorem IsRowI.item {H:Snap}{A:Option Addr}{c:Nat}{l:List Itm}(h:IsRowI H A c l) (k:Int) (hk:0≤k∧k≤8) (n:Nat) (hn:n<18446744073709551616):IsItem H none 0 A c (.mk k n [] l):=by
 rw[IsItem]
 exact⟨⟨by omega,by omega,hn,h.le,h.max⟩,IsBytes.nil _,h.elems⟩
theorem eI {w wr:World}{H Hr:Snap}(_h:Grows w H wr Hr) {l:List Itm}{cs:List Value}(hc:ItemsC Hr cs l) (hm:l.length≤4096) :
  OwnI (wr.alloc (.cells cs.toArray 83)) wr.heap.size (.slice (some ⟨wr.heap.size,0,none⟩) l.length l.length) Hr l:=OwnI.lit hc _ (Nat.le_refl _) hm
theorem jn {w wr:World}{H Hr:Snap}(h:Grows w H wr Hr) {l:List Itm}{cs:List Value}(hc:ItemsC Hr cs l) (hm:l.length≤4096) :
  ∃ H',Grows w H (wr.alloc (.cells cs.toArray 83)) H'∧Hr.le H'∧IsRowI H' (some ⟨wr.heap.size,0,none⟩) l.length l:=by
 have hO:=eI h hc hm;have hG:=h.alloc (.cells cs.toArray 83);obtain⟨H',hl,hh,hf,hz,h1,h2,h3⟩:=hO.snap hG.holds (fun q hq=>by cases hq;exact h.holds.none_of_ge (Nat.le_refl _))
 refine⟨H',⟨hG.below,hG.le.trans hl,hh,fun b o hb=>?_⟩,hl,⟨h1,h2,h3⟩⟩
 rcases hf b o hb with h4 | h4
 ·exact hG.fresh b o h4
 simp at h4;exact .inr (by have:=h.size;omega)
theorem Wf {p:List UInt8→Nat→PR}(hp:∀ b c q,p b c=.err q→q≠0):∀ (n:Nat) (b:List UInt8) (c:Nat) (last:Option (List UInt8)) (q:Nat),vX p n b c last=.err q→q≠0
 | 0,b,c,last,q,h=>by rw[vX]at h;cases h
 | n+1,b,c,last,q,h=>by
  rw[vX]at h
  split at h
  ·rename_i h1
   injection h with h
   subst h
   exact hp _ _ _ h1
  split at h
  ·rename_i h2
   injection h with h
   subst h
   unfold rn at h2
   repeat' split at h2
   all_goals first | (injection h2 with h2;omega) | cases h2
  split at h
  ·rename_i h3
   injection h with h
   subst h
   exact hp _ _ _ h3
  split at h
  ·rename_i h4
   injection h with h
   subst h
   exact Wf hp n _ _ _ _ h4
  cases h
theorem WX {p:List UInt8→Nat→PR}(hp:∀ b c q,p b c=.err q→q≠0):∀ (n:Nat) (b:List UInt8) (c:Nat) (q:Nat),uw p n b c=.err q→q≠0
 | 0,b,c,q,h=>by rw[uw]at h;cases h
 | n+1,b,c,q,h=>by
  rw[uw]at h
  split at h
  ·rename_i h1
   injection h with h
   subst h
   exact hp _ _ _ h1
  split at h
  ·rename_i h4
   injection h with h
   subst h
   exact WX hp n _ _ _ h4
  cases h
theorem yZ:∀ (d:Nat) (b:List UInt8) (c q:Nat),zZ d b c=.err q→q≠0:=by
 intro d
 induction d with
 | zero =>
  intro b c q h
  rw[zZ.eq_def]at h
  simp only at h
  repeat' split at h
  all_goals first
   | (injection h with h;omega)
   | cases h
   | skip
  ·rename_i h1;have:=nK h1;omega
  rename_i h1;have:=fk h1;omega
 | succ d ih =>
 intro b c q h
 rw[zZ.eq_def]at h
 simp only at h
 repeat' split at h
 all_goals first
  | (injection h with h;omega)
  | cases h
  | skip
 ·rename_i h1;have:=nK h1;omega
 ·rename_i h1;have:=fk h1;omega
 ·rename_i h1;exact ih _ _ _ h1
 ·rename_i h1;exact Wf ih _ _ _ _ _ h1
 rename_i h1;exact WX ih _ _ _ _ h1
section
variable {d:Nat} {w:World} {H:Snap} {g:Nat} {A:Option Addr} {c:Nat} {l:List UInt8} {p cnt lv:Nat}
theorem Sp (ih:aw d) (hTab:Tabs H) (hlv:lv+(d+1)=8) (hP:Psr 117 w g H A c l p cnt) (hc:cnt<256) {f n k:Nat}(hh:zJ (l.drop p)=.ok (f,n,k)) (hk:f/32=6):Calls Tryz.prog 80 #[.pointer (some ⟨g,0,none⟩),.int .i64 (lv:Int)] w (ItemOut 117 w H g A c l p (zZ (d+1) (l.drop p) cnt)):=by
 obtain⟨yC,vx,vM,yj⟩:=jfx;have c2:=jf5;have E0:=Hh (dn d (l.drop p) cnt (by omega) hh hk);have S:(f:Int)/32=6:=by omega
 have Yg:¬ ((8:Int)≤(lv:Int)):=by omega
 have KL:=jg5;have W7:(lv:Int)≤8:=by omega
 have wU:((cnt:Int)==256)=false:=by simp;omega
 obtain⟨xL,KC,HC⟩:=jfC;clear hc;go_enter Tryz.func80,Tryz.ntmps80
 go_wp2_with (with_reducible refine zx ?_)
 refine zu rfl _ _ _ rfl rfl g 2 (.int .i64 ((cnt:Int)+1)) rfl rfl _ _ vx.psr.blk yp (by simp) rfl fun w2 yT zM=>?_
 obtain⟨vO,tK,PH⟩:=jfD;clear vx vM yT zM c2 KC wU xL;go_wp2_with fail
 refine PH.out.mono ?_
 intro e w3 hs
 rw[HeadSaid,hh]at hs;obtain⟨rfl,vL,yY⟩:=hs;have HS:=wP hh;have rh:p+k≤l.length:=by have:=HS.le;rw[List.length_drop]at this;have:=hP.le;omega
 obtain⟨ve,vq,HF⟩:=jfH;clear vO tK vL yY PH HS hh;have IT:=ih w3 H g A c l (p+k) (cnt+1) (lv+1) hTab (by omega) ve.psr;rw[show((lv+1:Nat):Int)=(lv:Int)+1 by omega]at IT;have ITH:=Hh IT;rw[List.drop_drop]at E0;clear IT;go_wp2_with fail
 refine ITH.out.mono ?_
 intro e w4 hs
 cases hp:zZ d (l.drop (p+k)) (cnt+1) with
 | err q =>
  rw[hp,ItemOut]at hs;obtain⟨rfl,H4,p4,cnt4,pE⟩:=hs;have lV:((q:Int) != 0)=true:=by rw[bne_iff_ne];have:=yZ _ _ _ _ hp;omega
  have ig:=jf9;have E:Hid (zZ (d+1) (l.drop p) cnt=.err q):=by rw[Hid,E0.out,hp]
  obtain⟨tp,uz,PB⟩:=jhg;have hX:=Blk.new w4 83 #[.int .i64 0,.int .u64 0,.slice none 0 0,.slice none 0 0];have tO:=tp.alloc zg;have vw:=uz.alloc zg;have OL:=Hh tp.psr.holds;have Ty:=Hh uz.lt;clear pE ve vq ITH hp E0 tp uz;have OP:w.heap.size≤w4.heap.size:=Nat.le_of_lt Ty.out;have RQ:=(Holds.none_of_ge (w:=w4) (H:=H4) (OL.out) (Nat.le_refl _))
  go_wp2_with (with_reducible refine zx ?_)
  refine stI hX fun w6 pg tg=>?_
  have xS:=tO.gb RQ OP yC tg;have vN:=vw.grown tg (by intro e;injection e with e;have:=Ty.out;omega);clear tO vw hX tg pg;go_wp2_with (with_reducible refine zx ?_)
  refine stI vN fun wz hTy zS=>?_
  have yl:=xS.gb PB (Nat.le_refl _) yC zS;exact jaj
 | ok x k' c' =>
 rw[hp,ItemOut]at hs;obtain⟨ja,jb,jc,jd,H4,rfl,pE,Uc⟩:=hs;have E:Hid (zZ (d+1) (l.drop p) cnt=.ok (.mk 6 n [] [x]) (k+k') c'):=by rw[Hid,E0.out,hp]
 obtain⟨tp,uz,PB⟩:=jhg;have hX:=Blk.new w4 83 #[.int .i64 0,.int .u64 0,.slice none 0 0,.slice none 0 0];have tO:=tp.alloc zg;have vw:=uz.alloc zg;have OL:=Hh tp.psr.holds;have Ty:=Hh uz.lt;clear pE ve vq ITH hp E0 tp uz;have OP:w.heap.size≤w4.heap.size:=Nat.le_of_lt Ty.out;have RQ:=(Holds.none_of_ge (w:=w4) (H:=H4) (OL.out) (Nat.le_refl _))
 go_wp2_with (with_reducible refine zx ?_)
 refine stI hX fun w6 pg tg=>?_
 have xS:=tO.gb RQ OP yC tg;have vN:=vw.grown tg (by intro e;injection e with e;have:=Ty.out;omega);have b0:=pg.cell 0 rfl;have b1:=pg.cell 1 rfl;have b2:=pg.cell 2 rfl;have b3:=pg.cell 3 rfl;obtain⟨H7,xp,Rd,D8⟩:=jn (Grows.refl xS.psr.holds) (ItemsC.one Uc) (by simp);have ux:=xS.grown xp;have vz:=vN.alloc (.cells (ze x ja jb jc jd).toArray 83);have la:=xp.none PB vN.lt;have kK:=Hh HF.out.n_lt;clear tO vw hX tg pg xS vN xp;go_wp2_with (with_reducible refine zx ?_)
 refine stI vz fun wz hTy zS=>?_
 have yl:=ux.gb la (Nat.le_refl _) yC zS;go_wp2_with fail
 refine zw rfl rfl hTy rfl rfl zt rfl ?_
 exact ItemOut.ok E.out rfl (by rw[← Nat.add_assoc];exact yl) (D8.item 6 (by omega) n kK.out)
end
def NZ (b:List UInt8):Except Nat (List UInt8×Nat) :=
 match tM b with
 | .err e=>.error e
 | .ok x k _=>if x.kind≠2∨x.bytes.length<1∨64<x.bytes.length then .error 4 else .ok (x.bytes,k)
def d4 (m:Int) (su:List Int) (gx cn:List UInt8) (b:List UInt8):Except Nat First :=
 match Nb b with
 | .error e=>.error e
 | .ok ext=>.ok ⟨m,su,gx,cn,ext⟩
def d3 (m:Int) (su:List Int) (gx:List UInt8) (b:List UInt8):Except Nat First :=
 match Ve b with
 | .error e=>.error e
 | .ok (c,k4)=>d4 m su gx c (b.drop k4)
def d2 (m:Int) (su:List Int) (b:List UInt8):Except Nat First :=
 match NZ b with
 | .error e=>.error e
 | .ok (gx,k3)=>d3 m su gx (b.drop k3)
def d1 (m:Int) (b:List UInt8):Except Nat First :=
 match tM b with
 | .err e=>.error e
 | .ok y k2 _=>match Qj y with
  | .error e=>.error e
  | .ok l=>d2 m l (b.drop k2)
theorem rb (k:Int) (n:Nat) (bs:List UInt8) (l:List Itm) (h8:k≠8) (h7:k≠7):(zf (.mk k n bs l)).length≤9+bs.length+(zG l).length:=by
 rw[xu,if_neg (by simpa [Itm.kind] using h8),if_neg (by simp[Itm.kind,h7])];have:=(rd k.toNat (numP (.mk k n bs l))).2
 simp only[Itm.kind,Itm.bytes,Itm.items,List.length_append]
 omega
theorem aQ (k:Int) (hk:k=2∨k=3) (bs:List UInt8) (lv:Nat) (hv:k=3→Lib.validD bs=true):Good (.mk k 0 bs []) lv:=by
 refine Good.of ?_ (by simp only[Itm.items];rw[GoodL];trivial) (fun h=>by simp only[Itm.kind]at h;omega)
 rw[y9,if_pos (by rw[zP];simp only[Itm.kind];omega)]
 rcases hk with rfl | rfl
 ·simp[zH,Itm.kind,Itm.n,Itm.items]
 simp[zH,Itm.kind,Itm.n,Itm.items,Itm.bytes,hv rfl]
section
variable {w w':World} {base:Nat} {H:Snap} {l:List Itm}
theorem OwnI.parts {A:Option Addr}{m c:Nat}(h:OwnI w base (.slice A m c) H l) (k:Nat):∃ cs1 cs2,ItemsC H cs1 (l.take k)∧ItemsC H cs2 (l.drop k)∧Src w A cs1∧(k<l.length→∃ b off,A=some ⟨b,off,none⟩∧Src w (some ⟨b,off+k*4,none⟩) cs2):=by
 obtain⟨cs,hc,ho⟩:=h;have hs:=Src.of_own ho;obtain⟨h1,h2⟩:=hc.split k
 refine⟨_,_,h1,h2,fun uy=>?_,fun hk=>?_⟩
 ·obtain⟨b,off,e,hx⟩:=hs (by rintro rfl;simp at uy)
  exact⟨b,off,e,fun j v hj=>hx j v (by rw[List.getElem?_take]at hj;split at hj;exact hj;cases hj)⟩
 obtain⟨b,off,e,hx⟩:=hs (by rintro rfl;have:=hc.len;simp at this;omega)
 refine⟨b,off,e,fun _=>⟨b,off+k*4,rfl,fun j v hj=>?_⟩⟩
 rw[List.getElem?_drop]at hj;rw[Nat.add_assoc]
 exact hx _ v hj
theorem OwnI.cells {A:Option Addr}{m c:Nat}(h:OwnI w base (.slice A m c) H l) (k:Nat) (hk:k<l.length):∃ b off,A=some ⟨b,off,none⟩∧∃ ba bc ia ic,w.cell? ⟨b,off+k*4,none⟩=some (.int .i64 l[k].kind)∧w.cell? ⟨b,off+k*4+1,none⟩=some (.int .u64 l[k].n)∧
  w.cell? ⟨b,off+k*4+2,none⟩=some (.slice ba l[k].bytes.length bc)∧w.cell? ⟨b,off+k*4+3,none⟩=some (.slice ia l[k].items.length ic)∧IsItem H ba bc ia ic l[k]:=by
 obtain⟨cs,hc,ho⟩:=h;obtain⟨b,off,e,hx⟩:=Src.of_own ho (by rintro rfl;have:=hc.len;simp at this;omega);obtain⟨ba,bc,ia,ic,h0,h1,h2,h3,hi⟩:=hc.get k hk
 exact⟨b,off,e,ba,bc,ia,ic,hx _ _ h0,hx _ _ h1,hx _ _ h2,hx _ _ h3,hi⟩
end
theorem zA {w w':World}{a:Addr}{v:Value}(h:w.cell? a=some v) (hb:Below w.heap.size w w'):w'.cell? a=some v:=(hb.cell (World.block_lt_of_cell? w _ h)).trans h
theorem sz {w:World}{a:Addr}{v:Value}(h:w.cell? a=some v):w.drew.cell? a=some v:=h
theorem OwnI.drew {w:World}{base:Nat}{v:Value}{H:Snap}{l:List Itm}(h:OwnI w base v H l):OwnI w.drew base v H l:=h
theorem ti {A:Option Addr}{m c q:Nat}(h:A.map (·.block)=some q):(Value.slice A m c).ownBlock=some q:=by cases A <;> simp_all [Value.ownBlock]
theorem Src.slicek {w:World}{H:Snap}{A:Option Addr}{cs:List Value}{L:List Itm}{k j vc:Nat}(h:k<L.length→∃ b off,A=some ⟨b,off,none⟩∧Src w (some ⟨b,off+k*4,none⟩) cs) (hc:ItemsC H cs (L.drop k)) (hL:L.length=j) (bf:(j:Int)≤vc) :
  Src w (if vc=k then A else Option.map (fun x=>x.add (k*4)) A) cs:=by
 by_cases hk:k<L.length
 ·obtain⟨b,off,rfl,hs⟩:=h hk;rw[if_neg (by omega),Option.map_some,fu]
  exact hs
 rw[List.drop_eq_nil_of_le (by omega),ItemsC]at hc;subst hc
 exact Src.nil _ _
theorem dL {B:Nat}{w wr:World}(_h:Below B w wr) (t:TypeId) (cs:Array Value):Src (wr.alloc (.cells cs t)) (some ⟨wr.heap.size,0,none⟩) cs.toList:=Src.lit _ _ _
theorem aM (L:List Itm) (k:Nat) (y z:Itm):(zG (L.take k++[y,z]++L.drop k)).length=(zG L).length+(zf y).length+(zf z).length:=by
 have h:=congrArg List.length (sr (L.take k) (L.drop k));rw[List.take_append_drop]at h;rw[sr,sr]
 simp only[zG,List.length_append,List.append_nil]at h⊢
 omega
end Go.Proofs.YtgaoknihklmakabGreatDoor
