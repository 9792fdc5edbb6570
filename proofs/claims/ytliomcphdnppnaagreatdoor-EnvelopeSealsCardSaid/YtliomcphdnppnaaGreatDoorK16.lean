/- squeezed. Walks: the references' Copy, List, -/
import Derived.Test.YtliomcphdnppnaaGreatDoorK11
set_option linter.unusedVariables false
set_option linter.unusedSimpArgs false
set_option maxRecDepth 100000
set_option maxHeartbeats 6400000
namespace Go.Proofs.YtliomcphdnppnaaGreatDoor
open Go.RowKit
theorem IsItem.build {H:Snap}{x:Itm}{ba:Option Addr}{bc:Nat}{ia:Option Addr}{ic:Nat}(hk : -9223372036854775808≤x.kind∧x.kind≤9223372036854775807) (hn:x.n<18446744073709551616) (hb:IsBytes H ba bc x.bytes)
  (h1:x.items.length≤ic) (h2:ic≤9223372036854775807) (he:0<x.items.length→∃ b off,ia=some ⟨b,off,none⟩∧IsElems H b off x.items):IsItem H ba bc ia ic x:=by
 cases x
 rw[IsItem]
 exact⟨⟨hk.1,hk.2,hn,h1,h2⟩,hb,he⟩
def nt (x:Itm):Prop:=∀ (H:Snap) (k n:Int) (ba:Option Addr) (bl bc:Nat) (ia:Option Addr) (il ic:Nat) (w:World),Modest x→ItemA H k n ba bl bc ia il ic x→Holds w H→
 Calls Tryz.prog 86 #[.agg #[.int .i64 k,.int .u64 n,.slice ba bl bc,.slice ia il ic]] w fun e w'=>∃ v,e=.returned v∧Gives w H x v w'
theorem ZE (x:Itm) (ih:∀ y:Itm,cnt y<cnt x→nt y):nt x:=by
 intro H k n ba bl bc ia il ic w hm hx hH
 obtain⟨rfl,rfl,rfl,rfl,qf⟩:=hx.eqs_;have HX:=Hh qf;have HM:=Hh hm;have Pe:=hm.parts;have hB:=((Blk.new w 26 #[.int .i64 x.kind,.int .u64 x.n,.slice ba x.bytes.length bc,.slice ia x.items.length ic]).alloc zW).drew;have hT:=(Blk.new (w.alloc (zi x ba bc ia ic)) 26 #[.int .i64 0,.int .u64 0,.slice none 0 0,.slice none 0 0]).drew
 simp only[zu]at hT
 have hb:=((zq w (zi x ba bc ia ic)).alloc (by simp) zW).drew;have zQ:Holds ((w.alloc (zi x ba bc ia ic)).alloc zW).drew H:=((hH.alloc _).alloc _).drew;have fg:x.items.length≤9223372036854775807:=by omega
 have uD:x.bytes.length≤1099511627776:=Pe.1;clear hx qf hm Pe;go_enter Tryz.func86,Tryz.ntmps86
 go_upto_region 1 with fail
 go_cut [3] (fun s3 wx=>∃ N BA BC H1,s3=.pointer (some ⟨N,0,none⟩)∧Blk wx N 26 #[.int .i64 x.kind,.int .u64 x.n,.slice BA x.bytes.length BC,.slice none 0 0]∧Blk wx w.heap.size 26 #[.int .i64 x.kind,.int .u64 x.n,.slice ba x.bytes.length bc,.slice ia x.items.length ic]∧
  Blk wx (w.heap.size+1) 26 #[.int .i64 0,.int .u64 0,.slice none 0 0,.slice none 0 0]∧Grows w H wx H1∧IsBytes H1 BA BC x.bytes∧H1 N=none∧H1 (w.heap.size+1)=none∧w.heap.size+1<N)
 case first =>
  refine zw 9 (fun w'=>w'.cell? ⟨w.heap.size,0,none⟩=some (.int .i64 x.kind)∧w'.cell? ⟨w.heap.size,1,none⟩=some (.int .u64 x.n)∧w'.cell? ⟨w.heap.size,2,none⟩=some (.slice ba x.bytes.length bc)) (by kernel_rfl) (⟨hB.cell 0 rfl,hB.cell 1 rfl,hB.cell 2 rfl⟩) (fun zy=>?_)
  refine Tk 0 rfl zy ?_
  refine Tk 1 rfl zy ?_
  refine Tk 2 rfl zy ?_
  refine Tk 3 rfl zy ?_
  refine Tk 4 rfl zy ?_
  refine Tk 5 rfl zy ?_
  refine Ways.two (i:=6) (j:=8) rfl rfl (by kernel_rfl) (fun K hK=>?_) (fun K hK=>?_)
  ·rw[if_pos (by rfl)]
   refine yG (.const (.slice none 0 0)) (.tmp 12) rfl _ (.slice none 0 0) [] rfl (OwnB.nil _ _) ba _ bc x.bytes rfl rfl (Src.of_row HX.out.bytes.row zQ) (by simpa using uD) (Nat.le_refl _) fun v' w5 hO hg hat=>?_
   rw[List.nil_append]at hO;have qY:=yo (by simpa [Value.ownBlock] using hg);obtain⟨BA,BC,rfl,_⟩:=hO.form
   try have xg:∀ q,(Value.slice BA x.bytes.length BC).ownBlock=some q→q≠w.heap.size+1+1:=fun q hq e=>by have h1:=(hO.lt q hq).1;have h2:=hP.lt;(try simp only[zj,zu]at h1 h2);omega
   have pG:∀ q,(Value.slice BA x.bytes.length BC).ownBlock=some q→w.heap.size+1<q:=fun q hq=>by have h1:=(hO.lt q hq).1;have h2:=hT.lt;(try simp only[zj,zu]at h1 h2);omega
   have hB:=hB.below qY;have hT:=hT.below qY
   try have hP:=hP.below qY
   have hb:=hb.trans (qY.mono hb.size);have zQ:=zQ.below qY (Nat.le_refl _)
   refine Ko hK ?_ fun zy=>?_
   ·exact⟨hB.cell 0 rfl,hB.cell 1 rfl,hB.cell 2 rfl⟩
   clear hK K
   refine Tk 7 rfl zy ?_
   refine To 8 rfl fun K hK=>?_
   go_simp
   have hP:=yT hb 26 #[.int .i64 0,.int .u64 0,.slice none 0 0,.slice none 0 0]
   try have xg:∀ q,(Value.slice BA x.bytes.length BC).ownBlock=some q→q≠w5.heap.size:=fun q hq e=>by have h1:=(hO.lt q hq).2;omega
   have MV:=hT.lt
   try simp only[zj,zu]at hP MV
   have hB:=hB.alloc zW;have hT:=hT.alloc zW
   try have hO:=hO.alloc zW
   have zQ:=zQ.alloc zW;have hb:=hb.alloc hb.size zW
   refine Ko hK ?_ fun zy=>?_
   ·exact⟨hB.cell 0 rfl,hB.cell 1 rfl,hB.cell 2 rfl⟩
   clear hK K
   refine To 9 rfl fun K hK=>?_
   rw[if_pos (by rfl)]
   refine zk _ _ _ rfl _ _ rfl rfl _ _ hP zp rfl (uf _ _ _ _ rfl rfl rfl rfl) fun w6 hP xO=>?_
   have hB:=hB.gr xO (by omega);have hT:=hT.gr xO (by omega);have hb:=hb.grown xO hb.size (by rintro q ⟨⟩;omega);have zQ:=zQ.grown xO (by rintro q ⟨⟩;exact hH.none_of_ge (by omega));have hO:=hO.kept xO (by cases hv:(Value.slice BA x.bytes.length BC).ownBlock with | none=>exact .inl rfl | some q=>exact .inr (fun e=>by injection e with e;exact xg q hv e))
   refine Kz hK ?_
   clear hK K
   refine Wd ?_
   obtain⟨H1,Yt,L9,Ys,rM,rN⟩:=hO.snap zQ (fun q hq=>hH.none_of_ge (by have:=pG q (by cases BA <;> simp_all [Value.ownBlock]);omega))
   have PJ:∀ q,w.heap.size≤q→(∀ q',(Value.slice BA x.bytes.length BC).ownBlock=some q'→q'≠q)→H1 q=none:=fun q hq hd=>by
    cases fh:H1 q with
    | none=>rfl
    | some o =>
    rcases Ys q o fh with h | h
    ·rw[hH.none_of_ge hq]at h;cases h
    exact absurd rfl (hd q (by cases BA <;> simp_all [Value.ownBlock]))
   go_wp2_with fail
   go_meet
   exact⟨_,_,_,H1,rfl,hP,hB,hT,⟨hb,Yt,L9,fun b o zH=>(Ys b o zH).imp id fun h=>by have:=pG b (by cases BA <;> simp_all [Value.ownBlock]);omega⟩,rN,PJ _ (by omega) (fun q' i7=>xg q' i7),PJ _ (by omega) (fun q' i7=>by have:=pG q' i7;omega),by omega⟩
  go_simp
  have hP:=yT hb 26 #[.int .i64 0,.int .u64 0,.slice none 0 0,.slice none 0 0]
  try have xg:∀ q,(Value.slice BA x.bytes.length BC).ownBlock=some q→q≠w5.heap.size:=fun q hq e=>by have h1:=(hO.lt q hq).2;omega
  have MV:=hT.lt
  try simp only[zj,zu]at hP MV
  have hB:=hB.alloc zW;have hT:=hT.alloc zW
  try have hO:=hO.alloc zW
  have zQ:=zQ.alloc zW;have hb:=hb.alloc hb.size zW
  refine Ko hK ?_ fun zy=>?_
  ·exact⟨hB.cell 0 rfl,hB.cell 1 rfl,hB.cell 2 rfl⟩
  clear hK K
  refine To 6 rfl fun K hK=>?_
  rw[if_pos (by rfl)]
  refine yG (.const (.slice none 0 0)) (.tmp 12) rfl _ (.slice none 0 0) [] rfl (OwnB.nil _ _) ba _ bc x.bytes rfl rfl (Src.of_row HX.out.bytes.row zQ) (by simpa using uD) (Nat.le_refl _) fun v' w5 hO hg hat=>?_
  rw[List.nil_append]at hO;have qY:=yo (by simpa [Value.ownBlock] using hg);obtain⟨BA,BC,rfl,_⟩:=hO.form
  try have xg:∀ q,(Value.slice BA x.bytes.length BC).ownBlock=some q→q≠w.heap.size+1+1:=fun q hq e=>by have h1:=(hO.lt q hq).1;have h2:=hP.lt;(try simp only[zj,zu]at h1 h2);omega
  have pG:∀ q,(Value.slice BA x.bytes.length BC).ownBlock=some q→w.heap.size+1<q:=fun q hq=>by have h1:=(hO.lt q hq).1;have h2:=hT.lt;(try simp only[zj,zu]at h1 h2);omega
  have hB:=hB.below qY;have hT:=hT.below qY
  try have hP:=hP.below qY
  have hb:=hb.trans (qY.mono hb.size);have zQ:=zQ.below qY (Nat.le_refl _)
  refine Ko hK ?_ fun zy=>?_
  ·exact⟨hB.cell 0 rfl,hB.cell 1 rfl,hB.cell 2 rfl⟩
  clear hK K
  refine Tk 7 rfl zy ?_
  refine To 9 rfl fun K hK=>?_
  rw[if_pos (by rfl)]
  refine zk _ _ _ rfl _ _ rfl rfl _ _ hP zp rfl (uf _ _ _ _ rfl rfl rfl rfl) fun w6 hP xO=>?_
  have hB:=hB.gr xO (by omega);have hT:=hT.gr xO (by omega);have hb:=hb.grown xO hb.size (by rintro q ⟨⟩;omega);have zQ:=zQ.grown xO (by rintro q ⟨⟩;exact hH.none_of_ge (by omega));have hO:=hO.kept xO (by cases hv:(Value.slice BA x.bytes.length BC).ownBlock with | none=>exact .inl rfl | some q=>exact .inr (fun e=>by injection e with e;exact xg q hv e))
  refine Kz hK ?_
  clear hK K
  refine Wd ?_
  obtain⟨H1,Yt,L9,Ys,rM,rN⟩:=hO.snap zQ (fun q hq=>hH.none_of_ge (by have:=pG q (by cases BA <;> simp_all [Value.ownBlock]);omega))
  have PJ:∀ q,w.heap.size≤q→(∀ q',(Value.slice BA x.bytes.length BC).ownBlock=some q'→q'≠q)→H1 q=none:=fun q hq hd=>by
   cases fh:H1 q with
   | none=>rfl
   | some o =>
   rcases Ys q o fh with h | h
   ·rw[hH.none_of_ge hq]at h;cases h
   exact absurd rfl (hd q (by cases BA <;> simp_all [Value.ownBlock]))
  go_wp2_with fail
  go_meet
  exact⟨_,_,_,H1,rfl,hP,hB,hT,⟨hb,Yt,L9,fun b o zH=>(Ys b o zH).imp id fun h=>by have:=pG b (by cases BA <;> simp_all [Value.ownBlock]);omega⟩,rN,PJ _ (by omega) (fun q' i7=>xg q' i7),PJ _ (by omega) (fun q' i7=>by have:=pG q' i7;omega),by omega⟩
 case rest =>
 clear hB hT hb zQ;obtain⟨N,BA,BC,H1,rfl,hP,hB,hT,sC,rN,uY,uB,MV⟩:=hcut;have c3:=hB.cell 3 rfl;have dS:=hP.lt;have wK:=OwnI.nil wc (N+1) H1;clear hB;go_wp2_with fail
 go_loopw [4,18] (fun v4 v18 wr=>∃ (j:Nat) (Hr:Snap) (VA:Option Addr) (vc vn:Nat),j≤x.items.length∧v18=.int .i64 j∧v4=.slice VA vn vc∧vn=(x.items.take j).length∧Grows w H wr Hr∧H1.le Hr∧OwnI wr (N+1) (.slice VA vn vc) Hr (x.items.take j)∧
  Blk wr N 26 #[.int .i64 x.kind,.int .u64 x.n,.slice BA x.bytes.length BC,.slice none 0 0]∧Blk wr (w.heap.size+1) 26 #[.int .i64 0,.int .u64 0,.slice none 0 0,.slice none 0 0]∧Hr N=none∧Hr (w.heap.size+1)=none∧(∀ q,(Value.slice VA vn vc).ownBlock=some q→Hr q=none)) (fun _ v18 _=>x.items.length-(intOf v18).toNat)
 case atStart=>exact⟨0,H1,_,_,_,Nat.zero_le _,rfl,rfl,rfl,sC,Snap.le.refl _,wK,hP,hT,uY,uB,by intro q hq;simp[Value.ownBlock]at hq⟩
 case round =>
 clear hP hT sC uY uB wK;obtain⟨j,Hr,VA,vc,vn,hj,rfl,rfl,fk,uw,zC,wG,YU,sJ,Kq,uj,nZ⟩:=hrel;have HV:=Hh fk;clear fk
 by_cases zB:j<x.items.length
 ·obtain⟨ib,io,tf,xI⟩:=HX.out.items (by omega);obtain⟨eba,ebc,eia,eic,q0,q1,q2,q3,vW⟩:=xI.get j zB;subst tf;have p0:=(uw.holds.mono uw.le).cell q0;have p1:=(uw.holds.mono uw.le).cell q1;have p2:=(uw.holds.mono uw.le).cell q2;have p3:=(uw.holds.mono uw.le).cell q3;have xR:=uw.alloc (zi x.items[j] eba ebc eia eic);have pG:=wG.alloc (zi x.items[j] eba ebc eia eic);have Sc:=YU.alloc (zi x.items[j] eba ebc eia eic);have ug:=sJ.alloc (zi x.items[j] eba ebc eia eic);have IH:=Hh (ih x.items[j] (vx x j zB) Hr _ _ eba _ ebc eia _ eic _ (HM.out.parts.2.2.get j zB) (vW.mono uw.le).arg xR.holds);have HT:=Hh (show x.items.take (j+1)=x.items.take j++[x.items[j]] from List.take_succ_eq_append_getElem zB);have DZ:=HM.out.parts.2.1
  generalize x.items[j]'zB=y at *
  clear q0 q1 q2 q3 xI vW wG;go_wp2_with fail
  refine IH.out.mono ?_
  rintro e w6 ⟨v6,rfl,ja,jb,jc,jd,H6,rfl,xH,jg⟩
  have rq:=((pG.below xH.below).mono xH.le).alloc (.cells (zZ y ja jb jc jd).toArray 26);have wF:=(xR.trans xH).alloc (.cells (zZ y ja jb jc jd).toArray 26);have QH:=(Sc.below xH.below).alloc (.cells (zZ y ja jb jc jd).toArray 26);have WM:=(ug.below xH.below).alloc (.cells (zZ y ja jb jc jd).toArray 26);have mO:∀ q,(Value.slice VA vn vc).ownBlock=some q→H6 q=none:=fun q hq=>xH.none (nZ q hq) (pG.lt q hq).2
  have Sa:=xH.none Kq Sc.lt;have JM:=xH.none uj ug.lt;have Ja:=zC.trans xH.le;clear p0 p1 p2 p3 IH uw YU sJ xR xH Sc ug;go_wp2_with (at_builtin;refine zO ?_)
  unfold yy
  obtain rfl:=HV.out
  refine xU rfl (.tmp 22) (.tmp 25) rfl (N+1) (.slice VA _ vc) H6 _ rfl rq _ 1 _ (zZ y ja jb jc jd) [y] rfl rfl (ItemsC.one jg) (Src.new _ _ _ _ rfl _ rfl) (by rw[List.length_take];simp;omega) (by have:=QH.lt;simp only[zu]at this⊢;omega) fun v' w7 wj xj hat7=>?_
  obtain⟨VA',vc',rfl,_⟩:=wj.form;have xp:=wF.grownRow mO (fun q hq=>by have:=(rq.lt q hq).1;omega) xj;have Sd:=QH.grown xj (fun e=>by have:=(rq.lt N e).1;omega);have bN:=WM.grown xj (fun e=>by have:=(rq.lt _ e).1;omega)
  have lh:∀ q,(Value.slice VA' (x.items.take j++[y]).length vc').ownBlock=some q→H6 q=none:=fun q hq=>by
   rcases hat7 with h | ⟨g',h1,h2⟩
   ·exact mO q (by rw[← h,hq])
   rw[hq]at h1;injection h1 with h1
   subst h1
   exact wF.hidden h2
  have So:(x.items.take j++[y]).length=j+1:=by rw[← HT.out,List.length_take];omega
  rw[So]at wj lh;rw[So];rw[← HT.out]at wj;clear So;have V7:(j:Int)+1≤9223372036854775807:=by omega
  clear rq xj hat7 mO wF QH WM jg;go_wp2_with fail
  go_roundw
  case rel=>exact⟨j+1,H6,VA',vc',_,by omega,by go_num,rfl,by rw[List.length_take];omega,xp,Ja,wj,Sd,bN,Sa,JM,lh⟩
  case measure=>simp[intOf];omega
 have rO:j=x.items.length:=by omega
 subst rO;rw[List.take_length]at wG;have Ym:Hid (vn=x.items.length):=by have:=HV.out;rw[List.take_length]at this;exact this
 clear HV;obtain⟨H8,Yf,Vn,aR,Tn,tD,sv,fW⟩:=wG.snap uw.holds (fun g hg=>nZ g (by cases VA <;> simp_all [Value.ownBlock]));have rE:∀ b,VA.map (·.block)=some b→N+1≤b:=fun b hb=>(wG.lt b (by cases VA <;> simp_all [Value.ownBlock])).1
 have uX:Grows w H wr H8:=⟨uw.below,uw.le.trans Yf,Vn,fun b o hb=>by
  rcases aR b o hb with h | h
  ·exact uw.fresh b o h
  exact .inr (by have:=rE b h;omega)⟩
 have ot:∀ q,q≤N→Hr q=none→H8 q=none:=fun q hq h0=>by
  cases h8:H8 q with
  | none=>rfl
  | some o =>
  rcases aR q o h8 with h | h
  ·rw[h0]at h;cases h
  have:=rE q h;omega
 have vG:=HX.out.bounds;have HI:=Hh (IsItem.build (x:=x) (H:=H8) (ba:=BA) (bc:=BC) (ia:=VA) (ic:=vc) ⟨vG.1,vG.2.1⟩ vG.2.2.1 (rN.mono (zC.trans Yf)) tD sv fW);have aN:=ot N (Nat.le_refl _) Kq;have vg:=ot (w.heap.size+1) (by omega) uj;clear vG fW tD sv aR wG uw nZ rE ot Kq uj Tn;go_wp2_with (with_reducible refine zx ?_)
 refine zT rfl _ _ _ rfl rfl N 3 (.slice VA vn vc) rfl rfl _ _ YU sU (by simp) rfl fun w9 hP9 xr=>?_
 have nU:=sJ.gr xr (by omega);have sO:=uX.grownOwn aN (by omega) xr;have r0:=hP9.cell 0 rfl;have r1:=hP9.cell 1 rfl;have r2:=hP9.cell 2 rfl;have r3:=hP9.cell 3 rfl;clear YU sJ uX;go_wp2_with (with_reducible refine zx ?_)
 refine stI nU fun w10 pC yY=>?_
 have oZ:=sO.grownOwn vg (by omega) yY;go_wp2_with fail
 refine zR rfl rfl pC rfl rfl zp rfl ?_
 obtain rfl:=Ym.out
 exact⟨_,rfl,BA,BC,VA,vc,H8,rfl,oZ,HI.out⟩
theorem pt (x:Itm):nt x:=by
 have main:∀ N,∀ x:Itm,cnt x≤N→nt x:=by
  intro N
  induction N with
  | zero =>
   intro x hx
   have:0<cnt x:=by cases x;rw[cnt];omega
   omega
  | succ N ih =>
  intro x hx
  exact ZE x fun y hy=>ih y (by omega)
 exact main _ x (Nat.le_refl _)
theorem zS:(Tryz.prog.info? 28).map (·.size)=some 8:=by kernel_rfl
theorem ph (w:World) :
  Calls Tryz.prog 27 #[] w fun e w'=>e=.returned (.agg (zY (.mk 5 0 [] []) ⟨none,0,none,0⟩ (.mk 5 0 [] []) ⟨none,0,none,0⟩))∧Below w.heap.size w w':=by
 go_enter Tryz.func27,Tryz.ntmps27
 go_wp2_with fail
 refine zR rfl rfl (Blk.new _ _ _) rfl rfl zS rfl ?_
 exact⟨rfl,zq _ _⟩
theorem eK {H:Snap}{A:Option Addr}{c:Nat}{ls:List (List UInt8)}(hr:IsRows H A c ls) (w:World) (hH:Holds w H) :
  Calls Tryz.prog 6 #[.slice A ls.length c] w fun e w'=>e=.returned (.bool (ls.all fun l=>decide (l.length≤600)))∧w=w':=by
 have hc:=hr.max;have zC:=hr.le;have hl:ls.length≤9223372036854775807:=by omega
 have HR:=Hh hr;clear hr hc zC;go_enter Tryz.func6,Tryz.ntmps6
 go_wp2_with fail
 go_loop [7] (fun v7=>∃ k:Nat,k≤ls.length∧v7=.int .i64 k∧((ls.drop k).all fun l=>decide (l.length≤600))=(ls.all fun l=>decide (l.length≤600))) (fun v7=>ls.length-(intOf v7).toNat)
 case atStart=>exact⟨0,Nat.zero_le _,rfl,rfl⟩
 case round =>
 obtain⟨k,hk,rfl,hs⟩:=hrel;have HS:=Hh hs;clear hs
 by_cases zB:k<ls.length
 ·obtain⟨ib,io,tf,oM⟩:=HR.out.rows (by omega);obtain⟨Aj,cj,q0,_⟩:=oM k zB;subst tf;have p0:=hH.cell q0;have vR:Hid ((ls.all fun l=>decide (l.length≤600))=(decide (ls[k].length≤600)&&(ls.drop (k+1)).all fun l=>decide (l.length≤600))):=by rw[Hid,← HS.out,List.drop_eq_getElem_cons zB,List.all_cons]
  generalize ls[k]'zB=x at *
  have SH:=Hh (fun w1:World=>Ww Aj x.length cj w1);clear q0 oM
  by_cases h6:x.length≤600
  ·have d6:decide (x.length≤600)=true:=decide_eq_true h6;have EN:Hid (((ls.drop (k+1)).all fun l=>decide (l.length≤600))=(ls.all fun l=>decide (l.length≤600))):=by rw[Hid,vR.out,d6,Bool.true_and]
   rw[d6]at SH;clear h6 d6;go_wp2_with fail
   refine(SH.out _).mono ?_
   rintro e w' ⟨rfl,rfl⟩
   go_wp2_with fail
   go_round
   case rel=>exact⟨k+1,by omega,by go_num,EN.out⟩
   case measure=>simp[intOf];omega
  have d6:decide (x.length≤600)=false:=decide_eq_false h6;have EN:Hid ((ls.all fun l=>decide (l.length≤600))=false):=by rw[Hid,vR.out,d6,Bool.false_and]
  rw[d6]at SH;clear h6 d6;go_wp2_with fail
  refine(SH.out _).mono ?_
  rintro e w' ⟨rfl,rfl⟩
  go_wp2_with fail
  go_ret
  exact⟨by rw[EN.out];rfl,rfl⟩
 have rO:k=ls.length:=by omega
 subst rO;have EN:Hid ((ls.all fun l=>decide (l.length≤600))=true):=by rw[Hid,← HS.out,List.drop_length];rfl
 go_wp2_with fail
 go_ret
 exact⟨by rw[EN.out];rfl,rfl⟩
end Go.Proofs.YtliomcphdnppnaaGreatDoor
