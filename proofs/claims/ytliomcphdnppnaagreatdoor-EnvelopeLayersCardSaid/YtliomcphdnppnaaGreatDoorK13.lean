/- squeezed. Walks: the references' Copy, List, -/
import Derived.Test.YtliomcphdnppnaaGreatDoorK11
set_option linter.unusedVariables false
set_option linter.unusedSimpArgs false
set_option maxRecDepth 100000
set_option maxHeartbeats 6400000
namespace Go.Proofs.YtliomcphdnppnaaGreatDoor
open Go.RowKit
theorem IsItem.build {H:Snap}{x:Itm}{ba:Option Addr}{bc:Nat}{ia:Option Addr}{ic:Nat}(hk : -9223372036854775808≤x.kind∧x.kind≤9223372036854775807) (hn:x.n<18446744073709551616) (hb:IsBytes H ba bc x.bytes)
  (h1:x.items.length≤ic) (h2:ic≤9223372036854775807) (he:0<x.items.length→∃ b off,ia=some ⟨b,off,none⟩∧IsElems H b off x.items):IsItem H ba bc ia ic x:=by
 cases x
 rw[IsItem]
 exact⟨⟨hk.1,hk.2,hn,h1,h2⟩,hb,he⟩
def nK (x:Itm):Prop:=∀ (H:Snap) (k n:Int) (ba:Option Addr) (bl bc:Nat) (ia:Option Addr) (il ic:Nat) (w:World),Modest x→ItemA H k n ba bl bc ia il ic x→Holds w H→
 Calls Tryz.prog 86 #[.agg #[.int .i64 k,.int .u64 n,.slice ba bl bc,.slice ia il ic]] w fun e w'=>∃ v,e=.returned v∧Gives w H x v w'
theorem XV (x:Itm) (ih:∀ y:Itm,cnt y<cnt x→nK y):nK x:=by
 intro H k n ba bl bc ia il ic w hm hx hH
 obtain⟨rfl,rfl,rfl,rfl,tD⟩:=hx.eqs_;have HX:=Hh tD;have HM:=Hh hm;have Rc:=hm.parts;have hB:=((Blk.new w 26 #[.int .i64 x.kind,.int .u64 x.n,.slice ba x.bytes.length bc,.slice ia x.items.length ic]).alloc zT).drew;have hT:=(Blk.new (w.alloc (zh x ba bc ia ic)) 26 #[.int .i64 0,.int .u64 0,.slice none 0 0,.slice none 0 0]).drew
 simp only[zr]at hT
 have hb:=((zu w (zh x ba bc ia ic)).alloc (by simp) zT).drew;have zP:Holds ((w.alloc (zh x ba bc ia ic)).alloc zT).drew H:=((hH.alloc _).alloc _).drew;have cR:x.items.length≤9223372036854775807:=by omega
 have rM:x.bytes.length≤1099511627776:=Rc.1;clear hx tD hm Rc;go_enter Tryz.func86,Tryz.ntmps86
 go_upto_region 1 with fail
 go_cut [3] (fun s3 wx=>∃ N BA BC H1,s3=.pointer (some ⟨N,0,none⟩)∧Blk wx N 26 #[.int .i64 x.kind,.int .u64 x.n,.slice BA x.bytes.length BC,.slice none 0 0]∧Blk wx w.heap.size 26 #[.int .i64 x.kind,.int .u64 x.n,.slice ba x.bytes.length bc,.slice ia x.items.length ic]∧
  Blk wx (w.heap.size+1) 26 #[.int .i64 0,.int .u64 0,.slice none 0 0,.slice none 0 0]∧Grows w H wx H1∧IsBytes H1 BA BC x.bytes∧H1 N=none∧H1 (w.heap.size+1)=none∧w.heap.size+1<N)
 case first =>
  refine zw 9 (fun w'=>w'.cell? ⟨w.heap.size,0,none⟩=some (.int .i64 x.kind)∧w'.cell? ⟨w.heap.size,1,none⟩=some (.int .u64 x.n)∧w'.cell? ⟨w.heap.size,2,none⟩=some (.slice ba x.bytes.length bc)) (by kernel_rfl) (⟨hB.cell 0 rfl,hB.cell 1 rfl,hB.cell 2 rfl⟩) (fun zy=>?_)
  refine Tk 0 rfl zy ?_
  refine Tk 1 rfl zy ?_
  refine Tk 2 rfl zy ?_
  refine Tk 3 rfl zy ?_
  refine Tk 4 rfl zy ?_
  refine Tk 5 rfl zy ?_
  refine Ways.two (i:=6) (j:=8) rfl rfl (by kernel_rfl) (fun K hK=>?_) (fun K hK=>?_)
  ·rw[if_pos (by rfl)]
   refine sn (.const (.slice none 0 0)) (.tmp 12) rfl _ (.slice none 0 0) [] rfl (OwnB.nil _ _) ba _ bc x.bytes rfl rfl (Src.of_row HX.out.bytes.row zP) (by simpa using rM) (Nat.le_refl _) fun v' w5 hO hg hat=>?_
   rw[List.nil_append]at hO;have pw:=yS (by simpa [Value.ownBlock] using hg);obtain⟨BA,BC,rfl,_⟩:=hO.form
   try have wS:∀ q,(Value.slice BA x.bytes.length BC).ownBlock=some q→q≠w.heap.size+1+1:=fun q hq e=>by have h1:=(hO.lt q hq).1;have h2:=hP.lt;(try simp only[zL,zr]at h1 h2);omega
   have rj:∀ q,(Value.slice BA x.bytes.length BC).ownBlock=some q→w.heap.size+1<q:=fun q hq=>by have h1:=(hO.lt q hq).1;have h2:=hT.lt;(try simp only[zL,zr]at h1 h2);omega
   have hB:=hB.below pw;have hT:=hT.below pw
   try have hP:=hP.below pw
   have hb:=hb.trans (pw.mono hb.size);have zP:=zP.below pw (Nat.le_refl _)
   refine Ko hK ?_ fun zy=>?_
   ·exact⟨hB.cell 0 rfl,hB.cell 1 rfl,hB.cell 2 rfl⟩
   clear hK K
   refine Tk 7 rfl zy ?_
   refine To 8 rfl fun K hK=>?_
   go_simp
   have hP:=yW hb 26 #[.int .i64 0,.int .u64 0,.slice none 0 0,.slice none 0 0]
   try have wS:∀ q,(Value.slice BA x.bytes.length BC).ownBlock=some q→q≠w5.heap.size:=fun q hq e=>by have h1:=(hO.lt q hq).2;omega
   have Kj:=hT.lt
   try simp only[zL,zr]at hP Kj
   have hB:=hB.alloc zT;have hT:=hT.alloc zT
   try have hO:=hO.alloc zT
   have zP:=zP.alloc zT;have hb:=hb.alloc hb.size zT
   refine Ko hK ?_ fun zy=>?_
   ·exact⟨hB.cell 0 rfl,hB.cell 1 rfl,hB.cell 2 rfl⟩
   clear hK K
   refine To 9 rfl fun K hK=>?_
   rw[if_pos (by rfl)]
   refine zm _ _ _ rfl _ _ rfl rfl _ _ hP zp rfl (ua _ _ _ _ rfl rfl rfl rfl) fun w6 hP xX=>?_
   have hB:=hB.gr xX (by omega);have hT:=hT.gr xX (by omega);have hb:=hb.grown xX hb.size (by rintro q ⟨⟩;omega);have zP:=zP.grown xX (by rintro q ⟨⟩;exact hH.none_of_ge (by omega));have hO:=hO.kept xX (by cases hv:(Value.slice BA x.bytes.length BC).ownBlock with | none=>exact .inl rfl | some q=>exact .inr (fun e=>by injection e with e;exact wS q hv e))
   refine Kz hK ?_
   clear hK K
   refine Wd ?_
   obtain⟨H1,ik,JV,j7,rp,qp⟩:=hO.snap zP (fun q hq=>hH.none_of_ge (by have:=rj q (by cases BA <;> simp_all [Value.ownBlock]);omega))
   have N7:∀ q,w.heap.size≤q→(∀ q',(Value.slice BA x.bytes.length BC).ownBlock=some q'→q'≠q)→H1 q=none:=fun q hq hd=>by
    cases lP:H1 q with
    | none=>rfl
    | some o =>
    rcases j7 q o lP with h | h
    ·rw[hH.none_of_ge hq]at h;cases h
    exact absurd rfl (hd q (by cases BA <;> simp_all [Value.ownBlock]))
   go_wp2_with fail
   go_meet
   exact⟨_,_,_,H1,rfl,hP,hB,hT,⟨hb,ik,JV,fun b o zJ=>(j7 b o zJ).imp id fun h=>by have:=rj b (by cases BA <;> simp_all [Value.ownBlock]);omega⟩,qp,N7 _ (by omega) (fun q' gE=>wS q' gE),N7 _ (by omega) (fun q' gE=>by have:=rj q' gE;omega),by omega⟩
  go_simp
  have hP:=yW hb 26 #[.int .i64 0,.int .u64 0,.slice none 0 0,.slice none 0 0]
  try have wS:∀ q,(Value.slice BA x.bytes.length BC).ownBlock=some q→q≠w5.heap.size:=fun q hq e=>by have h1:=(hO.lt q hq).2;omega
  have Kj:=hT.lt
  try simp only[zL,zr]at hP Kj
  have hB:=hB.alloc zT;have hT:=hT.alloc zT
  try have hO:=hO.alloc zT
  have zP:=zP.alloc zT;have hb:=hb.alloc hb.size zT
  refine Ko hK ?_ fun zy=>?_
  ·exact⟨hB.cell 0 rfl,hB.cell 1 rfl,hB.cell 2 rfl⟩
  clear hK K
  refine To 6 rfl fun K hK=>?_
  rw[if_pos (by rfl)]
  refine sn (.const (.slice none 0 0)) (.tmp 12) rfl _ (.slice none 0 0) [] rfl (OwnB.nil _ _) ba _ bc x.bytes rfl rfl (Src.of_row HX.out.bytes.row zP) (by simpa using rM) (Nat.le_refl _) fun v' w5 hO hg hat=>?_
  rw[List.nil_append]at hO;have pw:=yS (by simpa [Value.ownBlock] using hg);obtain⟨BA,BC,rfl,_⟩:=hO.form
  try have wS:∀ q,(Value.slice BA x.bytes.length BC).ownBlock=some q→q≠w.heap.size+1+1:=fun q hq e=>by have h1:=(hO.lt q hq).1;have h2:=hP.lt;(try simp only[zL,zr]at h1 h2);omega
  have rj:∀ q,(Value.slice BA x.bytes.length BC).ownBlock=some q→w.heap.size+1<q:=fun q hq=>by have h1:=(hO.lt q hq).1;have h2:=hT.lt;(try simp only[zL,zr]at h1 h2);omega
  have hB:=hB.below pw;have hT:=hT.below pw
  try have hP:=hP.below pw
  have hb:=hb.trans (pw.mono hb.size);have zP:=zP.below pw (Nat.le_refl _)
  refine Ko hK ?_ fun zy=>?_
  ·exact⟨hB.cell 0 rfl,hB.cell 1 rfl,hB.cell 2 rfl⟩
  clear hK K
  refine Tk 7 rfl zy ?_
  refine To 9 rfl fun K hK=>?_
  rw[if_pos (by rfl)]
  refine zm _ _ _ rfl _ _ rfl rfl _ _ hP zp rfl (ua _ _ _ _ rfl rfl rfl rfl) fun w6 hP xX=>?_
  have hB:=hB.gr xX (by omega);have hT:=hT.gr xX (by omega);have hb:=hb.grown xX hb.size (by rintro q ⟨⟩;omega);have zP:=zP.grown xX (by rintro q ⟨⟩;exact hH.none_of_ge (by omega));have hO:=hO.kept xX (by cases hv:(Value.slice BA x.bytes.length BC).ownBlock with | none=>exact .inl rfl | some q=>exact .inr (fun e=>by injection e with e;exact wS q hv e))
  refine Kz hK ?_
  clear hK K
  refine Wd ?_
  obtain⟨H1,ik,JV,j7,rp,qp⟩:=hO.snap zP (fun q hq=>hH.none_of_ge (by have:=rj q (by cases BA <;> simp_all [Value.ownBlock]);omega))
  have N7:∀ q,w.heap.size≤q→(∀ q',(Value.slice BA x.bytes.length BC).ownBlock=some q'→q'≠q)→H1 q=none:=fun q hq hd=>by
   cases lP:H1 q with
   | none=>rfl
   | some o =>
   rcases j7 q o lP with h | h
   ·rw[hH.none_of_ge hq]at h;cases h
   exact absurd rfl (hd q (by cases BA <;> simp_all [Value.ownBlock]))
  go_wp2_with fail
  go_meet
  exact⟨_,_,_,H1,rfl,hP,hB,hT,⟨hb,ik,JV,fun b o zJ=>(j7 b o zJ).imp id fun h=>by have:=rj b (by cases BA <;> simp_all [Value.ownBlock]);omega⟩,qp,N7 _ (by omega) (fun q' gE=>wS q' gE),N7 _ (by omega) (fun q' gE=>by have:=rj q' gE;omega),by omega⟩
 case rest =>
 clear hB hT hb zP;obtain⟨N,BA,BC,H1,rfl,hP,hB,hT,sQ,qp,uw,uH,Kj⟩:=hcut;have c3:=hB.cell 3 rfl;have BH:=hP.lt;have wD:=OwnI.nil wc (N+1) H1;clear hB;go_wp2_with fail
 go_loopw [4,18] (fun v4 v18 wr=>∃ (j:Nat) (Hr:Snap) (VA:Option Addr) (vc vn:Nat),j≤x.items.length∧v18=.int .i64 j∧v4=.slice VA vn vc∧vn=(x.items.take j).length∧Grows w H wr Hr∧H1.le Hr∧OwnI wr (N+1) (.slice VA vn vc) Hr (x.items.take j)∧
  Blk wr N 26 #[.int .i64 x.kind,.int .u64 x.n,.slice BA x.bytes.length BC,.slice none 0 0]∧Blk wr (w.heap.size+1) 26 #[.int .i64 0,.int .u64 0,.slice none 0 0,.slice none 0 0]∧Hr N=none∧Hr (w.heap.size+1)=none∧(∀ q,(Value.slice VA vn vc).ownBlock=some q→Hr q=none)) (fun _ v18 _=>x.items.length-(intOf v18).toNat)
 case atStart=>exact⟨0,H1,_,_,_,Nat.zero_le _,rfl,rfl,rfl,sQ,Snap.le.refl _,wD,hP,hT,uw,uH,by intro q hq;simp[Value.ownBlock]at hq⟩
 case round =>
 clear hP hT sQ uw uH wD;obtain⟨j,Hr,VA,vc,vn,hj,rfl,rfl,iE,tU,yx,wE,WV,rm,JB,uL,j9⟩:=hrel;have HV:=Hh iE;clear iE
 by_cases zB:j<x.items.length
 ·obtain⟨ib,io,tK,xA⟩:=HX.out.items (by omega);obtain⟨eba,ebc,eia,eic,q0,q1,q2,q3,va⟩:=xA.get j zB;subst tK;have p0:=(tU.holds.mono tU.le).cell q0;have p1:=(tU.holds.mono tU.le).cell q1;have p2:=(tU.holds.mono tU.le).cell q2;have p3:=(tU.holds.mono tU.le).cell q3;have xB:=tU.alloc (zh x.items[j] eba ebc eia eic);have rj:=wE.alloc (zh x.items[j] eba ebc eia eic);have QP:=WV.alloc (zh x.items[j] eba ebc eia eic);have tm:=rm.alloc (zh x.items[j] eba ebc eia eic);have IH:=Hh (ih x.items[j] (wL x j zB) Hr _ _ eba _ ebc eia _ eic _ (HM.out.parts.2.2.get j zB) (va.mono tU.le).arg xB.holds);have HT:=Hh (show x.items.take (j+1)=x.items.take j++[x.items[j]] from List.take_succ_eq_append_getElem zB);have Bd:=HM.out.parts.2.1
  generalize x.items[j]'zB=y at *
  clear q0 q1 q2 q3 xA va wE;go_wp2_with fail
  refine IH.out.mono ?_
  rintro e w6 ⟨v6,rfl,ja,jb,jc,jd,H6,rfl,wl,mw⟩
  have qo:=((rj.below wl.below).mono wl.le).alloc (.cells (zQ y ja jb jc jd).toArray 26);have vV:=(xB.trans wl).alloc (.cells (zQ y ja jb jc jd).toArray 26);have Tw:=(QP.below wl.below).alloc (.cells (zQ y ja jb jc jd).toArray 26);have RR:=(tm.below wl.below).alloc (.cells (zQ y ja jb jc jd).toArray 26);have Yy:∀ q,(Value.slice VA vn vc).ownBlock=some q→H6 q=none:=fun q hq=>wl.none (j9 q hq) (rj.lt q hq).2
  have JA:=wl.none JB QP.lt;have Hm:=wl.none uL tm.lt;have IA:=yx.trans wl.le;clear p0 p1 p2 p3 IH tU WV rm xB wl QP tm;go_wp2_with (at_builtin;refine zM ?_)
  unfold zD
  obtain rfl:=HV.out
  refine wm rfl (.tmp 22) (.tmp 25) rfl (N+1) (.slice VA _ vc) H6 _ rfl qo _ 1 _ (zQ y ja jb jc jd) [y] rfl rfl (ItemsC.one mw) (Src.new _ _ _ _ rfl _ rfl) (by rw[List.length_take];simp;omega) (by have:=Tw.lt;simp only[zr]at this⊢;omega) fun v' w7 vX wh hat7=>?_
  obtain⟨VA',vc',rfl,_⟩:=vX.form;have yA:=vV.grownRow Yy (fun q hq=>by have:=(qo.lt q hq).1;omega) wh;have QQ:=Tw.grown wh (fun e=>by have:=(qo.lt N e).1;omega);have Wj:=RR.grown wh (fun e=>by have:=(qo.lt _ e).1;omega)
  have mz:∀ q,(Value.slice VA' (x.items.take j++[y]).length vc').ownBlock=some q→H6 q=none:=fun q hq=>by
   rcases hat7 with h | ⟨g',h1,h2⟩
   ·exact Yy q (by rw[← h,hq])
   rw[hq]at h1;injection h1 with h1
   subst h1
   exact vV.hidden h2
  have Qf:(x.items.take j++[y]).length=j+1:=by rw[← HT.out,List.length_take];omega
  rw[Qf]at vX mz;rw[Qf];rw[← HT.out]at vX;clear Qf;have TD:(j:Int)+1≤9223372036854775807:=by omega
  clear qo wh hat7 Yy vV Tw RR mw;go_wp2_with fail
  go_roundw
  case rel=>exact⟨j+1,H6,VA',vc',_,by omega,by go_num,rfl,by rw[List.length_take];omega,yA,IA,vX,QQ,Wj,JA,Hm,mz⟩
  case measure=>simp[intOf];omega
 have qq:j=x.items.length:=by omega
 subst qq;rw[List.take_length]at wE;have Wc:Hid (vn=x.items.length):=by have:=HV.out;rw[List.take_length]at this;exact this
 clear HV;obtain⟨H8,RV,OH,fA,Ob,rU,rH,Vt⟩:=wE.snap tU.holds (fun g hg=>j9 g (by cases VA <;> simp_all [Value.ownBlock]));have nk:∀ b,VA.map (·.block)=some b→N+1≤b:=fun b hb=>(wE.lt b (by cases VA <;> simp_all [Value.ownBlock])).1
 have tr:Grows w H wr H8:=⟨tU.below,tU.le.trans RV,OH,fun b o hb=>by
  rcases fA b o hb with h | h
  ·exact tU.fresh b o h
  exact .inr (by have:=nk b h;omega)⟩
 have kQ:∀ q,q≤N→Hr q=none→H8 q=none:=fun q hq h0=>by
  cases h8:H8 q with
  | none=>rfl
  | some o =>
  rcases fA q o h8 with h | h
  ·rw[h0]at h;cases h
  have:=nk q h;omega
 have uV:=HX.out.bounds;have HI:=Hh (IsItem.build (x:=x) (H:=H8) (ba:=BA) (bc:=BC) (ia:=VA) (ic:=vc) ⟨uV.1,uV.2.1⟩ uV.2.2.1 (qp.mono (yx.trans RV)) rU rH Vt);have Ys:=kQ N (Nat.le_refl _) JB;have vo:=kQ (w.heap.size+1) (by omega) uL;clear uV Vt rU rH fA wE tU j9 nk kQ JB uL Ob;go_wp2_with (with_reducible refine zx ?_)
 refine ze rfl _ _ _ rfl rfl N 3 (.slice VA vn vc) rfl rfl _ _ WV ry (by simp) rfl fun w9 hP9 yL=>?_
 have kj:=rm.gr yL (by omega);have tI:=tr.grownOwn Ys (by omega) yL;have r0:=hP9.cell 0 rfl;have r1:=hP9.cell 1 rfl;have r2:=hP9.cell 2 rfl;have r3:=hP9.cell 3 rfl;clear WV rm tr;go_wp2_with (with_reducible refine zx ?_)
 refine stI kj fun w10 lF wk=>?_
 have tT:=tI.grownOwn vo (by omega) wk;go_wp2_with fail
 refine zO rfl rfl lF rfl rfl zp rfl ?_
 obtain rfl:=Wc.out
 exact⟨_,rfl,BA,BC,VA,vc,H8,rfl,tT,HI.out⟩
theorem nS (x:Itm):nK x:=by
 have main:∀ N,∀ x:Itm,cnt x≤N→nK x:=by
  intro N
  induction N with
  | zero =>
   intro x hx
   have:0<cnt x:=by cases x;rw[cnt];omega
   omega
  | succ N ih =>
  intro x hx
  exact XV x fun y hy=>ih y (by omega)
 exact main _ x (Nat.le_refl _)
theorem zN:(Tryz.prog.info? 28).map (·.size)=some 8:=by kernel_rfl
theorem pN (w:World) :
  Calls Tryz.prog 27 #[] w fun e w'=>e=.returned (.agg (zF (.mk 5 0 [] []) ⟨none,0,none,0⟩ (.mk 5 0 [] []) ⟨none,0,none,0⟩))∧Below w.heap.size w w':=by
 go_enter Tryz.func27,Tryz.ntmps27
 go_wp2_with fail
 refine zO rfl rfl (Blk.new _ _ _) rfl rfl zN rfl ?_
 exact⟨rfl,zu _ _⟩
theorem dA {H:Snap}{A:Option Addr}{c:Nat}{ls:List (List UInt8)}(hr:IsRows H A c ls) (w:World) (hH:Holds w H) :
  Calls Tryz.prog 6 #[.slice A ls.length c] w fun e w'=>e=.returned (.bool (ls.all fun l=>decide (l.length≤600)))∧w=w':=by
 have hc:=hr.max;have yx:=hr.le;have hl:ls.length≤9223372036854775807:=by omega
 have HR:=Hh hr;clear hr hc yx;go_enter Tryz.func6,Tryz.ntmps6
 go_wp2_with fail
 go_loop [7] (fun v7=>∃ k:Nat,k≤ls.length∧v7=.int .i64 k∧((ls.drop k).all fun l=>decide (l.length≤600))=(ls.all fun l=>decide (l.length≤600))) (fun v7=>ls.length-(intOf v7).toNat)
 case atStart=>exact⟨0,Nat.zero_le _,rfl,rfl⟩
 case round =>
 obtain⟨k,hk,rfl,hs⟩:=hrel;have HS:=Hh hs;clear hs
 by_cases zB:k<ls.length
 ·obtain⟨ib,io,tK,kZ⟩:=HR.out.rows (by omega);obtain⟨Aj,cj,q0,_⟩:=kZ k zB;subst tK;have p0:=hH.cell q0;have vd:Hid ((ls.all fun l=>decide (l.length≤600))=(decide (ls[k].length≤600)&&(ls.drop (k+1)).all fun l=>decide (l.length≤600))):=by rw[Hid,← HS.out,List.drop_eq_getElem_cons zB,List.all_cons]
  generalize ls[k]'zB=x at *
  have SH:=Hh (fun w1:World=>UX Aj x.length cj w1);clear q0 kZ
  by_cases h6:x.length≤600
  ·have d6:decide (x.length≤600)=true:=decide_eq_true h6;have EN:Hid (((ls.drop (k+1)).all fun l=>decide (l.length≤600))=(ls.all fun l=>decide (l.length≤600))):=by rw[Hid,vd.out,d6,Bool.true_and]
   rw[d6]at SH;clear h6 d6;go_wp2_with fail
   refine(SH.out _).mono ?_
   rintro e w' ⟨rfl,rfl⟩
   go_wp2_with fail
   go_round
   case rel=>exact⟨k+1,by omega,by go_num,EN.out⟩
   case measure=>simp[intOf];omega
  have d6:decide (x.length≤600)=false:=decide_eq_false h6;have EN:Hid ((ls.all fun l=>decide (l.length≤600))=false):=by rw[Hid,vd.out,d6,Bool.false_and]
  rw[d6]at SH;clear h6 d6;go_wp2_with fail
  refine(SH.out _).mono ?_
  rintro e w' ⟨rfl,rfl⟩
  go_wp2_with fail
  go_ret
  exact⟨by rw[EN.out];rfl,rfl⟩
 have qq:k=ls.length:=by omega
 subst qq;have EN:Hid ((ls.all fun l=>decide (l.length≤600))=true):=by rw[Hid,← HS.out,List.drop_length];rfl
 go_wp2_with fail
 go_ret
 exact⟨by rw[EN.out];rfl,rfl⟩
end Go.Proofs.YtliomcphdnppnaaGreatDoor
