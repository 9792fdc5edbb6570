/- squeezed. Walks: the references' Copy, List, -/
import Derived.Test.YtliomcphdnppnaaGreatDoorK11
set_option linter.unusedVariables false
set_option linter.unusedSimpArgs false
set_option maxRecDepth 100000
set_option maxHeartbeats 6400000
namespace Go.Proofs.YtliomcphdnppnaaGreatDoor
open Go.RowKit
theorem jaz{P:Prop}(h:P:=by
 refine To 9 rfl fun K hK=>?_
 rw[if_pos (by rfl)]
 refine zh _ _ _ rfl _ _ rfl rfl _ _ hP zu rfl (tR _ _ _ _ rfl rfl rfl rfl) fun w6 hP ws=>?_
 have hB:=hB.gr ws (by omega);have hT:=hT.gr ws (by omega);have hb:=hb.grown ws hb.size (by rintro q ⟨⟩;omega);have zE:=zE.grown ws (by rintro q ⟨⟩;exact hH.none_of_ge (by omega));have hO:=hO.kept ws (by cases hv:(Value.slice BA x.bytes.length BC).ownBlock with | none=>exact .inl rfl | some q=>exact .inr (fun e=>by injection e with e;exact vl q hv e))
 refine Kz hK ?_
 clear hK K
 refine Wd ?_
 obtain⟨H1,dG,hh1,ki,rE,oF⟩:=hO.snap zE (fun q hq=>hH.none_of_ge (by have:=ob q (by cases BA <;> simp_all [Value.ownBlock]);omega))
 have Dh:∀ q,w.heap.size≤q→(∀ q',(Value.slice BA x.bytes.length BC).ownBlock=some q'→q'≠q)→H1 q=none:=fun q hq hd=>by
  cases jy:H1 q with
  | none=>rfl
  | some o =>
  rcases ki q o jy with h | h
  ·rw[hH.none_of_ge hq]at h;cases h
  exact absurd rfl (hd q (by cases BA <;> simp_all [Value.ownBlock]))
 go_wp2_with fail
 go_meet
 exact⟨_,_,_,H1,rfl,hP,hB,hT,⟨hb,dG,hh1,fun b o zB=>(ki b o zB).imp id fun h=>by have:=ob b (by cases BA <;> simp_all [Value.ownBlock]);omega⟩,oF,Dh _ (by omega) (fun q' ag=>vl q' ag),Dh _ (by omega) (fun q' ag=>by have:=ob q' ag;omega),by omega⟩):P:=h
theorem jcn{P:Prop}(h:P:=by exact⟨hB.cell 0 rfl,hB.cell 1 rfl,hB.cell 2 rfl⟩):P:=h
theorem jdb{P:Prop}(h:P:=by
 go_wp2_with fail
 refine zF rfl rfl (Blk.new _ _ _) rfl rfl zD rfl ?_
 exact⟨rfl,zo _ _⟩):P:=h
theorem jfC{P:Prop}(h:P:=by have hP:=xl hb 26 #[.int .i64 0,.int .u64 0,.slice none 0 0,.slice none 0 0];exact hP):P:=h
theorem jfW{P:Prop}(h:P:=by have nM:=xe (by simpa [Value.ownBlock] using hg);exact nM):P:=h
theorem IsItem.build {H:Snap}{x:Itm}{ba:Option Addr}{bc:Nat}{ia:Option Addr}{ic:Nat}(hk : -9223372036854775808≤x.kind∧x.kind≤9223372036854775807) (hn:x.n<18446744073709551616) (hb:IsBytes H ba bc x.bytes)
  (h1:x.items.length≤ic) (h2:ic≤9223372036854775807) (he:0<x.items.length→∃ b off,ia=some ⟨b,off,none⟩∧IsElems H b off x.items):IsItem H ba bc ia ic x:=by
 cases x
 rw[IsItem]
 exact⟨⟨hk.1,hk.2,hn,h1,h2⟩,hb,he⟩
def jP (x:Itm):Prop:=∀ (H:Snap) (k n:Int) (ba:Option Addr) (bl bc:Nat) (ia:Option Addr) (il ic:Nat) (w:World),Modest x→ItemA H k n ba bl bc ia il ic x→Holds w H→
 Calls Tryz.prog 86 #[.agg #[.int .i64 k,.int .u64 n,.slice ba bl bc,.slice ia il ic]] w fun e w'=>∃ v,e=.returned v∧Gives w H x v w'
theorem Qw (x:Itm) (ih:∀ y:Itm,cnt y<cnt x→jP y):jP x:=by
 intro H k n ba bl bc ia il ic w hm hx hH
 obtain⟨rfl,rfl,rfl,rfl,rD⟩:=hx.eqs_;have HX:=Hh rD;have HM:=Hh hm;have Wj:=hm.parts;have hB:=((Blk.new w 26 #[.int .i64 x.kind,.int .u64 x.n,.slice ba x.bytes.length bc,.slice ia x.items.length ic]).alloc zi).drew;have hT:=(Blk.new (w.alloc (zU x ba bc ia ic)) 26 #[.int .i64 0,.int .u64 0,.slice none 0 0,.slice none 0 0]).drew
 simp only[zr]at hT
 have hb:=((zo w (zU x ba bc ia ic)).alloc (by simp) zi).drew;have zE:Holds ((w.alloc (zU x ba bc ia ic)).alloc zi).drew H:=((hH.alloc _).alloc _).drew;have Wy:x.items.length≤9223372036854775807:=by omega
 have om:x.bytes.length≤1099511627776:=Wj.1;clear hx rD hm Wj;go_enter Tryz.func86,Tryz.ntmps86
 go_upto_region 1 with fail
 go_cut [3] (fun s3 wx=>∃ N BA BC H1,s3=.pointer (some ⟨N,0,none⟩)∧Blk wx N 26 #[.int .i64 x.kind,.int .u64 x.n,.slice BA x.bytes.length BC,.slice none 0 0]∧Blk wx w.heap.size 26 #[.int .i64 x.kind,.int .u64 x.n,.slice ba x.bytes.length bc,.slice ia x.items.length ic]∧
  Blk wx (w.heap.size+1) 26 #[.int .i64 0,.int .u64 0,.slice none 0 0,.slice none 0 0]∧Grows w H wx H1∧IsBytes H1 BA BC x.bytes∧H1 N=none∧H1 (w.heap.size+1)=none∧w.heap.size+1<N)
 case first =>
  refine zw 9 (fun w'=>w'.cell? ⟨w.heap.size,0,none⟩=some (.int .i64 x.kind)∧w'.cell? ⟨w.heap.size,1,none⟩=some (.int .u64 x.n)∧w'.cell? ⟨w.heap.size,2,none⟩=some (.slice ba x.bytes.length bc)) (by kernel_rfl) (⟨hB.cell 0 rfl,hB.cell 1 rfl,hB.cell 2 rfl⟩) (fun zy=>?_)
  refine Tk 0 rfl zy ?_
  refine Tk 1 rfl zy ?_
  refine Tk 2 rfl zy ?_
  refine Tk 3 rfl zy ?_
  refine Tk 4 rfl zy ?_
  refine Tk 5 rfl zy ?_
  refine Ways.two (i:=6) (j:=8) rfl rfl (by kernel_rfl) (fun K hK=>?_) (fun K hK=>?_)
  ·rw[if_pos (by rfl)]
   refine qX (.const (.slice none 0 0)) (.tmp 12) rfl _ (.slice none 0 0) [] rfl (OwnB.nil _ _) ba _ bc x.bytes rfl rfl (Src.of_row HX.out.bytes.row zE) (by simpa using om) (Nat.le_refl _) fun v' w5 hO hg hat=>?_
   rw[List.nil_append]at hO;have nM:=jfW;obtain⟨BA,BC,rfl,_⟩:=hO.form
   try have vl:∀ q,(Value.slice BA x.bytes.length BC).ownBlock=some q→q≠w.heap.size+1+1:=fun q hq e=>by have h1:=(hO.lt q hq).1;have h2:=hP.lt;(try simp only[zW,zr]at h1 h2);omega
   have ob:∀ q,(Value.slice BA x.bytes.length BC).ownBlock=some q→w.heap.size+1<q:=fun q hq=>by have h1:=(hO.lt q hq).1;have h2:=hT.lt;(try simp only[zW,zr]at h1 h2);omega
   have hB:=hB.below nM;have hT:=hT.below nM
   try have hP:=hP.below nM
   have hb:=hb.trans (nM.mono hb.size);have zE:=zE.below nM (Nat.le_refl _)
   refine Ko hK ?_ fun zy=>?_
   ·exact jcn
   clear hK K
   refine Tk 7 rfl zy ?_
   refine To 8 rfl fun K hK=>?_
   go_simp
   have hP:=jfC
   try have vl:∀ q,(Value.slice BA x.bytes.length BC).ownBlock=some q→q≠w5.heap.size:=fun q hq e=>by have h1:=(hO.lt q hq).2;omega
   have Al:=hT.lt
   try simp only[zW,zr]at hP Al
   have hB:=hB.alloc zi;have hT:=hT.alloc zi
   try have hO:=hO.alloc zi
   have zE:=zE.alloc zi;have hb:=hb.alloc hb.size zi
   refine Ko hK ?_ fun zy=>?_
   ·exact jcn
   clear hK K
   exact jaz
  go_simp
  have hP:=jfC
  try have vl:∀ q,(Value.slice BA x.bytes.length BC).ownBlock=some q→q≠w5.heap.size:=fun q hq e=>by have h1:=(hO.lt q hq).2;omega
  have Al:=hT.lt
  try simp only[zW,zr]at hP Al
  have hB:=hB.alloc zi;have hT:=hT.alloc zi
  try have hO:=hO.alloc zi
  have zE:=zE.alloc zi;have hb:=hb.alloc hb.size zi
  refine Ko hK ?_ fun zy=>?_
  ·exact jcn
  clear hK K
  refine To 6 rfl fun K hK=>?_
  rw[if_pos (by rfl)]
  refine qX (.const (.slice none 0 0)) (.tmp 12) rfl _ (.slice none 0 0) [] rfl (OwnB.nil _ _) ba _ bc x.bytes rfl rfl (Src.of_row HX.out.bytes.row zE) (by simpa using om) (Nat.le_refl _) fun v' w5 hO hg hat=>?_
  rw[List.nil_append]at hO;have nM:=jfW;obtain⟨BA,BC,rfl,_⟩:=hO.form
  try have vl:∀ q,(Value.slice BA x.bytes.length BC).ownBlock=some q→q≠w.heap.size+1+1:=fun q hq e=>by have h1:=(hO.lt q hq).1;have h2:=hP.lt;(try simp only[zW,zr]at h1 h2);omega
  have ob:∀ q,(Value.slice BA x.bytes.length BC).ownBlock=some q→w.heap.size+1<q:=fun q hq=>by have h1:=(hO.lt q hq).1;have h2:=hT.lt;(try simp only[zW,zr]at h1 h2);omega
  have hB:=hB.below nM;have hT:=hT.below nM
  try have hP:=hP.below nM
  have hb:=hb.trans (nM.mono hb.size);have zE:=zE.below nM (Nat.le_refl _)
  refine Ko hK ?_ fun zy=>?_
  ·exact jcn
  clear hK K
  refine Tk 7 rfl zy ?_
  exact jaz
 case rest =>
 clear hB hT hb zE;obtain⟨N,BA,BC,H1,rfl,hP,hB,hT,rS,oF,un,tF,Al⟩:=hcut;have c3:=jfk;have WY:=hP.lt;have uQ:=OwnI.nil wc (N+1) H1;clear hB;go_wp2_with fail
 go_loopw [4,18] (fun v4 v18 wr=>∃ (j:Nat) (Hr:Snap) (VA:Option Addr) (vc vn:Nat),j≤x.items.length∧v18=.int .i64 j∧v4=.slice VA vn vc∧vn=(x.items.take j).length∧Grows w H wr Hr∧H1.le Hr∧OwnI wr (N+1) (.slice VA vn vc) Hr (x.items.take j)∧
  Blk wr N 26 #[.int .i64 x.kind,.int .u64 x.n,.slice BA x.bytes.length BC,.slice none 0 0]∧Blk wr (w.heap.size+1) 26 #[.int .i64 0,.int .u64 0,.slice none 0 0,.slice none 0 0]∧Hr N=none∧Hr (w.heap.size+1)=none∧(∀ q,(Value.slice VA vn vc).ownBlock=some q→Hr q=none)) (fun _ v18 _=>x.items.length-(intOf v18).toNat)
 case atStart=>exact⟨0,H1,_,_,_,Nat.zero_le _,rfl,rfl,rfl,rS,Snap.le.refl _,uQ,hP,hT,un,tF,by intro q hq;simp[Value.ownBlock]at hq⟩
 case round =>
 clear hP hT rS un tF uQ;obtain⟨j,Hr,VA,vc,vn,hj,rfl,rfl,cE,rT,yw,ve,Q6,sO,hNr,uE,lj⟩:=hrel;have HV:=Hh cE;clear cE
 by_cases yu:j<x.items.length
 ·obtain⟨ib,io,rC,wY⟩:=HX.out.items (by omega);obtain⟨eba,ebc,eia,eic,q0,q1,q2,q3,uy⟩:=wY.get j yu;subst rC;have p0:=(rT.holds.mono rT.le).cell q0;have p1:=(rT.holds.mono rT.le).cell q1;have p2:=(rT.holds.mono rT.le).cell q2;have p3:=(rT.holds.mono rT.le).cell q3;have yE:=rT.alloc (zU x.items[j] eba ebc eia eic);have ob:=ve.alloc (zU x.items[j] eba ebc eia eic);have MZ:=Q6.alloc (zU x.items[j] eba ebc eia eic);have vU:=sO.alloc (zU x.items[j] eba ebc eia eic);have IH:=Hh (ih x.items[j] (us x j yu) Hr _ _ eba _ ebc eia _ eic _ (HM.out.parts.2.2.get j yu) (uy.mono rT.le).arg yE.holds);have HT:=Hh (show x.items.take (j+1)=x.items.take j++[x.items[j]] from List.take_succ_eq_append_getElem yu);have hlm:=HM.out.parts.2.1
  generalize x.items[j]'yu=y at *
  clear q0 q1 q2 q3 wY uy ve;go_wp2_with fail
  refine IH.out.mono ?_
  rintro e w6 ⟨v6,rfl,ja,jb,jc,jd,H6,rfl,xq,rV⟩
  have rU:=((ob.below xq.below).mono xq.le).alloc (.cells (zV y ja jb jc jd).toArray 26);have wJ:=(yE.trans xq).alloc (.cells (zV y ja jb jc jd).toArray 26);have Ma:=(MZ.below xq.below).alloc (.cells (zV y ja jb jc jd).toArray 26);have ol:=(vU.below xq.below).alloc (.cells (zV y ja jb jc jd).toArray 26);have nP:∀ q,(Value.slice VA vn vc).ownBlock=some q→H6 q=none:=fun q hq=>xq.none (lj q hq) (ob.lt q hq).2
  have hN6:=xq.none hNr MZ.lt;have zAG:=xq.none uE vU.lt;have zAv:=yw.trans xq.le;clear p0 p1 p2 p3 IH rT Q6 sO yE xq MZ vU;go_wp2_with (at_builtin;refine zH ?_)
  unfold zC
  obtain rfl:=HV.out
  refine xr rfl (.tmp 22) (.tmp 25) rfl (N+1) (.slice VA _ vc) H6 _ rfl rU _ 1 _ (zV y ja jb jc jd) [y] rfl rfl (ItemsC.one rV) (Src.new _ _ _ _ rfl _ rfl) (by rw[List.length_take];simp;omega) (by have:=Ma.lt;simp only[zr]at this⊢;omega) fun v' w7 vT ww hat7=>?_
  obtain⟨VA',vc',rfl,_⟩:=vT.form;have xJ:=wJ.grownRow nP (fun q hq=>by have:=(rU.lt q hq).1;omega) ww;have IQ:=Ma.grown ww (fun e=>by have:=(rU.lt N e).1;omega);have rG:=ol.grown ww (fun e=>by have:=(rU.lt _ e).1;omega)
  have pm:∀ q,(Value.slice VA' (x.items.take j++[y]).length vc').ownBlock=some q→H6 q=none:=fun q hq=>by
   rcases hat7 with h | ⟨g',h1,h2⟩
   ·exact nP q (by rw[← h,hq])
   rw[hq]at h1;injection h1 with h1
   subst h1
   exact wJ.hidden h2
  have TF:(x.items.take j++[y]).length=j+1:=by rw[← HT.out,List.length_take];omega
  rw[TF]at vT pm;rw[TF];rw[← HT.out]at vT;clear TF;have LY:(j:Int)+1≤9223372036854775807:=by omega
  clear rU ww hat7 nP wJ Ma ol rV;go_wp2_with fail
  go_roundw
  case rel=>exact⟨j+1,H6,VA',vc',_,by omega,by go_num,rfl,by rw[List.length_take];omega,xJ,zAv,vT,IQ,rG,hN6,zAG,pm⟩
  case measure=>simp[intOf];omega
 have qJ:j=x.items.length:=by omega
 subst qJ;rw[List.take_length]at ve;have WU:Hid (vn=x.items.length):=by have:=HV.out;rw[List.take_length]at this;exact this
 clear HV;obtain⟨H8,JU,FQ,ZP,Mm,t8,tA,Pb⟩:=ve.snap rT.holds (fun g hg=>lj g (by cases VA <;> simp_all [Value.ownBlock]));have vd:∀ b,VA.map (·.block)=some b→N+1≤b:=fun b hb=>(ve.lt b (by cases VA <;> simp_all [Value.ownBlock])).1
 have rt:Grows w H wr H8:=⟨rT.below,rT.le.trans JU,FQ,fun b o hb=>by
  rcases ZP b o hb with h | h
  ·exact rT.fresh b o h
  exact .inr (by have:=vd b h;omega)⟩
 have fC:∀ q,q≤N→Hr q=none→H8 q=none:=fun q hq h0=>by
  cases h8:H8 q with
  | none=>rfl
  | some o =>
  rcases ZP q o h8 with h | h
  ·rw[h0]at h;cases h
  have:=vd q h;omega
 have tf:=HX.out.bounds;have HI:=Hh (IsItem.build (x:=x) (H:=H8) (ba:=BA) (bc:=BC) (ia:=VA) (ic:=vc) ⟨tf.1,tf.2.1⟩ tf.2.2.1 (oF.mono (yw.trans JU)) t8 tA Pb);have T0:=fC N (Nat.le_refl _) hNr;have uo:=fC (w.heap.size+1) (by omega) uE;clear tf Pb t8 tA ZP ve rT lj vd fC hNr uE Mm;go_wp2_with (with_reducible refine zx ?_)
 refine zj rfl _ _ _ rfl rfl N 3 (.slice VA vn vc) rfl rfl _ _ Q6 tx (by simp) rfl fun w9 hP9 xR=>?_
 have od:=sO.gr xR (by omega);have qp:=rt.grownOwn T0 (by omega) xR;have r0:=hP9.cell 0 rfl;have r1:=hP9.cell 1 rfl;have r2:=hP9.cell 2 rfl;have r3:=hP9.cell 3 rfl;clear Q6 sO rt;go_wp2_with (with_reducible refine zx ?_)
 refine stI od fun w10 kU xW=>?_
 have vO:=qp.grownOwn uo (by omega) xW;go_wp2_with fail
 refine zF rfl rfl kU rfl rfl zu rfl ?_
 obtain rfl:=WU.out
 exact⟨_,rfl,BA,BC,VA,vc,H8,rfl,vO,HI.out⟩
theorem jZ (x:Itm):jP x:=by
 have main:∀ N,∀ x:Itm,cnt x≤N→jP x:=by
  intro N
  induction N with
  | zero =>
   exact jbv
  | succ N ih =>
  intro x hx
  exact Qw x fun y hy=>ih y (by omega)
 exact jcm
theorem zD:(Tryz.prog.info? 28).map (·.size)=some 8:=by kernel_rfl
theorem m6 (w:World) :
  Calls Tryz.prog 27 #[] w fun e w'=>e=.returned (.agg (zA (.mk 5 0 [] []) ⟨none,0,none,0⟩ (.mk 5 0 [] []) ⟨none,0,none,0⟩))∧Below w.heap.size w w':=by
 go_enter Tryz.func27,Tryz.ntmps27
 exact jdb
theorem XN {H:Snap}{A:Option Addr}{c:Nat}{ls:List (List UInt8)}(hr:IsRows H A c ls) (w:World) (hH:Holds w H) :
  Calls Tryz.prog 6 #[.slice A ls.length c] w fun e w'=>e=.returned (.bool (ls.all fun l=>decide (l.length≤600)))∧w=w':=by
 have hc:=hr.max;have yw:=hr.le;have hl:ls.length≤9223372036854775807:=by omega
 have HR:=Hh hr;clear hr hc yw;go_enter Tryz.func6,Tryz.ntmps6
 go_wp2_with fail
 go_loop [7] (fun v7=>∃ k:Nat,k≤ls.length∧v7=.int .i64 k∧((ls.drop k).all fun l=>decide (l.length≤600))=(ls.all fun l=>decide (l.length≤600))) (fun v7=>ls.length-(intOf v7).toNat)
 case atStart=>exact⟨0,Nat.zero_le _,rfl,rfl⟩
 case round =>
 obtain⟨k,hk,rfl,hs⟩:=hrel;have HS:=Hh hs;clear hs
 by_cases yu:k<ls.length
 ·obtain⟨ib,io,rC,me⟩:=HR.out.rows (by omega);obtain⟨Aj,cj,q0,_⟩:=me k yu;subst rC;have p0:=hH.cell q0;have uF:Hid ((ls.all fun l=>decide (l.length≤600))=(decide (ls[k].length≤600)&&(ls.drop (k+1)).all fun l=>decide (l.length≤600))):=by rw[Hid,← HS.out,List.drop_eq_getElem_cons yu,List.all_cons]
  generalize ls[k]'yu=x at *
  have SH:=Hh (fun w1:World=>NU Aj x.length cj w1);clear q0 me
  by_cases h6:x.length≤600
  ·have d6:decide (x.length≤600)=true:=decide_eq_true h6;have EN:Hid (((ls.drop (k+1)).all fun l=>decide (l.length≤600))=(ls.all fun l=>decide (l.length≤600))):=by rw[Hid,uF.out,d6,Bool.true_and]
   rw[d6]at SH;clear h6 d6;go_wp2_with fail
   refine(SH.out _).mono ?_
   rintro e w' ⟨rfl,rfl⟩
   go_wp2_with fail
   go_round
   case rel=>exact⟨k+1,by omega,by go_num,EN.out⟩
   case measure=>simp[intOf];omega
  have d6:decide (x.length≤600)=false:=decide_eq_false h6;have EN:Hid ((ls.all fun l=>decide (l.length≤600))=false):=by rw[Hid,uF.out,d6,Bool.false_and]
  rw[d6]at SH;clear h6 d6;go_wp2_with fail
  refine(SH.out _).mono ?_
  rintro e w' ⟨rfl,rfl⟩
  go_wp2_with fail
  go_ret
  exact⟨by rw[EN.out];rfl,rfl⟩
 have qJ:k=ls.length:=by omega
 subst qJ;have EN:Hid ((ls.all fun l=>decide (l.length≤600))=true):=by rw[Hid,← HS.out,List.drop_length];rfl
 go_wp2_with fail
 go_ret
 exact⟨by rw[EN.out];rfl,rfl⟩
end Go.Proofs.YtliomcphdnppnaaGreatDoor
