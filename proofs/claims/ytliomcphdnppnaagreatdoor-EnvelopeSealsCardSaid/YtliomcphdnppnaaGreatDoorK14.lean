/- squeezed. Walks: the references' value. -/
import Derived.Test.YtliomcphdnppnaaGreatDoorK13
set_option linter.unusedVariables false
set_option linter.unusedSimpArgs false
set_option maxRecDepth 100000
set_option maxHeartbeats 12800000
namespace Go.Proofs.YtliomcphdnppnaaGreatDoor
open Go.RowKit
def qA:List Int:=[4,5,6,12]
theorem XR {k v:Itm}{m:List Itm}(h:yu k (zg 1)=true):wu k v m=(((v.kind==0&&decide (0<v.n))||v.kind==1)&&decide (v.n≤65535)):=by rw[wu,if_pos h]
theorem XS {k v:Itm}{m:List Itm}(h1:yu k (zg 1)=false) (h:yu k (zg 2)=true):wu k v m=(v.kind==4&&decide (0<v.items.length)&&v.items.all fun x=>(atL x m).isSome):=by rw[wu,if_neg (by simp[h1]),if_pos h]
theorem XU {k v:Itm}{m:List Itm}(h1:yu k (zg 1)=false) (h2:yu k (zg 2)=false):wu k v m=(if(qA.any fun n=>yu k (zg n))=true then v.kind==2 else true):=by
 rw[wu,if_neg (by simp[h1]),if_neg (by simp[h2])];have:(qA.any fun n=>yu k (zg n))=(yu k (zg 4)||yu k (zg 5)||yu k (zg 6)||yu k (zg 12)):=by simp[qA,Bool.or_assoc]
 rw[this]
theorem Zg {key v m:Itm}(Yu:Modest key) (QS:Modest v) (dt:Modest m) {H:Snap}{a b c:Ad}(hk:IsItem H a.ba a.bc a.ia a.ic key) (hv:IsItem H b.ba b.bc b.ia b.ic v) (hm:IsItem H c.ba c.bc c.ia c.ic m) (w:World) (hH:Holds w H) :
  Calls Tryz.prog 75 #[xq key a.ba a.bc a.ia a.ic,xq v b.ba b.bc b.ia b.ic,xq m c.ba c.bc c.ia c.ic] w fun e w'=>e=.returned (.bool (wu key v m.items))∧Below w.heap.size w w':=by
 have HK:=Hh hk;have HV:=Hh hv;have HM:=Hh hm;have TN:=Hh Yu;have Ei:=Hh QS;have od:=Hh dt;have Df:=QS.parts.2.1;have Il:=hv.bounds;have DF:=Hh Il.2.2.1;have yO:=(((Blk.new w 26 #[.int .i64 key.kind,.int .u64 key.n,.slice a.ba key.bytes.length a.bc,.slice a.ia key.items.length a.ic]).alloc (zi v b.ba b.bc b.ia b.ic)).alloc (zi m c.ba c.bc c.ia c.ic)).drew;have yV:=((Blk.new (w.alloc (zi key a.ba a.bc a.ia a.ic)) 26 #[.int .i64 v.kind,.int .u64 v.n,.slice b.ba v.bytes.length b.bc,.slice b.ia v.items.length b.ic]).alloc (zi m c.ba c.bc c.ia c.ic)).drew;have ut:=(Blk.new ((w.alloc (zi key a.ba a.bc a.ia a.ic)).alloc (zi v b.ba b.bc b.ia b.ic)) 26 #[.int .i64 m.kind,.int .u64 m.n,.slice c.ba m.bytes.length c.bc,.slice c.ia m.items.length c.ic]).drew
 simp only[zu]at yV ut
 have hb:=(((zq w (zi key a.ba a.bc a.ia a.ic)).alloc (by simp) (zi v b.ba b.bc b.ia b.ic)).alloc (by simp;omega) (zi m c.ba c.bc c.ia c.ic)).drew;have zQ:Holds (((w.alloc (zi key a.ba a.bc a.ia a.ic)).alloc (zi v b.ba b.bc b.ia b.ic)).alloc (zi m c.ba c.bc c.ia c.ic)).drew H:=(((hH.alloc _).alloc _).alloc _).drew;have IS:=Hh (fun(n:Int) (h1 : -9223372036854775808≤n) (h2:n≤9223372036854775807) (w1:World) (h:Holds w1 H)=>ui n h1 h2 w1 h);clear hk hv hm Yu QS dt Il;go_enter Tryz.func75,Tryz.ntmps75
 go_upto_region 1 with fail
 refine zw 3 (fun w'=>w'.cell? ⟨w.heap.size,0,none⟩=some (.int .i64 key.kind)∧w'.cell? ⟨w.heap.size,1,none⟩=some (.int .u64 key.n)∧w'.cell? ⟨w.heap.size,2,none⟩=some (.slice a.ba key.bytes.length a.bc)∧w'.cell? ⟨w.heap.size,3,none⟩=some (.slice a.ia key.items.length a.ic)) (by kernel_rfl) (⟨yO.cell 0 rfl,yO.cell 1 rfl,yO.cell 2 rfl,yO.cell 3 rfl⟩) (fun zy=>?_)
 refine Tk 0 rfl zy ?_
 refine To 1 rfl fun K hK=>?_
 go_simp
 refine(IS.out 1 (by omega) (by omega) _ zQ).mono ?_
 rintro e w1 ⟨v1,rfl,aU⟩
 have yO:=yO.below aU.below;have yV:=yV.below aU.below;have ut:=ut.below aU.below;have hb:=hb.trans (aU.below.mono hb.size);have QG:=zQ.below aU.below (Nat.le_refl _);obtain⟨xa,xb,xc,xd,H1,rfl,sC,rN⟩:=aU
 refine Ko hK ?_ fun zy=>?_
 ·exact⟨yO.cell 0 rfl,yO.cell 1 rfl,yO.cell 2 rfl,yO.cell 3 rfl⟩
 clear hK K
 refine To 2 rfl fun K hK=>?_
 go_simp
 refine(sZ key (zg 1) H1 _ _ a.ba _ a.bc a.ia _ a.ic _ _ xa _ xb xc _ xd _ TN.out (ua 1) (HK.out.mono sC.le).arg rN.arg sC.holds).mono ?_
 rintro e w2 ⟨rfl,zG⟩
 have yO:=yO.below zG;have yV:=yV.below zG;have ut:=ut.below zG;have hb:=hb.trans (zG.mono hb.size);have QG:=QG.below zG (Nat.le_refl _)
 refine Ko hK ?_ fun zy=>?_
 ·exact⟨yO.cell 0 rfl,yO.cell 1 rfl,yO.cell 2 rfl,yO.cell 3 rfl⟩
 clear hK K
 refine To 3 rfl fun K hK=>?_
 go_simp
 refine Kz hK ?_
 clear hK K
 refine Wd ?_
 clear zy zQ sC rN zG;have d0:=yV.cell 0 rfl;have d1:=yV.cell 1 rfl;have d3:=yV.cell 3 rfl
 cases fh:yu key (zg 1) with
 | true =>
  have E:=Hh (XR (v:=v) (m:=m.items) fh);clear fh;go_wp2_with fail
  all_goals
   go_ret
   refine⟨?_,hb⟩
   rw[E.out];show Ending.returned (Value.bool _)=_
   congr 2
   rw[Bool.eq_iff_iff]
   simp_all
   try omega
 | false =>
 have zQ:=QG.drew;have yO:=yO.drew;have yV:=yV.drew;have ut:=ut.drew;have hb:=hb.drew;clear d0 d1 d3;have Gg:=Hh fh;clear fh;go_upto_region 3 with fail
 refine zw 3 (fun w'=>w'.cell? ⟨w.heap.size,0,none⟩=some (.int .i64 key.kind)∧w'.cell? ⟨w.heap.size,1,none⟩=some (.int .u64 key.n)∧w'.cell? ⟨w.heap.size,2,none⟩=some (.slice a.ba key.bytes.length a.bc)∧w'.cell? ⟨w.heap.size,3,none⟩=some (.slice a.ia key.items.length a.ic)) (by kernel_rfl) (⟨yO.cell 0 rfl,yO.cell 1 rfl,yO.cell 2 rfl,yO.cell 3 rfl⟩) (fun zy=>?_)
 refine Tk 0 rfl zy ?_
 refine To 1 rfl fun K hK=>?_
 go_simp
 refine(IS.out 2 (by omega) (by omega) _ zQ).mono ?_
 rintro e w3 ⟨v3,rfl,rt⟩
 have yO:=yO.below rt.below;have yV:=yV.below rt.below;have ut:=ut.below rt.below;have hb:=hb.trans (rt.below.mono hb.size);have QG:=zQ.below rt.below (Nat.le_refl _);obtain⟨ya,yb,yc,yd,H3,rfl,ye,rp⟩:=rt
 refine Ko hK ?_ fun zy=>?_
 ·exact⟨yO.cell 0 rfl,yO.cell 1 rfl,yO.cell 2 rfl,yO.cell 3 rfl⟩
 clear hK K
 refine To 2 rfl fun K hK=>?_
 go_simp
 refine(sZ key (zg 2) H3 _ _ a.ba _ a.bc a.ia _ a.ic _ _ ya _ yb yc _ yd _ TN.out (ua 2) (HK.out.mono ye.le).arg rp.arg ye.holds).mono ?_
 rintro e w4 ⟨rfl,sK⟩
 have yO:=yO.below sK;have yV:=yV.below sK;have ut:=ut.below sK;have hb:=hb.trans (sK.mono hb.size);have QG:=QG.below sK (Nat.le_refl _)
 refine Ko hK ?_ fun zy=>?_
 ·exact⟨yO.cell 0 rfl,yO.cell 1 rfl,yO.cell 2 rfl,yO.cell 3 rfl⟩
 clear hK K
 refine To 3 rfl fun K hK=>?_
 go_simp
 refine Kz hK ?_
 clear hK K
 refine Wd ?_
 clear zy zQ ye rp sK;have d0:=yV.cell 0 rfl;have d3:=yV.cell 3 rfl
 cases fj:yu key (zg 2) with
 | true =>
  have E:=Hh (XS (v:=v) (m:=m.items) Gg.out fj);clear fj
  by_cases h4:v.kind=4
  case neg =>
   have EE:Hid (wu key v m.items=false):=by rw[Hid,E.out];simp[h4]
   have b4:(v.kind != 4)=true:=by simp[h4]
   have p4:(v.kind=4)=False:=eq_false h4;clear h4;go_wp2_with fail
   go_ret
   exact⟨by rw[EE.out];rfl,hb⟩
  have b4:(v.kind != 4)=false:=by simp[h4]
  have p4:(v.kind=4)=True:=eq_true h4;have e4:(v.kind==4)=true:=by simp[h4]
  by_cases h0:v.items.length=0
  case pos =>
   have EE:Hid (wu key v m.items=false):=by rw[Hid,E.out];simp[h0]
   have b0:((v.items.length:Int)==0)=true:=by rw[beq_iff_eq];omega
   have p0:(v.items=[])=True:=eq_true (List.length_eq_zero_iff.1 h0);clear h0 h4 e4;go_wp2_with fail
   go_ret
   exact⟨by rw[EE.out];rfl,hb⟩
  have b0:((v.items.length:Int)==0)=false:=by rw[beq_eq_false_iff_ne];omega
  have p0:(v.items=[])=False:=eq_false (fun h=>h0 (by rw[h];rfl));have EE:Hid (wu key v m.items=v.items.all fun x=>(atL x m.items).isSome):=by rw[Hid,E.out,e4,decide_eq_true (by omega)];simp
  clear h4 e4 h0 E;go_wp2_with fail
  go_loopw [51] (fun v51 wr=>∃ j:Nat,j≤v.items.length∧v51=.int .i64 j∧((v.items.drop j).all fun x=>(atL x m.items).isSome)=(v.items.all fun x=>(atL x m.items).isSome)∧Below w.heap.size w wr∧Blk wr (w.heap.size+1+1) 26 #[.int .i64 m.kind,.int .u64 m.n,.slice c.ba m.bytes.length c.bc,.slice c.ia m.items.length c.ic]) (fun v51 _=>v.items.length-(intOf v51).toNat)
  case atStart=>exact⟨0,Nat.zero_le _,rfl,rfl,hb,ut⟩
  case round =>
  obtain⟨j,hj,rfl,hs,yS,M9⟩:=hrel;have HS:=Hh hs;clear hs d0 d3
  by_cases zB:j<v.items.length
  ·have yD:Holds wr H:=hH.below yS (Nat.le_refl _);obtain⟨ib,io,tf,xI⟩:=HV.out.items (by omega);obtain⟨y1,y2,y3,y4,q0,q1,q2,q3,vW⟩:=xI.get j zB;have Jr:b.ia=some ⟨ib,io,none⟩:=tf;have p0':=yD.cell q0;have p1':=yD.cell q1;have p2':=yD.cell q2;have p3':=yD.cell q3;have vR:Hid (((v.items.drop j).all fun x=>(atL x m.items).isSome)=((atL v.items[j] m.items).isSome&&(v.items.drop (j+1)).all fun x=>(atL x m.items).isSome)):=by rw[Hid,List.drop_eq_getElem_cons zB,List.all_cons]
   have IH:=Hh (fun w1:World=>fun h1:Holds w1 H=>dA od.out (Ei.out.parts.2.2.get j zB) HM.out.arg vW.arg w1 h1)
   generalize v.items[j]'zB=u at *
   have PC:=yD.alloc (zi u y1 y2 y3 y4);have zJ:=yS.alloc yS.size (zi u y1 y2 y3 y4);have QD:=M9.alloc (zi u y1 y2 y3 y4);have f0:=QD.cell 0 rfl;have f1:=QD.cell 1 rfl;have f2:=QD.cell 2 rfl;have f3:=QD.cell 3 rfl;clear xI vW q0 q1 q2 q3 tf;rw[Jr];go_wp2_with fail
   refine(IH.out _ PC).mono ?_
   rintro e w6 ⟨⟨ra,rb,rc,rd,rfl,_⟩,xT⟩
   have vh:=zJ.trans (xT.mono zJ.size);have dg:=QD.below xT
   generalize hg:atL u m.items=o at *
   clear zJ QD PC f0 f1 f2 f3 xT
   cases o with
   | none =>
    have EN:Hid (wu key v m.items=false):=by rw[Hid,EE.out,← HS.out,vR.out];rfl
    have rm:=vh.alloc vh.size (zi ((none:Option Itm).getD zm) ra rb rc rd);clear hg;go_wp2_with fail
    go_ret
    exact⟨by rw[EN.out];rfl,rm⟩
   | some y =>
   have EN:Hid (((v.items.drop (j+1)).all fun x=>(atL x m.items).isSome)=(v.items.all fun x=>(atL x m.items).isSome)):=by rw[Hid,← HS.out,vR.out];rfl
   have rm:=vh.alloc vh.size (zi ((some y:Option Itm).getD zm) ra rb rc rd);have Ke:=dg.alloc (zi ((some y:Option Itm).getD zm) ra rb rc rd);clear hg;go_wp2_with fail
   go_roundw
   case rel=>exact⟨j+1,by omega,by go_num,EN.out,rm,Ke⟩
   case measure=>simp[intOf];omega
  have ip:j=v.items.length:=by omega
  subst ip;have EN:Hid (wu key v m.items=true):=by rw[Hid,EE.out,← HS.out,List.drop_length];rfl
  go_wp2_with fail
  go_ret
  exact⟨by rw[EN.out];rfl,yS⟩
 | false =>
 have E:=Hh (XU (v:=v) (m:=m.items) Gg.out fj);clear fj d0 d3;have hI:=Blk.new w4 3 #[.int .i64 4,.int .i64 5,.int .i64 6,.int .i64 12];have yO:=yO.alloc (.cells #[.int .i64 4,.int .i64 5,.int .i64 6,.int .i64 12] 3);have yV:=yV.alloc (.cells #[.int .i64 4,.int .i64 5,.int .i64 6,.int .i64 12] 3);have hb:=hb.alloc hb.size (.cells #[.int .i64 4,.int .i64 5,.int .i64 6,.int .i64 12] 3);go_wp2_with fail
 go_loopw [66] (fun v66 wr=>∃ j:Nat,j≤4∧v66=.int .i64 j∧((qA.drop j).any fun n=>yu key (zg n))=(qA.any fun n=>yu key (zg n))∧Below w.heap.size w wr∧Blk wr w.heap.size 26 #[.int .i64 key.kind,.int .u64 key.n,.slice a.ba key.bytes.length a.bc,.slice a.ia key.items.length a.ic]∧
  Blk wr (w.heap.size+1) 26 #[.int .i64 v.kind,.int .u64 v.n,.slice b.ba v.bytes.length b.bc,.slice b.ia v.items.length b.ic]∧Blk wr w4.heap.size 3 #[.int .i64 4,.int .i64 5,.int .i64 6,.int .i64 12]) (fun v66 _=>4-(intOf v66).toNat)
 case atStart=>exact⟨0,by omega,rfl,rfl,hb,yO,yV,hI⟩
 case round =>
 obtain⟨j,hj,rfl,hs,yS,tE,sN,Q9⟩:=hrel;have HS:=Hh hs;clear hs
 by_cases zB:j<4
 ·have Tf:∃ nv:Int,wr.cell? ⟨w4.heap.size,j,none⟩=some (.int .i64 nv)∧qA.drop j=nv::qA.drop (j+1)∧0≤nv∧nv≤12:=by
   rcases(by omega:j=0∨j=1∨j=2∨j=3) with rfl | rfl | rfl | rfl
   ·exact⟨4,Q9.cell 0 rfl,rfl,by omega,by omega⟩
   ·exact⟨5,Q9.cell 1 rfl,rfl,by omega,by omega⟩
   ·exact⟨6,Q9.cell 2 rfl,rfl,by omega,by omega⟩
   exact⟨12,Q9.cell 3 rfl,rfl,by omega,by omega⟩
  obtain⟨nv,yR,fP,uY,uB⟩:=Tf;have vR:Hid (((qA.drop j).any fun n=>yu key (zg n))=(yu key (zg nv)||(qA.drop (j+1)).any fun n=>yu key (zg n))):=by rw[Hid,fP,List.any_cons]
  have PC:Holds wr.drew H:=(hH.below yS (Nat.le_refl _)).drew;have qI:=tE.drew;have jY:=sN.drew;have P8:=Q9.drew;have zJ:=yS.drew;clear fP;go_upto_region 17 with fail
  refine zw 3 (fun w'=>w'.cell? ⟨w.heap.size,0,none⟩=some (.int .i64 key.kind)∧w'.cell? ⟨w.heap.size,1,none⟩=some (.int .u64 key.n)∧w'.cell? ⟨w.heap.size,2,none⟩=some (.slice a.ba key.bytes.length a.bc)∧w'.cell? ⟨w.heap.size,3,none⟩=some (.slice a.ia key.items.length a.ic)) (by kernel_rfl) (⟨qI.cell 0 rfl,qI.cell 1 rfl,qI.cell 2 rfl,qI.cell 3 rfl⟩) (fun zy=>?_)
  refine Tk 0 rfl zy ?_
  refine Tk 1 rfl zy ?_
  refine To 2 rfl fun K hK=>?_
  go_simp
  refine(IS.out nv (by omega) (by omega) _ PC).mono ?_
  rintro e w5 ⟨v5,rfl,dX⟩
  have qI:=qI.below dX.below;have jY:=jY.below dX.below;have P8:=P8.below dX.below;have zJ:=zJ.trans (dX.below.mono zJ.size);obtain⟨za,zb,zc,zd,H5,rfl,wn,Vo⟩:=dX
  refine Ko hK ?_ fun zy=>?_
  ·exact⟨qI.cell 0 rfl,qI.cell 1 rfl,qI.cell 2 rfl,qI.cell 3 rfl⟩
  clear hK K
  refine To 3 rfl fun K hK=>?_
  go_simp
  refine(sZ key (zg nv) H5 _ _ a.ba _ a.bc a.ia _ a.ic _ _ za _ zb zc _ zd _ TN.out (ua nv) (HK.out.mono wn.le).arg Vo.arg wn.holds).mono ?_
  rintro e w6 ⟨rfl,xT⟩
  have qI:=qI.below xT;have jY:=jY.below xT;have P8:=P8.below xT;have zJ:=zJ.trans (xT.mono zJ.size)
  refine Kz hK ?_
  clear hK K
  refine Wd ?_
  have d0:=jY.cell 0 rfl;clear zy PC wn Vo xT yR tE sN Q9 yS
  cases hq:yu key (zg nv) with
  | true =>
   have EN:Hid (wu key v m.items=(v.kind==2)):=by rw[Hid,E.out,← HS.out,vR.out,hq];rfl
   clear hq;go_wp2_with fail
   go_ret
   exact⟨by rw[EN.out];rfl,zJ⟩
  | false =>
  have EN:Hid (((qA.drop (j+1)).any fun n=>yu key (zg n))=(qA.any fun n=>yu key (zg n))):=by rw[Hid,← HS.out,vR.out,hq];rfl
  clear hq;go_wp2_with fail
  go_roundw
  case rel=>exact⟨j+1,by omega,by go_num,EN.out,zJ,qI,jY,P8⟩
  case measure=>simp[intOf];omega
 have Fo:j=4:=by omega
 subst Fo;have EN:Hid (wu key v m.items=true):=by rw[Hid,E.out,← HS.out];rfl
 go_wp2_with fail
 go_ret
 exact⟨by rw[EN.out];rfl,yS⟩
end Go.Proofs.YtliomcphdnppnaaGreatDoor
