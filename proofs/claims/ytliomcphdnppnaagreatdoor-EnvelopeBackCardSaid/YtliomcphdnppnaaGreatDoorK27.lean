/- squeezed. Walks: the references' value. -/
import Derived.Test.YtliomcphdnppnaaGreatDoorK26
set_option linter.unusedVariables false
set_option linter.unusedSimpArgs false
set_option maxRecDepth 100000
set_option maxHeartbeats 12800000
namespace Go.Proofs.YtliomcphdnppnaaGreatDoor
open Go.RowKit
theorem jb0{P:Prop}(h:P:=by exact⟨xX.cell 0 rfl,xX.cell 1 rfl,xX.cell 2 rfl,xX.cell 3 rfl⟩):P:=h
def mV:List Int:=[4,5,6,12]
theorem OB {k v:Itm}{m:List Itm}(h:yL k (zS 1)=true):vx k v m=(((v.kind==0&&decide (0<v.n))||v.kind==1)&&decide (v.n≤65535)):=by rw[vx,if_pos h]
theorem OC {k v:Itm}{m:List Itm}(h1:yL k (zS 1)=false) (h:yL k (zS 2)=true):vx k v m=(v.kind==4&&decide (0<v.items.length)&&v.items.all fun x=>(atL x m).isSome):=by rw[vx,if_neg (by simp[h1]),if_pos h]
theorem OD {k v:Itm}{m:List Itm}(h1:yL k (zS 1)=false) (h2:yL k (zS 2)=false):vx k v m=(if(mV.any fun n=>yL k (zS n))=true then v.kind==2 else true):=by
 rw[vx,if_neg (by simp[h1]),if_neg (by simp[h2])];have:(mV.any fun n=>yL k (zS n))=(yL k (zS 4)||yL k (zS 5)||yL k (zS 6)||yL k (zS 12)):=by simp[mV,Bool.or_assoc]
 rw[this]
theorem Rv {key v m:Itm}(QV:Modest key) (Fb:Modest v) (fm:Modest m) {H:Snap}{a b c:Ad}(hk:IsItem H a.ba a.bc a.ia a.ic key) (hv:IsItem H b.ba b.bc b.ia b.ic v) (hm:IsItem H c.ba c.bc c.ia c.ic m) (w:World) (hH:Holds w H) :
  Calls Tryz.prog 75 #[xp key a.ba a.bc a.ia a.ic,xp v b.ba b.bc b.ia b.ic,xp m c.ba c.bc c.ia c.ic] w fun e w'=>e=.returned (.bool (vx key v m.items))∧Below w.heap.size w w':=by
 have HK:=Hh hk;have HV:=Hh hv;have HM:=Hh hm;have JA:=Hh QV;have HMV:=Hh Fb;have oZ:=Hh fm;have hvl:=Fb.parts.2.1;have hvb:=hv.bounds;have HNV:=Hh hvb.2.2.1;have xX:=(((Blk.new w 26 #[.int .i64 key.kind,.int .u64 key.n,.slice a.ba key.bytes.length a.bc,.slice a.ia key.items.length a.ic]).alloc (zU v b.ba b.bc b.ia b.ic)).alloc (zU m c.ba c.bc c.ia c.ic)).drew;have yQ:=((Blk.new (w.alloc (zU key a.ba a.bc a.ia a.ic)) 26 #[.int .i64 v.kind,.int .u64 v.n,.slice b.ba v.bytes.length b.bc,.slice b.ia v.items.length b.ic]).alloc (zU m c.ba c.bc c.ia c.ic)).drew;have wi:=(Blk.new ((w.alloc (zU key a.ba a.bc a.ia a.ic)).alloc (zU v b.ba b.bc b.ia b.ic)) 26 #[.int .i64 m.kind,.int .u64 m.n,.slice c.ba m.bytes.length c.bc,.slice c.ia m.items.length c.ic]).drew
 simp only[zr]at yQ wi
 have hb:=(((zo w (zU key a.ba a.bc a.ia a.ic)).alloc (by simp) (zU v b.ba b.bc b.ia b.ic)).alloc (by simp;omega) (zU m c.ba c.bc c.ia c.ic)).drew;have zE:Holds (((w.alloc (zU key a.ba a.bc a.ia a.ic)).alloc (zU v b.ba b.bc b.ia b.ic)).alloc (zU m c.ba c.bc c.ia c.ic)).drew H:=(((hH.alloc _).alloc _).alloc _).drew;have IS:=Hh (fun(n:Int) (h1 : -9223372036854775808≤n) (h2:n≤9223372036854775807) (w1:World) (h:Holds w1 H)=>tD n h1 h2 w1 h);clear hk hv hm QV Fb fm hvb;go_enter Tryz.func75,Tryz.ntmps75
 go_upto_region 1 with fail
 refine zw 3 (fun w'=>w'.cell? ⟨w.heap.size,0,none⟩=some (.int .i64 key.kind)∧w'.cell? ⟨w.heap.size,1,none⟩=some (.int .u64 key.n)∧w'.cell? ⟨w.heap.size,2,none⟩=some (.slice a.ba key.bytes.length a.bc)∧w'.cell? ⟨w.heap.size,3,none⟩=some (.slice a.ia key.items.length a.ic)) (by kernel_rfl) (⟨xX.cell 0 rfl,xX.cell 1 rfl,xX.cell 2 rfl,xX.cell 3 rfl⟩) (fun zy=>?_)
 refine Tk 0 rfl zy ?_
 refine To 1 rfl fun K hK=>?_
 go_simp
 refine(IS.out 1 (by omega) (by omega) _ zE).mono ?_
 rintro e w1 ⟨v1,rfl,TL⟩
 have xX:=xX.below TL.below;have yQ:=yQ.below TL.below;have wi:=wi.below TL.below;have hb:=hb.trans (TL.below.mono hb.size);have FF:=zE.below TL.below (Nat.le_refl _);obtain⟨xa,xb,xc,xd,H1,rfl,rS,oF⟩:=TL
 refine Ko hK ?_ fun zy=>?_
 ·exact jb0
 clear hK K
 refine To 2 rfl fun K hK=>?_
 go_simp
 refine(pz key (zS 1) H1 _ _ a.ba _ a.bc a.ia _ a.ic _ _ xa _ xb xc _ xd _ JA.out (sw 1) (HK.out.mono rS.le).arg oF.arg rS.holds).mono ?_
 rintro e w2 ⟨rfl,zG⟩
 have xX:=xX.below zG;have yQ:=yQ.below zG;have wi:=wi.below zG;have hb:=hb.trans (zG.mono hb.size);have FF:=FF.below zG (Nat.le_refl _)
 refine Ko hK ?_ fun zy=>?_
 ·exact jb0
 clear hK K
 refine To 3 rfl fun K hK=>?_
 go_simp
 refine Kz hK ?_
 clear hK K
 refine Wd ?_
 clear zy zE rS oF zG;have d0:=yQ.cell 0 rfl;have d1:=yQ.cell 1 rfl;have d3:=yQ.cell 3 rfl
 cases jy:yL key (zS 1) with
 | true =>
  have E:=Hh (OB (v:=v) (m:=m.items) jy);clear jy;go_wp2_with fail
  all_goals
   go_ret
   refine⟨?_,hb⟩
   rw[E.out];show Ending.returned (Value.bool _)=_
   congr 2
   rw[Bool.eq_iff_iff]
   simp_all
   try omega
 | false =>
 have zE:=FF.drew;have xX:=xX.drew;have yQ:=yQ.drew;have wi:=wi.drew;have hb:=hb.drew;clear d0 d1 d3;have HQ1:=Hh jy;clear jy;go_upto_region 3 with fail
 refine zw 3 (fun w'=>w'.cell? ⟨w.heap.size,0,none⟩=some (.int .i64 key.kind)∧w'.cell? ⟨w.heap.size,1,none⟩=some (.int .u64 key.n)∧w'.cell? ⟨w.heap.size,2,none⟩=some (.slice a.ba key.bytes.length a.bc)∧w'.cell? ⟨w.heap.size,3,none⟩=some (.slice a.ia key.items.length a.ic)) (by kernel_rfl) (⟨xX.cell 0 rfl,xX.cell 1 rfl,xX.cell 2 rfl,xX.cell 3 rfl⟩) (fun zy=>?_)
 refine Tk 0 rfl zy ?_
 refine To 1 rfl fun K hK=>?_
 go_simp
 refine(IS.out 2 (by omega) (by omega) _ zE).mono ?_
 rintro e w3 ⟨v3,rfl,ow⟩
 have xX:=xX.below ow.below;have yQ:=yQ.below ow.below;have wi:=wi.below ow.below;have hb:=hb.trans (ow.below.mono hb.size);have FF:=zE.below ow.below (Nat.le_refl _);obtain⟨ya,yb,yc,yd,H3,rfl,ye,nO⟩:=ow
 refine Ko hK ?_ fun zy=>?_
 ·exact jb0
 clear hK K
 refine To 2 rfl fun K hK=>?_
 go_simp
 refine(pz key (zS 2) H3 _ _ a.ba _ a.bc a.ia _ a.ic _ _ ya _ yb yc _ yd _ JA.out (sw 2) (HK.out.mono ye.le).arg nO.arg ye.holds).mono ?_
 rintro e w4 ⟨rfl,uR⟩
 have xX:=xX.below uR;have yQ:=yQ.below uR;have wi:=wi.below uR;have hb:=hb.trans (uR.mono hb.size);have FF:=FF.below uR (Nat.le_refl _)
 refine Ko hK ?_ fun zy=>?_
 ·exact jb0
 clear hK K
 refine To 3 rfl fun K hK=>?_
 go_simp
 refine Kz hK ?_
 clear hK K
 refine Wd ?_
 clear zy zE ye nO uR;have d0:=yQ.cell 0 rfl;have d3:=yQ.cell 3 rfl
 cases fr:yL key (zS 2) with
 | true =>
  have E:=Hh (OC (v:=v) (m:=m.items) HQ1.out fr);clear fr
  by_cases h4:v.kind=4
  case neg =>
   have EE:Hid (vx key v m.items=false):=by rw[Hid,E.out];simp[h4]
   have b4:(v.kind != 4)=true:=by simp[h4]
   have p4:(v.kind=4)=False:=eq_false h4;clear h4;go_wp2_with fail
   go_ret
   exact⟨by rw[EE.out];rfl,hb⟩
  have b4:(v.kind != 4)=false:=by simp[h4]
  have p4:(v.kind=4)=True:=eq_true h4;have e4:(v.kind==4)=true:=by simp[h4]
  by_cases h0:v.items.length=0
  case pos =>
   have EE:Hid (vx key v m.items=false):=by rw[Hid,E.out];simp[h0]
   have b0:((v.items.length:Int)==0)=true:=by rw[beq_iff_eq];omega
   have p0:(v.items=[])=True:=eq_true (List.length_eq_zero_iff.1 h0);clear h0 h4 e4;go_wp2_with fail
   go_ret
   exact⟨by rw[EE.out];rfl,hb⟩
  have b0:((v.items.length:Int)==0)=false:=by rw[beq_eq_false_iff_ne];omega
  have p0:(v.items=[])=False:=eq_false (fun h=>h0 (by rw[h];rfl));have EE:Hid (vx key v m.items=v.items.all fun x=>(atL x m.items).isSome):=by rw[Hid,E.out,e4,decide_eq_true (by omega)];simp
  clear h4 e4 h0 E;go_wp2_with fail
  go_loopw [51] (fun v51 wr=>∃ j:Nat,j≤v.items.length∧v51=.int .i64 j∧((v.items.drop j).all fun x=>(atL x m.items).isSome)=(v.items.all fun x=>(atL x m.items).isSome)∧Below w.heap.size w wr∧Blk wr (w.heap.size+1+1) 26 #[.int .i64 m.kind,.int .u64 m.n,.slice c.ba m.bytes.length c.bc,.slice c.ia m.items.length c.ic]) (fun v51 _=>v.items.length-(intOf v51).toNat)
  case atStart=>exact⟨0,Nat.zero_le _,rfl,rfl,hb,wi⟩
  case round =>
  obtain⟨j,hj,rfl,hs,xY,AY⟩:=hrel;have HS:=Hh hs;clear hs d0 d3
  by_cases yu:j<v.items.length
  ·have xN:=jge;obtain⟨ib,io,rC,wY⟩:=HV.out.items (by omega);obtain⟨y1,y2,y3,y4,q0,q1,q2,q3,uy⟩:=wY.get j yu;have zAe:b.ia=some ⟨ib,io,none⟩:=rC;have p0':=xN.cell q0;have p1':=xN.cell q1;have p2':=xN.cell q2;have p3':=xN.cell q3;have uF:Hid (((v.items.drop j).all fun x=>(atL x m.items).isSome)=((atL v.items[j] m.items).isSome&&(v.items.drop (j+1)).all fun x=>(atL x m.items).isSome)):=by rw[Hid,List.drop_eq_getElem_cons yu,List.all_cons]
   have IH:=Hh (fun w1:World=>fun h1:Holds w1 H=>Vu oZ.out (HMV.out.parts.2.2.get j yu) HM.out.arg uy.arg w1 h1)
   generalize v.items[j]'yu=u at *
   have De:=xN.alloc (zU u y1 y2 y3 y4);have yz:=xY.alloc xY.size (zU u y1 y2 y3 y4);have Ez:=AY.alloc (zU u y1 y2 y3 y4);have f0:=Ez.cell 0 rfl;have f1:=Ez.cell 1 rfl;have f2:=Ez.cell 2 rfl;have f3:=Ez.cell 3 rfl;clear wY uy q0 q1 q2 q3 rC;rw[zAe];go_wp2_with fail
   refine(IH.out _ De).mono ?_
   rintro e w6 ⟨⟨ra,rb,rc,rd,rfl,_⟩,wX⟩
   have um:=yz.trans (wX.mono yz.size);have AZ:=Ez.below wX
   generalize hg:atL u m.items=o at *
   clear yz Ez De f0 f1 f2 f3 wX
   cases o with
   | none =>
    have EN:Hid (vx key v m.items=false):=by rw[Hid,EE.out,← HS.out,uF.out];rfl
    have qU:=um.alloc um.size (zU ((none:Option Itm).getD ze) ra rb rc rd);clear hg;go_wp2_with fail
    go_ret
    exact⟨by rw[EN.out];rfl,qU⟩
   | some y =>
   have EN:Hid (((v.items.drop (j+1)).all fun x=>(atL x m.items).isSome)=(v.items.all fun x=>(atL x m.items).isSome)):=by rw[Hid,← HS.out,uF.out];rfl
   have qU:=um.alloc um.size (zU ((some y:Option Itm).getD ze) ra rb rc rd);have hD8:=AZ.alloc (zU ((some y:Option Itm).getD ze) ra rb rc rd);clear hg;go_wp2_with fail
   go_roundw
   case rel=>exact⟨j+1,by omega,by go_num,EN.out,qU,hD8⟩
   case measure=>simp[intOf];omega
  have gI:j=v.items.length:=by omega
  subst gI;have EN:Hid (vx key v m.items=true):=by rw[Hid,EE.out,← HS.out,List.drop_length];rfl
  go_wp2_with fail
  go_ret
  exact⟨by rw[EN.out];rfl,xY⟩
 | false =>
 have E:=Hh (OD (v:=v) (m:=m.items) HQ1.out fr);clear fr d0 d3;have hI:=Blk.new w4 3 #[.int .i64 4,.int .i64 5,.int .i64 6,.int .i64 12];have xX:=xX.alloc (.cells #[.int .i64 4,.int .i64 5,.int .i64 6,.int .i64 12] 3);have yQ:=yQ.alloc (.cells #[.int .i64 4,.int .i64 5,.int .i64 6,.int .i64 12] 3);have hb:=hb.alloc hb.size (.cells #[.int .i64 4,.int .i64 5,.int .i64 6,.int .i64 12] 3);go_wp2_with fail
 go_loopw [66] (fun v66 wr=>∃ j:Nat,j≤4∧v66=.int .i64 j∧((mV.drop j).any fun n=>yL key (zS n))=(mV.any fun n=>yL key (zS n))∧Below w.heap.size w wr∧Blk wr w.heap.size 26 #[.int .i64 key.kind,.int .u64 key.n,.slice a.ba key.bytes.length a.bc,.slice a.ia key.items.length a.ic]∧
  Blk wr (w.heap.size+1) 26 #[.int .i64 v.kind,.int .u64 v.n,.slice b.ba v.bytes.length b.bc,.slice b.ia v.items.length b.ic]∧Blk wr w4.heap.size 3 #[.int .i64 4,.int .i64 5,.int .i64 6,.int .i64 12]) (fun v66 _=>4-(intOf v66).toNat)
 case atStart=>exact⟨0,by omega,rfl,rfl,hb,xX,yQ,hI⟩
 case round =>
 obtain⟨j,hj,rfl,hs,xY,qj,pZ,Eu⟩:=hrel;have HS:=Hh hs;clear hs
 by_cases yu:j<4
 ·have fo:∃ nv:Int,wr.cell? ⟨w4.heap.size,j,none⟩=some (.int .i64 nv)∧mV.drop j=nv::mV.drop (j+1)∧0≤nv∧nv≤12:=by
   rcases(by omega:j=0∨j=1∨j=2∨j=3) with rfl | rfl | rfl | rfl
   ·exact⟨4,Eu.cell 0 rfl,rfl,by omega,by omega⟩
   ·exact⟨5,Eu.cell 1 rfl,rfl,by omega,by omega⟩
   ·exact⟨6,Eu.cell 2 rfl,rfl,by omega,by omega⟩
   exact⟨12,Eu.cell 3 rfl,rfl,by omega,by omega⟩
  obtain⟨nv,xP,Yr,un,tF⟩:=fo;have uF:Hid (((mV.drop j).any fun n=>yL key (zS n))=(yL key (zS nv)||(mV.drop (j+1)).any fun n=>yL key (zS n))):=by rw[Hid,Yr,List.any_cons]
  have De:Holds wr.drew H:=(hH.below xY (Nat.le_refl _)).drew;have mu:=qj.drew;have jw:=pZ.drew;have Da:=Eu.drew;have yz:=xY.drew;clear Yr;go_upto_region 17 with fail
  refine zw 3 (fun w'=>w'.cell? ⟨w.heap.size,0,none⟩=some (.int .i64 key.kind)∧w'.cell? ⟨w.heap.size,1,none⟩=some (.int .u64 key.n)∧w'.cell? ⟨w.heap.size,2,none⟩=some (.slice a.ba key.bytes.length a.bc)∧w'.cell? ⟨w.heap.size,3,none⟩=some (.slice a.ia key.items.length a.ic)) (by kernel_rfl) (⟨mu.cell 0 rfl,mu.cell 1 rfl,mu.cell 2 rfl,mu.cell 3 rfl⟩) (fun zy=>?_)
  refine Tk 0 rfl zy ?_
  refine Tk 1 rfl zy ?_
  refine To 2 rfl fun K hK=>?_
  go_simp
  refine(IS.out nv (by omega) (by omega) _ De).mono ?_
  rintro e w5 ⟨v5,rfl,TM⟩
  have mu:=mu.below TM.below;have jw:=jw.below TM.below;have Da:=Da.below TM.below;have yz:=yz.trans (TM.below.mono yz.size);obtain⟨za,zb,zc,zd,H5,rfl,wb,Wh⟩:=TM
  refine Ko hK ?_ fun zy=>?_
  ·exact⟨mu.cell 0 rfl,mu.cell 1 rfl,mu.cell 2 rfl,mu.cell 3 rfl⟩
  clear hK K
  refine To 3 rfl fun K hK=>?_
  go_simp
  refine(pz key (zS nv) H5 _ _ a.ba _ a.bc a.ia _ a.ic _ _ za _ zb zc _ zd _ JA.out (sw nv) (HK.out.mono wb.le).arg Wh.arg wb.holds).mono ?_
  rintro e w6 ⟨rfl,wX⟩
  have mu:=mu.below wX;have jw:=jw.below wX;have Da:=Da.below wX;have yz:=yz.trans (wX.mono yz.size)
  refine Kz hK ?_
  clear hK K
  refine Wd ?_
  have d0:=jw.cell 0 rfl;clear zy De wb Wh wX xP qj pZ Eu xY
  cases hq:yL key (zS nv) with
  | true =>
   have EN:Hid (vx key v m.items=(v.kind==2)):=by rw[Hid,E.out,← HS.out,uF.out,hq];rfl
   clear hq;go_wp2_with fail
   go_ret
   exact⟨by rw[EN.out];rfl,yz⟩
  | false =>
  have EN:Hid (((mV.drop (j+1)).any fun n=>yL key (zS n))=(mV.any fun n=>yL key (zS n))):=by rw[Hid,← HS.out,uF.out,hq];rfl
  clear hq;go_wp2_with fail
  go_roundw
  case rel=>exact⟨j+1,by omega,by go_num,EN.out,yz,mu,jw,Da⟩
  case measure=>simp[intOf];omega
 have hj4:j=4:=by omega
 subst hj4;have EN:Hid (vx key v m.items=true):=by rw[Hid,E.out,← HS.out];rfl
 go_wp2_with fail
 go_ret
 exact⟨by rw[EN.out];rfl,xY⟩
end Go.Proofs.YtliomcphdnppnaaGreatDoor
