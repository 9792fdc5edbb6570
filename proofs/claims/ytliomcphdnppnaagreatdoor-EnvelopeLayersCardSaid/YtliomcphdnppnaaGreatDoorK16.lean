/- squeezed. Walks: the references' value. -/
import Derived.Test.YtliomcphdnppnaaGreatDoorK15
set_option linter.unusedVariables false
set_option linter.unusedSimpArgs false
set_option maxRecDepth 100000
set_option maxHeartbeats 12800000
namespace Go.Proofs.YtliomcphdnppnaaGreatDoor
open Go.RowKit
def pi:List Int:=[4,5,6,12]
theorem Uz {k v:Itm}{m:List Itm}(h:yp k (zZ 1)=true):x9 k v m=(((v.kind==0&&decide (0<v.n))||v.kind==1)&&decide (v.n≤65535)):=by rw[x9,if_pos h]
theorem V0 {k v:Itm}{m:List Itm}(h1:yp k (zZ 1)=false) (h:yp k (zZ 2)=true):x9 k v m=(v.kind==4&&decide (0<v.items.length)&&v.items.all fun x=>(atL x m).isSome):=by rw[x9,if_neg (by simp[h1]),if_pos h]
theorem V4 {k v:Itm}{m:List Itm}(h1:yp k (zZ 1)=false) (h2:yp k (zZ 2)=false):x9 k v m=(if(pi.any fun n=>yp k (zZ n))=true then v.kind==2 else true):=by
 rw[x9,if_neg (by simp[h1]),if_neg (by simp[h2])];have:(pi.any fun n=>yp k (zZ n))=(yp k (zZ 4)||yp k (zZ 5)||yp k (zZ 6)||yp k (zZ 12)):=by simp[pi,Bool.or_assoc]
 rw[this]
theorem Y8 {key v m:Itm}(Wu:Modest key) (OS:Modest v) (lA:Modest m) {H:Snap}{a b c:Ad}(hk:IsItem H a.ba a.bc a.ia a.ic key) (hv:IsItem H b.ba b.bc b.ia b.ic v) (hm:IsItem H c.ba c.bc c.ia c.ic m) (w:World) (hH:Holds w H) :
  Calls Tryz.prog 75 #[xR key a.ba a.bc a.ia a.ic,xR v b.ba b.bc b.ia b.ic,xR m c.ba c.bc c.ia c.ic] w fun e w'=>e=.returned (.bool (x9 key v m.items))∧Below w.heap.size w w':=by
 have HK:=Hh hk;have HV:=Hh hv;have HM:=Hh hm;have R0:=Hh Wu;have Ch:=Hh OS;have rI:=Hh lA;have Bg:=OS.parts.2.1;have Gd:=hv.bounds;have B3:=Hh Gd.2.2.1;have y9:=(((Blk.new w 26 #[.int .i64 key.kind,.int .u64 key.n,.slice a.ba key.bytes.length a.bc,.slice a.ia key.items.length a.ic]).alloc (zh v b.ba b.bc b.ia b.ic)).alloc (zh m c.ba c.bc c.ia c.ic)).drew;have yF:=((Blk.new (w.alloc (zh key a.ba a.bc a.ia a.ic)) 26 #[.int .i64 v.kind,.int .u64 v.n,.slice b.ba v.bytes.length b.bc,.slice b.ia v.items.length b.ic]).alloc (zh m c.ba c.bc c.ia c.ic)).drew;have ux:=(Blk.new ((w.alloc (zh key a.ba a.bc a.ia a.ic)).alloc (zh v b.ba b.bc b.ia b.ic)) 26 #[.int .i64 m.kind,.int .u64 m.n,.slice c.ba m.bytes.length c.bc,.slice c.ia m.items.length c.ic]).drew
 simp only[zr]at yF ux
 have hb:=(((zu w (zh key a.ba a.bc a.ia a.ic)).alloc (by simp) (zh v b.ba b.bc b.ia b.ic)).alloc (by simp;omega) (zh m c.ba c.bc c.ia c.ic)).drew;have zP:Holds (((w.alloc (zh key a.ba a.bc a.ia a.ic)).alloc (zh v b.ba b.bc b.ia b.ic)).alloc (zh m c.ba c.bc c.ia c.ic)).drew H:=(((hH.alloc _).alloc _).alloc _).drew;have IS:=Hh (fun(n:Int) (h1 : -9223372036854775808≤n) (h2:n≤9223372036854775807) (w1:World) (h:Holds w1 H)=>ug n h1 h2 w1 h);clear hk hv hm Wu OS lA Gd;go_enter Tryz.func75,Tryz.ntmps75
 go_upto_region 1 with fail
 refine zw 3 (fun w'=>w'.cell? ⟨w.heap.size,0,none⟩=some (.int .i64 key.kind)∧w'.cell? ⟨w.heap.size,1,none⟩=some (.int .u64 key.n)∧w'.cell? ⟨w.heap.size,2,none⟩=some (.slice a.ba key.bytes.length a.bc)∧w'.cell? ⟨w.heap.size,3,none⟩=some (.slice a.ia key.items.length a.ic)) (by kernel_rfl) (⟨y9.cell 0 rfl,y9.cell 1 rfl,y9.cell 2 rfl,y9.cell 3 rfl⟩) (fun zy=>?_)
 refine Tk 0 rfl zy ?_
 refine To 1 rfl fun K hK=>?_
 go_simp
 refine(IS.out 1 (by omega) (by omega) _ zP).mono ?_
 rintro e w1 ⟨v1,rfl,Z5⟩
 have y9:=y9.below Z5.below;have yF:=yF.below Z5.below;have ux:=ux.below Z5.below;have hb:=hb.trans (Z5.below.mono hb.size);have O8:=zP.below Z5.below (Nat.le_refl _);obtain⟨xa,xb,xc,xd,H1,rfl,sQ,qp⟩:=Z5
 refine Ko hK ?_ fun zy=>?_
 ·exact⟨y9.cell 0 rfl,y9.cell 1 rfl,y9.cell 2 rfl,y9.cell 3 rfl⟩
 clear hK K
 refine To 2 rfl fun K hK=>?_
 go_simp
 refine(pV key (zZ 1) H1 _ _ a.ba _ a.bc a.ia _ a.ic _ _ xa _ xb xc _ xd _ R0.out (uX 1) (HK.out.mono sQ.le).arg qp.arg sQ.holds).mono ?_
 rintro e w2 ⟨rfl,zK⟩
 have y9:=y9.below zK;have yF:=yF.below zK;have ux:=ux.below zK;have hb:=hb.trans (zK.mono hb.size);have O8:=O8.below zK (Nat.le_refl _)
 refine Ko hK ?_ fun zy=>?_
 ·exact⟨y9.cell 0 rfl,y9.cell 1 rfl,y9.cell 2 rfl,y9.cell 3 rfl⟩
 clear hK K
 refine To 3 rfl fun K hK=>?_
 go_simp
 refine Kz hK ?_
 clear hK K
 refine Wd ?_
 clear zy zP sQ qp zK;have d0:=yF.cell 0 rfl;have d1:=yF.cell 1 rfl;have d3:=yF.cell 3 rfl
 cases lP:yp key (zZ 1) with
 | true =>
  have E:=Hh (Uz (v:=v) (m:=m.items) lP);clear lP;go_wp2_with fail
  all_goals
   go_ret
   refine⟨?_,hb⟩
   rw[E.out];show Ending.returned (Value.bool _)=_
   congr 2
   rw[Bool.eq_iff_iff]
   simp_all
   try omega
 | false =>
 have zP:=O8.drew;have y9:=y9.drew;have yF:=yF.drew;have ux:=ux.drew;have hb:=hb.drew;clear d0 d1 d3;have Eu:=Hh lP;clear lP;go_upto_region 3 with fail
 refine zw 3 (fun w'=>w'.cell? ⟨w.heap.size,0,none⟩=some (.int .i64 key.kind)∧w'.cell? ⟨w.heap.size,1,none⟩=some (.int .u64 key.n)∧w'.cell? ⟨w.heap.size,2,none⟩=some (.slice a.ba key.bytes.length a.bc)∧w'.cell? ⟨w.heap.size,3,none⟩=some (.slice a.ia key.items.length a.ic)) (by kernel_rfl) (⟨y9.cell 0 rfl,y9.cell 1 rfl,y9.cell 2 rfl,y9.cell 3 rfl⟩) (fun zy=>?_)
 refine Tk 0 rfl zy ?_
 refine To 1 rfl fun K hK=>?_
 go_simp
 refine(IS.out 2 (by omega) (by omega) _ zP).mono ?_
 rintro e w3 ⟨v3,rfl,rP⟩
 have y9:=y9.below rP.below;have yF:=yF.below rP.below;have ux:=ux.below rP.below;have hb:=hb.trans (rP.below.mono hb.size);have O8:=zP.below rP.below (Nat.le_refl _);obtain⟨ya,yb,yc,yd,H3,rfl,yN,qK⟩:=rP
 refine Ko hK ?_ fun zy=>?_
 ·exact⟨y9.cell 0 rfl,y9.cell 1 rfl,y9.cell 2 rfl,y9.cell 3 rfl⟩
 clear hK K
 refine To 2 rfl fun K hK=>?_
 go_simp
 refine(pV key (zZ 2) H3 _ _ a.ba _ a.bc a.ia _ a.ic _ _ ya _ yb yc _ yd _ R0.out (uX 2) (HK.out.mono yN.le).arg qK.arg yN.holds).mono ?_
 rintro e w4 ⟨rfl,ui⟩
 have y9:=y9.below ui;have yF:=yF.below ui;have ux:=ux.below ui;have hb:=hb.trans (ui.mono hb.size);have O8:=O8.below ui (Nat.le_refl _)
 refine Ko hK ?_ fun zy=>?_
 ·exact⟨y9.cell 0 rfl,y9.cell 1 rfl,y9.cell 2 rfl,y9.cell 3 rfl⟩
 clear hK K
 refine To 3 rfl fun K hK=>?_
 go_simp
 refine Kz hK ?_
 clear hK K
 refine Wd ?_
 clear zy zP yN qK ui;have d0:=yF.cell 0 rfl;have d3:=yF.cell 3 rfl
 cases cF:yp key (zZ 2) with
 | true =>
  have E:=Hh (V0 (v:=v) (m:=m.items) Eu.out cF);clear cF
  by_cases h4:v.kind=4
  case neg =>
   have EE:Hid (x9 key v m.items=false):=by rw[Hid,E.out];simp[h4]
   have b4:(v.kind != 4)=true:=by simp[h4]
   have p4:(v.kind=4)=False:=eq_false h4;clear h4;go_wp2_with fail
   go_ret
   exact⟨by rw[EE.out];rfl,hb⟩
  have b4:(v.kind != 4)=false:=by simp[h4]
  have p4:(v.kind=4)=True:=eq_true h4;have e4:(v.kind==4)=true:=by simp[h4]
  by_cases h0:v.items.length=0
  case pos =>
   have EE:Hid (x9 key v m.items=false):=by rw[Hid,E.out];simp[h0]
   have b0:((v.items.length:Int)==0)=true:=by rw[beq_iff_eq];omega
   have p0:(v.items=[])=True:=eq_true (List.length_eq_zero_iff.1 h0);clear h0 h4 e4;go_wp2_with fail
   go_ret
   exact⟨by rw[EE.out];rfl,hb⟩
  have b0:((v.items.length:Int)==0)=false:=by rw[beq_eq_false_iff_ne];omega
  have p0:(v.items=[])=False:=eq_false (fun h=>h0 (by rw[h];rfl));have EE:Hid (x9 key v m.items=v.items.all fun x=>(atL x m.items).isSome):=by rw[Hid,E.out,e4,decide_eq_true (by omega)];simp
  clear h4 e4 h0 E;go_wp2_with fail
  go_loopw [51] (fun v51 wr=>∃ j:Nat,j≤v.items.length∧v51=.int .i64 j∧((v.items.drop j).all fun x=>(atL x m.items).isSome)=(v.items.all fun x=>(atL x m.items).isSome)∧Below w.heap.size w wr∧Blk wr (w.heap.size+1+1) 26 #[.int .i64 m.kind,.int .u64 m.n,.slice c.ba m.bytes.length c.bc,.slice c.ia m.items.length c.ic]) (fun v51 _=>v.items.length-(intOf v51).toNat)
  case atStart=>exact⟨0,Nat.zero_le _,rfl,rfl,hb,ux⟩
  case round =>
  obtain⟨j,hj,rfl,hs,yO,KZ⟩:=hrel;have HS:=Hh hs;clear hs d0 d3
  by_cases zB:j<v.items.length
  ·have yG:Holds wr H:=hH.below yO (Nat.le_refl _);obtain⟨ib,io,tK,xA⟩:=HV.out.items (by omega);obtain⟨y1,y2,y3,y4,q0,q1,q2,q3,va⟩:=xA.get j zB;have IV:b.ia=some ⟨ib,io,none⟩:=tK;have p0':=yG.cell q0;have p1':=yG.cell q1;have p2':=yG.cell q2;have p3':=yG.cell q3;have vd:Hid (((v.items.drop j).all fun x=>(atL x m.items).isSome)=((atL v.items[j] m.items).isSome&&(v.items.drop (j+1)).all fun x=>(atL x m.items).isSome)):=by rw[Hid,List.drop_eq_getElem_cons zB,List.all_cons]
   have IH:=Hh (fun w1:World=>fun h1:Holds w1 H=>bO rI.out (Ch.out.parts.2.2.get j zB) HM.out.arg va.arg w1 h1)
   generalize v.items[j]'zB=u at *
   have My:=yG.alloc (zh u y1 y2 y3 y4);have zA:=yO.alloc yO.size (zh u y1 y2 y3 y4);have O4:=KZ.alloc (zh u y1 y2 y3 y4);have f0:=O4.cell 0 rfl;have f1:=O4.cell 1 rfl;have f2:=O4.cell 2 rfl;have f3:=O4.cell 3 rfl;clear xA va q0 q1 q2 q3 tK;rw[IV];go_wp2_with fail
   refine(IH.out _ My).mono ?_
   rintro e w6 ⟨⟨ra,rb,rc,rd,rfl,_⟩,xT⟩
   have wJ:=zA.trans (xT.mono zA.size);have Ka:=O4.below xT
   generalize hg:atL u m.items=o at *
   clear zA O4 My f0 f1 f2 f3 xT
   cases o with
   | none =>
    have EN:Hid (x9 key v m.items=false):=by rw[Hid,EE.out,← HS.out,vd.out];rfl
    have oN:=wJ.alloc wJ.size (zh ((none:Option Itm).getD zn) ra rb rc rd);clear hg;go_wp2_with fail
    go_ret
    exact⟨by rw[EN.out];rfl,oN⟩
   | some y =>
   have EN:Hid (((v.items.drop (j+1)).all fun x=>(atL x m.items).isSome)=(v.items.all fun x=>(atL x m.items).isSome)):=by rw[Hid,← HS.out,vd.out];rfl
   have oN:=wJ.alloc wJ.size (zh ((some y:Option Itm).getD zn) ra rb rc rd);have DG:=Ka.alloc (zh ((some y:Option Itm).getD zn) ra rb rc rd);clear hg;go_wp2_with fail
   go_roundw
   case rel=>exact⟨j+1,by omega,by go_num,EN.out,oN,DG⟩
   case measure=>simp[intOf];omega
  have lN:j=v.items.length:=by omega
  subst lN;have EN:Hid (x9 key v m.items=true):=by rw[Hid,EE.out,← HS.out,List.drop_length];rfl
  go_wp2_with fail
  go_ret
  exact⟨by rw[EN.out];rfl,yO⟩
 | false =>
 have E:=Hh (V4 (v:=v) (m:=m.items) Eu.out cF);clear cF d0 d3;have hI:=Blk.new w4 3 #[.int .i64 4,.int .i64 5,.int .i64 6,.int .i64 12];have y9:=y9.alloc (.cells #[.int .i64 4,.int .i64 5,.int .i64 6,.int .i64 12] 3);have yF:=yF.alloc (.cells #[.int .i64 4,.int .i64 5,.int .i64 6,.int .i64 12] 3);have hb:=hb.alloc hb.size (.cells #[.int .i64 4,.int .i64 5,.int .i64 6,.int .i64 12] 3);go_wp2_with fail
 go_loopw [66] (fun v66 wr=>∃ j:Nat,j≤4∧v66=.int .i64 j∧((pi.drop j).any fun n=>yp key (zZ n))=(pi.any fun n=>yp key (zZ n))∧Below w.heap.size w wr∧Blk wr w.heap.size 26 #[.int .i64 key.kind,.int .u64 key.n,.slice a.ba key.bytes.length a.bc,.slice a.ia key.items.length a.ic]∧
  Blk wr (w.heap.size+1) 26 #[.int .i64 v.kind,.int .u64 v.n,.slice b.ba v.bytes.length b.bc,.slice b.ia v.items.length b.ic]∧Blk wr w4.heap.size 3 #[.int .i64 4,.int .i64 5,.int .i64 6,.int .i64 12]) (fun v66 _=>4-(intOf v66).toNat)
 case atStart=>exact⟨0,by omega,rfl,rfl,hb,y9,yF,hI⟩
 case round =>
 obtain⟨j,hj,rfl,hs,yO,ss,rt,Nz⟩:=hrel;have HS:=Hh hs;clear hs
 by_cases zB:j<4
 ·have OV:∃ nv:Int,wr.cell? ⟨w4.heap.size,j,none⟩=some (.int .i64 nv)∧pi.drop j=nv::pi.drop (j+1)∧0≤nv∧nv≤12:=by
   rcases(by omega:j=0∨j=1∨j=2∨j=3) with rfl | rfl | rfl | rfl
   ·exact⟨4,Nz.cell 0 rfl,rfl,by omega,by omega⟩
   ·exact⟨5,Nz.cell 1 rfl,rfl,by omega,by omega⟩
   ·exact⟨6,Nz.cell 2 rfl,rfl,by omega,by omega⟩
   exact⟨12,Nz.cell 3 rfl,rfl,by omega,by omega⟩
  obtain⟨nv,xg,eS,uw,uH⟩:=OV;have vd:Hid (((pi.drop j).any fun n=>yp key (zZ n))=(yp key (zZ nv)||(pi.drop (j+1)).any fun n=>yp key (zZ n))):=by rw[Hid,eS,List.any_cons]
  have My:Holds wr.drew H:=(hH.below yO (Nat.le_refl _)).drew;have od:=ss.drew;have m6:=rt.drew;have Mv:=Nz.drew;have zA:=yO.drew;clear eS;go_upto_region 17 with fail
  refine zw 3 (fun w'=>w'.cell? ⟨w.heap.size,0,none⟩=some (.int .i64 key.kind)∧w'.cell? ⟨w.heap.size,1,none⟩=some (.int .u64 key.n)∧w'.cell? ⟨w.heap.size,2,none⟩=some (.slice a.ba key.bytes.length a.bc)∧w'.cell? ⟨w.heap.size,3,none⟩=some (.slice a.ia key.items.length a.ic)) (by kernel_rfl) (⟨od.cell 0 rfl,od.cell 1 rfl,od.cell 2 rfl,od.cell 3 rfl⟩) (fun zy=>?_)
  refine Tk 0 rfl zy ?_
  refine Tk 1 rfl zy ?_
  refine To 2 rfl fun K hK=>?_
  go_simp
  refine(IS.out nv (by omega) (by omega) _ My).mono ?_
  rintro e w5 ⟨v5,rfl,Z6⟩
  have od:=od.below Z6.below;have m6:=m6.below Z6.below;have Mv:=Mv.below Z6.below;have zA:=zA.trans (Z6.below.mono zA.size);obtain⟨za,zb,zc,zd,H5,rfl,vB,OI⟩:=Z6
  refine Ko hK ?_ fun zy=>?_
  ·exact⟨od.cell 0 rfl,od.cell 1 rfl,od.cell 2 rfl,od.cell 3 rfl⟩
  clear hK K
  refine To 3 rfl fun K hK=>?_
  go_simp
  refine(pV key (zZ nv) H5 _ _ a.ba _ a.bc a.ia _ a.ic _ _ za _ zb zc _ zd _ R0.out (uX nv) (HK.out.mono vB.le).arg OI.arg vB.holds).mono ?_
  rintro e w6 ⟨rfl,xT⟩
  have od:=od.below xT;have m6:=m6.below xT;have Mv:=Mv.below xT;have zA:=zA.trans (xT.mono zA.size)
  refine Kz hK ?_
  clear hK K
  refine Wd ?_
  have d0:=m6.cell 0 rfl;clear zy My vB OI xT xg ss rt Nz yO
  cases hq:yp key (zZ nv) with
  | true =>
   have EN:Hid (x9 key v m.items=(v.kind==2)):=by rw[Hid,E.out,← HS.out,vd.out,hq];rfl
   clear hq;go_wp2_with fail
   go_ret
   exact⟨by rw[EN.out];rfl,zA⟩
  | false =>
  have EN:Hid (((pi.drop (j+1)).any fun n=>yp key (zZ n))=(pi.any fun n=>yp key (zZ n))):=by rw[Hid,← HS.out,vd.out,hq];rfl
  clear hq;go_wp2_with fail
  go_roundw
  case rel=>exact⟨j+1,by omega,by go_num,EN.out,zA,od,m6,Mv⟩
  case measure=>simp[intOf];omega
 have Do:j=4:=by omega
 subst Do;have EN:Hid (x9 key v m.items=true):=by rw[Hid,E.out,← HS.out];rfl
 go_wp2_with fail
 go_ret
 exact⟨by rw[EN.out];rfl,yO⟩
end Go.Proofs.YtliomcphdnppnaaGreatDoor
