/- squeezed. Walks: the references' at. Walks:  -/
import Derived.Test.YtliomcphdnppnaaGreatDoorK12
set_option linter.unusedVariables false
set_option linter.unusedSimpArgs false
set_option maxRecDepth 100000
set_option maxHeartbeats 6400000
namespace Go.Proofs.YtliomcphdnppnaaGreatDoor
open Go.RowKit
theorem Wb (key:Itm) (l:List Itm) (k:Nat) (hk:k+1<l.length):atL key (l.drop k)=if yu l[k] key=true then some l[k+1] else atL key (l.drop (k+2)):=by
 rw[List.drop_eq_getElem_cons (show k<l.length by omega),List.drop_eq_getElem_cons hk,atL]
theorem Tt (key:Itm) (l:List Itm) (k:Nat) (hk:l.length≤k+1):atL key (l.drop k)=none:=by
 have hl:(l.drop k).length≤1:=by rw[List.length_drop];omega
 match l.drop k,hl with
 | [],_=>rfl
 | [_],_=>rfl
 | _::_::_,h=>simp at h
def Found (H:Snap) (o:Option Itm) (e:Ending):Prop:=∃ ba bc ia ic,e=.returned (.tuple #[xq (o.getD zm) ba bc ia ic,.bool o.isSome])∧IsItem H ba bc ia ic (o.getD zm)
theorem dA {m key:Itm}(dt:Modest m) (Yu:Modest key) {H:Snap}{k n:Int}{ba:Option Addr}{bl bc:Nat}{ia:Option Addr}{il ic:Nat}(hm:ItemA H k n ba bl bc ia il ic m)
  {k' n':Int} {ba':Option Addr} {bl' bc':Nat} {ia':Option Addr} {il' ic':Nat} (hk:ItemA H k' n' ba' bl' bc' ia' il' ic' key) (w:World) (hH:Holds w H) :
  Calls Tryz.prog 76 #[.agg #[.int .i64 k,.int .u64 n,.slice ba bl bc,.slice ia il ic],.agg #[.int .i64 k',.int .u64 n',.slice ba' bl' bc',.slice ia' il' ic']] w fun e w'=>Found H (atL key m.items) e∧Below w.heap.size w w':=by
 obtain⟨rfl,rfl,rfl,rfl,dr⟩:=hm.eqs_;obtain⟨rfl,rfl,rfl,rfl,gz⟩:=hk.eqs_;have HM:=Hh dr;have HK:=Hh gz;have od:=Hh dt;have TN:=Hh Yu;have Pe:=dt.parts.2.1;have nb:=((zq w (zi m ba bc ia ic)).alloc (by simp) (zi key ba' bc' ia' ic')).alloc (by simp;omega) zW;have yO:=((Blk.new w 26 #[.int .i64 m.kind,.int .u64 m.n,.slice ba m.bytes.length bc,.slice ia m.items.length ic]).alloc (zi key ba' bc' ia' ic')).alloc zW;have yV:=(Blk.new (w.alloc (zi m ba bc ia ic)) 26 #[.int .i64 key.kind,.int .u64 key.n,.slice ba' key.bytes.length bc',.slice ia' key.items.length ic']).alloc zW;have ut:=Blk.new ((w.alloc (zi m ba bc ia ic)).alloc (zi key ba' bc' ia' ic')) 26 #[.int .i64 0,.int .u64 0,.slice none 0 0,.slice none 0 0]
 simp only[zu]at yV ut
 clear hm hk dr gz dt Yu;go_enter Tryz.func76,Tryz.ntmps76
 go_wp2_with fail
 go_loopw [6] (fun v6 wr=>∃ j:Nat,j≤m.items.length+1∧v6=.int .i64 j∧atL key (m.items.drop j)=atL key m.items∧Below w.heap.size w wr∧Blk wr w.heap.size 26 #[.int .i64 m.kind,.int .u64 m.n,.slice ba m.bytes.length bc,.slice ia m.items.length ic]∧
  Blk wr (w.heap.size+1) 26 #[.int .i64 key.kind,.int .u64 key.n,.slice ba' key.bytes.length bc',.slice ia' key.items.length ic']∧Blk wr (w.heap.size+1+1) 26 #[.int .i64 0,.int .u64 0,.slice none 0 0,.slice none 0 0]) (fun v6 _=>m.items.length+1-(intOf v6).toNat)
 case atStart=>exact⟨0,by omega,rfl,rfl,nb,yO,yV,ut⟩
 case round =>
 obtain⟨j,hj,rfl,hs,yS,tE,sN,jX⟩:=hrel;have HS:=Hh hs;have c3:=tE.cell 3 rfl;clear hs
 by_cases zB:j+1<m.items.length
 ·have yD:Holds wr H:=hH.below yS (Nat.le_refl _);obtain⟨ib,io,tf,xI⟩:=HM.out.items (by omega);obtain⟨y1,y2,y3,y4,q0,q1,q2,q3,vW⟩:=xI.get j (by omega);obtain⟨z1,z2,z3,z4,s0,s1,s2,s3,nX⟩:=xI.get (j+1) zB;subst tf;have rs:(j:Int)+1<m.items.length:=by omega
  have Dy:(j:Int)<m.items.length:=by omega
  have QM:((j:Int)+1).toNat=j+1:=by omega
  have vR:=Hh (HS.out.symm.trans (Wb key m.items j zB));have IH:=Hh (fun w1:World=>fun h1:Holds w1 H=>sZ m.items[j] key H _ _ y1 _ y2 y3 _ y4 _ _ ba' _ bc' ia' _ ic' w1 (od.out.parts.2.2.get j (by omega)) TN.out vW.arg HK.out.arg h1)
  generalize m.items[j]'(by omega)=u at *
  generalize m.items[j+1]'zB=v at *
  have zQ:=yD.drew;have yw:=yS.drew;have qI:=tE.drew;have jY:=sN.drew;have M9:=jX.drew;clear xI vW sN jX;go_upto_region 4 with fail
  refine zw 6 (fun w'=>w'.cell? ⟨w.heap.size,3,none⟩=some (.slice (some ⟨ib,io,none⟩) m.items.length ic)∧w'.cell? ⟨ib,io+j*4,none⟩=some (.int .i64 u.kind)∧w'.cell? ⟨ib,io+j*4+1,none⟩=some (.int .u64 u.n)∧w'.cell? ⟨ib,io+j*4+2,none⟩=some (.slice y1 u.bytes.length y2)∧w'.cell? ⟨ib,io+j*4+3,none⟩=some (.slice y3 u.items.length y4)∧w'.cell? ⟨w.heap.size+1,0,none⟩=some (.int .i64 key.kind)∧w'.cell? ⟨w.heap.size+1,1,none⟩=some (.int .u64 key.n)∧w'.cell? ⟨w.heap.size+1,2,none⟩=some (.slice ba' key.bytes.length bc')∧w'.cell? ⟨w.heap.size+1,3,none⟩=some (.slice ia' key.items.length ic')) (by kernel_rfl) (⟨qI.cell 3 rfl,zQ.cell q0,zQ.cell q1,zQ.cell q2,zQ.cell q3,jY.cell 0 rfl,jY.cell 1 rfl,jY.cell 2 rfl,jY.cell 3 rfl⟩) (fun zy=>?_)
  refine Tk 0 rfl zy ?_
  refine Tk 1 rfl zy ?_
  refine Tk 2 rfl zy ?_
  refine Tk 3 rfl zy ?_
  refine Tk 4 rfl zy ?_
  refine Tk 5 rfl zy ?_
  refine To 6 rfl fun K hK=>?_
  go_simp
  refine(IH.out _ zQ).mono ?_
  rintro e w6 ⟨rfl,xT⟩
  have WJ:=zQ.below xT (Nat.le_refl _);have vh:=yw.trans (xT.mono yw.size);have dh:=qI.below xT;have MB:=jY.below xT;have Gz:=M9.below xT
  refine Kz hK ?_
  clear hK K
  refine Wd ?_
  clear zy yD zQ yw qI jY M9 xT c3 tE
  cases hq:yu u key with
  | true =>
   have EE:Hid (atL key m.items=some v):=by rw[Hid,vR.out,if_pos hq]
   have c3:=dh.cell 3 rfl;have p0:=WJ.cell s0;have p1:=WJ.cell s1;have p2:=WJ.cell s2;have p3:=WJ.cell s3;clear hq;go_wp2_with (with_reducible refine zx ?_)
   refine stI Gz fun w8 aJ xp=>?_
   have rm:=vh.grown xp vh.size (by rintro q ⟨⟩;omega);go_wp2_with fail
   refine zf rfl rfl aJ rfl rfl zp rfl ?_
   refine⟨⟨z1,z2,z3,z4, ?_, ?_⟩,rm⟩
   ·rw[EE.out];rfl
   rw[EE.out];exact nX
  | false =>
  have EE:Hid (atL key (m.items.drop (j+2))=atL key m.items):=by rw[Hid,vR.out,hq];rfl
  clear hq;go_wp2_with fail
  go_roundw
  case rel=>exact⟨j+2,by omega,by go_num,EE.out,vh,dh,MB,Gz⟩
  case measure=>simp[intOf];omega
 have EE:Hid (atL key m.items=none):=by rw[Hid,← HS.out];exact Tt _ _ _ (by omega)
 have rs:¬ (j:Int)+1<m.items.length:=by omega
 go_wp2_with (with_reducible refine zx ?_)
 refine stI jX fun w8 aJ xp=>?_
 have rm:=yS.grown xp yS.size (by rintro q ⟨⟩;omega);go_wp2_with fail
 refine zf rfl rfl aJ rfl rfl zp rfl ?_
 refine⟨⟨none,0,none,0, ?_, ?_⟩,rm⟩
 ·rw[EE.out];rfl
 rw[EE.out];exact IsItem.plain H 0 0 (by omega) (by omega)
theorem ua (n:Int):Modest (zg n):=by
 unfold zg
 split <;> (rw[Modest,ModestL];simp)
theorem Found.gives {w w':World}{H:Snap}{o:Option Itm}{e:Ending}(hH:Holds w H) (h:Found H o e) (hb:Below w.heap.size w w'):∃ v,e=.returned (.tuple #[v,.bool o.isSome])∧Gives w H (o.getD zm) v w':=by
 obtain⟨ba,bc,ia,ic,rfl,hi⟩:=h
 exact⟨_,rfl,ba,bc,ia,ic,H,rfl,Grows.of_below hH hb,hi⟩
theorem lr {m key:Itm}(dt:Modest m) (Yu:Modest key) {H:Snap}{k n:Int}{ba:Option Addr}{bl bc:Nat}{ia:Option Addr}{il ic:Nat}(hm:ItemA H k n ba bl bc ia il ic m)
  {k' n':Int} {ba':Option Addr} {bl' bc':Nat} {ia':Option Addr} {il' ic':Nat} (hk:ItemA H k' n' ba' bl' bc' ia' il' ic' key) (w:World) (hH:Holds w H) :
  Calls Tryz.prog 76 #[.agg #[.int .i64 k,.int .u64 n,.slice ba bl bc,.slice ia il ic],.agg #[.int .i64 k',.int .u64 n',.slice ba' bl' bc',.slice ia' il' ic']] w
   fun e w'=>∃ v,e=.returned (.tuple #[v,.bool (atL key m.items).isSome])∧Gives w H ((atL key m.items).getD zm) v w' :=
 (dA dt Yu hm hk w hH).mono fun _ _ h=>h.1.gives hH h.2
theorem lD {H:Snap}{p u:Itm}(m9:Modest p) (i6:Modest u) {a b:Ad}(hp:IsItem H a.ba a.bc a.ia a.ic p) (hu:IsItem H b.ba b.bc b.ia b.ic u) (n:Int) (uY : -9223372036854775808≤n) (uB:n≤9223372036854775807) (w:World) (hH:Holds w H) :
  Calls Tryz.prog 78 #[.agg (zY p a u b),.int .i64 n] w
   fun e w'=>∃ v,e=.returned (.tuple #[v,.bool (xQ p u n).isSome])∧Gives w H ((xQ p u n).getD zm) v w':=by
 have hB:=(Blk.new w 28 (zY p a u b)).alloc zW;have hT:=Blk.new (w.alloc (.cells (zY p a u b) 28)) 26 #[.int .i64 0,.int .u64 0,.slice none 0 0,.slice none 0 0]
 simp only[zu]at hT
 have hG:=(((Grows.refl hH).alloc (.cells (zY p a u b) 28)).alloc zW).drew;have uj:H (w.heap.size+1)=none:=hH.none_of_ge (by omega);have zC:=Snap.le.refl H;have Yu:=ua n;go_enter Tryz.func78,Tryz.ntmps78
 go_upto_region 1 with fail
 go_cut [6,7] (fun s6 s7 wx=>∃ N ra rb rc rd Hx,s6=.pointer (some ⟨N,0,none⟩)∧s7=.bool (atL (zg n) p.items).isSome∧Blk wx N 26 #[.int .i64 ((atL (zg n) p.items).getD zm).kind,.int .u64 ((atL (zg n) p.items).getD zm).n,.slice ra ((atL (zg n) p.items).getD zm).bytes.length rb,.slice rc ((atL (zg n) p.items).getD zm).items.length rd]∧
  Blk wx w.heap.size 28 (zY p a u b)∧Blk wx (w.heap.size+1) 26 #[.int .i64 0,.int .u64 0,.slice none 0 0,.slice none 0 0]∧Grows w H wx Hx∧H.le Hx∧Hx (w.heap.size+1)=none∧IsItem Hx ra rb rc rd ((atL (zg n) p.items).getD zm))
 case first =>
  have hB:=hB.drew;have hT:=hT.drew;have tv:=hT.lt
  refine zw 10 (fun w'=>w'.cell? ⟨w.heap.size,0,none⟩=some (.int .i64 p.kind)∧w'.cell? ⟨w.heap.size,1,none⟩=some (.int .u64 p.n)∧w'.cell? ⟨w.heap.size,2,none⟩=some (.slice a.ba p.bytes.length a.bc)∧w'.cell? ⟨w.heap.size,3,none⟩=some (.slice a.ia p.items.length a.ic)) (by kernel_rfl) (⟨hB.cell 0 rfl,hB.cell 1 rfl,hB.cell 2 rfl,hB.cell 3 rfl⟩) (fun zy=>?_)
  refine Tk 0 rfl zy ?_
  refine Tk 1 rfl zy ?_
  refine Tk 2 rfl zy ?_
  refine Ways.two (i:=3) (j:=8) rfl rfl (by kernel_rfl) (fun K hK=>?_) (fun K hK=>?_)
  ·go_simp
   refine(ui n uY uB _ hG.holds).mono ?_
   rintro e w2 ⟨v2,rfl,tG⟩
   have hB:=hB.below tG.below;have hT:=hT.below tG.below
   try have hN:=hN.below tG.below
   obtain⟨ka,kb,kc,kd,H2,rfl,xR,pI⟩:=tG;have uj:=xR.none uj tv;have tv:=hT.lt;have zC:=zC.trans xR.le;have hG:=hG.trans xR
   try have vV:=xR.none vV tz
   try have tz:=hN.lt
   refine Ko hK ?_ fun zy=>?_
   ·exact⟨hB.cell 0 rfl,hB.cell 1 rfl,hB.cell 2 rfl,hB.cell 3 rfl⟩
   clear hK K
   refine Ways.two (i:=4) (j:=8) rfl rfl (by kernel_rfl) (fun K hK=>?_) (fun K hK=>?_)
   ·go_simp
    refine(lr m9 Yu (hp.mono zC).arg pI.arg _ hG.holds).mono ?_
    rintro e w3 ⟨v3,rfl,rt⟩
    have hB:=hB.below rt.below;have hT:=hT.below rt.below
    try have hN:=hN.below rt.below
    obtain⟨ra,rb,rc,rd,H3,rfl,ye,rp⟩:=rt;have uj:=ye.none uj tv;have tv:=hT.lt;have zC:=zC.trans ye.le;have hG:=hG.trans ye
    try have vV:=ye.none vV tz
    try have tz:=hN.lt
    refine Ko hK ?_ fun zy=>?_
    ·exact⟨hB.cell 0 rfl,hB.cell 1 rfl,hB.cell 2 rfl,hB.cell 3 rfl⟩
    clear hK K
    refine Tk 5 rfl zy ?_
    refine Tk 6 rfl zy ?_
    refine Tk 7 rfl zy ?_
    refine To 8 rfl fun K hK=>?_
    go_simp
    have hN:=hG.newBlk 26 #[.int .i64 0,.int .u64 0,.slice none 0 0,.slice none 0 0]
    try simp only[zj,zu]at hN
    have vV:=hG.hidden (Nat.le_refl _)
    try simp only[zj,zu]at vV
    have rM:=tv;have qg:=hG.size;have hB:=hB.alloc zW;have hT:=hT.alloc zW;have hG:=hG.alloc zW;have tv:=hT.lt;have tz:=hN.lt
    refine Ko hK ?_ fun zy=>?_
    ·exact⟨hB.cell 0 rfl,hB.cell 1 rfl,hB.cell 2 rfl,hB.cell 3 rfl⟩
    clear hK K
    refine To 9 rfl fun K hK=>?_
    rw[if_pos (by rfl)]
    refine zk _ _ _ rfl _ _ rfl rfl _ _ hN zp rfl (uf _ _ _ _ rfl rfl rfl rfl) fun w5 hN5 yF=>?_
    have hB:=hB.grown yF (by first | (simp;done) | (simp;omega));have hT:=hT.grown yF (by first | (simp;done) | (simp;omega));have hG:=hG.grownOwn vV (by first | exact qg | omega) yF
    refine Ko hK ?_ fun zy=>?_
    ·exact⟨hB.cell 0 rfl,hB.cell 1 rfl,hB.cell 2 rfl,hB.cell 3 rfl⟩
    clear hK K
    refine To 10 rfl fun K hK=>?_
    go_simp
    refine Kz hK ?_
    clear hK K
    refine Wd ?_
    go_wp2_with fail
    go_meet
    exact⟨_,ra,rb,rc,rd,_,rfl,rfl,hN5,hB,hT,hG,zC,uj,rp⟩
   go_simp
   have hN:=hG.newBlk 26 #[.int .i64 0,.int .u64 0,.slice none 0 0,.slice none 0 0]
   try simp only[zj,zu]at hN
   have vV:=hG.hidden (Nat.le_refl _)
   try simp only[zj,zu]at vV
   have rM:=tv;have qg:=hG.size;have hB:=hB.alloc zW;have hT:=hT.alloc zW;have hG:=hG.alloc zW;have tv:=hT.lt;have tz:=hN.lt
   refine Ko hK ?_ fun zy=>?_
   ·exact⟨hB.cell 0 rfl,hB.cell 1 rfl,hB.cell 2 rfl,hB.cell 3 rfl⟩
   clear hK K
   refine To 4 rfl fun K hK=>?_
   go_simp
   refine(lr m9 Yu (hp.mono zC).arg pI.arg _ hG.holds).mono ?_
   rintro e w3 ⟨v3,rfl,rt⟩
   have hB:=hB.below rt.below;have hT:=hT.below rt.below
   try have hN:=hN.below rt.below
   obtain⟨ra,rb,rc,rd,H3,rfl,ye,rp⟩:=rt;have uj:=ye.none uj tv;have tv:=hT.lt;have zC:=zC.trans ye.le;have hG:=hG.trans ye
   try have vV:=ye.none vV tz
   try have tz:=hN.lt
   refine Ko hK ?_ fun zy=>?_
   ·exact⟨hB.cell 0 rfl,hB.cell 1 rfl,hB.cell 2 rfl,hB.cell 3 rfl⟩
   clear hK K
   refine Tk 5 rfl zy ?_
   refine Tk 6 rfl zy ?_
   refine Tk 7 rfl zy ?_
   refine To 9 rfl fun K hK=>?_
   rw[if_pos (by rfl)]
   refine zk _ _ _ rfl _ _ rfl rfl _ _ hN zp rfl (uf _ _ _ _ rfl rfl rfl rfl) fun w5 hN5 yF=>?_
   have hB:=hB.grown yF (by first | (simp;done) | (simp;omega));have hT:=hT.grown yF (by first | (simp;done) | (simp;omega));have hG:=hG.grownOwn vV (by first | exact qg | omega) yF
   refine Ko hK ?_ fun zy=>?_
   ·exact⟨hB.cell 0 rfl,hB.cell 1 rfl,hB.cell 2 rfl,hB.cell 3 rfl⟩
   clear hK K
   refine To 10 rfl fun K hK=>?_
   go_simp
   refine Kz hK ?_
   clear hK K
   refine Wd ?_
   go_wp2_with fail
   go_meet
   exact⟨_,ra,rb,rc,rd,_,rfl,rfl,hN5,hB,hT,hG,zC,uj,rp⟩
  go_simp
  have hN:=hG.newBlk 26 #[.int .i64 0,.int .u64 0,.slice none 0 0,.slice none 0 0]
  try simp only[zj,zu]at hN
  have vV:=hG.hidden (Nat.le_refl _)
  try simp only[zj,zu]at vV
  have rM:=tv;have qg:=hG.size;have hB:=hB.alloc zW;have hT:=hT.alloc zW;have hG:=hG.alloc zW;have tv:=hT.lt;have tz:=hN.lt
  refine Ko hK ?_ fun zy=>?_
  ·exact⟨hB.cell 0 rfl,hB.cell 1 rfl,hB.cell 2 rfl,hB.cell 3 rfl⟩
  clear hK K
  refine To 3 rfl fun K hK=>?_
  go_simp
  refine(ui n uY uB _ hG.holds).mono ?_
  rintro e w2 ⟨v2,rfl,tG⟩
  have hB:=hB.below tG.below;have hT:=hT.below tG.below
  try have hN:=hN.below tG.below
  obtain⟨ka,kb,kc,kd,H2,rfl,xR,pI⟩:=tG;have uj:=xR.none uj tv;have tv:=hT.lt;have zC:=zC.trans xR.le;have hG:=hG.trans xR
  try have vV:=xR.none vV tz
  try have tz:=hN.lt
  refine Ko hK ?_ fun zy=>?_
  ·exact⟨hB.cell 0 rfl,hB.cell 1 rfl,hB.cell 2 rfl,hB.cell 3 rfl⟩
  clear hK K
  refine To 4 rfl fun K hK=>?_
  go_simp
  refine(lr m9 Yu (hp.mono zC).arg pI.arg _ hG.holds).mono ?_
  rintro e w3 ⟨v3,rfl,rt⟩
  have hB:=hB.below rt.below;have hT:=hT.below rt.below
  try have hN:=hN.below rt.below
  obtain⟨ra,rb,rc,rd,H3,rfl,ye,rp⟩:=rt;have uj:=ye.none uj tv;have tv:=hT.lt;have zC:=zC.trans ye.le;have hG:=hG.trans ye
  try have vV:=ye.none vV tz
  try have tz:=hN.lt
  refine Ko hK ?_ fun zy=>?_
  ·exact⟨hB.cell 0 rfl,hB.cell 1 rfl,hB.cell 2 rfl,hB.cell 3 rfl⟩
  clear hK K
  refine Tk 5 rfl zy ?_
  refine Tk 6 rfl zy ?_
  refine Tk 7 rfl zy ?_
  refine To 9 rfl fun K hK=>?_
  rw[if_pos (by rfl)]
  refine zk _ _ _ rfl _ _ rfl rfl _ _ hN zp rfl (uf _ _ _ _ rfl rfl rfl rfl) fun w5 hN5 yF=>?_
  have hB:=hB.grown yF (by first | (simp;done) | (simp;omega));have hT:=hT.grown yF (by first | (simp;done) | (simp;omega));have hG:=hG.grownOwn vV (by first | exact qg | omega) yF
  refine Ko hK ?_ fun zy=>?_
  ·exact⟨hB.cell 0 rfl,hB.cell 1 rfl,hB.cell 2 rfl,hB.cell 3 rfl⟩
  clear hK K
  refine To 10 rfl fun K hK=>?_
  go_simp
  refine Kz hK ?_
  clear hK K
  refine Wd ?_
  go_wp2_with fail
  go_meet
  exact⟨_,ra,rb,rc,rd,_,rfl,rfl,hN5,hB,hT,hG,zC,uj,rp⟩
 case rest =>
 obtain⟨N,ra,rb,rc,rd,Hx,rfl,rfl,hN,hB,hT,hG,zC,uj,hi⟩:=hcut;have tv:=hT.lt
 cases hf:atL (zg n) p.items with
 | some x =>
  have E:Hid (xQ p u n=some x):=by rw[Hid,xQ,hf]
  rw[hf]at hN hi
  simp only[Option.getD_some]at hN hi
  have n0:=hN.cell 0 rfl;have n1:=hN.cell 1 rfl;have n2:=hN.cell 2 rfl;have n3:=hN.cell 3 rfl;clear hf;go_wp2_with (with_reducible refine zx ?_)
  refine stI hT fun w6 lZ xO=>?_
  go_wp2_with fail
  refine zf rfl rfl lZ rfl rfl zp rfl ?_
  rw[E.out]
  exact⟨_,rfl,ra,rb,rc,rd,Hx,rfl,hG.grownOwn uj (by omega) xO,hi⟩
 | none =>
 have E:Hid (xQ p u n=atL (zg n) u.items):=by rw[Hid,xQ,hf]
 clear hN hi hf;have hB:=hB.drew;have hT:=hT.drew;have hG:=hG.drew;have tv:=hT.lt;go_upto_region 4 with fail
 refine zw 8 (fun w'=>w'.cell? ⟨w.heap.size,4,none⟩=some (.int .i64 u.kind)∧w'.cell? ⟨w.heap.size,5,none⟩=some (.int .u64 u.n)∧w'.cell? ⟨w.heap.size,6,none⟩=some (.slice b.ba u.bytes.length b.bc)∧w'.cell? ⟨w.heap.size,7,none⟩=some (.slice b.ia u.items.length b.ic)) (by kernel_rfl) (⟨hB.cell 4 rfl,hB.cell 5 rfl,hB.cell 6 rfl,hB.cell 7 rfl⟩) (fun zy=>?_)
 refine Tk 0 rfl zy ?_
 refine Tk 1 rfl zy ?_
 refine Tk 2 rfl zy ?_
 refine To 3 rfl fun K hK=>?_
 go_simp
 refine(ui n uY uB _ hG.holds).mono ?_
 rintro e w7 ⟨v7,rfl,oS⟩
 have hB:=hB.below oS.below;have hT:=hT.below oS.below;obtain⟨sa,sb,sc,sd,H7,rfl,wF,ff⟩:=oS;have uj:=wF.none uj tv;have tv:=hT.lt;have zC:=zC.trans wF.le;have hG:=hG.trans wF
 refine Ko hK ?_ fun zy=>?_
 ·exact⟨hB.cell 4 rfl,hB.cell 5 rfl,hB.cell 6 rfl,hB.cell 7 rfl⟩
 clear hK K
 refine To 4 rfl fun K hK=>?_
 go_simp
 refine(lr i6 Yu (hu.mono zC).arg ff.arg _ hG.holds).mono ?_
 rintro e w8 ⟨v8,rfl,sM⟩
 have hB:=hB.below sM.below;have hT:=hT.below sM.below;obtain⟨ta,tb,tc,td,H8,rfl,xp,nf⟩:=sM;have uj:=xp.none uj tv;have tv:=hT.lt;have zC:=zC.trans xp.le;have hG:=hG.trans xp
 refine Ko hK ?_ fun zy=>?_
 ·exact⟨hB.cell 4 rfl,hB.cell 5 rfl,hB.cell 6 rfl,hB.cell 7 rfl⟩
 clear hK K
 refine Tk 5 rfl zy ?_
 refine Tk 6 rfl zy ?_
 refine To 7 rfl fun K hK=>?_
 rw[if_pos (by rfl)]
 refine zk _ _ _ rfl (w.heap.size+1) _ rfl rfl _ _ hT zp rfl (uf _ _ _ _ rfl rfl rfl rfl) fun w9 nU xr=>?_
 have hB:=hB.grown xr (by simp);have hG:=hG.grownOwn uj (by omega) xr
 refine Ko hK ?_ fun zy=>?_
 ·exact⟨hB.cell 4 rfl,hB.cell 5 rfl,hB.cell 6 rfl,hB.cell 7 rfl⟩
 clear hK K
 refine To 8 rfl fun K hK=>?_
 go_simp
 refine Kz hK ?_
 clear hK K
 refine Wd ?_
 go_wp2_with fail
 refine zf rfl rfl nU rfl rfl zp rfl ?_
 rw[E.out]
 exact⟨_,rfl,ta,tb,tc,td,_,rfl,hG,nf⟩
end Go.Proofs.YtliomcphdnppnaaGreatDoor
