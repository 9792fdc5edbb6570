/- squeezed. Walks: the references' at. Walks:  -/
import Derived.Test.YtliomcphdnppnaaGreatDoorK12
set_option linter.unusedVariables false
set_option linter.unusedSimpArgs false
set_option maxRecDepth 100000
set_option maxHeartbeats 6400000
namespace Go.Proofs.YtliomcphdnppnaaGreatDoor
open Go.RowKit
theorem UE (key:Itm) (l:List Itm) (k:Nat) (hk:k+1<l.length):atL key (l.drop k)=if yp l[k] key=true then some l[k+1] else atL key (l.drop (k+2)):=by
 rw[List.drop_eq_getElem_cons (show k<l.length by omega),List.drop_eq_getElem_cons hk,atL]
theorem Rm (key:Itm) (l:List Itm) (k:Nat) (hk:l.length≤k+1):atL key (l.drop k)=none:=by
 have hl:(l.drop k).length≤1:=by rw[List.length_drop];omega
 match l.drop k,hl with
 | [],_=>rfl
 | [_],_=>rfl
 | _::_::_,h=>simp at h
def Found (H:Snap) (o:Option Itm) (e:Ending):Prop:=∃ ba bc ia ic,e=.returned (.tuple #[xR (o.getD zn) ba bc ia ic,.bool o.isSome])∧IsItem H ba bc ia ic (o.getD zn)
theorem bO {m key:Itm}(lA:Modest m) (Wu:Modest key) {H:Snap}{k n:Int}{ba:Option Addr}{bl bc:Nat}{ia:Option Addr}{il ic:Nat}(hm:ItemA H k n ba bl bc ia il ic m)
  {k' n':Int} {ba':Option Addr} {bl' bc':Nat} {ia':Option Addr} {il' ic':Nat} (hk:ItemA H k' n' ba' bl' bc' ia' il' ic' key) (w:World) (hH:Holds w H) :
  Calls Tryz.prog 76 #[.agg #[.int .i64 k,.int .u64 n,.slice ba bl bc,.slice ia il ic],.agg #[.int .i64 k',.int .u64 n',.slice ba' bl' bc',.slice ia' il' ic']] w fun e w'=>Found H (atL key m.items) e∧Below w.heap.size w w':=by
 obtain⟨rfl,rfl,rfl,rfl,cT⟩:=hm.eqs_;obtain⟨rfl,rfl,rfl,rfl,ew⟩:=hk.eqs_;have HM:=Hh cT;have HK:=Hh ew;have rI:=Hh lA;have R0:=Hh Wu;have Rc:=lA.parts.2.1;have qC:=((zu w (zh m ba bc ia ic)).alloc (by simp) (zh key ba' bc' ia' ic')).alloc (by simp;omega) zT;have y9:=((Blk.new w 26 #[.int .i64 m.kind,.int .u64 m.n,.slice ba m.bytes.length bc,.slice ia m.items.length ic]).alloc (zh key ba' bc' ia' ic')).alloc zT;have yF:=(Blk.new (w.alloc (zh m ba bc ia ic)) 26 #[.int .i64 key.kind,.int .u64 key.n,.slice ba' key.bytes.length bc',.slice ia' key.items.length ic']).alloc zT;have ux:=Blk.new ((w.alloc (zh m ba bc ia ic)).alloc (zh key ba' bc' ia' ic')) 26 #[.int .i64 0,.int .u64 0,.slice none 0 0,.slice none 0 0]
 simp only[zr]at yF ux
 clear hm hk cT ew lA Wu;go_enter Tryz.func76,Tryz.ntmps76
 go_wp2_with fail
 go_loopw [6] (fun v6 wr=>∃ j:Nat,j≤m.items.length+1∧v6=.int .i64 j∧atL key (m.items.drop j)=atL key m.items∧Below w.heap.size w wr∧Blk wr w.heap.size 26 #[.int .i64 m.kind,.int .u64 m.n,.slice ba m.bytes.length bc,.slice ia m.items.length ic]∧
  Blk wr (w.heap.size+1) 26 #[.int .i64 key.kind,.int .u64 key.n,.slice ba' key.bytes.length bc',.slice ia' key.items.length ic']∧Blk wr (w.heap.size+1+1) 26 #[.int .i64 0,.int .u64 0,.slice none 0 0,.slice none 0 0]) (fun v6 _=>m.items.length+1-(intOf v6).toNat)
 case atStart=>exact⟨0,by omega,rfl,rfl,qC,y9,yF,ux⟩
 case round =>
 obtain⟨j,hj,rfl,hs,yO,ss,rt,gB⟩:=hrel;have HS:=Hh hs;have c3:=ss.cell 3 rfl;clear hs
 by_cases zB:j+1<m.items.length
 ·have yG:Holds wr H:=hH.below yO (Nat.le_refl _);obtain⟨ib,io,tK,xA⟩:=HM.out.items (by omega);obtain⟨y1,y2,y3,y4,q0,q1,q2,q3,va⟩:=xA.get j (by omega);obtain⟨z1,z2,z3,z4,s0,s1,s2,s3,mn⟩:=xA.get (j+1) zB;subst tK;have rO:(j:Int)+1<m.items.length:=by omega
  have Bu:(j:Int)<m.items.length:=by omega
  have Wp:((j:Int)+1).toNat=j+1:=by omega
  have vd:=Hh (HS.out.symm.trans (UE key m.items j zB));have IH:=Hh (fun w1:World=>fun h1:Holds w1 H=>pV m.items[j] key H _ _ y1 _ y2 y3 _ y4 _ _ ba' _ bc' ia' _ ic' w1 (rI.out.parts.2.2.get j (by omega)) R0.out va.arg HK.out.arg h1)
  generalize m.items[j]'(by omega)=u at *
  generalize m.items[j+1]'zB=v at *
  have zP:=yG.drew;have yH:=yO.drew;have od:=ss.drew;have m6:=rt.drew;have KZ:=gB.drew;clear xA va rt gB;go_upto_region 4 with fail
  refine zw 6 (fun w'=>w'.cell? ⟨w.heap.size,3,none⟩=some (.slice (some ⟨ib,io,none⟩) m.items.length ic)∧w'.cell? ⟨ib,io+j*4,none⟩=some (.int .i64 u.kind)∧w'.cell? ⟨ib,io+j*4+1,none⟩=some (.int .u64 u.n)∧w'.cell? ⟨ib,io+j*4+2,none⟩=some (.slice y1 u.bytes.length y2)∧w'.cell? ⟨ib,io+j*4+3,none⟩=some (.slice y3 u.items.length y4)∧w'.cell? ⟨w.heap.size+1,0,none⟩=some (.int .i64 key.kind)∧w'.cell? ⟨w.heap.size+1,1,none⟩=some (.int .u64 key.n)∧w'.cell? ⟨w.heap.size+1,2,none⟩=some (.slice ba' key.bytes.length bc')∧w'.cell? ⟨w.heap.size+1,3,none⟩=some (.slice ia' key.items.length ic')) (by kernel_rfl) (⟨od.cell 3 rfl,zP.cell q0,zP.cell q1,zP.cell q2,zP.cell q3,m6.cell 0 rfl,m6.cell 1 rfl,m6.cell 2 rfl,m6.cell 3 rfl⟩) (fun zy=>?_)
  refine Tk 0 rfl zy ?_
  refine Tk 1 rfl zy ?_
  refine Tk 2 rfl zy ?_
  refine Tk 3 rfl zy ?_
  refine Tk 4 rfl zy ?_
  refine Tk 5 rfl zy ?_
  refine To 6 rfl fun K hK=>?_
  go_simp
  refine(IH.out _ zP).mono ?_
  rintro e w6 ⟨rfl,xT⟩
  have Wi:=zP.below xT (Nat.le_refl _);have wJ:=yH.trans (xT.mono yH.size);have Wh:=od.below xT;have Kb:=m6.below xT;have FS:=KZ.below xT
  refine Kz hK ?_
  clear hK K
  refine Wd ?_
  clear zy yG zP yH od m6 KZ xT c3 ss
  cases hq:yp u key with
  | true =>
   have EE:Hid (atL key m.items=some v):=by rw[Hid,vd.out,if_pos hq]
   have c3:=Wh.cell 3 rfl;have p0:=Wi.cell s0;have p1:=Wi.cell s1;have p2:=Wi.cell s2;have p3:=Wi.cell s3;clear hq;go_wp2_with (with_reducible refine zx ?_)
   refine stI FS fun w8 i8 yA=>?_
   have oN:=wJ.grown yA wJ.size (by rintro q ⟨⟩;omega);go_wp2_with fail
   refine zY rfl rfl i8 rfl rfl zp rfl ?_
   refine⟨⟨z1,z2,z3,z4, ?_, ?_⟩,oN⟩
   ·rw[EE.out];rfl
   rw[EE.out];exact mn
  | false =>
  have EE:Hid (atL key (m.items.drop (j+2))=atL key m.items):=by rw[Hid,vd.out,hq];rfl
  clear hq;go_wp2_with fail
  go_roundw
  case rel=>exact⟨j+2,by omega,by go_num,EE.out,wJ,Wh,Kb,FS⟩
  case measure=>simp[intOf];omega
 have EE:Hid (atL key m.items=none):=by rw[Hid,← HS.out];exact Rm _ _ _ (by omega)
 have rO:¬ (j:Int)+1<m.items.length:=by omega
 go_wp2_with (with_reducible refine zx ?_)
 refine stI gB fun w8 i8 yA=>?_
 have oN:=yO.grown yA yO.size (by rintro q ⟨⟩;omega);go_wp2_with fail
 refine zY rfl rfl i8 rfl rfl zp rfl ?_
 refine⟨⟨none,0,none,0, ?_, ?_⟩,oN⟩
 ·rw[EE.out];rfl
 rw[EE.out];exact IsItem.plain H 0 0 (by omega) (by omega)
theorem uX (n:Int):Modest (zZ n):=by
 unfold zZ
 split <;> (rw[Modest,ModestL];simp)
theorem Found.gives {w w':World}{H:Snap}{o:Option Itm}{e:Ending}(hH:Holds w H) (h:Found H o e) (hb:Below w.heap.size w w'):∃ v,e=.returned (.tuple #[v,.bool o.isSome])∧Gives w H (o.getD zn) v w':=by
 obtain⟨ba,bc,ia,ic,rfl,hi⟩:=h
 exact⟨_,rfl,ba,bc,ia,ic,H,rfl,Grows.of_below hH hb,hi⟩
theorem kz {m key:Itm}(lA:Modest m) (Wu:Modest key) {H:Snap}{k n:Int}{ba:Option Addr}{bl bc:Nat}{ia:Option Addr}{il ic:Nat}(hm:ItemA H k n ba bl bc ia il ic m)
  {k' n':Int} {ba':Option Addr} {bl' bc':Nat} {ia':Option Addr} {il' ic':Nat} (hk:ItemA H k' n' ba' bl' bc' ia' il' ic' key) (w:World) (hH:Holds w H) :
  Calls Tryz.prog 76 #[.agg #[.int .i64 k,.int .u64 n,.slice ba bl bc,.slice ia il ic],.agg #[.int .i64 k',.int .u64 n',.slice ba' bl' bc',.slice ia' il' ic']] w
   fun e w'=>∃ v,e=.returned (.tuple #[v,.bool (atL key m.items).isSome])∧Gives w H ((atL key m.items).getD zn) v w' :=
 (bO lA Wu hm hk w hH).mono fun _ _ h=>h.1.gives hH h.2
theorem eI {H:Snap}{p u:Itm}(iq:Modest p) (cU:Modest u) {a b:Ad}(hp:IsItem H a.ba a.bc a.ia a.ic p) (hu:IsItem H b.ba b.bc b.ia b.ic u) (n:Int) (uw : -9223372036854775808≤n) (uH:n≤9223372036854775807) (w:World) (hH:Holds w H) :
  Calls Tryz.prog 78 #[.agg (zF p a u b),.int .i64 n] w
   fun e w'=>∃ v,e=.returned (.tuple #[v,.bool (wt p u n).isSome])∧Gives w H ((wt p u n).getD zn) v w':=by
 have hB:=(Blk.new w 28 (zF p a u b)).alloc zT;have hT:=Blk.new (w.alloc (.cells (zF p a u b) 28)) 26 #[.int .i64 0,.int .u64 0,.slice none 0 0,.slice none 0 0]
 simp only[zr]at hT
 have hG:=(((Grows.refl hH).alloc (.cells (zF p a u b) 28)).alloc zT).drew;have uL:H (w.heap.size+1)=none:=hH.none_of_ge (by omega);have yx:=Snap.le.refl H;have Wu:=uX n;go_enter Tryz.func78,Tryz.ntmps78
 go_upto_region 1 with fail
 go_cut [6,7] (fun s6 s7 wx=>∃ N ra rb rc rd Hx,s6=.pointer (some ⟨N,0,none⟩)∧s7=.bool (atL (zZ n) p.items).isSome∧Blk wx N 26 #[.int .i64 ((atL (zZ n) p.items).getD zn).kind,.int .u64 ((atL (zZ n) p.items).getD zn).n,.slice ra ((atL (zZ n) p.items).getD zn).bytes.length rb,.slice rc ((atL (zZ n) p.items).getD zn).items.length rd]∧
  Blk wx w.heap.size 28 (zF p a u b)∧Blk wx (w.heap.size+1) 26 #[.int .i64 0,.int .u64 0,.slice none 0 0,.slice none 0 0]∧Grows w H wx Hx∧H.le Hx∧Hx (w.heap.size+1)=none∧IsItem Hx ra rb rc rd ((atL (zZ n) p.items).getD zn))
 case first =>
  have hB:=hB.drew;have hT:=hT.drew;have tJ:=hT.lt
  refine zw 10 (fun w'=>w'.cell? ⟨w.heap.size,0,none⟩=some (.int .i64 p.kind)∧w'.cell? ⟨w.heap.size,1,none⟩=some (.int .u64 p.n)∧w'.cell? ⟨w.heap.size,2,none⟩=some (.slice a.ba p.bytes.length a.bc)∧w'.cell? ⟨w.heap.size,3,none⟩=some (.slice a.ia p.items.length a.ic)) (by kernel_rfl) (⟨hB.cell 0 rfl,hB.cell 1 rfl,hB.cell 2 rfl,hB.cell 3 rfl⟩) (fun zy=>?_)
  refine Tk 0 rfl zy ?_
  refine Tk 1 rfl zy ?_
  refine Tk 2 rfl zy ?_
  refine Ways.two (i:=3) (j:=8) rfl rfl (by kernel_rfl) (fun K hK=>?_) (fun K hK=>?_)
  ·go_simp
   refine(ug n uw uH _ hG.holds).mono ?_
   rintro e w2 ⟨v2,rfl,rV⟩
   have hB:=hB.below rV.below;have hT:=hT.below rV.below
   try have hN:=hN.below rV.below
   obtain⟨ka,kb,kc,kd,H2,rfl,xB,oe⟩:=rV;have uL:=xB.none uL tJ;have tJ:=hT.lt;have yx:=yx.trans xB.le;have hG:=hG.trans xB
   try have vZ:=xB.none vZ tt
   try have tt:=hN.lt
   refine Ko hK ?_ fun zy=>?_
   ·exact⟨hB.cell 0 rfl,hB.cell 1 rfl,hB.cell 2 rfl,hB.cell 3 rfl⟩
   clear hK K
   refine Ways.two (i:=4) (j:=8) rfl rfl (by kernel_rfl) (fun K hK=>?_) (fun K hK=>?_)
   ·go_simp
    refine(kz iq Wu (hp.mono yx).arg oe.arg _ hG.holds).mono ?_
    rintro e w3 ⟨v3,rfl,rP⟩
    have hB:=hB.below rP.below;have hT:=hT.below rP.below
    try have hN:=hN.below rP.below
    obtain⟨ra,rb,rc,rd,H3,rfl,yN,qK⟩:=rP;have uL:=yN.none uL tJ;have tJ:=hT.lt;have yx:=yx.trans yN.le;have hG:=hG.trans yN
    try have vZ:=yN.none vZ tt
    try have tt:=hN.lt
    refine Ko hK ?_ fun zy=>?_
    ·exact⟨hB.cell 0 rfl,hB.cell 1 rfl,hB.cell 2 rfl,hB.cell 3 rfl⟩
    clear hK K
    refine Tk 5 rfl zy ?_
    refine Tk 6 rfl zy ?_
    refine Tk 7 rfl zy ?_
    refine To 8 rfl fun K hK=>?_
    go_simp
    have hN:=hG.newBlk 26 #[.int .i64 0,.int .u64 0,.slice none 0 0,.slice none 0 0]
    try simp only[zL,zr]at hN
    have vZ:=hG.hidden (Nat.le_refl _)
    try simp only[zL,zr]at vZ
    have rp:=tJ;have rQ:=hG.size;have hB:=hB.alloc zT;have hT:=hT.alloc zT;have hG:=hG.alloc zT;have tJ:=hT.lt;have tt:=hN.lt
    refine Ko hK ?_ fun zy=>?_
    ·exact⟨hB.cell 0 rfl,hB.cell 1 rfl,hB.cell 2 rfl,hB.cell 3 rfl⟩
    clear hK K
    refine To 9 rfl fun K hK=>?_
    rw[if_pos (by rfl)]
    refine zm _ _ _ rfl _ _ rfl rfl _ _ hN zp rfl (ua _ _ _ _ rfl rfl rfl rfl) fun w5 hN5 yP=>?_
    have hB:=hB.grown yP (by first | (simp;done) | (simp;omega));have hT:=hT.grown yP (by first | (simp;done) | (simp;omega));have hG:=hG.grownOwn vZ (by first | exact rQ | omega) yP
    refine Ko hK ?_ fun zy=>?_
    ·exact⟨hB.cell 0 rfl,hB.cell 1 rfl,hB.cell 2 rfl,hB.cell 3 rfl⟩
    clear hK K
    refine To 10 rfl fun K hK=>?_
    go_simp
    refine Kz hK ?_
    clear hK K
    refine Wd ?_
    go_wp2_with fail
    go_meet
    exact⟨_,ra,rb,rc,rd,_,rfl,rfl,hN5,hB,hT,hG,yx,uL,qK⟩
   go_simp
   have hN:=hG.newBlk 26 #[.int .i64 0,.int .u64 0,.slice none 0 0,.slice none 0 0]
   try simp only[zL,zr]at hN
   have vZ:=hG.hidden (Nat.le_refl _)
   try simp only[zL,zr]at vZ
   have rp:=tJ;have rQ:=hG.size;have hB:=hB.alloc zT;have hT:=hT.alloc zT;have hG:=hG.alloc zT;have tJ:=hT.lt;have tt:=hN.lt
   refine Ko hK ?_ fun zy=>?_
   ·exact⟨hB.cell 0 rfl,hB.cell 1 rfl,hB.cell 2 rfl,hB.cell 3 rfl⟩
   clear hK K
   refine To 4 rfl fun K hK=>?_
   go_simp
   refine(kz iq Wu (hp.mono yx).arg oe.arg _ hG.holds).mono ?_
   rintro e w3 ⟨v3,rfl,rP⟩
   have hB:=hB.below rP.below;have hT:=hT.below rP.below
   try have hN:=hN.below rP.below
   obtain⟨ra,rb,rc,rd,H3,rfl,yN,qK⟩:=rP;have uL:=yN.none uL tJ;have tJ:=hT.lt;have yx:=yx.trans yN.le;have hG:=hG.trans yN
   try have vZ:=yN.none vZ tt
   try have tt:=hN.lt
   refine Ko hK ?_ fun zy=>?_
   ·exact⟨hB.cell 0 rfl,hB.cell 1 rfl,hB.cell 2 rfl,hB.cell 3 rfl⟩
   clear hK K
   refine Tk 5 rfl zy ?_
   refine Tk 6 rfl zy ?_
   refine Tk 7 rfl zy ?_
   refine To 9 rfl fun K hK=>?_
   rw[if_pos (by rfl)]
   refine zm _ _ _ rfl _ _ rfl rfl _ _ hN zp rfl (ua _ _ _ _ rfl rfl rfl rfl) fun w5 hN5 yP=>?_
   have hB:=hB.grown yP (by first | (simp;done) | (simp;omega));have hT:=hT.grown yP (by first | (simp;done) | (simp;omega));have hG:=hG.grownOwn vZ (by first | exact rQ | omega) yP
   refine Ko hK ?_ fun zy=>?_
   ·exact⟨hB.cell 0 rfl,hB.cell 1 rfl,hB.cell 2 rfl,hB.cell 3 rfl⟩
   clear hK K
   refine To 10 rfl fun K hK=>?_
   go_simp
   refine Kz hK ?_
   clear hK K
   refine Wd ?_
   go_wp2_with fail
   go_meet
   exact⟨_,ra,rb,rc,rd,_,rfl,rfl,hN5,hB,hT,hG,yx,uL,qK⟩
  go_simp
  have hN:=hG.newBlk 26 #[.int .i64 0,.int .u64 0,.slice none 0 0,.slice none 0 0]
  try simp only[zL,zr]at hN
  have vZ:=hG.hidden (Nat.le_refl _)
  try simp only[zL,zr]at vZ
  have rp:=tJ;have rQ:=hG.size;have hB:=hB.alloc zT;have hT:=hT.alloc zT;have hG:=hG.alloc zT;have tJ:=hT.lt;have tt:=hN.lt
  refine Ko hK ?_ fun zy=>?_
  ·exact⟨hB.cell 0 rfl,hB.cell 1 rfl,hB.cell 2 rfl,hB.cell 3 rfl⟩
  clear hK K
  refine To 3 rfl fun K hK=>?_
  go_simp
  refine(ug n uw uH _ hG.holds).mono ?_
  rintro e w2 ⟨v2,rfl,rV⟩
  have hB:=hB.below rV.below;have hT:=hT.below rV.below
  try have hN:=hN.below rV.below
  obtain⟨ka,kb,kc,kd,H2,rfl,xB,oe⟩:=rV;have uL:=xB.none uL tJ;have tJ:=hT.lt;have yx:=yx.trans xB.le;have hG:=hG.trans xB
  try have vZ:=xB.none vZ tt
  try have tt:=hN.lt
  refine Ko hK ?_ fun zy=>?_
  ·exact⟨hB.cell 0 rfl,hB.cell 1 rfl,hB.cell 2 rfl,hB.cell 3 rfl⟩
  clear hK K
  refine To 4 rfl fun K hK=>?_
  go_simp
  refine(kz iq Wu (hp.mono yx).arg oe.arg _ hG.holds).mono ?_
  rintro e w3 ⟨v3,rfl,rP⟩
  have hB:=hB.below rP.below;have hT:=hT.below rP.below
  try have hN:=hN.below rP.below
  obtain⟨ra,rb,rc,rd,H3,rfl,yN,qK⟩:=rP;have uL:=yN.none uL tJ;have tJ:=hT.lt;have yx:=yx.trans yN.le;have hG:=hG.trans yN
  try have vZ:=yN.none vZ tt
  try have tt:=hN.lt
  refine Ko hK ?_ fun zy=>?_
  ·exact⟨hB.cell 0 rfl,hB.cell 1 rfl,hB.cell 2 rfl,hB.cell 3 rfl⟩
  clear hK K
  refine Tk 5 rfl zy ?_
  refine Tk 6 rfl zy ?_
  refine Tk 7 rfl zy ?_
  refine To 9 rfl fun K hK=>?_
  rw[if_pos (by rfl)]
  refine zm _ _ _ rfl _ _ rfl rfl _ _ hN zp rfl (ua _ _ _ _ rfl rfl rfl rfl) fun w5 hN5 yP=>?_
  have hB:=hB.grown yP (by first | (simp;done) | (simp;omega));have hT:=hT.grown yP (by first | (simp;done) | (simp;omega));have hG:=hG.grownOwn vZ (by first | exact rQ | omega) yP
  refine Ko hK ?_ fun zy=>?_
  ·exact⟨hB.cell 0 rfl,hB.cell 1 rfl,hB.cell 2 rfl,hB.cell 3 rfl⟩
  clear hK K
  refine To 10 rfl fun K hK=>?_
  go_simp
  refine Kz hK ?_
  clear hK K
  refine Wd ?_
  go_wp2_with fail
  go_meet
  exact⟨_,ra,rb,rc,rd,_,rfl,rfl,hN5,hB,hT,hG,yx,uL,qK⟩
 case rest =>
 obtain⟨N,ra,rb,rc,rd,Hx,rfl,rfl,hN,hB,hT,hG,yx,uL,hi⟩:=hcut;have tJ:=hT.lt
 cases hf:atL (zZ n) p.items with
 | some x =>
  have E:Hid (wt p u n=some x):=by rw[Hid,wt,hf]
  rw[hf]at hN hi
  simp only[Option.getD_some]at hN hi
  have n0:=hN.cell 0 rfl;have n1:=hN.cell 1 rfl;have n2:=hN.cell 2 rfl;have n3:=hN.cell 3 rfl;clear hf;go_wp2_with (with_reducible refine zx ?_)
  refine stI hT fun w6 ki xX=>?_
  go_wp2_with fail
  refine zY rfl rfl ki rfl rfl zp rfl ?_
  rw[E.out]
  exact⟨_,rfl,ra,rb,rc,rd,Hx,rfl,hG.grownOwn uL (by omega) xX,hi⟩
 | none =>
 have E:Hid (wt p u n=atL (zZ n) u.items):=by rw[Hid,wt,hf]
 clear hN hi hf;have hB:=hB.drew;have hT:=hT.drew;have hG:=hG.drew;have tJ:=hT.lt;go_upto_region 4 with fail
 refine zw 8 (fun w'=>w'.cell? ⟨w.heap.size,4,none⟩=some (.int .i64 u.kind)∧w'.cell? ⟨w.heap.size,5,none⟩=some (.int .u64 u.n)∧w'.cell? ⟨w.heap.size,6,none⟩=some (.slice b.ba u.bytes.length b.bc)∧w'.cell? ⟨w.heap.size,7,none⟩=some (.slice b.ia u.items.length b.ic)) (by kernel_rfl) (⟨hB.cell 4 rfl,hB.cell 5 rfl,hB.cell 6 rfl,hB.cell 7 rfl⟩) (fun zy=>?_)
 refine Tk 0 rfl zy ?_
 refine Tk 1 rfl zy ?_
 refine Tk 2 rfl zy ?_
 refine To 3 rfl fun K hK=>?_
 go_simp
 refine(ug n uw uH _ hG.holds).mono ?_
 rintro e w7 ⟨v7,rfl,o4⟩
 have hB:=hB.below o4.below;have hT:=hT.below o4.below;obtain⟨sa,sb,sc,sd,H7,rfl,vV,eu⟩:=o4;have uL:=vV.none uL tJ;have tJ:=hT.lt;have yx:=yx.trans vV.le;have hG:=hG.trans vV
 refine Ko hK ?_ fun zy=>?_
 ·exact⟨hB.cell 4 rfl,hB.cell 5 rfl,hB.cell 6 rfl,hB.cell 7 rfl⟩
 clear hK K
 refine To 4 rfl fun K hK=>?_
 go_simp
 refine(kz cU Wu (hu.mono yx).arg eu.arg _ hG.holds).mono ?_
 rintro e w8 ⟨v8,rfl,rn⟩
 have hB:=hB.below rn.below;have hT:=hT.below rn.below;obtain⟨ta,tb,tc,td,H8,rfl,yA,my⟩:=rn;have uL:=yA.none uL tJ;have tJ:=hT.lt;have yx:=yx.trans yA.le;have hG:=hG.trans yA
 refine Ko hK ?_ fun zy=>?_
 ·exact⟨hB.cell 4 rfl,hB.cell 5 rfl,hB.cell 6 rfl,hB.cell 7 rfl⟩
 clear hK K
 refine Tk 5 rfl zy ?_
 refine Tk 6 rfl zy ?_
 refine To 7 rfl fun K hK=>?_
 rw[if_pos (by rfl)]
 refine zm _ _ _ rfl (w.heap.size+1) _ rfl rfl _ _ hT zp rfl (ua _ _ _ _ rfl rfl rfl rfl) fun w9 kj yL=>?_
 have hB:=hB.grown yL (by simp);have hG:=hG.grownOwn uL (by omega) yL
 refine Ko hK ?_ fun zy=>?_
 ·exact⟨hB.cell 4 rfl,hB.cell 5 rfl,hB.cell 6 rfl,hB.cell 7 rfl⟩
 clear hK K
 refine To 8 rfl fun K hK=>?_
 go_simp
 refine Kz hK ?_
 clear hK K
 refine Wd ?_
 go_wp2_with fail
 refine zY rfl rfl kj rfl rfl zp rfl ?_
 rw[E.out]
 exact⟨_,rfl,ta,tb,tc,td,_,rfl,hG,my⟩
end Go.Proofs.YtliomcphdnppnaaGreatDoor
