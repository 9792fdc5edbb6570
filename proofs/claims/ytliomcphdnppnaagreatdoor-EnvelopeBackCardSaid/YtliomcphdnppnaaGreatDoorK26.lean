/- squeezed. Walks: the references' at. Walks:  -/
import Derived.Test.YtliomcphdnppnaaGreatDoorK21
set_option linter.unusedVariables false
set_option linter.unusedSimpArgs false
set_option maxRecDepth 100000
set_option maxHeartbeats 6400000
namespace Go.Proofs.YtliomcphdnppnaaGreatDoor
open Go.RowKit
theorem jeC{P:Prop}(h:P:=by
 refine Ko hK ?_ fun zy=>?_
 ·exact jao
 clear hK K
 refine To 4 rfl fun K hK=>?_
 go_simp
 refine(ff gn QV (hp.mono yw).arg pi.arg _ hG.holds).mono ?_
 exact jag):P:=h
theorem Mt (key:Itm) (l:List Itm) (k:Nat) (hk:k+1<l.length):atL key (l.drop k)=if yL l[k] key=true then some l[k+1] else atL key (l.drop (k+2)):=by
 rw[List.drop_eq_getElem_cons (show k<l.length by omega),List.drop_eq_getElem_cons hk,atL]
theorem Jj (key:Itm) (l:List Itm) (k:Nat) (hk:l.length≤k+1):atL key (l.drop k)=none:=by
 have hl:(l.drop k).length≤1:=by rw[List.length_drop];omega
 match l.drop k,hl with
 | [],_=>rfl
 | [_],_=>rfl
 | _::_::_,h=>simp at h
def Found (H:Snap) (o:Option Itm) (e:Ending):Prop:=∃ ba bc ia ic,e=.returned (.tuple #[xp (o.getD ze) ba bc ia ic,.bool o.isSome])∧IsItem H ba bc ia ic (o.getD ze)
theorem Vu {m key:Itm}(fm:Modest m) (QV:Modest key) {H:Snap}{k n:Int}{ba:Option Addr}{bl bc:Nat}{ia:Option Addr}{il ic:Nat}(hm:ItemA H k n ba bl bc ia il ic m)
  {k' n':Int} {ba':Option Addr} {bl' bc':Nat} {ia':Option Addr} {il' ic':Nat} (hk:ItemA H k' n' ba' bl' bc' ia' il' ic' key) (w:World) (hH:Holds w H) :
  Calls Tryz.prog 76 #[.agg #[.int .i64 k,.int .u64 n,.slice ba bl bc,.slice ia il ic],.agg #[.int .i64 k',.int .u64 n',.slice ba' bl' bc',.slice ia' il' ic']] w fun e w'=>Found H (atL key m.items) e∧Below w.heap.size w w':=by
 obtain⟨rfl,rfl,rfl,rfl,fU⟩:=hm.eqs_;obtain⟨rfl,rfl,rfl,rfl,ZG⟩:=hk.eqs_;have HM:=Hh fU;have HK:=Hh ZG;have oZ:=Hh fm;have JA:=Hh QV;have Wj:=fm.parts.2.1;have nD:=((zo w (zU m ba bc ia ic)).alloc (by simp) (zU key ba' bc' ia' ic')).alloc (by simp;omega) zi;have xX:=((Blk.new w 26 #[.int .i64 m.kind,.int .u64 m.n,.slice ba m.bytes.length bc,.slice ia m.items.length ic]).alloc (zU key ba' bc' ia' ic')).alloc zi;have yQ:=(Blk.new (w.alloc (zU m ba bc ia ic)) 26 #[.int .i64 key.kind,.int .u64 key.n,.slice ba' key.bytes.length bc',.slice ia' key.items.length ic']).alloc zi;have wi:=Blk.new ((w.alloc (zU m ba bc ia ic)).alloc (zU key ba' bc' ia' ic')) 26 #[.int .i64 0,.int .u64 0,.slice none 0 0,.slice none 0 0]
 simp only[zr]at yQ wi
 clear hm hk fU ZG fm QV;go_enter Tryz.func76,Tryz.ntmps76
 go_wp2_with fail
 go_loopw [6] (fun v6 wr=>∃ j:Nat,j≤m.items.length+1∧v6=.int .i64 j∧atL key (m.items.drop j)=atL key m.items∧Below w.heap.size w wr∧Blk wr w.heap.size 26 #[.int .i64 m.kind,.int .u64 m.n,.slice ba m.bytes.length bc,.slice ia m.items.length ic]∧
  Blk wr (w.heap.size+1) 26 #[.int .i64 key.kind,.int .u64 key.n,.slice ba' key.bytes.length bc',.slice ia' key.items.length ic']∧Blk wr (w.heap.size+1+1) 26 #[.int .i64 0,.int .u64 0,.slice none 0 0,.slice none 0 0]) (fun v6 _=>m.items.length+1-(intOf v6).toNat)
 case atStart=>exact⟨0,by omega,rfl,rfl,nD,xX,yQ,wi⟩
 case round =>
 obtain⟨j,hj,rfl,hs,xY,qj,pZ,dL⟩:=hrel;have HS:=Hh hs;have c3:=qj.cell 3 rfl;clear hs
 by_cases yu:j+1<m.items.length
 ·have xN:=jge;obtain⟨ib,io,rC,wY⟩:=HM.out.items (by omega);obtain⟨y1,y2,y3,y4,q0,q1,q2,q3,uy⟩:=wY.get j (by omega);obtain⟨z1,z2,z3,z4,s0,s1,s2,s3,ij⟩:=wY.get (j+1) yu;subst rC;have ot:(j:Int)+1<m.items.length:=by omega
  have zBz:(j:Int)<m.items.length:=by omega
  have QS:((j:Int)+1).toNat=j+1:=by omega
  have uF:=Hh (HS.out.symm.trans (Mt key m.items j yu));have IH:=Hh (fun w1:World=>fun h1:Holds w1 H=>pz m.items[j] key H _ _ y1 _ y2 y3 _ y4 _ _ ba' _ bc' ia' _ ic' w1 (oZ.out.parts.2.2.get j (by omega)) JA.out uy.arg HK.out.arg h1)
  generalize m.items[j]'(by omega)=u at *
  generalize m.items[j+1]'yu=v at *
  have zE:=xN.drew;have xO:=xY.drew;have mu:=qj.drew;have jw:=pZ.drew;have AY:=dL.drew;clear wY uy pZ dL;go_upto_region 4 with fail
  refine zw 6 (fun w'=>w'.cell? ⟨w.heap.size,3,none⟩=some (.slice (some ⟨ib,io,none⟩) m.items.length ic)∧w'.cell? ⟨ib,io+j*4,none⟩=some (.int .i64 u.kind)∧w'.cell? ⟨ib,io+j*4+1,none⟩=some (.int .u64 u.n)∧w'.cell? ⟨ib,io+j*4+2,none⟩=some (.slice y1 u.bytes.length y2)∧w'.cell? ⟨ib,io+j*4+3,none⟩=some (.slice y3 u.items.length y4)∧w'.cell? ⟨w.heap.size+1,0,none⟩=some (.int .i64 key.kind)∧w'.cell? ⟨w.heap.size+1,1,none⟩=some (.int .u64 key.n)∧w'.cell? ⟨w.heap.size+1,2,none⟩=some (.slice ba' key.bytes.length bc')∧w'.cell? ⟨w.heap.size+1,3,none⟩=some (.slice ia' key.items.length ic')) (by kernel_rfl) (⟨mu.cell 3 rfl,zE.cell q0,zE.cell q1,zE.cell q2,zE.cell q3,jw.cell 0 rfl,jw.cell 1 rfl,jw.cell 2 rfl,jw.cell 3 rfl⟩) (fun zy=>?_)
  refine Tk 0 rfl zy ?_
  refine Tk 1 rfl zy ?_
  refine Tk 2 rfl zy ?_
  refine Tk 3 rfl zy ?_
  refine Tk 4 rfl zy ?_
  refine Tk 5 rfl zy ?_
  refine To 6 rfl fun K hK=>?_
  go_simp
  refine(IH.out _ zE).mono ?_
  rintro e w6 ⟨rfl,wX⟩
  have QN:=zE.below wX (Nat.le_refl _);have um:=xO.trans (wX.mono xO.size);have QK:=mu.below wX;have Aa:=jw.below wX;have hE3:=AY.below wX
  refine Kz hK ?_
  clear hK K
  refine Wd ?_
  clear zy xN zE xO mu jw AY wX c3 qj
  cases hq:yL u key with
  | true =>
   have EE:Hid (atL key m.items=some v):=by rw[Hid,uF.out,if_pos hq]
   have c3:=QK.cell 3 rfl;have p0:=QN.cell s0;have p1:=QN.cell s1;have p2:=QN.cell s2;have p3:=QN.cell s3;clear hq;go_wp2_with (with_reducible refine zx ?_)
   refine stI hE3 fun w8 bz xJ=>?_
   have qU:=um.grown xJ um.size (by rintro q ⟨⟩;omega);go_wp2_with fail
   refine zp rfl rfl bz rfl rfl zu rfl ?_
   refine⟨⟨z1,z2,z3,z4, ?_, ?_⟩,qU⟩
   ·rw[EE.out];rfl
   rw[EE.out];exact ij
  | false =>
  have EE:Hid (atL key (m.items.drop (j+2))=atL key m.items):=by rw[Hid,uF.out,hq];rfl
  clear hq;go_wp2_with fail
  go_roundw
  case rel=>exact⟨j+2,by omega,by go_num,EE.out,um,QK,Aa,hE3⟩
  case measure=>simp[intOf];omega
 have EE:Hid (atL key m.items=none):=by rw[Hid,← HS.out];exact Jj _ _ _ (by omega)
 have ot:¬ (j:Int)+1<m.items.length:=by omega
 go_wp2_with (with_reducible refine zx ?_)
 refine stI dL fun w8 bz xJ=>?_
 have qU:=xY.grown xJ xY.size (by rintro q ⟨⟩;omega);go_wp2_with fail
 refine zp rfl rfl bz rfl rfl zu rfl ?_
 refine⟨⟨none,0,none,0, ?_, ?_⟩,qU⟩
 ·rw[EE.out];rfl
 rw[EE.out];exact IsItem.plain H 0 0 (by omega) (by omega)
theorem sw (n:Int):Modest (zS n):=by
 unfold zS
 split <;> (rw[Modest,ModestL];simp)
theorem Found.gives {w w':World}{H:Snap}{o:Option Itm}{e:Ending}(hH:Holds w H) (h:Found H o e) (hb:Below w.heap.size w w'):∃ v,e=.returned (.tuple #[v,.bool o.isSome])∧Gives w H (o.getD ze) v w':=by
 obtain⟨ba,bc,ia,ic,rfl,hi⟩:=h
 exact⟨_,rfl,ba,bc,ia,ic,H,rfl,Grows.of_below hH hb,hi⟩
theorem ff {m key:Itm}(fm:Modest m) (QV:Modest key) {H:Snap}{k n:Int}{ba:Option Addr}{bl bc:Nat}{ia:Option Addr}{il ic:Nat}(hm:ItemA H k n ba bl bc ia il ic m)
  {k' n':Int} {ba':Option Addr} {bl' bc':Nat} {ia':Option Addr} {il' ic':Nat} (hk:ItemA H k' n' ba' bl' bc' ia' il' ic' key) (w:World) (hH:Holds w H) :
  Calls Tryz.prog 76 #[.agg #[.int .i64 k,.int .u64 n,.slice ba bl bc,.slice ia il ic],.agg #[.int .i64 k',.int .u64 n',.slice ba' bl' bc',.slice ia' il' ic']] w
   fun e w'=>∃ v,e=.returned (.tuple #[v,.bool (atL key m.items).isSome])∧Gives w H ((atL key m.items).getD ze) v w' :=
 (Vu fm QV hm hk w hH).mono fun _ _ h=>h.1.gives hH h.2
theorem Yd {H:Snap}{p u:Itm}(gn:Modest p) (dH:Modest u) {a b:Ad}(hp:IsItem H a.ba a.bc a.ia a.ic p) (hu:IsItem H b.ba b.bc b.ia b.ic u) (n:Int) (un : -9223372036854775808≤n) (tF:n≤9223372036854775807) (w:World) (hH:Holds w H) :
  Calls Tryz.prog 78 #[.agg (zA p a u b),.int .i64 n] w
   fun e w'=>∃ v,e=.returned (.tuple #[v,.bool (vj p u n).isSome])∧Gives w H ((vj p u n).getD ze) v w':=by
 obtain⟨hB,hT⟩:=jfs
 simp only[zr]at hT
 have hG:=(((Grows.refl hH).alloc (.cells (zA p a u b) 28)).alloc zi).drew;have uE:=jgx;have yw:=Snap.le.refl H;have QV:=sw n;go_enter Tryz.func78,Tryz.ntmps78
 go_upto_region 1 with fail
 go_cut [6,7] (fun s6 s7 wx=>∃ N ra rb rc rd Hx,s6=.pointer (some ⟨N,0,none⟩)∧s7=.bool (atL (zS n) p.items).isSome∧Blk wx N 26 #[.int .i64 ((atL (zS n) p.items).getD ze).kind,.int .u64 ((atL (zS n) p.items).getD ze).n,.slice ra ((atL (zS n) p.items).getD ze).bytes.length rb,.slice rc ((atL (zS n) p.items).getD ze).items.length rd]∧
  Blk wx w.heap.size 28 (zA p a u b)∧Blk wx (w.heap.size+1) 26 #[.int .i64 0,.int .u64 0,.slice none 0 0,.slice none 0 0]∧Grows w H wx Hx∧H.le Hx∧Hx (w.heap.size+1)=none∧IsItem Hx ra rb rc rd ((atL (zS n) p.items).getD ze))
 case first =>
  have hB:=hB.drew;have hT:=hT.drew;have vk:=hT.lt
  refine zw 10 (fun w'=>w'.cell? ⟨w.heap.size,0,none⟩=some (.int .i64 p.kind)∧w'.cell? ⟨w.heap.size,1,none⟩=some (.int .u64 p.n)∧w'.cell? ⟨w.heap.size,2,none⟩=some (.slice a.ba p.bytes.length a.bc)∧w'.cell? ⟨w.heap.size,3,none⟩=some (.slice a.ia p.items.length a.ic)) (by kernel_rfl) (⟨hB.cell 0 rfl,hB.cell 1 rfl,hB.cell 2 rfl,hB.cell 3 rfl⟩) (fun zy=>?_)
  refine Tk 0 rfl zy ?_
  refine Tk 1 rfl zy ?_
  refine Tk 2 rfl zy ?_
  refine Ways.two (i:=3) (j:=8) rfl rfl (by kernel_rfl) (fun K hK=>?_) (fun K hK=>?_)
  ·go_simp
   refine(tD n un tF _ hG.holds).mono ?_
   rintro e w2 ⟨v2,rfl,ru⟩
   have hB:=hB.below ru.below;have hT:=hT.below ru.below
   try have hN:=hN.below ru.below
   obtain⟨ka,kb,kc,kd,H2,rfl,yE,pi⟩:=ru;obtain⟨uE,vk,yw,hG⟩:=jgi
   try have uL:=yE.none uL rx
   try have rx:=hN.lt
   refine Ko hK ?_ fun zy=>?_
   ·exact jao
   clear hK K
   refine Ways.two (i:=4) (j:=8) rfl rfl (by kernel_rfl) (fun K hK=>?_) (fun K hK=>?_)
   ·go_simp
    refine(ff gn QV (hp.mono yw).arg pi.arg _ hG.holds).mono ?_
    exact jd8
   go_simp
   have hN:=jfz
   try simp only[zW,zr]at hN
   have uL:=hG.hidden (Nat.le_refl _)
   try simp only[zW,zr]at uL
   obtain⟨rE,oz,hB,hT,hG,vk,rx⟩:=jfX
   exact jeC
  go_simp
  have hN:=jfz
  try simp only[zW,zr]at hN
  have uL:=hG.hidden (Nat.le_refl _)
  try simp only[zW,zr]at uL
  obtain⟨rE,oz,hB,hT,hG,vk,rx⟩:=jfX
  refine Ko hK ?_ fun zy=>?_
  ·exact jao
  clear hK K
  refine To 3 rfl fun K hK=>?_
  go_simp
  refine(tD n un tF _ hG.holds).mono ?_
  rintro e w2 ⟨v2,rfl,ru⟩
  have hB:=hB.below ru.below;have hT:=hT.below ru.below
  try have hN:=hN.below ru.below
  obtain⟨ka,kb,kc,kd,H2,rfl,yE,pi⟩:=ru;obtain⟨uE,vk,yw,hG⟩:=jgi
  try have uL:=yE.none uL rx
  try have rx:=hN.lt
  exact jeC
 case rest =>
 obtain⟨N,ra,rb,rc,rd,Hx,rfl,rfl,hN,hB,hT,hG,yw,uE,hi⟩:=hcut;have vk:=hT.lt
 cases hf:atL (zS n) p.items with
 | some x =>
  have E:Hid (vj p u n=some x):=by rw[Hid,vj,hf]
  exact jbi
 | none =>
 have E:Hid (vj p u n=atL (zS n) u.items):=by rw[Hid,vj,hf]
 clear hN hi hf;have hB:=hB.drew;have hT:=hT.drew;have hG:=hG.drew;have vk:=hT.lt;go_upto_region 4 with fail
 refine zw 8 (fun w'=>w'.cell? ⟨w.heap.size,4,none⟩=some (.int .i64 u.kind)∧w'.cell? ⟨w.heap.size,5,none⟩=some (.int .u64 u.n)∧w'.cell? ⟨w.heap.size,6,none⟩=some (.slice b.ba u.bytes.length b.bc)∧w'.cell? ⟨w.heap.size,7,none⟩=some (.slice b.ia u.items.length b.ic)) (by kernel_rfl) (⟨hB.cell 4 rfl,hB.cell 5 rfl,hB.cell 6 rfl,hB.cell 7 rfl⟩) (fun zy=>?_)
 refine Tk 0 rfl zy ?_
 refine Tk 1 rfl zy ?_
 refine Tk 2 rfl zy ?_
 refine To 3 rfl fun K hK=>?_
 go_simp
 refine(tD n un tF _ hG.holds).mono ?_
 rintro e w7 ⟨v7,rfl,kE⟩
 have hB:=hB.below kE.below;have hT:=hT.below kE.below;obtain⟨sa,sb,sc,sd,H7,rfl,wJ,ZF⟩:=kE;have uE:=wJ.none uE vk;have vk:=hT.lt;have yw:=yw.trans wJ.le;have hG:=hG.trans wJ
 refine Ko hK ?_ fun zy=>?_
 ·exact jaG
 clear hK K
 refine To 4 rfl fun K hK=>?_
 go_simp
 refine(ff dH QV (hu.mono yw).arg ZF.arg _ hG.holds).mono ?_
 exact jec
end Go.Proofs.YtliomcphdnppnaaGreatDoor
