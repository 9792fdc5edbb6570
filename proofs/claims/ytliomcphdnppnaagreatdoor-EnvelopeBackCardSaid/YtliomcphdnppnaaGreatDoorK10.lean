/- squeezed. Walk: cbor.Find. Walks: header.pai -/
import Derived.Test.YtliomcphdnppnaaGreatDoorK09
import Derived.Deep.DeepCutAuto
set_option linter.unusedVariables false
set_option linter.unusedSimpArgs false
set_option maxRecDepth 100000
set_option maxHeartbeats 6400000
namespace Go.Proofs.YtliomcphdnppnaaGreatDoor
open Go.RowKit
theorem jag{P:Prop}(h:P:=by
 rintro e w3 ⟨v3,rfl,ow⟩
 have hB:=hB.below ow.below;have hT:=hT.below ow.below
 try have hN:=hN.below ow.below
 obtain⟨ra,rb,rc,rd,H3,rfl,ye,nO⟩:=ow;have uE:=ye.none uE vk;have vk:=hT.lt;have yw:=yw.trans ye.le;have hG:=hG.trans ye
 try have uL:=ye.none uL rx
 try have rx:=hN.lt
 refine Ko hK ?_ fun zy=>?_
 ·exact jeu
 clear hK K
 refine Tk 5 rfl zy ?_
 refine Tk 6 rfl zy ?_
 refine Tk 7 rfl zy ?_
 exact jeb):P:=h
theorem jah{P:Prop}(h:P:=by exact jeb):P:=h
theorem jao{P:Prop}(h:P:=by exact jeu):P:=h
theorem jaG{P:Prop}(h:P:=by exact jev):P:=h
theorem jbi{P:Prop}(h:P:=by
 rw[hf]at hN hi
 simp only[Option.getD_some]at hN hi
 have n0:=hN.cell 0 rfl;have n1:=hN.cell 1 rfl;have n2:=hN.cell 2 rfl;have n3:=hN.cell 3 rfl;clear hf;go_wp2_with (with_reducible refine zx ?_)
 refine stI hT fun w6 fS ws=>?_
 go_wp2_with fail
 refine zp rfl rfl fS rfl rfl zu rfl ?_
 rw[E.out]
 exact⟨_,rfl,ra,rb,rc,rd,Hx,rfl,hG.grownOwn uE (by omega) ws,hi⟩):P:=h
theorem jbD{P:Prop}(h:P:=by
 go_wp2_with fail
 go_ret
 exact⟨by rw[E.out];rfl,sP⟩):P:=h
theorem jbW{P:Prop}(h:P:=by
 clear hK K
 refine To 8 rfl fun K hK=>?_
 go_simp
 refine Kz hK ?_
 clear hK K
 refine Wd ?_
 go_wp2_with fail
 refine zp rfl rfl od rfl rfl zu rfl ?_
 rw[E.out]
 exact⟨_,rfl,ta,tb,tc,td,_,rfl,hG,ip⟩):P:=h
theorem jd8{P:Prop}(h:P:=by
 rintro e w3 ⟨v3,rfl,ow⟩
 have hB:=hB.below ow.below;have hT:=hT.below ow.below
 try have hN:=hN.below ow.below
 obtain⟨ra,rb,rc,rd,H3,rfl,ye,nO⟩:=ow;have uE:=ye.none uE vk;have vk:=hT.lt;have yw:=yw.trans ye.le;have hG:=hG.trans ye
 try have uL:=ye.none uL rx
 try have rx:=hN.lt
 refine Ko hK ?_ fun zy=>?_
 ·exact jao
 clear hK K
 refine Tk 5 rfl zy ?_
 refine Tk 6 rfl zy ?_
 refine Tk 7 rfl zy ?_
 refine To 8 rfl fun K hK=>?_
 go_simp
 have hN:=hG.newBlk 26 #[.int .i64 0,.int .u64 0,.slice none 0 0,.slice none 0 0]
 try simp only[zW,zr]at hN
 have uL:=hG.hidden (Nat.le_refl _)
 try simp only[zW,zr]at uL
 have rE:=vk;have oz:=hG.size;have hB:=hB.alloc zi;have hT:=hT.alloc zi;have hG:=hG.alloc zi;have vk:=hT.lt;have rx:=hN.lt
 refine Ko hK ?_ fun zy=>?_
 ·exact jao
 clear hK K
 exact jah):P:=h
theorem jeb{P:Prop}(h:P:=by
 refine To 9 rfl fun K hK=>?_
 rw[if_pos (by rfl)]
 refine zh _ _ _ rfl _ _ rfl rfl _ _ hN zu rfl (tR _ _ _ _ rfl rfl rfl rfl) fun w5 ZC xv=>?_
 have hB:=hB.grown xv (by first | (simp;done) | (simp;omega));have hT:=hT.grown xv (by first | (simp;done) | (simp;omega));have hG:=hG.grownOwn uL (by first | exact oz | omega) xv
 refine Ko hK ?_ fun zy=>?_
 ·exact je6
 clear hK K
 refine To 10 rfl fun K hK=>?_
 go_simp
 refine Kz hK ?_
 clear hK K
 refine Wd ?_
 go_wp2_with fail
 go_meet
 exact⟨_,ra,rb,rc,rd,_,rfl,rfl,ZC,hB,hT,hG,yw,uE,nO⟩):P:=h
theorem jec{P:Prop}(h:P:=by
 rintro e w8 ⟨v8,rfl,pV⟩
 have hB:=hB.below pV.below;have hT:=hT.below pV.below;obtain⟨ta,tb,tc,td,H8,rfl,xJ,ip⟩:=pV;have uE:=xJ.none uE vk;have vk:=hT.lt;have yw:=yw.trans xJ.le;have hG:=hG.trans xJ
 refine Ko hK ?_ fun zy=>?_
 ·exact jaG
 clear hK K
 refine Tk 5 rfl zy ?_
 refine Tk 6 rfl zy ?_
 refine To 7 rfl fun K hK=>?_
 rw[if_pos (by rfl)]
 refine zh _ _ _ rfl (w.heap.size+1) _ rfl rfl _ _ hT zu rfl (tR _ _ _ _ rfl rfl rfl rfl) fun w9 od xR=>?_
 have hB:=hB.grown xR (by simp);have hG:=hG.grownOwn uE (by omega) xR
 refine Ko hK ?_ fun zy=>?_
 ·exact jaG
 exact jbW):P:=h
theorem jeu{P:Prop}(h:P:=by exact je6):P:=h
theorem jev{P:Prop}(h:P:=by exact⟨hB.cell 4 rfl,hB.cell 5 rfl,hB.cell 6 rfl,hB.cell 7 rfl⟩):P:=h
theorem jez{P:Prop}(h:P:=by
 refine Ko hK ?_ fun zy=>?_
 ·exact jao
 clear hK K
 refine To 4 rfl fun K hK=>?_
 go_simp
 refine(vQ (hTab.mono yw) (hp.mono yw).arg pi.arg _ hG.holds).mono ?_
 exact jag):P:=h
theorem je6{P:Prop}(h:P:=by exact⟨hB.cell 0 rfl,hB.cell 1 rfl,hB.cell 2 rfl,hB.cell 3 rfl⟩):P:=h
theorem jfs{P:Prop}(h:P:=by have hB:=(Blk.new w 28 (zA p a u b)).alloc zi;have hT:=Blk.new (w.alloc (.cells (zA p a u b) 28)) 26 #[.int .i64 0,.int .u64 0,.slice none 0 0,.slice none 0 0];exact And.intro hB hT):P:=h
theorem jfz{P:Prop}(h:P:=by have hN:=hG.newBlk 26 #[.int .i64 0,.int .u64 0,.slice none 0 0,.slice none 0 0];exact hN):P:=h
theorem jfX{P:Prop}(h:P:=by have rE:=vk;have oz:=hG.size;have hB:=hB.alloc zi;have hT:=hT.alloc zi;have hG:=hG.alloc zi;have vk:=hT.lt;have rx:=hN.lt;exact And.intro rE (And.intro oz (And.intro hB (And.intro hT (And.intro hG (And.intro vk rx)))))):P:=h
theorem jgi{P:Prop}(h:P:=by have uE:=yE.none uE vk;have vk:=hT.lt;have yw:=yw.trans yE.le;have hG:=hG.trans yE;exact And.intro uE (And.intro vk (And.intro yw hG))):P:=h
theorem jgx{P:Prop}(h:P:=by have uE:H (w.heap.size+1)=none:=hH.none_of_ge (by omega);exact uE):P:=h
theorem vQ {H:Snap}(hT:Tabs H) {k n:Int}{ba:Option Addr}{bl bc:Nat}{ia:Option Addr}{il ic:Nat}{x:Itm}(hx:ItemA H k n ba bl bc ia il ic x)
  {k' n':Int} {ba':Option Addr} {bl' bc':Nat} {ia':Option Addr} {il' ic':Nat} {y:Itm} (hy:ItemA H k' n' ba' bl' bc' ia' il' ic' y) (w:World) (hH:Holds w H) :
  Calls Tryz.prog 68 #[.agg #[.int .i64 k,.int .u64 n,.slice ba bl bc,.slice ia il ic],.agg #[.int .i64 k',.int .u64 n',.slice ba' bl' bc',.slice ia' il' ic']] w
   fun e w'=>∃ v,e=.returned (.tuple #[v,.bool (yK x y).isSome])∧Gives w H ((yK x y).getD ze) v w':=by
 obtain⟨rfl,rfl,rfl,rfl,rD⟩:=hx.eqs;obtain⟨rfl,rfl,rfl,rfl,QY⟩:=hy.eqs;have HX:=Hh rD;have HXA:=Hh hx;have HYA:=Hh hy;have xX:=((Blk.new w 26 #[.int .i64 x.kind,.int .u64 x.n,.slice ba x.bytes.length bc,.slice ia x.items.length ic]).alloc (zU y ba' bc' ia' ic')).alloc zi;have yQ:=(Blk.new (w.alloc (zU x ba bc ia ic)) 26 #[.int .i64 y.kind,.int .u64 y.n,.slice ba' y.bytes.length bc',.slice ia' y.items.length ic']).alloc zi;have wi:=Blk.new ((w.alloc (zU x ba bc ia ic)).alloc (zU y ba' bc' ia' ic')) 26 #[.int .i64 0,.int .u64 0,.slice none 0 0,.slice none 0 0];have ZJ:=(((Grows.refl hH).alloc (zU x ba bc ia ic)).alloc (zU y ba' bc' ia' ic')).alloc zi
 simp only[zr]at yQ wi
 have MN:H (w.heap.size+1+1)=none:=hH.none_of_ge (by omega)
 by_cases h5:x.kind=5
 ·have k5:(x.kind != 5)=false:=by simp[h5]
  have H5:=Hh h5;clear h5;have V:=Hh (rX hT hx _ ZJ.holds)
  cases hvx:zJ x with
  | false =>
   have E:Hid (yK x y=none):=by rw[Hid,yK,if_neg (by simp[hvx])]
   have HG:=Hh ZJ;rw[hvx]at V;clear hvx rD QY hx hy ZJ;go_enter Tryz.func68,Tryz.ntmps68
   go_wp2_with fail
   refine V.out.mono ?_
   rintro e w1 ⟨rfl,zB⟩
   have wi:=wi.below zB;have HG1:=Hh (HG.out.below_ zB);clear xX yQ zB HG;go_wp2_with (with_reducible refine zx ?_)
   refine stI wi fun w6 fS ws=>?_
   go_wp2_with fail
   refine zp rfl rfl fS rfl rfl zu rfl ?_
   rw[E.out]
   exact⟨_,rfl,none,0,none,0,H,rfl,HG1.out.grownOwn MN (by omega) ws,IsItem.plain H 0 0 (by omega) (by omega)⟩
  | true =>
  have gJ:=yU hvx;obtain⟨lC,X8,hKx,uy⟩:=uV hvx;have wF:=Hh (rL hvx H5.out);have DN:=Hh hvx;rw[hvx]at V;clear hvx rD QY hx hy;go_enter Tryz.func68,Tryz.ntmps68
  go_wp2_with fail
  refine V.out.mono ?_
  rintro e w1 ⟨rfl,zB⟩
  have xX:=xX.below zB;have yQ:=yQ.below zB;have wi:=wi.below zB;have rS:=ZJ.below_ zB;have q0:=yQ.cell 0 rfl;have q1:=yQ.cell 1 rfl;have q2:=yQ.cell 2 rfl;have q3:=yQ.cell 3 rfl;have V2:=Hh (rX hT HYA.out _ rS.holds)
  cases hvy:zJ y with
  | false =>
   have E:Hid (yK x y=none):=by rw[Hid,yK,if_neg (by simp[hvy])]
   rw[hvy]at V2;clear hvy;go_wp2_with fail
   refine V2.out.mono ?_
   rintro e w2 ⟨rfl,zG⟩
   have wi:=wi.below zG;have HG2:=Hh (rS.below_ zG);clear xX yQ zB zG q0 q1 q2 q3 rS ZJ;go_wp2_with (with_reducible refine zx ?_)
   refine stI wi fun w6 fS ws=>?_
   go_wp2_with fail
   refine zp rfl rfl fS rfl rfl zu rfl ?_
   rw[E.out]
   exact⟨_,rfl,none,0,none,0,H,rfl,HG2.out.grownOwn MN (by omega) ws,IsItem.plain H 0 0 (by omega) (by omega)⟩
  | true =>
  obtain⟨UE,_,dP⟩:=vL hvy;have E:Hid (yK x y=kv (zZ y) x.items):=by rw[Hid,yK,if_pos ⟨H5.out,DN.out,hvy⟩]
  rw[hvy]at V2;clear hvy;go_wp2_with fail
  refine V2.out.mono ?_
  rintro e w2 ⟨rfl,zG⟩
  have xX:=xX.below zG;have yQ:=yQ.below zG;have wi:=wi.below zG;have yE:=rS.below_ zG;have A:=Hh (oO y H _ _ _ _ _ _ _ _ w2 w2.heap.size (.slice none 0 0) [] UE HYA.out yE.holds (OwnB.nil _ _) (Nat.le_refl _) (by simp[Value.ownBlock]) (by simp;omega));clear zB zG q0 q1 q2 q3 rS ZJ;have q0:=yQ.cell 0 rfl;have q1:=yQ.cell 1 rfl;have q2:=yQ.cell 2 rfl;have q3:=yQ.cell 3 rfl;go_wp2_with fail
  refine A.out.mono ?_
  rintro e w3 ⟨r,rfl,xH,ph,_⟩
  obtain⟨KA,kc,rfl,_,_,mf⟩:=xH.form;rw[List.nil_append]at xH mf;have xj:=xe ph;have GQ:=xX.below xj;have Bt:=wi.below xj;have HG3:=Hh (yE.below_ xj);have c3:=GQ.cell 3 rfl;clear yQ q0 q1 q2 q3 yE A V V2 ph;go_upto_region 5 with fail
  go_loopw [7] (fun vi wr=>∃ k:Nat,k≤x.items.length∧k%2=0∧vi=.int .i64 k∧kv (zZ y) (x.items.drop k)=yK x y∧Below w3.heap.size w3 wr) (fun vi _=>x.items.length-(intOf vi).toNat)
  case atStart=>exact⟨0,Nat.zero_le _,rfl,rfl,by rw[E.out];simp,Below.refl _ _⟩
  case round =>
  obtain⟨k,hk,ZQ,rfl,hf,xY⟩:=hrel;have HGr:=Hh (HG3.out.below_ xY);have d3:=(GQ.below xY).cell 3 rfl
  by_cases yu:k<x.items.length
  ·have wF:=wF.out;have js:k+1<x.items.length:=by omega
   have uF:=Ul (zZ y) x.items k js;rw[hf]at uF;obtain⟨ib,io,rC,wY⟩:=HX.out.items (by omega);subst rC;obtain⟨eba,ebc,eia,eic,z0,z1,z2,z3,ij⟩:=wY.get k yu;have xN:=HGr.out.holds;have p0:=xN.cell z0;have p1:=xN.cell z1;have p2:=xN.cell z2;have p3:=xN.cell z3;have Sw:=Hh uF;have A:=Hh (oO x.items[k] H _ _ _ _ _ _ _ _ wr wr.heap.size (.slice none 0 0) [] (hKx.get k yu) ij.arg xN (OwnB.nil _ _) (Nat.le_refl _) (by simp[Value.ownBlock]) (by have:=NF x.items k yu;simp;omega));clear z0 z1 z2 z3 ij uF hf wF;go_wp2_with fail
   refine A.out.mono ?_
   rintro e w4 ⟨r,rfl,fD,oE,_⟩
   obtain⟨EA,ec,rfl,_,_,J2⟩:=fD.form;rw[List.nil_append]at fD J2;have uR:=xe oE;have Q:=Hh (pK w4 EA KA (zZ x.items[k]) (zZ y) (zZ x.items[k]).length (zZ y).length ec kc rfl rfl J2 (mf.below (xY.trans (uR.mono xY.size))));have Bj:=Hh (HGr.out.below_ uR);have Bw:=(GQ.below xY).below uR;have LJ:=(Bt.below xY).below uR;have zAC:=xY.trans (uR.mono xY.size);have e3:=Bw.cell 3 rfl;clear d3 p0 p1 p2 p3 A oE xY xN;go_wp2_with fail
   refine Q.out.mono ?_
   rintro e w5 ⟨rfl,rfl⟩
   cases hq:(zZ x.items[k]==zZ y) with
   | true =>
    have E2:Hid (yK x y=some x.items[k+1]):=Sw.out.trans (if_pos (by simpa using hq));obtain⟨eba',ebc',eia',eic',z0,z1,z2,z3,ij⟩:=wY.get (k+1) js;have xN:=Bj.out.holds;have p0:=xN.cell z0;have p1:=xN.cell z1;have p2:=xN.cell z2;have p3:=xN.cell z3;have C:=Hh (lr x.items[k+1] H _ _ eba' _ ebc' eia' _ eic' w4 (gJ.parts.2.2.get (k+1) js) ij.arg xN);have i1:((k:Int)+1).toNat=k+1:=by omega
    have i2:(k:Int)+1<x.items.length:=by omega
    have i3:IntKind.i64.wrap ((k:Int)+1)=(k:Int)+1:=IntWalk.i64_in _ (by omega);clear z0 z1 z2 z3 ij hq Q wY;go_wp2_with fail
    refine C.out.mono ?_
    rintro e w5 ⟨v,rfl,rba,rbc,ria,ric,Hs,rfl,wb,Dx⟩
    have IM:=LJ.below wb.below;have zAk:=wb.none MN (by have:=LJ.lt;omega);have HG5:=Hh (Bj.out.trans wb);clear e3 p0 p1 p2 p3 C Bw;go_wp2_with (with_reducible refine zx ?_)
    refine stI IM fun w6 fS ws=>?_
    go_wp2_with fail
    refine zp rfl rfl fS rfl rfl zu rfl ?_
    rw[E2.out]
    exact⟨_,rfl,rba,rbc,ria,ric,Hs,rfl,HG5.out.grownOwn zAk (by omega) ws,Dx⟩
   | false =>
   have E2:Hid (kv (zZ y) (x.items.drop (k+2))=yK x y):=(Sw.out.trans (if_neg (by simpa using hq))).symm;have wF:=wF.out;have i3:IntKind.i64.wrap ((k:Int)+2)=(k:Int)+2:=IntWalk.i64_in _ (by omega);clear hq Q wY e3;go_wp2_with fail
   go_roundw
   case rel=>exact⟨k+2,by omega,by omega,by go_num,E2.out,zAC⟩
   case measure=>simp[intOf];omega
  have E2:Hid (yK x y=none):=by
   rw[Hid,← hf,List.drop_eq_nil_of_le (by omega)];rfl
  have LJ:=Bt.below xY;clear hf;go_wp2_with (with_reducible refine zx ?_)
  refine stI LJ fun w6 fS ws=>?_
  go_wp2_with fail
  refine zp rfl rfl fS rfl rfl zu rfl ?_
  rw[E2.out]
  exact⟨_,rfl,none,0,none,0,H,rfl,HGr.out.grownOwn MN (by omega) ws,IsItem.plain H 0 0 (by omega) (by omega)⟩
 have k5:(x.kind != 5)=true:=by simp[h5]
 have E:Hid (yK x y=none):=by rw[Hid,yK,if_neg (by simp[h5])]
 clear h5;have HG:=Hh ZJ;clear rD QY hx hy ZJ;go_enter Tryz.func68,Tryz.ntmps68
 go_wp2_with (with_reducible refine zx ?_)
 refine stI wi fun w6 fS ws=>?_
 go_wp2_with fail
 refine zp rfl rfl fS rfl rfl zu rfl ?_
 rw[E.out]
 exact⟨_,rfl,none,0,none,0,H,rfl,HG.out.grownOwn MN (by omega) ws,IsItem.plain H 0 0 (by omega) (by omega)⟩
theorem RF:(Tryz.prog.info? 100).map (fun i=>(i.zero,i.size,i.bytes))=some (some (.agg #[.int .i64 0,.int .u64 0,.slice none 0 0,.slice none 0 0,.int .i64 0,.int .u64 0,.slice none 0 0,.slice none 0 0]),8,128):=by kernel_rfl
theorem jI {H:Snap}{k n:Int}{ba:Option Addr}{bl bc:Nat}{ia:Option Addr}{il ic:Nat}{x:Itm}(hx:ItemA H k n ba bl bc ia il ic x) (wF:x.items.length%2=0) (wn:x.items.length≤1099511627776) (w:World) (hH:Holds w H) :
  Calls Tryz.prog 66 #[.agg #[.int .i64 k,.int .u64 n,.slice ba bl bc,.slice ia il ic]] w
   fun e w'=>∃ A c cs,e=.returned (.slice A (x.items.length/2) c)∧Src w' A cs∧ItemsC H cs x.items∧Below w.heap.size w w':=by
 obtain⟨rfl,rfl,rfl,rfl,rD⟩:=hx.eqs;have HX:=Hh rD;have HE:=Hh wF;have xX:=Blk.new w 26 #[.int .i64 x.kind,.int .u64 x.n,.slice ba x.bytes.length bc,.slice ia x.items.length ic];have HB0:=Hh (zo w (zU x ba bc ia ic));obtain⟨i0,tV,kA,rE,oz⟩:=info_parts RF;clear rD hx wF;go_enter Tryz.func66,Tryz.ntmps66
 go_upto_region 3 with fail
 go_loopw [3,4] (fun v3 v4 wr=>∃ (k:Nat) (VA:Option Addr) (vc:Nat) (pre:List Value),k*2≤x.items.length∧v4=.int .i64 ((k:Int)*2)∧v3=.slice VA k vc∧Below w.heap.size w wr∧
  Blk wr w.heap.size 26 #[.int .i64 x.kind,.int .u64 x.n,.slice ba x.bytes.length bc,.slice ia x.items.length ic]∧wr.ownsRow (w.heap.size+1) 100 8 (.slice VA k vc) k pre∧ItemsC H pre (x.items.take (k*2))) (fun _ v4 _=>x.items.length-(intOf v4).toNat)
 case atStart=>exact⟨0,none,0,[],by omega,rfl,rfl,HB0.out,xX,World.ownsRow_nil _ _ _ _,by simp[ItemsC]⟩
 case round =>
 obtain⟨k,VA,vc,pre,hk,rfl,rfl,hb,qj,xH,cm⟩:=hrel;have c3:=qj.cell 3 rfl;have sW:IntKind.i64.wrap ((k:Int)*2+1)=(k:Int)*2+1:=IntWalk.i64_in _ (by omega);have pj:IntKind.i64.wrap ((k:Int)*2+2)=(k:Int)*2+2:=IntWalk.i64_in _ (by omega);have cD:((k:Int)*2+1).toNat=k*2+1:=by omega
 have UI:((k:Int)*2).toNat=k*2:=by omega
 by_cases yu:k*2<x.items.length
 ·have wF:=HE.out;have js:k*2+1<x.items.length:=by omega
  have oF:(k:Int)*2+1<x.items.length:=by omega
  have pi:(k:Int)*2<x.items.length:=by omega
  have QS:(0:Int)≤(k:Int)*2+1:=by omega
  have FU:(0:Int)≤(k:Int)*2:=by omega
  obtain⟨ib,io,rC,wY⟩:=HX.out.items (by omega);subst rC;obtain⟨y1,y2,y3,y4,p0,p1,p2,p3,hy⟩:=wY.get (k*2) yu;obtain⟨z1,z2,z3,z4,q0,q1,q2,q3,hz⟩:=wY.get (k*2+1) js
  have Ax:x.items.take (k*2)++[x.items[k*2],x.items[k*2+1]]=x.items.take ((k+1)*2):=by
   rw[show(k+1)*2=k*2+1+1 by omega,List.take_succ_eq_append_getElem js,List.take_succ_eq_append_getElem yu]
   simp only[List.append_assoc,List.cons_append,List.nil_append]
  generalize x.items[k*2]'yu=y at *
  generalize x.items[k*2+1]'js=z at *
  have Fk:ItemsC H (zV y y1 y2 y3 y4++zV z z1 z2 z3 z4) [y,z]:=(ItemsC.one hy).app (ItemsC.one hz);have xN:Holds wr H:=hH.below hb (Nat.le_refl _);clear wY;go_upto_region 5 with fail
  refine zw 15 (fun w'=>w'.cell? ⟨w.heap.size,3,none⟩=some (.slice (some ⟨ib,io,none⟩) x.items.length ic)∧w'.cell? ⟨ib,io+(k*2)*4,none⟩=some (.int .i64 y.kind)∧w'.cell? ⟨ib,io+(k*2)*4+1,none⟩=some (.int .u64 y.n)∧w'.cell? ⟨ib,io+(k*2)*4+2,none⟩=some (.slice y1 y.bytes.length y2)∧w'.cell? ⟨ib,io+(k*2)*4+3,none⟩=some (.slice y3 y.items.length y4)∧w'.cell? ⟨ib,io+(k*2+1)*4,none⟩=some (.int .i64 z.kind)∧w'.cell? ⟨ib,io+(k*2+1)*4+1,none⟩=some (.int .u64 z.n)∧w'.cell? ⟨ib,io+(k*2+1)*4+2,none⟩=some (.slice z1 z.bytes.length z2)∧w'.cell? ⟨ib,io+(k*2+1)*4+3,none⟩=some (.slice z3 z.items.length z4)) (by kernel_rfl) (⟨qj.drew.cell 3 rfl,xN.drew.cell p0,xN.drew.cell p1,xN.drew.cell p2,xN.drew.cell p3,xN.drew.cell q0,xN.drew.cell q1,xN.drew.cell q2,xN.drew.cell q3⟩) (fun zy=>?_)
  refine Tk 0 rfl zy ?_
  refine Tk 1 rfl zy ?_
  refine Tk 2 rfl zy ?_
  refine Tk 3 rfl zy ?_
  refine Tk 4 rfl zy ?_
  refine Tk 5 rfl zy ?_
  refine Tk 6 rfl zy ?_
  refine Tk 7 rfl zy ?_
  refine Tk 8 rfl zy ?_
  refine Tk 9 rfl zy ?_
  refine Tk 10 rfl zy ?_
  refine Tk 11 rfl zy ?_
  refine Tk 12 rfl zy ?_
  refine To 13 rfl fun K hK=>?_
  go_simp
  have hE:=World.ownsRow.alloc xH.drew (.cells (zV y y1 y2 y3 y4++zV z z1 z2 z3 z4).toArray 100);have mu:=qj.drew.alloc (.cells (zV y y1 y2 y3 y4++zV z z1 z2 z3 z4).toArray 100);have MV:=xN.drew.alloc (.cells (zV y y1 y2 y3 y4++zV z z1 z2 z3 z4).toArray 100)
  refine Ko hK ?_ fun zy=>?_
  ·exact⟨mu.cell 3 rfl,MV.cell p0,MV.cell p1,MV.cell p2,MV.cell p3,MV.cell q0,MV.cell q1,MV.cell q2,MV.cell q3⟩
  clear hK K
  refine To 14 rfl fun K hK=>?_
  rw[if_pos (by rfl)]
  refine vD (.tmp 13) (.tmp 26) 97 rfl (w.heap.size+1) 100 i0 _ 8 128 Tryz.underlying97 tV kA rE oz rfl (by omega) (.slice VA k vc) k pre rfl hE _ 1 _ (zV y y1 y2 y3 y4++zV z z1 z2 z3 z4) rfl (by simp[zV]) (Src.new _ _ _ _ rfl _ rfl) (ItemsC.oneCell Fk) (by simp only[maxLen];omega) (by omega) (by have:=qj.lt;simp;omega) fun v' w5 nJ xv vP=>?_
  have Q1:=mu.grown xv (fun h=>by have:=(World.ownsRow.lt xH _ h).1;omega);have M4:=MV.grown xv (fun g hg=>hH.none_of_ge (by have:=(World.ownsRow.lt xH g hg).1;omega))
  refine Ko hK ?_ fun zy=>?_
  ·exact⟨Q1.cell 3 rfl,M4.cell p0,M4.cell p1,M4.cell p2,M4.cell p3,M4.cell q0,M4.cell q1,M4.cell q2,M4.cell q3⟩
  clear hK K
  refine To 15 rfl fun K hK=>?_
  go_simp
  refine Kz hK ?_
  clear hK K
  refine Wd ?_
  obtain⟨VA',vc',rfl⟩:∃ A c,v'=.slice A (k+1) c:=by
   rcases nJ.2 with ⟨_,h⟩ | ⟨g,cap,cur,h,_⟩
   ·omega
   exact⟨_,_,h⟩
  have xS:Below w.heap.size w w5:=((hb.drew).alloc hb.size _).grown xv (by have:=hb.size;simp;omega) (fun g hg=>by have:=(World.ownsRow.lt xH g hg).1;omega);have BZ:ItemsC H (pre++(zV y y1 y2 y3 y4++zV z z1 z2 z3 z4)) (x.items.take ((k+1)*2)):=by rw[← Ax];exact cm.app Fk
  clear zy p0 p1 p2 p3 q0 q1 q2 q3 qj c3 xH xv vP mu MV M4 hE cm hb;go_wp2_with fail
  go_roundw
  case rel=>exact⟨k+1,VA',vc',_,by omega,by rw[show((k+1:Nat):Int)*2=(k:Int)*2+2 by omega],rfl,xS,Q1,nJ,BZ⟩
  case measure=>simp[intOf];omega
 have wF:=HE.out;have cC:k*2=x.items.length:=by omega
 have hd:x.items.length/2=k:=by omega
 rw[cC,List.take_length]at cm;have oF:(x.items.length:Int)≤(k:Int)*2+1:=by omega
 have HD:=Hh hd;clear hd cC wF;go_wp2_with fail
 go_ret
 rw[HD.out]
 exact⟨VA,vc,pre,rfl,Src.of_own xH,cm,hb⟩
theorem cI (k n:Int) (ba:Option Addr) (bl bc:Nat) (ia:Option Addr) (il ic:Nat) (w:World) :
  Calls Tryz.prog 106 #[.agg #[.int .i64 k,.int .u64 n,.slice ba bl bc,.slice ia il ic]] w
   fun e w'=>e=.returned (.bool ((k==0||k==1)&&decide (n≤65535)))∧Below w.heap.size w w':=by
 go_enter Tryz.func106,Tryz.ntmps106
 exact jcQ
theorem lm {H:Snap}{k n:Int}{ba:Option Addr}{bl bc:Nat}{ia:Option Addr}{il ic:Nat}{x:Itm}(hx:ItemA H k n ba bl bc ia il ic x) (w:World) :
  Calls Tryz.prog 106 #[.agg #[.int .i64 k,.int .u64 n,.slice ba bl bc,.slice ia il ic]] w
   fun e w'=>e=.returned (.bool (vW x))∧Below w.heap.size w w':=by
 obtain⟨rfl,rfl,rfl,rfl,rD⟩:=hx.eqs
 refine(cI x.kind x.n ba _ bc ia _ ic w).mono ?_
 rintro e w' ⟨rfl,hb⟩
 refine⟨?_,hb⟩
 rw[vW];congr 3
 simp
 omega
theorem gv {H:Snap}{ba:Option Addr}{bc:Nat}{ia:Option Addr}{ic:Nat}{x:Itm}(hx:IsItem H ba bc ia ic x)
  {ba':Option Addr} {bc':Nat} {ia':Option Addr} {ic':Nat} {y:Itm} (hy:IsItem H ba' bc' ia' ic' y) (w:World) :
  Calls Tryz.prog 67 #[.agg #[.int .i64 x.kind,.int .u64 x.n,.slice ba x.bytes.length bc,.slice ia x.items.length ic,.int .i64 y.kind,.int .u64 y.n,.slice ba' y.bytes.length bc',.slice ia' y.items.length ic']] w
   fun e w'=>e=.returned (.bool (uh x y))∧Below w.heap.size w w':=by
 have N1:=fun w1=>lm hx.arg w1
 have N2:=fun w1=>lm hy.arg w1
 have zB:=zo w (.cells #[.int .i64 x.kind,.int .u64 x.n,.slice ba x.bytes.length bc,.slice ia x.items.length ic,.int .i64 y.kind,.int .u64 y.n,.slice ba' y.bytes.length bc',.slice ia' y.items.length ic'] 100);have xX:=Blk.new w 100 #[.int .i64 x.kind,.int .u64 x.n,.slice ba x.bytes.length bc,.slice ia x.items.length ic,.int .i64 y.kind,.int .u64 y.n,.slice ba' y.bytes.length bc',.slice ia' y.items.length ic'];have Px:=Hh N1;have dC:=Hh N2;clear N1 N2 hx hy
 by_cases h3:x.kind=3
 ·have E:Hid (uh x y=true):=by rw[Hid,uh,if_pos h3]
  have k3:(x.kind==3)=true:=by simp[h3]
  clear h3;go_enter Tryz.func67,Tryz.ntmps67
  go_wp2_with fail
  go_ret
  exact⟨by rw[E.out];rfl,zB⟩
 have k3:(x.kind==3)=false:=by simp[h3]
 cases hn:vW x with
 | false =>
  have E:Hid (uh x y=false):=by rw[Hid,uh,if_neg h3,if_pos hn]
  rw[hn]at Px;clear h3 hn;go_enter Tryz.func67,Tryz.ntmps67
  go_wp2_with fail
  refine(Px.out _).mono ?_
  rintro e w1 ⟨rfl,zG⟩
  have sP:=zB.trans (zG.mono zB.size);clear zB zG;exact jbD
 | true =>
 rw[hn]at Px
 by_cases h1:x.kind=1
 ·have E:Hid (uh x y=true):=by rw[Hid,uh,if_neg h3,if_neg (by simp[hn]),if_pos h1]
  have k1:(x.kind==1)=true:=by simp[h1]
  clear h3 hn h1;go_enter Tryz.func67,Tryz.ntmps67
  go_wp2_with fail
  refine(Px.out _).mono ?_
  rintro e w1 ⟨rfl,zG⟩
  have c0:=(xX.below zG).cell 0 rfl;have sP:=zB.trans (zG.mono zB.size);clear zB zG xX;exact jbD
 have k1:(x.kind==1)=false:=by simp[h1]
 have E:Hid (uh x y=if x.n=1 then vW y&&(y.kind==1||y.n != 0) else if x.n=4∨x.n=5∨x.n=6∨x.n=12 then y.kind==2 else true):=by rw[Hid,uh,if_neg h3,if_neg (by simp[hn]),if_neg h1]
 clear h3 hn h1;go_enter Tryz.func67,Tryz.ntmps67
 go_wp2_with fail
 refine(Px.out _).mono ?_
 rintro e w1 ⟨rfl,zG⟩
 have yQ:=xX.below zG;have c0:=yQ.cell 0 rfl;have c1:=yQ.cell 1 rfl;have c4:=yQ.cell 4 rfl;have c5:=yQ.cell 5 rfl;have c6:=yQ.cell 6 rfl;have c7:=yQ.cell 7 rfl;have sP:=zB.trans (zG.mono zB.size);clear zB zG xX
 by_cases n1:x.n=1
 ·have E2:Hid (uh x y=(vW y&&(y.kind==1||y.n != 0))):=by rw[Hid,E.out,if_pos n1]
  have m1:((x.n:Int)==1)=true:=by simp[n1]
  clear n1 E;go_wp2_with fail
  refine(dC.out _).mono ?_
  rintro e w2 ⟨rfl,xj⟩
  have wi:=yQ.below xj;have Gr:=sP.trans (xj.mono sP.size);have d4:=wi.cell 4 rfl;have d5:=wi.cell 5 rfl;clear c0 c1 c4 c5 c6 c7 sP xj
  cases hm:vW y with
  | false =>
   have E3:Hid (uh x y=false):=by rw[Hid,E2.out,hm];rfl
   clear hm;go_wp2_with fail
   go_ret
   exact⟨by rw[E3.out];rfl,Gr⟩
  | true =>
  by_cases g1:y.kind=1
  ·have E3:Hid (uh x y=true):=by rw[Hid,E2.out,hm,g1];rfl
   have l1:(y.kind==1)=true:=by simp[g1]
   clear hm g1;go_wp2_with fail
   go_ret
   exact⟨by rw[E3.out];rfl,Gr⟩
  have l1:(y.kind==1)=false:=by simp[g1]
  have E3:Hid (uh x y=((y.n:Int) != 0)):=by
   rw[Hid,E2.out,hm,l1,Bool.true_and,Bool.false_or];rw[Bool.eq_iff_iff,bne_iff_ne,bne_iff_ne]
   omega
  clear hm g1;go_wp2_with fail
  all_goals
   go_ret
   refine⟨?_,Gr⟩
   rw[E3.out];show Ending.returned (Value.bool _)=_
   simp_all
 have m1:((x.n:Int)==1)=false:=by simp;omega
 by_cases n2:x.n=4∨x.n=5∨x.n=6∨x.n=12
 ·have E2:Hid (uh x y=(y.kind==2)):=by rw[Hid,E.out,if_neg n1,if_pos n2]
  have t:(((x.n:Int)==4)=true)∨(((x.n:Int)==4)=false∧((x.n:Int)==5)=true)∨(((x.n:Int)==4)=false∧((x.n:Int)==5)=false∧((x.n:Int)==6)=true)∨(((x.n:Int)==4)=false∧((x.n:Int)==5)=false∧((x.n:Int)==6)=false∧((x.n:Int)==12)=true):=by
   simp only[beq_iff_eq,beq_eq_false_iff_ne,ne_eq]
   omega
  have T:=Hh t;clear n1 n2 E t
  rcases T.out with t1 | ⟨t1,t2⟩ | ⟨t1,t2,t3⟩ | ⟨t1,t2,t3,t4⟩
  all_goals
   go_wp2_with fail
   go_ret
   exact⟨by rw[E2.out];rfl,sP⟩
 have E2:Hid (uh x y=true):=by rw[Hid,E.out,if_neg n1,if_neg n2]
 have t1:((x.n:Int)==4)=false:=by rw[beq_eq_false_iff_ne];omega
 have t2:((x.n:Int)==5)=false:=by rw[beq_eq_false_iff_ne];omega
 have t3:((x.n:Int)==6)=false:=by rw[beq_eq_false_iff_ne];omega
 have t4:((x.n:Int)==12)=false:=by rw[beq_eq_false_iff_ne];omega
 clear n1 n2 E;go_wp2_with fail
 go_ret
 exact⟨by rw[E2.out];rfl,sP⟩
theorem lz {H:Snap}(hTab:Tabs H) {p u:Itm}{a b:Ad}(hp:IsItem H a.ba a.bc a.ia a.ic p) (hu:IsItem H b.ba b.bc b.ia b.ic u) (n:Int) (un : -9223372036854775808≤n) (tF:n≤9223372036854775807) (w:World) (hH:Holds w H) :
  Calls Tryz.prog 69 #[.agg (zA p a u b),.int .i64 n] w
   fun e w'=>∃ v,e=.returned (.tuple #[v,.bool (uC p u n).isSome])∧Gives w H ((uC p u n).getD ze) v w':=by
 obtain⟨hB,hT⟩:=jfs
 simp only[zr]at hT
 have hG:=(((Grows.refl hH).alloc (.cells (zA p a u b) 28)).alloc zi).drew;have uE:=jgx;have yw:=Snap.le.refl H;go_enter Tryz.func69,Tryz.ntmps69
 go_upto_region 1 with fail
 go_cut [6,7] (fun s6 s7 wx=>∃ N ra rb rc rd Hx,s6=.pointer (some ⟨N,0,none⟩)∧s7=.bool (yK p (zS n)).isSome∧Blk wx N 26 #[.int .i64 ((yK p (zS n)).getD ze).kind,.int .u64 ((yK p (zS n)).getD ze).n,.slice ra ((yK p (zS n)).getD ze).bytes.length rb,.slice rc ((yK p (zS n)).getD ze).items.length rd]∧
  Blk wx w.heap.size 28 (zA p a u b)∧Blk wx (w.heap.size+1) 26 #[.int .i64 0,.int .u64 0,.slice none 0 0,.slice none 0 0]∧Grows w H wx Hx∧H.le Hx∧Hx (w.heap.size+1)=none∧IsItem Hx ra rb rc rd ((yK p (zS n)).getD ze))
 case first =>
  have hB:=hB.drew;have hT:=hT.drew;have vk:=hT.lt
  refine zw 10 (fun w'=>w'.cell? ⟨w.heap.size,0,none⟩=some (.int .i64 p.kind)∧w'.cell? ⟨w.heap.size,1,none⟩=some (.int .u64 p.n)∧w'.cell? ⟨w.heap.size,2,none⟩=some (.slice a.ba p.bytes.length a.bc)∧w'.cell? ⟨w.heap.size,3,none⟩=some (.slice a.ia p.items.length a.ic)) (by kernel_rfl) (⟨hB.cell 0 rfl,hB.cell 1 rfl,hB.cell 2 rfl,hB.cell 3 rfl⟩) (fun zy=>?_)
  refine Tk 0 rfl zy ?_
  refine Tk 1 rfl zy ?_
  refine Tk 2 rfl zy ?_
  refine Ways.two (i:=3) (j:=8) rfl rfl (by kernel_rfl) (fun K hK=>?_) (fun K hK=>?_)
  ·go_simp
   refine(px n un tF _ hG.holds).mono ?_
   rintro e w2 ⟨v2,rfl,ru⟩
   have hB:=hB.below ru.below;have hT:=hT.below ru.below
   try have hN:=hN.below ru.below
   obtain⟨ka,kb,kc,kd,H2,rfl,yE,pi⟩:=ru;obtain⟨uE,vk,yw,hG⟩:=jgi
   try have uL:=yE.none uL rx
   try have rx:=hN.lt
   refine Ko hK ?_ fun zy=>?_
   ·exact jao
   clear hK K
   refine Ways.two (i:=4) (j:=8) rfl rfl (by kernel_rfl) (fun K hK=>?_) (fun K hK=>?_)
   ·go_simp
    refine(vQ (hTab.mono yw) (hp.mono yw).arg pi.arg _ hG.holds).mono ?_
    exact jd8
   go_simp
   have hN:=jfz
   try simp only[zW,zr]at hN
   have uL:=hG.hidden (Nat.le_refl _)
   try simp only[zW,zr]at uL
   obtain⟨rE,oz,hB,hT,hG,vk,rx⟩:=jfX
   exact jez
  go_simp
  have hN:=jfz
  try simp only[zW,zr]at hN
  have uL:=hG.hidden (Nat.le_refl _)
  try simp only[zW,zr]at uL
  obtain⟨rE,oz,hB,hT,hG,vk,rx⟩:=jfX
  refine Ko hK ?_ fun zy=>?_
  ·exact jao
  clear hK K
  refine To 3 rfl fun K hK=>?_
  go_simp
  refine(px n un tF _ hG.holds).mono ?_
  rintro e w2 ⟨v2,rfl,ru⟩
  have hB:=hB.below ru.below;have hT:=hT.below ru.below
  try have hN:=hN.below ru.below
  obtain⟨ka,kb,kc,kd,H2,rfl,yE,pi⟩:=ru;obtain⟨uE,vk,yw,hG⟩:=jgi
  try have uL:=yE.none uL rx
  try have rx:=hN.lt
  exact jez
 case rest =>
 obtain⟨N,ra,rb,rc,rd,Hx,rfl,rfl,hN,hB,hT,hG,yw,uE,hi⟩:=hcut;have vk:=hT.lt
 cases hf:yK p (zS n) with
 | some x =>
  have E:Hid (uC p u n=some x):=by rw[Hid,uC,hf]
  exact jbi
 | none =>
 have E:Hid (uC p u n=yK u (zS n)):=by rw[Hid,uC,hf]
 clear hN hi hf;have hB:=hB.drew;have hT:=hT.drew;have hG:=hG.drew;have vk:=hT.lt;go_upto_region 4 with fail
 refine zw 8 (fun w'=>w'.cell? ⟨w.heap.size,4,none⟩=some (.int .i64 u.kind)∧w'.cell? ⟨w.heap.size,5,none⟩=some (.int .u64 u.n)∧w'.cell? ⟨w.heap.size,6,none⟩=some (.slice b.ba u.bytes.length b.bc)∧w'.cell? ⟨w.heap.size,7,none⟩=some (.slice b.ia u.items.length b.ic)) (by kernel_rfl) (⟨hB.cell 4 rfl,hB.cell 5 rfl,hB.cell 6 rfl,hB.cell 7 rfl⟩) (fun zy=>?_)
 refine Tk 0 rfl zy ?_
 refine Tk 1 rfl zy ?_
 refine Tk 2 rfl zy ?_
 refine To 3 rfl fun K hK=>?_
 go_simp
 refine(px n un tF _ hG.holds).mono ?_
 rintro e w7 ⟨v7,rfl,kE⟩
 have hB:=hB.below kE.below;have hT:=hT.below kE.below;obtain⟨sa,sb,sc,sd,H7,rfl,wJ,ZF⟩:=kE;have uE:=wJ.none uE vk;have vk:=hT.lt;have yw:=yw.trans wJ.le;have hG:=hG.trans wJ
 refine Ko hK ?_ fun zy=>?_
 ·exact jaG
 clear hK K
 refine To 4 rfl fun K hK=>?_
 go_simp
 refine(vQ (hTab.mono yw) (hu.mono yw).arg ZF.arg _ hG.holds).mono ?_
 exact jec
end Go.Proofs.YtliomcphdnppnaaGreatDoor
