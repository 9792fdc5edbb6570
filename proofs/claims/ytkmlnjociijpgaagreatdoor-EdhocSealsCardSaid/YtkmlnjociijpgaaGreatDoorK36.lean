/- squeezed. Walks: the key schedule of AES, by -/
import Derived.Test.YtkmlnjociijpgaaGreatDoorK35
set_option linter.unusedVariables false
set_option linter.unusedSimpArgs false
set_option maxRecDepth 100000
set_option maxHeartbeats 25600000
namespace Go.Proofs.YtkmlnjociijpgaaGreatDoor
open Go.RowKit
theorem pk {n:Nat}{w wr:World}(_h:Below n w wr) (t:TypeId) (cs:Array Value):Blk (wr.alloc (.cells cs t)) wr.heap.size t cs:=Blk.new _ _ _
theorem om {B:Nat}{w wr:World}(_h:Below B w wr) (t:TypeId) (cs:Array Value):Src (wr.alloc (.cells cs t)) (some ⟨wr.heap.size,0,none⟩) cs.toList:=Src.lit _ _ _
theorem MY {w:World}{p:Addr}{v:Value}(hc:w.cell? p=some v) (o:Obj):(w.alloc o).cell? p=some v:=(World.cell?_alloc_lt w o p (World.block_lt_of_cell? w _ hc)).trans hc
def vz (S key:List UInt8) (n j:Nat):UInt8 :=
 if n%4=0 then at_ S (at_ (yG S key (4*n)) (12+4*n+(j+1)%4)).toNat ^^^ (if j=0 then rcU (n/4) else 0) else at_ (yG S key (4*n)) (12+4*n+j)
theorem Tr (S:List UInt8) {key:List UInt8}(h:key.length=16) {n j:Nat}(hj:j<4):yG S key (4*n+(j+1))=yG S key (4*n+j)++[at_ (yG S key (4*n+j)) (4*n+j) ^^^ vz S key n j]:=by
 rw[show 4*n+(j+1)=(4*n+j)+1 by omega,yG];congr 2
 rw[jh,show 16+(4*n+j)-16=4*n+j by omega];congr 1
 rw[vz]
 by_cases h0:n%4=0
 ·rw[if_pos h0,if_pos (by omega),show(16+(4*n+j))%16=j by omega,show(16+(4*n+j))/16=1+n/4 by omega,show 16*(1+n/4)-4+(j+1)%4=12+4*n+(j+1)%4 by omega,pE S key h (m:=4*n) (by omega) (by omega),show 1+n/4-1=n/4 by omega]
 rw[if_neg h0,if_neg (by omega),show 16+(4*n+j)-4=12+4*n+j by omega,pE S key h (m:=4*n) (by omega) (by omega)]
theorem bM {S key:List UInt8}(hS:S.length=256) (hk:key.length=16) {A:Option Addr}{c:Nat}(w:World) (hK:Src w A (key.map zu)) :
  Calls Tryz.prog 165 #[.slice A 16 c,.agg (zn S)] w fun e w'=>∃ v,e=.returned v∧Fresh w (yG S key 160) v w':=by
 have hB:=Blk.new w 151 (zn S);have hb:=zX w (.cells (zn S) 151);have AS:=hK.alloc (.cells (zn S) 151);have HL:=Hh (And.intro hS hk);clear hS hk hK;go_enter Tryz.func165,Tryz.ntmps165
 go_wp2_with (at_builtin;refine zh ?_)
 refine zv rfl (.const (.slice none 0 0)) (.tmp 10) rfl (w.heap.size+1) (.slice none 0 0) [] rfl (OwnB.nil _ _) A 16 c key rfl HL.out.2.symm AS (by have:=HL.out.2;simp;omega) (by simp) fun v' w1 zJ hg1 hat1=>?_
 rw[List.nil_append]at zJ;have zY:=yW (by simpa [Value.ownBlock] using hg1);replace hB:=hB.below zY;replace hb:=hb.trans (zY.mono hb.size);obtain⟨VA,vc,rfl,Gp,_,_⟩:=zJ.form;clear Gp AS hg1 hat1 zY;rw[HL.out.2]at zJ⊢;go_wp2_with fail
 go_loopw [5,6,7] (fun v5 v6 v7 wr=>∃ (n:Nat) (VA:Option Addr) (vc:Nat),v7=.int .i64 ((n+4:Nat):Int)∧n≤40∧v6=zu (rcU ((n+3)/4))∧v5=.slice VA (16+4*n) vc∧OwnB wr (w.heap.size+1) (.slice VA (16+4*n) vc) (yG S key (4*n))∧Blk wr w.heap.size 151 (zn S)∧Below w.heap.size w wr) (fun _ _ v7 _=>(44-intOf v7).toNat)
 case atStart=>exact⟨0,VA,vc,rfl,by omega,rfl,rfl,zJ,hB,hb⟩
 case round =>
 clear zJ hB hb;obtain⟨n,VA,vc,rfl,hn,rfl,rfl,hO,hB,hb⟩:=hrel;obtain⟨i,hi⟩:∃ i,n+4=i:=⟨_,rfl⟩
 obtain⟨q,hq⟩:∃ q,16+4*n=q:=⟨_,rfl⟩
 obtain⟨rc,ar⟩:∃ r,rcU ((n+3)/4)=r:=⟨_,rfl⟩
 rw[hi,hq,ar];rw[hq]at hO;have HI:=Hh (And.intro hi (And.intro hq (And.intro ar hn)));clear hi hq ar hn
 by_cases z9:(i:Int)<44
 ·obtain⟨K,FZ⟩:∃ K,yG S key (4*n)=K:=⟨_,rfl⟩
  have HK:Hid (yG S key (4*n)=K∧K.length=q):=⟨FZ,by rw[← FZ,vx S key HL.out.2];exact HI.out.2.1⟩
  rw[FZ]at hO;clear FZ;obtain⟨gb,go_,rfl,uw⟩:=hO.src (by intro h0;have h1:=congrArg List.length h0;rw[List.length_map,List.length_nil]at h1;have:=HK.out.2;have:=HI.out;omega);have xv:=hO.lt gb rfl;have y7:∀ k,k<q→wr.cell? ⟨gb,go_+k,none⟩=some (zu (at_ K k)):=fun k hk=>uw k _ (by rw[List.getElem?_map,List.getElem?_eq_getElem (by rw[HK.out.2];exact hk)];simp[at_,List.getD_eq_getElem?_getD,HK.out.2,hk])
  have px:=Hh y7;obtain⟨p0,jp⟩:∃ p,12+4*n=p:=⟨_,rfl⟩
  have HP:=Hh jp;have W0:IntKind.i64.wrap (4*(i:Int))=(q:Int):=by rw[show 4*(i:Int)=((4*i:Nat):Int) by omega,show 4*i=q by have:=HI.out;omega];exact zP (by have:=HI.out;omega)
  have V1:IntKind.i64.wrap ((q:Int)-4)=(p0:Int):=by rw[show(q:Int)-4=(p0:Int) by have:=HI.out;omega];exact zP (by have:=HI.out;omega)
  have V2:IntKind.i64.wrap ((q:Int)-3)=((p0+1:Nat):Int):=by rw[show(q:Int)-3=((p0+1:Nat):Int) by have:=HI.out;omega];exact zP (by have:=HI.out;omega)
  have V3:IntKind.i64.wrap ((q:Int)-2)=((p0+2:Nat):Int):=by rw[show(q:Int)-2=((p0+2:Nat):Int) by have:=HI.out;omega];exact zP (by have:=HI.out;omega)
  have V4:IntKind.i64.wrap ((q:Int)-1)=((p0+3:Nat):Int):=by rw[show(q:Int)-1=((p0+3:Nat):Int) by have:=HI.out;omega];exact zP (by have:=HI.out;omega)
  obtain⟨p1,eK⟩:∃ p,p0+1=p:=⟨_,rfl⟩
  obtain⟨p2,rk⟩:∃ p,p0+2=p:=⟨_,rfl⟩
  obtain⟨p3,SW⟩:∃ p,p0+3=p:=⟨_,rfl⟩
  rw[eK]at V2;rw[rk]at V3;rw[SW]at V4;have l0:(p0:Int)<(q:Int):=by have:=HI.out;omega
  have l1:(p1:Int)<(q:Int):=by have:=HI.out;omega
  have l2:(p2:Int)<(q:Int):=by have:=HI.out;omega
  have l3:(p3:Int)<(q:Int):=by have:=HI.out;omega
  have d0:=y7 p0 (by omega);have d1:=y7 p1 (by omega);have d2:=y7 p2 (by omega);have d3:=y7 p3 (by omega);obtain⟨x0,eL⟩:∃ x,at_ K p0=x:=⟨_,rfl⟩
  obtain⟨x1,rl⟩:∃ x,at_ K p1=x:=⟨_,rfl⟩
  obtain⟨x2,oM⟩:∃ x,at_ K p2=x:=⟨_,rfl⟩
  obtain⟨x3,Sa⟩:∃ x,at_ K p3=x:=⟨_,rfl⟩
  rw[eL]at d0;rw[rl]at d1;rw[oM]at d2;rw[Sa]at d3;have HXS:Hid (at_ K (p0+0)=x0∧at_ K (p0+1)=x1∧at_ K (p0+2)=x2∧at_ K (p0+3)=x3):=⟨eL,by rw[eK];exact rl,by rw[rk];exact oM,by rw[SW];exact Sa⟩
  have J2:(q:Int)≤(vc:Int):=by
   obtain⟨_,c9,e,h1,_⟩:=hO.form;injection e with _ _ e3
   have h2:=HK.out.2
   omega
  clear jp eK rk SW eL rl oM Sa y7 uw;have HE:Hid (∀ wx:World,Below wr.heap.size wr wx→wx.cell? ⟨gb,go_+p0,none⟩=some (zu x0)∧wx.cell? ⟨gb,go_+p1,none⟩=some (zu x1)∧wx.cell? ⟨gb,go_+p2,none⟩=some (zu x2)∧wx.cell? ⟨gb,go_+p3,none⟩=some (zu x3)):=fun wx uv=>⟨ua uv d0,ua uv d1,ua uv d2,ua uv d3⟩
  clear d0 d1 d2 d3;go_upto_region 6 with fail
  go_cut [8] (fun s8 wx=>∃ N:Nat,s8=.pointer (some ⟨N,0,none⟩)∧wr.heap.size≤N∧Blk wx N 190 (zn [x0,x1,x2,x3])∧Below wr.heap.size wr wx)
  case first =>
   have uv:Below wr.heap.size wr wr.drew:=(Below.refl _ _).drew
   refine zr 27 (fun wx=>wx.cell? ⟨gb,go_+p0,none⟩=some (zu x0)∧wx.cell? ⟨gb,go_+p1,none⟩=some (zu x1)∧wx.cell? ⟨gb,go_+p2,none⟩=some (zu x2)∧wx.cell? ⟨gb,go_+p3,none⟩=some (zu x3)) (by kernel_rfl) (HE.out _ uv) (fun zy=>?_)
   refine TkS 0 rfl zy ?_
   refine TkS 1 rfl zy ?_
   refine TkS 2 rfl zy ?_
   refine TkS 3 rfl zy ?_
   refine TkS 4 rfl zy ?_
   refine TkS 5 rfl zy ?_
   refine TkS 6 rfl zy ?_
   refine TkS 7 rfl zy ?_
   refine TkS 8 rfl zy ?_
   refine TkS 9 rfl zy ?_
   refine TkS 10 rfl zy ?_
   refine TkS 11 rfl zy ?_
   refine TkS 12 rfl zy ?_
   refine TkS 13 rfl zy ?_
   refine TkS 14 rfl zy ?_
   refine TkS 15 rfl zy ?_
   refine TkS 16 rfl zy ?_
   refine TkS 17 rfl zy ?_
   refine TkS 18 rfl zy ?_
   refine TkS 19 rfl zy ?_
   refine TkS 20 rfl zy ?_
   refine TkS 21 rfl zy ?_
   refine TkS 22 rfl zy ?_
   refine TkS 23 rfl zy ?_
   refine TkS 24 rfl zy ?_
   refine To 25 rfl fun K hK=>?_
   go_simp
   have hD:=pk uv 190 #[.int .u8 0,.int .u8 0,.int .u8 0,.int .u8 0];have Ek:=uv.size;replace uv:=uv.alloc uv.size (.cells #[.int .u8 0,.int .u8 0,.int .u8 0,.int .u8 0] 190)
   try simp only[zB,za]at hD
   try simp only[zB,za]at Ek
   refine Ko hK ?_ fun zy=>?_
   ·exact HE.out _ uv
   clear hK K
   refine To 26 rfl fun K hK=>?_
   rw[if_pos (by rfl)]
   refine zT _ _ _ rfl _ (zn [x0,x1,x2,x3]) rfl rfl _ _ hD (by kernel_rfl) rfl (ym _) fun w10 hD10 yn=>?_
   replace uv:=uv.grown yn uv.size (by rintro q ⟨⟩;exact Ek)
   refine Ko hK ?_ fun zy=>?_
   ·exact HE.out _ uv
   clear hK K
   refine Wd ?_
   clear zy;go_wp2_with fail
   go_meet
   exact⟨_,rfl,Ek,hD10,uv⟩
  case rest =>
  obtain⟨N,rfl,hN,hD,uv⟩:=hcut;have MH:w.heap.size<wr.heap.size:=hB.lt;have HWR:=Hh (And.intro hN MH);replace hO:=hO.below uv;replace hB:=hB.below uv;replace hb:=hb.trans (uv.mono hb.size);have LV:gb≠N:=by omega
  have Ez:=Hh LV;clear uv HE V1 V2 V3 V4 l0 l1 l2 l3 px xv;obtain⟨r4,BG⟩:∃ r,i%4=r:=⟨_,rfl⟩
  have t1:(i:Int).tmod 4=(r4:Int):=by rw[← BG];exact(Int.ofNat_tmod i 4).symm
  have Rm:n%4=r4:=by have:=HI.out;omega
  clear BG;go_upto_if 43 with fail
  go_cut [6] (fun s6 wx=>s6=zu (rcU ((n+4)/4))∧Blk wx N 190 (zn [vz S key n 0,vz S key n 1,vz S key n 2,vz S key n 3])∧OwnB wx (w.heap.size+1) (.slice (some ⟨gb,go_,none⟩) q vc) K∧Blk wx w.heap.size 151 (zn S)∧Below w.heap.size w wx)
  case first =>
   by_cases h0:r4=0
   ·subst h0;have Ru:=Hh Rm
    have HT:Hid (rcU (n/4)=rc∧rcU ((n+4)/4)=qN rc 2∧vz S key n 0=at_ S x1.toNat ^^^ rc∧vz S key n 1=at_ S x2.toNat∧vz S key n 2=at_ S x3.toNat∧vz S key n 3=at_ S x0.toNat):=by
     have e1:rcU (n/4)=rc:=by rw[← HI.out.2.2.1];congr 1;have:=Ru.out;omega
     have e2:=HXS.out;have e3:=HP.out
     refine⟨e1, ?_, ?_, ?_, ?_, ?_⟩
     ·rw[show(n+4)/4=n/4+1 by omega,rcU,e1];rfl
     ·rw[vz,if_pos Ru.out,if_pos rfl,HK.out.1,e3,e1,show(0+1)%4=1 from rfl,e2.2.1]
     ·rw[vz,if_pos Ru.out,if_neg (by omega),HK.out.1,e3,show(1+1)%4=2 from rfl,e2.2.2.1,UInt8.xor_zero]
     ·rw[vz,if_pos Ru.out,if_neg (by omega),HK.out.1,e3,show(2+1)%4=3 from rfl,e2.2.2.2,UInt8.xor_zero]
     rw[vz,if_pos Ru.out,if_neg (by omega),HK.out.1,e3,show(3+1)%4=0 from rfl,e2.1,UInt8.xor_zero]
    clear Rm;have k0:=hD.drew.cell 0 rfl;have k1:=hD.drew.cell 1 rfl;have k2:=hD.drew.cell 2 rfl;have k3:=hD.drew.cell 3 rfl;have z0:=hB.drew.cell x0.toNat (zI _ _ (by have:=HL.out;have:=x0.toNat_lt;omega));have z1:=hB.drew.cell x1.toNat (zI _ _ (by have:=HL.out;have:=x1.toNat_lt;omega));have z2:=hB.drew.cell x2.toNat (zI _ _ (by have:=HL.out;have:=x2.toNat_lt;omega));have z3:=hB.drew.cell x3.toNat (zI _ _ (by have:=HL.out;have:=x3.toNat_lt;omega));obtain⟨y0,Oy⟩:∃ y,at_ S x0.toNat=y:=⟨_,rfl⟩
    obtain⟨y1,J5⟩:∃ y,at_ S x1.toNat=y:=⟨_,rfl⟩
    obtain⟨y2,BW⟩:∃ y,at_ S x2.toNat=y:=⟨_,rfl⟩
    obtain⟨y3,BX⟩:∃ y,at_ S x3.toNat=y:=⟨_,rfl⟩
    rw[Oy]at z0 HT;rw[J5]at z1 HT;rw[BW]at z2 HT;rw[BX]at z3 HT;have i0:(x0.toNat:Int)<256:=by have:=x0.toNat_lt;omega
    have i1:(x1.toNat:Int)<256:=by have:=x1.toNat_lt;omega
    have i2:(x2.toNat:Int)<256:=by have:=x2.toNat_lt;omega
    have i3:(x3.toNat:Int)<256:=by have:=x3.toNat_lt;omega
    have X:=yx y1 rc;obtain⟨yr,BZ⟩:∃ y,y1 ^^^ rc=y:=⟨_,rfl⟩
    rw[BZ]at X HT;clear Oy J5 BW BX BZ;go_upto_region 8 with fail
    go_cut [] (fun wx=>Blk wx N 190 (zn [yr,y2,y3,y0])∧OwnB wx (w.heap.size+1) (.slice (some ⟨gb,go_,none⟩) q vc) K∧Blk wx w.heap.size 151 (zn S)∧Below w.heap.size w wx)
    case first =>
     refine zr 19 (fun wx=>wx.cell? ⟨N,0,none⟩=some (zu x0)∧wx.cell? ⟨N,1,none⟩=some (zu x1)∧wx.cell? ⟨N,2,none⟩=some (zu x2)∧wx.cell? ⟨N,3,none⟩=some (zu x3)∧wx.cell? ⟨w.heap.size,x0.toNat,none⟩=some (zu y0)∧wx.cell? ⟨w.heap.size,x1.toNat,none⟩=some (zu y1)∧wx.cell? ⟨w.heap.size,x2.toNat,none⟩=some (zu y2)∧wx.cell? ⟨w.heap.size,x3.toNat,none⟩=some (zu y3)) (by kernel_rfl) (⟨k0,k1,k2,k3,z0,z1,z2,z3⟩) (fun zy=>?_)
     refine Tk 0 rfl zy ?_
     refine Tk 1 rfl zy ?_
     refine Tk 2 rfl zy ?_
     refine Tk 3 rfl zy ?_
     refine Tk 4 rfl zy ?_
     refine Tk 5 rfl zy ?_
     refine Tk 6 rfl zy ?_
     refine Tk 7 rfl zy ?_
     refine Tk 8 rfl zy ?_
     refine Tk 9 rfl zy ?_
     refine Tk 10 rfl zy ?_
     refine Tk 11 rfl zy ?_
     refine Tk 12 rfl zy ?_
     refine Tk 13 rfl zy ?_
     refine Tk 14 rfl zy ?_
     refine Tk 15 rfl zy ?_
     refine Tk 16 rfl zy ?_
     refine Tk 17 rfl zy ?_
     refine Tk 18 rfl zy ?_
     refine To 19 rfl fun K hK=>?_
     rw[if_pos (by rfl)]
     refine zT _ _ _ rfl _ (zn [yr,y2,y3,y0]) rfl rfl _ _ hD.drew (by kernel_rfl) rfl (ym _) fun w10 hD10 yn=>?_
     refine Kz hK ?_
     clear hK K
     refine Wd ?_
     clear zy;have wO:=(hO.below (Below.refl _ _).drew).kept yn (.inr (by intro e;injection e with e;exact LV e));have aM:=hB.drew.grown yn (by intro e;injection e with e;have:=HWR.out;omega);have xN:=hb.drew.grown yn hb.drew.size (by rintro q ⟨⟩;have:=HWR.out;omega);go_wp2_with fail
     go_meet
     exact⟨hD10,wO,aM,xN⟩
    case rest =>
    clear hD hO hB hb k0 k1 k2 k3 z0 z1 z2 z3 X;obtain⟨hD,hO,hB,hb⟩:=hcut;go_wp2_with fail
    refine(bi rc 2 (by omega) _).mono ?_
    rintro e w7 ⟨rfl,rfl⟩
    go_wp2_with fail
    go_meet
    exact⟨by rw[HT.out.2.1],by rw[HT.out.2.2.1,HT.out.2.2.2.1,HT.out.2.2.2.2.1,HT.out.2.2.2.2.2];exact hD,hO,hB,hb⟩
   have JI:((r4:Int)==0)=false:=by rw[beq_eq_false_iff_ne];omega
   have Bq:((r4:Int)=0)=False:=eq_false (by omega);have Ru:Hid (¬ n%4=0):=by rw[Hid,Rm];exact h0
   clear h0 Rm
   have HT:Hid (rcU ((n+4)/4)=rc∧vz S key n 0=x0∧vz S key n 1=x1∧vz S key n 2=x2∧vz S key n 3=x3):=by
    have e2:=HXS.out;have e3:=HP.out
    refine⟨by rw[← HI.out.2.2.1];congr 1;have:=Ru.out;omega, ?_, ?_, ?_, ?_⟩
    ·rw[vz,if_neg Ru.out,HK.out.1,e3,e2.1]
    ·rw[vz,if_neg Ru.out,HK.out.1,e3,e2.2.1]
    ·rw[vz,if_neg Ru.out,HK.out.1,e3,e2.2.2.1]
    rw[vz,if_neg Ru.out,HK.out.1,e3,e2.2.2.2]
   go_wp2_with fail
   go_meet
   exact⟨by rw[HT.out.1],by rw[HT.out.2.1,HT.out.2.2.1,HT.out.2.2.2.1,HT.out.2.2.2.2];exact hD,hO,hB,hb⟩
  case rest =>
  clear hD hO hB hb t1 Rm;obtain⟨rfl,hD,hO,hB,hb⟩:=hcut;obtain⟨rd,Ed⟩:∃ r,rcU ((n+4)/4)=r:=⟨_,rfl⟩
  rw[Ed];have HRD:=Hh Ed;obtain⟨T0,xO⟩:∃ T,vz S key n 0=T:=⟨_,rfl⟩
  obtain⟨T1,Ok⟩:∃ T,vz S key n 1=T:=⟨_,rfl⟩
  obtain⟨T2,tX⟩:∃ T,vz S key n 2=T:=⟨_,rfl⟩
  obtain⟨T3,yE⟩:∃ T,vz S key n 3=T:=⟨_,rfl⟩
  rw[xO,Ok,tX,yE]at hD
  have HTS:Hid (∀ j,j<4→at_ [T0,T1,T2,T3] j=vz S key n j):=fun j hj=>by
   rcases(by omega:j=0∨j=1∨j=2∨j=3) with rfl | rfl | rfl | rfl
   ·exact xO.symm
   ·exact Ok.symm
   ·exact tX.symm
   exact yE.symm
  clear Ed xO Ok tX yE J2;have Sj:OwnB wc (w.heap.size+1) (.slice (some ⟨gb,go_,none⟩) (q+0) vc) (yG S key (4*n+0)):=by show OwnB wc (w.heap.size+1) (.slice (some ⟨gb,go_,none⟩) q vc) (yG S key (4*n));rw[HK.out.1];exact hO
  clear hO LV;go_wp2_with fail
  go_loopw [5,65] (fun v5 v65 wx=>∃ (j:Nat) (UA:Option Addr) (uc:Nat),v65=.int .i64 (j:Int)∧j≤4∧v5=.slice UA (q+j) uc∧OwnB wx (w.heap.size+1) (.slice UA (q+j) uc) (yG S key (4*n+j))∧Blk wx N 190 (zn [T0,T1,T2,T3])∧Blk wx w.heap.size 151 (zn S)∧Below w.heap.size w wx∧(∀ k,(Value.slice UA (q+j) uc).ownBlock=some k→k≠N)) (fun _ v65 _=>(4-intOf v65).toNat)
  case atStart=>exact⟨0,some ⟨gb,go_,none⟩,vc,rfl,by omega,rfl,Sj,hD,hB,hb,fun k hk=>by cases hk;exact Ez.out⟩
  case round =>
  clear Sj hD hB hb;obtain⟨j,UA,uc,rfl,hj,rfl,hO,hD,hB,hb,xp⟩:=hrel
  by_cases hjt:(j:Int)<4
  ·obtain⟨K2,FX⟩:∃ K,yG S key (4*n+j)=K:=⟨_,rfl⟩
   obtain⟨qj,Fi⟩:∃ q',q+j=q':=⟨_,rfl⟩
   obtain⟨a0,cT⟩:∃ a,4*n=a:=⟨_,rfl⟩
   obtain⟨aj,Dn⟩:∃ a,4*n+j=a:=⟨_,rfl⟩
   have YS:Hid (K2.length=qj):=by rw[Hid,← FX,vx S key HL.out.2];have:=HI.out;omega
   have oP:Hid (yG S key (4*n+(j+1))=K2++[at_ K2 aj ^^^ vz S key n j]):=by rw[Hid,Tr S HL.out.2 (by omega),FX,Dn]
   have Lg:=Hh (And.intro Fi Dn);rw[FX,Fi]at hO;rw[Fi]at xp⊢;obtain⟨ub,uo,rfl,uw⟩:=hO.src (by intro h0;have h1:=congrArg List.length h0;rw[List.length_map,List.length_nil]at h1;have:=YS.out;have:=HI.out;have:=Lg.out;omega);have xv:=hO.lt ub rfl;have CZ:ub≠N:=xp ub rfl;have e0:=uw aj (zu (at_ K2 aj)) (by have h1:=YS.out;have h2:=HI.out;have h3:=Lg.out;rw[List.getElem?_map,List.getElem?_eq_getElem (by omega)];simp[at_,List.getD_eq_getElem?_getD,show aj<K2.length by omega]);have e1:=hD.cell j (zI _ _ (by simp;omega));rw[HTS.out j (by omega)]at e1;obtain⟨u,hu⟩:∃ u,at_ K2 aj=u:=⟨_,rfl⟩
   obtain⟨v,hv⟩:∃ v,vz S key n j=v:=⟨_,rfl⟩
   rw[hu]at e0;rw[hv]at e1;have X:=yx u v;obtain⟨y,hy⟩:∃ y,u ^^^ v=y:=⟨_,rfl⟩
   rw[hy]at X;obtain⟨K3,Lt⟩:∃ K3,K2++[y]=K3:=⟨_,rfl⟩
   have Cz:Hid (yG S key (4*n+(j+1))=K3∧K3.length=q+(j+1)∧K2++[y]=K3):=⟨by rw[oP.out,hu,hv,hy,Lt],by rw[← Lt,List.length_append];have:=YS.out;have:=Lg.out;simp;omega,Lt⟩
   have V5:IntKind.i64.wrap ((q:Int)-16)=(a0:Int):=by rw[show(q:Int)-16=(a0:Int) by have:=HI.out;omega];exact zP (by have:=HI.out;omega)
   have V6:IntKind.i64.wrap ((a0:Int)+(j:Int))=(aj:Int):=by rw[show(a0:Int)+(j:Int)=(aj:Int) by have:=Lg.out;omega];exact zP (by have:=HI.out;have:=Lg.out;omega)
   have lj:(aj:Int)<(qj:Int):=by have:=HI.out;have:=Lg.out;omega
   have hju:(j:Int)<4:=hjt
   have Cc:(qj:Int)≤(uc:Int):=by
    obtain⟨_,c9,e,h1,_⟩:=hO.form;injection e with _ _ e3
    have h2:=YS.out
    omega
   have EV:=Hh (And.intro xv CZ);clear hu hv hy FX Fi Dn cT Lt uw xv xp;go_upto_region 13 with fail
   replace e0:=ua (Below.refl _ _).drew e0;replace e1:=ua (Below.refl _ _).drew e1;replace hO:=hO.below (Below.refl _ _).drew;replace hD:=hD.drew;replace hB:=hB.drew;replace hb:=hb.drew
   refine rm 14 (fun wx=>wx.cell? ⟨ub,uo+aj,none⟩=some (zu u)∧wx.cell? ⟨N,j,none⟩=some (zu v)) (by kernel_rfl) (⟨e0,e1⟩) (fun zy=>?_)
   refine Zk 0 rfl zy ?_
   refine Zk 1 rfl zy ?_
   refine Zk 2 rfl zy ?_
   refine Zk 3 rfl zy ?_
   refine Zk 4 rfl zy ?_
   refine Zk 5 rfl zy ?_
   refine Zk 6 rfl zy ?_
   refine Zk 7 rfl zy ?_
   refine Zk 8 rfl zy ?_
   refine Zk 9 rfl zy ?_
   refine Zk 10 rfl zy ?_
   refine Zk 11 rfl zy ?_
   refine Zk 12 rfl zy ?_
   refine Zo 13 rfl fun K hK=>?_
   go_simp
   have GY:=om hb 5 #[.int .u8 (y.toNat:Int)];replace e0:=MY e0 (.cells #[.int .u8 (y.toNat:Int)] 5);replace e1:=MY e1 (.cells #[.int .u8 (y.toNat:Int)] 5);replace hO:=hO.alloc (.cells #[.int .u8 (y.toNat:Int)] 5);replace hD:=hD.alloc (.cells #[.int .u8 (y.toNat:Int)] 5);replace hB:=hB.alloc (.cells #[.int .u8 (y.toNat:Int)] 5);replace hb:=hb.alloc hb.size (.cells #[.int .u8 (y.toNat:Int)] 5)
   refine Ko hK ?_ fun zy=>?_
   ·exact⟨e0,e1⟩
   clear hK K
   refine Zo 14 rfl fun K hK=>?_
   rw[if_pos (by rfl)]
   refine yV (.tmp 68) (.tmp 81) rfl (w.heap.size+1) (.slice (some ⟨ub,uo,none⟩) qj uc) K2 rfl hO _ 1 1 [y] rfl rfl GY (by have:=YS.out;have:=Lg.out;have:=HI.out;simp;omega) (Nat.succ_le_of_lt hB.lt) fun v7 w7 xj xQ hat7=>?_
   rw[Cz.out.2.2]at xj
   refine Kz hK ?_
   clear hK K
   refine ZkT 15 rfl (fun h=>absurd h (by decide)) ?_
   refine WaysZ.done (by kernel_rfl) ?_
   obtain⟨VB,vd,rfl,Gp,_,_⟩:=xj.form;rw[Cz.out.2.1]at xj hat7⊢;have hD7:=hD.grown xQ (fun e=>by injection e with e;exact EV.out.2 e);have nW:=hB.grown xQ (fun e=>by injection e with e;have e':ub=w.heap.size:=e;have:=EV.out.1;omega);have uI:=hb.grown xQ hb.size (fun k hk=>by injection hk with hk;have e':ub=k:=hk;have:=EV.out.1;omega)
   have CX:∀ k,(Value.slice VB (q+(j+1)) vd).ownBlock=some k→k≠N:=fun k hk=>by
    rcases hat7 with h | ⟨g',h1,h2⟩
    ·rw[hk]at h;injection h with h;rw[h];exact EV.out.2
    rw[hk]at h1;injection h1 with h1;have h3:=hD.lt;try simp only[zB,za]at h2 h3;omega
   clear zy hO hD hB hb xQ hat7 GY e0 e1 X V5 V6 lj hju Cc;go_wp2_with fail
   go_roundw
   case rel=>exact⟨j+1,VB,vd,by go_num,by omega,rfl,by rw[Cz.out.1];exact xj,hD7,nW,uI,CX⟩
   case measure=>simp[intOf];omega
  obtain rfl:j=4:=by omega
  rw[show((4:Nat):Int)=4 from rfl]at hjt⊢;obtain⟨q4,Iz⟩:∃ q',q+4=q':=⟨_,rfl⟩
  have hq5:q4=16+4*(n+1):=by have:=HI.out;omega
  have A9:4*n+4=4*(n+1):=by omega
  rw[Iz,A9]at hO;rw[Iz];subst hq5;have Sq:IntKind.i64.wrap ((i:Int)+1)=((n+1+4:Nat):Int):=by rw[show(i:Int)+1=((n+1+4:Nat):Int) by have:=HI.out;omega];exact zP (by have:=HI.out;omega)
  clear hjt W0 xp Iz A9;go_wp2_with fail
  go_roundw
  case rel=>exact⟨n+1,UA,uc,rfl,by have:=HI.out;omega,by rw[← HRD.out],rfl,hO,hB,hb⟩
  case measure=>simp[intOf];have:=HI.out;omega
 have Gw:n=40:=by have:=HI.out;omega
 subst Gw;have rM:=hb;have G0:q=176:=by have:=HI.out;omega
 subst G0;have CK:i=44:=by have:=HI.out;omega
 subst CK;clear z9;go_wp2_with fail
 go_ret
 exact⟨_,rfl,hO.more (by omega),rM⟩
end Go.Proofs.YtkmlnjociijpgaaGreatDoor
