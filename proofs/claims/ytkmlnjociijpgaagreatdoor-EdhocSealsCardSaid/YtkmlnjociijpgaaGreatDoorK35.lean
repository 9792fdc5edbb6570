/- squeezed. Walks: columns of AES are mixed, b -/
import Derived.Test.YtkmlnjociijpgaaGreatDoorK34
set_option linter.unusedVariables false
set_option linter.unusedSimpArgs false
set_option maxRecDepth 100000
set_option maxHeartbeats 12800000
namespace Go.Proofs.YtkmlnjociijpgaaGreatDoor
open Go.RowKit
def rh (l:List UInt8) (i:Nat):Nat→UInt8
 | 0=>0
 | k+1=>rh l i k ^^^ YD l i k
theorem Ys (l:List UInt8):vQ l=(List.range 16).map fun i=>rh l i 4:=by
 rw[vQ];apply List.map_congr_left
 intro i hi
 exact(NN l (by simpa using hi)).symm
theorem Nf {l:List UInt8}{i:Nat}{u:UInt8}(h:at_ l i=u):l.set i u=l:=by
 apply List.ext_getElem?
 intro j
 rw[List.getElem?_set]
 by_cases e:i=j
 ·subst e;rw[if_pos rfl]
  by_cases hl:i<l.length
  ·rw[if_pos hl,← h,List.getElem?_eq_getElem hl]
   simp[at_,List.getD_eq_getElem?_getD,hl]
  rw[if_neg hl,List.getElem?_eq_none (by omega)]
 rw[if_neg e]
theorem NZ {l:List UInt8}(hl:l.length=16) (w:World) :
  Calls Tryz.prog 167 #[.agg (zn l),.agg pX] w fun e w'=>e=.returned (.agg (zn (vQ l)))∧Below w.heap.size w w':=by
 obtain⟨Z,hZ⟩:∃ Z:List UInt8,List.replicate 16 0=Z:=⟨_,rfl⟩
 have HZ:Hid (Z.length=16∧∀ i,at_ Z i=0):=by
  rw[Hid,← hZ]
  refine⟨by simp,fun i=>?_⟩
  rw[at_,List.getD_eq_getElem?_getD,List.getElem?_replicate]
  split <;> rfl
 have EZ:(#[.int .u8 0,.int .u8 0,.int .u8 0,.int .u8 0,.int .u8 0,.int .u8 0,.int .u8 0,.int .u8 0,.int .u8 0,.int .u8 0,.int .u8 0,.int .u8 0,.int .u8 0,.int .u8 0,.int .u8 0,.int .u8 0]:Array Value)=zn Z:=by rw[← hZ];rfl
 clear hZ;have yB:=(zX w (.cells (zn l) 122))
 replace yB:=yB.alloc yB.size (.cells pX 190);replace yB:=yB.alloc yB.size (.cells (zn Z) 122);replace yB:=yB.alloc yB.size (.cells (zn Z) 122);have hA:=(((Blk.new w 122 (zn l)).alloc (.cells pX 190)).alloc (.cells (zn Z) 122)).alloc (.cells (zn Z) 122);have hM:=((Blk.new (w.alloc (.cells (zn l) 122)) 190 pX).alloc (.cells (zn Z) 122)).alloc (.cells (zn Z) 122);have hT:=(Blk.new ((w.alloc (.cells (zn l) 122)).alloc (.cells pX 190)) 122 (zn Z)).alloc (.cells (zn Z) 122);have hO:=Blk.new (((w.alloc (.cells (zn l) 122)).alloc (.cells pX 190)).alloc (.cells (zn Z) 122)) 122 (zn Z)
 simp only[za]at hM hT hO
 have HL:=Hh hl;clear hl;go_enter Tryz.func167,Tryz.ntmps167
 go_upto_region 2 with fail
 try rw[EZ]
 obtain⟨w1,tv⟩:∃ w1,(((w.alloc (.cells (zn l) 122)).alloc (.cells pX 190)).alloc (.cells (zn Z) 122)).alloc (.cells (zn Z) 122)=w1:=⟨_,rfl⟩
 rw[tv]at hA hM hT hO yB⊢;have ui:Blk w1 (w.heap.size+1+1+1) 122 (zn (wB 16 (fun i=>rh l i 4) Z 0)):=by rw[wW _ HZ.out.1];exact hO
 clear EZ tv hO;go_wp2_with fail
 go_loopw [9] (fun v9 wr=>∃ c:Nat,v9=.int .i64 (c:Int)∧c≤4∧Blk wr (w.heap.size+1+1+1) 122 (zn (wB 16 (fun i=>rh l i 4) Z (4*c)))∧Blk wr (w.heap.size+1+1) 122 (zn Z)∧Blk wr (w.heap.size+1) 190 pX∧Blk wr w.heap.size 122 (zn l)∧Below w.heap.size w wr) (fun v9 _=>(4-intOf v9).toNat)
 case atStart=>exact⟨0,rfl,by omega,ui,hT,hM,hA,yB⟩
 case round =>
 clear ui hT hM hA yB;obtain⟨c,rfl,hc,hO,hT,hM,hA,hb⟩:=hrel
 by_cases z9:(c:Int)<4
 ·obtain⟨c4,eF⟩:∃ e,4*c=e:=⟨_,rfl⟩
  have W0:IntKind.i64.wrap (4*(c:Int))=(c4:Int):=by rw[show 4*(c:Int)=((4*c:Nat):Int) by omega,eF];exact zP (by omega)
  rw[eF]at hO;have Sf:=Hh eF;clear eF;go_wp2_with fail
  go_loopw [12] (fun v12 wx=>∃ r:Nat,v12=.int .i64 (r:Int)∧r≤4∧Blk wx (w.heap.size+1+1+1) 122 (zn (wB 16 (fun i=>rh l i 4) Z (c4+r)))∧Blk wx (w.heap.size+1+1) 122 (zn Z)∧Blk wx (w.heap.size+1) 190 pX∧Blk wx w.heap.size 122 (zn l)∧Below w.heap.size w wx) (fun v12 _=>(4-intOf v12).toNat)
  case atStart=>exact⟨0,rfl,by omega,hO,hT,hM,hA,hb⟩
  case round =>
  clear hO hT hM hA hb;obtain⟨r,rfl,hr,hO,hT,hM,hA,hb⟩:=hrel
  by_cases hrt:(r:Int)<4
  ·obtain⟨i,hi⟩:∃ i,c4+r=i:=⟨_,rfl⟩
   have W1:IntKind.i64.wrap ((c4:Int)+(r:Int))=(i:Int):=by rw[← Int.natCast_add,hi];exact zP (by have:=Sf.out;omega)
   have kO:(i:Int)<16:=by have:=Sf.out;omega
   rw[hi]at hO;obtain⟨U,hU⟩:∃ U,wB 16 (fun i=>rh l i 4) Z i=U:=⟨_,rfl⟩
   have S1:Hid (U.set i (rh l i 4)=wB 16 (fun i=>rh l i 4) Z (i+1)):=by rw[← hU];exact uy (fun i=>rh l i 4) Z (by omega)
   have HU:Hid (U.length=16):=by rw[← hU];exact xJ _ _ _ _
   have HS0:Hid (U.set i (rh l i 0)=U):=by rw[← hU];exact Nf (by rw[pJ _ _ (by omega),HZ.out.2];rfl)
   rw[hU,← HS0.out]at hO;have HI:=Hh (And.intro hi (show i/4=c∧i%4=r by have:=Sf.out;omega));clear hU hi HS0;go_wp2_with fail
   go_loopw [15] (fun v15 wy=>∃ k:Nat,v15=.int .i64 (k:Int)∧k≤4∧Blk wy (w.heap.size+1+1+1) 122 (zn (U.set i (rh l i k)))∧Blk wy (w.heap.size+1+1) 122 (zn Z)∧Blk wy (w.heap.size+1) 190 pX∧Blk wy w.heap.size 122 (zn l)∧Below w.heap.size w wy) (fun v15 _=>(4-intOf v15).toNat)
   case atStart=>exact⟨0,rfl,by omega,hO,hT,hM,hA,hb⟩
   case round =>
   clear hO hT hM hA hb;obtain⟨k,rfl,hk,hO,hT,hM,hA,hb⟩:=hrel
   by_cases ae:(k:Int)<4
   ·obtain⟨e,he⟩:∃ e,k+4-r=e:=⟨_,rfl⟩
    obtain⟨q,hq⟩:∃ q,e%4=q:=⟨_,rfl⟩
    obtain⟨x,hx⟩:∃ x,c4+k=x:=⟨_,rfl⟩
    have W2:IntKind.i64.wrap ((c4:Int)+(k:Int))=(x:Int):=by rw[← Int.natCast_add,hx];exact zP (by have:=Sf.out;omega)
    have W3:IntKind.i64.wrap ((k:Int)-(r:Int))=(k:Int)-(r:Int):=IntWalk.i64_in _ (by omega);have W4:IntKind.i64.wrap ((k:Int)-(r:Int)+4)=(e:Int):=by rw[show(k:Int)-(r:Int)+4=((k+4-r:Nat):Int) by omega,he];exact zP (by omega)
    have t3:(e:Int).tmod 4=(q:Int):=by rw[← hq];exact(Int.ofNat_tmod e 4).symm
    have lx:(x:Int)<16:=by have:=Sf.out;omega
    have lq:(q:Int)<4:=by omega
    obtain⟨u,hu⟩:∃ u,at_ l x=u:=⟨_,rfl⟩
    obtain⟨m,hm⟩:∃ m,[2,3,1,1].getD q 0=m:=⟨_,rfl⟩
    obtain⟨p,hp⟩:∃ p,rh l i k=p:=⟨_,rfl⟩
    have HV:Hid (rh l i (k+1)=p ^^^ qN u m):=by
     have h1:=HI.out;have h2:=Sf.out;rw[Hid,rh,hp,YD,h1.2.1,h1.2.2,h2,hx,he,hq,hu,hm]
    have c0:=hA.drew.cell x (zI _ _ (by have:=HL.out;omega));have c1:=hM.drew.cell q (Zd (by omega));have c2:=hO.drew.cell i (zI _ _ (by rw[List.length_set,HU.out];omega));have M9:=Vi (show q<4 by omega);rw[show at_ (U.set i (rh l i k)) i=rh l i k by simp[at_,List.getD_eq_getElem?_getD,show i<U.length by rw[HU.out];omega],hp]at c2;rw[hu]at c0;rw[hm]at c1 M9;have PR:=Hh (bi u m M9);have X:=Hh (yx p (qN u m));clear he hq hx hu hm hp M9;go_upto_region 11 with fail
    refine zr 22 (fun wx=>wx.cell? ⟨w.heap.size,x,none⟩=some (zu u)∧wx.cell? ⟨w.heap.size+1,q,none⟩=some (.int .u8 (m:Int))∧wx.cell? ⟨w.heap.size+1+1+1,i,none⟩=some (zu p)) (by kernel_rfl) (⟨c0,c1,c2⟩) (fun zy=>?_)
    refine Tk 0 rfl zy ?_
    refine Tk 1 rfl zy ?_
    refine Tk 2 rfl zy ?_
    refine Tk 3 rfl zy ?_
    refine Tk 4 rfl zy ?_
    refine Tk 5 rfl zy ?_
    refine Tk 6 rfl zy ?_
    refine Tk 7 rfl zy ?_
    refine Tk 8 rfl zy ?_
    refine Tk 9 rfl zy ?_
    refine Tk 10 rfl zy ?_
    refine Tk 11 rfl zy ?_
    refine Tk 12 rfl zy ?_
    refine Tk 13 rfl zy ?_
    refine Tk 14 rfl zy ?_
    refine Tk 15 rfl zy ?_
    refine Tk 16 rfl zy ?_
    refine Tk 17 rfl zy ?_
    refine Tk 18 rfl zy ?_
    refine To 19 rfl fun K hK=>?_
    go_simp
    refine(PR.out _).mono ?_
    rintro e w7 ⟨rfl,rfl⟩
    clear zy
    refine hK.out _ _ (fun _=>?_) (fun zy=>?_)
    ·exact⟨c0,c1,c2⟩
    clear hK K;replace zy:=zy (by decide)
    try simp only[Act.put,zz1,zz2,zz3,zz4,zz5,zz6]
    refine Tk 20 rfl zy ?_
    refine Tk 21 rfl zy ?_
    refine To 22 rfl fun K hK=>?_
    rw[if_pos (by rfl)]
    refine zO _ _ _ rfl (w.heap.size+1+1+1) i (zu (p ^^^ qN u m)) rfl (by show Value.int .u8 (bits .xor .u8 (p.toNat:Int) ((qN u m).toNat:Int))=_;rw[X.out]) _ _ hO.drew yH (by rw[zg,List.length_set,HU.out];omega) rfl fun w9 sv xt=>?_
    refine Kz hK ?_
    clear hK K
    refine Wd ?_
    clear zy;rw[xS,Vs,← HV.out]at sv;have uB:=hT.drew.gr xt (by omega);have L5:=hM.drew.gr xt (by omega);have Br:=hA.drew.gr xt (by omega);have xN:=hb.drew.grown xt hb.drew.size (by rintro q ⟨⟩;omega);clear xt c0 c1 c2 hO hT hM hA hb t3 W2 W3 W4 lx lq PR X;go_wp2_with fail
    go_roundw
    case rel=>exact⟨k+1,by go_num,by omega,sv,uB,L5,Br,xN⟩
    case measure=>simp[intOf];omega
   obtain rfl:k=4:=by omega
   rw[show((4:Nat):Int)=4 from rfl]at ae⊢;rw[S1.out]at hO;clear W1 ae kO;go_wp2_with fail
   go_roundw
   case rel=>exact⟨r+1,by go_num,by omega,by rw[← Nat.add_assoc,HI.out.1];exact hO,hT,hM,hA,hb⟩
   case measure=>simp[intOf];omega
  obtain rfl:r=4:=by omega
  rw[show((4:Nat):Int)=4 from rfl]at hrt⊢;clear W0 hrt;go_wp2_with fail
  go_roundw
  case rel=>exact⟨c+1,by go_num,by omega,by have h:=Sf.out;rw[show 4*(c+1)=c4+4 by omega];exact hO,hT,hM,hA,hb⟩
  case measure=>simp[intOf];omega
 obtain rfl:c=4:=by omega
 rw[show((4:Nat):Int)=4 from rfl]at z9⊢;rw[show 4*4=16 from rfl,tN,← Ys]at hO;obtain⟨R,hR⟩:∃ R,vQ l=R:=⟨_,rfl⟩
 have HR:Hid (R.length=16∧vQ l=R):=⟨by rw[← hR,vQ];simp,hR⟩
 rw[hR]at hO;clear z9 hR;go_wp2_with (with_reducible refine vy 122 ?_)
 refine zM rfl _ _ rfl (w.heap.size+1+1+1) 0 16 rfl hO (by rw[HR.out.1];omega) _ Tryz.underlying122 rfl (by kernel_rfl) ?_
 rw[xT HR.out.1];go_wp2_with (with_reducible refine zx ?_)
 refine xy rfl _ _ _ rfl rfl (w.heap.size+1+1) 0 R rfl rfl hT (by rw[HR.out.1];kernel_rfl) (by rw[HR.out.1,HZ.out.1];omega) fun w8 tZ hg8=>?_
 rw[pH (by rw[HR.out.1,HZ.out.1])]at tZ;have uk:=jgc;clear hO hT hM hA hb hg8;go_wp2_with fail
 exact xU rfl rfl tZ rfl rfl (by rw[zg,HR.out.1];kernel_rfl) rfl ⟨by rw[HR.out.2],uk⟩
end Go.Proofs.YtkmlnjociijpgaaGreatDoor
