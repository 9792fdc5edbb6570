/- squeezed. Walks: columns of AES are mixed, b -/
import Derived.Test.YtliomcphdnppnaaGreatDoorK36
set_option linter.unusedVariables false
set_option linter.unusedSimpArgs false
set_option maxRecDepth 100000
set_option maxHeartbeats 12800000
namespace Go.Proofs.YtliomcphdnppnaaGreatDoor
open Go.RowKit
def tI (l:List UInt8) (i:Nat):Nat→UInt8
 | 0=>0
 | k+1=>tI l i k ^^^ dN l i k
theorem eM (l:List UInt8):vq l=(List.range 16).map fun i=>tI l i 4:=by
 rw[vq];apply List.map_congr_left
 intro i hi
 exact(UH l (by simpa using hi)).symm
theorem UY {l:List UInt8}{i:Nat}{u:UInt8}(h:at_ l i=u):l.set i u=l:=by
 apply List.ext_getElem?
 intro j
 rw[List.getElem?_set]
 by_cases e:i=j
 ·subst e;rw[if_pos rfl]
  by_cases hl:i<l.length
  ·rw[if_pos hl,← h,List.getElem?_eq_getElem hl]
   simp[at_,List.getD_eq_getElem?_getD,hl]
  rw[if_neg hl,List.getElem?_eq_none (by omega)]
 rw[if_neg e]
theorem UU {l:List UInt8}(hl:l.length=16) (w:World) :
  Calls Tryz.prog 146 #[.agg (zr l),.agg rG] w fun e w'=>e=.returned (.agg (zr (vq l)))∧Below w.heap.size w w':=by
 obtain⟨Z,hZ⟩:∃ Z:List UInt8,List.replicate 16 0=Z:=⟨_,rfl⟩
 have HZ:Hid (Z.length=16∧∀ i,at_ Z i=0):=by
  rw[Hid,← hZ]
  refine⟨by simp,fun i=>?_⟩
  rw[at_,List.getD_eq_getElem?_getD,List.getElem?_replicate]
  split <;> rfl
 have EZ:(#[.int .u8 0,.int .u8 0,.int .u8 0,.int .u8 0,.int .u8 0,.int .u8 0,.int .u8 0,.int .u8 0,.int .u8 0,.int .u8 0,.int .u8 0,.int .u8 0,.int .u8 0,.int .u8 0,.int .u8 0,.int .u8 0]:Array Value)=zr Z:=by rw[← hZ];rfl
 clear hZ;have xz:=(zq w (.cells (zr l) 85))
 replace xz:=xz.alloc xz.size (.cells rG 167);replace xz:=xz.alloc xz.size (.cells (zr Z) 85);replace xz:=xz.alloc xz.size (.cells (zr Z) 85);have hA:=(((Blk.new w 85 (zr l)).alloc (.cells rG 167)).alloc (.cells (zr Z) 85)).alloc (.cells (zr Z) 85);have hM:=((Blk.new (w.alloc (.cells (zr l) 85)) 167 rG).alloc (.cells (zr Z) 85)).alloc (.cells (zr Z) 85);have hT:=(Blk.new ((w.alloc (.cells (zr l) 85)).alloc (.cells rG 167)) 85 (zr Z)).alloc (.cells (zr Z) 85);have hO:=Blk.new (((w.alloc (.cells (zr l) 85)).alloc (.cells rG 167)).alloc (.cells (zr Z) 85)) 85 (zr Z)
 simp only[zu]at hM hT hO
 have HL:=Hh hl;clear hl;go_enter Tryz.func146,Tryz.ntmps146
 go_upto_region 2 with fail
 try rw[EZ]
 obtain⟨w1,qe⟩:∃ w1,(((w.alloc (.cells (zr l) 85)).alloc (.cells rG 167)).alloc (.cells (zr Z) 85)).alloc (.cells (zr Z) 85)=w1:=⟨_,rfl⟩
 rw[qe]at hA hM hT hO xz⊢;have pG:Blk w1 (w.heap.size+1+1+1) 85 (zr (wW 16 (fun i=>tI l i 4) Z 0)):=by rw[wl _ HZ.out.1];exact hO
 clear EZ qe hO;go_wp2_with fail
 go_loopw [9] (fun v9 wr=>∃ c:Nat,v9=.int .i64 (c:Int)∧c≤4∧Blk wr (w.heap.size+1+1+1) 85 (zr (wW 16 (fun i=>tI l i 4) Z (4*c)))∧Blk wr (w.heap.size+1+1) 85 (zr Z)∧Blk wr (w.heap.size+1) 167 rG∧Blk wr w.heap.size 85 (zr l)∧Below w.heap.size w wr) (fun v9 _=>(4-intOf v9).toNat)
 case atStart=>exact⟨0,rfl,by omega,pG,hT,hM,hA,xz⟩
 case round =>
 clear pG hT hM hA xz;obtain⟨c,rfl,hc,hO,hT,hM,hA,hb⟩:=hrel
 by_cases zB:(c:Int)<4
 ·obtain⟨c4,ik⟩:∃ e,4*c=e:=⟨_,rfl⟩
  have W0:IntKind.i64.wrap (4*(c:Int))=(c4:Int):=by rw[show 4*(c:Int)=((4*c:Nat):Int) by omega,ik];exact zP (by omega)
  rw[ik]at hO;have Yl:=Hh ik;clear ik;go_wp2_with fail
  go_loopw [12] (fun v12 wx=>∃ r:Nat,v12=.int .i64 (r:Int)∧r≤4∧Blk wx (w.heap.size+1+1+1) 85 (zr (wW 16 (fun i=>tI l i 4) Z (c4+r)))∧Blk wx (w.heap.size+1+1) 85 (zr Z)∧Blk wx (w.heap.size+1) 167 rG∧Blk wx w.heap.size 85 (zr l)∧Below w.heap.size w wx) (fun v12 _=>(4-intOf v12).toNat)
  case atStart=>exact⟨0,rfl,by omega,hO,hT,hM,hA,hb⟩
  case round =>
  clear hO hT hM hA hb;obtain⟨r,rfl,hr,hO,hT,hM,hA,hb⟩:=hrel
  by_cases hrt:(r:Int)<4
  ·obtain⟨i,hi⟩:∃ i,c4+r=i:=⟨_,rfl⟩
   have W1:IntKind.i64.wrap ((c4:Int)+(r:Int))=(i:Int):=by rw[← Int.natCast_add,hi];exact zP (by have:=Yl.out;omega)
   have nS:(i:Int)<16:=by have:=Yl.out;omega
   rw[hi]at hO;obtain⟨U,hU⟩:∃ U,wW 16 (fun i=>tI l i 4) Z i=U:=⟨_,rfl⟩
   have S1:Hid (U.set i (tI l i 4)=wW 16 (fun i=>tI l i 4) Z (i+1)):=by rw[← hU];exact vZ (fun i=>tI l i 4) Z (by omega)
   have HU:Hid (U.length=16):=by rw[← hU];exact xe _ _ _ _
   have Gi:Hid (U.set i (tI l i 0)=U):=by rw[← hU];exact UY (by rw[qx _ _ (by omega),HZ.out.2];rfl)
   rw[hU,← Gi.out]at hO;have HI:=Hh (And.intro hi (show i/4=c∧i%4=r by have:=Yl.out;omega));clear hU hi Gi;go_wp2_with fail
   go_loopw [15] (fun v15 wy=>∃ k:Nat,v15=.int .i64 (k:Int)∧k≤4∧Blk wy (w.heap.size+1+1+1) 85 (zr (U.set i (tI l i k)))∧Blk wy (w.heap.size+1+1) 85 (zr Z)∧Blk wy (w.heap.size+1) 167 rG∧Blk wy w.heap.size 85 (zr l)∧Below w.heap.size w wy) (fun v15 _=>(4-intOf v15).toNat)
   case atStart=>exact⟨0,rfl,by omega,hO,hT,hM,hA,hb⟩
   case round =>
   clear hO hT hM hA hb;obtain⟨k,rfl,hk,hO,hT,hM,hA,hb⟩:=hrel
   by_cases dp:(k:Int)<4
   ·obtain⟨e,he⟩:∃ e,k+4-r=e:=⟨_,rfl⟩
    obtain⟨q,hq⟩:∃ q,e%4=q:=⟨_,rfl⟩
    obtain⟨x,hx⟩:∃ x,c4+k=x:=⟨_,rfl⟩
    have W2:IntKind.i64.wrap ((c4:Int)+(k:Int))=(x:Int):=by rw[← Int.natCast_add,hx];exact zP (by have:=Yl.out;omega)
    have W3:IntKind.i64.wrap ((k:Int)-(r:Int))=(k:Int)-(r:Int):=IntWalk.i64_in _ (by omega);have W4:IntKind.i64.wrap ((k:Int)-(r:Int)+4)=(e:Int):=by rw[show(k:Int)-(r:Int)+4=((k+4-r:Nat):Int) by omega,he];exact zP (by omega)
    have t3:(e:Int).tmod 4=(q:Int):=by rw[← hq];exact(Int.ofNat_tmod e 4).symm
    have lx:(x:Int)<16:=by have:=Yl.out;omega
    have lq:(q:Int)<4:=by omega
    obtain⟨u,hu⟩:∃ u,at_ l x=u:=⟨_,rfl⟩
    obtain⟨m,hm⟩:∃ m,[2,3,1,1].getD q 0=m:=⟨_,rfl⟩
    obtain⟨p,hp⟩:∃ p,tI l i k=p:=⟨_,rfl⟩
    have HV:Hid (tI l i (k+1)=p ^^^ sB u m):=by
     have h1:=HI.out;have h2:=Yl.out;rw[Hid,tI,hp,dN,h1.2.1,h1.2.2,h2,hx,he,hq,hu,hm]
    have c0:=hA.drew.cell x (zK _ _ (by have:=HL.out;omega));have c1:=hM.drew.cell q (f9 (by omega));have c2:=hO.drew.cell i (zK _ _ (by rw[List.length_set,HU.out];omega));have Yv:=ae (show q<4 by omega);rw[show at_ (U.set i (tI l i k)) i=tI l i k by simp[at_,List.getD_eq_getElem?_getD,show i<U.length by rw[HU.out];omega],hp]at c2;rw[hu]at c0;rw[hm]at c1 Yv;have PR:=Hh (gP u m Yv);have X:=Hh (yn p (sB u m));clear he hq hx hu hm hp Yv;go_upto_region 11 with fail
    refine zw 22 (fun wx=>wx.cell? ⟨w.heap.size,x,none⟩=some (zv u)∧wx.cell? ⟨w.heap.size+1,q,none⟩=some (.int .u8 (m:Int))∧wx.cell? ⟨w.heap.size+1+1+1,i,none⟩=some (zv p)) (by kernel_rfl) (⟨c0,c1,c2⟩) (fun zy=>?_)
    refine Tk 0 rfl zy ?_
    refine Tk 1 rfl zy ?_
    refine Tk 2 rfl zy ?_
    refine Tk 3 rfl zy ?_
    refine Tk 4 rfl zy ?_
    refine Tk 5 rfl zy ?_
    refine Tk 6 rfl zy ?_
    refine Tk 7 rfl zy ?_
    refine Tk 8 rfl zy ?_
    refine Tk 9 rfl zy ?_
    refine Tk 10 rfl zy ?_
    refine Tk 11 rfl zy ?_
    refine Tk 12 rfl zy ?_
    refine Tk 13 rfl zy ?_
    refine Tk 14 rfl zy ?_
    refine Tk 15 rfl zy ?_
    refine Tk 16 rfl zy ?_
    refine Tk 17 rfl zy ?_
    refine Tk 18 rfl zy ?_
    refine To 19 rfl fun K hK=>?_
    go_simp
    refine(PR.out _).mono ?_
    rintro e w7 ⟨rfl,rfl⟩
    clear zy
    refine hK.out _ _ (fun _=>?_) (fun zy=>?_)
    ·exact⟨c0,c1,c2⟩
    clear hK K;replace zy:=zy (by decide)
    try simp only[Act.put,zz1,zz2,zz3,zz4,zz5,zz6]
    refine Tk 20 rfl zy ?_
    refine Tk 21 rfl zy ?_
    refine To 22 rfl fun K hK=>?_
    rw[if_pos (by rfl)]
    refine yW _ _ _ rfl (w.heap.size+1+1+1) i (zv (p ^^^ sB u m)) rfl (by show Value.int .u8 (bits .xor .u8 (p.toNat:Int) ((sB u m).toNat:Int))=_;rw[X.out]) _ _ hO.drew yM (by rw[zo,List.length_set,HU.out];omega) rfl fun w9 je xr=>?_
    refine Kz hK ?_
    clear hK K
    refine Wd ?_
    clear zy;rw[xl,av,← HV.out]at je;have pC:=hT.drew.gr xr (by omega);have RE:=hM.drew.gr xr (by omega);have J8:=hA.drew.gr xr (by omega);have rC:=hb.drew.grown xr hb.drew.size (by rintro q ⟨⟩;omega);clear xr c0 c1 c2 hO hT hM hA hb t3 W2 W3 W4 lx lq PR X;go_wp2_with fail
    go_roundw
    case rel=>exact⟨k+1,by go_num,by omega,je,pC,RE,J8,rC⟩
    case measure=>simp[intOf];omega
   obtain rfl:k=4:=by omega
   rw[show((4:Nat):Int)=4 from rfl]at dp⊢;rw[S1.out]at hO;clear W1 dp nS;go_wp2_with fail
   go_roundw
   case rel=>exact⟨r+1,by go_num,by omega,by rw[← Nat.add_assoc,HI.out.1];exact hO,hT,hM,hA,hb⟩
   case measure=>simp[intOf];omega
  obtain rfl:r=4:=by omega
  rw[show((4:Nat):Int)=4 from rfl]at hrt⊢;clear W0 hrt;go_wp2_with fail
  go_roundw
  case rel=>exact⟨c+1,by go_num,by omega,by have h:=Yl.out;rw[show 4*(c+1)=c4+4 by omega];exact hO,hT,hM,hA,hb⟩
  case measure=>simp[intOf];omega
 obtain rfl:c=4:=by omega
 rw[show((4:Nat):Int)=4 from rfl]at zB⊢;rw[show 4*4=16 from rfl,uU,← eM]at hO;obtain⟨R,hR⟩:∃ R,vq l=R:=⟨_,rfl⟩
 have HR:Hid (R.length=16∧vq l=R):=⟨by rw[← hR,vq];simp,hR⟩
 rw[hR]at hO;clear zB hR;go_wp2_with (with_reducible refine wU 85 ?_)
 refine zN rfl _ _ rfl (w.heap.size+1+1+1) 0 16 rfl hO (by rw[HR.out.1];omega) _ Tryz.underlying85 rfl (by kernel_rfl) ?_
 rw[xm HR.out.1];go_wp2_with (with_reducible refine zx ?_)
 refine yA rfl _ _ _ rfl rfl (w.heap.size+1+1) 0 R rfl rfl hT (by rw[HR.out.1];kernel_rfl) (by rw[HR.out.1,HZ.out.1];omega) fun w8 bO hg8=>?_
 rw[qv (by rw[HR.out.1,HZ.out.1])]at bO;have rm:=hb.grown hg8 hb.size (by rintro q ⟨⟩;omega);clear hO hT hM hA hb hg8;go_wp2_with fail
 exact zR rfl rfl bO rfl rfl (by rw[zo,HR.out.1];kernel_rfl) rfl ⟨by rw[HR.out.2],rm⟩
end Go.Proofs.YtliomcphdnppnaaGreatDoor
