/- squeezed. Walks: the references' List, Copy  -/
import Derived.Test.YtliomcphdnppnaaGreatDoorK13
import Derived.Test.YtliomcphdnppnaaGreatDoorK12
set_option linter.unusedVariables false
set_option linter.unusedSimpArgs false
set_option maxRecDepth 100000
set_option maxHeartbeats 1600000
namespace Go.Proofs.YtliomcphdnppnaaGreatDoor
open Go.RowKit
structure IsRowI (H:Snap) (A:Option Addr) (c:Nat) (l:List Itm):Prop where
 le:l.length≤c
 max:c≤9223372036854775807
 elems:0<l.length→∃ b off,A=some ⟨b,off,none⟩∧IsElems H b off l
theorem IsRowI.mono {H K:Snap}{A:Option Addr}{c:Nat}{l:List Itm}(h:IsRowI H A c l) (hl:H.le K):IsRowI K A c l :=
 ⟨h.le,h.max,fun h0=>by obtain⟨b,off,e,he⟩:=h.elems h0;exact⟨b,off,e,he.mono hl⟩⟩
theorem IsRowI.item {H:Snap}{A:Option Addr}{c:Nat}{l:List Itm}(h:IsRowI H A c l) (k:Int) (hk:0≤k∧k≤8) (n:Nat) (hn:n<18446744073709551616):IsItem H none 0 A c (.mk k n [] l):=by
 rw[IsItem]
 exact⟨⟨by omega,by omega,hn,h.le,h.max⟩,IsBytes.nil _,h.elems⟩
theorem IsItem.row {H:Snap}{ba:Option Addr}{bc:Nat}{ia:Option Addr}{ic:Nat}{x:Itm}(h:IsItem H ba bc ia ic x):IsRowI H ia ic x.items:=⟨h.bounds.2.2.2.2.2.1,h.bounds.2.2.2.2.2.2,h.items⟩
theorem Ui {H:Snap}{A:Option Addr}{c:Nat}{l:List Itm}(hr:IsRowI H A c l) (hm:ModestL l) (hl:l.length≤1099511627776) (w:World) (hH:Holds w H) :
  Calls Tryz.prog 46 #[.slice A l.length c] w fun e w'=>∃ v,e=.returned v∧Gives w H (.mk 4 0 [] l) v w':=by
 have hT:=Blk.new w 26 #[.int .i64 0,.int .u64 0,.slice none 0 0,.slice none 0 0];have hG:=(Grows.refl hH).alloc zT;have C:=Hh (nS (.mk 4 0 [] l) H 4 0 none 0 0 A l.length c _ (by rw[Modest];exact⟨by simp,hl,hm⟩) (hr.item 4 (by omega) 0 (by omega)).arg hG.holds);have yV:H w.heap.size=none:=hH.none_of_ge (Nat.le_refl _);go_enter Tryz.func46,Tryz.ntmps46
 go_wp2_with fail
 refine C.out.mono ?_
 rintro e w2 ⟨v,rfl,ba,bc,ia,ic,H2,rfl,xB,oe⟩
 have tm:=hT.below xB.below;have tr:=hG.trans xB;have uH:=xB.none yV hT.lt;clear C hG xB;go_wp2_with (with_reducible refine zx ?_)
 refine stI tm fun w3 Zf qF=>?_
 have yN:=tr.grownOwn uH (Nat.le_refl _) qF;go_wp2_with fail
 refine zO rfl rfl Zf rfl rfl zp rfl ?_
 exact⟨_,rfl,ba,bc,ia,ic,H2,rfl,yN,oe⟩
abbrev xG:Obj:=.cells (zF zn ⟨none,0,none,0⟩ zn ⟨none,0,none,0⟩) 28
def bJ (w:World) (H:Snap) (p u:Itm) (v:Value) (w':World):Prop :=
 ∃ (a b:Ad) (H':Snap),v=.agg (zF p a u b)∧Grows w H w' H'∧IsItem H' a.ba a.bc a.ia a.ic p∧IsItem H' b.ba b.bc b.ia b.ic u
theorem ap {H:Snap}{p u:Itm}(iq:Modest p) (cU:Modest u) {a b:Ad}(hp:IsItem H a.ba a.bc a.ia a.ic p) (hu:IsItem H b.ba b.bc b.ia b.ic u) (w:World) (hH:Holds w H) :
  Calls Tryz.prog 37 #[.agg (zF p a u b)] w fun e w'=>∃ v,e=.returned v∧bJ w H p u v w':=by
 have hB:=((Blk.new w 28 (zF p a u b)).alloc xG).drew;have hT:=(Blk.new (w.alloc (.cells (zF p a u b) 28)) 28 (zF zn ⟨none,0,none,0⟩ zn ⟨none,0,none,0⟩)).drew
 simp only[zr]at hT
 have hG:=(((Grows.refl hH).alloc (.cells (zF p a u b) 28)).alloc xG).drew;have yV:H (w.heap.size+1)=none:=hH.none_of_ge (by omega);go_enter Tryz.func37,Tryz.ntmps37
 go_upto_region 1 with fail
 refine zw 7 (fun w'=>w'.cell? ⟨w.heap.size,0,none⟩=some (.int .i64 p.kind)∧w'.cell? ⟨w.heap.size,1,none⟩=some (.int .u64 p.n)∧w'.cell? ⟨w.heap.size,2,none⟩=some (.slice a.ba p.bytes.length a.bc)∧w'.cell? ⟨w.heap.size,3,none⟩=some (.slice a.ia p.items.length a.ic)∧w'.cell? ⟨w.heap.size,4,none⟩=some (.int .i64 u.kind)∧w'.cell? ⟨w.heap.size,5,none⟩=some (.int .u64 u.n)∧w'.cell? ⟨w.heap.size,6,none⟩=some (.slice b.ba u.bytes.length b.bc)∧w'.cell? ⟨w.heap.size,7,none⟩=some (.slice b.ia u.items.length b.ic)) (by kernel_rfl) (⟨hB.cell 0 rfl,hB.cell 1 rfl,hB.cell 2 rfl,hB.cell 3 rfl,hB.cell 4 rfl,hB.cell 5 rfl,hB.cell 6 rfl,hB.cell 7 rfl⟩) (fun zy=>?_)
 refine Tk 0 rfl zy ?_
 refine Tk 1 rfl zy ?_
 refine Tk 3 rfl zy ?_
 refine Tk 4 rfl zy ?_
 refine To 2 rfl fun K hK=>?_
 go_simp
 refine(nS p H _ _ _ _ _ _ _ _ _ iq hp.arg hG.holds).mono ?_
 rintro e w3 ⟨v3,rfl,ka,kb,kc,kd,H3,rfl,yN,qK⟩
 have hB:=hB.below yN.below;have yV:=yN.none yV hT.lt;have hT:=hT.below yN.below
 refine Ko hK ?_ fun zy=>?_
 ·exact⟨hB.cell 0 rfl,hB.cell 1 rfl,hB.cell 2 rfl,hB.cell 3 rfl,hB.cell 4 rfl,hB.cell 5 rfl,hB.cell 6 rfl,hB.cell 7 rfl⟩
 clear hK K
 refine To 5 rfl fun K hK=>?_
 go_simp
 refine(nS u H3 _ _ _ _ _ _ _ _ _ cU (hu.mono yN.le).arg yN.holds).mono ?_
 rintro e w4 ⟨v4,rfl,la,lb,lc,ld,H4,rfl,xl,pz⟩
 have hB:=hB.below xl.below;have yV:=xl.none yV hT.lt;have hT:=hT.below xl.below;have hG:=(hG.trans yN).trans xl
 refine Ko hK ?_ fun zy=>?_
 ·exact⟨hB.cell 0 rfl,hB.cell 1 rfl,hB.cell 2 rfl,hB.cell 3 rfl,hB.cell 4 rfl,hB.cell 5 rfl,hB.cell 6 rfl,hB.cell 7 rfl⟩
 clear hK K
 refine Tk 6 rfl zy ?_
 refine To 7 rfl fun K hK=>?_
 rw[if_pos (by rfl)]
 refine zm _ _ _ rfl _ _ rfl rfl _ _ hT zN rfl (by kernel_rfl) fun w6 hT xX=>?_
 refine Kz hK ?_
 clear hK K
 refine Wd ?_
 try simp only[List.getElem_toArray,List.getElem_cons_zero,List.getElem_cons_succ,List.set_cons_zero,List.set_cons_succ]
 have tr:=hG.grownOwn yV (by omega) xX;go_wp2_with fail
 refine zO rfl rfl hT rfl rfl zN rfl ?_
 exact⟨_,rfl,⟨ka,kb,kc,kd⟩,⟨la,lb,lc,ld⟩,H4,rfl,tr,qK.mono xl.le,pz⟩
def Om (b:List UInt8):Except Nat (List UInt8×Nat) :=
 match fa b with
 | .err e=>.error e
 | .ok x k _=>if x.kind≠2∨x.bytes.length<1∨64<x.bytes.length then .error 4 else .ok (x.bytes,k)
def d4 (m:Int) (su:List Int) (gx cn:List UInt8) (b:List UInt8):Except Nat First :=
 match Oo b with
 | .error e=>.error e
 | .ok ext=>.ok ⟨m,su,gx,cn,ext⟩
def d3 (m:Int) (su:List Int) (gx:List UInt8) (b:List UInt8):Except Nat First :=
 match Xx b with
 | .error e=>.error e
 | .ok (c,k4)=>d4 m su gx c (b.drop k4)
def d2 (m:Int) (su:List Int) (b:List UInt8):Except Nat First :=
 match Om b with
 | .error e=>.error e
 | .ok (gx,k3)=>d3 m su gx (b.drop k3)
def d1 (m:Int) (b:List UInt8):Except Nat First :=
 match fa b with
 | .err e=>.error e
 | .ok y k2 _=>match Sn y with
  | .error e=>.error e
  | .ok l=>d2 m l (b.drop k2)
theorem fb (x:Int):∃ n:Nat,Ending.returned (Value.int .u64 (IntKind.u64.wrap x))=.returned (.int .u64 (n:Int))∧n<18446744073709551616:=by
 refine⟨(IntKind.u64.wrap x).toNat, ?_, ?_⟩
 ·rw[Int.toNat_of_nonneg (by rw[IntKind.wrap_u64];omega)]
 rw[IntKind.wrap_u64];omega
theorem um (op:BinOp) (a b:Int):∃ n:Nat,Ending.returned (Value.int .u64 (bits op .u64 a b))=.returned (.int .u64 (n:Int))∧n<18446744073709551616:=fb _
def ol (w:World) (e:Ending) (w':World):Prop:=(∃ n:Nat,e=.returned (.int .u64 (n:Int))∧n<18446744073709551616)∧w'=w
theorem ar (v:Nat) (hv:v<18446744073709551616) (w:World) :
  Calls Tryz.prog 118 #[.int .u64 (v:Int),.int .i64 5,.int .i64 10] w (ol w):=by
 have A2:bits .and .u64 (v:Int) 1023=((v%1024:Nat):Int):=uf v 10 (by omega) (by omega);have hM:v%1024≤1023:=by omega
 generalize v%1024=M at *
 have hz:¬ ((0:Int)<bits .and .u64 (v:Int) 1023/2048):=by rw[A2];omega
 have HZ:=Hh hz;clear A2 hM hz;go_enter Tryz.func118,Tryz.ntmps118
 go_wp2_with fail
 ·go_ret;exact⟨um ..,rfl⟩
 ·go_ret;exact⟨fb ..,rfl⟩
 ·go_loop [12] (fun v12=>∃ k:Nat,k≤10∧v12=.int .i64 (k:Int)) (fun v12=>10-(intOf v12).toNat)
  case atStart=>exact⟨0,by omega,rfl⟩
  case round =>
  obtain⟨k,hk,rfl⟩:=hrel
  rcases(by omega:k≤9∨k=10) with h | rfl
  ·have nz:(k:Int)+1≤10:=by omega
   have cS:(0:Int)≤(k:Int)+1:=by omega
   have GH:((k:Int)+1).toNat=k+1:=by omega
   go_wp2_with fail
   ·go_round
    case rel=>exact⟨k+1,by omega,by go_num⟩
    case measure=>simp[intOf];omega
   go_ret;exact⟨um ..,rfl⟩
  have hz:=HZ.out;go_wp2_with fail
  go_ret;exact⟨um ..,rfl⟩
 go_ret;exact⟨um ..,rfl⟩
theorem au (v:Nat) (hv:v<18446744073709551616) (w:World) :
  Calls Tryz.prog 118 #[.int .u64 (v:Int),.int .i64 8,.int .i64 23] w (ol w):=by
 have A2:bits .and .u64 (v:Int) 8388607=((v%8388608:Nat):Int):=uf v 23 (by omega) (by omega);have hM:v%8388608≤8388607:=by omega
 generalize v%8388608=M at *
 have hz:¬ ((0:Int)<bits .and .u64 (v:Int) 8388607/16777216):=by rw[A2];omega
 have HZ:=Hh hz;clear A2 hM hz;go_enter Tryz.func118,Tryz.ntmps118
 go_wp2_with fail
 ·go_ret;exact⟨um ..,rfl⟩
 ·go_ret;exact⟨fb ..,rfl⟩
 ·go_loop [12] (fun v12=>∃ k:Nat,k≤23∧v12=.int .i64 (k:Int)) (fun v12=>23-(intOf v12).toNat)
  case atStart=>exact⟨0,by omega,rfl⟩
  case round =>
  obtain⟨k,hk,rfl⟩:=hrel
  rcases(by omega:k≤22∨k=23) with h | rfl
  ·have nz:(k:Int)+1≤23:=by omega
   have cS:(0:Int)≤(k:Int)+1:=by omega
   have GH:((k:Int)+1).toNat=k+1:=by omega
   go_wp2_with fail
   ·go_round
    case rel=>exact⟨k+1,by omega,by go_num⟩
    case measure=>simp[intOf];omega
   go_ret;exact⟨um ..,rfl⟩
  have hz:=HZ.out;go_wp2_with fail
  go_ret;exact⟨um ..,rfl⟩
 go_ret;exact⟨um ..,rfl⟩
end Go.Proofs.YtliomcphdnppnaaGreatDoor
