/- squeezed. Walks: the state of AES, by the pr -/
import Derived.Test.YtliomcphdnppnaaGreatDoorK26
set_option linter.unusedVariables false
set_option linter.unusedSimpArgs false
set_option maxRecDepth 100000
set_option maxHeartbeats 6400000
namespace Go.Proofs.YtliomcphdnppnaaGreatDoor
open Go.RowKit
theorem qx {n i:Nat}(f:Nat→UInt8) (a:List UInt8) (h:i<n):at_ (wW n f a i) i=at_ a i:=XP f a (Nat.le_refl i) h
theorem aW {g:Nat}{t:TypeId}{l k:List UInt8}(hl:l.length=16) (hk:k.length=16) (w:World) (hB:Blk w g t (zr l)) :
  Calls Tryz.prog 152 #[.pointer (some ⟨g,0,none⟩),.agg (zr k)] w fun e w'=>(∃ v,e=.returned v)∧Blk w' g t (zr (xG l k))∧w.grownBy w' (some g):=by
 have hK:=Blk.new w 123 (zr k);have mv:w.grownBy (w.alloc (.cells (zr k) 123)) (some g):=yL (yz w _) _;have zB:=hB.lt;replace hB:=hB.alloc (.cells (zr k) 123);rw[← wl (fun i=>at_ l i ^^^ at_ k i) hl]at hB;have HL:=Hh (And.intro hl (And.intro hk zB));clear hl hk zB;go_enter Tryz.func152,Tryz.ntmps152
 go_wp2_with fail
 go_loopw [5] (fun v5 wr=>∃ i:Nat,v5=.int .i64 (i:Int)∧i≤16∧Blk wr g t (zr (wW 16 (fun i=>at_ l i ^^^ at_ k i) l i))∧Blk wr w.heap.size 123 (zr k)∧w.grownBy wr (some g)) (fun v5 _=>(16-intOf v5).toNat)
 case atStart=>exact⟨0,rfl,by omega,hB,hK,mv⟩
 case round =>
 clear hB hK mv;obtain⟨i,rfl,hi,hB,hK,hg⟩:=hrel
 by_cases zB:(i:Int)<16
 ·have c0:=hB.drew.cell i (zK _ _ (by rw[xe];omega));have c1:=hK.drew.cell i (zK _ _ (by have:=HL.out;omega));rw[qx _ _ (by omega)]at c0;obtain⟨u,hu⟩:∃ u,at_ l i=u:=⟨_,rfl⟩
  obtain⟨v,hv⟩:∃ v,at_ k i=v:=⟨_,rfl⟩
  have X:=Hh (yn u v);have S1:=Hh (vZ (n:=16) (i:=i) (fun i=>at_ l i ^^^ at_ k i) l (by omega))
  simp only[hu,hv]at S1
  rw[hu]at c0;rw[hv]at c1;clear hu hv;go_upto_region 4 with fail
  refine zw 11 (fun wx=>wx.cell? ⟨g,i,none⟩=some (zv u)∧wx.cell? ⟨w.heap.size,i,none⟩=some (zv v)) (by kernel_rfl) (⟨c0,c1⟩) (fun zy=>?_)
  refine Tk 0 rfl zy ?_
  refine Tk 1 rfl zy ?_
  refine Tk 2 rfl zy ?_
  refine Tk 3 rfl zy ?_
  refine Tk 4 rfl zy ?_
  refine Tk 5 rfl zy ?_
  refine Tk 6 rfl zy ?_
  refine Tk 7 rfl zy ?_
  refine Tk 8 rfl zy ?_
  refine Tk 9 rfl zy ?_
  refine Tk 10 rfl zy ?_
  refine To 11 rfl fun K hK=>?_
  rw[if_pos (by rfl)]
  refine yW _ _ _ rfl g i (zv (u ^^^ v)) rfl (by show Value.int .u8 (bits .xor .u8 (u.toNat:Int) (v.toNat:Int))=_;rw[X.out]) _ _ hB.drew yM (by rw[zo,xe];omega) rfl fun w9 ly xr=>?_
  refine Kz hK ?_
  clear hK K
  refine Wd ?_
  clear zy;rw[xl,S1.out]at ly;have JD:=hK.drew.grown xr (by intro e;injection e with e;have:=HL.out;omega);have yY:=zD (vL hg) xr (.inl rfl);clear xr c0 c1 hB hK hg S1 X;go_wp2_with fail
  go_roundw
  case rel=>exact⟨i+1,by go_num,by omega,ly,JD,yY⟩
  case measure=>simp[intOf];omega
 obtain rfl:i=16:=by omega
 rw[show((16:Nat):Int)=16 from rfl]at zB⊢;rw[uU]at hB;go_wp2_with fail
 go_end0
 exact⟨⟨_,rfl⟩,hB,hg⟩
theorem zP {n:Nat}(h:n≤1000000):IntKind.i64.wrap (n:Int)=(n:Int):=IntWalk.i64_in _ (by omega)
theorem Z4 {g:Nat}{t:TypeId}{l:List UInt8}(hl:l.length=16) {bg:Nat}{tb:TypeId}{L:List UInt8}(hL:256≤L.length) (xg:bg≠g) (w:World) (hB:Blk w g t (zr l)) (hS:Blk w bg tb (zr L)) :
  Calls Tryz.prog 153 #[.pointer (some ⟨g,0,none⟩),.pointer (some ⟨bg,0,none⟩),.int .i64 1] w fun e w'=>(∃ v,e=.returned v)∧Blk w' g t (zr (xE L l))∧w.grownBy w' (some g):=by
 have hz:=Blk.new w 123 (zr (List.replicate 16 0));have mv:w.grownBy (w.alloc (.cells (zr (List.replicate 16 0)) 123)) (some g):=yL (yz w _) _;have rI:Hid (g<w.heap.size∧bg<w.heap.size):=⟨hB.lt,hS.lt⟩
 have yO:=hB.alloc (.cells (zr (List.replicate 16 0)) 123);replace hS:=hS.alloc (.cells (zr (List.replicate 16 0)) 123);rw[← wl (vU L l) hl]at yO;have HL:=Hh (And.intro hl (And.intro hL xg));clear hL xg;go_enter Tryz.func153,Tryz.ntmps153
 go_wp2_with (with_reducible refine wU 123 ?_)
 refine zN rfl _ _ rfl g 0 16 rfl hB (by omega) _ Tryz.underlying123 rfl (by kernel_rfl) ?_
 rw[xm hl];go_wp2_with (with_reducible refine zx ?_)
 refine zt rfl _ _ _ rfl rfl w.heap.size (zr l) rfl rfl _ _ hz (by rw[zo,hl];kernel_rfl) (by rw[zo,hl];rfl) (ym _) fun w2 hO qJ=>?_
 replace yO:=yO.grown qJ (by intro e;injection e with e;have:=rI.out;omega);replace hS:=hS.grown qJ (by intro e;injection e with e;have:=rI.out;omega);replace mv:=zD mv qJ (.inr ⟨_,rfl,Nat.le_refl _⟩);clear hB hl hz qJ;go_wp2_with fail
 go_loopw [13] (fun v13 wr=>∃ i:Nat,v13=.int .i64 (i:Int)∧i≤16∧Blk wr g t (zr (wW 16 (vU L l) l i))∧Blk wr w.heap.size 123 (zr l)∧Blk wr bg tb (zr L)∧w.grownBy wr (some g)) (fun v13 _=>(16-intOf v13).toNat)
 case atStart=>exact⟨0,rfl,by omega,yO,hO,hS,mv⟩
 case round =>
 clear yO hO hS mv;obtain⟨i,rfl,hi,hB,hO,hS,hg⟩:=hrel
 by_cases zB:(i:Int)<16
 ·obtain⟨r,hr⟩:∃ r,i%4=r:=⟨_,rfl⟩
  obtain⟨c,hc⟩:∃ c,i/4=c:=⟨_,rfl⟩
  obtain⟨e,he⟩:∃ e,c+r=e:=⟨_,rfl⟩
  obtain⟨q,hq⟩:∃ q,e%4=q:=⟨_,rfl⟩
  obtain⟨f,hf⟩:∃ f,4*q=f:=⟨_,rfl⟩
  obtain⟨x,hx⟩:∃ x,r+f=x:=⟨_,rfl⟩
  have t1:(i:Int).tmod 4=(r:Int):=by rw[← hr];exact(Int.ofNat_tmod i 4).symm
  have t2:(i:Int).tdiv 4=(c:Int):=by rw[← hc];exact(Int.ofNat_tdiv i 4).symm
  have t1':(i:Int)%4=(r:Int):=by rw[← hr];omega
  have t2':(i:Int)/4=(c:Int):=by rw[← hc];omega
  have W0:IntKind.i64.wrap (r:Int)=(r:Int):=zP (by omega);have W1:IntKind.i64.wrap ((c:Int)+(r:Int))=(e:Int):=by rw[← Int.natCast_add,he];exact zP (by omega)
  have t3:(e:Int).tmod 4=(q:Int):=by rw[← hq];exact(Int.ofNat_tmod e 4).symm
  have t3':(e:Int)%4=(q:Int):=by rw[← hq];omega
  have W2:IntKind.i64.wrap (4*(q:Int))=(f:Int):=by rw[show 4*(q:Int)=((4*q:Nat):Int) by omega,hf];exact zP (by omega)
  have W3:IntKind.i64.wrap ((r:Int)+(f:Int))=(x:Int):=by rw[← Int.natCast_add,hx];exact zP (by omega)
  have lx:(x:Int)<16:=by omega
  obtain⟨u,hu⟩:∃ u,at_ l x=u:=⟨_,rfl⟩
  obtain⟨v,hv⟩:∃ v,at_ L u.toNat=v:=⟨_,rfl⟩
  have lu:(u.toNat:Int)<256:=by have:=u.toNat_lt;omega
  have HV:Hid (vU L l i=v):=by rw[Hid,vU,hr,hc,he,hq,hf,hx,hu,hv]
  have c0:=hO.drew.cell x (zK _ _ (by have:=HL.out;omega));have c1:=hS.drew.cell u.toNat (zK _ _ (by have:=HL.out;omega));rw[hu]at c0;rw[hv]at c1;have S1:=Hh (vZ (n:=16) (i:=i) (vU L l) l (by omega));rw[HV.out]at S1;clear hr hc he hq hf hx hu hv HV;go_upto_region 5 with fail
  refine zw 19 (fun wx=>wx.cell? ⟨w.heap.size,x,none⟩=some (zv u)∧wx.cell? ⟨bg,u.toNat,none⟩=some (zv v)) (by kernel_rfl) (⟨c0,c1⟩) (fun zy=>?_)
  refine Tk 0 rfl zy ?_
  refine Tk 1 rfl zy ?_
  refine Tk 2 rfl zy ?_
  refine Tk 3 rfl zy ?_
  refine Tk 4 rfl zy ?_
  refine Tk 5 rfl zy ?_
  refine Tk 6 rfl zy ?_
  refine Tk 7 rfl zy ?_
  refine Tk 8 rfl zy ?_
  refine Tk 9 rfl zy ?_
  refine Tk 10 rfl zy ?_
  refine Tk 11 rfl zy ?_
  refine Tk 12 rfl zy ?_
  refine Tk 13 rfl zy ?_
  refine Tk 14 rfl zy ?_
  refine Tk 15 rfl zy ?_
  refine Tk 16 rfl zy ?_
  refine Tk 17 rfl zy ?_
  refine Tk 18 rfl zy ?_
  refine To 19 rfl fun K hK=>?_
  rw[if_pos (by rfl)]
  refine yW _ _ _ rfl g i (zv v) rfl rfl _ _ hB.drew yM (by rw[zo,xe];omega) rfl fun w9 ly xr=>?_
  refine Kz hK ?_
  clear hK K
  refine Wd ?_
  clear zy;rw[xl,S1.out]at ly;have gf:=hO.drew.grown xr (by intro e;injection e with e;have:=rI.out;omega);have Uq:=hS.drew.grown xr (by intro e;injection e with e;exact HL.out.2.2 e.symm);have yY:=zD (vL hg) xr (.inl rfl);clear xr c0 c1 hB hO hS hg S1 t1 t2 t1' t2' t3 t3' W0 W1 W2 W3 lx lu;go_wp2_with fail
  go_roundw
  case rel=>exact⟨i+1,by go_num,by omega,ly,gf,Uq,yY⟩
  case measure=>simp[intOf];omega
 obtain rfl:i=16:=by omega
 rw[show((16:Nat):Int)=16 from rfl]at zB⊢;rw[uU]at hB;go_wp2_with fail
 go_end0
 exact⟨⟨_,rfl⟩,hB,hg⟩
end Go.Proofs.YtliomcphdnppnaaGreatDoor
