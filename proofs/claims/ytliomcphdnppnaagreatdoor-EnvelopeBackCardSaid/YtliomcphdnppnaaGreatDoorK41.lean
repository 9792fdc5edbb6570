/- squeezed. Walks: the state of AES, by the pr -/
import Derived.Test.YtliomcphdnppnaaGreatDoorK40
set_option linter.unusedVariables false
set_option linter.unusedSimpArgs false
set_option maxRecDepth 100000
set_option maxHeartbeats 6400000
namespace Go.Proofs.YtliomcphdnppnaaGreatDoor
open Go.RowKit
theorem jcl{P:Prop}(h:P:=by
 go_wp2_with fail
 go_end0
 exact⟨⟨_,rfl⟩,hB,hg⟩):P:=h
theorem jeL{P:Prop}(h:P:=by
 obtain rfl:i=16:=by omega
 rw[show((16:Nat):Int)=16 from rfl]at yu⊢;rw[lW]at hB;exact jcl):P:=h
theorem fg {n i:Nat}(f:Nat→UInt8) (a:List UInt8) (h:i<n):at_ (te n f a i) i=at_ a i:=O9 f a (Nat.le_refl i) h
theorem TQ {g:Nat}{t:TypeId}{l k:List UInt8}(hl:l.length=16) (hk:k.length=16) (w:World) (hB:Blk w g t (zf l)) :
  Calls Tryz.prog 152 #[.pointer (some ⟨g,0,none⟩),.agg (zf k)] w fun e w'=>(∃ v,e=.returned v)∧Blk w' g t (zf (rs l k))∧w.grownBy w' (some g):=by
 have hK:=Blk.new w 123 (zf k);have gm:w.grownBy (w.alloc (.cells (zf k) 123)) (some g):=xZ (ym w _) _;have yu:=hB.lt;replace hB:=hB.alloc (.cells (zf k) 123);rw[← qT (fun i=>at_ l i ^^^ at_ k i) hl]at hB;have HL:=Hh (And.intro hl (And.intro hk yu));clear hl hk yu;go_enter Tryz.func152,Tryz.ntmps152
 go_wp2_with fail
 go_loopw [5] (fun v5 wr=>∃ i:Nat,v5=.int .i64 (i:Int)∧i≤16∧Blk wr g t (zf (te 16 (fun i=>at_ l i ^^^ at_ k i) l i))∧Blk wr w.heap.size 123 (zf k)∧w.grownBy wr (some g)) (fun v5 _=>(16-intOf v5).toNat)
 case atStart=>exact⟨0,rfl,by omega,hB,hK,gm⟩
 case round =>
 clear hB hK gm;obtain⟨i,rfl,hi,hB,hK,hg⟩:=hrel
 by_cases yu:(i:Int)<16
 ·have c0:=hB.drew.cell i (xf _ _ (by rw[tN];omega));have c1:=hK.drew.cell i (xf _ _ (by have:=HL.out;omega));rw[fg _ _ (by omega)]at c0;obtain⟨u,hu⟩:∃ u,at_ l i=u:=⟨_,rfl⟩
  obtain⟨v,hv⟩:∃ v,at_ k i=v:=⟨_,rfl⟩
  have X:=Hh (wE u v);have S1:=Hh (qS (n:=16) (i:=i) (fun i=>at_ l i ^^^ at_ k i) l (by omega))
  simp only[hu,hv]at S1
  rw[hu]at c0;rw[hv]at c1;clear hu hv;go_upto_region 4 with fail
  refine zw 11 (fun wx=>wx.cell? ⟨g,i,none⟩=some (zm u)∧wx.cell? ⟨w.heap.size,i,none⟩=some (zm v)) (by kernel_rfl) (⟨c0,c1⟩) (fun zy=>?_)
  refine Tk 0 rfl zy ?_
  refine Tk 1 rfl zy ?_
  refine Tk 2 rfl zy ?_
  refine Tk 3 rfl zy ?_
  refine Tk 4 rfl zy ?_
  refine Tk 5 rfl zy ?_
  refine Tk 6 rfl zy ?_
  refine Tk 7 rfl zy ?_
  refine Tk 8 rfl zy ?_
  refine Tk 9 rfl zy ?_
  refine Tk 10 rfl zy ?_
  refine To 11 rfl fun K hK=>?_
  rw[if_pos (by rfl)]
  refine xt _ _ _ rfl g i (zm (u ^^^ v)) rfl (by show Value.int .u8 (bits .xor .u8 (u.toNat:Int) (v.toNat:Int))=_;rw[X.out]) _ _ hB.drew wD (by rw[zX,tN];omega) rfl fun w9 fR xR=>?_
  refine Kz hK ?_
  clear hK K
  refine Wd ?_
  clear zy;rw[ut,S1.out]at fR;have zAP:=hK.drew.grown xR (by intro e;injection e with e;have:=HL.out;omega);have xW:=zK (vG hg) xR (.inl rfl);clear xR c0 c1 hB hK hg S1 X;go_wp2_with fail
  go_roundw
  case rel=>exact⟨i+1,by go_num,by omega,fR,zAP,xW⟩
  case measure=>simp[intOf];omega
 exact jeL
theorem vN {n:Nat}(h:n≤1000000):IntKind.i64.wrap (n:Int)=(n:Int):=IntWalk.i64_in _ (by omega)
theorem Qd {g:Nat}{t:TypeId}{l:List UInt8}(hl:l.length=16) {bg:Nat}{tb:TypeId}{L:List UInt8}(hL:256≤L.length) (vl:bg≠g) (w:World) (hB:Blk w g t (zf l)) (hS:Blk w bg tb (zf L)) :
  Calls Tryz.prog 153 #[.pointer (some ⟨g,0,none⟩),.pointer (some ⟨bg,0,none⟩),.int .i64 1] w fun e w'=>(∃ v,e=.returned v)∧Blk w' g t (zf (ua L l))∧w.grownBy w' (some g):=by
 have hz:=Blk.new w 123 (zf (List.replicate 16 0));have gm:w.grownBy (w.alloc (.cells (zf (List.replicate 16 0)) 123)) (some g):=xZ (ym w _) _;have sU:Hid (g<w.heap.size∧bg<w.heap.size):=⟨hB.lt,hS.lt⟩
 have xX:=hB.alloc (.cells (zf (List.replicate 16 0)) 123);replace hS:=hS.alloc (.cells (zf (List.replicate 16 0)) 123);rw[← qT (mR L l) hl]at xX;have HL:=Hh (And.intro hl (And.intro hL vl));clear hL vl;go_enter Tryz.func153,Tryz.ntmps153
 go_wp2_with (with_reducible refine tE 123 ?_)
 refine yM rfl _ _ rfl g 0 16 rfl hB (by omega) _ Tryz.underlying123 rfl (by kernel_rfl) ?_
 rw[uu hl];go_wp2_with (with_reducible refine zx ?_)
 refine zv rfl _ _ _ rfl rfl w.heap.size (zf l) rfl rfl _ _ hz (by rw[zX,hl];kernel_rfl) (by rw[zX,hl];rfl) (xI _) fun w2 hO sv=>?_
 replace xX:=xX.grown sv (by intro e;injection e with e;have:=sU.out;omega);replace hS:=hS.grown sv (by intro e;injection e with e;have:=sU.out;omega);replace gm:=zK gm sv (.inr ⟨_,rfl,Nat.le_refl _⟩);clear hB hl hz sv;go_wp2_with fail
 go_loopw [13] (fun v13 wr=>∃ i:Nat,v13=.int .i64 (i:Int)∧i≤16∧Blk wr g t (zf (te 16 (mR L l) l i))∧Blk wr w.heap.size 123 (zf l)∧Blk wr bg tb (zf L)∧w.grownBy wr (some g)) (fun v13 _=>(16-intOf v13).toNat)
 case atStart=>exact⟨0,rfl,by omega,xX,hO,hS,gm⟩
 case round =>
 clear xX hO hS gm;obtain⟨i,rfl,hi,hB,hO,hS,hg⟩:=hrel
 by_cases yu:(i:Int)<16
 ·obtain⟨r,hr⟩:∃ r,i%4=r:=⟨_,rfl⟩
  obtain⟨c,hc⟩:∃ c,i/4=c:=⟨_,rfl⟩
  obtain⟨e,he⟩:∃ e,c+r=e:=⟨_,rfl⟩
  obtain⟨q,hq⟩:∃ q,e%4=q:=⟨_,rfl⟩
  obtain⟨f,hf⟩:∃ f,4*q=f:=⟨_,rfl⟩
  obtain⟨x,hx⟩:∃ x,r+f=x:=⟨_,rfl⟩
  have t1:(i:Int).tmod 4=(r:Int):=by rw[← hr];exact(Int.ofNat_tmod i 4).symm
  have t2:(i:Int).tdiv 4=(c:Int):=by rw[← hc];exact(Int.ofNat_tdiv i 4).symm
  have t1':(i:Int)%4=(r:Int):=by rw[← hr];omega
  have t2':(i:Int)/4=(c:Int):=by rw[← hc];omega
  have W0:IntKind.i64.wrap (r:Int)=(r:Int):=vN (by omega);have W1:IntKind.i64.wrap ((c:Int)+(r:Int))=(e:Int):=by rw[← Int.natCast_add,he];exact vN (by omega)
  have t3:(e:Int).tmod 4=(q:Int):=by rw[← hq];exact(Int.ofNat_tmod e 4).symm
  have t3':(e:Int)%4=(q:Int):=by rw[← hq];omega
  have W2:IntKind.i64.wrap (4*(q:Int))=(f:Int):=by rw[show 4*(q:Int)=((4*q:Nat):Int) by omega,hf];exact vN (by omega)
  have W3:IntKind.i64.wrap ((r:Int)+(f:Int))=(x:Int):=by rw[← Int.natCast_add,hx];exact vN (by omega)
  have lx:(x:Int)<16:=by omega
  obtain⟨u,hu⟩:∃ u,at_ l x=u:=⟨_,rfl⟩
  obtain⟨v,hv⟩:∃ v,at_ L u.toNat=v:=⟨_,rfl⟩
  have lu:(u.toNat:Int)<256:=by have:=u.toNat_lt;omega
  have HV:Hid (mR L l i=v):=by rw[Hid,mR,hr,hc,he,hq,hf,hx,hu,hv]
  have c0:=hO.drew.cell x (xf _ _ (by have:=HL.out;omega));have c1:=hS.drew.cell u.toNat (xf _ _ (by have:=HL.out;omega));rw[hu]at c0;rw[hv]at c1;have S1:=Hh (qS (n:=16) (i:=i) (mR L l) l (by omega));rw[HV.out]at S1;clear hr hc he hq hf hx hu hv HV;go_upto_region 5 with fail
  refine zw 19 (fun wx=>wx.cell? ⟨w.heap.size,x,none⟩=some (zm u)∧wx.cell? ⟨bg,u.toNat,none⟩=some (zm v)) (by kernel_rfl) (⟨c0,c1⟩) (fun zy=>?_)
  refine Tk 0 rfl zy ?_
  refine Tk 1 rfl zy ?_
  refine Tk 2 rfl zy ?_
  refine Tk 3 rfl zy ?_
  refine Tk 4 rfl zy ?_
  refine Tk 5 rfl zy ?_
  refine Tk 6 rfl zy ?_
  refine Tk 7 rfl zy ?_
  refine Tk 8 rfl zy ?_
  refine Tk 9 rfl zy ?_
  refine Tk 10 rfl zy ?_
  refine Tk 11 rfl zy ?_
  refine Tk 12 rfl zy ?_
  refine Tk 13 rfl zy ?_
  refine Tk 14 rfl zy ?_
  refine Tk 15 rfl zy ?_
  refine Tk 16 rfl zy ?_
  refine Tk 17 rfl zy ?_
  refine Tk 18 rfl zy ?_
  refine To 19 rfl fun K hK=>?_
  rw[if_pos (by rfl)]
  refine xt _ _ _ rfl g i (zm v) rfl rfl _ _ hB.drew wD (by rw[zX,tN];omega) rfl fun w9 fR xR=>?_
  refine Kz hK ?_
  clear hK K
  refine Wd ?_
  clear zy;rw[ut,S1.out]at fR;have iV:=hO.drew.grown xR (by intro e;injection e with e;have:=sU.out;omega);have Z0:=hS.drew.grown xR (by intro e;injection e with e;exact HL.out.2.2 e.symm);have xW:=zK (vG hg) xR (.inl rfl);clear xR c0 c1 hB hO hS hg S1 t1 t2 t1' t2' t3 t3' W0 W1 W2 W3 lx lu;go_wp2_with fail
  go_roundw
  case rel=>exact⟨i+1,by go_num,by omega,fR,iV,Z0,xW⟩
  case measure=>simp[intOf];omega
 exact jeL
end Go.Proofs.YtliomcphdnppnaaGreatDoor
