/- squeezed. Walks: the state of AES, by the pr -/
import Derived.Test.YtkmlnjociijpgaaGreatDoorK05
set_option linter.unusedVariables false
set_option linter.unusedSimpArgs false
set_option maxRecDepth 100000
set_option maxHeartbeats 6400000
namespace Go.Proofs.YtkmlnjociijpgaaGreatDoor
open Go.RowKit
theorem jcj{P:Prop}(h:P:=by
 go_wp2_with fail
 go_end0
 exact⟨⟨_,rfl⟩,hB,hg⟩):P:=h
theorem jeF{P:Prop}(h:P:=by
 obtain rfl:i=16:=by omega
 rw[show((16:Nat):Int)=16 from rfl]at z9⊢;rw[tN]at hB;exact jcj):P:=h
theorem pJ {n i:Nat}(f:Nat→UInt8) (a:List UInt8) (h:i<n):at_ (wB n f a i) i=at_ a i:=Qc f a (Nat.le_refl i) h
theorem VY {g:Nat}{t:TypeId}{l k:List UInt8}(hl:l.length=16) (hk:k.length=16) (w:World) (hB:Blk w g t (zn l)) :
  Calls Tryz.prog 190 #[.pointer (some ⟨g,0,none⟩),.agg (zn k)] w fun e w'=>(∃ v,e=.returned v)∧Blk w' g t (zn (xA l k))∧w.grownBy w' (some g):=by
 have hK:=Blk.new w 155 (zn k);have iJ:w.grownBy (w.alloc (.cells (zn k) 155)) (some g):=rz (yN w _) _;have z9:=hB.lt;replace hB:=hB.alloc (.cells (zn k) 155);rw[← wW (fun i=>at_ l i ^^^ at_ k i) hl]at hB;have HL:=Hh (And.intro hl (And.intro hk z9));clear hl hk z9;go_enter Tryz.func190,Tryz.ntmps190
 go_wp2_with fail
 go_loopw [5] (fun v5 wr=>∃ i:Nat,v5=.int .i64 (i:Int)∧i≤16∧Blk wr g t (zn (wB 16 (fun i=>at_ l i ^^^ at_ k i) l i))∧Blk wr w.heap.size 155 (zn k)∧w.grownBy wr (some g)) (fun v5 _=>(16-intOf v5).toNat)
 case atStart=>exact⟨0,rfl,by omega,hB,hK,iJ⟩
 case round =>
 clear hB hK iJ;obtain⟨i,rfl,hi,hB,hK,hg⟩:=hrel
 by_cases z9:(i:Int)<16
 ·have c0:=hB.drew.cell i (zI _ _ (by rw[xJ];omega));have c1:=hK.drew.cell i (zI _ _ (by have:=HL.out;omega));rw[pJ _ _ (by omega)]at c0;obtain⟨u,hu⟩:∃ u,at_ l i=u:=⟨_,rfl⟩
  obtain⟨v,hv⟩:∃ v,at_ k i=v:=⟨_,rfl⟩
  have X:=Hh (yx u v);have S1:=Hh (uy (n:=16) (i:=i) (fun i=>at_ l i ^^^ at_ k i) l (by omega))
  simp only[hu,hv]at S1
  rw[hu]at c0;rw[hv]at c1;clear hu hv;go_upto_region 4 with fail
  refine zr 11 (fun wx=>wx.cell? ⟨g,i,none⟩=some (zu u)∧wx.cell? ⟨w.heap.size,i,none⟩=some (zu v)) (by kernel_rfl) (⟨c0,c1⟩) (fun zy=>?_)
  refine Tk 0 rfl zy ?_
  refine Tk 1 rfl zy ?_
  refine Tk 2 rfl zy ?_
  refine Tk 3 rfl zy ?_
  refine Tk 4 rfl zy ?_
  refine Tk 5 rfl zy ?_
  refine Tk 6 rfl zy ?_
  refine Tk 7 rfl zy ?_
  refine Tk 8 rfl zy ?_
  refine Tk 9 rfl zy ?_
  refine Tk 10 rfl zy ?_
  refine To 11 rfl fun K hK=>?_
  rw[if_pos (by rfl)]
  refine zO _ _ _ rfl g i (zu (u ^^^ v)) rfl (by show Value.int .u8 (bits .xor .u8 (u.toNat:Int) (v.toNat:Int))=_;rw[X.out]) _ _ hB.drew yH (by rw[zg,xJ];omega) rfl fun w9 iX xt=>?_
  refine Kz hK ?_
  clear hK K
  refine Wd ?_
  clear zy;rw[xS,S1.out]at iX;have Bx:=hK.drew.grown xt (by intro e;injection e with e;have:=HL.out;omega);have yn:=zG (sR hg) xt (.inl rfl);clear xt c0 c1 hB hK hg S1 X;go_wp2_with fail
  go_roundw
  case rel=>exact⟨i+1,by go_num,by omega,iX,Bx,yn⟩
  case measure=>simp[intOf];omega
 exact jeF
theorem zP {n:Nat}(h:n≤1000000):IntKind.i64.wrap (n:Int)=(n:Int):=IntWalk.i64_in _ (by omega)
theorem Sy {g:Nat}{t:TypeId}{l:List UInt8}(hl:l.length=16) {bg:Nat}{tb:TypeId}{L:List UInt8}(hL:256≤L.length) (xp:bg≠g) (w:World) (hB:Blk w g t (zn l)) (hS:Blk w bg tb (zn L)) :
  Calls Tryz.prog 191 #[.pointer (some ⟨g,0,none⟩),.pointer (some ⟨bg,0,none⟩),.int .i64 1] w fun e w'=>(∃ v,e=.returned v)∧Blk w' g t (zn (x8 L l))∧w.grownBy w' (some g):=by
 have hz:=Blk.new w 155 (zn (List.replicate 16 0));have iJ:w.grownBy (w.alloc (.cells (zn (List.replicate 16 0)) 155)) (some g):=rz (yN w _) _;have uH:Hid (g<w.heap.size∧bg<w.heap.size):=⟨hB.lt,hS.lt⟩
 have qF:=hB.alloc (.cells (zn (List.replicate 16 0)) 155);replace hS:=hS.alloc (.cells (zn (List.replicate 16 0)) 155);rw[← wW (ur L l) hl]at qF;have HL:=Hh (And.intro hl (And.intro hL xp));clear hL xp;go_enter Tryz.func191,Tryz.ntmps191
 go_wp2_with (with_reducible refine vy 155 ?_)
 refine zM rfl _ _ rfl g 0 16 rfl hB (by omega) _ Tryz.underlying155 rfl (by kernel_rfl) ?_
 rw[xT hl];go_wp2_with (with_reducible refine zx ?_)
 refine zm rfl _ _ _ rfl rfl w.heap.size (zn l) rfl rfl _ _ hz (by rw[zg,hl];kernel_rfl) (by rw[zg,hl];rfl) (ym _) fun w2 hO hg2=>?_
 replace qF:=qF.grown hg2 (by intro e;injection e with e;have:=uH.out;omega);replace hS:=hS.grown hg2 (by intro e;injection e with e;have:=uH.out;omega);replace iJ:=zG iJ hg2 (.inr ⟨_,rfl,Nat.le_refl _⟩);clear hB hl hz hg2;go_wp2_with fail
 go_loopw [13] (fun v13 wr=>∃ i:Nat,v13=.int .i64 (i:Int)∧i≤16∧Blk wr g t (zn (wB 16 (ur L l) l i))∧Blk wr w.heap.size 155 (zn l)∧Blk wr bg tb (zn L)∧w.grownBy wr (some g)) (fun v13 _=>(16-intOf v13).toNat)
 case atStart=>exact⟨0,rfl,by omega,qF,hO,hS,iJ⟩
 case round =>
 clear qF hO hS iJ;obtain⟨i,rfl,hi,hB,hO,hS,hg⟩:=hrel
 by_cases z9:(i:Int)<16
 ·obtain⟨r,hr⟩:∃ r,i%4=r:=⟨_,rfl⟩
  obtain⟨c,hc⟩:∃ c,i/4=c:=⟨_,rfl⟩
  obtain⟨e,he⟩:∃ e,c+r=e:=⟨_,rfl⟩
  obtain⟨q,hq⟩:∃ q,e%4=q:=⟨_,rfl⟩
  obtain⟨f,hf⟩:∃ f,4*q=f:=⟨_,rfl⟩
  obtain⟨x,hx⟩:∃ x,r+f=x:=⟨_,rfl⟩
  have t1:(i:Int).tmod 4=(r:Int):=by rw[← hr];exact(Int.ofNat_tmod i 4).symm
  have t2:(i:Int).tdiv 4=(c:Int):=by rw[← hc];exact(Int.ofNat_tdiv i 4).symm
  have t1':(i:Int)%4=(r:Int):=by rw[← hr];omega
  have t2':(i:Int)/4=(c:Int):=by rw[← hc];omega
  have W0:IntKind.i64.wrap (r:Int)=(r:Int):=zP (by omega);have W1:IntKind.i64.wrap ((c:Int)+(r:Int))=(e:Int):=by rw[← Int.natCast_add,he];exact zP (by omega)
  have t3:(e:Int).tmod 4=(q:Int):=by rw[← hq];exact(Int.ofNat_tmod e 4).symm
  have t3':(e:Int)%4=(q:Int):=by rw[← hq];omega
  have W2:IntKind.i64.wrap (4*(q:Int))=(f:Int):=by rw[show 4*(q:Int)=((4*q:Nat):Int) by omega,hf];exact zP (by omega)
  have W3:IntKind.i64.wrap ((r:Int)+(f:Int))=(x:Int):=by rw[← Int.natCast_add,hx];exact zP (by omega)
  have lx:(x:Int)<16:=by omega
  obtain⟨u,hu⟩:∃ u,at_ l x=u:=⟨_,rfl⟩
  obtain⟨v,hv⟩:∃ v,at_ L u.toNat=v:=⟨_,rfl⟩
  have lu:(u.toNat:Int)<256:=by have:=u.toNat_lt;omega
  have HV:Hid (ur L l i=v):=by rw[Hid,ur,hr,hc,he,hq,hf,hx,hu,hv]
  have c0:=hO.drew.cell x (zI _ _ (by have:=HL.out;omega));have c1:=hS.drew.cell u.toNat (zI _ _ (by have:=HL.out;omega));rw[hu]at c0;rw[hv]at c1;have S1:=Hh (uy (n:=16) (i:=i) (ur L l) l (by omega));rw[HV.out]at S1;clear hr hc he hq hf hx hu hv HV;go_upto_region 5 with fail
  refine zr 19 (fun wx=>wx.cell? ⟨w.heap.size,x,none⟩=some (zu u)∧wx.cell? ⟨bg,u.toNat,none⟩=some (zu v)) (by kernel_rfl) (⟨c0,c1⟩) (fun zy=>?_)
  refine Tk 0 rfl zy ?_
  refine Tk 1 rfl zy ?_
  refine Tk 2 rfl zy ?_
  refine Tk 3 rfl zy ?_
  refine Tk 4 rfl zy ?_
  refine Tk 5 rfl zy ?_
  refine Tk 6 rfl zy ?_
  refine Tk 7 rfl zy ?_
  refine Tk 8 rfl zy ?_
  refine Tk 9 rfl zy ?_
  refine Tk 10 rfl zy ?_
  refine Tk 11 rfl zy ?_
  refine Tk 12 rfl zy ?_
  refine Tk 13 rfl zy ?_
  refine Tk 14 rfl zy ?_
  refine Tk 15 rfl zy ?_
  refine Tk 16 rfl zy ?_
  refine Tk 17 rfl zy ?_
  refine Tk 18 rfl zy ?_
  refine To 19 rfl fun K hK=>?_
  rw[if_pos (by rfl)]
  refine zO _ _ _ rfl g i (zu v) rfl rfl _ _ hB.drew yH (by rw[zg,xJ];omega) rfl fun w9 iX xt=>?_
  refine Kz hK ?_
  clear hK K
  refine Wd ?_
  clear zy;rw[xS,S1.out]at iX;have wO:=hO.drew.grown xt (by intro e;injection e with e;have:=uH.out;omega);have j4:=hS.drew.grown xt (by intro e;injection e with e;exact HL.out.2.2 e.symm);have yn:=zG (sR hg) xt (.inl rfl);clear xt c0 c1 hB hO hS hg S1 t1 t2 t1' t2' t3 t3' W0 W1 W2 W3 lx lu;go_wp2_with fail
  go_roundw
  case rel=>exact⟨i+1,by go_num,by omega,iX,wO,j4,yn⟩
  case measure=>simp[intOf];omega
 exact jeF
end Go.Proofs.YtkmlnjociijpgaaGreatDoor
