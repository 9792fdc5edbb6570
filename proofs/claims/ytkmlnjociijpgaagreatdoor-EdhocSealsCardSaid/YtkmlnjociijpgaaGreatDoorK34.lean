/- squeezed. Walks: the state of AES, by the re -/
import Derived.Test.YtkmlnjociijpgaaGreatDoorK33
set_option linter.unusedVariables false
set_option linter.unusedSimpArgs false
set_option maxRecDepth 100000
set_option maxHeartbeats 6400000
namespace Go.Proofs.YtkmlnjociijpgaaGreatDoor
open Go.RowKit
def bU (w:World) (B off:Nat) (k:List UInt8):Prop:=∀ i,i<16→w.cell? ⟨B,off+i,none⟩=some (zu (at_ k i))
theorem lG {l k:List UInt8}(hl:l.length=16) {B off c:Nat}(hc:16≤c) (w:World) (hk:bU w B off k) :
  Calls Tryz.prog 166 #[.agg (zn l),.slice (some ⟨B,off,none⟩) 16 c] w fun e w'=>e=.returned (.agg (zn (xA l k)))∧Below w.heap.size w w':=by
 have hB:=(Blk.new w 122 (zn l)).alloc (.cells (zn (List.replicate 16 0)) 122);have hT:=Blk.new (w.alloc (.cells (zn l) 122)) 122 (zn (List.replicate 16 0));rw[za]at hT;have yB:=(zX w (.cells (zn l) 122))
 have zY:=yB.alloc yB.size (.cells (zn (List.replicate 16 0)) 122);rw[← wW (fun i=>at_ l i ^^^ at_ k i) hl]at hB;have HL:=Hh (And.intro hl hc);have HK:=Hh hk;clear hl hk yB;go_enter Tryz.func166,Tryz.ntmps166
 go_wp2_with fail
 go_loopw [6] (fun v6 wr=>∃ i:Nat,v6=.int .i64 (i:Int)∧i≤16∧Blk wr w.heap.size 122 (zn (wB 16 (fun i=>at_ l i ^^^ at_ k i) l i))∧Blk wr (w.heap.size+1) 122 (zn (List.replicate 16 0))∧Below w.heap.size w wr) (fun v6 _=>(16-intOf v6).toNat)
 case atStart=>exact⟨0,rfl,by omega,by rw[wW _ HL.out.1]at hB⊢;exact hB,hT,zY⟩
 case round =>
 clear hB hT zY;obtain⟨i,rfl,hi,hB,hT,hb⟩:=hrel
 by_cases z9:(i:Int)<16
 ·have c0:=hB.drew.cell i (zI _ _ (by rw[xJ];omega));have c1:=ua hb.drew (HK.out i (by omega));rw[pJ _ _ (by omega)]at c0;obtain⟨u,hu⟩:∃ u,at_ l i=u:=⟨_,rfl⟩
  obtain⟨v,hv⟩:∃ v,at_ k i=v:=⟨_,rfl⟩
  have X:=Hh (yx u v);have S1:=Hh (uy (n:=16) (i:=i) (fun i=>at_ l i ^^^ at_ k i) l (by omega))
  simp only[hu,hv]at S1
  rw[hu]at c0;rw[hv]at c1;have Av:(16:Int)≤(c:Int):=by have:=HL.out;omega
  clear hu hv;go_upto_region 4 with fail
  refine zr 9 (fun wx=>wx.cell? ⟨w.heap.size,i,none⟩=some (zu u)∧wx.cell? ⟨B,off+i,none⟩=some (zu v)) (by kernel_rfl) (⟨c0,c1⟩) (fun zy=>?_)
  refine Tk 0 rfl zy ?_
  refine Tk 1 rfl zy ?_
  refine Tk 2 rfl zy ?_
  refine Tk 3 rfl zy ?_
  refine Tk 4 rfl zy ?_
  refine Tk 5 rfl zy ?_
  refine Tk 6 rfl zy ?_
  refine Tk 7 rfl zy ?_
  refine Tk 8 rfl zy ?_
  refine To 9 rfl fun K hK=>?_
  rw[if_pos (by rfl)]
  refine zO _ _ _ rfl w.heap.size i (zu (u ^^^ v)) rfl (by show Value.int .u8 (bits .xor .u8 (u.toNat:Int) (v.toNat:Int))=_;rw[X.out]) _ _ hB.drew yH (by rw[zg,xJ];omega) rfl fun w9 iX xt=>?_
  refine Kz hK ?_
  clear hK K
  refine Wd ?_
  clear zy;rw[xS,S1.out]at iX;have uB:=hT.drew.gr xt (by omega);have xN:=hb.drew.grown xt hb.drew.size (by rintro q ⟨⟩;exact Nat.le_refl _);clear xt c0 c1 hB hT hb S1 X Av;go_wp2_with fail
  go_roundw
  case rel=>exact⟨i+1,by go_num,by omega,iX,uB,xN⟩
  case measure=>simp[intOf];omega
 obtain rfl:i=16:=by omega
 rw[show((16:Nat):Int)=16 from rfl];rw[tN]at hB;clear z9;obtain⟨R,hR⟩:∃ R,List.map (fun i=>at_ l i ^^^ at_ k i) (List.range 16)=R:=⟨_,rfl⟩
 have HR:Hid (R=xA l k∧R.length=16):=by rw[Hid,← hR];exact⟨rfl,by simp⟩
 rw[hR]at hB;clear hR;go_wp2_with (with_reducible refine vy 122 ?_)
 refine zM rfl _ _ rfl w.heap.size 0 16 rfl hB (by rw[HR.out.2];omega) _ Tryz.underlying122 rfl (by kernel_rfl) ?_
 rw[xT HR.out.2];go_wp2_with (with_reducible refine zx ?_)
 refine xy rfl _ _ _ rfl rfl (w.heap.size+1) 0 R rfl rfl hT (by rw[HR.out.2];kernel_rfl) (by rw[HR.out.2];simp) fun w8 tZ hg8=>?_
 rw[pH (by rw[HR.out.2];simp)]at tZ;have uk:=jgc;clear hB hT hb hg8;go_wp2_with fail
 exact xU rfl rfl tZ rfl rfl (by rw[zg,HR.out.2];kernel_rfl) rfl ⟨by rw[HR.out.1],uk⟩
end Go.Proofs.YtkmlnjociijpgaaGreatDoor
