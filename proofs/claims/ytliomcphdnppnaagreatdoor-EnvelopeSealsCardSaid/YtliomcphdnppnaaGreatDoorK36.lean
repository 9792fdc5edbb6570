/- squeezed. Walks: the state of AES, by the re -/
import Derived.Test.YtliomcphdnppnaaGreatDoorK35
set_option linter.unusedVariables false
set_option linter.unusedSimpArgs false
set_option maxRecDepth 100000
set_option maxHeartbeats 6400000
namespace Go.Proofs.YtliomcphdnppnaaGreatDoor
open Go.RowKit
def Sixteen (w:World) (B off:Nat) (k:List UInt8):Prop:=∀ i,i<16→w.cell? ⟨B,off+i,none⟩=some (zv (at_ k i))
theorem Sixteen.below {w w':World}{B off:Nat}{k:List UInt8}(h:Sixteen w B off k) (hb:Below w.heap.size w w'):Sixteen w' B off k:=fun i hi=>uV hb (h i hi)
theorem oC {l k:List UInt8}(hl:l.length=16) {B off c:Nat}(hc:16≤c) (w:World) (hk:Sixteen w B off k) :
  Calls Tryz.prog 145 #[.agg (zr l),.slice (some ⟨B,off,none⟩) 16 c] w fun e w'=>e=.returned (.agg (zr (xG l k)))∧Below w.heap.size w w':=by
 have hB:=(Blk.new w 85 (zr l)).alloc (.cells (zr (List.replicate 16 0)) 85);have hT:=Blk.new (w.alloc (.cells (zr l) 85)) 85 (zr (List.replicate 16 0));rw[zu]at hT;have xz:=(zq w (.cells (zr l) 85))
 have zH:=xz.alloc xz.size (.cells (zr (List.replicate 16 0)) 85);rw[← wl (fun i=>at_ l i ^^^ at_ k i) hl]at hB;have HL:=Hh (And.intro hl hc);have HK:=Hh hk;clear hl hk xz;go_enter Tryz.func145,Tryz.ntmps145
 go_wp2_with fail
 go_loopw [6] (fun v6 wr=>∃ i:Nat,v6=.int .i64 (i:Int)∧i≤16∧Blk wr w.heap.size 85 (zr (wW 16 (fun i=>at_ l i ^^^ at_ k i) l i))∧Blk wr (w.heap.size+1) 85 (zr (List.replicate 16 0))∧Below w.heap.size w wr) (fun v6 _=>(16-intOf v6).toNat)
 case atStart=>exact⟨0,rfl,by omega,by rw[wl _ HL.out.1]at hB⊢;exact hB,hT,zH⟩
 case round =>
 clear hB hT zH;obtain⟨i,rfl,hi,hB,hT,hb⟩:=hrel
 by_cases zB:(i:Int)<16
 ·have c0:=hB.drew.cell i (zK _ _ (by rw[xe];omega));have c1:=uV hb.drew (HK.out i (by omega));rw[qx _ _ (by omega)]at c0;obtain⟨u,hu⟩:∃ u,at_ l i=u:=⟨_,rfl⟩
  obtain⟨v,hv⟩:∃ v,at_ k i=v:=⟨_,rfl⟩
  have X:=Hh (yn u v);have S1:=Hh (vZ (n:=16) (i:=i) (fun i=>at_ l i ^^^ at_ k i) l (by omega))
  simp only[hu,hv]at S1
  rw[hu]at c0;rw[hv]at c1;have fq:(16:Int)≤(c:Int):=by have:=HL.out;omega
  clear hu hv;go_upto_region 4 with fail
  refine zw 9 (fun wx=>wx.cell? ⟨w.heap.size,i,none⟩=some (zv u)∧wx.cell? ⟨B,off+i,none⟩=some (zv v)) (by kernel_rfl) (⟨c0,c1⟩) (fun zy=>?_)
  refine Tk 0 rfl zy ?_
  refine Tk 1 rfl zy ?_
  refine Tk 2 rfl zy ?_
  refine Tk 3 rfl zy ?_
  refine Tk 4 rfl zy ?_
  refine Tk 5 rfl zy ?_
  refine Tk 6 rfl zy ?_
  refine Tk 7 rfl zy ?_
  refine Tk 8 rfl zy ?_
  refine To 9 rfl fun K hK=>?_
  rw[if_pos (by rfl)]
  refine yW _ _ _ rfl w.heap.size i (zv (u ^^^ v)) rfl (by show Value.int .u8 (bits .xor .u8 (u.toNat:Int) (v.toNat:Int))=_;rw[X.out]) _ _ hB.drew yM (by rw[zo,xe];omega) rfl fun w9 ly xr=>?_
  refine Kz hK ?_
  clear hK K
  refine Wd ?_
  clear zy;rw[xl,S1.out]at ly;have pC:=hT.drew.gr xr (by omega);have rC:=hb.drew.grown xr hb.drew.size (by rintro q ⟨⟩;exact Nat.le_refl _);clear xr c0 c1 hB hT hb S1 X fq;go_wp2_with fail
  go_roundw
  case rel=>exact⟨i+1,by go_num,by omega,ly,pC,rC⟩
  case measure=>simp[intOf];omega
 obtain rfl:i=16:=by omega
 rw[show((16:Nat):Int)=16 from rfl];rw[uU]at hB;clear zB;obtain⟨R,hR⟩:∃ R,List.map (fun i=>at_ l i ^^^ at_ k i) (List.range 16)=R:=⟨_,rfl⟩
 have HR:Hid (R=xG l k∧R.length=16):=by rw[Hid,← hR];exact⟨rfl,by simp⟩
 rw[hR]at hB;clear hR;go_wp2_with (with_reducible refine wU 85 ?_)
 refine zN rfl _ _ rfl w.heap.size 0 16 rfl hB (by rw[HR.out.2];omega) _ Tryz.underlying85 rfl (by kernel_rfl) ?_
 rw[xm HR.out.2];go_wp2_with (with_reducible refine zx ?_)
 refine yA rfl _ _ _ rfl rfl (w.heap.size+1) 0 R rfl rfl hT (by rw[HR.out.2];kernel_rfl) (by rw[HR.out.2];simp) fun w8 bO hg8=>?_
 rw[qv (by rw[HR.out.2];simp)]at bO;have rm:=hb.grown hg8 hb.size (by rintro q ⟨⟩;omega);clear hB hT hb hg8;go_wp2_with fail
 exact zR rfl rfl bO rfl rfl (by rw[zo,HR.out.2];kernel_rfl) rfl ⟨by rw[HR.out.1],rm⟩
end Go.Proofs.YtliomcphdnppnaaGreatDoor
